/- The contracts and facts that the laws of this seat need, in one text (Rd, AbQ, TrA, RdT, Tr3). -/
import Derived.Test.YtpiahagjopediaaGreatX4
import Derived.Test.YtpiahagjopediaaGreatRows
set_option linter.all false
set_option maxHeartbeats 16000000
namespace Go.Ab
open Go.Proofs Go.Proofs.YtpiahagjopediaaGreat
theorem own:ownKnob Tryz.prog.godebug=none:=by kernel_rfl
theorem kids:Kids Tryz.prog (·< Tryz.prog.types.size):=kids_rows (by kernel_rfl) (by kernel_rfl)
theorem full:∀t e,t<Tryz.prog.types.size->Tryz.prog.underlying t=some (.slice e)->0<Tryz.prog.cellsOf e:=slices_full_of Tryz.prog (by kernel_rfl)
section
variable {H:Type}
theorem Jl:ko H Tryz.prog 3 (λi=>.val (.int .i64 i)) (λi=>IntKind.i64.min<=i∧i<=IntKind.i64.max) (λ_=>1):=ze Tryz.underlying3
theorem yJ:ko H Tryz.prog 27 (λl:List Int=>.sl (l.map λi=>.val (.int .i64 i))) (λl=>l.length<=9223372036854775807∧∀a∈l,IntKind.i64.min<=a∧a<=IntKind.i64.max) (λl=>(l.map λ_=>1).sum+1):=kM Tryz.underlying27 Jl
theorem Gc:ko H Tryz.prog 2 (λi=>.val (.int .i64 i)) (λi=>IntKind.i64.min<=i∧i<=IntKind.i64.max) (λ_=>1):=ze Tryz.underlying2
theorem ql:ko H Tryz.prog 26 (λl:List Int=>.sl (l.map λi=>.val (.int .i64 i))) (λl=>l.length<=9223372036854775807∧∀a∈l,IntKind.i64.min<=a∧a<=IntKind.i64.max) (λl=>(l.map λ_=>1).sum+1):=kM Tryz.underlying26 Gc
theorem Kc:ko H Tryz.prog 65 aU (λx=>(IntKind.i64.min<=x.1∧x.1<=IntKind.i64.max)∧IntKind.i64.min<=x.2∧x.2<=IntKind.i64.max) (λ_=>1):=by
 intro d h;obtain⟨ds,rfl,h1,h2⟩:=lY Tryz.underlying65 h;obtain⟨a,b,rfl⟩:=IG h1;obtain⟨x,rfl,hx⟩:=ju (H:=H) Tryz.underlying2 (h2 0 _ _ rfl rfl);obtain⟨y,rfl,hy⟩:=ju (H:=H) Tryz.underlying2 (h2 1 _ _ rfl rfl);exact⟨(x,y),by simp[eP,qY,fq,fL,dF],⟨hx,hy⟩,by simp[nN]⟩
theorem Jm:ko H Tryz.prog 22 (λl:List (Int×Int)=>.sl (l.map aU)) (λl=>l.length<=9223372036854775807∧∀x∈l,(IntKind.i64.min<=x.1∧x.1<=IntKind.i64.max)∧IntKind.i64.min<=x.2∧x.2<=IntKind.i64.max) (λl=>(l.map λ_=>1).sum+1):=kM Tryz.underlying22 Kc
theorem E7:ko H Tryz.prog 73 cW (λ_=>True) (λ_=>1):=by
 intro d h;obtain⟨ds,rfl,h1,h2⟩:=lY Tryz.underlying73 h;obtain⟨a0,a1,a2,a3,a4,a5,a6,a7,a8,a9,rfl⟩:=HF h1;obtain⟨x0,rfl⟩:=Bd (H:=H) Tryz.underlying9 (h2 0 _ _ rfl rfl);obtain⟨x1,rfl,_⟩:=ju (H:=H) Tryz.underlying3 (h2 1 _ _ rfl rfl);obtain⟨x2,rfl,_⟩:=ju (H:=H) Tryz.underlying3 (h2 2 _ _ rfl rfl);obtain⟨vx,vy,vz,rfl⟩:=Hu (H:=H) Tryz.underlying50 Tryz.underlying2 (d:=a3) (h2 3 _ _ rfl rfl);obtain⟨x4,rfl,_⟩:=ju (H:=H) Tryz.underlying2 (h2 4 _ _ rfl rfl);obtain⟨x5,rfl,_⟩:=ju (H:=H) Tryz.underlying2 (h2 5 _ _ rfl rfl);obtain⟨x6,rfl,_⟩:=ju (H:=H) Tryz.underlying2 (h2 6 _ _ rfl rfl);obtain⟨x7,rfl,_⟩:=ju (H:=H) Tryz.underlying2 (h2 7 _ _ rfl rfl);obtain⟨x8,rfl,_⟩:=ju (H:=H) Tryz.underlying2 (h2 8 _ _ rfl rfl);obtain⟨x9,rfl,_⟩:=ju (H:=H) Tryz.underlying2 (h2 9 _ _ rfl rfl);exact⟨⟨⟨x0.toArray⟩,x1,x2,vx,vy,vz,x4,x5,x6,x7,x8,x9⟩,by simp[eP,qY,fq,fL,dF],trivial,by simp[nN]⟩
theorem GB:ko H Tryz.prog 171 fc (λ_=>True) (λ_=>1):=by
 intro d h;obtain⟨ds,rfl,h1,h2⟩:=lY Tryz.underlying171 h;obtain⟨a0,a1,a2,rfl⟩:=FE h1;obtain⟨x0,rfl,_⟩:=ju (H:=H) Tryz.underlying3 (h2 0 _ _ rfl rfl);obtain⟨x1,rfl,_⟩:=ju (H:=H) Tryz.underlying2 (h2 1 _ _ rfl rfl);obtain⟨vx,vy,vz,rfl⟩:=Hu (H:=H) Tryz.underlying50 Tryz.underlying2 (d:=a2) (h2 2 _ _ rfl rfl);exact⟨⟨x0,x1,vx,vy,vz⟩,by simp[eP,qY,fq,fL,dF],trivial,by simp[nN]⟩
theorem Bc{H:Type}(d:DataW H)(l:List PV)(h:eP d=.sl l)(hf:∃n,fY Tryz.prog n 34 d∨fY Tryz.prog n 35 d):fq d=[.sl l]:=by
 obtain⟨n,hf⟩:=hf
 cases n with
 |zero=>rcases hf with hf|hf<;>exact hf.elim
 |succ n=>
  have key:d=.nil∨∃es sp,d=.slice es sp:=by
   rcases hf with hf|hf
   .simp only[fY,Tryz.underlying34]at hf
    rcases hf with rfl|⟨es,sp,rfl,_⟩
    .exact .inl rfl
    .exact .inr ⟨es,sp,rfl⟩
   .simp only[fY,Tryz.underlying35]at hf
    rcases hf with rfl|⟨es,sp,rfl,_⟩
    .exact .inl rfl
    .exact .inr ⟨es,sp,rfl⟩
  rcases key with rfl|⟨es,sp,rfl⟩
  .simp only[eP]at h;simp[fq,<-h]
  .simp only[eP]at h;simp[fq,<-h]
theorem E9:ko H Tryz.prog 37 (λr:List J×List Ms=>ja r.1 r.2) (λr=>r.1.length<=9223372036854775807∧r.2.length<=9223372036854775807) (λr=>r.1.length+r.2.length):=by
 intro d h;obtain⟨ds,rfl,h1,h2⟩:=lY Tryz.underlying37 h;obtain⟨a,b,rfl⟩:=IG h1;have ha:p6 Tryz.prog 34 a:=h2 0 _ _ rfl rfl;have hb:p6 Tryz.prog 35 b:=h2 1 _ _ rfl rfl;obtain⟨js,e1,q1,s1⟩:=kM (H:=H) Tryz.underlying34 E7 a ha;obtain⟨ms,e2,q2,s2⟩:=kM (H:=H) Tryz.underlying35 GB b hb;have f1:=Bc a _ e1 ⟨ha.choose,.inl ha.choose_spec⟩;have f2:=Bc b _ e2 ⟨hb.choose,.inr hb.choose_spec⟩;have l1:=qZ (λ_:J=>1) (λ_=>Nat.le_refl _) js;have l2:=qZ (λ_:Ms=>1) (λ_=>Nat.le_refl _) ms;refine⟨(js,ms),by simp[eP,qY,f1,f2,fL,dF],⟨q1.1,q2.1⟩,?_⟩;simp only at s1 s2;simp only[nN,oe];omega
end
end Go.Ab
namespace Go.Ab
variable {a i j n:Nat}{far:List Int}{r:List (Int×Int)}{v:Int}{α:Type}
theorem qk{m:Nat}(_:m=n)(a:Array Value):∀k,k<n->k<a.size+(n-a.size):=by intro k h;omega
theorem GL{P:Program}{g:FuncId}(h:dp P g:=by
 refine⟨by kernel_rfl,λargs w=>?_⟩;refine callsD_of_wpS hf rfl λc₀ cs hu=>?_;apply wpS_seq;apply wpS_region;have hk:=qk nt args;have h0:=hk 0 (by decide);have h1:=hk 1 (by decide);have h2:=hk 2 (by decide);simp[wpOpsS,go_sem,recoverD,hu,nt,Exit.thenS,h0,h1,h2];refine wpS_cond (t:=false) (by simp[Act.eval,h0,h1,h2]) ?_;simp only[Bool.false_eq_true,if_false];refine wpS_of_wp (wp_skip ?_);cases c₀
 simp_all[bodyPostS,results,rs]):dp P g:=h
theorem wY{P:Program}{g:FuncId}(h:dp P g:=by
 refine⟨by kernel_rfl,λargs w=>?_⟩;refine callsD_of_wpS hf rfl λc₀ cs hu=>?_;apply wpS_seq;apply wpS_region;have hk:=qk nt args;have h0:=hk 0 (by decide);have h1:=hk 1 (by decide);have h2:=hk 2 (by decide);have h3:=hk 3 (by decide);simp[wpOpsS,go_sem,recoverD,hu,nt,Exit.thenS,h0,h1,h2,h3];refine wpS_cond (t:=false) (by simp[Act.eval,h0,h1,h2,h3]) ?_;simp only[Bool.false_eq_true,if_false];refine wpS_of_wp (wp_skip ?_);cases c₀
 simp_all[bodyPostS,results,rs]):dp P g:=h
open Go.Proofs
structure Verd where
 kind:Int
 nor:List (Int×Int×Int)
 pair:Int
 left:List Int
 right:List Int
structure Cel where
 joint:Int
 low:Int
 high:Int
 v:Verd
structure Tr where
 root:List (Int×Int)
 cells:List Cel
variable {c:Cel}{t:Tr}
abbrev aR(v:Int×Int×Int):PV:=.val (.agg #[.int .i64 v.1,.int .i64 v.2.1,.int .i64 v.2.2])
abbrev bQ(l:List (Int×Int×Int)):PV:=.sl (l.map aR)
abbrev Jq(p:Int)(l r:List Int):PV:=.agg [Z p,zs l,zs r]
abbrev k7(v:Verd):PV:=.agg [Z v.kind,bQ v.nor,Z v.pair,zs v.left,zs v.right]
abbrev aW(c:Cel):PV:=.agg [Z c.joint,Z c.low,Z c.high,Z c.v.kind,bQ c.v.nor,Z c.v.pair,zs c.v.left,zs c.v.right]
abbrev da(t:Tr):PV:=.agg [iv t.root,.sl (t.cells.map aW)]
def cO(c:Cel):Bool:=c.joint==-1&&c.low==-1&&c.high==-1
def ji(p:Int)(l r:List Int):Bool:=p==0&&(l.length:Int)==0&&(r.length:Int)==0
def dW(v:Verd):Bool:=if v.kind=0∨v.kind=1 then ji v.pair v.left v.right else if v.kind=2 then((v.nor.length:Int)==0)else false
def mm(v:Verd):Bool:=v.kind==0&&((v.nor.length:Int)==0)&&ji v.pair v.left v.right
theorem BB(l:List α):((l.length:Int)==0)=decide (l.length=0):=by
 by_cases h:l.length=0
 .simp[h]
 .have:((l.length:Int)==0)=false:=by simp;intro h';exact h (by rw[h'];rfl)
  rw[this];simp[h]
theorem Gg(c:Cel):aa Tryz.prog 122 [.pv (aW c)] [] [] (.pv (B (cO c))):=by
 refine Dp Tryz.func122 ?_;intro C hP hN;simp only[Tryz.f122]at hN|-
 with_reducible repeat' (first|refine Sp.h ?_|((first|refine Ss.h ?_|(refine Sb.h ?_ ?_ ?_<;>(try intro hgd)<;>try exact Xy))<;>simp -implicitDefEqProofs (maxSteps:=2000000) [hP,hN])|refine X2 ?_ ?_|(refine Xd ?_ ?_<;>intro hcd<;>try exact Xx))
 all_goals (simp_all[cO])
theorem E4(c:Cel):aa Tryz.prog 95 [.pv (aW c)] [] [] (.pv (B (cO c))):=by
 refine Dp Tryz.func95 ?_;intro C hP hN;simp only[Tryz.f95]at hN|-
 with_reducible repeat' (first|refine Sp.h ?_|((first|refine Ss.h ?_|(refine Sb.h ?_ ?_ ?_<;>(try intro hgd)<;>try exact Xy))<;>simp -implicitDefEqProofs (maxSteps:=2000000) [hP,hN])|refine X2 ?_ ?_|(refine Xd ?_ ?_<;>intro hcd<;>try exact Xx))
 all_goals (simp_all[cO])
theorem Jr(p:Int)(l r:List Int):aa Tryz.prog 158 [.pv (Jq p l r)] [] [] (.pv (B (ji p l r))):=by
 refine Dp Tryz.func158 ?_;intro C hP hN;simp only[Tryz.f158]at hN|-
 with_reducible repeat' (first|refine Sp.h ?_|((first|refine Ss.h ?_|(refine Sb.h ?_ ?_ ?_<;>(try intro hgd)<;>try exact Xy))<;>simp -implicitDefEqProofs (maxSteps:=2000000) [hP,hN])|refine X2 ?_ ?_|(refine Xd ?_ ?_<;>intro hcd<;>try exact Xx))
 all_goals (simp_all[ji])
theorem Js(p:Int)(l r:List Int):aa Tryz.prog 144 [.pv (Jq p l r)] [] [] (.pv (B (ji p l r))):=by
 refine Dp Tryz.func144 ?_;intro C hP hN;simp only[Tryz.f144]at hN|-
 with_reducible repeat' (first|refine Sp.h ?_|((first|refine Ss.h ?_|(refine Sb.h ?_ ?_ ?_<;>(try intro hgd)<;>try exact Xy))<;>simp -implicitDefEqProofs (maxSteps:=2000000) [hP,hN])|refine X2 ?_ ?_|(refine Xd ?_ ?_<;>intro hcd<;>try exact Xx))
 all_goals (simp_all[ji])
theorem Ju(v:Verd):aa Tryz.prog 123 [.pv (k7 v)] [] [] (.pv (B (dW v))):=by
 have ce:=Jr v.pair v.left v.right;have h0:=BB v.nor;generalize hE:ji v.pair v.left v.right=E at ce;refine Dp Tryz.func123 ?_;intro C hP hN;simp only[Tryz.f123]at hN|-
 with_reducible repeat' (first|refine Sp.h ?_|((first|refine Ss.h ?_|refine Sc.h (ce) ?_|(refine Sb.h ?_ ?_ ?_<;>(try intro hgd)<;>try exact Xy))<;>simp -implicitDefEqProofs (maxSteps:=2000000) [hP,hN])|refine X2 ?_ ?_|(refine Xd ?_ ?_<;>intro hcd<;>try exact Xx))
 all_goals (simp_all[dW])
theorem KF(v:Verd):aa Tryz.prog 97 [.pv (k7 v)] [] [] (.pv (B (dW v))):=by
 have ce:=Js v.pair v.left v.right;have h0:=BB v.nor;generalize hE:ji v.pair v.left v.right=E at ce;refine Dp Tryz.func97 ?_;intro C hP hN;simp only[Tryz.f97]at hN|-
 with_reducible repeat' (first|refine Sp.h ?_|((first|refine Ss.h ?_|refine Sc.h (ce) ?_|(refine Sb.h ?_ ?_ ?_<;>(try intro hgd)<;>try exact Xy))<;>simp -implicitDefEqProofs (maxSteps:=2000000) [hP,hN])|refine X2 ?_ ?_|(refine Xd ?_ ?_<;>intro hcd<;>try exact Xx))
 all_goals (simp_all[dW])
theorem MW(v:Verd):aa Tryz.prog 146 [.pv (k7 v)] [] [] (.pv (B (mm v))):=by
 have ce:=Jr v.pair v.left v.right;generalize hE:ji v.pair v.left v.right=E at ce;refine Dp Tryz.func146 ?_;intro C hP hN;simp only[Tryz.f146]at hN|-
 with_reducible repeat' (first|refine Sp.h ?_|((first|refine Ss.h ?_|refine Sc.h (ce) ?_|(refine Sb.h ?_ ?_ ?_<;>(try intro hgd)<;>try exact Xy))<;>simp -implicitDefEqProofs (maxSteps:=2000000) [hP,hN])|refine X2 ?_ ?_|(refine Xd ?_ ?_<;>intro hcd<;>try exact Xx))
 all_goals (simp_all[mm])
theorem MX(v:Verd):aa Tryz.prog 143 [.pv (k7 v)] [] [] (.pv (B (mm v))):=by
 have ce:=Js v.pair v.left v.right;generalize hE:ji v.pair v.left v.right=E at ce;refine Dp Tryz.func143 ?_;intro C hP hN;simp only[Tryz.f143]at hN|-
 with_reducible repeat' (first|refine Sp.h ?_|((first|refine Ss.h ?_|refine Sc.h (ce) ?_|(refine Sb.h ?_ ?_ ?_<;>(try intro hgd)<;>try exact Xy))<;>simp -implicitDefEqProofs (maxSteps:=2000000) [hP,hN])|refine X2 ?_ ?_|(refine Xd ?_ ?_<;>intro hcd<;>try exact Xx))
 all_goals (simp_all[mm])
def dt(r:List (Int×Int)):Bool:=decide (1<=r.length)&&decide (r.length<=10)&&bi vI r
theorem MY(r:List (Int×Int)):aa Tryz.prog 145 [.pv (iv r)] [] [] (.pv (B (dt r))):=by
 by_cases h1:r.length<1
 .have hr:dt r=false:=by simp[dt];omega
  have h1':(r.length:Int)<1:=by omega
  rw[hr];refine Dp Tryz.func145 ?_;intro C hP hN;simp only[Tryz.f145]at hN|-;exact GS (gA h1' h1)
 have h1':¬(r.length:Int)<1:=by omega
 by_cases h2:10<r.length
 .have hr:dt r=false:=by simp[dt];omega
  have h2':(10:Int)<r.length:=by omega
  rw[hr];refine Dp Tryz.func145 ?_;intro C hP hN;simp only[Tryz.f145]at hN|-;exact GS (gA h1' (gA h1 (gA h2 h2')))
 have h2':¬(10:Int)<r.length:=by omega
 have hr:dt r=bi vI r:=by
  unfold dt
  have a1:decide (1<=r.length)=true:=by simp;omega
  have a2:decide (r.length<=10)=true:=by simp;omega
  rw[a1,a2];simp
 rw[hr];refine Dp Tryz.func145 ?_;intro C hP hN;simp only[Tryz.f145]at hN|-;refine GT (gA h1' (gA h1 (gA h2 h2'))) ?_;refine WP.loopN [4] r.length (λi st=>st.t 13=.pv (iv r)∧st.t 14=.pv (Z r.length)∧st.t 15=.pv (Z i)∧st.h 4=none∧bi vI (r.take i)=true) (by simp[bi]) ?_;rintro i st hi ⟨g13,g14,g15,hb,hq⟩;by_cases hlt:i<r.length
 .have hw:=au hlt (by omega)
  have hF:vI r[i]=false->bi vI r=false:=tw hlt;have hS:vI r[i]=true->bi vI (r.take (i+1))=true:=r4 hlt hq
  with_reducible repeat' (first|refine Sp.h ?_|((first|refine Ss.h ?_|refine Sc.h (iD _ _) ?_|(refine Sb.h ?_ ?_ ?_<;>(try intro hgd)<;>try exact Xy))<;>simp -implicitDefEqProofs (maxSteps:=2000000) [hP,hN,g13,g14,g15,hb,hlt,hw])|refine X2 ?_ ?_|(refine Xd ?_ ?_<;>intro hcd<;>try exact Xx))
  all_goals first|(rw[hF (by simpa using hcd)];done)|(simp[hF (by simpa using hcd)];done)|(simpa using hS (by simpa using hcd))
 .skip
  refine GT (gA g13 (gA g14 (gA g15 (gA hb hlt)))) ?_
  all_goals simp[r5 hlt hq]
theorem ey{p:α->Bool}{xs:List α}:bi p xs=true↔∀x∈xs,p x=true:=List.all_eq_true
abbrev Bx:=List (Int×Int)
variable {b:Bx}{x y:Option Bx}
abbrev OL:=List (Option Bx)
variable {L L':OL}
def nQ:Option Bx->PV
 |none=>.val (.slice none 0 0)
 |some b=>iv b
def jk(n i:Nat)(c:Cel):Bool:=decide ((i:Int)<c.low)&&decide (c.low<n)&&decide ((i:Int)<c.high)&&decide (c.high<n)&&decide (c.low≠c.high)&&mm c.v
def eM(n i:Nat)(c:Cel)(L:OL):Option OL:=
 match L[i]? with
 |some (some b)=>
  if cO c then(if dW c.v then some L else none)
  else if jk n i c then
   if br b c.joint then
    match L[c.low.toNat]?,L[c.high.toNat]? with
    |some none,some none=>some ((L.set c.low.toNat (some (cF b c.joint))).set c.high.toNat (some (cG b c.joint)))
    |_,_=>none
   else none
  else none
 |_=>none
def kG(n:Nat):List Cel->Nat->OL->Option OL
 |[],_,L=>some L
 |c::cs,i,L=>match eM n i c L with
  |some L'=>kG n cs (i+1) L'
  |none=>none
def iJ(t:Tr):OL:=some t.root::List.replicate (t.cells.length-1) none
def fH(t:Tr):Bool:=decide (1<=t.cells.length)&&decide (t.cells.length<=2048)&&dt t.root
def cK(t:Tr):Option OL:=if fH t then kG t.cells.length t.cells 0 (iJ t)else none
def ay(t:Tr):Bool:=(cK t).isSome
def ao(t:Tr):List Bx:=match cK t with
 |some L=>L.map λx=>x.getD []
 |none=>[]
theorem gC(h:eM n i c L=some L'):∃b,L[i]?=some (some b)∧
 ((cO c=true∧dW c.v=true∧L'=L)∨
  (cO c=false∧jk n i c=true∧br b c.joint=true∧L[c.low.toNat]?=some none∧L[c.high.toNat]?=some none∧
    L'=(L.set c.low.toNat (some (cF b c.joint))).set c.high.toNat (some (cG b c.joint)))):=by
 unfold eM at h;split at h
 .rename_i b hb
  refine⟨b,hb,?_⟩;split at h
  .rename_i hl
   split at h
   .rename_i hf
    injection h with h;exact .inl ⟨hl,hf,h.symm⟩
   .cases h
  .rename_i hl
   split at h
   .rename_i hi
    split at h
    .rename_i hh
     split at h
     .rename_i h1 h2
      injection h with h;exact .inr ⟨by simpa using hl,hi,hh,h1,h2,h.symm⟩
     .cases h
    .cases h
   .cases h
 .cases h
theorem fN:jk n i c=true↔(i:Int)<c.low∧c.low<n∧(i:Int)<c.high∧c.high<n∧c.low≠c.high∧mm c.v=true:=by
 simp[jk,and_assoc]
theorem BC{n:Nat}{P:Nat->OL->Prop}:∀(cs:List Cel)(i:Nat)(L L':OL),kG n cs i L=some L'->P i L->
 (∀k c L L',cs[k]?=some c->P (i+k) L->eM n (i+k) c L=some L'->P (i+k+1) L')->P (i+cs.length) L'
 |[],i,L,L',h,h0,_=>by simp[kG]at h;subst h;exact h0
 |c::cs,i,L,L',h,h0,hs=>by
  simp only[kG]at h;split at h
  .rename_i L1 h1
   have h2:=hs 0 c L L1 rfl h0 h1
   have:=BC cs (i+1) L1 L' h h2 (λk d M M' hk hp hm=>by
    have e:i+1+k=i+(k+1):=by omega
    rw[e]at hp hm|-
    exact hs (k+1) d M M' (by simpa using hk) hp hm)
   have e:i+(c::cs).length=i+1+cs.length:=by simp;omega
   rw[e];exact this
  .cases h
theorem j9{P:Nat->OL->Prop}(h:cK t=some L)(h0:P 0 (iJ t))
 (hs:∀i c L L',t.cells[i]?=some c->P i L->eM t.cells.length i c L=some L'->P (i+1) L'):P t.cells.length L:=by
 unfold cK at h;split at h
 .have:=BC t.cells 0 _ _ h h0 (λk c M M' hk hp hm=>by
   rw[Nat.zero_add]at hp hm|-;exact hs k c M M' hk hp hm)
  simpa using this
 .cases h
theorem kP(h:cK t=some L):fH t=true:=by
 unfold cK at h;split at h
 .assumption
 .cases h
theorem bG:fH t=true↔1<=t.cells.length∧t.cells.length<=2048∧1<=t.root.length∧t.root.length<=10∧bi vI t.root=true:=by
 simp[fH,dt,and_assoc]
structure BOk(t:Tr)(i:Nat)(L:OL):Prop where
 len:L.length=t.cells.length
 pre:∀j,j<i->∃b,L[j]?=some (some b)
 ok:∀(j:Nat) b,L[j]?=some (some b)->b.length=t.root.length∧bi vI b=true
theorem zw{j:Int}(h:br b j=true):(cF b j).length=b.length∧(cG b j).length=b.length:=by
 unfold cF cG;rw[h];simp only[if_true];unfold br at h;split<;>simp_all
theorem ej{lo hi:Int}:aC lo hi=true↔-2147483648<=lo∧lo<=hi∧hi<=2147483648:=by
 simp[aC,and_assoc]
theorem CM{x:Int×Int}(h:aC x.1 x.2=true):ic x=(x.1+x.2)/2:=by
 unfold ic;have h':=ej.1 h;rw[h,if_pos rfl,show wr (x.1+x.2)=x.1+x.2 from ab (by omega) (by omega),Int.fdiv_eq_ediv];simp
theorem v9{j:Int}:br b j=true↔0<=j∧bi vI b=true∧∃x,b[j.toNat]?=some x∧2<=x.2-x.1:=by
 unfold br;constructor
 .intro h
  simp only[Bool.and_eq_true,decide_eq_true_eq]at h;obtain⟨⟨h1,h2⟩,h3⟩:=h;refine⟨h1,h2,?_⟩;split at h3
  .rename_i x hx
   refine⟨x,hx,?_⟩;have hv:=ej.1 (ey.1 h2 _ (List.mem_of_getElem? hx));rw[decide_eq_true_eq,cV,if_pos (ey.1 h2 _ (List.mem_of_getElem? hx)),show wr (x.2-x.1)=x.2-x.1 from ab (by omega) (by omega)]at h3;exact h3
  .cases h3
 .rintro⟨h1,h2,x,hx,h3⟩
  have hv:=ej.1 (ey.1 h2 _ (List.mem_of_getElem? hx))
  have hw:cV x=x.2-x.1:=by
   rw[cV,if_pos (ey.1 h2 _ (List.mem_of_getElem? hx))];exact ab (by omega) (by omega)
  simp[h1,h2,hx,hw,h3]
theorem Gh{j:Int}(h:br b j=true):∃x,b[j.toNat]?=some x∧aC x.1 x.2=true∧2<=x.2-x.1∧cF b j=b.set j.toNat (x.1,(x.1+x.2)/2)∧cG b j=b.set j.toNat ((x.1+x.2)/2,x.2):=by
 obtain⟨_,h2,x,hx,h3⟩:=v9.1 h;have hv:aC x.1 x.2=true:=ey.1 h2 _ (List.mem_of_getElem? hx);refine⟨x,hx,hv,h3,?_,?_⟩
 .simp[cF,h,hx,CM hv]
 .simp[cG,h,hx,CM hv]
theorem u9{j:Int}(h:br b j=true):bi vI (cF b j)=true∧bi vI (cG b j)=true:=by
 obtain⟨x,hx,hv,h3,ea,ez⟩:=Gh h;have h2:=(v9.1 h).2.1;have hv':=ej.1 hv;rw[ea,ez];constructor<;>refine ey.2 λy hy=>?_
 .rcases List.mem_or_eq_of_mem_set hy with h|rfl
  .exact ey.1 h2 _ h
  .exact ej.2 ⟨by omega,by simp only;omega,by simp only;omega⟩
 .rcases List.mem_or_eq_of_mem_set hy with h|rfl
  .exact ey.1 h2 _ h
  .exact ej.2 ⟨by simp only;omega,by simp only;omega,by omega⟩
theorem wc(h:fH t=true):BOk t 0 (iJ t):=by
 obtain⟨h1,h2,h3,h4,h5⟩:=bG.1 h;refine⟨by simp[iJ];omega,λj hj=>by omega,λj b hb=>?_⟩
 cases j with
 |zero=>simp[iJ]at hb;subst hb;exact⟨rfl,h5⟩
 |succ j=>simp[iJ,List.getElem?_replicate]at hb
theorem Gi{z:Nat}(hne:a≠z)(ha:a<L.length)(hz:z<L.length):((L.set a x).set z y)[j]?=if j=z then some y else if j=a then some x else L[j]?:=by
 rw[List.getElem?_set];by_cases h1:z=j
 .subst h1;simp[hz]
 .rw[if_neg h1,if_neg (λh=>h1 h.symm),List.getElem?_set]
  by_cases h2:a=j
  .subst h2;simp[ha]
  .rw[if_neg h2,if_neg (λh=>h2 h.symm)]
theorem BD(hl:L.length=t.cells.length)(hi:jk t.cells.length i c=true):((L.set c.low.toNat x).set c.high.toNat y)[j]?=if j=c.high.toNat then some y else if j=c.low.toNat then some x else L[j]?:=by
 obtain⟨h1,h2,h3,h4,h5,_⟩:=fN.1 hi;exact Gi (by omega) (by omega) (by omega)
theorem we(h:BOk t i L)(hs:eM t.cells.length i c L=some L'):BOk t (i+1) L':=by
 obtain⟨b,hb,⟨_,_,rfl⟩|⟨_,hi,hh,hlo,hhi,rfl⟩⟩:=gC hs
 .refine⟨h.len,λj hj=>?_,h.ok⟩
  by_cases e:j=i
  .subst e;exact⟨b,hb⟩
  .exact h.pre j (by omega)
 .have hbo:=h.ok i b hb
  refine⟨by simpa using h.len,λj hj=>?_,λj d hd=>?_⟩
  .rw[BD h.len hi]
   split
   .exact⟨_,rfl⟩
   .split
    .exact⟨_,rfl⟩
    .by_cases e:j=i
     .subst e;exact⟨b,hb⟩
     .exact h.pre j (by omega)
  .rw[BD h.len hi]at hd
   split at hd
   .injection hd with hd;injection hd with hd;subst hd
    exact⟨by rw[(zw hh).2];exact hbo.1,(u9 hh).2⟩
   .split at hd
    .injection hd with hd;injection hd with hd;subst hd
     exact⟨by rw[(zw hh).1];exact hbo.1,(u9 hh).1⟩
    .exact h.ok j d hd
structure BInv(t:Tr)(i:Nat)(L:OL):Prop where
 bok:BOk t i L
 run:kG t.cells.length (t.cells.drop i) i L=cK t
theorem tR(h:fH t=true):BInv t 0 (iJ t):=⟨wc h,by simp[cK,h]⟩
theorem nD(h:BInv t i L)(hlt:i<t.cells.length)(hs:eM t.cells.length i t.cells[i] L=some L'):BInv t (i+1) L':=by
 refine⟨we h.bok hs,?_⟩;rw[<-h.run,List.drop_eq_getElem_cons hlt];simp only[kG,hs]
theorem tS(h:BInv t i L)(hlt:i<t.cells.length)(hs:eM t.cells.length i t.cells[i] L=none):cK t=none:=by
 rw[<-h.run,List.drop_eq_getElem_cons hlt];simp only[kG,hs]
theorem qm(h:BInv t i L)(hlt:¬i<t.cells.length):cK t=some L:=by
 rw[<-h.run,List.drop_eq_nil_of_le (by omega)];rfl
theorem qo(h:cK t=some L):BOk t t.cells.length L:=
 j9 h (wc (kP h)) (λ_ _ _ _ _ hp hm=>we hp hm)
theorem mo(h:cK t=some L):L=(ao t).map some:=by
 have ok:=qo h;rw[ao,h];simp only[List.map_map];apply List.ext_getElem?;intro j;by_cases hj:j<L.length
 .obtain⟨b,hb⟩:=ok.pre j (by rw[<-ok.len];exact hj)
  simp[hb]
 .simp[List.getElem?_eq_none (by omega:L.length<=j)]
theorem wg(h:cK t=some L):L.map nQ=(ao t).map iv:=by
 rw[mo h];simp[nQ,Function.comp_def]
theorem eN(h:ay t=true):(ao t).length=t.cells.length:=by
 obtain⟨L,hL⟩:=Option.isSome_iff_exists.1 h;have:=(qo hL).len;rw[mo hL]at this;simpa using this
theorem gJ(hb:(ao t)[j]?=some b):b.length=t.root.length∧bi vI b=true:=by
 cases hL:cK t with
 |none=>simp[ao,hL]at hb
 |some L=>
  have:=(qo hL).ok j b;rw[mo hL]at this;exact this (by simp[hb])
theorem dz(h:ay t=true):fH t=true:=by
 obtain⟨L,hL⟩:=Option.isSome_iff_exists.1 h;exact kP hL
theorem qp(h:cK t=none):ay t=false∧ao t=[]:=by simp[ay,ao,h]
theorem i7{t:Tr}(hb:L[i]?=some (some b))(hl:cO c=true):eM n i c L=if dW c.v then some L else none:=by
 simp[eM,hb,hl]
theorem ot(hb:L[i]?=some (some b))(hl:cO c=false)(hi:jk n i c=true)(hh:br b c.joint=true)(h1:L[c.low.toNat]?=some none)(h2:L[c.high.toNat]?=some none):eM n i c L=some ((L.set c.low.toNat (some (cF b c.joint))).set c.high.toNat (some (cG b c.joint))):=by
 simp[eM,hb,hl,hi,hh,h1,h2]
theorem ka(hb:L[i]?=some (some b))(hl:cO c=false)(h:jk n i c=false∨br b c.joint=false∨(∃d,L[c.low.toNat]?=some (some d))∨(∃d,L[c.high.toNat]?=some (some d))):eM n i c L=none:=by
 unfold eM;rw[hb];simp only[hl,Bool.false_eq_true,if_false];split
 .rename_i hi
  split
  .rename_i hh
   rcases h with h|h|⟨d,h⟩|⟨d,h⟩
   .rw[hi]at h;cases h
   .rw[hh]at h;cases h
   .rw[h]
   .rw[h];split
    .rename_i e1 e2;cases e2
    .rfl
  .rfl
 .rfl
def bn:Verd:=⟨0,[],0,[],[]⟩
def aP(v:Verd):Cel:=⟨-1,-1,-1,v⟩
theorem wh(h:cO c=true):c=aP c.v:=by
 cases c;simp[cO]at h;simp[aP,h]
theorem ou(v:Verd):cO (aP v)=true:=by simp[cO,aP]
theorem DU:mm bn=true:=by simp[mm,bn,ji]
theorem DV:dW bn=true:=by simp[dW,bn,ji]
theorem xM(h:eM n i c L=some L')(hb:L[j]?=some (some b)):L'[j]?=some (some b):=by
 obtain⟨d,hd,⟨_,_,rfl⟩|⟨_,hi,hh,hlo,hhi,rfl⟩⟩:=gC h
 .exact hb
 .have h1:c.low.toNat≠j:=by intro e;rw[e,hb]at hlo;cases hlo
  have h2:c.high.toNat≠j:=by intro e;rw[e,hb]at hhi;cases hhi
  rw[List.getElem?_set,if_neg h2,List.getElem?_set,if_neg h1];exact hb
theorem zx{k:Nat}{S:OL}(hl:L.length=n)(hk:S.length=k)(h:eM n i c L=some L'):eM (n+k) i c (L++S)=some (L'++S):=by
 obtain⟨d,hd,⟨h1,h2,rfl⟩|⟨h1,hi,hh,hlo,hhi,rfl⟩⟩:=gC h
 .have hlt:i<L'.length:=(List.getElem?_eq_some_iff.1 hd).1
  have:(L'++S)[i]?=some (some d):=by rw[List.getElem?_append_left hlt];exact hd
  simp[eM,this,h1,h2]
 .have hlt:i<L.length:=(List.getElem?_eq_some_iff.1 hd).1
  have l1:c.low.toNat<L.length:=(List.getElem?_eq_some_iff.1 hlo).1;have l2:c.high.toNat<L.length:=(List.getElem?_eq_some_iff.1 hhi).1
  have e1:(L++S)[i]?=some (some d):=by rw[List.getElem?_append_left hlt];exact hd
  have e2:(L++S)[c.low.toNat]?=some none:=by rw[List.getElem?_append_left l1];exact hlo
  have e3:(L++S)[c.high.toNat]?=some none:=by rw[List.getElem?_append_left l2];exact hhi
  have hi':jk (n+k) i c=true:=by
   obtain⟨a1,a2,a3,a4,a5,a6⟩:=fN.1 hi;exact fN.2 ⟨a1,by omega,a3,by omega,a5,a6⟩
  rw[ot e1 h1 hi' hh e2 e3,List.set_append_left _ _ l1,List.set_append_left _ _ (by simpa using l2)]
def kQ(t:Tr)(i:Nat)(j:Int)(v:Verd):Tr:=⟨t.root,t.cells.set i ⟨j,t.cells.length,t.cells.length+1,bn⟩++[aP v,aP v]⟩
theorem xP(t:Tr)(i:Nat)(j:Int)(v:Verd):(kQ t i j v).cells.length=t.cells.length+2:=by simp[kQ]
theorem nE{cs:List Cel}(hc:cs[i]?=some c)(h:eM n i c L=some L'):kG n (cs.drop i) i L=kG n (cs.drop (i+1)) (i+1) L':=by
 obtain⟨hlt,hc⟩:=List.getElem?_eq_some_iff.1 hc;rw[List.drop_eq_getElem_cons hlt,hc];simp only[kG,h]
theorem E5(h:cK t=some L)(hc:t.cells[i]?=some c)(hl:cO c=true):dW c.v=true:=by
 have hp:=j9 (P:=λk _=>i<k->dW c.v=true) h (by intro h;omega) (λk d M M' hk hp hm hi=>by
  by_cases e:k=i
  .subst e
   rw[hc]at hk;injection hk with hk;subst hk;obtain⟨b,hb,⟨_,h2,_⟩|⟨h1,_⟩⟩:=gC hm
   .exact h2
   .rw[hl]at h1;cases h1
  .exact hp (by omega))
 exact hp (List.getElem?_eq_some_iff.1 hc).1
theorem B2(h:cK t=some L){j:Int}(hc:t.cells[i]?=some c)(hl:cO c=true)(hn:t.cells.length+2<=2048)(hb:L[i]?=some (some b))(hh:br b j=true):
 cK (kQ t i j c.v)=some (L++[some (cF b j),some (cG b j)]):=by
 have hsz:=kP h;obtain⟨z1,z2,z3,z4,z5⟩:=bG.1 hsz;have hilt:i<t.cells.length:=(List.getElem?_eq_some_iff.1 hc).1;have hlen:=xP t i j c.v;have hf:=E5 h hc hl;generalize hT:kQ t i j c.v=T at *
 have hTr:T.root=t.root:=by rw[<-hT];rfl
 have hTc:∀k,k≠i->k<t.cells.length->T.cells[k]?=t.cells[k]?:=by
  intro k hk hlt;rw[<-hT];simp only[kQ];rw[List.getElem?_append_left (by simpa using hlt),List.getElem?_set,if_neg (λe=>hk e.symm)]
 have hTi:T.cells[i]?=some ⟨j,t.cells.length,t.cells.length+1,bn⟩:=by
  rw[<-hT];simp only[kQ];rw[List.getElem?_append_left (by simpa using hilt),List.getElem?_set,if_pos rfl,if_pos hilt]
 have hTs:fH T=true:=bG.2 ⟨by omega,by omega,by rw[hTr];omega,by rw[hTr];omega,by rw[hTr];exact z5⟩
 have hP:=j9 (P:=λk M=>BOk t k M∧if k<=i then kG (t.cells.length+2) (T.cells.drop k) k (M++[none,none])=cK T
  else∃d,M[i]?=some (some d)∧(br d j=true->kG (t.cells.length+2) (T.cells.drop k) k (M++[some (cF d j),some (cG d j)])=cK T)) h (by
  refine⟨wc hsz,?_⟩;simp only[Nat.zero_le,if_true];rw[cK,if_pos hTs,hlen,List.drop_zero]
  congr 1
  simp only[iJ,hTr,hlen,List.cons_append]
  rw[show t.cells.length+2-1=(t.cells.length-1)+2 by omega,<-List.replicate_append_replicate];rfl) (by
  intro k e M M' hk hp hm;obtain⟨hbo,hp⟩:=hp;refine⟨we hbo hm,?_⟩;have hklt:k<t.cells.length:=(List.getElem?_eq_some_iff.1 hk).1;rcases Nat.lt_trichotomy k i with hki|hki|hki
  .rw[if_pos (by omega)]at hp|-
   rw[<-hp];exact(nE (by rw[hTc k (by omega) hklt];exact hk) (zx (k:=2) (S:=[none,none]) hbo.len rfl hm)).symm
  .subst hki
   rw[hc]at hk;injection hk with hk;subst hk;rw[if_pos (Nat.le_refl _)]at hp;rw[if_neg (by omega)];obtain⟨d,hd,⟨_,_,rfl⟩|⟨h1,_⟩⟩:=gC hm
   .refine⟨d,hd,λhok=>?_⟩
    rw[<-hp];refine(nE hTi ?_).symm
    have e1:(M'++[none,none])[k]?=some (some d):=by rw[List.getElem?_append_left (by rw[hbo.len];exact hilt)];exact hd
    have hi':jk (t.cells.length+2) k ⟨j,t.cells.length,t.cells.length+1,bn⟩=true:=fN.2 ⟨by simp only;omega,by simp only;omega,by simp only;omega,by simp only;omega,by simp only;omega,DU⟩
    have t1:((t.cells.length:Int)).toNat=M'.length:=by rw[hbo.len];omega
    have t2:((t.cells.length:Int)+1).toNat=M'.length+1:=by rw[hbo.len];omega
    rw[ot e1 (by simp[cO]) hi' hok (by simp only;rw[t1];simp) (by simp only;rw[t2];simp)];simp only[t1,t2]
    congr 1
    rw[List.set_append_right _ _ (by omega),List.set_append_right _ _ (by omega)];simp
   .rw[hl]at h1;cases h1
  .rw[if_neg (by omega)]at hp|-
   obtain⟨d,hd,hp⟩:=hp;refine⟨d,xM hm hd,λhok=>?_⟩;rw[<-hp hok]
   exact(nE (by rw[hTc k (by omega) hklt];exact hk) (zx (k:=2) (S:=[some (cF d j),some (cG d j)]) hbo.len rfl hm)).symm)
 obtain⟨hbo,hP⟩:=hP;rw[if_neg (by omega)]at hP;obtain⟨d,hd,hP⟩:=hP;rw[hb]at hd;injection hd with hd;injection hd with hd;subst hd;rw[<-hP hh]
 have hdrop:T.cells.drop t.cells.length=[aP c.v,aP c.v]:=by
  rw[<-hT];simp only[kQ];rw[List.drop_append_of_le_length (by simp),List.drop_eq_nil_of_le (by simp)];rfl
 rw[hdrop]
 have e1:(L++[some (cF b j),some (cG b j)])[t.cells.length]?=some (some (cF b j)):=by rw[<-hbo.len];simp
 have e2:(L++[some (cF b j),some (cG b j)])[t.cells.length+1]?=some (some (cG b j)):=by rw[<-hbo.len];simp
 simp only[kG];rw[i7 (t:=t) e1 (ou _),if_pos (show dW (aP c.v).v=true from hf)];simp only;rw[i7 (t:=t) e2 (ou _),if_pos (show dW (aP c.v).v=true from hf)]
def eI(t:Tr)(i:Nat)(v:Verd):Tr:=⟨t.root,t.cells.set i (aP v)⟩
theorem BE(h:cK t=some L){v:Verd}(hc:t.cells[i]?=some c)(hl:cO c=true)(hf:dW v=true):cK (eI t i v)=some L:=by
 have hsz:=kP h;have hilt:i<t.cells.length:=(List.getElem?_eq_some_iff.1 hc).1
 have hlen:(eI t i v).cells.length=t.cells.length:=by simp[eI]
 generalize hT:eI t i v=T at *
 have hTr:T.root=t.root:=by rw[<-hT];rfl
 have hTs:fH T=true:=by
  obtain⟨z1,z2,z3,z4,z5⟩:=bG.1 hsz;exact bG.2 ⟨by omega,by omega,by rw[hTr];omega,by rw[hTr];omega,by rw[hTr];exact z5⟩
 have hP:=j9 (P:=λk M=>kG t.cells.length (T.cells.drop k) k M=cK T) h (by
  rw[cK,if_pos hTs,hlen,List.drop_zero]
  congr 1
  simp only[iJ,hTr,hlen]) (by
  intro k e M M' hk hp hm;rw[<-hp];by_cases hki:k=i
  .subst hki
   rw[hc]at hk;injection hk with hk;subst hk;obtain⟨d,hd,⟨_,_,rfl⟩|⟨h1,_⟩⟩:=gC hm
   .refine(nE (c:=aP v) (by rw[<-hT];simp[eI,hilt]) ?_).symm
    rw[i7 (t:=t) hd (ou _),if_pos (show dW (aP v).v=true from hf)]
   .rw[hl]at h1;cases h1
  .refine(nE ?_ hm).symm
   rw[<-hT];simp only[eI]
   rw[List.getElem?_set,if_neg (λe=>hki e.symm)];exact hk)
 rw[<-hP,List.drop_eq_nil_of_le (by omega)];rfl
theorem E6(h:cK t=some L):∃c,t.cells[t.cells.length-1]?=some c∧cO c=true:=by
 obtain⟨z1,z2,z3,z4,z5⟩:=bG.1 (kP h)
 have hlt:t.cells.length-1<t.cells.length:=by omega
 refine⟨t.cells[t.cells.length-1],List.getElem?_eq_getElem hlt,?_⟩
 have hp:=j9 (P:=λk _=>k=t.cells.length->cO t.cells[t.cells.length-1]=true) h (by omega) (λk d M M' hk hp hm hi=>by
  obtain⟨b,hb,⟨h2,_,_⟩|⟨_,h1,_⟩⟩:=gC hm
  .have e:t.cells.length-1=k:=by omega
   have:=List.getElem?_eq_getElem hlt;rw[show t.cells[t.cells.length-1]?=t.cells[k]? by rw[e],hk]at this;injection this with this;rw[<-this];exact h2
  .have:=fN.1 h1
   omega)
 exact hp rfl
def dZ(t:Tr)(i:Nat):Bool:=match t.cells[i]? with
 |some c=>cO c
 |none=>false
def cT(t:Tr)(n:Nat):List Nat:=(List.range n).filter (dZ t)
def aD(t:Tr):List Nat:=if ay t then cT t t.cells.length else[]
theorem pK(t:Tr)(n:Nat):cT t (n+1)=if dZ t n then cT t n++[n]else cT t n:=by
 simp only[cT,List.range_succ,List.filter_append];cases h:dZ t n<;>simp[h]
theorem m9(t:Tr)(n:Nat):(cT t n).length<=n:=by
 have:=List.length_filter_le (dZ t) (List.range n);simpa[cT]using this
theorem qI:i∈aD t↔ay t=true∧∃c,t.cells[i]?=some c∧cO c=true:=by
 unfold aD
 cases hv:ay t with
 |false=>simp
 |true=>
  simp only[if_true,true_and,cT,List.mem_filter,List.mem_range,dZ];constructor
  .rintro⟨h1,h2⟩
   rw[List.getElem?_eq_getElem h1]at h2;exact⟨_,List.getElem?_eq_getElem h1,h2⟩
  .rintro⟨c,hc,hl⟩
   refine⟨(List.getElem?_eq_some_iff.1 hc).1,by rw[hc];exact hl⟩
theorem qJ(h:ay t=true):0<(aD t).length:=by
 obtain⟨L,hL⟩:=Option.isSome_iff_exists.1 h;obtain⟨c,hc,hl⟩:=E6 hL;exact List.length_pos_of_mem (qI.2 ⟨h,c,hc,hl⟩)
def eJ(t:Tr)(i j:Int):Bool:=ay t&&decide (0<=i)&&decide (i<t.cells.length)&&dZ t i.toNat&&decide (t.cells.length+2<=2048)&&br ((ao t)[i.toNat]?.getD []) j
def zy(t:Tr)(i:Nat):Verd:=match t.cells[i]? with
 |some c=>c.v
 |none=>bn
def kc(t:Tr)(i j:Int):Tr:=if eJ t i j then kQ t i.toNat j (zy t i.toNat)else t
def cX(t:Tr)(i:Int)(v:Verd):Bool:=ay t&&decide (0<=i)&&decide (i<t.cells.length)&&dZ t i.toNat&&decide ((zy t i.toNat).kind=0)&&dW v
def dE(t:Tr)(i:Int)(v:Verd):Tr:=if cX t i v then eI t i.toNat v else t
theorem tT(h:dZ t i=true):∃c,t.cells[i]?=some c∧cO c=true∧zy t i=c.v:=by
 unfold dZ at h;split at h
 .rename_i c hc
  exact⟨c,hc,h,by simp[zy,hc]⟩
 .cases h
theorem B3(h:ay t=true)(i j:Int):ay (kc t i j)=true∧(kc t i j).root=t.root∧(kc t i j).cells.length<=t.cells.length+2:=by
 unfold kc;split
 .rename_i hs
  simp only[eJ,Bool.and_eq_true,decide_eq_true_eq]at hs;obtain⟨⟨⟨⟨⟨h1,h2⟩,h3⟩,h4⟩,h5⟩,h6⟩:=hs;obtain⟨L,hL⟩:=Option.isSome_iff_exists.1 h;obtain⟨c,hc,hl,hv⟩:=tT h4
  have hlt:i.toNat<t.cells.length:=by omega
  obtain⟨b,hb⟩:=(qo hL).pre i.toNat hlt
  have hb':(ao t)[i.toNat]?=some b:=by
   have:=mo hL;rw[this]at hb;simpa using hb
  rw[hb']at h6;have:=B2 hL hc hl h5 hb h6;rw[hv];exact⟨by rw[ay,this];rfl,rfl,by rw[xP];exact Nat.le_refl _⟩
 .exact⟨h,rfl,by omega⟩
theorem BF(h:ay t=true)(i:Int)(v:Verd):ay (dE t i v)=true∧(dE t i v).root=t.root∧(dE t i v).cells.length=t.cells.length∧ao (dE t i v)=ao t:=by
 unfold dE;split
 .rename_i hs
  simp only[cX,Bool.and_eq_true,decide_eq_true_eq]at hs;obtain⟨⟨⟨⟨⟨h1,h2⟩,h3⟩,h4⟩,h5⟩,h6⟩:=hs;obtain⟨L,hL⟩:=Option.isSome_iff_exists.1 h;obtain⟨c,hc,hl,hv⟩:=tT h4;have:=BE hL hc hl h6;exact⟨by rw[ay,this];rfl,rfl,by simp[eI],by simp[ao,this,hL]⟩
 .exact⟨h,rfl,rfl,rfl⟩
def mq(k:Int):Verd:=if k=1∨k=2 then⟨2,[],0,[1],[1]⟩else if k=3 then⟨1,[(1,0,0)],0,[],[]⟩else bn
def qK(r:List (Int×Int)):Tr:=if dt r then⟨r,[aP bn]⟩else⟨[],[]⟩
theorem E8(h:dt r=true):cK ⟨r,[aP bn]⟩=some [some r]:=by
 have hs:fH ⟨r,[aP bn]⟩=true:=by simp[fH,h]
 rw[cK,if_pos hs];simp only[iJ,List.length_singleton,Nat.sub_self,List.replicate,kG];rw[i7 (t:=⟨r,[]⟩) (b:=r) rfl (ou _),if_pos (show dW (aP bn).v=true from DV)]
theorem HU(h:dt r=false):cK ⟨r,[aP bn]⟩=none:=by
 have hs:fH ⟨r,[aP bn]⟩=false:=by simp[fH,h]
 rw[cK,if_neg (by simp[hs])]
theorem qt(r:List (Int×Int)):ay ⟨r,[aP bn]⟩=dt r:=by
 cases h:dt r with
 |true=>rw[ay,E8 h];rfl
 |false=>rw[ay,HU h];rfl
def yL(t:Tr)(l:List Int)(m:Nat):Nat:=(aD t)[(nx l m (aD t).length).toNat]?.getD 0
def BH(t:Tr)(l:List Int)(m:Nat):Int:=nx l (nn l m) t.root.length
def de(t0:Tr)(l:List Int):Nat->Tr×Nat
 |0=>(t0,0)
 |k+1=>(kc (de t0 l k).1 (yL (de t0 l k).1 l (de t0 l k).2) (BH (de t0 l k).1 l (de t0 l k).2),nn l (nn l (de t0 l k).2))
def gD(t0:Tr)(m0:Nat)(all:List Nat)(l:List Int):Nat->Tr×Nat
 |0=>(t0,m0)
 |k+1=>(dE (gD t0 m0 all l k).1 ((all[k]?.getD 0:Nat):Int) (mq (nx l (gD t0 m0 all l k).2 5)),nn l (gD t0 m0 all l k).2)
def yM(t:Tr)(l:List Int)(times:Nat):Tr:=(gD (de t l times).1 (de t l times).2 (aD (de t l times).1) l (aD (de t l times).1).length).1
theorem CN{t0:Tr}(l:List Int)(h:ay t0=true)(k:Nat):ay (de t0 l k).1=true∧(de t0 l k).1.root=t0.root∧(de t0 l k).1.cells.length<=t0.cells.length+2*k∧(de t0 l k).2<=2*k:=by
 induction k with
 |zero=>exact⟨h,rfl,by simp[de],by simp[de]⟩
 |succ k ih=>
  obtain⟨h1,h2,h3,h4⟩:=ih;have:=B3 h1 (yL (de t0 l k).1 l (de t0 l k).2) (BH (de t0 l k).1 l (de t0 l k).2);have n1:=lV l (de t0 l k).2;have n2:=lV l (nn l (de t0 l k).2);simp only[de];exact⟨this.1,by rw[this.2.1];exact h2,by omega,by omega⟩
theorem CO{t0:Tr}(m0:Nat)(all:List Nat)(l:List Int)(h:ay t0=true)(k:Nat):ay (gD t0 m0 all l k).1=true∧(gD t0 m0 all l k).1.root=t0.root∧(gD t0 m0 all l k).1.cells.length=t0.cells.length∧ao (gD t0 m0 all l k).1=ao t0∧(gD t0 m0 all l k).2<=m0+k:=by
 induction k with
 |zero=>exact⟨h,rfl,rfl,rfl,by simp[gD]⟩
 |succ k ih=>
  obtain⟨h1,h2,h3,h4,h5⟩:=ih;have:=BF h1 ((all[k]?.getD 0:Nat):Int) (mq (nx l (gD t0 m0 all l k).2 5));have n1:=lV l (gD t0 m0 all l k).2;simp only[gD];exact⟨this.1,by rw[this.2.1];exact h2,by rw[this.2.2.1];exact h3,by rw[this.2.2.2];exact h4,by omega⟩
def qu(l:List Int)(m:Nat):Int:=nx l m 5
def vb(l:List Int)(m:Nat)(x:Int×Int):Int:=if qu l m=0 then x.1 else if qu l m=1 then x.2 else if qu l m=2 then ic x else x.1+nx l (nn l m) (x.2-x.1+1)
def tU(l:List Int)(m:Nat):Nat:=if qu l m=0 then nn l m else if qu l m=1 then nn l m else if qu l m=2 then nn l m else nn l (nn l m)
def fA(l:List Int):Nat->Nat
 |0=>0
 |i+1=>tU l (fA l i)
theorem Jv(l:List Int)(i:Nat):fA l i<=2*i:=by
 induction i with
 |zero=>simp[fA]
 |succ i ih=>
  have h1:=lV l (fA l i);have h2:=lV l (nn l (fA l i));simp only[fA,tU]
  repeat' split
  all_goals omega
def mB(b:List (Int×Int))(l:List Int):List Int:=b.mapIdx λi x=>vb l (fA l i) x
theorem rt(b:List (Int×Int))(l:List Int):(mB b l).length=b.length:=by simp[mB]
theorem Gj{l:List Int}{b:List (Int×Int)}(hlt:i<b.length):((mB b l).map Z).take i++[Z (vb l (fA l i) b[i])]=((mB b l).map Z).take (i+1):=by
 rw[List.take_succ_eq_append_getElem (by simpa[mB]using hlt)];simp[mB]
theorem Gk{β:Type}{f:α->β->Bool}{xs:List α}{ys:List β}:fp f xs ys=true↔∀(i:Nat) x y,xs[i]?=some x->ys[i]?=some y->f x y=true:=by
 unfold fp;rw[List.all_eq_true];constructor
 .intro h i x y hx hy
  have:(List.zipWith f xs ys)[i]?=some (f x y):=by simp[List.getElem?_zipWith,hx,hy]
  exact h _ (List.mem_of_getElem? this)
 .intro h z hz
  obtain⟨i,hi⟩:=List.getElem?_of_mem hz;rw[List.getElem?_zipWith]at hi
  cases hx:xs[i]? with
  |none=>simp[hx]at hi
  |some x=>
   cases hy:ys[i]? with
   |none=>simp[hx,hy]at hi
   |some y=>
    simp[hx,hy]at hi;rw[<-hi];exact h i x y hx hy
theorem zA{a:Bx}(ha:bi vI a=true)(hb:bi vI b=true):eo a b=true↔a.length=b.length∧∀(i:Nat) x y,a[i]?=some x->b[i]?=some y->x.1<=y.2∧y.1<=x.2:=by
 simp only[eo,Bool.and_eq_true,decide_eq_true_eq,Gk];constructor
 .rintro⟨h1,h2⟩
  refine⟨h1,λi x y hx hy=>?_⟩;have:=h2 i x y hx hy;simp only[fV,Bool.and_eq_true,decide_eq_true_eq]at this;omega
 .rintro⟨h1,h2⟩
  refine⟨h1,λi x y hx hy=>?_⟩;have vx:aC x.1 x.2=true:=ey.1 ha _ (List.mem_of_getElem? hx);have vy:aC y.1 y.2=true:=ey.1 hb _ (List.mem_of_getElem? hy);simp only[fV,vx,vy,Bool.and_eq_true,decide_eq_true_eq,true_and];have:=h2 i x y hx hy;have:=ej.1 vx;have:=ej.1 vy;omega
def dU(t:Tr)(c:Int):Bx:=(ao t)[c.toNat]?.getD []
theorem wi(hv:ay t=true){c:Int}(h:c.toNat<t.cells.length):(ao t)[c.toNat]?=some (dU t c)∧(dU t c).length=t.root.length∧bi vI (dU t c)=true:=by
 have hl:c.toNat<(ao t).length:=by rw[eN hv];exact h
 have e:(ao t)[c.toNat]?=some (dU t c):=by simp[dU,List.getElem?_eq_getElem hl]
 exact⟨e,gJ e⟩
def BI(t:Tr)(chain:List Int)(j:Nat):Bool:=match chain[j]? with
 |some c=>decide (0<=c)&&decide (c<t.cells.length)&&dZ t c.toNat&& !((chain.take j).contains c)&&(decide (j=0)||eo (dU t (chain[j-1]?.getD 0)) (dU t c))
 |none=>false
theorem DW{chain:List Int}{c:Int}(hc:chain[j]?=some c):BI t chain j=true↔0<=c∧c<t.cells.length∧dZ t c.toNat=true∧c∉chain.take j∧(j=0∨eo (dU t (chain[j-1]?.getD 0)) (dU t c)=true):=by
 simp[BI,hc,and_assoc]
structure ChOk(t:Tr)(chain p q:List Int):Prop where
 valid:ay t=true
 hp:jz t.root p=true
 hq:jz t.root q=true
 ne:chain≠[]
 all:∀j,j<chain.length->BI t chain j=true
namespace ChOk
variable {t:Tr} {chain p q:List Int}
theorem get(h:ChOk t chain p q)(hj:j<chain.length):0<=chain[j]∧chain[j]<t.cells.length∧dZ t chain[j].toNat=true∧chain[j]∉chain.take j∧(j=0∨eo (dU t (chain[j-1]?.getD 0)) (dU t chain[j])=true):=
 (DW (List.getElem?_eq_getElem hj)).1 (h.all j hj)
theorem box(h:ChOk t chain p q)(hj:j<chain.length):(ao t)[chain[j].toNat]?=some (dU t chain[j])∧(dU t chain[j]).length=t.root.length∧bi vI (dU t chain[j])=true:=by
 have:=h.get hj;exact wi h.valid (by omega)
theorem touch(h:ChOk t chain p q)(hj:j+1<chain.length):eo (dU t chain[j]) (dU t chain[j+1])=true:=by
 have:=(h.get hj).2.2.2.2;rcases this with e|e
 .omega
 .rw[Nat.add_sub_cancel,List.getElem?_eq_getElem (by omega)]at e;exact e
end ChOk
structure BS where
 far:List Int
 q:List Nat
section
variable (n:Nat) (may has hasF:Nat->Bool) (tch:Nat->Nat->Bool)
def am(far:List Int)(i:Nat):Int:=far[i]?.getD 0
def bI:Nat->BS
 |0=>⟨List.replicate n 0,[]⟩
 |i+1=>if may i&&has i then⟨(bI i).far.set i 1,(bI i).q++[i]⟩else bI i
def bB(s:BS)(k:Nat):Nat:=s.q[k]?.getD 0
def vd(s:BS)(k i:Nat):Bool:=(am s.far i==0)&&may i&&tch i (bB s k)
def lB(s:BS)(k i:Nat):BS:=⟨s.far.set i (am s.far (bB s k)+1),s.q++[i]⟩
def bJ(s:BS)(k:Nat):Nat->BS
 |0=>s
 |i+1=>if vd may tch (bJ s k i) k i then lB (bJ s k i) k i else bJ s k i
def bK:Nat->BS
 |0=>bI n may has n
 |k+1=>if k<(bK k).q.length then bJ may tch (bK k) k n else bK k
structure BInv2(s:BS):Prop where
 len:s.far.length=n
 cnt:s.far.countP (λx=>x !=0)=s.q.length
 mem:∀j∈s.q,j<n∧1<=am s.far j
 nn:∀i,0<=am s.far i
 top:∀i,am s.far i<=s.q.length
 may':∀i,1<=am s.far i->may i=true
 back:∀i,1<=am s.far i->(am s.far i=1∧has i=true)∨∃p,p<n∧am s.far p=am s.far i-1∧1<=am s.far p∧tch i p=true
variable {n may has hasF tch}
theorem kz(hi:i<far.length):am (far.set i v) j=if j=i then v else am far j:=by
 unfold am;rw[List.getElem?_set];by_cases h:i=j
 .subst h;simp[hi]
 .rw[if_neg h,if_neg (λe=>h e.symm)]
theorem BInv2.le{s:BS}(h:BInv2 n may has tch s):s.q.length<=n:=by
 rw[<-h.cnt,<-h.len];exact List.countP_le_length
theorem HV(hi:i<far.length)(h0:am far i=0)(hv:v≠0):(far.set i v).countP (λx=>x !=0)=far.countP (λx=>x !=0)+1:=by
 have h0':far[i]=0:=by simpa[am,List.getElem?_eq_getElem hi]using h0
 rw[List.countP_set hi];simp[h0',hv]
theorem BInv2.put{s:BS}(h:BInv2 n may has tch s)(hi:i<n)(h0:am s.far i=0)(hv:1<=v)(hm:may i=true)(ht:v<=s.q.length+1)
 (hb:(v=1∧has i=true)∨∃p,p<n∧am s.far p=v-1∧1<=am s.far p∧tch i p=true):BInv2 n may has tch ⟨s.far.set i v,s.q++[i]⟩:=by
 have hil:i<s.far.length:=by rw[h.len];exact hi
 refine⟨by simpa using h.len,?_,?_,?_,?_,?_,?_⟩
 .simp only[List.length_append,List.length_singleton];rw[HV hil h0 (by omega),h.cnt]
 .intro j hj
  simp only[List.mem_append,List.mem_singleton]at hj;simp only[kz hil];rcases hj with hj|rfl
  .refine⟨(h.mem j hj).1,?_⟩
   split
   .exact hv
   .exact(h.mem j hj).2
  .exact⟨hi,by simp[hv]⟩
 .intro j;simp only[kz hil];split
  .omega
  .exact h.nn j
 .intro j;simp only[kz hil,List.length_append,List.length_singleton]
  have:=h.top j;split<;>omega
 .intro j;simp only[kz hil];split
  .rename_i e;rw[e];exact λ_=>hm
  .exact h.may' j
 .have hpn:∀p,1<=am s.far p->p≠i:=λp hp e=>by rw[e,h0]at hp;omega
  intro j;simp only[kz hil];split
  .rename_i e;rw[e];intro _
   rcases hb with hb|⟨p,p1,p2,p3,p4⟩
   .exact .inl hb
   .exact .inr ⟨p,p1,by rw[if_neg (hpn p p3)];exact p2,by rw[if_neg (hpn p p3)];exact p3,p4⟩
  .intro hj
   rcases h.back j hj with hb|⟨p,p1,p2,p3,p4⟩
   .exact .inl hb
   .exact .inr ⟨p,p1,by rw[if_neg (hpn p p3)];exact p2,by rw[if_neg (hpn p p3)];exact p3,p4⟩
theorem pL:∀i,i<=n->BInv2 n may has tch (bI n may has i)∧∀j,i<=j->am (bI n may has i).far j=0
 |0,_=>by
  have hz:∀j,am (List.replicate n (0:Int)) j=0:=λj=>by simp only[am,List.getElem?_replicate];split<;>rfl
  refine⟨⟨by simp[bI],by simp[bI,List.countP_replicate],by simp[bI],λj=>by simp only[bI,hz];omega,λj=>by simp only[bI,hz];simp,λj hj=>by simp only[bI,hz]at hj;omega,λj hj=>by simp only[bI,hz]at hj;omega⟩,λj _=>by simp only[bI,hz]⟩
 |i+1,hi=>by
  obtain⟨ih,iz⟩:=pL i (by omega);simp only[bI];split
  .rename_i hc
   simp only[Bool.and_eq_true]at hc;refine⟨ih.put (by omega) (iz i (Nat.le_refl _)) (by omega) hc.1 (by omega) (.inl ⟨rfl,hc.2⟩),λj hj=>?_⟩;simp only[kz (show i<(bI n may has i).far.length by rw[ih.len];omega)];rw[if_neg (by omega)];exact iz j (by omega)
  .exact⟨ih,λj hj=>iz j (by omega)⟩
theorem xR{s:BS}{k:Nat}(hs:BInv2 n may has tch s)(hk:k<s.q.length):∀i,i<=n->BInv2 n may has tch (bJ may tch s k i)∧s.q.length<=(bJ may tch s k i).q.length∧bB (bJ may tch s k i) k=bB s k
 |0,_=>⟨hs,Nat.le_refl _,rfl⟩
 |i+1,hi=>by
  obtain⟨ih,il,iq⟩:=xR hs hk i (by omega);simp only[bJ];split
  .rename_i hc
   simp only[vd,Bool.and_eq_true,beq_iff_eq]at hc
   have hmem:bB (bJ may tch s k i) k∈(bJ may tch s k i).q:=by
    unfold bB;rw[List.getElem?_eq_getElem (by omega:k<(bJ may tch s k i).q.length)];exact List.getElem_mem _
   have hq:=ih.mem _ hmem;refine⟨ih.put (by omega) hc.1.1 (by omega) hc.1.2 (by have:=ih.top (bB (bJ may tch s k i) k);omega) (.inr ⟨_,hq.1,by omega,hq.2,hc.2⟩),by simp only[lB,List.length_append,List.length_singleton];omega,?_⟩;rw[<-iq];simp only[lB,bB];rw[List.getElem?_append_left (by omega)]
  .exact⟨ih,il,iq⟩
theorem mt:∀k,BInv2 n may has tch (bK n may has tch k)
 |0=>(pL n (Nat.le_refl _)).1
 |k+1=>by
  have ih:=mt k;simp only[bK];split
  .rename_i hk
   exact(xR ih hk n (Nat.le_refl _)).1
  .exact ih
theorem CP{k:Nat}(h:¬k<(bK n may has tch k).q.length):∀m,bK n may has tch (k+m)=bK n may has tch k
 |0=>rfl
 |m+1=>by
  have ih:=CP h m;rw[<-Nat.add_assoc];simp only[bK];rw[ih,if_neg (by omega)]
def aS(far:List Int)(hasF:Nat->Bool):Nat->Int
 |0=>-1
 |i+1=>if decide (0<am far i)&&hasF i&&(decide (aS far hasF i<0)||decide (am far i<am far (aS far hasF i).toNat))then(i:Int)else aS far hasF i
theorem ru{far:List Int}:∀i,-1<=aS far hasF i∧aS far hasF i<i∧(0<=aS far hasF i->0<am far (aS far hasF i).toNat∧hasF (aS far hasF i).toNat=true)
 |0=>by simp[aS]
 |i+1=>by
  have ih:=ru (far:=far) i;simp only[aS];split
  .rename_i hc
   simp only[Bool.and_eq_true,decide_eq_true_eq]at hc;refine⟨by omega,by omega,λ_=>?_⟩;rw[Int.toNat_natCast];exact⟨hc.1.1,hc.1.2⟩
  .exact⟨ih.1,by omega,ih.2.2⟩
def nC(far:List Int)(tch:Nat->Nat->Bool)(at_ i:Nat):Bool:=(am far i==am far at_-1)&&tch i at_
def nS(n:Nat)(far:List Int)(tch:Nat->Nat->Bool)(at_:Nat):Nat->Int
 |0=>-1
 |m+1=>if nC far tch at_ (n-1-m)then((n-1-m:Nat):Int)else nS n far tch at_ m
theorem BJ{far:List Int}{at_:Nat}:∀m,m<=n->(0<=nS n far tch at_ m->(nS n far tch at_ m).toNat<n∧nC far tch at_ (nS n far tch at_ m).toNat=true)∧(∀i,i<n->n-m<=i->nC far tch at_ i=true->0<=nS n far tch at_ m)∧-1<=nS n far tch at_ m
 |0,_=>by simp[nS];omega
 |m+1,hm=>by
  have ih:=BJ (far:=far) (at_:=at_) m (by omega);simp only[nS];split
  .rename_i hc
   refine⟨λ_=>?_,λ_ _ _ _=>by omega,by omega⟩;rw[Int.toNat_natCast];exact⟨by omega,hc⟩
  .rename_i hc
   refine⟨ih.1,λi h1 h2 h3=>?_,ih.2.2⟩;by_cases e:i=n-1-m
   .rw[e]at h3;exact absurd h3 hc
   .exact ih.2.1 i h1 (by omega) h3
def zB(n:Nat)(far:List Int)(tch:Nat->Nat->Bool)(at_:Nat):Nat:=(nS n far tch at_ n).toNat
theorem xS{s:BS}(h:BInv2 n may has tch s)(hsym:∀i j,i<n->j<n->tch i j=tch j i)(hl:a<n)(ha:1<am s.far a):nS n s.far tch a n=(zB n s.far tch a:Int)∧zB n s.far tch a<n∧am s.far (zB n s.far tch a)=am s.far a-1∧tch (zB n s.far tch a) a=true:=by
 have hr:=BJ (n:=n) (tch:=tch) (far:=s.far) (at_:=a) n (Nat.le_refl _);rcases h.back a (by omega)with⟨e,_⟩|⟨p,p1,p2,p3,p4⟩
 .omega
 .have hp:nC s.far tch a p=true:=by
   simp only[nC,p2,beq_self_eq_true,Bool.true_and];rw[hsym p a p1 hl];exact p4
  have h0:=hr.2.1 p p1 (by omega) hp;obtain⟨h1,h2⟩:=hr.1 h0;simp only[nC,Bool.and_eq_true,beq_iff_eq]at h2;exact⟨by unfold zB;omega,h1,h2.1,h2.2⟩
def pS(n:Nat)(far:List Int)(tch:Nat->Nat->Bool)(a:Nat):Nat->Nat
 |0=>a
 |r+1=>zB n far tch (pS n far tch a r)
theorem uE{s:BS}(h:BInv2 n may has tch s)(hsym:∀i j,i<n->j<n->tch i j=tch j i){a:Nat}(hl:a<n)(ha:0<am s.far a):∀r:Nat,(r:Int)<am s.far a->pS n s.far tch a r<n∧am s.far (pS n s.far tch a r)=am s.far a-r
 |0,_=>⟨hl,by simp[pS]⟩
 |r+1,hr=>by
  obtain⟨i1,i2⟩:=uE h hsym hl ha r (by omega);have:=xS h hsym i1 (by omega);simp only[pS];exact⟨this.2.1,by rw[this.2.2.1,i2];omega⟩
theorem Gl{s:BS}(h:BInv2 n may has tch s)(hsym:∀i j,i<n->j<n->tch i j=tch j i)(hl:a<n)(ha:0<am s.far a){r:Nat}(hr:(r:Int)+1<am s.far a):tch (pS n s.far tch a (r+1)) (pS n s.far tch a r)=true:=by
 obtain⟨i1,i2⟩:=uE h hsym hl ha r (by omega);exact(xS h hsym i1 (by omega)).2.2.2
end
def kA(n:Nat)(may has hasF:Nat->Bool)(tch:Nat->Nat->Bool):Int:=aS (bK n may has tch n).far hasF n
def bU(n:Nat)(may has hasF:Nat->Bool)(tch:Nat->Nat->Bool):Bool:=decide (0<=kA n may has hasF tch)
def dQ(n:Nat)(may has hasF:Nat->Bool)(tch:Nat->Nat->Bool):List Nat:=if bU n may has hasF tch then(List.range (am (bK n may has tch n).far (kA n may has hasF tch).toNat).toNat).map (pS n (bK n may has tch n).far tch (kA n may has hasF tch).toNat)else[]
theorem xT{may has hasF:Nat->Bool}{tch:Nat->Nat->Bool}(hsym:∀i j,i<n->j<n->tch i j=tch j i)(h:bU n may has hasF tch=true):
 let l:=dQ n may has hasF tch
 0<l.length∧l.length<=n∧(∀(r:Nat) x,l[r]?=some x->x<n∧may x=true∧x∉l.take r)∧(∀(r:Nat) x y,l[r]?=some x->l[r+1]?=some y->tch x y=true)∧
  (∀x,l[0]?=some x->hasF x=true)∧(∀x,l[l.length-1]?=some x->has x=true):=by
 simp only[bU,decide_eq_true_eq]at h;have hI:=mt (n:=n) (may:=may) (has:=has) (tch:=tch) n;have ha:=ru (hasF:=hasF) (far:=(bK n may has tch n).far) n
 have h':decide (0<=kA n may has hasF tch)=true:=by simpa using h
 simp only[dQ,bU,h',if_true];unfold kA at h|-;obtain⟨a1,a2,a3⟩:=ha;obtain⟨a4,a5⟩:=a3 h;generalize hA:(aS (bK n may has tch n).far hasF n).toNat=a at *
 have hl:a<n:=by omega
 have htop:=hI.top a;have hle:=hI.le;generalize bK n may has tch n=s at *;have hp:=uE hI hsym hl a4;have ht:=λ{r:Nat}=>Gl (r:=r) hI hsym hl a4
 have hget:∀(r:Nat) x,((List.range (am s.far a).toNat).map (pS n s.far tch a))[r]?=some x->(r:Int)<am s.far a∧x=pS n s.far tch a r:=by
  intro r x hx;rw[List.getElem?_map,Option.map_eq_some_iff]at hx;obtain⟨y,hy,rfl⟩:=hx;obtain⟨h1,h2⟩:=List.getElem?_eq_some_iff.1 hy;simp at h1 h2;exact⟨by omega,by rw[h2]⟩
 refine⟨by simp;omega,by simp;omega,?_,?_,?_,?_⟩
 .intro r x hx
  obtain⟨h1,rfl⟩:=hget r x hx;obtain⟨h2,h3⟩:=hp r h1;refine⟨h2,hI.may' _ (by omega),λhm=>?_⟩;obtain⟨q,hq⟩:=List.getElem?_of_mem hm;rw[List.getElem?_take]at hq;split at hq
  .rename_i hqr
   obtain⟨h4,h5⟩:=hget q _ hq;have:=(hp q h4).2;rw[<-h5,h3]at this;omega
  .cases hq
 .intro r x y hx hy
  obtain⟨h1,rfl⟩:=hget r x hx;obtain⟨h2,rfl⟩:=hget (r+1) y hy;rw[hsym _ _ (hp r h1).1 (hp (r+1) h2).1];exact ht (by omega)
 .intro x hx
  obtain⟨h1,rfl⟩:=hget 0 x hx;exact a5
 .intro x hx
  obtain⟨h1,rfl⟩:=hget _ x hx;simp only[List.length_map,List.length_range]at h1 hx|-;obtain⟨h2,h3⟩:=hp _ h1;rcases hI.back _ (show 1<=am s.far (pS n s.far tch a ((am s.far a).toNat-1)) by omega)with hb|⟨p,p1,p2,p3,p4⟩
  .exact hb.2
  .omega
set_option maxRecDepth 100000 in
@[simp] theorem Nv:dp Tryz.prog 98:=by
 have hf:=Tryz.func98;have nt:=Tryz.ntmps98;have rs:=Tryz.results98;exact GL
set_option maxRecDepth 100000 in
@[simp] theorem MZ:dp Tryz.prog 128:=by
 have hf:=Tryz.func128;have nt:=Tryz.ntmps128;have rs:=Tryz.results128;exact GL
set_option maxRecDepth 100000 in
@[simp] theorem Nw:dp Tryz.prog 64:=by
 have hf:=Tryz.func64;have nt:=Tryz.ntmps64;have rs:=Tryz.results64;exact wY
set_option maxRecDepth 100000 in
@[simp] theorem M5:dp Tryz.prog 116:=by
 have hf:=Tryz.func116;have nt:=Tryz.ntmps116;have rs:=Tryz.results116;exact wY
set_option maxRecDepth 100000 in
@[simp] theorem M6:dp Tryz.prog 120:=by
 have hf:=Tryz.func120;have nt:=Tryz.ntmps120;have rs:=Tryz.results120;exact wY
open Go.Proofs.YtpiahagjopediaaGreat
section
variable {H:Type}
theorem tP{t te:TypeId}{d:DataW H}{l:List PV}(hu:Tryz.prog.underlying t=some (.slice te))(hf:p6 Tryz.prog t d)(h:eP d=.sl l):fq d=[.sl l]:=by
 obtain⟨n,hf⟩:=hf
 cases n with
 |zero=>exact hf.elim
 |succ n=>
  simp only[fY,hu]at hf;rcases hf with rfl|⟨es,sp,rfl,_⟩
  .simp only[eP]at h;simp[fq,<-h]
  .simp only[eP]at h;simp[fq,<-h]
theorem MV{l:List α}(h:l.length=4):∃a b c d,l=[a,b,c,d]:=by
 match l,h with
 |[a,b,c,d],_=>exact⟨a,b,c,d,rfl⟩
theorem Jn:ko H Tryz.prog 50 aR (λ_=>True) (λ_=>1):=by
 intro d h;obtain⟨x,y,z,rfl⟩:=Hu (H:=H) Tryz.underlying50 Tryz.underlying2 (d:=d) h;exact⟨(x,y,z),by simp[eP,qY,fq,fL,dF],trivial,by simp[nN]⟩
def G6(v:Verd):Nat:=v.nor.length+v.left.length+v.right.length+1
def vQ(v:Verd):Prop:=v.nor.length<=9223372036854775807∧v.left.length<=9223372036854775807∧v.right.length<=9223372036854775807
theorem Gd{d:DataW H}(h:p6 Tryz.prog 89 d):∃v:Verd,fq d=[Z v.kind,bQ v.nor,Z v.pair,zs v.left,zs v.right]∧eP d=k7 v∧vQ v∧G6 v<=nN d:=by
 obtain⟨ds,rfl,h1,h2⟩:=lY Tryz.underlying89 h;obtain⟨a0,a1,a2,rfl⟩:=FE h1;obtain⟨k,rfl,_⟩:=ju (H:=H) Tryz.underlying3 (h2 0 _ _ rfl rfl);have f1:p6 Tryz.prog 51 a1:=h2 1 _ _ rfl rfl;have f2:p6 Tryz.prog 87 a2:=h2 2 _ _ rfl rfl;obtain⟨nor,e1,q1,s1⟩:=kM (H:=H) Tryz.underlying51 Jn a1 f1;obtain⟨ws,rfl,w1,w2⟩:=lY Tryz.underlying87 f2;obtain⟨b0,b1,b2,rfl⟩:=FE w1;obtain⟨pr,rfl,_⟩:=ju (H:=H) Tryz.underlying3 (w2 0 _ _ rfl rfl);have f3:p6 Tryz.prog 26 b1:=w2 1 _ _ rfl rfl;have f4:p6 Tryz.prog 26 b2:=w2 2 _ _ rfl rfl;obtain⟨l1,e3,q3,s3⟩:=ql (H:=H) b1 f3;obtain⟨l2,e4,q4,s4⟩:=ql (H:=H) b2 f4;have c1:=tP Tryz.underlying51 f1 e1;have c3:=tP Tryz.underlying26 f3 e3;have c4:=tP Tryz.underlying26 f4 e4;have n1:=qZ (λ_:Int×Int×Int=>1) (λ_=>Nat.le_refl _) nor;have n3:=qZ (λ_:Int=>1) (λ_=>Nat.le_refl _) l1;have n4:=qZ (λ_:Int=>1) (λ_=>Nat.le_refl _) l2;refine⟨⟨k,nor,pr,l1,l2⟩,by simp[fq,qY,c1,c3,c4],by simp[eP,fq,qY,c1,c3,c4,fL,dF],⟨q1.1,q3.1,q4.1⟩,?_⟩;simp only[G6,nN,oe]at *;omega
theorem HS:ko H Tryz.prog 91 aW (λc=>vQ c.v) (λc=>G6 c.v):=by
 intro d h;obtain⟨ds,rfl,h1,h2⟩:=lY Tryz.underlying91 h;obtain⟨a0,a1,a2,a3,rfl⟩:=MV h1;obtain⟨x0,rfl,_⟩:=ju (H:=H) Tryz.underlying3 (h2 0 _ _ rfl rfl);obtain⟨x1,rfl,_⟩:=ju (H:=H) Tryz.underlying3 (h2 1 _ _ rfl rfl);obtain⟨x2,rfl,_⟩:=ju (H:=H) Tryz.underlying3 (h2 2 _ _ rfl rfl);obtain⟨v,e1,_,q,s⟩:=Gd (H:=H) (h2 3 _ _ rfl rfl);refine⟨⟨x0,x1,x2,v⟩,by simp[eP,fq,qY,e1,fL,dF],q,?_⟩;simp only[nN,oe];omega
def tQ(t:Tr):Prop:=t.root.length<=9223372036854775807∧t.cells.length<=9223372036854775807∧∀c∈t.cells,vQ c.v
def KD(t:Tr):Nat:=t.root.length+(t.cells.map λc=>G6 c.v).sum
theorem HT:ko H Tryz.prog 25 da tQ KD:=by
 intro d h;obtain⟨ds,rfl,h1,h2⟩:=lY Tryz.underlying25 h;obtain⟨a,b,rfl⟩:=IG h1;have ha:p6 Tryz.prog 22 a:=h2 0 _ _ rfl rfl;have hb:p6 Tryz.prog 23 b:=h2 1 _ _ rfl rfl;obtain⟨r,e1,q1,s1⟩:=Jm (H:=H) a ha;obtain⟨cs,e2,q2,s2⟩:=kM (H:=H) Tryz.underlying23 HS b hb;have f1:=tP Tryz.underlying22 ha e1;have f2:=tP Tryz.underlying23 hb e2;have l1:=qZ (λ_:Int×Int=>1) (λ_=>Nat.le_refl _) r;refine⟨⟨r,cs⟩,by simp[eP,qY,f1,f2,fL,dF],⟨q1.1,q2.1,q2.2⟩,?_⟩;simp only at s1 s2;simp only[nN,oe,KD];omega
end
end Go.Ab
namespace Go.Ab
open Go.Proofs
theorem v8{t:Tr}(h:1<=t.cells.length):(List.replicate t.cells.length (PV.val (.slice none 0 0))).set 0 (iv t.root)=(iJ t).map nQ:=by
 obtain⟨n,hn⟩:∃n,t.cells.length=n+1:=⟨t.cells.length-1,by omega⟩;simp[iJ,hn,List.replicate_succ,nQ]
theorem cY:nQ none=.val (.slice none 0 0):=rfl
theorem cZ(b:Bx):nQ (some b)=iv b:=rfl
theorem aT{α:Type}{L:List α}{i:Nat}{x:α}(h:L[i]?=some x)(hl:i<L.length):L[i]=x:=(List.getElem?_eq_some_iff.1 h).2
theorem set_row{L:OL}{a z:Nat}{x y:Bx}:((L.map nQ).set a (iv x)).set z (iv y)=((L.set a (some x)).set z (some y)).map nQ:=by
 simp[List.map_set,nQ]
theorem u7{n i:Nat}{c:Cel}(h:jk n i c=false):c.low<=i∨(n:Int)<=c.low∨c.high<=i∨(n:Int)<=c.high∨(c.low==c.high)=true∨mm c.v=false:=by
 cases hz:mm c.v with
 |false=>exact .inr (.inr (.inr (.inr (.inr rfl))))
 |true=>
  have:¬((i:Int)<c.low∧c.low<n∧(i:Int)<c.high∧c.high<n∧c.low≠c.high∧mm c.v=true):=by rw[<-fN,h];simp
  simp only[hz,and_true]at this;simp only[beq_iff_eq];omega
theorem Jo(t:Tr)(hl:t.cells.length<=9223372036854775807):aa Tryz.prog 99 [.pv (da t)] [] [] (.pv (.tup [.sl ((ao t).map iv),B (ay t)])):=by
 have cv:=MY t.root
 cases hs:fH t with
 |false=>
  have hno:=qp (t:=t) (by simp[cK,hs]);rw[hno.1,hno.2];by_cases h1:t.cells.length<1
  .have h1':(t.cells.length:Int)<1:=by omega
   refine Dp Tryz.func99 ?_;intro C hP hN;simp only[Tryz.f99]at hN|-;exact Gy
  have h1':¬(t.cells.length:Int)<1:=by omega
  by_cases h2:2048<t.cells.length
  .have h2':(2048:Int)<t.cells.length:=by omega
   refine Dp Tryz.func99 ?_;intro C hP hN;simp only[Tryz.f99]at hN|-;exact Gy
  have h2':¬(2048:Int)<t.cells.length:=by omega
  have h3:dt t.root=false:=by
   cases h:dt t.root with
   |false=>rfl
   |true=>simp[fH,h]at hs;omega
  rw[h3]at cv;refine Dp Tryz.func99 ?_;intro C hP hN;simp only[Tryz.f99]at hN|-;exact Gy
 |true=>
  obtain⟨z1,z2,z3,z4,z5⟩:=bG.1 hs
  have h1:¬t.cells.length<1:=by omega
  have h2:¬2048<t.cells.length:=by omega
  have h1':¬(t.cells.length:Int)<1:=by omega
  have h2':¬(2048:Int)<t.cells.length:=by omega
  have h3:dt t.root=true:=by simp only[fH,Bool.and_eq_true]at hs;exact hs.2
  have hin:=v8 z1;rw[h3]at cv;refine Dp Tryz.func99 ?_;intro C hP hN;simp only[Tryz.f99]at hN|-;refine GT (gA h1' (gA h1 (gA h2 (gA h2' (gA hin (gA (show(24:Int)*t.cells.length<=281474976710656 by omega) (gA (show(t.cells.length:Int)<=9223372036854775807 by omega) (show 0<t.cells.length by omega)))))))) ?_;refine WP.loopN [7] t.cells.length (λi st=>∃L,BInv t i L∧st.t 4=.pv (Z t.cells.length)∧st.t 5=.arr 27 t.cells.length∧st.t 33=.pv (.sl (t.cells.map aW))∧st.t 34=.pv (Z t.cells.length)∧st.t 35=.pv (Z i)∧st.h 7=none∧st.h 27=some (.row 22 1 (L.map nQ) 0)) (by exact⟨iJ t,tR hs,by simp[hin]⟩) ?_;rintro i st hi ⟨L,hB,g4,g5,g33,g34,g35,hb7,hb27⟩;have hLl:=hB.bok.len;by_cases hlt:i<t.cells.length
  .have hw:=au hlt hl
   have hlL:i<L.length:=by omega
   generalize hc:t.cells[i]=c at *
   have hci:t.cells[i]?=some c:=by rw[List.getElem?_eq_getElem hlt,hc]
   have bad:eM t.cells.length i c L=none->ay t=false∧ao t=[]:=λh=>qp (tS hB hlt (by rw[hc];exact h));have cl:=Gg c;have cf:=Ju c.v;have cz:=MW c.v
   cases hx:L[i]? with
   |none=>rw[List.getElem?_eq_getElem hlL]at hx;cases hx
   |some x=>
   cases x with
   |none=>
    have hx':=aT hx hlL;obtain⟨e1,e2⟩:=bad (by simp[eM,hx]);rw[e1,e2];exact GS (gA g4 (gA g5 (gA g33 (gA g34 (gA g35 (gA hb7 (gA hb27 (gA hlt (gA hw (gA hx (gA hx' (gA @cY (gA @cZ (gA hci (gA hc hLl)))))))))))))))
   |some b=>
   have hx':=aT hx hlL;obtain⟨hbl,hbv⟩:=hB.bok.ok i b hx
   have hb2:b≠[]:=by intro h;rw[h]at hbl;simp at hbl;omega
   have hb1:b.isEmpty=false:=by simp[hb2]
   cases hlf:cO c with
   |true=>
    rw[hlf]at cl
    cases hf:dW c.v with
    |true=>
     rw[hf]at cf;have hnx:=nD (L':=L) hB hlt (by rw[hc,i7 (t:=t) hx hlf,hf];rfl);refine GT (gA g4 (gA g5 (gA g33 (gA g34 (gA g35 (gA hb7 (gA hb27 (gA hlt (gA hw (gA hx (gA hx' (gA @cY (gA @cZ (gA hci (gA hc (gA hLl (gA hb1 hb2))))))))))))))))) ?_
     all_goals exact⟨L,hnx,rfl⟩
    |false=>
     rw[hf]at cf;obtain⟨e1,e2⟩:=bad (by rw[i7 (t:=t) hx hlf,hf];rfl);rw[e1,e2];exact GS (gA g4 (gA g5 (gA g33 (gA g34 (gA g35 (gA hb7 (gA hb27 (gA hlt (gA hw (gA hx (gA hx' (gA @cY (gA @cZ (gA hci (gA hc (gA hLl (gA hb1 hb2)))))))))))))))))
   |false=>
    rw[hlf]at cl
    cases hin':jk t.cells.length i c with
    |false=>
     obtain⟨e1,e2⟩:=bad (ka hx hlf (.inl hin'));rw[e1,e2];rcases u7 hin' with h|h|h|h|h|h
     all_goals try rw[h]at cz
     all_goals
      exact GS (gA g4 (gA g5 (gA g33 (gA g34 (gA g35 (gA hb7 (gA hb27 (gA hlt (gA hw (gA hx (gA hx' (gA @cY (gA @cZ (gA hci (gA hc (gA hLl (gA hb1 (gA hb2 h))))))))))))))))))
    |true=>
     obtain⟨i1,i2,i3,i4,i5,i6⟩:=fN.1 hin';rw[i6]at cz;have ch:=Ir b c.joint (by omega)
     have j1:¬c.low<=i:=by omega
     have j2:¬(t.cells.length:Int)<=c.low:=by omega
     have j3:¬c.high<=i:=by omega
     have j4:¬(t.cells.length:Int)<=c.high:=by omega
     have k1:c.low.toNat<t.cells.length:=by omega
     have k2:c.high.toNat<t.cells.length:=by omega
     have k3:0<=c.low:=by omega
     have k4:0<=c.high:=by omega
     have k5:c.low.toNat<L.length:=by omega
     have k6:c.high.toNat<L.length:=by omega
     cases hh:br b c.joint with
     |false=>
      obtain⟨e1,e2⟩:=bad (ka hx hlf (.inr (.inl hh)));rw[e1,e2];rw[hh]at ch;exact GS (gA g4 (gA g5 (gA g33 (gA g34 (gA g35 (gA hb7 (gA hb27 (gA hlt (gA hw (gA hx (gA hx' (gA @cY (gA @cZ (gA hci (gA hc (gA hLl (gA hb1 (gA hb2 (gA j1 (gA j2 (gA j3 (gA j4 i5))))))))))))))))))))))
     |true=>
     rw[hh]at ch
     cases ha:L[c.low.toNat]? with
     |none=>rw[List.getElem?_eq_getElem k5]at ha;cases ha
     |some xa=>
     have ha':=aT ha k5
     cases xa with
     |some d=>
      obtain⟨e1,e2⟩:=bad (ka hx hlf (.inr (.inr (.inl ⟨d,ha⟩))));rw[e1,e2];obtain⟨hdl,_⟩:=hB.bok.ok _ d ha
      have hd2:d≠[]:=by intro h;rw[h]at hdl;simp at hdl;omega
      have hd1:d.isEmpty=false:=by simp[hd2]
      with_reducible repeat' (first|refine Sp.h ?_|((first|refine Wd ?_|refine Ss.h ?_|refine Sc.h (cl) ?_|refine Sc.h (cz) ?_|refine Sc.h (ch) ?_|(refine Sb.h ?_ ?_ ?_<;>(try intro hgd)<;>try exact Xy))<;>simp -implicitDefEqProofs (maxSteps:=2000000) [hP,hN,g4,g5,g33,g34,g35,hb7,hb27,hlt,hw,hx,hx',cY,cZ,hci,hc,hLl,hb1,hb2,j1,j2,j3,j4,i5,k1,k2,k3,k4,ha,ha',hd1,hd2]<;>try refine Ya ?_)|refine X2 ?_ ?_|(refine Xd ?_ ?_<;>intro hcd<;>try exact Xx))
     |none=>
     cases hz:L[c.high.toNat]? with
     |none=>rw[List.getElem?_eq_getElem k6]at hz;cases hz
     |some xz=>
     have hz':=aT hz k6
     cases xz with
     |some d=>
      obtain⟨e1,e2⟩:=bad (ka hx hlf (.inr (.inr (.inr ⟨d,hz⟩))));rw[e1,e2];obtain⟨hdl,_⟩:=hB.bok.ok _ d hz
      have hd2:d≠[]:=by intro h;rw[h]at hdl;simp at hdl;omega
      have hd1:d.isEmpty=false:=by simp[hd2]
      with_reducible repeat' (first|refine Sp.h ?_|((first|refine Wd ?_|refine Ss.h ?_|refine Sc.h (cl) ?_|refine Sc.h (cz) ?_|refine Sc.h (ch) ?_|(refine Sb.h ?_ ?_ ?_<;>(try intro hgd)<;>try exact Xy))<;>simp -implicitDefEqProofs (maxSteps:=2000000) [hP,hN,g4,g5,g33,g34,g35,hb7,hb27,hlt,hw,hx,hx',cY,cZ,hci,hc,hLl,hb1,hb2,j1,j2,j3,j4,i5,k1,k2,k3,k4,ha,ha',hz,hz',hd1,hd2]<;>try refine Ya ?_)|refine X2 ?_ ?_|(refine Xd ?_ ?_<;>intro hcd<;>try exact Xx))
     |none=>
      have hnx:=nD hB hlt (by rw[hc];exact ot hx hlf hin' hh ha hz)
      with_reducible repeat' (first|refine Sp.h ?_|((first|refine Wd ?_|refine Ss.h ?_|refine Sc.h (cl) ?_|refine Sc.h (cz) ?_|refine Sc.h (ch) ?_|(refine Sb.h ?_ ?_ ?_<;>(try intro hgd)<;>try exact Xy))<;>simp -implicitDefEqProofs (maxSteps:=2000000) [hP,hN,g4,g5,g33,g34,g35,hb7,hb27,hlt,hw,hx,hx',cY,cZ,hci,hc,hLl,hb1,hb2,j1,j2,j3,j4,i5,k1,k2,k3,k4,ha,ha',hz,hz']<;>try refine Ya ?_)|refine X2 ?_ ?_|(refine Xd ?_ ?_<;>intro hcd<;>try exact Xx))
      all_goals exact⟨_,hnx,set_row⟩
  .have hdn:=qm hB hlt
   have hmap:=wg hdn
   have hval:ay t=true:=by simp[ay,hdn]
   rw[hval,<-hmap];exact GS (gA g4 (gA g5 (gA g33 (gA g34 (gA g35 (gA hb7 (gA hb27 (gA hlt hLl))))))))
end Go.Ab
