/- The contracts and facts that the laws of this seat need, in one text (Co14, Co15, Co16, Co17, Co18, L30, Co12, Co11, Co19, Co20). -/
import Derived.Test.YtelhehdhaakiiaaGreatV8
set_option linter.all false
set_option maxHeartbeats 16000000
namespace Go.Ab
open Go.Proofs
theorem NM {α β : Type} (f : α→β) {l : List α} {i : Nat} {x : α} (hx : l[i]?=some x) : (l.take i).map f++[f x]=(l.take (i+1)).map f:=by
 obtain ⟨hi,rfl⟩:=List.getElem?_eq_some_iff.1 hx
 rw [List.take_succ_eq_append_getElem hi,List.map_append];rfl
def O5 (ns : List V3) (k : Nat) (h : Hp) : Prop:=(k=0∧h 7=some (.box [.pv (Z 0),.pv (Z 0),.pv (.val (.slice none 0 0))] true false)∧h 62=none)∨(0 < k∧h 7=some (.box [.pv (Z 0),.pv (Z 0),.arr 62 k] true false)∧h 62=some (.row 77 3 ((ns.take k).map aH) 0))
theorem Pn (ns : List V3) (hl : ns.length≤1048576) : ab Tryz.prog 44 [.pv (mr ns)] [] [] (.pv (.tup [.sl [t8 ns],B true])):=by
 have w1 : IntKind.i64.wrap 1=1:=by decide
 have hM:=lC ns ns.length (Nat.le_refl _)
 have hT:=qT ns ns.length
 have hbk:=fun (i : Nat) (v : V3) (h : i < ns.length) (hv : ns[i]?=some v)=>Ng (Nat.le_refl _) h hv
 simp only [mr]
 generalize db ns ns.length=T at *
 generalize jr ns ns.length=M at *
 refine Dp Tryz.func44 ?_
 intro C hP hN
 simp only [Tryz.f44] at hN ⊢
 with_reducible repeat' (first|refine Sp.h ?_|((first|refine Wd ?_|refine Ss.h ?_|(refine Sb.h ?_ ?_ ?_<;>(try intro hgd)<;>try exact Xy))<;>simp -implicitDefEqProofs (maxSteps:=2000000) [hP,hN]<;>try refine Ya ?_)|refine X2 ?_ ?_|(refine Xd ?_ ?_<;>intro hcd<;>try exact Xx))
 refine WP.loopN [6,7,62] 1 (fun i st=>st.t 1=.ptr 1 0∧st.h 1=some (.box [.pv (aR T),.pv (.sl [.agg [Z 0,Z 0,zs M]])] true false)∧st.t 5=.pv (Z i)∧st.h 6=none∧st.h 7=none∧st.h 62=none∧((i=0∧st.t 4=.pv (.val (.slice none 0 0))∧st.h 67=none)∨(i=1∧st.t 4=.arr 67 1∧st.h 67=some (.row 111 3 [t8 ns] 0)))) (by simp) ?_
 rintro i st hi ⟨g1,b1,g5,b6,b7,b62,hO⟩
 rcases hO with ⟨hi0,g4,b67⟩|⟨hi1,g4,b67⟩
 ·subst hi0
  with_reducible repeat' (first|refine Sp.h ?_|((first|refine Wd ?_|refine Ss.h ?_|(refine Sb.h ?_ ?_ ?_<;>(try intro hgd)<;>try exact Xy))<;>simp -implicitDefEqProofs (maxSteps:=2000000) [hP,hN,g1,b1,g5,b6,b7,b62,g4,b67]<;>try refine Ya ?_)|refine X2 ?_ ?_|(refine Xd ?_ ?_<;>intro hcd<;>try exact Xx))
  refine WP.loopN [] ns.length (fun k st=>st.t 1=.ptr 1 0∧st.h 1=some (.box [.pv (aR T),.pv (.sl [.agg [Z 0,Z 0,zs M]])] true false)∧st.t 4=.pv (.val (.slice none 0 0))∧st.t 5=.pv (Z (0 : Nat))∧st.t 6=.ptr 6 0∧st.h 6=some (.box [.pv (Z 0),.pv (Z 0),.pv (zs M)] true false)∧st.t 7=.ptr 7 0∧st.t 8=.pv (Z k)∧st.h 67=none∧O5 ns k st.h) (by simp [O5,g1,b1,g4,g5,b62,b67]) ?_
  clear g1 b1 g5 b6 b7 b62 g4 b67
  rintro k st hk ⟨g1,b1,g4,g5,g6,b6,g7,g8,b67,hR⟩
  by_cases hlt : k < ns.length
  ·have hw:=ak hlt (by omega)
   have hx : ns[k]?=some ns[k]:=List.getElem?_eq_getElem hlt
   obtain ⟨j,hj1,hj2⟩:=hbk k _ hlt hx
   have hst:=NM aH hx
   generalize hxe : ns[k]=v at *
   have hkM : k < M.length:=by omega
   have hje : M[k]=(j : Int):=(List.getElem?_eq_some_iff.1 hj1).2
   have hjl:=(List.getElem?_eq_some_iff.1 hj2).1
   have hjv : ∀ h,T[j]'h=v:=fun h=>(List.getElem?_eq_some_iff.1 hj2).2
   have hf2 : (k+1) * 24≤140737488355328:=by omega
   have hf3 : k+1≤9223372036854775807:=by omega
   have htl : min k ns.length=k:=by omega
   simp only [List.map_take] at hst
   have n1 : ¬ (j : Int) < 0:=by omega
   have n2 : ¬ T.length≤j:=by omega
   rcases hR with ⟨hk0,b7,b62⟩|⟨hkp,b7,b62⟩
   ·subst hk0
    simp only [List.take_zero,List.nil_append,Nat.zero_add] at hst
    with_reducible repeat' (first|refine Sp.h ?_|((first|refine Wd ?_|refine Ss.h ?_|(refine Sb.h ?_ ?_ ?_<;>(try intro hgd)<;>try exact Xy))<;>simp -implicitDefEqProofs (maxSteps:=2000000) [hP,hN,g1,b1,g4,g5,g6,b6,g7,g8,b67,b7,b62,hlt,hw,w1,hx,hxe,hj1,hj2,hkM,hje,hjl,hjv,n1,n2]<;>try refine Ya ?_)|refine X2 ?_ ?_|(refine Xd ?_ ?_<;>intro hcd<;>try exact Xx))
    all_goals (refine .inr ⟨by omega,?_⟩;simp [b7,b62,hst])
   ·skip
    with_reducible repeat' (first|refine Sp.h ?_|((first|refine Wd ?_|refine Ss.h ?_|(refine Sb.h ?_ ?_ ?_<;>(try intro hgd)<;>try exact Xy))<;>simp -implicitDefEqProofs (maxSteps:=2000000) [hP,hN,g1,b1,g4,g5,g6,b6,g7,g8,b67,b7,b62,hlt,hw,hx,hxe,hj1,hj2,hkM,hje,hjl,hjv,n1,n2,hf2,hf3,htl]<;>try refine Ya ?_)|refine X2 ?_ ?_|(refine Xd ?_ ?_<;>intro hcd<;>try exact Xx))
    all_goals (refine .inr ⟨by omega,?_⟩;simp [b7,b62,hst])
  ·have hkc : k=ns.length:=by omega
   subst hkc
   have hMn : ¬ ns.length < M.length:=by omega
   rcases hR with ⟨hk0,b7,b62⟩|⟨hkp,b7,b62⟩
   ·have hns : ns=[]:=by simpa using hk0
    subst hns
    have hM0 : M=[]:=by simpa using hM
    subst hM0
    with_reducible repeat' (first|refine Sp.h ?_|((first|refine Wd ?_|refine Ss.h ?_|(refine Sb.h ?_ ?_ ?_<;>(try intro hgd)<;>try exact Xy))<;>simp -implicitDefEqProofs (maxSteps:=2000000) [hP,hN,g1,b1,g4,g5,g6,b6,g7,g8,b67,b7,b62,w1]<;>try refine Ya ?_)|refine X2 ?_ ?_|(refine Xd ?_ ?_<;>intro hcd<;>try exact Xx))
   ·rw [List.take_length] at b62
    refine WP.freezeB 7 2 (k:=62) b7 (by simp) b62 ?_
    with_reducible repeat' (first|refine Sp.h ?_|((first|refine Wd ?_|refine Ss.h ?_|(refine Sb.h ?_ ?_ ?_<;>(try intro hgd)<;>try exact Xy))<;>simp -implicitDefEqProofs (maxSteps:=2000000) [hP,hN,g1,b1,g4,g5,g6,b6,g7,g8,b67,b7,b62,hMn,hM,w1]<;>try refine Ya ?_)|refine X2 ?_ ?_|(refine Xd ?_ ?_<;>intro hcd<;>try exact Xx))
 ·subst hi1
  with_reducible repeat' (first|refine Sp.h ?_|((first|refine Wd ?_|refine Ss.h ?_|(refine Sb.h ?_ ?_ ?_<;>(try intro hgd)<;>try exact Xy))<;>simp -implicitDefEqProofs (maxSteps:=2000000) [hP,hN,g1,b1,g5,b6,b7,b62,g4,b67]<;>try refine Ya ?_)|refine X2 ?_ ?_|(refine Xd ?_ ?_<;>intro hcd<;>try exact Xx))
end Go.Ab
namespace Go.Ab
open Go.Proofs
theorem Pc (ns : List V3) : ab Tryz.prog 112 [.pv (t8 ns)] [] [] (.pv (.tup [Z 0,Z 1048576,B true])):=by
 have w0 : IntKind.i64.wrap (20 - 0)=20:=by decide
 have w1 : IntKind.i64.wrap (0 * 1048576)=0:=by decide
 have w2 : IntKind.i64.wrap 0=0:=by decide
 have w3 : IntKind.i64.wrap 20=20:=by decide
 have w4 : IntKind.i64.wrap 1=1:=by decide
 have w5 : IntKind.i64.wrap 1048576=1048576:=by decide
 refine Dp Tryz.func112 ?_
 intro C hP hN
 simp only [Tryz.f112] at hN ⊢
 have u0 : IntKind.u64.wrap 0=0:=by decide
 have u1 : IntKind.u64.wrap 20=20:=by decide
 have u2 : IntKind.i64.wrap (2 ^ min 20 IntKind.i64.bits)=1048576:=by decide
 with_reducible repeat' (first|refine Sp.h ?_|((first|refine Ss.h ?_|(refine Sb.h ?_ ?_ ?_<;>(try intro hgd)<;>try exact Xy))<;>simp -implicitDefEqProofs (maxSteps:=2000000) [hP,hN,w0,w1,w2,w3,w4,w5,u0,u1,u2])|refine X2 ?_ ?_|(refine Xd ?_ ?_<;>intro hcd<;>try exact Xx))
 all_goals exact u2
theorem Po (ns : List V3) : ab Tryz.prog 78 [.pv (.sl [t8 ns])] [] [] (.pv (.tup [Z 1,B true])):=by
 have cb:=Pc ns
 have w1 : IntKind.i64.wrap 1=1:=by decide
 have w2 : IntKind.i64.wrap 1048576=1048576:=by decide
 refine Dp Tryz.func78 ?_
 intro C hP hN
 simp only [Tryz.f78] at hN ⊢
 with_reducible repeat' (first|refine Sp.h ?_|((first|refine Ss.h ?_|(refine Sb.h ?_ ?_ ?_<;>(try intro hgd)<;>try exact Xy))<;>simp -implicitDefEqProofs (maxSteps:=2000000) [hP,hN])|refine X2 ?_ ?_|(refine Xd ?_ ?_<;>intro hcd<;>try exact Xx))
 refine WP.loopN [] 1 (fun i st=>st.t 0=.pv (.sl [t8 ns])∧st.t 5=.pv (Z i)∧st.t 4=.pv (Z (1048576 * (i : Int)))) (by simp) ?_
 rintro i st hi ⟨g0,g5,g4⟩
 by_cases hlt : i < 1
 ·have hi0 : i=0:=by omega
  subst hi0
  with_reducible repeat' (first|refine Sp.h ?_|((first|refine Ss.h ?_|refine Sc.h (cb) ?_|(refine Sb.h ?_ ?_ ?_<;>(try intro hgd)<;>try exact Xy))<;>simp -implicitDefEqProofs (maxSteps:=2000000) [hP,hN,g0,g5,g4,w1,w2])|refine X2 ?_ ?_|(refine Xd ?_ ?_<;>intro hcd<;>try exact Xx))
 ·have hi1 : i=1:=by omega
  subst hi1
  with_reducible repeat' (first|refine Sp.h ?_|((first|refine Ss.h ?_|(refine Sb.h ?_ ?_ ?_<;>(try intro hgd)<;>try exact Xy))<;>simp -implicitDefEqProofs (maxSteps:=2000000) [hP,hN,g0,g5,g4])|refine X2 ?_ ?_|(refine Xd ?_ ?_<;>intro hcd<;>try exact Xx))
end Go.Ab
namespace Go.Ab
open Go.Proofs
theorem ON (s : Sce) (p q : List Int) (hs : ScL s) (h0 : az s=0) (hp : eU s.js s.ms p=true) (hq : eU s.js s.ms q=true) : ab Tryz.prog 77 [.pv (eN s),.pv (zs p),.pv (zs q)] [] [] (.pv (B true)):=by
 have cs:=yR s hs
 have c1:=GR s.js s.ms p hs.js hs.ms
 have c2:=GR s.js s.ms q hs.js hs.ms
 rw [h0] at cs
 rw [hp] at c1
 rw [hq] at c2
 obtain ⟨js,ms,SH,sks⟩:=s
 simp only at c1 c2
 refine Dp Tryz.func77 ?_
 intro C hP hN
 simp only [Tryz.f77] at hN ⊢
 with_reducible repeat' (first|refine Sp.h ?_|((first|refine Ss.h ?_|refine Sc.h (cs) ?_|refine Sc.h (c1) ?_|refine Sc.h (c2) ?_|(refine Sb.h ?_ ?_ ?_<;>(try intro hgd)<;>try exact Xy))<;>simp -implicitDefEqProofs (maxSteps:=2000000) [hP,hN])|refine X2 ?_ ?_|(refine Xd ?_ ?_<;>intro hcd<;>try exact Xx))
theorem Oy (s : Sce) (p q : List Int) (ns : List V3) (hs : ScL s) (h0 : az s=0) (hp : eU s.js s.ms p=true) (hq : eU s.js s.ms q=true) (hpl : p.length≤16777216) (hql : q.length≤16777216) (hbl : (dk p q 0 0).1.length≤16777216) (hn : ns.length≤1048576) (hF : wV s (dk p q 0 0).1 ns=true) : ab Tryz.prog 45 [.pv (eN s),.pv (zs p),.pv (zs q),.pv (.sl [t8 ns])] [] [] (.pv (.tup [Z 0,Z 0])):=by
 have cs:=yR s hs
 have cr:=ON s p q hs h0 hp hq
 have cc:=Po ns
 have cp:=Pm p q 0 0 hpl hql
 have cf:=Pr s (dk p q 0 0).1 ns hs (by omega) (by omega)
 have w1 : IntKind.i64.wrap 1=1:=by decide
 rw [h0] at cs
 rw [hF] at cf
 generalize dk p q 0 0=R at *
 obtain ⟨bx,fl⟩:=R
 simp only at cp cf
 clear hF h0 hs
 obtain ⟨js,ms,SH,sks⟩:=s
 refine Dp Tryz.func45 ?_
 intro C hP hN
 simp only [Tryz.f45] at hN ⊢
 with_reducible repeat' (first|refine Sp.h ?_|((first|refine Wd ?_|refine Ss.h ?_|refine Sc.h (cs) ?_|refine Sc.h (cr) ?_|refine Sc.h (cc) ?_|(refine Sb.h ?_ ?_ ?_<;>(try intro hgd)<;>try exact Xy))<;>simp -implicitDefEqProofs (maxSteps:=2000000) [hP,hN]<;>try refine Ya ?_)|refine X2 ?_ ?_|(refine Xd ?_ ?_<;>intro hcd<;>try exact Xx))
 refine WP.loopN [] 1 (fun i st=>st.t 1=.pv (zs p)∧st.t 2=.pv (zs q)∧st.t 3=.pv (.sl [t8 ns])∧st.t 4=.ptr 4 0∧st.h 4=some (.box [.pv (.sl (js.map bT)),.pv (.sl (ms.map bY)),.pv (.sl (SH.map du)),.pv (.sl (sks.map aJ))] true false)∧st.t 12=.pv (Z i)) (by simp) ?_
 rintro i st hi ⟨g1,g2,g3,g4,b4,g12⟩
 by_cases hlt : i < 1
 ·have hi0 : i=0:=by omega
  subst hi0
  with_reducible repeat' (first|refine Sp.h ?_|((first|refine Wd ?_|refine Ss.h ?_|refine Sc.h (cp) ?_|refine Sc.h (cf) ?_|(refine Sb.h ?_ ?_ ?_<;>(try intro hgd)<;>try exact Xy))<;>simp -implicitDefEqProofs (maxSteps:=2000000) [hP,hN,g1,g2,g3,g4,b4,g12,w1]<;>try refine Ya ?_)|refine X2 ?_ ?_|(refine Xd ?_ ?_<;>intro hcd<;>try exact Xx))
 ·have hi1 : i=1:=by omega
  subst hi1
  with_reducible repeat' (first|refine Sp.h ?_|((first|refine Wd ?_|refine Ss.h ?_|(refine Sb.h ?_ ?_ ?_<;>(try intro hgd)<;>try exact Xy))<;>simp -implicitDefEqProofs (maxSteps:=2000000) [hP,hN,g1,g2,g3,g4,b4,g12]<;>try refine Ya ?_)|refine X2 ?_ ?_|(refine Xd ?_ ?_<;>intro hcd<;>try exact Xx))
end Go.Ab
namespace Go.Ab
open Go.Proofs
theorem Oz (s : Sce) (ps : List (List Int)) (hs : ScL s) (h0 : az s=0) (h2 : 2≤ps.length) (h3 : ps.length≤256) (hp : ∀ x ∈ ps,eU s.js s.ms x=true) : ab Tryz.prog 43 [.pv (eN s),.pv (.sl (ps.map zs))] [] [] (.pv (.tup [Z 0,Z 0])):=by
 have cs:=yR s hs
 rw [h0] at cs
 have ci:=fun (x : List Int)=>GR s.js s.ms x hs.js hs.ms
 have h2' : ¬ (ps.length : Int) < 2:=by omega
 have h3' : ¬ (256 : Int) < ps.length:=by omega
 clear h0 hs
 obtain ⟨js,ms,SH,sks⟩:=s
 simp only at ci hp
 refine Dp Tryz.func43 ?_
 intro C hP hN
 simp only [Tryz.f43] at hN ⊢
 with_reducible repeat' (first|refine Sp.h ?_|((first|refine Wd ?_|refine Ss.h ?_|refine Sc.h (cs) ?_|(refine Sb.h ?_ ?_ ?_<;>(try intro hgd)<;>try exact Xy))<;>simp -implicitDefEqProofs (maxSteps:=2000000) [hP,hN,h2',h3']<;>try refine Ya ?_)|refine X2 ?_ ?_|(refine Xd ?_ ?_<;>intro hcd<;>try exact Xx))
 refine WP.loopN [] ps.length (fun i st=>st.t 1=.pv (.sl (ps.map zs))∧st.t 2=.ptr 2 0∧st.h 2=some (.box [.pv (.sl (js.map bT)),.pv (.sl (ms.map bY)),.pv (.sl (SH.map du)),.pv (.sl (sks.map aJ))] true false)∧st.t 6=.pv (Z i)) (by simp) ?_
 rintro i st hi ⟨g1,g2,b2,g6⟩
 by_cases hlt : i < ps.length
 ·have hw:=ak hlt (by omega)
  have hx : ps[i]?=some ps[i]:=List.getElem?_eq_getElem hlt
  have c1:=ci ps[i]
  rw [hp _ (List.getElem_mem hlt)] at c1
  generalize hxe : ps[i]=x at *
  with_reducible repeat' (first|refine Sp.h ?_|((first|refine Wd ?_|refine Ss.h ?_|refine Sc.h (c1) ?_|(refine Sb.h ?_ ?_ ?_<;>(try intro hgd)<;>try exact Xy))<;>simp -implicitDefEqProofs (maxSteps:=2000000) [hP,hN,g1,g2,b2,g6,hlt,hw,hx,hxe]<;>try refine Ya ?_)|refine X2 ?_ ?_|(refine Xd ?_ ?_<;>intro hcd<;>try exact Xx))
 ·skip
  with_reducible repeat' (first|refine Sp.h ?_|((first|refine Wd ?_|refine Ss.h ?_|(refine Sb.h ?_ ?_ ?_<;>(try intro hgd)<;>try exact Xy))<;>simp -implicitDefEqProofs (maxSteps:=2000000) [hP,hN,g1,g2,b2,g6,hlt]<;>try refine Ya ?_)|refine X2 ?_ ?_|(refine Xd ?_ ?_<;>intro hcd<;>try exact Xx))
theorem OA (s : Sce) (ps : List (List Int)) (nss : List (List V3)) (hs : ScL s) (h0 : az s=0) (hl : ps.length=nss.length+1) (h1 : 1≤nss.length) (h3 : nss.length≤255) (hp : ∀ x ∈ ps,eU s.js s.ms x=true) (hpl : ∀ x ∈ ps,x.length≤16777216) (hnn : ∀ x ∈ nss,x.length≤1048576) (hF : ∀ i p q ns,ps[i]?=some p→ps[i+1]?=some q→nss[i]?=some ns→(dk p q 0 0).1.length≤16777216∧wV s (dk p q 0 0).1 ns=true) : ab Tryz.prog 16 [.pv (eN s),.pv (jJ ps (nss.map lY))] [] [] (.pv (.tup [Z 0,Z 0])):=by
 have cc:=Oz s ps hs h0 (by omega) (by omega) hp
 have ce:=fun (i : Nat) (p q : List Int) (ns : List V3) (a : ps[i]?=some p) (b : ps[i+1]?=some q) (c : nss[i]?=some ns)=>Oy s p q ns hs h0 (hp _ (List.mem_of_getElem? a)) (hp _ (List.mem_of_getElem? b)) (hpl _ (List.mem_of_getElem? a)) (hpl _ (List.mem_of_getElem? b)) (hF i p q ns a b c).1 (hnn _ (List.mem_of_getElem? c)) (hF i p q ns a b c).2
 have hw0 : IntKind.i64.wrap ((ps.length : Int) - 1)=(nss.length : Int):=by rw [hl,IntKind.wrap_i64];omega
 have hne : ((nss.length : Int) !=(nss.length : Int))=false:=by simp
 clear hF hp hs h0
 obtain ⟨js,ms,SH,sks⟩:=s
 refine Dp Tryz.func16 ?_
 intro C hP hN
 simp only [Tryz.f16] at hN ⊢
 with_reducible repeat' (first|refine Sp.h ?_|((first|refine Wd ?_|refine Ss.h ?_|refine Sc.h (cc) ?_|(refine Sb.h ?_ ?_ ?_<;>(try intro hgd)<;>try exact Xy))<;>simp -implicitDefEqProofs (maxSteps:=2000000) [hP,hN,hw0,hne]<;>try refine Ya ?_)|refine X2 ?_ ?_|(refine Xd ?_ ?_<;>intro hcd<;>try exact Xx))
 refine WP.loopN [] nss.length (fun i st=>st.t 2=.ptr 2 0∧st.h 2=some (.box [.pv (.sl (js.map bT)),.pv (.sl (ms.map bY)),.pv (.sl (SH.map du)),.pv (.sl (sks.map aJ))] true false)∧st.t 3=.ptr 3 0∧st.h 3=some (.box [.pv (.sl (ps.map zs)),.pv (.sl (nss.map lY))] true false)∧st.t 8=.pv (Z i)) (by simp) ?_
 rintro i st hi ⟨g2,b2,g3,b3,g8⟩
 by_cases hlt : i < nss.length
 ·have hw:=ak hlt (by omega)
  have hx : nss[i]?=some nss[i]:=List.getElem?_eq_getElem hlt
  have l1 : i < ps.length:=by omega
  have l2 : i+1 < ps.length:=by omega
  have ha : ps[i]?=some ps[i]:=List.getElem?_eq_getElem l1
  have hb : ps[i+1]?=some ps[i+1]:=List.getElem?_eq_getElem l2
  have c1:=ce i _ _ _ ha hb hx
  have cu:=Pn nss[i] (hnn _ (List.getElem_mem hlt))
  have ht1 : ((i : Int)+1).toNat=i+1:=by omega
  have hn1 : (0 : Int)≤(i : Int)+1:=by omega
  have hl2 : (i : Int)+1 < (ps.length : Int):=by omega
  generalize hxe : nss[i]=ns at *
  generalize hae : ps[i]=p at *
  generalize hbe : ps[i+1]=q at *
  with_reducible repeat' (first|refine Sp.h ?_|((first|refine Wd ?_|refine Ss.h ?_|refine Sc.h (cu) ?_|refine Sc.h (c1) ?_|(refine Sb.h ?_ ?_ ?_<;>(try intro hgd)<;>try exact Xy))<;>simp -implicitDefEqProofs (maxSteps:=2000000) [hP,hN,g2,b2,g3,b3,g8,hlt,hw,hx,hxe,ha,hae,hb,hbe,l1,l2,ht1,hn1,hl2]<;>try refine Ya ?_)|refine X2 ?_ ?_|(refine Xd ?_ ?_<;>intro hcd<;>try exact Xx))
 ·skip
  with_reducible repeat' (first|refine Sp.h ?_|((first|refine Wd ?_|refine Ss.h ?_|(refine Sb.h ?_ ?_ ?_<;>(try intro hgd)<;>try exact Xy))<;>simp -implicitDefEqProofs (maxSteps:=2000000) [hP,hN,g2,b2,g3,b3,g8,hlt]<;>try refine Ya ?_)|refine X2 ?_ ?_|(refine Xd ?_ ?_<;>intro hcd<;>try exact Xx))
end Go.Ab
namespace Go.Ab
open Go.Proofs
def A3 (s : Sce) (t : Tr) : Prop:=∀ k : Nat,k < t.cells.length→(ed t k).kind=1→wV s (aq t (k : Int)) (ed t k).nor=true
theorem N9 {s : Sce} {bx : List Iv} {hs : List Vc} (h : (iV s bx hs).kind=1) : wV s bx (iV s bx hs).ns=true:=by
 rcases EA s bx hs with ⟨w,h1,_⟩|⟨ns,h1,h2⟩|⟨ns,h1,_⟩
 ·rw [h1] at h;cases h
 ·rw [h1];exact h2
 ·rw [h1] at h;cases h
theorem OB {t : Tr} {k m : Nat} {V : Verd} (hk : k < t.cells.length) : ed (dD t k V) m=if m=k then V else ed t m:=by
 unfold ed dD
 simp only
 by_cases e : m=k
 ·subst e;rw [List.getElem?_set_self hk];simp [bh]
 ·rw [List.getElem?_set_ne (fun h=>e h.symm),if_neg e]
theorem Oa {t u : Tr} (h : af u=af t) (i : Int) : aq u i=aq t i:=by simp [aq,h]
theorem MZ {s : Sce} {t : Tr} (h0 : az s=0) (hI : DeI s t) {k : Nat} (hk : cZ t k=true) (hlt : k < t.cells.length) (hz : (ed t k).kind=0) (hF : A3 s t) : A3 s (dW s t (k : Int)):=by
 obtain ⟨_,e1,_⟩:=ua h0 hI hk hlt hz
 obtain ⟨b1,b2⟩:=BF hI.valid hlt
 have hin : jp s.js s.ms (dO t (k : Int))=true:=by
  rw [b2]
  exact Es (rT h0) (by rw [← hI.root];exact Bf hI.valid hlt)
 have hp : pP s t (k : Int)=true:=by simp [pP,h0,b1,hin]
 have e2 : dW s t (k : Int)=dh t (k : Int) (kY s t (k : Int)):=by rw [dW,if_pos hp]
 have hb : af (dW s t (k : Int))=af t:=by rw [e2];exact (xE hI.valid (k : Int) (kY s t (k : Int))).2.2.2
 intro m hm h1
 rw [Oa hb]
 have hl : (dW s t (k : Int)).cells.length=t.cells.length:=by rw [e1];simp [dD]
 rw [e1,OB hlt] at h1 ⊢
 by_cases e : m=k
 ·subst e
  rw [if_pos rfl] at h1 ⊢
  have hV : kY s t (m : Int)=jS (iV s (aq t (m : Int)) (ed t m).nor):=by simp [kY,b2]
  rw [hV] at h1 ⊢
  exact N9 h1
 ·rw [if_neg e] at h1 ⊢
  exact hF m (by omega) h1
theorem OZ {s : Sce} {t : Tr} {a b : Int} (h0 : az s=0) (hI : DeI s t) (hn : Nx t a b) (hl : t.cells.length+2≤2048) (hF0 : A3 s t) : A3 s (mv s t a b):=by
 obtain ⟨k,j,rfl,rfl,hlt,hk,hz,hh⟩:=hn.ex
 have hbx : (af t)[k]?=some (aq t (k : Int)):=(dy hI.valid (c:=(k : Int)) (by simpa using hlt)).1
 have hbl:=bS hI.valid
 have hsp : bF t (k : Int) (j : Int)=true:=by
  simp only [bF,hI.valid,Int.toNat_natCast,hk,hbx,Option.getD_some,hh,Bool.and_true,Bool.true_and,Bool.and_eq_true,decide_eq_true_eq]
  exact ⟨⟨by omega,by omega⟩,hl⟩
 have hu : br t (k : Int) (j : Int)=fW t k (j : Int) (ed t k):=by rw [br,if_pos hsp,Int.toNat_natCast]
 obtain ⟨sb,_,_⟩:=N3 hI.valid hsp
 obtain ⟨v1,v2,v3⟩:=yn hI.valid (k : Int) (j : Int)
 have hIu : DeI s (br t (k : Int) (j : Int)):=⟨v1,by rw [v2];exact hI.root,wL hI.tl (by omega) _ _⟩
 have c1 : (br t (k : Int) (j : Int)).cells[t.cells.length]?=some (bh (ed t k)):=by
  rw [hu];simp only [fW]
  rw [List.getElem?_append_right (by simp)];simp
 have c2 : (br t (k : Int) (j : Int)).cells[t.cells.length+1]?=some (bh (ed t k)):=by
  rw [hu];simp only [fW]
  rw [List.getElem?_append_right (by simp)];simp
 have hul : (br t (k : Int) (j : Int)).cells.length=t.cells.length+2:=by rw [hu,jV]
 have lk : ∀ (x : Tr) (i : Nat) V,x.cells[i]?=some (bh V)→cZ x i=true∧ed x i=V:=fun x i V h=>⟨by simp only [cZ,h];exact iP V,by simp [ed,h,bh]⟩
 have hFu : A3 s (br t (k : Int) (j : Int)):=by
  intro m hm h1
  by_cases hm1 : m < t.cells.length
  ·have hv : ed (br t (k : Int) (j : Int)) m=if m=k then bz else ed t m:=by
    rw [hu]
    unfold ed fW
    simp only
    rw [List.getElem?_append_left (by simpa using hm1)]
    by_cases e : m=k
    ·subst e;rw [List.getElem?_set_self hlt];simp
    ·rw [List.getElem?_set_ne (fun h=>e h.symm),if_neg e]
   have hb : aq (br t (k : Int) (j : Int)) (m : Int)=aq t (m : Int):=by
    simp only [aq,sb,Int.toNat_natCast]
    rw [List.getElem?_append_left (by omega)]
   rw [hv] at h1 ⊢
   rw [hb]
   by_cases e : m=k
   ·rw [if_pos e] at h1;cases h1
   ·rw [if_neg e] at h1 ⊢;exact hF0 m hm1 h1
  ·have : m=t.cells.length∨m=t.cells.length+1:=by omega
   rcases this with rfl|rfl
   ·rw [(lk _ _ _ c1).2,hz] at h1;cases h1
   ·rw [(lk _ _ _ c2).2,hz] at h1;cases h1
 have hrA : mu s t (k : Int) (j : Int)=dW s (br t (k : Int) (j : Int)) (t.cells.length : Int):=rfl
 have hO : pW s t (k : Int) (j : Int)=true:=(Fw h0 hI hn hl).1
 have hF : mv s t (k : Int) (j : Int)=dW s (mu s t (k : Int) (j : Int)) ((t.cells.length : Int)+1):=by rw [mv,if_pos hO]
 rw [hF]
 generalize br t (k : Int) (j : Int)=u at *
 obtain ⟨l1,y1⟩:=lk u t.cells.length _ c1
 obtain ⟨_,e1,I1⟩:=ua h0 hIu l1 (by omega) (by rw [y1];exact hz)
 have F1:=MZ h0 hIu l1 (by omega) (by rw [y1];exact hz) hFu
 rw [← hrA] at e1 I1 F1
 generalize mu s t (k : Int) (j : Int)=u2 at *
 have c3 : u2.cells[t.cells.length+1]?=some (bh (ed t k)):=by
  rw [e1];simp only [dD]
  rw [List.getElem?_set,if_neg (by omega)];exact c2
 have hul2 : u2.cells.length=t.cells.length+2:=by rw [e1];simp [dD,hul]
 obtain ⟨l2,y2⟩:=lk u2 (t.cells.length+1) _ c3
 have F2:=MZ h0 I1 l2 (by omega) (by rw [y2];exact hz) F1
 rw [Int.natCast_add,Int.natCast_one] at F2
 exact F2
end Go.Ab
namespace Go.Ab
open Go.Proofs
def Aq (x y : AV) (fb : Option aT) : Option aT:=match qP x y with
 |some (a,b)=>some (.pv (.val (.bool (!(a==b)))),[])
 |none=>fb
@[simp] theorem GF (a b : Bool) (fb : Option aT) : Aq (.pv (.val (.bool a))) (.pv (.val (.bool b))) fb=some (.pv (.val (.bool (!(a==b)))),[]):=rfl
@[simp] theorem I5 {dst : Option Nat} {ty : TypeId} {pos : String} {aft : Array Edge} {g : Option (Nat × Bool)} {ρ : Operand→AV} (x y : Operand) :
 aG Tryz.prog ⟨dst,.binOp .neq 4 x y 4,ty,pos,aft,g⟩ ρ=Aq (ρ x) (ρ y) (dU Tryz.prog ⟨dst,.binOp .neq 4 x y 4,ty,pos,aft,g⟩ ρ):=by
 unfold Aq
 split
 ·rename_i a b h
  unfold qP at h
  split at h
  ·rename_i a' b' hx hy
   injection h with h;injection h with h1 h2;subst h1;subst h2
   refine bB (by simp [Op.operands,hx,hy,cE]) ?_
   unfold execOp
   simp only [(aK hx).2,(aK hy).2]
   have h1 : ag Tryz.prog (eqGuard .neq 4 x y (.bool a') (.bool b'))=some ():=by kernel_rfl
   have h2 : ag Tryz.prog (binOp .neq 4 (.bool a') (.bool b'))=some (.bool (!(a'==b'))):=by
    simp only [binOp,ae]
    rw [show ag Tryz.prog (Op.equal 4 (.bool a') (.bool b'))=some (a'==b') from tY 9999 4 a' b' Tryz.underlying4]
    rfl
   simp only [ae,h1,h2,Option.bind_some];rfl
  ·cases h
 ·rfl
theorem d7 : ab Tryz.prog 7 [] [] [] (.pv (B true)):=by
 have c1 : ab Tryz.prog 18 [.pv (.sl [I 0 8])] [] [] (.pv (.tup [dc ⟨[(0,8)],[bh bz]⟩,B true])):=by
  have:=Hf [(0,8)]
  rw [BJ.1,BJ.2] at this;exact this
 have c2:=Hg ⟨[(0,8)],[bh bz]⟩ 0 0 (by simp)
 rw [xr.1,xr.2] at c2
 have c3 : ab Tryz.prog 20 [.pv (dc vm),.pv (.sl [Z 1,Z 2]),.pv (.sl [Z 1]),.pv (.sl [Z 7])] [] [] (.pv (.tup [.sl [.sl [Z 1],.sl [Z 4],.sl [Z 7]],B true])):=by
  have:=Hc vm [1,2] [1] [7] (by decide) (by decide) (by decide)
  rw [sc.1,sc.2] at this;exact this
 have c4 : ab Tryz.prog 22 [.pv (dc vm),.pv (.sl [Z 1,Z 2]),.pv (.sl [Z 1]),.pv (.sl [Z 7])] [] [] (.pv (B true)):=by
  have:=JY vm [1,2] [1] [7] (by decide) (by decide) (by decide)
  rw [sc.1] at this;exact this
 have c5 : ab Tryz.prog 21 [.pv (.sl [.sl [Z 1],.sl [Z 4],.sl [Z 7]]),.pv (.sl [.sl [Z 1],.sl [Z 4],.sl [Z 7]])] [] [] (.pv (B true)):=by
  have:=G9 [[1],[4],[7]] [[1],[4],[7]] (by decide) (by simp) (by simp)
  rw [rH] at this;exact this
 generalize vm=T2 at *
 generalize (⟨[(0,8)],[bh bz]⟩ : Tr)=T1 at *
 refine Dp Tryz.func7 ?_
 intro C hP hN
 simp only [Tryz.f7] at hN ⊢
 with_reducible repeat' (first|refine Sp.h ?_|((first|refine Ss.h ?_|refine Sc.h (c1) ?_|refine Sc.h (c2) ?_|refine Sc.h (c3) ?_|refine Sc.h (c4) ?_|refine Sc.h (c5) ?_|(refine Sb.h ?_ ?_ ?_<;>(try intro hgd)<;>try exact Xy))<;>simp -implicitDefEqProofs (maxSteps:=2000000) [hP,hN])|refine X2 ?_ ?_|(refine Xd ?_ ?_<;>intro hcd<;>try exact Xx))
end Go.Ab
namespace Go.Ab
open Go.Proofs
def dQ (t : Tr) (p q : List Int) : Bool:=aB t && cI t.root p && cI t.root q
def fq (t : Tr) (p q : List Int) (sort : Int) : Bool:=dQ t p q && gl t.cells.length (fC t.cells (List.replicate t.cells.length false) sort) (dp (af t) q) (dp (af t) p) (fp (af t))
def lX (t : Tr) (p q : List Int) (sort : Int) : List Nat:=if dQ t p q then gT t.cells.length (fC t.cells (List.replicate t.cells.length false) sort) (dp (af t) q) (dp (af t) p) (fp (af t)) else []
def eE (t : Tr) (p q : List Int) (sort : Int) : List Int:=(lX t p q sort).map fun n : Nat=>(n : Int)
theorem yg {a b : Bx} (ha : aD vI a=true) (hb : aD vI b=true) : bj a b=bj b a:=by
 have key : ∀ {a b : Bx},aD vI a=true→aD vI b=true→bj a b=true→bj b a=true:=by
  intro a b ha hb h
  obtain ⟨h1,h2⟩:=(kS ha hb).1 h
  exact (kS hb ha).2 ⟨h1.symm,fun i x y hx hy=>(h2 i y x hy hx).symm⟩
 cases h : bj a b with
 |true=>rw [key ha hb h]
 |false=>
  cases h' : bj b a with
  |true=>rw [key hb ha h'] at h;cases h
  |false=>rfl
theorem qU {t : Tr} (hv : aB t=true) : ∀ i j,i < t.cells.length→j < t.cells.length→fp (af t) i j=fp (af t) j i:=by
 intro i j hi hj
 have hbl:=bS hv
 have h1 : (af t)[i]?=some (fv (af t) i):=by simp [fv,List.getElem?_eq_getElem (by omega : i < (af t).length)]
 have h2 : (af t)[j]?=some (fv (af t) j):=by simp [fv,List.getElem?_eq_getElem (by omega : j < (af t).length)]
 exact yg (dC h1).2 (dC h2).2
theorem DG (l : List Nat) : ns l=zs (l.map fun n : Nat=>(n : Int)):=by simp [Function.comp_def]
theorem A6 {t : Tr} {p q : List Int} {k : Int} (h : fq t p q k=true) : bk t (eE t p q k) p q=true∧(eE t p q k).length≤t.cells.length:=by
 simp only [fq,Bool.and_eq_true] at h
 obtain ⟨hpre,hb⟩:=h
 have hp':=hpre
 simp only [dQ,Bool.and_eq_true] at hp'
 obtain ⟨⟨hv,hp⟩,hq⟩:=hp'
 have hbl:=bS hv
 have hbc:=oU (qU hv) hb
 have e1 : eE t p q k=(gT t.cells.length (fC t.cells (List.replicate t.cells.length false) k) (dp (af t) q) (dp (af t) p) (fp (af t))).map fun n : Nat=>(n : Int):=by simp [eE,lX,hpre]
 generalize gT t.cells.length (fC t.cells (List.replicate t.cells.length false) k) (dp (af t) q) (dp (af t) p) (fp (af t))=l at *
 obtain ⟨b1,b2,b3,b4,b5,b6⟩:=hbc
 rw [e1]
 have hbox : ∀ x : Nat,aq t (x : Int)=fv (af t) x:=fun x=>by simp [aq,fv]
 refine ⟨?_,by simpa using b2⟩
 simp only [bk,Bool.and_eq_true]
 refine ⟨iD.2 ⟨hv,hp,hq,by intro e;simp at e;rw [e] at b1;simp at b1,fun j hj=>?_⟩,?_⟩
 ·have hj' : j < l.length:=by simpa using hj
  have hg : (l.map fun n : Nat=>(n : Int))[j]?=some (l[j] : Int):=by simp [hj']
  obtain ⟨x1,x2,x3⟩:=b3 j l[j] (List.getElem?_eq_getElem hj')
  refine (ej hg).2 ⟨by omega,by omega,?_,?_,?_⟩
  ·unfold fC at x2
   rw [Int.toNat_natCast]
   unfold cZ
   split at x2
   ·rename_i c hc
    simp only [Bool.and_eq_true] at x2
    rw [hc];exact x2.1
   ·cases x2
  ·rw [← List.map_take]
   intro hm
   simp only [List.mem_map] at hm
   obtain ⟨y,hy,he⟩:=hm
   have : y=l[j]:=by omega
   rw [this] at hy;exact x3 hy
  ·by_cases hj0 : j=0
   ·exact .inl hj0
   ·right
    have hj1 : j - 1 < l.length:=by omega
    have:=b4 (j - 1) l[j - 1] l[j] (List.getElem?_eq_getElem hj1) (by rw [show j - 1+1=j by omega];exact List.getElem?_eq_getElem hj')
    rw [List.getElem?_map,List.getElem?_eq_getElem hj1]
    simp only [Option.map_some,Option.getD_some,hbox]
    exact this
 ·simp only [qu,Bool.and_eq_true]
  have hl1 : l.length - 1 < l.length:=by omega
  rw [List.getElem?_map,List.getElem?_eq_getElem b1,List.length_map,List.getElem?_map,List.getElem?_eq_getElem hl1]
  simp only [Option.map_some,Option.getD_some,hbox]
  exact ⟨b5 _ (List.getElem?_eq_getElem b1),b6 _ (List.getElem?_eq_getElem hl1)⟩
end Go.Ab
namespace Go.Ab
open Go.Proofs
theorem Ek (t : Tr) (p q : List Int) (hl : t.cells.length≤9223372036854775807) (hr : t.root.length≤9223372036854775807) (hpl : p.length≤9223372036854775807) (hql : q.length≤9223372036854775807) : ab Tryz.prog 11 [.pv (dc t),.pv (zs p),.pv (zs q),.pv (B true)] [] [] (.pv (.tup [zs (eE t p q 0),B (fq t p q 0)])):=by
 have co:=zd t 1 hl
 have cp:=pd t.root p hr hpl
 have cq:=pd t.root q hr hql
 rw [lB] at cp cq
 have hno : dQ t p q=false→eE t p q 0=[]∧fq t p q 0=false:=fun h=>by simp [eE,lX,fq,h]
 cases hv : aB t with
 |false=>
  obtain ⟨e1,e2⟩:=hno (by simp [dQ,hv])
  rw [e1,e2]
  rw [hv,if_neg (by simp)] at co
  refine Dp Tryz.func11 ?_
  intro C hP hN
  simp only [Tryz.f11] at hN ⊢
  with_reducible repeat' (first|refine Sp.h ?_|((first|refine Ss.h ?_|refine Sc.h (co) ?_|(refine Sb.h ?_ ?_ ?_<;>(try intro hgd)<;>try exact Xy))<;>simp -implicitDefEqProofs (maxSteps:=2000000) [hP,hN])|refine X2 ?_ ?_|(refine Xd ?_ ?_<;>intro hcd<;>try exact Xx))
 |true=>
 rw [hv,if_pos rfl] at co
 cases hp : cI t.root p with
 |false=>
  obtain ⟨e1,e2⟩:=hno (by simp [dQ,hp])
  rw [e1,e2]
  rw [hp] at cp
  refine Dp Tryz.func11 ?_
  intro C hP hN
  simp only [Tryz.f11] at hN ⊢
  with_reducible repeat' (first|refine Sp.h ?_|((first|refine Ss.h ?_|refine Sc.h (co) ?_|refine Sc.h (cp) ?_|(refine Sb.h ?_ ?_ ?_<;>(try intro hgd)<;>try exact Xy))<;>simp -implicitDefEqProofs (maxSteps:=2000000) [hP,hN])|refine X2 ?_ ?_|(refine Xd ?_ ?_<;>intro hcd<;>try exact Xx))
 |true=>
 rw [hp] at cp
 cases hq : cI t.root q with
 |false=>
  obtain ⟨e1,e2⟩:=hno (by simp [dQ,hq])
  rw [e1,e2]
  rw [hq] at cq
  refine Dp Tryz.func11 ?_
  intro C hP hN
  simp only [Tryz.f11] at hN ⊢
  with_reducible repeat' (first|refine Sp.h ?_|((first|refine Ss.h ?_|refine Sc.h (co) ?_|refine Sc.h (cp) ?_|refine Sc.h (cq) ?_|(refine Sb.h ?_ ?_ ?_<;>(try intro hgd)<;>try exact Xy))<;>simp -implicitDefEqProofs (maxSteps:=2000000) [hP,hN])|refine X2 ?_ ?_|(refine Xd ?_ ?_<;>intro hcd<;>try exact Xx))
 |true=>
 rw [hq] at cq
 have hpre : dQ t p q=true:=by simp [dQ,hv,hp,hq]
 have hz:=aY.1 (cG hv)
 have cb:=Ge t.cells (af t) (List.replicate t.cells.length false) p q 0 (by omega) (bS hv) (by simp) (fun b hb=>by
  obtain ⟨j,hj⟩:=List.getElem?_of_mem hb
  have:=(dC hj).1
  omega) hpl hql (qU hv)
 rw [DG] at cb
 have e1 : eE t p q 0=(gT t.cells.length (fC t.cells (List.replicate t.cells.length false) 0) (dp (af t) q) (dp (af t) p) (fp (af t))).map fun n : Nat=>(n : Int):=by simp [eE,lX,hpre]
 have e2 : fq t p q 0=gl t.cells.length (fC t.cells (List.replicate t.cells.length false) 0) (dp (af t) q) (dp (af t) p) (fp (af t)):=by simp [fq,hpre]
 rw [← e1,← e2] at cb
 generalize List.replicate t.cells.length false=O at *
 generalize eE t p q 0=L9 at *
 generalize fq t p q 0=B9 at *
 refine Dp Tryz.func11 ?_
 intro C hP hN
 simp only [Tryz.f11] at hN ⊢
 with_reducible repeat' (first|refine Sp.h ?_|((first|refine Ss.h ?_|refine Sc.h (co) ?_|refine Sc.h (cp) ?_|refine Sc.h (cq) ?_|refine Sc.h (cb) ?_|(refine Sb.h ?_ ?_ ?_<;>(try intro hgd)<;>try exact Xy))<;>simp -implicitDefEqProofs (maxSteps:=2000000) [hP,hN])|refine X2 ?_ ?_|(refine Xd ?_ ?_<;>intro hcd<;>try exact Xx))
end Go.Ab
namespace Go.Ab
open Go.Proofs
theorem OO {js : List J} {ms : List Ms} {t : Tr} {p q : List Int} {w : Int} (h : (eH js ms t p q w).2.2=1) : cI t.root p=true∧cI t.root q=true∧aB t=true∧iJ t (je js ms w t) p q 0=true:=by
 unfold eH at h
 split at h
 case isFalse=>simp at h
 rename_i hc
 simp only [Bool.and_eq_true,vM,decide_eq_true_eq] at hc
 obtain ⟨⟨⟨⟨⟨_,_⟩,_⟩,hp⟩,hq⟩,hv⟩:=hc
 refine ⟨hp,hq,hv,?_⟩
 have fin : ∀ C,(lZ js ms t (je js ms w t) C).2.2≠1:=fun C=>by
  unfold lZ;split<;>simp
 unfold zL at h
 split at h
 ·assumption
 ·split at h
  ·simp at h
  ·split at h
   ·exact absurd h (fin _)
   ·split at h
    ·simp at h
    ·exact absurd h (fin _)
theorem Ny {t : Tr} {op : List Bool} {p q : List Int} (hv : aB t=true) (hp : cI t.root p=true) (hq : cI t.root q=true) (h : iJ t op p q 0=true) : fq t p q 0=true:=by
 have e : ∀ op : List Bool,fC t.cells op 0=fC t.cells (List.replicate t.cells.length false) 0:=fun op=>by
  funext i;unfold fC;split<;>simp [nd]
 simp only [iJ,e op] at h
 simp only [fq,dQ,hv,hp,hq,Bool.and_self,Bool.true_and]
 exact h
theorem Ob {t : Tr} {p q : List Int} (h : fq t p q 0=true) : (eE t p q 0).all (lb t)=true:=by
 simp only [fq,Bool.and_eq_true] at h
 obtain ⟨hpre,hb⟩:=h
 have hp':=hpre
 simp only [dQ,Bool.and_eq_true] at hp'
 have hbc:=(oU (qU hp'.1.1) hb).2.2.1
 rw [List.all_eq_true]
 intro x hx
 simp only [eE,lX,hpre,if_true,List.mem_map] at hx
 obtain ⟨k,hk,rfl⟩:=hx
 obtain ⟨j,hj⟩:=List.getElem?_of_mem hk
 have hm:=(hbc j k hj).2.1
 unfold fC at hm
 split at hm
 ·rename_i c hc
  simp only [Bool.and_eq_true] at hm
  have h2:=hm.2
  simp [nd] at h2
  simp [lb,ed,hc,h2]
 ·cases hm
theorem OP {s : Sce} (h0 : az s=0) : A3 s (pX s):=by
 obtain ⟨_,_,hn,ht⟩:=Fx h0
 have hr:=Bg (rT h0)
 have hI : DeI s (fo (aO s.js s.ms)):=⟨by rw [hn,vq];exact hr,by rw [hn],ht⟩
 have hlf : cZ (fo (aO s.js s.ms)) 0=true∧(ed (fo (aO s.js s.ms)) 0).kind=0:=by
  rw [hn];exact ⟨iP _,rfl⟩
 have hF : A3 s (fo (aO s.js s.ms)):=fun k hk h1=>by
  rw [hn] at hk h1
  simp at hk
  subst hk
  simp [ed,bh,bz] at h1
 exact MZ h0 hI hlf.1 (by rw [hn];simp) hlf.2 hF
theorem NO {s : Sce} {p q : List Int} {w cells : Int} (h0 : az s=0) (hc : cells≤60) : ∀ (f : Nat) (t : Tr),DeI s t→A3 s t→t.cells.length≤60→DeI s (lf s p q w cells f t).1∧A3 s (lf s p q w cells f t).1∧(lf s p q w cells f t).1.cells.length≤60∧((lf s p q w cells f t).2=1→(eH s.js s.ms (lf s p q w cells f t).1 p q w).2.2=1)
 |0,t,hI,hF,hl=>⟨hI,hF,hl,fun h=>by simp [lf] at h⟩
 |f+1,t,hI,hF,hl=>by
  simp only [lf]
  split
  ·rename_i h3
   split
   ·exact ⟨hI,hF,hl,fun h=>by simp at h⟩
   ·rename_i h2
    have hn : Nx t (eH s.js s.ms t p q w).1 (eH s.js s.ms t p q w).2.1:=Cv (js:=s.js) (ms:=s.ms) (p:=p) (q:=q) (w:=w) (by rw [← h3])
    obtain ⟨_,r2,r3⟩:=Fw h0 hI hn (by omega)
    exact NO h0 hc f _ r2 (OZ h0 hI hn (by omega) hF) (by omega)
  ·exact ⟨hI,hF,hl,fun h=>h⟩
theorem OQ {s : Sce} {p q : List Int} {w cells : Int} (hc : cells≤60) (h : (uZ s p q w cells).2=1) : az s=0∧eU s.js s.ms p=true∧eU s.js s.ms q=true∧DeI s (uZ s p q w cells).1∧A3 s (uZ s p q w cells).1∧(uZ s p q w cells).1.cells.length≤60∧fq (uZ s p q w cells).1 p q 0=true:=by
 unfold uZ at h ⊢
 split at h
 case isFalse=>simp at h
 rename_i hp
 rw [if_pos hp]
 simp only [vN,Bool.and_eq_true,decide_eq_true_eq] at hp
 obtain ⟨⟨⟨⟨⟨h0,h1⟩,h2⟩,_⟩,_⟩,_⟩:=hp
 obtain ⟨I0,l0,_⟩:=Fx h0
 obtain ⟨a,b,c,d⟩:=NO (p:=p) (q:=q) (w:=w) h0 hc 2048 (pX s) I0 (OP h0) (by omega)
 obtain ⟨n1,n2,n3,n4⟩:=OO (d h)
 exact ⟨h0,h1,h2,a,b,c,Ny n3 n1 n2 n4⟩
theorem Oc {f t : Int} (hf : -2147483648≤f∧f≤2147483648) (ht : -2147483648≤t∧t≤2147483648) : jl 0 0 f t=(min f t,max f t):=by
 have w1 : wr (t - f)=t - f:=aa
 have w0 : wr 0=0:=by decide
 have w2 : wr (0+1)=1:=by decide
 have fl : ∀ a : Int,-9223372036854775808≤a→a < 9223372036854775808→nu a 1=a∧Cj a 1=a:=fun a h1 h2=>by
  have : wr a=a:=aa
  simp [nu,Cj,this]
 unfold jl
 simp only [Int.toNat_zero,Int.pow_zero,w1,w0,w2,Int.zero_mul,Int.one_mul]
 rw [(fl (min 0 (t - f)) (by omega) (by omega)).1,(fl (max 0 (t - f)) (by omega) (by omega)).2,aa (n:=f+min 0 (t - f)) (by omega) (by omega),aa (n:=f+max 0 (t - f)) (by omega) (by omega)]
 exact Prod.ext (by simp only;omega) (by simp only;omega)
theorem NP {b : Bx} {p q : List Int} (hv : aD vI b=true) (hp : cI b p=true) (hq : cI b q=true) : k8 (dk p q 0 0).1 b:=by
 obtain ⟨l1,m1⟩:=(s7 hv).1 hp
 obtain ⟨l2,m2⟩:=(s7 hv).1 hq
 have rng : ∀ {c : List Int},cI b c=true→aD AS c=true:=by
  intro c hc
  obtain ⟨l3,m3⟩:=(s7 hv).1 hc
  rw [bO]
  intro x hx
  obtain ⟨j,hj⟩:=List.getElem?_of_mem hx
  have hjl:=(List.getElem?_eq_some_iff.1 hj).1
  have hbj : b[j]?=some (b[j]'(by omega)):=List.getElem?_eq_getElem _
  have:=m3 j _ _ hbj hj
  have h4:=bN.1 (bO.1 hv _ (List.mem_of_getElem? hbj))
  simp only [AS,Bool.and_eq_true,decide_eq_true_eq]
  omega
 have e1 : md p q 0=true:=by simp [md,rng hp,rng hq,← l1,← l2]
 have e2 : (dk p q 0 0).1=List.zipWith (jl 0 0) p q:=by simp [dk,e1]
 rw [e2]
 refine ⟨by simp;omega,fun k x y hx hy=>?_⟩
 have hkb:=(List.getElem?_eq_some_iff.1 hy).1
 have hpk : p[k]?=some (p[k]'(by omega)):=List.getElem?_eq_getElem _
 have hqk : q[k]?=some (q[k]'(by omega)):=List.getElem?_eq_getElem _
 have a1:=m1 k _ _ hy hpk
 have a2:=m2 k _ _ hy hqk
 have h4:=bN.1 (bO.1 hv _ (List.mem_of_getElem? hy))
 rw [List.getElem?_zipWith,hpk,hqk] at hx
 simp only [Option.some.injEq] at hx
 rw [Oc (by omega) (by omega)] at hx
 subst hx
 exact ⟨bN.2 (by simp only;omega),bN.2 h4,by simp only;omega,by simp only;omega⟩
theorem NQ {t : Tr} {chain p q : List Int} (h : bk t chain p q=true) {k : Nat} (hk : k < chain.length) : cI (aq t chain[k]) (nN t chain p k)=true∧cI (aq t chain[k]) ((dM t chain p q)[k+1]?.getD [])=true∧(dM t chain p q)[k]?=some (nN t chain p k):=by
 obtain ⟨hC,hE⟩:=me h
 have hpos:=List.length_pos_iff.2 hC.ne
 have hl1 : chain.length - 1 < chain.length:=by omega
 simp only [qu,Bool.and_eq_true,List.getElem?_eq_getElem hpos,List.getElem?_eq_getElem hl1,Option.getD_some] at hE
 have hq : dM t chain p q=(List.range chain.length).map (nN t chain p)++[q]:=by simp [dM,h]
 have port : ∀ {j : Nat} (hj : j+1 < chain.length),cI (aq t chain[j]) (nN t chain p (j+1))=true∧cI (aq t chain[j+1]) (nN t chain p (j+1))=true:=by
  intro j hj
  rw [hC.pt_succ hj]
  exact N5 (hC.touch hj) (by rw [hC.pt_len (by omega : j < chain.length),(hC.box (by omega : j < chain.length)).2.1])
 refine ⟨?_,?_,?_⟩
 ·cases k with
  |zero=>exact hE.1
  |succ k=>exact (port hk).2
 ·rw [hq]
  by_cases hk1 : k+1 < chain.length
  ·rw [List.getElem?_append_left (by simpa using hk1),List.getElem?_map,List.getElem?_range hk1]
   simp only [Option.map_some,Option.getD_some]
   exact (port hk1).1
  ·have e : k=chain.length - 1:=by omega
   subst e
   rw [List.getElem?_append_right (by simp;omega)]
   rw [show chain.length - 1+1 - (List.map (nN t chain p) (List.range chain.length)).length=0 by simp;omega]
   exact hE.2
 ·rw [hq,List.getElem?_append_left (by simpa using hk),List.getElem?_map,List.getElem?_range hk];rfl
theorem OR {js : List J} {ms : List Ms} {b : Bx} {x : List Int} (hc : ax js ms=0) (hv : aD vI b=true) (hs : k8 b (aO js ms)) (hx : cI b x=true) : eU js ms x=true:=by
 have hl : aO js ms=js.map iT:=by simp [aO,hc]
 rw [hl] at hs
 obtain ⟨h1,h2⟩:=hs
 rw [List.length_map] at h1
 obtain ⟨g1,g2⟩:=(s7 hv).1 hx
 have e : js.length=x.length:=by omega
 simp only [eU,hc,e,decide_true,Bool.true_and]
 rw [ke]
 intro i hi hi'
 have hb : b[i]?=some (b[i]'(by omega)):=List.getElem?_eq_getElem _
 have a:=h2 i _ (iT js[i]) hb (by rw [List.getElem?_map,List.getElem?_eq_getElem hi];rfl)
 have c:=g2 i _ x[i] hb (List.getElem?_eq_getElem hi')
 have a1:=a.lo
 have a2:=a.hi
 simp only [iT] at a1 a2
 simp only [ru,Bool.and_eq_true,decide_eq_true_eq]
 omega
theorem OC {s : Sce} {t : Tr} {c p q : List Int} (h0 : az s=0) (hI : DeI s t) (hF : A3 s t) (hch : bk t c p q=true) (hfr : c.all (lb t)=true) (hq : eU s.js s.ms q=true) : (∀ x ∈ dM t c p q,eU s.js s.ms x=true∧x.length≤16777216)∧∀ (i : Nat) p' q' ns,(dM t c p q)[i]?=some p'→(dM t c p q)[i+1]?=some q'→(c.map (mX t))[i]?=some ns→(dk p' q' 0 0).1.length≤16777216∧wV s (dk p' q' 0 0).1 ns=true:=by
 have hz:=aY.1 (cG hI.valid)
 obtain ⟨hC,_⟩:=me hch
 have hlen:=DH hch
 have bx : ∀ {k : Nat} (hk : k < c.length),aD vI (aq t c[k])=true∧(aq t c[k]).length=t.root.length∧k8 (aq t c[k]) t.root:=fun {k} hk=>by
  have b:=hC.box hk
  have g:=hC.get hk
  obtain ⟨m,hm⟩:=Int.eq_ofNat_of_zero_le g.1
  refine ⟨b.2.2,b.2.1,?_⟩
  rw [hm]
  exact Bf hI.valid (by omega)
 have hR:=rT h0
 have isl : ∀ x : List Int,eU s.js s.ms x=true→x.length≤16777216:=fun x hx=>by
  simp only [eU,Bool.and_eq_true,decide_eq_true_eq] at hx
  have:=ol hR
  omega
 have inn : ∀ x ∈ dM t c p q,eU s.js s.ms x=true:=fun x hx=>by
  obtain ⟨k,hk⟩:=List.getElem?_of_mem hx
  have hkl:=(List.getElem?_eq_some_iff.1 hk).1
  by_cases h : k < c.length
  ·obtain ⟨u1,_,u3⟩:=NQ hch h
   rw [hk] at u3
   injection u3 with u3
   rw [u3]
   obtain ⟨b1,b2,b3⟩:=bx h
   rw [hI.root] at b3
   exact OR hR b1 b3 u1
  ·have e : k=c.length:=by omega
   subst e
   have : (dM t c p q)[c.length]?=some q:=by simp [dM,hch]
   rw [hk] at this
   injection this with this
   rw [this];exact hq
 refine ⟨fun x hx=>⟨inn x hx,isl x (inn x hx)⟩,fun i p' q' ns h1 h2 h3=>?_⟩
 have hi : i < c.length:=by
  have:=(List.getElem?_eq_some_iff.1 h3).1
  simpa using this
 obtain ⟨u1,u2,u3⟩:=NQ hch hi
 rw [h1] at u3
 injection u3 with u3
 rw [h2,Option.getD_some] at u2
 rw [← u3] at u1
 obtain ⟨b1,b2,b3⟩:=bx hi
 have hs:=NP b1 u1 u2
 rw [List.getElem?_map,List.getElem?_eq_getElem hi] at h3
 simp only [Option.map_some,Option.some.injEq] at h3
 subst h3
 have hf:=List.all_eq_true.1 hfr _ (List.getElem_mem hi)
 have g:=hC.get hi
 obtain ⟨m,hm⟩:=Int.eq_ofNat_of_zero_le g.1
 have hml : m < t.cells.length:=by omega
 rw [hm] at hf hs b2 ⊢
 simp only [lb,Int.toNat_natCast,beq_iff_eq] at hf
 have hh:=hF m hml hf
 refine ⟨by have:=hs.1;omega,?_⟩
 have e : mX t (m : Int)=(ed t m).nor:=by simp [mX]
 rw [e]
 exact M9 hs hh
end Go.Ab
namespace Go.Ab
open Go.Proofs
theorem d4 (l m o : List Int) (width cells : Int) : ab Tryz.prog 4 [.pv (zs l),.pv (zs m),.pv (zs o),.pv (Z width),.pv (Z cells)] [] [] (.pv (B true)):=by
 have ca:=d7
 have c1:=Pq l
 have hL:=OT l
 have hj:=Nf l 0
 have cm:=d9 m (mY l 0) (vQ l 0) (by omega) (NK l 0)
 have co:=d9 o (mY l 0) (vQ l 0) (by omega) (NK l 0)
 have hjs : (y9 l).js=mY l 0:=rfl
 have hms : (y9 l).ms=vQ l 0:=rfl
 rw [← hjs,← hms] at cm co
 rw [← hjs] at hj
 clear hjs hms
 have hml : (jk m (y9 l).js).length=(y9 l).js.length:=by simp [jk]
 have hol : (jk o (y9 l).js).length=(y9 l).js.length:=by simp [jk]
 generalize y9 l=s at *
 generalize jk m s.js=a at *
 generalize jk o s.js=b at *
 have cw:=Jf width 9000 (by decide)
 have hwr:=De width (k:=9000) (by decide) (by decide)
 have cn:=Jf cells 60 (by decide)
 have hnr:=De cells (k:=60) (by decide) (by decide)
 generalize pJ width 9000=w at *
 generalize pJ cells 60=n at *
 have w1 : IntKind.i64.wrap (1+w)=1+w:=aa
 have w2 : IntKind.i64.wrap (1+n)=1+n:=aa
 have cd:=JB s a b (1+w) (1+n) hL (by omega) (by omega)
 obtain ⟨⟨hTr,hTn⟩,hTl⟩:=Fj (s:=s) (p:=a) (q:=b) (w:=1+w) (cells:=1+n) (by omega)
 have hD:=OQ (s:=s) (p:=a) (q:=b) (w:=1+w) (cells:=1+n) (by omega)
 generalize uZ s a b (1+w) (1+n)=D at *
 obtain ⟨t,st⟩:=D
 simp only at hTr hTn hTl cd hD
 by_cases h1 : st=1
 case neg=>
  have h1' : (st !=1)=true:=by simp [h1]
  clear hD
  refine Dp Tryz.func4 ?_
  intro C hP hN
  simp only [Tryz.f4] at hN ⊢
  with_reducible repeat' (first|refine Sp.h ?_|((first|refine Wd ?_|refine Ss.h ?_|refine Sc.h (c1) ?_|refine Sc.h (cm) ?_|refine Sc.h (co) ?_|refine Sc.h (cw) ?_|refine Sc.h (cn) ?_|refine Sc.h (cd) ?_|refine Sc.h (ca) ?_|(refine Sb.h ?_ ?_ ?_<;>(try intro hgd)<;>try exact Xy))<;>simp -implicitDefEqProofs (maxSteps:=2000000) [hP,hN,w1,w2,h1,h1']<;>try refine Ya ?_)|refine X2 ?_ ?_|(refine Xd ?_ ?_<;>intro hcd<;>try exact Xx))
 subst h1
 obtain ⟨h0,ha,hb,hI,hF,hl60,hok⟩:=hD rfl
 obtain ⟨hch,hcl⟩:=A6 hok
 have hfr:=Ob hok
 have ct:=Ek t a b (by omega) (by omega) (by omega) (by omega)
 rw [hok] at ct
 generalize eE t a b 0=c at *
 have hcr : kf s t c a b=true:=by
  have : c.length≤255:=by omega
  simp only [kf,kw,h0,hch,hfr,this,decide_true,Bool.and_self]
 have ck:=Jw s t c a b hL (by omega) (by omega) (by omega) hTn
 rw [hcr,Fl hcr] at ck
 obtain ⟨hA,hE⟩:=OC h0 hI hF hch hfr hb
 have hpos:=List.length_pos_iff.2 (me hch).1.ne
 have hpl:=DH hch
 have hp0 : (dM t c a b)[0]?=some a:=by simp [dM,hch,List.getElem?_append_left,hpos,nN]
 have hpz : (dM t c a b)[c.length]?=some b:=by simp [dM,hch]
 have cp:=OA s (dM t c a b) (c.map (mX t)) hL h0 (by simp;omega) (by simp;omega) (by simp;omega) (fun x hx=>(hA x hx).1) (fun x hx=>(hA x hx).2) (fun x hx=>by
  obtain ⟨y,_,rfl⟩:=List.mem_map.1 hx
  exact wK hTn _) hE
 rw [List.map_map,show lY ∘ mX t=pU t from rfl] at cp
 clear hA hE hI hF hfr hch hok hcr hD
 generalize dM t c a b=ps at *
 have s1:=Ji a a (by omega) (by omega)
 have s2:=Ji b b (by omega) (by omega)
 rw [AU] at s1 s2
 have hl0 : 0 < ps.length:=by omega
 have hlz : c.length < ps.length:=by omega
 have hp0':=bg hp0 hl0
 have hpz':=bg hpz hlz
 have hwl : IntKind.i64.wrap ((c.length : Int)+1)=(c.length : Int)+1:=aa
 have hne : ((ps.length : Int) !=(c.length : Int)+1)=false:=by rw [hpl];simp
 obtain ⟨js,ms,SH,sks⟩:=s
 refine Dp Tryz.func4 ?_
 intro C hP hN
 simp only [Tryz.f4] at hN ⊢
 with_reducible repeat' (first|refine Sp.h ?_|((first|refine Wd ?_|refine Ss.h ?_|refine Sc.h (c1) ?_|refine Sc.h (cm) ?_|refine Sc.h (co) ?_|refine Sc.h (cw) ?_|refine Sc.h (cn) ?_|refine Sc.h (cd) ?_|refine Sc.h (ct) ?_|refine Sc.h (ck) ?_|refine Sc.h (cp) ?_|(refine Sb.h ?_ ?_ ?_<;>(try intro hgd)<;>try exact Xy))<;>simp -implicitDefEqProofs (maxSteps:=2000000) [hP,hN,w1,w2,hwl,hne]<;>try refine Ya ?_)|refine X2 ?_ ?_|(refine Xd ?_ ?_<;>intro hcd<;>try exact Xx))
 refine WP.loopN [] c.length (fun i st=>st.t 12=.pv (zs a)∧st.t 13=.pv (zs b)∧st.t 16=.pv (zs c)∧st.t 18=.ptr 18 0∧st.h 18=some (.box [.pv (.sl (ps.map zs)),.pv (.sl (c.map (pU t)))] true false)∧st.t 22=.pv (Z i)) (by simp) ?_
 rintro i st hi ⟨g12,g13,g16,g18,b18,g22⟩
 by_cases hlt : i < c.length
 ·have hw:=ak hlt (by omega)
  have hx : c[i]?=some c[i]:=List.getElem?_eq_getElem hlt
  generalize hxe : c[i]=x at *
  obtain ⟨T,K,he⟩ : ∃ T K,pU t x=.agg [T,.sl [.agg [Z 0,Z 0,K]]]:=⟨_,_,rfl⟩
  with_reducible repeat' (first|refine Sp.h ?_|((first|refine Wd ?_|refine Ss.h ?_|(refine Sb.h ?_ ?_ ?_<;>(try intro hgd)<;>try exact Xy))<;>simp -implicitDefEqProofs (maxSteps:=2000000) [hP,hN,g12,g13,g16,g18,b18,g22,hlt,hw,hx,hxe,he]<;>try refine Ya ?_)|refine X2 ?_ ?_|(refine Xd ?_ ?_<;>intro hcd<;>try exact Xx))
 ·skip
  with_reducible repeat' (first|refine Sp.h ?_|((first|refine Wd ?_|refine Ss.h ?_|refine Sc.h (ca) ?_|refine Sc.h (s1) ?_|refine Sc.h (s2) ?_|(refine Sb.h ?_ ?_ ?_<;>(try intro hgd)<;>try exact Xy))<;>simp -implicitDefEqProofs (maxSteps:=2000000) [hP,hN,g12,g13,g16,g18,b18,g22,hlt,hp0,hpz,hl0,hlz,hp0',hpz']<;>try refine Ya ?_)|refine X2 ?_ ?_|(refine Xd ?_ ?_<;>intro hcd<;>try exact Xx))
end Go.Ab
