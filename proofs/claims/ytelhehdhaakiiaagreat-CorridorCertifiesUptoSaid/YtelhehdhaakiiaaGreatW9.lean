/- The contracts and facts that the laws of this seat need, in one text (Co5, Co6, Co7, Co8, Co9, Co10). -/
import Derived.Test.YtelhehdhaakiiaaGreatW8
set_option linter.all false
set_option maxHeartbeats 16000000
namespace Go.Ab
open Go.Proofs
set_option maxRecDepth 100000 in
@[simp] theorem IZ : er Tryz.prog 76:=by
 have hf:=Tryz.func76;have nt:=Tryz.ntmps76;have rs:=Tryz.results76;exact E2
def G3 (ns : List V3) (k : Nat) (h : Hp) : Prop:=(k=0∧h 2=some (.box [.pv (.val (.slice none 0 0)),.pv (.val (.slice none 0 0))] true false)∧h 6=some (.box [.pv (Z 0),.pv (Z 0),.pv (.val (.slice none 0 0))] true false)∧h 49=none∧h 55=none)∨(0 < k∧h 2=some (.box [.arr 49 (db ns k).length,.pv (.val (.slice none 0 0))] true false)∧h 6=some (.box [.pv (Z 0),.pv (Z 0),.arr 55 k] true false)∧h 49=some (.row 77 3 ((db ns k).map aH) 0)∧h 55=some (.row 3 1 ((jr ns k).map Z) 0))
def DK (ns : List V3) (i : Nat) (h : Hp) : Prop:=(i=0∧h 2=some (.box [.pv (.val (.slice none 0 0)),.pv (.val (.slice none 0 0))] true false)∧h 5=none∧h 6=none∧h 8=none∧h 49=none∧h 55=none∧h 62=none∧h 12=some (.mp .i64 3 [] false))∨(i=1∧ns=[]∧h 2=some (.box [.pv (.val (.slice none 0 0)),.arr 62 1] true false)∧h 62=some (.row 151 3 [.agg [Z 0,Z 0,.sl []]] 0))∨(i=1∧h 2=some (.box [.arr 49 (db ns ns.length).length,.arr 62 1] true false)∧h 49=some (.row 77 3 ((db ns ns.length).map aH) 0)∧h 62=some (.row 151 3 [.agg [Z 0,Z 0,zs (jr ns ns.length)]] 0))
theorem Jv (ns : List V3) (hl : ns.length≤1048576) : ab Tryz.prog 42 [.pv (.sl [t8 ns])] [] [] (.pv (mr ns)):=by
 have w1 : IntKind.i64.wrap 1=1:=by decide
 refine Dp Tryz.func42 ?_
 intro C hP hN
 simp only [Tryz.f42] at hN ⊢
 with_reducible repeat' (first|refine Sp.h ?_|((first|refine Ss.h ?_|(refine Sb.h ?_ ?_ ?_<;>(try intro hgd)<;>try exact Xy))<;>simp -implicitDefEqProofs (maxSteps:=2000000) [hP,hN])|refine X2 ?_ ?_|(refine Xd ?_ ?_<;>intro hcd<;>try exact Xx))
 refine WP.loopN [5,6,8,55] 1 (fun i st=>st.t 2=.ptr 2 0∧st.t 3=.ext (.mp 12)∧st.t 13=.pv (.sl [t8 ns])∧st.t 14=.pv (Z 1)∧st.t 15=.pv (Z i)∧DK ns i st.h) (by simp [DK]) ?_
 rintro i st hi ⟨g2,g3,g13,g14,g15,hO⟩
 rcases hO with ⟨hi0,b2,b5,b6,b8,b49,b55,b62,b12⟩|⟨hi1,hns,b2,b62⟩|⟨hi1,b2,b49,b62⟩
 ·subst hi0
  with_reducible repeat' (first|refine Sp.h ?_|((first|refine Ss.h ?_|(refine Sb.h ?_ ?_ ?_<;>(try intro hgd)<;>try exact Xy))<;>simp -implicitDefEqProofs (maxSteps:=2000000) [hP,hN,g2,g3,g13,g14,g15,b2,b5,b6,b8,b49,b55,b62,b12])|refine X2 ?_ ?_|(refine Xd ?_ ?_<;>intro hcd<;>try exact Xx))
  refine WP.loopN [8] ns.length (fun k st=>st.t 2=.ptr 2 0∧st.t 3=.ext (.mp 12)∧st.t 6=.ptr 6 0∧st.t 13=.pv (.sl [t8 ns])∧st.t 14=.pv (Z 1)∧st.t 15=.pv (Z (0 : Nat))∧st.t 25=.pv (aR ns)∧st.t 26=.pv (Z ns.length)∧st.t 27=.pv (Z k)∧st.h 8=none∧st.h 62=none∧st.h 12=some (.mp .i64 3 (rA (db ns k) 0) false)∧G3 ns k st.h) (by simp [G3,g2,g3,g13,g14,g15,b8,b49,b55,b62,b2,b12,db,rA]) ?_
  clear g2 g3 g13 g14 g15 b2 b5 b6 b8 b49 b55 b62 b12
  rintro k st hk ⟨g2,g3,g6,g13,g14,g15,g25,g26,g27,b8,b62,b12,hR⟩
  have hTl:=qT ns k
  have hNl:=lC ns k hk
  by_cases hlt : k < ns.length
  ·have hw:=ak hlt (by omega)
   have hx : ns[k]?=some ns[k]:=List.getElem?_eq_getElem hlt
   have hNs:=rS hx
   have hNl':=lC ns (k+1) hlt
   have hG:=yE (db ns k) 0 ns[k]
   have hMs:=fun (h : io (db ns k) ns[k]=false)=>yF (tb:=db ns k) (i:=0) (n:=ns[k]) h
   generalize hxe : ns[k]=v at *
   obtain ⟨v1,v2,v3⟩:=v
   simp only [k3,Nat.zero_add] at hG hMs
   have hf1 : (k+1) * 8≤140737488355328:=by omega
   have hf2 : ((db ns k).length+1) * 24≤140737488355328:=by omega
   have hf3 : k+1≤9223372036854775807:=by omega
   have hf4 : (db ns k).length+1≤9223372036854775807:=by omega
   cases hh : io (db ns k) (v1,v2,v3) with
   |true=>
    have hTn:=yH hx hh
    rw [hh,if_pos rfl] at hG
    rcases hR with ⟨hk0,b2,b6,b49,b55⟩|⟨hkp,b2,b6,b49,b55⟩
    ·subst hk0;simp [db,io] at hh
    ·skip
     with_reducible repeat' (first|refine Sp.h ?_|((first|refine Ss.h ?_|(refine Sb.h ?_ ?_ ?_<;>(try intro hgd)<;>try exact Xy))<;>simp -implicitDefEqProofs (maxSteps:=2000000) [hP,hN,g2,g3,g6,g13,g14,g15,g25,g26,g27,b8,b62,b12,b2,b6,b49,b55,hlt,hw,hx,hxe,hG,hNl,hf1,hf3])|refine X2 ?_ ?_|(refine Xd ?_ ?_<;>intro hcd<;>try exact Xx))
     all_goals (refine ⟨by rw [hTn],.inr ⟨by omega,?_⟩⟩;simp [hTn,hNs,b2,b6,b49,b55])
   |false=>
    have hTn:=yI hx hh
    have hpi:=wF hh
    rw [hh,if_neg (by simp)] at hG
    have hMs:=hMs hh
    rw [hpi] at hNs
    rcases hR with ⟨hk0,b2,b6,b49,b55⟩|⟨hkp,b2,b6,b49,b55⟩
    ·subst hk0
     rw [show db ns 0=[] from rfl] at hTn hNs hG hMs b12
     rw [show jr ns 0=[] from rfl] at hNs
     with_reducible repeat' (first|refine Sp.h ?_|((first|refine Ss.h ?_|(refine Sb.h ?_ ?_ ?_<;>(try intro hgd)<;>try exact Xy))<;>simp -implicitDefEqProofs (maxSteps:=2000000) [hP,hN,g2,g3,g6,g13,g14,g15,g25,g26,g27,b8,b62,b12,b2,b6,b49,b55,hlt,hw,hx,hxe,hG,w1])|refine X2 ?_ ?_|(refine Xd ?_ ?_<;>intro hcd<;>try exact Xx))
     all_goals (refine ⟨by first|rw [hTn];simpa using hMs|simpa [hTn] using hMs,.inr ⟨by omega,?_⟩⟩;simp [hTn,hNs,b2,b6,b49,b55])
    ·skip
     with_reducible repeat' (first|refine Sp.h ?_|((first|refine Ss.h ?_|(refine Sb.h ?_ ?_ ?_<;>(try intro hgd)<;>try exact Xy))<;>simp -implicitDefEqProofs (maxSteps:=2000000) [hP,hN,g2,g3,g6,g13,g14,g15,g25,g26,g27,b8,b62,b12,b2,b6,b49,b55,hlt,hw,hx,hxe,hG,hNl,hf1,hf2,hf3,hf4])|refine X2 ?_ ?_|(refine Xd ?_ ?_<;>intro hcd<;>try exact Xx))
     all_goals (refine ⟨by rw [hTn];exact hMs,.inr ⟨by omega,?_⟩⟩;simp [hTn,hNs,b2,b6,b49,b55])
  ·have hkc : k=ns.length:=by omega
   subst hkc
   rcases hR with ⟨hk0,b2,b6,b49,b55⟩|⟨hkp,b2,b6,b49,b55⟩
   ·have hns : ns=[]:=by simpa using hk0
    subst hns
    with_reducible repeat' (first|refine Sp.h ?_|((first|refine Ss.h ?_|(refine Sb.h ?_ ?_ ?_<;>(try intro hgd)<;>try exact Xy))<;>simp -implicitDefEqProofs (maxSteps:=2000000) [hP,hN,g2,g3,g6,g13,g14,g15,g25,g26,g27,b8,b62,b12,b2,b6,b49,b55,hlt])|refine X2 ?_ ?_|(refine Xd ?_ ?_<;>intro hcd<;>try exact Xx))
    all_goals simp [DK,w1,jr]
   ·refine WP.freezeB 6 2 (k:=55) b6 (by simp [hNl]) b55 ?_
    with_reducible repeat' (first|refine Sp.h ?_|((first|refine Ss.h ?_|(refine Sb.h ?_ ?_ ?_<;>(try intro hgd)<;>try exact Xy))<;>simp -implicitDefEqProofs (maxSteps:=2000000) [hP,hN,g2,g3,g6,g13,g14,g15,g25,g26,g27,b8,b62,b12,b2,b6,b49,b55,hlt])|refine X2 ?_ ?_|(refine Xd ?_ ?_<;>intro hcd<;>try exact Xx))
    all_goals simp [DK,w1,b49]
 ·subst hi1
  subst hns
  with_reducible repeat' (first|refine Sp.h ?_|((first|refine Ss.h ?_|(refine Sb.h ?_ ?_ ?_<;>(try intro hgd)<;>try exact Xy))<;>simp -implicitDefEqProofs (maxSteps:=2000000) [hP,hN,g2,g3,g13,g14,g15,b2,b62])|refine X2 ?_ ?_|(refine Xd ?_ ?_<;>intro hcd<;>try exact Xx))
  all_goals simp [db,jr]
 ·subst hi1
  with_reducible repeat' (first|refine Sp.h ?_|((first|refine Ss.h ?_|(refine Sb.h ?_ ?_ ?_<;>(try intro hgd)<;>try exact Xy))<;>simp -implicitDefEqProofs (maxSteps:=2000000) [hP,hN,g2,g3,g13,g14,g15,b2,b49,b62])|refine X2 ?_ ?_|(refine Xd ?_ ?_<;>intro hcd<;>try exact Xx))
end Go.Ab
namespace Go.Ab
open Go.Proofs
theorem Fq (xs : List V3) (hl : xs.length≤9223372036854775807) : ab Tryz.prog 106 [.pv (aR xs),.pv (aR xs)] [] [] (.pv (B true)):=by
 refine Dp Tryz.func106 ?_
 intro C hP hN
 simp only [Tryz.f106] at hN ⊢
 with_reducible repeat' (first|refine Sp.h ?_|((first|refine Wd ?_|refine Ss.h ?_|(refine Sb.h ?_ ?_ ?_<;>(try intro hgd)<;>try exact Xy))<;>simp -implicitDefEqProofs (maxSteps:=2000000) [hP,hN]<;>try refine Ya ?_)|refine X2 ?_ ?_|(refine Xd ?_ ?_<;>intro hcd<;>try exact Xx))
 refine WP.loopN [] xs.length (fun i st=>st.t 0=.pv (aR xs)∧st.t 1=.pv (aR xs)∧st.t 5=.pv (Z i)) (by simp) ?_
 rintro i st hi ⟨h0,h1,h2⟩
 by_cases hlt : i < xs.length
 ·have hw:=ak hlt hl
  with_reducible repeat' (first|refine Sp.h ?_|((first|refine Wd ?_|refine Ss.h ?_|(refine Sb.h ?_ ?_ ?_<;>(try intro hgd)<;>try exact Xy))<;>simp -implicitDefEqProofs (maxSteps:=2000000) [hP,hN,h0,h1,h2,hlt,hw]<;>try refine Ya ?_)|refine X2 ?_ ?_|(refine Xd ?_ ?_<;>intro hcd<;>try exact Xx))
 ·skip
  with_reducible repeat' (first|refine Sp.h ?_|((first|refine Wd ?_|refine Ss.h ?_|(refine Sb.h ?_ ?_ ?_<;>(try intro hgd)<;>try exact Xy))<;>simp -implicitDefEqProofs (maxSteps:=2000000) [hP,hN,h0,h1,h2,hlt]<;>try refine Ya ?_)|refine X2 ?_ ?_|(refine Xd ?_ ?_<;>intro hcd<;>try exact Xx))
theorem Fr (xs : List Int) (hl : xs.length≤9223372036854775807) : ab Tryz.prog 107 [.pv (zs xs),.pv (zs xs)] [] [] (.pv (B true)):=by
 refine Dp Tryz.func107 ?_
 intro C hP hN
 simp only [Tryz.f107] at hN ⊢
 with_reducible repeat' (first|refine Sp.h ?_|((first|refine Wd ?_|refine Ss.h ?_|(refine Sb.h ?_ ?_ ?_<;>(try intro hgd)<;>try exact Xy))<;>simp -implicitDefEqProofs (maxSteps:=2000000) [hP,hN]<;>try refine Ya ?_)|refine X2 ?_ ?_|(refine Xd ?_ ?_<;>intro hcd<;>try exact Xx))
 refine WP.loopN [] xs.length (fun i st=>st.t 0=.pv (zs xs)∧st.t 1=.pv (zs xs)∧st.t 5=.pv (Z i)) (by simp) ?_
 rintro i st hi ⟨h0,h1,h2⟩
 by_cases hlt : i < xs.length
 ·have hw:=ak hlt hl
  with_reducible repeat' (first|refine Sp.h ?_|((first|refine Wd ?_|refine Ss.h ?_|(refine Sb.h ?_ ?_ ?_<;>(try intro hgd)<;>try exact Xy))<;>simp -implicitDefEqProofs (maxSteps:=2000000) [hP,hN,h0,h1,h2,hlt,hw]<;>try refine Ya ?_)|refine X2 ?_ ?_|(refine Xd ?_ ?_<;>intro hcd<;>try exact Xx))
 ·skip
  with_reducible repeat' (first|refine Sp.h ?_|((first|refine Wd ?_|refine Ss.h ?_|(refine Sb.h ?_ ?_ ?_<;>(try intro hgd)<;>try exact Xy))<;>simp -implicitDefEqProofs (maxSteps:=2000000) [hP,hN,h0,h1,h2,hlt]<;>try refine Ya ?_)|refine X2 ?_ ?_|(refine Xd ?_ ?_<;>intro hcd<;>try exact Xx))
theorem Fs (ns : List V3) (hl : ns.length≤9223372036854775807) : ab Tryz.prog 71 [.pv (mr ns),.pv (mr ns)] [] [] (.pv (B true)):=by
 have hT:=qT ns ns.length
 have hN:=lC ns ns.length (Nat.le_refl _)
 have c1:=Fq (db ns ns.length) (by omega)
 have c2:=Fr (jr ns ns.length) (by omega)
 have w1 : IntKind.i64.wrap 1=1:=by decide
 simp only [mr]
 generalize db ns ns.length=T at *
 generalize jr ns ns.length=M at *
 clear hN
 refine Dp Tryz.func71 ?_
 intro C hP hN
 simp only [Tryz.f71] at hN ⊢
 with_reducible repeat' (first|refine Sp.h ?_|((first|refine Wd ?_|refine Ss.h ?_|refine Sc.h (c1) ?_|(refine Sb.h ?_ ?_ ?_<;>(try intro hgd)<;>try exact Xy))<;>simp -implicitDefEqProofs (maxSteps:=2000000) [hP,hN]<;>try refine Ya ?_)|refine X2 ?_ ?_|(refine Xd ?_ ?_<;>intro hcd<;>try exact Xx))
 refine WP.loopN [6,7] 1 (fun i st=>st.t 2=.ptr 2 0∧st.t 3=.ptr 3 0∧st.t 5=.pv (Z i)∧st.h 2=some (.box [.pv (aR T),.pv (.sl [.agg [Z 0,Z 0,zs M]])] true false)∧st.h 3=some (.box [.pv (aR T),.pv (.sl [.agg [Z 0,Z 0,zs M]])] true false)∧st.h 6=none∧st.h 7=none) (by simp) ?_
 rintro i st hi ⟨g2,g3,g5,b2,b3,b6,b7⟩
 by_cases hlt : i < 1
 ·have hi0 : i=0:=by omega
  subst hi0
  with_reducible repeat' (first|refine Sp.h ?_|((first|refine Wd ?_|refine Ss.h ?_|refine Sc.h (c2) ?_|(refine Sb.h ?_ ?_ ?_<;>(try intro hgd)<;>try exact Xy))<;>simp -implicitDefEqProofs (maxSteps:=2000000) [hP,hN,g2,g3,g5,b2,b3,b6,b7,w1]<;>try refine Ya ?_)|refine X2 ?_ ?_|(refine Xd ?_ ?_<;>intro hcd<;>try exact Xx))
 ·have hi1 : i=1:=by omega
  subst hi1
  with_reducible repeat' (first|refine Sp.h ?_|((first|refine Wd ?_|refine Ss.h ?_|(refine Sb.h ?_ ?_ ?_<;>(try intro hgd)<;>try exact Xy))<;>simp -implicitDefEqProofs (maxSteps:=2000000) [hP,hN,g2,g3,g5,b2,b3,b6,b7]<;>try refine Ya ?_)|refine X2 ?_ ?_|(refine Xd ?_ ?_<;>intro hcd<;>try exact Xx))
end Go.Ab
namespace Go.Ab
open Go.Proofs
theorem Cs (ps : List (List Int)) (nss : List (List V3)) (hp : ps.length≤9223372036854775807) (hq : ∀ x ∈ ps,x.length≤9223372036854775807) (hl : nss.length≤9223372036854775807) (hn : ∀ x ∈ nss,x.length≤9223372036854775807) : ab Tryz.prog 36 [.pv (jJ ps (nss.map lY)),.pv (jJ ps (nss.map lY))] [] [] (.pv (B true)):=by
 have c1:=G9 ps ps hp hq hq
 rw [rH] at c1
 refine Dp Tryz.func36 ?_
 intro C hP hN
 simp only [Tryz.f36] at hN ⊢
 with_reducible repeat' (first|refine Sp.h ?_|((first|refine Wd ?_|refine Ss.h ?_|refine Sc.h (c1) ?_|(refine Sb.h ?_ ?_ ?_<;>(try intro hgd)<;>try exact Xy))<;>simp -implicitDefEqProofs (maxSteps:=2000000) [hP,hN]<;>try refine Ya ?_)|refine X2 ?_ ?_|(refine Xd ?_ ?_<;>intro hcd<;>try exact Xx))
 refine WP.loopN [] nss.length (fun i st=>st.t 2=.ptr 2 0∧st.t 3=.ptr 3 0∧st.t 5=.pv (Z i)∧st.h 2=some (.box [.pv (.sl (ps.map zs)),.pv (.sl (nss.map lY))] true false)∧st.h 3=some (.box [.pv (.sl (ps.map zs)),.pv (.sl (nss.map lY))] true false)) (by simp) ?_
 rintro i st hi ⟨g2,g3,g5,b2,b3⟩
 by_cases hlt : i < nss.length
 ·have hw:=ak hlt hl
  have hx : nss[i]?=some nss[i]:=List.getElem?_eq_getElem hlt
  have c2:=Fs nss[i] (hn _ (List.getElem_mem hlt))
  generalize hxe : nss[i]=v at *
  with_reducible repeat' (first|refine Sp.h ?_|((first|refine Wd ?_|refine Ss.h ?_|refine Sc.h (c2) ?_|(refine Sb.h ?_ ?_ ?_<;>(try intro hgd)<;>try exact Xy))<;>simp -implicitDefEqProofs (maxSteps:=2000000) [hP,hN,g2,g3,g5,b2,b3,hlt,hw,hx,hxe]<;>try refine Ya ?_)|refine X2 ?_ ?_|(refine Xd ?_ ?_<;>intro hcd<;>try exact Xx))
 ·skip
  with_reducible repeat' (first|refine Sp.h ?_|((first|refine Wd ?_|refine Ss.h ?_|(refine Sb.h ?_ ?_ ?_<;>(try intro hgd)<;>try exact Xy))<;>simp -implicitDefEqProofs (maxSteps:=2000000) [hP,hN,g2,g3,g5,b2,b3,hlt]<;>try refine Ya ?_)|refine X2 ?_ ?_|(refine Xd ?_ ?_<;>intro hcd<;>try exact Xx))
set_option maxRecDepth 100000 in
@[simp] theorem I3 : er Tryz.prog 40:=by
 have hf:=Tryz.func40;have nt:=Tryz.ntmps40;have rs:=Tryz.results40;exact E3
theorem wK {t : Tr} (hn : ∀ c ∈ t.cells,c.v.nor.length≤1048576) (l : Int) : (mX t l).length≤1048576:=by
 unfold mX ed
 split
 ·rename_i c hc;exact hn c (List.mem_of_getElem? hc)
 ·simp [bz]
theorem nv {s : Sce} {t : Tr} {chain p q : List Int} (h : kw s t chain p q=false) : kf s t chain p q=false:=by simp [kf,h]
def DL (a b : Nat) (P : PV) (t : Tr) (chain : List Int) (i : Nat) (h : Hp) : Prop:=(i=0∧h a=some (.box [.pv P,.pv (.val (.slice none 0 0))] true false)∧h b=none)∨(0 < i∧h a=some (.box [.pv P,.arr b i] true false)∧h b=some (.row 60 2 ((chain.take i).map (pU t)) 0))
set_option maxRecDepth 10000 in
theorem Jw (s : Sce) (t : Tr) (chain p q : List Int) (hs : ScL s) (hl : t.cells.length≤9223372036854775807) (hr : t.root.length≤9223372036854775807) (hk : chain.length≤1000000) (hn : ∀ c ∈ t.cells,c.v.nor.length≤1048576) : ab Tryz.prog 15 [.pv (eN s),.pv (dc t),.pv (zs chain),.pv (zs p),.pv (zs q)] [] [] (.pv (.tup [ip s t chain p q,B (kf s t chain p q)])):=by
 have cp:=Hc t chain p q hl hr hk
 have cs:=JI s hs
 by_cases h0 : az s=0
 case neg=>
  have hcr:=nv (s:=s) (t:=t) (chain:=chain) (p:=p) (q:=q) (by simp [kw,h0])
  rw [hcr,ov hcr]
  have h0' : (az s !=0)=true:=by simp [h0]
  generalize az s=z at *
  obtain ⟨js,ms,SH,sks⟩:=s
  refine Dp Tryz.func15 ?_
  intro C hP hN
  simp only [Tryz.f15] at hN ⊢
  with_reducible repeat' (first|refine Sp.h ?_|((first|refine Wd ?_|refine Ss.h ?_|refine Sc.h (cp) ?_|refine Sc.h (cs) ?_|(refine Sb.h ?_ ?_ ?_<;>(try intro hgd)<;>try exact Xy))<;>simp -implicitDefEqProofs (maxSteps:=2000000) [hP,hN,h0']<;>try refine Ya ?_)|refine X2 ?_ ?_|(refine Xd ?_ ?_<;>intro hcd<;>try exact Xx))
 have h0' : (az s !=0)=false:=by simp [h0]
 cases hok : bk t chain p q with
 |false=>
  have hcr:=nv (s:=s) (t:=t) (chain:=chain) (p:=p) (q:=q) (by simp [kw,hok])
  rw [hcr,ov hcr]
  rw [hok] at cp
  generalize az s=z at *
  obtain ⟨js,ms,SH,sks⟩:=s
  refine Dp Tryz.func15 ?_
  intro C hP hN
  simp only [Tryz.f15] at hN ⊢
  with_reducible repeat' (first|refine Sp.h ?_|((first|refine Wd ?_|refine Ss.h ?_|refine Sc.h (cp) ?_|refine Sc.h (cs) ?_|(refine Sb.h ?_ ?_ ?_<;>(try intro hgd)<;>try exact Xy))<;>simp -implicitDefEqProofs (maxSteps:=2000000) [hP,hN,h0']<;>try refine Ya ?_)|refine X2 ?_ ?_|(refine Xd ?_ ?_<;>intro hcd<;>try exact Xx))
 |true=>
 have hpn:=DH hok
 by_cases h3 : chain.length≤255
 case neg=>
  have hcr:=nv (s:=s) (t:=t) (chain:=chain) (p:=p) (q:=q) (by simp [kw,h3])
  rw [hcr,ov hcr]
  rw [hok] at cp
  have h3' : (256 : Int) < (dM t chain p q).length:=by omega
  generalize az s=z at *
  obtain ⟨js,ms,SH,sks⟩:=s
  refine Dp Tryz.func15 ?_
  intro C hP hN
  simp only [Tryz.f15] at hN ⊢
  with_reducible repeat' (first|refine Sp.h ?_|((first|refine Wd ?_|refine Ss.h ?_|refine Sc.h (cp) ?_|refine Sc.h (cs) ?_|(refine Sb.h ?_ ?_ ?_<;>(try intro hgd)<;>try exact Xy))<;>simp -implicitDefEqProofs (maxSteps:=2000000) [hP,hN,h0',h3']<;>try refine Ya ?_)|refine X2 ?_ ?_|(refine Xd ?_ ?_<;>intro hcd<;>try exact Xx))
 have h3' : ¬ (256 : Int) < (dM t chain p q).length:=by omega
 have hcO : kf s t chain p q=chain.all (lb t):=by simp [kf,kw,h0,hok,h3]
 have hcP : ip s t chain p q=if chain.all (lb t) then jJ (dM t chain p q) (chain.map (pU t)) else jJ [] []:=by simp [ip,hcO]
 rw [hcO,hcP]
 obtain ⟨OK,hOK⟩ : ∃ b,b=chain.all (lb t):=⟨_,rfl⟩
 rw [← hOK]
 rw [hok] at cp
 obtain ⟨hC,_⟩:=me hok
 have hget:=fun (i : Nat) (hi : i < chain.length)=>hC.get hi
 clear hC hcO hcP
 generalize az s=z at *
 generalize dM t chain p q=PS at *
 obtain ⟨js,ms,SH,sks⟩:=s
 refine Dp Tryz.func15 ?_
 intro C hP hN
 simp only [Tryz.f15] at hN ⊢
 with_reducible repeat' (first|refine Sp.h ?_|((first|refine Wd ?_|refine Ss.h ?_|refine Sc.h (cp) ?_|refine Sc.h (cs) ?_|(refine Sb.h ?_ ?_ ?_<;>(try intro hgd)<;>try exact Xy))<;>simp -implicitDefEqProofs (maxSteps:=2000000) [hP,hN,h0',h3']<;>try refine Ya ?_)|refine X2 ?_ ?_|(refine Xd ?_ ?_<;>intro hcd<;>try exact Xx))
 refine WP.loopN [15] chain.length (fun i st=>st.t 6=.ptr 6 0∧st.h 6=some (.box [.pv (iv t.root),.pv (.sl (t.cells.map cT))] true false)∧st.t 10=.ptr 10 0∧st.t 11=.ptr 11 0∧st.h 11=some (.box [.pv (B true)] true false)∧st.t 40=.pv (zs chain)∧st.t 41=.pv (Z chain.length)∧st.t 42=.pv (Z i)∧st.h 15=none∧DL 10 64 (.sl (PS.map zs)) t chain i st.h∧yL t chain i) (by simp [DL,wI]) ?_
 rintro i st hi ⟨g6,b6,g10,g11,b11,g40,g41,g42,b15,hE,hT⟩
 by_cases hlt : i < chain.length
 ·have hw:=ak hlt (by omega)
  have hx : chain[i]?=some chain[i]:=List.getElem?_eq_getElem hlt
  obtain ⟨x0,x1,x2,_,_⟩:=hget i hlt
  have hst:=wH (pU t) hx
  have hnx:=fun h=>wJ hT hx h
  have hno:=fun h=>A7 (f:=lb t) hx h
  have cp:=Jv (mX t chain[i]) (wK hn _)
  generalize hxe : chain[i]=x at *
  obtain ⟨m,rfl⟩:=Int.eq_ofNat_of_zero_le x0
  have hml : m < t.cells.length:=by omega
  have hc : t.cells[m]?=some t.cells[m]:=List.getElem?_eq_getElem hml
  have hv : ed t m=t.cells[m].v:=by simp [ed,hc]
  have hfr : lb t (m : Int)=(t.cells[m].v.kind==1):=by simp [lb,hv]
  have hnr : mX t (m : Int)=t.cells[m].v.nor:=by simp [mX,hv]
  have hed : pU t (m : Int)=mr t.cells[m].v.nor:=by simp [pU,hnr]
  rw [hnr] at cp
  rw [hed] at hst
  rw [hfr] at hnx hno
  generalize hce : t.cells[m]=c at *
  have hf1 : (i+1) * 48≤140737488355328:=by omega
  have hf3 : i+1≤9223372036854775807:=by omega
  by_cases hk1 : c.v.kind=1
  ·have hk1' : (c.v.kind !=1)=false:=by simp [hk1]
   have hnx':=hnx (by simp [hk1])
   have htl : min i chain.length=i:=by omega
   simp only [List.map_take] at hst
   rcases hE with ⟨hi0,b10,b64⟩|⟨hi0,b10,b64⟩
   ·subst hi0
    simp only [List.take_zero,List.nil_append,Nat.zero_add] at hst
    with_reducible repeat' (first|refine Sp.h ?_|((first|refine Wd ?_|refine Ss.h ?_|refine Sc.h (cp) ?_|(refine Sb.h ?_ ?_ ?_<;>(try intro hgd)<;>try exact Xy))<;>simp -implicitDefEqProofs (maxSteps:=2000000) [hP,hN,g6,b6,g10,g11,b11,g40,g41,g42,b15,b10,b64,hlt,hw,hx,hxe,hml,hc,hce,hk1']<;>try refine Ya ?_)|refine X2 ?_ ?_|(refine Xd ?_ ?_<;>intro hcd<;>try exact Xx))
    all_goals first|(refine ⟨.inr ⟨by omega,?_⟩,hnx'⟩;simp [b10,b64,hst])|(refine .inr ⟨by omega,?_⟩;simp [b10,b64,hst])
   ·skip
    with_reducible repeat' (first|refine Sp.h ?_|((first|refine Wd ?_|refine Ss.h ?_|refine Sc.h (cp) ?_|(refine Sb.h ?_ ?_ ?_<;>(try intro hgd)<;>try exact Xy))<;>simp -implicitDefEqProofs (maxSteps:=2000000) [hP,hN,g6,b6,g10,g11,b11,g40,g41,g42,b15,b10,b64,hlt,hw,hx,hxe,hml,hc,hce,hk1',hf1,hf3,htl]<;>try refine Ya ?_)|refine X2 ?_ ?_|(refine Xd ?_ ?_<;>intro hcd<;>try exact Xx))
    all_goals first|(refine ⟨.inr ⟨by omega,?_⟩,hnx'⟩;simp [b10,b64,hst])|(refine .inr ⟨by omega,?_⟩;simp [b10,b64,hst])
  ·have hk1' : (c.v.kind !=1)=true:=by simp [hk1]
   have hno':=hno (by simp [hk1])
   have hOf : OK=false:=by rw [hOK];exact hno'
   subst hOf
   rcases hE with ⟨hi0,b10,b64⟩|⟨hi0,b10,b64⟩
   ·subst hi0
    with_reducible repeat' (first|refine Sp.h ?_|((first|refine Wd ?_|refine Ss.h ?_|(refine Sb.h ?_ ?_ ?_<;>(try intro hgd)<;>try exact Xy))<;>simp -implicitDefEqProofs (maxSteps:=2000000) [hP,hN,g6,b6,g10,g11,b11,g40,g41,g42,b15,b10,b64,hlt,hw,hx,hxe,hml,hc,hce,hk1']<;>try refine Ya ?_)|refine X2 ?_ ?_|(refine Xd ?_ ?_<;>intro hcd<;>try exact Xx))
   ·skip
    with_reducible repeat' (first|refine Sp.h ?_|((first|refine Wd ?_|refine Ss.h ?_|(refine Sb.h ?_ ?_ ?_<;>(try intro hgd)<;>try exact Xy))<;>simp -implicitDefEqProofs (maxSteps:=2000000) [hP,hN,g6,b6,g10,g11,b11,g40,g41,g42,b15,b10,b64,hlt,hw,hx,hxe,hml,hc,hce,hk1']<;>try refine Ya ?_)|refine X2 ?_ ?_|(refine Xd ?_ ?_<;>intro hcd<;>try exact Xx))
 ·have hic : i=chain.length:=by omega
  have hOt : OK=true:=by rw [hOK];exact yM hT hlt
  subst hOt
  subst hic
  rcases hE with ⟨hi0,b10,b64⟩|⟨hi0,b10,b64⟩
  ·have hn0 : chain=[]:=by simpa using hi0
   subst hn0
   with_reducible repeat' (first|refine Sp.h ?_|((first|refine Wd ?_|refine Ss.h ?_|(refine Sb.h ?_ ?_ ?_<;>(try intro hgd)<;>try exact Xy))<;>simp -implicitDefEqProofs (maxSteps:=2000000) [hP,hN,g6,b6,g10,g11,b11,g40,g41,g42,b15,b10,b64,hlt]<;>try refine Ya ?_)|refine X2 ?_ ?_|(refine Xd ?_ ?_<;>intro hcd<;>try exact Xx))
  ·skip
   with_reducible repeat' (first|refine Sp.h ?_|((first|refine Wd ?_|refine Ss.h ?_|(refine Sb.h ?_ ?_ ?_<;>(try intro hgd)<;>try exact Xy))<;>simp -implicitDefEqProofs (maxSteps:=2000000) [hP,hN,g6,b6,g10,g11,b11,g40,g41,g42,b15,b10,b64,hlt]<;>try refine Ya ?_)|refine X2 ?_ ?_|(refine Xd ?_ ?_<;>intro hcd<;>try exact Xx))
end Go.Ab
namespace Go.Ab
open Go.Proofs
set_option maxRecDepth 10000 in
theorem Jx (s : Sce) (t : Tr) (chain p q : List Int) (hs : ScL s) (hl : t.cells.length≤9223372036854775807) (hr : t.root.length≤9223372036854775807) (hk : chain.length≤1000000) (hn : ∀ c ∈ t.cells,c.v.nor.length≤1048576) (hpl : p.length≤9223372036854775807) (hql : q.length≤9223372036854775807) : ab Tryz.prog 35 [.pv (eN s),.pv (dc t),.pv (zs chain),.pv (zs p),.pv (zs q)] [] [] (.pv (.tup [ip s t chain p q,B (kf s t chain p q)])):=by
 have cp:=JW t chain p q hl hr hk hpl hql
 have cs:=yR s hs
 by_cases h0 : az s=0
 case neg=>
  have hcr:=nv (s:=s) (t:=t) (chain:=chain) (p:=p) (q:=q) (by simp [kw,h0])
  rw [hcr,ov hcr]
  have h0' : (az s !=0)=true:=by simp [h0]
  generalize az s=z at *
  obtain ⟨js,ms,SH,sks⟩:=s
  refine Dp Tryz.func35 ?_
  intro C hP hN
  simp only [Tryz.f35] at hN ⊢
  with_reducible repeat' (first|refine Sp.h ?_|((first|refine Wd ?_|refine Ss.h ?_|refine Sc.h (cp) ?_|refine Sc.h (cs) ?_|(refine Sb.h ?_ ?_ ?_<;>(try intro hgd)<;>try exact Xy))<;>simp -implicitDefEqProofs (maxSteps:=2000000) [hP,hN,h0']<;>try refine Ya ?_)|refine X2 ?_ ?_|(refine Xd ?_ ?_<;>intro hcd<;>try exact Xx))
 have h0' : (az s !=0)=false:=by simp [h0]
 cases hok : bk t chain p q with
 |false=>
  have hcr:=nv (s:=s) (t:=t) (chain:=chain) (p:=p) (q:=q) (by simp [kw,hok])
  rw [hcr,ov hcr]
  rw [hok] at cp
  generalize az s=z at *
  obtain ⟨js,ms,SH,sks⟩:=s
  refine Dp Tryz.func35 ?_
  intro C hP hN
  simp only [Tryz.f35] at hN ⊢
  with_reducible repeat' (first|refine Sp.h ?_|((first|refine Wd ?_|refine Ss.h ?_|refine Sc.h (cp) ?_|refine Sc.h (cs) ?_|(refine Sb.h ?_ ?_ ?_<;>(try intro hgd)<;>try exact Xy))<;>simp -implicitDefEqProofs (maxSteps:=2000000) [hP,hN,h0']<;>try refine Ya ?_)|refine X2 ?_ ?_|(refine Xd ?_ ?_<;>intro hcd<;>try exact Xx))
 |true=>
 have hpn:=DH hok
 by_cases h3 : chain.length≤255
 case neg=>
  have hcr:=nv (s:=s) (t:=t) (chain:=chain) (p:=p) (q:=q) (by simp [kw,h3])
  rw [hcr,ov hcr]
  rw [hok] at cp
  have h3' : (256 : Int) < (dM t chain p q).length:=by omega
  generalize az s=z at *
  obtain ⟨js,ms,SH,sks⟩:=s
  refine Dp Tryz.func35 ?_
  intro C hP hN
  simp only [Tryz.f35] at hN ⊢
  with_reducible repeat' (first|refine Sp.h ?_|((first|refine Wd ?_|refine Ss.h ?_|refine Sc.h (cp) ?_|refine Sc.h (cs) ?_|(refine Sb.h ?_ ?_ ?_<;>(try intro hgd)<;>try exact Xy))<;>simp -implicitDefEqProofs (maxSteps:=2000000) [hP,hN,h0',h3']<;>try refine Ya ?_)|refine X2 ?_ ?_|(refine Xd ?_ ?_<;>intro hcd<;>try exact Xx))
 have h3' : ¬ (256 : Int) < (dM t chain p q).length:=by omega
 have hcO : kf s t chain p q=chain.all (lb t):=by simp [kf,kw,h0,hok,h3]
 have hcP : ip s t chain p q=if chain.all (lb t) then jJ (dM t chain p q) (chain.map (pU t)) else jJ [] []:=by simp [ip,hcO]
 rw [hcO,hcP]
 obtain ⟨OK,hOK⟩ : ∃ b,b=chain.all (lb t):=⟨_,rfl⟩
 rw [← hOK]
 rw [hok] at cp
 obtain ⟨hC,_⟩:=me hok
 have hget:=fun (i : Nat) (hi : i < chain.length)=>hC.get hi
 clear hC hcO hcP
 generalize az s=z at *
 generalize dM t chain p q=PS at *
 obtain ⟨js,ms,SH,sks⟩:=s
 refine Dp Tryz.func35 ?_
 intro C hP hN
 simp only [Tryz.f35] at hN ⊢
 with_reducible repeat' (first|refine Sp.h ?_|((first|refine Wd ?_|refine Ss.h ?_|refine Sc.h (cp) ?_|refine Sc.h (cs) ?_|(refine Sb.h ?_ ?_ ?_<;>(try intro hgd)<;>try exact Xy))<;>simp -implicitDefEqProofs (maxSteps:=2000000) [hP,hN,h0',h3']<;>try refine Ya ?_)|refine X2 ?_ ?_|(refine Xd ?_ ?_<;>intro hcd<;>try exact Xx))
 refine WP.loopN [16] chain.length (fun i st=>st.t 6=.ptr 6 0∧st.h 6=some (.box [.pv (iv t.root),.pv (.sl (t.cells.map cT))] true false)∧st.t 2=.pv (zs chain)∧st.t 10=.ptr 10 0∧st.h 10=some (.box [.pv (.val (.slice none 0 0)),.pv (.val (.slice none 0 0))] true false)∧st.t 14=.ptr 14 0∧st.t 15=.pv (Z i)∧st.h 16=none∧DL 14 67 (.sl (PS.map zs)) t chain i st.h∧yL t chain i) (by simp [DL,wI]) ?_
 rintro i st hi ⟨g6,b6,g2,g10,b10,g14,g15,b16,hE,hT⟩
 by_cases hlt : i < chain.length
 ·have hw:=ak hlt (by omega)
  have hx : chain[i]?=some chain[i]:=List.getElem?_eq_getElem hlt
  obtain ⟨x0,x1,x2,_,_⟩:=hget i hlt
  have hst:=wH (pU t) hx
  have hnx:=fun h=>wJ hT hx h
  have hno:=fun h=>A7 (f:=lb t) hx h
  have cp:=Ju (mX t chain[i]) (wK hn _)
  generalize hxe : chain[i]=x at *
  obtain ⟨m,rfl⟩:=Int.eq_ofNat_of_zero_le x0
  have hml : m < t.cells.length:=by omega
  have hc : t.cells[m]?=some t.cells[m]:=List.getElem?_eq_getElem hml
  have hv : ed t m=t.cells[m].v:=by simp [ed,hc]
  have hfr : lb t (m : Int)=(t.cells[m].v.kind==1):=by simp [lb,hv]
  have hnr : mX t (m : Int)=t.cells[m].v.nor:=by simp [mX,hv]
  have hed : pU t (m : Int)=mr t.cells[m].v.nor:=by simp [pU,hnr]
  rw [hnr] at cp
  rw [hed] at hst
  rw [hfr] at hnx hno
  generalize hce : t.cells[m]=c at *
  have hf1 : (i+1) * 48≤140737488355328:=by omega
  have hf3 : i+1≤9223372036854775807:=by omega
  by_cases hk1 : c.v.kind=1
  ·have hk1' : (c.v.kind !=1)=false:=by simp [hk1]
   have hnx':=hnx (by simp [hk1])
   have htl : min i chain.length=i:=by omega
   simp only [List.map_take] at hst
   rcases hE with ⟨hi0,b14,b67⟩|⟨hi0,b14,b67⟩
   ·subst hi0
    simp only [List.take_zero,List.nil_append,Nat.zero_add] at hst
    with_reducible repeat' (first|refine Sp.h ?_|((first|refine Wd ?_|refine Ss.h ?_|refine Sc.h (cp) ?_|(refine Sb.h ?_ ?_ ?_<;>(try intro hgd)<;>try exact Xy))<;>simp -implicitDefEqProofs (maxSteps:=2000000) [hP,hN,g6,b6,g2,g10,b10,g14,g15,b16,b14,b67,hlt,hw,hx,hxe,hml,hc,hce,hk1']<;>try refine Ya ?_)|refine X2 ?_ ?_|(refine Xd ?_ ?_<;>intro hcd<;>try exact Xx))
    all_goals first|(refine ⟨.inr ⟨by omega,?_⟩,hnx'⟩;simp [b14,b67,hst])|(refine .inr ⟨by omega,?_⟩;simp [b14,b67,hst])
   ·skip
    with_reducible repeat' (first|refine Sp.h ?_|((first|refine Wd ?_|refine Ss.h ?_|refine Sc.h (cp) ?_|(refine Sb.h ?_ ?_ ?_<;>(try intro hgd)<;>try exact Xy))<;>simp -implicitDefEqProofs (maxSteps:=2000000) [hP,hN,g6,b6,g2,g10,b10,g14,g15,b16,b14,b67,hlt,hw,hx,hxe,hml,hc,hce,hk1',hf1,hf3,htl]<;>try refine Ya ?_)|refine X2 ?_ ?_|(refine Xd ?_ ?_<;>intro hcd<;>try exact Xx))
    all_goals first|(refine ⟨.inr ⟨by omega,?_⟩,hnx'⟩;simp [b14,b67,hst])|(refine .inr ⟨by omega,?_⟩;simp [b14,b67,hst])
  ·have hk1' : (c.v.kind !=1)=true:=by simp [hk1]
   have hno':=hno (by simp [hk1])
   have hOf : OK=false:=by rw [hOK];exact hno'
   subst hOf
   rcases hE with ⟨hi0,b14,b67⟩|⟨hi0,b14,b67⟩
   ·subst hi0
    with_reducible repeat' (first|refine Sp.h ?_|((first|refine Wd ?_|refine Ss.h ?_|(refine Sb.h ?_ ?_ ?_<;>(try intro hgd)<;>try exact Xy))<;>simp -implicitDefEqProofs (maxSteps:=2000000) [hP,hN,g6,b6,g2,g10,b10,g14,g15,b16,b14,b67,hlt,hw,hx,hxe,hml,hc,hce,hk1']<;>try refine Ya ?_)|refine X2 ?_ ?_|(refine Xd ?_ ?_<;>intro hcd<;>try exact Xx))
   ·skip
    with_reducible repeat' (first|refine Sp.h ?_|((first|refine Wd ?_|refine Ss.h ?_|(refine Sb.h ?_ ?_ ?_<;>(try intro hgd)<;>try exact Xy))<;>simp -implicitDefEqProofs (maxSteps:=2000000) [hP,hN,g6,b6,g2,g10,b10,g14,g15,b16,b14,b67,hlt,hw,hx,hxe,hml,hc,hce,hk1']<;>try refine Ya ?_)|refine X2 ?_ ?_|(refine Xd ?_ ?_<;>intro hcd<;>try exact Xx))
 ·have hic : i=chain.length:=by omega
  have hOt : OK=true:=by rw [hOK];exact yM hT hlt
  subst hOt
  subst hic
  rcases hE with ⟨hi0,b14,b67⟩|⟨hi0,b14,b67⟩
  ·have hn0 : chain=[]:=by simpa using hi0
   subst hn0
   with_reducible repeat' (first|refine Sp.h ?_|((first|refine Wd ?_|refine Ss.h ?_|(refine Sb.h ?_ ?_ ?_<;>(try intro hgd)<;>try exact Xy))<;>simp -implicitDefEqProofs (maxSteps:=2000000) [hP,hN,g6,b6,g2,g10,b10,g14,g15,b16,b14,b67,hlt]<;>try refine Ya ?_)|refine X2 ?_ ?_|(refine Xd ?_ ?_<;>intro hcd<;>try exact Xx))
  ·skip
   with_reducible repeat' (first|refine Sp.h ?_|((first|refine Wd ?_|refine Ss.h ?_|(refine Sb.h ?_ ?_ ?_<;>(try intro hgd)<;>try exact Xy))<;>simp -implicitDefEqProofs (maxSteps:=2000000) [hP,hN,g6,b6,g2,g10,b10,g14,g15,b16,b14,b67,hlt]<;>try refine Ya ?_)|refine X2 ?_ ?_|(refine Xd ?_ ?_<;>intro hcd<;>try exact Xx))
end Go.Ab
namespace Go.Ab
open Go.Proofs
theorem En {s : Sce} {t : Tr} {chain p q : List Int} (hk : chain.length≤1000000) (hn : ∀ c ∈ t.cells,c.v.nor.length≤1048576) (hql : q.length≤9223372036854775807) : ∃ (ps : List (List Int)) (nss : List (List V3)),ip s t chain p q=jJ ps (nss.map lY)∧ps.length≤9223372036854775807∧(∀ x ∈ ps,x.length≤9223372036854775807)∧nss.length≤9223372036854775807∧∀ x ∈ nss,x.length≤9223372036854775807:=by
 cases h : kf s t chain p q with
 |false=>exact ⟨[],[],ov h,by simp,by simp,by simp,by simp⟩
 |true=>
  have hc:=BI (t:=t) (chain:=chain) (p:=p) (q:=q)
  refine ⟨dM t chain p q,chain.map (mX t),?_,by omega,EO hql,by simp;omega,?_⟩
  ·rw [Fl h,List.map_map];rfl
  ·intro x hx
   obtain ⟨l,_,rfl⟩:=List.mem_map.1 hx
   have:=wK hn l
   omega
theorem A9 (s : Sce) (t : Tr) (chain p q : List Int) (hs : ScL s) (hl : t.cells.length≤9223372036854775807) (hr : t.root.length≤9223372036854775807) (hk : chain.length≤1000000) (hn : ∀ c ∈ t.cells,c.v.nor.length≤1048576) (hpl : p.length≤9223372036854775807) (hql : q.length≤9223372036854775807) : ab Tryz.prog 12 [.pv (eN s),.pv (dc t),.pv (zs chain),.pv (zs p),.pv (zs q)] [] [] (.pv (B true)):=by
 have c1:=Jw s t chain p q hs hl hr hk hn
 have c2:=Jx s t chain p q hs hl hr hk hn hpl hql
 obtain ⟨ps,nss,he,h1,h2,h3,h4⟩:=En (s:=s) (p:=p) hk hn hql
 have c3:=Cs ps nss h1 h2 h3 h4
 rw [he] at c1 c2
 generalize kf s t chain p q=b at *
 generalize hes : nss.map lY=es at *
 clear he hes h1 h2 h3 h4
 obtain ⟨js,ms,SH,sks⟩:=s
 cases b
 all_goals
  refine Dp Tryz.func12 ?_
  intro C hP hN
  simp only [Tryz.f12] at hN ⊢
  with_reducible repeat' (first|refine Sp.h ?_|((first|refine Ss.h ?_|refine Sc.h (c1) ?_|refine Sc.h (c2) ?_|refine Sc.h (c3) ?_|(refine Sb.h ?_ ?_ ?_<;>(try intro hgd)<;>try exact Xy))<;>simp -implicitDefEqProofs (maxSteps:=2000000) [hP,hN])|refine X2 ?_ ?_|(refine Xd ?_ ?_<;>intro hcd<;>try exact Xx))
end Go.Ab
namespace Go.Ab
open Go.Proofs
def NW (cs : List Cel) : Prop:=∀ c ∈ cs,c.v.nor.length≤1048576
theorem A4 {cs : List Cel} (h : NW cs) {c : Cel} (hc : c.v.nor.length≤1048576) (i : Nat) : NW (cs.set i c):=fun d hd=>by
 rcases List.mem_or_eq_of_mem_set hd with hd|rfl
 ·exact h d hd
 ·exact hc
theorem Cm {t : Tr} (h : NW t.cells) (i j : Int) : NW (br t i j).cells:=by
 unfold br
 split
 ·have hva : (ed t i.toNat).nor.length≤1048576:=by
   unfold ed
   split
   ·rename_i c hc;exact h c (List.mem_of_getElem? hc)
   ·simp [bz]
  intro c hc
  simp only [fl,List.mem_append] at hc
  rcases hc with hc|hc
  ·exact A4 h (c:=⟨j,t.cells.length,t.cells.length+1,bz⟩) (by simp [bz]) _ c hc
  ·simp at hc;subst hc;exact hva
 ·exact h
theorem wG {s : Sce} {t : Tr} (h : NW t.cells) (i : Int) : NW (dW s t i).cells:=by
 unfold dW
 split
 ·unfold dh
  split
  ·have hl:=wY s (dO t i) (ed t i.toNat).nor
   exact A4 h (by simp only [bh,kY,jS];omega) _
  ·exact h
 ·exact h
theorem Gs {s : Sce} {t : Tr} (h : NW t.cells) (i j : Int) : NW (mv s t i j).cells:=by
 unfold mv
 split
 ·exact wG (wG (Cm h i j) _) _
 ·exact h
theorem Ej (s : Sce) (t : Tr) (i j : Int) : (mv s t i j).cells.length≤t.cells.length+2∧(mv s t i j).root=t.root:=by
 unfold mv
 split
 ·have a:=nw s (mu s t i j) ((t.cells.length : Int)+1)
  have b:=nw s (br t i j) (t.cells.length : Int)
  have hA : mu s t i j=dW s (br t i j) (t.cells.length : Int):=rfl
  rw [hA] at a ⊢
  rw [a.1,a.2,b.1,b.2]
  unfold br
  split
  ·rw [jV];exact ⟨Nat.le_refl _,rfl⟩
  ·exact ⟨by omega,rfl⟩
 ·exact ⟨by omega,rfl⟩
theorem A5 {s : Sce} {p q : List Int} {w cells : Int} (hc : cells≤2048) : ∀ (f : Nat) (t : Tr),NW t.cells→t.cells.length≤2048→NW (lf s p q w cells f t).1.cells∧(lf s p q w cells f t).1.cells.length≤2048∧(lf s p q w cells f t).1.root=t.root
 |0,t,h,hl=>⟨h,hl,rfl⟩
 |f+1,t,h,hl=>by
  simp only [lf]
  split
  ·split
   ·exact ⟨h,hl,rfl⟩
   ·rename_i h2
    have r:=Ej s t (eH s.js s.ms t p q w).1 (eH s.js s.ms t p q w).2.1
    have ih:=A5 (s:=s) (p:=p) (q:=q) (w:=w) hc f (mv s t (eH s.js s.ms t p q w).1 (eH s.js s.ms t p q w).2.1) (Gs h (eH s.js s.ms t p q w).1 (eH s.js s.ms t p q w).2.1) (by omega)
    exact ⟨ih.1,ih.2.1,ih.2.2.trans r.2⟩
  ·exact ⟨h,hl,rfl⟩
theorem Fj {s : Sce} {p q : List Int} {w cells : Int} (hj : s.js.length≤1000) : ((uZ s p q w cells).1.root.length≤1000000∧NW (uZ s p q w cells).1.cells)∧(uZ s p q w cells).1.cells.length≤2048:=by
 unfold uZ
 split
 ·rename_i h
  have hc : cells≤2048:=by simp only [vN,Bool.and_eq_true,decide_eq_true_eq] at h;exact h.2
  have hz : NW (fo (aO s.js s.ms)).cells∧(fo (aO s.js s.ms)).cells.length≤1∧(fo (aO s.js s.ms)).root.length≤1000:=by
   unfold fo
   split
   ·refine ⟨fun c hc=>?_,by simp,?_⟩
    ·simp at hc;subst hc;simp [bh,bz]
    ·simp only [aO];split<;>simp;omega
   ·exact ⟨fun c hc=>by simp at hc,by simp,by simp⟩
  have h0 : NW (pX s).cells:=wG hz.1 0
  have hl:=nw s (fo (aO s.js s.ms)) 0
  have hd : pX s=dW s (fo (aO s.js s.ms)) 0:=rfl
  rw [← hd] at hl
  obtain ⟨r1,r2,r3⟩:=A5 (s:=s) (p:=p) (q:=q) (w:=w) hc 2048 (pX s) h0 (by omega)
  exact ⟨⟨by rw [r3,hl.2];omega,r1⟩,r2⟩
 ·exact ⟨⟨by simp,fun c hc=>by simp at hc⟩,by simp⟩
def t7 (s : Sce) : Bool:=decide ((s.js.length : Int)≤4) && decide ((s.ms.length : Int)≤6) && decide ((s.shs.length : Int)≤6) && decide ((s.sks.length : Int)≤8)
theorem d6 (s : Sce) : ab Tryz.prog 6 [.pv (eN s)] [] [] (.pv (B (t7 s))):=by
 unfold t7
 obtain ⟨js,ms,SH,sks⟩:=s
 simp only
 generalize ha : decide ((js.length : Int)≤4)=a
 generalize hb : decide ((ms.length : Int)≤6)=b
 generalize hc : decide ((SH.length : Int)≤6)=c
 generalize hd : decide ((sks.length : Int)≤8)=d
 cases a<;>cases b<;>cases c
 all_goals
  refine Dp Tryz.func6 ?_
  intro C hP hN
  simp only [Tryz.f6] at hN ⊢
  with_reducible repeat' (first|refine Sp.h ?_|((first|refine Ss.h ?_|(refine Sb.h ?_ ?_ ?_<;>(try intro hgd)<;>try exact Xy))<;>simp -implicitDefEqProofs (maxSteps:=2000000) [hP,hN,ha,hb,hc,hd])|refine X2 ?_ ?_|(refine Xd ?_ ?_<;>intro hcd<;>try exact Xx))
theorem yJ (l : List Int) : ∀ j ∈ (fW l).js,yD j:=by
 intro j hj
 simp only [fW,pP,List.mem_map] at hj
 obtain ⟨i,_,rfl⟩:=hj
 unfold yD
 simp only [AY]
 omega
theorem d3 (raw : Sce) (u : Tr) (chain p q l m o : List Int) (hraw : ScL raw) (hv : NW u.cells) : ab Tryz.prog 3 [.pv (eN raw),.pv (dc u),.pv (zs chain),.pv (zs p),.pv (zs q),.pv (zs l),.pv (zs m),.pv (zs o)] [] [] (.pv (B true)):=by
 have ca:=d7
 have em:=d5 u
 have csc:=d6 raw
 generalize t7 raw=sb at *
 by_cases h1 : u.root.length≤12∧u.cells.length≤60
 case neg=>
  have e : (decide (u.root.length≤12) && decide (u.cells.length≤60))=false:=by
   rw [Bool.eq_false_iff];simpa using h1
  rw [e] at em
  refine Dp Tryz.func3 ?_
  intro C hP hN
  simp only [Tryz.f3] at hN ⊢
  with_reducible repeat' (first|refine Sp.h ?_|((first|refine Wd ?_|refine Ss.h ?_|refine Sc.h (ca) ?_|refine Sc.h (em) ?_|(refine Sb.h ?_ ?_ ?_<;>(try intro hgd)<;>try exact Xy))<;>simp -implicitDefEqProofs (maxSteps:=2000000) [hP,hN]<;>try refine Ya ?_)|refine X2 ?_ ?_|(refine Xd ?_ ?_<;>intro hcd<;>try exact Xx))
 obtain ⟨h1,h2⟩:=h1
 rw [decide_eq_true h1,decide_eq_true h2] at em
 simp only [Bool.and_self] at em
 cases sb with
 |false=>
  refine Dp Tryz.func3 ?_
  intro C hP hN
  simp only [Tryz.f3] at hN ⊢
  with_reducible repeat' (first|refine Sp.h ?_|((first|refine Wd ?_|refine Ss.h ?_|refine Sc.h (ca) ?_|refine Sc.h (em) ?_|refine Sc.h (csc) ?_|(refine Sb.h ?_ ?_ ?_<;>(try intro hgd)<;>try exact Xy))<;>simp -implicitDefEqProofs (maxSteps:=2000000) [hP,hN]<;>try refine Ya ?_)|refine X2 ?_ ?_|(refine Xd ?_ ?_<;>intro hcd<;>try exact Xx))
 |true=>
 by_cases h3 : (40 : Int) < chain.length
 ·skip
  refine Dp Tryz.func3 ?_
  intro C hP hN
  simp only [Tryz.f3] at hN ⊢
  with_reducible repeat' (first|refine Sp.h ?_|((first|refine Wd ?_|refine Ss.h ?_|refine Sc.h (ca) ?_|refine Sc.h (em) ?_|refine Sc.h (csc) ?_|(refine Sb.h ?_ ?_ ?_<;>(try intro hgd)<;>try exact Xy))<;>simp -implicitDefEqProofs (maxSteps:=2000000) [hP,hN,h3]<;>try refine Ya ?_)|refine X2 ?_ ?_|(refine Xd ?_ ?_<;>intro hcd<;>try exact Xx))
 by_cases h4 : (20 : Int) < p.length
 ·skip
  refine Dp Tryz.func3 ?_
  intro C hP hN
  simp only [Tryz.f3] at hN ⊢
  with_reducible repeat' (first|refine Sp.h ?_|((first|refine Wd ?_|refine Ss.h ?_|refine Sc.h (ca) ?_|refine Sc.h (em) ?_|refine Sc.h (csc) ?_|(refine Sb.h ?_ ?_ ?_<;>(try intro hgd)<;>try exact Xy))<;>simp -implicitDefEqProofs (maxSteps:=2000000) [hP,hN,h3,h4]<;>try refine Ya ?_)|refine X2 ?_ ?_|(refine Xd ?_ ?_<;>intro hcd<;>try exact Xx))
 by_cases h5 : (20 : Int) < q.length
 ·skip
  refine Dp Tryz.func3 ?_
  intro C hP hN
  simp only [Tryz.f3] at hN ⊢
  with_reducible repeat' (first|refine Sp.h ?_|((first|refine Wd ?_|refine Ss.h ?_|refine Sc.h (ca) ?_|refine Sc.h (em) ?_|refine Sc.h (csc) ?_|(refine Sb.h ?_ ?_ ?_<;>(try intro hgd)<;>try exact Xy))<;>simp -implicitDefEqProofs (maxSteps:=2000000) [hP,hN,h3,h4,h5]<;>try refine Ya ?_)|refine X2 ?_ ?_|(refine Xd ?_ ?_<;>intro hcd<;>try exact Xx))
 have hL:=Fh l
 have hjl : (fW l).js.length≤10:=by have:=tZ l;simp only [fW,qR];omega
 have ct:=d8 l
 have cm:=d9 m (fW l).js (fW l).ms (by omega) (yJ l)
 have co:=d9 o (fW l).js (fW l).ms (by omega) (yJ l)
 have hml : (jk m (fW l).js).length=(fW l).js.length:=by simp [jk]
 have hol : (jk o (fW l).js).length=(fW l).js.length:=by simp [jk]
 generalize fW l=s at *
 generalize jk m s.js=a at *
 generalize jk o s.js=b at *
 have cd:=JB s a b 4 60 hL (by omega) (by omega)
 obtain ⟨⟨hTr,hTn⟩,hTl⟩:=Fj (s:=s) (p:=a) (q:=b) (w:=4) (cells:=60) (by omega)
 generalize uZ s a b 4 60=D at *
 obtain ⟨t,st⟩:=D
 simp only at hTr hTn hTl cd
 have cc:=Ek t a b (by omega) (by omega) (by omega) (by omega)
 have cd2:=Fk t a b (by omega) (by omega) (by omega) (by omega)
 have lc:=Cn (t:=t) (p:=a) (q:=b)
 have ld:=El (t:=t) (p:=a) (q:=b)
 generalize eE t a b 0=x at *
 generalize eE t a b 3=y at *
 generalize fq t a b 0=xo at *
 generalize fq t a b 3=yo at *
 have k1:=A9 raw u chain p q hraw (by omega) (by omega) (by omega) hv (by omega) (by omega)
 have k2:=A9 s t x a b hL (by omega) (by omega) (by omega) hTn (by omega) (by omega)
 have k3:=A9 s t y a b hL (by omega) (by omega) (by omega) hTn (by omega) (by omega)
 have k4:=A9 s u chain a b hL (by omega) (by omega) (by omega) hv (by omega) (by omega)
 have k5:=A9 raw t x a b hraw (by omega) (by omega) (by omega) hTn (by omega) (by omega)
 refine Dp Tryz.func3 ?_
 intro C hP hN
 simp only [Tryz.f3] at hN ⊢
 with_reducible repeat' (first|refine Sp.h ?_|((first|refine Wd ?_|refine Ss.h ?_|refine Sc.h (ca) ?_|refine Sc.h (em) ?_|refine Sc.h (csc) ?_|refine Sc.h (ct) ?_|refine Sc.h (cm) ?_|refine Sc.h (co) ?_|refine Sc.h (cd) ?_|refine Sc.h (cc) ?_|refine Sc.h (cd2) ?_|refine Sc.h (k1) ?_|refine Sc.h (k2) ?_|refine Sc.h (k3) ?_|refine Sc.h (k4) ?_|refine Sc.h (k5) ?_|(refine Sb.h ?_ ?_ ?_<;>(try intro hgd)<;>try exact Xy))<;>simp -implicitDefEqProofs (maxSteps:=2000000) [hP,hN,h3,h4,h5]<;>try refine Ya ?_)|refine X2 ?_ ?_|(refine Xd ?_ ?_<;>intro hcd<;>try exact Xx))
end Go.Ab
