/- The contracts and facts that the laws of this seat need, in one text (Rd, AbG, AbQ, TrA, Tr3, CfB, Tr4, TrE, Cu1, Ab26, Cu2, Cu3, Cu4, Cu5, Cu6, TrN, Sk1, Sn1, Sm1, Sm2, Sm3, Sm4). -/
import Derived.Test.YtkpmahdfgfeknaaW4
import Derived.Test.YtkpmahdfgfeknaaRows
set_option linter.all false
set_option maxHeartbeats 16000000
namespace Go.Ab
open Go.Proofs Go.Proofs.Ytkpmahdfgfeknaa
theorem own : ownKnob Try.prog.godebug=none:=by kernel_rfl
theorem kids : Kids Try.prog (·< Try.prog.types.size):=kids_rows (by kernel_rfl) (by kernel_rfl)
theorem full : ∀ t e,t < Try.prog.types.size→Try.prog.underlying t=some (.slice e)→0 < Try.prog.cellsOf e:=slices_full_of Try.prog (by kernel_rfl)
section
variable {H : Type}
theorem qQ : lr H Try.prog 3 (fun i=>.val (.int .i64 i)) (fun i=>IntKind.i64.min≤i∧i≤IntKind.i64.max) (fun _=>1):=qw Try.underlying3
theorem cM : lr H Try.prog 22 (fun l : List Int=>.sl (l.map fun i=>.val (.int .i64 i))) (fun l=>l.length≤9223372036854775807∧∀ a ∈ l,IntKind.i64.min≤a∧a≤IntKind.i64.max) (fun l=>(l.map fun _=>1).sum+1):=oM Try.underlying22 qQ
end
end Go.Ab
namespace Go.Ab
structure Hid (H : Prop) : Prop where
 h : H
theorem Gy {G : Prop} (h : G:=by
 with_reducible repeat' (first|refine Sp.h ?_|((first|refine Wd ?_|refine Ss.h ?_|refine Sc.h (by assumption) ?_|(refine Sb.h ?_ ?_ ?_<;>(try intro hgd)<;>try exact Xy))<;>simp -implicitDefEqProofs (maxSteps:=2000000) [hP,hN, *]<;>try refine Ya ?_)|refine X2 ?_ ?_|(refine Xd ?_ ?_<;>intro hcd<;>try exact Xx))) : G:=h
theorem Gz {G H : Prop} (x : H) (h : Hid H→G:=by
 intro hG0
 with_reducible repeat' (first|refine Sp.h ?_|((first|refine Wd ?_|refine Ss.h ?_|refine Sc.h (by assumption) ?_|(refine Sb.h ?_ ?_ ?_<;>(try intro hgd)<;>try exact Xy))<;>simp -implicitDefEqProofs (maxSteps:=2000000) [hP,hN, *]<;>try refine Ya ?_)|refine X2 ?_ ?_|(refine Xd ?_ ?_<;>intro hcd<;>try exact Xx))
 exact hG0.h) : G:=h ⟨x⟩
end Go.Ab
namespace Go.Ab
theorem qk {m n : Nat} (_ : m=n) (a : Array Value) : ∀ k,k < n→k < a.size+(n - a.size):=by intro k h;omega
theorem zz {P : Program} {g : FuncId} (h : jM P g:=by
 refine ⟨by kernel_rfl,fun args w=>?_⟩
 refine callsD_of_wpS hf rfl fun c₀ cs hu=>?_
 apply wpS_seq
 apply wpS_region
 have hk:=qk nt args
 have h0:=hk 0 (by decide)
 have h1:=hk 1 (by decide)
 have h2:=hk 2 (by decide)
 simp [wpOpsS,go_sem,recoverD,hu,nt,Exit.thenS,h0,h1,h2]
 refine wpS_cond (t:=false) (by simp [Act.eval,h0,h1,h2]) ?_
 simp only [Bool.false_eq_true,if_false]
 refine wpS_of_wp (wp_skip ?_)
 cases c₀
 simp_all [bodyPostS,results,rs]) : jM P g:=h
end Go.Ab
namespace Go.Ab
open Go.Proofs
structure Verd where
 kind : Int
 nor : List (Int × Int × Int)
 pair : Int
 left : List Int
 right : List Int
structure Cel where
 joint : Int
 low : Int
 high : Int
 v : Verd
structure Tr where
 root : List (Int × Int)
 cells : List Cel
abbrev oo (v : Int × Int × Int) : PV:=.val (.agg #[.int .i64 v.1,.int .i64 v.2.1,.int .i64 v.2.2])
abbrev pj (l : List (Int × Int × Int)) : PV:=.sl (l.map oo)
abbrev sO (p : Int) (l r : List Int) : PV:=.agg [Z p,zs l,zs r]
abbrev jY (v : Verd) : PV:=.agg [Z v.kind,pj v.nor,Z v.pair,zs v.left,zs v.right]
abbrev bf (c : Cel) : PV:=.agg [Z c.joint,Z c.low,Z c.high,Z c.v.kind,pj c.v.nor,Z c.v.pair,zs c.v.left,zs c.v.right]
abbrev bR (t : Tr) : PV:=.agg [iv t.root,.sl (t.cells.map bf)]
def aT (c : Cel) : Bool:=c.joint==-1 && c.low==-1 && c.high==-1
def ed (p : Int) (l r : List Int) : Bool:=p==0 && (l.length : Int)==0 && (r.length : Int)==0
def bE (v : Verd) : Bool:=if v.kind=0∨v.kind=1 then ed v.pair v.left v.right else if v.kind=2 then ((v.nor.length : Int)==0) else false
def fA (v : Verd) : Bool:=v.kind==0 && ((v.nor.length : Int)==0) && ed v.pair v.left v.right
theorem rt {α : Type} (l : List α) : ((l.length : Int)==0)=decide (l.length=0):=by
 by_cases h : l.length=0
 ·simp [h]
 ·have : ((l.length : Int)==0)=false:=by simp;intro h';exact h (by rw [h'];rfl)
  rw [this];simp [h]
theorem z7 (c : Cel) : am Try.prog 75 [.pv (bf c)] [] [] (.pv (B (aT c))):=by
 refine Dp Try.func75 ?_
 intro C hP hN
 simp only [Try.f75] at hN ⊢
 with_reducible repeat' (first|refine Sp.h ?_|((first|refine Ss.h ?_|(refine Sb.h ?_ ?_ ?_<;>(try intro hgd)<;>try exact Xy))<;>simp -implicitDefEqProofs (maxSteps:=2000000) [hP,hN])|refine X2 ?_ ?_|(refine Xd ?_ ?_<;>intro hcd<;>try exact Xx))
 all_goals (simp_all [aT])
theorem yT (c : Cel) : am Try.prog 48 [.pv (bf c)] [] [] (.pv (B (aT c))):=by
 refine Dp Try.func48 ?_
 intro C hP hN
 simp only [Try.f48] at hN ⊢
 with_reducible repeat' (first|refine Sp.h ?_|((first|refine Ss.h ?_|(refine Sb.h ?_ ?_ ?_<;>(try intro hgd)<;>try exact Xy))<;>simp -implicitDefEqProofs (maxSteps:=2000000) [hP,hN])|refine X2 ?_ ?_|(refine Xd ?_ ?_<;>intro hcd<;>try exact Xx))
 all_goals (simp_all [aT])
theorem vG (p : Int) (l r : List Int) : am Try.prog 85 [.pv (sO p l r)] [] [] (.pv (B (ed p l r))):=by
 refine Dp Try.func85 ?_
 intro C hP hN
 simp only [Try.f85] at hN ⊢
 with_reducible repeat' (first|refine Sp.h ?_|((first|refine Ss.h ?_|(refine Sb.h ?_ ?_ ?_<;>(try intro hgd)<;>try exact Xy))<;>simp -implicitDefEqProofs (maxSteps:=2000000) [hP,hN])|refine X2 ?_ ?_|(refine Xd ?_ ?_<;>intro hcd<;>try exact Xx))
 all_goals (simp_all [ed])
theorem vg (p : Int) (l r : List Int) : am Try.prog 71 [.pv (sO p l r)] [] [] (.pv (B (ed p l r))):=by
 refine Dp Try.func71 ?_
 intro C hP hN
 simp only [Try.f71] at hN ⊢
 with_reducible repeat' (first|refine Sp.h ?_|((first|refine Ss.h ?_|(refine Sb.h ?_ ?_ ?_<;>(try intro hgd)<;>try exact Xy))<;>simp -implicitDefEqProofs (maxSteps:=2000000) [hP,hN])|refine X2 ?_ ?_|(refine Xd ?_ ?_<;>intro hcd<;>try exact Xx))
 all_goals (simp_all [ed])
theorem z8 (v : Verd) : am Try.prog 76 [.pv (jY v)] [] [] (.pv (B (bE v))):=by
 have ce:=vG v.pair v.left v.right
 have h0:=rt v.nor
 generalize hE : ed v.pair v.left v.right=E at ce
 refine Dp Try.func76 ?_
 intro C hP hN
 simp only [Try.f76] at hN ⊢
 with_reducible repeat' (first|refine Sp.h ?_|((first|refine Ss.h ?_|refine Sc.h (ce) ?_|(refine Sb.h ?_ ?_ ?_<;>(try intro hgd)<;>try exact Xy))<;>simp -implicitDefEqProofs (maxSteps:=2000000) [hP,hN])|refine X2 ?_ ?_|(refine Xd ?_ ?_<;>intro hcd<;>try exact Xx))
 all_goals (simp_all [bE])
theorem zg (v : Verd) : am Try.prog 52 [.pv (jY v)] [] [] (.pv (B (bE v))):=by
 have ce:=vg v.pair v.left v.right
 have h0:=rt v.nor
 generalize hE : ed v.pair v.left v.right=E at ce
 refine Dp Try.func52 ?_
 intro C hP hN
 simp only [Try.f52] at hN ⊢
 with_reducible repeat' (first|refine Sp.h ?_|((first|refine Ss.h ?_|refine Sc.h (ce) ?_|(refine Sb.h ?_ ?_ ?_<;>(try intro hgd)<;>try exact Xy))<;>simp -implicitDefEqProofs (maxSteps:=2000000) [hP,hN])|refine X2 ?_ ?_|(refine Xd ?_ ?_<;>intro hcd<;>try exact Xx))
 all_goals (simp_all [bE])
theorem z9 (v : Verd) : am Try.prog 77 [.pv (jY v)] [] [] (.pv (B (fA v))):=by
 have ce:=vG v.pair v.left v.right
 generalize hE : ed v.pair v.left v.right=E at ce
 refine Dp Try.func77 ?_
 intro C hP hN
 simp only [Try.f77] at hN ⊢
 with_reducible repeat' (first|refine Sp.h ?_|((first|refine Ss.h ?_|refine Sc.h (ce) ?_|(refine Sb.h ?_ ?_ ?_<;>(try intro hgd)<;>try exact Xy))<;>simp -implicitDefEqProofs (maxSteps:=2000000) [hP,hN])|refine X2 ?_ ?_|(refine Xd ?_ ?_<;>intro hcd<;>try exact Xx))
 all_goals (simp_all [fA])
theorem ur (v : Verd) : am Try.prog 53 [.pv (jY v)] [] [] (.pv (B (fA v))):=by
 have ce:=vg v.pair v.left v.right
 generalize hE : ed v.pair v.left v.right=E at ce
 refine Dp Try.func53 ?_
 intro C hP hN
 simp only [Try.f53] at hN ⊢
 with_reducible repeat' (first|refine Sp.h ?_|((first|refine Ss.h ?_|refine Sc.h (ce) ?_|(refine Sb.h ?_ ?_ ?_<;>(try intro hgd)<;>try exact Xy))<;>simp -implicitDefEqProofs (maxSteps:=2000000) [hP,hN])|refine X2 ?_ ?_|(refine Xd ?_ ?_<;>intro hcd<;>try exact Xx))
 all_goals (simp_all [fA])
def bX (r : List (Int × Int)) : Bool:=decide (1≤r.length) && decide (r.length≤10) && aU vI r
theorem Aa (r : List (Int × Int)) : am Try.prog 74 [.pv (iv r)] [] [] (.pv (B (bX r))):=by
 by_cases h1 : r.length < 1
 ·have hr : bX r=false:=by simp [bX];omega
  have h1' : (r.length : Int) < 1:=by omega
  rw [hr]
  refine Dp Try.func74 ?_
  intro C hP hN
  simp only [Try.f74] at hN ⊢
  with_reducible repeat' (first|refine Sp.h ?_|((first|refine Ss.h ?_|(refine Sb.h ?_ ?_ ?_<;>(try intro hgd)<;>try exact Xy))<;>simp -implicitDefEqProofs (maxSteps:=2000000) [hP,hN,h1',h1])|refine X2 ?_ ?_|(refine Xd ?_ ?_<;>intro hcd<;>try exact Xx))
 have h1' : ¬ (r.length : Int) < 1:=by omega
 by_cases h2 : 10 < r.length
 ·have hr : bX r=false:=by simp [bX];omega
  have h2' : (10 : Int) < r.length:=by omega
  rw [hr]
  refine Dp Try.func74 ?_
  intro C hP hN
  simp only [Try.f74] at hN ⊢
  with_reducible repeat' (first|refine Sp.h ?_|((first|refine Ss.h ?_|(refine Sb.h ?_ ?_ ?_<;>(try intro hgd)<;>try exact Xy))<;>simp -implicitDefEqProofs (maxSteps:=2000000) [hP,hN,h1',h1,h2,h2'])|refine X2 ?_ ?_|(refine Xd ?_ ?_<;>intro hcd<;>try exact Xx))
 have h2' : ¬ (10 : Int) < r.length:=by omega
 have hr : bX r=aU vI r:=by
  unfold bX
  have a1 : decide (1≤r.length)=true:=by simp;omega
  have a2 : decide (r.length≤10)=true:=by simp;omega
  rw [a1,a2];simp
 rw [hr]
 refine Dp Try.func74 ?_
 intro C hP hN
 simp only [Try.f74] at hN ⊢
 with_reducible repeat' (first|refine Sp.h ?_|((first|refine Ss.h ?_|(refine Sb.h ?_ ?_ ?_<;>(try intro hgd)<;>try exact Xy))<;>simp -implicitDefEqProofs (maxSteps:=2000000) [hP,hN,h1',h1,h2,h2'])|refine X2 ?_ ?_|(refine Xd ?_ ?_<;>intro hcd<;>try exact Xx))
 refine WP.loopN [4] r.length (fun i st=>st.t 13=.pv (iv r)∧st.t 14=.pv (Z r.length)∧st.t 15=.pv (Z i)∧st.h 4=none∧aU vI (r.take i)=true) (by simp [aU]) ?_
 rintro i st hi ⟨g13,g14,g15,hb,hq⟩
 by_cases hlt : i < r.length
 ·have hw:=ak hlt (by omega)
  have hF : vI r[i]=false→aU vI r=false:=jS hlt
  have hS : vI r[i]=true→aU vI (r.take (i+1))=true:=jr hlt hq
  with_reducible repeat' (first|refine Sp.h ?_|((first|refine Ss.h ?_|refine Sc.h (rL _ _) ?_|(refine Sb.h ?_ ?_ ?_<;>(try intro hgd)<;>try exact Xy))<;>simp -implicitDefEqProofs (maxSteps:=2000000) [hP,hN,g13,g14,g15,hb,hlt,hw])|refine X2 ?_ ?_|(refine Xd ?_ ?_<;>intro hcd<;>try exact Xx))
  all_goals first|(rw [hF (by simpa using hcd)];done)|(simp [hF (by simpa using hcd)];done)|(simpa using hS (by simpa using hcd))
 ·skip
  with_reducible repeat' (first|refine Sp.h ?_|((first|refine Ss.h ?_|(refine Sb.h ?_ ?_ ?_<;>(try intro hgd)<;>try exact Xy))<;>simp -implicitDefEqProofs (maxSteps:=2000000) [hP,hN,g13,g14,g15,hb,hlt])|refine X2 ?_ ?_|(refine Xd ?_ ?_<;>intro hcd<;>try exact Xx))
  all_goals simp [js hlt hq]
end Go.Ab
namespace Go.Ab
open Go.Proofs
theorem bC {α : Type} {p : α→Bool} {xs : List α} : aU p xs=true↔∀ x ∈ xs,p x=true:=List.all_eq_true
abbrev Bx:=List (Int × Int)
abbrev OL:=List (Option Bx)
def iN : Option Bx→PV
 |none=>.val (.slice none 0 0)
 |some b=>iv b
def dB (n i : Nat) (c : Cel) : Bool:=decide ((i : Int) < c.low) && decide (c.low < n) && decide ((i : Int) < c.high) && decide (c.high < n) && decide (c.low≠c.high) && fA c.v
def cB (n i : Nat) (c : Cel) (L : OL) : Option OL:=
 match L[i]? with
 |some (some b)=>
  if aT c then (if bE c.v then some L else none)
  else if dB n i c then
   if aQ b c.joint then
    match L[c.low.toNat]?,L[c.high.toNat]? with
    |some none,some none=>some ((L.set c.low.toNat (some (a8 b c.joint))).set c.high.toNat (some (ba b c.joint)))
    |_,_=>none
   else none
  else none
 |_=>none
def eS (n : Nat) : List Cel→Nat→OL→Option OL
 |[],_,L=>some L
 |c :: cs,i,L=>match cB n i c L with
  |some L'=>eS n cs (i+1) L'
  |none=>none
def cK (t : Tr) : OL:=some t.root :: List.replicate (t.cells.length - 1) none
def cE (t : Tr) : Bool:=decide (1≤t.cells.length) && decide (t.cells.length≤2048) && bX t.root
def bd (t : Tr) : Option OL:=if cE t then eS t.cells.length t.cells 0 (cK t) else none
def av (t : Tr) : Bool:=(bd t).isSome
def aw (t : Tr) : List Bx:=match bd t with
 |some L=>L.map fun x=>x.getD []
 |none=>[]
theorem cd {n i : Nat} {c : Cel} {L L' : OL} (h : cB n i c L=some L') : ∃ b,L[i]?=some (some b)∧
 ((aT c=true∧bE c.v=true∧L'=L)∨
  (aT c=false∧dB n i c=true∧aQ b c.joint=true∧L[c.low.toNat]?=some none∧L[c.high.toNat]?=some none∧
    L'=(L.set c.low.toNat (some (a8 b c.joint))).set c.high.toNat (some (ba b c.joint)))):=by
 unfold cB at h
 split at h
 ·rename_i b hb
  refine ⟨b,hb,?_⟩
  split at h
  ·rename_i hl
   split at h
   ·rename_i hf
    injection h with h
    exact .inl ⟨hl,hf,h.symm⟩
   ·cases h
  ·rename_i hl
   split at h
   ·rename_i hi
    split at h
    ·rename_i hh
     split at h
     ·rename_i h1 h2
      injection h with h
      exact .inr ⟨by simpa using hl,hi,hh,h1,h2,h.symm⟩
     ·cases h
    ·cases h
   ·cases h
 ·cases h
theorem bB {n i : Nat} {c : Cel} : dB n i c=true↔(i : Int) < c.low∧c.low < n∧(i : Int) < c.high∧c.high < n∧c.low≠c.high∧fA c.v=true:=by
 simp [dB,and_assoc]
theorem ru {n : Nat} {P : Nat→OL→Prop} : ∀ (cs : List Cel) (i : Nat) (L L' : OL),eS n cs i L=some L'→P i L→
 (∀ k c L L',cs[k]?=some c→P (i+k) L→cB n (i+k) c L=some L'→P (i+k+1) L')→P (i+cs.length) L'
 |[],i,L,L',h,h0,_=>by simp [eS] at h;subst h;exact h0
 |c :: cs,i,L,L',h,h0,hs=>by
  simp only [eS] at h
  split at h
  ·rename_i L1 h1
   have h2:=hs 0 c L L1 rfl h0 h1
   have:=ru cs (i+1) L1 L' h h2 (fun k d M M' hk hp hm=>by
    have e : i+1+k=i+(k+1):=by omega
    rw [e] at hp hm ⊢
    exact hs (k+1) d M M' (by simpa using hk) hp hm)
   have e : i+(c :: cs).length=i+1+cs.length:=by simp;omega
   rw [e];exact this
  ·cases h
theorem dT {t : Tr} {L : OL} {P : Nat→OL→Prop} (h : bd t=some L) (h0 : P 0 (cK t))
 (hs : ∀ i c L L',t.cells[i]?=some c→P i L→cB t.cells.length i c L=some L'→P (i+1) L') : P t.cells.length L:=by
 unfold bd at h
 split at h
 ·have:=ru t.cells 0 _ _ h h0 (fun k c M M' hk hp hm=>by
   rw [Nat.zero_add] at hp hm ⊢;exact hs k c M M' hk hp hm)
  simpa using this
 ·cases h
theorem cP {t : Tr} {L : OL} (h : bd t=some L) : cE t=true:=by
 unfold bd at h
 split at h
 ·assumption
 ·cases h
theorem aS {t : Tr} : cE t=true↔1≤t.cells.length∧t.cells.length≤2048∧1≤t.root.length∧t.root.length≤10∧aU vI t.root=true:=by
 simp [cE,bX,and_assoc]
structure BOk (t : Tr) (i : Nat) (L : OL) : Prop where
 len : L.length=t.cells.length
 pre : ∀ j,j < i→∃ b,L[j]?=some (some b)
 ok : ∀ (j : Nat) b,L[j]?=some (some b)→b.length=t.root.length∧aU vI b=true
theorem pY {b : Bx} {j : Int} (h : aQ b j=true) : (a8 b j).length=b.length∧(ba b j).length=b.length:=by
 unfold a8 ba
 rw [h]
 simp only [if_true]
 unfold aQ at h
 split<;>simp_all
theorem bD {lo hi : Int} : aW lo hi=true↔-2147483648≤lo∧lo≤hi∧hi≤2147483648:=by
 simp [aW,and_assoc]
theorem su {x : Int × Int} (h : aW x.1 x.2=true) : dP x=(x.1+x.2) / 2:=by
 unfold dP
 have h':=bD.1 h
 rw [h,if_pos rfl,show wr (x.1+x.2)=x.1+x.2 from bP (by omega) (by omega),Int.fdiv_eq_ediv]
 simp
theorem fI {b : Bx} {j : Int} : aQ b j=true↔0≤j∧aU vI b=true∧∃ x,b[j.toNat]?=some x∧2≤x.2 - x.1:=by
 unfold aQ
 constructor
 ·intro h
  simp only [Bool.and_eq_true,decide_eq_true_eq] at h
  obtain ⟨⟨h1,h2⟩,h3⟩:=h
  refine ⟨h1,h2,?_⟩
  split at h3
  ·rename_i x hx
   refine ⟨x,hx,?_⟩
   have hv:=bD.1 (bC.1 h2 _ (List.mem_of_getElem? hx))
   rw [decide_eq_true_eq,gf,if_pos (bC.1 h2 _ (List.mem_of_getElem? hx)),show wr (x.2 - x.1)=x.2 - x.1 from bP (by omega) (by omega)] at h3
   exact h3
  ·cases h3
 ·rintro ⟨h1,h2,x,hx,h3⟩
  have hv:=bD.1 (bC.1 h2 _ (List.mem_of_getElem? hx))
  have hw : gf x=x.2 - x.1:=by
   rw [gf,if_pos (bC.1 h2 _ (List.mem_of_getElem? hx))]
   exact bP (by omega) (by omega)
  simp [h1,h2,hx,hw,h3]
theorem jy {b : Bx} {j : Int} (h : aQ b j=true) : ∃ x,b[j.toNat]?=some x∧aW x.1 x.2=true∧2≤x.2 - x.1∧a8 b j=b.set j.toNat (x.1,(x.1+x.2) / 2)∧ba b j=b.set j.toNat ((x.1+x.2) / 2,x.2):=by
 obtain ⟨_,h2,x,hx,h3⟩:=fI.1 h
 have hv : aW x.1 x.2=true:=bC.1 h2 _ (List.mem_of_getElem? hx)
 refine ⟨x,hx,hv,h3,?_,?_⟩
 ·simp [a8,h,hx,su hv]
 ·simp [ba,h,hx,su hv]
theorem ej {b : Bx} {j : Int} (h : aQ b j=true) : aU vI (a8 b j)=true∧aU vI (ba b j)=true:=by
 obtain ⟨x,hx,hv,h3,ea,ez⟩:=jy h
 have h2:=(fI.1 h).2.1
 have hv':=bD.1 hv
 rw [ea,ez]
 constructor<;>refine bC.2 fun y hy=>?_
 ·rcases List.mem_or_eq_of_mem_set hy with h|rfl
  ·exact bC.1 h2 _ h
  ·exact bD.2 ⟨by omega,by simp only;omega,by simp only;omega⟩
 ·rcases List.mem_or_eq_of_mem_set hy with h|rfl
  ·exact bC.1 h2 _ h
  ·exact bD.2 ⟨by simp only;omega,by simp only;omega,by omega⟩
theorem fJ {t : Tr} (h : cE t=true) : BOk t 0 (cK t):=by
 obtain ⟨h1,h2,h3,h4,h5⟩:=aS.1 h
 refine ⟨by simp [cK];omega,fun j hj=>by omega,fun j b hb=>?_⟩
 cases j with
 |zero=>simp [cK] at hb;subst hb;exact ⟨rfl,h5⟩
 |succ j=>simp [cK,List.getElem?_replicate] at hb
theorem rv {L : OL} {a z : Nat} {x y : Option Bx} {j : Nat} (hne : a≠z) (ha : a < L.length) (hz : z < L.length) : ((L.set a x).set z y)[j]?=if j=z then some y else if j=a then some x else L[j]?:=by
 rw [List.getElem?_set]
 by_cases h1 : z=j
 ·subst h1;simp [hz]
 ·rw [if_neg h1,if_neg (fun h=>h1 h.symm),List.getElem?_set]
  by_cases h2 : a=j
  ·subst h2;simp [ha]
  ·rw [if_neg h2,if_neg (fun h=>h2 h.symm)]
theorem dU {t : Tr} {i : Nat} {c : Cel} {L : OL} {x y : Option Bx} {j : Nat} (hl : L.length=t.cells.length) (hi : dB t.cells.length i c=true) : ((L.set c.low.toNat x).set c.high.toNat y)[j]?=if j=c.high.toNat then some y else if j=c.low.toNat then some x else L[j]?:=by
 obtain ⟨h1,h2,h3,h4,h5,_⟩:=bB.1 hi
 exact rv (by omega) (by omega) (by omega)
theorem fK {t : Tr} {i : Nat} {c : Cel} {L L' : OL} (h : BOk t i L) (hs : cB t.cells.length i c L=some L') : BOk t (i+1) L':=by
 obtain ⟨b,hb,⟨_,_,rfl⟩|⟨_,hi,hh,hlo,hhi,rfl⟩⟩:=cd hs
 ·refine ⟨h.len,fun j hj=>?_,h.ok⟩
  by_cases e : j=i
  ·subst e;exact ⟨b,hb⟩
  ·exact h.pre j (by omega)
 ·have hbo:=h.ok i b hb
  refine ⟨by simpa using h.len,fun j hj=>?_,fun j d hd=>?_⟩
  ·rw [dU h.len hi]
   split
   ·exact ⟨_,rfl⟩
   ·split
    ·exact ⟨_,rfl⟩
    ·by_cases e : j=i
     ·subst e;exact ⟨b,hb⟩
     ·exact h.pre j (by omega)
  ·rw [dU h.len hi] at hd
   split at hd
   ·injection hd with hd;injection hd with hd;subst hd
    exact ⟨by rw [(pY hh).2];exact hbo.1,(ej hh).2⟩
   ·split at hd
    ·injection hd with hd;injection hd with hd;subst hd
     exact ⟨by rw [(pY hh).1];exact hbo.1,(ej hh).1⟩
    ·exact h.ok j d hd
structure BInv (t : Tr) (i : Nat) (L : OL) : Prop where
 bok : BOk t i L
 run : eS t.cells.length (t.cells.drop i) i L=bd t
theorem mf {t : Tr} (h : cE t=true) : BInv t 0 (cK t):=⟨fJ h,by simp [bd,h]⟩
theorem ij {t : Tr} {i : Nat} {L L' : OL} (h : BInv t i L) (hlt : i < t.cells.length) (hs : cB t.cells.length i t.cells[i] L=some L') : BInv t (i+1) L':=by
 refine ⟨fK h.bok hs,?_⟩
 rw [← h.run,List.drop_eq_getElem_cons hlt]
 simp only [eS,hs]
theorem mg {t : Tr} {i : Nat} {L : OL} (h : BInv t i L) (hlt : i < t.cells.length) (hs : cB t.cells.length i t.cells[i] L=none) : bd t=none:=by
 rw [← h.run,List.drop_eq_getElem_cons hlt]
 simp only [eS,hs]
theorem mh {t : Tr} {i : Nat} {L : OL} (h : BInv t i L) (hlt : ¬ i < t.cells.length) : bd t=some L:=by
 rw [← h.run,List.drop_eq_nil_of_le (by omega)]
 rfl
theorem ik {t : Tr} {L : OL} (h : bd t=some L) : BOk t t.cells.length L:=
 dT h (fJ (cP h)) (fun _ _ _ _ _ hp hm=>fK hp hm)
theorem gC {t : Tr} {L : OL} (h : bd t=some L) : L=(aw t).map some:=by
 have ok:=ik h
 rw [aw,h]
 simp only [List.map_map]
 apply List.ext_getElem?;intro j
 by_cases hj : j < L.length
 ·obtain ⟨b,hb⟩:=ok.pre j (by rw [← ok.len];exact hj)
  simp [hb]
 ·simp [List.getElem?_eq_none (by omega : L.length≤j)]
theorem m7 {t : Tr} {L : OL} (h : bd t=some L) : L.map iN=(aw t).map iv:=by
 rw [gC h]
 simp [iN,Function.comp_def]
theorem dr {t : Tr} (h : av t=true) : (aw t).length=t.cells.length:=by
 obtain ⟨L,hL⟩:=Option.isSome_iff_exists.1 h
 have:=(ik hL).len
 rw [gC hL] at this
 simpa using this
theorem jZ {t : Tr} {j : Nat} {b : Bx} (hb : (aw t)[j]?=some b) : b.length=t.root.length∧aU vI b=true:=by
 cases hL : bd t with
 |none=>simp [aw,hL] at hb
 |some L=>
  have:=(ik hL).ok j b
  rw [gC hL] at this
  exact this (by simp [hb])
theorem bn {t : Tr} (h : av t=true) : cE t=true:=by
 obtain ⟨L,hL⟩:=Option.isSome_iff_exists.1 h
 exact cP hL
theorem j5 {t : Tr} (h : bd t=none) : av t=false∧aw t=[]:=by simp [av,aw,h]
theorem dv {t : Tr} {i : Nat} {L : OL} {b : Bx} {c : Cel} {n : Nat} (hb : L[i]?=some (some b)) (hl : aT c=true) : cB n i c L=if bE c.v then some L else none:=by
 simp [cB,hb,hl]
theorem gD {i : Nat} {L : OL} {b : Bx} {c : Cel} {n : Nat} (hb : L[i]?=some (some b)) (hl : aT c=false) (hi : dB n i c=true) (hh : aQ b c.joint=true) (h1 : L[c.low.toNat]?=some none) (h2 : L[c.high.toNat]?=some none) : cB n i c L=some ((L.set c.low.toNat (some (a8 b c.joint))).set c.high.toNat (some (ba b c.joint))):=by
 simp [cB,hb,hl,hi,hh,h1,h2]
theorem eU {i : Nat} {L : OL} {b : Bx} {c : Cel} {n : Nat} (hb : L[i]?=some (some b)) (hl : aT c=false) (h : dB n i c=false∨aQ b c.joint=false∨(∃ d,L[c.low.toNat]?=some (some d))∨(∃ d,L[c.high.toNat]?=some (some d))) : cB n i c L=none:=by
 unfold cB
 rw [hb]
 simp only [hl,Bool.false_eq_true,if_false]
 split
 ·rename_i hi
  split
  ·rename_i hh
   rcases h with h|h|⟨d,h⟩|⟨d,h⟩
   ·rw [hi] at h;cases h
   ·rw [hh] at h;cases h
   ·rw [h]
   ·rw [h];split
    ·rename_i e1 e2;cases e2
    ·rfl
  ·rfl
 ·rfl
end Go.Ab
namespace Go.Ab
open Go.Proofs
def aG : Verd:=⟨0,[],0,[],[]⟩
def aY (v : Verd) : Cel:=⟨-1,-1,-1,v⟩
theorem m8 {c : Cel} (h : aT c=true) : c=aY c.v:=by
 cases c;simp [aT] at h;simp [aY,h]
theorem fe (v : Verd) : aT (aY v)=true:=by simp [aT,aY]
theorem oq : fA aG=true:=by simp [fA,aG,ed]
theorem lC : bE aG=true:=by simp [bE,aG,ed]
theorem fg {n i : Nat} {c : Cel} {L L' : OL} (h : cB n i c L=some L') {j : Nat} {b : Bx} (hb : L[j]?=some (some b)) : L'[j]?=some (some b):=by
 obtain ⟨d,hd,⟨_,_,rfl⟩|⟨_,hi,hh,hlo,hhi,rfl⟩⟩:=cd h
 ·exact hb
 ·have h1 : c.low.toNat≠j:=by intro e;rw [e,hb] at hlo;cases hlo
  have h2 : c.high.toNat≠j:=by intro e;rw [e,hb] at hhi;cases hhi
  rw [List.getElem?_set,if_neg h2,List.getElem?_set,if_neg h1];exact hb
theorem p4 {n i k : Nat} {c : Cel} {L L' S : OL} (hl : L.length=n) (hk : S.length=k) (h : cB n i c L=some L') : cB (n+k) i c (L++S)=some (L'++S):=by
 obtain ⟨d,hd,⟨h1,h2,rfl⟩|⟨h1,hi,hh,hlo,hhi,rfl⟩⟩:=cd h
 ·have hlt : i < L'.length:=(List.getElem?_eq_some_iff.1 hd).1
  have : (L'++S)[i]?=some (some d):=by rw [List.getElem?_append_left hlt];exact hd
  simp [cB,this,h1,h2]
 ·have hlt : i < L.length:=(List.getElem?_eq_some_iff.1 hd).1
  have l1 : c.low.toNat < L.length:=(List.getElem?_eq_some_iff.1 hlo).1
  have l2 : c.high.toNat < L.length:=(List.getElem?_eq_some_iff.1 hhi).1
  have e1 : (L++S)[i]?=some (some d):=by rw [List.getElem?_append_left hlt];exact hd
  have e2 : (L++S)[c.low.toNat]?=some none:=by rw [List.getElem?_append_left l1];exact hlo
  have e3 : (L++S)[c.high.toNat]?=some none:=by rw [List.getElem?_append_left l2];exact hhi
  have hi' : dB (n+k) i c=true:=by
   obtain ⟨a1,a2,a3,a4,a5,a6⟩:=bB.1 hi
   exact bB.2 ⟨a1,by omega,a3,by omega,a5,a6⟩
  rw [gD e1 h1 hi' hh e2 e3,List.set_append_left _ _ l1,List.set_append_left _ _ (by simpa using l2)]
def eV (t : Tr) (i : Nat) (j : Int) (v : Verd) : Tr:=⟨t.root,t.cells.set i ⟨j,t.cells.length,t.cells.length+1,aG⟩++[aY v,aY v]⟩
theorem ot (t : Tr) (i : Nat) (j : Int) (v : Verd) : (eV t i j v).cells.length=t.cells.length+2:=by simp [eV]
theorem gb {n i : Nat} {cs : List Cel} {c : Cel} {L L' : OL} (hc : cs[i]?=some c) (h : cB n i c L=some L') : eS n (cs.drop i) i L=eS n (cs.drop (i+1)) (i+1) L':=by
 obtain ⟨hlt,hc⟩:=List.getElem?_eq_some_iff.1 hc
 rw [List.drop_eq_getElem_cons hlt,hc]
 simp only [eS,h]
theorem p5 {t : Tr} {L : OL} (h : bd t=some L) {i : Nat} {c : Cel} (hc : t.cells[i]?=some c) (hl : aT c=true) : bE c.v=true:=by
 have hp:=dT (P:=fun k _=>i < k→bE c.v=true) h (by intro h;omega) (fun k d M M' hk hp hm hi=>by
  by_cases e : k=i
  ·subst e
   rw [hc] at hk;injection hk with hk;subst hk
   obtain ⟨b,hb,⟨_,h2,_⟩|⟨h1,_⟩⟩:=cd hm
   ·exact h2
   ·rw [hl] at h1;cases h1
  ·exact hp (by omega))
 exact hp (List.getElem?_eq_some_iff.1 hc).1
theorem rF {t : Tr} {L : OL} (h : bd t=some L) {i : Nat} {j : Int} {c : Cel} {b : Bx} (hc : t.cells[i]?=some c) (hl : aT c=true) (hn : t.cells.length+2≤2048) (hb : L[i]?=some (some b)) (hh : aQ b j=true) :
 bd (eV t i j c.v)=some (L++[some (a8 b j),some (ba b j)]):=by
 have hsz:=cP h
 obtain ⟨z1,z2,z3,z4,z5⟩:=aS.1 hsz
 have hilt : i < t.cells.length:=(List.getElem?_eq_some_iff.1 hc).1
 have hlen:=ot t i j c.v
 have hf:=p5 h hc hl
 generalize hT : eV t i j c.v=T at *
 have hTr : T.root=t.root:=by rw [← hT];rfl
 have hTc : ∀ k,k≠i→k < t.cells.length→T.cells[k]?=t.cells[k]?:=by
  intro k hk hlt
  rw [← hT];simp only [eV]
  rw [List.getElem?_append_left (by simpa using hlt),List.getElem?_set,if_neg (fun e=>hk e.symm)]
 have hTi : T.cells[i]?=some ⟨j,t.cells.length,t.cells.length+1,aG⟩:=by
  rw [← hT];simp only [eV]
  rw [List.getElem?_append_left (by simpa using hilt),List.getElem?_set,if_pos rfl,if_pos hilt]
 have hTs : cE T=true:=aS.2 ⟨by omega,by omega,by rw [hTr];omega,by rw [hTr];omega,by rw [hTr];exact z5⟩
 have hP:=dT (P:=fun k M=>BOk t k M∧if k≤i then eS (t.cells.length+2) (T.cells.drop k) k (M++[none,none])=bd T
  else ∃ d,M[i]?=some (some d)∧(aQ d j=true→eS (t.cells.length+2) (T.cells.drop k) k (M++[some (a8 d j),some (ba d j)])=bd T)) h (by
  refine ⟨fJ hsz,?_⟩
  simp only [Nat.zero_le,if_true]
  rw [bd,if_pos hTs,hlen,List.drop_zero]
  congr 1
  simp only [cK,hTr,hlen,List.cons_append]
  rw [show t.cells.length+2 - 1=(t.cells.length - 1)+2 by omega,← List.replicate_append_replicate];rfl) (by
  intro k e M M' hk hp hm
  obtain ⟨hbo,hp⟩:=hp
  refine ⟨fK hbo hm,?_⟩
  have hklt : k < t.cells.length:=(List.getElem?_eq_some_iff.1 hk).1
  rcases Nat.lt_trichotomy k i with hki|hki|hki
  ·rw [if_pos (by omega)] at hp ⊢
   rw [← hp]
   exact (gb (by rw [hTc k (by omega) hklt];exact hk) (p4 (k:=2) (S:=[none,none]) hbo.len rfl hm)).symm
  ·subst hki
   rw [hc] at hk;injection hk with hk;subst hk
   rw [if_pos (Nat.le_refl _)] at hp
   rw [if_neg (by omega)]
   obtain ⟨d,hd,⟨_,_,rfl⟩|⟨h1,_⟩⟩:=cd hm
   ·refine ⟨d,hd,fun hok=>?_⟩
    rw [← hp]
    refine (gb hTi ?_).symm
    have e1 : (M'++[none,none])[k]?=some (some d):=by rw [List.getElem?_append_left (by rw [hbo.len];exact hilt)];exact hd
    have hi' : dB (t.cells.length+2) k ⟨j,t.cells.length,t.cells.length+1,aG⟩=true:=bB.2 ⟨by simp only;omega,by simp only;omega,by simp only;omega,by simp only;omega,by simp only;omega,oq⟩
    have t1 : ((t.cells.length : Int)).toNat=M'.length:=by rw [hbo.len];omega
    have t2 : ((t.cells.length : Int)+1).toNat=M'.length+1:=by rw [hbo.len];omega
    rw [gD e1 (by simp [aT]) hi' hok (by simp only;rw [t1];simp) (by simp only;rw [t2];simp)]
    simp only [t1,t2]
    congr 1
    rw [List.set_append_right _ _ (by omega),List.set_append_right _ _ (by omega)]
    simp
   ·rw [hl] at h1;cases h1
  ·rw [if_neg (by omega)] at hp ⊢
   obtain ⟨d,hd,hp⟩:=hp
   refine ⟨d,fg hm hd,fun hok=>?_⟩
   rw [← hp hok]
   exact (gb (by rw [hTc k (by omega) hklt];exact hk) (p4 (k:=2) (S:=[some (a8 d j),some (ba d j)]) hbo.len rfl hm)).symm)
 obtain ⟨hbo,hP⟩:=hP
 rw [if_neg (by omega)] at hP
 obtain ⟨d,hd,hP⟩:=hP
 rw [hb] at hd;injection hd with hd;injection hd with hd;subst hd
 rw [← hP hh]
 have hdrop : T.cells.drop t.cells.length=[aY c.v,aY c.v]:=by
  rw [← hT];simp only [eV]
  rw [List.drop_append_of_le_length (by simp),List.drop_eq_nil_of_le (by simp)];rfl
 rw [hdrop]
 have e1 : (L++[some (a8 b j),some (ba b j)])[t.cells.length]?=some (some (a8 b j)):=by rw [← hbo.len];simp
 have e2 : (L++[some (a8 b j),some (ba b j)])[t.cells.length+1]?=some (some (ba b j)):=by rw [← hbo.len];simp
 simp only [eS]
 rw [dv (t:=t) e1 (fe _),if_pos (show bE (aY c.v).v=true from hf)]
 simp only
 rw [dv (t:=t) e2 (fe _),if_pos (show bE (aY c.v).v=true from hf)]
def bm (t : Tr) (i : Nat) (v : Verd) : Tr:=⟨t.root,t.cells.set i (aY v)⟩
theorem mi {t : Tr} {L : OL} (h : bd t=some L) {i : Nat} {c : Cel} {v : Verd} (hc : t.cells[i]?=some c) (hl : aT c=true) (hf : bE v=true) : bd (bm t i v)=some L:=by
 have hsz:=cP h
 have hilt : i < t.cells.length:=(List.getElem?_eq_some_iff.1 hc).1
 have hlen : (bm t i v).cells.length=t.cells.length:=by simp [bm]
 generalize hT : bm t i v=T at *
 have hTr : T.root=t.root:=by rw [← hT];rfl
 have hTs : cE T=true:=by
  obtain ⟨z1,z2,z3,z4,z5⟩:=aS.1 hsz
  exact aS.2 ⟨by omega,by omega,by rw [hTr];omega,by rw [hTr];omega,by rw [hTr];exact z5⟩
 have hP:=dT (P:=fun k M=>eS t.cells.length (T.cells.drop k) k M=bd T) h (by
  rw [bd,if_pos hTs,hlen,List.drop_zero]
  congr 1
  simp only [cK,hTr,hlen]) (by
  intro k e M M' hk hp hm
  rw [← hp]
  by_cases hki : k=i
  ·subst hki
   rw [hc] at hk;injection hk with hk;subst hk
   obtain ⟨d,hd,⟨_,_,rfl⟩|⟨h1,_⟩⟩:=cd hm
   ·refine (gb (c:=aY v) (by rw [← hT];simp [bm,hilt]) ?_).symm
    rw [dv (t:=t) hd (fe _),if_pos (show bE (aY v).v=true from hf)]
   ·rw [hl] at h1;cases h1
  ·refine (gb ?_ hm).symm
   rw [← hT];simp only [bm]
   rw [List.getElem?_set,if_neg (fun e=>hki e.symm)];exact hk)
 rw [← hP,List.drop_eq_nil_of_le (by omega)]
 rfl
theorem tZ {t : Tr} {L : OL} (h : bd t=some L) : ∃ c,t.cells[t.cells.length - 1]?=some c∧aT c=true:=by
 obtain ⟨z1,z2,z3,z4,z5⟩:=aS.1 (cP h)
 have hlt : t.cells.length - 1 < t.cells.length:=by omega
 refine ⟨t.cells[t.cells.length - 1],List.getElem?_eq_getElem hlt,?_⟩
 have hp:=dT (P:=fun k _=>k=t.cells.length→aT t.cells[t.cells.length - 1]=true) h (by omega) (fun k d M M' hk hp hm hi=>by
  obtain ⟨b,hb,⟨h2,_,_⟩|⟨_,h1,_⟩⟩:=cd hm
  ·have e : t.cells.length - 1=k:=by omega
   have:=List.getElem?_eq_getElem hlt
   rw [show t.cells[t.cells.length - 1]?=t.cells[k]? by rw [e],hk] at this
   injection this with this
   rw [← this];exact h2
  ·have:=bB.1 h1
   omega)
 exact hp rfl
def aK (t : Tr) (i : Nat) : Bool:=match t.cells[i]? with
 |some c=>aT c
 |none=>false
def cA (t : Tr) (n : Nat) : List Nat:=(List.range n).filter (aK t)
def bi (t : Tr) : List Nat:=if av t then cA t t.cells.length else []
theorem rx (t : Tr) (n : Nat) : cA t (n+1)=if aK t n then cA t n++[n] else cA t n:=by
 simp only [cA,List.range_succ,List.filter_append]
 cases h : aK t n<;>simp [h]
theorem mP (t : Tr) (n : Nat) : (cA t n).length≤n:=by
 have:=List.length_filter_le (aK t) (List.range n)
 simpa [cA] using this
theorem rG {t : Tr} {i : Nat} : i ∈ bi t↔av t=true∧∃ c,t.cells[i]?=some c∧aT c=true:=by
 unfold bi
 cases hv : av t with
 |false=>simp
 |true=>
  simp only [if_true,true_and,cA,List.mem_filter,List.mem_range,aK]
  constructor
  ·rintro ⟨h1,h2⟩
   rw [List.getElem?_eq_getElem h1] at h2
   exact ⟨_,List.getElem?_eq_getElem h1,h2⟩
  ·rintro ⟨c,hc,hl⟩
   refine ⟨(List.getElem?_eq_some_iff.1 hc).1,by rw [hc];exact hl⟩
theorem mQ {t : Tr} (h : av t=true) : 0 < (bi t).length:=by
 obtain ⟨L,hL⟩:=Option.isSome_iff_exists.1 h
 obtain ⟨c,hc,hl⟩:=tZ hL
 exact List.length_pos_of_mem (rG.2 ⟨h,c,hc,hl⟩)
def bZ (t : Tr) (i j : Int) : Bool:=av t && decide (0≤i) && decide (i < t.cells.length) && aK t i.toNat && decide (t.cells.length+2≤2048) && aQ ((aw t)[i.toNat]?.getD []) j
def ou (t : Tr) (i : Nat) : Verd:=match t.cells[i]? with
 |some c=>c.v
 |none=>aG
def dC (t : Tr) (i j : Int) : Tr:=if bZ t i j then eV t i.toNat j (ou t i.toNat) else t
def bL (t : Tr) (i : Int) (v : Verd) : Bool:=av t && decide (0≤i) && decide (i < t.cells.length) && aK t i.toNat && decide ((ou t i.toNat).kind=0) && bE v
def cL (t : Tr) (i : Int) (v : Verd) : Tr:=if bL t i v then bm t i.toNat v else t
theorem p6 {t : Tr} {i : Nat} (h : aK t i=true) : ∃ c,t.cells[i]?=some c∧aT c=true∧ou t i=c.v:=by
 unfold aK at h
 split at h
 ·rename_i c hc
  exact ⟨c,hc,h,by simp [ou,hc]⟩
 ·cases h
theorem rH {t : Tr} (h : av t=true) (i j : Int) : av (dC t i j)=true∧(dC t i j).root=t.root∧(dC t i j).cells.length≤t.cells.length+2:=by
 unfold dC
 split
 ·rename_i hs
  simp only [bZ,Bool.and_eq_true,decide_eq_true_eq] at hs
  obtain ⟨⟨⟨⟨⟨h1,h2⟩,h3⟩,h4⟩,h5⟩,h6⟩:=hs
  obtain ⟨L,hL⟩:=Option.isSome_iff_exists.1 h
  obtain ⟨c,hc,hl,hv⟩:=p6 h4
  have hlt : i.toNat < t.cells.length:=by omega
  obtain ⟨b,hb⟩:=(ik hL).pre i.toNat hlt
  have hb' : (aw t)[i.toNat]?=some b:=by
   have:=gC hL
   rw [this] at hb
   simpa using hb
  rw [hb'] at h6
  have:=rF hL hc hl h5 hb h6
  rw [hv]
  exact ⟨by rw [av,this];rfl,rfl,by rw [ot];exact Nat.le_refl _⟩
 ·exact ⟨h,rfl,by omega⟩
theorem ry {t : Tr} (h : av t=true) (i : Int) (v : Verd) : av (cL t i v)=true∧(cL t i v).root=t.root∧(cL t i v).cells.length=t.cells.length∧aw (cL t i v)=aw t:=by
 unfold cL
 split
 ·rename_i hs
  simp only [bL,Bool.and_eq_true,decide_eq_true_eq] at hs
  obtain ⟨⟨⟨⟨⟨h1,h2⟩,h3⟩,h4⟩,h5⟩,h6⟩:=hs
  obtain ⟨L,hL⟩:=Option.isSome_iff_exists.1 h
  obtain ⟨c,hc,hl,hv⟩:=p6 h4
  have:=mi hL hc hl h6
  exact ⟨by rw [av,this];rfl,rfl,by simp [bm],by simp [aw,this,hL]⟩
 ·exact ⟨h,rfl,rfl,rfl⟩
end Go.Ab
namespace Go.Ab
open Go.Proofs
def dj (k : Int) : Verd:=if k=1∨k=2 then ⟨2,[],0,[1],[1]⟩ else if k=3 then ⟨1,[(1,0,0)],0,[],[]⟩ else aG
def cS (l : List Int) : Nat→Nat
 |0=>nn l 0
 |i+1=>nn l (nn l (cS l i))
theorem rz (l : List Int) (i : Nat) : cS l i≤2 * i+1:=by
 induction i with
 |zero=>have:=cY l 0;simp only [cS];omega
 |succ i ih=>have:=cY l (cS l i);have:=cY l (nn l (cS l i));simp only [cS];omega
def il (l : List Int) (m : Nat) : Int:=wr (nx l m 81 - 40)
def ia (l : List Int) (m : Nat) : Int × Int:=(il l m,wr (il l m+nx l (nn l m) 60))
theorem t6 (l : List Int) (m : Nat) : -40≤(ia l m).1∧(ia l m).1≤(ia l m).2∧(ia l m).2≤100∧(ia l m).1=nx l m 81 - 40∧(ia l m).2=nx l m 81 - 40+nx l (nn l m) 60:=by
 have h1:=bq l m (k:=81) (by decide) (by decide)
 have h2:=bq l (nn l m) (k:=60) (by decide) (by decide)
 have e : il l m=nx l m 81 - 40:=bP
 have e2 : wr (il l m+nx l (nn l m) 60)=il l m+nx l (nn l m) 60:=bP
 have e3 : (ia l m).1=il l m:=rfl
 have e4 : (ia l m).2=il l m+nx l (nn l m) 60:=e2
 rw [e3,e4]
 omega
def cu (l : List Int) : Nat:=(1+nx l 0 3).toNat
def bJ (l : List Int) : List (Int × Int):=(List.range (cu l)).map fun i=>ia l (cS l i)
theorem ko (l : List Int) : 1≤cu l∧cu l≤3∧(cu l : Int)=1+nx l 0 3:=by
 have h1:=bq l 0 (k:=3) (by decide) (by decide)
 unfold cu;omega
theorem fh (l : List Int) : (bJ l).length=cu l:=by simp [bJ]
theorem ov {l : List Int} {x : Int × Int} (h : x ∈ bJ l) : -40≤x.1∧x.1≤x.2∧x.2≤100:=by
 simp only [bJ,List.mem_map] at h
 obtain ⟨i,_,rfl⟩:=h
 have:=t6 l (cS l i)
 exact ⟨this.1,this.2.1,this.2.2.1⟩
theorem rI {l : List Int} {i : Nat} (h : i < cu l) : ((bJ l).map uP).take i++[uP (ia l (cS l i))]=((bJ l).map uP).take (i+1):=by
 rw [List.take_succ_eq_append_getElem (by simpa [bJ] using h)];simp [bJ]
theorem qa (l : List Int) : bX (bJ l)=true:=by
 have h:=ko l
 simp only [bX,fh,Bool.and_eq_true,decide_eq_true_eq]
 refine ⟨⟨h.1,by omega⟩,bC.2 fun x hx=>?_⟩
 have:=ov hx
 exact bD.2 ⟨by omega,by omega,by omega⟩
def pl (r : List (Int × Int)) : Tr:=if bX r then ⟨r,[aY aG]⟩ else ⟨[],[]⟩
theorem t7 {r : List (Int × Int)} (h : bX r=true) : bd ⟨r,[aY aG]⟩=some [some r]:=by
 have hs : cE ⟨r,[aY aG]⟩=true:=by simp [cE,h]
 rw [bd,if_pos hs]
 simp only [cK,List.length_singleton,Nat.sub_self,List.replicate,eS]
 rw [dv (t:=⟨r,[]⟩) (b:=r) rfl (fe _),if_pos (show bE (aY aG).v=true from lC)]
theorem xH {r : List (Int × Int)} (h : bX r=false) : bd ⟨r,[aY aG]⟩=none:=by
 have hs : cE ⟨r,[aY aG]⟩=false:=by simp [cE,h]
 rw [bd,if_neg (by simp [hs])]
theorem mj (r : List (Int × Int)) : av ⟨r,[aY aG]⟩=bX r:=by
 cases h : bX r with
 |true=>rw [av,t7 h];rfl
 |false=>rw [av,xH h];rfl
def pm (t : Tr) (l : List Int) (m : Nat) : Nat:=(bi t)[(nx l m (bi t).length).toNat]?.getD 0
def rA (t : Tr) (l : List Int) (m : Nat) : Int:=nx l (nn l m) t.root.length
def bt (t0 : Tr) (l : List Int) : Nat→Tr × Nat
 |0=>(t0,0)
 |k+1=>(dC (bt t0 l k).1 (pm (bt t0 l k).1 l (bt t0 l k).2) (rA (bt t0 l k).1 l (bt t0 l k).2),nn l (nn l (bt t0 l k).2))
def cV (t0 : Tr) (m0 : Nat) (all : List Nat) (l : List Int) : Nat→Tr × Nat
 |0=>(t0,m0)
 |k+1=>(cL (cV t0 m0 all l k).1 ((all[k]?.getD 0 : Nat) : Int) (dj (nx l (cV t0 m0 all l k).2 5)),nn l (cV t0 m0 all l k).2)
def nd (t : Tr) (l : List Int) (times : Nat) : Tr:=(cV (bt t l times).1 (bt t l times).2 (bi (bt t l times).1) l (bi (bt t l times).1).length).1
def en (l : List Int) : Int:=nx l (cS l (cu l)) 14
def e6 (l : List Int) : Tr:=nd ⟨bJ l,[aY aG]⟩ l (en l).toNat
theorem sv {t0 : Tr} (l : List Int) (h : av t0=true) (k : Nat) : av (bt t0 l k).1=true∧(bt t0 l k).1.root=t0.root∧(bt t0 l k).1.cells.length≤t0.cells.length+2 * k∧(bt t0 l k).2≤2 * k:=by
 induction k with
 |zero=>exact ⟨h,rfl,by simp [bt],by simp [bt]⟩
 |succ k ih=>
  obtain ⟨h1,h2,h3,h4⟩:=ih
  have:=rH h1 (pm (bt t0 l k).1 l (bt t0 l k).2) (rA (bt t0 l k).1 l (bt t0 l k).2)
  have n1:=cY l (bt t0 l k).2
  have n2:=cY l (nn l (bt t0 l k).2)
  simp only [bt]
  exact ⟨this.1,by rw [this.2.1];exact h2,by omega,by omega⟩
theorem sw {t0 : Tr} (m0 : Nat) (all : List Nat) (l : List Int) (h : av t0=true) (k : Nat) : av (cV t0 m0 all l k).1=true∧(cV t0 m0 all l k).1.root=t0.root∧(cV t0 m0 all l k).1.cells.length=t0.cells.length∧aw (cV t0 m0 all l k).1=aw t0∧(cV t0 m0 all l k).2≤m0+k:=by
 induction k with
 |zero=>exact ⟨h,rfl,rfl,rfl,by simp [cV]⟩
 |succ k ih=>
  obtain ⟨h1,h2,h3,h4,h5⟩:=ih
  have:=ry h1 ((all[k]?.getD 0 : Nat) : Int) (dj (nx l (cV t0 m0 all l k).2 5))
  have n1:=cY l (cV t0 m0 all l k).2
  simp only [cV]
  exact ⟨this.1,by rw [this.2.1];exact h2,by rw [this.2.2.1];exact h3,by rw [this.2.2.2];exact h4,by omega⟩
theorem mR (l : List Int) : 0≤en l∧en l < 14:=bq l _ (by decide) (by decide)
structure MTree (t : Tr) : Prop where
 valid : av t=true
 pos : 1≤t.root.length
 three : t.root.length≤3
 rng : ∀ x ∈ t.root,-40≤x.1∧x.1≤x.2∧x.2≤100
 cells : t.cells.length≤27
 one : 1≤t.cells.length
theorem t8 (l : List Int) : MTree (e6 l):=by
 have hv : av ⟨bJ l,[aY aG]⟩=true:=by rw [mj];exact qa l
 have h1:=sv l hv (en l).toNat
 have h2:=sw (bt ⟨bJ l,[aY aG]⟩ l (en l).toNat).2 (bi (bt ⟨bJ l,[aY aG]⟩ l (en l).toNat).1) l h1.1 (bi (bt ⟨bJ l,[aY aG]⟩ l (en l).toNat).1).length
 have hr:=ko l
 have ht:=mR l
 have hroot : (e6 l).root=bJ l:=by unfold e6 nd;rw [h2.2.1,h1.2.1]
 have hlen : (e6 l).cells.length≤27:=by
  unfold e6 nd;rw [h2.2.2.1]
  have:=h1.2.2.1
  simp only [List.length_singleton] at this
  omega
 have hval : av (e6 l)=true:=h2.1
 refine ⟨hval,?_,?_,?_,hlen,(aS.1 (bn hval)).1⟩
 ·rw [hroot,fh];exact hr.1
 ·rw [hroot,fh];exact hr.2.1
 ·rw [hroot];exact fun x hx=>ov hx
def kw (l : List Int) (m : Nat) : Int:=nx l m 5
def mS (l : List Int) (m : Nat) (x : Int × Int) : Int:=if kw l m=0 then x.1 else if kw l m=1 then x.2 else if kw l m=2 then dP x else x.1+nx l (nn l m) (x.2 - x.1+1)
def ml (l : List Int) (m : Nat) : Nat:=if kw l m=0 then nn l m else if kw l m=1 then nn l m else if kw l m=2 then nn l m else nn l (nn l m)
def cJ (l : List Int) : Nat→Nat
 |0=>0
 |i+1=>ml l (cJ l i)
theorem ym (l : List Int) (i : Nat) : cJ l i≤2 * i:=by
 induction i with
 |zero=>simp [cJ]
 |succ i ih=>
  have h1:=cY l (cJ l i);have h2:=cY l (nn l (cJ l i))
  simp only [cJ,ml]
  repeat' split
  all_goals omega
def lg (b : List (Int × Int)) (l : List Int) : List Int:=b.mapIdx fun i x=>mS l (cJ l i) x
theorem lu (b : List (Int × Int)) (l : List Int) : (lg b l).length=b.length:=by simp [lg]
theorem wx {l : List Int} {b : List (Int × Int)} {i : Nat} (hlt : i < b.length) : ((lg b l).map Z).take i++[Z (mS l (cJ l i) b[i])]=((lg b l).map Z).take (i+1):=by
 rw [List.take_succ_eq_append_getElem (by simpa [lg] using hlt)];simp [lg]
end Go.Ab
namespace Go.Ab
open Go.Proofs
theorem nj {α β : Type} {f : α→β→Bool} {xs : List α} {ys : List β} : dk f xs ys=true↔∀ (i : Nat) x y,xs[i]?=some x→ys[i]?=some y→f x y=true:=by
 unfold dk
 rw [List.all_eq_true]
 constructor
 ·intro h i x y hx hy
  have : (List.zipWith f xs ys)[i]?=some (f x y):=by simp [List.getElem?_zipWith,hx,hy]
  exact h _ (List.mem_of_getElem? this)
 ·intro h z hz
  obtain ⟨i,hi⟩:=List.getElem?_of_mem hz
  rw [List.getElem?_zipWith] at hi
  cases hx : xs[i]? with
  |none=>simp [hx] at hi
  |some x=>
   cases hy : ys[i]? with
   |none=>simp [hx,hy] at hi
   |some y=>
    simp [hx,hy] at hi
    rw [← hi];exact h i x y hx hy
theorem dw {b : Bx} {c : List Int} (hv : aU vI b=true) : aR b c=true↔b.length=c.length∧∀ (i : Nat) x y,b[i]?=some x→c[i]?=some y→x.1≤y∧y≤x.2:=by
 simp only [aR,Bool.and_eq_true,decide_eq_true_eq,nj]
 constructor
 ·rintro ⟨h1,h2⟩
  refine ⟨h1,fun i x y hx hy=>?_⟩
  have:=h2 i x y hx hy
  simp only [fo,Bool.and_eq_true,decide_eq_true_eq] at this
  exact ⟨this.1.2,this.2⟩
 ·rintro ⟨h1,h2⟩
  refine ⟨h1,fun i x y hx hy=>?_⟩
  simp only [fo,Bool.and_eq_true,decide_eq_true_eq]
  exact ⟨⟨bC.1 hv _ (List.mem_of_getElem? hx),(h2 i x y hx hy).1⟩,(h2 i x y hx hy).2⟩
theorem mm {a b : Bx} (ha : aU vI a=true) (hb : aU vI b=true) : bG a b=true↔a.length=b.length∧∀ (i : Nat) x y,a[i]?=some x→b[i]?=some y→x.1≤y.2∧y.1≤x.2:=by
 simp only [bG,Bool.and_eq_true,decide_eq_true_eq,nj]
 constructor
 ·rintro ⟨h1,h2⟩
  refine ⟨h1,fun i x y hx hy=>?_⟩
  have:=h2 i x y hx hy
  simp only [cT,Bool.and_eq_true,decide_eq_true_eq] at this
  omega
 ·rintro ⟨h1,h2⟩
  refine ⟨h1,fun i x y hx hy=>?_⟩
  have vx : aW x.1 x.2=true:=bC.1 ha _ (List.mem_of_getElem? hx)
  have vy : aW y.1 y.2=true:=bC.1 hb _ (List.mem_of_getElem? hy)
  simp only [cT,vx,vy,Bool.and_eq_true,decide_eq_true_eq,true_and]
  have:=h2 i x y hx hy
  have:=bD.1 vx
  have:=bD.1 vy
  omega
theorem sx {b : Bx} {c : List Int} (h : aR b c=true) {i : Nat} {y : Int} (hy : c[i]?=some y) : -2147483648≤y∧y≤2147483648:=by
 simp only [aR,Bool.and_eq_true,decide_eq_true_eq,nj] at h
 obtain ⟨h1,h2⟩:=h
 have hlt:=(List.getElem?_eq_some_iff.1 hy).1
 have:=h2 i (b[i]'(by omega)) y (List.getElem?_eq_getElem _) hy
 simp only [fo,Bool.and_eq_true,decide_eq_true_eq] at this
 have:=bD.1 this.1.1
 omega
end Go.Ab
namespace Go.Ab
open Go.Proofs
def aD (t : Tr) (c : Int) : Bx:=(aw t)[c.toNat]?.getD []
theorem e7 {t : Tr} (hv : av t=true) {c : Int} (h : c.toNat < t.cells.length) : (aw t)[c.toNat]?=some (aD t c)∧(aD t c).length=t.root.length∧aU vI (aD t c)=true:=by
 have hl : c.toNat < (aw t).length:=by rw [dr hv];exact h
 have e : (aw t)[c.toNat]?=some (aD t c):=by simp [aD,List.getElem?_eq_getElem hl]
 exact ⟨e,jZ e⟩
def rB (t : Tr) (chain : List Int) (j : Nat) : Bool:=match chain[j]? with
 |some c=>decide (0≤c) && decide (c < t.cells.length) && aK t c.toNat && !((chain.take j).contains c) && (decide (j=0) || bG (aD t (chain[j - 1]?.getD 0)) (aD t c))
 |none=>false
theorem sP {t : Tr} {chain : List Int} {j : Nat} {c : Int} (hc : chain[j]?=some c) : rB t chain j=true↔0≤c∧c < t.cells.length∧aK t c.toNat=true∧c ∉ chain.take j∧(j=0∨bG (aD t (chain[j - 1]?.getD 0)) (aD t c)=true):=by
 simp [rB,hc,and_assoc]
structure ChOk (t : Tr) (chain p q : List Int) : Prop where
 valid : av t=true
 hp : aR t.root p=true
 hq : aR t.root q=true
 ne : chain≠[]
 all : ∀ j,j < chain.length→rB t chain j=true
namespace ChOk
variable {t : Tr} {chain p q : List Int}
theorem get (h : ChOk t chain p q) {j : Nat} (hj : j < chain.length) : 0≤chain[j]∧chain[j] < t.cells.length∧aK t chain[j].toNat=true∧chain[j] ∉ chain.take j∧(j=0∨bG (aD t (chain[j - 1]?.getD 0)) (aD t chain[j])=true):=
 (sP (List.getElem?_eq_getElem hj)).1 (h.all j hj)
theorem box (h : ChOk t chain p q) {j : Nat} (hj : j < chain.length) : (aw t)[chain[j].toNat]?=some (aD t chain[j])∧(aD t chain[j]).length=t.root.length∧aU vI (aD t chain[j])=true:=by
 have:=h.get hj
 exact e7 h.valid (by omega)
theorem touch (h : ChOk t chain p q) {j : Nat} (hj : j+1 < chain.length) : bG (aD t chain[j]) (aD t chain[j+1])=true:=by
 have:=(h.get hj).2.2.2.2
 rcases this with e|e
 ·omega
 ·rw [Nat.add_sub_cancel,List.getElem?_eq_getElem (by omega)] at e;exact e
end ChOk
end Go.Ab
namespace Go.Ab
open Go.Proofs
section
variable (n : Nat) (may has hasF : Nat→Bool) (tch : Nat→Nat→Bool)
variable {n may has hasF tch}
end
end Go.Ab
namespace Go.Ab
open Go.Proofs
set_option maxRecDepth 100000 in
@[simp] theorem zw : jM Try.prog 62:=by
 have hf:=Try.func62;have nt:=Try.ntmps62;have rs:=Try.results62;exact zz
end Go.Ab
namespace Go.Ab
open Go.Proofs
theorem m6 {t : Tr} (h : 1≤t.cells.length) : (List.replicate t.cells.length (PV.val (.slice none 0 0))).set 0 (iv t.root)=(cK t).map iN:=by
 obtain ⟨n,hn⟩ : ∃ n,t.cells.length=n+1:=⟨t.cells.length - 1,by omega⟩
 simp [cK,hn,List.replicate_succ,iN]
theorem bu : iN none=.val (.slice none 0 0):=rfl
theorem bz (b : Bx) : iN (some b)=iv b:=rfl
theorem aP {α : Type} {L : List α} {i : Nat} {x : α} (h : L[i]?=some x) (hl : i < L.length) : L[i]=x:=(List.getElem?_eq_some_iff.1 h).2
theorem set_row {L : OL} {a z : Nat} {x y : Bx} : ((L.map iN).set a (iv x)).set z (iv y)=((L.set a (some x)).set z (some y)).map iN:=by
 simp [List.map_set,iN]
theorem mO {n i : Nat} {c : Cel} (h : dB n i c=false) : c.low≤i∨(n : Int)≤c.low∨c.high≤i∨(n : Int)≤c.high∨(c.low==c.high)=true∨fA c.v=false:=by
 cases hz : fA c.v with
 |false=>exact .inr (.inr (.inr (.inr (.inr rfl))))
 |true=>
  have : ¬ ((i : Int) < c.low∧c.low < n∧(i : Int) < c.high∧c.high < n∧c.low≠c.high∧fA c.v=true):=by rw [← bB,h];simp
  simp only [hz,and_true] at this
  simp only [beq_iff_eq]
  omega
theorem vq (t : Tr) (hl : t.cells.length≤9223372036854775807) : am Try.prog 63 [.pv (bR t)] [] [] (.pv (.tup [.sl ((aw t).map iv),B (av t)])):=by
 have cv:=Aa t.root
 cases hs : cE t with
 |false=>
  have hno:=j5 (t:=t) (by simp [bd,hs])
  rw [hno.1,hno.2]
  by_cases h1 : t.cells.length < 1
  ·have h1' : (t.cells.length : Int) < 1:=by omega
   refine Dp Try.func63 ?_
   intro C hP hN
   simp only [Try.f63] at hN ⊢
   with_reducible repeat' (first|refine Sp.h ?_|((first|refine Wd ?_|refine Ss.h ?_|(refine Sb.h ?_ ?_ ?_<;>(try intro hgd)<;>try exact Xy))<;>simp -implicitDefEqProofs (maxSteps:=2000000) [hP,hN,h1',h1]<;>try refine Ya ?_)|refine X2 ?_ ?_|(refine Xd ?_ ?_<;>intro hcd<;>try exact Xx))
  have h1' : ¬ (t.cells.length : Int) < 1:=by omega
  by_cases h2 : 2048 < t.cells.length
  ·have h2' : (2048 : Int) < t.cells.length:=by omega
   refine Dp Try.func63 ?_
   intro C hP hN
   simp only [Try.f63] at hN ⊢
   with_reducible repeat' (first|refine Sp.h ?_|((first|refine Wd ?_|refine Ss.h ?_|(refine Sb.h ?_ ?_ ?_<;>(try intro hgd)<;>try exact Xy))<;>simp -implicitDefEqProofs (maxSteps:=2000000) [hP,hN,h1',h1,h2,h2']<;>try refine Ya ?_)|refine X2 ?_ ?_|(refine Xd ?_ ?_<;>intro hcd<;>try exact Xx))
  have h2' : ¬ (2048 : Int) < t.cells.length:=by omega
  have h3 : bX t.root=false:=by
   cases h : bX t.root with
   |false=>rfl
   |true=>simp [cE,h] at hs;omega
  rw [h3] at cv
  refine Dp Try.func63 ?_
  intro C hP hN
  simp only [Try.f63] at hN ⊢
  with_reducible repeat' (first|refine Sp.h ?_|((first|refine Wd ?_|refine Ss.h ?_|refine Sc.h (cv) ?_|(refine Sb.h ?_ ?_ ?_<;>(try intro hgd)<;>try exact Xy))<;>simp -implicitDefEqProofs (maxSteps:=2000000) [hP,hN,h1',h1,h2,h2']<;>try refine Ya ?_)|refine X2 ?_ ?_|(refine Xd ?_ ?_<;>intro hcd<;>try exact Xx))
 |true=>
  obtain ⟨z1,z2,z3,z4,z5⟩:=aS.1 hs
  have h1 : ¬ t.cells.length < 1:=by omega
  have h2 : ¬ 2048 < t.cells.length:=by omega
  have h1' : ¬ (t.cells.length : Int) < 1:=by omega
  have h2' : ¬ (2048 : Int) < t.cells.length:=by omega
  have h3 : bX t.root=true:=by simp only [cE,Bool.and_eq_true] at hs;exact hs.2
  have hin:=m6 z1
  rw [h3] at cv
  refine Dp Try.func63 ?_
  intro C hP hN
  simp only [Try.f63] at hN ⊢
  with_reducible repeat' (first|refine Sp.h ?_|((first|refine Wd ?_|refine Ss.h ?_|refine Sc.h (cv) ?_|(refine Sb.h ?_ ?_ ?_<;>(try intro hgd)<;>try exact Xy))<;>simp -implicitDefEqProofs (maxSteps:=2000000) [hP,hN,h1',h1,h2,h2',hin,show (24 : Int) * t.cells.length≤281474976710656 by omega,show (t.cells.length : Int)≤9223372036854775807 by omega,show 0 < t.cells.length by omega]<;>try refine Ya ?_)|refine X2 ?_ ?_|(refine Xd ?_ ?_<;>intro hcd<;>try exact Xx))
  refine WP.loopN [7] t.cells.length (fun i st=>∃ L,BInv t i L∧st.t 4=.pv (Z t.cells.length)∧st.t 5=.arr 27 t.cells.length∧st.t 33=.pv (.sl (t.cells.map bf))∧st.t 34=.pv (Z t.cells.length)∧st.t 35=.pv (Z i)∧st.h 7=none∧st.h 27=some (.row 23 1 (L.map iN) 0)) (by exact ⟨cK t,mf hs,by simp [hin]⟩) ?_
  rintro i st hi ⟨L,hB,g4,g5,g33,g34,g35,hb7,hb27⟩
  have hLl:=hB.bok.len
  by_cases hlt : i < t.cells.length
  ·have hw:=ak hlt hl
   have hlL : i < L.length:=by omega
   generalize hc : t.cells[i]=c at *
   have hci : t.cells[i]?=some c:=by rw [List.getElem?_eq_getElem hlt,hc]
   have bad : cB t.cells.length i c L=none→av t=false∧aw t=[]:=fun h=>j5 (mg hB hlt (by rw [hc];exact h))
   have cl:=z7 c
   have cf:=z8 c.v
   have cz:=z9 c.v
   cases hx : L[i]? with
   |none=>rw [List.getElem?_eq_getElem hlL] at hx;cases hx
   |some x=>
   cases x with
   |none=>
    have hx':=aP hx hlL
    obtain ⟨e1,e2⟩:=bad (by simp [cB,hx])
    rw [e1,e2]
    with_reducible repeat' (first|refine Sp.h ?_|((first|refine Wd ?_|refine Ss.h ?_|(refine Sb.h ?_ ?_ ?_<;>(try intro hgd)<;>try exact Xy))<;>simp -implicitDefEqProofs (maxSteps:=2000000) [hP,hN,g4,g5,g33,g34,g35,hb7,hb27,hlt,hw,hx,hx',bu,bz,hci,hc,hLl]<;>try refine Ya ?_)|refine X2 ?_ ?_|(refine Xd ?_ ?_<;>intro hcd<;>try exact Xx))
   |some b=>
   have hx':=aP hx hlL
   obtain ⟨hbl,hbv⟩:=hB.bok.ok i b hx
   have hb2 : b≠[]:=by intro h;rw [h] at hbl;simp at hbl;omega
   have hb1 : b.isEmpty=false:=by simp [hb2]
   cases hlf : aT c with
   |true=>
    rw [hlf] at cl
    cases hf : bE c.v with
    |true=>
     rw [hf] at cf
     have hnx:=ij (L':=L) hB hlt (by rw [hc,dv (t:=t) hx hlf,hf];rfl)
     with_reducible repeat' (first|refine Sp.h ?_|((first|refine Wd ?_|refine Ss.h ?_|refine Sc.h (cl) ?_|refine Sc.h (cf) ?_|(refine Sb.h ?_ ?_ ?_<;>(try intro hgd)<;>try exact Xy))<;>simp -implicitDefEqProofs (maxSteps:=2000000) [hP,hN,g4,g5,g33,g34,g35,hb7,hb27,hlt,hw,hx,hx',bu,bz,hci,hc,hLl,hb1,hb2]<;>try refine Ya ?_)|refine X2 ?_ ?_|(refine Xd ?_ ?_<;>intro hcd<;>try exact Xx))
     all_goals exact ⟨L,hnx,rfl⟩
    |false=>
     rw [hf] at cf
     obtain ⟨e1,e2⟩:=bad (by rw [dv (t:=t) hx hlf,hf];rfl)
     rw [e1,e2]
     with_reducible repeat' (first|refine Sp.h ?_|((first|refine Wd ?_|refine Ss.h ?_|refine Sc.h (cl) ?_|refine Sc.h (cf) ?_|(refine Sb.h ?_ ?_ ?_<;>(try intro hgd)<;>try exact Xy))<;>simp -implicitDefEqProofs (maxSteps:=2000000) [hP,hN,g4,g5,g33,g34,g35,hb7,hb27,hlt,hw,hx,hx',bu,bz,hci,hc,hLl,hb1,hb2]<;>try refine Ya ?_)|refine X2 ?_ ?_|(refine Xd ?_ ?_<;>intro hcd<;>try exact Xx))
   |false=>
    rw [hlf] at cl
    cases hin' : dB t.cells.length i c with
    |false=>
     obtain ⟨e1,e2⟩:=bad (eU hx hlf (.inl hin'))
     rw [e1,e2]
     rcases mO hin' with h|h|h|h|h|h
     all_goals try rw [h] at cz
     all_goals
      with_reducible repeat' (first|refine Sp.h ?_|((first|refine Wd ?_|refine Ss.h ?_|refine Sc.h (cl) ?_|refine Sc.h (cz) ?_|(refine Sb.h ?_ ?_ ?_<;>(try intro hgd)<;>try exact Xy))<;>simp -implicitDefEqProofs (maxSteps:=2000000) [hP,hN,g4,g5,g33,g34,g35,hb7,hb27,hlt,hw,hx,hx',bu,bz,hci,hc,hLl,hb1,hb2,h]<;>try refine Ya ?_)|refine X2 ?_ ?_|(refine Xd ?_ ?_<;>intro hcd<;>try exact Xx))
    |true=>
     obtain ⟨i1,i2,i3,i4,i5,i6⟩:=bB.1 hin'
     rw [i6] at cz
     have ch:=vl b c.joint (by omega)
     have j1 : ¬ c.low≤i:=by omega
     have j2 : ¬ (t.cells.length : Int)≤c.low:=by omega
     have j3 : ¬ c.high≤i:=by omega
     have j4 : ¬ (t.cells.length : Int)≤c.high:=by omega
     have k1 : c.low.toNat < t.cells.length:=by omega
     have k2 : c.high.toNat < t.cells.length:=by omega
     have k3 : 0≤c.low:=by omega
     have k4 : 0≤c.high:=by omega
     have k5 : c.low.toNat < L.length:=by omega
     have k6 : c.high.toNat < L.length:=by omega
     cases hh : aQ b c.joint with
     |false=>
      obtain ⟨e1,e2⟩:=bad (eU hx hlf (.inr (.inl hh)))
      rw [e1,e2]
      rw [hh] at ch
      with_reducible repeat' (first|refine Sp.h ?_|((first|refine Wd ?_|refine Ss.h ?_|refine Sc.h (cl) ?_|refine Sc.h (cz) ?_|refine Sc.h (ch) ?_|(refine Sb.h ?_ ?_ ?_<;>(try intro hgd)<;>try exact Xy))<;>simp -implicitDefEqProofs (maxSteps:=2000000) [hP,hN,g4,g5,g33,g34,g35,hb7,hb27,hlt,hw,hx,hx',bu,bz,hci,hc,hLl,hb1,hb2,j1,j2,j3,j4,i5]<;>try refine Ya ?_)|refine X2 ?_ ?_|(refine Xd ?_ ?_<;>intro hcd<;>try exact Xx))
     |true=>
     rw [hh] at ch
     cases ha : L[c.low.toNat]? with
     |none=>rw [List.getElem?_eq_getElem k5] at ha;cases ha
     |some xa=>
     have ha':=aP ha k5
     cases xa with
     |some d=>
      obtain ⟨e1,e2⟩:=bad (eU hx hlf (.inr (.inr (.inl ⟨d,ha⟩))))
      rw [e1,e2]
      obtain ⟨hdl,_⟩:=hB.bok.ok _ d ha
      have hd2 : d≠[]:=by intro h;rw [h] at hdl;simp at hdl;omega
      have hd1 : d.isEmpty=false:=by simp [hd2]
      with_reducible repeat' (first|refine Sp.h ?_|((first|refine Wd ?_|refine Ss.h ?_|refine Sc.h (cl) ?_|refine Sc.h (cz) ?_|refine Sc.h (ch) ?_|(refine Sb.h ?_ ?_ ?_<;>(try intro hgd)<;>try exact Xy))<;>simp -implicitDefEqProofs (maxSteps:=2000000) [hP,hN,g4,g5,g33,g34,g35,hb7,hb27,hlt,hw,hx,hx',bu,bz,hci,hc,hLl,hb1,hb2,j1,j2,j3,j4,i5,k1,k2,k3,k4,ha,ha',hd1,hd2]<;>try refine Ya ?_)|refine X2 ?_ ?_|(refine Xd ?_ ?_<;>intro hcd<;>try exact Xx))
     |none=>
     cases hz : L[c.high.toNat]? with
     |none=>rw [List.getElem?_eq_getElem k6] at hz;cases hz
     |some xz=>
     have hz':=aP hz k6
     cases xz with
     |some d=>
      obtain ⟨e1,e2⟩:=bad (eU hx hlf (.inr (.inr (.inr ⟨d,hz⟩))))
      rw [e1,e2]
      obtain ⟨hdl,_⟩:=hB.bok.ok _ d hz
      have hd2 : d≠[]:=by intro h;rw [h] at hdl;simp at hdl;omega
      have hd1 : d.isEmpty=false:=by simp [hd2]
      with_reducible repeat' (first|refine Sp.h ?_|((first|refine Wd ?_|refine Ss.h ?_|refine Sc.h (cl) ?_|refine Sc.h (cz) ?_|refine Sc.h (ch) ?_|(refine Sb.h ?_ ?_ ?_<;>(try intro hgd)<;>try exact Xy))<;>simp -implicitDefEqProofs (maxSteps:=2000000) [hP,hN,g4,g5,g33,g34,g35,hb7,hb27,hlt,hw,hx,hx',bu,bz,hci,hc,hLl,hb1,hb2,j1,j2,j3,j4,i5,k1,k2,k3,k4,ha,ha',hz,hz',hd1,hd2]<;>try refine Ya ?_)|refine X2 ?_ ?_|(refine Xd ?_ ?_<;>intro hcd<;>try exact Xx))
     |none=>
      have hnx:=ij hB hlt (by rw [hc];exact gD hx hlf hin' hh ha hz)
      with_reducible repeat' (first|refine Sp.h ?_|((first|refine Wd ?_|refine Ss.h ?_|refine Sc.h (cl) ?_|refine Sc.h (cz) ?_|refine Sc.h (ch) ?_|(refine Sb.h ?_ ?_ ?_<;>(try intro hgd)<;>try exact Xy))<;>simp -implicitDefEqProofs (maxSteps:=2000000) [hP,hN,g4,g5,g33,g34,g35,hb7,hb27,hlt,hw,hx,hx',bu,bz,hci,hc,hLl,hb1,hb2,j1,j2,j3,j4,i5,k1,k2,k3,k4,ha,ha',hz,hz']<;>try refine Ya ?_)|refine X2 ?_ ?_|(refine Xd ?_ ?_<;>intro hcd<;>try exact Xx))
      all_goals exact ⟨_,hnx,set_row⟩
  ·have hdn:=mh hB hlt
   have hmap:=m7 hdn
   have hval : av t=true:=by simp [av,hdn]
   rw [hval,← hmap]
   with_reducible repeat' (first|refine Sp.h ?_|((first|refine Wd ?_|refine Ss.h ?_|(refine Sb.h ?_ ?_ ?_<;>(try intro hgd)<;>try exact Xy))<;>simp -implicitDefEqProofs (maxSteps:=2000000) [hP,hN,g4,g5,g33,g34,g35,hb7,hb27,hlt,hLl]<;>try refine Ya ?_)|refine X2 ?_ ?_|(refine Xd ?_ ?_<;>intro hcd<;>try exact Xx))
end Go.Ab
namespace Go.Ab
open Go.Proofs
end Go.Ab
namespace Go.Ab
open Go.Proofs
end Go.Ab
namespace Go.Ab
theorem sE {a N B : Int} (hN : 0 < N) (h1 : -B≤a) (h2 : a≤B) : -B≤a / N∧a / N≤B:=by
 have hB : 0≤B:=by omega
 constructor
 ·have : (-B) * N≤a:=by
   have : (-B) * N≤(-B) * 1:=Int.mul_le_mul_of_nonpos_left (by omega) (by omega)
   omega
  exact (Int.le_ediv_iff_mul_le hN).2 this
 ·have : a / N < B+1:=(Int.ediv_lt_iff_lt_mul hN).2 (by
   have : (B+1) * 1≤(B+1) * N:=Int.mul_le_mul_of_nonneg_left (by omega) (by omega)
   omega)
  omega
end Go.Ab
namespace Go.Ab
end Go.Ab
namespace Go.Ab
theorem ly {α : Type} {p : α→Bool} {xs : List α} : aU p xs=true↔∀ x ∈ xs,p x=true:=by simp [aU]
theorem qK {α β : Type} {f : α→β→Bool} {xs : List α} {ys : List β} : dk f xs ys=true↔∀ (i : Nat) (h : i < xs.length) (h' : i < ys.length),f xs[i] ys[i]=true:=by
 unfold dk
 rw [List.all_eq_true]
 constructor
 ·intro h i hi hi'
  exact h (f xs[i] ys[i]) (by
   rw [List.mem_iff_getElem]
   exact ⟨i,by simp;omega,by simp⟩)
 ·intro h x hx
  obtain ⟨i,hi,rfl⟩:=List.mem_iff_getElem.1 hx
  simp only [List.length_zipWith] at hi
  simpa using h i (by omega) (by omega)
section
variable {p q : List Int} {d i : Int}
end
end Go.Ab
namespace Go.Ab
open Go.Proofs
def kA (a b : Int) : Int:=if a.tmod b < 0 then wr (wr (a.tdiv b) - 1) else wr (a.tdiv b)
theorem vK (a b : Int) (hb : b≠0) : am Try.prog 61 [.pv (Z a),.pv (Z b)] [] [] (.pv (Z (kA a b))):=by
 refine Dp Try.func61 ?_
 intro C hP hN
 simp only [Try.f61] at hN ⊢
 with_reducible repeat' (first|refine Sp.h ?_|((first|refine Ss.h ?_|(refine Sb.h ?_ ?_ ?_<;>(try intro hgd)<;>try exact Xy))<;>simp -implicitDefEqProofs (maxSteps:=2000000) [hP,hN,hb])|refine X2 ?_ ?_|(refine Xd ?_ ?_<;>intro hcd<;>try exact Xx))
 all_goals (first|(simp_all [kA];done)|((try simp_all [kA])<;>(try omega)<;>grind))
end Go.Ab
namespace Go.Ab
open Go.Proofs
theorem pO {a b k : Int} (hb : 0 < b) (h1 : k * b≤a) (h2 : a < (k+1) * b) : a / b=k:=by
 have:=(Int.le_ediv_iff_mul_le hb).2 h1
 have:=(Int.ediv_lt_iff_lt_mul hb).2 h2
 omega
theorem tk {a b : Int} (hb : 0 < b) (h1 : -4611686018427387904≤a) (h2 : a≤4611686018427387904) : kA a b=a / b:=by
 have hq:=Int.mul_tdiv_add_tmod a b
 have h3 : -b < a.tmod b:=Int.lt_tmod_of_pos a hb
 have h4 : a.tmod b < b:=Int.tmod_lt_of_pos a hb
 have hbd:=sE (a:=a) (N:=b) (B:=4611686018427387904) hb h1 h2
 rw [Int.mul_comm] at hq
 unfold kA
 split
 ·have e : a / b=a.tdiv b - 1:=pO hb (by rw [Int.sub_mul];omega) (by rw [show a.tdiv b - 1+1=a.tdiv b by omega];omega)
  rw [bP (n:=a.tdiv b) (by omega) (by omega),bP (by omega) (by omega),e]
 ·have e : a / b=a.tdiv b:=pO hb (by omega) (by rw [Int.add_mul];omega)
  rw [bP (n:=a.tdiv b) (by omega) (by omega),e]
end Go.Ab
namespace Go.Ab
open Go.Proofs
theorem mK {x : Int × Int} (h : aW x.1 x.2=true) : -2147483648≤x.1∧x.1≤x.2∧x.2≤2147483648:=by
 simp only [aW,Bool.and_eq_true,decide_eq_true_eq] at h;omega
theorem vu (x : Int × Int) : am Try.prog 38 [.pv (uP x)] [] [] (.pv (Z (dP x))):=by
 cases hv : aW x.1 x.2 with
 |false=>
  have hr : dP x=0:=by simp [dP,hv]
  rw [hr]
  refine Dp Try.func38 ?_
  intro C hP hN
  simp only [Try.f38] at hN ⊢
  with_reducible repeat' (first|refine Sp.h ?_|((first|refine Ss.h ?_|refine Sc.h (qI _ _) ?_|(refine Sb.h ?_ ?_ ?_<;>(try intro hgd)<;>try exact Xy))<;>simp -implicitDefEqProofs (maxSteps:=2000000) [hP,hN,hv])|refine X2 ?_ ?_|(refine Xd ?_ ?_<;>intro hcd<;>try exact Xx))
 |true=>
  have hb:=mK hv
  have hr : dP x=kA (wr (x.1+x.2)) 2:=by
   rw [dP,hv]
   simp only [if_true]
   rw [bP (by omega) (by omega),tk (by decide) (by omega) (by omega),Int.fdiv_eq_ediv_of_nonneg _ (by decide)]
  rw [hr]
  refine Dp Try.func38 ?_
  intro C hP hN
  simp only [Try.f38] at hN ⊢
  with_reducible repeat' (first|refine Sp.h ?_|((first|refine Ss.h ?_|refine Sc.h (qI _ _) ?_|refine Sc.h (vK _ _ (by decide)) ?_|(refine Sb.h ?_ ?_ ?_<;>(try intro hgd)<;>try exact Xy))<;>simp -implicitDefEqProofs (maxSteps:=2000000) [hP,hN,hv])|refine X2 ?_ ?_|(refine Xd ?_ ?_<;>intro hcd<;>try exact Xx))
theorem yW (xs : List (Int × Int)) (hl : xs.length≤16777216) : am Try.prog 17 [.pv (iv xs)] [] [] (.pv (zs (gM xs))):=by
 cases hv : aU vI xs with
 |false=>
  have hr : gM xs=[]:=by simp [gM,hv]
  rw [hr]
  refine Dp Try.func17 ?_
  intro C hP hN
  simp only [Try.f17] at hN ⊢
  with_reducible repeat' (first|refine Sp.h ?_|((first|refine Ss.h ?_|refine Sc.h (vk _ (kz hl)) ?_|(refine Sb.h ?_ ?_ ?_<;>(try intro hgd)<;>try exact Xy))<;>simp -implicitDefEqProofs (maxSteps:=2000000) [hP,hN,hv])|refine X2 ?_ ?_|(refine Xd ?_ ?_<;>intro hcd<;>try exact Xx))
 |true=>
  have hr : gM xs=xs.map dP:=by simp [gM,hv]
  rw [hr]
  refine Dp Try.func17 ?_
  intro C hP hN
  simp only [Try.f17] at hN ⊢
  with_reducible repeat' (first|refine Sp.h ?_|((first|refine Wh [3] ?_|refine Ss.h ?_|refine Sc.h (vk _ (kz hl)) ?_|(refine Sb.h ?_ ?_ ?_<;>(try intro hgd)<;>try exact Xy))<;>simp -implicitDefEqProofs (maxSteps:=2000000) [hP,hN,hv])|refine X2 ?_ ?_|(refine Xd ?_ ?_<;>intro hcd<;>try exact Xx))
  refine WP.loopN [] xs.length (fun i st=>st.t 0=.pv (iv xs)∧st.t 4=.pv (Z i)∧st.t 3=.arr 3 i∧st.h 3=some (.row 2 1 ((xs.map fun x=>Z (dP x)).take i) 0)) (by simp) ?_
  rintro i st hi ⟨g0,g4,g3,hb⟩
  by_cases hlt : i < xs.length
  ·have hw:=ak hlt (kz hl)
   have hz : min i xs.length=i:=by omega
   have hs:=ql (f:=fun x=>Z (dP x)) hlt
   with_reducible repeat' (first|refine Sp.h ?_|((first|refine Ss.h ?_|refine Sc.h (vu _) ?_|(refine Sb.h ?_ ?_ ?_<;>(try intro hgd)<;>try exact Xy))<;>simp -implicitDefEqProofs (maxSteps:=2000000) [hP,hN,g0,g4,g3,hb,hlt,hw,hz,hs,show (i+1) * 8≤140737488355328 by omega,show i+1≤9223372036854775807 by omega])|refine X2 ?_ ?_|(refine Xd ?_ ?_<;>intro hcd<;>try exact Xx))
  ·have hz : min i xs.length=i:=by omega
   with_reducible repeat' (first|refine Sp.h ?_|((first|refine Ss.h ?_|(refine Sb.h ?_ ?_ ?_<;>(try intro hgd)<;>try exact Xy))<;>simp -implicitDefEqProofs (maxSteps:=2000000) [hP,hN,g0,g4,g3,hb,hlt,hz])|refine X2 ?_ ?_|(refine Xd ?_ ?_<;>intro hcd<;>try exact Xx))
   exact tj (by simp) hlt
def eK (xs ys : List (Int × Int)) : Bool:=aU vI xs && aU vI ys && decide (xs.length=ys.length) && dk cT xs ys
theorem yZ (xs ys : List (Int × Int)) (hl : xs.length≤9223372036854775807) (hm : ys.length≤9223372036854775807) : am Try.prog 49 [.pv (iv xs),.pv (iv ys)] [] [] (.pv (B (eK xs ys))):=by
 cases hv : aU vI xs with
 |false=>
  have hr : eK xs ys=false:=by simp [eK,hv]
  rw [hr]
  refine Dp Try.func49 ?_
  intro C hP hN
  simp only [Try.f49] at hN ⊢
  with_reducible repeat' (first|refine Sp.h ?_|((first|refine Wd ?_|refine Ss.h ?_|refine Sc.h (vk _ hl) ?_|refine Sc.h (vk _ hm) ?_|(refine Sb.h ?_ ?_ ?_<;>(try intro hgd)<;>try exact Xy))<;>simp -implicitDefEqProofs (maxSteps:=2000000) [hP,hN,hv]<;>try refine Ya ?_)|refine X2 ?_ ?_|(refine Xd ?_ ?_<;>intro hcd<;>try exact Xx))
 |true=>
  cases hu : aU vI ys with
  |false=>
   have hr : eK xs ys=false:=by simp [eK,hv,hu]
   rw [hr]
   refine Dp Try.func49 ?_
   intro C hP hN
   simp only [Try.f49] at hN ⊢
   with_reducible repeat' (first|refine Sp.h ?_|((first|refine Wd ?_|refine Ss.h ?_|refine Sc.h (vk _ hl) ?_|refine Sc.h (vk _ hm) ?_|(refine Sb.h ?_ ?_ ?_<;>(try intro hgd)<;>try exact Xy))<;>simp -implicitDefEqProofs (maxSteps:=2000000) [hP,hN,hv,hu]<;>try refine Ya ?_)|refine X2 ?_ ?_|(refine Xd ?_ ?_<;>intro hcd<;>try exact Xx))
  |true=>
   by_cases he : xs.length=ys.length
   ·have he' : ((xs.length : Int) !=ys.length)=false:=by simp [he]
    have hr : eK xs ys=dk cT xs ys:=by simp [eK,hv,hu,he]
    rw [hr]
    refine Dp Try.func49 ?_
    intro C hP hN
    simp only [Try.f49] at hN ⊢
    with_reducible repeat' (first|refine Sp.h ?_|((first|refine Wd ?_|refine Ss.h ?_|refine Sc.h (vk _ hl) ?_|refine Sc.h (vk _ hm) ?_|(refine Sb.h ?_ ?_ ?_<;>(try intro hgd)<;>try exact Xy))<;>simp -implicitDefEqProofs (maxSteps:=2000000) [hP,hN,hv,hu,he']<;>try refine Ya ?_)|refine X2 ?_ ?_|(refine Xd ?_ ?_<;>intro hcd<;>try exact Xx))
    refine WP.loopN [6] xs.length (fun i st=>st.t 0=.pv (iv xs)∧st.t 1=.pv (iv ys)∧st.t 5=.pv (Z i)∧st.h 6=none∧cN cT xs ys i=true) (by simp [cN]) ?_
    rintro i st hi ⟨g0,g1,g5,hb,hq⟩
    by_cases hlt : i < xs.length
    ·have hw:=ak hlt hl
     have hlt' : i < ys.length:=by omega
     have hF : cT xs[i] ys[i]=false→dk cT xs ys=false:=fa hlt hlt'
     have hS : cT xs[i] ys[i]=true→cN cT xs ys (i+1)=true:=fL hlt hlt' hq
     have cm:=vN xs[i].1 xs[i].2 ys[i].1 ys[i].2
     cases ht : cT xs[i] ys[i] with
     |true=>
      have ht' : (aW xs[i].1 xs[i].2 && aW ys[i].1 ys[i].2 && decide (max xs[i].1 ys[i].1≤min xs[i].2 ys[i].2))=true:=ht
      rw [if_pos ht'] at cm
      with_reducible repeat' (first|refine Sp.h ?_|((first|refine Wd ?_|refine Ss.h ?_|refine Sc.h (cm) ?_|(refine Sb.h ?_ ?_ ?_<;>(try intro hgd)<;>try exact Xy))<;>simp -implicitDefEqProofs (maxSteps:=2000000) [hP,hN,g0,g1,g5,hb,hlt,hlt',hw]<;>try refine Ya ?_)|refine X2 ?_ ?_|(refine Xd ?_ ?_<;>intro hcd<;>try exact Xx))
      all_goals simpa using hS ht
     |false=>
      have ht' : (aW xs[i].1 xs[i].2 && aW ys[i].1 ys[i].2 && decide (max xs[i].1 ys[i].1≤min xs[i].2 ys[i].2))=false:=ht
      rw [if_neg (by simp [ht'])] at cm
      with_reducible repeat' (first|refine Sp.h ?_|((first|refine Wd ?_|refine Ss.h ?_|refine Sc.h (cm) ?_|(refine Sb.h ?_ ?_ ?_<;>(try intro hgd)<;>try exact Xy))<;>simp -implicitDefEqProofs (maxSteps:=2000000) [hP,hN,g0,g1,g5,hb,hlt,hlt',hw]<;>try refine Ya ?_)|refine X2 ?_ ?_|(refine Xd ?_ ?_<;>intro hcd<;>try exact Xx))
      all_goals simp [hF ht]
    ·have hlt' : ¬ i < ys.length:=by omega
     with_reducible repeat' (first|refine Sp.h ?_|((first|refine Wd ?_|refine Ss.h ?_|(refine Sb.h ?_ ?_ ?_<;>(try intro hgd)<;>try exact Xy))<;>simp -implicitDefEqProofs (maxSteps:=2000000) [hP,hN,g0,g1,g5,hb,hlt]<;>try refine Ya ?_)|refine X2 ?_ ?_|(refine Xd ?_ ?_<;>intro hcd<;>try exact Xx))
     all_goals simp [fM hlt hq]
   ·have he' : ((xs.length : Int) !=ys.length)=true:=by simp;omega
    have hr : eK xs ys=false:=by simp [eK,he]
    rw [hr]
    refine Dp Try.func49 ?_
    intro C hP hN
    simp only [Try.f49] at hN ⊢
    with_reducible repeat' (first|refine Sp.h ?_|((first|refine Wd ?_|refine Ss.h ?_|refine Sc.h (vk _ hl) ?_|refine Sc.h (vk _ hm) ?_|(refine Sb.h ?_ ?_ ?_<;>(try intro hgd)<;>try exact Xy))<;>simp -implicitDefEqProofs (maxSteps:=2000000) [hP,hN,hv,hu,he']<;>try refine Ya ?_)|refine X2 ?_ ?_|(refine Xd ?_ ?_<;>intro hcd<;>try exact Xx))
end Go.Ab
namespace Go.Ab
open Go.Proofs
theorem tm (xs ys : List (Int × Int)) : eK xs ys=bG xs ys:=by
 unfold eK bG
 by_cases he : xs.length=ys.length
 ·cases hz : dk cT xs ys with
  |false=>simp
  |true=>
   rw [qK] at hz
   have v1 : aU vI xs=true:=by
    rw [ly];intro x hx
    obtain ⟨i,hi,rfl⟩:=List.mem_iff_getElem.1 hx
    have:=hz i hi (by omega)
    simp only [cT,Bool.and_eq_true] at this;exact this.1.1
   have v2 : aU vI ys=true:=by
    rw [ly];intro x hx
    obtain ⟨i,hi,rfl⟩:=List.mem_iff_getElem.1 hx
    have:=hz i (by omega) hi
    simp only [cT,Bool.and_eq_true] at this;exact this.1.2
   simp [v1,v2,he]
 ·simp [he]
theorem mn (xs : List (Int × Int)) (ys : List Int) : mX xs ys=aR xs ys:=by
 unfold mX aR
 by_cases he : xs.length=ys.length
 ·cases hz : dk fo xs ys with
  |false=>simp
  |true=>
   rw [qK] at hz
   have v1 : aU vI xs=true:=by
    rw [ly];intro x hx
    obtain ⟨i,hi,rfl⟩:=List.mem_iff_getElem.1 hx
    have:=hz i hi (by omega)
    simp only [fo,Bool.and_eq_true] at this;exact this.1.1
   simp [v1,he]
 ·simp [he]
theorem zJ (xs : List (Int × Int)) (j : Int) (hl : xs.length≤16777216) (hv : aU vI xs=false) : am Try.prog 54 [.pv (iv xs),.pv (Z j)] [] [] (.pv (.tup [iv [],iv [],B false])):=by
 refine Dp Try.func54 ?_
 intro C hP hN
 simp only [Try.f54] at hN ⊢
 with_reducible repeat' (first|refine Sp.h ?_|((first|refine Wd ?_|refine Ss.h ?_|refine Sc.h (vk _ (kz hl)) ?_|(refine Sb.h ?_ ?_ ?_<;>(try intro hgd)<;>try exact Xy))<;>simp -implicitDefEqProofs (maxSteps:=2000000) [hP,hN,hv]<;>try refine Ya ?_)|refine X2 ?_ ?_|(refine Xd ?_ ?_<;>intro hcd<;>try exact Xx))
theorem zK (xs : List (Int × Int)) (j : Int) (hl : xs.length≤16777216) (hv : aU vI xs=true) (hj : j < 0) : am Try.prog 54 [.pv (iv xs),.pv (Z j)] [] [] (.pv (.tup [iv [],iv [],B false])):=by
 refine Dp Try.func54 ?_
 intro C hP hN
 simp only [Try.f54] at hN ⊢
 with_reducible repeat' (first|refine Sp.h ?_|((first|refine Wd ?_|refine Ss.h ?_|refine Sc.h (vk _ (kz hl)) ?_|(refine Sb.h ?_ ?_ ?_<;>(try intro hgd)<;>try exact Xy))<;>simp -implicitDefEqProofs (maxSteps:=2000000) [hP,hN,hv,hj]<;>try refine Ya ?_)|refine X2 ?_ ?_|(refine Xd ?_ ?_<;>intro hcd<;>try exact Xx))
theorem zL (xs : List (Int × Int)) (n : Nat) (hl : xs.length≤16777216) (hv : aU vI xs=true) (hlt : xs.length≤n) : am Try.prog 54 [.pv (iv xs),.pv (Z n)] [] [] (.pv (.tup [iv [],iv [],B false])):=by
 have hnl : (xs.length : Int)≤(n : Int):=by omega
 refine Dp Try.func54 ?_
 intro C hP hN
 simp only [Try.f54] at hN ⊢
 with_reducible repeat' (first|refine Sp.h ?_|((first|refine Wd ?_|refine Ss.h ?_|refine Sc.h (vk _ (kz hl)) ?_|(refine Sb.h ?_ ?_ ?_<;>(try intro hgd)<;>try exact Xy))<;>simp -implicitDefEqProofs (maxSteps:=2000000) [hP,hN,hv,hnl,hlt]<;>try refine Ya ?_)|refine X2 ?_ ?_|(refine Xd ?_ ?_<;>intro hcd<;>try exact Xx))
theorem zM (xs : List (Int × Int)) (n : Nat) (hl : xs.length≤16777216) (hv : aU vI xs=true) (hlt : n < xs.length) (hw : IntKind.i64.wrap (xs[n].2 - xs[n].1)=xs[n].2 - xs[n].1) (hs : xs[n].2 - xs[n].1 < 2) : am Try.prog 54 [.pv (iv xs),.pv (Z n)] [] [] (.pv (.tup [iv [],iv [],B false])):=by
 have hnl : ¬ (xs.length : Int)≤(n : Int):=by omega
 refine Dp Try.func54 ?_
 intro C hP hN
 simp only [Try.f54] at hN ⊢
 with_reducible repeat' (first|refine Sp.h ?_|((first|refine Wd ?_|refine Ss.h ?_|refine Sc.h (vk _ (kz hl)) ?_|(refine Sb.h ?_ ?_ ?_<;>(try intro hgd)<;>try exact Xy))<;>simp -implicitDefEqProofs (maxSteps:=2000000) [hP,hN,hv,hlt,hw,hs,hnl,Nat.not_le.2 hlt]<;>try refine Ya ?_)|refine X2 ?_ ?_|(refine Xd ?_ ?_<;>intro hcd<;>try exact Xx))
theorem zO (xs : List (Int × Int)) (n : Nat) (hl : xs.length≤16777216) (hv : aU vI xs=true) (hlt : n < xs.length) (hw : IntKind.i64.wrap (xs[n].2 - xs[n].1)=xs[n].2 - xs[n].1) (hs : ¬ xs[n].2 - xs[n].1 < 2) : am Try.prog 54 [.pv (iv xs),.pv (Z n)] [] [] (.pv (.tup [iv (xs.set n (xs[n].1,dP xs[n])),iv (xs.set n (dP xs[n],xs[n].2)),B true])):=by
 have hnl : ¬ (xs.length : Int)≤(n : Int):=by omega
 generalize hm : dP xs[n]=m
 have cm:=vu xs[n]
 rw [hm] at cm
 refine Dp Try.func54 ?_
 intro C hP hN
 simp only [Try.f54] at hN ⊢
 with_reducible repeat' (first|refine Sp.h ?_|((first|refine Wd ?_|refine Ss.h ?_|refine Sc.h (vk _ (kz hl)) ?_|refine Sc.h (cm) ?_|(refine Sb.h ?_ ?_ ?_<;>(try intro hgd)<;>try exact Xy))<;>simp -implicitDefEqProofs (maxSteps:=2000000) [hP,hN,hv,hlt,hw,hs,hnl,Nat.not_le.2 hlt,show xs.length * 16≤140737488355328 by omega,show xs.length≤9223372036854775807 by omega]<;>try refine Ya ?_)|refine X2 ?_ ?_|(refine Xd ?_ ?_<;>intro hcd<;>try exact Xx))
 all_goals simp [List.map_set]
theorem vj (xs : List (Int × Int)) (j : Int) (hl : xs.length≤16777216) : am Try.prog 54 [.pv (iv xs),.pv (Z j)] [] [] (.pv (.tup [iv (a8 xs j),iv (ba xs j),B (aQ xs j)])):=by
 cases hv : aU vI xs with
 |false=>
  have hr : aQ xs j=false:=by simp [aQ,hv]
  have hr1 : a8 xs j=[]:=by simp [a8,hr]
  have hr2 : ba xs j=[]:=by simp [ba,hr]
  rw [hr,hr1,hr2]
  exact zJ xs j hl hv
 |true=>
  by_cases hj : 0≤j
  ·obtain ⟨n,rfl⟩:=Int.eq_ofNat_of_zero_le hj
   by_cases hlt : n < xs.length
   ·have hx:=List.getElem?_eq_getElem hlt
    have hvx : aW xs[n].1 xs[n].2=true:=ly.1 hv _ (List.getElem_mem hlt)
    have hb:=mK hvx
    have hwd : gf xs[n]=xs[n].2 - xs[n].1:=by
     rw [gf,hvx];simp only [if_true];exact bP (by omega) (by omega)
    have hw : IntKind.i64.wrap (xs[n].2 - xs[n].1)=xs[n].2 - xs[n].1:=bP
    by_cases hs : xs[n].2 - xs[n].1 < 2
    ·have hr : aQ xs (n : Int)=false:=by simp [aQ,hv,hx,hwd];omega
     have hr1 : a8 xs (n : Int)=[]:=by simp [a8,hr]
     have hr2 : ba xs (n : Int)=[]:=by simp [ba,hr]
     rw [hr,hr1,hr2]
     exact zM xs n hl hv hlt hw hs
    ·have hr : aQ xs (n : Int)=true:=by simp [aQ,hv,hx,hwd];omega
     have hr1 : a8 xs (n : Int)=xs.set n (xs[n].1,dP xs[n]):=by simp [a8,hr,hx]
     have hr2 : ba xs (n : Int)=xs.set n (dP xs[n],xs[n].2):=by simp [ba,hr,hx]
     rw [hr,hr1,hr2]
     exact zO xs n hl hv hlt hw hs
   ·have hx : xs[n]?=none:=List.getElem?_eq_none (by omega)
    have hr : aQ xs (n : Int)=false:=by simp [aQ,hx]
    have hr1 : a8 xs (n : Int)=[]:=by simp [a8,hr]
    have hr2 : ba xs (n : Int)=[]:=by simp [ba,hr]
    rw [hr,hr1,hr2]
    exact zL xs n hl hv (Nat.not_lt.1 hlt)
  ·have hr : aQ xs j=false:=by simp [aQ,hj]
   have hr1 : a8 xs j=[]:=by simp [a8,hr]
   have hr2 : ba xs j=[]:=by simp [ba,hr]
   rw [hr,hr1,hr2]
   exact zK xs j hl hv (by omega)
end Go.Ab
namespace Go.Ab
open Go.Proofs
def wv (x : AV) (fb : Option bj) : Option bj:=match x with
 |.pv (.val (.slice none 0 0))=>some (.pv (Z 0),[])
 |_=>fb
@[simp] theorem zf (fb : Option bj) : wv (.pv (.val (.slice none 0 0))) fb=some (.pv (Z 0),[]):=rfl
theorem ww {dst : Option Nat} {ty : TypeId} {pos : String} {aft : Array Edge} {g : Option (Nat × Bool)} (x : Operand) :
 aM Try.prog ⟨dst,.call ⟨.builtin .len,#[x],#[23]⟩,ty,pos,aft,g⟩ (fun _=>.pv (.val (.slice none 0 0)))=some (.pv (Z 0),[]):=by kernel_rfl
@[simp] theorem zv {dst : Option Nat} {ty : TypeId} {pos : String} {aft : Array Edge} {g : Option (Nat × Bool)} {ρ : Operand→AV} (x : Operand) :
 aM Try.prog ⟨dst,.call ⟨.builtin .len,#[x],#[23]⟩,ty,pos,aft,g⟩ ρ=wv (ρ x) (oW Try.prog ⟨dst,.call ⟨.builtin .len,#[x],#[23]⟩,ty,pos,aft,g⟩ ρ):=by
 unfold wv
 split
 ·rename_i hs
  rw [← ww (dst:=dst) (ty:=ty) (pos:=pos) (aft:=aft) (g:=g) x]
  refine nL (by intro _ _ h;cases h) ?_
  intro y hy
  simp [Op.operands,Call.operands] at hy
  subst hy;exact hs
 ·rfl
set_option maxRecDepth 100000 in
theorem vA (t : Tr) (hl : t.cells.length≤9223372036854775807) : am Try.prog 25 [.pv (bR t)] [] [] (.pv (.tup [.sl ((aw t).map iv),B (av t)])):=by
 cases hs : cE t with
 |false=>
  have hno:=j5 (t:=t) (by simp [bd,hs])
  rw [hno.1,hno.2]
  by_cases q1 : t.root.length < 1
  ·have q1' : (t.root.length : Int) < 1:=by omega
   refine Dp Try.func25 ?_
   intro C hP hN
   simp only [Try.f25] at hN ⊢
   exact Gy
  have q1' : ¬ (t.root.length : Int) < 1:=by omega
  by_cases q2 : 10 < t.root.length
  ·have q2' : (10 : Int) < t.root.length:=by omega
   refine Dp Try.func25 ?_
   intro C hP hN
   simp only [Try.f25] at hN ⊢
   exact Gy
  have q2' : ¬ (10 : Int) < t.root.length:=by omega
  by_cases h1 : t.cells.length < 1
  ·have h1' : (t.cells.length : Int) < 1:=by omega
   refine Dp Try.func25 ?_
   intro C hP hN
   simp only [Try.f25] at hN ⊢
   exact Gy
  have h1' : ¬ (t.cells.length : Int) < 1:=by omega
  by_cases h2 : 2048 < t.cells.length
  ·have h2' : (2048 : Int) < t.cells.length:=by omega
   refine Dp Try.func25 ?_
   intro C hP hN
   simp only [Try.f25] at hN ⊢
   exact Gy
  have h2' : ¬ (2048 : Int) < t.cells.length:=by omega
  have h3 : aU vI t.root=false:=by
   cases h : aU vI t.root with
   |false=>rfl
   |true=>simp [cE,bX,h] at hs;omega
  refine Dp Try.func25 ?_
  intro C hP hN
  simp only [Try.f25] at hN ⊢
  refine Gz ?_
  refine WP.loopN [] t.root.length (fun i st=>st.t 1=.ptr 1 0∧st.t 5=.pv (Z i)∧st.h 1=some (.box [.pv (iv t.root),.pv (.sl (t.cells.map bf))] true false)∧aU vI (t.root.take i)=true) (by simp [aU]) ?_
  rintro i st hi ⟨g1,g5,hb,hq⟩
  by_cases hlt : i < t.root.length
  ·have hw:=ak hlt (by omega)
   have hS : vI t.root[i]=true→aU vI (t.root.take (i+1))=true:=jr hlt hq
   with_reducible repeat' (first|refine Sp.h ?_|((first|refine Wd ?_|refine Ss.h ?_|refine Sc.h (qI _ _) ?_|(refine Sb.h ?_ ?_ ?_<;>(try intro hgd)<;>try exact Xy))<;>simp -implicitDefEqProofs (maxSteps:=2000000) [hP,hN,g1,g5,hb,hlt,hw]<;>try refine Ya ?_)|refine X2 ?_ ?_|(refine Xd ?_ ?_<;>intro hcd<;>try exact Xx))
   all_goals (exact hS (by simpa using hcd))
  ·have:=js hlt hq
   rw [h3] at this;cases this
 |true=>
  obtain ⟨z1,z2,z3,z4,z5⟩:=aS.1 hs
  have q1 : ¬ t.root.length < 1:=by omega
  have q2 : ¬ 10 < t.root.length:=by omega
  have q1' : ¬ (t.root.length : Int) < 1:=by omega
  have q2' : ¬ (10 : Int) < t.root.length:=by omega
  have h1 : ¬ t.cells.length < 1:=by omega
  have h2 : ¬ 2048 < t.cells.length:=by omega
  have h1' : ¬ (t.cells.length : Int) < 1:=by omega
  have h2' : ¬ (2048 : Int) < t.cells.length:=by omega
  have hin:=m6 z1
  refine Dp Try.func25 ?_
  intro C hP hN
  simp only [Try.f25] at hN ⊢
  refine Gz ?_
  refine WP.loopN [] t.root.length (fun i st=>st.t 1=.ptr 1 0∧st.t 4=.pv (Z t.cells.length)∧st.t 5=.pv (Z i)∧st.h 1=some (.box [.pv (iv t.root),.pv (.sl (t.cells.map bf))] true false)∧st.h 48=none∧st.h 8=none) (by simp) ?_
  rintro i st hi ⟨g1,g4,g5,hb,hb48,hb8⟩
  by_cases hlt : i < t.root.length
  ·have hw:=ak hlt (by omega)
   have hv : aW t.root[i].1 t.root[i].2=true:=bC.1 z5 _ (List.getElem_mem hlt)
   have cv:=qI t.root[i].1 t.root[i].2
   rw [hv] at cv
   exact Gy
  with_reducible repeat' (first|refine Sp.h ?_|((first|refine Wd ?_|refine Ss.h ?_|(refine Sb.h ?_ ?_ ?_<;>(try intro hgd)<;>try exact Xy))<;>simp -implicitDefEqProofs (maxSteps:=2000000) [hP,hN,g1,g4,g5,hb,hb48,hb8,hlt,hin,show (24 : Int) * t.cells.length≤281474976710656 by omega,show (t.cells.length : Int)≤9223372036854775807 by omega,show 0 < t.cells.length by omega]<;>try refine Ya ?_)|refine X2 ?_ ?_|(refine Xd ?_ ?_<;>intro hcd<;>try exact Xx))
  refine WP.loopN [8] t.cells.length (fun i st=>∃ L,BInv t i L∧st.t 1=.ptr 1 0∧st.t 4=.pv (Z t.cells.length)∧st.t 6=.arr 48 t.cells.length∧st.t 7=.pv (Z i)∧st.h 1=some (.box [.pv (iv t.root),.pv (.sl (t.cells.map bf))] true false)∧st.h 8=none∧st.h 48=some (.row 23 1 (L.map iN) 0)) (by exact ⟨cK t,mf hs,by simp [g1,g4,g5,hb,hb48,hb8,hin]⟩) ?_
  rintro i st hi ⟨L,hB,g1,g4,g6,g7,hb1',hb8,hb48⟩
  have hLl:=hB.bok.len
  by_cases hlt : i < t.cells.length
  ·have hw:=ak hlt hl
   have hlL : i < L.length:=by omega
   generalize hc : t.cells[i]=c at *
   have hci : t.cells[i]?=some c:=by rw [List.getElem?_eq_getElem hlt,hc]
   have bad : cB t.cells.length i c L=none→av t=false∧aw t=[]:=fun h=>j5 (mg hB hlt (by rw [hc];exact h))
   have cl:=yT c
   have cf:=zg c.v
   have cz:=ur c.v
   cases hx : L[i]? with
   |none=>rw [List.getElem?_eq_getElem hlL] at hx;cases hx
   |some x=>
   cases x with
   |none=>
    have hx':=aP hx hlL
    obtain ⟨e1,e2⟩:=bad (by simp [cB,hx])
    rw [e1,e2]
    with_reducible repeat' (first|refine Sp.h ?_|((first|refine Wd ?_|refine Ss.h ?_|(refine Sb.h ?_ ?_ ?_<;>(try intro hgd)<;>try exact Xy))<;>simp -implicitDefEqProofs (maxSteps:=2000000) [hP,hN,g1,g4,g6,g7,hb1',hb8,hb48,hlt,hw,hx,hx',bu,bz,hci,hc,hLl]<;>try refine Ya ?_)|refine X2 ?_ ?_|(refine Xd ?_ ?_<;>intro hcd<;>try exact Xx))
   |some b=>
   have hx':=aP hx hlL
   obtain ⟨hbl,hbv⟩:=hB.bok.ok i b hx
   have hb2 : b≠[]:=by intro h;rw [h] at hbl;simp at hbl;omega
   have hb1 : ((b.length : Int)==0)=false:=by simp [hb2]
   cases hlf : aT c with
   |true=>
    rw [hlf] at cl
    cases hf : bE c.v with
    |true=>
     rw [hf] at cf
     have hnx:=ij (L':=L) hB hlt (by rw [hc,dv (t:=t) hx hlf,hf];rfl)
     with_reducible repeat' (first|refine Sp.h ?_|((first|refine Wd ?_|refine Ss.h ?_|refine Sc.h (cl) ?_|refine Sc.h (cf) ?_|(refine Sb.h ?_ ?_ ?_<;>(try intro hgd)<;>try exact Xy))<;>simp -implicitDefEqProofs (maxSteps:=2000000) [hP,hN,g1,g4,g6,g7,hb1',hb8,hb48,hlt,hw,hx,hx',bu,bz,hci,hc,hLl,hb1,hb2]<;>try refine Ya ?_)|refine X2 ?_ ?_|(refine Xd ?_ ?_<;>intro hcd<;>try exact Xx))
     all_goals exact ⟨L,hnx,rfl⟩
    |false=>
     rw [hf] at cf
     obtain ⟨e1,e2⟩:=bad (by rw [dv (t:=t) hx hlf,hf];rfl)
     rw [e1,e2]
     with_reducible repeat' (first|refine Sp.h ?_|((first|refine Wd ?_|refine Ss.h ?_|refine Sc.h (cl) ?_|refine Sc.h (cf) ?_|(refine Sb.h ?_ ?_ ?_<;>(try intro hgd)<;>try exact Xy))<;>simp -implicitDefEqProofs (maxSteps:=2000000) [hP,hN,g1,g4,g6,g7,hb1',hb8,hb48,hlt,hw,hx,hx',bu,bz,hci,hc,hLl,hb1,hb2]<;>try refine Ya ?_)|refine X2 ?_ ?_|(refine Xd ?_ ?_<;>intro hcd<;>try exact Xx))
   |false=>
    rw [hlf] at cl
    cases hin' : dB t.cells.length i c with
    |false=>
     obtain ⟨e1,e2⟩:=bad (eU hx hlf (.inl hin'))
     rw [e1,e2]
     rcases mO hin' with h|h|h|h|h|h
     all_goals try rw [h] at cz
     all_goals
      with_reducible repeat' (first|refine Sp.h ?_|((first|refine Wd ?_|refine Ss.h ?_|refine Sc.h (cl) ?_|refine Sc.h (cz) ?_|(refine Sb.h ?_ ?_ ?_<;>(try intro hgd)<;>try exact Xy))<;>simp -implicitDefEqProofs (maxSteps:=2000000) [hP,hN,g1,g4,g6,g7,hb1',hb8,hb48,hlt,hw,hx,hx',bu,bz,hci,hc,hLl,hb1,hb2,h]<;>try refine Ya ?_)|refine X2 ?_ ?_|(refine Xd ?_ ?_<;>intro hcd<;>try exact Xx))
    |true=>
     obtain ⟨i1,i2,i3,i4,i5,i6⟩:=bB.1 hin'
     rw [i6] at cz
     have ch:=vj b c.joint (by omega)
     have j1 : ¬ c.low≤i:=by omega
     have j2 : ¬ (t.cells.length : Int)≤c.low:=by omega
     have j3 : ¬ c.high≤i:=by omega
     have j4 : ¬ (t.cells.length : Int)≤c.high:=by omega
     have k1 : c.low.toNat < t.cells.length:=by omega
     have k2 : c.high.toNat < t.cells.length:=by omega
     have k3 : 0≤c.low:=by omega
     have k4 : 0≤c.high:=by omega
     have k5 : c.low.toNat < L.length:=by omega
     have k6 : c.high.toNat < L.length:=by omega
     cases hh : aQ b c.joint with
     |false=>
      obtain ⟨e1,e2⟩:=bad (eU hx hlf (.inr (.inl hh)))
      rw [e1,e2]
      rw [hh] at ch
      cases ha : L[c.low.toNat]? with
      |none=>rw [List.getElem?_eq_getElem k5] at ha;cases ha
      |some xa=>
      have ha':=aP ha k5
      cases hz : L[c.high.toNat]? with
      |none=>rw [List.getElem?_eq_getElem k6] at hz;cases hz
      |some xz=>
      have hz':=aP hz k6
      rcases xa with _|d
      ·rcases xz with _|d'
       ·skip
        with_reducible repeat' (first|refine Sp.h ?_|((first|refine Wd ?_|refine Ss.h ?_|refine Sc.h (cl) ?_|refine Sc.h (cz) ?_|refine Sc.h (ch) ?_|(refine Sb.h ?_ ?_ ?_<;>(try intro hgd)<;>try exact Xy))<;>simp -implicitDefEqProofs (maxSteps:=2000000) [hP,hN,g1,g4,g6,g7,hb1',hb8,hb48,hlt,hw,hx,hx',bu,bz,hci,hc,hLl,hb1,hb2,j1,j2,j3,j4,i5,k1,k2,k3,k4,ha,ha',hz,hz']<;>try refine Ya ?_)|refine X2 ?_ ?_|(refine Xd ?_ ?_<;>intro hcd<;>try exact Xx))
       ·obtain ⟨hdl,_⟩:=hB.bok.ok _ d' hz
        have hd1 : (0 : Int) < d'.length:=by omega
        have hd3 : 0 < d'.length:=by omega
        with_reducible repeat' (first|refine Sp.h ?_|((first|refine Wd ?_|refine Ss.h ?_|refine Sc.h (cl) ?_|refine Sc.h (cz) ?_|refine Sc.h (ch) ?_|(refine Sb.h ?_ ?_ ?_<;>(try intro hgd)<;>try exact Xy))<;>simp -implicitDefEqProofs (maxSteps:=2000000) [hP,hN,g1,g4,g6,g7,hb1',hb8,hb48,hlt,hw,hx,hx',bu,bz,hci,hc,hLl,hb1,hb2,j1,j2,j3,j4,i5,k1,k2,k3,k4,ha,ha',hz,hz',hd1,hd3]<;>try refine Ya ?_)|refine X2 ?_ ?_|(refine Xd ?_ ?_<;>intro hcd<;>try exact Xx))
      ·obtain ⟨hdl,_⟩:=hB.bok.ok _ d ha
       have hd1 : (0 : Int) < d.length:=by omega
       have hd3 : 0 < d.length:=by omega
       with_reducible repeat' (first|refine Sp.h ?_|((first|refine Wd ?_|refine Ss.h ?_|refine Sc.h (cl) ?_|refine Sc.h (cz) ?_|refine Sc.h (ch) ?_|(refine Sb.h ?_ ?_ ?_<;>(try intro hgd)<;>try exact Xy))<;>simp -implicitDefEqProofs (maxSteps:=2000000) [hP,hN,g1,g4,g6,g7,hb1',hb8,hb48,hlt,hw,hx,hx',bu,bz,hci,hc,hLl,hb1,hb2,j1,j2,j3,j4,i5,k1,k2,k3,k4,ha,ha',hz,hz',hd1,hd3]<;>try refine Ya ?_)|refine X2 ?_ ?_|(refine Xd ?_ ?_<;>intro hcd<;>try exact Xx))
     |true=>
     rw [hh] at ch
     obtain ⟨o1,_,o3,o4,_⟩:=fI.1 hh
     have o5:=(List.getElem?_eq_some_iff.1 o4).1
     have o6 : ¬ c.joint < 0:=by omega
     have o7 : ¬ (t.root.length : Int)≤c.joint:=by omega
     cases ha : L[c.low.toNat]? with
     |none=>rw [List.getElem?_eq_getElem k5] at ha;cases ha
     |some xa=>
     have ha':=aP ha k5
     cases xa with
     |some d=>
      obtain ⟨e1,e2⟩:=bad (eU hx hlf (.inr (.inr (.inl ⟨d,ha⟩))))
      rw [e1,e2]
      obtain ⟨hdl,_⟩:=hB.bok.ok _ d ha
      have hd2 : d≠[]:=by intro h;rw [h] at hdl;simp at hdl;omega
      have hd1 : (0 : Int) < d.length:=by omega
      have hd3 : 0 < d.length:=by omega
      with_reducible repeat' (first|refine Sp.h ?_|((first|refine Wd ?_|refine Ss.h ?_|refine Sc.h (cl) ?_|refine Sc.h (cz) ?_|refine Sc.h (ch) ?_|(refine Sb.h ?_ ?_ ?_<;>(try intro hgd)<;>try exact Xy))<;>simp -implicitDefEqProofs (maxSteps:=2000000) [hP,hN,g1,g4,g6,g7,hb1',hb8,hb48,hlt,hw,hx,hx',bu,bz,hci,hc,hLl,hb1,hb2,j1,j2,j3,j4,i5,o6,o7,k1,k2,k3,k4,ha,ha',hd1,hd2,hd3]<;>try refine Ya ?_)|refine X2 ?_ ?_|(refine Xd ?_ ?_<;>intro hcd<;>try exact Xx))
     |none=>
     cases hz : L[c.high.toNat]? with
     |none=>rw [List.getElem?_eq_getElem k6] at hz;cases hz
     |some xz=>
     have hz':=aP hz k6
     cases xz with
     |some d=>
      obtain ⟨e1,e2⟩:=bad (eU hx hlf (.inr (.inr (.inr ⟨d,hz⟩))))
      rw [e1,e2]
      obtain ⟨hdl,_⟩:=hB.bok.ok _ d hz
      have hd2 : d≠[]:=by intro h;rw [h] at hdl;simp at hdl;omega
      have hd1 : (0 : Int) < d.length:=by omega
      have hd3 : 0 < d.length:=by omega
      with_reducible repeat' (first|refine Sp.h ?_|((first|refine Wd ?_|refine Ss.h ?_|refine Sc.h (cl) ?_|refine Sc.h (cz) ?_|refine Sc.h (ch) ?_|(refine Sb.h ?_ ?_ ?_<;>(try intro hgd)<;>try exact Xy))<;>simp -implicitDefEqProofs (maxSteps:=2000000) [hP,hN,g1,g4,g6,g7,hb1',hb8,hb48,hlt,hw,hx,hx',bu,bz,hci,hc,hLl,hb1,hb2,j1,j2,j3,j4,i5,o6,o7,k1,k2,k3,k4,ha,ha',hz,hz',hd1,hd2,hd3]<;>try refine Ya ?_)|refine X2 ?_ ?_|(refine Xd ?_ ?_<;>intro hcd<;>try exact Xx))
     |none=>
      have hnx:=ij hB hlt (by rw [hc];exact gD hx hlf hin' hh ha hz)
      with_reducible repeat' (first|refine Sp.h ?_|((first|refine Wd ?_|refine Ss.h ?_|refine Sc.h (cl) ?_|refine Sc.h (cz) ?_|refine Sc.h (ch) ?_|(refine Sb.h ?_ ?_ ?_<;>(try intro hgd)<;>try exact Xy))<;>simp -implicitDefEqProofs (maxSteps:=2000000) [hP,hN,g1,g4,g6,g7,hb1',hb8,hb48,hlt,hw,hx,hx',bu,bz,hci,hc,hLl,hb1,hb2,j1,j2,j3,j4,i5,o6,o7,k1,k2,k3,k4,ha,ha',hz,hz']<;>try refine Ya ?_)|refine X2 ?_ ?_|(refine Xd ?_ ?_<;>intro hcd<;>try exact Xx))
      all_goals exact ⟨_,hnx,set_row⟩
  ·have hdn:=mh hB hlt
   have hmap:=m7 hdn
   have hval : av t=true:=by simp [av,hdn]
   rw [hval,← hmap]
   with_reducible repeat' (first|refine Sp.h ?_|((first|refine Wd ?_|refine Ss.h ?_|(refine Sb.h ?_ ?_ ?_<;>(try intro hgd)<;>try exact Xy))<;>simp -implicitDefEqProofs (maxSteps:=2000000) [hP,hN,g1,g4,g6,g7,hb1',hb8,hb48,hlt,hLl]<;>try refine Ya ?_)|refine X2 ?_ ?_|(refine Xd ?_ ?_<;>intro hcd<;>try exact Xx))
end Go.Ab
namespace Go.Ab
open Go.Proofs
abbrev zN (n : Nat) : PV:=Z (n : Int)
abbrev ns (l : List Nat) : PV:=.sl (l.map zN)
theorem vP (t : Tr) (hl : t.cells.length≤9223372036854775807) : am Try.prog 39 [.pv (bR t)] [] [] (.pv (B (av t))):=by
 have cb:=vq t hl
 refine Dp Try.func39 ?_
 intro C hP hN
 simp only [Try.f39] at hN ⊢
 exact Gy
theorem uq (t : Tr) (hl : t.cells.length≤9223372036854775807) : am Try.prog 31 [.pv (bR t)] [] [] (.pv (B (av t))):=by
 have cb:=vA t hl
 refine Dp Try.func31 ?_
 intro C hP hN
 simp only [Try.f31] at hN ⊢
 exact Gy
theorem oY (r : List (Int × Int)) : am Try.prog 13 [.pv (iv r)] [] [] (.pv (.tup [bR (pl r),B (bX r)])):=by
 have cv : am Try.prog 31 [.pv (.agg [iv r,.sl [.agg [Z (-1),Z (-1),Z (-1),Z 0,.sl [],Z 0,.sl [],.sl []]]])] [] [] (.pv (B (bX r))):=by
  have:=uq ⟨r,[aY aG]⟩ (by simp)
  rw [mj] at this;exact this
 cases h : bX r with
 |true=>
  rw [h] at cv
  refine Dp Try.func13 ?_
  intro C hP hN
  simp only [Try.f13] at hN ⊢
  refine Gz ?_
  all_goals simp [pl,h,aY,aG]
 |false=>
  rw [h] at cv
  refine Dp Try.func13 ?_
  intro C hP hN
  simp only [Try.f13] at hN ⊢
  refine Gz ?_
  all_goals simp [pl,h]
theorem rJ {t : Tr} {i : Nat} {c : Cel} (hc : t.cells[i]?=some c) : cA t (i+1)=if aT c then cA t i++[i] else cA t i:=by
 rw [rx];simp [aK,hc]
theorem zh (t : Tr) (hl : t.cells.length≤9223372036854775807) : am Try.prog 33 [.pv (bR t)] [] [] (.pv (ns (bi t))):=by
 have cv:=uq t hl
 cases hv : av t with
 |false=>
  have e : bi t=[]:=by simp [bi,hv]
  rw [hv] at cv
  rw [e]
  refine Dp Try.func33 ?_
  intro C hP hN
  simp only [Try.f33] at hN ⊢
  exact Gy
 |true=>
  have hz:=aS.1 (bn hv)
  have e : bi t=cA t t.cells.length:=by simp [bi,hv]
  rw [hv] at cv
  rw [e]
  refine Dp Try.func33 ?_
  intro C hP hN
  simp only [Try.f33] at hN ⊢
  with_reducible repeat' (first|refine Sp.h ?_|((first|refine Wh [3] ?_|refine Ss.h ?_|refine Sc.h (cv) ?_|(refine Sb.h ?_ ?_ ?_<;>(try intro hgd)<;>try exact Xy))<;>simp -implicitDefEqProofs (maxSteps:=2000000) [hP,hN])|refine X2 ?_ ?_|(refine Xd ?_ ?_<;>intro hcd<;>try exact Xx))
  refine WP.loopN [] t.cells.length (fun i st=>st.t 1=.ptr 1 0∧st.t 3=.arr 3 (cA t i).length∧st.t 4=.pv (Z i)∧st.h 1=some (.box [.pv (iv t.root),.pv (.sl (t.cells.map bf))] true false)∧st.h 3=some (.row 3 1 ((cA t i).map zN) 0)) (by simp [cA]) ?_
  rintro i st hi ⟨g1,g3,g4,hb1,hb3⟩
  have hle:=mP t i
  by_cases hlt : i < t.cells.length
  ·have hw:=ak hlt hl
   generalize hc : t.cells[i]=c at *
   have hci : t.cells[i]?=some c:=by rw [List.getElem?_eq_getElem hlt,hc]
   have cl:=yT c
   have hs:=rJ hci
   cases hlf : aT c with
   |true=>
    rw [hlf] at cl hs
    rw [if_pos rfl] at hs
    have hb : ((cA t i).length+1) * 8≤140737488355328:=by omega
    have hb' : (cA t i).length+1≤9223372036854775807:=by omega
    exact Gy
    all_goals simp [hs]
   |false=>
    rw [hlf] at cl hs
    rw [if_neg (by simp)] at hs
    exact Gy
    all_goals simp [hs]
  ·have hi' : i=t.cells.length:=by omega
   subst hi'
   exact Gy
theorem vi (k : Int) : am Try.prog 36 [.pv (Z k)] [] [] (.pv (jY (dj k))):=by
 by_cases h1 : k=1
 ·subst h1
  refine Dp Try.func36 ?_
  intro C hP hN
  simp only [Try.f36] at hN ⊢
  refine Gz ?_
  all_goals simp [dj]
 ·by_cases h2 : k=2
  ·subst h2
   refine Dp Try.func36 ?_
   intro C hP hN
   simp only [Try.f36] at hN ⊢
   refine Gz ?_
   all_goals simp [dj]
  ·by_cases h3 : k=3
   ·subst h3
    refine Dp Try.func36 ?_
    intro C hP hN
    simp only [Try.f36] at hN ⊢
    refine Gz ?_
    all_goals simp [dj]
   ·skip
    refine Dp Try.func36 ?_
    intro C hP hN
    simp only [Try.f36] at hN ⊢
    refine Gz ?_
    all_goals simp [dj,h1,h2,h3,aG]
theorem gc {t : Tr} {i j : Int} (h : bZ t i j=false) : dC t i j=t:=by simp [dC,h]
theorem fm {t : Tr} {i : Int} {v : Verd} (h : bL t i v=false) : cL t i v=t:=by simp [cL,h]
set_option maxRecDepth 10000 in
theorem uw (t : Tr) (i j : Int) (hl : t.cells.length≤9223372036854775807) : am Try.prog 34 [.pv (bR t),.pv (Z i),.pv (Z j)] [] [] (.pv (.tup [bR (dC t i j),B (bZ t i j)])):=by
 have cb:=vA t hl
 cases hv : av t with
 |false=>
  have hno : bZ t i j=false:=by simp [bZ,hv]
  rw [gc hno,hno]
  rw [hv] at cb
  refine Dp Try.func34 ?_
  intro C hP hN
  simp only [Try.f34] at hN ⊢
  exact Gy
 |true=>
  rw [hv] at cb
  have hbl:=dr hv
  have hz:=aS.1 (bn hv)
  by_cases h1 : i < 0
  ·have hno : bZ t i j=false:=by
    have : decide (0≤i)=false:=by simp;omega
    simp [bZ,this]
   rw [gc hno,hno]
   refine Dp Try.func34 ?_
   intro C hP hN
   simp only [Try.f34] at hN ⊢
   exact Gy
  ·obtain ⟨k,rfl⟩:=Int.eq_ofNat_of_zero_le (show 0≤i by omega)
   by_cases h2 : t.cells.length≤k
   ·have hno : bZ t k j=false:=by
     have : decide ((k : Int) < t.cells.length)=false:=by simp;omega
     simp only [bZ,this,Bool.and_false,Bool.false_and]
    rw [gc hno,hno]
    refine Dp Try.func34 ?_
    intro C hP hN
    simp only [Try.f34] at hN ⊢
    exact Gy
   ·have hlt : k < t.cells.length:=by omega
    have hlt' : k < (aw t).length:=by omega
    generalize hc : t.cells[k]=c at *
    have hci : t.cells[k]?=some c:=by rw [List.getElem?_eq_getElem hlt,hc]
    generalize hbk : (aw t)[k]=b at *
    have hbi : (aw t)[k]?=some b:=by rw [List.getElem?_eq_getElem hlt',hbk]
    obtain ⟨hb1,hb2⟩:=jZ hbi
    have cl:=yT c
    have ch:=vj b j (by omega)
    have hw : IntKind.i64.wrap ((t.cells.length : Int)+2)=(t.cells.length : Int)+2:=bP
    have hw1 : IntKind.i64.wrap ((t.cells.length : Int)+1)=(t.cells.length : Int)+1:=bP
    cases hlf : aT c with
    |false=>
     have hno : bZ t k j=false:=by simp [bZ,aK,hci,hlf]
     rw [gc hno,hno]
     rw [hlf] at cl
     refine Dp Try.func34 ?_
     intro C hP hN
     simp only [Try.f34] at hN ⊢
     exact Gy
    |true=>
     rw [hlf] at cl
     by_cases h3 : 2048 < t.cells.length+2
     ·have hno : bZ t k j=false:=by
       have : decide (t.cells.length+2≤2048)=false:=by simp;omega
       simp only [bZ,this,Bool.and_false,Bool.false_and]
      have h3' : (2048 : Int) < t.cells.length+2:=by omega
      rw [gc hno,hno]
      refine Dp Try.func34 ?_
      intro C hP hN
      simp only [Try.f34] at hN ⊢
      exact Gy
     ·have h3' : ¬ (2048 : Int) < t.cells.length+2:=by omega
      cases hh : aQ b j with
      |false=>
       have hno : bZ t k j=false:=by simp [bZ,hbi,hh]
       rw [gc hno,hno]
       rw [hh] at ch
       refine Dp Try.func34 ?_
       intro C hP hN
       simp only [Try.f34] at hN ⊢
       exact Gy
      |true=>
       have hyes : bZ t k j=true:=by
        simp only [bZ,hv,aK,Int.toNat_natCast,hci,hlf,hbi,Option.getD_some,hh,Bool.and_true,Bool.true_and,Bool.and_eq_true,decide_eq_true_eq]
        omega
       have hT : dC t k j=eV t k j c.v:=by simp [dC,hyes,ou,hci]
       rw [hT,hyes]
       rw [hh] at ch
       have hcl:=m8 hlf
       refine Dp Try.func34 ?_
       intro C hP hN
       simp only [Try.f34] at hN ⊢
       with_reducible repeat' (first|refine Sp.h ?_|((first|refine Wd ?_|refine Ss.h ?_|refine Sc.h (cb) ?_|refine Sc.h (cl) ?_|refine Sc.h (ch) ?_|(refine Sb.h ?_ ?_ ?_<;>(try intro hgd)<;>try exact Xy))<;>simp -implicitDefEqProofs (maxSteps:=2000000) [hP,hN,h1,h2,hbl,hlt,hlt',hci,hc,hbk,hbi,hw,hw1,h3',show t.cells.length * 112≤140737488355328 by omega,show (t.cells.length+2) * 112≤140737488355328 by omega,show t.cells.length+2≤9223372036854775807 by omega,show t.cells.length≤9223372036854775807 by omega]<;>try refine Ya ?_)|refine X2 ?_ ?_|(refine Xd ?_ ?_<;>intro hcd<;>try exact Xx))
       all_goals (rw [hcl];simp [eV,aY,List.map_set,aG]<;>rfl)
set_option maxRecDepth 10000 in
theorem zi (t : Tr) (i : Int) (v : Verd) (hl : t.cells.length≤9223372036854775807) : am Try.prog 35 [.pv (bR t),.pv (Z i),.pv (jY v)] [] [] (.pv (.tup [bR (cL t i v),B (bL t i v)])):=by
 have cb:=uq t hl
 cases hv : av t with
 |false=>
  have hno : bL t i v=false:=by simp [bL,hv]
  rw [fm hno,hno]
  rw [hv] at cb
  refine Dp Try.func35 ?_
  intro C hP hN
  simp only [Try.f35] at hN ⊢
  exact Gy
 |true=>
  rw [hv] at cb
  have hz:=aS.1 (bn hv)
  by_cases h1 : i < 0
  ·have hno : bL t i v=false:=by
    have : decide (0≤i)=false:=by simp;omega
    simp only [bL,this,Bool.and_false,Bool.false_and]
   rw [fm hno,hno]
   refine Dp Try.func35 ?_
   intro C hP hN
   simp only [Try.f35] at hN ⊢
   exact Gy
  ·obtain ⟨k,rfl⟩:=Int.eq_ofNat_of_zero_le (show 0≤i by omega)
   by_cases h2 : t.cells.length≤k
   ·have hno : bL t k v=false:=by
     have : decide ((k : Int) < t.cells.length)=false:=by simp;omega
     simp only [bL,this,Bool.and_false,Bool.false_and]
    rw [fm hno,hno]
    refine Dp Try.func35 ?_
    intro C hP hN
    simp only [Try.f35] at hN ⊢
    exact Gy
   ·have hlt : k < t.cells.length:=by omega
    generalize hc : t.cells[k]=c at *
    have hci : t.cells[k]?=some c:=by rw [List.getElem?_eq_getElem hlt,hc]
    have cl:=yT c
    have cf:=zg v
    cases hlf : aT c with
    |false=>
     have hno : bL t k v=false:=by simp [bL,aK,hci,hlf]
     rw [fm hno,hno]
     rw [hlf] at cl
     refine Dp Try.func35 ?_
     intro C hP hN
     simp only [Try.f35] at hN ⊢
     exact Gy
    |true=>
     rw [hlf] at cl
     by_cases h3 : c.v.kind=0
     ·have h3' : (c.v.kind !=0)=false:=by simp [h3]
      cases hf : bE v with
      |false=>
       have hno : bL t k v=false:=by simp [bL,hf]
       rw [fm hno,hno]
       rw [hf] at cf
       refine Dp Try.func35 ?_
       intro C hP hN
       simp only [Try.f35] at hN ⊢
       with_reducible repeat' (first|refine Sp.h ?_|((first|refine Wd ?_|refine Ss.h ?_|refine Sc.h (cb) ?_|refine Sc.h (cl) ?_|refine Sc.h (cf) ?_|(refine Sb.h ?_ ?_ ?_<;>(try intro hgd)<;>try exact Xy))<;>simp -implicitDefEqProofs (maxSteps:=2000000) [hP,hN,h1,h2,hlt,hci,hc,h3']<;>try refine Ya ?_)|refine X2 ?_ ?_|(refine Xd ?_ ?_<;>intro hcd<;>try exact Xx))
      |true=>
       rw [hf] at cf
       have hyes : bL t k v=true:=by
        simp [bL,hv,aK,hci,hlf,hf,ou,h3,hlt,hc]
       have hT : cL t k v=bm t k v:=by simp [cL,hyes]
       rw [hT,hyes]
       have hcl:=m8 hlf
       have q1 : c.joint=-1:=by rw [hcl];rfl
       have q2 : c.low=-1:=by rw [hcl];rfl
       have q3 : c.high=-1:=by rw [hcl];rfl
       refine Dp Try.func35 ?_
       intro C hP hN
       simp only [Try.f35] at hN ⊢
       with_reducible repeat' (first|refine Sp.h ?_|((first|refine Wd ?_|refine Ss.h ?_|refine Sc.h (cb) ?_|refine Sc.h (cl) ?_|refine Sc.h (cf) ?_|(refine Sb.h ?_ ?_ ?_<;>(try intro hgd)<;>try exact Xy))<;>simp -implicitDefEqProofs (maxSteps:=2000000) [hP,hN,h1,h2,hlt,hci,hc,h3',show t.cells.length * 112≤140737488355328 by omega,show t.cells.length≤9223372036854775807 by omega]<;>try refine Ya ?_)|refine X2 ?_ ?_|(refine Xd ?_ ?_<;>intro hcd<;>try exact Xx))
       all_goals simp [bm,aY,List.map_set,q1,q2,q3]
     ·have h3' : (c.v.kind !=0)=true:=by simp [h3]
      have hno : bL t k v=false:=by simp [bL,ou,hci,h3]
      rw [fm hno,hno]
      refine Dp Try.func35 ?_
      intro C hP hN
      simp only [Try.f35] at hN ⊢
      exact Gy
end Go.Ab
namespace Go.Ab
open Go.Proofs
theorem yV (l : List Int) : am Try.prog 14 [.bx 0] [dY l 0] [dY l (cS l (cu l))] (.pv (iv (bJ l))):=by
 have hr:=ko l
 have hw0 : IntKind.i64.wrap (1+nx l 0 3)=(cu l : Int):=by rw [hr.2.2];exact bP (by omega) (by omega)
 have cn:=pZ l 0 3 (by decide) (by decide)
 refine eH Try.func14 rfl (by kernel_rfl) (by simp [Try.f14]) rfl (by intro i j h;rcases i with _|_|_|i<;>simp_all) ?_
 intro C hP hN
 simp only [Try.f14] at hN ⊢
 with_reducible repeat' (first|refine Sp.h ?_|((first|refine Wh [3] ?_|refine Ss.h ?_|refine Sc.h (cn) ?_|(refine Sb.h ?_ ?_ ?_<;>(try intro hgd)<;>try exact Xy))<;>simp -implicitDefEqProofs (maxSteps:=2000000) [hP,hN,dY,hw0])|refine X2 ?_ ?_|(refine Xd ?_ ?_<;>intro hcd<;>try exact Xx))
 refine WP.loopN [] (cu l) (fun i st=>st.t 0=.ptr (pk 0) 0∧st.t 3=.arr 3 i∧st.t 4=.pv (Z ((cu l : Int) - i))∧st.h (pk 0)=some (.box [.pv (zs l),.pv (Z (cS l i))] false false)∧st.h 3=some (.row 52 2 (((bJ l).map uP).take i) 0)) (by simp [cS]) ?_
 rintro i st hi ⟨g0,g3,g4,hb0,hb3⟩
 have hzT : min i (bJ l).length=i:=by rw [fh];omega
 by_cases hlt : i < cu l
 ·have hlt' : (0 : Int) < (cu l : Int) - i:=by omega
  have hlt2 : (i : Int) < cu l:=by omega
  have hm:=rz l i
  have l1:=cY l (cS l i)
  have cs : am Try.prog 32 [.bx 0,.pv (Z 40)] [dY l (cS l i)] [dY l (nn l (cS l i))] (.pv (Z (il l (cS l i)))):=tK l (cS l i) 40 (by decide) (by decide) (by omega)
  have cn:=pZ l (nn l (cS l i)) 60 (by decide) (by omega)
  have hs:=rI hlt
  have hw : IntKind.i64.wrap ((cu l : Int) - i - 1)=(cu l : Int) - ((i : Int)+1):=by rw [show (cu l : Int) - i - 1=(cu l : Int) - ((i : Int)+1) by omega];exact bP (by omega) (by omega)
  with_reducible repeat' (first|refine Sp.h ?_|((first|refine Ss.h ?_|refine Sc.h (cs) ?_|refine Sc.h (cn) ?_|(refine Sb.h ?_ ?_ ?_<;>(try intro hgd)<;>try exact Xy))<;>simp -implicitDefEqProofs (maxSteps:=2000000) [hP,hN,dY,g0,g3,g4,hb0,hb3,hlt,hlt',hlt2,hw,hzT,hs,show (i+1) * 16≤140737488355328 by omega,show i+1≤9223372036854775807 by omega])|refine X2 ?_ ?_|(refine Xd ?_ ?_<;>intro hcd<;>try exact Xx))
  all_goals exact ⟨rfl,hs⟩
 ·have hi' : i=cu l:=by omega
  subst hi'
  have hlt' : ¬ (0 : Int) < (cu l : Int) - (cu l : Int):=by omega
  have htk : ((bJ l).map uP).take (cu l)=(bJ l).map uP:=List.take_of_length_le (by simp [fh])
  refine Gz ?_
  all_goals exact fh l
theorem mT (t : Tr) : (bi t).length≤t.cells.length:=by
 cases h : av t with
 |true=>simp only [bi,h,if_true];exact mP _ _
 |false=>simp [bi,h]
theorem wy {t : Tr} (hv : av t=true) (l : List Int) (m : Nat) (hc : t.cells.length≤2048) : 0≤nx l m (bi t).length∧(bi t)[(nx l m (bi t).length).toNat]?=some (pm t l m)∧(nx l m (bi t).length).toNat < (bi t).length:=by
 have hp:=mQ hv
 have hle:=mT t
 have hr:=bq l m (k:=((bi t).length : Int)) (by omega) (by omega)
 have hlt : (nx l m (bi t).length).toNat < (bi t).length:=by omega
 exact ⟨hr.1,by simp [pm,List.getElem?_eq_getElem hlt],hlt⟩
set_option maxRecDepth 10000 in
theorem uo (t : Tr) (l : List Int) (n : Nat) (hn : n≤100) (hv : av t=true) (hc : t.cells.length≤100) : am Try.prog 15 [.pv (bR t),.pv (zs l),.pv (Z n)] [] [] (.pv (bR (nd t l n))):=by
 have cf:=tl l
 have hz:=aS.1 (bn hv)
 refine Dp Try.func15 ?_
 intro C hP hN
 simp only [Try.f15] at hN ⊢
 refine Gz ?_
 refine WP.loopN [] n (fun i st=>st.t 2=.pv (Z n)∧st.t 3=.ptr 3 0∧st.t 6=.ptr 6 0∧st.t 7=.ptr 14 0∧st.t 8=.pv (Z i)∧st.h 3=some (.box [.pv (iv (bt t l i).1.root),.pv (.sl ((bt t l i).1.cells.map bf))] true false)∧st.h 6=some (.box [.pv (.val (.slice none 0 0)),.pv (.val (.slice none 0 0))] true false)∧st.h 14=some (.box [.pv (zs l),.pv (Z (bt t l i).2)] true false)) (by simp [bt]) ?_
 rintro i st hi ⟨g2,g3,g6,g7,g8,hb3,hb6,hb14⟩
 obtain ⟨o1,o2,o3,o4⟩:=sv l hv i
 by_cases hlt : i < n
 ·have hw:=ak hlt (by omega)
  have hsu : bt t l (i+1)=(dC (bt t l i).1 (pm (bt t l i).1 l (bt t l i).2) (rA (bt t l i).1 l (bt t l i).2),nn l (nn l (bt t l i).2)):=rfl
  generalize (bt t l i).1=d at *
  generalize (bt t l i).2=m at *
  obtain ⟨p1,p2,p3⟩:=wy o1 l m (by omega)
  have p2':=(List.getElem?_eq_some_iff.1 p2).2
  have l1:=cY l m
  have hlp:=mQ o1
  have cl:=zh d (by omega)
  have c1:=pZ l m ((bi d).length : Int) (by omega) (by omega)
  have c2:=pZ l (nn l m) (d.root.length : Int) (by rw [o2];omega) (by omega)
  have c3:=uw d (pm d l m) (rA d l m) (by omega)
  unfold rA at c3 hsu
  with_reducible repeat' (first|refine Sp.h ?_|((first|refine Wd ?_|refine Ss.h ?_|refine Sc.h (cl) ?_|refine Sc.h (c1) ?_|refine Sc.h (c2) ?_|refine Sc.h (c3) ?_|(refine Sb.h ?_ ?_ ?_<;>(try intro hgd)<;>try exact Xy))<;>simp -implicitDefEqProofs (maxSteps:=2000000) [hP,hN,dY,g2,g3,g6,g7,g8,hb3,hb6,hb14,hlt,hw,p1,p2,p2',p3]<;>try refine Ya ?_)|refine X2 ?_ ?_|(refine Xd ?_ ?_<;>intro hcd<;>try exact Xx))
  all_goals simp [hsu]
 have hi' : i=n:=by omega
 subst hi'
 have o5 : nd t l i=(cV (bt t l i).1 (bt t l i).2 (bi (bt t l i).1) l (bi (bt t l i).1).length).1:=rfl
 rw [o5]
 generalize (bt t l i).1=d at *
 generalize (bt t l i).2=m at *
 have cl:=zh d (by omega)
 have hle:=mT d
 with_reducible repeat' (first|refine Sp.h ?_|((first|refine Wd ?_|refine Ss.h ?_|refine Sc.h (cl) ?_|(refine Sb.h ?_ ?_ ?_<;>(try intro hgd)<;>try exact Xy))<;>simp -implicitDefEqProofs (maxSteps:=2000000) [hP,hN,g2,g3,g6,g7,g8,hb3,hb6,hb14,hlt]<;>try refine Ya ?_)|refine X2 ?_ ?_|(refine Xd ?_ ?_<;>intro hcd<;>try exact Xx))
 generalize hall : bi d=all at *
 refine WP.loopN [] all.length (fun k st=>st.t 3=.ptr 3 0∧st.t 6=.ptr 6 0∧st.t 7=.ptr 14 0∧st.t 11=.pv (ns all)∧st.t 12=.pv (Z k)∧st.h 3=some (.box [.pv (iv (cV d m all l k).1.root),.pv (.sl ((cV d m all l k).1.cells.map bf))] true false)∧st.h 6=some (.box [.pv (.val (.slice none 0 0)),.pv (.val (.slice none 0 0))] true false)∧st.h 14=some (.box [.pv (zs l),.pv (Z (cV d m all l k).2)] true false)) (by simp [cV,g2,g3,g6,g7,g8,hb3,hb6,hb14]) ?_
 clear g2 g3 g6 g7 g8 hb3 hb6 hb14 st
 rintro k st hk ⟨g3,g6,g7,g11,g12,hb3,hb6,hb14⟩
 obtain ⟨q1,q2,q3,q4,q5⟩:=sw m all l o1 k
 by_cases hkl : k < all.length
 ·have hw:=ak hkl (by omega)
  have hsu : cV d m all l (k+1)=(cL (cV d m all l k).1 ((all[k]?.getD 0 : Nat) : Int) (dj (nx l (cV d m all l k).2 5)),nn l (cV d m all l k).2):=rfl
  rw [List.getElem?_eq_getElem hkl,Option.getD_some] at hsu
  generalize (cV d m all l k).1=u at *
  generalize (cV d m all l k).2=r at *
  have c1:=pZ l r 5 (by decide) (by omega)
  have c2:=vi (nx l r 5)
  have c3:=zi u ((all[k] : Nat) : Int) (dj (nx l r 5)) (by omega)
  with_reducible repeat' (first|refine Sp.h ?_|((first|refine Wd ?_|refine Ss.h ?_|refine Sc.h (c1) ?_|refine Sc.h (c2) ?_|refine Sc.h (c3) ?_|(refine Sb.h ?_ ?_ ?_<;>(try intro hgd)<;>try exact Xy))<;>simp -implicitDefEqProofs (maxSteps:=2000000) [hP,hN,dY,g3,g6,g7,g11,g12,hb3,hb6,hb14,hkl,hw]<;>try refine Ya ?_)|refine X2 ?_ ?_|(refine Xd ?_ ?_<;>intro hcd<;>try exact Xx))
  all_goals simp [hsu]
 ·have hk' : k=all.length:=by omega
  subst hk'
  with_reducible repeat' (first|refine Sp.h ?_|((first|refine Wd ?_|refine Ss.h ?_|(refine Sb.h ?_ ?_ ?_<;>(try intro hgd)<;>try exact Xy))<;>simp -implicitDefEqProofs (maxSteps:=2000000) [hP,hN,dY,g3,g6,g7,g11,g12,hb3,hb6,hb14,hkl]<;>try refine Ya ?_)|refine X2 ?_ ?_|(refine Xd ?_ ?_<;>intro hcd<;>try exact Xx))
theorem d4 (l : List Int) : am Try.prog 4 [.pv (zs l)] [] [] (.pv (bR (e6 l))):=by
 have cf:=tl l
 have cr:=yV l
 have cn:=oY (bJ l)
 have hro:=qa l
 have e : pl (bJ l)=⟨bJ l,[aY aG]⟩:=by simp [pl,hro]
 rw [hro,e] at cn
 have hm:=rz l (cu l)
 have hrn:=ko l
 have c1:=pZ l (cS l (cu l)) 14 (by decide) (by omega)
 have ht:=mR l
 have c2:=uo ⟨bJ l,[aY aG]⟩ l (en l).toNat (by omega) (by rw [mj];exact hro) (by simp)
 have e2 : ((en l).toNat : Int)=nx l (cS l (cu l)) 14:=by rw [Int.toNat_of_nonneg ht.1];rfl
 have e3 : nd ⟨bJ l,[aY aG]⟩ l (en l).toNat=e6 l:=rfl
 rw [e2,e3] at c2
 clear e e2 e3
 generalize (⟨bJ l,[aY aG]⟩ : Tr)=T at cn c2
 refine Dp Try.func4 ?_
 intro C hP hN
 simp only [Try.f4] at hN ⊢
 with_reducible repeat' (first|refine Sp.h ?_|((first|refine Wd ?_|refine Ss.h ?_|refine Sc.h (cf) ?_|refine Sc.h (cr) ?_|refine Sc.h (cn) ?_|refine Sc.h (c1) ?_|refine Sc.h (c2) ?_|(refine Sb.h ?_ ?_ ?_<;>(try intro hgd)<;>try exact Xy))<;>simp -implicitDefEqProofs (maxSteps:=2000000) [hP,hN,dY]<;>try refine Ya ?_)|refine X2 ?_ ?_|(refine Xd ?_ ?_<;>intro hcd<;>try exact Xx))
set_option maxRecDepth 10000 in
theorem d5 (b : Bx) (l : List Int) (hb : b.length≤1000) (hv : aU vI b=true) : am Try.prog 5 [.pv (iv b),.pv (zs l)] [] [] (.pv (zs (lg b l))):=by
 have cf:=tl l
 have cm:=yW b (by omega)
 have hmid : gM b=b.map dP:=by simp [gM,hv]
 rw [hmid] at cm
 refine Dp Try.func5 ?_
 intro C hP hN
 simp only [Try.f5] at hN ⊢
 with_reducible repeat' (first|refine Sp.h ?_|((first|refine Wh [6] ?_|refine Wi [6] ?_|refine Ss.h ?_|refine Sc.h (cf) ?_|(refine Sb.h ?_ ?_ ?_<;>(try intro hgd)<;>try exact Xy))<;>simp -implicitDefEqProofs (maxSteps:=2000000) [hP,hN,dY]<;>try refine Ya ?_)|refine X2 ?_ ?_|(refine Xd ?_ ?_<;>intro hcd<;>try exact Xx))
 refine WP.loopN [] b.length (fun i st=>st.t 0=.pv (iv b)∧st.t 5=.ptr 9 0∧st.t 6=.arr 6 i∧st.t 7=.pv (Z i)∧st.h 9=some (.box [.pv (zs l),.pv (Z (cJ l i))] true false)∧st.h 6=some (.row 2 1 (((lg b l).map Z).take i) 0)∧st.h 65=none) (by simp [cJ]) ?_
 rintro i st hi ⟨g0,g5,g6,g7,hb9,hb6,hb65⟩
 have hzT : min i (lg b l).length=i:=by rw [lu];omega
 by_cases hlt : i < b.length
 ·have hw:=ak hlt (by omega)
  have hm:=ym l i
  have l1:=cY l (cJ l i)
  have hs:=wx (l:=l) hlt
  have hsn : cJ l (i+1)=ml l (cJ l i):=rfl
  have hvx:=bD.1 (bC.1 hv _ (List.getElem_mem hlt))
  have hr:=bq l (cJ l i) (k:=5) (by decide) (by decide)
  have hr2:=bq l (nn l (cJ l i)) (k:=b[i].2 - b[i].1+1) (by omega) (by omega)
  have c1:=pZ l (cJ l i) 5 (by decide) (by omega)
  have c2:=pZ l (nn l (cJ l i)) (b[i].2 - b[i].1+1) (by omega) (by omega)
  have w1 : IntKind.i64.wrap (b[i].2 - b[i].1)=b[i].2 - b[i].1:=bP
  have w2 : IntKind.i64.wrap (b[i].2 - b[i].1+1)=b[i].2 - b[i].1+1:=bP
  have w3 : IntKind.i64.wrap (b[i].1+nx l (nn l (cJ l i)) (b[i].2 - b[i].1+1))=b[i].1+nx l (nn l (cJ l i)) (b[i].2 - b[i].1+1):=bP
  have hA : (i+1) * 8≤140737488355328:=by omega
  have hA' : i+1≤9223372036854775807:=by omega
  by_cases k0 : nx l (cJ l i) 5=0
  ·have e1 : mS l (cJ l i) b[i]=b[i].1:=by simp [mS,kw,k0]
   have e2 : ml l (cJ l i)=nn l (cJ l i):=by simp [ml,kw,k0]
   rw [e1] at hs;rw [e2] at hsn;rw [k0] at c1
   exact Gy
   all_goals exact ⟨by rw [hsn],hs⟩
  by_cases k1 : nx l (cJ l i) 5=1
  ·have e1 : mS l (cJ l i) b[i]=b[i].2:=by simp [mS,kw,k1]
   have e2 : ml l (cJ l i)=nn l (cJ l i):=by simp [ml,kw,k1]
   rw [e1] at hs;rw [e2] at hsn;rw [k1] at c1
   exact Gy
   all_goals exact ⟨by rw [hsn],hs⟩
  by_cases k2 : nx l (cJ l i) 5=2
  ·have e1 : mS l (cJ l i) b[i]=dP b[i]:=by simp [mS,kw,k2]
   have e2 : ml l (cJ l i)=nn l (cJ l i):=by simp [ml,kw,k2]
   rw [e1] at hs;rw [e2] at hsn;rw [k2] at c1
   exact Gy
   all_goals exact ⟨by rw [hsn],hs⟩
  have e1 : mS l (cJ l i) b[i]=b[i].1+nx l (nn l (cJ l i)) (b[i].2 - b[i].1+1):=by simp [mS,kw,k0,k1,k2]
  have e2 : ml l (cJ l i)=nn l (nn l (cJ l i)):=by simp [ml,kw,k0,k1,k2]
  have k0' : (nx l (cJ l i) 5==0)=false:=by simp [k0]
  have k1' : (nx l (cJ l i) 5==1)=false:=by simp [k1]
  have k2' : (nx l (cJ l i) 5==2)=false:=by simp [k2]
  rw [e1] at hs;rw [e2] at hsn
  exact Gy
  all_goals exact ⟨by rw [hsn],hs⟩
 ·have hi' : i=b.length:=by omega
  subst hi'
  have htk : ((lg b l).map Z).take b.length=(lg b l).map Z:=List.take_of_length_le (by simp [lu])
  refine Gz ?_
  all_goals simp [lu]
end Go.Ab
namespace Go.Ab
open Go.Proofs
def cG (U : List Bool) (i : Nat) : Prop:=U[i]?=some true
inductive Rch (n : Nat) (opn : Nat→Bool) (tch : Nat→Nat→Bool) (S : Nat→Prop) : Nat→Prop
 |base {i : Nat} (h : S i) : Rch n opn tch S i
 |step {i k : Nat} (h : Rch n opn tch S i) (hk : k < n) (ho : opn k=true) (ht : tch i k=true) : Rch n opn tch S k
structure IsR (n : Nat) (opn : Nat→Bool) (tch : Nat→Nat→Bool) (S : Nat→Prop) (U : List Bool) : Prop where
 len : U.length=n
 iff : ∀ i,i < n→(cG U i↔Rch n opn tch S i)
theorem qP (n : Nat) (opn : Nat→Bool) (tch : Nat→Nat→Bool) (S : Nat→Prop) : ∃ U,IsR n opn tch S U:=by
 classical
 refine ⟨(List.range n).map fun i=>decide (Rch n opn tch S i),by simp,fun i hi=>?_⟩
 simp [cG,hi]
theorem lz {n : Nat} {opn : Nat→Bool} {tch : Nat→Nat→Bool} {S : Nat→Prop} {U V : List Bool} (h : IsR n opn tch S U) (h' : IsR n opn tch S V) : U=V:=by
 apply List.ext_getElem (by rw [h.len,h'.len])
 intro i hi hi'
 have e1:=h.iff i (by rw [← h.len];exact hi)
 have e2:=h'.iff i (by rw [← h.len];exact hi)
 simp only [cG,List.getElem?_eq_getElem hi,List.getElem?_eq_getElem hi',Option.some.injEq] at e1 e2
 cases hu : U[i]<;>cases hv : V[i]<;>simp_all
section
variable {n : Nat} {opn : Nat→Bool} {tch : Nat→Nat→Bool} {S : Nat→Prop} {U : List Bool} {F : List Nat}
structure FI (n : Nat) (opn : Nat→Bool) (tch : Nat→Nat→Bool) (S : Nat→Prop) (U : List Bool) (F : List Nat) : Prop where
 len : U.length=n
 base : ∀ i,S i→cG U i
 sound : ∀ i,cG U i→Rch n opn tch S i
 mem : ∀ i ∈ F,cG U i
 clo : ∀ i,cG U i→i ∈ F∨∀ k,k < n→opn k=true→tch i k=true→cG U k
structure FJ (n : Nat) (opn : Nat→Bool) (tch : Nat→Nat→Bool) (S : Nat→Prop) (U : List Bool) (F : List Nat) (x j : Nat) : Prop where
 len : U.length=n
 base : ∀ i,S i→cG U i
 sound : ∀ i,cG U i→Rch n opn tch S i
 mem : ∀ i ∈ F,cG U i
 mx : cG U x
 clo : ∀ i,cG U i→i ∈ F∨i=x∨∀ k,k < n→opn k=true→tch i k=true→cG U k
 part : ∀ k,k < j→k < n→opn k=true→tch x k=true→cG U k
theorem qR (hl : U.length=n) {i : Nat} (h : cG U i) : i < n:=by
 rw [← hl];exact (List.getElem?_eq_some_iff.1 h).1
theorem jm {j i : Nat} (hj : j < U.length) : cG (U.set j true) i↔i=j∨cG U i:=by
 unfold cG
 rw [List.getElem?_set]
 by_cases h : j=i
 ·subst h;simp [hj]
 ·rw [if_neg h]
  constructor
  ·exact .inr
  ·rintro (rfl|h')
   ·exact absurd rfl h
   ·exact h'
theorem FI.fin (h : FI n opn tch S U []) : IsR n opn tch S U:=by
 refine ⟨h.len,fun i hi=>⟨h.sound i,fun hr=>?_⟩⟩
 clear hi
 induction hr with
 |base hs=>exact h.base _ hs
 |step _ hk ho ht ih=>
  rcases h.clo _ ih with hF|hc
  ·cases hF
  ·exact hc _ hk ho ht
theorem FI.pop {F' : List Nat} {x : Nat} (h : FI n opn tch S U F) (hx : x ∈ F) (h1 : ∀ m ∈ F,m ∈ F'∨m=x) (h2 : ∀ m ∈ F',m ∈ F) : FJ n opn tch S U F' x 0:=
 ⟨h.len,h.base,h.sound,fun i hi=>h.mem i (h2 i hi),h.mem x hx,fun i hi=>by
   rcases h.clo i hi with hF|hc
   ·rcases h1 i hF with h3|h3
    ·exact .inl h3
    ·exact .inr (.inl h3)
   ·exact .inr (.inr hc),fun k hk=>by omega⟩
theorem FJ.skip {x j : Nat} (h : FJ n opn tch S U F x j) (hn : opn j=true→tch x j=true→cG U j) : FJ n opn tch S U F x (j+1):=
 ⟨h.len,h.base,h.sound,h.mem,h.mx,h.clo,fun k hk hkn ho ht=>by
   by_cases e : k=j
   ·subst e;exact hn ho ht
   ·exact h.part k (by omega) hkn ho ht⟩
theorem FJ.add {x j : Nat} (h : FJ n opn tch S U F x j) (hj : j < n) (ho : opn j=true) (ht : tch x j=true) : FJ n opn tch S (U.set j true) (F++[j]) x (j+1):=by
 have hjl : j < U.length:=by rw [h.len];exact hj
 have up : ∀ i,cG U i→cG (U.set j true) i:=fun i hi=>(jm hjl).2 (.inr hi)
 refine ⟨by simpa using h.len,fun i hi=>up i (h.base i hi),fun i hi=>?_,fun i hi=>?_,up x h.mx,fun i hi=>?_,fun k hk hkn hok htk=>?_⟩
 ·rcases (jm hjl).1 hi with rfl|hi
  ·exact .step (h.sound x h.mx) hj ho ht
  ·exact h.sound i hi
 ·rcases List.mem_append.1 hi with hi|hi
  ·exact up i (h.mem i hi)
  ·simp at hi;subst hi;exact (jm hjl).2 (.inl rfl)
 ·rcases (jm hjl).1 hi with rfl|hi
  ·exact .inl (by simp)
  ·rcases h.clo i hi with h1|h1|h1
   ·exact .inl (by simp [h1])
   ·exact .inr (.inl h1)
   ·exact .inr (.inr fun k hk hok htk=>up k (h1 k hk hok htk))
 ·by_cases e : k=j
  ·subst e;exact (jm hjl).2 (.inl rfl)
  ·exact up k (h.part k (by omega) hkn hok htk)
theorem FJ.done {x : Nat} (h : FJ n opn tch S U F x n) : FI n opn tch S U F:=
 ⟨h.len,h.base,h.sound,h.mem,fun i hi=>by
   rcases h.clo i hi with h1|h1|h1
   ·exact .inl h1
   ·subst h1;exact .inr fun k hk ho ht=>h.part k hk hk ho ht
   ·exact .inr h1⟩
def iZ (U : List Bool) : Nat:=U.countP fun b=>!b
theorem oZ : ∀ {U : List Bool} {j : Nat},U[j]?=some false→iZ (U.set j true)+1=iZ U
 |[],j,h=>by simp at h
 |b :: U,0,h=>by simp at h;subst h;simp [iZ]
 |b :: U,j+1,h=>by
  have ih:=oZ (U:=U) (j:=j) (by simpa using h)
  unfold iZ at ih ⊢
  rw [List.set_cons_succ,List.countP_cons,List.countP_cons]
  omega
theorem nY (U : List Bool) : iZ U≤U.length:=List.countP_le_length
def fU (n : Nat) (s : Nat→Bool) (i : Nat) : List Bool:=(List.range n).map fun m=>decide (m < i) && s m
def fF (s : Nat→Bool) (i : Nat) : List Nat:=(List.range i).filter s
theorem o0 (n : Nat) (s : Nat→Bool) : fU n s 0=List.replicate n false:=by
 apply List.ext_getElem (by simp [fU])
 intro i h1 h2
 simp [fU]
theorem nZ (n : Nat) (s : Nat→Bool) (i : Nat) : (fU n s i).length=n:=by simp [fU]
theorem lI (s : Nat→Bool) (i : Nat) : (fF s i).length≤i:=by
 have:=List.length_filter_le s (List.range i)
 simpa [fF] using this
theorem q6 {n : Nat} {s : Nat→Bool} {i : Nat} (hi : i < n) (hs : s i=true) : (fU n s i).set i true=fU n s (i+1):=by
 apply List.ext_getElem (by simp [fU])
 intro j h1 h2
 have hj : j < n:=by simpa [fU] using h2
 rw [List.getElem_set]
 by_cases e : i=j
 ·subst e;simp [fU,hs]
 ·rw [if_neg e]
  simp only [fU,List.getElem_map,List.getElem_range]
  have : decide (j < i)=decide (j < i+1):=by simp;omega
  rw [this]
theorem sG {n : Nat} {s : Nat→Bool} {i : Nat} (hs : s i=false) : fU n s i=fU n s (i+1):=by
 unfold fU
 apply List.map_congr_left
 intro j _
 by_cases e : j=i
 ·subst e;simp [hs]
 ·have : decide (j < i)=decide (j < i+1):=by simp;omega
  rw [this]
theorem q7 {s : Nat→Bool} {i : Nat} (hs : s i=true) : fF s (i+1)=fF s i++[i]:=by simp [fF,List.range_succ,hs]
theorem sH {s : Nat→Bool} {i : Nat} (hs : s i=false) : fF s (i+1)=fF s i:=by simp [fF,List.range_succ,hs]
theorem o8 (n : Nat) (opn : Nat→Bool) (tch : Nat→Nat→Bool) (s : Nat→Bool) : FI n opn tch (fun i=>i < n∧s i=true) (fU n s n) (fF s n):=by
 have key : ∀ i,cG (fU n s n) i↔i < n∧s i=true:=by
  intro i
  by_cases hi : i < n
  ·simp [cG,fU,hi]
  ·simp [cG,fU,hi]
 refine ⟨nZ _ _ _,fun i hi=>(key i).2 hi,fun i hi=>.base ((key i).1 hi),fun i hi=>?_,fun i hi=>.inl ?_⟩
 ·rw [key]
  simp only [fF,List.mem_filter,List.mem_range] at hi
  exact hi
 ·have:=(key i).1 hi
  simp only [fF,List.mem_filter,List.mem_range]
  exact this
end
def di (c : Cel) : Bool:=aT c && c.v.kind==2
def aH (c : Cel) : Bool:=aT c && !(di c)
def b7 (t : Tr) (i : Nat) : Bool:=match t.cells[i]? with
 |some c=>aH c
 |none=>false
def gy (t : Tr) (i j : Nat) : Bool:=bG (aD t (i : Int)) (aD t (j : Int))
def ca (t : Tr) (p : List Int) (i : Nat) : Bool:=aR (aD t (i : Int)) p
def lA (t : Tr) (p : List Int) (i : Nat) : Prop:=i < t.cells.length∧(b7 t i && ca t p i)=true
def ju (t : Tr) (p : List Int) (U : List Bool) : Prop:=IsR t.cells.length (b7 t) (gy t) (lA t p) U
def mo (t : Tr) (p : List Int) : Bool:=av t && aR t.root p
def kx (t : Tr) (U : List Bool) (q : List Int) : Bool:=(List.range t.cells.length).all fun i=>!((U[i]?.getD false) && ca t q i)
def dR (t : Tr) (p q : List Int) (U : List Bool) : Bool:=av t && aR t.root p && aR t.root q && kx t U q
theorem q8 (t : Tr) (p : List Int) : ∃ U,ju t p U:=qP _ _ _ _
end Go.Ab
namespace Go.Ab
theorem dQ {C : Cx} {hn : List Nat} {ops : Array Oper} {Q : St→Prop} {Q' : Exit→Act→World→Prop} {rest : List Oper} (hQ : ∀ st a w,cx C st a w→Q st→wpList C.P ops Q' rest a w) :
 ∀ {l : List Oper} {st : St} {a : Act} {w : World},cx C st a w→cC C.P hn C.N ops Q l st→wpList C.P ops Q' (l++rest) a w
 |[],st,a,w,hs,e=>hQ st a w hs e
 |o :: l,st,a,w,hs,e=>by
  obtain ⟨L,hm,hN,hdf,ht⟩:=hs
  rw [cC.eq_2] at e
  obtain ⟨hd,e⟩:=e
  rw [List.cons_append]
  refine wpList_step (fun K hK=>?_)
  split at e
  ·rename_i hg
   rw [df ht (gP hg),if_pos rfl]
   exact jN hm hN hdf ht hd e (fun eff a' w' hk hsim=>hK _ _ (dQ hQ hsim hk))
  ·rename_i d b want hg
   rw [df ht (fw hg)]
   unfold kQ at e
   simp only at e
   split at e
   ·rename_i hgt
    subst hgt
    rw [if_pos (by simp)]
    exact jN hm hN hdf ht hd e (fun eff a' w' hk hsim=>hK _ _ (dQ hQ hsim hk))
   ·rename_i hgt
    rw [if_neg (by simpa using hgt)]
    exact hK _ _ (dQ hQ (cx.put hm hN hdf ht hd (W:=[]) (aq.refl hm) (.pv (.val _))) e)
  ·exact e.elim
theorem nl {w w' : World} {M M' : Nat→Nat→Prop} {L : Nat→Loc} {h : Hp} {ks : List Nat} (hp : Pres w M w' M') {x : AV} {u : Value} (hx : RepA w M L h x u) :
 RepA w' M' L (fun k=>if ks.contains k=true then none else (h k).map (bO ks)) (bc ks x) u:=
 (mE hx).mono hp sf
def rekey (h : Hp) (ks : List Nat) (k : Nat) (ap : Blk) : Hp:=fun q=>if q=k then some ap else if ks.contains q=true then none else (h q).map (bO ks)
def St.rekey (st : St) (ks : List Nat) (k : Nat) (ap : Blk) : St:=⟨fun n=>bc ks (st.t n),Go.Ab.rekey st.h ks k ap⟩
theorem ex {h : Hp} {ks : List Nat} {k q : Nat} {ap b : Blk} (hq : rekey h ks k ap q=some b) : (q=k∧b=ap)∨(q≠k∧q ∉ ks∧∃ b0,h q=some b0∧b=bO ks b0):=by
 unfold rekey at hq
 split at hq
 ·rename_i e;injection hq with hq;exact .inl ⟨e,hq.symm⟩
 ·rename_i e
  split at hq
  ·cases hq
  ·rename_i hc
   simp only [Option.map_eq_some_iff] at hq
   obtain ⟨b0,h1,h2⟩:=hq
   exact .inr ⟨e,by simpa using hc,b0,h1,h2.symm⟩
theorem lw {ks : List Nat} (b : Blk) (l : Loc) : (bO ks b).live l=b.live l:=by cases b<;>rfl
theorem pn {ks : List Nat} (b : Blk) (o : Nat) : (bO ks b).frz o=b.frz o:=by cases b<;>rfl
theorem po {C : Cx} {k : Nat} {l : Loc} {ks : List Nat} {b : Blk} (h : co C k l b) : co C k l (bO ks b):=by
 cases b with
 |box cs own fz=>cases own<;>exact h
 |row=>exact h
 |mp=>exact h
section
variable {C : Cx} {L : Nat→Loc} {h : Hp} {w : World}
theorem MemL.retake (hm : MemL C L h w) {k e sz m : Nat} {xs : List PV} (hk : h k=some (.row e sz xs 0)) :
 MemL C L (rekey h [k] k (.row e sz (xs.take m) 0)) w∧∀ x u,RepA w (ae C L h) L h x u→RepA w (ae C L (rekey h [k] k (.row e sz (xs.take m) 0))) L (rekey h [k] k (.row e sz (xs.take m) 0)) (bc [k] x) u:=by
 have hM : ∀ b o,ae C L (rekey h [k] k (.row e sz (xs.take m) 0)) b o→ae C L h b o:=by
  rintro b o (h0|⟨q,ap,hq,hl,hb,hf⟩)
  ·exact .inl h0
  ·rcases ex hq with ⟨rfl,rfl⟩|⟨_,_,b0,h1,rfl⟩
   ·exact .inr ⟨q,_,hk,hl,hb,hf⟩
   ·rw [lw] at hl;rw [pn] at hf
    exact .inr ⟨q,b0,h1,hl,hb,hf⟩
 have hp:=Pres.sub (w:=w) hM
 have hkc : KC L (fun q=>if [k].contains q=true then none else (h q).map (bO [k])) L (rekey h [k] k (.row e sz (xs.take m) 0)):=by
  intro q ap hq
  simp only at hq
  split at hq
  ·cases hq
  ·rename_i hc
   have hne : q≠k:=by simpa using hc
   refine ⟨ap,?_,bH _ _⟩
   simp only [rekey,if_neg hne,if_neg hc];exact hq
 have hrep : ∀ x u,RepA w (ae C L h) L h x u→RepA w (ae C L (rekey h [k] k (.row e sz (xs.take m) 0))) L (rekey h [k] k (.row e sz (xs.take m) 0)) (bc [k] x) u:=
  fun x u hx=>(nl (ks:=[k]) hp hx).mono (Pres.refl _ _) hkc
 refine ⟨⟨hm.ext,hm.m0,?_,?_,?_⟩,hrep⟩
 ·intro q ap hq
  rcases ex hq with ⟨rfl,rfl⟩|⟨_,_,b0,h1,rfl⟩
  ·obtain ⟨g1,g2,g3,g4,g5⟩:=hm.bl q _ hk
   refine ⟨g1,Nat.zero_le _,fun x hx=>g3 x (List.mem_of_mem_take hx),fun hn=>by rw [g4 hn];simp,fun hn=>?_⟩
   obtain ⟨a1,a2,arr,a3,a4,a5⟩:=g5 hn
   refine ⟨by rw [List.length_take];omega,a2,arr,a3,a4,fun i x j p hx hj=>?_⟩
   rw [List.getElem?_take] at hx
   split at hx
   ·obtain ⟨u,hu,hr⟩:=a5 i x j p hx hj
    exact ⟨u,hu,hr.mono hp⟩
   ·cases hx
  ·have:=hm.bl q b0 h1
   cases b0 with
   |box cs own fz=>
    obtain ⟨arr,ty,e1,e2⟩:=this
    refine ⟨arr,ty,e1,by simpa using e2.1,fun i p u hp' hu=>?_⟩
    simp only [List.getElem?_map,Option.map_eq_some_iff] at hp'
    obtain ⟨y,hy,rfl⟩:=hp'
    exact hrep _ _ (e2.2 i y u hy hu)
   |row e' sz' ys fz=>
    obtain ⟨a1,a2,a3,a4,a5⟩:=this
    refine ⟨a1,a2,a3,a4,fun hn=>?_⟩
    obtain ⟨b1,b2,arr,b3,b4,b5⟩:=a5 hn
    exact ⟨b1,b2,arr,b3,b4,fun i x j p hx hj=>by obtain ⟨u,hu,hr⟩:=b5 i x j p hx hj;exact ⟨u,hu,hr.mono hp⟩⟩
   |mp kd n es fz=>exact this
 ·intro q q' b1 b2 hne hq hq' hl hl'
  have aux : ∀ {q b},rekey h [k] k (.row e sz (xs.take m) 0) q=some b→b.live (L q)→∃ b0,h q=some b0∧b0.live (L q):=by
   intro q b hq hl
   rcases ex hq with ⟨rfl,rfl⟩|⟨_,_,b0,h1,rfl⟩
   ·exact ⟨_,hk,hl⟩
   ·rw [lw] at hl;exact ⟨b0,h1,hl⟩
  obtain ⟨c1,d1,f1⟩:=aux hq hl
  obtain ⟨c2,d2,f2⟩:=aux hq' hl'
  exact hm.sep q q' c1 c2 hne d1 d2 f1 f2
 ·intro q ap hq
  rcases ex hq with ⟨rfl,rfl⟩|⟨_,_,b0,h1,rfl⟩
  ·have h9:=hm.own q _ hk;exact h9
  ·exact po (hm.own q b0 h1)
def sy (P : Program) (f : FuncId) (ps : List PV) (e1 sz1 : Nat) (xs xs' : List PV) (e2 sz2 : Nat) (ys : List PV) : Prop:=
 bT P f=true∧xs'.length=xs.length∧∀ (w : World) (M : Nat→Nat→Prop) (l1 l2 : Loc) (vs : List Value),(∀ b o,M b o→b < w.heap.size)→l1.isNil=false→(l2.isNil=false→l2.b≠l1.b)→
  (∀ o,M l1.b o)→(l2.isNil=false→∀ o,M l2.b o)→bb w M ps vs→dt w M (fun _=>default) (fun _=>none) l1 (.row e1 sz1 xs 0)→dt w M (fun _=>default) (fun _=>none) l2 (.row e2 sz2 ys 0)→
  Calls P f (vs++[l1.slice xs.length,l2.slice ys.length]).toArray w fun e w'=>(∃ v,e=.returned v)∧Ext (fun b=>b=l1.b∨(l2.isNil=false∧b=l2.b)) w w'∧
   dt w' (fun b o=>M b o∧¬ (l2.isNil=false∧b=l2.b)) (fun _=>default) (fun _=>none) l1 (.row e1 sz1 xs' 0)
theorem MemL.handStep (hm : MemL C L h w) {w' : World} {k1 k2 e1 sz1 e2 sz2 : Nat} {xs xs' ys : List PV} (h1 : h k1=some (.row e1 sz1 xs 0)) (h2 : h k2=some (.row e2 sz2 ys 0)) (hne : k1≠k2) (hn1 : (L k1).isNil=false) (hlen : xs'.length=xs.length)
 (hx : Ext (fun b=>b=(L k1).b∨((L k2).isNil=false∧b=(L k2).b)) w w')
 (hb : dt w' (fun b o=>ae C L h b o∧¬ ((L k2).isNil=false∧b=(L k2).b)) (fun _=>default) (fun _=>none) (L k1) (.row e1 sz1 xs' 0)) :
 MemL C L (rekey h [k2] k1 (.row e1 sz1 xs' 0)) w'∧∀ x u,RepA w (ae C L h) L h x u→RepA w' (ae C L (rekey h [k2] k1 (.row e1 sz1 xs' 0))) L (rekey h [k2] k1 (.row e1 sz1 xs' 0)) (bc [k2] x) u:=by
 have aux : ∀ {q b},rekey h [k2] k1 (.row e1 sz1 xs' 0) q=some b→q≠k2∧∃ b0,h q=some b0∧(b.live (L q)→b0.live (L q))∧(∀ o,¬ b.frz o→¬ b0.frz o):=by
  intro q b hq
  rcases ex hq with ⟨rfl,rfl⟩|⟨_,hn,b0,h9,rfl⟩
  ·exact ⟨hne,_,h1,id,fun _=>id⟩
  ·refine ⟨by simpa using hn,b0,h9,?_,?_⟩
   ·rw [lw];exact id
   ·intro o;rw [pn];exact id
 have hM : ∀ b o,ae C L (rekey h [k2] k1 (.row e1 sz1 xs' 0)) b o→ae C L h b o∧¬ ((L k2).isNil=false∧b=(L k2).b):=by
  rintro b o (h0|⟨q,ap,hq,hl,hbq,hf⟩)
  ·refine ⟨.inl h0,?_⟩
   rintro ⟨hn2,rfl⟩
   have:=hm.m0 _ _ h0
   rcases (hm.own k2 _ h2).row hn2 with h9|h9
   ·omega
   ·exact h9.2 _ h0
  ·obtain ⟨hq2,b0,h9,hl9,hf9⟩:=aux hq
   refine ⟨.inr ⟨q,b0,h9,hl9 hl,hbq,hf9 o hf⟩,?_⟩
   rintro ⟨hn2,hb2⟩
   exact hm.sep q k2 b0 _ hq2 h9 h2 (hl9 hl) hn2 (hbq.trans hb2)
 have hout : ∀ b o,¬ ae C L h b o→¬ (b=(L k1).b∨((L k2).isNil=false∧b=(L k2).b)):=by
  rintro b o hn (rfl|⟨hn2,rfl⟩)
  ·exact hn (.inr ⟨k1,_,h1,hn1,rfl,by simp [Blk.frz]⟩)
  ·exact hn (.inr ⟨k2,_,h2,hn2,rfl,by simp [Blk.frz]⟩)
 have hp : Pres w (ae C L h) w' (ae C L (rekey h [k2] k1 (.row e1 sz1 xs' 0))):=by
  refine Pres.ext hx (fun b _ hs o=>?_) fun b o _ h9=>(hM b o h9).1
  exact Classical.byContradiction fun hn=>hout b o hn hs
 have hkc : KC L (fun q=>if [k2].contains q=true then none else (h q).map (bO [k2])) L (rekey h [k2] k1 (.row e1 sz1 xs' 0)):=by
  intro q ap hq
  simp only at hq
  split at hq
  ·cases hq
  ·rename_i hc
   by_cases e : q=k1
   ·subst e
    rw [h1] at hq
    simp only [Option.map_some,bO,Option.some.injEq] at hq
    subst hq
    exact ⟨.row e1 sz1 xs' 0,by simp [rekey],rfl,rfl,by omega,fun _=>rfl⟩
   ·exact ⟨ap,by simp only [rekey,if_neg e,if_neg hc];exact hq,bH _ _⟩
 have hrep : ∀ x u,RepA w (ae C L h) L h x u→RepA w' (ae C L (rekey h [k2] k1 (.row e1 sz1 xs' 0))) L (rekey h [k2] k1 (.row e1 sz1 xs' 0)) (bc [k2] x) u:=
  fun x u hx9=>(nl (ks:=[k2]) hp hx9).mono (Pres.refl _ _) hkc
 refine ⟨⟨?_,hm.m0,?_,?_,?_⟩,hrep⟩
 ·refine hm.ext.trans hx (fun b hb0 hs=>?_)
  rcases hs with rfl|⟨hn2,rfl⟩
  ·rcases (hm.own k1 _ h1).row hn1 with h9|h9
   ·omega
   ·exact h9.1
  ·rcases (hm.own k2 _ h2).row hn2 with h9|h9
   ·omega
   ·exact h9.1
 ·intro q ap hq
  rcases ex hq with ⟨rfl,rfl⟩|⟨hq1,hq2,b0,h9,rfl⟩
  ·obtain ⟨g1,g2,g3,g4,g5⟩:=hb
   refine ⟨g1,g2,g3,g4,fun hn=>?_⟩
   obtain ⟨a1,a2,arr,a3,a4,a5⟩:=g5 hn
   exact ⟨a1,a2,arr,a3,a4,fun i x j p hx9 hj=>by obtain ⟨u,hu,hr⟩:=a5 i x j p hx9 hj;exact ⟨u,hu,hr.mono (Pres.sub hM)⟩⟩
  ·have hq2' : q≠k2:=by simpa using hq2
   have hsame : b0.live (L q)→w'.heap[(L q).b]?=w.heap[(L q).b]?:=by
    intro hl
    refine hx.block _ ((hm.bl q b0 h9).lt hl) ?_
    rintro (h10|⟨hn2,h10⟩)
    ·exact hm.sep q k1 b0 _ hq1 h9 h1 hl hn1 h10
    ·exact hm.sep q k2 b0 _ hq2' h9 h2 hl hn2 h10
   have:=hm.bl q b0 h9
   cases b0 with
   |box cs own fz=>
    obtain ⟨arr,ty,e1,e2⟩:=this
    refine ⟨arr,ty,(hsame trivial).trans e1,by simpa using e2.1,fun i p u hp' hu=>?_⟩
    simp only [List.getElem?_map,Option.map_eq_some_iff] at hp'
    obtain ⟨y,hy,rfl⟩:=hp'
    exact hrep _ _ (e2.2 i y u hy hu)
   |row e' sz' zs fz=>
    obtain ⟨a1,a2,a3,a4,a5⟩:=this
    refine ⟨a1,a2,a3,a4,fun hn=>?_⟩
    obtain ⟨b1,b2,arr,b3,b4,b5⟩:=a5 hn
    exact ⟨b1,b2,arr,(hsame hn).trans b3,b4,fun i x j p hx9 hj=>by obtain ⟨u,hu,hr⟩:=b5 i x j p hx9 hj;exact ⟨u,hu,hr.mono hp⟩⟩
   |mp kd n es fz=>obtain ⟨arr,c,e1,e2⟩:=this;exact ⟨arr,c,(hsame trivial).trans e1,e2⟩
 ·intro q q' b1 b2 hqq hq hq' hl hl'
  obtain ⟨_,c1,d1,f1,_⟩:=aux hq
  obtain ⟨_,c2,d2,f2,_⟩:=aux hq'
  exact hm.sep q q' c1 c2 hqq d1 d2 (f1 hl) (f2 hl')
 ·intro q ap hq
  rcases ex hq with ⟨rfl,rfl⟩|⟨_,_,b0,h9,rfl⟩
  ·have h10:=hm.own q _ h1;exact h10
  ·exact po (hm.own q b0 h9)
end
section
variable {C : Cx} {Q : Exit→St→Prop} {st : St}
theorem ow {ops : Array Oper} {a : Act} {o : Oper} (hg : o.guard=none) : Region.wanted o (yielded ops a.tmps)=true:=by
 unfold Region.wanted;rw [hg]
def xJ (C : Cx) (hn : List Nat) (ops : Array Oper) (Q : St→Prop) (t : TypeId) (x y : Operand) (d : Nat) (post : List Oper) (st : St) : Prop:=
 ∃ k e sz n m kk,st.ev x=.arr k n∧st.ev y=.pv (.val (.int kk (m : Nat)))∧(∃ xs,st.h k=some (.row e sz xs 0)∧xs.length=n∧n≠0∧m≤n∧(∃ ti e' b z,ag C.P t=some ti∧ti.kind=.slice e' sz b z)∧d < C.N∧
  cC C.P hn C.N ops Q post ((st.rekey [k] k (.row e sz (xs.take m) 0)).put (some d) (.arr k m) []))
theorem WP.trunc {hn : List Nat} {id : Nat} {ops : Array Oper} {pre post : List Oper} {o : Oper} {t : TypeId} {x y : Operand} {d : Nat} (hops : ops.toList=pre++o :: post) (hop : o.op=.slice t x none (some y) none) (hd : o.dst=some d) (hg : o.guard=none)
 (hq : cC C.P hn C.N ops (xJ C hn ops (Q .normal) t x y d post) pre st) : WP C (.region id ops false) Q st:=by
 intro a w hs
 refine wp_region_list ?_
 rw [hops]
 refine dQ (fun st1 a1 w1 hs1 hq1=>?_) hs hq
 obtain ⟨k,e,sz,n,m,kk,hxe,hye,xs,hk,hlen,hn0,hmn,⟨ti,e',b',z',hti,hkd⟩,hdN,hrest⟩:=hq1
 obtain ⟨L,hm,hN,hdf,ht⟩:=hs1
 refine wpList_step (fun K hK=>?_)
 rw [ow hg,if_pos rfl]
 have hxr:=dM ht x
 rw [hxe] at hxr
 have hxv : a1.eval x=(L k).slice n:=by
  cases hxr with
  |arr hk2 hn2 hu=>
   rw [hk] at hk2;injection hk2 with hk2;injection hk2 with _ _ a3 _
   subst a3;exact hu hlen
 have hyr:=dM ht y
 rw [hye] at hyr
 have hyv : a1.eval y=.int kk (m : Nat):=by
  cases hyr with
  |pv hr=>exact ao hr
 have hlive : (L k).isNil=false∧xs.length≤(L k).cap:=by
  rcases ga hm hk with ⟨_,h9⟩|⟨h9,h10,_⟩
  ·rw [h9] at hlen;simp at hlen;omega
  ·exact ⟨h9,h10⟩
 obtain ⟨hund,jt,hj,hjs,_,_⟩:=bo hti hkd
 have hxs : a1.eval x=.slice (some ⟨(L k).b,0,none⟩) n (L k).cap:=by rw [hxv];simp [Loc.slice,hlive.1]
 have hrun : (execOp a1.eval o).run C.P w1=.ok (.value (.slice (some ⟨(L k).b,0,none⟩) m (L k).cap)) w1:=by
  have hc0 : ¬ (L k).cap=0:=by omega
  have hmc : (0 : Int)≤(m : Int)∧(m : Int)≤((L k).cap : Int):=by omega
  have key : (Instr.sliceBounds true n (L k).cap none (some (.int kk (m : Nat))) none).run C.P w1=.ok (0,m,(L k).cap) w1:=by
   simp [Instr.sliceBounds,Instr.sliceBound,asIntOf,hmc]
   try (intro h9;omega)
  have h2 : (Instr.sliceAt t (a1.eval x) none (some (a1.eval y)) none).run C.P w1=.ok (.slice (some ⟨(L k).b,0,none⟩) m (L k).cap) w1:=by
   rw [hxs,hyv]
   simp only [Instr.sliceAt,Sem.run_bind,aI hund,Result.andThen_ok,Instr.slice,key,bV hj,Sem.run_pure]
   simp [hc0,Addr.add]
  unfold execOp
  rw [hop]
  simp [h2]
 unfold Oper.wp
 rw [hrun]
 refine hK _ _ ?_
 obtain ⟨hm2,hrep⟩:=hm.retake (m:=m) hk
 refine fD (fun st' a' w' hs' hq'=>⟨st',hs',hq'⟩) (st:=(st1.rekey [k] k (.row e sz (xs.take m) 0)).put (some d) (.arr k m) []) ?_ hrest
 refine ⟨L,hm2,?_,?_,fun n'=>?_⟩
 ·rw [hd];simp [Act.put,hN]
 ·rw [hd];exact hdf
 ·rw [hd,qZ (by rw [hN];exact hdN)]
  simp only [St.put,aj]
  split
  ·refine .arr (e:=e) (sz:=sz) (fz:=0) (xs:=xs.take m) (by simp [St.rekey,Go.Ab.rekey,ab]) (by rw [List.length_take];omega) (fun _=>?_)
   simp [Loc.slice,hlive.1]
  ·exact hrep _ _ (ht n')
def yq (C : Cx) (Q : St→Prop) (f x0 x1 x2 : Operand) (d : Nat) (st : St) : Prop:=
 ∃ g p W k1 k2 e1 sz1 e2 sz2,∃ xs xs' ys : List PV,aX (st.ev f)=some (g,[],[])∧frz st.h (st.ev x0)=some (p,W)∧st.ev x1=.arr k1 xs.length∧st.ev x2=.arr k2 ys.length∧
  ab st.h W k1=some (.row e1 sz1 xs 0)∧ab st.h W k2=some (.row e2 sz2 ys 0)∧k1≠k2∧xs≠[]∧sy C.P g [p] e1 sz1 xs xs' e2 sz2 ys∧
  d < C.N∧Q ((St.rekey ⟨st.t,ab st.h W⟩ [k2] k1 (.row e1 sz1 xs' 0)).put (some d) .undef [])
theorem WP.hand {hn : List Nat} {id : Nat} {ops : Array Oper} {pre : List Oper} {o : Oper} {f x0 x1 x2 : Operand} {ats : Array TypeId} {d : Nat} (hops : ops.toList=pre++[o]) (hop : o.op=.call { callee:=.value f,args:=#[x0,x1,x2],argTypes:=ats }) (hd : o.dst=some d) (hg : o.guard=none)
 (hq : cC C.P hn C.N ops (yq C (Q .normal) f x0 x1 x2 d) pre st) : WP C (.region id ops false) Q st:=by
 intro a w hs
 refine wp_region_list ?_
 rw [hops]
 refine dQ (fun st1 a1 w1 hs1 hq1=>?_) hs hq
 obtain ⟨g,p,W,k1,k2,e1,sz1,e2,sz2,xs,xs',ys,hce,hfz,hx1,hx2,hk1,hk2,hne,hnil,⟨hcall,hlen,hD⟩,hdN,hQ⟩:=hq1
 obtain ⟨L,hm,hN,hdf,ht⟩:=hs1
 refine wpList_step (fun K hK=>?_)
 rw [ow hg,if_pos rfl]
 obtain ⟨vs,us,hfv,hv1,hv2⟩:=e8 (dM ht f) hce
 have hvs:=hv1.nil_inv
 have hus:=hv2.nil_inv
 subst hvs;subst hus
 obtain ⟨a1',a2,_⟩:=gH hm (aF.refl _) (dM ht x0) hfz
 obtain ⟨hm1,hp1,hc1⟩:=a1'
 have val : ∀ {x : Operand} {k e sz : Nat} {zs : List PV},st1.ev x=.arr k zs.length→ab st1.h W k=some (.row e sz zs 0)→a1.eval x=(L k).slice zs.length:=by
  intro x k e sz zs hx hk
  have hr:=(dM ht x).mono hp1 hc1
  rw [hx] at hr
  cases hr with
  |arr hk2 hn2 hu=>
   rw [hk] at hk2;injection hk2 with hk2;injection hk2 with _ _ a3 _
   subst a3;exact hu rfl
 have hn1 : (L k1).isNil=false:=by
  rcases ga hm1 hk1 with ⟨_,h9⟩|⟨h9,_⟩
  ·exact absurd h9 hnil
  ·exact h9
 have hcalls:=hD w1 (ae C L (ab st1.h W)) (L k1) (L k2) [a1.eval x0] (fun b o h=>hm1.mlt h) hn1
  (fun hn2=>hm1.sep k2 k1 _ _ (fun e=>hne e.symm) hk2 hk1 hn2 hn1)
  (fun o=>.inr ⟨k1,_,hk1,hn1,rfl,by simp [Blk.frz]⟩) (fun hn2 o=>.inr ⟨k2,_,hk2,hn2,rfl,by simp [Blk.frz]⟩)
  (.cons a2 .nil) (hm1.bl k1 _ hk1) (hm1.bl k2 _ hk2)
 have hrun : (execOp a1.eval o).run C.P w1=.ok (.enter g ([a1.eval x0]++[(L k1).slice xs.length,(L k2).slice ys.length]).toArray) w1:=by
  unfold bT at hcall
  cases hfn : C.P.funcs[g]? with
  |none=>rw [hfn] at hcall;cases hcall
  |some fn=>
   rw [hfn] at hcall
   simp only [Bool.and_eq_true,Bool.not_eq_true',beq_eq_false_iff_ne,ne_eq] at hcall
   have hb : fn.body.isNone=false:=by cases hbb : fn.body<;>simp_all
   unfold execOp
   rw [hop]
   simp only [resolve,hfv,Deferred.ofValue,pure_bind,Sem.run_bind,Result.andThen_ok,invoke,callFunc,program,Sem.run,hfn]
   simp [hcall.2,hb,val hx1 hk1,val hx2 hk2]
 unfold Oper.wp
 rw [hrun]
 simp only [Oper.upon]
 refine hcalls.mono ?_
 rintro ee w' ⟨⟨v,rfl⟩,hx,hb⟩
 obtain ⟨hm2,hrep⟩:=hm1.handStep hk1 hk2 hne hn1 hlen hx hb
 refine hK _ _ ?_
 refine fD (hn:=hn) (l:=[]) (Q:=Q .normal) (fun st' a' w' hs' hq'=>⟨st',hs',hq'⟩) (st:=(St.rekey ⟨st1.t,ab st1.h W⟩ [k2] k1 (.row e1 sz1 xs' 0)).put (some d) .undef []) ?_ hQ
 refine ⟨L,hm2,?_,?_,fun n=>?_⟩
 ·rw [hd];simp [Act.put,hN]
 ·rw [hd];exact hdf
 ·rw [hd,qZ (by rw [hN];exact hdN)]
  simp only [St.put,aj]
  split
  ·exact .undef _
  ·exact hrep _ _ ((ht n).mono hp1 hc1)
def xL (C : Cx) (Q : St→Prop) (f x0 x1 x2 : Operand) (d : Nat) (st : St) : Prop:=
 ∃ g p W k1 k2 e1 sz1 e2 sz2,∃ xs xs' ys : List PV,aX (st.ev f)=some (g,[],[])∧frz st.h (st.ev x0)=some (p,W)∧st.ev x1=.arr k1 xs.length∧st.ev x2=.arr k2 ys.length∧
  ab st.h W k1=some (.row e1 sz1 xs 0)∧ab st.h W k2=some (.row e2 sz2 ys 0)∧st.h k1=some (.row e1 sz1 xs 0)∧st.h k2=some (.row e2 sz2 ys 0)∧xs'.all gi=true∧k1≠k2∧xs≠[]∧sy C.P g [p] e1 sz1 xs xs' e2 sz2 ys∧
  d < C.N∧Q ((St.rekey st [k2] k1 (.row e1 sz1 xs' 0)).put (some d) .undef [])
theorem WP.handL {hn : List Nat} {id : Nat} {ops : Array Oper} {pre : List Oper} {o : Oper} {f x0 x1 x2 : Operand} {ats : Array TypeId} {d : Nat} (hops : ops.toList=pre++[o]) (hop : o.op=.call { callee:=.value f,args:=#[x0,x1,x2],argTypes:=ats }) (hd : o.dst=some d) (hg : o.guard=none)
 (hq : cC C.P hn C.N ops (xL C (Q .normal) f x0 x1 x2 d) pre st) : WP C (.region id ops false) Q st:=by
 intro a w hs
 refine wp_region_list ?_
 rw [hops]
 refine dQ (fun st1 a1 w1 hs1 hq1=>?_) hs hq
 obtain ⟨g,p,W,k1,k2,e1,sz1,e2,sz2,xs,xs',ys,hce,hfz,hx1,hx2,hk1,hk2,hu1,hu2,hml,hne,hnil,⟨hcall,hlen,hD⟩,hdN,hQ⟩:=hq1
 obtain ⟨L,hm,hN,hdf,ht⟩:=hs1
 refine wpList_step (fun K hK=>?_)
 rw [ow hg,if_pos rfl]
 obtain ⟨vs,us,hfv,hv1,hv2⟩:=e8 (dM ht f) hce
 have hvs:=hv1.nil_inv
 have hus:=hv2.nil_inv
 subst hvs;subst hus
 obtain ⟨a1',a2,_⟩:=gH hm (aF.refl _) (dM ht x0) hfz
 obtain ⟨hm1,hp1,hc1⟩:=a1'
 have val : ∀ {x : Operand} {k e sz : Nat} {zs : List PV},st1.ev x=.arr k zs.length→ab st1.h W k=some (.row e sz zs 0)→a1.eval x=(L k).slice zs.length:=by
  intro x k e sz zs hx hk
  have hr:=(dM ht x).mono hp1 hc1
  rw [hx] at hr
  cases hr with
  |arr hk2 hn2 hu=>
   rw [hk] at hk2;injection hk2 with hk2;injection hk2 with _ _ a3 _
   subst a3;exact hu rfl
 have hn1 : (L k1).isNil=false:=by
  rcases ga hm1 hk1 with ⟨_,h9⟩|⟨h9,_⟩
  ·exact absurd h9 hnil
  ·exact h9
 have hcalls:=hD w1 (ae C L (ab st1.h W)) (L k1) (L k2) [a1.eval x0] (fun b o h=>hm1.mlt h) hn1
  (fun hn2=>hm1.sep k2 k1 _ _ (fun e=>hne e.symm) hk2 hk1 hn2 hn1)
  (fun o=>.inr ⟨k1,_,hk1,hn1,rfl,by simp [Blk.frz]⟩) (fun hn2 o=>.inr ⟨k2,_,hk2,hn2,rfl,by simp [Blk.frz]⟩)
  (.cons a2 .nil) (hm1.bl k1 _ hk1) (hm1.bl k2 _ hk2)
 have hrun : (execOp a1.eval o).run C.P w1=.ok (.enter g ([a1.eval x0]++[(L k1).slice xs.length,(L k2).slice ys.length]).toArray) w1:=by
  unfold bT at hcall
  cases hfn : C.P.funcs[g]? with
  |none=>rw [hfn] at hcall;cases hcall
  |some fn=>
   rw [hfn] at hcall
   simp only [Bool.and_eq_true,Bool.not_eq_true',beq_eq_false_iff_ne,ne_eq] at hcall
   have hb : fn.body.isNone=false:=by cases hbb : fn.body<;>simp_all
   unfold execOp
   rw [hop]
   simp only [resolve,hfv,Deferred.ofValue,pure_bind,Sem.run_bind,Result.andThen_ok,invoke,callFunc,program,Sem.run,hfn]
   simp [hcall.2,hb,val hx1 hk1,val hx2 hk2]
 unfold Oper.wp
 rw [hrun]
 simp only [Oper.upon]
 refine hcalls.mono ?_
 rintro ee w' ⟨⟨v,rfl⟩,hx,hb⟩
 obtain ⟨hm2,hrep⟩:=hm.handStep hu1 hu2 hne hn1 hlen hx (mJ hml hb)
 refine hK _ _ ?_
 refine fD (hn:=hn) (l:=[]) (Q:=Q .normal) (fun st' a' w' hs' hq'=>⟨st',hs',hq'⟩) (st:=(St.rekey st1 [k2] k1 (.row e1 sz1 xs' 0)).put (some d) .undef []) ?_ hQ
 refine ⟨L,hm2,?_,?_,fun n=>?_⟩
 ·rw [hd];simp [Act.put,hN]
 ·rw [hd];exact hdf
 ·rw [hd,qZ (by rw [hN];exact hdN)]
  simp only [St.put,aj]
  split
  ·exact .undef _
  ·exact hrep _ _ (ht n)
end
attribute [simp] St.rekey rekey
def qD (ps : List PV) (e1 sz1 : Nat) (xs : List PV) (e2 sz2 : Nat) (ys : List PV) : St:=
 ⟨fun n=>if n < ps.length then .pv (ps[n]?.getD default) else if n=ps.length then .arr 2000000 xs.length else if n=ps.length+1 then .arr 1500000 ys.length else .undef,
  fun k=>if k=2000000 then some (.row e1 sz1 xs 0) else if k=1500000 then some (.row e2 sz2 ys 0) else none⟩
def t9 (e1 sz1 : Nat) (xs' : List PV) : Exit→St→Prop
 |.normal,st=>st.h 2000000=some (.row e1 sz1 xs' 0)
 |.ret,st=>st.h 2000000=some (.row e1 sz1 xs' 0)
 |_,_=>False
@[simp] theorem yn {e1 sz1 : Nat} {xs' : List PV} {st : St} : t9 e1 sz1 xs' .normal st=(st.h 2000000=some (.row e1 sz1 xs' 0)):=rfl
@[simp] theorem zj {e1 sz1 : Nat} {xs' : List PV} {st : St} : t9 e1 sz1 xs' .ret st=(st.h 2000000=some (.row e1 sz1 xs' 0)):=rfl
theorem wI {P : Program} {f : FuncId} {fn : Func} {c : Code} (hf : P.funcs[f]?=some fn) (hb : fn.body=some c) (hcall : bT P f=true) (hres : fn.results=#[]) {ps : List PV} {e1 sz1 e2 sz2 : Nat} {xs xs' ys : List PV} (hlen : ps.length+2≤fn.ntmps) (hl : xs'.length=xs.length)
 (h : ∀ C : Cx,C.P=P→C.N=fn.ntmps→WP C c (t9 e1 sz1 xs') (qD ps e1 sz1 xs e2 sz2 ys)) : sy P f ps e1 sz1 xs xs' e2 sz2 ys:=by
 refine ⟨hcall,hl,fun w M l1 l2 vs hM hn1 hsep hM1 hM2 hvs hb1 hb2=>?_⟩
 let C : Cx:={ P:=P,N:=fn.ntmps,M0:=fun b o=>M b o∧¬ (b=l1.b∨(l2.isNil=false∧b=l2.b)),S:=fun b=>b=l1.b∨(l2.isNil=false∧b=l2.b),pb:=fun _=>none,pr:=fun k=>if k=2000000 then some l1 else none,hpr:=(fun k hk=>by rw [if_neg (by omega)]),w0:=w }
 let L : Nat→Loc:=fun k=>if k=2000000 then l1 else l2
 have hL1 : L 2000000=l1:=rfl
 have hL2 : L 1500000=l2:=rfl
 have hkey : ∀ k ap,(qD ps e1 sz1 xs e2 sz2 ys).h k=some ap→(k=2000000∧ap=.row e1 sz1 xs 0)∨(k=1500000∧ap=.row e2 sz2 ys 0):=by
  intro k ap hk
  simp only [qD] at hk
  split at hk
  ·rename_i e;injection hk with hk;exact .inl ⟨e,hk.symm⟩
  ·split at hk
   ·rename_i e;injection hk with hk;exact .inr ⟨e,hk.symm⟩
   ·cases hk
 have hMst : ∀ b o,ae C L (qD ps e1 sz1 xs e2 sz2 ys).h b o↔M b o:=by
  intro b o
  constructor
  ·rintro (h0|⟨k,ap,hk,hlv,hbb,hf⟩)
   ·exact h0.1
   ·rcases hkey k ap hk with ⟨rfl,rfl⟩|⟨rfl,rfl⟩
    ·rw [← hbb];exact hM1 o
    ·rw [← hbb];exact hM2 hlv o
  ·intro hm
   by_cases h1 : b=l1.b
   ·exact .inr ⟨2000000,.row e1 sz1 xs 0,rfl,hn1,h1.symm,by simp [Blk.frz]⟩
   ·by_cases h2 : l2.isNil=false∧b=l2.b
    ·exact .inr ⟨1500000,.row e2 sz2 ys 0,rfl,h2.1,h2.2.symm,by simp [Blk.frz]⟩
    ·exact .inl ⟨hm,by rintro (h3|h3);exact h1 h3;exact h2 h3⟩
 have hMeq : ae C L (qD ps e1 sz1 xs e2 sz2 ys).h=M:=by funext b o;exact propext (hMst b o)
 have hvl:=hvs.1
 have hsim : cx C (qD ps e1 sz1 xs e2 sz2 ys) { tmps:=(vs++[l1.slice xs.length,l2.slice ys.length]).toArray++Array.replicate (fn.ntmps - (vs++[l1.slice xs.length,l2.slice ys.length]).toArray.size) undef,defers:=[] } w:=by
  refine ⟨L,⟨Ext.refl _ _,fun b o h0=>hM b o h0.1,?_,?_,?_⟩,?_,eW.nil _,fun n=>?_⟩
  ·intro k ap hk
   rw [hMeq]
   rcases hkey k ap hk with ⟨rfl,rfl⟩|⟨rfl,rfl⟩
   ·exact hb1
   ·exact hb2
  ·intro k k' b1 b2 hne hk hk' hl1 hl2
   rcases hkey k b1 hk with ⟨rfl,rfl⟩|⟨rfl,rfl⟩<;>rcases hkey k' b2 hk' with ⟨rfl,rfl⟩|⟨rfl,rfl⟩
   ·exact absurd rfl hne
   ·exact fun e=>hsep hl2 e.symm
   ·exact fun e=>hsep hl1 e
   ·exact absurd rfl hne
  ·intro k ap hk
   rcases hkey k ap hk with ⟨rfl,rfl⟩|⟨rfl,rfl⟩
   ·show co C 2000000 l1 _
    exact ⟨rfl,fun _=>⟨.inl rfl,fun o h9=>h9.2 (.inl rfl)⟩⟩
   ·show co C 1500000 l2 _
    exact fun hn2=>.inr ⟨.inr ⟨hn2,rfl⟩,fun o h9=>h9.2 (.inr ⟨hn2,rfl⟩)⟩
  ·show ((vs++[l1.slice xs.length,l2.slice ys.length]).toArray++Array.replicate (fn.ntmps - (vs++[l1.slice xs.length,l2.slice ys.length]).toArray.size) undef).size=fn.ntmps
   simp;omega
  ·rw [hMeq]
   have hget : ∀ v,(vs++[l1.slice xs.length,l2.slice ys.length])[n]?=some v→((vs++[l1.slice xs.length,l2.slice ys.length]).toArray++Array.replicate (fn.ntmps - (vs++[l1.slice xs.length,l2.slice ys.length]).toArray.size) undef).getD n undef=v:=by
    intro v hv
    rw [Array.getD_eq_getD_getElem?,Array.getElem?_append_left (by have:=(List.getElem?_eq_some_iff.1 hv).1;simpa using this),List.getElem?_toArray,hv];rfl
   by_cases c1 : n < ps.length
   ·have hv : vs[n]?=some (vs[n]'(by omega)):=List.getElem?_eq_getElem _
    rw [hget _ (by rw [List.getElem?_append_left (by omega)];exact hv)]
    show RepA w M L _ (if n < ps.length then _ else _) _
    rw [if_pos c1,List.getElem?_eq_getElem c1]
    exact .pv (hvs.2 n _ _ (List.getElem?_eq_getElem c1) hv)
   ·by_cases c2 : n=ps.length
    ·rw [hget (l1.slice xs.length) (by rw [List.getElem?_append_right (by omega),show n - vs.length=0 by omega];rfl)]
     show RepA w M L _ (if n < ps.length then _ else if n=ps.length then _ else _) _
     rw [if_neg c1,if_pos c2]
     exact .arr (e:=e1) (sz:=sz1) (fz:=0) (xs:=xs) rfl (Nat.le_refl _) (fun _=>rfl)
    ·by_cases c3 : n=ps.length+1
     ·rw [hget (l2.slice ys.length) (by rw [List.getElem?_append_right (by omega),show n - vs.length=1 by omega];rfl)]
      show RepA w M L _ (if n < ps.length then _ else if n=ps.length then _ else if n=ps.length+1 then _ else _) _
      rw [if_neg c1,if_neg c2,if_pos c3]
      exact .arr (e:=e2) (sz:=sz2) (fz:=0) (xs:=ys) rfl (Nat.le_refl _) (fun _=>rfl)
     ·show RepA w M L _ (if n < ps.length then _ else if n=ps.length then _ else if n=ps.length+1 then _ else _) _
      rw [if_neg c1,if_neg c2,if_neg c3]
      exact .undef _
 refine calls_of_wp_defers hf hb (wp_mono (h C rfl rfl _ w hsim) ?_)
 have hfin : ∀ (a' : Act) w' st',cx C st' a' w'→st'.h 2000000=some (.row e1 sz1 xs' 0)→eW P a'.defers∧∃ v,(results fn a'.tmps).run P w'=.ok v w'∧
  ((∃ v',Ending.returned v=.returned v')∧Ext (fun b=>b=l1.b∨(l2.isNil=false∧b=l2.b)) w w'∧dt w' (fun b o=>M b o∧¬ (l2.isNil=false∧b=l2.b)) (fun _=>default) (fun _=>none) l1 (.row e1 sz1 xs' 0)):=by
  rintro a' w' st' ⟨L',hm,hN,hdf,ht⟩ hk
  have hLe : L' 2000000=l1:=by
   have:=hm.own _ _ hk
   simp only [co] at this
   exact this.1
  have hbl:=hm.bl _ _ hk
  rw [hLe] at hbl
  refine ⟨hdf,.tuple #[],?_,⟨_,rfl⟩,hm.ext,?_⟩
  ·unfold results
   rw [hres]
   simp [go_sem]
  ·obtain ⟨g1,g2,g3,g4,g5⟩:=hbl
   refine ⟨g1,g2,g3,g4,fun hn=>?_⟩
   obtain ⟨a1,a2,arr,a3,a4,a5⟩:=g5 hn
   refine ⟨a1,a2,arr,a3,a4,fun i x j p hx hj=>?_⟩
   obtain ⟨u,hu,hr⟩:=a5 i x j p hx hj
   refine ⟨u,hu,hr.mono (Pres.sub ?_)⟩
   rintro b o ⟨h9,h10⟩
   by_cases hb9 : b=l1.b
   ·exact .inr ⟨2000000,_,hk,by show (L' 2000000).isNil=false;rw [hLe];exact hn1,by rw [hLe];exact hb9.symm,by simp [Blk.frz]⟩
   ·exact .inl ⟨h9,by rintro (h3|h3);exact hb9 h3;exact h10 h3⟩
 rintro e a' w' ⟨st',hs',hq⟩
 cases e with
 |normal=>obtain ⟨h1,v,h2,h3⟩:=hfin a' w' st' hs' hq;exact gr h1 h2 h3
 |ret=>obtain ⟨h1,v,h2,h3⟩:=hfin a' w' st' hs' hq;exact gr h1 h2 h3
 |exit=>exact hq.elim
 |goto=>exact hq.elim
 |panic=>exact hq.elim
 |outgrown=>exact hq.elim
end Go.Ab
namespace Go.Ab
open Go.Proofs
theorem vF (c : Cel) : am Try.prog 45 [.pv (bf c)] [] [] (.pv (B (aT c))):=by
 refine Dp Try.func45 ?_
 intro C hP hN
 simp only [Try.f45] at hN ⊢
 with_reducible repeat' (first|refine Sp.h ?_|((first|refine Ss.h ?_|(refine Sb.h ?_ ?_ ?_<;>(try intro hgd)<;>try exact Xy))<;>simp -implicitDefEqProofs (maxSteps:=2000000) [hP,hN])|refine X2 ?_ ?_|(refine Xd ?_ ?_<;>intro hcd<;>try exact Xx))
 all_goals (simp_all [aT])
theorem tg (c : Cel) : am Try.prog 30 [.pv (bf c)] [] [] (.pv (B (di c))):=by
 have cl:=vF c
 refine Dp Try.func30 ?_
 intro C hP hN
 simp only [Try.f30] at hN ⊢
 with_reducible repeat' (first|refine Sp.h ?_|((first|refine Ss.h ?_|refine Sc.h (cl) ?_|(refine Sb.h ?_ ?_ ?_<;>(try intro hgd)<;>try exact Xy))<;>simp -implicitDefEqProofs (maxSteps:=2000000) [hP,hN])|refine X2 ?_ ?_|(refine Xd ?_ ?_<;>intro hcd<;>try exact Xx))
 all_goals (simp_all [di])
set_option maxRecDepth 10000 in
theorem vQ (t : Tr) (hv : av t=true) : am Try.prog 44 [.pv (bR t)] [] [] (.pv (.sl ((aw t).map iv))):=by
 have hs:=bn hv
 obtain ⟨z1,z2,z3,z4,z5⟩:=aS.1 hs
 have hl : t.cells.length≤9223372036854775807:=by omega
 have hin:=m6 z1
 refine Dp Try.func44 ?_
 intro C hP hN
 simp only [Try.f44] at hN ⊢
 with_reducible repeat' (first|refine Sp.h ?_|((first|refine Wd ?_|refine Ss.h ?_|(refine Sb.h ?_ ?_ ?_<;>(try intro hgd)<;>try exact Xy))<;>simp -implicitDefEqProofs (maxSteps:=2000000) [hP,hN,hin,show (24 : Int) * t.cells.length≤281474976710656 by omega,show (t.cells.length : Int)≤9223372036854775807 by omega,show 0 < t.cells.length by omega]<;>try refine Ya ?_)|refine X2 ?_ ?_|(refine Xd ?_ ?_<;>intro hcd<;>try exact Xx))
 refine WP.loopN [5] t.cells.length (fun i st=>∃ L,BInv t i L∧st.t 3=.arr 9 t.cells.length∧st.t 15=.pv (.sl (t.cells.map bf))∧st.t 16=.pv (Z t.cells.length)∧st.t 17=.pv (Z i)∧st.h 5=none∧st.h 9=some (.row 23 1 (L.map iN) 0)) (by exact ⟨cK t,mf hs,by simp [hin]⟩) ?_
 rintro i st hi ⟨L,hB,g3,g15,g16,g17,hb5,hb9⟩
 have hLl:=hB.bok.len
 by_cases hlt : i < t.cells.length
 ·have hw:=ak hlt hl
  have hlL : i < L.length:=by omega
  generalize hc : t.cells[i]=c at *
  have hci : t.cells[i]?=some c:=by rw [List.getElem?_eq_getElem hlt,hc]
  have cl:=vF c
  cases hst : cB t.cells.length i c L with
  |none=>
   have:=mg hB hlt (by rw [hc];exact hst)
   rw [av,this] at hv;cases hv
  |some L'=>
   have hnx:=ij hB hlt (by rw [hc];exact hst)
   obtain ⟨b,hx,⟨hlf,_,rfl⟩|⟨hlf,hi',hh,ha,hz,rfl⟩⟩:=cd hst
   ·rw [hlf] at cl
    with_reducible repeat' (first|refine Sp.h ?_|((first|refine Wd ?_|refine Ss.h ?_|refine Sc.h (cl) ?_|(refine Sb.h ?_ ?_ ?_<;>(try intro hgd)<;>try exact Xy))<;>simp -implicitDefEqProofs (maxSteps:=2000000) [hP,hN,g3,g15,g16,g17,hb5,hb9,hlt,hw,hci,hc,hLl]<;>try refine Ya ?_)|refine X2 ?_ ?_|(refine Xd ?_ ?_<;>intro hcd<;>try exact Xx))
    all_goals exact ⟨L',hnx,rfl⟩
   ·rw [hlf] at cl
    have hx':=aP hx hlL
    obtain ⟨i1,i2,i3,i4,i5,i6⟩:=bB.1 hi'
    obtain ⟨hbl,hbv⟩:=hB.bok.ok i b hx
    have ch:=vl b c.joint (by omega)
    have k1 : c.low.toNat < t.cells.length:=by omega
    have k2 : c.high.toNat < t.cells.length:=by omega
    have k3 : 0≤c.low:=by omega
    have k4 : 0≤c.high:=by omega
    with_reducible repeat' (first|refine Sp.h ?_|((first|refine Wd ?_|refine Ss.h ?_|refine Sc.h (cl) ?_|refine Sc.h (ch) ?_|(refine Sb.h ?_ ?_ ?_<;>(try intro hgd)<;>try exact Xy))<;>simp -implicitDefEqProofs (maxSteps:=2000000) [hP,hN,g3,g15,g16,g17,hb5,hb9,hlt,hw,hx,hx',bu,bz,hci,hc,hLl,k1,k2,k3,k4]<;>try refine Ya ?_)|refine X2 ?_ ?_|(refine Xd ?_ ?_<;>intro hcd<;>try exact Xx))
    all_goals exact ⟨_,hnx,set_row⟩
 ·have hdn:=mh hB hlt
  have hmap:=m7 hdn
  rw [← hmap]
  with_reducible repeat' (first|refine Sp.h ?_|((first|refine Wd ?_|refine Ss.h ?_|(refine Sb.h ?_ ?_ ?_<;>(try intro hgd)<;>try exact Xy))<;>simp -implicitDefEqProofs (maxSteps:=2000000) [hP,hN,g3,g15,g16,g17,hb5,hb9,hlt,hLl]<;>try refine Ya ?_)|refine X2 ?_ ?_|(refine Xd ?_ ?_<;>intro hcd<;>try exact Xx))
abbrev eh (bs : List Bx) (op : List Bool) : PV:=.agg [.sl (bs.map iv),.sl (op.map B)]
def jv (t : Tr) (i : Nat) : List Bool:=(t.cells.map aH).take i++List.replicate (t.cells.length - i) false
theorem r7 {t : Tr} {i : Nat} (h : i≤t.cells.length) : (jv t i).length=t.cells.length:=by simp [jv];omega
theorem q9 (t : Tr) : jv t 0=List.replicate t.cells.length false:=by simp [jv]
theorem r8 (t : Tr) : jv t t.cells.length=t.cells.map aH:=by rw [jv,List.take_of_length_le (by simp)];simp
theorem ra {t : Tr} {i : Nat} {c : Cel} (hlt : i < t.cells.length) (hci : t.cells[i]?=some c) : (jv t i).set i (aH c)=jv t (i+1):=by
 obtain ⟨m,hm⟩ : ∃ m,t.cells.length - i=m+1:=⟨t.cells.length - i - 1,by omega⟩
 have hm' : t.cells.length - (i+1)=m:=by omega
 have hl : ((t.cells.map aH).take i).length=i:=by simp;omega
 obtain ⟨_,e⟩:=List.getElem?_eq_some_iff.1 hci
 unfold jv
 rw [hm,hm',List.replicate_succ,List.set_append_right _ _ (by rw [hl];exact Nat.le_refl _),hl,Nat.sub_self,List.set_cons_zero,List.take_succ_eq_append_getElem (by simpa using hlt)]
 simp [e]
set_option maxRecDepth 10000 in
theorem qE (t : Tr) (hv : av t=true) : am Try.prog 20 [.pv (bR t)] [] [] (.pv (eh (aw t) (t.cells.map aH))):=by
 have hs:=bn hv
 obtain ⟨z1,z2,z3,z4,z5⟩:=aS.1 hs
 have cb:=vQ t hv
 refine Dp Try.func20 ?_
 intro C hP hN
 simp only [Try.f20] at hN ⊢
 with_reducible repeat' (first|refine Sp.h ?_|((first|refine Wd ?_|refine Ss.h ?_|refine Sc.h (cb) ?_|(refine Sb.h ?_ ?_ ?_<;>(try intro hgd)<;>try exact Xy))<;>simp -implicitDefEqProofs (maxSteps:=2000000) [hP,hN,show (1 : Int) * t.cells.length≤281474976710656 by omega,show (t.cells.length : Int)≤281474976710656 by omega,show (t.cells.length : Int)≤9223372036854775807 by omega,show 0 < t.cells.length by omega]<;>try refine Ya ?_)|refine X2 ?_ ?_|(refine Xd ?_ ?_<;>intro hcd<;>try exact Xx))
 refine WP.loopN [5] t.cells.length (fun i st=>st.t 2=.ptr 2 0∧st.t 3=.ptr 3 0∧st.t 14=.pv (.sl (t.cells.map bf))∧st.t 15=.pv (Z t.cells.length)∧st.t 16=.pv (Z i)∧st.h 5=none∧st.h 3=some (.box [.pv (.sl ((aw t).map iv)),.arr 11 t.cells.length] true false)∧st.h 2=some (.box [.pv (.val (.slice none 0 0)),.pv (.val (.slice none 0 0))] true false)∧st.h 11=some (.row 4 1 ((jv t i).map B) 0)) (by simp [q9]) ?_
 rintro i st hi ⟨g2,g3,g14,g15,g16,hb5,hb3,hb2,hb11⟩
 have hUl:=r7 hi
 by_cases hlt : i < t.cells.length
 ·have hw:=ak hlt (by omega)
  generalize hc : t.cells[i]=c at *
  have hci : t.cells[i]?=some c:=by rw [List.getElem?_eq_getElem hlt,hc]
  have cl:=vF c
  have cc:=tg c
  have hst:=ra hlt hci
  have hop : aH c=(aT c && !(di c)):=rfl
  generalize jv t i=U at *
  generalize jv t (i+1)=U' at *
  have hiU : i < U.length:=by omega
  cases hlf : aT c with
  |false=>
   rw [hlf] at cl
   rw [hlf,Bool.false_and] at hop
   rw [hop] at hst
   with_reducible repeat' (first|refine Sp.h ?_|((first|refine Wd ?_|refine Ss.h ?_|refine Sc.h (cl) ?_|(refine Sb.h ?_ ?_ ?_<;>(try intro hgd)<;>try exact Xy))<;>simp -implicitDefEqProofs (maxSteps:=2000000) [hP,hN,g2,g3,g14,g15,g16,hb5,hb3,hb2,hb11,hlt,hw,hci,hc,hUl,hiU]<;>try refine Ya ?_)|refine X2 ?_ ?_|(refine Xd ?_ ?_<;>intro hcd<;>try exact Xx))
   all_goals simp [← hst,List.map_set]
  |true=>
   rw [hlf] at cl
   rw [hlf,Bool.true_and] at hop
   rw [hop] at hst
   generalize di c=cb9 at *
   with_reducible repeat' (first|refine Sp.h ?_|((first|refine Wd ?_|refine Ss.h ?_|refine Sc.h (cl) ?_|refine Sc.h (cc) ?_|(refine Sb.h ?_ ?_ ?_<;>(try intro hgd)<;>try exact Xy))<;>simp -implicitDefEqProofs (maxSteps:=2000000) [hP,hN,g2,g3,g14,g15,g16,hb5,hb3,hb2,hb11,hlt,hw,hci,hc,hUl,hiU]<;>try refine Ya ?_)|refine X2 ?_ ?_|(refine Xd ?_ ?_<;>intro hcd<;>try exact Xx))
   all_goals simp [← hst,List.map_set]
 ·have hi' : i=t.cells.length:=by omega
  subst hi'
  rw [r8] at hb11
  with_reducible repeat' (first|refine Sp.h ?_|((first|refine Wd ?_|refine Ss.h ?_|(refine Sb.h ?_ ?_ ?_<;>(try intro hgd)<;>try exact Xy))<;>simp -implicitDefEqProofs (maxSteps:=2000000) [hP,hN,g2,g3,g14,g15,g16,hb5,hb3,hb2,hb11,hlt]<;>try refine Ya ?_)|refine X2 ?_ ?_|(refine Xd ?_ ?_<;>intro hcd<;>try exact Xx))
end Go.Ab
namespace Go.Ab
open Go.Proofs
def cH (bs : List Bx) (i : Nat) : Bx:=bs[i]?.getD []
def a9 (op : List Bool) (i : Nat) : Bool:=op[i]?.getD false
def gL (bs : List Bx) (i j : Nat) : Bool:=bG (cH bs i) (cH bs j)
theorem gU {op : List Bool} {i : Nat} (h : i < op.length) : op[i]?=some (a9 op i):=by simp [a9,List.getElem?_eq_getElem h]
theorem jn {bs : List Bx} {i : Nat} (h : i < bs.length) : bs[i]?=some (cH bs i):=by simp [cH,List.getElem?_eq_getElem h]
theorem n9 {U : List Bool} {j : Nat} (h : j < U.length) : cG U j∨U[j]?=some false:=by
 unfold cG
 rw [List.getElem?_eq_getElem h]
 cases U[j]<;>simp
set_option maxRecDepth 10000 in
theorem wG (bs : List Bx) (op : List Bool) (S : Nat→Prop) (U V : List Bool) (F : List Nat) (hb : bs.length=op.length) (hn : op.length≤2048) (hbx : ∀ b ∈ bs,b.length≤9223372036854775807) (hF : F.length≤4096)
 (hI : FI op.length (a9 op) (gL bs) S U F) (hV : IsR op.length (a9 op) (gL bs) S V) : sy Try.prog 47 [eh bs op] 4 1 (U.map B) (V.map B) 3 1 (F.map zN):=by
 have hUl:=hI.len
 refine wI Try.func47 rfl (by kernel_rfl) rfl (by simp [Try.f47]) (by simp [hUl,hV.len]) ?_
 intro C hP hN
 simp only [Try.f47] at hN ⊢
 obtain ⟨n,hnn⟩ : ∃ n,op.length=n:=⟨_,rfl⟩
 rw [hnn] at hI hV hn hb hUl
 have hUm:=nY U
 have hUm2 : iZ U≤2048:=by omega
 have hTI : ∃ ti e' b z,ag Try.prog 22=some ti∧ti.kind=TK.slice e' 1 b z:=by refine ⟨_,_,_,_,xe,rfl⟩
 with_reducible repeat' (first|refine Sp.h ?_|((first|refine Wd ?_|refine Ss.h ?_|(refine Sb.h ?_ ?_ ?_<;>(try intro hgd)<;>try exact Xy))<;>simp -implicitDefEqProofs (maxSteps:=2000000) [hP,hN,hnn,qD]<;>try refine Ya ?_)|refine X2 ?_ ?_|(refine Xd ?_ ?_<;>intro hcd<;>try exact Xx))
 refine WP.loopN [] (F.length+iZ U) (fun i st=>∃ U' F',FI n (a9 op) (gL bs) S U' F'∧i+F'.length+iZ U'=F.length+iZ U∧st.t 1=.arr 2000000 n∧st.t 2=.arr 1500000 F'.length∧st.t 3=.ptr 3 0∧st.h 3=some (.box [.pv (.sl (bs.map iv)),.pv (.sl (op.map B))] true false)∧st.h 2000000=some (.row 4 1 (U'.map B) 0)∧st.h 1500000=some (.row 3 1 (F'.map zN) 0)) (by exact ⟨U,F,hI,by omega,by simp [hUl]⟩) ?_
 clear hI hUl
 rintro i st hi ⟨U',F',hI,hcnt,g1,g2,g3,hb3,hbU,hbF⟩
 have hUl:=hI.len
 by_cases hF0 : F'=[]
 ·subst hF0
  have hUV : U'=V:=lz hI.fin hV
  subst hUV
  with_reducible repeat' (first|refine Sp.h ?_|((first|refine Wd ?_|refine Ss.h ?_|(refine Sb.h ?_ ?_ ?_<;>(try intro hgd)<;>try exact Xy))<;>simp -implicitDefEqProofs (maxSteps:=2000000) [hP,hN,g1,g2,g3,hb3,hbU,hbF]<;>try refine Ya ?_)|refine X2 ?_ ?_|(refine Xd ?_ ?_<;>intro hcd<;>try exact Xx))
 have hpos:=List.length_pos_iff.2 hF0
 have hposI : (0 : Int) < F'.length:=by omega
 have hF1 : F'.length - 1 < F'.length:=by omega
 obtain ⟨x,hx⟩ : ∃ x,F'[F'.length - 1]?=some x:=⟨_,List.getElem?_eq_getElem hF1⟩
 have hx':=aP hx hF1
 have hxm:=hI.mem x (List.mem_of_getElem? hx)
 have hxn:=qR hUl hxm
 have hw1 : IntKind.i64.wrap ((F'.length : Int) - 1)=((F'.length - 1 : Nat) : Int):=by rw [show (F'.length : Int) - 1=((F'.length - 1 : Nat) : Int) by omega];exact bP (by omega) (by omega)
 have hpop : FJ n (a9 op) (gL bs) S U' (F'.take (F'.length - 1)) x 0:=hI.pop (List.mem_of_getElem? hx) (fun m hm=>by
  have e : F'=F'.take (F'.length - 1)++[x]:=by
   rw [← hx',← List.take_succ_eq_append_getElem hF1,show F'.length - 1+1=F'.length by omega,List.take_length]
  rw [e] at hm
  rcases List.mem_append.1 hm with h|h
  ·exact .inl h
  ·exact .inr (by simpa using h)) (fun m hm=>List.mem_of_mem_take hm)
 with_reducible repeat' (first|refine Sp.h ?_|((refine WP.trunc (hn:=[]) (pre:=[_,_,_,_]) (post:=[_]) rfl rfl rfl rfl ?_);simp -implicitDefEqProofs (maxSteps:=2000000) [hP,hN,g1,g2,g3,hb3,hbU,hbF,hpos,hposI,hF1,hx,hx',hw1])|((first|refine Wd ?_|refine Ss.h ?_|(refine Sb.h ?_ ?_ ?_<;>(try intro hgd)<;>try exact Xy))<;>simp -implicitDefEqProofs (maxSteps:=2000000) [hP,hN,g1,g2,g3,hb3,hbU,hbF,hpos,hposI,hF1,hx,hx',hw1]<;>try refine Ya ?_)|refine X2 ?_ ?_|(refine Xd ?_ ?_<;>intro hcd<;>try exact Xx))
 refine ⟨1500000,3,1,F'.length,F'.length - 1,.i64,by simp [g2],by simp,F'.map zN,by simp [hbF],by simp,by omega,by omega,by rw [hP];exact hTI,by rw [hN];decide,?_⟩
 simp -implicitDefEqProofs (maxSteps:=2000000) [hP,hN,g1,g2,g3,hb3,hbU,hbF]
 with_reducible repeat' (first|refine Sp.h ?_|((first|refine Wd ?_|refine Ss.h ?_|(refine Sb.h ?_ ?_ ?_<;>(try intro hgd)<;>try exact Xy))<;>simp -implicitDefEqProofs (maxSteps:=2000000) [hP,hN,g1,g2,g3,hb3,hbU,hbF,hnn]<;>try refine Ya ?_)|refine X2 ?_ ?_|(refine Xd ?_ ?_<;>intro hcd<;>try exact Xx))
 refine WP.loopN [] n (fun j st=>∃ U2 F2,FJ n (a9 op) (gL bs) S U2 F2 x j∧i+1+F2.length+iZ U2=F.length+iZ U∧st.t 1=.arr 2000000 n∧st.t 2=.arr 1500000 F2.length∧st.t 3=.ptr 3 0∧st.t 6=.pv (Z x)∧st.t 24=.pv (.sl (op.map B))∧st.t 25=.pv (Z n)∧st.t 26=.pv (Z j)∧st.h 3=some (.box [.pv (.sl (bs.map iv)),.pv (.sl (op.map B))] true false)∧st.h 2000000=some (.row 4 1 (U2.map B) 0)∧st.h 1500000=some (.row 3 1 (F2.map zN) 0)) (by refine ⟨U',F'.take (F'.length - 1),hpop,by rw [List.length_take];omega,?_⟩;simp [g1,g2,g3,hb3,hbU,hbF,hx',List.map_take];try omega) ?_
 clear g1 g2 g3 hb3 hbU hbF hpop
 rintro j st' hj ⟨U2,F2,hJ,hcnt2,y1,y2,y3,y6,y24,y25,y26,yb3,ybU,ybF⟩
 have hU2:=hJ.len
 have hU2m:=nY U2
 by_cases hlt : j < n
 ·have hw:=ak hlt (by omega)
  have hjo : j < op.length:=by omega
  have hop:=gU hjo
  have hop':=aP hop hjo
  have hjU : j < U2.length:=by omega
  have hjb : j < bs.length:=by omega
  have hxb : x < bs.length:=by omega
  have hbj:=jn hjb
  have hbx1:=jn hxb
  have hbj':=aP hbj hjb
  have hbx':=aP hbx1 hxb
  have ct:=vm (cH bs x) (cH bs j) (hbx _ (List.mem_of_getElem? hbx1))
  have ht9 : gL bs x j=bG (cH bs x) (cH bs j):=rfl
  have hskip:=hJ.skip
  have hadd:=hJ.add hlt
  rw [ht9] at hskip hadd
  cases ho : a9 op j with
  |false=>
   rw [ho] at hop hop' hskip
   have hs:=hskip (by simp)
   with_reducible repeat' (first|refine Sp.h ?_|((first|refine Wd ?_|refine Ss.h ?_|(refine Sb.h ?_ ?_ ?_<;>(try intro hgd)<;>try exact Xy))<;>simp -implicitDefEqProofs (maxSteps:=2000000) [hP,hN,y1,y2,y3,y6,y24,y25,y26,yb3,ybU,ybF,hlt,hw,hnn,hop,hop',hjo]<;>try refine Ya ?_)|refine X2 ?_ ?_|(refine Xd ?_ ?_<;>intro hcd<;>try exact Xx))
   all_goals exact ⟨U2,F2,hs,hcnt2,rfl,rfl,rfl⟩
  |true=>
  rw [ho] at hop hop' hskip hadd
  rcases n9 hjU with hm|hm
  ·have hs:=hskip (fun _ _=>hm)
   unfold cG at hm
   have hm':=aP hm hjU
   with_reducible repeat' (first|refine Sp.h ?_|((first|refine Wd ?_|refine Ss.h ?_|(refine Sb.h ?_ ?_ ?_<;>(try intro hgd)<;>try exact Xy))<;>simp -implicitDefEqProofs (maxSteps:=2000000) [hP,hN,y1,y2,y3,y6,y24,y25,y26,yb3,ybU,ybF,hlt,hw,hnn,hop,hop',hjo,hm,hm',hU2,hjU]<;>try refine Ya ?_)|refine X2 ?_ ?_|(refine Xd ?_ ?_<;>intro hcd<;>try exact Xx))
   all_goals exact ⟨U2,F2,hs,hcnt2,rfl,rfl,rfl⟩
  ·have hm':=aP hm hjU
   have hu:=oZ hm
   cases ht : bG (cH bs x) (cH bs j) with
   |false=>
    rw [ht] at ct hskip
    have hs:=hskip (by simp)
    with_reducible repeat' (first|refine Sp.h ?_|((first|refine Wd ?_|refine Ss.h ?_|refine Sc.h (ct) ?_|(refine Sb.h ?_ ?_ ?_<;>(try intro hgd)<;>try exact Xy))<;>simp -implicitDefEqProofs (maxSteps:=2000000) [hP,hN,y1,y2,y3,y6,y24,y25,y26,yb3,ybU,ybF,hlt,hw,hnn,hop,hop',hjo,hm,hm',hU2,hjU,hjb,hxb,hbj,hbx1,hbj',hbx']<;>try refine Ya ?_)|refine X2 ?_ ?_|(refine Xd ?_ ?_<;>intro hcd<;>try exact Xx))
    all_goals exact ⟨U2,F2,hs,hcnt2,rfl,rfl,rfl⟩
   |true=>
    rw [ht] at ct hadd
    have hs:=hadd rfl rfl
    with_reducible repeat' (first|refine Sp.h ?_|((first|refine Wd ?_|refine Ss.h ?_|refine Sc.h (ct) ?_|(refine Sb.h ?_ ?_ ?_<;>(try intro hgd)<;>try exact Xy))<;>simp -implicitDefEqProofs (maxSteps:=2000000) [hP,hN,y1,y2,y3,y6,y24,y25,y26,yb3,ybU,ybF,hlt,hw,hnn,hop,hop',hjo,hm,hm',hU2,hjU,hjb,hxb,hbj,hbx1,hbj',hbx',show (F2.length+1) * 8≤140737488355328 by omega,show F2.length+1≤9223372036854775807 by omega]<;>try refine Ya ?_)|refine X2 ?_ ?_|(refine Xd ?_ ?_<;>intro hcd<;>try exact Xx))
    all_goals exact ⟨U2.set j true,F2++[j],hs,by simp;omega,by simp,by simp [List.map_set],by simp⟩
 ·have hj' : j=n:=by omega
  subst hj'
  have hd:=hJ.done
  with_reducible repeat' (first|refine Sp.h ?_|((first|refine Wd ?_|refine Ss.h ?_|(refine Sb.h ?_ ?_ ?_<;>(try intro hgd)<;>try exact Xy))<;>simp -implicitDefEqProofs (maxSteps:=2000000) [hP,hN,y1,y2,y3,y6,y24,y25,y26,yb3,ybU,ybF,hlt]<;>try refine Ya ?_)|refine X2 ?_ ?_|(refine Xd ?_ ?_<;>intro hcd<;>try exact Xx))
  all_goals exact ⟨by omega,U2,F2,hd,hcnt2,rfl,rfl,rfl⟩
end Go.Ab
namespace Go.Ab
open Go.Proofs
def sB (bs : List Bx) (op : List Bool) (q : List Int) (i : Nat) : Bool:=a9 op i && aR (cH bs i) q
set_option maxRecDepth 10000 in
theorem vL (bs : List Bx) (op : List Bool) (q : List Int) (V : List Bool) (hb : bs.length=op.length) (h1 : 1≤op.length) (hn : op.length≤2048) (hbx : ∀ b ∈ bs,b.length≤9223372036854775807) (hV : IsR op.length (a9 op) (gL bs) (fun i=>i < op.length∧sB bs op q i=true) V) : am Try.prog 41 [.pv (eh bs op),.pv (zs q)] [] [] (.pv (.sl (V.map B))):=by
 obtain ⟨n,hnn⟩ : ∃ n,op.length=n:=⟨_,rfl⟩
 have hfi:=o8 op.length (a9 op) (gL bs) (sB bs op q)
 have hfl:=lI (sB bs op q) op.length
 have csp:=wG bs op _ _ V _ hb hn hbx (by omega) hfi hV
 rw [hnn] at hV hn hb h1 hfl csp hfi
 refine Dp Try.func41 ?_
 intro C hP hN
 simp only [Try.f41] at hN ⊢
 with_reducible repeat' (first|refine Sp.h ?_|((first|refine Wh [6] ?_|refine Ss.h ?_|(refine Sb.h ?_ ?_ ?_<;>(try intro hgd)<;>try exact Xy))<;>simp -implicitDefEqProofs (maxSteps:=2000000) [hP,hN,hnn,show (1 : Int) * n≤281474976710656 by omega,show (n : Int)≤281474976710656 by omega,show (n : Int)≤9223372036854775807 by omega])|refine X2 ?_ ?_|(refine Xd ?_ ?_<;>intro hcd<;>try exact Xx))
 refine WP.loopN [] n (fun i st=>st.t 1=.pv (zs q)∧st.t 2=.ptr 2 0∧st.t 5=.arr 12 n∧st.t 6=.arr 6 (fF (sB bs op q) i).length∧st.t 14=.pv (.sl (op.map B))∧st.t 15=.pv (Z n)∧st.t 16=.pv (Z i)∧st.h 2=some (.box [.pv (.sl (bs.map iv)),.pv (.sl (op.map B))] true false)∧st.h 12=some (.row 4 1 ((fU n (sB bs op q) i).map B) 0)∧st.h 6=some (.row 3 1 ((fF (sB bs op q) i).map zN) 0)) (by simp [o0,fF]) ?_
 rintro i st hi ⟨g1,g2,g5,g6,g14,g15,g16,hb2,hb12,hb6⟩
 have hUl:=nZ n (sB bs op q) i
 have hFl:=lI (sB bs op q) i
 by_cases hlt : i < n
 ·have hw:=ak hlt (by omega)
  have hio : i < op.length:=by omega
  have hop:=gU hio
  have hop':=aP hop hio
  have hib : i < bs.length:=by omega
  have hbi:=jn hib
  have hbi':=aP hbi hib
  have ch:=uA (cH bs i) q (hbx _ (List.mem_of_getElem? hbi))
  have hs9 : sB bs op q i=(a9 op i && aR (cH bs i) q):=rfl
  have hUn:=sG (n:=n) (s:=sB bs op q) (i:=i)
  have hFn:=sH (s:=sB bs op q) (i:=i)
  have hUy:=q6 (n:=n) (s:=sB bs op q) hlt
  have hFy:=q7 (s:=sB bs op q) (i:=i)
  rw [hs9] at hUn hFn hUy hFy
  generalize fU n (sB bs op q) i=U at *
  generalize fU n (sB bs op q) (i+1)=U' at *
  generalize fF (sB bs op q) i=F at *
  generalize fF (sB bs op q) (i+1)=F' at *
  have hiU : i < U.length:=by omega
  cases ho : a9 op i with
  |false=>
   rw [ho] at hop hop' hUn hFn
   have e1:=hUn (by simp)
   have e2:=hFn (by simp)
   subst e1;subst e2
   exact Gy
  |true=>
  rw [ho] at hop hop' hUn hFn hUy hFy
  cases hh : aR (cH bs i) q with
  |false=>
   rw [hh] at ch hUn hFn
   have e1:=hUn (by simp)
   have e2:=hFn (by simp)
   subst e1;subst e2
   exact Gy
  |true=>
   rw [hh] at ch hUy hFy
   have e1:=hUy rfl
   have e2:=hFy rfl
   with_reducible repeat' (first|refine Sp.h ?_|((first|refine Ss.h ?_|refine Sc.h (ch) ?_|(refine Sb.h ?_ ?_ ?_<;>(try intro hgd)<;>try exact Xy))<;>simp -implicitDefEqProofs (maxSteps:=2000000) [hP,hN,g1,g2,g5,g6,g14,g15,g16,hb2,hb12,hb6,hlt,hw,hnn,hop,hop',hio,hib,hbi,hbi',hUl,hiU,show (F.length+1) * 8≤140737488355328 by omega,show F.length+1≤9223372036854775807 by omega])|refine X2 ?_ ?_|(refine Xd ?_ ?_<;>intro hcd<;>try exact Xx))
   all_goals simp [e2,← e1,List.map_set]
 ·have hi' : i=n:=by omega
  subst hi'
  have hne : fU i (sB bs op q) i≠[]:=by intro h;rw [h] at hUl;simp at hUl;omega
  generalize fU i (sB bs op q) i=U at *
  generalize fF (sB bs op q) i=F at *
  with_reducible repeat' (first|refine Sp.h ?_|((refine WP.hand (hn:=[]) (pre:=[_,_,_]) rfl rfl rfl rfl ?_);simp -implicitDefEqProofs (maxSteps:=2000000) [hP,hN,g1,g2,g5,g6,g14,g15,g16,hb2,hb12,hb6,hlt])|((first|refine Ss.h ?_|(refine Sb.h ?_ ?_ ?_<;>(try intro hgd)<;>try exact Xy))<;>simp -implicitDefEqProofs (maxSteps:=2000000) [hP,hN,g1,g2,g5,g6,g14,g15,g16,hb2,hb12,hb6,hlt])|refine X2 ?_ ?_|(refine Xd ?_ ?_<;>intro hcd<;>try exact Xx))
  refine ⟨47,eh bs op,[],12,6,4,1,3,1,U.map B,V.map B,F.map zN,by simp,by simp [hb2],by simp [g5,hUl],by simp [g6],by simp [hb12],by simp [hb6],by decide,by simp [hne],by rw [hP];exact csp,by rw [hN];decide,?_⟩
  simp -implicitDefEqProofs (maxSteps:=2000000) [hP,hN,g1,g2,g5,g6,hb2,hb12,hb6]
  have hVl:=hV.len
  exact Gy
end Go.Ab
namespace Go.Ab
open Go.Proofs
theorem r9 (t : Tr) (i : Nat) : a9 (t.cells.map aH) i=b7 t i:=by
 simp only [a9,b7,List.getElem?_map]
 cases t.cells[i]?<;>rfl
theorem d0 (t : Tr) (i : Nat) : cH (aw t) i=aD t (i : Int):=by simp [cH,aD]
theorem rg {t : Tr} {q : List Int} {U : List Bool} (h : ju t q U) : IsR (t.cells.map aH).length (a9 (t.cells.map aH)) (gL (aw t)) (fun i=>i < (t.cells.map aH).length∧sB (aw t) (t.cells.map aH) q i=true) U:=by
 have e1 : a9 (t.cells.map aH)=b7 t:=funext (r9 t)
 have e2 : gL (aw t)=gy t:=by funext i j;simp [gL,gy,d0]
 have e3 : (fun i=>i < (t.cells.map aH).length∧sB (aw t) (t.cells.map aH) q i=true)=lA t q:=by
  funext i;simp [lA,sB,ca,d0,r9]
 rw [e1,e2,e3,List.length_map];exact h
theorem pR {t : Tr} (hv : av t=true) : ∀ b ∈ aw t,b.length≤10:=by
 intro b hb
 obtain ⟨i,hi⟩:=List.mem_iff_getElem?.1 hb
 have:=(jZ hi).1
 have:=aS.1 (bn hv)
 omega
def sK (t : Tr) (p : List Int) (U : List Bool) : List Bool:=if mo t p then U else []
theorem tz (t : Tr) (p : List Int) (U : List Bool) (hv : av t=true) (hU : ju t p U) : am Try.prog 41 [.pv (eh (aw t) (t.cells.map aH)),.pv (zs p)] [] [] (.pv (.sl (U.map B))):=by
 have hz:=aS.1 (bn hv)
 exact vL (aw t) (t.cells.map aH) p U (by rw [dr hv,List.length_map]) (by rw [List.length_map];omega) (by rw [List.length_map];omega) (fun b hb=>by have:=pR hv b hb;omega) (rg hU)
theorem o9 {t : Tr} {U : List Bool} {q : List Int} {i : Nat} (h1 : U[i]?=some true) (hi : i < t.cells.length) (h2 : ca t q i=true) : kx t U q=false:=by
 unfold kx
 apply Bool.eq_false_iff.2
 intro h
 have:=List.all_eq_true.1 h i (List.mem_range.2 hi)
 simp [h1,h2] at this
theorem mZ {t : Tr} {U : List Bool} {q : List Int} (h : ∀ i,i < t.cells.length→U[i]?=some true→ca t q i=false) : kx t U q=true:=by
 unfold kx
 refine List.all_eq_true.2 fun i hi=>?_
 cases hu : U[i]? with
 |none=>rfl
 |some b=>cases b with
  |false=>rfl
  |true=>simp [h i (List.mem_range.1 hi) hu]
set_option maxRecDepth 10000 in
theorem yr (t : Tr) (p q : List Int) (U : List Bool) (hl : t.cells.length≤9223372036854775807) (hr : t.root.length≤9223372036854775807) (hU : ju t p U) : am Try.prog 18 [.pv (bR t),.pv (zs p),.pv (zs q)] [] [] (.pv (B (dR t p q U))):=by
 have cv:=vP t hl
 have ch:=uA t.root p hr
 have ck:=uA t.root q hr
 unfold dR
 cases hv : av t with
 |false=>
  rw [hv] at cv
  refine Dp Try.func18 ?_
  intro C hP hN
  simp only [Try.f18] at hN ⊢
  exact Gy
 |true=>
 rw [hv] at cv
 cases hh : aR t.root p with
 |false=>
  rw [hh] at ch
  refine Dp Try.func18 ?_
  intro C hP hN
  simp only [Try.f18] at hN ⊢
  exact Gy
 |true=>
 rw [hh] at ch
 cases hk : aR t.root q with
 |false=>
  rw [hk] at ck
  refine Dp Try.func18 ?_
  intro C hP hN
  simp only [Try.f18] at hN ⊢
  exact Gy
 |true=>
 rw [hk] at ck
 have cs:=qE t hv
 have cf:=tz t p U hv hU
 obtain ⟨op,hop⟩ : ∃ op,t.cells.map aH=op:=⟨_,rfl⟩
 rw [hop] at cs cf
 have hz:=aS.1 (bn hv)
 have hUl:=hU.len
 have hbl:=dr hv
 refine Dp Try.func18 ?_
 intro C hP hN
 simp only [Try.f18] at hN ⊢
 refine Gz ?_
 refine WP.loopN [] t.cells.length (fun i st=>st.t 2=.pv (zs q)∧st.t 7=.ptr 7 0∧st.t 31=.pv (.sl (U.map B))∧st.t 32=.pv (Z t.cells.length)∧st.t 33=.pv (Z i)∧st.h 7=some (.box [.pv (.sl ((aw t).map iv)),.pv (.sl (op.map B))] true false)∧(∀ j,j < i→U[j]?=some true→ca t q j=false)) (by simp [hUl]) ?_
 rintro i st hi ⟨g2,g7,g31,g32,g33,hb7,hI⟩
 by_cases hlt : i < t.cells.length
 ·have hw:=ak hlt (by omega)
  have hiU : i < U.length:=by omega
  have hib : i < (aw t).length:=by omega
  obtain ⟨hbi,hbl2,_⟩:=e7 hv (c:=(i : Int)) (by simpa using hlt)
  rw [Int.toNat_natCast] at hbi
  have hbi':=aP hbi hib
  have c2:=uA (aD t (i : Int)) q (by omega)
  have hno:=o9 (t:=t) (U:=U) (q:=q) (i:=i)
  have hst : (U[i]?=some true→ca t q i=false)→∀ j,j < i+1→U[j]?=some true→ca t q j=false:=fun h j hj hu=>by
   by_cases e : j=i
   ·subst e;exact h hu
   ·exact hI j (by omega) hu
  have hT : ca t q i=aR (aD t (i : Int)) q:=rfl
  rw [hT] at hno hst
  rcases n9 hiU with hm|hm
  ·unfold cG at hm
   have hm':=aP hm hiU
   cases h9 : aR (aD t (i : Int)) q with
   |true=>
    rw [h9] at c2 hno
    have:=hno hm hlt rfl
    rw [this]
    exact Gy
   |false=>
    rw [h9] at c2 hst
    have:=hst (fun _=>rfl)
    refine Gz ?_
    all_goals exact this
  ·have hm':=aP hm hiU
   have:=hst (fun h=>by rw [hm] at h;cases h)
   refine Gz ?_
   all_goals exact this
 ·have:=mZ (fun j hj=>hI j (by omega))
  rw [this]
  exact Gy
def cO (cs : List Cel) : Nat:=cs.countP di
theorem vM (t : Tr) (hl : t.cells.length≤9223372036854775807) : am Try.prog 10 [.pv (bR t)] [] [] (.pv (Z (cO t.cells))):=by
 refine Dp Try.func10 ?_
 intro C hP hN
 simp only [Try.f10] at hN ⊢
 refine Gz ?_
 refine WP.loopN [5] t.cells.length (fun i st=>st.t 3=.pv (Z (cO (t.cells.take i)))∧st.t 7=.pv (.sl (t.cells.map bf))∧st.t 8=.pv (Z t.cells.length)∧st.t 9=.pv (Z i)∧st.h 5=none) (by simp [cO]) ?_
 rintro i st hi ⟨g3,g7,g8,g9,hb5⟩
 by_cases hlt : i < t.cells.length
 ·have hw:=ak hlt (by omega)
  have hsz : cO (t.cells.take (i+1))=cO (t.cells.take i)+(if di t.cells[i] then 1 else 0):=by
   rw [cO,cO,List.take_succ_eq_append_getElem hlt,List.countP_append,List.countP_cons,List.countP_nil];omega
  have hszl : cO (t.cells.take i)≤i:=by
   have : cO (t.cells.take i)≤(t.cells.take i).length:=List.countP_le_length
   rw [List.length_take] at this;omega
  generalize hc : t.cells[i]=c at *
  have hci : t.cells[i]?=some c:=by rw [List.getElem?_eq_getElem hlt,hc]
  have cc:=tg c
  have hws : IntKind.i64.wrap ((cO (t.cells.take i) : Int)+1)=(cO (t.cells.take i) : Int)+1:=bP
  cases hb : di c with
  |true=>
   rw [hb] at cc hsz
   exact Gy
   all_goals simp [hsz]
  |false=>
   rw [hb] at cc hsz
   exact Gy
   all_goals simp [hsz]
 ·have e : t.cells.take i=t.cells:=List.take_of_length_le (by omega)
  rw [e] at g3
  exact Gy
end Go.Ab
namespace Go.Ab
open Go.Proofs
theorem tA {a b : Bx} (ha : aU vI a=true) (hb : aU vI b=true) : bG a b=bG b a:=by
 rw [Bool.eq_iff_iff,mm ha hb,mm hb ha]
 exact ⟨fun ⟨h1,h2⟩=>⟨h1.symm,fun i x y hx hy=>(h2 i y x hy hx).symm⟩,fun ⟨h1,h2⟩=>⟨h1.symm,fun i x y hx hy=>(h2 i y x hy hx).symm⟩⟩
theorem rC {t : Tr} (hv : av t=true) {i j : Nat} (hi : i < t.cells.length) (hj : j < t.cells.length) : gy t i j=gy t j i:=by
 obtain ⟨_,_,v1⟩:=e7 hv (c:=(i : Int)) (by simpa using hi)
 obtain ⟨_,_,v2⟩:=e7 hv (c:=(j : Int)) (by simpa using hj)
 exact tA v1 v2
set_option maxRecDepth 10000 in
theorem tG (t : Tr) (p : List Int) (V : List Bool) (hl : t.cells.length≤9223372036854775807) (hr : t.root.length≤9223372036854775807) (hp : p.length≤9223372036854775807) (hV : ju t p V) : am Try.prog 23 [.pv (bR t),.pv (zs p)] [] [] (.pv (.sl ((sK t p V).map B))):=by
 have cb:=vA t hl
 have ch:=yU t.root p hr hp
 rw [mn] at ch
 unfold sK mo
 cases hv : av t with
 |false=>
  rw [hv] at cb
  refine Dp Try.func23 ?_
  intro C hP hN
  simp only [Try.f23] at hN ⊢
  exact Gy
 |true=>
 rw [hv] at cb
 cases hh : aR t.root p with
 |false=>
  rw [hh] at ch
  refine Dp Try.func23 ?_
  intro C hP hN
  simp only [Try.f23] at hN ⊢
  exact Gy
 |true=>
 rw [hh] at ch
 have hz:=aS.1 (bn hv)
 have hbl:=dr hv
 have hbg : ∀ i,i < t.cells.length→(aw t)[i]?=some (aD t (i : Int))∧(aD t (i : Int)).length≤9223372036854775807:=fun i hi=>by
  obtain ⟨a,b,_⟩:=e7 hv (c:=(i : Int)) (by simpa using hi)
  exact ⟨by simpa using a,by omega⟩
 obtain ⟨n,hnn⟩ : ∃ n,t.cells.length=n:=⟨_,rfl⟩
 have hfi:=o8 n (b7 t) (gy t) (fun i=>b7 t i && ca t p i)
 have hS : (fun i=>i < n∧(b7 t i && ca t p i)=true)=lA t p:=by funext i;simp [lA,hnn]
 rw [hS] at hfi
 unfold ju at hV
 have hsw:=fun i j hi hj=>rC hv (i:=i) (j:=j) hi hj
 rw [hnn] at hV hz hl hsw
 have hbl' : (aw t).length=n:=by omega
 refine Dp Try.func23 ?_
 intro C hP hN
 simp only [Try.f23] at hN ⊢
 with_reducible repeat' (first|refine Sp.h ?_|((first|refine Wh [8] ?_|refine Wi [8] ?_|refine Ss.h ?_|refine Sc.h (cb) ?_|refine Sc.h (ch) ?_|(refine Sb.h ?_ ?_ ?_<;>(try intro hgd)<;>try exact Xy))<;>simp -implicitDefEqProofs (maxSteps:=2000000) [hP,hN,hbl',show (1 : Int) * n≤281474976710656 by omega,show (n : Int)≤281474976710656 by omega,show (n : Int)≤9223372036854775807 by omega]<;>try refine Ya ?_)|refine X2 ?_ ?_|(refine Xd ?_ ?_<;>intro hcd<;>try exact Xx))
 refine WP.loopN [] n (fun i st=>st.t 1=.pv (zs p)∧st.t 2=.ptr 2 0∧st.t 5=.pv (.sl ((aw t).map iv))∧st.t 7=.arr 28 n∧st.t 8=.arr 8 (fF (fun i=>b7 t i && ca t p i) i).length∧st.t 9=.pv (Z i)∧st.h 2=some (.box [.pv (iv t.root),.pv (.sl (t.cells.map bf))] true false)∧st.h 28=some (.row 4 1 ((fU n (fun i=>b7 t i && ca t p i) i).map B) 0)∧st.h 8=some (.row 3 1 ((fF (fun i=>b7 t i && ca t p i) i).map zN) 0)) (by simp [o0,fF]) ?_
 rintro i st hi ⟨g1,g2,g5,g7,g8,g9,hb2,hb28,hb8⟩
 have hUl:=nZ n (fun i=>b7 t i && ca t p i) i
 have hFl:=lI (fun i=>b7 t i && ca t p i) i
 by_cases hlt : i < n
 ·have hw:=ak hlt (by omega)
  have hic : i < t.cells.length:=by omega
  have hib : i < (aw t).length:=by omega
  obtain ⟨hbi,hbil⟩:=hbg i hic
  have hbi':=aP hbi hib
  have c2:=yU (aD t (i : Int)) p hbil hp
  rw [mn] at c2
  have hT : ca t p i=aR (aD t (i : Int)) p:=rfl
  generalize hc : t.cells[i]=c at *
  have hci : t.cells[i]?=some c:=by rw [List.getElem?_eq_getElem hic,hc]
  have hO : b7 t i=(aT c && !(c.v.kind==2)):=by simp only [b7,hci,aH,di];cases aT c<;>simp
  have cl:=yT c
  have hUn:=sG (n:=n) (s:=fun i=>b7 t i && ca t p i) (i:=i)
  have hFn:=sH (s:=fun i=>b7 t i && ca t p i) (i:=i)
  have hUy:=q6 (n:=n) (s:=fun i=>b7 t i && ca t p i) hlt
  have hFy:=q7 (s:=fun i=>b7 t i && ca t p i) (i:=i)
  simp only [hO,hT] at hUn hFn hUy hFy
  generalize fU n (fun i=>b7 t i && ca t p i) i=U at *
  generalize fU n (fun i=>b7 t i && ca t p i) (i+1)=U' at *
  generalize fF (fun i=>b7 t i && ca t p i) i=F at *
  generalize fF (fun i=>b7 t i && ca t p i) (i+1)=F' at *
  have hiU : i < U.length:=by omega
  cases hlf : aT c with
  |false=>
   rw [hlf] at cl hUn hFn
   have e1:=hUn (by simp)
   have e2:=hFn (by simp)
   subst e1;subst e2
   exact Gy
  |true=>
  rw [hlf] at cl hUn hFn hUy hFy
  cases hkd : (c.v.kind==2) with
  |true=>
   rw [hkd] at hUn hFn
   have e1:=hUn (by simp)
   have e2:=hFn (by simp)
   subst e1;subst e2
   have hkd2 : (c.v.kind !=2)=false:=by simp [bne,hkd]
   exact Gy
  |false=>
  rw [hkd] at hUn hFn hUy hFy
  have hkd2 : (c.v.kind !=2)=true:=by simp [bne,hkd]
  cases h9 : aR (aD t (i : Int)) p with
  |false=>
   rw [h9] at c2 hUn hFn
   have e1:=hUn (by simp)
   have e2:=hFn (by simp)
   subst e1;subst e2
   exact Gy
  |true=>
   rw [h9] at c2 hUy hFy
   have e1:=hUy rfl
   have e2:=hFy rfl
   with_reducible repeat' (first|refine Sp.h ?_|((first|refine Wd ?_|refine Ss.h ?_|refine Sc.h (cl) ?_|refine Sc.h (c2) ?_|(refine Sb.h ?_ ?_ ?_<;>(try intro hgd)<;>try exact Xy))<;>simp -implicitDefEqProofs (maxSteps:=2000000) [hP,hN,g1,g2,g5,g7,g8,g9,hb2,hb28,hb8,hlt,hw,hbl',hic,hci,hc,hkd2,hib,hbi,hbi',hUl,hiU,show (F.length+1) * 8≤140737488355328 by omega,show F.length+1≤9223372036854775807 by omega]<;>try refine Ya ?_)|refine X2 ?_ ?_|(refine Xd ?_ ?_<;>intro hcd<;>try exact Xx))
   all_goals simp [e2,← e1,List.map_set]
 have hi' : i=n:=by omega
 subst hi'
 have hUm:=nY (fU i (fun i=>b7 t i && ca t p i) i)
 generalize fU i (fun i=>b7 t i && ca t p i) i=U0 at *
 generalize fF (fun i=>b7 t i && ca t p i) i=F0 at *
 refine Gz ?_
 refine WP.loopN [] (F0.length+iZ U0) (fun k st=>∃ (U : List Bool) (Q : List Nat),k≤Q.length∧FI i (b7 t) (gy t) (lA t p) U (Q.drop k)∧Q.length+iZ U=F0.length+iZ U0∧st.t 1=.pv (zs p)∧st.t 2=.ptr 2 0∧st.t 5=.pv (.sl ((aw t).map iv))∧st.t 7=.arr 28 i∧st.t 8=.arr 8 Q.length∧st.t 10=.pv (Z k)∧st.h 2=some (.box [.pv (iv t.root),.pv (.sl (t.cells.map bf))] true false)∧st.h 28=some (.row 4 1 (U.map B) 0)∧st.h 8=some (.row 3 1 (Q.map zN) 0)) (by exact ⟨U0,F0,by omega,by simpa using hfi,rfl,by simp [g1,g2,g5,g7,g8,hb2,hb28,hb8]⟩) ?_
 clear g1 g2 g5 g7 g8 g9 hb2 hb28 hb8 st hi hlt hfi
 rintro k st hk ⟨U,Q,hkQ,hI,hcnt,g1,g2,g5,g7,g8,g10,hb2,hb28,hb8⟩
 have hUl':=hI.len
 by_cases hkl : k < Q.length
 ·have hwk : IntKind.i64.wrap ((k : Int)+1)=(k : Int)+1:=bP
  obtain ⟨x,hx⟩ : ∃ x,Q[k]?=some x:=⟨_,List.getElem?_eq_getElem hkl⟩
  have hx':=aP hx hkl
  have hdr : Q.drop k=x :: Q.drop (k+1):=by rw [← hx'];exact List.drop_eq_getElem_cons hkl
  have hxF : x ∈ Q.drop k:=by rw [hdr];simp
  have hxn:=qR hUl' (hI.mem x hxF)
  have hpop : FJ i (b7 t) (gy t) (lA t p) U (Q.drop (k+1)) x 0:=hI.pop hxF (fun m hm=>by rw [hdr] at hm;rcases List.mem_cons.1 hm with h|h;exact .inr h;exact .inl h) (fun m hm=>by rw [hdr];exact List.mem_cons_of_mem _ hm)
  refine Gz ?_
  refine WP.loopN [] i (fun j st=>∃ (U2 : List Bool) (Q2 : List Nat),FJ i (b7 t) (gy t) (lA t p) U2 (Q2.drop (k+1)) x j∧Q2.length+iZ U2=F0.length+iZ U0∧k < Q2.length∧Q2[k]?=some x∧st.t 1=.pv (zs p)∧st.t 2=.ptr 2 0∧st.t 5=.pv (.sl ((aw t).map iv))∧st.t 7=.arr 28 i∧st.t 8=.arr 8 Q2.length∧st.t 10=.pv (Z k)∧st.t 11=.pv (Z j)∧st.h 2=some (.box [.pv (iv t.root),.pv (.sl (t.cells.map bf))] true false)∧st.h 28=some (.row 4 1 (U2.map B) 0)∧st.h 8=some (.row 3 1 (Q2.map zN) 0)) (by exact ⟨U,Q,hpop,hcnt,hkl,hx,by simp [g1,g2,g5,g7,g8,g10,hb2,hb28,hb8]⟩) ?_
  clear g1 g2 g5 g7 g8 g10 hb2 hb28 hb8 hpop
  rintro j st' hj ⟨U2,Q2,hJ,hcnt2,hkl2,hx2,y1,y2,y5,y7,y8,y10,y11,yb2,yb28,yb8⟩
  have hU2:=hJ.len
  have hU2m:=nY U2
  have hx2':=aP hx2 hkl2
  by_cases hjl : j < i
  ·have hw:=ak hjl (by omega)
   have hjU : j < U2.length:=by omega
   have hjc : j < t.cells.length:=by omega
   have hxc : x < t.cells.length:=by omega
   have hjb : j < (aw t).length:=by omega
   have hxb : x < (aw t).length:=by omega
   obtain ⟨hbj,hbjl⟩:=hbg j hjc
   obtain ⟨hbx,hbxl⟩:=hbg x hxc
   have hbj':=aP hbj hjb
   have hbx':=aP hbx hxb
   have ct:=yZ (aD t (j : Int)) (aD t (x : Int)) hbjl hbxl
   rw [tm] at ct
   have hT : gy t x j=bG (aD t (j : Int)) (aD t (x : Int)):=hsw x j (by omega) hjl
   generalize hc : t.cells[j]=c at *
   have hci : t.cells[j]?=some c:=by rw [List.getElem?_eq_getElem hjc,hc]
   have hO : b7 t j=(aT c && !(c.v.kind==2)):=by simp only [b7,hci,aH,di];cases aT c<;>simp
   have cl:=yT c
   have hskip:=hJ.skip
   have hadd:=hJ.add hjl
   rw [hO,hT] at hskip hadd
   rcases n9 hjU with hm|hm
   ·have hs:=hskip (fun _ _=>hm)
    unfold cG at hm
    have hm':=aP hm hjU
    refine Gz ?_
    all_goals exact ⟨U2,Q2,hs,hcnt2,hkl2,hx2,rfl,rfl,rfl⟩
   have hm':=aP hm hjU
   have hu:=oZ hm
   cases hlf : aT c with
   |false=>
    rw [hlf] at cl hskip
    have hs:=hskip (by simp)
    refine Gz ?_
    all_goals exact ⟨U2,Q2,hs,hcnt2,hkl2,hx2,rfl,rfl,rfl⟩
   |true=>
   rw [hlf] at cl hskip hadd
   cases hkd : (c.v.kind==2) with
   |true=>
    rw [hkd] at hskip
    have hs:=hskip (by simp)
    have hkd2 : (c.v.kind !=2)=false:=by simp [bne,hkd]
    refine Gz ?_
    all_goals exact ⟨U2,Q2,hs,hcnt2,hkl2,hx2,rfl,rfl,rfl⟩
   |false=>
   rw [hkd] at hskip hadd
   have hkd2 : (c.v.kind !=2)=true:=by simp [bne,hkd]
   cases h9 : bG (aD t (j : Int)) (aD t (x : Int)) with
   |false=>
    rw [h9] at ct hskip
    have hs:=hskip (by simp)
    refine Gz ?_
    all_goals exact ⟨U2,Q2,hs,hcnt2,hkl2,hx2,rfl,rfl,rfl⟩
   |true=>
    rw [h9] at ct hadd
    have hs:=hadd rfl rfl
    have hdd : (Q2++[j]).drop (k+1)=Q2.drop (k+1)++[j]:=List.drop_append_of_le_length (by omega)
    rw [← hdd] at hs
    have hx3 : (Q2++[j])[k]?=some x:=by rw [List.getElem?_append_left hkl2];exact hx2
    with_reducible repeat' (first|refine Sp.h ?_|((first|refine Wd ?_|refine Ss.h ?_|refine Sc.h (cl) ?_|refine Sc.h (ct) ?_|(refine Sb.h ?_ ?_ ?_<;>(try intro hgd)<;>try exact Xy))<;>simp -implicitDefEqProofs (maxSteps:=2000000) [hP,hN,y1,y2,y5,y7,y8,y10,y11,yb2,yb28,yb8,hjl,hw,hbl',hm,hm',hU2,hjU,hjc,hci,hc,hkd2,hjb,hxb,hbj,hbx,hbj',hbx',hx2,hx2',hkl2,show (Q2.length+1) * 8≤140737488355328 by omega,show Q2.length+1≤9223372036854775807 by omega]<;>try refine Ya ?_)|refine X2 ?_ ?_|(refine Xd ?_ ?_<;>intro hcd<;>try exact Xx))
    all_goals exact ⟨U2.set j true,Q2++[j],hs,by simp;omega,by simp;omega,hx3,by simp,by simp [List.map_set],by simp⟩
  ·have hj' : j=i:=by omega
   subst hj'
   have hd:=hJ.done
   refine Gz ?_
   all_goals exact ⟨by omega,U2,Q2,by omega,hd,hcnt2,rfl,rfl,rfl⟩
 ·have hd : Q.drop k=[]:=List.drop_eq_nil_of_le (by omega)
  rw [hd] at hI
  have hUV : U=V:=lz hI.fin hV
  subst hUV
  exact Gy
set_option maxRecDepth 10000 in
theorem d7 (t : Tr) (p q : List Int) (U : List Bool) (hl : t.cells.length≤9223372036854775807) (hr : t.root.length≤9223372036854775807) (hp : p.length≤9223372036854775807) (hq : q.length≤9223372036854775807) (hU : ju t p U) : am Try.prog 7 [.pv (bR t),.pv (zs p),.pv (zs q)] [] [] (.pv (B (dR t p q U))):=by
 have cf:=tG t p U hl hr hp hU
 have ck:=yU t.root q hr hq
 have cb:=vA t hl
 rw [mn] at ck
 unfold dR
 have hff : mo t p=(av t && aR t.root p):=rfl
 rw [← hff]
 cases hF : mo t p with
 |false=>
  rw [sK,hF] at cf
  refine Dp Try.func7 ?_
  intro C hP hN
  simp only [Try.f7] at hN ⊢
  exact Gy
 |true=>
 rw [sK,hF,if_pos rfl] at cf
 have hv : av t=true:=by rw [hff] at hF;simp at hF;exact hF.1
 rw [hv] at cb
 have hz:=aS.1 (bn hv)
 have hUl:=hU.len
 have hbl:=dr hv
 have hU0 : ((t.cells.length : Int)==0)=false:=by simp;intro h;rw [h] at hz;simp at hz
 cases hk : aR t.root q with
 |false=>
  rw [hk] at ck
  refine Dp Try.func7 ?_
  intro C hP hN
  simp only [Try.f7] at hN ⊢
  exact Gy
 |true=>
 rw [hk] at ck
 refine Dp Try.func7 ?_
 intro C hP hN
 simp only [Try.f7] at hN ⊢
 refine Gz ?_
 refine WP.loopN [] t.cells.length (fun i st=>st.t 2=.pv (zs q)∧st.t 7=.pv (.sl (U.map B))∧st.t 8=.pv (.sl ((aw t).map iv))∧st.t 10=.pv (Z i)∧(∀ j,j < i→U[j]?=some true→ca t q j=false)) (by simp) ?_
 rintro i st hi ⟨g2,g7,g8,g10,hI⟩
 by_cases hlt : i < t.cells.length
 ·have hw:=ak hlt (by omega)
  have hiU : i < U.length:=by omega
  have hib : i < (aw t).length:=by omega
  obtain ⟨hbi,hbl2,_⟩:=e7 hv (c:=(i : Int)) (by simpa using hlt)
  rw [Int.toNat_natCast] at hbi
  have hbi':=aP hbi hib
  have c2:=yU (aD t (i : Int)) q (by omega) hq
  rw [mn] at c2
  have hno:=o9 (t:=t) (U:=U) (q:=q) (i:=i)
  have hst : (U[i]?=some true→ca t q i=false)→∀ j,j < i+1→U[j]?=some true→ca t q j=false:=fun h j hj hu=>by
   by_cases e : j=i
   ·subst e;exact h hu
   ·exact hI j (by omega) hu
  have hT : ca t q i=aR (aD t (i : Int)) q:=rfl
  rw [hT] at hno hst
  rcases n9 hiU with hm|hm
  ·unfold cG at hm
   have hm':=aP hm hiU
   cases h9 : aR (aD t (i : Int)) q with
   |true=>
    rw [h9] at c2 hno
    have:=hno hm hlt rfl
    rw [this]
    exact Gy
   |false=>
    rw [h9] at c2 hst
    have:=hst (fun _=>rfl)
    refine Gz ?_
    all_goals exact this
  ·have hm':=aP hm hiU
   have:=hst (fun h=>by rw [hm] at h;cases h)
   refine Gz ?_
   all_goals exact this
 ·have:=mZ (fun j hj=>hI j (by omega))
  rw [this]
  exact Gy
end Go.Ab
namespace Go.Ab
open Go.Proofs
theorem jz {t : Tr} {L : OL} (h : bd t=some L) {i : Nat} {b : Bx} (hb : L[i]?=some (some b)) : aD t (i : Int)=b:=by
 rw [gC h] at hb
 rw [List.getElem?_map,Option.map_eq_some_iff] at hb
 obtain ⟨x,h1,h2⟩:=hb
 injection h2 with h2;subst h2
 simp [aD,h1]
theorem ib {t : Tr} (hv : av t=true) {i : Nat} {c : Cel} (hc : t.cells[i]?=some c) (hlf : aT c=false) :
 dB t.cells.length i c=true∧aQ (aD t (i : Int)) c.joint=true∧aD t c.low=a8 (aD t (i : Int)) c.joint∧aD t c.high=ba (aD t (i : Int)) c.joint:=by
 obtain ⟨L,hL⟩:=Option.isSome_iff_exists.1 hv
 have hlt:=(List.getElem?_eq_some_iff.1 hc).1
 have hP:=dT (P:=fun k M=>BOk t k M∧(i < k→∃ b,M[i]?=some (some b)∧dB t.cells.length i c=true∧aQ b c.joint=true∧M[c.low.toNat]?=some (some (a8 b c.joint))∧M[c.high.toNat]?=some (some (ba b c.joint)))) hL ⟨fJ (cP hL),by omega⟩ (by
  rintro k d M M' hk ⟨hbo,hp⟩ hm
  refine ⟨fK hbo hm,fun hik=>?_⟩
  by_cases e : k=i
  ·subst e
   rw [hc] at hk;injection hk with hk;subst hk
   obtain ⟨b,hb,⟨h1,_⟩|⟨_,hi,hh,hlo,hhi,rfl⟩⟩:=cd hm
   ·rw [hlf] at h1;cases h1
   ·have hin:=bB.1 hi
    refine ⟨b,?_,hi,hh,?_,?_⟩
    ·rw [dU hbo.len hi,if_neg (by omega),if_neg (by omega)];exact hb
    ·rw [dU hbo.len hi,if_neg (by omega),if_pos rfl]
    ·rw [dU hbo.len hi,if_pos rfl]
  ·obtain ⟨b,h1,h2,h3,h4,h5⟩:=hp (by omega)
   exact ⟨b,fg hm h1,h2,h3,fg hm h4,fg hm h5⟩)
 obtain ⟨b,h1,h2,h3,h4,h5⟩:=hP.2 hlt
 have hin:=bB.1 h2
 have e0:=jz hL h1
 have e1:=jz hL h4
 have e2:=jz hL h5
 rw [Int.toNat_of_nonneg (by omega)] at e1 e2
 rw [e0,e1,e2]
 exact ⟨h2,h3,rfl,rfl⟩
theorem sQ {b : Bx} {j : Int} (h : aQ b j=true) {q : List Int} (hq : aR b q=true) : ∃ c x,q[j.toNat]?=some c∧(a8 b j)[j.toNat]?=some x∧(c≤x.2→aR (a8 b j) q=true)∧(x.2≤c→aR (ba b j) q=true):=by
 obtain ⟨x,hx,hv,h3,ea,ez⟩:=jy h
 have hvb:=(fI.1 h).2.1
 obtain ⟨va,vz⟩:=ej h
 obtain ⟨l1,m1⟩:=(dw hvb).1 hq
 have hlt:=(List.getElem?_eq_some_iff.1 hx).1
 have hqj : q[j.toNat]?=some (q[j.toNat]'(by omega)):=List.getElem?_eq_getElem _
 have hm:=m1 j.toNat x _ hx hqj
 refine ⟨_,(x.1,(x.1+x.2) / 2),hqj,by rw [ea];simp [hlt],fun hle=>?_,fun hle=>?_⟩
 ·refine (dw va).2 ⟨by rw [ea];simpa using l1,fun i y z hy hz=>?_⟩
  rw [ea,List.getElem?_set] at hy
  split at hy
  ·rename_i e;subst e
   simp [hlt] at hy;subst hy
   rw [hqj] at hz;injection hz with hz;subst hz
   exact ⟨hm.1,hle⟩
  ·exact m1 i y z hy hz
 ·refine (dw vz).2 ⟨by rw [ez];simpa using l1,fun i y z hy hz=>?_⟩
  rw [ez,List.getElem?_set] at hy
  split at hy
  ·rename_i e;subst e
   simp [hlt] at hy;subst hy
   rw [hqj] at hz;injection hz with hz;subst hz
   exact ⟨hle,hm.2⟩
  ·exact m1 i y z hy hz
def gJ (a b : Bx) : Prop:=∃ (j : Nat) (x y : Int × Int),a[j]?=some x∧b[j]?=some y∧(x.2≤y.1∨y.2≤x.1)
theorem gJ.symm {a b : Bx} (h : gJ a b) : gJ b a:=by
 obtain ⟨j,x,y,h1,h2,h3⟩:=h
 exact ⟨j,y,x,h2,h1,h3.symm⟩
end Go.Ab
namespace Go.Ab
open Go.Proofs
structure KidsP (cs : List Cel) : Prop where
 rng : ∀ (i : Nat) c,cs[i]?=some c→aT c=false→0≤c.low∧c.low < cs.length∧0≤c.high∧c.high < cs.length∧c.low≠c.high
 dif : ∀ (i j : Nat) c d,cs[i]?=some c→cs[j]?=some d→aT c=false→aT d=false→i≠j→c.low≠d.low∧c.low≠d.high∧c.high≠d.low∧c.high≠d.high
theorem sk {t : Tr} (hv : av t=true) {i j : Nat} {c d : Cel} (hc : t.cells[i]?=some c) (hd : t.cells[j]?=some d) (hlc : aT c=false) (hld : aT d=false) (hij : i < j) : c.low≠d.low∧c.low≠d.high∧c.high≠d.low∧c.high≠d.high:=by
 obtain ⟨L,hL⟩:=Option.isSome_iff_exists.1 hv
 have hlt:=(List.getElem?_eq_some_iff.1 hd).1
 obtain ⟨hi,_⟩:=ib hv hc hlc
 have hin:=bB.1 hi
 have hP:=dT (P:=fun k M=>BOk t k M∧(i < k→(∃ a,M[c.low.toNat]?=some (some a))∧∃ b,M[c.high.toNat]?=some (some b))∧(j < k→c.low≠d.low∧c.low≠d.high∧c.high≠d.low∧c.high≠d.high)) hL ⟨fJ (cP hL),by omega,by omega⟩ (by
  rintro k e M M' hk ⟨hbo,hp,hq⟩ hm
  refine ⟨fK hbo hm,fun hik=>?_,fun hjk=>?_⟩
  ·by_cases e1 : k=i
   ·subst e1
    rw [hc] at hk;injection hk with hk;subst hk
    obtain ⟨b,hb,⟨h1,_⟩|⟨_,hi2,hh,hlo,hhi,rfl⟩⟩:=cd hm
    ·rw [hlc] at h1;cases h1
    ·exact ⟨⟨_,by rw [dU hbo.len hi2,if_neg (by omega),if_pos rfl]⟩,⟨_,by rw [dU hbo.len hi2,if_pos rfl]⟩⟩
   ·obtain ⟨⟨a,ha⟩,b,hb⟩:=hp (by omega)
    exact ⟨⟨a,fg hm ha⟩,b,fg hm hb⟩
  ·by_cases e1 : k=j
   ·subst e1
    rw [hd] at hk;injection hk with hk;subst hk
    obtain ⟨⟨a,ha⟩,b,hb⟩:=hp (by omega)
    obtain ⟨b',hb',⟨h1,_⟩|⟨_,hi2,hh,hlo,hhi,rfl⟩⟩:=cd hm
    ·rw [hld] at h1;cases h1
    ·have hin2:=bB.1 hi2
     refine ⟨fun e=>?_,fun e=>?_,fun e=>?_,fun e=>?_⟩
     ·rw [e,hlo] at ha;cases ha
     ·rw [e,hhi] at ha;cases ha
     ·rw [e,hlo] at hb;cases hb
     ·rw [e,hhi] at hb;cases hb
   ·exact hq (by omega))
 exact hP.2.2 hlt
theorem sM {t : Tr} (hv : av t=true) : KidsP t.cells:=by
 refine ⟨fun i c hc hl=>?_,fun i j c d hc hd hl hm hne=>?_⟩
 ·have h:=bB.1 (ib hv hc hl).1
  omega
 ·rcases Nat.lt_or_gt_of_ne hne with h|h
  ·exact sk hv hc hd hl hm h
  ·obtain ⟨a,b,e,f⟩:=sk hv hd hc hm hl h
   exact ⟨a.symm,e.symm,b.symm,f.symm⟩
end Go.Ab
namespace Go.Ab
structure TS (X : Type) where
 n : Nat
 leaf : Nat→Bool
 lo : Nat→Nat
 hi : Nat→Nat
 has : Nat→X→Prop
structure TS.Ok {X : Type} (T : TS X) : Prop where
 pos : 0 < T.n
 lo_lt : ∀ i,i < T.n→T.leaf i=false→i < T.lo i∧T.lo i < T.n
 hi_lt : ∀ i,i < T.n→T.leaf i=false→i < T.hi i∧T.hi i < T.n
 par : ∀ j,0 < j→j < T.n→∃ i,i < T.n∧T.leaf i=false∧(j=T.lo i∨j=T.hi i)
 has_lo : ∀ i x,i < T.n→T.leaf i=false→T.has (T.lo i) x→T.has i x
 has_hi : ∀ i x,i < T.n→T.leaf i=false→T.has (T.hi i) x→T.has i x
 has_or : ∀ i x,i < T.n→T.leaf i=false→T.has i x→T.has (T.lo i) x∨T.has (T.hi i) x
 face : ∀ i,i < T.n→T.leaf i=false→∃ x,T.has (T.lo i) x∧T.has (T.hi i) x
section
variable {X : Type}
inductive Rc (T : TS X) (O : Nat→Prop) (p : X) : Nat→Prop
 |base {i : Nat} (hi : i < T.n) (ho : O i) (hp : T.has i p) : Rc T O p i
 |step {i k : Nat} (h : Rc T O p i) (hk : k < T.n) (ho : O k) (x : X) (h1 : T.has i x) (h2 : T.has k x) : Rc T O p k
inductive Cn (T : TS X) (O : Nat→Prop) : Nat→Nat→Prop
 |refl {a : Nat} : Cn T O a a
 |step {a b c : Nat} (h : Cn T O a b) (hc : c < T.n) (ho : O c) (x : X) (h1 : T.has b x) (h2 : T.has c x) : Cn T O a c
inductive Und (T : TS X) : Nat→Nat→Prop
 |rfl {i : Nat} : Und T i i
 |lo {i j : Nat} (hl : T.leaf i=false) (h : Und T (T.lo i) j) : Und T i j
 |hi {i j : Nat} (hl : T.leaf i=false) (h : Und T (T.hi i) j) : Und T i j
def Mt (T : TS X) (O : Nat→Prop) (p : X) (i : Nat) : Prop:=T.has i p∨∃ k x,Rc T O p k∧T.has i x∧T.has k x
variable {T : TS X} {O O' : Nat→Prop} {p q : X}
theorem Rc.lt {k : Nat} (h : Rc T O p k) : k < T.n:=by cases h<;>assumption
theorem Rc.opn {k : Nat} (h : Rc T O p k) : O k:=by cases h<;>assumption
theorem Rc.mono (hO : ∀ k,O k→O' k) {k : Nat} (h : Rc T O p k) : Rc T O' p k:=by
 induction h with
 |base hi ho hp=>exact .base hi (hO _ ho) hp
 |step _ hk ho x h1 h2 ih=>exact .step ih hk (hO _ ho) x h1 h2
theorem Mt.mono (hO : ∀ k,O k→O' k) {i : Nat} (h : Mt T O p i) : Mt T O' p i:=by
 rcases h with h|⟨k,x,h1,h2,h3⟩
 ·exact .inl h
 ·exact .inr ⟨k,x,h1.mono hO,h2,h3⟩
theorem Cn.rc {a b : Nat} (ha : Rc T O p a) (h : Cn T O a b) : Rc T O p b:=by
 induction h with
 |refl=>exact ha
 |step _ hc ho x h1 h2 ih=>exact .step ih hc ho x h1 h2
theorem Cn.trans {a b c : Nat} (h : Cn T O a b) (h' : Cn T O b c) : Cn T O a c:=by
 induction h' with
 |refl=>exact h
 |step _ hc ho x h1 h2 ih=>exact .step ih hc ho x h1 h2
theorem Rc.back {k : Nat} (h : Rc T O q k) (hp : Rc T O p k) : ∃ s,Rc T O p s∧T.has s q:=by
 induction h with
 |base hi ho hq=>exact ⟨_,hp,hq⟩
 |@step i k h hk ho x h1 h2 ih=>exact ih (.step hp h.lt h.opn x h2 h1)
theorem yk (h : ∀ k,Rc T O p k→¬ T.has k q) : ∀ k,Rc T O p k→¬ Rc T O q k:=fun k hp hq=>by
 obtain ⟨s,h1,h2⟩:=hq.back hp
 exact h s h1 h2
theorem xy (h : ∀ k,Rc T O p k→¬ Rc T O q k) : ∀ k,Rc T O p k→¬ T.has k q:=fun k hp hq=>h k hp (.base hp.lt hp.opn hq)
theorem wl (h : ∀ k,Rc T O p k→¬ Rc T O q k) : ∀ k,Rc T O q k→¬ Rc T O p k:=fun k h1 h2=>h k h2 h1
theorem ph {i : Nat} (hO : ∀ k,O' k↔O k∨k=i) (hm : ¬ Mt T O q i) {k : Nat} (h : Rc T O' q k) : Rc T O q k:=by
 induction h with
 |base hi ho hp=>
  rcases (hO _).1 ho with ho|rfl
  ·exact .base hi ho hp
  ·exact absurd (.inl hp) hm
 |@step j k _ hk ho x h1 h2 ih=>
  rcases (hO _).1 ho with ho|rfl
  ·exact .step ih hk ho x h1 h2
  ·exact absurd (.inr ⟨j,x,ih,h2,h1⟩) hm
theorem rp {i : Nat} (hO : ∀ k,O' k↔O k∨k=i) (hi : ¬ O i) (hm : ¬ Mt T O q i) (hd : ∀ k,Rc T O p k→¬ Rc T O q k) {k : Nat} (h : Rc T O' p k) : ¬ Rc T O q k:=by
 induction h with
 |base hi' ho hp=>
  rcases (hO _).1 ho with ho|rfl
  ·exact hd _ (.base hi' ho hp)
  ·exact fun h=>hi h.opn
 |@step j k hj hk ho x h1 h2 ih=>
  rcases (hO _).1 ho with ho|rfl
  ·intro hq
   rcases (hO _).1 hj.opn with hoj|rfl
   ·exact ih (.step hq hj.lt hoj x h2 h1)
   ·exact hm (.inr ⟨k,x,hq,h1,h2⟩)
  ·exact fun h=>hi h.opn
theorem xA {i : Nat} (hO : ∀ k,O' k↔O k∨k=i) (hi : ¬ O i) (hm : ¬ (Mt T O p i∧Mt T O q i)) (hd : ∀ k,Rc T O p k→¬ Rc T O q k) : ∀ k,Rc T O' p k→¬ Rc T O' q k:=by
 by_cases hq : Mt T O q i
 ·have hp : ¬ Mt T O p i:=fun h=>hm ⟨h,hq⟩
  exact fun k h1 h2=>rp hO hi hp (wl hd) h2 (ph hO hp h1)
 ·exact fun k h1 h2=>rp hO hi hq hd h1 (ph hO hq h2)
theorem zp {i : Nat} (hO : ∀ k,O k→O' k) (hi : i < T.n) (ho : O' i) (h1 : Mt T O p i) (h2 : Mt T O q i) : ∃ s,Rc T O' p s∧T.has s q:=by
 have hp : Rc T O' p i:=by
  rcases h1 with h1|⟨k,x,a,b,c⟩
  ·exact .base hi ho h1
  ·exact .step (a.mono hO) hi ho x c b
 rcases h2 with h2|⟨k,x,a,b,c⟩
 ·exact ⟨i,hp,h2⟩
 ·exact (a.mono hO).back (.step hp a.lt (hO _ a.opn) x b c)
theorem Und.lt (hT : T.Ok) {i j : Nat} (h : Und T i j) : i < T.n→j < T.n:=by
 induction h with
 |rfl=>exact id
 |lo hl _ ih=>exact fun hi=>ih (hT.lo_lt _ hi hl).2
 |hi hl _ ih=>exact fun hi=>ih (hT.hi_lt _ hi hl).2
theorem Und.has (hT : T.Ok) {i j : Nat} {x : X} (h : Und T i j) : i < T.n→T.has j x→T.has i x:=by
 induction h with
 |rfl=>exact fun _=>id
 |lo hl _ ih=>exact fun hi hx=>hT.has_lo _ x hi hl (ih (hT.lo_lt _ hi hl).2 hx)
 |hi hl _ ih=>exact fun hi hx=>hT.has_hi _ x hi hl (ih (hT.hi_lt _ hi hl).2 hx)
theorem Und.snoc {a i : Nat} (h : Und T a i) (hl : T.leaf i=false) : Und T a (T.lo i)∧Und T a (T.hi i):=by
 induction h with
 |rfl=>exact ⟨.lo hl .rfl,.hi hl .rfl⟩
 |lo h1 _ ih=>exact ⟨.lo h1 (ih hl).1,.lo h1 (ih hl).2⟩
 |hi h1 _ ih=>exact ⟨.hi h1 (ih hl).1,.hi h1 (ih hl).2⟩
theorem rq (hT : T.Ok) : ∀ (j : Nat),j < T.n→Und T 0 j:=by
 intro j
 induction j using Nat.strongRecOn with
 |ind j ih=>
  intro hj
  by_cases h0 : j=0
  ·subst h0;exact .rfl
  ·obtain ⟨i,hi,hl,h⟩:=hT.par j (by omega) hj
   have h1:=hT.lo_lt i hi hl
   have h2:=hT.hi_lt i hi hl
   have hs:=(ih i (by rcases h with h|h<;>omega) hi).snoc hl
   rcases h with rfl|rfl
   ·exact hs.1
   ·exact hs.2
theorem pi (hT : T.Ok) {x : X} : ∀ (d i : Nat),T.n - i=d→i < T.n→T.has i x→∃ j,Und T i j∧T.leaf j=true∧j < T.n∧T.has j x:=by
 intro d
 induction d using Nat.strongRecOn with
 |ind d ih=>
  intro i hd hi hx
  cases hl : T.leaf i with
  |true=>exact ⟨i,.rfl,hl,hi,hx⟩
  |false=>
   have h1:=hT.lo_lt i hi hl
   have h2:=hT.hi_lt i hi hl
   rcases hT.has_or i x hi hl hx with h|h
   ·obtain ⟨j,a,b⟩:=ih _ (by omega) (T.lo i) rfl h1.2 h
    exact ⟨j,.lo hl a,b⟩
   ·obtain ⟨j,a,b⟩:=ih _ (by omega) (T.hi i) rfl h2.2 h
    exact ⟨j,.hi hl a,b⟩
def me (T : TS X) (op B : Nat→Bool) : Prop:=∀ i,i < T.n→B i=if T.leaf i=true then op i else (B (T.lo i) && B (T.hi i))
variable {op B : Nat→Bool}
theorem jl (hT : T.Ok) (hB : me T op B) {i j : Nat} (h : Und T i j) : i < T.n→B i=true→T.leaf j=true→op j=true:=by
 induction h with
 |rfl=>intro hi hb hl;rw [hB _ hi,if_pos hl] at hb;exact hb
 |@lo i j hl _ ih=>
  intro hi hb hj
  rw [hB _ hi,if_neg (by rw [hl];decide),Bool.and_eq_true] at hb
  exact ih (hT.lo_lt _ hi hl).2 hb.1 hj
 |@hi i j hl _ ih=>
  intro hi hb hj
  rw [hB _ hi,if_neg (by rw [hl];decide),Bool.and_eq_true] at hb
  exact ih (hT.hi_lt _ hi hl).2 hb.2 hj
theorem om (hT : T.Ok) (hB : me T op B) : ∀ (d i : Nat),T.n - i=d→i < T.n→B i=true→∀ j j',Und T i j→T.leaf j=true→Und T i j'→T.leaf j'=true→Cn T (fun k=>op k=true) j j':=by
 intro d
 induction d using Nat.strongRecOn with
 |ind d ih=>
  intro i hd hi hb j j' hj lj hj' lj'
  cases hl : T.leaf i with
  |true=>
   have e1 : j=i:=by cases hj with
    |rfl=>rfl
    |lo h=>rw [hl] at h;cases h
    |hi h=>rw [hl] at h;cases h
   have e2 : j'=i:=by cases hj' with
    |rfl=>rfl
    |lo h=>rw [hl] at h;cases h
    |hi h=>rw [hl] at h;cases h
   subst e1;subst e2;exact .refl
  |false=>
   have h1:=hT.lo_lt i hi hl
   have h2:=hT.hi_lt i hi hl
   rw [hB _ hi,if_neg (by rw [hl];decide),Bool.and_eq_true] at hb
   obtain ⟨x,hx1,hx2⟩:=hT.face i hi hl
   obtain ⟨a,a1,a2,a3,a4⟩:=pi hT _ (T.lo i) rfl h1.2 hx1
   obtain ⟨b,b1,b2,b3,b4⟩:=pi hT _ (T.hi i) rfl h2.2 hx2
   have oa:=jl hT hB a1 h1.2 hb.1 a2
   have ob:=jl hT hB b1 h2.2 hb.2 b2
   have iL:=ih _ (by omega) (T.lo i) rfl h1.2 hb.1
   have iH:=ih _ (by omega) (T.hi i) rfl h2.2 hb.2
   cases hj with
   |rfl=>rw [hl] at lj;cases lj
   |lo _ hj=>
    cases hj' with
    |rfl=>rw [hl] at lj';cases lj'
    |lo _ hj'=>exact iL _ _ hj lj hj' lj'
    |hi _ hj'=>exact (Cn.step (iL _ _ hj lj a1 a2) b3 ob x a4 b4).trans (iH _ _ b1 b2 hj' lj')
   |hi _ hj=>
    cases hj' with
    |rfl=>rw [hl] at lj';cases lj'
    |lo _ hj'=>exact (Cn.step (iH _ _ hj lj b1 b2) a3 oa x b4 a4).trans (iL _ _ a1 a2 hj' lj')
    |hi _ hj'=>exact iH _ _ hj lj hj' lj'
def wH (T : TS X) (B K : Nat→Bool) : Prop:=∀ j,j < T.n→(K j=true↔j=0∨∃ i,i < T.n∧K i=true∧T.leaf i=false∧B i=false∧(j=T.lo i∨j=T.hi i))
variable {K : Nat→Bool}
theorem rr (hT : T.Ok) (hB : me T op B) (hK : wH T B K) {a j : Nat} (h : Und T a j) : a < T.n→K a=true→T.leaf j=true→op j=true→∃ b,b < T.n∧K b=true∧B b=true∧Und T b j:=by
 induction h with
 |@rfl i=>exact fun hi hk hl ho=>⟨i,hi,hk,by rw [hB i hi,if_pos hl];exact ho,.rfl⟩
 |@lo i j hl h ih=>
  intro hi hk hj ho
  cases hb : B i with
  |true=>exact ⟨i,hi,hk,hb,.lo hl h⟩
  |false=>
   have h1:=hT.lo_lt i hi hl
   exact ih h1.2 ((hK _ h1.2).2 (.inr ⟨i,hi,hk,hl,hb,.inl rfl⟩)) hj ho
 |@hi i j hl h ih=>
  intro hi hk hj ho
  cases hb : B i with
  |true=>exact ⟨i,hi,hk,hb,.hi hl h⟩
  |false=>
   have h1:=hT.hi_lt i hi hl
   exact ih h1.2 ((hK _ h1.2).2 (.inr ⟨i,hi,hk,hl,hb,.inr rfl⟩)) hj ho
structure Mrg (T U : TS X) (B K : Nat→Bool) (num : Nat→Nat) (oU : Nat→Prop) : Prop where
 lt : ∀ i,i < T.n→K i=true→num i < U.n
 onto : ∀ m,m < U.n→∃ i,i < T.n∧K i=true∧num i=m
 has : ∀ i x,i < T.n→K i=true→(U.has (num i) x↔T.has i x)
 opn : ∀ i,i < T.n→K i=true→(oU (num i)↔B i=true)
variable {U : TS X} {num : Nat→Nat} {oU : Nat→Prop}
theorem wn (hT : T.Ok) (hB : me T op B) (hM : Mrg T U B K num oU) {m : Nat} (h : Rc U oU p m) : ∀ a,a < T.n→K a=true→num a=m→∀ j,Und T a j→T.leaf j=true→Rc T (fun k=>op k=true) p j:=by
 induction h with
 |base hi ho hp=>
  rintro a ha hk rfl j hj lj
  have hb:=(hM.opn a ha hk).1 ho
  obtain ⟨j0,a1,a2,a3,a4⟩:=pi hT _ a rfl ha ((hM.has a p ha hk).1 hp)
  exact (om hT hB _ a rfl ha hb _ _ a1 a2 hj lj).rc (.base a3 (jl hT hB a1 ha hb a2) a4)
 |@step i k hr hk9 ho x h1 h2 ih=>
  rintro a ha hk rfl j hj lj
  have hb:=(hM.opn a ha hk).1 ho
  obtain ⟨a',ha',hk',he⟩:=hM.onto i hr.lt
  subst he
  obtain ⟨j1,b1,b2,b3,b4⟩:=pi hT _ a' rfl ha' ((hM.has a' x ha' hk').1 h1)
  obtain ⟨j0,a1,a2,a3,a4⟩:=pi hT _ a rfl ha ((hM.has a x ha hk).1 h2)
  have hr1:=ih a' ha' hk' rfl j1 b1 b2
  exact (om hT hB _ a rfl ha hb _ _ a1 a2 hj lj).rc (.step hr1 a3 (jl hT hB a1 ha hb a2) x b4 a4)
theorem yl (hT : T.Ok) (hB : me T op B) (hK : wH T B K) (hop : ∀ k,op k=true→T.leaf k=true) (hM : Mrg T U B K num oU) {j : Nat} (h : Rc T (fun k=>op k=true) p j) : ∀ a,a < T.n→K a=true→B a=true→Und T a j→Rc U oU p (num a):=by
 induction h with
 |base hi ho hp=>
  intro a ha hk hb hu
  exact .base (hM.lt a ha hk) ((hM.opn a ha hk).2 hb) ((hM.has a p ha hk).2 (hu.has hT ha hp))
 |@step i k hr hk9 ho x h1 h2 ih=>
  intro a ha hk hb hu
  have hoi:=hr.opn
  obtain ⟨a',ha',hk',hb',hu'⟩:=rr hT hB hK (rq hT i hr.lt) hT.pos ((hK 0 hT.pos).2 (.inl rfl)) (hop i hoi) hoi
  exact .step (ih a' ha' hk' hb' hu') (hM.lt a ha hk) ((hM.opn a ha hk).2 hb) x ((hM.has a' x ha' hk').2 (hu'.has hT ha' h1)) ((hM.has a x ha hk).2 (hu.has hT ha h2))
theorem xD (hT : T.Ok) (hB : me T op B) (hM : Mrg T U B K num oU) (h : ∀ k,Rc T (fun k=>op k=true) p k→¬ T.has k q) : ∀ m,Rc U oU p m→¬ U.has m q:=by
 intro m hm hq
 obtain ⟨a,ha,hk,rfl⟩:=hM.onto m hm.lt
 obtain ⟨j,a1,a2,a3,a4⟩:=pi hT _ a rfl ha ((hM.has a q ha hk).1 hq)
 exact h j (wn hT hB hM hm a ha hk rfl j a1 a2) a4
theorem pX (hT : T.Ok) (hB : me T op B) (hK : wH T B K) (hop : ∀ k,op k=true→T.leaf k=true) (hM : Mrg T U B K num oU) {i : Nat} (hi : i < T.n) (hk : K i=true) (h : Mt T (fun k=>op k=true) p i) : Mt U oU p (num i):=by
 rcases h with h|⟨k,x,h1,h2,h3⟩
 ·exact .inl ((hM.has i p hi hk).2 h)
 ·obtain ⟨a,ha,hka,hb,hu⟩:=rr hT hB hK (rq hT k h1.lt) hT.pos ((hK 0 hT.pos).2 (.inl rfl)) (hop k h1.opn) h1.opn
  exact .inr ⟨num a,x,yl hT hB hK hop hM h1 a ha hka hb hu,(hM.has i x hi hk).2 h2,(hM.has a x ha hka).2 (hu.has hT ha h3)⟩
end
end Go.Ab
namespace Go.Ab
open Go.Proofs
def aJ (t : Tr) (i : Nat) : Cel:=(t.cells[i]?).getD (aY aG)
theorem cF {t : Tr} {i : Nat} (h : i < t.cells.length) : t.cells[i]?=some (aJ t i):=by simp [aJ,List.getElem?_eq_getElem h]
theorem cg {t : Tr} {i : Nat} (h : i < t.cells.length) : aK t i=aT (aJ t i):=by rw [aK,cF h]
def cD (t : Tr) : TS (List Int):=⟨t.cells.length,aK t,fun i=>(aJ t i).low.toNat,fun i=>(aJ t i).high.toNat,fun i x=>aR (aD t (i : Int)) x=true⟩
theorem tF {b : Bx} {j : Int} (h : aQ b j=true) {q : List Int} (hq : aR (a8 b j) q=true) : aR b q=true:=by
 obtain ⟨x,hx,hv,h3,ea,ez⟩:=jy h
 have hvb:=(fI.1 h).2.1
 obtain ⟨va,vz⟩:=ej h
 obtain ⟨l1,m1⟩:=(dw va).1 hq
 have hlt:=(List.getElem?_eq_some_iff.1 hx).1
 refine (dw hvb).2 ⟨by rw [ea] at l1;simpa using l1,fun i y z hy hz=>?_⟩
 by_cases e : i=j.toNat
 ·subst e
  rw [hx] at hy;injection hy with hy;subst hy
  have:=m1 _ (x.1,(x.1+x.2) / 2) z (by rw [ea];simp [hlt]) hz
  simp only at this
  omega
 ·exact m1 i y z (by rw [ea,List.getElem?_set,if_neg (fun h=>e h.symm)];exact hy) hz
theorem tH {b : Bx} {j : Int} (h : aQ b j=true) {q : List Int} (hq : aR (ba b j) q=true) : aR b q=true:=by
 obtain ⟨x,hx,hv,h3,ea,ez⟩:=jy h
 have hvb:=(fI.1 h).2.1
 obtain ⟨va,vz⟩:=ej h
 obtain ⟨l1,m1⟩:=(dw vz).1 hq
 have hlt:=(List.getElem?_eq_some_iff.1 hx).1
 refine (dw hvb).2 ⟨by rw [ez] at l1;simpa using l1,fun i y z hy hz=>?_⟩
 by_cases e : i=j.toNat
 ·subst e
  rw [hx] at hy;injection hy with hy;subst hy
  have:=m1 _ ((x.1+x.2) / 2,x.2) z (by rw [ez];simp [hlt]) hz
  simp only at this
  omega
 ·exact m1 i y z (by rw [ez,List.getElem?_set,if_neg (fun h=>e h.symm)];exact hy) hz
theorem xk {b : Bx} {j : Int} (h : aQ b j=true) {q : List Int} (hq : aR b q=true) : aR (a8 b j) q=true∨aR (ba b j) q=true:=by
 obtain ⟨c,x,_,_,h1,h2⟩:=sQ h hq
 rcases Int.le_total c x.2 with h9|h9
 ·exact .inl (h1 h9)
 ·exact .inr (h2 h9)
theorem tI {b : Bx} {j : Int} (h : aQ b j=true) : ∃ q,aR (a8 b j) q=true∧aR (ba b j) q=true:=by
 obtain ⟨x,hx,hv,h3,ea,ez⟩:=jy h
 have hvb:=(fI.1 h).2.1
 obtain ⟨va,vz⟩:=ej h
 have hlt:=(List.getElem?_eq_some_iff.1 hx).1
 have hbv : ∀ (i : Nat) y,b[i]?=some y→y.1≤y.2:=fun i y hy=>(bD.1 (bC.1 hvb y (List.mem_of_getElem? hy))).2.1
 refine ⟨(b.map (·.1)).set j.toNat ((x.1+x.2) / 2),(dw va).2 ⟨by rw [ea];simp,fun i y z hy hz=>?_⟩,(dw vz).2 ⟨by rw [ez];simp,fun i y z hy hz=>?_⟩⟩
 ·rw [ea] at hy
  by_cases e : j.toNat=i
  ·subst e
   simp [hlt] at hy hz
   subst hy;subst hz
   exact ⟨by simp only;omega,Int.le_refl _⟩
  ·rw [List.getElem?_set,if_neg e] at hy hz
   rw [List.getElem?_map,hy] at hz
   simp only [Option.map_some,Option.some.injEq] at hz
   subst hz
   exact ⟨Int.le_refl _,hbv i y hy⟩
 ·rw [ez] at hy
  by_cases e : j.toNat=i
  ·subst e
   simp [hlt] at hy hz
   subst hy;subst hz
   exact ⟨Int.le_refl _,by simp only;omega⟩
  ·rw [List.getElem?_set,if_neg e] at hy hz
   rw [List.getElem?_map,hy] at hz
   simp only [Option.map_some,Option.some.injEq] at hz
   subst hz
   exact ⟨Int.le_refl _,hbv i y hy⟩
theorem x8 {t : Tr} (hv : av t=true) {j : Nat} (h0 : 0 < j) (hj : j < t.cells.length) : ∃ i,i < t.cells.length∧aT (aJ t i)=false∧(j=(aJ t i).low.toNat∨j=(aJ t i).high.toNat):=by
 obtain ⟨L,hL⟩:=Option.isSome_iff_exists.1 hv
 have hP:=dT (P:=fun k M=>BOk t k M∧∀ j b,0 < j→M[j]?=some (some b)→∃ i,i < t.cells.length∧aT (aJ t i)=false∧(j=(aJ t i).low.toNat∨j=(aJ t i).high.toNat)) hL ⟨fJ (cP hL),fun j b h0 hb=>by
  cases j with
  |zero=>omega
  |succ j=>simp [cK,List.getElem?_replicate] at hb⟩ (by
  rintro k e M M' hk ⟨hbo,hp⟩ hm
  refine ⟨fK hbo hm,fun j b h0 hb=>?_⟩
  obtain ⟨b',hb',⟨_,_,rfl⟩|⟨hl,hi2,hh,hlo,hhi,rfl⟩⟩:=cd hm
  ·exact hp j b h0 hb
  ·have hke : aJ t k=e:=by simp [aJ,hk]
   rw [dU hbo.len hi2] at hb
   have hkl:=(List.getElem?_eq_some_iff.1 hk).1
   split at hb
   ·rename_i e1;exact ⟨k,hkl,by rw [hke];exact hl,.inr (by rw [hke];exact e1)⟩
   ·split at hb
    ·rename_i e1;exact ⟨k,hkl,by rw [hke];exact hl,.inl (by rw [hke];exact e1)⟩
    ·exact hp j b h0 hb)
 obtain ⟨b,hb⟩:=hP.1.pre j hj
 exact hP.2 j b h0 hb
theorem b6 {t : Tr} (hv : av t=true) {i : Nat} (hi : i < t.cells.length) (hl : aK t i=false) :
 aQ (aD t (i : Int)) (aJ t i).joint=true∧aD t (((aJ t i).low.toNat : Nat) : Int)=a8 (aD t (i : Int)) (aJ t i).joint∧aD t (((aJ t i).high.toNat : Nat) : Int)=ba (aD t (i : Int)) (aJ t i).joint∧
 i < (aJ t i).low.toNat∧(aJ t i).low.toNat < t.cells.length∧i < (aJ t i).high.toNat∧(aJ t i).high.toNat < t.cells.length∧(aJ t i).low.toNat≠(aJ t i).high.toNat:=by
 rw [cg hi] at hl
 obtain ⟨h1,h2,h3,h4⟩:=ib hv (cF hi) hl
 obtain ⟨i1,i2,i3,i4,i5,_⟩:=bB.1 h1
 rw [Int.toNat_of_nonneg (show 0≤(aJ t i).low by omega),Int.toNat_of_nonneg (show 0≤(aJ t i).high by omega)]
 exact ⟨h2,h3,h4,by omega,by omega,by omega,by omega,by omega⟩
theorem rj {t : Tr} (hv : av t=true) : (cD t).Ok:=by
 have hz:=aS.1 (bn hv)
 refine ⟨hz.1,fun i hi hl=>?_,fun i hi hl=>?_,fun j h0 hj=>?_,fun i x hi hl hx=>?_,fun i x hi hl hx=>?_,fun i x hi hl hx=>?_,fun i hi hl=>?_⟩
 ·obtain ⟨_,_,_,a,b,_⟩:=b6 hv hi hl;exact ⟨a,b⟩
 ·obtain ⟨_,_,_,_,_,a,b,_⟩:=b6 hv hi hl;exact ⟨a,b⟩
 ·obtain ⟨i,hi,hl,h⟩:=x8 hv h0 hj
  exact ⟨i,hi,by show aK t i=false;rw [cg hi];exact hl,h⟩
 ·obtain ⟨a,b,c,_⟩:=b6 hv hi hl
  have hx : aR (aD t (((aJ t i).low.toNat : Nat) : Int)) x=true:=hx
  rw [b] at hx;exact tF a hx
 ·obtain ⟨a,b,c,_⟩:=b6 hv hi hl
  have hx : aR (aD t (((aJ t i).high.toNat : Nat) : Int)) x=true:=hx
  rw [c] at hx;exact tH a hx
 ·obtain ⟨a,b,c,_⟩:=b6 hv hi hl
  rcases xk a hx with h|h
  ·left;show aR (aD t (((aJ t i).low.toNat : Nat) : Int)) x=true;rw [b];exact h
  ·right;show aR (aD t (((aJ t i).high.toNat : Nat) : Int)) x=true;rw [c];exact h
 ·obtain ⟨a,b,c,_⟩:=b6 hv hi hl
  obtain ⟨x,h1,h2⟩:=tI a
  refine ⟨x,?_,?_⟩
  ·show aR (aD t (((aJ t i).low.toNat : Nat) : Int)) x=true;rw [b];exact h1
  ·show aR (aD t (((aJ t i).high.toNat : Nat) : Int)) x=true;rw [c];exact h2
theorem tJ {t : Tr} (hv : av t=true) {i : Nat} (hi : i < t.cells.length) : (aD t (i : Int)).length=t.root.length∧aU vI (aD t (i : Int))=true:=by
 have hl:=dr hv
 refine jZ (j:=i) ?_
 simp [aD,List.getElem?_eq_getElem (show i < (aw t).length by omega)]
theorem kB {t : Tr} (hv : av t=true) {i j : Nat} (hi : i < t.cells.length) (hj : j < t.cells.length) : gy t i j=true↔∃ x,aR (aD t (i : Int)) x=true∧aR (aD t (j : Int)) x=true:=by
 obtain ⟨l1,v1⟩:=tJ hv hi
 obtain ⟨l2,v2⟩:=tJ hv hj
 unfold gy
 generalize aD t (i : Int)=a at *
 generalize aD t (j : Int)=b at *
 rw [mm v1 v2]
 have va : ∀ (i : Nat) y,a[i]?=some y→y.1≤y.2:=fun i y hy=>(bD.1 (bC.1 v1 y (List.mem_of_getElem? hy))).2.1
 have vb : ∀ (i : Nat) y,b[i]?=some y→y.1≤y.2:=fun i y hy=>(bD.1 (bC.1 v2 y (List.mem_of_getElem? hy))).2.1
 constructor
 ·rintro ⟨_,h⟩
  have hw : ∀ (i : Nat) x y z,a[i]?=some x→b[i]?=some y→((List.range a.length).map fun i=>max ((a[i]?.getD (0,0)).1) ((b[i]?.getD (0,0)).1))[i]?=some z→z=max x.1 y.1:=by
   intro i x y z hx hy hz
   have hlt:=(List.getElem?_eq_some_iff.1 hx).1
   rw [List.getElem?_map,List.getElem?_range hlt,Option.map_some,hx,hy] at hz
   injection hz with hz;exact hz.symm
  refine ⟨(List.range a.length).map fun i=>max ((a[i]?.getD (0,0)).1) ((b[i]?.getD (0,0)).1),(dw v1).2 ⟨by simp,fun i x z hx hz=>?_⟩,(dw v2).2 ⟨by simp;omega,fun i y z hy hz=>?_⟩⟩
  ·have hlt:=(List.getElem?_eq_some_iff.1 hx).1
   have hy : b[i]?=some (b[i]'(by omega)):=List.getElem?_eq_getElem _
   have e:=hw i x _ z hx hy hz
   have h1:=h i x _ hx hy
   have h2:=va i x hx
   omega
  ·have hlt:=(List.getElem?_eq_some_iff.1 hy).1
   have hx : a[i]?=some (a[i]'(by omega)):=List.getElem?_eq_getElem _
   have e:=hw i _ y z hx hy hz
   have h1:=h i _ y hx hy
   have h2:=vb i y hy
   omega
 ·rintro ⟨x,h1,h2⟩
  obtain ⟨n1,m1⟩:=(dw v1).1 h1
  obtain ⟨n2,m2⟩:=(dw v2).1 h2
  refine ⟨by omega,fun i u v hu hv=>?_⟩
  have hlt:=(List.getElem?_eq_some_iff.1 hu).1
  have hx : x[i]?=some (x[i]'(by omega)):=List.getElem?_eq_getElem _
  have a1:=m1 i u _ hu hx
  have a2:=m2 i v _ hv hx
  omega
theorem oh {t : Tr} (hv : av t=true) {op : List Bool} {p : List Int} {k : Nat} : Rch t.cells.length (a9 op) (gL (aw t)) (fun i=>i < t.cells.length∧sB (aw t) op p i=true) k↔Rc (cD t) (fun i=>a9 op i=true) p k:=by
 constructor
 ·intro h
  induction h with
  |base hs=>
   obtain ⟨h1,h2⟩:=hs
   simp only [sB,Bool.and_eq_true] at h2
   exact .base h1 h2.1 (by show aR (aD t _) p=true;rw [← d0];exact h2.2)
  |@step i k _ hk ho ht ih=>
   have ht : bG (cH (aw t) i) (cH (aw t) k)=true:=ht
   rw [d0,d0] at ht
   obtain ⟨x,h1,h2⟩:=(kB hv ih.lt hk).1 ht
   exact .step ih hk ho x h1 h2
 ·intro h
  induction h with
  |base hi ho hp=>
   refine .base ⟨hi,?_⟩
   simp only [sB,Bool.and_eq_true]
   exact ⟨ho,by rw [d0];exact hp⟩
  |@step i k h hk ho x h1 h2 ih=>
   refine .step ih hk ho ?_
   show bG (cH (aw t) i) (cH (aw t) k)=true
   rw [d0,d0]
   exact (kB hv h.lt hk).2 ⟨x,h1,h2⟩
def kC (t : Tr) (op : List Bool) (p : List Int) (U : List Bool) : Prop:=IsR t.cells.length (a9 op) (gL (aw t)) (fun i=>i < t.cells.length∧sB (aw t) op p i=true) U
theorem kD {t : Tr} (hv : av t=true) {op : List Bool} {p : List Int} {U : List Bool} (h : kC t op p U) (k : Nat) : cG U k↔Rc (cD t) (fun i=>a9 op i=true) p k:=by
 rw [← oh hv]
 by_cases hk : k < t.cells.length
 ·exact h.iff k hk
 ·exact ⟨fun h'=>absurd (qR h.len h') hk,fun h'=>absurd ((oh hv).1 h').lt hk⟩
theorem fT {t : Tr} {op : List Bool} {p : List Int} {U : List Bool} (h : kC t op p U) : U.length=t.cells.length:=h.len
theorem yE {t : Tr} {p : List Int} {U : List Bool} (h : ju t p U) : kC t (t.cells.map aH) p U:=by
 have:=rg h
 rw [List.length_map] at this
 exact this
theorem rk {t : Tr} (hv : av t=true) {p q : List Int} {U : List Bool} (hU : ju t p U) : kx t U q=true↔∀ k,Rc (cD t) (fun i=>a9 (t.cells.map aH) i=true) p k→¬ aR (aD t (k : Int)) q=true:=by
 have hO:=yE hU
 constructor
 ·intro h k hk hq
  have h1:=(kD hv hO k).2 hk
  have:=o9 h1 hk.lt hq
  rw [h] at this;cases this
 ·intro h
  refine mZ fun i hi h1=>?_
  have:=h i ((kD hv hO i).1 h1)
  cases hh : ca t q i with
  |false=>rfl
  |true=>exact absurd hh this
end Go.Ab
namespace Go.Ab
open Go.Proofs
theorem fV {op : List Bool} {i : Nat} (hi : i < op.length) (k : Nat) : a9 (op.set i true) k=true↔a9 op k=true∨k=i:=by
 unfold a9
 rw [List.getElem?_set]
 by_cases e : i=k
 ·subst e;simp [hi]
 ·rw [if_neg e]
  constructor
  ·exact .inl
  ·rintro (h|rfl)
   ·exact h
   ·exact absurd rfl e
def eL (t : Tr) (i : Nat) : Bool:=di (aJ t i)
def lD (col : Nat→Bool) (mt : List Bool→Nat→Bool) (op0 : List Bool) : Nat→List Bool
 |0=>op0
 |i+1=>if (col i && !(mt (lD col mt op0 i) i))=true then (lD col mt op0 i).set i true else lD col mt op0 i
theorem ms (col : Nat→Bool) (mt : List Bool→Nat→Bool) (op0 : List Bool) : ∀ i,(lD col mt op0 i).length=op0.length
 |0=>rfl
 |i+1=>by
  rw [lD];split
  ·rw [List.length_set];exact ms col mt op0 i
  ·exact ms col mt op0 i
theorem mA {col : Nat→Bool} {mt : List Bool→Nat→Bool} {op0 : List Bool} : ∀ {i : Nat} (k : Nat),i≤op0.length→(a9 (lD col mt op0 i) k=true↔a9 op0 k=true∨(k < i∧col k=true∧mt (lD col mt op0 k) k=false))
 |0,k,_=>by simp [lD]
 |i+1,k,hi=>by
  have ih:=mA (col:=col) (mt:=mt) (op0:=op0) (i:=i) k (by omega)
  rw [lD]
  split
  ·rename_i h
   simp only [Bool.and_eq_true,Bool.not_eq_true'] at h
   rw [fV (by rw [ms];omega),ih]
   constructor
   ·rintro ((h1|⟨h1,h2⟩)|rfl)
    ·exact .inl h1
    ·exact .inr ⟨by omega,h2⟩
    ·exact .inr ⟨by omega,h⟩
   ·rintro (h1|⟨h1,h2⟩)
    ·exact .inl (.inl h1)
    ·by_cases e : k=i
     ·exact .inr e
     ·exact .inl (.inr ⟨by omega,h2⟩)
  ·rename_i h
   rw [ih]
   constructor
   ·rintro (h1|⟨h1,h2⟩)
    ·exact .inl h1
    ·exact .inr ⟨by omega,h2⟩
   ·rintro (h1|⟨h1,h2,h3⟩)
    ·exact .inl h1
    ·by_cases e : k=i
     ·subst e;exact absurd (by simp [h2,h3]) h
     ·exact .inr ⟨by omega,h2,h3⟩
theorem v4 {col : Nat→Bool} {mt : List Bool→Nat→Bool} {op0 : List Bool} {i j k : Nat} (hij : i≤j) (hj : j≤op0.length) (h : a9 (lD col mt op0 i) k=true) : a9 (lD col mt op0 j) k=true:=by
 rw [mA k (by omega)] at h
 rw [mA k hj]
 rcases h with h|⟨h1,h2⟩
 ·exact .inl h
 ·exact .inr ⟨by omega,h2⟩
def jW (bs : List Bx) (i : Nat) (U : List Bool) (q : List Int) : Bool:=aR (cH bs i) q || (List.range U.length).any fun k=>a9 U k && bG (cH bs i) (cH bs k)
theorem tN {U : List Bool} {k : Nat} : a9 U k=true↔cG U k:=by
 unfold a9 cG
 cases U[k]? with
 |none=>simp
 |some b=>simp
theorem fY {t : Tr} (hv : av t=true) {op : List Bool} {p : List Int} {U : List Bool} (hU : kC t op p U) {i : Nat} (hi : i < t.cells.length) : jW (aw t) i U p=true↔Mt (cD t) (fun k=>a9 op k=true) p i:=by
 have hl:=fT hU
 simp only [jW,Bool.or_eq_true,List.any_eq_true,List.mem_range,Bool.and_eq_true,d0]
 constructor
 ·rintro (h|⟨k,h1,h2,h3⟩)
  ·exact .inl h
  ·obtain ⟨x,a,b⟩:=(kB hv hi (by omega)).1 h3
   exact .inr ⟨k,x,(kD hv hU k).1 (tN.1 h2),a,b⟩
 ·rintro (h|⟨k,x,h1,h2,h3⟩)
  ·exact .inl h
  ·have hk:=h1.lt
   have hk : k < t.cells.length:=hk
   exact .inr ⟨k,by omega,tN.2 ((kD hv hU k).2 h1),(kB hv hi hk).2 ⟨x,h2,h3⟩⟩
def kE (t : Tr) (R : List Bool→List Int→List Bool) (p q : List Int) (op : List Bool) (i : Nat) : Bool:=jW (aw t) i (R op p) p && jW (aw t) i (R op q) q
def cp (t : Tr) (R : List Bool→List Int→List Bool) (p q : List Int) (i : Nat) : List Bool:=lD (eL t) (kE t R p q) (t.cells.map aH) i
abbrev OO (op : List Bool) : Nat→Prop:=fun k=>a9 op k=true
theorem v5 {t : Tr} {k : Nat} (h : a9 (t.cells.map aH) k=true) : k < t.cells.length∧aK t k=true∧eL t k=false:=by
 unfold a9 at h
 rw [List.getElem?_map] at h
 by_cases hk : k < t.cells.length
 ·rw [cF hk] at h
  simp only [Option.map_some,Option.getD_some,aH,Bool.and_eq_true,Bool.not_eq_true'] at h
  exact ⟨hk,by rw [cg hk];exact h.1,h.2⟩
 ·rw [List.getElem?_eq_none (by omega)] at h
  simp at h
theorem pV {t : Tr} {k : Nat} (hk : k < t.cells.length) (h : eL t k=true) : aK t k=true:=by
 rw [cg hk]
 simp only [eL,di,Bool.and_eq_true] at h
 exact h.1
section
variable {t : Tr} {R : List Bool→List Int→List Bool} {p q : List Int}
theorem k7 (i : Nat) : (cp t R p q i).length=t.cells.length:=by rw [cp,ms,List.length_map]
theorem mB {i : Nat} (k : Nat) (hi : i≤t.cells.length) : a9 (cp t R p q i) k=true↔a9 (t.cells.map aH) k=true∨(k < i∧eL t k=true∧kE t R p q (cp t R p q k) k=false):=mA k (by rw [List.length_map];exact hi)
theorem v6 {i k : Nat} (hi : i≤t.cells.length) (h : a9 (cp t R p q i) k=true) : k < t.cells.length∧aK t k=true:=by
 rcases (mB k hi).1 h with h|⟨h1,h2,_⟩
 ·exact ⟨(v5 h).1,(v5 h).2.1⟩
 ·exact ⟨by omega,pV (by omega) h2⟩
theorem xm (hv : av t=true) (hR : ∀ op x,op.length=t.cells.length→kC t op x (R op x)) (h0 : ∀ k,Rc (cD t) (OO (t.cells.map aH)) p k→¬ Rc (cD t) (OO (t.cells.map aH)) q k) : ∀ i,i≤t.cells.length→∀ k,Rc (cD t) (OO (cp t R p q i)) p k→¬ Rc (cD t) (OO (cp t R p q i)) q k:=by
 intro i
 induction i with
 |zero=>intro _;exact h0
 |succ i ih=>
  intro hi
  have ih:=ih (by omega)
  have hst : cp t R p q (i+1)=if (eL t i && !(kE t R p q (cp t R p q i) i))=true then (cp t R p q i).set i true else cp t R p q i:=rfl
  rw [hst]
  split
  ·rename_i h
   simp only [Bool.and_eq_true,Bool.not_eq_true'] at h
   have hlen:=k7 (t:=t) (R:=R) (p:=p) (q:=q) i
   have hno : ¬ a9 (cp t R p q i) i=true:=fun h9=>by
    rcases (mB i (by omega)).1 h9 with h9|h9
    ·have:=(v5 h9).2.2;rw [h.1] at this;cases this
    ·omega
   refine xA (T:=cD t) (O:=OO (cp t R p q i)) (fun k=>fV (by omega) k) hno ?_ ih
   rintro ⟨a,b⟩
   have hm : kE t R p q (cp t R p q i) i=true:=by
    rw [kE,(fY hv (hR _ p hlen) (by omega)).2 a,(fY hv (hR _ q hlen) (by omega)).2 b];rfl
   rw [h.2] at hm;cases hm
  ·exact ih
theorem xn (hv : av t=true) (hR : ∀ op x,op.length=t.cells.length→kC t op x (R op x)) {i : Nat} (hi : i < t.cells.length) (hc : eL t i=true) (hn : a9 (cp t R p q t.cells.length) i=false) : Mt (cD t) (OO (cp t R p q t.cells.length)) p i∧Mt (cD t) (OO (cp t R p q t.cells.length)) q i:=by
 have hlen:=k7 (t:=t) (R:=R) (p:=p) (q:=q) i
 have hm : kE t R p q (cp t R p q i) i=true:=by
  cases h : kE t R p q (cp t R p q i) i with
  |true=>rfl
  |false=>
   have:=(mB (R:=R) (p:=p) (q:=q) i (Nat.le_refl t.cells.length)).2 (.inr ⟨hi,hc,h⟩)
   rw [hn] at this;cases this
 simp only [kE,Bool.and_eq_true] at hm
 have mono : ∀ k,OO (cp t R p q i) k→OO (cp t R p q t.cells.length) k:=fun k h=>v4 (by omega) (by rw [List.length_map];exact Nat.le_refl _) h
 exact ⟨((fY hv (hR _ p hlen) hi).1 hm.1).mono mono,((fY hv (hR _ q hlen) hi).1 hm.2).mono mono⟩
theorem v9 (hv : av t=true) (hR : ∀ op x,op.length=t.cells.length→kC t op x (R op x)) (hm : ∀ i,i < t.cells.length→eL t i=true→Mt (cD t) (OO (t.cells.map aH)) p i∧Mt (cD t) (OO (t.cells.map aH)) q i) : ∀ i,i≤t.cells.length→cp t R p q i=t.cells.map aH:=by
 intro i
 induction i with
 |zero=>intro _;rfl
 |succ i ih=>
  intro hi
  have ih:=ih (by omega)
  have hst : cp t R p q (i+1)=if (eL t i && !(kE t R p q (cp t R p q i) i))=true then (cp t R p q i).set i true else cp t R p q i:=rfl
  rw [hst,ih]
  rw [if_neg]
  intro h
  simp only [Bool.and_eq_true,Bool.not_eq_true'] at h
  have hl0 : (t.cells.map aH).length=t.cells.length:=List.length_map ..
  obtain ⟨a,b⟩:=hm i (by omega) h.1
  have hm : kE t R p q (t.cells.map aH) i=true:=by
   rw [kE,(fY hv (hR _ p hl0) (by omega)).2 a,(fY hv (hR _ q hl0) (by omega)).2 b];rfl
  rw [h.2] at hm;cases hm
end
end Go.Ab
namespace Go.Ab
open Go.Proofs
def iM (t : Tr) (op : List Bool) : Nat→Nat→Bool
 |0,_=>false
 |f+1,i=>if aK t i=true then a9 op i else (iM t op f (aJ t i).low.toNat && iM t op f (aJ t i).high.toNat)
def ap (t : Tr) (op : List Bool) (i : Nat) : Bool:=iM t op (t.cells.length - i) i
theorem wb {t : Tr} (hv : av t=true) (op : List Bool) : ∀ (f i : Nat),i < t.cells.length→t.cells.length - i≤f→iM t op (f+1) i=iM t op f i:=by
 intro f
 induction f with
 |zero=>intro i h1 h2;omega
 |succ f ih=>
  intro i hi hf
  show (if aK t i=true then a9 op i else (iM t op (f+1) (aJ t i).low.toNat && iM t op (f+1) (aJ t i).high.toNat))=(if aK t i=true then a9 op i else (iM t op f (aJ t i).low.toNat && iM t op f (aJ t i).high.toNat))
  cases hl : aK t i with
  |true=>rfl
  |false=>
   obtain ⟨_,_,_,a,b,c,d,_⟩:=b6 hv hi hl
   rw [ih _ b (by omega),ih _ d (by omega)]
theorem pc {t : Tr} (hv : av t=true) (op : List Bool) {i : Nat} (hi : i < t.cells.length) : ∀ d,iM t op (t.cells.length - i+d) i=ap t op i
 |0=>rfl
 |d+1=>by rw [← Nat.add_assoc,wb hv op _ i hi (by omega)];exact pc hv op hi d
theorem k8 {t : Tr} (hv : av t=true) (op : List Bool) : me (cD t) (a9 op) (ap t op):=by
 intro i hi
 have hi : i < t.cells.length:=hi
 obtain ⟨g,hg⟩ : ∃ g,t.cells.length - i=g+1:=⟨t.cells.length - i - 1,by omega⟩
 show iM t op (t.cells.length - i) i=_
 rw [hg,iM]
 show (if aK t i=true then _ else _)=(if aK t i=true then _ else _)
 cases hl : aK t i with
 |true=>rfl
 |false=>
  obtain ⟨_,_,_,a,b,c,d,_⟩:=b6 hv hi hl
  have h1:=pc hv op b (g - (t.cells.length - (aJ t i).low.toNat))
  have h2:=pc hv op d (g - (t.cells.length - (aJ t i).high.toNat))
  rw [show t.cells.length - (aJ t i).low.toNat+(g - (t.cells.length - (aJ t i).low.toNat))=g by omega] at h1
  rw [show t.cells.length - (aJ t i).high.toNat+(g - (t.cells.length - (aJ t i).high.toNat))=g by omega] at h2
  rw [if_neg (by decide),if_neg (by decide),h1,h2];rfl
theorem rl {t : Tr} (hv : av t=true) (op : List Bool) {i : Nat} (hi : i < t.cells.length) : ap t op i=if aK t i=true then a9 op i else (ap t op (aJ t i).low.toNat && ap t op (aJ t i).high.toNat):=k8 hv op i hi
def d9 (t : Tr) (op : List Bool) : Nat→List Bool
 |0=>(List.replicate t.cells.length false).set 0 true
 |i+1=>if (a9 (d9 t op i) i && (!aK t i && !ap t op i))=true then ((d9 t op i).set (aJ t i).low.toNat true).set (aJ t i).high.toNat true else d9 t op i
def kp (t : Tr) (op : List Bool) (i : Nat) : Bool:=a9 (d9 t op t.cells.length) i
theorem la (t : Tr) (op : List Bool) : ∀ i,(d9 t op i).length=t.cells.length
 |0=>by simp [d9]
 |i+1=>by
  rw [d9];split
  ·rw [List.length_set,List.length_set];exact la t op i
  ·exact la t op i
theorem mC {t : Tr} (hv : av t=true) (op : List Bool) : ∀ (i : Nat),i≤t.cells.length→∀ j,j < t.cells.length→(a9 (d9 t op i) j=true↔j=0∨∃ k,k < i∧a9 (d9 t op k) k=true∧aK t k=false∧ap t op k=false∧(j=(aJ t k).low.toNat∨j=(aJ t k).high.toNat))
 |0,_,j,hj=>by
  simp only [d9,a9,List.getElem?_set,List.length_replicate]
  by_cases e : 0=j
  ·subst e;simp [hj]
  ·rw [if_neg e];simp [hj];omega
 |i+1,hi,j,hj=>by
  have ih:=mC hv op i (by omega) j hj
  rw [d9]
  split
  ·rename_i h
   simp only [Bool.and_eq_true,Bool.not_eq_true'] at h
   obtain ⟨h1,h2,h3⟩:=h
   obtain ⟨_,_,_,a,b,c,d,_⟩:=b6 hv (show i < t.cells.length by omega) h2
   rw [fV (by rw [List.length_set,la];exact d),fV (by rw [la];exact b),ih]
   constructor
   ·rintro (((h|⟨k,hk,h⟩)|h)|h)
    ·exact .inl h
    ·exact .inr ⟨k,by omega,h⟩
    ·exact .inr ⟨i,by omega,h1,h2,h3,.inl h⟩
    ·exact .inr ⟨i,by omega,h1,h2,h3,.inr h⟩
   ·rintro (h|⟨k,hk,h⟩)
    ·exact .inl (.inl (.inl h))
    ·by_cases e : k=i
     ·subst e
      rcases h.2.2.2 with h|h
      ·exact .inl (.inr h)
      ·exact .inr h
     ·exact .inl (.inl (.inr ⟨k,by omega,h⟩))
  ·rename_i h
   rw [ih]
   constructor
   ·rintro (h9|⟨k,hk,h9⟩)
    ·exact .inl h9
    ·exact .inr ⟨k,by omega,h9⟩
   ·rintro (h9|⟨k,hk,h9⟩)
    ·exact .inl h9
    ·by_cases e : k=i
     ·subst e
      exact absurd (by simp [h9.1,h9.2.1,h9.2.2.1]) h
     ·exact .inr ⟨k,by omega,h9⟩
theorem rm {t : Tr} (hv : av t=true) (op : List Bool) {i : Nat} (hi : i < t.cells.length) : a9 (d9 t op i) i=kp t op i:=by
 rw [Bool.eq_iff_iff,kp,mC hv op i (by omega) i hi,mC hv op t.cells.length (Nat.le_refl _) i hi]
 constructor
 ·rintro (h|⟨k,hk,h⟩)
  ·exact .inl h
  ·exact .inr ⟨k,by omega,h⟩
 ·rintro (h|⟨k,hk,h1,h2,h3,h4⟩)
  ·exact .inl h
  ·obtain ⟨_,_,_,a,b,c,d,_⟩:=b6 hv hk h2
   exact .inr ⟨k,by rcases h4 with h4|h4<;>omega,h1,h2,h3,h4⟩
theorem lK {t : Tr} (hv : av t=true) (op : List Bool) : wH (cD t) (ap t op) (kp t op):=by
 intro j hj
 rw [kp,mC hv op t.cells.length (Nat.le_refl _) j hj]
 constructor
 ·rintro (h|⟨k,hk,h1,h2⟩)
  ·exact .inl h
  ·exact .inr ⟨k,hk,by rw [← rm hv op hk];exact h1,h2⟩
 ·rintro (h|⟨k,hk,h1,h2⟩)
  ·exact .inl h
  ·exact .inr ⟨k,hk,by rw [rm hv op hk];exact h1,h2⟩
def jX (K : Nat→Bool) (n : Nat) : List Nat:=(List.range n).filter K
def aV (K : Nat→Bool) (i : Nat) : Nat:=(jX K i).length
theorem m4 (K : Nat→Bool) (n : Nat) : jX K (n+1)=if K n=true then jX K n++[n] else jX K n:=by
 simp only [jX,List.range_succ,List.filter_append]
 cases h : K n<;>simp [h]
theorem fH (K : Nat→Bool) (n : Nat) : aV K (n+1)=if K n=true then aV K n+1 else aV K n:=by
 unfold aV;rw [m4];split<;>simp
theorem wd {K : Nat→Bool} {i j : Nat} (h : i≤j) : aV K i≤aV K j:=by
 induction h with
 |refl=>exact Nat.le_refl _
 |step _ ih=>rw [fH];split<;>omega
theorem lL (K : Nat→Bool) (i : Nat) : aV K i≤i:=by
 have:=List.length_filter_le K (List.range i)
 simpa [aV,jX] using this
theorem gA {K : Nat→Bool} {i j : Nat} (h : i < j) (hk : K i=true) : aV K i < aV K j:=by
 have:=wd (K:=K) (show i+1≤j from h)
 rw [fH,if_pos hk] at this
 omega
theorem pd {K : Nat→Bool} {i j : Nat} (hi : K i=true) (hj : K j=true) (h : aV K i=aV K j) : i=j:=by
 rcases Nat.lt_trichotomy i j with h1|h1|h1
 ·have:=gA h1 hi;omega
 ·exact h1
 ·have:=gA h1 hj;omega
theorem rn {K : Nat→Bool} {i : Nat} (hk : K i=true) : ∀ {n : Nat},i < n→(jX K n)[aV K i]?=some i
 |0,h=>by omega
 |n+1,h=>by
  rw [m4]
  by_cases e : i=n
  ·subst e;rw [if_pos hk];exact List.getElem?_concat_length
  ·have ih:=rn hk (n:=n) (by omega)
   split
   ·rw [List.getElem?_append_left (List.getElem?_eq_some_iff.1 ih).1];exact ih
   ·exact ih
theorem m5 {K : Nat→Bool} {n m : Nat} (h : m < aV K n) : ∃ i,i < n∧K i=true∧aV K i=m:=by
 induction n with
 |zero=>simp [aV,jX] at h
 |succ n ih=>
  rw [fH] at h
  split at h
  ·rename_i hk
   by_cases e : m=aV K n
   ·exact ⟨n,by omega,hk,e.symm⟩
   ·obtain ⟨i,a,b⟩:=ih (by omega);exact ⟨i,by omega,b⟩
  ·obtain ⟨i,a,b⟩:=ih h;exact ⟨i,by omega,b⟩
def bW (t : Tr) (op : List Bool) (i : Nat) : Cel:=if ap t op i=true then aY aG else if aK t i=true then aJ t i else ⟨(aJ t i).joint,(aV (kp t op) (aJ t i).low.toNat : Nat),(aV (kp t op) (aJ t i).high.toNat : Nat),aG⟩
def er (t : Tr) (op : List Bool) (n : Nat) : List Cel:=(jX (kp t op) n).map (bW t op)
def az (t : Tr) (op : List Bool) : Tr:=⟨t.root,er t op t.cells.length⟩
theorem pe (t : Tr) (op : List Bool) (n : Nat) : (er t op n).length=aV (kp t op) n:=by simp [er,aV]
theorem we (t : Tr) (op : List Bool) (n : Nat) : er t op (n+1)=if kp t op n=true then er t op n++[bW t op n] else er t op n:=by
 unfold er;rw [m4];split<;>simp
theorem pf {t : Tr} {op : List Bool} {i : Nat} (hi : i < t.cells.length) (hk : kp t op i=true) : (az t op).cells[aV (kp t op) i]?=some (bW t op i):=by
 show (er t op t.cells.length)[_]?=_
 rw [er,List.getElem?_map,rn hk hi];rfl
theorem gB {t : Tr} {op : List Bool} {i : Nat} (hi : i < t.cells.length) : aT (bW t op i)=(ap t op i || aK t i):=by
 unfold bW
 cases hb : ap t op i with
 |true=>simp [fe]
 |false=>
  rw [if_neg (by decide)]
  cases hl : aK t i with
  |true=>rw [if_pos rfl,← cg hi,hl];rfl
  |false=>
   rw [if_neg (by decide)]
   simp [aT]
section
variable {t : Tr} {op : List Bool}
theorem sm (hv : av t=true) : kp t op 0=true:=(lK hv op 0 (rj hv).pos).2 (.inl rfl)
theorem l4 (hv : av t=true) {i : Nat} (hi : i < t.cells.length) (hl : aK t i=false) : kp t op (aJ t i).low.toNat=(kp t op i && !ap t op i)∧kp t op (aJ t i).high.toNat=(kp t op i && !ap t op i):=by
 obtain ⟨_,_,_,a,b,c,d,e⟩:=b6 hv hi hl
 have hkid:=sM hv
 have key : ∀ j,(j=(aJ t i).low.toNat∨j=(aJ t i).high.toNat)→kp t op j=(kp t op i && !ap t op i):=by
  intro j hj
  have hj0 : i < j∧j < t.cells.length:=by rcases hj with rfl|rfl<;>omega
  rw [Bool.eq_iff_iff,lK hv op j hj0.2]
  simp only [Bool.and_eq_true,Bool.not_eq_true']
  constructor
  ·rintro (h|⟨k,hk,h1,h2,h3,h4⟩)
   ·omega
   ·have hk : k < t.cells.length:=hk
    have h2 : aK t k=false:=h2
    have h4 : j=(aJ t k).low.toNat∨j=(aJ t k).high.toNat:=h4
    by_cases ek : k=i
    ·subst ek;exact ⟨h1,h3⟩
    ·obtain ⟨d1,d2,d3,d4⟩:=hkid.dif k i _ _ (cF hk) (cF hi) (by rw [← cg hk];exact h2) (by rw [← cg hi];exact hl) ek
     obtain ⟨_,_,_,a',b',c',d',e'⟩:=b6 hv hk h2
     exfalso
     rcases hj with rfl|rfl<;>rcases h4 with h4|h4<;>omega
  ·rintro ⟨h1,h2⟩
   exact .inr ⟨i,hi,h1,hl,h2,hj⟩
 exact ⟨key _ (.inl rfl),key _ (.inr rfl)⟩
def ma (K : Nat→Bool) (n : Nat) (M : OL) : OL:=(jX K n).map fun i=>(M[i]?).getD none
theorem fq {K : Nat→Bool} {n : Nat} {M : OL} {i : Nat} {o : Option Bx} (hi : i < n) (hk : K i=true) (h : M[i]?=some o) : (ma K n M)[aV K i]?=some o:=by
 rw [ma,List.getElem?_map,rn hk hi,Option.map_some,h];rfl
theorem le (K : Nat→Bool) (n : Nat) (M : OL) : (ma K n M).length=aV K n:=by simp [ma,aV]
theorem tO {K : Nat→Bool} {n : Nat} {M M' : OL} (h : ∀ i,i < n→K i=true→M[i]?=M'[i]?) : ma K n M=ma K n M':=by
 unfold ma
 refine List.map_congr_left fun i hi=>?_
 simp only [jX,List.mem_filter,List.mem_range] at hi
 rw [h i hi.1 hi.2]
theorem mN (hv : av t=true) (hf : ∀ i,i < t.cells.length→aK t i=true→bE (aJ t i).v=true) {L : OL} (hL : bd t=some L) : bd (az t op)=some (ma (kp t op) t.cells.length L):=by
 have hsz:=cP hL
 obtain ⟨z1,z2,z3,z4,z5⟩:=aS.1 hsz
 have hlen : (az t op).cells.length=aV (kp t op) t.cells.length:=pe t op _
 have h0:=sm (op:=op) hv
 have hpos : 0 < aV (kp t op) t.cells.length:=by
  have:=gA (K:=kp t op) (show 0 < t.cells.length by omega) h0
  omega
 have hle:=lL (kp t op) t.cells.length
 have hTs : cE (az t op)=true:=aS.2 ⟨by omega,by omega,z3,z4,z5⟩
 have hkid : ∀ i,i < t.cells.length→aK t i=false→_:=fun i hi hl=>l4 (op:=op) hv hi hl
 have hinn : ∀ i,i < t.cells.length→aK t i=false→_:=fun i hi hl=>b6 hv hi hl
 have hmc:=fun i (hi : i < t.cells.length) (hk : kp t op i=true)=>pf (t:=t) (op:=op) hi hk
 have hmi : ∀ e : Cel,∀ k,ap t op k=false→aK t k=false→aJ t k=e→bW t op k=⟨e.joint,(aV (kp t op) e.low.toNat : Nat),(aV (kp t op) e.high.toNat : Nat),aG⟩:=fun e k h1 h2 h3=>by rw [bW,if_neg (by rw [h1];decide),if_neg (by rw [h2];decide),h3]
 generalize kp t op=K at *
 have hP:=dT (P:=fun k M=>BOk t k M∧eS (aV K t.cells.length) ((az t op).cells.drop (aV K k)) (aV K k) (ma K t.cells.length M)=bd (az t op)) hL ⟨fJ hsz,by
  rw [bd,if_pos hTs,hlen]
  have e0 : aV K 0=0:=rfl
  rw [e0,List.drop_zero]
  congr 1
  apply List.ext_getElem?
  intro m
  by_cases hm : m < aV K t.cells.length
  ·obtain ⟨i,hi,hk,rfl⟩:=m5 hm
   by_cases e : i=0
   ·subst e
    rw [fq (o:=some t.root) hi hk (by simp [cK])]
    simp [cK,e0,az]
   ·have hb : (cK t)[i]?=some none:=by
     obtain ⟨i',rfl⟩ : ∃ i',i=i'+1:=⟨i - 1,by omega⟩
     simp [cK,List.getElem?_replicate];omega
    rw [fq hi hk hb]
    have hn0:=gA (show 0 < i by omega) h0
    rw [e0] at hn0
    obtain ⟨m',hm'⟩ : ∃ m',aV K i=m'+1:=⟨aV K i - 1,by omega⟩
    rw [hm'] at hm ⊢
    simp [cK,List.getElem?_replicate,hlen];omega
  ·rw [List.getElem?_eq_none (by rw [le];omega),List.getElem?_eq_none (by simp [cK,hlen];omega)]⟩ (by
  rintro k e M M' hk ⟨hbo,hp⟩ hm
  refine ⟨fK hbo hm,?_⟩
  rw [← hp]
  have hkn:=(List.getElem?_eq_some_iff.1 hk).1
  have hke : aJ t k=e:=by simp [aJ,hk]
  have hkl : aK t k=aT e:=by rw [cg hkn,hke]
  obtain ⟨b,hb,hcase⟩:=cd hm
  have same : (aT e=true∨K k=false∨ap t op k=true)→ma K t.cells.length M'=ma K t.cells.length M:=by
   intro h9
   rcases hcase with ⟨_,_,rfl⟩|⟨hl,hi2,_,_,_,rfl⟩
   ·rfl
   ·refine tO fun i hi hki=>?_
    have hl' : aK t k=false:=by rw [hkl];exact hl
    obtain ⟨q1,q2⟩:=hkid k hkn hl'
    have hno : (K k && !ap t op k)=false:=by
     rcases h9 with h9|h9|h9
     ·rw [hl] at h9;cases h9
     ·rw [h9];rfl
     ·rw [h9];simp
    rw [hno,hke] at q1 q2
    rw [dU hbo.len hi2,if_neg (by rintro rfl;rw [hki] at q2;cases q2),if_neg (by rintro rfl;rw [hki] at q1;cases q1)]
  cases hKk : K k with
  |false=>
   rw [same (.inr (.inl hKk)),fH,if_neg (by rw [hKk];decide)]
  |true=>
   rw [fH,if_pos hKk]
   have hvk:=fq hkn hKk hb
   have hcell:=hmc k hkn hKk
   refine (gb hcell ?_).symm
   have hleaf:=gB (op:=op) hkn
   cases hbl : ap t op k with
   |true=>
    rw [same (.inr (.inr hbl))]
    have hm9 : bW t op k=aY aG:=by rw [bW,if_pos hbl]
    rw [hm9,dv (t:=t) hvk (fe _),if_pos (show bE (aY aG).v=true from lC)]
   |false=>
    rw [hbl,Bool.false_or,hkl] at hleaf
    rcases hcase with ⟨hl,hfm,hMM⟩|⟨hl,hi2,hh,hlo,hhi,hMM⟩
    ·rw [same (.inl hl)]
     have hm9 : bW t op k=e:=by rw [bW,if_neg (by rw [hbl];decide),if_pos (by rw [hkl];exact hl),hke]
     rw [hm9,dv (t:=t) hvk hl,if_pos hfm]
    ·have hl' : aK t k=false:=by rw [hkl];exact hl
     obtain ⟨_,_,_,a,b9,c,d,ne⟩:=hinn k hkn hl'
     obtain ⟨q1,q2⟩:=hkid k hkn hl'
     rw [hKk,hbl] at q1 q2
     rw [hke] at a b9 c d ne q1 q2
     have q1 : K e.low.toNat=true:=q1
     have q2 : K e.high.toNat=true:=q2
     have hm9 : bW t op k=⟨e.joint,(aV K e.low.toNat : Nat),(aV K e.high.toNat : Nat),aG⟩:=hmi e k hbl hl' hke
     have n1:=gA a hKk
     have n2:=gA b9 q1
     have n3:=gA c hKk
     have n4:=gA d q2
     have n5 : aV K e.low.toNat≠aV K e.high.toNat:=fun h=>ne (pd q1 q2 h)
     rw [hm9]
     rw [hm9,hl] at hleaf
     have hin : dB (aV K t.cells.length) (aV K k) ⟨e.joint,(aV K e.low.toNat : Nat),(aV K e.high.toNat : Nat),aG⟩=true:=bB.2 ⟨by simp only;omega,by simp only;omega,by simp only;omega,by simp only;omega,by simp only;omega,oq⟩
     rw [gD hvk hleaf hin hh (by simp only [Int.toNat_natCast];exact fq b9 q1 hlo) (by simp only [Int.toNat_natCast];exact fq d q2 hhi)]
     congr 1
     simp only [Int.toNat_natCast]
     subst hMM
     apply List.ext_getElem?
     intro m
     by_cases hm : m < aV K t.cells.length
     ·obtain ⟨i,hi,hki,rfl⟩:=m5 hm
      rw [rv n5 (by rw [le];exact n2) (by rw [le];exact n4)]
      have hM9:=dU (x:=some (a8 b e.joint)) (y:=some (ba b e.joint)) (j:=i) hbo.len hi2
      by_cases e1 : i=e.high.toNat
      ·subst e1
       rw [if_pos rfl] at hM9
       rw [if_pos rfl,fq hi hki hM9]
      ·rw [if_neg e1] at hM9
       rw [if_neg (fun h=>e1 (pd hki q2 h))]
       by_cases e2 : i=e.low.toNat
       ·subst e2
        rw [if_pos rfl] at hM9
        rw [if_pos rfl,fq hi hki hM9]
       ·rw [if_neg e2] at hM9
        rw [if_neg (fun h=>e2 (pd hki q1 h))]
        have hMi : M[i]?=some (M[i]'(by rw [hbo.len];exact hi)):=List.getElem?_eq_getElem _
        rw [fq hi hki (hM9.trans hMi),fq hi hki hMi]
     ·rw [List.getElem?_eq_none (by rw [List.length_set,List.length_set,le];omega),List.getElem?_eq_none (by rw [le];omega)])
 rw [← hP.2,List.drop_eq_nil_of_le (by rw [hlen];exact Nat.le_refl _)]
 rfl
theorem ol (hv : av t=true) : ∀ i,i < t.cells.length→aK t i=true→bE (aJ t i).v=true:=by
 obtain ⟨L,hL⟩:=Option.isSome_iff_exists.1 hv
 intro i hi hl
 exact p5 hL (cF hi) (by rw [← cg hi];exact hl)
theorem ei (hv : av t=true) : av (az t op)=true:=by
 obtain ⟨L,hL⟩:=Option.isSome_iff_exists.1 hv
 rw [av,mN hv (ol hv) hL];rfl
theorem tP (hv : av t=true) {i : Nat} (hi : i < t.cells.length) (hk : kp t op i=true) : aD (az t op) ((aV (kp t op) i : Nat) : Int)=aD t (i : Int):=by
 obtain ⟨L,hL⟩:=Option.isSome_iff_exists.1 hv
 obtain ⟨b,hb⟩:=(ik hL).pre i hi
 rw [jz hL hb]
 exact jz (mN hv (ol hv) hL) (fq hi hk hb)
theorem jx {i : Nat} (hi : i < t.cells.length) (hk : kp t op i=true) : aJ (az t op) (aV (kp t op) i)=bW t op i:=by
 simp [aJ,pf hi hk]
theorem mb (t : Tr) (op : List Bool) : (az t op).cells.length=aV (kp t op) t.cells.length:=pe t op _
theorem x9 (hv : av t=true) (hop : ∀ k,k < t.cells.length→aK t k=true→a9 op k=false→aH (aJ t k)=false) : Mrg (cD t) (cD (az t op)) (ap t op) (kp t op) (aV (kp t op)) (OO ((az t op).cells.map aH)):=by
 refine ⟨fun i hi hk=>?_,fun m hm=>?_,fun i x hi hk=>?_,fun i hi hk=>?_⟩
 ·show _ < (az t op).cells.length
  rw [mb];exact gA hi hk
 ·have hm : m < (az t op).cells.length:=hm
  rw [mb] at hm
  exact m5 hm
 ·show aR (aD (az t op) _) x=true↔aR (aD t _) x=true
  rw [tP hv hi hk]
 ·show a9 ((az t op).cells.map aH) (aV (kp t op) i)=true↔_
  have e : a9 ((az t op).cells.map aH) (aV (kp t op) i)=aH (bW t op i):=by
   unfold a9;rw [List.getElem?_map,pf hi hk];rfl
  rw [e]
  have hB:=rl hv op hi
  cases hb : ap t op i with
  |true=>rw [bW,if_pos hb];decide
  |false=>
   rw [bW,if_neg (by rw [hb];decide)]
   cases hl : aK t i with
   |true=>
    rw [hb,if_pos hl] at hB
    rw [if_pos rfl,hop i hi hl hB.symm]
   |false=>
    rw [if_neg (by decide)]
    have:=gB (op:=op) hi
    rw [hb,hl,bW,if_neg (by rw [hb];decide),if_neg (by rw [hl];decide)] at this
    simp only [aH,this,Bool.false_or,Bool.false_and]
end
end Go.Ab
namespace Go.Ab
open Go.Proofs
theorem Rc.cast {X : Type} {T T' : TS X} {O : Nat→Prop} {p : X} (hn : T.n=T'.n) (hh : ∀ i x,T.has i x→T'.has i x) {k : Nat} (h : Rc T O p k) : Rc T' O p k:=by
 induction h with
 |base hi ho hp=>exact .base (by rw [← hn];exact hi) ho (hh _ _ hp)
 |step _ hk ho x h1 h2 ih=>exact .step ih (by rw [← hn];exact hk) ho x (hh _ _ h1) (hh _ _ h2)
def lB (R : Tr→List Bool→List Int→List Bool) : Prop:=∀ t op x,op.length=t.cells.length→kC t op x (R t op x)
theorem wg : ∃ R,lB R:=by
 refine ⟨fun t op x=>Classical.choose (qP t.cells.length (a9 op) (gL (aw t)) (fun i=>i < t.cells.length∧sB (aw t) op x i=true)),fun t op x _=>?_⟩
 exact Classical.choose_spec (qP t.cells.length (a9 op) (gL (aw t)) (fun i=>i < t.cells.length∧sB (aw t) op x i=true))
def dp (R : Tr→List Bool→List Int→List Bool) (t : Tr) (p q : List Int) : List Bool:=cp t (R t) p q t.cells.length
def bS (R : Tr→List Bool→List Int→List Bool) (t : Tr) (p q : List Int) : Tr:=az t (dp R t p q)
section
variable {R : Tr→List Bool→List Int→List Bool} {t : Tr} {p q : List Int} {U : List Bool}
theorem md (h : dR t p q U=true) : av t=true∧aR t.root p=true∧aR t.root q=true∧kx t U q=true:=by
 simp only [dR,Bool.and_eq_true] at h
 exact ⟨h.1.1.1,h.1.1.2,h.1.2,h.2⟩
theorem wh {k : Nat} (h : a9 (dp R t p q) k=true) : aK t k=true:=(v6 (Nat.le_refl _) h).2
theorem yj {k : Nat} (hk : k < t.cells.length) (hl : aK t k=true) (h : a9 (dp R t p q) k=false) : aH (aJ t k)=false:=by
 cases ho : aH (aJ t k) with
 |false=>rfl
 |true=>
  have h0 : a9 (t.cells.map aH) k=true:=by unfold a9;rw [List.getElem?_map,cF hk];exact ho
  have:=(mB (R:=R t) (p:=p) (q:=q) k (Nat.le_refl t.cells.length)).2 (.inl h0)
  have h : a9 (cp t (R t) p q t.cells.length) k=false:=h
  rw [h] at this;cases this
theorem pg (hv : av t=true) : Mrg (cD t) (cD (bS R t p q)) (ap t (dp R t p q)) (kp t (dp R t p q)) (aV (kp t (dp R t p q))) (OO ((bS R t p q).cells.map aH)):=x9 hv fun _ h1 h2 h3=>yj h1 h2 h3
theorem xp (hR : lB R) (hU : ju t p U) (hs : dR t p q U=true) : ∀ k,Rc (cD t) (OO (dp R t p q)) p k→¬ Rc (cD t) (OO (dp R t p q)) q k:=by
 obtain ⟨hv,_,_,h4⟩:=md hs
 exact xm hv (fun op x h=>hR t op x h) (yk ((rk hv hU).1 h4)) _ (Nat.le_refl _)
theorem xv (hR : lB R) (hU : ju t p U) (hs : dR t p q U=true) {V : List Bool} (hV : ju (bS R t p q) p V) : dR (bS R t p q) p q V=true:=by
 obtain ⟨hv,h2,h3,h4⟩:=md hs
 have hvu : av (bS R t p q)=true:=ei hv
 have hsu : kx (bS R t p q) V q=true:=(rk hvu hV).2 (xD (rj hv) (k8 hv _) (pg hv) (xy (xp hR hU hs)))
 simp only [dR,Bool.and_eq_true]
 exact ⟨⟨⟨hvu,h2⟩,h3⟩,hsu⟩
theorem xw : (bS R t p q).cells.length≤t.cells.length:=by
 show (az _ _).cells.length≤_
 rw [mb];exact lL _ _
theorem xx (hv : av t=true) : 0 < (bS R t p q).cells.length:=(rj (ei hv)).pos
theorem wi : cO (bS R t p q).cells≤cO t.cells:=by
 show cO (er t _ t.cells.length)≤_
 have e : t.cells=(List.range t.cells.length).map (aJ t):=by
  apply List.ext_getElem?
  intro i
  by_cases hi : i < t.cells.length
  ·rw [cF hi];simp [hi]
  ·rw [List.getElem?_eq_none (by omega),List.getElem?_eq_none (by simp;omega)]
 have h1 : cO t.cells=(List.range t.cells.length).countP (fun i=>di (aJ t i)):=by
  show List.countP di t.cells=_
  conv=>lhs;rw [e]
  rw [List.countP_map];rfl
 rw [h1]
 unfold cO er jX
 rw [List.countP_map,List.countP_filter]
 refine List.countP_mono_left fun i hi h=>?_
 have hi:=List.mem_range.1 hi
 simp only [Function.comp,Bool.and_eq_true] at h
 have h:=h.1
 unfold bW at h
 split at h
 ·simp [di,aY,aG] at h
 ·split at h
  ·exact h
  ·simp [di,aG] at h
theorem sn (hR : lB R) (hv : av t=true) {i : Nat} (hi : i < (bS R t p q).cells.length) (hc : eL (bS R t p q) i=true) :
 Mt (cD (bS R t p q)) (OO ((bS R t p q).cells.map aH)) p i∧Mt (cD (bS R t p q)) (OO ((bS R t p q).cells.map aH)) q i:=by
 have hM:=pg (R:=R) (p:=p) (q:=q) hv
 obtain ⟨a,ha,hk,rfl⟩:=hM.onto i hi
 have ha : a < t.cells.length:=ha
 have e : aJ (bS R t p q) (aV (kp t (dp R t p q)) a)=bW t (dp R t p q) a:=jx ha hk
 rw [eL,e] at hc
 have hb : ap t (dp R t p q) a=false:=by
  cases hb : ap t (dp R t p q) a with
  |false=>rfl
  |true=>rw [bW,if_pos hb] at hc;simp [di,aY,aG] at hc
 rw [bW,if_neg (by rw [hb];decide)] at hc
 have hl : aK t a=true:=by
  cases hl : aK t a with
  |true=>rfl
  |false=>rw [if_neg (by rw [hl];decide)] at hc;simp [di,aG] at hc
 rw [if_pos hl] at hc
 have hB:=rl hv (dp R t p q) ha
 rw [hb,if_pos hl] at hB
 obtain ⟨m1,m2⟩:=xn (R:=R t) (p:=p) (q:=q) hv (fun op x h=>hR t op x h) ha hc hB.symm
 have hop : ∀ k,a9 (dp R t p q) k=true→(cD t).leaf k=true:=fun k h=>wh h
 exact ⟨pX (rj hv) (k8 hv _) (lK hv _) hop hM ha hk m1,pX (rj hv) (k8 hv _) (lK hv _) hop hM ha hk m2⟩
theorem sN (hv : av t=true) {i : Nat} (hi : i < t.cells.length) (hc : eL t i=true) (hm : Mt (cD t) (OO (t.cells.map aH)) p i∧Mt (cD t) (OO (t.cells.map aH)) q i) {V : List Bool} (hV : ju (bm t i aG) p V) : kx (bm t i aG) V q=false:=by
 obtain ⟨L,hL⟩:=Option.isSome_iff_exists.1 hv
 have hl:=pV hi hc
 have hL':=mi hL (cF hi) (by rw [← cg hi];exact hl) lC
 have hvv : av (bm t i aG)=true:=by rw [av,hL'];rfl
 have hbx : aw (bm t i aG)=aw t:=by rw [aw,aw,hL',hL]
 have hset : (bm t i aG).cells.map aH=(t.cells.map aH).set i true:=by
  show (t.cells.set i (aY aG)).map aH=_
  rw [List.map_set];rfl
 have hlen : i < (t.cells.map aH).length:=by rw [List.length_map];exact hi
 have hO : ∀ k,OO (t.cells.map aH) k→OO ((bm t i aG).cells.map aH) k:=fun k h=>by
  show a9 _ k=true;rw [hset,fV hlen];exact .inl h
 have hoi : OO ((bm t i aG).cells.map aH) i:=by
  show a9 _ i=true;rw [hset,fV hlen];exact .inr rfl
 obtain ⟨s,h1,h2⟩:=zp (T:=cD t) hO hi hoi hm.1 hm.2
 have h1' : Rc (cD (bm t i aG)) (OO ((bm t i aG).cells.map aH)) p s:=h1.cast (by show t.cells.length=(t.cells.set i _).length;rw [List.length_set]) (fun k x h=>by
  show aR (aD (bm t i aG) (k : Int)) x=true
  have : aD (bm t i aG) (k : Int)=aD t (k : Int):=by unfold aD;rw [hbx]
  rw [this];exact h)
 cases hs : kx (bm t i aG) V q with
 |false=>rfl
 |true=>
  refine absurd ?_ ((rk hvv hV).1 hs s h1')
  show aR (aD (bm t i aG) (s : Int)) q=true
  have : aD (bm t i aG) (s : Int)=aD t (s : Int):=by unfold aD;rw [hbx]
  rw [this];exact h2
theorem sr (hv : av t=true) {op : List Bool} (hM : Mrg (cD t) (cD (az t op)) (ap t op) (kp t op) (aV (kp t op)) (OO ((az t op).cells.map aH))) : ∀ (d a : Nat),t.cells.length - a=d→a < t.cells.length→kp t op a=true→ap (az t op) ((az t op).cells.map aH) (aV (kp t op) a)=ap t op a:=by
 intro d
 induction d using Nat.strongRecOn with
 |ind d ih=>
  intro a hd ha hk
  have hvu:=ei (op:=op) hv
  have hn:=hM.lt a ha hk
  have hn : aV (kp t op) a < (az t op).cells.length:=hn
  have h1:=k8 hvu ((az t op).cells.map aH) _ hn
  have h1 : ap (az t op) ((az t op).cells.map aH) (aV (kp t op) a)=if aK (az t op) (aV (kp t op) a)=true then a9 ((az t op).cells.map aH) (aV (kp t op) a) else (ap (az t op) ((az t op).cells.map aH) (aJ (az t op) (aV (kp t op) a)).low.toNat && ap (az t op) ((az t op).cells.map aH) (aJ (az t op) (aV (kp t op) a)).high.toNat):=h1
  rw [h1,cg hn,jx ha hk,gB ha]
  have ho:=hM.opn a ha hk
  have ho : a9 ((az t op).cells.map aH) (aV (kp t op) a)=true↔ap t op a=true:=ho
  cases hb : ap t op a with
  |true=>rw [Bool.true_or,if_pos rfl];exact ho.2 hb
  |false=>
   rw [hb] at ho
   rw [Bool.false_or]
   cases hl : aK t a with
   |true=>
    rw [if_pos rfl]
    cases h : a9 ((az t op).cells.map aH) (aV (kp t op) a) with
    |false=>rfl
    |true=>exact absurd (ho.1 h) (by decide)
   |false=>
    rw [if_neg (by decide),bW,if_neg (by rw [hb];decide),if_neg (by rw [hl];decide)]
    simp only [Int.toNat_natCast]
    obtain ⟨_,_,_,x1,x2,x3,x4,_⟩:=b6 hv ha hl
    obtain ⟨k1,k2⟩:=l4 (op:=op) hv ha hl
    rw [hk,hb] at k1 k2
    rw [ih _ (by omega) _ rfl x2 k1,ih _ (by omega) _ rfl x4 k2]
    have h2:=k8 hv op a ha
    have h2 : ap t op a=if aK t a=true then a9 op a else (ap t op (aJ t a).low.toNat && ap t op (aJ t a).high.toNat):=h2
    rw [hb,if_neg (by rw [hl];decide)] at h2
    exact h2.symm
theorem wj (hv : av t=true) {op : List Bool} (hM : Mrg (cD t) (cD (az t op)) (ap t op) (kp t op) (aV (kp t op)) (OO ((az t op).cells.map aH))) : ∀ (a : Nat),a < t.cells.length→kp t op a=true→kp (az t op) ((az t op).cells.map aH) (aV (kp t op) a)=true:=by
 intro a
 induction a using Nat.strongRecOn with
 |ind a ih=>
  intro ha hk
  have hvu:=ei (op:=op) hv
  rcases (lK hv op a ha).1 hk with rfl|⟨i,hi,h1,h2,h3,h4⟩
  ·exact sm hvu
  ·have hi : i < t.cells.length:=hi
   have h2 : aK t i=false:=h2
   have h4 : a=(aJ t i).low.toNat∨a=(aJ t i).high.toNat:=h4
   obtain ⟨_,_,_,x1,x2,x3,x4,_⟩:=b6 hv hi h2
   have ihi:=ih i (by rcases h4 with h4|h4<;>omega) hi h1
   have hn : aV (kp t op) i < (az t op).cells.length:=hM.lt i hi h1
   have hlu : aK (az t op) (aV (kp t op) i)=false:=by rw [cg hn,jx hi h1,gB hi,h3,h2];rfl
   obtain ⟨k1,k2⟩:=l4 (op:=(az t op).cells.map aH) hvu hn hlu
   rw [ihi,sr hv hM _ i rfl hi h1,h3,jx hi h1,bW,if_neg (by rw [h3];decide),if_neg (by rw [h2];decide)] at k1 k2
   simp only [Int.toNat_natCast] at k1 k2
   rcases h4 with rfl|rfl
   ·exact k1
   ·exact k2
theorem rE (hv : av t=true) {op : List Bool} (hM : Mrg (cD t) (cD (az t op)) (ap t op) (kp t op) (aV (kp t op)) (OO ((az t op).cells.map aH))) : az (az t op) ((az t op).cells.map aH)=az t op:=by
 have hall : ∀ m,m < (az t op).cells.length→kp (az t op) ((az t op).cells.map aH) m=true:=fun m hm=>by
  obtain ⟨a,ha,hk,rfl⟩:=hM.onto m hm
  exact wj hv hM a ha hk
 have hflt : ∀ m,m≤(az t op).cells.length→jX (kp (az t op) ((az t op).cells.map aH)) m=List.range m:=fun m hm=>by
  unfold jX
  rw [List.filter_eq_self]
  intro i hi
  exact hall i (by have:=List.mem_range.1 hi;omega)
 have hnm : ∀ m,m≤(az t op).cells.length→aV (kp (az t op) ((az t op).cells.map aH)) m=m:=fun m hm=>by
  unfold aV;rw [hflt m hm,List.length_range]
 have hcells : (az (az t op) ((az t op).cells.map aH)).cells=(az t op).cells:=by
  show er (az t op) _ (az t op).cells.length=_
  unfold er
  rw [hflt _ (Nat.le_refl _)]
  apply List.ext_getElem?
  intro m
  by_cases hm : m < (az t op).cells.length
  ·rw [List.getElem?_map,List.getElem?_range hm,Option.map_some,cF hm]
   congr 1
   obtain ⟨a,ha,hk,rfl⟩:=hM.onto m hm
   have ha : a < t.cells.length:=ha
   have hsb:=sr hv hM _ a rfl ha hk
   have hat:=jx (t:=t) (op:=op) ha hk
   have hln:=cg hm
   unfold bW
   rw [hsb,hln,hat,gB ha]
   cases hb : ap t op a with
   |true=>rw [if_pos rfl,bW,if_pos hb]
   |false=>
    rw [if_neg (by decide),Bool.false_or]
    cases hl : aK t a with
    |true=>rw [if_pos rfl]
    |false=>
     rw [if_neg (by decide),bW,if_neg (by rw [hb];decide),if_neg (by rw [hl];decide)]
     obtain ⟨_,_,_,x1,x2,x3,x4,_⟩:=b6 hv ha hl
     obtain ⟨k1,k2⟩:=l4 (op:=op) hv ha hl
     rw [hk,hb] at k1 k2
     have n1 : aV (kp t op) (aJ t a).low.toNat < (az t op).cells.length:=hM.lt _ x2 k1
     have n2 : aV (kp t op) (aJ t a).high.toNat < (az t op).cells.length:=hM.lt _ x4 k2
     simp only [Int.toNat_natCast]
     rw [hnm _ (Nat.le_of_lt n1),hnm _ (Nat.le_of_lt n2)]
  ·rw [List.getElem?_eq_none (by simp;omega),List.getElem?_eq_none (by omega)]
 show (⟨(az t op).root,(az (az t op) ((az t op).cells.map aH)).cells⟩ : Tr)=az t op
 rw [hcells]
theorem tQ (hR : lB R) (hv : av t=true) : bS R (bS R t p q) p q=bS R t p q:=by
 have hvu : av (bS R t p q)=true:=ei hv
 have h1 : dp R (bS R t p q) p q=(bS R t p q).cells.map aH:=v9 hvu (fun op x h=>hR _ op x h) (fun i hi hc=>sn hR hv hi hc) _ (Nat.le_refl _)
 show az (bS R t p q) (dp R (bS R t p q) p q)=_
 rw [h1]
 exact rE hv (pg hv)
end
end Go.Ab
