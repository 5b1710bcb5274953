/- The contracts and facts that the laws of this seat need, in one text (Rd, AbG, AbQ, TrA, KV, K1, K2, K2b). -/
import Derived.Test.YtmcbekbdnddmdaaGreatW4
import Derived.Test.YtmcbekbdnddmdaaGreatRows
set_option linter.all false
set_option maxHeartbeats 16000000
namespace Go.Ab
open Go.Proofs Go.Proofs.YtmcbekbdnddmdaaGreat
theorem own : ownKnob Tryz.prog.godebug=none:=by kernel_rfl
theorem kids : Kids Tryz.prog (·< Tryz.prog.types.size):=kids_rows (by kernel_rfl) (by kernel_rfl)
theorem full : ∀ t e,t < Tryz.prog.types.size→Tryz.prog.underlying t=some (.slice e)→0 < Tryz.prog.cellsOf e:=slices_full_of Tryz.prog (by kernel_rfl)
section
variable {H : Type}
theorem CD : fE H Tryz.prog 3 (fun i=>.val (.int .i64 i)) (fun i=>IntKind.i64.min≤i∧i≤IntKind.i64.max) (fun _=>1):=vE Tryz.underlying3
theorem rV : fE H Tryz.prog 35 (fun l : List Int=>.sl (l.map fun i=>.val (.int .i64 i))) (fun l=>l.length≤9223372036854775807∧∀ a ∈ l,IntKind.i64.min≤a∧a≤IntKind.i64.max) (fun l=>(l.map fun _=>1).sum+1):=eu Tryz.underlying35 CD
theorem D5 : fE H Tryz.prog 2 (fun i=>.val (.int .i64 i)) (fun i=>IntKind.i64.min≤i∧i≤IntKind.i64.max) (fun _=>1):=vE Tryz.underlying2
theorem nY : fE H Tryz.prog 34 (fun l : List Int=>.sl (l.map fun i=>.val (.int .i64 i))) (fun l=>l.length≤9223372036854775807∧∀ a ∈ l,IntKind.i64.min≤a∧a≤IntKind.i64.max) (fun l=>(l.map fun _=>1).sum+1):=eu Tryz.underlying34 D5
theorem HQ : fE H Tryz.prog 89 av (fun x=>(IntKind.i64.min≤x.1∧x.1≤IntKind.i64.max)∧IntKind.i64.min≤x.2∧x.2≤IntKind.i64.max) (fun _=>1):=by
 intro d h
 obtain ⟨ds,rfl,h1,h2⟩:=ey Tryz.underlying89 h
 obtain ⟨a,b,rfl⟩:=AJ h1
 obtain ⟨x,rfl,hx⟩:=cT (H:=H) Tryz.underlying2 (h2 0 _ _ rfl rfl)
 obtain ⟨y,rfl,hy⟩:=cT (H:=H) Tryz.underlying2 (h2 1 _ _ rfl rfl)
 exact ⟨(x,y),by simp [dy,kR,dJ,eo,cy],⟨hx,hy⟩,by simp [je]⟩
theorem G8 : fE H Tryz.prog 30 (fun l : List (Int × Int)=>.sl (l.map av)) (fun l=>l.length≤9223372036854775807∧∀ x ∈ l,(IntKind.i64.min≤x.1∧x.1≤IntKind.i64.max)∧IntKind.i64.min≤x.2∧x.2≤IntKind.i64.max) (fun l=>(l.map fun _=>1).sum+1):=eu Tryz.underlying30 HQ
theorem D6 : fE H Tryz.prog 65 bq (fun _=>True) (fun _=>1):=by
 intro d h
 obtain ⟨ds,rfl,h1,h2⟩:=ey Tryz.underlying65 h
 obtain ⟨a0,a1,a2,a3,a4,a5,a6,a7,a8,a9,rfl⟩:=Hw h1
 obtain ⟨x0,rfl⟩:=AI (H:=H) Tryz.underlying9 (h2 0 _ _ rfl rfl)
 obtain ⟨x1,rfl,_⟩:=cT (H:=H) Tryz.underlying3 (h2 1 _ _ rfl rfl)
 obtain ⟨x2,rfl,_⟩:=cT (H:=H) Tryz.underlying3 (h2 2 _ _ rfl rfl)
 obtain ⟨vx,vy,vz,rfl⟩:=rJ (H:=H) Tryz.underlying60 Tryz.underlying2 (d:=a3) (h2 3 _ _ rfl rfl)
 obtain ⟨x4,rfl,_⟩:=cT (H:=H) Tryz.underlying2 (h2 4 _ _ rfl rfl)
 obtain ⟨x5,rfl,_⟩:=cT (H:=H) Tryz.underlying2 (h2 5 _ _ rfl rfl)
 obtain ⟨x6,rfl,_⟩:=cT (H:=H) Tryz.underlying2 (h2 6 _ _ rfl rfl)
 obtain ⟨x7,rfl,_⟩:=cT (H:=H) Tryz.underlying2 (h2 7 _ _ rfl rfl)
 obtain ⟨x8,rfl,_⟩:=cT (H:=H) Tryz.underlying2 (h2 8 _ _ rfl rfl)
 obtain ⟨x9,rfl,_⟩:=cT (H:=H) Tryz.underlying2 (h2 9 _ _ rfl rfl)
 exact ⟨⟨⟨x0.toArray⟩,x1,x2,vx,vy,vz,x4,x5,x6,x7,x8,x9⟩,by simp [dy,kR,dJ,eo,cy],trivial,by simp [je]⟩
theorem Fp : fE H Tryz.prog 144 bX (fun _=>True) (fun _=>1):=by
 intro d h
 obtain ⟨ds,rfl,h1,h2⟩:=ey Tryz.underlying144 h
 obtain ⟨a0,a1,a2,rfl⟩:=uP h1
 obtain ⟨x0,rfl,_⟩:=cT (H:=H) Tryz.underlying3 (h2 0 _ _ rfl rfl)
 obtain ⟨x1,rfl,_⟩:=cT (H:=H) Tryz.underlying2 (h2 1 _ _ rfl rfl)
 obtain ⟨vx,vy,vz,rfl⟩:=rJ (H:=H) Tryz.underlying60 Tryz.underlying2 (d:=a2) (h2 2 _ _ rfl rfl)
 exact ⟨⟨x0,x1,vx,vy,vz⟩,by simp [dy,kR,dJ,eo,cy],trivial,by simp [je]⟩
end
end Go.Ab
namespace Go.Ab
structure Hid (H : Prop) : Prop where
 h : H
theorem Gy {G : Prop} (h : G:=by
 with_reducible repeat' (first|refine Sp.h ?_|((first|refine Wd ?_|refine Ss.h ?_|refine Sc.h (by assumption) ?_|(refine Sb.h ?_ ?_ ?_<;>(try intro hgd)<;>try exact Xy))<;>simp -implicitDefEqProofs (maxSteps:=2000000) [hP,hN, *]<;>try refine Ya ?_)|refine X2 ?_ ?_|(refine Xd ?_ ?_<;>intro hcd<;>try exact Xx))) : G:=h
theorem Gz {G H : Prop} (x : H) (h : Hid H→G:=by
 intro hG0
 with_reducible repeat' (first|refine Sp.h ?_|((first|refine Wd ?_|refine Ss.h ?_|refine Sc.h (by assumption) ?_|(refine Sb.h ?_ ?_ ?_<;>(try intro hgd)<;>try exact Xy))<;>simp -implicitDefEqProofs (maxSteps:=2000000) [hP,hN, *]<;>try refine Ya ?_)|refine X2 ?_ ?_|(refine Xd ?_ ?_<;>intro hcd<;>try exact Xx))
 exact hG0.h) : G:=h ⟨x⟩
end Go.Ab
namespace Go.Ab
theorem qk {m n : Nat} (_ : m=n) (a : Array Value) : ∀ k,k < n→k < a.size+(n - a.size):=by intro k h;omega
theorem FM {P : Program} {g : FuncId} (h : gk P g:=by
 refine ⟨by kernel_rfl,fun args w=>?_⟩
 refine callsD_of_wpS hf rfl fun c₀ cs hu=>?_
 apply wpS_seq
 apply wpS_region
 have hk:=qk nt args
 have h0:=hk 0 (by decide)
 have h1:=hk 1 (by decide)
 have h2:=hk 2 (by decide)
 simp [wpOpsS,go_sem,recoverD,hu,nt,Exit.thenS,h0,h1,h2]
 refine wpS_cond (t:=false) (by simp [Act.eval,h0,h1,h2]) ?_
 simp only [Bool.false_eq_true,if_false]
 refine wpS_of_wp (wp_skip ?_)
 cases c₀
 simp_all [bodyPostS,results,rs]) : gk P g:=h
theorem K7 {P : Program} {g : FuncId} (h : gk P g:=by
 refine ⟨by kernel_rfl,fun args w=>?_⟩
 refine callsD_of_wpS hf rfl fun c₀ cs hu=>?_
 apply wpS_seq
 apply wpS_region
 have hk:=qk nt args
 have h0:=hk 0 (by decide)
 have h1:=hk 1 (by decide)
 have h2:=hk 2 (by decide)
 have h3:=hk 3 (by decide)
 simp [wpOpsS,go_sem,recoverD,hu,nt,Exit.thenS,h0,h1,h2,h3]
 refine wpS_cond (t:=false) (by simp [Act.eval,h0,h1,h2,h3]) ?_
 simp only [Bool.false_eq_true,if_false]
 refine wpS_of_wp (wp_skip ?_)
 cases c₀
 simp_all [bodyPostS,results,rs]) : gk P g:=h
end Go.Ab
namespace Go.Ab
open Go.Proofs
structure Verd where
 kind : Int
 nor : List (Int × Int × Int)
 pair : Int
 left : List Int
 right : List Int
structure Cel where
 joint : Int
 low : Int
 high : Int
 v : Verd
structure Tr where
 root : List (Int × Int)
 cells : List Cel
abbrev aV (v : Int × Int × Int) : PV:=.val (.agg #[.int .i64 v.1,.int .i64 v.2.1,.int .i64 v.2.2])
abbrev bb (l : List (Int × Int × Int)) : PV:=.sl (l.map aV)
abbrev Hc (p : Int) (l r : List Int) : PV:=.agg [Z p,zs l,zs r]
abbrev n5 (v : Verd) : PV:=.agg [Z v.kind,bb v.nor,Z v.pair,zs v.left,zs v.right]
abbrev br (c : Cel) : PV:=.agg [Z c.joint,Z c.low,Z c.high,Z c.v.kind,bb c.v.nor,Z c.v.pair,zs c.v.left,zs c.v.right]
abbrev bT (t : Tr) : PV:=.agg [iv t.root,.sl (t.cells.map br)]
def aI (c : Cel) : Bool:=c.joint==-1 && c.low==-1 && c.high==-1
def ik (p : Int) (l r : List Int) : Bool:=p==0 && (l.length : Int)==0 && (r.length : Int)==0
def df (v : Verd) : Bool:=if v.kind=0∨v.kind=1 then ik v.pair v.left v.right else if v.kind=2 then ((v.nor.length : Int)==0) else false
def jR (v : Verd) : Bool:=v.kind==0 && ((v.nor.length : Int)==0) && ik v.pair v.left v.right
theorem yD {α : Type} (l : List α) : ((l.length : Int)==0)=decide (l.length=0):=by
 by_cases h : l.length=0
 ·simp [h]
 ·have : ((l.length : Int)==0)=false:=by simp;intro h';exact h (by rw [h'];rfl)
  rw [this];simp [h]
theorem KF (c : Cel) : ab Tryz.prog 104 [.pv (br c)] [] [] (.pv (B (aI c))):=by
 refine Dp Tryz.func104 ?_
 intro C hP hN
 simp only [Tryz.f104] at hN ⊢
 with_reducible repeat' (first|refine Sp.h ?_|((first|refine Ss.h ?_|(refine Sb.h ?_ ?_ ?_<;>(try intro hgd)<;>try exact Xy))<;>simp -implicitDefEqProofs (maxSteps:=2000000) [hP,hN])|refine X2 ?_ ?_|(refine Xd ?_ ?_<;>intro hcd<;>try exact Xx))
 all_goals (simp_all [aI])
theorem uA (c : Cel) : ab Tryz.prog 33 [.pv (br c)] [] [] (.pv (B (aI c))):=by
 refine Dp Tryz.func33 ?_
 intro C hP hN
 simp only [Tryz.f33] at hN ⊢
 with_reducible repeat' (first|refine Sp.h ?_|((first|refine Ss.h ?_|(refine Sb.h ?_ ?_ ?_<;>(try intro hgd)<;>try exact Xy))<;>simp -implicitDefEqProofs (maxSteps:=2000000) [hP,hN])|refine X2 ?_ ?_|(refine Xd ?_ ?_<;>intro hcd<;>try exact Xx))
 all_goals (simp_all [aI])
theorem Hd (p : Int) (l r : List Int) : ab Tryz.prog 137 [.pv (Hc p l r)] [] [] (.pv (B (ik p l r))):=by
 refine Dp Tryz.func137 ?_
 intro C hP hN
 simp only [Tryz.f137] at hN ⊢
 with_reducible repeat' (first|refine Sp.h ?_|((first|refine Ss.h ?_|(refine Sb.h ?_ ?_ ?_<;>(try intro hgd)<;>try exact Xy))<;>simp -implicitDefEqProofs (maxSteps:=2000000) [hP,hN])|refine X2 ?_ ?_|(refine Xd ?_ ?_<;>intro hcd<;>try exact Xx))
 all_goals (simp_all [ik])
theorem He (p : Int) (l r : List Int) : ab Tryz.prog 102 [.pv (Hc p l r)] [] [] (.pv (B (ik p l r))):=by
 refine Dp Tryz.func102 ?_
 intro C hP hN
 simp only [Tryz.f102] at hN ⊢
 with_reducible repeat' (first|refine Sp.h ?_|((first|refine Ss.h ?_|(refine Sb.h ?_ ?_ ?_<;>(try intro hgd)<;>try exact Xy))<;>simp -implicitDefEqProofs (maxSteps:=2000000) [hP,hN])|refine X2 ?_ ?_|(refine Xd ?_ ?_<;>intro hcd<;>try exact Xx))
 all_goals (simp_all [ik])
theorem KG (v : Verd) : ab Tryz.prog 105 [.pv (n5 v)] [] [] (.pv (B (df v))):=by
 have ce:=Hd v.pair v.left v.right
 have h0:=yD v.nor
 generalize hE : ik v.pair v.left v.right=E at ce
 refine Dp Tryz.func105 ?_
 intro C hP hN
 simp only [Tryz.f105] at hN ⊢
 with_reducible repeat' (first|refine Sp.h ?_|((first|refine Ss.h ?_|refine Sc.h (ce) ?_|(refine Sb.h ?_ ?_ ?_<;>(try intro hgd)<;>try exact Xy))<;>simp -implicitDefEqProofs (maxSteps:=2000000) [hP,hN])|refine X2 ?_ ?_|(refine Xd ?_ ?_<;>intro hcd<;>try exact Xx))
 all_goals (simp_all [df])
theorem Ix (v : Verd) : ab Tryz.prog 71 [.pv (n5 v)] [] [] (.pv (B (df v))):=by
 have ce:=He v.pair v.left v.right
 have h0:=yD v.nor
 generalize hE : ik v.pair v.left v.right=E at ce
 refine Dp Tryz.func71 ?_
 intro C hP hN
 simp only [Tryz.f71] at hN ⊢
 with_reducible repeat' (first|refine Sp.h ?_|((first|refine Ss.h ?_|refine Sc.h (ce) ?_|(refine Sb.h ?_ ?_ ?_<;>(try intro hgd)<;>try exact Xy))<;>simp -implicitDefEqProofs (maxSteps:=2000000) [hP,hN])|refine X2 ?_ ?_|(refine Xd ?_ ?_<;>intro hcd<;>try exact Xx))
 all_goals (simp_all [df])
theorem KH (v : Verd) : ab Tryz.prog 106 [.pv (n5 v)] [] [] (.pv (B (jR v))):=by
 have ce:=Hd v.pair v.left v.right
 generalize hE : ik v.pair v.left v.right=E at ce
 refine Dp Tryz.func106 ?_
 intro C hP hN
 simp only [Tryz.f106] at hN ⊢
 with_reducible repeat' (first|refine Sp.h ?_|((first|refine Ss.h ?_|refine Sc.h (ce) ?_|(refine Sb.h ?_ ?_ ?_<;>(try intro hgd)<;>try exact Xy))<;>simp -implicitDefEqProofs (maxSteps:=2000000) [hP,hN])|refine X2 ?_ ?_|(refine Xd ?_ ?_<;>intro hcd<;>try exact Xx))
 all_goals (simp_all [jR])
theorem KI (v : Verd) : ab Tryz.prog 100 [.pv (n5 v)] [] [] (.pv (B (jR v))):=by
 have ce:=He v.pair v.left v.right
 generalize hE : ik v.pair v.left v.right=E at ce
 refine Dp Tryz.func100 ?_
 intro C hP hN
 simp only [Tryz.f100] at hN ⊢
 with_reducible repeat' (first|refine Sp.h ?_|((first|refine Ss.h ?_|refine Sc.h (ce) ?_|(refine Sb.h ?_ ?_ ?_<;>(try intro hgd)<;>try exact Xy))<;>simp -implicitDefEqProofs (maxSteps:=2000000) [hP,hN])|refine X2 ?_ ?_|(refine Xd ?_ ?_<;>intro hcd<;>try exact Xx))
 all_goals (simp_all [jR])
def dl (r : List (Int × Int)) : Bool:=decide (1≤r.length) && decide (r.length≤10) && aL vI r
theorem KJ (r : List (Int × Int)) : ab Tryz.prog 103 [.pv (iv r)] [] [] (.pv (B (dl r))):=by
 by_cases h1 : r.length < 1
 ·have hr : dl r=false:=by simp [dl];omega
  have h1' : (r.length : Int) < 1:=by omega
  rw [hr]
  refine Dp Tryz.func103 ?_
  intro C hP hN
  simp only [Tryz.f103] at hN ⊢
  with_reducible repeat' (first|refine Sp.h ?_|((first|refine Ss.h ?_|(refine Sb.h ?_ ?_ ?_<;>(try intro hgd)<;>try exact Xy))<;>simp -implicitDefEqProofs (maxSteps:=2000000) [hP,hN,h1',h1])|refine X2 ?_ ?_|(refine Xd ?_ ?_<;>intro hcd<;>try exact Xx))
 have h1' : ¬ (r.length : Int) < 1:=by omega
 by_cases h2 : 10 < r.length
 ·have hr : dl r=false:=by simp [dl];omega
  have h2' : (10 : Int) < r.length:=by omega
  rw [hr]
  refine Dp Tryz.func103 ?_
  intro C hP hN
  simp only [Tryz.f103] at hN ⊢
  with_reducible repeat' (first|refine Sp.h ?_|((first|refine Ss.h ?_|(refine Sb.h ?_ ?_ ?_<;>(try intro hgd)<;>try exact Xy))<;>simp -implicitDefEqProofs (maxSteps:=2000000) [hP,hN,h1',h1,h2,h2'])|refine X2 ?_ ?_|(refine Xd ?_ ?_<;>intro hcd<;>try exact Xx))
 have h2' : ¬ (10 : Int) < r.length:=by omega
 have hr : dl r=aL vI r:=by
  unfold dl
  have a1 : decide (1≤r.length)=true:=by simp;omega
  have a2 : decide (r.length≤10)=true:=by simp;omega
  rw [a1,a2];simp
 rw [hr]
 refine Dp Tryz.func103 ?_
 intro C hP hN
 simp only [Tryz.f103] at hN ⊢
 with_reducible repeat' (first|refine Sp.h ?_|((first|refine Ss.h ?_|(refine Sb.h ?_ ?_ ?_<;>(try intro hgd)<;>try exact Xy))<;>simp -implicitDefEqProofs (maxSteps:=2000000) [hP,hN,h1',h1,h2,h2'])|refine X2 ?_ ?_|(refine Xd ?_ ?_<;>intro hcd<;>try exact Xx))
 refine WP.loopN [4] r.length (fun i st=>st.t 13=.pv (iv r)∧st.t 14=.pv (Z r.length)∧st.t 15=.pv (Z i)∧st.h 4=none∧aL vI (r.take i)=true) (by simp [aL]) ?_
 rintro i st hi ⟨g13,g14,g15,hb,hq⟩
 by_cases hlt : i < r.length
 ·have hw:=ag hlt (by omega)
  have hF : vI r[i]=false→aL vI r=false:=nB hlt
  have hS : vI r[i]=true→aL vI (r.take (i+1))=true:=mW hlt hq
  with_reducible repeat' (first|refine Sp.h ?_|((first|refine Ss.h ?_|refine Sc.h (gH _ _) ?_|(refine Sb.h ?_ ?_ ?_<;>(try intro hgd)<;>try exact Xy))<;>simp -implicitDefEqProofs (maxSteps:=2000000) [hP,hN,g13,g14,g15,hb,hlt,hw])|refine X2 ?_ ?_|(refine Xd ?_ ?_<;>intro hcd<;>try exact Xx))
  all_goals first|(rw [hF (by simpa using hcd)];done)|(simp [hF (by simpa using hcd)];done)|(simpa using hS (by simpa using hcd))
 ·skip
  with_reducible repeat' (first|refine Sp.h ?_|((first|refine Ss.h ?_|(refine Sb.h ?_ ?_ ?_<;>(try intro hgd)<;>try exact Xy))<;>simp -implicitDefEqProofs (maxSteps:=2000000) [hP,hN,g13,g14,g15,hb,hlt])|refine X2 ?_ ?_|(refine Xd ?_ ?_<;>intro hcd<;>try exact Xx))
  all_goals simp [mX hlt hq]
end Go.Ab
namespace Go.Ab
open Go.Proofs
theorem dg {α : Type} {p : α→Bool} {xs : List α} : aL p xs=true↔∀ x ∈ xs,p x=true:=List.all_eq_true
abbrev Bx:=List (Int × Int)
abbrev OL:=List (Option Bx)
def mg : Option Bx→PV
 |none=>.val (.slice none 0 0)
 |some b=>iv b
def fA (n i : Nat) (c : Cel) : Bool:=decide ((i : Int) < c.low) && decide (c.low < n) && decide ((i : Int) < c.high) && decide (c.high < n) && decide (c.low≠c.high) && jR c.v
def ef (n i : Nat) (c : Cel) (L : OL) : Option OL:=
 match L[i]? with
 |some (some b)=>
  if aI c then (if df c.v then some L else none)
  else if fA n i c then
   if aX b c.joint then
    match L[c.low.toNat]?,L[c.high.toNat]? with
    |some none,some none=>some ((L.set c.low.toNat (some (bw b c.joint))).set c.high.toNat (some (bz b c.joint)))
    |_,_=>none
   else none
  else none
 |_=>none
def jF (n : Nat) : List Cel→Nat→OL→Option OL
 |[],_,L=>some L
 |c :: cs,i,L=>match ef n i c L with
  |some L'=>jF n cs (i+1) L'
  |none=>none
def gD (t : Tr) : OL:=some t.root :: List.replicate (t.cells.length - 1) none
def eL (t : Tr) : Bool:=decide (1≤t.cells.length) && decide (t.cells.length≤2048) && dl t.root
def bN (t : Tr) : Option OL:=if eL t then jF t.cells.length t.cells 0 (gD t) else none
def au (t : Tr) : Bool:=(bN t).isSome
def ah (t : Tr) : List Bx:=match bN t with
 |some L=>L.map fun x=>x.getD []
 |none=>[]
theorem eg {n i : Nat} {c : Cel} {L L' : OL} (h : ef n i c L=some L') : ∃ b,L[i]?=some (some b)∧
 ((aI c=true∧df c.v=true∧L'=L)∨
  (aI c=false∧fA n i c=true∧aX b c.joint=true∧L[c.low.toNat]?=some none∧L[c.high.toNat]?=some none∧
    L'=(L.set c.low.toNat (some (bw b c.joint))).set c.high.toNat (some (bz b c.joint)))):=by
 unfold ef at h
 split at h
 ·rename_i b hb
  refine ⟨b,hb,?_⟩
  split at h
  ·rename_i hl
   split at h
   ·rename_i hf
    injection h with h
    exact .inl ⟨hl,hf,h.symm⟩
   ·cases h
  ·rename_i hl
   split at h
   ·rename_i hi
    split at h
    ·rename_i hh
     split at h
     ·rename_i h1 h2
      injection h with h
      exact .inr ⟨by simpa using hl,hi,hh,h1,h2,h.symm⟩
     ·cases h
    ·cases h
   ·cases h
 ·cases h
theorem dt {n i : Nat} {c : Cel} : fA n i c=true↔(i : Int) < c.low∧c.low < n∧(i : Int) < c.high∧c.high < n∧c.low≠c.high∧jR c.v=true:=by
 simp [fA,and_assoc]
theorem yE {n : Nat} {P : Nat→OL→Prop} : ∀ (cs : List Cel) (i : Nat) (L L' : OL),jF n cs i L=some L'→P i L→
 (∀ k c L L',cs[k]?=some c→P (i+k) L→ef n (i+k) c L=some L'→P (i+k+1) L')→P (i+cs.length) L'
 |[],i,L,L',h,h0,_=>by simp [jF] at h;subst h;exact h0
 |c :: cs,i,L,L',h,h0,hs=>by
  simp only [jF] at h
  split at h
  ·rename_i L1 h1
   have h2:=hs 0 c L L1 rfl h0 h1
   have:=yE cs (i+1) L1 L' h h2 (fun k d M M' hk hp hm=>by
    have e : i+1+k=i+(k+1):=by omega
    rw [e] at hp hm ⊢
    exact hs (k+1) d M M' (by simpa using hk) hp hm)
   have e : i+(c :: cs).length=i+1+cs.length:=by simp;omega
   rw [e];exact this
  ·cases h
theorem iA {t : Tr} {L : OL} {P : Nat→OL→Prop} (h : bN t=some L) (h0 : P 0 (gD t))
 (hs : ∀ i c L L',t.cells[i]?=some c→P i L→ef t.cells.length i c L=some L'→P (i+1) L') : P t.cells.length L:=by
 unfold bN at h
 split at h
 ·have:=yE t.cells 0 _ _ h h0 (fun k c M M' hk hp hm=>by
   rw [Nat.zero_add] at hp hm ⊢;exact hs k c M M' hk hp hm)
  simpa using this
 ·cases h
theorem gM {t : Tr} {L : OL} (h : bN t=some L) : eL t=true:=by
 unfold bN at h
 split at h
 ·assumption
 ·cases h
theorem bc {t : Tr} : eL t=true↔1≤t.cells.length∧t.cells.length≤2048∧1≤t.root.length∧t.root.length≤10∧aL vI t.root=true:=by
 simp [eL,dl,and_assoc]
structure BOk (t : Tr) (i : Nat) (L : OL) : Prop where
 len : L.length=t.cells.length
 pre : ∀ j,j < i→∃ b,L[j]?=some (some b)
 ok : ∀ (j : Nat) b,L[j]?=some (some b)→b.length=t.root.length∧aL vI b=true
theorem v8 {b : Bx} {j : Int} (h : aX b j=true) : (bw b j).length=b.length∧(bz b j).length=b.length:=by
 unfold bw bz
 rw [h]
 simp only [if_true]
 unfold aX at h
 split<;>simp_all
theorem cL {lo hi : Int} : ak lo hi=true↔-2147483648≤lo∧lo≤hi∧hi≤2147483648:=by
 simp [ak,and_assoc]
theorem Am {x : Int × Int} (h : ak x.1 x.2=true) : gg x=(x.1+x.2) / 2:=by
 unfold gg
 have h':=cL.1 h
 rw [h,if_pos rfl,show wr (x.1+x.2)=x.1+x.2 from aa (by omega) (by omega),Int.fdiv_eq_ediv]
 simp
theorem nv {b : Bx} {j : Int} : aX b j=true↔0≤j∧aL vI b=true∧∃ x,b[j.toNat]?=some x∧2≤x.2 - x.1:=by
 unfold aX
 constructor
 ·intro h
  simp only [Bool.and_eq_true,decide_eq_true_eq] at h
  obtain ⟨⟨h1,h2⟩,h3⟩:=h
  refine ⟨h1,h2,?_⟩
  split at h3
  ·rename_i x hx
   refine ⟨x,hx,?_⟩
   have hv:=cL.1 (dg.1 h2 _ (List.mem_of_getElem? hx))
   rw [decide_eq_true_eq,cX,if_pos (dg.1 h2 _ (List.mem_of_getElem? hx)),show wr (x.2 - x.1)=x.2 - x.1 from aa (by omega) (by omega)] at h3
   exact h3
  ·cases h3
 ·rintro ⟨h1,h2,x,hx,h3⟩
  have hv:=cL.1 (dg.1 h2 _ (List.mem_of_getElem? hx))
  have hw : cX x=x.2 - x.1:=by
   rw [cX,if_pos (dg.1 h2 _ (List.mem_of_getElem? hx))]
   exact aa (by omega) (by omega)
  simp [h1,h2,hx,hw,h3]
theorem yF {b : Bx} {j : Int} (h : aX b j=true) : ∃ x,b[j.toNat]?=some x∧ak x.1 x.2=true∧2≤x.2 - x.1∧bw b j=b.set j.toNat (x.1,(x.1+x.2) / 2)∧bz b j=b.set j.toNat ((x.1+x.2) / 2,x.2):=by
 obtain ⟨_,h2,x,hx,h3⟩:=nv.1 h
 have hv : ak x.1 x.2=true:=dg.1 h2 _ (List.mem_of_getElem? hx)
 refine ⟨x,hx,hv,h3,?_,?_⟩
 ·simp [bw,h,hx,Am hv]
 ·simp [bz,h,hx,Am hv]
theorem sC {b : Bx} {j : Int} (h : aX b j=true) : aL vI (bw b j)=true∧aL vI (bz b j)=true:=by
 obtain ⟨x,hx,hv,h3,ea,ez⟩:=yF h
 have h2:=(nv.1 h).2.1
 have hv':=cL.1 hv
 rw [ea,ez]
 constructor<;>refine dg.2 fun y hy=>?_
 ·rcases List.mem_or_eq_of_mem_set hy with h|rfl
  ·exact dg.1 h2 _ h
  ·exact cL.2 ⟨by omega,by simp only;omega,by simp only;omega⟩
 ·rcases List.mem_or_eq_of_mem_set hy with h|rfl
  ·exact dg.1 h2 _ h
  ·exact cL.2 ⟨by simp only;omega,by simp only;omega,by omega⟩
theorem lm {t : Tr} (h : eL t=true) : BOk t 0 (gD t):=by
 obtain ⟨h1,h2,h3,h4,h5⟩:=bc.1 h
 refine ⟨by simp [gD];omega,fun j hj=>by omega,fun j b hb=>?_⟩
 cases j with
 |zero=>simp [gD] at hb;subst hb;exact ⟨rfl,h5⟩
 |succ j=>simp [gD,List.getElem?_replicate] at hb
theorem Eg {L : OL} {a z : Nat} {x y : Option Bx} {j : Nat} (hne : a≠z) (ha : a < L.length) (hz : z < L.length) : ((L.set a x).set z y)[j]?=if j=z then some y else if j=a then some x else L[j]?:=by
 rw [List.getElem?_set]
 by_cases h1 : z=j
 ·subst h1;simp [hz]
 ·rw [if_neg h1,if_neg (fun h=>h1 h.symm),List.getElem?_set]
  by_cases h2 : a=j
  ·subst h2;simp [ha]
  ·rw [if_neg h2,if_neg (fun h=>h2 h.symm)]
theorem jg {t : Tr} {i : Nat} {c : Cel} {L : OL} {x y : Option Bx} {j : Nat} (hl : L.length=t.cells.length) (hi : fA t.cells.length i c=true) : ((L.set c.low.toNat x).set c.high.toNat y)[j]?=if j=c.high.toNat then some y else if j=c.low.toNat then some x else L[j]?:=by
 obtain ⟨h1,h2,h3,h4,h5,_⟩:=dt.1 hi
 exact Eg (by omega) (by omega) (by omega)
theorem ln {t : Tr} {i : Nat} {c : Cel} {L L' : OL} (h : BOk t i L) (hs : ef t.cells.length i c L=some L') : BOk t (i+1) L':=by
 obtain ⟨b,hb,⟨_,_,rfl⟩|⟨_,hi,hh,hlo,hhi,rfl⟩⟩:=eg hs
 ·refine ⟨h.len,fun j hj=>?_,h.ok⟩
  by_cases e : j=i
  ·subst e;exact ⟨b,hb⟩
  ·exact h.pre j (by omega)
 ·have hbo:=h.ok i b hb
  refine ⟨by simpa using h.len,fun j hj=>?_,fun j d hd=>?_⟩
  ·rw [jg h.len hi]
   split
   ·exact ⟨_,rfl⟩
   ·split
    ·exact ⟨_,rfl⟩
    ·by_cases e : j=i
     ·subst e;exact ⟨b,hb⟩
     ·exact h.pre j (by omega)
  ·rw [jg h.len hi] at hd
   split at hd
   ·injection hd with hd;injection hd with hd;subst hd
    exact ⟨by rw [(v8 hh).2];exact hbo.1,(sC hh).2⟩
   ·split at hd
    ·injection hd with hd;injection hd with hd;subst hd
     exact ⟨by rw [(v8 hh).1];exact hbo.1,(sC hh).1⟩
    ·exact h.ok j d hd
structure BInv (t : Tr) (i : Nat) (L : OL) : Prop where
 bok : BOk t i L
 run : jF t.cells.length (t.cells.drop i) i L=bN t
theorem rn {t : Tr} (h : eL t=true) : BInv t 0 (gD t):=⟨lm h,by simp [bN,h]⟩
theorem lW {t : Tr} {i : Nat} {L L' : OL} (h : BInv t i L) (hlt : i < t.cells.length) (hs : ef t.cells.length i t.cells[i] L=some L') : BInv t (i+1) L':=by
 refine ⟨ln h.bok hs,?_⟩
 rw [← h.run,List.drop_eq_getElem_cons hlt]
 simp only [jF,hs]
theorem ro {t : Tr} {i : Nat} {L : OL} (h : BInv t i L) (hlt : i < t.cells.length) (hs : ef t.cells.length i t.cells[i] L=none) : bN t=none:=by
 rw [← h.run,List.drop_eq_getElem_cons hlt]
 simp only [jF,hs]
theorem rq {t : Tr} {i : Nat} {L : OL} (h : BInv t i L) (hlt : ¬ i < t.cells.length) : bN t=some L:=by
 rw [← h.run,List.drop_eq_nil_of_le (by omega)]
 rfl
theorem n6 {t : Tr} {L : OL} (h : bN t=some L) : BOk t t.cells.length L:=
 iA h (lm (gM h)) (fun _ _ _ _ _ hp hm=>ln hp hm)
theorem kK {t : Tr} {L : OL} (h : bN t=some L) : L=(ah t).map some:=by
 have ok:=n6 h
 rw [ah,h]
 simp only [List.map_map]
 apply List.ext_getElem?;intro j
 by_cases hj : j < L.length
 ·obtain ⟨b,hb⟩:=ok.pre j (by rw [← ok.len];exact hj)
  simp [hb]
 ·simp [List.getElem?_eq_none (by omega : L.length≤j)]
theorem tf {t : Tr} {L : OL} (h : bN t=some L) : L.map mg=(ah t).map iv:=by
 rw [kK h]
 simp [mg,Function.comp_def]
theorem du {t : Tr} (h : au t=true) : (ah t).length=t.cells.length:=by
 obtain ⟨L,hL⟩:=Option.isSome_iff_exists.1 h
 have:=(n6 hL).len
 rw [kK hL] at this
 simpa using this
theorem gE {t : Tr} {j : Nat} {b : Bx} (hb : (ah t)[j]?=some b) : b.length=t.root.length∧aL vI b=true:=by
 cases hL : bN t with
 |none=>simp [ah,hL] at hb
 |some L=>
  have:=(n6 hL).ok j b
  rw [kK hL] at this
  exact this (by simp [hb])
theorem cO {t : Tr} (h : au t=true) : eL t=true:=by
 obtain ⟨L,hL⟩:=Option.isSome_iff_exists.1 h
 exact gM hL
theorem n7 {t : Tr} (h : bN t=none) : au t=false∧ah t=[]:=by simp [au,ah,h]
theorem iB {t : Tr} {i : Nat} {L : OL} {b : Bx} {c : Cel} {n : Nat} (hb : L[i]?=some (some b)) (hl : aI c=true) : ef n i c L=if df c.v then some L else none:=by
 simp [ef,hb,hl]
theorem mC {i : Nat} {L : OL} {b : Bx} {c : Cel} {n : Nat} (hb : L[i]?=some (some b)) (hl : aI c=false) (hi : fA n i c=true) (hh : aX b c.joint=true) (h1 : L[c.low.toNat]?=some none) (h2 : L[c.high.toNat]?=some none) : ef n i c L=some ((L.set c.low.toNat (some (bw b c.joint))).set c.high.toNat (some (bz b c.joint))):=by
 simp [ef,hb,hl,hi,hh,h1,h2]
theorem jh {i : Nat} {L : OL} {b : Bx} {c : Cel} {n : Nat} (hb : L[i]?=some (some b)) (hl : aI c=false) (h : fA n i c=false∨aX b c.joint=false∨(∃ d,L[c.low.toNat]?=some (some d))∨(∃ d,L[c.high.toNat]?=some (some d))) : ef n i c L=none:=by
 unfold ef
 rw [hb]
 simp only [hl,Bool.false_eq_true,if_false]
 split
 ·rename_i hi
  split
  ·rename_i hh
   rcases h with h|h|⟨d,h⟩|⟨d,h⟩
   ·rw [hi] at h;cases h
   ·rw [hh] at h;cases h
   ·rw [h]
   ·rw [h];split
    ·rename_i e1 e2;cases e2
    ·rfl
  ·rfl
 ·rfl
end Go.Ab
namespace Go.Ab
open Go.Proofs
def aN : Verd:=⟨0,[],0,[],[]⟩
def bd (v : Verd) : Cel:=⟨-1,-1,-1,v⟩
theorem yH {c : Cel} (h : aI c=true) : c=bd c.v:=by
 cases c;simp [aI] at h;simp [bd,h]
theorem iJ (v : Verd) : aI (bd v)=true:=by simp [aI,bd]
theorem Bf : jR aN=true:=by simp [jR,aN,ik]
theorem Bg : df aN=true:=by simp [df,aN,ik]
theorem jx {n i : Nat} {c : Cel} {L L' : OL} (h : ef n i c L=some L') {j : Nat} {b : Bx} (hb : L[j]?=some (some b)) : L'[j]?=some (some b):=by
 obtain ⟨d,hd,⟨_,_,rfl⟩|⟨_,hi,hh,hlo,hhi,rfl⟩⟩:=eg h
 ·exact hb
 ·have h1 : c.low.toNat≠j:=by intro e;rw [e,hb] at hlo;cases hlo
  have h2 : c.high.toNat≠j:=by intro e;rw [e,hb] at hhi;cases hhi
  rw [List.getElem?_set,if_neg h2,List.getElem?_set,if_neg h1];exact hb
theorem v9 {n i k : Nat} {c : Cel} {L L' S : OL} (hl : L.length=n) (hk : S.length=k) (h : ef n i c L=some L') : ef (n+k) i c (L++S)=some (L'++S):=by
 obtain ⟨d,hd,⟨h1,h2,rfl⟩|⟨h1,hi,hh,hlo,hhi,rfl⟩⟩:=eg h
 ·have hlt : i < L'.length:=(List.getElem?_eq_some_iff.1 hd).1
  have : (L'++S)[i]?=some (some d):=by rw [List.getElem?_append_left hlt];exact hd
  simp [ef,this,h1,h2]
 ·have hlt : i < L.length:=(List.getElem?_eq_some_iff.1 hd).1
  have l1 : c.low.toNat < L.length:=(List.getElem?_eq_some_iff.1 hlo).1
  have l2 : c.high.toNat < L.length:=(List.getElem?_eq_some_iff.1 hhi).1
  have e1 : (L++S)[i]?=some (some d):=by rw [List.getElem?_append_left hlt];exact hd
  have e2 : (L++S)[c.low.toNat]?=some none:=by rw [List.getElem?_append_left l1];exact hlo
  have e3 : (L++S)[c.high.toNat]?=some none:=by rw [List.getElem?_append_left l2];exact hhi
  have hi' : fA (n+k) i c=true:=by
   obtain ⟨a1,a2,a3,a4,a5,a6⟩:=dt.1 hi
   exact dt.2 ⟨a1,by omega,a3,by omega,a5,a6⟩
  rw [mC e1 h1 hi' hh e2 e3,List.set_append_left _ _ l1,List.set_append_left _ _ (by simpa using l2)]
def fY (t : Tr) (i : Nat) (j : Int) (v : Verd) : Tr:=⟨t.root,t.cells.set i ⟨j,t.cells.length,t.cells.length+1,aN⟩++[bd v,bd v]⟩
theorem kL (t : Tr) (i : Nat) (j : Int) (v : Verd) : (fY t i j v).cells.length=t.cells.length+2:=by simp [fY]
theorem lX {n i : Nat} {cs : List Cel} {c : Cel} {L L' : OL} (hc : cs[i]?=some c) (h : ef n i c L=some L') : jF n (cs.drop i) i L=jF n (cs.drop (i+1)) (i+1) L':=by
 obtain ⟨hlt,hc⟩:=List.getElem?_eq_some_iff.1 hc
 rw [List.drop_eq_getElem_cons hlt,hc]
 simp only [jF,h]
theorem CH {t : Tr} {L : OL} (h : bN t=some L) {i : Nat} {c : Cel} (hc : t.cells[i]?=some c) (hl : aI c=true) : df c.v=true:=by
 have hp:=iA (P:=fun k _=>i < k→df c.v=true) h (by intro h;omega) (fun k d M M' hk hp hm hi=>by
  by_cases e : k=i
  ·subst e
   rw [hc] at hk;injection hk with hk;subst hk
   obtain ⟨b,hb,⟨_,h2,_⟩|⟨h1,_⟩⟩:=eg hm
   ·exact h2
   ·rw [hl] at h1;cases h1
  ·exact hp (by omega))
 exact hp (List.getElem?_eq_some_iff.1 hc).1
theorem zp {t : Tr} {L : OL} (h : bN t=some L) {i : Nat} {j : Int} {c : Cel} {b : Bx} (hc : t.cells[i]?=some c) (hl : aI c=true) (hn : t.cells.length+2≤2048) (hb : L[i]?=some (some b)) (hh : aX b j=true) :
 bN (fY t i j c.v)=some (L++[some (bw b j),some (bz b j)]):=by
 have hsz:=gM h
 obtain ⟨z1,z2,z3,z4,z5⟩:=bc.1 hsz
 have hilt : i < t.cells.length:=(List.getElem?_eq_some_iff.1 hc).1
 have hlen:=kL t i j c.v
 have hf:=CH h hc hl
 generalize hT : fY t i j c.v=T at *
 have hTr : T.root=t.root:=by rw [← hT];rfl
 have hTc : ∀ k,k≠i→k < t.cells.length→T.cells[k]?=t.cells[k]?:=by
  intro k hk hlt
  rw [← hT];simp only [fY]
  rw [List.getElem?_append_left (by simpa using hlt),List.getElem?_set,if_neg (fun e=>hk e.symm)]
 have hTi : T.cells[i]?=some ⟨j,t.cells.length,t.cells.length+1,aN⟩:=by
  rw [← hT];simp only [fY]
  rw [List.getElem?_append_left (by simpa using hilt),List.getElem?_set,if_pos rfl,if_pos hilt]
 have hTs : eL T=true:=bc.2 ⟨by omega,by omega,by rw [hTr];omega,by rw [hTr];omega,by rw [hTr];exact z5⟩
 have hP:=iA (P:=fun k M=>BOk t k M∧if k≤i then jF (t.cells.length+2) (T.cells.drop k) k (M++[none,none])=bN T
  else ∃ d,M[i]?=some (some d)∧(aX d j=true→jF (t.cells.length+2) (T.cells.drop k) k (M++[some (bw d j),some (bz d j)])=bN T)) h (by
  refine ⟨lm hsz,?_⟩
  simp only [Nat.zero_le,if_true]
  rw [bN,if_pos hTs,hlen,List.drop_zero]
  congr 1
  simp only [gD,hTr,hlen,List.cons_append]
  rw [show t.cells.length+2 - 1=(t.cells.length - 1)+2 by omega,← List.replicate_append_replicate];rfl) (by
  intro k e M M' hk hp hm
  obtain ⟨hbo,hp⟩:=hp
  refine ⟨ln hbo hm,?_⟩
  have hklt : k < t.cells.length:=(List.getElem?_eq_some_iff.1 hk).1
  rcases Nat.lt_trichotomy k i with hki|hki|hki
  ·rw [if_pos (by omega)] at hp ⊢
   rw [← hp]
   exact (lX (by rw [hTc k (by omega) hklt];exact hk) (v9 (k:=2) (S:=[none,none]) hbo.len rfl hm)).symm
  ·subst hki
   rw [hc] at hk;injection hk with hk;subst hk
   rw [if_pos (Nat.le_refl _)] at hp
   rw [if_neg (by omega)]
   obtain ⟨d,hd,⟨_,_,rfl⟩|⟨h1,_⟩⟩:=eg hm
   ·refine ⟨d,hd,fun hok=>?_⟩
    rw [← hp]
    refine (lX hTi ?_).symm
    have e1 : (M'++[none,none])[k]?=some (some d):=by rw [List.getElem?_append_left (by rw [hbo.len];exact hilt)];exact hd
    have hi' : fA (t.cells.length+2) k ⟨j,t.cells.length,t.cells.length+1,aN⟩=true:=dt.2 ⟨by simp only;omega,by simp only;omega,by simp only;omega,by simp only;omega,by simp only;omega,Bf⟩
    have t1 : ((t.cells.length : Int)).toNat=M'.length:=by rw [hbo.len];omega
    have t2 : ((t.cells.length : Int)+1).toNat=M'.length+1:=by rw [hbo.len];omega
    rw [mC e1 (by simp [aI]) hi' hok (by simp only;rw [t1];simp) (by simp only;rw [t2];simp)]
    simp only [t1,t2]
    congr 1
    rw [List.set_append_right _ _ (by omega),List.set_append_right _ _ (by omega)]
    simp
   ·rw [hl] at h1;cases h1
  ·rw [if_neg (by omega)] at hp ⊢
   obtain ⟨d,hd,hp⟩:=hp
   refine ⟨d,jx hm hd,fun hok=>?_⟩
   rw [← hp hok]
   exact (lX (by rw [hTc k (by omega) hklt];exact hk) (v9 (k:=2) (S:=[some (bw d j),some (bz d j)]) hbo.len rfl hm)).symm)
 obtain ⟨hbo,hP⟩:=hP
 rw [if_neg (by omega)] at hP
 obtain ⟨d,hd,hP⟩:=hP
 rw [hb] at hd;injection hd with hd;injection hd with hd;subst hd
 rw [← hP hh]
 have hdrop : T.cells.drop t.cells.length=[bd c.v,bd c.v]:=by
  rw [← hT];simp only [fY]
  rw [List.drop_append_of_le_length (by simp),List.drop_eq_nil_of_le (by simp)];rfl
 rw [hdrop]
 have e1 : (L++[some (bw b j),some (bz b j)])[t.cells.length]?=some (some (bw b j)):=by rw [← hbo.len];simp
 have e2 : (L++[some (bw b j),some (bz b j)])[t.cells.length+1]?=some (some (bz b j)):=by rw [← hbo.len];simp
 simp only [jF]
 rw [iB (t:=t) e1 (iJ _),if_pos (show df (bd c.v).v=true from hf)]
 simp only
 rw [iB (t:=t) e2 (iJ _),if_pos (show df (bd c.v).v=true from hf)]
def en (t : Tr) (i : Nat) (v : Verd) : Tr:=⟨t.root,t.cells.set i (bd v)⟩
theorem yI {t : Tr} {L : OL} (h : bN t=some L) {i : Nat} {c : Cel} {v : Verd} (hc : t.cells[i]?=some c) (hl : aI c=true) (hf : df v=true) : bN (en t i v)=some L:=by
 have hsz:=gM h
 have hilt : i < t.cells.length:=(List.getElem?_eq_some_iff.1 hc).1
 have hlen : (en t i v).cells.length=t.cells.length:=by simp [en]
 generalize hT : en t i v=T at *
 have hTr : T.root=t.root:=by rw [← hT];rfl
 have hTs : eL T=true:=by
  obtain ⟨z1,z2,z3,z4,z5⟩:=bc.1 hsz
  exact bc.2 ⟨by omega,by omega,by rw [hTr];omega,by rw [hTr];omega,by rw [hTr];exact z5⟩
 have hP:=iA (P:=fun k M=>jF t.cells.length (T.cells.drop k) k M=bN T) h (by
  rw [bN,if_pos hTs,hlen,List.drop_zero]
  congr 1
  simp only [gD,hTr,hlen]) (by
  intro k e M M' hk hp hm
  rw [← hp]
  by_cases hki : k=i
  ·subst hki
   rw [hc] at hk;injection hk with hk;subst hk
   obtain ⟨d,hd,⟨_,_,rfl⟩|⟨h1,_⟩⟩:=eg hm
   ·refine (lX (c:=bd v) (by rw [← hT];simp [en,hilt]) ?_).symm
    rw [iB (t:=t) hd (iJ _),if_pos (show df (bd v).v=true from hf)]
   ·rw [hl] at h1;cases h1
  ·refine (lX ?_ hm).symm
   rw [← hT];simp only [en]
   rw [List.getElem?_set,if_neg (fun e=>hki e.symm)];exact hk)
 rw [← hP,List.drop_eq_nil_of_le (by omega)]
 rfl
def fJ (t : Tr) (i : Nat) : Bool:=match t.cells[i]? with
 |some c=>aI c
 |none=>false
def bS (t : Tr) (i j : Int) : Bool:=au t && decide (0≤i) && decide (i < t.cells.length) && fJ t i.toNat && decide (t.cells.length+2≤2048) && aX ((ah t)[i.toNat]?.getD []) j
def gf (t : Tr) (i : Nat) : Verd:=match t.cells[i]? with
 |some c=>c.v
 |none=>aN
def bG (t : Tr) (i j : Int) : Tr:=if bS t i j then fY t i.toNat j (gf t i.toNat) else t
def bM (t : Tr) (i : Int) (v : Verd) : Bool:=au t && decide (0≤i) && decide (i < t.cells.length) && fJ t i.toNat && decide ((gf t i.toNat).kind=0) && df v
def dH (t : Tr) (i : Int) (v : Verd) : Tr:=if bM t i v then en t i.toNat v else t
theorem wc {t : Tr} {i : Nat} (h : fJ t i=true) : ∃ c,t.cells[i]?=some c∧aI c=true∧gf t i=c.v:=by
 unfold fJ at h
 split at h
 ·rename_i c hc
  exact ⟨c,hc,h,by simp [gf,hc]⟩
 ·cases h
theorem zq {t : Tr} (h : au t=true) (i j : Int) : au (bG t i j)=true∧(bG t i j).root=t.root∧(bG t i j).cells.length≤t.cells.length+2:=by
 unfold bG
 split
 ·rename_i hs
  simp only [bS,Bool.and_eq_true,decide_eq_true_eq] at hs
  obtain ⟨⟨⟨⟨⟨h1,h2⟩,h3⟩,h4⟩,h5⟩,h6⟩:=hs
  obtain ⟨L,hL⟩:=Option.isSome_iff_exists.1 h
  obtain ⟨c,hc,hl,hv⟩:=wc h4
  have hlt : i.toNat < t.cells.length:=by omega
  obtain ⟨b,hb⟩:=(n6 hL).pre i.toNat hlt
  have hb' : (ah t)[i.toNat]?=some b:=by
   have:=kK hL
   rw [this] at hb
   simpa using hb
  rw [hb'] at h6
  have:=zp hL hc hl h5 hb h6
  rw [hv]
  exact ⟨by rw [au,this];rfl,rfl,by rw [kL];exact Nat.le_refl _⟩
 ·exact ⟨h,rfl,by omega⟩
theorem yJ {t : Tr} (h : au t=true) (i : Int) (v : Verd) : au (dH t i v)=true∧(dH t i v).root=t.root∧(dH t i v).cells.length=t.cells.length∧ah (dH t i v)=ah t:=by
 unfold dH
 split
 ·rename_i hs
  simp only [bM,Bool.and_eq_true,decide_eq_true_eq] at hs
  obtain ⟨⟨⟨⟨⟨h1,h2⟩,h3⟩,h4⟩,h5⟩,h6⟩:=hs
  obtain ⟨L,hL⟩:=Option.isSome_iff_exists.1 h
  obtain ⟨c,hc,hl,hv⟩:=wc h4
  have:=yI hL hc hl h6
  exact ⟨by rw [au,this];rfl,rfl,by simp [en],by simp [ah,this,hL]⟩
 ·exact ⟨h,rfl,rfl,rfl⟩
end Go.Ab
namespace Go.Ab
open Go.Proofs
def gF (k : Int) : Verd:=if k=1∨k=2 then ⟨2,[],0,[1],[1]⟩ else if k=3 then ⟨1,[(1,0,0)],0,[],[]⟩ else aN
def fZ (r : List (Int × Int)) : Tr:=if dl r then ⟨r,[bd aN]⟩ else ⟨[],[]⟩
theorem CI {r : List (Int × Int)} (h : dl r=true) : bN ⟨r,[bd aN]⟩=some [some r]:=by
 have hs : eL ⟨r,[bd aN]⟩=true:=by simp [eL,h]
 rw [bN,if_pos hs]
 simp only [gD,List.length_singleton,Nat.sub_self,List.replicate,jF]
 rw [iB (t:=⟨r,[]⟩) (b:=r) rfl (iJ _),if_pos (show df (bd aN).v=true from Bg)]
theorem Fx {r : List (Int × Int)} (h : dl r=false) : bN ⟨r,[bd aN]⟩=none:=by
 have hs : eL ⟨r,[bd aN]⟩=false:=by simp [eL,h]
 rw [bN,if_neg (by simp [hs])]
theorem we (r : List (Int × Int)) : au ⟨r,[bd aN]⟩=dl r:=by
 cases h : dl r with
 |true=>rw [au,CI h];rfl
 |false=>rw [au,Fx h];rfl
end Go.Ab
namespace Go.Ab
open Go.Proofs
theorem yL {α β : Type} {f : α→β→Bool} {xs : List α} {ys : List β} : dF f xs ys=true↔∀ (i : Nat) x y,xs[i]?=some x→ys[i]?=some y→f x y=true:=by
 unfold dF
 rw [List.all_eq_true]
 constructor
 ·intro h i x y hx hy
  have : (List.zipWith f xs ys)[i]?=some (f x y):=by simp [List.getElem?_zipWith,hx,hy]
  exact h _ (List.mem_of_getElem? this)
 ·intro h z hz
  obtain ⟨i,hi⟩:=List.getElem?_of_mem hz
  rw [List.getElem?_zipWith] at hi
  cases hx : xs[i]? with
  |none=>simp [hx] at hi
  |some x=>
   cases hy : ys[i]? with
   |none=>simp [hx,hy] at hi
   |some y=>
    simp [hx,hy] at hi
    rw [← hi];exact h i x y hx hy
theorem n8 {a b : Bx} (ha : aL vI a=true) (hb : aL vI b=true) : dB a b=true↔a.length=b.length∧∀ (i : Nat) x y,a[i]?=some x→b[i]?=some y→x.1≤y.2∧y.1≤x.2:=by
 simp only [dB,Bool.and_eq_true,decide_eq_true_eq,yL]
 constructor
 ·rintro ⟨h1,h2⟩
  refine ⟨h1,fun i x y hx hy=>?_⟩
  have:=h2 i x y hx hy
  simp only [eV,Bool.and_eq_true,decide_eq_true_eq] at this
  omega
 ·rintro ⟨h1,h2⟩
  refine ⟨h1,fun i x y hx hy=>?_⟩
  have vx : ak x.1 x.2=true:=dg.1 ha _ (List.mem_of_getElem? hx)
  have vy : ak y.1 y.2=true:=dg.1 hb _ (List.mem_of_getElem? hy)
  simp only [eV,vx,vy,Bool.and_eq_true,decide_eq_true_eq,true_and]
  have:=h2 i x y hx hy
  have:=cL.1 vx
  have:=cL.1 vy
  omega
theorem Ao {b : Bx} {c : List Int} (h : bO b c=true) {i : Nat} {y : Int} (hy : c[i]?=some y) : -2147483648≤y∧y≤2147483648:=by
 simp only [bO,Bool.and_eq_true,decide_eq_true_eq,yL] at h
 obtain ⟨h1,h2⟩:=h
 have hlt:=(List.getElem?_eq_some_iff.1 hy).1
 have:=h2 i (b[i]'(by omega)) y (List.getElem?_eq_getElem _) hy
 simp only [kw,Bool.and_eq_true,decide_eq_true_eq] at this
 have:=cL.1 this.1.1
 omega
end Go.Ab
namespace Go.Ab
open Go.Proofs
theorem Eh {t : Tr} (hv : au t=true) {i : Nat} {c : Cel} (hc : t.cells[i]?=some c) : (c.low==-1)=aI c∧(aI c=false→fA t.cells.length i c=true):=by
 obtain ⟨L,hL⟩:=Option.isSome_iff_exists.1 hv
 have hp:=iA (P:=fun k _=>i < k→(c.low==-1)=aI c∧(aI c=false→fA t.cells.length i c=true)) hL (by intro h;omega) (fun k d M M' hk hp hm hi=>by
  by_cases e : k=i
  ·subst e
   rw [hc] at hk;injection hk with hk;subst hk
   obtain ⟨b,hb,⟨h1,_,_⟩|⟨h1,h2,_⟩⟩:=eg hm
   ·refine ⟨?_,fun h=>by rw [h1] at h;cases h⟩
    rw [h1];simp [aI] at h1;simp [h1]
   ·refine ⟨?_,fun _=>h2⟩
    rw [h1]
    have:=dt.1 h2
    simp;omega
  ·exact hp (by omega))
 exact hp (List.getElem?_eq_some_iff.1 hc).1
def aE (t : Tr) (c : Int) : Bx:=(ah t)[c.toNat]?.getD []
theorem dh {t : Tr} (hv : au t=true) {c : Int} (h : c.toNat < t.cells.length) : (ah t)[c.toNat]?=some (aE t c)∧(aE t c).length=t.root.length∧aL vI (aE t c)=true:=by
 have hl : c.toNat < (ah t).length:=by rw [du hv];exact h
 have e : (ah t)[c.toNat]?=some (aE t c):=by simp [aE,List.getElem?_eq_getElem hl]
 exact ⟨e,gE e⟩
def yM (t : Tr) (chain : List Int) (j : Nat) : Bool:=match chain[j]? with
 |some c=>decide (0≤c) && decide (c < t.cells.length) && fJ t c.toNat && !((chain.take j).contains c) && (decide (j=0) || dB (aE t (chain[j - 1]?.getD 0)) (aE t c))
 |none=>false
theorem Bh {t : Tr} {chain : List Int} {j : Nat} {c : Int} (hc : chain[j]?=some c) : yM t chain j=true↔0≤c∧c < t.cells.length∧fJ t c.toNat=true∧c ∉ chain.take j∧(j=0∨dB (aE t (chain[j - 1]?.getD 0)) (aE t c)=true):=by
 simp [yM,hc,and_assoc]
structure ChOk (t : Tr) (chain p q : List Int) : Prop where
 valid : au t=true
 hp : bO t.root p=true
 hq : bO t.root q=true
 ne : chain≠[]
 all : ∀ j,j < chain.length→yM t chain j=true
namespace ChOk
variable {t : Tr} {chain p q : List Int}
theorem get (h : ChOk t chain p q) {j : Nat} (hj : j < chain.length) : 0≤chain[j]∧chain[j] < t.cells.length∧fJ t chain[j].toNat=true∧chain[j] ∉ chain.take j∧(j=0∨dB (aE t (chain[j - 1]?.getD 0)) (aE t chain[j])=true):=
 (Bh (List.getElem?_eq_getElem hj)).1 (h.all j hj)
theorem box (h : ChOk t chain p q) {j : Nat} (hj : j < chain.length) : (ah t)[chain[j].toNat]?=some (aE t chain[j])∧(aE t chain[j]).length=t.root.length∧aL vI (aE t chain[j])=true:=by
 have:=h.get hj
 exact dh h.valid (by omega)
theorem touch (h : ChOk t chain p q) {j : Nat} (hj : j+1 < chain.length) : dB (aE t chain[j]) (aE t chain[j+1])=true:=by
 have:=(h.get hj).2.2.2.2
 rcases this with e|e
 ·omega
 ·rw [Nat.add_sub_cancel,List.getElem?_eq_getElem (by omega)] at e;exact e
end ChOk
end Go.Ab
namespace Go.Ab
open Go.Proofs
structure BS where
 far : List Int
 q : List Nat
section
variable (n : Nat) (may has hasF : Nat→Bool) (tch : Nat→Nat→Bool)
def bu (far : List Int) (i : Nat) : Int:=far[i]?.getD 0
def bI : Nat→BS
 |0=>⟨List.replicate n 0,[]⟩
 |i+1=>if may i && has i then ⟨(bI i).far.set i 1,(bI i).q++[i]⟩ else bI i
def kj (s : BS) (k : Nat) : Nat:=s.q[k]?.getD 0
def EN (s : BS) (k i : Nat) : Bool:=(bu s.far i==0) && may i && tch i (kj s k)
def CJ (s : BS) (k i : Nat) : BS:=⟨s.far.set i (bu s.far (kj s k)+1),s.q++[i]⟩
def bJ (s : BS) (k : Nat) : Nat→BS
 |0=>s
 |i+1=>if EN may tch (bJ s k i) k i then CJ (bJ s k i) k i else bJ s k i
def bK : Nat→BS
 |0=>bI n may has n
 |k+1=>if k < (bK k).q.length then bJ may tch (bK k) k n else bK k
structure BInv2 (s : BS) : Prop where
 len : s.far.length=n
 cnt : s.far.countP (fun x=>x !=0)=s.q.length
 mem : ∀ j ∈ s.q,j < n∧1≤bu s.far j
 nn : ∀ i,0≤bu s.far i
 top : ∀ i,bu s.far i≤s.q.length
 may' : ∀ i,1≤bu s.far i→may i=true
 back : ∀ i,1≤bu s.far i→(bu s.far i=1∧has i=true)∨∃ p,p < n∧bu s.far p=bu s.far i - 1∧1≤bu s.far p∧tch i p=true
variable {n may has hasF tch}
theorem mI {far : List Int} {i j : Nat} {v : Int} (hi : i < far.length) : bu (far.set i v) j=if j=i then v else bu far j:=by
 unfold bu
 rw [List.getElem?_set]
 by_cases h : i=j
 ·subst h;simp [hi]
 ·rw [if_neg h,if_neg (fun e=>h e.symm)]
theorem BInv2.le {s : BS} (h : BInv2 n may has tch s) : s.q.length≤n:=by
 rw [← h.cnt,← h.len];exact List.countP_le_length
theorem Fy {far : List Int} {i : Nat} {v : Int} (hi : i < far.length) (h0 : bu far i=0) (hv : v≠0) : (far.set i v).countP (fun x=>x !=0)=far.countP (fun x=>x !=0)+1:=by
 have h0' : far[i]=0:=by simpa [bu,List.getElem?_eq_getElem hi] using h0
 rw [List.countP_set hi]
 simp [h0',hv]
theorem BInv2.put {s : BS} (h : BInv2 n may has tch s) {i : Nat} {v : Int} (hi : i < n) (h0 : bu s.far i=0) (hv : 1≤v) (hm : may i=true) (ht : v≤s.q.length+1)
 (hb : (v=1∧has i=true)∨∃ p,p < n∧bu s.far p=v - 1∧1≤bu s.far p∧tch i p=true) : BInv2 n may has tch ⟨s.far.set i v,s.q++[i]⟩:=by
 have hil : i < s.far.length:=by rw [h.len];exact hi
 refine ⟨by simpa using h.len,?_,?_,?_,?_,?_,?_⟩
 ·simp only [List.length_append,List.length_singleton];rw [Fy hil h0 (by omega),h.cnt]
 ·intro j hj
  simp only [List.mem_append,List.mem_singleton] at hj
  simp only [mI hil]
  rcases hj with hj|rfl
  ·refine ⟨(h.mem j hj).1,?_⟩
   split
   ·exact hv
   ·exact (h.mem j hj).2
  ·exact ⟨hi,by simp [hv]⟩
 ·intro j;simp only [mI hil];split
  ·omega
  ·exact h.nn j
 ·intro j;simp only [mI hil,List.length_append,List.length_singleton]
  have:=h.top j
  split<;>omega
 ·intro j;simp only [mI hil];split
  ·rename_i e;rw [e];exact fun _=>hm
  ·exact h.may' j
 ·have hpn : ∀ p,1≤bu s.far p→p≠i:=fun p hp e=>by rw [e,h0] at hp;omega
  intro j;simp only [mI hil];split
  ·rename_i e;rw [e];intro _
   rcases hb with hb|⟨p,p1,p2,p3,p4⟩
   ·exact .inl hb
   ·exact .inr ⟨p,p1,by rw [if_neg (hpn p p3)];exact p2,by rw [if_neg (hpn p p3)];exact p3,p4⟩
  ·intro hj
   rcases h.back j hj with hb|⟨p,p1,p2,p3,p4⟩
   ·exact .inl hb
   ·exact .inr ⟨p,p1,by rw [if_neg (hpn p p3)];exact p2,by rw [if_neg (hpn p p3)];exact p3,p4⟩
theorem yN : ∀ i,i≤n→BInv2 n may has tch (bI n may has i)∧∀ j,i≤j→bu (bI n may has i).far j=0
 |0,_=>by
  have hz : ∀ j,bu (List.replicate n (0 : Int)) j=0:=fun j=>by simp only [bu,List.getElem?_replicate];split<;>rfl
  refine ⟨⟨by simp [bI],by simp [bI,List.countP_replicate],by simp [bI],fun j=>by simp only [bI,hz];omega,fun j=>by simp only [bI,hz];simp,fun j hj=>by simp only [bI,hz] at hj;omega,fun j hj=>by simp only [bI,hz] at hj;omega⟩,fun j _=>by simp only [bI,hz]⟩
 |i+1,hi=>by
  obtain ⟨ih,iz⟩:=yN i (by omega)
  simp only [bI]
  split
  ·rename_i hc
   simp only [Bool.and_eq_true] at hc
   refine ⟨ih.put (by omega) (iz i (Nat.le_refl _)) (by omega) hc.1 (by omega) (.inl ⟨rfl,hc.2⟩),fun j hj=>?_⟩
   simp only [mI (show i < (bI n may has i).far.length by rw [ih.len];omega)]
   rw [if_neg (by omega)];exact iz j (by omega)
  ·exact ⟨ih,fun j hj=>iz j (by omega)⟩
theorem yP {s : BS} {k : Nat} (hs : BInv2 n may has tch s) (hk : k < s.q.length) : ∀ i,i≤n→BInv2 n may has tch (bJ may tch s k i)∧s.q.length≤(bJ may tch s k i).q.length∧kj (bJ may tch s k i) k=kj s k
 |0,_=>⟨hs,Nat.le_refl _,rfl⟩
 |i+1,hi=>by
  obtain ⟨ih,il,iq⟩:=yP hs hk i (by omega)
  simp only [bJ]
  split
  ·rename_i hc
   simp only [EN,Bool.and_eq_true,beq_iff_eq] at hc
   have hmem : kj (bJ may tch s k i) k ∈ (bJ may tch s k i).q:=by
    unfold kj
    rw [List.getElem?_eq_getElem (by omega : k < (bJ may tch s k i).q.length)]
    exact List.getElem_mem _
   have hq:=ih.mem _ hmem
   refine ⟨ih.put (by omega) hc.1.1 (by omega) hc.1.2 (by have:=ih.top (kj (bJ may tch s k i) k);omega) (.inr ⟨_,hq.1,by omega,hq.2,hc.2⟩),by simp only [CJ,List.length_append,List.length_singleton];omega,?_⟩
   rw [← iq]
   simp only [CJ,kj]
   rw [List.getElem?_append_left (by omega)]
  ·exact ⟨ih,il,iq⟩
theorem yQ : ∀ k,BInv2 n may has tch (bK n may has tch k)
 |0=>(yN n (Nat.le_refl _)).1
 |k+1=>by
  have ih:=yQ k
  simp only [bK]
  split
  ·rename_i hk
   exact (yP ih hk n (Nat.le_refl _)).1
  ·exact ih
theorem Ap {k : Nat} (h : ¬ k < (bK n may has tch k).q.length) : ∀ m,bK n may has tch (k+m)=bK n may has tch k
 |0=>rfl
 |m+1=>by
  have ih:=Ap h m
  rw [← Nat.add_assoc]
  simp only [bK]
  rw [ih,if_neg (by omega)]
def aS (far : List Int) (hasF : Nat→Bool) : Nat→Int
 |0=>-1
 |i+1=>if decide (0 < bu far i) && hasF i && (decide (aS far hasF i < 0) || decide (bu far i < bu far (aS far hasF i).toNat)) then (i : Int) else aS far hasF i
theorem yR {far : List Int} : ∀ i,-1≤aS far hasF i∧aS far hasF i < i∧(0≤aS far hasF i→0 < bu far (aS far hasF i).toNat∧hasF (aS far hasF i).toNat=true)
 |0=>by simp [aS]
 |i+1=>by
  have ih:=yR (far:=far) i
  simp only [aS]
  split
  ·rename_i hc
   simp only [Bool.and_eq_true,decide_eq_true_eq] at hc
   refine ⟨by omega,by omega,fun _=>?_⟩
   rw [Int.toNat_natCast];exact ⟨hc.1.1,hc.1.2⟩
  ·exact ⟨ih.1,by omega,ih.2.2⟩
def nC (far : List Int) (tch : Nat→Nat→Bool) (at_ i : Nat) : Bool:=(bu far i==bu far at_ - 1) && tch i at_
def nS (n : Nat) (far : List Int) (tch : Nat→Nat→Bool) (at_ : Nat) : Nat→Int
 |0=>-1
 |m+1=>if nC far tch at_ (n - 1 - m) then ((n - 1 - m : Nat) : Int) else nS n far tch at_ m
theorem CK {far : List Int} {at_ : Nat} : ∀ m,m≤n→(0≤nS n far tch at_ m→(nS n far tch at_ m).toNat < n∧nC far tch at_ (nS n far tch at_ m).toNat=true)∧(∀ i,i < n→n - m≤i→nC far tch at_ i=true→0≤nS n far tch at_ m)∧-1≤nS n far tch at_ m
 |0,_=>by simp [nS];omega
 |m+1,hm=>by
  have ih:=CK (far:=far) (at_:=at_) m (by omega)
  simp only [nS]
  split
  ·rename_i hc
   refine ⟨fun _=>?_,fun _ _ _ _=>by omega,by omega⟩
   rw [Int.toNat_natCast];exact ⟨by omega,hc⟩
  ·rename_i hc
   refine ⟨ih.1,fun i h1 h2 h3=>?_,ih.2.2⟩
   by_cases e : i=n - 1 - m
   ·rw [e] at h3;exact absurd h3 hc
   ·exact ih.2.1 i h1 (by omega) h3
def yS (n : Nat) (far : List Int) (tch : Nat→Nat→Bool) (at_ : Nat) : Nat:=(nS n far tch at_ n).toNat
theorem yT {s : BS} (h : BInv2 n may has tch s) (hsym : ∀ i j,i < n→j < n→tch i j=tch j i) {a : Nat} (hl : a < n) (ha : 1 < bu s.far a) : nS n s.far tch a n=(yS n s.far tch a : Int)∧yS n s.far tch a < n∧bu s.far (yS n s.far tch a)=bu s.far a - 1∧tch (yS n s.far tch a) a=true:=by
 have hr:=CK (n:=n) (tch:=tch) (far:=s.far) (at_:=a) n (Nat.le_refl _)
 rcases h.back a (by omega) with ⟨e,_⟩|⟨p,p1,p2,p3,p4⟩
 ·omega
 ·have hp : nC s.far tch a p=true:=by
   simp only [nC,p2,beq_self_eq_true,Bool.true_and];rw [hsym p a p1 hl];exact p4
  have h0:=hr.2.1 p p1 (by omega) hp
  obtain ⟨h1,h2⟩:=hr.1 h0
  simp only [nC,Bool.and_eq_true,beq_iff_eq] at h2
  exact ⟨by unfold yS;omega,h1,h2.1,h2.2⟩
def pS (n : Nat) (far : List Int) (tch : Nat→Nat→Bool) (a : Nat) : Nat→Nat
 |0=>a
 |r+1=>yS n far tch (pS n far tch a r)
theorem wG {s : BS} (h : BInv2 n may has tch s) (hsym : ∀ i j,i < n→j < n→tch i j=tch j i) {a : Nat} (hl : a < n) (ha : 0 < bu s.far a) : ∀ r : Nat,(r : Int) < bu s.far a→pS n s.far tch a r < n∧bu s.far (pS n s.far tch a r)=bu s.far a - r
 |0,_=>⟨hl,by simp [pS]⟩
 |r+1,hr=>by
  obtain ⟨i1,i2⟩:=wG h hsym hl ha r (by omega)
  have:=yT h hsym i1 (by omega)
  simp only [pS]
  exact ⟨this.2.1,by rw [this.2.2.1,i2];omega⟩
theorem Ei {s : BS} (h : BInv2 n may has tch s) (hsym : ∀ i j,i < n→j < n→tch i j=tch j i) {a : Nat} (hl : a < n) (ha : 0 < bu s.far a) {r : Nat} (hr : (r : Int)+1 < bu s.far a) : tch (pS n s.far tch a (r+1)) (pS n s.far tch a r)=true:=by
 obtain ⟨i1,i2⟩:=wG h hsym hl ha r (by omega)
 exact (yT h hsym i1 (by omega)).2.2.2
end
def mD (n : Nat) (may has hasF : Nat→Bool) (tch : Nat→Nat→Bool) : Int:=aS (bK n may has tch n).far hasF n
def kM (n : Nat) (may has hasF : Nat→Bool) (tch : Nat→Nat→Bool) : Bool:=decide (0≤mD n may has hasF tch)
def pY (n : Nat) (may has hasF : Nat→Bool) (tch : Nat→Nat→Bool) : List Nat:=if kM n may has hasF tch then (List.range (bu (bK n may has tch n).far (mD n may has hasF tch).toNat).toNat).map (pS n (bK n may has tch n).far tch (mD n may has hasF tch).toNat) else []
theorem Bi {n : Nat} {may has hasF : Nat→Bool} {tch : Nat→Nat→Bool} (hsym : ∀ i j,i < n→j < n→tch i j=tch j i) (h : kM n may has hasF tch=true) :
 let l:=pY n may has hasF tch
 0 < l.length∧l.length≤n∧(∀ (r : Nat) x,l[r]?=some x→x < n∧may x=true∧x ∉ l.take r)∧(∀ (r : Nat) x y,l[r]?=some x→l[r+1]?=some y→tch x y=true)∧
  (∀ x,l[0]?=some x→hasF x=true)∧(∀ x,l[l.length - 1]?=some x→has x=true):=by
 simp only [kM,decide_eq_true_eq] at h
 have hI:=yQ (n:=n) (may:=may) (has:=has) (tch:=tch) n
 have ha:=yR (hasF:=hasF) (far:=(bK n may has tch n).far) n
 have h' : decide (0≤mD n may has hasF tch)=true:=by simpa using h
 simp only [pY,kM,h',if_true]
 unfold mD at h ⊢
 obtain ⟨a1,a2,a3⟩:=ha
 obtain ⟨a4,a5⟩:=a3 h
 generalize hA : (aS (bK n may has tch n).far hasF n).toNat=a at *
 have hl : a < n:=by omega
 have htop:=hI.top a
 have hle:=hI.le
 generalize bK n may has tch n=s at *
 have hp:=wG hI hsym hl a4
 have ht:=fun {r : Nat}=>Ei (r:=r) hI hsym hl a4
 have hget : ∀ (r : Nat) x,((List.range (bu s.far a).toNat).map (pS n s.far tch a))[r]?=some x→(r : Int) < bu s.far a∧x=pS n s.far tch a r:=by
  intro r x hx
  rw [List.getElem?_map,Option.map_eq_some_iff] at hx
  obtain ⟨y,hy,rfl⟩:=hx
  obtain ⟨h1,h2⟩:=List.getElem?_eq_some_iff.1 hy
  simp at h1 h2
  exact ⟨by omega,by rw [h2]⟩
 refine ⟨by simp;omega,by simp;omega,?_,?_,?_,?_⟩
 ·intro r x hx
  obtain ⟨h1,rfl⟩:=hget r x hx
  obtain ⟨h2,h3⟩:=hp r h1
  refine ⟨h2,hI.may' _ (by omega),fun hm=>?_⟩
  obtain ⟨q,hq⟩:=List.getElem?_of_mem hm
  rw [List.getElem?_take] at hq
  split at hq
  ·rename_i hqr
   obtain ⟨h4,h5⟩:=hget q _ hq
   have:=(hp q h4).2
   rw [← h5,h3] at this
   omega
  ·cases hq
 ·intro r x y hx hy
  obtain ⟨h1,rfl⟩:=hget r x hx
  obtain ⟨h2,rfl⟩:=hget (r+1) y hy
  rw [hsym _ _ (hp r h1).1 (hp (r+1) h2).1]
  exact ht (by omega)
 ·intro x hx
  obtain ⟨h1,rfl⟩:=hget 0 x hx
  exact a5
 ·intro x hx
  obtain ⟨h1,rfl⟩:=hget _ x hx
  simp only [List.length_map,List.length_range] at h1 hx ⊢
  obtain ⟨h2,h3⟩:=hp _ h1
  rcases hI.back _ (show 1≤bu s.far (pS n s.far tch a ((bu s.far a).toNat - 1)) by omega) with hb|⟨p,p1,p2,p3,p4⟩
  ·exact hb.2
  ·omega
end Go.Ab
namespace Go.Ab
open Go.Proofs
set_option maxRecDepth 100000 in
@[simp] theorem K2 : gk Tryz.prog 72:=by
 have hf:=Tryz.func72;have nt:=Tryz.ntmps72;have rs:=Tryz.results72;exact FM
end Go.Ab
namespace Go.Ab
open Go.Proofs
theorem Fm {P : Program} (D : Nat) {t e : TypeId} (ht : P.underlying t=some (.array 3 e)) (hs : af P (sizeOf e)=some 1) (e0 : ∀ x y : Int,af P (Op.equalIn D e (.int .i64 x) (.int .i64 y))=some (x==y)) {xs ys : Array Value} {a b c a' b' c' : Int}
 (p0 : af P (part e xs (0 * 1))=some (.int .i64 a)) (p1 : af P (part e xs (1 * 1))=some (.int .i64 b)) (p2 : af P (part e xs (2 * 1))=some (.int .i64 c))
 (q0 : af P (part e ys (0 * 1))=some (.int .i64 a')) (q1 : af P (part e ys (1 * 1))=some (.int .i64 b')) (q2 : af P (part e ys (2 * 1))=some (.int .i64 c')) :
 af P (Op.equalIn (D+1) t (.agg xs) (.agg ys))=some (a==a' && b==b' && c==c'):=by
 simp only [Op.equalIn,ae,gv ht,Option.bind_some]
 simp only [hs,Option.bind_some,Std.Legacy.Range.forIn_eq_forIn_range',Std.Legacy.Range.size]
 have hr : List.range' 0 ((3 - 0+1 - 1) / 1) 1=[0,1,2]:=by decide
 rw [hr]
 simp only [List.forIn_cons,List.forIn_nil,ae,p0,q0,e0,Option.bind_some]
 cases h1 : (a==a')
 ·simp [cE]
 simp only [Bool.not_true,Bool.false_eq_true,if_false,cE,Option.bind_some,ae,p1,q1,e0]
 cases h2 : (b==b')
 ·simp [cE]
 simp only [Bool.not_true,Bool.false_eq_true,if_false,cE,Option.bind_some,ae,p2,q2,e0]
 cases h3 : (c==c')
 ·simp [cE]
 ·simp [cE]
theorem EK (a b e c d f : Int) : af Tryz.prog (Op.equal 60 (.agg #[.int .i64 a,.int .i64 b,.int .i64 e]) (.agg #[.int .i64 c,.int .i64 d,.int .i64 f]))=some (a==c && b==d && e==f):=
 Fm 9999 Tryz.underlying60 (by kernel_rfl) (fun x y=>kv (P:=Tryz.prog) 9998 2 .i64 .i64 x y Tryz.underlying2) (by kernel_rfl) (by kernel_rfl) (by kernel_rfl) (by kernel_rfl) (by kernel_rfl) (by kernel_rfl)
def rU (x : AV) : Option (Int × Int × Int):=match x with
 |.pv (.val (.agg vs))=>match vs.toList with
  |[.int .i64 a,.int .i64 b,.int .i64 c]=>some (a,b,c)
  |_=>none
 |_=>none
theorem mB {x : AV} {a b c : Int} (h : rU x=some (a,b,c)) : x=.pv (aV (a,b,c)):=by
 unfold rU at h
 split at h
 ·split at h
  ·rename_i vs _ a' b' c' hv
   injection h with h;injection h with h1 h2;injection h2 with h2 h3;subst h1;subst h2;subst h3
   rw [← Array.toArray_toList (xs:=vs),hv]
  ·cases h
 ·cases h
def D3 (x y : AV) (fb : Option bt) : Option bt:=match rU x,rU y with
 |some (a,b,e),some (c,d,f)=>some (.pv (.val (.bool !(a==c && b==d && e==f))),[])
 |_,_=>fb
@[simp] theorem Ir (a b e c d f : Int) (fb : Option bt) : D3 (.pv (.val (.agg #[.int .i64 a,.int .i64 b,.int .i64 e]))) (.pv (.val (.agg #[.int .i64 c,.int .i64 d,.int .i64 f]))) fb=some (.pv (.val (.bool !(a==c && b==d && e==f))),[]):=rfl
@[simp] theorem L5 {dst : Option Nat} {ty : TypeId} {pos : String} {aft : Array Edge} {g : Option (Nat × Bool)} {ρ : Operand→AV} (x y : Operand) :
 aT Tryz.prog ⟨dst,.binOp .neq 60 x y 60,ty,pos,aft,g⟩ ρ=D3 (ρ x) (ρ y) (fc Tryz.prog ⟨dst,.binOp .neq 60 x y 60,ty,pos,aft,g⟩ ρ):=by
 unfold D3
 split
 ·rename_i a b e c d f hx hy
  exact tP rfl (mB hx) (mB hy) (by kernel_rfl) (EK a b e c d f)
 ·rfl
def Bc (x y : AV) (fb : Option bt) : Option bt:=match rU x,rU y with
 |some (a,b,e),some (c,d,f)=>some (.pv (.val (.bool (a==c && b==d && e==f))),[])
 |_,_=>fb
end Go.Ab
namespace Go.Ab
open Go.Proofs
abbrev Iv:=Int × Int
def dY (a : Int) : Int:=min (max a (-2147483648)) 2147483648
def dj (a m : Int) : Int:=-((-a) / m)
theorem bA {a b : Int} (m n : Nat) (ha : -(m : Int)≤a) (ha' : a≤m) (hb : -(n : Int)≤b) (hb' : b≤n) : -((m * n : Nat) : Int)≤a * b∧a * b≤((m * n : Nat) : Int):=by
 have h1 : (a * b).natAbs≤m * n:=by
  rw [Int.natAbs_mul]
  exact Nat.mul_le_mul (by omega) (by omega)
 omega
theorem Gi (a : Int) (m : Nat) : a.fdiv (m : Int)=a / (m : Int):=Int.fdiv_eq_ediv_of_nonneg a (by omega)
theorem Gj (a : Int) : a.fdiv 65536=a / 65536:=Gi a 65536
theorem Gk (a : Int) : a.fdiv 16384=a / 16384:=Gi a 16384
theorem Gl (a : Int) : a.fdiv 1073741824=a / 1073741824:=Gi a 1073741824
theorem Gm (a : Int) (ha : -4611686018427387904≤a) (hb : a≤4611686018427387904) : ab Tryz.prog 239 [.pv (Z a),.pv (Z 16)] [] [] (.pv (Z (dj a 65536))):=by
 have h1 : a.fdiv (2 ^ min 16 IntKind.i64.bits)=a / 65536:=Gj a
 have h2 : IntKind.i64.wrap (a / 65536 * 2 ^ min 16 IntKind.i64.bits)=a / 65536 * 65536:=by
  show IntKind.i64.wrap (a / 65536 * 65536)=_
  exact aa (by omega) (by omega)
 have h3 : IntKind.i64.wrap (a / 65536+1)=a / 65536+1:=aa
 by_cases he : a / 65536 * 65536=a
 ·have hf : dj a 65536=a / 65536:=by unfold dj;omega
  rw [hf]
  refine Dp Tryz.func239 ?_
  intro C hP hN
  simp only [Tryz.f239] at hN ⊢
  exact Gy
 ·have hf : dj a 65536=a / 65536+1:=by unfold dj;omega
  rw [hf]
  have he' : (a / 65536 * 65536==a)=false:=by simpa using he
  refine Dp Tryz.func239 ?_
  intro C hP hN
  simp only [Tryz.f239] at hN ⊢
  exact Gy
theorem Gn (a : Int) : ab Tryz.prog 140 [.pv (Z a),.pv (Z 16)] [] [] (.pv (Z (a / 65536))):=by
 have h1 : a.fdiv (2 ^ min 16 IntKind.i64.bits)=a / 65536:=Gj a
 refine Dp Tryz.func140 ?_
 intro C hP hN
 simp only [Tryz.f140] at hN ⊢
 exact Gy
theorem Ji (a : Int) (ha : -4611686018427387904≤a) (hb : a≤4611686018427387904) : ab Tryz.prog 239 [.pv (Z a),.pv (Z 14)] [] [] (.pv (Z (dj a 16384))):=by
 have h1 : a.fdiv (2 ^ min 14 IntKind.i64.bits)=a / 16384:=Gk a
 have h2 : IntKind.i64.wrap (a / 16384 * 2 ^ min 14 IntKind.i64.bits)=a / 16384 * 16384:=by
  show IntKind.i64.wrap (a / 16384 * 16384)=_
  exact aa (by omega) (by omega)
 have h3 : IntKind.i64.wrap (a / 16384+1)=a / 16384+1:=aa
 by_cases he : a / 16384 * 16384=a
 ·have hf : dj a 16384=a / 16384:=by unfold dj;omega
  rw [hf]
  refine Dp Tryz.func239 ?_
  intro C hP hN
  simp only [Tryz.f239] at hN ⊢
  exact Gy
 ·have hf : dj a 16384=a / 16384+1:=by unfold dj;omega
  rw [hf]
  have he' : (a / 16384 * 16384==a)=false:=by simpa using he
  refine Dp Tryz.func239 ?_
  intro C hP hN
  simp only [Tryz.f239] at hN ⊢
  exact Gy
theorem Jj (a : Int) : ab Tryz.prog 140 [.pv (Z a),.pv (Z 14)] [] [] (.pv (Z (a / 16384))):=by
 have h1 : a.fdiv (2 ^ min 14 IntKind.i64.bits)=a / 16384:=Gk a
 refine Dp Tryz.func140 ?_
 intro C hP hN
 simp only [Tryz.f140] at hN ⊢
 exact Gy
theorem Jk (a : Int) (ha : -4611686018427387904≤a) (hb : a≤4611686018427387904) : ab Tryz.prog 239 [.pv (Z a),.pv (Z 30)] [] [] (.pv (Z (dj a 1073741824))):=by
 have h1 : a.fdiv (2 ^ min 30 IntKind.i64.bits)=a / 1073741824:=Gl a
 have h2 : IntKind.i64.wrap (a / 1073741824 * 2 ^ min 30 IntKind.i64.bits)=a / 1073741824 * 1073741824:=by
  show IntKind.i64.wrap (a / 1073741824 * 1073741824)=_
  exact aa (by omega) (by omega)
 have h3 : IntKind.i64.wrap (a / 1073741824+1)=a / 1073741824+1:=aa
 by_cases he : a / 1073741824 * 1073741824=a
 ·have hf : dj a 1073741824=a / 1073741824:=by unfold dj;omega
  rw [hf]
  refine Dp Tryz.func239 ?_
  intro C hP hN
  simp only [Tryz.f239] at hN ⊢
  exact Gy
 ·have hf : dj a 1073741824=a / 1073741824+1:=by unfold dj;omega
  rw [hf]
  have he' : (a / 1073741824 * 1073741824==a)=false:=by simpa using he
  refine Dp Tryz.func239 ?_
  intro C hP hN
  simp only [Tryz.f239] at hN ⊢
  exact Gy
theorem Jl (a : Int) : ab Tryz.prog 140 [.pv (Z a),.pv (Z 30)] [] [] (.pv (Z (a / 1073741824))):=by
 have h1 : a.fdiv (2 ^ min 30 IntKind.i64.bits)=a / 1073741824:=Gl a
 refine Dp Tryz.func140 ?_
 intro C hP hN
 simp only [Tryz.f140] at hN ⊢
 exact Gy
def aA (x y : Iv) : Iv:=if ak x.1 x.2 && ak y.1 y.2 then (dY (x.1+y.1),dY (x.2+y.2)) else (0,0)
def fq (x : Iv) : Iv:=if ak x.1 x.2 then (-x.2,-x.1) else (0,0)
def al (x y : Iv) : Iv:=if ak x.1 x.2 && ak y.1 y.2 then
 (dY (min (x.1 * y.1) (min (x.1 * y.2) (min (x.2 * y.1) (x.2 * y.2))) / 65536),dY (dj (max (x.1 * y.1) (max (x.1 * y.2) (max (x.2 * y.1) (x.2 * y.2)))) 65536)) else (0,0)
def lN (x : Int) : Iv:=(dY x,dY x)
theorem dk {a b : Int} : ak a b=true↔-2147483648≤a∧a≤b∧b≤2147483648:=by
 simp only [ak,Bool.and_eq_true,decide_eq_true_eq]
 constructor
 ·rintro ⟨⟨h1,h2⟩,h3⟩;exact ⟨h1,h2,h3⟩
 ·rintro ⟨h1,h2,h3⟩;exact ⟨⟨h1,h2⟩,h3⟩
theorem Ez (a b : Int) : ab Tryz.prog 227 [.pv (Z a),.pv (Z b)] [] [] (.pv (I (dY a) (dY b))):=FR a b
theorem uU (a : Int) : ab Tryz.prog 213 [.pv (Z a)] [] [] (.pv (I (dY a) (dY a))):=IT a
theorem cS {a b c d : Int} : ab Tryz.prog 224 [.pv (I a b),.pv (I c d)] [] [] (.pv (av (aA (a,b) (c,d)))):=by
 cases hv : (ak a b && ak c d) with
 |false=>
  have hr : aA (a,b) (c,d)=(0,0):=by simp [aA,hv]
  rw [hr]
  refine Dp Tryz.func224 ?_
  intro C hP hN
  simp only [Tryz.f224] at hN ⊢
  with_reducible repeat' (first|refine Sp.h ?_|((first|refine Ss.h ?_|refine Sc.h (uK _ _ _ _) ?_|(refine Sb.h ?_ ?_ ?_<;>(try intro hgd)<;>try exact Xy))<;>simp -implicitDefEqProofs (maxSteps:=2000000) [hP,hN,hv])|refine X2 ?_ ?_|(refine Xd ?_ ?_<;>intro hcd<;>try exact Xx))
 |true=>
  have hr : aA (a,b) (c,d)=(dY (a+c),dY (b+d)):=by simp only [aA,hv,if_true]
  rw [hr]
  have hv':=hv
  rw [Bool.and_eq_true,dk,dk] at hv'
  have w1 : IntKind.i64.wrap (a+c)=a+c:=aa
  have w2 : IntKind.i64.wrap (b+d)=b+d:=aa
  refine Dp Tryz.func224 ?_
  intro C hP hN
  simp only [Tryz.f224] at hN ⊢
  with_reducible repeat' (first|refine Sp.h ?_|((first|refine Ss.h ?_|refine Sc.h (uK _ _ _ _) ?_|refine Sc.h (Ez _ _) ?_|(refine Sb.h ?_ ?_ ?_<;>(try intro hgd)<;>try exact Xy))<;>simp -implicitDefEqProofs (maxSteps:=2000000) [hP,hN,hv,w1,w2])|refine X2 ?_ ?_|(refine Xd ?_ ?_<;>intro hcd<;>try exact Xx))
theorem Dx {a b : Int} : ab Tryz.prog 244 [.pv (I a b)] [] [] (.pv (av (fq (a,b)))):=by
 cases hv : ak a b with
 |false=>
  have hr : fq (a,b)=(0,0):=by simp [fq,hv]
  rw [hr]
  refine Dp Tryz.func244 ?_
  intro C hP hN
  simp only [Tryz.f244] at hN ⊢
  with_reducible repeat' (first|refine Sp.h ?_|((first|refine Ss.h ?_|refine Sc.h (gH _ _) ?_|(refine Sb.h ?_ ?_ ?_<;>(try intro hgd)<;>try exact Xy))<;>simp -implicitDefEqProofs (maxSteps:=2000000) [hP,hN,hv])|refine X2 ?_ ?_|(refine Xd ?_ ?_<;>intro hcd<;>try exact Xx))
 |true=>
  have hr : fq (a,b)=(-b,-a):=by simp only [fq,hv,if_true]
  rw [hr]
  have hv':=hv
  rw [dk] at hv'
  have w1 : IntKind.i64.wrap (-b)=-b:=aa
  have w2 : IntKind.i64.wrap (-a)=-a:=aa
  have w3 : IntKind.i64.wrap (0 - b)=-b:=(aa (n:=0 - b) (by omega) (by omega)).trans (by omega)
  have w4 : IntKind.i64.wrap (0 - a)=-a:=(aa (n:=0 - a) (by omega) (by omega)).trans (by omega)
  refine Dp Tryz.func244 ?_
  intro C hP hN
  simp only [Tryz.f244] at hN ⊢
  with_reducible repeat' (first|refine Sp.h ?_|((first|refine Ss.h ?_|refine Sc.h (gH _ _) ?_|(refine Sb.h ?_ ?_ ?_<;>(try intro hgd)<;>try exact Xy))<;>simp -implicitDefEqProofs (maxSteps:=2000000) [hP,hN,hv,w1,w2,w3,w4])|refine X2 ?_ ?_|(refine Xd ?_ ?_<;>intro hcd<;>try exact Xx))
theorem Jm (a b : Int) (ha : -4611686018427387904≤b) (hb : b≤4611686018427387904) : ab Tryz.prog 232 [.pv (Z a),.pv (Z b)] [] [] (.pv (I (dY (a / 65536)) (dY (dj b 65536)))):=by
 refine Dp Tryz.func232 ?_
 intro C hP hN
 simp only [Tryz.f232] at hN ⊢
 with_reducible repeat' (first|refine Sp.h ?_|((first|refine Ss.h ?_|refine Sc.h (Gn _) ?_|refine Sc.h (Gm _ ha hb) ?_|refine Sc.h (Ez _ _) ?_|(refine Sb.h ?_ ?_ ?_<;>(try intro hgd)<;>try exact Xy))<;>simp -implicitDefEqProofs (maxSteps:=2000000) [hP,hN])|refine X2 ?_ ?_|(refine Xd ?_ ?_<;>intro hcd<;>try exact Xx))
@[simp] theorem My : IntKind.i64.wrap 1=1:=by decide
@[simp] theorem Mz : IntKind.i64.wrap 2=2:=by decide
@[simp] theorem MA : IntKind.i64.wrap 3=3:=by decide
@[simp] theorem MB : IntKind.i64.wrap 4=4:=by decide
theorem Jn {i : Nat} (h : i≤4) : i=0∨i=1∨i=2∨i=3∨i=4:=by omega
theorem dp {a b c d : Int} : ab Tryz.prog 225 [.pv (I a b),.pv (I c d)] [] [] (.pv (av (al (a,b) (c,d)))):=by
 cases hv : (ak a b && ak c d) with
 |false=>
  have hr : al (a,b) (c,d)=(0,0):=by simp [al,hv]
  rw [hr]
  refine Dp Tryz.func225 ?_
  intro C hP hN
  simp only [Tryz.f225] at hN ⊢
  with_reducible repeat' (first|refine Sp.h ?_|((first|refine Wd ?_|refine Ss.h ?_|refine Sc.h (uK _ _ _ _) ?_|(refine Sb.h ?_ ?_ ?_<;>(try intro hgd)<;>try exact Xy))<;>simp -implicitDefEqProofs (maxSteps:=2000000) [hP,hN,hv]<;>try refine Ya ?_)|refine X2 ?_ ?_|(refine Xd ?_ ?_<;>intro hcd<;>try exact Xx))
 |true=>
  have hv':=hv
  rw [Bool.and_eq_true,dk,dk] at hv'
  have m1:=bA (a:=a) (b:=c) 2147483648 2147483648 (by omega) (by omega) (by omega) (by omega)
  have m2:=bA (a:=a) (b:=d) 2147483648 2147483648 (by omega) (by omega) (by omega) (by omega)
  have m3:=bA (a:=b) (b:=c) 2147483648 2147483648 (by omega) (by omega) (by omega) (by omega)
  have m4:=bA (a:=b) (b:=d) 2147483648 2147483648 (by omega) (by omega) (by omega) (by omega)
  have w1 : IntKind.i64.wrap (a * c)=a * c:=aa
  have w2 : IntKind.i64.wrap (a * d)=a * d:=aa
  have w3 : IntKind.i64.wrap (b * c)=b * c:=aa
  have w4 : IntKind.i64.wrap (b * d)=b * d:=aa
  have hr : al (a,b) (c,d)=(dY (min (a * c) (min (a * d) (min (b * c) (b * d))) / 65536),dY (dj (max (a * c) (max (a * d) (max (b * c) (b * d)))) 65536)):=by simp only [al,hv,if_true]
  rw [hr]
  generalize hp0 : a * c=p0 at *
  generalize hp1 : a * d=p1 at *
  generalize hp2 : b * c=p2 at *
  generalize hp3 : b * d=p3 at *
  have cs:=Jm (min p0 (min p1 (min p2 p3))) (max p0 (max p1 (max p2 p3))) (by omega) (by omega)
  refine Dp Tryz.func225 ?_
  intro C hP hN
  simp only [Tryz.f225] at hN ⊢
  with_reducible repeat' (first|refine Sp.h ?_|((first|refine Wd ?_|refine Ss.h ?_|refine Sc.h (uK _ _ _ _) ?_|(refine Sb.h ?_ ?_ ?_<;>(try intro hgd)<;>try exact Xy))<;>simp -implicitDefEqProofs (maxSteps:=2000000) [hP,hN,hv,w1,w2,w3,w4,hp0,hp1,hp2,hp3]<;>try refine Ya ?_)|refine X2 ?_ ?_|(refine Xd ?_ ?_<;>intro hcd<;>try exact Xx))
  refine WP.loopN [] 4 (fun i st=>st.t 4=.ptr 4 0∧st.h 4=some (.box [.pv (Z 0),.pv (Z 0)] true false)∧st.t 40=.pv (.val (.agg #[.int .i64 p0,.int .i64 p1,.int .i64 p2,.int .i64 p3]))∧st.t 41=.pv (Z i)∧
   st.t 6=.pv (Z (if i≤1 then p0 else if i=2 then min p0 p1 else if i=3 then min p0 (min p1 p2) else min p0 (min p1 (min p2 p3))))∧st.t 7=.pv (Z (if i≤1 then p0 else if i=2 then max p0 p1 else if i=3 then max p0 (max p1 p2) else max p0 (max p1 (max p2 p3))))) (by simp) ?_
  rintro i st hi ⟨g4,hb4,g40,g41,g6,g7⟩
  rcases Jn hi with rfl|rfl|rfl|rfl|rfl
  all_goals (simp at g6 g7)
  ·skip
   exact Gy
  ·skip
   exact Gy
  ·skip
   exact Gy
  ·skip
   exact Gy
  ·skip
   exact Gy
end Go.Ab
namespace Go.Ab
open Go.Proofs
def dC (x : Int) : Nat→Int
 |0=>1073741824
 |1=>x * 6746518852 / 65536
 |k+2=>dC x (k+1) * (x * 6746518852 / 65536) / 1073741824
def dD (x : Int) : Nat→Int
 |0=>1073741824
 |1=>dj (x * 6746518853) 65536
 |k+2=>dj (dD x (k+1) * dj (x * 6746518853) 65536) 1073741824
theorem lc {x : Int} (h0 : 0≤x) (h1 : x≤8192) : ∀ k,0≤dC x k∧dC x k≤1073741824
 |0=>by simp [dC]
 |1=>by simp only [dC];omega
 |k+2=>by
  have h:=lc h0 h1 (k+1)
  have h2 : 0≤x * 6746518852 / 65536∧x * 6746518852 / 65536≤1073741824:=by omega
  simp only [dC]
  generalize x * 6746518852 / 65536=y at *
  have h3:=Int.mul_nonneg h.1 h2.1
  have h4:=Int.mul_le_mul h.2 h2.2 h2.1 (by decide : (0 : Int)≤1073741824)
  omega
theorem ld {x : Int} (h0 : 0≤x) (h1 : x≤8192) : ∀ k,0≤dD x k∧dD x k≤1073741824
 |0=>by simp [dD]
 |1=>by simp only [dD,dj];omega
 |k+2=>by
  have h:=ld h0 h1 (k+1)
  have h2 : 0≤dj (x * 6746518853) 65536∧dj (x * 6746518853) 65536≤1073741824:=by unfold dj;omega
  simp only [dD]
  generalize dj (x * 6746518853) 65536=y at *
  have h3:=Int.mul_nonneg h.1 h2.1
  have h4:=Int.mul_le_mul h.2 h2.2 h2.1 (by decide : (0 : Int)≤1073741824)
  unfold dj
  omega
theorem oM {x : Int} (h0 : 0≤x) (h1 : x≤8192) (j : Nat) : 0≤dC x j * dC x 1∧dC x j * dC x 1≤1152921504606846976:=by
 have h:=lc h0 h1 j
 have h2:=lc h0 h1 1
 have h3:=Int.mul_nonneg h.1 h2.1
 have h4:=Int.mul_le_mul h.2 h2.2 h2.1 (by decide : (0 : Int)≤1073741824)
 omega
theorem lg {x : Int} (h0 : 0≤x) (h1 : x≤8192) (j : Nat) : 0≤dD x j * dD x 1∧dD x j * dD x 1≤1152921504606846976:=by
 have h:=ld h0 h1 j
 have h2:=ld h0 h1 1
 have h3:=Int.mul_nonneg h.1 h2.1
 have h4:=Int.mul_le_mul h.2 h2.2 h2.1 (by decide : (0 : Int)≤1073741824)
 omega
def ge (f : Nat→Int) (n : Nat) : List AV:=[.pv (Z (if 0 < n then f 0 else 0)),.pv (Z (if 1 < n then f 1 else 0)),.pv (Z (if 2 < n then f 2 else 0)),.pv (Z (if 3 < n then f 3 else 0)),.pv (Z (if 4 < n then f 4 else 0)),.pv (Z (if 5 < n then f 5 else 0)),
 .pv (Z (if 6 < n then f 6 else 0)),.pv (Z (if 7 < n then f 7 else 0)),.pv (Z (if 8 < n then f 8 else 0)),.pv (Z (if 9 < n then f 9 else 0)),.pv (Z (if 10 < n then f 10 else 0))]
abbrev wE (f : Nat→Int) : PV:=.val (.agg #[.int .i64 (f 0),.int .i64 (f 1),.int .i64 (f 2),.int .i64 (f 3),.int .i64 (f 4),.int .i64 (f 5),.int .i64 (f 6),.int .i64 (f 7),.int .i64 (f 8),.int .i64 (f 9),.int .i64 (f 10)])
@[simp] theorem MF : IntKind.i64.wrap 5=5:=by decide
@[simp] theorem MG : IntKind.i64.wrap 6=6:=by decide
@[simp] theorem MH : IntKind.i64.wrap 7=7:=by decide
@[simp] theorem MI : IntKind.i64.wrap 8=8:=by decide
@[simp] theorem MJ : IntKind.i64.wrap 9=9:=by decide
@[simp] theorem LJ : IntKind.i64.wrap 10=10:=by decide
@[simp] theorem LK : IntKind.i64.wrap 11=11:=by decide
set_option maxRecDepth 4000 in
theorem Gu (x : Int) (h0 : 0≤x) (h1 : x≤8192) : ab Tryz.prog 256 [.pv (Z x)] [] [] (.pv (.tup [wE (dC x),wE (dD x)])):=by
 have w1 : IntKind.i64.wrap (x * 6746518852)=x * 6746518852:=aa
 have w2 : IntKind.i64.wrap (x * 6746518853)=x * 6746518853:=aa
 have c1 : ab Tryz.prog 140 [.pv (Z (x * 6746518852)),.pv (Z 16)] [] [] (.pv (Z (dC x 1))):=Gn _
 have c2 : ab Tryz.prog 239 [.pv (Z (x * 6746518853)),.pv (Z 16)] [] [] (.pv (Z (dD x 1))):=Gm _ (by omega) (by omega)
 have m1 : ∀ j,IntKind.i64.wrap (dC x j * dC x 1)=dC x j * dC x 1:=fun j=>aa (by have:=oM h0 h1 j;omega) (by have:=oM h0 h1 j;omega)
 have m2 : ∀ j,IntKind.i64.wrap (dD x j * dD x 1)=dD x j * dD x 1:=fun j=>aa (by have:=lg h0 h1 j;omega) (by have:=lg h0 h1 j;omega)
 have c3 : ∀ j,ab Tryz.prog 140 [.pv (Z (dC x (j+1) * dC x 1)),.pv (Z 30)] [] [] (.pv (Z (dC x (j+2)))):=fun j=>Jl _
 have c4 : ∀ j,ab Tryz.prog 239 [.pv (Z (dD x (j+1) * dD x 1)),.pv (Z 30)] [] [] (.pv (Z (dD x (j+2)))):=fun j=>Jk _ (by have:=lg h0 h1 (j+1);omega) (by have:=lg h0 h1 (j+1);omega)
 have z1 : dC x 0=1073741824:=rfl
 have z2 : dD x 0=1073741824:=rfl
 generalize dC x=f at *
 generalize dD x=g at *
 refine Dp Tryz.func256 ?_
 intro C hP hN
 simp only [Tryz.f256] at hN ⊢
 refine Gz ?_
 refine WP.loopN [] 9 (fun i st=>st.t 2=.ptr 2 0∧st.t 3=.ptr 3 0∧st.t 4=.ptr 4 0∧st.t 5=.ptr 5 0∧st.t 6=.pv (Z (i+2 : Nat))∧st.h 2=some (.box (ge f 0) true false)∧st.h 3=some (.box (ge f 0) true false)∧st.h 4=some (.box (ge f (i+2)) true false)∧st.h 5=some (.box (ge g (i+2)) true false)) (by simp [ge,z1,z2]) ?_
 rintro i st hi ⟨g2,g3,g4,g5,g6,hb2,hb3,hb4,hb5⟩
 have hc : i=0∨i=1∨i=2∨i=3∨i=4∨i=5∨i=6∨i=7∨i=8∨i=9:=by omega
 rcases hc with rfl|rfl|rfl|rfl|rfl|rfl|rfl|rfl|rfl|rfl
 all_goals (simp only [ge] at hb2 hb3 hb4 hb5;simp at g6 hb2 hb3 hb4 hb5)
 all_goals skip
 ·skip
  with_reducible repeat' (first|refine Sp.h ?_|((first|refine Wd ?_|refine Ss.h ?_|refine Sc.h (c3 0) ?_|refine Sc.h (c4 0) ?_|(refine Sb.h ?_ ?_ ?_<;>(try intro hgd)<;>try exact Xy))<;>simp -implicitDefEqProofs (maxSteps:=2000000) [hP,hN,g2,g3,g4,g5,g6,hb2,hb3,hb4,hb5,m1,m2,ge]<;>try refine Ya ?_)|refine X2 ?_ ?_|(refine Xd ?_ ?_<;>intro hcd<;>try exact Xx))
 ·skip
  with_reducible repeat' (first|refine Sp.h ?_|((first|refine Wd ?_|refine Ss.h ?_|refine Sc.h (c3 1) ?_|refine Sc.h (c4 1) ?_|(refine Sb.h ?_ ?_ ?_<;>(try intro hgd)<;>try exact Xy))<;>simp -implicitDefEqProofs (maxSteps:=2000000) [hP,hN,g2,g3,g4,g5,g6,hb2,hb3,hb4,hb5,m1,m2,ge]<;>try refine Ya ?_)|refine X2 ?_ ?_|(refine Xd ?_ ?_<;>intro hcd<;>try exact Xx))
 ·skip
  with_reducible repeat' (first|refine Sp.h ?_|((first|refine Wd ?_|refine Ss.h ?_|refine Sc.h (c3 2) ?_|refine Sc.h (c4 2) ?_|(refine Sb.h ?_ ?_ ?_<;>(try intro hgd)<;>try exact Xy))<;>simp -implicitDefEqProofs (maxSteps:=2000000) [hP,hN,g2,g3,g4,g5,g6,hb2,hb3,hb4,hb5,m1,m2,ge]<;>try refine Ya ?_)|refine X2 ?_ ?_|(refine Xd ?_ ?_<;>intro hcd<;>try exact Xx))
 ·skip
  with_reducible repeat' (first|refine Sp.h ?_|((first|refine Wd ?_|refine Ss.h ?_|refine Sc.h (c3 3) ?_|refine Sc.h (c4 3) ?_|(refine Sb.h ?_ ?_ ?_<;>(try intro hgd)<;>try exact Xy))<;>simp -implicitDefEqProofs (maxSteps:=2000000) [hP,hN,g2,g3,g4,g5,g6,hb2,hb3,hb4,hb5,m1,m2,ge]<;>try refine Ya ?_)|refine X2 ?_ ?_|(refine Xd ?_ ?_<;>intro hcd<;>try exact Xx))
 ·skip
  with_reducible repeat' (first|refine Sp.h ?_|((first|refine Wd ?_|refine Ss.h ?_|refine Sc.h (c3 4) ?_|refine Sc.h (c4 4) ?_|(refine Sb.h ?_ ?_ ?_<;>(try intro hgd)<;>try exact Xy))<;>simp -implicitDefEqProofs (maxSteps:=2000000) [hP,hN,g2,g3,g4,g5,g6,hb2,hb3,hb4,hb5,m1,m2,ge]<;>try refine Ya ?_)|refine X2 ?_ ?_|(refine Xd ?_ ?_<;>intro hcd<;>try exact Xx))
 ·skip
  with_reducible repeat' (first|refine Sp.h ?_|((first|refine Wd ?_|refine Ss.h ?_|refine Sc.h (c3 5) ?_|refine Sc.h (c4 5) ?_|(refine Sb.h ?_ ?_ ?_<;>(try intro hgd)<;>try exact Xy))<;>simp -implicitDefEqProofs (maxSteps:=2000000) [hP,hN,g2,g3,g4,g5,g6,hb2,hb3,hb4,hb5,m1,m2,ge]<;>try refine Ya ?_)|refine X2 ?_ ?_|(refine Xd ?_ ?_<;>intro hcd<;>try exact Xx))
 ·skip
  with_reducible repeat' (first|refine Sp.h ?_|((first|refine Wd ?_|refine Ss.h ?_|refine Sc.h (c3 6) ?_|refine Sc.h (c4 6) ?_|(refine Sb.h ?_ ?_ ?_<;>(try intro hgd)<;>try exact Xy))<;>simp -implicitDefEqProofs (maxSteps:=2000000) [hP,hN,g2,g3,g4,g5,g6,hb2,hb3,hb4,hb5,m1,m2,ge]<;>try refine Ya ?_)|refine X2 ?_ ?_|(refine Xd ?_ ?_<;>intro hcd<;>try exact Xx))
 ·skip
  with_reducible repeat' (first|refine Sp.h ?_|((first|refine Wd ?_|refine Ss.h ?_|refine Sc.h (c3 7) ?_|refine Sc.h (c4 7) ?_|(refine Sb.h ?_ ?_ ?_<;>(try intro hgd)<;>try exact Xy))<;>simp -implicitDefEqProofs (maxSteps:=2000000) [hP,hN,g2,g3,g4,g5,g6,hb2,hb3,hb4,hb5,m1,m2,ge]<;>try refine Ya ?_)|refine X2 ?_ ?_|(refine Xd ?_ ?_<;>intro hcd<;>try exact Xx))
 ·skip
  with_reducible repeat' (first|refine Sp.h ?_|((first|refine Wd ?_|refine Ss.h ?_|refine Sc.h (c3 8) ?_|refine Sc.h (c4 8) ?_|(refine Sb.h ?_ ?_ ?_<;>(try intro hgd)<;>try exact Xy))<;>simp -implicitDefEqProofs (maxSteps:=2000000) [hP,hN,g2,g3,g4,g5,g6,hb2,hb3,hb4,hb5,m1,m2,ge]<;>try refine Ya ?_)|refine X2 ?_ ?_|(refine Xd ?_ ?_<;>intro hcd<;>try exact Xx))
 ·skip
  exact Gy
end Go.Ab
namespace Go.Ab
open Go.Proofs
def jJ (i : Nat) : Int:=if i % 2=0 then 1 else -1
def kD (xs : List Int) : Nat→Int
 |0=>0
 |i+1=>kD xs i+jJ i * (xs[i]?).getD 0
def dK (xs : List Int) : Int:=kD xs xs.length
theorem z8 (i : Nat) (x : Int) : (jJ i * x=x∨jJ i * x=-x):=by unfold jJ;split<;>simp
theorem ya (i : Nat) : jJ (i+1)=-jJ i:=by unfold jJ;split<;>split<;>omega
theorem pM {xs : List Int} (hb : ∀ x ∈ xs,-1099511627776≤x∧x≤1099511627776) : ∀ i : Nat,-((i : Int) * 1099511627776)≤kD xs i∧kD xs i≤(i : Int) * 1099511627776
 |0=>by simp [kD]
 |i+1=>by
  have h:=pM hb i
  have h2 : -1099511627776≤(xs[i]?).getD 0∧(xs[i]?).getD 0≤1099511627776:=by
   cases hx : xs[i]? with
   |none=>simp
   |some y=>exact hb y (List.mem_of_getElem? hx)
  have h3:=z8 i ((xs[i]?).getD 0)
  simp only [kD]
  omega
theorem AY (xs : List Int) (hl : xs.length≤1000) (hb : ∀ x ∈ xs,-1099511627776≤x∧x≤1099511627776) : ab Tryz.prog 257 [.pv (zs xs)] [] [] (.pv (Z (dK xs))):=by
 refine Dp Tryz.func257 ?_
 intro C hP hN
 simp only [Tryz.f257] at hN ⊢
 refine Gz ?_
 refine WP.loopN [] xs.length (fun i st=>st.t 3=.pv (Z (kD xs i))∧st.t 4=.pv (Z (jJ i))∧st.t 7=.pv (zs xs)∧st.t 8=.pv (Z xs.length)∧st.t 9=.pv (Z i)) (by simp [kD,jJ]) ?_
 rintro i st hi ⟨g3,g4,g7,g8,g9⟩
 by_cases hlt : i < xs.length
 ·have hw:=ag hlt (by omega)
  have hxi : xs[i]?=some xs[i]:=List.getElem?_eq_getElem hlt
  have hr:=hb xs[i] (List.getElem_mem hlt)
  have ha:=pM hb i
  have h3:=z8 i xs[i]
  have w1 : IntKind.i64.wrap (jJ i * xs[i])=jJ i * xs[i]:=aa
  have w2 : IntKind.i64.wrap (kD xs i+jJ i * xs[i])=kD xs (i+1):=(aa (by omega) (by omega)).trans (by simp [kD,hxi])
  have w3 : IntKind.i64.wrap (-jJ i)=jJ (i+1):=by
   rw [ya];unfold jJ;split<;>decide
  have w4 : IntKind.i64.wrap (0 - jJ i)=jJ (i+1):=by
   rw [ya];unfold jJ;split<;>decide
  exact Gy
 ·skip
  refine Gz ?_
  all_goals (have : i=xs.length:=by omega
             subst this;rfl)
def aG (n d : Int) : Int:=(n+d - 1) / d
theorem pN (n d : Int) (hn : 0≤n) (hn' : n≤1099511627776) (hd : 1≤d) (hd' : d≤1099511627776) : ab Tryz.prog 258 [.pv (Z n),.pv (Z d)] [] [] (.pv (Z (aG n d))):=by
 have w1 : IntKind.i64.wrap (n+d)=n+d:=aa
 have w2 : IntKind.i64.wrap (n+d - 1)=n+d - 1:=aa
 have hq : (n+d - 1).tdiv d=(n+d - 1) / d:=Int.tdiv_eq_ediv_of_nonneg (by omega)
 have hq1 : 0≤(n+d - 1) / d:=Int.ediv_nonneg (by omega) (by omega)
 have hq2 : (n+d - 1) / d≤n+d - 1:=Int.ediv_le_self _ (by omega)
 have w3 : IntKind.i64.wrap ((n+d - 1) / d)=(n+d - 1) / d:=aa
 have hne : d≠0:=by omega
 refine Dp Tryz.func258 ?_
 intro C hP hN
 simp only [Tryz.f258] at hN ⊢
 refine Gz ?_
 all_goals rfl
def om (lo hi : Int) : Iv:=(max 0 (lo / 16384),min 65536 (dj hi 16384))
theorem Gv (lo hi : Int) (h1 : -4611686018427387904≤hi) (h2 : hi≤4611686018427387904) : ab Tryz.prog 259 [.pv (Z lo),.pv (Z hi)] [] [] (.pv (av (om lo hi))):=by
 refine Dp Tryz.func259 ?_
 intro C hP hN
 simp only [Tryz.f259] at hN ⊢
 with_reducible repeat' (first|refine Sp.h ?_|((first|refine Ss.h ?_|refine Sc.h (Jj _) ?_|refine Sc.h (Ji _ h1 h2) ?_|(refine Sb.h ?_ ?_ ?_<;>(try intro hgd)<;>try exact Xy))<;>simp -implicitDefEqProofs (maxSteps:=2000000) [hP,hN])|refine X2 ?_ ?_|(refine Xd ?_ ?_<;>intro hcd<;>try exact Xx))
 all_goals simp [om]
def kE (f g : Nat→Int) : List Int:=[f 1,aG (g 3) 6,f 5 / 120,aG (g 7) 5040]
def jv (f g : Nat→Int) : List Int:=[g 1,f 3 / 6,aG (g 5) 120,f 7 / 5040,aG (g 9) 362880]
def nd (f g : Nat→Int) : List Int:=[1073741824,aG (g 2) 2,f 4 / 24,aG (g 6) 720,f 8 / 40320,aG (g 10) 3628800]
def lh (f g : Nat→Int) : List Int:=[1073741824,f 2 / 2,aG (g 4) 24,f 6 / 720,aG (g 8) 40320]
def pO (x : Int) : Iv:=om (dK (kE (dC x) (dD x))) (dK (jv (dC x) (dD x)))
def sW (x : Int) : Iv:=om (dK (nd (dC x) (dD x))) (dK (lh (dC x) (dD x)))
theorem dA {n d : Int} (h0 : 0≤n) (h1 : n≤1073741824) (hd : 1≤d) (hd' : d≤4000000) : 0≤aG n d∧aG n d≤1099511627776:=by
 unfold aG
 have hq1 : 0≤(n+d - 1) / d:=Int.ediv_nonneg (by omega) (by omega)
 have hq2 : (n+d - 1) / d≤n+d - 1:=Int.ediv_le_self _ (by omega)
 omega
theorem yb {f : Nat→Int} (hf : ∀ j,0≤f j∧f j≤1073741824) (j : Nat) (d : Int) : (f j).tdiv d=f j / d:=Int.tdiv_eq_ediv_of_nonneg (hf j).1
theorem nf {f : Nat→Int} (hf : ∀ j,0≤f j∧f j≤1073741824) (j : Nat) {d : Int} (hd : 0 < d) : 0≤f j / d∧f j / d≤1073741824:=by
 have h:=hf j
 have hq1 : 0≤f j / d:=Int.ediv_nonneg (by omega) (by omega)
 have hq2 : f j / d≤f j:=Int.ediv_le_self _ (by omega)
 omega
theorem yc {f : Nat→Int} (hf : ∀ j,0≤f j∧f j≤1073741824) (j : Nat) {d : Int} (hd : 0 < d) : IntKind.i64.wrap (f j / d)=f j / d:=by
 have:=nf hf j hd
 exact aa (by omega) (by omega)
theorem JA (x : Int) (h0 : 0≤x) (h1 : x≤8192) : ab Tryz.prog 254 [.pv (Z x)] [] [] (.pv (av (pO x))):=by
 have cp:=Gu x h0 h1
 have hf:=lc h0 h1
 have hg:=ld h0 h1
 show ab _ _ _ _ _ (.pv (av (om (dK (kE (dC x) (dD x))) (dK (jv (dC x) (dD x))))))
 generalize dC x=f at *
 generalize dD x=g at *
 have k1 : ∀ y ∈ kE f g,-1099511627776≤y∧y≤1099511627776:=by
  intro y hy
  have a1:=hf 1
  have a2:=dA (d:=6) (hg 3).1 (hg 3).2 (by decide) (by decide)
  have a3:=nf hf 5 (d:=120) (by decide)
  have a4:=dA (d:=5040) (hg 7).1 (hg 7).2 (by decide) (by decide)
  simp only [kE,List.mem_cons,List.not_mem_nil,or_false] at hy
  rcases hy with rfl|rfl|rfl|rfl<;>omega
 have k2 : ∀ y ∈ jv f g,-1099511627776≤y∧y≤1099511627776:=by
  intro y hy
  have a1:=hg 1
  have a2:=dA (d:=120) (hg 5).1 (hg 5).2 (by decide) (by decide)
  have a3:=nf hf 3 (d:=6) (by decide)
  have a4:=dA (d:=362880) (hg 9).1 (hg 9).2 (by decide) (by decide)
  have a5:=nf hf 7 (d:=5040) (by decide)
  simp only [jv,List.mem_cons,List.not_mem_nil,or_false] at hy
  rcases hy with rfl|rfl|rfl|rfl|rfl<;>omega
 have b2:=pM k2 5
 have b3 : -(((5 : Nat) : Int) * 1099511627776)≤dK (jv f g)∧dK (jv f g)≤((5 : Nat) : Int) * 1099511627776:=b2
 have ca : ab Tryz.prog 257 [.pv (.sl [Z (f 1),Z (aG (g 3) 6),Z (f 5 / 120),Z (aG (g 7) 5040)])] [] [] (.pv (Z (dK (kE f g)))):=AY (kE f g) (by simp [kE]) k1
 have cb : ab Tryz.prog 257 [.pv (.sl [Z (g 1),Z (f 3 / 6),Z (aG (g 5) 120),Z (f 7 / 5040),Z (aG (g 9) 362880)])] [] [] (.pv (Z (dK (jv f g)))):=AY (jv f g) (by simp [jv]) k2
 have c3:=pN (g 3) 6 (hg 3).1 (by have:=hg 3;omega) (by decide) (by decide)
 have c7:=pN (g 7) 5040 (hg 7).1 (by have:=hg 7;omega) (by decide) (by decide)
 have c5:=pN (g 5) 120 (hg 5).1 (by have:=hg 5;omega) (by decide) (by decide)
 have c9:=pN (g 9) 362880 (hg 9).1 (by have:=hg 9;omega) (by decide) (by decide)
 have ce:=Gv (dK (kE f g)) (dK (jv f g)) (by omega) (by omega)
 generalize dK (kE f g)=lo at *
 generalize dK (jv f g)=hi at *
 have t1:=yb hf 5 120
 have t2:=yb hf 3 6
 have t3:=yb hf 7 5040
 have w1:=yc hf 5 (d:=120) (by decide)
 have w2:=yc hf 3 (d:=6) (by decide)
 have w3:=yc hf 7 (d:=5040) (by decide)
 refine Dp Tryz.func254 ?_
 intro C hP hN
 simp only [Tryz.f254] at hN ⊢
 exact Gy
theorem JB (x : Int) (h0 : 0≤x) (h1 : x≤8192) : ab Tryz.prog 255 [.pv (Z x)] [] [] (.pv (av (sW x))):=by
 have cp:=Gu x h0 h1
 have hf:=lc h0 h1
 have hg:=ld h0 h1
 show ab _ _ _ _ _ (.pv (av (om (dK (nd (dC x) (dD x))) (dK (lh (dC x) (dD x))))))
 generalize dC x=f at *
 generalize dD x=g at *
 have k1 : ∀ y ∈ nd f g,-1099511627776≤y∧y≤1099511627776:=by
  intro y hy
  have a2:=dA (d:=2) (hg 2).1 (hg 2).2 (by decide) (by decide)
  have a3:=nf hf 4 (d:=24) (by decide)
  have a4:=dA (d:=720) (hg 6).1 (hg 6).2 (by decide) (by decide)
  have a5:=nf hf 8 (d:=40320) (by decide)
  have a6:=dA (d:=3628800) (hg 10).1 (hg 10).2 (by decide) (by decide)
  simp only [nd,List.mem_cons,List.not_mem_nil,or_false] at hy
  rcases hy with rfl|rfl|rfl|rfl|rfl|rfl<;>omega
 have k2 : ∀ y ∈ lh f g,-1099511627776≤y∧y≤1099511627776:=by
  intro y hy
  have a2:=dA (d:=24) (hg 4).1 (hg 4).2 (by decide) (by decide)
  have a3:=nf hf 2 (d:=2) (by decide)
  have a4:=dA (d:=40320) (hg 8).1 (hg 8).2 (by decide) (by decide)
  have a5:=nf hf 6 (d:=720) (by decide)
  simp only [lh,List.mem_cons,List.not_mem_nil,or_false] at hy
  rcases hy with rfl|rfl|rfl|rfl|rfl<;>omega
 have b2:=pM k2 5
 have b3 : -(((5 : Nat) : Int) * 1099511627776)≤dK (lh f g)∧dK (lh f g)≤((5 : Nat) : Int) * 1099511627776:=b2
 have ca : ab Tryz.prog 257 [.pv (.sl [Z 1073741824,Z (aG (g 2) 2),Z (f 4 / 24),Z (aG (g 6) 720),Z (f 8 / 40320),Z (aG (g 10) 3628800)])] [] [] (.pv (Z (dK (nd f g)))):=AY (nd f g) (by simp [nd]) k1
 have cb : ab Tryz.prog 257 [.pv (.sl [Z 1073741824,Z (f 2 / 2),Z (aG (g 4) 24),Z (f 6 / 720),Z (aG (g 8) 40320)])] [] [] (.pv (Z (dK (lh f g)))):=AY (lh f g) (by simp [lh]) k2
 have c2:=pN (g 2) 2 (hg 2).1 (by have:=hg 2;omega) (by decide) (by decide)
 have c6:=pN (g 6) 720 (hg 6).1 (by have:=hg 6;omega) (by decide) (by decide)
 have c10:=pN (g 10) 3628800 (hg 10).1 (by have:=hg 10;omega) (by decide) (by decide)
 have c4:=pN (g 4) 24 (hg 4).1 (by have:=hg 4;omega) (by decide) (by decide)
 have c8:=pN (g 8) 40320 (hg 8).1 (by have:=hg 8;omega) (by decide) (by decide)
 have ce:=Gv (dK (nd f g)) (dK (lh f g)) (by omega) (by omega)
 generalize dK (nd f g)=lo at *
 generalize dK (lh f g)=hi at *
 have t1:=yb hf 4 24
 have t2:=yb hf 8 40320
 have t3:=yb hf 2 2
 have t4:=yb hf 6 720
 have w1:=yc hf 4 (d:=24) (by decide)
 have w2:=yc hf 8 (d:=40320) (by decide)
 have w3:=yc hf 2 (d:=2) (by decide)
 have w4:=yc hf 6 (d:=720) (by decide)
 refine Dp Tryz.func255 ?_
 intro C hP hN
 simp only [Tryz.f255] at hN ⊢
 exact Gy
def dE (r : Int) : Iv:=if r≤8192 then pO r else sW (16384 - r)
theorem Gw (r : Int) (h0 : 0≤r) (h1 : r≤16384) : ab Tryz.prog 253 [.pv (Z r)] [] [] (.pv (av (dE r))):=by
 have w1 : IntKind.i64.wrap (16384 - r)=16384 - r:=aa
 by_cases h : r≤8192
 ·have hf : dE r=pO r:=by simp [dE,h]
  have cs:=JA r h0 h
  rw [hf]
  generalize pO r=y at *
  refine Dp Tryz.func253 ?_
  intro C hP hN
  simp only [Tryz.f253] at hN ⊢
  exact Gy
 ·have hf : dE r=sW (16384 - r):=by simp [dE,h]
  have cs:=JB (16384 - r) (by omega) (by omega)
  rw [hf]
  generalize sW (16384 - r)=y at *
  refine Dp Tryz.func253 ?_
  intro C hP hN
  simp only [Tryz.f253] at hN ⊢
  exact Gy
theorem HI (a : Int) : qw .and .i64 a 65535=a % 65536:=by
 unfold qw
 have h1 : (BitVec.ofInt 64 a &&& BitVec.ofInt 64 65535).toNat=(a % 65536).toNat:=by
  rw [BitVec.toNat_and,BitVec.toNat_ofInt,BitVec.toNat_ofInt]
  have e1 : ((65535 : Int) % ((2 ^ 64 : Nat) : Int)).toNat=2 ^ 16 - 1:=by decide
  rw [e1,Nat.and_two_pow_sub_one_eq_mod]
  have h0 : 0≤a % ((2 ^ 64 : Nat) : Int):=Int.emod_nonneg _ (by decide)
  have h2 : (a % ((2 ^ 64 : Nat) : Int)) % 65536=a % 65536:=Int.emod_emod_of_dvd a (by decide)
  omega
 show IntKind.i64.wrap ((BitVec.ofInt 64 a &&& BitVec.ofInt 64 65535).toNat : Int)=_
 rw [h1,IntKind.wrap_i64]
 have:=Int.emod_nonneg a (b:=65536) (by decide)
 have:=Int.emod_lt_of_pos a (b:=65536) (by decide)
 omega
theorem DH (a : Int) : ab Tryz.prog 252 [.pv (Z a)] [] [] (.pv (Z (a % 65536))):=by
 refine Dp Tryz.func252 ?_
 intro C hP hN
 simp only [Tryz.f252] at hN ⊢
 with_reducible repeat' (first|refine Sp.h ?_|((first|refine Ss.h ?_|(refine Sb.h ?_ ?_ ?_<;>(try intro hgd)<;>try exact Xy))<;>simp -implicitDefEqProofs (maxSteps:=2000000) [hP,hN,HI])|refine X2 ?_ ?_|(refine Xd ?_ ?_<;>intro hcd<;>try exact Xx))
def mb (m : Int) : Iv:=if m / 16384=0 then dE (m % 16384) else if m / 16384=1 then dE (16384 - m % 16384) else if m / 16384=2 then fq (dE (m % 16384)) else fq (dE (16384 - m % 16384))
def li (a : Int) : Iv:=mb (a % 65536)
theorem Gx (a : Int) : ab Tryz.prog 249 [.pv (Z a)] [] [] (.pv (av (li a))):=by
 have cm:=DH a
 show ab _ _ _ _ _ (.pv (av (mb (a % 65536))))
 have r1:=Int.emod_nonneg a (b:=65536) (by decide)
 have r2:=Int.emod_lt_of_pos a (b:=65536) (by decide)
 generalize a % 65536=m at *
 have t1 : m.tmod 16384=m % 16384:=Int.tmod_eq_emod_of_nonneg r1
 have t2 : m.tdiv 16384=m / 16384:=Int.tdiv_eq_ediv_of_nonneg r1
 have w1 : IntKind.i64.wrap (m / 16384)=m / 16384:=aa
 have w2 : IntKind.i64.wrap (m % 16384)=m % 16384:=aa
 have w3 : IntKind.i64.wrap (16384 - m % 16384)=16384 - m % 16384:=aa
 have cf:=Gw (m % 16384) (by omega) (by omega)
 have cg:=Gw (16384 - m % 16384) (by omega) (by omega)
 have key : m / 16384=0∨m / 16384=1∨m / 16384=2∨m / 16384=3:=by omega
 rcases key with hk|hk|hk|hk
 ·have hf : mb m=dE (m % 16384):=by simp [mb,hk]
  rw [hf]
  generalize dE (m % 16384)=y at *
  refine Dp Tryz.func249 ?_
  intro C hP hN
  simp only [Tryz.f249] at hN ⊢
  exact Gy
 ·have hf : mb m=dE (16384 - m % 16384):=by simp [mb,hk]
  rw [hf]
  generalize dE (16384 - m % 16384)=y at *
  refine Dp Tryz.func249 ?_
  intro C hP hN
  simp only [Tryz.f249] at hN ⊢
  exact Gy
 ·have hf : mb m=fq (dE (m % 16384)):=by simp [mb,hk]
  rw [hf]
  generalize dE (m % 16384)=y at *
  refine Dp Tryz.func249 ?_
  intro C hP hN
  simp only [Tryz.f249] at hN ⊢
  with_reducible repeat' (first|refine Sp.h ?_|((first|refine Ss.h ?_|refine Sc.h (cm) ?_|refine Sc.h (cf) ?_|refine Sc.h (Dx) ?_|(refine Sb.h ?_ ?_ ?_<;>(try intro hgd)<;>try exact Xy))<;>simp -implicitDefEqProofs (maxSteps:=2000000) [hP,hN,t1,t2,w1,w2,w3,hk])|refine X2 ?_ ?_|(refine Xd ?_ ?_<;>intro hcd<;>try exact Xx))
 ·have hf : mb m=fq (dE (16384 - m % 16384)):=by simp [mb,hk]
  rw [hf]
  generalize dE (16384 - m % 16384)=y at *
  refine Dp Tryz.func249 ?_
  intro C hP hN
  simp only [Tryz.f249] at hN ⊢
  with_reducible repeat' (first|refine Sp.h ?_|((first|refine Ss.h ?_|refine Sc.h (cm) ?_|refine Sc.h (cg) ?_|refine Sc.h (Dx) ?_|(refine Sb.h ?_ ?_ ?_<;>(try intro hgd)<;>try exact Xy))<;>simp -implicitDefEqProofs (maxSteps:=2000000) [hP,hN,t1,t2,w1,w2,w3,hk])|refine X2 ?_ ?_|(refine Xd ?_ ?_<;>intro hcd<;>try exact Xx))
def pP (a : Int) : Iv:=li (a % 65536+16384)
theorem JC (a : Int) : ab Tryz.prog 248 [.pv (Z a)] [] [] (.pv (av (pP a))):=by
 have cm:=DH a
 show ab _ _ _ _ _ (.pv (av (li (a % 65536+16384))))
 have r1:=Int.emod_nonneg a (b:=65536) (by decide)
 have r2:=Int.emod_lt_of_pos a (b:=65536) (by decide)
 generalize a % 65536=m at *
 have w1 : IntKind.i64.wrap (m+16384)=m+16384:=aa
 have cs:=Gx (m+16384)
 generalize li (m+16384)=y at *
 refine Dp Tryz.func248 ?_
 intro C hP hN
 simp only [Tryz.f248] at hN ⊢
 exact Gy
def jK (a : Iv) (t : Int) : Bool:=ak a.1 a.2 && decide (a.1≤a.1+(t - a.1) % 65536) && decide (a.1+(t - a.1) % 65536≤a.2)
theorem GA {a b : Int} (t : Int) (h1 : -2147483648≤a) (h2 : a≤2147483648) (h3 : -2147483648≤t) (h4 : t≤2147483648) : ab Tryz.prog 251 [.pv (I a b),.pv (Z t)] [] [] (.pv (B (jK (a,b) t))):=by
 have w1 : IntKind.i64.wrap (t - a)=t - a:=aa
 have r1:=Int.emod_nonneg (t - a) (b:=65536) (by decide)
 have r2:=Int.emod_lt_of_pos (t - a) (b:=65536) (by decide)
 have w2 : IntKind.i64.wrap (a+(t - a) % 65536)=a+(t - a) % 65536:=aa
 have cm:=DH (t - a)
 refine Dp Tryz.func251 ?_
 intro C hP hN
 simp only [Tryz.f251] at hN ⊢
 with_reducible repeat' (first|refine Sp.h ?_|((first|refine Wd ?_|refine Ss.h ?_|refine Sc.h (cm) ?_|refine Sc.h (H4 _ _ _) ?_|(refine Sb.h ?_ ?_ ?_<;>(try intro hgd)<;>try exact Xy))<;>simp -implicitDefEqProofs (maxSteps:=2000000) [hP,hN,w1,w2]<;>try refine Ya ?_)|refine X2 ?_ ?_|(refine Xd ?_ ?_<;>intro hcd<;>try exact Xx))
 all_goals (try simp [jK])
def ga (a : Iv) (v : Int→Iv) (t b : Int) : Iv:=if ak a.1 a.2=false then (0,0) else if 65536≤a.2 - a.1 then (-65536,65536) else
 let h:=eG (v a.1) (v a.2)
 let h1:=if jK a t then eG h (lN 65536) else h
 if jK a b then eG h1 (lN (-65536)) else h1
theorem GB {a b : Int} (f : FuncId) (v : Int→Iv) (t u : Int) (hf : ∀ x,ab Tryz.prog f [.pv (Z x)] [] [] (.pv (av (v x)))) (ht : -2147483648≤t) (ht' : t≤2147483648) (hu : -2147483648≤u) (hu' : u≤2147483648) : ab Tryz.prog 247 [.pv (I a b),.pv (Fv f),.pv (Z t),.pv (Z u)] [] [] (.pv (av (ga (a,b) v t u))):=by
 cases hv : ak a b with
 |false=>
  have hr : ga (a,b) v t u=(0,0):=by simp [ga,hv]
  rw [hr]
  refine Dp Tryz.func247 ?_
  intro C hP hN
  simp only [Tryz.f247] at hN ⊢
  with_reducible repeat' (first|refine Sp.h ?_|((first|refine Wd ?_|refine Ss.h ?_|refine Sc.h (gH _ _) ?_|(refine Sb.h ?_ ?_ ?_<;>(try intro hgd)<;>try exact Xy))<;>simp -implicitDefEqProofs (maxSteps:=2000000) [hP,hN,hv]<;>try refine Ya ?_)|refine X2 ?_ ?_|(refine Xd ?_ ?_<;>intro hcd<;>try exact Xx))
 |true=>
  have hv':=dk.1 hv
  have w1 : IntKind.i64.wrap (b - a)=b - a:=aa
  have cm:=GA (a:=a) (b:=b) t (by omega) (by omega) ht ht'
  have cn:=GA (a:=a) (b:=b) u (by omega) (by omega) hu hu'
  have o1 : ab Tryz.prog 213 [.pv (Z 65536)] [] [] (.pv (I 65536 65536)):=uU 65536
  have o2 : ab Tryz.prog 213 [.pv (Z (-65536))] [] [] (.pv (I (-65536) (-65536))):=uU (-65536)
  by_cases hw : 65536≤b - a
  ·have hr : ga (a,b) v t u=(-65536,65536):=by simp [ga,hv,hw]
   rw [hr]
   refine Dp Tryz.func247 ?_
   intro C hP hN
   simp only [Tryz.f247] at hN ⊢
   with_reducible repeat' (first|refine Sp.h ?_|((first|refine Wd ?_|refine Ss.h ?_|refine Sc.h (gH _ _) ?_|refine Sc.h (sK _ _) ?_|(refine Sb.h ?_ ?_ ?_<;>(try intro hgd)<;>try exact Xy))<;>simp -implicitDefEqProofs (maxSteps:=2000000) [hP,hN,hv,w1,hw]<;>try refine Ya ?_)|refine X2 ?_ ?_|(refine Xd ?_ ?_<;>intro hcd<;>try exact Xx))
  ·have hr : ga (a,b) v t u=(let h:=eG (v a) (v b);let h1:=if jK (a,b) t then eG h (65536,65536) else h;if jK (a,b) u then eG h1 (-65536,-65536) else h1):=by
    have e1 : lN 65536=(65536,65536):=by decide
    have e2 : lN (-65536)=(-65536,-65536):=by decide
    simp [ga,hv,hw,e1,e2]
   rw [hr]
   cases hm1 : jK (a,b) t<;>cases hm2 : jK (a,b) u<;>rw [hm1] at cm<;>rw [hm2] at cn
   ·skip
    refine Dp Tryz.func247 ?_
    intro C hP hN
    simp only [Tryz.f247] at hN ⊢
    with_reducible repeat' (first|refine Sp.h ?_|((first|refine Wd ?_|refine Ss.h ?_|refine Sc.h (gH _ _) ?_|refine Sc.h (sK _ _) ?_|refine Sc.h (hf _) ?_|refine Sc.h (AD _ _ _ _) ?_|refine Sc.h (cm) ?_|refine Sc.h (cn) ?_|(refine Sb.h ?_ ?_ ?_<;>(try intro hgd)<;>try exact Xy))<;>simp -implicitDefEqProofs (maxSteps:=2000000) [hP,hN,hv,w1,hw]<;>try refine Ya ?_)|refine X2 ?_ ?_|(refine Xd ?_ ?_<;>intro hcd<;>try exact Xx))
    all_goals (try simp)
   ·skip
    refine Dp Tryz.func247 ?_
    intro C hP hN
    simp only [Tryz.f247] at hN ⊢
    with_reducible repeat' (first|refine Sp.h ?_|((first|refine Wd ?_|refine Ss.h ?_|refine Sc.h (gH _ _) ?_|refine Sc.h (sK _ _) ?_|refine Sc.h (hf _) ?_|refine Sc.h (AD _ _ _ _) ?_|refine Sc.h (cm) ?_|refine Sc.h (cn) ?_|refine Sc.h (o2) ?_|(refine Sb.h ?_ ?_ ?_<;>(try intro hgd)<;>try exact Xy))<;>simp -implicitDefEqProofs (maxSteps:=2000000) [hP,hN,hv,w1,hw]<;>try refine Ya ?_)|refine X2 ?_ ?_|(refine Xd ?_ ?_<;>intro hcd<;>try exact Xx))
    all_goals (try simp)
   ·skip
    refine Dp Tryz.func247 ?_
    intro C hP hN
    simp only [Tryz.f247] at hN ⊢
    with_reducible repeat' (first|refine Sp.h ?_|((first|refine Wd ?_|refine Ss.h ?_|refine Sc.h (gH _ _) ?_|refine Sc.h (sK _ _) ?_|refine Sc.h (hf _) ?_|refine Sc.h (AD _ _ _ _) ?_|refine Sc.h (cm) ?_|refine Sc.h (cn) ?_|refine Sc.h (o1) ?_|(refine Sb.h ?_ ?_ ?_<;>(try intro hgd)<;>try exact Xy))<;>simp -implicitDefEqProofs (maxSteps:=2000000) [hP,hN,hv,w1,hw]<;>try refine Ya ?_)|refine X2 ?_ ?_|(refine Xd ?_ ?_<;>intro hcd<;>try exact Xx))
    all_goals (try simp)
   ·skip
    refine Dp Tryz.func247 ?_
    intro C hP hN
    simp only [Tryz.f247] at hN ⊢
    with_reducible repeat' (first|refine Sp.h ?_|((first|refine Wd ?_|refine Ss.h ?_|refine Sc.h (gH _ _) ?_|refine Sc.h (sK _ _) ?_|refine Sc.h (hf _) ?_|refine Sc.h (AD _ _ _ _) ?_|refine Sc.h (cm) ?_|refine Sc.h (cn) ?_|refine Sc.h (o1) ?_|refine Sc.h (o2) ?_|(refine Sb.h ?_ ?_ ?_<;>(try intro hgd)<;>try exact Xy))<;>simp -implicitDefEqProofs (maxSteps:=2000000) [hP,hN,hv,w1,hw]<;>try refine Ya ?_)|refine X2 ?_ ?_|(refine Xd ?_ ?_<;>intro hcd<;>try exact Xx))
    all_goals (try simp)
def ng (a : Iv) : Iv:=ga a li 16384 49152
def nh (a : Iv) : Iv:=ga a pP 0 32768
theorem JD {a b : Int} : ab Tryz.prog 243 [.pv (I a b)] [] [] (.pv (av (ng (a,b)))):=by
 have co:=GB (a:=a) (b:=b) 249 li 16384 49152 Gx (by decide) (by decide) (by decide) (by decide)
 refine Dp Tryz.func243 ?_
 intro C hP hN
 simp only [Tryz.f243] at hN ⊢
 refine Gz ?_
 all_goals exact ⟨rfl,rfl⟩
theorem JE {a b : Int} : ab Tryz.prog 242 [.pv (I a b)] [] [] (.pv (av (nh (a,b)))):=by
 have co:=GB (a:=a) (b:=b) 248 pP 0 32768 JC (by decide) (by decide) (by decide) (by decide)
 refine Dp Tryz.func242 ?_
 intro C hP hN
 simp only [Tryz.f242] at hN ⊢
 refine Gz ?_
 all_goals exact ⟨rfl,rfl⟩
end Go.Ab
