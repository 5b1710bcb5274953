/- The contracts and facts that the laws of this seat need, in one text (Rd, AbG, AbQ, TrA, KV, K1, K2, K2b). -/
import Derived.Test.YtelhehdhaakiiaaGreatW4
import Derived.Test.YtelhehdhaakiiaaGreatRows
set_option linter.all false
set_option maxHeartbeats 16000000
namespace Go.Ab
open Go.Proofs Go.Proofs.YtelhehdhaakiiaaGreat
theorem own : ownKnob Tryz.prog.godebug=none:=by kernel_rfl
theorem kids : Kids Tryz.prog (·< Tryz.prog.types.size):=kids_rows (by kernel_rfl) (by kernel_rfl)
theorem full : ∀ t e,t < Tryz.prog.types.size→Tryz.prog.underlying t=some (.slice e)→0 < Tryz.prog.cellsOf e:=slices_full_of Tryz.prog (by kernel_rfl)
mutual
theorem EH {H : Type} : ∀ d : DataW H,dx d≤Rows.uptoBulk d
 |.lit (.string _)=>by simp [dx,Rows.uptoBulk]
 |.lit (.bool _)=>by simp [dx,Rows.uptoBulk]
 |.lit (.int _ _)=>by simp [dx,Rows.uptoBulk]
 |.lit (.float _ _)=>by simp [dx,Rows.uptoBulk]
 |.lit .nil=>by simp [dx,Rows.uptoBulk]
 |.nil=>by simp [dx,Rows.uptoBulk]
 |.ptr _=>by simp [dx,Rows.uptoBulk]
 |.slice es sp=>by have:=md es;have:=md sp;simp only [dx,Rows.uptoBulk];omega
 |.agg ds=>by have:=md ds;simp only [dx,Rows.uptoBulk];omega
 |.iface _ _=>by simp [dx,Rows.uptoBulk]
 |.map _=>by simp [dx,Rows.uptoBulk]
 |.held _=>by simp [dx,Rows.uptoBulk]
theorem md {H : Type} : ∀ ds : List (DataW H),fQ ds≤Rows.uptoBulkAll ds
 |[]=>by simp [fQ,Rows.uptoBulkAll]
 |d :: ds=>by have:=EH d;have:=md ds;simp only [fQ,Rows.uptoBulkAll];omega
end
theorem uB {H : Type} (l r : List (DataW H)) : Rows.uptoBulkAll (l++r)=Rows.uptoBulkAll l+Rows.uptoBulkAll r:=by
 induction l with
 |nil=>simp [Rows.uptoBulkAll]
 |cons x l ih=>simp only [List.cons_append,Rows.uptoBulkAll,ih];omega
theorem Ar {H : Type} {ds gs : List (DataW H)} (hk : Rows.uptoSmall H (ds++gs)=true) : fQ ds≤1048576:=by
 have h : Rows.uptoBulkAll (ds++gs)≤1048576:=of_decide_eq_true hk
 rw [uB] at h
 have:=md ds
 omega
section
variable {H : Type}
theorem F8 : eL H Tryz.prog 3 (fun i=>.val (.int .i64 i)) (fun i=>IntKind.i64.min≤i∧i≤IntKind.i64.max) (fun _=>1):=uU Tryz.underlying3
theorem qZ : eL H Tryz.prog 34 (fun l : List Int=>.sl (l.map fun i=>.val (.int .i64 i))) (fun l=>l.length≤9223372036854775807∧∀ a ∈ l,IntKind.i64.min≤a∧a≤IntKind.i64.max) (fun l=>(l.map fun _=>1).sum+1):=dF Tryz.underlying34 F8
theorem De : eL H Tryz.prog 2 (fun i=>.val (.int .i64 i)) (fun i=>IntKind.i64.min≤i∧i≤IntKind.i64.max) (fun _=>1):=uU Tryz.underlying2
theorem mK : eL H Tryz.prog 35 (fun l : List Int=>.sl (l.map fun i=>.val (.int .i64 i))) (fun l=>l.length≤9223372036854775807∧∀ a ∈ l,IntKind.i64.min≤a∧a≤IntKind.i64.max) (fun l=>(l.map fun _=>1).sum+1):=dF Tryz.underlying35 De
theorem GH : eL H Tryz.prog 66 aJ (fun x=>(IntKind.i64.min≤x.1∧x.1≤IntKind.i64.max)∧IntKind.i64.min≤x.2∧x.2≤IntKind.i64.max) (fun _=>1):=by
 intro d h
 obtain ⟨ds,rfl,h1,h2⟩:=dH Tryz.underlying66 h
 obtain ⟨a,b,rfl⟩:=zH h1
 obtain ⟨x,rfl,hx⟩:=bP (H:=H) Tryz.underlying2 (h2 0 _ _ rfl rfl)
 obtain ⟨y,rfl,hy⟩:=bP (H:=H) Tryz.underlying2 (h2 1 _ _ rfl rfl)
 exact ⟨(x,y),by simp [cP,jY,da,dj,bw],⟨hx,hy⟩,by simp [dx]⟩
theorem F9 : eL H Tryz.prog 30 (fun l : List (Int × Int)=>.sl (l.map aJ)) (fun l=>l.length≤9223372036854775807∧∀ x ∈ l,(IntKind.i64.min≤x.1∧x.1≤IntKind.i64.max)∧IntKind.i64.min≤x.2∧x.2≤IntKind.i64.max) (fun l=>(l.map fun _=>1).sum+1):=dF Tryz.underlying30 GH
theorem Df : eL H Tryz.prog 81 bT (fun _=>True) (fun _=>1):=by
 intro d h
 obtain ⟨ds,rfl,h1,h2⟩:=dH Tryz.underlying81 h
 obtain ⟨a0,a1,a2,a3,a4,a5,a6,a7,a8,a9,rfl⟩:=Gr h1
 obtain ⟨x0,rfl⟩:=zG (H:=H) Tryz.underlying9 (h2 0 _ _ rfl rfl)
 obtain ⟨x1,rfl,_⟩:=bP (H:=H) Tryz.underlying3 (h2 1 _ _ rfl rfl)
 obtain ⟨x2,rfl,_⟩:=bP (H:=H) Tryz.underlying3 (h2 2 _ _ rfl rfl)
 obtain ⟨vx,vy,vz,rfl⟩:=qS (H:=H) Tryz.underlying77 Tryz.underlying2 (d:=a3) (h2 3 _ _ rfl rfl)
 obtain ⟨x4,rfl,_⟩:=bP (H:=H) Tryz.underlying2 (h2 4 _ _ rfl rfl)
 obtain ⟨x5,rfl,_⟩:=bP (H:=H) Tryz.underlying2 (h2 5 _ _ rfl rfl)
 obtain ⟨x6,rfl,_⟩:=bP (H:=H) Tryz.underlying2 (h2 6 _ _ rfl rfl)
 obtain ⟨x7,rfl,_⟩:=bP (H:=H) Tryz.underlying2 (h2 7 _ _ rfl rfl)
 obtain ⟨x8,rfl,_⟩:=bP (H:=H) Tryz.underlying2 (h2 8 _ _ rfl rfl)
 obtain ⟨x9,rfl,_⟩:=bP (H:=H) Tryz.underlying2 (h2 9 _ _ rfl rfl)
 exact ⟨⟨⟨x0.toArray⟩,x1,x2,vx,vy,vz,x4,x5,x6,x7,x8,x9⟩,by simp [cP,jY,da,dj,bw],trivial,by simp [dx]⟩
theorem EI : eL H Tryz.prog 146 ck (fun _=>True) (fun _=>1):=by
 intro d h
 obtain ⟨ds,rfl,h1,h2⟩:=dH Tryz.underlying146 h
 obtain ⟨a0,a1,a2,rfl⟩:=t6 h1
 obtain ⟨x0,rfl,_⟩:=bP (H:=H) Tryz.underlying3 (h2 0 _ _ rfl rfl)
 obtain ⟨x1,rfl,_⟩:=bP (H:=H) Tryz.underlying2 (h2 1 _ _ rfl rfl)
 obtain ⟨vx,vy,vz,rfl⟩:=qS (H:=H) Tryz.underlying77 Tryz.underlying2 (d:=a2) (h2 2 _ _ rfl rfl)
 exact ⟨⟨x0,x1,vx,vy,vz⟩,by simp [cP,jY,da,dj,bw],trivial,by simp [dx]⟩
end
end Go.Ab
namespace Go.Ab
structure Hid (H : Prop) : Prop where
 h : H
theorem Gy {G : Prop} (h : G:=by
 with_reducible repeat' (first|refine Sp.h ?_|((first|refine Wd ?_|refine Ss.h ?_|refine Sc.h (by assumption) ?_|(refine Sb.h ?_ ?_ ?_<;>(try intro hgd)<;>try exact Xy))<;>simp -implicitDefEqProofs (maxSteps:=2000000) [hP,hN, *]<;>try refine Ya ?_)|refine X2 ?_ ?_|(refine Xd ?_ ?_<;>intro hcd<;>try exact Xx))) : G:=h
theorem Gz {G H : Prop} (x : H) (h : Hid H→G:=by
 intro hG0
 with_reducible repeat' (first|refine Sp.h ?_|((first|refine Wd ?_|refine Ss.h ?_|refine Sc.h (by assumption) ?_|(refine Sb.h ?_ ?_ ?_<;>(try intro hgd)<;>try exact Xy))<;>simp -implicitDefEqProofs (maxSteps:=2000000) [hP,hN, *]<;>try refine Ya ?_)|refine X2 ?_ ?_|(refine Xd ?_ ?_<;>intro hcd<;>try exact Xx))
 exact hG0.h) : G:=h ⟨x⟩
end Go.Ab
namespace Go.Ab
theorem qk {m n : Nat} (_ : m=n) (a : Array Value) : ∀ k,k < n→k < a.size+(n - a.size):=by intro k h;omega
theorem E2 {P : Program} {g : FuncId} (h : er P g:=by
 refine ⟨by kernel_rfl,fun args w=>?_⟩
 refine callsD_of_wpS hf rfl fun c₀ cs hu=>?_
 apply wpS_seq
 apply wpS_region
 have hk:=qk nt args
 have h0:=hk 0 (by decide)
 have h1:=hk 1 (by decide)
 have h2:=hk 2 (by decide)
 simp [wpOpsS,go_sem,recoverD,hu,nt,Exit.thenS,h0,h1,h2]
 refine wpS_cond (t:=false) (by simp [Act.eval,h0,h1,h2]) ?_
 simp only [Bool.false_eq_true,if_false]
 refine wpS_of_wp (wp_skip ?_)
 cases c₀
 simp_all [bodyPostS,results,rs]) : er P g:=h
theorem E3 {P : Program} {g : FuncId} (h : er P g:=by
 refine ⟨by kernel_rfl,fun args w=>?_⟩
 refine callsD_of_wpS hf rfl fun c₀ cs hu=>?_
 apply wpS_seq
 apply wpS_region
 have hk:=qk nt args
 have h0:=hk 0 (by decide)
 have h1:=hk 1 (by decide)
 have h2:=hk 2 (by decide)
 have h3:=hk 3 (by decide)
 simp [wpOpsS,go_sem,recoverD,hu,nt,Exit.thenS,h0,h1,h2,h3]
 refine wpS_cond (t:=false) (by simp [Act.eval,h0,h1,h2,h3]) ?_
 simp only [Bool.false_eq_true,if_false]
 refine wpS_of_wp (wp_skip ?_)
 cases c₀
 simp_all [bodyPostS,results,rs]) : er P g:=h
end Go.Ab
namespace Go.Ab
open Go.Proofs
structure Verd where
 kind : Int
 nor : List (Int × Int × Int)
 pair : Int
 left : List Int
 right : List Int
structure Cel where
 joint : Int
 low : Int
 high : Int
 v : Verd
structure Tr where
 root : List (Int × Int)
 cells : List Cel
abbrev aH (v : Int × Int × Int) : PV:=.val (.agg #[.int .i64 v.1,.int .i64 v.2.1,.int .i64 v.2.2])
abbrev aR (l : List (Int × Int × Int)) : PV:=.sl (l.map aH)
abbrev Gb (p : Int) (l r : List Int) : PV:=.agg [Z p,zs l,zs r]
abbrev rc (v : Verd) : PV:=.agg [Z v.kind,aR v.nor,Z v.pair,zs v.left,zs v.right]
abbrev cT (c : Cel) : PV:=.agg [Z c.joint,Z c.low,Z c.high,Z c.v.kind,aR c.v.nor,Z c.v.pair,zs c.v.left,zs c.v.right]
abbrev dc (t : Tr) : PV:=.agg [iv t.root,.sl (t.cells.map cT)]
def bM (c : Cel) : Bool:=c.joint==-1 && c.low==-1 && c.high==-1
def gk (p : Int) (l r : List Int) : Bool:=p==0 && (l.length : Int)==0 && (r.length : Int)==0
def bX (v : Verd) : Bool:=if v.kind=0∨v.kind=1 then gk v.pair v.left v.right else if v.kind=2 then ((v.nor.length : Int)==0) else false
def jT (v : Verd) : Bool:=v.kind==0 && ((v.nor.length : Int)==0) && gk v.pair v.left v.right
theorem xv {α : Type} (l : List α) : ((l.length : Int)==0)=decide (l.length=0):=by
 by_cases h : l.length=0
 ·simp [h]
 ·have : ((l.length : Int)==0)=false:=by simp;intro h';exact h (by rw [h'];rfl)
  rw [this];simp [h]
theorem ID (c : Cel) : ab Tryz.prog 157 [.pv (cT c)] [] [] (.pv (B (bM c))):=by
 refine Dp Tryz.func157 ?_
 intro C hP hN
 simp only [Tryz.f157] at hN ⊢
 with_reducible repeat' (first|refine Sp.h ?_|((first|refine Ss.h ?_|(refine Sb.h ?_ ?_ ?_<;>(try intro hgd)<;>try exact Xy))<;>simp -implicitDefEqProofs (maxSteps:=2000000) [hP,hN])|refine X2 ?_ ?_|(refine Xd ?_ ?_<;>intro hcd<;>try exact Xx))
 all_goals (simp_all [bM])
theorem BL (c : Cel) : ab Tryz.prog 48 [.pv (cT c)] [] [] (.pv (B (bM c))):=by
 refine Dp Tryz.func48 ?_
 intro C hP hN
 simp only [Tryz.f48] at hN ⊢
 with_reducible repeat' (first|refine Sp.h ?_|((first|refine Ss.h ?_|(refine Sb.h ?_ ?_ ?_<;>(try intro hgd)<;>try exact Xy))<;>simp -implicitDefEqProofs (maxSteps:=2000000) [hP,hN])|refine X2 ?_ ?_|(refine Xd ?_ ?_<;>intro hcd<;>try exact Xx))
 all_goals (simp_all [bM])
theorem Gc (p : Int) (l r : List Int) : ab Tryz.prog 183 [.pv (Gb p l r)] [] [] (.pv (B (gk p l r))):=by
 refine Dp Tryz.func183 ?_
 intro C hP hN
 simp only [Tryz.f183] at hN ⊢
 with_reducible repeat' (first|refine Sp.h ?_|((first|refine Ss.h ?_|(refine Sb.h ?_ ?_ ?_<;>(try intro hgd)<;>try exact Xy))<;>simp -implicitDefEqProofs (maxSteps:=2000000) [hP,hN])|refine X2 ?_ ?_|(refine Xd ?_ ?_<;>intro hcd<;>try exact Xx))
 all_goals (simp_all [gk])
theorem Gd (p : Int) (l r : List Int) : ab Tryz.prog 117 [.pv (Gb p l r)] [] [] (.pv (B (gk p l r))):=by
 refine Dp Tryz.func117 ?_
 intro C hP hN
 simp only [Tryz.f117] at hN ⊢
 with_reducible repeat' (first|refine Sp.h ?_|((first|refine Ss.h ?_|(refine Sb.h ?_ ?_ ?_<;>(try intro hgd)<;>try exact Xy))<;>simp -implicitDefEqProofs (maxSteps:=2000000) [hP,hN])|refine X2 ?_ ?_|(refine Xd ?_ ?_<;>intro hcd<;>try exact Xx))
 all_goals (simp_all [gk])
theorem IE (v : Verd) : ab Tryz.prog 158 [.pv (rc v)] [] [] (.pv (B (bX v))):=by
 have ce:=Gc v.pair v.left v.right
 have h0:=xv v.nor
 generalize hE : gk v.pair v.left v.right=E at ce
 refine Dp Tryz.func158 ?_
 intro C hP hN
 simp only [Tryz.f158] at hN ⊢
 with_reducible repeat' (first|refine Sp.h ?_|((first|refine Ss.h ?_|refine Sc.h (ce) ?_|(refine Sb.h ?_ ?_ ?_<;>(try intro hgd)<;>try exact Xy))<;>simp -implicitDefEqProofs (maxSteps:=2000000) [hP,hN])|refine X2 ?_ ?_|(refine Xd ?_ ?_<;>intro hcd<;>try exact Xx))
 all_goals (simp_all [bX])
theorem Hd (v : Verd) : ab Tryz.prog 82 [.pv (rc v)] [] [] (.pv (B (bX v))):=by
 have ce:=Gd v.pair v.left v.right
 have h0:=xv v.nor
 generalize hE : gk v.pair v.left v.right=E at ce
 refine Dp Tryz.func82 ?_
 intro C hP hN
 simp only [Tryz.f82] at hN ⊢
 with_reducible repeat' (first|refine Sp.h ?_|((first|refine Ss.h ?_|refine Sc.h (ce) ?_|(refine Sb.h ?_ ?_ ?_<;>(try intro hgd)<;>try exact Xy))<;>simp -implicitDefEqProofs (maxSteps:=2000000) [hP,hN])|refine X2 ?_ ?_|(refine Xd ?_ ?_<;>intro hcd<;>try exact Xx))
 all_goals (simp_all [bX])
theorem IF (v : Verd) : ab Tryz.prog 159 [.pv (rc v)] [] [] (.pv (B (jT v))):=by
 have ce:=Gc v.pair v.left v.right
 generalize hE : gk v.pair v.left v.right=E at ce
 refine Dp Tryz.func159 ?_
 intro C hP hN
 simp only [Tryz.f159] at hN ⊢
 with_reducible repeat' (first|refine Sp.h ?_|((first|refine Ss.h ?_|refine Sc.h (ce) ?_|(refine Sb.h ?_ ?_ ?_<;>(try intro hgd)<;>try exact Xy))<;>simp -implicitDefEqProofs (maxSteps:=2000000) [hP,hN])|refine X2 ?_ ?_|(refine Xd ?_ ?_<;>intro hcd<;>try exact Xx))
 all_goals (simp_all [jT])
theorem JZ (v : Verd) : ab Tryz.prog 83 [.pv (rc v)] [] [] (.pv (B (jT v))):=by
 have ce:=Gd v.pair v.left v.right
 generalize hE : gk v.pair v.left v.right=E at ce
 refine Dp Tryz.func83 ?_
 intro C hP hN
 simp only [Tryz.f83] at hN ⊢
 with_reducible repeat' (first|refine Sp.h ?_|((first|refine Ss.h ?_|refine Sc.h (ce) ?_|(refine Sb.h ?_ ?_ ?_<;>(try intro hgd)<;>try exact Xy))<;>simp -implicitDefEqProofs (maxSteps:=2000000) [hP,hN])|refine X2 ?_ ?_|(refine Xd ?_ ?_<;>intro hcd<;>try exact Xx))
 all_goals (simp_all [jT])
def cD (r : List (Int × Int)) : Bool:=decide (1≤r.length) && decide (r.length≤10) && aD vI r
theorem IG (r : List (Int × Int)) : ab Tryz.prog 156 [.pv (iv r)] [] [] (.pv (B (cD r))):=by
 by_cases h1 : r.length < 1
 ·have hr : cD r=false:=by simp [cD];omega
  have h1' : (r.length : Int) < 1:=by omega
  rw [hr]
  refine Dp Tryz.func156 ?_
  intro C hP hN
  simp only [Tryz.f156] at hN ⊢
  with_reducible repeat' (first|refine Sp.h ?_|((first|refine Ss.h ?_|(refine Sb.h ?_ ?_ ?_<;>(try intro hgd)<;>try exact Xy))<;>simp -implicitDefEqProofs (maxSteps:=2000000) [hP,hN,h1',h1])|refine X2 ?_ ?_|(refine Xd ?_ ?_<;>intro hcd<;>try exact Xx))
 have h1' : ¬ (r.length : Int) < 1:=by omega
 by_cases h2 : 10 < r.length
 ·have hr : cD r=false:=by simp [cD];omega
  have h2' : (10 : Int) < r.length:=by omega
  rw [hr]
  refine Dp Tryz.func156 ?_
  intro C hP hN
  simp only [Tryz.f156] at hN ⊢
  with_reducible repeat' (first|refine Sp.h ?_|((first|refine Ss.h ?_|(refine Sb.h ?_ ?_ ?_<;>(try intro hgd)<;>try exact Xy))<;>simp -implicitDefEqProofs (maxSteps:=2000000) [hP,hN,h1',h1,h2,h2'])|refine X2 ?_ ?_|(refine Xd ?_ ?_<;>intro hcd<;>try exact Xx))
 have h2' : ¬ (10 : Int) < r.length:=by omega
 have hr : cD r=aD vI r:=by
  unfold cD
  have a1 : decide (1≤r.length)=true:=by simp;omega
  have a2 : decide (r.length≤10)=true:=by simp;omega
  rw [a1,a2];simp
 rw [hr]
 refine Dp Tryz.func156 ?_
 intro C hP hN
 simp only [Tryz.f156] at hN ⊢
 with_reducible repeat' (first|refine Sp.h ?_|((first|refine Ss.h ?_|(refine Sb.h ?_ ?_ ?_<;>(try intro hgd)<;>try exact Xy))<;>simp -implicitDefEqProofs (maxSteps:=2000000) [hP,hN,h1',h1,h2,h2'])|refine X2 ?_ ?_|(refine Xd ?_ ?_<;>intro hcd<;>try exact Xx))
 refine WP.loopN [4] r.length (fun i st=>st.t 13=.pv (iv r)∧st.t 14=.pv (Z r.length)∧st.t 15=.pv (Z i)∧st.h 4=none∧aD vI (r.take i)=true) (by simp [aD]) ?_
 rintro i st hi ⟨g13,g14,g15,hb,hq⟩
 by_cases hlt : i < r.length
 ·have hw:=ak hlt (by omega)
  have hF : vI r[i]=false→aD vI r=false:=pM hlt
  have hS : vI r[i]=true→aD vI (r.take (i+1))=true:=oo hlt hq
  with_reducible repeat' (first|refine Sp.h ?_|((first|refine Ss.h ?_|refine Sc.h (tW _ _) ?_|(refine Sb.h ?_ ?_ ?_<;>(try intro hgd)<;>try exact Xy))<;>simp -implicitDefEqProofs (maxSteps:=2000000) [hP,hN,g13,g14,g15,hb,hlt,hw])|refine X2 ?_ ?_|(refine Xd ?_ ?_<;>intro hcd<;>try exact Xx))
  all_goals first|(rw [hF (by simpa using hcd)];done)|(simp [hF (by simpa using hcd)];done)|(simpa using hS (by simpa using hcd))
 ·skip
  with_reducible repeat' (first|refine Sp.h ?_|((first|refine Ss.h ?_|(refine Sb.h ?_ ?_ ?_<;>(try intro hgd)<;>try exact Xy))<;>simp -implicitDefEqProofs (maxSteps:=2000000) [hP,hN,g13,g14,g15,hb,hlt])|refine X2 ?_ ?_|(refine Xd ?_ ?_<;>intro hcd<;>try exact Xx))
  all_goals simp [oq hlt hq]
end Go.Ab
namespace Go.Ab
open Go.Proofs
theorem bO {α : Type} {p : α→Bool} {xs : List α} : aD p xs=true↔∀ x ∈ xs,p x=true:=List.all_eq_true
abbrev Bx:=List (Int × Int)
abbrev OL:=List (Option Bx)
def la : Option Bx→PV
 |none=>.val (.slice none 0 0)
 |some b=>iv b
def fS (n i : Nat) (c : Cel) : Bool:=decide ((i : Int) < c.low) && decide (c.low < n) && decide ((i : Int) < c.high) && decide (c.high < n) && decide (c.low≠c.high) && jT c.v
def dv (n i : Nat) (c : Cel) (L : OL) : Option OL:=
 match L[i]? with
 |some (some b)=>
  if bM c then (if bX c.v then some L else none)
  else if fS n i c then
   if aP b c.joint then
    match L[c.low.toNat]?,L[c.high.toNat]? with
    |some none,some none=>some ((L.set c.low.toNat (some (bo b c.joint))).set c.high.toNat (some (bp b c.joint)))
    |_,_=>none
   else none
  else none
 |_=>none
def iX (n : Nat) : List Cel→Nat→OL→Option OL
 |[],_,L=>some L
 |c :: cs,i,L=>match dv n i c L with
  |some L'=>iX n cs (i+1) L'
  |none=>none
def fT (t : Tr) : OL:=some t.root :: List.replicate (t.cells.length - 1) none
def dS (t : Tr) : Bool:=decide (1≤t.cells.length) && decide (t.cells.length≤2048) && cD t.root
def bq (t : Tr) : Option OL:=if dS t then iX t.cells.length t.cells 0 (fT t) else none
def aB (t : Tr) : Bool:=(bq t).isSome
def af (t : Tr) : List Bx:=match bq t with
 |some L=>L.map fun x=>x.getD []
 |none=>[]
theorem eO {n i : Nat} {c : Cel} {L L' : OL} (h : dv n i c L=some L') : ∃ b,L[i]?=some (some b)∧
 ((bM c=true∧bX c.v=true∧L'=L)∨
  (bM c=false∧fS n i c=true∧aP b c.joint=true∧L[c.low.toNat]?=some none∧L[c.high.toNat]?=some none∧
    L'=(L.set c.low.toNat (some (bo b c.joint))).set c.high.toNat (some (bp b c.joint)))):=by
 unfold dv at h
 split at h
 ·rename_i b hb
  refine ⟨b,hb,?_⟩
  split at h
  ·rename_i hl
   split at h
   ·rename_i hf
    injection h with h
    exact .inl ⟨hl,hf,h.symm⟩
   ·cases h
  ·rename_i hl
   split at h
   ·rename_i hi
    split at h
    ·rename_i hh
     split at h
     ·rename_i h1 h2
      injection h with h
      exact .inr ⟨by simpa using hl,hi,hh,h1,h2,h.symm⟩
     ·cases h
    ·cases h
   ·cases h
 ·cases h
theorem eP {n i : Nat} {c : Cel} : fS n i c=true↔(i : Int) < c.low∧c.low < n∧(i : Int) < c.high∧c.high < n∧c.low≠c.high∧jT c.v=true:=by
 simp [fS,and_assoc]
theorem xx {n : Nat} {P : Nat→OL→Prop} : ∀ (cs : List Cel) (i : Nat) (L L' : OL),iX n cs i L=some L'→P i L→
 (∀ k c L L',cs[k]?=some c→P (i+k) L→dv n (i+k) c L=some L'→P (i+k+1) L')→P (i+cs.length) L'
 |[],i,L,L',h,h0,_=>by simp [iX] at h;subst h;exact h0
 |c :: cs,i,L,L',h,h0,hs=>by
  simp only [iX] at h
  split at h
  ·rename_i L1 h1
   have h2:=hs 0 c L L1 rfl h0 h1
   have:=xx cs (i+1) L1 L' h h2 (fun k d M M' hk hp hm=>by
    have e : i+1+k=i+(k+1):=by omega
    rw [e] at hp hm ⊢
    exact hs (k+1) d M M' (by simpa using hk) hp hm)
   have e : i+(c :: cs).length=i+1+cs.length:=by simp;omega
   rw [e];exact this
  ·cases h
theorem ju {t : Tr} {L : OL} {P : Nat→OL→Prop} (h : bq t=some L) (h0 : P 0 (fT t))
 (hs : ∀ i c L L',t.cells[i]?=some c→P i L→dv t.cells.length i c L=some L'→P (i+1) L') : P t.cells.length L:=by
 unfold bq at h
 split at h
 ·have:=xx t.cells 0 _ _ h h0 (fun k c M M' hk hp hm=>by
   rw [Nat.zero_add] at hp hm ⊢;exact hs k c M M' hk hp hm)
  simpa using this
 ·cases h
theorem jb {t : Tr} {L : OL} (h : bq t=some L) : dS t=true:=by
 unfold bq at h
 split at h
 ·assumption
 ·cases h
theorem aY {t : Tr} : dS t=true↔1≤t.cells.length∧t.cells.length≤2048∧1≤t.root.length∧t.root.length≤10∧aD vI t.root=true:=by
 simp [dS,cD,and_assoc]
structure BOk (t : Tr) (i : Nat) (L : OL) : Prop where
 len : L.length=t.cells.length
 pre : ∀ j,j < i→∃ b,L[j]?=some (some b)
 ok : ∀ (j : Nat) b,L[j]?=some (some b)→b.length=t.root.length∧aD vI b=true
theorem vn {b : Bx} {j : Int} (h : aP b j=true) : (bo b j).length=b.length∧(bp b j).length=b.length:=by
 unfold bo bp
 rw [h]
 simp only [if_true]
 unfold aP at h
 split<;>simp_all
theorem bN {lo hi : Int} : am lo hi=true↔-2147483648≤lo∧lo≤hi∧hi≤2147483648:=by
 simp [am,and_assoc]
theorem za {x : Int × Int} (h : am x.1 x.2=true) : fw x=(x.1+x.2) / 2:=by
 unfold fw
 have h':=bN.1 h
 rw [h,if_pos rfl,show wr (x.1+x.2)=x.1+x.2 from aa (by omega) (by omega),Int.fdiv_eq_ediv]
 simp
theorem mg {b : Bx} {j : Int} : aP b j=true↔0≤j∧aD vI b=true∧∃ x,b[j.toNat]?=some x∧2≤x.2 - x.1:=by
 unfold aP
 constructor
 ·intro h
  simp only [Bool.and_eq_true,decide_eq_true_eq] at h
  obtain ⟨⟨h1,h2⟩,h3⟩:=h
  refine ⟨h1,h2,?_⟩
  split at h3
  ·rename_i x hx
   refine ⟨x,hx,?_⟩
   have hv:=bN.1 (bO.1 h2 _ (List.mem_of_getElem? hx))
   rw [decide_eq_true_eq,bR,if_pos (bO.1 h2 _ (List.mem_of_getElem? hx)),show wr (x.2 - x.1)=x.2 - x.1 from aa (by omega) (by omega)] at h3
   exact h3
  ·cases h3
 ·rintro ⟨h1,h2,x,hx,h3⟩
  have hv:=bN.1 (bO.1 h2 _ (List.mem_of_getElem? hx))
  have hw : bR x=x.2 - x.1:=by
   rw [bR,if_pos (bO.1 h2 _ (List.mem_of_getElem? hx))]
   exact aa (by omega) (by omega)
  simp [h1,h2,hx,hw,h3]
theorem xy {b : Bx} {j : Int} (h : aP b j=true) : ∃ x,b[j.toNat]?=some x∧am x.1 x.2=true∧2≤x.2 - x.1∧bo b j=b.set j.toNat (x.1,(x.1+x.2) / 2)∧bp b j=b.set j.toNat ((x.1+x.2) / 2,x.2):=by
 obtain ⟨_,h2,x,hx,h3⟩:=mg.1 h
 have hv : am x.1 x.2=true:=bO.1 h2 _ (List.mem_of_getElem? hx)
 refine ⟨x,hx,hv,h3,?_,?_⟩
 ·simp [bo,h,hx,za hv]
 ·simp [bp,h,hx,za hv]
theorem rI {b : Bx} {j : Int} (h : aP b j=true) : aD vI (bo b j)=true∧aD vI (bp b j)=true:=by
 obtain ⟨x,hx,hv,h3,ea,ez⟩:=xy h
 have h2:=(mg.1 h).2.1
 have hv':=bN.1 hv
 rw [ea,ez]
 constructor<;>refine bO.2 fun y hy=>?_
 ·rcases List.mem_or_eq_of_mem_set hy with h|rfl
  ·exact bO.1 h2 _ h
  ·exact bN.2 ⟨by omega,by simp only;omega,by simp only;omega⟩
 ·rcases List.mem_or_eq_of_mem_set hy with h|rfl
  ·exact bO.1 h2 _ h
  ·exact bN.2 ⟨by simp only;omega,by simp only;omega,by omega⟩
theorem oR {t : Tr} (h : dS t=true) : BOk t 0 (fT t):=by
 obtain ⟨h1,h2,h3,h4,h5⟩:=aY.1 h
 refine ⟨by simp [fT];omega,fun j hj=>by omega,fun j b hb=>?_⟩
 cases j with
 |zero=>simp [fT] at hb;subst hb;exact ⟨rfl,h5⟩
 |succ j=>simp [fT,List.getElem?_replicate] at hb
theorem Dl {L : OL} {a z : Nat} {x y : Option Bx} {j : Nat} (hne : a≠z) (ha : a < L.length) (hz : z < L.length) : ((L.set a x).set z y)[j]?=if j=z then some y else if j=a then some x else L[j]?:=by
 rw [List.getElem?_set]
 by_cases h1 : z=j
 ·subst h1;simp [hz]
 ·rw [if_neg h1,if_neg (fun h=>h1 h.symm),List.getElem?_set]
  by_cases h2 : a=j
  ·subst h2;simp [ha]
  ·rw [if_neg h2,if_neg (fun h=>h2 h.symm)]
theorem se {t : Tr} {i : Nat} {c : Cel} {L : OL} {x y : Option Bx} {j : Nat} (hl : L.length=t.cells.length) (hi : fS t.cells.length i c=true) : ((L.set c.low.toNat x).set c.high.toNat y)[j]?=if j=c.high.toNat then some y else if j=c.low.toNat then some x else L[j]?:=by
 obtain ⟨h1,h2,h3,h4,h5,_⟩:=eP.1 hi
 exact Dl (by omega) (by omega) (by omega)
theorem oS {t : Tr} {i : Nat} {c : Cel} {L L' : OL} (h : BOk t i L) (hs : dv t.cells.length i c L=some L') : BOk t (i+1) L':=by
 obtain ⟨b,hb,⟨_,_,rfl⟩|⟨_,hi,hh,hlo,hhi,rfl⟩⟩:=eO hs
 ·refine ⟨h.len,fun j hj=>?_,h.ok⟩
  by_cases e : j=i
  ·subst e;exact ⟨b,hb⟩
  ·exact h.pre j (by omega)
 ·have hbo:=h.ok i b hb
  refine ⟨by simpa using h.len,fun j hj=>?_,fun j d hd=>?_⟩
  ·rw [se h.len hi]
   split
   ·exact ⟨_,rfl⟩
   ·split
    ·exact ⟨_,rfl⟩
    ·by_cases e : j=i
     ·subst e;exact ⟨b,hb⟩
     ·exact h.pre j (by omega)
  ·rw [se h.len hi] at hd
   split at hd
   ·injection hd with hd;injection hd with hd;subst hd
    exact ⟨by rw [(vn hh).2];exact hbo.1,(rI hh).2⟩
   ·split at hd
    ·injection hd with hd;injection hd with hd;subst hd
     exact ⟨by rw [(vn hh).1];exact hbo.1,(rI hh).1⟩
    ·exact h.ok j d hd
structure BInv (t : Tr) (i : Nat) (L : OL) : Prop where
 bok : BOk t i L
 run : iX t.cells.length (t.cells.drop i) i L=bq t
theorem qn {t : Tr} (h : dS t=true) : BInv t 0 (fT t):=⟨oR h,by simp [bq,h]⟩
theorem kQ {t : Tr} {i : Nat} {L L' : OL} (h : BInv t i L) (hlt : i < t.cells.length) (hs : dv t.cells.length i t.cells[i] L=some L') : BInv t (i+1) L':=by
 refine ⟨oS h.bok hs,?_⟩
 rw [← h.run,List.drop_eq_getElem_cons hlt]
 simp only [iX,hs]
theorem qo {t : Tr} {i : Nat} {L : OL} (h : BInv t i L) (hlt : i < t.cells.length) (hs : dv t.cells.length i t.cells[i] L=none) : bq t=none:=by
 rw [← h.run,List.drop_eq_getElem_cons hlt]
 simp only [iX,hs]
theorem qp {t : Tr} {i : Nat} {L : OL} (h : BInv t i L) (hlt : ¬ i < t.cells.length) : bq t=some L:=by
 rw [← h.run,List.drop_eq_nil_of_le (by omega)]
 rfl
theorem mL {t : Tr} {L : OL} (h : bq t=some L) : BOk t t.cells.length L:=
 ju h (oR (jb h)) (fun _ _ _ _ _ hp hm=>oS hp hm)
theorem jU {t : Tr} {L : OL} (h : bq t=some L) : L=(af t).map some:=by
 have ok:=mL h
 rw [af,h]
 simp only [List.map_map]
 apply List.ext_getElem?;intro j
 by_cases hj : j < L.length
 ·obtain ⟨b,hb⟩:=ok.pre j (by rw [← ok.len];exact hj)
  simp [hb]
 ·simp [List.getElem?_eq_none (by omega : L.length≤j)]
theorem sf {t : Tr} {L : OL} (h : bq t=some L) : L.map la=(af t).map iv:=by
 rw [jU h]
 simp [la,Function.comp_def]
theorem bS {t : Tr} (h : aB t=true) : (af t).length=t.cells.length:=by
 obtain ⟨L,hL⟩:=Option.isSome_iff_exists.1 h
 have:=(mL hL).len
 rw [jU hL] at this
 simpa using this
theorem dC {t : Tr} {j : Nat} {b : Bx} (hb : (af t)[j]?=some b) : b.length=t.root.length∧aD vI b=true:=by
 cases hL : bq t with
 |none=>simp [af,hL] at hb
 |some L=>
  have:=(mL hL).ok j b
  rw [jU hL] at this
  exact this (by simp [hb])
theorem cG {t : Tr} (h : aB t=true) : dS t=true:=by
 obtain ⟨L,hL⟩:=Option.isSome_iff_exists.1 h
 exact jb hL
theorem mM {t : Tr} (h : bq t=none) : aB t=false∧af t=[]:=by simp [aB,af,h]
theorem gt {t : Tr} {i : Nat} {L : OL} {b : Bx} {c : Cel} {n : Nat} (hb : L[i]?=some (some b)) (hl : bM c=true) : dv n i c L=if bX c.v then some L else none:=by
 simp [dv,hb,hl]
theorem lu {i : Nat} {L : OL} {b : Bx} {c : Cel} {n : Nat} (hb : L[i]?=some (some b)) (hl : bM c=false) (hi : fS n i c=true) (hh : aP b c.joint=true) (h1 : L[c.low.toNat]?=some none) (h2 : L[c.high.toNat]?=some none) : dv n i c L=some ((L.set c.low.toNat (some (bo b c.joint))).set c.high.toNat (some (bp b c.joint))):=by
 simp [dv,hb,hl,hi,hh,h1,h2]
theorem iA {i : Nat} {L : OL} {b : Bx} {c : Cel} {n : Nat} (hb : L[i]?=some (some b)) (hl : bM c=false) (h : fS n i c=false∨aP b c.joint=false∨(∃ d,L[c.low.toNat]?=some (some d))∨(∃ d,L[c.high.toNat]?=some (some d))) : dv n i c L=none:=by
 unfold dv
 rw [hb]
 simp only [hl,Bool.false_eq_true,if_false]
 split
 ·rename_i hi
  split
  ·rename_i hh
   rcases h with h|h|⟨d,h⟩|⟨d,h⟩
   ·rw [hi] at h;cases h
   ·rw [hh] at h;cases h
   ·rw [h]
   ·rw [h];split
    ·rename_i e1 e2;cases e2
    ·rfl
  ·rfl
 ·rfl
end Go.Ab
namespace Go.Ab
open Go.Proofs
def bz : Verd:=⟨0,[],0,[],[]⟩
def bh (v : Verd) : Cel:=⟨-1,-1,-1,v⟩
theorem xA {c : Cel} (h : bM c=true) : c=bh c.v:=by
 cases c;simp [bM] at h;simp [bh,h]
theorem iP (v : Verd) : bM (bh v)=true:=by simp [bM,bh]
theorem As : jT bz=true:=by simp [jT,bz,gk]
theorem At : bX bz=true:=by simp [bX,bz,gk]
theorem Au {n i : Nat} {c : Cel} {L L' : OL} (h : dv n i c L=some L') {j : Nat} {b : Bx} (hb : L[j]?=some (some b)) : L'[j]?=some (some b):=by
 obtain ⟨d,hd,⟨_,_,rfl⟩|⟨_,hi,hh,hlo,hhi,rfl⟩⟩:=eO h
 ·exact hb
 ·have h1 : c.low.toNat≠j:=by intro e;rw [e,hb] at hlo;cases hlo
  have h2 : c.high.toNat≠j:=by intro e;rw [e,hb] at hhi;cases hhi
  rw [List.getElem?_set,if_neg h2,List.getElem?_set,if_neg h1];exact hb
theorem vo {n i k : Nat} {c : Cel} {L L' S : OL} (hl : L.length=n) (hk : S.length=k) (h : dv n i c L=some L') : dv (n+k) i c (L++S)=some (L'++S):=by
 obtain ⟨d,hd,⟨h1,h2,rfl⟩|⟨h1,hi,hh,hlo,hhi,rfl⟩⟩:=eO h
 ·have hlt : i < L'.length:=(List.getElem?_eq_some_iff.1 hd).1
  have : (L'++S)[i]?=some (some d):=by rw [List.getElem?_append_left hlt];exact hd
  simp [dv,this,h1,h2]
 ·have hlt : i < L.length:=(List.getElem?_eq_some_iff.1 hd).1
  have l1 : c.low.toNat < L.length:=(List.getElem?_eq_some_iff.1 hlo).1
  have l2 : c.high.toNat < L.length:=(List.getElem?_eq_some_iff.1 hhi).1
  have e1 : (L++S)[i]?=some (some d):=by rw [List.getElem?_append_left hlt];exact hd
  have e2 : (L++S)[c.low.toNat]?=some none:=by rw [List.getElem?_append_left l1];exact hlo
  have e3 : (L++S)[c.high.toNat]?=some none:=by rw [List.getElem?_append_left l2];exact hhi
  have hi' : fS (n+k) i c=true:=by
   obtain ⟨a1,a2,a3,a4,a5,a6⟩:=eP.1 hi
   exact eP.2 ⟨a1,by omega,a3,by omega,a5,a6⟩
  rw [lu e1 h1 hi' hh e2 e3,List.set_append_left _ _ l1,List.set_append_left _ _ (by simpa using l2)]
def fl (t : Tr) (i : Nat) (j : Int) (v : Verd) : Tr:=⟨t.root,t.cells.set i ⟨j,t.cells.length,t.cells.length+1,bz⟩++[bh v,bh v]⟩
theorem jV (t : Tr) (i : Nat) (j : Int) (v : Verd) : (fl t i j v).cells.length=t.cells.length+2:=by simp [fl]
theorem kR {n i : Nat} {cs : List Cel} {c : Cel} {L L' : OL} (hc : cs[i]?=some c) (h : dv n i c L=some L') : iX n (cs.drop i) i L=iX n (cs.drop (i+1)) (i+1) L':=by
 obtain ⟨hlt,hc⟩:=List.getElem?_eq_some_iff.1 hc
 rw [List.drop_eq_getElem_cons hlt,hc]
 simp only [iX,h]
theorem BM {t : Tr} {L : OL} (h : bq t=some L) {i : Nat} {c : Cel} (hc : t.cells[i]?=some c) (hl : bM c=true) : bX c.v=true:=by
 have hp:=ju (P:=fun k _=>i < k→bX c.v=true) h (by intro h;omega) (fun k d M M' hk hp hm hi=>by
  by_cases e : k=i
  ·subst e
   rw [hc] at hk;injection hk with hk;subst hk
   obtain ⟨b,hb,⟨_,h2,_⟩|⟨h1,_⟩⟩:=eO hm
   ·exact h2
   ·rw [hl] at h1;cases h1
  ·exact hp (by omega))
 exact hp (List.getElem?_eq_some_iff.1 hc).1
theorem ym {t : Tr} {L : OL} (h : bq t=some L) {i : Nat} {j : Int} {c : Cel} {b : Bx} (hc : t.cells[i]?=some c) (hl : bM c=true) (hn : t.cells.length+2≤2048) (hb : L[i]?=some (some b)) (hh : aP b j=true) :
 bq (fl t i j c.v)=some (L++[some (bo b j),some (bp b j)]):=by
 have hsz:=jb h
 obtain ⟨z1,z2,z3,z4,z5⟩:=aY.1 hsz
 have hilt : i < t.cells.length:=(List.getElem?_eq_some_iff.1 hc).1
 have hlen:=jV t i j c.v
 have hf:=BM h hc hl
 generalize hT : fl t i j c.v=T at *
 have hTr : T.root=t.root:=by rw [← hT];rfl
 have hTc : ∀ k,k≠i→k < t.cells.length→T.cells[k]?=t.cells[k]?:=by
  intro k hk hlt
  rw [← hT];simp only [fl]
  rw [List.getElem?_append_left (by simpa using hlt),List.getElem?_set,if_neg (fun e=>hk e.symm)]
 have hTi : T.cells[i]?=some ⟨j,t.cells.length,t.cells.length+1,bz⟩:=by
  rw [← hT];simp only [fl]
  rw [List.getElem?_append_left (by simpa using hilt),List.getElem?_set,if_pos rfl,if_pos hilt]
 have hTs : dS T=true:=aY.2 ⟨by omega,by omega,by rw [hTr];omega,by rw [hTr];omega,by rw [hTr];exact z5⟩
 have hP:=ju (P:=fun k M=>BOk t k M∧if k≤i then iX (t.cells.length+2) (T.cells.drop k) k (M++[none,none])=bq T
  else ∃ d,M[i]?=some (some d)∧(aP d j=true→iX (t.cells.length+2) (T.cells.drop k) k (M++[some (bo d j),some (bp d j)])=bq T)) h (by
  refine ⟨oR hsz,?_⟩
  simp only [Nat.zero_le,if_true]
  rw [bq,if_pos hTs,hlen,List.drop_zero]
  congr 1
  simp only [fT,hTr,hlen,List.cons_append]
  rw [show t.cells.length+2 - 1=(t.cells.length - 1)+2 by omega,← List.replicate_append_replicate];rfl) (by
  intro k e M M' hk hp hm
  obtain ⟨hbo,hp⟩:=hp
  refine ⟨oS hbo hm,?_⟩
  have hklt : k < t.cells.length:=(List.getElem?_eq_some_iff.1 hk).1
  rcases Nat.lt_trichotomy k i with hki|hki|hki
  ·rw [if_pos (by omega)] at hp ⊢
   rw [← hp]
   exact (kR (by rw [hTc k (by omega) hklt];exact hk) (vo (k:=2) (S:=[none,none]) hbo.len rfl hm)).symm
  ·subst hki
   rw [hc] at hk;injection hk with hk;subst hk
   rw [if_pos (Nat.le_refl _)] at hp
   rw [if_neg (by omega)]
   obtain ⟨d,hd,⟨_,_,rfl⟩|⟨h1,_⟩⟩:=eO hm
   ·refine ⟨d,hd,fun hok=>?_⟩
    rw [← hp]
    refine (kR hTi ?_).symm
    have e1 : (M'++[none,none])[k]?=some (some d):=by rw [List.getElem?_append_left (by rw [hbo.len];exact hilt)];exact hd
    have hi' : fS (t.cells.length+2) k ⟨j,t.cells.length,t.cells.length+1,bz⟩=true:=eP.2 ⟨by simp only;omega,by simp only;omega,by simp only;omega,by simp only;omega,by simp only;omega,As⟩
    have t1 : ((t.cells.length : Int)).toNat=M'.length:=by rw [hbo.len];omega
    have t2 : ((t.cells.length : Int)+1).toNat=M'.length+1:=by rw [hbo.len];omega
    rw [lu e1 (by simp [bM]) hi' hok (by simp only;rw [t1];simp) (by simp only;rw [t2];simp)]
    simp only [t1,t2]
    congr 1
    rw [List.set_append_right _ _ (by omega),List.set_append_right _ _ (by omega)]
    simp
   ·rw [hl] at h1;cases h1
  ·rw [if_neg (by omega)] at hp ⊢
   obtain ⟨d,hd,hp⟩:=hp
   refine ⟨d,Au hm hd,fun hok=>?_⟩
   rw [← hp hok]
   exact (kR (by rw [hTc k (by omega) hklt];exact hk) (vo (k:=2) (S:=[some (bo d j),some (bp d j)]) hbo.len rfl hm)).symm)
 obtain ⟨hbo,hP⟩:=hP
 rw [if_neg (by omega)] at hP
 obtain ⟨d,hd,hP⟩:=hP
 rw [hb] at hd;injection hd with hd;injection hd with hd;subst hd
 rw [← hP hh]
 have hdrop : T.cells.drop t.cells.length=[bh c.v,bh c.v]:=by
  rw [← hT];simp only [fl]
  rw [List.drop_append_of_le_length (by simp),List.drop_eq_nil_of_le (by simp)];rfl
 rw [hdrop]
 have e1 : (L++[some (bo b j),some (bp b j)])[t.cells.length]?=some (some (bo b j)):=by rw [← hbo.len];simp
 have e2 : (L++[some (bo b j),some (bp b j)])[t.cells.length+1]?=some (some (bp b j)):=by rw [← hbo.len];simp
 simp only [iX]
 rw [gt (t:=t) e1 (iP _),if_pos (show bX (bh c.v).v=true from hf)]
 simp only
 rw [gt (t:=t) e2 (iP _),if_pos (show bX (bh c.v).v=true from hf)]
def dD (t : Tr) (i : Nat) (v : Verd) : Tr:=⟨t.root,t.cells.set i (bh v)⟩
theorem xD {t : Tr} {L : OL} (h : bq t=some L) {i : Nat} {c : Cel} {v : Verd} (hc : t.cells[i]?=some c) (hl : bM c=true) (hf : bX v=true) : bq (dD t i v)=some L:=by
 have hsz:=jb h
 have hilt : i < t.cells.length:=(List.getElem?_eq_some_iff.1 hc).1
 have hlen : (dD t i v).cells.length=t.cells.length:=by simp [dD]
 generalize hT : dD t i v=T at *
 have hTr : T.root=t.root:=by rw [← hT];rfl
 have hTs : dS T=true:=by
  obtain ⟨z1,z2,z3,z4,z5⟩:=aY.1 hsz
  exact aY.2 ⟨by omega,by omega,by rw [hTr];omega,by rw [hTr];omega,by rw [hTr];exact z5⟩
 have hP:=ju (P:=fun k M=>iX t.cells.length (T.cells.drop k) k M=bq T) h (by
  rw [bq,if_pos hTs,hlen,List.drop_zero]
  congr 1
  simp only [fT,hTr,hlen]) (by
  intro k e M M' hk hp hm
  rw [← hp]
  by_cases hki : k=i
  ·subst hki
   rw [hc] at hk;injection hk with hk;subst hk
   obtain ⟨d,hd,⟨_,_,rfl⟩|⟨h1,_⟩⟩:=eO hm
   ·refine (kR (c:=bh v) (by rw [← hT];simp [dD,hilt]) ?_).symm
    rw [gt (t:=t) hd (iP _),if_pos (show bX (bh v).v=true from hf)]
   ·rw [hl] at h1;cases h1
  ·refine (kR ?_ hm).symm
   rw [← hT];simp only [dD]
   rw [List.getElem?_set,if_neg (fun e=>hki e.symm)];exact hk)
 rw [← hP,List.drop_eq_nil_of_le (by omega)]
 rfl
def cZ (t : Tr) (i : Nat) : Bool:=match t.cells[i]? with
 |some c=>bM c
 |none=>false
def bF (t : Tr) (i j : Int) : Bool:=aB t && decide (0≤i) && decide (i < t.cells.length) && cZ t i.toNat && decide (t.cells.length+2≤2048) && aP ((af t)[i.toNat]?.getD []) j
def ed (t : Tr) (i : Nat) : Verd:=match t.cells[i]? with
 |some c=>c.v
 |none=>bz
def br (t : Tr) (i j : Int) : Tr:=if bF t i j then fl t i.toNat j (ed t i.toNat) else t
def bv (t : Tr) (i : Int) (v : Verd) : Bool:=aB t && decide (0≤i) && decide (i < t.cells.length) && cZ t i.toNat && decide ((ed t i.toNat).kind=0) && bX v
def dh (t : Tr) (i : Int) (v : Verd) : Tr:=if bv t i v then dD t i.toNat v else t
theorem vp {t : Tr} {i : Nat} (h : cZ t i=true) : ∃ c,t.cells[i]?=some c∧bM c=true∧ed t i=c.v:=by
 unfold cZ at h
 split at h
 ·rename_i c hc
  exact ⟨c,hc,h,by simp [ed,hc]⟩
 ·cases h
theorem yn {t : Tr} (h : aB t=true) (i j : Int) : aB (br t i j)=true∧(br t i j).root=t.root∧(br t i j).cells.length≤t.cells.length+2:=by
 unfold br
 split
 ·rename_i hs
  simp only [bF,Bool.and_eq_true,decide_eq_true_eq] at hs
  obtain ⟨⟨⟨⟨⟨h1,h2⟩,h3⟩,h4⟩,h5⟩,h6⟩:=hs
  obtain ⟨L,hL⟩:=Option.isSome_iff_exists.1 h
  obtain ⟨c,hc,hl,hv⟩:=vp h4
  have hlt : i.toNat < t.cells.length:=by omega
  obtain ⟨b,hb⟩:=(mL hL).pre i.toNat hlt
  have hb' : (af t)[i.toNat]?=some b:=by
   have:=jU hL
   rw [this] at hb
   simpa using hb
  rw [hb'] at h6
  have:=ym hL hc hl h5 hb h6
  rw [hv]
  exact ⟨by rw [aB,this];rfl,rfl,by rw [jV];exact Nat.le_refl _⟩
 ·exact ⟨h,rfl,by omega⟩
theorem xE {t : Tr} (h : aB t=true) (i : Int) (v : Verd) : aB (dh t i v)=true∧(dh t i v).root=t.root∧(dh t i v).cells.length=t.cells.length∧af (dh t i v)=af t:=by
 unfold dh
 split
 ·rename_i hs
  simp only [bv,Bool.and_eq_true,decide_eq_true_eq] at hs
  obtain ⟨⟨⟨⟨⟨h1,h2⟩,h3⟩,h4⟩,h5⟩,h6⟩:=hs
  obtain ⟨L,hL⟩:=Option.isSome_iff_exists.1 h
  obtain ⟨c,hc,hl,hv⟩:=vp h4
  have:=xD hL hc hl h6
  exact ⟨by rw [aB,this];rfl,rfl,by simp [dD],by simp [af,this,hL]⟩
 ·exact ⟨h,rfl,rfl,rfl⟩
end Go.Ab
namespace Go.Ab
open Go.Proofs
def fo (r : List (Int × Int)) : Tr:=if cD r then ⟨r,[bh bz]⟩ else ⟨[],[]⟩
theorem BN {r : List (Int × Int)} (h : cD r=true) : bq ⟨r,[bh bz]⟩=some [some r]:=by
 have hs : dS ⟨r,[bh bz]⟩=true:=by simp [dS,h]
 rw [bq,if_pos hs]
 simp only [fT,List.length_singleton,Nat.sub_self,List.replicate,iX]
 rw [gt (t:=⟨r,[]⟩) (b:=r) rfl (iP _),if_pos (show bX (bh bz).v=true from At)]
theorem EP {r : List (Int × Int)} (h : cD r=false) : bq ⟨r,[bh bz]⟩=none:=by
 have hs : dS ⟨r,[bh bz]⟩=false:=by simp [dS,h]
 rw [bq,if_neg (by simp [hs])]
theorem vq (r : List (Int × Int)) : aB ⟨r,[bh bz]⟩=cD r:=by
 cases h : cD r with
 |true=>rw [aB,BN h];rfl
 |false=>rw [aB,EP h];rfl
end Go.Ab
namespace Go.Ab
open Go.Proofs
theorem sg {α β : Type} {f : α→β→Bool} {xs : List α} {ys : List β} : bZ f xs ys=true↔∀ (i : Nat) x y,xs[i]?=some x→ys[i]?=some y→f x y=true:=by
 unfold bZ
 rw [List.all_eq_true]
 constructor
 ·intro h i x y hx hy
  have : (List.zipWith f xs ys)[i]?=some (f x y):=by simp [List.getElem?_zipWith,hx,hy]
  exact h _ (List.mem_of_getElem? this)
 ·intro h z hz
  obtain ⟨i,hi⟩:=List.getElem?_of_mem hz
  rw [List.getElem?_zipWith] at hi
  cases hx : xs[i]? with
  |none=>simp [hx] at hi
  |some x=>
   cases hy : ys[i]? with
   |none=>simp [hx,hy] at hi
   |some y=>
    simp [hx,hy] at hi
    rw [← hi];exact h i x y hx hy
theorem kS {a b : Bx} (ha : aD vI a=true) (hb : aD vI b=true) : bj a b=true↔a.length=b.length∧∀ (i : Nat) x y,a[i]?=some x→b[i]?=some y→x.1≤y.2∧y.1≤x.2:=by
 simp only [bj,Bool.and_eq_true,decide_eq_true_eq,sg]
 constructor
 ·rintro ⟨h1,h2⟩
  refine ⟨h1,fun i x y hx hy=>?_⟩
  have:=h2 i x y hx hy
  simp only [dG,Bool.and_eq_true,decide_eq_true_eq] at this
  omega
 ·rintro ⟨h1,h2⟩
  refine ⟨h1,fun i x y hx hy=>?_⟩
  have vx : am x.1 x.2=true:=bO.1 ha _ (List.mem_of_getElem? hx)
  have vy : am y.1 y.2=true:=bO.1 hb _ (List.mem_of_getElem? hy)
  simp only [dG,vx,vy,Bool.and_eq_true,decide_eq_true_eq,true_and]
  have:=h2 i x y hx hy
  have:=bN.1 vx
  have:=bN.1 vy
  omega
theorem iB {a b : Bx} (h : bj a b=true) : a.length=b.length∧aD vI a=true∧aD vI b=true:=by
 simp only [bj,Bool.and_eq_true,decide_eq_true_eq,sg] at h
 obtain ⟨h1,h2⟩:=h
 refine ⟨h1,bO.2 fun x hx=>?_,bO.2 fun y hy=>?_⟩
 ·obtain ⟨i,hi⟩:=List.getElem?_of_mem hx
  have hlt:=(List.getElem?_eq_some_iff.1 hi).1
  have:=h2 i x (b[i]'(by omega)) hi (List.getElem?_eq_getElem _)
  simp only [dG,Bool.and_eq_true] at this
  exact this.1.1
 ·obtain ⟨i,hi⟩:=List.getElem?_of_mem hy
  have hlt:=(List.getElem?_eq_some_iff.1 hi).1
  have:=h2 i (a[i]'(by omega)) y (List.getElem?_eq_getElem _) hi
  simp only [dG,Bool.and_eq_true] at this
  exact this.1.2
def qq (x y : Int × Int) : Int × Int:=(max x.1 y.1,min x.2 y.2)
def cL (a b : Bx) : Bx:=List.zipWith qq a b
def cH (a b : Bx) (q : List Int) : Bool:=bj a b && decide (q.length=a.length)
def eX (a b : Bx) (q : List Int) : List Int:=if cH a b q then fc (cL a b) q else []
theorem lw {a b : Bx} (h : a.length=b.length) : (cL a b).length=a.length:=by simp [cL];omega
theorem Av {a b : Bx} {i : Nat} {z : Int × Int} (h : (cL a b)[i]?=some z) : ∃ x y,a[i]?=some x∧b[i]?=some y∧z=qq x y:=by
 rw [cL,List.getElem?_zipWith] at h
 cases hx : a[i]? with
 |none=>simp [hx] at h
 |some x=>
  cases hy : b[i]? with
  |none=>simp [hx,hy] at h
  |some y=>simp [hx,hy] at h;exact ⟨x,y,rfl,rfl,h.symm⟩
theorem xF {a b : Bx} (h : bj a b=true) : aD vI (cL a b)=true:=by
 obtain ⟨h1,ha,hb⟩:=iB h
 have ht:=(kS ha hb).1 h
 refine bO.2 fun z hz=>?_
 obtain ⟨i,hi⟩:=List.getElem?_of_mem hz
 obtain ⟨x,y,hx,hy,rfl⟩:=Av hi
 have vx:=bN.1 (bO.1 ha _ (List.mem_of_getElem? hx))
 have vy:=bN.1 (bO.1 hb _ (List.mem_of_getElem? hy))
 have:=ht.2 i x y hx hy
 exact bN.2 ⟨by simp only [qq];omega,by simp only [qq];omega,by simp only [qq];omega⟩
theorem BO {a b : Bx} {q : List Int} (h : bj a b=true) (hq : q.length=a.length) : eX a b q=List.zipWith i7 (cL a b) q:=by
 obtain ⟨h1,ha,hb⟩:=iB h
 simp [eX,cH,h,hq,fc,xF h,lw h1]
theorem Aw {a b : Bx} {q : List Int} (h : bj a b=true) (hq : q.length=a.length) : (eX a b q).length=a.length:=by
 rw [BO h hq];simp [lw (iB h).1,hq]
end Go.Ab
namespace Go.Ab
open Go.Proofs
theorem Dm {t : Tr} (hv : aB t=true) {i : Nat} {c : Cel} (hc : t.cells[i]?=some c) : (c.low==-1)=bM c∧(bM c=false→fS t.cells.length i c=true):=by
 obtain ⟨L,hL⟩:=Option.isSome_iff_exists.1 hv
 have hp:=ju (P:=fun k _=>i < k→(c.low==-1)=bM c∧(bM c=false→fS t.cells.length i c=true)) hL (by intro h;omega) (fun k d M M' hk hp hm hi=>by
  by_cases e : k=i
  ·subst e
   rw [hc] at hk;injection hk with hk;subst hk
   obtain ⟨b,hb,⟨h1,_,_⟩|⟨h1,h2,_⟩⟩:=eO hm
   ·refine ⟨?_,fun h=>by rw [h1] at h;cases h⟩
    rw [h1];simp [bM] at h1;simp [h1]
   ·refine ⟨?_,fun _=>h2⟩
    rw [h1]
    have:=eP.1 h2
    simp;omega
  ·exact hp (by omega))
 exact hp (List.getElem?_eq_some_iff.1 hc).1
def aq (t : Tr) (c : Int) : Bx:=(af t)[c.toNat]?.getD []
theorem dy {t : Tr} (hv : aB t=true) {c : Int} (h : c.toNat < t.cells.length) : (af t)[c.toNat]?=some (aq t c)∧(aq t c).length=t.root.length∧aD vI (aq t c)=true:=by
 have hl : c.toNat < (af t).length:=by rw [bS hv];exact h
 have e : (af t)[c.toNat]?=some (aq t c):=by simp [aq,List.getElem?_eq_getElem hl]
 exact ⟨e,dC e⟩
def iC (t : Tr) (chain : List Int) (j : Nat) : Bool:=match chain[j]? with
 |some c=>decide (0≤c) && decide (c < t.cells.length) && cZ t c.toNat && !((chain.take j).contains c) && (decide (j=0) || bj (aq t (chain[j - 1]?.getD 0)) (aq t c))
 |none=>false
def nM (t : Tr) (chain : List Int) (n : Nat) : Bool:=(List.range n).all (iC t chain)
theorem xH (t : Tr) (chain : List Int) : nM t chain 0=true:=by simp [nM]
theorem kn {t : Tr} {chain : List Int} {n : Nat} : nM t chain n=true↔∀ j,j < n→iC t chain j=true:=by
 simp [nM,List.all_eq_true]
theorem oT {t : Tr} {chain : List Int} {n : Nat} (h : nM t chain n=true) (hs : iC t chain n=true) : nM t chain (n+1)=true:=by
 rw [kn] at h ⊢
 intro j hj
 by_cases e : j=n
 ·rw [e];exact hs
 ·exact h j (by omega)
theorem vr {t : Tr} {chain : List Int} {j : Nat} (hj : j < chain.length) (hs : iC t chain j=false) : nM t chain chain.length=false:=by
 cases h : nM t chain chain.length with
 |false=>rfl
 |true=>rw [kn.1 h j hj] at hs;cases hs
theorem ej {t : Tr} {chain : List Int} {j : Nat} {c : Int} (hc : chain[j]?=some c) : iC t chain j=true↔0≤c∧c < t.cells.length∧cZ t c.toNat=true∧c ∉ chain.take j∧(j=0∨bj (aq t (chain[j - 1]?.getD 0)) (aq t c)=true):=by
 simp [iC,hc,and_assoc]
def fU (t : Tr) (chain p q : List Int) : Bool:=aB t && cI t.root p && cI t.root q && decide (chain≠[]) && nM t chain chain.length
def qu (t : Tr) (chain p q : List Int) : Bool:=cI (aq t (chain[0]?.getD 0)) p && cI (aq t (chain[chain.length - 1]?.getD 0)) q
def bk (t : Tr) (chain p q : List Int) : Bool:=fU t chain p q && qu t chain p q
def nN (t : Tr) (chain p : List Int) : Nat→List Int
 |0=>p
 |k+1=>eX (aq t (chain[k]?.getD 0)) (aq t (chain[k+1]?.getD 0)) (nN t chain p k)
def dM (t : Tr) (chain p q : List Int) : List (List Int):=if bk t chain p q then (List.range chain.length).map (nN t chain p)++[q] else []
structure ChOk (t : Tr) (chain p q : List Int) : Prop where
 valid : aB t=true
 hp : cI t.root p=true
 hq : cI t.root q=true
 ne : chain≠[]
 all : ∀ j,j < chain.length→iC t chain j=true
theorem iD {t : Tr} {chain p q : List Int} : fU t chain p q=true↔ChOk t chain p q:=by
 simp only [fU,Bool.and_eq_true,decide_eq_true_eq,kn]
 exact ⟨fun ⟨⟨⟨⟨a,b⟩,c⟩,d⟩,e⟩=>⟨a,b,c,d,e⟩,fun ⟨a,b,c,d,e⟩=>⟨⟨⟨⟨a,b⟩,c⟩,d⟩,e⟩⟩
namespace ChOk
variable {t : Tr} {chain p q : List Int}
theorem get (h : ChOk t chain p q) {j : Nat} (hj : j < chain.length) : 0≤chain[j]∧chain[j] < t.cells.length∧cZ t chain[j].toNat=true∧chain[j] ∉ chain.take j∧(j=0∨bj (aq t (chain[j - 1]?.getD 0)) (aq t chain[j])=true):=
 (ej (List.getElem?_eq_getElem hj)).1 (h.all j hj)
theorem box (h : ChOk t chain p q) {j : Nat} (hj : j < chain.length) : (af t)[chain[j].toNat]?=some (aq t chain[j])∧(aq t chain[j]).length=t.root.length∧aD vI (aq t chain[j])=true:=by
 have:=h.get hj
 exact dy h.valid (by omega)
theorem touch (h : ChOk t chain p q) {j : Nat} (hj : j+1 < chain.length) : bj (aq t chain[j]) (aq t chain[j+1])=true:=by
 have:=(h.get hj).2.2.2.2
 rcases this with e|e
 ·omega
 ·rw [Nat.add_sub_cancel,List.getElem?_eq_getElem (by omega)] at e;exact e
theorem plen (h : ChOk t chain p q) : p.length=t.root.length:=by
 have:=h.hp
 simp only [cI,Bool.and_eq_true,decide_eq_true_eq] at this
 exact this.1.symm
theorem pt_len (h : ChOk t chain p q) : ∀ {k : Nat},k < chain.length→(nN t chain p k).length=t.root.length
 |0,_=>h.plen
 |k+1,hk=>by
  have ih:=pt_len h (k:=k) (by omega)
  simp only [nN]
  rw [List.getElem?_eq_getElem (by omega : k < chain.length),List.getElem?_eq_getElem hk]
  simp only [Option.getD_some]
  rw [Aw (h.touch hk) (by rw [ih,(h.box (by omega)).2.1])]
  exact (h.box (by omega)).2.1
theorem pt_ok (h : ChOk t chain p q) {k : Nat} (hk : k+1 < chain.length) : cH (aq t chain[k]) (aq t chain[k+1]) (nN t chain p k)=true:=by
 simp [cH,h.touch hk,h.pt_len (by omega : k < chain.length),(h.box (by omega : k < chain.length)).2.1]
theorem pt_succ (h : ChOk t chain p q) {k : Nat} (hk : k+1 < chain.length) : nN t chain p (k+1)=eX (aq t chain[k]) (aq t chain[k+1]) (nN t chain p k):=by
 simp only [nN]
 rw [List.getElem?_eq_getElem (by omega : k < chain.length),List.getElem?_eq_getElem hk]
 rfl
end ChOk
end Go.Ab
namespace Go.Ab
open Go.Proofs
structure BS where
 far : List Int
 q : List Nat
section
variable (n : Nat) (may has hasF : Nat→Bool) (tch : Nat→Nat→Bool)
def bf (far : List Int) (i : Nat) : Int:=far[i]?.getD 0
def bI : Nat→BS
 |0=>⟨List.replicate n 0,[]⟩
 |i+1=>if may i && has i then ⟨(bI i).far.set i 1,(bI i).q++[i]⟩ else bI i
def jv (s : BS) (k : Nat) : Nat:=s.q[k]?.getD 0
def DZ (s : BS) (k i : Nat) : Bool:=(bf s.far i==0) && may i && tch i (jv s k)
def BP (s : BS) (k i : Nat) : BS:=⟨s.far.set i (bf s.far (jv s k)+1),s.q++[i]⟩
def bJ (s : BS) (k : Nat) : Nat→BS
 |0=>s
 |i+1=>if DZ may tch (bJ s k i) k i then BP (bJ s k i) k i else bJ s k i
def bK : Nat→BS
 |0=>bI n may has n
 |k+1=>if k < (bK k).q.length then bJ may tch (bK k) k n else bK k
structure BInv2 (s : BS) : Prop where
 len : s.far.length=n
 cnt : s.far.countP (fun x=>x !=0)=s.q.length
 mem : ∀ j ∈ s.q,j < n∧1≤bf s.far j
 nn : ∀ i,0≤bf s.far i
 top : ∀ i,bf s.far i≤s.q.length
 may' : ∀ i,1≤bf s.far i→may i=true
 back : ∀ i,1≤bf s.far i→(bf s.far i=1∧has i=true)∨∃ p,p < n∧bf s.far p=bf s.far i - 1∧1≤bf s.far p∧tch i p=true
variable {n may has hasF tch}
theorem lF {far : List Int} {i j : Nat} {v : Int} (hi : i < far.length) : bf (far.set i v) j=if j=i then v else bf far j:=by
 unfold bf
 rw [List.getElem?_set]
 by_cases h : i=j
 ·subst h;simp [hi]
 ·rw [if_neg h,if_neg (fun e=>h e.symm)]
theorem BInv2.le {s : BS} (h : BInv2 n may has tch s) : s.q.length≤n:=by
 rw [← h.cnt,← h.len];exact List.countP_le_length
theorem EQ {far : List Int} {i : Nat} {v : Int} (hi : i < far.length) (h0 : bf far i=0) (hv : v≠0) : (far.set i v).countP (fun x=>x !=0)=far.countP (fun x=>x !=0)+1:=by
 have h0' : far[i]=0:=by simpa [bf,List.getElem?_eq_getElem hi] using h0
 rw [List.countP_set hi]
 simp [h0',hv]
theorem BInv2.put {s : BS} (h : BInv2 n may has tch s) {i : Nat} {v : Int} (hi : i < n) (h0 : bf s.far i=0) (hv : 1≤v) (hm : may i=true) (ht : v≤s.q.length+1)
 (hb : (v=1∧has i=true)∨∃ p,p < n∧bf s.far p=v - 1∧1≤bf s.far p∧tch i p=true) : BInv2 n may has tch ⟨s.far.set i v,s.q++[i]⟩:=by
 have hil : i < s.far.length:=by rw [h.len];exact hi
 refine ⟨by simpa using h.len,?_,?_,?_,?_,?_,?_⟩
 ·simp only [List.length_append,List.length_singleton];rw [EQ hil h0 (by omega),h.cnt]
 ·intro j hj
  simp only [List.mem_append,List.mem_singleton] at hj
  simp only [lF hil]
  rcases hj with hj|rfl
  ·refine ⟨(h.mem j hj).1,?_⟩
   split
   ·exact hv
   ·exact (h.mem j hj).2
  ·exact ⟨hi,by simp [hv]⟩
 ·intro j;simp only [lF hil];split
  ·omega
  ·exact h.nn j
 ·intro j;simp only [lF hil,List.length_append,List.length_singleton]
  have:=h.top j
  split<;>omega
 ·intro j;simp only [lF hil];split
  ·rename_i e;rw [e];exact fun _=>hm
  ·exact h.may' j
 ·have hpn : ∀ p,1≤bf s.far p→p≠i:=fun p hp e=>by rw [e,h0] at hp;omega
  intro j;simp only [lF hil];split
  ·rename_i e;rw [e];intro _
   rcases hb with hb|⟨p,p1,p2,p3,p4⟩
   ·exact .inl hb
   ·exact .inr ⟨p,p1,by rw [if_neg (hpn p p3)];exact p2,by rw [if_neg (hpn p p3)];exact p3,p4⟩
  ·intro hj
   rcases h.back j hj with hb|⟨p,p1,p2,p3,p4⟩
   ·exact .inl hb
   ·exact .inr ⟨p,p1,by rw [if_neg (hpn p p3)];exact p2,by rw [if_neg (hpn p p3)];exact p3,p4⟩
theorem xI : ∀ i,i≤n→BInv2 n may has tch (bI n may has i)∧∀ j,i≤j→bf (bI n may has i).far j=0
 |0,_=>by
  have hz : ∀ j,bf (List.replicate n (0 : Int)) j=0:=fun j=>by simp only [bf,List.getElem?_replicate];split<;>rfl
  refine ⟨⟨by simp [bI],by simp [bI,List.countP_replicate],by simp [bI],fun j=>by simp only [bI,hz];omega,fun j=>by simp only [bI,hz];simp,fun j hj=>by simp only [bI,hz] at hj;omega,fun j hj=>by simp only [bI,hz] at hj;omega⟩,fun j _=>by simp only [bI,hz]⟩
 |i+1,hi=>by
  obtain ⟨ih,iz⟩:=xI i (by omega)
  simp only [bI]
  split
  ·rename_i hc
   simp only [Bool.and_eq_true] at hc
   refine ⟨ih.put (by omega) (iz i (Nat.le_refl _)) (by omega) hc.1 (by omega) (.inl ⟨rfl,hc.2⟩),fun j hj=>?_⟩
   simp only [lF (show i < (bI n may has i).far.length by rw [ih.len];omega)]
   rw [if_neg (by omega)];exact iz j (by omega)
  ·exact ⟨ih,fun j hj=>iz j (by omega)⟩
theorem xJ {s : BS} {k : Nat} (hs : BInv2 n may has tch s) (hk : k < s.q.length) : ∀ i,i≤n→BInv2 n may has tch (bJ may tch s k i)∧s.q.length≤(bJ may tch s k i).q.length∧jv (bJ may tch s k i) k=jv s k
 |0,_=>⟨hs,Nat.le_refl _,rfl⟩
 |i+1,hi=>by
  obtain ⟨ih,il,iq⟩:=xJ hs hk i (by omega)
  simp only [bJ]
  split
  ·rename_i hc
   simp only [DZ,Bool.and_eq_true,beq_iff_eq] at hc
   have hmem : jv (bJ may tch s k i) k ∈ (bJ may tch s k i).q:=by
    unfold jv
    rw [List.getElem?_eq_getElem (by omega : k < (bJ may tch s k i).q.length)]
    exact List.getElem_mem _
   have hq:=ih.mem _ hmem
   refine ⟨ih.put (by omega) hc.1.1 (by omega) hc.1.2 (by have:=ih.top (jv (bJ may tch s k i) k);omega) (.inr ⟨_,hq.1,by omega,hq.2,hc.2⟩),by simp only [BP,List.length_append,List.length_singleton];omega,?_⟩
   rw [← iq]
   simp only [BP,jv]
   rw [List.getElem?_append_left (by omega)]
  ·exact ⟨ih,il,iq⟩
theorem xL : ∀ k,BInv2 n may has tch (bK n may has tch k)
 |0=>(xI n (Nat.le_refl _)).1
 |k+1=>by
  have ih:=xL k
  simp only [bK]
  split
  ·rename_i hk
   exact (xJ ih hk n (Nat.le_refl _)).1
  ·exact ih
theorem zb {k : Nat} (h : ¬ k < (bK n may has tch k).q.length) : ∀ m,bK n may has tch (k+m)=bK n may has tch k
 |0=>rfl
 |m+1=>by
  have ih:=zb h m
  rw [← Nat.add_assoc]
  simp only [bK]
  rw [ih,if_neg (by omega)]
def aS (far : List Int) (hasF : Nat→Bool) : Nat→Int
 |0=>-1
 |i+1=>if decide (0 < bf far i) && hasF i && (decide (aS far hasF i < 0) || decide (bf far i < bf far (aS far hasF i).toNat)) then (i : Int) else aS far hasF i
theorem xM {far : List Int} : ∀ i,-1≤aS far hasF i∧aS far hasF i < i∧(0≤aS far hasF i→0 < bf far (aS far hasF i).toNat∧hasF (aS far hasF i).toNat=true)
 |0=>by simp [aS]
 |i+1=>by
  have ih:=xM (far:=far) i
  simp only [aS]
  split
  ·rename_i hc
   simp only [Bool.and_eq_true,decide_eq_true_eq] at hc
   refine ⟨by omega,by omega,fun _=>?_⟩
   rw [Int.toNat_natCast];exact ⟨hc.1.1,hc.1.2⟩
  ·exact ⟨ih.1,by omega,ih.2.2⟩
def nC (far : List Int) (tch : Nat→Nat→Bool) (at_ i : Nat) : Bool:=(bf far i==bf far at_ - 1) && tch i at_
def nS (n : Nat) (far : List Int) (tch : Nat→Nat→Bool) (at_ : Nat) : Nat→Int
 |0=>-1
 |m+1=>if nC far tch at_ (n - 1 - m) then ((n - 1 - m : Nat) : Int) else nS n far tch at_ m
theorem BQ {far : List Int} {at_ : Nat} : ∀ m,m≤n→(0≤nS n far tch at_ m→(nS n far tch at_ m).toNat < n∧nC far tch at_ (nS n far tch at_ m).toNat=true)∧(∀ i,i < n→n - m≤i→nC far tch at_ i=true→0≤nS n far tch at_ m)∧-1≤nS n far tch at_ m
 |0,_=>by simp [nS];omega
 |m+1,hm=>by
  have ih:=BQ (far:=far) (at_:=at_) m (by omega)
  simp only [nS]
  split
  ·rename_i hc
   refine ⟨fun _=>?_,fun _ _ _ _=>by omega,by omega⟩
   rw [Int.toNat_natCast];exact ⟨by omega,hc⟩
  ·rename_i hc
   refine ⟨ih.1,fun i h1 h2 h3=>?_,ih.2.2⟩
   by_cases e : i=n - 1 - m
   ·rw [e] at h3;exact absurd h3 hc
   ·exact ih.2.1 i h1 (by omega) h3
def xP (n : Nat) (far : List Int) (tch : Nat→Nat→Bool) (at_ : Nat) : Nat:=(nS n far tch at_ n).toNat
theorem xQ {s : BS} (h : BInv2 n may has tch s) (hsym : ∀ i j,i < n→j < n→tch i j=tch j i) {a : Nat} (hl : a < n) (ha : 1 < bf s.far a) : nS n s.far tch a n=(xP n s.far tch a : Int)∧xP n s.far tch a < n∧bf s.far (xP n s.far tch a)=bf s.far a - 1∧tch (xP n s.far tch a) a=true:=by
 have hr:=BQ (n:=n) (tch:=tch) (far:=s.far) (at_:=a) n (Nat.le_refl _)
 rcases h.back a (by omega) with ⟨e,_⟩|⟨p,p1,p2,p3,p4⟩
 ·omega
 ·have hp : nC s.far tch a p=true:=by
   simp only [nC,p2,beq_self_eq_true,Bool.true_and];rw [hsym p a p1 hl];exact p4
  have h0:=hr.2.1 p p1 (by omega) hp
  obtain ⟨h1,h2⟩:=hr.1 h0
  simp only [nC,Bool.and_eq_true,beq_iff_eq] at h2
  exact ⟨by unfold xP;omega,h1,h2.1,h2.2⟩
def pS (n : Nat) (far : List Int) (tch : Nat→Nat→Bool) (a : Nat) : Nat→Nat
 |0=>a
 |r+1=>xP n far tch (pS n far tch a r)
theorem vS {s : BS} (h : BInv2 n may has tch s) (hsym : ∀ i j,i < n→j < n→tch i j=tch j i) {a : Nat} (hl : a < n) (ha : 0 < bf s.far a) : ∀ r : Nat,(r : Int) < bf s.far a→pS n s.far tch a r < n∧bf s.far (pS n s.far tch a r)=bf s.far a - r
 |0,_=>⟨hl,by simp [pS]⟩
 |r+1,hr=>by
  obtain ⟨i1,i2⟩:=vS h hsym hl ha r (by omega)
  have:=xQ h hsym i1 (by omega)
  simp only [pS]
  exact ⟨this.2.1,by rw [this.2.2.1,i2];omega⟩
theorem Dn {s : BS} (h : BInv2 n may has tch s) (hsym : ∀ i j,i < n→j < n→tch i j=tch j i) {a : Nat} (hl : a < n) (ha : 0 < bf s.far a) {r : Nat} (hr : (r : Int)+1 < bf s.far a) : tch (pS n s.far tch a (r+1)) (pS n s.far tch a r)=true:=by
 obtain ⟨i1,i2⟩:=vS h hsym hl ha r (by omega)
 exact (xQ h hsym i1 (by omega)).2.2.2
end
def lx (n : Nat) (may has hasF : Nat→Bool) (tch : Nat→Nat→Bool) : Int:=aS (bK n may has tch n).far hasF n
def gl (n : Nat) (may has hasF : Nat→Bool) (tch : Nat→Nat→Bool) : Bool:=decide (0≤lx n may has hasF tch)
def gT (n : Nat) (may has hasF : Nat→Bool) (tch : Nat→Nat→Bool) : List Nat:=if gl n may has hasF tch then (List.range (bf (bK n may has tch n).far (lx n may has hasF tch).toNat).toNat).map (pS n (bK n may has tch n).far tch (lx n may has hasF tch).toNat) else []
theorem oU {n : Nat} {may has hasF : Nat→Bool} {tch : Nat→Nat→Bool} (hsym : ∀ i j,i < n→j < n→tch i j=tch j i) (h : gl n may has hasF tch=true) :
 let l:=gT n may has hasF tch
 0 < l.length∧l.length≤n∧(∀ (r : Nat) x,l[r]?=some x→x < n∧may x=true∧x ∉ l.take r)∧(∀ (r : Nat) x y,l[r]?=some x→l[r+1]?=some y→tch x y=true)∧
  (∀ x,l[0]?=some x→hasF x=true)∧(∀ x,l[l.length - 1]?=some x→has x=true):=by
 simp only [gl,decide_eq_true_eq] at h
 have hI:=xL (n:=n) (may:=may) (has:=has) (tch:=tch) n
 have ha:=xM (hasF:=hasF) (far:=(bK n may has tch n).far) n
 have h' : decide (0≤lx n may has hasF tch)=true:=by simpa using h
 simp only [gT,gl,h',if_true]
 unfold lx at h ⊢
 obtain ⟨a1,a2,a3⟩:=ha
 obtain ⟨a4,a5⟩:=a3 h
 generalize hA : (aS (bK n may has tch n).far hasF n).toNat=a at *
 have hl : a < n:=by omega
 have htop:=hI.top a
 have hle:=hI.le
 generalize bK n may has tch n=s at *
 have hp:=vS hI hsym hl a4
 have ht:=fun {r : Nat}=>Dn (r:=r) hI hsym hl a4
 have hget : ∀ (r : Nat) x,((List.range (bf s.far a).toNat).map (pS n s.far tch a))[r]?=some x→(r : Int) < bf s.far a∧x=pS n s.far tch a r:=by
  intro r x hx
  rw [List.getElem?_map,Option.map_eq_some_iff] at hx
  obtain ⟨y,hy,rfl⟩:=hx
  obtain ⟨h1,h2⟩:=List.getElem?_eq_some_iff.1 hy
  simp at h1 h2
  exact ⟨by omega,by rw [h2]⟩
 refine ⟨by simp;omega,by simp;omega,?_,?_,?_,?_⟩
 ·intro r x hx
  obtain ⟨h1,rfl⟩:=hget r x hx
  obtain ⟨h2,h3⟩:=hp r h1
  refine ⟨h2,hI.may' _ (by omega),fun hm=>?_⟩
  obtain ⟨q,hq⟩:=List.getElem?_of_mem hm
  rw [List.getElem?_take] at hq
  split at hq
  ·rename_i hqr
   obtain ⟨h4,h5⟩:=hget q _ hq
   have:=(hp q h4).2
   rw [← h5,h3] at this
   omega
  ·cases hq
 ·intro r x y hx hy
  obtain ⟨h1,rfl⟩:=hget r x hx
  obtain ⟨h2,rfl⟩:=hget (r+1) y hy
  rw [hsym _ _ (hp r h1).1 (hp (r+1) h2).1]
  exact ht (by omega)
 ·intro x hx
  obtain ⟨h1,rfl⟩:=hget 0 x hx
  exact a5
 ·intro x hx
  obtain ⟨h1,rfl⟩:=hget _ x hx
  simp only [List.length_map,List.length_range] at h1 hx ⊢
  obtain ⟨h2,h3⟩:=hp _ h1
  rcases hI.back _ (show 1≤bf s.far (pS n s.far tch a ((bf s.far a).toNat - 1)) by omega) with hb|⟨p,p1,p2,p3,p4⟩
  ·exact hb.2
  ·omega
end Go.Ab
namespace Go.Ab
open Go.Proofs
set_option maxRecDepth 100000 in
@[simp] theorem IH : er Tryz.prog 118:=by
 have hf:=Tryz.func118;have nt:=Tryz.ntmps118;have rs:=Tryz.results118;exact E2
set_option maxRecDepth 100000 in
@[simp] theorem I7 : er Tryz.prog 54:=by
 have hf:=Tryz.func54;have nt:=Tryz.ntmps54;have rs:=Tryz.results54;exact E2
set_option maxRecDepth 100000 in
@[simp] theorem I8 : er Tryz.prog 89:=by
 have hf:=Tryz.func89;have nt:=Tryz.ntmps89;have rs:=Tryz.results89;exact E3
set_option maxRecDepth 100000 in
@[simp] theorem I9 : er Tryz.prog 50:=by
 have hf:=Tryz.func50;have nt:=Tryz.ntmps50;have rs:=Tryz.results50;exact E3
end Go.Ab
namespace Go.Ab
open Go.Proofs
theorem EG {P : Program} (D : Nat) {t e : TypeId} (ht : P.underlying t=some (.array 3 e)) (hs : ag P (sizeOf e)=some 1) (e0 : ∀ x y : Int,ag P (Op.equalIn D e (.int .i64 x) (.int .i64 y))=some (x==y)) {xs ys : Array Value} {a b c a' b' c' : Int}
 (p0 : ag P (part e xs (0 * 1))=some (.int .i64 a)) (p1 : ag P (part e xs (1 * 1))=some (.int .i64 b)) (p2 : ag P (part e xs (2 * 1))=some (.int .i64 c))
 (q0 : ag P (part e ys (0 * 1))=some (.int .i64 a')) (q1 : ag P (part e ys (1 * 1))=some (.int .i64 b')) (q2 : ag P (part e ys (2 * 1))=some (.int .i64 c')) :
 ag P (Op.equalIn (D+1) t (.agg xs) (.agg ys))=some (a==a' && b==b' && c==c'):=by
 simp only [Op.equalIn,ae,fK ht,Option.bind_some]
 simp only [hs,Option.bind_some,Std.Legacy.Range.forIn_eq_forIn_range',Std.Legacy.Range.size]
 have hr : List.range' 0 ((3 - 0+1 - 1) / 1) 1=[0,1,2]:=by decide
 rw [hr]
 simp only [List.forIn_cons,List.forIn_nil,ae,p0,q0,e0,Option.bind_some]
 cases h1 : (a==a')
 ·simp [bu]
 simp only [Bool.not_true,Bool.false_eq_true,if_false,bu,Option.bind_some,ae,p1,q1,e0]
 cases h2 : (b==b')
 ·simp [bu]
 simp only [Bool.not_true,Bool.false_eq_true,if_false,bu,Option.bind_some,ae,p2,q2,e0]
 cases h3 : (c==c')
 ·simp [bu]
 ·simp [bu]
theorem Ao (a b e c d f : Int) : ag Tryz.prog (Op.equal 77 (.agg #[.int .i64 a,.int .i64 b,.int .i64 e]) (.agg #[.int .i64 c,.int .i64 d,.int .i64 f]))=some (a==c && b==d && e==f):=
 EG 9999 Tryz.underlying77 (by kernel_rfl) (fun x y=>pI (P:=Tryz.prog) 9998 2 .i64 .i64 x y Tryz.underlying2) (by kernel_rfl) (by kernel_rfl) (by kernel_rfl) (by kernel_rfl) (by kernel_rfl) (by kernel_rfl)
def mJ (x : AV) : Option (Int × Int × Int):=match x with
 |.pv (.val (.agg vs))=>match vs.toList with
  |[.int .i64 a,.int .i64 b,.int .i64 c]=>some (a,b,c)
  |_=>none
 |_=>none
theorem iN {x : AV} {a b c : Int} (h : mJ x=some (a,b,c)) : x=.pv (aH (a,b,c)):=by
 unfold mJ at h
 split at h
 ·split at h
  ·rename_i vs _ a' b' c' hv
   injection h with h;injection h with h1 h2;injection h2 with h2 h3;subst h1;subst h2;subst h3
   rw [← Array.toArray_toList (xs:=vs),hv]
  ·cases h
 ·cases h
def Dd (x y : AV) (fb : Option aT) : Option aT:=match mJ x,mJ y with
 |some (a,b,e),some (c,d,f)=>some (.pv (.val (.bool !(a==c && b==d && e==f))),[])
 |_,_=>fb
@[simp] theorem G8 (a b e c d f : Int) (fb : Option aT) : Dd (.pv (.val (.agg #[.int .i64 a,.int .i64 b,.int .i64 e]))) (.pv (.val (.agg #[.int .i64 c,.int .i64 d,.int .i64 f]))) fb=some (.pv (.val (.bool !(a==c && b==d && e==f))),[]):=rfl
@[simp] theorem JV {dst : Option Nat} {ty : TypeId} {pos : String} {aft : Array Edge} {g : Option (Nat × Bool)} {ρ : Operand→AV} (x y : Operand) :
 aG Tryz.prog ⟨dst,.binOp .neq 77 x y 77,ty,pos,aft,g⟩ ρ=Dd (ρ x) (ρ y) (dU Tryz.prog ⟨dst,.binOp .neq 77 x y 77,ty,pos,aft,g⟩ ρ):=by
 unfold Dd
 split
 ·rename_i a b e c d f hx hy
  exact sW rfl (iN hx) (iN hy) (by kernel_rfl) (Ao a b e c d f)
 ·rfl
def Ap (x y : AV) (fb : Option aT) : Option aT:=match mJ x,mJ y with
 |some (a,b,e),some (c,d,f)=>some (.pv (.val (.bool (a==c && b==d && e==f))),[])
 |_,_=>fb
end Go.Ab
namespace Go.Ab
open Go.Proofs
abbrev Iv:=Int × Int
def eI (a : Int) : Int:=min (max a (-2147483648)) 2147483648
def dY (a m : Int) : Int:=-((-a) / m)
theorem bE {a b : Int} (m n : Nat) (ha : -(m : Int)≤a) (ha' : a≤m) (hb : -(n : Int)≤b) (hb' : b≤n) : -((m * n : Nat) : Int)≤a * b∧a * b≤((m * n : Nat) : Int):=by
 have h1 : (a * b).natAbs≤m * n:=by
  rw [Int.natAbs_mul]
  exact Nat.mul_le_mul (by omega) (by omega)
 omega
def ay (x y : Iv) : Iv:=if am x.1 x.2 && am y.1 y.2 then (eI (x.1+y.1),eI (x.2+y.2)) else (0,0)
def jm (x : Iv) : Iv:=if am x.1 x.2 then (-x.2,-x.1) else (0,0)
def al (x y : Iv) : Iv:=if am x.1 x.2 && am y.1 y.2 then
 (eI (min (x.1 * y.1) (min (x.1 * y.2) (min (x.2 * y.1) (x.2 * y.2))) / 65536),eI (dY (max (x.1 * y.1) (max (x.1 * y.2) (max (x.2 * y.1) (x.2 * y.2)))) 65536)) else (0,0)
def rB (x : Int) : Iv:=(eI x,eI x)
theorem eo {a b : Int} : am a b=true↔-2147483648≤a∧a≤b∧b≤2147483648:=by
 simp only [am,Bool.and_eq_true,decide_eq_true_eq]
 constructor
 ·rintro ⟨⟨h1,h2⟩,h3⟩;exact ⟨h1,h2,h3⟩
 ·rintro ⟨h1,h2,h3⟩;exact ⟨⟨h1,h2⟩,h3⟩
@[simp] theorem Kh : IntKind.i64.wrap 1=1:=by decide
@[simp] theorem Ki : IntKind.i64.wrap 2=2:=by decide
@[simp] theorem Kj : IntKind.i64.wrap 3=3:=by decide
@[simp] theorem Kk : IntKind.i64.wrap 4=4:=by decide
end Go.Ab
namespace Go.Ab
open Go.Proofs
def eR (x : Int) : Nat→Int
 |0=>1073741824
 |1=>x * 6746518852 / 65536
 |k+2=>eR x (k+1) * (x * 6746518852 / 65536) / 1073741824
def eS (x : Int) : Nat→Int
 |0=>1073741824
 |1=>dY (x * 6746518853) 65536
 |k+2=>dY (eS x (k+1) * dY (x * 6746518853) 65536) 1073741824
theorem nE {x : Int} (h0 : 0≤x) (h1 : x≤8192) : ∀ k,0≤eR x k∧eR x k≤1073741824
 |0=>by simp [eR]
 |1=>by simp only [eR];omega
 |k+2=>by
  have h:=nE h0 h1 (k+1)
  have h2 : 0≤x * 6746518852 / 65536∧x * 6746518852 / 65536≤1073741824:=by omega
  simp only [eR]
  generalize x * 6746518852 / 65536=y at *
  have h3:=Int.mul_nonneg h.1 h2.1
  have h4:=Int.mul_le_mul h.2 h2.2 h2.1 (by decide : (0 : Int)≤1073741824)
  omega
theorem nF {x : Int} (h0 : 0≤x) (h1 : x≤8192) : ∀ k,0≤eS x k∧eS x k≤1073741824
 |0=>by simp [eS]
 |1=>by simp only [eS,dY];omega
 |k+2=>by
  have h:=nF h0 h1 (k+1)
  have h2 : 0≤dY (x * 6746518853) 65536∧dY (x * 6746518853) 65536≤1073741824:=by unfold dY;omega
  simp only [eS]
  generalize dY (x * 6746518853) 65536=y at *
  have h3:=Int.mul_nonneg h.1 h2.1
  have h4:=Int.mul_le_mul h.2 h2.2 h2.1 (by decide : (0 : Int)≤1073741824)
  unfold dY
  omega
theorem uj {x : Int} (h0 : 0≤x) (h1 : x≤8192) (j : Nat) : 0≤eR x j * eR x 1∧eR x j * eR x 1≤1152921504606846976:=by
 have h:=nE h0 h1 j
 have h2:=nE h0 h1 1
 have h3:=Int.mul_nonneg h.1 h2.1
 have h4:=Int.mul_le_mul h.2 h2.2 h2.1 (by decide : (0 : Int)≤1073741824)
 omega
theorem uk {x : Int} (h0 : 0≤x) (h1 : x≤8192) (j : Nat) : 0≤eS x j * eS x 1∧eS x j * eS x 1≤1152921504606846976:=by
 have h:=nF h0 h1 j
 have h2:=nF h0 h1 1
 have h3:=Int.mul_nonneg h.1 h2.1
 have h4:=Int.mul_le_mul h.2 h2.2 h2.1 (by decide : (0 : Int)≤1073741824)
 omega
def l9 (f : Nat→Int) (n : Nat) : List AV:=[.pv (Z (if 0 < n then f 0 else 0)),.pv (Z (if 1 < n then f 1 else 0)),.pv (Z (if 2 < n then f 2 else 0)),.pv (Z (if 3 < n then f 3 else 0)),.pv (Z (if 4 < n then f 4 else 0)),.pv (Z (if 5 < n then f 5 else 0)),
 .pv (Z (if 6 < n then f 6 else 0)),.pv (Z (if 7 < n then f 7 else 0)),.pv (Z (if 8 < n then f 8 else 0)),.pv (Z (if 9 < n then f 9 else 0)),.pv (Z (if 10 < n then f 10 else 0))]
abbrev DQ (f : Nat→Int) : PV:=.val (.agg #[.int .i64 (f 0),.int .i64 (f 1),.int .i64 (f 2),.int .i64 (f 3),.int .i64 (f 4),.int .i64 (f 5),.int .i64 (f 6),.int .i64 (f 7),.int .i64 (f 8),.int .i64 (f 9),.int .i64 (f 10)])
@[simp] theorem Km : IntKind.i64.wrap 5=5:=by decide
@[simp] theorem Kn : IntKind.i64.wrap 6=6:=by decide
@[simp] theorem Ko : IntKind.i64.wrap 7=7:=by decide
@[simp] theorem Kp : IntKind.i64.wrap 8=8:=by decide
@[simp] theorem Kq : IntKind.i64.wrap 9=9:=by decide
@[simp] theorem JD : IntKind.i64.wrap 10=10:=by decide
@[simp] theorem JE : IntKind.i64.wrap 11=11:=by decide
end Go.Ab
namespace Go.Ab
open Go.Proofs
def DR (i : Nat) : Int:=if i % 2=0 then 1 else -1
def xf (xs : List Int) : Nat→Int
 |0=>0
 |i+1=>xf xs i+DR i * (xs[i]?).getD 0
def jL (xs : List Int) : Int:=xf xs xs.length
def aE (n d : Int) : Int:=(n+d - 1) / d
def um (lo hi : Int) : Iv:=(max 0 (lo / 16384),min 65536 (dY hi 16384))
def zU (f g : Nat→Int) : List Int:=[f 1,aE (g 3) 6,f 5 / 120,aE (g 7) 5040]
def zV (f g : Nat→Int) : List Int:=[g 1,f 3 / 6,aE (g 5) 120,f 7 / 5040,aE (g 9) 362880]
def CP (f g : Nat→Int) : List Int:=[1073741824,aE (g 2) 2,f 4 / 24,aE (g 6) 720,f 8 / 40320,aE (g 10) 3628800]
def CQ (f g : Nat→Int) : List Int:=[1073741824,f 2 / 2,aE (g 4) 24,f 6 / 720,aE (g 8) 40320]
def vP (x : Int) : Iv:=um (jL (zU (eR x) (eS x))) (jL (zV (eR x) (eS x)))
def zW (x : Int) : Iv:=um (jL (CP (eR x) (eS x))) (jL (CQ (eR x) (eS x)))
theorem gB {n d : Int} (h0 : 0≤n) (h1 : n≤1073741824) (hd : 1≤d) (hd' : d≤4000000) : 0≤aE n d∧aE n d≤1099511627776:=by
 unfold aE
 have hq1 : 0≤(n+d - 1) / d:=Int.ediv_nonneg (by omega) (by omega)
 have hq2 : (n+d - 1) / d≤n+d - 1:=Int.ediv_le_self _ (by omega)
 omega
theorem xg {f : Nat→Int} (hf : ∀ j,0≤f j∧f j≤1073741824) (j : Nat) {d : Int} (hd : 0 < d) : 0≤f j / d∧f j / d≤1073741824:=by
 have h:=hf j
 have hq1 : 0≤f j / d:=Int.ediv_nonneg (by omega) (by omega)
 have hq2 : f j / d≤f j:=Int.ediv_le_self _ (by omega)
 omega
def iu (r : Int) : Iv:=if r≤8192 then vP r else zW (16384 - r)
def CR (m : Int) : Iv:=if m / 16384=0 then iu (m % 16384) else if m / 16384=1 then iu (16384 - m % 16384) else if m / 16384=2 then jm (iu (m % 16384)) else jm (iu (16384 - m % 16384))
def oH (a : Int) : Iv:=CR (a % 65536)
def r5 (a : Int) : Iv:=oH (a % 65536+16384)
def tr (a : Iv) (t : Int) : Bool:=am a.1 a.2 && decide (a.1≤a.1+(t - a.1) % 65536) && decide (a.1+(t - a.1) % 65536≤a.2)
def jM (a : Iv) (v : Int→Iv) (t b : Int) : Iv:=if am a.1 a.2=false then (0,0) else if 65536≤a.2 - a.1 then (-65536,65536) else
 let h:=fZ (v a.1) (v a.2)
 let h1:=if tr a t then fZ h (rB 65536) else h
 if tr a b then fZ h1 (rB (-65536)) else h1
def oI (a : Iv) : Iv:=jM a oH 16384 49152
def oJ (a : Iv) : Iv:=jM a r5 0 32768
end Go.Ab
