/- The contracts and facts that the laws of this seat need, in one text (Rd, AbG, AbQ, TrA, KV, K1, K2, K2b). -/
import Derived.Test.YtnpgedgeajnfbaaGreatW4
import Derived.Test.YtnpgedgeajnfbaaGreatRows
set_option linter.all false
set_option maxHeartbeats 16000000
namespace Go.Ab
open Go.Proofs Go.Proofs.YtnpgedgeajnfbaaGreat
theorem own : ownKnob Tryz.prog.godebug=none:=by kernel_rfl
theorem kids : Kids Tryz.prog (·< Tryz.prog.types.size):=kids_rows (by kernel_rfl) (by kernel_rfl)
theorem full : ∀ t e,t < Tryz.prog.types.size→Tryz.prog.underlying t=some (.slice e)→0 < Tryz.prog.cellsOf e:=slices_full_of Tryz.prog (by kernel_rfl)
mutual
theorem aK {H : Type} : ∀ d : DataW H,ab d≤Rows.uptoBulk d
 |.lit (.string _)=>by simp [ab,Rows.uptoBulk]
 |.lit (.bool _)=>by simp [ab,Rows.uptoBulk]
 |.lit (.int _ _)=>by simp [ab,Rows.uptoBulk]
 |.lit (.float _ _)=>by simp [ab,Rows.uptoBulk]
 |.lit .nil=>by simp [ab,Rows.uptoBulk]
 |.nil=>by simp [ab,Rows.uptoBulk]
 |.ptr _=>by simp [ab,Rows.uptoBulk]
 |.slice es sp=>by have:=ov es;have:=ov sp;simp only [ab,Rows.uptoBulk];omega
 |.agg ds=>by have:=ov ds;simp only [ab,Rows.uptoBulk];omega
 |.iface _ _=>by simp [ab,Rows.uptoBulk]
 |.map _=>by simp [ab,Rows.uptoBulk]
 |.held _=>by simp [ab,Rows.uptoBulk]
theorem ov {H : Type} : ∀ ds : List (DataW H),am ds≤Rows.uptoBulkAll ds
 |[]=>by simp [am,Rows.uptoBulkAll]
 |d :: ds=>by have:=aK d;have:=ov ds;simp only [am,Rows.uptoBulkAll];omega
end
theorem aw {H : Type} (l r : List (DataW H)) : Rows.uptoBulkAll (l++r)=Rows.uptoBulkAll l+Rows.uptoBulkAll r:=by
 induction l with
 |nil=>simp [Rows.uptoBulkAll]
 |cons x l ih=>simp only [List.cons_append,Rows.uptoBulkAll,ih];omega
theorem aS {H : Type} {ds gs : List (DataW H)} (hk : Rows.uptoSmall H (ds++gs)=true) : am ds≤1048576:=by
 have h : Rows.uptoBulkAll (ds++gs)≤1048576:=of_decide_eq_true hk
 rw [aw] at h
 have:=ov ds
 omega
section
variable {H : Type}
theorem aO : af H Tryz.prog 3 (fun i=>.val (.int .i64 i)) (fun i=>IntKind.i64.min≤i∧i≤IntKind.i64.max) (fun _=>1):=ay Tryz.underlying3
theorem aW : af H Tryz.prog 32 (fun l : List Int=>.sl (l.map fun i=>.val (.int .i64 i))) (fun l=>l.length≤9223372036854775807∧∀ a ∈ l,IntKind.i64.min≤a∧a≤IntKind.i64.max) (fun l=>(l.map fun _=>1).sum+1):=im Tryz.underlying32 aO
theorem aT : af H Tryz.prog 60 bF (fun x=>(IntKind.i64.min≤x.1∧x.1≤IntKind.i64.max)∧IntKind.i64.min≤x.2∧x.2≤IntKind.i64.max) (fun _=>1):=by
 intro d h
 obtain ⟨ds,rfl,h1,h2⟩:=iQ Tryz.underlying60 h
 obtain ⟨a,b,rfl⟩:=aN h1
 obtain ⟨x,rfl,hx⟩:=aa (H:=H) Tryz.underlying2 (h2 0 _ _ rfl rfl)
 obtain ⟨y,rfl,hy⟩:=aa (H:=H) Tryz.underlying2 (h2 1 _ _ rfl rfl)
 exact ⟨(x,y),by simp [au,aA,az,eH,bU],⟨hx,hy⟩,by simp [ab]⟩
theorem aX : af H Tryz.prog 30 (fun l : List (Int × Int)=>.sl (l.map bF)) (fun l=>l.length≤9223372036854775807∧∀ x ∈ l,(IntKind.i64.min≤x.1∧x.1≤IntKind.i64.max)∧IntKind.i64.min≤x.2∧x.2≤IntKind.i64.max) (fun l=>(l.map fun _=>1).sum+1):=im Tryz.underlying30 aT
theorem aH : af H Tryz.prog 58 gq (fun _=>True) (fun _=>1):=by
 intro d h
 obtain ⟨ds,rfl,h1,h2⟩:=iQ Tryz.underlying58 h
 obtain ⟨a0,a1,a2,a3,a4,a5,a6,a7,a8,a9,rfl⟩:=aQ h1
 obtain ⟨x0,rfl⟩:=aE (H:=H) Tryz.underlying9 (h2 0 _ _ rfl rfl)
 obtain ⟨x1,rfl,_⟩:=aa (H:=H) Tryz.underlying3 (h2 1 _ _ rfl rfl)
 obtain ⟨x2,rfl,_⟩:=aa (H:=H) Tryz.underlying3 (h2 2 _ _ rfl rfl)
 obtain ⟨vx,vy,vz,rfl⟩:=aC (H:=H) Tryz.underlying51 Tryz.underlying2 (d:=a3) (h2 3 _ _ rfl rfl)
 obtain ⟨x4,rfl,_⟩:=aa (H:=H) Tryz.underlying2 (h2 4 _ _ rfl rfl)
 obtain ⟨x5,rfl,_⟩:=aa (H:=H) Tryz.underlying2 (h2 5 _ _ rfl rfl)
 obtain ⟨x6,rfl,_⟩:=aa (H:=H) Tryz.underlying2 (h2 6 _ _ rfl rfl)
 obtain ⟨x7,rfl,_⟩:=aa (H:=H) Tryz.underlying2 (h2 7 _ _ rfl rfl)
 obtain ⟨x8,rfl,_⟩:=aa (H:=H) Tryz.underlying2 (h2 8 _ _ rfl rfl)
 obtain ⟨x9,rfl,_⟩:=aa (H:=H) Tryz.underlying2 (h2 9 _ _ rfl rfl)
 exact ⟨⟨⟨x0.toArray⟩,x1,x2,vx,vy,vz,x4,x5,x6,x7,x8,x9⟩,by simp [au,aA,az,eH,bU],trivial,by simp [ab]⟩
theorem aL : af H Tryz.prog 98 eG (fun _=>True) (fun _=>1):=by
 intro d h
 obtain ⟨ds,rfl,h1,h2⟩:=iQ Tryz.underlying98 h
 obtain ⟨a0,a1,a2,rfl⟩:=aM h1
 obtain ⟨x0,rfl,_⟩:=aa (H:=H) Tryz.underlying3 (h2 0 _ _ rfl rfl)
 obtain ⟨x1,rfl,_⟩:=aa (H:=H) Tryz.underlying2 (h2 1 _ _ rfl rfl)
 obtain ⟨vx,vy,vz,rfl⟩:=aC (H:=H) Tryz.underlying51 Tryz.underlying2 (d:=a2) (h2 2 _ _ rfl rfl)
 exact ⟨⟨x0,x1,vx,vy,vz⟩,by simp [au,aA,az,eH,bU],trivial,by simp [ab]⟩
end
end Go.Ab
namespace Go.Ab
structure Hid (H : Prop) : Prop where
 h : H
theorem Gy {G : Prop} (h : G:=by
 with_reducible repeat' (first|refine Sp.h ?_|((first|refine Wd ?_|refine Ss.h ?_|refine Sc.h (by assumption) ?_|(refine Sb.h ?_ ?_ ?_<;>(try intro hgd)<;>try exact Xy))<;>simp -implicitDefEqProofs (maxSteps:=2000000) [hP,hN, *]<;>try refine Ya ?_)|refine X2 ?_ ?_|(refine Xd ?_ ?_<;>intro hcd<;>try exact Xx))) : G:=h
theorem Gz {G H : Prop} (x : H) (h : Hid H→G:=by
 intro hG0
 with_reducible repeat' (first|refine Sp.h ?_|((first|refine Wd ?_|refine Ss.h ?_|refine Sc.h (by assumption) ?_|(refine Sb.h ?_ ?_ ?_<;>(try intro hgd)<;>try exact Xy))<;>simp -implicitDefEqProofs (maxSteps:=2000000) [hP,hN, *]<;>try refine Ya ?_)|refine X2 ?_ ?_|(refine Xd ?_ ?_<;>intro hcd<;>try exact Xx))
 exact hG0.h) : G:=h ⟨x⟩
end Go.Ab
namespace Go.Ab
theorem qk {m n : Nat} (_ : m=n) (a : Array Value) : ∀ k,k < n→k < a.size+(n - a.size):=by intro k h;omega
theorem Es {P : Program} {g : FuncId} (h : dj P g:=by
 refine ⟨by kernel_rfl,fun args w=>?_⟩
 refine callsD_of_wpS hf rfl fun c₀ cs hu=>?_
 apply wpS_seq
 apply wpS_region
 have hk:=qk nt args
 have h0:=hk 0 (by decide)
 have h1:=hk 1 (by decide)
 have h2:=hk 2 (by decide)
 simp [wpOpsS,go_sem,recoverD,hu,nt,Exit.thenS,h0,h1,h2]
 refine wpS_cond (t:=false) (by simp [Act.eval,h0,h1,h2]) ?_
 simp only [Bool.false_eq_true,if_false]
 refine wpS_of_wp (wp_skip ?_)
 cases c₀
 simp_all [bodyPostS,results,rs]) : dj P g:=h
theorem Et {P : Program} {g : FuncId} (h : dj P g:=by
 refine ⟨by kernel_rfl,fun args w=>?_⟩
 refine callsD_of_wpS hf rfl fun c₀ cs hu=>?_
 apply wpS_seq
 apply wpS_region
 have hk:=qk nt args
 have h0:=hk 0 (by decide)
 have h1:=hk 1 (by decide)
 have h2:=hk 2 (by decide)
 have h3:=hk 3 (by decide)
 simp [wpOpsS,go_sem,recoverD,hu,nt,Exit.thenS,h0,h1,h2,h3]
 refine wpS_cond (t:=false) (by simp [Act.eval,h0,h1,h2,h3]) ?_
 simp only [Bool.false_eq_true,if_false]
 refine wpS_of_wp (wp_skip ?_)
 cases c₀
 simp_all [bodyPostS,results,rs]) : dj P g:=h
end Go.Ab
namespace Go.Ab
open Go.Proofs
structure Verd where
 kind : Int
 nor : List (Int × Int × Int)
 pair : Int
 left : List Int
 right : List Int
structure Cel where
 joint : Int
 low : Int
 high : Int
 v : Verd
structure Tr where
 root : List (Int × Int)
 cells : List Cel
abbrev aG (v : Int × Int × Int) : PV:=.val (.agg #[.int .i64 v.1,.int .i64 v.2.1,.int .i64 v.2.2])
abbrev bp (l : List (Int × Int × Int)) : PV:=.sl (l.map aG)
def wg (c : Cel) : Bool:=c.joint==-1 && c.low==-1 && c.high==-1
def BL (p : Int) (l r : List Int) : Bool:=p==0 && (l.length : Int)==0 && (r.length : Int)==0
def zk (v : Verd) : Bool:=if v.kind=0∨v.kind=1 then BL v.pair v.left v.right else if v.kind=2 then ((v.nor.length : Int)==0) else false
def Dj (v : Verd) : Bool:=v.kind==0 && ((v.nor.length : Int)==0) && BL v.pair v.left v.right
def BM (r : List (Int × Int)) : Bool:=decide (1≤r.length) && decide (r.length≤10) && fe vI r
end Go.Ab
namespace Go.Ab
open Go.Proofs
theorem jG {α : Type} {p : α→Bool} {xs : List α} : fe p xs=true↔∀ x ∈ xs,p x=true:=List.all_eq_true
abbrev Bx:=List (Int × Int)
abbrev OL:=List (Option Bx)
def rH (n i : Nat) (c : Cel) : Bool:=decide ((i : Int) < c.low) && decide (c.low < n) && decide ((i : Int) < c.high) && decide (c.high < n) && decide (c.low≠c.high) && Dj c.v
def r8 (n i : Nat) (c : Cel) (L : OL) : Option OL:=
 match L[i]? with
 |some (some b)=>
  if wg c then (if zk c.v then some L else none)
  else if rH n i c then
   if jh b c.joint then
    match L[c.low.toNat]?,L[c.high.toNat]? with
    |some none,some none=>some ((L.set c.low.toNat (some (nI b c.joint))).set c.high.toNat (some (nJ b c.joint)))
    |_,_=>none
   else none
  else none
 |_=>none
def xP (n : Nat) : List Cel→Nat→OL→Option OL
 |[],_,L=>some L
 |c :: cs,i,L=>match r8 n i c L with
  |some L'=>xP n cs (i+1) L'
  |none=>none
def r9 (t : Tr) : OL:=some t.root :: List.replicate (t.cells.length - 1) none
def rI (t : Tr) : Bool:=decide (1≤t.cells.length) && decide (t.cells.length≤2048) && BM t.root
def lq (t : Tr) : Option OL:=if rI t then xP t.cells.length t.cells 0 (r9 t) else none
def xR (t : Tr) : Bool:=(lq t).isSome
def j8 (t : Tr) : List Bx:=match lq t with
 |some L=>L.map fun x=>x.getD []
 |none=>[]
theorem Ah {n i : Nat} {c : Cel} {L L' : OL} (h : r8 n i c L=some L') : ∃ b,L[i]?=some (some b)∧
 ((wg c=true∧zk c.v=true∧L'=L)∨
  (wg c=false∧rH n i c=true∧jh b c.joint=true∧L[c.low.toNat]?=some none∧L[c.high.toNat]?=some none∧
    L'=(L.set c.low.toNat (some (nI b c.joint))).set c.high.toNat (some (nJ b c.joint)))):=by
 unfold r8 at h
 split at h
 ·rename_i b hb
  refine ⟨b,hb,?_⟩
  split at h
  ·rename_i hl
   split at h
   ·rename_i hf
    injection h with h
    exact .inl ⟨hl,hf,h.symm⟩
   ·cases h
  ·rename_i hl
   split at h
   ·rename_i hi
    split at h
    ·rename_i hh
     split at h
     ·rename_i h1 h2
      injection h with h
      exact .inr ⟨by simpa using hl,hi,hh,h1,h2,h.symm⟩
     ·cases h
    ·cases h
   ·cases h
 ·cases h
theorem Av {n i : Nat} {c : Cel} : rH n i c=true↔(i : Int) < c.low∧c.low < n∧(i : Int) < c.high∧c.high < n∧c.low≠c.high∧Dj c.v=true:=by
 simp [rH,and_assoc]
theorem xS {n : Nat} {P : Nat→OL→Prop} : ∀ (cs : List Cel) (i : Nat) (L L' : OL),xP n cs i L=some L'→P i L→
 (∀ k c L L',cs[k]?=some c→P (i+k) L→r8 n (i+k) c L=some L'→P (i+k+1) L')→P (i+cs.length) L'
 |[],i,L,L',h,h0,_=>by simp [xP] at h;subst h;exact h0
 |c :: cs,i,L,L',h,h0,hs=>by
  simp only [xP] at h
  split at h
  ·rename_i L1 h1
   have h2:=hs 0 c L L1 rfl h0 h1
   have:=xS cs (i+1) L1 L' h h2 (fun k d M M' hk hp hm=>by
    have e : i+1+k=i+(k+1):=by omega
    rw [e] at hp hm ⊢
    exact hs (k+1) d M M' (by simpa using hk) hp hm)
   have e : i+(c :: cs).length=i+1+cs.length:=by simp;omega
   rw [e];exact this
  ·cases h
theorem BN {t : Tr} {L : OL} {P : Nat→OL→Prop} (h : lq t=some L) (h0 : P 0 (r9 t))
 (hs : ∀ i c L L',t.cells[i]?=some c→P i L→r8 t.cells.length i c L=some L'→P (i+1) L') : P t.cells.length L:=by
 unfold lq at h
 split at h
 ·have:=xS t.cells 0 _ _ h h0 (fun k c M M' hk hp hm=>by
   rw [Nat.zero_add] at hp hm ⊢;exact hs k c M M' hk hp hm)
  simpa using this
 ·cases h
theorem yy {t : Tr} {L : OL} (h : lq t=some L) : rI t=true:=by
 unfold lq at h
 split at h
 ·assumption
 ·cases h
theorem Aw {t : Tr} : rI t=true↔1≤t.cells.length∧t.cells.length≤2048∧1≤t.root.length∧t.root.length≤10∧fe vI t.root=true:=by
 simp [rI,BM,and_assoc]
structure BOk (t : Tr) (i : Nat) (L : OL) : Prop where
 len : L.length=t.cells.length
 pre : ∀ j,j < i→∃ b,L[j]?=some (some b)
 ok : ∀ (j : Nat) b,L[j]?=some (some b)→b.length=t.root.length∧fe vI b=true
theorem vO {b : Bx} {j : Int} (h : jh b j=true) : (nI b j).length=b.length∧(nJ b j).length=b.length:=by
 unfold nI nJ
 rw [h]
 simp only [if_true]
 unfold jh at h
 split<;>simp_all
theorem jU {lo hi : Int} : bG lo hi=true↔-2147483648≤lo∧lo≤hi∧hi≤2147483648:=by
 simp [bG,and_assoc]
theorem zl {x : Int × Int} (h : bG x.1 x.2=true) : nH x=(x.1+x.2) / 2:=by
 unfold nH
 have h':=jU.1 h
 rw [h,if_pos rfl,show wr (x.1+x.2)=x.1+x.2 from ao (by omega) (by omega),Int.fdiv_eq_ediv]
 simp
theorem xT {b : Bx} {j : Int} : jh b j=true↔0≤j∧fe vI b=true∧∃ x,b[j.toNat]?=some x∧2≤x.2 - x.1:=by
 unfold jh
 constructor
 ·intro h
  simp only [Bool.and_eq_true,decide_eq_true_eq] at h
  obtain ⟨⟨h1,h2⟩,h3⟩:=h
  refine ⟨h1,h2,?_⟩
  split at h3
  ·rename_i x hx
   refine ⟨x,hx,?_⟩
   have hv:=jU.1 (jG.1 h2 _ (List.mem_of_getElem? hx))
   rw [decide_eq_true_eq,tH,if_pos (jG.1 h2 _ (List.mem_of_getElem? hx)),show wr (x.2 - x.1)=x.2 - x.1 from ao (by omega) (by omega)] at h3
   exact h3
  ·cases h3
 ·rintro ⟨h1,h2,x,hx,h3⟩
  have hv:=jU.1 (jG.1 h2 _ (List.mem_of_getElem? hx))
  have hw : tH x=x.2 - x.1:=by
   rw [tH,if_pos (jG.1 h2 _ (List.mem_of_getElem? hx))]
   exact ao (by omega) (by omega)
  simp [h1,h2,hx,hw,h3]
theorem CK {b : Bx} {j : Int} (h : jh b j=true) : ∃ x,b[j.toNat]?=some x∧bG x.1 x.2=true∧2≤x.2 - x.1∧nI b j=b.set j.toNat (x.1,(x.1+x.2) / 2)∧nJ b j=b.set j.toNat ((x.1+x.2) / 2,x.2):=by
 obtain ⟨_,h2,x,hx,h3⟩:=xT.1 h
 have hv : bG x.1 x.2=true:=jG.1 h2 _ (List.mem_of_getElem? hx)
 refine ⟨x,hx,hv,h3,?_,?_⟩
 ·simp [nI,h,hx,zl hv]
 ·simp [nJ,h,hx,zl hv]
theorem sK {b : Bx} {j : Int} (h : jh b j=true) : fe vI (nI b j)=true∧fe vI (nJ b j)=true:=by
 obtain ⟨x,hx,hv,h3,ea,ez⟩:=CK h
 have h2:=(xT.1 h).2.1
 have hv':=jU.1 hv
 rw [ea,ez]
 constructor<;>refine jG.2 fun y hy=>?_
 ·rcases List.mem_or_eq_of_mem_set hy with h|rfl
  ·exact jG.1 h2 _ h
  ·exact jU.2 ⟨by omega,by simp only;omega,by simp only;omega⟩
 ·rcases List.mem_or_eq_of_mem_set hy with h|rfl
  ·exact jG.1 h2 _ h
  ·exact jU.2 ⟨by simp only;omega,by simp only;omega,by omega⟩
theorem CM {t : Tr} (h : rI t=true) : BOk t 0 (r9 t):=by
 obtain ⟨h1,h2,h3,h4,h5⟩:=Aw.1 h
 refine ⟨by simp [r9];omega,fun j hj=>by omega,fun j b hb=>?_⟩
 cases j with
 |zero=>simp [r9] at hb;subst hb;exact ⟨rfl,h5⟩
 |succ j=>simp [r9,List.getElem?_replicate] at hb
theorem CN {L : OL} {a z : Nat} {x y : Option Bx} {j : Nat} (hne : a≠z) (ha : a < L.length) (hz : z < L.length) : ((L.set a x).set z y)[j]?=if j=z then some y else if j=a then some x else L[j]?:=by
 rw [List.getElem?_set]
 by_cases h1 : z=j
 ·subst h1;simp [hz]
 ·rw [if_neg h1,if_neg (fun h=>h1 h.symm),List.getElem?_set]
  by_cases h2 : a=j
  ·subst h2;simp [ha]
  ·rw [if_neg h2,if_neg (fun h=>h2 h.symm)]
theorem xU {t : Tr} {i : Nat} {c : Cel} {L : OL} {x y : Option Bx} {j : Nat} (hl : L.length=t.cells.length) (hi : rH t.cells.length i c=true) : ((L.set c.low.toNat x).set c.high.toNat y)[j]?=if j=c.high.toNat then some y else if j=c.low.toNat then some x else L[j]?:=by
 obtain ⟨h1,h2,h3,h4,h5,_⟩:=Av.1 hi
 exact CN (by omega) (by omega) (by omega)
theorem CO {t : Tr} {i : Nat} {c : Cel} {L L' : OL} (h : BOk t i L) (hs : r8 t.cells.length i c L=some L') : BOk t (i+1) L':=by
 obtain ⟨b,hb,⟨_,_,rfl⟩|⟨_,hi,hh,hlo,hhi,rfl⟩⟩:=Ah hs
 ·refine ⟨h.len,fun j hj=>?_,h.ok⟩
  by_cases e : j=i
  ·subst e;exact ⟨b,hb⟩
  ·exact h.pre j (by omega)
 ·have hbo:=h.ok i b hb
  refine ⟨by simpa using h.len,fun j hj=>?_,fun j d hd=>?_⟩
  ·rw [xU h.len hi]
   split
   ·exact ⟨_,rfl⟩
   ·split
    ·exact ⟨_,rfl⟩
    ·by_cases e : j=i
     ·subst e;exact ⟨b,hb⟩
     ·exact h.pre j (by omega)
  ·rw [xU h.len hi] at hd
   split at hd
   ·injection hd with hd;injection hd with hd;subst hd
    exact ⟨by rw [(vO hh).2];exact hbo.1,(sK hh).2⟩
   ·split at hd
    ·injection hd with hd;injection hd with hd;subst hd
     exact ⟨by rw [(vO hh).1];exact hbo.1,(sK hh).1⟩
    ·exact h.ok j d hd
theorem rJ {t : Tr} {L : OL} (h : lq t=some L) : BOk t t.cells.length L:=
 BN h (CM (yy h)) (fun _ _ _ _ _ hp hm=>CO hp hm)
theorem ub {t : Tr} {L : OL} (h : lq t=some L) : L=(j8 t).map some:=by
 have ok:=rJ h
 rw [j8,h]
 simp only [List.map_map]
 apply List.ext_getElem?;intro j
 by_cases hj : j < L.length
 ·obtain ⟨b,hb⟩:=ok.pre j (by rw [← ok.len];exact hj)
  simp [hb]
 ·simp [List.getElem?_eq_none (by omega : L.length≤j)]
theorem Ax {t : Tr} (h : xR t=true) : (j8 t).length=t.cells.length:=by
 obtain ⟨L,hL⟩:=Option.isSome_iff_exists.1 h
 have:=(rJ hL).len
 rw [ub hL] at this
 simpa using this
theorem BO {t : Tr} {j : Nat} {b : Bx} (hb : (j8 t)[j]?=some b) : b.length=t.root.length∧fe vI b=true:=by
 cases hL : lq t with
 |none=>simp [j8,hL] at hb
 |some L=>
  have:=(rJ hL).ok j b
  rw [ub hL] at this
  exact this (by simp [hb])
end Go.Ab
namespace Go.Ab
open Go.Proofs
def Ay (t : Tr) (i : Nat) : Bool:=match t.cells[i]? with
 |some c=>wg c
 |none=>false
end Go.Ab
namespace Go.Ab
open Go.Proofs
end Go.Ab
namespace Go.Ab
open Go.Proofs
end Go.Ab
namespace Go.Ab
open Go.Proofs
def iq (t : Tr) (c : Int) : Bx:=(j8 t)[c.toNat]?.getD []
theorem CP {t : Tr} (hv : xR t=true) {c : Int} (h : c.toNat < t.cells.length) : (j8 t)[c.toNat]?=some (iq t c)∧(iq t c).length=t.root.length∧fe vI (iq t c)=true:=by
 have hl : c.toNat < (j8 t).length:=by rw [Ax hv];exact h
 have e : (j8 t)[c.toNat]?=some (iq t c):=by simp [iq,List.getElem?_eq_getElem hl]
 exact ⟨e,BO e⟩
def xV (t : Tr) (chain : List Int) (j : Nat) : Bool:=match chain[j]? with
 |some c=>decide (0≤c) && decide (c < t.cells.length) && Ay t c.toNat && !((chain.take j).contains c) && (decide (j=0) || tN (iq t (chain[j - 1]?.getD 0)) (iq t c))
 |none=>false
theorem Az {t : Tr} {chain : List Int} {j : Nat} {c : Int} (hc : chain[j]?=some c) : xV t chain j=true↔0≤c∧c < t.cells.length∧Ay t c.toNat=true∧c ∉ chain.take j∧(j=0∨tN (iq t (chain[j - 1]?.getD 0)) (iq t c)=true):=by
 simp [xV,hc,and_assoc]
structure ChOk (t : Tr) (chain p q : List Int) : Prop where
 valid : xR t=true
 hp : Ey t.root p=true
 hq : Ey t.root q=true
 ne : chain≠[]
 all : ∀ j,j < chain.length→xV t chain j=true
namespace ChOk
variable {t : Tr} {chain p q : List Int}
theorem get (h : ChOk t chain p q) {j : Nat} (hj : j < chain.length) : 0≤chain[j]∧chain[j] < t.cells.length∧Ay t chain[j].toNat=true∧chain[j] ∉ chain.take j∧(j=0∨tN (iq t (chain[j - 1]?.getD 0)) (iq t chain[j])=true):=
 (Az (List.getElem?_eq_getElem hj)).1 (h.all j hj)
theorem box (h : ChOk t chain p q) {j : Nat} (hj : j < chain.length) : (j8 t)[chain[j].toNat]?=some (iq t chain[j])∧(iq t chain[j]).length=t.root.length∧fe vI (iq t chain[j])=true:=by
 have:=h.get hj
 exact CP h.valid (by omega)
theorem touch (h : ChOk t chain p q) {j : Nat} (hj : j+1 < chain.length) : tN (iq t chain[j]) (iq t chain[j+1])=true:=by
 have:=(h.get hj).2.2.2.2
 rcases this with e|e
 ·omega
 ·rw [Nat.add_sub_cancel,List.getElem?_eq_getElem (by omega)] at e;exact e
end ChOk
end Go.Ab
namespace Go.Ab
open Go.Proofs
section
variable (n : Nat) (may has hasF : Nat→Bool) (tch : Nat→Nat→Bool)
variable {n may has hasF tch}
end
end Go.Ab
namespace Go.Ab
open Go.Proofs
end Go.Ab
namespace Go.Ab
open Go.Proofs
theorem D5 {P : Program} (D : Nat) {t e : TypeId} (ht : P.underlying t=some (.array 3 e)) (hs : ai P (sizeOf e)=some 1) (e0 : ∀ x y : Int,ai P (Op.equalIn D e (.int .i64 x) (.int .i64 y))=some (x==y)) {xs ys : Array Value} {a b c a' b' c' : Int}
 (p0 : ai P (part e xs (0 * 1))=some (.int .i64 a)) (p1 : ai P (part e xs (1 * 1))=some (.int .i64 b)) (p2 : ai P (part e xs (2 * 1))=some (.int .i64 c))
 (q0 : ai P (part e ys (0 * 1))=some (.int .i64 a')) (q1 : ai P (part e ys (1 * 1))=some (.int .i64 b')) (q2 : ai P (part e ys (2 * 1))=some (.int .i64 c')) :
 ai P (Op.equalIn (D+1) t (.agg xs) (.agg ys))=some (a==a' && b==b' && c==c'):=by
 simp only [Op.equalIn,ag,dS ht,Option.bind_some]
 simp only [hs,Option.bind_some,Std.Legacy.Range.forIn_eq_forIn_range',Std.Legacy.Range.size]
 have hr : List.range' 0 ((3 - 0+1 - 1) / 1) 1=[0,1,2]:=by decide
 rw [hr]
 simp only [List.forIn_cons,List.forIn_nil,ag,p0,q0,e0,Option.bind_some]
 cases h1 : (a==a')
 ·simp [bz]
 simp only [Bool.not_true,Bool.false_eq_true,if_false,bz,Option.bind_some,ag,p1,q1,e0]
 cases h2 : (b==b')
 ·simp [bz]
 simp only [Bool.not_true,Bool.false_eq_true,if_false,bz,Option.bind_some,ag,p2,q2,e0]
 cases h3 : (c==c')
 ·simp [bz]
 ·simp [bz]
theorem Di (a b e c d f : Int) : ai Tryz.prog (Op.equal 51 (.agg #[.int .i64 a,.int .i64 b,.int .i64 e]) (.agg #[.int .i64 c,.int .i64 d,.int .i64 f]))=some (a==c && b==d && e==f):=
 D5 9999 Tryz.underlying51 (by kernel_rfl) (fun x y=>lY (P:=Tryz.prog) 9998 2 .i64 .i64 x y Tryz.underlying2) (by kernel_rfl) (by kernel_rfl) (by kernel_rfl) (by kernel_rfl) (by kernel_rfl) (by kernel_rfl)
def r7 (x : AV) : Option (Int × Int × Int):=match x with
 |.pv (.val (.agg vs))=>match vs.toList with
  |[.int .i64 a,.int .i64 b,.int .i64 c]=>some (a,b,c)
  |_=>none
 |_=>none
theorem m9 {x : AV} {a b c : Int} (h : r7 x=some (a,b,c)) : x=.pv (aG (a,b,c)):=by
 unfold r7 at h
 split at h
 ·split at h
  ·rename_i vs _ a' b' c' hv
   injection h with h;injection h with h1 h2;injection h2 with h2 h3;subst h1;subst h2;subst h3
   rw [← Array.toArray_toList (xs:=vs),hv]
  ·cases h
 ·cases h
def CH (x y : AV) (fb : Option bw) : Option bw:=match r7 x,r7 y with
 |some (a,b,e),some (c,d,f)=>some (.pv (.val (.bool !(a==c && b==d && e==f))),[])
 |_,_=>fb
@[simp] theorem GG (a b e c d f : Int) (fb : Option bw) : CH (.pv (.val (.agg #[.int .i64 a,.int .i64 b,.int .i64 e]))) (.pv (.val (.agg #[.int .i64 c,.int .i64 d,.int .i64 f]))) fb=some (.pv (.val (.bool !(a==c && b==d && e==f))),[]):=rfl
@[simp] theorem Jr {dst : Option Nat} {ty : TypeId} {pos : String} {aft : Array Edge} {g : Option (Nat × Bool)} {ρ : Operand→AV} (x y : Operand) :
 bf Tryz.prog ⟨dst,.binOp .neq 51 x y 51,ty,pos,aft,g⟩ ρ=CH (ρ x) (ρ y) (i9 Tryz.prog ⟨dst,.binOp .neq 51 x y 51,ty,pos,aft,g⟩ ρ):=by
 unfold CH
 split
 ·rename_i a b e c d f hx hy
  exact ol rfl (m9 hx) (m9 hy) (by kernel_rfl) (Di a b e c d f)
 ·rfl
def Ag (x y : AV) (fb : Option bw) : Option bw:=match r7 x,r7 y with
 |some (a,b,e),some (c,d,f)=>some (.pv (.val (.bool (a==c && b==d && e==f))),[])
 |_,_=>fb
end Go.Ab
namespace Go.Ab
open Go.Proofs
abbrev Iv:=Int × Int
def ff (a : Int) : Int:=min (max a (-2147483648)) 2147483648
def dw (a m : Int) : Int:=-((-a) / m)
theorem ck {a b : Int} (m n : Nat) (ha : -(m : Int)≤a) (ha' : a≤m) (hb : -(n : Int)≤b) (hb' : b≤n) : -((m * n : Nat) : Int)≤a * b∧a * b≤((m * n : Nat) : Int):=by
 have h1 : (a * b).natAbs≤m * n:=by
  rw [Int.natAbs_mul]
  exact Nat.mul_le_mul (by omega) (by omega)
 omega
theorem Bb (a : Int) (m : Nat) : a.fdiv (m : Int)=a / (m : Int):=Int.fdiv_eq_ediv_of_nonneg a (by omega)
theorem EK (a : Int) : a.fdiv 65536=a / 65536:=Bb a 65536
theorem EL (a : Int) : a.fdiv 16384=a / 16384:=Bb a 16384
theorem EM (a : Int) : a.fdiv 1073741824=a / 1073741824:=Bb a 1073741824
theorem wZ (a : Int) (ha : -4611686018427387904≤a) (hb : a≤4611686018427387904) : ah Tryz.prog 141 [.pv (Z a),.pv (Z 16)] [] [] (.pv (Z (dw a 65536))):=by
 have h1 : a.fdiv (2 ^ min 16 IntKind.i64.bits)=a / 65536:=EK a
 have h2 : IntKind.i64.wrap (a / 65536 * 2 ^ min 16 IntKind.i64.bits)=a / 65536 * 65536:=by
  show IntKind.i64.wrap (a / 65536 * 65536)=_
  exact ao (by omega) (by omega)
 have h3 : IntKind.i64.wrap (a / 65536+1)=a / 65536+1:=ao
 by_cases he : a / 65536 * 65536=a
 ·have hf : dw a 65536=a / 65536:=by unfold dw;omega
  rw [hf]
  refine Dp Tryz.func141 ?_
  intro C hP hN
  simp only [Tryz.f141] at hN ⊢
  exact Gy
 ·have hf : dw a 65536=a / 65536+1:=by unfold dw;omega
  rw [hf]
  have he' : (a / 65536 * 65536==a)=false:=by simpa using he
  refine Dp Tryz.func141 ?_
  intro C hP hN
  simp only [Tryz.f141] at hN ⊢
  exact Gy
theorem EN (a : Int) : ah Tryz.prog 98 [.pv (Z a),.pv (Z 16)] [] [] (.pv (Z (a / 65536))):=by
 have h1 : a.fdiv (2 ^ min 16 IntKind.i64.bits)=a / 65536:=EK a
 refine Dp Tryz.func98 ?_
 intro C hP hN
 simp only [Tryz.f98] at hN ⊢
 exact Gy
theorem GZ (a : Int) (ha : -4611686018427387904≤a) (hb : a≤4611686018427387904) : ah Tryz.prog 141 [.pv (Z a),.pv (Z 14)] [] [] (.pv (Z (dw a 16384))):=by
 have h1 : a.fdiv (2 ^ min 14 IntKind.i64.bits)=a / 16384:=EL a
 have h2 : IntKind.i64.wrap (a / 16384 * 2 ^ min 14 IntKind.i64.bits)=a / 16384 * 16384:=by
  show IntKind.i64.wrap (a / 16384 * 16384)=_
  exact ao (by omega) (by omega)
 have h3 : IntKind.i64.wrap (a / 16384+1)=a / 16384+1:=ao
 by_cases he : a / 16384 * 16384=a
 ·have hf : dw a 16384=a / 16384:=by unfold dw;omega
  rw [hf]
  refine Dp Tryz.func141 ?_
  intro C hP hN
  simp only [Tryz.f141] at hN ⊢
  exact Gy
 ·have hf : dw a 16384=a / 16384+1:=by unfold dw;omega
  rw [hf]
  have he' : (a / 16384 * 16384==a)=false:=by simpa using he
  refine Dp Tryz.func141 ?_
  intro C hP hN
  simp only [Tryz.f141] at hN ⊢
  exact Gy
theorem G0 (a : Int) : ah Tryz.prog 98 [.pv (Z a),.pv (Z 14)] [] [] (.pv (Z (a / 16384))):=by
 have h1 : a.fdiv (2 ^ min 14 IntKind.i64.bits)=a / 16384:=EL a
 refine Dp Tryz.func98 ?_
 intro C hP hN
 simp only [Tryz.f98] at hN ⊢
 exact Gy
theorem G1 (a : Int) (ha : -4611686018427387904≤a) (hb : a≤4611686018427387904) : ah Tryz.prog 141 [.pv (Z a),.pv (Z 30)] [] [] (.pv (Z (dw a 1073741824))):=by
 have h1 : a.fdiv (2 ^ min 30 IntKind.i64.bits)=a / 1073741824:=EM a
 have h2 : IntKind.i64.wrap (a / 1073741824 * 2 ^ min 30 IntKind.i64.bits)=a / 1073741824 * 1073741824:=by
  show IntKind.i64.wrap (a / 1073741824 * 1073741824)=_
  exact ao (by omega) (by omega)
 have h3 : IntKind.i64.wrap (a / 1073741824+1)=a / 1073741824+1:=ao
 by_cases he : a / 1073741824 * 1073741824=a
 ·have hf : dw a 1073741824=a / 1073741824:=by unfold dw;omega
  rw [hf]
  refine Dp Tryz.func141 ?_
  intro C hP hN
  simp only [Tryz.f141] at hN ⊢
  exact Gy
 ·have hf : dw a 1073741824=a / 1073741824+1:=by unfold dw;omega
  rw [hf]
  have he' : (a / 1073741824 * 1073741824==a)=false:=by simpa using he
  refine Dp Tryz.func141 ?_
  intro C hP hN
  simp only [Tryz.f141] at hN ⊢
  exact Gy
theorem G2 (a : Int) : ah Tryz.prog 98 [.pv (Z a),.pv (Z 30)] [] [] (.pv (Z (a / 1073741824))):=by
 have h1 : a.fdiv (2 ^ min 30 IntKind.i64.bits)=a / 1073741824:=EM a
 refine Dp Tryz.func98 ?_
 intro C hP hN
 simp only [Tryz.f98] at hN ⊢
 exact Gy
def bv (x y : Iv) : Iv:=if bG x.1 x.2 && bG y.1 y.2 then (ff (x.1+y.1),ff (x.2+y.2)) else (0,0)
def gl (x : Iv) : Iv:=if bG x.1 x.2 then (-x.2,-x.1) else (0,0)
def aV (x y : Iv) : Iv:=if bG x.1 x.2 && bG y.1 y.2 then
 (ff (min (x.1 * y.1) (min (x.1 * y.2) (min (x.2 * y.1) (x.2 * y.2))) / 65536),ff (dw (max (x.1 * y.1) (max (x.1 * y.2) (max (x.2 * y.1) (x.2 * y.2)))) 65536)) else (0,0)
def mh (x : Int) : Iv:=(ff x,ff x)
theorem er {a b : Int} : bG a b=true↔-2147483648≤a∧a≤b∧b≤2147483648:=by
 simp only [bG,Bool.and_eq_true,decide_eq_true_eq]
 constructor
 ·rintro ⟨⟨h1,h2⟩,h3⟩;exact ⟨h1,h2,h3⟩
 ·rintro ⟨h1,h2,h3⟩;exact ⟨⟨h1,h2⟩,h3⟩
theorem CX (a b : Int) : ah Tryz.prog 193 [.pv (Z a),.pv (Z b)] [] [] (.pv (I (ff a) (ff b))):=Ev a b
theorem uD (a : Int) : ah Tryz.prog 165 [.pv (Z a)] [] [] (.pv (I (ff a) (ff a))):=GM a
theorem dF {a b c d : Int} : ah Tryz.prog 190 [.pv (I a b),.pv (I c d)] [] [] (.pv (bF (bv (a,b) (c,d)))):=by
 cases hv : (bG a b && bG c d) with
 |false=>
  have hr : bv (a,b) (c,d)=(0,0):=by simp [bv,hv]
  rw [hr]
  refine Dp Tryz.func190 ?_
  intro C hP hN
  simp only [Tryz.f190] at hN ⊢
  with_reducible repeat' (first|refine Sp.h ?_|((first|refine Ss.h ?_|refine Sc.h (wO _ _ _ _) ?_|(refine Sb.h ?_ ?_ ?_<;>(try intro hgd)<;>try exact Xy))<;>simp -implicitDefEqProofs (maxSteps:=2000000) [hP,hN,hv])|refine X2 ?_ ?_|(refine Xd ?_ ?_<;>intro hcd<;>try exact Xx))
 |true=>
  have hr : bv (a,b) (c,d)=(ff (a+c),ff (b+d)):=by simp only [bv,hv,if_true]
  rw [hr]
  have hv':=hv
  rw [Bool.and_eq_true,er,er] at hv'
  have w1 : IntKind.i64.wrap (a+c)=a+c:=ao
  have w2 : IntKind.i64.wrap (b+d)=b+d:=ao
  refine Dp Tryz.func190 ?_
  intro C hP hN
  simp only [Tryz.f190] at hN ⊢
  with_reducible repeat' (first|refine Sp.h ?_|((first|refine Ss.h ?_|refine Sc.h (wO _ _ _ _) ?_|refine Sc.h (CX _ _) ?_|(refine Sb.h ?_ ?_ ?_<;>(try intro hgd)<;>try exact Xy))<;>simp -implicitDefEqProofs (maxSteps:=2000000) [hP,hN,hv,w1,w2])|refine X2 ?_ ?_|(refine Xd ?_ ?_<;>intro hcd<;>try exact Xx))
theorem Cc {a b : Int} : ah Tryz.prog 222 [.pv (I a b)] [] [] (.pv (bF (gl (a,b)))):=by
 cases hv : bG a b with
 |false=>
  have hr : gl (a,b)=(0,0):=by simp [gl,hv]
  rw [hr]
  refine Dp Tryz.func222 ?_
  intro C hP hN
  simp only [Tryz.f222] at hN ⊢
  with_reducible repeat' (first|refine Sp.h ?_|((first|refine Ss.h ?_|refine Sc.h (k9 _ _) ?_|(refine Sb.h ?_ ?_ ?_<;>(try intro hgd)<;>try exact Xy))<;>simp -implicitDefEqProofs (maxSteps:=2000000) [hP,hN,hv])|refine X2 ?_ ?_|(refine Xd ?_ ?_<;>intro hcd<;>try exact Xx))
 |true=>
  have hr : gl (a,b)=(-b,-a):=by simp only [gl,hv,if_true]
  rw [hr]
  have hv':=hv
  rw [er] at hv'
  have w1 : IntKind.i64.wrap (-b)=-b:=ao
  have w2 : IntKind.i64.wrap (-a)=-a:=ao
  have w3 : IntKind.i64.wrap (0 - b)=-b:=(ao (n:=0 - b) (by omega) (by omega)).trans (by omega)
  have w4 : IntKind.i64.wrap (0 - a)=-a:=(ao (n:=0 - a) (by omega) (by omega)).trans (by omega)
  refine Dp Tryz.func222 ?_
  intro C hP hN
  simp only [Tryz.f222] at hN ⊢
  with_reducible repeat' (first|refine Sp.h ?_|((first|refine Ss.h ?_|refine Sc.h (k9 _ _) ?_|(refine Sb.h ?_ ?_ ?_<;>(try intro hgd)<;>try exact Xy))<;>simp -implicitDefEqProofs (maxSteps:=2000000) [hP,hN,hv,w1,w2,w3,w4])|refine X2 ?_ ?_|(refine Xd ?_ ?_<;>intro hcd<;>try exact Xx))
theorem G3 (a b : Int) (ha : -4611686018427387904≤b) (hb : b≤4611686018427387904) : ah Tryz.prog 205 [.pv (Z a),.pv (Z b)] [] [] (.pv (I (ff (a / 65536)) (ff (dw b 65536)))):=by
 refine Dp Tryz.func205 ?_
 intro C hP hN
 simp only [Tryz.f205] at hN ⊢
 with_reducible repeat' (first|refine Sp.h ?_|((first|refine Ss.h ?_|refine Sc.h (EN _) ?_|refine Sc.h (wZ _ ha hb) ?_|refine Sc.h (CX _ _) ?_|(refine Sb.h ?_ ?_ ?_<;>(try intro hgd)<;>try exact Xy))<;>simp -implicitDefEqProofs (maxSteps:=2000000) [hP,hN])|refine X2 ?_ ?_|(refine Xd ?_ ?_<;>intro hcd<;>try exact Xx))
@[simp] theorem Js : IntKind.i64.wrap 1=1:=by decide
@[simp] theorem Ju : IntKind.i64.wrap 2=2:=by decide
@[simp] theorem Jv : IntKind.i64.wrap 3=3:=by decide
@[simp] theorem Jw : IntKind.i64.wrap 4=4:=by decide
theorem G4 {i : Nat} (h : i≤4) : i=0∨i=1∨i=2∨i=3∨i=4:=by omega
theorem eh {a b c d : Int} : ah Tryz.prog 191 [.pv (I a b),.pv (I c d)] [] [] (.pv (bF (aV (a,b) (c,d)))):=by
 cases hv : (bG a b && bG c d) with
 |false=>
  have hr : aV (a,b) (c,d)=(0,0):=by simp [aV,hv]
  rw [hr]
  refine Dp Tryz.func191 ?_
  intro C hP hN
  simp only [Tryz.f191] at hN ⊢
  with_reducible repeat' (first|refine Sp.h ?_|((first|refine Wd ?_|refine Ss.h ?_|refine Sc.h (wO _ _ _ _) ?_|(refine Sb.h ?_ ?_ ?_<;>(try intro hgd)<;>try exact Xy))<;>simp -implicitDefEqProofs (maxSteps:=2000000) [hP,hN,hv]<;>try refine Ya ?_)|refine X2 ?_ ?_|(refine Xd ?_ ?_<;>intro hcd<;>try exact Xx))
 |true=>
  have hv':=hv
  rw [Bool.and_eq_true,er,er] at hv'
  have m1:=ck (a:=a) (b:=c) 2147483648 2147483648 (by omega) (by omega) (by omega) (by omega)
  have m2:=ck (a:=a) (b:=d) 2147483648 2147483648 (by omega) (by omega) (by omega) (by omega)
  have m3:=ck (a:=b) (b:=c) 2147483648 2147483648 (by omega) (by omega) (by omega) (by omega)
  have m4:=ck (a:=b) (b:=d) 2147483648 2147483648 (by omega) (by omega) (by omega) (by omega)
  have w1 : IntKind.i64.wrap (a * c)=a * c:=ao
  have w2 : IntKind.i64.wrap (a * d)=a * d:=ao
  have w3 : IntKind.i64.wrap (b * c)=b * c:=ao
  have w4 : IntKind.i64.wrap (b * d)=b * d:=ao
  have hr : aV (a,b) (c,d)=(ff (min (a * c) (min (a * d) (min (b * c) (b * d))) / 65536),ff (dw (max (a * c) (max (a * d) (max (b * c) (b * d)))) 65536)):=by simp only [aV,hv,if_true]
  rw [hr]
  generalize hp0 : a * c=p0 at *
  generalize hp1 : a * d=p1 at *
  generalize hp2 : b * c=p2 at *
  generalize hp3 : b * d=p3 at *
  have cs:=G3 (min p0 (min p1 (min p2 p3))) (max p0 (max p1 (max p2 p3))) (by omega) (by omega)
  refine Dp Tryz.func191 ?_
  intro C hP hN
  simp only [Tryz.f191] at hN ⊢
  with_reducible repeat' (first|refine Sp.h ?_|((first|refine Wd ?_|refine Ss.h ?_|refine Sc.h (wO _ _ _ _) ?_|(refine Sb.h ?_ ?_ ?_<;>(try intro hgd)<;>try exact Xy))<;>simp -implicitDefEqProofs (maxSteps:=2000000) [hP,hN,hv,w1,w2,w3,w4,hp0,hp1,hp2,hp3]<;>try refine Ya ?_)|refine X2 ?_ ?_|(refine Xd ?_ ?_<;>intro hcd<;>try exact Xx))
  refine WP.loopN [] 4 (fun i st=>st.t 4=.ptr 4 0∧st.h 4=some (.box [.pv (Z 0),.pv (Z 0)] true false)∧st.t 40=.pv (.val (.agg #[.int .i64 p0,.int .i64 p1,.int .i64 p2,.int .i64 p3]))∧st.t 41=.pv (Z i)∧
   st.t 6=.pv (Z (if i≤1 then p0 else if i=2 then min p0 p1 else if i=3 then min p0 (min p1 p2) else min p0 (min p1 (min p2 p3))))∧st.t 7=.pv (Z (if i≤1 then p0 else if i=2 then max p0 p1 else if i=3 then max p0 (max p1 p2) else max p0 (max p1 (max p2 p3))))) (by simp) ?_
  rintro i st hi ⟨g4,hb4,g40,g41,g6,g7⟩
  rcases G4 hi with rfl|rfl|rfl|rfl|rfl
  all_goals (simp at g6 g7)
  ·skip
   exact Gy
  ·skip
   exact Gy
  ·skip
   exact Gy
  ·skip
   exact Gy
  ·skip
   exact Gy
end Go.Ab
namespace Go.Ab
open Go.Proofs
def eC (x : Int) : Nat→Int
 |0=>1073741824
 |1=>x * 6746518852 / 65536
 |k+2=>eC x (k+1) * (x * 6746518852 / 65536) / 1073741824
def eD (x : Int) : Nat→Int
 |0=>1073741824
 |1=>dw (x * 6746518853) 65536
 |k+2=>dw (eD x (k+1) * dw (x * 6746518853) 65536) 1073741824
theorem lD {x : Int} (h0 : 0≤x) (h1 : x≤8192) : ∀ k,0≤eC x k∧eC x k≤1073741824
 |0=>by simp [eC]
 |1=>by simp only [eC];omega
 |k+2=>by
  have h:=lD h0 h1 (k+1)
  have h2 : 0≤x * 6746518852 / 65536∧x * 6746518852 / 65536≤1073741824:=by omega
  simp only [eC]
  generalize x * 6746518852 / 65536=y at *
  have h3:=Int.mul_nonneg h.1 h2.1
  have h4:=Int.mul_le_mul h.2 h2.2 h2.1 (by decide : (0 : Int)≤1073741824)
  omega
theorem lE {x : Int} (h0 : 0≤x) (h1 : x≤8192) : ∀ k,0≤eD x k∧eD x k≤1073741824
 |0=>by simp [eD]
 |1=>by simp only [eD,dw];omega
 |k+2=>by
  have h:=lE h0 h1 (k+1)
  have h2 : 0≤dw (x * 6746518853) 65536∧dw (x * 6746518853) 65536≤1073741824:=by unfold dw;omega
  simp only [eD]
  generalize dw (x * 6746518853) 65536=y at *
  have h3:=Int.mul_nonneg h.1 h2.1
  have h4:=Int.mul_le_mul h.2 h2.2 h2.1 (by decide : (0 : Int)≤1073741824)
  unfold dw
  omega
theorem pm {x : Int} (h0 : 0≤x) (h1 : x≤8192) (j : Nat) : 0≤eC x j * eC x 1∧eC x j * eC x 1≤1152921504606846976:=by
 have h:=lD h0 h1 j
 have h2:=lD h0 h1 1
 have h3:=Int.mul_nonneg h.1 h2.1
 have h4:=Int.mul_le_mul h.2 h2.2 h2.1 (by decide : (0 : Int)≤1073741824)
 omega
theorem lF {x : Int} (h0 : 0≤x) (h1 : x≤8192) (j : Nat) : 0≤eD x j * eD x 1∧eD x j * eD x 1≤1152921504606846976:=by
 have h:=lE h0 h1 j
 have h2:=lE h0 h1 1
 have h3:=Int.mul_nonneg h.1 h2.1
 have h4:=Int.mul_le_mul h.2 h2.2 h2.1 (by decide : (0 : Int)≤1073741824)
 omega
def gS (f : Nat→Int) (n : Nat) : List AV:=[.pv (Z (if 0 < n then f 0 else 0)),.pv (Z (if 1 < n then f 1 else 0)),.pv (Z (if 2 < n then f 2 else 0)),.pv (Z (if 3 < n then f 3 else 0)),.pv (Z (if 4 < n then f 4 else 0)),.pv (Z (if 5 < n then f 5 else 0)),
 .pv (Z (if 6 < n then f 6 else 0)),.pv (Z (if 7 < n then f 7 else 0)),.pv (Z (if 8 < n then f 8 else 0)),.pv (Z (if 9 < n then f 9 else 0)),.pv (Z (if 10 < n then f 10 else 0))]
abbrev v8 (f : Nat→Int) : PV:=.val (.agg #[.int .i64 (f 0),.int .i64 (f 1),.int .i64 (f 2),.int .i64 (f 3),.int .i64 (f 4),.int .i64 (f 5),.int .i64 (f 6),.int .i64 (f 7),.int .i64 (f 8),.int .i64 (f 9),.int .i64 (f 10)])
@[simp] theorem JD : IntKind.i64.wrap 5=5:=by decide
@[simp] theorem JE : IntKind.i64.wrap 6=6:=by decide
@[simp] theorem JF : IntKind.i64.wrap 7=7:=by decide
@[simp] theorem JG : IntKind.i64.wrap 8=8:=by decide
@[simp] theorem JH : IntKind.i64.wrap 9=9:=by decide
@[simp] theorem IQ : IntKind.i64.wrap 10=10:=by decide
@[simp] theorem IR : IntKind.i64.wrap 11=11:=by decide
set_option maxRecDepth 4000 in
theorem EZ (x : Int) (h0 : 0≤x) (h1 : x≤8192) : ah Tryz.prog 242 [.pv (Z x)] [] [] (.pv (.tup [v8 (eC x),v8 (eD x)])):=by
 have w1 : IntKind.i64.wrap (x * 6746518852)=x * 6746518852:=ao
 have w2 : IntKind.i64.wrap (x * 6746518853)=x * 6746518853:=ao
 have c1 : ah Tryz.prog 98 [.pv (Z (x * 6746518852)),.pv (Z 16)] [] [] (.pv (Z (eC x 1))):=EN _
 have c2 : ah Tryz.prog 141 [.pv (Z (x * 6746518853)),.pv (Z 16)] [] [] (.pv (Z (eD x 1))):=wZ _ (by omega) (by omega)
 have m1 : ∀ j,IntKind.i64.wrap (eC x j * eC x 1)=eC x j * eC x 1:=fun j=>ao (by have:=pm h0 h1 j;omega) (by have:=pm h0 h1 j;omega)
 have m2 : ∀ j,IntKind.i64.wrap (eD x j * eD x 1)=eD x j * eD x 1:=fun j=>ao (by have:=lF h0 h1 j;omega) (by have:=lF h0 h1 j;omega)
 have c3 : ∀ j,ah Tryz.prog 98 [.pv (Z (eC x (j+1) * eC x 1)),.pv (Z 30)] [] [] (.pv (Z (eC x (j+2)))):=fun j=>G2 _
 have c4 : ∀ j,ah Tryz.prog 141 [.pv (Z (eD x (j+1) * eD x 1)),.pv (Z 30)] [] [] (.pv (Z (eD x (j+2)))):=fun j=>G1 _ (by have:=lF h0 h1 (j+1);omega) (by have:=lF h0 h1 (j+1);omega)
 have z1 : eC x 0=1073741824:=rfl
 have z2 : eD x 0=1073741824:=rfl
 generalize eC x=f at *
 generalize eD x=g at *
 refine Dp Tryz.func242 ?_
 intro C hP hN
 simp only [Tryz.f242] at hN ⊢
 refine Gz ?_
 refine WP.loopN [] 9 (fun i st=>st.t 2=.ptr 2 0∧st.t 3=.ptr 3 0∧st.t 4=.ptr 4 0∧st.t 5=.ptr 5 0∧st.t 6=.pv (Z (i+2 : Nat))∧st.h 2=some (.box (gS f 0) true false)∧st.h 3=some (.box (gS f 0) true false)∧st.h 4=some (.box (gS f (i+2)) true false)∧st.h 5=some (.box (gS g (i+2)) true false)) (by simp [gS,z1,z2]) ?_
 rintro i st hi ⟨g2,g3,g4,g5,g6,hb2,hb3,hb4,hb5⟩
 have hc : i=0∨i=1∨i=2∨i=3∨i=4∨i=5∨i=6∨i=7∨i=8∨i=9:=by omega
 rcases hc with rfl|rfl|rfl|rfl|rfl|rfl|rfl|rfl|rfl|rfl
 all_goals (simp only [gS] at hb2 hb3 hb4 hb5;simp at g6 hb2 hb3 hb4 hb5)
 all_goals skip
 ·skip
  with_reducible repeat' (first|refine Sp.h ?_|((first|refine Wd ?_|refine Ss.h ?_|refine Sc.h (c3 0) ?_|refine Sc.h (c4 0) ?_|(refine Sb.h ?_ ?_ ?_<;>(try intro hgd)<;>try exact Xy))<;>simp -implicitDefEqProofs (maxSteps:=2000000) [hP,hN,g2,g3,g4,g5,g6,hb2,hb3,hb4,hb5,m1,m2,gS]<;>try refine Ya ?_)|refine X2 ?_ ?_|(refine Xd ?_ ?_<;>intro hcd<;>try exact Xx))
 ·skip
  with_reducible repeat' (first|refine Sp.h ?_|((first|refine Wd ?_|refine Ss.h ?_|refine Sc.h (c3 1) ?_|refine Sc.h (c4 1) ?_|(refine Sb.h ?_ ?_ ?_<;>(try intro hgd)<;>try exact Xy))<;>simp -implicitDefEqProofs (maxSteps:=2000000) [hP,hN,g2,g3,g4,g5,g6,hb2,hb3,hb4,hb5,m1,m2,gS]<;>try refine Ya ?_)|refine X2 ?_ ?_|(refine Xd ?_ ?_<;>intro hcd<;>try exact Xx))
 ·skip
  with_reducible repeat' (first|refine Sp.h ?_|((first|refine Wd ?_|refine Ss.h ?_|refine Sc.h (c3 2) ?_|refine Sc.h (c4 2) ?_|(refine Sb.h ?_ ?_ ?_<;>(try intro hgd)<;>try exact Xy))<;>simp -implicitDefEqProofs (maxSteps:=2000000) [hP,hN,g2,g3,g4,g5,g6,hb2,hb3,hb4,hb5,m1,m2,gS]<;>try refine Ya ?_)|refine X2 ?_ ?_|(refine Xd ?_ ?_<;>intro hcd<;>try exact Xx))
 ·skip
  with_reducible repeat' (first|refine Sp.h ?_|((first|refine Wd ?_|refine Ss.h ?_|refine Sc.h (c3 3) ?_|refine Sc.h (c4 3) ?_|(refine Sb.h ?_ ?_ ?_<;>(try intro hgd)<;>try exact Xy))<;>simp -implicitDefEqProofs (maxSteps:=2000000) [hP,hN,g2,g3,g4,g5,g6,hb2,hb3,hb4,hb5,m1,m2,gS]<;>try refine Ya ?_)|refine X2 ?_ ?_|(refine Xd ?_ ?_<;>intro hcd<;>try exact Xx))
 ·skip
  with_reducible repeat' (first|refine Sp.h ?_|((first|refine Wd ?_|refine Ss.h ?_|refine Sc.h (c3 4) ?_|refine Sc.h (c4 4) ?_|(refine Sb.h ?_ ?_ ?_<;>(try intro hgd)<;>try exact Xy))<;>simp -implicitDefEqProofs (maxSteps:=2000000) [hP,hN,g2,g3,g4,g5,g6,hb2,hb3,hb4,hb5,m1,m2,gS]<;>try refine Ya ?_)|refine X2 ?_ ?_|(refine Xd ?_ ?_<;>intro hcd<;>try exact Xx))
 ·skip
  with_reducible repeat' (first|refine Sp.h ?_|((first|refine Wd ?_|refine Ss.h ?_|refine Sc.h (c3 5) ?_|refine Sc.h (c4 5) ?_|(refine Sb.h ?_ ?_ ?_<;>(try intro hgd)<;>try exact Xy))<;>simp -implicitDefEqProofs (maxSteps:=2000000) [hP,hN,g2,g3,g4,g5,g6,hb2,hb3,hb4,hb5,m1,m2,gS]<;>try refine Ya ?_)|refine X2 ?_ ?_|(refine Xd ?_ ?_<;>intro hcd<;>try exact Xx))
 ·skip
  with_reducible repeat' (first|refine Sp.h ?_|((first|refine Wd ?_|refine Ss.h ?_|refine Sc.h (c3 6) ?_|refine Sc.h (c4 6) ?_|(refine Sb.h ?_ ?_ ?_<;>(try intro hgd)<;>try exact Xy))<;>simp -implicitDefEqProofs (maxSteps:=2000000) [hP,hN,g2,g3,g4,g5,g6,hb2,hb3,hb4,hb5,m1,m2,gS]<;>try refine Ya ?_)|refine X2 ?_ ?_|(refine Xd ?_ ?_<;>intro hcd<;>try exact Xx))
 ·skip
  with_reducible repeat' (first|refine Sp.h ?_|((first|refine Wd ?_|refine Ss.h ?_|refine Sc.h (c3 7) ?_|refine Sc.h (c4 7) ?_|(refine Sb.h ?_ ?_ ?_<;>(try intro hgd)<;>try exact Xy))<;>simp -implicitDefEqProofs (maxSteps:=2000000) [hP,hN,g2,g3,g4,g5,g6,hb2,hb3,hb4,hb5,m1,m2,gS]<;>try refine Ya ?_)|refine X2 ?_ ?_|(refine Xd ?_ ?_<;>intro hcd<;>try exact Xx))
 ·skip
  with_reducible repeat' (first|refine Sp.h ?_|((first|refine Wd ?_|refine Ss.h ?_|refine Sc.h (c3 8) ?_|refine Sc.h (c4 8) ?_|(refine Sb.h ?_ ?_ ?_<;>(try intro hgd)<;>try exact Xy))<;>simp -implicitDefEqProofs (maxSteps:=2000000) [hP,hN,g2,g3,g4,g5,g6,hb2,hb3,hb4,hb5,m1,m2,gS]<;>try refine Ya ?_)|refine X2 ?_ ?_|(refine Xd ?_ ?_<;>intro hcd<;>try exact Xx))
 ·skip
  exact Gy
end Go.Ab
namespace Go.Ab
open Go.Proofs
def j3 (i : Nat) : Int:=if i % 2=0 then 1 else -1
def li (xs : List Int) : Nat→Int
 |0=>0
 |i+1=>li xs i+j3 i * (xs[i]?).getD 0
def eO (xs : List Int) : Int:=li xs xs.length
theorem y6 (i : Nat) (x : Int) : (j3 i * x=x∨j3 i * x=-x):=by unfold j3;split<;>simp
theorem xu (i : Nat) : j3 (i+1)=-j3 i:=by unfold j3;split<;>split<;>omega
theorem qd {xs : List Int} (hb : ∀ x ∈ xs,-1099511627776≤x∧x≤1099511627776) : ∀ i : Nat,-((i : Int) * 1099511627776)≤li xs i∧li xs i≤(i : Int) * 1099511627776
 |0=>by simp [li]
 |i+1=>by
  have h:=qd hb i
  have h2 : -1099511627776≤(xs[i]?).getD 0∧(xs[i]?).getD 0≤1099511627776:=by
   cases hx : xs[i]? with
   |none=>simp
   |some y=>exact hb y (List.mem_of_getElem? hx)
  have h3:=y6 i ((xs[i]?).getD 0)
  simp only [li]
  omega
theorem zX (xs : List Int) (hl : xs.length≤1000) (hb : ∀ x ∈ xs,-1099511627776≤x∧x≤1099511627776) : ah Tryz.prog 243 [.pv (zs xs)] [] [] (.pv (Z (eO xs))):=by
 refine Dp Tryz.func243 ?_
 intro C hP hN
 simp only [Tryz.f243] at hN ⊢
 refine Gz ?_
 refine WP.loopN [] xs.length (fun i st=>st.t 3=.pv (Z (li xs i))∧st.t 4=.pv (Z (j3 i))∧st.t 7=.pv (zs xs)∧st.t 8=.pv (Z xs.length)∧st.t 9=.pv (Z i)) (by simp [li,j3]) ?_
 rintro i st hi ⟨g3,g4,g7,g8,g9⟩
 by_cases hlt : i < xs.length
 ·have hw:=bi hlt (by omega)
  have hxi : xs[i]?=some xs[i]:=List.getElem?_eq_getElem hlt
  have hr:=hb xs[i] (List.getElem_mem hlt)
  have ha:=qd hb i
  have h3:=y6 i xs[i]
  have w1 : IntKind.i64.wrap (j3 i * xs[i])=j3 i * xs[i]:=ao
  have w2 : IntKind.i64.wrap (li xs i+j3 i * xs[i])=li xs (i+1):=(ao (by omega) (by omega)).trans (by simp [li,hxi])
  have w3 : IntKind.i64.wrap (-j3 i)=j3 (i+1):=by
   rw [xu];unfold j3;split<;>decide
  have w4 : IntKind.i64.wrap (0 - j3 i)=j3 (i+1):=by
   rw [xu];unfold j3;split<;>decide
  exact Gy
 ·skip
  refine Gz ?_
  all_goals (have : i=xs.length:=by omega
             subst this;rfl)
def bB (n d : Int) : Int:=(n+d - 1) / d
theorem qe (n d : Int) (hn : 0≤n) (hn' : n≤1099511627776) (hd : 1≤d) (hd' : d≤1099511627776) : ah Tryz.prog 244 [.pv (Z n),.pv (Z d)] [] [] (.pv (Z (bB n d))):=by
 have w1 : IntKind.i64.wrap (n+d)=n+d:=ao
 have w2 : IntKind.i64.wrap (n+d - 1)=n+d - 1:=ao
 have hq : (n+d - 1).tdiv d=(n+d - 1) / d:=Int.tdiv_eq_ediv_of_nonneg (by omega)
 have hq1 : 0≤(n+d - 1) / d:=Int.ediv_nonneg (by omega) (by omega)
 have hq2 : (n+d - 1) / d≤n+d - 1:=Int.ediv_le_self _ (by omega)
 have w3 : IntKind.i64.wrap ((n+d - 1) / d)=(n+d - 1) / d:=ao
 have hne : d≠0:=by omega
 refine Dp Tryz.func244 ?_
 intro C hP hN
 simp only [Tryz.f244] at hN ⊢
 refine Gz ?_
 all_goals rfl
def o5 (lo hi : Int) : Iv:=(max 0 (lo / 16384),min 65536 (dw hi 16384))
theorem E0 (lo hi : Int) (h1 : -4611686018427387904≤hi) (h2 : hi≤4611686018427387904) : ah Tryz.prog 245 [.pv (Z lo),.pv (Z hi)] [] [] (.pv (bF (o5 lo hi))):=by
 refine Dp Tryz.func245 ?_
 intro C hP hN
 simp only [Tryz.f245] at hN ⊢
 with_reducible repeat' (first|refine Sp.h ?_|((first|refine Ss.h ?_|refine Sc.h (G0 _) ?_|refine Sc.h (GZ _ h1 h2) ?_|(refine Sb.h ?_ ?_ ?_<;>(try intro hgd)<;>try exact Xy))<;>simp -implicitDefEqProofs (maxSteps:=2000000) [hP,hN])|refine X2 ?_ ?_|(refine Xd ?_ ?_<;>intro hcd<;>try exact Xx))
 all_goals simp [o5]
def lj (f g : Nat→Int) : List Int:=[f 1,bB (g 3) 6,f 5 / 120,bB (g 7) 5040]
def jR (f g : Nat→Int) : List Int:=[g 1,f 3 / 6,bB (g 5) 120,f 7 / 5040,bB (g 9) 362880]
def nZ (f g : Nat→Int) : List Int:=[1073741824,bB (g 2) 2,f 4 / 24,bB (g 6) 720,f 8 / 40320,bB (g 10) 3628800]
def lG (f g : Nat→Int) : List Int:=[1073741824,f 2 / 2,bB (g 4) 24,f 6 / 720,bB (g 8) 40320]
def qf (x : Int) : Iv:=o5 (eO (lj (eC x) (eD x))) (eO (jR (eC x) (eD x)))
def sW (x : Int) : Iv:=o5 (eO (nZ (eC x) (eD x))) (eO (lG (eC x) (eD x)))
theorem eu {n d : Int} (h0 : 0≤n) (h1 : n≤1073741824) (hd : 1≤d) (hd' : d≤4000000) : 0≤bB n d∧bB n d≤1099511627776:=by
 unfold bB
 have hq1 : 0≤(n+d - 1) / d:=Int.ediv_nonneg (by omega) (by omega)
 have hq2 : (n+d - 1) / d≤n+d - 1:=Int.ediv_le_self _ (by omega)
 omega
theorem xv {f : Nat→Int} (hf : ∀ j,0≤f j∧f j≤1073741824) (j : Nat) (d : Int) : (f j).tdiv d=f j / d:=Int.tdiv_eq_ediv_of_nonneg (hf j).1
theorem oa {f : Nat→Int} (hf : ∀ j,0≤f j∧f j≤1073741824) (j : Nat) {d : Int} (hd : 0 < d) : 0≤f j / d∧f j / d≤1073741824:=by
 have h:=hf j
 have hq1 : 0≤f j / d:=Int.ediv_nonneg (by omega) (by omega)
 have hq2 : f j / d≤f j:=Int.ediv_le_self _ (by omega)
 omega
theorem xx {f : Nat→Int} (hf : ∀ j,0≤f j∧f j≤1073741824) (j : Nat) {d : Int} (hd : 0 < d) : IntKind.i64.wrap (f j / d)=f j / d:=by
 have:=oa hf j hd
 exact ao (by omega) (by omega)
theorem Hc (x : Int) (h0 : 0≤x) (h1 : x≤8192) : ah Tryz.prog 240 [.pv (Z x)] [] [] (.pv (bF (qf x))):=by
 have cp:=EZ x h0 h1
 have hf:=lD h0 h1
 have hg:=lE h0 h1
 show ah _ _ _ _ _ (.pv (bF (o5 (eO (lj (eC x) (eD x))) (eO (jR (eC x) (eD x))))))
 generalize eC x=f at *
 generalize eD x=g at *
 have k1 : ∀ y ∈ lj f g,-1099511627776≤y∧y≤1099511627776:=by
  intro y hy
  have a1:=hf 1
  have a2:=eu (d:=6) (hg 3).1 (hg 3).2 (by decide) (by decide)
  have a3:=oa hf 5 (d:=120) (by decide)
  have a4:=eu (d:=5040) (hg 7).1 (hg 7).2 (by decide) (by decide)
  simp only [lj,List.mem_cons,List.not_mem_nil,or_false] at hy
  rcases hy with rfl|rfl|rfl|rfl<;>omega
 have k2 : ∀ y ∈ jR f g,-1099511627776≤y∧y≤1099511627776:=by
  intro y hy
  have a1:=hg 1
  have a2:=eu (d:=120) (hg 5).1 (hg 5).2 (by decide) (by decide)
  have a3:=oa hf 3 (d:=6) (by decide)
  have a4:=eu (d:=362880) (hg 9).1 (hg 9).2 (by decide) (by decide)
  have a5:=oa hf 7 (d:=5040) (by decide)
  simp only [jR,List.mem_cons,List.not_mem_nil,or_false] at hy
  rcases hy with rfl|rfl|rfl|rfl|rfl<;>omega
 have b2:=qd k2 5
 have b3 : -(((5 : Nat) : Int) * 1099511627776)≤eO (jR f g)∧eO (jR f g)≤((5 : Nat) : Int) * 1099511627776:=b2
 have ca : ah Tryz.prog 243 [.pv (.sl [Z (f 1),Z (bB (g 3) 6),Z (f 5 / 120),Z (bB (g 7) 5040)])] [] [] (.pv (Z (eO (lj f g)))):=zX (lj f g) (by simp [lj]) k1
 have cb : ah Tryz.prog 243 [.pv (.sl [Z (g 1),Z (f 3 / 6),Z (bB (g 5) 120),Z (f 7 / 5040),Z (bB (g 9) 362880)])] [] [] (.pv (Z (eO (jR f g)))):=zX (jR f g) (by simp [jR]) k2
 have c3:=qe (g 3) 6 (hg 3).1 (by have:=hg 3;omega) (by decide) (by decide)
 have c7:=qe (g 7) 5040 (hg 7).1 (by have:=hg 7;omega) (by decide) (by decide)
 have c5:=qe (g 5) 120 (hg 5).1 (by have:=hg 5;omega) (by decide) (by decide)
 have c9:=qe (g 9) 362880 (hg 9).1 (by have:=hg 9;omega) (by decide) (by decide)
 have ce:=E0 (eO (lj f g)) (eO (jR f g)) (by omega) (by omega)
 generalize eO (lj f g)=lo at *
 generalize eO (jR f g)=hi at *
 have t1:=xv hf 5 120
 have t2:=xv hf 3 6
 have t3:=xv hf 7 5040
 have w1:=xx hf 5 (d:=120) (by decide)
 have w2:=xx hf 3 (d:=6) (by decide)
 have w3:=xx hf 7 (d:=5040) (by decide)
 refine Dp Tryz.func240 ?_
 intro C hP hN
 simp only [Tryz.f240] at hN ⊢
 exact Gy
theorem Hd (x : Int) (h0 : 0≤x) (h1 : x≤8192) : ah Tryz.prog 241 [.pv (Z x)] [] [] (.pv (bF (sW x))):=by
 have cp:=EZ x h0 h1
 have hf:=lD h0 h1
 have hg:=lE h0 h1
 show ah _ _ _ _ _ (.pv (bF (o5 (eO (nZ (eC x) (eD x))) (eO (lG (eC x) (eD x))))))
 generalize eC x=f at *
 generalize eD x=g at *
 have k1 : ∀ y ∈ nZ f g,-1099511627776≤y∧y≤1099511627776:=by
  intro y hy
  have a2:=eu (d:=2) (hg 2).1 (hg 2).2 (by decide) (by decide)
  have a3:=oa hf 4 (d:=24) (by decide)
  have a4:=eu (d:=720) (hg 6).1 (hg 6).2 (by decide) (by decide)
  have a5:=oa hf 8 (d:=40320) (by decide)
  have a6:=eu (d:=3628800) (hg 10).1 (hg 10).2 (by decide) (by decide)
  simp only [nZ,List.mem_cons,List.not_mem_nil,or_false] at hy
  rcases hy with rfl|rfl|rfl|rfl|rfl|rfl<;>omega
 have k2 : ∀ y ∈ lG f g,-1099511627776≤y∧y≤1099511627776:=by
  intro y hy
  have a2:=eu (d:=24) (hg 4).1 (hg 4).2 (by decide) (by decide)
  have a3:=oa hf 2 (d:=2) (by decide)
  have a4:=eu (d:=40320) (hg 8).1 (hg 8).2 (by decide) (by decide)
  have a5:=oa hf 6 (d:=720) (by decide)
  simp only [lG,List.mem_cons,List.not_mem_nil,or_false] at hy
  rcases hy with rfl|rfl|rfl|rfl|rfl<;>omega
 have b2:=qd k2 5
 have b3 : -(((5 : Nat) : Int) * 1099511627776)≤eO (lG f g)∧eO (lG f g)≤((5 : Nat) : Int) * 1099511627776:=b2
 have ca : ah Tryz.prog 243 [.pv (.sl [Z 1073741824,Z (bB (g 2) 2),Z (f 4 / 24),Z (bB (g 6) 720),Z (f 8 / 40320),Z (bB (g 10) 3628800)])] [] [] (.pv (Z (eO (nZ f g)))):=zX (nZ f g) (by simp [nZ]) k1
 have cb : ah Tryz.prog 243 [.pv (.sl [Z 1073741824,Z (f 2 / 2),Z (bB (g 4) 24),Z (f 6 / 720),Z (bB (g 8) 40320)])] [] [] (.pv (Z (eO (lG f g)))):=zX (lG f g) (by simp [lG]) k2
 have c2:=qe (g 2) 2 (hg 2).1 (by have:=hg 2;omega) (by decide) (by decide)
 have c6:=qe (g 6) 720 (hg 6).1 (by have:=hg 6;omega) (by decide) (by decide)
 have c10:=qe (g 10) 3628800 (hg 10).1 (by have:=hg 10;omega) (by decide) (by decide)
 have c4:=qe (g 4) 24 (hg 4).1 (by have:=hg 4;omega) (by decide) (by decide)
 have c8:=qe (g 8) 40320 (hg 8).1 (by have:=hg 8;omega) (by decide) (by decide)
 have ce:=E0 (eO (nZ f g)) (eO (lG f g)) (by omega) (by omega)
 generalize eO (nZ f g)=lo at *
 generalize eO (lG f g)=hi at *
 have t1:=xv hf 4 24
 have t2:=xv hf 8 40320
 have t3:=xv hf 2 2
 have t4:=xv hf 6 720
 have w1:=xx hf 4 (d:=24) (by decide)
 have w2:=xx hf 8 (d:=40320) (by decide)
 have w3:=xx hf 2 (d:=2) (by decide)
 have w4:=xx hf 6 (d:=720) (by decide)
 refine Dp Tryz.func241 ?_
 intro C hP hN
 simp only [Tryz.f241] at hN ⊢
 exact Gy
def eF (r : Int) : Iv:=if r≤8192 then qf r else sW (16384 - r)
theorem E1 (r : Int) (h0 : 0≤r) (h1 : r≤16384) : ah Tryz.prog 236 [.pv (Z r)] [] [] (.pv (bF (eF r))):=by
 have w1 : IntKind.i64.wrap (16384 - r)=16384 - r:=ao
 by_cases h : r≤8192
 ·have hf : eF r=qf r:=by simp [eF,h]
  have cs:=Hc r h0 h
  rw [hf]
  generalize qf r=y at *
  refine Dp Tryz.func236 ?_
  intro C hP hN
  simp only [Tryz.f236] at hN ⊢
  exact Gy
 ·have hf : eF r=sW (16384 - r):=by simp [eF,h]
  have cs:=Hd (16384 - r) (by omega) (by omega)
  rw [hf]
  generalize sW (16384 - r)=y at *
  refine Dp Tryz.func236 ?_
  intro C hP hN
  simp only [Tryz.f236] at hN ⊢
  exact Gy
theorem F1 (a : Int) : oT .and .i64 a 65535=a % 65536:=by
 unfold oT
 have h1 : (BitVec.ofInt 64 a &&& BitVec.ofInt 64 65535).toNat=(a % 65536).toNat:=by
  rw [BitVec.toNat_and,BitVec.toNat_ofInt,BitVec.toNat_ofInt]
  have e1 : ((65535 : Int) % ((2 ^ 64 : Nat) : Int)).toNat=2 ^ 16 - 1:=by decide
  rw [e1,Nat.and_two_pow_sub_one_eq_mod]
  have h0 : 0≤a % ((2 ^ 64 : Nat) : Int):=Int.emod_nonneg _ (by decide)
  have h2 : (a % ((2 ^ 64 : Nat) : Int)) % 65536=a % 65536:=Int.emod_emod_of_dvd a (by decide)
  omega
 show IntKind.i64.wrap ((BitVec.ofInt 64 a &&& BitVec.ofInt 64 65535).toNat : Int)=_
 rw [h1,IntKind.wrap_i64]
 have:=Int.emod_nonneg a (b:=65536) (by decide)
 have:=Int.emod_lt_of_pos a (b:=65536) (by decide)
 omega
theorem Cm (a : Int) : ah Tryz.prog 235 [.pv (Z a)] [] [] (.pv (Z (a % 65536))):=by
 refine Dp Tryz.func235 ?_
 intro C hP hN
 simp only [Tryz.f235] at hN ⊢
 with_reducible repeat' (first|refine Sp.h ?_|((first|refine Ss.h ?_|(refine Sb.h ?_ ?_ ?_<;>(try intro hgd)<;>try exact Xy))<;>simp -implicitDefEqProofs (maxSteps:=2000000) [hP,hN,F1])|refine X2 ?_ ?_|(refine Xd ?_ ?_<;>intro hcd<;>try exact Xx))
def mK (m : Int) : Iv:=if m / 16384=0 then eF (m % 16384) else if m / 16384=1 then eF (16384 - m % 16384) else if m / 16384=2 then gl (eF (m % 16384)) else gl (eF (16384 - m % 16384))
def lN (a : Int) : Iv:=mK (a % 65536)
theorem E2 (a : Int) : ah Tryz.prog 229 [.pv (Z a)] [] [] (.pv (bF (lN a))):=by
 have cm:=Cm a
 show ah _ _ _ _ _ (.pv (bF (mK (a % 65536))))
 have r1:=Int.emod_nonneg a (b:=65536) (by decide)
 have r2:=Int.emod_lt_of_pos a (b:=65536) (by decide)
 generalize a % 65536=m at *
 have t1 : m.tmod 16384=m % 16384:=Int.tmod_eq_emod_of_nonneg r1
 have t2 : m.tdiv 16384=m / 16384:=Int.tdiv_eq_ediv_of_nonneg r1
 have w1 : IntKind.i64.wrap (m / 16384)=m / 16384:=ao
 have w2 : IntKind.i64.wrap (m % 16384)=m % 16384:=ao
 have w3 : IntKind.i64.wrap (16384 - m % 16384)=16384 - m % 16384:=ao
 have cf:=E1 (m % 16384) (by omega) (by omega)
 have cg:=E1 (16384 - m % 16384) (by omega) (by omega)
 have key : m / 16384=0∨m / 16384=1∨m / 16384=2∨m / 16384=3:=by omega
 rcases key with hk|hk|hk|hk
 ·have hf : mK m=eF (m % 16384):=by simp [mK,hk]
  rw [hf]
  generalize eF (m % 16384)=y at *
  refine Dp Tryz.func229 ?_
  intro C hP hN
  simp only [Tryz.f229] at hN ⊢
  exact Gy
 ·have hf : mK m=eF (16384 - m % 16384):=by simp [mK,hk]
  rw [hf]
  generalize eF (16384 - m % 16384)=y at *
  refine Dp Tryz.func229 ?_
  intro C hP hN
  simp only [Tryz.f229] at hN ⊢
  exact Gy
 ·have hf : mK m=gl (eF (m % 16384)):=by simp [mK,hk]
  rw [hf]
  generalize eF (m % 16384)=y at *
  refine Dp Tryz.func229 ?_
  intro C hP hN
  simp only [Tryz.f229] at hN ⊢
  with_reducible repeat' (first|refine Sp.h ?_|((first|refine Ss.h ?_|refine Sc.h (cm) ?_|refine Sc.h (cf) ?_|refine Sc.h (Cc) ?_|(refine Sb.h ?_ ?_ ?_<;>(try intro hgd)<;>try exact Xy))<;>simp -implicitDefEqProofs (maxSteps:=2000000) [hP,hN,t1,t2,w1,w2,w3,hk])|refine X2 ?_ ?_|(refine Xd ?_ ?_<;>intro hcd<;>try exact Xx))
 ·have hf : mK m=gl (eF (16384 - m % 16384)):=by simp [mK,hk]
  rw [hf]
  generalize eF (16384 - m % 16384)=y at *
  refine Dp Tryz.func229 ?_
  intro C hP hN
  simp only [Tryz.f229] at hN ⊢
  with_reducible repeat' (first|refine Sp.h ?_|((first|refine Ss.h ?_|refine Sc.h (cm) ?_|refine Sc.h (cg) ?_|refine Sc.h (Cc) ?_|(refine Sb.h ?_ ?_ ?_<;>(try intro hgd)<;>try exact Xy))<;>simp -implicitDefEqProofs (maxSteps:=2000000) [hP,hN,t1,t2,w1,w2,w3,hk])|refine X2 ?_ ?_|(refine Xd ?_ ?_<;>intro hcd<;>try exact Xx))
def qg (a : Int) : Iv:=lN (a % 65536+16384)
theorem He (a : Int) : ah Tryz.prog 228 [.pv (Z a)] [] [] (.pv (bF (qg a))):=by
 have cm:=Cm a
 show ah _ _ _ _ _ (.pv (bF (lN (a % 65536+16384))))
 have r1:=Int.emod_nonneg a (b:=65536) (by decide)
 have r2:=Int.emod_lt_of_pos a (b:=65536) (by decide)
 generalize a % 65536=m at *
 have w1 : IntKind.i64.wrap (m+16384)=m+16384:=ao
 have cs:=E2 (m+16384)
 generalize lN (m+16384)=y at *
 refine Dp Tryz.func228 ?_
 intro C hP hN
 simp only [Tryz.f228] at hN ⊢
 exact Gy
def j4 (a : Iv) (t : Int) : Bool:=bG a.1 a.2 && decide (a.1≤a.1+(t - a.1) % 65536) && decide (a.1+(t - a.1) % 65536≤a.2)
theorem E3 {a b : Int} (t : Int) (h1 : -2147483648≤a) (h2 : a≤2147483648) (h3 : -2147483648≤t) (h4 : t≤2147483648) : ah Tryz.prog 234 [.pv (I a b),.pv (Z t)] [] [] (.pv (B (j4 (a,b) t))):=by
 have w1 : IntKind.i64.wrap (t - a)=t - a:=ao
 have r1:=Int.emod_nonneg (t - a) (b:=65536) (by decide)
 have r2:=Int.emod_lt_of_pos (t - a) (b:=65536) (by decide)
 have w2 : IntKind.i64.wrap (a+(t - a) % 65536)=a+(t - a) % 65536:=ao
 have cm:=Cm (t - a)
 refine Dp Tryz.func234 ?_
 intro C hP hN
 simp only [Tryz.f234] at hN ⊢
 with_reducible repeat' (first|refine Sp.h ?_|((first|refine Wd ?_|refine Ss.h ?_|refine Sc.h (cm) ?_|refine Sc.h (GN _ _ _) ?_|(refine Sb.h ?_ ?_ ?_<;>(try intro hgd)<;>try exact Xy))<;>simp -implicitDefEqProofs (maxSteps:=2000000) [hP,hN,w1,w2]<;>try refine Ya ?_)|refine X2 ?_ ?_|(refine Xd ?_ ?_<;>intro hcd<;>try exact Xx))
 all_goals (try simp [j4])
def gP (a : Iv) (v : Int→Iv) (t b : Int) : Iv:=if bG a.1 a.2=false then (0,0) else if 65536≤a.2 - a.1 then (-65536,65536) else
 let h:=fK (v a.1) (v a.2)
 let h1:=if j4 a t then fK h (mh 65536) else h
 if j4 a b then fK h1 (mh (-65536)) else h1
theorem E4 {a b : Int} (f : FuncId) (v : Int→Iv) (t u : Int) (hf : ∀ x,ah Tryz.prog f [.pv (Z x)] [] [] (.pv (bF (v x)))) (ht : -2147483648≤t) (ht' : t≤2147483648) (hu : -2147483648≤u) (hu' : u≤2147483648) : ah Tryz.prog 227 [.pv (I a b),.pv (Fv f),.pv (Z t),.pv (Z u)] [] [] (.pv (bF (gP (a,b) v t u))):=by
 cases hv : bG a b with
 |false=>
  have hr : gP (a,b) v t u=(0,0):=by simp [gP,hv]
  rw [hr]
  refine Dp Tryz.func227 ?_
  intro C hP hN
  simp only [Tryz.f227] at hN ⊢
  with_reducible repeat' (first|refine Sp.h ?_|((first|refine Wd ?_|refine Ss.h ?_|refine Sc.h (k9 _ _) ?_|(refine Sb.h ?_ ?_ ?_<;>(try intro hgd)<;>try exact Xy))<;>simp -implicitDefEqProofs (maxSteps:=2000000) [hP,hN,hv]<;>try refine Ya ?_)|refine X2 ?_ ?_|(refine Xd ?_ ?_<;>intro hcd<;>try exact Xx))
 |true=>
  have hv':=er.1 hv
  have w1 : IntKind.i64.wrap (b - a)=b - a:=ao
  have cm:=E3 (a:=a) (b:=b) t (by omega) (by omega) ht ht'
  have cn:=E3 (a:=a) (b:=b) u (by omega) (by omega) hu hu'
  have o1 : ah Tryz.prog 165 [.pv (Z 65536)] [] [] (.pv (I 65536 65536)):=uD 65536
  have o2 : ah Tryz.prog 165 [.pv (Z (-65536))] [] [] (.pv (I (-65536) (-65536))):=uD (-65536)
  by_cases hw : 65536≤b - a
  ·have hr : gP (a,b) v t u=(-65536,65536):=by simp [gP,hv,hw]
   rw [hr]
   refine Dp Tryz.func227 ?_
   intro C hP hN
   simp only [Tryz.f227] at hN ⊢
   with_reducible repeat' (first|refine Sp.h ?_|((first|refine Wd ?_|refine Ss.h ?_|refine Sc.h (k9 _ _) ?_|refine Sc.h (wP _ _) ?_|(refine Sb.h ?_ ?_ ?_<;>(try intro hgd)<;>try exact Xy))<;>simp -implicitDefEqProofs (maxSteps:=2000000) [hP,hN,hv,w1,hw]<;>try refine Ya ?_)|refine X2 ?_ ?_|(refine Xd ?_ ?_<;>intro hcd<;>try exact Xx))
  ·have hr : gP (a,b) v t u=(let h:=fK (v a) (v b);let h1:=if j4 (a,b) t then fK h (65536,65536) else h;if j4 (a,b) u then fK h1 (-65536,-65536) else h1):=by
    have e1 : mh 65536=(65536,65536):=by decide
    have e2 : mh (-65536)=(-65536,-65536):=by decide
    simp [gP,hv,hw,e1,e2]
   rw [hr]
   cases hm1 : j4 (a,b) t<;>cases hm2 : j4 (a,b) u<;>rw [hm1] at cm<;>rw [hm2] at cn
   ·skip
    refine Dp Tryz.func227 ?_
    intro C hP hN
    simp only [Tryz.f227] at hN ⊢
    with_reducible repeat' (first|refine Sp.h ?_|((first|refine Wd ?_|refine Ss.h ?_|refine Sc.h (k9 _ _) ?_|refine Sc.h (wP _ _) ?_|refine Sc.h (hf _) ?_|refine Sc.h (zG _ _ _ _) ?_|refine Sc.h (cm) ?_|refine Sc.h (cn) ?_|(refine Sb.h ?_ ?_ ?_<;>(try intro hgd)<;>try exact Xy))<;>simp -implicitDefEqProofs (maxSteps:=2000000) [hP,hN,hv,w1,hw]<;>try refine Ya ?_)|refine X2 ?_ ?_|(refine Xd ?_ ?_<;>intro hcd<;>try exact Xx))
    all_goals (try simp)
   ·skip
    refine Dp Tryz.func227 ?_
    intro C hP hN
    simp only [Tryz.f227] at hN ⊢
    with_reducible repeat' (first|refine Sp.h ?_|((first|refine Wd ?_|refine Ss.h ?_|refine Sc.h (k9 _ _) ?_|refine Sc.h (wP _ _) ?_|refine Sc.h (hf _) ?_|refine Sc.h (zG _ _ _ _) ?_|refine Sc.h (cm) ?_|refine Sc.h (cn) ?_|refine Sc.h (o2) ?_|(refine Sb.h ?_ ?_ ?_<;>(try intro hgd)<;>try exact Xy))<;>simp -implicitDefEqProofs (maxSteps:=2000000) [hP,hN,hv,w1,hw]<;>try refine Ya ?_)|refine X2 ?_ ?_|(refine Xd ?_ ?_<;>intro hcd<;>try exact Xx))
    all_goals (try simp)
   ·skip
    refine Dp Tryz.func227 ?_
    intro C hP hN
    simp only [Tryz.f227] at hN ⊢
    with_reducible repeat' (first|refine Sp.h ?_|((first|refine Wd ?_|refine Ss.h ?_|refine Sc.h (k9 _ _) ?_|refine Sc.h (wP _ _) ?_|refine Sc.h (hf _) ?_|refine Sc.h (zG _ _ _ _) ?_|refine Sc.h (cm) ?_|refine Sc.h (cn) ?_|refine Sc.h (o1) ?_|(refine Sb.h ?_ ?_ ?_<;>(try intro hgd)<;>try exact Xy))<;>simp -implicitDefEqProofs (maxSteps:=2000000) [hP,hN,hv,w1,hw]<;>try refine Ya ?_)|refine X2 ?_ ?_|(refine Xd ?_ ?_<;>intro hcd<;>try exact Xx))
    all_goals (try simp)
   ·skip
    refine Dp Tryz.func227 ?_
    intro C hP hN
    simp only [Tryz.f227] at hN ⊢
    with_reducible repeat' (first|refine Sp.h ?_|((first|refine Wd ?_|refine Ss.h ?_|refine Sc.h (k9 _ _) ?_|refine Sc.h (wP _ _) ?_|refine Sc.h (hf _) ?_|refine Sc.h (zG _ _ _ _) ?_|refine Sc.h (cm) ?_|refine Sc.h (cn) ?_|refine Sc.h (o1) ?_|refine Sc.h (o2) ?_|(refine Sb.h ?_ ?_ ?_<;>(try intro hgd)<;>try exact Xy))<;>simp -implicitDefEqProofs (maxSteps:=2000000) [hP,hN,hv,w1,hw]<;>try refine Ya ?_)|refine X2 ?_ ?_|(refine Xd ?_ ?_<;>intro hcd<;>try exact Xx))
    all_goals (try simp)
def oc (a : Iv) : Iv:=gP a lN 16384 49152
def od (a : Iv) : Iv:=gP a qg 0 32768
theorem Hf {a b : Int} : ah Tryz.prog 221 [.pv (I a b)] [] [] (.pv (bF (oc (a,b)))):=by
 have co:=E4 (a:=a) (b:=b) 229 lN 16384 49152 E2 (by decide) (by decide) (by decide) (by decide)
 refine Dp Tryz.func221 ?_
 intro C hP hN
 simp only [Tryz.f221] at hN ⊢
 refine Gz ?_
 all_goals exact ⟨rfl,rfl⟩
theorem Hg {a b : Int} : ah Tryz.prog 220 [.pv (I a b)] [] [] (.pv (bF (od (a,b)))):=by
 have co:=E4 (a:=a) (b:=b) 228 qg 0 32768 He (by decide) (by decide) (by decide) (by decide)
 refine Dp Tryz.func220 ?_
 intro C hP hN
 simp only [Tryz.f220] at hN ⊢
 refine Gz ?_
 all_goals exact ⟨rfl,rfl⟩
end Go.Ab
