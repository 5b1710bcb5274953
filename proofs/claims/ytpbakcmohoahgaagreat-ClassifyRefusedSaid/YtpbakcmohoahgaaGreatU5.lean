/- The contracts and facts that the laws of this seat need, in one text (Rd, TrA, KV, K1, K2, K2b). -/
import Derived.Test.YtpbakcmohoahgaaGreatU4
import Derived.Test.YtpbakcmohoahgaaGreatRows
set_option linter.all false
set_option maxHeartbeats 16000000
namespace Go.Ab
open Go.Proofs Go.Proofs.YtpbakcmohoahgaaGreat
theorem own : ownKnob Tryz.prog.godebug=none:=by kernel_rfl
theorem kids : Kids Tryz.prog (·< Tryz.prog.types.size):=kids_rows (by kernel_rfl) (by kernel_rfl)
theorem full : ∀ t e,t < Tryz.prog.types.size→Tryz.prog.underlying t=some (.slice e)→0 < Tryz.prog.cellsOf e:=slices_full_of Tryz.prog (by kernel_rfl)
section
variable {H : Type}
theorem vg : o3 H Tryz.prog 3 (fun i=>.val (.int .i64 i)) (fun i=>IntKind.i64.min≤i∧i≤IntKind.i64.max) (fun _=>1):=uL Tryz.underlying3
theorem p9 : o3 H Tryz.prog 22 (fun l : List Int=>.sl (l.map fun i=>.val (.int .i64 i))) (fun l=>l.length≤9223372036854775807∧∀ a ∈ l,IntKind.i64.min≤a∧a≤IntKind.i64.max) (fun l=>(l.map fun _=>1).sum+1):=sx Tryz.underlying22 vg
end
end Go.Ab
namespace Go.Ab
open Go.Proofs
structure Verd where
 kind : Int
 nor : List (Int × Int × Int)
 pair : Int
 left : List Int
 right : List Int
structure Cel where
 joint : Int
 low : Int
 high : Int
 v : Verd
structure Tr where
 root : List (Int × Int)
 cells : List Cel
abbrev av (v : Int × Int × Int) : PV:=.val (.agg #[.int .i64 v.1,.int .i64 v.2.1,.int .i64 v.2.2])
abbrev aT (l : List (Int × Int × Int)) : PV:=.sl (l.map av)
def qN (c : Cel) : Bool:=c.joint==-1 && c.low==-1 && c.high==-1
def vh (p : Int) (l r : List Int) : Bool:=p==0 && (l.length : Int)==0 && (r.length : Int)==0
def sY (v : Verd) : Bool:=if v.kind=0∨v.kind=1 then vh v.pair v.left v.right else if v.kind=2 then ((v.nor.length : Int)==0) else false
def xh (v : Verd) : Bool:=v.kind==0 && ((v.nor.length : Int)==0) && vh v.pair v.left v.right
def vi (r : List (Int × Int)) : Bool:=decide (1≤r.length) && decide (r.length≤10) && dq vI r
end Go.Ab
namespace Go.Ab
open Go.Proofs
theorem fE {α : Type} {p : α→Bool} {xs : List α} : dq p xs=true↔∀ x ∈ xs,p x=true:=List.all_eq_true
abbrev Bx:=List (Int × Int)
abbrev OL:=List (Option Bx)
def mN (n i : Nat) (c : Cel) : Bool:=decide ((i : Int) < c.low) && decide (c.low < n) && decide ((i : Int) < c.high) && decide (c.high < n) && decide (c.low≠c.high) && xh c.v
def nj (n i : Nat) (c : Cel) (L : OL) : Option OL:=
 match L[i]? with
 |some (some b)=>
  if qN c then (if sY c.v then some L else none)
  else if mN n i c then
   if eS b c.joint then
    match L[c.low.toNat]?,L[c.high.toNat]? with
    |some none,some none=>some ((L.set c.low.toNat (some (jH b c.joint))).set c.high.toNat (some (jI b c.joint)))
    |_,_=>none
   else none
  else none
 |_=>none
def qa (n : Nat) : List Cel→Nat→OL→Option OL
 |[],_,L=>some L
 |c :: cs,i,L=>match nj n i c L with
  |some L'=>qa n cs (i+1) L'
  |none=>none
def nk (t : Tr) : OL:=some t.root :: List.replicate (t.cells.length - 1) none
def mO (t : Tr) : Bool:=decide (1≤t.cells.length) && decide (t.cells.length≤2048) && vi t.root
def gh (t : Tr) : Option OL:=if mO t then qa t.cells.length t.cells 0 (nk t) else none
def pu (t : Tr) : Bool:=(gh t).isSome
def gi (t : Tr) : List Bx:=match gh t with
 |some L=>L.map fun x=>x.getD []
 |none=>[]
theorem t6 {n i : Nat} {c : Cel} {L L' : OL} (h : nj n i c L=some L') : ∃ b,L[i]?=some (some b)∧
 ((qN c=true∧sY c.v=true∧L'=L)∨
  (qN c=false∧mN n i c=true∧eS b c.joint=true∧L[c.low.toNat]?=some none∧L[c.high.toNat]?=some none∧
    L'=(L.set c.low.toNat (some (jH b c.joint))).set c.high.toNat (some (jI b c.joint)))):=by
 unfold nj at h
 split at h
 ·rename_i b hb
  refine ⟨b,hb,?_⟩
  split at h
  ·rename_i hl
   split at h
   ·rename_i hf
    injection h with h
    exact .inl ⟨hl,hf,h.symm⟩
   ·cases h
  ·rename_i hl
   split at h
   ·rename_i hi
    split at h
    ·rename_i hh
     split at h
     ·rename_i h1 h2
      injection h with h
      exact .inr ⟨by simpa using hl,hi,hh,h1,h2,h.symm⟩
     ·cases h
    ·cases h
   ·cases h
 ·cases h
theorem t7 {n i : Nat} {c : Cel} : mN n i c=true↔(i : Int) < c.low∧c.low < n∧(i : Int) < c.high∧c.high < n∧c.low≠c.high∧xh c.v=true:=by
 simp [mN,and_assoc]
theorem r7 {n : Nat} {P : Nat→OL→Prop} : ∀ (cs : List Cel) (i : Nat) (L L' : OL),qa n cs i L=some L'→P i L→
 (∀ k c L L',cs[k]?=some c→P (i+k) L→nj n (i+k) c L=some L'→P (i+k+1) L')→P (i+cs.length) L'
 |[],i,L,L',h,h0,_=>by simp [qa] at h;subst h;exact h0
 |c :: cs,i,L,L',h,h0,hs=>by
  simp only [qa] at h
  split at h
  ·rename_i L1 h1
   have h2:=hs 0 c L L1 rfl h0 h1
   have:=r7 cs (i+1) L1 L' h h2 (fun k d M M' hk hp hm=>by
    have e : i+1+k=i+(k+1):=by omega
    rw [e] at hp hm ⊢
    exact hs (k+1) d M M' (by simpa using hk) hp hm)
   have e : i+(c :: cs).length=i+1+cs.length:=by simp;omega
   rw [e];exact this
  ·cases h
theorem vj {t : Tr} {L : OL} {P : Nat→OL→Prop} (h : gh t=some L) (h0 : P 0 (nk t))
 (hs : ∀ i c L L',t.cells[i]?=some c→P i L→nj t.cells.length i c L=some L'→P (i+1) L') : P t.cells.length L:=by
 unfold gh at h
 split at h
 ·have:=r7 t.cells 0 _ _ h h0 (fun k c M M' hk hp hm=>by
   rw [Nat.zero_add] at hp hm ⊢;exact hs k c M M' hk hp hm)
  simpa using this
 ·cases h
theorem sB {t : Tr} {L : OL} (h : gh t=some L) : mO t=true:=by
 unfold gh at h
 split at h
 ·assumption
 ·cases h
theorem t8 {t : Tr} : mO t=true↔1≤t.cells.length∧t.cells.length≤2048∧1≤t.root.length∧t.root.length≤10∧dq vI t.root=true:=by
 simp [mO,vi,and_assoc]
structure BOk (t : Tr) (i : Nat) (L : OL) : Prop where
 len : L.length=t.cells.length
 pre : ∀ j,j < i→∃ b,L[j]?=some (some b)
 ok : ∀ (j : Nat) b,L[j]?=some (some b)→b.length=t.root.length∧dq vI b=true
theorem qx {b : Bx} {j : Int} (h : eS b j=true) : (jH b j).length=b.length∧(jI b j).length=b.length:=by
 unfold jH jI
 rw [h]
 simp only [if_true]
 unfold eS at h
 split<;>simp_all
theorem fR {lo hi : Int} : aH lo hi=true↔-2147483648≤lo∧lo≤hi∧hi≤2147483648:=by
 simp [aH,and_assoc]
theorem sZ {x : Int × Int} (h : aH x.1 x.2=true) : tA x=(x.1+x.2) / 2:=by
 unfold tA
 have h':=fR.1 h
 rw [h,if_pos rfl,show wr (x.1+x.2)=x.1+x.2 from aa (by omega) (by omega),Int.fdiv_eq_ediv]
 simp
theorem r8 {b : Bx} {j : Int} : eS b j=true↔0≤j∧dq vI b=true∧∃ x,b[j.toNat]?=some x∧2≤x.2 - x.1:=by
 unfold eS
 constructor
 ·intro h
  simp only [Bool.and_eq_true,decide_eq_true_eq] at h
  obtain ⟨⟨h1,h2⟩,h3⟩:=h
  refine ⟨h1,h2,?_⟩
  split at h3
  ·rename_i x hx
   refine ⟨x,hx,?_⟩
   have hv:=fR.1 (fE.1 h2 _ (List.mem_of_getElem? hx))
   rw [decide_eq_true_eq,oT,if_pos (fE.1 h2 _ (List.mem_of_getElem? hx)),show wr (x.2 - x.1)=x.2 - x.1 from aa (by omega) (by omega)] at h3
   exact h3
  ·cases h3
 ·rintro ⟨h1,h2,x,hx,h3⟩
  have hv:=fR.1 (fE.1 h2 _ (List.mem_of_getElem? hx))
  have hw : oT x=x.2 - x.1:=by
   rw [oT,if_pos (fE.1 h2 _ (List.mem_of_getElem? hx))]
   exact aa (by omega) (by omega)
  simp [h1,h2,hx,hw,h3]
theorem wy {b : Bx} {j : Int} (h : eS b j=true) : ∃ x,b[j.toNat]?=some x∧aH x.1 x.2=true∧2≤x.2 - x.1∧jH b j=b.set j.toNat (x.1,(x.1+x.2) / 2)∧jI b j=b.set j.toNat ((x.1+x.2) / 2,x.2):=by
 obtain ⟨_,h2,x,hx,h3⟩:=r8.1 h
 have hv : aH x.1 x.2=true:=fE.1 h2 _ (List.mem_of_getElem? hx)
 refine ⟨x,hx,hv,h3,?_,?_⟩
 ·simp [jH,h,hx,sZ hv]
 ·simp [jI,h,hx,sZ hv]
theorem nM {b : Bx} {j : Int} (h : eS b j=true) : dq vI (jH b j)=true∧dq vI (jI b j)=true:=by
 obtain ⟨x,hx,hv,h3,ea,ez⟩:=wy h
 have h2:=(r8.1 h).2.1
 have hv':=fR.1 hv
 rw [ea,ez]
 constructor<;>refine fE.2 fun y hy=>?_
 ·rcases List.mem_or_eq_of_mem_set hy with h|rfl
  ·exact fE.1 h2 _ h
  ·exact fR.2 ⟨by omega,by simp only;omega,by simp only;omega⟩
 ·rcases List.mem_or_eq_of_mem_set hy with h|rfl
  ·exact fE.1 h2 _ h
  ·exact fR.2 ⟨by simp only;omega,by simp only;omega,by omega⟩
theorem wA {t : Tr} (h : mO t=true) : BOk t 0 (nk t):=by
 obtain ⟨h1,h2,h3,h4,h5⟩:=t8.1 h
 refine ⟨by simp [nk];omega,fun j hj=>by omega,fun j b hb=>?_⟩
 cases j with
 |zero=>simp [nk] at hb;subst hb;exact ⟨rfl,h5⟩
 |succ j=>simp [nk,List.getElem?_replicate] at hb
theorem wC {L : OL} {a z : Nat} {x y : Option Bx} {j : Nat} (hne : a≠z) (ha : a < L.length) (hz : z < L.length) : ((L.set a x).set z y)[j]?=if j=z then some y else if j=a then some x else L[j]?:=by
 rw [List.getElem?_set]
 by_cases h1 : z=j
 ·subst h1;simp [hz]
 ·rw [if_neg h1,if_neg (fun h=>h1 h.symm),List.getElem?_set]
  by_cases h2 : a=j
  ·subst h2;simp [ha]
  ·rw [if_neg h2,if_neg (fun h=>h2 h.symm)]
theorem r9 {t : Tr} {i : Nat} {c : Cel} {L : OL} {x y : Option Bx} {j : Nat} (hl : L.length=t.cells.length) (hi : mN t.cells.length i c=true) : ((L.set c.low.toNat x).set c.high.toNat y)[j]?=if j=c.high.toNat then some y else if j=c.low.toNat then some x else L[j]?:=by
 obtain ⟨h1,h2,h3,h4,h5,_⟩:=t7.1 hi
 exact wC (by omega) (by omega) (by omega)
theorem wD {t : Tr} {i : Nat} {c : Cel} {L L' : OL} (h : BOk t i L) (hs : nj t.cells.length i c L=some L') : BOk t (i+1) L':=by
 obtain ⟨b,hb,⟨_,_,rfl⟩|⟨_,hi,hh,hlo,hhi,rfl⟩⟩:=t6 hs
 ·refine ⟨h.len,fun j hj=>?_,h.ok⟩
  by_cases e : j=i
  ·subst e;exact ⟨b,hb⟩
  ·exact h.pre j (by omega)
 ·have hbo:=h.ok i b hb
  refine ⟨by simpa using h.len,fun j hj=>?_,fun j d hd=>?_⟩
  ·rw [r9 h.len hi]
   split
   ·exact ⟨_,rfl⟩
   ·split
    ·exact ⟨_,rfl⟩
    ·by_cases e : j=i
     ·subst e;exact ⟨b,hb⟩
     ·exact h.pre j (by omega)
  ·rw [r9 h.len hi] at hd
   split at hd
   ·injection hd with hd;injection hd with hd;subst hd
    exact ⟨by rw [(qx hh).2];exact hbo.1,(nM hh).2⟩
   ·split at hd
    ·injection hd with hd;injection hd with hd;subst hd
     exact ⟨by rw [(qx hh).1];exact hbo.1,(nM hh).1⟩
    ·exact h.ok j d hd
structure BInv (t : Tr) (i : Nat) (L : OL) : Prop where
 bok : BOk t i L
 run : qa t.cells.length (t.cells.drop i) i L=gh t
theorem mP {t : Tr} {L : OL} (h : gh t=some L) : BOk t t.cells.length L:=
 vj h (wA (sB h)) (fun _ _ _ _ _ hp hm=>wD hp hm)
theorem pw {t : Tr} {L : OL} (h : gh t=some L) : L=(gi t).map some:=by
 have ok:=mP h
 rw [gi,h]
 simp only [List.map_map]
 apply List.ext_getElem?;intro j
 by_cases hj : j < L.length
 ·obtain ⟨b,hb⟩:=ok.pre j (by rw [← ok.len];exact hj)
  simp [hb]
 ·simp [List.getElem?_eq_none (by omega : L.length≤j)]
theorem t9 {t : Tr} (h : pu t=true) : (gi t).length=t.cells.length:=by
 obtain ⟨L,hL⟩:=Option.isSome_iff_exists.1 h
 have:=(mP hL).len
 rw [pw hL] at this
 simpa using this
theorem vk {t : Tr} {j : Nat} {b : Bx} (hb : (gi t)[j]?=some b) : b.length=t.root.length∧dq vI b=true:=by
 cases hL : gh t with
 |none=>simp [gi,hL] at hb
 |some L=>
  have:=(mP hL).ok j b
  rw [pw hL] at this
  exact this (by simp [hb])
end Go.Ab
namespace Go.Ab
open Go.Proofs
def ua (t : Tr) (i : Nat) : Bool:=match t.cells[i]? with
 |some c=>qN c
 |none=>false
end Go.Ab
namespace Go.Ab
open Go.Proofs
structure MTree (t : Tr) : Prop where
 valid : pu t=true
 pos : 1≤t.root.length
 three : t.root.length≤3
 rng : ∀ x ∈ t.root,-40≤x.1∧x.1≤x.2∧x.2≤100
 cells : t.cells.length≤27
 one : 1≤t.cells.length
end Go.Ab
namespace Go.Ab
open Go.Proofs
end Go.Ab
namespace Go.Ab
open Go.Proofs
def eu (t : Tr) (c : Int) : Bx:=(gi t)[c.toNat]?.getD []
theorem wE {t : Tr} (hv : pu t=true) {c : Int} (h : c.toNat < t.cells.length) : (gi t)[c.toNat]?=some (eu t c)∧(eu t c).length=t.root.length∧dq vI (eu t c)=true:=by
 have hl : c.toNat < (gi t).length:=by rw [t9 hv];exact h
 have e : (gi t)[c.toNat]?=some (eu t c):=by simp [eu,List.getElem?_eq_getElem hl]
 exact ⟨e,vk e⟩
def sc (t : Tr) (chain : List Int) (j : Nat) : Bool:=match chain[j]? with
 |some c=>decide (0≤c) && decide (c < t.cells.length) && ua t c.toNat && !((chain.take j).contains c) && (decide (j=0) || oY (eu t (chain[j - 1]?.getD 0)) (eu t c))
 |none=>false
theorem ub {t : Tr} {chain : List Int} {j : Nat} {c : Int} (hc : chain[j]?=some c) : sc t chain j=true↔0≤c∧c < t.cells.length∧ua t c.toNat=true∧c ∉ chain.take j∧(j=0∨oY (eu t (chain[j - 1]?.getD 0)) (eu t c)=true):=by
 simp [sc,hc,and_assoc]
structure ChOk (t : Tr) (chain p q : List Int) : Prop where
 valid : pu t=true
 hp : yu t.root p=true
 hq : yu t.root q=true
 ne : chain≠[]
 all : ∀ j,j < chain.length→sc t chain j=true
namespace ChOk
variable {t : Tr} {chain p q : List Int}
theorem get (h : ChOk t chain p q) {j : Nat} (hj : j < chain.length) : 0≤chain[j]∧chain[j] < t.cells.length∧ua t chain[j].toNat=true∧chain[j] ∉ chain.take j∧(j=0∨oY (eu t (chain[j - 1]?.getD 0)) (eu t chain[j])=true):=
 (ub (List.getElem?_eq_getElem hj)).1 (h.all j hj)
theorem box (h : ChOk t chain p q) {j : Nat} (hj : j < chain.length) : (gi t)[chain[j].toNat]?=some (eu t chain[j])∧(eu t chain[j]).length=t.root.length∧dq vI (eu t chain[j])=true:=by
 have:=h.get hj
 exact wE h.valid (by omega)
theorem touch (h : ChOk t chain p q) {j : Nat} (hj : j+1 < chain.length) : oY (eu t chain[j]) (eu t chain[j+1])=true:=by
 have:=(h.get hj).2.2.2.2
 rcases this with e|e
 ·omega
 ·rw [Nat.add_sub_cancel,List.getElem?_eq_getElem (by omega)] at e;exact e
end ChOk
end Go.Ab
namespace Go.Ab
open Go.Proofs
structure BS where
 far : List Int
 q : List Nat
section
variable (n : Nat) (may has hasF : Nat→Bool) (tch : Nat→Nat→Bool)
def il (far : List Int) (i : Nat) : Int:=far[i]?.getD 0
structure BInv2 (s : BS) : Prop where
 len : s.far.length=n
 cnt : s.far.countP (fun x=>x !=0)=s.q.length
 mem : ∀ j ∈ s.q,j < n∧1≤il s.far j
 nn : ∀ i,0≤il s.far i
 top : ∀ i,il s.far i≤s.q.length
 may' : ∀ i,1≤il s.far i→may i=true
 back : ∀ i,1≤il s.far i→(il s.far i=1∧has i=true)∨∃ p,p < n∧il s.far p=il s.far i - 1∧1≤il s.far p∧tch i p=true
variable {n may has hasF tch}
theorem la {far : List Int} {i j : Nat} {v : Int} (hi : i < far.length) : il (far.set i v) j=if j=i then v else il far j:=by
 unfold il
 rw [List.getElem?_set]
 by_cases h : i=j
 ·subst h;simp [hi]
 ·rw [if_neg h,if_neg (fun e=>h e.symm)]
theorem BInv2.le {s : BS} (h : BInv2 n may has tch s) : s.q.length≤n:=by
 rw [← h.cnt,← h.len];exact List.countP_le_length
theorem xX {far : List Int} {i : Nat} {v : Int} (hi : i < far.length) (h0 : il far i=0) (hv : v≠0) : (far.set i v).countP (fun x=>x !=0)=far.countP (fun x=>x !=0)+1:=by
 have h0' : far[i]=0:=by simpa [il,List.getElem?_eq_getElem hi] using h0
 rw [List.countP_set hi]
 simp [h0',hv]
theorem BInv2.put {s : BS} (h : BInv2 n may has tch s) {i : Nat} {v : Int} (hi : i < n) (h0 : il s.far i=0) (hv : 1≤v) (hm : may i=true) (ht : v≤s.q.length+1)
 (hb : (v=1∧has i=true)∨∃ p,p < n∧il s.far p=v - 1∧1≤il s.far p∧tch i p=true) : BInv2 n may has tch ⟨s.far.set i v,s.q++[i]⟩:=by
 have hil : i < s.far.length:=by rw [h.len];exact hi
 refine ⟨by simpa using h.len,?_,?_,?_,?_,?_,?_⟩
 ·simp only [List.length_append,List.length_singleton];rw [xX hil h0 (by omega),h.cnt]
 ·intro j hj
  simp only [List.mem_append,List.mem_singleton] at hj
  simp only [la hil]
  rcases hj with hj|rfl
  ·refine ⟨(h.mem j hj).1,?_⟩
   split
   ·exact hv
   ·exact (h.mem j hj).2
  ·exact ⟨hi,by simp [hv]⟩
 ·intro j;simp only [la hil];split
  ·omega
  ·exact h.nn j
 ·intro j;simp only [la hil,List.length_append,List.length_singleton]
  have:=h.top j
  split<;>omega
 ·intro j;simp only [la hil];split
  ·rename_i e;rw [e];exact fun _=>hm
  ·exact h.may' j
 ·have hpn : ∀ p,1≤il s.far p→p≠i:=fun p hp e=>by rw [e,h0] at hp;omega
  intro j;simp only [la hil];split
  ·rename_i e;rw [e];intro _
   rcases hb with hb|⟨p,p1,p2,p3,p4⟩
   ·exact .inl hb
   ·exact .inr ⟨p,p1,by rw [if_neg (hpn p p3)];exact p2,by rw [if_neg (hpn p p3)];exact p3,p4⟩
  ·intro hj
   rcases h.back j hj with hb|⟨p,p1,p2,p3,p4⟩
   ·exact .inl hb
   ·exact .inr ⟨p,p1,by rw [if_neg (hpn p p3)];exact p2,by rw [if_neg (hpn p p3)];exact p3,p4⟩
end
end Go.Ab
namespace Go.Ab
open Go.Proofs
set_option maxRecDepth 100000 in
@[simp] theorem Ca : bp Tryz.prog 170:=by
 refine ⟨by kernel_rfl,fun args w=>?_⟩
 refine callsD_of_wpS Tryz.func170 rfl fun c₀ cs hu=>?_
 apply wpS_seq
 apply wpS_region
 have hk : ∀ k,k < Tryz.f170.ntmps→k < args.size+(Tryz.f170.ntmps - args.size):=by intro k h;omega
 rw [Tryz.ntmps170] at hk
 have h0:=hk 0 (by decide)
 have h1:=hk 1 (by decide)
 have h2:=hk 2 (by decide)
 simp [wpOpsS,go_sem,recoverD,hu,Tryz.ntmps170,Exit.thenS,h0,h1,h2]
 refine wpS_cond (t:=false) (by simp [Act.eval,h0,h1,h2]) ?_
 simp only [Bool.false_eq_true,if_false]
 refine wpS_of_wp (wp_skip ?_)
 cases c₀
 simp_all [bodyPostS,results,Tryz.results170]
set_option maxRecDepth 100000 in
@[simp] theorem Cb : bp Tryz.prog 199:=by
 refine ⟨by kernel_rfl,fun args w=>?_⟩
 refine callsD_of_wpS Tryz.func199 rfl fun c₀ cs hu=>?_
 apply wpS_seq
 apply wpS_region
 have hk : ∀ k,k < Tryz.f199.ntmps→k < args.size+(Tryz.f199.ntmps - args.size):=by intro k h;omega
 rw [Tryz.ntmps199] at hk
 have h0:=hk 0 (by decide)
 have h1:=hk 1 (by decide)
 have h2:=hk 2 (by decide)
 simp [wpOpsS,go_sem,recoverD,hu,Tryz.ntmps199,Exit.thenS,h0,h1,h2]
 refine wpS_cond (t:=false) (by simp [Act.eval,h0,h1,h2]) ?_
 simp only [Bool.false_eq_true,if_false]
 refine wpS_of_wp (wp_skip ?_)
 cases c₀
 simp_all [bodyPostS,results,Tryz.results199]
set_option maxRecDepth 100000 in
@[simp] theorem Cc : bp Tryz.prog 197:=by
 refine ⟨by kernel_rfl,fun args w=>?_⟩
 refine callsD_of_wpS Tryz.func197 rfl fun c₀ cs hu=>?_
 apply wpS_seq
 apply wpS_region
 have hk : ∀ k,k < Tryz.f197.ntmps→k < args.size+(Tryz.f197.ntmps - args.size):=by intro k h;omega
 rw [Tryz.ntmps197] at hk
 have h0:=hk 0 (by decide)
 have h1:=hk 1 (by decide)
 have h2:=hk 2 (by decide)
 simp [wpOpsS,go_sem,recoverD,hu,Tryz.ntmps197,Exit.thenS,h0,h1,h2]
 refine wpS_cond (t:=false) (by simp [Act.eval,h0,h1,h2]) ?_
 simp only [Bool.false_eq_true,if_false]
 refine wpS_of_wp (wp_skip ?_)
 cases c₀
 simp_all [bodyPostS,results,Tryz.results197]
set_option maxRecDepth 100000 in
@[simp] theorem Cd : bp Tryz.prog 207:=by
 refine ⟨by kernel_rfl,fun args w=>?_⟩
 refine callsD_of_wpS Tryz.func207 rfl fun c₀ cs hu=>?_
 apply wpS_seq
 apply wpS_region
 have hk : ∀ k,k < Tryz.f207.ntmps→k < args.size+(Tryz.f207.ntmps - args.size):=by intro k h;omega
 rw [Tryz.ntmps207] at hk
 have h0:=hk 0 (by decide)
 have h1:=hk 1 (by decide)
 have h2:=hk 2 (by decide)
 simp [wpOpsS,go_sem,recoverD,hu,Tryz.ntmps207,Exit.thenS,h0,h1,h2]
 refine wpS_cond (t:=false) (by simp [Act.eval,h0,h1,h2]) ?_
 simp only [Bool.false_eq_true,if_false]
 refine wpS_of_wp (wp_skip ?_)
 cases c₀
 simp_all [bodyPostS,results,Tryz.results207]
set_option maxRecDepth 100000 in
@[simp] theorem Cu : bp Tryz.prog 70:=by
 refine ⟨by kernel_rfl,fun args w=>?_⟩
 refine callsD_of_wpS Tryz.func70 rfl fun c₀ cs hu=>?_
 apply wpS_seq
 apply wpS_region
 have hk : ∀ k,k < Tryz.f70.ntmps→k < args.size+(Tryz.f70.ntmps - args.size):=by intro k h;omega
 rw [Tryz.ntmps70] at hk
 have h0:=hk 0 (by decide)
 have h1:=hk 1 (by decide)
 have h2:=hk 2 (by decide)
 have h3:=hk 3 (by decide)
 simp [wpOpsS,go_sem,recoverD,hu,Tryz.ntmps70,Exit.thenS,h0,h1,h2,h3]
 refine wpS_cond (t:=false) (by simp [Act.eval,h0,h1,h2,h3]) ?_
 simp only [Bool.false_eq_true,if_false]
 refine wpS_of_wp (wp_skip ?_)
 cases c₀
 simp_all [bodyPostS,results,Tryz.results70]
set_option maxRecDepth 100000 in
@[simp] theorem Cv : bp Tryz.prog 90:=by
 refine ⟨by kernel_rfl,fun args w=>?_⟩
 refine callsD_of_wpS Tryz.func90 rfl fun c₀ cs hu=>?_
 apply wpS_seq
 apply wpS_region
 have hk : ∀ k,k < Tryz.f90.ntmps→k < args.size+(Tryz.f90.ntmps - args.size):=by intro k h;omega
 rw [Tryz.ntmps90] at hk
 have h0:=hk 0 (by decide)
 have h1:=hk 1 (by decide)
 have h2:=hk 2 (by decide)
 have h3:=hk 3 (by decide)
 simp [wpOpsS,go_sem,recoverD,hu,Tryz.ntmps90,Exit.thenS,h0,h1,h2,h3]
 refine wpS_cond (t:=false) (by simp [Act.eval,h0,h1,h2,h3]) ?_
 simp only [Bool.false_eq_true,if_false]
 refine wpS_of_wp (wp_skip ?_)
 cases c₀
 simp_all [bodyPostS,results,Tryz.results90]
set_option maxRecDepth 100000 in
@[simp] theorem Ce : bp Tryz.prog 195:=by
 refine ⟨by kernel_rfl,fun args w=>?_⟩
 refine callsD_of_wpS Tryz.func195 rfl fun c₀ cs hu=>?_
 apply wpS_seq
 apply wpS_region
 have hk : ∀ k,k < Tryz.f195.ntmps→k < args.size+(Tryz.f195.ntmps - args.size):=by intro k h;omega
 rw [Tryz.ntmps195] at hk
 have h0:=hk 0 (by decide)
 have h1:=hk 1 (by decide)
 have h2:=hk 2 (by decide)
 have h3:=hk 3 (by decide)
 simp [wpOpsS,go_sem,recoverD,hu,Tryz.ntmps195,Exit.thenS,h0,h1,h2,h3]
 refine wpS_cond (t:=false) (by simp [Act.eval,h0,h1,h2,h3]) ?_
 simp only [Bool.false_eq_true,if_false]
 refine wpS_of_wp (wp_skip ?_)
 cases c₀
 simp_all [bodyPostS,results,Tryz.results195]
set_option maxRecDepth 100000 in
@[simp] theorem Cw : bp Tryz.prog 84:=by
 refine ⟨by kernel_rfl,fun args w=>?_⟩
 refine callsD_of_wpS Tryz.func84 rfl fun c₀ cs hu=>?_
 apply wpS_seq
 apply wpS_region
 have hk : ∀ k,k < Tryz.f84.ntmps→k < args.size+(Tryz.f84.ntmps - args.size):=by intro k h;omega
 rw [Tryz.ntmps84] at hk
 have h0:=hk 0 (by decide)
 have h1:=hk 1 (by decide)
 have h2:=hk 2 (by decide)
 have h3:=hk 3 (by decide)
 simp [wpOpsS,go_sem,recoverD,hu,Tryz.ntmps84,Exit.thenS,h0,h1,h2,h3]
 refine wpS_cond (t:=false) (by simp [Act.eval,h0,h1,h2,h3]) ?_
 simp only [Bool.false_eq_true,if_false]
 refine wpS_of_wp (wp_skip ?_)
 cases c₀
 simp_all [bodyPostS,results,Tryz.results84]
set_option maxRecDepth 100000 in
@[simp] theorem Cy : bp Tryz.prog 79:=by
 refine ⟨by kernel_rfl,fun args w=>?_⟩
 refine callsD_of_wpS Tryz.func79 rfl fun c₀ cs hu=>?_
 apply wpS_seq
 apply wpS_region
 have hk : ∀ k,k < Tryz.f79.ntmps→k < args.size+(Tryz.f79.ntmps - args.size):=by intro k h;omega
 rw [Tryz.ntmps79] at hk
 have h0:=hk 0 (by decide)
 have h1:=hk 1 (by decide)
 have h2:=hk 2 (by decide)
 have h3:=hk 3 (by decide)
 simp [wpOpsS,go_sem,recoverD,hu,Tryz.ntmps79,Exit.thenS,h0,h1,h2,h3]
 refine wpS_cond (t:=false) (by simp [Act.eval,h0,h1,h2,h3]) ?_
 simp only [Bool.false_eq_true,if_false]
 refine wpS_of_wp (wp_skip ?_)
 cases c₀
 simp_all [bodyPostS,results,Tryz.results79]
set_option maxRecDepth 100000 in
@[simp] theorem Cf : bp Tryz.prog 301:=by
 refine ⟨by kernel_rfl,fun args w=>?_⟩
 refine callsD_of_wpS Tryz.func301 rfl fun c₀ cs hu=>?_
 apply wpS_seq
 apply wpS_region
 have hk : ∀ k,k < Tryz.f301.ntmps→k < args.size+(Tryz.f301.ntmps - args.size):=by intro k h;omega
 rw [Tryz.ntmps301] at hk
 have h0:=hk 0 (by decide)
 have h1:=hk 1 (by decide)
 have h2:=hk 2 (by decide)
 have h3:=hk 3 (by decide)
 simp [wpOpsS,go_sem,recoverD,hu,Tryz.ntmps301,Exit.thenS,h0,h1,h2,h3]
 refine wpS_cond (t:=false) (by simp [Act.eval,h0,h1,h2,h3]) ?_
 simp only [Bool.false_eq_true,if_false]
 refine wpS_of_wp (wp_skip ?_)
 cases c₀
 simp_all [bodyPostS,results,Tryz.results301]
set_option maxRecDepth 100000 in
@[simp] theorem Cg : bp Tryz.prog 204:=by
 refine ⟨by kernel_rfl,fun args w=>?_⟩
 refine callsD_of_wpS Tryz.func204 rfl fun c₀ cs hu=>?_
 apply wpS_seq
 apply wpS_region
 have hk : ∀ k,k < Tryz.f204.ntmps→k < args.size+(Tryz.f204.ntmps - args.size):=by intro k h;omega
 rw [Tryz.ntmps204] at hk
 have h0:=hk 0 (by decide)
 have h1:=hk 1 (by decide)
 have h2:=hk 2 (by decide)
 have h3:=hk 3 (by decide)
 simp [wpOpsS,go_sem,recoverD,hu,Tryz.ntmps204,Exit.thenS,h0,h1,h2,h3]
 refine wpS_cond (t:=false) (by simp [Act.eval,h0,h1,h2,h3]) ?_
 simp only [Bool.false_eq_true,if_false]
 refine wpS_of_wp (wp_skip ?_)
 cases c₀
 simp_all [bodyPostS,results,Tryz.results204]
end Go.Ab
namespace Go.Ab
open Go.Proofs
theorem xW {P : Program} (D : Nat) {t e : TypeId} (ht : P.underlying t=some (.array 3 e)) (hs : ai P (sizeOf e)=some 1) (e0 : ∀ x y : Int,ai P (Op.equalIn D e (.int .i64 x) (.int .i64 y))=some (x==y)) {xs ys : Array Value} {a b c a' b' c' : Int}
 (p0 : ai P (part e xs (0 * 1))=some (.int .i64 a)) (p1 : ai P (part e xs (1 * 1))=some (.int .i64 b)) (p2 : ai P (part e xs (2 * 1))=some (.int .i64 c))
 (q0 : ai P (part e ys (0 * 1))=some (.int .i64 a')) (q1 : ai P (part e ys (1 * 1))=some (.int .i64 b')) (q2 : ai P (part e ys (2 * 1))=some (.int .i64 c')) :
 ai P (Op.equalIn (D+1) t (.agg xs) (.agg ys))=some (a==a' && b==b' && c==c'):=by
 simp only [Op.equalIn,ag,ei ht,Option.bind_some]
 simp only [hs,Option.bind_some,Std.Legacy.Range.forIn_eq_forIn_range',Std.Legacy.Range.size]
 have hr : List.range' 0 ((3 - 0+1 - 1) / 1) 1=[0,1,2]:=by decide
 rw [hr]
 simp only [List.forIn_cons,List.forIn_nil,ag,p0,q0,e0,Option.bind_some]
 cases h1 : (a==a')
 ·simp [bJ]
 simp only [Bool.not_true,Bool.false_eq_true,if_false,bJ,Option.bind_some,ag,p1,q1,e0]
 cases h2 : (b==b')
 ·simp [bJ]
 simp only [Bool.not_true,Bool.false_eq_true,if_false,bJ,Option.bind_some,ag,p2,q2,e0]
 cases h3 : (c==c')
 ·simp [bJ]
 ·simp [bJ]
theorem zJ (a b e c d f : Int) : ai Tryz.prog (Op.equal 126 (.agg #[.int .i64 a,.int .i64 b,.int .i64 e]) (.agg #[.int .i64 c,.int .i64 d,.int .i64 f]))=some (a==c && b==d && e==f):=
 xW 9999 Tryz.underlying126 (by kernel_rfl) (fun x y=>mt (P:=Tryz.prog) 9998 2 .i64 .i64 x y Tryz.underlying2) (by kernel_rfl) (by kernel_rfl) (by kernel_rfl) (by kernel_rfl) (by kernel_rfl) (by kernel_rfl)
def qM (x : AV) : Option (Int × Int × Int):=match x with
 |.pv (.val (.agg vs))=>match vs.toList with
  |[.int .i64 a,.int .i64 b,.int .i64 c]=>some (a,b,c)
  |_=>none
 |_=>none
theorem pt {x : AV} {a b c : Int} (h : qM x=some (a,b,c)) : x=.pv (av (a,b,c)):=by
 unfold qM at h
 split at h
 ·split at h
  ·rename_i vs _ a' b' c' hv
   injection h with h;injection h with h1 h2;injection h2 with h2 h3;subst h1;subst h2;subst h3
   rw [← Array.toArray_toList (xs:=vs),hv]
  ·cases h
 ·cases h
def wx (x y : AV) (fb : Option bR) : Option bR:=match qM x,qM y with
 |some (a,b,e),some (c,d,f)=>some (.pv (.val (.bool !(a==c && b==d && e==f))),[])
 |_,_=>fb
@[simp] theorem z9 (a b e c d f : Int) (fb : Option bR) : wx (.pv (.val (.agg #[.int .i64 a,.int .i64 b,.int .i64 e]))) (.pv (.val (.agg #[.int .i64 c,.int .i64 d,.int .i64 f]))) fb=some (.pv (.val (.bool !(a==c && b==d && e==f))),[]):=rfl
@[simp] theorem C9 {dst : Option Nat} {ty : TypeId} {pos : String} {aft : Array Edge} {g : Option (Nat × Bool)} {ρ : Operand→AV} (x y : Operand) :
 aP Tryz.prog ⟨dst,.binOp .neq 126 x y 126,ty,pos,aft,g⟩ ρ=wx (ρ x) (ρ y) (jq Tryz.prog ⟨dst,.binOp .neq 126 x y 126,ty,pos,aft,g⟩ ρ):=by
 unfold wx
 split
 ·rename_i a b e c d f hx hy
  exact oR rfl (pt hx) (pt hy) (by kernel_rfl) (zJ a b e c d f)
 ·rfl
end Go.Ab
namespace Go.Ab
open Go.Proofs
abbrev Iv:=Int × Int
def iZ (a : Int) : Int:=min (max a (-2147483648)) 2147483648
def cD (a m : Int) : Int:=-((-a) / m)
theorem bq {a b : Int} (m n : Nat) (ha : -(m : Int)≤a) (ha' : a≤m) (hb : -(n : Int)≤b) (hb' : b≤n) : -((m * n : Nat) : Int)≤a * b∧a * b≤((m * n : Nat) : Int):=by
 have h1 : (a * b).natAbs≤m * n:=by
  rw [Int.natAbs_mul]
  exact Nat.mul_le_mul (by omega) (by omega)
 omega
theorem uM (a : Int) (m : Nat) : a.fdiv (m : Int)=a / (m : Int):=Int.fdiv_eq_ediv_of_nonneg a (by omega)
theorem yD (a : Int) : a.fdiv 65536=a / 65536:=uM a 65536
theorem yE (a : Int) : a.fdiv 16384=a / 16384:=uM a 16384
theorem yF (a : Int) : a.fdiv 1073741824=a / 1073741824:=uM a 1073741824
theorem ry (a : Int) (ha : -4611686018427387904≤a) (hb : a≤4611686018427387904) : ab Tryz.prog 399 [.pv (Z a),.pv (Z 16)] [] [] (.pv (Z (cD a 65536))):=by
 have h1 : a.fdiv (2 ^ min 16 IntKind.i64.bits)=a / 65536:=yD a
 have h2 : IntKind.i64.wrap (a / 65536 * 2 ^ min 16 IntKind.i64.bits)=a / 65536 * 65536:=by
  show IntKind.i64.wrap (a / 65536 * 65536)=_
  exact aa (by omega) (by omega)
 have h3 : IntKind.i64.wrap (a / 65536+1)=a / 65536+1:=aa (by omega) (by omega)
 by_cases he : a / 65536 * 65536=a
 ·have hf : cD a 65536=a / 65536:=by unfold cD;omega
  rw [hf]
  refine Dp Tryz.func399 ?_
  intro C hP hN
  simp only [Tryz.f399] at hN ⊢
  with_reducible repeat' (first|refine Sp.h ?_|((first|refine Ss.h ?_|(refine Sb.h ?_ ?_ ?_<;>(try intro hgd)<;>try exact Xy))<;>simp -implicitDefEqProofs (maxSteps:=2000000) [hP,hN,h1,h2,h3,he])|refine X2 ?_ ?_|(refine Xd ?_ ?_<;>intro hcd<;>try exact Xx))
 ·have hf : cD a 65536=a / 65536+1:=by unfold cD;omega
  rw [hf]
  have he' : (a / 65536 * 65536==a)=false:=by simpa using he
  refine Dp Tryz.func399 ?_
  intro C hP hN
  simp only [Tryz.f399] at hN ⊢
  with_reducible repeat' (first|refine Sp.h ?_|((first|refine Ss.h ?_|(refine Sb.h ?_ ?_ ?_<;>(try intro hgd)<;>try exact Xy))<;>simp -implicitDefEqProofs (maxSteps:=2000000) [hP,hN,h1,h2,h3,he,he'])|refine X2 ?_ ?_|(refine Xd ?_ ?_<;>intro hcd<;>try exact Xx))
theorem yH (a : Int) : ab Tryz.prog 294 [.pv (Z a),.pv (Z 16)] [] [] (.pv (Z (a / 65536))):=by
 have h1 : a.fdiv (2 ^ min 16 IntKind.i64.bits)=a / 65536:=yD a
 refine Dp Tryz.func294 ?_
 intro C hP hN
 simp only [Tryz.f294] at hN ⊢
 with_reducible repeat' (first|refine Sp.h ?_|((first|refine Ss.h ?_|(refine Sb.h ?_ ?_ ?_<;>(try intro hgd)<;>try exact Xy))<;>simp -implicitDefEqProofs (maxSteps:=2000000) [hP,hN,h1])|refine X2 ?_ ?_|(refine Xd ?_ ?_<;>intro hcd<;>try exact Xx))
theorem AI (a : Int) (ha : -4611686018427387904≤a) (hb : a≤4611686018427387904) : ab Tryz.prog 399 [.pv (Z a),.pv (Z 14)] [] [] (.pv (Z (cD a 16384))):=by
 have h1 : a.fdiv (2 ^ min 14 IntKind.i64.bits)=a / 16384:=yE a
 have h2 : IntKind.i64.wrap (a / 16384 * 2 ^ min 14 IntKind.i64.bits)=a / 16384 * 16384:=by
  show IntKind.i64.wrap (a / 16384 * 16384)=_
  exact aa (by omega) (by omega)
 have h3 : IntKind.i64.wrap (a / 16384+1)=a / 16384+1:=aa (by omega) (by omega)
 by_cases he : a / 16384 * 16384=a
 ·have hf : cD a 16384=a / 16384:=by unfold cD;omega
  rw [hf]
  refine Dp Tryz.func399 ?_
  intro C hP hN
  simp only [Tryz.f399] at hN ⊢
  with_reducible repeat' (first|refine Sp.h ?_|((first|refine Ss.h ?_|(refine Sb.h ?_ ?_ ?_<;>(try intro hgd)<;>try exact Xy))<;>simp -implicitDefEqProofs (maxSteps:=2000000) [hP,hN,h1,h2,h3,he])|refine X2 ?_ ?_|(refine Xd ?_ ?_<;>intro hcd<;>try exact Xx))
 ·have hf : cD a 16384=a / 16384+1:=by unfold cD;omega
  rw [hf]
  have he' : (a / 16384 * 16384==a)=false:=by simpa using he
  refine Dp Tryz.func399 ?_
  intro C hP hN
  simp only [Tryz.f399] at hN ⊢
  with_reducible repeat' (first|refine Sp.h ?_|((first|refine Ss.h ?_|(refine Sb.h ?_ ?_ ?_<;>(try intro hgd)<;>try exact Xy))<;>simp -implicitDefEqProofs (maxSteps:=2000000) [hP,hN,h1,h2,h3,he,he'])|refine X2 ?_ ?_|(refine Xd ?_ ?_<;>intro hcd<;>try exact Xx))
theorem AJ (a : Int) : ab Tryz.prog 294 [.pv (Z a),.pv (Z 14)] [] [] (.pv (Z (a / 16384))):=by
 have h1 : a.fdiv (2 ^ min 14 IntKind.i64.bits)=a / 16384:=yE a
 refine Dp Tryz.func294 ?_
 intro C hP hN
 simp only [Tryz.f294] at hN ⊢
 with_reducible repeat' (first|refine Sp.h ?_|((first|refine Ss.h ?_|(refine Sb.h ?_ ?_ ?_<;>(try intro hgd)<;>try exact Xy))<;>simp -implicitDefEqProofs (maxSteps:=2000000) [hP,hN,h1])|refine X2 ?_ ?_|(refine Xd ?_ ?_<;>intro hcd<;>try exact Xx))
theorem AK (a : Int) (ha : -4611686018427387904≤a) (hb : a≤4611686018427387904) : ab Tryz.prog 399 [.pv (Z a),.pv (Z 30)] [] [] (.pv (Z (cD a 1073741824))):=by
 have h1 : a.fdiv (2 ^ min 30 IntKind.i64.bits)=a / 1073741824:=yF a
 have h2 : IntKind.i64.wrap (a / 1073741824 * 2 ^ min 30 IntKind.i64.bits)=a / 1073741824 * 1073741824:=by
  show IntKind.i64.wrap (a / 1073741824 * 1073741824)=_
  exact aa (by omega) (by omega)
 have h3 : IntKind.i64.wrap (a / 1073741824+1)=a / 1073741824+1:=aa (by omega) (by omega)
 by_cases he : a / 1073741824 * 1073741824=a
 ·have hf : cD a 1073741824=a / 1073741824:=by unfold cD;omega
  rw [hf]
  refine Dp Tryz.func399 ?_
  intro C hP hN
  simp only [Tryz.f399] at hN ⊢
  with_reducible repeat' (first|refine Sp.h ?_|((first|refine Ss.h ?_|(refine Sb.h ?_ ?_ ?_<;>(try intro hgd)<;>try exact Xy))<;>simp -implicitDefEqProofs (maxSteps:=2000000) [hP,hN,h1,h2,h3,he])|refine X2 ?_ ?_|(refine Xd ?_ ?_<;>intro hcd<;>try exact Xx))
 ·have hf : cD a 1073741824=a / 1073741824+1:=by unfold cD;omega
  rw [hf]
  have he' : (a / 1073741824 * 1073741824==a)=false:=by simpa using he
  refine Dp Tryz.func399 ?_
  intro C hP hN
  simp only [Tryz.f399] at hN ⊢
  with_reducible repeat' (first|refine Sp.h ?_|((first|refine Ss.h ?_|(refine Sb.h ?_ ?_ ?_<;>(try intro hgd)<;>try exact Xy))<;>simp -implicitDefEqProofs (maxSteps:=2000000) [hP,hN,h1,h2,h3,he,he'])|refine X2 ?_ ?_|(refine Xd ?_ ?_<;>intro hcd<;>try exact Xx))
theorem AL (a : Int) : ab Tryz.prog 294 [.pv (Z a),.pv (Z 30)] [] [] (.pv (Z (a / 1073741824))):=by
 have h1 : a.fdiv (2 ^ min 30 IntKind.i64.bits)=a / 1073741824:=yF a
 refine Dp Tryz.func294 ?_
 intro C hP hN
 simp only [Tryz.f294] at hN ⊢
 with_reducible repeat' (first|refine Sp.h ?_|((first|refine Ss.h ?_|(refine Sb.h ?_ ?_ ?_<;>(try intro hgd)<;>try exact Xy))<;>simp -implicitDefEqProofs (maxSteps:=2000000) [hP,hN,h1])|refine X2 ?_ ?_|(refine Xd ?_ ?_<;>intro hcd<;>try exact Xx))
def kF (x y : Iv) : Iv:=if aH x.1 x.2 && aH y.1 y.2 then (iZ (x.1+y.1),iZ (x.2+y.2)) else (0,0)
def gn (x : Iv) : Iv:=if aH x.1 x.2 then (-x.2,-x.1) else (0,0)
def n5 (x y : Iv) : Iv:=if aH x.1 x.2 && aH y.1 y.2 then
 (iZ (min (x.1 * y.1) (min (x.1 * y.2) (min (x.2 * y.1) (x.2 * y.2))) / 65536),iZ (cD (max (x.1 * y.1) (max (x.1 * y.2) (max (x.2 * y.1) (x.2 * y.2)))) 65536)) else (0,0)
def ma (x : Int) : Iv:=(iZ x,iZ x)
theorem fu {a b : Int} : aH a b=true↔-2147483648≤a∧a≤b∧b≤2147483648:=by
 simp only [aH,Bool.and_eq_true,decide_eq_true_eq]
 constructor
 ·rintro ⟨⟨h1,h2⟩,h3⟩;exact ⟨h1,h2,h3⟩
 ·rintro ⟨h1,h2,h3⟩;exact ⟨⟨h1,h2⟩,h3⟩
theorem wR (a b : Int) : ab Tryz.prog 440 [.pv (Z a),.pv (Z b)] [] [] (.pv (I (iZ a) (iZ b))):=yn a b
theorem pQ (a : Int) : ab Tryz.prog 421 [.pv (Z a)] [] [] (.pv (I (iZ a) (iZ a))):=As a
theorem bo {a b c d : Int} : ab Tryz.prog 437 [.pv (I a b),.pv (I c d)] [] [] (.pv (bF (kF (a,b) (c,d)))):=by
 cases hv : (aH a b && aH c d) with
 |false=>
  have hr : kF (a,b) (c,d)=(0,0):=by simp [kF,hv]
  rw [hr]
  refine Dp Tryz.func437 ?_
  intro C hP hN
  simp only [Tryz.f437] at hN ⊢
  with_reducible repeat' (first|refine Sp.h ?_|((first|refine Ss.h ?_|refine Sc.h (ro _ _ _ _) ?_|(refine Sb.h ?_ ?_ ?_<;>(try intro hgd)<;>try exact Xy))<;>simp -implicitDefEqProofs (maxSteps:=2000000) [hP,hN,hv])|refine X2 ?_ ?_|(refine Xd ?_ ?_<;>intro hcd<;>try exact Xx))
 |true=>
  have hr : kF (a,b) (c,d)=(iZ (a+c),iZ (b+d)):=by simp only [kF,hv,if_true]
  rw [hr]
  have hv':=hv
  rw [Bool.and_eq_true,fu,fu] at hv'
  have w1 : IntKind.i64.wrap (a+c)=a+c:=aa (by omega) (by omega)
  have w2 : IntKind.i64.wrap (b+d)=b+d:=aa (by omega) (by omega)
  refine Dp Tryz.func437 ?_
  intro C hP hN
  simp only [Tryz.f437] at hN ⊢
  with_reducible repeat' (first|refine Sp.h ?_|((first|refine Ss.h ?_|refine Sc.h (ro _ _ _ _) ?_|refine Sc.h (wR _ _) ?_|(refine Sb.h ?_ ?_ ?_<;>(try intro hgd)<;>try exact Xy))<;>simp -implicitDefEqProofs (maxSteps:=2000000) [hP,hN,hv,w1,w2])|refine X2 ?_ ?_|(refine Xd ?_ ?_<;>intro hcd<;>try exact Xx))
theorem vR {a b : Int} : ab Tryz.prog 458 [.pv (I a b)] [] [] (.pv (bF (gn (a,b)))):=by
 cases hv : aH a b with
 |false=>
  have hr : gn (a,b)=(0,0):=by simp [gn,hv]
  rw [hr]
  refine Dp Tryz.func458 ?_
  intro C hP hN
  simp only [Tryz.f458] at hN ⊢
  with_reducible repeat' (first|refine Sp.h ?_|((first|refine Ss.h ?_|refine Sc.h (eJ _ _) ?_|(refine Sb.h ?_ ?_ ?_<;>(try intro hgd)<;>try exact Xy))<;>simp -implicitDefEqProofs (maxSteps:=2000000) [hP,hN,hv])|refine X2 ?_ ?_|(refine Xd ?_ ?_<;>intro hcd<;>try exact Xx))
 |true=>
  have hr : gn (a,b)=(-b,-a):=by simp only [gn,hv,if_true]
  rw [hr]
  have hv':=hv
  rw [fu] at hv'
  have w1 : IntKind.i64.wrap (-b)=-b:=aa (by omega) (by omega)
  have w2 : IntKind.i64.wrap (-a)=-a:=aa (by omega) (by omega)
  have w3 : IntKind.i64.wrap (0 - b)=-b:=(aa (n:=0 - b) (by omega) (by omega)).trans (by omega)
  have w4 : IntKind.i64.wrap (0 - a)=-a:=(aa (n:=0 - a) (by omega) (by omega)).trans (by omega)
  refine Dp Tryz.func458 ?_
  intro C hP hN
  simp only [Tryz.f458] at hN ⊢
  with_reducible repeat' (first|refine Sp.h ?_|((first|refine Ss.h ?_|refine Sc.h (eJ _ _) ?_|(refine Sb.h ?_ ?_ ?_<;>(try intro hgd)<;>try exact Xy))<;>simp -implicitDefEqProofs (maxSteps:=2000000) [hP,hN,hv,w1,w2,w3,w4])|refine X2 ?_ ?_|(refine Xd ?_ ?_<;>intro hcd<;>try exact Xx))
theorem AM (a b : Int) (ha : -4611686018427387904≤b) (hb : b≤4611686018427387904) : ab Tryz.prog 446 [.pv (Z a),.pv (Z b)] [] [] (.pv (I (iZ (a / 65536)) (iZ (cD b 65536)))):=by
 refine Dp Tryz.func446 ?_
 intro C hP hN
 simp only [Tryz.f446] at hN ⊢
 with_reducible repeat' (first|refine Sp.h ?_|((first|refine Ss.h ?_|refine Sc.h (yH _) ?_|refine Sc.h (ry _ ha hb) ?_|refine Sc.h (wR _ _) ?_|(refine Sb.h ?_ ?_ ?_<;>(try intro hgd)<;>try exact Xy))<;>simp -implicitDefEqProofs (maxSteps:=2000000) [hP,hN])|refine X2 ?_ ?_|(refine Xd ?_ ?_<;>intro hcd<;>try exact Xx))
@[simp] theorem Du : IntKind.i64.wrap 1=1:=by decide
@[simp] theorem Dv : IntKind.i64.wrap 2=2:=by decide
@[simp] theorem Dw : IntKind.i64.wrap 3=3:=by decide
@[simp] theorem Dx : IntKind.i64.wrap 4=4:=by decide
theorem AN {i : Nat} (h : i≤4) : i=0∨i=1∨i=2∨i=3∨i=4:=by omega
theorem bI {a b c d : Int} : ab Tryz.prog 438 [.pv (I a b),.pv (I c d)] [] [] (.pv (bF (n5 (a,b) (c,d)))):=by
 cases hv : (aH a b && aH c d) with
 |false=>
  have hr : n5 (a,b) (c,d)=(0,0):=by simp [n5,hv]
  rw [hr]
  refine Dp Tryz.func438 ?_
  intro C hP hN
  simp only [Tryz.f438] at hN ⊢
  with_reducible repeat' (first|refine Sp.h ?_|((first|refine Wd ?_|refine Ss.h ?_|refine Sc.h (ro _ _ _ _) ?_|(refine Sb.h ?_ ?_ ?_<;>(try intro hgd)<;>try exact Xy))<;>simp -implicitDefEqProofs (maxSteps:=2000000) [hP,hN,hv]<;>try refine Ya ?_)|refine X2 ?_ ?_|(refine Xd ?_ ?_<;>intro hcd<;>try exact Xx))
 |true=>
  have hv':=hv
  rw [Bool.and_eq_true,fu,fu] at hv'
  have m1:=bq (a:=a) (b:=c) 2147483648 2147483648 (by omega) (by omega) (by omega) (by omega)
  have m2:=bq (a:=a) (b:=d) 2147483648 2147483648 (by omega) (by omega) (by omega) (by omega)
  have m3:=bq (a:=b) (b:=c) 2147483648 2147483648 (by omega) (by omega) (by omega) (by omega)
  have m4:=bq (a:=b) (b:=d) 2147483648 2147483648 (by omega) (by omega) (by omega) (by omega)
  have w1 : IntKind.i64.wrap (a * c)=a * c:=aa (by omega) (by omega)
  have w2 : IntKind.i64.wrap (a * d)=a * d:=aa (by omega) (by omega)
  have w3 : IntKind.i64.wrap (b * c)=b * c:=aa (by omega) (by omega)
  have w4 : IntKind.i64.wrap (b * d)=b * d:=aa (by omega) (by omega)
  have hr : n5 (a,b) (c,d)=(iZ (min (a * c) (min (a * d) (min (b * c) (b * d))) / 65536),iZ (cD (max (a * c) (max (a * d) (max (b * c) (b * d)))) 65536)):=by simp only [n5,hv,if_true]
  rw [hr]
  generalize hp0 : a * c=p0 at *
  generalize hp1 : a * d=p1 at *
  generalize hp2 : b * c=p2 at *
  generalize hp3 : b * d=p3 at *
  have cs:=AM (min p0 (min p1 (min p2 p3))) (max p0 (max p1 (max p2 p3))) (by omega) (by omega)
  refine Dp Tryz.func438 ?_
  intro C hP hN
  simp only [Tryz.f438] at hN ⊢
  with_reducible repeat' (first|refine Sp.h ?_|((first|refine Wd ?_|refine Ss.h ?_|refine Sc.h (ro _ _ _ _) ?_|(refine Sb.h ?_ ?_ ?_<;>(try intro hgd)<;>try exact Xy))<;>simp -implicitDefEqProofs (maxSteps:=2000000) [hP,hN,hv,w1,w2,w3,w4,hp0,hp1,hp2,hp3]<;>try refine Ya ?_)|refine X2 ?_ ?_|(refine Xd ?_ ?_<;>intro hcd<;>try exact Xx))
  refine WP.loopN [] 4 (fun i st=>st.t 4=.ptr 4 0∧st.h 4=some (.box [.pv (Z 0),.pv (Z 0)] true false)∧st.t 40=.pv (.val (.agg #[.int .i64 p0,.int .i64 p1,.int .i64 p2,.int .i64 p3]))∧st.t 41=.pv (Z i)∧
   st.t 6=.pv (Z (if i≤1 then p0 else if i=2 then min p0 p1 else if i=3 then min p0 (min p1 p2) else min p0 (min p1 (min p2 p3))))∧st.t 7=.pv (Z (if i≤1 then p0 else if i=2 then max p0 p1 else if i=3 then max p0 (max p1 p2) else max p0 (max p1 (max p2 p3))))) (by simp) ?_
  rintro i st hi ⟨g4,hb4,g40,g41,g6,g7⟩
  rcases AN hi with rfl|rfl|rfl|rfl|rfl
  all_goals (simp at g6 g7)
  ·skip
   with_reducible repeat' (first|refine Sp.h ?_|((first|refine Wd ?_|refine Ss.h ?_|(refine Sb.h ?_ ?_ ?_<;>(try intro hgd)<;>try exact Xy))<;>simp -implicitDefEqProofs (maxSteps:=2000000) [hP,hN,g4,hb4,g40,g41,g6,g7]<;>try refine Ya ?_)|refine X2 ?_ ?_|(refine Xd ?_ ?_<;>intro hcd<;>try exact Xx))
  ·skip
   with_reducible repeat' (first|refine Sp.h ?_|((first|refine Wd ?_|refine Ss.h ?_|(refine Sb.h ?_ ?_ ?_<;>(try intro hgd)<;>try exact Xy))<;>simp -implicitDefEqProofs (maxSteps:=2000000) [hP,hN,g4,hb4,g40,g41,g6,g7]<;>try refine Ya ?_)|refine X2 ?_ ?_|(refine Xd ?_ ?_<;>intro hcd<;>try exact Xx))
  ·skip
   with_reducible repeat' (first|refine Sp.h ?_|((first|refine Wd ?_|refine Ss.h ?_|(refine Sb.h ?_ ?_ ?_<;>(try intro hgd)<;>try exact Xy))<;>simp -implicitDefEqProofs (maxSteps:=2000000) [hP,hN,g4,hb4,g40,g41,g6,g7]<;>try refine Ya ?_)|refine X2 ?_ ?_|(refine Xd ?_ ?_<;>intro hcd<;>try exact Xx))
  ·skip
   with_reducible repeat' (first|refine Sp.h ?_|((first|refine Wd ?_|refine Ss.h ?_|(refine Sb.h ?_ ?_ ?_<;>(try intro hgd)<;>try exact Xy))<;>simp -implicitDefEqProofs (maxSteps:=2000000) [hP,hN,g4,hb4,g40,g41,g6,g7]<;>try refine Ya ?_)|refine X2 ?_ ?_|(refine Xd ?_ ?_<;>intro hcd<;>try exact Xx))
  ·skip
   with_reducible repeat' (first|refine Sp.h ?_|((first|refine Wd ?_|refine Ss.h ?_|refine Sc.h (cs) ?_|(refine Sb.h ?_ ?_ ?_<;>(try intro hgd)<;>try exact Xy))<;>simp -implicitDefEqProofs (maxSteps:=2000000) [hP,hN,g4,hb4,g40,g41,g6,g7]<;>try refine Ya ?_)|refine X2 ?_ ?_|(refine Xd ?_ ?_<;>intro hcd<;>try exact Xx))
end Go.Ab
namespace Go.Ab
open Go.Proofs
def dU (x : Int) : Nat→Int
 |0=>1073741824
 |1=>x * 6746518852 / 65536
 |k+2=>dU x (k+1) * (x * 6746518852 / 65536) / 1073741824
def dV (x : Int) : Nat→Int
 |0=>1073741824
 |1=>cD (x * 6746518853) 65536
 |k+2=>cD (dV x (k+1) * cD (x * 6746518853) 65536) 1073741824
theorem kZ {x : Int} (h0 : 0≤x) (h1 : x≤8192) : ∀ k,0≤dU x k∧dU x k≤1073741824
 |0=>by simp [dU]
 |1=>by simp only [dU];omega
 |k+2=>by
  have h:=kZ h0 h1 (k+1)
  have h2 : 0≤x * 6746518852 / 65536∧x * 6746518852 / 65536≤1073741824:=by omega
  simp only [dU]
  generalize x * 6746518852 / 65536=y at *
  have h3:=Int.mul_nonneg h.1 h2.1
  have h4:=Int.mul_le_mul h.2 h2.2 h2.1 (by decide : (0 : Int)≤1073741824)
  omega
theorem k5 {x : Int} (h0 : 0≤x) (h1 : x≤8192) : ∀ k,0≤dV x k∧dV x k≤1073741824
 |0=>by simp [dV]
 |1=>by simp only [dV,cD];omega
 |k+2=>by
  have h:=k5 h0 h1 (k+1)
  have h2 : 0≤cD (x * 6746518853) 65536∧cD (x * 6746518853) 65536≤1073741824:=by unfold cD;omega
  simp only [dV]
  generalize cD (x * 6746518853) 65536=y at *
  have h3:=Int.mul_nonneg h.1 h2.1
  have h4:=Int.mul_le_mul h.2 h2.2 h2.1 (by decide : (0 : Int)≤1073741824)
  unfold cD
  omega
theorem sS {x : Int} (h0 : 0≤x) (h1 : x≤8192) (j : Nat) : 0≤dU x j * dU x 1∧dU x j * dU x 1≤1152921504606846976:=by
 have h:=kZ h0 h1 j
 have h2:=kZ h0 h1 1
 have h3:=Int.mul_nonneg h.1 h2.1
 have h4:=Int.mul_le_mul h.2 h2.2 h2.1 (by decide : (0 : Int)≤1073741824)
 omega
theorem nf {x : Int} (h0 : 0≤x) (h1 : x≤8192) (j : Nat) : 0≤dV x j * dV x 1∧dV x j * dV x 1≤1152921504606846976:=by
 have h:=k5 h0 h1 j
 have h2:=k5 h0 h1 1
 have h3:=Int.mul_nonneg h.1 h2.1
 have h4:=Int.mul_le_mul h.2 h2.2 h2.1 (by decide : (0 : Int)≤1073741824)
 omega
def i4 (f : Nat→Int) (n : Nat) : List AV:=[.pv (Z (if 0 < n then f 0 else 0)),.pv (Z (if 1 < n then f 1 else 0)),.pv (Z (if 2 < n then f 2 else 0)),.pv (Z (if 3 < n then f 3 else 0)),.pv (Z (if 4 < n then f 4 else 0)),.pv (Z (if 5 < n then f 5 else 0)),
 .pv (Z (if 6 < n then f 6 else 0)),.pv (Z (if 7 < n then f 7 else 0)),.pv (Z (if 8 < n then f 8 else 0)),.pv (Z (if 9 < n then f 9 else 0)),.pv (Z (if 10 < n then f 10 else 0))]
abbrev xe (f : Nat→Int) : PV:=.val (.agg #[.int .i64 (f 0),.int .i64 (f 1),.int .i64 (f 2),.int .i64 (f 3),.int .i64 (f 4),.int .i64 (f 5),.int .i64 (f 6),.int .i64 (f 7),.int .i64 (f 8),.int .i64 (f 9),.int .i64 (f 10)])
@[simp] theorem DC : IntKind.i64.wrap 5=5:=by decide
@[simp] theorem DD : IntKind.i64.wrap 6=6:=by decide
@[simp] theorem DE : IntKind.i64.wrap 7=7:=by decide
@[simp] theorem DF : IntKind.i64.wrap 8=8:=by decide
@[simp] theorem DG : IntKind.i64.wrap 9=9:=by decide
@[simp] theorem CS : IntKind.i64.wrap 10=10:=by decide
@[simp] theorem CT : IntKind.i64.wrap 11=11:=by decide
set_option maxRecDepth 4000 in
theorem yY (x : Int) (h0 : 0≤x) (h1 : x≤8192) : ab Tryz.prog 472 [.pv (Z x)] [] [] (.pv (.tup [xe (dU x),xe (dV x)])):=by
 have w1 : IntKind.i64.wrap (x * 6746518852)=x * 6746518852:=aa (by omega) (by omega)
 have w2 : IntKind.i64.wrap (x * 6746518853)=x * 6746518853:=aa (by omega) (by omega)
 have c1 : ab Tryz.prog 294 [.pv (Z (x * 6746518852)),.pv (Z 16)] [] [] (.pv (Z (dU x 1))):=yH _
 have c2 : ab Tryz.prog 399 [.pv (Z (x * 6746518853)),.pv (Z 16)] [] [] (.pv (Z (dV x 1))):=ry _ (by omega) (by omega)
 have m1 : ∀ j,IntKind.i64.wrap (dU x j * dU x 1)=dU x j * dU x 1:=fun j=>aa (by have:=sS h0 h1 j;omega) (by have:=sS h0 h1 j;omega)
 have m2 : ∀ j,IntKind.i64.wrap (dV x j * dV x 1)=dV x j * dV x 1:=fun j=>aa (by have:=nf h0 h1 j;omega) (by have:=nf h0 h1 j;omega)
 have c3 : ∀ j,ab Tryz.prog 294 [.pv (Z (dU x (j+1) * dU x 1)),.pv (Z 30)] [] [] (.pv (Z (dU x (j+2)))):=fun j=>AL _
 have c4 : ∀ j,ab Tryz.prog 399 [.pv (Z (dV x (j+1) * dV x 1)),.pv (Z 30)] [] [] (.pv (Z (dV x (j+2)))):=fun j=>AK _ (by have:=nf h0 h1 (j+1);omega) (by have:=nf h0 h1 (j+1);omega)
 have z1 : dU x 0=1073741824:=rfl
 have z2 : dV x 0=1073741824:=rfl
 generalize dU x=f at *
 generalize dV x=g at *
 refine Dp Tryz.func472 ?_
 intro C hP hN
 simp only [Tryz.f472] at hN ⊢
 with_reducible repeat' (first|refine Sp.h ?_|((first|refine Wd ?_|refine Ss.h ?_|refine Sc.h (c1) ?_|refine Sc.h (c2) ?_|(refine Sb.h ?_ ?_ ?_<;>(try intro hgd)<;>try exact Xy))<;>simp -implicitDefEqProofs (maxSteps:=2000000) [hP,hN,w1,w2,z1,z2]<;>try refine Ya ?_)|refine X2 ?_ ?_|(refine Xd ?_ ?_<;>intro hcd<;>try exact Xx))
 refine WP.loopN [] 9 (fun i st=>st.t 2=.ptr 2 0∧st.t 3=.ptr 3 0∧st.t 4=.ptr 4 0∧st.t 5=.ptr 5 0∧st.t 6=.pv (Z (i+2 : Nat))∧st.h 2=some (.box (i4 f 0) true false)∧st.h 3=some (.box (i4 f 0) true false)∧st.h 4=some (.box (i4 f (i+2)) true false)∧st.h 5=some (.box (i4 g (i+2)) true false)) (by simp [i4,z1,z2]) ?_
 rintro i st hi ⟨g2,g3,g4,g5,g6,hb2,hb3,hb4,hb5⟩
 have hc : i=0∨i=1∨i=2∨i=3∨i=4∨i=5∨i=6∨i=7∨i=8∨i=9:=by omega
 rcases hc with rfl|rfl|rfl|rfl|rfl|rfl|rfl|rfl|rfl|rfl
 all_goals (simp only [i4] at hb2 hb3 hb4 hb5;simp at g6 hb2 hb3 hb4 hb5)
 all_goals skip
 ·skip
  with_reducible repeat' (first|refine Sp.h ?_|((first|refine Wd ?_|refine Ss.h ?_|refine Sc.h (c3 0) ?_|refine Sc.h (c4 0) ?_|(refine Sb.h ?_ ?_ ?_<;>(try intro hgd)<;>try exact Xy))<;>simp -implicitDefEqProofs (maxSteps:=2000000) [hP,hN,g2,g3,g4,g5,g6,hb2,hb3,hb4,hb5,m1,m2,i4]<;>try refine Ya ?_)|refine X2 ?_ ?_|(refine Xd ?_ ?_<;>intro hcd<;>try exact Xx))
 ·skip
  with_reducible repeat' (first|refine Sp.h ?_|((first|refine Wd ?_|refine Ss.h ?_|refine Sc.h (c3 1) ?_|refine Sc.h (c4 1) ?_|(refine Sb.h ?_ ?_ ?_<;>(try intro hgd)<;>try exact Xy))<;>simp -implicitDefEqProofs (maxSteps:=2000000) [hP,hN,g2,g3,g4,g5,g6,hb2,hb3,hb4,hb5,m1,m2,i4]<;>try refine Ya ?_)|refine X2 ?_ ?_|(refine Xd ?_ ?_<;>intro hcd<;>try exact Xx))
 ·skip
  with_reducible repeat' (first|refine Sp.h ?_|((first|refine Wd ?_|refine Ss.h ?_|refine Sc.h (c3 2) ?_|refine Sc.h (c4 2) ?_|(refine Sb.h ?_ ?_ ?_<;>(try intro hgd)<;>try exact Xy))<;>simp -implicitDefEqProofs (maxSteps:=2000000) [hP,hN,g2,g3,g4,g5,g6,hb2,hb3,hb4,hb5,m1,m2,i4]<;>try refine Ya ?_)|refine X2 ?_ ?_|(refine Xd ?_ ?_<;>intro hcd<;>try exact Xx))
 ·skip
  with_reducible repeat' (first|refine Sp.h ?_|((first|refine Wd ?_|refine Ss.h ?_|refine Sc.h (c3 3) ?_|refine Sc.h (c4 3) ?_|(refine Sb.h ?_ ?_ ?_<;>(try intro hgd)<;>try exact Xy))<;>simp -implicitDefEqProofs (maxSteps:=2000000) [hP,hN,g2,g3,g4,g5,g6,hb2,hb3,hb4,hb5,m1,m2,i4]<;>try refine Ya ?_)|refine X2 ?_ ?_|(refine Xd ?_ ?_<;>intro hcd<;>try exact Xx))
 ·skip
  with_reducible repeat' (first|refine Sp.h ?_|((first|refine Wd ?_|refine Ss.h ?_|refine Sc.h (c3 4) ?_|refine Sc.h (c4 4) ?_|(refine Sb.h ?_ ?_ ?_<;>(try intro hgd)<;>try exact Xy))<;>simp -implicitDefEqProofs (maxSteps:=2000000) [hP,hN,g2,g3,g4,g5,g6,hb2,hb3,hb4,hb5,m1,m2,i4]<;>try refine Ya ?_)|refine X2 ?_ ?_|(refine Xd ?_ ?_<;>intro hcd<;>try exact Xx))
 ·skip
  with_reducible repeat' (first|refine Sp.h ?_|((first|refine Wd ?_|refine Ss.h ?_|refine Sc.h (c3 5) ?_|refine Sc.h (c4 5) ?_|(refine Sb.h ?_ ?_ ?_<;>(try intro hgd)<;>try exact Xy))<;>simp -implicitDefEqProofs (maxSteps:=2000000) [hP,hN,g2,g3,g4,g5,g6,hb2,hb3,hb4,hb5,m1,m2,i4]<;>try refine Ya ?_)|refine X2 ?_ ?_|(refine Xd ?_ ?_<;>intro hcd<;>try exact Xx))
 ·skip
  with_reducible repeat' (first|refine Sp.h ?_|((first|refine Wd ?_|refine Ss.h ?_|refine Sc.h (c3 6) ?_|refine Sc.h (c4 6) ?_|(refine Sb.h ?_ ?_ ?_<;>(try intro hgd)<;>try exact Xy))<;>simp -implicitDefEqProofs (maxSteps:=2000000) [hP,hN,g2,g3,g4,g5,g6,hb2,hb3,hb4,hb5,m1,m2,i4]<;>try refine Ya ?_)|refine X2 ?_ ?_|(refine Xd ?_ ?_<;>intro hcd<;>try exact Xx))
 ·skip
  with_reducible repeat' (first|refine Sp.h ?_|((first|refine Wd ?_|refine Ss.h ?_|refine Sc.h (c3 7) ?_|refine Sc.h (c4 7) ?_|(refine Sb.h ?_ ?_ ?_<;>(try intro hgd)<;>try exact Xy))<;>simp -implicitDefEqProofs (maxSteps:=2000000) [hP,hN,g2,g3,g4,g5,g6,hb2,hb3,hb4,hb5,m1,m2,i4]<;>try refine Ya ?_)|refine X2 ?_ ?_|(refine Xd ?_ ?_<;>intro hcd<;>try exact Xx))
 ·skip
  with_reducible repeat' (first|refine Sp.h ?_|((first|refine Wd ?_|refine Ss.h ?_|refine Sc.h (c3 8) ?_|refine Sc.h (c4 8) ?_|(refine Sb.h ?_ ?_ ?_<;>(try intro hgd)<;>try exact Xy))<;>simp -implicitDefEqProofs (maxSteps:=2000000) [hP,hN,g2,g3,g4,g5,g6,hb2,hb3,hb4,hb5,m1,m2,i4]<;>try refine Ya ?_)|refine X2 ?_ ?_|(refine Xd ?_ ?_<;>intro hcd<;>try exact Xx))
 ·skip
  with_reducible repeat' (first|refine Sp.h ?_|((first|refine Wd ?_|refine Ss.h ?_|(refine Sb.h ?_ ?_ ?_<;>(try intro hgd)<;>try exact Xy))<;>simp -implicitDefEqProofs (maxSteps:=2000000) [hP,hN,g2,g3,g4,g5,g6,hb2,hb3,hb4,hb5,m1,m2,i4]<;>try refine Ya ?_)|refine X2 ?_ ?_|(refine Xd ?_ ?_<;>intro hcd<;>try exact Xx))
end Go.Ab
namespace Go.Ab
open Go.Proofs
def ig (i : Nat) : Int:=if i % 2=0 then 1 else -1
def jQ (xs : List Int) : Nat→Int
 |0=>0
 |i+1=>jQ xs i+ig i * (xs[i]?).getD 0
def dA (xs : List Int) : Int:=jQ xs xs.length
theorem sT (i : Nat) (x : Int) : (ig i * x=x∨ig i * x=-x):=by unfold ig;split<;>simp
theorem rJ (i : Nat) : ig (i+1)=-ig i:=by unfold ig;split<;>split<;>omega
theorem lF {xs : List Int} (hb : ∀ x ∈ xs,-1099511627776≤x∧x≤1099511627776) : ∀ i : Nat,-((i : Int) * 1099511627776)≤jQ xs i∧jQ xs i≤(i : Int) * 1099511627776
 |0=>by simp [jQ]
 |i+1=>by
  have h:=lF hb i
  have h2 : -1099511627776≤(xs[i]?).getD 0∧(xs[i]?).getD 0≤1099511627776:=by
   cases hx : xs[i]? with
   |none=>simp
   |some y=>exact hb y (List.mem_of_getElem? hx)
  have h3:=sT i ((xs[i]?).getD 0)
  simp only [jQ]
  omega
theorem tP (xs : List Int) (hl : xs.length≤1000) (hb : ∀ x ∈ xs,-1099511627776≤x∧x≤1099511627776) : ab Tryz.prog 473 [.pv (zs xs)] [] [] (.pv (Z (dA xs))):=by
 refine Dp Tryz.func473 ?_
 intro C hP hN
 simp only [Tryz.f473] at hN ⊢
 with_reducible repeat' (first|refine Sp.h ?_|((first|refine Ss.h ?_|(refine Sb.h ?_ ?_ ?_<;>(try intro hgd)<;>try exact Xy))<;>simp -implicitDefEqProofs (maxSteps:=2000000) [hP,hN])|refine X2 ?_ ?_|(refine Xd ?_ ?_<;>intro hcd<;>try exact Xx))
 refine WP.loopN [] xs.length (fun i st=>st.t 3=.pv (Z (jQ xs i))∧st.t 4=.pv (Z (ig i))∧st.t 7=.pv (zs xs)∧st.t 8=.pv (Z xs.length)∧st.t 9=.pv (Z i)) (by simp [jQ,ig]) ?_
 rintro i st hi ⟨g3,g4,g7,g8,g9⟩
 by_cases hlt : i < xs.length
 ·have hw:=aJ hlt (by omega)
  have hxi : xs[i]?=some xs[i]:=List.getElem?_eq_getElem hlt
  have hr:=hb xs[i] (List.getElem_mem hlt)
  have ha:=lF hb i
  have h3:=sT i xs[i]
  have w1 : IntKind.i64.wrap (ig i * xs[i])=ig i * xs[i]:=aa (by omega) (by omega)
  have w2 : IntKind.i64.wrap (jQ xs i+ig i * xs[i])=jQ xs (i+1):=(aa (by omega) (by omega)).trans (by simp [jQ,hxi])
  have w3 : IntKind.i64.wrap (-ig i)=ig (i+1):=by
   rw [rJ];unfold ig;split<;>decide
  have w4 : IntKind.i64.wrap (0 - ig i)=ig (i+1):=by
   rw [rJ];unfold ig;split<;>decide
  with_reducible repeat' (first|refine Sp.h ?_|((first|refine Ss.h ?_|(refine Sb.h ?_ ?_ ?_<;>(try intro hgd)<;>try exact Xy))<;>simp -implicitDefEqProofs (maxSteps:=2000000) [hP,hN,g3,g4,g7,g8,g9,hlt,hw,w1,w2,w3,w4])|refine X2 ?_ ?_|(refine Xd ?_ ?_<;>intro hcd<;>try exact Xx))
 ·skip
  with_reducible repeat' (first|refine Sp.h ?_|((first|refine Ss.h ?_|(refine Sb.h ?_ ?_ ?_<;>(try intro hgd)<;>try exact Xy))<;>simp -implicitDefEqProofs (maxSteps:=2000000) [hP,hN,g3,g4,g7,g8,g9,hlt])|refine X2 ?_ ?_|(refine Xd ?_ ?_<;>intro hcd<;>try exact Xx))
  all_goals (have : i=xs.length:=by omega
             subst this;rfl)
def db (n d : Int) : Int:=(n+d - 1) / d
theorem lG (n d : Int) (hn : 0≤n) (hn' : n≤1099511627776) (hd : 1≤d) (hd' : d≤1099511627776) : ab Tryz.prog 474 [.pv (Z n),.pv (Z d)] [] [] (.pv (Z (db n d))):=by
 have w1 : IntKind.i64.wrap (n+d)=n+d:=aa (by omega) (by omega)
 have w2 : IntKind.i64.wrap (n+d - 1)=n+d - 1:=aa (by omega) (by omega)
 have hq : (n+d - 1).tdiv d=(n+d - 1) / d:=Int.tdiv_eq_ediv_of_nonneg (by omega)
 have hq1 : 0≤(n+d - 1) / d:=Int.ediv_nonneg (by omega) (by omega)
 have hq2 : (n+d - 1) / d≤n+d - 1:=Int.ediv_le_self _ (by omega)
 have w3 : IntKind.i64.wrap ((n+d - 1) / d)=(n+d - 1) / d:=aa (by omega) (by omega)
 have hne : d≠0:=by omega
 refine Dp Tryz.func474 ?_
 intro C hP hN
 simp only [Tryz.f474] at hN ⊢
 with_reducible repeat' (first|refine Sp.h ?_|((first|refine Ss.h ?_|(refine Sb.h ?_ ?_ ?_<;>(try intro hgd)<;>try exact Xy))<;>simp -implicitDefEqProofs (maxSteps:=2000000) [hP,hN,w1,w2,w3,hq,hne])|refine X2 ?_ ?_|(refine Xd ?_ ?_<;>intro hcd<;>try exact Xx))
 all_goals rfl
def pX (lo hi : Int) : Iv:=(max 0 (lo / 16384),min 65536 (cD hi 16384))
theorem yZ (lo hi : Int) (h1 : -4611686018427387904≤hi) (h2 : hi≤4611686018427387904) : ab Tryz.prog 475 [.pv (Z lo),.pv (Z hi)] [] [] (.pv (bF (pX lo hi))):=by
 refine Dp Tryz.func475 ?_
 intro C hP hN
 simp only [Tryz.f475] at hN ⊢
 with_reducible repeat' (first|refine Sp.h ?_|((first|refine Ss.h ?_|refine Sc.h (AJ _) ?_|refine Sc.h (AI _ h1 h2) ?_|(refine Sb.h ?_ ?_ ?_<;>(try intro hgd)<;>try exact Xy))<;>simp -implicitDefEqProofs (maxSteps:=2000000) [hP,hN])|refine X2 ?_ ?_|(refine Xd ?_ ?_<;>intro hcd<;>try exact Xx))
 all_goals simp [pX]
def jj (f g : Nat→Int) : List Int:=[f 1,db (g 3) 6,f 5 / 120,db (g 7) 5040]
def gU (f g : Nat→Int) : List Int:=[g 1,f 3 / 6,db (g 5) 120,f 7 / 5040,db (g 9) 362880]
def lH (f g : Nat→Int) : List Int:=[1073741824,db (g 2) 2,f 4 / 24,db (g 6) 720,f 8 / 40320,db (g 10) 3628800]
def jR (f g : Nat→Int) : List Int:=[1073741824,f 2 / 2,db (g 4) 24,f 6 / 720,db (g 8) 40320]
def qL (x : Int) : Iv:=pX (dA (jj (dU x) (dV x))) (dA (gU (dU x) (dV x)))
def tQ (x : Int) : Iv:=pX (dA (lH (dU x) (dV x))) (dA (jR (dU x) (dV x)))
theorem eL {n d : Int} (h0 : 0≤n) (h1 : n≤1073741824) (hd : 1≤d) (hd' : d≤4000000) : 0≤db n d∧db n d≤1099511627776:=by
 unfold db
 have hq1 : 0≤(n+d - 1) / d:=Int.ediv_nonneg (by omega) (by omega)
 have hq2 : (n+d - 1) / d≤n+d - 1:=Int.ediv_le_self _ (by omega)
 omega
theorem rL {f : Nat→Int} (hf : ∀ j,0≤f j∧f j≤1073741824) (j : Nat) (d : Int) : (f j).tdiv d=f j / d:=Int.tdiv_eq_ediv_of_nonneg (hf j).1
theorem qv {f : Nat→Int} (hf : ∀ j,0≤f j∧f j≤1073741824) (j : Nat) {d : Int} (hd : 0 < d) : 0≤f j / d∧f j / d≤1073741824:=by
 have h:=hf j
 have hq1 : 0≤f j / d:=Int.ediv_nonneg (by omega) (by omega)
 have hq2 : f j / d≤f j:=Int.ediv_le_self _ (by omega)
 omega
theorem rO {f : Nat→Int} (hf : ∀ j,0≤f j∧f j≤1073741824) (j : Nat) {d : Int} (hd : 0 < d) : IntKind.i64.wrap (f j / d)=f j / d:=by
 have:=qv hf j hd
 exact aa (by omega) (by omega)
theorem Bd (x : Int) (h0 : 0≤x) (h1 : x≤8192) : ab Tryz.prog 470 [.pv (Z x)] [] [] (.pv (bF (qL x))):=by
 have cp:=yY x h0 h1
 have hf:=kZ h0 h1
 have hg:=k5 h0 h1
 show ab _ _ _ _ _ (.pv (bF (pX (dA (jj (dU x) (dV x))) (dA (gU (dU x) (dV x))))))
 generalize dU x=f at *
 generalize dV x=g at *
 have k1 : ∀ y ∈ jj f g,-1099511627776≤y∧y≤1099511627776:=by
  intro y hy
  have a1:=hf 1
  have a2:=eL (d:=6) (hg 3).1 (hg 3).2 (by decide) (by decide)
  have a3:=qv hf 5 (d:=120) (by decide)
  have a4:=eL (d:=5040) (hg 7).1 (hg 7).2 (by decide) (by decide)
  simp only [jj,List.mem_cons,List.not_mem_nil,or_false] at hy
  rcases hy with rfl|rfl|rfl|rfl<;>omega
 have k2 : ∀ y ∈ gU f g,-1099511627776≤y∧y≤1099511627776:=by
  intro y hy
  have a1:=hg 1
  have a2:=eL (d:=120) (hg 5).1 (hg 5).2 (by decide) (by decide)
  have a3:=qv hf 3 (d:=6) (by decide)
  have a4:=eL (d:=362880) (hg 9).1 (hg 9).2 (by decide) (by decide)
  have a5:=qv hf 7 (d:=5040) (by decide)
  simp only [gU,List.mem_cons,List.not_mem_nil,or_false] at hy
  rcases hy with rfl|rfl|rfl|rfl|rfl<;>omega
 have b2:=lF k2 5
 have b3 : -(((5 : Nat) : Int) * 1099511627776)≤dA (gU f g)∧dA (gU f g)≤((5 : Nat) : Int) * 1099511627776:=b2
 have ca : ab Tryz.prog 473 [.pv (.sl [Z (f 1),Z (db (g 3) 6),Z (f 5 / 120),Z (db (g 7) 5040)])] [] [] (.pv (Z (dA (jj f g)))):=tP (jj f g) (by simp [jj]) k1
 have cb : ab Tryz.prog 473 [.pv (.sl [Z (g 1),Z (f 3 / 6),Z (db (g 5) 120),Z (f 7 / 5040),Z (db (g 9) 362880)])] [] [] (.pv (Z (dA (gU f g)))):=tP (gU f g) (by simp [gU]) k2
 have c3:=lG (g 3) 6 (hg 3).1 (by have:=hg 3;omega) (by decide) (by decide)
 have c7:=lG (g 7) 5040 (hg 7).1 (by have:=hg 7;omega) (by decide) (by decide)
 have c5:=lG (g 5) 120 (hg 5).1 (by have:=hg 5;omega) (by decide) (by decide)
 have c9:=lG (g 9) 362880 (hg 9).1 (by have:=hg 9;omega) (by decide) (by decide)
 have ce:=yZ (dA (jj f g)) (dA (gU f g)) (by omega) (by omega)
 generalize dA (jj f g)=lo at *
 generalize dA (gU f g)=hi at *
 have t1:=rL hf 5 120
 have t2:=rL hf 3 6
 have t3:=rL hf 7 5040
 have w1:=rO hf 5 (d:=120) (by decide)
 have w2:=rO hf 3 (d:=6) (by decide)
 have w3:=rO hf 7 (d:=5040) (by decide)
 refine Dp Tryz.func470 ?_
 intro C hP hN
 simp only [Tryz.f470] at hN ⊢
 with_reducible repeat' (first|refine Sp.h ?_|((first|refine Wd ?_|refine Ss.h ?_|refine Sc.h (cp) ?_|refine Sc.h (c3) ?_|refine Sc.h (c7) ?_|refine Sc.h (c5) ?_|refine Sc.h (c9) ?_|refine Sc.h (ca) ?_|refine Sc.h (cb) ?_|refine Sc.h (ce) ?_|(refine Sb.h ?_ ?_ ?_<;>(try intro hgd)<;>try exact Xy))<;>simp -implicitDefEqProofs (maxSteps:=2000000) [hP,hN,t1,t2,t3,w1,w2,w3]<;>try refine Ya ?_)|refine X2 ?_ ?_|(refine Xd ?_ ?_<;>intro hcd<;>try exact Xx))
theorem Be (x : Int) (h0 : 0≤x) (h1 : x≤8192) : ab Tryz.prog 471 [.pv (Z x)] [] [] (.pv (bF (tQ x))):=by
 have cp:=yY x h0 h1
 have hf:=kZ h0 h1
 have hg:=k5 h0 h1
 show ab _ _ _ _ _ (.pv (bF (pX (dA (lH (dU x) (dV x))) (dA (jR (dU x) (dV x))))))
 generalize dU x=f at *
 generalize dV x=g at *
 have k1 : ∀ y ∈ lH f g,-1099511627776≤y∧y≤1099511627776:=by
  intro y hy
  have a2:=eL (d:=2) (hg 2).1 (hg 2).2 (by decide) (by decide)
  have a3:=qv hf 4 (d:=24) (by decide)
  have a4:=eL (d:=720) (hg 6).1 (hg 6).2 (by decide) (by decide)
  have a5:=qv hf 8 (d:=40320) (by decide)
  have a6:=eL (d:=3628800) (hg 10).1 (hg 10).2 (by decide) (by decide)
  simp only [lH,List.mem_cons,List.not_mem_nil,or_false] at hy
  rcases hy with rfl|rfl|rfl|rfl|rfl|rfl<;>omega
 have k2 : ∀ y ∈ jR f g,-1099511627776≤y∧y≤1099511627776:=by
  intro y hy
  have a2:=eL (d:=24) (hg 4).1 (hg 4).2 (by decide) (by decide)
  have a3:=qv hf 2 (d:=2) (by decide)
  have a4:=eL (d:=40320) (hg 8).1 (hg 8).2 (by decide) (by decide)
  have a5:=qv hf 6 (d:=720) (by decide)
  simp only [jR,List.mem_cons,List.not_mem_nil,or_false] at hy
  rcases hy with rfl|rfl|rfl|rfl|rfl<;>omega
 have b2:=lF k2 5
 have b3 : -(((5 : Nat) : Int) * 1099511627776)≤dA (jR f g)∧dA (jR f g)≤((5 : Nat) : Int) * 1099511627776:=b2
 have ca : ab Tryz.prog 473 [.pv (.sl [Z 1073741824,Z (db (g 2) 2),Z (f 4 / 24),Z (db (g 6) 720),Z (f 8 / 40320),Z (db (g 10) 3628800)])] [] [] (.pv (Z (dA (lH f g)))):=tP (lH f g) (by simp [lH]) k1
 have cb : ab Tryz.prog 473 [.pv (.sl [Z 1073741824,Z (f 2 / 2),Z (db (g 4) 24),Z (f 6 / 720),Z (db (g 8) 40320)])] [] [] (.pv (Z (dA (jR f g)))):=tP (jR f g) (by simp [jR]) k2
 have c2:=lG (g 2) 2 (hg 2).1 (by have:=hg 2;omega) (by decide) (by decide)
 have c6:=lG (g 6) 720 (hg 6).1 (by have:=hg 6;omega) (by decide) (by decide)
 have c10:=lG (g 10) 3628800 (hg 10).1 (by have:=hg 10;omega) (by decide) (by decide)
 have c4:=lG (g 4) 24 (hg 4).1 (by have:=hg 4;omega) (by decide) (by decide)
 have c8:=lG (g 8) 40320 (hg 8).1 (by have:=hg 8;omega) (by decide) (by decide)
 have ce:=yZ (dA (lH f g)) (dA (jR f g)) (by omega) (by omega)
 generalize dA (lH f g)=lo at *
 generalize dA (jR f g)=hi at *
 have t1:=rL hf 4 24
 have t2:=rL hf 8 40320
 have t3:=rL hf 2 2
 have t4:=rL hf 6 720
 have w1:=rO hf 4 (d:=24) (by decide)
 have w2:=rO hf 8 (d:=40320) (by decide)
 have w3:=rO hf 2 (d:=2) (by decide)
 have w4:=rO hf 6 (d:=720) (by decide)
 refine Dp Tryz.func471 ?_
 intro C hP hN
 simp only [Tryz.f471] at hN ⊢
 with_reducible repeat' (first|refine Sp.h ?_|((first|refine Wd ?_|refine Ss.h ?_|refine Sc.h (cp) ?_|refine Sc.h (c2) ?_|refine Sc.h (c6) ?_|refine Sc.h (c10) ?_|refine Sc.h (c4) ?_|refine Sc.h (c8) ?_|refine Sc.h (ca) ?_|refine Sc.h (cb) ?_|refine Sc.h (ce) ?_|(refine Sb.h ?_ ?_ ?_<;>(try intro hgd)<;>try exact Xy))<;>simp -implicitDefEqProofs (maxSteps:=2000000) [hP,hN,t1,t2,t3,t4,w1,w2,w3,w4]<;>try refine Ya ?_)|refine X2 ?_ ?_|(refine Xd ?_ ?_<;>intro hcd<;>try exact Xx))
def dr (r : Int) : Iv:=if r≤8192 then qL r else tQ (16384 - r)
theorem y1 (r : Int) (h0 : 0≤r) (h1 : r≤16384) : ab Tryz.prog 469 [.pv (Z r)] [] [] (.pv (bF (dr r))):=by
 have w1 : IntKind.i64.wrap (16384 - r)=16384 - r:=aa (by omega) (by omega)
 by_cases h : r≤8192
 ·have hf : dr r=qL r:=by simp [dr,h]
  have cs:=Bd r h0 h
  rw [hf]
  generalize qL r=y at *
  refine Dp Tryz.func469 ?_
  intro C hP hN
  simp only [Tryz.f469] at hN ⊢
  with_reducible repeat' (first|refine Sp.h ?_|((first|refine Ss.h ?_|refine Sc.h (cs) ?_|(refine Sb.h ?_ ?_ ?_<;>(try intro hgd)<;>try exact Xy))<;>simp -implicitDefEqProofs (maxSteps:=2000000) [hP,hN,h])|refine X2 ?_ ?_|(refine Xd ?_ ?_<;>intro hcd<;>try exact Xx))
 ·have hf : dr r=tQ (16384 - r):=by simp [dr,h]
  have cs:=Be (16384 - r) (by omega) (by omega)
  rw [hf]
  generalize tQ (16384 - r)=y at *
  refine Dp Tryz.func469 ?_
  intro C hP hN
  simp only [Tryz.f469] at hN ⊢
  with_reducible repeat' (first|refine Sp.h ?_|((first|refine Ss.h ?_|refine Sc.h (cs) ?_|(refine Sb.h ?_ ?_ ?_<;>(try intro hgd)<;>try exact Xy))<;>simp -implicitDefEqProofs (maxSteps:=2000000) [hP,hN,h,w1])|refine X2 ?_ ?_|(refine Xd ?_ ?_<;>intro hcd<;>try exact Xx))
theorem zH (a : Int) : kz .and .i64 a 65535=a % 65536:=by
 unfold kz
 have h1 : (BitVec.ofInt 64 a &&& BitVec.ofInt 64 65535).toNat=(a % 65536).toNat:=by
  rw [BitVec.toNat_and,BitVec.toNat_ofInt,BitVec.toNat_ofInt]
  have e1 : ((65535 : Int) % ((2 ^ 64 : Nat) : Int)).toNat=2 ^ 16 - 1:=by decide
  rw [e1,Nat.and_two_pow_sub_one_eq_mod]
  have h0 : 0≤a % ((2 ^ 64 : Nat) : Int):=Int.emod_nonneg _ (by decide)
  have h2 : (a % ((2 ^ 64 : Nat) : Int)) % 65536=a % 65536:=Int.emod_emod_of_dvd a (by decide)
  omega
 show IntKind.i64.wrap ((BitVec.ofInt 64 a &&& BitVec.ofInt 64 65535).toNat : Int)=_
 rw [h1,IntKind.wrap_i64]
 have:=Int.emod_nonneg a (b:=65536) (by decide)
 have:=Int.emod_lt_of_pos a (b:=65536) (by decide)
 omega
theorem we (a : Int) : ab Tryz.prog 468 [.pv (Z a)] [] [] (.pv (Z (a % 65536))):=by
 refine Dp Tryz.func468 ?_
 intro C hP hN
 simp only [Tryz.f468] at hN ⊢
 with_reducible repeat' (first|refine Sp.h ?_|((first|refine Ss.h ?_|(refine Sb.h ?_ ?_ ?_<;>(try intro hgd)<;>try exact Xy))<;>simp -implicitDefEqProofs (maxSteps:=2000000) [hP,hN,zH])|refine X2 ?_ ?_|(refine Xd ?_ ?_<;>intro hcd<;>try exact Xx))
def kH (m : Int) : Iv:=if m / 16384=0 then dr (m % 16384) else if m / 16384=1 then dr (16384 - m % 16384) else if m / 16384=2 then gn (dr (m % 16384)) else gn (dr (16384 - m % 16384))
def pY (a : Int) : Iv:=kH (a % 65536)
theorem y2 (a : Int) : ab Tryz.prog 463 [.pv (Z a)] [] [] (.pv (bF (pY a))):=by
 have cm:=we a
 show ab _ _ _ _ _ (.pv (bF (kH (a % 65536))))
 have r1:=Int.emod_nonneg a (b:=65536) (by decide)
 have r2:=Int.emod_lt_of_pos a (b:=65536) (by decide)
 generalize a % 65536=m at *
 have t1 : m.tmod 16384=m % 16384:=Int.tmod_eq_emod_of_nonneg r1
 have t2 : m.tdiv 16384=m / 16384:=Int.tdiv_eq_ediv_of_nonneg r1
 have w1 : IntKind.i64.wrap (m / 16384)=m / 16384:=aa (by omega) (by omega)
 have w2 : IntKind.i64.wrap (m % 16384)=m % 16384:=aa (by omega) (by omega)
 have w3 : IntKind.i64.wrap (16384 - m % 16384)=16384 - m % 16384:=aa (by omega) (by omega)
 have cf:=y1 (m % 16384) (by omega) (by omega)
 have cg:=y1 (16384 - m % 16384) (by omega) (by omega)
 have key : m / 16384=0∨m / 16384=1∨m / 16384=2∨m / 16384=3:=by omega
 rcases key with hk|hk|hk|hk
 ·have hf : kH m=dr (m % 16384):=by simp [kH,hk]
  rw [hf]
  generalize dr (m % 16384)=y at *
  refine Dp Tryz.func463 ?_
  intro C hP hN
  simp only [Tryz.f463] at hN ⊢
  with_reducible repeat' (first|refine Sp.h ?_|((first|refine Ss.h ?_|refine Sc.h (cm) ?_|refine Sc.h (cf) ?_|(refine Sb.h ?_ ?_ ?_<;>(try intro hgd)<;>try exact Xy))<;>simp -implicitDefEqProofs (maxSteps:=2000000) [hP,hN,t1,t2,w1,w2,w3,hk])|refine X2 ?_ ?_|(refine Xd ?_ ?_<;>intro hcd<;>try exact Xx))
 ·have hf : kH m=dr (16384 - m % 16384):=by simp [kH,hk]
  rw [hf]
  generalize dr (16384 - m % 16384)=y at *
  refine Dp Tryz.func463 ?_
  intro C hP hN
  simp only [Tryz.f463] at hN ⊢
  with_reducible repeat' (first|refine Sp.h ?_|((first|refine Ss.h ?_|refine Sc.h (cm) ?_|refine Sc.h (cg) ?_|(refine Sb.h ?_ ?_ ?_<;>(try intro hgd)<;>try exact Xy))<;>simp -implicitDefEqProofs (maxSteps:=2000000) [hP,hN,t1,t2,w1,w2,w3,hk])|refine X2 ?_ ?_|(refine Xd ?_ ?_<;>intro hcd<;>try exact Xx))
 ·have hf : kH m=gn (dr (m % 16384)):=by simp [kH,hk]
  rw [hf]
  generalize dr (m % 16384)=y at *
  refine Dp Tryz.func463 ?_
  intro C hP hN
  simp only [Tryz.f463] at hN ⊢
  with_reducible repeat' (first|refine Sp.h ?_|((first|refine Ss.h ?_|refine Sc.h (cm) ?_|refine Sc.h (cf) ?_|refine Sc.h (vR) ?_|(refine Sb.h ?_ ?_ ?_<;>(try intro hgd)<;>try exact Xy))<;>simp -implicitDefEqProofs (maxSteps:=2000000) [hP,hN,t1,t2,w1,w2,w3,hk])|refine X2 ?_ ?_|(refine Xd ?_ ?_<;>intro hcd<;>try exact Xx))
 ·have hf : kH m=gn (dr (16384 - m % 16384)):=by simp [kH,hk]
  rw [hf]
  generalize dr (16384 - m % 16384)=y at *
  refine Dp Tryz.func463 ?_
  intro C hP hN
  simp only [Tryz.f463] at hN ⊢
  with_reducible repeat' (first|refine Sp.h ?_|((first|refine Ss.h ?_|refine Sc.h (cm) ?_|refine Sc.h (cg) ?_|refine Sc.h (vR) ?_|(refine Sb.h ?_ ?_ ?_<;>(try intro hgd)<;>try exact Xy))<;>simp -implicitDefEqProofs (maxSteps:=2000000) [hP,hN,t1,t2,w1,w2,w3,hk])|refine X2 ?_ ?_|(refine Xd ?_ ?_<;>intro hcd<;>try exact Xx))
def wg (a : Int) : Iv:=pY (a % 65536+16384)
theorem Bf (a : Int) : ab Tryz.prog 462 [.pv (Z a)] [] [] (.pv (bF (wg a))):=by
 have cm:=we a
 show ab _ _ _ _ _ (.pv (bF (pY (a % 65536+16384))))
 have r1:=Int.emod_nonneg a (b:=65536) (by decide)
 have r2:=Int.emod_lt_of_pos a (b:=65536) (by decide)
 generalize a % 65536=m at *
 have w1 : IntKind.i64.wrap (m+16384)=m+16384:=aa (by omega) (by omega)
 have cs:=y2 (m+16384)
 generalize pY (m+16384)=y at *
 refine Dp Tryz.func462 ?_
 intro C hP hN
 simp only [Tryz.f462] at hN ⊢
 with_reducible repeat' (first|refine Sp.h ?_|((first|refine Ss.h ?_|refine Sc.h (cm) ?_|refine Sc.h (cs) ?_|(refine Sb.h ?_ ?_ ?_<;>(try intro hgd)<;>try exact Xy))<;>simp -implicitDefEqProofs (maxSteps:=2000000) [hP,hN,w1])|refine X2 ?_ ?_|(refine Xd ?_ ?_<;>intro hcd<;>try exact Xx))
def iQ (a : Iv) (t : Int) : Bool:=aH a.1 a.2 && decide (a.1≤a.1+(t - a.1) % 65536) && decide (a.1+(t - a.1) % 65536≤a.2)
theorem y3 {a b : Int} (t : Int) (h1 : -2147483648≤a) (h2 : a≤2147483648) (h3 : -2147483648≤t) (h4 : t≤2147483648) : ab Tryz.prog 467 [.pv (I a b),.pv (Z t)] [] [] (.pv (B (iQ (a,b) t))):=by
 have w1 : IntKind.i64.wrap (t - a)=t - a:=aa (by omega) (by omega)
 have r1:=Int.emod_nonneg (t - a) (b:=65536) (by decide)
 have r2:=Int.emod_lt_of_pos (t - a) (b:=65536) (by decide)
 have w2 : IntKind.i64.wrap (a+(t - a) % 65536)=a+(t - a) % 65536:=aa (by omega) (by omega)
 have cm:=we (t - a)
 refine Dp Tryz.func467 ?_
 intro C hP hN
 simp only [Tryz.f467] at hN ⊢
 with_reducible repeat' (first|refine Sp.h ?_|((first|refine Wd ?_|refine Ss.h ?_|refine Sc.h (cm) ?_|refine Sc.h (Av _ _ _) ?_|(refine Sb.h ?_ ?_ ?_<;>(try intro hgd)<;>try exact Xy))<;>simp -implicitDefEqProofs (maxSteps:=2000000) [hP,hN,w1,w2]<;>try refine Ya ?_)|refine X2 ?_ ?_|(refine Xd ?_ ?_<;>intro hcd<;>try exact Xx))
 all_goals (try simp [iQ])
def jk (a : Iv) (v : Int→Iv) (t b : Int) : Iv:=if aH a.1 a.2=false then (0,0) else if 65536≤a.2 - a.1 then (-65536,65536) else
 let h:=je (v a.1) (v a.2)
 let h1:=if iQ a t then je h (ma 65536) else h
 if iQ a b then je h1 (ma (-65536)) else h1
theorem y4 {a b : Int} (f : FuncId) (v : Int→Iv) (t u : Int) (hf : ∀ x,ab Tryz.prog f [.pv (Z x)] [] [] (.pv (bF (v x)))) (ht : -2147483648≤t) (ht' : t≤2147483648) (hu : -2147483648≤u) (hu' : u≤2147483648) : ab Tryz.prog 461 [.pv (I a b),.pv (Fv f),.pv (Z t),.pv (Z u)] [] [] (.pv (bF (jk (a,b) v t u))):=by
 cases hv : aH a b with
 |false=>
  have hr : jk (a,b) v t u=(0,0):=by simp [jk,hv]
  rw [hr]
  refine Dp Tryz.func461 ?_
  intro C hP hN
  simp only [Tryz.f461] at hN ⊢
  with_reducible repeat' (first|refine Sp.h ?_|((first|refine Wd ?_|refine Ss.h ?_|refine Sc.h (eJ _ _) ?_|(refine Sb.h ?_ ?_ ?_<;>(try intro hgd)<;>try exact Xy))<;>simp -implicitDefEqProofs (maxSteps:=2000000) [hP,hN,hv]<;>try refine Ya ?_)|refine X2 ?_ ?_|(refine Xd ?_ ?_<;>intro hcd<;>try exact Xx))
 |true=>
  have hv':=fu.1 hv
  have w1 : IntKind.i64.wrap (b - a)=b - a:=aa (by omega) (by omega)
  have cm:=y3 (a:=a) (b:=b) t (by omega) (by omega) ht ht'
  have cn:=y3 (a:=a) (b:=b) u (by omega) (by omega) hu hu'
  have o1 : ab Tryz.prog 421 [.pv (Z 65536)] [] [] (.pv (I 65536 65536)):=pQ 65536
  have o2 : ab Tryz.prog 421 [.pv (Z (-65536))] [] [] (.pv (I (-65536) (-65536))):=pQ (-65536)
  by_cases hw : 65536≤b - a
  ·have hr : jk (a,b) v t u=(-65536,65536):=by simp [jk,hv,hw]
   rw [hr]
   refine Dp Tryz.func461 ?_
   intro C hP hN
   simp only [Tryz.f461] at hN ⊢
   with_reducible repeat' (first|refine Sp.h ?_|((first|refine Wd ?_|refine Ss.h ?_|refine Sc.h (eJ _ _) ?_|refine Sc.h (rq _ _) ?_|(refine Sb.h ?_ ?_ ?_<;>(try intro hgd)<;>try exact Xy))<;>simp -implicitDefEqProofs (maxSteps:=2000000) [hP,hN,hv,w1,hw]<;>try refine Ya ?_)|refine X2 ?_ ?_|(refine Xd ?_ ?_<;>intro hcd<;>try exact Xx))
  ·have hr : jk (a,b) v t u=(let h:=je (v a) (v b);let h1:=if iQ (a,b) t then je h (65536,65536) else h;if iQ (a,b) u then je h1 (-65536,-65536) else h1):=by
    have e1 : ma 65536=(65536,65536):=by decide
    have e2 : ma (-65536)=(-65536,-65536):=by decide
    simp [jk,hv,hw,e1,e2]
   rw [hr]
   cases hm1 : iQ (a,b) t<;>cases hm2 : iQ (a,b) u<;>rw [hm1] at cm<;>rw [hm2] at cn
   ·skip
    refine Dp Tryz.func461 ?_
    intro C hP hN
    simp only [Tryz.f461] at hN ⊢
    with_reducible repeat' (first|refine Sp.h ?_|((first|refine Wd ?_|refine Ss.h ?_|refine Sc.h (eJ _ _) ?_|refine Sc.h (rq _ _) ?_|refine Sc.h (hf _) ?_|refine Sc.h (tx _ _ _ _) ?_|refine Sc.h (cm) ?_|refine Sc.h (cn) ?_|(refine Sb.h ?_ ?_ ?_<;>(try intro hgd)<;>try exact Xy))<;>simp -implicitDefEqProofs (maxSteps:=2000000) [hP,hN,hv,w1,hw]<;>try refine Ya ?_)|refine X2 ?_ ?_|(refine Xd ?_ ?_<;>intro hcd<;>try exact Xx))
    all_goals (try simp)
   ·skip
    refine Dp Tryz.func461 ?_
    intro C hP hN
    simp only [Tryz.f461] at hN ⊢
    with_reducible repeat' (first|refine Sp.h ?_|((first|refine Wd ?_|refine Ss.h ?_|refine Sc.h (eJ _ _) ?_|refine Sc.h (rq _ _) ?_|refine Sc.h (hf _) ?_|refine Sc.h (tx _ _ _ _) ?_|refine Sc.h (cm) ?_|refine Sc.h (cn) ?_|refine Sc.h (o2) ?_|(refine Sb.h ?_ ?_ ?_<;>(try intro hgd)<;>try exact Xy))<;>simp -implicitDefEqProofs (maxSteps:=2000000) [hP,hN,hv,w1,hw]<;>try refine Ya ?_)|refine X2 ?_ ?_|(refine Xd ?_ ?_<;>intro hcd<;>try exact Xx))
    all_goals (try simp)
   ·skip
    refine Dp Tryz.func461 ?_
    intro C hP hN
    simp only [Tryz.f461] at hN ⊢
    with_reducible repeat' (first|refine Sp.h ?_|((first|refine Wd ?_|refine Ss.h ?_|refine Sc.h (eJ _ _) ?_|refine Sc.h (rq _ _) ?_|refine Sc.h (hf _) ?_|refine Sc.h (tx _ _ _ _) ?_|refine Sc.h (cm) ?_|refine Sc.h (cn) ?_|refine Sc.h (o1) ?_|(refine Sb.h ?_ ?_ ?_<;>(try intro hgd)<;>try exact Xy))<;>simp -implicitDefEqProofs (maxSteps:=2000000) [hP,hN,hv,w1,hw]<;>try refine Ya ?_)|refine X2 ?_ ?_|(refine Xd ?_ ?_<;>intro hcd<;>try exact Xx))
    all_goals (try simp)
   ·skip
    refine Dp Tryz.func461 ?_
    intro C hP hN
    simp only [Tryz.f461] at hN ⊢
    with_reducible repeat' (first|refine Sp.h ?_|((first|refine Wd ?_|refine Ss.h ?_|refine Sc.h (eJ _ _) ?_|refine Sc.h (rq _ _) ?_|refine Sc.h (hf _) ?_|refine Sc.h (tx _ _ _ _) ?_|refine Sc.h (cm) ?_|refine Sc.h (cn) ?_|refine Sc.h (o1) ?_|refine Sc.h (o2) ?_|(refine Sb.h ?_ ?_ ?_<;>(try intro hgd)<;>try exact Xy))<;>simp -implicitDefEqProofs (maxSteps:=2000000) [hP,hN,hv,w1,hw]<;>try refine Ya ?_)|refine X2 ?_ ?_|(refine Xd ?_ ?_<;>intro hcd<;>try exact Xx))
    all_goals (try simp)
def mI (a : Iv) : Iv:=jk a pY 16384 49152
def mJ (a : Iv) : Iv:=jk a wg 0 32768
theorem Bg {a b : Int} : ab Tryz.prog 457 [.pv (I a b)] [] [] (.pv (bF (mI (a,b)))):=by
 have co:=y4 (a:=a) (b:=b) 463 pY 16384 49152 y2 (by decide) (by decide) (by decide) (by decide)
 refine Dp Tryz.func457 ?_
 intro C hP hN
 simp only [Tryz.f457] at hN ⊢
 with_reducible repeat' (first|refine Sp.h ?_|((first|refine Ss.h ?_|refine Sc.h (co) ?_|(refine Sb.h ?_ ?_ ?_<;>(try intro hgd)<;>try exact Xy))<;>simp -implicitDefEqProofs (maxSteps:=2000000) [hP,hN])|refine X2 ?_ ?_|(refine Xd ?_ ?_<;>intro hcd<;>try exact Xx))
 all_goals exact ⟨rfl,rfl⟩
theorem Bh {a b : Int} : ab Tryz.prog 456 [.pv (I a b)] [] [] (.pv (bF (mJ (a,b)))):=by
 have co:=y4 (a:=a) (b:=b) 462 wg 0 32768 Bf (by decide) (by decide) (by decide) (by decide)
 refine Dp Tryz.func456 ?_
 intro C hP hN
 simp only [Tryz.f456] at hN ⊢
 with_reducible repeat' (first|refine Sp.h ?_|((first|refine Ss.h ?_|refine Sc.h (co) ?_|(refine Sb.h ?_ ?_ ?_<;>(try intro hgd)<;>try exact Xy))<;>simp -implicitDefEqProofs (maxSteps:=2000000) [hP,hN])|refine X2 ?_ ?_|(refine Xd ?_ ?_<;>intro hcd<;>try exact Xx))
 all_goals exact ⟨rfl,rfl⟩
end Go.Ab
