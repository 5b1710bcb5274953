/- The contracts and facts that the laws of this seat need, in one text (Cu9, Cu10, Cu11, Cu12, Ck1, Ck2, Cu13, Sk1, Ab33, Sk2, Sk3, LCk). -/
import Derived.Test.YtmcbekbdnddmdaaGreatW9
set_option linter.all false
set_option maxHeartbeats 16000000
namespace Go.Ab
open Go.Proofs
def fg (s : Fr × Fr) (a b lo hi : Int) : Option (Fr × Fr):=
 if b < lo∨hi < a then none
 else some (if a < lo∧kg s.1 (lo - a,b - a)=true then (lo - a,b - a) else s.1,if hi < b∧kg (hi - a,b - a) s.2=true then (hi - a,b - a) else s.2)
def nG (s : Fr × Fr) (p q : Int) (x : Int × Int) : Option (Fr × Fr):=if q < p then fg s (-p) (-q) (-x.2) (-x.1) else fg s p q x.1 x.2
def gz : Bx→List Int→List Int→Fr × Fr→Option (Fr × Fr)
 |x :: b,p :: ps,q :: qs,s=>match nG s p q x with
  |none=>none
  |some s'=>gz b ps qs s'
 |_,_,_,s=>some s
def qU : Fr × Fr:=((0,1),(1,1))
def m7 (b : Bx) (p q : List Int) : Option Fr:=match gz b p q qU with
 |none=>none
 |some s=>if kg s.2 s.1 then none else some s.1
structure Sm (b : Bx) (p q : List Int) : Prop where
 v : aL vI b=true
 lb : b.length≤16777216
 lp : p.length=b.length
 lq : q.length=b.length
 sp : ∀ y ∈ p,-2147483648≤y∧y≤2147483648
 sq : ∀ y ∈ q,-2147483648≤y∧y≤2147483648
def sr (s : Fr × Fr) : Prop:=0≤s.1.1∧s.1.1≤4294967296∧0 < s.1.2∧s.1.2≤4294967296∧0≤s.2.1∧s.2.1≤4294967296∧0 < s.2.2∧s.2.2≤4294967296
theorem HA {s : Fr × Fr} (h : sr s) : BY s.1∧BY s.2:=by
 obtain ⟨h1,h2,h3,h4,h5,h6,h7,h8⟩:=h
 exact ⟨⟨h1,by omega,by omega,by omega⟩,⟨h5,by omega,by omega,by omega⟩⟩
theorem ue {s s' : Fr × Fr} {a b lo hi : Int} (hs : sr s) (h : fg s a b lo hi=some s') (ha : -2147483648≤a) (hb : b≤2147483648) (hl : lo≤2147483648) (hh : -2147483648≤hi) (h1 : lo≤hi) (hab : a≤b) : sr s':=by
 obtain ⟨s1,s2,s3,s4,s5,s6,s7,s8⟩:=hs
 unfold fg at h
 split at h
 ·cases h
 ·injection h with h
  subst h
  unfold sr
  dsimp only
  refine ⟨?_,?_,?_,?_,?_,?_,?_,?_⟩<;>(split<;>(try dsimp only)<;>omega)
theorem xD {s s' : Fr × Fr} {p q : Int} {x : Int × Int} (hs : sr s) (h : nG s p q x=some s') (hx : ak x.1 x.2=true) (hp : -2147483648≤p∧p≤2147483648) (hq : -2147483648≤q∧q≤2147483648) : sr s':=by
 have v:=cL.1 hx
 unfold nG at h
 split at h
 ·exact ue hs h (by omega) (by omega) (by omega) (by omega) (by omega) (by omega)
 ·exact ue hs h (by omega) (by omega) (by omega) (by omega) (by omega) (by omega)
theorem ss {b : Bx} {p q : List Int} {i : Nat} {s : Fr × Fr} {x : Int × Int} {u v : Int} (h1 : b[i]?=some x) (h2 : p[i]?=some u) (h3 : q[i]?=some v) :
 gz (b.drop i) (p.drop i) (q.drop i) s=match nG s u v x with|none=>none|some s'=>gz (b.drop (i+1)) (p.drop (i+1)) (q.drop (i+1)) s':=by
 obtain ⟨l1,e1⟩:=List.getElem?_eq_some_iff.1 h1
 obtain ⟨l2,e2⟩:=List.getElem?_eq_some_iff.1 h2
 obtain ⟨l3,e3⟩:=List.getElem?_eq_some_iff.1 h3
 rw [List.drop_eq_getElem_cons l1,List.drop_eq_getElem_cons l2,List.drop_eq_getElem_cons l3,e1,e2,e3]
 rfl
theorem zj {b : Bx} {p q : List Int} {i : Nat} {s : Fr × Fr} (h : b.length≤i) : gz (b.drop i) (p.drop i) (q.drop i) s=some s:=by
 rw [List.drop_eq_nil_of_le h];rfl
structure EntI (b : Bx) (p q : List Int) (i : Nat) (s : Fr × Fr) : Prop where
 ok : sr s
 run : gz (b.drop i) (p.drop i) (q.drop i) s=gz b p q qU
theorem vH (b : Bx) (p q : List Int) : EntI b p q 0 qU:=⟨by simp [sr,qU],by simp⟩
theorem vJ {b : Bx} {p q : List Int} {i : Nat} {s s' : Fr × Fr} {x : Int × Int} {u v : Int} (hS : Sm b p q) (hI : EntI b p q i s) (h1 : b[i]?=some x) (h2 : p[i]?=some u) (h3 : q[i]?=some v) (h : nG s u v x=some s') : EntI b p q (i+1) s':=by
 refine ⟨xD hI.ok h (dg.1 hS.v _ (List.mem_of_getElem? h1)) (hS.sp _ (List.mem_of_getElem? h2)) (hS.sq _ (List.mem_of_getElem? h3)),?_⟩
 rw [← hI.run,ss h1 h2 h3,h]
theorem nH {b : Bx} {p q : List Int} {i : Nat} {s : Fr × Fr} {x : Int × Int} {u v : Int} (hI : EntI b p q i s) (h1 : b[i]?=some x) (h2 : p[i]?=some u) (h3 : q[i]?=some v) (h : nG s u v x=none) : gz b p q qU=none:=by
 rw [← hI.run,ss h1 h2 h3,h]
theorem B1 {b : Bx} {p q : List Int} {i : Nat} {s : Fr × Fr} (hI : EntI b p q i s) (h : b.length≤i) : gz b p q qU=some s:=by
 rw [← hI.run,zj h]
abbrev Fb (f : Fr) : Blk:=.box [.pv (Z f.1),.pv (Z f.2)] true false
set_option maxRecDepth 10000 in
theorem LD (b : Bx) (p q : List Int) (hS : Sm b p q) : ab Tryz.prog 42 [.pv (iv b),.pv (zs p),.pv (zs q)] [] [] (.pv (.tup [av ((m7 b p q).getD (0,0)),B (m7 b p q).isSome])):=by
 have hbl:=hS.lb
 refine Dp Tryz.func42 ?_
 intro C hP hN
 simp only [Tryz.f42] at hN ⊢
 refine Gz ?_
 refine WP.loopN [11,16,18] b.length (fun i st=>∃ s,EntI b p q i s∧st.t 1=.pv (zs p)∧st.t 2=.pv (zs q)∧st.t 6=.ptr 6 0∧st.t 8=.ptr 8 0∧st.t 9=.ptr 9 0∧st.t 23=.pv (iv b)∧st.t 24=.pv (Z b.length)∧st.t 25=.pv (Z i)∧st.h 11=none∧st.h 16=none∧st.h 18=none∧st.h 6=some (.box [.pv (Z 0),.pv (Z 0)] true false)∧st.h 8=some (Fb s.1)∧st.h 9=some (Fb s.2)) (by exact ⟨qU,vH b p q,by simp [qU]⟩) ?_
 rintro i st hi0 ⟨s,hI,g1,g2,g6,g8,g9,g23,g24,g25,hb11,hb16,hb18,hb6,hb8,hb9⟩
 obtain ⟨hF1,hF2⟩:=HA hI.ok
 by_cases hlt : i < b.length
 ·have hw:=ag hlt (by omega)
  have hpl : i < p.length:=by rw [hS.lp];exact hlt
  have hql : i < q.length:=by rw [hS.lq];exact hlt
  have hbi : b[i]?=some b[i]:=List.getElem?_eq_getElem hlt
  have hpi : p[i]?=some p[i]:=List.getElem?_eq_getElem hpl
  have hqi : q[i]?=some q[i]:=List.getElem?_eq_getElem hql
  have hvx:=cL.1 (dg.1 hS.v _ (List.mem_of_getElem? hbi))
  have hpx:=hS.sp _ (List.mem_of_getElem? hpi)
  have hqx:=hS.sq _ (List.mem_of_getElem? hqi)
  generalize hbx : b[i]=x at *
  generalize hpu : p[i]=u at *
  generalize hqv : q[i]=v at *
  obtain ⟨xl,xh⟩:=x
  simp only at hvx
  by_cases hqp : v < u
  ·have hAt : nG s u v (xl,xh)=fg s (-u) (-v) (-xh) (-xl):=if_pos hqp
   have n1 : IntKind.i64.wrap (-u)=-u:=aa
   have n2 : IntKind.i64.wrap (-v)=-v:=aa
   have n3 : IntKind.i64.wrap (-xh)=-xh:=aa
   have n4 : IntKind.i64.wrap (-xl)=-xl:=aa
   obtain ⟨a,ha⟩ : ∃ a,-u=a:=⟨_,rfl⟩
   obtain ⟨b1,hb1⟩ : ∃ a,-v=a:=⟨_,rfl⟩
   obtain ⟨lo,hlo⟩ : ∃ a,-xh=a:=⟨_,rfl⟩
   obtain ⟨hi,hhi⟩ : ∃ a,-xl=a:=⟨_,rfl⟩
   rw [ha,hb1,hlo,hhi] at hAt
   rw [ha] at n1
   rw [hb1] at n2
   rw [hlo] at n3
   rw [hhi] at n4
   by_cases r1 : b1 < lo
   ·have hn:=nH hI hbi hpi hqi (by rw [hAt,fg,if_pos (.inl r1)])
    rw [m7,hn]
    exact Gy
   by_cases r2 : hi < a
   ·have hn:=nH hI hbi hpi hqi (by rw [hAt,fg,if_pos (.inr r2)])
    rw [m7,hn]
    exact Gy
   have hnx:=fun s' (h : fg s a b1 lo hi=some s')=>vJ hS hI hbi hpi hqi (by rw [hAt];exact h)
   have hst : fg s a b1 lo hi=some (if a < lo∧kg s.1 (lo - a,b1 - a)=true then (lo - a,b1 - a) else s.1,if hi < b1∧kg (hi - a,b1 - a) s.2=true then (hi - a,b1 - a) else s.2):=if_neg (by omega)
   have hnx:=hnx _ hst
   clear hst
   have w1 : IntKind.i64.wrap (lo - a)=lo - a:=aa
   have w2 : IntKind.i64.wrap (b1 - a)=b1 - a:=aa
   have w3 : IntKind.i64.wrap (hi - a)=hi - a:=aa
   have c1 : a < lo→ab Tryz.prog 43 [.pv (av s.1),.pv (av (lo - a,b1 - a))] [] [] (.pv (B (kg s.1 (lo - a,b1 - a)))):=fun h=>zV s.1 (lo - a,b1 - a) hF1 ⟨by simp only;omega,by simp only;omega,by simp only;omega,by simp only;omega⟩
   have c2 : hi < b1→ab Tryz.prog 43 [.pv (av (hi - a,b1 - a)),.pv (av s.2)] [] [] (.pv (B (kg (hi - a,b1 - a) s.2))):=fun h=>zV (hi - a,b1 - a) s.2 ⟨by simp only;omega,by simp only;omega,by simp only;omega,by simp only;omega⟩ hF2
   generalize kg s.1 (lo - a,b1 - a)=t1 at *
   generalize kg (hi - a,b1 - a) s.2=t2 at *
   try simp only at c1 c2
   by_cases u1 : a < lo
   ·have c1:=c1 u1
    by_cases u2 : hi < b1
    ·have c2:=c2 u2
     cases t1<;>cases t2<;>simp only [u1,u2,true_and,if_true,Bool.false_eq_true,if_false] at hnx
     ·skip
      refine Gz ?_
      all_goals exact ⟨_,_,_,_,hnx,⟨rfl,rfl⟩,rfl,rfl⟩
     ·skip
      refine Gz ?_
      all_goals exact ⟨_,_,_,_,hnx,⟨rfl,rfl⟩,rfl,rfl⟩
     ·skip
      refine Gz ?_
      all_goals exact ⟨_,_,_,_,hnx,⟨rfl,rfl⟩,rfl,rfl⟩
     ·skip
      refine Gz ?_
      all_goals exact ⟨_,_,_,_,hnx,⟨rfl,rfl⟩,rfl,rfl⟩
    ·cases t1<;>simp only [u1,u2,true_and,false_and,if_true,Bool.false_eq_true,if_false] at hnx
     ·skip
      refine Gz ?_
      all_goals exact ⟨_,_,_,_,hnx,⟨rfl,rfl⟩,rfl,rfl⟩
     ·skip
      refine Gz ?_
      all_goals exact ⟨_,_,_,_,hnx,⟨rfl,rfl⟩,rfl,rfl⟩
   ·by_cases u2 : hi < b1
    ·have c2:=c2 u2
     cases t2<;>simp only [u1,u2,true_and,false_and,if_true,Bool.false_eq_true,if_false] at hnx
     ·skip
      refine Gz ?_
      all_goals exact ⟨_,_,_,_,hnx,⟨rfl,rfl⟩,rfl,rfl⟩
     ·skip
      refine Gz ?_
      all_goals exact ⟨_,_,_,_,hnx,⟨rfl,rfl⟩,rfl,rfl⟩
    ·simp only [u1,u2,false_and,if_false] at hnx
     refine Gz ?_
     all_goals exact ⟨_,_,_,_,hnx,⟨rfl,rfl⟩,rfl,rfl⟩
  ·have hAt : nG s u v (xl,xh)=fg s u v xl xh:=if_neg hqp
   by_cases r1 : v < xl
   ·have hn:=nH hI hbi hpi hqi (by rw [hAt,fg,if_pos (.inl r1)])
    rw [m7,hn]
    exact Gy
   by_cases r2 : xh < u
   ·have hn:=nH hI hbi hpi hqi (by rw [hAt,fg,if_pos (.inr r2)])
    rw [m7,hn]
    exact Gy
   have hnx:=fun s' (h : fg s u v xl xh=some s')=>vJ hS hI hbi hpi hqi (by rw [hAt];exact h)
   have hst : fg s u v xl xh=some (if u < xl∧kg s.1 (xl - u,v - u)=true then (xl - u,v - u) else s.1,if xh < v∧kg (xh - u,v - u) s.2=true then (xh - u,v - u) else s.2):=if_neg (by omega)
   have hnx:=hnx _ hst
   clear hst
   have w1 : IntKind.i64.wrap (xl - u)=xl - u:=aa
   have w2 : IntKind.i64.wrap (v - u)=v - u:=aa
   have w3 : IntKind.i64.wrap (xh - u)=xh - u:=aa
   have c1 : u < xl→ab Tryz.prog 43 [.pv (av s.1),.pv (av (xl - u,v - u))] [] [] (.pv (B (kg s.1 (xl - u,v - u)))):=fun h=>zV s.1 (xl - u,v - u) hF1 ⟨by simp only;omega,by simp only;omega,by simp only;omega,by simp only;omega⟩
   have c2 : xh < v→ab Tryz.prog 43 [.pv (av (xh - u,v - u)),.pv (av s.2)] [] [] (.pv (B (kg (xh - u,v - u) s.2))):=fun h=>zV (xh - u,v - u) s.2 ⟨by simp only;omega,by simp only;omega,by simp only;omega,by simp only;omega⟩ hF2
   generalize kg s.1 (xl - u,v - u)=t1 at *
   generalize kg (xh - u,v - u) s.2=t2 at *
   try simp only at c1 c2
   by_cases u1 : u < xl
   ·have c1:=c1 u1
    by_cases u2 : xh < v
    ·have c2:=c2 u2
     cases t1<;>cases t2<;>simp only [u1,u2,true_and,if_true,Bool.false_eq_true,if_false] at hnx
     ·skip
      refine Gz ?_
      all_goals exact ⟨_,_,_,_,hnx,⟨rfl,rfl⟩,rfl,rfl⟩
     ·skip
      refine Gz ?_
      all_goals exact ⟨_,_,_,_,hnx,⟨rfl,rfl⟩,rfl,rfl⟩
     ·skip
      refine Gz ?_
      all_goals exact ⟨_,_,_,_,hnx,⟨rfl,rfl⟩,rfl,rfl⟩
     ·skip
      refine Gz ?_
      all_goals exact ⟨_,_,_,_,hnx,⟨rfl,rfl⟩,rfl,rfl⟩
    ·cases t1<;>simp only [u1,u2,true_and,false_and,if_true,Bool.false_eq_true,if_false] at hnx
     ·skip
      refine Gz ?_
      all_goals exact ⟨_,_,_,_,hnx,⟨rfl,rfl⟩,rfl,rfl⟩
     ·skip
      refine Gz ?_
      all_goals exact ⟨_,_,_,_,hnx,⟨rfl,rfl⟩,rfl,rfl⟩
   ·by_cases u2 : xh < v
    ·have c2:=c2 u2
     cases t2<;>simp only [u1,u2,true_and,false_and,if_true,Bool.false_eq_true,if_false] at hnx
     ·skip
      refine Gz ?_
      all_goals exact ⟨_,_,_,_,hnx,⟨rfl,rfl⟩,rfl,rfl⟩
     ·skip
      refine Gz ?_
      all_goals exact ⟨_,_,_,_,hnx,⟨rfl,rfl⟩,rfl,rfl⟩
    ·simp only [u1,u2,false_and,if_false] at hnx
     refine Gz ?_
     all_goals exact ⟨_,_,_,_,hnx,⟨rfl,rfl⟩,rfl,rfl⟩
 ·have hd:=B1 hI (by omega)
  have cl:=zV s.2 s.1 hF2 hF1
  rw [m7,hd]
  simp only
  cases hl : kg s.2 s.1 with
  |true=>
   rw [hl] at cl
   exact Gy
  |false=>
   rw [hl] at cl
   exact Gy
end Go.Ab
namespace Go.Ab
open Go.Proofs
def kX (t : Tr) (i : Nat) : Bool:=match t.cells[i]? with
 |some c=>fG c
 |none=>false
def wt (t : Tr) (p q : List Int) (i : Nat) (s : Option (Fr × Nat)) : Option (Fr × Nat):=
 if kX t i then
  match m7 (aE t (i : Int)) p q with
  |none=>s
  |some f=>match s with
   |none=>some (f,i)
   |some g=>if kg f g.1 then some (f,i) else some g
 else s
def kY (t : Tr) (p q : List Int) : Nat→Option (Fr × Nat)
 |0=>none
 |i+1=>wt t p q i (kY t p q i)
def iK (line : List (List Int)) (m : Nat) : List Int:=line[m]?.getD []
def t7 (t : Tr) (line : List (List Int)) (m : Nat) : Option (Fr × Nat):=kY t (iK line m) (iK line (m+1)) t.cells.length
def lB (t : Tr) (line : List (List Int)) : Nat→Nat→Option (Nat × Fr × Nat)
 |0,_=>none
 |k+1,m=>match t7 t line m with
  |some g=>some (m,AN g.1,g.2)
  |none=>lB t line k (m+1)
def kA (t : Tr) (line : List (List Int)) : Bool:=au t && decide (2≤line.length) && decide (line.length≤1024) && aL (bO t.root) line
def iQ (t : Tr) (line : List (List Int)) : Option (Nat × Fr × Nat):=if kA t line then lB t line (line.length - 1) 0 else none
abbrev Hx (x : Nat × Fr × Nat) : PV:=.val (.agg #[.int .i64 (x.1 : Int),.int .i64 x.2.1.1,.int .i64 x.2.1.2,.int .i64 (x.2.2 : Int)])
def zL : Nat × Fr × Nat:=(0,(0,0),0)
def F6 (f : Fr) : Prop:=0≤f.1∧f.1≤4294967296∧0 < f.2∧f.2≤4294967296
theorem Ev {f : Fr} (h : F6 f) : BY f:=by obtain ⟨h1,h2,h3,h4⟩:=h;exact ⟨h1,by omega,by omega,by omega⟩
theorem vF : ∀ {b : Bx} {p q : List Int} {s s' : Fr × Fr},(∀ x ∈ b,ak x.1 x.2=true)→(∀ y ∈ p,-2147483648≤y∧y≤2147483648)→(∀ y ∈ q,-2147483648≤y∧y≤2147483648)→sr s→gz b p q s=some s'→sr s'
 |[],_,_,s,s',_,_,_,hs,h=>by simp [gz] at h;subst h;exact hs
 |_ :: _,[],_,s,s',_,_,_,hs,h=>by simp [gz] at h;subst h;exact hs
 |_ :: _,_ :: _,[],s,s',_,_,_,hs,h=>by simp [gz] at h;subst h;exact hs
 |x :: b,p :: ps,q :: qs,s,s',hb,hp,hq,hs,h=>by
  simp only [gz] at h
  split at h
  ·cases h
  ·rename_i s1 h1
   exact vF (fun y hy=>hb y (List.mem_cons_of_mem _ hy)) (fun y hy=>hp y (List.mem_cons_of_mem _ hy)) (fun y hy=>hq y (List.mem_cons_of_mem _ hy)) (xD hs h1 (hb _ (by simp)) (hp _ (by simp)) (hq _ (by simp))) h
theorem zM {b : Bx} {p q : List Int} {f : Fr} (hS : Sm b p q) (h : m7 b p q=some f) : F6 f:=by
 unfold m7 at h
 split at h
 ·cases h
 ·rename_i s hs
  split at h
  ·cases h
  ·injection h with h
   subst h
   have:=vF (fun x hx=>dg.1 hS.v x hx) hS.sp hS.sq (vH b p q).ok hs
   exact ⟨this.1,this.2.1,this.2.2.1,this.2.2.2.1⟩
theorem zO {t : Tr} {p q : List Int} (hS : ∀ i,i < t.cells.length→Sm (aE t (i : Int)) p q) : ∀ {i : Nat} {g : Fr × Nat},i≤t.cells.length→kY t p q i=some g→F6 g.1∧g.2 < i
 |0,g,_,h=>by simp [kY] at h
 |i+1,g,hi,h=>by
  have ih:=fun g=>zO hS (i:=i) (g:=g) (by omega)
  simp only [kY,wt] at h
  split at h
  ·split at h
   ·have:=ih g h;exact ⟨this.1,by omega⟩
   ·rename_i f hf
    have hfk:=zM (hS i (by omega)) hf
    split at h
    ·injection h with h;subst h;exact ⟨hfk,by simp⟩
    ·rename_i g' hg'
     split at h
     ·injection h with h;subst h;exact ⟨hfk,by simp⟩
     ·injection h with h;subst h
      have:=ih g' hg';exact ⟨this.1,by omega⟩
  ·have:=ih g h;exact ⟨this.1,by omega⟩
theorem zQ {t : Tr} {line : List (List Int)} (h : kA t line=true) {m : Nat} (hm : m < line.length) : bO t.root (iK line m)=true:=by
 simp only [kA,Bool.and_eq_true] at h
 exact dg.1 h.2 _ (by simp [iK,List.getElem?_eq_getElem hm])
theorem zR {b : Bx} {c : List Int} (h : bO b c=true) : b.length=c.length:=by
 simp only [bO,Bool.and_eq_true,decide_eq_true_eq] at h
 exact h.1
theorem Hy {t : Tr} (hv : au t=true) {p q : List Int} (hp : bO t.root p=true) (hq : bO t.root q=true) {i : Nat} (hi : i < t.cells.length) : Sm (aE t (i : Int)) p q:=by
 obtain ⟨_,l,v⟩:=dh hv (c:=(i : Int)) (by simpa using hi)
 have hz:=bc.1 (cO hv)
 have l1:=zR hp
 have l2:=zR hq
 refine ⟨v,by omega,by omega,by omega,fun y hy=>?_,fun y hy=>?_⟩
 ·obtain ⟨k,hk⟩:=List.mem_iff_getElem?.1 hy
  exact Ao hp hk
 ·obtain ⟨k,hk⟩:=List.mem_iff_getElem?.1 hy
  exact Ao hq hk
theorem Ls (b : Bx) (line : List (List Int)) (hb : b.length≤9223372036854775807) (hl : line.length≤9223372036854775807) : ab Tryz.prog 39 [.pv (iv b),.pv (.sl (line.map zs))] [] [] (.pv (B (aL (bO b) line))):=by
 refine Dp Tryz.func39 ?_
 intro C hP hN
 simp only [Tryz.f39] at hN ⊢
 refine Gz ?_
 refine WP.loopN [] line.length (fun i st=>st.t 0=.pv (iv b)∧st.t 7=.pv (.sl (line.map zs))∧st.t 8=.pv (Z line.length)∧st.t 9=.pv (Z i)∧aL (bO b) (line.take i)=true) (by simp [aL]) ?_
 rintro i st hi ⟨g0,g7,g8,g9,hq⟩
 by_cases hlt : i < line.length
 ·have hw:=ag hlt (by omega)
  have hF : bO b line[i]=false→aL (bO b) line=false:=nB hlt
  have hS : bO b line[i]=true→aL (bO b) (line.take (i+1))=true:=mW hlt hq
  have ch:=BD b line[i] hb
  cases hh : bO b line[i] with
  |false=>
   rw [hh] at ch hF
   rw [hF rfl]
   exact Gy
  |true=>
   rw [hh] at ch hS
   have:=hS rfl
   exact Gy
   all_goals exact this
 ·have:=mX hlt hq
  rw [this]
  exact Gy
def t8 (s : Option (Fr × Nat)) : Fr:=match s with
 |some g=>g.1
 |none=>(0,0)
def t9 (s : Option (Fr × Nat)) : Nat:=match s with
 |some g=>g.2
 |none=>0
theorem AK {t : Tr} {line : List (List Int)} {n m : Nat} (h : m < n) (hn : t7 t line m=none) : lB t line (n - m) m=lB t line (n - (m+1)) (m+1):=by
 obtain ⟨k,hk⟩ : ∃ k,n - m=k+1:=⟨n - m - 1,by omega⟩
 rw [hk,show n - (m+1)=k by omega]
 simp only [lB,hn]
theorem BQ {t : Tr} {line : List (List Int)} {n m : Nat} {g : Fr × Nat} (h : m < n) (hn : t7 t line m=some g) : lB t line (n - m) m=some (m,AN g.1,g.2):=by
 obtain ⟨k,hk⟩ : ∃ k,n - m=k+1:=⟨n - m - 1,by omega⟩
 rw [hk]
 simp only [lB,hn]
theorem BR {t : Tr} {line : List (List Int)} {n m : Nat} (h : ¬ m < n) : lB t line (n - m) m=none:=by
 rw [show n - m=0 by omega];rfl
set_option maxRecDepth 10000 in
theorem Lt (t : Tr) (line : List (List Int)) (hl : t.cells.length≤9223372036854775807) (hr : t.root.length≤9223372036854775807) (hk : line.length≤9223372036854775807) : ab Tryz.prog 14 [.pv (bT t),.pv (.sl (line.map zs))] [] [] (.pv (.tup [Hx ((iQ t line).getD zL),B (iQ t line).isSome])):=by
 have cv:=Hf t hl
 have ci:=Ls t.root line hr hk
 cases hv : au t with
 |false=>
  have hm : iQ t line=none:=by simp [iQ,kA,hv]
  rw [hm,zL]
  rw [hv] at cv
  refine Dp Tryz.func14 ?_
  intro C hP hN
  simp only [Tryz.f14] at hN ⊢
  exact Gy
 |true=>
 rw [hv] at cv
 by_cases h1 : line.length < 2
 ·have hm : iQ t line=none:=by rw [iQ,if_neg];simp [kA];omega
  rw [hm,zL]
  have h1' : (line.length : Int) < 2:=by omega
  refine Dp Tryz.func14 ?_
  intro C hP hN
  simp only [Tryz.f14] at hN ⊢
  exact Gy
 have h1' : ¬ (line.length : Int) < 2:=by omega
 by_cases h2 : 1024 < line.length
 ·have hm : iQ t line=none:=by rw [iQ,if_neg];simp [kA];omega
  rw [hm,zL]
  have h2' : (1024 : Int) < line.length:=by omega
  refine Dp Tryz.func14 ?_
  intro C hP hN
  simp only [Tryz.f14] at hN ⊢
  exact Gy
 have h2' : ¬ (1024 : Int) < line.length:=by omega
 cases hin : aL (bO t.root) line with
 |false=>
  have hm : iQ t line=none:=by simp [iQ,kA,hin]
  rw [hm,zL]
  rw [hin] at ci
  refine Dp Tryz.func14 ?_
  intro C hP hN
  simp only [Tryz.f14] at hN ⊢
  exact Gy
 |true=>
 rw [hin] at ci
 have hok : kA t line=true:=by simp [kA,hv,hin];omega
 have cb:=F9 t hv
 have hz:=bc.1 (cO hv)
 have hbl:=du hv
 have hmc : iQ t line=lB t line (line.length - 1 - 0) 0:=by simp [iQ,hok]
 have hw1 : IntKind.i64.wrap ((line.length : Int) - 1)=((line.length - 1 : Nat) : Int):=by rw [show (line.length : Int) - 1=((line.length - 1 : Nat) : Int) by omega];exact aa (by omega) (by omega)
 refine Dp Tryz.func14 ?_
 intro C hP hN
 simp only [Tryz.f14] at hN ⊢
 with_reducible repeat' (first|refine Sp.h ?_|((first|refine Wd ?_|refine Ss.h ?_|refine Sc.h (cv) ?_|refine Sc.h (ci) ?_|refine Sc.h (cb) ?_|(refine Sb.h ?_ ?_ ?_<;>(try intro hgd)<;>try exact Xy))<;>simp -implicitDefEqProofs (maxSteps:=2000000) [hP,hN,h1,h1',h2,h2',hw1]<;>try refine Ya ?_)|refine X2 ?_ ?_|(refine Xd ?_ ?_<;>intro hcd<;>try exact Xx))
 refine WP.loopN [9] (line.length - 1) (fun m st=>iQ t line=lB t line (line.length - 1 - m) m∧st.t 1=.pv (.sl (line.map zs))∧st.t 2=.ptr 2 0∧st.t 4=.ptr 4 0∧st.t 6=.pv (.sl ((ah t).map iv))∧st.t 41=.pv (Z (line.length - 1 : Nat))∧st.t 42=.pv (Z m)∧st.h 2=some (.box [.pv (iv t.root),.pv (.sl (t.cells.map br))] true false)∧st.h 4=some (.box [.pv (Z 0),.pv (Z 0),.pv (Z 0),.pv (Z 0)] true false)∧st.h 9=none∧st.h 12=none∧st.h 13=none) (by refine ⟨hmc,?_⟩;simp) ?_
 clear hmc
 rintro m st hm ⟨hmc,g1,g2,g4,g6,g41,g42,hb2,hb4,hb9,hb12,hb13⟩
 by_cases hlt : m < line.length - 1
 ·have hw : IntKind.i64.wrap ((m : Int)+1)=(m : Int)+1:=aa
  have hltZ : (m : Int) < ((line.length - 1 : Nat) : Int):=by omega
  have hm1 : m < line.length:=by omega
  have hm2 : m+1 < line.length:=by omega
  have hm3 : (0 : Int)≤(m : Int)+1:=by omega
  have hp:=zQ hok hm1
  have hq:=zQ hok hm2
  have hSm:=fun i hi=>Hy hv hp hq (i:=i) hi
  have hp1 : line[m]?=some (iK line m):=by simp [iK,List.getElem?_eq_getElem hm1]
  have hq1 : line[m+1]?=some (iK line (m+1)):=by simp [iK,List.getElem?_eq_getElem hm2]
  have hp1':=aD hp1 hm1
  have hq1':=aD hq1 hm2
  have hMM : t7 t line m=kY t (iK line m) (iK line (m+1)) t.cells.length:=rfl
  generalize iK line m=p at *
  generalize iK line (m+1)=q at *
  have hrk:=fun i g=>zO hSm (i:=i) (g:=g)
  with_reducible repeat' (first|refine Sp.h ?_|((first|refine Wd ?_|refine Ss.h ?_|(refine Sb.h ?_ ?_ ?_<;>(try intro hgd)<;>try exact Xy))<;>simp -implicitDefEqProofs (maxSteps:=2000000) [hP,hN,g1,g2,g4,g6,g41,g42,hb2,hb4,hb9,hb12,hb13,hlt,hltZ]<;>try refine Ya ?_)|refine X2 ?_ ?_|(refine Xd ?_ ?_<;>intro hcd<;>try exact Xx))
  refine WP.loopN [12,13] t.cells.length (fun i st=>st.t 1=.pv (.sl (line.map zs))∧st.t 2=.ptr 2 0∧st.t 4=.ptr 4 0∧st.t 6=.pv (.sl ((ah t).map iv))∧st.t 7=.pv (Z m)∧st.t 8=.pv (B (kY t p q i).isSome)∧st.t 9=.ptr 9 0∧st.t 10=.pv (Z (t9 (kY t p q i)))∧st.t 41=.pv (Z (line.length - 1 : Nat))∧st.t 42=.pv (Z m)∧st.t 46=.pv (.sl (t.cells.map br))∧st.t 47=.pv (Z t.cells.length)∧st.t 48=.pv (Z i)∧st.h 2=some (.box [.pv (iv t.root),.pv (.sl (t.cells.map br))] true false)∧st.h 4=some (.box [.pv (Z 0),.pv (Z 0),.pv (Z 0),.pv (Z 0)] true false)∧st.h 9=some (Fb (t8 (kY t p q i)))∧st.h 12=none∧st.h 13=none) (by simp [kY,t8,t9,g1,g2,g4,g6,g41,g42,hb2,hb4,hb12,hb13]) ?_
  clear g1 g2 g4 g6 g41 g42 hb2 hb4 hb9 hb12 hb13
  rintro i st' hi ⟨y1,y2,y4,y6,y7,y8,y9,y10,y41,y42,y46,y47,y48,yb2,yb4,yb9,yb12,yb13⟩
  by_cases hil : i < t.cells.length
  ·have hwi:=ag hil (by omega)
   have hib : i < (ah t).length:=by omega
   obtain ⟨hbi,_,_⟩:=dh hv (c:=(i : Int)) (by simpa using hil)
   rw [Int.toNat_natCast] at hbi
   have hbi':=aD hbi hib
   have ce:=LD (aE t (i : Int)) p q (hSm i hil)
   have hek:=fun f=>zM (f:=f) (hSm i hil)
   have hsu : kY t p q (i+1)=wt t p q i (kY t p q i):=rfl
   generalize hc : t.cells[i]=c at *
   have hci : t.cells[i]?=some c:=by rw [List.getElem?_eq_getElem hil,hc]
   have cc:=Ey c
   have hct : kX t i=fG c:=by simp [kX,hci]
   rw [wt,hct] at hsu
   have hrki:=fun g hg=>(hrk i g (by omega) hg).1
   cases hcb : fG c with
   |false=>
    rw [hcb] at cc hsu
    simp only [Bool.false_eq_true,if_false] at hsu
    rw [← hsu] at y8 y10 yb9
    with_reducible repeat' (first|refine Sp.h ?_|((first|refine Wd ?_|refine Ss.h ?_|refine Sc.h (cc) ?_|(refine Sb.h ?_ ?_ ?_<;>(try intro hgd)<;>try exact Xy))<;>simp -implicitDefEqProofs (maxSteps:=2000000) [hP,hN,y1,y2,y4,y6,y7,y8,y9,y10,y41,y42,y46,y47,y48,yb2,yb4,yb9,yb12,yb13,hil,hwi,hci,hc]<;>try refine Ya ?_)|refine X2 ?_ ?_|(refine Xd ?_ ?_<;>intro hcd<;>try exact Xx))
   |true=>
   rw [hcb] at cc hsu
   simp only [if_true] at hsu
   cases he : m7 (aE t (i : Int)) p q with
   |none=>
    rw [he] at ce hsu
    simp only at hsu
    rw [← hsu] at y8 y10 yb9
    simp only [Option.getD_none,Option.isSome_none] at ce
    with_reducible repeat' (first|refine Sp.h ?_|((first|refine Wd ?_|refine Ss.h ?_|refine Sc.h (cc) ?_|refine Sc.h (ce) ?_|(refine Sb.h ?_ ?_ ?_<;>(try intro hgd)<;>try exact Xy))<;>simp -implicitDefEqProofs (maxSteps:=2000000) [hP,hN,y1,y2,y4,y6,y7,y8,y9,y10,y41,y42,y46,y47,y48,yb2,yb4,yb9,yb12,yb13,hil,hwi,hci,hc,hib,hbi,hbi',hm1,hm2,hp1,hq1,hp1',hq1',hw,hm3]<;>try refine Ya ?_)|refine X2 ?_ ?_|(refine Xd ?_ ?_<;>intro hcd<;>try exact Xx))
   |some f=>
   rw [he] at ce hsu
   simp only [Option.getD_some,Option.isSome_some] at ce
   have hfk:=Ev (hek f he)
   simp only at hsu
   cases hs : kY t p q i with
   |none=>
    rw [hs] at hsu y8 y10 yb9
    simp only [Option.isSome_none,t9,t8] at hsu y8 y10 yb9
    with_reducible repeat' (first|refine Sp.h ?_|((first|refine Wd ?_|refine Ss.h ?_|refine Sc.h (cc) ?_|refine Sc.h (ce) ?_|(refine Sb.h ?_ ?_ ?_<;>(try intro hgd)<;>try exact Xy))<;>simp -implicitDefEqProofs (maxSteps:=2000000) [hP,hN,y1,y2,y4,y6,y7,y8,y9,y10,y41,y42,y46,y47,y48,yb2,yb4,yb9,yb12,yb13,hil,hwi,hci,hc,hib,hbi,hbi',hm1,hm2,hp1,hq1,hp1',hq1',hw,hm3]<;>try refine Ya ?_)|refine X2 ?_ ?_|(refine Xd ?_ ?_<;>intro hcd<;>try exact Xx))
    all_goals simp [hsu,t9,t8]
   |some g=>
    rw [hs] at hsu y8 y10 yb9
    have cl:=zV f g.1 hfk (Ev (hrki g hs))
    simp only [Option.isSome_some,t9,t8] at hsu y8 y10 yb9
    cases hlf : kg f g.1 with
    |true=>
     rw [hlf] at cl hsu
     simp only [if_true] at hsu
     with_reducible repeat' (first|refine Sp.h ?_|((first|refine Wd ?_|refine Ss.h ?_|refine Sc.h (cc) ?_|refine Sc.h (ce) ?_|refine Sc.h (cl) ?_|(refine Sb.h ?_ ?_ ?_<;>(try intro hgd)<;>try exact Xy))<;>simp -implicitDefEqProofs (maxSteps:=2000000) [hP,hN,y1,y2,y4,y6,y7,y8,y9,y10,y41,y42,y46,y47,y48,yb2,yb4,yb9,yb12,yb13,hil,hwi,hci,hc,hib,hbi,hbi',hm1,hm2,hp1,hq1,hp1',hq1',hw,hm3]<;>try refine Ya ?_)|refine X2 ?_ ?_|(refine Xd ?_ ?_<;>intro hcd<;>try exact Xx))
     all_goals simp [hsu,t9,t8]
    |false=>
     rw [hlf] at cl hsu
     simp only [Bool.false_eq_true,if_false] at hsu
     with_reducible repeat' (first|refine Sp.h ?_|((first|refine Wd ?_|refine Ss.h ?_|refine Sc.h (cc) ?_|refine Sc.h (ce) ?_|refine Sc.h (cl) ?_|(refine Sb.h ?_ ?_ ?_<;>(try intro hgd)<;>try exact Xy))<;>simp -implicitDefEqProofs (maxSteps:=2000000) [hP,hN,y1,y2,y4,y6,y7,y8,y9,y10,y41,y42,y46,y47,y48,yb2,yb4,yb9,yb12,yb13,hil,hwi,hci,hc,hib,hbi,hbi',hm1,hm2,hp1,hq1,hp1',hq1',hw,hm3]<;>try refine Ya ?_)|refine X2 ?_ ?_|(refine Xd ?_ ?_<;>intro hcd<;>try exact Xx))
     all_goals simp [hsu,t9,t8]
  ·have hi' : i=t.cells.length:=by omega
   subst hi'
   rw [← hMM] at y8 y10 yb9
   cases hmm : t7 t line m with
   |none=>
    rw [hmm] at y8 y10 yb9
    have hnx:=AK hlt hmm
    rw [← hmc] at hnx
    simp only [Option.isSome_none,t9,t8] at y8 y10 yb9
    with_reducible repeat' (first|refine Sp.h ?_|((first|refine Wd ?_|refine Ss.h ?_|(refine Sb.h ?_ ?_ ?_<;>(try intro hgd)<;>try exact Xy))<;>simp -implicitDefEqProofs (maxSteps:=2000000) [hP,hN,y1,y2,y4,y6,y7,y8,y9,y10,y41,y42,y46,y47,y48,yb2,yb4,yb9,yb12,yb13,hil,hw]<;>try refine Ya ?_)|refine X2 ?_ ?_|(refine Xd ?_ ?_<;>intro hcd<;>try exact Xx))
    all_goals exact hnx
   |some g=>
    rw [hmm] at y8 y10 yb9
    obtain ⟨⟨o1,o2,o3,o4⟩,_⟩:=hrk _ g (Nat.le_refl _) (by rw [← hMM];exact hmm)
    have clo:=LC g.1 o1 o3 (by omega) (by omega)
    rw [hmc,BQ hlt hmm]
    simp only [Option.isSome_some,t9,t8] at y8 y10 yb9
    with_reducible repeat' (first|refine Sp.h ?_|((first|refine Wd ?_|refine Ss.h ?_|refine Sc.h (clo) ?_|(refine Sb.h ?_ ?_ ?_<;>(try intro hgd)<;>try exact Xy))<;>simp -implicitDefEqProofs (maxSteps:=2000000) [hP,hN,y1,y2,y4,y6,y7,y8,y9,y10,y41,y42,y46,y47,y48,yb2,yb4,yb9,yb12,yb13,hil,hw]<;>try refine Ya ?_)|refine X2 ?_ ?_|(refine Xd ?_ ?_<;>intro hcd<;>try exact Xx))
 ·have hltZ : ¬ (m : Int) < ((line.length - 1 : Nat) : Int):=by omega
  rw [hmc,BR hlt,zL]
  with_reducible repeat' (first|refine Sp.h ?_|((first|refine Wd ?_|refine Ss.h ?_|(refine Sb.h ?_ ?_ ?_<;>(try intro hgd)<;>try exact Xy))<;>simp -implicitDefEqProofs (maxSteps:=2000000) [hP,hN,g1,g2,g4,g6,g41,g42,hb2,hb4,hb9,hb12,hb13,hlt,hltZ]<;>try refine Ya ?_)|refine X2 ?_ ?_|(refine Xd ?_ ?_<;>intro hcd<;>try exact Xx))
end Go.Ab
namespace Go.Ab
open Go.Proofs
theorem Dk {t : Tr} (hv : au t=true) {i : Nat} {c : Cel} (hc : t.cells[i]?=some c) : fG c=(c.v.kind==2):=by
 unfold fG
 cases hl : aI c with
 |true=>simp
 |false=>
  have:=dt.1 ((Eh hv hc).2 hl)
  have hz:=this.2.2.2.2.2
  simp only [jR,Bool.and_eq_true,beq_iff_eq] at hz
  simp [hz.1.1]
end Go.Ab
namespace Go.Ab
open Go.Proofs
def gX (s : Sce) (t : Tr) (i : Nat) : Bool:=match t.cells[i]? with
 |some c=>fX s (aE t (i : Int)) ⟨c.v.pair,c.v.left,c.v.right⟩
 |none=>false
def iP (s : Sce) (t : Tr) : Bool:=(List.range t.cells.length).all fun i=>!kX t i || gX s t i
def tY (s : Sce) (t : Tr) (p q : List Int) (U : List Bool) : Bool:=decide (aJ s=0) && au t && jm t.root (aF s.js s.ms) && gP t p q U
def qP (s : Sce) (t : Tr) (p q : List Int) (U : List Bool) : Bool:=tY s t p q U && iP s t
def BK (s : Sce) (t : Tr) (p q : List Int) (U : List Bool) : Int:=if qP s t p q U then fH t.cells else 0
def pB (s : Sce) (t : Tr) (n : Nat) : Prop:=∀ i,i < n→kX t i=true→gX s t i=true
theorem zG {s : Sce} {t : Tr} (h : pB s t t.cells.length) : iP s t=true:=by
 rw [iP,List.all_eq_true]
 intro i hi
 rw [List.mem_range] at hi
 cases hc : kX t i with
 |false=>rfl
 |true=>rw [h i hi hc];rfl
theorem zH {s : Sce} {t : Tr} {i : Nat} (hi : i < t.cells.length) (hc : kX t i=true) (hh : gX s t i=false) : iP s t=false:=by
 cases h : iP s t with
 |false=>rfl
 |true=>
  rw [iP,List.all_eq_true] at h
  have:=h i (List.mem_range.2 hi)
  rw [hc,hh] at this;cases this
def nE (t : Tr) (i : Nat) : Nat:=fH (t.cells.take i)
theorem xm (t : Tr) : nE t 0=0:=rfl
theorem zI (t : Tr) : nE t t.cells.length=fH t.cells:=by rw [nE,List.take_length]
theorem xn {t : Tr} {i : Nat} {c : Cel} (h : t.cells[i]?=some c) : nE t (i+1)=nE t i+if fG c then 1 else 0:=by
 unfold nE fH
 rw [List.take_add_one,h,List.countP_append]
 cases hc : fG c<;>simp [hc]
theorem BL (t : Tr) (i : Nat) : nE t i≤t.cells.length:=by
 unfold nE fH
 exact Nat.le_trans List.countP_le_length (by rw [List.length_take];omega)
structure TW (t : Tr) : Prop where
 c : t.cells.length≤1000000
 r : t.root.length≤1000000
 w : ∀ c ∈ t.cells,c.v.left.length≤9223372036854775807∧c.v.right.length≤9223372036854775807
theorem Lq (s : Sce) (t : Tr) (p q : List Int) (U : List Bool) (hs : ScL s) (hT : TW t) (hU : qS t p U) : ab Tryz.prog 27 [.pv (dV s),.pv (bT t),.pv (zs p),.pv (zs q)] [] [] (.pv (.tup [Z (BK s t p q U),B (qP s t p q U)])):=by
 have hTc:=hT.c
 have hTr:=hT.r
 have cs:=EF s hs
 have cv:=Hf t (by omega)
 have cl:=K9 s.js s.ms hs.js hs.ms
 have hll : (aF s.js s.ms).length≤9223372036854775807:=by have:=hs.js;unfold aF;split<;>simp;omega
 have ce:=Lo t.root (aF s.js s.ms) (by omega) hll
 have cp:=Ga t p q U (by omega) (by omega) hU
 have hP : tY s t p q U=(decide (aJ s=0) && au t && jm t.root (aF s.js s.ms) && gP t p q U):=rfl
 have hO : qP s t p q U=(tY s t p q U && iP s t):=rfl
 have hN : BK s t p q U=if qP s t p q U then (fH t.cells : Int) else 0:=rfl
 by_cases h0 : aJ s=0
 case neg=>
  rw [decide_eq_false h0] at hP
  simp only [Bool.false_and] at hP
  rw [hP,Bool.false_and] at hO
  rw [hO,if_neg (by simp)] at hN
  have h0' : (aJ s !=0)=true:=by simp [h0]
  rw [hN,hO]
  clear hN hO hP hU hT
  refine Dp Tryz.func27 ?_
  intro C hP hN
  simp only [Tryz.f27] at hN ⊢
  exact Gy
 have h0' : (aJ s !=0)=false:=by simp [h0]
 rw [decide_eq_true h0,Bool.true_and] at hP
 cases h1 : au t with
 |false=>
  rw [h1] at hP cv
  simp only [Bool.false_and] at hP
  rw [hP,Bool.false_and] at hO
  rw [hO,if_neg (by simp)] at hN
  rw [hN,hO]
  clear hN hO hP hU hT
  refine Dp Tryz.func27 ?_
  intro C hP hN
  simp only [Tryz.f27] at hN ⊢
  exact Gy
 |true=>
 rw [h1] at hP cv
 rw [Bool.true_and] at hP
 generalize aF s.js s.ms=LR at *
 cases h2 : jm t.root LR with
 |false=>
  rw [h2] at hP ce
  simp only [Bool.false_and] at hP
  rw [hP,Bool.false_and] at hO
  rw [hO,if_neg (by simp)] at hN
  rw [hN,hO]
  clear hN hO hP hU hT
  refine Dp Tryz.func27 ?_
  intro C hP hN
  simp only [Tryz.f27] at hN ⊢
  exact Gy
 |true=>
 rw [h2] at hP ce
 rw [Bool.true_and] at hP
 cases h3 : gP t p q U with
 |false=>
  rw [h3] at hP cp
  rw [hP,Bool.false_and] at hO
  rw [hO,if_neg (by simp)] at hN
  rw [hN,hO]
  clear hN hO hP hU hT
  refine Dp Tryz.func27 ?_
  intro C hP hN
  simp only [Tryz.f27] at hN ⊢
  exact Gy
 |true=>
 rw [h3] at hP cp
 rw [hP,Bool.true_and] at hO
 rw [hO] at hN
 rw [hN,hO]
 clear hN hO hP hU
 have cb:=F9 t h1
 have hbl:=du h1
 have hz:=bc.1 (cO h1)
 have hcs:=fun (i : Nat) (c : Cel) (h : t.cells[i]?=some c)=>xn h
 have hcl:=BL t
 have hK0:=xm t
 rw [← zI t]
 have hcol:=fun (i : Nat) (hi : i < t.cells.length) (c : Cel) (hc : t.cells[i]?=some c)=>LI s (aE t (i : Int)) ⟨c.v.pair,c.v.left,c.v.right⟩ hs (by have:=(dh h1 (c:=(i : Int)) (by simpa using hi)).2.1;omega) (hT.w c (List.mem_of_getElem? hc)).1 (hT.w c (List.mem_of_getElem? hc)).2
 have hcd:=fun (c : Cel)=>Ey c
 have hall : ∀ i,i < t.cells.length→kX t i=true→gX s t i=false→iP s t=false:=fun i h1 h2 h3=>zH h1 h2 h3
 have hallt : pB s t t.cells.length→iP s t=true:=zG
 have hq00 : pB s t 0:=fun i hi=>by omega
 have hhd : ∀ i c,t.cells[i]?=some c→gX s t i=fX s (aE t (i : Int)) ⟨c.v.pair,c.v.left,c.v.right⟩:=fun i c h=>by simp [gX,h]
 have hct : ∀ i c,t.cells[i]?=some c→kX t i=fG c:=fun i c h=>by simp [kX,h]
 have hbk : ∀ i,i < t.cells.length→(ah t)[i]?=some (aE t (i : Int)):=fun i hi=>by
  have:=(dh h1 (c:=(i : Int)) (by simpa using hi)).1
  simpa using this
 generalize iP s t=CA at *
 clear hT h3 h2 hz
 refine Dp Tryz.func27 ?_
 intro C hP hN
 simp only [Tryz.f27] at hN ⊢
 refine Gz ?_
 refine WP.loopN [13] t.cells.length (fun i st=>st.t 4=.ptr 4 0∧st.h 4=some (.box [.pv (.sl (s.js.map bq)),.pv (.sl (s.ms.map bX)),.pv (.sl (s.shs.map bV)),.pv (.sl (s.sks.map av))] true false)∧st.t 10=.pv (.sl ((ah t).map iv))∧st.t 11=.pv (Z (nE t i))∧st.t 39=.pv (.sl (t.cells.map br))∧st.t 40=.pv (Z t.cells.length)∧st.t 41=.pv (Z i)∧st.h 13=none∧pB s t i) ?_ ?_
 ·simp [hK0]
  exact hq00
 rintro i st hi ⟨g4,hb4,g10,g11,g39,g40,g41,hb13,hq⟩
 by_cases hlt : i < t.cells.length
 ·have hwr:=ag hlt (by omega)
  obtain ⟨c,hc⟩ : ∃ c,t.cells[i]?=some c:=⟨_,List.getElem?_eq_getElem hlt⟩
  have hce : ∀ h,t.cells[i]'h=c:=fun h=>aD hc h
  have hib : i < (ah t).length:=by omega
  have hbi:=hbk i hlt
  have hbe : ∀ h,(ah t)[i]'h=aE t (i : Int):=fun h=>aD hbi h
  have hks:=hcs i c hc
  have hkl:=hcl i
  have c1:=hcd c
  have c2:=hcol i hlt c hc
  rw [← hhd i c hc] at c2
  have hcc:=hct i c hc
  have hcti:=hall i hlt
  rw [hcc] at hcti
  have hqs : (fG c=true→gX s t i=true)→pB s t (i+1):=fun h j hj hcj=>by
   by_cases e : j=i
   ·subst e;rw [hcc] at hcj;exact h hcj
   ·exact hq j (by omega) hcj
  have hwk : IntKind.i64.wrap ((nE t i : Int)+1)=(nE t i : Int)+1:=aa
  cases hcn : fG c with
  |false=>
   rw [hcn] at c1 hks hqs
   have hqs:=hqs (by simp)
   simp only [Bool.false_eq_true,if_false,Nat.add_zero] at hks
   exact Gy
   all_goals exact hqs
  |true=>
   rw [hcn] at c1 hks hqs hcti
   simp only [if_true] at hks
   cases hho : gX s t i with
   |false=>
    rw [hho] at c2
    rw [hcti rfl hho]
    exact Gy
   |true=>
    rw [hho] at c2
    have hqs:=hqs (fun _=>hho)
    exact Gy
    all_goals exact hqs
 ·have hin : i=t.cells.length:=by omega
  subst hin
  rw [hallt hq]
  exact Gy
end Go.Ab
namespace Go.Ab
open Go.Proofs
theorem Lr (s : Sce) (t : Tr) (p q : List Int) (U : List Bool) (hs : ScL s) (hT : TW t) (hU : qS t p U) (hp : p.length≤9223372036854775807) (hq : q.length≤9223372036854775807) : ab Tryz.prog 28 [.pv (dV s),.pv (bT t),.pv (zs p),.pv (zs q)] [] [] (.pv (.tup [Z (BK s t p q U),B (qP s t p q U)])):=by
 have hTc:=hT.c
 have hTr:=hT.r
 have cs:=zZ s hs
 have cv:=yA t (by omega)
 have cl:=FO s.js s.ms hs.js hs.ms
 have hll : (aF s.js s.ms).length≤9223372036854775807:=by have:=hs.js;unfold aF;split<;>simp;omega
 have ce:=Ln t.root (aF s.js s.ms) (by omega) hll
 have cp:=Gb t p q U (by omega) (by omega) hp hq hU
 have hP : tY s t p q U=(decide (aJ s=0) && au t && jm t.root (aF s.js s.ms) && gP t p q U):=rfl
 have hO : qP s t p q U=(tY s t p q U && iP s t):=rfl
 have hN : BK s t p q U=if qP s t p q U then (fH t.cells : Int) else 0:=rfl
 by_cases h0 : aJ s=0
 case neg=>
  rw [decide_eq_false h0] at hP
  simp only [Bool.false_and] at hP
  rw [hP,Bool.false_and] at hO
  rw [hO,if_neg (by simp)] at hN
  have h0' : (aJ s !=0)=true:=by simp [h0]
  rw [hN,hO]
  clear hN hO hP hU hT
  generalize au t=v at *
  refine Dp Tryz.func28 ?_
  intro C hP hN
  simp only [Tryz.f28] at hN ⊢
  exact Gy
 have h0' : (aJ s !=0)=false:=by simp [h0]
 rw [decide_eq_true h0,Bool.true_and] at hP
 cases h1 : au t with
 |false=>
  rw [h1] at hP cv
  simp only [Bool.false_and] at hP
  rw [hP,Bool.false_and] at hO
  rw [hO,if_neg (by simp)] at hN
  rw [hN,hO]
  clear hN hO hP hU hT
  refine Dp Tryz.func28 ?_
  intro C hP hN
  simp only [Tryz.f28] at hN ⊢
  exact Gy
 |true=>
 rw [h1] at hP cv
 rw [Bool.true_and] at hP
 generalize aF s.js s.ms=LR at *
 cases h2 : jm t.root LR with
 |false=>
  rw [h2] at hP ce
  simp only [Bool.false_and] at hP
  rw [hP,Bool.false_and] at hO
  rw [hO,if_neg (by simp)] at hN
  rw [hN,hO]
  clear hN hO hP hU hT
  refine Dp Tryz.func28 ?_
  intro C hP hN
  simp only [Tryz.f28] at hN ⊢
  exact Gy
 |true=>
 rw [h2] at hP ce
 rw [Bool.true_and] at hP
 cases h3 : gP t p q U with
 |false=>
  rw [h3] at hP cp
  rw [hP,Bool.false_and] at hO
  rw [hO,if_neg (by simp)] at hN
  rw [hN,hO]
  clear hN hO hP hU hT
  refine Dp Tryz.func28 ?_
  intro C hP hN
  simp only [Tryz.f28] at hN ⊢
  exact Gy
 |true=>
 rw [h3] at hP cp
 rw [hP,Bool.true_and] at hO
 rw [hO] at hN
 rw [hN,hO]
 clear hN hO hP hU
 have hbl:=du h1
 have hcs:=fun (i : Nat) (c : Cel) (h : t.cells[i]?=some c)=>xn h
 have hcl:=BL t
 have hK0:=xm t
 rw [← zI t]
 have hcol:=fun (i : Nat) (hi : i < t.cells.length) (c : Cel) (hc : t.cells[i]?=some c)=>L3 s (aE t (i : Int)) ⟨c.v.pair,c.v.left,c.v.right⟩ hs (by have:=(dh h1 (c:=(i : Int)) (by simpa using hi)).2.1;omega) (hT.w c (List.mem_of_getElem? hc)).1 (hT.w c (List.mem_of_getElem? hc)).2
 have hcd:=fun (i : Nat) (c : Cel) (hc : t.cells[i]?=some c)=>Dk h1 hc
 have hall : ∀ i,i < t.cells.length→kX t i=true→gX s t i=false→iP s t=false:=fun i h1 h2 h3=>zH h1 h2 h3
 have hallt : pB s t t.cells.length→iP s t=true:=zG
 have hq00 : pB s t 0:=fun i hi=>by omega
 have hhd : ∀ i c,t.cells[i]?=some c→gX s t i=fX s (aE t (i : Int)) ⟨c.v.pair,c.v.left,c.v.right⟩:=fun i c h=>by simp [gX,h]
 have hct : ∀ i c,t.cells[i]?=some c→kX t i=fG c:=fun i c h=>by simp [kX,h]
 have hbk : ∀ i,i < t.cells.length→(ah t)[i]?=some (aE t (i : Int)):=fun i hi=>by
  have:=(dh h1 (c:=(i : Int)) (by simpa using hi)).1
  simpa using this
 generalize iP s t=CA at *
 clear hT h3 h2
 refine Dp Tryz.func28 ?_
 intro C hP hN
 simp only [Tryz.f28] at hN ⊢
 refine Gz ?_
 refine WP.loopN [] t.cells.length (fun i st=>st.t 4=.ptr 4 0∧st.h 4=some (.box [.pv (.sl (s.js.map bq)),.pv (.sl (s.ms.map bX)),.pv (.sl (s.shs.map bV)),.pv (.sl (s.sks.map av))] true false)∧st.t 5=.ptr 5 0∧st.h 5=some (.box [.pv (iv t.root),.pv (.sl (t.cells.map br))] true false)∧st.t 10=.pv (.sl ((ah t).map iv))∧st.t 12=.pv (Z (nE t i))∧st.t 13=.pv (Z i)∧pB s t i) ?_ ?_
 ·simp [hK0]
  exact hq00
 rintro i st hi ⟨g4,hb4,g5,hb5,g10,g12,g13,hq⟩
 by_cases hlt : i < t.cells.length
 ·have hwr:=ag hlt (by omega)
  have hlt' : (i : Int) < (t.cells.length : Int):=by omega
  obtain ⟨c,hc⟩ : ∃ c,t.cells[i]?=some c:=⟨_,List.getElem?_eq_getElem hlt⟩
  have hce : ∀ h,t.cells[i]'h=c:=fun h=>aD hc h
  have hib : i < (ah t).length:=by omega
  have hbi:=hbk i hlt
  have hbe : ∀ h,(ah t)[i]'h=aE t (i : Int):=fun h=>aD hbi h
  have hks:=hcs i c hc
  have hkl:=hcl i
  have hck:=hcd i c hc
  have c2:=hcol i hlt c hc
  rw [← hhd i c hc] at c2
  have hcc:=hct i c hc
  have hcti:=hall i hlt
  rw [hcc] at hcti
  have hqs : (fG c=true→gX s t i=true)→pB s t (i+1):=fun h j hj hcj=>by
   by_cases e : j=i
   ·subst e;rw [hcc] at hcj;exact h hcj
   ·exact hq j (by omega) hcj
  have hwk : IntKind.i64.wrap ((nE t i : Int)+1)=(nE t i : Int)+1:=aa
  by_cases hk2 : c.v.kind=2
  ·have hk2' : (c.v.kind !=2)=false:=by simp [hk2]
   have hcn : fG c=true:=by rw [hck];simp [hk2]
   rw [hcn] at hks hqs hcti
   simp only [if_true] at hks
   cases hho : gX s t i with
   |false=>
    rw [hho] at c2
    rw [hcti rfl hho]
    exact Gy
   |true=>
    rw [hho] at c2
    have hqs:=hqs (fun _=>hho)
    exact Gy
    all_goals exact hqs
  ·have hk2' : (c.v.kind !=2)=true:=by simp [hk2]
   have hcn : fG c=false:=by rw [hck];simp [hk2]
   rw [hcn] at hks hqs
   have hqs:=hqs (by simp)
   simp only [Bool.false_eq_true,if_false,Nat.add_zero] at hks
   exact Gy
   all_goals exact hqs
 ·have hin : i=t.cells.length:=by omega
  subst hin
  rw [hallt hq]
  exact Gy
end Go.Ab
namespace Go.Ab
open Go.Proofs
def AL (x y : AV) (fb : Option bt) : Option bt:=match rG x y with
 |some (a,b)=>some (.pv (.val (.bool (!(a==b)))),[])
 |none=>fb
@[simp] theorem Hz (a b : Bool) (fb : Option bt) : AL (.pv (.val (.bool a))) (.pv (.val (.bool b))) fb=some (.pv (.val (.bool (!(a==b)))),[]):=rfl
@[simp] theorem KY {dst : Option Nat} {ty : TypeId} {pos : String} {aft : Array Edge} {g : Option (Nat × Bool)} {ρ : Operand→AV} (x y : Operand) :
 aT Tryz.prog ⟨dst,.binOp .neq 4 x y 4,ty,pos,aft,g⟩ ρ=AL (ρ x) (ρ y) (fc Tryz.prog ⟨dst,.binOp .neq 4 x y 4,ty,pos,aft,g⟩ ρ):=by
 unfold AL
 split
 ·rename_i a b h
  unfold rG at h
  split at h
  ·rename_i a' b' hx hy
   injection h with h;injection h with h1 h2;subst h1;subst h2
   refine cF (by simp [Op.operands,hx,hy,dw]) ?_
   unfold execOp
   simp only [(aW hx).2,(aW hy).2]
   have h1 : af Tryz.prog (eqGuard .neq 4 x y (.bool a') (.bool b'))=some ():=by kernel_rfl
   have h2 : af Tryz.prog (binOp .neq 4 (.bool a') (.bool b'))=some (.bool (!(a'==b'))):=by
    simp only [binOp,ae]
    rw [show af Tryz.prog (Op.equal 4 (.bool a') (.bool b'))=some (a'==b') from uM 9999 4 a' b' Tryz.underlying4]
    rfl
   simp only [ae,h1,h2,Option.bind_some];rfl
  ·cases h
 ·rfl
theorem Jg (a b c d a' b' c' d' : Int) : af Tryz.prog (Op.equal 49 (.agg #[.int .i64 a,.int .i64 b,.int .i64 c,.int .i64 d]) (.agg #[.int .i64 a',.int .i64 b',.int .i64 c',.int .i64 d']))=some (a==a' && b==b' && c==c' && d==d'):=by
 have hf : (Tryz.prog.fieldsOf 49).toList=[(Tryz.prog.fieldsOf 49)[0]!,(Tryz.prog.fieldsOf 49)[1]!,(Tryz.prog.fieldsOf 49)[2]!,(Tryz.prog.fieldsOf 49)[3]!]:=by kernel_rfl
 show af Tryz.prog (Op.equalIn (9999+1) 49 _ _)=_
 rw [qJ 9999 49 _ _ (by kernel_rfl) (by kernel_rfl),hf]
 have h:=kc (P:=Tryz.prog) (d:=9999) (xs:=#[.int .i64 a,.int .i64 b,.int .i64 c,.int .i64 d]) (ys:=#[.int .i64 a',.int .i64 b',.int .i64 c',.int .i64 d']) (f:=(Tryz.prog.fieldsOf 49)[0]!) (fs:=[(Tryz.prog.fieldsOf 49)[1]!,(Tryz.prog.fieldsOf 49)[2]!,(Tryz.prog.fieldsOf 49)[3]!]) (a:=.int .i64 a) (b:=.int .i64 a') (by decide +kernel) (by kernel_rfl) (by kernel_rfl) (kv 9998 _ .i64 .i64 a a' (by kernel_rfl))
  (kc (by decide +kernel) (a:=.int .i64 b) (b:=.int .i64 b') (by kernel_rfl) (by kernel_rfl) (kv 9998 _ .i64 .i64 b b' (by kernel_rfl))
  (kc (by decide +kernel) (a:=.int .i64 c) (b:=.int .i64 c') (by kernel_rfl) (by kernel_rfl) (kv 9998 _ .i64 .i64 c c' (by kernel_rfl))
  (kc (by decide +kernel) (a:=.int .i64 d) (b:=.int .i64 d') (by kernel_rfl) (by kernel_rfl) (kv 9998 _ .i64 .i64 d d' (by kernel_rfl)) xg)))
 rw [h];simp [Bool.and_assoc]
def wu (x : AV) : Option (Int × Int × Int × Int):=match x with
 |.pv (.val (.agg vs))=>match vs.toList with
  |[.int .i64 a,.int .i64 b,.int .i64 c,.int .i64 d]=>some (a,b,c,d)
  |_=>none
 |_=>none
theorem ua {x : AV} {a b c d : Int} (h : wu x=some (a,b,c,d)) : x=.pv (.val (.agg #[.int .i64 a,.int .i64 b,.int .i64 c,.int .i64 d])):=by
 unfold wu at h
 split at h
 ·split at h
  ·rename_i vs _ a' b' c' d' hv
   injection h with h;injection h with h1 h2;injection h2 with h2 h3;injection h3 with h3 h4;subst h1;subst h2;subst h3;subst h4
   rw [← Array.toArray_toList (xs:=vs),hv]
  ·cases h
 ·cases h
def Dl (x y : AV) (fb : Option bt) : Option bt:=match wu x,wu y with
 |some (a,b,c,d),some (a',b',c',d')=>some (.pv (.val (.bool (a==a' && b==b' && c==c' && d==d'))),[])
 |_,_=>fb
@[simp] theorem If (a b c d a' b' c' d' : Int) (fb : Option bt) : Dl (.pv (.val (.agg #[.int .i64 a,.int .i64 b,.int .i64 c,.int .i64 d]))) (.pv (.val (.agg #[.int .i64 a',.int .i64 b',.int .i64 c',.int .i64 d']))) fb=some (.pv (.val (.bool (a==a' && b==b' && c==c' && d==d'))),[]):=rfl
@[simp] theorem Mx {dst : Option Nat} {ty : TypeId} {pos : String} {aft : Array Edge} {g : Option (Nat × Bool)} {ρ : Operand→AV} (x y : Operand) :
 aT Tryz.prog ⟨dst,.binOp .eql 49 x y 49,ty,pos,aft,g⟩ ρ=Dl (ρ x) (ρ y) (fc Tryz.prog ⟨dst,.binOp .eql 49 x y 49,ty,pos,aft,g⟩ ρ):=by
 unfold Dl
 split
 ·rename_i a b c d a' b' c' d' hx hy
  exact po rfl (ua hx) (ua hy) (by kernel_rfl) (Jg a b c d a' b' c' d')
 ·rfl
def wA : Tr:=⟨[(0,8)],[bd aN]⟩
def BT : Tr:=⟨[(0,8)],[⟨0,1,2,aN⟩,bd aN,bd aN]⟩
def wC : Tr:=⟨[(0,8)],[⟨0,1,2,aN⟩,bd aN,⟨0,3,4,aN⟩,bd aN,bd aN]⟩
def wD : Tr:=⟨[(0,8)],[⟨0,1,2,aN⟩,bd aN,⟨0,3,4,aN⟩,bd (gF 1),bd aN]⟩
theorem Ew : fZ [(0,8)]=wA∧dl [(0,8)]=true:=⟨by kernel_rfl,by decide +kernel⟩
theorem Ig : bG wA 0 0=BT∧bS wA 0 0=true:=⟨by kernel_rfl,by kernel_rfl⟩
theorem Ih : bG BT 2 0=wC∧bS BT 2 0=true:=⟨by kernel_rfl,by kernel_rfl⟩
theorem Ii : dH wC 3 (gF 1)=wD∧bM wC 3 (gF 1)=true:=⟨by kernel_rfl,by kernel_rfl⟩
def wU : List Bool:=[false,true,false,false,false]
theorem Ex {i : Nat} (h : ff wU i) : i=1:=by
 unfold ff wU at h
 match i,h with
 |0,h=>simp at h
 |1,_=>rfl
 |2,h=>simp at h
 |3,h=>simp at h
 |4,h=>simp at h
 |n+5,h=>simp at h
theorem Ij : qS wD [1] wU:=by
 have hb : ∀ i,i < 5→(dO wD i && dS wD [1] i)=true→i=1:=by decide +kernel
 have hc : ∀ i,i < 5→dO wD i=true→l9 wD 1 i=true→i=1:=by decide +kernel
 have h1 : ff wU 1:=rfl
 have hI : FI 5 (dO wD) (l9 wD) (pC wD [1]) wU []:=by
  refine ⟨rfl,fun i hi=>?_,fun i hi=>?_,fun i hi=>by simp at hi,fun i hi=>.inr fun k hk ho ht=>?_⟩
  ·rw [hb i hi.1 hi.2];exact h1
  ·rw [Ex hi];exact .base ⟨by decide,by kernel_rfl⟩
  ·rw [Ex hi] at ht
   rw [hc k hk ho ht];exact h1
 exact hI.fin
theorem F7 : gP wD [1] [7] wU=true∧gP wD [1] [3] wU=false∧fH wD.cells=1∧iQ wD [[1],[7]]=some (0,(1,2),3):=⟨by kernel_rfl,by kernel_rfl,by kernel_rfl,by kernel_rfl⟩
theorem Lu : ab Tryz.prog 13 [] [] [] (.pv (bT wD)):=by
 have c1 : ab Tryz.prog 22 [.pv (.sl [I 0 8])] [] [] (.pv (.tup [bT wA,B true])):=by
  have:=Iz [(0,8)]
  rw [Ew.1,Ew.2] at this;exact this
 have c2:=Hg wA 0 0 (by decide)
 rw [Ig.1,Ig.2] at c2
 have c3:=Hg BT 2 0 (by decide)
 rw [Ih.1,Ih.2] at c3
 have c4:=IA 1
 have c5:=IB wC 3 (gF 1) (by decide)
 rw [Ii.1,Ii.2] at c5
 generalize wD=T4 at *
 generalize wC=T3 at *
 generalize BT=T2 at *
 generalize wA=T1 at *
 generalize gF 1=lv at *
 refine Dp Tryz.func13 ?_
 intro C hP hN
 simp only [Tryz.f13] at hN ⊢
 with_reducible repeat' (first|refine Sp.h ?_|((first|refine Wd ?_|refine Ss.h ?_|refine Sc.h (c1) ?_|refine Sc.h (c2) ?_|refine Sc.h (c3) ?_|refine Sc.h (c4) ?_|refine Sc.h (c5) ?_|(refine Sb.h ?_ ?_ ?_<;>(try intro hgd)<;>try exact Xy))<;>simp -implicitDefEqProofs (maxSteps:=2000000) [hP,hN]<;>try refine Ya ?_)|refine X2 ?_ ?_|(refine Xd ?_ ?_<;>intro hcd<;>try exact Xx))
theorem d6 : ab Tryz.prog 6 [] [] [] (.pv (B true)):=by
 have c0:=Lu
 obtain ⟨e1,e2,e3,e4⟩:=F7
 have c1 : ab Tryz.prog 14 [.pv (bT wD),.pv (.sl [.sl [Z 1],.sl [Z 7]])] [] [] (.pv (.tup [.val (.agg #[.int .i64 0,.int .i64 1,.int .i64 2,.int .i64 3]),B true])):=by
  have:=Lt wD [[1],[7]] (by decide) (by decide) (by decide)
  rw [e4] at this;exact this
 have c2 : ab Tryz.prog 15 [.pv (bT wD),.pv (.sl [Z 1]),.pv (.sl [Z 7])] [] [] (.pv (B true)):=by
  have:=Ga wD [1] [7] wU (by decide) (by decide) Ij
  rw [e1] at this;exact this
 have c3 : ab Tryz.prog 15 [.pv (bT wD),.pv (.sl [Z 1]),.pv (.sl [Z 3])] [] [] (.pv (B false)):=by
  have:=Ga wD [1] [3] wU (by decide) (by decide) Ij
  rw [e2] at this;exact this
 have c4 : ab Tryz.prog 16 [.pv (bT wD)] [] [] (.pv (Z 1)):=by
  have:=Ly wD (by decide)
  rw [e3] at this;exact this
 generalize wD=T4 at *
 refine Dp Tryz.func6 ?_
 intro C hP hN
 simp only [Tryz.f6] at hN ⊢
 with_reducible repeat' (first|refine Sp.h ?_|((first|refine Ss.h ?_|refine Sc.h (c0) ?_|refine Sc.h (c1) ?_|refine Sc.h (c2) ?_|refine Sc.h (c3) ?_|refine Sc.h (c4) ?_|(refine Sb.h ?_ ?_ ?_<;>(try intro hgd)<;>try exact Xy))<;>simp -implicitDefEqProofs (maxSteps:=2000000) [hP,hN])|refine X2 ?_ ?_|(refine Xd ?_ ?_<;>intro hcd<;>try exact Xx))
theorem Jh (t : Tr) : ab Tryz.prog 4 [.pv (bT t)] [] [] (.pv (B (decide (t.root.length≤12) && decide (t.cells.length≤60)))):=by
 have e1 : decide ((t.root.length : Int)≤12)=decide (t.root.length≤12):=by simp;omega
 have e2 : decide ((t.cells.length : Int)≤60)=decide (t.cells.length≤60):=by simp;omega
 rw [← e1,← e2]
 by_cases h1 : (t.root.length : Int)≤12
 ·skip
  refine Dp Tryz.func4 ?_
  intro C hP hN
  simp only [Tryz.f4] at hN ⊢
  with_reducible repeat' (first|refine Sp.h ?_|((first|refine Ss.h ?_|(refine Sb.h ?_ ?_ ?_<;>(try intro hgd)<;>try exact Xy))<;>simp -implicitDefEqProofs (maxSteps:=2000000) [hP,hN,h1])|refine X2 ?_ ?_|(refine Xd ?_ ?_<;>intro hcd<;>try exact Xx))
 ·skip
  refine Dp Tryz.func4 ?_
  intro C hP hN
  simp only [Tryz.f4] at hN ⊢
  with_reducible repeat' (first|refine Sp.h ?_|((first|refine Ss.h ?_|(refine Sb.h ?_ ?_ ?_<;>(try intro hgd)<;>try exact Xy))<;>simp -implicitDefEqProofs (maxSteps:=2000000) [hP,hN,h1])|refine X2 ?_ ?_|(refine Xd ?_ ?_<;>intro hcd<;>try exact Xx))
end Go.Ab
namespace Go.Ab
open Go.Proofs
structure KidsP (cs : List Cel) : Prop where
 rng : ∀ (i : Nat) c,cs[i]?=some c→aI c=false→0≤c.low∧c.low < cs.length∧0≤c.high∧c.high < cs.length∧c.low≠c.high
 dif : ∀ (i j : Nat) c d,cs[i]?=some c→cs[j]?=some d→aI c=false→aI d=false→i≠j→c.low≠d.low∧c.low≠d.high∧c.high≠d.low∧c.high≠d.high
theorem Ak {t : Tr} (hv : au t=true) {i j : Nat} {c d : Cel} (hc : t.cells[i]?=some c) (hd : t.cells[j]?=some d) (hlc : aI c=false) (hld : aI d=false) (hij : i < j) : c.low≠d.low∧c.low≠d.high∧c.high≠d.low∧c.high≠d.high:=by
 obtain ⟨L,hL⟩:=Option.isSome_iff_exists.1 hv
 have hlt:=(List.getElem?_eq_some_iff.1 hd).1
 obtain ⟨hi,_⟩:=sD hv hc hlc
 have hin:=dt.1 hi
 have hP:=iA (P:=fun k M=>BOk t k M∧(i < k→(∃ a,M[c.low.toNat]?=some (some a))∧∃ b,M[c.high.toNat]?=some (some b))∧(j < k→c.low≠d.low∧c.low≠d.high∧c.high≠d.low∧c.high≠d.high)) hL ⟨lm (gM hL),by omega,by omega⟩ (by
  rintro k e M M' hk ⟨hbo,hp,hq⟩ hm
  refine ⟨ln hbo hm,fun hik=>?_,fun hjk=>?_⟩
  ·by_cases e1 : k=i
   ·subst e1
    rw [hc] at hk;injection hk with hk;subst hk
    obtain ⟨b,hb,⟨h1,_⟩|⟨_,hi2,hh,hlo,hhi,rfl⟩⟩:=eg hm
    ·rw [hlc] at h1;cases h1
    ·exact ⟨⟨_,by rw [jg hbo.len hi2,if_neg (by omega),if_pos rfl]⟩,⟨_,by rw [jg hbo.len hi2,if_pos rfl]⟩⟩
   ·obtain ⟨⟨a,ha⟩,b,hb⟩:=hp (by omega)
    exact ⟨⟨a,jx hm ha⟩,b,jx hm hb⟩
  ·by_cases e1 : k=j
   ·subst e1
    rw [hd] at hk;injection hk with hk;subst hk
    obtain ⟨⟨a,ha⟩,b,hb⟩:=hp (by omega)
    obtain ⟨b',hb',⟨h1,_⟩|⟨_,hi2,hh,hlo,hhi,rfl⟩⟩:=eg hm
    ·rw [hld] at h1;cases h1
    ·have hin2:=dt.1 hi2
     refine ⟨fun e=>?_,fun e=>?_,fun e=>?_,fun e=>?_⟩
     ·rw [e,hlo] at ha;cases ha
     ·rw [e,hhi] at ha;cases ha
     ·rw [e,hlo] at hb;cases hb
     ·rw [e,hhi] at hb;cases hb
   ·exact hq (by omega))
 exact hP.2.2 hlt
theorem Bd {t : Tr} (hv : au t=true) : KidsP t.cells:=by
 refine ⟨fun i c hc hl=>?_,fun i j c d hc hd hl hm hne=>?_⟩
 ·have h:=dt.1 (sD hv hc hl).1
  omega
 ·rcases Nat.lt_or_gt_of_ne hne with h|h
  ·exact Ak hv hc hd hl hm h
  ·obtain ⟨a,b,e,f⟩:=Ak hv hd hc hm hl h
   exact ⟨a.symm,e.symm,b.symm,f.symm⟩
def ki (c : Cel) (v : Verd) : Cel:=⟨c.joint,c.low,c.high,v⟩
theorem Ea {cs : List Cel} (h : KidsP cs) {k : Nat} {c0 : Cel} (hk : cs[k]?=some c0) (v : Verd) : KidsP (cs.set k (ki c0 v)):=by
 have key : ∀ (i : Nat) c,(cs.set k (ki c0 v))[i]?=some c→∃ c',cs[i]?=some c'∧c.joint=c'.joint∧c.low=c'.low∧c.high=c'.high:=by
  intro i c hc
  rw [List.getElem?_set] at hc
  split at hc
  ·rename_i e;subst e
   split at hc
   ·injection hc with hc;subst hc;exact ⟨c0,hk,rfl,rfl,rfl⟩
   ·cases hc
  ·exact ⟨c,hc,rfl,rfl,rfl⟩
 have lf : ∀ {c c' : Cel},c.joint=c'.joint→c.low=c'.low→c.high=c'.high→aI c=aI c':=fun a b d=>by simp [aI,a,b,d]
 refine ⟨fun i c hc hl=>?_,fun i j c d hc hd hl hm hne=>?_⟩
 ·obtain ⟨c',h1,h2,h3,h4⟩:=key i c hc
  rw [lf h2 h3 h4] at hl
  rw [h3,h4,List.length_set]
  exact h.rng i c' h1 hl
 ·obtain ⟨c',h1,h2,h3,h4⟩:=key i c hc
  obtain ⟨d',g1,g2,g3,g4⟩:=key j d hd
  rw [lf h2 h3 h4] at hl
  rw [lf g2 g3 g4] at hm
  rw [h3,h4,g3,g4]
  exact h.dif i j c' d' h1 g1 hl hm hne
def iy (k a b : Int) : Int:=k - (if a < k then 1 else 0) - (if b < k then 1 else 0)
def Ha (cs : List Cel) (i : Nat) (a b : Int) (k : Nat) : Option Cel:=if (k : Int)=a∨(k : Int)=b then none else match cs[k]? with
 |some c=>some (if k=i then bd aN else if aI c then c else ⟨c.joint,iy c.low a b,iy c.high a b,c.v⟩)
 |none=>none
def lV (cs : List Cel) (i : Nat) (a b : Int) (n : Nat) : List Cel:=(List.range n).filterMap (Ha cs i a b)
theorem yr {cs : List Cel} {i : Nat} {a b : Int} {n : Nat} (h : (n : Int)=a∨(n : Int)=b) : lV cs i a b (n+1)=lV cs i a b n:=by
 simp [lV,List.range_succ,List.filterMap_append,Ha,h]
theorem vi {cs : List Cel} {i : Nat} {a b : Int} {n : Nat} {c : Cel} (h : ¬ ((n : Int)=a∨(n : Int)=b)) (hc : cs[n]?=some c) : lV cs i a b (n+1)=lV cs i a b n++[if n=i then bd aN else if aI c then c else ⟨c.joint,iy c.low a b,iy c.high a b,c.v⟩]:=by
 simp [lV,List.range_succ,List.filterMap_append,Ha,h,hc]
theorem rW {cs : List Cel} {i : Nat} {a b : Int} (ha : 0≤a) (hb : 0≤b) (hab : a≠b) : ∀ n,n≤cs.length→((lV cs i a b n).length : Int)=(n : Int) - (if a < n then 1 else 0) - (if b < n then 1 else 0)
 |0,_=>by simp [lV];omega
 |n+1,hn=>by
  have ih:=rW (cs:=cs) (i:=i) ha hb hab n (by omega)
  obtain ⟨c,hc⟩ : ∃ c,cs[n]?=some c:=⟨cs[n]'(by omega),List.getElem?_eq_getElem _⟩
  by_cases h : (n : Int)=a∨(n : Int)=b
  ·rw [yr h,ih]
   rcases h with h|h<;>repeat' split
   all_goals omega
  ·rw [vi h hc,List.length_append,List.length_singleton]
   push_cast
   rw [ih]
   repeat' split
   all_goals omega
theorem rX {cs : List Cel} {i : Nat} {a b : Int} (ha : 0≤a) (hb : 0≤b) (hab : a≠b) : ∀ n,n≤cs.length→∀ (j : Nat) c',(lV cs i a b n)[j]?=some c'→∃ k c,k < n∧(k : Int)≠a∧(k : Int)≠b∧cs[k]?=some c∧(j : Int)=iy k a b∧c'=(if k=i then bd aN else if aI c then c else ⟨c.joint,iy c.low a b,iy c.high a b,c.v⟩)
 |0,_,j,c',h=>by simp [lV] at h
 |n+1,hn,j,c',h=>by
  obtain ⟨c,hc⟩ : ∃ c,cs[n]?=some c:=⟨cs[n]'(by omega),List.getElem?_eq_getElem _⟩
  by_cases e : (n : Int)=a∨(n : Int)=b
  ·rw [yr e] at h
   obtain ⟨k,d,h1,h2⟩:=rX ha hb hab n (by omega) j c' h
   exact ⟨k,d,by omega,h2⟩
  ·rw [vi e hc] at h
   have hl:=rW (cs:=cs) (i:=i) ha hb hab n (by omega)
   by_cases hj : j < (lV cs i a b n).length
   ·rw [List.getElem?_append_left hj] at h
    obtain ⟨k,d,h1,h2⟩:=rX ha hb hab n (by omega) j c' h
    exact ⟨k,d,by omega,h2⟩
   ·rw [List.getElem?_append_right (by omega)] at h
    have hj0 : j - (lV cs i a b n).length=0:=by
     have:=(List.getElem?_eq_some_iff.1 h).1
     simp at this;omega
    rw [hj0] at h
    simp only [List.getElem?_cons_zero,Option.some.injEq] at h
    have hje : j=(lV cs i a b n).length:=by omega
    refine ⟨n,c,by omega,fun h=>e (.inl h),fun h=>e (.inr h),hc,?_,h.symm⟩
    rw [hje,hl];rfl
def jQ (cs : List Cel) (i : Nat) (a b : Int) : List Cel:=lV cs i a b cs.length
theorem ta {cs : List Cel} {i : Nat} {a b : Int} (ha : 0≤a) (ha' : a < cs.length) (hb : 0≤b) (hb' : b < cs.length) (hab : a≠b) : (jQ cs i a b).length+2=cs.length:=by
 have h:=rW (cs:=cs) (i:=i) ha hb hab cs.length (by omega)
 rw [if_pos ha',if_pos hb'] at h
 unfold jQ;omega
theorem CE {cs : List Cel} (hk : KidsP cs) {i : Nat} {c0 : Cel} (hi : cs[i]?=some c0) (hl0 : aI c0=false) : KidsP (jQ cs i c0.low c0.high):=by
 obtain ⟨r1,r2,r3,r4,r5⟩:=hk.rng i c0 hi hl0
 have hlen:=ta (i:=i) r1 r2 r3 r4 r5
 have hg:=rX (cs:=cs) (i:=i) r1 r3 r5 cs.length (Nat.le_refl _)
 have nl : ∀ {k : Nat} {c c' : Cel},cs[k]?=some c→c'=(if k=i then bd aN else if aI c then c else ⟨c.joint,iy c.low c0.low c0.high,iy c.high c0.low c0.high,c.v⟩)→aI c'=false→k≠i∧aI c=false∧c'.low=iy c.low c0.low c0.high∧c'.high=iy c.high c0.low c0.high:=by
  intro k c c' hc he hl
  by_cases e : k=i
  ·rw [if_pos e] at he;subst he;rw [iJ] at hl;cases hl
  ·rw [if_neg e] at he
   cases hlc : aI c with
   |true=>rw [hlc] at he;simp only [if_true] at he;subst he;rw [hlc] at hl;cases hl
   |false=>rw [hlc] at he;simp only [Bool.false_eq_true,if_false] at he;subst he;exact ⟨e,rfl,rfl,rfl⟩
 have mono : ∀ x y : Int,x≠y→x≠c0.low→x≠c0.high→y≠c0.low→y≠c0.high→iy x c0.low c0.high≠iy y c0.low c0.high:=by
  intro x y h1 h2 h3 h4 h5
  unfold iy
  repeat' split
  all_goals omega
 have rngm : ∀ x : Int,0≤x→x < cs.length→x≠c0.low→x≠c0.high→0≤iy x c0.low c0.high∧iy x c0.low c0.high < (jQ cs i c0.low c0.high).length:=by
  intro x h1 h2 h3 h4
  unfold iy
  repeat' split
  all_goals omega
 refine ⟨fun j c' hc hl=>?_,fun j1 j2 c' d' hc hd hlc hld hne=>?_⟩
 ·obtain ⟨k,c,k1,k2,k3,k4,k5,k6⟩:=hg j c' hc
  obtain ⟨n1,n2,n3,n4⟩:=nl k4 k6 hl
  obtain ⟨q1,q2,q3,q4,q5⟩:=hk.rng k c k4 n2
  obtain ⟨d1,d2,d3,d4⟩:=hk.dif k i c c0 k4 hi n2 hl0 n1
  rw [n3,n4]
  have a1:=rngm c.low q1 q2 d1 d2
  have a2:=rngm c.high q3 q4 d3 d4
  exact ⟨a1.1,a1.2,a2.1,a2.2,mono _ _ q5 d1 d2 d3 d4⟩
 ·obtain ⟨k,c,k1,k2,k3,k4,k5,k6⟩:=hg j1 c' hc
  obtain ⟨m,d,m1,m2,m3,m4,m5,m6⟩:=hg j2 d' hd
  obtain ⟨n1,n2,n3,n4⟩:=nl k4 k6 hlc
  obtain ⟨o1,o2,o3,o4⟩:=nl m4 m6 hld
  have hkm : k≠m:=fun e=>by subst e;omega
  obtain ⟨d1,d2,d3,d4⟩:=hk.dif k i c c0 k4 hi n2 hl0 n1
  obtain ⟨e1,e2,e3,e4⟩:=hk.dif m i d c0 m4 hi o2 hl0 o1
  obtain ⟨f1,f2,f3,f4⟩:=hk.dif k m c d k4 m4 n2 o2 hkm
  rw [n3,n4,o3,o4]
  exact ⟨mono _ _ f1 d1 d2 e1 e2,mono _ _ f2 d1 d2 e3 e4,mono _ _ f3 d3 d4 e1 e2,mono _ _ f4 d3 d4 e3 e4⟩
theorem Eb {cs : List Cel} {i : Nat} {a b : Int} (ha : 0≤a) (hb : 0≤b) (hab : a≠b) {c' : Cel} (h : c' ∈ jQ cs i a b) : c'.v=aN∨∃ c ∈ cs,c'.v=c.v:=by
 obtain ⟨j,hj⟩:=List.getElem?_of_mem h
 obtain ⟨k,c,_,_,_,k4,_,k6⟩:=rX ha hb hab cs.length (Nat.le_refl _) j c' hj
 have hm:=List.mem_of_getElem? k4
 subst k6
 split
 ·exact .inl rfl
 ·split
  ·exact .inr ⟨c,hm,rfl⟩
  ·exact .inr ⟨c,hm,rfl⟩
end Go.Ab
namespace Go.Ab
theorem WP.freezeB {C : Cx} {c : Code} {Q : Exit→St→Prop} {st : St} (kb j : Nat) {k e sz fz : Nat} {xs : List PV} {cs : List AV} {own fb : Bool} (hb : st.h kb=some (.box cs own fb)) (hj : cs[j]?=some (.arr k xs.length)) (hk : st.h k=some (.row e sz xs fz))
 (h : WP C c Q ⟨st.t,aM (aM st.h k (some (.row e sz xs xs.length))) kb (some (.box (cs.set j (.pv (.sl xs))) own fb))⟩) : WP C c Q st:=by
 intro a w hs
 obtain ⟨L,hm,hN,hdf,htm⟩:=hs
 obtain ⟨hA,hR⟩:=o9 hm hk
 have hne : kb≠k:=by intro e;subst e;rw [hb] at hk;cases hk
 have hb1 : (aM st.h k (some (.row e sz xs xs.length))) kb=some (.box cs own fb):=by rw [bi hne];exact hb
 have hv : ∀ u,RepA w (am C L st.h) L st.h (.arr k xs.length) u→u=(L k).slice xs.length:=fun u hu=>by
  cases hu with
  |arr hk2 hn2 hu=>
   rw [hk] at hk2;injection hk2 with hk2;injection hk2 with _ _ a3 _
   subst a3
   exact hu rfl
 have hbk:=hm.bl kb _ hb
 obtain ⟨arr,ty,hc,hl,hr⟩:=hbk
 have hown:=hm.own kb _ hb
 have hpk:=MemL.touch_pk (w':=w) hA.1 (blk':=.box (cs.set j (.pv (.sl xs))) own fb) hb1 (fun _ _ _=>rfl) (fun _ _ _ _ h=>h) (fun o h=>h) rfl Iff.rfl
 have h3:=MemL.touch (w':=w) hA.1 (blk':=.box (cs.set j (.pv (.sl xs))) own fb) hb1 (fun _ _ _=>rfl) (Nat.le_refl _) rfl rfl rfl (fun _ _ _ _ h=>h) (fun o h=>h) rfl Iff.rfl (by cases own<;>exact hown) ⟨arr,ty,hc,by simpa using hl,fun i p u hp hu=>?_⟩
 ·refine h a w ⟨L,h3.1,hN,hdf,fun n=>?_⟩
  exact ((htm n).mono hA.2.1 hA.2.2).mono h3.2.1 h3.2.2
 ·rw [List.getElem?_set] at hp
  by_cases ei : j=i
  ·subst ei
   rw [if_pos rfl] at hp
   split at hp
   ·injection hp with hp;subst hp
    have:=hv u (hr j _ u hj hu)
    subst this
    exact (RepA.pv hR).mono hpk.1 hpk.2
   ·cases hp
  ·rw [if_neg ei] at hp
   exact ((hr i p u hp hu).mono hA.2.1 hA.2.2).mono hpk.1 hpk.2
end Go.Ab
namespace Go.Ab
open Go.Proofs
theorem Hb (t : Tr) (hne : 0 < t.cells.length) (hl : t.cells.length≤1000000) : ab Tryz.prog 32 [.pv (bT t)] [] [] (.srow [iv t.root] 84 8 (t.cells.map br)):=by
 have h1 : t.cells.length * 112≤140737488355328:=by omega
 have h2 : t.cells.length≤9223372036854775807:=by omega
 refine Dp Tryz.func32 ?_
 intro C hP hN
 simp only [Tryz.f32] at hN ⊢
 exact Gy
 all_goals exact ⟨7,⟨rfl,rfl⟩,rfl⟩
theorem Mf (k a b : Int) (hk : -9223372036854775800≤k) (hk' : k≤9223372036854775807) : ab Tryz.prog 69 [.pv (Z k),.pv (Z a),.pv (Z b)] [] [] (.pv (Z (iy k a b))):=by
 have w1 : IntKind.i64.wrap (k - 1)=k - 1:=aa
 have w2 : IntKind.i64.wrap (k - 1 - 1)=k - 1 - 1:=aa
 by_cases h1 : a < k
 ·by_cases h2 : b < k
  ·have e : iy k a b=k - 1 - 1:=by simp [iy,h1,h2]
   rw [e]
   refine Dp Tryz.func69 ?_
   intro C hP hN
   simp only [Tryz.f69] at hN ⊢
   exact Gy
  ·have e : iy k a b=k - 1:=by simp [iy,h1,h2]
   rw [e]
   refine Dp Tryz.func69 ?_
   intro C hP hN
   simp only [Tryz.f69] at hN ⊢
   exact Gy
 ·by_cases h2 : b < k
  ·have e : iy k a b=k - 1:=by simp [iy,h1,h2]
   rw [e]
   refine Dp Tryz.func69 ?_
   intro C hP hN
   simp only [Tryz.f69] at hN ⊢
   exact Gy
  ·have e : iy k a b=k:=by simp [iy,h1,h2]
   rw [e]
   refine Dp Tryz.func69 ?_
   intro C hP hN
   simp only [Tryz.f69] at hN ⊢
   exact Gy
def pW (c : Cel) : Bool:=aI c && !(c.v.kind==2)
theorem Mg (c : Cel) : ab Tryz.prog 34 [.pv (br c)] [] [] (.pv (B (pW c))):=by
 have cl:=uA c
 have hd : pW c=(aI c && !(c.v.kind==2)):=rfl
 rw [hd]
 cases h : aI c with
 |false=>
  rw [h] at cl
  refine Dp Tryz.func34 ?_
  intro C hP hN
  simp only [Tryz.f34] at hN ⊢
  exact Gy
 |true=>
  rw [h] at cl
  by_cases h2 : c.v.kind=2
  ·have h3 : (c.v.kind !=2)=false:=by simp [h2]
   have h4 : (c.v.kind==2)=true:=by simp [h2]
   clear h2
   refine Dp Tryz.func34 ?_
   intro C hP hN
   simp only [Tryz.f34] at hN ⊢
   exact Gy
  ·have h3 : (c.v.kind !=2)=true:=by simp [h2]
   have h4 : (c.v.kind==2)=false:=by simp [h2]
   refine Dp Tryz.func34 ?_
   intro C hP hN
   simp only [Tryz.f34] at hN ⊢
   exact Gy
def EM (rt : List (Int × Int)) (R : List Cel) (h : Hp) : Prop:=(R=[]∧h 7=some (.box [.pv (iv rt),.pv (.val (.slice none 0 0))] true false)∧h 68=none)∨(R≠[]∧h 7=some (.box [.pv (iv rt),.arr 68 R.length] true false)∧h 68=some (.row 84 8 (R.map br) 0))
theorem EM.same {rt : List (Int × Int)} {R : List Cel} {h h' : Hp} (hD : EM rt R h) (e7 : h' 7=(h 7).map (gq [9])) (e68 : h' 68=(h 68).map (gq [9])) : EM rt R h':=by
 rcases hD with ⟨a,b,c⟩|⟨a,b,c⟩
 ·rw [b] at e7;rw [c] at e68
  exact .inl ⟨a,by rw [e7];rfl,by rw [e68];rfl⟩
 ·rw [b] at e7;rw [c] at e68
  exact .inr ⟨a,by rw [e7];rfl,by rw [e68];rfl⟩
theorem Mh (t : Tr) (i : Nat) (c0 : Cel) (hl : t.cells.length≤1000000) (hk : KidsP t.cells) (hi : t.cells[i]?=some c0) (hl0 : aI c0=false) : ab Tryz.prog 35 [.pv (bT t),.pv (Z i)] [] [] (.pv (bT ⟨t.root,jQ t.cells i c0.low c0.high⟩)):=by
 obtain ⟨r1,r2,r3,r4,r5⟩:=hk.rng i c0 hi hl0
 have hdl:=ta (i:=i) r1 r2 r3 r4 r5
 have hlti:=(List.getElem?_eq_some_iff.1 hi).1
 have hie : ∀ h,t.cells[i]'h=c0:=fun h=>aD hi h
 have hrg:=fun (k : Nat) (c : Cel) (h : t.cells[k]?=some c) (hlf : aI c=false)=>hk.rng k c h hlf
 have hno:=fun (n : Nat) (h : (n : Int)=c0.low∨(n : Int)=c0.high)=>yr (cs:=t.cells) (i:=i) h
 have hyes:=fun (n : Nat) (c : Cel) (h : ¬ ((n : Int)=c0.low∨(n : Int)=c0.high)) (hc : t.cells[n]?=some c)=>vi (i:=i) h hc
 have hLn:=fun n (hn : n≤t.cells.length)=>rW (cs:=t.cells) (i:=i) r1 r3 r5 n hn
 have hfin : jQ t.cells i c0.low c0.high=lV t.cells i c0.low c0.high t.cells.length:=rfl
 have h00 : lV t.cells i c0.low c0.high 0=[]:=rfl
 rw [hfin] at hdl ⊢
 have hcm:=fun (k a b : Int) (h1 : -9223372036854775800≤k) (h2 : k≤9223372036854775807)=>Mf k a b h1 h2
 have hcl:=fun (c : Cel)=>uA c
 clear hk
 obtain ⟨jo,lo,hg,v0⟩:=c0
 simp only at *
 generalize hG : lV t.cells i lo hg=G at *
 refine Dp Tryz.func35 ?_
 intro C hP hN
 simp only [Tryz.f35] at hN ⊢
 refine Gz ?_
 refine WP.loopN [9] t.cells.length (fun k st=>st.t 1=.pv (Z i)∧st.t 2=.ptr 2 0∧st.h 2=some (.box [.pv (iv t.root),.pv (.sl (t.cells.map br))] true false)∧st.t 4=.ptr 4 0∧st.h 4=some (.box [.pv (.val (.slice none 0 0)),.pv (.val (.slice none 0 0))] true false)∧st.t 5=.pv (Z lo)∧st.t 6=.pv (Z hg)∧st.t 7=.ptr 7 0∧st.t 8=.pv (Z k)∧st.h 9=none∧EM t.root (G k) st.h) ?_ ?_
 ·simp
  exact .inl ⟨h00,by simp,by simp⟩
 rintro k st hk ⟨g1,g2,hb2,g4,hb4,g5,g6,g7,g8,hb9,hD⟩
 by_cases hlt : k < t.cells.length
 ·have hw:=ag hlt (by omega)
  have hlt' : (k : Int) < (t.cells.length : Int):=by omega
  obtain ⟨c,hc⟩ : ∃ c,t.cells[k]?=some c:=⟨_,List.getElem?_eq_getElem hlt⟩
  have hce : ∀ h,t.cells[k]'h=c:=fun h=>aD hc h
  by_cases he : (k : Int)=lo∨(k : Int)=hg
  ·have hn:=hno k he
   have e1 : ((k : Int)==lo || (k : Int)==hg)=true:=by simpa using he
   by_cases h1 : (k : Int)=lo
   ·have h1' : ((k : Int)==lo)=true:=by simp [h1]
    with_reducible repeat' (first|refine Sp.h ?_|((first|refine Wd ?_|refine Ss.h ?_|(refine Sb.h ?_ ?_ ?_<;>(try intro hgd)<;>try exact Xy))<;>simp -implicitDefEqProofs (maxSteps:=2000000) [hP,hN,g1,g2,hb2,g4,hb4,g5,g6,g7,g8,hb9,hlt,hlt',hc,hce,h1',hw]<;>try refine Ya ?_)|refine X2 ?_ ?_|(refine Xd ?_ ?_<;>intro hcd<;>try exact Xx))
    all_goals (rw [hn];exact hD.same (by simp) (by simp))
   ·have h2 : (k : Int)=hg:=he.resolve_left h1
    have h1' : ((k : Int)==lo)=false:=by simp [h1]
    have h2' : ((k : Int)==hg)=true:=by simp [h2]
    with_reducible repeat' (first|refine Sp.h ?_|((first|refine Wd ?_|refine Ss.h ?_|(refine Sb.h ?_ ?_ ?_<;>(try intro hgd)<;>try exact Xy))<;>simp -implicitDefEqProofs (maxSteps:=2000000) [hP,hN,g1,g2,hb2,g4,hb4,g5,g6,g7,g8,hb9,hlt,hlt',hc,hce,h1',h2',hw]<;>try refine Ya ?_)|refine X2 ?_ ?_|(refine Xd ?_ ?_<;>intro hcd<;>try exact Xx))
    all_goals (rw [hn];exact hD.same (by simp) (by simp))
  ·have hy:=hyes k c he hc
   have n1 : ¬ (k : Int)=lo:=fun h=>he (.inl h)
   have n2 : ¬ (k : Int)=hg:=fun h=>he (.inr h)
   have n1' : ((k : Int)==lo)=false:=by simp [n1]
   have n2' : ((k : Int)==hg)=false:=by simp [n2]
   have hGl:=hLn k (by omega)
   have hGn : (G k).length≤1000000:=by
    have a1 : (0 : Int)≤(if lo < (k : Int) then 1 else 0):=by split<;>omega
    have a2 : (0 : Int)≤(if hg < (k : Int) then 1 else 0):=by split<;>omega
    omega
   have k1 : ((G k).length+1) * 112≤140737488355328:=by omega
   have k2 : (G k).length+1≤9223372036854775807:=by omega
   have k3 : (G k).length≤9223372036854775806:=by omega
   have hne : ∀ x,G k++[x]≠[]:=fun x=>by simp
   have hz : ((G k).map br).length=(G k).length:=by simp
   clear hGl hG hno hyes hLn
   by_cases e : k=i
   ·subst e
    rw [if_pos rfl] at hy
    have e1 : ((k : Int)==(k : Int))=true:=by simp
    have cl:=hcl ⟨-1,-1,-1,aN⟩
    rw [show aI ⟨-1,-1,-1,aN⟩=true from rfl] at cl
    simp only [br,aN,bb,List.map_nil] at cl
    rcases hD with ⟨hR,hb7,hb68⟩|⟨hR,hb7,hb68⟩
    ·rw [hR] at hy
     with_reducible repeat' (first|refine Sp.h ?_|((first|refine Wd ?_|refine Ss.h ?_|refine Sc.h (cl) ?_|(refine Sb.h ?_ ?_ ?_<;>(try intro hgd)<;>try exact Xy))<;>simp -implicitDefEqProofs (maxSteps:=2000000) [hP,hN,g1,g2,hb2,g4,hb4,g5,g6,g7,g8,hb9,hb7,hb68,hlt,hlt',hc,hce,n1',n2',hw]<;>try refine Ya ?_)|refine X2 ?_ ?_|(refine Xd ?_ ?_<;>intro hcd<;>try exact Xx))
     all_goals (rw [hy];exact .inr ⟨by simp,by simp,by simp [bd,aN]⟩)
    ·skip
     with_reducible repeat' (first|refine Sp.h ?_|((first|refine Wd ?_|refine Ss.h ?_|refine Sc.h (cl) ?_|(refine Sb.h ?_ ?_ ?_<;>(try intro hgd)<;>try exact Xy))<;>simp -implicitDefEqProofs (maxSteps:=2000000) [hP,hN,g1,g2,hb2,g4,hb4,g5,g6,g7,g8,hb9,hb7,hb68,hlt,hlt',hc,hce,n1',n2',hw,k1,k2,k3,hz]<;>try refine Ya ?_)|refine X2 ?_ ?_|(refine Xd ?_ ?_<;>intro hcd<;>try exact Xx))
     all_goals (rw [hy];exact .inr ⟨by simp,by simp,by simp [bd,aN]⟩)
   ·have e1 : ((k : Int)==(i : Int))=false:=by simp;omega
    have e2 : ¬ (k : Int)=(i : Int):=by omega
    rw [if_neg e] at hy
    have cl:=hcl c
    cases hlf : aI c with
    |true=>
     rw [hlf] at cl hy
     simp only [if_true] at hy
     rcases hD with ⟨hR,hb7,hb68⟩|⟨hR,hb7,hb68⟩
     ·rw [hR] at hy
      with_reducible repeat' (first|refine Sp.h ?_|((first|refine Wd ?_|refine Ss.h ?_|refine Sc.h (cl) ?_|(refine Sb.h ?_ ?_ ?_<;>(try intro hgd)<;>try exact Xy))<;>simp -implicitDefEqProofs (maxSteps:=2000000) [hP,hN,g1,g2,hb2,g4,hb4,g5,g6,g7,g8,hb9,hb7,hb68,hlt,hlt',hc,hce,n1',n2',hw,e1,e2]<;>try refine Ya ?_)|refine X2 ?_ ?_|(refine Xd ?_ ?_<;>intro hcd<;>try exact Xx))
      all_goals (rw [hy];exact .inr ⟨by simp,by simp,by simp⟩)
     ·skip
      with_reducible repeat' (first|refine Sp.h ?_|((first|refine Wd ?_|refine Ss.h ?_|refine Sc.h (cl) ?_|(refine Sb.h ?_ ?_ ?_<;>(try intro hgd)<;>try exact Xy))<;>simp -implicitDefEqProofs (maxSteps:=2000000) [hP,hN,g1,g2,hb2,g4,hb4,g5,g6,g7,g8,hb9,hb7,hb68,hlt,hlt',hc,hce,n1',n2',hw,e1,e2,k1,k2,k3,hz]<;>try refine Ya ?_)|refine X2 ?_ ?_|(refine Xd ?_ ?_<;>intro hcd<;>try exact Xx))
      all_goals (rw [hy];exact .inr ⟨by simp,by simp,by simp⟩)
    |false=>
     rw [hlf] at cl hy
     simp only [Bool.false_eq_true,if_false] at hy
     obtain ⟨q1,q2,q3,q4,q5⟩:=hrg k c hc hlf
     have m1:=hcm c.low lo hg (by omega) (by omega)
     have m2:=hcm c.high lo hg (by omega) (by omega)
     rcases hD with ⟨hR,hb7,hb68⟩|⟨hR,hb7,hb68⟩
     ·rw [hR] at hy
      with_reducible repeat' (first|refine Sp.h ?_|((first|refine Wd ?_|refine Ss.h ?_|refine Sc.h (cl) ?_|refine Sc.h (m1) ?_|refine Sc.h (m2) ?_|(refine Sb.h ?_ ?_ ?_<;>(try intro hgd)<;>try exact Xy))<;>simp -implicitDefEqProofs (maxSteps:=2000000) [hP,hN,g1,g2,hb2,g4,hb4,g5,g6,g7,g8,hb9,hb7,hb68,hlt,hlt',hc,hce,n1',n2',hw,e1,e2]<;>try refine Ya ?_)|refine X2 ?_ ?_|(refine Xd ?_ ?_<;>intro hcd<;>try exact Xx))
      all_goals (rw [hy];exact .inr ⟨by simp,by simp,by simp⟩)
     ·skip
      with_reducible repeat' (first|refine Sp.h ?_|((first|refine Wd ?_|refine Ss.h ?_|refine Sc.h (cl) ?_|refine Sc.h (m1) ?_|refine Sc.h (m2) ?_|(refine Sb.h ?_ ?_ ?_<;>(try intro hgd)<;>try exact Xy))<;>simp -implicitDefEqProofs (maxSteps:=2000000) [hP,hN,g1,g2,hb2,g4,hb4,g5,g6,g7,g8,hb9,hb7,hb68,hlt,hlt',hc,hce,n1',n2',hw,e1,e2,k1,k2,k3,hz]<;>try refine Ya ?_)|refine X2 ?_ ?_|(refine Xd ?_ ?_<;>intro hcd<;>try exact Xx))
      all_goals (rw [hy];exact .inr ⟨by simp,by simp,by simp⟩)
 ·have hin : k=t.cells.length:=by omega
  subst hin
  rcases hD with ⟨hR,hb7,hb68⟩|⟨hR,hb7,hb68⟩
  ·rw [hR]
   exact Gy
  ·skip
   exact Gy
end Go.Ab
namespace Go.Ab
open Go.Proofs
def pX (c : Cel) : Cel:=if c.v.kind=2 then c else ki c aN
def nZ (cs : List Cel) (i : Nat) : List Cel:=cs.mapIdx fun k c=>if k < i then pX c else c
theorem yt (cs : List Cel) : nZ cs 0=cs:=by
 apply List.ext_getElem?;intro k
 simp only [nZ,List.getElem?_mapIdx]
 cases cs[k]?<;>simp
theorem yu {α : Type} {l : List α} {i : Nat} {x : α} (h : l[i]?=some x) : l.set i x=l:=by
 apply List.ext_getElem?;intro k
 rw [List.getElem?_set]
 split
 ·rename_i e;subst e;rw [if_pos (List.getElem?_eq_some_iff.1 h).1,h]
 ·rfl
theorem vj (cs : List Cel) (i : Nat) : (nZ cs i).length=cs.length:=by simp [nZ]
theorem yv {cs : List Cel} {i : Nat} {c : Cel} (h : cs[i]?=some c) : (nZ cs i)[i]?=some c:=by simp [nZ,h]
theorem yw {cs : List Cel} {i : Nat} {c : Cel} (h : cs[i]?=some c) : nZ cs (i+1)=(nZ cs i).set i (pX c):=by
 have hlt:=(List.getElem?_eq_some_iff.1 h).1
 apply List.ext_getElem?
 intro k
 rw [List.getElem?_set]
 by_cases e : i=k
 ·subst e
  rw [if_pos rfl,if_pos (by rw [vj];exact hlt)]
  simp [nZ,h]
 ·rw [if_neg e]
  simp only [nZ,List.getElem?_mapIdx]
  cases cs[k]? with
  |none=>rfl
  |some x=>
   simp only [Option.map_some]
   congr 1
   by_cases hki : k < i
   ·rw [if_pos (by omega),if_pos hki]
   ·rw [if_neg (by omega),if_neg hki]
def VW (cs : List Cel) : Prop:=∀ c ∈ cs,c.v.left.length≤9223372036854775807∧c.v.right.length≤9223372036854775807
structure GoodC (cs : List Cel) : Prop where
 k : KidsP cs
 v : VW cs
theorem yx {cs : List Cel} (h : GoodC cs) {k : Nat} {c : Cel} (hc : cs[k]?=some c) : GoodC (cs.set k (ki c aN)):=by
 refine ⟨Ea h.k hc _,fun d hd=>?_⟩
 rcases List.mem_or_eq_of_mem_set hd with hd|rfl
 ·exact h.v d hd
 ·simp [ki,aN]
theorem Al {cs : List Cel} (h : GoodC cs) : ∀ i,i≤cs.length→GoodC (nZ cs i)
 |0,_=>by rw [yt];exact h
 |i+1,hi=>by
  have ih:=Al h i (by omega)
  have hc : cs[i]?=some (cs[i]'(by omega)):=List.getElem?_eq_getElem _
  rw [yw hc]
  generalize cs[i]'(by omega)=c at hc
  unfold pX
  split
  ·rw [yu (yv hc)];exact ih
  ·exact yx ih (yv hc)
def jz (f : Tr→List Bool) (p q : List Int) (r : List (Int × Int)) (cs0 : List Cel) : Nat→List Cel
 |0=>cs0
 |i+1=>match (jz f p q r cs0 i)[i]? with
  |some c=>if c.v.kind=2∧gP ⟨r,(jz f p q r cs0 i).set i (ki c aN)⟩ p q (f ⟨r,(jz f p q r cs0 i).set i (ki c aN)⟩)=true then (jz f p q r cs0 i).set i (ki c aN) else jz f p q r cs0 i
  |none=>jz f p q r cs0 i
theorem yy {f : Tr→List Bool} {p q : List Int} {r : List (Int × Int)} {cs0 : List Cel} (h : GoodC cs0) : ∀ i,GoodC (jz f p q r cs0 i)∧(jz f p q r cs0 i).length=cs0.length
 |0=>⟨h,rfl⟩
 |i+1=>by
  obtain ⟨h1,h2⟩:=yy (f:=f) (p:=p) (q:=q) (r:=r) h i
  simp only [jz]
  split
  ·rename_i c hc
   split
   ·exact ⟨yx h1 hc,by rw [List.length_set];exact h2⟩
   ·exact ⟨h1,h2⟩
  ·exact ⟨h1,h2⟩
def jN (cs : List Cel) (k : Int) : Bool:=match cs[k.toNat]? with
 |some c=>pW c
 |none=>false
def uy (cs : List Cel) (i : Nat) : Bool:=match cs[i]? with
 |some c=>!aI c && jN cs c.low && jN cs c.high
 |none=>false
def nu (cs : List Cel) (i : Nat) : List Cel:=match cs[i]? with
 |some c=>jQ cs i c.low c.high
 |none=>cs
def qq : Nat→List Cel→Nat→List Cel
 |0,cs,_=>cs
 |f+1,cs,i=>if i < cs.length then (if uy cs i=true then qq f (nu cs i) 0 else qq f cs (i+1)) else cs
theorem vY {cs : List Cel} {i : Nat} (h : GoodC cs) (hd : uy cs i=true) : GoodC (nu cs i)∧(nu cs i).length+2=cs.length:=by
 unfold uy at hd
 unfold nu
 split at hd
 ·rename_i c hc
  have hl : aI c=false:=by
   cases hl : aI c with
   |false=>rfl
   |true=>rw [hl] at hd;simp at hd
  obtain ⟨r1,r2,r3,r4,r5⟩:=h.k.rng i c hc hl
  refine ⟨⟨CE h.k hc hl,fun d hm=>?_⟩,ta r1 r2 r3 r4 r5⟩
  rcases Eb r1 r3 r5 hm with e|⟨c',hc',e⟩
  ·rw [e];simp [aN]
  ·rw [e];exact h.v c' hc'
 ·cases hd
theorem tc : ∀ (f : Nat) (cs : List Cel) (i : Nat),GoodC cs→GoodC (qq f cs i)∧(qq f cs i).length≤cs.length
 |0,cs,i,h=>⟨h,Nat.le_refl _⟩
 |f+1,cs,i,h=>by
  simp only [qq]
  split
  ·split
   ·rename_i hd
    obtain ⟨h1,h2⟩:=vY h hd
    have:=tc f (nu cs i) 0 h1
    exact ⟨this.1,by omega⟩
   ·exact tc f cs (i+1) h
  ·exact ⟨h,Nat.le_refl _⟩
def yz (cs : List Cel) (i : Nat) : Nat:=cs.length * 3000+(cs.length - i)
def Iu (r : List (Int × Int)) (RES : List Cel) (n F k : Nat) (st : St) : Prop:=∃ cs i,st.t 10=.pv (Z (i : Nat))∧st.h 3=some (.box [.pv (iv r),.pv (.sl (cs.map br))] true false)∧GoodC cs∧cs.length≤n∧i≤cs.length∧yz cs i≤F - k∧qq (F - k) cs i=RES
theorem uz {r : List (Int × Int)} {RES : List Cel} {n F k : Nat} {st : St} (cs : List Cel) (i : Nat) (h1 : st.t 10=.pv (Z (i : Nat))) (h2 : st.h 3=some (.box [.pv (iv r),.pv (.sl (cs.map br))] true false)) (h3 : GoodC cs) (h4 : cs.length≤n) (h5 : i≤cs.length) (h6 : yz cs i≤F - k) (h7 : qq (F - k) cs i=RES) : Iu r RES n F k st:=⟨cs,i,h1,h2,h3,h4,h5,h6,h7⟩
theorem Ec {f : Nat} {cs : List Cel} {i : Nat} (h : ¬ i < cs.length) : qq f cs i=cs:=by
 cases f with
 |zero=>rfl
 |succ f=>simp only [qq,if_neg h]
set_option maxRecDepth 20000 in
theorem HR (t : Tr) (p q : List Int) (hl : t.cells.length≤9223372036854775807) (hr : t.root.length≤9223372036854775807) (hp : p.length≤9223372036854775807) (hq : q.length≤9223372036854775807) (hvw : VW t.cells) :
 ∃ cs,ab Tryz.prog 12 [.pv (bT t),.pv (zs p),.pv (zs q)] [] [] (.pv (bT ⟨t.root,cs⟩))∧VW cs∧cs.length≤t.cells.length:=by
 obtain ⟨f,hf⟩ : ∃ f : Tr→List Bool,∀ t,qS t p (f t):=⟨fun t=>Classical.choose (xx t p),fun t=>Classical.choose_spec (xx t p)⟩
 have cs0:=Gb t p q (f t) hl hr hp hq (hf t)
 cases hs : gP t p q (f t) with
 |false=>
  rw [hs] at cs0
  refine ⟨t.cells,?_,hvw,Nat.le_refl _⟩
  refine Dp Tryz.func12 ?_
  intro C hP hN
  simp only [Tryz.f12] at hN ⊢
  exact Gy
 |true=>
 have hv : au t=true:=by
  simp only [gP,Bool.and_eq_true] at hs
  exact hs.1.1.1
 have hz:=bc.1 (cO hv)
 have hG : GoodC t.cells:=⟨Bd hv,hvw⟩
 have hGw:=Al hG t.cells.length (Nat.le_refl _)
 have hwl:=vj t.cells t.cells.length
 have hG2:=fun i=>yy (f:=f) (p:=p) (q:=q) (r:=t.root) hGw i
 generalize hW : nZ t.cells t.cells.length=W at *
 have hG3:=tc (t.cells.length * 3000+t.cells.length+1) (jz f p q t.root W t.cells.length) 0 (hG2 _).1
 refine ⟨qq (t.cells.length * 3000+t.cells.length+1) (jz f p q t.root W t.cells.length) 0,?_,hG3.1.v,by have:=(hG2 t.cells.length).2;omega⟩
 clear hG3
 rw [hs] at cs0
 have cc:=Hb t (by omega) (by omega)
 have hwz:=yt t.cells
 have hwat:=fun (i : Nat) (c : Cel) (h : t.cells[i]?=some c)=>yv h
 have hwsu:=fun (i : Nat) (c : Cel) (h : t.cells[i]?=some c)=>yw h
 have hwll:=fun i=>vj t.cells i
 obtain ⟨r,cs⟩:=t
 simp only at *
 refine Dp Tryz.func12 ?_
 intro C hP hN
 simp only [Tryz.f12] at hN ⊢
 refine Gz ?_
 refine WP.loopN [] cs.length (fun i st=>st.t 1=.pv (zs p)∧st.t 2=.pv (zs q)∧st.t 3=.ptr 3 0∧st.h 3=some (.box [.pv (iv r),.arr 19 cs.length] true false)∧st.t 6=.ptr 6 0∧st.h 6=some (.box [.pv (.val (.slice none 0 0)),.pv (.val (.slice none 0 0))] true false)∧st.t 7=.pv (Z i)∧st.h 9=none∧st.h 57=none∧st.h 11=none∧st.h 19=some (.row 84 8 ((nZ cs i).map br) 0)) (by simp [hwz]) ?_
 rintro i st hi ⟨g1,g2,g3,hb3,g6,hb6,g7,hb9,hb57,hb11,hb19⟩
 have hzl:=hwll i
 by_cases hlt : i < cs.length
 ·have hw:=ag hlt (by omega)
  have hlt' : (i : Int) < (cs.length : Int):=by omega
  obtain ⟨c,hc⟩ : ∃ c,cs[i]?=some c:=⟨_,List.getElem?_eq_getElem hlt⟩
  have hat:=hwat i c hc
  have hsu:=hwsu i c hc
  rw [hsu]
  generalize nZ cs i=R at *
  have hlR : i < R.length:=by omega
  have hce : ∀ h,R[i]'h=c:=fun h=>aD hat h
  by_cases h2 : c.v.kind=2
  ·have h3 : (c.v.kind !=2)=false:=by simp [h2]
   have hwc : pX c=c:=by simp [pX,h2]
   rw [hwc,yu hat]
   clear h2
   exact Gy
  ·have h3 : (c.v.kind !=2)=true:=by simp [h2]
   have hwc : pX c=ki c aN:=by simp [pX,h2]
   rw [hwc,List.map_set]
   clear h2
   refine Gz ?_
   all_goals rfl
 have hin : i=cs.length:=by omega
 subst hin
 rw [hW] at hb19 hzl
 clear hwz hwat hwsu hwll cc cs0
 have hS0 : jz f p q r W 0=W:=rfl
 have hS1:=fun (i : Nat) (c : Cel) (h : (jz f p q r W i)[i]?=some c)=>show jz f p q r W (i+1)=if c.v.kind=2∧gP ⟨r,(jz f p q r W i).set i (ki c aN)⟩ p q (f ⟨r,(jz f p q r W i).set i (ki c aN)⟩)=true then (jz f p q r W i).set i (ki c aN) else jz f p q r W i by simp only [jz,h]
 refine WP.freezeB 3 1 (k:=19) hb3 (by simp [hzl]) hb19 ?_
 refine Gz ?_
 refine WP.loopN [9,57] cs.length (fun i st=>st.t 1=.pv (zs p)∧st.t 2=.pv (zs q)∧st.t 3=.ptr 3 0∧st.h 3=some (.box [.pv (iv r),.pv (.sl ((jz f p q r W i).map br))] true false)∧st.t 6=.ptr 6 0∧st.h 6=some (.box [.pv (.val (.slice none 0 0)),.pv (.val (.slice none 0 0))] true false)∧st.t 8=.pv (Z i)∧st.h 9=none∧st.h 57=none∧st.h 11=none) (by simp [hS0,g1,g2,g3,g6,hb6,hb9,hb57,hb11]) ?_
 clear g1 g2 g3 hb3 g6 hb6 g7 hb9 hb57 hb11 hb19 hlt hi hzl
 clear st
 rintro i st hi ⟨g1,g2,g3,hb3,g6,hb6,g8,hb9,hb57,hb11⟩
 obtain ⟨hgo,hzl⟩:=hG2 i
 by_cases hlt : i < cs.length
 ·have hw:=ag hlt (by omega)
  have hlt' : (i : Int) < (cs.length : Int):=by omega
  have hsu:=hS1 i
  generalize jz f p q r W i=R at *
  have hlR : i < R.length:=by omega
  have hRl : R.length=cs.length:=by omega
  obtain ⟨c,hc⟩ : ∃ c,R[i]?=some c:=⟨_,List.getElem?_eq_getElem hlR⟩
  have hsu:=hsu c hc
  have hce : ∀ h,R[i]'h=c:=fun h=>aD hc h
  by_cases h2 : c.v.kind=2
  ·have h3 : (c.v.kind !=2)=false:=by simp [h2]
   have cc:=Hb ⟨r,R⟩ (by simp only;omega) (by simp only;omega)
   have csx:=Gb ⟨r,R.set i (ki c aN)⟩ p q (f ⟨r,R.set i (ki c aN)⟩) (by simp only [List.length_set];omega) hr hp hq (hf _)
   simp only at cc csx
   simp only [bT,List.map_set] at csx
   have hen : br (ki c aN)=.agg [Z c.joint,Z c.low,Z c.high,Z 0,.sl [],Z 0,.sl [],.sl []]:=rfl
   rw [hen] at csx
   cases hsp : gP ⟨r,R.set i (ki c aN)⟩ p q (f ⟨r,R.set i (ki c aN)⟩) with
   |false=>
    rw [hsp] at csx hsu
    rw [if_neg (by simp)] at hsu
    rw [hsu]
    clear h2
    exact Gy
   |true=>
    rw [hsp] at csx hsu
    rw [if_pos ⟨h2,rfl⟩] at hsu
    rw [hsu]
    clear h2
    with_reducible iterate 20 any_goals (first|refine Sp.h ?_|((first|refine Ss.h ?_|refine Sc.h (cc) ?_|refine Sc.h (csx) ?_|(refine Sb.h ?_ ?_ ?_<;>(try intro hgd)<;>try exact Xy))<;>simp -implicitDefEqProofs (maxSteps:=2000000) [hP,hN,g1,g2,g3,hb3,g6,hb6,g8,hb9,hb57,hb11,hRl,hlt,hlt',hlR,hc,hce,h3,hw])|refine X2 ?_ ?_|(refine Xd ?_ ?_<;>intro hcd<;>try exact Xx))
    refine WP.freezeB 9 1 (k:=57) (e:=84) (sz:=8) (fz:=0) (xs:=(R.map br).set i (.agg [Z c.joint,Z c.low,Z c.high,Z 0,.sl [],Z 0,.sl [],.sl []])) (cs:=[.pv (iv r),.arr 57 cs.length]) (own:=true) (fb:=false) (by simp) (by simp [hRl]) (by simp) ?_
    exact Gy
    all_goals rfl
  ·have h3 : (c.v.kind !=2)=true:=by simp [h2]
   rw [if_neg (fun h=>h2 h.1)] at hsu
   rw [hsu]
   clear h2
   exact Gy
 have hin : i=cs.length:=by omega
 subst hin
 clear hS0 hS1 hG2 hGw hvw hG hs
 generalize jz f p q r W cs.length=S at *
 generalize hF : cs.length * 3000+cs.length+1=F at *
 generalize hRES : qq F S 0=RES at *
 have hcl:=fun (c : Cel)=>uA c
 have hcb:=fun (c : Cel)=>Mg c
 have hcr:=fun (D : List Cel) (i : Nat) (c : Cel) (h1 : D.length≤1000000) (h2 : KidsP D) (h3 : D[i]?=some c) (h4 : aI c=false)=>Mh ⟨r,D⟩ i c h1 h2 h3 h4
 have w0 : IntKind.i64.wrap (-1+1)=0:=by decide
 have w1 : IntKind.i64.wrap (-1)=-1:=by decide
 have w2 : IntKind.i64.wrap 0=0:=by decide
 refine Gz ?_
 refine WP.loopN [11] F (fun k st=>st.t 3=.ptr 3 0∧st.t 6=.ptr 6 0∧st.h 6=some (.box [.pv (.val (.slice none 0 0)),.pv (.val (.slice none 0 0))] true false)∧st.h 11=none∧Iu r RES cs.length F k st) ?_ ?_
 ·simp [g3,g6,hb6,hb11]
  exact uz S 0 (by simp) (by simp [hb3]) hgo (by omega) (by omega) (by unfold yz;omega) (by simpa using hRES)
 clear g1 g2 g3 hb3 g6 hb6 g8 hb9 hb57 hb11 hgo hzl hRES
 clear st
 rintro k st hk ⟨g3,g6,hb6,hb11,D,i,g10,hb3,hD,hl1,hl2,hm,hr3⟩
 by_cases hlt : i < D.length
 ·have hkF : k < F:=by unfold yz at hm;omega
  have hw:=ag hlt (by omega)
  have hlt' : (i : Int) < (D.length : Int):=by omega
  obtain ⟨c,hc⟩ : ∃ c,D[i]?=some c:=⟨_,List.getElem?_eq_getElem hlt⟩
  have hce : ∀ h,D[i]'h=c:=fun h=>aD hc h
  rw [show F - k=(F - (k+1))+1 by omega] at hr3
  simp only [qq,if_pos hlt] at hr3
  have hd : uy D i=(!aI c && jN D c.low && jN D c.high):=by simp [uy,hc]
  rw [hd] at hr3
  have cl:=hcl c
  have hmm : yz D (i+1)≤F - (k+1):=by unfold yz at *;omega
  cases hlf : aI c with
  |true=>
   rw [hlf] at cl hr3
   simp only [Bool.not_true,Bool.false_and,Bool.false_eq_true,if_false] at hr3
   refine Gz ?_
   all_goals exact uz D (i+1) (by simp) (by simp [hb3]) hD hl1 (by omega) hmm hr3
  |false=>
   obtain ⟨r1,r2,r3,r4,r5⟩:=hD.k.rng i c hc hlf
   have cr:=hcr D i c (by omega) hD.k hc hlf
   have hda : nu D i=jQ D i c.low c.high:=by simp [nu,hc]
   rw [hda] at hr3
   have hdk : jN D c.low=true→jN D c.high=true→GoodC (jQ D i c.low c.high)∧(jQ D i c.low c.high).length+2=D.length:=fun a b=>by
    have:=vY (i:=i) hD (by rw [hd,hlf,a,b];rfl)
    rw [hda] at this;exact this
   obtain ⟨jo,lo,hg,v0⟩:=c
   simp only at *
   obtain ⟨a,rfl⟩:=Int.eq_ofNat_of_zero_le r1
   obtain ⟨b,rfl⟩:=Int.eq_ofNat_of_zero_le r3
   have ha : a < D.length:=by omega
   have hb : b < D.length:=by omega
   obtain ⟨ca,hca⟩ : ∃ x,D[a]?=some x:=⟨_,List.getElem?_eq_getElem ha⟩
   obtain ⟨cb,hcb'⟩ : ∃ x,D[b]?=some x:=⟨_,List.getElem?_eq_getElem hb⟩
   have hae : ∀ h,D[a]'h=ca:=fun h=>aD hca h
   have hbe : ∀ h,D[b]'h=cb:=fun h=>aD hcb' h
   have b1:=hcb ca
   have b2:=hcb cb
   have e1 : jN D (a : Int)=pW ca:=by simp [jN,hca]
   have e2 : jN D (b : Int)=pW cb:=by simp [jN,hcb']
   rw [e1,e2] at hr3 hdk
   rw [hlf] at cl hr3
   cases h1 : pW ca with
   |false=>
    rw [h1] at b1 hr3
    simp only [Bool.not_false,Bool.and_false,Bool.false_and,Bool.false_eq_true,if_false] at hr3
    refine Gz ?_
    all_goals exact uz D (i+1) (by simp) (by simp [hb3]) hD hl1 (by omega) hmm hr3
   |true=>
    rw [h1] at b1 hr3 hdk
    cases h2 : pW cb with
    |false=>
     rw [h2] at b2 hr3
     simp only [Bool.not_false,Bool.and_false,Bool.true_and,Bool.false_eq_true,if_false] at hr3
     refine Gz ?_
     all_goals exact uz D (i+1) (by simp) (by simp [hb3]) hD hl1 (by omega) hmm hr3
    |true=>
     rw [h2] at b2 hr3 hdk
     simp only [Bool.not_false,Bool.and_self,if_true] at hr3
     obtain ⟨d1,d2⟩:=hdk rfl rfl
     generalize jQ D i (a : Int) (b : Int)=D2 at *
     refine Gz ?_
     all_goals exact uz D2 0 (by simp) (by simp) d1 (by omega) (by omega) (by unfold yz at *;omega) hr3
 ·rw [Ec hlt] at hr3
  subst hr3
  exact Gy
end Go.Ab
namespace Go.Ab
open Go.Proofs
theorem yp {cs : List Cel} (h : VW cs) {c : Cel} (hc : c.v.left.length≤9223372036854775807∧c.v.right.length≤9223372036854775807) (i : Nat) : VW (cs.set i c):=fun d hd=>by
 rcases List.mem_or_eq_of_mem_set hd with hd|rfl
 ·exact h d hd
 ·exact hc
theorem D4 {t : Tr} (h : VW t.cells) (i j : Int) : VW (bG t i j).cells:=by
 unfold bG
 split
 ·have hva : (gf t i.toNat).left.length≤9223372036854775807∧(gf t i.toNat).right.length≤9223372036854775807:=by
   unfold gf
   split
   ·rename_i c hc;exact h c (List.mem_of_getElem? hc)
   ·simp [aN]
  intro c hc
  simp only [fY,List.mem_append] at hc
  rcases hc with hc|hc
  ·exact yp h (c:=⟨j,t.cells.length,t.cells.length+1,aN⟩) (by simp [aN]) _ c hc
  ·simp at hc;subst hc;exact hva
 ·exact h
theorem yq {s : Sce} {t : Tr} (h : VW t.cells) (i : Int) : VW (eO s t i).cells:=by
 unfold eO
 split
 ·unfold dH
  split
  ·have hl:=xU s (eI t i) (gf t i.toNat).nor
   exact yp h (by simp only [bd,ma,kJ];omega) _
  ·exact h
 ·exact h
theorem HN {s : Sce} {t : Tr} (h : VW t.cells) (i j : Int) : VW (nK s t i j).cells:=by
 unfold nK
 split
 ·exact yq (yq (D4 h i j) _) _
 ·exact h
theorem G6 (s : Sce) (t : Tr) (i j : Int) : (nK s t i j).cells.length≤t.cells.length+2∧(nK s t i j).root=t.root:=by
 unfold nK
 split
 ·have a:=oI s (nJ s t i j) ((t.cells.length : Int)+1)
  have b:=oI s (bG t i j) (t.cells.length : Int)
  have hA : nJ s t i j=eO s (bG t i j) (t.cells.length : Int):=rfl
  rw [hA] at a ⊢
  rw [a.1,a.2,b.1,b.2]
  unfold bG
  split
  ·rw [kL];exact ⟨Nat.le_refl _,rfl⟩
  ·exact ⟨by omega,rfl⟩
 ·exact ⟨by omega,rfl⟩
theorem CB {s : Sce} {p q : List Int} {w cells : Int} (hc : cells≤2048) : ∀ (f : Nat) (t : Tr),VW t.cells→t.cells.length≤2048→VW (mm s p q w cells f t).1.cells∧(mm s p q w cells f t).1.cells.length≤2048∧(mm s p q w cells f t).1.root=t.root
 |0,t,h,hl=>⟨h,hl,rfl⟩
 |f+1,t,h,hl=>by
  simp only [mm]
  split
  ·split
   ·exact ⟨h,hl,rfl⟩
   ·rename_i h2
    have r:=G6 s t (fv s.js s.ms t p q w).1 (fv s.js s.ms t p q w).2.1
    have ih:=CB (s:=s) (p:=p) (q:=q) (w:=w) hc f (nK s t (fv s.js s.ms t p q w).1 (fv s.js s.ms t p q w).2.1) (HN h (fv s.js s.ms t p q w).1 (fv s.js s.ms t p q w).2.1) (by omega)
    exact ⟨ih.1,ih.2.1,ih.2.2.trans r.2⟩
  ·exact ⟨h,hl,rfl⟩
theorem G7 {s : Sce} {p q : List Int} {w cells : Int} (hj : s.js.length≤1000) : TW (xJ s p q w cells).1∧(xJ s p q w cells).1.cells.length≤2048:=by
 unfold xJ
 split
 ·rename_i h
  have hc : cells≤2048:=by simp only [ww,Bool.and_eq_true,decide_eq_true_eq] at h;exact h.2
  have hz : VW (fZ (aF s.js s.ms)).cells∧(fZ (aF s.js s.ms)).cells.length≤1∧(fZ (aF s.js s.ms)).root.length≤1000:=by
   unfold fZ
   split
   ·refine ⟨fun c hc=>?_,by simp,?_⟩
    ·simp at hc;subst hc;simp [bd,aN]
    ·simp only [aF];split<;>simp;omega
   ·exact ⟨fun c hc=>by simp at hc,by simp,by simp⟩
  have h0 : VW (qX s).cells:=yq hz.1 0
  have hl:=oI s (fZ (aF s.js s.ms)) 0
  have hd : qX s=eO s (fZ (aF s.js s.ms)) 0:=rfl
  rw [← hd] at hl
  obtain ⟨r1,r2,r3⟩:=CB (s:=s) (p:=p) (q:=q) (w:=w) hc 2048 (qX s) h0 (by omega)
  exact ⟨⟨by omega,by rw [r3,hl.2];omega,r1⟩,r2⟩
 ·exact ⟨⟨by simp,by simp,fun c hc=>by simp at hc⟩,by simp⟩
theorem Ai (s : Sce) (t : Tr) (p q : List Int) (hs : ScL s) (hT : TW t) (hp : p.length≤9223372036854775807) (hq : q.length≤9223372036854775807) : ab Tryz.prog 10 [.pv (dV s),.pv (bT t),.pv (zs p),.pv (zs q)] [] [] (.pv (B true)):=by
 obtain ⟨U,hU⟩:=xx t p
 have c1:=Lq s t p q U hs hT hU
 have c2:=Lr s t p q U hs hT hU hp hq
 generalize BK s t p q U=n at *
 generalize qP s t p q U=o at *
 refine Dp Tryz.func10 ?_
 intro C hP hN
 simp only [Tryz.f10] at hN ⊢
 exact Gy
def vh (s : Sce) : Bool:=decide ((s.js.length : Int)≤4) && decide ((s.ms.length : Int)≤6) && decide ((s.shs.length : Int)≤6) && decide ((s.sks.length : Int)≤8)
theorem d5 (s : Sce) : ab Tryz.prog 5 [.pv (dV s)] [] [] (.pv (B (vh s))):=by
 unfold vh
 obtain ⟨js,ms,SH,sks⟩:=s
 simp only
 generalize ha : decide ((js.length : Int)≤4)=a
 generalize hb : decide ((ms.length : Int)≤6)=b
 generalize hc : decide ((SH.length : Int)≤6)=c
 generalize hd : decide ((sks.length : Int)≤8)=d
 cases a<;>cases b<;>cases c
 all_goals
  refine Dp Tryz.func5 ?_
  intro C hP hN
  simp only [Tryz.f5] at hN ⊢
  exact Gy
theorem Fo (t : Tr) (x : Int) (hT : TW t) (hl : t.cells.length≤2048) : ∃ u,ab Tryz.prog 11 [.pv (bT t),.pv (Z x)] [] [] (.pv (bT u))∧TW u:=by
 by_cases hn : t.cells=[]
 ·obtain ⟨r,cs⟩:=t
  simp only at hn
  subst hn
  refine ⟨⟨r,[]⟩,?_,hT⟩
  refine Dp Tryz.func11 ?_
  intro C hP hN
  simp only [Tryz.f11] at hN ⊢
  exact Gy
 have hpos : 0 < t.cells.length:=by
  cases h : t.cells with
  |nil=>exact absurd h hn
  |cons a b=>simp
 obtain ⟨k,hk,hkl⟩:=G5 (i:=x) hpos (by omega)
 have cr:=H3 x (t.cells.length : Int) (by omega)
 rw [hk] at cr
 obtain ⟨c,hc⟩ : ∃ c,t.cells[k]?=some c:=⟨_,List.getElem?_eq_getElem hkl⟩
 have hce : ∀ h,t.cells[k]'h=c:=fun h=>aD hc h
 have h1 : t.cells.length * 112≤140737488355328:=by omega
 have h2 : t.cells.length≤9223372036854775807:=by omega
 by_cases h3 : c.v.kind=2
 ·have h3' : (c.v.kind==2)=true:=by simp [h3]
  have cl:=IA 1
  refine ⟨⟨t.root,t.cells.set k (ki c (gF 1))⟩,?_,⟨by simp only [List.length_set];exact hT.c,hT.r,yp hT.w (by simp [ki,gF]) k⟩⟩
  rw [show gF 1=⟨2,[],0,[1],[1]⟩ from rfl] at cl
  simp only [bT,List.map_set]
  rw [show br (ki c (gF 1))=.agg [Z c.joint,Z c.low,Z c.high,Z 2,.sl [],Z 0,.sl [Z 1],.sl [Z 1]] from rfl]
  simp only [n5,bb,zs,List.map_nil,List.map_cons] at cl
  clear h3
  refine Dp Tryz.func11 ?_
  intro C hP hN
  simp only [Tryz.f11] at hN ⊢
  exact Gy
 ·have h3' : (c.v.kind==2)=false:=by simp [h3]
  refine ⟨t,?_,hT⟩
  refine Dp Tryz.func11 ?_
  intro C hP hN
  simp only [Tryz.f11] at hN ⊢
  exact Gy
theorem Aj (l : List Int) : ∀ j ∈ (gh l).js,zF j:=by
 intro j hj
 simp only [gh,qN,List.mem_map] at hj
 obtain ⟨i,_,rfl⟩:=hj
 unfold zF
 simp only [BG]
 omega
theorem d3 (raw : Sce) (u : Tr) (p q l m o other : List Int) (x : Int) (hraw : ScL raw) (hv : VW u.cells) : ab Tryz.prog 3 [.pv (dV raw),.pv (bT u),.pv (zs p),.pv (zs q),.pv (zs l),.pv (zs m),.pv (zs o),.pv (zs other),.pv (Z x)] [] [] (.pv (B true)):=by
 have ca:=d6
 have gt:=Jh u
 have csc:=d5 raw
 generalize vh raw=sb at *
 by_cases h1 : u.root.length≤12∧u.cells.length≤60
 case neg=>
  have e : (decide (u.root.length≤12) && decide (u.cells.length≤60))=false:=by
   rw [Bool.eq_false_iff];simpa using h1
  rw [e] at gt
  refine Dp Tryz.func3 ?_
  intro C hP hN
  simp only [Tryz.f3] at hN ⊢
  exact Gy
 obtain ⟨h1,h2⟩:=h1
 rw [decide_eq_true h1,decide_eq_true h2] at gt
 simp only [Bool.and_self] at gt
 cases sb with
 |false=>
  refine Dp Tryz.func3 ?_
  intro C hP hN
  simp only [Tryz.f3] at hN ⊢
  exact Gy
 |true=>
 by_cases h3 : (20 : Int) < p.length
 ·skip
  refine Dp Tryz.func3 ?_
  intro C hP hN
  simp only [Tryz.f3] at hN ⊢
  exact Gy
 by_cases h4 : (20 : Int) < q.length
 ·skip
  refine Dp Tryz.func3 ?_
  intro C hP hN
  simp only [Tryz.f3] at hN ⊢
  exact Gy
 have hL:=BJ l
 have hL2:=BJ other
 have hjl : (gh l).js.length≤10:=by have:=uO l;simp only [gh,rI];omega
 have ct:=d7 l
 have ct2:=d7 other
 have cm:=d8 m (gh l).js (gh l).ms (by omega) (Aj l)
 have co:=d8 o (gh l).js (gh l).ms (by omega) (Aj l)
 have hml : (jU m (gh l).js).length=(gh l).js.length:=by simp [jU]
 have hol : (jU o (gh l).js).length=(gh l).js.length:=by simp [jU]
 generalize gh other=s2 at *
 generalize gh l=s at *
 generalize jU m s.js=a at *
 generalize jU o s.js=b at *
 have cd:=d9 s a b 2 60 hL (by omega) (by omega)
 obtain ⟨hT,hTl⟩:=G7 (s:=s) (p:=a) (q:=b) (w:=2) (cells:=60) (by omega)
 generalize xJ s a b 2 60=D at *
 obtain ⟨t,st⟩:=D
 simp only at hT hTl cd
 have hu : TW u:=⟨by omega,by omega,hv⟩
 have k1:=Ai raw u p q hraw hu (by omega) (by omega)
 have k2:=Ai s t a b hL hT (by omega) (by omega)
 obtain ⟨u2,cl,hu2⟩:=Fo t x hT hTl
 have k3:=Ai s u2 a b hL hu2 (by omega) (by omega)
 have k4:=Ai s u a b hL hu (by omega) (by omega)
 have k5:=Ai s2 t a b hL2 hT (by omega) (by omega)
 obtain ⟨cs3,cw,hv3,hl3⟩:=HR t a b (by omega) (by have:=hT.r;omega) (by omega) (by omega) hT.w
 have k6:=Ai s ⟨t.root,cs3⟩ a b hL ⟨by simp only;omega,hT.r,hv3⟩ (by omega) (by omega)
 refine Dp Tryz.func3 ?_
 intro C hP hN
 simp only [Tryz.f3] at hN ⊢
 exact Gy
end Go.Ab
