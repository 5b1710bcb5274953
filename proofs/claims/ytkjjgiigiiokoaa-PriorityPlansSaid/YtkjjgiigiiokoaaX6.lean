/- The contracts and facts that the laws of this seat need, in one text (AbY, Py1, Py2, Py3, Py4, Py5, Py6, M1, RdP, Mk1, M2, M3, M4, M5, M6, M7, M8, M9, M10, M11, M12, M13, M14). -/
import Derived.Test.YtkjjgiigiiokoaaX5
import Derived.Sort.OwnSortedInts
import Derived.Shelf.Sort.Plain
set_option linter.all false
set_option maxHeartbeats 16000000
namespace Go.Ab
open Go.Sort
def qu (P : Program) (g : FuncId) : Prop:=bT P g=true∧∀ (blk cap : Nat) (zs : List Int) (w : World),Holds (Value.int .i64) w blk 0 zs.toArray→blk < w.heap.size→zs.length < 4611686018427387904→
 Calls P g #[.slice (some ⟨blk,0,none⟩) zs.length cap] w fun e w'=>e=.returned (.tuple #[])∧∃ n os,w'=Sort.grow (putRow (Value.int .i64) (Sort.ahead w n) blk 0 (zs.mergeSort fun x y=>decide (x≤y)).toArray) os
abbrev bZ (zs : List Int) : List PV:=zs.map fun z=>.val (.int .i64 z)
section
variable {C : Cx} {L : Nat→Loc} {h : Hp} {w : World}
theorem oV (hm : MemL C L h w) {k e : Nat} {zs : List Int} (hk : h k=some (.row e 1 (bZ zs) 0)) (hz : zs≠[]) : (L k).isNil=false∧∃ arr,w.heap[(L k).b]?=some (.cells arr e (0,0))∧arr.size=(L k).cap∧zs.length≤(L k).cap∧(L k).cap≤maxLen∧arr.toList.take zs.length=zs.map (Value.int .i64):=by
 rcases ga hm hk with ⟨_,h9⟩|⟨h1,h2,h2',arr,h3,h4,h5⟩
 ·exact absurd (List.map_eq_nil_iff.1 h9) hz
 ·rw [List.length_map] at h2
  rw [Nat.mul_one] at h4
  refine ⟨h1,arr,h3,h4,h2,h2',?_⟩
  apply List.ext_getElem?
  intro i
  by_cases hi : i < zs.length
  ·rw [List.getElem?_take_of_lt hi,Array.getElem?_toList]
   obtain ⟨u,hu,hr⟩:=h5 i (.val (.int .i64 zs[i])) 0 (.val (.int .i64 zs[i])) (by simp [hi]) (by simp [PV.cells,Value.cells])
   rw [Nat.mul_one,Nat.add_zero] at hu
   rw [hu,ao hr];simp [hi]
  ·rw [List.getElem?_eq_none (by rw [List.length_take];omega),List.getElem?_eq_none (by simp;omega)]
theorem MemL.sorted (hm : MemL C L h w) {k e n : Nat} {os : Array Obj} {zs zs' : List Int} (hk : h k=some (.row e 1 (bZ zs) 0)) (hz : zs≠[]) (hl : zs'.length=zs.length) :
 aq C L h w L (aj h k (some (.row e 1 (bZ zs') 0))) (Sort.grow (putRow (Value.int .i64) (Sort.ahead w n) (L k).b 0 zs'.toArray) os):=by
 obtain ⟨hn,arr,h3,h4,h5,h5',h6⟩:=oV hm hk hz
 obtain ⟨g1,g2,g3,g4,g5⟩:=grownBy_sortedI (w:=w) (g:=(L k).b) (n:=n) (os:=os) zs'.toArray
 have hb:=heap_sortedI (n:=n) (os:=os) zs'.toArray h3
 refine hm.touch hk (fun b hlt hne=>g5 b hlt (fun e=>hne hn (Option.some.inj e))) g4 g1 g2 g3 (fun o v _ hf _=>by simp [Blk.frz] at hf) (fun o hf=>by simp [Blk.frz] at hf)
  ⟨rfl,rfl,by simp [hl],fun _=>rfl⟩ Iff.rfl (by have h9:=hm.own k _ hk;exact h9) ⟨Nat.one_pos,Nat.zero_le _,?_,?_,fun _=>⟨by simp only [List.length_map];omega,h5',_,hb,?_,?_⟩⟩
 ·intro x hx;obtain ⟨z,_,rfl⟩:=List.mem_map.1 hx;rfl
 ·intro h9;rw [hn] at h9;cases h9
 ·simp [putCells,h4]
 ·intro i x j p hx hj
  simp only [bZ,List.getElem?_map,Option.map_eq_some_iff] at hx
  obtain ⟨z,hz',rfl⟩:=hx
  have hi:=(List.getElem?_eq_some_iff.1 hz').1
  have hj0 : j=0∧p=.val (.int .i64 z):=by
   cases j with
   |zero=>simp [PV.cells,Value.cells] at hj;exact ⟨rfl,hj.symm⟩
   |succ j=>simp [PV.cells,Value.cells] at hj
  obtain ⟨rfl,rfl⟩:=hj0
  refine ⟨.int .i64 z,?_,.val _⟩
  have hs : i < arr.size:=by omega
  have hzi : zs'[i]=z:=(List.getElem?_eq_some_iff.1 hz').2
  simp [putCells,hs,hi,hzi]
end
section
variable {C : Cx} {Q : Exit→St→Prop} {st : St}
def rV (C : Cx) (Q : St→Prop) (f x : Operand) (d : Option Nat) (st : St) : Prop:=
 ∃ g k e zs,aX (st.ev f)=some (g,[],[])∧qu C.P g∧st.ev x=.arr k zs.length∧st.h k=some (.row e 1 (bZ zs) 0)∧zs≠[]∧zs.length < 4611686018427387904∧ew C.N d=true∧
  Q (st.put d (.pv (.val (.tuple #[]))) [(k,.row e 1 (bZ (zs.mergeSort fun x y=>decide (x≤y))) 0)])
theorem WP.sort {hn : List Nat} {id : Nat} {ops : Array Oper} {pre post : List Oper} {o : Oper} {f x : Operand} {ats : Array TypeId} (hops : ops.toList=pre++o :: post) (hop : o.op=.call { callee:=.value f,args:=#[x],argTypes:=ats }) (hg : o.guard=none)
 (hq : cC C.P hn C.N ops (rV C (cC C.P hn C.N ops (Q .normal) post) f x o.dst) pre st) : WP C (.region id ops false) Q st:=by
 intro a w hs
 refine wp_region_list ?_
 rw [hops]
 refine fU (fun st1 a1 w1 hs1 hq1=>?_) hs hq
 obtain ⟨g,k,e,zs,hce,⟨hcall,hD⟩,hx,hk,hz,hsz,hdN,hQ⟩:=hq1
 obtain ⟨L,hm,hN,hdf,ht⟩:=hs1
 refine wpList_step (fun K hK=>?_)
 rw [ow hg,if_pos rfl]
 obtain ⟨vs,us,hfv,hv1,hv2⟩:=hG (dM ht f) hce
 have hvs:=hv1.nil_inv
 have hus:=hv2.nil_inv
 subst hvs;subst hus
 obtain ⟨hnil,arr,h3,h4,h5,h5',h6⟩:=oV hm hk hz
 have hxv : a1.eval x=.slice (some ⟨(L k).b,0,none⟩) zs.length (L k).cap:=by
  have hr:=dM ht x
  rw [hx] at hr
  cases hr with
  |arr hk2 hn2 hu=>
   rw [hk] at hk2;injection hk2 with hk2;injection hk2 with _ _ a3 _
   subst a3
   rw [hu (by simp)]
   unfold Loc.slice
   rw [if_neg (by rw [hnil];decide)]
 have hcalls:=hD (L k).b (L k).cap zs w1 (holds_of_blockI h3 h6) (jA h3) hsz
 have hrun : (execOp a1.eval o).run C.P w1=.ok (.enter g #[a1.eval x]) w1:=by
  unfold bT at hcall
  cases hfn : C.P.funcs[g]? with
  |none=>rw [hfn] at hcall;cases hcall
  |some fn=>
   rw [hfn] at hcall
   simp only [Bool.and_eq_true,Bool.not_eq_true',beq_eq_false_iff_ne,ne_eq] at hcall
   have hb : fn.body.isNone=false:=by cases hbb : fn.body<;>simp_all
   unfold execOp
   rw [hop]
   simp only [resolve,hfv,Deferred.ofValue,pure_bind,Sem.run_bind,Result.andThen_ok,invoke,callFunc,program,Sem.run,hfn]
   simp [hcall.2,hb]
 unfold Oper.wp
 rw [hrun,hxv]
 simp only [Oper.upon]
 refine hcalls.mono ?_
 rintro ee w' ⟨rfl,n,os,rfl⟩
 have hA:=hm.sorted (n:=n) (os:=os) (zs':=zs.mergeSort fun x y=>decide (x≤y)) hk hz (by simp)
 refine hK _ _ ?_
 exact fD (fun st' a' w' hs' hq'=>⟨st',hs',hq'⟩) (cx.put hm hN hdf ht hdN hA (.pv (.val _))) hQ
end
end Go.Ab
namespace Go.Ab
section
variable (n : Nat) (lg : Nat→Nat→Bool) (ps : Nat→Nat→Nat→Bool)
def cb : Nat→Nat→Nat→Nat→Prop
 |_,0,v,w=>v=w
 |i,k+1,v,w=>∃ u,u < n∧lg v u=true∧ps i v u=true∧cb (i+1) k u w
theorem cb.snoc {n : Nat} {lg : Nat→Nat→Bool} {ps : Nat→Nat→Nat→Bool} : ∀ {k i v w : Nat},w < n→(cb n lg ps i (k+1) v w↔∃ u,(u=v∨u < n)∧cb n lg ps i k v u∧lg u w=true∧ps (i+k) u w=true)
 |0,i,v,w,hw=>by
  simp only [cb]
  constructor
  ·rintro ⟨u,h1,h2,h3,rfl⟩;exact ⟨v,.inl rfl,rfl,h2,h3⟩
  ·rintro ⟨u,_,rfl,h2,h3⟩;exact ⟨w,hw,h2,h3,rfl⟩
 |k+1,i,v,w,hw=>by
  rw [cb]
  constructor
  ·rintro ⟨u,h1,h2,h3,h4⟩
   obtain ⟨x,h5,h6,h7,h8⟩:=(cb.snoc hw).1 h4
   refine ⟨x,.inr ?_,⟨u,h1,h2,h3,h6⟩,h7,by rwa [show i+(k+1)=i+1+k from by omega]⟩
   rcases h5 with rfl|h5
   ·exact h1
   ·exact h5
  ·rintro ⟨x,h5,⟨u,h1,h2,h3,h6⟩,h7,h8⟩
   refine ⟨u,h1,h2,h3,(cb.snoc hw).2 ⟨x,?_,h6,h7,by rwa [show i+1+k=i+(k+1) from by omega]⟩⟩
   by_cases e : x=u
   ·exact .inl e
   ·
    right
    cases k with
    |zero=>exact absurd h6.symm e
    |succ k=>
     rcases h5 with rfl|h5
     ·
      have : ∀ {k i a b : Nat},cb n lg ps i (k+1) a b→b < n:=by
       intro k
       induction k with
       |zero=>rintro i a b ⟨u,h1,_,_,rfl⟩;exact h1
       |succ k ih=>rintro i a b ⟨u,_,_,_,h⟩;exact ih h
      exact this h6
     ·exact h5
theorem cb.lt {n : Nat} {lg : Nat→Nat→Bool} {ps : Nat→Nat→Nat→Bool} : ∀ {k i a b : Nat},cb n lg ps i (k+1) a b→b < n
 |0,_,_,_,⟨_,h1,_,_,e⟩=>by cases e;exact h1
 |_+1,_,_,_,⟨_,_,_,_,h⟩=>h.lt
theorem cb.lt' {n : Nat} {lg : Nat→Nat→Bool} {ps : Nat→Nat→Nat→Bool} {k i a b : Nat} (h : cb n lg ps i k a b) (ha : a < n) : b < n:=by
 cases k with
 |zero=>cases h;exact ha
 |succ k=>exact h.lt
def i0 (start : Nat) : Nat→Nat→Bool
 |0,v=>v==start
 |i+1,v=>(List.range n).any fun u=>i0 start i u && lg u v && ps i u v
def eo (goal a : Nat) : Nat→Nat→Bool
 |0,v=>v==goal
 |k+1,v=>(List.range n).any fun u=>lg v u && (eo goal a k u && ps (a - (k+1)) v u)
def aK (goal : Nat) : Nat→Nat
 |0=>0
 |s+1=>if ps s goal goal=true then aK goal s else s+1
variable {n lg ps}
theorem ot {start : Nat} (hs : start < n) : ∀ {i v : Nat},v < n→(i0 n lg ps start i v=true↔cb n lg ps 0 i start v)
 |0,v,hv=>by simp only [i0,cb,beq_iff_eq];exact eq_comm
 |i+1,v,hv=>by
  rw [cb.snoc hv,i0]
  simp only [List.any_eq_true,List.mem_range,Bool.and_eq_true]
  constructor
  ·rintro ⟨u,h1,⟨h2,h3⟩,h4⟩
   exact ⟨u,.inr h1,(ot hs h1).1 h2,h3,by simpa using h4⟩
  ·rintro ⟨u,h1,h2,h3,h4⟩
   have hu:=h2.lt' hs
   exact ⟨u,hu,⟨(ot hs hu).2 h2,h3⟩,by simpa using h4⟩
theorem ju {goal a : Nat} : ∀ {k v : Nat},k≤a→(eo n lg ps goal a k v=true↔cb n lg ps (a - k) k v goal)
 |0,v,_=>by simp [eo,cb]
 |k+1,v,hk=>by
  rw [cb,eo]
  simp only [List.any_eq_true,List.mem_range,Bool.and_eq_true]
  have e : a - (k+1)+1=a - k:=by omega
  constructor
  ·rintro ⟨u,h1,h2,h3,h4⟩
   exact ⟨u,h1,h2,h4,by rw [e];exact (ju (by omega)).1 h3⟩
  ·rintro ⟨u,h1,h2,h3,h4⟩
   rw [e] at h4
   exact ⟨u,h1,h2,(ju (by omega)).2 h4,h3⟩
theorem ep {goal : Nat} : ∀ {s a : Nat},a≤s→(aK ps goal s≤a↔∀ j,a≤j→j < s→ps j goal goal=true)
 |0,a,h=>by simp [aK]
 |s+1,a,h=>by
  rw [aK]
  split
  ·rename_i hp
   by_cases e : a≤s
   ·rw [ep e]
    constructor
    ·intro h1 j h2 h3
     by_cases e' : j=s
     ·subst e';exact hp
     ·exact h1 j h2 (by omega)
    ·intro h1 j h2 h3;exact h1 j h2 (by omega)
   ·have : aK ps goal s≤s:=by
     clear hp e h
     induction s with
     |zero=>exact Nat.le_refl _
     |succ s ih=>rw [aK];split<;>omega
    constructor
    ·intro _ j h2 h3;omega
    ·intro _;omega
  ·rename_i hp
   constructor
   ·intro h1 j h2 h3;omega
   ·intro h1
    rcases Nat.lt_or_ge s a with h2|h2
    ·omega
    ·exact absurd (h1 s h2 (by omega)) hp
theorem iL (ps : Nat→Nat→Nat→Bool) (goal : Nat) : ∀ s,aK ps goal s≤s
 |0=>Nat.le_refl _
 |s+1=>by rw [aK];have:=iL ps goal s;split<;>omega
theorem yN {goal : Nat} (hg : goal < n) (hl : lg goal goal=true) : ∀ {k i : Nat},(∀ j,i≤j→j < i+k→ps j goal goal=true)→cb n lg ps i k goal goal
 |0,_,_=>rfl
 |k+1,i,h=>⟨goal,hg,hl,h i (Nat.le_refl _) (by omega),yN hg hl fun j h1 h2=>h j (by omega) (by omega)⟩
theorem cb.trans : ∀ {k l i a b c : Nat},cb n lg ps i k a b→cb n lg ps (i+k) l b c→cb n lg ps i (k+l) a c
 |0,l,i,a,b,c,h1,h2=>by cases h1;simpa using h2
 |k+1,l,i,a,b,c,⟨u,h3,h4,h5,h6⟩,h2=>by
  rw [show k+1+l=k+l+1 from by omega]
  exact ⟨u,h3,h4,h5,h6.trans (by rwa [show i+1+k=i+(k+1) from by omega])⟩
variable (n lg ps)
def gc : Option Nat→Option Nat→Option Nat
 |none,b=>b
 |a,none=>a
 |some a,some b=>some (if b < a then b else a)
def aw (goal ticks : Nat) : Nat→Nat→Option Nat
 |0,v=>if v=goal then some ticks else none
 |k+1,v=>(List.range n).foldl (fun acc u=>gc acc (match aw goal ticks k u with
   |some a=>if (lg v u && ps (ticks - (k+1)) v u)=true then some (if v=goal∧u=goal∧a=ticks - (k+1)+1 then ticks - (k+1) else a) else none
   |none=>none)) none
variable {n lg ps}
theorem sV {a b : Option Nat} {m : Nat} : gc a b=some m↔(a=some m∧(∀ y,b=some y→m≤y))∨(b=some m∧∀ x,a=some x→m≤x):=by
 cases a<;>cases b<;>simp [gc]
 rename_i x y
 split<;>omega
theorem mZ {a b : Option Nat} : gc a b=none↔a=none∧b=none:=by
 cases a<;>cases b<;>simp [gc]
theorem pe (f : Nat→Option Nat) : ∀ (l : List Nat) (a : Option Nat),(l.foldl (fun acc u=>gc acc (f u)) a=none↔a=none∧∀ u ∈ l,f u=none)∧
 ∀ m,(l.foldl (fun acc u=>gc acc (f u)) a=some m↔(a=some m∨∃ u ∈ l,f u=some m)∧(∀ x,a=some x→m≤x)∧∀ u ∈ l,∀ x,f u=some x→m≤x)
 |[],a=>by
  refine ⟨by simp,fun m=>?_⟩
  simp only [List.foldl_nil,List.not_mem_nil,false_and,exists_false,or_false]
  constructor
  ·rintro rfl;exact ⟨rfl,by simp,by simp⟩
  ·exact fun h=>h.1
 |v :: l,a=>by
  obtain ⟨h1,h2⟩:=pe f l (gc a (f v))
  refine ⟨?_,fun m=>?_⟩
  ·rw [List.foldl_cons,h1,mZ];simp [and_assoc]
  ·rw [List.foldl_cons,h2 m]
   have key : ∀ m,gc a (f v)=some m→(a=some m∨f v=some m)∧(∀ x,a=some x→m≤x)∧∀ x,f v=some x→m≤x:=by
    intro m h
    rcases sV.1 h with ⟨e,e'⟩|⟨e,e'⟩
    ·exact ⟨.inl e,fun x hx=>by rw [e] at hx;injection hx;omega,e'⟩
    ·exact ⟨.inr e,e',fun x hx=>by rw [e] at hx;injection hx;omega⟩
   have ex : ∀ x,(a=some x∨f v=some x)→∃ y,gc a (f v)=some y∧y≤x:=by
    intro x h
    cases hm : gc a (f v) with
    |none=>obtain ⟨e1,e2⟩:=mZ.1 hm;rw [e1,e2] at h;simp at h
    |some y=>exact ⟨y,rfl,by
     rcases h with h|h
     ·exact (key y hm).2.1 x h
     ·exact (key y hm).2.2 x h⟩
   constructor
   ·rintro ⟨h3,h4,h5⟩
    refine ⟨?_,fun x hx=>?_,fun u hu x hx=>?_⟩
    ·rcases h3 with h3|⟨u,hu,h3⟩
     ·rcases (key m h3).1 with h|h
      ·exact .inl h
      ·exact .inr ⟨v,by simp,h⟩
     ·exact .inr ⟨u,by simp [hu],h3⟩
    ·obtain ⟨y,hy,hle⟩:=ex x (.inl hx);have:=h4 y hy;omega
    ·rcases List.mem_cons.1 hu with rfl|hu
     ·obtain ⟨y,hy,hle⟩:=ex x (.inr hx);have:=h4 y hy;omega
     ·exact h5 u hu x hx
   ·rintro ⟨h3,h4,h5⟩
    have lo : ∀ x,gc a (f v)=some x→m≤x:=by
     intro x hx
     rcases (key x hx).1 with h|h
     ·exact h4 x h
     ·exact h5 v (by simp) x h
    refine ⟨?_,lo,fun u hu=>h5 u (by simp [hu])⟩
    have self : (a=some m∨f v=some m)→gc a (f v)=some m:=by
     intro h
     obtain ⟨y,hy,hle⟩:=ex m h
     have:=lo y hy
     rw [hy];congr 1;omega
    rcases h3 with h|⟨u,hu,h⟩
    ·exact .inl (self (.inl h))
    ·rcases List.mem_cons.1 hu with rfl|hu
     ·exact .inl (self (.inr h))
     ·exact .inr ⟨u,hu,h⟩
def mX (n : Nat) (lg : Nat→Nat→Bool) (ps : Nat→Nat→Nat→Bool) (goal ticks i v a : Nat) : Prop:=i≤a∧a≤ticks∧aK ps goal ticks≤a∧cb n lg ps i (a - i) v goal
theorem c9 {goal ticks : Nat} (hg : goal < n) (hl : lg goal goal=true) : ∀ {k v : Nat},k≤ticks→v < n→
 (aw n lg ps goal ticks k v=none↔∀ a,¬ mX n lg ps goal ticks (ticks - k) v a)∧∀ m,(aw n lg ps goal ticks k v=some m↔mX n lg ps goal ticks (ticks - k) v m∧∀ a,mX n lg ps goal ticks (ticks - k) v a→m≤a)
 |0,v,_,hv=>by
  have hset:=iL ps goal ticks
  have key : ∀ a,mX n lg ps goal ticks (ticks - 0) v a↔a=ticks∧v=goal:=by
   intro a
   unfold mX
   constructor
   ·rintro ⟨h1,h2,_,h4⟩
    have : a=ticks:=by omega
    subst this
    simp only [Nat.sub_zero,Nat.sub_self,cb] at h4
    exact ⟨rfl,h4⟩
   ·rintro ⟨rfl,rfl⟩
    exact ⟨by omega,Nat.le_refl _,hset,by simp [cb]⟩
  simp only [aw,key]
  by_cases e : v=goal
  ·simp [e];omega
  ·simp [e]
 |k+1,v,hk,hv=>by
  have hi : ticks - (k+1)+1=ticks - k:=by omega
  let i:=ticks - (k+1)
  let f : Nat→Option Nat:=fun u=>match aw n lg ps goal ticks k u with
   |some a=>if (lg v u && ps i v u)=true then some (if v=goal∧u=goal∧a=i+1 then i else a) else none
   |none=>none
  have hf:=pe f (List.range n) none
  have e : aw n lg ps goal ticks (k+1) v=(List.range n).foldl (fun acc u=>gc acc (f u)) none:=rfl
  rw [e]
  have fsome : ∀ u x,u < n→f u=some x→mX n lg ps goal ticks i v x:=by
   intro u x hu hx
   simp only [f] at hx
   split at hx
   ·rename_i a ha
    split at hx
    ·rename_i hc
     simp only [Bool.and_eq_true] at hc
     obtain ⟨⟨h1,h2,h3,h4⟩,_⟩:=((c9 hg hl (by omega) hu).2 a).1 ha
     injection hx with hx
     split at hx
     ·rename_i hc2
      obtain ⟨rfl,rfl,h5⟩:=hc2
      subst hx
      refine ⟨Nat.le_refl _,by omega,?_,by simp [cb]⟩
      rw [ep (by omega)]
      intro j h6 h7
      by_cases e : j=i
      ·subst e;exact hc.2
      ·exact (ep h2).1 h3 j (by omega) h7
     ·subst hx
      refine ⟨by omega,h2,h3,?_⟩
      rw [show a - i=(a - (ticks - k))+1 from by omega]
      exact ⟨u,hu,hc.1,hc.2,by rw [show i+1=ticks - k from hi];exact h4⟩
    ·cases hx
   ·cases hx
  have fmet : ∀ a,mX n lg ps goal ticks i v a→∃ u x,u < n∧f u=some x∧x≤a:=by
   rintro a ⟨h1,h2,h3,h4⟩
   by_cases ea : a=i
   ·subst ea
    rw [Nat.sub_self] at h4
    have hvg : v=goal:=h4
    subst hvg
    have hst:=(ep h2).1 h3
    have h5 : mX n lg ps v ticks (ticks - k) v (ticks - k):=⟨Nat.le_refl _,by omega,by rw [ep (by omega)];exact fun j h6 h7=>hst j (by omega) h7,by simp [cb]⟩
    cases ha : aw n lg ps v ticks k v with
    |none=>exact absurd h5 ((c9 hg hl (by omega) hv).1.1 ha _)
    |some m=>
     obtain ⟨⟨h6,_,_,_⟩,h7⟩:=((c9 hg hl (by omega) hv).2 m).1 ha
     have:=h7 _ h5
     have hm : m=i+1:=by omega
     refine ⟨v,i,hv,?_,Nat.le_refl _⟩
     simp only [f,ha,hl,hst i (Nat.le_refl _) (by omega),Bool.and_self,if_true,hm,and_self]
   ·rw [show a - i=(a - (ticks - k))+1 from by omega] at h4
    obtain ⟨u,hu,h5,h6,h7⟩:=h4
    rw [show i+1=ticks - k from hi] at h7
    have h8 : mX n lg ps goal ticks (ticks - k) u a:=⟨by omega,h2,h3,h7⟩
    cases ha : aw n lg ps goal ticks k u with
    |none=>exact absurd h8 ((c9 hg hl (by omega) hu).1.1 ha _)
    |some m=>
     obtain ⟨⟨h6',_,_,_⟩,h9⟩:=((c9 hg hl (by omega) hu).2 m).1 ha
     have:=h9 _ h8
     refine ⟨u,if v=goal∧u=goal∧m=i+1 then i else m,hu,by simp only [f,ha];rw [if_pos (by rw [h5];exact h6)],?_⟩
     split<;>omega
  refine ⟨?_,fun m=>?_⟩
  ·rw [hf.1]
   constructor
   ·rintro ⟨_,h⟩ a ha
    obtain ⟨u,x,hu,hx,_⟩:=fmet a ha
    rw [h u (List.mem_range.2 hu)] at hx;cases hx
   ·intro h
    refine ⟨rfl,fun u hu=>?_⟩
    cases hx : f u with
    |none=>rfl
    |some x=>exact absurd (fsome u x (List.mem_range.1 hu) hx) (h x)
  ·rw [hf.2 m]
   constructor
   ·rintro ⟨h1,_,h3⟩
    rcases h1 with h1|⟨u,hu,h1⟩
    ·cases h1
    ·refine ⟨fsome u m (List.mem_range.1 hu) h1,fun a ha=>?_⟩
     obtain ⟨u',x,hu',hx,hle⟩:=fmet a ha
     have:=h3 u' (List.mem_range.2 hu') x hx
     omega
   ·rintro ⟨h1,h2⟩
    obtain ⟨u,x,hu,hx,hle⟩:=fmet m h1
    have:=h2 x (fsome u x hu hx)
    have e : x=m:=by omega
    subst e
    exact ⟨.inr ⟨u,List.mem_range.2 hu,hx⟩,by simp,fun u' hu' y hy=>h2 y (fsome u' y (List.mem_range.1 hu') hy)⟩
def dS (p : Nat→Bool) : Nat→Nat→Option Nat
 |_,0=>none
 |s,k+1=>if p s=true then some s else dS p (s+1) k
theorem kn (p : Nat→Bool) : ∀ (k s : Nat),(dS p s k=none↔∀ j,s≤j→j < s+k→p j=false)∧∀ m,(dS p s k=some m↔s≤m∧m < s+k∧p m=true∧∀ j,s≤j→j < m→p j=false)
 |0,s=>by
  refine ⟨by simp [dS];omega,fun m=>?_⟩
  simp only [dS,reduceCtorEq,false_iff]
  rintro ⟨h1,h2,_⟩;omega
 |k+1,s=>by
  obtain ⟨h1,h2⟩:=kn p k (s+1)
  rw [dS]
  split
  ·rename_i hp
   refine ⟨?_,fun m=>?_⟩
   ·simp only [reduceCtorEq,false_iff]
    intro h;have:=h s (Nat.le_refl _) (by omega);rw [hp] at this;cases this
   ·simp only [Option.some.injEq]
    constructor
    ·rintro rfl;exact ⟨Nat.le_refl _,by omega,hp,fun j h3 h4=>by omega⟩
    ·rintro ⟨h3,h4,h5,h6⟩
     rcases Nat.lt_or_ge s m with h|h
     ·have:=h6 s (Nat.le_refl _) h;rw [hp] at this;cases this
     ·omega
  ·rename_i hp
   have hp : p s=false:=by simpa using hp
   refine ⟨?_,fun m=>?_⟩
   ·rw [h1]
    constructor
    ·intro h j h3 h4
     by_cases e : j=s
     ·subst e;exact hp
     ·exact h j (by omega) (by omega)
    ·intro h j h3 h4;exact h j (by omega) (by omega)
   ·rw [h2 m]
    constructor
    ·rintro ⟨h3,h4,h5,h6⟩
     refine ⟨by omega,by omega,h5,fun j h7 h8=>?_⟩
     by_cases e : j=s
     ·subst e;exact hp
     ·exact h6 j (by omega) h8
    ·rintro ⟨h3,h4,h5,h6⟩
     have : m≠s:=by rintro rfl;rw [hp] at h5;cases h5
     exact ⟨by omega,by omega,h5,fun j h7 h8=>h6 j (by omega) h8⟩
variable (n lg ps)
def aR (start goal ticks : Nat) : Option Nat:=dS (fun a=>i0 n lg ps start a goal) (aK ps goal ticks) (ticks+1 - aK ps goal ticks)
def bu (start goal A : Nat) : Nat→Nat
 |0=>start
 |i+1=>if i < A then ((List.range n).find? fun u=>lg (bu start goal A i) u && (eo n lg ps goal A (A - (i+1)) u && ps i (bu start goal A i) u)).getD 0 else goal
def eh (start goal ticks best : Nat) : Nat→Nat
 |0=>start
 |i+1=>((List.range n).find? fun u=>(match aw n lg ps goal ticks (ticks - (i+1)) u with|some a=>decide (a≤max best (i+1))|none=>false) &&
   (lg (eh start goal ticks best i) u && (ps i (eh start goal ticks best i) u && (decide (i < best) || decide (u=goal))))).getD 0
variable {n lg ps}
theorem dT {start goal ticks : Nat} (hs : start < n) (hg : goal < n) : (∀ m,aR n lg ps start goal ticks=some m↔mX n lg ps goal ticks 0 start m∧∀ a,mX n lg ps goal ticks 0 start a→m≤a)∧(aR n lg ps start goal ticks=none↔∀ a,¬ mX n lg ps goal ticks 0 start a):=by
 have hset:=iL ps goal ticks
 obtain ⟨h1,h2⟩:=kn (fun a=>i0 n lg ps start a goal) (ticks+1 - aK ps goal ticks) (aK ps goal ticks)
 have key : ∀ a,mX n lg ps goal ticks 0 start a↔aK ps goal ticks≤a∧a < aK ps goal ticks+(ticks+1 - aK ps goal ticks)∧i0 n lg ps start a goal=true:=by
  intro a
  unfold mX
  rw [ot hs hg,Nat.sub_zero]
  constructor
  ·rintro ⟨_,h3,h4,h5⟩;exact ⟨h4,by omega,h5⟩
  ·rintro ⟨h3,h4,h5⟩;exact ⟨Nat.zero_le _,by omega,h3,h5⟩
 refine ⟨fun m=>?_,?_⟩
 ·unfold aR
  rw [h2 m,key]
  constructor
  ·rintro ⟨h3,h4,h5,h6⟩
   refine ⟨⟨h3,h4,h5⟩,fun a ha=>?_⟩
   obtain ⟨h7,h8,h9⟩:=(key a).1 ha
   rcases Nat.lt_or_ge a m with h|h
   ·have:=h6 a h7 h;rw [h9] at this;cases this
   ·exact h
  ·rintro ⟨⟨h3,h4,h5⟩,h6⟩
   refine ⟨h3,h4,h5,fun j h7 h8=>?_⟩
   cases hj : i0 n lg ps start j goal with
   |false=>rfl
   |true=>have:=h6 j ((key j).2 ⟨h7,by omega,hj⟩);omega
 ·unfold aR
  rw [h1]
  constructor
  ·intro h a ha
   obtain ⟨h7,h8,h9⟩:=(key a).1 ha
   have:=h a h7 h8;rw [h9] at this;cases this
  ·intro h j h7 h8
   cases hj : i0 n lg ps start j goal with
   |false=>rfl
   |true=>exact absurd ((key j).2 ⟨h7,h8,hj⟩) (h j)
theorem lL {start goal ticks : Nat} (hs : start < n) (hg : goal < n) (hl : lg goal goal=true) : aR n lg ps start goal ticks=aw n lg ps goal ticks ticks start:=by
 obtain ⟨h1,h2⟩:=dT (lg:=lg) (ps:=ps) (ticks:=ticks) hs hg
 obtain ⟨h3,h4⟩:=c9 (ps:=ps) hg hl (Nat.le_refl ticks) hs
 rw [Nat.sub_self] at h3 h4
 cases ha : aw n lg ps goal ticks ticks start with
 |none=>exact h2.2 (h3.1 ha)
 |some m=>exact (h1 m).2 ((h4 m).1 ha)
theorem mY {p : Nat→Bool} {u : Nat} (hu : u < n) (hp : p u=true) : ∃ x,(List.range n).find? p=some x∧x < n∧p x=true:=by
 cases h : (List.range n).find? p with
 |none=>exact absurd hp (by simpa using List.find?_eq_none.1 h u (List.mem_range.2 hu))
 |some x=>exact ⟨x,rfl,List.mem_range.1 (List.mem_of_find?_eq_some h),List.find?_some h⟩
theorem fp {start goal ticks A : Nat} (hs : start < n) (hA : aR n lg ps start goal ticks=some A) (hg : goal < n) :
 ∀ i,i≤A→bu n lg ps start goal A i < n∧cb n lg ps i (A - i) (bu n lg ps start goal A i) goal∧(∀ j,j < i→lg (bu n lg ps start goal A j) (bu n lg ps start goal A (j+1))=true∧ps j (bu n lg ps start goal A j) (bu n lg ps start goal A (j+1))=true):=by
 obtain ⟨⟨_,hle,_,hr⟩,_⟩:=((dT hs hg).1 A).1 hA
 intro i
 induction i with
 |zero=>intro _;exact ⟨hs,hr,fun j h=>by omega⟩
 |succ i ih=>
  intro hi
  obtain ⟨h1,h2,h3⟩:=ih (by omega)
  rw [show A - i=(A - (i+1))+1 from by omega] at h2
  obtain ⟨u,hu,h4,h5,h6⟩:=h2
  have hb : eo n lg ps goal A (A - (i+1)) u=true:=by rw [ju (by omega)];rwa [show A - (A - (i+1))=i+1 from by omega]
  obtain ⟨x,hx1,hx2,hx3⟩:=mY (p:=fun u=>lg (bu n lg ps start goal A i) u && (eo n lg ps goal A (A - (i+1)) u && ps i (bu n lg ps start goal A i) u)) hu (by simp [h4,h5,hb])
  have e : bu n lg ps start goal A (i+1)=x:=by rw [bu,if_pos (by omega),hx1];rfl
  simp only [Bool.and_eq_true] at hx3
  rw [e]
  refine ⟨hx2,?_,fun j hj=>?_⟩
  ·have:=(ju (by omega)).1 hx3.2.1
   rwa [show A - (A - (i+1))=i+1 from by omega] at this
  ·by_cases ej : j=i
   ·subst ej;rw [e];exact ⟨hx3.1,hx3.2.2⟩
   ·exact h3 j (by omega)
theorem eL {start goal ticks A : Nat} (hs : start < n) (hA : aR n lg ps start goal ticks=some A) (hg : goal < n) {i : Nat} (h : A≤i) : bu n lg ps start goal A i=goal:=by
 by_cases e : i=A
 ·subst e
  have:=(fp hs hA hg i (Nat.le_refl _)).2.1
  rw [Nat.sub_self] at this;exact this
 ·obtain ⟨k,rfl⟩ : ∃ k,i=k+1:=⟨i - 1,by omega⟩
  rw [bu,if_neg (by omega)]
theorem pX {l : List Nat} {p q : Nat→Bool} (h : ∀ u ∈ l,p u=q u) : l.find? p=l.find? q:=by
 induction l with
 |nil=>rfl
 |cons a l ih=>
  rw [List.find?_cons,List.find?_cons,h a (by simp),ih fun u hu=>h u (by simp [hu])]
theorem pf {start goal ticks A : Nat} (hs : start < n) (hA : aR n lg ps start goal ticks=some A) (hg : goal < n) (hl : lg goal goal=true) : ∀ i,i≤ticks→eh n lg ps start goal ticks A i=bu n lg ps start goal A i:=by
 obtain ⟨⟨_,hle,hset,_⟩,_⟩:=((dT hs hg).1 A).1 hA
 have hst:=(ep hle).1 hset
 intro i
 induction i with
 |zero=>intro _;rfl
 |succ i ih=>
  intro hi
  have e:=ih (by omega)
  by_cases hiA : i < A
  ·rw [eh,bu,if_pos hiA,e]
   congr 1
   refine pX fun u hu=>?_
   have hu:=List.mem_range.1 hu
   simp only [hiA,decide_true,Bool.true_or,Bool.and_true]
   have hmax : max A (i+1)=A:=by omega
   have key : (match aw n lg ps goal ticks (ticks - (i+1)) u with|some a=>decide (a≤max A (i+1))|none=>false)=eo n lg ps goal A (A - (i+1)) u:=by
    rw [Bool.eq_iff_iff,ju (by omega),show A - (A - (i+1))=i+1 from by omega,hmax]
    obtain ⟨s1,s2⟩:=c9 (ps:=ps) (ticks:=ticks) (k:=ticks - (i+1)) hg hl (by omega) hu
    rw [show ticks - (ticks - (i+1))=i+1 from by omega] at s1 s2
    constructor
    ·intro h
     cases ha : aw n lg ps goal ticks (ticks - (i+1)) u with
     |none=>rw [ha] at h;cases h
     |some a=>
      rw [ha] at h
      have h : a≤A:=by simpa using h
      obtain ⟨⟨h1,h2,h3,h4⟩,_⟩:=(s2 a).1 ha
      have hstay : cb n lg ps (i+1+(a - (i+1))) (A - a) goal goal:=yN hg hl fun j h5 h6=>(ep h2).1 h3 j (by omega) (by omega)
      have:=h4.trans hstay
      rwa [show a - (i+1)+(A - a)=A - (i+1) from by omega] at this
    ·intro h
     have hArr : mX n lg ps goal ticks (i+1) u A:=⟨by omega,hle,hset,h⟩
     cases ha : aw n lg ps goal ticks (ticks - (i+1)) u with
     |none=>exact absurd hArr (s1.1 ha A)
     |some a=>have:=((s2 a).1 ha).2 A hArr;simpa using this
   rw [key]
   cases lg (bu n lg ps start goal A i) u<;>cases eo n lg ps goal A (A - (i+1)) u<;>cases ps i (bu n lg ps start goal A i) u<;>rfl
  ·rw [eh,bu,if_neg hiA,e,eL hs hA hg (by omega)]
   have hmax : max A (i+1)=i+1:=by omega
   have hArr : mX n lg ps goal ticks (i+1) goal (i+1):=⟨Nat.le_refl _,by omega,by rw [ep (by omega)];exact fun j h1 h2=>hst j (by omega) h2,by simp [cb]⟩
   obtain ⟨s1,s2⟩:=c9 (ps:=ps) (ticks:=ticks) (k:=ticks - (i+1)) hg hl (by omega) hg
   rw [show ticks - (ticks - (i+1))=i+1 from by omega] at s1 s2
   have ha : ∃ a,aw n lg ps goal ticks (ticks - (i+1)) goal=some a∧a≤i+1:=by
    cases ha : aw n lg ps goal ticks (ticks - (i+1)) goal with
    |none=>exact absurd hArr (s1.1 ha _)
    |some a=>exact ⟨a,rfl,((s2 a).1 ha).2 _ hArr⟩
   obtain ⟨a,ha1,ha2⟩:=ha
   obtain ⟨x,hx1,hx2,hx3⟩:=mY (p:=fun u=>(match aw n lg ps goal ticks (ticks - (i+1)) u with|some a=>decide (a≤max A (i+1))|none=>false) &&
    (lg goal u && (ps i goal u && (decide (i < A) || decide (u=goal))))) hg (by simp [ha1,hmax,ha2,hl,hst i (by omega) (by omega)])
   rw [hx1]
   simp only [Bool.and_eq_true,Bool.or_eq_true,decide_eq_true_eq] at hx3
   rcases hx3.2.2.2 with h|h
   ·omega
   ·exact h
end
end Go.Ab
namespace Go.Ab
def j3 (l : List Nat) : Nat→Nat
 |0=>0
 |i+1=>if l[i]?=l[i+1]? then j3 l i else i+1
def pY (l : List Nat) : Nat:=j3 l (l.length - 1)
theorem lH (l : List Nat) : ∀ i a,a≤i→(∀ j,a≤j→j < i→l[j]?=l[j+1]?)→(a=0∨l[a - 1]?≠l[a]?)→j3 l i=a
 |0,a,h,_,_=>by have : a=0:=by omega
                subst this;rfl
 |i+1,a,h,h1,h2=>by
  rw [j3]
  by_cases e : a=i+1
  ·subst e
   rw [if_neg]
   rcases h2 with h2|h2
   ·omega
   ·simpa using h2
  ·rw [if_pos (h1 i (by omega) (by omega))]
   exact lH l i a (by omega) (fun j h3 h4=>h1 j h3 (by omega)) h2
section
variable {n : Nat} {lg : Nat→Nat→Bool} {ps : Nat→Nat→Nat→Bool}
theorem sT {start goal ticks A m : Nat} (hs : start < n) (hA : aR n lg ps start goal ticks=some A) (hg : goal < n) (hm : A≤m) : pY ((List.range (m+1)).map (bu n lg ps start goal A))=A:=by
 have get : ∀ j,j≤m→((List.range (m+1)).map (bu n lg ps start goal A))[j]?=some (bu n lg ps start goal A j):=by
  intro j hj
  rw [List.getElem?_map,List.getElem?_range (by omega)];rfl
 unfold pY
 rw [List.length_map,List.length_range,Nat.add_sub_cancel]
 refine lH _ _ _ hm (fun j h1 h2=>?_) ?_
 ·rw [get j (by omega),get (j+1) (by omega),eL hs hA hg h1,eL hs hA hg (by omega)]
 ·rcases Nat.eq_zero_or_pos A with h|h
  ·exact .inl h
  ·right
   rw [get (A - 1) (by omega),get A hm]
   intro e
   injection e with e
   rw [eL hs hA hg (Nat.le_refl A)] at e
   obtain ⟨⟨_,hle,hset,_⟩,hmin⟩:=((dT hs hg).1 A).1 hA
   obtain ⟨_,_,hsteps⟩:=fp hs hA hg A (Nat.le_refl _)
   obtain ⟨b1,b2⟩:=hsteps (A - 1) (by omega)
   rw [show A - 1+1=A from by omega,e,eL hs hA hg (Nat.le_refl A)] at b1 b2
   have hst:=(ep hle).1 hset
   have hA1 : mX n lg ps goal ticks 0 start (A - 1):=by
    refine ⟨Nat.zero_le _,by omega,?_,?_⟩
    ·rw [ep (by omega)]
     intro j h1 h2
     by_cases ej : j=A - 1
     ·subst ej;exact b2
     ·exact hst j (by omega) h2
    ·rw [Nat.sub_zero]
     have pre : ∀ i,i≤A→cb n lg ps 0 i start (bu n lg ps start goal A i):=by
      intro i
      induction i with
      |zero=>intro _;rfl
      |succ i ih=>
       intro hi
       obtain ⟨c1,c2⟩:=hsteps i (by omega)
       have hlt:=(fp hs hA hg (i+1) hi).1
       exact (cb.snoc hlt).2 ⟨_,.inr (fp hs hA hg i (by omega)).1,ih (by omega),c1,by simpa using c2⟩
     have:=pre (A - 1) (by omega)
     rwa [e] at this
   have:=hmin _ hA1
   omega
end
section
variable (n : Nat) (adj : Nat→Nat→Bool)
variable {n adj}
theorem lI {l : List Nat} (hn : l.Nodup) (hl : ∀ v ∈ l,v < n) : l.length≤n:=by
 have h1 : (l.eraseDups).length≤n∨True:=.inr trivial
 clear h1
 induction n generalizing l with
 |zero=>cases l with
  |nil=>simp
  |cons a l=>exact absurd (hl a (by simp)) (by omega)
 |succ n ih=>
  have h2:=ih (hn.filter (fun x=>x !=n)) (fun v hv=>by
   simp only [List.mem_filter,bne_iff_ne,ne_eq] at hv
   have:=hl v hv.1;omega)
  have h3 : l.length≤(l.filter (fun x=>x !=n)).length+1:=by
   clear ih h2 hl
   induction l with
   |nil=>simp
   |cons a l ihl=>
    rw [List.nodup_cons] at hn
    by_cases e : a=n
    ·subst e
     have : l.filter (fun x=>x !=a)=l:=by
      rw [List.filter_eq_self]
      intro x hx
      simp only [bne_iff_ne,ne_eq]
      rintro rfl;exact hn.1 hx
     simp [this]
    ·have:=ihl hn.2
     simp [e];omega
  omega
end
end Go.Ab
namespace Go.Ab
structure Edg (α : Type) where
 u : Int
 v : Int
 c : Int
 s : Int
 rest : α
structure Rmp (α β : Type) where
 np : List β
 es : List (Edg α)
structure Mov where
 a : Int
 f : Int
 t : Int
 deriving DecidableEq
structure Tem (α β : Type) where
 maps : List (Rmp α β)
 conf : List (Mov × Mov)
section
variable {α β : Type}
def bC (n : Nat) (x : Int) : Bool:=decide (0≤x) && decide (x < n)
def ax (t : Tem α β) (k : Nat) : Nat:=((t.maps[k]?).map fun m=>m.np.length).getD 0
def ml (t : Tem α β) (k : Nat) : List (Edg α):=((t.maps[k]?).map fun m=>m.es).getD []
def cG (es : List (Edg α)) (u v : Int) : Bool:=es.any fun e=>e.u==u && (e.v==v && e.s==1)
def bm (t : Tem α β) (m : Mov) : Bool:=bC t.maps.length m.a && (bC (ax t m.a.toNat) m.f && (bC (ax t m.a.toNat) m.t && (m.f==m.t || cG (ml t m.a.toNat) (min m.f m.t) (max m.f m.t))))
def fS (n : Nat) (e : Edg α) : Bool:=decide (0≤e.u) && (decide (e.u < e.v) && (decide (e.v < n) && (decide (0≤e.c) && decide (e.c≤1099511627776))))
def aJ (n : Nat) : Int→Int→List (Edg α)→Bool
 |_,_,[]=>true
 |u,v,e :: r=>fS n e && (!(decide (e.u < u) || (e.u==u && decide (e.v≤v))) && aJ n e.u e.v r)
def aS (m : Rmp α β) : Bool:=decide (m.np.length≤1024) && (decide (m.es.length≤8192) && aJ m.np.length (-1) (-1) m.es)
def ff (t : Tem α β) (c : Mov × Mov) : Bool:=bm t c.1 && (bm t c.2 && c.1.a !=c.2.a)
def aG (t : Tem α β) : Bool:=decide (1≤t.maps.length) && (decide (t.maps.length≤4) && (decide (t.conf.length≤4096) && (t.maps.all aS && t.conf.all (ff t))))
def jv (a b : Mov) (c : Mov × Mov) : Bool:=(c.1==a && c.2==b) || (c.1==b && c.2==a)
def fg (t : Tem α β) (a b : Mov) : Bool:=t.conf.any (jv a b)
theorem ov (t : Tem α β) (a b : Mov) : fg t a b=fg t b a:=by
 unfold fg
 congr 1;funext c;unfold jv;exact Bool.or_comm _ _
def bi (l : List Int) (arm : Int) (tick : Nat) : Mov:=⟨arm,(l[min tick (l.length - 1)]?).getD 0,(l[min (tick+1) (l.length - 1)]?).getD 0⟩
def jw (t : Tem α β) (m : Mov) (tick i : Nat) (l : List Int) : Bool:=!(decide (0 < l.length) && (decide ((i : Int)≠m.a) && fg t m (bi l i tick)))
def qP (t : Tem α β) (plan : List (List Int)) (m : Mov) (tick : Nat) : Bool:=(List.range plan.length).all fun i=>jw t m tick i ((plan[i]?).getD [])
def bS (plan : List (List Int)) (m : Mov) (tick : Nat) : Bool:=decide (0 < ((plan[m.a.toNat]?).getD []).length) && (((plan[m.a.toNat]?).getD [])[tick]?==some m.f && ((plan[m.a.toNat]?).getD [])[tick+1]?==some m.t)
def jx (plan : List (List Int)) (arm : Int) (tick : Nat) (f to : Int) (c : Mov × Mov) : Bool:=
 (c.1.a==arm && (bS plan c.2 tick && (c.1.f==f && c.1.t==to))) || (c.2.a==arm && (bS plan c.1 tick && (c.2.f==f && c.2.t==to)))
def iM (t : Tem α β) (plan : List (List Int)) (arm : Int) (tick : Nat) (f to : Int) : Bool:=!t.conf.any (jx plan arm tick f to)
theorem aD {n : Nat} {x : Int} : bC n x=true↔0≤x∧x < n:=by simp [bC]
def gD (t : Tem α β) (ticks : Nat) (plan : List (List Int)) : Prop:=plan.length=t.maps.length∧∀ l ∈ plan,l=[]∨l.length=ticks+1
theorem dY {l : List Int} {ticks tick : Nat} {arm : Int} (hl : l.length=ticks+1) (h : tick < ticks) : bi l arm tick=⟨arm,(l[tick]?).getD 0,(l[tick+1]?).getD 0⟩:=by
 unfold bi
 rw [hl,Nat.add_sub_cancel,Nat.min_eq_left (by omega),Nat.min_eq_left (by omega)]
theorem p4 {t : Tem α β} (hc : t.conf.all (ff t)=true) {plan : List (List Int)} {ticks : Nat} (hp : gD t ticks plan) {k tick : Nat} (ht : tick < ticks) (f to : Int) :
 qP t plan ⟨k,f,to⟩ tick=iM t plan k tick f to:=by
 rw [Bool.eq_iff_iff]
 have hcf : ∀ c ∈ t.conf,bm t c.1=true∧bm t c.2=true∧c.1.a≠c.2.a:=by
  intro c hc'
  have:=List.all_eq_true.1 hc c hc'
  simp only [ff,Bool.and_eq_true,bne_iff_ne,ne_eq] at this
  exact this
 have full : ∀ (i : Nat) (l : List Int),plan[i]?=some l→0 < l.length→l.length=ticks+1:=by
  intro i l hl h0
  rcases hp.2 l (List.mem_of_getElem? hl) with h|h
  ·subst h;simp at h0
  ·exact h
 have made : ∀ m : Mov,0≤m.a→bS plan m tick=true→∃ l,plan[m.a.toNat]?=some l∧0 < l.length∧bi l m.a tick=m:=by
  intro m h0 h
  unfold bS at h
  simp only [Bool.and_eq_true,decide_eq_true_eq,beq_iff_eq] at h
  cases hl : plan[m.a.toNat]? with
  |none=>rw [hl] at h;simp at h
  |some l=>
   rw [hl] at h
   simp only [Option.getD_some] at h
   refine ⟨l,rfl,h.1,?_⟩
   rw [dY (full _ l hl h.1) ht,h.2.1,h.2.2];rfl
 have made' : ∀ (i : Nat) l,plan[i]?=some l→0 < l.length→bS plan (bi l i tick) tick=true:=by
  intro i l hl h0
  have hlen:=full i l hl h0
  rw [dY hlen ht]
  unfold bS
  have e1 : l[tick]?=some (l[tick]'(by omega)):=List.getElem?_eq_getElem _
  have e2 : l[tick+1]?=some (l[tick+1]'(by omega)):=List.getElem?_eq_getElem _
  simp [hl,h0,e1,e2]
 constructor
 ·intro h
  unfold iM
  rw [Bool.not_eq_true',List.any_eq_false]
  intro c hcm hb
  obtain ⟨h1,h2,h3⟩:=hcf c hcm
  simp only [jx,Bool.or_eq_true,Bool.and_eq_true,beq_iff_eq] at hb
  have key : ∀ x y : Mov,x.a=k→bm t y=true→x.a≠y.a→bS plan y tick=true→x.f=f→x.t=to→jv x y c=true→False:=by
   intro x y hx hy hne hm hf hto hcl
   have hy0 : 0≤y.a:=by simp only [bm,Bool.and_eq_true,aD] at hy;exact hy.1.1
   obtain ⟨l,hl,hl0,hmv⟩:=made y hy0 hm
   have hlt:=(List.getElem?_eq_some_iff.1 hl).1
   have:=List.all_eq_true.1 h y.a.toNat (List.mem_range.2 hlt)
   simp only [jw,hl,Option.getD_some,hl0,decide_true,Bool.true_and,Bool.not_eq_true',Bool.and_eq_false_iff,decide_eq_false_iff_not] at this
   have e : ((y.a.toNat : Nat) : Int)=y.a:=Int.toNat_of_nonneg hy0
   rw [e,hmv] at this
   have ex : (⟨k,f,to⟩ : Mov)=x:=by cases x;simp only at hx hf hto;subst hx;subst hf;subst hto;rfl
   rcases this with h9|h9
   ·exact h9 (by show y.a≠(k : Int);rw [← hx];exact fun e=>hne e.symm)
   ·rw [ex] at h9
    have : fg t x y=true:=List.any_eq_true.2 ⟨c,hcm,hcl⟩
    rw [this] at h9;cases h9
  rcases hb with ⟨h4,h5,h6,h7⟩|⟨h4,h5,h6,h7⟩
  ·exact key c.1 c.2 h4 h2 h3 h5 h6 h7 (by simp [jv])
  ·exact key c.2 c.1 h4 h1 (fun e=>h3 e.symm) h5 h6 h7 (by simp [jv])
 ·intro h
  unfold iM at h
  rw [Bool.not_eq_true',List.any_eq_false] at h
  unfold qP
  rw [List.all_eq_true]
  intro i hi
  have hlt:=List.mem_range.1 hi
  have hl : plan[i]?=some plan[i]:=List.getElem?_eq_getElem hlt
  rw [hl,Option.getD_some]
  cases h9 : jw t ⟨k,f,to⟩ tick i plan[i] with
  |true=>rfl
  |false=>
   simp only [jw,Bool.not_eq_false',Bool.and_eq_true,decide_eq_true_eq] at h9
   obtain ⟨h0,hne,hcl⟩:=h9
   obtain ⟨c,hcm,hcc⟩:=List.any_eq_true.1 hcl
   have hm:=made' i plan[i] hl h0
   refine absurd ?_ (h c hcm)
   simp only [jv,Bool.or_eq_true,Bool.and_eq_true,beq_iff_eq] at hcc
   simp only [jx,Bool.or_eq_true,Bool.and_eq_true,beq_iff_eq]
   rcases hcc with ⟨e1,e2⟩|⟨e1,e2⟩
   ·left;rw [e1,e2];exact ⟨rfl,hm,rfl,rfl⟩
   ·right;rw [e1,e2];exact ⟨rfl,hm,rfl,rfl⟩
def fK (t : Tem α β) (k v u : Nat) : Bool:=bm t ⟨k,v,u⟩
def ik (t : Tem α β) (plan : List (List Int)) (k i v u : Nat) : Bool:=iM t plan k i v u
def pg (t : Tem α β) (plan : List (List Int)) (k i v u : Nat) : Bool:=qP t plan ⟨k,v,u⟩ i
def dr (t : Tem α β) (plan : List (List Int)) (k start goal ticks : Nat) : Option (List Int):=
 (aR (ax t k) (fK t k) (ik t plan k) start goal ticks).map fun A=>(List.range (ticks+1)).map fun i=>((bu (ax t k) (fK t k) (ik t plan k) start goal A i : Nat) : Int)
def er (t : Tem α β) (plan : List (List Int)) (k start goal ticks : Nat) : Option (List Int):=
 (aw (ax t k) (fK t k) (pg t plan k) goal ticks ticks start).map fun A=>(List.range (ticks+1)).map fun i=>((eh (ax t k) (fK t k) (pg t plan k) start goal ticks A i : Nat) : Int)
end
section
variable {n : Nat} {lg : Nat→Nat→Bool} {ps ps' : Nat→Nat→Nat→Bool}
theorem ko {goal ticks : Nat} (h : ∀ i v u,i < ticks→ps i v u=ps' i v u) : ∀ {k v : Nat},k≤ticks→aw n lg ps goal ticks k v=aw n lg ps' goal ticks k v
 |0,_,_=>rfl
 |k+1,v,hk=>by
  simp only [aw]
  congr 1
  funext acc u
  rw [ko h (by omega),h (ticks - (k+1)) v u (by omega)]
theorem ol {start goal ticks A : Nat} (h : ∀ i v u,i < ticks→ps i v u=ps' i v u) : ∀ {i : Nat},i≤ticks→eh n lg ps start goal ticks A i=eh n lg ps' start goal ticks A i
 |0,_=>rfl
 |i+1,hi=>by
  rw [eh,eh,ol h (by omega)]
  congr 1
  refine pX fun u _=>?_
  rw [ko h (by omega),h i _ u (by omega)]
end
section
variable {α β : Type}
theorem rK {t : Tem α β} {k v : Nat} (hk : k < t.maps.length) (hv : v < ax t k) : fK t k v v=true:=by
 simp only [fK,bm,Int.toNat_natCast,Bool.and_eq_true,aD,beq_self_eq_true,Bool.true_or]
 refine ⟨⟨?_,?_⟩,⟨?_,?_⟩,⟨?_,?_⟩,trivial⟩<;>omega
theorem rI {t : Tem α β} (hc : t.conf.all (ff t)=true) {plan : List (List Int)} {ticks : Nat} (hp : gD t ticks plan) {k start goal : Nat} (hk : k < t.maps.length) (hs : start < ax t k) (hg : goal < ax t k) :
 dr t plan k start goal ticks=er t plan k start goal ticks:=by
 have hps : ∀ i v u,i < ticks→pg t plan k i v u=ik t plan k i v u:=fun i v u hi=>p4 hc hp hi _ _
 have hl:=rK (t:=t) hk hg
 unfold dr er
 rw [ko hps (Nat.le_refl _),← lL (ps:=ik t plan k) hs hg hl]
 cases hA : aR (ax t k) (fK t k) (ik t plan k) start goal ticks with
 |none=>rfl
 |some A=>
  simp only [Option.map_some,Option.some.injEq]
  refine List.map_congr_left fun i hi=>?_
  have hi:=List.mem_range.1 hi
  rw [ol hps (by omega),pf hs hA hg hl i (by omega)]
def bD (step : List (List Int)→Nat→Option (List Int)) : List Nat→List (List Int)→Option (List (List Int))
 |[],plan=>some plan
 |k :: r,plan=>match step plan k with
  |some l=>bD step r (plan.set k l)
  |none=>none
def fh (l : List Int) : Nat→Nat
 |0=>0
 |i+1=>if l[i]?=l[i+1]? then fh l i else i+1
def aH (l : List Int) : Nat:=fh l (l.length - 1)
def aY (plan : List (List Int)) : Nat:=plan.foldl (fun m l=>max m (aH l)) 1
def bE (plan : List (List Int)) : List (List Int):=plan.map (List.take (aY plan+1))
def bL (t : Tem α β) (at_ : List Int) : Bool:=decide (at_.length=t.maps.length) && (List.range at_.length).all fun k=>bC (ax t k) ((at_[k]?).getD 0)
def bJ (order : List Int) (n : Nat) : Bool:=decide (order.length=n) && (List.range n).all fun k=>order.contains (k : Int)
def aP (l : List Int) (k : Nat) : Nat:=((l[k]?).getD 0).toNat
def gS (t : Tem α β) (starts goals order : List Int) (ticks : Int) : Bool:=aG t && (bL t starts && (bL t goals && (decide (1≤ticks) && (decide (ticks≤64) && bJ order t.maps.length))))
def bd (t : Tem α β) (starts goals order : List Int) (ticks : Int) : Option (List (List Int)):=
 if gS t starts goals order ticks=true then (bD (fun plan k=>dr t plan k (aP starts k) (aP goals k) ticks.toNat) (order.map Int.toNat) (List.replicate t.maps.length [])).map bE else none
def la (t : Tem α β) (starts goals order : List Int) (ticks : Int) : Option (List (List Int)):=
 if gS t starts goals order ticks=true then (bD (fun plan k=>er t plan k (aP starts k) (aP goals k) ticks.toNat) (order.map Int.toNat) (List.replicate t.maps.length [])).map bE else none
theorem m7 {t : Tem α β} {plan : List (List Int)} {k start goal ticks : Nat} {l : List Int} (h : dr t plan k start goal ticks=some l) : l.length=ticks+1:=by
 unfold dr at h
 simp only [Option.map_eq_some_iff] at h
 obtain ⟨A,_,rfl⟩:=h
 simp
theorem gD.set {t : Tem α β} {plan : List (List Int)} {ticks k : Nat} {l : List Int} (hp : gD t ticks plan) (hl : l.length=ticks+1) : gD t ticks (plan.set k l):=by
 refine ⟨by rw [List.length_set];exact hp.1,fun x hx=>?_⟩
 rcases List.mem_or_eq_of_mem_set hx with h|h
 ·exact hp.2 x h
 ·subst h;exact .inr hl
theorem gD.init (t : Tem α β) (ticks : Nat) : gD t ticks (List.replicate t.maps.length []):=⟨by simp,fun l hl=>.inl (List.eq_of_mem_replicate hl)⟩
theorem ou {t : Tem α β} (hc : t.conf.all (ff t)=true) {ticks : Nat} {s g : Nat→Nat} (hs : ∀ k,k < t.maps.length→s k < ax t k) (hg : ∀ k,k < t.maps.length→g k < ax t k) :
 ∀ {order : List Nat} {plan : List (List Int)},(∀ k ∈ order,k < t.maps.length)→gD t ticks plan→bD (fun plan k=>dr t plan k (s k) (g k) ticks) order plan=bD (fun plan k=>er t plan k (s k) (g k) ticks) order plan
 |[],_,_,_=>rfl
 |k :: r,plan,ho,hp=>by
  have hk:=ho k (by simp)
  simp only [bD,← rI hc hp hk (hs k hk) (hg k hk)]
  cases hb : dr t plan k (s k) (g k) ticks with
  |none=>rfl
  |some l=>exact ou hc hs hg (fun x hx=>ho x (by simp [hx])) (hp.set (m7 hb))
theorem bb {t : Tem α β} {l : List Int} (h : bL t l=true) {k : Nat} (hk : k < t.maps.length) : aP l k < ax t k:=by
 simp only [bL,Bool.and_eq_true,decide_eq_true_eq,List.all_eq_true,List.mem_range] at h
 have:=h.2 k (by omega)
 rw [aD] at this
 unfold aP;omega
theorem gf {order : List Int} {n : Nat} (h : bJ order n=true) : ∀ k ∈ order.map Int.toNat,k < n:=by
 simp only [bJ,Bool.and_eq_true,decide_eq_true_eq,List.all_eq_true,List.mem_range,List.contains_iff_mem] at h
 obtain ⟨hl,hm⟩:=h
 have key : ∀ (n : Nat) (l : List Int),l.length≤n→(∀ k,k < n→((k : Nat) : Int) ∈ l)→∀ x ∈ l,0≤x∧x < n:=by
  intro n
  induction n with
  |zero=>intro l hl _ x hx;have : l=[]:=List.length_eq_zero_iff.1 (by omega)
         rw [this] at hx;cases hx
  |succ n ih=>
   intro l hl hm x hx
   have hmem:=hm n (by omega)
   have he : (l.erase ((n : Nat) : Int)).length=l.length - 1:=List.length_erase_of_mem hmem
   have:=ih (l.erase ((n : Nat) : Int)) (by omega) (fun k hk=>by
    rw [List.mem_erase_of_ne (by omega)];exact hm k (by omega))
   by_cases e : x=(n : Nat)
   ·omega
   ·have:=this x ((List.mem_erase_of_ne e).2 hx);omega
 intro k hk
 obtain ⟨x,hx,rfl⟩:=List.mem_map.1 hk
 have:=key n order (by omega) hm x hx
 omega
theorem yy (t : Tem α β) (starts goals order : List Int) (ticks : Int) : bd t starts goals order ticks=la t starts goals order ticks:=by
 unfold bd la
 split
 ·rename_i h
  simp only [gS,aG,Bool.and_eq_true] at h
  obtain ⟨⟨_,_,_,_,hc⟩,hs,hg,_,_,ho⟩:=h
  rw [ou hc (fun k hk=>bb hs hk) (fun k hk=>bb hg hk) (gf ho) (gD.init t _)]
 ·rfl
end
end Go.Ab
namespace Go.Ab
section
variable {α β : Type}
def aT (t : Tem α β) (plan : List (List Int)) (tick k : Nat) : Bool:=
 bm t (bi ((plan[k]?).getD []) k tick) && (List.range k).all fun i=>!fg t (bi ((plan[k]?).getD []) k tick) (bi ((plan[i]?).getD []) i tick)
def bn (plan : List (List Int)) (starts goals : List Int) (n k : Nat) : Bool:=
 decide (((plan[k]?).getD []).length=n) && ((((plan[k]?).getD [])[0]?).getD 0==(starts[k]?).getD 0 && (((plan[k]?).getD [])[n - 1]?).getD 0==(goals[k]?).getD 0)
def mm (t : Tem α β) (starts goals : List Int) (plan : List (List Int)) : Bool:=
 aG t && (decide (starts.length=t.maps.length) && (decide (goals.length=t.maps.length) && (decide (plan.length=t.maps.length) &&
  (decide (1≤((plan[0]?).getD []).length) && (decide (((plan[0]?).getD []).length≤65) && ((List.range plan.length).all (bn plan starts goals ((plan[0]?).getD []).length) &&
    (List.range (max 1 (((plan[0]?).getD []).length - 1))).all fun tick=>(List.range plan.length).all (aT t plan tick)))))))
structure LOk (t : Tem α β) (k start goal ticks : Nat) (l : List Int) (A : Nat) : Prop where
 len : l.length=ticks+1
 st : l[0]?=some (start : Int)
 le : A≤ticks
 arr : aH l=A
 arrT : ∀ m,A≤m→m≤ticks→aH (l.take (m+1))=A
 goal : ∀ i,A≤i→i≤ticks→l[i]?=some (goal : Int)
 leg : ∀ i,i < ticks→bm t ⟨k,(l[i]?).getD 0,(l[i+1]?).getD 0⟩=true
theorem m8 (l : List Nat) : ∀ i,i < l.length→fh (l.map fun x=>((x : Nat) : Int)) i=j3 l i
 |0,_=>rfl
 |i+1,h=>by
  rw [fh,j3,m8 l i (by omega)]
  have e1 : l[i]?=some (l[i]'(by omega)):=List.getElem?_eq_getElem _
  have e2 : l[i+1]?=some (l[i+1]'(by omega)):=List.getElem?_eq_getElem _
  simp only [List.getElem?_map,e1,e2,Option.map_some,Option.some.injEq,Int.natCast_inj]
theorem sU {l : List Nat} (h : l≠[]) : aH (l.map fun x=>((x : Nat) : Int))=pY l:=by
 unfold aH pY
 rw [List.length_map]
 exact m8 l _ (by have:=List.length_pos_iff.2 h;omega)
theorem mn {t : Tem α β} {plan : List (List Int)} {k start goal ticks : Nat} {l : List Int} (hk : k < t.maps.length) (hs : start < ax t k) (hg : goal < ax t k) (h : dr t plan k start goal ticks=some l) :
 ∃ A,aR (ax t k) (fK t k) (ik t plan k) start goal ticks=some A∧LOk t k start goal ticks l A∧∀ i,i < ticks→iM t plan k i ((l[i]?).getD 0) ((l[i+1]?).getD 0)=true:=by
 unfold dr at h
 simp only [Option.map_eq_some_iff] at h
 obtain ⟨A,hA,rfl⟩:=h
 have hle:=((dT (lg:=fK t k) hs hg).1 A).1 hA|>.1.2.1
 have hset:=((dT (lg:=fK t k) hs hg).1 A).1 hA|>.1.2.2.1
 have hst:=(ep hle).1 hset
 let f:=bu (ax t k) (fK t k) (ik t plan k) start goal A
 have get : ∀ i,i≤ticks→((List.range (ticks+1)).map fun i=>((f i : Nat) : Int))[i]?=some ((f i : Nat) : Int):=by
  intro i hi;rw [List.getElem?_map,List.getElem?_range (by omega)];rfl
 have step : ∀ i,i < ticks→fK t k (f i) (f (i+1))=true∧ik t plan k i (f i) (f (i+1))=true:=by
  intro i hi
  by_cases e : i < A
  ·exact (fp hs hA hg A (Nat.le_refl _)).2.2 i e
  ·rw [show f i=goal from eL hs hA hg (by omega),show f (i+1)=goal from eL hs hA hg (by omega)]
   exact ⟨rK hk hg,hst i (by omega) hi⟩
 have harr : ∀ m,A≤m→aH ((List.range (m+1)).map fun i=>((f i : Nat) : Int))=A:=by
  intro m hm
  have : ((List.range (m+1)).map fun i=>((f i : Nat) : Int))=((List.range (m+1)).map f).map fun x=>((x : Nat) : Int):=by rw [List.map_map];rfl
  rw [this,sU (by simp),sT hs hA hg hm]
 refine ⟨A,hA,⟨by simp,?_,hle,harr ticks hle,fun m h1 h2=>?_,fun i h1 h2=>?_,fun i hi=>?_⟩,fun i hi=>?_⟩
 ·rw [get 0 (by omega)];rfl
 ·rw [← List.map_take,List.take_range,Nat.min_eq_left (by omega)];exact harr m h1
 ·rw [get i h2];congr 2;exact eL hs hA hg h1
 ·rw [get i (by omega),get (i+1) (by omega)];exact (step i hi).1
 ·rw [get i (by omega),get (i+1) (by omega)];exact (step i hi).2
structure PInv (t : Tem α β) (s g : Nat→Nat) (ticks : Nat) (plan : List (List Int)) : Prop where
 ok : gD t ticks plan
 lst : ∀ (k : Nat) (l : List Int),plan[k]?=some l→l≠[]→∃ A,LOk t k (s k) (g k) ticks l A
 ap : ∀ (k k' : Nat) l l',plan[k]?=some l→plan[k']?=some l'→l≠[]→l'≠[]→k≠k'→∀ i,i < ticks→fg t (bi l k i) (bi l' k' i)=false
theorem PInv.step {t : Tem α β} (hc : t.conf.all (ff t)=true) {s g : Nat→Nat} {ticks : Nat} {plan : List (List Int)} (hp : PInv t s g ticks plan) {k : Nat} (hk : k < t.maps.length) (hs : s k < ax t k) (hg : g k < ax t k) {l : List Int}
 (h : dr t plan k (s k) (g k) ticks=some l) : PInv t s g ticks (plan.set k l):=by
 obtain ⟨A,_,hl,hps⟩:=mn hk hs hg h
 have hlen:=hl.len
 have get : ∀ (q : Nat) x,(plan.set k l)[q]?=some x→(q=k∧x=l)∨(q≠k∧plan[q]?=some x):=by
  intro q x hx
  rw [List.getElem?_set] at hx
  split at hx
  ·rename_i e
   split at hx
   ·injection hx with hx;exact .inl ⟨e.symm,hx.symm⟩
   ·cases hx
  ·rename_i e;exact .inr ⟨fun e'=>e e'.symm,hx⟩
 have key : ∀ (q : Nat) x,plan[q]?=some x→x≠[]→q≠k→∀ i,i < ticks→fg t (bi l k i) (bi x q i)=false:=by
  intro q x hx hx0 hq i hi
  have h1:=hps i hi
  rw [← p4 hc hp.ok hi] at h1
  have hlt:=(List.getElem?_eq_some_iff.1 hx).1
  have h2:=List.all_eq_true.1 h1 q (List.mem_range.2 hlt)
  have hpos : 0 < x.length:=List.length_pos_iff.2 hx0
  have hqk : (q : Int)≠k:=by omega
  simp only [jw,hx,Option.getD_some,hpos,decide_true,Bool.true_and,Bool.not_eq_true',Bool.and_eq_false_iff,decide_eq_false_iff_not,hqk,not_false_eq_true,not_true_eq_false,false_or,ne_eq] at h2
  rw [dY hlen hi];exact h2
 refine ⟨hp.ok.set hlen,fun q x hx hx0=>?_,fun q q' x x' hx hx' hx0 hx0' hne i hi=>?_⟩
 ·rcases get q x hx with ⟨rfl,rfl⟩|⟨_,h1⟩
  ·exact ⟨A,hl⟩
  ·exact hp.lst q x h1 hx0
 ·rcases get q x hx with ⟨rfl,rfl⟩|⟨hq,h1⟩
  ·rcases get q' x' hx' with ⟨rfl,rfl⟩|⟨hq',h2⟩
   ·exact absurd rfl hne
   ·exact key q' x' h2 hx0' hq' i hi
  ·rcases get q' x' hx' with ⟨rfl,rfl⟩|⟨hq',h2⟩
   ·rw [ov];exact key q x h1 hx0 hq i hi
   ·exact hp.ap q q' x x' h1 h2 hx0 hx0' hne i hi
theorem iN {t : Tem α β} (hc : t.conf.all (ff t)=true) {s g : Nat→Nat} {ticks : Nat} (hs : ∀ k,k < t.maps.length→s k < ax t k) (hg : ∀ k,k < t.maps.length→g k < ax t k) :
 ∀ {order : List Nat} {plan p : List (List Int)},(∀ k ∈ order,k < t.maps.length)→PInv t s g ticks plan→bD (fun plan k=>dr t plan k (s k) (g k) ticks) order plan=some p→
  PInv t s g ticks p∧(∀ k ∈ order,∃ l : List Int,p[k]?=some l∧l≠[])∧∀ (k : Nat) (l : List Int),plan[k]?=some l→l≠[]→∃ l',p[k]?=some l'∧l'≠[]
 |[],plan,p,_,hp,h=>by
  simp only [bD,Option.some.injEq] at h
  subst h
  exact ⟨hp,by simp,fun k l h1 h2=>⟨l,h1,h2⟩⟩
 |k :: r,plan,p,ho,hp,h=>by
  have hk:=ho k (by simp)
  simp only [bD] at h
  split at h
  ·rename_i l hb
   have hl0 : l≠[]:=by
    have:=m7 hb
    intro e;subst e;simp at this
   obtain ⟨h1,h2,h3⟩:=iN hc hs hg (fun x hx=>ho x (by simp [hx])) (hp.step hc hk (hs k hk) (hg k hk) hb) h
   have hset : (plan.set k l)[k]?=some l:=by rw [List.getElem?_set,if_pos rfl,if_pos (by rw [hp.ok.1];exact hk)]
   refine ⟨h1,fun q hq=>?_,fun q x hx hx0=>?_⟩
   ·rcases List.mem_cons.1 hq with rfl|hq
    ·exact h3 q l hset hl0
    ·exact h2 q hq
   ·by_cases e : q=k
    ·subst e;exact h3 q l hset hl0
    ·exact h3 q x (by rw [List.getElem?_set,if_neg (fun e'=>e e'.symm)];exact hx) hx0
  ·cases h
theorem fq {order : List Int} {n : Nat} (h : bJ order n=true) : ∀ k,k < n→k ∈ order.map Int.toNat:=by
 simp only [bJ,Bool.and_eq_true,List.all_eq_true,List.mem_range,List.contains_iff_mem] at h
 intro k hk
 exact List.mem_map.2 ⟨_,h.2 k hk,rfl⟩
theorem fL (f : List Int→Nat) : ∀ (l : List (List Int)) (m : Nat),m≤l.foldl (fun m l=>max m (f l)) m∧(∀ x ∈ l,f x≤l.foldl (fun m l=>max m (f l)) m)∧(l.foldl (fun m l=>max m (f l)) m=m∨∃ x ∈ l,l.foldl (fun m l=>max m (f l)) m=f x)
 |[],m=>⟨Nat.le_refl _,by simp,.inl rfl⟩
 |a :: l,m=>by
  obtain ⟨h1,h2,h3⟩:=fL f l (max m (f a))
  rw [List.foldl_cons]
  refine ⟨by omega,fun x hx=>?_,?_⟩
  ·rcases List.mem_cons.1 hx with rfl|hx
   ·omega
   ·exact h2 x hx
  ·rcases h3 with h3|⟨x,hx,h3⟩
   ·rw [h3]
    rcases Nat.le_total m (f a) with h|h
    ·right;exact ⟨a,by simp,by omega⟩
    ·left;omega
   ·exact .inr ⟨x,by simp [hx],h3⟩
structure POk (t : Tem α β) (s g : Nat→Nat) (ticks : Nat) (p : List (List Int)) : Prop where
 len : p.length=t.maps.length
 lst : ∀ (k : Nat) (l : List Int),p[k]?=some l→∃ A,LOk t k (s k) (g k) ticks l A
 ap : ∀ (k k' : Nat) l l',p[k]?=some l→p[k']?=some l'→k≠k'→∀ i,i < ticks→fg t (bi l k i) (bi l' k' i)=false
theorem dU {t : Tem α β} {starts goals order : List Int} {ticks : Int} (h : gS t starts goals order ticks=true) : aG t=true∧t.conf.all (ff t)=true∧bL t starts=true∧bL t goals=true∧(1≤ticks∧ticks≤64)∧bJ order t.maps.length=true∧1≤t.maps.length:=by
 simp only [gS,Bool.and_eq_true,decide_eq_true_eq] at h
 obtain ⟨h1,h2,h3,h4,h5,h6⟩:=h
 have h7:=h1
 simp only [aG,Bool.and_eq_true,decide_eq_true_eq] at h7
 exact ⟨h1,h7.2.2.2.2,h2,h3,⟨h4,h5⟩,h6,h7.1⟩
theorem fY {t : Tem α β} {starts goals order : List Int} {ticks : Int} {q : List (List Int)} (h : bd t starts goals order ticks=some q) :
 gS t starts goals order ticks=true∧∃ p,q=bE p∧POk t (aP starts) (aP goals) ticks.toNat p:=by
 unfold bd at h
 split at h
 ·rename_i hpre
  obtain ⟨_,hc,hs,hg,_,ho,_⟩:=dU hpre
  simp only [Option.map_eq_some_iff] at h
  obtain ⟨p,hp,rfl⟩:=h
  have init : PInv t (aP starts) (aP goals) ticks.toNat (List.replicate t.maps.length []):=by
   refine ⟨gD.init t _,fun k l h1 h2=>?_,fun k k' l l' h1 _ h3=>?_⟩
   ·exact absurd (List.eq_of_mem_replicate (List.mem_of_getElem? h1)) h2
   ·exact absurd (List.eq_of_mem_replicate (List.mem_of_getElem? h1)) h3
  obtain ⟨h1,h2,_⟩:=iN hc (fun k hk=>bb hs hk) (fun k hk=>bb hg hk) (gf ho) init hp
  have all : ∀ (k : Nat) (l : List Int),p[k]?=some l→l≠[]:=by
   intro k l hl
   have hk : k < t.maps.length:=by rw [← h1.ok.1];exact (List.getElem?_eq_some_iff.1 hl).1
   obtain ⟨l',h3,h4⟩:=h2 k (fq ho k hk)
   rw [hl] at h3;injection h3 with h3;subst h3;exact h4
  exact ⟨hpre,p,rfl,h1.ok.1,fun k l hl=>h1.lst k l hl (all k l hl),fun k k' l l' hl hl' hne=>h1.ap k k' l l' hl hl' (all k l hl) (all k' l' hl') hne⟩
 ·cases h
theorem lJ {t : Tem α β} {starts goals order : List Int} {ticks : Int} {q : List (List Int)} (h : bd t starts goals order ticks=some q) :
 mm t starts goals q=true∧q.length=t.maps.length∧(∃ l,q[0]?=some l∧2≤l.length∧l.length≤ticks.toNat+1∧q.foldl (fun m l=>max m (aH l)) 1=l.length - 1):=by
 obtain ⟨hpre,p,rfl,hP⟩:=fY h
 obtain ⟨hchk,_,hs,hg,ht,_,hpos⟩:=dU hpre
 have hL:=fL aH p 1
 have hlast : aY p=p.foldl (fun m l=>max m (aH l)) 1:=rfl
 rw [← hlast] at hL
 obtain ⟨hL1,hL2,hL3⟩:=hL
 have hLt : aY p≤ticks.toNat:=by
  rcases hL3 with h|⟨x,hx,h⟩
  ·omega
  ·obtain ⟨k,hk⟩:=List.mem_iff_getElem?.1 hx
   obtain ⟨A,hA⟩:=hP.lst k x hk
   rw [h,hA.arr];exact hA.le
 have get : ∀ k,k < t.maps.length→∃ (l : List Int) (A : Nat),p[k]?=some l∧(bE p)[k]?=some (l.take (aY p+1))∧LOk t k (aP starts k) (aP goals k) ticks.toNat l A∧A≤aY p:=by
  intro k hk
  have hl : p[k]?=some (p[k]'(by rw [hP.len];exact hk)):=List.getElem?_eq_getElem _
  obtain ⟨A,hA⟩:=hP.lst k _ hl
  refine ⟨_,A,hl,by rw [bE,List.getElem?_map,hl];rfl,hA,?_⟩
  have:=hL2 _ (List.mem_of_getElem? hl)
  rw [hA.arr] at this;exact this
 have hlen : ∀ {l : List Int},l.length=ticks.toNat+1→(l.take (aY p+1)).length=aY p+1:=by
  intro l hl;rw [List.length_take];omega
 have hq : (bE p).length=t.maps.length:=by rw [bE,List.length_map,hP.len]
 obtain ⟨l0,A0,hl0,ht0,hO0,hA0⟩:=get 0 hpos
 have hn0:=hlen hO0.len
 have mov : ∀ {l : List Int} {k tick : Nat},l.length=ticks.toNat+1→tick < aY p→bi (l.take (aY p+1)) k tick=bi l k tick:=by
  intro l k tick hl hti
  rw [dY hl (by omega),dY (hlen hl) hti,List.getElem?_take_of_lt (by omega),List.getElem?_take_of_lt (by omega)]
 refine ⟨?_,hq,_,ht0,by rw [hn0];omega,by rw [hn0];omega,?_⟩
 ·have hss : starts.length=t.maps.length:=by simp only [bL,Bool.and_eq_true,decide_eq_true_eq] at hs;exact hs.1
  have hgg : goals.length=t.maps.length:=by simp only [bL,Bool.and_eq_true,decide_eq_true_eq] at hg;exact hg.1
  have hloc : ∀ {at_ : List Int},bL t at_=true→∀ k,k < t.maps.length→(((aP at_ k : Nat) : Int))=(at_[k]?).getD 0:=by
   intro at_ h k hk
   simp only [bL,Bool.and_eq_true,decide_eq_true_eq,List.all_eq_true,List.mem_range] at h
   have:=h.2 k (by omega)
   rw [aD] at this
   unfold aP;omega
  simp only [mm,ht0,Option.getD_some,hn0,Bool.and_eq_true,decide_eq_true_eq,List.all_eq_true,List.mem_range,hq]
  refine ⟨hchk,hss,hgg,trivial,by omega,by omega,fun k hk=>?_,fun tick htick k hk=>?_⟩
  ·obtain ⟨l,A,h1,h2,h3,h4⟩:=get k hk
   simp only [bn,h2,Option.getD_some,hlen h3.len,decide_true,Bool.true_and,Bool.and_eq_true,beq_iff_eq]
   rw [List.getElem?_take_of_lt (by omega),h3.st,List.getElem?_take_of_lt (by omega),Nat.add_sub_cancel,h3.goal _ h4 hLt,Option.getD_some,Option.getD_some,hloc hs k hk,hloc hg k hk]
   exact ⟨rfl,rfl⟩
  ·have hti : tick < aY p:=by omega
   obtain ⟨l,A,h1,h2,h3,h4⟩:=get k hk
   simp only [aT,h2,Option.getD_some,mov h3.len hti,Bool.and_eq_true,List.all_eq_true,List.mem_range]
   refine ⟨?_,fun i hi=>?_⟩
   ·rw [dY h3.len (by omega)];exact h3.leg tick (by omega)
   ·obtain ⟨l',A',h1',h2',h3',h4'⟩:=get i (by omega)
    rw [h2',Option.getD_some,mov h3'.len hti,hP.ap k i l l' h1 h1' (by omega) tick (by omega)];rfl
 ·rw [hn0,Nat.add_sub_cancel,hlast]
  have : ∀ (l : List (List Int)) (m : Nat),(∀ x ∈ l,aH (x.take (aY p+1))=aH x)→(l.map (List.take (aY p+1))).foldl (fun m l=>max m (aH l)) m=l.foldl (fun m l=>max m (aH l)) m:=by
   intro l
   induction l with
   |nil=>intro m _;rfl
   |cons a l ih=>
    intro m hx
    rw [List.map_cons,List.foldl_cons,List.foldl_cons,hx a (by simp)]
    exact ih _ fun x hx'=>hx x (by simp [hx'])
  unfold bE
  refine this p 1 fun x hx=>?_
  obtain ⟨k,hk⟩:=List.mem_iff_getElem?.1 hx
  obtain ⟨A,hA⟩:=hP.lst k x hk
  have:=hL2 x hx
  rw [hA.arr] at this
  rw [hA.arr,hA.arrT _ this hLt]
end
end Go.Ab
namespace Go.Ab
section
variable {α β : Type}
theorem cd {n : Nat} : ∀ {es : List (Edg α)} {u0 v0 : Int},aJ n u0 v0 es=true→(∀ e ∈ es,fS n e=true∧(u0 < e.u∨(u0=e.u∧v0 < e.v)))∧∀ (i j : Nat) e e',es[i]?=some e→es[j]?=some e'→i < j→e.u < e'.u∨(e.u=e'.u∧e.v < e'.v)
 |[],_,_,_=>⟨by simp,fun i j e e' h=>by simp at h⟩
 |e :: r,u0,v0,h=>by
  simp only [aJ,Bool.and_eq_true,Bool.not_eq_true',Bool.or_eq_false_iff,decide_eq_false_iff_not,Bool.and_eq_false_iff,beq_eq_false_iff_ne] at h
  obtain ⟨h1,⟨h2,h3⟩,h4⟩:=h
  obtain ⟨h5,h6⟩:=cd h4
  have h0 : u0 < e.u∨(u0=e.u∧v0 < e.v):=by
   by_cases e1 : e.u=u0
   ·right;refine ⟨e1.symm,?_⟩
    rcases h3 with h3|h3
    ·exact absurd e1 h3
    ·omega
   ·left;omega
  refine ⟨fun x hx=>?_,fun i j x y hx hy hij=>?_⟩
  ·rcases List.mem_cons.1 hx with rfl|hx
   ·exact ⟨h1,h0⟩
   ·obtain ⟨a,b⟩:=h5 x hx
    exact ⟨a,by omega⟩
  ·cases j with
   |zero=>omega
   |succ j=>
    simp only [List.getElem?_cons_succ] at hy
    cases i with
    |zero=>
     simp only [List.getElem?_cons_zero,Option.some.injEq] at hx
     subst hx
     exact (h5 y (List.mem_of_getElem? hy)).2
    |succ i=>exact h6 i j x y (by simpa using hx) hy (by omega)
end
end Go.Ab
namespace Go.Ab
open Go.Proofs
structure R8 where
 k1 : Int
 k2 : List PV
 k3 : Int
 k4 : Int
 k5 : List PV
 k6 : Int
 k7 : List PV
 k8 : List PV
abbrev av:=Edg R8
abbrev aW:=Rmp R8 PV
abbrev aU:=Tem R8 PV
abbrev qI (e : av) : PV:=.agg [Z e.u,Z e.v,Z e.c,Z e.s,Z e.rest.k1,.sl e.rest.k2,Z e.rest.k3,Z e.rest.k4,.sl e.rest.k5,Z e.rest.k6,.sl e.rest.k7,.sl e.rest.k8]
abbrev dP (es : List av) : PV:=.sl (es.map qI)
abbrev aV (m : aW) : PV:=.agg [.sl m.np,dP m.es]
abbrev bz (m : Mov) : PV:=.val (.agg #[.int .i64 m.a,.int .i64 m.f,.int .i64 m.t])
abbrev ba (c : Mov × Mov) : PV:=.val (.agg #[.int .i64 c.1.a,.int .i64 c.1.f,.int .i64 c.1.t,.int .i64 c.2.a,.int .i64 c.2.f,.int .i64 c.2.t])
abbrev bR (t : aU) : PV:=.agg [.sl (t.maps.map aV),.sl (t.conf.map ba)]
def hU (es : List av) : Prop:=∀ e ∈ es,True
structure TmOk (t : aU) : Prop where
 rest : ∀ m ∈ t.maps,hU m.es
 nl : t.maps.length≤9223372036854775807
 cl : t.conf.length≤9223372036854775807
 pl : ∀ m ∈ t.maps,m.np.length≤9223372036854775807
 el : ∀ m ∈ t.maps,m.es.length≤9223372036854775807
section
variable {α : Type}
def eg (p : α→Bool) (xs : List α) (i : Nat) : Prop:=(xs.take i).any p=false
def fR (p : α→Bool) (xs : List α) (i : Nat) : Prop:=(xs.take i).all p=true
theorem dQ (p : α→Bool) (xs : List α) : eg p xs 0:=by simp [eg]
theorem eD {p : α→Bool} {xs : List α} {i : Nat} (hlt : i < xs.length) (hq : eg p xs i) (h : p xs[i]=false) : eg p xs (i+1):=by
 unfold eg at *;rw [List.take_succ_eq_append_getElem hlt,List.any_append,hq];simp [h]
theorem jR {p : α→Bool} {xs : List α} {i : Nat} (hlt : i < xs.length) (h : p xs[i]=true) : xs.any p=true:=List.any_eq_true.2 ⟨_,List.getElem_mem hlt,h⟩
theorem jS {p : α→Bool} {xs : List α} {i : Nat} (hlt : ¬ i < xs.length) (hq : eg p xs i) : xs.any p=false:=by
 unfold eg at hq;rwa [List.take_of_length_le (by omega)] at hq
theorem fH (p : α→Bool) (xs : List α) : fR p xs 0:=by simp [fR]
theorem gx {p : α→Bool} {xs : List α} {i : Nat} (hlt : i < xs.length) (hq : fR p xs i) (h : p xs[i]=true) : fR p xs (i+1):=by
 unfold fR at *;rw [List.take_succ_eq_append_getElem hlt,List.all_append,hq];simp [h]
theorem gy {p : α→Bool} {xs : List α} {i : Nat} (hlt : i < xs.length) (h : p xs[i]=false) : xs.all p=false:=List.all_eq_false.2 ⟨_,List.getElem_mem hlt,by simp [h]⟩
theorem jy {p : α→Bool} {xs : List α} {i : Nat} (hlt : ¬ i < xs.length) (hq : fR p xs i) : xs.all p=true:=by
 unfold fR at hq;rwa [List.take_of_length_le (by omega)] at hq
end
def fm (u v : Int) (e : av) : Bool:=e.u==u && (e.v==v && e.s==1)
theorem vg (es : List av) (u v : Int) (hr : hU es) (hl : es.length≤9223372036854775807) : am Try.prog 71 [.pv (dP es),.pv (Z u),.pv (Z v)] [] [] (.pv (B (cG es u v))):=by
 refine Dp Try.func71 ?_
 intro C hP hN
 simp only [Try.f71] at hN ⊢
 with_reducible repeat' (first|refine Sp.h ?_|((first|refine Ss.h ?_|(refine Sb.h ?_ ?_ ?_<;>(try intro hgd)<;>try exact Xy))<;>simp -implicitDefEqProofs (maxSteps:=2000000) [hP,hN])|refine X2 ?_ ?_|(refine Xd ?_ ?_<;>intro hcd<;>try exact Xx))
 refine WP.loopN [] es.length (fun i st=>st.t 0=.pv (dP es)∧st.t 1=.pv (Z u)∧st.t 2=.pv (Z v)∧st.t 10=.pv (Z es.length)∧st.t 11=.pv (Z i)∧eg (fm u v) es i) (by simp [dQ]) ?_
 rintro i st hi ⟨g0,g1,g2,g10,g11,hq⟩
 by_cases hlt : i < es.length
 ·have hw:=ak hlt hl
  have hn:=eD hlt hq
  have hh : fm u v es[i]=true→cG es u v=true:=jR hlt
  have hre:=hr _ (List.getElem_mem hlt)
  generalize hx : es[i]=e at *
  have hxi : es[i]?=some e:=by rw [List.getElem?_eq_getElem hlt,hx]
  have hp : fm u v e=(e.u==u && (e.v==v && e.s==1)):=rfl
  rw [hp] at hn hh
  generalize cG es u v=r at *
  with_reducible repeat' (first|refine Sp.h ?_|((first|refine Ss.h ?_|(refine Sb.h ?_ ?_ ?_<;>(try intro hgd)<;>try exact Xy))<;>simp -implicitDefEqProofs (maxSteps:=2000000) [hP,hN,g0,g1,g2,g10,g11,hlt,hw,hx,hxi,hre])|refine X2 ?_ ?_|(refine Xd ?_ ?_<;>intro hcd<;>try exact Xx))
  all_goals first|exact hn (by simp_all)|(rw [hh (by simp_all)];done)
 ·have he : cG es u v=false:=jS hlt hq
  rw [he]
  with_reducible repeat' (first|refine Sp.h ?_|((first|refine Ss.h ?_|(refine Sb.h ?_ ?_ ?_<;>(try intro hgd)<;>try exact Xy))<;>simp -implicitDefEqProofs (maxSteps:=2000000) [hP,hN,g0,g1,g2,g10,g11,hlt])|refine X2 ?_ ?_|(refine Xd ?_ ?_<;>intro hcd<;>try exact Xx))
end Go.Ab
namespace Go.Ab
open Go.Proofs Go.Proofs.Ytkjjgiigiiokoaa
section
variable {H : Type}
theorem jz {t te : TypeId} {d : DataW H} {l : List PV} (hu : Try.prog.underlying t=some (.slice te)) (hf : vf Try.prog t d) (h : bQ d=.sl l) : cZ d=[.sl l]:=by
 obtain ⟨n,hf⟩:=hf
 cases n with
 |zero=>exact hf.elim
 |succ n=>
  simp only [da,hu] at hf
  rcases hf with rfl|⟨es,sp,rfl,_⟩
  ·simp only [bQ] at h;simp [cZ,← h]
  ·simp only [bQ] at h;simp [cZ,← h]
theorem l4 {t te : TypeId} {d : DataW H} (hu : Try.prog.underlying t=some (.slice te)) (hf : vf Try.prog t d) : ∃ l,cZ d=[.sl l]:=by
 have hf':=hf
 obtain ⟨n,hf⟩:=hf
 cases n with
 |zero=>exact hf.elim
 |succ n=>
  simp only [da,hu] at hf
  rcases hf with rfl|⟨es,sp,rfl,_⟩
  ·exact ⟨_,jz hu hf' (by simp only [bQ];rfl)⟩
  ·exact ⟨_,jz hu hf' (by simp only [bQ];rfl)⟩
theorem yR {α : Type} {l : List α} (h : l.length=4) : ∃ a b c d,l=[a,b,c,d]:=by
 match l,h with
 |[a,b,c,d],_=>exact ⟨a,b,c,d,rfl⟩
theorem yS {α : Type} {l : List α} (h : l.length=5) : ∃ a b c d e,l=[a,b,c,d,e]:=by
 match l,h with
 |[a,b,c,d,e],_=>exact ⟨a,b,c,d,e,rfl⟩
theorem yD : lr H Try.prog 67 qI (fun _=>True) (fun _=>0):=by
 intro d h
 obtain ⟨ds,rfl,h1,h2⟩:=cN Try.underlying67 h
 obtain ⟨a0,a1,a2,a3,a4,rfl⟩:=yS h1
 obtain ⟨u,rfl,_⟩:=cD (H:=H) Try.underlying3 (h2 0 _ _ rfl rfl)
 obtain ⟨v,rfl,_⟩:=cD (H:=H) Try.underlying3 (h2 1 _ _ rfl rfl)
 obtain ⟨c,rfl,_⟩:=cD (H:=H) Try.underlying2 (h2 2 _ _ rfl rfl)
 obtain ⟨s,rfl,_⟩:=cD (H:=H) Try.underlying3 (h2 3 _ _ rfl rfl)
 have g4 : vf Try.prog 64 a4:=h2 4 _ _ rfl rfl
 obtain ⟨es,rfl,w1,w2⟩:=cN Try.underlying64 g4
 obtain ⟨b0,b1,b2,b3,rfl⟩:=yR w1
 obtain ⟨k1,rfl,_⟩:=cD (H:=H) Try.underlying3 (w2 0 _ _ rfl rfl)
 obtain ⟨k2,e2⟩:=l4 (H:=H) Try.underlying57 (show vf Try.prog 57 b1 from w2 1 _ _ rfl rfl)
 obtain ⟨ps,rfl,p1,p2⟩:=cN Try.underlying60 (show vf Try.prog 60 b2 from w2 2 _ _ rfl rfl)
 obtain ⟨q0,q1,q2,rfl⟩:=qH p1
 obtain ⟨k3,rfl,_⟩:=cD (H:=H) Try.underlying3 (p2 0 _ _ rfl rfl)
 obtain ⟨k4,rfl,_⟩:=cD (H:=H) Try.underlying2 (p2 1 _ _ rfl rfl)
 obtain ⟨k5,e5⟩:=l4 (H:=H) Try.underlying58 (show vf Try.prog 58 q2 from p2 2 _ _ rfl rfl)
 obtain ⟨ws,rfl,y1,y2⟩:=cN Try.underlying62 (show vf Try.prog 62 b3 from w2 3 _ _ rfl rfl)
 obtain ⟨z0,z1,z2,rfl⟩:=qH y1
 obtain ⟨k6,rfl,_⟩:=cD (H:=H) Try.underlying3 (y2 0 _ _ rfl rfl)
 obtain ⟨k7,e7⟩:=l4 (H:=H) Try.underlying56 (show vf Try.prog 56 z1 from y2 1 _ _ rfl rfl)
 obtain ⟨k8,e8⟩:=l4 (H:=H) Try.underlying56 (show vf Try.prog 56 z2 from y2 2 _ _ rfl rfl)
 exact ⟨⟨u,v,c,s,⟨k1,k2,k3,k4,k5,k6,k7,k8⟩⟩,by simp [bQ,oX,cZ,e2,e5,e7,e8,dm,bg],trivial,Nat.zero_le _⟩
theorem yP : lr H Try.prog 48 aV (fun m=>m.np.length≤9223372036854775807∧m.es.length≤9223372036854775807) (fun _=>0):=by
 intro d h
 obtain ⟨ds,rfl,h1,h2⟩:=cN Try.underlying48 h
 obtain ⟨a0,a1,rfl⟩:=yj h1
 have g0 : vf Try.prog 45 a0:=h2 0 _ _ rfl rfl
 have g1 : vf Try.prog 46 a1:=h2 1 _ _ rfl rfl
 obtain ⟨ls,e1,q1,_⟩:=oM (H:=H) Try.underlying45 tJ a0 g0
 obtain ⟨es,e2,q2,_⟩:=oM (H:=H) Try.underlying46 yD a1 g1
 have c1:=jz Try.underlying45 g0 e1
 have c2:=jz Try.underlying46 g1 e2
 exact ⟨⟨_,es⟩,by simp [bQ,oX,cZ,c1,c2,dm,bg];rfl,⟨by simp;exact q1.1,q2.1⟩,Nat.zero_le _⟩
theorem yE : lr H Try.prog 72 ba (fun _=>True) (fun _=>0):=by
 intro d h
 obtain ⟨ds,rfl,h1,h2⟩:=cN Try.underlying72 h
 obtain ⟨a0,a1,rfl⟩:=yj h1
 obtain ⟨xs,rfl,w1,w2⟩:=cN Try.underlying69 (show vf Try.prog 69 a0 from h2 0 _ _ rfl rfl)
 obtain ⟨b0,b1,b2,rfl⟩:=qH w1
 obtain ⟨x0,rfl,_⟩:=cD (H:=H) Try.underlying3 (w2 0 _ _ rfl rfl)
 obtain ⟨x1,rfl,_⟩:=cD (H:=H) Try.underlying3 (w2 1 _ _ rfl rfl)
 obtain ⟨x2,rfl,_⟩:=cD (H:=H) Try.underlying3 (w2 2 _ _ rfl rfl)
 obtain ⟨ys,rfl,y1,y2⟩:=cN Try.underlying69 (show vf Try.prog 69 a1 from h2 1 _ _ rfl rfl)
 obtain ⟨c0,c1,c2,rfl⟩:=qH y1
 obtain ⟨z0,rfl,_⟩:=cD (H:=H) Try.underlying3 (y2 0 _ _ rfl rfl)
 obtain ⟨z1,rfl,_⟩:=cD (H:=H) Try.underlying3 (y2 1 _ _ rfl rfl)
 obtain ⟨z2,rfl,_⟩:=cD (H:=H) Try.underlying3 (y2 2 _ _ rfl rfl)
 exact ⟨(⟨x0,x1,x2⟩,⟨z0,z1,z2⟩),by simp [bQ,oX,cZ,dm,bg],trivial,Nat.zero_le _⟩
theorem qG : lr H Try.prog 25 bR TmOk (fun _=>0):=by
 intro d h
 obtain ⟨ds,rfl,h1,h2⟩:=cN Try.underlying25 h
 obtain ⟨a0,a1,rfl⟩:=yj h1
 have g0 : vf Try.prog 22 a0:=h2 0 _ _ rfl rfl
 have g1 : vf Try.prog 23 a1:=h2 1 _ _ rfl rfl
 obtain ⟨ms,e1,q1,_⟩:=oM (H:=H) Try.underlying22 yP a0 g0
 obtain ⟨cs,e2,q2,_⟩:=oM (H:=H) Try.underlying23 yE a1 g1
 have c1:=jz Try.underlying22 g0 e1
 have c2:=jz Try.underlying23 g1 e2
 exact ⟨⟨ms,cs⟩,by simp [bQ,oX,cZ,c1,c2,dm,bg],⟨fun _ _ _ _=>trivial,q1.1,q2.1,fun m hm=>(q1.2 m hm).1,fun m hm=>(q1.2 m hm).2⟩,Nat.zero_le _⟩
theorem yF : lr H Try.prog 27 (fun ls : List (List Int)=>.sl (ls.map zs)) (fun ls=>ls.length≤9223372036854775807∧∀ l ∈ ls,l.length≤9223372036854775807) (fun _=>0):=by
 intro d h
 obtain ⟨ls,e1,q1,_⟩:=oM (H:=H) Try.underlying27 cM d h
 exact ⟨ls,e1,⟨q1.1,fun l hl=>(q1.2 l hl).1⟩,Nat.zero_le _⟩
end
end Go.Ab
namespace Go.Ab
open Go.Proofs
abbrev uB : PV:=.agg [Z 0,Z 0,.sl []]
def rD : R8:=⟨1,[uB],0,0,[],0,[],[]⟩
def kE (u v : Nat) (c : Int) : av:=⟨u,v,c,1,rD⟩
def eS (l : List Int) (u v : Nat) (s : Nat × List av) : Nat × List av:=if 0 < nx l s.1 3 then (nn l (nn l s.1),s.2++[kE u v (1+nx l (nn l s.1) 4)]) else (nn l s.1,s.2)
def eV (l : List Int) (u : Nat) (s : Nat × List av) : Nat→Nat × List av
 |0=>s
 |j+1=>eS l u (u+1+j) (eV l u s j)
def eU (l : List Int) (k : Nat) (s : Nat × List av) : Nat→Nat × List av
 |0=>s
 |u+1=>eV l u (eU l k s u) (k - (u+1))
def mK (l : List Int) (n : Nat) : Nat:=(2+nx l n 3).toNat
def jr (k : Nat) : List PV:=(List.range k).map fun i=>zs [((i : Nat) : Int)]
def mM (l : List Int) (n : Nat) : Nat × aW:=((eU l (mK l n) (nn l n,[]) (mK l n)).1,⟨jr (mK l n),(eU l (mK l n) (nn l n,[]) (mK l n)).2⟩)
def bX (l : List Int) : Nat→Nat × List aW
 |0=>(nn l 0,[])
 |i+1=>((mM l (bX l i).1).1,(bX l i).2++[(mM l (bX l i).1).2])
def tN (l : List Int) : Nat:=(1+nx l 0 3).toNat
def en (l : List Int) (n : Nat) (m : aW) (a : Int) : Nat × Mov:=
 if m.es.length=0 then (nn l n,⟨a,nx l n m.np.length,nx l n m.np.length⟩)
 else if nx l n 2=0 then (nn l (nn l n),⟨a,nx l (nn l n) m.np.length,nx l (nn l n) m.np.length⟩)
 else match m.es[(nx l (nn l n) m.es.length).toNat]? with
  |some e=>if nx l (nn l (nn l n)) 2=0 then (nn l (nn l (nn l n)),⟨a,e.v,e.u⟩) else (nn l (nn l (nn l n)),⟨a,e.u,e.v⟩)
  |none=>(n,⟨a,0,0⟩)
def eE (ms : List aW) (a : Int) : aW:=(ms[a.toNat]?).getD ⟨[],[]⟩
def cA (l : List Int) (ms : List aW) (n : Nat) : Int:=nx l n ms.length
def cB (l : List Int) (ms : List aW) (n : Nat) : Int:=(cA l ms n+1+nx l (nn l n) ((ms.length : Int) - 1)).tmod ms.length
def cS (l : List Int) (ms : List aW) (s : Nat × List (Mov × Mov)) : Nat × List (Mov × Mov):=
 ((en l (en l (nn l (nn l s.1)) (eE ms (cA l ms s.1)) (cA l ms s.1)).1 (eE ms (cB l ms s.1)) (cB l ms s.1)).1,
  s.2++[((en l (nn l (nn l s.1)) (eE ms (cA l ms s.1)) (cA l ms s.1)).2,(en l (en l (nn l (nn l s.1)) (eE ms (cA l ms s.1)) (cA l ms s.1)).1 (eE ms (cB l ms s.1)) (cB l ms s.1)).2)])
def dw (l : List Int) (ms : List aW) (n : Nat) : Nat→Nat × List (Mov × Mov)
 |0=>(n,[])
 |i+1=>cS l ms (dw l ms n i)
def og (l : List Int) : List aW:=(bX l (tN l)).2
def tC (l : List Int) : Nat:=if 1 < (og l).length then (nx l (bX l (tN l)).1 12).toNat else 0
def cy (l : List Int) : aU:=⟨og l,(dw l (og l) (nn l (bX l (tN l)).1) (tC l)).2⟩
theorem ua (l : List Int) (u v : Nat) (s : Nat × List av) : (eS l u v s).1≤s.1+2∧(eS l u v s).2.length≤s.2.length+1:=by
 have h1:=cY l s.1
 have h2:=cY l (nn l s.1)
 unfold eS;split
 ·simp only [List.length_append,List.length_cons,List.length_nil];omega
 ·simp only;omega
theorem pV (l : List Int) (u : Nat) (s : Nat × List av) : ∀ j,(eV l u s j).1≤s.1+2 * j∧(eV l u s j).2.length≤s.2.length+j
 |0=>by simp [eV]
 |j+1=>by
  have h1:=pV l u s j
  have h2:=ua l u (u+1+j) (eV l u s j)
  simp only [eV];omega
theorem pW (l : List Int) (k : Nat) (s : Nat × List av) : ∀ u,(eU l k s u).1≤s.1+2 * (k * u)∧(eU l k s u).2.length≤s.2.length+k * u
 |0=>by simp [eU]
 |u+1=>by
  have h1:=pW l k s u
  have h2:=pV l u (eU l k s u) (k - (u+1))
  simp only [eU,Nat.mul_add,Nat.mul_one] at *
  omega
theorem ic (l : List Int) (n : Nat) : 2≤mK l n∧mK l n≤4∧((mK l n : Nat) : Int)=2+nx l n 3:=by
 have hx:=bq l n (k:=3) (by decide) (by decide)
 unfold mK;omega
theorem j0 (l : List Int) (n : Nat) : (mM l n).1≤n+33∧(mM l n).2.es.length≤16∧(mM l n).2.np.length=mK l n:=by
 have h1:=cY l n
 have h2:=ic l n
 have h3:=pW l (mK l n) (nn l n,[]) (mK l n)
 have h4 : mK l n * mK l n≤4 * 4:=Nat.mul_le_mul (by omega) (by omega)
 simp only [mM,List.length_nil,jr,List.length_map,List.length_range] at *
 refine ⟨by omega,by omega,trivial⟩
theorem oh (l : List Int) : ∀ i,(bX l i).1≤1+33 * i∧(bX l i).2.length=i
 |0=>by have:=cY l 0;simp only [bX,List.length_nil];exact ⟨by omega,trivial⟩
 |i+1=>by
  have h1:=oh l i
  have h2:=j0 l (bX l i).1
  simp only [bX,List.length_append,List.length_cons,List.length_nil];omega
theorem ie (l : List Int) {p : aW→Prop} (hp : ∀ n,p (mM l n).2) : ∀ i,∀ m ∈ (bX l i).2,p m
 |0=>by simp [bX]
 |i+1=>by
  intro m hm
  simp only [bX,List.mem_append,List.mem_singleton] at hm
  rcases hm with hm|rfl
  ·exact ie l hp i m hm
  ·exact hp _
theorem ig (l : List Int) : 1≤tN l∧tN l≤3∧((tN l : Nat) : Int)=1+nx l 0 3:=by
 have hx:=bq l 0 (k:=3) (by decide) (by decide)
 unfold tN;omega
theorem ii (l : List Int) : (og l).length=tN l:=(oh l (tN l)).2
theorem ub (l : List Int) : tC l < 12:=by
 have hx:=bq l (bX l (tN l)).1 (k:=12) (by decide) (by decide)
 unfold tC;split<;>omega
theorem om (l : List Int) (n : Nat) (m : aW) (a : Int) : (en l n m a).1≤n+3:=by
 have h1:=cY l n
 have h2:=cY l (nn l n)
 have h3:=cY l (nn l (nn l n))
 unfold en
 split
 ·simp only;omega
 ·split
  ·simp only;omega
  ·split
   ·split<;>(simp only;omega)
   ·simp only;omega
theorem oo (l : List Int) (ms : List aW) (n : Nat) : ∀ i,(dw l ms n i).1≤n+8 * i∧(dw l ms n i).2.length=i
 |0=>by simp [dw]
 |i+1=>by
  have h:=oo l ms n i
  have h1:=cY l (dw l ms n i).1
  have h2:=cY l (nn l (dw l ms n i).1)
  have h3:=om l (nn l (nn l (dw l ms n i).1)) (eE ms (cA l ms (dw l ms n i).1)) (cA l ms (dw l ms n i).1)
  have h4:=om l (en l (nn l (nn l (dw l ms n i).1)) (eE ms (cA l ms (dw l ms n i).1)) (cA l ms (dw l ms n i).1)).1 (eE ms (cB l ms (dw l ms n i).1)) (cB l ms (dw l ms n i).1)
  simp only [dw,cS,List.length_append,List.length_cons,List.length_nil];omega
theorem p6 {n : Nat} {e : av} : ∀ {es : List av} {u0 v0 : Int},aJ n u0 v0 es=true→fS n e=true→(∀ x ∈ es,x.u < e.u∨(x.u=e.u∧x.v < e.v))→(u0 < e.u∨(u0=e.u∧v0 < e.v))→aJ n u0 v0 (es++[e])=true
 |[],u0,v0,_,he,_,h0=>by
  simp only [List.nil_append,aJ,he,Bool.true_and,Bool.and_true,Bool.not_eq_true',Bool.or_eq_false_iff,decide_eq_false_iff_not,Bool.and_eq_false_iff,beq_eq_false_iff_ne,ne_eq]
  rcases h0 with h|⟨h1,h2⟩<;>refine ⟨by omega,?_⟩<;>omega
 |a :: r,u0,v0,hw,he,hx,h0=>by
  simp only [aJ,Bool.and_eq_true] at hw
  simp only [List.cons_append,aJ,Bool.and_eq_true]
  exact ⟨hw.1,hw.2.1,p6 hw.2.2 he (fun x h=>hx x (by simp [h])) (hx a (by simp))⟩
def eI (k u v : Nat) (es : List av) : Prop:=aJ k (-1) (-1) es=true∧∀ x ∈ es,x.u < u∨(x.u=u∧x.v < v)
theorem uR {l : List Int} {k u v : Nat} {s : Nat × List av} (h : eI k u v s.2) (hu : u < v) (hv : v < k) : eI k u (v+1) (eS l u v s).2:=by
 unfold eS
 split
 ·have hx:=bq l (nn l s.1) (k:=4) (by decide) (by decide)
  refine ⟨p6 h.1 ?_ h.2 (.inl (by simp only [kE];omega)),?_⟩
  ·simp only [fS,kE,Bool.and_eq_true,decide_eq_true_eq];exact ⟨decide_eq_true (by omega),decide_eq_true (by omega),decide_eq_true (by omega),decide_eq_true (by omega),decide_eq_true (by omega)⟩
  ·intro x hx'
   rcases List.mem_append.1 hx' with h1|h1
   ·have:=h.2 x h1;omega
   ·rw [List.mem_singleton] at h1;subst h1;simp only [kE];exact .inr ⟨trivial,by omega⟩
 ·exact ⟨h.1,fun x hx=>by have:=h.2 x hx;omega⟩
theorem tP {l : List Int} {k u : Nat} {s : Nat × List av} (h : eI k u (u+1) s.2) : ∀ {j : Nat},u+1+j≤k→eI k u (u+1+j) (eV l u s j).2
 |0,_=>h
 |j+1,hj=>by
  have h9:=uR (l:=l) (tP (l:=l) h (j:=j) (by omega)) (by omega) (by omega)
  rwa [show u+1+j+1=u+1+(j+1) from by omega] at h9
theorem tQ {l : List Int} {k : Nat} {s : Nat × List av} (h : eI k 0 0 s.2) : ∀ {u : Nat},u≤k→eI k u 0 (eU l k s u).2
 |0,_=>h
 |u+1,hu=>by
  have h1:=tQ (l:=l) h (u:=u) (by omega)
  have h2 : eI k u (u+1) (eU l k s u).2:=⟨h1.1,fun x hx=>by have:=h1.2 x hx;omega⟩
  have h3:=tP (l:=l) h2 (j:=k - (u+1)) (by omega)
  exact ⟨h3.1,fun x hx=>by have:=h3.2 x hx;omega⟩
theorem sS (l : List Int) (n : Nat) : aS (mM l n).2=true:=by
 have h1:=j0 l n
 have h2:=ic l n
 have h3:=(tQ (l:=l) (k:=mK l n) (s:=(nn l n,[])) ⟨rfl,by simp⟩ (Nat.le_refl _)).1
 simp only [aS,Bool.and_eq_true,decide_eq_true_eq]
 rw [h1.2.2]
 exact ⟨by omega,by omega,h3⟩
theorem qN (l : List Int) : TmOk (cy l):=by
 have h1:=ig l
 have h2:=ii l
 have h3:=ub l
 have h4:=(oo l (og l) (nn l (bX l (tN l)).1) (tC l)).2
 refine ⟨fun _ _ _ _=>trivial,?_,?_,?_,?_⟩
 ·simp only [cy];omega
 ·simp only [cy];omega
 ·intro m hm
  have:=ie l (p:=fun m=>m.np.length≤4) (fun n=>by have:=j0 l n;have:=ic l n;omega) (tN l) m hm
  omega
 ·intro m hm
  have:=ie l (p:=fun m=>m.es.length≤16) (fun n=>(j0 l n).2.1) (tN l) m hm
  omega
theorem oq (l : List Int) : ∀ m ∈ (cy l).maps,2≤m.np.length∧m.np.length≤4∧aS m=true∧m.es.length≤16:=by
 intro m hm
 exact ie l (p:=fun m=>2≤m.np.length∧m.np.length≤4∧aS m=true∧m.es.length≤16) (fun n=>by have:=j0 l n;have:=ic l n;exact ⟨by omega,by omega,sS l n,by omega⟩) (tN l) m hm
def bt (l : List Int) : Nat→Nat
 |0=>0
 |k+1=>nn l (bt l k)
theorem qO (l : List Int) (k : Nat) : bt l k≤k:=by
 induction k with
 |zero=>exact Nat.le_refl _
 |succ k ih=>have:=cY l (bt l k);simp only [bt];omega
def ed (ms : List aW) (l : List Int) (n : Nat) : List Int:=(List.range n).map fun k=>nx l (bt l k) (eE ms (k : Nat)).np.length
theorem gb (ms : List aW) (l : List Int) (n : Nat) : (ed ms l n).length=n:=by simp [ed]
theorem rG (ms : List aW) (l : List Int) (n : Nat) : ed ms l (n+1)=ed ms l n++[nx l (bt l n) (eE ms (n : Nat)).np.length]:=by simp [ed,List.range_succ]
def aQ (l : List Int) : Nat→List Int
 |0=>[]
 |i+1=>((aQ l i++[(i : Int)]).set i (((aQ l i++[(i : Int)])[(nx l (bt l i) ((i : Int)+1)).toNat]?).getD 0)).set (nx l (bt l i) ((i : Int)+1)).toNat i
theorem gC (l : List Int) : ∀ n,(aQ l n).length=n
 |0=>rfl
 |n+1=>by simp [aQ,gC l n]
end Go.Ab
namespace Go.Ab
open Go.Proofs
def fc (u v : Int) (e : av) : Bool:=decide (u < e.u) || (e.u==u && decide (v≤e.v))
abbrev tx (es : List av) (u v : Int) : List PV:=[.rptr (dP es) 0,.rptr (Z u) 0,.rptr (Z v) 0]
theorem vq (es : List av) (u v : Int) (hr : hU es) (i : Nat) (e : av) (hi : es[i]?=some e) : am Try.prog 63 [.pv (Z i),.pv (.rptr (dP es) 0),.pv (.rptr (Z u) 0),.pv (.rptr (Z v) 0)] [] [] (.pv (B (fc u v e))):=by
 have hlt:=(List.getElem?_eq_some_iff.1 hi).1
 have hx:=(List.getElem?_eq_some_iff.1 hi).2
 have hre:=hr _ (List.mem_of_getElem? hi)
 have hp : fc u v e=(decide (u < e.u) || (e.u==u && decide (v≤e.v))):=rfl
 rw [hp]
 refine Dp Try.func63 ?_
 intro C hP hN
 simp only [Try.f63] at hN ⊢
 with_reducible repeat' (first|refine Sp.h ?_|((first|refine Wd ?_|refine Ss.h ?_|(refine Sb.h ?_ ?_ ?_<;>(try intro hgd)<;>try exact Xy))<;>simp -implicitDefEqProofs (maxSteps:=2000000) [hP,hN,hi,hlt,hx,hre]<;>try refine Ya ?_)|refine X2 ?_ ?_|(refine Xd ?_ ?_<;>intro hcd<;>try exact Xx))
 all_goals simp_all
theorem vr (es : List av) (u v : Int) (k : Nat) (hr : hU es) (hn : es.length≤4611686018427387904) (hk : k≤es.length) (h1 : ∀ q e,q < k→es[q]?=some e→fc u v e=false) (h2 : ∀ q e,k≤q→es[q]?=some e→fc u v e=true) : am Try.prog 62 [.pv (Z es.length),.pv (.fn (.func 63) [] (tx es u v))] [] [] (.pv (Z k)):=by
 refine Dp Try.func62 ?_
 intro C hP hN
 simp only [Try.f62] at hN ⊢
 with_reducible repeat' (first|refine Sp.h ?_|((first|refine Ss.h ?_|(refine Sb.h ?_ ?_ ?_<;>(try intro hgd)<;>try exact Xy))<;>simp -implicitDefEqProofs (maxSteps:=2000000) [hP,hN])|refine X2 ?_ ?_|(refine Xd ?_ ?_<;>intro hcd<;>try exact Xx))
 refine WP.loop [] (fun st=>∃ i j : Nat,i≤k∧k≤j∧j≤es.length∧st.t 1=.pv (.fn (.func 63) [] (tx es u v))∧st.t 5=.pv (Z i)∧st.t 6=.pv (Z j)) (fun st=>match st.t 5,st.t 6 with|.pv (.val (.int _ a)),.pv (.val (.int _ b))=>(b - a).toNat|_,_=>0) (by exact ⟨0,es.length,by simp [hk]⟩) ?_
 rintro st ⟨i,j,hi,hj,hjn,g1,g5,g6⟩
 by_cases hlt : i < j
 ·have w1 : IntKind.i64.wrap ((i : Int)+j)=(i : Int)+j:=bP
  have w2 : IntKind.u64.wrap ((i : Int)+j)=(i : Int)+j:=by rw [IntKind.wrap_u64];omega
  have w3 : (((i : Int)+j).fdiv (2 ^ min 1 IntKind.u64.bits))=(((i+j) / 2 : Nat) : Int):=by rw [show min 1 IntKind.u64.bits=1 from rfl,Int.fdiv_eq_ediv_of_nonneg _ (by decide)];omega
  have w4 : IntKind.i64.wrap ((((i+j) / 2 : Nat) : Int))=(((i+j) / 2 : Nat) : Int):=bP
  have w5 : IntKind.i64.wrap ((((i+j) / 2 : Nat) : Int)+1)=((((i+j) / 2+1 : Nat)) : Int):=by rw [IntKind.wrap_i64];omega
  have hm0 : i≤(i+j) / 2∧(i+j) / 2 < j:=by omega
  generalize (i+j) / 2=m at *
  have hme : es[m]?=some es[m]:=List.getElem?_eq_getElem (by omega)
  have cm:=vq es u v hr m _ hme
  have hp1 : fc u v es[m]=true→k≤m:=by
   intro h
   rcases Nat.lt_or_ge m k with h3|h3
   ·rw [h1 m _ h3 hme] at h;cases h
   ·exact h3
  have hp2 : fc u v es[m]=false→m < k:=by
   intro h
   rcases Nat.lt_or_ge m k with h3|h3
   ·exact h3
   ·rw [h2 m _ h3 hme] at h;cases h
  cases hpm : fc u v es[m] with
  |true=>
   rw [hpm] at cm
   have h9:=hp1 hpm
   with_reducible repeat' (first|refine Sp.h ?_|((first|refine Ss.h ?_|refine Sc.h (cm) ?_|(refine Sb.h ?_ ?_ ?_<;>(try intro hgd)<;>try exact Xy))<;>simp -implicitDefEqProofs (maxSteps:=2000000) [hP,hN,g1,g5,g6,hlt,w1,w2,w3,w4,w5])|refine X2 ?_ ?_|(refine Xd ?_ ?_<;>intro hcd<;>try exact Xx))
   all_goals exact ⟨⟨i,hi,m,h9,by omega,rfl,rfl⟩,by omega⟩
  |false=>
   rw [hpm] at cm
   have h9:=hp2 hpm
   with_reducible repeat' (first|refine Sp.h ?_|((first|refine Ss.h ?_|refine Sc.h (cm) ?_|(refine Sb.h ?_ ?_ ?_<;>(try intro hgd)<;>try exact Xy))<;>simp -implicitDefEqProofs (maxSteps:=2000000) [hP,hN,g1,g5,g6,hlt,w1,w2,w3,w4,w5])|refine X2 ?_ ?_|(refine Xd ?_ ?_<;>intro hcd<;>try exact Xx))
   all_goals exact ⟨⟨m+1,by omega,j,hj,hjn,by omega,rfl⟩,by omega⟩
 ·have : i=k:=by omega
  subst this
  with_reducible repeat' (first|refine Sp.h ?_|((first|refine Ss.h ?_|(refine Sb.h ?_ ?_ ?_<;>(try intro hgd)<;>try exact Xy))<;>simp -implicitDefEqProofs (maxSteps:=2000000) [hP,hN,g1,g5,g6,hlt])|refine X2 ?_ ?_|(refine Xd ?_ ?_<;>intro hcd<;>try exact Xx))
theorem rp {es : List av} {n : Nat} {u0 v0 u v : Int} (hw : aJ n u0 v0 es=true) {i j : Nat} {e e' : av} (hi : es[i]?=some e) (hj : es[j]?=some e') (hij : i≤j) (h : fc u v e=true) : fc u v e'=true:=by
 by_cases e9 : i=j
 ·subst e9;rw [hi] at hj;injection hj with hj;subst hj;exact h
 ·have:=(cd hw).2 i j e e' hi hj (by omega)
  simp only [fc,Bool.or_eq_true,Bool.and_eq_true,decide_eq_true_eq,beq_iff_eq] at h ⊢
  omega
theorem tz {es : List av} {n : Nat} {u0 v0 u v : Int} (hw : aJ n u0 v0 es=true) {k : Nat} (h1 : ∀ q e,q < k→es[q]?=some e→fc u v e=false) (h2 : ∀ q e,k≤q→es[q]?=some e→fc u v e=true) :
 (∀ e,es[k]?=some e→cG es u v=fm u v e)∧(es[k]?=none→cG es u v=false):=by
 have ge : ∀ e,fm u v e=true→fc u v e=true:=by
  intro e h
  simp only [fm,Bool.and_eq_true,beq_iff_eq] at h
  simp only [fc,h.1,h.2.1,beq_self_eq_true,Bool.true_and,Bool.or_eq_true,decide_eq_true_eq]
  right;omega
 refine ⟨fun e he=>?_,fun he=>?_⟩
 ·rw [Bool.eq_iff_iff]
  constructor
  ·intro h
   obtain ⟨x,hx,hp⟩:=List.any_eq_true.1 (show es.any (fm u v)=true from h)
   obtain ⟨q,hq⟩:=List.mem_iff_getElem?.1 hx
   rcases Nat.lt_trichotomy q k with h3|h3|h3
   ·have:=h1 q x h3 hq;rw [ge x hp] at this;cases this
   ·subst h3;rw [he] at hq;injection hq with hq;subst hq;exact hp
   ·have hg:=h2 k e (Nat.le_refl _) he
    have:=(cd hw).2 k q e x he hq h3
    simp only [fm,Bool.and_eq_true,beq_iff_eq] at hp
    simp only [fc,Bool.or_eq_true,Bool.and_eq_true,decide_eq_true_eq,beq_iff_eq] at hg
    omega
  ·intro h;exact List.any_eq_true.2 ⟨e,List.mem_of_getElem? he,h⟩
 ·cases hb : cG es u v with
  |false=>rfl
  |true=>
   obtain ⟨x,hx,hp⟩:=List.any_eq_true.1 (show es.any (fm u v)=true from hb)
   obtain ⟨q,hq⟩:=List.mem_iff_getElem?.1 hx
   have hlt:=(List.getElem?_eq_some_iff.1 hq).1
   have:=List.getElem?_eq_none_iff.1 he
   have:=h1 q x (by omega) hq
   rw [ge x hp] at this;cases this
theorem qC {es : List av} {n : Nat} {u0 v0 : Int} (hw : aJ n u0 v0 es=true) (u v : Int) : ∃ k,k≤es.length∧(∀ q e,q < k→es[q]?=some e→fc u v e=false)∧∀ q e,k≤q→es[q]?=some e→fc u v e=true:=by
 refine ⟨es.findIdx (fc u v),List.findIdx_le_length,fun q e hq he=>?_,fun q e hq he=>?_⟩
 ·have:=List.not_of_lt_findIdx hq
  have h:=(List.getElem?_eq_some_iff.1 he).2
  simpa [h] using this
 ·have hlt:=(List.getElem?_eq_some_iff.1 he).1
  have hk : es.findIdx (fc u v) < es.length:=by omega
  exact rp hw (List.getElem?_eq_getElem hk) he hq List.findIdx_getElem
theorem vt (es : List av) (n : Nat) (u v : Int) (hr : hU es) (hl : es.length≤8192) (hw : aJ n (-1) (-1) es=true) : am Try.prog 47 [.pv (dP es),.pv (Z u),.pv (Z v)] [] [] (.pv (B (cG es u v))):=by
 obtain ⟨k,hk,h1,h2⟩:=qC hw u v
 have cs:=vr es u v k hr (by omega) hk h1 h2
 obtain ⟨p1,p2⟩:=tz hw h1 h2
 refine Dp Try.func47 ?_
 intro C hP hN
 simp only [Try.f47] at hN ⊢
 by_cases hlt : k < es.length
 ·have hxi : es[k]?=some es[k]:=List.getElem?_eq_getElem hlt
  have hre:=hr _ (List.getElem_mem hlt)
  rw [p1 _ hxi]
  generalize hx : es[k]=e at *
  have hp : fm u v e=(e.u==u && (e.v==v && e.s==1)):=rfl
  rw [hp]
  with_reducible repeat' (first|refine Sp.h ?_|((first|refine Wd ?_|refine Ss.h ?_|refine Sc.h (cs) ?_|(refine Sb.h ?_ ?_ ?_<;>(try intro hgd)<;>try exact Xy))<;>simp -implicitDefEqProofs (maxSteps:=2000000) [hP,hN,hlt,hxi,hx,hre]<;>try refine Ya ?_)|refine X2 ?_ ?_|(refine Xd ?_ ?_<;>intro hcd<;>try exact Xx))
  all_goals simp_all
 ·rw [p2 (List.getElem?_eq_none (by omega))]
  with_reducible repeat' (first|refine Sp.h ?_|((first|refine Wd ?_|refine Ss.h ?_|refine Sc.h (cs) ?_|(refine Sb.h ?_ ?_ ?_<;>(try intro hgd)<;>try exact Xy))<;>simp -implicitDefEqProofs (maxSteps:=2000000) [hP,hN,hlt]<;>try refine Ya ?_)|refine X2 ?_ ?_|(refine Xd ?_ ?_<;>intro hcd<;>try exact Xx))
end Go.Ab
namespace Go.Ab
open Go.Proofs
theorem fJ {t : aU} {k : Nat} {m : aW} (h : t.maps[k]?=some m) : ax t k=m.np.length∧ml t k=m.es:=by simp [ax,ml,h]
theorem me {t : aU} {m : Mov} {x : aW} (h0 : 0≤m.a) (hx : t.maps[m.a.toNat]?=some x) : bm t m=(bC x.np.length m.f && (bC x.np.length m.t && (m.f==m.t || cG x.es (min m.f m.t) (max m.f m.t)))):=by
 have hlt:=(List.getElem?_eq_some_iff.1 hx).1
 obtain ⟨e1,e2⟩:=fJ hx
 have : bC t.maps.length m.a=true:=by rw [aD];omega
 rw [bm,e1,e2,this,Bool.true_and]
theorem kB {t : aU} {m : Mov} (h : ¬ (0≤m.a∧m.a < t.maps.length)) : bm t m=false:=by
 have : bC t.maps.length m.a=false:=by
  cases h9 : bC t.maps.length m.a with
  |false=>rfl
  |true=>exact absurd (aD.1 h9) h
 rw [bm,this,Bool.false_and]
theorem vD (t : aU) (m : Mov) (ht : TmOk t) [Inhabited Nat] : am Try.prog 46 [.pv (bR t),.pv (bz m),.pv (.val (.func (.func 71) #[] #[]))] [] [] (.pv (B (bm t m))):=by
 by_cases ha : 0≤m.a∧m.a < t.maps.length
 ·obtain ⟨ha0,ha1⟩:=ha
  have hlt : m.a.toNat < t.maps.length:=by omega
  have hx : t.maps[m.a.toNat]?=some t.maps[m.a.toNat]:=List.getElem?_eq_getElem hlt
  have hmem:=List.getElem_mem hlt
  have hpl:=ht.pl _ hmem
  have hel:=ht.el _ hmem
  have hre:=ht.rest _ hmem
  have cs:=vg t.maps[m.a.toNat].es (min m.f m.t) (max m.f m.t) hre hel
  rw [me ha0 hx]
  generalize hxx : t.maps[m.a.toNat]=x at *
  have hw1 : ¬ m.a < 0:=by omega
  have hw2 : ¬ (t.maps.length : Int)≤m.a:=by omega
  by_cases hr : bC x.np.length m.f=true∧bC x.np.length m.t=true
  ·obtain ⟨r1,r2⟩:=hr
   rw [r1,r2,Bool.true_and,Bool.true_and]
   rw [aD] at r1 r2
   have r3 : ¬ m.f < 0:=by omega
   have r4 : ¬ (x.np.length : Int)≤m.f:=by omega
   have r5 : ¬ m.t < 0:=by omega
   have r6 : ¬ (x.np.length : Int)≤m.t:=by omega
   generalize cG x.es (min m.f m.t) (max m.f m.t)=q at *
   refine Dp Try.func46 ?_
   intro C hP hN
   simp only [Try.f46] at hN ⊢
   with_reducible repeat' (first|refine Sp.h ?_|((first|refine Wd ?_|refine Ss.h ?_|refine Sc.h (cs) ?_|(refine Sb.h ?_ ?_ ?_<;>(try intro hgd)<;>try exact Xy))<;>simp -implicitDefEqProofs (maxSteps:=2000000) [hP,hN,ha0,ha1,hw1,hw2,hlt,hx,hxx,r3,r4,r5,r6]<;>try refine Ya ?_)|refine X2 ?_ ?_|(refine Xd ?_ ?_<;>intro hcd<;>try exact Xx))
   all_goals simp_all
  ·have hq : (bC x.np.length m.f && (bC x.np.length m.t && (m.f==m.t || cG x.es (min m.f m.t) (max m.f m.t))))=false:=by
    cases h1 : bC x.np.length m.f<;>cases h2 : bC x.np.length m.t<;>simp_all
   rw [hq]
   have hr' : ¬ ((0≤m.f∧m.f < x.np.length)∧(0≤m.t∧m.t < x.np.length)):=by rw [← aD,← aD];exact hr
   clear cs hq hr
   refine Dp Try.func46 ?_
   intro C hP hN
   simp only [Try.f46] at hN ⊢
   with_reducible repeat' (first|refine Sp.h ?_|((first|refine Wd ?_|refine Ss.h ?_|(refine Sb.h ?_ ?_ ?_<;>(try intro hgd)<;>try exact Xy))<;>simp -implicitDefEqProofs (maxSteps:=2000000) [hP,hN,ha0,ha1,hw1,hw2,hlt,hx,hxx]<;>try refine Ya ?_)|refine X2 ?_ ?_|(refine Xd ?_ ?_<;>intro hcd<;>try exact Xx))
   all_goals (exfalso;simp at *;omega)
 ·rw [kB ha]
  refine Dp Try.func46 ?_
  intro C hP hN
  simp only [Try.f46] at hN ⊢
  with_reducible repeat' (first|refine Sp.h ?_|((first|refine Wd ?_|refine Ss.h ?_|(refine Sb.h ?_ ?_ ?_<;>(try intro hgd)<;>try exact Xy))<;>simp -implicitDefEqProofs (maxSteps:=2000000) [hP,hN]<;>try refine Ya ?_)|refine X2 ?_ ?_|(refine Xd ?_ ?_<;>intro hcd<;>try exact Xx))
  all_goals (exfalso;simp at *;omega)
theorem r9 (t : aU) (m : Mov) (ht : TmOk t) (hw : ∀ m ∈ t.maps,aS m=true) : am Try.prog 46 [.pv (bR t),.pv (bz m),.pv (.val (.func (.func 47) #[] #[]))] [] [] (.pv (B (bm t m))):=by
 by_cases ha : 0≤m.a∧m.a < t.maps.length
 ·obtain ⟨ha0,ha1⟩:=ha
  have hlt : m.a.toNat < t.maps.length:=by omega
  have hx : t.maps[m.a.toNat]?=some t.maps[m.a.toNat]:=List.getElem?_eq_getElem hlt
  have hmem:=List.getElem_mem hlt
  have hpl:=ht.pl _ hmem
  have hel:=ht.el _ hmem
  have hre:=ht.rest _ hmem
  obtain ⟨hl9,hw9⟩ : t.maps[m.a.toNat].es.length≤8192∧aJ t.maps[m.a.toNat].np.length (-1) (-1) t.maps[m.a.toNat].es=true:=(by have:=hw _ hmem;simp only [aS,Bool.and_eq_true,decide_eq_true_eq] at this;exact ⟨this.2.1,this.2.2⟩);have cs:=vt t.maps[m.a.toNat].es _ (min m.f m.t) (max m.f m.t) hre hl9 hw9
  rw [me ha0 hx]
  generalize hxx : t.maps[m.a.toNat]=x at *
  have hw1 : ¬ m.a < 0:=by omega
  have hw2 : ¬ (t.maps.length : Int)≤m.a:=by omega
  by_cases hr : bC x.np.length m.f=true∧bC x.np.length m.t=true
  ·obtain ⟨r1,r2⟩:=hr
   rw [r1,r2,Bool.true_and,Bool.true_and]
   rw [aD] at r1 r2
   have r3 : ¬ m.f < 0:=by omega
   have r4 : ¬ (x.np.length : Int)≤m.f:=by omega
   have r5 : ¬ m.t < 0:=by omega
   have r6 : ¬ (x.np.length : Int)≤m.t:=by omega
   generalize cG x.es (min m.f m.t) (max m.f m.t)=q at *
   refine Dp Try.func46 ?_
   intro C hP hN
   simp only [Try.f46] at hN ⊢
   with_reducible repeat' (first|refine Sp.h ?_|((first|refine Wd ?_|refine Ss.h ?_|refine Sc.h (cs) ?_|(refine Sb.h ?_ ?_ ?_<;>(try intro hgd)<;>try exact Xy))<;>simp -implicitDefEqProofs (maxSteps:=2000000) [hP,hN,ha0,ha1,hw1,hw2,hlt,hx,hxx,r3,r4,r5,r6]<;>try refine Ya ?_)|refine X2 ?_ ?_|(refine Xd ?_ ?_<;>intro hcd<;>try exact Xx))
   all_goals simp_all
  ·have hq : (bC x.np.length m.f && (bC x.np.length m.t && (m.f==m.t || cG x.es (min m.f m.t) (max m.f m.t))))=false:=by
    cases h1 : bC x.np.length m.f<;>cases h2 : bC x.np.length m.t<;>simp_all
   rw [hq]
   have hr' : ¬ ((0≤m.f∧m.f < x.np.length)∧(0≤m.t∧m.t < x.np.length)):=by rw [← aD,← aD];exact hr
   clear cs hq hr
   refine Dp Try.func46 ?_
   intro C hP hN
   simp only [Try.f46] at hN ⊢
   with_reducible repeat' (first|refine Sp.h ?_|((first|refine Wd ?_|refine Ss.h ?_|(refine Sb.h ?_ ?_ ?_<;>(try intro hgd)<;>try exact Xy))<;>simp -implicitDefEqProofs (maxSteps:=2000000) [hP,hN,ha0,ha1,hw1,hw2,hlt,hx,hxx]<;>try refine Ya ?_)|refine X2 ?_ ?_|(refine Xd ?_ ?_<;>intro hcd<;>try exact Xx))
   all_goals (exfalso;simp at *;omega)
 ·rw [kB ha]
  refine Dp Try.func46 ?_
  intro C hP hN
  simp only [Try.f46] at hN ⊢
  with_reducible repeat' (first|refine Sp.h ?_|((first|refine Wd ?_|refine Ss.h ?_|(refine Sb.h ?_ ?_ ?_<;>(try intro hgd)<;>try exact Xy))<;>simp -implicitDefEqProofs (maxSteps:=2000000) [hP,hN]<;>try refine Ya ?_)|refine X2 ?_ ?_|(refine Xd ?_ ?_<;>intro hcd<;>try exact Xx))
  all_goals (exfalso;simp at *;omega)
theorem vE (t : aU) (m : Mov) (ht : TmOk t) : am Try.prog 60 [.pv (bR t),.pv (bz m)] [] [] (.pv (B (bm t m))):=by
 have cl:=vD t m ht
 refine Dp Try.func60 ?_
 intro C hP hN
 simp only [Try.f60] at hN ⊢
 with_reducible repeat' (first|refine Sp.h ?_|((first|refine Ss.h ?_|refine Sc.h (cl) ?_|(refine Sb.h ?_ ?_ ?_<;>(try intro hgd)<;>try exact Xy))<;>simp -implicitDefEqProofs (maxSteps:=2000000) [hP,hN])|refine X2 ?_ ?_|(refine Xd ?_ ?_<;>intro hcd<;>try exact Xx))
theorem tK (t : aU) (m : Mov) (ht : TmOk t) : am Try.prog 32 [.pv (bR t),.pv (bz m)] [] [] (.pv (B (bm t m))):=by
 by_cases ha : 0≤m.a∧m.a < t.maps.length
 ·obtain ⟨ha0,ha1⟩:=ha
  have hlt : m.a.toNat < t.maps.length:=by omega
  have hx : t.maps[m.a.toNat]?=some t.maps[m.a.toNat]:=List.getElem?_eq_getElem hlt
  have hmem:=List.getElem_mem hlt
  have hpl:=ht.pl _ hmem
  have hel:=ht.el _ hmem
  have hre:=ht.rest _ hmem
  rw [me ha0 hx]
  generalize hxx : t.maps[m.a.toNat]=x at *
  have hw1 : ¬ m.a < 0:=by omega
  have hw2 : ¬ (t.maps.length : Int)≤m.a:=by omega
  by_cases hr : bC x.np.length m.f=true∧bC x.np.length m.t=true
  ·obtain ⟨r1,r2⟩:=hr
   rw [r1,r2,Bool.true_and,Bool.true_and]
   rw [aD] at r1 r2
   have r3 : ¬ m.f < 0:=by omega
   have r4 : ¬ (x.np.length : Int)≤m.f:=by omega
   have r5 : ¬ m.t < 0:=by omega
   have r6 : ¬ (x.np.length : Int)≤m.t:=by omega
   refine Dp Try.func32 ?_
   intro C hP hN
   simp only [Try.f32] at hN ⊢
   with_reducible repeat' (first|refine Sp.h ?_|((first|refine Wd ?_|refine Ss.h ?_|(refine Sb.h ?_ ?_ ?_<;>(try intro hgd)<;>try exact Xy))<;>simp -implicitDefEqProofs (maxSteps:=2000000) [hP,hN,ha0,ha1,hw1,hw2,hlt,hx,hxx,r3,r4,r5,r6]<;>try refine Ya ?_)|refine X2 ?_ ?_|(refine Xd ?_ ?_<;>intro hcd<;>try exact Xx))
   refine WP.loopN [] x.es.length (fun i st=>st.t 3=.ptr 3 0∧st.h 3=some (.box [.pv (Z m.a),.pv (Z m.f),.pv (Z m.t)] true false)∧st.t 5=.ptr 5 0∧st.h 5=some (.box [.pv (.sl x.np),.pv (dP x.es)] true false)∧st.t 6=.pv (Z i)∧eg (fm (min m.f m.t) (max m.f m.t)) x.es i) (by simp [dQ]) ?_
   rintro i st hi ⟨g3,b3,g5,b5,g6,hq⟩
   by_cases hli : i < x.es.length
   ·have hw:=ak hli hel
    have hn:=eD hli hq
    have hh : fm (min m.f m.t) (max m.f m.t) x.es[i]=true→cG x.es (min m.f m.t) (max m.f m.t)=true:=jR hli
    have hre':=hre _ (List.getElem_mem hli)
    generalize hxe : x.es[i]=e at *
    have hxi : x.es[i]?=some e:=by rw [List.getElem?_eq_getElem hli,hxe]
    have hp : fm (min m.f m.t) (max m.f m.t) e=(e.u==min m.f m.t && (e.v==max m.f m.t && e.s==1)):=rfl
    rw [hp] at hn hh
    generalize cG x.es (min m.f m.t) (max m.f m.t)=r at *
    with_reducible repeat' (first|refine Sp.h ?_|((first|refine Wd ?_|refine Ss.h ?_|(refine Sb.h ?_ ?_ ?_<;>(try intro hgd)<;>try exact Xy))<;>simp -implicitDefEqProofs (maxSteps:=2000000) [hP,hN,g3,b3,g5,b5,g6,hli,hw,hxe,hxi,hre']<;>try refine Ya ?_)|refine X2 ?_ ?_|(refine Xd ?_ ?_<;>intro hcd<;>try exact Xx))
    all_goals first|exact hn (by simp_all)|(rw [hh (by simp_all)];simp;done)|simp_all
   ·have he : cG x.es (min m.f m.t) (max m.f m.t)=false:=jS hli hq
    rw [he]
    with_reducible repeat' (first|refine Sp.h ?_|((first|refine Wd ?_|refine Ss.h ?_|(refine Sb.h ?_ ?_ ?_<;>(try intro hgd)<;>try exact Xy))<;>simp -implicitDefEqProofs (maxSteps:=2000000) [hP,hN,g3,b3,g5,b5,g6,hli]<;>try refine Ya ?_)|refine X2 ?_ ?_|(refine Xd ?_ ?_<;>intro hcd<;>try exact Xx))
    all_goals simp_all
  ·have hq : (bC x.np.length m.f && (bC x.np.length m.t && (m.f==m.t || cG x.es (min m.f m.t) (max m.f m.t))))=false:=by
    cases h1 : bC x.np.length m.f<;>cases h2 : bC x.np.length m.t<;>simp_all
   rw [hq]
   have hr' : ¬ ((0≤m.f∧m.f < x.np.length)∧(0≤m.t∧m.t < x.np.length)):=by rw [← aD,← aD];exact hr
   clear hq hr
   refine Dp Try.func32 ?_
   intro C hP hN
   simp only [Try.f32] at hN ⊢
   with_reducible repeat' (first|refine Sp.h ?_|((first|refine Wd ?_|refine Ss.h ?_|(refine Sb.h ?_ ?_ ?_<;>(try intro hgd)<;>try exact Xy))<;>simp -implicitDefEqProofs (maxSteps:=2000000) [hP,hN,ha0,ha1,hw1,hw2,hlt,hx,hxx]<;>try refine Ya ?_)|refine X2 ?_ ?_|(refine Xd ?_ ?_<;>intro hcd<;>try exact Xx))
   all_goals (exfalso;simp at *;omega)
 ·rw [kB ha]
  refine Dp Try.func32 ?_
  intro C hP hN
  simp only [Try.f32] at hN ⊢
  with_reducible repeat' (first|refine Sp.h ?_|((first|refine Wd ?_|refine Ss.h ?_|(refine Sb.h ?_ ?_ ?_<;>(try intro hgd)<;>try exact Xy))<;>simp -implicitDefEqProofs (maxSteps:=2000000) [hP,hN]<;>try refine Ya ?_)|refine X2 ?_ ?_|(refine Xd ?_ ?_<;>intro hcd<;>try exact Xx))
  all_goals (exfalso;simp at *;omega)
end Go.Ab
namespace Go.Ab
open Go.Proofs
def iY (n : Nat) (uv : Int × Int) (e : av) : Bool:=fS n e && !(decide (e.u < uv.1) || (e.u==uv.1 && decide (e.v≤uv.2)))
def bW (es : List av) (i : Nat) : Int × Int:=match i with
 |0=>(-1,-1)
 |i+1=>match es[i]? with
  |some e=>(e.u,e.v)
  |none=>(-1,-1)
theorem jq (n : Nat) : ∀ (es : List av) (p : Int × Int),aJ n p.1 p.2 es=true↔∀ i e,es[i]?=some e→iY n (match i with|0=>p|i+1=>bW es (i+1)) e=true
 |[],p=>by simp [aJ]
 |a :: r,p=>by
  have ih:=jq n r (a.u,a.v)
  simp only at ih
  rw [aJ,Bool.and_eq_true,Bool.and_eq_true,ih]
  constructor
  ·rintro ⟨h1,h2,h3⟩ i e he
   cases i with
   |zero=>
    simp only [List.getElem?_cons_zero,Option.some.injEq] at he
    subst he
    simp only [iY,Bool.and_eq_true];exact ⟨h1,h2⟩
   |succ i=>
    simp only [List.getElem?_cons_succ] at he
    have:=h3 i e he
    cases i with
    |zero=>simpa [bW] using this
    |succ i=>simpa [bW] using this
  ·intro h
   have h0:=h 0 a rfl
   simp only [iY,Bool.and_eq_true] at h0
   refine ⟨h0.1,h0.2,fun i e he=>?_⟩
   have:=h (i+1) e (by simpa using he)
   cases i with
   |zero=>simpa [bW] using this
   |succ i=>simpa [bW] using this
def lE (n : Nat) (es : List av) (i : Nat) : Prop:=∀ j e,j < i→es[j]?=some e→iY n (bW es j) e=true
theorem pR (n : Nat) (es : List av) : lE n es 0:=fun j e h=>by omega
theorem pS {n : Nat} {es : List av} {i : Nat} {e : av} (h : lE n es i) (he : es[i]?=some e) (hp : iY n (bW es i) e=true) : lE n es (i+1):=by
 intro j x hj hx
 by_cases e9 : j=i
 ·subst e9;rw [he] at hx;injection hx with hx;subst hx;exact hp
 ·exact h j x (by omega) hx
theorem mQ {n : Nat} {es : List av} {i : Nat} (h : lE n es i) (hi : ¬ i < es.length) : aJ n (-1) (-1) es=true:=by
 rw [show aJ n (-1) (-1) es=aJ n ((-1,-1) : Int × Int).1 ((-1,-1) : Int × Int).2 es from rfl,jq]
 intro j e he
 have hj:=(List.getElem?_eq_some_iff.1 he).1
 have:=h j e (by omega) he
 cases j<;>exact this
theorem lF {n : Nat} {es : List av} {i : Nat} {e : av} (he : es[i]?=some e) (hp : iY n (bW es i) e=false) : aJ n (-1) (-1) es=false:=by
 cases hw : aJ n (-1) (-1) es with
 |false=>rfl
 |true=>
  rw [show aJ n (-1) (-1) es=aJ n ((-1,-1) : Int × Int).1 ((-1,-1) : Int × Int).2 es from rfl,jq] at hw
  have:=hw i e he
  have e9 : iY n (bW es i) e=true:=by cases i<;>exact this
  rw [e9] at hp;cases hp
theorem sP (n : Nat) (u v : Int) (e : av) : iY n (u,v) e=(decide (0≤e.u) && (decide (e.u < e.v) && (decide (e.v < n) && (decide (0≤e.c) && decide (e.c≤1099511627776)))) && !(decide (e.u < u) || (e.u==u && decide (e.v≤v)))):=rfl
theorem mR {es : List av} {i : Nat} {e : av} (he : es[i]?=some e) : bW es (i+1)=(e.u,e.v):=by simp [bW,he]
theorem vF (m : aW) (hr : hU m.es) (hn : m.np.length≤9223372036854775807) (hl : m.es.length≤9223372036854775807) : am Try.prog 45 [.pv (aV m)] [] [] (.pv (B (aS m))):=by
 by_cases h0 : m.np.length≤1024∧m.es.length≤8192
 ·have hd : aS m=aJ m.np.length (-1) (-1) m.es:=by simp [aS,h0]
  have w1 : ¬ (1024 : Int) < m.np.length:=by omega
  have w2 : ¬ (8192 : Int) < m.es.length:=by omega
  rw [hd]
  refine Dp Try.func45 ?_
  intro C hP hN
  simp only [Try.f45] at hN ⊢
  with_reducible repeat' (first|refine Sp.h ?_|((first|refine Wd ?_|refine Ss.h ?_|(refine Sb.h ?_ ?_ ?_<;>(try intro hgd)<;>try exact Xy))<;>simp -implicitDefEqProofs (maxSteps:=2000000) [hP,hN,w1,w2]<;>try refine Ya ?_)|refine X2 ?_ ?_|(refine Xd ?_ ?_<;>intro hcd<;>try exact Xx))
  refine WP.loopN [6] m.es.length (fun i st=>st.t 1=.ptr 1 0∧st.h 1=some (.box [.pv (.sl m.np),.pv (dP m.es)] true false)∧st.t 3=.pv (Z (bW m.es i).1)∧st.t 4=.pv (Z (bW m.es i).2)∧st.t 18=.pv (dP m.es)∧st.t 19=.pv (Z m.es.length)∧st.t 20=.pv (Z i)∧st.h 6=none∧lE m.np.length m.es i) (by simp [bW,pR]) ?_
  rintro i st hi ⟨g1,b1,g3,g4,g18,g19,g20,b6,hq⟩
  by_cases hlt : i < m.es.length
  ·have hw:=ak hlt hl
   have hxi : m.es[i]?=some m.es[i]:=List.getElem?_eq_getElem hlt
   generalize hx : m.es[i]=e at *
   have hnx:=pS hq hxi
   have hms:=lF (n:=m.np.length) hxi
   have hbn:=mR hxi
   obtain ⟨⟨u0,v0⟩,hbv⟩ : ∃ p,bW m.es i=p:=⟨_,rfl⟩
   rw [hbv] at g3 g4 hnx hms
   rw [sP] at hnx hms
   generalize aJ m.np.length (-1) (-1) m.es=r at *
   with_reducible repeat' (first|refine Sp.h ?_|((first|refine Wd ?_|refine Ss.h ?_|(refine Sb.h ?_ ?_ ?_<;>(try intro hgd)<;>try exact Xy))<;>simp -implicitDefEqProofs (maxSteps:=2000000) [hP,hN,g1,b1,g3,g4,g18,g19,g20,b6,hlt,hw,hx,hxi]<;>try refine Ya ?_)|refine X2 ?_ ?_|(refine Xd ?_ ?_<;>intro hcd<;>try exact Xx))
   all_goals first|(rw [hms (by simp_all;try omega)];done)|(refine ⟨by rw [hbn],by rw [hbn],hnx (by simp_all;try omega)⟩;done)|skip
  ·have he:=mQ hq hlt
   rw [he]
   with_reducible repeat' (first|refine Sp.h ?_|((first|refine Wd ?_|refine Ss.h ?_|(refine Sb.h ?_ ?_ ?_<;>(try intro hgd)<;>try exact Xy))<;>simp -implicitDefEqProofs (maxSteps:=2000000) [hP,hN,g1,b1,g3,g4,g18,g19,g20,b6,hlt]<;>try refine Ya ?_)|refine X2 ?_ ?_|(refine Xd ?_ ?_<;>intro hcd<;>try exact Xx))
 ·have hd : aS m=false:=by
   cases h : aS m with
   |false=>rfl
   |true=>simp only [aS,Bool.and_eq_true,decide_eq_true_eq] at h;exact absurd ⟨h.1,h.2.1⟩ h0
  rw [hd]
  refine Dp Try.func45 ?_
  intro C hP hN
  simp only [Try.f45] at hN ⊢
  with_reducible repeat' (first|refine Sp.h ?_|((first|refine Wd ?_|refine Ss.h ?_|(refine Sb.h ?_ ?_ ?_<;>(try intro hgd)<;>try exact Xy))<;>simp -implicitDefEqProofs (maxSteps:=2000000) [hP,hN]<;>try refine Ya ?_)|refine X2 ?_ ?_|(refine Xd ?_ ?_<;>intro hcd<;>try exact Xx))
  all_goals (exfalso;simp at *;omega)
end Go.Ab
namespace Go.Ab
open Go.Proofs
section
variable {α : Type}
def dp (p : α→Bool) (xs : List α) : Int:=if xs.any p=true then (xs.findIdx p : Int) else -1
theorem jY {p : α→Bool} {xs : List α} {i : Nat} (hlt : i < xs.length) (hq : eg p xs i) (h : p xs[i]=true) : dp p xs=i:=by
 unfold dp
 rw [if_pos (jR hlt h)]
 have : xs.findIdx p=i:=(List.findIdx_eq hlt).2 ⟨h,fun j hj=>by
  have h9:=List.any_eq_false.1 hq xs[j] (by rw [List.mem_take_iff_getElem];exact ⟨j,by omega,rfl⟩)
  simpa using h9⟩
 rw [this]
theorem jZ {p : α→Bool} {xs : List α} {i : Nat} (hlt : ¬ i < xs.length) (hq : eg p xs i) : dp p xs=-1:=by
 unfold dp;rw [if_neg (by rw [jS hlt hq];decide)]
theorem mf (p : α→Bool) (xs : List α) : decide (0≤dp p xs)=xs.any p:=by
 unfold dp;split
 ·rename_i h;rw [h];simp
 ·rename_i h;rw [Bool.not_eq_true] at h;rw [h];rfl
end
theorem vG (p : Mov × Mov→Bool) (xs : List (Mov × Mov)) (g : FuncId) (x1 x2 : PV) (hl : xs.length≤9223372036854775807) (hg : ∀ c ∈ xs,am Try.prog g [.pv (ba c),.pv (.rptr x1 0),.pv (.rptr x2 0)] [] [] (.pv (B (p c)))) : am Try.prog 85 [.pv (.sl (xs.map ba)),.pv (.fn (.func g) [] [.rptr x1 0,.rptr x2 0])] [] [] (.pv (Z (dp p xs))):=by
 refine Dp Try.func85 ?_
 intro C hP hN
 simp only [Try.f85] at hN ⊢
 with_reducible repeat' (first|refine Sp.h ?_|((first|refine Ss.h ?_|(refine Sb.h ?_ ?_ ?_<;>(try intro hgd)<;>try exact Xy))<;>simp -implicitDefEqProofs (maxSteps:=2000000) [hP,hN])|refine X2 ?_ ?_|(refine Xd ?_ ?_<;>intro hcd<;>try exact Xx))
 refine WP.loopN [] xs.length (fun i st=>st.t 0=.pv (.sl (xs.map ba))∧st.t 1=.pv (.fn (.func g) [] [.rptr x1 0,.rptr x2 0])∧st.t 7=.pv (Z xs.length)∧st.t 8=.pv (Z i)∧eg p xs i) (by simp [dQ]) ?_
 rintro i st hi ⟨g0,g1,g7,g8,hq⟩
 by_cases hlt : i < xs.length
 ·have hw:=ak hlt hl
  have hn:=eD hlt hq
  have hh:=jY hlt hq
  have hg':=hg _ (List.getElem_mem hlt)
  generalize hx : xs[i]=c at *
  have hxi : xs[i]?=some c:=by rw [List.getElem?_eq_getElem hlt,hx]
  generalize dp p xs=r at *
  cases hp : p c with
  |true=>
   rw [hp] at hg'
   rw [hh hp]
   with_reducible repeat' (first|refine Sp.h ?_|((first|refine Ss.h ?_|refine Sc.h (hg') ?_|(refine Sb.h ?_ ?_ ?_<;>(try intro hgd)<;>try exact Xy))<;>simp -implicitDefEqProofs (maxSteps:=2000000) [hP,hN,g0,g1,g7,g8,hlt,hw,hx,hxi])|refine X2 ?_ ?_|(refine Xd ?_ ?_<;>intro hcd<;>try exact Xx))
  |false=>
   rw [hp] at hg'
   with_reducible repeat' (first|refine Sp.h ?_|((first|refine Ss.h ?_|refine Sc.h (hg') ?_|(refine Sb.h ?_ ?_ ?_<;>(try intro hgd)<;>try exact Xy))<;>simp -implicitDefEqProofs (maxSteps:=2000000) [hP,hN,g0,g1,g7,g8,hlt,hw,hx,hxi])|refine X2 ?_ ?_|(refine Xd ?_ ?_<;>intro hcd<;>try exact Xx))
   all_goals exact hn hp
 ·rw [jZ hlt hq]
  with_reducible repeat' (first|refine Sp.h ?_|((first|refine Ss.h ?_|(refine Sb.h ?_ ?_ ?_<;>(try intro hgd)<;>try exact Xy))<;>simp -implicitDefEqProofs (maxSteps:=2000000) [hP,hN,g0,g1,g7,g8,hlt])|refine X2 ?_ ?_|(refine Xd ?_ ?_<;>intro hcd<;>try exact Xx))
theorem vH (p : Mov × Mov→Bool) (xs : List (Mov × Mov)) (g : FuncId) (x1 x2 : PV) (hl : xs.length≤9223372036854775807) (hg : ∀ c ∈ xs,am Try.prog g [.pv (ba c),.pv (.rptr x1 0),.pv (.rptr x2 0)] [] [] (.pv (B (p c)))) : am Try.prog 72 [.pv (.sl (xs.map ba)),.pv (.fn (.func g) [] [.rptr x1 0,.rptr x2 0])] [] [] (.pv (B (xs.any p))):=by
 have ci:=vG p xs g x1 x2 hl hg
 rw [← mf]
 refine Dp Try.func72 ?_
 intro C hP hN
 simp only [Try.f72] at hN ⊢
 with_reducible repeat' (first|refine Sp.h ?_|((first|refine Ss.h ?_|refine Sc.h (ci) ?_|(refine Sb.h ?_ ?_ ?_<;>(try intro hgd)<;>try exact Xy))<;>simp -implicitDefEqProofs (maxSteps:=2000000) [hP,hN])|refine X2 ?_ ?_|(refine Xd ?_ ?_<;>intro hcd<;>try exact Xx))
theorem t8 (a b c d e f : Int) : af Try.prog (Op.equal 69 (.agg #[.int .i64 a,.int .i64 b,.int .i64 c]) (.agg #[.int .i64 d,.int .i64 e,.int .i64 f]))=some (a==d && (b==e && c==f)):=by
 have hf : (Try.prog.fieldsOf 69).toList=[(Try.prog.fieldsOf 69)[0]!,(Try.prog.fieldsOf 69)[1]!,(Try.prog.fieldsOf 69)[2]!]:=by kernel_rfl
 show af Try.prog (Op.equalIn (9999+1) 69 _ _)=_
 rw [qt 9999 69 _ _ (by kernel_rfl) (by kernel_rfl),hf]
 have h:=l9 (P:=Try.prog) (d:=9999) (xs:=#[.int .i64 a,.int .i64 b,.int .i64 c]) (ys:=#[.int .i64 d,.int .i64 e,.int .i64 f]) (f:=(Try.prog.fieldsOf 69)[0]!) (fs:=[(Try.prog.fieldsOf 69)[1]!,(Try.prog.fieldsOf 69)[2]!]) (a:=.int .i64 a) (b:=.int .i64 d) (by decide +kernel) (by kernel_rfl) (by kernel_rfl) (nQ 9998 _ .i64 .i64 a d (by kernel_rfl))
  (l9 (by decide +kernel) (a:=.int .i64 b) (b:=.int .i64 e) (by kernel_rfl) (by kernel_rfl) (nQ 9998 _ .i64 .i64 b e (by kernel_rfl)) (l9 (by decide +kernel) (a:=.int .i64 c) (b:=.int .i64 f) (by kernel_rfl) (by kernel_rfl) (nQ 9998 _ .i64 .i64 c f (by kernel_rfl)) tc))
 rw [h];simp
def pT (x : AV) : Option Mov:=match x with
 |.pv (.val (.agg vs))=>match vs.toList with
  |[.int .i64 a,.int .i64 b,.int .i64 c]=>some ⟨a,b,c⟩
  |_=>none
 |_=>none
theorem mS {x : AV} {m : Mov} (h : pT x=some m) : x=.pv (bz m):=by
 unfold pT at h
 split at h
 ·split at h
  ·rename_i vs _ a' b' c' hv
   injection h with h;subst h
   rw [← Array.toArray_toList (xs:=vs),hv]
  ·cases h
 ·cases h
theorem sQ (a b : Mov) : (a==b)=(a.a==b.a && (a.f==b.f && a.t==b.t)):=by
 obtain ⟨a1,a2,a3⟩:=a
 obtain ⟨b1,b2,b3⟩:=b
 rw [Bool.eq_iff_iff];simp
def rA (x y : AV) (fb : Option bj) : Option bj:=match pT x,pT y with
 |some a,some b=>some (.pv (.val (.bool (a==b))),[])
 |_,_=>fb
@[simp] theorem uz (a b c d e f : Int) (fb : Option bj) : rA (.pv (.val (.agg #[.int .i64 a,.int .i64 b,.int .i64 c]))) (.pv (.val (.agg #[.int .i64 d,.int .i64 e,.int .i64 f]))) fb=some (.pv (.val (.bool ((⟨a,b,c⟩ : Mov)==⟨d,e,f⟩))),[]):=rfl
@[simp] theorem vI {dst : Option Nat} {ty : TypeId} {pos : String} {aft : Array Edge} {g : Option (Nat × Bool)} {ρ : Operand→AV} (x y : Operand) :
 aM Try.prog ⟨dst,.binOp .eql 69 x y 69,ty,pos,aft,g⟩ ρ=rA (ρ x) (ρ y) (oW Try.prog ⟨dst,.binOp .eql 69 x y 69,ty,pos,aft,g⟩ ρ):=by
 unfold rA
 split
 ·rename_i a b hx hy
  rw [sQ]
  exact pM rfl (mS hx) (mS hy) (by kernel_rfl) (t8 a.a a.f a.t b.a b.f b.t)
 ·rfl
set_option maxRecDepth 20000 in
theorem vJ (a b : Mov) (c : Mov × Mov) : am Try.prog 73 [.pv (ba c),.pv (.rptr (bz a) 0),.pv (.rptr (bz b) 0)] [] [] (.pv (B (jv a b c))):=by
 obtain ⟨a1,a2,a3⟩:=a
 obtain ⟨b1,b2,b3⟩:=b
 obtain ⟨⟨c1,c2,c3⟩,⟨d1,d2,d3⟩⟩:=c
 refine Dp Try.func73 ?_
 intro C hP hN
 simp only [Try.f73] at hN ⊢
 unfold jv
 generalize e1 : ((⟨c1,c2,c3⟩ : Mov)==⟨a1,a2,a3⟩)=r1
 generalize e2 : ((⟨d1,d2,d3⟩ : Mov)==⟨b1,b2,b3⟩)=r2
 generalize e3 : ((⟨c1,c2,c3⟩ : Mov)==⟨b1,b2,b3⟩)=r3
 generalize e4 : ((⟨d1,d2,d3⟩ : Mov)==⟨a1,a2,a3⟩)=r4
 cases r1<;>cases r2<;>cases r3<;>cases r4
 all_goals skip
 with_reducible repeat' (first|refine Sp.h ?_|((first|refine Ss.h ?_|(refine Sb.h ?_ ?_ ?_<;>(try intro hgd)<;>try exact Xy))<;>simp -implicitDefEqProofs (maxSteps:=2000000) [hP,hN,e1,e2,e3,e4])|refine X2 ?_ ?_|(refine Xd ?_ ?_<;>intro hcd<;>try exact Xx))
theorem vK (t : aU) (a b : Mov) (hl : t.conf.length≤9223372036854775807) : am Try.prog 61 [.pv (bR t),.pv (bz a),.pv (bz b)] [] [] (.pv (B (fg t a b))):=by
 have cc:=vH (jv a b) t.conf 73 (bz a) (bz b) hl (fun c _=>vJ a b c)
 refine Dp Try.func61 ?_
 intro C hP hN
 simp only [Try.f61] at hN ⊢
 with_reducible repeat' (first|refine Sp.h ?_|((first|refine Ss.h ?_|refine Sc.h (cc) ?_|(refine Sb.h ?_ ?_ ?_<;>(try intro hgd)<;>try exact Xy))<;>simp -implicitDefEqProofs (maxSteps:=2000000) [hP,hN])|refine X2 ?_ ?_|(refine Xd ?_ ?_<;>intro hcd<;>try exact Xx))
 all_goals rfl
end Go.Ab
namespace Go.Ab
open Go.Proofs
set_option maxRecDepth 20000 in
theorem vL (t : aU) (a b : Mov) (hl : t.conf.length≤9223372036854775807) : am Try.prog 41 [.pv (bR t),.pv (bz a),.pv (bz b)] [] [] (.pv (B (fg t a b))):=by
 obtain ⟨a1,a2,a3⟩:=a
 obtain ⟨b1,b2,b3⟩:=b
 rw [show fg t ⟨a1,a2,a3⟩ ⟨b1,b2,b3⟩=t.conf.any (jv ⟨a1,a2,a3⟩ ⟨b1,b2,b3⟩) from rfl]
 obtain ⟨p,hp⟩ : ∃ p,p=jv ⟨a1,a2,a3⟩ ⟨b1,b2,b3⟩:=⟨_,rfl⟩
 rw [← hp]
 refine Dp Try.func41 ?_
 intro C hP hN
 simp only [Try.f41] at hN ⊢
 with_reducible repeat' (first|refine Sp.h ?_|((first|refine Ss.h ?_|(refine Sb.h ?_ ?_ ?_<;>(try intro hgd)<;>try exact Xy))<;>simp -implicitDefEqProofs (maxSteps:=2000000) [hP,hN])|refine X2 ?_ ?_|(refine Xd ?_ ?_<;>intro hcd<;>try exact Xx))
 refine WP.loopN [8] t.conf.length (fun i st=>st.t 3=.ptr 3 0∧st.t 4=.ptr 4 0∧st.t 5=.ptr 5 0∧st.h 3=some (.box [.pv (.sl (t.maps.map aV)),.pv (.sl (t.conf.map ba))] true false)∧st.h 4=some (.box [.pv (Z a1),.pv (Z a2),.pv (Z a3)] true false)∧st.h 5=some (.box [.pv (Z b1),.pv (Z b2),.pv (Z b3)] true false)∧st.t 7=.pv (Z i)∧st.h 8=none∧eg p t.conf i) (by simp [dQ]) ?_
 rintro i st hi ⟨g3,g4,g5,h3,h4,h5,g7,h8,hq⟩
 by_cases hlt : i < t.conf.length
 ·have hw:=ak hlt hl
  have hn:=eD hlt hq
  have hh:=jR (p:=p) hlt
  have hxi : t.conf[i]?=some t.conf[i]:=List.getElem?_eq_getElem hlt
  generalize hx : t.conf[i]=c at *
  obtain ⟨⟨c1,c2,c3⟩,⟨d1,d2,d3⟩⟩:=c
  have hpc : p (⟨c1,c2,c3⟩,⟨d1,d2,d3⟩)=(((⟨c1,c2,c3⟩ : Mov)==⟨a1,a2,a3⟩ && (⟨d1,d2,d3⟩ : Mov)==⟨b1,b2,b3⟩) || ((⟨c1,c2,c3⟩ : Mov)==⟨b1,b2,b3⟩ && (⟨d1,d2,d3⟩ : Mov)==⟨a1,a2,a3⟩)):=by rw [hp];rfl
  generalize t.conf.any p=r at *
  generalize e1 : ((⟨c1,c2,c3⟩ : Mov)==⟨a1,a2,a3⟩)=r1 at *
  generalize e2 : ((⟨d1,d2,d3⟩ : Mov)==⟨b1,b2,b3⟩)=r2 at *
  generalize e3 : ((⟨c1,c2,c3⟩ : Mov)==⟨b1,b2,b3⟩)=r3 at *
  generalize e4 : ((⟨d1,d2,d3⟩ : Mov)==⟨a1,a2,a3⟩)=r4 at *
  rw [hpc] at hn hh
  clear hpc hp
  with_reducible repeat' (first|refine Sp.h ?_|((first|refine Ss.h ?_|(refine Sb.h ?_ ?_ ?_<;>(try intro hgd)<;>try exact Xy))<;>simp -implicitDefEqProofs (maxSteps:=2000000) [hP,hN,g3,g4,g5,h3,h4,h5,g7,h8,hlt,hw,hx,hxi,e1,e2,e3,e4])|refine X2 ?_ ?_|(refine Xd ?_ ?_<;>intro hcd<;>try exact Xx))
  all_goals first|exact hn (by simp_all)|(rw [hh (by simp_all)];done)|simp_all
 ·rw [jS hlt hq]
  with_reducible repeat' (first|refine Sp.h ?_|((first|refine Ss.h ?_|(refine Sb.h ?_ ?_ ?_<;>(try intro hgd)<;>try exact Xy))<;>simp -implicitDefEqProofs (maxSteps:=2000000) [hP,hN,g3,g4,g5,h3,h4,h5,g7,h8,hlt])|refine X2 ?_ ?_|(refine Xd ?_ ?_<;>intro hcd<;>try exact Xx))
theorem bG {l : List Int} {i : Nat} (h : i < l.length) : l[i]?=some l[i]:=List.getElem?_eq_getElem h
theorem uA (l : List Int) (arm : Int) (tick : Nat) (h1 : 1≤l.length) (hl : l.length≤9223372036854775807) (ht : tick≤1000000) : am Try.prog 40 [.pv (zs l),.pv (Z arm),.pv (Z tick)] [] [] (.pv (bz (bi l arm tick))):=by
 have hw1 : IntKind.i64.wrap ((tick : Int)+1)=(tick : Int)+1:=bP
 have hw2 : IntKind.i64.wrap ((l.length : Int) - 1)=(l.length : Int) - 1:=bP
 have m1 : (if (l.length : Int) - 1 < (tick : Int) then (l.length : Int) - 1 else (tick : Int))=((min tick (l.length - 1) : Nat) : Int):=by split<;>omega
 have m2 : (if (l.length : Int) - 1 < (tick : Int)+1 then (l.length : Int) - 1 else (tick : Int)+1)=((min (tick+1) (l.length - 1) : Nat) : Int):=by split<;>omega
 have q1 : min tick (l.length - 1) < l.length:=by omega
 have q2 : min (tick+1) (l.length - 1) < l.length:=by omega
 have hm : bi l arm tick=⟨arm,(l[min tick (l.length - 1)]?).getD 0,(l[min (tick+1) (l.length - 1)]?).getD 0⟩:=rfl
 rw [bG q1,bG q2,Option.getD_some,Option.getD_some] at hm
 rw [hm]
 have m3 : min (tick : Int) ((l.length : Int) - 1)=((min tick (l.length - 1) : Nat) : Int):=by omega
 have m4 : min ((tick : Int)+1) ((l.length : Int) - 1)=((min (tick+1) (l.length - 1) : Nat) : Int):=by omega
 have m5 : min ((l.length : Int) - 1) (tick : Int)=((min tick (l.length - 1) : Nat) : Int):=by omega
 have m6 : min ((l.length : Int) - 1) ((tick : Int)+1)=((min (tick+1) (l.length - 1) : Nat) : Int):=by omega
 generalize min tick (l.length - 1)=i1 at *
 generalize min (tick+1) (l.length - 1)=i2 at *
 have a1:=bG q1
 have a2:=bG q2
 generalize hx1 : l[i1]=x1 at *
 generalize hx2 : l[i2]=x2 at *
 refine Dp Try.func40 ?_
 intro C hP hN
 simp only [Try.f40] at hN ⊢
 with_reducible repeat' (first|refine Sp.h ?_|((first|refine Wd ?_|refine Ss.h ?_|(refine Sb.h ?_ ?_ ?_<;>(try intro hgd)<;>try exact Xy))<;>simp -implicitDefEqProofs (maxSteps:=2000000) [hP,hN,hw1,hw2,m1,m2,m3,m4,m5,m6,q1,q2,a1,a2,hx1,hx2]<;>try refine Ya ?_)|refine X2 ?_ ?_|(refine Xd ?_ ?_<;>intro hcd<;>try exact Xx))
def kC (l : List Int) (i : Nat) : Prop:=i < l.length∧fh l i=aH l
theorem lG {l : List Int} (h : 0 < l.length) : kC l (l.length - 1):=⟨by omega,rfl⟩
theorem mT {l : List Int} {i : Nat} (h : kC l (i+1)) (e : l[i]?=l[i+1]?) : kC l i:=⟨by have:=h.1;omega,by rw [← h.2,fh,if_pos e]⟩
theorem oc {l : List Int} {i : Nat} (h : kC l (i+1)) (e : l[i]?≠l[i+1]?) : aH l=i+1:=by rw [← h.2,fh,if_neg e]
theorem mU {l : List Int} (h : kC l 0) : aH l=0:=by rw [← h.2];rfl
theorem vM (l : List Int) (hl : l.length≤9223372036854775807) : am Try.prog 10 [.pv (zs l)] [] [] (.pv (Z (aH l))):=by
 by_cases h0 : 0 < l.length
 ·have hw1 : IntKind.i64.wrap ((l.length : Int) - 1)=((l.length - 1 : Nat) : Int):=by rw [IntKind.wrap_i64];omega
  have hm1 : (if (0 : Int) > ((l.length - 1 : Nat) : Int) then (0 : Int) else ((l.length - 1 : Nat) : Int))=((l.length - 1 : Nat) : Int):=by split<;>omega
  have hm2 : ¬ ((l.length - 1 : Nat) : Int) < 0:=by omega
  have hm3 : max ((l.length - 1 : Nat) : Int) 0=((l.length - 1 : Nat) : Int):=by omega
  have hm4 : max 0 ((l.length - 1 : Nat) : Int)=((l.length - 1 : Nat) : Int):=by omega
  have hs:=lG h0
  generalize l.length - 1=n at *
  refine Dp Try.func10 ?_
  intro C hP hN
  simp only [Try.f10] at hN ⊢
  with_reducible repeat' (first|refine Sp.h ?_|((first|refine Wd ?_|refine Ss.h ?_|(refine Sb.h ?_ ?_ ?_<;>(try intro hgd)<;>try exact Xy))<;>simp -implicitDefEqProofs (maxSteps:=2000000) [hP,hN,hw1,hm1,hm2,hm3,hm4]<;>try refine Ya ?_)|refine X2 ?_ ?_|(refine Xd ?_ ?_<;>intro hcd<;>try exact Xx))
  refine WP.loop [] (fun st=>∃ i : Nat,st.t 0=.pv (zs l)∧st.t 3=.pv (Z i)∧kC l i) (fun st=>match st.t 3 with|.pv (.val (.int _ a))=>a.toNat|_=>0) (by exact ⟨n,by simp [hs]⟩) ?_
  rintro st ⟨i,g0,g3,hq⟩
  have hi:=hq.1
  cases i with
  |zero=>
   rw [mU hq]
   with_reducible repeat' (first|refine Sp.h ?_|((first|refine Wd ?_|refine Ss.h ?_|(refine Sb.h ?_ ?_ ?_<;>(try intro hgd)<;>try exact Xy))<;>simp -implicitDefEqProofs (maxSteps:=2000000) [hP,hN,g0,g3]<;>try refine Ya ?_)|refine X2 ?_ ?_|(refine Xd ?_ ?_<;>intro hcd<;>try exact Xx))
  |succ i=>
   have h1 : i < l.length:=by omega
   have a1:=bG h1
   have a2:=bG hi
   have hn:=mT hq
   have he:=oc hq
   obtain ⟨j,hj⟩ : ∃ j,i+1=j:=⟨_,rfl⟩
   simp only [hj] at *
   have w1 : IntKind.i64.wrap ((j : Int) - 1)=(i : Int):=by rw [IntKind.wrap_i64];omega
   have w2 : ¬ (j : Int) < 0:=by omega
   have w3 : 0 < (j : Int):=by omega
   have w4 : 0 < j:=by omega
   generalize hx1 : l[i]=x1 at *
   generalize hx2 : l[j]=x2 at *
   rw [a1,a2] at hn he
   generalize aH l=r at *
   with_reducible repeat' (first|refine Sp.h ?_|((first|refine Wd ?_|refine Ss.h ?_|(refine Sb.h ?_ ?_ ?_<;>(try intro hgd)<;>try exact Xy))<;>simp -implicitDefEqProofs (maxSteps:=2000000) [hP,hN,g0,g3,a1,a2,w1,w2,w3,w4,h1,hi,hx1,hx2]<;>try refine Ya ?_)|refine X2 ?_ ?_|(refine Xd ?_ ?_<;>intro hcd<;>try exact Xx))
   all_goals first|exact ⟨⟨i,rfl,hn (by simp_all)⟩,by omega⟩|(rw [he (by simp_all)];done)
 ·have h9 : l=[]:=List.eq_nil_of_length_eq_zero (by omega)
  subst h9
  refine Dp Try.func10 ?_
  intro C hP hN
  simp only [Try.f10] at hN ⊢
  with_reducible repeat' (first|refine Sp.h ?_|((first|refine Wd ?_|refine Ss.h ?_|(refine Sb.h ?_ ?_ ?_<;>(try intro hgd)<;>try exact Xy))<;>simp -implicitDefEqProofs (maxSteps:=2000000) [hP,hN,show IntKind.i64.wrap (0 - 1)=-1 by decide,show IntKind.i64.wrap (-1)=-1 by decide,show max (-1 : Int) 0=0 by decide]<;>try refine Ya ?_)|refine X2 ?_ ?_|(refine Xd ?_ ?_<;>intro hcd<;>try exact Xx))
  refine WP.loop [] (fun st=>st.t 0=.pv (zs [])∧st.t 3=.pv (Z (0))) (fun _=>0) (by simp) ?_
  rintro st ⟨g0,g3⟩
  with_reducible repeat' (first|refine Sp.h ?_|((first|refine Wd ?_|refine Ss.h ?_|(refine Sb.h ?_ ?_ ?_<;>(try intro hgd)<;>try exact Xy))<;>simp -implicitDefEqProofs (maxSteps:=2000000) [hP,hN,g0,g3]<;>try refine Ya ?_)|refine X2 ?_ ?_|(refine Xd ?_ ?_<;>intro hcd<;>try exact Xx))
  all_goals rfl
theorem tL (l : List Int) (hl : l.length≤9223372036854775807) : am Try.prog 11 [.pv (zs l)] [] [] (.pv (Z (aH l))):=by
 by_cases h0 : 0 < l.length
 ·have hw1 : IntKind.i64.wrap ((l.length : Int) - 1)=((l.length - 1 : Nat) : Int):=by rw [IntKind.wrap_i64];omega
  have hm1 : (if (0 : Int) > ((l.length - 1 : Nat) : Int) then (0 : Int) else ((l.length - 1 : Nat) : Int))=((l.length - 1 : Nat) : Int):=by split<;>omega
  have hm2 : ¬ ((l.length - 1 : Nat) : Int) < 0:=by omega
  have hm3 : max ((l.length - 1 : Nat) : Int) 0=((l.length - 1 : Nat) : Int):=by omega
  have hm4 : max 0 ((l.length - 1 : Nat) : Int)=((l.length - 1 : Nat) : Int):=by omega
  have hs:=lG h0
  generalize l.length - 1=n at *
  refine Dp Try.func11 ?_
  intro C hP hN
  simp only [Try.f11] at hN ⊢
  with_reducible repeat' (first|refine Sp.h ?_|((first|refine Wd ?_|refine Ss.h ?_|(refine Sb.h ?_ ?_ ?_<;>(try intro hgd)<;>try exact Xy))<;>simp -implicitDefEqProofs (maxSteps:=2000000) [hP,hN,hw1,hm1,hm2,hm3,hm4]<;>try refine Ya ?_)|refine X2 ?_ ?_|(refine Xd ?_ ?_<;>intro hcd<;>try exact Xx))
  refine WP.loop [] (fun st=>∃ i : Nat,st.t 0=.pv (zs l)∧st.t 3=.pv (Z i)∧kC l i) (fun st=>match st.t 3 with|.pv (.val (.int _ a))=>a.toNat|_=>0) (by exact ⟨n,by simp [hs]⟩) ?_
  rintro st ⟨i,g0,g3,hq⟩
  have hi:=hq.1
  cases i with
  |zero=>
   rw [mU hq]
   with_reducible repeat' (first|refine Sp.h ?_|((first|refine Wd ?_|refine Ss.h ?_|(refine Sb.h ?_ ?_ ?_<;>(try intro hgd)<;>try exact Xy))<;>simp -implicitDefEqProofs (maxSteps:=2000000) [hP,hN,g0,g3]<;>try refine Ya ?_)|refine X2 ?_ ?_|(refine Xd ?_ ?_<;>intro hcd<;>try exact Xx))
  |succ i=>
   have h1 : i < l.length:=by omega
   have a1:=bG h1
   have a2:=bG hi
   have hn:=mT hq
   have he:=oc hq
   obtain ⟨j,hj⟩ : ∃ j,i+1=j:=⟨_,rfl⟩
   simp only [hj] at *
   have w1 : IntKind.i64.wrap ((j : Int) - 1)=(i : Int):=by rw [IntKind.wrap_i64];omega
   have w2 : ¬ (j : Int) < 0:=by omega
   have w3 : 0 < (j : Int):=by omega
   have w4 : 0 < j:=by omega
   generalize hx1 : l[i]=x1 at *
   generalize hx2 : l[j]=x2 at *
   rw [a1,a2] at hn he
   generalize aH l=r at *
   with_reducible repeat' (first|refine Sp.h ?_|((first|refine Wd ?_|refine Ss.h ?_|(refine Sb.h ?_ ?_ ?_<;>(try intro hgd)<;>try exact Xy))<;>simp -implicitDefEqProofs (maxSteps:=2000000) [hP,hN,g0,g3,a1,a2,w1,w2,w3,w4,h1,hi,hx1,hx2]<;>try refine Ya ?_)|refine X2 ?_ ?_|(refine Xd ?_ ?_<;>intro hcd<;>try exact Xx))
   all_goals first|exact ⟨⟨i,rfl,hn (by simp_all)⟩,by omega⟩|(rw [he (by simp_all)];done)
 ·have h9 : l=[]:=List.eq_nil_of_length_eq_zero (by omega)
  subst h9
  refine Dp Try.func11 ?_
  intro C hP hN
  simp only [Try.f11] at hN ⊢
  with_reducible repeat' (first|refine Sp.h ?_|((first|refine Wd ?_|refine Ss.h ?_|(refine Sb.h ?_ ?_ ?_<;>(try intro hgd)<;>try exact Xy))<;>simp -implicitDefEqProofs (maxSteps:=2000000) [hP,hN,show IntKind.i64.wrap (0 - 1)=-1 by decide,show IntKind.i64.wrap (-1)=-1 by decide,show max (-1 : Int) 0=0 by decide]<;>try refine Ya ?_)|refine X2 ?_ ?_|(refine Xd ?_ ?_<;>intro hcd<;>try exact Xx))
  refine WP.loop [] (fun st=>st.t 0=.pv (zs [])∧st.t 3=.pv (Z (-1))) (fun _=>0) (by simp) ?_
  rintro st ⟨g0,g3⟩
  with_reducible repeat' (first|refine Sp.h ?_|((first|refine Wd ?_|refine Ss.h ?_|(refine Sb.h ?_ ?_ ?_<;>(try intro hgd)<;>try exact Xy))<;>simp -implicitDefEqProofs (maxSteps:=2000000) [hP,hN,g0,g3]<;>try refine Ya ?_)|refine X2 ?_ ?_|(refine Xd ?_ ?_<;>intro hcd<;>try exact Xx))
  all_goals rfl
end Go.Ab
namespace Go.Ab
open Go.Proofs
def gM (e : av) : Bool:=decide (0≤e.c) && decide (e.c≤1099511627776)
def od (n : Nat) (uv : Int × Int) (e : av) : Bool:=decide (0≤e.u) && (decide (e.u < e.v) && (decide (e.v < n) && !(decide (e.u < uv.1) || (e.u==uv.1 && decide (e.v≤uv.2)))))
theorem pU (n : Nat) (uv : Int × Int) (e : av) : iY n uv e=(gM e && od n uv e):=by
 unfold iY gM od fS
 cases decide (0≤e.u)<;>cases decide (e.u < e.v)<;>cases decide (e.v < n)<;>cases decide (0≤e.c)<;>cases decide (e.c≤1099511627776)<;>simp
def mg (n : Nat) (es : List av) (i : Nat) : Prop:=∀ j e,j < i→es[j]?=some e→od n (bW es j) e=true
theorem qJ (n : Nat) (es : List av) : mg n es 0:=fun j e h=>by omega
theorem qK {n : Nat} {es : List av} {i : Nat} {e : av} (h : mg n es i) (he : es[i]?=some e) (hp : od n (bW es i) e=true) : mg n es (i+1):=by
 intro j x hj hx
 by_cases e9 : j=i
 ·subst e9;rw [he] at hx;injection hx with hx;subst hx;exact hp
 ·exact h j x (by omega) hx
def gB (n : Nat) (es : List av) : Bool:=(List.range es.length).all fun i=>match es[i]? with
 |some e=>od n (bW es i) e
 |none=>true
theorem kD {n : Nat} {es : List av} : gB n es=true↔mg n es es.length:=by
 simp only [gB,List.all_eq_true,List.mem_range]
 constructor
 ·intro h j e hj he
  have:=h j hj
  rw [he] at this;exact this
 ·intro h i hi
  rw [List.getElem?_eq_getElem hi]
  exact h i _ hi (List.getElem?_eq_getElem hi)
theorem qL {n : Nat} {es : List av} {i : Nat} {e : av} (he : es[i]?=some e) (hp : od n (bW es i) e=false) : gB n es=false:=by
 cases h : gB n es with
 |false=>rfl
 |true=>
  have:=kD.1 h i e (List.getElem?_eq_some_iff.1 he).1 he
  rw [this] at hp;cases hp
theorem rB (n : Nat) (es : List av) : aJ n (-1) (-1) es=(es.all gM && gB n es):=by
 rw [Bool.eq_iff_iff,Bool.and_eq_true,List.all_eq_true,kD]
 constructor
 ·intro h
  have h1 : ∀ i e,es[i]?=some e→iY n (bW es i) e=true:=by
   intro i e he
   cases hb : iY n (bW es i) e with
   |true=>rfl
   |false=>have:=lF he hb;rw [h] at this;cases this
  refine ⟨fun e he=>?_,fun j e _ he=>?_⟩
  ·obtain ⟨i,hi⟩:=List.mem_iff_getElem?.1 he
   have:=h1 i e hi
   rw [pU,Bool.and_eq_true] at this;exact this.1
  ·have:=h1 j e he
   rw [pU,Bool.and_eq_true] at this;exact this.2
 ·rintro ⟨h1,h2⟩
  refine mQ (i:=es.length) (fun j e hj he=>?_) (by omega)
  rw [pU,Bool.and_eq_true]
  exact ⟨h1 e (List.mem_of_getElem? he),h2 j e hj he⟩
def mh (m : aW) : Bool:=gB m.np.length m.es && (decide (m.np.length≤1024) && decide (m.es.length≤8192))
theorem qM (m : aW) : aS m=(m.es.all gM && mh m):=by
 unfold aS mh
 rw [rB]
 cases decide (m.np.length≤1024)<;>cases decide (m.es.length≤8192)<;>cases m.es.all gM<;>cases gB m.np.length m.es<;>rfl
theorem vN (m : aW) (hn : m.np.length≤9223372036854775807) (hl : m.es.length≤9223372036854775807) : am Try.prog 70 [.pv (aV m)] [] [] (.pv (B (mh m))):=by
 refine Dp Try.func70 ?_
 intro C hP hN
 simp only [Try.f70] at hN ⊢
 with_reducible repeat' (first|refine Sp.h ?_|((first|refine Wd ?_|refine Ss.h ?_|(refine Sb.h ?_ ?_ ?_<;>(try intro hgd)<;>try exact Xy))<;>simp -implicitDefEqProofs (maxSteps:=2000000) [hP,hN]<;>try refine Ya ?_)|refine X2 ?_ ?_|(refine Xd ?_ ?_<;>intro hcd<;>try exact Xx))
 refine WP.loopN [4] m.es.length (fun i st=>st.t 1=.ptr 1 0∧st.h 1=some (.box [.pv (.sl m.np),.pv (dP m.es)] true false)∧st.t 3=.pv (Z i)∧st.h 4=none∧mg m.np.length m.es i) (by simp [qJ]) ?_
 rintro i st hi ⟨g1,b1,g3,b4,hq⟩
 by_cases hlt : i < m.es.length
 ·have hw:=ak hlt hl
  have hxi : m.es[i]?=some m.es[i]:=List.getElem?_eq_getElem hlt
  have hox : ∀ uv,od m.np.length uv m.es[i]=(decide (0≤m.es[i].u) && (decide (m.es[i].u < m.es[i].v) && (decide (m.es[i].v < m.np.length) && !(decide (m.es[i].u < uv.1) || (m.es[i].u==uv.1 && decide (m.es[i].v≤uv.2)))))):=fun uv=>rfl
  generalize hx : m.es[i]=e at *
  have hnx:=qK hq hxi
  have hms:=qL (n:=m.np.length) hxi
  have hnx' : ∀ u v,bW m.es i=(u,v)→0≤e.u→e.u < e.v→e.v < m.np.length→¬ (e.u < u∨(e.u=u∧e.v≤v))→mg m.np.length m.es (i+1):=by
   intro u v hb h1 h2 h3 h4
   refine hnx ?_
   have h5 : (decide (e.u < u) || (e.u==u && decide (e.v≤v)))=false:=by
    rw [← Bool.not_eq_true];intro h9
    simp only [Bool.or_eq_true,Bool.and_eq_true,decide_eq_true_eq,beq_iff_eq] at h9;exact h4 h9
   rw [hb,hox,decide_eq_true h1,decide_eq_true h2,decide_eq_true h3]
   show (true && (true && (true && !(decide (e.u < u) || (e.u==u && decide (e.v≤v))))))=true
   rw [h5];rfl
  have hms' : ∀ u v,bW m.es i=(u,v)→¬ (0≤e.u∧e.u < e.v∧e.v < m.np.length∧¬ (e.u < u∨(e.u=u∧e.v≤v)))→gB m.np.length m.es=false:=by
   intro u v hb h1
   refine hms ?_
   rw [hb,hox,← Bool.not_eq_true]
   intro h9
   refine h1 ?_
   simp only [Bool.and_eq_true,decide_eq_true_eq,Bool.not_eq_true',Bool.or_eq_false_iff,decide_eq_false_iff_not,Bool.and_eq_false_iff,beq_eq_false_iff_ne,ne_eq] at h9
   obtain ⟨h9,h10,h11,h12,h13⟩:=h9
   refine ⟨h9,h10,h11,?_⟩
   rintro (h|⟨h,h'⟩)
   ·exact h12 h
   ·exact h13.elim (fun g=>g h) (fun g=>g h')
  clear hnx hms hox
  have hbe : (i=0∧bW m.es i=(-1,-1))∨∃ k f,i=k+1∧m.es[k]?=some f∧bW m.es i=(f.u,f.v):=by
   cases i with
   |zero=>exact .inl ⟨rfl,rfl⟩
   |succ k=>
    have hk : m.es[k]?=some (m.es[k]'(by omega)):=List.getElem?_eq_getElem (by omega)
    exact .inr ⟨k,_,rfl,hk,mR hk⟩
  have hor : mh m=(gB m.np.length m.es && (decide (m.np.length≤1024) && decide (m.es.length≤8192))):=rfl
  generalize gB m.np.length m.es=r at *
  rcases hbe with ⟨h0,hb⟩|⟨k,f,hk,hf,hb⟩
  ·have hnx:=hnx' _ _ hb
   have hms:=hms' _ _ hb
   clear hnx' hms'
   have hi0 : (i : Int)=0:=by omega
   have hz : ¬ (0 : Int) < (i : Int):=by omega
   with_reducible repeat' (first|refine Sp.h ?_|((first|refine Wd ?_|refine Ss.h ?_|(refine Sb.h ?_ ?_ ?_<;>(try intro hgd)<;>try exact Xy))<;>simp -implicitDefEqProofs (maxSteps:=2000000) [hP,hN,g1,b1,g3,b4,hlt,hw,hx,hxi,hz]<;>try refine Ya ?_)|refine X2 ?_ ?_|(refine Xd ?_ ?_<;>intro hcd<;>try exact Xx))
   all_goals first|(have h9:=hms (by clear hP hN hor hnx hms;simp at *;omega);simp [hor,h9];done)|(exact hnx (by clear hP hN hor hnx hms;simp at *;omega) (by clear hP hN hor hnx hms;simp at *;omega) (by clear hP hN hor hnx hms;simp at *;omega) (by clear hP hN hor hnx hms;simp at *;omega))|skip
   all_goals trace_state
  ·have hnx:=hnx' _ _ hb
   have hms:=hms' _ _ hb
   clear hnx' hms'
   have hz : (0 : Int) < (i : Int):=by omega
   have hkl : k < m.es.length:=by omega
   have hfx : m.es[k]=f:=(List.getElem?_eq_some_iff.1 hf).2
   have hw1 : IntKind.i64.wrap ((i : Int) - 1)=(k : Int):=by rw [IntKind.wrap_i64];omega
   with_reducible repeat' (first|refine Sp.h ?_|((first|refine Wd ?_|refine Ss.h ?_|(refine Sb.h ?_ ?_ ?_<;>(try intro hgd)<;>try exact Xy))<;>simp -implicitDefEqProofs (maxSteps:=2000000) [hP,hN,g1,b1,g3,b4,hlt,hw,hx,hxi,hz,hw1,hkl,hf,hfx]<;>try refine Ya ?_)|refine X2 ?_ ?_|(refine Xd ?_ ?_<;>intro hcd<;>try exact Xx))
   all_goals first|(have h9:=hms (by clear hP hN hor hnx hms;simp at *;omega);simp [hor,h9];done)|(exact hnx (by clear hP hN hor hnx hms;simp at *;omega) (by clear hP hN hor hnx hms;simp at *;omega) (by clear hP hN hor hnx hms;simp at *;omega) (by clear hP hN hor hnx hms;simp at *;omega))|skip
   all_goals trace_state
 ·have he : gB m.np.length m.es=true:=kD.2 (by have : i=m.es.length:=by omega
                                               rw [← this];exact hq)
  have hor : mh m=(decide ((m.np.length : Int)≤1024) && decide ((m.es.length : Int)≤8192)):=by
   unfold mh;rw [he,Bool.true_and]
   congr 1<;>(rw [decide_eq_decide];omega)
  rw [hor]
  with_reducible repeat' (first|refine Sp.h ?_|((first|refine Wd ?_|refine Ss.h ?_|(refine Sb.h ?_ ?_ ?_<;>(try intro hgd)<;>try exact Xy))<;>simp -implicitDefEqProofs (maxSteps:=2000000) [hP,hN,g1,b1,g3,b4,hlt]<;>try refine Ya ?_)|refine X2 ?_ ?_|(refine Xd ?_ ?_<;>intro hcd<;>try exact Xx))
  all_goals (simp at hgd;omega)
theorem vO (m : aW) (hn : m.np.length≤9223372036854775807) (hl : m.es.length≤9223372036854775807) : am Try.prog 59 [.pv (aV m)] [] [] (.pv (B (aS m))):=by
 have co:=vN m hn hl
 have hwo:=qM m
 refine Dp Try.func59 ?_
 intro C hP hN
 simp only [Try.f59] at hN ⊢
 with_reducible repeat' (first|refine Sp.h ?_|((first|refine Ss.h ?_|(refine Sb.h ?_ ?_ ?_<;>(try intro hgd)<;>try exact Xy))<;>simp -implicitDefEqProofs (maxSteps:=2000000) [hP,hN])|refine X2 ?_ ?_|(refine Xd ?_ ?_<;>intro hcd<;>try exact Xx))
 refine WP.loopN [] m.es.length (fun i st=>st.t 1=.ptr 1 0∧st.h 1=some (.box [.pv (.sl m.np),.pv (dP m.es)] true false)∧st.t 3=.pv (Z i)∧fR gM m.es i) (by simp [fH]) ?_
 rintro i st hi ⟨g1,b1,g3,hq⟩
 by_cases hlt : i < m.es.length
 ·have hw:=ak hlt hl
  have hxi : m.es[i]?=some m.es[i]:=List.getElem?_eq_getElem hlt
  have hn':=gx hlt hq
  have hms:=gy (p:=gM) hlt
  generalize hx : m.es[i]=e at *
  have hc : gM e=(decide (0≤e.c) && decide (e.c≤1099511627776)):=rfl
  rw [hc] at hn' hms
  with_reducible repeat' (first|refine Sp.h ?_|((first|refine Ss.h ?_|(refine Sb.h ?_ ?_ ?_<;>(try intro hgd)<;>try exact Xy))<;>simp -implicitDefEqProofs (maxSteps:=2000000) [hP,hN,g1,b1,g3,hlt,hw,hx,hxi])|refine X2 ?_ ?_|(refine Xd ?_ ?_<;>intro hcd<;>try exact Xx))
  all_goals first|(refine hn' ?_;clear hP hN hn' hms;simp at *;omega)|(have h9:=hms (by clear hP hN hn' hms;simp at *;omega);simp [hwo,h9];done)|skip
  all_goals trace_state
 ·have he:=jy hlt hq
  rw [hwo,he,Bool.true_and]
  with_reducible repeat' (first|refine Sp.h ?_|((first|refine Ss.h ?_|refine Sc.h (co) ?_|(refine Sb.h ?_ ?_ ?_<;>(try intro hgd)<;>try exact Xy))<;>simp -implicitDefEqProofs (maxSteps:=2000000) [hP,hN,g1,b1,g3,hlt])|refine X2 ?_ ?_|(refine Xd ?_ ?_<;>intro hcd<;>try exact Xx))
theorem vP (t : aU) (ht : TmOk t) : am Try.prog 39 [.pv (bR t)] [] [] (.pv (B (aG t))):=by
 by_cases h0 : (1≤t.maps.length∧t.maps.length≤4)∧t.conf.length≤4096
 ·obtain ⟨⟨h1,h2⟩,h3⟩:=h0
  have hc : aG t=(t.maps.all aS && t.conf.all (ff t)):=by simp [aG,h1,h2,h3]
  have w1 : ¬ (t.maps.length : Int) < 1:=by omega
  have w2 : ¬ 4 < (t.maps.length : Int):=by omega
  have w3 : ¬ 4096 < (t.conf.length : Int):=by omega
  have w4 : ¬ t.maps.length=0:=by omega
  rw [hc]
  refine Dp Try.func39 ?_
  intro C hP hN
  simp only [Try.f39] at hN ⊢
  with_reducible repeat' (first|refine Sp.h ?_|((first|refine Ss.h ?_|(refine Sb.h ?_ ?_ ?_<;>(try intro hgd)<;>try exact Xy))<;>simp -implicitDefEqProofs (maxSteps:=2000000) [hP,hN,w1,w2,w3,w4])|refine X2 ?_ ?_|(refine Xd ?_ ?_<;>intro hcd<;>try exact Xx))
  refine WP.loopN [] t.maps.length (fun i st=>st.t 1=.ptr 1 0∧st.h 1=some (.box [.pv (.sl (t.maps.map aV)),.pv (.sl (t.conf.map ba))] true false)∧st.t 3=.pv (Z i)∧st.h 5=none∧fR aS t.maps i) (by simp [fH]) ?_
  rintro i st hi ⟨g1,b1,g3,b5,hq⟩
  by_cases hlt : i < t.maps.length
  ·have hw:=ak hlt ht.nl
   have hxi : t.maps[i]?=some t.maps[i]:=List.getElem?_eq_getElem hlt
   have hn':=gx hlt hq
   have hms:=gy (p:=aS) hlt
   have hmem:=List.getElem_mem hlt
   have cf:=vO t.maps[i] (ht.pl _ hmem) (ht.el _ hmem)
   generalize hx : t.maps[i]=e at *
   cases he : aS e with
   |true=>
    rw [he] at cf
    with_reducible repeat' (first|refine Sp.h ?_|((first|refine Ss.h ?_|refine Sc.h (cf) ?_|(refine Sb.h ?_ ?_ ?_<;>(try intro hgd)<;>try exact Xy))<;>simp -implicitDefEqProofs (maxSteps:=2000000) [hP,hN,g1,b1,g3,b5,hlt,hw,hx,hxi])|refine X2 ?_ ?_|(refine Xd ?_ ?_<;>intro hcd<;>try exact Xx))
    all_goals exact hn' he
   |false=>
    rw [he] at cf
    rw [hms he]
    with_reducible repeat' (first|refine Sp.h ?_|((first|refine Ss.h ?_|refine Sc.h (cf) ?_|(refine Sb.h ?_ ?_ ?_<;>(try intro hgd)<;>try exact Xy))<;>simp -implicitDefEqProofs (maxSteps:=2000000) [hP,hN,g1,b1,g3,b5,hlt,hw,hx,hxi])|refine X2 ?_ ?_|(refine Xd ?_ ?_<;>intro hcd<;>try exact Xx))
  ·rw [jy hlt hq,Bool.true_and]
   with_reducible repeat' (first|refine Sp.h ?_|((first|refine Ss.h ?_|(refine Sb.h ?_ ?_ ?_<;>(try intro hgd)<;>try exact Xy))<;>simp -implicitDefEqProofs (maxSteps:=2000000) [hP,hN,g1,b1,g3,b5,hlt])|refine X2 ?_ ?_|(refine Xd ?_ ?_<;>intro hcd<;>try exact Xx))
   refine WP.loopN [5] t.conf.length (fun i st=>st.t 1=.ptr 1 0∧st.h 1=some (.box [.pv (.sl (t.maps.map aV)),.pv (.sl (t.conf.map ba))] true false)∧st.t 4=.pv (Z i)∧st.h 5=none∧fR (ff t) t.conf i) (by simp [fH,b1,g1,b5]) ?_
   clear g1 b1 g3 b5
   rintro i st hi ⟨g1,b1,g4,b5,hq⟩
   by_cases hlt : i < t.conf.length
   ·have hw:=ak hlt ht.cl
    have hxi : t.conf[i]?=some t.conf[i]:=List.getElem?_eq_getElem hlt
    have hn':=gx hlt hq
    have hms:=gy (p:=ff t) hlt
    generalize hx : t.conf[i]=c at *
    have cA:=tK t c.1 ht
    have cB:=tK t c.2 ht
    obtain ⟨⟨c1,c2,c3⟩,⟨d1,d2,d3⟩⟩:=c
    have hcf : ff t (⟨c1,c2,c3⟩,⟨d1,d2,d3⟩)=(bm t ⟨c1,c2,c3⟩ && (bm t ⟨d1,d2,d3⟩ && c1 !=d1)):=rfl
    generalize ff t (⟨c1,c2,c3⟩,⟨d1,d2,d3⟩)=r at *
    generalize t.conf.all (ff t)=q at *
    cases e1 : bm t ⟨c1,c2,c3⟩<;>cases e2 : bm t ⟨d1,d2,d3⟩<;>cases e3 : (c1==d1)
    all_goals
     simp only [e1,e2,bne,e3,Bool.true_and,Bool.false_and,Bool.and_false,Bool.not_true,Bool.not_false,Bool.and_true] at cA cB hcf
     first|have hqq:=hn' hcf|rw [hms hcf]
     skip
     with_reducible repeat' (first|refine Sp.h ?_|((first|refine Ss.h ?_|refine Sc.h (cA) ?_|refine Sc.h (cB) ?_|(refine Sb.h ?_ ?_ ?_<;>(try intro hgd)<;>try exact Xy))<;>simp -implicitDefEqProofs (maxSteps:=2000000) [hP,hN,g1,b1,g4,b5,hlt,hw,hx,hxi,e3])|refine X2 ?_ ?_|(refine Xd ?_ ?_<;>intro hcd<;>try exact Xx))
    all_goals first|exact hqq|trace_state
   ·rw [jy hlt hq]
    with_reducible repeat' (first|refine Sp.h ?_|((first|refine Ss.h ?_|(refine Sb.h ?_ ?_ ?_<;>(try intro hgd)<;>try exact Xy))<;>simp -implicitDefEqProofs (maxSteps:=2000000) [hP,hN,g1,b1,g4,b5,hlt])|refine X2 ?_ ?_|(refine Xd ?_ ?_<;>intro hcd<;>try exact Xx))
 ·have hc : aG t=false:=by
   cases h : aG t with
   |false=>rfl
   |true=>simp only [aG,Bool.and_eq_true,decide_eq_true_eq] at h;exact absurd ⟨⟨h.1,h.2.1⟩,h.2.2.1⟩ h0
  rw [hc]
  refine Dp Try.func39 ?_
  intro C hP hN
  simp only [Try.f39] at hN ⊢
  with_reducible repeat' (first|refine Sp.h ?_|((first|refine Ss.h ?_|(refine Sb.h ?_ ?_ ?_<;>(try intro hgd)<;>try exact Xy))<;>simp -implicitDefEqProofs (maxSteps:=2000000) [hP,hN])|refine X2 ?_ ?_|(refine Xd ?_ ?_<;>intro hcd<;>try exact Xx))
  all_goals (exfalso;simp at *;omega)
end Go.Ab
namespace Go.Ab
open Go.Proofs
theorem tM (t : aU) (ht : TmOk t) : am Try.prog 27 [.pv (bR t)] [] [] (.pv (B (aG t))):=by
 by_cases h0 : (1≤t.maps.length∧t.maps.length≤4)∧t.conf.length≤4096
 ·obtain ⟨⟨h1,h2⟩,h3⟩:=h0
  have hc : aG t=(t.maps.all aS && t.conf.all (ff t)):=by simp [aG,h1,h2,h3]
  have w1 : ¬ (t.maps.length : Int) < 1:=by omega
  have w2 : ¬ 4 < (t.maps.length : Int):=by omega
  have w3 : ¬ 4096 < (t.conf.length : Int):=by omega
  have w4 : ¬ t.maps.length=0:=by omega
  rw [hc]
  refine Dp Try.func27 ?_
  intro C hP hN
  simp only [Try.f27] at hN ⊢
  with_reducible repeat' (first|refine Sp.h ?_|((first|refine Ss.h ?_|(refine Sb.h ?_ ?_ ?_<;>(try intro hgd)<;>try exact Xy))<;>simp -implicitDefEqProofs (maxSteps:=2000000) [hP,hN,w1,w2,w3,w4])|refine X2 ?_ ?_|(refine Xd ?_ ?_<;>intro hcd<;>try exact Xx))
  refine WP.loopN [4] t.maps.length (fun i st=>st.t 1=.ptr 1 0∧st.h 1=some (.box [.pv (.sl (t.maps.map aV)),.pv (.sl (t.conf.map ba))] true false)∧st.t 24=.pv (.sl (t.maps.map aV))∧st.t 25=.pv (Z t.maps.length)∧st.t 26=.pv (Z i)∧st.h 4=none∧st.h 6=none∧fR aS t.maps i) (by simp [fH]) ?_
  rintro i st hi ⟨g1,b1,g24,g25,g26,b4,b6,hq⟩
  by_cases hlt : i < t.maps.length
  ·have hw:=ak hlt ht.nl
   have hxi : t.maps[i]?=some t.maps[i]:=List.getElem?_eq_getElem hlt
   have hn':=gx hlt hq
   have hms:=gy (p:=aS) hlt
   have hmem:=List.getElem_mem hlt
   have cf:=vF t.maps[i] (ht.rest _ hmem) (ht.pl _ hmem) (ht.el _ hmem)
   generalize hx : t.maps[i]=e at *
   cases he : aS e with
   |true=>
    rw [he] at cf
    with_reducible repeat' (first|refine Sp.h ?_|((first|refine Ss.h ?_|refine Sc.h (cf) ?_|(refine Sb.h ?_ ?_ ?_<;>(try intro hgd)<;>try exact Xy))<;>simp -implicitDefEqProofs (maxSteps:=2000000) [hP,hN,g1,b1,g24,g25,g26,b4,b6,hlt,hw,hx,hxi])|refine X2 ?_ ?_|(refine Xd ?_ ?_<;>intro hcd<;>try exact Xx))
    all_goals exact hn' he
   |false=>
    rw [he] at cf
    rw [hms he]
    with_reducible repeat' (first|refine Sp.h ?_|((first|refine Ss.h ?_|refine Sc.h (cf) ?_|(refine Sb.h ?_ ?_ ?_<;>(try intro hgd)<;>try exact Xy))<;>simp -implicitDefEqProofs (maxSteps:=2000000) [hP,hN,g1,b1,g24,g25,g26,b4,b6,hlt,hw,hx,hxi])|refine X2 ?_ ?_|(refine Xd ?_ ?_<;>intro hcd<;>try exact Xx))
  ·have hall:=jy hlt hq
   rw [hall,Bool.true_and]
   with_reducible repeat' (first|refine Sp.h ?_|((first|refine Ss.h ?_|(refine Sb.h ?_ ?_ ?_<;>(try intro hgd)<;>try exact Xy))<;>simp -implicitDefEqProofs (maxSteps:=2000000) [hP,hN,g1,b1,g24,g25,g26,b4,b6,hlt])|refine X2 ?_ ?_|(refine Xd ?_ ?_<;>intro hcd<;>try exact Xx))
   refine WP.loopN [6] t.conf.length (fun i st=>st.t 1=.ptr 1 0∧st.h 1=some (.box [.pv (.sl (t.maps.map aV)),.pv (.sl (t.conf.map ba))] true false)∧st.t 35=.pv (.sl (t.conf.map ba))∧st.t 36=.pv (Z t.conf.length)∧st.t 37=.pv (Z i)∧st.h 6=none∧fR (ff t) t.conf i) (by simp [fH,b1,g1,b6]) ?_
   clear g1 b1 g24 g25 g26 b4 b6
   rintro i st hi ⟨g1,b1,g35,g36,g37,b6,hq⟩
   by_cases hlt : i < t.conf.length
   ·have hw:=ak hlt ht.cl
    have hxi : t.conf[i]?=some t.conf[i]:=List.getElem?_eq_getElem hlt
    have hn':=gx hlt hq
    have hms:=gy (p:=ff t) hlt
    have hwm : ∀ m ∈ t.maps,aS m=true:=List.all_eq_true.1 hall
    generalize hx : t.conf[i]=c at *
    have cA:=r9 t c.1 ht hwm
    have cB:=r9 t c.2 ht hwm
    obtain ⟨⟨c1,c2,c3⟩,⟨d1,d2,d3⟩⟩:=c
    have hcf : ff t (⟨c1,c2,c3⟩,⟨d1,d2,d3⟩)=(bm t ⟨c1,c2,c3⟩ && (bm t ⟨d1,d2,d3⟩ && c1 !=d1)):=rfl
    generalize ff t (⟨c1,c2,c3⟩,⟨d1,d2,d3⟩)=r at *
    generalize t.conf.all (ff t)=q at *
    cases e1 : bm t ⟨c1,c2,c3⟩<;>cases e2 : bm t ⟨d1,d2,d3⟩<;>cases e3 : (c1==d1)
    all_goals
     simp only [e1,e2,bne,e3,Bool.true_and,Bool.false_and,Bool.and_false,Bool.not_true,Bool.not_false,Bool.and_true] at cA cB hcf
     first|have hqq:=hn' hcf|rw [hms hcf]
     skip
     with_reducible repeat' (first|refine Sp.h ?_|((first|refine Ss.h ?_|refine Sc.h (cA) ?_|refine Sc.h (cB) ?_|(refine Sb.h ?_ ?_ ?_<;>(try intro hgd)<;>try exact Xy))<;>simp -implicitDefEqProofs (maxSteps:=2000000) [hP,hN,g1,b1,g35,g36,g37,b6,hlt,hw,hx,hxi,e3])|refine X2 ?_ ?_|(refine Xd ?_ ?_<;>intro hcd<;>try exact Xx))
    all_goals first|exact hqq|trace_state
   ·rw [jy hlt hq]
    with_reducible repeat' (first|refine Sp.h ?_|((first|refine Ss.h ?_|(refine Sb.h ?_ ?_ ?_<;>(try intro hgd)<;>try exact Xy))<;>simp -implicitDefEqProofs (maxSteps:=2000000) [hP,hN,g1,b1,g35,g36,g37,b6,hlt])|refine X2 ?_ ?_|(refine Xd ?_ ?_<;>intro hcd<;>try exact Xx))
 ·have hc : aG t=false:=by
   cases h : aG t with
   |false=>rfl
   |true=>simp only [aG,Bool.and_eq_true,decide_eq_true_eq] at h;exact absurd ⟨⟨h.1,h.2.1⟩,h.2.2.1⟩ h0
  rw [hc]
  refine Dp Try.func27 ?_
  intro C hP hN
  simp only [Try.f27] at hN ⊢
  with_reducible repeat' (first|refine Sp.h ?_|((first|refine Ss.h ?_|(refine Sb.h ?_ ?_ ?_<;>(try intro hgd)<;>try exact Xy))<;>simp -implicitDefEqProofs (maxSteps:=2000000) [hP,hN])|refine X2 ?_ ?_|(refine Xd ?_ ?_<;>intro hcd<;>try exact Xx))
  all_goals (exfalso;simp at *;omega)
def eK (plan : List (List Int)) (tick k : Nat) : Mov:=bi ((plan[k]?).getD []) k tick
def tA (p : Nat→Bool) (k : Nat) : Prop:=∀ j,j < k→p j=true
theorem cJ (p : Nat→Bool) : tA p 0:=fun j h=>by omega
theorem cK {p : Nat→Bool} {k : Nat} (h : tA p k) (hp : p k=true) : tA p (k+1):=fun j hj=>by
 by_cases e : j=k
 ·rw [e];exact hp
 ·exact h j (by omega)
theorem dv {p : Nat→Bool} {k n : Nat} (h : tA p k) (hk : ¬ k < n) : (List.range n).all p=true:=by
 rw [List.all_eq_true];intro j hj;rw [List.mem_range] at hj;exact h j (by omega)
theorem cH {p : Nat→Bool} {k n : Nat} (hk : k < n) (hp : p k=false) : (List.range n).all p=false:=by
 rw [List.all_eq_false];exact ⟨k,by simpa using hk,by rw [hp];decide⟩
def iZ (plan : List (List Int)) (tick k : Nat) : List PV:=(List.range k).map fun j=>bz (eK plan tick j)
theorem sR (plan : List (List Int)) (tick k : Nat) : (iZ plan tick k).length=k:=by simp [iZ]
theorem tO (plan : List (List Int)) (tick : Nat) {k j : Nat} (h : j < k) : (iZ plan tick k)[j]?=some (bz (eK plan tick j)):=by simp [iZ,h]
theorem rC (plan : List (List Int)) (tick k : Nat) : iZ plan tick (k+1)=iZ plan tick k++[bz (eK plan tick k)]:=by simp [iZ,List.range_succ]
theorem ph (t : aU) (plan : List (List Int)) (tick k : Nat) : aT t plan tick k=(bm t (eK plan tick k) && (List.range k).all fun i=>!fg t (eK plan tick k) (eK plan tick i)):=rfl
theorem vQ (t : aU) (plan : List (List Int)) (tick n : Nat) (ht : TmOk t) (hp : ∀ l ∈ plan,l.length=n) (h1 : 1≤n) (hn : n≤65) (htick : tick < max 1 (n - 1)) (hpl : plan.length≤4) : am Try.prog 44 [.pv (bR t),.pv (.sl (plan.map zs)),.pv (Z tick)] [] [] (.pv (B ((List.range plan.length).all (aT t plan tick)))):=by
 refine Dp Try.func44 ?_
 intro C hP hN
 simp only [Try.f44] at hN ⊢
 with_reducible repeat' (first|refine Sp.h ?_|((first|refine Wh [7] ?_|refine Wi [7] ?_|refine Ss.h ?_|(refine Sb.h ?_ ?_ ?_<;>(try intro hgd)<;>try exact Xy))<;>simp -implicitDefEqProofs (maxSteps:=2000000) [hP,hN]<;>try refine Ya ?_)|refine X2 ?_ ?_|(refine Xd ?_ ?_<;>intro hcd<;>try exact Xx))
 refine WP.loopN [10,12] plan.length (fun k st=>st.t 3=.ptr 3 0∧st.h 3=some (.box [.pv (.sl (t.maps.map aV)),.pv (.sl (t.conf.map ba))] true false)∧st.t 2=.pv (Z tick)∧st.t 13=.pv (.sl (plan.map zs))∧st.t 14=.pv (Z plan.length)∧st.t 15=.pv (Z k)∧st.t 7=.arr 7 k∧st.h 7=some (.row 69 3 (iZ plan tick k) 0)∧st.h 10=none∧st.h 12=none∧tA (aT t plan tick) k) (by simp [cJ,iZ]) ?_
 rintro k st hk ⟨g3,b3,g2,g13,g14,g15,g7,b7,b10,b12,hq⟩
 by_cases hlt : k < plan.length
 ·have hw:=ak hlt (by omega)
  have hxi : plan[k]?=some plan[k]:=List.getElem?_eq_getElem hlt
  have hln:=hp _ (List.getElem_mem hlt)
  have hmk : eK plan tick k=bi plan[k] k tick:=by rw [eK,hxi];rfl
  generalize hx : plan[k]=l at *
  have hw1 : IntKind.i64.wrap ((tick : Int)+1)=(tick : Int)+1:=bP
  have hw2 : IntKind.i64.wrap ((l.length : Int) - 1)=(l.length : Int) - 1:=bP
  have q1 : tick < l.length:=by omega
  have q2 : min (tick+1) (l.length - 1) < l.length:=by omega
  have m2 : (if (l.length : Int) - 1 < (tick : Int)+1 then (l.length : Int) - 1 else (tick : Int)+1)=((min (tick+1) (l.length - 1) : Nat) : Int):=by split<;>omega
  have m4 : min ((tick : Int)+1) ((l.length : Int) - 1)=((min (tick+1) (l.length - 1) : Nat) : Int):=by omega
  have m6 : min ((l.length : Int) - 1) ((tick : Int)+1)=((min (tick+1) (l.length - 1) : Nat) : Int):=by omega
  have hm : bi l k tick=⟨k,l[tick],l[min (tick+1) (l.length - 1)]⟩:=by
   simp only [bi,show min tick (l.length - 1)=tick by omega,List.getElem?_eq_getElem q1,List.getElem?_eq_getElem q2,Option.getD_some]
  rw [hm] at hmk
  generalize min (tick+1) (l.length - 1)=i2 at *
  have a1:=bG q1
  have a2:=bG q2
  generalize hx1 : l[tick]=x1 at *
  generalize hx2 : l[i2]=x2 at *
  have hse:=ph t plan tick k
  have hsu:=rC plan tick k
  have hln2:=sR plan tick k
  have hat : ∀ j,j < k→(iZ plan tick k)[j]?=some (bz (eK plan tick j)):=fun j hj=>tO plan tick hj
  have hnx:=cK hq
  have hms:=cH (p:=aT t plan tick) hlt
  have cl:=vE t ⟨k,x1,x2⟩ ht
  have ccl:=fun j=>vK t (eK plan tick j) ⟨k,x1,x2⟩ ht.cl
  rw [hmk] at hse hsu
  generalize iZ plan tick (k+1)=ys at *
  generalize iZ plan tick k=xs at *
  generalize (List.range plan.length).all (aT t plan tick)=r at *
  cases hlg : bm t ⟨k,x1,x2⟩ with
  |false=>
   rw [hlg] at cl
   have hsf : aT t plan tick k=false:=by rw [hse,hlg];rfl
   rw [hms hsf]
   with_reducible repeat' (first|refine Sp.h ?_|((first|refine Wd ?_|refine Ss.h ?_|refine Sc.h (cl) ?_|(refine Sb.h ?_ ?_ ?_<;>(try intro hgd)<;>try exact Xy))<;>simp -implicitDefEqProofs (maxSteps:=2000000) [hP,hN,g3,b3,g2,g13,g14,g15,g7,b7,b10,b12,hlt,hw,hx,hxi,hw1,hw2,q1,q2,m2,m4,m6,a1,a2,hx1,hx2,hln2]<;>try refine Ya ?_)|refine X2 ?_ ?_|(refine Xd ?_ ?_<;>intro hcd<;>try exact Xx))
  |true=>
   rw [hlg] at cl
   rw [hlg,Bool.true_and] at hse
   with_reducible repeat' (first|refine Sp.h ?_|((first|refine Wd ?_|refine Ss.h ?_|refine Sc.h (cl) ?_|(refine Sb.h ?_ ?_ ?_<;>(try intro hgd)<;>try exact Xy))<;>simp -implicitDefEqProofs (maxSteps:=2000000) [hP,hN,g3,b3,g2,g13,g14,g15,g7,b7,b10,b12,hlt,hw,hx,hxi,hw1,hw2,q1,q2,m2,m4,m6,a1,a2,hx1,hx2,hln2]<;>try refine Ya ?_)|refine X2 ?_ ?_|(refine Xd ?_ ?_<;>intro hcd<;>try exact Xx))
   refine WP.loopN [12] k (fun j st=>st.t 3=.ptr 3 0∧st.h 3=some (.box [.pv (.sl (t.maps.map aV)),.pv (.sl (t.conf.map ba))] true false)∧st.t 2=.pv (Z tick)∧st.t 13=.pv (.sl (plan.map zs))∧st.t 14=.pv (Z plan.length)∧st.t 15=.pv (Z k)∧st.t 7=.arr 7 k∧st.h 7=some (.row 69 3 xs 0)∧st.t 10=.ptr 10 0∧st.h 10=some (.box [.pv (Z k),.pv (Z x1),.pv (Z x2)] true false)∧st.h 12=none∧st.t 39=.arr 7 k∧st.t 40=.pv (Z k)∧st.t 41=.pv (Z j)∧tA (fun i=>!fg t ⟨k,x1,x2⟩ (eK plan tick i)) j) (by simp [cJ,g3,b3,g2,g13,g14,g15,g7,b7,b10,b12,hln2]) ?_
   clear g3 b3 g2 g13 g14 g15 g7 b7 b10 b12
   rintro j st hj ⟨g3,b3,g2,g13,g14,g15,g7,b7,g10,b10,b12,g39,g40,g41,hq'⟩
   by_cases hjk : j < k
   ·have hwj:=ak hjk (by omega)
    have hxj:=hat j hjk
    have hxe : xs[j]'(by omega)=bz (eK plan tick j):=(List.getElem?_eq_some_iff.1 hxj).2
    have hn9:=cK hq'
    have hm9:=cH (p:=fun i=>!fg t ⟨k,x1,x2⟩ (eK plan tick i)) hjk
    have cc:=ccl j
    rw [ov] at cc
    have hjl : j < xs.length:=by omega
    try simp only at hn9 hm9
    generalize hmj : eK plan tick j=mj at *
    obtain ⟨c1,c2,c3⟩:=mj
    cases hcl : fg t ⟨k,x1,x2⟩ ⟨c1,c2,c3⟩ with
    |true=>
     rw [hcl] at cc
     have hsf : aT t plan tick k=false:=by rw [hse];exact hm9 (by rw [hcl];rfl)
     rw [hms hsf]
     with_reducible repeat' (first|refine Sp.h ?_|((first|refine Wd ?_|refine Ss.h ?_|refine Sc.h (cc) ?_|(refine Sb.h ?_ ?_ ?_<;>(try intro hgd)<;>try exact Xy))<;>simp -implicitDefEqProofs (maxSteps:=2000000) [hP,hN,g3,b3,g2,g13,g14,g15,g7,b7,g10,b10,b12,g39,g40,g41,hjk,hwj,hxj,hxe,hjl,hln2]<;>try refine Ya ?_)|refine X2 ?_ ?_|(refine Xd ?_ ?_<;>intro hcd<;>try exact Xx))
    |false=>
     rw [hcl] at cc
     with_reducible repeat' (first|refine Sp.h ?_|((first|refine Wd ?_|refine Ss.h ?_|refine Sc.h (cc) ?_|(refine Sb.h ?_ ?_ ?_<;>(try intro hgd)<;>try exact Xy))<;>simp -implicitDefEqProofs (maxSteps:=2000000) [hP,hN,g3,b3,g2,g13,g14,g15,g7,b7,g10,b10,b12,g39,g40,g41,hjk,hwj,hxj,hxe,hjl,hln2]<;>try refine Ya ?_)|refine X2 ?_ ?_|(refine Xd ?_ ?_<;>intro hcd<;>try exact Xx))
     all_goals exact hn9 (by rw [hcl];rfl)
   ·have hjk' : j=k:=by omega
    subst hjk'
    have hst : aT t plan tick j=true:=by rw [hse];exact dv hq' (by omega)
    have hnn:=hnx hst
    have hyl : ys=xs++[bz ⟨j,x1,x2⟩]:=hsu
    with_reducible repeat' (first|refine Sp.h ?_|((first|refine Wd ?_|refine Ss.h ?_|(refine Sb.h ?_ ?_ ?_<;>(try intro hgd)<;>try exact Xy))<;>simp -implicitDefEqProofs (maxSteps:=2000000) [hP,hN,g3,b3,g2,g13,g14,g15,g7,b7,g10,b10,b12,g39,g40,g41,hw,hln2,show (j+1) * 24≤140737488355328 by omega,show j≤9223372036854775806 by omega,show j+1≤9223372036854775807 by omega]<;>try refine Ya ?_)|refine X2 ?_ ?_|(refine Xd ?_ ?_<;>intro hcd<;>try exact Xx))
    all_goals exact ⟨hyl.symm,hnn⟩
 ·rw [dv hq hlt]
  with_reducible repeat' (first|refine Sp.h ?_|((first|refine Wd ?_|refine Ss.h ?_|(refine Sb.h ?_ ?_ ?_<;>(try intro hgd)<;>try exact Xy))<;>simp -implicitDefEqProofs (maxSteps:=2000000) [hP,hN,g3,b3,g2,g13,g14,g15,g7,b7,b10,b12,hlt]<;>try refine Ya ?_)|refine X2 ?_ ?_|(refine Xd ?_ ?_<;>intro hcd<;>try exact Xx))
end Go.Ab
namespace Go.Ab
open Go.Proofs
structure PLk (plan : List (List Int)) : Prop where
 nl : plan.length≤9223372036854775807
 el : ∀ l ∈ plan,l.length≤9223372036854775807
theorem pi (t : aU) (starts goals : List Int) (plan : List (List Int)) : mm t starts goals plan=(aG t && (decide (starts.length=t.maps.length) && (decide (goals.length=t.maps.length) && (decide (plan.length=t.maps.length) &&
 (decide (1≤((plan[0]?).getD []).length) && (decide (((plan[0]?).getD []).length≤65) && ((List.range plan.length).all (bn plan starts goals ((plan[0]?).getD []).length) &&
   (List.range (max 1 (((plan[0]?).getD []).length - 1))).all fun tick=>(List.range plan.length).all (aT t plan tick)))))))):=rfl
theorem pj {plan : List (List Int)} {starts goals l : List Int} {n k : Nat} {a b c d : Int} (hx : plan[k]?=some l) (hl : l.length=n) (h0 : l[0]?=some a) (h1 : l[n - 1]?=some b) (hs : starts[k]?=some c) (hg : goals[k]?=some d) : bn plan starts goals n k=(a==c && b==d):=by
 unfold bn;rw [hx,Option.getD_some,hl,h0,h1,hs,hg];simp
theorem oe {plan : List (List Int)} {starts goals l : List Int} {n k : Nat} (hx : plan[k]?=some l) (hl : l.length≠n) : bn plan starts goals n k=false:=by
 unfold bn;rw [hx,Option.getD_some,decide_eq_false hl];rfl
theorem mV {plan : List (List Int)} {starts goals : List Int} {n : Nat} (h : (List.range plan.length).all (bn plan starts goals n)=true) : ∀ l ∈ plan,l.length=n:=by
 intro l hl
 obtain ⟨k,hk⟩:=List.mem_iff_getElem?.1 hl
 have hlt:=(List.getElem?_eq_some_iff.1 hk).1
 have:=List.all_eq_true.1 h k (List.mem_range.2 hlt)
 simp only [bn,hk,Option.getD_some,Bool.and_eq_true,decide_eq_true_eq] at this
 exact this.1
theorem mi {t : aU} (h : aG t=true) : 1≤t.maps.length∧t.maps.length≤4:=by
 simp only [aG,Bool.and_eq_true,decide_eq_true_eq] at h;exact ⟨h.1,h.2.1⟩
theorem vR (t : aU) (starts goals : List Int) (plan : List (List Int)) (ht : TmOk t) (hp : PLk plan) (hss : starts.length≤9223372036854775807) (hgg : goals.length≤9223372036854775807) : am Try.prog 26 [.pv (bR t),.pv (zs starts),.pv (zs goals),.pv (.sl (plan.map zs))] [] [] (.pv (B (mm t starts goals plan))):=by
 have cc:=tM t ht
 rw [pi]
 cases hc : aG t with
 |false=>
  rw [hc] at cc
  rw [Bool.false_and]
  refine Dp Try.func26 ?_
  intro C hP hN
  simp only [Try.f26] at hN ⊢
  with_reducible repeat' (first|refine Sp.h ?_|((first|refine Wd ?_|refine Ss.h ?_|refine Sc.h (cc) ?_|(refine Sb.h ?_ ?_ ?_<;>(try intro hgd)<;>try exact Xy))<;>simp -implicitDefEqProofs (maxSteps:=2000000) [hP,hN]<;>try refine Ya ?_)|refine X2 ?_ ?_|(refine Xd ?_ ?_<;>intro hcd<;>try exact Xx))
 |true=>
  rw [hc] at cc
  rw [Bool.true_and]
  obtain ⟨k1,k2⟩:=mi hc
  by_cases hlens : starts.length=t.maps.length∧goals.length=t.maps.length∧plan.length=t.maps.length
  ·obtain ⟨l1,l2,l3⟩:=hlens
   rw [decide_eq_true l1,decide_eq_true l2,decide_eq_true l3,Bool.true_and,Bool.true_and,Bool.true_and]
   have hpos : 0 < plan.length:=by omega
   have hx0 : plan[0]?=some plan[0]:=List.getElem?_eq_getElem hpos
   have hel0:=hp.el _ (List.getElem_mem hpos)
   rw [hx0,Option.getD_some]
   obtain ⟨n,hn⟩ : ∃ n,plan[0].length=n:=⟨_,rfl⟩
   rw [hn]
   generalize hxe0 : plan[0]=p0 at *
   by_cases hcnt : 1≤n∧n≤65
   ·obtain ⟨n1,n2⟩:=hcnt
    rw [decide_eq_true n1,decide_eq_true n2,Bool.true_and,Bool.true_and]
    have w1 : ¬ (n : Int) < 1:=by omega
    have w2 : ¬ 65 < (n : Int):=by omega
    have w3 : IntKind.i64.wrap ((n : Int) - 1)=((n - 1 : Nat) : Int):=by rw [IntKind.wrap_i64];omega
    have w4 : max ((n - 1 : Nat) : Int) 1=((max 1 (n - 1) : Nat) : Int):=by omega
    have w5 : ¬ n=0:=by omega
    have w6 : (if ((1 : Int)) > ((n - 1 : Nat) : Int) then (1 : Int) else ((n - 1 : Nat) : Int))=((max 1 (n - 1) : Nat) : Int):=by split<;>omega
    have w7 : max 1 ((n - 1 : Nat) : Int)=((max 1 (n - 1) : Nat) : Int):=by omega
    have w8 : n - 1 < n:=by omega
    have w9 : ¬ ((n - 1 : Nat) : Int) < 0:=by omega
    have hnM : max 1 (n - 1)≤64:=by omega
    have htk : ∀ q,q < max 1 (n - 1)→q < max 1 (n - 1):=fun _ h=>h
    obtain ⟨N1,hN1⟩ : ∃ N1,n - 1=N1:=⟨_,rfl⟩
    obtain ⟨M,hM⟩ : ∃ M,max 1 (n - 1)=M:=⟨_,rfl⟩
    rw [hM] at w4 w6 w7 hnM
    rw [hN1] at w3 w4 w6 w7 w8 w9
    rw [hM]
    obtain ⟨EA,hEA⟩ : ∃ x,x=(List.range plan.length).all (bn plan starts goals n):=⟨_,rfl⟩
    obtain ⟨SA,hSA⟩ : ∃ x,x=(List.range M).all fun tick=>(List.range plan.length).all (aT t plan tick):=⟨_,rfl⟩
    rw [← hEA,← hSA]
    refine Dp Try.func26 ?_
    intro C hP hN
    simp only [Try.f26] at hN ⊢
    with_reducible repeat' (first|refine Sp.h ?_|((first|refine Wd ?_|refine Ss.h ?_|refine Sc.h (cc) ?_|(refine Sb.h ?_ ?_ ?_<;>(try intro hgd)<;>try exact Xy))<;>simp -implicitDefEqProofs (maxSteps:=2000000) [hP,hN,l1,l2,l3,hx0,hxe0,hn,hpos,w1,w2,w5]<;>try refine Ya ?_)|refine X2 ?_ ?_|(refine Xd ?_ ?_<;>intro hcd<;>try exact Xx))
    refine WP.loopN [] plan.length (fun k st=>st.t 4=.ptr 4 0∧st.h 4=some (.box [.pv (.sl (t.maps.map aV)),.pv (.sl (t.conf.map ba))] true false)∧st.t 1=.pv (zs starts)∧st.t 2=.pv (zs goals)∧st.t 3=.pv (.sl (plan.map zs))∧st.t 10=.pv (Z n)∧st.t 48=.pv (.sl (plan.map zs))∧st.t 49=.pv (Z plan.length)∧st.t 50=.pv (Z k)∧tA (bn plan starts goals n) k) (by simp [cJ,l3]) ?_
    rintro k st hk ⟨g4,b4,g1,g2,g3,g10,g48,g49,g50,hq⟩
    by_cases hlt : k < plan.length
    ·have hw:=ak hlt hp.nl
     have hxi : plan[k]?=some plan[k]:=List.getElem?_eq_getElem hlt
     have hnx:=cK hq
     have hms:=cH (p:=bn plan starts goals n) hlt
     generalize hx : plan[k]=l at *
     by_cases hln : l.length=n
     ·have hl0 : 0 < l.length:=by omega
      have hl1 : N1 < l.length:=by omega
      have a0:=bG hl0
      have a1:=bG hl1
      have hks : k < starts.length:=by omega
      have hkg : k < goals.length:=by omega
      have a2:=bG hks
      have a3:=bG hkg
      have hkm : k < t.maps.length:=by omega
      have hee:=pj hxi hln a0 (by rw [hN1];exact a1) a2 a3
      generalize hx0' : l[0]=x0 at *
      generalize hx1 : l[N1]=x1 at *
      generalize hx2 : starts[k]=x2 at *
      generalize hx3 : goals[k]=x3 at *
      generalize bn plan starts goals n k=ee at *
      rw [← hEA] at hms
      clear hEA hSA
      with_reducible repeat' (first|refine Sp.h ?_|((first|refine Wd ?_|refine Ss.h ?_|(refine Sb.h ?_ ?_ ?_<;>(try intro hgd)<;>try exact Xy))<;>simp -implicitDefEqProofs (maxSteps:=2000000) [hP,hN,g4,b4,g1,g2,g3,g10,g48,g49,g50,hlt,hw,hx,hxi,hln,hl0,hl1,a0,a1,a2,a3,hks,hkg,hx0',hx1,hx2,hx3,w3,w8,w9,l1,l2,l3,hkm]<;>try refine Ya ?_)|refine X2 ?_ ?_|(refine Xd ?_ ?_<;>intro hcd<;>try exact Xx))
      all_goals first|exact hnx (by rw [hee];simp_all)|(rw [hms (by rw [hee];simp_all)];simp;done)|trace_state
     ·rw [← hEA] at hms
      rw [hms (oe hxi hln)]
      with_reducible repeat' (first|refine Sp.h ?_|((first|refine Wd ?_|refine Ss.h ?_|(refine Sb.h ?_ ?_ ?_<;>(try intro hgd)<;>try exact Xy))<;>simp -implicitDefEqProofs (maxSteps:=2000000) [hP,hN,g4,b4,g1,g2,g3,g10,g48,g49,g50,hlt,hw,hx,hxi,hln]<;>try refine Ya ?_)|refine X2 ?_ ?_|(refine Xd ?_ ?_<;>intro hcd<;>try exact Xx))
    ·have hall:=dv hq hlt
     have hlens:=mV hall
     rw [← hEA] at hall
     rw [hall,Bool.true_and]
     with_reducible repeat' (first|refine Sp.h ?_|((first|refine Wd ?_|refine Ss.h ?_|(refine Sb.h ?_ ?_ ?_<;>(try intro hgd)<;>try exact Xy))<;>simp -implicitDefEqProofs (maxSteps:=2000000) [hP,hN,g4,b4,g1,g2,g3,g10,g48,g49,g50,hlt,w3,w4,w6,w7]<;>try refine Ya ?_)|refine X2 ?_ ?_|(refine Xd ?_ ?_<;>intro hcd<;>try exact Xx))
     refine WP.loopN [] M (fun q st=>st.t 4=.ptr 4 0∧st.h 4=some (.box [.pv (.sl (t.maps.map aV)),.pv (.sl (t.conf.map ba))] true false)∧st.t 3=.pv (.sl (plan.map zs))∧st.t 84=.pv (Z M)∧st.t 85=.pv (Z q)∧tA (fun tick=>(List.range plan.length).all (aT t plan tick)) q) (by simp [cJ,g4,b4,g3]) ?_
     clear g4 b4 g1 g2 g3 g10 g48 g49 g50
     rintro q st hq9 ⟨g4,b4,g3,g84,g85,hq'⟩
     by_cases hqM : q < M
     ·have hw:=ak hqM (by omega)
      have ct:=vQ t plan q n ht hlens n1 n2 (by rw [hM];exact hqM) (by omega)
      have hnx:=cK hq'
      have hms:=cH (p:=fun tick=>(List.range plan.length).all (aT t plan tick)) hqM
      rw [← hSA] at hms
      cases hst : (List.range plan.length).all (aT t plan q) with
      |true=>
       rw [hst] at ct
       with_reducible repeat' (first|refine Sp.h ?_|((first|refine Wd ?_|refine Ss.h ?_|refine Sc.h (ct) ?_|(refine Sb.h ?_ ?_ ?_<;>(try intro hgd)<;>try exact Xy))<;>simp -implicitDefEqProofs (maxSteps:=2000000) [hP,hN,g4,b4,g3,g84,g85,hqM,hw]<;>try refine Ya ?_)|refine X2 ?_ ?_|(refine Xd ?_ ?_<;>intro hcd<;>try exact Xx))
       all_goals exact hnx hst
      |false=>
       rw [hst] at ct
       rw [hms hst]
       with_reducible repeat' (first|refine Sp.h ?_|((first|refine Wd ?_|refine Ss.h ?_|refine Sc.h (ct) ?_|(refine Sb.h ?_ ?_ ?_<;>(try intro hgd)<;>try exact Xy))<;>simp -implicitDefEqProofs (maxSteps:=2000000) [hP,hN,g4,b4,g3,g84,g85,hqM,hw]<;>try refine Ya ?_)|refine X2 ?_ ?_|(refine Xd ?_ ?_<;>intro hcd<;>try exact Xx))
     ·have hSt:=dv hq' hqM
      rw [← hSA] at hSt
      rw [hSt]
      with_reducible repeat' (first|refine Sp.h ?_|((first|refine Wd ?_|refine Ss.h ?_|(refine Sb.h ?_ ?_ ?_<;>(try intro hgd)<;>try exact Xy))<;>simp -implicitDefEqProofs (maxSteps:=2000000) [hP,hN,g4,b4,g3,g84,g85,hqM]<;>try refine Ya ?_)|refine X2 ?_ ?_|(refine Xd ?_ ?_<;>intro hcd<;>try exact Xx))
   ·have hf : (decide (1≤n) && (decide (n≤65) && ((List.range plan.length).all (bn plan starts goals n) && (List.range (max 1 (n - 1))).all fun tick=>(List.range plan.length).all (aT t plan tick))))=false:=by
     by_cases n1 : 1≤n
     ·rw [decide_eq_true n1,decide_eq_false (show ¬ n≤65 by omega)];rfl
     ·rw [decide_eq_false n1];rfl
    rw [hf]
    refine Dp Try.func26 ?_
    intro C hP hN
    simp only [Try.f26] at hN ⊢
    with_reducible repeat' (first|refine Sp.h ?_|((first|refine Wd ?_|refine Ss.h ?_|refine Sc.h (cc) ?_|(refine Sb.h ?_ ?_ ?_<;>(try intro hgd)<;>try exact Xy))<;>simp -implicitDefEqProofs (maxSteps:=2000000) [hP,hN,l1,l2,l3,hx0,hxe0,hn,hpos]<;>try refine Ya ?_)|refine X2 ?_ ?_|(refine Xd ?_ ?_<;>intro hcd<;>try exact Xx))
    all_goals (exfalso;simp at *;omega)
  ·have hf : (decide (starts.length=t.maps.length) && (decide (goals.length=t.maps.length) && (decide (plan.length=t.maps.length) && (decide (1≤((plan[0]?).getD []).length) && (decide (((plan[0]?).getD []).length≤65) && ((List.range plan.length).all (bn plan starts goals ((plan[0]?).getD []).length) && (List.range (max 1 (((plan[0]?).getD []).length - 1))).all fun tick=>(List.range plan.length).all (aT t plan tick)))))))=false:=by
    rw [← Bool.not_eq_true];intro h
    simp only [Bool.and_eq_true,decide_eq_true_eq] at h
    exact hlens ⟨h.1,h.2.1,h.2.2.1⟩
   rw [hf]
   refine Dp Try.func26 ?_
   intro C hP hN
   simp only [Try.f26] at hN ⊢
   with_reducible repeat' (first|refine Sp.h ?_|((first|refine Wd ?_|refine Ss.h ?_|refine Sc.h (cc) ?_|(refine Sb.h ?_ ?_ ?_<;>(try intro hgd)<;>try exact Xy))<;>simp -implicitDefEqProofs (maxSteps:=2000000) [hP,hN]<;>try refine Ya ?_)|refine X2 ?_ ?_|(refine Xd ?_ ?_<;>intro hcd<;>try exact Xx))
   all_goals (exfalso;simp at *;omega)
end Go.Ab
namespace Go.Ab
open Go.Proofs
theorem vh (t : aU) (starts goals : List Int) (plan : List (List Int)) (ht : TmOk t) (hp : PLk plan) (hss : starts.length≤9223372036854775807) (hgg : goals.length≤9223372036854775807) : am Try.prog 21 [.pv (bR t),.pv (zs starts),.pv (zs goals),.pv (.sl (plan.map zs))] [] [] (.pv (B (mm t starts goals plan))):=by
 have cc:=vP t ht
 rw [pi]
 cases hc : aG t with
 |false=>
  rw [hc] at cc
  rw [Bool.false_and]
  refine Dp Try.func21 ?_
  intro C hP hN
  simp only [Try.f21] at hN ⊢
  with_reducible repeat' (first|refine Sp.h ?_|((first|refine Wd ?_|refine Ss.h ?_|refine Sc.h (cc) ?_|(refine Sb.h ?_ ?_ ?_<;>(try intro hgd)<;>try exact Xy))<;>simp -implicitDefEqProofs (maxSteps:=2000000) [hP,hN]<;>try refine Ya ?_)|refine X2 ?_ ?_|(refine Xd ?_ ?_<;>intro hcd<;>try exact Xx))
 |true=>
  rw [hc] at cc
  rw [Bool.true_and]
  obtain ⟨k1,k2⟩:=mi hc
  by_cases hlens : starts.length=t.maps.length∧goals.length=t.maps.length∧plan.length=t.maps.length
  ·obtain ⟨l1,l2,l3⟩:=hlens
   rw [decide_eq_true l1,decide_eq_true l2,decide_eq_true l3,Bool.true_and,Bool.true_and,Bool.true_and]
   have hpos : 0 < plan.length:=by omega
   have hx0 : plan[0]?=some plan[0]:=List.getElem?_eq_getElem hpos
   have hel0:=hp.el _ (List.getElem_mem hpos)
   rw [hx0,Option.getD_some]
   obtain ⟨n,hn⟩ : ∃ n,plan[0].length=n:=⟨_,rfl⟩
   rw [hn]
   generalize hxe0 : plan[0]=p0 at *
   by_cases hcnt : 1≤n∧n≤65
   ·obtain ⟨n1,n2⟩:=hcnt
    rw [decide_eq_true n1,decide_eq_true n2,Bool.true_and,Bool.true_and]
    have w1 : ¬ (n : Int) < 1:=by omega
    have w2 : ¬ 65 < (n : Int):=by omega
    have w3 : IntKind.i64.wrap ((n : Int) - 1)=((n - 1 : Nat) : Int):=by rw [IntKind.wrap_i64];omega
    have w4 : max ((n - 1 : Nat) : Int) 1=((max 1 (n - 1) : Nat) : Int):=by omega
    have w5 : ¬ n=0:=by omega
    have w6 : (if ((n - 1 : Nat) : Int) > 1 then ((n - 1 : Nat) : Int) else (1 : Int))=((max 1 (n - 1) : Nat) : Int):=by split<;>omega
    have w7 : max 1 ((n - 1 : Nat) : Int)=((max 1 (n - 1) : Nat) : Int):=by omega
    have w8 : n - 1 < n:=by omega
    have w9 : ¬ ((n - 1 : Nat) : Int) < 0:=by omega
    have hnM : max 1 (n - 1)≤64:=by omega
    obtain ⟨N1,hN1⟩ : ∃ N1,n - 1=N1:=⟨_,rfl⟩
    obtain ⟨M,hM⟩ : ∃ M,max 1 (n - 1)=M:=⟨_,rfl⟩
    rw [hM] at w4 w6 w7 hnM
    rw [hN1] at w3 w4 w6 w7 w8 w9
    rw [hM]
    obtain ⟨EA,hEA⟩ : ∃ x,x=(List.range plan.length).all (bn plan starts goals n):=⟨_,rfl⟩
    obtain ⟨SA,hSA⟩ : ∃ x,x=(List.range M).all fun tick=>(List.range plan.length).all (aT t plan tick):=⟨_,rfl⟩
    rw [← hEA,← hSA]
    refine Dp Try.func21 ?_
    intro C hP hN
    simp only [Try.f21] at hN ⊢
    with_reducible repeat' (first|refine Sp.h ?_|((first|refine Wd ?_|refine Ss.h ?_|refine Sc.h (cc) ?_|(refine Sb.h ?_ ?_ ?_<;>(try intro hgd)<;>try exact Xy))<;>simp -implicitDefEqProofs (maxSteps:=2000000) [hP,hN,l1,l2,l3,hx0,hxe0,hn,hpos,w1,w2,w5]<;>try refine Ya ?_)|refine X2 ?_ ?_|(refine Xd ?_ ?_<;>intro hcd<;>try exact Xx))
    refine WP.loopN [] plan.length (fun k st=>st.t 4=.ptr 4 0∧st.h 4=some (.box [.pv (.sl (t.maps.map aV)),.pv (.sl (t.conf.map ba))] true false)∧st.t 1=.pv (zs starts)∧st.t 2=.pv (zs goals)∧st.t 3=.pv (.sl (plan.map zs))∧st.t 9=.pv (Z n)∧st.t 10=.pv (Z k)∧st.h 13=none∧tA (bn plan starts goals n) k) (by simp [cJ]) ?_
    rintro k st hk ⟨g4,b4,g1,g2,g3,g9,g10,b13,hq⟩
    by_cases hlt : k < plan.length
    ·have hw:=ak hlt hp.nl
     have hxi : plan[k]?=some plan[k]:=List.getElem?_eq_getElem hlt
     have hnx:=cK hq
     have hms:=cH (p:=bn plan starts goals n) hlt
     have hltm : k < t.maps.length:=by omega
     generalize hx : plan[k]=l at *
     by_cases hln : l.length=n
     ·have hl0 : 0 < l.length:=by omega
      have hl1 : N1 < l.length:=by omega
      have a0:=bG hl0
      have a1:=bG hl1
      have hks : k < starts.length:=by omega
      have hkg : k < goals.length:=by omega
      have a2:=bG hks
      have a3:=bG hkg
      have hee:=pj hxi hln a0 (by rw [hN1];exact a1) a2 a3
      generalize hx0' : l[0]=x0 at *
      generalize hx1 : l[N1]=x1 at *
      generalize hx2 : starts[k]=x2 at *
      generalize hx3 : goals[k]=x3 at *
      generalize bn plan starts goals n k=ee at *
      rw [← hEA] at hms
      clear hEA hSA
      with_reducible repeat' (first|refine Sp.h ?_|((first|refine Wd ?_|refine Ss.h ?_|(refine Sb.h ?_ ?_ ?_<;>(try intro hgd)<;>try exact Xy))<;>simp -implicitDefEqProofs (maxSteps:=2000000) [hP,hN,g4,b4,g1,g2,g3,g9,g10,b13,hlt,hltm,hw,hx,hxi,hln,hl0,hl1,a0,a1,a2,a3,hks,hkg,hx0',hx1,hx2,hx3,w3,w8,w9,l1,l2,l3]<;>try refine Ya ?_)|refine X2 ?_ ?_|(refine Xd ?_ ?_<;>intro hcd<;>try exact Xx))
      all_goals first|exact hnx (by rw [hee];simp_all)|(rw [hms (by rw [hee];simp_all)];simp;done)|trace_state
     ·rw [← hEA] at hms
      rw [hms (oe hxi hln)]
      with_reducible repeat' (first|refine Sp.h ?_|((first|refine Wd ?_|refine Ss.h ?_|(refine Sb.h ?_ ?_ ?_<;>(try intro hgd)<;>try exact Xy))<;>simp -implicitDefEqProofs (maxSteps:=2000000) [hP,hN,g4,b4,g1,g2,g3,g9,g10,b13,hlt,hltm,hw,hx,hxi,hln,l3]<;>try refine Ya ?_)|refine X2 ?_ ?_|(refine Xd ?_ ?_<;>intro hcd<;>try exact Xx))
    ·have hall:=dv hq hlt
     have hlens:=mV hall
     rw [← hEA] at hall
     rw [hall,Bool.true_and]
     have hltm : ¬ k < t.maps.length:=by omega
     with_reducible repeat' (first|refine Sp.h ?_|((first|refine Wd ?_|refine Ss.h ?_|(refine Sb.h ?_ ?_ ?_<;>(try intro hgd)<;>try exact Xy))<;>simp -implicitDefEqProofs (maxSteps:=2000000) [hP,hN,g4,b4,g1,g2,g3,g9,g10,b13,hlt,hltm,w3,w4,w6,w7,l3]<;>try refine Ya ?_)|refine X2 ?_ ?_|(refine Xd ?_ ?_<;>intro hcd<;>try exact Xx))
     refine WP.loopN [13] M (fun q st=>st.t 4=.ptr 4 0∧st.h 4=some (.box [.pv (.sl (t.maps.map aV)),.pv (.sl (t.conf.map ba))] true false)∧st.t 3=.pv (.sl (plan.map zs))∧st.t 9=.pv (Z n)∧st.t 11=.pv (Z q)∧st.h 13=none∧tA (fun tick=>(List.range plan.length).all (aT t plan tick)) q) (by simp [cJ,g4,b4,g3,g9,b13]) ?_
     clear g4 b4 g1 g2 g3 g10 g9 b13
     rintro q st hq9 ⟨g4,b4,g3,g9,g11,b13,hq'⟩
     by_cases hqM : q < M
     ·have hw:=ak hqM (by omega)
      have hnx:=cK hq'
      have hms:=cH (p:=fun tick=>(List.range plan.length).all (aT t plan tick)) hqM
      rw [← hSA] at hms
      try simp only at hnx hms
      obtain ⟨S1,hS1⟩ : ∃ x,x=(List.range plan.length).all (aT t plan q):=⟨_,rfl⟩
      rw [← hS1] at hnx hms
      with_reducible repeat' (first|refine Sp.h ?_|((first|refine Wd ?_|refine Ss.h ?_|(refine Sb.h ?_ ?_ ?_<;>(try intro hgd)<;>try exact Xy))<;>simp -implicitDefEqProofs (maxSteps:=2000000) [hP,hN,g4,b4,g3,g9,g11,b13,hqM,hw,w3,w4,w6,w7]<;>try refine Ya ?_)|refine X2 ?_ ?_|(refine Xd ?_ ?_<;>intro hcd<;>try exact Xx))
      refine WP.loopN [13] plan.length (fun k st=>st.t 4=.ptr 4 0∧st.h 4=some (.box [.pv (.sl (t.maps.map aV)),.pv (.sl (t.conf.map ba))] true false)∧st.t 3=.pv (.sl (plan.map zs))∧st.t 9=.pv (Z n)∧st.t 11=.pv (Z q)∧st.t 12=.pv (Z k)∧st.h 13=none∧tA (aT t plan q) k) (by simp [cJ,g4,b4,g3,g9,g11,b13]) ?_
      clear g4 b4 g3 g9 g11 b13
      rintro k st hk9 ⟨g4,b4,g3,g9,g11,g12,b13,hq''⟩
      by_cases hlt' : k < plan.length
      ·have hwk:=ak hlt' hp.nl
       have hxi : plan[k]?=some plan[k]:=List.getElem?_eq_getElem hlt'
       have hln:=hlens _ (List.getElem_mem hlt')
       have hltm' : k < t.maps.length:=by omega
       have hmk : eK plan q k=bi plan[k] k q:=by rw [eK,hxi];rfl
       have cm:=uA plan[k] k q (by omega) (by omega) (by omega)
       generalize hx : plan[k]=l at *
       have hse:=ph t plan q k
       rw [hmk] at hse
       have hnx2:=cK hq''
       have hms2:=cH (p:=aT t plan q) hlt'
       rw [← hS1] at hms2
       obtain ⟨⟨y1,y2,y3⟩,hy⟩ : ∃ y,bi l k q=y:=⟨_,rfl⟩
       rw [hy] at cm hse
       have cl:=tK t ⟨y1,y2,y3⟩ ht
       cases hlg : bm t ⟨y1,y2,y3⟩ with
       |false=>
        rw [hlg] at cl
        have hsf : aT t plan q k=false:=by rw [hse,hlg];rfl
        rw [hms (hms2 hsf)]
        with_reducible repeat' (first|refine Sp.h ?_|((first|refine Wd ?_|refine Ss.h ?_|refine Sc.h (cm) ?_|refine Sc.h (cl) ?_|(refine Sb.h ?_ ?_ ?_<;>(try intro hgd)<;>try exact Xy))<;>simp -implicitDefEqProofs (maxSteps:=2000000) [hP,hN,g4,b4,g3,g9,g11,g12,b13,hlt',hltm',hwk,hx,hxi,l3]<;>try refine Ya ?_)|refine X2 ?_ ?_|(refine Xd ?_ ?_<;>intro hcd<;>try exact Xx))
       |true=>
        rw [hlg] at cl
        rw [hlg,Bool.true_and] at hse
        with_reducible repeat' (first|refine Sp.h ?_|((first|refine Wd ?_|refine Ss.h ?_|refine Sc.h (cm) ?_|refine Sc.h (cl) ?_|(refine Sb.h ?_ ?_ ?_<;>(try intro hgd)<;>try exact Xy))<;>simp -implicitDefEqProofs (maxSteps:=2000000) [hP,hN,g4,b4,g3,g9,g11,g12,b13,hlt',hltm',hwk,hx,hxi,l3]<;>try refine Ya ?_)|refine X2 ?_ ?_|(refine Xd ?_ ?_<;>intro hcd<;>try exact Xx))
        refine WP.loopN [] k (fun j st=>st.t 4=.ptr 4 0∧st.h 4=some (.box [.pv (.sl (t.maps.map aV)),.pv (.sl (t.conf.map ba))] true false)∧st.t 3=.pv (.sl (plan.map zs))∧st.t 9=.pv (Z n)∧st.t 11=.pv (Z q)∧st.t 12=.pv (Z k)∧st.t 13=.ptr 13 0∧st.h 13=some (.box [.pv (Z y1),.pv (Z y2),.pv (Z y3)] true false)∧st.t 14=.pv (Z j)∧tA (fun i=>!fg t ⟨y1,y2,y3⟩ (eK plan q i)) j) (by simp [cJ,g4,b4,g3,g9,g11,g12]) ?_
        clear g4 b4 g3 g9 g11 g12 b13
        rintro j st hj ⟨g4,b4,g3,g9,g11,g12,g13,b13,g14,hq3⟩
        by_cases hjk : j < k
        ·have hwj:=ak hjk (by omega)
         have hjp : j < plan.length:=by omega
         have hxj : plan[j]?=some plan[j]:=List.getElem?_eq_getElem hjp
         have hlnj:=hlens _ (List.getElem_mem hjp)
         have hjm : j < t.maps.length:=by omega
         have hmj : eK plan q j=bi plan[j] j q:=by rw [eK,hxj];rfl
         have cmj:=uA plan[j] j q (by omega) (by omega) (by omega)
         generalize hxjj : plan[j]=lj at *
         have hn3:=cK hq3
         have hm3:=cH (p:=fun i=>!fg t ⟨y1,y2,y3⟩ (eK plan q i)) hjk
         try simp only at hn3 hm3
         rw [hmj] at hn3 hm3
         obtain ⟨⟨z1,z2,z3⟩,hz⟩ : ∃ y,bi lj j q=y:=⟨_,rfl⟩
         rw [hz] at cmj hn3 hm3
         have ccl:=vL t ⟨y1,y2,y3⟩ ⟨z1,z2,z3⟩ ht.cl
         cases hcl : fg t ⟨y1,y2,y3⟩ ⟨z1,z2,z3⟩ with
         |true=>
          rw [hcl] at ccl
          have hsf : aT t plan q k=false:=by rw [hse];exact hm3 (by rw [hcl];rfl)
          rw [hms (hms2 hsf)]
          with_reducible repeat' (first|refine Sp.h ?_|((first|refine Wd ?_|refine Ss.h ?_|refine Sc.h (cmj) ?_|refine Sc.h (ccl) ?_|(refine Sb.h ?_ ?_ ?_<;>(try intro hgd)<;>try exact Xy))<;>simp -implicitDefEqProofs (maxSteps:=2000000) [hP,hN,g4,b4,g3,g9,g11,g12,g13,b13,g14,hjk,hwj,hjp,hxj,hxjj,hjm,l3]<;>try refine Ya ?_)|refine X2 ?_ ?_|(refine Xd ?_ ?_<;>intro hcd<;>try exact Xx))
         |false=>
          rw [hcl] at ccl
          with_reducible repeat' (first|refine Sp.h ?_|((first|refine Wd ?_|refine Ss.h ?_|refine Sc.h (cmj) ?_|refine Sc.h (ccl) ?_|(refine Sb.h ?_ ?_ ?_<;>(try intro hgd)<;>try exact Xy))<;>simp -implicitDefEqProofs (maxSteps:=2000000) [hP,hN,g4,b4,g3,g9,g11,g12,g13,b13,g14,hjk,hwj,hjp,hxj,hxjj,hjm,l3]<;>try refine Ya ?_)|refine X2 ?_ ?_|(refine Xd ?_ ?_<;>intro hcd<;>try exact Xx))
          all_goals exact hn3 (by rw [hcl];rfl)
        ·have hst : aT t plan q k=true:=by rw [hse];exact dv hq3 hjk
         have hnn:=hnx2 hst
         with_reducible repeat' (first|refine Sp.h ?_|((first|refine Wd ?_|refine Ss.h ?_|(refine Sb.h ?_ ?_ ?_<;>(try intro hgd)<;>try exact Xy))<;>simp -implicitDefEqProofs (maxSteps:=2000000) [hP,hN,g4,b4,g3,g9,g11,g12,g13,b13,g14,hjk,hwk]<;>try refine Ya ?_)|refine X2 ?_ ?_|(refine Xd ?_ ?_<;>intro hcd<;>try exact Xx))
         all_goals exact hnn
      ·have hS : S1=true:=hS1.trans (dv hq'' hlt')
       have hnn:=hnx hS
       have hltm' : ¬ k < t.maps.length:=by omega
       with_reducible repeat' (first|refine Sp.h ?_|((first|refine Wd ?_|refine Ss.h ?_|(refine Sb.h ?_ ?_ ?_<;>(try intro hgd)<;>try exact Xy))<;>simp -implicitDefEqProofs (maxSteps:=2000000) [hP,hN,g4,b4,g3,g9,g11,g12,b13,hlt',hltm',hw,l3]<;>try refine Ya ?_)|refine X2 ?_ ?_|(refine Xd ?_ ?_<;>intro hcd<;>try exact Xx))
       all_goals first|exact hnn|(rw [l3] at hnn;exact hnn)
     ·have hSt:=dv hq' hqM
      rw [← hSA] at hSt
      rw [hSt]
      with_reducible repeat' (first|refine Sp.h ?_|((first|refine Wd ?_|refine Ss.h ?_|(refine Sb.h ?_ ?_ ?_<;>(try intro hgd)<;>try exact Xy))<;>simp -implicitDefEqProofs (maxSteps:=2000000) [hP,hN,g4,b4,g3,g9,g11,b13,hqM,w3,w4,w6,w7]<;>try refine Ya ?_)|refine X2 ?_ ?_|(refine Xd ?_ ?_<;>intro hcd<;>try exact Xx))
   ·have hf : (decide (1≤n) && (decide (n≤65) && ((List.range plan.length).all (bn plan starts goals n) && (List.range (max 1 (n - 1))).all fun tick=>(List.range plan.length).all (aT t plan tick))))=false:=by
     by_cases n1 : 1≤n
     ·rw [decide_eq_true n1,decide_eq_false (show ¬ n≤65 by omega)];rfl
     ·rw [decide_eq_false n1];rfl
    rw [hf]
    refine Dp Try.func21 ?_
    intro C hP hN
    simp only [Try.f21] at hN ⊢
    with_reducible repeat' (first|refine Sp.h ?_|((first|refine Wd ?_|refine Ss.h ?_|refine Sc.h (cc) ?_|(refine Sb.h ?_ ?_ ?_<;>(try intro hgd)<;>try exact Xy))<;>simp -implicitDefEqProofs (maxSteps:=2000000) [hP,hN,l1,l2,l3,hx0,hxe0,hn,hpos]<;>try refine Ya ?_)|refine X2 ?_ ?_|(refine Xd ?_ ?_<;>intro hcd<;>try exact Xx))
    all_goals (exfalso;simp at *;omega)
  ·have hf : (decide (starts.length=t.maps.length) && (decide (goals.length=t.maps.length) && (decide (plan.length=t.maps.length) && (decide (1≤((plan[0]?).getD []).length) && (decide (((plan[0]?).getD []).length≤65) && ((List.range plan.length).all (bn plan starts goals ((plan[0]?).getD []).length) && (List.range (max 1 (((plan[0]?).getD []).length - 1))).all fun tick=>(List.range plan.length).all (aT t plan tick)))))))=false:=by
    rw [← Bool.not_eq_true];intro h
    simp only [Bool.and_eq_true,decide_eq_true_eq] at h
    exact hlens ⟨h.1,h.2.1,h.2.2.1⟩
   rw [hf]
   refine Dp Try.func21 ?_
   intro C hP hN
   simp only [Try.f21] at hN ⊢
   with_reducible repeat' (first|refine Sp.h ?_|((first|refine Wd ?_|refine Ss.h ?_|refine Sc.h (cc) ?_|(refine Sb.h ?_ ?_ ?_<;>(try intro hgd)<;>try exact Xy))<;>simp -implicitDefEqProofs (maxSteps:=2000000) [hP,hN]<;>try refine Ya ?_)|refine X2 ?_ ?_|(refine Xd ?_ ?_<;>intro hcd<;>try exact Xx))
   all_goals (exfalso;simp at *;omega)
theorem pZ (t : aU) (starts goals : List Int) (plan : List (List Int)) (ht : TmOk t) (hp : PLk plan) (hss : starts.length≤9223372036854775807) (hgg : goals.length≤9223372036854775807) : am Try.prog 16 [.pv (bR t),.pv (zs starts),.pv (zs goals),.pv (.sl (plan.map zs))] [] [] (.pv (B true)):=by
 have c1:=vR t starts goals plan ht hp hss hgg
 have c2:=vh t starts goals plan ht hp hss hgg
 generalize mm t starts goals plan=r at *
 refine Dp Try.func16 ?_
 intro C hP hN
 simp only [Try.f16] at hN ⊢
 with_reducible repeat' (first|refine Sp.h ?_|((first|refine Wd ?_|refine Ss.h ?_|refine Sc.h (c1) ?_|refine Sc.h (c2) ?_|(refine Sb.h ?_ ?_ ?_<;>(try intro hgd)<;>try exact Xy))<;>simp -implicitDefEqProofs (maxSteps:=2000000) [hP,hN]<;>try refine Ya ?_)|refine X2 ?_ ?_|(refine Xd ?_ ?_<;>intro hcd<;>try exact Xx))
theorem yU (m : aW) : am Try.prog 24 [.pv (aV m)] [] [] (.pv (B (decide ((m.np.length : Int)≤30) && decide ((m.es.length : Int)≤60)))):=by
 refine Dp Try.func24 ?_
 intro C hP hN
 simp only [Try.f24] at hN ⊢
 with_reducible repeat' (first|refine Sp.h ?_|((first|refine Ss.h ?_|(refine Sb.h ?_ ?_ ?_<;>(try intro hgd)<;>try exact Xy))<;>simp -implicitDefEqProofs (maxSteps:=2000000) [hP,hN])|refine X2 ?_ ?_|(refine Xd ?_ ?_<;>intro hcd<;>try exact Xx))
 all_goals (simp at hgd;try omega)
def j5 (m : aW) : Bool:=decide ((m.np.length : Int)≤30) && decide ((m.es.length : Int)≤60)
def gT (t : aU) : Bool:=decide (t.maps.length≤6) && (decide (t.conf.length≤40) && t.maps.all j5)
theorem d8 (t : aU) (ht : TmOk t) : am Try.prog 8 [.pv (bR t)] [] [] (.pv (B (gT t))):=by
 by_cases h0 : t.maps.length≤6∧t.conf.length≤40
 ·obtain ⟨h1,h2⟩:=h0
  have hc : gT t=t.maps.all j5:=by simp [gT,h1,h2]
  have w1 : ¬ 6 < (t.maps.length : Int):=by omega
  have w2 : ¬ 40 < (t.conf.length : Int):=by omega
  rw [hc]
  refine Dp Try.func8 ?_
  intro C hP hN
  simp only [Try.f8] at hN ⊢
  with_reducible repeat' (first|refine Sp.h ?_|((first|refine Ss.h ?_|(refine Sb.h ?_ ?_ ?_<;>(try intro hgd)<;>try exact Xy))<;>simp -implicitDefEqProofs (maxSteps:=2000000) [hP,hN,w1,w2])|refine X2 ?_ ?_|(refine Xd ?_ ?_<;>intro hcd<;>try exact Xx))
  refine WP.loopN [] t.maps.length (fun i st=>st.t 1=.ptr 1 0∧st.h 1=some (.box [.pv (.sl (t.maps.map aV)),.pv (.sl (t.conf.map ba))] true false)∧st.t 3=.pv (Z i)∧fR j5 t.maps i) (by simp [fH]) ?_
  rintro i st hi ⟨g1,b1,g3,hq⟩
  by_cases hlt : i < t.maps.length
  ·have hw:=ak hlt ht.nl
   have hxi : t.maps[i]?=some t.maps[i]:=List.getElem?_eq_getElem hlt
   have hn':=gx hlt hq
   have hms:=gy (p:=j5) hlt
   have cf:=yU t.maps[i]
   generalize hx : t.maps[i]=e at *
   have hse : j5 e=(decide ((e.np.length : Int)≤30) && decide ((e.es.length : Int)≤60)):=rfl
   rw [← hse] at cf
   cases he : j5 e with
   |true=>
    rw [he] at cf
    with_reducible repeat' (first|refine Sp.h ?_|((first|refine Ss.h ?_|refine Sc.h (cf) ?_|(refine Sb.h ?_ ?_ ?_<;>(try intro hgd)<;>try exact Xy))<;>simp -implicitDefEqProofs (maxSteps:=2000000) [hP,hN,g1,b1,g3,hlt,hw,hx,hxi])|refine X2 ?_ ?_|(refine Xd ?_ ?_<;>intro hcd<;>try exact Xx))
    all_goals exact hn' he
   |false=>
    rw [he] at cf
    rw [hms he]
    with_reducible repeat' (first|refine Sp.h ?_|((first|refine Ss.h ?_|refine Sc.h (cf) ?_|(refine Sb.h ?_ ?_ ?_<;>(try intro hgd)<;>try exact Xy))<;>simp -implicitDefEqProofs (maxSteps:=2000000) [hP,hN,g1,b1,g3,hlt,hw,hx,hxi])|refine X2 ?_ ?_|(refine Xd ?_ ?_<;>intro hcd<;>try exact Xx))
  ·rw [jy hlt hq]
   with_reducible repeat' (first|refine Sp.h ?_|((first|refine Ss.h ?_|(refine Sb.h ?_ ?_ ?_<;>(try intro hgd)<;>try exact Xy))<;>simp -implicitDefEqProofs (maxSteps:=2000000) [hP,hN,g1,b1,g3,hlt])|refine X2 ?_ ?_|(refine Xd ?_ ?_<;>intro hcd<;>try exact Xx))
 ·have hc : gT t=false:=by
   cases h : gT t with
   |false=>rfl
   |true=>simp only [gT,Bool.and_eq_true,decide_eq_true_eq] at h;exact absurd ⟨h.1,h.2.1⟩ h0
  rw [hc]
  refine Dp Try.func8 ?_
  intro C hP hN
  simp only [Try.f8] at hN ⊢
  with_reducible repeat' (first|refine Sp.h ?_|((first|refine Ss.h ?_|(refine Sb.h ?_ ?_ ?_<;>(try intro hgd)<;>try exact Xy))<;>simp -implicitDefEqProofs (maxSteps:=2000000) [hP,hN])|refine X2 ?_ ?_|(refine Xd ?_ ?_<;>intro hcd<;>try exact Xx))
  all_goals (exfalso;simp at *;omega)
end Go.Ab
namespace Go.Ab
open Go.Proofs
abbrev uQ (r : R8) : PV:=.agg [Z r.k1,.sl r.k2,Z r.k3,Z r.k4,.sl r.k5,Z r.k6,.sl r.k7,.sl r.k8]
theorem tg : am Try.prog 30 [.pv (Z 1)] [] [] (.pv (uQ rD)):=by
 refine Dp Try.func30 ?_
 intro C hP hN
 simp only [Try.f30] at hN ⊢
 with_reducible repeat' (first|refine Sp.h ?_|((first|refine Ss.h ?_|(refine Sb.h ?_ ?_ ?_<;>(try intro hgd)<;>try exact Xy))<;>simp -implicitDefEqProofs (maxSteps:=2000000) [hP,hN])|refine X2 ?_ ?_|(refine Xd ?_ ?_<;>intro hcd<;>try exact Xx))
 all_goals simp [rD]
theorem oY (t : aU) (l : List Int) (ht : TmOk t) (hn : t.maps.length≤1000) (hp : ∀ m ∈ t.maps,1≤m.np.length) : am Try.prog 13 [.pv (bR t),.pv (zs l)] [] [] (.row 3 1 ((ed t.maps l t.maps.length).map Z)):=by
 have cf:=td l
 refine Dp Try.func13 ?_
 intro C hP hN
 simp only [Try.f13] at hN ⊢
 with_reducible repeat' (first|refine Sp.h ?_|((first|refine Wh [6] ?_|refine Ss.h ?_|refine Sc.h (cf) ?_|(refine Sb.h ?_ ?_ ?_<;>(try intro hgd)<;>try exact Xy))<;>simp -implicitDefEqProofs (maxSteps:=2000000) [hP,hN,bk])|refine X2 ?_ ?_|(refine Xd ?_ ?_<;>intro hcd<;>try exact Xx))
 refine WP.loopN [] t.maps.length (fun i st=>st.t 2=.ptr 2 0∧st.h 2=some (.box [.pv (.sl (t.maps.map aV)),.pv (.sl (t.conf.map ba))] true false)∧st.t 5=.ptr 9 0∧st.h 9=some (.box [.pv (zs l),.pv (Z (bt l i))] true false)∧st.t 7=.pv (Z i)∧st.t 6=.arr 6 i∧st.h 6=some (.row 3 1 ((ed t.maps l i).map Z) 0)) (by simp [bt,ed]) ?_
 rintro i st hi ⟨g2,b2,g5,b9,g7,g6,b6⟩
 have hln:=gb t.maps l i
 by_cases hlt : i < t.maps.length
 ·have hw:=ak hlt ht.nl
  have hxi : t.maps[i]?=some t.maps[i]:=List.getElem?_eq_getElem hlt
  have hmem:=List.getElem_mem hlt
  have hq1:=hp _ hmem
  have hq2:=ht.pl _ hmem
  have hv:=rG t.maps l i
  have hJ:=qO l i
  have hmp : eE t.maps ((i : Nat) : Int)=t.maps[i]:=by simp [eE,hxi]
  rw [hmp] at hv
  generalize hx : t.maps[i]=m at *
  have cn:=gJ l (bt l i) m.np.length (by omega) (by omega)
  have hJs : bt l (i+1)=nn l (bt l i):=rfl
  generalize bt l (i+1)=q' at *
  generalize bt l i=q at *
  with_reducible repeat' (first|refine Sp.h ?_|((first|refine Ss.h ?_|refine Sc.h (cn) ?_|(refine Sb.h ?_ ?_ ?_<;>(try intro hgd)<;>try exact Xy))<;>simp -implicitDefEqProofs (maxSteps:=2000000) [hP,hN,bk,g2,b2,g5,b9,g7,g6,b6,hlt,hw,hx,hxi,hln,show (i+1) * 8≤140737488355328 by omega,show i≤9223372036854775806 by omega,show i+1≤9223372036854775807 by omega])|refine X2 ?_ ?_|(refine Xd ?_ ?_<;>intro hcd<;>try exact Xx))
  all_goals simp [hJs,hv]
 ·have hi' : i=t.maps.length:=by omega
  subst hi'
  with_reducible repeat' (first|refine Sp.h ?_|((first|refine Ss.h ?_|(refine Sb.h ?_ ?_ ?_<;>(try intro hgd)<;>try exact Xy))<;>simp -implicitDefEqProofs (maxSteps:=2000000) [hP,hN,g2,b2,g5,b9,g7,g6,b6,hln])|refine X2 ?_ ?_|(refine Xd ?_ ?_<;>intro hcd<;>try exact Xx))
end Go.Ab
namespace Go.Ab
open Go.Proofs
theorem uq (l : List Int) (n a : Nat) (t : aU) (m : aW) (hx : t.maps[a]?=some m) (h1 : 1≤m.np.length) (h4 : m.np.length≤1000) (h5 : m.es.length≤1000) (hn : n < 900000) : am Try.prog 31 [.bx 0,.pv (bR t),.pv (Z a)] [bk l n] [bk l (en l n m a).1] (.pv (bz (en l n m a).2)):=by
 have hlt:=(List.getElem?_eq_some_iff.1 hx).1
 have hxe:=(List.getElem?_eq_some_iff.1 hx).2
 have n1:=cY l n
 have n2:=cY l (nn l n)
 by_cases h0 : m.es.length=0
 ·have hm : en l n m a=(nn l n,⟨a,nx l n m.np.length,nx l n m.np.length⟩):=by simp [en,h0]
  rw [hm]
  have cn:=gJ l n m.np.length (by omega) (by omega)
  refine eH Try.func31 rfl (by kernel_rfl) (by simp [Try.f31]) rfl (by intro i j h;rcases i with _|_|_|i<;>simp_all) ?_
  intro C hP hN
  simp only [Try.f31] at hN ⊢
  with_reducible repeat' (first|refine Sp.h ?_|((first|refine Wd ?_|refine Ss.h ?_|refine Sc.h (cn) ?_|(refine Sb.h ?_ ?_ ?_<;>(try intro hgd)<;>try exact Xy))<;>simp -implicitDefEqProofs (maxSteps:=2000000) [hP,hN,bk,hx,hxe,hlt,h0]<;>try refine Ya ?_)|refine X2 ?_ ?_|(refine Xd ?_ ?_<;>intro hcd<;>try exact Xx))
 ·have w0 : ¬ (m.es.length : Int)=0:=by omega
  have w1 : ((m.es.length : Int)==0)=false:=by simp [h0]
  have c2:=gJ l n 2 (by decide) (by omega)
  by_cases hz : nx l n 2=0
  ·have hm : en l n m a=(nn l (nn l n),⟨a,nx l (nn l n) m.np.length,nx l (nn l n) m.np.length⟩):=by simp [en,h0,hz]
   rw [hm]
   have cn:=gJ l (nn l n) m.np.length (by omega) (by omega)
   refine eH Try.func31 rfl (by kernel_rfl) (by simp [Try.f31]) rfl (by intro i j h;rcases i with _|_|_|i<;>simp_all) ?_
   intro C hP hN
   simp only [Try.f31] at hN ⊢
   with_reducible repeat' (first|refine Sp.h ?_|((first|refine Wd ?_|refine Ss.h ?_|refine Sc.h (c2) ?_|refine Sc.h (cn) ?_|(refine Sb.h ?_ ?_ ?_<;>(try intro hgd)<;>try exact Xy))<;>simp -implicitDefEqProofs (maxSteps:=2000000) [hP,hN,bk,hx,hxe,hlt,h0,w0,w1,hz]<;>try refine Ya ?_)|refine X2 ?_ ?_|(refine Xd ?_ ?_<;>intro hcd<;>try exact Xx))
  ·have hr:=bq l (nn l n) (k:=(m.es.length : Int)) (by omega) (by omega)
   obtain ⟨q,hq⟩ : ∃ q : Nat,nx l (nn l n) m.es.length=q:=⟨(nx l (nn l n) m.es.length).toNat,by omega⟩
   have hql : q < m.es.length:=by omega
   have hqx : m.es[q]?=some m.es[q]:=List.getElem?_eq_getElem hql
   have cn:=gJ l (nn l n) m.es.length (by omega) (by omega)
   have c3:=gJ l (nn l (nn l n)) 2 (by decide) (by omega)
   generalize hqe : m.es[q]=e at *
   have hz' : (nx l n 2==0)=false:=by simp [hz]
   by_cases hy : nx l (nn l (nn l n)) 2=0
   ·have hm : en l n m a=(nn l (nn l (nn l n)),⟨a,e.v,e.u⟩):=by simp [en,h0,hz,hq,hqx,hy]
    rw [hm]
    refine eH Try.func31 rfl (by kernel_rfl) (by simp [Try.f31]) rfl (by intro i j h;rcases i with _|_|_|i<;>simp_all) ?_
    intro C hP hN
    simp only [Try.f31] at hN ⊢
    with_reducible repeat' (first|refine Sp.h ?_|((first|refine Wd ?_|refine Ss.h ?_|refine Sc.h (c2) ?_|refine Sc.h (cn) ?_|refine Sc.h (c3) ?_|(refine Sb.h ?_ ?_ ?_<;>(try intro hgd)<;>try exact Xy))<;>simp -implicitDefEqProofs (maxSteps:=2000000) [hP,hN,bk,hx,hxe,hlt,h0,w0,w1,hz,hz',hq,hql,hqx,hqe,hy]<;>try refine Ya ?_)|refine X2 ?_ ?_|(refine Xd ?_ ?_<;>intro hcd<;>try exact Xx))
   ·have hm : en l n m a=(nn l (nn l (nn l n)),⟨a,e.u,e.v⟩):=by simp [en,h0,hz,hq,hqx,hy]
    have hy' : (nx l (nn l (nn l n)) 2==0)=false:=by simp [hy]
    rw [hm]
    refine eH Try.func31 rfl (by kernel_rfl) (by simp [Try.f31]) rfl (by intro i j h;rcases i with _|_|_|i<;>simp_all) ?_
    intro C hP hN
    simp only [Try.f31] at hN ⊢
    with_reducible repeat' (first|refine Sp.h ?_|((first|refine Wd ?_|refine Ss.h ?_|refine Sc.h (c2) ?_|refine Sc.h (cn) ?_|refine Sc.h (c3) ?_|(refine Sb.h ?_ ?_ ?_<;>(try intro hgd)<;>try exact Xy))<;>simp -implicitDefEqProofs (maxSteps:=2000000) [hP,hN,bk,hx,hxe,hlt,h0,w0,w1,hz,hz',hq,hql,hqx,hqe,hy,hy']<;>try refine Ya ?_)|refine X2 ?_ ?_|(refine Xd ?_ ?_<;>intro hcd<;>try exact Xx))
theorem rY (n : Nat) (l : List Int) (hn : n≤1000) : am Try.prog 19 [.pv (Z n),.pv (zs l)] [] [] (.row 3 1 ((aQ l n).map Z)):=by
 have cf:=td l
 refine Dp Try.func19 ?_
 intro C hP hN
 simp only [Try.f19] at hN ⊢
 with_reducible repeat' (first|refine Sp.h ?_|((first|refine Wh [6] ?_|refine Wi [6] ?_|refine Ss.h ?_|refine Sc.h (cf) ?_|(refine Sb.h ?_ ?_ ?_<;>(try intro hgd)<;>try exact Xy))<;>simp -implicitDefEqProofs (maxSteps:=2000000) [hP,hN,bk]<;>try refine Ya ?_)|refine X2 ?_ ?_|(refine Xd ?_ ?_<;>intro hcd<;>try exact Xx))
 refine WP.loopN [] n (fun i st=>st.t 0=.pv (Z n)∧st.t 5=.ptr 10 0∧st.h 10=some (.box [.pv (zs l),.pv (Z (bt l i))] true false)∧st.t 7=.pv (Z i)∧st.t 6=.arr 6 i∧st.h 6=some (.row 3 1 ((aQ l i).map Z) 0)) (by simp [bt,aQ]) ?_
 rintro i st hi ⟨g0,g5,b10,g7,g6,b6⟩
 have hln:=gC l i
 by_cases hlt : i < n
 ·have hw:=ak hlt (by omega)
  have hlz : (i : Int) < (n : Int):=by omega
  have hJ:=qO l i
  have hr:=bq l (bt l i) (k:=(i : Int)+1) (by omega) (by omega)
  have cn:=gJ l (bt l i) ((i : Int)+1) (by omega) (by omega)
  obtain ⟨k,hk⟩ : ∃ k : Nat,nx l (bt l i) ((i : Int)+1)=k:=⟨(nx l (bt l i) ((i : Int)+1)).toNat,by omega⟩
  have hJs : bt l (i+1)=nn l (bt l i):=rfl
  have hoS : aQ l (i+1)=((aQ l i++[(i : Int)]).set i (((aQ l i++[(i : Int)])[(nx l (bt l i) ((i : Int)+1)).toNat]?).getD 0)).set (nx l (bt l i) ((i : Int)+1)).toNat i:=rfl
  rw [hk] at hoS cn
  rw [Int.toNat_natCast] at hoS
  have hki : k < i+1:=by omega
  have hkl : k < (aQ l i++[(i : Int)]).length:=by simp [hln];omega
  rw [List.getElem?_eq_getElem hkl,Option.getD_some] at hoS
  obtain ⟨x,hx⟩ : ∃ x,(aQ l i++[(i : Int)])[k]=x:=⟨_,rfl⟩
  rw [hx] at hoS
  have hzx : ((aQ l i).map Z++[Z i])[k]?=some (Z x):=by
   have : (aQ l i).map Z++[Z (i : Int)]=(aQ l i++[(i : Int)]).map Z:=by simp
   rw [this,List.getElem?_map,List.getElem?_eq_getElem hkl,hx];rfl
  have hzi : ((aQ l i).map Z++[Z (i : Int)])[i]?=some (Z (i : Int)):=by
   rw [List.getElem?_append_right (by simp [hln])];simp [hln]
  have hmap : (aQ l (i+1)).map Z=(((aQ l i).map Z++[Z (i : Int)]).set i (Z x)).set k (Z (i : Int)):=by
   rw [hoS,List.map_set,List.map_set];simp
  have hlx : ((aQ l i).map Z++[Z (i : Int)]).length=i+1:=by simp [hln]
  have hset : ((aQ l i).map Z++[Z (i : Int)]).set i (Z x)=(aQ l i).map Z++[Z x]:=by rw [List.set_append_right _ _ (by simp [hln])];simp [hln]
  rw [hset] at hmap
  have hzx' : ∀ h,((aQ l i).map Z++[Z (i : Int)])[k]'h=Z x:=fun h=>(List.getElem?_eq_some_iff.1 hzx).2
  have hzi' : ∀ h,((aQ l i).map Z++[Z (i : Int)])[i]'h=Z (i : Int):=fun h=>(List.getElem?_eq_some_iff.1 hzi).2
  generalize (aQ l (i+1)).map Z=ys at *
  generalize bt l (i+1)=q' at *
  generalize bt l i=q at *
  with_reducible repeat' (first|refine Sp.h ?_|((first|refine Wd ?_|refine Ss.h ?_|refine Sc.h (cn) ?_|(refine Sb.h ?_ ?_ ?_<;>(try intro hgd)<;>try exact Xy))<;>simp -implicitDefEqProofs (maxSteps:=2000000) [hP,hN,bk,g0,g5,b10,g7,g6,b6,hlt,hlz,hw,hln,show (i+1) * 8≤140737488355328 by omega,show i≤9223372036854775806 by omega,show i+1≤9223372036854775807 by omega,hki,hzx,hzi,hzx',hzi',hlx]<;>try refine Ya ?_)|refine X2 ?_ ?_|(refine Xd ?_ ?_<;>intro hcd<;>try exact Xx))
  all_goals exact ⟨by rw [hJs],hmap.symm⟩
 ·have hi' : i=n:=by omega
  subst hi'
  with_reducible repeat' (first|refine Sp.h ?_|((first|refine Wd ?_|refine Ss.h ?_|(refine Sb.h ?_ ?_ ?_<;>(try intro hgd)<;>try exact Xy))<;>simp -implicitDefEqProofs (maxSteps:=2000000) [hP,hN,g0,g5,b10,g7,g6,b6,hln]<;>try refine Ya ?_)|refine X2 ?_ ?_|(refine Xd ?_ ?_<;>intro hcd<;>try exact Xx))
theorem hY (k : Nat) : (jr k).length=k:=by simp [jr]
theorem rh (k : Nat) : jr (k+1)=jr k++[zs [((k : Nat) : Int)]]:=by simp [jr,List.range_succ]
end Go.Ab
namespace Go.Ab
open Go.Proofs
def pN (k : Nat) (es : List av) (B : Option Blk) (o : Option Blk) : Prop:=(es=[]∧B=some (.box [.arr 36 k,bf] true false)∧o=none)∨(es≠[]∧B=some (.box [.arr 36 k,.arr 63 es.length] true false)∧o=some (.row 67 12 (es.map qI) 0))
def ri (ms : List aW) (B : Option Blk) (o : Option Blk) : Prop:=(ms=[]∧B=some (.box [bf,bf] true false)∧o=none)∨(ms≠[]∧B=some (.box [.arr 69 ms.length,bf] true false)∧o=some (.row 48 2 (ms.map aV) 0))
def tj (m : Nat) (cs : List (Mov × Mov)) (B : Option Blk) (o : Option Blk) : Prop:=(cs=[]∧B=some (.box [.arr 69 m,bf] true false)∧o=none)∨(cs≠[]∧B=some (.box [.arr 69 m,.arr 113 cs.length] true false)∧∃ f,o=some (.row 72 6 (cs.map ba) f))
def tk (j : Nat) (B : Option Blk) (o : Option Blk) : Prop:=(j=0∧B=some (.box [bf,bf] true false)∧o=none)∨(0 < j∧B=some (.box [.arr 36 j,bf] true false)∧o=some (.row 56 1 (jr j) 0))
theorem qx {ms : List aW} {B o : Option Blk} (h : ri ms B o) : Option.map (bO []) B=B∧Option.map (bO []) o=o:=by
 rcases h with ⟨_,rfl,rfl⟩|⟨_,rfl,rfl⟩<;>simp [bO,bc,eX,bp]
theorem jl {k : Nat} {es : List av} {B o : Option Blk} (h : pN k es B o) : Option.map (bO []) B=B∧Option.map (bO []) o=o:=by
 rcases h with ⟨_,rfl,rfl⟩|⟨_,rfl,rfl⟩<;>simp [bO,bc,eX,bp]
theorem qy (u v : Nat) (c : Int) : qI (kE u v c)=.agg [Z u,Z v,Z c,Z 1,Z 1,.sl [uB],Z 0,Z 0,.sl [],Z 0,.sl [],.sl []]:=rfl
theorem nT {ms : List aW} {k : Nat} {m : aW} (h : ms[k]?=some m) : eE ms (k : Int)=m:=by simp [eE,h]
set_option maxRecDepth 20000 in
theorem tl (l : List Int) : am Try.prog 12 [.pv (zs l)] [] [] (.pv (bR (cy l))):=by
 have cf:=td l
 have c1:=gJ l 0 3 (by decide) (by omega)
 have htn:=ig l
 have hw0 : IntKind.i64.wrap (1+nx l 0 3)=((tN l : Nat) : Int):=by rw [IntKind.wrap_i64];omega
 have hM0 : (bX l 0).1=nn l 0:=rfl
 have hMk : cy l=⟨(bX l (tN l)).2,(dw l (bX l (tN l)).2 (nn l (bX l (tN l)).1) (tC l)).2⟩:=rfl
 have htC : tC l=if 1 < (bX l (tN l)).2.length then (nx l (bX l (tN l)).1 12).toNat else 0:=rfl
 generalize tN l=T at *
 rw [← hM0] at c1
 refine Dp Try.func12 ?_
 intro C hP hN
 simp only [Try.f12] at hN ⊢
 with_reducible repeat' (first|refine Sp.h ?_|((first|refine Wd ?_|refine Ss.h ?_|refine Sc.h (cf) ?_|refine Sc.h (c1) ?_|(refine Sb.h ?_ ?_ ?_<;>(try intro hgd)<;>try exact Xy))<;>simp -implicitDefEqProofs (maxSteps:=2000000) [hP,hN,bk,hw0]<;>try refine Ya ?_)|refine X2 ?_ ?_|(refine Xd ?_ ?_<;>intro hcd<;>try exact Xx))
 refine WP.loopN [6,36,63] T (fun i st=>st.t 2=.ptr 2 0∧st.h 2=some (.box [bf,bf] true false)∧st.t 3=.ptr 15 0∧st.h 15=some (.box [.pv (zs l),.pv (Z (bX l i).1)] true false)∧st.t 4=.ptr 4 0∧ri (bX l i).2 (st.h 4) (st.h 69)∧st.t 5=.pv (Z ((T : Int) - i))∧st.h 6=none∧st.h 36=none∧st.h 63=none∧st.h 113=none) (by simp [ri,bX]) ?_
 rintro i st hi ⟨g2,b2,g3,b15,g4,hmr,g5,b6,b36,b63,b113⟩
 obtain ⟨hle,hmlen⟩:=oh l i
 by_cases hlt : i < T
 ·have hgt : 0 < (T : Int) - i:=by omega
  have hsu : bX l (i+1)=((mM l (bX l i).1).1,(bX l i).2++[(mM l (bX l i).1).2]):=rfl
  have hwr : IntKind.i64.wrap ((T : Int) - i - 1)=(T : Int) - (i+1):=by rw [IntKind.wrap_i64];omega
  generalize bX l (i+1)=S' at *
  generalize bX l i=S at *
  obtain ⟨n,ms⟩:=S
  simp only at hle hmlen hmr hsu b15
  have hmM : mM l n=((eU l (mK l n) (nn l n,[]) (mK l n)).1,⟨jr (mK l n),(eU l (mK l n) (nn l n,[]) (mK l n)).2⟩):=rfl
  rw [hmM] at hsu
  have hkr:=ic l n
  have cn:=gJ l n 3 (by decide) (by omega)
  have hwk : IntKind.i64.wrap (2+nx l n 3)=((mK l n : Nat) : Int):=by rw [IntKind.wrap_i64];omega
  have hnn:=cY l n
  generalize mK l n=k at *
  generalize hn1 : nn l n=n1 at *
  generalize hB4 : st.h 4=B4 at *
  generalize hB69 : st.h 69=B69 at *
  obtain ⟨kk4,kk69⟩:=qx hmr
  with_reducible repeat' (first|refine Sp.h ?_|((first|refine Wd ?_|refine Ss.h ?_|refine Sc.h (cn) ?_|(refine Sb.h ?_ ?_ ?_<;>(try intro hgd)<;>try exact Xy))<;>simp -implicitDefEqProofs (maxSteps:=2000000) [hP,hN,bk,g2,b2,g3,b15,g4,kk4,kk69,g5,b6,b36,b63,b113,hgt,hwk]<;>try refine Ya ?_)|refine X2 ?_ ?_|(refine Xd ?_ ?_<;>intro hcd<;>try exact Xx))
  refine WP.loopN [] k (fun j st=>st.t 2=.ptr 2 0∧st.h 2=some (.box [bf,bf] true false)∧st.t 3=.ptr 15 0∧st.h 15=some (.box [.pv (zs l),.pv (Z n1)] true false)∧st.t 4=.ptr 4 0∧st.h 4=B4∧st.h 69=B69∧st.t 5=.pv (Z ((T : Int) - i))∧st.h 63=none∧st.h 113=none∧st.t 6=.ptr 6 0∧st.t 7=.pv (Z k)∧st.t 8=.pv (Z j)∧tk j (st.h 6) (st.h 36)) (by simp [tk,kk4,kk69,g2,b2,g3,b15,g4,hB4,hB69,g5,b6,b36,b63,b113]) ?_
  clear g2 b2 g3 b15 g4 g5 b6 b36 b63 b113 hB4 hB69
  rintro j st hj ⟨g2,b2,g3,b15,g4,hB4,hB69,g5,b63,b113,g6,g7,g8,hnr⟩
  by_cases hjk : j < k
  ·have hwj:=ak hjk (by omega)
   have hjz : (j : Int) < (k : Int):=by omega
   have hpl:=hY j
   have hps:=rh j
   rcases hnr with ⟨hj0,e6,e36⟩|⟨hj0,e6,e36⟩
   ·subst hj0
    with_reducible repeat' (first|refine Sp.h ?_|((first|refine Wd ?_|refine Ss.h ?_|(refine Sb.h ?_ ?_ ?_<;>(try intro hgd)<;>try exact Xy))<;>simp -implicitDefEqProofs (maxSteps:=2000000) [hP,hN,bk,g2,b2,g3,b15,g4,kk4,kk69,hB4,hB69,g5,b63,b113,g6,g7,g8,e6,e36,hjk,hjz,hwj]<;>try refine Ya ?_)|refine X2 ?_ ?_|(refine Xd ?_ ?_<;>intro hcd<;>try exact Xx))
    all_goals exact ⟨by decide,.inr ⟨by omega,rfl,rfl⟩⟩
   ·have hj1 : j≠0:=by omega
    with_reducible repeat' (first|refine Sp.h ?_|((first|refine Wd ?_|refine Ss.h ?_|(refine Sb.h ?_ ?_ ?_<;>(try intro hgd)<;>try exact Xy))<;>simp -implicitDefEqProofs (maxSteps:=2000000) [hP,hN,bk,g2,b2,g3,b15,g4,kk4,kk69,hB4,hB69,g5,b63,b113,g6,g7,g8,e6,e36,hjk,hjz,hwj,hpl,show (j+1) * 24≤140737488355328 by omega,show j≤9223372036854775806 by omega,show j+1≤9223372036854775807 by omega]<;>try refine Ya ?_)|refine X2 ?_ ?_|(refine Xd ?_ ?_<;>intro hcd<;>try exact Xx))
    all_goals (refine .inr ⟨by omega,rfl,?_⟩;rw [hps];rfl)
  ·have hjk' : j=k:=by omega
   subst hjk'
   rcases hnr with ⟨hj0,e6,e36⟩|⟨hj0,e6,e36⟩
   ·omega
   with_reducible repeat' (first|refine Sp.h ?_|((first|refine Wd ?_|refine Ss.h ?_|(refine Sb.h ?_ ?_ ?_<;>(try intro hgd)<;>try exact Xy))<;>simp -implicitDefEqProofs (maxSteps:=2000000) [hP,hN,bk,g2,b2,g3,b15,g4,kk4,kk69,hB4,hB69,g5,b63,b113,g6,g7,g8,e6,e36]<;>try refine Ya ?_)|refine X2 ?_ ?_|(refine Xd ?_ ?_<;>intro hcd<;>try exact Xx))
   refine WP.loopN [] j (fun u st=>st.t 2=.ptr 2 0∧st.h 2=some (.box [bf,bf] true false)∧st.t 3=.ptr 15 0∧st.h 15=some (.box [.pv (zs l),.pv (Z (eU l j (n1,[]) u).1)] true false)∧st.t 4=.ptr 4 0∧st.h 4=B4∧st.h 69=B69∧st.t 5=.pv (Z ((T : Int) - i))∧st.h 113=none∧st.t 6=.ptr 6 0∧st.t 7=.pv (Z j)∧st.t 9=.pv (Z u)∧st.h 36=some (.row 56 1 (jr j) 0)∧pN j (eU l j (n1,[]) u).2 (st.h 6) (st.h 63)) (by simp [eU,pN,kk4,kk69,g2,b2,g3,b15,g4,hB4,hB69,g5,b63,b113,g6,g7,e6,e36]) ?_
   clear g2 b2 g3 b15 g4 g5 b63 b113 hB4 hB69 g6 g7 g8 e6 e36
   rintro u st hu ⟨g2,b2,g3,b15,g4,hB4,hB69,g5,b113,g6,g7,g9,b36,her⟩
   by_cases huk : u < j
   ·have hwu:=ak huk (by omega)
    have huz : (u : Int) < (j : Int):=by omega
    have hEs : eU l j (n1,[]) (u+1)=eV l u (eU l j (n1,[]) u) (j - (u+1)):=rfl
    have hEl:=pW l j (n1,[]) u
    have hju : j * u≤4 * 4:=Nat.mul_le_mul (by omega) (by omega)
    generalize eU l j (n1,[]) (u+1)=E' at *
    generalize eU l j (n1,[]) u=E at *
    simp only [List.length_nil] at hEl
    generalize hB6 : st.h 6=B6 at *
    generalize hB63 : st.h 63=B63 at *
    obtain ⟨kk6,kk63⟩:=jl her
    with_reducible repeat' (first|refine Sp.h ?_|((first|refine Wd ?_|refine Ss.h ?_|(refine Sb.h ?_ ?_ ?_<;>(try intro hgd)<;>try exact Xy))<;>simp -implicitDefEqProofs (maxSteps:=2000000) [hP,hN,bk,g2,b2,g3,b15,g4,kk4,kk69,hB4,hB69,g5,b113,g6,g7,g9,b36,hB6,kk6,kk63,hB63,huk,huz,hwu]<;>try refine Ya ?_)|refine X2 ?_ ?_|(refine Xd ?_ ?_<;>intro hcd<;>try exact Xx))
    refine WP.loopN [] (j - (u+1)) (fun v st=>st.t 2=.ptr 2 0∧st.h 2=some (.box [bf,bf] true false)∧st.t 3=.ptr 15 0∧st.h 15=some (.box [.pv (zs l),.pv (Z (eV l u E v).1)] true false)∧st.t 4=.ptr 4 0∧st.h 4=B4∧st.h 69=B69∧st.t 5=.pv (Z ((T : Int) - i))∧st.h 113=none∧st.t 6=.ptr 6 0∧st.t 7=.pv (Z j)∧st.t 9=.pv (Z u)∧st.t 10=.pv (Z ((u+1+v : Nat) : Int))∧st.h 36=some (.row 56 1 (jr j) 0)∧pN j (eV l u E v).2 (st.h 6) (st.h 63)) (by simp [eV,kk4,kk69,kk6,kk63,g2,b2,g3,b15,g4,hB4,hB69,g5,b113,g6,g7,g9,b36,hB6,hB63,her]) ?_
    clear g2 b2 g3 b15 g4 g5 b113 hB4 hB69 g6 g7 g9 b36 hB6 hB63 her
    rintro v st hv ⟨g2,b2,g3,b15,g4,hB4,hB69,g5,b113,g6,g7,g9,g10,b36,her⟩
    by_cases hvk : v < j - (u+1)
    ·have hV : eV l u E (v+1)=eS l u (u+1+v) (eV l u E v):=rfl
     have hVl:=pV l u E v
     obtain ⟨V,hVe⟩ : ∃ V,u+1+v=V:=⟨_,rfl⟩
     have hVs : u+1+(v+1)=V+1:=by omega
     rw [hVe] at g10 hV
     have hVz : (V : Int) < (j : Int):=by omega
     have hVj : V < j:=by omega
     have hwv : IntKind.i64.wrap ((V : Int)+1)=(V : Int)+1:=bP
     generalize eV l u E (v+1)=F' at *
     generalize eV l u E v=F at *
     obtain ⟨p,es⟩:=F
     simp only at hVl b15 her
     have hpn:=cY l p
     have c3:=gJ l p 3 (by decide) (by omega)
     have c4:=gJ l (nn l p) 4 (by decide) (by omega)
     have hx4:=bq l (nn l p) (k:=4) (by decide) (by decide)
     have hw4 : IntKind.i64.wrap (1+nx l (nn l p) 4)=1+nx l (nn l p) 4:=bP
     have hw4' : IntKind.i64.wrap (nx l (nn l p) 4)=nx l (nn l p) 4:=bP
     by_cases h3 : 0 < nx l p 3
     ·have hF : F'=(nn l (nn l p),es++[kE u V (1+nx l (nn l p) 4)]):=by rw [hV];simp [eS,h3]
      have hee:=qy u V (1+nx l (nn l p) 4)
      subst hF
      rcases her with ⟨h0,e6,e63⟩|⟨h0,e6,e63⟩
      ·subst h0
       with_reducible repeat' (first|refine Sp.h ?_|((first|refine Wd ?_|refine Ss.h ?_|refine Sc.h (c3) ?_|refine Sc.h (c4) ?_|refine Sc.h (tg) ?_|(refine Sb.h ?_ ?_ ?_<;>(try intro hgd)<;>try exact Xy))<;>simp -implicitDefEqProofs (maxSteps:=2000000) [hP,hN,bk,g2,b2,g3,b15,g4,kk4,kk69,hB4,hB69,g5,b113,g6,g7,g9,g10,b36,e6,e63,hVz,hVj,hwv,h3,hw4,hw4']<;>try refine Ya ?_)|refine X2 ?_ ?_|(refine Xd ?_ ?_<;>intro hcd<;>try exact Xx))
       all_goals exact ⟨by omega,by omega,.inr ⟨by simp,rfl,rfl⟩⟩
      ·skip
       with_reducible repeat' (first|refine Sp.h ?_|((first|refine Wd ?_|refine Ss.h ?_|refine Sc.h (c3) ?_|refine Sc.h (c4) ?_|refine Sc.h (tg) ?_|(refine Sb.h ?_ ?_ ?_<;>(try intro hgd)<;>try exact Xy))<;>simp -implicitDefEqProofs (maxSteps:=2000000) [hP,hN,bk,g2,b2,g3,b15,g4,kk4,kk69,hB4,hB69,g5,b113,g6,g7,g9,g10,b36,e6,e63,hVz,hVj,hwv,h3,hw4,hw4',show (es.length+1) * 160≤140737488355328 by omega,show es.length≤9223372036854775806 by omega,show es.length+1≤9223372036854775807 by omega]<;>try refine Ya ?_)|refine X2 ?_ ?_|(refine Xd ?_ ?_<;>intro hcd<;>try exact Xx))
       all_goals exact ⟨by omega,by omega,.inr ⟨by simp,by simp,by rw [List.map_append];rfl⟩⟩
     ·have hF : F'=(nn l p,es):=by rw [hV];simp [eS,h3]
      subst hF
      obtain ⟨kk6',kk63'⟩:=jl her
      with_reducible repeat' (first|refine Sp.h ?_|((first|refine Wd ?_|refine Ss.h ?_|refine Sc.h (c3) ?_|(refine Sb.h ?_ ?_ ?_<;>(try intro hgd)<;>try exact Xy))<;>simp -implicitDefEqProofs (maxSteps:=2000000) [hP,hN,bk,g2,b2,g3,b15,g4,kk4,kk69,hB4,hB69,g5,b113,g6,g7,g9,g10,b36,hVz,hVj,hwv,h3,kk6',kk63']<;>try refine Ya ?_)|refine X2 ?_ ?_|(refine Xd ?_ ?_<;>intro hcd<;>try exact Xx))
      all_goals exact ⟨by omega,by omega,her⟩
    ·have hv' : v=j - (u+1):=by omega
     subst hv'
     have hge : ¬ ((u+1+(j - (u+1)) : Nat) : Int) < (j : Int):=by omega
     have hge' : ¬ (u+1+(j - (u+1))) < j:=by omega
     rw [← hEs] at b15 her
     obtain ⟨kk6',kk63'⟩:=jl her
     with_reducible repeat' (first|refine Sp.h ?_|((first|refine Wd ?_|refine Ss.h ?_|(refine Sb.h ?_ ?_ ?_<;>(try intro hgd)<;>try exact Xy))<;>simp -implicitDefEqProofs (maxSteps:=2000000) [hP,hN,bk,g2,b2,g3,b15,g4,kk4,kk69,hB4,hB69,g5,b113,g6,g7,g9,g10,b36,hge,hge',hwu,kk6',kk63']<;>try refine Ya ?_)|refine X2 ?_ ?_|(refine Xd ?_ ?_<;>intro hcd<;>try exact Xx))
     all_goals exact her
   ·have hu' : u=j:=by omega
    subst hu'
    subst hsu
    generalize eU l u (n1,[]) u=E at *
    obtain ⟨p,es⟩:=E
    simp only at b15 her
    rcases her with ⟨h0,e6,e63⟩|⟨h0,e6,e63⟩<;>rcases hmr with ⟨h1,e4,e69⟩|⟨h1,e4,e69⟩<;>subst e4<;>subst e69
    ·subst h0
     subst h1
     with_reducible repeat' (first|refine Sp.h ?_|((first|refine Wd ?_|refine Ss.h ?_|(refine Sb.h ?_ ?_ ?_<;>(try intro hgd)<;>try exact Xy))<;>simp -implicitDefEqProofs (maxSteps:=2000000) [hP,hN,bk,g2,b2,g3,b15,g4,hB4,hB69,g5,b113,g6,g7,g9,b36,e6,e63,hwr,hY]<;>try refine Ya ?_)|refine X2 ?_ ?_|(refine Xd ?_ ?_<;>intro hcd<;>try exact Xx))
     all_goals exact ⟨by omega,.inr ⟨by simp,rfl,rfl⟩⟩
    ·subst h0
     with_reducible repeat' (first|refine Sp.h ?_|((first|refine Wd ?_|refine Ss.h ?_|(refine Sb.h ?_ ?_ ?_<;>(try intro hgd)<;>try exact Xy))<;>simp -implicitDefEqProofs (maxSteps:=2000000) [hP,hN,bk,g2,b2,g3,b15,g4,hB4,hB69,g5,b113,g6,g7,g9,b36,e6,e63,hwr,hY,show (ms.length+1) * 48≤140737488355328 by omega,show ms.length≤9223372036854775806 by omega,show ms.length+1≤9223372036854775807 by omega]<;>try refine Ya ?_)|refine X2 ?_ ?_|(refine Xd ?_ ?_<;>intro hcd<;>try exact Xx))
     all_goals exact ⟨by omega,.inr ⟨by simp,by simp,by rw [List.map_append];rfl⟩⟩
    ·subst h1
     with_reducible repeat' (first|refine Sp.h ?_|((first|refine Wd ?_|refine Ss.h ?_|(refine Sb.h ?_ ?_ ?_<;>(try intro hgd)<;>try exact Xy))<;>simp -implicitDefEqProofs (maxSteps:=2000000) [hP,hN,bk,g2,b2,g3,b15,g4,hB4,hB69,g5,b113,g6,g7,g9,b36,e6,e63,hwr,hY]<;>try refine Ya ?_)|refine X2 ?_ ?_|(refine Xd ?_ ?_<;>intro hcd<;>try exact Xx))
     all_goals exact ⟨by omega,.inr ⟨by simp,rfl,rfl⟩⟩
    ·skip
     with_reducible repeat' (first|refine Sp.h ?_|((first|refine Wd ?_|refine Ss.h ?_|(refine Sb.h ?_ ?_ ?_<;>(try intro hgd)<;>try exact Xy))<;>simp -implicitDefEqProofs (maxSteps:=2000000) [hP,hN,bk,g2,b2,g3,b15,g4,hB4,hB69,g5,b113,g6,g7,g9,b36,e6,e63,hwr,hY,show (ms.length+1) * 48≤140737488355328 by omega,show ms.length≤9223372036854775806 by omega,show ms.length+1≤9223372036854775807 by omega]<;>try refine Ya ?_)|refine X2 ?_ ?_|(refine Xd ?_ ?_<;>intro hcd<;>try exact Xx))
     all_goals exact ⟨by omega,.inr ⟨by simp,by simp,by rw [List.map_append];rfl⟩⟩
 ·have hiT : i=T:=by omega
  subst hiT
  obtain ⟨S,hS⟩ : ∃ S,bX l i=S:=⟨_,rfl⟩
  have hMs : (bX l i).2=S.2:=by rw [hS]
  rw [hS] at hle hmlen hmr b15 htC hMk
  obtain ⟨n,ms⟩:=S
  simp only at hle hmlen hmr b15 htC hMk hMs
  have c12:=gJ l n 12 (by decide) (by omega)
  have hx12:=bq l n (k:=12) (by decide) (by decide)
  have hCr : (1 < i∧((tC l : Nat) : Int)=nx l n 12)∨(i=1∧tC l=0):=by
   rw [hmlen] at htC
   split at htC
   ·left;omega
   ·right;omega
  have hC12 : tC l < 12:=by omega
  have hnn:=cY l n
  rw [hMk]
  generalize tC l=C9 at *
  generalize hn1 : nn l n=n1 at *
  have hng : ¬ 0 < (i : Int) - i:=by omega
  rcases hmr with ⟨h1,e4,e69⟩|⟨h1,e4,e69⟩
  ·subst h1;simp at hmlen;omega
  have hC0 : (dw l ms n1 0).1=n1:=rfl
  with_reducible repeat' (first|refine Sp.h ?_|((first|refine Wd ?_|refine Ss.h ?_|refine Sc.h (c12) ?_|(refine Sb.h ?_ ?_ ?_<;>(try intro hgd)<;>try exact Xy))<;>simp -implicitDefEqProofs (maxSteps:=2000000) [hP,hN,bk,g2,b2,g3,b15,g4,g5,b6,b36,b63,b113,hng,e4,e69]<;>try refine Ya ?_)|refine X2 ?_ ?_|(refine Xd ?_ ?_<;>intro hcd<;>try exact Xx))
  refine WP.loopN [] C9 (fun q st=>st.t 2=.ptr 2 0∧st.h 2=some (.box [bf,bf] true false)∧st.t 3=.ptr 15 0∧st.h 15=some (.box [.pv (zs l),.pv (Z (dw l ms n1 q).1)] true false)∧st.t 4=.ptr 4 0∧(∃ f,st.h 69=some (.row 48 2 (ms.map aV) f))∧st.t 11=.pv (Z (nx l n 12 - q))∧tj i (dw l ms n1 q).2 (st.h 4) (st.h 113)) (by simp [tj,dw,g2,b2,g3,g4,e4,e69,b113,hmlen]) ?_
  clear g2 b2 g3 b15 g4 g5 b6 b36 b63 b113 e4 e69
  rintro q st hq ⟨g2,b2,g3,b15,g4,⟨f69,e69⟩,g11,hcr⟩
  obtain ⟨hcl1,hcl2⟩:=oo l ms n1 q
  by_cases hqC : q < C9
  ·obtain ⟨hi1,hCe⟩ : 1 < i∧((C9 : Nat) : Int)=nx l n 12:=by omega
   have hSs : dw l ms n1 (q+1)=cS l ms (dw l ms n1 q):=rfl
   have hg11 : 0 < nx l n 12 - (q : Int):=by omega
   have hw11 : IntKind.i64.wrap (nx l n 12 - (q : Int) - 1)=nx l n 12 - ((q : Int)+1):=by rw [IntKind.wrap_i64];omega
   generalize dw l ms n1 (q+1)=S' at *
   generalize dw l ms n1 q=S at *
   obtain ⟨p,cs⟩:=S
   simp only at hcl1 hcl2 b15 hcr
   have hp1:=cY l p
   have hp2:=cY l (nn l p)
   have hAr:=bq l p (k:=(i : Int)) (by omega) (by omega)
   obtain ⟨a,ha⟩ : ∃ a : Nat,nx l p i=a:=⟨(nx l p i).toNat,by omega⟩
   have hBr:=bq l (nn l p) (k:=(i : Int) - 1) (by omega) (by omega)
   have hb0 : 0≤((a : Int)+1+nx l (nn l p) ((i : Int) - 1)).tmod i:=Int.tmod_nonneg _ (by omega)
   have hb1 : ((a : Int)+1+nx l (nn l p) ((i : Int) - 1)).tmod i < i:=Int.tmod_lt_of_pos _ (by omega)
   obtain ⟨b,hb⟩ : ∃ b : Nat,((a : Int)+1+nx l (nn l p) ((i : Int) - 1)).tmod i=b:=⟨(((a : Int)+1+nx l (nn l p) ((i : Int) - 1)).tmod i).toNat,by omega⟩
   have haL : a < ms.length:=by omega
   have hbL : b < ms.length:=by omega
   have hcA : cA l ms p=a:=by unfold cA;rw [hmlen];exact ha
   have hcB : cB l ms p=b:=by unfold cB;rw [hcA,hmlen];exact hb
   have hma : ms[a]?=some ms[a]:=List.getElem?_eq_getElem haL
   have hmb : ms[b]?=some ms[b]:=List.getElem?_eq_getElem hbL
   have hall : ∀ m ∈ ms,1≤m.np.length∧m.np.length≤1000∧m.es.length≤1000:=by
    intro m hm
    have:=ie l (p:=fun m=>1≤m.np.length∧m.np.length≤1000∧m.es.length≤1000) (fun n=>by have:=j0 l n;have:=ic l n;omega) i m (by rw [hMs];exact hm)
    exact this
   have hca:=hall _ (List.getElem_mem haL)
   have hcb:=hall _ (List.getElem_mem hbL)
   rw [cS] at hSs
   simp only [hcA,hcB,nT hma,nT hmb] at hSs
   have d1:=gJ l p i (by omega) (by omega)
   have d2:=gJ l (nn l p) ((i : Int) - 1) (by omega) (by omega)
   have hm1:=om l (nn l (nn l p)) ms[a] a
   have d3:=uq l (nn l (nn l p)) a ⟨ms,cs⟩ ms[a] hma hca.1 hca.2.1 hca.2.2 (by omega)
   have d4:=uq l (en l (nn l (nn l p)) ms[a] a).1 b ⟨ms,cs⟩ ms[b] hmb hcb.1 hcb.2.1 hcb.2.2 (by omega)
   generalize hv1 : en l (nn l (nn l p)) ms[a] a=V1 at *
   obtain ⟨p1,M1⟩:=V1
   simp only at d3 d4 hm1 hSs
   generalize hv2 : en l p1 ms[b] b=V2 at *
   obtain ⟨p2,M2⟩:=V2
   simp only at d4 hSs
   rw [ha] at d1
   have w1 : IntKind.i64.wrap ((i : Int) - 1)=(i : Int) - 1:=bP
   have w2 : IntKind.i64.wrap ((a : Int)+1)=(a : Int)+1:=bP
   have w3 : IntKind.i64.wrap ((a : Int)+1+nx l (nn l p) ((i : Int) - 1))=(a : Int)+1+nx l (nn l p) ((i : Int) - 1):=bP
   have w4 : IntKind.i64.wrap (b : Int)=(b : Int):=bP
   have w5 : (1 : Int) < (i : Int):=by omega
   have w6 : ¬ (i : Int)=0:=by omega
   have w7 : i≠0:=by omega
   obtain ⟨m11,m12,m13⟩:=M1
   obtain ⟨m21,m22,m23⟩:=M2
   subst hSs
   rcases hcr with ⟨h0,e4,e113⟩|⟨h0,e4,f113,e113⟩
   ·subst h0
    with_reducible repeat' (first|refine Sp.h ?_|((first|refine Wd ?_|refine Ss.h ?_|refine Sc.h (d1) ?_|refine Sc.h (d2) ?_|refine Sc.h (d3) ?_|refine Sc.h (d4) ?_|(refine Sb.h ?_ ?_ ?_<;>(try intro hgd)<;>try exact Xy))<;>simp -implicitDefEqProofs (maxSteps:=2000000) [hP,hN,bk,g2,b2,g3,b15,g4,e69,g11,e4,e113,hmlen,hg11,hw11,w1,w2,w3,w4,w5,w6,w7,hb,hi1]<;>try refine Ya ?_)|refine X2 ?_ ?_|(refine Xd ?_ ?_<;>intro hcd<;>try exact Xx))
    all_goals exact ⟨hqC,.inr ⟨by simp,rfl,0,rfl⟩⟩
   ·skip
    with_reducible repeat' (first|refine Sp.h ?_|((first|refine Wd ?_|refine Ss.h ?_|refine Sc.h (d1) ?_|refine Sc.h (d2) ?_|refine Sc.h (d3) ?_|refine Sc.h (d4) ?_|(refine Sb.h ?_ ?_ ?_<;>(try intro hgd)<;>try exact Xy))<;>simp -implicitDefEqProofs (maxSteps:=2000000) [hP,hN,bk,g2,b2,g3,b15,g4,e69,g11,e4,e113,hmlen,hg11,hw11,w1,w2,w3,w4,w5,w6,w7,hb,hi1,show (cs.length+1) * 48≤140737488355328 by omega,show cs.length≤9223372036854775806 by omega,show cs.length+1≤9223372036854775807 by omega]<;>try refine Ya ?_)|refine X2 ?_ ?_|(refine Xd ?_ ?_<;>intro hcd<;>try exact Xx))
    all_goals exact ⟨hqC,.inr ⟨by simp,by simp,cs.length,by rw [List.map_append];rfl⟩⟩
  ·have hq9 : q=C9:=by omega
   subst hq9
   have hex : ¬ (0 < nx l n 12 - (q : Int)∧1 < (i : Int)):=by omega
   rcases hcr with ⟨h0,e4,e113⟩|⟨h0,e4,f113,e113⟩
   ·rw [h0]
    with_reducible repeat' (first|refine Sp.h ?_|((first|refine Wd ?_|refine Ss.h ?_|(refine Sb.h ?_ ?_ ?_<;>(try intro hgd)<;>try exact Xy))<;>simp -implicitDefEqProofs (maxSteps:=2000000) [hP,hN,g2,b2,g3,b15,g4,e69,g11,e4,e113,hmlen]<;>try refine Ya ?_)|refine X2 ?_ ?_|(refine Xd ?_ ?_<;>intro hcd<;>try exact Xx))
    all_goals first|done|trace_state
   ·skip
    with_reducible repeat' (first|refine Sp.h ?_|((first|refine Wd ?_|refine Ss.h ?_|(refine Sb.h ?_ ?_ ?_<;>(try intro hgd)<;>try exact Xy))<;>simp -implicitDefEqProofs (maxSteps:=2000000) [hP,hN,g2,b2,g3,b15,g4,e69,g11,e4,e113,hmlen]<;>try refine Ya ?_)|refine X2 ?_ ?_|(refine Xd ?_ ?_<;>intro hcd<;>try exact Xx))
    all_goals first|done|trace_state
end Go.Ab
namespace Go.Ab
def gz (o : Option av) (v : Nat) : List Int:=match o with
 |some e=>if e.s=1 then (if e.u=v then [e.v] else if e.v=v then [e.u] else []) else []
 |none=>[]
def aZ (es : List av) (v : Nat) : Nat→List Int
 |0=>[(v : Int)]
 |i+1=>aZ es v i++gz es[i]? v
def fI (m : aW) (v : Nat) : List Int:=(aZ m.es v m.es.length).mergeSort fun x y=>decide (x≤y)
def bB (lg : Nat→Nat→Bool) (n v : Nat) : List Nat:=(List.range n).filter (lg v)
def nU (m : aW) (v u : Nat) : Bool:=decide (v=u) || cG m.es (min (v : Int) u) (max (v : Int) u)
theorem oZ {o : Option av} {v : Nat} {x : Int} : x ∈ gz o v↔∃ e,o=some e∧e.s=1∧((e.u=v∧x=e.v)∨(e.u≠v∧e.v=v∧x=e.u)):=by
 cases o with
 |none=>simp [gz]
 |some e=>
  unfold gz
  by_cases h1 : e.s=1
  ·by_cases h2 : e.u=v
   ·simp [h1,h2]
   ·by_cases h3 : e.v=v
    ·simp [h1,h2,h3]
    ·simp [h1,h2,h3]
  ·simp [h1]
theorem jT {es : List av} {v : Nat} {x : Int} : ∀ {i : Nat},x ∈ aZ es v i↔x=v∨∃ j e,j < i∧es[j]?=some e∧e.s=1∧((e.u=v∧x=e.v)∨(e.u≠v∧e.v=v∧x=e.u))
 |0=>by simp [aZ]
 |i+1=>by
  rw [aZ,List.mem_append,jT,oZ]
  constructor
  ·rintro ((h|⟨j,e,hj,h⟩)|⟨e,h⟩)
   ·exact .inl h
   ·exact .inr ⟨j,e,by omega,h⟩
   ·exact .inr ⟨i,e,by omega,h⟩
  ·rintro (h|⟨j,e,hj,h⟩)
   ·exact .inl (.inl h)
   ·by_cases e9 : j=i
    ·subst e9;exact .inr ⟨e,h⟩
    ·exact .inl (.inr ⟨j,e,by omega,h⟩)
theorem o0 (o : Option av) (v : Nat) : (gz o v).length≤1:=by
 unfold gz;split
 ·split
  ·split
   ·simp
   ·split<;>simp
  ·simp
 ·simp
theorem jU (es : List av) (v : Nat) : ∀ i,1≤(aZ es v i).length∧(aZ es v i).length≤i+1
 |0=>by simp [aZ]
 |i+1=>by
  have h:=jU es v i
  have h1:=o0 es[i]? v
  rw [aZ,List.length_append];omega
theorem qz {es : List av} {n : Nat} (hw : aJ n (-1) (-1) es=true) {v : Nat} : ∀ {i : Nat},(aZ es v i).Nodup
 |0=>by simp [aZ]
 |i+1=>by
  have hsp:=cd hw
  rw [aZ,List.nodup_append]
  refine ⟨qz hw,?_,?_⟩
  ·have:=o0 es[i]? v
   match h : gz es[i]? v,this with
   |[],_=>simp
   |[_],_=>simp
  ·intro a ha b hb hab
   subst hab
   obtain ⟨e,he,_,hb⟩:=oZ.1 hb
   have hee:=(hsp.1 e (List.mem_of_getElem? he)).1
   simp only [fS,Bool.and_eq_true,decide_eq_true_eq] at hee
   rcases jT.1 ha with h|⟨j,f,hj,hf,_,hb'⟩
   ·omega
   ·have:=hsp.2 j i f e hf he hj
    have hff:=(hsp.1 f (List.mem_of_getElem? hf)).1
    simp only [fS,Bool.and_eq_true,decide_eq_true_eq] at hff
    omega
theorem lw {m : aW} (hw : aS m=true) {v u : Nat} (hv : v < m.np.length) : (u : Int) ∈ aZ m.es v m.es.length↔u < m.np.length∧nU m v u=true:=by
 simp only [aS,Bool.and_eq_true,decide_eq_true_eq] at hw
 have hsp:=cd hw.2.2
 rw [jT]
 simp only [nU,Bool.or_eq_true,decide_eq_true_eq,cG,List.any_eq_true,Bool.and_eq_true,beq_iff_eq]
 constructor
 ·rintro (h|⟨j,e,hj,he,hs,h⟩)
  ·have : u=v:=by omega
   subst this;exact ⟨hv,.inl rfl⟩
  ·have hm:=List.mem_of_getElem? he
   have hee:=(hsp.1 e hm).1
   simp only [fS,Bool.and_eq_true,decide_eq_true_eq] at hee
   refine ⟨by omega,.inr ⟨e,hm,?_⟩⟩
   omega
 ·rintro ⟨hu,h|⟨e,hm,h1,h2,h3⟩⟩
  ·subst h;exact .inl rfl
  ·have hee:=(hsp.1 e hm).1
   simp only [fS,Bool.and_eq_true,decide_eq_true_eq] at hee
   obtain ⟨j,hj⟩:=List.mem_iff_getElem?.1 hm
   exact .inr ⟨j,e,(List.getElem?_eq_some_iff.1 hj).1,hj,h3,by omega⟩
theorem tm {m : aW} (hw : aS m=true) {v : Nat} (hv : v < m.np.length) : fI m v=(bB (nU m) m.np.length v).map fun u=>((u : Nat) : Int):=by
 have hw':=hw
 simp only [aS,Bool.and_eq_true,decide_eq_true_eq] at hw'
 have hp : (fI m v).Perm (aZ m.es v m.es.length):=List.mergeSort_perm _ _
 have nd2 : ((bB (nU m) m.np.length v).map fun u=>((u : Nat) : Int)).Nodup:=by
  show List.Pairwise _ _
  rw [List.pairwise_map]
  exact (List.pairwise_lt_range.filter _).imp fun h e=>by omega
 refine List.Perm.eq_of_pairwise (le:=fun a b=>decide (a≤b)=true) (fun a b _ _ h1 h2=>by simp only [decide_eq_true_eq] at h1 h2;omega) ?_ ?_ ?_
 ·exact List.pairwise_mergeSort (fun a b c h1 h2=>by simp only [decide_eq_true_eq] at *;omega) (fun a b=>by simp only [Bool.or_eq_true,decide_eq_true_eq];omega) _
 ·rw [List.pairwise_map]
  refine (List.pairwise_lt_range.filter _).imp fun h=>by simp only [decide_eq_true_eq];omega
 ·refine hp.trans ((List.perm_ext_iff_of_nodup (qz hw'.2.2) nd2).2 fun a=>?_)
  simp only [List.mem_map,bB,List.mem_filter,List.mem_range]
  constructor
  ·intro ha
   have h0 : 0≤a:=by
    rcases jT.1 ha with h|⟨j,e,_,he,_,h⟩
    ·omega
    ·have hee:=((cd hw'.2.2).1 e (List.mem_of_getElem? he)).1
     simp only [fS,Bool.and_eq_true,decide_eq_true_eq] at hee
     omega
   obtain ⟨u,rfl⟩ : ∃ u : Nat,a=u:=⟨a.toNat,by omega⟩
   exact ⟨u,(lw hw hv).1 ha,rfl⟩
  ·rintro ⟨u,h,rfl⟩
   exact (lw hw hv).2 h
theorem sk {t : aU} {k : Nat} {m : aW} (hm : t.maps[k]?=some m) {v u : Nat} (hv : v < m.np.length) (hu : u < m.np.length) : fK t k v u=nU m v u:=by
 have hk:=(List.getElem?_eq_some_iff.1 hm).1
 obtain ⟨e1,e2⟩:=fJ hm
 have h1 : bC t.maps.length (k : Int)=true:=aD.2 (by omega)
 have h2 : bC m.np.length (v : Int)=true:=aD.2 (by omega)
 have h3 : bC m.np.length (u : Int)=true:=aD.2 (by omega)
 simp only [fK,bm,Int.toNat_natCast,e1,e2,h1,h2,h3,Bool.true_and,nU]
 congr 1
 rw [Bool.eq_iff_iff,beq_iff_eq,decide_eq_true_eq];omega
theorem tn {t : aU} {k : Nat} {m : aW} (hm : t.maps[k]?=some m) {v : Nat} (hv : v < m.np.length) : bB (nU m) m.np.length v=bB (fK t k) (ax t k) v:=by
 obtain ⟨e1,_⟩:=fJ hm
 rw [bB,bB,e1]
 refine List.filter_congr fun u hu=>?_
 rw [sk hm hv (List.mem_range.1 hu)]
end Go.Ab
