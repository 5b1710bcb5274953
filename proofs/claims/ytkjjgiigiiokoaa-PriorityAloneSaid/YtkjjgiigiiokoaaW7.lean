/- The contracts and facts that the laws of this seat need, in one text (SrtL, M15, M16, M17, Ab32, Ab33, M18, M19, M20, M21, M22, M23, M24, M25, M26, M27). -/
import Derived.Test.YtkjjgiigiiokoaaW6
import Derived.Ground.NamesProg
set_option linter.all false
set_option maxHeartbeats 16000000
namespace Go.Ab
open Go.Proofs Go.Shelf Go.Sort
def vS (x : Nat) : Nat:=match x with
 |189=>52
 |125=>67
 |257=>66
 |128=>83
 |129=>84
 |294=>74
 |295=>75
 |296=>76
 |297=>77
 |298=>78
 |299=>79
 |216=>80
 |300=>81
 |301=>82
 |328=>86
 |329=>87
 |330=>88
 |331=>89
 |332=>90
 |215=>91
 |343=>92
 |n=>n
def vT (x : Nat) : Nat:=match x with
 |28=>26
 |3=>3
 |46=>110
 |0=>0
 |51=>124
 |53=>126
 |4=>4
 |183=>116
 |182=>115
 |131=>121
 |5=>5
 |9=>9
 |218=>128
 |222=>132
 |228=>134
 |229=>135
 |n=>n
def uS : Ren:=⟨vS,vT,fun x=>x⟩
theorem uT : Lays.n189 Try.prog uS:=
 { mixed:=by kernel_rfl,
   f125:=Try.func67.trans (congrArg some (by kernel_rfl)),
   f128:=Try.func83.trans (congrArg some (by kernel_rfl)),
   f129:=Try.func84.trans (congrArg some (by kernel_rfl)),
   f189:=Try.func52.trans (congrArg some (by kernel_rfl)),
   f215:=Try.func91.trans (congrArg some (by kernel_rfl)),
   f216:=Try.func80.trans (congrArg some (by kernel_rfl)),
   f257:=Try.func66.trans (congrArg some (by kernel_rfl)),
   f294:=Try.func74.trans (congrArg some (by kernel_rfl)),
   f295:=Try.func75.trans (congrArg some (by kernel_rfl)),
   f296:=Try.func76.trans (congrArg some (by kernel_rfl)),
   f297:=Try.func77.trans (congrArg some (by kernel_rfl)),
   f298:=Try.func78.trans (congrArg some (by kernel_rfl)),
   f299:=Try.func79.trans (congrArg some (by kernel_rfl)),
   f300:=Try.func81.trans (congrArg some (by kernel_rfl)),
   f301:=Try.func82.trans (congrArg some (by kernel_rfl)),
   f328:=Try.func86.trans (congrArg some (by kernel_rfl)),
   f329:=Try.func87.trans (congrArg some (by kernel_rfl)),
   f330:=Try.func88.trans (congrArg some (by kernel_rfl)),
   f331:=Try.func89.trans (congrArg some (by kernel_rfl)),
   f332:=Try.func90.trans (congrArg some (by kernel_rfl)),
   f343:=Try.func92.trans (congrArg some (by kernel_rfl)),
   t0:=Try.underlying0,
   a0:=Try.isAgg0,
   z0:=Try.sizeOf0,
   v0:=Try.zeroValue0,
   t3:=Try.underlying3,
   a3:=Try.isAgg3,
   z3:=Try.sizeOf3,
   v3:=Try.zeroValue3,
   t4:=Try.underlying4,
   a4:=Try.isAgg4,
   z4:=Try.sizeOf4,
   v4:=Try.zeroValue4,
   t5:=Try.underlying5,
   a5:=Try.isAgg5,
   z5:=Try.sizeOf5,
   v5:=Try.zeroValue5,
   t9:=Try.underlying9,
   a9:=Try.isAgg9,
   z9:=Try.sizeOf9,
   v9:=Try.zeroValue9,
   t28:=Try.underlying26,
   a28:=Try.isAgg26,
   z28:=Try.sizeOf26,
   v28:=Try.zeroValue26,
   t46:=Try.underlying110,
   a46:=Try.isAgg110,
   z46:=Try.sizeOf110,
   v46:=Try.zeroValue110,
   t51:=Try.underlying124,
   a51:=Try.isAgg124,
   z51:=Try.sizeOf124,
   v51:=Try.zeroValue124,
   t53:=Try.underlying126,
   a53:=Try.isAgg126,
   z53:=Try.sizeOf126,
   v53:=Try.zeroValue126,
   t131:=Try.underlying121,
   a131:=Try.isAgg121,
   z131:=Try.sizeOf121,
   v131:=Try.zeroValue121,
   t182:=Try.underlying115,
   a182:=Try.isAgg115,
   z182:=Try.sizeOf115,
   v182:=Try.zeroValue115,
   t183:=Try.underlying116,
   a183:=Try.isAgg116,
   z183:=Try.sizeOf116,
   v183:=Try.zeroValue116,
   t218:=Try.underlying128,
   a218:=Try.isAgg128,
   z218:=Try.sizeOf128,
   v218:=Try.zeroValue128,
   t222:=Try.underlying132,
   a222:=Try.isAgg132,
   z222:=Try.sizeOf132,
   v222:=Try.zeroValue132,
   t228:=Try.underlying134,
   a228:=Try.isAgg134,
   z228:=Try.sizeOf134,
   v228:=Try.zeroValue134,
   t229:=Try.underlying135,
   a229:=Try.isAgg135,
   z229:=Try.sizeOf135,
   v229:=Try.zeroValue135 }
theorem qR : qu Try.prog 52:=⟨by kernel_rfl,fun blk cap zs w hH hblk hsz=>Any.slices_Sort_int uT blk 0 cap zs w hH hblk hsz⟩
end Go.Ab
namespace Go.Ab
open Go.Proofs Go.Sort
def nV (x : Nat) : Nat:=match Nat.ble 300 x with
 |true=>300
 |false=>x
theorem jm (x : Nat) : ∀ l : List Nat,l.contains x=true→(l.map nV).contains (nV x)=true
 |[],h=>h
 |a :: l,h=>by
  rw [List.contains_cons,Bool.or_eq_true,beq_iff_eq] at h
  rw [List.map_cons,List.contains_cons,Bool.or_eq_true,beq_iff_eq]
  rcases h with h|h
  ·exact .inl (by rw [h])
  ·exact .inr (jm x l h)
theorem nW {a b : List Nat} (h : nK (a.map nV) (b.map nV)=true) : nK a b=true:=by
 unfold nK at *
 rw [List.all_eq_true] at *
 intro x hx
 have:=h (nV x) (List.mem_map_of_mem hx)
 rw [Bool.not_eq_true'] at *
 rw [← Bool.not_eq_true];intro h9
 rw [jm x b h9] at this;cases this
def rj (acc : eY) : eY:=acc.map fun x=>(x.1.map nV,x.2.map nV)
theorem qA {ts : List Nat} {acc : eY} (h : eB ts (rj acc)=true) : eB ts acc=true:=by
 unfold eB rj at *
 rw [List.length_map] at h
 rw [List.all_eq_true] at *
 intro j hj
 have h1:=h j hj
 rw [List.all_eq_true] at *
 intro i hi
 have h2:=h1 i hi
 rw [List.getElem?_map,List.getElem?_map] at h2
 cases ha : acc[i]? with
 |none=>rfl
 |some a=>cases hb : acc[j]? with
  |none=>rfl
  |some b=>
   rw [ha,hb] at h2
   simp only [Option.map_some,Bool.or_eq_true,Bool.and_eq_true] at h2 ⊢
   exact h2.imp (fun h=>⟨nW h.1,nW h.2⟩) id
theorem Yc {ts : List Nat} {acc : eY} {b : Prop} (h : b) (k : eB ts (rj acc)=true:=by kernel_rfl) : eB ts acc=true∧b:=⟨qA k,h⟩
section
variable {C : Cx} {Q : Exit→St→Prop} {st : St}
theorem WP.sortAt {hn : List Nat} {id : Nat} {ops : Array Oper} (n : Nat) {o : Oper} {f x : Operand} {ats : Array TypeId} (ho : ops.toList[n]?=some o) (hop : o.op=.call { callee:=.value f,args:=#[x],argTypes:=ats }) (hg : o.guard=none)
 (hq : cC C.P hn C.N ops (rV C (cC C.P hn C.N ops (Q .normal) (ops.toList.drop (n+1))) f x o.dst) (ops.toList.take n) st) : WP C (.region id ops false) Q st:=by
 refine WP.sort (pre:=ops.toList.take n) (post:=ops.toList.drop (n+1)) (o:=o) ?_ hop hg hq
 have hlt:=(List.getElem?_eq_some_iff.1 ho).1
 have he:=(List.getElem?_eq_some_iff.1 ho).2
 rw [← he,List.getElem_cons_drop,List.take_append_drop]
end
theorem nX {f : Nat→List Int} {h : Hp} : ∀ (l : List Nat),(∀ v ∈ l,h (v+300)=some (.row 3 1 (bZ (f v)) 0))→∃ W,bh h (l.map fun v=>.arr (v+300) (f v).length)=some (l.map fun v=>.sl (bZ (f v)),W)
 |[],_=>⟨[],rfl⟩
 |v :: l,hh=>by
  obtain ⟨W,hW⟩:=nX l fun w hw=>hh w (by simp [hw])
  have h1:=hh v (by simp)
  have h2 : (bZ (f v)).length=(f v).length:=by simp
  refine ⟨[(v+300,.row 3 1 (bZ (f v)) (bZ (f v)).length)]++W,?_⟩
  simp only [List.map_cons,bh,c8,h1,h2,if_true,hW]
theorem b8 {cs : List AV} {i : Nat} {x : AV} (h : i < cs.length) : cs.take i++x :: cs.drop (i+1)=cs.set i x:=by
 rw [List.set_eq_take_append_cons_drop,if_pos h]
def c1 (i n : Nat) : List AV:=(List.range n).map fun w=>if w < i then .arr (w+300) 1 else bf
theorem qB (i n : Nat) : (c1 i n).length=n:=by simp [c1]
theorem sm (n : Nat) : c1 0 n=List.replicate n bf:=by
 simp [c1,List.map_const']
theorem sn {i n : Nat} (x : AV) : ((c1 i n).set i x).set i (.arr (i+300) 1)=c1 (i+1) n:=by
 rw [List.set_set]
 apply List.ext_getElem?
 intro w
 rw [List.getElem?_set]
 simp only [qB]
 by_cases hw : w < n
 ·by_cases e : i=w
  ·subst e;simp [c1,hw]
  ·simp [c1,hw,e,show (w < i+1↔w < i) by omega]
 ·by_cases e : i=w
  ·subst e;simp [c1,hw]
  ·simp [c1,hw,e]
def cF (f : Nat→List Int) (n : Nat) : List AV:=(List.range n).map fun v=>.arr (v+300) (f v).length
def rF (f : Nat→List Int) (n : Nat) (h : Hp) : Prop:=∀ v,v < n→h (v+300)=some (.row 3 1 (bZ (f v)) 0)
theorem tp (n : Nat) (es : List av) : c1 n n=cF (fun v=>aZ es v 0) n:=by
 unfold c1 cF
 refine List.map_congr_left fun v hv=>?_
 rw [if_pos (List.mem_range.1 hv)];rfl
theorem sq (i n : Nat) : (c1 i n).map (bc [])=c1 i n:=by
 unfold c1;rw [List.map_map]
 refine List.map_congr_left fun w _=>?_
 simp only [Function.comp];split<;>simp [eX,bp]
theorem hZ (f : Nat→List Int) (n : Nat) : (cF f n).map (bc [])=cF f n:=by
 unfold cF;rw [List.map_map]
 refine List.map_congr_left fun w _=>?_
 simp [eX,bp]
theorem lx (f : Nat→List Int) (n : Nat) : (cF f n).length=n:=by simp [cF]
theorem pO (f : Nat→List Int) {n v : Nat} (h : v < n) : (cF f n)[v]?=some (.arr (v+300) (f v).length):=by simp [cF,h]
theorem ia {f : Nat→List Int} {n : Nat} {st : St} (h : rF f n st.h) : rF f n (St.kill [] st).h:=by
 intro v hv
 have:=h v hv
 simp only [St.kill,List.contains_nil,Bool.false_eq_true,if_false,this]
 rfl
theorem ss {f g : Nat→List Int} {n u v : Nat} (hu : u < n) (hv : v < n) (hne : ¬ u=v) (h1 : (g u).length=(f u).length+1) (h2 : (g v).length=(f v).length+1) (h3 : ∀ w,w≠u→w≠v→(g w).length=(f w).length) :
 ((cF f n).set u (.arr (u+300) ((f u).length+1))).set v (.arr (v+300) ((f v).length+1))=cF g n:=by
 apply List.ext_getElem?
 intro w
 rw [List.getElem?_set,List.getElem?_set]
 simp only [List.length_set,lx]
 by_cases hw : w < n
 ·by_cases e2 : v=w
  ·subst e2;simp [cF,hw,h2]
  ·by_cases e1 : u=w
   ·subst e1;simp [cF,hw,e2,h1]
   ·simp [cF,hw,e1,e2,h3 w (fun e=>e1 e.symm) (fun e=>e2 e.symm)]
 ·rw [if_neg (by omega),if_neg (by omega)]
  simp [cF,hw]
theorem vi (m : aW) (hw9 : aS m=true) : am Try.prog 36 [.pv (aV m)] [] [] (.pv (.sl ((List.range m.np.length).map fun v=>zs (fI m v)))):=by
 have hw:=hw9
 simp only [aS,Bool.and_eq_true,decide_eq_true_eq] at hw
 obtain ⟨hn,he,hwg⟩:=hw
 obtain ⟨n,hnn⟩ : ∃ n,n=m.np.length:=⟨_,rfl⟩
 rw [← hnn] at hn hwg ⊢
 have q1 : ((n : Int)) * 24≤281474976710656:=by omega
 have q2 : (24 * (n : Int))≤281474976710656:=by omega
 have q3 : (n : Int)≤9223372036854775807:=by omega
 refine Dp Try.func36 ?_
 intro C hP hN
 simp only [Try.f36] at hN ⊢
 with_reducible repeat' (first|refine Sp.h ?_|((first|refine Wh [1000011] ?_|refine Wi [1000011] ?_|refine Ss.h ?_|(refine Sb.h ?_ ?_ ?_<;>(try intro hgd)<;>try exact Xy))<;>simp -implicitDefEqProofs (maxSteps:=2000000) [hP,hN,hnn.symm,q1,q2,q3]<;>try refine Ya ?_)|refine X2 ?_ ?_|(refine Xd ?_ ?_<;>intro hcd<;>try exact Xx))
 refine WP.loopN [] n (fun i st=>st.t 1=.ptr 1 0∧st.h 1=some (.box [.pv (.sl m.np),.pv (dP m.es)] true false)∧st.t 3=.ext (.barr 11 n)∧st.t 13=.pv (Z n)∧st.t 14=.pv (Z i)∧st.h 11=some (.box (c1 i n) true false)∧(∀ w,w < i→st.h (w+300)=some (.row 3 1 [Z w] 0))∧(∀ w,i≤w→st.h (w+300)=none)∧st.h 20=none) (by simp [sm];intro w;simp [jg,show ¬ w+300=11 by omega,show ¬ w+300=1 by omega,show ¬ 1000000≤w+300∨True by simp]) ?_
 rintro i st hi ⟨g1,b1,g3,g13,g14,b11,hr,hno,b20⟩
 by_cases hlt : i < n
 ·have hwr:=ak hlt (by omega)
  obtain ⟨cs,hcs⟩ : ∃ cs,cs=c1 i n:=⟨_,rfl⟩
  rw [← hcs] at b11
  have hcl : cs.length=n:=by rw [hcs,qB]
  have hsp : cs.take i++AV.arr 20 1 :: cs.drop (i+1)=cs.set i (.arr 20 1):=b8 (by omega)
  have hlt1 : i+1≤n:=hlt
  have hltz : (i : Int) < (n : Int):=by omega
  with_reducible iterate 10 any_goals (first|refine Sp.h ?_|((first|refine Wh [20] ?_|refine Wi [20] ?_|refine Ss.h ?_|(refine Sb.h ?_ ?_ ?_<;>(try intro hgd)<;>try exact Xy))<;>simp -implicitDefEqProofs (maxSteps:=2000000) [hP,hN,g1,b1,g3,g13,g14,b11,b20,hlt,hlt1,hltz,hcl,hsp]<;>try refine Ya ?_)|refine X2 ?_ ?_|(refine Xd ?_ ?_<;>intro hcd<;>try exact Xx))
  refine WP.rename 11 i 20 (i+300) (blk:=.row 3 1 [Z i] 0) (x:=.arr 20 1) (y:=.arr (i+300) 1) (cs:=cs.set i (.arr 20 1)) (own:=true) (fb:=false) (by simp) (by simp [hno i (Nat.le_refl _),show ¬ i+300=11 by omega,show ¬ i+300=20 by omega]) (by omega) (by simp) (by simp [hcl,hlt]) ⟨rfl,rfl⟩ ?_ ?_
  ·intro w c hc hne
   rw [List.getElem?_set,if_neg (fun e=>hne e.symm),hcs] at hc
   simp only [c1,List.getElem?_map,Option.map_eq_some_iff] at hc
   obtain ⟨q,hq,rfl⟩:=hc
   split<;>simp [eX,bp]
  rw [hcs,sn]
  with_reducible repeat' (first|refine Sp.h ?_|((first|refine Wd ?_|refine Ss.h ?_|(refine Sb.h ?_ ?_ ?_<;>(try intro hgd)<;>try exact Xy))<;>simp -implicitDefEqProofs (maxSteps:=2000000) [hP,hN,e7,g1,b1,g3,g13,g14,b11,b20,hwr]<;>try refine Ya ?_)|refine X2 ?_ ?_|(refine Xd ?_ ?_<;>intro hcd<;>try exact Xx))
  refine ⟨by simp [sq],fun w hw=>?_,fun w hw=>?_⟩
  ·by_cases e : w=i
   ·subst e;exact ⟨_,if_pos rfl,rfl⟩
   ·rw [if_neg e,hr w (by omega)];exact ⟨_,rfl,rfl⟩
  ·rw [if_neg (by omega),hno w (by omega)];rfl
 ·have hin : i=n:=by omega
  subst hin
  rw [tp i m.es] at b11
  have hrf : rF (fun v=>aZ m.es v 0) i st.h:=fun v hv=>hr v hv
  clear hr hno
  have hsp:=cd hwg
  obtain ⟨E,hE⟩ : ∃ E,E=m.es.length:=⟨_,rfl⟩
  with_reducible repeat' (first|refine Sp.h ?_|((first|refine Wd ?_|refine Ss.h ?_|(refine Sb.h ?_ ?_ ?_<;>(try intro hgd)<;>try exact Xy))<;>simp -implicitDefEqProofs (maxSteps:=2000000) [hP,hN,g1,b1,g3,g13,g14,b11,b20]<;>try refine Ya ?_)|refine X2 ?_ ?_|(refine Xd ?_ ?_<;>intro hcd<;>try exact Xx))
  refine WP.loopN [] E (fun j st=>st.t 1=.ptr 1 0∧st.h 1=some (.box [.pv (.sl m.np),.pv (dP m.es)] true false)∧st.t 3=.ext (.barr 11 i)∧st.t 25=.pv (Z E)∧st.t 26=.pv (Z j)∧st.h 11=some (.box (cF (fun v=>aZ m.es v j) i) true false)∧rF (fun v=>aZ m.es v j) i st.h) (by simp [g1,b1,g3,b11,hE,hZ];exact ia (st:=⟨_,st.h⟩) hrf) ?_
  clear g1 b1 g3 g13 g14 b11 b20 hrf
  rintro j st hj ⟨g1,b1,g3,g25,g26,b11,hrf⟩
  by_cases hjl : j < E
  ·have hwr:=ak hjl (by omega)
   have hjE : j < m.es.length:=by omega
   have hjz : (j : Int) < (E : Int):=by omega
   have hxi : m.es[j]?=some m.es[j]:=List.getElem?_eq_getElem hjE
   have hed:=(hsp.1 _ (List.getElem_mem hjE)).1
   generalize hx : m.es[j]=e at *
   simp only [fS,Bool.and_eq_true,decide_eq_true_eq] at hed
   obtain ⟨u,hu⟩ : ∃ u : Nat,e.u=u:=⟨e.u.toNat,by omega⟩
   obtain ⟨v,hv⟩ : ∃ v : Nat,e.v=v:=⟨e.v.toNat,by omega⟩
   have huv : u < v∧v < i:=by omega
   have hnu : ∀ w,aZ m.es w (j+1)=aZ m.es w j++gz (some e) w:=fun w=>by rw [aZ,hxi]
   by_cases hs : e.s=1
   ·obtain ⟨cs,hcs⟩ : ∃ cs,cs=cF (fun v=>aZ m.es v j) i:=⟨_,rfl⟩
    rw [← hcs] at b11
    have hcl : cs.length=i:=by rw [hcs,lx]
    have hu1 : u+1≤i:=by omega
    have hv1 : v+1≤i:=by omega
    have hui : u < i:=by omega
    have hvi : v < i:=by omega
    have hne1 : ¬ u=v:=by omega
    have hne2 : ¬ v=u:=by omega
    have ru : st.h (u+300)=some (.row 3 1 (bZ (aZ m.es u j)) 0):=hrf u hui
    have rv : st.h (v+300)=some (.row 3 1 (bZ (aZ m.es v j)) 0):=hrf v hvi
    have cu : cs[u]?=some (.arr (u+300) (aZ m.es u j).length):=by rw [hcs];exact pO _ hui
    have cv : cs[v]?=some (.arr (v+300) (aZ m.es v j).length):=by rw [hcs];exact pO _ hvi
    have cu' : ∀ h,cs[u]'h=.arr (u+300) (aZ m.es u j).length:=fun h=>(List.getElem?_eq_some_iff.1 cu).2
    have cv' : ∀ h,cs[v]'h=.arr (v+300) (aZ m.es v j).length:=fun h=>(List.getElem?_eq_some_iff.1 cv).2
    have su : ∀ x,cs.take u++x :: cs.drop (u+1)=cs.set u x:=fun x=>b8 (by omega)
    have sv : ∀ x y,(cs.set u x).take v++y :: (cs.set u x).drop (v+1)=(cs.set u x).set v y:=fun x y=>b8 (by simp;omega)
    have lu:=jU m.es u j
    have lv:=jU m.es v j
    have hfin : (cs.set u (.arr (u+300) ((aZ m.es u j).length+1))).set v (.arr (v+300) ((aZ m.es v j).length+1))=cF (fun v=>aZ m.es v (j+1)) i:=by
     rw [hcs];exact ss hui hvi hne1 (by rw [hnu];simp [gz,hs,hu]) (by rw [hnu];simp [gz,hs,hu,hv];rw [if_neg (by omega)];rfl) (fun w h1 h2=>by rw [hnu];simp only [gz,hs,hu,hv,if_true];rw [if_neg (by omega),if_neg (by omega)];simp)
    have hku : ¬ u+300=11:=by omega
    have hkv : ¬ v+300=11:=by omega
    have hau : aZ m.es u (j+1)=aZ m.es u j++[e.v]:=by rw [hnu];simp [gz,hs,hu]
    have hav : aZ m.es v (j+1)=aZ m.es v j++[e.u]:=by rw [hnu];simp only [gz,hs,hu,hv,if_true];rw [if_neg (by omega)]
    have haw : ∀ w,w≠u→w≠v→aZ m.es w (j+1)=aZ m.es w j:=fun w h1 h2=>by rw [hnu];simp only [gz,hs,hu,hv,if_true];rw [if_neg (by omega),if_neg (by omega)];simp
    generalize hzu : aZ m.es u j=zu at *
    generalize hzv : aZ m.es v j=zv at *
    have lu2 : (bZ zu).length=zu.length:=by simp
    have lv2 : (bZ zv).length=zv.length:=by simp
    with_reducible repeat' (first|refine Sp.h ?_|((first|refine Wd ?_|refine Ss.h ?_|(refine Sb.h ?_ ?_ ?_<;>(try intro hgd)<;>try exact Xy))<;>simp -implicitDefEqProofs (maxSteps:=2000000) [hP,hN,g1,b1,g3,g25,g26,b11,hjE,hjz,hwr,hx,hxi,hs,hu,hv,hcl,hu1,hv1,hui,hvi,hne1,hne2,ru,rv,cu,cv,cu',cv',su,sv,lu2,lv2,hku,hkv,show ¬ 11=u+300 by omega,show ¬ 11=v+300 by omega,show u+300 < 2000000 by omega,show v+300 < 2000000 by omega,hE.symm,show (zu.length+1) * 8≤140737488355328 by omega,show (zv.length+1) * 8≤140737488355328 by omega,show zu.length+1≤9223372036854775807 by omega,show zv.length+1≤9223372036854775807 by omega]<;>try refine Yc ?_)|refine X2 ?_ ?_|(refine Xd ?_ ?_<;>intro hcd<;>try exact Xx))
    refine ⟨hjl,by rw [show cs.map (bc [])=cs by rw [hcs];exact hZ _ _];exact hfin,ia (st:=⟨_,_⟩) ?_⟩
    intro w hw
    by_cases e1 : w=v
    ·subst e1;simp [hav,hzv,hu]
    ·by_cases e2 : w=u
     ·subst e2;simp [hau,hzu,hv,e1]
     ·have:=hrf w hw
      simp [haw w e2 e1,e1,e2,this]
   ·have hsame : (fun w=>aZ m.es w (j+1))=fun w=>aZ m.es w j:=by
     funext w;rw [hnu];simp [gz,hs]
    have hs' : (e.s==1)=false:=by simp [hs]
    rw [hsame]
    with_reducible repeat' (first|refine Sp.h ?_|((first|refine Wd ?_|refine Ss.h ?_|(refine Sb.h ?_ ?_ ?_<;>(try intro hgd)<;>try exact Xy))<;>simp -implicitDefEqProofs (maxSteps:=2000000) [hP,hN,g1,b1,g3,g25,g26,b11,hjE,hjz,hwr,hx,hxi,hs,hs',hE.symm]<;>try refine Ya ?_)|refine X2 ?_ ?_|(refine Xd ?_ ?_<;>intro hcd<;>try exact Xx))
    all_goals exact ⟨hjl,hZ _ _,ia (st:=⟨_,st.h⟩) hrf⟩
  ·have hjE : j=E:=by omega
   subst hjE
   have hjE : ¬ j < m.es.length:=by omega
   with_reducible repeat' (first|refine Sp.h ?_|((first|refine Wd ?_|refine Ss.h ?_|(refine Sb.h ?_ ?_ ?_<;>(try intro hgd)<;>try exact Xy))<;>simp -implicitDefEqProofs (maxSteps:=2000000) [hP,hN,g1,b1,g3,g25,g26,b11,hjE,hE.symm]<;>try refine Ya ?_)|refine X2 ?_ ?_|(refine Xd ?_ ?_<;>intro hcd<;>try exact Xx))
   refine WP.loopN [] i (fun k st=>st.t 3=.ext (.barr 11 i)∧st.t 78=.pv (Z i)∧st.t 79=.pv (Z k)∧st.h 11=some (.box (cF (fun v=>aZ m.es v j) i) true false)∧rF (fun v=>if v < k then fI m v else aZ m.es v j) i st.h) (by simp [g3,b11,hZ];exact ia (st:=⟨_,st.h⟩) hrf) ?_
   clear g1 b1 g3 g25 g26 b11 hrf
   rintro k st hk ⟨g3,g78,g79,b11,hrf⟩
   by_cases hkl : k < i
   ·have hwr:=ak hkl (by omega)
    have hkz : (k : Int) < (i : Int):=by omega
    obtain ⟨cs,hcs⟩ : ∃ cs,cs=cF (fun v=>aZ m.es v j) i:=⟨_,rfl⟩
    rw [← hcs] at b11
    have hcl : cs.length=i:=by rw [hcs,lx]
    have ck : cs[k]?=some (.arr (k+300) (aZ m.es k j).length):=by rw [hcs];exact pO _ hkl
    have ck' : ∀ h,cs[k]'h=.arr (k+300) (aZ m.es k j).length:=fun h=>(List.getElem?_eq_some_iff.1 ck).2
    have hkl1 : k+1≤i:=hkl
    have rk : st.h (k+300)=some (.row 3 1 (bZ (aZ m.es k j)) 0):=by have:=hrf k hkl;simpa only [Nat.lt_irrefl,if_false] using this
    with_reducible iterate 9 any_goals (first|refine Sp.h ?_|((first|refine Wd ?_|refine Ss.h ?_|(refine Sb.h ?_ ?_ ?_<;>(try intro hgd)<;>try exact Xy))<;>simp -implicitDefEqProofs (maxSteps:=2000000) [hP,hN,g3,g78,g79,b11,hkl,hkl1,hkz,hcl,ck,ck']<;>try refine Ya ?_)|refine X2 ?_ ?_|(refine Xd ?_ ?_<;>intro hcd<;>try exact Xx))
    refine WP.sortAt (hn:=[]) 4 rfl rfl rfl ?_
    simp -implicitDefEqProofs (maxSteps:=2000000) [hP,hN,g3,g78,g79,b11,hkl,hkl1,hkz,hcl,ck,ck']
    have hlk:=jU m.es k j
    refine ⟨52,k+300,3,aZ m.es k j,rfl,by rw [hP];exact qR,by simp,rk,by intro h9;rw [h9] at hlk;simp at hlk,by omega,by simp [hN],?_⟩
    have hnx : (aZ m.es k j).mergeSort (fun x y=>decide (x≤y))=fI m k:=by rw [fI,← hE]
    rw [hnx]
    simp -implicitDefEqProofs (maxSteps:=2000000) [hP,hN]
    with_reducible repeat' (first|refine Sp.h ?_|((first|refine Wd ?_|refine Ss.h ?_|(refine Sb.h ?_ ?_ ?_<;>(try intro hgd)<;>try exact Xy))<;>simp -implicitDefEqProofs (maxSteps:=2000000) [hP,hN,g3,g78,g79,b11,hwr]<;>try refine Ya ?_)|refine X2 ?_ ?_|(refine Xd ?_ ?_<;>intro hcd<;>try exact Xx))
    refine ⟨by rw [show cs.map (bc [])=cs by rw [hcs];exact hZ _ _];exact hcs,ia (st:=⟨_,_⟩) ?_⟩
    intro w hw
    by_cases e1 : w=k
    ·subst e1;simp
    ·have:=hrf w hw
     simp only at this ⊢
     rw [show (if w < k+1 then fI m w else aZ m.es w j)=if w < k then fI m w else aZ m.es w j by
      by_cases h9 : w < k
      ·rw [if_pos h9,if_pos (by omega)]
      ·rw [if_neg h9,if_neg (by omega)]]
     simp [e1,this]
   ·have hki : k=i:=by omega
    subst hki
    have hcF : cF (fun v=>aZ m.es v j) k=cF (fI m) k:=by
     unfold cF;refine List.map_congr_left fun v _=>?_
     simp [fI,← hE]
    rw [hcF] at b11
    have hrn : rF (fI m) k st.h:=fun v hv=>by have:=hrf v hv;simpa [hv] using this
    obtain ⟨W,hW⟩:=nX (f:=fI m) (h:=st.h) (List.range k) (fun v hv=>hrn v (List.mem_range.1 hv))
    obtain ⟨cs,hcs⟩ : ∃ cs,cs=cF (fI m) k:=⟨_,rfl⟩
    have hW' : bh st.h cs=some ((List.range k).map (fun v=>.sl (bZ (fI m v))),W):=by rw [hcs];exact hW
    rw [← hcs] at b11
    have hcl : cs.length=k:=by rw [hcs,lx]
    obtain ⟨ps,hps⟩ : ∃ ps,ps=(List.range k).map (fun v=>PV.sl (bZ (fI m v))):=⟨_,rfl⟩
    rw [← hps] at hW'
    have hone : ps.all dA=true:=by rw [hps,List.all_eq_true];intro x hx;obtain ⟨v,_,rfl⟩:=List.mem_map.1 hx;rfl
    rw [show ((List.range k).map fun v=>zs (fI m v))=ps from hps.symm]
    have hone':=List.all_eq_true.1 hone
    with_reducible repeat' (first|refine Sp.h ?_|((first|refine Wd ?_|refine Ss.h ?_|(refine Sb.h ?_ ?_ ?_<;>(try intro hgd)<;>try exact Xy))<;>simp -implicitDefEqProofs (maxSteps:=2000000) [hP,hN,g3,g78,g79,b11,hW',hcl,hone]<;>try refine Ya ?_)|refine X2 ?_ ?_|(refine Xd ?_ ?_<;>intro hcd<;>try exact Xx))
    all_goals (intro x hx;rw [hps] at hx;obtain ⟨v,_,rfl⟩:=List.mem_map.1 hx;rfl)
end Go.Ab
namespace Go.Ab
open Go.Proofs
theorem gL : ∀ (es : List (List Int × Value)) (is : List Int) (u : Value) (js : List Int),eM (fl es is u) js=if is=js then some u else eM es js
 |[],is,u,js=>by simp [fl,eM]
 |(k,v) :: r,is,u,js=>by
  simp only [fl]
  by_cases h1 : k=is
  ·subst h1
   rw [if_pos rfl]
   by_cases h2 : k=js<;>simp [eM,h2]
  ·rw [if_neg h1]
   simp only [eM]
   rw [gL r is u js]
   by_cases h2 : k=js
   ·subst h2
    simp [show ¬ is=k from fun e=>h1 e.symm]
   ·simp [h2]
def rZ (b : Bool) (es : List (List Int × Value)) (k : List Int) : List (List Int × Value):=if b=true then fl es k (.bool true) else es
def cE (plan : List (List Int)) (arm : Int) (tick : Nat) (es : List (List Int × Value)) (c : Mov × Mov) : List (List Int × Value):=
 rZ (c.2.a==arm && bS plan c.1 tick) (rZ (c.1.a==arm && bS plan c.2 tick) es [c.1.f,c.1.t]) [c.2.f,c.2.t]
def e8 (cs : List (Mov × Mov)) (plan : List (List Int)) (arm : Int) (tick : Nat) : Nat→List (List Int × Value)
 |0=>[]
 |i+1=>match cs[i]? with
  |some c=>cE plan arm tick (e8 cs plan arm tick i) c
  |none=>e8 cs plan arm tick i
theorem o3 (cs : List (Mov × Mov)) (plan : List (List Int)) (arm : Int) (tick : Nat) (f to : Int) : ∀ i,eM (e8 cs plan arm tick i) [f,to]=if (cs.take i).any (jx plan arm tick f to)=true then some (.bool true) else none
 |0=>by simp [e8,eM]
 |i+1=>by
  have ih:=o3 cs plan arm tick f to i
  by_cases hi : i < cs.length
  ·rw [e8,List.getElem?_eq_getElem hi]
   simp only
   generalize hc : cs[i]=c
   rw [List.take_succ_eq_append_getElem hi,List.any_append,hc]
   have hb : jx plan arm tick f to c=((c.1.a==arm && (bS plan c.2 tick && (c.1.f==f && c.1.t==to))) || (c.2.a==arm && (bS plan c.1 tick && (c.2.f==f && c.2.t==to)))):=rfl
   generalize (cs.take i).any (jx plan arm tick f to)=r at *
   simp only [List.any_cons,List.any_nil,Bool.or_false,hb,cE,rZ]
   cases h1 : (c.1.a==arm && bS plan c.2 tick)<;>cases h2 : (c.2.a==arm && bS plan c.1 tick)
   ·simp only [Bool.false_eq_true,if_false,ih,← Bool.and_assoc,h1,h2,Bool.false_and,Bool.or_false]
   ·simp only [Bool.false_eq_true,if_false,if_true,gL,ih,← Bool.and_assoc,h1,h2,Bool.false_and,Bool.true_and,Bool.false_or]
    by_cases h3 : c.2.f=f∧c.2.t=to
    ·simp [h3.1,h3.2]
    ·have : (c.2.f==f && c.2.t==to)=false:=by simpa using fun h=>fun g=>h3 ⟨h,g⟩
     rw [this,Bool.or_false,if_neg (by simpa using fun h=>fun g=>h3 ⟨h,g⟩)]
   ·simp only [Bool.false_eq_true,if_false,if_true,gL,ih,← Bool.and_assoc,h1,h2,Bool.false_and,Bool.true_and,Bool.or_false]
    by_cases h3 : c.1.f=f∧c.1.t=to
    ·simp [h3.1,h3.2]
    ·have : (c.1.f==f && c.1.t==to)=false:=by simpa using fun h=>fun g=>h3 ⟨h,g⟩
     rw [this,Bool.or_false,if_neg (by simpa using fun h=>fun g=>h3 ⟨h,g⟩)]
   ·simp only [if_true,gL,ih,← Bool.and_assoc,h1,h2,Bool.true_and]
    by_cases h3 : c.1.f=f∧c.1.t=to
    ·by_cases h4 : c.2.f=f∧c.2.t=to
     ·simp [h4.1,h4.2]
     ·have : (c.2.f==f && c.2.t==to)=false:=by simpa using fun h=>fun g=>h4 ⟨h,g⟩
      rw [this,Bool.or_false,if_neg (by simpa using fun h=>fun g=>h4 ⟨h,g⟩)]
      simp [h3.1,h3.2]
    ·have h5 : (c.1.f==f && c.1.t==to)=false:=by simpa using fun h=>fun g=>h3 ⟨h,g⟩
     rw [h5,Bool.false_or]
     by_cases h4 : c.2.f=f∧c.2.t=to
     ·simp [h4.1,h4.2]
     ·have : (c.2.f==f && c.2.t==to)=false:=by simpa using fun h=>fun g=>h4 ⟨h,g⟩
      rw [this,Bool.or_false,if_neg (by simpa using fun h=>fun g=>h4 ⟨h,g⟩),if_neg (by simpa using fun h=>fun g=>h3 ⟨h,g⟩)]
  ·rw [e8,List.getElem?_eq_none (by omega)]
   simp only [ih,List.take_of_length_le (show cs.length≤i by omega),List.take_of_length_le (show cs.length≤i+1 by omega)]
theorem sw {plan : List (List Int)} {m : Mov} {tick : Nat} {l : List Int} (h0 : 0≤m.a) (hx : plan[m.a.toNat]?=some l) : bS plan m tick=(decide (0 < l.length) && (l[tick]?==some m.f && l[tick+1]?==some m.t)):=by
 unfold bS;rw [hx];rfl
theorem ur (plan : List (List Int)) (m : Mov) (tick T : Nat) (h0 : 0≤m.a) (h1 : m.a.toNat < plan.length) (hp : ∀ l ∈ plan,l=[]∨l.length=T+1) (ht : tick < T) (hT : T≤64) : am Try.prog 53 [.pv (bz m),.pv (Z tick),.bx 0] [[.sl (plan.map zs)]] [[.sl (plan.map zs)]] (.pv (B (bS plan m tick))):=by
 obtain ⟨m1,m2,m3⟩:=m
 simp only at h0 h1
 obtain ⟨k,rfl⟩ : ∃ k : Nat,m1=k:=⟨m1.toNat,by omega⟩
 rw [Int.toNat_natCast] at h1
 have hx : plan[k]?=some plan[k]:=List.getElem?_eq_getElem h1
 have hmem:=hp _ (List.getElem_mem h1)
 rw [sw (plan:=plan) (m:=⟨k,m2,m3⟩) (l:=plan[k]) (by simp) (by simpa using hx)]
 generalize hxe : plan[k]=l at *
 rcases hmem with hl|hl
 ·subst hl
  refine eH Try.func53 rfl (by kernel_rfl) (by simp [Try.f53]) rfl (by intro i j h;rcases i with _|_|_|i<;>simp_all) ?_
  intro C hP hN
  simp only [Try.f53] at hN ⊢
  with_reducible repeat' (first|refine Sp.h ?_|((first|refine Wd ?_|refine Ss.h ?_|(refine Sb.h ?_ ?_ ?_<;>(try intro hgd)<;>try exact Xy))<;>simp -implicitDefEqProofs (maxSteps:=2000000) [hP,hN,hx,hxe,h1]<;>try refine Ya ?_)|refine X2 ?_ ?_|(refine Xd ?_ ?_<;>intro hcd<;>try exact Xx))
 ·have w1 : (0 : Int) < (l.length : Int):=by omega
  have w2 : 0 < l.length:=by omega
  have w3 : IntKind.i64.wrap ((tick : Int)+1)=((tick+1 : Nat) : Int):=by rw [IntKind.wrap_i64];omega
  obtain ⟨t1,ht1⟩ : ∃ t1,t1=tick+1:=⟨_,rfl⟩
  rw [← ht1] at w3 ⊢
  have q0 : tick < l.length:=by omega
  have q1 : t1 < l.length:=by omega
  have a0:=bG q0
  have a1:=bG q1
  generalize hx0 : l[tick]=x0 at *
  generalize hx1 : l[t1]=x1 at *
  rw [a0,a1,decide_eq_true w2,Bool.true_and]
  refine eH Try.func53 rfl (by kernel_rfl) (by simp [Try.f53]) rfl (by intro i j h;rcases i with _|_|_|i<;>simp_all) ?_
  intro C hP hN
  simp only [Try.f53] at hN ⊢
  with_reducible repeat' (first|refine Sp.h ?_|((first|refine Wd ?_|refine Ss.h ?_|(refine Sb.h ?_ ?_ ?_<;>(try intro hgd)<;>try exact Xy))<;>simp -implicitDefEqProofs (maxSteps:=2000000) [hP,hN,hx,hxe,h1,w1,w2,w3,q0,q1,a0,a1,hx0,hx1]<;>try refine Ya ?_)|refine X2 ?_ ?_|(refine Xd ?_ ?_<;>intro hcd<;>try exact Xx))
  all_goals simp_all
abbrev r7 (es : List (List Int × Value)) : PV:=.mp .i64 2 es
theorem vj (ms : List PV) (tick : Nat) (f to : Int) (es : List (List Int × Value)) (p : Bool) (hx : ms[tick]?=some (r7 es)) (hg : eM es [f,to]=if p=true then some (.bool true) else none) : am Try.prog 54 [.pv (Z tick),.pv (Z f),.pv (Z to),.pv (.rptr (.sl ms) 0)] [] [] (.pv (B (!p))):=by
 have hlt:=(List.getElem?_eq_some_iff.1 hx).1
 have hxe:=(List.getElem?_eq_some_iff.1 hx).2
 refine Dp Try.func54 ?_
 intro C hP hN
 simp only [Try.f54] at hN ⊢
 cases p with
 |true=>
  have hg' : eM es [f,to]=some (.bool true):=hg
  with_reducible repeat' (first|refine Sp.h ?_|((first|refine Ss.h ?_|(refine Sb.h ?_ ?_ ?_<;>(try intro hgd)<;>try exact Xy))<;>simp -implicitDefEqProofs (maxSteps:=2000000) [hP,hN,hx,hlt,hxe,hg'])|refine X2 ?_ ?_|(refine Xd ?_ ?_<;>intro hcd<;>try exact Xx))
 |false=>
  have hg' : eM es [f,to]=none:=hg
  with_reducible repeat' (first|refine Sp.h ?_|((first|refine Ss.h ?_|(refine Sb.h ?_ ?_ ?_<;>(try intro hgd)<;>try exact Xy))<;>simp -implicitDefEqProofs (maxSteps:=2000000) [hP,hN,hx,hlt,hxe,hg'])|refine X2 ?_ ?_|(refine Xd ?_ ?_<;>intro hcd<;>try exact Xx))
def mC (i n : Nat) : List AV:=(List.range n).map fun w=>if w < i then .ext (.mp (w+300)) else .pv (.val (.map none))
theorem ly (i n : Nat) : (mC i n).length=n:=by simp [mC]
theorem sx (n : Nat) : mC 0 n=List.replicate n (.pv (.val (.map none))):=by
 simp [mC,List.map_const']
theorem sy {i n : Nat} (x : AV) : ((mC i n).set i x).set i (.ext (.mp (i+300)))=mC (i+1) n:=by
 rw [List.set_set]
 apply List.ext_getElem?
 intro w
 rw [List.getElem?_set]
 simp only [ly]
 by_cases hw : w < n
 ·by_cases e : i=w
  ·subst e;simp [mC,hw]
  ·simp [mC,hw,e,show (w < i+1↔w < i) by omega]
 ·by_cases e : i=w
  ·subst e;simp [mC,hw]
  ·simp [mC,hw,e]
theorem tZ {i n w : Nat} (h : w < i) (hn : w < n) : (mC i n)[w]?=some (.ext (.mp (w+300))):=by simp [mC,hn,h]
theorem o4 (ks : List Nat) (hk : ∀ k ∈ ks,k < 300) (i n : Nat) : (mC i n).map (bc ks)=mC i n:=by
 unfold mC;rw [List.map_map]
 refine List.map_congr_left fun w _=>?_
 have : ks.contains (w+300)=false:=by
  rw [← Bool.not_eq_true];intro h
  have:=hk _ (List.contains_iff_mem.1 h);omega
 simp only [Function.comp];split<;>simp [eX,bp,this]
 intro h;have:=hk _ h;omega
def mF (g : Nat→List (List Int × Value)) (n : Nat) (h : Hp) : Prop:=∀ v,v < n→h (v+300)=some (.mp .i64 2 (g v) false)
theorem ma {ks : List Nat} (hk : ∀ k ∈ ks,k < 300) {g : Nat→List (List Int × Value)} {n : Nat} {st : St} (h : mF g n st.h) : mF g n (St.kill ks st).h:=by
 intro v hv
 have:=h v hv
 have h2 : ks.contains (v+300)=false:=by
  rw [← Bool.not_eq_true];intro h
  have:=hk _ (List.contains_iff_mem.1 h);omega
 simp only [St.kill,h2,Bool.false_eq_true,if_false,this]
 rfl
theorem nY {g : Nat→List (List Int × Value)} {h : Hp} : ∀ (l : List Nat),(∀ v ∈ l,h (v+300)=some (.mp .i64 2 (g v) false))→gE h (l.map fun v=>.ext (.mp (v+300)))=some (l.map fun v=>r7 (g v))
 |[],_=>rfl
 |v :: l,hh=>by
  have h1:=hh v (by simp)
  have h2:=nY l fun w hw=>hh w (by simp [hw])
  simp only [List.map_cons,gE,i6,h1,h2]
def gA (cs : List (Mov × Mov)) (plan : List (List Int)) (arm : Int) (T : Nat) : List PV:=(List.range T).map fun v=>r7 (e8 cs plan arm v cs.length)
abbrev t6 (cs : List (Mov × Mov)) (plan : List (List Int)) (arm : Int) (T : Nat) : PV:=.fn (.func 54) [] [.rptr (.sl (gA cs plan arm T)) 0]
theorem vk (t : aU) (plan : List (List Int)) (arm : Int) (T : Nat) (hc : aG t=true) (hcl : t.conf.length≤4096) (hp : plan.length=t.maps.length) (hpl : ∀ l ∈ plan,l=[]∨l.length=T+1) (hT : T≤64) : am Try.prog 37 [.pv (bR t),.pv (.sl (plan.map zs)),.pv (Z arm),.pv (Z T)] [] [] (.new (t6 t.conf plan arm T)):=by
 have hcf : ∀ c ∈ t.conf,(0≤c.1.a∧c.1.a.toNat < plan.length)∧(0≤c.2.a∧c.2.a.toNat < plan.length):=by
  intro c hc'
  have h:=hc
  simp only [aG,Bool.and_eq_true,List.all_eq_true] at h
  have:=h.2.2.2.2 c hc'
  simp only [ff,bm,Bool.and_eq_true,aD] at this
  omega
 refine Dp Try.func37 ?_
 intro C hP hN
 simp only [Try.f37] at hN ⊢
 with_reducible repeat' (first|refine Sp.h ?_|((first|refine Wh [1000015] ?_|refine Wi [1000015] ?_|refine Ss.h ?_|(refine Sb.h ?_ ?_ ?_<;>(try intro hgd)<;>try exact Xy))<;>simp -implicitDefEqProofs (maxSteps:=2000000) [hP,hN,show (T : Int) * 8≤281474976710656 by omega,show 8 * (T : Int)≤281474976710656 by omega,show (T : Int)≤9223372036854775807 by omega]<;>try refine Ya ?_)|refine X2 ?_ ?_|(refine Xd ?_ ?_<;>intro hcd<;>try exact Xx))
 refine WP.loopN [] T (fun i st=>st.t 4=.ptr 4 0∧st.h 4=some (.box [.pv (.sl (t.maps.map aV)),.pv (.sl (t.conf.map ba))] true false)∧st.t 2=.pv (Z arm)∧st.h 5=some (.box [.pv (.sl (plan.map zs))] true false)∧st.t 9=.ptr 9 0∧st.h 9=some (.box [.ext (.barr 15 T)] true false)∧st.t 10=.fn (.func 53) [] [.ptr 5 0]∧st.t 18=.pv (Z T)∧st.t 19=.pv (Z i)∧st.h 15=some (.box (mC i T) true false)∧mF (fun w=>e8 t.conf plan arm w t.conf.length) i st.h∧(∀ w,i≤w→st.h (w+300)=none)∧st.h 24=none∧st.h 13=none) (by simp [sx,mF];try (intro w;simp [jg])) ?_
 rintro i st hi ⟨g4,b4,g2,b5,g9,b9,g10,g18,g19,b15,hmf,hno,b24,b13⟩
 by_cases hlt : i < T
 ·have hwr:=ak hlt (by omega)
  have hlt1 : i+1≤T:=hlt
  have hltz : (i : Int) < (T : Int):=by omega
  obtain ⟨cs,hcs⟩ : ∃ cs,cs=mC i T:=⟨_,rfl⟩
  rw [← hcs] at b15
  have hcsl : cs.length=T:=by rw [hcs,ly]
  have hsp : cs.take i++AV.ext (.mp 24) :: cs.drop (i+1)=cs.set i (.ext (.mp 24)):=b8 (by omega)
  with_reducible iterate 12 any_goals (first|refine Sp.h ?_|((first|refine Wd ?_|refine Ss.h ?_|(refine Sb.h ?_ ?_ ?_<;>(try intro hgd)<;>try exact Xy))<;>simp -implicitDefEqProofs (maxSteps:=2000000) [hP,hN,g4,b4,g2,b5,g9,b9,g10,g18,g19,b15,b24,b13,hlt,hlt1,hltz,hcsl,hsp]<;>try refine Ya ?_)|refine X2 ?_ ?_|(refine Xd ?_ ?_<;>intro hcd<;>try exact Xx))
  refine WP.rename 15 i 24 (i+300) (blk:=.mp .i64 2 [] false) (x:=.ext (.mp 24)) (y:=.ext (.mp (i+300))) (cs:=cs.set i (.ext (.mp 24))) (own:=true) (fb:=false) (by simp) (by simp [hno i (Nat.le_refl _)]) (by omega) (by simp) (by simp [hcsl,hlt]) ⟨rfl,rfl⟩ ?_ ?_
  ·intro w c hc hne
   rw [List.getElem?_set,if_neg (fun e=>hne e.symm),hcs] at hc
   simp only [mC,List.getElem?_map,Option.map_eq_some_iff] at hc
   obtain ⟨q,hq,rfl⟩:=hc
   split<;>simp [eX,bp]
  rw [hcs,sy]
  obtain ⟨cf,hcf'⟩ : ∃ cf,cf=t.conf:=⟨_,rfl⟩
  rw [← hcf'] at hcf hmf hcl b4 ⊢
  with_reducible iterate 2 any_goals (first|refine Sp.h ?_|((first|refine Wd ?_|refine Ss.h ?_|(refine Sb.h ?_ ?_ ?_<;>(try intro hgd)<;>try exact Xy))<;>simp -implicitDefEqProofs (maxSteps:=2000000) [hP,hN,e7,g4,b4,g2,b5,g9,b9,g10,g18,g19,b15,b24,b13]<;>try refine Ya ?_)|refine X2 ?_ ?_|(refine Xd ?_ ?_<;>intro hcd<;>try exact Xx))
  refine WP.loopN [13] cf.length (fun j st=>st.t 4=.ptr 4 0∧st.h 4=some (.box [.pv (.sl (t.maps.map aV)),.pv (.sl (cf.map ba))] true false)∧st.t 2=.pv (Z arm)∧st.h 5=some (.box [.pv (.sl (plan.map zs))] true false)∧st.t 9=.ptr 9 0∧st.h 9=some (.box [.ext (.barr 15 T)] true false)∧st.t 10=.fn (.func 53) [] [.ptr 5 0]∧st.t 18=.pv (Z T)∧st.t 19=.pv (Z i)∧st.t 11=.pv (Z i)∧st.t 27=.pv (.sl (cf.map ba))∧st.t 28=.pv (Z cf.length)∧st.t 29=.pv (Z j)∧st.h 15=some (.box (mC (i+1) T) true false)∧mF (fun w=>e8 cf plan arm w cf.length) i st.h∧st.h (i+300)=some (.mp .i64 2 (e8 cf plan arm i j) false)∧(∀ w,i+1≤w→st.h (w+300)=none)∧st.h 24=none∧st.h 13=none) (by
   simp [e7,g4,b4,g2,b5,g9,b9,g10,g18,g19,b15,b24,b13,e8]
   refine ⟨o4 _ (by simp) _ _,ma (by simp) (st:=⟨_,_⟩) ?_,fun w hw=>by rw [if_neg (by omega),hno w (by omega)];rfl⟩
   intro v hv
   simp [e7,hmf v hv,show ¬ v=i by omega]) ?_
  clear g4 b4 g2 b5 g9 b9 g10 g18 g19 b15 b24 b13 hmf hno
  rintro j st hj ⟨g4,b4,g2,b5,g9,b9,g10,g18,g19,g11,g27,g28,g29,b15,hmf,hmi,hno,b24,b13⟩
  obtain ⟨cs',hcs'⟩ : ∃ cs,cs=mC (i+1) T:=⟨_,rfl⟩
  have hcl' : cs'.length=T:=by rw [hcs',ly]
  have ck : cs'[i]?=some (.ext (.mp (i+300))):=by rw [hcs'];exact tZ (by omega) hlt
  have ck' : ∀ h,cs'[i]'h=.ext (.mp (i+300)):=fun h=>(List.getElem?_eq_some_iff.1 ck).2
  have hck : ∀ ks : List Nat,(∀ k ∈ ks,k < 300)→cs'.map (bc ks)=cs':=fun ks hk=>by rw [hcs'];exact o4 ks hk _ _
  have hck0:=hck [] (by simp)
  have hck1:=hck [13] (by simp)
  by_cases hjl : j < cf.length
  ·have hwj:=ak hjl (by omega)
   have hxi : cf[j]?=some cf[j]:=List.getElem?_eq_getElem hjl
   have hin:=hcf _ (List.getElem_mem hjl)
   have hE : e8 cf plan arm i (j+1)=cE plan arm i (e8 cf plan arm i j) cf[j]:=by rw [e8,hxi]
   have cA:=ur plan cf[j].2 i T hin.2.1 hin.2.2 hpl hlt hT
   have cB:=ur plan cf[j].1 i T hin.1.1 hin.1.2 hpl hlt hT
   generalize hx : cf[j]=c at *
   obtain ⟨⟨c1,c2,c3⟩,⟨d1,d2,d3⟩⟩:=c
   simp only at cA cB
   simp only [cE] at hE
   generalize bS plan ⟨d1,d2,d3⟩ i=mA at *
   generalize bS plan ⟨c1,c2,c3⟩ i=mB at *
   generalize e8 cf plan arm i (j+1)=es' at *
   generalize e8 cf plan arm i j=es at *
   rw [← hcs'] at b15 ⊢
   cases e1 : (c1==arm)<;>cases mA<;>cases e3 : (d1==arm)<;>cases mB
   all_goals
    simp only [e1,e3,rZ,Bool.true_and,Bool.false_and,Bool.false_eq_true,if_true,if_false] at hE
    skip
    with_reducible repeat' (first|refine Sp.h ?_|((first|refine Wd ?_|refine Ss.h ?_|refine Sc.h (cA) ?_|refine Sc.h (cB) ?_|(refine Sb.h ?_ ?_ ?_<;>(try intro hgd)<;>try exact Xy))<;>simp -implicitDefEqProofs (maxSteps:=2000000) [hP,hN,g4,b4,g2,b5,g9,b9,g10,g18,g19,g11,g27,g28,g29,b15,hmi,b24,b13,hjl,hwj,hx,hxi,e1,e3,hcl',ck,ck',hlt,hck0,hck1]<;>try refine Yc ?_)|refine X2 ?_ ?_|(refine Xd ?_ ?_<;>intro hcd<;>try exact Xx))
   all_goals
    refine ⟨ma (by simp) (st:=⟨_,_⟩) ?_,hE.symm,by first|exact hno|(intro w hw;rw [if_neg (by omega)];exact hno w hw)|(intro w hw;rw [if_neg (by omega),if_neg (by omega)];exact hno w hw)⟩
    intro v hv
    have hvi : ¬ v=i:=by omega
    simp [hmf v hv,hvi]
  ·have hjc : j=cf.length:=by omega
   rw [hjc] at hmi
   rw [← hcs'] at b15 ⊢
   with_reducible repeat' (first|refine Sp.h ?_|((first|refine Wd ?_|refine Ss.h ?_|(refine Sb.h ?_ ?_ ?_<;>(try intro hgd)<;>try exact Xy))<;>simp -implicitDefEqProofs (maxSteps:=2000000) [hP,hN,g4,b4,g2,b5,g9,b9,g10,g18,g19,g11,g27,g28,g29,b15,b24,b13,hjl,hwr,hck0]<;>try refine Ya ?_)|refine X2 ?_ ?_|(refine Xd ?_ ?_<;>intro hcd<;>try exact Xx))
   refine ⟨ma (by simp) (st:=⟨_,_⟩) ?_,fun w hw=>by rw [hno w hw]⟩
   intro v hv
   by_cases e : v=i
   ·subst e;exact hmi
   ·exact hmf v (by omega)
 ·have hiT : i=T:=by omega
  subst hiT
  have hcs : mC i i=(List.range i).map fun v=>.ext (.mp (v+300)):=by
   unfold mC;refine List.map_congr_left fun v hv=>?_
   rw [if_pos (List.mem_range.1 hv)]
  have hW:=nY (g:=fun w=>e8 t.conf plan arm w t.conf.length) (h:=st.h) (List.range i) (fun v hv=>hmf v (List.mem_range.1 hv))
  have hps : gA t.conf plan arm i=(List.range i).map fun v=>r7 (e8 t.conf plan arm v t.conf.length):=rfl
  rw [← hps,← hcs] at hW
  have hcl2 : (mC i i).length=i:=ly i i
  have hone : (gA t.conf plan arm i).all dA=true:=by rw [hps,List.all_eq_true];intro x hx;obtain ⟨v,_,rfl⟩:=List.mem_map.1 hx;rfl
  generalize gA t.conf plan arm i=ps at *
  generalize mC i i=cs at *
  with_reducible repeat' (first|refine Sp.h ?_|((first|refine Wd ?_|refine Ss.h ?_|(refine Sb.h ?_ ?_ ?_<;>(try intro hgd)<;>try exact Xy))<;>simp -implicitDefEqProofs (maxSteps:=2000000) [hP,hN,g4,b4,g2,b5,g9,b9,g10,g18,g19,b15,b24,b13,hW,hcl2]<;>try refine Ya ?_)|refine X2 ?_ ?_|(refine Xd ?_ ?_<;>intro hcd<;>try exact Xx))
  all_goals rw [if_pos (by intro x hx;exact List.all_eq_true.1 hone x hx)]
  all_goals (simp;exact hps)
end Go.Ab
namespace Go.Ab
open Go.Proofs
def bl (n : Nat) (f : Nat→Bool) : List PV:=(List.range n).map fun x=>B (f x)
@[simp] theorem fa (n : Nat) (f : Nat→Bool) : (bl n f).length=n:=by simp [bl]
theorem lz {n x : Nat} (f : Nat→Bool) (h : x < n) : (bl n f)[x]?=some (B (f x)):=by simp [bl,h]
theorem dR {n : Nat} {f g : Nat→Bool} (h : ∀ x,x < n→f x=g x) : bl n f=bl n g:=List.map_congr_left fun x hx=>by rw [h x (List.mem_range.1 hx)]
theorem jV (n : Nat) : List.replicate n (B false)=bl n fun _=>false:=by simp [bl,List.map_const']
theorem lA {n u : Nat} {f g : Nat→Bool} {b : Bool} (hu : u < n) (h1 : g u=b) (h2 : ∀ x,x < n→x≠u→g x=f x) : (bl n f).set u (B b)=bl n g:=by
 apply List.ext_getElem?
 intro w
 rw [List.getElem?_set]
 simp only [fa]
 by_cases hw : w < n
 ·by_cases e : u=w
  ·subst e;simp [bl,hw,h1]
  ·simp [bl,hw,e,h2 w hw (fun e'=>e e'.symm)]
 ·by_cases e : u=w
  ·subst e;simp [bl,hw]
  ·simp [bl,hw,e]
theorem ut (p : Int→Bool) (xs : List Int) (g : FuncId) (x1 x2 x3 x4 : PV) (hl : xs.length≤9223372036854775807) (hg : ∀ c ∈ xs,am Try.prog g [.pv (Z c),.pv (.rptr x1 0),.pv (.rptr x2 0),.pv (.rptr x3 0),.pv (.rptr x4 0)] [] [] (.pv (B (p c)))) : am Try.prog 57 [.pv (zs xs),.pv (.fn (.func g) [] [.rptr x1 0,.rptr x2 0,.rptr x3 0,.rptr x4 0])] [] [] (.pv (Z (dp p xs))):=by
 refine Dp Try.func57 ?_
 intro C hP hN
 simp only [Try.f57] at hN ⊢
 with_reducible repeat' (first|refine Sp.h ?_|((first|refine Ss.h ?_|(refine Sb.h ?_ ?_ ?_<;>(try intro hgd)<;>try exact Xy))<;>simp -implicitDefEqProofs (maxSteps:=2000000) [hP,hN])|refine X2 ?_ ?_|(refine Xd ?_ ?_<;>intro hcd<;>try exact Xx))
 refine WP.loopN [] xs.length (fun i st=>st.t 0=.pv (zs xs)∧st.t 1=.pv (.fn (.func g) [] [.rptr x1 0,.rptr x2 0,.rptr x3 0,.rptr x4 0])∧st.t 7=.pv (Z xs.length)∧st.t 8=.pv (Z i)∧eg p xs i) (by simp [dQ]) ?_
 rintro i st hi ⟨g0,g1,g7,g8,hq⟩
 by_cases hlt : i < xs.length
 ·have hw:=ak hlt hl
  have hn:=eD hlt hq
  have hh:=jY hlt hq
  have hg':=hg _ (List.getElem_mem hlt)
  generalize hx : xs[i]=c at *
  have hxi : xs[i]?=some c:=by rw [List.getElem?_eq_getElem hlt,hx]
  generalize dp p xs=r at *
  cases hp : p c with
  |true=>
   rw [hp] at hg'
   rw [hh hp]
   with_reducible repeat' (first|refine Sp.h ?_|((first|refine Ss.h ?_|refine Sc.h (hg') ?_|(refine Sb.h ?_ ?_ ?_<;>(try intro hgd)<;>try exact Xy))<;>simp -implicitDefEqProofs (maxSteps:=2000000) [hP,hN,g0,g1,g7,g8,hlt,hw,hx,hxi])|refine X2 ?_ ?_|(refine Xd ?_ ?_<;>intro hcd<;>try exact Xx))
  |false=>
   rw [hp] at hg'
   with_reducible repeat' (first|refine Sp.h ?_|((first|refine Ss.h ?_|refine Sc.h (hg') ?_|(refine Sb.h ?_ ?_ ?_<;>(try intro hgd)<;>try exact Xy))<;>simp -implicitDefEqProofs (maxSteps:=2000000) [hP,hN,g0,g1,g7,g8,hlt,hw,hx,hxi])|refine X2 ?_ ?_|(refine Xd ?_ ?_<;>intro hcd<;>try exact Xx))
   all_goals exact hn hp
 ·rw [jZ hlt hq]
  with_reducible repeat' (first|refine Sp.h ?_|((first|refine Ss.h ?_|(refine Sb.h ?_ ?_ ?_<;>(try intro hgd)<;>try exact Xy))<;>simp -implicitDefEqProofs (maxSteps:=2000000) [hP,hN,g0,g1,g7,g8,hlt])|refine X2 ?_ ?_|(refine Xd ?_ ?_<;>intro hcd<;>try exact Xx))
theorem vl (p : Int→Bool) (xs : List Int) (g : FuncId) (x1 x2 x3 x4 : PV) (hl : xs.length≤9223372036854775807) (hg : ∀ c ∈ xs,am Try.prog g [.pv (Z c),.pv (.rptr x1 0),.pv (.rptr x2 0),.pv (.rptr x3 0),.pv (.rptr x4 0)] [] [] (.pv (B (p c)))) : am Try.prog 68 [.pv (zs xs),.pv (.fn (.func g) [] [.rptr x1 0,.rptr x2 0,.rptr x3 0,.rptr x4 0])] [] [] (.pv (B (xs.any p))):=by
 have ci:=ut p xs g x1 x2 x3 x4 hl hg
 rw [← mf]
 refine Dp Try.func68 ?_
 intro C hP hN
 simp only [Try.f68] at hN ⊢
 with_reducible repeat' (first|refine Sp.h ?_|((first|refine Ss.h ?_|refine Sc.h (ci) ?_|(refine Sb.h ?_ ?_ ?_<;>(try intro hgd)<;>try exact Xy))<;>simp -implicitDefEqProofs (maxSteps:=2000000) [hP,hN])|refine X2 ?_ ?_|(refine Xd ?_ ?_<;>intro hcd<;>try exact Xx))
abbrev nZ (nexts : PV) (start goal T : Int) (g : FuncId) (x : PV) : PV:=.agg [nexts,Z start,Z goal,Z T,.fn (.func g) [] [.rptr x 0]]
theorem vm (rows row : List PV) (i v : Nat) (u : Int) (nexts : PV) (start goal T : Int) (g : FuncId) (x : PV) (b1 b2 : Bool) (hi : i≤1000000) (h1 : rows[i+1]?=some (.sl row)) (hu : 0≤u) (h2 : row[u.toNat]?=some (B b1)) (hg : b1=true→am Try.prog g [.pv (Z i),.pv (Z v),.pv (Z u),.pv (.rptr x 0)] [] [] (.pv (B b2))) : am Try.prog 69 [.pv (Z u),.pv (.rptr (.sl rows) 0),.pv (.rptr (Z i) 0),.pv (.rptr (nZ nexts start goal T g x) 0),.pv (.rptr (Z v) 0)] [] [] (.pv (B (b1 && b2))):=by
 obtain ⟨k,rfl⟩ : ∃ k : Nat,u=k:=⟨u.toNat,by omega⟩
 rw [Int.toNat_natCast] at h2
 obtain ⟨j,hj⟩ : ∃ j,i+1=j:=⟨_,rfl⟩
 have hw : IntKind.i64.wrap ((i : Int)+1)=(j : Int):=by rw [IntKind.wrap_i64];omega
 rw [hj] at h1
 have l1:=(List.getElem?_eq_some_iff.1 h1).1
 have e1:=(List.getElem?_eq_some_iff.1 h1).2
 have l2:=(List.getElem?_eq_some_iff.1 h2).1
 have e2:=(List.getElem?_eq_some_iff.1 h2).2
 refine Dp Try.func69 ?_
 intro C hP hN
 simp only [Try.f69] at hN ⊢
 cases b1 with
 |true=>
  have hg':=hg rfl
  with_reducible repeat' (first|refine Sp.h ?_|((first|refine Ss.h ?_|refine Sc.h (hg') ?_|(refine Sb.h ?_ ?_ ?_<;>(try intro hgd)<;>try exact Xy))<;>simp -implicitDefEqProofs (maxSteps:=2000000) [hP,hN,hw,h1,l1,e1,h2,l2,e2])|refine X2 ?_ ?_|(refine Xd ?_ ?_<;>intro hcd<;>try exact Xx))
 |false=>
  with_reducible repeat' (first|refine Sp.h ?_|((first|refine Ss.h ?_|(refine Sb.h ?_ ?_ ?_<;>(try intro hgd)<;>try exact Xy))<;>simp -implicitDefEqProofs (maxSteps:=2000000) [hP,hN,hw,h1,l1,e1,h2,l2,e2])|refine X2 ?_ ?_|(refine Xd ?_ ?_<;>intro hcd<;>try exact Xx))
theorem vn (rows row : List PV) (i v : Nat) (u : Int) (nexts : PV) (start goal T : Int) (g : FuncId) (x : PV) (b1 b2 : Bool) (hi : i≤1000000) (h1 : rows[i+1]?=some (.sl row)) (hu : 0≤u) (h2 : row[u.toNat]?=some (B b1)) (hg : b1=true→am Try.prog g [.pv (Z i),.pv (Z v),.pv (Z u),.pv (.rptr x 0)] [] [] (.pv (B b2))) : am Try.prog 58 [.pv (Z u),.pv (.rptr (.sl rows) 0),.pv (.rptr (Z i) 0),.pv (.rptr (nZ nexts start goal T g x) 0),.pv (.rptr (Z v) 0)] [] [] (.pv (B (b1 && b2))):=by
 obtain ⟨k,rfl⟩ : ∃ k : Nat,u=k:=⟨u.toNat,by omega⟩
 rw [Int.toNat_natCast] at h2
 obtain ⟨j,hj⟩ : ∃ j,i+1=j:=⟨_,rfl⟩
 have hw : IntKind.i64.wrap ((i : Int)+1)=(j : Int):=by rw [IntKind.wrap_i64];omega
 rw [hj] at h1
 have l1:=(List.getElem?_eq_some_iff.1 h1).1
 have e1:=(List.getElem?_eq_some_iff.1 h1).2
 have l2:=(List.getElem?_eq_some_iff.1 h2).1
 have e2:=(List.getElem?_eq_some_iff.1 h2).2
 refine Dp Try.func58 ?_
 intro C hP hN
 simp only [Try.f58] at hN ⊢
 cases b1 with
 |true=>
  have hg':=hg rfl
  with_reducible repeat' (first|refine Sp.h ?_|((first|refine Ss.h ?_|refine Sc.h (hg') ?_|(refine Sb.h ?_ ?_ ?_<;>(try intro hgd)<;>try exact Xy))<;>simp -implicitDefEqProofs (maxSteps:=2000000) [hP,hN,hw,h1,l1,e1,h2,l2,e2])|refine X2 ?_ ?_|(refine Xd ?_ ?_<;>intro hcd<;>try exact Xx))
 |false=>
  with_reducible repeat' (first|refine Sp.h ?_|((first|refine Ss.h ?_|(refine Sb.h ?_ ?_ ?_<;>(try intro hgd)<;>try exact Xy))<;>simp -implicitDefEqProofs (maxSteps:=2000000) [hP,hN,hw,h1,l1,e1,h2,l2,e2])|refine X2 ?_ ?_|(refine Xd ?_ ?_<;>intro hcd<;>try exact Xx))
end Go.Ab
namespace Go.Ab
theorem WP.freeze {C : Cx} {c : Code} {Q : Exit→St→Prop} {st : St} (s : Nat) {k e sz fz : Nat} {xs : List PV} (hk : st.h k=some (.row e sz xs fz)) (ht : st.t s=.arr k xs.length) (h : WP C c Q ⟨aj st.t s (.pv (.sl xs)),aj st.h k (some (.row e sz xs xs.length))⟩) : WP C c Q st:=by
 intro a w hs
 obtain ⟨L,hm,hN,hdf,htm⟩:=hs
 obtain ⟨hA,hR⟩:=iz hm hk
 refine h a w ⟨L,hA.1,hN,hdf,fun n=>?_⟩
 have hold:=(htm n).mono hA.2.1 hA.2.2
 show RepA w _ L _ (aj st.t s (.pv (.sl xs)) n) _
 by_cases hn : n=s
 ·subst hn
  rw [ah]
  have hv:=htm n
  rw [ht] at hv
  cases hv with
  |arr hk2 hn2 hu=>
   rw [hk] at hk2;injection hk2 with hk2;injection hk2 with _ _ a3 _
   subst a3
   rw [hu rfl]
   exact .pv hR
 ·rw [ar hn];exact hold
end Go.Ab
namespace Go.Ab
theorem WP.freezeB {C : Cx} {c : Code} {Q : Exit→St→Prop} {st : St} (kb j : Nat) {k e sz fz : Nat} {xs : List PV} {cs : List AV} {own fb : Bool} (hb : st.h kb=some (.box cs own fb)) (hj : cs[j]?=some (.arr k xs.length)) (hk : st.h k=some (.row e sz xs fz))
 (h : WP C c Q ⟨st.t,aj (aj st.h k (some (.row e sz xs xs.length))) kb (some (.box (cs.set j (.pv (.sl xs))) own fb))⟩) : WP C c Q st:=by
 intro a w hs
 obtain ⟨L,hm,hN,hdf,htm⟩:=hs
 obtain ⟨hA,hR⟩:=iz hm hk
 have hne : kb≠k:=by intro e;subst e;rw [hb] at hk;cases hk
 have hb1 : (aj st.h k (some (.row e sz xs xs.length))) kb=some (.box cs own fb):=by rw [ar hne];exact hb
 have hv : ∀ u,RepA w (ae C L st.h) L st.h (.arr k xs.length) u→u=(L k).slice xs.length:=fun u hu=>by
  cases hu with
  |arr hk2 hn2 hu=>
   rw [hk] at hk2;injection hk2 with hk2;injection hk2 with _ _ a3 _
   subst a3
   exact hu rfl
 have hbk:=hm.bl kb _ hb
 obtain ⟨arr,ty,hc,hl,hr⟩:=hbk
 have hown:=hm.own kb _ hb
 have hpk:=MemL.touch_pk (w':=w) hA.1 (blk':=.box (cs.set j (.pv (.sl xs))) own fb) hb1 (fun _ _ _=>rfl) (fun _ _ _ _ h=>h) (fun o h=>h) rfl Iff.rfl
 have h3:=MemL.touch (w':=w) hA.1 (blk':=.box (cs.set j (.pv (.sl xs))) own fb) hb1 (fun _ _ _=>rfl) (Nat.le_refl _) rfl rfl rfl (fun _ _ _ _ h=>h) (fun o h=>h) rfl Iff.rfl (by cases own<;>exact hown) ⟨arr,ty,hc,by simpa using hl,fun i p u hp hu=>?_⟩
 ·refine h a w ⟨L,h3.1,hN,hdf,fun n=>?_⟩
  exact ((htm n).mono hA.2.1 hA.2.2).mono h3.2.1 h3.2.2
 ·rw [List.getElem?_set] at hp
  by_cases ei : j=i
  ·subst ei
   rw [if_pos rfl] at hp
   split at hp
   ·injection hp with hp;subst hp
    have:=hv u (hr j _ u hj hu)
    subst this
    exact (RepA.pv hR).mono hpk.1 hpk.2
   ·cases hp
  ·rw [if_neg ei] at hp
   exact ((hr i p u hp hu).mono hA.2.1 hA.2.2).mono hpk.1 hpk.2
end Go.Ab
namespace Go.Ab
open Go.Proofs
def fV (r : Nat→Bool) (lg p : Nat→Nat→Bool) (v x : Nat) : Bool:=(List.range v).any fun u=>r u && lg u x && p u x
def fT (r : Nat→Bool) (lg p : Nat→Nat→Bool) (tv : List Nat) (v j x : Nat) : Bool:=fV r lg p v x || (tv.take j).any fun u=>u==x && p v x
theorem o5 (r : Nat→Bool) (lg p : Nat→Nat→Bool) (v x : Nat) : fV r lg p (v+1) x=(fV r lg p v x || (r v && lg v x && p v x)):=by
 simp [fV,List.range_succ,List.any_append]
theorem sA (r : Nat→Bool) (lg p : Nat→Nat→Bool) (tv : List Nat) (v x : Nat) : fT r lg p tv v 0 x=fV r lg p v x:=by simp [fT]
theorem sB (r : Nat→Bool) (lg p : Nat→Nat→Bool) {tv : List Nat} {v j : Nat} (x : Nat) (hj : j < tv.length) : fT r lg p tv v (j+1) x=(fT r lg p tv v j x || (tv[j]==x && p v x)):=by
 simp only [fT,List.take_succ_eq_append_getElem hj,List.any_append,List.any_cons,List.any_nil,Bool.or_false,Bool.or_assoc]
theorem tr {r : Nat→Bool} {lg p : Nat→Nat→Bool} {n v x : Nat} (hr : r v=true) (hx : x < n) : fT r lg p (bB lg n v) v (bB lg n v).length x=fV r lg p (v+1) x:=by
 rw [o5,hr,fT,List.take_length,Bool.true_and]
 congr 1
 rw [Bool.eq_iff_iff]
 simp only [List.any_eq_true,bB,List.mem_filter,List.mem_range,Bool.and_eq_true,beq_iff_eq]
 constructor
 ·rintro ⟨u,⟨h1,h2⟩,rfl,h3⟩;exact ⟨h2,h3⟩
 ·rintro ⟨h1,h2⟩;exact ⟨x,⟨hx,h1⟩,rfl,h2⟩
theorem tt {lg : Nat→Nat→Bool} {n v j : Nat} (h : j < (bB lg n v).length) : (bB lg n v)[j] < n:=by
 have:=List.getElem_mem h
 simp only [bB,List.mem_filter,List.mem_range] at this
 exact this.1
theorem mb (lg : Nat→Nat→Bool) (n v : Nat) : (bB lg n v).length≤n:=by
 have:=List.length_filter_le (lg v) (List.range n)
 simpa [bB] using this
abbrev lB (n : Nat) (f : Nat→Nat→Bool) (N : Nat) : PV:=.sl ((List.range N).map fun i=>.sl (bl n (f i)))
def dZ (n : Nat) (f : Nat→Nat→Bool) (i N : Nat) : List AV:=(List.range N).map fun w=>if w < i then .pv (.sl (bl n (f w))) else bf
@[simp] theorem mc (n : Nat) (f : Nat→Nat→Bool) (i N : Nat) : (dZ n f i N).length=N:=by simp [dZ]
theorem rl (n : Nat) (f : Nat→Nat→Bool) (N : Nat) : List.replicate N bf=dZ n f 0 N:=by simp [dZ,List.map_const']
theorem tu {n : Nat} {f : Nat→Nat→Bool} {i N w : Nat} (h : w < i) (hN : w < N) : (dZ n f i N)[w]?=some (.pv (.sl (bl n (f w)))):=by simp [dZ,hN,h]
theorem n0 {n : Nat} {f : Nat→Nat→Bool} {i N : Nat} (x : AV) : ((dZ n f i N).set i x).set i (.pv (.sl (bl n (f i))))=dZ n f (i+1) N:=by
 rw [List.set_set]
 apply List.ext_getElem?
 intro w
 rw [List.getElem?_set]
 simp only [mc]
 by_cases hw : w < N
 ·by_cases e : i=w
  ·subst e;simp [dZ,hw]
  ·simp [dZ,hw,e,show (w < i+1↔w < i) by omega]
 ·by_cases e : i=w
  ·subst e;simp [dZ,hw]
  ·simp [dZ,hw,e]
theorem kw (ks : List Nat) (n : Nat) (f : Nat→Nat→Bool) (i N : Nat) : (dZ n f i N).map (bc ks)=dZ n f i N:=by
 unfold dZ;rw [List.map_map]
 refine List.map_congr_left fun w _=>?_
 simp only [Function.comp];split<;>simp [eX,bp]
theorem sC (n : Nat) (f : Nat→Nat→Bool) (N : Nat) : dZ n f N N=((List.range N).map fun i=>AV.pv (.sl (bl n (f i)))):=by
 unfold dZ;refine List.map_congr_left fun w hw=>?_
 rw [if_pos (List.mem_range.1 hw)]
theorem kx (h : Hp) (f : Nat→List PV) : ∀ l : List Nat,bh h (l.map fun v=>AV.pv (.sl (f v)))=some (l.map fun v=>.sl (f v),[])
 |[]=>rfl
 |v :: l=>by
  have:=kx h f l
  simp only [List.map_cons,bh,c8,nm,this,List.append_nil]
theorem vo (n : Nat) (lg : Nat→Nat→Bool) (ps : Nat→Nat→Nat→Bool) (ns : List PV) (start : Nat) (goal : Int) (T : Nat) (g : FuncId) (x : PV) (hn : ns.length=n) (hns : ∀ v,v < n→ns[v]?=some (zs ((bB lg n v).map fun u=>((u : Nat) : Int)))) (hn1 : n≤1024) (hT : T≤64) (hs : start < n) (hg : ∀ i v u,i < T→v < n→u < n→am Try.prog g [.pv (Z i),.pv (Z v),.pv (Z u),.pv (.rptr x 0)] [] [] (.pv (B (ps i v u)))) : am Try.prog 55 [.pv (nZ (.sl ns) start goal T g x)] [] [] (.pv (lB n (i0 n lg ps start) (T+1))):=by
 obtain ⟨M,hM⟩ : ∃ M,M=T+1:=⟨_,rfl⟩
 obtain ⟨f,hf⟩ : ∃ f,f=i0 n lg ps start:=⟨_,rfl⟩
 rw [← hM,← hf]
 have hf0 : ∀ v,f 0 v=(v==start):=fun v=>by rw [hf];rfl
 have hf1 : ∀ i v,f (i+1) v=fV (f i) lg (ps i) n v:=fun i v=>by rw [hf];rfl
 have w0 : IntKind.i64.wrap ((T : Int)+1)=(M : Int):=by rw [IntKind.wrap_i64];omega
 have hM0 : 0 < M:=by omega
 refine Dp Try.func55 ?_
 intro C hP hN
 simp only [Try.f55] at hN ⊢
 with_reducible repeat' (first|refine Sp.h ?_|((first|refine Wh [1000012,17] ?_|refine Wi [1000012,17] ?_|refine Ss.h ?_|(refine Sb.h ?_ ?_ ?_<;>(try intro hgd)<;>try exact Xy))<;>simp -implicitDefEqProofs (maxSteps:=2000000) [hP,hN,hn,w0,hM0,hs,show 1≤M by omega,show (M : Int) * 24≤281474976710656 by omega,show 24 * (M : Int)≤281474976710656 by omega,show (M : Int)≤9223372036854775807 by omega,show (n : Int)≤281474976710656 by omega,show (n : Int)≤9223372036854775807 by omega]<;>try refine Ya ?_)|refine X2 ?_ ?_|(refine Xd ?_ ?_<;>intro hcd<;>try exact Xx))
 have hr0 : (List.replicate n (B false)).set start (B true)=bl n (f 0):=by
  rw [jV];exact lA hs (by simp [hf0]) (fun v _ hv=>by rw [hf0];simpa using hv)
 have hc1 : (AV.arr 17 n :: List.replicate (M - 1) bf).set 0 (.pv (.sl (bl n (f 0))))=dZ n f 1 M:=by
  rw [← n0 (i:=0) (.arr 17 n),← rl,← Nat.sub_add_cancel (show 1≤M by omega),List.replicate_succ];rfl
 refine WP.freezeB 12 0 (k:=17) (xs:=bl n (f 0)) (cs:=.arr 17 n :: List.replicate (M - 1) bf) (e:=4) (sz:=1) (fz:=0) (own:=true) (fb:=false) (by simp) (by simp) (by simp [hr0]) ?_
 rw [hc1]
 refine WP.loopN [36] T (fun i st=>st.t 1=.ptr 1 0∧st.h 1=some (.box [.pv (.sl ns),.pv (Z start),.pv (Z goal),.pv (Z T),.pv (.fn (.func g) [] [.rptr x 0])] true false)∧st.t 3=.ext (.barr 12 M)∧st.t 26=.pv (Z T)∧st.t 27=.pv (Z i)∧st.h 12=some (.box (dZ n f (i+1) M) true false)∧st.h 36=none) (by simp [kw]) ?_
 rintro i st hi ⟨g1,b1,g3,g26,g27,b12,b36⟩
 by_cases hlt : i < T
 ·have hwr:=ak hlt (by omega)
  obtain ⟨j,hj⟩ : ∃ j,i+1=j:=⟨_,rfl⟩
  obtain ⟨cs,hcs⟩ : ∃ cs,cs=dZ n f j M:=⟨_,rfl⟩
  have ck : cs[i]?=some (.pv (.sl (bl n (f i)))):=by rw [hcs];exact tu (by omega) (by omega)
  have ck' : ∀ h,cs[i]'h=.pv (.sl (bl n (f i))):=fun h=>(List.getElem?_eq_some_iff.1 ck).2
  rw [hj,← hcs] at b12
  have hcl : cs.length=M:=by rw [hcs,mc]
  have hjM : j < M:=by omega
  have hjM1 : j+1≤M:=by omega
  have hjz : (j : Int) < (M : Int):=by omega
  have hiM : i < M:=by omega
  have hiz : (i : Int) < (M : Int):=by omega
  have hji : ¬ j=i:=by omega
  have hw1 : IntKind.i64.wrap ((i : Int)+1)=(j : Int):=by rw [IntKind.wrap_i64];omega
  have hsp : cs.take j++AV.arr 36 n :: cs.drop (j+1)=cs.set j (.arr 36 n):=b8 (by omega)
  with_reducible repeat' (first|refine Sp.h ?_|((first|refine Wh [36] ?_|refine Wi [36] ?_|refine Ss.h ?_|(refine Sb.h ?_ ?_ ?_<;>(try intro hgd)<;>try exact Xy))<;>simp -implicitDefEqProofs (maxSteps:=2000000) [hP,hN,hn,g1,b1,g3,g26,g27,b12,b36,hlt,hw1,hcl,hjM,hjM1,hjz,hiM,hiz,hji,ck,ck',hsp,show (n : Int)≤281474976710656 by omega,show (n : Int)≤9223372036854775807 by omega]<;>try refine Ya ?_)|refine X2 ?_ ?_|(refine Xd ?_ ?_<;>intro hcd<;>try exact Xx))
  obtain ⟨ds,hds⟩ : ∃ ds,ds=cs.set j (.arr 36 n):=⟨_,rfl⟩
  have hdl : ds.length=M:=by rw [hds,List.length_set,hcl]
  have dj : ds[j]?=some (.arr 36 n):=by rw [hds];simp [hcl,hjM]
  have dj' : ∀ h,ds[j]'h=.arr 36 n:=fun h=>(List.getElem?_eq_some_iff.1 dj).2
  have hdk : ds.map (bc [])=ds:=by rw [hds,List.map_set,hcs,kw];rfl
  rw [← hds]
  refine WP.loopN [] n (fun v st=>st.t 1=.ptr 1 0∧st.h 1=some (.box [.pv (.sl ns),.pv (Z start),.pv (Z goal),.pv (Z T),.pv (.fn (.func g) [] [.rptr x 0])] true false)∧st.t 3=.ext (.barr 12 M)∧st.t 26=.pv (Z T)∧st.t 27=.pv (Z i)∧st.t 4=.pv (Z i)∧st.t 41=.pv (.sl (bl n (f i)))∧st.t 42=.pv (Z n)∧st.t 43=.pv (Z v)∧st.h 12=some (.box ds true false)∧st.h 36=some (.row 4 1 (bl n (fV (f i) lg (ps i) v)) 0)) (by simp [hdk,g1,b1,g3,g26,g27,jV];exact dR fun _ _=>rfl) ?_
  clear g1 b1 g3 g26 g27 b12 b36
  rintro v st hv ⟨g1,b1,g3,g26,g27,g4,g41,g42,g43,b12,b36⟩
  by_cases hvl : v < n
  ·have hwv:=ak hvl (by omega)
   have hrow:=lz (f i) hvl
   have hx:=hns v hvl
   have hxl:=(List.getElem?_eq_some_iff.1 hx).1
   have hxe:=(List.getElem?_eq_some_iff.1 hx).2
   have hvb : v < (bl n (f i)).length:=by rw [fa];exact hvl
   have hrow' : ∀ h,(bl n (f i))[v]'h=B (f i v):=fun h=>(List.getElem?_eq_some_iff.1 hrow).2
   cases hb : f i v with
   |false=>
    rw [hb] at hrow hrow'
    obtain ⟨r0,hr0⟩ : ∃ r0,r0=bl n (f i):=⟨_,rfl⟩
    rw [← hr0] at g41 hrow hrow' hvb ⊢
    rw [dR (g:=fV (f i) lg (ps i) (v+1)) (fun x _=>by rw [o5,hb];simp)] at b36
    with_reducible repeat' (first|refine Sp.h ?_|((first|refine Wd ?_|refine Ss.h ?_|(refine Sb.h ?_ ?_ ?_<;>(try intro hgd)<;>try exact Xy))<;>simp -implicitDefEqProofs (maxSteps:=2000000) [hP,hN,g1,b1,g3,g26,g27,g4,g41,g42,g43,b12,b36,hvl,hwv,hrow,hrow',hvb,hdk]<;>try refine Ya ?_)|refine X2 ?_ ?_|(refine Xd ?_ ?_<;>intro hcd<;>try exact Xx))
   |true=>
    rw [hb] at hrow hrow'
    obtain ⟨r0,hr0⟩ : ∃ r0,r0=bl n (f i):=⟨_,rfl⟩
    rw [← hr0] at g41 hrow hrow' hvb ⊢
    rw [dR (g:=fT (f i) lg (ps i) (bB lg n v) v 0) (fun x _=>by rw [sA])] at b36
    rw [dR (f:=fV (f i) lg (ps i) (v+1)) (g:=fT (f i) lg (ps i) (bB lg n v) v (bB lg n v).length) (fun x hx=>by rw [tr hb hx])]
    have htl:=mb lg n v
    have htn : ∀ k (h : k < (bB lg n v).length),(bB lg n v)[k] < n:=fun k h=>tt h
    generalize bB lg n v=tv at *
    with_reducible repeat' (first|refine Sp.h ?_|((first|refine Wd ?_|refine Ss.h ?_|(refine Sb.h ?_ ?_ ?_<;>(try intro hgd)<;>try exact Xy))<;>simp -implicitDefEqProofs (maxSteps:=2000000) [hP,hN,hn,g1,b1,g3,g26,g27,g4,g41,g42,g43,b12,b36,hvl,hwv,hrow,hrow',hvb,hdk,hx,hxe]<;>try refine Ya ?_)|refine X2 ?_ ?_|(refine Xd ?_ ?_<;>intro hcd<;>try exact Xx))
    refine WP.loopN [] tv.length (fun k st=>st.t 1=.ptr 1 0∧st.h 1=some (.box [.pv (.sl ns),.pv (Z start),.pv (Z goal),.pv (Z T),.pv (.fn (.func g) [] [.rptr x 0])] true false)∧st.t 3=.ext (.barr 12 M)∧st.t 26=.pv (Z T)∧st.t 27=.pv (Z i)∧st.t 4=.pv (Z i)∧st.t 41=.pv (.sl r0)∧st.t 42=.pv (Z n)∧st.t 43=.pv (Z v)∧st.t 5=.pv (Z v)∧st.t 54=.pv (zs (tv.map fun u=>((u : Nat) : Int)))∧st.t 55=.pv (Z tv.length)∧st.t 56=.pv (Z k)∧st.h 12=some (.box ds true false)∧st.h 36=some (.row 4 1 (bl n (fT (f i) lg (ps i) tv v k)) 0)) (by simp [hdk,g1,b1,g3,g26,g27,g4,g41,g42,g43,b12,b36]) ?_
    clear g1 b1 g3 g26 g27 g4 g41 g42 g43 b12 b36
    rintro k st hk ⟨g1,b1,g3,g26,g27,g4,g41,g42,g43,g5,g54,g55,g56,b12,b36⟩
    by_cases hkl : k < tv.length
    ·have hwk:=ak hkl (by omega)
     have hun:=htn k hkl
     have hstep:=fun x=>sB (f i) lg (ps i) (v:=v) x hkl
     have hti : tv[k]?=some tv[k]:=List.getElem?_eq_getElem hkl
     generalize hu : tv[k]=u at *
     have hg':=hg i v u hlt hvl hun
     have hcu:=lz (fT (f i) lg (ps i) tv v k) hun
     have hcu' : ∀ h,(bl n (fT (f i) lg (ps i) tv v k))[u]'h=B (fT (f i) lg (ps i) tv v k u):=fun h=>(List.getElem?_eq_some_iff.1 hcu).2
     cases hc : fT (f i) lg (ps i) tv v k u with
     |true=>
      rw [hc] at hcu hcu'
      have hsame : bl n (fT (f i) lg (ps i) tv v (k+1))=bl n (fT (f i) lg (ps i) tv v k):=dR fun x _=>by
       rw [hstep]
       by_cases e : u=x
       ·subst e;rw [hc];rfl
       ·simp [e]
      rw [hsame]
      generalize hr1 : bl n (fT (f i) lg (ps i) tv v k)=r1 at *
      have hr1l : r1.length=n:=by rw [← hr1,fa]
      with_reducible repeat' (first|refine Sp.h ?_|((first|refine Wd ?_|refine Ss.h ?_|refine Sc.h (hg') ?_|(refine Sb.h ?_ ?_ ?_<;>(try intro hgd)<;>try exact Xy))<;>simp -implicitDefEqProofs (maxSteps:=2000000) [hP,hN,g1,b1,g3,g26,g27,g4,g41,g42,g43,g5,g54,g55,g56,b12,b36,hkl,hwk,hw1,hti,hu,hun,hdl,dj,dj',hjM,hjz,hr1l,hcu,hcu',hdk]<;>try refine Ya ?_)|refine X2 ?_ ?_|(refine Xd ?_ ?_<;>intro hcd<;>try exact Xx))
     |false=>
      rw [hc] at hcu hcu'
      cases hp : ps i v u with
      |true=>
       rw [hp] at hg'
       have hset : (bl n (fT (f i) lg (ps i) tv v k)).set u (B true)=bl n (fT (f i) lg (ps i) tv v (k+1)):=lA hun (by rw [hstep,hp];simp) (fun x _ hx=>by rw [hstep];simp [show ¬ u=x from fun e=>hx e.symm])
       generalize hr2 : bl n (fT (f i) lg (ps i) tv v (k+1))=r2 at *
       generalize hr1 : bl n (fT (f i) lg (ps i) tv v k)=r1 at *
       have hr1l : r1.length=n:=by rw [← hr1,fa]
       with_reducible repeat' (first|refine Sp.h ?_|((first|refine Wd ?_|refine Ss.h ?_|refine Sc.h (hg') ?_|(refine Sb.h ?_ ?_ ?_<;>(try intro hgd)<;>try exact Xy))<;>simp -implicitDefEqProofs (maxSteps:=2000000) [hP,hN,g1,b1,g3,g26,g27,g4,g41,g42,g43,g5,g54,g55,g56,b12,b36,hkl,hwk,hw1,hti,hu,hun,hdl,dj,dj',hjM,hjz,hr1l,hcu,hcu',hdk,hset]<;>try refine Ya ?_)|refine X2 ?_ ?_|(refine Xd ?_ ?_<;>intro hcd<;>try exact Xx))
      |false=>
       rw [hp] at hg'
       have hsame : bl n (fT (f i) lg (ps i) tv v (k+1))=bl n (fT (f i) lg (ps i) tv v k):=dR fun x _=>by
        rw [hstep]
        by_cases e : u=x
        ·subst e;rw [hp];simp
        ·simp [e]
       rw [hsame]
       generalize hr1 : bl n (fT (f i) lg (ps i) tv v k)=r1 at *
       have hr1l : r1.length=n:=by rw [← hr1,fa]
       with_reducible repeat' (first|refine Sp.h ?_|((first|refine Wd ?_|refine Ss.h ?_|refine Sc.h (hg') ?_|(refine Sb.h ?_ ?_ ?_<;>(try intro hgd)<;>try exact Xy))<;>simp -implicitDefEqProofs (maxSteps:=2000000) [hP,hN,g1,b1,g3,g26,g27,g4,g41,g42,g43,g5,g54,g55,g56,b12,b36,hkl,hwk,hw1,hti,hu,hun,hdl,dj,dj',hjM,hjz,hr1l,hcu,hcu',hdk]<;>try refine Ya ?_)|refine X2 ?_ ?_|(refine Xd ?_ ?_<;>intro hcd<;>try exact Xx))
    ·have hkt : k=tv.length:=by omega
     subst hkt
     with_reducible repeat' (first|refine Sp.h ?_|((first|refine Wd ?_|refine Ss.h ?_|(refine Sb.h ?_ ?_ ?_<;>(try intro hgd)<;>try exact Xy))<;>simp -implicitDefEqProofs (maxSteps:=2000000) [hP,hN,g1,b1,g3,g26,g27,g4,g41,g42,g43,g5,g54,g55,g56,b12,b36,hkl,hwv,hdk]<;>try refine Ya ?_)|refine X2 ?_ ?_|(refine Xd ?_ ?_<;>intro hcd<;>try exact Xx))
  ·have hvn : v=n:=by omega
   subst hvn
   rw [dR (g:=f j) (fun x _=>by rw [← hj,hf1])] at b36
   refine WP.freezeB 12 j (k:=36) (xs:=bl v (f j)) (cs:=ds) (e:=4) (sz:=1) (fz:=0) (own:=true) (fb:=false) b12 (by rw [dj,fa]) b36 ?_
   have hend : ds.set j (.pv (.sl (bl v (f j))))=dZ v f (j+1) M:=by rw [hds,hcs];exact n0 _
   rw [hend,hj]
   with_reducible repeat' (first|refine Sp.h ?_|((first|refine Wd ?_|refine Ss.h ?_|(refine Sb.h ?_ ?_ ?_<;>(try intro hgd)<;>try exact Xy))<;>simp -implicitDefEqProofs (maxSteps:=2000000) [hP,hN,g1,b1,g3,g26,g27,g4,g41,g42,g43,hvl,hwr,hj,kw]<;>try refine Ya ?_)|refine X2 ?_ ?_|(refine Xd ?_ ?_<;>intro hcd<;>try exact Xx))
 ·have hiT : i=T:=by omega
  subst hiT
  rw [← hM] at b12
  obtain ⟨cs,hcs⟩ : ∃ cs,cs=dZ n f M M:=⟨_,rfl⟩
  have hW : bh st.h cs=some ((List.range M).map fun i=>.sl (bl n (f i)),[]):=by rw [hcs,sC];exact kx _ _ _
  have hcl : cs.length=M:=by rw [hcs,mc]
  obtain ⟨qs,hqs⟩ : ∃ qs,qs=(List.range M).map fun i=>PV.sl (bl n (f i)):=⟨_,rfl⟩
  have hone : qs.all dA=true:=by rw [hqs,List.all_eq_true];intro x hx;obtain ⟨v,_,rfl⟩:=List.mem_map.1 hx;rfl
  rw [← hqs] at hW
  rw [← hcs] at b12
  rw [show lB n f M=.sl qs from by rw [hqs]]
  have hone':=List.all_eq_true.1 hone
  with_reducible repeat' (first|refine Sp.h ?_|((first|refine Wd ?_|refine Ss.h ?_|(refine Sb.h ?_ ?_ ?_<;>(try intro hgd)<;>try exact Xy))<;>simp -implicitDefEqProofs (maxSteps:=2000000) [hP,hN,g1,b1,g3,g26,g27,b12,hlt,hW,hcl,hone]<;>try refine Ya ?_)|refine X2 ?_ ?_|(refine Xd ?_ ?_<;>intro hcd<;>try exact Xx))
  all_goals exact hone'
end Go.Ab
namespace Go.Ab
open Go.Proofs
theorem WP.forget {C : Cx} {c : Code} {Q : Exit→St→Prop} {st : St} (ks : List Nat) (h : WP C c Q (st.kill ks)) : WP C c Q st:=fun a w hs=>h a w (hs.kill ks)
def dk (n : Nat) (f : Nat→Nat→Bool) (i N : Nat) : List AV:=(List.range N).map fun w=>if i≤w then .pv (.sl (bl n (f w))) else bf
@[simp] theorem jW (n : Nat) (f : Nat→Nat→Bool) (i N : Nat) : (dk n f i N).length=N:=by simp [dk]
theorem rm (n : Nat) (f : Nat→Nat→Bool) (N : Nat) : List.replicate N bf=dk n f N N:=by
 unfold dk
 apply List.ext_getElem?
 intro w
 by_cases hw : w < N<;>simp [hw,show ¬ N≤w↔w < N by omega]
theorem o6 {n : Nat} {f : Nat→Nat→Bool} {i N : Nat} (x : AV) : ((dk n f (i+1) N).set i x).set i (.pv (.sl (bl n (f i))))=dk n f i N:=by
 rw [List.set_set]
 apply List.ext_getElem?
 intro w
 rw [List.getElem?_set]
 simp only [jW]
 by_cases hw : w < N
 ·by_cases e : i=w
  ·subst e;simp [dk,hw]
  ·simp [dk,hw,e,show (i+1≤w↔i≤w) by omega]
 ·by_cases e : i=w
  ·subst e;simp [dk,hw]
  ·simp [dk,hw,e]
theorem fo (ks : List Nat) (n : Nat) (f : Nat→Nat→Bool) (i N : Nat) : (dk n f i N).map (bc ks)=dk n f i N:=by
 unfold dk;rw [List.map_map]
 refine List.map_congr_left fun w _=>?_
 simp only [Function.comp];split<;>simp [eX,bp]
theorem rn (n : Nat) (f : Nat→Nat→Bool) (N : Nat) : dk n f 0 N=((List.range N).map fun i=>AV.pv (.sl (bl n (f i)))):=by
 unfold dk;exact List.map_congr_left fun w _=>if_pos (Nat.zero_le _)
def mJ (n : Nat) (f : Nat→Nat→Bool) (i : Nat) (r : List PV) (w : Nat) : List PV:=if w=i then r else if i≤w then bl n (f w) else []
theorem tw {q : Nat→List PV} {N w : Nat} (hw : w < N) : ((List.range N).map fun w=>PV.sl (q w))[w]?=some (.sl (q w)):=by simp [hw]
theorem mL {h : Hp} {f : Nat→AV} {g : Nat→PV} {i : Nat} {p : Nat × Blk} (hi : c8 h (f i)=some (g i,[p])) (ho : ∀ v,v≠i→c8 h (f v)=some (g v,[])) : ∀ (l : List Nat),l.Nodup→bh h (l.map f)=some (l.map g,if i ∈ l then [p] else [])
 |[],_=>rfl
 |v :: l,hn=>by
  rw [List.nodup_cons] at hn
  have ih:=mL hi ho l hn.2
  by_cases e : v=i
  ·subst e
   rw [if_neg hn.1] at ih
   simp only [List.map_cons,bh,hi,ih];simp
  ·simp only [List.map_cons,bh,ho v e,ih,List.nil_append,List.mem_cons]
   simp [show ¬ i=v from fun e'=>e e'.symm]
theorem lC (n : Nat) (f : Nat→Nat→Bool) (i N k : Nat) : (dk n f (i+1) N).set i (.arr k n)=(List.range N).map fun w=>if w=i then .arr k n else if i≤w then .pv (.sl (bl n (f w))) else bf:=by
 apply List.ext_getElem?
 intro w
 rw [List.getElem?_set]
 simp only [jW]
 by_cases hw : w < N
 ·by_cases e : i=w
  ·subst e;simp [hw]
  ·simp [dk,hw,e,show ¬ w=i from fun e'=>e e'.symm,show (i+1≤w↔i≤w) by omega]
 ·by_cases e : i=w
  ·subst e;simp [hw]
  ·simp [dk,hw,e]
theorem sD {n : Nat} {f : Nat→Nat→Bool} {i N : Nat} {r : List PV} {h : Hp} {k e9 sz fz : Nat} (hr : r.length=n) (hk : h k=some (.row e9 sz r fz)) (hi : i < N) : bh h ((dk n f (i+1) N).set i (.arr k n))=some ((List.range N).map fun w=>.sl (mJ n f i r w),[(k,.row e9 sz r r.length)]):=by
 rw [lC,mL (g:=fun w=>.sl (mJ n f i r w)) (i:=i) (p:=(k,.row e9 sz r r.length)) ?_ ?_ _ List.nodup_range,if_pos (List.mem_range.2 hi)]
 ·simp [c8,hk,hr,mJ]
 ·intro v hv
  simp only [if_neg hv,mJ]
  split<;>rfl
theorem ro {n : Nat} {f : Nat→Nat→Bool} {i N k : Nat} (hi : i < N) : ((dk n f (i+1) N).set i (.arr k n)).flatMap eu=[k]:=by
 have key : ∀ l : List Nat,l.Nodup→(l.map fun w=>if w=i then AV.arr k n else if i≤w then .pv (.sl (bl n (f w))) else bf).flatMap eu=if i ∈ l then [k] else []:=by
  intro l
  induction l with
  |nil=>intro _;rfl
  |cons v l ih=>
   intro hn
   rw [List.nodup_cons] at hn
   rw [List.map_cons,List.flatMap_cons,ih hn.2]
   by_cases e : v=i
   ·subst e;simp [hn.1,eu]
   ·rw [if_neg e]
    have : eu (if i≤v then AV.pv (.sl (bl n (f v))) else bf)=[]:=by split<;>rfl
    rw [this,List.nil_append]
    simp [show ¬ i=v from fun e'=>e e'.symm]
 rw [lC,key _ List.nodup_range,if_pos (List.mem_range.2 hi)]
theorem vp (n : Nat) (lg : Nat→Nat→Bool) (ps : Nat→Nat→Nat→Bool) (ns : List PV) (start : Int) (goal A : Nat) (T : Int) (g : FuncId) (x : PV) (hn : ns.length=n) (hns : ∀ v,v < n→ns[v]?=some (zs ((bB lg n v).map fun u=>((u : Nat) : Int)))) (hn1 : n≤1024) (hA : A≤64) (hs : goal < n) (hg : ∀ i v u,i < A→v < n→u < n→am Try.prog g [.pv (Z i),.pv (Z v),.pv (Z u),.pv (.rptr x 0)] [] [] (.pv (B (ps i v u)))) : am Try.prog 56 [.pv (nZ (.sl ns) start goal T g x),.pv (Z A)] [] [] (.pv (lB n (fun i=>eo n lg ps goal A (A - i)) (A+1))):=by
 obtain ⟨M,hM⟩ : ∃ M,M=A+1:=⟨_,rfl⟩
 obtain ⟨f,hf⟩ : ∃ f,f=fun i=>eo n lg ps goal A (A - i):=⟨_,rfl⟩
 rw [← hM,← hf]
 have hf0 : ∀ v,f A v=(v==goal):=fun v=>by rw [hf];simp only [Nat.sub_self];rfl
 have hf1 : ∀ i v,i < A→f i v=(List.range n).any fun u=>lg v u && (f (i+1) u && ps i v u):=fun i v hi=>by
  rw [hf];simp only
  obtain ⟨d,hd⟩ : ∃ d,A - i=d+1:=⟨A - i - 1,by omega⟩
  rw [hd,show A - (i+1)=d from by omega]
  show ((List.range n).any fun u=>lg v u && (eo n lg ps goal A d u && ps (A - (d+1)) v u))=_
  rw [show A - (d+1)=i from by omega]
 have w0 : IntKind.i64.wrap ((A : Int)+1)=(M : Int):=by rw [IntKind.wrap_i64];omega
 have w1 : IntKind.i64.wrap ((A : Int) - 1)=(A : Int) - 1:=bP
 have hM0 : 0 < M:=by omega
 have hAM : A < M:=by omega
 have hAM1 : A+1≤M:=by omega
 have hAz : (A : Int) < (M : Int):=by omega
 obtain ⟨rs,hrs⟩ : ∃ rs,rs=List.replicate M bf:=⟨_,rfl⟩
 have hrl : rs.length=M:=by rw [hrs,List.length_replicate]
 obtain ⟨qs,hqs⟩ : ∃ qs,qs=rs.set A (.arr 17 n):=⟨_,rfl⟩
 have hql : qs.length=M:=by rw [hqs,List.length_set,hrl]
 have qa : qs[A]?=some (.arr 17 n):=by rw [hqs];simp [hrl,hAM]
 have qa' : ∀ h,qs[A]'h=.arr 17 n:=fun h=>(List.getElem?_eq_some_iff.1 qa).2
 have hsp0 : rs.take A++AV.arr 17 n :: rs.drop (A+1)=qs:=by rw [hqs];exact b8 (by omega)
 refine Dp Try.func56 ?_
 intro C hP hN
 simp only [Try.f56] at hN ⊢
 with_reducible repeat' (first|refine Sp.h ?_|((first|refine Wh [1000011,17] ?_|refine Wi [1000011,17] ?_|refine Ss.h ?_|(refine Sb.h ?_ ?_ ?_<;>(try intro hgd)<;>try exact Xy))<;>simp -implicitDefEqProofs (maxSteps:=2000000) [hP,hN,hn,w0,w1,hM0,hs,hAM,hAM1,hAz,← hrs,hrl,hsp0,hql,qa,qa',show (M : Int) * 24≤281474976710656 by omega,show 24 * (M : Int)≤281474976710656 by omega,show (M : Int)≤9223372036854775807 by omega,show (n : Int)≤281474976710656 by omega,show (n : Int)≤9223372036854775807 by omega]<;>try refine Ya ?_)|refine X2 ?_ ?_|(refine Xd ?_ ?_<;>intro hcd<;>try exact Xx))
 have hr0 : (List.replicate n (B false)).set goal (B true)=bl n (f A):=by
  rw [jV];exact lA hs (by simp [hf0]) (fun v _ hv=>by rw [hf0];simpa using hv)
 have hc1 : qs.set A (.pv (.sl (bl n (f A))))=dk n f A M:=by
  rw [hqs,hrs,rm n f,hM];exact o6 _
 refine WP.freezeB 11 A (k:=17) (xs:=bl n (f A)) (cs:=qs) (e:=4) (sz:=1) (fz:=0) (own:=true) (fb:=false) (by simp) (by simp [qa]) (by simp [hr0]) ?_
 rw [hc1]
 refine WP.loopN [37,7] A (fun c st=>st.t 2=.ptr 2 0∧st.h 2=some (.box [.pv (.sl ns),.pv (Z start),.pv (Z goal),.pv (Z T),.pv (.fn (.func g) [] [.rptr x 0])] true false)∧st.t 5=.ptr 5 0∧st.h 5=some (.box [.ext (.barr 11 M)] true false)∧st.t 6=.ptr 6 0∧st.h 6=some (.box [.pv (Z ((A : Int) - 1 - c))] true false)∧st.h 11=some (.box (dk n f (A - c) M) true false)∧st.h 37=none∧st.h 7=none) (by simp [fo]) ?_
 rintro c st hi ⟨g2,b2,g5,b5,g6,b6,b11,b37,b7⟩
 by_cases hlt : c < A
 ·obtain ⟨i,hic⟩ : ∃ i,i=A - 1 - c:=⟨_,rfl⟩
  obtain ⟨j,hj⟩ : ∃ j,i+1=j:=⟨_,rfl⟩
  obtain ⟨cs,hcs⟩ : ∃ cs,cs=dk n f j M:=⟨_,rfl⟩
  rw [show (A : Int) - 1 - c=(i : Int) by omega] at b6
  rw [show A - c=j by omega,← hcs] at b11
  have hcl : cs.length=M:=by rw [hcs,jW]
  have hiA : i < A:=by omega
  have hiM : i < M:=by omega
  have hiM1 : i+1≤M:=by omega
  have hiz : (i : Int) < (M : Int):=by omega
  have hi0 : ¬ (i : Int) < 0:=by omega
  have hi0' : 0≤(i : Int):=by omega
  have hwi : IntKind.i64.wrap ((i : Int) - 1)=(i : Int) - 1:=bP
  have hfin : (A : Int) - 1 - ((c : Int)+1)=(i : Int) - 1:=by omega
  have hfin2 : A - (c+1)=i:=by omega
  have hsp : cs.take i++AV.arr 37 n :: cs.drop (i+1)=cs.set i (.arr 37 n):=b8 (by omega)
  obtain ⟨ds,hds⟩ : ∃ ds,ds=cs.set i (.arr 37 n):=⟨_,rfl⟩
  rw [← hds] at hsp
  have hdl : ds.length=M:=by rw [hds,List.length_set,hcl]
  have di : ds[i]?=some (.arr 37 n):=by rw [hds];simp [hcl,hiM]
  have di' : ∀ h,ds[i]'h=.arr 37 n:=fun h=>(List.getElem?_eq_some_iff.1 di).2
  have hdk : ds.map (bc [7])=ds:=by rw [hds,List.map_set,hcs,fo];rfl
  have hd6 : ∀ z,(ds.set i (.pv (.sl z))).map (bc [6])=ds.set i (.pv (.sl z)):=by intro z;rw [hds,List.set_set,List.map_set,hcs,fo];rfl
  have hfz : ∀ (h : Hp) r,r.length=n→h 37=some (.row 4 1 r 0)→bh h ds=some ((List.range M).map fun w=>.sl (mJ n f i r w),[(37,.row 4 1 r r.length)]):=fun h r h1 h2=>by rw [hds,hcs,← hj];exact sD h1 h2 hiM
  have hrf : ds.flatMap eu=[37]:=by rw [hds,hcs,← hj];exact ro hiM
  with_reducible repeat' (first|refine Sp.h ?_|((first|refine Wh [37] ?_|refine Wi [37] ?_|refine Ss.h ?_|(refine Sb.h ?_ ?_ ?_<;>(try intro hgd)<;>try exact Xy))<;>simp -implicitDefEqProofs (maxSteps:=2000000) [hP,hN,hn,g2,b2,g5,b5,g6,b6,b11,b37,b7,hlt,hcl,hiM,hiM1,hiz,hi0,hi0',hsp,hfin,show (n : Int)≤281474976710656 by omega,show (n : Int)≤9223372036854775807 by omega]<;>try refine Ya ?_)|refine X2 ?_ ?_|(refine Xd ?_ ?_<;>intro hcd<;>try exact Xx))
  refine WP.loopN [7] n (fun v st=>st.t 2=.ptr 2 0∧st.h 2=some (.box [.pv (.sl ns),.pv (Z start),.pv (Z goal),.pv (Z T),.pv (.fn (.func g) [] [.rptr x 0])] true false)∧st.t 5=.ptr 5 0∧st.h 5=some (.box [.ext (.barr 11 M)] true false)∧st.t 6=.ptr 6 0∧st.h 6=some (.box [.pv (Z i)] true false)∧st.t 40=.pv (.sl ns)∧st.t 41=.pv (Z n)∧st.t 42=.pv (Z v)∧st.h 11=some (.box ds true false)∧st.h 37=some (.row 4 1 (bl n fun x=>decide (x < v) && f i x) 0)∧st.h 7=none) (by simp [hdk,g2,b2,g5,b5,g6,b6,jV]) ?_
  clear g2 b2 g5 b5 g6 b6 b11 b37 b7
  rintro v st hv ⟨g2,b2,g5,b5,g6,b6,g40,g41,g42,b11,b37,b7⟩
  by_cases hvl : v < n
  ·have hwv:=ak hvl (by omega)
   have hx:=hns v hvl
   have hxl:=(List.getElem?_eq_some_iff.1 hx).1
   have hxe:=(List.getElem?_eq_some_iff.1 hx).2
   have htl:=mb lg n v
   have hrow1 : (bl n fun x=>decide (x < v) && f i x).length=n:=fa _ _
   have hW:=fun (h : Hp)=>hfz h _ hrow1
   have hat : ((List.range M).map fun w=>PV.sl (mJ n f i (bl n fun x=>decide (x < v) && f i x) w))[j]?=some (.sl (bl n (f j))):=by rw [tw (by omega),mJ,if_neg (by omega),if_pos (by omega)]
   have hset : (bl n fun x=>decide (x < v) && f i x).set v (B (f i v))=bl n fun x=>decide (x < v+1) && f i x:=lA hvl (by simp) (fun x _ hx=>by simp [show (x < v+1↔x < v) by omega])
   generalize bl n (fun x=>decide (x < v) && f i x)=r1 at *
   generalize bl n (fun x=>decide (x < v+1) && f i x)=r2 at *
   generalize mJ n f i r1=rows at *
   have hres : ((bB lg n v).map fun u=>((u : Nat) : Int)).any (fun u=>f j u.toNat && ps i v u.toNat)=f i v:=by
    rw [hf1 i v hiA,hj,List.any_map,bB,List.any_filter];rfl
   have cc:=vl (fun u=>f j u.toNat && ps i v u.toNat) ((bB lg n v).map fun u=>((u : Nat) : Int)) 69 (.sl ((List.range M).map fun w=>.sl (rows w))) (Z i) (nZ (.sl ns) start goal T g x) (Z v) (by simp;omega) (fun u hu=>by
    obtain ⟨k,hk,rfl⟩:=List.mem_map.1 hu
    have hkn : k < n:=List.mem_range.1 (List.mem_filter.1 hk).1
    simp only [Int.toNat_natCast]
    exact vm ((List.range M).map fun w=>.sl (rows w)) (bl n (f j)) i v k (.sl ns) start goal T g x (f j k) (ps i v k) (by omega) (by rw [hj];exact hat) (by omega) (by rw [Int.toNat_natCast];exact lz _ hkn) (fun _=>hg i v k hiA hvl hkn))
   rw [hres] at cc
   generalize (bB lg n v).map (fun u=>((u : Nat) : Int))=tv at *
   with_reducible repeat' (first|refine Sp.h ?_|((first|refine Wd ?_|refine Ss.h ?_|refine Sc.h (cc) ?_|(refine Sb.h ?_ ?_ ?_<;>(try intro hgd)<;>try exact Xy))<;>simp -implicitDefEqProofs (maxSteps:=2000000) [hP,hN,hn,g2,b2,g5,b5,g6,b6,g40,g41,g42,b11,b37,b7,hvl,hwv,hx,hxe,hiM,hiz,hdl,di,di',hrf,hW,hrow1,hset,hdk]<;>try refine Ya ?_)|refine X2 ?_ ?_|(refine Xd ?_ ?_<;>intro hcd<;>try exact Xx))
  ·have hvn : v=n:=by omega
   subst hvn
   rw [dR (g:=f i) (fun x hx=>by simp [hx])] at b37
   refine WP.freezeB 11 i (k:=37) (xs:=bl v (f i)) (cs:=ds) (e:=4) (sz:=1) (fz:=0) (own:=true) (fb:=false) b11 (by rw [di,fa]) b37 ?_
   have hend : ds.set i (.pv (.sl (bl v (f i))))=dk v f i M:=by rw [hds,hcs,← hj];exact o6 _
   rw [hend]
   obtain ⟨es,hes⟩ : ∃ es,es=dk v f i M:=⟨_,rfl⟩
   have hesk : ∀ ks,es.map (bc ks)=es:=fun ks=>by rw [hes];exact fo _ _ _ _ _
   rw [← hes]
   with_reducible iterate 8 any_goals (first|refine Sp.h ?_|((first|refine Wd ?_|refine Ss.h ?_|(refine Sb.h ?_ ?_ ?_<;>(try intro hgd)<;>try exact Xy))<;>simp -implicitDefEqProofs (maxSteps:=2000000) [hP,hN,g2,b2,g5,b5,g6,b6,g41,g42,hvl]<;>try refine Ya ?_)|refine X2 ?_ ?_|(refine Xd ?_ ?_<;>intro hcd<;>try exact Xx))
   refine WP.forget [6] ?_
   with_reducible repeat' (first|refine Sp.h ?_|((first|refine Wd ?_|refine Ss.h ?_|(refine Sb.h ?_ ?_ ?_<;>(try intro hgd)<;>try exact Xy))<;>simp -implicitDefEqProofs (maxSteps:=2000000) [hP,hN,g2,b2,g5,b5,g6,b6,hwi,hfin,hfin2,hesk,hes]<;>try refine Ya ?_)|refine X2 ?_ ?_|(refine Xd ?_ ?_<;>intro hcd<;>try exact Xx))
   rw [← List.map_map,fo,fo]
 ·have hcA : c=A:=by omega
  subst hcA
  rw [Nat.sub_self] at b11
  obtain ⟨cs,hcs⟩ : ∃ cs,cs=dk n f 0 M:=⟨_,rfl⟩
  have hW : bh st.h cs=some ((List.range M).map fun i=>.sl (bl n (f i)),[]):=by rw [hcs,rn];exact kx _ _ _
  have hcl : cs.length=M:=by rw [hcs,jW]
  rw [← hcs] at b11
  with_reducible repeat' (first|refine Sp.h ?_|((first|refine Wd ?_|refine Ss.h ?_|(refine Sb.h ?_ ?_ ?_<;>(try intro hgd)<;>try exact Xy))<;>simp -implicitDefEqProofs (maxSteps:=2000000) [hP,hN,g2,b2,g5,b5,g6,b6,b11,hlt,hW,hcl,show (c : Int) - 1 - c < 0 by omega,show ¬ 0≤(c : Int) - 1 - c by omega]<;>try refine Ya ?_)|refine X2 ?_ ?_|(refine Xd ?_ ?_<;>intro hcd<;>try exact Xx))
end Go.Ab
namespace Go.Ab
open Go.Proofs
theorem WP.cut {C : Cx} {c : Code} {id : Nat} {Q : Exit→St→Prop} {st : St} (P : St→Prop) (h1 : WP C c (fW id fun e st=>e=.normal∧P st) st) (h2 : ∀ st,P st→Q .normal st) : WP C c (fW id Q) st:=by
 refine h1.mono fun e st h=>?_
 cases e with
 |normal=>exact h2 st h.2
 |exit i=>
  simp only [fW] at h ⊢
  split at h
  ·rename_i e;rw [if_pos e];exact h2 st h.2
  ·cases h.1
 |goto l=>cases h.1
 |ret=>cases h.1
 |panic ch=>cases h.1
 |outgrown=>cases h.1
theorem ky {α : Type} (p : α→Bool) : ∀ xs : List α,xs[xs.findIdx p]?=xs.find? p
 |[]=>rfl
 |a :: l=>by
  rw [List.findIdx_cons,List.find?_cons]
  cases h : p a with
  |true=>simp
  |false=>simpa using ky p l
def jX (n : Nat) (lg : Nat→Nat→Bool) (ps : Nat→Nat→Nat→Bool) (start goal T : Nat) : Option (List Int):=(aR n lg ps start goal T).map fun A=>(List.range (T+1)).map fun i=>((bu n lg ps start goal A i : Nat) : Int)
theorem tB {n : Nat} {lg : Nat→Nat→Bool} {ps : Nat→Nat→Nat→Bool} {start goal T A : Nat} (hs : start < n) (hA : aR n lg ps start goal T=some A) (hg : goal < n) {i : Nat} (hi : i < A) :
 ∃ k : Nat,dp (fun u : Int=>eo n lg ps goal A (A - (i+1)) u.toNat && ps i (bu n lg ps start goal A i) u.toNat) ((bB lg n (bu n lg ps start goal A i)).map fun u=>((u : Nat) : Int))=k∧(bB lg n (bu n lg ps start goal A i))[k]?=some (bu n lg ps start goal A (i+1)):=by
 obtain ⟨h1,h2,h3⟩:=fp hs hA hg (i+1) (by omega)
 have h4:=h3 i (by omega)
 have hb : eo n lg ps goal A (A - (i+1)) (bu n lg ps start goal A (i+1))=true:=by rw [ju (by omega)];rwa [show A - (A - (i+1))=i+1 from by omega]
 have e : bu n lg ps start goal A (i+1)=((List.range n).find? fun u=>lg (bu n lg ps start goal A i) u && (eo n lg ps goal A (A - (i+1)) u && ps i (bu n lg ps start goal A i) u)).getD 0:=by rw [bu,if_pos hi]
 generalize bu n lg ps start goal A (i+1)=y at *
 generalize bu n lg ps start goal A i=v at *
 obtain ⟨x,hx1,hx2,hx3⟩:=mY (p:=fun u=>lg v u && (eo n lg ps goal A (A - (i+1)) u && ps i v u)) h1 (by simp [h4.1,h4.2,hb])
 rw [hx1,Option.getD_some] at e
 subst e
 refine ⟨(bB lg n v).findIdx fun u=>eo n lg ps goal A (A - (i+1)) u && ps i v u,?_,?_⟩
 ·rw [dp,if_pos]
  ·congr 1
   rw [List.findIdx_map];rfl
  ·rw [List.any_eq_true]
   refine ⟨(y : Int),List.mem_map.2 ⟨y,?_,rfl⟩,?_⟩
   ·simp only [bB,List.mem_filter,List.mem_range];exact ⟨h1,h4.1⟩
   ·simp [hb,h4.2]
 ·rw [ky,bB,List.find?_filter,← hx1];exact pX fun u _=>by rw [Bool.eq_iff_iff];simp
def dl (n : Nat) (lg : Nat→Nat→Bool) (ps : Nat→Nat→Nat→Bool) (start goal A N : Nat) : List Int:=(List.range N).map fun i=>((bu n lg ps start goal A i : Nat) : Int)
theorem kz (n : Nat) (lg : Nat→Nat→Bool) (ps : Nat→Nat→Nat→Bool) (start goal A N : Nat) : dl n lg ps start goal A (N+1)=dl n lg ps start goal A N++[((bu n lg ps start goal A N : Nat) : Int)]:=by simp [dl,List.range_succ]
theorem o7 (n : Nat) (lg : Nat→Nat→Bool) (ps : Nat→Nat→Nat→Bool) (start goal A N : Nat) : (dl n lg ps start goal A N).length=N:=by simp [dl]
theorem tD {n : Nat} {lg : Nat→Nat→Bool} {ps : Nat→Nat→Nat→Bool} {start goal A N i : Nat} (h : i < N) : (dl n lg ps start goal A N)[i]?=some ((bu n lg ps start goal A i : Nat) : Int):=by simp [dl,h]
theorem vu (n : Nat) (lg : Nat→Nat→Bool) (ps : Nat→Nat→Nat→Bool) (ns : List PV) (start goal T : Nat) (g : FuncId) (x : PV) (hn : ns.length=n) (hns : ∀ v,v < n→ns[v]?=some (zs ((bB lg n v).map fun u=>((u : Nat) : Int)))) (hn1 : n≤1024) (hT : T≤64) (hs : start < n) (hgo : goal < n) (hg : ∀ i v u,i < T→v < n→u < n→am Try.prog g [.pv (Z i),.pv (Z v),.pv (Z u),.pv (.rptr x 0)] [] [] (.pv (B (ps i v u)))) : am Try.prog 38 [.pv (nZ (.sl ns) start goal T g x)] [] [] (.pv (.tup (match jX n lg ps start goal T with|some l=>[zs l,B true]|none=>[.sl [],B false]))):=by
 have cr:=vo n lg ps ns start goal T g x hn hns hn1 hT hs hg
 obtain ⟨S,hS⟩ : ∃ S,S=aK ps goal T:=⟨_,rfl⟩
 have hST : S≤T:=by rw [hS];exact iL _ _ _
 obtain ⟨f,hf⟩ : ∃ f,f=i0 n lg ps start:=⟨_,rfl⟩
 have hap : aR n lg ps start goal T=dS (fun a=>f a goal) S (T+1 - S):=by rw [aR,hS,hf]
 rw [← hf] at cr
 obtain ⟨R,hRR⟩ : ∃ R,aR n lg ps start goal T=R:=⟨_,rfl⟩
 rw [hRR] at hap
 obtain ⟨rs,hrs⟩ : ∃ rs,rs=(List.range (T+1)).map fun i=>PV.sl (bl n (f i)):=⟨_,rfl⟩
 rw [show lB n f (T+1)=.sl rs by rw [hrs]] at cr
 have hra : ∀ a,a≤T→rs[a]?=some (.sl (bl n (f a))):=fun a ha=>by rw [hrs];simp [show a < T+1 by omega]
 clear hrs
 refine Dp Try.func38 ?_
 intro C hP hN
 simp only [Try.f38] at hN ⊢
 with_reducible repeat' (first|refine Sp.h ?_|((first|refine Wd ?_|refine Ss.h ?_|(refine Sb.h ?_ ?_ ?_<;>(try intro hgd)<;>try exact Xy))<;>simp -implicitDefEqProofs (maxSteps:=2000000) [hP,hN]<;>try refine Ya ?_)|refine X2 ?_ ?_|(refine Xd ?_ ?_<;>intro hcd<;>try exact Xx))
 refine WP.cut (fun st=>st.t 1=.ptr 1 0∧st.h 1=some (.box [.pv (.sl ns),.pv (Z start),.pv (Z goal),.pv (Z T),.pv (.fn (.func g) [] [.rptr x 0])] true false)∧st.t 4=.pv (Z S)∧st.h 7=none∧st.h 9=none∧st.h 10=none∧st.h 58=none) ?_ ?_
 ·refine WP.loop [] (fun st=>∃ s : Nat,st.t 1=.ptr 1 0∧st.h 1=some (.box [.pv (.sl ns),.pv (Z start),.pv (Z goal),.pv (Z T),.pv (.fn (.func g) [] [.rptr x 0])] true false)∧st.t 4=.pv (Z s)∧s≤T∧aK ps goal s=S∧st.h 7=none∧st.h 9=none∧st.h 10=none∧st.h 58=none) (fun st=>match st.t 4 with|.pv (.val (.int _ a))=>a.toNat|_=>0) (by exact ⟨T,by simp [hS]⟩) ?_
  rintro st ⟨s,g1,b1,g4,hsT,hse,b7,b9,b10,b58⟩
  cases s with
  |zero=>
   have : (0 : Nat)=S:=hse
   subst this
   with_reducible repeat' (first|refine Sp.h ?_|((first|refine Wd ?_|refine Ss.h ?_|(refine Sb.h ?_ ?_ ?_<;>(try intro hgd)<;>try exact Xy))<;>simp -implicitDefEqProofs (maxSteps:=2000000) [hP,hN,g1,b1,g4,b7,b9,b10,b58]<;>try refine Ya ?_)|refine X2 ?_ ?_|(refine Xd ?_ ?_<;>intro hcd<;>try exact Xx))
  |succ s=>
   have hg':=hg s goal goal (by omega) hgo hgo
   have hw1 : IntKind.i64.wrap (((s+1 : Nat) : Int) - 1)=(s : Int):=by rw [IntKind.wrap_i64];omega
   obtain ⟨j,hj⟩ : ∃ j,s+1=j:=⟨_,rfl⟩
   have hj0 : 0 < (j : Int):=by omega
   have hj1 : 0 < j:=by omega
   rw [hj] at g4 hw1
   cases hp : ps s goal goal with
   |true=>
    rw [hp] at hg'
    have hse' : aK ps goal s=S:=by rw [← hse,aK,if_pos hp]
    with_reducible repeat' (first|refine Sp.h ?_|((first|refine Wd ?_|refine Ss.h ?_|refine Sc.h (hg') ?_|(refine Sb.h ?_ ?_ ?_<;>(try intro hgd)<;>try exact Xy))<;>simp -implicitDefEqProofs (maxSteps:=2000000) [hP,hN,g1,b1,g4,b7,b9,b10,b58,hw1,hj0,hj1]<;>try refine Ya ?_)|refine X2 ?_ ?_|(refine Xd ?_ ?_<;>intro hcd<;>try exact Xx))
    all_goals exact ⟨⟨s,rfl,by omega,hse'⟩,by omega⟩
   |false=>
    rw [hp] at hg'
    have hse' : j=S:=by rw [← hse,aK,if_neg (by rw [hp];decide),hj]
    subst hse'
    with_reducible repeat' (first|refine Sp.h ?_|((first|refine Wd ?_|refine Ss.h ?_|refine Sc.h (hg') ?_|(refine Sb.h ?_ ?_ ?_<;>(try intro hgd)<;>try exact Xy))<;>simp -implicitDefEqProofs (maxSteps:=2000000) [hP,hN,g1,b1,g4,b7,b9,b10,b58,hw1,hj0,hj1]<;>try refine Ya ?_)|refine X2 ?_ ?_|(refine Xd ?_ ?_<;>intro hcd<;>try exact Xx))
 ·rintro st ⟨g1,b1,g4,b7,b9,b10,b58⟩
  show WP C _ _ st
  with_reducible repeat' (first|refine Sp.h ?_|((first|refine Wd ?_|refine Ss.h ?_|refine Sc.h (cr) ?_|(refine Sb.h ?_ ?_ ?_<;>(try intro hgd)<;>try exact Xy))<;>simp -implicitDefEqProofs (maxSteps:=2000000) [hP,hN,g1,b1,g4,b7,b9,b10,b58]<;>try refine Ya ?_)|refine X2 ?_ ?_|(refine Xd ?_ ?_<;>intro hcd<;>try exact Xx))
  refine WP.cut (fun st=>∃ a : Nat,st.t 1=.ptr 1 0∧st.h 1=some (.box [.pv (.sl ns),.pv (Z start),.pv (Z goal),.pv (Z T),.pv (.fn (.func g) [] [.rptr x 0])] true false)∧st.t 6=.pv (Z a)∧st.h 7=none∧st.h 9=none∧st.h 10=none∧st.h 58=none∧((a=T+1∧R=none)∨(a≤T∧R=some a))) ?_ ?_
  ·refine WP.loopN [] (T+1 - S) (fun c st=>st.t 1=.ptr 1 0∧st.h 1=some (.box [.pv (.sl ns),.pv (Z start),.pv (Z goal),.pv (Z T),.pv (.fn (.func g) [] [.rptr x 0])] true false)∧st.t 5=.pv (.sl rs)∧st.t 6=.pv (Z (S+c : Nat))∧st.h 7=none∧st.h 9=none∧st.h 10=none∧st.h 58=none∧dS (fun a=>f a goal) (S+c) (T+1 - (S+c))=R) (by simp [g1,b1,b7,b9,b10,b58,hap]) ?_
   clear g1 b1 g4 b7 b9 b10 b58
   rintro c st hc ⟨g1,b1,g5,g6,b7,b9,b10,b58,hfa⟩
   obtain ⟨a,ha⟩ : ∃ a,a=S+c:=⟨_,rfl⟩
   have ha1 : S+(c+1)=a+1:=by omega
   rw [ha1]
   rw [← ha] at g6 hfa
   by_cases haT : a≤T
   ·have hx:=hra a haT
    have hxl:=(List.getElem?_eq_some_iff.1 hx).1
    have hxe:=(List.getElem?_eq_some_iff.1 hx).2
    have hy:=lz (f a) hgo
    have hyl : goal < (bl n (f a)).length:=by rw [fa];exact hgo
    have hye : ∀ h,(bl n (f a))[goal]'h=B (f a goal):=fun h=>(List.getElem?_eq_some_iff.1 hy).2
    have haz : (a : Int)≤(T : Int):=by omega
    have hwa : IntKind.i64.wrap ((a : Int)+1)=(a : Int)+1:=bP
    have hcc : c < T+1 - S:=by omega
    rw [show T+1 - a=(T+1 - (a+1))+1 by omega,dS] at hfa
    generalize bl n (f a)=ra at *
    cases hb : f a goal with
    |true=>
     rw [hb] at hy hye
     simp only [hb,if_true] at hfa
     with_reducible repeat' (first|refine Sp.h ?_|((first|refine Wd ?_|refine Ss.h ?_|(refine Sb.h ?_ ?_ ?_<;>(try intro hgd)<;>try exact Xy))<;>simp -implicitDefEqProofs (maxSteps:=2000000) [hP,hN,g1,b1,g5,g6,b7,b9,b10,b58,haT,haz,hx,hxe,hxl,hy,hyl,hye]<;>try refine Ya ?_)|refine X2 ?_ ?_|(refine Xd ?_ ?_<;>intro hcd<;>try exact Xx))
     exact ⟨a,rfl,.inr ⟨haT,hfa.symm⟩⟩
    |false=>
     rw [hb] at hy hye
     simp only [hb,Bool.false_eq_true,if_false] at hfa
     with_reducible repeat' (first|refine Sp.h ?_|((first|refine Wd ?_|refine Ss.h ?_|(refine Sb.h ?_ ?_ ?_<;>(try intro hgd)<;>try exact Xy))<;>simp -implicitDefEqProofs (maxSteps:=2000000) [hP,hN,g1,b1,g5,g6,b7,b9,b10,b58,haT,haz,hx,hxe,hxl,hy,hyl,hye,hwa]<;>try refine Ya ?_)|refine X2 ?_ ?_|(refine Xd ?_ ?_<;>intro hcd<;>try exact Xx))
     exact ⟨hcc,by rw [show T - a=T+1 - (a+1) by omega];exact hfa⟩
   ·have haT1 : a=T+1:=by omega
    rw [show T+1 - a=0 by omega,dS] at hfa
    have haz : ¬ (a : Int)≤(T : Int):=by omega
    with_reducible repeat' (first|refine Sp.h ?_|((first|refine Wd ?_|refine Ss.h ?_|(refine Sb.h ?_ ?_ ?_<;>(try intro hgd)<;>try exact Xy))<;>simp -implicitDefEqProofs (maxSteps:=2000000) [hP,hN,g1,b1,g5,g6,b7,b9,b10,b58,haT,haz]<;>try refine Ya ?_)|refine X2 ?_ ?_|(refine Xd ?_ ?_<;>intro hcd<;>try exact Xx))
    exact ⟨a,rfl,.inl ⟨haT1,hfa.symm⟩⟩
  clear g1 b1 g4 b7 b9 b10 b58 st
  rintro st ⟨a,g1,b1,g6,b7,b9,b10,b58,hR⟩
  show WP C _ _ st
  rcases hR with ⟨ha,hR⟩|⟨ha,hR⟩
  ·have haz : (T : Int) < (a : Int):=by omega
   have hbn : jX n lg ps start goal T=none:=by rw [jX,hRR,hR];rfl
   rw [hbn]
   with_reducible repeat' (first|refine Sp.h ?_|((first|refine Wd ?_|refine Ss.h ?_|(refine Sb.h ?_ ?_ ?_<;>(try intro hgd)<;>try exact Xy))<;>simp -implicitDefEqProofs (maxSteps:=2000000) [hP,hN,g1,b1,g6,haz]<;>try refine Ya ?_)|refine X2 ?_ ?_|(refine Xd ?_ ?_<;>intro hcd<;>try exact Xx))
  ·have haz : ¬ (T : Int) < (a : Int):=by omega
   have hA' : aR n lg ps start goal T=some a:=by rw [hRR,hR]
   have hbs : jX n lg ps start goal T=some (dl n lg ps start goal a (T+1)):=by rw [jX,hA'];rfl
   rw [hbs]
   have ch:=vp n lg ps ns start goal a T g x hn hns hn1 (by omega) hgo (fun i v u hi=>hg i v u (by omega))
   obtain ⟨qs,hqs⟩ : ∃ qs,qs=(List.range (a+1)).map fun i=>PV.sl (bl n (eo n lg ps goal a (a - i))):=⟨_,rfl⟩
   rw [show lB n (fun i=>eo n lg ps goal a (a - i)) (a+1)=.sl qs by rw [hqs]] at ch
   have hqa : ∀ j,j≤a→qs[j]?=some (.sl (bl n (eo n lg ps goal a (a - j)))):=fun j hj=>by rw [hqs];simp [show j < a+1 by omega]
   clear hqs
   with_reducible repeat' (first|refine Sp.h ?_|((first|refine Wh [58] ?_|refine Wi [58] ?_|refine Ss.h ?_|refine Sc.h (ch) ?_|(refine Sb.h ?_ ?_ ?_<;>(try intro hgd)<;>try exact Xy))<;>simp -implicitDefEqProofs (maxSteps:=2000000) [hP,hN,g1,b1,g6,b7,b9,b10,b58,haz]<;>try refine Ya ?_)|refine X2 ?_ ?_|(refine Xd ?_ ?_<;>intro hcd<;>try exact Xx))
   have h58 : [PV.val (.int .i64 (start : Int))]=(dl n lg ps start goal a (0+1)).map Z:=by simp [kz,dl,bu]
   rw [h58]
   refine WP.loopN [9,10] a (fun i st=>st.t 1=.ptr 1 0∧st.h 1=some (.box [.pv (.sl ns),.pv (Z start),.pv (Z goal),.pv (Z T),.pv (.fn (.func g) [] [.rptr x 0])] true false)∧st.t 7=.ptr 7 0∧st.h 7=some (.box [.pv (.sl qs)] true false)∧st.t 8=.arr 58 (i+1)∧st.h 58=some (.row 3 1 ((dl n lg ps start goal a (i+1)).map Z) 0)∧st.t 59=.pv (Z a)∧st.t 60=.pv (Z i)∧st.h 9=none∧st.h 10=none) (by simp [g1,b1,b9,b10]) ?_
   clear g1 b1 g6 b7 b9 b10 b58 h58 st
   rintro i st hi ⟨g1,b1,g7,b7,g8,b58,g59,g60,b9,b10⟩
   by_cases hlt : i < a
   ·obtain ⟨k,hk1,hk2⟩:=tB (ps:=ps) (lg:=lg) hs hA' hgo hlt
    have hcn:=(fp hs hA' hgo i (by omega)).1
    have hLl:=o7 n lg ps start goal a (i+1)
    have hLi : ((dl n lg ps start goal a (i+1)).map Z)[i]?=some (Z (bu n lg ps start goal a i)):=by rw [List.getElem?_map,tD (by omega)];rfl
    have hLs:=kz n lg ps start goal a (i+1)
    generalize bu n lg ps start goal a (i+1)=y at *
    generalize bu n lg ps start goal a i=v at *
    have hx:=hns v hcn
    have hxl:=(List.getElem?_eq_some_iff.1 hx).1
    have hxe:=(List.getElem?_eq_some_iff.1 hx).2
    have htl:=mb lg n v
    have hq:=hqa (i+1) (by omega)
    have ci:=ut (fun u=>eo n lg ps goal a (a - (i+1)) u.toNat && ps i v u.toNat) ((bB lg n v).map fun u=>((u : Nat) : Int)) 58 (.sl qs) (Z i) (nZ (.sl ns) start goal T g x) (Z v) (by simp;omega) (fun u hu=>by
     obtain ⟨q,hq',rfl⟩:=List.mem_map.1 hu
     have hqn : q < n:=List.mem_range.1 (List.mem_filter.1 hq').1
     simp only [Int.toNat_natCast]
     exact vn qs (bl n (eo n lg ps goal a (a - (i+1)))) i v q (.sl ns) start goal T g x (eo n lg ps goal a (a - (i+1)) q) (ps i v q) (by omega) hq (by omega) (by rw [Int.toNat_natCast];exact lz _ hqn) (fun _=>hg i v q (by omega) hcn hqn))
    rw [hk1] at ci
    have hkk : ((bB lg n v).map fun u=>((u : Nat) : Int))[k]?=some (y : Int):=by rw [List.getElem?_map,hk2];rfl
    generalize (bB lg n v).map (fun u=>((u : Nat) : Int))=tv at *
    have hkl:=(List.getElem?_eq_some_iff.1 hkk).1
    have hke:=(List.getElem?_eq_some_iff.1 hkk).2
    obtain ⟨j,hj⟩ : ∃ j,i+1=j:=⟨_,rfl⟩
    have hLl2 : ((dl n lg ps start goal a (i+1)).map Z).length=i+1:=by rw [List.length_map,hLl]
    have hLsz : ((dl n lg ps start goal a (i+1+1)).map Z)=((dl n lg ps start goal a (i+1)).map Z)++[Z y]:=by rw [hLs,List.map_append];rfl
    generalize (dl n lg ps start goal a (i+1+1)).map Z=L2 at *
    generalize (dl n lg ps start goal a (i+1)).map Z=L at *
    rw [hj] at g8 hLl2 ⊢
    have hLe:=(List.getElem?_eq_some_iff.1 hLi).2
    have hij : i < j:=by omega
    have hwi : IntKind.i64.wrap ((i : Int)+1)=(j : Int):=by rw [IntKind.wrap_i64];omega
    have hjc : (j : Int)=(i : Int)+1:=by omega
    with_reducible repeat' (first|refine Sp.h ?_|((first|refine Wd ?_|refine Ss.h ?_|refine Sc.h (ci) ?_|(refine Sb.h ?_ ?_ ?_<;>(try intro hgd)<;>try exact Xy))<;>simp -implicitDefEqProofs (maxSteps:=2000000) [hP,hN,hn,g1,b1,g7,b7,g8,b58,g59,g60,b9,b10,hlt,hLl2,hLi,hLe,hij,hcn,hx,hxe,hkk,hkl,hke,hwi,show (j+1) * 8≤140737488355328 by omega,show j≤9223372036854775806 by omega,show j+1≤9223372036854775807 by omega]<;>try refine Ya ?_)|refine X2 ?_ ?_|(refine Xd ?_ ?_<;>intro hcd<;>try exact Xx))
    exact hLsz.symm
   ·have hia : i=a:=by omega
    subst hia
    with_reducible repeat' (first|refine Sp.h ?_|((first|refine Wd ?_|refine Ss.h ?_|(refine Sb.h ?_ ?_ ?_<;>(try intro hgd)<;>try exact Xy))<;>simp -implicitDefEqProofs (maxSteps:=2000000) [hP,hN,hn,g1,b1,g7,b7,g8,b58,g59,g60,b9,b10,hlt]<;>try refine Ya ?_)|refine X2 ?_ ?_|(refine Xd ?_ ?_<;>intro hcd<;>try exact Xx))
    refine WP.loopN [] (T - i) (fun c st=>st.t 1=.ptr 1 0∧st.h 1=some (.box [.pv (.sl ns),.pv (Z start),.pv (Z goal),.pv (Z T),.pv (.fn (.func g) [] [.rptr x 0])] true false)∧st.t 8=.arr 58 (i+c+1)∧st.h 58=some (.row 3 1 ((dl n lg ps start goal i (i+c+1)).map Z) 0)) (by simp [g1,b1,g8,b58]) ?_
    clear g1 b1 g7 b7 g8 b58 g59 g60 b9 b10 st
    rintro c st hc ⟨g1,b1,g8,b58⟩
    obtain ⟨m,hm⟩ : ∃ m,m=i+c+1:=⟨_,rfl⟩
    rw [show i+(c+1)+1=m+1 by omega]
    rw [← hm] at g8 b58
    have hLl : ((dl n lg ps start goal i m).map Z).length=m:=by rw [List.length_map,o7]
    by_cases hcl : c < T - i
    ·have hmT : m≤T:=by omega
     have hmz : (m : Int)≤(T : Int):=by omega
     have hLs : ((dl n lg ps start goal i (m+1)).map Z)=((dl n lg ps start goal i m).map Z)++[Z goal]:=by rw [kz,eL hs hA' hgo (by omega),List.map_append];rfl
     generalize (dl n lg ps start goal i (m+1)).map Z=L2 at *
     generalize (dl n lg ps start goal i m).map Z=L at *
     with_reducible repeat' (first|refine Sp.h ?_|((first|refine Wd ?_|refine Ss.h ?_|(refine Sb.h ?_ ?_ ?_<;>(try intro hgd)<;>try exact Xy))<;>simp -implicitDefEqProofs (maxSteps:=2000000) [hP,hN,g1,b1,g8,b58,hLl,hmT,hmz,show (m+1) * 8≤140737488355328 by omega,show m≤9223372036854775806 by omega,show m+1≤9223372036854775807 by omega]<;>try refine Ya ?_)|refine X2 ?_ ?_|(refine Xd ?_ ?_<;>intro hcd<;>try exact Xx))
     exact ⟨hcl,hLs.symm⟩
    ·have hmT : m=T+1:=by omega
     have hmz : ¬ (m : Int)≤(T : Int):=by omega
     rw [← hmT]
     rw [show (zs (dl n lg ps start goal i m))=.sl ((dl n lg ps start goal i m).map Z) from rfl]
     generalize (dl n lg ps start goal i m).map Z=L at *
     with_reducible repeat' (first|refine Sp.h ?_|((first|refine Wd ?_|refine Ss.h ?_|(refine Sb.h ?_ ?_ ?_<;>(try intro hgd)<;>try exact Xy))<;>simp -implicitDefEqProofs (maxSteps:=2000000) [hP,hN,g1,b1,g8,b58,hLl,hmz]<;>try refine Ya ?_)|refine X2 ?_ ?_|(refine Xd ?_ ?_<;>intro hcd<;>try exact Xx))
end Go.Ab
namespace Go.Ab
open Go.Proofs
def tE (t : aU) (l : List Int) (k : Nat) : Bool:=bC (a8 t k) ((l[k]?).getD 0)
theorem sE (t : aU) (l : List Int) : bL t l=(decide (l.length=t.maps.length) && (List.range l.length).all (tE t l)):=rfl
theorem uw (t : aU) (l : List Int) (ht : TmOk t) : am Try.prog 34 [.pv (bR t),.pv (zs l)] [] [] (.pv (B (bL t l))):=by
 rw [sE]
 refine Dp Try.func34 ?_
 intro C hP hN
 simp only [Try.f34] at hN ⊢
 by_cases hlen : l.length=t.maps.length
 ·rw [decide_eq_true hlen,Bool.true_and,hlen]
  obtain ⟨p,hp⟩ : ∃ p,p=tE t l:=⟨_,rfl⟩
  rw [← hp]
  have hlz : ((l.length : Nat) : Int)=((t.maps.length : Nat) : Int):=by omega
  obtain ⟨R,hR⟩ : ∃ R,(List.range t.maps.length).all p=R:=⟨_,rfl⟩
  rw [hR]
  with_reducible repeat' (first|refine Sp.h ?_|((first|refine Ss.h ?_|(refine Sb.h ?_ ?_ ?_<;>(try intro hgd)<;>try exact Xy))<;>simp -implicitDefEqProofs (maxSteps:=2000000) [hP,hN,hlen,hlz])|refine X2 ?_ ?_|(refine Xd ?_ ?_<;>intro hcd<;>try exact Xx))
  refine WP.loopN [] t.maps.length (fun i st=>st.t 2=.ptr 2 0∧st.h 2=some (.box [.pv (.sl (t.maps.map aV)),.pv (.sl (t.conf.map ba))] true false)∧(st.t 13=.pv (zs l)∧st.t 14=.pv (Z t.maps.length))∧st.t 15=.pv (Z i)∧tA p i) (by simp [cJ,hlen]) ?_
  rintro i st hi ⟨g2,b2,g13,g15,hq⟩
  by_cases hlt : i < t.maps.length
  ·have hw:=ak hlt ht.nl
   have hn:=cK (p:=p) hq
   have hh:=cL (p:=p) hlt
   rw [hR] at hh
   have hxi : t.maps[i]?=some t.maps[i]:=List.getElem?_eq_getElem hlt
   have hli : i < l.length:=by omega
   have hai:=bG hli
   have hpi : p i=bC t.maps[i].np.length l[i]:=by rw [hp];simp [tE,a8,hxi,hai]
   have hpl:=ht.pl _ (List.getElem_mem hlt)
   generalize hx : t.maps[i]=m at *
   generalize hz : l[i]=z at *
   by_cases h1 : z < 0
   ·have h9 : p i=false:=by rw [hpi,← Bool.not_eq_true,aD];omega
    rw [hh h9]
    with_reducible repeat' (first|refine Sp.h ?_|((first|refine Ss.h ?_|(refine Sb.h ?_ ?_ ?_<;>(try intro hgd)<;>try exact Xy))<;>simp -implicitDefEqProofs (maxSteps:=2000000) [hP,hN,g2,b2,g13.1,g13.2,g15,hlt,hw,hx,hxi,hli,hai,hz,h1])|refine X2 ?_ ?_|(refine Xd ?_ ?_<;>intro hcd<;>try exact Xx))
   ·by_cases h2 : (m.np.length : Int)≤z
    ·have h9 : p i=false:=by rw [hpi,← Bool.not_eq_true,aD];omega
     rw [hh h9]
     with_reducible repeat' (first|refine Sp.h ?_|((first|refine Ss.h ?_|(refine Sb.h ?_ ?_ ?_<;>(try intro hgd)<;>try exact Xy))<;>simp -implicitDefEqProofs (maxSteps:=2000000) [hP,hN,g2,b2,g13.1,g13.2,g15,hlt,hw,hx,hxi,hli,hai,hz,h1,h2])|refine X2 ?_ ?_|(refine Xd ?_ ?_<;>intro hcd<;>try exact Xx))
    ·have h9 : p i=true:=by rw [hpi,aD];omega
     have hn9:=hn h9
     with_reducible repeat' (first|refine Sp.h ?_|((first|refine Ss.h ?_|(refine Sb.h ?_ ?_ ?_<;>(try intro hgd)<;>try exact Xy))<;>simp -implicitDefEqProofs (maxSteps:=2000000) [hP,hN,g2,b2,g13.1,g13.2,g15,hlt,hw,hx,hxi,hli,hai,hz,h1,h2,hlen])|refine X2 ?_ ?_|(refine Xd ?_ ?_<;>intro hcd<;>try exact Xx))
     all_goals exact hn9
  ·rw [dv hq hlt] at hR
   rw [← hR]
   with_reducible repeat' (first|refine Sp.h ?_|((first|refine Ss.h ?_|(refine Sb.h ?_ ?_ ?_<;>(try intro hgd)<;>try exact Xy))<;>simp -implicitDefEqProofs (maxSteps:=2000000) [hP,hN,g2,b2,g13.1,g13.2,g15,hlt,hlen])|refine X2 ?_ ?_|(refine Xd ?_ ?_<;>intro hcd<;>try exact Xx))
 ·rw [decide_eq_false hlen,Bool.false_and]
  have hlz : ¬ ((l.length : Nat) : Int)=((t.maps.length : Nat) : Int):=by omega
  with_reducible repeat' (first|refine Sp.h ?_|((first|refine Ss.h ?_|(refine Sb.h ?_ ?_ ?_<;>(try intro hgd)<;>try exact Xy))<;>simp -implicitDefEqProofs (maxSteps:=2000000) [hP,hN,hlen,hlz])|refine X2 ?_ ?_|(refine Xd ?_ ?_<;>intro hcd<;>try exact Xx))
theorem n5 (xs : List Int) (v : Int) : xs.any (fun x=>v==x)=xs.contains v:=by
 induction xs with
 |nil=>rfl
 |cons a l ih=>rw [List.any_cons,List.contains_cons,ih]
theorem vw (xs : List Int) (v : Int) (hl : xs.length≤9223372036854775807) : am Try.prog 65 [.pv (zs xs),.pv (Z v)] [] [] (.pv (Z (dp (fun x=>v==x) xs))):=by
 obtain ⟨p,hp⟩ : ∃ p,p=fun x : Int=>v==x:=⟨_,rfl⟩
 rw [← hp]
 refine Dp Try.func65 ?_
 intro C hP hN
 simp only [Try.f65] at hN ⊢
 with_reducible repeat' (first|refine Sp.h ?_|((first|refine Ss.h ?_|(refine Sb.h ?_ ?_ ?_<;>(try intro hgd)<;>try exact Xy))<;>simp -implicitDefEqProofs (maxSteps:=2000000) [hP,hN])|refine X2 ?_ ?_|(refine Xd ?_ ?_<;>intro hcd<;>try exact Xx))
 refine WP.loopN [] xs.length (fun i st=>st.t 0=.pv (zs xs)∧st.t 1=.pv (Z v)∧st.t 7=.pv (Z xs.length)∧st.t 8=.pv (Z i)∧eg p xs i) (by simp [dQ]) ?_
 rintro i st hi ⟨g0,g1,g7,g8,hq⟩
 by_cases hlt : i < xs.length
 ·have hw:=ak hlt hl
  have hn:=eD hlt hq
  have hh:=jY hlt hq
  have hpc : p xs[i]=(v==xs[i]):=by rw [hp]
  generalize hx : xs[i]=c at *
  have hxi : xs[i]?=some c:=by rw [List.getElem?_eq_getElem hlt,hx]
  generalize dp p xs=r at *
  by_cases e : v=c
  ·rw [hh (by rw [hpc];simp [e])]
   with_reducible repeat' (first|refine Sp.h ?_|((first|refine Ss.h ?_|(refine Sb.h ?_ ?_ ?_<;>(try intro hgd)<;>try exact Xy))<;>simp -implicitDefEqProofs (maxSteps:=2000000) [hP,hN,g0,g1,g7,g8,hlt,hw,hx,hxi,e])|refine X2 ?_ ?_|(refine Xd ?_ ?_<;>intro hcd<;>try exact Xx))
  ·have e' : (v==c)=false:=by simp [e]
   have hn9:=hn (by rw [hpc,e'])
   with_reducible repeat' (first|refine Sp.h ?_|((first|refine Ss.h ?_|(refine Sb.h ?_ ?_ ?_<;>(try intro hgd)<;>try exact Xy))<;>simp -implicitDefEqProofs (maxSteps:=2000000) [hP,hN,g0,g1,g7,g8,hlt,hw,hx,hxi,e,e'])|refine X2 ?_ ?_|(refine Xd ?_ ?_<;>intro hcd<;>try exact Xx))
   all_goals exact hn9
 ·rw [jZ hlt hq]
  with_reducible repeat' (first|refine Sp.h ?_|((first|refine Ss.h ?_|(refine Sb.h ?_ ?_ ?_<;>(try intro hgd)<;>try exact Xy))<;>simp -implicitDefEqProofs (maxSteps:=2000000) [hP,hN,g0,g1,g7,g8,hlt])|refine X2 ?_ ?_|(refine Xd ?_ ?_<;>intro hcd<;>try exact Xx))
theorem vx (xs : List Int) (v : Int) (hl : xs.length≤9223372036854775807) : am Try.prog 51 [.pv (zs xs),.pv (Z v)] [] [] (.pv (B (xs.contains v))):=by
 have ci:=vw xs v hl
 rw [← n5,← mf]
 refine Dp Try.func51 ?_
 intro C hP hN
 simp only [Try.f51] at hN ⊢
 with_reducible repeat' (first|refine Sp.h ?_|((first|refine Ss.h ?_|refine Sc.h (ci) ?_|(refine Sb.h ?_ ?_ ?_<;>(try intro hgd)<;>try exact Xy))<;>simp -implicitDefEqProofs (maxSteps:=2000000) [hP,hN])|refine X2 ?_ ?_|(refine Xd ?_ ?_<;>intro hcd<;>try exact Xx))
theorem vy (l : List Int) (n : Nat) (hl : l.length≤9223372036854775807) : am Try.prog 35 [.pv (zs l),.pv (Z n)] [] [] (.pv (B (bJ l n))):=by
 rw [show bJ l n=(decide (l.length=n) && (List.range n).all fun k=>l.contains (k : Int)) from rfl]
 obtain ⟨p,hp⟩ : ∃ p,p=fun k : Nat=>l.contains (k : Int):=⟨_,rfl⟩
 rw [← hp]
 obtain ⟨R,hR⟩ : ∃ R,(List.range n).all p=R:=⟨_,rfl⟩
 rw [hR]
 refine Dp Try.func35 ?_
 intro C hP hN
 simp only [Try.f35] at hN ⊢
 by_cases hlen : l.length=n
 ·rw [decide_eq_true hlen,Bool.true_and]
  have hlz : ((l.length : Nat) : Int)=(n : Int):=by omega
  with_reducible repeat' (first|refine Sp.h ?_|((first|refine Ss.h ?_|(refine Sb.h ?_ ?_ ?_<;>(try intro hgd)<;>try exact Xy))<;>simp -implicitDefEqProofs (maxSteps:=2000000) [hP,hN,hlen,hlz])|refine X2 ?_ ?_|(refine Xd ?_ ?_<;>intro hcd<;>try exact Xx))
  refine WP.loopN [] n (fun i st=>st.t 0=.pv (zs l)∧st.t 10=.pv (Z n)∧st.t 11=.pv (Z i)∧tA p i) (by simp [cJ]) ?_
  rintro i st hi ⟨g0,g10,g11,hq⟩
  by_cases hlt : i < n
  ·have hw:=ak hlt (by omega)
   have hn:=cK (p:=p) hq
   have hh:=cL (p:=p) hlt
   rw [hR] at hh
   have cc:=vx l i hl
   rw [show l.contains (i : Int)=p i by rw [hp]] at cc
   cases h9 : p i with
   |true=>
    rw [h9] at cc
    have hn9:=hn h9
    with_reducible repeat' (first|refine Sp.h ?_|((first|refine Ss.h ?_|refine Sc.h (cc) ?_|(refine Sb.h ?_ ?_ ?_<;>(try intro hgd)<;>try exact Xy))<;>simp -implicitDefEqProofs (maxSteps:=2000000) [hP,hN,g0,g10,g11,hlt,hw])|refine X2 ?_ ?_|(refine Xd ?_ ?_<;>intro hcd<;>try exact Xx))
    all_goals exact hn9
   |false=>
    rw [h9] at cc
    rw [hh h9]
    with_reducible repeat' (first|refine Sp.h ?_|((first|refine Ss.h ?_|refine Sc.h (cc) ?_|(refine Sb.h ?_ ?_ ?_<;>(try intro hgd)<;>try exact Xy))<;>simp -implicitDefEqProofs (maxSteps:=2000000) [hP,hN,g0,g10,g11,hlt,hw])|refine X2 ?_ ?_|(refine Xd ?_ ?_<;>intro hcd<;>try exact Xx))
  ·rw [dv hq hlt] at hR
   rw [← hR]
   with_reducible repeat' (first|refine Sp.h ?_|((first|refine Ss.h ?_|(refine Sb.h ?_ ?_ ?_<;>(try intro hgd)<;>try exact Xy))<;>simp -implicitDefEqProofs (maxSteps:=2000000) [hP,hN,g0,g10,g11,hlt])|refine X2 ?_ ?_|(refine Xd ?_ ?_<;>intro hcd<;>try exact Xx))
 ·rw [decide_eq_false hlen,Bool.false_and]
  have hlz : ¬ ((l.length : Nat) : Int)=(n : Int):=by omega
  with_reducible repeat' (first|refine Sp.h ?_|((first|refine Ss.h ?_|(refine Sb.h ?_ ?_ ?_<;>(try intro hgd)<;>try exact Xy))<;>simp -implicitDefEqProofs (maxSteps:=2000000) [hP,hN,hlen,hlz])|refine X2 ?_ ?_|(refine Xd ?_ ?_<;>intro hcd<;>try exact Xx))
end Go.Ab
namespace Go.Ab
open Go.Proofs
theorem n6 : ∀ (n : Nat) (l : List Int),l.length≤n→(∀ k,k < n→((k : Nat) : Int) ∈ l)→l.Nodup∧∀ x ∈ l,0≤x∧x < n:=by
 intro n
 induction n with
 |zero=>intro l hl _;have : l=[]:=List.length_eq_zero_iff.1 (by omega)
        subst this;simp
 |succ n ih=>
  intro l hl hm
  have hmem:=hm n (by omega)
  have he : (l.erase ((n : Nat) : Int)).length=l.length - 1:=List.length_erase_of_mem hmem
  obtain ⟨h1,h2⟩:=ih (l.erase ((n : Nat) : Int)) (by omega) (fun k hk=>by
   rw [List.mem_erase_of_ne (by omega)];exact hm k (by omega))
  refine ⟨(List.perm_cons_erase hmem).nodup_iff.2 (List.nodup_cons.2 ⟨fun h=>?_,h1⟩),fun x hx=>?_⟩
  ·have:=h2 _ h;omega
  ·by_cases e : x=(n : Nat)
   ·omega
   ·have:=h2 x ((List.mem_erase_of_ne e).2 hx);omega
theorem sF {order : List Int} {n : Nat} (h : bJ order n=true) : (order.map Int.toNat).Nodup:=by
 simp only [bJ,Bool.and_eq_true,decide_eq_true_eq,List.all_eq_true,List.mem_range,List.contains_iff_mem] at h
 obtain ⟨h1,h2⟩:=n6 n order (by omega) h.2
 show List.Pairwise _ _
 rw [List.pairwise_map]
 refine List.Pairwise.imp_of_mem (fun {a b} ha hb hab=>?_) h1
 have:=h2 a ha;have:=h2 b hb
 omega
theorem mN : ∀ (pl : List (List Int)) (m x : Nat),pl.foldl (fun m l=>max m (aH l)) (max m x)=max (pl.foldl (fun m l=>max m (aH l)) m) x
 |[],m,x=>rfl
 |a :: r,m,x=>by
  rw [List.foldl_cons,List.foldl_cons,show max (max m x) (aH a)=max (max m (aH a)) x by omega,mN]
theorem n7 : ∀ {pl : List (List Int)} {k : Nat} {l : List Int} (m : Nat),pl[k]?=some []→(pl.set k l).foldl (fun m l=>max m (aH l)) m=max (pl.foldl (fun m l=>max m (aH l)) m) (aH l)
 |[],k,l,m,h=>by simp at h
 |a :: r,0,l,m,h=>by
  simp only [List.getElem?_cons_zero,Option.some.injEq] at h
  subst h
  rw [List.set_cons_zero,List.foldl_cons,List.foldl_cons,mN]
  have : aH []=0:=rfl
  rw [this,Nat.max_zero]
 |a :: r,k+1,l,m,h=>by
  rw [List.set_cons_succ,List.foldl_cons,List.foldl_cons]
  exact n7 _ (by simpa using h)
theorem qD {pl : List (List Int)} {k : Nat} {l : List Int} (h : pl[k]?=some []) : aY (pl.set k l)=max (aY pl) (aH l):=n7 1 h
theorem mO (l : List Int) : ∀ i,fh l i≤i
 |0=>Nat.le_refl _
 |i+1=>by
  rw [fh];split
  ·have:=mO l i;omega
  ·exact Nat.le_refl _
theorem sG (l : List Int) : aH l≤l.length - 1:=mO _ _
theorem pP (n : Nat) : aY (List.replicate n [])=1:=by
 unfold aY
 induction n with
 |zero=>rfl
 |succ n ih=>rw [List.replicate_succ,List.foldl_cons];exact ih
theorem rq {pl : List (List Int)} {T : Nat} (h1 : 1≤T) (h : ∀ l ∈ pl,l.length≤T+1) : aY pl≤T:=by
 obtain ⟨_,_,h3⟩:=fL aH pl 1
 unfold aY
 rcases h3 with h3|⟨x,hx,h3⟩
 ·omega
 ·have:=h x hx
  have:=sG x
  omega
structure PIn (t : aU) (T : Nat) (ks : List Nat) (j : Nat) (pl : List (List Int)) : Prop where
 ok : gD t T pl
 done : ∀ i,i < j→∀ k,ks[i]?=some k→∃ l,pl[k]?=some l∧l≠[]
 todo : ∀ i,j≤i→∀ k,ks[i]?=some k→pl[k]?=some []
theorem PIn.init {t : aU} {T : Nat} {ks : List Nat} (hk : ∀ k ∈ ks,k < t.maps.length) : PIn t T ks 0 (List.replicate t.maps.length []):=
 ⟨gD.init t T,fun i h=>absurd h (Nat.not_lt_zero _),fun i _ k h=>by simp [hk k (List.mem_of_getElem? h)]⟩
theorem PIn.set {t : aU} {T : Nat} {ks : List Nat} {j k : Nat} {pl : List (List Int)} {l : List Int} (hn : ks.Nodup) (h : PIn t T ks j pl) (hj : ks[j]?=some k) (hl : l.length=T+1) : PIn t T ks (j+1) (pl.set k l):=by
 have inj : ∀ i i',ks[i]?=some k→ks[i']?=some k→i=i':=fun i i' h1 h2=>by
  have hlt:=(List.getElem?_eq_some_iff.1 h1).1
  exact (List.getElem?_inj hlt hn).1 (h1.trans h2.symm)
 have hlt : k < pl.length:=(List.getElem?_eq_some_iff.1 (h.todo j (Nat.le_refl _) k hj)).1
 have hl0 : l≠[]:=by intro e;subst e;simp at hl
 refine ⟨h.ok.set hl,fun i hi k' hk'=>?_,fun i hi k' hk'=>?_⟩
 ·by_cases e : k'=k
  ·subst e;exact ⟨l,by rw [List.getElem?_set,if_pos rfl,if_pos hlt],hl0⟩
  ·have hij : i≠j:=by rintro rfl;rw [hj] at hk';injection hk' with hk';exact e hk'.symm
   rw [List.getElem?_set,if_neg (fun e'=>e e'.symm)]
   exact h.done i (by omega) k' hk'
 ·have e : k'≠k:=by rintro rfl;have:=inj i j hk' hj;omega
  rw [List.getElem?_set,if_neg (fun e'=>e e'.symm)]
  exact h.todo i (by omega) k' hk'
abbrev r8 (o : Option (List (List Int))) : PV:=.tup (match o with|some p=>[.sl (p.map zs),B true]|none=>[.sl [],B false])
def dC (pl : List (List Int)) : List AV:=pl.map fun l=>match l with|[]=>bf|a :: r=>.pv (zs (a :: r))
theorem sH (pl : List (List Int)) : (dC pl).length=pl.length:=by simp [dC]
theorem o8 (h : Hp) : ∀ pl : List (List Int),bh h (dC pl)=some (pl.map zs,[])
 |[]=>rfl
 |l :: r=>by
  have:=o8 h r
  unfold dC at this ⊢
  rw [List.map_cons,bh,this]
  cases l<;>rfl
theorem n8 : ∀ pl : List (List Int),(dC pl).flatMap eu=[]
 |[]=>rfl
 |l :: r=>by
  have:=n8 r
  unfold dC at this ⊢
  rw [List.map_cons,List.flatMap_cons,this]
  cases l<;>rfl
theorem kA (ks : List Nat) : ∀ pl : List (List Int),(dC pl).map (bc ks)=dC pl
 |[]=>rfl
 |l :: r=>by
  have:=kA ks r
  unfold dC at this ⊢
  rw [List.map_cons,List.map_cons,this]
  cases l<;>rfl
theorem rr (n : Nat) : List.replicate n bf=dC (List.replicate n []):=by simp [dC]
theorem sI {pl : List (List Int)} {k : Nat} {l : List Int} (h : l≠[]) : (dC pl).set k (.pv (zs l))=dC (pl.set k l):=by
 cases l with
 |nil=>exact absurd rfl h
 |cons a r=>unfold dC;rw [List.map_set]
theorem t7 {l : List Int} {k : Nat} (hk : k≤l.length) (z : Option Value) (e n : Nat) (y : Option Value) : f0 { size:=n,zero:=z,kind:=TK.slice e 1 8 y } (.pv (zs l)) none (some (.pv (.val (.int .i64 (k : Int)))))=some (.pv (zs (l.take k))):=by
 have h0 : (0 : Int)≤(k : Int):=by omega
 have h3 : 0≤k∧k≤(l.map Z).length∧0 < 1∧(l.map Z).all (iO 1)=true:=⟨Nat.zero_le _,by simpa using hk,by decide,by rw [List.all_eq_true];intro x hx;obtain ⟨v,_,rfl⟩:=List.mem_map.1 hx;rfl⟩
 simp only [f0,if_pos h0,Int.toNat_natCast,if_pos h3,List.drop_zero,zs,List.map_take]
def d8 (pl : List (List Int)) (L c : Nat) : List AV:=(List.range pl.length).map fun w=>.pv (zs (if w < c then ((pl[w]?).getD []).take L else (pl[w]?).getD []))
theorem o9 (pl : List (List Int)) (L c : Nat) : (d8 pl L c).length=pl.length:=by simp [d8]
theorem n9 (ks : List Nat) (pl : List (List Int)) (L c : Nat) : (d8 pl L c).map (bc ks)=d8 pl L c:=by
 unfold d8;rw [List.map_map]
 exact List.map_congr_left fun w _=>by simp [eX,bp]
theorem rt {pl : List (List Int)} {L : Nat} (h : ∀ l ∈ pl,l≠[]) : dC pl=d8 pl L 0:=by
 apply List.ext_getElem?
 intro w
 by_cases hw : w < pl.length
 ·have h9:=h _ (List.getElem_mem hw)
  simp only [dC,d8,List.getElem?_map,List.getElem?_eq_getElem hw,List.getElem?_range hw,Option.map_some,Option.getD_some,Nat.not_lt_zero,if_false]
  generalize pl[w]=l at *
  cases l with
  |nil=>exact absurd rfl h9
  |cons a r=>rfl
 ·simp [dC,d8,hw]
theorem tF {pl : List (List Int)} {L c : Nat} {l : List Int} (h : pl[c]?=some l) : (d8 pl L c)[c]?=some (.pv (zs l)):=by
 obtain ⟨h1,h2⟩:=List.getElem?_eq_some_iff.1 h
 simp [d8,h1,h2]
theorem sJ {pl : List (List Int)} {L c : Nat} {l : List Int} (h : pl[c]?=some l) : (d8 pl L c).set c (.pv (zs (l.take L)))=d8 pl L (c+1):=by
 apply List.ext_getElem?
 intro w
 rw [List.getElem?_set,o9]
 by_cases hw : w < pl.length
 ·by_cases e : c=w
  ·subst e;simp [d8,hw,(List.getElem?_eq_some_iff.1 h).2]
  ·simp [d8,hw,e,show (w < c+1↔w < c) by omega]
 ·by_cases e : c=w
  ·subst e;simp [d8,hw]
  ·simp [d8,hw,e]
theorem sK (h : Hp) (pl : List (List Int)) (L : Nat) : bh h (d8 pl L pl.length)=some ((List.range pl.length).map fun w=>zs (((pl[w]?).getD []).take L),[]):=by
 have key : ∀ (l : List Nat) (f : Nat→List Int),bh h (l.map fun w=>AV.pv (zs (f w)))=some (l.map fun w=>zs (f w),[]):=by
  intro l f
  induction l with
  |nil=>rfl
  |cons a l ih=>rw [List.map_cons,bh,ih];rfl
 rw [d8,List.map_congr_left (g:=fun w=>AV.pv (zs (((pl[w]?).getD []).take L))) (fun w hw=>by rw [if_pos (List.mem_range.1 hw)]),key]
theorem qE (t : aU) (starts goals order : List Int) (ticks : Int) (ht : TmOk t) (hl : order.length≤9223372036854775807) : am Try.prog 20 [.pv (bR t),.pv (zs starts),.pv (zs goals),.pv (zs order),.pv (Z ticks)] [] [] (.pv (r8 (bd t starts goals order ticks))):=by
 have cc:=tM t ht
 have cs:=uw t starts ht
 have cg:=uw t goals ht
 have cp:=vy order t.maps.length hl
 by_cases hpre : gS t starts goals order ticks=true
 ·obtain ⟨hchk,hcf,hs,hg,htk,hpm,hpos⟩:=dU hpre
  rw [hchk] at cc;rw [hs] at cs;rw [hg] at cg;rw [hpm] at cp
  obtain ⟨T,rfl⟩ : ∃ T : Nat,ticks=T:=⟨ticks.toNat,by omega⟩
  have hcf2:=hchk
  simp only [aG,Bool.and_eq_true,decide_eq_true_eq] at hcf2
  obtain ⟨_,hn4,hcl,hwell,_⟩:=hcf2
  have t1 : ¬ (T : Int) < 1:=by omega
  have t2 : ¬ (64 : Int) < (T : Int):=by omega
  obtain ⟨n,hn⟩ : ∃ n,n=t.maps.length:=⟨_,rfl⟩
  obtain ⟨ks,hks⟩ : ∃ ks,ks=order.map Int.toNat:=⟨_,rfl⟩
  obtain ⟨step,hstep⟩ : ∃ step,step=fun plan k=>dr t plan k (aP starts k) (aP goals k) T:=⟨_,rfl⟩
  have hPl : bd t starts goals order T=(bD step ks (List.replicate n [])).map bE:=by
   rw [bd,if_pos hpre,hstep,hks,hn];rfl
  have hnd:=sF hpm
  have hkl:=gf hpm
  rw [← hks] at hnd hkl
  rw [hPl]
  have q1 : ((n : Int)) * 24≤281474976710656:=by omega
  have q2 : (24 * (n : Int))≤281474976710656:=by omega
  have q3 : (n : Int)≤9223372036854775807:=by omega
  obtain ⟨rs,hrs⟩ : ∃ rs,rs=List.replicate n bf:=⟨_,rfl⟩
  rw [← hn] at cp
  refine Dp Try.func20 ?_
  intro C hP hN
  simp only [Try.f20] at hN ⊢
  with_reducible repeat' (first|refine Sp.h ?_|((first|refine Wh [1000052] ?_|refine Wi [1000052] ?_|refine Ss.h ?_|refine Sc.h (cc) ?_|refine Sc.h (cs) ?_|refine Sc.h (cg) ?_|refine Sc.h (cp) ?_|(refine Sb.h ?_ ?_ ?_<;>(try intro hgd)<;>try exact Xy))<;>simp -implicitDefEqProofs (maxSteps:=2000000) [hP,hN,t1,t2,hn.symm,q1,q2,q3,← hrs]<;>try refine Ya ?_)|refine X2 ?_ ?_|(refine Xd ?_ ?_<;>intro hcd<;>try exact Xx))
  obtain ⟨RES,hRES⟩ : ∃ RES,bD step ks (List.replicate n [])=RES:=⟨_,rfl⟩
  rw [hRES]
  have hol : order.length=n:=by
   have:=hpm
   simp only [bJ,Bool.and_eq_true,decide_eq_true_eq] at this
   rw [hn];exact this.1
  have hsl : starts.length=n:=by simp only [bL,Bool.and_eq_true,decide_eq_true_eq] at hs;rw [hn];exact hs.1
  have hgl : goals.length=n:=by simp only [bL,Bool.and_eq_true,decide_eq_true_eq] at hg;rw [hn];exact hg.1
  rw [hol,hrs,rr]
  refine WP.loopN [16] n (fun j st=>st.t 5=.ptr 5 0∧st.h 5=some (.box [.pv (.sl (t.maps.map aV)),.pv (.sl (t.conf.map ba))] true false)∧st.t 1=.pv (zs starts)∧st.t 2=.pv (zs goals)∧st.t 4=.pv (Z T)∧st.t 12=.ext (.barr 52 n)∧st.t 53=.pv (zs order)∧st.t 54=.pv (Z n)∧st.t 55=.pv (Z j)∧st.h 16=none∧∃ pl,st.t 13=.pv (Z (aY pl))∧st.h 52=some (.box (dC pl) true false)∧PIn t T ks j pl∧bD step (ks.drop j) pl=RES) (by
   simp [kA]
   exact ⟨_,by rw [pP];rfl,rfl,by rw [hn];exact PIn.init hkl,hRES⟩) ?_
  rintro j st hj ⟨g5,b5,g1,g2,g4,g12,g53,g54,g55,b16,pl,g13,b52,hin,hgo⟩
  by_cases hlt : j < n
  ·have hwj:=ak hlt (by omega)
   have hjo : j < order.length:=by omega
   have haj:=bG hjo
   have hksj : ks[j]?=some order[j].toNat:=by rw [hks,List.getElem?_map,haj];rfl
   have hk:=hkl _ (List.mem_of_getElem? hksj)
   have hz0 : 0≤order[j]:=by
    have:=hpm
    simp only [bJ,Bool.and_eq_true,decide_eq_true_eq,List.all_eq_true,List.mem_range,List.contains_iff_mem] at this
    exact ((n6 _ _ (by omega) this.2).2 _ (List.getElem_mem hjo)).1
   generalize hzj : order[j]=z at *
   obtain ⟨k,rfl⟩ : ∃ k : Nat,z=k:=⟨z.toNat,by omega⟩
   rw [Int.toNat_natCast] at hksj hk
   have hkn : k < n:=by omega
   have hdrop : ks.drop j=k :: ks.drop (j+1):=by
    have hjk:=(List.getElem?_eq_some_iff.1 hksj)
    rw [List.drop_eq_getElem_cons hjk.1,hjk.2]
   rw [hdrop,bD] at hgo
   have hxi : t.maps[k]?=some t.maps[k]:=List.getElem?_eq_getElem hk
   have hwl : aS t.maps[k]=true:=List.all_eq_true.1 hwell _ (List.getElem_mem hk)
   generalize hx : t.maps[k]=m at *
   obtain ⟨e1,e2⟩:=fJ hxi
   have hw9:=hwl
   simp only [aS,Bool.and_eq_true,decide_eq_true_eq] at hw9
   have c1:=vi m hwl
   obtain ⟨ns,hns⟩ : ∃ ns,ns=(List.range m.np.length).map fun v=>zs (fI m v):=⟨_,rfl⟩
   rw [← hns] at c1
   have hnsl : ns.length=a8 t k:=by rw [hns,e1];simp
   have hnsv : ∀ v,v < a8 t k→ns[v]?=some (zs ((bB (fK t k) (a8 t k) v).map fun u=>((u : Nat) : Int))):=by
    intro v hv
    rw [e1] at hv
    rw [hns,← tn hxi hv,← tm hwl hv];simp [hv]
   have c2:=vk t pl k T hchk hcl (by rw [hin.ok.1]) hin.ok.2 (by omega)
   have hsk:=bb hs hk
   have hgk:=bb hg hk
   have c3:=vu (a8 t k) (fK t k) (ik t pl k) ns (aP starts k) (aP goals k) T 54 (.sl (gA t.conf pl k T)) hnsl hnsv (by rw [e1];exact hw9.1) (by omega) hsk hgk (by
    intro i v u hi hv hu
    have:=vj (gA t.conf pl k T) i v u (e8 t.conf pl k i t.conf.length) (t.conf.any (jx pl k i v u)) (by simp [gA,hi]) (by have h9:=o3 t.conf pl k i v u t.conf.length;rw [List.take_length] at h9;exact h9)
    exact this)
   rw [show jX (a8 t k) (fK t k) (ik t pl k) (aP starts k) (aP goals k) T=step pl k by rw [hstep];rfl] at c3
   have hks1 : k < starts.length:=by omega
   have hkg1 : k < goals.length:=by omega
   have hsz : starts[k]?=some ((aP starts k : Nat) : Int):=by
    have:=hs
    simp only [bL,Bool.and_eq_true,decide_eq_true_eq,List.all_eq_true,List.mem_range] at this
    have h8:=this.2 k (by omega)
    rw [aD] at h8
    unfold aP
    rw [bG hks1] at h8 ⊢
    simp only [Option.getD_some] at h8 ⊢
    rw [Int.toNat_of_nonneg h8.1]
   have hgz : goals[k]?=some ((aP goals k : Nat) : Int):=by
    have:=hg
    simp only [bL,Bool.and_eq_true,decide_eq_true_eq,List.all_eq_true,List.mem_range] at this
    have h8:=this.2 k (by omega)
    rw [aD] at h8
    unfold aP
    rw [bG hkg1] at h8 ⊢
    simp only [Option.getD_some] at h8 ⊢
    rw [Int.toNat_of_nonneg h8.1]
   have hsz' : ∀ h,starts[k]'h=((aP starts k : Nat) : Int):=fun h=>(List.getElem?_eq_some_iff.1 hsz).2
   have hgz' : ∀ h,goals[k]'h=((aP goals k : Nat) : Int):=fun h=>(List.getElem?_eq_some_iff.1 hgz).2
   have hfz:=fun h=>o8 h pl
   have hrf:=n8 pl
   have hcl9 : (dC pl).length=n:=by rw [sH,hin.ok.1,hn]
   have hsetC:=fun (l : List Int) (h : l≠[])=>sI (pl:=pl) (k:=k) h
   have hkz : (k : Int) < (n : Int):=by omega
   have hk1n : k+1≤n:=by omega
   have hspl : ∀ x,(dC pl).take k++x :: (dC pl).drop (k+1)=(dC pl).set k x:=fun x=>b8 (by omega)
   have hstl:=fun l (h : step pl k=some l)=>m7 (t:=t) (by rw [hstep] at h;exact h)
   have hckk:=fun ks=>kA ks pl
   generalize aP starts k=s0 at *
   generalize aP goals k=g0 at *
   generalize hst : step pl k=sr at *
   cases sr with
   |none=>
    generalize dC pl=cs at *
    have : RES=none:=hgo.symm
    subst this
    with_reducible repeat' (first|refine Sp.h ?_|((first|refine Wd ?_|refine Ss.h ?_|refine Sc.h (c1) ?_|refine Sc.h (c2) ?_|refine Sc.h (c3) ?_|(refine Sb.h ?_ ?_ ?_<;>(try intro hgd)<;>try exact Xy))<;>simp -implicitDefEqProofs (maxSteps:=2000000) [hP,hN,g5,b5,g1,g2,g4,g12,g53,g54,g55,b16,g13,b52,hlt,haj,hjo,hzj,hx,hxi,hk,hkn,hks1,hkg1,hsz,hgz,hsz',hgz',hfz,hrf,hcl9]<;>try refine Ya ?_)|refine X2 ?_ ?_|(refine Xd ?_ ?_<;>intro hcd<;>try exact Xx))
    trace_state
   |some l=>
    have hll:=hstl l rfl
    have hl0 : l≠[]:=by intro e;subst e;simp at hll
    have c4:=vM l (by omega)
    have hin':=hin.set hnd hksj hll
    have hlb:=qD (l:=l) (hin.todo j (Nat.le_refl _) k hksj)
    have hsetC':=hsetC l hl0
    obtain ⟨cs,hcs⟩ : ∃ cs,cs=dC pl:=⟨_,rfl⟩
    rw [← hcs] at hfz hrf hcl9 hspl hckk hsetC' b52
    with_reducible repeat' (first|refine Sp.h ?_|((first|refine Wd ?_|refine Ss.h ?_|refine Sc.h (c1) ?_|refine Sc.h (c2) ?_|refine Sc.h (c3) ?_|refine Sc.h (c4) ?_|(refine Sb.h ?_ ?_ ?_<;>(try intro hgd)<;>try exact Xy))<;>simp -implicitDefEqProofs (maxSteps:=2000000) [hP,hN,g5,b5,g1,g2,g4,g12,g53,g54,g55,b16,g13,b52,hlt,haj,hjo,hzj,hx,hxi,hk,hkn,hks1,hkg1,hsz,hgz,hsz',hgz',hfz,hrf,hcl9,hkz,hk1n,hspl,hwj]<;>try refine Ya ?_)|refine X2 ?_ ?_|(refine Xd ?_ ?_<;>intro hcd<;>try exact Xx))
    exact ⟨pl.set k l,by rw [hlb];split<;>omega,by rw [hckk,hsetC'],hin',hgo⟩
  ·have hjn : j=n:=by omega
   subst hjn
   have hkl9 : ks.length=j:=by rw [hks,List.length_map,hol]
   rw [List.drop_of_length_le (by omega)] at hgo
   have hR : RES=some pl:=hgo.symm
   subst hR
   have hpl : pl.length=j:=by rw [hin.ok.1,hn]
   have full : ∀ k,k < j→∃ l,pl[k]?=some l∧l.length=T+1:=fun k hk=>by
    have hm:=fq hpm k (by omega)
    rw [← hks] at hm
    obtain ⟨i,hi⟩:=List.mem_iff_getElem?.1 hm
    obtain ⟨l,h1,h2⟩:=hin.done i (by have:=(List.getElem?_eq_some_iff.1 hi).1;omega) k hi
    rcases hin.ok.2 l (List.mem_of_getElem? h1) with h|h
    ·exact absurd h h2
    ·exact ⟨l,h1,h⟩
   have hL:=rq (pl:=pl) (T:=T) (by omega) (fun l hl=>by
    rcases hin.ok.2 l hl with h|h
    ·rw [h];exact Nat.zero_le _
    ·omega)
   have hlen0 : ∀ l ∈ pl,l≠[]:=fun l hl=>by
    obtain ⟨k,hk⟩:=List.mem_iff_getElem?.1 hl
    obtain ⟨l',h1,h2⟩:=full k (by have:=(List.getElem?_eq_some_iff.1 hk).1;omega)
    rw [hk] at h1;injection h1 with h1;subst h1
    intro e;subst e;simp at h2
   rw [rt (L:=aY pl+1) hlen0] at b52
   have htr : (bE pl).map zs=(List.range j).map fun w=>zs (((pl[w]?).getD []).take (aY pl+1)):=by
    rw [bE,← hpl]
    apply List.ext_getElem?
    intro w
    by_cases hw : w < pl.length
    ·simp [hw]
    ·simp [hw]
   rw [Option.map_some]
   show WP C _ (_ : Exit→St→Prop) st
   rw [show r8 (some (bE pl))=.tup [.sl ((List.range j).map fun w=>zs (((pl[w]?).getD []).take (aY pl+1))),B true] by rw [← htr]]
   generalize aY pl=L at *
   obtain ⟨L1,hL1⟩ : ∃ L1,L1=L+1:=⟨_,rfl⟩
   rw [← hL1] at b52 ⊢
   have hwL : IntKind.i64.wrap ((L : Int)+1)=(L1 : Int):=by rw [IntKind.wrap_i64];omega
   with_reducible repeat' (first|refine Sp.h ?_|((first|refine Wd ?_|refine Ss.h ?_|(refine Sb.h ?_ ?_ ?_<;>(try intro hgd)<;>try exact Xy))<;>simp -implicitDefEqProofs (maxSteps:=2000000) [hP,hN,g5,b5,g12,g53,g54,g55,g13,b52,hlt]<;>try refine Ya ?_)|refine X2 ?_ ?_|(refine Xd ?_ ?_<;>intro hcd<;>try exact Xx))
   refine WP.loopN [] j (fun c st=>st.t 12=.ext (.barr 52 j)∧st.t 13=.pv (Z L)∧st.t 97=.pv (Z j)∧st.t 98=.pv (Z c)∧st.h 52=some (.box (d8 pl L1 c) true false)) (by simp [n9,g12,g13,b52]) ?_
   clear g5 b5 g1 g2 g4 g12 g53 g54 g55 b16 g13 b52 st
   rintro c st hc ⟨g12,g13,g97,g98,b52⟩
   have hckk:=fun ks=>n9 ks pl L1 c
   have hcl9 : (d8 pl L1 c).length=j:=by rw [o9,hpl]
   by_cases hcl : c < j
   ·have hwc:=ak hcl (by omega)
    obtain ⟨l,hx,hll⟩:=full c hcl
    have hat:=tF (L:=L1) hx
    have hset:=sJ (L:=L1) hx
    obtain ⟨cs,hcs⟩ : ∃ cs,cs=d8 pl L1 c:=⟨_,rfl⟩
    rw [← hcs] at hat hset b52 hckk hcl9
    have hat' : ∀ h,cs[c]'h=.pv (zs l):=fun h=>(List.getElem?_eq_some_iff.1 hat).2
    have hspl : ∀ x,cs.take c++x :: cs.drop (c+1)=cs.set c x:=fun x=>b8 (by omega)
    have hc1 : c+1≤j:=by omega
    have hcz : (c : Int) < (j : Int):=by omega
    have hL2 : L1≤l.length:=by omega
    have hL3 : (L1 : Int)≤(l.length : Int):=by omega
    have hzt : (zs (l.take L1))=.sl ((l.map Z).take L1):=by rw [zs,List.map_take]
    with_reducible repeat' (first|refine Sp.h ?_|((first|refine Wd ?_|refine Ss.h ?_|(refine Sb.h ?_ ?_ ?_<;>(try intro hgd)<;>try exact Xy))<;>simp -implicitDefEqProofs (maxSteps:=2000000) [hP,hN,g12,g13,g97,g98,b52,hcl,hwc,hat,hat',hspl,hc1,hcz,hcl9,hwL,hL2,hL3,t7 hL2]<;>try refine Ya ?_)|refine X2 ?_ ?_|(refine Xd ?_ ?_<;>intro hcd<;>try exact Xx))
    rw [hckk,hset]
   ·have hcj : c=j:=by omega
    subst hcj
    have hfz:=fun h=>sK h pl L1
    rw [hpl] at hfz
    obtain ⟨cs,hcs⟩ : ∃ cs,cs=d8 pl L1 c:=⟨_,rfl⟩
    rw [← hcs] at hfz b52 hckk hcl9
    with_reducible repeat' (first|refine Sp.h ?_|((first|refine Wd ?_|refine Ss.h ?_|(refine Sb.h ?_ ?_ ?_<;>(try intro hgd)<;>try exact Xy))<;>simp -implicitDefEqProofs (maxSteps:=2000000) [hP,hN,g12,g13,g97,g98,b52,hcl,hcl9,hfz]<;>try refine Ya ?_)|refine X2 ?_ ?_|(refine Xd ?_ ?_<;>intro hcd<;>try exact Xx))
 ·have hnone : bd t starts goals order ticks=none:=by rw [bd,if_neg hpre]
  rw [hnone]
  have hpre' : ¬ (aG t && (bL t starts && (bL t goals && (decide (1≤ticks) && (decide (ticks≤64) && bJ order t.maps.length)))))=true:=hpre
  generalize aG t=v1 at *
  generalize bL t starts=v2 at *
  generalize bL t goals=v3 at *
  generalize bJ order t.maps.length=v4 at *
  refine Dp Try.func20 ?_
  intro C hP hN
  simp only [Try.f20] at hN ⊢
  cases v1 with
  |false=>
   with_reducible repeat' (first|refine Sp.h ?_|((first|refine Wd ?_|refine Ss.h ?_|refine Sc.h (cc) ?_|refine Sc.h (cs) ?_|refine Sc.h (cg) ?_|refine Sc.h (cp) ?_|(refine Sb.h ?_ ?_ ?_<;>(try intro hgd)<;>try exact Xy))<;>simp -implicitDefEqProofs (maxSteps:=2000000) [hP,hN]<;>try refine Ya ?_)|refine X2 ?_ ?_|(refine Xd ?_ ?_<;>intro hcd<;>try exact Xx))
  |true=>
   cases v2 with
   |false=>
    with_reducible repeat' (first|refine Sp.h ?_|((first|refine Wd ?_|refine Ss.h ?_|refine Sc.h (cc) ?_|refine Sc.h (cs) ?_|refine Sc.h (cg) ?_|refine Sc.h (cp) ?_|(refine Sb.h ?_ ?_ ?_<;>(try intro hgd)<;>try exact Xy))<;>simp -implicitDefEqProofs (maxSteps:=2000000) [hP,hN]<;>try refine Ya ?_)|refine X2 ?_ ?_|(refine Xd ?_ ?_<;>intro hcd<;>try exact Xx))
   |true=>
    cases v3 with
    |false=>
     with_reducible repeat' (first|refine Sp.h ?_|((first|refine Wd ?_|refine Ss.h ?_|refine Sc.h (cc) ?_|refine Sc.h (cs) ?_|refine Sc.h (cg) ?_|refine Sc.h (cp) ?_|(refine Sb.h ?_ ?_ ?_<;>(try intro hgd)<;>try exact Xy))<;>simp -implicitDefEqProofs (maxSteps:=2000000) [hP,hN]<;>try refine Ya ?_)|refine X2 ?_ ?_|(refine Xd ?_ ?_<;>intro hcd<;>try exact Xx))
    |true=>
     by_cases h1 : ticks < 1
     ·skip
      with_reducible repeat' (first|refine Sp.h ?_|((first|refine Wd ?_|refine Ss.h ?_|refine Sc.h (cc) ?_|refine Sc.h (cs) ?_|refine Sc.h (cg) ?_|refine Sc.h (cp) ?_|(refine Sb.h ?_ ?_ ?_<;>(try intro hgd)<;>try exact Xy))<;>simp -implicitDefEqProofs (maxSteps:=2000000) [hP,hN,h1]<;>try refine Ya ?_)|refine X2 ?_ ?_|(refine Xd ?_ ?_<;>intro hcd<;>try exact Xx))
     ·by_cases h2 : 64 < ticks
      ·skip
       with_reducible repeat' (first|refine Sp.h ?_|((first|refine Wd ?_|refine Ss.h ?_|refine Sc.h (cc) ?_|refine Sc.h (cs) ?_|refine Sc.h (cg) ?_|refine Sc.h (cp) ?_|(refine Sb.h ?_ ?_ ?_<;>(try intro hgd)<;>try exact Xy))<;>simp -implicitDefEqProofs (maxSteps:=2000000) [hP,hN,h1,h2]<;>try refine Ya ?_)|refine X2 ?_ ?_|(refine Xd ?_ ?_<;>intro hcd<;>try exact Xx))
      ·cases v4 with
       |false=>
        with_reducible repeat' (first|refine Sp.h ?_|((first|refine Wd ?_|refine Ss.h ?_|refine Sc.h (cc) ?_|refine Sc.h (cs) ?_|refine Sc.h (cg) ?_|refine Sc.h (cp) ?_|(refine Sb.h ?_ ?_ ?_<;>(try intro hgd)<;>try exact Xy))<;>simp -implicitDefEqProofs (maxSteps:=2000000) [hP,hN,h1,h2]<;>try refine Ya ?_)|refine X2 ?_ ?_|(refine Xd ?_ ?_<;>intro hcd<;>try exact Xx))
       |true=>exact absurd (by simp;omega) hpre'
end Go.Ab
namespace Go.Ab
open Go.Proofs
def oa {α : Type} [DecidableEq α] (xs ys : List α) (i : Nat) : Bool:=decide (xs[i]?=ys[i]?)
theorem pc {α : Type} [DecidableEq α] {xs ys : List α} (h : xs.length=ys.length) : decide (xs=ys)=(List.range xs.length).all (oa xs ys):=by
 rw [Bool.eq_iff_iff,decide_eq_true_eq,List.all_eq_true]
 constructor
 ·rintro rfl i _;simp [oa]
 ·intro hh
  apply List.ext_getElem?
  intro i
  by_cases hi : i < xs.length
  ·simpa [oa] using hh i (List.mem_range.2 hi)
  ·rw [List.getElem?_eq_none (by omega),List.getElem?_eq_none (by omega)]
theorem vz (xs ys : List Int) (hl : xs.length≤9223372036854775807) : am Try.prog 43 [.pv (zs xs),.pv (zs ys)] [] [] (.pv (B (decide (xs=ys)))):=by
 refine Dp Try.func43 ?_
 intro C hP hN
 simp only [Try.f43] at hN ⊢
 by_cases hlen : xs.length=ys.length
 ·rw [pc hlen]
  obtain ⟨p,hp⟩ : ∃ p,p=oa xs ys:=⟨_,rfl⟩
  rw [← hp]
  obtain ⟨R,hR⟩ : ∃ R,(List.range xs.length).all p=R:=⟨_,rfl⟩
  rw [hR]
  with_reducible repeat' (first|refine Sp.h ?_|((first|refine Wd ?_|refine Ss.h ?_|(refine Sb.h ?_ ?_ ?_<;>(try intro hgd)<;>try exact Xy))<;>simp -implicitDefEqProofs (maxSteps:=2000000) [hP,hN,hlen]<;>try refine Ya ?_)|refine X2 ?_ ?_|(refine Xd ?_ ?_<;>intro hcd<;>try exact Xx))
  refine WP.loopN [] ys.length (fun i st=>st.t 0=.pv (zs xs)∧st.t 1=.pv (zs ys)∧st.t 5=.pv (Z i)∧tA p i) (by simp [cJ]) ?_
  rintro i st hi ⟨g0,g1,g5,hq⟩
  by_cases hlt : i < ys.length
  ·have hlt1 : i < xs.length:=by omega
   have hw:=ak hlt1 hl
   have hn:=cK (p:=p) hq
   have hh:=cL (p:=p) hlt1
   rw [hR] at hh
   have a1:=bG hlt1
   have a2:=bG hlt
   have hpi : p i=decide (xs[i]=ys[i]):=by rw [hp];simp [oa,a1,a2]
   generalize hx : xs[i]=x at *
   generalize hy : ys[i]=y at *
   by_cases e : x=y
   ·have hn9:=hn (by rw [hpi];simp [e])
    subst e
    with_reducible repeat' (first|refine Sp.h ?_|((first|refine Wd ?_|refine Ss.h ?_|(refine Sb.h ?_ ?_ ?_<;>(try intro hgd)<;>try exact Xy))<;>simp -implicitDefEqProofs (maxSteps:=2000000) [hP,hN,g0,g1,g5,hlt,hlt1,hw,a1,a2,hx,hy,hlen]<;>try refine Ya ?_)|refine X2 ?_ ?_|(refine Xd ?_ ?_<;>intro hcd<;>try exact Xx))
    all_goals exact hn9
   ·rw [hh (by rw [hpi];simp [e])]
    have e1 : (x !=y)=true:=by simp [e]
    have e2 : (x==y)=false:=by simp [e]
    with_reducible repeat' (first|refine Sp.h ?_|((first|refine Wd ?_|refine Ss.h ?_|(refine Sb.h ?_ ?_ ?_<;>(try intro hgd)<;>try exact Xy))<;>simp -implicitDefEqProofs (maxSteps:=2000000) [hP,hN,g0,g1,g5,hlt,hlt1,hw,a1,a2,hx,hy,e,e1,e2,hlen]<;>try refine Ya ?_)|refine X2 ?_ ?_|(refine Xd ?_ ?_<;>intro hcd<;>try exact Xx))
  ·rw [dv hq (show ¬ i < xs.length by omega)] at hR
   rw [← hR]
   with_reducible repeat' (first|refine Sp.h ?_|((first|refine Wd ?_|refine Ss.h ?_|(refine Sb.h ?_ ?_ ?_<;>(try intro hgd)<;>try exact Xy))<;>simp -implicitDefEqProofs (maxSteps:=2000000) [hP,hN,g0,g1,g5,hlt,hlen]<;>try refine Ya ?_)|refine X2 ?_ ?_|(refine Xd ?_ ?_<;>intro hcd<;>try exact Xx))
 ·rw [decide_eq_false (fun e=>hlen (by rw [e]))]
  have hlz : ¬ ((xs.length : Nat) : Int)=((ys.length : Nat) : Int):=by omega
  with_reducible repeat' (first|refine Sp.h ?_|((first|refine Wd ?_|refine Ss.h ?_|(refine Sb.h ?_ ?_ ?_<;>(try intro hgd)<;>try exact Xy))<;>simp -implicitDefEqProofs (maxSteps:=2000000) [hP,hN,hlen,hlz]<;>try refine Ya ?_)|refine X2 ?_ ?_|(refine Xd ?_ ?_<;>intro hcd<;>try exact Xx))
theorem tG (xs ys : List (List Int)) (hl : xs.length≤9223372036854775807) (hx9 : ∀ x ∈ xs,x.length≤9223372036854775807) : am Try.prog 23 [.pv (.sl (xs.map zs)),.pv (.sl (ys.map zs))] [] [] (.pv (B (decide (xs=ys)))):=by
 refine Dp Try.func23 ?_
 intro C hP hN
 simp only [Try.f23] at hN ⊢
 by_cases hlen : xs.length=ys.length
 ·rw [pc hlen]
  obtain ⟨p,hp⟩ : ∃ p,p=oa xs ys:=⟨_,rfl⟩
  rw [← hp]
  obtain ⟨R,hR⟩ : ∃ R,(List.range xs.length).all p=R:=⟨_,rfl⟩
  rw [hR]
  with_reducible repeat' (first|refine Sp.h ?_|((first|refine Wd ?_|refine Ss.h ?_|(refine Sb.h ?_ ?_ ?_<;>(try intro hgd)<;>try exact Xy))<;>simp -implicitDefEqProofs (maxSteps:=2000000) [hP,hN,hlen]<;>try refine Ya ?_)|refine X2 ?_ ?_|(refine Xd ?_ ?_<;>intro hcd<;>try exact Xx))
  refine WP.loopN [] ys.length (fun i st=>st.t 0=.pv (.sl (xs.map zs))∧st.t 1=.pv (.sl (ys.map zs))∧st.t 5=.pv (Z i)∧tA p i) (by simp [cJ]) ?_
  rintro i st hi ⟨g0,g1,g5,hq⟩
  by_cases hlt : i < ys.length
  ·have hlt1 : i < xs.length:=by omega
   have hw:=ak hlt1 hl
   have hn:=cK (p:=p) hq
   have hh:=cL (p:=p) hlt1
   rw [hR] at hh
   have a1 : xs[i]?=some xs[i]:=List.getElem?_eq_getElem hlt1
   have a2 : ys[i]?=some ys[i]:=List.getElem?_eq_getElem hlt
   have hpi : p i=decide (xs[i]=ys[i]):=by rw [hp];simp [oa,a1,a2]
   have cm:=vz xs[i] ys[i] (hx9 _ (List.getElem_mem hlt1))
   rw [← hpi] at cm
   generalize hx : xs[i]=x at *
   generalize hy : ys[i]=y at *
   cases h9 : p i with
   |true=>
    rw [h9] at cm
    have hn9:=hn h9
    with_reducible repeat' (first|refine Sp.h ?_|((first|refine Wd ?_|refine Ss.h ?_|refine Sc.h (cm) ?_|(refine Sb.h ?_ ?_ ?_<;>(try intro hgd)<;>try exact Xy))<;>simp -implicitDefEqProofs (maxSteps:=2000000) [hP,hN,g0,g1,g5,hlt,hlt1,hw,a1,a2,hx,hy,hlen]<;>try refine Ya ?_)|refine X2 ?_ ?_|(refine Xd ?_ ?_<;>intro hcd<;>try exact Xx))
    all_goals exact hn9
   |false=>
    rw [h9] at cm
    rw [hh h9]
    with_reducible repeat' (first|refine Sp.h ?_|((first|refine Wd ?_|refine Ss.h ?_|refine Sc.h (cm) ?_|(refine Sb.h ?_ ?_ ?_<;>(try intro hgd)<;>try exact Xy))<;>simp -implicitDefEqProofs (maxSteps:=2000000) [hP,hN,g0,g1,g5,hlt,hlt1,hw,a1,a2,hx,hy,hlen]<;>try refine Ya ?_)|refine X2 ?_ ?_|(refine Xd ?_ ?_<;>intro hcd<;>try exact Xx))
  ·rw [dv hq (show ¬ i < xs.length by omega)] at hR
   rw [← hR]
   with_reducible repeat' (first|refine Sp.h ?_|((first|refine Wd ?_|refine Ss.h ?_|(refine Sb.h ?_ ?_ ?_<;>(try intro hgd)<;>try exact Xy))<;>simp -implicitDefEqProofs (maxSteps:=2000000) [hP,hN,g0,g1,g5,hlt,hlen]<;>try refine Ya ?_)|refine X2 ?_ ?_|(refine Xd ?_ ?_<;>intro hcd<;>try exact Xx))
 ·rw [decide_eq_false (fun e=>hlen (by rw [e]))]
  have hlz : ¬ ((xs.length : Nat) : Int)=((ys.length : Nat) : Int):=by omega
  with_reducible repeat' (first|refine Sp.h ?_|((first|refine Wd ?_|refine Ss.h ?_|(refine Sb.h ?_ ?_ ?_<;>(try intro hgd)<;>try exact Xy))<;>simp -implicitDefEqProofs (maxSteps:=2000000) [hP,hN,hlen,hlz]<;>try refine Ya ?_)|refine X2 ?_ ?_|(refine Xd ?_ ?_<;>intro hcd<;>try exact Xx))
def nj : aW:=⟨[zs [0],zs [1]],[kE 0 1 1]⟩
def fe : aU:=⟨[nj,nj],[(⟨0,0,1⟩,⟨1,0,1⟩)]⟩
theorem vA : am Try.prog 25 [] [] [] (.pv (bR fe)):=by
 have c1:=tg
 refine Dp Try.func25 ?_
 intro C hP hN
 simp only [Try.f25] at hN ⊢
 with_reducible repeat' (first|refine Sp.h ?_|((first|refine Ss.h ?_|refine Sc.h (c1) ?_|(refine Sb.h ?_ ?_ ?_<;>(try intro hgd)<;>try exact Xy))<;>simp -implicitDefEqProofs (maxSteps:=2000000) [hP,hN])|refine X2 ?_ ?_|(refine Xd ?_ ?_<;>intro hcd<;>try exact Xx))
 all_goals exact ⟨rfl,rfl⟩
theorem md : TmOk fe:=by
 refine ⟨fun _ _ _ _=>trivial,by decide,by decide,fun m hm=>?_,fun m hm=>?_⟩
 ·have : m=nj:=by simpa [fe] using hm
  subst this;decide
 ·have : m=nj:=by simpa [fe] using hm
  subst this;decide
theorem qF : bd fe [0,0] [1,1] [0,1] 5=some [[0,1,1],[0,0,1]]:=by decide +kernel
theorem rx : mm fe [0,0] [1,1] [[0,1,1],[0,0,1]]=true:=by decide +kernel
theorem ry : aG fe=true:=by decide +kernel
theorem d9 : am Try.prog 9 [] [] [] (.pv (B true)):=by
 have c0:=vA
 have c1:=qE fe [0,0] [1,1] [0,1] 5 md (by decide)
 rw [qF] at c1
 have c2:=tG [[0,1,1],[0,0,1]] [[0,1,1],[0,0,1]] (by decide) (by decide)
 rw [decide_eq_true rfl] at c2
 have c3:=vR fe [0,0] [1,1] [[0,1,1],[0,0,1]] md ⟨by decide,by decide⟩ (by decide) (by decide)
 rw [rx] at c3
 have c4:=tM fe md
 rw [ry] at c4
 obtain ⟨pt,hpt⟩ : ∃ pt,pt=bR fe:=⟨_,rfl⟩
 refine Dp Try.func9 ?_
 intro C hP hN
 simp only [Try.f9] at hN ⊢
 with_reducible repeat' (first|refine Sp.h ?_|((first|refine Ss.h ?_|refine Sc.h (c0) ?_|refine Sc.h (c1) ?_|refine Sc.h (c2) ?_|refine Sc.h (c3) ?_|refine Sc.h (c4) ?_|(refine Sb.h ?_ ?_ ?_<;>(try intro hgd)<;>try exact Xy))<;>simp -implicitDefEqProofs (maxSteps:=2000000) [hP,hN])|refine X2 ?_ ?_|(refine Xd ?_ ?_<;>intro hcd<;>try exact Xx))
end Go.Ab
namespace Go.Ab
open Go.Proofs
def fM (q : List (List Int)) (i : Nat) : Nat:=(q.take i).foldl (fun m l=>max m (aH l)) 1
theorem sL (q : List (List Int)) : fM q 0=1:=rfl
theorem sM {q : List (List Int)} {i : Nat} (h : i < q.length) : fM q (i+1)=max (fM q i) (aH q[i]):=by
 rw [fM,List.take_succ_eq_append_getElem h,List.foldl_append];rfl
theorem tH (q : List (List Int)) : fM q q.length=q.foldl (fun m l=>max m (aH l)) 1:=by rw [fM,List.take_length]
theorem jn {t : aU} {starts goals order : List Int} {ticks : Int} {q : List (List Int)} (h : bd t starts goals order ticks=some q) : q.length=t.maps.length∧t.maps.length≤4∧1≤t.maps.length∧∀ l ∈ q,l.length≤65:=by
 obtain ⟨hv,h1,_⟩:=lJ h
 obtain ⟨hpre,p,rfl,hP⟩:=fY h
 obtain ⟨hchk,_,hs,hg,ht,_,hpos⟩:=dU hpre
 refine ⟨h1,(mi hchk).2,hpos,fun l hl=>?_⟩
 rw [bE,List.mem_map] at hl
 obtain ⟨x,hx,rfl⟩:=hl
 obtain ⟨k,hk⟩:=List.mem_iff_getElem?.1 hx
 obtain ⟨A,hA⟩:=hP.lst k x hk
 have:=hA.len
 rw [List.length_take];omega
theorem d5 (l m n o : List Int) (ticks : Int) : am Try.prog 5 [.pv (zs l),.pv (zs m),.pv (zs n),.pv (zs o),.pv (Z ticks)] [] [] (.pv (B true)):=by
 have c0:=d9
 have cT:=tl l
 have hok:=qN l
 have hnp:=oq l
 have hML : (cy l).maps.length≤3:=by have:=ig l;have:=ii l;show (og l).length≤3;omega
 have hM1 : 1≤(cy l).maps.length:=by have:=ig l;have:=ii l;show 1≤(og l).length;omega
 generalize cy l=t at *
 have cA:=oY t m hok (by omega) (fun x hx=>by have:=hnp x hx;omega)
 have cB:=oY t n hok (by omega) (fun x hx=>by have:=hnp x hx;omega)
 have hal:=gb t.maps m t.maps.length
 have hbl:=gb t.maps n t.maps.length
 generalize ed t.maps m t.maps.length=a at *
 generalize ed t.maps n t.maps.length=b at *
 have cO:=rY t.maps.length o (by omega)
 have hol:=gC o t.maps.length
 generalize aQ o t.maps.length=ord at *
 have cR:=uo ticks 8 (by decide)
 have hr:=oK ticks (k:=8) (by decide) (by decide)
 generalize fG ticks 8=r at *
 obtain ⟨k,hk⟩ : ∃ k : Int,1+r=k:=⟨_,rfl⟩
 have hw : IntKind.i64.wrap (1+r)=k:=by rw [← hk];exact bP
 have cP:=qE t a b ord k hok (by omega)
 cases hp : bd t a b ord k with
 |none=>
  rw [hp] at cP
  refine Dp Try.func5 ?_
  intro C hP hN
  simp only [Try.f5] at hN ⊢
  with_reducible repeat' (first|refine Sp.h ?_|((first|refine Wd ?_|refine Ss.h ?_|refine Sc.h (c0) ?_|refine Sc.h (cT) ?_|refine Sc.h (cA) ?_|refine Sc.h (cB) ?_|refine Sc.h (cO) ?_|refine Sc.h (cR) ?_|refine Sc.h (cP) ?_|(refine Sb.h ?_ ?_ ?_<;>(try intro hgd)<;>try exact Xy))<;>simp -implicitDefEqProofs (maxSteps:=2000000) [hP,hN,hw,hal,hbl,hol]<;>try refine Ya ?_)|refine X2 ?_ ?_|(refine Xd ?_ ?_<;>intro hcd<;>try exact Xx))
 |some q=>
  rw [hp] at cP
  obtain ⟨hv,hql,l0,hq0,h2,hT,hfold⟩:=lJ hp
  obtain ⟨_,_,_,hq65⟩:=jn hp
  have hle:=(List.getElem?_eq_some_iff.1 hq0).2
  have hll:=(List.getElem?_eq_some_iff.1 hq0).1
  have z1 : ((q.length : Nat) : Int)=((t.maps.length : Nat) : Int):=by omega
  have z2 : ¬ ((l0.length : Nat) : Int) < 2:=by omega
  have z3 : ¬ k+1 < ((l0.length : Nat) : Int):=by omega
  have z4 : IntKind.i64.wrap (k+1)=k+1:=bP
  have z5 : IntKind.i64.wrap ((l0.length : Int) - 1)=(l0.length : Int) - 1:=by have:=hq65 _ (List.mem_of_getElem? hq0);exact bP
  have cV:=vh t a b q hok ⟨by omega,fun x hx=>by have:=hq65 x hx;omega⟩ (by omega) (by omega)
  rw [hv] at cV
  rw [← tH] at hfold
  have hfz : ((fM q q.length : Nat) : Int)=(l0.length : Int) - 1:=by omega
  refine Dp Try.func5 ?_
  intro C hP hN
  simp only [Try.f5] at hN ⊢
  with_reducible repeat' (first|refine Sp.h ?_|((first|refine Wd ?_|refine Ss.h ?_|refine Sc.h (c0) ?_|refine Sc.h (cT) ?_|refine Sc.h (cA) ?_|refine Sc.h (cB) ?_|refine Sc.h (cO) ?_|refine Sc.h (cR) ?_|refine Sc.h (cP) ?_|(refine Sb.h ?_ ?_ ?_<;>(try intro hgd)<;>try exact Xy))<;>simp -implicitDefEqProofs (maxSteps:=2000000) [hP,hN,hw,hal,hbl,hol,hql,z1,z2,z3,z4,hq0,hle,hll]<;>try refine Ya ?_)|refine X2 ?_ ?_|(refine Xd ?_ ?_<;>intro hcd<;>try exact Xx))
  refine WP.loopN [] q.length (fun i st=>st.t 11=.ptr 11 0∧st.h 11=some (.box [.pv (.sl (t.maps.map aV)),.pv (.sl (t.conf.map ba))] true false)∧st.t 12=.arr 23 t.maps.length∧st.t 13=.arr 26 t.maps.length∧(∃ f,st.h 23=some (.row 3 1 (a.map Z) f))∧(∃ f,st.h 26=some (.row 3 1 (b.map Z) f))∧st.t 15=.pv (.sl (q.map zs))∧st.t 17=.pv (Z (fM q i))∧st.t 18=.pv (Z i)) (by simp [sL]) ?_
  rintro i st hi ⟨g11,b11,g12,g13,⟨f1,b23⟩,⟨f2,b26⟩,g15,g17,g18⟩
  by_cases hlt : i < q.length
  ·have hwi:=ak hlt (by omega)
   have hxi : q[i]?=some q[i]:=List.getElem?_eq_getElem hlt
   have hf:=sM hlt
   have cAr:=tL q[i] (by have:=hq65 _ (List.getElem_mem hlt);omega)
   generalize hx : q[i]=x at *
   generalize fM q (i+1)=m1 at *
   generalize fM q i=m0 at *
   with_reducible repeat' (first|refine Sp.h ?_|((first|refine Wd ?_|refine Ss.h ?_|refine Sc.h (cAr) ?_|(refine Sb.h ?_ ?_ ?_<;>(try intro hgd)<;>try exact Xy))<;>simp -implicitDefEqProofs (maxSteps:=2000000) [hP,hN,g11,b11,g12,g13,b23,b26,g15,g17,g18,hlt,hwi,hxi,hx]<;>try refine Ya ?_)|refine X2 ?_ ?_|(refine Xd ?_ ?_<;>intro hcd<;>try exact Xx))
   all_goals (rw [hf];split<;>omega)
  ·have hiq : i=q.length:=by omega
   rw [hiq] at g17
   with_reducible repeat' (first|refine Sp.h ?_|((first|refine Wd ?_|refine Ss.h ?_|refine Sc.h (c0) ?_|refine Sc.h (cV) ?_|(refine Sb.h ?_ ?_ ?_<;>(try intro hgd)<;>try exact Xy))<;>simp -implicitDefEqProofs (maxSteps:=2000000) [hP,hN,g11,b11,g12,g13,b23,b26,g15,g17,g18,hlt,hal,hbl,hq0,hle,hll,z5,hfz]<;>try refine Ya ?_)|refine X2 ?_ ?_|(refine Xd ?_ ?_<;>intro hcd<;>try exact Xx))
end Go.Ab
namespace Go.Ab
open Go.Proofs
theorem vB (m : aW) (u v : Int) (hl : m.es.length≤9223372036854775807) : am Try.prog 42 [.pv (aV m),.pv (Z u),.pv (Z v)] [] [] (.pv (Z (dp (jy u v) m.es))):=by
 obtain ⟨p,hp⟩ : ∃ p : av→Bool,p=jy u v:=⟨_,rfl⟩
 rw [← hp]
 obtain ⟨x,hx9⟩ : ∃ x,min u v=x:=⟨_,rfl⟩
 obtain ⟨y,hy9⟩ : ∃ y,max u v=y:=⟨_,rfl⟩
 have m1 : (if v < u then v else u)=x:=by rw [← hx9];split<;>omega
 have m2 : (if u < v then v else u)=y:=by rw [← hy9];split<;>omega
 have m3 : min v u=x:=by rw [← hx9];omega
 have m4 : max v u=y:=by rw [← hy9];omega
 refine Dp Try.func42 ?_
 intro C hP hN
 simp only [Try.f42] at hN ⊢
 with_reducible repeat' (first|refine Sp.h ?_|((first|refine Ss.h ?_|(refine Sb.h ?_ ?_ ?_<;>(try intro hgd)<;>try exact Xy))<;>simp -implicitDefEqProofs (maxSteps:=2000000) [hP,hN])|refine X2 ?_ ?_|(refine Xd ?_ ?_<;>intro hcd<;>try exact Xx))
 refine WP.loopN [] m.es.length (fun i st=>st.t 3=.ptr 3 0∧st.h 3=some (.box [.pv (.sl m.np),.pv (dP m.es)] true false)∧st.t 1=.pv (Z u)∧st.t 2=.pv (Z v)∧st.t 7=.pv (Z i)∧eg p m.es i) (by simp [dQ]) ?_
 rintro i st hi ⟨g3,b3,g1,g2,g7,hq⟩
 by_cases hlt : i < m.es.length
 ·have hw:=ak hlt hl
  have hn:=eD hlt hq
  have hh:=jY hlt hq
  have hxi : m.es[i]?=some m.es[i]:=List.getElem?_eq_getElem hlt
  have hpi : p m.es[i]=(m.es[i].u==x && m.es[i].v==y):=by rw [hp,jy,hx9,hy9]
  generalize hx : m.es[i]=e at *
  generalize dp p m.es=r at *
  by_cases e1 : e.u=x
  ·by_cases e2 : e.v=y
   ·rw [hh (by rw [hpi];simp [e1,e2])]
    with_reducible repeat' (first|refine Sp.h ?_|((first|refine Ss.h ?_|(refine Sb.h ?_ ?_ ?_<;>(try intro hgd)<;>try exact Xy))<;>simp -implicitDefEqProofs (maxSteps:=2000000) [hP,hN,g3,b3,g1,g2,g7,hlt,hw,hx,hxi,hx9,hy9,m1,m2,m3,m4,e1,e2])|refine X2 ?_ ?_|(refine Xd ?_ ?_<;>intro hcd<;>try exact Xx))
   ·have hn9:=hn (by rw [hpi];simp [e2])
    have e2' : (e.v==y)=false:=by simp [e2]
    with_reducible repeat' (first|refine Sp.h ?_|((first|refine Ss.h ?_|(refine Sb.h ?_ ?_ ?_<;>(try intro hgd)<;>try exact Xy))<;>simp -implicitDefEqProofs (maxSteps:=2000000) [hP,hN,g3,b3,g1,g2,g7,hlt,hw,hx,hxi,hx9,hy9,m1,m2,m3,m4,e1,e2,e2'])|refine X2 ?_ ?_|(refine Xd ?_ ?_<;>intro hcd<;>try exact Xx))
    all_goals exact hn9
  ·have hn9:=hn (by rw [hpi];simp [e1])
   have e1' : (e.u==x)=false:=by simp [e1]
   with_reducible repeat' (first|refine Sp.h ?_|((first|refine Ss.h ?_|(refine Sb.h ?_ ?_ ?_<;>(try intro hgd)<;>try exact Xy))<;>simp -implicitDefEqProofs (maxSteps:=2000000) [hP,hN,g3,b3,g1,g2,g7,hlt,hw,hx,hxi,hx9,hy9,m1,m2,m3,m4,e1,e1'])|refine X2 ?_ ?_|(refine Xd ?_ ?_<;>intro hcd<;>try exact Xx))
   all_goals exact hn9
 ·rw [jZ hlt hq]
  with_reducible repeat' (first|refine Sp.h ?_|((first|refine Ss.h ?_|(refine Sb.h ?_ ?_ ?_<;>(try intro hgd)<;>try exact Xy))<;>simp -implicitDefEqProofs (maxSteps:=2000000) [hP,hN,g3,b3,g1,g2,g7,hlt])|refine X2 ?_ ?_|(refine Xd ?_ ?_<;>intro hcd<;>try exact Xx))
def il (n : Nat) (g : Nat→Int) : List PV:=(List.range n).map fun x=>Z (g x)
@[simp] theorem ib (n : Nat) (g : Nat→Int) : (il n g).length=n:=by simp [il]
theorem pQ {n x : Nat} (g : Nat→Int) (h : x < n) : (il n g)[x]?=some (Z (g x)):=by simp [il,h]
theorem rz {n : Nat} {f g : Nat→Int} (h : ∀ x,x < n→f x=g x) : il n f=il n g:=List.map_congr_left fun x hx=>by rw [h x (List.mem_range.1 hx)]
theorem sN (n : Nat) : List.replicate n (Z 0)=il n fun _=>0:=by simp [il,List.map_const']
theorem ob {n u : Nat} {f g : Nat→Int} {b : Int} (hu : u < n) (h1 : g u=b) (h2 : ∀ x,x < n→x≠u→g x=f x) : (il n f).set u (Z b)=il n g:=by
 apply List.ext_getElem?
 intro w
 rw [List.getElem?_set]
 simp only [ib]
 by_cases hw : w < n
 ·by_cases e : u=w
  ·subst e;simp [il,hw,h1]
  ·simp [il,hw,e,h2 w hw (fun e'=>e e'.symm)]
 ·by_cases e : u=w
  ·subst e;simp [il,hw]
  ·simp [il,hw,e]
abbrev jo (n : Nat) : PV:=Z (n : Int)
def fz (o : Option Nat) : Int:=match o with|some d=>(d : Int)|none=>-1
section
variable {adj : Nat→Nat→Bool}
theorem qG {u v x d : Nat} {s : Bfs} (h : s.far x=some d) : (cD adj u s v).far x=some d:=by
 unfold cD;split
 ·rename_i hc
  simp only
  split
  ·rename_i e;subst e;rw [h] at hc;simp at hc
  ·exact h
 ·exact h
theorem jp {u x d : Nat} {s : Bfs} (h : s.far x=some d) : ∀ k,(dq adj u s k).far x=some d
 |0=>h
 |k+1=>qG (jp h k)
theorem tI {u v i y : Nat} {s : Bfs} (h : s.q[i]?=some y) : (cD adj u s v).q[i]?=some y:=by
 unfold cD;split
 ·rw [List.getElem?_append_left (List.getElem?_eq_some_iff.1 h).1];exact h
 ·exact h
theorem qH {u i y : Nat} {s : Bfs} (h : s.q[i]?=some y) : ∀ k,(dq adj u s k).q[i]?=some y
 |0=>h
 |k+1=>tI (qH h k)
theorem pd {u d0 N : Nat} {s : Bfs} (hN : ∀ x d,s.far x=some d→d≤N) (hu : s.far u=some d0) : ∀ k x d,(dq adj u s k).far x=some d→d≤N+1
 |0,x,d,h=>by have:=hN x d h;omega
 |k+1,x,d,h=>by
  have ih:=pd hN hu k
  have hk:=jp (adj:=adj) (u:=u) hu k
  simp only [dq,cD] at h
  split at h
  ·simp only at h
   split at h
   ·rw [hk] at h
    simp only [Option.map_some,Option.some.injEq] at h
    have:=hN u d0 hu;omega
   ·exact ih x d h
  ·exact ih x d h
theorem pe {n src : Nat} (hs : src < n) : ∀ i x d,(aw n adj src i).far x=some d→d≤i
 |0,x,d,h=>by
  simp only [aw,eh] at h
  split at h
  ·injection h;omega
  ·cases h
 |i+1,x,d,h=>by
  have ih:=pe hs i
  rw [aw] at h
  cases hq : (aw n adj src i).q[i]? with
  |none=>simp only [hq] at h;have:=ih x d h;omega
  |some u=>
   simp only [hq] at h
   have hok:=gc (adj:=adj) hs i (Nat.le_of_lt (List.getElem?_eq_some_iff.1 hq).1)
   obtain ⟨d0,hd0⟩:=(hok.mem u).1 (List.mem_of_getElem? hq)
   exact pd ih hd0 n x d h
theorem mP {n src i : Nat} (h : (aw n adj src i).q.length=i) : ∀ j,aw n adj src (i+j)=aw n adj src i
 |0=>rfl
 |j+1=>by
  have ih:=mP h j
  show aw n adj src (i+j+1)=_
  rw [aw,ih]
  have : (aw n adj src i).q[i+j]?=none:=List.getElem?_eq_none (by omega)
  simp only [this]
end
theorem sO (es : List av) (u v : Int) : (∃ (j : Nat) (e : av),dp (jy u v) es=j∧es[j]?=some e∧gT es u v=(e.s==1))∨(dp (jy u v) es=-1∧gT es u v=false):=by
 have hf:=ky (jy u v) es
 unfold gT dp
 cases h : es.find? (jy u v) with
 |none=>
  right
  rw [if_neg]
  ·exact ⟨rfl,rfl⟩
  ·rw [List.any_eq_true]
   rintro ⟨x,hx,hp⟩
   exact (List.find?_eq_none.1 h x hx) hp
 |some e=>
  left
  refine ⟨_,e,if_pos ?_,by rw [hf,h],rfl⟩
  rw [List.any_eq_true]
  exact ⟨e,List.mem_of_find?_eq_some h,List.find?_some h⟩
theorem uy (m : aW) (src dst : Nat) (hs : src < m.np.length) (hd : dst < m.np.length) (hn1 : m.np.length≤1024) (hl : m.es.length≤9223372036854775807) : am Try.prog 22 [.pv (aV m),.pv (Z src),.pv (Z dst)] [] [] (.pv (Z (fz (dB m.np.length (fun v u=>gT m.es v u) src dst)))):=by
 obtain ⟨n,hn⟩ : ∃ n,n=m.np.length:=⟨_,rfl⟩
 rw [← hn] at hs hd hn1 ⊢
 obtain ⟨adj,hadj⟩ : ∃ adj,adj=fun v u : Nat=>gT m.es v u:=⟨_,rfl⟩
 rw [← hadj]
 have q1 : ((n : Int)) * 8≤281474976710656:=by omega
 have q2 : (8 * (n : Int))≤281474976710656:=by omega
 have q3 : (n : Int)≤9223372036854775807:=by omega
 refine Dp Try.func22 ?_
 intro C hP hN
 simp only [Try.f22] at hN ⊢
 with_reducible repeat' (first|refine Sp.h ?_|((first|refine Wh [16] ?_|refine Wi [16] ?_|refine Ss.h ?_|(refine Sb.h ?_ ?_ ?_<;>(try intro hgd)<;>try exact Xy))<;>simp -implicitDefEqProofs (maxSteps:=2000000) [hP,hN,hn.symm,q1,q2,q3]<;>try refine Ya ?_)|refine X2 ?_ ?_|(refine Xd ?_ ?_<;>intro hcd<;>try exact Xx))
 refine WP.loopN [] n (fun i st=>st.t 3=.ptr 3 0∧st.h 3=some (.box [.pv (.sl m.np),.pv (dP m.es)] true false)∧st.t 1=.pv (Z src)∧st.t 2=.pv (Z dst)∧st.t 7=.arr 16 n∧st.t 8=.pv (Z i)∧st.h 16=some (.row 3 1 (il n fun x=>if x < i then -1 else 0) 0)∧st.h 30=none) (by simp [sN]) ?_
 rintro i st hi ⟨g3,b3,g1,g2,g7,g8,b16,b30⟩
 by_cases hlt : i < n
 ·have hw:=ak hlt (by omega)
  have hset : (il n fun x=>if x < i then -1 else 0).set i (Z (-1))=il n fun x=>if x < i+1 then -1 else 0:=ob hlt (by simp) (fun x _ hx=>by
   by_cases h9 : x < i
   ·rw [if_pos h9,if_pos (by omega)]
   ·rw [if_neg h9,if_neg (by omega)])
  have hll:=ib n (fun x=>if x < i then -1 else 0)
  generalize il n (fun x=>if x < i+1 then -1 else 0)=r2 at *
  generalize il n (fun x=>if x < i then -1 else 0)=r1 at *
  have hiz : (i : Int) < (n : Int):=by omega
  with_reducible repeat' (first|refine Sp.h ?_|((first|refine Wd ?_|refine Ss.h ?_|(refine Sb.h ?_ ?_ ?_<;>(try intro hgd)<;>try exact Xy))<;>simp -implicitDefEqProofs (maxSteps:=2000000) [hP,hN,g3,b3,g1,g2,g7,g8,b16,b30,hlt,hiz,hw,hll,hset]<;>try refine Ya ?_)|refine X2 ?_ ?_|(refine Xd ?_ ?_<;>intro hcd<;>try exact Xx))
 ·have hin : i=n:=by omega
  rw [rz (g:=fun _=>-1) (fun x hx=>by rw [if_pos (by omega)])] at b16
  have hset : (il n fun _=>-1).set src (Z 0)=il n fun x=>fz ((eh src).far x):=ob hs (by simp [fz,eh]) (fun x _ hx=>by simp [fz,eh,hx])
  have hll:=ib n (fun _=>-1)
  generalize il n (fun _=>-1)=r1 at *
  have hsz : (src : Int) < (n : Int):=by omega
  with_reducible repeat' (first|refine Sp.h ?_|((first|refine Wh [30] ?_|refine Wi [30] ?_|refine Ss.h ?_|(refine Sb.h ?_ ?_ ?_<;>(try intro hgd)<;>try exact Xy))<;>simp -implicitDefEqProofs (maxSteps:=2000000) [hP,hN,g3,b3,g1,g2,g7,g8,b16,b30,hlt,hll,hset,hs,hsz]<;>try refine Ya ?_)|refine X2 ?_ ?_|(refine Xd ?_ ?_<;>intro hcd<;>try exact Xx))
  have hq0 : [PV.val (.int .i64 (src : Int))]=(eh src).q.map jo:=rfl
  rw [hq0]
  refine WP.loopN [] n (fun i st=>st.t 3=.ptr 3 0∧st.h 3=some (.box [.pv (.sl m.np),.pv (dP m.es)] true false)∧st.t 2=.pv (Z dst)∧st.t 7=.arr 16 n∧st.t 9=.arr 30 (aw n adj src i).q.length∧st.t 10=.pv (Z i)∧st.h 16=some (.row 3 1 (il n fun x=>fz ((aw n adj src i).far x)) 0)∧st.h 30=some (.row 3 1 ((aw n adj src i).q.map jo) 0)∧i≤(aw n adj src i).q.length) (by simp [g3,b3,g2,g7,aw,eh]) ?_
  clear g3 b3 g1 g2 g7 g8 b16 b30 hset hll hlt hi hin r1 st i
  rintro i st hi ⟨g3,b3,g2,g7,g9,g10,b16,b30,hiq⟩
  have hok:=gc (adj:=adj) hs i hiq
  have hqn:=lI hok.nd hok.lt
  have hle:=pe (adj:=adj) hs i
  by_cases hlt : i < (aw n adj src i).q.length
  ·have hin : i < n:=by omega
   have hqi : (aw n adj src i).q[i]?=some (aw n adj src i).q[i]:=List.getElem?_eq_getElem hlt
   generalize hu : (aw n adj src i).q[i]=u at *
   have hnext : aw n adj src (i+1)=dq adj u (aw n adj src i) n:=by rw [aw];simp only [hqi]
   have hok1:=fun k (hk : k≤n)=>pZ (adj:=adj) (u:=u) (k:=k) (⟨hok.lt,hok.nd,hok.mem,hok.wlk,hok.le,hok.mono,hok.top,hok.done,fun u' k' e=>by injection e with e;injection e with e1 e2;subst e1;subst e2;exact ⟨hqi,fun w d h1=>by omega⟩,hok.src0⟩) hk
   obtain ⟨d0,hd0⟩:=(hok.mem u).1 (List.mem_of_getElem? hqi)
   have hd0i:=hle u d0 hd0
   have hkeep:=fun k=>jp (adj:=adj) (u:=u) hd0 k
   have hkq:=fun k=>qH (adj:=adj) (u:=u) hqi k
   have hun:=hok.lt u (List.mem_of_getElem? hqi)
   rw [hnext]
   clear hnext hok hqn hle hiq
   have hwi:=ak hin (by omega)
   generalize aw n adj src i=s0 at *
   with_reducible repeat' (first|refine Sp.h ?_|((first|refine Wd ?_|refine Ss.h ?_|(refine Sb.h ?_ ?_ ?_<;>(try intro hgd)<;>try exact Xy))<;>simp -implicitDefEqProofs (maxSteps:=2000000) [hP,hN,g3,b3,g2,g7,g9,g10,b16,b30,hlt]<;>try refine Ya ?_)|refine X2 ?_ ?_|(refine Xd ?_ ?_<;>intro hcd<;>try exact Xx))
   refine WP.loopN [] n (fun v st=>st.t 3=.ptr 3 0∧st.h 3=some (.box [.pv (.sl m.np),.pv (dP m.es)] true false)∧st.t 2=.pv (Z dst)∧st.t 7=.arr 16 n∧st.t 9=.arr 30 (dq adj u s0 v).q.length∧st.t 10=.pv (Z i)∧st.t 11=.pv (Z v)∧st.h 16=some (.row 3 1 (il n fun x=>fz ((dq adj u s0 v).far x)) 0)∧st.h 30=some (.row 3 1 ((dq adj u s0 v).q.map jo) 0)) (by simp [g3,b3,g2,g7,g9,g10,b16,b30,dq]) ?_
   clear g3 b3 g2 g7 g9 g10 b16 b30 st
   rintro v st hv ⟨g3,b3,g2,g7,g9,g10,g11,b16,b30⟩
   have hok2:=hok1 v hv
   have hqn:=lI hok2.nd hok2.lt
   have hk1:=hkeep v
   have hk2:=hkq v
   have hstep : dq adj u s0 (v+1)=cD adj u (dq adj u s0 v) v:=rfl
   rw [hstep]
   clear hstep
   generalize hs1 : dq adj u s0 v=s1 at *
   have hiq1:=(List.getElem?_eq_some_iff.1 hk2).1
   have hiq2 : (i : Int) < (s1.q.length : Int):=by omega
   have hql : (s1.q.map jo).length=s1.q.length:=List.length_map _
   have hqm : (s1.q.map jo)[i]?=some (Z u):=by rw [List.getElem?_map,hk2];rfl
   have hqml:=(List.getElem?_eq_some_iff.1 hqm).1
   have hqme:=(List.getElem?_eq_some_iff.1 hqm).2
   by_cases hvn : v < n
   ·have hwv:=ak hvn (by omega)
    have hvz : (v : Int) < (n : Int):=by omega
    have ce:=vB m u v hl
    have hfu:=pQ (fun x=>fz (s1.far x)) hun
    have hfv:=pQ (fun x=>fz (s1.far x)) hvn
    have hll:=ib n (fun x=>fz (s1.far x))
    rw [hk1,show fz (some d0)=(d0 : Int) from rfl] at hfu
    have haj : adj u v=gT m.es u v:=by rw [hadj]
    have huz : (u : Int) < (n : Int):=by omega
    have hwd : IntKind.i64.wrap ((d0 : Int)+1)=((d0+1 : Nat) : Int):=by rw [IntKind.wrap_i64];omega
    cases hfar : s1.far v with
    |some e=>
     have h1 : cD adj u s1 v=s1:=by unfold cD;rw [if_neg (by rw [hfar];simp)]
     rw [h1]
     rw [hfar,show fz (some e)=(e : Int) from rfl] at hfv
     have hez : ¬ (e : Int) < 0:=by omega
     generalize il n (fun x=>fz (s1.far x))=r1 at *
     have hfu' : ∀ h,r1[u]'h=Z d0:=fun h=>(List.getElem?_eq_some_iff.1 hfu).2
     have hfv' : ∀ h,r1[v]'h=Z e:=fun h=>(List.getElem?_eq_some_iff.1 hfv).2
     generalize s1.q.map jo=qs at *
     with_reducible repeat' (first|refine Sp.h ?_|((first|refine Wd ?_|refine Ss.h ?_|refine Sc.h (ce) ?_|(refine Sb.h ?_ ?_ ?_<;>(try intro hgd)<;>try exact Xy))<;>simp -implicitDefEqProofs (maxSteps:=2000000) [hP,hN,g3,b3,g2,g7,g9,g10,g11,b16,b30,hvn,hvz,hwv,hiq1,hiq2,hql,hqm,hqml,hqme,hlt,hll,hfu,hfv,hfu',hfv',hez,hun,huz]<;>try refine Ya ?_)|refine X2 ?_ ?_|(refine Xd ?_ ?_<;>intro hcd<;>try exact Xx))
    |none=>
     rw [hfar,show fz none=(-1 : Int) from rfl] at hfv
     rcases sO m.es u v with ⟨j,e,hj1,hj2,hj3⟩|⟨hj1,hj3⟩
     ·rw [hj1] at ce
      have hjl:=(List.getElem?_eq_some_iff.1 hj2).1
      have hje:=(List.getElem?_eq_some_iff.1 hj2).2
      by_cases hes : e.s=1
      ·have hset : (il n fun x=>fz (s1.far x)).set v (Z ((d0+1 : Nat) : Int))=il n fun x=>fz ((cD adj u s1 v).far x):=by
        have h1 : cD adj u s1 v=⟨fun x=>if x=v then (s1.far u).map (·+1) else s1.far x,s1.q++[v]⟩:=by unfold cD;rw [if_pos ⟨by rw [hfar];rfl,by rw [haj,hj3];simp [hes]⟩]
        exact ob hvn (by rw [h1];simp [hk1,fz]) (fun x _ hx=>by rw [h1];simp [hx])
       have hqq : (cD adj u s1 v).q=s1.q++[v]:=by unfold cD;rw [if_pos ⟨by rw [hfar];rfl,by rw [haj,hj3];simp [hes]⟩]
       have hqm2 : ((cD adj u s1 v).q.map jo)=s1.q.map jo++[Z v]:=by rw [hqq];simp
       have hql2 : (cD adj u s1 v).q.length=s1.q.length+1:=by rw [hqq];simp
       rw [hqm2,hql2,← hset]
       generalize il n (fun x=>fz (s1.far x))=r1 at *
       have hfu' : ∀ h,r1[u]'h=Z d0:=fun h=>(List.getElem?_eq_some_iff.1 hfu).2
       have hfv' : ∀ h,r1[v]'h=Z (-1):=fun h=>(List.getElem?_eq_some_iff.1 hfv).2
       generalize s1.q.map jo=qs at *
       generalize s1.q.length=ql at *
       have hes' : (e.s==1)=true:=by simp [hes]
       with_reducible repeat' (first|refine Sp.h ?_|((first|refine Wd ?_|refine Ss.h ?_|refine Sc.h (ce) ?_|(refine Sb.h ?_ ?_ ?_<;>(try intro hgd)<;>try exact Xy))<;>simp -implicitDefEqProofs (maxSteps:=2000000) [hP,hN,g3,b3,g2,g7,g9,g10,g11,b16,b30,hvn,hvz,hwv,hiq1,hiq2,hql,hqm,hqml,hqme,hlt,hll,hfu,hfv,hfu',hfv',hun,huz,hwd,hj2,hjl,hje,hes,hes',show (ql+1) * 8≤140737488355328 by omega,show ql≤9223372036854775806 by omega,show ql+1≤9223372036854775807 by omega]<;>try refine Ya ?_)|refine X2 ?_ ?_|(refine Xd ?_ ?_<;>intro hcd<;>try exact Xx))
      ·have hes' : (e.s==1)=false:=by simp [hes]
       have h1 : cD adj u s1 v=s1:=by unfold cD;rw [if_neg (by rw [haj,hj3,hes'];simp)]
       rw [h1]
       generalize il n (fun x=>fz (s1.far x))=r1 at *
       have hfu' : ∀ h,r1[u]'h=Z d0:=fun h=>(List.getElem?_eq_some_iff.1 hfu).2
       have hfv' : ∀ h,r1[v]'h=Z (-1):=fun h=>(List.getElem?_eq_some_iff.1 hfv).2
       generalize s1.q.map jo=qs at *
       with_reducible repeat' (first|refine Sp.h ?_|((first|refine Wd ?_|refine Ss.h ?_|refine Sc.h (ce) ?_|(refine Sb.h ?_ ?_ ?_<;>(try intro hgd)<;>try exact Xy))<;>simp -implicitDefEqProofs (maxSteps:=2000000) [hP,hN,g3,b3,g2,g7,g9,g10,g11,b16,b30,hvn,hvz,hwv,hiq1,hiq2,hql,hqm,hqml,hqme,hlt,hll,hfu,hfv,hfu',hfv',hun,huz,hj2,hjl,hje,hes,hes']<;>try refine Ya ?_)|refine X2 ?_ ?_|(refine Xd ?_ ?_<;>intro hcd<;>try exact Xx))
     ·rw [hj1] at ce
      have h1 : cD adj u s1 v=s1:=by unfold cD;rw [if_neg (by rw [haj,hj3];simp)]
      rw [h1]
      generalize il n (fun x=>fz (s1.far x))=r1 at *
      have hfu' : ∀ h,r1[u]'h=Z d0:=fun h=>(List.getElem?_eq_some_iff.1 hfu).2
      have hfv' : ∀ h,r1[v]'h=Z (-1):=fun h=>(List.getElem?_eq_some_iff.1 hfv).2
      generalize s1.q.map jo=qs at *
      with_reducible repeat' (first|refine Sp.h ?_|((first|refine Wd ?_|refine Ss.h ?_|refine Sc.h (ce) ?_|(refine Sb.h ?_ ?_ ?_<;>(try intro hgd)<;>try exact Xy))<;>simp -implicitDefEqProofs (maxSteps:=2000000) [hP,hN,g3,b3,g2,g7,g9,g10,g11,b16,b30,hvn,hvz,hwv,hiq1,hiq2,hql,hqm,hqml,hqme,hlt,hll,hfu,hfv,hfu',hfv',hun,huz]<;>try refine Ya ?_)|refine X2 ?_ ?_|(refine Xd ?_ ?_<;>intro hcd<;>try exact Xx))
   ·have hvn' : v=n:=by omega
    subst hvn'
    rw [hs1]
    with_reducible repeat' (first|refine Sp.h ?_|((first|refine Wd ?_|refine Ss.h ?_|(refine Sb.h ?_ ?_ ?_<;>(try intro hgd)<;>try exact Xy))<;>simp -implicitDefEqProofs (maxSteps:=2000000) [hP,hN,g3,b3,g2,g7,g9,g10,g11,b16,b30,hvn,hwi,hin,ib]<;>try refine Ya ?_)|refine X2 ?_ ?_|(refine Xd ?_ ?_<;>intro hcd<;>try exact Xx))
    all_goals exact hiq1
  ·have hst:=mP (adj:=adj) (n:=n) (src:=src) (i:=i) (by omega) (n - i)
   rw [show i+(n - i)=n by omega] at hst
   have hres : dB n adj src dst=(aw n adj src i).far dst:=by rw [dB,hst]
   rw [hres]
   have hfd:=pQ (fun x=>fz ((aw n adj src i).far x)) hd
   have hll:=ib n (fun x=>fz ((aw n adj src i).far x))
   generalize fz ((aw n adj src i).far dst)=r at *
   generalize il n (fun x=>fz ((aw n adj src i).far x))=r1 at *
   have hfd' : ∀ h,r1[dst]'h=Z r:=fun h=>(List.getElem?_eq_some_iff.1 hfd).2
   have hdz : (dst : Int) < (n : Int):=by omega
   with_reducible repeat' (first|refine Sp.h ?_|((first|refine Wd ?_|refine Ss.h ?_|(refine Sb.h ?_ ?_ ?_<;>(try intro hgd)<;>try exact Xy))<;>simp -implicitDefEqProofs (maxSteps:=2000000) [hP,hN,g3,b3,g2,g7,g9,g10,b16,b30,hlt,hfd,hfd',hll,hd,hdz]<;>try refine Ya ?_)|refine X2 ?_ ?_|(refine Xd ?_ ?_<;>intro hcd<;>try exact Xx))
end Go.Ab
namespace Go.Ab
open Go.Proofs
theorem lD {t : aU} {l : List Int} (h : bL t l=true) {k : Nat} (hk : k < t.maps.length) : l[k]?=some ((aP l k : Nat) : Int):=by
 simp only [bL,Bool.and_eq_true,decide_eq_true_eq,List.all_eq_true,List.mem_range] at h
 have h8:=h.2 k (by omega)
 rw [aD] at h8
 unfold aP
 rw [bG (show k < l.length by omega)] at h8 ⊢
 simp only [Option.getD_some] at h8 ⊢
 rw [Int.toNat_of_nonneg h8.1]
theorem qI {t : aU} {k : Nat} {m : aW} (h : t.maps[k]?=some m) (src dst : Nat) : dB m.np.length (fun v u=>gT m.es v u) src dst=dB (a8 t k) (gU t k) src dst:=by
 obtain ⟨e1,e2⟩:=fJ h
 rw [e1]
 congr 1
 funext v u
 rw [gU,e2]
structure Mde (t : aU) (a b ord : List Int) : Prop where
 ok : TmOk t
 np : ∀ m ∈ t.maps,2≤m.np.length∧m.np.length≤4∧m.es.length≤16
 n1 : 1≤t.maps.length
 n3 : t.maps.length≤3
 al : a.length=t.maps.length
 bl : b.length=t.maps.length
 ol : ord.length=t.maps.length
 la : bL t a=true
 lb : bL t b=true
 po : bJ ord t.maps.length=true
theorem vC (t : aU) (m n o : List Int) (h1 : TmOk t) (h2 : ∀ m ∈ t.maps,2≤m.np.length∧m.np.length≤4∧m.es.length≤16) (h3 : 1≤t.maps.length) (h4 : t.maps.length≤3) : Mde t (ed t.maps m t.maps.length) (ed t.maps n t.maps.length) (aQ o t.maps.length):=
 ⟨h1,h2,h3,h4,gb _ _ _,gb _ _ _,gC _ _,pn m fun x hx=>by have:=h2 x hx;omega,pn n fun x hx=>by have:=h2 x hx;omega,mW o h3 h4⟩
theorem pf (l m n o : List Int) : Mde (cy l) (ed (cy l).maps m (cy l).maps.length) (ed (cy l).maps n (cy l).maps.length) (aQ o (cy l).maps.length):=by
 have h1:=ig l
 have h2 : (cy l).maps.length=tN l:=ii l
 exact vC _ m n o (qN l) (fun x hx=>by have:=oq l x hx;omega) (by omega) (by omega)
theorem d6 (l m n o : List Int) : am Try.prog 6 [.pv (zs l),.pv (zs m),.pv (zs n),.pv (zs o)] [] [] (.pv (B true)):=by
 have c0:=d9
 have cT:=tl l
 have hm:=pf l m n o
 generalize cy l=t at *
 have cA:=oY t m hm.ok (by have:=hm.n3;omega) (fun x hx=>by have:=hm.np x hx;omega)
 have cB:=oY t n hm.ok (by have:=hm.n3;omega) (fun x hx=>by have:=hm.np x hx;omega)
 have cO:=rY t.maps.length o (by have:=hm.n3;omega)
 generalize ed t.maps m t.maps.length=a at *
 generalize ed t.maps n t.maps.length=b at *
 generalize aQ o t.maps.length=ord at *
 have hal:=hm.al
 have hbl:=hm.bl
 have hol:=hm.ol
 have hn1:=hm.n1
 have hn3:=hm.n3
 have cP:=qE t a b ord 9 hm.ok (by omega)
 cases hp : bd t a b ord 9 with
 |none=>
  rw [hp] at cP
  refine Dp Try.func6 ?_
  intro C hP hN
  simp only [Try.f6] at hN ⊢
  with_reducible repeat' (first|refine Sp.h ?_|((first|refine Wd ?_|refine Ss.h ?_|refine Sc.h (c0) ?_|refine Sc.h (cT) ?_|refine Sc.h (cA) ?_|refine Sc.h (cB) ?_|refine Sc.h (cO) ?_|refine Sc.h (cP) ?_|(refine Sb.h ?_ ?_ ?_<;>(try intro hgd)<;>try exact Xy))<;>simp -implicitDefEqProofs (maxSteps:=2000000) [hP,hN,hal,hbl,hol]<;>try refine Ya ?_)|refine X2 ?_ ?_|(refine Xd ?_ ?_<;>intro hcd<;>try exact Xx))
 |some q=>
  rw [hp] at cP
  have ho0 : ord[0]?=some ord[0]:=List.getElem?_eq_getElem (by omega)
  obtain ⟨x,A,h1,h2,h3,h4,h5⟩:=p5 hp ho0
  generalize hoe : ord[0]=z at *
  obtain ⟨k,rfl⟩ : ∃ k : Nat,z=k:=⟨z.toNat,by omega⟩
  rw [Int.toNat_natCast] at h1 h3 h5
  obtain ⟨hql,_,_,hq65⟩:=jn hp
  have hxi : t.maps[k]?=some t.maps[k]:=List.getElem?_eq_getElem h5
  have hnp:=hm.np _ (List.getElem_mem h5)
  have haz:=lD hm.la h5
  have hbz:=lD hm.lb h5
  have has:=bb hm.la h5
  have hbs:=bb hm.lb h5
  have hol0 : 0 < ord.length:=by omega
  have hka : k < a.length:=by omega
  have hkb : k < b.length:=by omega
  have hae:=(List.getElem?_eq_some_iff.1 haz).2
  have hbe:=(List.getElem?_eq_some_iff.1 hbz).2
  have hqe:=(List.getElem?_eq_some_iff.1 h1).2
  have hqk:=(List.getElem?_eq_some_iff.1 h1).1
  generalize hx : t.maps[k]=mp at *
  obtain ⟨e1,e2⟩:=fJ hxi
  have cH:=uy mp (aP a k) (aP b k) (by omega) (by omega) (by omega) (by omega)
  rw [qI hxi,h3,show fz (some A)=(A : Int) from rfl] at cH
  have cAr:=tL x (by have:=hq65 x (List.mem_of_getElem? h1);omega)
  rw [h2] at cAr
  generalize aP a k=s0 at *
  generalize aP b k=g0 at *
  have hqz : ((q.length : Nat) : Int)=((t.maps.length : Nat) : Int):=by omega
  have hkz : (k : Int) < (t.maps.length : Int):=by omega
  refine Dp Try.func6 ?_
  intro C hP hN
  simp only [Try.f6] at hN ⊢
  with_reducible repeat' (first|refine Sp.h ?_|((first|refine Wd ?_|refine Ss.h ?_|refine Sc.h (c0) ?_|refine Sc.h (cT) ?_|refine Sc.h (cA) ?_|refine Sc.h (cB) ?_|refine Sc.h (cO) ?_|refine Sc.h (cP) ?_|refine Sc.h (cH) ?_|refine Sc.h (cAr) ?_|(refine Sb.h ?_ ?_ ?_<;>(try intro hgd)<;>try exact Xy))<;>simp -implicitDefEqProofs (maxSteps:=2000000) [hP,hN,hal,hbl,hol,ho0,hoe,hxi,hx,haz,hbz,h5,hka,hkb,hae,hbe,h1,hqe,hqk,hol0,hqz,hql,hkz,hn1,show 0 < t.maps.length by omega]<;>try refine Ya ?_)|refine X2 ?_ ?_|(refine Xd ?_ ?_<;>intro hcd<;>try exact Xx))
  trace_state
end Go.Ab
namespace Go.Ab
open Go.Proofs
def fA (f : Nat→Option Nat) (i : Nat) : Bool:=(List.range i).all fun k=>(f k).isSome
theorem pg (f : Nat→Option Nat) (i : Nat) : fA f (i+1)=(fA f i && (f i).isSome):=by simp [fA,List.range_succ,List.all_append]
theorem tJ (o : Option Nat) : decide (0≤fz o)=o.isSome:=by cases o<;>simp [fz]
theorem d7 (l m n o : List Int) : am Try.prog 7 [.pv (zs l),.pv (zs m),.pv (zs n),.pv (zs o)] [] [] (.pv (B true)):=by
 have c0:=d9
 have cT:=tl l
 have hm : Mde ⟨(cy l).maps,[]⟩ (ed (cy l).maps m (cy l).maps.length) (ed (cy l).maps n (cy l).maps.length) (aQ o (cy l).maps.length)∧bJ (aQ [] (cy l).maps.length) (cy l).maps.length=true∧aG (⟨(cy l).maps,[]⟩ : aU)=true:=by
  have h:=pf l m n o
  have h9:=h.ok
  exact ⟨⟨⟨h9.rest,h9.nl,Nat.zero_le _,h9.pl,h9.el⟩,h.np,h.n1,h.n3,h.al,h.bl,h.ol,h.la,h.lb,h.po⟩,mW [] h.n1 h.n3,rE l⟩
 obtain ⟨hm,hpn,hchk⟩:=hm
 obtain ⟨t,ht⟩ : ∃ t : aU,t=⟨(cy l).maps,[]⟩:=⟨_,rfl⟩
 have htm : (cy l).maps=t.maps:=by rw [ht]
 have htc : t.conf=[]:=by rw [ht]
 rw [← ht] at hm hchk
 rw [htm] at hm hpn
 generalize cy l=t0 at *
 obtain ⟨ms0,cf0⟩:=t0
 simp only at htm
 subst htm
 have cA:=oY t m hm.ok (by have:=hm.n3;omega) (fun x hx=>by have:=hm.np x hx;omega)
 have cB:=oY t n hm.ok (by have:=hm.n3;omega) (fun x hx=>by have:=hm.np x hx;omega)
 have cO:=rY t.maps.length o (by have:=hm.n3;omega)
 have cN:=rY t.maps.length [] (by have:=hm.n3;omega)
 have hnl:=gC [] t.maps.length
 generalize ed t.maps m t.maps.length=a at *
 generalize ed t.maps n t.maps.length=b at *
 generalize aQ o t.maps.length=ord at *
 generalize aQ [] t.maps.length=nrd at *
 have hal:=hm.al
 have hbl:=hm.bl
 have hol:=hm.ol
 have hn1:=hm.n1
 have hn3:=hm.n3
 have cP:=qE t a b ord 9 hm.ok (by omega)
 have cQ:=qE t a b nrd 9 hm.ok (by omega)
 have hpre : ∀ x,bJ x t.maps.length=true→gS t a b x 9=true:=fun x hx=>by
  simp only [gS,hchk,hm.la,hm.lb,hx,Bool.true_and];decide
 obtain ⟨hA1,hA2,hA3⟩:=p6 htc (hpre ord hm.po) (fun k hk=>by
  have hxi : t.maps[k]?=some t.maps[k]:=List.getElem?_eq_getElem hk
  have:=hm.np _ (List.getElem_mem hk)
  rw [(fJ hxi).1]
  show _≤9+1
  omega)
 rw [hA3 nrd (hpre nrd hpn)] at cQ
 obtain ⟨f,hf⟩ : ∃ f,f=fun k=>dB (a8 t k) (gU t k) (aP a k) (aP b k):=⟨_,rfl⟩
 have hfk : ∀ k,dB (a8 t k) (gU t k) (aP a k) (aP b k)=f k:=fun k=>by rw [hf]
 simp only [hfk] at hA1 hA2
 have hall : (bd t a b ord 9).isSome=fA f t.maps.length:=by
  rw [Bool.eq_iff_iff,hA1,fA,List.all_eq_true]
  exact ⟨fun h k hk=>h k (List.mem_range.1 hk),fun h k hk=>h k (List.mem_range.2 hk)⟩
 have cH : ∀ k,k < t.maps.length→∃ mp s0 g0,t.maps[k]?=some mp∧a[k]?=some s0∧b[k]?=some g0∧am Try.prog 22 [.pv (aV mp),.pv (Z s0),.pv (Z g0)] [] [] (.pv (Z (fz (f k)))):=fun k hk=>by
  have hxi : t.maps[k]?=some t.maps[k]:=List.getElem?_eq_getElem hk
  have hnp:=hm.np _ (List.getElem_mem hk)
  have has:=bb hm.la hk
  have hbs:=bb hm.lb hk
  obtain ⟨e1,e2⟩:=fJ hxi
  refine ⟨_,_,_,hxi,lD hm.la hk,lD hm.lb hk,?_⟩
  have:=uy t.maps[k] (aP a k) (aP b k) (by omega) (by omega) (by omega) (by omega)
  rw [qI hxi,hfk] at this
  exact this
 have hTe : bR t=.agg [.sl (t.maps.map aV),.sl []]:=by simp [htc]
 rw [hTe] at cA cB cP cQ
 clear hfk hf hA1 hA3 hTe
 cases hp : bd t a b ord 9 with
 |none=>
  rw [hp] at cP cQ hall
  have cS:=tG [] [] (by decide) (by simp)
  rw [decide_eq_true rfl] at cS
  refine Dp Try.func7 ?_
  intro C hP hN
  simp only [Try.f7] at hN ⊢
  with_reducible repeat' (first|refine Sp.h ?_|((first|refine Wd ?_|refine Ss.h ?_|refine Sc.h (c0) ?_|refine Sc.h (cT) ?_|refine Sc.h (cA) ?_|refine Sc.h (cB) ?_|refine Sc.h (cO) ?_|refine Sc.h (cN) ?_|refine Sc.h (cP) ?_|refine Sc.h (cQ) ?_|(refine Sb.h ?_ ?_ ?_<;>(try intro hgd)<;>try exact Xy))<;>simp -implicitDefEqProofs (maxSteps:=2000000) [hP,hN,hal,hbl,hol,hnl]<;>try refine Ya ?_)|refine X2 ?_ ?_|(refine Xd ?_ ?_<;>intro hcd<;>try exact Xx))
  refine WP.loopN [] t.maps.length (fun i st=>st.t 9=.ptr 9 0∧st.h 9=some (.box [.pv (.sl (t.maps.map aV)),.pv (.val (.slice none 0 0))] true false)∧st.t 10=.arr 24 t.maps.length∧st.t 11=.arr 27 t.maps.length∧(∃ f,st.h 24=some (.row 3 1 (a.map Z) f))∧(∃ f,st.h 27=some (.row 3 1 (b.map Z) f))∧st.t 12=.pv (.sl [])∧st.t 14=.pv (.sl [])∧st.t 13=.pv (B false)∧st.t 15=.pv (B false)∧st.t 16=.pv (B (fA f i))∧st.t 17=.pv (Z i)) (by simp [fA]) ?_
  rintro i st hi ⟨g9,b9,g10,g11,⟨f1,b24⟩,⟨f2,b27⟩,g12,g14,g13,g15,g16,g17⟩
  by_cases hlt : i < t.maps.length
  ·have hwi:=ak hlt (by omega)
   obtain ⟨mp,s0,g0,h1,h2,h3,c9⟩:=cH i hlt
   have hfs:=pg f i
   have hdz:=tJ (f i)
   have e1:=(List.getElem?_eq_some_iff.1 h1).2
   have e2:=(List.getElem?_eq_some_iff.1 h2).2
   have e3:=(List.getElem?_eq_some_iff.1 h3).2
   have hia : i < a.length:=by omega
   have hib : i < b.length:=by omega
   have hiz : (i : Int) < (t.maps.length : Int):=by omega
   generalize fA f (i+1)=r1 at *
   generalize fA f i=r0 at *
   generalize f i=fi at *
   generalize fz fi=fzi at *
   cases r0 with
   |true=>
    with_reducible repeat' (first|refine Sp.h ?_|((first|refine Wd ?_|refine Ss.h ?_|refine Sc.h (c9) ?_|(refine Sb.h ?_ ?_ ?_<;>(try intro hgd)<;>try exact Xy))<;>simp -implicitDefEqProofs (maxSteps:=2000000) [hP,hN,hal,hbl,g9,b9,g10,g11,b24,b27,g12,g14,g13,g15,g16,g17,hlt,hwi,h1,h2,h3,e1,e2,e3,hia,hib,hiz]<;>try refine Ya ?_)|refine X2 ?_ ?_|(refine Xd ?_ ?_<;>intro hcd<;>try exact Xx))
    all_goals rw [hfs,hdz];rfl
   |false=>
    with_reducible repeat' (first|refine Sp.h ?_|((first|refine Wd ?_|refine Ss.h ?_|refine Sc.h (c9) ?_|(refine Sb.h ?_ ?_ ?_<;>(try intro hgd)<;>try exact Xy))<;>simp -implicitDefEqProofs (maxSteps:=2000000) [hP,hN,hal,hbl,g9,b9,g10,g11,b24,b27,g12,g14,g13,g15,g16,g17,hlt,hwi,h1,h2,h3,e1,e2,e3,hia,hib,hiz]<;>try refine Ya ?_)|refine X2 ?_ ?_|(refine Xd ?_ ?_<;>intro hcd<;>try exact Xx))
    all_goals rw [hfs];rfl
  ·have hiq : i=t.maps.length:=by omega
   rw [hiq] at g16
   rw [← hall] at g16
   with_reducible repeat' (first|refine Sp.h ?_|((first|refine Wd ?_|refine Ss.h ?_|refine Sc.h (c0) ?_|refine Sc.h (cS) ?_|(refine Sb.h ?_ ?_ ?_<;>(try intro hgd)<;>try exact Xy))<;>simp -implicitDefEqProofs (maxSteps:=2000000) [hP,hN,hal,hbl,g9,b9,g10,g11,b24,b27,g12,g14,g13,g15,g16,g17,hlt]<;>try refine Ya ?_)|refine X2 ?_ ?_|(refine Xd ?_ ?_<;>intro hcd<;>try exact Xx))
 |some q=>
  rw [hp] at cP cQ hall
  obtain ⟨hql,_,_,hq65⟩:=jn hp
  obtain ⟨_,hA4⟩:=hA2 q hp
  have cS:=tG q q (by omega) (fun x hx=>by have:=hq65 x hx;omega)
  rw [decide_eq_true rfl] at cS
  have hqz : ((q.length : Nat) : Int)=((t.maps.length : Nat) : Int):=by omega
  refine Dp Try.func7 ?_
  intro C hP hN
  simp only [Try.f7] at hN ⊢
  with_reducible repeat' (first|refine Sp.h ?_|((first|refine Wd ?_|refine Ss.h ?_|refine Sc.h (c0) ?_|refine Sc.h (cT) ?_|refine Sc.h (cA) ?_|refine Sc.h (cB) ?_|refine Sc.h (cO) ?_|refine Sc.h (cN) ?_|refine Sc.h (cP) ?_|refine Sc.h (cQ) ?_|(refine Sb.h ?_ ?_ ?_<;>(try intro hgd)<;>try exact Xy))<;>simp -implicitDefEqProofs (maxSteps:=2000000) [hP,hN,hal,hbl,hol,hnl]<;>try refine Ya ?_)|refine X2 ?_ ?_|(refine Xd ?_ ?_<;>intro hcd<;>try exact Xx))
  refine WP.loopN [] t.maps.length (fun i st=>st.t 9=.ptr 9 0∧st.h 9=some (.box [.pv (.sl (t.maps.map aV)),.pv (.val (.slice none 0 0))] true false)∧st.t 10=.arr 24 t.maps.length∧st.t 11=.arr 27 t.maps.length∧(∃ f,st.h 24=some (.row 3 1 (a.map Z) f))∧(∃ f,st.h 27=some (.row 3 1 (b.map Z) f))∧st.t 12=.pv (.sl (q.map zs))∧st.t 14=.pv (.sl (q.map zs))∧st.t 13=.pv (B true)∧st.t 15=.pv (B true)∧st.t 16=.pv (B (fA f i))∧st.t 17=.pv (Z i)) (by simp [fA]) ?_
  rintro i st hi ⟨g9,b9,g10,g11,⟨f1,b24⟩,⟨f2,b27⟩,g12,g14,g13,g15,g16,g17⟩
  by_cases hlt : i < t.maps.length
  ·have hwi:=ak hlt (by omega)
   obtain ⟨mp,s0,g0,h1,h2,h3,c9⟩:=cH i hlt
   obtain ⟨x,hx1,hx2⟩:=hA4 i hlt
   have cAr:=tL x (by have:=hq65 x (List.mem_of_getElem? hx1);omega)
   rw [← hx2] at c9
   have hfs:=pg f i
   rw [← hx2] at hfs
   have e1:=(List.getElem?_eq_some_iff.1 h1).2
   have e2:=(List.getElem?_eq_some_iff.1 h2).2
   have e3:=(List.getElem?_eq_some_iff.1 h3).2
   have e4:=(List.getElem?_eq_some_iff.1 hx1).2
   have e5:=(List.getElem?_eq_some_iff.1 hx1).1
   have hia : i < a.length:=by omega
   have hib : i < b.length:=by omega
   have hiz : (i : Int) < (t.maps.length : Int):=by omega
   rw [show fz (some (aH x))=((aH x : Nat) : Int) from rfl] at c9
   rw [Option.isSome_some,Bool.and_true] at hfs
   rw [hfs]
   generalize fA f i=r0 at *
   generalize aH x=ax at *
   have hax : (0 : Int)≤(ax : Int):=by omega
   have hax2 : ¬ (ax : Int) < 0:=by omega
   cases r0 with
   |true=>
    with_reducible repeat' (first|refine Sp.h ?_|((first|refine Wd ?_|refine Ss.h ?_|refine Sc.h (c9) ?_|refine Sc.h (cAr) ?_|(refine Sb.h ?_ ?_ ?_<;>(try intro hgd)<;>try exact Xy))<;>simp -implicitDefEqProofs (maxSteps:=2000000) [hP,hN,hal,hbl,g9,b9,g10,g11,b24,b27,g12,g14,g13,g15,g16,g17,hlt,hwi,h1,h2,h3,e1,e2,e3,e4,e5,hx1,hql,hqz,hia,hib,hiz,hax,hax2]<;>try refine Ya ?_)|refine X2 ?_ ?_|(refine Xd ?_ ?_<;>intro hcd<;>try exact Xx))
   |false=>
    with_reducible repeat' (first|refine Sp.h ?_|((first|refine Wd ?_|refine Ss.h ?_|refine Sc.h (c9) ?_|refine Sc.h (cAr) ?_|(refine Sb.h ?_ ?_ ?_<;>(try intro hgd)<;>try exact Xy))<;>simp -implicitDefEqProofs (maxSteps:=2000000) [hP,hN,hal,hbl,g9,b9,g10,g11,b24,b27,g12,g14,g13,g15,g16,g17,hlt,hwi,h1,h2,h3,e1,e2,e3,e4,e5,hx1,hql,hqz,hia,hib,hiz,hax,hax2]<;>try refine Ya ?_)|refine X2 ?_ ?_|(refine Xd ?_ ?_<;>intro hcd<;>try exact Xx))
  ·have hiq : i=t.maps.length:=by omega
   rw [hiq] at g16
   rw [← hall] at g16
   with_reducible repeat' (first|refine Sp.h ?_|((first|refine Wd ?_|refine Ss.h ?_|refine Sc.h (c0) ?_|refine Sc.h (cS) ?_|(refine Sb.h ?_ ?_ ?_<;>(try intro hgd)<;>try exact Xy))<;>simp -implicitDefEqProofs (maxSteps:=2000000) [hP,hN,hal,hbl,g9,b9,g10,g11,b24,b27,g12,g14,g13,g15,g16,g17,hlt]<;>try refine Ya ?_)|refine X2 ?_ ?_|(refine Xd ?_ ?_<;>intro hcd<;>try exact Xx))
end Go.Ab
