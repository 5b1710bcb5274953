/- The contracts and facts that the laws of this seat need, in one text (SrtL, M15, M16, M17, Ab32, Ab33, M18, M19, M20, M21, M22, M23, M24, M25, M26, M27, M28, M29, Py7, M30, M31, M32, M33, M34). -/
import Derived.Test.YtkjjgiigiiokoaaX6
import Derived.Ground.NamesProg
set_option linter.all false
set_option maxHeartbeats 16000000
namespace Go.Ab
open Go.Proofs Go.Shelf Go.Sort
def vS (x : Nat) : Nat:=match x with
 |189=>52
 |125=>67
 |257=>66
 |128=>83
 |129=>84
 |294=>74
 |295=>75
 |296=>76
 |297=>77
 |298=>78
 |299=>79
 |216=>80
 |300=>81
 |301=>82
 |328=>86
 |329=>87
 |330=>88
 |331=>89
 |332=>90
 |215=>91
 |343=>92
 |n=>n
def vT (x : Nat) : Nat:=match x with
 |28=>26
 |3=>3
 |46=>110
 |0=>0
 |51=>124
 |53=>126
 |4=>4
 |183=>116
 |182=>115
 |131=>121
 |5=>5
 |9=>9
 |218=>128
 |222=>132
 |228=>134
 |229=>135
 |n=>n
def uS : Ren:=⟨vS,vT,fun x=>x⟩
theorem uT : Lays.n189 Try.prog uS:=
 { mixed:=by kernel_rfl,
   f125:=Try.func67.trans (congrArg some (by kernel_rfl)),
   f128:=Try.func83.trans (congrArg some (by kernel_rfl)),
   f129:=Try.func84.trans (congrArg some (by kernel_rfl)),
   f189:=Try.func52.trans (congrArg some (by kernel_rfl)),
   f215:=Try.func91.trans (congrArg some (by kernel_rfl)),
   f216:=Try.func80.trans (congrArg some (by kernel_rfl)),
   f257:=Try.func66.trans (congrArg some (by kernel_rfl)),
   f294:=Try.func74.trans (congrArg some (by kernel_rfl)),
   f295:=Try.func75.trans (congrArg some (by kernel_rfl)),
   f296:=Try.func76.trans (congrArg some (by kernel_rfl)),
   f297:=Try.func77.trans (congrArg some (by kernel_rfl)),
   f298:=Try.func78.trans (congrArg some (by kernel_rfl)),
   f299:=Try.func79.trans (congrArg some (by kernel_rfl)),
   f300:=Try.func81.trans (congrArg some (by kernel_rfl)),
   f301:=Try.func82.trans (congrArg some (by kernel_rfl)),
   f328:=Try.func86.trans (congrArg some (by kernel_rfl)),
   f329:=Try.func87.trans (congrArg some (by kernel_rfl)),
   f330:=Try.func88.trans (congrArg some (by kernel_rfl)),
   f331:=Try.func89.trans (congrArg some (by kernel_rfl)),
   f332:=Try.func90.trans (congrArg some (by kernel_rfl)),
   f343:=Try.func92.trans (congrArg some (by kernel_rfl)),
   t0:=Try.underlying0,
   a0:=Try.isAgg0,
   z0:=Try.sizeOf0,
   v0:=Try.zeroValue0,
   t3:=Try.underlying3,
   a3:=Try.isAgg3,
   z3:=Try.sizeOf3,
   v3:=Try.zeroValue3,
   t4:=Try.underlying4,
   a4:=Try.isAgg4,
   z4:=Try.sizeOf4,
   v4:=Try.zeroValue4,
   t5:=Try.underlying5,
   a5:=Try.isAgg5,
   z5:=Try.sizeOf5,
   v5:=Try.zeroValue5,
   t9:=Try.underlying9,
   a9:=Try.isAgg9,
   z9:=Try.sizeOf9,
   v9:=Try.zeroValue9,
   t28:=Try.underlying26,
   a28:=Try.isAgg26,
   z28:=Try.sizeOf26,
   v28:=Try.zeroValue26,
   t46:=Try.underlying110,
   a46:=Try.isAgg110,
   z46:=Try.sizeOf110,
   v46:=Try.zeroValue110,
   t51:=Try.underlying124,
   a51:=Try.isAgg124,
   z51:=Try.sizeOf124,
   v51:=Try.zeroValue124,
   t53:=Try.underlying126,
   a53:=Try.isAgg126,
   z53:=Try.sizeOf126,
   v53:=Try.zeroValue126,
   t131:=Try.underlying121,
   a131:=Try.isAgg121,
   z131:=Try.sizeOf121,
   v131:=Try.zeroValue121,
   t182:=Try.underlying115,
   a182:=Try.isAgg115,
   z182:=Try.sizeOf115,
   v182:=Try.zeroValue115,
   t183:=Try.underlying116,
   a183:=Try.isAgg116,
   z183:=Try.sizeOf116,
   v183:=Try.zeroValue116,
   t218:=Try.underlying128,
   a218:=Try.isAgg128,
   z218:=Try.sizeOf128,
   v218:=Try.zeroValue128,
   t222:=Try.underlying132,
   a222:=Try.isAgg132,
   z222:=Try.sizeOf132,
   v222:=Try.zeroValue132,
   t228:=Try.underlying134,
   a228:=Try.isAgg134,
   z228:=Try.sizeOf134,
   v228:=Try.zeroValue134,
   t229:=Try.underlying135,
   a229:=Try.isAgg135,
   z229:=Try.sizeOf135,
   v229:=Try.zeroValue135 }
theorem qR : qu Try.prog 52:=⟨by kernel_rfl,fun blk cap zs w hH hblk hsz=>Any.slices_Sort_int uT blk 0 cap zs w hH hblk hsz⟩
end Go.Ab
namespace Go.Ab
open Go.Proofs Go.Sort
def nV (x : Nat) : Nat:=match Nat.ble 300 x with
 |true=>300
 |false=>x
theorem jm (x : Nat) : ∀ l : List Nat,l.contains x=true→(l.map nV).contains (nV x)=true
 |[],h=>h
 |a :: l,h=>by
  rw [List.contains_cons,Bool.or_eq_true,beq_iff_eq] at h
  rw [List.map_cons,List.contains_cons,Bool.or_eq_true,beq_iff_eq]
  rcases h with h|h
  ·exact .inl (by rw [h])
  ·exact .inr (jm x l h)
theorem nW {a b : List Nat} (h : nK (a.map nV) (b.map nV)=true) : nK a b=true:=by
 unfold nK at *
 rw [List.all_eq_true] at *
 intro x hx
 have:=h (nV x) (List.mem_map_of_mem hx)
 rw [Bool.not_eq_true'] at *
 rw [← Bool.not_eq_true];intro h9
 rw [jm x b h9] at this;cases this
def yk (acc : eY) : eY:=acc.map fun x=>(x.1.map nV,x.2.map nV)
theorem qA {ts : List Nat} {acc : eY} (h : eB ts (yk acc)=true) : eB ts acc=true:=by
 unfold eB yk at *
 rw [List.length_map] at h
 rw [List.all_eq_true] at *
 intro j hj
 have h1:=h j hj
 rw [List.all_eq_true] at *
 intro i hi
 have h2:=h1 i hi
 rw [List.getElem?_map,List.getElem?_map] at h2
 cases ha : acc[i]? with
 |none=>rfl
 |some a=>cases hb : acc[j]? with
  |none=>rfl
  |some b=>
   rw [ha,hb] at h2
   simp only [Option.map_some,Bool.or_eq_true,Bool.and_eq_true] at h2 ⊢
   exact h2.imp (fun h=>⟨nW h.1,nW h.2⟩) id
theorem Yc {ts : List Nat} {acc : eY} {b : Prop} (h : b) (k : eB ts (yk acc)=true:=by kernel_rfl) : eB ts acc=true∧b:=⟨qA k,h⟩
section
variable {C : Cx} {Q : Exit→St→Prop} {st : St}
theorem WP.sortAt {hn : List Nat} {id : Nat} {ops : Array Oper} (n : Nat) {o : Oper} {f x : Operand} {ats : Array TypeId} (ho : ops.toList[n]?=some o) (hop : o.op=.call { callee:=.value f,args:=#[x],argTypes:=ats }) (hg : o.guard=none)
 (hq : cC C.P hn C.N ops (rV C (cC C.P hn C.N ops (Q .normal) (ops.toList.drop (n+1))) f x o.dst) (ops.toList.take n) st) : WP C (.region id ops false) Q st:=by
 refine WP.sort (pre:=ops.toList.take n) (post:=ops.toList.drop (n+1)) (o:=o) ?_ hop hg hq
 have hlt:=(List.getElem?_eq_some_iff.1 ho).1
 have he:=(List.getElem?_eq_some_iff.1 ho).2
 rw [← he,List.getElem_cons_drop,List.take_append_drop]
end
theorem nX {f : Nat→List Int} {h : Hp} : ∀ (l : List Nat),(∀ v ∈ l,h (v+300)=some (.row 3 1 (bZ (f v)) 0))→∃ W,bh h (l.map fun v=>.arr (v+300) (f v).length)=some (l.map fun v=>.sl (bZ (f v)),W)
 |[],_=>⟨[],rfl⟩
 |v :: l,hh=>by
  obtain ⟨W,hW⟩:=nX l fun w hw=>hh w (by simp [hw])
  have h1:=hh v (by simp)
  have h2 : (bZ (f v)).length=(f v).length:=by simp
  refine ⟨[(v+300,.row 3 1 (bZ (f v)) (bZ (f v)).length)]++W,?_⟩
  simp only [List.map_cons,bh,c8,h1,h2,if_true,hW]
theorem ce {cs : List AV} {i : Nat} {x : AV} (h : i < cs.length) : cs.take i++x :: cs.drop (i+1)=cs.set i x:=by
 rw [List.set_eq_take_append_cons_drop,if_pos h]
def c1 (i n : Nat) : List AV:=(List.range n).map fun w=>if w < i then .arr (w+300) 1 else bf
theorem qB (i n : Nat) : (c1 i n).length=n:=by simp [c1]
theorem sm (n : Nat) : c1 0 n=List.replicate n bf:=by
 simp [c1,List.map_const']
theorem sn {i n : Nat} (x : AV) : ((c1 i n).set i x).set i (.arr (i+300) 1)=c1 (i+1) n:=by
 rw [List.set_set]
 apply List.ext_getElem?
 intro w
 rw [List.getElem?_set]
 simp only [qB]
 by_cases hw : w < n
 ·by_cases e : i=w
  ·subst e;simp [c1,hw]
  ·simp [c1,hw,e,show (w < i+1↔w < i) by omega]
 ·by_cases e : i=w
  ·subst e;simp [c1,hw]
  ·simp [c1,hw,e]
def cF (f : Nat→List Int) (n : Nat) : List AV:=(List.range n).map fun v=>.arr (v+300) (f v).length
def rF (f : Nat→List Int) (n : Nat) (h : Hp) : Prop:=∀ v,v < n→h (v+300)=some (.row 3 1 (bZ (f v)) 0)
theorem tp (n : Nat) (es : List av) : c1 n n=cF (fun v=>aZ es v 0) n:=by
 unfold c1 cF
 refine List.map_congr_left fun v hv=>?_
 rw [if_pos (List.mem_range.1 hv)];rfl
theorem sq (i n : Nat) : (c1 i n).map (bc [])=c1 i n:=by
 unfold c1;rw [List.map_map]
 refine List.map_congr_left fun w _=>?_
 simp only [Function.comp];split<;>simp [eX,bp]
theorem hZ (f : Nat→List Int) (n : Nat) : (cF f n).map (bc [])=cF f n:=by
 unfold cF;rw [List.map_map]
 refine List.map_congr_left fun w _=>?_
 simp [eX,bp]
theorem lx (f : Nat→List Int) (n : Nat) : (cF f n).length=n:=by simp [cF]
theorem pO (f : Nat→List Int) {n v : Nat} (h : v < n) : (cF f n)[v]?=some (.arr (v+300) (f v).length):=by simp [cF,h]
theorem ia {f : Nat→List Int} {n : Nat} {st : St} (h : rF f n st.h) : rF f n (St.kill [] st).h:=by
 intro v hv
 have:=h v hv
 simp only [St.kill,List.contains_nil,Bool.false_eq_true,if_false,this]
 rfl
theorem ss {f g : Nat→List Int} {n u v : Nat} (hu : u < n) (hv : v < n) (hne : ¬ u=v) (h1 : (g u).length=(f u).length+1) (h2 : (g v).length=(f v).length+1) (h3 : ∀ w,w≠u→w≠v→(g w).length=(f w).length) :
 ((cF f n).set u (.arr (u+300) ((f u).length+1))).set v (.arr (v+300) ((f v).length+1))=cF g n:=by
 apply List.ext_getElem?
 intro w
 rw [List.getElem?_set,List.getElem?_set]
 simp only [List.length_set,lx]
 by_cases hw : w < n
 ·by_cases e2 : v=w
  ·subst e2;simp [cF,hw,h2]
  ·by_cases e1 : u=w
   ·subst e1;simp [cF,hw,e2,h1]
   ·simp [cF,hw,e1,e2,h3 w (fun e=>e1 e.symm) (fun e=>e2 e.symm)]
 ·rw [if_neg (by omega),if_neg (by omega)]
  simp [cF,hw]
theorem vi (m : aW) (hw9 : aS m=true) : am Try.prog 36 [.pv (aV m)] [] [] (.pv (.sl ((List.range m.np.length).map fun v=>zs (fI m v)))):=by
 have hw:=hw9
 simp only [aS,Bool.and_eq_true,decide_eq_true_eq] at hw
 obtain ⟨hn,he,hwg⟩:=hw
 obtain ⟨n,hnn⟩ : ∃ n,n=m.np.length:=⟨_,rfl⟩
 rw [← hnn] at hn hwg ⊢
 have q1 : ((n : Int)) * 24≤281474976710656:=by omega
 have q2 : (24 * (n : Int))≤281474976710656:=by omega
 have q3 : (n : Int)≤9223372036854775807:=by omega
 refine Dp Try.func36 ?_
 intro C hP hN
 simp only [Try.f36] at hN ⊢
 with_reducible repeat' (first|refine Sp.h ?_|((first|refine Wh [1000011] ?_|refine Wi [1000011] ?_|refine Ss.h ?_|(refine Sb.h ?_ ?_ ?_<;>(try intro hgd)<;>try exact Xy))<;>simp -implicitDefEqProofs (maxSteps:=2000000) [hP,hN,hnn.symm,q1,q2,q3]<;>try refine Ya ?_)|refine X2 ?_ ?_|(refine Xd ?_ ?_<;>intro hcd<;>try exact Xx))
 refine WP.loopN [] n (fun i st=>st.t 1=.ptr 1 0∧st.h 1=some (.box [.pv (.sl m.np),.pv (dP m.es)] true false)∧st.t 3=.ext (.barr 11 n)∧st.t 13=.pv (Z n)∧st.t 14=.pv (Z i)∧st.h 11=some (.box (c1 i n) true false)∧(∀ w,w < i→st.h (w+300)=some (.row 3 1 [Z w] 0))∧(∀ w,i≤w→st.h (w+300)=none)∧st.h 20=none) (by simp [sm];intro w;simp [jg,show ¬ w+300=11 by omega,show ¬ w+300=1 by omega,show ¬ 1000000≤w+300∨True by simp]) ?_
 rintro i st hi ⟨g1,b1,g3,g13,g14,b11,hr,hno,b20⟩
 by_cases hlt : i < n
 ·have hwr:=ak hlt (by omega)
  obtain ⟨cs,hcs⟩ : ∃ cs,cs=c1 i n:=⟨_,rfl⟩
  rw [← hcs] at b11
  have hcl : cs.length=n:=by rw [hcs,qB]
  have hsp : cs.take i++AV.arr 20 1 :: cs.drop (i+1)=cs.set i (.arr 20 1):=ce (by omega)
  have hlt1 : i+1≤n:=hlt
  have hltz : (i : Int) < (n : Int):=by omega
  with_reducible iterate 10 any_goals (first|refine Sp.h ?_|((first|refine Wh [20] ?_|refine Wi [20] ?_|refine Ss.h ?_|(refine Sb.h ?_ ?_ ?_<;>(try intro hgd)<;>try exact Xy))<;>simp -implicitDefEqProofs (maxSteps:=2000000) [hP,hN,g1,b1,g3,g13,g14,b11,b20,hlt,hlt1,hltz,hcl,hsp]<;>try refine Ya ?_)|refine X2 ?_ ?_|(refine Xd ?_ ?_<;>intro hcd<;>try exact Xx))
  refine WP.rename 11 i 20 (i+300) (blk:=.row 3 1 [Z i] 0) (x:=.arr 20 1) (y:=.arr (i+300) 1) (cs:=cs.set i (.arr 20 1)) (own:=true) (fb:=false) (by simp) (by simp [hno i (Nat.le_refl _),show ¬ i+300=11 by omega,show ¬ i+300=20 by omega]) (by omega) (by simp) (by simp [hcl,hlt]) ⟨rfl,rfl⟩ ?_ ?_
  ·intro w c hc hne
   rw [List.getElem?_set,if_neg (fun e=>hne e.symm),hcs] at hc
   simp only [c1,List.getElem?_map,Option.map_eq_some_iff] at hc
   obtain ⟨q,hq,rfl⟩:=hc
   split<;>simp [eX,bp]
  rw [hcs,sn]
  with_reducible repeat' (first|refine Sp.h ?_|((first|refine Wd ?_|refine Ss.h ?_|(refine Sb.h ?_ ?_ ?_<;>(try intro hgd)<;>try exact Xy))<;>simp -implicitDefEqProofs (maxSteps:=2000000) [hP,hN,gV,g1,b1,g3,g13,g14,b11,b20,hwr]<;>try refine Ya ?_)|refine X2 ?_ ?_|(refine Xd ?_ ?_<;>intro hcd<;>try exact Xx))
  refine ⟨by simp [sq],fun w hw=>?_,fun w hw=>?_⟩
  ·by_cases e : w=i
   ·subst e;exact ⟨_,if_pos rfl,rfl⟩
   ·rw [if_neg e,hr w (by omega)];exact ⟨_,rfl,rfl⟩
  ·rw [if_neg (by omega),hno w (by omega)];rfl
 ·have hin : i=n:=by omega
  subst hin
  rw [tp i m.es] at b11
  have hrf : rF (fun v=>aZ m.es v 0) i st.h:=fun v hv=>hr v hv
  clear hr hno
  have hsp:=cd hwg
  obtain ⟨E,hE⟩ : ∃ E,E=m.es.length:=⟨_,rfl⟩
  with_reducible repeat' (first|refine Sp.h ?_|((first|refine Wd ?_|refine Ss.h ?_|(refine Sb.h ?_ ?_ ?_<;>(try intro hgd)<;>try exact Xy))<;>simp -implicitDefEqProofs (maxSteps:=2000000) [hP,hN,g1,b1,g3,g13,g14,b11,b20]<;>try refine Ya ?_)|refine X2 ?_ ?_|(refine Xd ?_ ?_<;>intro hcd<;>try exact Xx))
  refine WP.loopN [] E (fun j st=>st.t 1=.ptr 1 0∧st.h 1=some (.box [.pv (.sl m.np),.pv (dP m.es)] true false)∧st.t 3=.ext (.barr 11 i)∧st.t 25=.pv (Z E)∧st.t 26=.pv (Z j)∧st.h 11=some (.box (cF (fun v=>aZ m.es v j) i) true false)∧rF (fun v=>aZ m.es v j) i st.h) (by simp [g1,b1,g3,b11,hE,hZ];exact ia (st:=⟨_,st.h⟩) hrf) ?_
  clear g1 b1 g3 g13 g14 b11 b20 hrf
  rintro j st hj ⟨g1,b1,g3,g25,g26,b11,hrf⟩
  by_cases hjl : j < E
  ·have hwr:=ak hjl (by omega)
   have hjE : j < m.es.length:=by omega
   have hjz : (j : Int) < (E : Int):=by omega
   have hxi : m.es[j]?=some m.es[j]:=List.getElem?_eq_getElem hjE
   have hed:=(hsp.1 _ (List.getElem_mem hjE)).1
   generalize hx : m.es[j]=e at *
   simp only [fS,Bool.and_eq_true,decide_eq_true_eq] at hed
   obtain ⟨u,hu⟩ : ∃ u : Nat,e.u=u:=⟨e.u.toNat,by omega⟩
   obtain ⟨v,hv⟩ : ∃ v : Nat,e.v=v:=⟨e.v.toNat,by omega⟩
   have huv : u < v∧v < i:=by omega
   have hnu : ∀ w,aZ m.es w (j+1)=aZ m.es w j++gz (some e) w:=fun w=>by rw [aZ,hxi]
   by_cases hs : e.s=1
   ·obtain ⟨cs,hcs⟩ : ∃ cs,cs=cF (fun v=>aZ m.es v j) i:=⟨_,rfl⟩
    rw [← hcs] at b11
    have hcl : cs.length=i:=by rw [hcs,lx]
    have hu1 : u+1≤i:=by omega
    have hv1 : v+1≤i:=by omega
    have hui : u < i:=by omega
    have hvi : v < i:=by omega
    have hne1 : ¬ u=v:=by omega
    have hne2 : ¬ v=u:=by omega
    have ru : st.h (u+300)=some (.row 3 1 (bZ (aZ m.es u j)) 0):=hrf u hui
    have rv : st.h (v+300)=some (.row 3 1 (bZ (aZ m.es v j)) 0):=hrf v hvi
    have cu : cs[u]?=some (.arr (u+300) (aZ m.es u j).length):=by rw [hcs];exact pO _ hui
    have cv : cs[v]?=some (.arr (v+300) (aZ m.es v j).length):=by rw [hcs];exact pO _ hvi
    have cu' : ∀ h,cs[u]'h=.arr (u+300) (aZ m.es u j).length:=fun h=>(List.getElem?_eq_some_iff.1 cu).2
    have cv' : ∀ h,cs[v]'h=.arr (v+300) (aZ m.es v j).length:=fun h=>(List.getElem?_eq_some_iff.1 cv).2
    have su : ∀ x,cs.take u++x :: cs.drop (u+1)=cs.set u x:=fun x=>ce (by omega)
    have sv : ∀ x y,(cs.set u x).take v++y :: (cs.set u x).drop (v+1)=(cs.set u x).set v y:=fun x y=>ce (by simp;omega)
    have lu:=jU m.es u j
    have lv:=jU m.es v j
    have hfin : (cs.set u (.arr (u+300) ((aZ m.es u j).length+1))).set v (.arr (v+300) ((aZ m.es v j).length+1))=cF (fun v=>aZ m.es v (j+1)) i:=by
     rw [hcs];exact ss hui hvi hne1 (by rw [hnu];simp [gz,hs,hu]) (by rw [hnu];simp [gz,hs,hu,hv];rw [if_neg (by omega)];rfl) (fun w h1 h2=>by rw [hnu];simp only [gz,hs,hu,hv,if_true];rw [if_neg (by omega),if_neg (by omega)];simp)
    have hku : ¬ u+300=11:=by omega
    have hkv : ¬ v+300=11:=by omega
    have hau : aZ m.es u (j+1)=aZ m.es u j++[e.v]:=by rw [hnu];simp [gz,hs,hu]
    have hav : aZ m.es v (j+1)=aZ m.es v j++[e.u]:=by rw [hnu];simp only [gz,hs,hu,hv,if_true];rw [if_neg (by omega)]
    have haw : ∀ w,w≠u→w≠v→aZ m.es w (j+1)=aZ m.es w j:=fun w h1 h2=>by rw [hnu];simp only [gz,hs,hu,hv,if_true];rw [if_neg (by omega),if_neg (by omega)];simp
    generalize hzu : aZ m.es u j=zu at *
    generalize hzv : aZ m.es v j=zv at *
    have lu2 : (bZ zu).length=zu.length:=by simp
    have lv2 : (bZ zv).length=zv.length:=by simp
    with_reducible repeat' (first|refine Sp.h ?_|((first|refine Wd ?_|refine Ss.h ?_|(refine Sb.h ?_ ?_ ?_<;>(try intro hgd)<;>try exact Xy))<;>simp -implicitDefEqProofs (maxSteps:=2000000) [hP,hN,g1,b1,g3,g25,g26,b11,hjE,hjz,hwr,hx,hxi,hs,hu,hv,hcl,hu1,hv1,hui,hvi,hne1,hne2,ru,rv,cu,cv,cu',cv',su,sv,lu2,lv2,hku,hkv,show ¬ 11=u+300 by omega,show ¬ 11=v+300 by omega,show u+300 < 2000000 by omega,show v+300 < 2000000 by omega,hE.symm,show (zu.length+1) * 8≤140737488355328 by omega,show (zv.length+1) * 8≤140737488355328 by omega,show zu.length+1≤9223372036854775807 by omega,show zv.length+1≤9223372036854775807 by omega]<;>try refine Yc ?_)|refine X2 ?_ ?_|(refine Xd ?_ ?_<;>intro hcd<;>try exact Xx))
    refine ⟨hjl,by rw [show cs.map (bc [])=cs by rw [hcs];exact hZ _ _];exact hfin,ia (st:=⟨_,_⟩) ?_⟩
    intro w hw
    by_cases e1 : w=v
    ·subst e1;simp [hav,hzv,hu]
    ·by_cases e2 : w=u
     ·subst e2;simp [hau,hzu,hv,e1]
     ·have:=hrf w hw
      simp [haw w e2 e1,e1,e2,this]
   ·have hsame : (fun w=>aZ m.es w (j+1))=fun w=>aZ m.es w j:=by
     funext w;rw [hnu];simp [gz,hs]
    have hs' : (e.s==1)=false:=by simp [hs]
    rw [hsame]
    with_reducible repeat' (first|refine Sp.h ?_|((first|refine Wd ?_|refine Ss.h ?_|(refine Sb.h ?_ ?_ ?_<;>(try intro hgd)<;>try exact Xy))<;>simp -implicitDefEqProofs (maxSteps:=2000000) [hP,hN,g1,b1,g3,g25,g26,b11,hjE,hjz,hwr,hx,hxi,hs,hs',hE.symm]<;>try refine Ya ?_)|refine X2 ?_ ?_|(refine Xd ?_ ?_<;>intro hcd<;>try exact Xx))
    all_goals exact ⟨hjl,hZ _ _,ia (st:=⟨_,st.h⟩) hrf⟩
  ·have hjE : j=E:=by omega
   subst hjE
   have hjE : ¬ j < m.es.length:=by omega
   with_reducible repeat' (first|refine Sp.h ?_|((first|refine Wd ?_|refine Ss.h ?_|(refine Sb.h ?_ ?_ ?_<;>(try intro hgd)<;>try exact Xy))<;>simp -implicitDefEqProofs (maxSteps:=2000000) [hP,hN,g1,b1,g3,g25,g26,b11,hjE,hE.symm]<;>try refine Ya ?_)|refine X2 ?_ ?_|(refine Xd ?_ ?_<;>intro hcd<;>try exact Xx))
   refine WP.loopN [] i (fun k st=>st.t 3=.ext (.barr 11 i)∧st.t 78=.pv (Z i)∧st.t 79=.pv (Z k)∧st.h 11=some (.box (cF (fun v=>aZ m.es v j) i) true false)∧rF (fun v=>if v < k then fI m v else aZ m.es v j) i st.h) (by simp [g3,b11,hZ];exact ia (st:=⟨_,st.h⟩) hrf) ?_
   clear g1 b1 g3 g25 g26 b11 hrf
   rintro k st hk ⟨g3,g78,g79,b11,hrf⟩
   by_cases hkl : k < i
   ·have hwr:=ak hkl (by omega)
    have hkz : (k : Int) < (i : Int):=by omega
    obtain ⟨cs,hcs⟩ : ∃ cs,cs=cF (fun v=>aZ m.es v j) i:=⟨_,rfl⟩
    rw [← hcs] at b11
    have hcl : cs.length=i:=by rw [hcs,lx]
    have ck : cs[k]?=some (.arr (k+300) (aZ m.es k j).length):=by rw [hcs];exact pO _ hkl
    have ck' : ∀ h,cs[k]'h=.arr (k+300) (aZ m.es k j).length:=fun h=>(List.getElem?_eq_some_iff.1 ck).2
    have hkl1 : k+1≤i:=hkl
    have rk : st.h (k+300)=some (.row 3 1 (bZ (aZ m.es k j)) 0):=by have:=hrf k hkl;simpa only [Nat.lt_irrefl,if_false] using this
    with_reducible iterate 9 any_goals (first|refine Sp.h ?_|((first|refine Wd ?_|refine Ss.h ?_|(refine Sb.h ?_ ?_ ?_<;>(try intro hgd)<;>try exact Xy))<;>simp -implicitDefEqProofs (maxSteps:=2000000) [hP,hN,g3,g78,g79,b11,hkl,hkl1,hkz,hcl,ck,ck']<;>try refine Ya ?_)|refine X2 ?_ ?_|(refine Xd ?_ ?_<;>intro hcd<;>try exact Xx))
    refine WP.sortAt (hn:=[]) 4 rfl rfl rfl ?_
    simp -implicitDefEqProofs (maxSteps:=2000000) [hP,hN,g3,g78,g79,b11,hkl,hkl1,hkz,hcl,ck,ck']
    have hlk:=jU m.es k j
    refine ⟨52,k+300,3,aZ m.es k j,rfl,by rw [hP];exact qR,by simp,rk,by intro h9;rw [h9] at hlk;simp at hlk,by omega,by simp [hN],?_⟩
    have hnx : (aZ m.es k j).mergeSort (fun x y=>decide (x≤y))=fI m k:=by rw [fI,← hE]
    rw [hnx]
    simp -implicitDefEqProofs (maxSteps:=2000000) [hP,hN]
    with_reducible repeat' (first|refine Sp.h ?_|((first|refine Wd ?_|refine Ss.h ?_|(refine Sb.h ?_ ?_ ?_<;>(try intro hgd)<;>try exact Xy))<;>simp -implicitDefEqProofs (maxSteps:=2000000) [hP,hN,g3,g78,g79,b11,hwr]<;>try refine Ya ?_)|refine X2 ?_ ?_|(refine Xd ?_ ?_<;>intro hcd<;>try exact Xx))
    refine ⟨by rw [show cs.map (bc [])=cs by rw [hcs];exact hZ _ _];exact hcs,ia (st:=⟨_,_⟩) ?_⟩
    intro w hw
    by_cases e1 : w=k
    ·subst e1;simp
    ·have:=hrf w hw
     simp only at this ⊢
     rw [show (if w < k+1 then fI m w else aZ m.es w j)=if w < k then fI m w else aZ m.es w j by
      by_cases h9 : w < k
      ·rw [if_pos h9,if_pos (by omega)]
      ·rw [if_neg h9,if_neg (by omega)]]
     simp [e1,this]
   ·have hki : k=i:=by omega
    subst hki
    have hcF : cF (fun v=>aZ m.es v j) k=cF (fI m) k:=by
     unfold cF;refine List.map_congr_left fun v _=>?_
     simp [fI,← hE]
    rw [hcF] at b11
    have hrn : rF (fI m) k st.h:=fun v hv=>by have:=hrf v hv;simpa [hv] using this
    obtain ⟨W,hW⟩:=nX (f:=fI m) (h:=st.h) (List.range k) (fun v hv=>hrn v (List.mem_range.1 hv))
    obtain ⟨cs,hcs⟩ : ∃ cs,cs=cF (fI m) k:=⟨_,rfl⟩
    have hW' : bh st.h cs=some ((List.range k).map (fun v=>.sl (bZ (fI m v))),W):=by rw [hcs];exact hW
    rw [← hcs] at b11
    have hcl : cs.length=k:=by rw [hcs,lx]
    obtain ⟨ps,hps⟩ : ∃ ps,ps=(List.range k).map (fun v=>PV.sl (bZ (fI m v))):=⟨_,rfl⟩
    rw [← hps] at hW'
    have hone : ps.all dA=true:=by rw [hps,List.all_eq_true];intro x hx;obtain ⟨v,_,rfl⟩:=List.mem_map.1 hx;rfl
    rw [show ((List.range k).map fun v=>zs (fI m v))=ps from hps.symm]
    have hone':=List.all_eq_true.1 hone
    with_reducible repeat' (first|refine Sp.h ?_|((first|refine Wd ?_|refine Ss.h ?_|(refine Sb.h ?_ ?_ ?_<;>(try intro hgd)<;>try exact Xy))<;>simp -implicitDefEqProofs (maxSteps:=2000000) [hP,hN,g3,g78,g79,b11,hW',hcl,hone]<;>try refine Ya ?_)|refine X2 ?_ ?_|(refine Xd ?_ ?_<;>intro hcd<;>try exact Xx))
    all_goals (intro x hx;rw [hps] at hx;obtain ⟨v,_,rfl⟩:=List.mem_map.1 hx;rfl)
end Go.Ab
namespace Go.Ab
open Go.Proofs
theorem gL : ∀ (es : List (List Int × Value)) (is : List Int) (u : Value) (js : List Int),eM (fl es is u) js=if is=js then some u else eM es js
 |[],is,u,js=>by simp [fl,eM]
 |(k,v) :: r,is,u,js=>by
  simp only [fl]
  by_cases h1 : k=is
  ·subst h1
   rw [if_pos rfl]
   by_cases h2 : k=js<;>simp [eM,h2]
  ·rw [if_neg h1]
   simp only [eM]
   rw [gL r is u js]
   by_cases h2 : k=js
   ·subst h2
    simp [show ¬ is=k from fun e=>h1 e.symm]
   ·simp [h2]
def rZ (b : Bool) (es : List (List Int × Value)) (k : List Int) : List (List Int × Value):=if b=true then fl es k (.bool true) else es
def cE (plan : List (List Int)) (arm : Int) (tick : Nat) (es : List (List Int × Value)) (c : Mov × Mov) : List (List Int × Value):=
 rZ (c.2.a==arm && bS plan c.1 tick) (rZ (c.1.a==arm && bS plan c.2 tick) es [c.1.f,c.1.t]) [c.2.f,c.2.t]
def ij (cs : List (Mov × Mov)) (plan : List (List Int)) (arm : Int) (tick : Nat) : Nat→List (List Int × Value)
 |0=>[]
 |i+1=>match cs[i]? with
  |some c=>cE plan arm tick (ij cs plan arm tick i) c
  |none=>ij cs plan arm tick i
theorem o3 (cs : List (Mov × Mov)) (plan : List (List Int)) (arm : Int) (tick : Nat) (f to : Int) : ∀ i,eM (ij cs plan arm tick i) [f,to]=if (cs.take i).any (jx plan arm tick f to)=true then some (.bool true) else none
 |0=>by simp [ij,eM]
 |i+1=>by
  have ih:=o3 cs plan arm tick f to i
  by_cases hi : i < cs.length
  ·rw [ij,List.getElem?_eq_getElem hi]
   simp only
   generalize hc : cs[i]=c
   rw [List.take_succ_eq_append_getElem hi,List.any_append,hc]
   have hb : jx plan arm tick f to c=((c.1.a==arm && (bS plan c.2 tick && (c.1.f==f && c.1.t==to))) || (c.2.a==arm && (bS plan c.1 tick && (c.2.f==f && c.2.t==to)))):=rfl
   generalize (cs.take i).any (jx plan arm tick f to)=r at *
   simp only [List.any_cons,List.any_nil,Bool.or_false,hb,cE,rZ]
   cases h1 : (c.1.a==arm && bS plan c.2 tick)<;>cases h2 : (c.2.a==arm && bS plan c.1 tick)
   ·simp only [Bool.false_eq_true,if_false,ih,← Bool.and_assoc,h1,h2,Bool.false_and,Bool.or_false]
   ·simp only [Bool.false_eq_true,if_false,if_true,gL,ih,← Bool.and_assoc,h1,h2,Bool.false_and,Bool.true_and,Bool.false_or]
    by_cases h3 : c.2.f=f∧c.2.t=to
    ·simp [h3.1,h3.2]
    ·have : (c.2.f==f && c.2.t==to)=false:=by simpa using fun h=>fun g=>h3 ⟨h,g⟩
     rw [this,Bool.or_false,if_neg (by simpa using fun h=>fun g=>h3 ⟨h,g⟩)]
   ·simp only [Bool.false_eq_true,if_false,if_true,gL,ih,← Bool.and_assoc,h1,h2,Bool.false_and,Bool.true_and,Bool.or_false]
    by_cases h3 : c.1.f=f∧c.1.t=to
    ·simp [h3.1,h3.2]
    ·have : (c.1.f==f && c.1.t==to)=false:=by simpa using fun h=>fun g=>h3 ⟨h,g⟩
     rw [this,Bool.or_false,if_neg (by simpa using fun h=>fun g=>h3 ⟨h,g⟩)]
   ·simp only [if_true,gL,ih,← Bool.and_assoc,h1,h2,Bool.true_and]
    by_cases h3 : c.1.f=f∧c.1.t=to
    ·by_cases h4 : c.2.f=f∧c.2.t=to
     ·simp [h4.1,h4.2]
     ·have : (c.2.f==f && c.2.t==to)=false:=by simpa using fun h=>fun g=>h4 ⟨h,g⟩
      rw [this,Bool.or_false,if_neg (by simpa using fun h=>fun g=>h4 ⟨h,g⟩)]
      simp [h3.1,h3.2]
    ·have h5 : (c.1.f==f && c.1.t==to)=false:=by simpa using fun h=>fun g=>h3 ⟨h,g⟩
     rw [h5,Bool.false_or]
     by_cases h4 : c.2.f=f∧c.2.t=to
     ·simp [h4.1,h4.2]
     ·have : (c.2.f==f && c.2.t==to)=false:=by simpa using fun h=>fun g=>h4 ⟨h,g⟩
      rw [this,Bool.or_false,if_neg (by simpa using fun h=>fun g=>h4 ⟨h,g⟩),if_neg (by simpa using fun h=>fun g=>h3 ⟨h,g⟩)]
  ·rw [ij,List.getElem?_eq_none (by omega)]
   simp only [ih,List.take_of_length_le (show cs.length≤i by omega),List.take_of_length_le (show cs.length≤i+1 by omega)]
theorem sw {plan : List (List Int)} {m : Mov} {tick : Nat} {l : List Int} (h0 : 0≤m.a) (hx : plan[m.a.toNat]?=some l) : bS plan m tick=(decide (0 < l.length) && (l[tick]?==some m.f && l[tick+1]?==some m.t)):=by
 unfold bS;rw [hx];rfl
theorem ur (plan : List (List Int)) (m : Mov) (tick T : Nat) (h0 : 0≤m.a) (h1 : m.a.toNat < plan.length) (hp : ∀ l ∈ plan,l=[]∨l.length=T+1) (ht : tick < T) (hT : T≤64) : am Try.prog 53 [.pv (bz m),.pv (Z tick),.bx 0] [[.sl (plan.map zs)]] [[.sl (plan.map zs)]] (.pv (B (bS plan m tick))):=by
 obtain ⟨m1,m2,m3⟩:=m
 simp only at h0 h1
 obtain ⟨k,rfl⟩ : ∃ k : Nat,m1=k:=⟨m1.toNat,by omega⟩
 rw [Int.toNat_natCast] at h1
 have hx : plan[k]?=some plan[k]:=List.getElem?_eq_getElem h1
 have hmem:=hp _ (List.getElem_mem h1)
 rw [sw (plan:=plan) (m:=⟨k,m2,m3⟩) (l:=plan[k]) (by simp) (by simpa using hx)]
 generalize hxe : plan[k]=l at *
 rcases hmem with hl|hl
 ·subst hl
  refine eH Try.func53 rfl (by kernel_rfl) (by simp [Try.f53]) rfl (by intro i j h;rcases i with _|_|_|i<;>simp_all) ?_
  intro C hP hN
  simp only [Try.f53] at hN ⊢
  with_reducible repeat' (first|refine Sp.h ?_|((first|refine Wd ?_|refine Ss.h ?_|(refine Sb.h ?_ ?_ ?_<;>(try intro hgd)<;>try exact Xy))<;>simp -implicitDefEqProofs (maxSteps:=2000000) [hP,hN,hx,hxe,h1]<;>try refine Ya ?_)|refine X2 ?_ ?_|(refine Xd ?_ ?_<;>intro hcd<;>try exact Xx))
 ·have w1 : (0 : Int) < (l.length : Int):=by omega
  have w2 : 0 < l.length:=by omega
  have w3 : IntKind.i64.wrap ((tick : Int)+1)=((tick+1 : Nat) : Int):=by rw [IntKind.wrap_i64];omega
  obtain ⟨t1,ht1⟩ : ∃ t1,t1=tick+1:=⟨_,rfl⟩
  rw [← ht1] at w3 ⊢
  have q0 : tick < l.length:=by omega
  have q1 : t1 < l.length:=by omega
  have a0:=bG q0
  have a1:=bG q1
  generalize hx0 : l[tick]=x0 at *
  generalize hx1 : l[t1]=x1 at *
  rw [a0,a1,decide_eq_true w2,Bool.true_and]
  refine eH Try.func53 rfl (by kernel_rfl) (by simp [Try.f53]) rfl (by intro i j h;rcases i with _|_|_|i<;>simp_all) ?_
  intro C hP hN
  simp only [Try.f53] at hN ⊢
  with_reducible repeat' (first|refine Sp.h ?_|((first|refine Wd ?_|refine Ss.h ?_|(refine Sb.h ?_ ?_ ?_<;>(try intro hgd)<;>try exact Xy))<;>simp -implicitDefEqProofs (maxSteps:=2000000) [hP,hN,hx,hxe,h1,w1,w2,w3,q0,q1,a0,a1,hx0,hx1]<;>try refine Ya ?_)|refine X2 ?_ ?_|(refine Xd ?_ ?_<;>intro hcd<;>try exact Xx))
  all_goals simp_all
abbrev r7 (es : List (List Int × Value)) : PV:=.mp .i64 2 es
theorem vj (ms : List PV) (tick : Nat) (f to : Int) (es : List (List Int × Value)) (p : Bool) (hx : ms[tick]?=some (r7 es)) (hg : eM es [f,to]=if p=true then some (.bool true) else none) : am Try.prog 54 [.pv (Z tick),.pv (Z f),.pv (Z to),.pv (.rptr (.sl ms) 0)] [] [] (.pv (B (!p))):=by
 have hlt:=(List.getElem?_eq_some_iff.1 hx).1
 have hxe:=(List.getElem?_eq_some_iff.1 hx).2
 refine Dp Try.func54 ?_
 intro C hP hN
 simp only [Try.f54] at hN ⊢
 cases p with
 |true=>
  have hg' : eM es [f,to]=some (.bool true):=hg
  with_reducible repeat' (first|refine Sp.h ?_|((first|refine Ss.h ?_|(refine Sb.h ?_ ?_ ?_<;>(try intro hgd)<;>try exact Xy))<;>simp -implicitDefEqProofs (maxSteps:=2000000) [hP,hN,hx,hlt,hxe,hg'])|refine X2 ?_ ?_|(refine Xd ?_ ?_<;>intro hcd<;>try exact Xx))
 |false=>
  have hg' : eM es [f,to]=none:=hg
  with_reducible repeat' (first|refine Sp.h ?_|((first|refine Ss.h ?_|(refine Sb.h ?_ ?_ ?_<;>(try intro hgd)<;>try exact Xy))<;>simp -implicitDefEqProofs (maxSteps:=2000000) [hP,hN,hx,hlt,hxe,hg'])|refine X2 ?_ ?_|(refine Xd ?_ ?_<;>intro hcd<;>try exact Xx))
def mC (i n : Nat) : List AV:=(List.range n).map fun w=>if w < i then .ext (.mp (w+300)) else .pv (.val (.map none))
theorem ly (i n : Nat) : (mC i n).length=n:=by simp [mC]
theorem sx (n : Nat) : mC 0 n=List.replicate n (.pv (.val (.map none))):=by
 simp [mC,List.map_const']
theorem sy {i n : Nat} (x : AV) : ((mC i n).set i x).set i (.ext (.mp (i+300)))=mC (i+1) n:=by
 rw [List.set_set]
 apply List.ext_getElem?
 intro w
 rw [List.getElem?_set]
 simp only [ly]
 by_cases hw : w < n
 ·by_cases e : i=w
  ·subst e;simp [mC,hw]
  ·simp [mC,hw,e,show (w < i+1↔w < i) by omega]
 ·by_cases e : i=w
  ·subst e;simp [mC,hw]
  ·simp [mC,hw,e]
theorem tZ {i n w : Nat} (h : w < i) (hn : w < n) : (mC i n)[w]?=some (.ext (.mp (w+300))):=by simp [mC,hn,h]
theorem o4 (ks : List Nat) (hk : ∀ k ∈ ks,k < 300) (i n : Nat) : (mC i n).map (bc ks)=mC i n:=by
 unfold mC;rw [List.map_map]
 refine List.map_congr_left fun w _=>?_
 have : ks.contains (w+300)=false:=by
  rw [← Bool.not_eq_true];intro h
  have:=hk _ (List.contains_iff_mem.1 h);omega
 simp only [Function.comp];split<;>simp [eX,bp,this]
 intro h;have:=hk _ h;omega
def mF (g : Nat→List (List Int × Value)) (n : Nat) (h : Hp) : Prop:=∀ v,v < n→h (v+300)=some (.mp .i64 2 (g v) false)
theorem ma {ks : List Nat} (hk : ∀ k ∈ ks,k < 300) {g : Nat→List (List Int × Value)} {n : Nat} {st : St} (h : mF g n st.h) : mF g n (St.kill ks st).h:=by
 intro v hv
 have:=h v hv
 have h2 : ks.contains (v+300)=false:=by
  rw [← Bool.not_eq_true];intro h
  have:=hk _ (List.contains_iff_mem.1 h);omega
 simp only [St.kill,h2,Bool.false_eq_true,if_false,this]
 rfl
theorem nY {g : Nat→List (List Int × Value)} {h : Hp} : ∀ (l : List Nat),(∀ v ∈ l,h (v+300)=some (.mp .i64 2 (g v) false))→gE h (l.map fun v=>.ext (.mp (v+300)))=some (l.map fun v=>r7 (g v))
 |[],_=>rfl
 |v :: l,hh=>by
  have h1:=hh v (by simp)
  have h2:=nY l fun w hw=>hh w (by simp [hw])
  simp only [List.map_cons,gE,i6,h1,h2]
def gA (cs : List (Mov × Mov)) (plan : List (List Int)) (arm : Int) (T : Nat) : List PV:=(List.range T).map fun v=>r7 (ij cs plan arm v cs.length)
abbrev t6 (cs : List (Mov × Mov)) (plan : List (List Int)) (arm : Int) (T : Nat) : PV:=.fn (.func 54) [] [.rptr (.sl (gA cs plan arm T)) 0]
theorem vk (t : aU) (plan : List (List Int)) (arm : Int) (T : Nat) (hc : aG t=true) (hcl : t.conf.length≤4096) (hp : plan.length=t.maps.length) (hpl : ∀ l ∈ plan,l=[]∨l.length=T+1) (hT : T≤64) : am Try.prog 37 [.pv (bR t),.pv (.sl (plan.map zs)),.pv (Z arm),.pv (Z T)] [] [] (.new (t6 t.conf plan arm T)):=by
 have hcf : ∀ c ∈ t.conf,(0≤c.1.a∧c.1.a.toNat < plan.length)∧(0≤c.2.a∧c.2.a.toNat < plan.length):=by
  intro c hc'
  have h:=hc
  simp only [aG,Bool.and_eq_true,List.all_eq_true] at h
  have:=h.2.2.2.2 c hc'
  simp only [ff,bm,Bool.and_eq_true,aD] at this
  omega
 refine Dp Try.func37 ?_
 intro C hP hN
 simp only [Try.f37] at hN ⊢
 with_reducible repeat' (first|refine Sp.h ?_|((first|refine Wh [1000015] ?_|refine Wi [1000015] ?_|refine Ss.h ?_|(refine Sb.h ?_ ?_ ?_<;>(try intro hgd)<;>try exact Xy))<;>simp -implicitDefEqProofs (maxSteps:=2000000) [hP,hN,show (T : Int) * 8≤281474976710656 by omega,show 8 * (T : Int)≤281474976710656 by omega,show (T : Int)≤9223372036854775807 by omega]<;>try refine Ya ?_)|refine X2 ?_ ?_|(refine Xd ?_ ?_<;>intro hcd<;>try exact Xx))
 refine WP.loopN [] T (fun i st=>st.t 4=.ptr 4 0∧st.h 4=some (.box [.pv (.sl (t.maps.map aV)),.pv (.sl (t.conf.map ba))] true false)∧st.t 2=.pv (Z arm)∧st.h 5=some (.box [.pv (.sl (plan.map zs))] true false)∧st.t 9=.ptr 9 0∧st.h 9=some (.box [.ext (.barr 15 T)] true false)∧st.t 10=.fn (.func 53) [] [.ptr 5 0]∧st.t 18=.pv (Z T)∧st.t 19=.pv (Z i)∧st.h 15=some (.box (mC i T) true false)∧mF (fun w=>ij t.conf plan arm w t.conf.length) i st.h∧(∀ w,i≤w→st.h (w+300)=none)∧st.h 24=none∧st.h 13=none) (by simp [sx,mF];try (intro w;simp [jg])) ?_
 rintro i st hi ⟨g4,b4,g2,b5,g9,b9,g10,g18,g19,b15,hmf,hno,b24,b13⟩
 by_cases hlt : i < T
 ·have hwr:=ak hlt (by omega)
  have hlt1 : i+1≤T:=hlt
  have hltz : (i : Int) < (T : Int):=by omega
  obtain ⟨cs,hcs⟩ : ∃ cs,cs=mC i T:=⟨_,rfl⟩
  rw [← hcs] at b15
  have hcsl : cs.length=T:=by rw [hcs,ly]
  have hsp : cs.take i++AV.ext (.mp 24) :: cs.drop (i+1)=cs.set i (.ext (.mp 24)):=ce (by omega)
  with_reducible iterate 12 any_goals (first|refine Sp.h ?_|((first|refine Wd ?_|refine Ss.h ?_|(refine Sb.h ?_ ?_ ?_<;>(try intro hgd)<;>try exact Xy))<;>simp -implicitDefEqProofs (maxSteps:=2000000) [hP,hN,g4,b4,g2,b5,g9,b9,g10,g18,g19,b15,b24,b13,hlt,hlt1,hltz,hcsl,hsp]<;>try refine Ya ?_)|refine X2 ?_ ?_|(refine Xd ?_ ?_<;>intro hcd<;>try exact Xx))
  refine WP.rename 15 i 24 (i+300) (blk:=.mp .i64 2 [] false) (x:=.ext (.mp 24)) (y:=.ext (.mp (i+300))) (cs:=cs.set i (.ext (.mp 24))) (own:=true) (fb:=false) (by simp) (by simp [hno i (Nat.le_refl _)]) (by omega) (by simp) (by simp [hcsl,hlt]) ⟨rfl,rfl⟩ ?_ ?_
  ·intro w c hc hne
   rw [List.getElem?_set,if_neg (fun e=>hne e.symm),hcs] at hc
   simp only [mC,List.getElem?_map,Option.map_eq_some_iff] at hc
   obtain ⟨q,hq,rfl⟩:=hc
   split<;>simp [eX,bp]
  rw [hcs,sy]
  obtain ⟨cf,hcf'⟩ : ∃ cf,cf=t.conf:=⟨_,rfl⟩
  rw [← hcf'] at hcf hmf hcl b4 ⊢
  with_reducible iterate 2 any_goals (first|refine Sp.h ?_|((first|refine Wd ?_|refine Ss.h ?_|(refine Sb.h ?_ ?_ ?_<;>(try intro hgd)<;>try exact Xy))<;>simp -implicitDefEqProofs (maxSteps:=2000000) [hP,hN,gV,g4,b4,g2,b5,g9,b9,g10,g18,g19,b15,b24,b13]<;>try refine Ya ?_)|refine X2 ?_ ?_|(refine Xd ?_ ?_<;>intro hcd<;>try exact Xx))
  refine WP.loopN [13] cf.length (fun j st=>st.t 4=.ptr 4 0∧st.h 4=some (.box [.pv (.sl (t.maps.map aV)),.pv (.sl (cf.map ba))] true false)∧st.t 2=.pv (Z arm)∧st.h 5=some (.box [.pv (.sl (plan.map zs))] true false)∧st.t 9=.ptr 9 0∧st.h 9=some (.box [.ext (.barr 15 T)] true false)∧st.t 10=.fn (.func 53) [] [.ptr 5 0]∧st.t 18=.pv (Z T)∧st.t 19=.pv (Z i)∧st.t 11=.pv (Z i)∧st.t 27=.pv (.sl (cf.map ba))∧st.t 28=.pv (Z cf.length)∧st.t 29=.pv (Z j)∧st.h 15=some (.box (mC (i+1) T) true false)∧mF (fun w=>ij cf plan arm w cf.length) i st.h∧st.h (i+300)=some (.mp .i64 2 (ij cf plan arm i j) false)∧(∀ w,i+1≤w→st.h (w+300)=none)∧st.h 24=none∧st.h 13=none) (by
   simp [gV,g4,b4,g2,b5,g9,b9,g10,g18,g19,b15,b24,b13,ij]
   refine ⟨o4 _ (by simp) _ _,ma (by simp) (st:=⟨_,_⟩) ?_,fun w hw=>by rw [if_neg (by omega),hno w (by omega)];rfl⟩
   intro v hv
   simp [gV,hmf v hv,show ¬ v=i by omega]) ?_
  clear g4 b4 g2 b5 g9 b9 g10 g18 g19 b15 b24 b13 hmf hno
  rintro j st hj ⟨g4,b4,g2,b5,g9,b9,g10,g18,g19,g11,g27,g28,g29,b15,hmf,hmi,hno,b24,b13⟩
  obtain ⟨cs',hcs'⟩ : ∃ cs,cs=mC (i+1) T:=⟨_,rfl⟩
  have hcl' : cs'.length=T:=by rw [hcs',ly]
  have ck : cs'[i]?=some (.ext (.mp (i+300))):=by rw [hcs'];exact tZ (by omega) hlt
  have ck' : ∀ h,cs'[i]'h=.ext (.mp (i+300)):=fun h=>(List.getElem?_eq_some_iff.1 ck).2
  have hck : ∀ ks : List Nat,(∀ k ∈ ks,k < 300)→cs'.map (bc ks)=cs':=fun ks hk=>by rw [hcs'];exact o4 ks hk _ _
  have hck0:=hck [] (by simp)
  have hck1:=hck [13] (by simp)
  by_cases hjl : j < cf.length
  ·have hwj:=ak hjl (by omega)
   have hxi : cf[j]?=some cf[j]:=List.getElem?_eq_getElem hjl
   have hin:=hcf _ (List.getElem_mem hjl)
   have hE : ij cf plan arm i (j+1)=cE plan arm i (ij cf plan arm i j) cf[j]:=by rw [ij,hxi]
   have cA:=ur plan cf[j].2 i T hin.2.1 hin.2.2 hpl hlt hT
   have cB:=ur plan cf[j].1 i T hin.1.1 hin.1.2 hpl hlt hT
   generalize hx : cf[j]=c at *
   obtain ⟨⟨c1,c2,c3⟩,⟨d1,d2,d3⟩⟩:=c
   simp only at cA cB
   simp only [cE] at hE
   generalize bS plan ⟨d1,d2,d3⟩ i=mA at *
   generalize bS plan ⟨c1,c2,c3⟩ i=mB at *
   generalize ij cf plan arm i (j+1)=es' at *
   generalize ij cf plan arm i j=es at *
   rw [← hcs'] at b15 ⊢
   cases e1 : (c1==arm)<;>cases mA<;>cases e3 : (d1==arm)<;>cases mB
   all_goals
    simp only [e1,e3,rZ,Bool.true_and,Bool.false_and,Bool.false_eq_true,if_true,if_false] at hE
    skip
    with_reducible repeat' (first|refine Sp.h ?_|((first|refine Wd ?_|refine Ss.h ?_|refine Sc.h (cA) ?_|refine Sc.h (cB) ?_|(refine Sb.h ?_ ?_ ?_<;>(try intro hgd)<;>try exact Xy))<;>simp -implicitDefEqProofs (maxSteps:=2000000) [hP,hN,g4,b4,g2,b5,g9,b9,g10,g18,g19,g11,g27,g28,g29,b15,hmi,b24,b13,hjl,hwj,hx,hxi,e1,e3,hcl',ck,ck',hlt,hck0,hck1]<;>try refine Yc ?_)|refine X2 ?_ ?_|(refine Xd ?_ ?_<;>intro hcd<;>try exact Xx))
   all_goals
    refine ⟨ma (by simp) (st:=⟨_,_⟩) ?_,hE.symm,by first|exact hno|(intro w hw;rw [if_neg (by omega)];exact hno w hw)|(intro w hw;rw [if_neg (by omega),if_neg (by omega)];exact hno w hw)⟩
    intro v hv
    have hvi : ¬ v=i:=by omega
    simp [hmf v hv,hvi]
  ·have hjc : j=cf.length:=by omega
   rw [hjc] at hmi
   rw [← hcs'] at b15 ⊢
   with_reducible repeat' (first|refine Sp.h ?_|((first|refine Wd ?_|refine Ss.h ?_|(refine Sb.h ?_ ?_ ?_<;>(try intro hgd)<;>try exact Xy))<;>simp -implicitDefEqProofs (maxSteps:=2000000) [hP,hN,g4,b4,g2,b5,g9,b9,g10,g18,g19,g11,g27,g28,g29,b15,b24,b13,hjl,hwr,hck0]<;>try refine Ya ?_)|refine X2 ?_ ?_|(refine Xd ?_ ?_<;>intro hcd<;>try exact Xx))
   refine ⟨ma (by simp) (st:=⟨_,_⟩) ?_,fun w hw=>by rw [hno w hw]⟩
   intro v hv
   by_cases e : v=i
   ·subst e;exact hmi
   ·exact hmf v (by omega)
 ·have hiT : i=T:=by omega
  subst hiT
  have hcs : mC i i=(List.range i).map fun v=>.ext (.mp (v+300)):=by
   unfold mC;refine List.map_congr_left fun v hv=>?_
   rw [if_pos (List.mem_range.1 hv)]
  have hW:=nY (g:=fun w=>ij t.conf plan arm w t.conf.length) (h:=st.h) (List.range i) (fun v hv=>hmf v (List.mem_range.1 hv))
  have hps : gA t.conf plan arm i=(List.range i).map fun v=>r7 (ij t.conf plan arm v t.conf.length):=rfl
  rw [← hps,← hcs] at hW
  have hcl2 : (mC i i).length=i:=ly i i
  have hone : (gA t.conf plan arm i).all dA=true:=by rw [hps,List.all_eq_true];intro x hx;obtain ⟨v,_,rfl⟩:=List.mem_map.1 hx;rfl
  generalize gA t.conf plan arm i=ps at *
  generalize mC i i=cs at *
  with_reducible repeat' (first|refine Sp.h ?_|((first|refine Wd ?_|refine Ss.h ?_|(refine Sb.h ?_ ?_ ?_<;>(try intro hgd)<;>try exact Xy))<;>simp -implicitDefEqProofs (maxSteps:=2000000) [hP,hN,g4,b4,g2,b5,g9,b9,g10,g18,g19,b15,b24,b13,hW,hcl2]<;>try refine Ya ?_)|refine X2 ?_ ?_|(refine Xd ?_ ?_<;>intro hcd<;>try exact Xx))
  all_goals rw [if_pos (by intro x hx;exact List.all_eq_true.1 hone x hx)]
  all_goals (simp;exact hps)
end Go.Ab
namespace Go.Ab
open Go.Proofs
def bl (n : Nat) (f : Nat→Bool) : List PV:=(List.range n).map fun x=>B (f x)
@[simp] theorem fa (n : Nat) (f : Nat→Bool) : (bl n f).length=n:=by simp [bl]
theorem lz {n x : Nat} (f : Nat→Bool) (h : x < n) : (bl n f)[x]?=some (B (f x)):=by simp [bl,h]
theorem dR {n : Nat} {f g : Nat→Bool} (h : ∀ x,x < n→f x=g x) : bl n f=bl n g:=List.map_congr_left fun x hx=>by rw [h x (List.mem_range.1 hx)]
theorem jV (n : Nat) : List.replicate n (B false)=bl n fun _=>false:=by simp [bl,List.map_const']
theorem lA {n u : Nat} {f g : Nat→Bool} {b : Bool} (hu : u < n) (h1 : g u=b) (h2 : ∀ x,x < n→x≠u→g x=f x) : (bl n f).set u (B b)=bl n g:=by
 apply List.ext_getElem?
 intro w
 rw [List.getElem?_set]
 simp only [fa]
 by_cases hw : w < n
 ·by_cases e : u=w
  ·subst e;simp [bl,hw,h1]
  ·simp [bl,hw,e,h2 w hw (fun e'=>e e'.symm)]
 ·by_cases e : u=w
  ·subst e;simp [bl,hw]
  ·simp [bl,hw,e]
theorem ut (p : Int→Bool) (xs : List Int) (g : FuncId) (x1 x2 x3 x4 : PV) (hl : xs.length≤9223372036854775807) (hg : ∀ c ∈ xs,am Try.prog g [.pv (Z c),.pv (.rptr x1 0),.pv (.rptr x2 0),.pv (.rptr x3 0),.pv (.rptr x4 0)] [] [] (.pv (B (p c)))) : am Try.prog 57 [.pv (zs xs),.pv (.fn (.func g) [] [.rptr x1 0,.rptr x2 0,.rptr x3 0,.rptr x4 0])] [] [] (.pv (Z (dp p xs))):=by
 refine Dp Try.func57 ?_
 intro C hP hN
 simp only [Try.f57] at hN ⊢
 with_reducible repeat' (first|refine Sp.h ?_|((first|refine Ss.h ?_|(refine Sb.h ?_ ?_ ?_<;>(try intro hgd)<;>try exact Xy))<;>simp -implicitDefEqProofs (maxSteps:=2000000) [hP,hN])|refine X2 ?_ ?_|(refine Xd ?_ ?_<;>intro hcd<;>try exact Xx))
 refine WP.loopN [] xs.length (fun i st=>st.t 0=.pv (zs xs)∧st.t 1=.pv (.fn (.func g) [] [.rptr x1 0,.rptr x2 0,.rptr x3 0,.rptr x4 0])∧st.t 7=.pv (Z xs.length)∧st.t 8=.pv (Z i)∧eg p xs i) (by simp [dQ]) ?_
 rintro i st hi ⟨g0,g1,g7,g8,hq⟩
 by_cases hlt : i < xs.length
 ·have hw:=ak hlt hl
  have hn:=eD hlt hq
  have hh:=jY hlt hq
  have hg':=hg _ (List.getElem_mem hlt)
  generalize hx : xs[i]=c at *
  have hxi : xs[i]?=some c:=by rw [List.getElem?_eq_getElem hlt,hx]
  generalize dp p xs=r at *
  cases hp : p c with
  |true=>
   rw [hp] at hg'
   rw [hh hp]
   with_reducible repeat' (first|refine Sp.h ?_|((first|refine Ss.h ?_|refine Sc.h (hg') ?_|(refine Sb.h ?_ ?_ ?_<;>(try intro hgd)<;>try exact Xy))<;>simp -implicitDefEqProofs (maxSteps:=2000000) [hP,hN,g0,g1,g7,g8,hlt,hw,hx,hxi])|refine X2 ?_ ?_|(refine Xd ?_ ?_<;>intro hcd<;>try exact Xx))
  |false=>
   rw [hp] at hg'
   with_reducible repeat' (first|refine Sp.h ?_|((first|refine Ss.h ?_|refine Sc.h (hg') ?_|(refine Sb.h ?_ ?_ ?_<;>(try intro hgd)<;>try exact Xy))<;>simp -implicitDefEqProofs (maxSteps:=2000000) [hP,hN,g0,g1,g7,g8,hlt,hw,hx,hxi])|refine X2 ?_ ?_|(refine Xd ?_ ?_<;>intro hcd<;>try exact Xx))
   all_goals exact hn hp
 ·rw [jZ hlt hq]
  with_reducible repeat' (first|refine Sp.h ?_|((first|refine Ss.h ?_|(refine Sb.h ?_ ?_ ?_<;>(try intro hgd)<;>try exact Xy))<;>simp -implicitDefEqProofs (maxSteps:=2000000) [hP,hN,g0,g1,g7,g8,hlt])|refine X2 ?_ ?_|(refine Xd ?_ ?_<;>intro hcd<;>try exact Xx))
theorem vl (p : Int→Bool) (xs : List Int) (g : FuncId) (x1 x2 x3 x4 : PV) (hl : xs.length≤9223372036854775807) (hg : ∀ c ∈ xs,am Try.prog g [.pv (Z c),.pv (.rptr x1 0),.pv (.rptr x2 0),.pv (.rptr x3 0),.pv (.rptr x4 0)] [] [] (.pv (B (p c)))) : am Try.prog 68 [.pv (zs xs),.pv (.fn (.func g) [] [.rptr x1 0,.rptr x2 0,.rptr x3 0,.rptr x4 0])] [] [] (.pv (B (xs.any p))):=by
 have ci:=ut p xs g x1 x2 x3 x4 hl hg
 rw [← mf]
 refine Dp Try.func68 ?_
 intro C hP hN
 simp only [Try.f68] at hN ⊢
 with_reducible repeat' (first|refine Sp.h ?_|((first|refine Ss.h ?_|refine Sc.h (ci) ?_|(refine Sb.h ?_ ?_ ?_<;>(try intro hgd)<;>try exact Xy))<;>simp -implicitDefEqProofs (maxSteps:=2000000) [hP,hN])|refine X2 ?_ ?_|(refine Xd ?_ ?_<;>intro hcd<;>try exact Xx))
abbrev nZ (nexts : PV) (start goal T : Int) (g : FuncId) (x : PV) : PV:=.agg [nexts,Z start,Z goal,Z T,.fn (.func g) [] [.rptr x 0]]
theorem vm (rows row : List PV) (i v : Nat) (u : Int) (nexts : PV) (start goal T : Int) (g : FuncId) (x : PV) (b1 b2 : Bool) (hi : i≤1000000) (h1 : rows[i+1]?=some (.sl row)) (hu : 0≤u) (h2 : row[u.toNat]?=some (B b1)) (hg : b1=true→am Try.prog g [.pv (Z i),.pv (Z v),.pv (Z u),.pv (.rptr x 0)] [] [] (.pv (B b2))) : am Try.prog 69 [.pv (Z u),.pv (.rptr (.sl rows) 0),.pv (.rptr (Z i) 0),.pv (.rptr (nZ nexts start goal T g x) 0),.pv (.rptr (Z v) 0)] [] [] (.pv (B (b1 && b2))):=by
 obtain ⟨k,rfl⟩ : ∃ k : Nat,u=k:=⟨u.toNat,by omega⟩
 rw [Int.toNat_natCast] at h2
 obtain ⟨j,hj⟩ : ∃ j,i+1=j:=⟨_,rfl⟩
 have hw : IntKind.i64.wrap ((i : Int)+1)=(j : Int):=by rw [IntKind.wrap_i64];omega
 rw [hj] at h1
 have l1:=(List.getElem?_eq_some_iff.1 h1).1
 have e1:=(List.getElem?_eq_some_iff.1 h1).2
 have l2:=(List.getElem?_eq_some_iff.1 h2).1
 have e2:=(List.getElem?_eq_some_iff.1 h2).2
 refine Dp Try.func69 ?_
 intro C hP hN
 simp only [Try.f69] at hN ⊢
 cases b1 with
 |true=>
  have hg':=hg rfl
  with_reducible repeat' (first|refine Sp.h ?_|((first|refine Ss.h ?_|refine Sc.h (hg') ?_|(refine Sb.h ?_ ?_ ?_<;>(try intro hgd)<;>try exact Xy))<;>simp -implicitDefEqProofs (maxSteps:=2000000) [hP,hN,hw,h1,l1,e1,h2,l2,e2])|refine X2 ?_ ?_|(refine Xd ?_ ?_<;>intro hcd<;>try exact Xx))
 |false=>
  with_reducible repeat' (first|refine Sp.h ?_|((first|refine Ss.h ?_|(refine Sb.h ?_ ?_ ?_<;>(try intro hgd)<;>try exact Xy))<;>simp -implicitDefEqProofs (maxSteps:=2000000) [hP,hN,hw,h1,l1,e1,h2,l2,e2])|refine X2 ?_ ?_|(refine Xd ?_ ?_<;>intro hcd<;>try exact Xx))
theorem vn (rows row : List PV) (i v : Nat) (u : Int) (nexts : PV) (start goal T : Int) (g : FuncId) (x : PV) (b1 b2 : Bool) (hi : i≤1000000) (h1 : rows[i+1]?=some (.sl row)) (hu : 0≤u) (h2 : row[u.toNat]?=some (B b1)) (hg : b1=true→am Try.prog g [.pv (Z i),.pv (Z v),.pv (Z u),.pv (.rptr x 0)] [] [] (.pv (B b2))) : am Try.prog 58 [.pv (Z u),.pv (.rptr (.sl rows) 0),.pv (.rptr (Z i) 0),.pv (.rptr (nZ nexts start goal T g x) 0),.pv (.rptr (Z v) 0)] [] [] (.pv (B (b1 && b2))):=by
 obtain ⟨k,rfl⟩ : ∃ k : Nat,u=k:=⟨u.toNat,by omega⟩
 rw [Int.toNat_natCast] at h2
 obtain ⟨j,hj⟩ : ∃ j,i+1=j:=⟨_,rfl⟩
 have hw : IntKind.i64.wrap ((i : Int)+1)=(j : Int):=by rw [IntKind.wrap_i64];omega
 rw [hj] at h1
 have l1:=(List.getElem?_eq_some_iff.1 h1).1
 have e1:=(List.getElem?_eq_some_iff.1 h1).2
 have l2:=(List.getElem?_eq_some_iff.1 h2).1
 have e2:=(List.getElem?_eq_some_iff.1 h2).2
 refine Dp Try.func58 ?_
 intro C hP hN
 simp only [Try.f58] at hN ⊢
 cases b1 with
 |true=>
  have hg':=hg rfl
  with_reducible repeat' (first|refine Sp.h ?_|((first|refine Ss.h ?_|refine Sc.h (hg') ?_|(refine Sb.h ?_ ?_ ?_<;>(try intro hgd)<;>try exact Xy))<;>simp -implicitDefEqProofs (maxSteps:=2000000) [hP,hN,hw,h1,l1,e1,h2,l2,e2])|refine X2 ?_ ?_|(refine Xd ?_ ?_<;>intro hcd<;>try exact Xx))
 |false=>
  with_reducible repeat' (first|refine Sp.h ?_|((first|refine Ss.h ?_|(refine Sb.h ?_ ?_ ?_<;>(try intro hgd)<;>try exact Xy))<;>simp -implicitDefEqProofs (maxSteps:=2000000) [hP,hN,hw,h1,l1,e1,h2,l2,e2])|refine X2 ?_ ?_|(refine Xd ?_ ?_<;>intro hcd<;>try exact Xx))
end Go.Ab
namespace Go.Ab
theorem WP.freeze {C : Cx} {c : Code} {Q : Exit→St→Prop} {st : St} (s : Nat) {k e sz fz : Nat} {xs : List PV} (hk : st.h k=some (.row e sz xs fz)) (ht : st.t s=.arr k xs.length) (h : WP C c Q ⟨aj st.t s (.pv (.sl xs)),aj st.h k (some (.row e sz xs xs.length))⟩) : WP C c Q st:=by
 intro a w hs
 obtain ⟨L,hm,hN,hdf,htm⟩:=hs
 obtain ⟨hA,hR⟩:=iz hm hk
 refine h a w ⟨L,hA.1,hN,hdf,fun n=>?_⟩
 have hold:=(htm n).mono hA.2.1 hA.2.2
 show RepA w _ L _ (aj st.t s (.pv (.sl xs)) n) _
 by_cases hn : n=s
 ·subst hn
  rw [ah]
  have hv:=htm n
  rw [ht] at hv
  cases hv with
  |arr hk2 hn2 hu=>
   rw [hk] at hk2;injection hk2 with hk2;injection hk2 with _ _ a3 _
   subst a3
   rw [hu rfl]
   exact .pv hR
 ·rw [ar hn];exact hold
end Go.Ab
namespace Go.Ab
theorem WP.freezeB {C : Cx} {c : Code} {Q : Exit→St→Prop} {st : St} (kb j : Nat) {k e sz fz : Nat} {xs : List PV} {cs : List AV} {own fb : Bool} (hb : st.h kb=some (.box cs own fb)) (hj : cs[j]?=some (.arr k xs.length)) (hk : st.h k=some (.row e sz xs fz))
 (h : WP C c Q ⟨st.t,aj (aj st.h k (some (.row e sz xs xs.length))) kb (some (.box (cs.set j (.pv (.sl xs))) own fb))⟩) : WP C c Q st:=by
 intro a w hs
 obtain ⟨L,hm,hN,hdf,htm⟩:=hs
 obtain ⟨hA,hR⟩:=iz hm hk
 have hne : kb≠k:=by intro e;subst e;rw [hb] at hk;cases hk
 have hb1 : (aj st.h k (some (.row e sz xs xs.length))) kb=some (.box cs own fb):=by rw [ar hne];exact hb
 have hv : ∀ u,RepA w (ae C L st.h) L st.h (.arr k xs.length) u→u=(L k).slice xs.length:=fun u hu=>by
  cases hu with
  |arr hk2 hn2 hu=>
   rw [hk] at hk2;injection hk2 with hk2;injection hk2 with _ _ a3 _
   subst a3
   exact hu rfl
 have hbk:=hm.bl kb _ hb
 obtain ⟨arr,ty,hc,hl,hr⟩:=hbk
 have hown:=hm.own kb _ hb
 have hpk:=MemL.touch_pk (w':=w) hA.1 (blk':=.box (cs.set j (.pv (.sl xs))) own fb) hb1 (fun _ _ _=>rfl) (fun _ _ _ _ h=>h) (fun o h=>h) rfl Iff.rfl
 have h3:=MemL.touch (w':=w) hA.1 (blk':=.box (cs.set j (.pv (.sl xs))) own fb) hb1 (fun _ _ _=>rfl) (Nat.le_refl _) rfl rfl rfl (fun _ _ _ _ h=>h) (fun o h=>h) rfl Iff.rfl (by cases own<;>exact hown) ⟨arr,ty,hc,by simpa using hl,fun i p u hp hu=>?_⟩
 ·refine h a w ⟨L,h3.1,hN,hdf,fun n=>?_⟩
  exact ((htm n).mono hA.2.1 hA.2.2).mono h3.2.1 h3.2.2
 ·rw [List.getElem?_set] at hp
  by_cases ei : j=i
  ·subst ei
   rw [if_pos rfl] at hp
   split at hp
   ·injection hp with hp;subst hp
    have:=hv u (hr j _ u hj hu)
    subst this
    exact (RepA.pv hR).mono hpk.1 hpk.2
   ·cases hp
  ·rw [if_neg ei] at hp
   exact ((hr i p u hp hu).mono hA.2.1 hA.2.2).mono hpk.1 hpk.2
end Go.Ab
namespace Go.Ab
open Go.Proofs
def fV (r : Nat→Bool) (lg p : Nat→Nat→Bool) (v x : Nat) : Bool:=(List.range v).any fun u=>r u && lg u x && p u x
def fT (r : Nat→Bool) (lg p : Nat→Nat→Bool) (tv : List Nat) (v j x : Nat) : Bool:=fV r lg p v x || (tv.take j).any fun u=>u==x && p v x
theorem o5 (r : Nat→Bool) (lg p : Nat→Nat→Bool) (v x : Nat) : fV r lg p (v+1) x=(fV r lg p v x || (r v && lg v x && p v x)):=by
 simp [fV,List.range_succ,List.any_append]
theorem sA (r : Nat→Bool) (lg p : Nat→Nat→Bool) (tv : List Nat) (v x : Nat) : fT r lg p tv v 0 x=fV r lg p v x:=by simp [fT]
theorem sB (r : Nat→Bool) (lg p : Nat→Nat→Bool) {tv : List Nat} {v j : Nat} (x : Nat) (hj : j < tv.length) : fT r lg p tv v (j+1) x=(fT r lg p tv v j x || (tv[j]==x && p v x)):=by
 simp only [fT,List.take_succ_eq_append_getElem hj,List.any_append,List.any_cons,List.any_nil,Bool.or_false,Bool.or_assoc]
theorem tr {r : Nat→Bool} {lg p : Nat→Nat→Bool} {n v x : Nat} (hr : r v=true) (hx : x < n) : fT r lg p (bB lg n v) v (bB lg n v).length x=fV r lg p (v+1) x:=by
 rw [o5,hr,fT,List.take_length,Bool.true_and]
 congr 1
 rw [Bool.eq_iff_iff]
 simp only [List.any_eq_true,bB,List.mem_filter,List.mem_range,Bool.and_eq_true,beq_iff_eq]
 constructor
 ·rintro ⟨u,⟨h1,h2⟩,rfl,h3⟩;exact ⟨h2,h3⟩
 ·rintro ⟨h1,h2⟩;exact ⟨x,⟨hx,h1⟩,rfl,h2⟩
theorem tt {lg : Nat→Nat→Bool} {n v j : Nat} (h : j < (bB lg n v).length) : (bB lg n v)[j] < n:=by
 have:=List.getElem_mem h
 simp only [bB,List.mem_filter,List.mem_range] at this
 exact this.1
theorem mb (lg : Nat→Nat→Bool) (n v : Nat) : (bB lg n v).length≤n:=by
 have:=List.length_filter_le (lg v) (List.range n)
 simpa [bB] using this
abbrev lB (n : Nat) (f : Nat→Nat→Bool) (N : Nat) : PV:=.sl ((List.range N).map fun i=>.sl (bl n (f i)))
def dZ (n : Nat) (f : Nat→Nat→Bool) (i N : Nat) : List AV:=(List.range N).map fun w=>if w < i then .pv (.sl (bl n (f w))) else bf
@[simp] theorem mc (n : Nat) (f : Nat→Nat→Bool) (i N : Nat) : (dZ n f i N).length=N:=by simp [dZ]
theorem rl (n : Nat) (f : Nat→Nat→Bool) (N : Nat) : List.replicate N bf=dZ n f 0 N:=by simp [dZ,List.map_const']
theorem tu {n : Nat} {f : Nat→Nat→Bool} {i N w : Nat} (h : w < i) (hN : w < N) : (dZ n f i N)[w]?=some (.pv (.sl (bl n (f w)))):=by simp [dZ,hN,h]
theorem n0 {n : Nat} {f : Nat→Nat→Bool} {i N : Nat} (x : AV) : ((dZ n f i N).set i x).set i (.pv (.sl (bl n (f i))))=dZ n f (i+1) N:=by
 rw [List.set_set]
 apply List.ext_getElem?
 intro w
 rw [List.getElem?_set]
 simp only [mc]
 by_cases hw : w < N
 ·by_cases e : i=w
  ·subst e;simp [dZ,hw]
  ·simp [dZ,hw,e,show (w < i+1↔w < i) by omega]
 ·by_cases e : i=w
  ·subst e;simp [dZ,hw]
  ·simp [dZ,hw,e]
theorem kw (ks : List Nat) (n : Nat) (f : Nat→Nat→Bool) (i N : Nat) : (dZ n f i N).map (bc ks)=dZ n f i N:=by
 unfold dZ;rw [List.map_map]
 refine List.map_congr_left fun w _=>?_
 simp only [Function.comp];split<;>simp [eX,bp]
theorem sC (n : Nat) (f : Nat→Nat→Bool) (N : Nat) : dZ n f N N=((List.range N).map fun i=>AV.pv (.sl (bl n (f i)))):=by
 unfold dZ;refine List.map_congr_left fun w hw=>?_
 rw [if_pos (List.mem_range.1 hw)]
theorem kx (h : Hp) (f : Nat→List PV) : ∀ l : List Nat,bh h (l.map fun v=>AV.pv (.sl (f v)))=some (l.map fun v=>.sl (f v),[])
 |[]=>rfl
 |v :: l=>by
  have:=kx h f l
  simp only [List.map_cons,bh,c8,nm,this,List.append_nil]
theorem vo (n : Nat) (lg : Nat→Nat→Bool) (ps : Nat→Nat→Nat→Bool) (ns : List PV) (start : Nat) (goal : Int) (T : Nat) (g : FuncId) (x : PV) (hn : ns.length=n) (hns : ∀ v,v < n→ns[v]?=some (zs ((bB lg n v).map fun u=>((u : Nat) : Int)))) (hn1 : n≤1024) (hT : T≤64) (hs : start < n) (hg : ∀ i v u,i < T→v < n→u < n→am Try.prog g [.pv (Z i),.pv (Z v),.pv (Z u),.pv (.rptr x 0)] [] [] (.pv (B (ps i v u)))) : am Try.prog 55 [.pv (nZ (.sl ns) start goal T g x)] [] [] (.pv (lB n (i0 n lg ps start) (T+1))):=by
 obtain ⟨M,hM⟩ : ∃ M,M=T+1:=⟨_,rfl⟩
 obtain ⟨f,hf⟩ : ∃ f,f=i0 n lg ps start:=⟨_,rfl⟩
 rw [← hM,← hf]
 have hf0 : ∀ v,f 0 v=(v==start):=fun v=>by rw [hf];rfl
 have hf1 : ∀ i v,f (i+1) v=fV (f i) lg (ps i) n v:=fun i v=>by rw [hf];rfl
 have w0 : IntKind.i64.wrap ((T : Int)+1)=(M : Int):=by rw [IntKind.wrap_i64];omega
 have hM0 : 0 < M:=by omega
 refine Dp Try.func55 ?_
 intro C hP hN
 simp only [Try.f55] at hN ⊢
 with_reducible repeat' (first|refine Sp.h ?_|((first|refine Wh [1000012,17] ?_|refine Wi [1000012,17] ?_|refine Ss.h ?_|(refine Sb.h ?_ ?_ ?_<;>(try intro hgd)<;>try exact Xy))<;>simp -implicitDefEqProofs (maxSteps:=2000000) [hP,hN,hn,w0,hM0,hs,show 1≤M by omega,show (M : Int) * 24≤281474976710656 by omega,show 24 * (M : Int)≤281474976710656 by omega,show (M : Int)≤9223372036854775807 by omega,show (n : Int)≤281474976710656 by omega,show (n : Int)≤9223372036854775807 by omega]<;>try refine Ya ?_)|refine X2 ?_ ?_|(refine Xd ?_ ?_<;>intro hcd<;>try exact Xx))
 have hr0 : (List.replicate n (B false)).set start (B true)=bl n (f 0):=by
  rw [jV];exact lA hs (by simp [hf0]) (fun v _ hv=>by rw [hf0];simpa using hv)
 have hc1 : (AV.arr 17 n :: List.replicate (M - 1) bf).set 0 (.pv (.sl (bl n (f 0))))=dZ n f 1 M:=by
  rw [← n0 (i:=0) (.arr 17 n),← rl,← Nat.sub_add_cancel (show 1≤M by omega),List.replicate_succ];rfl
 refine WP.freezeB 12 0 (k:=17) (xs:=bl n (f 0)) (cs:=.arr 17 n :: List.replicate (M - 1) bf) (e:=4) (sz:=1) (fz:=0) (own:=true) (fb:=false) (by simp) (by simp) (by simp [hr0]) ?_
 rw [hc1]
 refine WP.loopN [36] T (fun i st=>st.t 1=.ptr 1 0∧st.h 1=some (.box [.pv (.sl ns),.pv (Z start),.pv (Z goal),.pv (Z T),.pv (.fn (.func g) [] [.rptr x 0])] true false)∧st.t 3=.ext (.barr 12 M)∧st.t 26=.pv (Z T)∧st.t 27=.pv (Z i)∧st.h 12=some (.box (dZ n f (i+1) M) true false)∧st.h 36=none) (by simp [kw]) ?_
 rintro i st hi ⟨g1,b1,g3,g26,g27,b12,b36⟩
 by_cases hlt : i < T
 ·have hwr:=ak hlt (by omega)
  obtain ⟨j,hj⟩ : ∃ j,i+1=j:=⟨_,rfl⟩
  obtain ⟨cs,hcs⟩ : ∃ cs,cs=dZ n f j M:=⟨_,rfl⟩
  have ck : cs[i]?=some (.pv (.sl (bl n (f i)))):=by rw [hcs];exact tu (by omega) (by omega)
  have ck' : ∀ h,cs[i]'h=.pv (.sl (bl n (f i))):=fun h=>(List.getElem?_eq_some_iff.1 ck).2
  rw [hj,← hcs] at b12
  have hcl : cs.length=M:=by rw [hcs,mc]
  have hjM : j < M:=by omega
  have hjM1 : j+1≤M:=by omega
  have hjz : (j : Int) < (M : Int):=by omega
  have hiM : i < M:=by omega
  have hiz : (i : Int) < (M : Int):=by omega
  have hji : ¬ j=i:=by omega
  have hw1 : IntKind.i64.wrap ((i : Int)+1)=(j : Int):=by rw [IntKind.wrap_i64];omega
  have hsp : cs.take j++AV.arr 36 n :: cs.drop (j+1)=cs.set j (.arr 36 n):=ce (by omega)
  with_reducible repeat' (first|refine Sp.h ?_|((first|refine Wh [36] ?_|refine Wi [36] ?_|refine Ss.h ?_|(refine Sb.h ?_ ?_ ?_<;>(try intro hgd)<;>try exact Xy))<;>simp -implicitDefEqProofs (maxSteps:=2000000) [hP,hN,hn,g1,b1,g3,g26,g27,b12,b36,hlt,hw1,hcl,hjM,hjM1,hjz,hiM,hiz,hji,ck,ck',hsp,show (n : Int)≤281474976710656 by omega,show (n : Int)≤9223372036854775807 by omega]<;>try refine Ya ?_)|refine X2 ?_ ?_|(refine Xd ?_ ?_<;>intro hcd<;>try exact Xx))
  obtain ⟨ds,hds⟩ : ∃ ds,ds=cs.set j (.arr 36 n):=⟨_,rfl⟩
  have hdl : ds.length=M:=by rw [hds,List.length_set,hcl]
  have dj : ds[j]?=some (.arr 36 n):=by rw [hds];simp [hcl,hjM]
  have dj' : ∀ h,ds[j]'h=.arr 36 n:=fun h=>(List.getElem?_eq_some_iff.1 dj).2
  have hdk : ds.map (bc [])=ds:=by rw [hds,List.map_set,hcs,kw];rfl
  rw [← hds]
  refine WP.loopN [] n (fun v st=>st.t 1=.ptr 1 0∧st.h 1=some (.box [.pv (.sl ns),.pv (Z start),.pv (Z goal),.pv (Z T),.pv (.fn (.func g) [] [.rptr x 0])] true false)∧st.t 3=.ext (.barr 12 M)∧st.t 26=.pv (Z T)∧st.t 27=.pv (Z i)∧st.t 4=.pv (Z i)∧st.t 41=.pv (.sl (bl n (f i)))∧st.t 42=.pv (Z n)∧st.t 43=.pv (Z v)∧st.h 12=some (.box ds true false)∧st.h 36=some (.row 4 1 (bl n (fV (f i) lg (ps i) v)) 0)) (by simp [hdk,g1,b1,g3,g26,g27,jV];exact dR fun _ _=>rfl) ?_
  clear g1 b1 g3 g26 g27 b12 b36
  rintro v st hv ⟨g1,b1,g3,g26,g27,g4,g41,g42,g43,b12,b36⟩
  by_cases hvl : v < n
  ·have hwv:=ak hvl (by omega)
   have hrow:=lz (f i) hvl
   have hx:=hns v hvl
   have hxl:=(List.getElem?_eq_some_iff.1 hx).1
   have hxe:=(List.getElem?_eq_some_iff.1 hx).2
   have hvb : v < (bl n (f i)).length:=by rw [fa];exact hvl
   have hrow' : ∀ h,(bl n (f i))[v]'h=B (f i v):=fun h=>(List.getElem?_eq_some_iff.1 hrow).2
   cases hb : f i v with
   |false=>
    rw [hb] at hrow hrow'
    obtain ⟨r0,hr0⟩ : ∃ r0,r0=bl n (f i):=⟨_,rfl⟩
    rw [← hr0] at g41 hrow hrow' hvb ⊢
    rw [dR (g:=fV (f i) lg (ps i) (v+1)) (fun x _=>by rw [o5,hb];simp)] at b36
    with_reducible repeat' (first|refine Sp.h ?_|((first|refine Wd ?_|refine Ss.h ?_|(refine Sb.h ?_ ?_ ?_<;>(try intro hgd)<;>try exact Xy))<;>simp -implicitDefEqProofs (maxSteps:=2000000) [hP,hN,g1,b1,g3,g26,g27,g4,g41,g42,g43,b12,b36,hvl,hwv,hrow,hrow',hvb,hdk]<;>try refine Ya ?_)|refine X2 ?_ ?_|(refine Xd ?_ ?_<;>intro hcd<;>try exact Xx))
   |true=>
    rw [hb] at hrow hrow'
    obtain ⟨r0,hr0⟩ : ∃ r0,r0=bl n (f i):=⟨_,rfl⟩
    rw [← hr0] at g41 hrow hrow' hvb ⊢
    rw [dR (g:=fT (f i) lg (ps i) (bB lg n v) v 0) (fun x _=>by rw [sA])] at b36
    rw [dR (f:=fV (f i) lg (ps i) (v+1)) (g:=fT (f i) lg (ps i) (bB lg n v) v (bB lg n v).length) (fun x hx=>by rw [tr hb hx])]
    have htl:=mb lg n v
    have htn : ∀ k (h : k < (bB lg n v).length),(bB lg n v)[k] < n:=fun k h=>tt h
    generalize bB lg n v=tv at *
    with_reducible repeat' (first|refine Sp.h ?_|((first|refine Wd ?_|refine Ss.h ?_|(refine Sb.h ?_ ?_ ?_<;>(try intro hgd)<;>try exact Xy))<;>simp -implicitDefEqProofs (maxSteps:=2000000) [hP,hN,hn,g1,b1,g3,g26,g27,g4,g41,g42,g43,b12,b36,hvl,hwv,hrow,hrow',hvb,hdk,hx,hxe]<;>try refine Ya ?_)|refine X2 ?_ ?_|(refine Xd ?_ ?_<;>intro hcd<;>try exact Xx))
    refine WP.loopN [] tv.length (fun k st=>st.t 1=.ptr 1 0∧st.h 1=some (.box [.pv (.sl ns),.pv (Z start),.pv (Z goal),.pv (Z T),.pv (.fn (.func g) [] [.rptr x 0])] true false)∧st.t 3=.ext (.barr 12 M)∧st.t 26=.pv (Z T)∧st.t 27=.pv (Z i)∧st.t 4=.pv (Z i)∧st.t 41=.pv (.sl r0)∧st.t 42=.pv (Z n)∧st.t 43=.pv (Z v)∧st.t 5=.pv (Z v)∧st.t 54=.pv (zs (tv.map fun u=>((u : Nat) : Int)))∧st.t 55=.pv (Z tv.length)∧st.t 56=.pv (Z k)∧st.h 12=some (.box ds true false)∧st.h 36=some (.row 4 1 (bl n (fT (f i) lg (ps i) tv v k)) 0)) (by simp [hdk,g1,b1,g3,g26,g27,g4,g41,g42,g43,b12,b36]) ?_
    clear g1 b1 g3 g26 g27 g4 g41 g42 g43 b12 b36
    rintro k st hk ⟨g1,b1,g3,g26,g27,g4,g41,g42,g43,g5,g54,g55,g56,b12,b36⟩
    by_cases hkl : k < tv.length
    ·have hwk:=ak hkl (by omega)
     have hun:=htn k hkl
     have hstep:=fun x=>sB (f i) lg (ps i) (v:=v) x hkl
     have hti : tv[k]?=some tv[k]:=List.getElem?_eq_getElem hkl
     generalize hu : tv[k]=u at *
     have hg':=hg i v u hlt hvl hun
     have hcu:=lz (fT (f i) lg (ps i) tv v k) hun
     have hcu' : ∀ h,(bl n (fT (f i) lg (ps i) tv v k))[u]'h=B (fT (f i) lg (ps i) tv v k u):=fun h=>(List.getElem?_eq_some_iff.1 hcu).2
     cases hc : fT (f i) lg (ps i) tv v k u with
     |true=>
      rw [hc] at hcu hcu'
      have hsame : bl n (fT (f i) lg (ps i) tv v (k+1))=bl n (fT (f i) lg (ps i) tv v k):=dR fun x _=>by
       rw [hstep]
       by_cases e : u=x
       ·subst e;rw [hc];rfl
       ·simp [e]
      rw [hsame]
      generalize hr1 : bl n (fT (f i) lg (ps i) tv v k)=r1 at *
      have hr1l : r1.length=n:=by rw [← hr1,fa]
      with_reducible repeat' (first|refine Sp.h ?_|((first|refine Wd ?_|refine Ss.h ?_|refine Sc.h (hg') ?_|(refine Sb.h ?_ ?_ ?_<;>(try intro hgd)<;>try exact Xy))<;>simp -implicitDefEqProofs (maxSteps:=2000000) [hP,hN,g1,b1,g3,g26,g27,g4,g41,g42,g43,g5,g54,g55,g56,b12,b36,hkl,hwk,hw1,hti,hu,hun,hdl,dj,dj',hjM,hjz,hr1l,hcu,hcu',hdk]<;>try refine Ya ?_)|refine X2 ?_ ?_|(refine Xd ?_ ?_<;>intro hcd<;>try exact Xx))
     |false=>
      rw [hc] at hcu hcu'
      cases hp : ps i v u with
      |true=>
       rw [hp] at hg'
       have hset : (bl n (fT (f i) lg (ps i) tv v k)).set u (B true)=bl n (fT (f i) lg (ps i) tv v (k+1)):=lA hun (by rw [hstep,hp];simp) (fun x _ hx=>by rw [hstep];simp [show ¬ u=x from fun e=>hx e.symm])
       generalize hr2 : bl n (fT (f i) lg (ps i) tv v (k+1))=r2 at *
       generalize hr1 : bl n (fT (f i) lg (ps i) tv v k)=r1 at *
       have hr1l : r1.length=n:=by rw [← hr1,fa]
       with_reducible repeat' (first|refine Sp.h ?_|((first|refine Wd ?_|refine Ss.h ?_|refine Sc.h (hg') ?_|(refine Sb.h ?_ ?_ ?_<;>(try intro hgd)<;>try exact Xy))<;>simp -implicitDefEqProofs (maxSteps:=2000000) [hP,hN,g1,b1,g3,g26,g27,g4,g41,g42,g43,g5,g54,g55,g56,b12,b36,hkl,hwk,hw1,hti,hu,hun,hdl,dj,dj',hjM,hjz,hr1l,hcu,hcu',hdk,hset]<;>try refine Ya ?_)|refine X2 ?_ ?_|(refine Xd ?_ ?_<;>intro hcd<;>try exact Xx))
      |false=>
       rw [hp] at hg'
       have hsame : bl n (fT (f i) lg (ps i) tv v (k+1))=bl n (fT (f i) lg (ps i) tv v k):=dR fun x _=>by
        rw [hstep]
        by_cases e : u=x
        ·subst e;rw [hp];simp
        ·simp [e]
       rw [hsame]
       generalize hr1 : bl n (fT (f i) lg (ps i) tv v k)=r1 at *
       have hr1l : r1.length=n:=by rw [← hr1,fa]
       with_reducible repeat' (first|refine Sp.h ?_|((first|refine Wd ?_|refine Ss.h ?_|refine Sc.h (hg') ?_|(refine Sb.h ?_ ?_ ?_<;>(try intro hgd)<;>try exact Xy))<;>simp -implicitDefEqProofs (maxSteps:=2000000) [hP,hN,g1,b1,g3,g26,g27,g4,g41,g42,g43,g5,g54,g55,g56,b12,b36,hkl,hwk,hw1,hti,hu,hun,hdl,dj,dj',hjM,hjz,hr1l,hcu,hcu',hdk]<;>try refine Ya ?_)|refine X2 ?_ ?_|(refine Xd ?_ ?_<;>intro hcd<;>try exact Xx))
    ·have hkt : k=tv.length:=by omega
     subst hkt
     with_reducible repeat' (first|refine Sp.h ?_|((first|refine Wd ?_|refine Ss.h ?_|(refine Sb.h ?_ ?_ ?_<;>(try intro hgd)<;>try exact Xy))<;>simp -implicitDefEqProofs (maxSteps:=2000000) [hP,hN,g1,b1,g3,g26,g27,g4,g41,g42,g43,g5,g54,g55,g56,b12,b36,hkl,hwv,hdk]<;>try refine Ya ?_)|refine X2 ?_ ?_|(refine Xd ?_ ?_<;>intro hcd<;>try exact Xx))
  ·have hvn : v=n:=by omega
   subst hvn
   rw [dR (g:=f j) (fun x _=>by rw [← hj,hf1])] at b36
   refine WP.freezeB 12 j (k:=36) (xs:=bl v (f j)) (cs:=ds) (e:=4) (sz:=1) (fz:=0) (own:=true) (fb:=false) b12 (by rw [dj,fa]) b36 ?_
   have hend : ds.set j (.pv (.sl (bl v (f j))))=dZ v f (j+1) M:=by rw [hds,hcs];exact n0 _
   rw [hend,hj]
   with_reducible repeat' (first|refine Sp.h ?_|((first|refine Wd ?_|refine Ss.h ?_|(refine Sb.h ?_ ?_ ?_<;>(try intro hgd)<;>try exact Xy))<;>simp -implicitDefEqProofs (maxSteps:=2000000) [hP,hN,g1,b1,g3,g26,g27,g4,g41,g42,g43,hvl,hwr,hj,kw]<;>try refine Ya ?_)|refine X2 ?_ ?_|(refine Xd ?_ ?_<;>intro hcd<;>try exact Xx))
 ·have hiT : i=T:=by omega
  subst hiT
  rw [← hM] at b12
  obtain ⟨cs,hcs⟩ : ∃ cs,cs=dZ n f M M:=⟨_,rfl⟩
  have hW : bh st.h cs=some ((List.range M).map fun i=>.sl (bl n (f i)),[]):=by rw [hcs,sC];exact kx _ _ _
  have hcl : cs.length=M:=by rw [hcs,mc]
  obtain ⟨qs,hqs⟩ : ∃ qs,qs=(List.range M).map fun i=>PV.sl (bl n (f i)):=⟨_,rfl⟩
  have hone : qs.all dA=true:=by rw [hqs,List.all_eq_true];intro x hx;obtain ⟨v,_,rfl⟩:=List.mem_map.1 hx;rfl
  rw [← hqs] at hW
  rw [← hcs] at b12
  rw [show lB n f M=.sl qs from by rw [hqs]]
  have hone':=List.all_eq_true.1 hone
  with_reducible repeat' (first|refine Sp.h ?_|((first|refine Wd ?_|refine Ss.h ?_|(refine Sb.h ?_ ?_ ?_<;>(try intro hgd)<;>try exact Xy))<;>simp -implicitDefEqProofs (maxSteps:=2000000) [hP,hN,g1,b1,g3,g26,g27,b12,hlt,hW,hcl,hone]<;>try refine Ya ?_)|refine X2 ?_ ?_|(refine Xd ?_ ?_<;>intro hcd<;>try exact Xx))
  all_goals exact hone'
end Go.Ab
namespace Go.Ab
open Go.Proofs
theorem WP.forget {C : Cx} {c : Code} {Q : Exit→St→Prop} {st : St} (ks : List Nat) (h : WP C c Q (st.kill ks)) : WP C c Q st:=fun a w hs=>h a w (hs.kill ks)
def dk (n : Nat) (f : Nat→Nat→Bool) (i N : Nat) : List AV:=(List.range N).map fun w=>if i≤w then .pv (.sl (bl n (f w))) else bf
@[simp] theorem jW (n : Nat) (f : Nat→Nat→Bool) (i N : Nat) : (dk n f i N).length=N:=by simp [dk]
theorem rm (n : Nat) (f : Nat→Nat→Bool) (N : Nat) : List.replicate N bf=dk n f N N:=by
 unfold dk
 apply List.ext_getElem?
 intro w
 by_cases hw : w < N<;>simp [hw,show ¬ N≤w↔w < N by omega]
theorem o6 {n : Nat} {f : Nat→Nat→Bool} {i N : Nat} (x : AV) : ((dk n f (i+1) N).set i x).set i (.pv (.sl (bl n (f i))))=dk n f i N:=by
 rw [List.set_set]
 apply List.ext_getElem?
 intro w
 rw [List.getElem?_set]
 simp only [jW]
 by_cases hw : w < N
 ·by_cases e : i=w
  ·subst e;simp [dk,hw]
  ·simp [dk,hw,e,show (i+1≤w↔i≤w) by omega]
 ·by_cases e : i=w
  ·subst e;simp [dk,hw]
  ·simp [dk,hw,e]
theorem fo (ks : List Nat) (n : Nat) (f : Nat→Nat→Bool) (i N : Nat) : (dk n f i N).map (bc ks)=dk n f i N:=by
 unfold dk;rw [List.map_map]
 refine List.map_congr_left fun w _=>?_
 simp only [Function.comp];split<;>simp [eX,bp]
theorem rn (n : Nat) (f : Nat→Nat→Bool) (N : Nat) : dk n f 0 N=((List.range N).map fun i=>AV.pv (.sl (bl n (f i)))):=by
 unfold dk;exact List.map_congr_left fun w _=>if_pos (Nat.zero_le _)
def mJ (n : Nat) (f : Nat→Nat→Bool) (i : Nat) (r : List PV) (w : Nat) : List PV:=if w=i then r else if i≤w then bl n (f w) else []
theorem tw {q : Nat→List PV} {N w : Nat} (hw : w < N) : ((List.range N).map fun w=>PV.sl (q w))[w]?=some (.sl (q w)):=by simp [hw]
theorem mL {h : Hp} {f : Nat→AV} {g : Nat→PV} {i : Nat} {p : Nat × Blk} (hi : c8 h (f i)=some (g i,[p])) (ho : ∀ v,v≠i→c8 h (f v)=some (g v,[])) : ∀ (l : List Nat),l.Nodup→bh h (l.map f)=some (l.map g,if i ∈ l then [p] else [])
 |[],_=>rfl
 |v :: l,hn=>by
  rw [List.nodup_cons] at hn
  have ih:=mL hi ho l hn.2
  by_cases e : v=i
  ·subst e
   rw [if_neg hn.1] at ih
   simp only [List.map_cons,bh,hi,ih];simp
  ·simp only [List.map_cons,bh,ho v e,ih,List.nil_append,List.mem_cons]
   simp [show ¬ i=v from fun e'=>e e'.symm]
theorem lC (n : Nat) (f : Nat→Nat→Bool) (i N k : Nat) : (dk n f (i+1) N).set i (.arr k n)=(List.range N).map fun w=>if w=i then .arr k n else if i≤w then .pv (.sl (bl n (f w))) else bf:=by
 apply List.ext_getElem?
 intro w
 rw [List.getElem?_set]
 simp only [jW]
 by_cases hw : w < N
 ·by_cases e : i=w
  ·subst e;simp [hw]
  ·simp [dk,hw,e,show ¬ w=i from fun e'=>e e'.symm,show (i+1≤w↔i≤w) by omega]
 ·by_cases e : i=w
  ·subst e;simp [hw]
  ·simp [dk,hw,e]
theorem sD {n : Nat} {f : Nat→Nat→Bool} {i N : Nat} {r : List PV} {h : Hp} {k e9 sz fz : Nat} (hr : r.length=n) (hk : h k=some (.row e9 sz r fz)) (hi : i < N) : bh h ((dk n f (i+1) N).set i (.arr k n))=some ((List.range N).map fun w=>.sl (mJ n f i r w),[(k,.row e9 sz r r.length)]):=by
 rw [lC,mL (g:=fun w=>.sl (mJ n f i r w)) (i:=i) (p:=(k,.row e9 sz r r.length)) ?_ ?_ _ List.nodup_range,if_pos (List.mem_range.2 hi)]
 ·simp [c8,hk,hr,mJ]
 ·intro v hv
  simp only [if_neg hv,mJ]
  split<;>rfl
theorem ro {n : Nat} {f : Nat→Nat→Bool} {i N k : Nat} (hi : i < N) : ((dk n f (i+1) N).set i (.arr k n)).flatMap eu=[k]:=by
 have key : ∀ l : List Nat,l.Nodup→(l.map fun w=>if w=i then AV.arr k n else if i≤w then .pv (.sl (bl n (f w))) else bf).flatMap eu=if i ∈ l then [k] else []:=by
  intro l
  induction l with
  |nil=>intro _;rfl
  |cons v l ih=>
   intro hn
   rw [List.nodup_cons] at hn
   rw [List.map_cons,List.flatMap_cons,ih hn.2]
   by_cases e : v=i
   ·subst e;simp [hn.1,eu]
   ·rw [if_neg e]
    have : eu (if i≤v then AV.pv (.sl (bl n (f v))) else bf)=[]:=by split<;>rfl
    rw [this,List.nil_append]
    simp [show ¬ i=v from fun e'=>e e'.symm]
 rw [lC,key _ List.nodup_range,if_pos (List.mem_range.2 hi)]
theorem vp (n : Nat) (lg : Nat→Nat→Bool) (ps : Nat→Nat→Nat→Bool) (ns : List PV) (start : Int) (goal A : Nat) (T : Int) (g : FuncId) (x : PV) (hn : ns.length=n) (hns : ∀ v,v < n→ns[v]?=some (zs ((bB lg n v).map fun u=>((u : Nat) : Int)))) (hn1 : n≤1024) (hA : A≤64) (hs : goal < n) (hg : ∀ i v u,i < A→v < n→u < n→am Try.prog g [.pv (Z i),.pv (Z v),.pv (Z u),.pv (.rptr x 0)] [] [] (.pv (B (ps i v u)))) : am Try.prog 56 [.pv (nZ (.sl ns) start goal T g x),.pv (Z A)] [] [] (.pv (lB n (fun i=>eo n lg ps goal A (A - i)) (A+1))):=by
 obtain ⟨M,hM⟩ : ∃ M,M=A+1:=⟨_,rfl⟩
 obtain ⟨f,hf⟩ : ∃ f,f=fun i=>eo n lg ps goal A (A - i):=⟨_,rfl⟩
 rw [← hM,← hf]
 have hf0 : ∀ v,f A v=(v==goal):=fun v=>by rw [hf];simp only [Nat.sub_self];rfl
 have hf1 : ∀ i v,i < A→f i v=(List.range n).any fun u=>lg v u && (f (i+1) u && ps i v u):=fun i v hi=>by
  rw [hf];simp only
  obtain ⟨d,hd⟩ : ∃ d,A - i=d+1:=⟨A - i - 1,by omega⟩
  rw [hd,show A - (i+1)=d from by omega]
  show ((List.range n).any fun u=>lg v u && (eo n lg ps goal A d u && ps (A - (d+1)) v u))=_
  rw [show A - (d+1)=i from by omega]
 have w0 : IntKind.i64.wrap ((A : Int)+1)=(M : Int):=by rw [IntKind.wrap_i64];omega
 have w1 : IntKind.i64.wrap ((A : Int) - 1)=(A : Int) - 1:=bP
 have hM0 : 0 < M:=by omega
 have hAM : A < M:=by omega
 have hAM1 : A+1≤M:=by omega
 have hAz : (A : Int) < (M : Int):=by omega
 obtain ⟨rs,hrs⟩ : ∃ rs,rs=List.replicate M bf:=⟨_,rfl⟩
 have hrl : rs.length=M:=by rw [hrs,List.length_replicate]
 obtain ⟨qs,hqs⟩ : ∃ qs,qs=rs.set A (.arr 17 n):=⟨_,rfl⟩
 have hql : qs.length=M:=by rw [hqs,List.length_set,hrl]
 have qa : qs[A]?=some (.arr 17 n):=by rw [hqs];simp [hrl,hAM]
 have qa' : ∀ h,qs[A]'h=.arr 17 n:=fun h=>(List.getElem?_eq_some_iff.1 qa).2
 have hsp0 : rs.take A++AV.arr 17 n :: rs.drop (A+1)=qs:=by rw [hqs];exact ce (by omega)
 refine Dp Try.func56 ?_
 intro C hP hN
 simp only [Try.f56] at hN ⊢
 with_reducible repeat' (first|refine Sp.h ?_|((first|refine Wh [1000011,17] ?_|refine Wi [1000011,17] ?_|refine Ss.h ?_|(refine Sb.h ?_ ?_ ?_<;>(try intro hgd)<;>try exact Xy))<;>simp -implicitDefEqProofs (maxSteps:=2000000) [hP,hN,hn,w0,w1,hM0,hs,hAM,hAM1,hAz,← hrs,hrl,hsp0,hql,qa,qa',show (M : Int) * 24≤281474976710656 by omega,show 24 * (M : Int)≤281474976710656 by omega,show (M : Int)≤9223372036854775807 by omega,show (n : Int)≤281474976710656 by omega,show (n : Int)≤9223372036854775807 by omega]<;>try refine Ya ?_)|refine X2 ?_ ?_|(refine Xd ?_ ?_<;>intro hcd<;>try exact Xx))
 have hr0 : (List.replicate n (B false)).set goal (B true)=bl n (f A):=by
  rw [jV];exact lA hs (by simp [hf0]) (fun v _ hv=>by rw [hf0];simpa using hv)
 have hc1 : qs.set A (.pv (.sl (bl n (f A))))=dk n f A M:=by
  rw [hqs,hrs,rm n f,hM];exact o6 _
 refine WP.freezeB 11 A (k:=17) (xs:=bl n (f A)) (cs:=qs) (e:=4) (sz:=1) (fz:=0) (own:=true) (fb:=false) (by simp) (by simp [qa]) (by simp [hr0]) ?_
 rw [hc1]
 refine WP.loopN [37,7] A (fun c st=>st.t 2=.ptr 2 0∧st.h 2=some (.box [.pv (.sl ns),.pv (Z start),.pv (Z goal),.pv (Z T),.pv (.fn (.func g) [] [.rptr x 0])] true false)∧st.t 5=.ptr 5 0∧st.h 5=some (.box [.ext (.barr 11 M)] true false)∧st.t 6=.ptr 6 0∧st.h 6=some (.box [.pv (Z ((A : Int) - 1 - c))] true false)∧st.h 11=some (.box (dk n f (A - c) M) true false)∧st.h 37=none∧st.h 7=none) (by simp [fo]) ?_
 rintro c st hi ⟨g2,b2,g5,b5,g6,b6,b11,b37,b7⟩
 by_cases hlt : c < A
 ·obtain ⟨i,hic⟩ : ∃ i,i=A - 1 - c:=⟨_,rfl⟩
  obtain ⟨j,hj⟩ : ∃ j,i+1=j:=⟨_,rfl⟩
  obtain ⟨cs,hcs⟩ : ∃ cs,cs=dk n f j M:=⟨_,rfl⟩
  rw [show (A : Int) - 1 - c=(i : Int) by omega] at b6
  rw [show A - c=j by omega,← hcs] at b11
  have hcl : cs.length=M:=by rw [hcs,jW]
  have hiA : i < A:=by omega
  have hiM : i < M:=by omega
  have hiM1 : i+1≤M:=by omega
  have hiz : (i : Int) < (M : Int):=by omega
  have hi0 : ¬ (i : Int) < 0:=by omega
  have hi0' : 0≤(i : Int):=by omega
  have hwi : IntKind.i64.wrap ((i : Int) - 1)=(i : Int) - 1:=bP
  have hfin : (A : Int) - 1 - ((c : Int)+1)=(i : Int) - 1:=by omega
  have hfin2 : A - (c+1)=i:=by omega
  have hsp : cs.take i++AV.arr 37 n :: cs.drop (i+1)=cs.set i (.arr 37 n):=ce (by omega)
  obtain ⟨ds,hds⟩ : ∃ ds,ds=cs.set i (.arr 37 n):=⟨_,rfl⟩
  rw [← hds] at hsp
  have hdl : ds.length=M:=by rw [hds,List.length_set,hcl]
  have di : ds[i]?=some (.arr 37 n):=by rw [hds];simp [hcl,hiM]
  have di' : ∀ h,ds[i]'h=.arr 37 n:=fun h=>(List.getElem?_eq_some_iff.1 di).2
  have hdk : ds.map (bc [7])=ds:=by rw [hds,List.map_set,hcs,fo];rfl
  have hd6 : ∀ z,(ds.set i (.pv (.sl z))).map (bc [6])=ds.set i (.pv (.sl z)):=by intro z;rw [hds,List.set_set,List.map_set,hcs,fo];rfl
  have hfz : ∀ (h : Hp) r,r.length=n→h 37=some (.row 4 1 r 0)→bh h ds=some ((List.range M).map fun w=>.sl (mJ n f i r w),[(37,.row 4 1 r r.length)]):=fun h r h1 h2=>by rw [hds,hcs,← hj];exact sD h1 h2 hiM
  have hrf : ds.flatMap eu=[37]:=by rw [hds,hcs,← hj];exact ro hiM
  with_reducible repeat' (first|refine Sp.h ?_|((first|refine Wh [37] ?_|refine Wi [37] ?_|refine Ss.h ?_|(refine Sb.h ?_ ?_ ?_<;>(try intro hgd)<;>try exact Xy))<;>simp -implicitDefEqProofs (maxSteps:=2000000) [hP,hN,hn,g2,b2,g5,b5,g6,b6,b11,b37,b7,hlt,hcl,hiM,hiM1,hiz,hi0,hi0',hsp,hfin,show (n : Int)≤281474976710656 by omega,show (n : Int)≤9223372036854775807 by omega]<;>try refine Ya ?_)|refine X2 ?_ ?_|(refine Xd ?_ ?_<;>intro hcd<;>try exact Xx))
  refine WP.loopN [7] n (fun v st=>st.t 2=.ptr 2 0∧st.h 2=some (.box [.pv (.sl ns),.pv (Z start),.pv (Z goal),.pv (Z T),.pv (.fn (.func g) [] [.rptr x 0])] true false)∧st.t 5=.ptr 5 0∧st.h 5=some (.box [.ext (.barr 11 M)] true false)∧st.t 6=.ptr 6 0∧st.h 6=some (.box [.pv (Z i)] true false)∧st.t 40=.pv (.sl ns)∧st.t 41=.pv (Z n)∧st.t 42=.pv (Z v)∧st.h 11=some (.box ds true false)∧st.h 37=some (.row 4 1 (bl n fun x=>decide (x < v) && f i x) 0)∧st.h 7=none) (by simp [hdk,g2,b2,g5,b5,g6,b6,jV]) ?_
  clear g2 b2 g5 b5 g6 b6 b11 b37 b7
  rintro v st hv ⟨g2,b2,g5,b5,g6,b6,g40,g41,g42,b11,b37,b7⟩
  by_cases hvl : v < n
  ·have hwv:=ak hvl (by omega)
   have hx:=hns v hvl
   have hxl:=(List.getElem?_eq_some_iff.1 hx).1
   have hxe:=(List.getElem?_eq_some_iff.1 hx).2
   have htl:=mb lg n v
   have hrow1 : (bl n fun x=>decide (x < v) && f i x).length=n:=fa _ _
   have hW:=fun (h : Hp)=>hfz h _ hrow1
   have hat : ((List.range M).map fun w=>PV.sl (mJ n f i (bl n fun x=>decide (x < v) && f i x) w))[j]?=some (.sl (bl n (f j))):=by rw [tw (by omega),mJ,if_neg (by omega),if_pos (by omega)]
   have hset : (bl n fun x=>decide (x < v) && f i x).set v (B (f i v))=bl n fun x=>decide (x < v+1) && f i x:=lA hvl (by simp) (fun x _ hx=>by simp [show (x < v+1↔x < v) by omega])
   generalize bl n (fun x=>decide (x < v) && f i x)=r1 at *
   generalize bl n (fun x=>decide (x < v+1) && f i x)=r2 at *
   generalize mJ n f i r1=rows at *
   have hres : ((bB lg n v).map fun u=>((u : Nat) : Int)).any (fun u=>f j u.toNat && ps i v u.toNat)=f i v:=by
    rw [hf1 i v hiA,hj,List.any_map,bB,List.any_filter];rfl
   have cc:=vl (fun u=>f j u.toNat && ps i v u.toNat) ((bB lg n v).map fun u=>((u : Nat) : Int)) 69 (.sl ((List.range M).map fun w=>.sl (rows w))) (Z i) (nZ (.sl ns) start goal T g x) (Z v) (by simp;omega) (fun u hu=>by
    obtain ⟨k,hk,rfl⟩:=List.mem_map.1 hu
    have hkn : k < n:=List.mem_range.1 (List.mem_filter.1 hk).1
    simp only [Int.toNat_natCast]
    exact vm ((List.range M).map fun w=>.sl (rows w)) (bl n (f j)) i v k (.sl ns) start goal T g x (f j k) (ps i v k) (by omega) (by rw [hj];exact hat) (by omega) (by rw [Int.toNat_natCast];exact lz _ hkn) (fun _=>hg i v k hiA hvl hkn))
   rw [hres] at cc
   generalize (bB lg n v).map (fun u=>((u : Nat) : Int))=tv at *
   with_reducible repeat' (first|refine Sp.h ?_|((first|refine Wd ?_|refine Ss.h ?_|refine Sc.h (cc) ?_|(refine Sb.h ?_ ?_ ?_<;>(try intro hgd)<;>try exact Xy))<;>simp -implicitDefEqProofs (maxSteps:=2000000) [hP,hN,hn,g2,b2,g5,b5,g6,b6,g40,g41,g42,b11,b37,b7,hvl,hwv,hx,hxe,hiM,hiz,hdl,di,di',hrf,hW,hrow1,hset,hdk]<;>try refine Ya ?_)|refine X2 ?_ ?_|(refine Xd ?_ ?_<;>intro hcd<;>try exact Xx))
  ·have hvn : v=n:=by omega
   subst hvn
   rw [dR (g:=f i) (fun x hx=>by simp [hx])] at b37
   refine WP.freezeB 11 i (k:=37) (xs:=bl v (f i)) (cs:=ds) (e:=4) (sz:=1) (fz:=0) (own:=true) (fb:=false) b11 (by rw [di,fa]) b37 ?_
   have hend : ds.set i (.pv (.sl (bl v (f i))))=dk v f i M:=by rw [hds,hcs,← hj];exact o6 _
   rw [hend]
   obtain ⟨es,hes⟩ : ∃ es,es=dk v f i M:=⟨_,rfl⟩
   have hesk : ∀ ks,es.map (bc ks)=es:=fun ks=>by rw [hes];exact fo _ _ _ _ _
   rw [← hes]
   with_reducible iterate 8 any_goals (first|refine Sp.h ?_|((first|refine Wd ?_|refine Ss.h ?_|(refine Sb.h ?_ ?_ ?_<;>(try intro hgd)<;>try exact Xy))<;>simp -implicitDefEqProofs (maxSteps:=2000000) [hP,hN,g2,b2,g5,b5,g6,b6,g41,g42,hvl]<;>try refine Ya ?_)|refine X2 ?_ ?_|(refine Xd ?_ ?_<;>intro hcd<;>try exact Xx))
   refine WP.forget [6] ?_
   with_reducible repeat' (first|refine Sp.h ?_|((first|refine Wd ?_|refine Ss.h ?_|(refine Sb.h ?_ ?_ ?_<;>(try intro hgd)<;>try exact Xy))<;>simp -implicitDefEqProofs (maxSteps:=2000000) [hP,hN,g2,b2,g5,b5,g6,b6,hwi,hfin,hfin2,hesk,hes]<;>try refine Ya ?_)|refine X2 ?_ ?_|(refine Xd ?_ ?_<;>intro hcd<;>try exact Xx))
   rw [← List.map_map,fo,fo]
 ·have hcA : c=A:=by omega
  subst hcA
  rw [Nat.sub_self] at b11
  obtain ⟨cs,hcs⟩ : ∃ cs,cs=dk n f 0 M:=⟨_,rfl⟩
  have hW : bh st.h cs=some ((List.range M).map fun i=>.sl (bl n (f i)),[]):=by rw [hcs,rn];exact kx _ _ _
  have hcl : cs.length=M:=by rw [hcs,jW]
  rw [← hcs] at b11
  with_reducible repeat' (first|refine Sp.h ?_|((first|refine Wd ?_|refine Ss.h ?_|(refine Sb.h ?_ ?_ ?_<;>(try intro hgd)<;>try exact Xy))<;>simp -implicitDefEqProofs (maxSteps:=2000000) [hP,hN,g2,b2,g5,b5,g6,b6,b11,hlt,hW,hcl,show (c : Int) - 1 - c < 0 by omega,show ¬ 0≤(c : Int) - 1 - c by omega]<;>try refine Ya ?_)|refine X2 ?_ ?_|(refine Xd ?_ ?_<;>intro hcd<;>try exact Xx))
end Go.Ab
namespace Go.Ab
open Go.Proofs
theorem WP.cut {C : Cx} {c : Code} {id : Nat} {Q : Exit→St→Prop} {st : St} (P : St→Prop) (h1 : WP C c (fW id fun e st=>e=.normal∧P st) st) (h2 : ∀ st,P st→Q .normal st) : WP C c (fW id Q) st:=by
 refine h1.mono fun e st h=>?_
 cases e with
 |normal=>exact h2 st h.2
 |exit i=>
  simp only [fW] at h ⊢
  split at h
  ·rename_i e;rw [if_pos e];exact h2 st h.2
  ·cases h.1
 |goto l=>cases h.1
 |ret=>cases h.1
 |panic ch=>cases h.1
 |outgrown=>cases h.1
theorem ky {α : Type} (p : α→Bool) : ∀ xs : List α,xs[xs.findIdx p]?=xs.find? p
 |[]=>rfl
 |a :: l=>by
  rw [List.findIdx_cons,List.find?_cons]
  cases h : p a with
  |true=>simp
  |false=>simpa using ky p l
def jX (n : Nat) (lg : Nat→Nat→Bool) (ps : Nat→Nat→Nat→Bool) (start goal T : Nat) : Option (List Int):=(aR n lg ps start goal T).map fun A=>(List.range (T+1)).map fun i=>((bu n lg ps start goal A i : Nat) : Int)
theorem tB {n : Nat} {lg : Nat→Nat→Bool} {ps : Nat→Nat→Nat→Bool} {start goal T A : Nat} (hs : start < n) (hA : aR n lg ps start goal T=some A) (hg : goal < n) {i : Nat} (hi : i < A) :
 ∃ k : Nat,dp (fun u : Int=>eo n lg ps goal A (A - (i+1)) u.toNat && ps i (bu n lg ps start goal A i) u.toNat) ((bB lg n (bu n lg ps start goal A i)).map fun u=>((u : Nat) : Int))=k∧(bB lg n (bu n lg ps start goal A i))[k]?=some (bu n lg ps start goal A (i+1)):=by
 obtain ⟨h1,h2,h3⟩:=fp hs hA hg (i+1) (by omega)
 have h4:=h3 i (by omega)
 have hb : eo n lg ps goal A (A - (i+1)) (bu n lg ps start goal A (i+1))=true:=by rw [ju (by omega)];rwa [show A - (A - (i+1))=i+1 from by omega]
 have e : bu n lg ps start goal A (i+1)=((List.range n).find? fun u=>lg (bu n lg ps start goal A i) u && (eo n lg ps goal A (A - (i+1)) u && ps i (bu n lg ps start goal A i) u)).getD 0:=by rw [bu,if_pos hi]
 generalize bu n lg ps start goal A (i+1)=y at *
 generalize bu n lg ps start goal A i=v at *
 obtain ⟨x,hx1,hx2,hx3⟩:=mY (p:=fun u=>lg v u && (eo n lg ps goal A (A - (i+1)) u && ps i v u)) h1 (by simp [h4.1,h4.2,hb])
 rw [hx1,Option.getD_some] at e
 subst e
 refine ⟨(bB lg n v).findIdx fun u=>eo n lg ps goal A (A - (i+1)) u && ps i v u,?_,?_⟩
 ·rw [dp,if_pos]
  ·congr 1
   rw [List.findIdx_map];rfl
  ·rw [List.any_eq_true]
   refine ⟨(y : Int),List.mem_map.2 ⟨y,?_,rfl⟩,?_⟩
   ·simp only [bB,List.mem_filter,List.mem_range];exact ⟨h1,h4.1⟩
   ·simp [hb,h4.2]
 ·rw [ky,bB,List.find?_filter,← hx1];exact pX fun u _=>by rw [Bool.eq_iff_iff];simp
def dl (n : Nat) (lg : Nat→Nat→Bool) (ps : Nat→Nat→Nat→Bool) (start goal A N : Nat) : List Int:=(List.range N).map fun i=>((bu n lg ps start goal A i : Nat) : Int)
theorem kz (n : Nat) (lg : Nat→Nat→Bool) (ps : Nat→Nat→Nat→Bool) (start goal A N : Nat) : dl n lg ps start goal A (N+1)=dl n lg ps start goal A N++[((bu n lg ps start goal A N : Nat) : Int)]:=by simp [dl,List.range_succ]
theorem o7 (n : Nat) (lg : Nat→Nat→Bool) (ps : Nat→Nat→Nat→Bool) (start goal A N : Nat) : (dl n lg ps start goal A N).length=N:=by simp [dl]
theorem tD {n : Nat} {lg : Nat→Nat→Bool} {ps : Nat→Nat→Nat→Bool} {start goal A N i : Nat} (h : i < N) : (dl n lg ps start goal A N)[i]?=some ((bu n lg ps start goal A i : Nat) : Int):=by simp [dl,h]
theorem vu (n : Nat) (lg : Nat→Nat→Bool) (ps : Nat→Nat→Nat→Bool) (ns : List PV) (start goal T : Nat) (g : FuncId) (x : PV) (hn : ns.length=n) (hns : ∀ v,v < n→ns[v]?=some (zs ((bB lg n v).map fun u=>((u : Nat) : Int)))) (hn1 : n≤1024) (hT : T≤64) (hs : start < n) (hgo : goal < n) (hg : ∀ i v u,i < T→v < n→u < n→am Try.prog g [.pv (Z i),.pv (Z v),.pv (Z u),.pv (.rptr x 0)] [] [] (.pv (B (ps i v u)))) : am Try.prog 38 [.pv (nZ (.sl ns) start goal T g x)] [] [] (.pv (.tup (match jX n lg ps start goal T with|some l=>[zs l,B true]|none=>[.sl [],B false]))):=by
 have cr:=vo n lg ps ns start goal T g x hn hns hn1 hT hs hg
 obtain ⟨S,hS⟩ : ∃ S,S=aK ps goal T:=⟨_,rfl⟩
 have hST : S≤T:=by rw [hS];exact iL _ _ _
 obtain ⟨f,hf⟩ : ∃ f,f=i0 n lg ps start:=⟨_,rfl⟩
 have hap : aR n lg ps start goal T=dS (fun a=>f a goal) S (T+1 - S):=by rw [aR,hS,hf]
 rw [← hf] at cr
 obtain ⟨R,hRR⟩ : ∃ R,aR n lg ps start goal T=R:=⟨_,rfl⟩
 rw [hRR] at hap
 obtain ⟨rs,hrs⟩ : ∃ rs,rs=(List.range (T+1)).map fun i=>PV.sl (bl n (f i)):=⟨_,rfl⟩
 rw [show lB n f (T+1)=.sl rs by rw [hrs]] at cr
 have hra : ∀ a,a≤T→rs[a]?=some (.sl (bl n (f a))):=fun a ha=>by rw [hrs];simp [show a < T+1 by omega]
 clear hrs
 refine Dp Try.func38 ?_
 intro C hP hN
 simp only [Try.f38] at hN ⊢
 with_reducible repeat' (first|refine Sp.h ?_|((first|refine Wd ?_|refine Ss.h ?_|(refine Sb.h ?_ ?_ ?_<;>(try intro hgd)<;>try exact Xy))<;>simp -implicitDefEqProofs (maxSteps:=2000000) [hP,hN]<;>try refine Ya ?_)|refine X2 ?_ ?_|(refine Xd ?_ ?_<;>intro hcd<;>try exact Xx))
 refine WP.cut (fun st=>st.t 1=.ptr 1 0∧st.h 1=some (.box [.pv (.sl ns),.pv (Z start),.pv (Z goal),.pv (Z T),.pv (.fn (.func g) [] [.rptr x 0])] true false)∧st.t 4=.pv (Z S)∧st.h 7=none∧st.h 9=none∧st.h 10=none∧st.h 58=none) ?_ ?_
 ·refine WP.loop [] (fun st=>∃ s : Nat,st.t 1=.ptr 1 0∧st.h 1=some (.box [.pv (.sl ns),.pv (Z start),.pv (Z goal),.pv (Z T),.pv (.fn (.func g) [] [.rptr x 0])] true false)∧st.t 4=.pv (Z s)∧s≤T∧aK ps goal s=S∧st.h 7=none∧st.h 9=none∧st.h 10=none∧st.h 58=none) (fun st=>match st.t 4 with|.pv (.val (.int _ a))=>a.toNat|_=>0) (by exact ⟨T,by simp [hS]⟩) ?_
  rintro st ⟨s,g1,b1,g4,hsT,hse,b7,b9,b10,b58⟩
  cases s with
  |zero=>
   have : (0 : Nat)=S:=hse
   subst this
   with_reducible repeat' (first|refine Sp.h ?_|((first|refine Wd ?_|refine Ss.h ?_|(refine Sb.h ?_ ?_ ?_<;>(try intro hgd)<;>try exact Xy))<;>simp -implicitDefEqProofs (maxSteps:=2000000) [hP,hN,g1,b1,g4,b7,b9,b10,b58]<;>try refine Ya ?_)|refine X2 ?_ ?_|(refine Xd ?_ ?_<;>intro hcd<;>try exact Xx))
  |succ s=>
   have hg':=hg s goal goal (by omega) hgo hgo
   have hw1 : IntKind.i64.wrap (((s+1 : Nat) : Int) - 1)=(s : Int):=by rw [IntKind.wrap_i64];omega
   obtain ⟨j,hj⟩ : ∃ j,s+1=j:=⟨_,rfl⟩
   have hj0 : 0 < (j : Int):=by omega
   have hj1 : 0 < j:=by omega
   rw [hj] at g4 hw1
   cases hp : ps s goal goal with
   |true=>
    rw [hp] at hg'
    have hse' : aK ps goal s=S:=by rw [← hse,aK,if_pos hp]
    with_reducible repeat' (first|refine Sp.h ?_|((first|refine Wd ?_|refine Ss.h ?_|refine Sc.h (hg') ?_|(refine Sb.h ?_ ?_ ?_<;>(try intro hgd)<;>try exact Xy))<;>simp -implicitDefEqProofs (maxSteps:=2000000) [hP,hN,g1,b1,g4,b7,b9,b10,b58,hw1,hj0,hj1]<;>try refine Ya ?_)|refine X2 ?_ ?_|(refine Xd ?_ ?_<;>intro hcd<;>try exact Xx))
    all_goals exact ⟨⟨s,rfl,by omega,hse'⟩,by omega⟩
   |false=>
    rw [hp] at hg'
    have hse' : j=S:=by rw [← hse,aK,if_neg (by rw [hp];decide),hj]
    subst hse'
    with_reducible repeat' (first|refine Sp.h ?_|((first|refine Wd ?_|refine Ss.h ?_|refine Sc.h (hg') ?_|(refine Sb.h ?_ ?_ ?_<;>(try intro hgd)<;>try exact Xy))<;>simp -implicitDefEqProofs (maxSteps:=2000000) [hP,hN,g1,b1,g4,b7,b9,b10,b58,hw1,hj0,hj1]<;>try refine Ya ?_)|refine X2 ?_ ?_|(refine Xd ?_ ?_<;>intro hcd<;>try exact Xx))
 ·rintro st ⟨g1,b1,g4,b7,b9,b10,b58⟩
  show WP C _ _ st
  with_reducible repeat' (first|refine Sp.h ?_|((first|refine Wd ?_|refine Ss.h ?_|refine Sc.h (cr) ?_|(refine Sb.h ?_ ?_ ?_<;>(try intro hgd)<;>try exact Xy))<;>simp -implicitDefEqProofs (maxSteps:=2000000) [hP,hN,g1,b1,g4,b7,b9,b10,b58]<;>try refine Ya ?_)|refine X2 ?_ ?_|(refine Xd ?_ ?_<;>intro hcd<;>try exact Xx))
  refine WP.cut (fun st=>∃ a : Nat,st.t 1=.ptr 1 0∧st.h 1=some (.box [.pv (.sl ns),.pv (Z start),.pv (Z goal),.pv (Z T),.pv (.fn (.func g) [] [.rptr x 0])] true false)∧st.t 6=.pv (Z a)∧st.h 7=none∧st.h 9=none∧st.h 10=none∧st.h 58=none∧((a=T+1∧R=none)∨(a≤T∧R=some a))) ?_ ?_
  ·refine WP.loopN [] (T+1 - S) (fun c st=>st.t 1=.ptr 1 0∧st.h 1=some (.box [.pv (.sl ns),.pv (Z start),.pv (Z goal),.pv (Z T),.pv (.fn (.func g) [] [.rptr x 0])] true false)∧st.t 5=.pv (.sl rs)∧st.t 6=.pv (Z (S+c : Nat))∧st.h 7=none∧st.h 9=none∧st.h 10=none∧st.h 58=none∧dS (fun a=>f a goal) (S+c) (T+1 - (S+c))=R) (by simp [g1,b1,b7,b9,b10,b58,hap]) ?_
   clear g1 b1 g4 b7 b9 b10 b58
   rintro c st hc ⟨g1,b1,g5,g6,b7,b9,b10,b58,hfa⟩
   obtain ⟨a,ha⟩ : ∃ a,a=S+c:=⟨_,rfl⟩
   have ha1 : S+(c+1)=a+1:=by omega
   rw [ha1]
   rw [← ha] at g6 hfa
   by_cases haT : a≤T
   ·have hx:=hra a haT
    have hxl:=(List.getElem?_eq_some_iff.1 hx).1
    have hxe:=(List.getElem?_eq_some_iff.1 hx).2
    have hy:=lz (f a) hgo
    have hyl : goal < (bl n (f a)).length:=by rw [fa];exact hgo
    have hye : ∀ h,(bl n (f a))[goal]'h=B (f a goal):=fun h=>(List.getElem?_eq_some_iff.1 hy).2
    have haz : (a : Int)≤(T : Int):=by omega
    have hwa : IntKind.i64.wrap ((a : Int)+1)=(a : Int)+1:=bP
    have hcc : c < T+1 - S:=by omega
    rw [show T+1 - a=(T+1 - (a+1))+1 by omega,dS] at hfa
    generalize bl n (f a)=ra at *
    cases hb : f a goal with
    |true=>
     rw [hb] at hy hye
     simp only [hb,if_true] at hfa
     with_reducible repeat' (first|refine Sp.h ?_|((first|refine Wd ?_|refine Ss.h ?_|(refine Sb.h ?_ ?_ ?_<;>(try intro hgd)<;>try exact Xy))<;>simp -implicitDefEqProofs (maxSteps:=2000000) [hP,hN,g1,b1,g5,g6,b7,b9,b10,b58,haT,haz,hx,hxe,hxl,hy,hyl,hye]<;>try refine Ya ?_)|refine X2 ?_ ?_|(refine Xd ?_ ?_<;>intro hcd<;>try exact Xx))
     exact ⟨a,rfl,.inr ⟨haT,hfa.symm⟩⟩
    |false=>
     rw [hb] at hy hye
     simp only [hb,Bool.false_eq_true,if_false] at hfa
     with_reducible repeat' (first|refine Sp.h ?_|((first|refine Wd ?_|refine Ss.h ?_|(refine Sb.h ?_ ?_ ?_<;>(try intro hgd)<;>try exact Xy))<;>simp -implicitDefEqProofs (maxSteps:=2000000) [hP,hN,g1,b1,g5,g6,b7,b9,b10,b58,haT,haz,hx,hxe,hxl,hy,hyl,hye,hwa]<;>try refine Ya ?_)|refine X2 ?_ ?_|(refine Xd ?_ ?_<;>intro hcd<;>try exact Xx))
     exact ⟨hcc,by rw [show T - a=T+1 - (a+1) by omega];exact hfa⟩
   ·have haT1 : a=T+1:=by omega
    rw [show T+1 - a=0 by omega,dS] at hfa
    have haz : ¬ (a : Int)≤(T : Int):=by omega
    with_reducible repeat' (first|refine Sp.h ?_|((first|refine Wd ?_|refine Ss.h ?_|(refine Sb.h ?_ ?_ ?_<;>(try intro hgd)<;>try exact Xy))<;>simp -implicitDefEqProofs (maxSteps:=2000000) [hP,hN,g1,b1,g5,g6,b7,b9,b10,b58,haT,haz]<;>try refine Ya ?_)|refine X2 ?_ ?_|(refine Xd ?_ ?_<;>intro hcd<;>try exact Xx))
    exact ⟨a,rfl,.inl ⟨haT1,hfa.symm⟩⟩
  clear g1 b1 g4 b7 b9 b10 b58 st
  rintro st ⟨a,g1,b1,g6,b7,b9,b10,b58,hR⟩
  show WP C _ _ st
  rcases hR with ⟨ha,hR⟩|⟨ha,hR⟩
  ·have haz : (T : Int) < (a : Int):=by omega
   have hbn : jX n lg ps start goal T=none:=by rw [jX,hRR,hR];rfl
   rw [hbn]
   with_reducible repeat' (first|refine Sp.h ?_|((first|refine Wd ?_|refine Ss.h ?_|(refine Sb.h ?_ ?_ ?_<;>(try intro hgd)<;>try exact Xy))<;>simp -implicitDefEqProofs (maxSteps:=2000000) [hP,hN,g1,b1,g6,haz]<;>try refine Ya ?_)|refine X2 ?_ ?_|(refine Xd ?_ ?_<;>intro hcd<;>try exact Xx))
  ·have haz : ¬ (T : Int) < (a : Int):=by omega
   have hA' : aR n lg ps start goal T=some a:=by rw [hRR,hR]
   have hbs : jX n lg ps start goal T=some (dl n lg ps start goal a (T+1)):=by rw [jX,hA'];rfl
   rw [hbs]
   have ch:=vp n lg ps ns start goal a T g x hn hns hn1 (by omega) hgo (fun i v u hi=>hg i v u (by omega))
   obtain ⟨qs,hqs⟩ : ∃ qs,qs=(List.range (a+1)).map fun i=>PV.sl (bl n (eo n lg ps goal a (a - i))):=⟨_,rfl⟩
   rw [show lB n (fun i=>eo n lg ps goal a (a - i)) (a+1)=.sl qs by rw [hqs]] at ch
   have hqa : ∀ j,j≤a→qs[j]?=some (.sl (bl n (eo n lg ps goal a (a - j)))):=fun j hj=>by rw [hqs];simp [show j < a+1 by omega]
   clear hqs
   with_reducible repeat' (first|refine Sp.h ?_|((first|refine Wh [58] ?_|refine Wi [58] ?_|refine Ss.h ?_|refine Sc.h (ch) ?_|(refine Sb.h ?_ ?_ ?_<;>(try intro hgd)<;>try exact Xy))<;>simp -implicitDefEqProofs (maxSteps:=2000000) [hP,hN,g1,b1,g6,b7,b9,b10,b58,haz]<;>try refine Ya ?_)|refine X2 ?_ ?_|(refine Xd ?_ ?_<;>intro hcd<;>try exact Xx))
   have h58 : [PV.val (.int .i64 (start : Int))]=(dl n lg ps start goal a (0+1)).map Z:=by simp [kz,dl,bu]
   rw [h58]
   refine WP.loopN [9,10] a (fun i st=>st.t 1=.ptr 1 0∧st.h 1=some (.box [.pv (.sl ns),.pv (Z start),.pv (Z goal),.pv (Z T),.pv (.fn (.func g) [] [.rptr x 0])] true false)∧st.t 7=.ptr 7 0∧st.h 7=some (.box [.pv (.sl qs)] true false)∧st.t 8=.arr 58 (i+1)∧st.h 58=some (.row 3 1 ((dl n lg ps start goal a (i+1)).map Z) 0)∧st.t 59=.pv (Z a)∧st.t 60=.pv (Z i)∧st.h 9=none∧st.h 10=none) (by simp [g1,b1,b9,b10]) ?_
   clear g1 b1 g6 b7 b9 b10 b58 h58 st
   rintro i st hi ⟨g1,b1,g7,b7,g8,b58,g59,g60,b9,b10⟩
   by_cases hlt : i < a
   ·obtain ⟨k,hk1,hk2⟩:=tB (ps:=ps) (lg:=lg) hs hA' hgo hlt
    have hcn:=(fp hs hA' hgo i (by omega)).1
    have hLl:=o7 n lg ps start goal a (i+1)
    have hLi : ((dl n lg ps start goal a (i+1)).map Z)[i]?=some (Z (bu n lg ps start goal a i)):=by rw [List.getElem?_map,tD (by omega)];rfl
    have hLs:=kz n lg ps start goal a (i+1)
    generalize bu n lg ps start goal a (i+1)=y at *
    generalize bu n lg ps start goal a i=v at *
    have hx:=hns v hcn
    have hxl:=(List.getElem?_eq_some_iff.1 hx).1
    have hxe:=(List.getElem?_eq_some_iff.1 hx).2
    have htl:=mb lg n v
    have hq:=hqa (i+1) (by omega)
    have ci:=ut (fun u=>eo n lg ps goal a (a - (i+1)) u.toNat && ps i v u.toNat) ((bB lg n v).map fun u=>((u : Nat) : Int)) 58 (.sl qs) (Z i) (nZ (.sl ns) start goal T g x) (Z v) (by simp;omega) (fun u hu=>by
     obtain ⟨q,hq',rfl⟩:=List.mem_map.1 hu
     have hqn : q < n:=List.mem_range.1 (List.mem_filter.1 hq').1
     simp only [Int.toNat_natCast]
     exact vn qs (bl n (eo n lg ps goal a (a - (i+1)))) i v q (.sl ns) start goal T g x (eo n lg ps goal a (a - (i+1)) q) (ps i v q) (by omega) hq (by omega) (by rw [Int.toNat_natCast];exact lz _ hqn) (fun _=>hg i v q (by omega) hcn hqn))
    rw [hk1] at ci
    have hkk : ((bB lg n v).map fun u=>((u : Nat) : Int))[k]?=some (y : Int):=by rw [List.getElem?_map,hk2];rfl
    generalize (bB lg n v).map (fun u=>((u : Nat) : Int))=tv at *
    have hkl:=(List.getElem?_eq_some_iff.1 hkk).1
    have hke:=(List.getElem?_eq_some_iff.1 hkk).2
    obtain ⟨j,hj⟩ : ∃ j,i+1=j:=⟨_,rfl⟩
    have hLl2 : ((dl n lg ps start goal a (i+1)).map Z).length=i+1:=by rw [List.length_map,hLl]
    have hLsz : ((dl n lg ps start goal a (i+1+1)).map Z)=((dl n lg ps start goal a (i+1)).map Z)++[Z y]:=by rw [hLs,List.map_append];rfl
    generalize (dl n lg ps start goal a (i+1+1)).map Z=L2 at *
    generalize (dl n lg ps start goal a (i+1)).map Z=L at *
    rw [hj] at g8 hLl2 ⊢
    have hLe:=(List.getElem?_eq_some_iff.1 hLi).2
    have hij : i < j:=by omega
    have hwi : IntKind.i64.wrap ((i : Int)+1)=(j : Int):=by rw [IntKind.wrap_i64];omega
    have hjc : (j : Int)=(i : Int)+1:=by omega
    with_reducible repeat' (first|refine Sp.h ?_|((first|refine Wd ?_|refine Ss.h ?_|refine Sc.h (ci) ?_|(refine Sb.h ?_ ?_ ?_<;>(try intro hgd)<;>try exact Xy))<;>simp -implicitDefEqProofs (maxSteps:=2000000) [hP,hN,hn,g1,b1,g7,b7,g8,b58,g59,g60,b9,b10,hlt,hLl2,hLi,hLe,hij,hcn,hx,hxe,hkk,hkl,hke,hwi,show (j+1) * 8≤140737488355328 by omega,show j≤9223372036854775806 by omega,show j+1≤9223372036854775807 by omega]<;>try refine Ya ?_)|refine X2 ?_ ?_|(refine Xd ?_ ?_<;>intro hcd<;>try exact Xx))
    exact hLsz.symm
   ·have hia : i=a:=by omega
    subst hia
    with_reducible repeat' (first|refine Sp.h ?_|((first|refine Wd ?_|refine Ss.h ?_|(refine Sb.h ?_ ?_ ?_<;>(try intro hgd)<;>try exact Xy))<;>simp -implicitDefEqProofs (maxSteps:=2000000) [hP,hN,hn,g1,b1,g7,b7,g8,b58,g59,g60,b9,b10,hlt]<;>try refine Ya ?_)|refine X2 ?_ ?_|(refine Xd ?_ ?_<;>intro hcd<;>try exact Xx))
    refine WP.loopN [] (T - i) (fun c st=>st.t 1=.ptr 1 0∧st.h 1=some (.box [.pv (.sl ns),.pv (Z start),.pv (Z goal),.pv (Z T),.pv (.fn (.func g) [] [.rptr x 0])] true false)∧st.t 8=.arr 58 (i+c+1)∧st.h 58=some (.row 3 1 ((dl n lg ps start goal i (i+c+1)).map Z) 0)) (by simp [g1,b1,g8,b58]) ?_
    clear g1 b1 g7 b7 g8 b58 g59 g60 b9 b10 st
    rintro c st hc ⟨g1,b1,g8,b58⟩
    obtain ⟨m,hm⟩ : ∃ m,m=i+c+1:=⟨_,rfl⟩
    rw [show i+(c+1)+1=m+1 by omega]
    rw [← hm] at g8 b58
    have hLl : ((dl n lg ps start goal i m).map Z).length=m:=by rw [List.length_map,o7]
    by_cases hcl : c < T - i
    ·have hmT : m≤T:=by omega
     have hmz : (m : Int)≤(T : Int):=by omega
     have hLs : ((dl n lg ps start goal i (m+1)).map Z)=((dl n lg ps start goal i m).map Z)++[Z goal]:=by rw [kz,eL hs hA' hgo (by omega),List.map_append];rfl
     generalize (dl n lg ps start goal i (m+1)).map Z=L2 at *
     generalize (dl n lg ps start goal i m).map Z=L at *
     with_reducible repeat' (first|refine Sp.h ?_|((first|refine Wd ?_|refine Ss.h ?_|(refine Sb.h ?_ ?_ ?_<;>(try intro hgd)<;>try exact Xy))<;>simp -implicitDefEqProofs (maxSteps:=2000000) [hP,hN,g1,b1,g8,b58,hLl,hmT,hmz,show (m+1) * 8≤140737488355328 by omega,show m≤9223372036854775806 by omega,show m+1≤9223372036854775807 by omega]<;>try refine Ya ?_)|refine X2 ?_ ?_|(refine Xd ?_ ?_<;>intro hcd<;>try exact Xx))
     exact ⟨hcl,hLs.symm⟩
    ·have hmT : m=T+1:=by omega
     have hmz : ¬ (m : Int)≤(T : Int):=by omega
     rw [← hmT]
     rw [show (zs (dl n lg ps start goal i m))=.sl ((dl n lg ps start goal i m).map Z) from rfl]
     generalize (dl n lg ps start goal i m).map Z=L at *
     with_reducible repeat' (first|refine Sp.h ?_|((first|refine Wd ?_|refine Ss.h ?_|(refine Sb.h ?_ ?_ ?_<;>(try intro hgd)<;>try exact Xy))<;>simp -implicitDefEqProofs (maxSteps:=2000000) [hP,hN,g1,b1,g8,b58,hLl,hmz]<;>try refine Ya ?_)|refine X2 ?_ ?_|(refine Xd ?_ ?_<;>intro hcd<;>try exact Xx))
end Go.Ab
namespace Go.Ab
open Go.Proofs
def tE (t : aU) (l : List Int) (k : Nat) : Bool:=bC (ax t k) ((l[k]?).getD 0)
theorem sE (t : aU) (l : List Int) : bL t l=(decide (l.length=t.maps.length) && (List.range l.length).all (tE t l)):=rfl
theorem uw (t : aU) (l : List Int) (ht : TmOk t) : am Try.prog 34 [.pv (bR t),.pv (zs l)] [] [] (.pv (B (bL t l))):=by
 rw [sE]
 refine Dp Try.func34 ?_
 intro C hP hN
 simp only [Try.f34] at hN ⊢
 by_cases hlen : l.length=t.maps.length
 ·rw [decide_eq_true hlen,Bool.true_and,hlen]
  obtain ⟨p,hp⟩ : ∃ p,p=tE t l:=⟨_,rfl⟩
  rw [← hp]
  have hlz : ((l.length : Nat) : Int)=((t.maps.length : Nat) : Int):=by omega
  obtain ⟨R,hR⟩ : ∃ R,(List.range t.maps.length).all p=R:=⟨_,rfl⟩
  rw [hR]
  with_reducible repeat' (first|refine Sp.h ?_|((first|refine Ss.h ?_|(refine Sb.h ?_ ?_ ?_<;>(try intro hgd)<;>try exact Xy))<;>simp -implicitDefEqProofs (maxSteps:=2000000) [hP,hN,hlen,hlz])|refine X2 ?_ ?_|(refine Xd ?_ ?_<;>intro hcd<;>try exact Xx))
  refine WP.loopN [] t.maps.length (fun i st=>st.t 2=.ptr 2 0∧st.h 2=some (.box [.pv (.sl (t.maps.map aV)),.pv (.sl (t.conf.map ba))] true false)∧(st.t 13=.pv (zs l)∧st.t 14=.pv (Z t.maps.length))∧st.t 15=.pv (Z i)∧tA p i) (by simp [cJ,hlen]) ?_
  rintro i st hi ⟨g2,b2,g13,g15,hq⟩
  by_cases hlt : i < t.maps.length
  ·have hw:=ak hlt ht.nl
   have hn:=cK (p:=p) hq
   have hh:=cH (p:=p) hlt
   rw [hR] at hh
   have hxi : t.maps[i]?=some t.maps[i]:=List.getElem?_eq_getElem hlt
   have hli : i < l.length:=by omega
   have hai:=bG hli
   have hpi : p i=bC t.maps[i].np.length l[i]:=by rw [hp];simp [tE,ax,hxi,hai]
   have hpl:=ht.pl _ (List.getElem_mem hlt)
   generalize hx : t.maps[i]=m at *
   generalize hz : l[i]=z at *
   by_cases h1 : z < 0
   ·have h9 : p i=false:=by rw [hpi,← Bool.not_eq_true,aD];omega
    rw [hh h9]
    with_reducible repeat' (first|refine Sp.h ?_|((first|refine Ss.h ?_|(refine Sb.h ?_ ?_ ?_<;>(try intro hgd)<;>try exact Xy))<;>simp -implicitDefEqProofs (maxSteps:=2000000) [hP,hN,g2,b2,g13.1,g13.2,g15,hlt,hw,hx,hxi,hli,hai,hz,h1])|refine X2 ?_ ?_|(refine Xd ?_ ?_<;>intro hcd<;>try exact Xx))
   ·by_cases h2 : (m.np.length : Int)≤z
    ·have h9 : p i=false:=by rw [hpi,← Bool.not_eq_true,aD];omega
     rw [hh h9]
     with_reducible repeat' (first|refine Sp.h ?_|((first|refine Ss.h ?_|(refine Sb.h ?_ ?_ ?_<;>(try intro hgd)<;>try exact Xy))<;>simp -implicitDefEqProofs (maxSteps:=2000000) [hP,hN,g2,b2,g13.1,g13.2,g15,hlt,hw,hx,hxi,hli,hai,hz,h1,h2])|refine X2 ?_ ?_|(refine Xd ?_ ?_<;>intro hcd<;>try exact Xx))
    ·have h9 : p i=true:=by rw [hpi,aD];omega
     have hn9:=hn h9
     with_reducible repeat' (first|refine Sp.h ?_|((first|refine Ss.h ?_|(refine Sb.h ?_ ?_ ?_<;>(try intro hgd)<;>try exact Xy))<;>simp -implicitDefEqProofs (maxSteps:=2000000) [hP,hN,g2,b2,g13.1,g13.2,g15,hlt,hw,hx,hxi,hli,hai,hz,h1,h2,hlen])|refine X2 ?_ ?_|(refine Xd ?_ ?_<;>intro hcd<;>try exact Xx))
     all_goals exact hn9
  ·rw [dv hq hlt] at hR
   rw [← hR]
   with_reducible repeat' (first|refine Sp.h ?_|((first|refine Ss.h ?_|(refine Sb.h ?_ ?_ ?_<;>(try intro hgd)<;>try exact Xy))<;>simp -implicitDefEqProofs (maxSteps:=2000000) [hP,hN,g2,b2,g13.1,g13.2,g15,hlt,hlen])|refine X2 ?_ ?_|(refine Xd ?_ ?_<;>intro hcd<;>try exact Xx))
 ·rw [decide_eq_false hlen,Bool.false_and]
  have hlz : ¬ ((l.length : Nat) : Int)=((t.maps.length : Nat) : Int):=by omega
  with_reducible repeat' (first|refine Sp.h ?_|((first|refine Ss.h ?_|(refine Sb.h ?_ ?_ ?_<;>(try intro hgd)<;>try exact Xy))<;>simp -implicitDefEqProofs (maxSteps:=2000000) [hP,hN,hlen,hlz])|refine X2 ?_ ?_|(refine Xd ?_ ?_<;>intro hcd<;>try exact Xx))
theorem yT (t : aU) (l : List Int) (ht : TmOk t) : am Try.prog 48 [.pv (bR t),.pv (zs l)] [] [] (.pv (B (bL t l))):=by
 rw [sE]
 refine Dp Try.func48 ?_
 intro C hP hN
 simp only [Try.f48] at hN ⊢
 by_cases hlen : l.length=t.maps.length
 ·rw [decide_eq_true hlen,Bool.true_and,hlen]
  obtain ⟨p,hp⟩ : ∃ p,p=tE t l:=⟨_,rfl⟩
  rw [← hp]
  have hlz : ((l.length : Nat) : Int)=((t.maps.length : Nat) : Int):=by omega
  obtain ⟨R,hR⟩ : ∃ R,(List.range t.maps.length).all p=R:=⟨_,rfl⟩
  rw [hR]
  with_reducible repeat' (first|refine Sp.h ?_|((first|refine Wd ?_|refine Ss.h ?_|(refine Sb.h ?_ ?_ ?_<;>(try intro hgd)<;>try exact Xy))<;>simp -implicitDefEqProofs (maxSteps:=2000000) [hP,hN,hlen,hlz]<;>try refine Ya ?_)|refine X2 ?_ ?_|(refine Xd ?_ ?_<;>intro hcd<;>try exact Xx))
  refine WP.loopN [] t.maps.length (fun i st=>st.t 2=.ptr 2 0∧st.h 2=some (.box [.pv (.sl (t.maps.map aV)),.pv (.sl (t.conf.map ba))] true false)∧(st.t 1=.pv (zs l)∧st.t 1=.pv (zs l))∧st.t 5=.pv (Z i)∧tA p i) (by simp [cJ,hlen]) ?_
  rintro i st hi ⟨g2,b2,g13,g15,hq⟩
  by_cases hlt : i < t.maps.length
  ·have hw:=ak hlt ht.nl
   have hn:=cK (p:=p) hq
   have hh:=cH (p:=p) hlt
   rw [hR] at hh
   have hxi : t.maps[i]?=some t.maps[i]:=List.getElem?_eq_getElem hlt
   have hli : i < l.length:=by omega
   have hai:=bG hli
   have hpi : p i=bC t.maps[i].np.length l[i]:=by rw [hp];simp [tE,ax,hxi,hai]
   have hpl:=ht.pl _ (List.getElem_mem hlt)
   generalize hx : t.maps[i]=m at *
   generalize hz : l[i]=z at *
   by_cases h1 : z < 0
   ·have h9 : p i=false:=by rw [hpi,← Bool.not_eq_true,aD];omega
    rw [hh h9]
    with_reducible repeat' (first|refine Sp.h ?_|((first|refine Wd ?_|refine Ss.h ?_|(refine Sb.h ?_ ?_ ?_<;>(try intro hgd)<;>try exact Xy))<;>simp -implicitDefEqProofs (maxSteps:=2000000) [hP,hN,g2,b2,g13.1,g13.2,g15,hlt,hw,hx,hxi,hli,hai,hz,h1]<;>try refine Ya ?_)|refine X2 ?_ ?_|(refine Xd ?_ ?_<;>intro hcd<;>try exact Xx))
   ·by_cases h2 : (m.np.length : Int)≤z
    ·have h9 : p i=false:=by rw [hpi,← Bool.not_eq_true,aD];omega
     rw [hh h9]
     with_reducible repeat' (first|refine Sp.h ?_|((first|refine Wd ?_|refine Ss.h ?_|(refine Sb.h ?_ ?_ ?_<;>(try intro hgd)<;>try exact Xy))<;>simp -implicitDefEqProofs (maxSteps:=2000000) [hP,hN,g2,b2,g13.1,g13.2,g15,hlt,hw,hx,hxi,hli,hai,hz,h1,h2]<;>try refine Ya ?_)|refine X2 ?_ ?_|(refine Xd ?_ ?_<;>intro hcd<;>try exact Xx))
    ·have h9 : p i=true:=by rw [hpi,aD];omega
     have hn9:=hn h9
     with_reducible repeat' (first|refine Sp.h ?_|((first|refine Wd ?_|refine Ss.h ?_|(refine Sb.h ?_ ?_ ?_<;>(try intro hgd)<;>try exact Xy))<;>simp -implicitDefEqProofs (maxSteps:=2000000) [hP,hN,g2,b2,g13.1,g13.2,g15,hlt,hw,hx,hxi,hli,hai,hz,h1,h2,hlen]<;>try refine Ya ?_)|refine X2 ?_ ?_|(refine Xd ?_ ?_<;>intro hcd<;>try exact Xx))
     all_goals exact hn9
  ·rw [dv hq hlt] at hR
   rw [← hR]
   with_reducible repeat' (first|refine Sp.h ?_|((first|refine Wd ?_|refine Ss.h ?_|(refine Sb.h ?_ ?_ ?_<;>(try intro hgd)<;>try exact Xy))<;>simp -implicitDefEqProofs (maxSteps:=2000000) [hP,hN,g2,b2,g13.1,g13.2,g15,hlt,hlen]<;>try refine Ya ?_)|refine X2 ?_ ?_|(refine Xd ?_ ?_<;>intro hcd<;>try exact Xx))
 ·rw [decide_eq_false hlen,Bool.false_and]
  have hlz : ¬ ((l.length : Nat) : Int)=((t.maps.length : Nat) : Int):=by omega
  with_reducible repeat' (first|refine Sp.h ?_|((first|refine Wd ?_|refine Ss.h ?_|(refine Sb.h ?_ ?_ ?_<;>(try intro hgd)<;>try exact Xy))<;>simp -implicitDefEqProofs (maxSteps:=2000000) [hP,hN,hlen,hlz]<;>try refine Ya ?_)|refine X2 ?_ ?_|(refine Xd ?_ ?_<;>intro hcd<;>try exact Xx))
theorem n5 (xs : List Int) (v : Int) : xs.any (fun x=>v==x)=xs.contains v:=by
 induction xs with
 |nil=>rfl
 |cons a l ih=>rw [List.any_cons,List.contains_cons,ih]
theorem vw (xs : List Int) (v : Int) (hl : xs.length≤9223372036854775807) : am Try.prog 65 [.pv (zs xs),.pv (Z v)] [] [] (.pv (Z (dp (fun x=>v==x) xs))):=by
 obtain ⟨p,hp⟩ : ∃ p,p=fun x : Int=>v==x:=⟨_,rfl⟩
 rw [← hp]
 refine Dp Try.func65 ?_
 intro C hP hN
 simp only [Try.f65] at hN ⊢
 with_reducible repeat' (first|refine Sp.h ?_|((first|refine Ss.h ?_|(refine Sb.h ?_ ?_ ?_<;>(try intro hgd)<;>try exact Xy))<;>simp -implicitDefEqProofs (maxSteps:=2000000) [hP,hN])|refine X2 ?_ ?_|(refine Xd ?_ ?_<;>intro hcd<;>try exact Xx))
 refine WP.loopN [] xs.length (fun i st=>st.t 0=.pv (zs xs)∧st.t 1=.pv (Z v)∧st.t 7=.pv (Z xs.length)∧st.t 8=.pv (Z i)∧eg p xs i) (by simp [dQ]) ?_
 rintro i st hi ⟨g0,g1,g7,g8,hq⟩
 by_cases hlt : i < xs.length
 ·have hw:=ak hlt hl
  have hn:=eD hlt hq
  have hh:=jY hlt hq
  have hpc : p xs[i]=(v==xs[i]):=by rw [hp]
  generalize hx : xs[i]=c at *
  have hxi : xs[i]?=some c:=by rw [List.getElem?_eq_getElem hlt,hx]
  generalize dp p xs=r at *
  by_cases e : v=c
  ·rw [hh (by rw [hpc];simp [e])]
   with_reducible repeat' (first|refine Sp.h ?_|((first|refine Ss.h ?_|(refine Sb.h ?_ ?_ ?_<;>(try intro hgd)<;>try exact Xy))<;>simp -implicitDefEqProofs (maxSteps:=2000000) [hP,hN,g0,g1,g7,g8,hlt,hw,hx,hxi,e])|refine X2 ?_ ?_|(refine Xd ?_ ?_<;>intro hcd<;>try exact Xx))
  ·have e' : (v==c)=false:=by simp [e]
   have hn9:=hn (by rw [hpc,e'])
   with_reducible repeat' (first|refine Sp.h ?_|((first|refine Ss.h ?_|(refine Sb.h ?_ ?_ ?_<;>(try intro hgd)<;>try exact Xy))<;>simp -implicitDefEqProofs (maxSteps:=2000000) [hP,hN,g0,g1,g7,g8,hlt,hw,hx,hxi,e,e'])|refine X2 ?_ ?_|(refine Xd ?_ ?_<;>intro hcd<;>try exact Xx))
   all_goals exact hn9
 ·rw [jZ hlt hq]
  with_reducible repeat' (first|refine Sp.h ?_|((first|refine Ss.h ?_|(refine Sb.h ?_ ?_ ?_<;>(try intro hgd)<;>try exact Xy))<;>simp -implicitDefEqProofs (maxSteps:=2000000) [hP,hN,g0,g1,g7,g8,hlt])|refine X2 ?_ ?_|(refine Xd ?_ ?_<;>intro hcd<;>try exact Xx))
theorem vx (xs : List Int) (v : Int) (hl : xs.length≤9223372036854775807) : am Try.prog 51 [.pv (zs xs),.pv (Z v)] [] [] (.pv (B (xs.contains v))):=by
 have ci:=vw xs v hl
 rw [← n5,← mf]
 refine Dp Try.func51 ?_
 intro C hP hN
 simp only [Try.f51] at hN ⊢
 with_reducible repeat' (first|refine Sp.h ?_|((first|refine Ss.h ?_|refine Sc.h (ci) ?_|(refine Sb.h ?_ ?_ ?_<;>(try intro hgd)<;>try exact Xy))<;>simp -implicitDefEqProofs (maxSteps:=2000000) [hP,hN])|refine X2 ?_ ?_|(refine Xd ?_ ?_<;>intro hcd<;>try exact Xx))
theorem vy (l : List Int) (n : Nat) (hl : l.length≤9223372036854775807) : am Try.prog 35 [.pv (zs l),.pv (Z n)] [] [] (.pv (B (bJ l n))):=by
 rw [show bJ l n=(decide (l.length=n) && (List.range n).all fun k=>l.contains (k : Int)) from rfl]
 obtain ⟨p,hp⟩ : ∃ p,p=fun k : Nat=>l.contains (k : Int):=⟨_,rfl⟩
 rw [← hp]
 obtain ⟨R,hR⟩ : ∃ R,(List.range n).all p=R:=⟨_,rfl⟩
 rw [hR]
 refine Dp Try.func35 ?_
 intro C hP hN
 simp only [Try.f35] at hN ⊢
 by_cases hlen : l.length=n
 ·rw [decide_eq_true hlen,Bool.true_and]
  have hlz : ((l.length : Nat) : Int)=(n : Int):=by omega
  with_reducible repeat' (first|refine Sp.h ?_|((first|refine Ss.h ?_|(refine Sb.h ?_ ?_ ?_<;>(try intro hgd)<;>try exact Xy))<;>simp -implicitDefEqProofs (maxSteps:=2000000) [hP,hN,hlen,hlz])|refine X2 ?_ ?_|(refine Xd ?_ ?_<;>intro hcd<;>try exact Xx))
  refine WP.loopN [] n (fun i st=>st.t 0=.pv (zs l)∧st.t 10=.pv (Z n)∧st.t 11=.pv (Z i)∧tA p i) (by simp [cJ]) ?_
  rintro i st hi ⟨g0,g10,g11,hq⟩
  by_cases hlt : i < n
  ·have hw:=ak hlt (by omega)
   have hn:=cK (p:=p) hq
   have hh:=cH (p:=p) hlt
   rw [hR] at hh
   have cc:=vx l i hl
   rw [show l.contains (i : Int)=p i by rw [hp]] at cc
   cases h9 : p i with
   |true=>
    rw [h9] at cc
    have hn9:=hn h9
    with_reducible repeat' (first|refine Sp.h ?_|((first|refine Ss.h ?_|refine Sc.h (cc) ?_|(refine Sb.h ?_ ?_ ?_<;>(try intro hgd)<;>try exact Xy))<;>simp -implicitDefEqProofs (maxSteps:=2000000) [hP,hN,g0,g10,g11,hlt,hw])|refine X2 ?_ ?_|(refine Xd ?_ ?_<;>intro hcd<;>try exact Xx))
    all_goals exact hn9
   |false=>
    rw [h9] at cc
    rw [hh h9]
    with_reducible repeat' (first|refine Sp.h ?_|((first|refine Ss.h ?_|refine Sc.h (cc) ?_|(refine Sb.h ?_ ?_ ?_<;>(try intro hgd)<;>try exact Xy))<;>simp -implicitDefEqProofs (maxSteps:=2000000) [hP,hN,g0,g10,g11,hlt,hw])|refine X2 ?_ ?_|(refine Xd ?_ ?_<;>intro hcd<;>try exact Xx))
  ·rw [dv hq hlt] at hR
   rw [← hR]
   with_reducible repeat' (first|refine Sp.h ?_|((first|refine Ss.h ?_|(refine Sb.h ?_ ?_ ?_<;>(try intro hgd)<;>try exact Xy))<;>simp -implicitDefEqProofs (maxSteps:=2000000) [hP,hN,g0,g10,g11,hlt])|refine X2 ?_ ?_|(refine Xd ?_ ?_<;>intro hcd<;>try exact Xx))
 ·rw [decide_eq_false hlen,Bool.false_and]
  have hlz : ¬ ((l.length : Nat) : Int)=(n : Int):=by omega
  with_reducible repeat' (first|refine Sp.h ?_|((first|refine Ss.h ?_|(refine Sb.h ?_ ?_ ?_<;>(try intro hgd)<;>try exact Xy))<;>simp -implicitDefEqProofs (maxSteps:=2000000) [hP,hN,hlen,hlz])|refine X2 ?_ ?_|(refine Xd ?_ ?_<;>intro hcd<;>try exact Xx))
end Go.Ab
namespace Go.Ab
open Go.Proofs
theorem n6 : ∀ (n : Nat) (l : List Int),l.length≤n→(∀ k,k < n→((k : Nat) : Int) ∈ l)→l.Nodup∧∀ x ∈ l,0≤x∧x < n:=by
 intro n
 induction n with
 |zero=>intro l hl _;have : l=[]:=List.length_eq_zero_iff.1 (by omega)
        subst this;simp
 |succ n ih=>
  intro l hl hm
  have hmem:=hm n (by omega)
  have he : (l.erase ((n : Nat) : Int)).length=l.length - 1:=List.length_erase_of_mem hmem
  obtain ⟨h1,h2⟩:=ih (l.erase ((n : Nat) : Int)) (by omega) (fun k hk=>by
   rw [List.mem_erase_of_ne (by omega)];exact hm k (by omega))
  refine ⟨(List.perm_cons_erase hmem).nodup_iff.2 (List.nodup_cons.2 ⟨fun h=>?_,h1⟩),fun x hx=>?_⟩
  ·have:=h2 _ h;omega
  ·by_cases e : x=(n : Nat)
   ·omega
   ·have:=h2 x ((List.mem_erase_of_ne e).2 hx);omega
theorem sF {order : List Int} {n : Nat} (h : bJ order n=true) : (order.map Int.toNat).Nodup:=by
 simp only [bJ,Bool.and_eq_true,decide_eq_true_eq,List.all_eq_true,List.mem_range,List.contains_iff_mem] at h
 obtain ⟨h1,h2⟩:=n6 n order (by omega) h.2
 show List.Pairwise _ _
 rw [List.pairwise_map]
 refine List.Pairwise.imp_of_mem (fun {a b} ha hb hab=>?_) h1
 have:=h2 a ha;have:=h2 b hb
 omega
theorem mN : ∀ (pl : List (List Int)) (m x : Nat),pl.foldl (fun m l=>max m (aH l)) (max m x)=max (pl.foldl (fun m l=>max m (aH l)) m) x
 |[],m,x=>rfl
 |a :: r,m,x=>by
  rw [List.foldl_cons,List.foldl_cons,show max (max m x) (aH a)=max (max m (aH a)) x by omega,mN]
theorem n7 : ∀ {pl : List (List Int)} {k : Nat} {l : List Int} (m : Nat),pl[k]?=some []→(pl.set k l).foldl (fun m l=>max m (aH l)) m=max (pl.foldl (fun m l=>max m (aH l)) m) (aH l)
 |[],k,l,m,h=>by simp at h
 |a :: r,0,l,m,h=>by
  simp only [List.getElem?_cons_zero,Option.some.injEq] at h
  subst h
  rw [List.set_cons_zero,List.foldl_cons,List.foldl_cons,mN]
  have : aH []=0:=rfl
  rw [this,Nat.max_zero]
 |a :: r,k+1,l,m,h=>by
  rw [List.set_cons_succ,List.foldl_cons,List.foldl_cons]
  exact n7 _ (by simpa using h)
theorem qD {pl : List (List Int)} {k : Nat} {l : List Int} (h : pl[k]?=some []) : aY (pl.set k l)=max (aY pl) (aH l):=n7 1 h
theorem mO (l : List Int) : ∀ i,fh l i≤i
 |0=>Nat.le_refl _
 |i+1=>by
  rw [fh];split
  ·have:=mO l i;omega
  ·exact Nat.le_refl _
theorem sG (l : List Int) : aH l≤l.length - 1:=mO _ _
theorem pP (n : Nat) : aY (List.replicate n [])=1:=by
 unfold aY
 induction n with
 |zero=>rfl
 |succ n ih=>rw [List.replicate_succ,List.foldl_cons];exact ih
theorem rq {pl : List (List Int)} {T : Nat} (h1 : 1≤T) (h : ∀ l ∈ pl,l.length≤T+1) : aY pl≤T:=by
 obtain ⟨_,_,h3⟩:=fL aH pl 1
 unfold aY
 rcases h3 with h3|⟨x,hx,h3⟩
 ·omega
 ·have:=h x hx
  have:=sG x
  omega
structure PIn (t : aU) (T : Nat) (ks : List Nat) (j : Nat) (pl : List (List Int)) : Prop where
 ok : gD t T pl
 done : ∀ i,i < j→∀ k,ks[i]?=some k→∃ l,pl[k]?=some l∧l≠[]
 todo : ∀ i,j≤i→∀ k,ks[i]?=some k→pl[k]?=some []
theorem PIn.init {t : aU} {T : Nat} {ks : List Nat} (hk : ∀ k ∈ ks,k < t.maps.length) : PIn t T ks 0 (List.replicate t.maps.length []):=
 ⟨gD.init t T,fun i h=>absurd h (Nat.not_lt_zero _),fun i _ k h=>by simp [hk k (List.mem_of_getElem? h)]⟩
theorem PIn.set {t : aU} {T : Nat} {ks : List Nat} {j k : Nat} {pl : List (List Int)} {l : List Int} (hn : ks.Nodup) (h : PIn t T ks j pl) (hj : ks[j]?=some k) (hl : l.length=T+1) : PIn t T ks (j+1) (pl.set k l):=by
 have inj : ∀ i i',ks[i]?=some k→ks[i']?=some k→i=i':=fun i i' h1 h2=>by
  have hlt:=(List.getElem?_eq_some_iff.1 h1).1
  exact (List.getElem?_inj hlt hn).1 (h1.trans h2.symm)
 have hlt : k < pl.length:=(List.getElem?_eq_some_iff.1 (h.todo j (Nat.le_refl _) k hj)).1
 have hl0 : l≠[]:=by intro e;subst e;simp at hl
 refine ⟨h.ok.set hl,fun i hi k' hk'=>?_,fun i hi k' hk'=>?_⟩
 ·by_cases e : k'=k
  ·subst e;exact ⟨l,by rw [List.getElem?_set,if_pos rfl,if_pos hlt],hl0⟩
  ·have hij : i≠j:=by rintro rfl;rw [hj] at hk';injection hk' with hk';exact e hk'.symm
   rw [List.getElem?_set,if_neg (fun e'=>e e'.symm)]
   exact h.done i (by omega) k' hk'
 ·have e : k'≠k:=by rintro rfl;have:=inj i j hk' hj;omega
  rw [List.getElem?_set,if_neg (fun e'=>e e'.symm)]
  exact h.todo i (by omega) k' hk'
abbrev r8 (o : Option (List (List Int))) : PV:=.tup (match o with|some p=>[.sl (p.map zs),B true]|none=>[.sl [],B false])
def dC (pl : List (List Int)) : List AV:=pl.map fun l=>match l with|[]=>bf|a :: r=>.pv (zs (a :: r))
theorem sH (pl : List (List Int)) : (dC pl).length=pl.length:=by simp [dC]
theorem o8 (h : Hp) : ∀ pl : List (List Int),bh h (dC pl)=some (pl.map zs,[])
 |[]=>rfl
 |l :: r=>by
  have:=o8 h r
  unfold dC at this ⊢
  rw [List.map_cons,bh,this]
  cases l<;>rfl
theorem n8 : ∀ pl : List (List Int),(dC pl).flatMap eu=[]
 |[]=>rfl
 |l :: r=>by
  have:=n8 r
  unfold dC at this ⊢
  rw [List.map_cons,List.flatMap_cons,this]
  cases l<;>rfl
theorem kA (ks : List Nat) : ∀ pl : List (List Int),(dC pl).map (bc ks)=dC pl
 |[]=>rfl
 |l :: r=>by
  have:=kA ks r
  unfold dC at this ⊢
  rw [List.map_cons,List.map_cons,this]
  cases l<;>rfl
theorem rr (n : Nat) : List.replicate n bf=dC (List.replicate n []):=by simp [dC]
theorem sI {pl : List (List Int)} {k : Nat} {l : List Int} (h : l≠[]) : (dC pl).set k (.pv (zs l))=dC (pl.set k l):=by
 cases l with
 |nil=>exact absurd rfl h
 |cons a r=>unfold dC;rw [List.map_set]
theorem t7 {l : List Int} {k : Nat} (hk : k≤l.length) (z : Option Value) (e n : Nat) (y : Option Value) : f0 { size:=n,zero:=z,kind:=TK.slice e 1 8 y } (.pv (zs l)) none (some (.pv (.val (.int .i64 (k : Int)))))=some (.pv (zs (l.take k))):=by
 have h0 : (0 : Int)≤(k : Int):=by omega
 have h3 : 0≤k∧k≤(l.map Z).length∧0 < 1∧(l.map Z).all (iO 1)=true:=⟨Nat.zero_le _,by simpa using hk,by decide,by rw [List.all_eq_true];intro x hx;obtain ⟨v,_,rfl⟩:=List.mem_map.1 hx;rfl⟩
 simp only [f0,if_pos h0,Int.toNat_natCast,if_pos h3,List.drop_zero,zs,List.map_take]
def dB (pl : List (List Int)) (L c : Nat) : List AV:=(List.range pl.length).map fun w=>.pv (zs (if w < c then ((pl[w]?).getD []).take L else (pl[w]?).getD []))
theorem o9 (pl : List (List Int)) (L c : Nat) : (dB pl L c).length=pl.length:=by simp [dB]
theorem n9 (ks : List Nat) (pl : List (List Int)) (L c : Nat) : (dB pl L c).map (bc ks)=dB pl L c:=by
 unfold dB;rw [List.map_map]
 exact List.map_congr_left fun w _=>by simp [eX,bp]
theorem o1 {pl : List (List Int)} {L : Nat} (h : ∀ l ∈ pl,l≠[]) : dC pl=dB pl L 0:=by
 apply List.ext_getElem?
 intro w
 by_cases hw : w < pl.length
 ·have h9:=h _ (List.getElem_mem hw)
  simp only [dC,dB,List.getElem?_map,List.getElem?_eq_getElem hw,List.getElem?_range hw,Option.map_some,Option.getD_some,Nat.not_lt_zero,if_false]
  generalize pl[w]=l at *
  cases l with
  |nil=>exact absurd rfl h9
  |cons a r=>rfl
 ·simp [dC,dB,hw]
theorem tF {pl : List (List Int)} {L c : Nat} {l : List Int} (h : pl[c]?=some l) : (dB pl L c)[c]?=some (.pv (zs l)):=by
 obtain ⟨h1,h2⟩:=List.getElem?_eq_some_iff.1 h
 simp [dB,h1,h2]
theorem sJ {pl : List (List Int)} {L c : Nat} {l : List Int} (h : pl[c]?=some l) : (dB pl L c).set c (.pv (zs (l.take L)))=dB pl L (c+1):=by
 apply List.ext_getElem?
 intro w
 rw [List.getElem?_set,o9]
 by_cases hw : w < pl.length
 ·by_cases e : c=w
  ·subst e;simp [dB,hw,(List.getElem?_eq_some_iff.1 h).2]
  ·simp [dB,hw,e,show (w < c+1↔w < c) by omega]
 ·by_cases e : c=w
  ·subst e;simp [dB,hw]
  ·simp [dB,hw,e]
theorem sK (h : Hp) (pl : List (List Int)) (L : Nat) : bh h (dB pl L pl.length)=some ((List.range pl.length).map fun w=>zs (((pl[w]?).getD []).take L),[]):=by
 have key : ∀ (l : List Nat) (f : Nat→List Int),bh h (l.map fun w=>AV.pv (zs (f w)))=some (l.map fun w=>zs (f w),[]):=by
  intro l f
  induction l with
  |nil=>rfl
  |cons a l ih=>rw [List.map_cons,bh,ih];rfl
 rw [dB,List.map_congr_left (g:=fun w=>AV.pv (zs (((pl[w]?).getD []).take L))) (fun w hw=>by rw [if_pos (List.mem_range.1 hw)]),key]
theorem qE (t : aU) (starts goals order : List Int) (ticks : Int) (ht : TmOk t) (hl : order.length≤9223372036854775807) : am Try.prog 20 [.pv (bR t),.pv (zs starts),.pv (zs goals),.pv (zs order),.pv (Z ticks)] [] [] (.pv (r8 (bd t starts goals order ticks))):=by
 have cc:=tM t ht
 have cs:=uw t starts ht
 have cg:=uw t goals ht
 have cp:=vy order t.maps.length hl
 by_cases hpre : gS t starts goals order ticks=true
 ·obtain ⟨hchk,hcf,hs,hg,htk,hpm,hpos⟩:=dU hpre
  rw [hchk] at cc;rw [hs] at cs;rw [hg] at cg;rw [hpm] at cp
  obtain ⟨T,rfl⟩ : ∃ T : Nat,ticks=T:=⟨ticks.toNat,by omega⟩
  have hcf2:=hchk
  simp only [aG,Bool.and_eq_true,decide_eq_true_eq] at hcf2
  obtain ⟨_,hn4,hcl,hwell,_⟩:=hcf2
  have t1 : ¬ (T : Int) < 1:=by omega
  have t2 : ¬ (64 : Int) < (T : Int):=by omega
  obtain ⟨n,hn⟩ : ∃ n,n=t.maps.length:=⟨_,rfl⟩
  obtain ⟨ks,hks⟩ : ∃ ks,ks=order.map Int.toNat:=⟨_,rfl⟩
  obtain ⟨step,hstep⟩ : ∃ step,step=fun plan k=>dr t plan k (aP starts k) (aP goals k) T:=⟨_,rfl⟩
  have hPl : bd t starts goals order T=(bD step ks (List.replicate n [])).map bE:=by
   rw [bd,if_pos hpre,hstep,hks,hn];rfl
  have hnd:=sF hpm
  have hkl:=gf hpm
  rw [← hks] at hnd hkl
  rw [hPl]
  have q1 : ((n : Int)) * 24≤281474976710656:=by omega
  have q2 : (24 * (n : Int))≤281474976710656:=by omega
  have q3 : (n : Int)≤9223372036854775807:=by omega
  obtain ⟨rs,hrs⟩ : ∃ rs,rs=List.replicate n bf:=⟨_,rfl⟩
  rw [← hn] at cp
  refine Dp Try.func20 ?_
  intro C hP hN
  simp only [Try.f20] at hN ⊢
  with_reducible repeat' (first|refine Sp.h ?_|((first|refine Wh [1000052] ?_|refine Wi [1000052] ?_|refine Ss.h ?_|refine Sc.h (cc) ?_|refine Sc.h (cs) ?_|refine Sc.h (cg) ?_|refine Sc.h (cp) ?_|(refine Sb.h ?_ ?_ ?_<;>(try intro hgd)<;>try exact Xy))<;>simp -implicitDefEqProofs (maxSteps:=2000000) [hP,hN,t1,t2,hn.symm,q1,q2,q3,← hrs]<;>try refine Ya ?_)|refine X2 ?_ ?_|(refine Xd ?_ ?_<;>intro hcd<;>try exact Xx))
  obtain ⟨RES,hRES⟩ : ∃ RES,bD step ks (List.replicate n [])=RES:=⟨_,rfl⟩
  rw [hRES]
  have hol : order.length=n:=by
   have:=hpm
   simp only [bJ,Bool.and_eq_true,decide_eq_true_eq] at this
   rw [hn];exact this.1
  have hsl : starts.length=n:=by simp only [bL,Bool.and_eq_true,decide_eq_true_eq] at hs;rw [hn];exact hs.1
  have hgl : goals.length=n:=by simp only [bL,Bool.and_eq_true,decide_eq_true_eq] at hg;rw [hn];exact hg.1
  rw [hol,hrs,rr]
  refine WP.loopN [16] n (fun j st=>st.t 5=.ptr 5 0∧st.h 5=some (.box [.pv (.sl (t.maps.map aV)),.pv (.sl (t.conf.map ba))] true false)∧st.t 1=.pv (zs starts)∧st.t 2=.pv (zs goals)∧st.t 4=.pv (Z T)∧st.t 12=.ext (.barr 52 n)∧st.t 53=.pv (zs order)∧st.t 54=.pv (Z n)∧st.t 55=.pv (Z j)∧st.h 16=none∧∃ pl,st.t 13=.pv (Z (aY pl))∧st.h 52=some (.box (dC pl) true false)∧PIn t T ks j pl∧bD step (ks.drop j) pl=RES) (by
   simp [kA]
   exact ⟨_,by rw [pP];rfl,rfl,by rw [hn];exact PIn.init hkl,hRES⟩) ?_
  rintro j st hj ⟨g5,b5,g1,g2,g4,g12,g53,g54,g55,b16,pl,g13,b52,hin,hgo⟩
  by_cases hlt : j < n
  ·have hwj:=ak hlt (by omega)
   have hjo : j < order.length:=by omega
   have haj:=bG hjo
   have hksj : ks[j]?=some order[j].toNat:=by rw [hks,List.getElem?_map,haj];rfl
   have hk:=hkl _ (List.mem_of_getElem? hksj)
   have hz0 : 0≤order[j]:=by
    have:=hpm
    simp only [bJ,Bool.and_eq_true,decide_eq_true_eq,List.all_eq_true,List.mem_range,List.contains_iff_mem] at this
    exact ((n6 _ _ (by omega) this.2).2 _ (List.getElem_mem hjo)).1
   generalize hzj : order[j]=z at *
   obtain ⟨k,rfl⟩ : ∃ k : Nat,z=k:=⟨z.toNat,by omega⟩
   rw [Int.toNat_natCast] at hksj hk
   have hkn : k < n:=by omega
   have hdrop : ks.drop j=k :: ks.drop (j+1):=by
    have hjk:=(List.getElem?_eq_some_iff.1 hksj)
    rw [List.drop_eq_getElem_cons hjk.1,hjk.2]
   rw [hdrop,bD] at hgo
   have hxi : t.maps[k]?=some t.maps[k]:=List.getElem?_eq_getElem hk
   have hwl : aS t.maps[k]=true:=List.all_eq_true.1 hwell _ (List.getElem_mem hk)
   generalize hx : t.maps[k]=m at *
   obtain ⟨e1,e2⟩:=fJ hxi
   have hw9:=hwl
   simp only [aS,Bool.and_eq_true,decide_eq_true_eq] at hw9
   have c1:=vi m hwl
   obtain ⟨ns,hns⟩ : ∃ ns,ns=(List.range m.np.length).map fun v=>zs (fI m v):=⟨_,rfl⟩
   rw [← hns] at c1
   have hnsl : ns.length=ax t k:=by rw [hns,e1];simp
   have hnsv : ∀ v,v < ax t k→ns[v]?=some (zs ((bB (fK t k) (ax t k) v).map fun u=>((u : Nat) : Int))):=by
    intro v hv
    rw [e1] at hv
    rw [hns,← tn hxi hv,← tm hwl hv];simp [hv]
   have c2:=vk t pl k T hchk hcl (by rw [hin.ok.1]) hin.ok.2 (by omega)
   have hsk:=bb hs hk
   have hgk:=bb hg hk
   have c3:=vu (ax t k) (fK t k) (ik t pl k) ns (aP starts k) (aP goals k) T 54 (.sl (gA t.conf pl k T)) hnsl hnsv (by rw [e1];exact hw9.1) (by omega) hsk hgk (by
    intro i v u hi hv hu
    have:=vj (gA t.conf pl k T) i v u (ij t.conf pl k i t.conf.length) (t.conf.any (jx pl k i v u)) (by simp [gA,hi]) (by have h9:=o3 t.conf pl k i v u t.conf.length;rw [List.take_length] at h9;exact h9)
    exact this)
   rw [show jX (ax t k) (fK t k) (ik t pl k) (aP starts k) (aP goals k) T=step pl k by rw [hstep];rfl] at c3
   have hks1 : k < starts.length:=by omega
   have hkg1 : k < goals.length:=by omega
   have hsz : starts[k]?=some ((aP starts k : Nat) : Int):=by
    have:=hs
    simp only [bL,Bool.and_eq_true,decide_eq_true_eq,List.all_eq_true,List.mem_range] at this
    have h8:=this.2 k (by omega)
    rw [aD] at h8
    unfold aP
    rw [bG hks1] at h8 ⊢
    simp only [Option.getD_some] at h8 ⊢
    rw [Int.toNat_of_nonneg h8.1]
   have hgz : goals[k]?=some ((aP goals k : Nat) : Int):=by
    have:=hg
    simp only [bL,Bool.and_eq_true,decide_eq_true_eq,List.all_eq_true,List.mem_range] at this
    have h8:=this.2 k (by omega)
    rw [aD] at h8
    unfold aP
    rw [bG hkg1] at h8 ⊢
    simp only [Option.getD_some] at h8 ⊢
    rw [Int.toNat_of_nonneg h8.1]
   have hsz' : ∀ h,starts[k]'h=((aP starts k : Nat) : Int):=fun h=>(List.getElem?_eq_some_iff.1 hsz).2
   have hgz' : ∀ h,goals[k]'h=((aP goals k : Nat) : Int):=fun h=>(List.getElem?_eq_some_iff.1 hgz).2
   have hfz:=fun h=>o8 h pl
   have hrf:=n8 pl
   have hcl9 : (dC pl).length=n:=by rw [sH,hin.ok.1,hn]
   have hsetC:=fun (l : List Int) (h : l≠[])=>sI (pl:=pl) (k:=k) h
   have hkz : (k : Int) < (n : Int):=by omega
   have hk1n : k+1≤n:=by omega
   have hspl : ∀ x,(dC pl).take k++x :: (dC pl).drop (k+1)=(dC pl).set k x:=fun x=>ce (by omega)
   have hstl:=fun l (h : step pl k=some l)=>m7 (t:=t) (by rw [hstep] at h;exact h)
   have hckk:=fun ks=>kA ks pl
   generalize aP starts k=s0 at *
   generalize aP goals k=g0 at *
   generalize hst : step pl k=sr at *
   cases sr with
   |none=>
    generalize dC pl=cs at *
    have : RES=none:=hgo.symm
    subst this
    with_reducible repeat' (first|refine Sp.h ?_|((first|refine Wd ?_|refine Ss.h ?_|refine Sc.h (c1) ?_|refine Sc.h (c2) ?_|refine Sc.h (c3) ?_|(refine Sb.h ?_ ?_ ?_<;>(try intro hgd)<;>try exact Xy))<;>simp -implicitDefEqProofs (maxSteps:=2000000) [hP,hN,g5,b5,g1,g2,g4,g12,g53,g54,g55,b16,g13,b52,hlt,haj,hjo,hzj,hx,hxi,hk,hkn,hks1,hkg1,hsz,hgz,hsz',hgz',hfz,hrf,hcl9]<;>try refine Ya ?_)|refine X2 ?_ ?_|(refine Xd ?_ ?_<;>intro hcd<;>try exact Xx))
    trace_state
   |some l=>
    have hll:=hstl l rfl
    have hl0 : l≠[]:=by intro e;subst e;simp at hll
    have c4:=vM l (by omega)
    have hin':=hin.set hnd hksj hll
    have hlb:=qD (l:=l) (hin.todo j (Nat.le_refl _) k hksj)
    have hsetC':=hsetC l hl0
    obtain ⟨cs,hcs⟩ : ∃ cs,cs=dC pl:=⟨_,rfl⟩
    rw [← hcs] at hfz hrf hcl9 hspl hckk hsetC' b52
    with_reducible repeat' (first|refine Sp.h ?_|((first|refine Wd ?_|refine Ss.h ?_|refine Sc.h (c1) ?_|refine Sc.h (c2) ?_|refine Sc.h (c3) ?_|refine Sc.h (c4) ?_|(refine Sb.h ?_ ?_ ?_<;>(try intro hgd)<;>try exact Xy))<;>simp -implicitDefEqProofs (maxSteps:=2000000) [hP,hN,g5,b5,g1,g2,g4,g12,g53,g54,g55,b16,g13,b52,hlt,haj,hjo,hzj,hx,hxi,hk,hkn,hks1,hkg1,hsz,hgz,hsz',hgz',hfz,hrf,hcl9,hkz,hk1n,hspl,hwj]<;>try refine Ya ?_)|refine X2 ?_ ?_|(refine Xd ?_ ?_<;>intro hcd<;>try exact Xx))
    exact ⟨pl.set k l,by rw [hlb];split<;>omega,by rw [hckk,hsetC'],hin',hgo⟩
  ·have hjn : j=n:=by omega
   subst hjn
   have hkl9 : ks.length=j:=by rw [hks,List.length_map,hol]
   rw [List.drop_of_length_le (by omega)] at hgo
   have hR : RES=some pl:=hgo.symm
   subst hR
   have hpl : pl.length=j:=by rw [hin.ok.1,hn]
   have full : ∀ k,k < j→∃ l,pl[k]?=some l∧l.length=T+1:=fun k hk=>by
    have hm:=fq hpm k (by omega)
    rw [← hks] at hm
    obtain ⟨i,hi⟩:=List.mem_iff_getElem?.1 hm
    obtain ⟨l,h1,h2⟩:=hin.done i (by have:=(List.getElem?_eq_some_iff.1 hi).1;omega) k hi
    rcases hin.ok.2 l (List.mem_of_getElem? h1) with h|h
    ·exact absurd h h2
    ·exact ⟨l,h1,h⟩
   have hL:=rq (pl:=pl) (T:=T) (by omega) (fun l hl=>by
    rcases hin.ok.2 l hl with h|h
    ·rw [h];exact Nat.zero_le _
    ·omega)
   have hlen0 : ∀ l ∈ pl,l≠[]:=fun l hl=>by
    obtain ⟨k,hk⟩:=List.mem_iff_getElem?.1 hl
    obtain ⟨l',h1,h2⟩:=full k (by have:=(List.getElem?_eq_some_iff.1 hk).1;omega)
    rw [hk] at h1;injection h1 with h1;subst h1
    intro e;subst e;simp at h2
   rw [o1 (L:=aY pl+1) hlen0] at b52
   have htr : (bE pl).map zs=(List.range j).map fun w=>zs (((pl[w]?).getD []).take (aY pl+1)):=by
    rw [bE,← hpl]
    apply List.ext_getElem?
    intro w
    by_cases hw : w < pl.length
    ·simp [hw]
    ·simp [hw]
   rw [Option.map_some]
   show WP C _ (_ : Exit→St→Prop) st
   rw [show r8 (some (bE pl))=.tup [.sl ((List.range j).map fun w=>zs (((pl[w]?).getD []).take (aY pl+1))),B true] by rw [← htr]]
   generalize aY pl=L at *
   obtain ⟨L1,hL1⟩ : ∃ L1,L1=L+1:=⟨_,rfl⟩
   rw [← hL1] at b52 ⊢
   have hwL : IntKind.i64.wrap ((L : Int)+1)=(L1 : Int):=by rw [IntKind.wrap_i64];omega
   with_reducible repeat' (first|refine Sp.h ?_|((first|refine Wd ?_|refine Ss.h ?_|(refine Sb.h ?_ ?_ ?_<;>(try intro hgd)<;>try exact Xy))<;>simp -implicitDefEqProofs (maxSteps:=2000000) [hP,hN,g5,b5,g12,g53,g54,g55,g13,b52,hlt]<;>try refine Ya ?_)|refine X2 ?_ ?_|(refine Xd ?_ ?_<;>intro hcd<;>try exact Xx))
   refine WP.loopN [] j (fun c st=>st.t 12=.ext (.barr 52 j)∧st.t 13=.pv (Z L)∧st.t 97=.pv (Z j)∧st.t 98=.pv (Z c)∧st.h 52=some (.box (dB pl L1 c) true false)) (by simp [n9,g12,g13,b52]) ?_
   clear g5 b5 g1 g2 g4 g12 g53 g54 g55 b16 g13 b52 st
   rintro c st hc ⟨g12,g13,g97,g98,b52⟩
   have hckk:=fun ks=>n9 ks pl L1 c
   have hcl9 : (dB pl L1 c).length=j:=by rw [o9,hpl]
   by_cases hcl : c < j
   ·have hwc:=ak hcl (by omega)
    obtain ⟨l,hx,hll⟩:=full c hcl
    have hat:=tF (L:=L1) hx
    have hset:=sJ (L:=L1) hx
    obtain ⟨cs,hcs⟩ : ∃ cs,cs=dB pl L1 c:=⟨_,rfl⟩
    rw [← hcs] at hat hset b52 hckk hcl9
    have hat' : ∀ h,cs[c]'h=.pv (zs l):=fun h=>(List.getElem?_eq_some_iff.1 hat).2
    have hspl : ∀ x,cs.take c++x :: cs.drop (c+1)=cs.set c x:=fun x=>ce (by omega)
    have hc1 : c+1≤j:=by omega
    have hcz : (c : Int) < (j : Int):=by omega
    have hL2 : L1≤l.length:=by omega
    have hL3 : (L1 : Int)≤(l.length : Int):=by omega
    have hzt : (zs (l.take L1))=.sl ((l.map Z).take L1):=by rw [zs,List.map_take]
    with_reducible repeat' (first|refine Sp.h ?_|((first|refine Wd ?_|refine Ss.h ?_|(refine Sb.h ?_ ?_ ?_<;>(try intro hgd)<;>try exact Xy))<;>simp -implicitDefEqProofs (maxSteps:=2000000) [hP,hN,g12,g13,g97,g98,b52,hcl,hwc,hat,hat',hspl,hc1,hcz,hcl9,hwL,hL2,hL3,t7 hL2]<;>try refine Ya ?_)|refine X2 ?_ ?_|(refine Xd ?_ ?_<;>intro hcd<;>try exact Xx))
    rw [hckk,hset]
   ·have hcj : c=j:=by omega
    subst hcj
    have hfz:=fun h=>sK h pl L1
    rw [hpl] at hfz
    obtain ⟨cs,hcs⟩ : ∃ cs,cs=dB pl L1 c:=⟨_,rfl⟩
    rw [← hcs] at hfz b52 hckk hcl9
    with_reducible repeat' (first|refine Sp.h ?_|((first|refine Wd ?_|refine Ss.h ?_|(refine Sb.h ?_ ?_ ?_<;>(try intro hgd)<;>try exact Xy))<;>simp -implicitDefEqProofs (maxSteps:=2000000) [hP,hN,g12,g13,g97,g98,b52,hcl,hcl9,hfz]<;>try refine Ya ?_)|refine X2 ?_ ?_|(refine Xd ?_ ?_<;>intro hcd<;>try exact Xx))
 ·have hnone : bd t starts goals order ticks=none:=by rw [bd,if_neg hpre]
  rw [hnone]
  have hpre' : ¬ (aG t && (bL t starts && (bL t goals && (decide (1≤ticks) && (decide (ticks≤64) && bJ order t.maps.length)))))=true:=hpre
  generalize aG t=v1 at *
  generalize bL t starts=v2 at *
  generalize bL t goals=v3 at *
  generalize bJ order t.maps.length=v4 at *
  refine Dp Try.func20 ?_
  intro C hP hN
  simp only [Try.f20] at hN ⊢
  cases v1 with
  |false=>
   with_reducible repeat' (first|refine Sp.h ?_|((first|refine Wd ?_|refine Ss.h ?_|refine Sc.h (cc) ?_|refine Sc.h (cs) ?_|refine Sc.h (cg) ?_|refine Sc.h (cp) ?_|(refine Sb.h ?_ ?_ ?_<;>(try intro hgd)<;>try exact Xy))<;>simp -implicitDefEqProofs (maxSteps:=2000000) [hP,hN]<;>try refine Ya ?_)|refine X2 ?_ ?_|(refine Xd ?_ ?_<;>intro hcd<;>try exact Xx))
  |true=>
   cases v2 with
   |false=>
    with_reducible repeat' (first|refine Sp.h ?_|((first|refine Wd ?_|refine Ss.h ?_|refine Sc.h (cc) ?_|refine Sc.h (cs) ?_|refine Sc.h (cg) ?_|refine Sc.h (cp) ?_|(refine Sb.h ?_ ?_ ?_<;>(try intro hgd)<;>try exact Xy))<;>simp -implicitDefEqProofs (maxSteps:=2000000) [hP,hN]<;>try refine Ya ?_)|refine X2 ?_ ?_|(refine Xd ?_ ?_<;>intro hcd<;>try exact Xx))
   |true=>
    cases v3 with
    |false=>
     with_reducible repeat' (first|refine Sp.h ?_|((first|refine Wd ?_|refine Ss.h ?_|refine Sc.h (cc) ?_|refine Sc.h (cs) ?_|refine Sc.h (cg) ?_|refine Sc.h (cp) ?_|(refine Sb.h ?_ ?_ ?_<;>(try intro hgd)<;>try exact Xy))<;>simp -implicitDefEqProofs (maxSteps:=2000000) [hP,hN]<;>try refine Ya ?_)|refine X2 ?_ ?_|(refine Xd ?_ ?_<;>intro hcd<;>try exact Xx))
    |true=>
     by_cases h1 : ticks < 1
     ·skip
      with_reducible repeat' (first|refine Sp.h ?_|((first|refine Wd ?_|refine Ss.h ?_|refine Sc.h (cc) ?_|refine Sc.h (cs) ?_|refine Sc.h (cg) ?_|refine Sc.h (cp) ?_|(refine Sb.h ?_ ?_ ?_<;>(try intro hgd)<;>try exact Xy))<;>simp -implicitDefEqProofs (maxSteps:=2000000) [hP,hN,h1]<;>try refine Ya ?_)|refine X2 ?_ ?_|(refine Xd ?_ ?_<;>intro hcd<;>try exact Xx))
     ·by_cases h2 : 64 < ticks
      ·skip
       with_reducible repeat' (first|refine Sp.h ?_|((first|refine Wd ?_|refine Ss.h ?_|refine Sc.h (cc) ?_|refine Sc.h (cs) ?_|refine Sc.h (cg) ?_|refine Sc.h (cp) ?_|(refine Sb.h ?_ ?_ ?_<;>(try intro hgd)<;>try exact Xy))<;>simp -implicitDefEqProofs (maxSteps:=2000000) [hP,hN,h1,h2]<;>try refine Ya ?_)|refine X2 ?_ ?_|(refine Xd ?_ ?_<;>intro hcd<;>try exact Xx))
      ·cases v4 with
       |false=>
        with_reducible repeat' (first|refine Sp.h ?_|((first|refine Wd ?_|refine Ss.h ?_|refine Sc.h (cc) ?_|refine Sc.h (cs) ?_|refine Sc.h (cg) ?_|refine Sc.h (cp) ?_|(refine Sb.h ?_ ?_ ?_<;>(try intro hgd)<;>try exact Xy))<;>simp -implicitDefEqProofs (maxSteps:=2000000) [hP,hN,h1,h2]<;>try refine Ya ?_)|refine X2 ?_ ?_|(refine Xd ?_ ?_<;>intro hcd<;>try exact Xx))
       |true=>exact absurd (by simp;omega) hpre'
end Go.Ab
namespace Go.Ab
open Go.Proofs
def oa {α : Type} [DecidableEq α] (xs ys : List α) (i : Nat) : Bool:=decide (xs[i]?=ys[i]?)
theorem pc {α : Type} [DecidableEq α] {xs ys : List α} (h : xs.length=ys.length) : decide (xs=ys)=(List.range xs.length).all (oa xs ys):=by
 rw [Bool.eq_iff_iff,decide_eq_true_eq,List.all_eq_true]
 constructor
 ·rintro rfl i _;simp [oa]
 ·intro hh
  apply List.ext_getElem?
  intro i
  by_cases hi : i < xs.length
  ·simpa [oa] using hh i (List.mem_range.2 hi)
  ·rw [List.getElem?_eq_none (by omega),List.getElem?_eq_none (by omega)]
theorem vz (xs ys : List Int) (hl : xs.length≤9223372036854775807) : am Try.prog 43 [.pv (zs xs),.pv (zs ys)] [] [] (.pv (B (decide (xs=ys)))):=by
 refine Dp Try.func43 ?_
 intro C hP hN
 simp only [Try.f43] at hN ⊢
 by_cases hlen : xs.length=ys.length
 ·rw [pc hlen]
  obtain ⟨p,hp⟩ : ∃ p,p=oa xs ys:=⟨_,rfl⟩
  rw [← hp]
  obtain ⟨R,hR⟩ : ∃ R,(List.range xs.length).all p=R:=⟨_,rfl⟩
  rw [hR]
  with_reducible repeat' (first|refine Sp.h ?_|((first|refine Wd ?_|refine Ss.h ?_|(refine Sb.h ?_ ?_ ?_<;>(try intro hgd)<;>try exact Xy))<;>simp -implicitDefEqProofs (maxSteps:=2000000) [hP,hN,hlen]<;>try refine Ya ?_)|refine X2 ?_ ?_|(refine Xd ?_ ?_<;>intro hcd<;>try exact Xx))
  refine WP.loopN [] ys.length (fun i st=>st.t 0=.pv (zs xs)∧st.t 1=.pv (zs ys)∧st.t 5=.pv (Z i)∧tA p i) (by simp [cJ]) ?_
  rintro i st hi ⟨g0,g1,g5,hq⟩
  by_cases hlt : i < ys.length
  ·have hlt1 : i < xs.length:=by omega
   have hw:=ak hlt1 hl
   have hn:=cK (p:=p) hq
   have hh:=cH (p:=p) hlt1
   rw [hR] at hh
   have a1:=bG hlt1
   have a2:=bG hlt
   have hpi : p i=decide (xs[i]=ys[i]):=by rw [hp];simp [oa,a1,a2]
   generalize hx : xs[i]=x at *
   generalize hy : ys[i]=y at *
   by_cases e : x=y
   ·have hn9:=hn (by rw [hpi];simp [e])
    subst e
    with_reducible repeat' (first|refine Sp.h ?_|((first|refine Wd ?_|refine Ss.h ?_|(refine Sb.h ?_ ?_ ?_<;>(try intro hgd)<;>try exact Xy))<;>simp -implicitDefEqProofs (maxSteps:=2000000) [hP,hN,g0,g1,g5,hlt,hlt1,hw,a1,a2,hx,hy,hlen]<;>try refine Ya ?_)|refine X2 ?_ ?_|(refine Xd ?_ ?_<;>intro hcd<;>try exact Xx))
    all_goals exact hn9
   ·rw [hh (by rw [hpi];simp [e])]
    have e1 : (x !=y)=true:=by simp [e]
    have e2 : (x==y)=false:=by simp [e]
    with_reducible repeat' (first|refine Sp.h ?_|((first|refine Wd ?_|refine Ss.h ?_|(refine Sb.h ?_ ?_ ?_<;>(try intro hgd)<;>try exact Xy))<;>simp -implicitDefEqProofs (maxSteps:=2000000) [hP,hN,g0,g1,g5,hlt,hlt1,hw,a1,a2,hx,hy,e,e1,e2,hlen]<;>try refine Ya ?_)|refine X2 ?_ ?_|(refine Xd ?_ ?_<;>intro hcd<;>try exact Xx))
  ·rw [dv hq (show ¬ i < xs.length by omega)] at hR
   rw [← hR]
   with_reducible repeat' (first|refine Sp.h ?_|((first|refine Wd ?_|refine Ss.h ?_|(refine Sb.h ?_ ?_ ?_<;>(try intro hgd)<;>try exact Xy))<;>simp -implicitDefEqProofs (maxSteps:=2000000) [hP,hN,g0,g1,g5,hlt,hlen]<;>try refine Ya ?_)|refine X2 ?_ ?_|(refine Xd ?_ ?_<;>intro hcd<;>try exact Xx))
 ·rw [decide_eq_false (fun e=>hlen (by rw [e]))]
  have hlz : ¬ ((xs.length : Nat) : Int)=((ys.length : Nat) : Int):=by omega
  with_reducible repeat' (first|refine Sp.h ?_|((first|refine Wd ?_|refine Ss.h ?_|(refine Sb.h ?_ ?_ ?_<;>(try intro hgd)<;>try exact Xy))<;>simp -implicitDefEqProofs (maxSteps:=2000000) [hP,hN,hlen,hlz]<;>try refine Ya ?_)|refine X2 ?_ ?_|(refine Xd ?_ ?_<;>intro hcd<;>try exact Xx))
theorem tG (xs ys : List (List Int)) (hl : xs.length≤9223372036854775807) (hx9 : ∀ x ∈ xs,x.length≤9223372036854775807) : am Try.prog 23 [.pv (.sl (xs.map zs)),.pv (.sl (ys.map zs))] [] [] (.pv (B (decide (xs=ys)))):=by
 refine Dp Try.func23 ?_
 intro C hP hN
 simp only [Try.f23] at hN ⊢
 by_cases hlen : xs.length=ys.length
 ·rw [pc hlen]
  obtain ⟨p,hp⟩ : ∃ p,p=oa xs ys:=⟨_,rfl⟩
  rw [← hp]
  obtain ⟨R,hR⟩ : ∃ R,(List.range xs.length).all p=R:=⟨_,rfl⟩
  rw [hR]
  with_reducible repeat' (first|refine Sp.h ?_|((first|refine Wd ?_|refine Ss.h ?_|(refine Sb.h ?_ ?_ ?_<;>(try intro hgd)<;>try exact Xy))<;>simp -implicitDefEqProofs (maxSteps:=2000000) [hP,hN,hlen]<;>try refine Ya ?_)|refine X2 ?_ ?_|(refine Xd ?_ ?_<;>intro hcd<;>try exact Xx))
  refine WP.loopN [] ys.length (fun i st=>st.t 0=.pv (.sl (xs.map zs))∧st.t 1=.pv (.sl (ys.map zs))∧st.t 5=.pv (Z i)∧tA p i) (by simp [cJ]) ?_
  rintro i st hi ⟨g0,g1,g5,hq⟩
  by_cases hlt : i < ys.length
  ·have hlt1 : i < xs.length:=by omega
   have hw:=ak hlt1 hl
   have hn:=cK (p:=p) hq
   have hh:=cH (p:=p) hlt1
   rw [hR] at hh
   have a1 : xs[i]?=some xs[i]:=List.getElem?_eq_getElem hlt1
   have a2 : ys[i]?=some ys[i]:=List.getElem?_eq_getElem hlt
   have hpi : p i=decide (xs[i]=ys[i]):=by rw [hp];simp [oa,a1,a2]
   have cm:=vz xs[i] ys[i] (hx9 _ (List.getElem_mem hlt1))
   rw [← hpi] at cm
   generalize hx : xs[i]=x at *
   generalize hy : ys[i]=y at *
   cases h9 : p i with
   |true=>
    rw [h9] at cm
    have hn9:=hn h9
    with_reducible repeat' (first|refine Sp.h ?_|((first|refine Wd ?_|refine Ss.h ?_|refine Sc.h (cm) ?_|(refine Sb.h ?_ ?_ ?_<;>(try intro hgd)<;>try exact Xy))<;>simp -implicitDefEqProofs (maxSteps:=2000000) [hP,hN,g0,g1,g5,hlt,hlt1,hw,a1,a2,hx,hy,hlen]<;>try refine Ya ?_)|refine X2 ?_ ?_|(refine Xd ?_ ?_<;>intro hcd<;>try exact Xx))
    all_goals exact hn9
   |false=>
    rw [h9] at cm
    rw [hh h9]
    with_reducible repeat' (first|refine Sp.h ?_|((first|refine Wd ?_|refine Ss.h ?_|refine Sc.h (cm) ?_|(refine Sb.h ?_ ?_ ?_<;>(try intro hgd)<;>try exact Xy))<;>simp -implicitDefEqProofs (maxSteps:=2000000) [hP,hN,g0,g1,g5,hlt,hlt1,hw,a1,a2,hx,hy,hlen]<;>try refine Ya ?_)|refine X2 ?_ ?_|(refine Xd ?_ ?_<;>intro hcd<;>try exact Xx))
  ·rw [dv hq (show ¬ i < xs.length by omega)] at hR
   rw [← hR]
   with_reducible repeat' (first|refine Sp.h ?_|((first|refine Wd ?_|refine Ss.h ?_|(refine Sb.h ?_ ?_ ?_<;>(try intro hgd)<;>try exact Xy))<;>simp -implicitDefEqProofs (maxSteps:=2000000) [hP,hN,g0,g1,g5,hlt,hlen]<;>try refine Ya ?_)|refine X2 ?_ ?_|(refine Xd ?_ ?_<;>intro hcd<;>try exact Xx))
 ·rw [decide_eq_false (fun e=>hlen (by rw [e]))]
  have hlz : ¬ ((xs.length : Nat) : Int)=((ys.length : Nat) : Int):=by omega
  with_reducible repeat' (first|refine Sp.h ?_|((first|refine Wd ?_|refine Ss.h ?_|(refine Sb.h ?_ ?_ ?_<;>(try intro hgd)<;>try exact Xy))<;>simp -implicitDefEqProofs (maxSteps:=2000000) [hP,hN,hlen,hlz]<;>try refine Ya ?_)|refine X2 ?_ ?_|(refine Xd ?_ ?_<;>intro hcd<;>try exact Xx))
def nj : aW:=⟨[zs [0],zs [1]],[kE 0 1 1]⟩
def fe : aU:=⟨[nj,nj],[(⟨0,0,1⟩,⟨1,0,1⟩)]⟩
theorem vA : am Try.prog 25 [] [] [] (.pv (bR fe)):=by
 have c1:=tg
 refine Dp Try.func25 ?_
 intro C hP hN
 simp only [Try.f25] at hN ⊢
 with_reducible repeat' (first|refine Sp.h ?_|((first|refine Ss.h ?_|refine Sc.h (c1) ?_|(refine Sb.h ?_ ?_ ?_<;>(try intro hgd)<;>try exact Xy))<;>simp -implicitDefEqProofs (maxSteps:=2000000) [hP,hN])|refine X2 ?_ ?_|(refine Xd ?_ ?_<;>intro hcd<;>try exact Xx))
 all_goals exact ⟨rfl,rfl⟩
theorem md : TmOk fe:=by
 refine ⟨fun _ _ _ _=>trivial,by decide,by decide,fun m hm=>?_,fun m hm=>?_⟩
 ·have : m=nj:=by simpa [fe] using hm
  subst this;decide
 ·have : m=nj:=by simpa [fe] using hm
  subst this;decide
theorem qF : bd fe [0,0] [1,1] [0,1] 5=some [[0,1,1],[0,0,1]]:=by decide +kernel
theorem yl : mm fe [0,0] [1,1] [[0,1,1],[0,0,1]]=true:=by decide +kernel
theorem ry : aG fe=true:=by decide +kernel
theorem d9 : am Try.prog 9 [] [] [] (.pv (B true)):=by
 have c0:=vA
 have c1:=qE fe [0,0] [1,1] [0,1] 5 md (by decide)
 rw [qF] at c1
 have c2:=tG [[0,1,1],[0,0,1]] [[0,1,1],[0,0,1]] (by decide) (by decide)
 rw [decide_eq_true rfl] at c2
 have c3:=vR fe [0,0] [1,1] [[0,1,1],[0,0,1]] md ⟨by decide,by decide⟩ (by decide) (by decide)
 rw [yl] at c3
 have c4:=tM fe md
 rw [ry] at c4
 obtain ⟨pt,hpt⟩ : ∃ pt,pt=bR fe:=⟨_,rfl⟩
 refine Dp Try.func9 ?_
 intro C hP hN
 simp only [Try.f9] at hN ⊢
 with_reducible repeat' (first|refine Sp.h ?_|((first|refine Ss.h ?_|refine Sc.h (c0) ?_|refine Sc.h (c1) ?_|refine Sc.h (c2) ?_|refine Sc.h (c3) ?_|refine Sc.h (c4) ?_|(refine Sb.h ?_ ?_ ?_<;>(try intro hgd)<;>try exact Xy))<;>simp -implicitDefEqProofs (maxSteps:=2000000) [hP,hN])|refine X2 ?_ ?_|(refine Xd ?_ ?_<;>intro hcd<;>try exact Xx))
end Go.Ab
namespace Go.Ab
open Go.Proofs
def fM (q : List (List Int)) (i : Nat) : Nat:=(q.take i).foldl (fun m l=>max m (aH l)) 1
theorem sL (q : List (List Int)) : fM q 0=1:=rfl
theorem sM {q : List (List Int)} {i : Nat} (h : i < q.length) : fM q (i+1)=max (fM q i) (aH q[i]):=by
 rw [fM,List.take_succ_eq_append_getElem h,List.foldl_append];rfl
theorem tH (q : List (List Int)) : fM q q.length=q.foldl (fun m l=>max m (aH l)) 1:=by rw [fM,List.take_length]
theorem jn {t : aU} {starts goals order : List Int} {ticks : Int} {q : List (List Int)} (h : bd t starts goals order ticks=some q) : q.length=t.maps.length∧t.maps.length≤4∧1≤t.maps.length∧∀ l ∈ q,l.length≤65:=by
 obtain ⟨hv,h1,_⟩:=lJ h
 obtain ⟨hpre,p,rfl,hP⟩:=fY h
 obtain ⟨hchk,_,hs,hg,ht,_,hpos⟩:=dU hpre
 refine ⟨h1,(mi hchk).2,hpos,fun l hl=>?_⟩
 rw [bE,List.mem_map] at hl
 obtain ⟨x,hx,rfl⟩:=hl
 obtain ⟨k,hk⟩:=List.mem_iff_getElem?.1 hx
 obtain ⟨A,hA⟩:=hP.lst k x hk
 have:=hA.len
 rw [List.length_take];omega
theorem d5 (l m n o : List Int) (ticks : Int) : am Try.prog 5 [.pv (zs l),.pv (zs m),.pv (zs n),.pv (zs o),.pv (Z ticks)] [] [] (.pv (B true)):=by
 have c0:=d9
 have cT:=tl l
 have hok:=qN l
 have hnp:=oq l
 have hML : (cy l).maps.length≤3:=by have:=ig l;have:=ii l;show (og l).length≤3;omega
 have hM1 : 1≤(cy l).maps.length:=by have:=ig l;have:=ii l;show 1≤(og l).length;omega
 generalize cy l=t at *
 have cA:=oY t m hok (by omega) (fun x hx=>by have:=hnp x hx;omega)
 have cB:=oY t n hok (by omega) (fun x hx=>by have:=hnp x hx;omega)
 have hal:=gb t.maps m t.maps.length
 have hbl:=gb t.maps n t.maps.length
 generalize ed t.maps m t.maps.length=a at *
 generalize ed t.maps n t.maps.length=b at *
 have cO:=rY t.maps.length o (by omega)
 have hol:=gC o t.maps.length
 generalize aQ o t.maps.length=ord at *
 have cR:=uo ticks 8 (by decide)
 have hr:=oK ticks (k:=8) (by decide) (by decide)
 generalize fG ticks 8=r at *
 obtain ⟨k,hk⟩ : ∃ k : Int,1+r=k:=⟨_,rfl⟩
 have hw : IntKind.i64.wrap (1+r)=k:=by rw [← hk];exact bP
 have cP:=qE t a b ord k hok (by omega)
 cases hp : bd t a b ord k with
 |none=>
  rw [hp] at cP
  refine Dp Try.func5 ?_
  intro C hP hN
  simp only [Try.f5] at hN ⊢
  with_reducible repeat' (first|refine Sp.h ?_|((first|refine Wd ?_|refine Ss.h ?_|refine Sc.h (c0) ?_|refine Sc.h (cT) ?_|refine Sc.h (cA) ?_|refine Sc.h (cB) ?_|refine Sc.h (cO) ?_|refine Sc.h (cR) ?_|refine Sc.h (cP) ?_|(refine Sb.h ?_ ?_ ?_<;>(try intro hgd)<;>try exact Xy))<;>simp -implicitDefEqProofs (maxSteps:=2000000) [hP,hN,hw,hal,hbl,hol]<;>try refine Ya ?_)|refine X2 ?_ ?_|(refine Xd ?_ ?_<;>intro hcd<;>try exact Xx))
 |some q=>
  rw [hp] at cP
  obtain ⟨hv,hql,l0,hq0,h2,hT,hfold⟩:=lJ hp
  obtain ⟨_,_,_,hq65⟩:=jn hp
  have hle:=(List.getElem?_eq_some_iff.1 hq0).2
  have hll:=(List.getElem?_eq_some_iff.1 hq0).1
  have z1 : ((q.length : Nat) : Int)=((t.maps.length : Nat) : Int):=by omega
  have z2 : ¬ ((l0.length : Nat) : Int) < 2:=by omega
  have z3 : ¬ k+1 < ((l0.length : Nat) : Int):=by omega
  have z4 : IntKind.i64.wrap (k+1)=k+1:=bP
  have z5 : IntKind.i64.wrap ((l0.length : Int) - 1)=(l0.length : Int) - 1:=by have:=hq65 _ (List.mem_of_getElem? hq0);exact bP
  have cV:=vh t a b q hok ⟨by omega,fun x hx=>by have:=hq65 x hx;omega⟩ (by omega) (by omega)
  rw [hv] at cV
  rw [← tH] at hfold
  have hfz : ((fM q q.length : Nat) : Int)=(l0.length : Int) - 1:=by omega
  refine Dp Try.func5 ?_
  intro C hP hN
  simp only [Try.f5] at hN ⊢
  with_reducible repeat' (first|refine Sp.h ?_|((first|refine Wd ?_|refine Ss.h ?_|refine Sc.h (c0) ?_|refine Sc.h (cT) ?_|refine Sc.h (cA) ?_|refine Sc.h (cB) ?_|refine Sc.h (cO) ?_|refine Sc.h (cR) ?_|refine Sc.h (cP) ?_|(refine Sb.h ?_ ?_ ?_<;>(try intro hgd)<;>try exact Xy))<;>simp -implicitDefEqProofs (maxSteps:=2000000) [hP,hN,hw,hal,hbl,hol,hql,z1,z2,z3,z4,hq0,hle,hll]<;>try refine Ya ?_)|refine X2 ?_ ?_|(refine Xd ?_ ?_<;>intro hcd<;>try exact Xx))
  refine WP.loopN [] q.length (fun i st=>st.t 11=.ptr 11 0∧st.h 11=some (.box [.pv (.sl (t.maps.map aV)),.pv (.sl (t.conf.map ba))] true false)∧st.t 12=.arr 23 t.maps.length∧st.t 13=.arr 26 t.maps.length∧(∃ f,st.h 23=some (.row 3 1 (a.map Z) f))∧(∃ f,st.h 26=some (.row 3 1 (b.map Z) f))∧st.t 15=.pv (.sl (q.map zs))∧st.t 17=.pv (Z (fM q i))∧st.t 18=.pv (Z i)) (by simp [sL]) ?_
  rintro i st hi ⟨g11,b11,g12,g13,⟨f1,b23⟩,⟨f2,b26⟩,g15,g17,g18⟩
  by_cases hlt : i < q.length
  ·have hwi:=ak hlt (by omega)
   have hxi : q[i]?=some q[i]:=List.getElem?_eq_getElem hlt
   have hf:=sM hlt
   have cAr:=tL q[i] (by have:=hq65 _ (List.getElem_mem hlt);omega)
   generalize hx : q[i]=x at *
   generalize fM q (i+1)=m1 at *
   generalize fM q i=m0 at *
   with_reducible repeat' (first|refine Sp.h ?_|((first|refine Wd ?_|refine Ss.h ?_|refine Sc.h (cAr) ?_|(refine Sb.h ?_ ?_ ?_<;>(try intro hgd)<;>try exact Xy))<;>simp -implicitDefEqProofs (maxSteps:=2000000) [hP,hN,g11,b11,g12,g13,b23,b26,g15,g17,g18,hlt,hwi,hxi,hx]<;>try refine Ya ?_)|refine X2 ?_ ?_|(refine Xd ?_ ?_<;>intro hcd<;>try exact Xx))
   all_goals (rw [hf];split<;>omega)
  ·have hiq : i=q.length:=by omega
   rw [hiq] at g17
   with_reducible repeat' (first|refine Sp.h ?_|((first|refine Wd ?_|refine Ss.h ?_|refine Sc.h (c0) ?_|refine Sc.h (cV) ?_|(refine Sb.h ?_ ?_ ?_<;>(try intro hgd)<;>try exact Xy))<;>simp -implicitDefEqProofs (maxSteps:=2000000) [hP,hN,g11,b11,g12,g13,b23,b26,g15,g17,g18,hlt,hal,hbl,hq0,hle,hll,z5,hfz]<;>try refine Ya ?_)|refine X2 ?_ ?_|(refine Xd ?_ ?_<;>intro hcd<;>try exact Xx))
end Go.Ab
namespace Go.Ab
open Go.Proofs
def il (n : Nat) (g : Nat→Int) : List PV:=(List.range n).map fun x=>Z (g x)
@[simp] theorem ib (n : Nat) (g : Nat→Int) : (il n g).length=n:=by simp [il]
theorem pQ {n x : Nat} (g : Nat→Int) (h : x < n) : (il n g)[x]?=some (Z (g x)):=by simp [il,h]
theorem rz {n : Nat} {f g : Nat→Int} (h : ∀ x,x < n→f x=g x) : il n f=il n g:=List.map_congr_left fun x hx=>by rw [h x (List.mem_range.1 hx)]
theorem sN (n : Nat) : List.replicate n (Z 0)=il n fun _=>0:=by simp [il,List.map_const']
theorem ob {n u : Nat} {f g : Nat→Int} {b : Int} (hu : u < n) (h1 : g u=b) (h2 : ∀ x,x < n→x≠u→g x=f x) : (il n f).set u (Z b)=il n g:=by
 apply List.ext_getElem?
 intro w
 rw [List.getElem?_set]
 simp only [ib]
 by_cases hw : w < n
 ·by_cases e : u=w
  ·subst e;simp [il,hw,h1]
  ·simp [il,hw,e,h2 w hw (fun e'=>e e'.symm)]
 ·by_cases e : u=w
  ·subst e;simp [il,hw]
  ·simp [il,hw,e]
def fz (o : Option Nat) : Int:=match o with|some d=>(d : Int)|none=>-1
section
variable {adj : Nat→Nat→Bool}
end
end Go.Ab
namespace Go.Ab
open Go.Proofs
theorem lD {t : aU} {l : List Int} (h : bL t l=true) {k : Nat} (hk : k < t.maps.length) : l[k]?=some ((aP l k : Nat) : Int):=by
 simp only [bL,Bool.and_eq_true,decide_eq_true_eq,List.all_eq_true,List.mem_range] at h
 have h8:=h.2 k (by omega)
 rw [aD] at h8
 unfold aP
 rw [bG (show k < l.length by omega)] at h8 ⊢
 simp only [Option.getD_some] at h8 ⊢
 rw [Int.toNat_of_nonneg h8.1]
end Go.Ab
namespace Go.Ab
open Go.Proofs
def o2 (t : aU) (l : List Int) (k : Nat) (s : Nat × List Int) (cur : Int) : Nat × List Int:=
 if bm t ⟨k,cur,nx l s.1 (ax t k)⟩=true then (nn l s.1,s.2++[nx l s.1 (ax t k)])
 else if 0 < nx l (nn l s.1) 9 then (nn l (nn l s.1),s.2++[cur]) else (nn l (nn l s.1),s.2++[nx l s.1 (ax t k)])
def d7 (t : aU) (l : List Int) (k s0 : Nat) (x0 : Int) : Nat→Nat × List Int
 |0=>(s0,[x0])
 |i+1=>o2 t l k (d7 t l k s0 x0 i) (((d7 t l k s0 x0 i).2[i]?).getD 0)
def d6 (t : aU) (starts l : List Int) (T : Nat) : Nat→Nat × List (List Int)
 |0=>(0,[])
 |k+1=>((d7 t l k (d6 t starts l T k).1 ((starts[k]?).getD 0) T).1,(d6 t starts l T k).2++[(d7 t l k (d6 t starts l T k).1 ((starts[k]?).getD 0) T).2])
theorem yu (t : aU) (l : List Int) (k : Nat) (s : Nat × List Int) (cur : Int) : (o2 t l k s cur).2.length=s.2.length+1∧(o2 t l k s cur).1≤s.1+2:=by
 have h1:=cY l s.1
 have h2:=cY l (nn l s.1)
 unfold o2
 split
 ·simp;omega
 ·split
  ·simp;omega
  ·simp;omega
theorem mo (t : aU) (l : List Int) (k s0 : Nat) (x0 : Int) : ∀ i,(d7 t l k s0 x0 i).2.length=i+1∧(d7 t l k s0 x0 i).1≤s0+2 * i
 |0=>by simp [d7]
 |i+1=>by
  have ih:=mo t l k s0 x0 i
  have h:=yu t l k (d7 t l k s0 x0 i) (((d7 t l k s0 x0 i).2[i]?).getD 0)
  rw [d7];omega
theorem mP (t : aU) (starts l : List Int) (T : Nat) : ∀ k,(d6 t starts l T k).2.length=k∧(d6 t starts l T k).1≤2 * T * k∧∀ x ∈ (d6 t starts l T k).2,x.length=T+1
 |0=>by simp [d6]
 |k+1=>by
  obtain ⟨h1,h2,h3⟩:=mP t starts l T k
  obtain ⟨h4,h5⟩:=mo t l k (d6 t starts l T k).1 ((starts[k]?).getD 0) T
  refine ⟨by simp only [d6,List.length_append,List.length_singleton];omega,?_,fun x hx=>?_⟩
  ·simp only [d6]
   have : 2 * T * (k+1)=2 * T * k+2 * T:=by rw [Nat.mul_succ]
   omega
  ·simp only [d6,List.mem_append,List.mem_singleton] at hx
   rcases hx with hx|rfl
   ·exact h3 x hx
   ·exact h4
theorem yV (t : aU) (starts l : List Int) (T : Nat) (ht : TmOk t) (hn : t.maps.length≤100) (hp : ∀ m ∈ t.maps,1≤m.np.length∧m.np.length≤100000) (hs : starts.length=t.maps.length) (hT : T≤64) : am Try.prog 14 [.pv (bR t),.pv (zs starts),.pv (Z T),.pv (zs l)] [] [] (.pv (.sl ((d6 t starts l T t.maps.length).2.map zs))):=by
 have cf:=td l
 refine Dp Try.func14 ?_
 intro C hP hN
 simp only [Try.f14] at hN ⊢
 with_reducible repeat' (first|refine Sp.h ?_|((first|refine Wh [10] ?_|refine Wi [10] ?_|refine Ss.h ?_|refine Sc.h (cf) ?_|(refine Sb.h ?_ ?_ ?_<;>(try intro hgd)<;>try exact Xy))<;>simp -implicitDefEqProofs (maxSteps:=2000000) [hP,hN,bk]<;>try refine Ya ?_)|refine X2 ?_ ?_|(refine Xd ?_ ?_<;>intro hcd<;>try exact Xx))
 refine WP.loopN [28] t.maps.length (fun k st=>st.t 4=.ptr 4 0∧st.h 4=some (.box [.pv (.sl (t.maps.map aV)),.pv (.sl (t.conf.map ba))] true false)∧st.t 1=.pv (zs starts)∧st.t 2=.pv (Z T)∧st.t 9=.ptr 16 0∧st.h 16=some (.box [.pv (zs l),.pv (Z (d6 t starts l T k).1)] true false)∧st.t 10=.arr 10 k∧st.h 10=some (.row 26 1 ((d6 t starts l T k).2.map zs) 0)∧st.t 11=.pv (Z k)∧st.h 28=none) (by simp [d6]) ?_
 rintro k st hk ⟨g4,b4,g1,g2,g9,b16,g10,b10,g11,b28⟩
 obtain ⟨hL1,hL2,hL3⟩:=mP t starts l T k
 by_cases hlt : k < t.maps.length
 ·have hwk:=ak hlt ht.nl
  have hks : k < starts.length:=by omega
  have has:=bG hks
  have hsd : (starts[k]?).getD 0=starts[k]:=by rw [has];rfl
  have hxi : t.maps[k]?=some t.maps[k]:=List.getElem?_eq_getElem hlt
  have hpm:=hp _ (List.getElem_mem hlt)
  have hoS : d6 t starts l T (k+1)=((d7 t l k (d6 t starts l T k).1 starts[k] T).1,(d6 t starts l T k).2++[(d7 t l k (d6 t starts l T k).1 starts[k] T).2]):=by rw [d6,hsd]
  rw [hoS]
  clear hoS
  have h2T : 2 * T * k≤12800:=by
   have:=Nat.mul_le_mul (show 2 * T≤128 by omega) (show k≤100 by omega);omega
  generalize (d6 t starts l T k).2=outs at *
  generalize (d6 t starts l T k).1=s0 at *
  generalize hx0 : starts[k]=x0 at *
  generalize hx : t.maps[k]=m at *
  have hm:=(fJ hxi).1
  have hol : (outs.map zs).length=k:=by rw [List.length_map,hL1]
  have hR0 : [Z x0]=((d7 t l k s0 x0 0).2).map Z:=rfl
  with_reducible repeat' (first|refine Sp.h ?_|((first|refine Wh [28] ?_|refine Wi [28] ?_|refine Ss.h ?_|(refine Sb.h ?_ ?_ ?_<;>(try intro hgd)<;>try exact Xy))<;>simp -implicitDefEqProofs (maxSteps:=2000000) [hP,hN,g4,b4,g1,g2,g9,b16,g10,b10,g11,b28,hlt,hks,has,hx0]<;>try refine Ya ?_)|refine X2 ?_ ?_|(refine Xd ?_ ?_<;>intro hcd<;>try exact Xx))
  have hR0' : [PV.val (.int .i64 x0)]=((d7 t l k s0 x0 0).2).map Z:=rfl
  rw [hR0']
  refine WP.loopN [] T (fun i st=>st.t 4=.ptr 4 0∧st.h 4=some (.box [.pv (.sl (t.maps.map aV)),.pv (.sl (t.conf.map ba))] true false)∧st.t 1=.pv (zs starts)∧st.t 2=.pv (Z T)∧st.t 9=.ptr 16 0∧st.h 16=some (.box [.pv (zs l),.pv (Z (d7 t l k s0 x0 i).1)] true false)∧st.t 10=.arr 10 k∧st.h 10=some (.row 26 1 (outs.map zs) 0)∧st.t 11=.pv (Z k)∧st.t 12=.arr 28 (i+1)∧st.t 13=.pv (Z i)∧st.h 28=some (.row 3 1 ((d7 t l k s0 x0 i).2.map Z) 0)) (by simp [g4,b4,g1,g2,g9,b16,g10,b10,g11,d7]) ?_
  clear g4 b4 g1 g2 g9 b16 g10 b10 g11 b28 hR0 hR0' st
  rintro i st hi ⟨g4,b4,g1,g2,g9,b16,g10,b10,g11,g12,g13,b28⟩
  obtain ⟨hI1,hI2⟩:=mo t l k s0 x0 i
  by_cases hil : i < T
  ·have hwi:=ak hil (by omega)
   obtain ⟨cur,hci⟩ : ∃ cur,(d7 t l k s0 x0 i).2[i]?=some cur:=⟨_,List.getElem?_eq_getElem (by omega)⟩
   have hstep : d7 t l k s0 x0 (i+1)=o2 t l k (d7 t l k s0 x0 i) cur:=by rw [d7,hci];rfl
   rw [hstep]
   clear hstep
   generalize hsi : d7 t l k s0 x0 i=s at *
   obtain ⟨p,at'⟩:=s
   simp only at hI1 hI2 hci b16 b28
   have cn:=gJ l p m.np.length (by omega) (by omega)
   have hnl:=cY l p
   have cm:=gJ l (nn l p) 9 (by decide) (by omega)
   have cL:=tK t ⟨k,cur,nx l p m.np.length⟩ ht
   have hS : o2 t l k (p,at') cur=if bm t ⟨k,cur,nx l p m.np.length⟩=true then (nn l p,at'++[nx l p m.np.length]) else if 0 < nx l (nn l p) 9 then (nn l (nn l p),at'++[cur]) else (nn l (nn l p),at'++[nx l p m.np.length]):=by simp only [o2,hm]
   rw [hS]
   clear hS
   generalize nx l p m.np.length=y at *
   generalize nn l (nn l p)=p2 at *
   generalize nx l (nn l p) 9=y2 at *
   generalize nn l p=p1 at *
   have hal : (at'.map Z).length=i+1:=by rw [List.length_map,hI1]
   have hai : (at'.map Z)[i]?=some (Z cur):=by rw [List.getElem?_map,hci];rfl
   have hae:=(List.getElem?_eq_some_iff.1 hai).2
   have hail:=(List.getElem?_eq_some_iff.1 hai).1
   obtain ⟨j,hj⟩ : ∃ j,i+1=j:=⟨_,rfl⟩
   rw [hj] at hal g12 ⊢
   have hij : i < j:=by omega
   have hijz : (i : Int) < (j : Int):=by omega
   have hmap : ∀ z,(at'++[z]).map Z=at'.map Z++[Z z]:=fun z=>by simp
   cases hleg : bm t ⟨k,cur,y⟩ with
   |true=>
    rw [hleg] at cL
    simp only [if_true,hmap]
    generalize at'.map Z=L at *
    with_reducible repeat' (first|refine Sp.h ?_|((first|refine Wd ?_|refine Ss.h ?_|refine Sc.h (cn) ?_|refine Sc.h (cm) ?_|refine Sc.h (cL) ?_|(refine Sb.h ?_ ?_ ?_<;>(try intro hgd)<;>try exact Xy))<;>simp -implicitDefEqProofs (maxSteps:=2000000) [hP,hN,g4,b4,g1,g2,g9,b16,g10,b10,g11,g12,g13,b28,hil,hwi,hlt,hx,hxi,hal,hai,hae,hail,hij,hijz,show (j+1) * 8≤140737488355328 by omega,show j≤9223372036854775806 by omega,show j+1≤9223372036854775807 by omega]<;>try refine Ya ?_)|refine X2 ?_ ?_|(refine Xd ?_ ?_<;>intro hcd<;>try exact Xx))
    all_goals omega
   |false=>
    rw [hleg] at cL
    simp only [Bool.false_eq_true,if_false]
    by_cases hy : 0 < y2
    ·simp only [hy,if_true,hmap]
     generalize at'.map Z=L at *
     with_reducible repeat' (first|refine Sp.h ?_|((first|refine Wd ?_|refine Ss.h ?_|refine Sc.h (cn) ?_|refine Sc.h (cm) ?_|refine Sc.h (cL) ?_|(refine Sb.h ?_ ?_ ?_<;>(try intro hgd)<;>try exact Xy))<;>simp -implicitDefEqProofs (maxSteps:=2000000) [hP,hN,g4,b4,g1,g2,g9,b16,g10,b10,g11,g12,g13,b28,hil,hwi,hlt,hx,hxi,hal,hai,hae,hail,hij,hijz,hy,show (j+1) * 8≤140737488355328 by omega,show j≤9223372036854775806 by omega,show j+1≤9223372036854775807 by omega]<;>try refine Ya ?_)|refine X2 ?_ ?_|(refine Xd ?_ ?_<;>intro hcd<;>try exact Xx))
     all_goals omega
    ·simp only [hy,if_false,hmap]
     generalize at'.map Z=L at *
     with_reducible repeat' (first|refine Sp.h ?_|((first|refine Wd ?_|refine Ss.h ?_|refine Sc.h (cn) ?_|refine Sc.h (cm) ?_|refine Sc.h (cL) ?_|(refine Sb.h ?_ ?_ ?_<;>(try intro hgd)<;>try exact Xy))<;>simp -implicitDefEqProofs (maxSteps:=2000000) [hP,hN,g4,b4,g1,g2,g9,b16,g10,b10,g11,g12,g13,b28,hil,hwi,hlt,hx,hxi,hal,hai,hae,hail,hij,hijz,hy,show (j+1) * 8≤140737488355328 by omega,show j≤9223372036854775806 by omega,show j+1≤9223372036854775807 by omega]<;>try refine Ya ?_)|refine X2 ?_ ?_|(refine Xd ?_ ?_<;>intro hcd<;>try exact Xx))
     all_goals omega
  ·have hiT : i=T:=by omega
   subst hiT
   generalize d7 t l k s0 x0 i=s at *
   obtain ⟨p,at'⟩:=s
   simp only at hI1 hI2 b16 b28 ⊢
   have hal : (at'.map Z).length=i+1:=by rw [List.length_map,hI1]
   rw [show zs at'=.sl (at'.map Z) from rfl]
   generalize at'.map Z=L at *
   generalize outs.map zs=OL at *
   with_reducible repeat' (first|refine Sp.h ?_|((first|refine Wd ?_|refine Ss.h ?_|(refine Sb.h ?_ ?_ ?_<;>(try intro hgd)<;>try exact Xy))<;>simp -implicitDefEqProofs (maxSteps:=2000000) [hP,hN,g4,b4,g1,g2,g9,b16,g10,b10,g11,g12,g13,b28,hil,hwk,hal,hol,show (k+1) * 24≤140737488355328 by omega,show k≤9223372036854775806 by omega,show k+1≤9223372036854775807 by omega]<;>try refine Ya ?_)|refine X2 ?_ ?_|(refine Xd ?_ ?_<;>intro hcd<;>try exact Xx))
 ·have hkn : k=t.maps.length:=by omega
  subst hkn
  have hol : ((d6 t starts l T t.maps.length).2.map zs).length=t.maps.length:=by rw [List.length_map,hL1]
  generalize (d6 t starts l T t.maps.length).2.map zs=OL at *
  with_reducible repeat' (first|refine Sp.h ?_|((first|refine Wd ?_|refine Ss.h ?_|(refine Sb.h ?_ ?_ ?_<;>(try intro hgd)<;>try exact Xy))<;>simp -implicitDefEqProofs (maxSteps:=2000000) [hP,hN,g4,b4,g1,g2,g9,b16,g10,b10,g11,hlt,hol]<;>try refine Ya ?_)|refine X2 ?_ ?_|(refine Xd ?_ ?_<;>intro hcd<;>try exact Xx))
end Go.Ab
namespace Go.Ab
open Go.Proofs
def rE (l : List Int) : Int:=(l[l.length - 1]?).getD 0
def d0 (plan : List (List Int)) : List Int:=plan.map rE
theorem yW (plan : List (List Int)) (hl : plan.length≤100000) (h1 : ∀ l ∈ plan,1≤l.length∧l.length≤1000000) : am Try.prog 17 [.pv (.sl (plan.map zs))] [] [] (.pv (zs (d0 plan))):=by
 refine Dp Try.func17 ?_
 intro C hP hN
 simp only [Try.f17] at hN ⊢
 with_reducible repeat' (first|refine Sp.h ?_|((first|refine Wh [3] ?_|refine Wi [3] ?_|refine Ss.h ?_|(refine Sb.h ?_ ?_ ?_<;>(try intro hgd)<;>try exact Xy))<;>simp -implicitDefEqProofs (maxSteps:=2000000) [hP,hN]<;>try refine Ya ?_)|refine X2 ?_ ?_|(refine Xd ?_ ?_<;>intro hcd<;>try exact Xx))
 refine WP.loopN [] plan.length (fun k st=>st.t 0=.pv (.sl (plan.map zs))∧st.t 3=.arr 3 k∧st.t 4=.pv (Z k)∧st.h 3=some (.row 3 1 ((d0 (plan.take k)).map Z) 0)) (by simp [d0]) ?_
 rintro k st hk ⟨g0,g3,g4,b3⟩
 have hll : ((d0 (plan.take k)).map Z).length=k:=by simp [d0];omega
 by_cases hlt : k < plan.length
 ·have hw:=ak hlt (by omega)
  have hxi : plan[k]?=some plan[k]:=List.getElem?_eq_getElem hlt
  obtain ⟨q1,q2⟩:=h1 _ (List.getElem_mem hlt)
  have hsu : (d0 (plan.take (k+1))).map Z=(d0 (plan.take k)).map Z++[Z (rE plan[k])]:=by rw [d0,List.take_succ_eq_append_getElem hlt,List.map_append,List.map_append];rfl
  rw [hsu]
  generalize (d0 (plan.take k)).map Z=L at *
  generalize hx : plan[k]=x at *
  have hle : rE x=(x[x.length - 1]?).getD 0:=rfl
  have hlx : x.length - 1 < x.length:=by omega
  have hw1 : IntKind.i64.wrap ((x.length : Int) - 1)=((x.length - 1 : Nat) : Int):=by rw [IntKind.wrap_i64];omega
  have hat:=bG hlx
  rw [hat,Option.getD_some] at hle
  rw [hle]
  generalize hj : x.length - 1=j at *
  have hj0 : ¬ (j : Int) < 0:=by omega
  generalize hz : x[j]=z at *
  with_reducible repeat' (first|refine Sp.h ?_|((first|refine Wd ?_|refine Ss.h ?_|(refine Sb.h ?_ ?_ ?_<;>(try intro hgd)<;>try exact Xy))<;>simp -implicitDefEqProofs (maxSteps:=2000000) [hP,hN,g0,g3,g4,b3,hlt,hw,hxi,hx,hll,hw1,hat,hz,hlx,hj0,show (k+1) * 8≤140737488355328 by omega,show k≤9223372036854775806 by omega,show k+1≤9223372036854775807 by omega]<;>try refine Ya ?_)|refine X2 ?_ ?_|(refine Xd ?_ ?_<;>intro hcd<;>try exact Xx))
 ·have hkn : k=plan.length:=by omega
  subst hkn
  rw [List.take_length] at *
  rw [show zs (d0 plan)=.sl ((d0 plan).map Z) from rfl]
  generalize (d0 plan).map Z=L at *
  with_reducible repeat' (first|refine Sp.h ?_|((first|refine Wd ?_|refine Ss.h ?_|(refine Sb.h ?_ ?_ ?_<;>(try intro hgd)<;>try exact Xy))<;>simp -implicitDefEqProofs (maxSteps:=2000000) [hP,hN,g0,g3,g4,b3,hlt,hll]<;>try refine Ya ?_)|refine X2 ?_ ?_|(refine Xd ?_ ?_<;>intro hcd<;>try exact Xx))
theorem yv {ps : List PV} {k : Nat} (hk : k≤ps.length) (hall : ps.all (iO 1)=true) (z : Option Value) (e n : Nat) (y : Option Value) : f0 { size:=n,zero:=z,kind:=TK.slice e 1 24 y } (.pv (.sl ps)) none (some (.pv (.val (.int .i64 (k : Int)))))=some (.pv (.sl (ps.take k))):=by
 have h0 : (0 : Int)≤(k : Int):=by omega
 have h3 : 0≤k∧k≤ps.length∧0 < 1∧ps.all (iO 1)=true:=⟨Nat.zero_le _,hk,by decide,hall⟩
 simp only [f0,if_pos h0,Int.toNat_natCast,if_pos h3,List.drop_zero]
theorem d3 (r : aU) (starts goals : List Int) (plan : List (List Int)) (l m w : List Int) (ticks x : Int) (hr : TmOk r) (hp : PLk plan) (hss : starts.length≤9223372036854775807) (hgg : goals.length≤9223372036854775807) : am Try.prog 3 [.pv (bR r),.pv (zs starts),.pv (zs goals),.pv (.sl (plan.map zs)),.pv (zs l),.pv (zs m),.pv (zs w),.pv (Z ticks),.pv (Z x)] [] [] (.pv (B true)):=by
 have c0:=d9
 have cS:=d8 r hr
 cases hsm : gT r with
 |false=>
  rw [hsm] at cS
  refine Dp Try.func3 ?_
  intro C hP hN
  simp only [Try.f3] at hN ⊢
  with_reducible repeat' (first|refine Sp.h ?_|((first|refine Wd ?_|refine Ss.h ?_|refine Sc.h (c0) ?_|refine Sc.h (cS) ?_|(refine Sb.h ?_ ?_ ?_<;>(try intro hgd)<;>try exact Xy))<;>simp -implicitDefEqProofs (maxSteps:=2000000) [hP,hN]<;>try refine Ya ?_)|refine X2 ?_ ?_|(refine Xd ?_ ?_<;>intro hcd<;>try exact Xx))
 |true=>
 rw [hsm] at cS
 by_cases hlen : starts.length≤10∧goals.length≤10∧plan.length≤10
 ·obtain ⟨l1,l2,l3⟩:=hlen
  have w1 : ¬ (10 : Int) < (starts.length : Int):=by omega
  have w2 : ¬ (10 : Int) < (goals.length : Int):=by omega
  have w3 : ¬ (10 : Int) < (plan.length : Int):=by omega
  have cT:=tl l
  have hok:=qN l
  have hnp:=oq l
  have hML : (cy l).maps.length≤3:=by have:=ig l;have:=ii l;show (og l).length≤3;omega
  have hM1 : 1≤(cy l).maps.length:=by have:=ig l;have:=ii l;show 1≤(og l).length;omega
  generalize cy l=t at *
  have cA:=oY t m hok (by omega) (fun x hx=>by have:=hnp x hx;omega)
  have cB:=oY t w hok (by omega) (fun x hx=>by have:=hnp x hx;omega)
  have hal:=gb t.maps m t.maps.length
  have hbl:=gb t.maps w t.maps.length
  generalize ed t.maps m t.maps.length=a at *
  generalize ed t.maps w t.maps.length=b at *
  have cR:=uo ticks 5 (by decide)
  have hrr:=oK ticks (k:=5) (by decide) (by decide)
  generalize fG ticks 5=rt at *
  obtain ⟨T,rfl⟩ : ∃ T : Nat,rt=T:=⟨rt.toNat,by omega⟩
  have cW:=yV t a w T hok (by omega) (fun x hx=>by have:=hnp x hx;omega) hal (by omega)
  obtain ⟨p1,_,p3⟩:=mP t a w T t.maps.length
  generalize (d6 t a w T t.maps.length).2=p at *
  have cL:=yW p (by omega) (fun x hx=>by have:=p3 x hx;omega)
  have hpk : PLk p:=⟨by omega,fun x hx=>by have:=p3 x hx;omega⟩
  have hpk2 : PLk (p.take (p.length - 1)):=⟨by rw [List.length_take];omega,fun x hx=>hpk.el x (List.mem_of_mem_take hx)⟩
  have hll : (d0 p).length=p.length:=by simp [d0]
  generalize d0 p=q at *
  have v1:=pZ r starts goals plan hr hp hss hgg
  have v2:=pZ t a q p hok hpk (by omega) (by omega)
  have v3:=pZ t a b p hok hpk (by omega) (by omega)
  have v4:=pZ t b q p hok hpk (by omega) (by omega)
  have v5:=pZ t a q (p.take (p.length - 1)) hok hpk2 (by omega) (by omega)
  have v6:=pZ t starts goals plan hok hp hss hgg
  have cR2:=uo x p.length (by omega)
  have hr2:=oK x (k:=(p.length : Int)) (by omega) (by omega)
  generalize fG x p.length=rx at *
  obtain ⟨j,rfl⟩ : ∃ j : Nat,rx=j:=⟨rx.toNat,by omega⟩
  have hjp : j < p.length:=by omega
  have hjz : (j : Int) < (p.length : Int):=by omega
  have hxi : p[j]?=some p[j]:=List.getElem?_eq_getElem hjp
  have hpl:=p3 _ (List.getElem_mem hjp)
  generalize hy : p[j]=y at *
  have a1:=vM y (by omega)
  have a2:=tL y (by omega)
  rw [List.map_take] at v5
  have hw1 : IntKind.i64.wrap ((p.length : Int) - 1)=((p.length - 1 : Nat) : Int):=by rw [IntKind.wrap_i64];omega
  have hst:=fun z e n y=>yv (ps:=p.map zs) (k:=p.length - 1) (by rw [List.length_map];omega) (by rw [List.all_eq_true];intro x hx;obtain ⟨v,_,rfl⟩:=List.mem_map.1 hx;rfl) z e n y
  generalize (p.map zs).take (p.length - 1)=pt at *
  generalize p.length - 1=pm at *
  have hw2:=hw1
  rw [p1] at hw2 cR2
  have hjp2 : j < t.maps.length:=by omega
  have hjz2 : (j : Int) < (t.maps.length : Int):=by omega
  refine Dp Try.func3 ?_
  intro C hP hN
  simp only [Try.f3] at hN ⊢
  with_reducible repeat' (first|refine Sp.h ?_|((first|refine Wd ?_|refine Ss.h ?_|refine Sc.h (c0) ?_|refine Sc.h (cS) ?_|(refine Sb.h ?_ ?_ ?_<;>(try intro hgd)<;>try exact Xy))<;>simp -implicitDefEqProofs (maxSteps:=2000000) [hP,hN,w1,w2,w3]<;>try refine Ya ?_)|refine X2 ?_ ?_|(refine Xd ?_ ?_<;>intro hcd<;>try exact Xx))
  refine WP.loopN [] plan.length (fun k st=>st.t 9=.ptr 9 0∧st.h 9=some (.box [.pv (.sl (r.maps.map aV)),.pv (.sl (r.conf.map ba))] true false)∧st.t 1=.pv (zs starts)∧st.t 2=.pv (zs goals)∧st.t 3=.pv (.sl (plan.map zs))∧st.t 4=.pv (zs l)∧st.t 5=.pv (zs m)∧st.t 6=.pv (zs w)∧st.t 7=.pv (Z ticks)∧st.t 8=.pv (Z x)∧st.t 19=.pv (Z k)∧st.h 20=none∧st.h 70=none∧st.h 98=none∧st.h 106=none) (by simp) ?_
  rintro k st hk ⟨g9,b9,g1,g2,g3,g4,g5,g6,g7,g8,g19,b20,b70,b98,b106⟩
  by_cases hlt : k < plan.length
  ·have hwk:=ak hlt hp.nl
   have hxi : plan[k]?=some plan[k]:=List.getElem?_eq_getElem hlt
   have hel:=hp.el _ (List.getElem_mem hlt)
   have e1:=vM plan[k] hel
   have e2:=tL plan[k] hel
   generalize hx : plan[k]=z at *
   generalize aH z=az at *
   by_cases h100 : (100 : Int) < (z.length : Int)
   ·skip
    with_reducible repeat' (first|refine Sp.h ?_|((first|refine Wd ?_|refine Ss.h ?_|refine Sc.h (c0) ?_|(refine Sb.h ?_ ?_ ?_<;>(try intro hgd)<;>try exact Xy))<;>simp -implicitDefEqProofs (maxSteps:=2000000) [hP,hN,g9,b9,g1,g2,g3,g4,g5,g6,g7,g8,g19,b20,b70,b98,b106,hlt,hwk,hxi,hx,h100]<;>try refine Ya ?_)|refine X2 ?_ ?_|(refine Xd ?_ ?_<;>intro hcd<;>try exact Xx))
   ·skip
    with_reducible repeat' (first|refine Sp.h ?_|((first|refine Wd ?_|refine Ss.h ?_|refine Sc.h (e1) ?_|refine Sc.h (e2) ?_|(refine Sb.h ?_ ?_ ?_<;>(try intro hgd)<;>try exact Xy))<;>simp -implicitDefEqProofs (maxSteps:=2000000) [hP,hN,g9,b9,g1,g2,g3,g4,g5,g6,g7,g8,g19,b20,b70,b98,b106,hlt,hwk,hxi,hx,h100]<;>try refine Ya ?_)|refine X2 ?_ ?_|(refine Xd ?_ ?_<;>intro hcd<;>try exact Xx))
  ·skip
   with_reducible repeat' (first|refine Sp.h ?_|((first|refine Wd ?_|refine Ss.h ?_|refine Sc.h (c0) ?_|refine Sc.h (cT) ?_|refine Sc.h (cA) ?_|refine Sc.h (cB) ?_|refine Sc.h (cR) ?_|refine Sc.h (cW) ?_|refine Sc.h (cL) ?_|refine Sc.h (v1) ?_|refine Sc.h (v2) ?_|refine Sc.h (v3) ?_|refine Sc.h (v4) ?_|refine Sc.h (v5) ?_|refine Sc.h (v6) ?_|refine Sc.h (cR2) ?_|refine Sc.h (a1) ?_|refine Sc.h (a2) ?_|(refine Sb.h ?_ ?_ ?_<;>(try intro hgd)<;>try exact Xy))<;>simp -implicitDefEqProofs (maxSteps:=2000000) [hP,hN,g9,b9,g1,g2,g3,g4,g5,g6,g7,g8,g19,b20,b70,b98,b106,hlt,hal,hbl,hll,p1,hjp,hjz,hxi,hy,hw1,hw2,hjp2,hjz2,hst]<;>try refine Ya ?_)|refine X2 ?_ ?_|(refine Xd ?_ ?_<;>intro hcd<;>try exact Xx))
 ·skip
  refine Dp Try.func3 ?_
  intro C hP hN
  simp only [Try.f3] at hN ⊢
  with_reducible repeat' (first|refine Sp.h ?_|((first|refine Wd ?_|refine Ss.h ?_|refine Sc.h (c0) ?_|refine Sc.h (cS) ?_|(refine Sb.h ?_ ?_ ?_<;>(try intro hgd)<;>try exact Xy))<;>simp -implicitDefEqProofs (maxSteps:=2000000) [hP,hN]<;>try refine Ya ?_)|refine X2 ?_ ?_|(refine Xd ?_ ?_<;>intro hcd<;>try exact Xx))
  all_goals (exfalso;simp at *;omega)
end Go.Ab
namespace Go.Ab
section
variable {n : Nat} {lg : Nat→Nat→Bool} {ps : Nat→Nat→Nat→Bool}
def ql (n : Nat) (lg : Nat→Nat→Bool) (ps : Nat→Nat→Nat→Bool) (goal ticks best i v u : Nat) : Bool:=
 (match aw n lg ps goal ticks (ticks - (i+1)) u with|some a=>decide (a≤max best (i+1))|none=>false) && (lg v u && (ps i v u && (decide (i < best) || decide (u=goal))))
theorem yp (start goal ticks best i : Nat) : eh n lg ps start goal ticks best (i+1)=((List.range n).find? (ql n lg ps goal ticks best i (eh n lg ps start goal ticks best i))).getD 0:=rfl
theorem yQ {start goal ticks A : Nat} (hs : start < n) (hA : aw n lg ps goal ticks ticks start=some A) (hg : goal < n) (hl : lg goal goal=true) {i : Nat} (hi : i < ticks) :
 eh n lg ps start goal ticks A i < n∧∃ x,(List.range n).find? (ql n lg ps goal ticks A i (eh n lg ps start goal ticks A i))=some x∧x < n∧eh n lg ps start goal ticks A (i+1)=x:=by
 rw [← lL hs hg hl] at hA
 have he:=pf hs hA hg hl
 obtain ⟨⟨_,hle,hset,_⟩,_⟩:=((dT hs hg).1 A).1 hA
 have hst:=(ep hle).1 hset
 have hlt : eh n lg ps start goal ticks A i < n:=by
  rw [he i (by omega)]
  by_cases h : i≤A
  ·exact (fp hs hA hg i h).1
  ·rw [eL hs hA hg (by omega)];exact hg
 refine ⟨hlt,?_⟩
 have hw : ∃ u,u < n∧ql n lg ps goal ticks A i (eh n lg ps start goal ticks A i) u=true:=by
  rw [he i (by omega)]
  by_cases hiA : i < A
  ·obtain ⟨h1,h2,h3⟩:=fp hs hA hg (i+1) (by omega)
   obtain ⟨h4,h5⟩:=h3 i (by omega)
   refine ⟨bu n lg ps start goal A (i+1),h1,?_⟩
   have hArr : mX n lg ps goal ticks (i+1) (bu n lg ps start goal A (i+1)) A:=⟨by omega,hle,hset,h2⟩
   obtain ⟨s1,s2⟩:=c9 (ps:=ps) (ticks:=ticks) (k:=ticks - (i+1)) hg hl (by omega) h1
   rw [show ticks - (ticks - (i+1))=i+1 from by omega] at s1 s2
   unfold ql
   rw [h4,h5]
   cases ha : aw n lg ps goal ticks (ticks - (i+1)) (bu n lg ps start goal A (i+1)) with
   |none=>exact absurd hArr (s1.1 ha A)
   |some a=>
    have:=((s2 a).1 ha).2 A hArr
    simp only [Bool.true_and,Bool.and_eq_true,Bool.or_eq_true,decide_eq_true_eq]
    exact ⟨by omega,.inl hiA⟩
  ·rw [eL hs hA hg (by omega)]
   refine ⟨goal,hg,?_⟩
   have hArr : mX n lg ps goal ticks (i+1) goal (i+1):=⟨Nat.le_refl _,by omega,by rw [ep (by omega)];exact fun j h1 h2=>hst j (by omega) h2,by simp [cb]⟩
   obtain ⟨s1,s2⟩:=c9 (ps:=ps) (ticks:=ticks) (k:=ticks - (i+1)) hg hl (by omega) hg
   rw [show ticks - (ticks - (i+1))=i+1 from by omega] at s1 s2
   unfold ql
   rw [hl,hst i (by omega) (by omega)]
   cases ha : aw n lg ps goal ticks (ticks - (i+1)) goal with
   |none=>exact absurd hArr (s1.1 ha _)
   |some a=>
    have:=((s2 a).1 ha).2 _ hArr
    simp only [Bool.true_and,Bool.and_eq_true,Bool.or_eq_true,decide_eq_true_eq]
    exact ⟨by omega,.inr trivial⟩
 obtain ⟨u,h1,h2⟩:=hw
 obtain ⟨x,hx,hxn,_⟩:=mY h1 h2
 exact ⟨x,hx,hxn,by rw [yp,hx];rfl⟩
theorem yz {goal ticks : Nat} (hg : goal < n) (hl : lg goal goal=true) {k v a : Nat} (hk : k≤ticks) (hv : v < n) (h : aw n lg ps goal ticks k v=some a) : ticks - k≤a∧a≤ticks:=by
 obtain ⟨h1,h2,_⟩:=(((c9 (ps:=ps) hg hl hk hv).2 a).1 h).1
 exact ⟨h1,h2⟩
def yt (n : Nat) (lg : Nat→Nat→Bool) (ps : Nat→Nat→Nat→Bool) (goal ticks k v u : Nat) : Option Nat:=match aw n lg ps goal ticks k u with
 |some a=>if (lg v u && ps (ticks - (k+1)) v u)=true then some (if v=goal∧u=goal∧a=ticks - (k+1)+1 then ticks - (k+1) else a) else none
 |none=>none
def jo (n : Nat) (lg : Nat→Nat→Bool) (ps : Nat→Nat→Nat→Bool) (goal ticks k v u : Nat) : Option Nat:=(List.range u).foldl (fun acc u=>gc acc (yt n lg ps goal ticks k v u)) none
theorem rJ (goal ticks k v : Nat) : jo n lg ps goal ticks k v 0=none:=rfl
theorem rL (goal ticks k v u : Nat) : jo n lg ps goal ticks k v (u+1)=gc (jo n lg ps goal ticks k v u) (yt n lg ps goal ticks k v u):=by simp [jo,List.range_succ]
theorem tI (goal ticks k v : Nat) : jo n lg ps goal ticks k v n=aw n lg ps goal ticks (k+1) v:=rfl
end
def lK (Q : Nat→Bool) (n : Nat) : Nat→Int
 |0=>-1
 |c+1=>if Q (n - (c+1))=true then ((n - (c+1) : Nat) : Int) else lK Q n c
theorem pn (Q : Nat→Bool) (n : Nat) : ∀ c,c≤n→lK Q n c=match (List.range' (n - c) c).find? Q with|some x=>(x : Int)|none=>-1
 |0,_=>by simp [lK]
 |c+1,h=>by
  rw [lK,List.range'_succ,List.find?_cons,show n - (c+1)+1=n - c by omega]
  cases hq : Q (n - (c+1)) with
  |true=>simp
  |false=>simpa using pn Q n c (by omega)
theorem yA {Q : Nat→Bool} {n x : Nat} (h : (List.range n).find? Q=some x) : lK Q n n=x:=by
 rw [pn Q n n (Nat.le_refl _),Nat.sub_self,← List.range_eq_range',h]
end Go.Ab
namespace Go.Ab
open Go.Proofs
theorem yX (t : aU) (plan : List (List Int)) (m : Mov) (tick : Nat) (ht : TmOk t) (hp : ∀ l ∈ plan,l.length≤1000000) (hpl : plan.length≤1000) (htk : tick≤1000000) : am Try.prog 64 [.pv (bR t),.pv (.sl (plan.map zs)),.pv (bz m),.pv (Z tick)] [] [] (.pv (B (qP t plan m tick))):=by
 rw [qP]
 obtain ⟨p,hpd⟩ : ∃ p,p=fun i=>jw t m tick i ((plan[i]?).getD []):=⟨_,rfl⟩
 rw [← hpd]
 obtain ⟨a,f,to⟩:=m
 obtain ⟨R,hR⟩ : ∃ R,(List.range plan.length).all p=R:=⟨_,rfl⟩
 rw [hR]
 refine Dp Try.func64 ?_
 intro C hP hN
 simp only [Try.f64] at hN ⊢
 with_reducible repeat' (first|refine Sp.h ?_|((first|refine Wd ?_|refine Ss.h ?_|(refine Sb.h ?_ ?_ ?_<;>(try intro hgd)<;>try exact Xy))<;>simp -implicitDefEqProofs (maxSteps:=2000000) [hP,hN]<;>try refine Ya ?_)|refine X2 ?_ ?_|(refine Xd ?_ ?_<;>intro hcd<;>try exact Xx))
 refine WP.loopN [] plan.length (fun i st=>st.t 4=.ptr 4 0∧st.h 4=some (.box [.pv (.sl (t.maps.map aV)),.pv (.sl (t.conf.map ba))] true false)∧st.t 6=.ptr 6 0∧st.h 6=some (.box [.pv (Z a),.pv (Z f),.pv (Z to)] true false)∧st.t 1=.pv (.sl (plan.map zs))∧st.t 3=.pv (Z tick)∧st.t 9=.pv (Z i)∧tA p i) (by simp [cJ]) ?_
 rintro i st hi ⟨g4,b4,g6,b6,g1,g3,g9,hq⟩
 by_cases hlt : i < plan.length
 ·have hw:=ak hlt (by omega)
  have hn:=cK (p:=p) hq
  have hh:=cH (p:=p) hlt
  rw [hR] at hh
  have hxi : plan[i]?=some plan[i]:=List.getElem?_eq_getElem hlt
  have hel:=hp _ (List.getElem_mem hlt)
  have hpi : p i=jw t ⟨a,f,to⟩ tick i plan[i]:=by rw [hpd];simp only [hxi,Option.getD_some]
  generalize hx : plan[i]=l at *
  by_cases h0 : 0 < l.length
  ·have h0z : (0 : Int) < (l.length : Int):=by omega
   by_cases hne : (i : Int)=a
   ·have h9:=hn (by rw [hpi,jw];simp [hne])
    subst hne
    have e1 : ((i : Int) !=(i : Int))=false:=by simp
    with_reducible repeat' (first|refine Sp.h ?_|((first|refine Wd ?_|refine Ss.h ?_|(refine Sb.h ?_ ?_ ?_<;>(try intro hgd)<;>try exact Xy))<;>simp -implicitDefEqProofs (maxSteps:=2000000) [hP,hN,g4,b4,g6,b6,g1,g3,g9,hlt,hw,hxi,hx,h0,h0z,e1]<;>try refine Ya ?_)|refine X2 ?_ ?_|(refine Xd ?_ ?_<;>intro hcd<;>try exact Xx))
    all_goals exact h9
   ·have e1 : ((i : Int) !=a)=true:=by simp [hne]
    have cm:=uA l i tick (by omega) (by omega) (by omega)
    have hpi2 : p i=!fg t ⟨a,f,to⟩ (bi l i tick):=by rw [hpi,jw];simp [h0,hne]
    obtain ⟨⟨z1,z2,z3⟩,hz⟩ : ∃ y,bi l i tick=y:=⟨_,rfl⟩
    rw [hz] at cm hpi2
    have ccl:=vL t ⟨a,f,to⟩ ⟨z1,z2,z3⟩ ht.cl
    cases hcl : fg t ⟨a,f,to⟩ ⟨z1,z2,z3⟩ with
    |true=>
     rw [hcl] at ccl hpi2
     rw [hh hpi2]
     with_reducible repeat' (first|refine Sp.h ?_|((first|refine Wd ?_|refine Ss.h ?_|refine Sc.h (cm) ?_|refine Sc.h (ccl) ?_|(refine Sb.h ?_ ?_ ?_<;>(try intro hgd)<;>try exact Xy))<;>simp -implicitDefEqProofs (maxSteps:=2000000) [hP,hN,g4,b4,g6,b6,g1,g3,g9,hlt,hw,hxi,hx,h0,h0z,hne,e1]<;>try refine Ya ?_)|refine X2 ?_ ?_|(refine Xd ?_ ?_<;>intro hcd<;>try exact Xx))
    |false=>
     rw [hcl] at ccl hpi2
     have h9:=hn hpi2
     with_reducible repeat' (first|refine Sp.h ?_|((first|refine Wd ?_|refine Ss.h ?_|refine Sc.h (cm) ?_|refine Sc.h (ccl) ?_|(refine Sb.h ?_ ?_ ?_<;>(try intro hgd)<;>try exact Xy))<;>simp -implicitDefEqProofs (maxSteps:=2000000) [hP,hN,g4,b4,g6,b6,g1,g3,g9,hlt,hw,hxi,hx,h0,h0z,hne,e1]<;>try refine Ya ?_)|refine X2 ?_ ?_|(refine Xd ?_ ?_<;>intro hcd<;>try exact Xx))
     all_goals exact h9
  ·have h0z : ¬ (0 : Int) < (l.length : Int):=by omega
   have h9:=hn (by rw [hpi,jw];simp [h0])
   with_reducible repeat' (first|refine Sp.h ?_|((first|refine Wd ?_|refine Ss.h ?_|(refine Sb.h ?_ ?_ ?_<;>(try intro hgd)<;>try exact Xy))<;>simp -implicitDefEqProofs (maxSteps:=2000000) [hP,hN,g4,b4,g6,b6,g1,g3,g9,hlt,hw,hxi,hx,h0,h0z]<;>try refine Ya ?_)|refine X2 ?_ ?_|(refine Xd ?_ ?_<;>intro hcd<;>try exact Xx))
   all_goals exact h9
 ·rw [dv hq hlt] at hR
  rw [← hR]
  with_reducible repeat' (first|refine Sp.h ?_|((first|refine Wd ?_|refine Ss.h ?_|(refine Sb.h ?_ ?_ ?_<;>(try intro hgd)<;>try exact Xy))<;>simp -implicitDefEqProofs (maxSteps:=2000000) [hP,hN,g4,b4,g6,b6,g1,g3,g9,hlt]<;>try refine Ya ?_)|refine X2 ?_ ?_|(refine Xd ?_ ?_<;>intro hcd<;>try exact Xx))
end Go.Ab
namespace Go.Ab
open Go.Proofs
def gU (r : Nat→List PV) (i N : Nat) : List AV:=(List.range N).map fun w=>if i≤w then .pv (.sl (r w)) else bf
@[simp] theorem mW (r : Nat→List PV) (i N : Nat) : (gU r i N).length=N:=by simp [gU]
theorem ym (r : Nat→List PV) (N : Nat) : List.replicate N bf=gU r N N:=by
 unfold gU
 apply List.ext_getElem?
 intro w
 by_cases hw : w < N<;>simp [hw,show ¬ N≤w↔w < N by omega]
theorem yw {r : Nat→List PV} {i N : Nat} (x : AV) : ((gU r (i+1) N).set i x).set i (.pv (.sl (r i)))=gU r i N:=by
 rw [List.set_set]
 apply List.ext_getElem?
 intro w
 rw [List.getElem?_set]
 simp only [mW]
 by_cases hw : w < N
 ·by_cases e : i=w
  ·subst e;simp [gU,hw]
  ·simp [gU,hw,e,show (i+1≤w↔i≤w) by omega]
 ·by_cases e : i=w
  ·subst e;simp [gU,hw]
  ·simp [gU,hw,e]
theorem j4 (ks : List Nat) (r : Nat→List PV) (i N : Nat) : (gU r i N).map (bc ks)=gU r i N:=by
 unfold gU;rw [List.map_map]
 refine List.map_congr_left fun w _=>?_
 simp only [Function.comp];split<;>simp [eX,bp]
theorem rM {r : Nat→List PV} {i N w : Nat} (h : i≤w) (hN : w < N) : (gU r i N)[w]?=some (.pv (.sl (r w))):=by simp [gU,hN,h]
def fA (n : Nat) (lg : Nat→Nat→Bool) (ps : Nat→Nat→Nat→Bool) (start goal T A N : Nat) : List Int:=(List.range N).map fun i=>((eh n lg ps start goal T A i : Nat) : Int)
theorem pd (n : Nat) (lg : Nat→Nat→Bool) (ps : Nat→Nat→Nat→Bool) (start goal T A N : Nat) : fA n lg ps start goal T A (N+1)=fA n lg ps start goal T A N++[((eh n lg ps start goal T A N : Nat) : Int)]:=by simp [fA,List.range_succ]
theorem p5 (n : Nat) (lg : Nat→Nat→Bool) (ps : Nat→Nat→Nat→Bool) (start goal T A N : Nat) : (fA n lg ps start goal T A N).length=N:=by simp [fA]
theorem yM {n : Nat} {lg : Nat→Nat→Bool} {ps : Nat→Nat→Nat→Bool} {start goal T A N i : Nat} (h : i < N) : (fA n lg ps start goal T A N)[i]?=some ((eh n lg ps start goal T A i : Nat) : Int):=by simp [fA,h]
set_option maxRecDepth 20000 in
theorem yY (t : aU) (plan : List (List Int)) (k start goal T : Nat) (m : aW) (ht : TmOk t) (hp : ∀ l ∈ plan,l.length≤1000000) (hpl : plan.length≤1000) (hxi : t.maps[k]?=some m) (hn1 : m.np.length≤1024) (hs : start < m.np.length) (hg : goal < m.np.length) (hT : T≤64) : am Try.prog 50 [.pv (bR t),.pv (.sl (plan.map zs)),.pv (Z k),.pv (Z start),.pv (Z goal),.pv (Z T)] [] [] (.new (.tup (match er t plan k start goal T with|some l=>[zs l,B true]|none=>[.val (.slice none 0 0),B false]))):=by
 obtain ⟨n,hn⟩ : ∃ n,m.np.length=n:=⟨_,rfl⟩
 have hmn : ax t k=n:=by rw [← hn];exact (fJ hxi).1
 have hkl:=(List.getElem?_eq_some_iff.1 hxi).1
 have hx:=(List.getElem?_eq_some_iff.1 hxi).2
 have hl : fK t k goal goal=true:=rK hkl (by rw [hmn,← hn];exact hg)
 have cl : ∀ v u : Nat,am Try.prog 32 [.pv (bR t),.pv (bz ⟨k,v,u⟩)] [] [] (.pv (B (fK t k v u))):=fun v u=>tK t ⟨k,v,u⟩ ht
 have ca : ∀ i v u : Nat,i≤64→am Try.prog 64 [.pv (bR t),.pv (.sl (plan.map zs)),.pv (bz ⟨k,v,u⟩),.pv (Z i)] [] [] (.pv (B (pg t plan k i v u))):=fun i v u hi=>yX t plan ⟨k,v,u⟩ i ht hp hpl (by omega)
 have hal : er t plan k start goal T=(aw n (fK t k) (pg t plan k) goal T T start).map fun A=>fA n (fK t k) (pg t plan k) start goal T A (T+1):=by rw [er,hmn];rfl
 rw [hal]
 rw [hn] at hn1 hs hg
 generalize fK t k=lg at *
 generalize pg t plan k=ps at *
 clear hal hp hpl
 obtain ⟨M,hM⟩ : ∃ M,M=T+1:=⟨_,rfl⟩
 obtain ⟨F,hF⟩ : ∃ F : Nat→Nat→Int,F=fun i v=>fz (aw n lg ps goal T (T - i) v):=⟨_,rfl⟩
 have hFe : ∀ i v,F i v=fz (aw n lg ps goal T (T - i) v):=fun i v=>by rw [hF]
 clear hF
 obtain ⟨r,hr⟩ : ∃ r : Nat→List PV,r=fun w=>il n (F w):=⟨_,rfl⟩
 have hre : ∀ w,r w=il n (F w):=fun w=>by rw [hr]
 clear hr
 have w0 : IntKind.i64.wrap ((T : Int)+1)=(M : Int):=by rw [IntKind.wrap_i64];omega
 have hM0 : 0 < M:=by omega
 obtain ⟨rs,hrs⟩ : ∃ rs,rs=List.replicate M bf:=⟨_,rfl⟩
 have hrl : rs.length=M:=by rw [hrs,List.length_replicate]
 refine Dp Try.func50 ?_
 intro C hP hN
 simp only [Try.f50] at hN ⊢
 with_reducible repeat' (first|refine Sp.h ?_|((first|refine Wh [1000038] ?_|refine Ss.h ?_|(refine Sb.h ?_ ?_ ?_<;>(try intro hgd)<;>try exact Xy))<;>simp -implicitDefEqProofs (maxSteps:=2000000) [hP,hN,hn,hx,hxi,hkl,w0,hM0,← hrs,hrl,show (M : Int) * 24≤281474976710656 by omega,show 24 * (M : Int)≤281474976710656 by omega,show (M : Int)≤9223372036854775807 by omega])|refine X2 ?_ ?_|(refine Xd ?_ ?_<;>intro hcd<;>try exact Xx))
 rw [hrs,ym r]
 refine WP.loopN [47,19] M (fun c st=>st.t 6=.ptr 6 0∧st.h 6=some (.box [.pv (.sl (t.maps.map aV)),.pv (.sl (t.conf.map ba))] true false)∧st.t 1=.pv (.sl (plan.map zs))∧st.t 2=.pv (Z k)∧st.t 3=.pv (Z start)∧st.t 4=.pv (Z goal)∧st.t 5=.pv (Z T)∧st.t 14=.pv (Z n)∧st.t 15=.ext (.barr 38 M)∧st.t 16=.pv (Z ((T : Int) - c))∧st.h 38=some (.box (gU r (M - c) M) true false)∧st.h 47=none∧st.h 19=none∧st.h 27=none∧st.h 161=none) (by simp [j4]) ?_
 rintro c st hc ⟨g6,b6,g1,g2,g3,g4,g5,g14,g15,g16,b38,b47,b19,b27,b161⟩
 by_cases hlt : c < M
 ·obtain ⟨i,hic⟩ : ∃ i,i=T - c:=⟨_,rfl⟩
  obtain ⟨j,hj⟩ : ∃ j,i+1=j:=⟨_,rfl⟩
  obtain ⟨cs,hcs⟩ : ∃ cs,cs=gU r j M:=⟨_,rfl⟩
  rw [show (T : Int) - c=(i : Int) by omega] at g16
  rw [show M - c=j by omega,← hcs] at b38
  have hcl : cs.length=M:=by rw [hcs,mW]
  have hiM : i < M:=by omega
  have hiM1 : i+1≤M:=by omega
  have hiz : (i : Int) < (M : Int):=by omega
  have hi0 : ¬ (i : Int) < 0:=by omega
  have hi0' : 0≤(i : Int):=by omega
  have hwi : IntKind.i64.wrap ((i : Int) - 1)=(i : Int) - 1:=bP
  have hfin : (T : Int) - ((c : Int)+1)=(i : Int) - 1:=by omega
  have hfin2 : M - (c+1)=i:=by omega
  have hsp : cs.take i++AV.arr 47 n :: cs.drop (i+1)=cs.set i (.arr 47 n):=ce (by omega)
  obtain ⟨ds,hds⟩ : ∃ ds,ds=cs.set i (.arr 47 n):=⟨_,rfl⟩
  rw [← hds] at hsp
  have hdl : ds.length=M:=by rw [hds,List.length_set,hcl]
  have di : ds[i]?=some (.arr 47 n):=by rw [hds];simp [hcl,hiM]
  have di' : ∀ h,ds[i]'h=.arr 47 n:=fun h=>(List.getElem?_eq_some_iff.1 di).2
  have hdk : ds.map (bc [19])=ds:=by rw [hds,List.map_set,hcs,j4];rfl
  with_reducible repeat' (first|refine Sp.h ?_|((first|refine Wh [47] ?_|refine Ss.h ?_|(refine Sb.h ?_ ?_ ?_<;>(try intro hgd)<;>try exact Xy))<;>simp -implicitDefEqProofs (maxSteps:=2000000) [hP,hN,g6,b6,g1,g2,g3,g4,g5,g14,g15,g16,b38,b47,b19,b27,b161,hlt,hcl,hiM,hiM1,hiz,hi0,hi0',hsp,show (n : Int) * 8≤281474976710656 by omega,show 8 * (n : Int)≤281474976710656 by omega,show (n : Int)≤281474976710656 by omega,show (n : Int)≤9223372036854775807 by omega])|refine X2 ?_ ?_|(refine Xd ?_ ?_<;>intro hcd<;>try exact Xx))
  refine WP.loopN [19] n (fun v st=>st.t 6=.ptr 6 0∧st.h 6=some (.box [.pv (.sl (t.maps.map aV)),.pv (.sl (t.conf.map ba))] true false)∧st.t 1=.pv (.sl (plan.map zs))∧st.t 2=.pv (Z k)∧st.t 3=.pv (Z start)∧st.t 4=.pv (Z goal)∧st.t 5=.pv (Z T)∧st.t 14=.pv (Z n)∧st.t 15=.ext (.barr 38 M)∧st.t 16=.pv (Z i)∧st.t 17=.pv (Z v)∧st.h 38=some (.box ds true false)∧st.h 47=some (.row 3 1 (il n fun x=>if x < v then F i x else 0) 0)∧st.h 19=none∧st.h 27=none∧st.h 161=none) (by simp [hdk,g6,b6,g1,g2,g3,g4,g5,g14,g15,g16,b27,b161,sN]) ?_
  clear g6 b6 g1 g2 g3 g4 g5 g14 g15 g16 b38 b47 b19 b27 b161
  rintro v st hv ⟨g6,b6,g1,g2,g3,g4,g5,g14,g15,g16,g17,b38,b47,b19,b27,b161⟩
  by_cases hvl : v < n
  ·have hwv:=ak hvl (by omega)
   have hset : ∀ z : Int,z=F i v→(il n fun x=>if x < v then F i x else 0).set v (Z z)=il n fun x=>if x < v+1 then F i x else 0:=fun z hz=>ob hvl (by simp [hz]) (fun x _ hxv=>by simp [show (x < v+1↔x < v) by omega])
   have hRl : (il n fun x=>if x < v then F i x else 0).length=n:=ib _ _
   generalize (il n fun x=>if x < v+1 then F i x else 0)=R2 at *
   generalize (il n fun x=>if x < v then F i x else 0)=R at *
   by_cases hiT : i=T
   ·have hF0 : F i v=if v=goal then (T : Int) else -1:=by
     rw [hFe,hiT,Nat.sub_self,aw];split<;>rfl
    have hiTz : (i : Int)=(T : Int):=by omega
    subst hiT
    by_cases hvg : v=goal
    ·rw [if_pos hvg] at hF0
     have hs2:=hset i (by rw [hF0])
     subst hvg
     with_reducible repeat' (first|refine Sp.h ?_|((first|refine Ss.h ?_|(refine Sb.h ?_ ?_ ?_<;>(try intro hgd)<;>try exact Xy))<;>simp -implicitDefEqProofs (maxSteps:=2000000) [hP,hN,g6,b6,g1,g2,g3,g4,g5,g14,g15,g16,g17,b38,b47,b19,b27,b161,hvl,hwv,hRl,hdl,di,di',hiM,hiz,hi0,hi0',hdk,hs2])|refine X2 ?_ ?_|(refine Xd ?_ ?_<;>intro hcd<;>try exact Xx))
     all_goals skip
    ·rw [if_neg hvg] at hF0
     have hs2:=hset (-1) (by rw [hF0])
     have hvz : ¬ (v : Int)=(goal : Int):=by omega
     clear hset hFe hre hds hcs hsp hrs hM hfin hfin2 hic
     with_reducible repeat' (first|refine Sp.h ?_|((first|refine Ss.h ?_|(refine Sb.h ?_ ?_ ?_<;>(try intro hgd)<;>try exact Xy))<;>simp -implicitDefEqProofs (maxSteps:=2000000) [hP,hN,g6,b6,g1,g2,g3,g4,g5,g14,g15,g16,g17,b38,b47,b19,b27,b161,hvl,hwv,hRl,hdl,di,di',hiM,hiz,hi0,hi0',hdk,hvz,hs2])|refine X2 ?_ ?_|(refine Xd ?_ ?_<;>intro hcd<;>try exact Xx))
     all_goals skip
   ·have hiTz : ¬ (i : Int)=(T : Int):=by omega
    have hiT' : i < T:=by omega
    have hjM : j < M:=by omega
    have hjz : (j : Int) < (M : Int):=by omega
    have hwj : IntKind.i64.wrap ((i : Int)+1)=(j : Int):=by rw [IntKind.wrap_i64];omega
    have hji : ¬ i=j:=by omega
    have ck : ds[j]?=some (.pv (.sl (il n (F j)))):=by rw [hds,List.getElem?_set,if_neg hji,hcs,rM (by omega) hjM,hre]
    have ck' : ∀ h,ds[j]'h=.pv (.sl (il n (F j))):=fun h=>(List.getElem?_eq_some_iff.1 ck).2
    obtain ⟨K,hK⟩ : ∃ K,K=T - j:=⟨_,rfl⟩
    have hFj : ∀ u,F j u=fz (aw n lg ps goal T K u):=fun u=>by rw [hFe,hK]
    have hE : ∀ u,yt n lg ps goal T K v u=match aw n lg ps goal T K u with
     |some a=>if (lg v u && ps i v u)=true then some (if v=goal∧u=goal∧a=j then i else a) else none
     |none=>none:=fun u=>by
     rw [yt,show T - (K+1)=i by omega,hj]
     all_goals (cases aw n lg ps goal T K u<;>rfl)
    have hacc:=fun u=>rL (n:=n) (lg:=lg) (ps:=ps) goal T K v u
    have hend : fz (jo n lg ps goal T K v n)=F i v:=by rw [tI,hFe,show T - i=K+1 by omega]
    have hs2:=hset _ hend
    have hrow:=fun u (hu : u < n)=>pQ (F j) hu
    have hrl2 : (il n (F j)).length=n:=ib _ _
    generalize il n (F j)=rj at *
    with_reducible repeat' (first|refine Sp.h ?_|((first|refine Ss.h ?_|(refine Sb.h ?_ ?_ ?_<;>(try intro hgd)<;>try exact Xy))<;>simp -implicitDefEqProofs (maxSteps:=2000000) [hP,hN,g6,b6,g1,g2,g3,g4,g5,g14,g15,g16,g17,b38,b47,b19,b27,b161,hvl,hRl,hdl,di,di',hiM,hiz,hi0,hi0',hdk,hiTz])|refine X2 ?_ ?_|(refine Xd ?_ ?_<;>intro hcd<;>try exact Xx))
    refine WP.loopN [19] n (fun u st=>st.t 6=.ptr 6 0∧st.h 6=some (.box [.pv (.sl (t.maps.map aV)),.pv (.sl (t.conf.map ba))] true false)∧st.t 1=.pv (.sl (plan.map zs))∧st.t 2=.pv (Z k)∧st.t 3=.pv (Z start)∧st.t 4=.pv (Z goal)∧st.t 5=.pv (Z T)∧st.t 14=.pv (Z n)∧st.t 15=.ext (.barr 38 M)∧st.t 16=.pv (Z i)∧st.t 17=.pv (Z v)∧st.t 18=.pv (Z u)∧st.h 38=some (.box ds true false)∧st.h 47=some (.row 3 1 (R.set v (Z (fz (jo n lg ps goal T K v u)))) 0)∧st.h 19=none∧st.h 27=none∧st.h 161=none) (by simp [hdk,g6,b6,g1,g2,g3,g4,g5,g14,g15,g16,g17,b38,b27,b161,rJ,fz]) ?_
    clear g6 b6 g1 g2 g3 g4 g5 g14 g15 g16 g17 b38 b47 b19 b27 b161
    rintro u st hu ⟨g6,b6,g1,g2,g3,g4,g5,g14,g15,g16,g17,g18,b38,b47,b19,b27,b161⟩
    by_cases hul : u < n
    ·have hwu:=ak hul (by omega)
     have hru:=hrow u hul
     rw [hFj u] at hru
     have hrul : u < rj.length:=by omega
     have hEu:=hE u
     have hau:=hacc u
     rw [hEu] at hau
     have cl':=cl v u
     have ca':=ca i v u (by omega)
     generalize jo n lg ps goal T K v (u+1)=ac2 at *
     generalize jo n lg ps goal T K v u=ac at *
     generalize hat : aw n lg ps goal T K u=at' at *
     cases at' with
     |none=>
      have e1 : ac2=ac:=by rw [hau];cases ac<;>rfl
      subst e1
      replace hru : rj[u]?=some (Z (-1)):=hru
      have hru' : ∀ h,rj[u]'h=Z (-1):=fun h=>(List.getElem?_eq_some_iff.1 hru).2
      with_reducible repeat' (first|refine Sp.h ?_|((first|refine Ss.h ?_|(refine Sb.h ?_ ?_ ?_<;>(try intro hgd)<;>try exact Xy))<;>simp -implicitDefEqProofs (maxSteps:=2000000) [hP,hN,g6,b6,g1,g2,g3,g4,g5,g14,g15,g16,g17,g18,b38,b47,b19,b27,b161,hul,hwu,hwj,hjM,hjz,hdl,ck,ck',hru,hru',hrul,hdk])|refine X2 ?_ ?_|(refine Xd ?_ ?_<;>intro hcd<;>try exact Xx))
      all_goals skip
     |some a=>
      replace hru : rj[u]?=some (Z ((a : Nat) : Int)):=hru
      have hru' : ∀ h,rj[u]'h=Z ((a : Nat) : Int):=fun h=>(List.getElem?_eq_some_iff.1 hru).2
      have ha0 : ¬ (a : Int) < 0:=by omega
      simp only at hau
      cases hlg : lg v u with
      |false=>
       rw [hlg] at cl' hau
       have e1 : ac2=ac:=by rw [hau];cases ac<;>rfl
       subst e1
       with_reducible repeat' (first|refine Sp.h ?_|((first|refine Ss.h ?_|refine Sc.h (cl') ?_|(refine Sb.h ?_ ?_ ?_<;>(try intro hgd)<;>try exact Xy))<;>simp -implicitDefEqProofs (maxSteps:=2000000) [hP,hN,g6,b6,g1,g2,g3,g4,g5,g14,g15,g16,g17,g18,b38,b47,b19,b27,b161,hul,hwu,hwj,hjM,hjz,hdl,ck,ck',hru,hru',hrul,hdk,ha0])|refine X2 ?_ ?_|(refine Xd ?_ ?_<;>intro hcd<;>try exact Xx))
       all_goals skip
      |true=>
       rw [hlg] at cl' hau
       cases hps : ps i v u with
       |false=>
        rw [hps] at ca' hau
        have e1 : ac2=ac:=by rw [hau];cases ac<;>rfl
        subst e1
        with_reducible repeat' (first|refine Sp.h ?_|((first|refine Ss.h ?_|refine Sc.h (cl') ?_|refine Sc.h (ca') ?_|(refine Sb.h ?_ ?_ ?_<;>(try intro hgd)<;>try exact Xy))<;>simp -implicitDefEqProofs (maxSteps:=2000000) [hP,hN,g6,b6,g1,g2,g3,g4,g5,g14,g15,g16,g17,g18,b38,b47,b19,b27,b161,hul,hwu,hwj,hjM,hjz,hdl,ck,ck',hru,hru',hrul,hdk,ha0])|refine X2 ?_ ?_|(refine Xd ?_ ?_<;>intro hcd<;>try exact Xx))
        all_goals skip
       |true=>
        rw [hps] at ca' hau
        simp only [Bool.and_self,if_true] at hau
        have hRv : (R.set v (Z (fz ac)))[v]?=some (Z (fz ac)):=by rw [List.getElem?_set,if_pos rfl,if_pos (by omega)]
        have hRv' : ∀ h,(R.set v (Z (fz ac)))[v]'h=Z (fz ac):=fun h=>(List.getElem?_eq_some_iff.1 hRv).2
        have hRl3 : (R.set v (Z (fz ac))).length=n:=by rw [List.length_set,hRl]
        by_cases hq : v=goal∧u=goal∧a=j
        ·rw [if_pos hq] at hau
         clear hset hFe hre hds hcs hsp hrs hM hfin hfin2 hic hE hacc hend hFj hK hrow
         obtain ⟨q1,q2,q3⟩:=hq
         subst q1
         subst q2
         subst q3
         cases ac with
         |none=>
          replace hau : ac2=some i:=hau
          subst hau
          with_reducible repeat' (first|refine Sp.h ?_|((first|refine Ss.h ?_|refine Sc.h (cl') ?_|refine Sc.h (ca') ?_|(refine Sb.h ?_ ?_ ?_<;>(try intro hgd)<;>try exact Xy))<;>simp -implicitDefEqProofs (maxSteps:=2000000) [hP,hN,g6,b6,g1,g2,g3,g4,g5,g14,g15,g16,g17,g18,b38,b47,b19,b27,b161,hul,hvl,hwu,hwj,hjM,hjz,hiM,hiz,hi0,hi0',hdl,di,di',ck,ck',hru,hru',hrul,hdk,ha0,hRv,hRv',hRl,hRl3,fz])|refine X2 ?_ ?_|(refine Xd ?_ ?_<;>intro hcd<;>try exact Xx))
          all_goals skip
         |some x=>
          replace hau : ac2=some (if i < x then i else x):=hau
          by_cases hix : i < x
          ·rw [if_pos hix] at hau
           subst hau
           have hixz : (i : Int) < (x : Int):=by omega
           have hx0 : ¬ (x : Int) < 0:=by omega
           with_reducible repeat' (first|refine Sp.h ?_|((first|refine Ss.h ?_|refine Sc.h (cl') ?_|refine Sc.h (ca') ?_|(refine Sb.h ?_ ?_ ?_<;>(try intro hgd)<;>try exact Xy))<;>simp -implicitDefEqProofs (maxSteps:=2000000) [hP,hN,g6,b6,g1,g2,g3,g4,g5,g14,g15,g16,g17,g18,b38,b47,b19,b27,b161,hul,hvl,hwu,hwj,hjM,hjz,hiM,hiz,hi0,hi0',hdl,di,di',ck,ck',hru,hru',hrul,hdk,ha0,hRv,hRv',hRl,hRl3,fz,hixz,hx0])|refine X2 ?_ ?_|(refine Xd ?_ ?_<;>intro hcd<;>try exact Xx))
           all_goals skip
          ·rw [if_neg hix] at hau
           subst hau
           have hixz : ¬ (i : Int) < (x : Int):=by omega
           have hx0 : ¬ (x : Int) < 0:=by omega
           with_reducible repeat' (first|refine Sp.h ?_|((first|refine Ss.h ?_|refine Sc.h (cl') ?_|refine Sc.h (ca') ?_|(refine Sb.h ?_ ?_ ?_<;>(try intro hgd)<;>try exact Xy))<;>simp -implicitDefEqProofs (maxSteps:=2000000) [hP,hN,g6,b6,g1,g2,g3,g4,g5,g14,g15,g16,g17,g18,b38,b47,b19,b27,b161,hul,hvl,hwu,hwj,hjM,hjz,hiM,hiz,hi0,hi0',hdl,di,di',ck,ck',hru,hru',hrul,hdk,ha0,hRv,hRv',hRl,hRl3,fz,hixz,hx0])|refine X2 ?_ ?_|(refine Xd ?_ ?_<;>intro hcd<;>try exact Xx))
           all_goals skip
        ·rw [if_neg hq] at hau
         clear hset hFe hre hds hcs hsp hrs hM hfin hfin2 hic hE hacc hend hFj hK hrow
         have hq3 : (¬ v=goal)∨(v=goal∧¬ u=goal)∨(v=goal∧u=goal∧¬ a=j):=by omega
         clear hq
         rcases hq3 with q1|⟨q1,q2⟩|⟨q1,q2,q3⟩
         ·have z1 : ¬ (v : Int)=(goal : Int):=by omega
          have z2:=q1
          cases ac with
          |none=>
           replace hau : ac2=some a:=hau
           subst hau
           with_reducible repeat' (first|refine Sp.h ?_|((first|refine Ss.h ?_|refine Sc.h (cl') ?_|refine Sc.h (ca') ?_|(refine Sb.h ?_ ?_ ?_<;>(try intro hgd)<;>try exact Xy))<;>simp -implicitDefEqProofs (maxSteps:=2000000) [hP,hN,g6,b6,g1,g2,g3,g4,g5,g14,g15,g16,g17,g18,b38,b47,b19,b27,b161,hul,hvl,hwu,hwj,hjM,hjz,hiM,hiz,hi0,hi0',hdl,di,di',ck,ck',hru,hru',hrul,hdk,ha0,hRv,hRv',hRl,hRl3,fz,z1,z2])|refine X2 ?_ ?_|(refine Xd ?_ ?_<;>intro hcd<;>try exact Xx))
           all_goals skip
          |some x=>
           replace hau : ac2=some (if a < x then a else x):=hau
           by_cases hix : a < x
           ·rw [if_pos hix] at hau
            subst hau
            have hixz : (a : Int) < (x : Int):=by omega
            have hx0 : ¬ (x : Int) < 0:=by omega
            with_reducible repeat' (first|refine Sp.h ?_|((first|refine Ss.h ?_|refine Sc.h (cl') ?_|refine Sc.h (ca') ?_|(refine Sb.h ?_ ?_ ?_<;>(try intro hgd)<;>try exact Xy))<;>simp -implicitDefEqProofs (maxSteps:=2000000) [hP,hN,g6,b6,g1,g2,g3,g4,g5,g14,g15,g16,g17,g18,b38,b47,b19,b27,b161,hul,hvl,hwu,hwj,hjM,hjz,hiM,hiz,hi0,hi0',hdl,di,di',ck,ck',hru,hru',hrul,hdk,ha0,hRv,hRv',hRl,hRl3,fz,z1,z2,hixz,hx0])|refine X2 ?_ ?_|(refine Xd ?_ ?_<;>intro hcd<;>try exact Xx))
            all_goals skip
           ·rw [if_neg hix] at hau
            subst hau
            have hixz : ¬ (a : Int) < (x : Int):=by omega
            have hx0 : ¬ (x : Int) < 0:=by omega
            with_reducible repeat' (first|refine Sp.h ?_|((first|refine Ss.h ?_|refine Sc.h (cl') ?_|refine Sc.h (ca') ?_|(refine Sb.h ?_ ?_ ?_<;>(try intro hgd)<;>try exact Xy))<;>simp -implicitDefEqProofs (maxSteps:=2000000) [hP,hN,g6,b6,g1,g2,g3,g4,g5,g14,g15,g16,g17,g18,b38,b47,b19,b27,b161,hul,hvl,hwu,hwj,hjM,hjz,hiM,hiz,hi0,hi0',hdl,di,di',ck,ck',hru,hru',hrul,hdk,ha0,hRv,hRv',hRl,hRl3,fz,z1,z2,hixz,hx0])|refine X2 ?_ ?_|(refine Xd ?_ ?_<;>intro hcd<;>try exact Xx))
            all_goals skip
         ·subst q1
          have z1 : ¬ (u : Int)=(v : Int):=by omega
          have z2:=q2
          cases ac with
          |none=>
           replace hau : ac2=some a:=hau
           subst hau
           with_reducible repeat' (first|refine Sp.h ?_|((first|refine Ss.h ?_|refine Sc.h (cl') ?_|refine Sc.h (ca') ?_|(refine Sb.h ?_ ?_ ?_<;>(try intro hgd)<;>try exact Xy))<;>simp -implicitDefEqProofs (maxSteps:=2000000) [hP,hN,g6,b6,g1,g2,g3,g4,g5,g14,g15,g16,g17,g18,b38,b47,b19,b27,b161,hul,hvl,hwu,hwj,hjM,hjz,hiM,hiz,hi0,hi0',hdl,di,di',ck,ck',hru,hru',hrul,hdk,ha0,hRv,hRv',hRl,hRl3,fz,z1,z2])|refine X2 ?_ ?_|(refine Xd ?_ ?_<;>intro hcd<;>try exact Xx))
           all_goals skip
          |some x=>
           replace hau : ac2=some (if a < x then a else x):=hau
           by_cases hix : a < x
           ·rw [if_pos hix] at hau
            subst hau
            have hixz : (a : Int) < (x : Int):=by omega
            have hx0 : ¬ (x : Int) < 0:=by omega
            with_reducible repeat' (first|refine Sp.h ?_|((first|refine Ss.h ?_|refine Sc.h (cl') ?_|refine Sc.h (ca') ?_|(refine Sb.h ?_ ?_ ?_<;>(try intro hgd)<;>try exact Xy))<;>simp -implicitDefEqProofs (maxSteps:=2000000) [hP,hN,g6,b6,g1,g2,g3,g4,g5,g14,g15,g16,g17,g18,b38,b47,b19,b27,b161,hul,hvl,hwu,hwj,hjM,hjz,hiM,hiz,hi0,hi0',hdl,di,di',ck,ck',hru,hru',hrul,hdk,ha0,hRv,hRv',hRl,hRl3,fz,z1,z2,hixz,hx0])|refine X2 ?_ ?_|(refine Xd ?_ ?_<;>intro hcd<;>try exact Xx))
            all_goals skip
           ·rw [if_neg hix] at hau
            subst hau
            have hixz : ¬ (a : Int) < (x : Int):=by omega
            have hx0 : ¬ (x : Int) < 0:=by omega
            with_reducible repeat' (first|refine Sp.h ?_|((first|refine Ss.h ?_|refine Sc.h (cl') ?_|refine Sc.h (ca') ?_|(refine Sb.h ?_ ?_ ?_<;>(try intro hgd)<;>try exact Xy))<;>simp -implicitDefEqProofs (maxSteps:=2000000) [hP,hN,g6,b6,g1,g2,g3,g4,g5,g14,g15,g16,g17,g18,b38,b47,b19,b27,b161,hul,hvl,hwu,hwj,hjM,hjz,hiM,hiz,hi0,hi0',hdl,di,di',ck,ck',hru,hru',hrul,hdk,ha0,hRv,hRv',hRl,hRl3,fz,z1,z2,hixz,hx0])|refine X2 ?_ ?_|(refine Xd ?_ ?_<;>intro hcd<;>try exact Xx))
            all_goals skip
         ·subst q1
          subst q2
          have z1 : ¬ (a : Int)=(j : Int):=by omega
          have z2:=q3
          clear hj hji hiT hiTz q3 hjM hjz hwi w0 hM0 hiT'
          have hjM : j < M:=by have:=(List.getElem?_eq_some_iff.1 ck).1;omega
          have hjz : (j : Int) < (M : Int):=by omega
          cases ac with
          |none=>
           replace hau : ac2=some a:=hau
           subst hau
           with_reducible repeat' (first|refine Sp.h ?_|((first|refine Ss.h ?_|refine Sc.h (cl') ?_|refine Sc.h (ca') ?_|(refine Sb.h ?_ ?_ ?_<;>(try intro hgd)<;>try exact Xy))<;>simp -implicitDefEqProofs (maxSteps:=2000000) [hP,hN,g6,b6,g1,g2,g3,g4,g5,g14,g15,g16,g17,g18,b38,b47,b19,b27,b161,hul,hvl,hwu,hwj,hjM,hjz,hiM,hiz,hi0,hi0',hdl,di,di',ck,ck',hru,hru',hrul,hdk,ha0,hRv,hRv',hRl,hRl3,fz,z1,z2])|refine X2 ?_ ?_|(refine Xd ?_ ?_<;>intro hcd<;>try exact Xx))
           all_goals skip
          |some x=>
           replace hau : ac2=some (if a < x then a else x):=hau
           by_cases hix : a < x
           ·rw [if_pos hix] at hau
            subst hau
            have hixz : (a : Int) < (x : Int):=by omega
            have hx0 : ¬ (x : Int) < 0:=by omega
            with_reducible repeat' (first|refine Sp.h ?_|((first|refine Ss.h ?_|refine Sc.h (cl') ?_|refine Sc.h (ca') ?_|(refine Sb.h ?_ ?_ ?_<;>(try intro hgd)<;>try exact Xy))<;>simp -implicitDefEqProofs (maxSteps:=2000000) [hP,hN,g6,b6,g1,g2,g3,g4,g5,g14,g15,g16,g17,g18,b38,b47,b19,b27,b161,hul,hvl,hwu,hwj,hjM,hjz,hiM,hiz,hi0,hi0',hdl,di,di',ck,ck',hru,hru',hrul,hdk,ha0,hRv,hRv',hRl,hRl3,fz,z1,z2,hixz,hx0])|refine X2 ?_ ?_|(refine Xd ?_ ?_<;>intro hcd<;>try exact Xx))
            all_goals skip
           ·rw [if_neg hix] at hau
            subst hau
            have hixz : ¬ (a : Int) < (x : Int):=by omega
            have hx0 : ¬ (x : Int) < 0:=by omega
            with_reducible repeat' (first|refine Sp.h ?_|((first|refine Ss.h ?_|refine Sc.h (cl') ?_|refine Sc.h (ca') ?_|(refine Sb.h ?_ ?_ ?_<;>(try intro hgd)<;>try exact Xy))<;>simp -implicitDefEqProofs (maxSteps:=2000000) [hP,hN,g6,b6,g1,g2,g3,g4,g5,g14,g15,g16,g17,g18,b38,b47,b19,b27,b161,hul,hvl,hwu,hwj,hjM,hjz,hiM,hiz,hi0,hi0',hdl,di,di',ck,ck',hru,hru',hrul,hdk,ha0,hRv,hRv',hRl,hRl3,fz,z1,z2,hixz,hx0])|refine X2 ?_ ?_|(refine Xd ?_ ?_<;>intro hcd<;>try exact Xx))
            all_goals skip
    ·have hun : u=n:=by omega
     rw [hun,hs2] at b47
     with_reducible repeat' (first|refine Sp.h ?_|((first|refine Ss.h ?_|(refine Sb.h ?_ ?_ ?_<;>(try intro hgd)<;>try exact Xy))<;>simp -implicitDefEqProofs (maxSteps:=2000000) [hP,hN,g6,b6,g1,g2,g3,g4,g5,g14,g15,g16,g17,g18,b38,b47,b19,b27,b161,hul,hwv,hdk])|refine X2 ?_ ?_|(refine Xd ?_ ?_<;>intro hcd<;>try exact Xx))
     all_goals skip
  ·have hvn : v=n:=by omega
   subst hvn
   rw [rz (g:=F i) (fun x hx=>by simp [hx]),← hre] at b47
   have hril : (r i).length=v:=by rw [hre,ib]
   refine WP.freezeB 38 i (k:=47) (xs:=r i) (cs:=ds) (e:=3) (sz:=1) (fz:=0) (own:=true) (fb:=false) b38 (by rw [di,hril]) b47 ?_
   have hend : ds.set i (.pv (.sl (r i)))=gU r i M:=by rw [hds,hcs,← hj];exact yw _
   rw [hend]
   obtain ⟨es,hes⟩ : ∃ es,es=gU r i M:=⟨_,rfl⟩
   have hesk : ∀ ks,es.map (bc ks)=es:=fun ks=>by rw [hes];exact j4 _ _ _ _
   rw [← hes]
   with_reducible repeat' (first|refine Sp.h ?_|((first|refine Ss.h ?_|(refine Sb.h ?_ ?_ ?_<;>(try intro hgd)<;>try exact Xy))<;>simp -implicitDefEqProofs (maxSteps:=2000000) [hP,hN,g6,b6,g1,g2,g3,g4,g5,g14,g15,g16,g17,b19,b27,b161,hvl,hwi,hfin,hfin2,hesk,hes])|refine X2 ?_ ?_|(refine Xd ?_ ?_<;>intro hcd<;>try exact Xx))
   all_goals exact j4 _ _ _ _
 ·have hcM : c=M:=by omega
  have hT16 : (T : Int) - c=-1:=by omega
  rw [hT16] at g16
  rw [hcM,Nat.sub_self] at b38
  clear hT16 hcM hlt hc
  obtain ⟨cs,hcs⟩ : ∃ cs,cs=gU r 0 M:=⟨_,rfl⟩
  rw [← hcs] at b38
  have hcl : cs.length=M:=by rw [hcs,mW]
  have hck : ∀ ks,cs.map (bc ks)=cs:=fun ks=>by rw [hcs];exact j4 _ _ _ _
  have cA : ∀ w,w < M→cs[w]?=some (.pv (.sl (il n (F w)))):=fun w hw=>by rw [hcs,rM (Nat.zero_le _) hw,hre]
  clear hcs hre hrs
  have ck0:=cA 0 hM0
  have ck0' : ∀ h,cs[0]'h=.pv (.sl (il n (F 0))):=fun h=>(List.getElem?_eq_some_iff.1 ck0).2
  have hrow0:=pQ (F 0) hs
  have hF0 : F 0 start=fz (aw n lg ps goal T T start):=by rw [hFe,Nat.sub_zero]
  rw [hF0] at hrow0
  have hsl : start < (il n (F 0)).length:=by rw [ib];exact hs
  generalize il n (F 0)=r0 at *
  clear hF0
  cases hA : aw n lg ps goal T T start with
  |none=>
   rw [hA] at hrow0
   replace hrow0 : r0[start]?=some (Z (-1)):=hrow0
   have hrow0' : ∀ h,r0[start]'h=Z (-1):=fun h=>(List.getElem?_eq_some_iff.1 hrow0).2
   rw [Option.map_none]
   with_reducible repeat' (first|refine Sp.h ?_|((first|refine Ss.h ?_|(refine Sb.h ?_ ?_ ?_<;>(try intro hgd)<;>try exact Xy))<;>simp -implicitDefEqProofs (maxSteps:=2000000) [hP,hN,g6,b6,g1,g2,g3,g4,g5,g14,g15,g16,b38,hcl,hM0,ck0,ck0',hsl,hrow0,hrow0'])|refine X2 ?_ ?_|(refine Xd ?_ ?_<;>intro hcd<;>try exact Xx))
   all_goals first|exact hck _|exact ⟨hck _,hLsz.symm⟩|exact hLsz.symm
  |some A=>
   rw [hA] at hrow0
   replace hrow0 : r0[start]?=some (Z ((A : Nat) : Int)):=hrow0
   have hrow0' : ∀ h,r0[start]'h=Z ((A : Nat) : Int):=fun h=>(List.getElem?_eq_some_iff.1 hrow0).2
   have hA0 : ¬ (A : Int) < 0:=by omega
   have hAT : A≤T:=(yz hg hl (Nat.le_refl _) hs hA).2
   rw [Option.map_some]
   with_reducible repeat' (first|refine Sp.h ?_|((first|refine Wh [161] ?_|refine Ss.h ?_|(refine Sb.h ?_ ?_ ?_<;>(try intro hgd)<;>try exact Xy))<;>simp -implicitDefEqProofs (maxSteps:=2000000) [hP,hN,g6,b6,g1,g2,g3,g4,g5,g14,g15,g16,b38,b27,b161,hcl,hM0,ck0,ck0',hsl,hrow0,hrow0',hA0])|refine X2 ?_ ?_|(refine Xd ?_ ?_<;>intro hcd<;>try exact Xx))
   have h161 : [PV.val (.int .i64 (start : Int))]=(fA n lg ps start goal T A (0+1)).map Z:=by simp [pd,fA,eh]
   rw [h161]
   refine WP.loopN [27] T (fun i st=>st.t 6=.ptr 6 0∧st.h 6=some (.box [.pv (.sl (t.maps.map aV)),.pv (.sl (t.conf.map ba))] true false)∧st.t 1=.pv (.sl (plan.map zs))∧st.t 2=.pv (Z k)∧st.t 3=.pv (Z start)∧st.t 4=.pv (Z goal)∧st.t 5=.pv (Z T)∧st.t 14=.pv (Z n)∧st.t 15=.ext (.barr 38 M)∧st.t 21=.pv (Z A)∧st.t 22=.arr 161 (i+1)∧st.t 23=.pv (Z i)∧st.h 38=some (.box cs true false)∧st.h 161=some (.row 3 1 ((fA n lg ps start goal T A (i+1)).map Z) 0)∧st.h 27=none) (by simp [g6,b6,g1,g2,g3,g4,g5,g14,g15,b38,b27,hck]) ?_
   clear g6 b6 g1 g2 g3 g4 g5 g14 g15 g16 b38 b47 b19 b27 b161 h161 st
   rintro i st hi ⟨g6,b6,g1,g2,g3,g4,g5,g14,g15,g21,g22,g23,b38,b161,b27⟩
   by_cases hlt : i < T
   ·have hwi:=ak hlt (by omega)
    obtain ⟨hvn,x,hx1,hxn,hx2⟩:=yQ hs hA hg hl hlt
    have hLl:=p5 n lg ps start goal T A (i+1)
    have hLi : ((fA n lg ps start goal T A (i+1)).map Z)[i]?=some (Z (eh n lg ps start goal T A i)):=by rw [List.getElem?_map,yM (by omega)];rfl
    have hLs:=pd n lg ps start goal T A (i+1)
    rw [hx2] at hLs
    generalize eh n lg ps start goal T A i=v at *
    obtain ⟨j,hj⟩ : ∃ j,i+1=j:=⟨_,rfl⟩
    have hjM : j < M:=by omega
    have hjz : (j : Int) < (M : Int):=by omega
    have hwj : IntKind.i64.wrap ((i : Int)+1)=(j : Int):=by rw [IntKind.wrap_i64];omega
    have hjc : (j : Int)=(i : Int)+1:=by omega
    have hij : i < j:=by omega
    have hLl2 : ((fA n lg ps start goal T A (i+1)).map Z).length=i+1:=by rw [List.length_map,hLl]
    have hLsz : ((fA n lg ps start goal T A (i+1+1)).map Z)=((fA n lg ps start goal T A (i+1)).map Z)++[Z x]:=by rw [hLs,List.map_append];rfl
    generalize (fA n lg ps start goal T A (i+1+1)).map Z=L2 at *
    generalize (fA n lg ps start goal T A (i+1)).map Z=L at *
    clear hLs hLl hx2
    have ck:=cA j hjM
    have ck' : ∀ h,cs[j]'h=.pv (.sl (il n (F j))):=fun h=>(List.getElem?_eq_some_iff.1 ck).2
    obtain ⟨K,hK⟩ : ∃ K,K=T - j:=⟨_,rfl⟩
    have hrow : ∀ u,u < n→(il n (F j))[u]?=some (Z (fz (aw n lg ps goal T K u))):=fun u hu=>by rw [pQ (F j) hu,hFe,hK]
    have hrjl : (il n (F j)).length=n:=ib _ _
    generalize il n (F j)=rj at *
    obtain ⟨Q,hQ⟩ : ∃ Q,Q=ql n lg ps goal T A i v:=⟨_,rfl⟩
    rw [← hQ] at hx1
    obtain ⟨X,hX⟩ : ∃ X,X=max A j:=⟨_,rfl⟩
    have hQe : ∀ u,Q u=((match aw n lg ps goal T K u with|some a=>decide (a≤X)|none=>false) && (lg v u && (ps i v u && (decide (i < A) || decide (u=goal))))):=fun u=>by
     rw [hQ,hX,hK,← hj];rfl
    have mx1 : max (A : Int) (j : Int)=(X : Int):=by omega
    have mx2 : (if (j : Int) > (A : Int) then (j : Int) else (A : Int))=(X : Int):=by split<;>omega
    have mx3 : max (j : Int) (A : Int)=(X : Int):=by omega
    have hend:=yA hx1
    have hdn : ∀ c,lK Q n (c+1)=if Q (n - (c+1))=true then ((n - (c+1) : Nat) : Int) else lK Q n c:=fun c=>rfl
    have hd0 : lK Q n 0=-1:=rfl
    have hwn : IntKind.i64.wrap ((n : Int) - 1)=(n : Int) - 1:=bP
    have hLe:=(List.getElem?_eq_some_iff.1 hLi).2
    have hiL : i < L.length:=by omega
    clear hQ hX hx1 cA hFe
    rw [hj] at g22 hLl2 ⊢
    with_reducible repeat' (first|refine Sp.h ?_|((first|refine Ss.h ?_|(refine Sb.h ?_ ?_ ?_<;>(try intro hgd)<;>try exact Xy))<;>simp -implicitDefEqProofs (maxSteps:=2000000) [hP,hN,g6,b6,g1,g2,g3,g4,g5,g14,g15,g21,g22,g23,b38,b161,b27,hlt,hLl2,hLi,hLe,hiL,hij,hwn])|refine X2 ?_ ?_|(refine Xd ?_ ?_<;>intro hcd<;>try exact Xx))
    refine WP.loopN [27] n (fun c st=>st.t 6=.ptr 6 0∧st.h 6=some (.box [.pv (.sl (t.maps.map aV)),.pv (.sl (t.conf.map ba))] true false)∧st.t 1=.pv (.sl (plan.map zs))∧st.t 2=.pv (Z k)∧st.t 3=.pv (Z start)∧st.t 4=.pv (Z goal)∧st.t 5=.pv (Z T)∧st.t 14=.pv (Z n)∧st.t 15=.ext (.barr 38 M)∧st.t 21=.pv (Z A)∧st.t 22=.arr 161 j∧st.t 23=.pv (Z i)∧st.t 24=.pv (Z v)∧st.t 25=.pv (Z (lK Q n c))∧st.t 26=.pv (Z ((n : Int) - 1 - c))∧st.h 38=some (.box cs true false)∧st.h 161=some (.row 3 1 L 0)∧st.h 27=none) (by simp [g6,b6,g1,g2,g3,g4,g5,g14,g15,g21,g22,g23,b38,b161,hck,hd0]) ?_
    clear g6 b6 g1 g2 g3 g4 g5 g14 g15 g21 g22 g23 b38 b161 b27 st
    rintro c st hc ⟨g6,b6,g1,g2,g3,g4,g5,g14,g15,g21,g22,g23,g24,g25,g26,b38,b161,b27⟩
    by_cases hcn : c < n
    ·obtain ⟨u,hu⟩ : ∃ u,u=n - (c+1):=⟨_,rfl⟩
     have hun : u < n:=by omega
     rw [show (n : Int) - 1 - c=(u : Int) by omega] at g26
     have hwu : IntKind.i64.wrap ((u : Int) - 1)=(u : Int) - 1:=bP
     have hfin : (n : Int) - 1 - ((c : Int)+1)=(u : Int) - 1:=by omega
     have hu0 : 0≤(u : Int):=by omega
     have hd:=hdn c
     rw [← hu,hQe u] at hd
     have hru:=hrow u hun
     have hrul : u < rj.length:=by omega
     have cl':=cl v u
     have ca':=ca i v u (by omega)
     generalize lK Q n (c+1)=d2 at *
     generalize lK Q n c=d1 at *
     clear hrow hdn hQe hend
     cases hat : aw n lg ps goal T K u with
     |none=>
      rw [hat] at hru hd
      replace hru : rj[u]?=some (Z (-1)):=hru
      have hru' : ∀ h,rj[u]'h=Z (-1):=fun h=>(List.getElem?_eq_some_iff.1 hru).2
      simp only [Bool.false_and,Bool.false_eq_true,if_false] at hd
      subst hd
      with_reducible repeat' (first|refine Sp.h ?_|((first|refine Ss.h ?_|(refine Sb.h ?_ ?_ ?_<;>(try intro hgd)<;>try exact Xy))<;>simp -implicitDefEqProofs (maxSteps:=2000000) [hP,hN,g6,b6,g1,g2,g3,g4,g5,g14,g15,g21,g22,g23,g24,g25,g26,b38,b161,b27,hcn,hun,hwu,hfin,hu0,hwj,hjM,hjz,hcl,ck,ck',hru,hru',hrul,mx1,mx2,mx3])|refine X2 ?_ ?_|(refine Xd ?_ ?_<;>intro hcd<;>try exact Xx))
      all_goals first|exact hck _|exact ⟨hck _,hLsz.symm⟩|exact hLsz.symm
     |some a=>
      rw [hat] at hru hd
      replace hru : rj[u]?=some (Z ((a : Nat) : Int)):=hru
      have hru' : ∀ h,rj[u]'h=Z ((a : Nat) : Int):=fun h=>(List.getElem?_eq_some_iff.1 hru).2
      have ha0 : 0≤(a : Int):=by omega
      simp only at hd
      clear hat
      by_cases haX : a≤X
      ·have haz : (a : Int)≤(X : Int):=by omega
       simp only [haX,decide_true,Bool.true_and] at hd
       cases hlg : lg v u with
       |false=>
        rw [hlg] at cl'
        simp only [hlg,Bool.false_and,Bool.false_eq_true,if_false] at hd
        subst hd
        with_reducible repeat' (first|refine Sp.h ?_|((first|refine Ss.h ?_|refine Sc.h (cl') ?_|(refine Sb.h ?_ ?_ ?_<;>(try intro hgd)<;>try exact Xy))<;>simp -implicitDefEqProofs (maxSteps:=2000000) [hP,hN,g6,b6,g1,g2,g3,g4,g5,g14,g15,g21,g22,g23,g24,g25,g26,b38,b161,b27,hcn,hun,hwu,hfin,hu0,hwj,hjM,hjz,hcl,ck,ck',hru,hru',hrul,mx1,mx2,mx3,ha0,haz])|refine X2 ?_ ?_|(refine Xd ?_ ?_<;>intro hcd<;>try exact Xx))
        all_goals first|exact hck _|exact ⟨hck _,hLsz.symm⟩|exact hLsz.symm
       |true=>
        simp only [hlg,Bool.true_and] at hd
        rw [hlg] at cl'
        cases hps : ps i v u with
        |false=>
         rw [hps] at ca'
         simp only [hps,Bool.false_and,Bool.false_eq_true,if_false] at hd
         subst hd
         with_reducible repeat' (first|refine Sp.h ?_|((first|refine Ss.h ?_|refine Sc.h (cl') ?_|refine Sc.h (ca') ?_|(refine Sb.h ?_ ?_ ?_<;>(try intro hgd)<;>try exact Xy))<;>simp -implicitDefEqProofs (maxSteps:=2000000) [hP,hN,g6,b6,g1,g2,g3,g4,g5,g14,g15,g21,g22,g23,g24,g25,g26,b38,b161,b27,hcn,hun,hwu,hfin,hu0,hwj,hjM,hjz,hcl,ck,ck',hru,hru',hrul,mx1,mx2,mx3,ha0,haz])|refine X2 ?_ ?_|(refine Xd ?_ ?_<;>intro hcd<;>try exact Xx))
         all_goals first|exact hck _|exact ⟨hck _,hLsz.symm⟩|exact hLsz.symm
        |true=>
         rw [hps] at ca'
         simp only [hps,Bool.true_and] at hd
         by_cases hiA : i < A
         ·have hiAz : (i : Int) < (A : Int):=by omega
          simp only [hiA,decide_true,Bool.true_or,if_true] at hd
          subst hd
          with_reducible repeat' (first|refine Sp.h ?_|((first|refine Ss.h ?_|refine Sc.h (cl') ?_|refine Sc.h (ca') ?_|(refine Sb.h ?_ ?_ ?_<;>(try intro hgd)<;>try exact Xy))<;>simp -implicitDefEqProofs (maxSteps:=2000000) [hP,hN,g6,b6,g1,g2,g3,g4,g5,g14,g15,g21,g22,g23,g24,g25,g26,b38,b161,b27,hcn,hun,hwu,hfin,hu0,hwj,hjM,hjz,hcl,ck,ck',hru,hru',hrul,mx1,mx2,mx3,ha0,haz,hiA,hiAz])|refine X2 ?_ ?_|(refine Xd ?_ ?_<;>intro hcd<;>try exact Xx))
          all_goals first|exact hck _|exact ⟨hck _,hLsz.symm⟩|exact hLsz.symm
         ·have hiAz : ¬ (i : Int) < (A : Int):=by omega
          simp only [hiA,decide_false,Bool.false_or] at hd
          by_cases hug : u=goal
          ·simp only [hug,decide_true,if_true] at hd
           have hugz : (u : Int)=(goal : Int):=by omega
           have hugz2 : ((u : Int)==(goal : Int))=true:=by simp [hugz]
           subst hd
           subst hug
           with_reducible repeat' (first|refine Sp.h ?_|((first|refine Ss.h ?_|refine Sc.h (cl') ?_|refine Sc.h (ca') ?_|(refine Sb.h ?_ ?_ ?_<;>(try intro hgd)<;>try exact Xy))<;>simp -implicitDefEqProofs (maxSteps:=2000000) [hP,hN,g6,b6,g1,g2,g3,g4,g5,g14,g15,g21,g22,g23,g24,g25,g26,b38,b161,b27,hcn,hun,hwu,hfin,hu0,hwj,hjM,hjz,hcl,ck,ck',hru,hru',hrul,mx1,mx2,mx3,ha0,haz,hiA,hiAz])|refine X2 ?_ ?_|(refine Xd ?_ ?_<;>intro hcd<;>try exact Xx))
           all_goals first|exact hck _|exact ⟨hck _,hLsz.symm⟩|exact hLsz.symm
          ·simp only [hug,decide_false,Bool.false_eq_true,if_false] at hd
           have hugz : ¬ (u : Int)=(goal : Int):=by omega
           subst hd
           with_reducible repeat' (first|refine Sp.h ?_|((first|refine Ss.h ?_|refine Sc.h (cl') ?_|refine Sc.h (ca') ?_|(refine Sb.h ?_ ?_ ?_<;>(try intro hgd)<;>try exact Xy))<;>simp -implicitDefEqProofs (maxSteps:=2000000) [hP,hN,g6,b6,g1,g2,g3,g4,g5,g14,g15,g21,g22,g23,g24,g25,g26,b38,b161,b27,hcn,hun,hwu,hfin,hu0,hwj,hjM,hjz,hcl,ck,ck',hru,hru',hrul,mx1,mx2,mx3,ha0,haz,hiA,hiAz,hug,hugz])|refine X2 ?_ ?_|(refine Xd ?_ ?_<;>intro hcd<;>try exact Xx))
           all_goals first|exact hck _|exact ⟨hck _,hLsz.symm⟩|exact hLsz.symm
      ·have haz : ¬ (a : Int)≤(X : Int):=by omega
       simp only [haX,decide_false,Bool.false_and,Bool.false_eq_true,if_false] at hd
       subst hd
       with_reducible repeat' (first|refine Sp.h ?_|((first|refine Ss.h ?_|(refine Sb.h ?_ ?_ ?_<;>(try intro hgd)<;>try exact Xy))<;>simp -implicitDefEqProofs (maxSteps:=2000000) [hP,hN,g6,b6,g1,g2,g3,g4,g5,g14,g15,g21,g22,g23,g24,g25,g26,b38,b161,b27,hcn,hun,hwu,hfin,hu0,hwj,hjM,hjz,hcl,ck,ck',hru,hru',hrul,mx1,mx2,mx3,ha0,haz])|refine X2 ?_ ?_|(refine Xd ?_ ?_<;>intro hcd<;>try exact Xx))
       all_goals first|exact hck _|exact ⟨hck _,hLsz.symm⟩|exact hLsz.symm
    ·have hcn2 : c=n:=by omega
     rw [hcn2,hend] at g25
     have hneg : ¬ 0≤(n : Int) - 1 - c:=by omega
     have hneg2 : (n : Int) - 1 - c < 0:=by omega
     with_reducible repeat' (first|refine Sp.h ?_|((first|refine Ss.h ?_|(refine Sb.h ?_ ?_ ?_<;>(try intro hgd)<;>try exact Xy))<;>simp -implicitDefEqProofs (maxSteps:=2000000) [hP,hN,g6,b6,g1,g2,g3,g4,g5,g14,g15,g21,g22,g23,g24,g25,g26,b38,b161,b27,hneg,hneg2,hLl2,hj,hwj,show (j+1) * 8≤140737488355328 by omega,show j≤9223372036854775806 by omega,show j+1≤9223372036854775807 by omega])|refine X2 ?_ ?_|(refine Xd ?_ ?_<;>intro hcd<;>try exact Xx))
     all_goals first|exact hck _|exact ⟨hck _,hLsz.symm⟩|exact hLsz.symm
   ·have hiT : i=T:=by omega
    subst hiT
    have hLl : ((fA n lg ps start goal i A (i+1)).map Z).length=i+1:=by rw [List.length_map,p5]
    rw [show zs (fA n lg ps start goal i A (i+1))=.sl ((fA n lg ps start goal i A (i+1)).map Z) from rfl]
    have hLm : ∀ x ∈ (fA n lg ps start goal i A (i+1)).map Z,∃ v,x=.val v:=fun x hx=>by
     obtain ⟨v,_,rfl⟩:=List.mem_map.1 hx;exact ⟨_,rfl⟩
    generalize (fA n lg ps start goal i A (i+1)).map Z=L at *
    with_reducible repeat' (first|refine Sp.h ?_|((first|refine Ss.h ?_|(refine Sb.h ?_ ?_ ?_<;>(try intro hgd)<;>try exact Xy))<;>simp -implicitDefEqProofs (maxSteps:=2000000) [hP,hN,g6,b6,g1,g2,g3,g4,g5,g14,g15,g21,g22,g23,b38,b161,hlt,hLl])|refine X2 ?_ ?_|(refine Xd ?_ ?_<;>intro hcd<;>try exact Xx))
    all_goals (rw [if_pos (by intro x hx;obtain ⟨v,rfl⟩:=hLm x hx;rfl)])
end Go.Ab
namespace Go.Ab
open Go.Proofs
theorem lb {order : List Int} {n : Nat} (h : bJ order n=true) : order.Nodup∧∀ x ∈ order,0≤x∧x < n:=by
 simp only [bJ,Bool.and_eq_true,decide_eq_true_eq,List.all_eq_true,List.mem_range,List.contains_iff_mem] at h
 exact n6 n order (by omega) h.2
theorem yx {order : List Int} {n : Nat} (hl : order.length=n) (hd : order.Nodup) (hr : ∀ x ∈ order,0≤x∧x < n) : bJ order n=true:=by
 simp only [bJ,Bool.and_eq_true,decide_eq_true_eq,List.all_eq_true,List.mem_range,List.contains_iff_mem]
 refine ⟨hl,fun k hk=>?_⟩
 refine Classical.byContradiction fun hno=>?_
 have h1 : (k :: order.map Int.toNat).Nodup:=by
  rw [List.nodup_cons]
  refine ⟨fun hm=>?_,?_⟩
  ·obtain ⟨x,hx,he⟩:=List.mem_map.1 hm
   have:=(hr x hx).1
   exact hno (by rw [← he,Int.toNat_of_nonneg this];exact hx)
  ·show List.Pairwise _ _
   rw [List.pairwise_map]
   refine List.Pairwise.imp_of_mem (fun {a b} ha hb hab=>?_) hd
   have:=hr a ha;have:=hr b hb
   omega
 have h2:=lI (n:=n) h1 (fun v hv=>by
  rcases List.mem_cons.1 hv with rfl|hv
  ·exact hk
  ·obtain ⟨x,hx,rfl⟩:=List.mem_map.1 hv
   have:=hr x hx;omega)
 simp at h2;omega
structure PmQ (order : List Int) (n i : Nat) : Prop where
 nd : (order.take i).Nodup
 rg : ∀ x ∈ order.take i,0≤x∧x < n
theorem PmQ.zero (order : List Int) (n : Nat) : PmQ order n 0:=⟨by simp,by simp⟩
theorem PmQ.next {order : List Int} {n i : Nat} {x : Int} (h : PmQ order n i) (hx : order[i]?=some x) (h1 : 0≤x∧x < n) (h2 : (order.take i).contains x=false) : PmQ order n (i+1):=by
 obtain ⟨hlt,he⟩:=List.getElem?_eq_some_iff.1 hx
 have ht : order.take (i+1)=order.take i++[x]:=by rw [List.take_succ_eq_append_getElem hlt,he]
 refine ⟨?_,?_⟩
 ·rw [ht,List.nodup_append]
  refine ⟨h.nd,by simp,fun a ha b hb=>?_⟩
  rw [List.mem_singleton] at hb
  subst hb
  rintro rfl
  have : (order.take i).contains a=true:=List.contains_iff_mem.2 ha
  rw [this] at h2;cases h2
 ·rw [ht]
  intro y hy
  rcases List.mem_append.1 hy with hy|hy
  ·exact h.rg y hy
  ·rw [List.mem_singleton] at hy;subst hy;exact h1
theorem rN {order : List Int} {n i : Nat} {x : Int} (hx : order[i]?=some x) (h1 : ¬ (0≤x∧x < n)) : bJ order n=false:=by
 rw [← Bool.not_eq_true];intro h
 exact h1 ((lb h).2 x (List.mem_of_getElem? hx))
theorem sO {order : List Int} {n i : Nat} {x : Int} (hx : order[i]?=some x) (h2 : (order.take i).contains x=true) : bJ order n=false:=by
 rw [← Bool.not_eq_true];intro h
 have hd:=(lb h).1
 obtain ⟨hlt,he⟩:=List.getElem?_eq_some_iff.1 hx
 rw [← List.take_append_drop i order,List.nodup_append] at hd
 refine hd.2.2 x (List.contains_iff_mem.1 h2) x ?_ rfl
 rw [List.drop_eq_getElem_cons hlt,he];simp
theorem yn {order : List Int} {n i : Nat} (h : PmQ order n i) (hi : ¬ i < order.length) : bJ order n=decide (order.length=n):=by
 have hd:=h.nd;have hr:=h.rg
 rw [List.take_of_length_le (by omega)] at hd hr
 by_cases e : order.length=n
 ·rw [yx e hd hr,decide_eq_true e]
 ·rw [decide_eq_false e,← Bool.not_eq_true];intro h9
  simp only [bJ,Bool.and_eq_true,decide_eq_true_eq] at h9
  exact e h9.1
theorem po {order : List Int} {i : Nat} {x : Int} (hx : order[i]?=some x) (y : Int) : (order.take (i+1)).contains y=((order.take i).contains y || x==y):=by
 obtain ⟨hlt,he⟩:=List.getElem?_eq_some_iff.1 hx
 rw [List.take_succ_eq_append_getElem hlt,he,List.contains_append]
 congr 1
 rw [List.contains_cons,List.contains_nil,Bool.or_false,Bool.eq_iff_iff,beq_iff_eq,beq_iff_eq];exact eq_comm
theorem yZ (order : List Int) (n : Nat) (hl : order.length≤9223372036854775807) (hn : n≤1000) : am Try.prog 49 [.pv (zs order),.pv (Z n)] [] [] (.pv (B (bJ order n))):=by
 obtain ⟨R,hR⟩ : ∃ R,bJ order n=R:=⟨_,rfl⟩
 rw [hR]
 refine Dp Try.func49 ?_
 intro C hP hN
 simp only [Try.f49] at hN ⊢
 with_reducible repeat' (first|refine Sp.h ?_|((first|refine Wh [8] ?_|refine Ss.h ?_|(refine Sb.h ?_ ?_ ?_<;>(try intro hgd)<;>try exact Xy))<;>simp -implicitDefEqProofs (maxSteps:=2000000) [hP,hN,show (n : Int)≤281474976710656 by omega,show (n : Int)≤9223372036854775807 by omega])|refine X2 ?_ ?_|(refine Xd ?_ ?_<;>intro hcd<;>try exact Xx))
 refine WP.loopN [] order.length (fun i st=>st.t 0=.pv (zs order)∧st.t 1=.pv (Z n)∧st.t 5=.arr 8 n∧st.t 6=.pv (Z i)∧st.h 8=some (.row 4 1 (bl n fun x=>(order.take i).contains (x : Int)) 0)∧PmQ order n i) (by simp [jV,PmQ.zero]) ?_
 rintro i st hi ⟨g0,g1,g5,g6,b8,hq⟩
 by_cases hlt : i < order.length
 ·have hw:=ak hlt hl
  have hai:=bG hlt
  have hnx:=fun h1 h2=>hq.next hai h1 h2
  have hbr:=fun h1=>rN (n:=n) hai h1
  have hbd:=fun h2=>sO (n:=n) hai h2
  have htk:=po hai
  rw [hR] at hbr hbd
  generalize hz : order[i]=z at *
  by_cases h0 : 0≤z∧z < n
  ·obtain ⟨v,rfl⟩ : ∃ v : Nat,z=v:=⟨z.toNat,by omega⟩
   have hvn : v < n:=by omega
   have hvz : ¬ (n : Int)≤(v : Int):=by omega
   have hv0 : ¬ (v : Int) < 0:=by omega
   have hrow:=lz (fun x=>(order.take i).contains (x : Int)) hvn
   have hrl : (bl n fun x=>(order.take i).contains (x : Int)).length=n:=fa _ _
   have hset : (bl n fun x=>(order.take i).contains (x : Int)).set v (B true)=bl n fun x=>(order.take (i+1)).contains (x : Int):=lA hvn (by rw [htk];simp) (fun x _ hx=>by rw [htk,show ((v : Int)==(x : Int))=false from by rw [beq_eq_false_iff_ne];omega,Bool.or_false])
   generalize bl n (fun x=>(order.take (i+1)).contains (x : Int))=r2 at *
   generalize bl n (fun x=>(order.take i).contains (x : Int))=r1 at *
   cases hc : (order.take i).contains (v : Int) with
   |true=>
    simp only [hc] at hrow
    have hrow' : ∀ h,r1[v]'h=B true:=fun h=>(List.getElem?_eq_some_iff.1 hrow).2
    rw [hbd hc]
    with_reducible repeat' (first|refine Sp.h ?_|((first|refine Ss.h ?_|(refine Sb.h ?_ ?_ ?_<;>(try intro hgd)<;>try exact Xy))<;>simp -implicitDefEqProofs (maxSteps:=2000000) [hP,hN,g0,g1,g5,g6,b8,hlt,hw,hai,hz,hvn,hvz,hv0,hrow,hrow',hrl])|refine X2 ?_ ?_|(refine Xd ?_ ?_<;>intro hcd<;>try exact Xx))
   |false=>
    simp only [hc] at hrow
    have hrow' : ∀ h,r1[v]'h=B false:=fun h=>(List.getElem?_eq_some_iff.1 hrow).2
    have hn9:=hnx h0 hc
    with_reducible repeat' (first|refine Sp.h ?_|((first|refine Ss.h ?_|(refine Sb.h ?_ ?_ ?_<;>(try intro hgd)<;>try exact Xy))<;>simp -implicitDefEqProofs (maxSteps:=2000000) [hP,hN,g0,g1,g5,g6,b8,hlt,hw,hai,hz,hvn,hvz,hv0,hrow,hrow',hrl,hset])|refine X2 ?_ ?_|(refine Xd ?_ ?_<;>intro hcd<;>try exact Xx))
    all_goals exact hn9
  ·rw [hbr h0]
   by_cases h1 : z < 0
   ·skip
    with_reducible repeat' (first|refine Sp.h ?_|((first|refine Ss.h ?_|(refine Sb.h ?_ ?_ ?_<;>(try intro hgd)<;>try exact Xy))<;>simp -implicitDefEqProofs (maxSteps:=2000000) [hP,hN,g0,g1,g5,g6,b8,hlt,hw,hai,hz,h1])|refine X2 ?_ ?_|(refine Xd ?_ ?_<;>intro hcd<;>try exact Xx))
   ·have h2 : (n : Int)≤z:=by omega
    have h3 : ¬ z < n:=by omega
    with_reducible repeat' (first|refine Sp.h ?_|((first|refine Ss.h ?_|(refine Sb.h ?_ ?_ ?_<;>(try intro hgd)<;>try exact Xy))<;>simp -implicitDefEqProofs (maxSteps:=2000000) [hP,hN,g0,g1,g5,g6,b8,hlt,hw,hai,hz,h1,h2,h3])|refine X2 ?_ ?_|(refine Xd ?_ ?_<;>intro hcd<;>try exact Xx))
 ·rw [yn hq hlt] at hR
  rw [← hR]
  by_cases e : order.length=n
  ·have ez : ((order.length : Nat) : Int)=(n : Int):=by omega
   with_reducible repeat' (first|refine Sp.h ?_|((first|refine Ss.h ?_|(refine Sb.h ?_ ?_ ?_<;>(try intro hgd)<;>try exact Xy))<;>simp -implicitDefEqProofs (maxSteps:=2000000) [hP,hN,g0,g1,g5,g6,b8,hlt,e,ez])|refine X2 ?_ ?_|(refine Xd ?_ ?_<;>intro hcd<;>try exact Xx))
  ·have ez : ¬ ((order.length : Nat) : Int)=(n : Int):=by omega
   with_reducible repeat' (first|refine Sp.h ?_|((first|refine Ss.h ?_|(refine Sb.h ?_ ?_ ?_<;>(try intro hgd)<;>try exact Xy))<;>simp -implicitDefEqProofs (maxSteps:=2000000) [hP,hN,g0,g1,g5,g6,b8,hlt,e,ez])|refine X2 ?_ ?_|(refine Xd ?_ ?_<;>intro hcd<;>try exact Xx))
end Go.Ab
namespace Go.Ab
open Go.Proofs
theorem rH {t : aU} {plan : List (List Int)} {k start goal ticks : Nat} {l : List Int} (h : er t plan k start goal ticks=some l) : l.length=ticks+1:=by
 unfold er at h
 simp only [Option.map_eq_some_iff] at h
 obtain ⟨A,_,rfl⟩:=h
 simp
set_option maxRecDepth 20000 in
theorem y4 (t : aU) (starts goals order : List Int) (ticks : Int) (ht : TmOk t) (hl : order.length≤9223372036854775807) : am Try.prog 33 [.pv (bR t),.pv (zs starts),.pv (zs goals),.pv (zs order),.pv (Z ticks)] [] [] (.pv (r8 (la t starts goals order ticks))):=by
 have cc:=vP t ht
 have cs:=yT t starts ht
 have cg:=yT t goals ht
 have cp:=fun (h : t.maps.length≤1000)=>yZ order t.maps.length hl h
 by_cases hpre : gS t starts goals order ticks=true
 ·obtain ⟨hchk,hcf,hs,hg,htk,hpm,hpos⟩:=dU hpre
  rw [hchk] at cc;rw [hs] at cs;rw [hg] at cg;rw [hpm] at cp
  obtain ⟨T,rfl⟩ : ∃ T : Nat,ticks=T:=⟨ticks.toNat,by omega⟩
  have hcf2:=hchk
  simp only [aG,Bool.and_eq_true,decide_eq_true_eq] at hcf2
  obtain ⟨_,hn4,hcl,hwell,_⟩:=hcf2
  have cp:=cp (by omega)
  have t1 : ¬ (T : Int) < 1:=by omega
  have t2 : ¬ (64 : Int) < (T : Int):=by omega
  obtain ⟨n,hn⟩ : ∃ n,n=t.maps.length:=⟨_,rfl⟩
  obtain ⟨ks,hks⟩ : ∃ ks,ks=order.map Int.toNat:=⟨_,rfl⟩
  obtain ⟨step,hstep⟩ : ∃ step,step=fun plan k=>er t plan k (aP starts k) (aP goals k) T:=⟨_,rfl⟩
  have hPl : la t starts goals order T=(bD step ks (List.replicate n [])).map bE:=by
   rw [la,if_pos hpre,hstep,hks,hn];rfl
  have hnd:=sF hpm
  have hkl:=gf hpm
  rw [← hks] at hnd hkl
  rw [hPl]
  have q1 : ((n : Int)) * 24≤281474976710656:=by omega
  have q2 : (24 * (n : Int))≤281474976710656:=by omega
  have q3 : (n : Int)≤9223372036854775807:=by omega
  obtain ⟨rs,hrs⟩ : ∃ rs,rs=List.replicate n bf:=⟨_,rfl⟩
  have hol : order.length=n:=by
   have:=hpm
   simp only [bJ,Bool.and_eq_true,decide_eq_true_eq] at this
   rw [hn];exact this.1
  rw [← hn] at cp
  obtain ⟨RES,hRES⟩ : ∃ RES,bD step ks (List.replicate n [])=RES:=⟨_,rfl⟩
  rw [hRES]
  have hsl : starts.length=n:=by simp only [bL,Bool.and_eq_true,decide_eq_true_eq] at hs;rw [hn];exact hs.1
  have hgl : goals.length=n:=by simp only [bL,Bool.and_eq_true,decide_eq_true_eq] at hg;rw [hn];exact hg.1
  refine Dp Try.func33 ?_
  intro C hP hN
  simp only [Try.f33] at hN ⊢
  with_reducible repeat' (first|refine Sp.h ?_|((first|refine Wh [1000053] ?_|refine Wi [1000053] ?_|refine Ss.h ?_|refine Sc.h (cc) ?_|refine Sc.h (cs) ?_|refine Sc.h (cg) ?_|refine Sc.h (cp) ?_|(refine Sb.h ?_ ?_ ?_<;>(try intro hgd)<;>try exact Xy))<;>simp -implicitDefEqProofs (maxSteps:=2000000) [hP,hN,t1,t2,hn.symm,q1,q2,q3,← hrs,hol]<;>try refine Ya ?_)|refine X2 ?_ ?_|(refine Xd ?_ ?_<;>intro hcd<;>try exact Xx))
  rw [hrs,rr]
  refine WP.loopN [] n (fun j st=>st.t 5=.ptr 5 0∧st.h 5=some (.box [.pv (.sl (t.maps.map aV)),.pv (.sl (t.conf.map ba))] true false)∧st.t 1=.pv (zs starts)∧st.t 2=.pv (zs goals)∧st.t 3=.pv (zs order)∧st.t 4=.pv (Z T)∧st.t 12=.ext (.barr 53 n)∧st.t 13=.pv (Z j)∧∃ pl,st.h 53=some (.box (dC pl) true false)∧PIn t T ks j pl∧bD step (ks.drop j) pl=RES) (by
   simp [kA]
   exact ⟨_,rfl,by rw [hn];exact PIn.init hkl,hRES⟩) ?_
  rintro j st hj ⟨g5,b5,g1,g2,g3,g4,g12,g13,pl,b52,hin,hgo⟩
  by_cases hlt : j < n
  ·have hwj:=ak hlt (by omega)
   have hjo : j < order.length:=by omega
   have haj:=bG hjo
   have hksj : ks[j]?=some order[j].toNat:=by rw [hks,List.getElem?_map,haj];rfl
   have hk:=hkl _ (List.mem_of_getElem? hksj)
   have hz0 : 0≤order[j]:=((lb hpm).2 _ (List.getElem_mem hjo)).1
   generalize hzj : order[j]=z at *
   obtain ⟨k,rfl⟩ : ∃ k : Nat,z=k:=⟨z.toNat,by omega⟩
   rw [Int.toNat_natCast] at hksj hk
   have hkn : k < n:=by omega
   have hdrop : ks.drop j=k :: ks.drop (j+1):=by
    have hjk:=(List.getElem?_eq_some_iff.1 hksj)
    rw [List.drop_eq_getElem_cons hjk.1,hjk.2]
   rw [hdrop,bD] at hgo
   have hxi : t.maps[k]?=some t.maps[k]:=List.getElem?_eq_getElem hk
   have hwl : aS t.maps[k]=true:=List.all_eq_true.1 hwell _ (List.getElem_mem hk)
   have hsk:=bb hs hk
   have hgk:=bb hg hk
   have e1:=(fJ hxi).1
   have hw9:=hwl
   simp only [aS,Bool.and_eq_true,decide_eq_true_eq] at hw9
   rw [e1] at hsk hgk
   have c3:=yY t pl k (aP starts k) (aP goals k) T _ ht (fun l hl=>by
    rcases hin.ok.2 l hl with h|h
    ·rw [h];decide
    ·omega) (by rw [hin.ok.1];omega) hxi hw9.1 hsk hgk (by omega)
   rw [show er t pl k (aP starts k) (aP goals k) T=step pl k by rw [hstep]] at c3
   have hks1 : k < starts.length:=by omega
   have hkg1 : k < goals.length:=by omega
   have hsz:=lD hs hk
   have hgz:=lD hg hk
   have hsz' : ∀ h,starts[k]'h=((aP starts k : Nat) : Int):=fun h=>(List.getElem?_eq_some_iff.1 hsz).2
   have hgz' : ∀ h,goals[k]'h=((aP goals k : Nat) : Int):=fun h=>(List.getElem?_eq_some_iff.1 hgz).2
   have hfz:=fun h=>o8 h pl
   have hrf:=n8 pl
   have hcl9 : (dC pl).length=n:=by rw [sH,hin.ok.1,hn]
   have hsetC:=fun (l : List Int) (h : l≠[])=>sI (pl:=pl) (k:=k) h
   have hkz : (k : Int) < (n : Int):=by omega
   have hk1n : k+1≤n:=by omega
   have hspl : ∀ x,(dC pl).take k++x :: (dC pl).drop (k+1)=(dC pl).set k x:=fun x=>ce (by omega)
   have hstl:=fun l (h : step pl k=some l)=>rH (t:=t) (by rw [hstep] at h;exact h)
   have hckk:=fun ks=>kA ks pl
   generalize aP starts k=s0 at *
   generalize aP goals k=g0 at *
   generalize hst : step pl k=sr at *
   cases sr with
   |none=>
    generalize dC pl=cs at *
    have : RES=none:=hgo.symm
    subst this
    with_reducible repeat' (first|refine Sp.h ?_|((first|refine Wd ?_|refine Ss.h ?_|refine Sc.h (c3) ?_|(refine Sb.h ?_ ?_ ?_<;>(try intro hgd)<;>try exact Xy))<;>simp -implicitDefEqProofs (maxSteps:=2000000) [hP,hN,g5,b5,g1,g2,g3,g4,g12,g13,b52,hlt,haj,hjo,hzj,hk,hkn,hks1,hkg1,hsz,hgz,hsz',hgz',hfz,hrf,hcl9,hol]<;>try refine Ya ?_)|refine X2 ?_ ?_|(refine Xd ?_ ?_<;>intro hcd<;>try exact Xx))
    all_goals skip
   |some l=>
    have hll:=hstl l rfl
    have hl0 : l≠[]:=by intro e;subst e;simp at hll
    have hin':=hin.set hnd hksj hll
    have hsetC':=hsetC l hl0
    obtain ⟨cs,hcs⟩ : ∃ cs,cs=dC pl:=⟨_,rfl⟩
    rw [← hcs] at hfz hrf hcl9 hspl hckk hsetC' b52
    with_reducible repeat' (first|refine Sp.h ?_|((first|refine Wd ?_|refine Ss.h ?_|refine Sc.h (c3) ?_|(refine Sb.h ?_ ?_ ?_<;>(try intro hgd)<;>try exact Xy))<;>simp -implicitDefEqProofs (maxSteps:=2000000) [hP,hN,g5,b5,g1,g2,g3,g4,g12,g13,b52,hlt,haj,hjo,hzj,hk,hkn,hks1,hkg1,hsz,hgz,hsz',hgz',hfz,hrf,hcl9,hkz,hk1n,hspl,hwj,hol]<;>try refine Ya ?_)|refine X2 ?_ ?_|(refine Xd ?_ ?_<;>intro hcd<;>try exact Xx))
    exact ⟨pl.set k l,by rw [hckk,hsetC'],hin',hgo⟩
  ·have hjn : j=n:=by omega
   subst hjn
   have hkl9 : ks.length=j:=by rw [hks,List.length_map,hol]
   rw [List.drop_of_length_le (by omega)] at hgo
   have hR : RES=some pl:=hgo.symm
   subst hR
   have hpl : pl.length=j:=by rw [hin.ok.1,hn]
   have full : ∀ k,k < j→∃ l,pl[k]?=some l∧l.length=T+1:=fun k hk=>by
    have hm:=fq hpm k (by omega)
    rw [← hks] at hm
    obtain ⟨i,hi⟩:=List.mem_iff_getElem?.1 hm
    obtain ⟨l,h1,h2⟩:=hin.done i (by have:=(List.getElem?_eq_some_iff.1 hi).1;omega) k hi
    rcases hin.ok.2 l (List.mem_of_getElem? h1) with h|h
    ·exact absurd h h2
    ·exact ⟨l,h1,h⟩
   have hL:=rq (pl:=pl) (T:=T) (by omega) (fun l hl=>by
    rcases hin.ok.2 l hl with h|h
    ·rw [h];exact Nat.zero_le _
    ·omega)
   have hlen0 : ∀ l ∈ pl,l≠[]:=fun l hl=>by
    obtain ⟨k,hk⟩:=List.mem_iff_getElem?.1 hl
    obtain ⟨l',h1,h2⟩:=full k (by have:=(List.getElem?_eq_some_iff.1 hk).1;omega)
    rw [hk] at h1;injection h1 with h1;subst h1
    intro e;subst e;simp at h2
   rw [o1 (L:=aY pl+1) hlen0] at b52
   have htr : (bE pl).map zs=(List.range j).map fun w=>zs (((pl[w]?).getD []).take (aY pl+1)):=by
    rw [bE,← hpl]
    apply List.ext_getElem?
    intro w
    by_cases hw : w < pl.length
    ·simp [hw]
    ·simp [hw]
   rw [Option.map_some]
   show WP C _ (_ : Exit→St→Prop) st
   rw [show r8 (some (bE pl))=.tup [.sl ((List.range j).map fun w=>zs (((pl[w]?).getD []).take (aY pl+1))),B true] by rw [← htr]]
   have hfe:=tH pl
   rw [hpl,show pl.foldl (fun m l=>max m (aH l)) 1=aY pl from rfl] at hfe
   generalize aY pl=L at *
   obtain ⟨L1,hL1⟩ : ∃ L1,L1=L+1:=⟨_,rfl⟩
   rw [← hL1] at b52 ⊢
   have hwL : IntKind.i64.wrap ((L : Int)+1)=(L1 : Int):=by rw [IntKind.wrap_i64];omega
   obtain ⟨c0,hc0⟩ : ∃ c0,c0=dB pl L1 0:=⟨_,rfl⟩
   have hck0 : ∀ ks,c0.map (bc ks)=c0:=fun ks=>by rw [hc0];exact n9 ks pl L1 0
   have hc0l : c0.length=j:=by rw [hc0,o9,hpl]
   rw [← hc0] at b52
   with_reducible repeat' (first|refine Sp.h ?_|((first|refine Wd ?_|refine Ss.h ?_|(refine Sb.h ?_ ?_ ?_<;>(try intro hgd)<;>try exact Xy))<;>simp -implicitDefEqProofs (maxSteps:=2000000) [hP,hN,g5,b5,g3,g12,g13,b52,hlt,hol]<;>try refine Ya ?_)|refine X2 ?_ ?_|(refine Xd ?_ ?_<;>intro hcd<;>try exact Xx))
   refine WP.loopN [] j (fun c st=>st.t 12=.ext (.barr 53 j)∧st.t 17=.pv (Z (fM pl c))∧st.t 18=.pv (Z c)∧st.h 53=some (.box c0 true false)) (by simp [hck0,g12,b52,sL]) ?_
   clear g5 b5 g1 g2 g3 g4 g12 g13 b52 st
   rintro c st hc ⟨g12,g17,g18,b52⟩
   by_cases hcj : c < j
   ·have hwc:=ak hcj (by omega)
    obtain ⟨l,hx,hll⟩:=full c hcj
    have hat : c0[c]?=some (.pv (zs l)):=by obtain ⟨h1,h2⟩:=List.getElem?_eq_some_iff.1 hx;rw [hc0];simp [dB,h1,h2]
    have hat' : ∀ h,c0[c]'h=.pv (zs l):=fun h=>(List.getElem?_eq_some_iff.1 hat).2
    have hcz : (c : Int) < (j : Int):=by omega
    have c4:=tL l (by omega)
    have hfs:=sM (q:=pl) (i:=c) (by omega)
    rw [(List.getElem?_eq_some_iff.1 hx).2] at hfs
    generalize fM pl (c+1)=m1 at *
    generalize fM pl c=m0 at *
    with_reducible repeat' (first|refine Sp.h ?_|((first|refine Wd ?_|refine Ss.h ?_|refine Sc.h (c4) ?_|(refine Sb.h ?_ ?_ ?_<;>(try intro hgd)<;>try exact Xy))<;>simp -implicitDefEqProofs (maxSteps:=2000000) [hP,hN,g12,g17,g18,b52,hcj,hwc,hat,hat',hcz,hc0l,hck0]<;>try refine Ya ?_)|refine X2 ?_ ?_|(refine Xd ?_ ?_<;>intro hcd<;>try exact Xx))
    all_goals first|(rw [hfs];split<;>omega)|trace_state
   ·have hcj2 : c=j:=by omega
    rw [hcj2,hfe] at g17
    with_reducible repeat' (first|refine Sp.h ?_|((first|refine Wd ?_|refine Ss.h ?_|(refine Sb.h ?_ ?_ ?_<;>(try intro hgd)<;>try exact Xy))<;>simp -implicitDefEqProofs (maxSteps:=2000000) [hP,hN,g12,g17,g18,b52,hcj,hc0l]<;>try refine Ya ?_)|refine X2 ?_ ?_|(refine Xd ?_ ?_<;>intro hcd<;>try exact Xx))
    refine WP.loopN [] j (fun c st=>st.t 12=.ext (.barr 53 j)∧st.t 17=.pv (Z L)∧st.t 19=.pv (Z c)∧st.h 53=some (.box (dB pl L1 c) true false)) (by simp [n9,g12,g17,b52,hc0]) ?_
    clear g12 g17 g18 b52 st
    clear hcj2 hcj hc c
    rintro c st hc ⟨g12,g13,g19,b52⟩
    have hckk:=fun ks=>n9 ks pl L1 c
    have hcl9 : (dB pl L1 c).length=j:=by rw [o9,hpl]
    by_cases hcl : c < j
    ·have hwc:=ak hcl (by omega)
     obtain ⟨l,hx,hll⟩:=full c hcl
     have hat:=tF (L:=L1) hx
     have hset:=sJ (L:=L1) hx
     obtain ⟨cs,hcs⟩ : ∃ cs,cs=dB pl L1 c:=⟨_,rfl⟩
     rw [← hcs] at hat hset b52 hckk hcl9
     have hat' : ∀ h,cs[c]'h=.pv (zs l):=fun h=>(List.getElem?_eq_some_iff.1 hat).2
     have hspl : ∀ x,cs.take c++x :: cs.drop (c+1)=cs.set c x:=fun x=>ce (by omega)
     have hc1 : c+1≤j:=by omega
     have hcz : (c : Int) < (j : Int):=by omega
     have hL2 : L1≤l.length:=by omega
     have hL3 : (L1 : Int)≤(l.length : Int):=by omega
     have hzt : (zs (l.take L1))=.sl ((l.map Z).take L1):=by rw [zs,List.map_take]
     with_reducible repeat' (first|refine Sp.h ?_|((first|refine Wd ?_|refine Ss.h ?_|(refine Sb.h ?_ ?_ ?_<;>(try intro hgd)<;>try exact Xy))<;>simp -implicitDefEqProofs (maxSteps:=2000000) [hP,hN,g12,g13,g19,b52,hcl,hwc,hat,hat',hspl,hc1,hcz,hcl9,hwL,hL2,hL3,t7 hL2]<;>try refine Ya ?_)|refine X2 ?_ ?_|(refine Xd ?_ ?_<;>intro hcd<;>try exact Xx))
     rw [hckk,hset]
    ·have hcj : c=j:=by omega
     subst hcj
     have hfz:=fun h=>sK h pl L1
     rw [hpl] at hfz
     obtain ⟨cs,hcs⟩ : ∃ cs,cs=dB pl L1 c:=⟨_,rfl⟩
     rw [← hcs] at hfz b52 hckk hcl9
     with_reducible repeat' (first|refine Sp.h ?_|((first|refine Wd ?_|refine Ss.h ?_|(refine Sb.h ?_ ?_ ?_<;>(try intro hgd)<;>try exact Xy))<;>simp -implicitDefEqProofs (maxSteps:=2000000) [hP,hN,g12,g13,g19,b52,hcl,hcl9,hfz]<;>try refine Ya ?_)|refine X2 ?_ ?_|(refine Xd ?_ ?_<;>intro hcd<;>try exact Xx))
 ·have hnone : la t starts goals order ticks=none:=by rw [la,if_neg hpre]
  rw [hnone]
  have hpre' : ¬ (aG t && (bL t starts && (bL t goals && (decide (1≤ticks) && (decide (ticks≤64) && bJ order t.maps.length)))))=true:=hpre
  have hck:=fun (h : aG t=true)=>(mi h).2
  generalize aG t=v1 at *
  generalize bL t starts=v2 at *
  generalize bL t goals=v3 at *
  generalize bJ order t.maps.length=v4 at *
  refine Dp Try.func33 ?_
  intro C hP hN
  simp only [Try.f33] at hN ⊢
  cases v1 with
  |false=>
   with_reducible repeat' (first|refine Sp.h ?_|((first|refine Wd ?_|refine Ss.h ?_|refine Sc.h (cc) ?_|refine Sc.h (cs) ?_|refine Sc.h (cg) ?_|(refine Sb.h ?_ ?_ ?_<;>(try intro hgd)<;>try exact Xy))<;>simp -implicitDefEqProofs (maxSteps:=2000000) [hP,hN]<;>try refine Ya ?_)|refine X2 ?_ ?_|(refine Xd ?_ ?_<;>intro hcd<;>try exact Xx))
  |true=>
   have cp:=cp (by have:=hck rfl;omega)
   cases v2 with
   |false=>
    with_reducible repeat' (first|refine Sp.h ?_|((first|refine Wd ?_|refine Ss.h ?_|refine Sc.h (cc) ?_|refine Sc.h (cs) ?_|refine Sc.h (cg) ?_|refine Sc.h (cp) ?_|(refine Sb.h ?_ ?_ ?_<;>(try intro hgd)<;>try exact Xy))<;>simp -implicitDefEqProofs (maxSteps:=2000000) [hP,hN]<;>try refine Ya ?_)|refine X2 ?_ ?_|(refine Xd ?_ ?_<;>intro hcd<;>try exact Xx))
   |true=>
    cases v3 with
    |false=>
     with_reducible repeat' (first|refine Sp.h ?_|((first|refine Wd ?_|refine Ss.h ?_|refine Sc.h (cc) ?_|refine Sc.h (cs) ?_|refine Sc.h (cg) ?_|refine Sc.h (cp) ?_|(refine Sb.h ?_ ?_ ?_<;>(try intro hgd)<;>try exact Xy))<;>simp -implicitDefEqProofs (maxSteps:=2000000) [hP,hN]<;>try refine Ya ?_)|refine X2 ?_ ?_|(refine Xd ?_ ?_<;>intro hcd<;>try exact Xx))
    |true=>
     cases v4 with
     |false=>
      with_reducible repeat' (first|refine Sp.h ?_|((first|refine Wd ?_|refine Ss.h ?_|refine Sc.h (cc) ?_|refine Sc.h (cs) ?_|refine Sc.h (cg) ?_|refine Sc.h (cp) ?_|(refine Sb.h ?_ ?_ ?_<;>(try intro hgd)<;>try exact Xy))<;>simp -implicitDefEqProofs (maxSteps:=2000000) [hP,hN]<;>try refine Ya ?_)|refine X2 ?_ ?_|(refine Xd ?_ ?_<;>intro hcd<;>try exact Xx))
     |true=>
      by_cases h1 : ticks < 1
      ·skip
       with_reducible repeat' (first|refine Sp.h ?_|((first|refine Wd ?_|refine Ss.h ?_|refine Sc.h (cc) ?_|refine Sc.h (cs) ?_|refine Sc.h (cg) ?_|refine Sc.h (cp) ?_|(refine Sb.h ?_ ?_ ?_<;>(try intro hgd)<;>try exact Xy))<;>simp -implicitDefEqProofs (maxSteps:=2000000) [hP,hN,h1]<;>try refine Ya ?_)|refine X2 ?_ ?_|(refine Xd ?_ ?_<;>intro hcd<;>try exact Xx))
      ·by_cases h2 : 64 < ticks
       ·skip
        with_reducible repeat' (first|refine Sp.h ?_|((first|refine Wd ?_|refine Ss.h ?_|refine Sc.h (cc) ?_|refine Sc.h (cs) ?_|refine Sc.h (cg) ?_|refine Sc.h (cp) ?_|(refine Sb.h ?_ ?_ ?_<;>(try intro hgd)<;>try exact Xy))<;>simp -implicitDefEqProofs (maxSteps:=2000000) [hP,hN,h1,h2]<;>try refine Ya ?_)|refine X2 ?_ ?_|(refine Xd ?_ ?_<;>intro hcd<;>try exact Xx))
       ·exact absurd (by simp;omega) hpre'
end Go.Ab
namespace Go.Ab
open Go.Proofs
theorem yr (t : aU) (starts goals order : List Int) (ticks : Int) (ht : TmOk t) (hl : order.length≤9223372036854775807) : am Try.prog 18 [.pv (bR t),.pv (zs starts),.pv (zs goals),.pv (zs order),.pv (Z ticks)] [] [] (.pv (B true)):=by
 have c1:=qE t starts goals order ticks ht hl
 have c2:=y4 t starts goals order ticks ht hl
 rw [← yy] at c2
 cases hp : bd t starts goals order ticks with
 |none=>
  rw [hp] at c1 c2
  have c3:=tG [] [] (by decide) (by decide)
  rw [decide_eq_true rfl] at c3
  refine Dp Try.func18 ?_
  intro C hP hN
  simp only [Try.f18] at hN ⊢
  with_reducible repeat' (first|refine Sp.h ?_|((first|refine Ss.h ?_|refine Sc.h (c1) ?_|refine Sc.h (c2) ?_|refine Sc.h (c3) ?_|(refine Sb.h ?_ ?_ ?_<;>(try intro hgd)<;>try exact Xy))<;>simp -implicitDefEqProofs (maxSteps:=2000000) [hP,hN])|refine X2 ?_ ?_|(refine Xd ?_ ?_<;>intro hcd<;>try exact Xx))
 |some q=>
  rw [hp] at c1 c2
  obtain ⟨h1,h2,_,h4⟩:=jn hp
  have c3:=tG q q (by omega) (fun x hx=>by have:=h4 x hx;omega)
  rw [decide_eq_true rfl] at c3
  refine Dp Try.func18 ?_
  intro C hP hN
  simp only [Try.f18] at hN ⊢
  with_reducible repeat' (first|refine Sp.h ?_|((first|refine Ss.h ?_|refine Sc.h (c1) ?_|refine Sc.h (c2) ?_|refine Sc.h (c3) ?_|(refine Sb.h ?_ ?_ ?_<;>(try intro hgd)<;>try exact Xy))<;>simp -implicitDefEqProofs (maxSteps:=2000000) [hP,hN])|refine X2 ?_ ?_|(refine Xd ?_ ?_<;>intro hcd<;>try exact Xx))
theorem d4 (r : aU) (starts goals order : List Int) (ticks : Int) (l m n o : List Int) (hr : TmOk r) (hoo : order.length≤9223372036854775807) : am Try.prog 4 [.pv (bR r),.pv (zs starts),.pv (zs goals),.pv (zs order),.pv (Z ticks),.pv (zs l),.pv (zs m),.pv (zs n),.pv (zs o)] [] [] (.pv (B true)):=by
 have c0:=d9
 have cS:=d8 r hr
 cases hsm : gT r with
 |false=>
  rw [hsm] at cS
  refine Dp Try.func4 ?_
  intro C hP hN
  simp only [Try.f4] at hN ⊢
  with_reducible repeat' (first|refine Sp.h ?_|((first|refine Wd ?_|refine Ss.h ?_|refine Sc.h (c0) ?_|refine Sc.h (cS) ?_|(refine Sb.h ?_ ?_ ?_<;>(try intro hgd)<;>try exact Xy))<;>simp -implicitDefEqProofs (maxSteps:=2000000) [hP,hN]<;>try refine Ya ?_)|refine X2 ?_ ?_|(refine Xd ?_ ?_<;>intro hcd<;>try exact Xx))
 |true=>
 rw [hsm] at cS
 by_cases hlen : starts.length≤10∧goals.length≤10∧order.length≤10
 ·obtain ⟨l1,l2,l3⟩:=hlen
  have w1 : ¬ (10 : Int) < (starts.length : Int):=by omega
  have w2 : ¬ (10 : Int) < (goals.length : Int):=by omega
  have w3 : ¬ (10 : Int) < (order.length : Int):=by omega
  have cT:=tl l
  have hok:=qN l
  have hnp:=oq l
  have hML : (cy l).maps.length≤3:=by have:=ig l;have:=ii l;show (og l).length≤3;omega
  generalize cy l=t at *
  have cA:=oY t m hok (by omega) (fun x hx=>by have:=hnp x hx;omega)
  have cB:=oY t n hok (by omega) (fun x hx=>by have:=hnp x hx;omega)
  have hal:=gb t.maps m t.maps.length
  have hbl:=gb t.maps n t.maps.length
  generalize ed t.maps m t.maps.length=a at *
  generalize ed t.maps n t.maps.length=b at *
  have cO:=rY t.maps.length o (by omega)
  have hol:=gC o t.maps.length
  generalize aQ o t.maps.length=ord at *
  have cR:=uo ticks 9 (by decide)
  have hrr:=oK ticks (k:=9) (by decide) (by decide)
  generalize fG ticks 9=rt at *
  obtain ⟨k,hk⟩ : ∃ k : Int,rt - 1=k:=⟨_,rfl⟩
  have hw : IntKind.i64.wrap (rt - 1)=k:=by rw [← hk];exact bP
  have v1:=yr r starts goals order k hr hoo
  have v2:=yr t a b ord k hok (by omega)
  have v3:=yr t starts goals order ticks hok hoo
  have v4:=yr t a b order k hok hoo
  refine Dp Try.func4 ?_
  intro C hP hN
  simp only [Try.f4] at hN ⊢
  with_reducible repeat' (first|refine Sp.h ?_|((first|refine Wd ?_|refine Ss.h ?_|refine Sc.h (c0) ?_|refine Sc.h (cS) ?_|refine Sc.h (cT) ?_|refine Sc.h (cA) ?_|refine Sc.h (cB) ?_|refine Sc.h (cO) ?_|refine Sc.h (cR) ?_|refine Sc.h (v1) ?_|refine Sc.h (v2) ?_|refine Sc.h (v3) ?_|refine Sc.h (v4) ?_|(refine Sb.h ?_ ?_ ?_<;>(try intro hgd)<;>try exact Xy))<;>simp -implicitDefEqProofs (maxSteps:=2000000) [hP,hN,w1,w2,w3,hw,hal,hbl,hol]<;>try refine Ya ?_)|refine X2 ?_ ?_|(refine Xd ?_ ?_<;>intro hcd<;>try exact Xx))
 ·skip
  refine Dp Try.func4 ?_
  intro C hP hN
  simp only [Try.f4] at hN ⊢
  with_reducible repeat' (first|refine Sp.h ?_|((first|refine Wd ?_|refine Ss.h ?_|refine Sc.h (c0) ?_|refine Sc.h (cS) ?_|(refine Sb.h ?_ ?_ ?_<;>(try intro hgd)<;>try exact Xy))<;>simp -implicitDefEqProofs (maxSteps:=2000000) [hP,hN]<;>try refine Ya ?_)|refine X2 ?_ ?_|(refine Xd ?_ ?_<;>intro hcd<;>try exact Xx))
  all_goals (exfalso;simp at *;omega)
end Go.Ab
