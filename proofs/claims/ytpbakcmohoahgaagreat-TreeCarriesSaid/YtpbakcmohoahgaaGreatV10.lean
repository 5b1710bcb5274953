/- The contracts and facts that the laws of this seat need, in one text (KR18, KR19, KR20, TC2). -/
import Derived.Test.YtpbakcmohoahgaaGreatV9
set_option linter.all false
set_option maxHeartbeats 16000000
namespace Go.Ab
open Go.Proofs
theorem Dq {α : Type} {p : α→Bool} {l : List α} {i : Nat} (h : l.findIdx? p=some i) : ∃ v,l[i]?=some v∧i < l.length∧l.find? p=some v:=by
 rw [List.findIdx?_eq_some_iff_getElem] at h
 obtain ⟨hi,h1,h2⟩:=h
 refine ⟨l[i],List.getElem?_eq_getElem hi,hi,vm (List.getElem?_eq_getElem hi) h1 fun j x hj hx=>?_⟩
 obtain ⟨hjl,rfl⟩:=List.getElem?_eq_some_iff.1 hx
 have:=h2 j hj
 simpa using this
theorem AJ {α : Type} {p : α→Bool} {l : List α} (h : l.findIdx? p=none) : l.find? p=none:=by
 rw [List.findIdx?_eq_none_iff] at h
 rw [List.find?_eq_none]
 intro x hx
 rw [h x hx];simp
theorem BT (a : List ai) (ra : Int) (b : List ai) (rb : Int) (hints : List Vc) : (nB a ra b rb hints).length≤hints.length+8:=by
 have hcl : nB a ra b rb hints=if wh a ra b rb then hints.filter aJ++((if o3 a b then [nA a b] else [])++(ny++(if aJ (mg a ra b rb) then [mg a ra b rb] else []))) else []:=rfl
 have hf:=List.length_filter_le aJ hints
 have hax : ny.length=6:=rfl
 rw [hcl]
 split
 ·rw [List.length_append,List.length_append,List.length_append,hax]
  have h1 : (if o3 a b then [nA a b] else ([] : List Vc)).length≤1:=by split<;>simp
  have h2 : (if aJ (mg a ra b rb) then [mg a ra b rb] else ([] : List Vc)).length≤1:=by split<;>simp
  omega
 ·simp
theorem K9 (a : List ai) (ra : Int) (b : List ai) (rb : Int) (hints : List Vc) (ha : a.length≤9223372036854775807) (hb : b.length≤9223372036854775807) (hl : hints.length≤100000000000) : ab Tryz.prog 75 [.pv (aF a),.pv (Z ra),.pv (aF b),.pv (Z rb),.pv (aX hints)] [] [] (.pv (.tup [aC (nC a ra b rb hints).1,B (nC a ra b rb hints).2])):=by
 have c1:=JQ a ra b rb hints ha hb hl
 have hlen:=BT a ra b rb hints
 have hfr : nC a ra b rb hints=match (nB a ra b rb hints).find? (fun n=>f9 n a ra b rb) with
  |some n=>(n,true)
  |none=>((0,0,0),false):=rfl
 have c2:=J8 (nB a ra b rb hints) a ra b rb (by omega) ha hb
 generalize nB a ra b rb hints=CL at *
 cases hfi : CL.findIdx? (fun n=>f9 n a ra b rb) with
 |none=>
  rw [AJ hfi] at hfr
  rw [hfi] at c2
  simp only at hfr c2
  rw [hfr]
  refine Dp Tryz.func75 ?_
  intro C hP hN
  simp only [Tryz.f75] at hN ⊢
  with_reducible repeat' (first|refine Sp.h ?_|((first|refine Ss.h ?_|refine Sc.h (c1) ?_|refine Sc.h (c2) ?_|(refine Sb.h ?_ ?_ ?_<;>(try intro hgd)<;>try exact Xy))<;>simp -implicitDefEqProofs (maxSteps:=2000000) [hP,hN])|refine X2 ?_ ?_|(refine Xd ?_ ?_<;>intro hcd<;>try exact Xx))
 |some i=>
  obtain ⟨v,hx,hlt,hf⟩:=Dq hfi
  rw [hf] at hfr
  rw [hfi] at c2
  simp only at hfr c2
  have hxe : ∀ h,CL[i]'h=v:=fun h=>by rw [List.getElem?_eq_getElem h] at hx;exact Option.some.inj hx
  rw [hfr]
  refine Dp Tryz.func75 ?_
  intro C hP hN
  simp only [Tryz.f75] at hN ⊢
  with_reducible repeat' (first|refine Sp.h ?_|((first|refine Ss.h ?_|refine Sc.h (c1) ?_|refine Sc.h (c2) ?_|(refine Sb.h ?_ ?_ ?_<;>(try intro hgd)<;>try exact Xy))<;>simp -implicitDefEqProofs (maxSteps:=2000000) [hP,hN,hx,hxe,hlt])|refine X2 ?_ ?_|(refine Xd ?_ ?_<;>intro hcd<;>try exact Xx))
abbrev D5 (p : List ai) (r : Int) : PV:=.agg [aF p,Z r]
def nG (SH : List Sh) (PT : List (List ai)) (p : Nat × Nat) : PV:=D5 (bL PT p.1) (bM SH p.1)
def nH (SH : List Sh) (PT : List (List ai)) (p : Nat × Nat) : PV:=D5 (bL PT p.2) (bM SH p.2)
abbrev qE (s : Sce) (bx : List Iv) : PV:=.sl ((bv s).map (nG s.shs (bj s bx)))
abbrev qF (s : Sce) (bx : List Iv) : PV:=.sl ((bv s).map (nH s.shs (bj s bx)))
theorem zF {α β : Type} (f : α→β) {l : List α} {k : Nat} {v : α} (h : l[k]?=some v) : (l.take (k+1)).map f=(l.take k).map f++[f v]:=by
 rw [List.take_add_one,h,List.map_append];rfl
theorem BU {α β : Type} (f : α→β) {l : List α} {k : Nat} (h : k≤l.length) : ((l.take k).map f).length=k:=by
 rw [List.length_map,List.length_take];omega
theorem Ga (s : Sce) (bx : List Iv) (hs : ScL s) (hbl : bx.length≤9223372036854775807) : ab Tryz.prog 74 [.pv (f0 s),.pv (iv bx)] [] [] (.pv (.tup (if cS s bx then [qE s bx,qF s bx,B true] else [.sl [],.sl [],B false]))):=by
 have cc:=FH s hs
 have ci:=Gn s.js s.ms bx hs.js hbl
 have hd : cS s bx=(decide (bm s=0) && gm s.js bx):=rfl
 by_cases h0 : bm s=0
 case neg=>
  have h0' : (bm s !=0)=true:=by simp [h0]
  rw [decide_eq_false h0,Bool.false_and] at hd
  rw [hd]
  refine Dp Tryz.func74 ?_
  intro C hP hN
  simp only [Tryz.f74] at hN ⊢
  with_reducible repeat' (first|refine Sp.h ?_|((first|refine Wd ?_|refine Ss.h ?_|refine Sc.h (cc) ?_|(refine Sb.h ?_ ?_ ?_<;>(try intro hgd)<;>try exact Xy))<;>simp -implicitDefEqProofs (maxSteps:=2000000) [hP,hN,h0,h0']<;>try refine Ya ?_)|refine X2 ?_ ?_|(refine Xd ?_ ?_<;>intro hcd<;>try exact Xx))
 have h0' : (bm s !=0)=false:=by simp [h0]
 rw [decide_eq_true h0,Bool.true_and] at hd
 cases hbx : gm s.js bx with
 |false=>
  rw [hbx] at hd ci
  rw [hd]
  refine Dp Tryz.func74 ?_
  intro C hP hN
  simp only [Tryz.f74] at hN ⊢
  with_reducible repeat' (first|refine Sp.h ?_|((first|refine Wd ?_|refine Ss.h ?_|refine Sc.h (cc) ?_|refine Sc.h (ci) ?_|(refine Sb.h ?_ ?_ ?_<;>(try intro hgd)<;>try exact Xy))<;>simp -implicitDefEqProofs (maxSteps:=2000000) [hP,hN,h0,h0']<;>try refine Ya ?_)|refine X2 ?_ ?_|(refine Xd ?_ ?_<;>intro hcd<;>try exact Xx))
 |true=>
 have cp:=J2 s bx hs h0 hbx
 have cr:=II s hs
 rw [hbx] at hd ci
 have hb:=uA hd
 rw [hd]
 simp only [qE,qF,if_true]
 have hfew:=hb.few
 generalize bv s=PR at *
 generalize bj s bx=PT at *
 obtain ⟨js,ms,SH,sks⟩:=s
 simp only at *
 refine Dp Tryz.func74 ?_
 intro C hP hN
 simp only [Tryz.f74] at hN ⊢
 with_reducible repeat' (first|refine Sp.h ?_|((first|refine Wh [8,9] ?_|refine Wi [8,9] ?_|refine Ss.h ?_|refine Sc.h (cc) ?_|refine Sc.h (ci) ?_|refine Sc.h (cp) ?_|refine Sc.h (cr) ?_|(refine Sb.h ?_ ?_ ?_<;>(try intro hgd)<;>try exact Xy))<;>simp -implicitDefEqProofs (maxSteps:=2000000) [hP,hN,h0,h0']<;>try refine Ya ?_)|refine X2 ?_ ?_|(refine Xd ?_ ?_<;>intro hcd<;>try exact Xx))
 refine WP.loopN [] PR.length (fun i st=>st.t 2=.ptr 2 0∧st.h 2=some (.box [.pv (.sl (js.map cJ)),.pv (.sl (ms.map cT)),.pv (.sl (SH.map dg)),.pv (.sl (sks.map aO))] true false)∧st.t 7=.pv (.sl (PT.map aF))∧st.t 8=.arr 8 i∧st.h 8=some (.row 141 2 ((PR.take i).map (nG SH PT)) 0)∧st.t 9=.arr 9 i∧st.h 9=some (.row 141 2 ((PR.take i).map (nH SH PT)) 0)∧st.t 10=.pv (.sl (PR.map mi))∧st.t 11=.pv (Z i)) (by simp) ?_
 rintro k st hi ⟨g2,hb2,g7,g8,hb8,g9,hb9,g10,g11⟩
 by_cases hlt : k < PR.length
 ·have hwr:=aw hlt (by omega)
  obtain ⟨p,hp⟩ : ∃ p,PR[k]?=some p:=⟨_,List.getElem?_eq_getElem hlt⟩
  have eA:=zF (nG SH PT) hp
  have eB:=zF (nH SH PT) hp
  have zA:=BU (nG SH PT) (Nat.le_of_lt hlt)
  have zB:=BU (nH SH PT) (Nat.le_of_lt hlt)
  rw [eA,eB]
  generalize (PR.take k).map (nG SH PT)=RA at *
  generalize (PR.take k).map (nH SH PT)=RB at *
  clear eA eB
  obtain ⟨hlt',hpe⟩:=List.getElem?_eq_some_iff.1 hp
  obtain ⟨i,j⟩:=p
  have hpr:=hb.prs _ (List.mem_of_getElem? hp)
  simp only at hpr
  have hl:=hb.len
  have hxk : ∀ h,PR[k]'h=(i,j):=fun _=>hpe
  have i1 : i < PT.length:=by omega
  have j1 : j < PT.length:=by omega
  obtain ⟨a,ha⟩ : ∃ x,PT[i]?=some x:=⟨_,List.getElem?_eq_getElem i1⟩
  obtain ⟨b,hb'⟩ : ∃ x,PT[j]?=some x:=⟨_,List.getElem?_eq_getElem j1⟩
  obtain ⟨u,hu⟩ : ∃ x,SH[i]?=some x:=⟨_,List.getElem?_eq_getElem hpr.1⟩
  obtain ⟨v,hv⟩ : ∃ x,SH[j]?=some x:=⟨_,List.getElem?_eq_getElem hpr.2⟩
  have hxa : ∀ h,PT[i]'h=a:=fun h=>by rw [List.getElem?_eq_getElem h] at ha;exact Option.some.inj ha
  have hxb : ∀ h,PT[j]'h=b:=fun h=>by rw [List.getElem?_eq_getElem h] at hb';exact Option.some.inj hb'
  have hxu : ∀ h,SH[i]'h=u:=fun h=>by rw [List.getElem?_eq_getElem h] at hu;exact Option.some.inj hu
  have hxv : ∀ h,SH[j]'h=v:=fun h=>by rw [List.getElem?_eq_getElem h] at hv;exact Option.some.inj hv
  have e1 : nG SH PT (i,j)=.agg [aF a,Z u.rad]:=by simp [nG,bL,bM,ha,hu]
  have e2 : nH SH PT (i,j)=.agg [aF b,Z v.rad]:=by simp [nH,bL,bM,hb',hv]
  rw [e1,e2]
  obtain ⟨h1,h2⟩:=hpr
  have k1 : (k+1) * 32≤140737488355328:=by omega
  have k2 : k≤9223372036854775806:=by omega
  skip
  with_reducible repeat' (first|refine Sp.h ?_|((first|refine Wd ?_|refine Ss.h ?_|(refine Sb.h ?_ ?_ ?_<;>(try intro hgd)<;>try exact Xy))<;>simp -implicitDefEqProofs (maxSteps:=2000000) [hP,hN,g2,hb2,g7,g8,hb8,g9,hb9,g10,g11,zA,zB,k1,k2,hlt,hwr,hp,hxk,i1,j1,h1,h2,ha,hb',hu,hv,hxa,hxb,hxu,hxv]<;>try refine Ya ?_)|refine X2 ?_ ?_|(refine Xd ?_ ?_<;>intro hcd<;>try exact Xx))
 ·have hin : k=PR.length:=by omega
  subst hin
  rw [List.take_length] at hb8 hb9
  with_reducible repeat' (first|refine Sp.h ?_|((first|refine Wd ?_|refine Ss.h ?_|(refine Sb.h ?_ ?_ ?_<;>(try intro hgd)<;>try exact Xy))<;>simp -implicitDefEqProofs (maxSteps:=2000000) [hP,hN,g2,hb2,g7,g8,hb8,g9,hb9,g10,g11]<;>try refine Ya ?_)|refine X2 ?_ ?_|(refine Xd ?_ ?_<;>intro hcd<;>try exact Xx))
end Go.Ab
namespace Go.Ab
open Go.Proofs
theorem EO (hints : List Vc) (i : Nat) (hi : i < hints.length) (z : Option Value) (e n : Nat) (y : Option Value) : kw { size:=n,zero:=z,kind:=TK.slice e 3 24 y } (.pv (aX hints)) (some (.pv (.val (.int .i64 (i : Int))))) (some (.pv (.val (.int .i64 ((i : Int)+1)))))=some (.pv (aX (lp hints i))):=by
 have h1 : (0 : Int)≤(i : Int):=by omega
 have h2 : (0 : Int)≤(i : Int)+1:=by omega
 have h3 : ((i : Int)).toNat=i:=by omega
 have h4 : ((i : Int)+1).toNat=i+1:=by omega
 simp only [kw,if_pos h1,if_pos h2,h3,h4,List.length_map]
 rw [if_pos ⟨by omega,by omega,by decide,zg hints⟩]
 congr 3
 rw [← List.map_take,← List.map_drop]
 congr 1
 unfold lp
 rw [List.drop_take,show i+1 - i=1 by omega]
theorem AK {hints : List Vc} {i : Nat} (h : ¬ i < hints.length) : lp hints i=[]:=by
 unfold lp
 rw [List.drop_eq_nil_of_le (by omega)];rfl
theorem xW {SH : List Sh} {PR : List (Nat × Nat)} {PT : List (List ai)} {i : Nat} {p : Nat × Nat} (h : PR[i]?=some p) : (PR.map (nG SH PT))[i]?=some (.agg [aF (bL PT p.1),Z (bM SH p.1)]):=by
 rw [List.getElem?_map,h];rfl
theorem xX {SH : List Sh} {PR : List (Nat × Nat)} {PT : List (List ai)} {i : Nat} {p : Nat × Nat} (h : PR[i]?=some p) : (PR.map (nH SH PT))[i]?=some (.agg [aF (bL PT p.2),Z (bM SH p.2)]):=by
 rw [List.getElem?_map,h];rfl
def qG (ap : Bool) : Int:=if ap then 1 else 0
def Hw (FN : List PV) (kd : Int) (i : Nat) (h : Hp) : Prop:=(i=0∧h 10=some (.box [.pv (Z kd),.pv (.val (.slice none 0 0)),.pv (Z 0),.pv (.val (.slice none 0 0)),.pv (.val (.slice none 0 0))] true false)∧h 71=none)∨(0 < i∧h 10=some (.box [.pv (Z kd),.arr 71 i,.pv (Z 0),.pv (.val (.slice none 0 0)),.pv (.val (.slice none 0 0))] true false)∧h 71=some (.row 126 3 (FN.take i) 0))
def Hx (SH : List Sh) (PR : List (Nat × Nat)) (PT : List (List ai)) (hints : List Vc) (FN : List PV) (RES : Vd) (i : Nat) (h : Hp) : Prop:=∃ ap,io SH PR PT hints (PR.length - i) i ap=RES∧Hw FN (qG ap) i h
theorem ml {SH : List Sh} {PR : List (Nat × Nat)} {PT : List (List ai)} {hints : List Vc} {FN : List PV} {RES : Vd} {i : Nat} {h : Hp} (ap : Bool) (h1 : io SH PR PT hints (PR.length - i) i ap=RES) (h2 : Hw FN (qG ap) i h) : Hx SH PR PT hints FN RES i h:=⟨ap,h1,h2⟩
set_option maxRecDepth 20000 in
theorem La (s : Sce) (bx : List Iv) (hints : List Vc) (hs : ScL s) (hbl : bx.length≤9223372036854775807) (hh : hints.length≤9223372036854775807) : ab Tryz.prog 17 [.pv (f0 s),.pv (iv bx),.pv (aX hints)] [] [] (.pv (D0 (ip s bx hints))):=by
 have cp:=Ga s bx hs hbl
 have hd : ip s bx hints=if cS s bx then io s.shs (bv s) (bj s bx) hints (bv s).length 0 true else ⟨0,[],⟨0,[],[]⟩⟩:=rfl
 cases hp : cS s bx with
 |false=>
  rw [hp] at cp hd
  simp only [Bool.false_eq_true,if_false] at cp hd
  rw [hd]
  refine Dp Tryz.func17 ?_
  intro C hP hN
  simp only [Tryz.f17] at hN ⊢
  with_reducible repeat' (first|refine Sp.h ?_|((first|refine Wd ?_|refine Ss.h ?_|refine Sc.h (cp) ?_|(refine Sb.h ?_ ?_ ?_<;>(try intro hgd)<;>try exact Xy))<;>simp -implicitDefEqProofs (maxSteps:=2000000) [hP,hN]<;>try refine Ya ?_)|refine X2 ?_ ?_|(refine Xd ?_ ?_<;>intro hcd<;>try exact Xx))
 |true=>
 rw [hp] at cp hd
 simp only [if_true] at cp hd
 have hb:=uA hp
 have hrd:=Ey hp
 rw [hd]
 simp only [qE,qF] at cp
 generalize bv s=PR at *
 generalize bj s bx=PT at *
 generalize s.shs=SH at *
 have hfew:=hb.few
 generalize hgo : io SH PR PT hints PR.length 0 true=RES at *
 generalize hFN : (dP SH PR PT hints).map aC=FN
 have hFl : FN.length=PR.length:=by rw [← hFN];simp [dP]
 have hFk : ∀ k p,PR[k]?=some p→FN[k]?=some (aC (rW SH PT hints k p).1):=fun k q hk=>by rw [← hFN,dP,List.getElem?_map,List.getElem?_mapIdx,hk];rfl
 have hAt:=fun (i : Nat) (p : Nat × Nat) (h : PR[i]?=some p)=>xW (SH:=SH) (PT:=PT) h
 have hBt:=fun (i : Nat) (p : Nat × Nat) (h : PR[i]?=some p)=>xX (SH:=SH) (PT:=PT) h
 have hLA : (PR.map (nG SH PT)).length=PR.length:=by simp
 have hLB : (PR.map (nH SH PT)).length=PR.length:=by simp
 generalize PR.map (nG SH PT)=LA at *
 generalize PR.map (nH SH PT)=LB at *
 refine Dp Tryz.func17 ?_
 intro C hP hN
 simp only [Tryz.f17] at hN ⊢
 with_reducible repeat' (first|refine Sp.h ?_|((first|refine Wd ?_|refine Ss.h ?_|refine Sc.h (cp) ?_|(refine Sb.h ?_ ?_ ?_<;>(try intro hgd)<;>try exact Xy))<;>simp -implicitDefEqProofs (maxSteps:=2000000) [hP,hN,hLA,hLB]<;>try refine Ya ?_)|refine X2 ?_ ?_|(refine Xd ?_ ?_<;>intro hcd<;>try exact Xx))
 refine WP.loopN [13,15] PR.length (fun i st=>st.t 2=.pv (aX hints)∧st.t 6=.ptr 6 0∧st.h 6=some (.box [.pv (Z 0),.pv (.val (.slice none 0 0)),.pv (Z 0),.pv (.val (.slice none 0 0)),.pv (.val (.slice none 0 0))] true false)∧st.t 7=.pv (.sl LA)∧st.t 8=.pv (.sl LB)∧st.t 10=.ptr 10 0∧st.t 11=.pv (Z i)∧st.h 13=none∧st.h 15=none∧Hx SH PR PT hints FN RES i st.h) ?_ ?_
 ·simp
  exact ml true hgo (.inl ⟨rfl,by simp [qG],by simp⟩)
 rintro i st hi ⟨g2,g6,hb6,g7,g8,g10,g11,hb13,hb15,ap,hgo,hN71⟩
 by_cases hlt : i < PR.length
 ·have hwr:=aw hlt (by omega)
  have hlt' : (i : Int) < (PR.length : Int):=by omega
  obtain ⟨p,hp⟩ : ∃ p,PR[i]?=some p:=⟨_,List.getElem?_eq_getElem hlt⟩
  have hA:=hAt i p hp
  have hB:=hBt i p hp
  have hAe : ∀ h,LA[i]'h=.agg [aF (bL PT p.1),Z (bM SH p.1)]:=fun h=>by rw [List.getElem?_eq_getElem h] at hA;exact Option.some.inj hA
  have hBe : ∀ h,LB[i]'h=.agg [aF (bL PT p.2),Z (bM SH p.2)]:=fun h=>by rw [List.getElem?_eq_getElem h] at hB;exact Option.some.inj hB
  have r1:=hrd p.1
  have r2:=hrd p.2
  have l1:=xi hb p.1
  have l2:=xi hb p.2
  have cf:=K9 (bL PT p.1) (bM SH p.1) (bL PT p.2) (bM SH p.2) (lp hints i) (by omega) (by omega) (by simp [lp];omega)
  have hfd : rW SH PT hints i p=nC (bL PT p.1) (bM SH p.1) (bL PT p.2) (bM SH p.2) (lp hints i):=rfl
  rw [← hfd] at cf
  rw [show PR.length - i=(PR.length - i - 1)+1 by omega] at hgo
  simp only [io,hp] at hgo
  have hMi:=hFk i p hp
  generalize rW SH PT hints i p=F at *
  have hts : FN.take (i+1)=FN.take i++[aC F.1]:=by rw [List.take_add_one,hMi];rfl
  have hz0 : (FN.take i).length=i:=by rw [List.length_take];omega
  have hz1 : i≤FN.length:=by omega
  have c1:=zH (bL PT p.1) (by omega)
  have c2:=zH (bL PT p.2) (by omega)
  have z1:=qn l1
  have z2:=qn l2
  have c3:=Hu (aK (bL PT p.1)) (aK (bL PT p.2)) (bM SH p.1+bM SH p.2) 64 (by omega) (by omega)
  have hNd : nO SH PT p=iW (aK (bL PT p.1)) (aK (bL PT p.2)) (bM SH p.1+bM SH p.2) 64:=rfl
  have hln:=vn (aK (bL PT p.1)) (aK (bL PT p.2)) (bM SH p.1+bM SH p.2) 64
  rw [← hNd] at c3 hln
  have hw : IntKind.i64.wrap (bM SH p.1+bM SH p.2)=bM SH p.1+bM SH p.2:=aa (by omega) (by omega)
  generalize nO SH PT p=NN at *
  have co:=Ht NN.2.w NN.2.v (bL PT p.1) (bM SH p.1) (bL PT p.2) (bM SH p.2) (by omega) (by omega) (by omega) (by omega)
  have hod : jB SH PT NN.2.w NN.2.v p=(jY NN.2.w NN.2.v (bL PT p.1) (bM SH p.1) (bL PT p.2) (bM SH p.2) && decide (0≤jp NN.2.w NN.2.v (bL PT p.1) (bM SH p.1) (bL PT p.2) (bM SH p.2))):=rfl
  rw [← hod] at co
  have k1 : (i+1) * 24≤140737488355328:=by omega
  have k2 : i≤9223372036854775806:=by omega
  clear hFk hFN hAt hBt
  by_cases hil : i < hints.length
  ·have hsl:=EO hints i hil
   have hlt2 : (i : Int) < (hints.length : Int):=by omega
   rcases hN71 with ⟨hi0,hb10,hb71⟩|⟨hi0,hb10,hb71⟩
   ·have hz2 : FN.take i=[]:=by rw [hi0];rfl
    rw [hz2,List.nil_append] at hts
    cases hF2 : F.2 with
    |true=>
     rw [hF2] at cf hgo
     simp only [if_true] at hgo
     with_reducible repeat' (first|refine Sp.h ?_|((first|refine Wd ?_|refine Ss.h ?_|refine Sc.h (cf) ?_|(refine Sb.h ?_ ?_ ?_<;>(try intro hgd)<;>try exact Xy))<;>simp -implicitDefEqProofs (maxSteps:=2000000) [hP,hN,g2,g6,hb6,g7,g8,g10,g11,hb13,hb15,hb10,hb71,hil,hlt2,hlt,hlt',hwr,hA,hAe,hB,hBe,hLA,hLB,hsl,hz0,hz1,k1,k2]<;>try refine Ya ?_)|refine X2 ?_ ?_|(refine Xd ?_ ?_<;>intro hcd<;>try exact Xx))
     rw [show PR.length - i - 1=PR.length - (i+1) by omega] at hgo
     all_goals exact ml ap hgo (.inr ⟨by omega,by simp [hi0],by simp [hts]⟩)
    |false=>
     rw [hF2] at cf hgo
     simp only [Bool.false_eq_true,if_false] at hgo
     cases hov : jB SH PT NN.2.w NN.2.v p with
     |true=>
      rw [hov] at co hgo
      simp only [if_true] at hgo
      subst hgo
      with_reducible repeat' (first|refine Sp.h ?_|((first|refine Wd ?_|refine Ss.h ?_|refine Sc.h (cf) ?_|refine Sc.h (c1) ?_|refine Sc.h (c2) ?_|refine Sc.h (c3) ?_|refine Sc.h (co) ?_|(refine Sb.h ?_ ?_ ?_<;>(try intro hgd)<;>try exact Xy))<;>simp -implicitDefEqProofs (maxSteps:=2000000) [hP,hN,g2,g6,hb6,g7,g8,g10,g11,hb13,hb15,hb10,hb71,hil,hlt2,hlt,hlt',hwr,hA,hAe,hB,hBe,hLA,hLB,hsl,hz0,hz1,k1,k2,hw]<;>try refine Ya ?_)|refine X2 ?_ ?_|(refine Xd ?_ ?_<;>intro hcd<;>try exact Xx))
     |false=>
      rw [hov] at co hgo
      simp only [Bool.false_eq_true,if_false] at hgo
      rw [show PR.length - i - 1=PR.length - (i+1) by omega] at hgo
      with_reducible repeat' (first|refine Sp.h ?_|((first|refine Wd ?_|refine Ss.h ?_|refine Sc.h (cf) ?_|refine Sc.h (c1) ?_|refine Sc.h (c2) ?_|refine Sc.h (c3) ?_|refine Sc.h (co) ?_|(refine Sb.h ?_ ?_ ?_<;>(try intro hgd)<;>try exact Xy))<;>simp -implicitDefEqProofs (maxSteps:=2000000) [hP,hN,g2,g6,hb6,g7,g8,g10,g11,hb13,hb15,hb10,hb71,hil,hlt2,hlt,hlt',hwr,hA,hAe,hB,hBe,hLA,hLB,hsl,hz0,hz1,k1,k2,hw]<;>try refine Ya ?_)|refine X2 ?_ ?_|(refine Xd ?_ ?_<;>intro hcd<;>try exact Xx))
      all_goals exact ml false hgo (.inr ⟨by omega,by simp [qG,hi0],by simp [hts]⟩)
   ·have hz2 : 0 < i:=hi0
    cases hF2 : F.2 with
    |true=>
     rw [hF2] at cf hgo
     simp only [if_true] at hgo
     with_reducible repeat' (first|refine Sp.h ?_|((first|refine Wd ?_|refine Ss.h ?_|refine Sc.h (cf) ?_|(refine Sb.h ?_ ?_ ?_<;>(try intro hgd)<;>try exact Xy))<;>simp -implicitDefEqProofs (maxSteps:=2000000) [hP,hN,g2,g6,hb6,g7,g8,g10,g11,hb13,hb15,hb10,hb71,hil,hlt2,hlt,hlt',hwr,hA,hAe,hB,hBe,hLA,hLB,hsl,hz0,hz1,k1,k2]<;>try refine Ya ?_)|refine X2 ?_ ?_|(refine Xd ?_ ?_<;>intro hcd<;>try exact Xx))
     rw [show PR.length - i - 1=PR.length - (i+1) by omega] at hgo
     all_goals exact ml ap hgo (.inr ⟨by omega,by simp [hi0],by simp [hts]⟩)
    |false=>
     rw [hF2] at cf hgo
     simp only [Bool.false_eq_true,if_false] at hgo
     cases hov : jB SH PT NN.2.w NN.2.v p with
     |true=>
      rw [hov] at co hgo
      simp only [if_true] at hgo
      subst hgo
      with_reducible repeat' (first|refine Sp.h ?_|((first|refine Wd ?_|refine Ss.h ?_|refine Sc.h (cf) ?_|refine Sc.h (c1) ?_|refine Sc.h (c2) ?_|refine Sc.h (c3) ?_|refine Sc.h (co) ?_|(refine Sb.h ?_ ?_ ?_<;>(try intro hgd)<;>try exact Xy))<;>simp -implicitDefEqProofs (maxSteps:=2000000) [hP,hN,g2,g6,hb6,g7,g8,g10,g11,hb13,hb15,hb10,hb71,hil,hlt2,hlt,hlt',hwr,hA,hAe,hB,hBe,hLA,hLB,hsl,hz0,hz1,k1,k2,hw]<;>try refine Ya ?_)|refine X2 ?_ ?_|(refine Xd ?_ ?_<;>intro hcd<;>try exact Xx))
     |false=>
      rw [hov] at co hgo
      simp only [Bool.false_eq_true,if_false] at hgo
      rw [show PR.length - i - 1=PR.length - (i+1) by omega] at hgo
      with_reducible repeat' (first|refine Sp.h ?_|((first|refine Wd ?_|refine Ss.h ?_|refine Sc.h (cf) ?_|refine Sc.h (c1) ?_|refine Sc.h (c2) ?_|refine Sc.h (c3) ?_|refine Sc.h (co) ?_|(refine Sb.h ?_ ?_ ?_<;>(try intro hgd)<;>try exact Xy))<;>simp -implicitDefEqProofs (maxSteps:=2000000) [hP,hN,g2,g6,hb6,g7,g8,g10,g11,hb13,hb15,hb10,hb71,hil,hlt2,hlt,hlt',hwr,hA,hAe,hB,hBe,hLA,hLB,hsl,hz0,hz1,k1,k2,hw]<;>try refine Ya ?_)|refine X2 ?_ ?_|(refine Xd ?_ ?_<;>intro hcd<;>try exact Xx))
      all_goals exact ml false hgo (.inr ⟨by omega,by simp [qG,hi0],by simp [hts]⟩)
  ·have hsl : ¬ (i : Int) < (hints.length : Int):=by omega
   rw [AK hil] at cf
   simp only [aX,List.map_nil] at cf
   rcases hN71 with ⟨hi0,hb10,hb71⟩|⟨hi0,hb10,hb71⟩
   ·have hz2 : FN.take i=[]:=by rw [hi0];rfl
    rw [hz2,List.nil_append] at hts
    cases hF2 : F.2 with
    |true=>
     rw [hF2] at cf hgo
     simp only [if_true] at hgo
     with_reducible repeat' (first|refine Sp.h ?_|((first|refine Wd ?_|refine Ss.h ?_|refine Sc.h (cf) ?_|(refine Sb.h ?_ ?_ ?_<;>(try intro hgd)<;>try exact Xy))<;>simp -implicitDefEqProofs (maxSteps:=2000000) [hP,hN,g2,g6,hb6,g7,g8,g10,g11,hb13,hb15,hb10,hb71,hil,hlt,hlt',hwr,hA,hAe,hB,hBe,hLA,hLB,hsl,hz0,hz1,k1,k2]<;>try refine Ya ?_)|refine X2 ?_ ?_|(refine Xd ?_ ?_<;>intro hcd<;>try exact Xx))
     rw [show PR.length - i - 1=PR.length - (i+1) by omega] at hgo
     all_goals exact ml ap hgo (.inr ⟨by omega,by simp [hi0],by simp [hts]⟩)
    |false=>
     rw [hF2] at cf hgo
     simp only [Bool.false_eq_true,if_false] at hgo
     cases hov : jB SH PT NN.2.w NN.2.v p with
     |true=>
      rw [hov] at co hgo
      simp only [if_true] at hgo
      subst hgo
      with_reducible repeat' (first|refine Sp.h ?_|((first|refine Wd ?_|refine Ss.h ?_|refine Sc.h (cf) ?_|refine Sc.h (c1) ?_|refine Sc.h (c2) ?_|refine Sc.h (c3) ?_|refine Sc.h (co) ?_|(refine Sb.h ?_ ?_ ?_<;>(try intro hgd)<;>try exact Xy))<;>simp -implicitDefEqProofs (maxSteps:=2000000) [hP,hN,g2,g6,hb6,g7,g8,g10,g11,hb13,hb15,hb10,hb71,hil,hlt,hlt',hwr,hA,hAe,hB,hBe,hLA,hLB,hsl,hz0,hz1,k1,k2,hw]<;>try refine Ya ?_)|refine X2 ?_ ?_|(refine Xd ?_ ?_<;>intro hcd<;>try exact Xx))
     |false=>
      rw [hov] at co hgo
      simp only [Bool.false_eq_true,if_false] at hgo
      rw [show PR.length - i - 1=PR.length - (i+1) by omega] at hgo
      with_reducible repeat' (first|refine Sp.h ?_|((first|refine Wd ?_|refine Ss.h ?_|refine Sc.h (cf) ?_|refine Sc.h (c1) ?_|refine Sc.h (c2) ?_|refine Sc.h (c3) ?_|refine Sc.h (co) ?_|(refine Sb.h ?_ ?_ ?_<;>(try intro hgd)<;>try exact Xy))<;>simp -implicitDefEqProofs (maxSteps:=2000000) [hP,hN,g2,g6,hb6,g7,g8,g10,g11,hb13,hb15,hb10,hb71,hil,hlt,hlt',hwr,hA,hAe,hB,hBe,hLA,hLB,hsl,hz0,hz1,k1,k2,hw]<;>try refine Ya ?_)|refine X2 ?_ ?_|(refine Xd ?_ ?_<;>intro hcd<;>try exact Xx))
      all_goals exact ml false hgo (.inr ⟨by omega,by simp [qG,hi0],by simp [hts]⟩)
   ·have hz2 : 0 < i:=hi0
    cases hF2 : F.2 with
    |true=>
     rw [hF2] at cf hgo
     simp only [if_true] at hgo
     with_reducible repeat' (first|refine Sp.h ?_|((first|refine Wd ?_|refine Ss.h ?_|refine Sc.h (cf) ?_|(refine Sb.h ?_ ?_ ?_<;>(try intro hgd)<;>try exact Xy))<;>simp -implicitDefEqProofs (maxSteps:=2000000) [hP,hN,g2,g6,hb6,g7,g8,g10,g11,hb13,hb15,hb10,hb71,hil,hlt,hlt',hwr,hA,hAe,hB,hBe,hLA,hLB,hsl,hz0,hz1,k1,k2]<;>try refine Ya ?_)|refine X2 ?_ ?_|(refine Xd ?_ ?_<;>intro hcd<;>try exact Xx))
     rw [show PR.length - i - 1=PR.length - (i+1) by omega] at hgo
     all_goals exact ml ap hgo (.inr ⟨by omega,by simp [hi0],by simp [hts]⟩)
    |false=>
     rw [hF2] at cf hgo
     simp only [Bool.false_eq_true,if_false] at hgo
     cases hov : jB SH PT NN.2.w NN.2.v p with
     |true=>
      rw [hov] at co hgo
      simp only [if_true] at hgo
      subst hgo
      with_reducible repeat' (first|refine Sp.h ?_|((first|refine Wd ?_|refine Ss.h ?_|refine Sc.h (cf) ?_|refine Sc.h (c1) ?_|refine Sc.h (c2) ?_|refine Sc.h (c3) ?_|refine Sc.h (co) ?_|(refine Sb.h ?_ ?_ ?_<;>(try intro hgd)<;>try exact Xy))<;>simp -implicitDefEqProofs (maxSteps:=2000000) [hP,hN,g2,g6,hb6,g7,g8,g10,g11,hb13,hb15,hb10,hb71,hil,hlt,hlt',hwr,hA,hAe,hB,hBe,hLA,hLB,hsl,hz0,hz1,k1,k2,hw]<;>try refine Ya ?_)|refine X2 ?_ ?_|(refine Xd ?_ ?_<;>intro hcd<;>try exact Xx))
     |false=>
      rw [hov] at co hgo
      simp only [Bool.false_eq_true,if_false] at hgo
      rw [show PR.length - i - 1=PR.length - (i+1) by omega] at hgo
      with_reducible repeat' (first|refine Sp.h ?_|((first|refine Wd ?_|refine Ss.h ?_|refine Sc.h (cf) ?_|refine Sc.h (c1) ?_|refine Sc.h (c2) ?_|refine Sc.h (c3) ?_|refine Sc.h (co) ?_|(refine Sb.h ?_ ?_ ?_<;>(try intro hgd)<;>try exact Xy))<;>simp -implicitDefEqProofs (maxSteps:=2000000) [hP,hN,g2,g6,hb6,g7,g8,g10,g11,hb13,hb15,hb10,hb71,hil,hlt,hlt',hwr,hA,hAe,hB,hBe,hLA,hLB,hsl,hz0,hz1,k1,k2,hw]<;>try refine Ya ?_)|refine X2 ?_ ?_|(refine Xd ?_ ?_<;>intro hcd<;>try exact Xx))
      all_goals exact ml false hgo (.inr ⟨by omega,by simp [qG,hi0],by simp [hts]⟩)
 ·have hin : i=PR.length:=by omega
  subst hin
  rw [Nat.sub_self] at hgo
  simp only [io] at hgo
  have hBL : (dP SH PR PT hints).length=PR.length:=by simp [dP]
  rcases hN71 with ⟨hi0,hb10,hb71⟩|⟨hi0,hb10,hb71⟩
  ·have hz2 : dP SH PR PT hints=[]:=List.eq_nil_of_length_eq_zero (by omega)
   rw [hz2] at hgo
   cases ap with
   |true=>
    simp only [if_true] at hgo
    subst hgo
    simp only [qG,if_true] at hb10
    with_reducible repeat' (first|refine Sp.h ?_|((first|refine Wd ?_|refine Ss.h ?_|(refine Sb.h ?_ ?_ ?_<;>(try intro hgd)<;>try exact Xy))<;>simp -implicitDefEqProofs (maxSteps:=2000000) [hP,hN,g2,g6,hb6,g7,g8,g10,g11,hb10,hb71,hb13,hb15,hLA,hLB,hi0]<;>try refine Ya ?_)|refine X2 ?_ ?_|(refine Xd ?_ ?_<;>intro hcd<;>try exact Xx))
   |false=>
    simp only [Bool.false_eq_true,if_false] at hgo
    subst hgo
    simp only [qG,Bool.false_eq_true,if_false] at hb10
    with_reducible repeat' (first|refine Sp.h ?_|((first|refine Wd ?_|refine Ss.h ?_|(refine Sb.h ?_ ?_ ?_<;>(try intro hgd)<;>try exact Xy))<;>simp -implicitDefEqProofs (maxSteps:=2000000) [hP,hN,g2,g6,hb6,g7,g8,g10,g11,hb10,hb71,hb13,hb15,hLA,hLB,hi0]<;>try refine Ya ?_)|refine X2 ?_ ?_|(refine Xd ?_ ?_<;>intro hcd<;>try exact Xx))
  ·rw [List.take_of_length_le (by omega),← hFN] at hb71
   cases ap with
   |true=>
    simp only [if_true] at hgo
    subst hgo
    simp only [qG,if_true] at hb10
    with_reducible repeat' (first|refine Sp.h ?_|((first|refine Wd ?_|refine Ss.h ?_|(refine Sb.h ?_ ?_ ?_<;>(try intro hgd)<;>try exact Xy))<;>simp -implicitDefEqProofs (maxSteps:=2000000) [hP,hN,g2,g6,hb6,g7,g8,g10,g11,hb10,hb71,hb13,hb15,hLA,hLB,hBL]<;>try refine Ya ?_)|refine X2 ?_ ?_|(refine Xd ?_ ?_<;>intro hcd<;>try exact Xx))
   |false=>
    simp only [Bool.false_eq_true,if_false] at hgo
    subst hgo
    simp only [qG,Bool.false_eq_true,if_false] at hb10
    with_reducible repeat' (first|refine Sp.h ?_|((first|refine Wd ?_|refine Ss.h ?_|(refine Sb.h ?_ ?_ ?_<;>(try intro hgd)<;>try exact Xy))<;>simp -implicitDefEqProofs (maxSteps:=2000000) [hP,hN,g2,g6,hb6,g7,g8,g10,g11,hb10,hb71,hb13,hb15,hLA,hLB,hBL]<;>try refine Ya ?_)|refine X2 ?_ ?_|(refine Xd ?_ ?_<;>intro hcd<;>try exact Xx))
end Go.Ab
namespace Go.Ab
open Go.Proofs
theorem Ld (s : Sce) (bx : List Iv) (ns : List Vc) (hs : ScL s) (hbl : bx.length≤9223372036854775807) (hn : ns.length≤9223372036854775807) : ab Tryz.prog 93 [.pv (f0 s),.pv (iv bx),.pv (aX ns)] [] [] (.pv (B (fu s bx ns))):=by
 have cp:=Ga s bx hs hbl
 have hd : fu s bx ns=(cS s bx && ep s.shs (bv s) (bj s bx) ns):=rfl
 cases hp : cS s bx with
 |false=>
  rw [hp] at cp hd
  simp only [Bool.false_eq_true,if_false,Bool.false_and] at cp hd
  rw [hd]
  refine Dp Tryz.func93 ?_
  intro C hP hN
  simp only [Tryz.f93] at hN ⊢
  with_reducible repeat' (first|refine Sp.h ?_|((first|refine Wd ?_|refine Ss.h ?_|refine Sc.h (cp) ?_|(refine Sb.h ?_ ?_ ?_<;>(try intro hgd)<;>try exact Xy))<;>simp -implicitDefEqProofs (maxSteps:=2000000) [hP,hN]<;>try refine Ya ?_)|refine X2 ?_ ?_|(refine Xd ?_ ?_<;>intro hcd<;>try exact Xx))
 |true=>
 rw [hp] at cp hd
 simp only [if_true,Bool.true_and] at cp hd
 have hb:=uA hp
 rw [hd]
 simp only [qE,qF] at cp
 generalize bv s=PR at *
 generalize bj s bx=PT at *
 generalize s.shs=SH at *
 have hfew:=hb.few
 have hAt:=fun (i : Nat) (p : Nat × Nat) (h : PR[i]?=some p)=>xW (SH:=SH) (PT:=PT) h
 have hBt:=fun (i : Nat) (p : Nat × Nat) (h : PR[i]?=some p)=>xX (SH:=SH) (PT:=PT) h
 have hLA : (PR.map (nG SH PT)).length=PR.length:=by simp
 have hLB : (PR.map (nH SH PT)).length=PR.length:=by simp
 generalize PR.map (nG SH PT)=LA at *
 generalize PR.map (nH SH PT)=LB at *
 by_cases hle : ns.length=PR.length
 case neg=>
  have h1 : ((ns.length : Int) !=(PR.length : Int))=true:=by simp;omega
  have h2 : ¬ (ns.length : Int)=(PR.length : Int):=by omega
  have hf : ep SH PR PT ns=false:=by simp [ep,hle]
  rw [hf]
  refine Dp Tryz.func93 ?_
  intro C hP hN
  simp only [Tryz.f93] at hN ⊢
  with_reducible repeat' (first|refine Sp.h ?_|((first|refine Wd ?_|refine Ss.h ?_|refine Sc.h (cp) ?_|(refine Sb.h ?_ ?_ ?_<;>(try intro hgd)<;>try exact Xy))<;>simp -implicitDefEqProofs (maxSteps:=2000000) [hP,hN,h1,h2,hLA]<;>try refine Ya ?_)|refine X2 ?_ ?_|(refine Xd ?_ ?_<;>intro hcd<;>try exact Xx))
 have h1 : ((ns.length : Int) !=(PR.length : Int))=false:=by simp [hle]
 refine Dp Tryz.func93 ?_
 intro C hP hN
 simp only [Tryz.f93] at hN ⊢
 with_reducible repeat' (first|refine Sp.h ?_|((first|refine Wd ?_|refine Ss.h ?_|refine Sc.h (cp) ?_|(refine Sb.h ?_ ?_ ?_<;>(try intro hgd)<;>try exact Xy))<;>simp -implicitDefEqProofs (maxSteps:=2000000) [hP,hN,h1,hle,hLA]<;>try refine Ya ?_)|refine X2 ?_ ?_|(refine Xd ?_ ?_<;>intro hcd<;>try exact Xx))
 refine WP.loopN [] PR.length (fun i st=>st.t 2=.pv (aX ns)∧st.t 7=.pv (.sl LA)∧st.t 8=.pv (.sl LB)∧st.t 10=.pv (Z i)∧rk SH PR PT ns i) ?_ ?_
 ·simp
  exact fun k n p hk=>by omega
 rintro i st hi ⟨g2,g7,g8,g10,hq⟩
 by_cases hlt : i < PR.length
 ·have hwr:=aw hlt (by omega)
  have hltn : i < ns.length:=by omega
  have hlt' : (i : Int) < (PR.length : Int):=by omega
  generalize hxe : ns[i]=v at *
  have hx : ns[i]?=some v:=by rw [List.getElem?_eq_getElem hltn,hxe]
  obtain ⟨p,hp⟩ : ∃ p,PR[i]?=some p:=⟨_,List.getElem?_eq_getElem hlt⟩
  have hA:=hAt i p hp
  have hB:=hBt i p hp
  have hAe : ∀ h,LA[i]'h=.agg [aF (bL PT p.1),Z (bM SH p.1)]:=fun h=>by rw [List.getElem?_eq_getElem h] at hA;exact Option.some.inj hA
  have hBe : ∀ h,LB[i]'h=.agg [aF (bL PT p.2),Z (bM SH p.2)]:=fun h=>by rw [List.getElem?_eq_getElem h] at hB;exact Option.some.inj hB
  have cs:=Gq v (bL PT p.1) (bM SH p.1) (bL PT p.2) (bM SH p.2) (mu hb _) (mu hb _)
  have hsk : mP SH PT v p=f9 v (bL PT p.1) (bM SH p.1) (bL PT p.2) (bM SH p.2):=rfl
  rw [← hsk] at cs
  cases hsp : mP SH PT v p with
  |true=>
   rw [hsp] at cs
   have hst : rk SH PR PT ns (i+1):=fun k n q hk hn hq'=>by
    by_cases e : k=i
    ·subst e;rw [hx] at hn;rw [hp] at hq';injection hn with hn;injection hq' with hq';subst hn;subst hq';exact hsp
    ·exact hq k n q (by omega) hn hq'
   with_reducible repeat' (first|refine Sp.h ?_|((first|refine Wd ?_|refine Ss.h ?_|refine Sc.h (cs) ?_|(refine Sb.h ?_ ?_ ?_<;>(try intro hgd)<;>try exact Xy))<;>simp -implicitDefEqProofs (maxSteps:=2000000) [hP,hN,g2,g7,g8,g10,hlt,hlt',hltn,hle,hx,hxe,hwr,hA,hAe,hB,hBe,hLA,hLB]<;>try refine Ya ?_)|refine X2 ?_ ?_|(refine Xd ?_ ?_<;>intro hcd<;>try exact Xx))
   all_goals exact hst
  |false=>
   rw [hsp] at cs
   rw [ql hx hp hsp]
   with_reducible repeat' (first|refine Sp.h ?_|((first|refine Wd ?_|refine Ss.h ?_|refine Sc.h (cs) ?_|(refine Sb.h ?_ ?_ ?_<;>(try intro hgd)<;>try exact Xy))<;>simp -implicitDefEqProofs (maxSteps:=2000000) [hP,hN,g2,g7,g8,g10,hlt,hlt',hltn,hle,hx,hxe,hwr,hA,hAe,hB,hBe,hLA,hLB]<;>try refine Ya ?_)|refine X2 ?_ ?_|(refine Xd ?_ ?_<;>intro hcd<;>try exact Xx))
 ·have hin : i=PR.length:=by omega
  subst hin
  rw [nD hle (by rw [hle];exact hq)]
  with_reducible repeat' (first|refine Sp.h ?_|((first|refine Wd ?_|refine Ss.h ?_|(refine Sb.h ?_ ?_ ?_<;>(try intro hgd)<;>try exact Xy))<;>simp -implicitDefEqProofs (maxSteps:=2000000) [hP,hN,g2,g7,g8,g10,hLA,hLB]<;>try refine Ya ?_)|refine X2 ?_ ?_|(refine Xd ?_ ?_<;>intro hcd<;>try exact Xx))
theorem Le (s : Sce) (bx : List Iv) (w : Wit) (hs : ScL s) (hbl : bx.length≤9223372036854775807) (ha : w.a.length≤9223372036854775807) (hwb : w.b.length≤9223372036854775807) : ab Tryz.prog 54 [.pv (f0 s),.pv (iv bx),.pv (DZ w)] [] [] (.pv (B (gv s bx w))):=by
 have cp:=Ga s bx hs hbl
 have hd : gv s bx w=(cS s bx && qm s.shs (bv s) (bj s bx) w):=rfl
 cases hp : cS s bx with
 |false=>
  rw [hp] at cp hd
  simp only [Bool.false_eq_true,if_false,Bool.false_and] at cp hd
  rw [hd]
  refine Dp Tryz.func54 ?_
  intro C hP hN
  simp only [Tryz.f54] at hN ⊢
  with_reducible repeat' (first|refine Sp.h ?_|((first|refine Wd ?_|refine Ss.h ?_|refine Sc.h (cp) ?_|(refine Sb.h ?_ ?_ ?_<;>(try intro hgd)<;>try exact Xy))<;>simp -implicitDefEqProofs (maxSteps:=2000000) [hP,hN]<;>try refine Ya ?_)|refine X2 ?_ ?_|(refine Xd ?_ ?_<;>intro hcd<;>try exact Xx))
 |true=>
 rw [hp] at cp hd
 simp only [if_true,Bool.true_and] at cp hd
 have hb:=uA hp
 rw [hd]
 simp only [qE,qF] at cp
 generalize bv s=PR at *
 generalize bj s bx=PT at *
 generalize s.shs=SH at *
 have hpl:=hb.few
 have hAt:=fun (i : Nat) (p : Nat × Nat) (h : PR[i]?=some p)=>xW (SH:=SH) (PT:=PT) h
 have hBt:=fun (i : Nat) (p : Nat × Nat) (h : PR[i]?=some p)=>xX (SH:=SH) (PT:=PT) h
 have hLA : (PR.map (nG SH PT)).length=PR.length:=by simp
 have hLB : (PR.map (nH SH PT)).length=PR.length:=by simp
 generalize PR.map (nG SH PT)=LA at *
 generalize PR.map (nH SH PT)=LB at *
 by_cases h0 : w.pair < 0
 ·have hf : qm SH PR PT w=false:=by unfold qm;rw [decide_eq_false (by omega)];rfl
  rw [hf]
  refine Dp Tryz.func54 ?_
  intro C hP hN
  simp only [Tryz.f54] at hN ⊢
  with_reducible repeat' (first|refine Sp.h ?_|((first|refine Wd ?_|refine Ss.h ?_|refine Sc.h (cp) ?_|(refine Sb.h ?_ ?_ ?_<;>(try intro hgd)<;>try exact Xy))<;>simp -implicitDefEqProofs (maxSteps:=2000000) [hP,hN,h0,hLA]<;>try refine Ya ?_)|refine X2 ?_ ?_|(refine Xd ?_ ?_<;>intro hcd<;>try exact Xx))
 obtain ⟨k,hk⟩ : ∃ k : Nat,w.pair=k:=⟨w.pair.toNat,by omega⟩
 have hcd : qm SH PR PT w=match PR[k]? with
  |some p=>jB SH PT w.a w.b p
  |none=>false:=by unfold qm;rw [hk,decide_eq_true (by omega)];simp only [Bool.true_and,Int.toNat_natCast];rfl
 by_cases h1 : k < PR.length
 ·obtain ⟨p,hp⟩ : ∃ p,PR[k]?=some p:=⟨_,List.getElem?_eq_getElem h1⟩
  rw [hp] at hcd
  simp only at hcd
  have h1' : ¬ (PR.length : Int)≤k:=by omega
  have h1'' : ¬ PR.length≤k:=by omega
  have hA:=hAt k p hp
  have hB:=hBt k p hp
  have hAe : ∀ h,LA[k]'h=.agg [aF (bL PT p.1),Z (bM SH p.1)]:=fun h=>by rw [List.getElem?_eq_getElem h] at hA;exact Option.some.inj hA
  have hBe : ∀ h,LB[k]'h=.agg [aF (bL PT p.2),Z (bM SH p.2)]:=fun h=>by rw [List.getElem?_eq_getElem h] at hB;exact Option.some.inj hB
  have co:=Ht w.a w.b (bL PT p.1) (bM SH p.1) (bL PT p.2) (bM SH p.2) ha hwb (mu hb _) (mu hb _)
  have hod : jB SH PT w.a w.b p=(jY w.a w.b (bL PT p.1) (bM SH p.1) (bL PT p.2) (bM SH p.2) && decide (0≤jp w.a w.b (bL PT p.1) (bM SH p.1) (bL PT p.2) (bM SH p.2))):=rfl
  rw [← hod] at co
  rw [hcd]
  generalize jB SH PT w.a w.b p=o at *
  refine Dp Tryz.func54 ?_
  intro C hP hN
  simp only [Tryz.f54] at hN ⊢
  with_reducible repeat' (first|refine Sp.h ?_|((first|refine Wd ?_|refine Ss.h ?_|refine Sc.h (cp) ?_|refine Sc.h (co) ?_|(refine Sb.h ?_ ?_ ?_<;>(try intro hgd)<;>try exact Xy))<;>simp -implicitDefEqProofs (maxSteps:=2000000) [hP,hN,hk,h1,h1',h1'',hA,hAe,hB,hBe,hLA,hLB]<;>try refine Ya ?_)|refine X2 ?_ ?_|(refine Xd ?_ ?_<;>intro hcd<;>try exact Xx))
 ·have hn : PR[k]?=none:=List.getElem?_eq_none (by omega)
  rw [hn] at hcd
  simp only at hcd
  rw [hcd]
  have h1' : (PR.length : Int)≤k:=by omega
  have h1'' : PR.length≤k:=by omega
  refine Dp Tryz.func54 ?_
  intro C hP hN
  simp only [Tryz.f54] at hN ⊢
  with_reducible repeat' (first|refine Sp.h ?_|((first|refine Wd ?_|refine Ss.h ?_|refine Sc.h (cp) ?_|(refine Sb.h ?_ ?_ ?_<;>(try intro hgd)<;>try exact Xy))<;>simp -implicitDefEqProofs (maxSteps:=2000000) [hP,hN,hk,h1',h1'',hLA]<;>try refine Ya ?_)|refine X2 ?_ ?_|(refine Xd ?_ ?_<;>intro hcd<;>try exact Xx))
theorem Lf (w : Wit) : ab Tryz.prog 92 [.pv (DZ w)] [] [] (.pv (B (decide (w.pair=0) && decide (w.a.length=0) && decide (w.b.length=0)))):=by
 refine Dp Tryz.func92 ?_
 intro C hP hN
 simp only [Tryz.f92] at hN ⊢
 with_reducible repeat' (first|refine Sp.h ?_|((first|refine Ss.h ?_|(refine Sb.h ?_ ?_ ?_<;>(try intro hgd)<;>try exact Xy))<;>simp -implicitDefEqProofs (maxSteps:=2000000) [hP,hN])|refine X2 ?_ ?_|(refine Xd ?_ ?_<;>intro hcd<;>try exact Xx))
 all_goals ((try simp only [yb] at *);simp_all)
theorem Lg (s : Sce) (bx : List Iv) (v : Vd) (hs : ScL s) (hbl : bx.length≤9223372036854775807) (hn : v.ns.length≤9223372036854775807) (ha : v.w.a.length≤9223372036854775807) (hb : v.w.b.length≤9223372036854775807) : ab Tryz.prog 23 [.pv (f0 s),.pv (iv bx),.pv (D0 v)] [] [] (.pv (B (fV s bx v))):=by
 have c1:=Ld s bx v.ns hs hbl hn
 have c2:=Le s bx v.w hs hbl ha hb
 have ce:=Lf v.w
 have hd : fV s bx v=if v.kind=1∧v.w.pair=0∧v.w.a.length=0∧v.w.b.length=0 then fu s bx v.ns else if v.kind=2∧v.ns.length=0 then gv s bx v.w else false:=rfl
 rw [hd]
 obtain ⟨k,ns,⟨pr,A,D⟩⟩:=v
 simp only at *
 generalize fu s bx ns=h1 at *
 generalize gv s bx ⟨pr,A,D⟩=h2 at *
 by_cases e1 : k=1
 ·subst e1
  by_cases e2 : pr=0∧A.length=0∧D.length=0
  ·obtain ⟨e2,e3,e4⟩:=e2
   rw [if_pos ⟨rfl,e2,e3,e4⟩]
   rw [decide_eq_true e2,decide_eq_true e3,decide_eq_true e4] at ce
   refine Dp Tryz.func23 ?_
   intro C hP hN
   simp only [Tryz.f23] at hN ⊢
   with_reducible repeat' (first|refine Sp.h ?_|((first|refine Ss.h ?_|refine Sc.h (ce) ?_|refine Sc.h (c1) ?_|refine Sc.h (c2) ?_|(refine Sb.h ?_ ?_ ?_<;>(try intro hgd)<;>try exact Xy))<;>simp -implicitDefEqProofs (maxSteps:=2000000) [hP,hN])|refine X2 ?_ ?_|(refine Xd ?_ ?_<;>intro hcd<;>try exact Xx))
  ·rw [if_neg (fun h=>e2 h.2),if_neg (fun h=>by have:=h.1;omega)]
   have ef : (decide (pr=0) && decide (A.length=0) && decide (D.length=0))=false:=by
    rw [Bool.eq_false_iff]
    simp only [ne_eq,Bool.and_eq_true,decide_eq_true_eq]
    exact fun h=>e2 ⟨h.1.1,h.1.2,h.2⟩
   rw [ef] at ce
   refine Dp Tryz.func23 ?_
   intro C hP hN
   simp only [Tryz.f23] at hN ⊢
   with_reducible repeat' (first|refine Sp.h ?_|((first|refine Ss.h ?_|refine Sc.h (ce) ?_|refine Sc.h (c1) ?_|refine Sc.h (c2) ?_|(refine Sb.h ?_ ?_ ?_<;>(try intro hgd)<;>try exact Xy))<;>simp -implicitDefEqProofs (maxSteps:=2000000) [hP,hN])|refine X2 ?_ ?_|(refine Xd ?_ ?_<;>intro hcd<;>try exact Xx))
 ·have b1 : (k==1)=false:=by simp [e1]
  rw [if_neg (fun h=>e1 h.1)]
  by_cases e2 : k=2
  ·subst e2
   by_cases e3 : ns.length=0
   ·have hnn : ns=[]:=List.eq_nil_of_length_eq_zero e3
    subst hnn
    rw [if_pos ⟨rfl,rfl⟩]
    refine Dp Tryz.func23 ?_
    intro C hP hN
    simp only [Tryz.f23] at hN ⊢
    with_reducible repeat' (first|refine Sp.h ?_|((first|refine Ss.h ?_|refine Sc.h (ce) ?_|refine Sc.h (c1) ?_|refine Sc.h (c2) ?_|(refine Sb.h ?_ ?_ ?_<;>(try intro hgd)<;>try exact Xy))<;>simp -implicitDefEqProofs (maxSteps:=2000000) [hP,hN])|refine X2 ?_ ?_|(refine Xd ?_ ?_<;>intro hcd<;>try exact Xx))
   ·have e3' : ¬ (ns.length : Int)=0:=by omega
    have e3'' : ((ns.length : Int)==0)=false:=by rw [beq_eq_false_iff_ne];omega
    rw [if_neg (fun h=>e3 h.2)]
    refine Dp Tryz.func23 ?_
    intro C hP hN
    simp only [Tryz.f23] at hN ⊢
    with_reducible repeat' (first|refine Sp.h ?_|((first|refine Ss.h ?_|refine Sc.h (ce) ?_|refine Sc.h (c1) ?_|refine Sc.h (c2) ?_|(refine Sb.h ?_ ?_ ?_<;>(try intro hgd)<;>try exact Xy))<;>simp -implicitDefEqProofs (maxSteps:=2000000) [hP,hN,e3,e3',e3''])|refine X2 ?_ ?_|(refine Xd ?_ ?_<;>intro hcd<;>try exact Xx))
  ·have b2 : (k==2)=false:=by simp [e2]
   rw [if_neg (fun h=>e2 h.1)]
   refine Dp Tryz.func23 ?_
   intro C hP hN
   simp only [Tryz.f23] at hN ⊢
   with_reducible repeat' (first|refine Sp.h ?_|((first|refine Ss.h ?_|refine Sc.h (ce) ?_|refine Sc.h (c1) ?_|refine Sc.h (c2) ?_|(refine Sb.h ?_ ?_ ?_<;>(try intro hgd)<;>try exact Xy))<;>simp -implicitDefEqProofs (maxSteps:=2000000) [hP,hN,e1,e2,b1,b2])|refine X2 ?_ ?_|(refine Xd ?_ ?_<;>intro hcd<;>try exact Xx))
end Go.Ab
namespace Go.Ab
open Go.Proofs
theorem B2 {b : Bx} (hb : dl b=true) {V : Verd} (hf : dD V=true) {j : Int} (hs : dx ⟨b,[aE V]⟩ 0 j=true) :
 bB b j=true∧(bw ⟨b,[aE V]⟩ 0 j).root=b∧(bw ⟨b,[aE V]⟩ 0 j).cells.length=3∧(bw ⟨b,[aE V]⟩ 0 j).cells[1]?=some (aE V)∧(bw ⟨b,[aE V]⟩ 0 j).cells[2]?=some (aE V)∧
  eF (bw ⟨b,[aE V]⟩ 0 j) 1=true∧kp (bw ⟨b,[aE V]⟩ 0 j) 1=bu b j∧eF (bw ⟨b,[aE V]⟩ 0 j) 2=true∧kp (bw ⟨b,[aE V]⟩ 0 j) 2=bF b j:=by
 have hbx : cw ⟨b,[aE V]⟩=some [some b]:=by
  have hs : eW ⟨b,[aE V]⟩=true:=by simp [eW,hb]
  rw [cw,if_pos hs]
  simp only [iw,List.length_singleton,Nat.sub_self,List.replicate,jd]
  rw [jL (t:=⟨b,[]⟩) (b:=b) rfl (mo _),if_pos (show dD (aE V).v=true from hf)]
 have hv : aV ⟨b,[aE V]⟩=true:=by rw [aV,hbx];rfl
 have hbl : aM ⟨b,[aE V]⟩=[b]:=by simp [aM,hbx]
 have hba : aQ ⟨b,[aE V]⟩ ((0 : Nat) : Int)=b:=by simp [aQ,hbl]
 have hs0:=hs
 simp only [dx,Bool.and_eq_true] at hs0
 have hh : bB b j=true:=by
  have:=hs0.2
  rw [hbl] at this
  exact this
 obtain ⟨s1,s2,_⟩:=BW hv (k:=0) hs
 obtain ⟨v1,v2,_⟩:=yS hv 0 j
 have hT : bw ⟨b,[aE V]⟩ 0 j=⟨b,[⟨j,1,2,dh⟩,aE V,aE V]⟩:=by
  rw [bw,if_pos hs];rfl
 rw [hba,hbl] at s1
 have e1:=vK v1 (i:=1) (by have : (bw ⟨b,[aE V]⟩ 0 j).cells.length=3:=s2;omega)
 have e2:=vK v1 (i:=2) (by have : (bw ⟨b,[aE V]⟩ 0 j).cells.length=3:=s2;omega)
 have g1 : aQ (bw ⟨b,[aE V]⟩ 0 j) ((1 : Nat) : Int)=bu b j:=by
  have : aM (bw ⟨b,[aE V]⟩ 0 j)=[b]++[bu b j,bF b j]:=s1
  simp [aQ,this]
 have g2 : aQ (bw ⟨b,[aE V]⟩ 0 j) ((2 : Nat) : Int)=bF b j:=by
  have : aM (bw ⟨b,[aE V]⟩ 0 j)=[b]++[bu b j,bF b j]:=s1
  simp [aQ,this]
 rw [g1] at e1
 rw [g2] at e2
 exact ⟨hh,v2,s2,by rw [hT];rfl,by rw [hT];rfl,e1.1,e1.2,e2.1,e2.2⟩
theorem AS {b : Bx} (hb : dl b=true) {V : Verd} (hf : dD V=true) : cD ⟨b,[aE dh]⟩ 0 V=true∧kM ⟨b,[aE dh]⟩ 0 V=⟨b,[aE V]⟩:=by
 have hv : aV ⟨b,[aE dh]⟩=true:=by rw [vP];exact hb
 have h : cD ⟨b,[aE dh]⟩ 0 V=true:=by
  simp only [cD,hv,hf,Bool.true_and,Bool.and_true]
  rfl
 exact ⟨h,by rw [kM,if_pos h];rfl⟩
theorem d3 (l m : List Int) (joint : Int) : ab Tryz.prog 3 [.pv (zs l),.pv (zs m),.pv (Z joint)] [] [] (.pv (B true)):=by
 have c0:=Lw
 have c1:=KT l
 have hL:=FE l
 have hj:=zd l 0
 have c2:=KO m (jo l 0) (oq l 0) (by omega) (Bo l 0)
 have hjs : (lL l).js=jo l 0:=rfl
 have hms : (lL l).ms=oq l 0:=rfl
 have hbl:=Bz m (jo l 0)
 have hv:=yM (l:=m) (Bo l 0)
 generalize eT m (jo l 0)=b at *
 rw [← hjs,← hms] at c2
 have hroot : dl b=true:=by
  simp only [dl,Bool.and_eq_true,decide_eq_true_eq]
  exact ⟨⟨by omega,by omega⟩,fX.2 fun x hx=>hv x hx⟩
 have hnt:=B1 hroot
 have c3:=HC b (by omega)
 rw [hroot,hnt] at c3
 have c4:=La (lL l) b [] hL (by omega) (by simp)
 simp only [aX,List.map_nil] at c4
 have hvl:=CJ (lL l) b []
 have hf:=BZ (lL l) b []
 have hk:=B0 (lL l) b []
 have ck:=fun (bx : List Iv) (hb : bx.length≤9223372036854775807)=>Lg (lL l) bx (ip (lL l) b []) hL hb (by omega) (by omega) (by omega)
 generalize lL l=s at *
 generalize ip s b []=V at *
 have hsub:=fun (bx : List Iv) (h : kK bx b) (h2 : fV s b V=true)=>AR h h2
 obtain ⟨k,ns,⟨pr,A,D⟩⟩:=V
 simp only [ya] at hf hk hvl c4 ck
 obtain ⟨hset,hst⟩:=AS hroot hf
 have c5:=Lt ⟨b,[aE dh]⟩ 0 ⟨k,ns,pr,A,D⟩ ⟨by simp only;omega,by simp,fun c hc=>by simp at hc;subst hc;exact Dy _⟩ ⟨by simp only;omega,by simp only;omega,by simp only;omega⟩
 rw [hset,hst] at c5
 obtain ⟨j,hjr,hjl⟩:=Gr (i:=joint) (n:=b.length) (by omega) (by omega)
 have c6:=Hi joint (b.length : Int) (by omega)
 rw [hjr] at c6
 have c7:=HD ⟨b,[aE ⟨k,ns,pr,A,D⟩]⟩ 0 (j : Int) ⟨by simp only;omega,by simp,fun c hc=>by simp at hc;subst hc;exact ⟨by simp only [aE];omega,by simp only [aE];omega,by simp only [aE];omega⟩⟩
 have hsp:=B2 (j:=(j : Int)) hroot hf
 have htno : dx ⟨b,[aE ⟨k,ns,pr,A,D⟩]⟩ 0 (j : Int)=false→bw ⟨b,[aE ⟨k,ns,pr,A,D⟩]⟩ 0 (j : Int)=⟨b,[aE ⟨k,ns,pr,A,D⟩]⟩:=fun h=>by rw [bw,if_neg (by simp [h])]
 cases hsk : dx ⟨b,[aE ⟨k,ns,pr,A,D⟩]⟩ 0 (j : Int) with
 |false=>
  rw [hsk,htno hsk] at c7
  refine Dp Tryz.func3 ?_
  intro C hP hN
  simp only [Tryz.f3] at hN ⊢
  with_reducible repeat' (first|refine Sp.h ?_|((first|refine Wd ?_|refine Ss.h ?_|refine Sc.h (c1) ?_|refine Sc.h (c2) ?_|refine Sc.h (c3) ?_|refine Sc.h (c4) ?_|refine Sc.h (c5) ?_|refine Sc.h (c6) ?_|refine Sc.h (c7) ?_|refine Sc.h (c0) ?_|(refine Sb.h ?_ ?_ ?_<;>(try intro hgd)<;>try exact Xy))<;>simp -implicitDefEqProofs (maxSteps:=2000000) [hP,hN,hjr]<;>try refine Ya ?_)|refine X2 ?_ ?_|(refine Xd ?_ ?_<;>intro hcd<;>try exact Xx))
 |true=>
  obtain ⟨hh,u1,u2,u3,u4,u5,u6,u7,u8⟩:=hsp hsk
  rw [hsk] at c7
  have c8:=Gx (bw ⟨b,[aE ⟨k,ns,pr,A,D⟩]⟩ 0 (j : Int)) 1 (by omega)
  have c9:=Gx (bw ⟨b,[aE ⟨k,ns,pr,A,D⟩]⟩ 0 (j : Int)) 2 (by omega)
  rw [u5,u6] at c8
  rw [u7,u8] at c9
  obtain ⟨la,lz⟩:=qJ hh
  have cA:=ck (bu b j) (by omega)
  have cZ:=ck (bF b j) (by omega)
  have hA : k=0∨fV s (bu b j) ⟨k,ns,⟨pr,A,D⟩⟩=true:=hk.imp id (hsub _ (vL hh).1)
  have hZ : k=0∨fV s (bF b j) ⟨k,ns,⟨pr,A,D⟩⟩=true:=hk.imp id (hsub _ (vL hh).2)
  generalize fV s (bu b j) ⟨k,ns,⟨pr,A,D⟩⟩=x1 at *
  generalize fV s (bF b j) ⟨k,ns,⟨pr,A,D⟩⟩=x2 at *
  generalize bu b j=bA at *
  generalize bF b j=bZ at *
  generalize bw ⟨b,[aE ⟨k,ns,pr,A,D⟩]⟩ 0 (j : Int)=u at *
  have i1 : 1 < u.cells.length:=by omega
  have i2 : 2 < u.cells.length:=by omega
  have u3' : ∀ h,u.cells[1]'h=aE ⟨k,ns,pr,A,D⟩:=fun h=>kh u3 h
  have u4' : ∀ h,u.cells[2]'h=aE ⟨k,ns,pr,A,D⟩:=fun h=>kh u4 h
  have hu2 : (u.cells.length : Int)=3:=by omega
  refine Dp Tryz.func3 ?_
  intro C hP hN
  simp only [Tryz.f3] at hN ⊢
  with_reducible repeat' (first|refine Sp.h ?_|((first|refine Wd ?_|refine Ss.h ?_|refine Sc.h (c1) ?_|refine Sc.h (c2) ?_|refine Sc.h (c3) ?_|refine Sc.h (c4) ?_|refine Sc.h (c5) ?_|refine Sc.h (c6) ?_|refine Sc.h (c7) ?_|(refine Sb.h ?_ ?_ ?_<;>(try intro hgd)<;>try exact Xy))<;>simp -implicitDefEqProofs (maxSteps:=2000000) [hP,hN,hjr]<;>try refine Ya ?_)|refine X2 ?_ ?_|(refine Xd ?_ ?_<;>intro hcd<;>try exact Xx))
  refine WP.loopN [] 2 (fun i st=>st.t 7=.ptr 7 0∧st.h 7=some (.box [.pv (.sl (s.js.map cJ)),.pv (.sl (s.ms.map cT)),.pv (.sl (s.shs.map dg)),.pv (.sl (s.sks.map aO))] true false)∧st.t 9=.ptr 9 0∧st.h 9=some (.box [.pv (iv u.root),.pv (.sl (u.cells.map jD))] true false)∧st.t 11=.ptr 11 0∧st.h 11=some (.box [.pv (Z k),.pv (aX ns),.pv (Z pr),.pv (zs A),.pv (zs D)] true false)∧st.t 13=.pv (Z (1+(i : Int)))) (by simp) ?_
  rintro i st hi ⟨g7,hb7,g9,hb9,g11,hb11,g13⟩
  have h3 : i=0∨i=1∨i=2:=by omega
  by_cases hk0 : k=0
  ·subst hk0
   rcases h3 with rfl|rfl|rfl
   ·skip
    with_reducible repeat' (first|refine Sp.h ?_|((first|refine Wd ?_|refine Ss.h ?_|refine Sc.h (c8) ?_|refine Sc.h (c9) ?_|(refine Sb.h ?_ ?_ ?_<;>(try intro hgd)<;>try exact Xy))<;>simp -implicitDefEqProofs (maxSteps:=2000000) [hP,hN,g7,hb7,g9,hb9,g11,hb11,g13,hu2,u2,i1,i2,u3,u4,u3',u4',aE]<;>try refine Ya ?_)|refine X2 ?_ ?_|(refine Xd ?_ ?_<;>intro hcd<;>try exact Xx))
   ·skip
    with_reducible repeat' (first|refine Sp.h ?_|((first|refine Wd ?_|refine Ss.h ?_|refine Sc.h (c8) ?_|refine Sc.h (c9) ?_|(refine Sb.h ?_ ?_ ?_<;>(try intro hgd)<;>try exact Xy))<;>simp -implicitDefEqProofs (maxSteps:=2000000) [hP,hN,g7,hb7,g9,hb9,g11,hb11,g13,hu2,u2,i1,i2,u3,u4,u3',u4',aE]<;>try refine Ya ?_)|refine X2 ?_ ?_|(refine Xd ?_ ?_<;>intro hcd<;>try exact Xx))
   ·skip
    with_reducible repeat' (first|refine Sp.h ?_|((first|refine Wd ?_|refine Ss.h ?_|refine Sc.h (c0) ?_|(refine Sb.h ?_ ?_ ?_<;>(try intro hgd)<;>try exact Xy))<;>simp -implicitDefEqProofs (maxSteps:=2000000) [hP,hN,g7,hb7,g9,hb9,g11,hb11,g13]<;>try refine Ya ?_)|refine X2 ?_ ?_|(refine Xd ?_ ?_<;>intro hcd<;>try exact Xx))
  ·have hk0' : (k !=0)=true:=by simp [hk0]
   rw [hA.resolve_left hk0] at cA
   rw [hZ.resolve_left hk0] at cZ
   rcases h3 with rfl|rfl|rfl
   ·skip
    with_reducible repeat' (first|refine Sp.h ?_|((first|refine Wd ?_|refine Ss.h ?_|refine Sc.h (c8) ?_|refine Sc.h (c9) ?_|refine Sc.h (cA) ?_|refine Sc.h (cZ) ?_|(refine Sb.h ?_ ?_ ?_<;>(try intro hgd)<;>try exact Xy))<;>simp -implicitDefEqProofs (maxSteps:=2000000) [hP,hN,g7,hb7,g9,hb9,g11,hb11,g13,hu2,u2,i1,i2,u3,u4,u3',u4',aE,hk0,hk0']<;>try refine Ya ?_)|refine X2 ?_ ?_|(refine Xd ?_ ?_<;>intro hcd<;>try exact Xx))
   ·skip
    with_reducible repeat' (first|refine Sp.h ?_|((first|refine Wd ?_|refine Ss.h ?_|refine Sc.h (c8) ?_|refine Sc.h (c9) ?_|refine Sc.h (cA) ?_|refine Sc.h (cZ) ?_|(refine Sb.h ?_ ?_ ?_<;>(try intro hgd)<;>try exact Xy))<;>simp -implicitDefEqProofs (maxSteps:=2000000) [hP,hN,g7,hb7,g9,hb9,g11,hb11,g13,hu2,u2,i1,i2,u3,u4,u3',u4',aE,hk0,hk0']<;>try refine Ya ?_)|refine X2 ?_ ?_|(refine Xd ?_ ?_<;>intro hcd<;>try exact Xx))
   ·skip
    with_reducible repeat' (first|refine Sp.h ?_|((first|refine Wd ?_|refine Ss.h ?_|refine Sc.h (c0) ?_|(refine Sb.h ?_ ?_ ?_<;>(try intro hgd)<;>try exact Xy))<;>simp -implicitDefEqProofs (maxSteps:=2000000) [hP,hN,g7,hb7,g9,hb9,g11,hb11,g13]<;>try refine Ya ?_)|refine X2 ?_ ?_|(refine Xd ?_ ?_<;>intro hcd<;>try exact Xx))
end Go.Ab
