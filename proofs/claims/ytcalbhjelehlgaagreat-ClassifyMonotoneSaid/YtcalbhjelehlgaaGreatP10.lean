/- The contracts and facts that the laws of this seat need, in one text (KM5, KR1, KL1). -/
import Derived.Test.YtcalbhjelehlgaaGreatP9
set_option linter.all false
namespace Go.Ab
open Go.Proofs
theorem subB_box {s : Sce} {a b : List Iv} (h : SubB a b) (hp : placeOk s b=true) : placeOk s a=true:=by
 simp only [placeOk,isBoxB,allB,Bool.and_eq_true,decide_eq_true_eq,List.all_eq_true] at hp ⊢
 refine ⟨hp.1,by rw [h.1];exact hp.2.1,fun x hx=>?_⟩
 obtain ⟨k,hk⟩:=List.getElem?_of_mem hx
 have hlt : k < a.length:=(List.getElem?_eq_some_iff.1 hk).1
 have hb : b[k]?=some (b[k]'(by rw [← h.1];exact hlt)):=List.getElem?_eq_getElem _
 exact (h.2 k _ _ hk hb).vx
theorem ptO_sub (s : Sce) {a b : List Iv} (h : SubB a b) (i : Nat) : SubVs (ptO (pointsL s a) i) (ptO (pointsL s b) i):=pointsL_sub s h i
theorem sepK_sub {s : Sce} {a b : List Iv} (h : SubB a b) {n : Vc} {p : Nat × Nat} (hs : sepK s.shs (pointsL s b) n p=true) : sepK s.shs (pointsL s a) n p=true:=sepB_sub (ptO_sub s h _) (ptO_sub s h _) hs
theorem ovlK_sub {s : Sce} {a b : List Iv} (h : SubB a b) {x y : List Int} {p : Nat × Nat} (hs : ovlK s.shs (pointsL s b) x y p=true) : ovlK s.shs (pointsL s a) x y p=true:=by
 simp only [ovlK,Bool.and_eq_true,decide_eq_true_eq] at hs ⊢
 exact excess_sub (ptO_sub s h _) (ptO_sub s h _) hs.1 hs.2
theorem sepK_ovlK {SH : List Sh} {PT : List (List IVc)} {n : Vc} {p : Nat × Nat} {x y : List Int} (h1 : sepK SH PT n p=true) (h2 : ovlK SH PT x y p=true) : False:=by
 simp only [ovlK,Bool.and_eq_true,decide_eq_true_eq] at h2
 exact sep_ovl h1 h2.1 h2.2
theorem sepAll_iff {SH : List Sh} {PR : List (Nat × Nat)} {PT : List (List IVc)} {ns : List Vc} : sepAllB SH PR PT ns=true↔ns.length=PR.length∧sepTo SH PR PT ns ns.length:=by
 constructor
 ·intro h
  have hl : ns.length=PR.length:=by simp only [sepAllB,Bool.and_eq_true,decide_eq_true_eq] at h;exact h.1
  refine ⟨hl,fun k n p hk hn hp=>?_⟩
  cases hs : sepK SH PT n p with
  |true=>rfl
  |false=>rw [sepAllB_f hn hp hs] at h;cases h
 ·exact fun h=>sepAllB_t h.1 h.2
theorem holdsSep_sub {s : Sce} {a b : List Iv} (h : SubB a b) {ns : List Vc} (hs : holdsSep s b ns=true) : holdsSep s a ns=true:=by
 simp only [holdsSep,Bool.and_eq_true] at hs ⊢
 refine ⟨subB_box h hs.1,?_⟩
 rw [sepAll_iff] at hs ⊢
 exact ⟨hs.2.1,fun k n p hk hn hp=>sepK_sub h (hs.2.2 k n p hk hn hp)⟩
theorem col_iff {SH : List Sh} {PR : List (Nat × Nat)} {PT : List (List IVc)} {w : Wit} : colB SH PR PT w=true↔∃ p,0≤w.pair∧PR[w.pair.toNat]?=some p∧ovlK SH PT w.a w.b p=true:=by
 unfold colB
 cases h : PR[w.pair.toNat]? with
 |none=>simp
 |some p=>simp
theorem holdsCol_sub {s : Sce} {a b : List Iv} (h : SubB a b) {w : Wit} (hs : holdsCol s b w=true) : holdsCol s a w=true:=by
 simp only [holdsCol,Bool.and_eq_true] at hs ⊢
 refine ⟨subB_box h hs.1,?_⟩
 rw [col_iff] at hs ⊢
 obtain ⟨_,p,h0,hp,ho⟩:=hs
 exact ⟨p,h0,hp,ovlK_sub h ho⟩
theorem sep_not_col {s : Sce} {b : List Iv} {ns : List Vc} {w : Wit} (h1 : holdsSep s b ns=true) : holdsCol s b w=false:=by
 cases h2 : holdsCol s b w with
 |false=>rfl
 |true=>
  exfalso
  simp only [holdsSep,holdsCol,Bool.and_eq_true,sepAll_iff,col_iff] at h1 h2
  obtain ⟨_,hl,hs⟩:=h1
  obtain ⟨_,p,h0,hp,ho⟩:=h2
  have hk : w.pair.toNat < ns.length:=by rw [hl];exact (List.getElem?_eq_some_iff.1 hp).1
  exact sepK_ovlK (hs _ _ p hk (List.getElem?_eq_getElem hk) hp) ho
theorem col_not_sep {s : Sce} {b : List Iv} {ns : List Vc} {w : Wit} (h1 : holdsCol s b w=true) : holdsSep s b ns=false:=by
 cases h2 : holdsSep s b ns with
 |false=>rfl
 |true=>rw [sep_not_col h2] at h1;cases h1
theorem clrN_sub {s : Sce} {a b : List Iv} (h : SubB a b) {ns : List Vc} (hs : holdsSep s b ns=true) : ∀ i,i≤ns.length→clrN s.shs (pairsL s) (pointsL s b) ns i≤clrN s.shs (pairsL s) (pointsL s a) ns i
 |0,_=>Int.le_refl _
 |i+1,hi=>by
  have ih:=clrN_sub h hs i (by omega)
  have hl : ns.length=(pairsL s).length:=by simp only [holdsSep,Bool.and_eq_true,sepAll_iff] at hs;exact hs.2.1
  have hn : ns[i]?=some (ns[i]'(by omega)):=List.getElem?_eq_getElem _
  have hp : (pairsL s)[i]?=some ((pairsL s)[i]'(by omega)):=List.getElem?_eq_getElem _
  rw [clr_succ hn hp,clr_succ hn hp]
  have hk : sepK s.shs (pointsL s b) (ns[i]'(by omega)) ((pairsL s)[i]'(by omega))=true:=by
   simp only [holdsSep,Bool.and_eq_true,sepAll_iff] at hs
   exact hs.2.2 i _ _ (by omega) hn hp
  simp only [sepK,sepB,Bool.and_eq_true] at hk
  have hnp:=norm_pos hk.1
  have hm:=margin_sub (n:=ns[i]'(by omega)) (ra:=rdO s.shs ((pairsL s)[i]'(by omega)).1) (rb:=rdO s.shs ((pairsL s)[i]'(by omega)).2) (ptO_sub s h ((pairsL s)[i]'(by omega)).1) (ptO_sub s h ((pairsL s)[i]'(by omega)).2)
  have:=Int.ediv_le_ediv (show 0 < normI (ns[i]'(by omega)) by omega) hm
  simp only [clrK]
  omega
theorem clrV_sub {s : Sce} {a b : List Iv} (h : SubB a b) {ns : List Vc} (hs : holdsSep s b ns=true) : clrV s b ns≤clrV s a ns:=by
 simp only [clrV,hs,holdsSep_sub h hs,if_true]
 exact clrN_sub h hs _ (Nat.le_refl _)
section
variable {SH : List Sh} {PR : List (Nat × Nat)} {PT : List (List IVc)} {hs : List Vc}
theorem bxGo_all : ∀ f k,k+f=PR.length→(∀ j p,k≤j→PR[j]?=some p→(bxF SH PT hs j p).2=true)→bxGo SH PR PT hs f k true=⟨1,bxFound SH PR PT hs,⟨0,[],[]⟩⟩
 |0,k,_,_=>rfl
 |f+1,k,hk,h=>by
  have hp : PR[k]?=some (PR[k]'(by omega)):=List.getElem?_eq_getElem _
  simp only [bxGo,hp,h k _ (Nat.le_refl _) hp,if_true]
  exact bxGo_all f (k+1) (by omega) fun j p hj hp=>h j p (by omega) hp
theorem bxGo_is : ∀ f k ap,k+f=PR.length→(∃ (j : Nat) (p : Nat × Nat),PR[j]?=some p∧bxGo SH PR PT hs f k ap=⟨2,[],⟨j,(bxN SH PT p).2.w,(bxN SH PT p).2.v⟩⟩∧ovlK SH PT (bxN SH PT p).2.w (bxN SH PT p).2.v p=true)∨(bxGo SH PR PT hs f k ap=⟨1,bxFound SH PR PT hs,⟨0,[],[]⟩⟩∧ap=true∧∀ j p,k≤j→PR[j]?=some p→(bxF SH PT hs j p).2=true)∨bxGo SH PR PT hs f k ap=⟨0,bxFound SH PR PT hs,⟨0,[],[]⟩⟩
 |0,k,ap,hk=>by
  right
  cases ap with
  |true=>
   left
   refine ⟨rfl,rfl,fun j p hj hp=>?_⟩
   have:=(List.getElem?_eq_some_iff.1 hp).1
   omega
  |false=>right;rfl
 |f+1,k,ap,hk=>by
  have hp : PR[k]?=some (PR[k]'(by omega)):=List.getElem?_eq_getElem _
  simp only [bxGo,hp]
  split
  ·rename_i hf
   rcases bxGo_is f (k+1) ap (by omega) with h|⟨h1,h2,h3⟩|h
   ·exact .inl h
   ·refine .inr (.inl ⟨h1,h2,fun j p hj hpj=>?_⟩)
    by_cases he : j=k
    ·subst he;rw [hp] at hpj;cases hpj;exact hf
    ·exact h3 j p (by omega) hpj
   ·exact .inr (.inr h)
  ·split
   ·rename_i ho
    exact .inl ⟨k,_,hp,rfl,ho⟩
   ·rcases bxGo_is f (k+1) false (by omega) with h|⟨h1,h2,h3⟩|h
    ·exact .inl h
    ·cases h2
    ·exact .inr (.inr h)
theorem bxFound_get {k : Nat} {p : Nat × Nat} (h : PR[k]?=some p) : (bxFound SH PR PT hs)[k]?=some (bxF SH PT hs k p).1:=by
 simp [bxFound,List.getElem?_mapIdx,h]
theorem bxFound_len : (bxFound SH PR PT hs).length=PR.length:=by simp [bxFound]
theorem bxF_sep {k : Nat} {p : Nat × Nat} (h : (bxF SH PT hs k p).2=true) : sepK SH PT (bxF SH PT hs k p).1 p=true:=findR_ok h
theorem found_sep (h : ∀ j p,PR[j]?=some p→(bxF SH PT hs j p).2=true) : sepAllB SH PR PT (bxFound SH PR PT hs)=true:=by
 refine sepAllB_t bxFound_len fun k n p hk hn hp=>?_
 rw [bxFound_get hp] at hn
 cases hn
 exact bxF_sep (h k p hp)
end
theorem boxV_is (s : Sce) (bx : List Iv) (hs : List Vc) : (∃ w,boxV s bx hs=⟨2,[],w⟩∧holdsCol s bx w=true)∨(∃ ns,boxV s bx hs=⟨1,ns,⟨0,[],[]⟩⟩∧holdsSep s bx ns=true)∨(∃ ns,boxV s bx hs=⟨0,ns,⟨0,[],[]⟩⟩∧(ns.length=(pairsL s).length∨placeOk s bx=false)):=by
 unfold boxV
 cases hp : placeOk s bx with
 |false=>exact .inr (.inr ⟨[],rfl,.inr rfl⟩)
 |true=>
  simp only [if_true]
  rcases bxGo_is (SH:=s.shs) (PR:=pairsL s) (PT:=pointsL s bx) (hs:=hs) (pairsL s).length 0 true (by omega) with ⟨j,p,h1,h2,h3⟩|⟨h1,_,h3⟩|h
  ·refine .inl ⟨_,h2,?_⟩
   simp only [holdsCol,hp,Bool.true_and,col_iff]
   exact ⟨p,by omega,by simpa using h1,h3⟩
  ·refine .inr (.inl ⟨_,h1,?_⟩)
   simp only [holdsSep,hp,Bool.true_and]
   exact found_sep fun j p hp=>h3 j p (by omega) hp
  ·exact .inr (.inr ⟨_,h,.inl bxFound_len⟩)
theorem boxV_free {s : Sce} {bx : List Iv} {hs : List Vc} (h : (boxV s bx hs).kind=1) : ∃ ns,boxV s bx hs=⟨1,ns,⟨0,[],[]⟩⟩∧holdsSep s bx ns=true:=by
 rcases boxV_is s bx hs with ⟨w,h1,_⟩|h1|⟨w,h1,_⟩
 ·rw [h1] at h;cases h
 ·exact h1
 ·rw [h1] at h;cases h
theorem boxV_hints {s : Sce} {bx : List Iv} {ns : List Vc} (h : holdsSep s bx ns=true) : boxV s bx ns=⟨1,ns,⟨0,[],[]⟩⟩:=by
 simp only [holdsSep,Bool.and_eq_true,sepAll_iff] at h
 obtain ⟨hp,hl,hk⟩:=h
 have hF : ∀ k p,(pairsL s)[k]?=some p→bxF s.shs (pointsL s bx) ns k p=(ns[k]?.getD (0,0,0),true):=by
  intro k p hpk
  have hlt : k < ns.length:=by rw [hl];exact (List.getElem?_eq_some_iff.1 hpk).1
  have hn : ns[k]?=some ns[k]:=List.getElem?_eq_getElem hlt
  have ha : hintAt ns k=[ns[k]]:=by
   unfold hintAt
   rw [List.drop_eq_getElem_cons hlt]
   rfl
  unfold bxF
  rw [ha,hn]
  exact findR_hint (hk k _ p hlt hn hpk)
 unfold boxV
 rw [if_pos hp,bxGo_all _ _ (by omega) fun j p _ hpj=>by rw [hF j p hpj]]
 congr 1
 apply List.ext_getElem?
 intro k
 by_cases hlt : k < (pairsL s).length
 ·have hpk : (pairsL s)[k]?=some (pairsL s)[k]:=List.getElem?_eq_getElem hlt
  rw [bxFound_get hpk,hF k _ hpk,List.getElem?_eq_getElem (by omega : k < ns.length)]
  rfl
 ·rw [List.getElem?_eq_none_iff.2 (by rw [bxFound_len];omega),List.getElem?_eq_none_iff.2 (by omega)]
theorem checkV_box (s : Sce) (bx : List Iv) (hs : List Vc) : checkV s bx (boxV s bx hs)=decide ((boxV s bx hs).kind=1∨(boxV s bx hs).kind=2):=by
 rcases boxV_is s bx hs with ⟨w,h1,h2⟩|⟨ns,h1,h2⟩|⟨ns,h1,h2⟩
 ·rw [h1];simp [checkV,h2]
 ·rw [h1];simp [checkV,h2]
 ·rw [h1];simp [checkV]
theorem within_sub {b : List Iv} (hv : ∀ x ∈ b,validB x.1 x.2=true) (o : List Int) : SubB (mkWithinL b o) b:=by
 refine ⟨by simp [mkWithinL],fun k x y hx hy=>?_⟩
 simp only [mkWithinL,List.getElem?_mapIdx,hy,Option.map_some,Option.some.injEq] at hx
 subst hx
 have h:=valid_iff.1 (hv y (List.mem_of_getElem? hy))
 have r1:=round_range (nx o (mwSt o k) 1073741824) (k:=y.2 - y.1+1) (by omega) (by omega)
 have r2:=round_range (nx o (nn o (mwSt o k)) 1073741824 / 2) (k:=y.2 - y.1+1) (by omega) (by omega)
 simp only [partI]
 split<;>apply subI_of<;>(try simp only [])<;>omega
theorem mkBox_valid {l : List Int} {js : List J} (hj : ∀ j ∈ js,jOk j) : ∀ x ∈ mkBoxL l js,validB x.1 x.2=true:=by
 intro x hx
 simp only [mkBoxL,List.mem_mapIdx] at hx
 obtain ⟨i,hi,rfl⟩:=hx
 have h:=hj js[i] (List.getElem_mem hi)
 unfold jOk at h
 have:=bVal_range (l:=l) (m:=bSt l i) h.1 h.2.1 h.2.2
 rw [valid_iff];omega
end Go.Ab
namespace Go.Ab
open Go.Proofs
def flR (a b : Int) : Int:=if a.tmod b < 0 then wr (wr (a.tdiv b) - 1) else wr (a.tdiv b)
theorem d103 (a b : Int) (hb : b≠0) : DetH Tryz.prog 103 [.pv (Z a),.pv (Z b)] [] [] (.pv (Z (flR a b))):=by
 refine detP_of Tryz.func103 rfl (by kernel_rfl) (by simp [Tryz.f103]) rfl ?_
 intro C hP hN
 simp only [Tryz.f103] at hN ⊢
 with_reducible repeat' (first|refine Sp.h ?_|((first|refine Ss.h ?_|(refine Xb ?_ ?_ ?_<;>(try intro hgd)<;>try (exfalso;simp at hgd;first|done|omega)))<;>simp -implicitDefEqProofs (maxSteps:=2000000) [hP,hN,hb])|refine X2 ?_ ?_|(refine Xd ?_ ?_<;>intro hcd<;>(try (exfalso;clear hP hN;simp_all;done))<;>(try (exfalso;simp at *;omega))))
 all_goals (first|(simp_all [flR];done)|((try simp_all [flR])<;>(try omega)<;>grind))
theorem ediv_uq {a b k : Int} (hb : 0 < b) (h1 : k * b≤a) (h2 : a < (k+1) * b) : a / b=k:=by
 have:=(Int.le_ediv_iff_mul_le hb).2 h1
 have:=(Int.ediv_lt_iff_lt_mul hb).2 h2
 omega
theorem ediv_bd {a b B : Int} (hb : 0 < b) (hB : 0≤B) (h1 : -B≤a) (h2 : a≤B) : -B≤a / b∧a / b≤B:=by
 constructor
 ·refine (Int.le_ediv_iff_mul_le hb).2 ?_
  have : B * 1≤B * b:=Int.mul_le_mul_of_nonneg_left (by omega) hB
  rw [Int.neg_mul];omega
 ·have h3 : a / b < B+1:=(Int.ediv_lt_iff_lt_mul hb).2 (by
   have : (B+1) * 1≤(B+1) * b:=Int.mul_le_mul_of_nonneg_left (by omega) (by omega)
   omega)
  omega
theorem flR_eq {a b : Int} (hb : 0 < b) (h1 : -4611686018427387904≤a) (h2 : a≤4611686018427387904) : flR a b=a / b:=by
 have hq:=Int.mul_tdiv_add_tmod a b
 have h3 : -b < a.tmod b:=Int.lt_tmod_of_pos a hb
 have h4 : a.tmod b < b:=Int.tmod_lt_of_pos a hb
 have hbd:=ediv_bd (a:=a) (b:=b) (B:=4611686018427387904) hb (by decide) h1 h2
 rw [Int.mul_comm] at hq
 unfold flR
 split
 ·have e : a / b=a.tdiv b - 1:=ediv_uq hb (by rw [Int.sub_mul];omega) (by rw [show a.tdiv b - 1+1=a.tdiv b by omega];omega)
  rw [wr_id (n:=a.tdiv b) (by omega) (by omega),wr_id (by omega) (by omega),e]
 ·have e : a / b=a.tdiv b:=ediv_uq hb (by omega) (by rw [Int.add_mul];omega)
  rw [wr_id (n:=a.tdiv b) (by omega) (by omega),e]
theorem d57 (x : Int × Int) : DetH Tryz.prog 57 [.pv (encI x)] [] [] (.pv (Z (midI x))):=by
 cases hv : validB x.1 x.2 with
 |false=>
  have hr : midI x=0:=by simp [midI,hv]
  rw [hr]
  refine detP_of Tryz.func57 rfl (by kernel_rfl) (by simp [Tryz.f57]) rfl ?_
  intro C hP hN
  simp only [Tryz.f57] at hN ⊢
  with_reducible repeat' (first|refine Sp.h ?_|((first|refine Ss.h ?_|refine Xc (d102 _ _) ?_|(refine Xb ?_ ?_ ?_<;>(try intro hgd)<;>try (exfalso;simp at hgd;first|done|omega)))<;>simp -implicitDefEqProofs (maxSteps:=2000000) [hP,hN,hv])|refine X2 ?_ ?_|(refine Xd ?_ ?_<;>intro hcd<;>(try (exfalso;clear hP hN;simp_all;done))<;>(try (exfalso;simp at *;omega))))
 |true=>
  have hb:=valid_iff.1 hv
  have hr : midI x=flR (wr (x.1+x.2)) 2:=by
   rw [midI,hv]
   simp only [if_true]
   rw [wr_id (by omega) (by omega),flR_eq (by decide) (by omega) (by omega),Int.fdiv_eq_ediv_of_nonneg _ (by decide)]
  rw [hr]
  refine detP_of Tryz.func57 rfl (by kernel_rfl) (by simp [Tryz.f57]) rfl ?_
  intro C hP hN
  simp only [Tryz.f57] at hN ⊢
  with_reducible repeat' (first|refine Sp.h ?_|((first|refine Ss.h ?_|refine Xc (d102 _ _) ?_|refine Xc (d103 _ _ (by decide)) ?_|(refine Xb ?_ ?_ ?_<;>(try intro hgd)<;>try (exfalso;simp at hgd;first|done|omega)))<;>simp -implicitDefEqProofs (maxSteps:=2000000) [hP,hN,hv])|refine X2 ?_ ?_|(refine Xd ?_ ?_<;>intro hcd<;>(try (exfalso;clear hP hN;simp_all;done))<;>(try (exfalso;simp at *;omega))))
set_option maxHeartbeats 4000000 in
theorem d21 (xs : List (Int × Int)) (hl : xs.length≤16777216) : DetH Tryz.prog 21 [.pv (iv xs)] [] [] (.pv (zs (middleL xs))):=by
 cases hv : allB vI xs with
 |false=>
  have hr : middleL xs=[]:=by simp [middleL,hv]
  rw [hr]
  refine detP_of Tryz.func21 rfl (by kernel_rfl) (by simp [Tryz.f21]) rfl ?_
  intro C hP hN
  simp only [Tryz.f21] at hN ⊢
  with_reducible repeat' (first|refine Sp.h ?_|((first|refine Ss.h ?_|refine Xc (d56 _ (big hl)) ?_|(refine Xb ?_ ?_ ?_<;>(try intro hgd)<;>try (exfalso;simp at hgd;first|done|omega)))<;>simp -implicitDefEqProofs (maxSteps:=2000000) [hP,hN,hv])|refine X2 ?_ ?_|(refine Xd ?_ ?_<;>intro hcd<;>(try (exfalso;clear hP hN;simp_all;done))<;>(try (exfalso;simp at *;omega))))
 |true=>
  have hr : middleL xs=xs.map midI:=by simp [middleL,hv]
  rw [hr]
  refine detP_of Tryz.func21 rfl (by kernel_rfl) (by simp [Tryz.f21]) rfl ?_
  intro C hP hN
  simp only [Tryz.f21] at hN ⊢
  with_reducible repeat' (first|refine Sp.h ?_|((first|refine Wr (hn:=[3]) ?_|refine Ss.h ?_|refine Xc (d56 _ (big hl)) ?_|(refine Xb ?_ ?_ ?_<;>(try intro hgd)<;>try (exfalso;simp at hgd;first|done|omega)))<;>simp -implicitDefEqProofs (maxSteps:=2000000) [hP,hN,hv])|refine X2 ?_ ?_|(refine Xd ?_ ?_<;>intro hcd<;>(try (exfalso;clear hP hN;simp_all;done))<;>(try (exfalso;simp at *;omega))))
  refine WP.loopN [] xs.length (fun i st=>st.t 0=.pv (iv xs)∧st.t 4=.pv (Z i)∧st.t 3=.arr 3 i∧st.h 3=some (.row 2 1 ((xs.map fun x=>Z (midI x)).take i) 0)) (by simp) ?_
  rintro i st hi ⟨g0,g4,g3,hb⟩
  by_cases hlt : i < xs.length
  ·have hw:=wr_succ hlt (big hl)
   have hz : min i xs.length=i:=by omega
   have hs:=take_map_step (f:=fun x=>Z (midI x)) hlt
   with_reducible repeat' (first|refine Sp.h ?_|((first|refine Ss.h ?_|refine Xc (d57 _) ?_|(refine Xb ?_ ?_ ?_<;>(try intro hgd)<;>try (exfalso;simp at hgd;first|done|omega)))<;>simp -implicitDefEqProofs (maxSteps:=2000000) [hP,hN,g0,g4,g3,hb,hlt,hw,hz,hs,show (i+1) * 8≤140737488355328 by omega,show i+1≤9223372036854775807 by omega])|refine X2 ?_ ?_|(refine Xd ?_ ?_<;>intro hcd<;>(try (exfalso;clear hP hN;simp_all;done))<;>(try (exfalso;simp at *;omega))))
  ·have hz : min i xs.length=i:=by omega
   with_reducible repeat' (first|refine Sp.h ?_|((first|refine Ss.h ?_|(refine Xb ?_ ?_ ?_<;>(try intro hgd)<;>try (exfalso;simp at hgd;first|done|omega)))<;>simp -implicitDefEqProofs (maxSteps:=2000000) [hP,hN,g0,g4,g3,hb,hlt,hz])|refine X2 ?_ ?_|(refine Xd ?_ ?_<;>intro hcd<;>(try (exfalso;clear hP hN;simp_all;done))<;>(try (exfalso;simp at *;omega))))
   exact take_done (by simp) hlt
end Go.Ab
namespace Go.Ab
open Go.Proofs
theorem d6 (l m o : List Int) : DetH Tryz.prog 6 [.pv (zs l),.pv (zs m),.pv (zs o)] [] [] (.pv (B true)):=by
 have hv:=mkBox_valid (l:=m) (rJs_ok l 0)
 have hs:=within_sub hv o
 have hj:=rJs_len l 0
 refine wHints l m o hv (by rw [hs.1,mkBox_len];omega) fun h=>?_
 obtain ⟨ns,e,hn⟩:=boxV_free h
 rw [e]
 exact ⟨boxV_hints hn,boxV_hints (holdsSep_sub hs hn)⟩
set_option maxHeartbeats 4000000 in
theorem d8 (l m o : List Int) : DetH Tryz.prog 8 [.pv (zs l),.pv (zs m),.pv (zs o)] [] [] (.pv (B true)):=by
 have c0:=d13
 have c1:=d11 l
 have hL:=mkSc_L l
 have hj:=rJs_len l 0
 have c2:=d12 m (rJs l 0) (rMs l 0) (by omega) (rJs_ok l 0)
 have hjs : (mkSc l).js=rJs l 0:=rfl
 have hms : (mkSc l).ms=rMs l 0:=rfl
 have hbl:=mkBox_len m (rJs l 0)
 have hv:=mkBox_valid (l:=m) (rJs_ok l 0)
 generalize mkBoxL m (rJs l 0)=b at *
 rw [← hjs,← hms] at c2
 have c3:=d15 (mkSc l) b [] hL (by omega) (by simp)
 have c4:=d22 b o (by omega) hv
 have hs:=within_sub hv o
 have hwl : (mkWithinL b o).length=b.length:=hs.1
 generalize mkWithinL b o=a at *
 generalize mkSc l=s at *
 simp only [vecs,List.map_nil] at c3
 have hvl:=boxV_len s b []
 have cc:=d18 s b (boxV s b []) hL (by omega) (by omega) (by omega) (by omega)
 have ca:=d18 s a (boxV s b []) hL (by omega) (by omega) (by omega) (by omega)
 have d1:=d27 s b (boxV s b []).ns hL (by omega) (by omega)
 have d2:=d27 s a (boxV s b []).ns hL (by omega) (by omega)
 rw [checkV_box] at cc
 rcases boxV_is s b [] with ⟨w,h1,h2⟩|⟨ns,h1,h2⟩|⟨ns,h1,h2⟩
 ·have h3:=holdsCol_sub hs h2
  have k1 : checkV s a ⟨2,[],w⟩=true:=by simp [checkV,h3]
  have k2 : holdsSep s b []=false:=col_not_sep h2
  have k3 : holdsSep s a []=false:=col_not_sep h3
  have k4 : clrV s b []=0:=by simp [clrV,k2]
  have k5 : clrV s a []=0:=by simp [clrV,k3]
  rw [h1] at c3 cc ca d1 d2
  rw [k1] at ca
  simp only [k2,k3,k4,k5] at d1 d2
  simp only [encVt,vecs,List.map_nil] at c3 cc ca d1 d2
  simp at cc
  refine detP_of Tryz.func8 rfl (by kernel_rfl) (by simp [Tryz.f8]) rfl ?_
  intro C hP hN
  simp only [Tryz.f8] at hN ⊢
  with_reducible repeat' (first|refine Sp.h ?_|((first|refine Ss.h ?_|refine Xc (c0) ?_|refine Xc (c1) ?_|refine Xc (c2) ?_|refine Xc (c3) ?_|refine Xc (c4) ?_|refine Xc (cc) ?_|refine Xc (ca) ?_|refine Xc (d1) ?_|refine Xc (d2) ?_|(refine Xb ?_ ?_ ?_<;>(try intro hgd)<;>try (exfalso;simp at hgd;first|done|omega)))<;>simp -implicitDefEqProofs (maxSteps:=2000000) [hP,hN])|refine X2 ?_ ?_|(refine Xd ?_ ?_<;>intro hcd<;>(try (exfalso;clear hP hN;simp_all;done))<;>(try (exfalso;simp at *;omega))))
 ·have h3:=holdsSep_sub hs h2
  have k1 : checkV s a ⟨1,ns,⟨0,[],[]⟩⟩=true:=by simp [checkV,h3]
  have k4:=clrV_sub hs h2
  rw [h1] at c3 cc ca d1 d2
  rw [k1] at ca
  simp only [h2,h3] at d1 d2
  generalize clrV s b ns=x at *
  generalize clrV s a ns=y at *
  simp at cc
  refine detP_of Tryz.func8 rfl (by kernel_rfl) (by simp [Tryz.f8]) rfl ?_
  intro C hP hN
  simp only [Tryz.f8] at hN ⊢
  with_reducible repeat' (first|refine Sp.h ?_|((first|refine Ss.h ?_|refine Xc (c0) ?_|refine Xc (c1) ?_|refine Xc (c2) ?_|refine Xc (c3) ?_|refine Xc (c4) ?_|refine Xc (cc) ?_|refine Xc (ca) ?_|refine Xc (d1) ?_|refine Xc (d2) ?_|(refine Xb ?_ ?_ ?_<;>(try intro hgd)<;>try (exfalso;simp at hgd;first|done|omega)))<;>simp -implicitDefEqProofs (maxSteps:=2000000) [hP,hN,k4])|refine X2 ?_ ?_|(refine Xd ?_ ?_<;>intro hcd<;>(try (exfalso;clear hP hN;simp_all;done))<;>(try (exfalso;simp at *;omega))))
 ·rw [h1] at c3 cc
  simp at cc
  refine detP_of Tryz.func8 rfl (by kernel_rfl) (by simp [Tryz.f8]) rfl ?_
  intro C hP hN
  simp only [Tryz.f8] at hN ⊢
  with_reducible repeat' (first|refine Sp.h ?_|((first|refine Ss.h ?_|refine Xc (c0) ?_|refine Xc (c1) ?_|refine Xc (c2) ?_|refine Xc (c3) ?_|refine Xc (cc) ?_|(refine Xb ?_ ?_ ?_<;>(try intro hgd)<;>try (exfalso;simp at hgd;first|done|omega)))<;>simp -implicitDefEqProofs (maxSteps:=2000000) [hP,hN])|refine X2 ?_ ?_|(refine Xd ?_ ?_<;>intro hcd<;>(try (exfalso;clear hP hN;simp_all;done))<;>(try (exfalso;simp at *;omega))))
theorem mid_sub {a : List Iv} (hv : ∀ x ∈ a,validB x.1 x.2=true) : SubB (boxL (middleL a)) a:=by
 have e : ∀ x,validB x.1 x.2=true→x.1≤midI x∧midI x≤x.2∧-2147483648≤midI x∧midI x≤2147483648:=fun x hx=>by
  have h:=valid_iff.1 hx
  simp only [midI,hx,if_true]
  rw [wr_id (by omega) (by omega),Int.fdiv_eq_ediv_of_nonneg _ (by decide)]
  omega
 have h1 : allB vI a=true:=by simp only [allB,List.all_eq_true];exact hv
 have h2 : middleL a=a.map midI:=by simp [middleL,h1]
 have h3 : allB smallB (a.map midI)=true:=by
  simp only [allB,List.all_eq_true]
  intro x hx
  obtain ⟨y,hy,rfl⟩:=List.mem_map.1 hx
  have:=e y (hv y hy)
  simp only [smallB,Bool.and_eq_true,decide_eq_true_eq]
  omega
 have h4 : boxL (middleL a)=a.map fun x=>(midI x,midI x):=by
  rw [h2,boxL,h3]
  simp
 refine ⟨by rw [h4];simp,fun k x y hx hy=>?_⟩
 rw [h4,List.getElem?_map,hy] at hx
 simp only [Option.map_some,Option.some.injEq] at hx
 subst hx
 have h:=valid_iff.1 (hv y (List.mem_of_getElem? hy))
 have:=e y (hv y (List.mem_of_getElem? hy))
 apply subI_of<;>(try simp only [])<;>omega
theorem SubB.trans {a b c : List Iv} (h : SubB a b) (g : SubB b c) : SubB a c:=by
 refine ⟨h.1.trans g.1,fun k x z hx hz=>?_⟩
 have hk : k < a.length:=(List.getElem?_eq_some_iff.1 hx).1
 have hy : b[k]?=some (b[k]'(by rw [← h.1];exact hk)):=List.getElem?_eq_getElem _
 exact (h.2 k x _ hx hy).trans (g.2 k _ z hy hz)
theorem SubB.valid {a b : List Iv} (h : SubB a b) : ∀ x ∈ a,validB x.1 x.2=true:=fun x hx=>by
 obtain ⟨k,hk⟩:=List.getElem?_of_mem hx
 have hlt : k < a.length:=(List.getElem?_eq_some_iff.1 hk).1
 exact (h.2 k x _ hk (List.getElem?_eq_getElem (by rw [← h.1];exact hlt))).vx
theorem kinds_agree {s : Sce} {a b : List Iv} (h : SubB a b) {u v : List Vc} : (boxV s b u).kind=0∨(boxV s a v).kind=0∨(boxV s b u).kind=(boxV s a v).kind:=by
 rcases boxV_is s b u with ⟨w,h1,h2⟩|⟨ns,h1,h2⟩|⟨ns,h1,h2⟩
 ·rcases boxV_is s a v with ⟨w',g1,g2⟩|⟨ns',g1,g2⟩|⟨ns',g1,g2⟩
  ·rw [h1,g1];simp
  ·have:=col_not_sep (ns:=ns') (holdsCol_sub h h2)
   rw [g2] at this;cases this
  ·rw [g1];simp
 ·rcases boxV_is s a v with ⟨w',g1,g2⟩|⟨ns',g1,g2⟩|⟨ns',g1,g2⟩
  ·have:=sep_not_col (w:=w') (holdsSep_sub h h2)
   rw [g2] at this;cases this
  ·rw [h1,g1];simp
  ·rw [g1];simp
 ·rw [h1];simp
set_option maxHeartbeats 4000000 in
theorem d5 (l m o : List Int) : DetH Tryz.prog 5 [.pv (zs l),.pv (zs m),.pv (zs o)] [] [] (.pv (B true)):=by
 have c0:=d13
 have c1:=d11 l
 have hL:=mkSc_L l
 have hj:=rJs_len l 0
 have c2:=d12 m (rJs l 0) (rMs l 0) (by omega) (rJs_ok l 0)
 have hjs : (mkSc l).js=rJs l 0:=rfl
 have hms : (mkSc l).ms=rMs l 0:=rfl
 have hbl:=mkBox_len m (rJs l 0)
 have hv:=mkBox_valid (l:=m) (rJs_ok l 0)
 generalize mkBoxL m (rJs l 0)=b at *
 rw [← hjs,← hms] at c2
 have c3:=d15 (mkSc l) b [] hL (by omega) (by simp)
 have c4:=d22 b o (by omega) hv
 have hs:=within_sub hv o
 have hwl : (mkWithinL b o).length=b.length:=hs.1
 generalize mkWithinL b o=a at *
 generalize mkSc l=s at *
 have hs2:=mid_sub hs.valid
 have c5:=d21 a (by omega)
 have hml : (middleL a).length≤16777216:=by
  unfold middleL;split<;>simp<;>omega
 have c6:=d20 (middleL a) hml
 have hbl2 : (boxL (middleL a)).length=a.length:=hs2.1
 have hs3:=hs2.trans hs
 generalize boxL (middleL a)=d at *
 generalize middleL a=c at *
 have c7:=d15 s d [] hL (by omega) (by simp)
 simp only [vecs,List.map_nil] at c3 c7
 have hk:=kinds_agree (s:=s) hs3 (u:=[]) (v:=[])
 generalize boxV s b []=v at *
 generalize boxV s d []=u at *
 obtain ⟨k,ns,w⟩:=v
 obtain ⟨k',ns',w'⟩:=u
 simp only at hk c3 c7
 by_cases h0 : k=0
 ·subst h0
  refine detP_of Tryz.func5 rfl (by kernel_rfl) (by simp [Tryz.f5]) rfl ?_
  intro C hP hN
  simp only [Tryz.f5] at hN ⊢
  with_reducible repeat' (first|refine Sp.h ?_|((first|refine Ss.h ?_|refine Xc (c0) ?_|refine Xc (c1) ?_|refine Xc (c2) ?_|refine Xc (c3) ?_|refine Xc (c4) ?_|refine Xc (c5) ?_|refine Xc (c6) ?_|refine Xc (c7) ?_|(refine Xb ?_ ?_ ?_<;>(try intro hgd)<;>try (exfalso;simp at hgd;first|done|omega)))<;>simp -implicitDefEqProofs (maxSteps:=2000000) [hP,hN])|((first|refine Wd (hn:=[]) (by rw [hP];kernel_rfl) (by kernel_rfl) ?_|refine Yc (c0) ?_|refine Yc (c1) ?_|refine Yc (c2) ?_|refine Yc (c3) ?_|refine Yc (c4) ?_|refine Yc (c5) ?_|refine Yc (c6) ?_|refine Yc (c7) ?_|(refine Yb ?_ ?_ ?_<;>(try intro hgd)<;>try (exfalso;simp at hgd;first|done|omega)))<;>simp -implicitDefEqProofs (maxSteps:=2000000) [hP,hN]<;>(try refine ⟨by kernel_rfl,?_⟩))|refine X2 ?_ ?_|(refine Xd ?_ ?_<;>intro hcd<;>(try (exfalso;clear hP hN;simp_all;done))<;>(try (exfalso;simp at *;omega))))
 ·have e0 : (k==0)=false:=by simp [h0]
  have e0' : (k !=0)=true:=by simp [h0]
  by_cases h1 : k'=0
  ·subst h1
   refine detP_of Tryz.func5 rfl (by kernel_rfl) (by simp [Tryz.f5]) rfl ?_
   intro C hP hN
   simp only [Tryz.f5] at hN ⊢
   with_reducible repeat' (first|refine Sp.h ?_|((first|refine Ss.h ?_|refine Xc (c0) ?_|refine Xc (c1) ?_|refine Xc (c2) ?_|refine Xc (c3) ?_|refine Xc (c4) ?_|refine Xc (c5) ?_|refine Xc (c6) ?_|refine Xc (c7) ?_|(refine Xb ?_ ?_ ?_<;>(try intro hgd)<;>try (exfalso;simp at hgd;first|done|omega)))<;>simp -implicitDefEqProofs (maxSteps:=2000000) [hP,hN,h0,e0,e0'])|((first|refine Wd (hn:=[]) (by rw [hP];kernel_rfl) (by kernel_rfl) ?_|refine Yc (c0) ?_|refine Yc (c1) ?_|refine Yc (c2) ?_|refine Yc (c3) ?_|refine Yc (c4) ?_|refine Yc (c5) ?_|refine Yc (c6) ?_|refine Yc (c7) ?_|(refine Yb ?_ ?_ ?_<;>(try intro hgd)<;>try (exfalso;simp at hgd;first|done|omega)))<;>simp -implicitDefEqProofs (maxSteps:=2000000) [hP,hN,h0,e0,e0']<;>(try refine ⟨by kernel_rfl,?_⟩))|refine X2 ?_ ?_|(refine Xd ?_ ?_<;>intro hcd<;>(try (exfalso;clear hP hN;simp_all;done))<;>(try (exfalso;simp at *;omega))))
  ·have e1 : (k'==0)=false:=by simp [h1]
   have e1' : (k' !=0)=true:=by simp [h1]
   have h2 : k=k':=by omega
   subst h2
   refine detP_of Tryz.func5 rfl (by kernel_rfl) (by simp [Tryz.f5]) rfl ?_
   intro C hP hN
   simp only [Tryz.f5] at hN ⊢
   with_reducible repeat' (first|refine Sp.h ?_|((first|refine Ss.h ?_|refine Xc (c0) ?_|refine Xc (c1) ?_|refine Xc (c2) ?_|refine Xc (c3) ?_|refine Xc (c4) ?_|refine Xc (c5) ?_|refine Xc (c6) ?_|refine Xc (c7) ?_|(refine Xb ?_ ?_ ?_<;>(try intro hgd)<;>try (exfalso;simp at hgd;first|done|omega)))<;>simp -implicitDefEqProofs (maxSteps:=2000000) [hP,hN,h0,e0,e0'])|((first|refine Wd (hn:=[]) (by rw [hP];kernel_rfl) (by kernel_rfl) ?_|refine Yc (c0) ?_|refine Yc (c1) ?_|refine Yc (c2) ?_|refine Yc (c3) ?_|refine Yc (c4) ?_|refine Yc (c5) ?_|refine Yc (c6) ?_|refine Yc (c7) ?_|(refine Yb ?_ ?_ ?_<;>(try intro hgd)<;>try (exfalso;simp at hgd;first|done|omega)))<;>simp -implicitDefEqProofs (maxSteps:=2000000) [hP,hN,h0,e0,e0']<;>(try refine ⟨by kernel_rfl,?_⟩))|refine X2 ?_ ?_|(refine Xd ?_ ?_<;>intro hcd<;>(try (exfalso;clear hP hN;simp_all;done))<;>(try (exfalso;simp at *;omega))))
end Go.Ab
