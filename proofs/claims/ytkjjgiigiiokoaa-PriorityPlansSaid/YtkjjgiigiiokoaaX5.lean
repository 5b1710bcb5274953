/- The contracts and facts that the laws of this seat need, in one text (Rd, AbX, Ab26). -/
import Derived.Test.YtkjjgiigiiokoaaX4
import Derived.Test.YtkjjgiigiiokoaaRows
set_option linter.all false
namespace Go.Ab
open Go.Proofs Go.Proofs.Ytkjjgiigiiokoaa
theorem own : ownKnob Try.prog.godebug=none:=by kernel_rfl
theorem kids : Kids Try.prog (·< Try.prog.types.size):=kids_rows (by kernel_rfl) (by kernel_rfl)
theorem full : ∀ t e,t < Try.prog.types.size→Try.prog.underlying t=some (.slice e)→0 < Try.prog.cellsOf e:=slices_full_of Try.prog (by kernel_rfl)
section
variable {H : Type}
theorem qQ : lr H Try.prog 3 (fun i=>.val (.int .i64 i)) (fun i=>IntKind.i64.min≤i∧i≤IntKind.i64.max) (fun _=>1):=qw Try.underlying3
theorem cM : lr H Try.prog 26 (fun l : List Int=>.sl (l.map fun i=>.val (.int .i64 i))) (fun l=>l.length≤9223372036854775807∧∀ a ∈ l,IntKind.i64.min≤a∧a≤IntKind.i64.max) (fun l=>(l.map fun _=>1).sum+1):=oM Try.underlying26 qQ
theorem yq : lr H Try.prog 2 (fun i=>.val (.int .i64 i)) (fun i=>IntKind.i64.min≤i∧i≤IntKind.i64.max) (fun _=>1):=qw Try.underlying2
theorem tJ : lr H Try.prog 56 (fun l : List Int=>.sl (l.map fun i=>.val (.int .i64 i))) (fun l=>l.length≤9223372036854775807∧∀ a ∈ l,IntKind.i64.min≤a∧a≤IntKind.i64.max) (fun l=>(l.map fun _=>1).sum+1):=oM Try.underlying56 yq
end
end Go.Ab
namespace Go.Ab
def uO (d k' : Nat) : Blk→AV→AV→Prop
 |.row _ _ xs _,x,y=>x=.arr d xs.length∧y=.arr k' xs.length
 |.mp _ _ _ _,x,y=>x=.ext (.mp d)∧y=.ext (.mp k')
 |_,_,_=>False
def gV (h : Hp) (d k' kb : Nat) (blk : Blk) (bx : Blk) : Hp:=fun q=>if q=k' then some blk else if q=d then none else if q=kb then some bx else (h q).map (bO [d])
theorem WP.rename {C : Cx} {c : Code} {Q : Exit→St→Prop} {st : St} (kb j d k' : Nat) {blk : Blk} {x y : AV} {cs : List AV} {own fb : Bool} (hd : st.h d=some blk) (hk' : st.h k'=none) (hlt : k' < 2000000)
 (hb : st.h kb=some (.box cs own fb)) (hj : cs[j]?=some x) (hxy : uO d k' blk x y) (hcs : ∀ (i : Nat) c,cs[i]?=some c→i≠j→eX [d] c=false)
 (h : WP C c Q ⟨fun n=>bc [d] (st.t n),gV st.h d k' kb blk (.box (cs.set j y) own fb)⟩) : WP C c Q st:=by
 intro a w hs
 obtain ⟨L,hm,hN,hdf,htm⟩:=hs
 have hne : k'≠d:=by intro e;rw [e,hd] at hk';cases hk'
 have hnb : kb≠d:=by
  intro e;rw [e,hd] at hb;injection hb with hb;subst hb;exact hxy.elim
 have hkb : kb≠k':=by intro e;rw [e,hk'] at hb;cases hb
 let L':=aj L k' (L d)
 let h':=gV st.h d k' kb blk (.box (cs.set j y) own fb)
 have get : ∀ {q b},h' q=some b→(q=k'∧b=blk)∨(q≠k'∧q≠d∧∃ b0,st.h q=some b0∧(∀ l,b.live l=b0.live l)∧(∀ o,b.frz o=b0.frz o)∧L' q=L q):=by
  intro q b hq
  simp only [h',gV] at hq
  split at hq
  ·rename_i e;injection hq with hq;exact .inl ⟨e,hq.symm⟩
  ·rename_i e1
   have hL : L' q=L q:=ar e1
   split at hq
   ·cases hq
   ·rename_i e2
    split at hq
    ·rename_i e3;subst e3;injection hq with hq;subst hq
     exact .inr ⟨e1,e2,_,hb,fun _=>rfl,fun _=>rfl,hL⟩
    ·simp only [Option.map_eq_some_iff] at hq
     obtain ⟨b0,h1,rfl⟩:=hq
     exact .inr ⟨e1,e2,b0,h1,fun l=>by cases b0<;>rfl,fun o=>by cases b0<;>rfl,hL⟩
 have hM : ∀ b o,ae C L' h' b o→ae C L st.h b o:=by
  rintro b o (h0|⟨q,b1,hq,hl,hbb,hf⟩)
  ·exact .inl h0
  ·rcases get hq with ⟨rfl,rfl⟩|⟨_,_,b0,h1,h2,h3,h4⟩
   ·rw [show L' q=L d from ah _ _ _] at hl hbb
    exact .inr ⟨d,_,hd,hl,hbb,hf⟩
   ·rw [h4] at hl hbb;rw [h2] at hl;rw [h3] at hf
    exact .inr ⟨q,b0,h1,hl,hbb,hf⟩
 have hp : Pres w (ae C L st.h) w (ae C L' h'):=Pres.sub hM
 have hkc : KC L (cut [d] st.h) L' h':=by
  intro q b hq
  unfold cut at hq
  split at hq
  ·cases hq
  ·rename_i hc
   have e2 : q≠d:=by simpa using hc
   have e1 : q≠k':=by intro e;rw [e,hk'] at hq;cases hq
   have hL : L' q=L q:=ar e1
   by_cases e3 : q=kb
   ·subst e3
    rw [hb] at hq;injection hq with hq;subst hq
    exact ⟨.box (cs.set j y) own fb,by simp only [h',gV,if_neg e1,if_neg e2,if_true],by rw [hL];rfl⟩
   ·exact ⟨bO [d] b,by simp only [h',gV,if_neg e1,if_neg e2,if_neg e3,hq];rfl,by rw [hL];exact jf _ _ _⟩
 have hrep : ∀ {x u},RepA w (ae C L st.h) L st.h x u→RepA w (ae C L' h') L' h' (bc [d] x) u:=fun hx=>(mE hx).mono hp hkc
 have hkey : h' k'=some blk:=by simp only [h',gV,if_true]
 have hLk : L' k'=L d:=ah _ _ _
 have hy : ∀ u,RepA w (ae C L st.h) L st.h x u→RepA w (ae C L' h') L' h' y u:=by
  intro u hx
  cases blk with
  |box=>exact hxy.elim
  |row e sz xs fz=>
   obtain ⟨rfl,rfl⟩:=hxy
   cases hx with
   |arr hk hn hu=>
    rw [hd] at hk;injection hk with hk;injection hk with _ _ a3 _
    subst a3
    exact .arr hkey (Nat.le_refl _) (fun _=>by rw [hLk];exact hu rfl)
  |mp kd n es fz=>
   obtain ⟨rfl,rfl⟩:=hxy
   cases hx with
   |ext hx'=>cases hx' with
    |mp _=>
     have:=RepX.mp (L:=L') (k:=k') hkey
     rw [hLk] at this
     exact .ext this
 refine h a w ⟨L',⟨hm.ext,hm.m0,?_,?_,?_⟩,hN,hdf,fun n=>hrep (htm n)⟩
 ·intro q b hq
  by_cases e3 : q=kb
  ·subst e3
   have e : b=.box (cs.set j y) own fb:=by
    simp only [h',gV,if_neg hkb,if_neg hnb,if_true] at hq;injection hq with hq;exact hq.symm
   subst e
   obtain ⟨arr,ty,e1,e2⟩:=hm.bl q _ hb
   have hL : L' q=L q:=ar hkb
   refine ⟨arr,ty,by rw [hL];exact e1,by simpa using e2.1,fun i p u hp' hu=>?_⟩
   rw [List.getElem?_set] at hp'
   by_cases ei : j=i
   ·subst ei
    rw [if_pos rfl] at hp'
    split at hp'
    ·injection hp' with hp';subst hp'
     exact hy u (e2.2 j _ u hj hu)
    ·cases hp'
   ·rw [if_neg ei] at hp'
    have hdd:=hcs i p hp' (fun e=>ei e.symm)
    have:=hrep (e2.2 i p u hp' hu)
    unfold bc at this
    rw [if_neg (by rw [hdd];decide)] at this
    exact this
  ·rcases get hq with ⟨rfl,rfl⟩|⟨e1,e2,b0,h1,h2,h3,h4⟩
   ·have hbr:=hm.bl d _ hd
    rw [hLk]
    cases b with
    |box=>exact hxy.elim
    |row e sz xs fz=>
     obtain ⟨a1,a2,a3,a4,a5⟩:=hbr
     refine ⟨a1,a2,a3,a4,fun hn=>?_⟩
     obtain ⟨b1,b2,arr,b3,b4,b5⟩:=a5 hn
     exact ⟨b1,b2,arr,b3,b4,fun i x j p hx hj=>by obtain ⟨u,hu,hr⟩:=b5 i x j p hx hj;exact ⟨u,hu,hr.mono hp⟩⟩
    |mp kd n es fz=>exact hbr
   ·have hbr:=hm.bl q b0 h1
    rw [h4]
    have e : b=bO [d] b0:=by
     simp only [h',gV,if_neg e1,if_neg e2,if_neg e3,h1,Option.map_some] at hq;injection hq with hq;exact hq.symm
    subst e
    cases b0 with
    |box cs0 own0 fz0=>
     obtain ⟨arr,ty,d1,d2⟩:=hbr
     refine ⟨arr,ty,d1,by simpa using d2.1,fun i p u hp' hu=>?_⟩
     simp only [List.getElem?_map,Option.map_eq_some_iff] at hp'
     obtain ⟨z,hz,rfl⟩:=hp'
     exact hrep (d2.2 i z u hz hu)
    |row e sz xs fz=>
     obtain ⟨a1,a2,a3,a4,a5⟩:=hbr
     refine ⟨a1,a2,a3,a4,fun hn=>?_⟩
     obtain ⟨b1,b2,arr,b3,b4,b5⟩:=a5 hn
     exact ⟨b1,b2,arr,b3,b4,fun i x j p hx hj=>by obtain ⟨u,hu,hr⟩:=b5 i x j p hx hj;exact ⟨u,hu,hr.mono hp⟩⟩
    |mp kd n es fz=>exact hbr
 ·intro q q' b1 b2 hqq hq hq' hl hl'
  have aux : ∀ {q b},h' q=some b→b.live (L' q)→∃ q0 b0,st.h q0=some b0∧b0.live (L q0)∧L' q=L q0∧(q=k'→q0=d)∧(q≠k'→q0=q∧q≠d):=by
   intro q b hq hl
   rcases get hq with ⟨rfl,rfl⟩|⟨e1,e2,b0,h1,h2,h3,h4⟩
   ·rw [hLk] at hl
    exact ⟨d,_,hd,hl,hLk,fun _=>rfl,fun e=>absurd rfl e⟩
   ·rw [h4,h2] at hl
    exact ⟨q,b0,h1,hl,h4,fun e=>absurd e e1,fun _=>⟨rfl,e2⟩⟩
  obtain ⟨p1,c1,d1,f1,g1,i1,j1⟩:=aux hq hl
  obtain ⟨p2,c2,d2,f2,g2,i2,j2⟩:=aux hq' hl'
  rw [g1,g2]
  refine hm.sep p1 p2 c1 c2 ?_ d1 d2 f1 f2
  intro e
  by_cases e1 : q=k'
  ·have e2 : q'≠k':=fun e2=>hqq (e1.trans e2.symm)
   have:=j2 e2
   rw [i1 e1] at e
   exact this.2 (this.1.symm.trans e.symm)
  ·have h1:=j1 e1
   by_cases e2 : q'=k'
   ·rw [i2 e2] at e
    exact h1.2 (h1.1.symm.trans e)
   ·exact hqq (h1.1.symm.trans (e.trans (j2 e2).1))
 ·intro q b hq
  by_cases e3 : q=kb
  ·subst e3
   have e : b=.box (cs.set j y) own fb:=by
    simp only [h',gV,if_neg hkb,if_neg hnb,if_true] at hq;injection hq with hq;exact hq.symm
   subst e
   have hL : L' q=L q:=ar hkb
   have:=hm.own q _ hb
   rw [hL]
   cases own<;>exact this
  ·rcases get hq with ⟨rfl,rfl⟩|⟨e1,e2,b0,h1,h2,h3,h4⟩
   ·have:=hm.own d _ hd
    rw [hLk]
    cases b with
    |box=>exact hxy.elim
    |row e sz xs fz=>
     unfold cz
     simp only [C.hpr q hlt]
     exact fun hn=>this.row hn
    |mp=>exact this
   ·have hown:=hm.own q b0 h1
    rw [h4]
    have e : b=bO [d] b0:=by
     simp only [h',gV,if_neg e1,if_neg e2,if_neg e3,h1,Option.map_some] at hq;injection hq with hq;exact hq.symm
    subst e
    cases b0 with
    |box cs0 own0 fz0=>cases own0<;>exact hown
    |row=>exact hown
    |mp=>exact hown
end Go.Ab
namespace Go.Ab
theorem fU {C : Cx} {hn : List Nat} {ops : Array Oper} {Q : St→Prop} {Q' : Exit→Act→World→Prop} {rest : List Oper} (hQ : ∀ st a w,cx C st a w→Q st→wpList C.P ops Q' rest a w) :
 ∀ {l : List Oper} {st : St} {a : Act} {w : World},cx C st a w→cC C.P hn C.N ops Q l st→wpList C.P ops Q' (l++rest) a w
 |[],st,a,w,hs,e=>hQ st a w hs e
 |o :: l,st,a,w,hs,e=>by
  obtain ⟨L,hm,hN,hdf,ht⟩:=hs
  rw [cC.eq_2] at e
  obtain ⟨hd,e⟩:=e
  rw [List.cons_append]
  refine wpList_step (fun K hK=>?_)
  split at e
  ·rename_i hg
   rw [df ht (gP hg),if_pos rfl]
   exact jN hm hN hdf ht hd e (fun eff a' w' hk hsim=>hK _ _ (fU hQ hsim hk))
  ·rename_i d b want hg
   rw [df ht (fw hg)]
   unfold kQ at e
   simp only at e
   split at e
   ·rename_i hgt
    subst hgt
    rw [if_pos (by simp)]
    exact jN hm hN hdf ht hd e (fun eff a' w' hk hsim=>hK _ _ (fU hQ hsim hk))
   ·rename_i hgt
    rw [if_neg (by simpa using hgt)]
    exact hK _ _ (fU hQ (cx.put hm hN hdf ht hd (W:=[]) (aq.refl hm) (.pv (.val _))) e)
  ·exact e.elim
def rekey (h : Hp) (ks : List Nat) (k : Nat) (blk : Blk) : Hp:=fun q=>if q=k then some blk else if ks.contains q=true then none else (h q).map (bO ks)
def St.rekey (st : St) (ks : List Nat) (k : Nat) (blk : Blk) : St:=⟨fun n=>bc ks (st.t n),Go.Ab.rekey st.h ks k blk⟩
section
variable {C : Cx} {L : Nat→Loc} {h : Hp} {w : World}
end
section
variable {C : Cx} {Q : Exit→St→Prop} {st : St}
theorem ow {ops : Array Oper} {a : Act} {o : Oper} (hg : o.guard=none) : Region.wanted o (yielded ops a.tmps)=true:=by
 unfold Region.wanted;rw [hg]
end
attribute [simp] St.rekey rekey
end Go.Ab
