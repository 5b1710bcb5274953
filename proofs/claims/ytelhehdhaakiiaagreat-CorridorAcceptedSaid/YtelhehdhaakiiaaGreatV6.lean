/- The contracts and facts that the laws of this seat need, in one text (CfB, K3, K4, K5, K5b, K5c, K5d, K5e, K5f, K5g, KM3, K6, K7, K8, K9, K11, K10, Ab26, Ab29, K11b, K11c, K11d, K11e, K12). -/
import Derived.Test.YtelhehdhaakiiaaGreatV5
import Derived.Laws.RangeString
import Derived.Laws.RangeAny
import Derived.LoopTactic
set_option linter.all false
set_option maxHeartbeats 16000000
namespace Go.Ab
open Go.Proofs
end Go.Ab
namespace Go.Ab
open Go.Proofs
def jH (b : Nat) : Bool:=decide (97≤b) && decide (b≤122)
def jI (b : Nat) : Bool:=decide (48≤b) && decide (b≤57)
def eK (k b : Nat) : Bool:=jH b || (decide (k≠0) && (jI b || decide (b=95)))
def dw (s : ByteArray) : Bool:=(List.range s.size).all fun i=>eK i (s[i]!).toNat
def fO (s : ByteArray) : Bool:=decide (1≤s.size) && decide (s.size≤16) && !(s.toList==[119,111,114,108,100]) && dw s
theorem gy {s : ByteArray} {i : Nat} (h : i < s.size) (hb : eK i (s[i]'h).toNat=false) : dw s=false:=by
 rw [dw,List.all_eq_false]
 exact ⟨i,by simpa using h,by rw [getElem!_pos s i h,hb];simp⟩
theorem Df {s : ByteArray} (h : ∀ i (hi : i < s.size),eK i (s[i]'hi).toNat=true) : dw s=true:=by
 rw [dw,List.all_eq_true]
 intro i hi
 have hi' : i < s.size:=by simpa using hi
 rw [getElem!_pos s i hi'];exact h i hi'
theorem qQ {s : ByteArray} {pos c : Nat} {hp : pos < s.size} (hc : (s[pos]'hp).toNat=c) (hc' : eK pos c=true) (hok : ∀ i (hi : i < s.size),i < pos→eK i (s[i]'hi).toNat=true) : ∀ i (hi : i < s.size),i < pos+1→eK i (s[i]'hi).toNat=true:=by
 intro i hi h
 by_cases e : i=pos
 ·subst e;rw [hc];exact hc'
 ·exact hok i hi (by omega)
set_option maxRecDepth 1000000 in
theorem Cd (s : ByteArray) (w : World) (h1 : ¬ s.size=0) (h2 : ¬ s.size > 16) (h3 : (s.toList==[119,111,114,108,100])=false) :
 Calls Tryz.prog 148 #[.string s] w fun e w'=>e=.returned (.bool (dw s))∧(w'=w∨∃ pos,w'=w.iter s pos):=by
 have q1 : ((s.size : Int)==0)=false:=by simp;intro h;exact h1 (by simp [h])
 have q2 : ¬ ((16 : Int) < (s.size : Int)):=by omega
 go_enter Tryz.func148,Tryz.ntmps148
 go_wp2
 go_loopw [19] (fun _ w'=>∃ pos,w'=w.iter s pos∧∀ i (hi : i < s.size),i < pos→eK i (s[i]'hi).toNat=true) (fun _ w'=>s.size - w'.iterPos w.heap.size)
 case atStart=>exact ⟨0,rfl,fun i hi h=>by omega⟩
 case round=>
  obtain ⟨pos,rfl,hok⟩:=hrel
  by_cases hp : pos < s.size
  ·by_cases ha : (s[pos]'hp).toNat < 128
   ·have hnx : ∀ ty,(Instr.next (.pointer (some ⟨w.heap.size,0,none⟩)) true ty).run Tryz.prog (w.iter s pos)=_:=fun ty=>run_next_ascii w s pos ty hp ha
    generalize hc : (s[pos]'hp).toNat=c at hnx ha
    have key : (97≤c∧c≤122)∨(¬ 97≤c∧pos=0)∨(97≤c∧¬ c≤122∧pos=0)∨(¬ 97≤c∧¬ pos=0∧48≤c∧c≤57)∨(¬ 97≤c∧¬ pos=0∧¬ 48≤c)∨(¬ 97≤c∧¬ pos=0∧¬ c≤57∧c=95)∨(¬ 97≤c∧¬ pos=0∧¬ c≤57∧¬ c=95)∨(97≤c∧¬ c≤122∧¬ pos=0):=by omega
    rcases key with ⟨k1,k2⟩|⟨k1,k2⟩|⟨k1,k2,k3⟩|⟨k1,k2,k3,k4⟩|⟨k1,k2,k3⟩|⟨k1,k2,k3,k4⟩|⟨k1,k2,k3,k4⟩|⟨k1,k2,k3⟩
    ·have m1 : (97 : Int)≤(c : Int):=by omega
     have m2 : (c : Int)≤122:=by omega
     go_wp2
     go_roundw
     case rel=>exact ⟨pos+1,rfl,qQ hc (by simp [eK,jH,jI];omega) hok⟩
     case measure=>simp;omega
    ·have m1 : ¬ (97 : Int)≤(c : Int):=by omega
     subst k2
     have hb : dw s=false:=gy hp (by rw [hc];simp [eK,jH,jI];omega)
     go_wp2
     go_ret
     exact ⟨by first|rfl|(rw [hb];rfl),.inr ⟨_,rfl⟩⟩
    ·have m1 : (97 : Int)≤(c : Int):=by omega
     have m2 : ¬ (c : Int)≤122:=by omega
     subst k3
     have hb : dw s=false:=gy hp (by rw [hc];simp [eK,jH,jI];omega)
     go_wp2
     go_ret
     exact ⟨by first|rfl|(rw [hb];rfl),.inr ⟨_,rfl⟩⟩
    ·have m1 : ¬ (97 : Int)≤(c : Int):=by omega
     have m2 : ((pos : Int)==0)=false:=by simp;omega
     have m3 : (48 : Int)≤(c : Int):=by omega
     have m4 : (c : Int)≤57:=by omega
     go_wp2
     go_roundw
     case rel=>exact ⟨pos+1,rfl,qQ hc (by simp [eK,jH,jI];omega) hok⟩
     case measure=>simp;omega
    ·have m1 : ¬ (97 : Int)≤(c : Int):=by omega
     have m2 : ((pos : Int)==0)=false:=by simp;omega
     have m3 : ¬ (48 : Int)≤(c : Int):=by omega
     have m4 : ((c : Int) !=95)=true:=by simp;omega
     have hb : dw s=false:=gy hp (by rw [hc];simp [eK,jH,jI];omega)
     go_wp2
     go_ret
     exact ⟨by first|rfl|(rw [hb];rfl),.inr ⟨_,rfl⟩⟩
    ·have m1 : ¬ (97 : Int)≤(c : Int):=by omega
     have m2 : ((pos : Int)==0)=false:=by simp;omega
     have m3 : (48 : Int)≤(c : Int):=by omega
     have m5 : ¬ (c : Int)≤57:=by omega
     have m4 : ((c : Int) !=95)=false:=by simp;omega
     go_wp2
     go_roundw
     case rel=>exact ⟨pos+1,rfl,qQ hc (by simp [eK,jH,jI];omega) hok⟩
     case measure=>simp;omega
    ·have m1 : ¬ (97 : Int)≤(c : Int):=by omega
     have m2 : ((pos : Int)==0)=false:=by simp;omega
     have m3 : (48 : Int)≤(c : Int):=by omega
     have m5 : ¬ (c : Int)≤57:=by omega
     have m4 : ((c : Int) !=95)=true:=by simp;omega
     have hb : dw s=false:=gy hp (by rw [hc];simp [eK,jH,jI];omega)
     go_wp2
     go_ret
     exact ⟨by first|rfl|(rw [hb];rfl),.inr ⟨_,rfl⟩⟩
    ·have m1 : (97 : Int)≤(c : Int):=by omega
     have m6 : ¬ (c : Int)≤122:=by omega
     have m2 : ((pos : Int)==0)=false:=by simp;omega
     have m3 : (48 : Int)≤(c : Int):=by omega
     have m5 : ¬ (c : Int)≤57:=by omega
     have m4 : ((c : Int) !=95)=true:=by simp;omega
     have hb : dw s=false:=gy hp (by rw [hc];simp [eK,jH,jI];omega)
     go_wp2
     go_ret
     exact ⟨by first|rfl|(rw [hb];rfl),.inr ⟨_,rfl⟩⟩
   ·have hnx : ∀ ty,(Instr.next (.pointer (some ⟨w.heap.size,0,none⟩)) true ty).run Tryz.prog (w.iter s pos)=_:=fun ty=>run_next_any w s pos ty hp
    have hh:=(decode_high s pos hp (by omega)).1
    generalize (Utf8.decode s pos).1=c at hnx hh
    generalize (Utf8.decode s pos).2=wd at hnx
    have hb : dw s=false:=gy hp (by simp [eK,jH,jI];omega)
    have m1 : (97 : Int)≤(c : Int):=by omega
    have m6 : ¬ (c : Int)≤122:=by omega
    have m3 : (48 : Int)≤(c : Int):=by omega
    have m5 : ¬ (c : Int)≤57:=by omega
    have m4 : ((c : Int) !=95)=true:=by simp;omega
    by_cases k0 : pos=0
    ·subst k0
     go_wp2
     go_ret
     exact ⟨by first|rfl|(rw [hb];rfl),.inr ⟨_,rfl⟩⟩
    ·have m2 : ((pos : Int)==0)=false:=by simp;omega
     go_wp2
     go_ret
     exact ⟨by first|rfl|(rw [hb];rfl),.inr ⟨_,rfl⟩⟩
  ·have hnx : ∀ ty,(Instr.next (.pointer (some ⟨w.heap.size,0,none⟩)) true ty).run Tryz.prog (w.iter s pos)=_:=fun ty=>run_next_end w s pos ty hp
   go_wp2
   go_ret
   exact ⟨by rw [Df (fun i hi=>hok i hi (by omega))];rfl,.inr ⟨_,rfl⟩⟩
set_option maxRecDepth 1000000 in
theorem AT (s : ByteArray) (w : World) (h : s.size=0∨s.size > 16∨(s.toList==[119,111,114,108,100])=true) :
 Calls Tryz.prog 148 #[.string s] w fun e w'=>e=.returned (.bool false)∧w'=w:=by
 by_cases h1 : s.size=0
 ·have q1 : ((s.size : Int)==0)=true:=by simp [h1]
  go_enter Tryz.func148,Tryz.ntmps148
  go_wp2
  go_ret
  exact ⟨rfl,rfl⟩
 ·have q1 : ((s.size : Int)==0)=false:=by simp;intro h;exact h1 (by simp [h])
  by_cases h2 : s.size > 16
  ·have q2 : ((16 : Int) < (s.size : Int)):=by omega
   go_enter Tryz.func148,Tryz.ntmps148
   go_wp2
   go_ret
   exact ⟨rfl,rfl⟩
  ·have q2 : ¬ ((16 : Int) < (s.size : Int)):=by omega
   have h3 : (s.toList==[119,111,114,108,100])=true:=by rcases h with h|h|h<;>first|exact absurd h h1|exact absurd h h2|exact h
   go_enter Tryz.func148,Tryz.ntmps148
   go_wp2
   go_ret
   exact ⟨rfl,rfl⟩
theorem rR (s : ByteArray) : ab Tryz.prog 148 [.pv (.val (.string s))] [] [] (.pv (B (fO s))):=by
 refine ⟨by kernel_rfl,rfl,fun w M bs vs hM hbs hnd hbox hlen harg=>?_⟩
 match vs,hlen with
 |[v],_=>
  have hv : Rep w M (.val (.string s)) v:=harg 0 _ _ rfl rfl
  cases hv
  have ext0 : Ext (·∈ bs) w w:=Ext.refl _ _
  have exti : ∀ pos,Ext (·∈ bs) w (w.iter s pos):=fun pos=>Ext.alloc _ _ _
  have hb0 : bs=[]:=by cases bs with
   |nil=>rfl
   |cons b r=>simp at hbs
  subst hb0
  by_cases h : s.size=0∨s.size > 16∨(s.toList==[119,111,114,108,100])=true
  ·have hf : fO s=false:=by
    unfold fO
    rcases h with h|h|h
    ·simp [h]
    ·simp;omega
    ·simp [h]
   refine (AT s w h).mono ?_
   rintro e w' ⟨rfl,rfl⟩
   exact ⟨_,rfl,ext0,fun i b ps h=>by simp at h,by rw [hf];exact .val _⟩
  ·have h1 : ¬ s.size=0:=fun e=>h (.inl e)
   have h2 : ¬ s.size > 16:=fun e=>h (.inr (.inl e))
   have h3 : (s.toList==[119,111,114,108,100])=false:=by
    cases hq : s.toList==[119,111,114,108,100] with
    |false=>rfl
    |true=>exact absurd (.inr (.inr hq)) h
   have hf : fO s=dw s:=by
    unfold fO
    rw [h3]
    have a1 : decide (1≤s.size)=true:=by simp;omega
    have a2 : decide (s.size≤16)=true:=by simp;omega
    rw [a1,a2];simp
   refine (Cd s w h1 h2 h3).mono ?_
   rintro e w' ⟨rfl,hw⟩
   rcases hw with rfl|⟨pos,rfl⟩
   ·exact ⟨_,rfl,ext0,fun i b ps h=>by simp at h,by rw [hf];exact .val _⟩
   ·exact ⟨_,rfl,exti pos,fun i b ps h=>by simp at h,by rw [hf];exact .val _⟩
end Go.Ab
namespace Go.Ab
open Go.Proofs
end Go.Ab
namespace Go.Ab
theorem zC {a N B : Int} (hN : 0 < N) (h1 : -B≤a) (h2 : a≤B) : -B≤a / N∧a / N≤B:=by
 have hB : 0≤B:=by omega
 constructor
 ·have : (-B) * N≤a:=by
   have : (-B) * N≤(-B) * 1:=Int.mul_le_mul_of_nonpos_left (by omega) (by omega)
   omega
  exact (Int.le_ediv_iff_mul_le hN).2 this
 ·have : a / N < B+1:=(Int.ediv_lt_iff_lt_mul hN).2 (by
   have : (B+1) * 1≤(B+1) * N:=Int.mul_le_mul_of_nonneg_left (by omega) (by omega)
   omega)
  omega
def vL (x : Int) : Prop:=-2147483648≤x∧x≤2147483648
end Go.Ab
namespace Go.Ab
open Go.Proofs
def Ce (x : AV) (fb : Option aT) : Option aT:=match x with
 |.pv (.val (.string s))=>some (.pv (Z s.size),[])
 |_=>fb
@[simp] theorem GY (s : ByteArray) (fb : Option aT) : Ce (.pv (.val (.string s))) fb=some (.pv (Z s.size),[]):=rfl
theorem Ee {dst : Option Nat} {ty : TypeId} {pos : String} {aft : Array Edge} {g : Option (Nat × Bool)} (x : Operand) (s : ByteArray) :
 aG Tryz.prog ⟨dst,.call ⟨.builtin .len,#[x],#[9]⟩,ty,pos,aft,g⟩ (fun _=>.pv (.val (.string s)))=some (.pv (Z s.size),[]):=by kernel_rfl
@[simp] theorem Jl {dst : Option Nat} {ty : TypeId} {pos : String} {aft : Array Edge} {g : Option (Nat × Bool)} {ρ : Operand→AV} (x : Operand) :
 aG Tryz.prog ⟨dst,.call ⟨.builtin .len,#[x],#[9]⟩,ty,pos,aft,g⟩ ρ=Ce (ρ x) (dU Tryz.prog ⟨dst,.call ⟨.builtin .len,#[x],#[9]⟩,ty,pos,aft,g⟩ ρ):=by
 unfold Ce
 split
 ·rename_i s hs
  rw [← Ee (dst:=dst) (ty:=ty) (pos:=pos) (aft:=aft) (g:=g) x s]
  refine jG (by intro _ _ h;cases h) ?_
  intro y hy
  simp [Op.operands,Call.operands] at hy
  subst hy;exact hs
 ·rfl
theorem ta : (ByteArray.mk #[119,111,114,108,100]).toList=[119,111,114,108,100]:=by decide +kernel
theorem Cf {s : ByteArray} {i : Nat} (h : i < s.size) : s[i]?=some (s[i]'h):=by simp [h]
theorem E9 (s : ByteArray) : ab Tryz.prog 129 [.pv (.val (.string s))] [] [] (.pv (B (fO s))):=by
 by_cases h1 : s.size < 1
 ·have hf : fO s=false:=by unfold fO;simp;omega
  have h1' : (s.size : Int) < 1:=by omega
  rw [hf]
  refine Dp Tryz.func129 ?_
  intro C hP hN
  simp only [Tryz.f129] at hN ⊢
  with_reducible repeat' (first|refine Sp.h ?_|((first|refine Ss.h ?_|(refine Sb.h ?_ ?_ ?_<;>(try intro hgd)<;>try exact Xy))<;>simp -implicitDefEqProofs (maxSteps:=2000000) [hP,hN,h1'])|refine X2 ?_ ?_|(refine Xd ?_ ?_<;>intro hcd<;>try exact Xx))
 have h1' : ¬ (s.size : Int) < 1:=by omega
 by_cases h2 : 16 < s.size
 ·have hf : fO s=false:=by unfold fO;simp;omega
  have h2' : (16 : Int) < s.size:=by omega
  rw [hf]
  refine Dp Tryz.func129 ?_
  intro C hP hN
  simp only [Tryz.f129] at hN ⊢
  with_reducible repeat' (first|refine Sp.h ?_|((first|refine Ss.h ?_|(refine Sb.h ?_ ?_ ?_<;>(try intro hgd)<;>try exact Xy))<;>simp -implicitDefEqProofs (maxSteps:=2000000) [hP,hN,h1',h2'])|refine X2 ?_ ?_|(refine Xd ?_ ?_<;>intro hcd<;>try exact Xx))
 have h2' : ¬ (16 : Int) < s.size:=by omega
 cases h3 : s.toList==[119,111,114,108,100] with
 |true=>
  have hf : fO s=false:=by unfold fO;simp [h3]
  have h3' : (s.toList==(ByteArray.mk #[119,111,114,108,100]).toList)=true:=by rw [ta];exact h3
  rw [hf]
  refine Dp Tryz.func129 ?_
  intro C hP hN
  simp only [Tryz.f129] at hN ⊢
  with_reducible repeat' (first|refine Sp.h ?_|((first|refine Ss.h ?_|(refine Sb.h ?_ ?_ ?_<;>(try intro hgd)<;>try exact Xy))<;>simp -implicitDefEqProofs (maxSteps:=2000000) [hP,hN,h1',h2',h3'])|refine X2 ?_ ?_|(refine Xd ?_ ?_<;>intro hcd<;>try exact Xx))
 |false=>
  have hf : fO s=dw s:=by
   unfold fO
   rw [h3]
   have a1 : decide (1≤s.size)=true:=by simp;omega
   have a2 : decide (s.size≤16)=true:=by simp;omega
   rw [a1,a2];simp
  have h3' : (s.toList==(ByteArray.mk #[119,111,114,108,100]).toList)=false:=by rw [ta];exact h3
  rw [hf]
  refine Dp Tryz.func129 ?_
  intro C hP hN
  simp only [Tryz.f129] at hN ⊢
  with_reducible repeat' (first|refine Sp.h ?_|((first|refine Ss.h ?_|(refine Sb.h ?_ ?_ ?_<;>(try intro hgd)<;>try exact Xy))<;>simp -implicitDefEqProofs (maxSteps:=2000000) [hP,hN,h1',h2',h3'])|refine X2 ?_ ?_|(refine Xd ?_ ?_<;>intro hcd<;>try exact Xx))
  refine WP.loopN [] s.size (fun i st=>st.t 0=.pv (.val (.string s))∧st.t 3=.pv (Z i)∧∀ k (hk : k < s.size),k < i→eK k (s[k]'hk).toNat=true) (by simp) ?_
  rintro i st hi ⟨g0,g3,hok⟩
  by_cases hlt : i < s.size
  ·have hw : IntKind.i64.wrap ((i : Int)+1)=(i : Int)+1:=by rw [IntKind.wrap_i64];omega
   have hlt' : (i : Int) < s.size:=by omega
   have hb:=Cf hlt
   have hno : eK i (s[i]'hlt).toNat=false→dw s=false:=gy hlt
   have hyes : eK i (s[i]'hlt).toNat=true→∀ k (hk : k < s.size),k < i+1→eK k (s[k]'hk).toNat=true:=fun h=>qQ rfl h hok
   generalize s[i]'hlt=b at hno hyes hb
   with_reducible repeat' (first|refine Sp.h ?_|((first|refine Ss.h ?_|(refine Sb.h ?_ ?_ ?_<;>(try intro hgd)<;>try exact Xy))<;>simp -implicitDefEqProofs (maxSteps:=2000000) [hP,hN,g0,g3,hlt',hb,hw])|refine X2 ?_ ?_|(refine Xd ?_ ?_<;>intro hcd<;>try exact Xx))
   all_goals clear hw hP hN g0 g3 hb hok h3 h3' hf h1 h1' h2 h2'
   all_goals first|(refine hno ?_;clear hno hyes;simp [eK,jH,jI] at *;done)|(refine hno ?_;clear hno hyes;simp [eK,jH,jI] at *;omega)|(refine ⟨hlt,hyes ?_⟩;clear hno hyes;simp [eK,jH,jI] at *;done)|(refine ⟨hlt,hyes ?_⟩;clear hno hyes;simp [eK,jH,jI] at *;omega)
  ·have hlt' : ¬ (i : Int) < s.size:=by omega
   with_reducible repeat' (first|refine Sp.h ?_|((first|refine Ss.h ?_|(refine Sb.h ?_ ?_ ?_<;>(try intro hgd)<;>try exact Xy))<;>simp -implicitDefEqProofs (maxSteps:=2000000) [hP,hN,g0,g3,hlt'])|refine X2 ?_ ?_|(refine Xd ?_ ?_<;>intro hcd<;>try exact Xx))
   exact Df (fun k hk=>hok k hk (by omega))
def fe (x m : Int) : Bool:=decide (-m≤x) && decide (x≤m)
def dN (x y z m : Int) : Bool:=fe x m && fe y m && fe z m
abbrev zD (x y z : Int) : PV:=.val (.agg #[.int .i64 x,.int .i64 y,.int .i64 z])
theorem uQ : IntKind.i64.wrap 1=1:=by decide
theorem uR : IntKind.i64.wrap 2=2:=by decide
theorem uS : IntKind.i64.wrap 3=3:=by decide
theorem Fa {i : Nat} (h : i≤3) : i=0∨i=1∨i=2∨i=3:=by omega
theorem zE (x y z : Int) : ab Tryz.prog 150 [.pv (zD x y z)] [] [] (.pv (B (!dN x y z 4194304))):=by
 refine Dp Tryz.func150 ?_
 intro C hP hN
 simp only [Tryz.f150] at hN ⊢
 with_reducible repeat' (first|refine Sp.h ?_|((first|refine Ss.h ?_|(refine Sb.h ?_ ?_ ?_<;>(try intro hgd)<;>try exact Xy))<;>simp -implicitDefEqProofs (maxSteps:=2000000) [hP,hN])|refine X2 ?_ ?_|(refine Xd ?_ ?_<;>intro hcd<;>try exact Xx))
 refine WP.loopN [] 3 (fun i st=>st.t 5=.pv (zD x y z)∧st.t 6=.pv (Z i)∧(0 < i→fe x 4194304=true)∧(1 < i→fe y 4194304=true)∧(2 < i→fe z 4194304=true)) (by simp) ?_
 rintro i st hi ⟨h5,h6,q0,q1,q2⟩
 rcases Fa hi with rfl|rfl|rfl|rfl
 ·skip
  with_reducible repeat' (first|refine Sp.h ?_|((first|refine Ss.h ?_|(refine Sb.h ?_ ?_ ?_<;>(try intro hgd)<;>try exact Xy))<;>simp -implicitDefEqProofs (maxSteps:=2000000) [hP,hN,h5,h6])|refine X2 ?_ ?_|(refine Xd ?_ ?_<;>intro hcd<;>try exact Xx))
  all_goals (simp [dN,fe,uQ,uR,uS] at *;first|omega|grind)
 ·skip
  with_reducible repeat' (first|refine Sp.h ?_|((first|refine Ss.h ?_|(refine Sb.h ?_ ?_ ?_<;>(try intro hgd)<;>try exact Xy))<;>simp -implicitDefEqProofs (maxSteps:=2000000) [hP,hN,h5,h6])|refine X2 ?_ ?_|(refine Xd ?_ ?_<;>intro hcd<;>try exact Xx))
  all_goals (simp [dN,fe,uQ,uR,uS] at *;first|omega|grind)
 ·skip
  with_reducible repeat' (first|refine Sp.h ?_|((first|refine Ss.h ?_|(refine Sb.h ?_ ?_ ?_<;>(try intro hgd)<;>try exact Xy))<;>simp -implicitDefEqProofs (maxSteps:=2000000) [hP,hN,h5,h6])|refine X2 ?_ ?_|(refine Xd ?_ ?_<;>intro hcd<;>try exact Xx))
  all_goals (simp [dN,fe,uQ,uR,uS] at *;first|omega|grind)
 ·skip
  with_reducible repeat' (first|refine Sp.h ?_|((first|refine Ss.h ?_|(refine Sb.h ?_ ?_ ?_<;>(try intro hgd)<;>try exact Xy))<;>simp -implicitDefEqProofs (maxSteps:=2000000) [hP,hN,h5,h6])|refine X2 ?_ ?_|(refine Xd ?_ ?_<;>intro hcd<;>try exact Xx))
  all_goals (simp [dN,fe,uQ,uR,uS] at *;first|omega|grind)
theorem pN (x y z m : Int) (hm : 0≤m) (hm' : m < 4611686018427387904) : ab Tryz.prog 59 [.pv (zD x y z),.pv (Z m)] [] [] (.pv (B (dN x y z m))):=by
 have hw : IntKind.i64.wrap (0 - m)=-m:=(aa (n:=0 - m) (by omega) (by omega)).trans (by omega)
 have hw2 : IntKind.i64.wrap (-m)=-m:=aa
 refine Dp Tryz.func59 ?_
 intro C hP hN
 simp only [Tryz.f59] at hN ⊢
 with_reducible repeat' (first|refine Sp.h ?_|((first|refine Ss.h ?_|(refine Sb.h ?_ ?_ ?_<;>(try intro hgd)<;>try exact Xy))<;>simp -implicitDefEqProofs (maxSteps:=2000000) [hP,hN])|refine X2 ?_ ?_|(refine Xd ?_ ?_<;>intro hcd<;>try exact Xx))
 refine WP.loopN [] 3 (fun i st=>st.t 1=.pv (Z m)∧st.t 2=.ptr 2 0∧st.h 2=some (.box [.pv (Z x),.pv (Z y),.pv (Z z)] true false)∧st.t 5=.pv (Z i)∧(0 < i→fe x m=true)∧(1 < i→fe y m=true)∧(2 < i→fe z m=true)) (by simp) ?_
 rintro i st hi ⟨h1,h2,hb,h5,q0,q1,q2⟩
 rcases Fa hi with rfl|rfl|rfl|rfl
 ·skip
  with_reducible repeat' (first|refine Sp.h ?_|((first|refine Ss.h ?_|(refine Sb.h ?_ ?_ ?_<;>(try intro hgd)<;>try exact Xy))<;>simp -implicitDefEqProofs (maxSteps:=2000000) [hP,hN,h1,h2,hb,h5,hw,hw2])|refine X2 ?_ ?_|(refine Xd ?_ ?_<;>intro hcd<;>try exact Xx))
  all_goals (simp [dN,fe,uQ,uR,uS] at *;first|omega|grind)
 ·skip
  with_reducible repeat' (first|refine Sp.h ?_|((first|refine Ss.h ?_|(refine Sb.h ?_ ?_ ?_<;>(try intro hgd)<;>try exact Xy))<;>simp -implicitDefEqProofs (maxSteps:=2000000) [hP,hN,h1,h2,hb,h5,hw,hw2])|refine X2 ?_ ?_|(refine Xd ?_ ?_<;>intro hcd<;>try exact Xx))
  all_goals (simp [dN,fe,uQ,uR,uS] at *;first|omega|grind)
 ·skip
  with_reducible repeat' (first|refine Sp.h ?_|((first|refine Ss.h ?_|(refine Sb.h ?_ ?_ ?_<;>(try intro hgd)<;>try exact Xy))<;>simp -implicitDefEqProofs (maxSteps:=2000000) [hP,hN,h1,h2,hb,h5,hw,hw2])|refine X2 ?_ ?_|(refine Xd ?_ ?_<;>intro hcd<;>try exact Xx))
  all_goals (simp [dN,fe,uQ,uR,uS] at *;first|omega|grind)
 ·skip
  with_reducible repeat' (first|refine Sp.h ?_|((first|refine Ss.h ?_|(refine Sb.h ?_ ?_ ?_<;>(try intro hgd)<;>try exact Xy))<;>simp -implicitDefEqProofs (maxSteps:=2000000) [hP,hN,h1,h2,hb,h5,hw,hw2])|refine X2 ?_ ?_|(refine Xd ?_ ?_<;>intro hcd<;>try exact Xx))
  all_goals (simp [dN,fe,uQ,uR,uS] at *;first|omega|grind)
def bd (x a b : Int) : Bool:=decide (a≤x) && decide (x≤b)
theorem Fb (x m : Int) : ab Tryz.prog 152 [.pv (Z x),.pv (Z m)] [] [] (.pv (B (bd x 1 m))):=by
 refine Dp Tryz.func152 ?_
 intro C hP hN
 simp only [Tryz.f152] at hN ⊢
 with_reducible repeat' (first|refine Sp.h ?_|((first|refine Ss.h ?_|(refine Sb.h ?_ ?_ ?_<;>(try intro hgd)<;>try exact Xy))<;>simp -implicitDefEqProofs (maxSteps:=2000000) [hP,hN])|refine X2 ?_ ?_|(refine Xd ?_ ?_<;>intro hcd<;>try exact Xx))
 all_goals (first|(simp_all [bd];done)|((try simp_all [bd])<;>(try omega)<;>grind))
theorem DC (x a b : Int) : ab Tryz.prog 58 [.pv (Z x),.pv (Z a),.pv (Z b)] [] [] (.pv (B (bd x a b))):=by
 refine Dp Tryz.func58 ?_
 intro C hP hN
 simp only [Tryz.f58] at hN ⊢
 with_reducible repeat' (first|refine Sp.h ?_|((first|refine Ss.h ?_|(refine Sb.h ?_ ?_ ?_<;>(try intro hgd)<;>try exact Xy))<;>simp -implicitDefEqProofs (maxSteps:=2000000) [hP,hN])|refine X2 ?_ ?_|(refine Xd ?_ ?_<;>intro hcd<;>try exact Xx))
 all_goals (first|(simp_all [bd];done)|((try simp_all [bd])<;>(try omega)<;>grind))
def tc (k : Int) : Int:=if k=1∨k=2∨k=3 then 524288 else if k=4∨k=5∨k=6 then 4194304 else 0
def bU (k : Int) : Int:=if k=0 then 0 else if k=1∨k=2∨k=3 then 524288 else 4194304
theorem HM (k : Int) : ab Tryz.prog 151 [.pv (Z k)] [] [] (.pv (Z (tc k))):=by
 refine Dp Tryz.func151 ?_
 intro C hP hN
 simp only [Tryz.f151] at hN ⊢
 with_reducible repeat' (first|refine Sp.h ?_|((first|refine Ss.h ?_|(refine Sb.h ?_ ?_ ?_<;>(try intro hgd)<;>try exact Xy))<;>simp -implicitDefEqProofs (maxSteps:=2000000) [hP,hN])|refine X2 ?_ ?_|(refine Xd ?_ ?_<;>intro hcd<;>try exact Xx))
 all_goals (simp [tc] at *;first|omega|grind)
theorem Fc (k : Int) : ab Tryz.prog 130 [.pv (Z k)] [] [] (.pv (Z (bU k))):=by
 refine Dp Tryz.func130 ?_
 intro C hP hN
 simp only [Tryz.f130] at hN ⊢
 with_reducible repeat' (first|refine Sp.h ?_|((first|refine Ss.h ?_|(refine Sb.h ?_ ?_ ?_<;>(try intro hgd)<;>try exact Xy))<;>simp -implicitDefEqProofs (maxSteps:=2000000) [hP,hN])|refine X2 ?_ ?_|(refine Xd ?_ ?_<;>intro hcd<;>try exact Xx))
 all_goals (simp [bU] at *;first|omega|grind)
theorem ye {k : Int} (h0 : 0≤k) (h6 : k≤6) : tc k=bU k:=by
 have : k=0∨k=1∨k=2∨k=3∨k=4∨k=5∨k=6:=by omega
 rcases this with rfl|rfl|rfl|rfl|rfl|rfl|rfl<;>rfl
def iH (a b : ByteArray) : Bool:=a.toList==b.toList
theorem HN (js : List J) (ms : List Ms) (name : ByteArray) (hl : js.length≤9223372036854775807) : ab Tryz.prog 149 [.pv (fx js ms),.pv (.val (.string name))] [] [] (.pv (Z (j8 (fun j=>iH j.name name) js))):=by
 refine Dp Tryz.func149 ?_
 intro C hP hN
 simp only [Tryz.f149] at hN ⊢
 with_reducible repeat' (first|refine Sp.h ?_|((first|refine Ss.h ?_|(refine Sb.h ?_ ?_ ?_<;>(try intro hgd)<;>try exact Xy))<;>simp -implicitDefEqProofs (maxSteps:=2000000) [hP,hN])|refine X2 ?_ ?_|(refine Xd ?_ ?_<;>intro hcd<;>try exact Xx))
 refine WP.loopN [] js.length (fun i st=>st.t 1=.pv (.val (.string name))∧st.t 2=.ptr 2 0∧st.h 2=some (.box [.pv (.sl (js.map bT)),.pv (.sl (ms.map bY))] true false)∧st.t 8=.pv (Z js.length)∧st.t 9=.pv (Z i)∧∀ j x,j < i→js[j]?=some x→iH x.name name=false) (by simp) ?_
 rintro i st hi ⟨h1,h2,hb,h8,h9,hq⟩
 by_cases hlt : i < js.length
 ·have hw:=ak hlt hl
  with_reducible repeat' (first|refine Sp.h ?_|((first|refine Ss.h ?_|(refine Sb.h ?_ ?_ ?_<;>(try intro hgd)<;>try exact Xy))<;>simp -implicitDefEqProofs (maxSteps:=2000000) [hP,hN,h1,h2,hb,h8,h9,hlt,hw])|refine X2 ?_ ?_|(refine Xd ?_ ?_<;>intro hcd<;>try exact Xx))
  ·exact (ln hlt hq hcd).symm
  ·simpa using kG hlt hq hcd
 ·skip
  with_reducible repeat' (first|refine Sp.h ?_|((first|refine Ss.h ?_|(refine Sb.h ?_ ?_ ?_<;>(try intro hgd)<;>try exact Xy))<;>simp -implicitDefEqProofs (maxSteps:=2000000) [hP,hN,h1,h2,hb,h8,h9,hlt])|refine X2 ?_ ?_|(refine Xd ?_ ?_<;>intro hcd<;>try exact Xx))
  exact (pK (rP hlt hq)).symm
def mU (js : List J) (i : Nat) (name : ByteArray) : Bool:=(js.take i).any fun j=>iH j.name name
theorem Cg {js : List J} {i : Nat} (h : i < js.length) : (j8 (fun j=>iH j.name js[i].name) js !=(i : Int))=mU js i js[i].name:=by
 have hs : iH js[i].name js[i].name=true:=by simp [iH]
 cases hd : mU js i js[i].name with
 |false=>
  have : j8 (fun j=>iH j.name js[i].name) js=i:=ln h (fun j x hj hx=>by
   rw [mU,List.any_eq_false] at hd
   have hm : x ∈ js.take i:=List.mem_of_getElem? (by rw [List.getElem?_take,if_pos hj];exact hx)
   simpa using hd x hm) hs
  rw [this];simp
 |true=>
  rw [mU,List.any_eq_true] at hd
  obtain ⟨x,hx,hp⟩:=hd
  obtain ⟨k,hk⟩:=List.getElem?_of_mem hx
  rw [List.getElem?_take] at hk
  split at hk
  ·rename_i hki
   simp only [bne_iff_ne,ne_eq]
   intro he
   unfold j8 at he
   cases hf : js.findIdx? (fun j=>iH j.name js[i].name) with
   |none=>
    rw [hf] at he;simp at he
   |some m=>
    rw [hf] at he
    have he' : (m : Int)=(i : Int):=he
    have he : m=i:=by omega
    clear he'
    subst he
    rw [List.findIdx?_eq_some_iff_getElem] at hf
    obtain ⟨hl,_,hno⟩:=hf
    have hkl:=(List.getElem?_eq_some_iff.1 hk)
    have:=hno k hki
    rw [hkl.2] at this
    exact this hp
  ·cases hk
def bb (js : List J) (i : Nat) (j : J) : Int:=
 if (!fO j.name || mU js i j.name)=true then 802 else if j.kind < 0∨6 < j.kind then 803 else if j.parent < -1∨(i : Int)≤j.parent then 804 else if dN j.ox j.oy j.oz 4194304=false then 805
 else if j.hi < j.lo∨j.lo < -bU j.kind∨bU j.kind < j.hi then 806 else if (bd j.w 1 1024 && bd j.sp 1 1048576 && bd j.ac 1 1048576 && bd j.tq 1 1099511627776)=false then 807 else 0
theorem mV (k : Int) : 0≤bU k∧bU k≤4194304:=by unfold bU;repeat' split
                                               all_goals omega
theorem Fd (js : List J) (ms : List Ms) (i : Nat) (hl : js.length≤9223372036854775807) (hi : i < js.length) : ab Tryz.prog 108 [.pv (fx js ms),.pv (Z i)] [] [] (.pv (Z (bb js i js[i]))):=by
 have hx:=List.getElem?_eq_getElem hi
 have hfd:=Cg hi
 have cf:=HN js ms js[i].name hl
 generalize hxx : js[i]=j at hx hfd cf ⊢
 have hr:=mV j.kind
 have hng : IntKind.i64.wrap (0 - bU j.kind)=-bU j.kind:=(aa (n:=0 - bU j.kind) (by omega) (by omega)).trans (by omega)
 have hng' : IntKind.i64.wrap (-bU j.kind)=-bU j.kind:=aa
 generalize j8 (fun k=>iH k.name j.name) js=q at hfd cf
 refine Dp Tryz.func108 ?_
 intro C hP hN
 simp only [Tryz.f108] at hN ⊢
 cases hn : fO j.name with
 |false=>
  with_reducible repeat' (first|refine Sp.h ?_|((first|refine Ss.h ?_|refine Sc.h (rR _) ?_|refine Sc.h (cf) ?_|(refine Sb.h ?_ ?_ ?_<;>(try intro hgd)<;>try exact Xy))<;>simp -implicitDefEqProofs (maxSteps:=2000000) [hP,hN,hx,hxx,hn,hi])|refine X2 ?_ ?_|(refine Xd ?_ ?_<;>intro hcd<;>try exact Xx))
  all_goals simp [bb,hn]
 |true=>
  cases hd : mU js i j.name with
  |true=>
   rw [hd] at hfd
   with_reducible repeat' (first|refine Sp.h ?_|((first|refine Ss.h ?_|refine Sc.h (rR _) ?_|refine Sc.h (cf) ?_|(refine Sb.h ?_ ?_ ?_<;>(try intro hgd)<;>try exact Xy))<;>simp -implicitDefEqProofs (maxSteps:=2000000) [hP,hN,hx,hxx,hn,hi,hfd])|refine X2 ?_ ?_|(refine Xd ?_ ?_<;>intro hcd<;>try exact Xx))
   all_goals simp [bb,hn,hd]
  |false=>
   rw [hd] at hfd
   by_cases hk : j.kind < 0∨6 < j.kind
   ·skip
    with_reducible repeat' (first|refine Sp.h ?_|((first|refine Ss.h ?_|refine Sc.h (rR _) ?_|refine Sc.h (cf) ?_|(refine Sb.h ?_ ?_ ?_<;>(try intro hgd)<;>try exact Xy))<;>simp -implicitDefEqProofs (maxSteps:=2000000) [hP,hN,hx,hxx,hn,hi,hfd])|refine X2 ?_ ?_|(refine Xd ?_ ?_<;>intro hcd<;>try exact Xx))
    all_goals (first|(simp [bb,hn,hd,hk];done)|(exfalso;simp at *;omega))
   ·have hlr : tc j.kind=bU j.kind:=ye (by omega) (by omega)
    have cl:=HM j.kind
    rw [hlr] at cl
    have k1 : ¬ j.kind < 0:=by omega
    have k2 : ¬ 6 < j.kind:=by omega
    by_cases hp : j.parent < -1∨(i : Int)≤j.parent
    ·skip
     with_reducible repeat' (first|refine Sp.h ?_|((first|refine Ss.h ?_|refine Sc.h (rR _) ?_|refine Sc.h (cf) ?_|(refine Sb.h ?_ ?_ ?_<;>(try intro hgd)<;>try exact Xy))<;>simp -implicitDefEqProofs (maxSteps:=2000000) [hP,hN,hx,hxx,hn,hi,hfd,k1,k2])|refine X2 ?_ ?_|(refine Xd ?_ ?_<;>intro hcd<;>try exact Xx))
     all_goals (first|(simp [bb,hn,hd,hk,hp];done)|(exfalso;simp at *;omega))
    ·have p1 : ¬ j.parent < -1:=by omega
     have p2 : ¬ (i : Int)≤j.parent:=by omega
     cases hv : dN j.ox j.oy j.oz 4194304 with
     |false=>
      with_reducible repeat' (first|refine Sp.h ?_|((first|refine Ss.h ?_|refine Sc.h (rR _) ?_|refine Sc.h (cf) ?_|refine Sc.h (zE _ _ _) ?_|(refine Sb.h ?_ ?_ ?_<;>(try intro hgd)<;>try exact Xy))<;>simp -implicitDefEqProofs (maxSteps:=2000000) [hP,hN,hx,hxx,hn,hi,hfd,k1,k2,p1,p2,hv])|refine X2 ?_ ?_|(refine Xd ?_ ?_<;>intro hcd<;>try exact Xx))
      all_goals (simp [bb,hn,hd,hk,hp,hv])
     |true=>
      by_cases hb : j.hi < j.lo∨j.lo < -bU j.kind∨bU j.kind < j.hi
      ·skip
       with_reducible repeat' (first|refine Sp.h ?_|((first|refine Ss.h ?_|refine Sc.h (rR _) ?_|refine Sc.h (cf) ?_|refine Sc.h (zE _ _ _) ?_|refine Sc.h (cl) ?_|(refine Sb.h ?_ ?_ ?_<;>(try intro hgd)<;>try exact Xy))<;>simp -implicitDefEqProofs (maxSteps:=2000000) [hP,hN,hx,hxx,hn,hi,hfd,k1,k2,p1,p2,hv,hng,hng'])|refine X2 ?_ ?_|(refine Xd ?_ ?_<;>intro hcd<;>try exact Xx))
       all_goals (first|(simp [bb,hn,hd,hk,hp,hv,hb];done)|(exfalso;simp at *;omega))
      ·have b1 : ¬ j.hi < j.lo:=by omega
       have b2 : ¬ j.lo < -bU j.kind:=by omega
       have b3 : ¬ bU j.kind < j.hi:=by omega
       with_reducible repeat' (first|refine Sp.h ?_|((first|refine Ss.h ?_|refine Sc.h (rR _) ?_|refine Sc.h (cf) ?_|refine Sc.h (zE _ _ _) ?_|refine Sc.h (cl) ?_|refine Sc.h (Fb _ _) ?_|(refine Sb.h ?_ ?_ ?_<;>(try intro hgd)<;>try exact Xy))<;>simp -implicitDefEqProofs (maxSteps:=2000000) [hP,hN,hx,hxx,hn,hi,hfd,k1,k2,p1,p2,hv,hng,hng',b1,b2,b3])|refine X2 ?_ ?_|(refine Xd ?_ ?_<;>intro hcd<;>try exact Xx))
       all_goals (rw [bb,if_neg (by simp [hn,hd]),if_neg hk,if_neg hp,if_neg (by simp [hv]),if_neg hb];simp_all)
abbrev HO (j : J) : List AV:=[.pv (.val (.string j.name)),.pv (Z j.kind),.pv (Z j.parent),.pv (Z j.ox),.pv (Z j.oy),.pv (Z j.oz),.pv (Z j.lo),.pv (Z j.hi),.pv (Z j.w),.pv (Z j.sp),.pv (Z j.ac),.pv (Z j.tq)]
theorem Eg {js : List J} {i k : Nat} {n : ByteArray} (hk : k < i) (hl : k < js.length) (h : iH js[k].name n=true) : mU js i n=true:=by
 rw [mU,List.any_eq_true]
 exact ⟨js[k],List.mem_of_getElem? (i:=k) (by rw [List.getElem?_take,if_pos hk];exact List.getElem?_eq_getElem hl),h⟩
theorem Fe {js : List J} {i : Nat} {n : ByteArray} (h : ∀ m x,m < i→js[m]?=some x→iH x.name n=false) : mU js i n=false:=by
 rw [mU,List.any_eq_false]
 intro x hx
 obtain ⟨m,hm⟩:=List.getElem?_of_mem hx
 rw [List.getElem?_take] at hm
 split at hm
 ·rename_i h';simp [h m x h' hm]
 ·cases hm
theorem GZ (js : List J) (i : Nat) (hl : js.length≤9223372036854775807) (hi : i < js.length) : ab Tryz.prog 94 [.pv (.sl (js.map bT)),.pv (Z i)] [] [] (.pv (Z (bb js i js[i]))):=by
 have hx:=List.getElem?_eq_getElem hi
 generalize hxx : js[i]=j at hx ⊢
 have hr:=mV j.kind
 have hng : IntKind.i64.wrap (0 - bU j.kind)=-bU j.kind:=(aa (n:=0 - bU j.kind) (by omega) (by omega)).trans (by omega)
 have hng' : IntKind.i64.wrap (-bU j.kind)=-bU j.kind:=aa
 refine Dp Tryz.func94 ?_
 intro C hP hN
 simp only [Tryz.f94] at hN ⊢
 cases hn : fO j.name with
 |false=>
  with_reducible repeat' (first|refine Sp.h ?_|((first|refine Wd ?_|refine Ss.h ?_|refine Sc.h (E9 _) ?_|(refine Sb.h ?_ ?_ ?_<;>(try intro hgd)<;>try exact Xy))<;>simp -implicitDefEqProofs (maxSteps:=2000000) [hP,hN,hx,hxx,hn,hi]<;>try refine Ya ?_)|refine X2 ?_ ?_|(refine Xd ?_ ?_<;>intro hcd<;>try exact Xx))
  all_goals simp [bb,hn]
 |true=>
  with_reducible repeat' (first|refine Sp.h ?_|((first|refine Wd ?_|refine Ss.h ?_|refine Sc.h (E9 _) ?_|(refine Sb.h ?_ ?_ ?_<;>(try intro hgd)<;>try exact Xy))<;>simp -implicitDefEqProofs (maxSteps:=2000000) [hP,hN,hx,hxx,hn,hi]<;>try refine Ya ?_)|refine X2 ?_ ?_|(refine Xd ?_ ?_<;>intro hcd<;>try exact Xx))
  refine WP.loopN [] i (fun k st=>st.t 0=.pv (.sl (js.map bT))∧st.t 1=.pv (Z i)∧st.t 5=.ptr 5 0∧st.h 5=some (.box (HO j) true false)∧st.t 6=.pv (Z k)∧∀ m x,m < k→js[m]?=some x→iH x.name j.name=false) (by simp) ?_
  rintro k st hk ⟨g0,g1,g5,hb5,g6,hq⟩
  by_cases hlt : k < i
  ·have hlt' : k < js.length:=by omega
   have hw:=ak hlt' hl
   have hlti : (k : Int) < (i : Int):=by omega
   cases hs : iH js[k].name j.name with
   |true=>
    have hs' : (js[k].name.toList==j.name.toList)=true:=hs
    have hd:=Eg hlt hlt' hs
    with_reducible repeat' (first|refine Sp.h ?_|((first|refine Wd ?_|refine Ss.h ?_|(refine Sb.h ?_ ?_ ?_<;>(try intro hgd)<;>try exact Xy))<;>simp -implicitDefEqProofs (maxSteps:=2000000) [hP,hN,g0,g1,g5,hb5,g6,hlt,hlt',hw,hs',hlti]<;>try refine Ya ?_)|refine X2 ?_ ?_|(refine Xd ?_ ?_<;>intro hcd<;>try exact Xx))
    all_goals simp [bb,hn,hd]
   |false=>
    have hs' : (js[k].name.toList==j.name.toList)=false:=hs
    with_reducible repeat' (first|refine Sp.h ?_|((first|refine Wd ?_|refine Ss.h ?_|(refine Sb.h ?_ ?_ ?_<;>(try intro hgd)<;>try exact Xy))<;>simp -implicitDefEqProofs (maxSteps:=2000000) [hP,hN,g0,g1,g5,hb5,g6,hlt,hlt',hw,hs',hlti]<;>try refine Ya ?_)|refine X2 ?_ ?_|(refine Xd ?_ ?_<;>intro hcd<;>try exact Xx))
    all_goals simpa using kG hlt' hq hs
  ·have hki : k=i:=by omega
   subst hki
   have hd:=Fe hq
   by_cases hk : j.kind < 0∨6 < j.kind
   ·skip
    with_reducible repeat' (first|refine Sp.h ?_|((first|refine Wd ?_|refine Ss.h ?_|(refine Sb.h ?_ ?_ ?_<;>(try intro hgd)<;>try exact Xy))<;>simp -implicitDefEqProofs (maxSteps:=2000000) [hP,hN,g0,g1,g5,hb5,g6]<;>try refine Ya ?_)|refine X2 ?_ ?_|(refine Xd ?_ ?_<;>intro hcd<;>try exact Xx))
    all_goals (first|(simp [bb,hn,hd,hk];done)|(exfalso;simp at *;omega))
   ·have k1 : ¬ j.kind < 0:=by omega
    have k2 : ¬ 6 < j.kind:=by omega
    by_cases hp : j.parent < -1∨(k : Int)≤j.parent
    ·skip
     with_reducible repeat' (first|refine Sp.h ?_|((first|refine Wd ?_|refine Ss.h ?_|(refine Sb.h ?_ ?_ ?_<;>(try intro hgd)<;>try exact Xy))<;>simp -implicitDefEqProofs (maxSteps:=2000000) [hP,hN,g0,g1,g5,hb5,g6,k1,k2]<;>try refine Ya ?_)|refine X2 ?_ ?_|(refine Xd ?_ ?_<;>intro hcd<;>try exact Xx))
     all_goals (first|(simp [bb,hn,hd,hk,hp];done)|(exfalso;simp at *;omega))
    ·have p1 : ¬ j.parent < -1:=by omega
     have p2 : ¬ (k : Int)≤j.parent:=by omega
     cases hv : dN j.ox j.oy j.oz 4194304 with
     |false=>
      with_reducible repeat' (first|refine Sp.h ?_|((first|refine Wd ?_|refine Ss.h ?_|refine Sc.h (pN _ _ _ _ (by decide) (by decide)) ?_|(refine Sb.h ?_ ?_ ?_<;>(try intro hgd)<;>try exact Xy))<;>simp -implicitDefEqProofs (maxSteps:=2000000) [hP,hN,g0,g1,g5,hb5,g6,k1,k2,p1,p2,hv]<;>try refine Ya ?_)|refine X2 ?_ ?_|(refine Xd ?_ ?_<;>intro hcd<;>try exact Xx))
      all_goals (simp [bb,hn,hd,hk,hp,hv])
     |true=>
      by_cases hb : j.hi < j.lo∨j.lo < -bU j.kind∨bU j.kind < j.hi
      ·skip
       with_reducible repeat' (first|refine Sp.h ?_|((first|refine Wd ?_|refine Ss.h ?_|refine Sc.h (pN _ _ _ _ (by decide) (by decide)) ?_|refine Sc.h (Fc _) ?_|(refine Sb.h ?_ ?_ ?_<;>(try intro hgd)<;>try exact Xy))<;>simp -implicitDefEqProofs (maxSteps:=2000000) [hP,hN,g0,g1,g5,hb5,g6,k1,k2,p1,p2,hv,hng,hng']<;>try refine Ya ?_)|refine X2 ?_ ?_|(refine Xd ?_ ?_<;>intro hcd<;>try exact Xx))
       all_goals (first|(simp [bb,hn,hd,hk,hp,hv,hb];done)|(exfalso;simp at *;omega))
      ·have b1 : ¬ j.hi < j.lo:=by omega
       have b2 : ¬ j.lo < -bU j.kind:=by omega
       have b3 : ¬ bU j.kind < j.hi:=by omega
       with_reducible repeat' (first|refine Sp.h ?_|((first|refine Wd ?_|refine Ss.h ?_|refine Sc.h (pN _ _ _ _ (by decide) (by decide)) ?_|refine Sc.h (Fc _) ?_|refine Sc.h (DC _ _ _) ?_|(refine Sb.h ?_ ?_ ?_<;>(try intro hgd)<;>try exact Xy))<;>simp -implicitDefEqProofs (maxSteps:=2000000) [hP,hN,g0,g1,g5,hb5,g6,k1,k2,p1,p2,hv,hng,hng',b1,b2,b3]<;>try refine Ya ?_)|refine X2 ?_ ?_|(refine Xd ?_ ?_<;>intro hcd<;>try exact Xx))
       all_goals (rw [bb,if_neg (by simp [hn,hd]),if_neg hk,if_neg hp,if_neg (by simp [hv]),if_neg hb];simp_all)
end Go.Ab
namespace Go.Ab
open Go.Proofs
def en (n : Nat) (m : Ms) : Bool:=decide (0≤m.link) && decide (m.link < n) && bd m.mass 1 65536 && dN m.px m.py m.pz 4194304
theorem HP (js : List J) (ms : List Ms) (m : Ms) : ab Tryz.prog 111 [.pv (fx js ms),.pv (bY m)] [] [] (.pv (B (en js.length m))):=by
 refine Dp Tryz.func111 ?_
 intro C hP hN
 simp only [Tryz.f111] at hN ⊢
 with_reducible repeat' (first|refine Sp.h ?_|((first|refine Ss.h ?_|refine Sc.h (Fb _ _) ?_|refine Sc.h (zE _ _ _) ?_|(refine Sb.h ?_ ?_ ?_<;>(try intro hgd)<;>try exact Xy))<;>simp -implicitDefEqProofs (maxSteps:=2000000) [hP,hN])|refine X2 ?_ ?_|(refine Xd ?_ ?_<;>intro hcd<;>try exact Xx))
 all_goals (simp_all [en]<;>omega)
theorem HQ (js : List J) (ms : List Ms) (m : Ms) : ab Tryz.prog 110 [.pv (bY m),.pv (.rptr (fx js ms) 0)] [] [] (.pv (B (!en js.length m))):=by
 refine Dp Tryz.func110 ?_
 intro C hP hN
 simp only [Tryz.f110] at hN ⊢
 with_reducible repeat' (first|refine Sp.h ?_|((first|refine Ss.h ?_|refine Sc.h (HP _ _ _) ?_|(refine Sb.h ?_ ?_ ?_<;>(try intro hgd)<;>try exact Xy))<;>simp -implicitDefEqProofs (maxSteps:=2000000) [hP,hN])|refine X2 ?_ ?_|(refine Xd ?_ ?_<;>intro hcd<;>try exact Xx))
theorem HR (f : FuncId) (c : PV) (p : Ms→Bool) (xs : List Ms) (hl : xs.length≤9223372036854775807) (hf : ∀ x,ab Tryz.prog f [.pv (bY x),.pv (.rptr c 0)] [] [] (.pv (B (p x)))) : ab Tryz.prog 153 [.pv (.sl (xs.map bY)),.pv (.fn (.func f) [] [.rptr c 0])] [] [] (.pv (Z (j8 p xs))):=by
 refine Dp Tryz.func153 ?_
 intro C hP hN
 simp only [Tryz.f153] at hN ⊢
 with_reducible repeat' (first|refine Sp.h ?_|((first|refine Ss.h ?_|(refine Sb.h ?_ ?_ ?_<;>(try intro hgd)<;>try exact Xy))<;>simp -implicitDefEqProofs (maxSteps:=2000000) [hP,hN])|refine X2 ?_ ?_|(refine Xd ?_ ?_<;>intro hcd<;>try exact Xx))
 refine WP.loopN [] xs.length (fun i st=>st.t 0=.pv (.sl (xs.map bY))∧st.t 1=.pv (.fn (.func f) [] [.rptr c 0])∧st.t 7=.pv (Z xs.length)∧st.t 8=.pv (Z i)∧∀ j x,j < i→xs[j]?=some x→p x=false) (by simp) ?_
 rintro i st hi ⟨h0,h1,h7,h8,hq⟩
 by_cases hlt : i < xs.length
 ·have hw:=ak hlt hl
  with_reducible repeat' (first|refine Sp.h ?_|((first|refine Ss.h ?_|refine Sc.h (hf _) ?_|(refine Sb.h ?_ ?_ ?_<;>(try intro hgd)<;>try exact Xy))<;>simp -implicitDefEqProofs (maxSteps:=2000000) [hP,hN,h0,h1,h7,h8,hlt,hw])|refine X2 ?_ ?_|(refine Xd ?_ ?_<;>intro hcd<;>try exact Xx))
  ·exact (ln hlt hq hcd).symm
  ·simpa using kG hlt hq hcd
 ·skip
  with_reducible repeat' (first|refine Sp.h ?_|((first|refine Ss.h ?_|(refine Sb.h ?_ ?_ ?_<;>(try intro hgd)<;>try exact Xy))<;>simp -implicitDefEqProofs (maxSteps:=2000000) [hP,hN,h0,h1,h7,h8,hlt])|refine X2 ?_ ?_|(refine Xd ?_ ?_<;>intro hcd<;>try exact Xx))
  exact (pK (rP hlt hq)).symm
theorem HS (f : FuncId) (c : PV) (p : Ms→Bool) (xs : List Ms) (hl : xs.length≤9223372036854775807) (hf : ∀ x,ab Tryz.prog f [.pv (bY x),.pv (.rptr c 0)] [] [] (.pv (B (p x)))) : ab Tryz.prog 109 [.pv (.sl (xs.map bY)),.pv (.fn (.func f) [] [.rptr c 0])] [] [] (.pv (B (xs.any p))):=by
 refine Dp Tryz.func109 ?_
 intro C hP hN
 simp only [Tryz.f109] at hN ⊢
 with_reducible repeat' (first|refine Sp.h ?_|((first|refine Ss.h ?_|refine Sc.h (HR _ _ _ _ hl hf) ?_|(refine Sb.h ?_ ?_ ?_<;>(try intro hgd)<;>try exact Xy))<;>simp -implicitDefEqProofs (maxSteps:=2000000) [hP,hN])|refine X2 ?_ ?_|(refine Xd ?_ ?_<;>intro hcd<;>try exact Xx))
 all_goals (first|(simp_all [om];done)|((try simp_all [om])<;>(try omega)<;>grind))
def fP (js : List J) : Int:=match (js.mapIdx (bb js)).find? (fun e=>e !=0) with
 |some e=>e
 |none=>0
theorem kH (js : List J) : fP js=match (js.mapIdx (bb js)).find? (fun e=>e !=0) with
 |some e=>e
 |none=>0:=rfl
theorem ry {js : List J} {i : Nat} (hlt : i < js.length) (hq : ∀ k x,k < i→js[k]?=some x→bb js k x=0) (he : bb js i js[i]≠0) : fP js=bb js i js[i]:=by
 rw [kH]
 have : (js.mapIdx (bb js)).find? (fun e=>e !=0)=some (bb js i js[i]):=by
  rw [List.find?_eq_some_iff_getElem]
  refine ⟨by simpa using he,i,by simpa using hlt,by simp,fun k hk=>?_⟩
  have hkl : k < js.length:=by omega
  simp [hq k js[k] hk (List.getElem?_eq_getElem hkl)]
 rw [this]
theorem td {js : List J} (hq : ∀ (k : Nat) x,js[k]?=some x→bb js k x=0) : fP js=0:=by
 rw [kH]
 have : (js.mapIdx (bb js)).find? (fun e=>e !=0)=none:=by
  rw [List.find?_eq_none]
  intro e he
  simp only [List.mem_mapIdx] at he
  obtain ⟨i,hi,rfl⟩:=he
  simp [hq i js[i] (List.getElem?_eq_getElem hi)]
 rw [this]
theorem wA {js : List J} {i : Nat} (hlt : i < js.length) (hq : ∀ k x,k < i→js[k]?=some x→bb js k x=0) (he : bb js i js[i]=0) : ∀ k x,k < i+1→js[k]?=some x→bb js k x=0:=by
 intro k x hk hx
 by_cases e : k=i
 ·subst e;rw [List.getElem?_eq_getElem hlt] at hx;injection hx with hx;subst hx;exact he
 ·exact hq k x (by omega) hx
def ax (js : List J) (ms : List Ms) : Int:=if js.length=0∨10 < js.length then 801 else if fP js≠0 then fP js else if (decide (32 < ms.length) || ms.any fun m=>!en js.length m)=true then 808 else 0
theorem Jm (js : List J) (ms : List Ms) (hl : js.length≤9223372036854775807) (hm : ms.length≤9223372036854775807) : ab Tryz.prog 73 [.pv (fx js ms)] [] [] (.pv (Z (ax js ms))):=by
 by_cases h0 : js.length=0
 ·have hc : ax js ms=801:=by simp [ax,h0]
  have h0' : js=[]:=List.eq_nil_of_length_eq_zero h0
  rw [hc]
  subst h0'
  refine Dp Tryz.func73 ?_
  intro C hP hN
  simp only [Tryz.f73] at hN ⊢
  with_reducible repeat' (first|refine Sp.h ?_|((first|refine Ss.h ?_|(refine Sb.h ?_ ?_ ?_<;>(try intro hgd)<;>try exact Xy))<;>simp -implicitDefEqProofs (maxSteps:=2000000) [hP,hN])|refine X2 ?_ ?_|(refine Xd ?_ ?_<;>intro hcd<;>try exact Xx))
 have n0 : ((js.length : Int)==0)=false:=by simp;intro h;exact h0 (by rw [h];rfl)
 by_cases h1 : 10 < js.length
 ·have hc : ax js ms=801:=by simp [ax,h1]
  have h1' : (10 : Int) < js.length:=by omega
  rw [hc]
  refine Dp Tryz.func73 ?_
  intro C hP hN
  simp only [Tryz.f73] at hN ⊢
  with_reducible repeat' (first|refine Sp.h ?_|((first|refine Ss.h ?_|(refine Sb.h ?_ ?_ ?_<;>(try intro hgd)<;>try exact Xy))<;>simp -implicitDefEqProofs (maxSteps:=2000000) [hP,hN,h1',h1,n0,h0])|refine X2 ?_ ?_|(refine Xd ?_ ?_<;>intro hcd<;>try exact Xx))
 have h1' : ¬ (10 : Int) < js.length:=by omega
 have hc0 : ax js ms=if fP js≠0 then fP js else if (decide (32 < ms.length) || ms.any fun m=>!en js.length m)=true then 808 else 0:=by
  unfold ax;rw [if_neg (by omega)]
 rw [hc0]
 generalize hr : (if (decide (32 < ms.length) || ms.any fun m=>!en js.length m)=true then (808 : Int) else 0)=r
 refine Dp Tryz.func73 ?_
 intro C hP hN
 simp only [Tryz.f73] at hN ⊢
 with_reducible repeat' (first|refine Sp.h ?_|((first|refine Ss.h ?_|(refine Sb.h ?_ ?_ ?_<;>(try intro hgd)<;>try exact Xy))<;>simp -implicitDefEqProofs (maxSteps:=2000000) [hP,hN,h1',h1,n0,h0])|refine X2 ?_ ?_|(refine Xd ?_ ?_<;>intro hcd<;>try exact Xx))
 refine WP.loopN [] js.length (fun i st=>st.t 1=.ptr 1 0∧st.h 1=some (.box [.pv (.sl (js.map bT)),.pv (.sl (ms.map bY))] true false)∧st.t 17=.pv (Z js.length)∧st.t 18=.pv (Z i)∧∀ k x,k < i→js[k]?=some x→bb js k x=0) (by simp) ?_
 rintro i st hi ⟨g1,hb1,g17,g18,hq⟩
 by_cases hlt : i < js.length
 ·have hw:=ak hlt hl
  by_cases he : bb js i js[i]=0
  ·have hne : (bb js i js[i] !=0)=false:=by simp [he]
   with_reducible repeat' (first|refine Sp.h ?_|((first|refine Ss.h ?_|refine Sc.h (Fd js ms i hl hlt) ?_|(refine Sb.h ?_ ?_ ?_<;>(try intro hgd)<;>try exact Xy))<;>simp -implicitDefEqProofs (maxSteps:=2000000) [hP,hN,g1,hb1,g17,g18,hlt,hw,hne,he])|refine X2 ?_ ?_|(refine Xd ?_ ?_<;>intro hcd<;>try exact Xx))
   all_goals simpa using wA hlt hq he
  ·have hne : (bb js i js[i] !=0)=true:=by simp [he]
   have hf:=ry hlt hq he
   with_reducible repeat' (first|refine Sp.h ?_|((first|refine Ss.h ?_|refine Sc.h (Fd js ms i hl hlt) ?_|(refine Sb.h ?_ ?_ ?_<;>(try intro hgd)<;>try exact Xy))<;>simp -implicitDefEqProofs (maxSteps:=2000000) [hP,hN,g1,hb1,g17,g18,hlt,hw,hne,he])|refine X2 ?_ ?_|(refine Xd ?_ ?_<;>intro hcd<;>try exact Xx))
   all_goals simp [hf,he]
 ·have hf : fP js=0:=td (fun k x hx=>hq k x (by have:=(List.getElem?_eq_some_iff.1 hx).1;omega) hx)
  have cm:=HS 110 (fx js ms) (fun m=>!en js.length m) ms hm (fun m=>HQ js ms m)
  rw [hf]
  by_cases h32 : 32 < ms.length
  ·have h32' : (32 : Int) < ms.length:=by omega
   have hr' : r=808:=by rw [← hr];simp [h32]
   with_reducible repeat' (first|refine Sp.h ?_|((first|refine Ss.h ?_|refine Sc.h (cm) ?_|(refine Sb.h ?_ ?_ ?_<;>(try intro hgd)<;>try exact Xy))<;>simp -implicitDefEqProofs (maxSteps:=2000000) [hP,hN,g1,hb1,g17,g18,hlt,h32,h32',hr'])|refine X2 ?_ ?_|(refine Xd ?_ ?_<;>intro hcd<;>try exact Xx))
  ·have h32' : ¬ (32 : Int) < ms.length:=by omega
   cases hany : ms.any fun m=>!en js.length m with
   |true=>
    rw [hany] at cm
    have hr' : r=808:=by rw [← hr,hany];simp
    with_reducible repeat' (first|refine Sp.h ?_|((first|refine Ss.h ?_|refine Sc.h (cm) ?_|(refine Sb.h ?_ ?_ ?_<;>(try intro hgd)<;>try exact Xy))<;>simp -implicitDefEqProofs (maxSteps:=2000000) [hP,hN,g1,hb1,g17,g18,hlt,h32,h32',hr'])|refine X2 ?_ ?_|(refine Xd ?_ ?_<;>intro hcd<;>try exact Xx))
   |false=>
    rw [hany] at cm
    have hr' : r=0:=by rw [← hr,hany];simp [h32]
    with_reducible repeat' (first|refine Sp.h ?_|((first|refine Ss.h ?_|refine Sc.h (cm) ?_|(refine Sb.h ?_ ?_ ?_<;>(try intro hgd)<;>try exact Xy))<;>simp -implicitDefEqProofs (maxSteps:=2000000) [hP,hN,g1,hb1,g17,g18,hlt,h32,h32',hr'])|refine X2 ?_ ?_|(refine Xd ?_ ?_<;>intro hcd<;>try exact Xx))
theorem Eh {α : Type} {p : α→Bool} {xs : List α} {i : Nat} (h : i < xs.length) (hp : p xs[i]=true) : xs.any p=true:=List.any_eq_true.2 ⟨_,List.getElem_mem h,hp⟩
theorem Ff {α : Type} {p : α→Bool} {xs : List α} (h : ∀ (i : Nat) x,xs[i]?=some x→p x=false) : xs.any p=false:=by
 rw [List.any_eq_false]
 intro x hx
 obtain ⟨i,hi⟩:=List.getElem?_of_mem hx
 simp [h i x hi]
theorem mn (js : List J) (ms : List Ms) (hl : js.length≤9223372036854775807) (hm : ms.length≤9223372036854775807) : ab Tryz.prog 56 [.pv (fx js ms)] [] [] (.pv (Z (ax js ms))):=by
 by_cases h0 : js.length=0
 ·have hc : ax js ms=801:=by simp [ax,h0]
  have h0' : js=[]:=List.eq_nil_of_length_eq_zero h0
  rw [hc]
  subst h0'
  refine Dp Tryz.func56 ?_
  intro C hP hN
  simp only [Tryz.f56] at hN ⊢
  with_reducible repeat' (first|refine Sp.h ?_|((first|refine Ss.h ?_|(refine Sb.h ?_ ?_ ?_<;>(try intro hgd)<;>try exact Xy))<;>simp -implicitDefEqProofs (maxSteps:=2000000) [hP,hN])|refine X2 ?_ ?_|(refine Xd ?_ ?_<;>intro hcd<;>try exact Xx))
 have n0 : ¬ (js.length : Int) < 1:=by omega
 have n1 : ¬ js.length < 1:=by omega
 by_cases h1 : 10 < js.length
 ·have hc : ax js ms=801:=by simp [ax,h1]
  have h1' : (10 : Int) < js.length:=by omega
  rw [hc]
  refine Dp Tryz.func56 ?_
  intro C hP hN
  simp only [Tryz.f56] at hN ⊢
  with_reducible repeat' (first|refine Sp.h ?_|((first|refine Ss.h ?_|(refine Sb.h ?_ ?_ ?_<;>(try intro hgd)<;>try exact Xy))<;>simp -implicitDefEqProofs (maxSteps:=2000000) [hP,hN,h1',h1,n0,n1,h0])|refine X2 ?_ ?_|(refine Xd ?_ ?_<;>intro hcd<;>try exact Xx))
 have h1' : ¬ (10 : Int) < js.length:=by omega
 have hc0 : ax js ms=if fP js≠0 then fP js else if (decide (32 < ms.length) || ms.any fun m=>!en js.length m)=true then 808 else 0:=by
  unfold ax;rw [if_neg (by omega)]
 rw [hc0]
 generalize hr : (if (decide (32 < ms.length) || ms.any fun m=>!en js.length m)=true then (808 : Int) else 0)=r
 refine Dp Tryz.func56 ?_
 intro C hP hN
 simp only [Tryz.f56] at hN ⊢
 with_reducible repeat' (first|refine Sp.h ?_|((first|refine Ss.h ?_|(refine Sb.h ?_ ?_ ?_<;>(try intro hgd)<;>try exact Xy))<;>simp -implicitDefEqProofs (maxSteps:=2000000) [hP,hN,h1',h1,n0,n1,h0])|refine X2 ?_ ?_|(refine Xd ?_ ?_<;>intro hcd<;>try exact Xx))
 refine WP.loopN [] js.length (fun i st=>st.t 1=.ptr 1 0∧st.h 1=some (.box [.pv (.sl (js.map bT)),.pv (.sl (ms.map bY))] true false)∧st.h 6=none∧st.t 3=.pv (Z i)∧∀ k x,k < i→js[k]?=some x→bb js k x=0) (by simp) ?_
 rintro i st hi ⟨g1,hb1,hb6,g3,hq⟩
 by_cases hlt : i < js.length
 ·have hw:=ak hlt hl
  by_cases he : bb js i js[i]=0
  ·have hne : (bb js i js[i] !=0)=false:=by simp [he]
   with_reducible repeat' (first|refine Sp.h ?_|((first|refine Ss.h ?_|refine Sc.h (GZ js i hl hlt) ?_|(refine Sb.h ?_ ?_ ?_<;>(try intro hgd)<;>try exact Xy))<;>simp -implicitDefEqProofs (maxSteps:=2000000) [hP,hN,g1,hb1,hb6,g3,hlt,hw,hne,he])|refine X2 ?_ ?_|(refine Xd ?_ ?_<;>intro hcd<;>try exact Xx))
   all_goals simpa using wA hlt hq he
  ·have hne : (bb js i js[i] !=0)=true:=by simp [he]
   have hf:=ry hlt hq he
   with_reducible repeat' (first|refine Sp.h ?_|((first|refine Ss.h ?_|refine Sc.h (GZ js i hl hlt) ?_|(refine Sb.h ?_ ?_ ?_<;>(try intro hgd)<;>try exact Xy))<;>simp -implicitDefEqProofs (maxSteps:=2000000) [hP,hN,g1,hb1,hb6,g3,hlt,hw,hne,he])|refine X2 ?_ ?_|(refine Xd ?_ ?_<;>intro hcd<;>try exact Xx))
   all_goals simp [hf,he]
 ·have hf : fP js=0:=td (fun k x hx=>hq k x (by have:=(List.getElem?_eq_some_iff.1 hx).1;omega) hx)
  rw [hf]
  by_cases h32 : 32 < ms.length
  ·have h32' : (32 : Int) < ms.length:=by omega
   have hr' : r=808:=by rw [← hr];simp [h32]
   with_reducible repeat' (first|refine Sp.h ?_|((first|refine Ss.h ?_|(refine Sb.h ?_ ?_ ?_<;>(try intro hgd)<;>try exact Xy))<;>simp -implicitDefEqProofs (maxSteps:=2000000) [hP,hN,g1,hb1,hb6,g3,hlt,h32,h32',hr'])|refine X2 ?_ ?_|(refine Xd ?_ ?_<;>intro hcd<;>try exact Xx))
  ·have h32' : ¬ (32 : Int) < ms.length:=by omega
   with_reducible repeat' (first|refine Sp.h ?_|((first|refine Ss.h ?_|(refine Sb.h ?_ ?_ ?_<;>(try intro hgd)<;>try exact Xy))<;>simp -implicitDefEqProofs (maxSteps:=2000000) [hP,hN,g1,hb1,hb6,g3,hlt,h32,h32'])|refine X2 ?_ ?_|(refine Xd ?_ ?_<;>intro hcd<;>try exact Xx))
   refine WP.loopN [6] ms.length (fun i st=>st.t 1=.ptr 1 0∧st.h 1=some (.box [.pv (.sl (js.map bT)),.pv (.sl (ms.map bY))] true false)∧st.h 6=none∧st.t 5=.pv (Z i)∧∀ k x,k < i→ms[k]?=some x→(!en js.length x)=false) (by simp [g1,hb1,hb6]) ?_
   clear g1 hb1 hb6 g3 hq
   rintro i st hi ⟨g1,hb1,hb6,g5,hq⟩
   by_cases hlt : i < ms.length
   ·have hw:=ak hlt hm
    have hx:=List.getElem?_eq_getElem hlt
    cases hok : en js.length ms[i] with
    |false=>
     have hany : (ms.any fun m=>!en js.length m)=true:=Eh hlt (by simp [hok])
     have hr' : r=808:=by rw [← hr,hany];simp
     clear hr hany
     with_reducible repeat' (first|refine Sp.h ?_|((first|refine Ss.h ?_|refine Sc.h (pN _ _ _ _ (by decide) (by decide)) ?_|refine Sc.h (DC _ _ _) ?_|(refine Sb.h ?_ ?_ ?_<;>(try intro hgd)<;>try exact Xy))<;>simp -implicitDefEqProofs (maxSteps:=2000000) [hP,hN,g1,hb1,hb6,g5,hlt,hw,hr'])|refine X2 ?_ ?_|(refine Xd ?_ ?_<;>intro hcd<;>try exact Xx))
     all_goals (exfalso;clear hq hP hN g1 hb1 hb6 g5 hw hr' hc0 hf;simp [en] at *;grind)
    |true=>
     have hst:=kG (p:=fun m=>!en js.length m) hlt hq (by simp [hok])
     clear hr hq
     with_reducible repeat' (first|refine Sp.h ?_|((first|refine Ss.h ?_|refine Sc.h (pN _ _ _ _ (by decide) (by decide)) ?_|refine Sc.h (DC _ _ _) ?_|(refine Sb.h ?_ ?_ ?_<;>(try intro hgd)<;>try exact Xy))<;>simp -implicitDefEqProofs (maxSteps:=2000000) [hP,hN,g1,hb1,hb6,g5,hlt,hw])|refine X2 ?_ ?_|(refine Xd ?_ ?_<;>intro hcd<;>try exact Xx))
     all_goals first|(simpa using hst)|(exfalso;clear hst hP hN g1 hb1 hb6 g5 hw hc0 hf;simp [en] at *;grind)
   ·have hany : (ms.any fun m=>!en js.length m)=false:=Ff (fun k x hx=>hq k x (by have:=(List.getElem?_eq_some_iff.1 hx).1;omega) hx)
    have hr' : r=0:=by rw [← hr,hany];simp [h32]
    with_reducible repeat' (first|refine Sp.h ?_|((first|refine Ss.h ?_|(refine Sb.h ?_ ?_ ?_<;>(try intro hgd)<;>try exact Xy))<;>simp -implicitDefEqProofs (maxSteps:=2000000) [hP,hN,g1,hb1,hb6,g5,hlt,hr'])|refine X2 ?_ ?_|(refine Xd ?_ ?_<;>intro hcd<;>try exact Xx))
end Go.Ab
namespace Go.Ab
theorem AU {α : Type} [DecidableEq α] (xs : List α) : gQ xs xs=true:=by simp [gQ,Ea rfl]
end Go.Ab
namespace Go.Ab
theorem ik {α : Type} {p : α→Bool} {xs : List α} : aD p xs=true↔∀ x ∈ xs,p x=true:=by simp [aD]
theorem ke {α β : Type} {f : α→β→Bool} {xs : List α} {ys : List β} : bZ f xs ys=true↔∀ (i : Nat) (h : i < xs.length) (h' : i < ys.length),f xs[i] ys[i]=true:=by
 unfold bZ
 rw [List.all_eq_true]
 constructor
 ·intro h i hi hi'
  exact h (f xs[i] ys[i]) (by
   rw [List.mem_iff_getElem]
   exact ⟨i,by simp;omega,by simp⟩)
 ·intro h x hx
  obtain ⟨i,hi,rfl⟩:=List.mem_iff_getElem.1 hx
  simp only [List.length_zipWith] at hi
  simpa using h i (by omega) (by omega)
section
variable {p q : List Int} {d i : Int}
end
end Go.Ab
namespace Go.Ab
open Go.Proofs
def nu (a b : Int) : Int:=if a.tmod b < 0 then wr (wr (a.tdiv b) - 1) else wr (a.tdiv b)
def Cj (a b : Int) : Int:=if 0 < a.tmod b then wr (wr (a.tdiv b)+1) else wr (a.tdiv b)
theorem HT (a b : Int) (hb : b≠0) : ab Tryz.prog 114 [.pv (Z a),.pv (Z b)] [] [] (.pv (Z (nu a b))):=by
 refine Dp Tryz.func114 ?_
 intro C hP hN
 simp only [Tryz.f114] at hN ⊢
 with_reducible repeat' (first|refine Sp.h ?_|((first|refine Ss.h ?_|(refine Sb.h ?_ ?_ ?_<;>(try intro hgd)<;>try exact Xy))<;>simp -implicitDefEqProofs (maxSteps:=2000000) [hP,hN,hb])|refine X2 ?_ ?_|(refine Xd ?_ ?_<;>intro hcd<;>try exact Xx))
 all_goals (first|(simp_all [nu];done)|((try simp_all [nu])<;>(try omega)<;>grind))
theorem Pb (a b : Int) (hb : b≠0) : ab Tryz.prog 115 [.pv (Z a),.pv (Z b)] [] [] (.pv (Z (Cj a b))):=by
 refine Dp Tryz.func115 ?_
 intro C hP hN
 simp only [Tryz.f115] at hN ⊢
 with_reducible repeat' (first|refine Sp.h ?_|((first|refine Ss.h ?_|(refine Sb.h ?_ ?_ ?_<;>(try intro hgd)<;>try exact Xy))<;>simp -implicitDefEqProofs (maxSteps:=2000000) [hP,hN,hb])|refine X2 ?_ ?_|(refine Xd ?_ ?_<;>intro hcd<;>try exact Xx))
 all_goals (first|(simp_all [Cj];done)|((try simp_all [Cj])<;>(try omega)<;>grind))
theorem Nw (xs ys : List Int) (d : Int) (hl : xs.length≤9223372036854775807) (hm : ys.length≤9223372036854775807) : ab Tryz.prog 113 [.pv (zs xs),.pv (zs ys),.pv (Z d)] [] [] (.pv (B (md xs ys d))):=by
 have e : md xs ys d=(aD AS xs && aD AS ys && decide (xs.length=ys.length) && decide (0≤d) && decide (d≤20)):=by
  unfold md
  cases aD AS xs<;>cases aD AS ys<;>cases decide (xs.length=ys.length)<;>rfl
 rw [e]
 refine Dp Tryz.func113 ?_
 intro C hP hN
 simp only [Tryz.f113] at hN ⊢
 with_reducible repeat' (first|refine Sp.h ?_|((first|refine Ss.h ?_|refine Sc.h (OJ _ hl) ?_|refine Sc.h (OJ _ hm) ?_|(refine Sb.h ?_ ?_ ?_<;>(try intro hgd)<;>try exact Xy))<;>simp -implicitDefEqProofs (maxSteps:=2000000) [hP,hN])|refine X2 ?_ ?_|(refine Xd ?_ ?_<;>intro hcd<;>try exact Xx))
 all_goals (first|(simp_all;done)|((try simp_all)<;>(try omega)<;>grind))
def jl (idx d f t : Int) : Int × Int:=
 let s:=wr (idx * wr (t - f));let e:=wr (wr (idx+1) * wr (t - f))
 (wr (f+nu (min s e) (2 ^ d.toNat)),wr (f+Cj (max s e) (2 ^ d.toNat)))
def dk (xs ys : List Int) (d i : Int) : List (Int × Int) × Bool:=if md xs ys d && decide (0≤i) && decide (i < 2 ^ d.toNat) then (List.zipWith (jl i d) xs ys,true) else ([],false)
theorem Pm (xs ys : List Int) (d i : Int) (hl : xs.length≤16777216) (hm : ys.length≤16777216) : ab Tryz.prog 79 [.pv (zs xs),.pv (zs ys),.pv (Z d),.pv (Z i)] [] [] (.pv (.tup [iv (dk xs ys d i).1,B (dk xs ys d i).2])):=by
 cases hmo : md xs ys d with
 |false=>
  refine Dp Tryz.func79 ?_
  intro C hP hN
  simp only [Tryz.f79] at hN ⊢
  with_reducible repeat' (first|refine Sp.h ?_|((first|refine Wd ?_|refine Ss.h ?_|refine Sc.h (Nw _ _ _ (gD hl) (gD hm)) ?_|(refine Sb.h ?_ ?_ ?_<;>(try intro hgd)<;>try exact Xy))<;>simp -implicitDefEqProofs (maxSteps:=2000000) [hP,hN,hmo]<;>try refine Ya ?_)|refine X2 ?_ ?_|(refine Xd ?_ ?_<;>intro hcd<;>try exact Xx))
  all_goals simp [dk,hmo]
 |true=>
  obtain ⟨he,_,_,h0,hd⟩:=MW hmo
  have hd' : d < 64:=by omega
  have hu : IntKind.u64.wrap d=d:=by rw [IntKind.wrap_u64];omega
  have hne : (2 : Int) ^ d.toNat≠0:=by have:=Int.pow_pos (n:=(2 : Int)) (m:=d.toNat) (by decide);omega
  by_cases hi : 0≤i∧i < 2 ^ d.toNat
  ·obtain ⟨hi0,hi1⟩:=hi
   have hL : dk xs ys d i=(List.zipWith (jl i d) xs ys,true):=by simp [dk,hmo,hi0,hi1]
   rw [hL]
   refine Dp Tryz.func79 ?_
   intro C hP hN
   simp only [Tryz.f79] at hN ⊢
   with_reducible repeat' (first|refine Sp.h ?_|((first|refine Wh [11] ?_|refine Wi [11] ?_|refine Ss.h ?_|refine Sc.h (Nw _ _ _ (gD hl) (gD hm)) ?_|(refine Sb.h ?_ ?_ ?_<;>(try intro hgd)<;>try exact Xy))<;>simp -implicitDefEqProofs (maxSteps:=2000000) [hP,hN,hmo,h0,hu,E4,Gp hd',MX h0 hd,Int.not_lt.2 hi0,Int.not_le.2 hi1]<;>try refine Ya ?_)|refine X2 ?_ ?_|(refine Xd ?_ ?_<;>intro hcd<;>try exact Xx))
   refine WP.loopN [79] xs.length (fun k st=>st.t 0=.pv (zs xs)∧st.t 1=.pv (zs ys)∧st.t 3=.pv (Z i)∧st.t 10=.pv (Z (2 ^ d.toNat))∧st.t 12=.pv (Z k)∧st.t 11=.arr 11 k∧st.h 80=none∧st.h 11=some (.row 66 2 ((List.zipWith (fun x y=>aJ (jl i d x y)) xs ys).take k) 0)) (by simp) ?_
   rintro k st hk ⟨g0,g1,g3,g10,g12,g11,hb,hr⟩
   by_cases hlt : k < xs.length
   ·have hw:=ak hlt (gD hl)
    have hlt' : k < ys.length:=by omega
    have hz : min k (min xs.length ys.length)=k:=by omega
    have hs:=vC (f:=fun x y=>aJ (jl i d x y)) hlt hlt'
    with_reducible repeat' (first|refine Sp.h ?_|((first|refine Wd ?_|refine Ss.h ?_|refine Sc.h (HT _ _ hne) ?_|refine Sc.h (Pb _ _ hne) ?_|(refine Sb.h ?_ ?_ ?_<;>(try intro hgd)<;>try exact Xy))<;>simp -implicitDefEqProofs (maxSteps:=2000000) [hP,hN,g0,g1,g3,g10,g12,g11,hb,hr,hlt,hlt',hw,hz,show (k+1) * 16≤140737488355328 by omega,show k≤9223372036854775806 by omega]<;>try refine Ya ?_)|refine X2 ?_ ?_|(refine Xd ?_ ?_<;>intro hcd<;>try exact Xx))
    all_goals (rw [← hs];simp [jl])
   ·have hz : min k (min xs.length ys.length)=k:=by omega
    with_reducible repeat' (first|refine Sp.h ?_|((first|refine Wd ?_|refine Ss.h ?_|(refine Sb.h ?_ ?_ ?_<;>(try intro hgd)<;>try exact Xy))<;>simp -implicitDefEqProofs (maxSteps:=2000000) [hP,hN,g0,g1,g3,g10,g12,g11,hb,hr,hlt,hz]<;>try refine Ya ?_)|refine X2 ?_ ?_|(refine Xd ?_ ?_<;>intro hcd<;>try exact Xx))
    exact uP (by simp;omega) hlt
  ·have hL : dk xs ys d i=([],false):=by
    unfold dk;rw [if_neg];simp only [Bool.and_eq_true,decide_eq_true_eq];omega
   rw [hL]
   by_cases hi0 : i < 0
   ·skip
    refine Dp Tryz.func79 ?_
    intro C hP hN
    simp only [Tryz.f79] at hN ⊢
    with_reducible repeat' (first|refine Sp.h ?_|((first|refine Wd ?_|refine Ss.h ?_|refine Sc.h (Nw _ _ _ (gD hl) (gD hm)) ?_|(refine Sb.h ?_ ?_ ?_<;>(try intro hgd)<;>try exact Xy))<;>simp -implicitDefEqProofs (maxSteps:=2000000) [hP,hN,hmo,h0,hu,E4,Gp hd',MX h0 hd,hi0]<;>try refine Ya ?_)|refine X2 ?_ ?_|(refine Xd ?_ ?_<;>intro hcd<;>try exact Xx))
   ·have hi1 : 2 ^ d.toNat≤i:=by omega
    refine Dp Tryz.func79 ?_
    intro C hP hN
    simp only [Tryz.f79] at hN ⊢
    with_reducible repeat' (first|refine Sp.h ?_|((first|refine Wd ?_|refine Ss.h ?_|refine Sc.h (Nw _ _ _ (gD hl) (gD hm)) ?_|(refine Sb.h ?_ ?_ ?_<;>(try intro hgd)<;>try exact Xy))<;>simp -implicitDefEqProofs (maxSteps:=2000000) [hP,hN,hmo,h0,hu,E4,Gp hd',MX h0 hd,hi0,hi1]<;>try refine Ya ?_)|refine X2 ?_ ?_|(refine Xd ?_ ?_<;>intro hcd<;>try exact Xx))
end Go.Ab
namespace Go.Ab
open Go.Proofs
theorem uT {a b k : Int} (hb : 0 < b) (h1 : k * b≤a) (h2 : a < (k+1) * b) : a / b=k:=by
 have:=(Int.le_ediv_iff_mul_le hb).2 h1
 have:=(Int.ediv_lt_iff_lt_mul hb).2 h2
 omega
theorem AW {a b : Int} (hb : 0 < b) (h1 : -4611686018427387904≤a) (h2 : a≤4611686018427387904) : nu a b=a / b:=by
 have hq:=Int.mul_tdiv_add_tmod a b
 have h3 : -b < a.tmod b:=Int.lt_tmod_of_pos a hb
 have h4 : a.tmod b < b:=Int.tmod_lt_of_pos a hb
 have hbd:=zC (a:=a) (N:=b) (B:=4611686018427387904) hb h1 h2
 rw [Int.mul_comm] at hq
 unfold nu
 split
 ·have e : a / b=a.tdiv b - 1:=uT hb (by rw [Int.sub_mul];omega) (by rw [show a.tdiv b - 1+1=a.tdiv b by omega];omega)
  rw [aa (n:=a.tdiv b) (by omega) (by omega),aa (by omega) (by omega),e]
 ·have e : a / b=a.tdiv b:=uT hb (by omega) (by rw [Int.add_mul];omega)
  rw [aa (n:=a.tdiv b) (by omega) (by omega),e]
end Go.Ab
namespace Go.Ab
open Go.Proofs
theorem mW {x : Int × Int} (h : am x.1 x.2=true) : -2147483648≤x.1∧x.1≤x.2∧x.2≤2147483648:=by
 simp only [am,Bool.and_eq_true,decide_eq_true_eq] at h;omega
theorem Jn (x : Int × Int) : ab Tryz.prog 84 [.pv (aJ x)] [] [] (.pv (Z (fw x))):=by
 cases hv : am x.1 x.2 with
 |false=>
  have hr : fw x=0:=by simp [fw,hv]
  rw [hr]
  refine Dp Tryz.func84 ?_
  intro C hP hN
  simp only [Tryz.f84] at hN ⊢
  with_reducible repeat' (first|refine Sp.h ?_|((first|refine Ss.h ?_|refine Sc.h (jX _ _) ?_|(refine Sb.h ?_ ?_ ?_<;>(try intro hgd)<;>try exact Xy))<;>simp -implicitDefEqProofs (maxSteps:=2000000) [hP,hN,hv])|refine X2 ?_ ?_|(refine Xd ?_ ?_<;>intro hcd<;>try exact Xx))
 |true=>
  have hb:=mW hv
  have hr : fw x=nu (wr (x.1+x.2)) 2:=by
   rw [fw,hv]
   simp only [if_true]
   rw [aa (by omega) (by omega),AW (by decide) (by omega) (by omega),Int.fdiv_eq_ediv_of_nonneg _ (by decide)]
  rw [hr]
  refine Dp Tryz.func84 ?_
  intro C hP hN
  simp only [Tryz.f84] at hN ⊢
  with_reducible repeat' (first|refine Sp.h ?_|((first|refine Ss.h ?_|refine Sc.h (jX _ _) ?_|refine Sc.h (HT _ _ (by decide)) ?_|(refine Sb.h ?_ ?_ ?_<;>(try intro hgd)<;>try exact Xy))<;>simp -implicitDefEqProofs (maxSteps:=2000000) [hP,hN,hv])|refine X2 ?_ ?_|(refine Xd ?_ ?_<;>intro hcd<;>try exact Xx))
def im (xs ys : List (Int × Int)) : Bool:=aD vI xs && aD vI ys && decide (xs.length=ys.length) && bZ dG xs ys
theorem Fg (xs ys : List (Int × Int)) (hl : xs.length≤9223372036854775807) (hm : ys.length≤9223372036854775807) : ab Tryz.prog 68 [.pv (iv xs),.pv (iv ys)] [] [] (.pv (B (im xs ys))):=by
 cases hv : aD vI xs with
 |false=>
  have hr : im xs ys=false:=by simp [im,hv]
  rw [hr]
  refine Dp Tryz.func68 ?_
  intro C hP hN
  simp only [Tryz.f68] at hN ⊢
  with_reducible repeat' (first|refine Sp.h ?_|((first|refine Wd ?_|refine Ss.h ?_|refine Sc.h (fN _ hl) ?_|refine Sc.h (fN _ hm) ?_|(refine Sb.h ?_ ?_ ?_<;>(try intro hgd)<;>try exact Xy))<;>simp -implicitDefEqProofs (maxSteps:=2000000) [hP,hN,hv]<;>try refine Ya ?_)|refine X2 ?_ ?_|(refine Xd ?_ ?_<;>intro hcd<;>try exact Xx))
 |true=>
  cases hu : aD vI ys with
  |false=>
   have hr : im xs ys=false:=by simp [im,hv,hu]
   rw [hr]
   refine Dp Tryz.func68 ?_
   intro C hP hN
   simp only [Tryz.f68] at hN ⊢
   with_reducible repeat' (first|refine Sp.h ?_|((first|refine Wd ?_|refine Ss.h ?_|refine Sc.h (fN _ hl) ?_|refine Sc.h (fN _ hm) ?_|(refine Sb.h ?_ ?_ ?_<;>(try intro hgd)<;>try exact Xy))<;>simp -implicitDefEqProofs (maxSteps:=2000000) [hP,hN,hv,hu]<;>try refine Ya ?_)|refine X2 ?_ ?_|(refine Xd ?_ ?_<;>intro hcd<;>try exact Xx))
  |true=>
   by_cases he : xs.length=ys.length
   ·have he' : ((xs.length : Int) !=ys.length)=false:=by simp [he]
    have hr : im xs ys=bZ dG xs ys:=by simp [im,hv,hu,he]
    rw [hr]
    refine Dp Tryz.func68 ?_
    intro C hP hN
    simp only [Tryz.f68] at hN ⊢
    with_reducible repeat' (first|refine Sp.h ?_|((first|refine Wd ?_|refine Ss.h ?_|refine Sc.h (fN _ hl) ?_|refine Sc.h (fN _ hm) ?_|(refine Sb.h ?_ ?_ ?_<;>(try intro hgd)<;>try exact Xy))<;>simp -implicitDefEqProofs (maxSteps:=2000000) [hP,hN,hv,hu,he']<;>try refine Ya ?_)|refine X2 ?_ ?_|(refine Xd ?_ ?_<;>intro hcd<;>try exact Xx))
    refine WP.loopN [6] xs.length (fun i st=>st.t 0=.pv (iv xs)∧st.t 1=.pv (iv ys)∧st.t 5=.pv (Z i)∧st.h 6=none∧df dG xs ys i=true) (by simp [df]) ?_
    rintro i st hi ⟨g0,g1,g5,hb,hq⟩
    by_cases hlt : i < xs.length
    ·have hw:=ak hlt hl
     have hlt' : i < ys.length:=by omega
     have hF : dG xs[i] ys[i]=false→bZ dG xs ys=false:=fL hlt hlt'
     have hS : dG xs[i] ys[i]=true→df dG xs ys (i+1)=true:=gn hlt hlt' hq
     have cm:=HC xs[i].1 xs[i].2 ys[i].1 ys[i].2
     cases ht : dG xs[i] ys[i] with
     |true=>
      have ht' : (am xs[i].1 xs[i].2 && am ys[i].1 ys[i].2 && decide (max xs[i].1 ys[i].1≤min xs[i].2 ys[i].2))=true:=ht
      rw [if_pos ht'] at cm
      with_reducible repeat' (first|refine Sp.h ?_|((first|refine Wd ?_|refine Ss.h ?_|refine Sc.h (cm) ?_|(refine Sb.h ?_ ?_ ?_<;>(try intro hgd)<;>try exact Xy))<;>simp -implicitDefEqProofs (maxSteps:=2000000) [hP,hN,g0,g1,g5,hb,hlt,hlt',hw]<;>try refine Ya ?_)|refine X2 ?_ ?_|(refine Xd ?_ ?_<;>intro hcd<;>try exact Xx))
      all_goals simpa using hS ht
     |false=>
      have ht' : (am xs[i].1 xs[i].2 && am ys[i].1 ys[i].2 && decide (max xs[i].1 ys[i].1≤min xs[i].2 ys[i].2))=false:=ht
      rw [if_neg (by simp [ht'])] at cm
      with_reducible repeat' (first|refine Sp.h ?_|((first|refine Wd ?_|refine Ss.h ?_|refine Sc.h (cm) ?_|(refine Sb.h ?_ ?_ ?_<;>(try intro hgd)<;>try exact Xy))<;>simp -implicitDefEqProofs (maxSteps:=2000000) [hP,hN,g0,g1,g5,hb,hlt,hlt',hw]<;>try refine Ya ?_)|refine X2 ?_ ?_|(refine Xd ?_ ?_<;>intro hcd<;>try exact Xx))
      all_goals simp [hF ht]
    ·have hlt' : ¬ i < ys.length:=by omega
     with_reducible repeat' (first|refine Sp.h ?_|((first|refine Wd ?_|refine Ss.h ?_|(refine Sb.h ?_ ?_ ?_<;>(try intro hgd)<;>try exact Xy))<;>simp -implicitDefEqProofs (maxSteps:=2000000) [hP,hN,g0,g1,g5,hb,hlt]<;>try refine Ya ?_)|refine X2 ?_ ?_|(refine Xd ?_ ?_<;>intro hcd<;>try exact Xx))
     all_goals simp [go hlt hq]
   ·have he' : ((xs.length : Int) !=ys.length)=true:=by simp;omega
    have hr : im xs ys=false:=by simp [im,he]
    rw [hr]
    refine Dp Tryz.func68 ?_
    intro C hP hN
    simp only [Tryz.f68] at hN ⊢
    with_reducible repeat' (first|refine Sp.h ?_|((first|refine Wd ?_|refine Ss.h ?_|refine Sc.h (fN _ hl) ?_|refine Sc.h (fN _ hm) ?_|(refine Sb.h ?_ ?_ ?_<;>(try intro hgd)<;>try exact Xy))<;>simp -implicitDefEqProofs (maxSteps:=2000000) [hP,hN,hv,hu,he']<;>try refine Ya ?_)|refine X2 ?_ ?_|(refine Xd ?_ ?_<;>intro hcd<;>try exact Xx))
end Go.Ab
namespace Go.Ab
open Go.Proofs
theorem pO (xs ys : List (Int × Int)) : im xs ys=bj xs ys:=by
 unfold im bj
 by_cases he : xs.length=ys.length
 ·cases hz : bZ dG xs ys with
  |false=>simp
  |true=>
   rw [ke] at hz
   have v1 : aD vI xs=true:=by
    rw [ik];intro x hx
    obtain ⟨i,hi,rfl⟩:=List.mem_iff_getElem.1 hx
    have:=hz i hi (by omega)
    simp only [dG,Bool.and_eq_true] at this;exact this.1.1
   have v2 : aD vI ys=true:=by
    rw [ik];intro x hx
    obtain ⟨i,hi,rfl⟩:=List.mem_iff_getElem.1 hx
    have:=hz i (by omega) hi
    simp only [dG,Bool.and_eq_true] at this;exact this.1.2
   simp [v1,v2,he]
 ·simp [he]
theorem zF (xs ys : List (Int × Int)) : jq xs ys=kc xs ys:=by
 unfold jq kc
 by_cases he : xs.length=ys.length
 ·cases hz : bZ cW xs ys with
  |false=>simp
  |true=>
   rw [ke] at hz
   have v1 : aD vI xs=true:=by
    rw [ik];intro x hx
    obtain ⟨i,hi,rfl⟩:=List.mem_iff_getElem.1 hx
    have:=hz i hi (by omega)
    simp only [cW,Bool.and_eq_true] at this;exact this.1.1.1
   have v2 : aD vI ys=true:=by
    rw [ik];intro x hx
    obtain ⟨i,hi,rfl⟩:=List.mem_iff_getElem.1 hx
    have:=hz i (by omega) hi
    simp only [cW,Bool.and_eq_true] at this;exact this.1.1.2
   simp [v1,v2,he]
 ·simp [he]
theorem lB (xs : List (Int × Int)) (ys : List Int) : rQ xs ys=cI xs ys:=by
 unfold rQ cI
 by_cases he : xs.length=ys.length
 ·cases hz : bZ j9 xs ys with
  |false=>simp
  |true=>
   rw [ke] at hz
   have v1 : aD vI xs=true:=by
    rw [ik];intro x hx
    obtain ⟨i,hi,rfl⟩:=List.mem_iff_getElem.1 hx
    have:=hz i hi (by omega)
    simp only [j9,Bool.and_eq_true] at this;exact this.1.1
   simp [v1,he]
 ·simp [he]
theorem Jo (xs : List (Int × Int)) (j : Int) (hl : xs.length≤16777216) (hv : aD vI xs=false) : ab Tryz.prog 49 [.pv (iv xs),.pv (Z j)] [] [] (.pv (.tup [iv [],iv [],B false])):=by
 refine Dp Tryz.func49 ?_
 intro C hP hN
 simp only [Tryz.f49] at hN ⊢
 with_reducible repeat' (first|refine Sp.h ?_|((first|refine Wd ?_|refine Ss.h ?_|refine Sc.h (fN _ (gD hl)) ?_|(refine Sb.h ?_ ?_ ?_<;>(try intro hgd)<;>try exact Xy))<;>simp -implicitDefEqProofs (maxSteps:=2000000) [hP,hN,hv]<;>try refine Ya ?_)|refine X2 ?_ ?_|(refine Xd ?_ ?_<;>intro hcd<;>try exact Xx))
theorem Jp (xs : List (Int × Int)) (j : Int) (hl : xs.length≤16777216) (hv : aD vI xs=true) (hj : j < 0) : ab Tryz.prog 49 [.pv (iv xs),.pv (Z j)] [] [] (.pv (.tup [iv [],iv [],B false])):=by
 refine Dp Tryz.func49 ?_
 intro C hP hN
 simp only [Tryz.f49] at hN ⊢
 with_reducible repeat' (first|refine Sp.h ?_|((first|refine Wd ?_|refine Ss.h ?_|refine Sc.h (fN _ (gD hl)) ?_|(refine Sb.h ?_ ?_ ?_<;>(try intro hgd)<;>try exact Xy))<;>simp -implicitDefEqProofs (maxSteps:=2000000) [hP,hN,hv,hj]<;>try refine Ya ?_)|refine X2 ?_ ?_|(refine Xd ?_ ?_<;>intro hcd<;>try exact Xx))
theorem Jq (xs : List (Int × Int)) (n : Nat) (hl : xs.length≤16777216) (hv : aD vI xs=true) (hlt : xs.length≤n) : ab Tryz.prog 49 [.pv (iv xs),.pv (Z n)] [] [] (.pv (.tup [iv [],iv [],B false])):=by
 have hnl : (xs.length : Int)≤(n : Int):=by omega
 refine Dp Tryz.func49 ?_
 intro C hP hN
 simp only [Tryz.f49] at hN ⊢
 with_reducible repeat' (first|refine Sp.h ?_|((first|refine Wd ?_|refine Ss.h ?_|refine Sc.h (fN _ (gD hl)) ?_|(refine Sb.h ?_ ?_ ?_<;>(try intro hgd)<;>try exact Xy))<;>simp -implicitDefEqProofs (maxSteps:=2000000) [hP,hN,hv,hnl,hlt]<;>try refine Ya ?_)|refine X2 ?_ ?_|(refine Xd ?_ ?_<;>intro hcd<;>try exact Xx))
theorem Jr (xs : List (Int × Int)) (n : Nat) (hl : xs.length≤16777216) (hv : aD vI xs=true) (hlt : n < xs.length) (hw : IntKind.i64.wrap (xs[n].2 - xs[n].1)=xs[n].2 - xs[n].1) (hs : xs[n].2 - xs[n].1 < 2) : ab Tryz.prog 49 [.pv (iv xs),.pv (Z n)] [] [] (.pv (.tup [iv [],iv [],B false])):=by
 have hnl : ¬ (xs.length : Int)≤(n : Int):=by omega
 refine Dp Tryz.func49 ?_
 intro C hP hN
 simp only [Tryz.f49] at hN ⊢
 with_reducible repeat' (first|refine Sp.h ?_|((first|refine Wd ?_|refine Ss.h ?_|refine Sc.h (fN _ (gD hl)) ?_|(refine Sb.h ?_ ?_ ?_<;>(try intro hgd)<;>try exact Xy))<;>simp -implicitDefEqProofs (maxSteps:=2000000) [hP,hN,hv,hlt,hw,hs,hnl,Nat.not_le.2 hlt]<;>try refine Ya ?_)|refine X2 ?_ ?_|(refine Xd ?_ ?_<;>intro hcd<;>try exact Xx))
theorem Js (xs : List (Int × Int)) (n : Nat) (hl : xs.length≤16777216) (hv : aD vI xs=true) (hlt : n < xs.length) (hw : IntKind.i64.wrap (xs[n].2 - xs[n].1)=xs[n].2 - xs[n].1) (hs : ¬ xs[n].2 - xs[n].1 < 2) : ab Tryz.prog 49 [.pv (iv xs),.pv (Z n)] [] [] (.pv (.tup [iv (xs.set n (xs[n].1,fw xs[n])),iv (xs.set n (fw xs[n],xs[n].2)),B true])):=by
 have hnl : ¬ (xs.length : Int)≤(n : Int):=by omega
 generalize hm : fw xs[n]=m
 have cm:=Jn xs[n]
 rw [hm] at cm
 refine Dp Tryz.func49 ?_
 intro C hP hN
 simp only [Tryz.f49] at hN ⊢
 with_reducible repeat' (first|refine Sp.h ?_|((first|refine Wd ?_|refine Ss.h ?_|refine Sc.h (fN _ (gD hl)) ?_|refine Sc.h (cm) ?_|(refine Sb.h ?_ ?_ ?_<;>(try intro hgd)<;>try exact Xy))<;>simp -implicitDefEqProofs (maxSteps:=2000000) [hP,hN,hv,hlt,hw,hs,hnl,Nat.not_le.2 hlt,show xs.length * 16≤140737488355328 by omega,show xs.length≤9223372036854775807 by omega]<;>try refine Ya ?_)|refine X2 ?_ ?_|(refine Xd ?_ ?_<;>intro hcd<;>try exact Xx))
 all_goals simp [List.map_set]
theorem G0 (xs : List (Int × Int)) (j : Int) (hl : xs.length≤16777216) : ab Tryz.prog 49 [.pv (iv xs),.pv (Z j)] [] [] (.pv (.tup [iv (bo xs j),iv (bp xs j),B (aP xs j)])):=by
 cases hv : aD vI xs with
 |false=>
  have hr : aP xs j=false:=by simp [aP,hv]
  have hr1 : bo xs j=[]:=by simp [bo,hr]
  have hr2 : bp xs j=[]:=by simp [bp,hr]
  rw [hr,hr1,hr2]
  exact Jo xs j hl hv
 |true=>
  by_cases hj : 0≤j
  ·obtain ⟨n,rfl⟩:=Int.eq_ofNat_of_zero_le hj
   by_cases hlt : n < xs.length
   ·have hx:=List.getElem?_eq_getElem hlt
    have hvx : am xs[n].1 xs[n].2=true:=ik.1 hv _ (List.getElem_mem hlt)
    have hb:=mW hvx
    have hwd : bR xs[n]=xs[n].2 - xs[n].1:=by
     rw [bR,hvx];simp only [if_true];exact aa (by omega) (by omega)
    have hw : IntKind.i64.wrap (xs[n].2 - xs[n].1)=xs[n].2 - xs[n].1:=aa
    by_cases hs : xs[n].2 - xs[n].1 < 2
    ·have hr : aP xs (n : Int)=false:=by simp [aP,hv,hx,hwd];omega
     have hr1 : bo xs (n : Int)=[]:=by simp [bo,hr]
     have hr2 : bp xs (n : Int)=[]:=by simp [bp,hr]
     rw [hr,hr1,hr2]
     exact Jr xs n hl hv hlt hw hs
    ·have hr : aP xs (n : Int)=true:=by simp [aP,hv,hx,hwd];omega
     have hr1 : bo xs (n : Int)=xs.set n (xs[n].1,fw xs[n]):=by simp [bo,hr,hx]
     have hr2 : bp xs (n : Int)=xs.set n (fw xs[n],xs[n].2):=by simp [bp,hr,hx]
     rw [hr,hr1,hr2]
     exact Js xs n hl hv hlt hw hs
   ·have hx : xs[n]?=none:=List.getElem?_eq_none (by omega)
    have hr : aP xs (n : Int)=false:=by simp [aP,hx]
    have hr1 : bo xs (n : Int)=[]:=by simp [bo,hr]
    have hr2 : bp xs (n : Int)=[]:=by simp [bp,hr]
    rw [hr,hr1,hr2]
    exact Jq xs n hl hv (Nat.not_lt.1 hlt)
  ·have hr : aP xs j=false:=by simp [aP,hj]
   have hr1 : bo xs j=[]:=by simp [bo,hr]
   have hr2 : bp xs j=[]:=by simp [bp,hr]
   rw [hr,hr1,hr2]
   exact Jp xs j hl hv (by omega)
def fy (js : List J) (b : List (Int × Int)) : Nat→Int × Int
 |0=>(-1,0)
 |i+1=>match js[i]?,b[i]? with
  |some j,some x=>if 2≤bR x∧(fy js b i).2 < wr (j.w * bR x) then ((i : Int),wr (j.w * bR x)) else fy js b i
  |_,_=>fy js b i
end Go.Ab
namespace Go.Ab
open Go.Proofs
abbrev au:=Iv × Iv × Iv
abbrev ma:=au × au × au
abbrev j0:=ma × au
abbrev V6 (x0 x1 x2 x3 x4 x5 : Int) : PV:=.val (.agg #[.int .i64 x0,.int .i64 x1,.int .i64 x2,.int .i64 x3,.int .i64 x4,.int .i64 x5])
abbrev DS (x0 x1 x2 x3 x4 x5 x6 x7 x8 x9 x10 x11 x12 x13 x14 x15 x16 x17 : Int) : PV:=.val (.agg #[.int .i64 x0,.int .i64 x1,.int .i64 x2,.int .i64 x3,.int .i64 x4,.int .i64 x5,.int .i64 x6,.int .i64 x7,.int .i64 x8,.int .i64 x9,.int .i64 x10,.int .i64 x11,.int .i64 x12,.int .i64 x13,.int .i64 x14,.int .i64 x15,.int .i64 x16,.int .i64 x17])
abbrev DT (x0 x1 x2 x3 x4 x5 x6 x7 x8 x9 x10 x11 x12 x13 x14 x15 x16 x17 x18 x19 x20 x21 x22 x23 : Int) : PV:=.val (.agg #[.int .i64 x0,.int .i64 x1,.int .i64 x2,.int .i64 x3,.int .i64 x4,.int .i64 x5,.int .i64 x6,.int .i64 x7,.int .i64 x8,.int .i64 x9,.int .i64 x10,.int .i64 x11,.int .i64 x12,.int .i64 x13,.int .i64 x14,.int .i64 x15,.int .i64 x16,.int .i64 x17,.int .i64 x18,.int .i64 x19,.int .i64 x20,.int .i64 x21,.int .i64 x22,.int .i64 x23])
abbrev dt (v : au) : PV:=V6 v.1.1 v.1.2 v.2.1.1 v.2.1.2 v.2.2.1 v.2.2.2
abbrev zX (m : ma) : PV:=DS m.1.1.1 m.1.1.2 m.1.2.1.1 m.1.2.1.2 m.1.2.2.1 m.1.2.2.2 m.2.1.1.1 m.2.1.1.2 m.2.1.2.1.1 m.2.1.2.1.2 m.2.1.2.2.1 m.2.1.2.2.2 m.2.2.1.1 m.2.2.1.2 m.2.2.2.1.1 m.2.2.2.1.2 m.2.2.2.2.1 m.2.2.2.2.2
abbrev eM (p : j0) : PV:=DT p.1.1.1.1 p.1.1.1.2 p.1.1.2.1.1 p.1.1.2.1.2 p.1.1.2.2.1 p.1.1.2.2.2 p.1.2.1.1.1 p.1.2.1.1.2 p.1.2.1.2.1.1 p.1.2.1.2.1.2 p.1.2.1.2.2.1 p.1.2.1.2.2.2 p.1.2.2.1.1 p.1.2.2.1.2 p.1.2.2.2.1.1 p.1.2.2.2.1.2 p.1.2.2.2.2.1 p.1.2.2.2.2.2 p.2.1.1 p.2.1.2 p.2.2.1.1 p.2.2.1.2 p.2.2.2.1 p.2.2.2.2
def g3 {α : Type} (v : α × α × α) : Nat→α
 |0=>v.1
 |1=>v.2.1
 |_=>v.2.2
@[simp] theorem LE {α : Type} (v : α × α × α) : g3 v 0=v.1:=rfl
@[simp] theorem LF {α : Type} (v : α × α × α) : g3 v 1=v.2.1:=rfl
@[simp] theorem LG {α : Type} (v : α × α × α) : g3 v 2=v.2.2:=rfl
def qd (m v : au) : Nat→Iv
 |0=>(0,0)
 |n+1=>ay (qd m v n) (al (g3 m n) (g3 v n))
def zY (a b : au) : au:=(ay a.1 b.1,ay a.2.1 b.2.1,ay a.2.2 b.2.2)
def tu (m : ma) (v : au) : au:=(qd m.1 v 3,qd m.2.1 v 3,qd m.2.2 v 3)
def cy (x : Int) : Int:=min (max x (-65536)) 65536
def m8 (x : Iv) : Iv:=(cy x.1,cy x.2)
def H2 (b : ma) (c : Nat) : au:=(g3 b.1 c,g3 b.2.1 c,g3 b.2.2 c)
def dR (a b : ma) (r c : Nat) : Iv:=m8 (qd (g3 a r) (H2 b c) 3)
def zZ (a b : ma) : ma:=((dR a b 0 0,dR a b 0 1,dR a b 0 2),(dR a b 1 0,dR a b 1 1,dR a b 1 2),(dR a b 2 0,dR a b 2 1,dR a b 2 2))
def gE (v : Int × Int × Int) : au:=(rB v.1,rB v.2.1,rB v.2.2)
def qe : ma:=(((65536,65536),(0,0),(0,0)),((0,0),(65536,65536),(0,0)),((0,0),(0,0),(65536,65536)))
def bV : au:=((0,0),(0,0),(0,0))
def gR (axis : Int) (a : Iv) : ma:=if am a.1 a.2 then
 (if axis=0 then (((65536,65536),(0,0),(0,0)),((0,0),oJ a,jm (oI a)),((0,0),oI a,oJ a))
  else if axis=1 then ((oJ a,(0,0),oI a),((0,0),(65536,65536),(0,0)),(jm (oI a),(0,0),oJ a))
  else if axis=2 then ((oJ a,jm (oI a),(0,0)),(oI a,oJ a,(0,0)),((0,0),(0,0),(65536,65536)))
  else (bV,bV,bV)) else (bV,bV,bV)
def fg (v : au) : j0:=(qe,v)
def jN (axis : Int) (a : Iv) : j0:=(gR axis a,bV)
def mF (a b : j0) : j0:=(zZ a.1 b.1,zY a.2 (tu a.1 b.2))
def kM (p : j0) (v : au) : au:=zY p.2 (tu p.1 v)
theorem gS {i : Nat} (h : i≤3) : i=0∨i=1∨i=2∨i=3:=by omega
def pick (b : Bool) (x : Iv) : Iv:=if b then x else (0,0)
@[simp] theorem JF (x : Iv) : pick true x=x:=rfl
@[simp] theorem JG (x : Iv) : pick false x=(0,0):=rfl
def c6 (v : au) (i : Nat) : List AV:=[.pv (Z (pick (decide (0 < i)) (g3 v 0)).1),.pv (Z (pick (decide (0 < i)) (g3 v 0)).2),.pv (Z (pick (decide (1 < i)) (g3 v 1)).1),.pv (Z (pick (decide (1 < i)) (g3 v 1)).2),.pv (Z (pick (decide (2 < i)) (g3 v 2)).1),.pv (Z (pick (decide (2 < i)) (g3 v 2)).2)]
def un (m : ma) (v : au) (i k r : Nat) : Iv:=if r < i then qd (g3 m r) v 3 else if r=i then qd (g3 m r) v k else (0,0)
def cA (m : ma) (v : au) (i k : Nat) : List AV:=[.pv (Z (un m v i k 0).1),.pv (Z (un m v i k 0).2),.pv (Z (un m v i k 1).1),.pv (Z (un m v i k 1).2),.pv (Z (un m v i k 2).1),.pv (Z (un m v i k 2).2)]
def dL (a b : ma) (i k r c : Nat) : Iv:=if r < i∨(r=i∧c < k) then dR a b r c else (0,0)
def cC (a b : ma) (i k : Nat) : List AV:=[.pv (Z (dL a b i k 0 0).1),.pv (Z (dL a b i k 0 0).2),.pv (Z (dL a b i k 0 1).1),.pv (Z (dL a b i k 0 1).2),.pv (Z (dL a b i k 0 2).1),.pv (Z (dL a b i k 0 2).2),.pv (Z (dL a b i k 1 0).1),.pv (Z (dL a b i k 1 0).2),.pv (Z (dL a b i k 1 1).1),.pv (Z (dL a b i k 1 1).2),.pv (Z (dL a b i k 1 2).1),.pv (Z (dL a b i k 1 2).2),.pv (Z (dL a b i k 2 0).1),.pv (Z (dL a b i k 2 0).2),.pv (Z (dL a b i k 2 1).1),.pv (Z (dL a b i k 2 1).2),.pv (Z (dL a b i k 2 2).1),.pv (Z (dL a b i k 2 2).2)]
end Go.Ab
namespace Go.Ab
open Go.Proofs
@[simp] theorem Kr : IntKind.i64.wrap 0=0:=by decide
def i9 : j0:=(qe,bV)
def iW (k : Int) (v : Iv) : j0:=if k=1 then jN 0 v else if k=2 then jN 1 v else if k=3 then jN 2 v else if k=4 then fg (v,(0,0),(0,0)) else if k=5 then fg ((0,0),v,(0,0)) else if k=6 then fg ((0,0),(0,0),v) else i9
def mb (j : J) (v : Iv) : j0:=mF (fg (gE (j.ox,j.oy,j.oz))) (iW j.kind v)
end Go.Ab
namespace Go.Ab
open Go.Proofs
abbrev Vc:=Int × Int × Int
structure Sh where
 link : Int
 rad : Int
 pts : List Vc
structure Sce where
 js : List J
 ms : List Ms
 shs : List Sh
 sks : List (Int × Int)
abbrev du (s : Sh) : PV:=.agg [Z s.link,Z s.rad,aR s.pts]
abbrev eN (s : Sce) : PV:=.agg [.sl (s.js.map bT),.sl (s.ms.map bY),.sl (s.shs.map du),.sl (s.sks.map aJ)]
def aA (m : Int) (v : Vc) : Bool:=fe v.1 m && fe v.2.1 m && fe v.2.2 m
theorem dm {m : Int} {v : Vc} : aA m v=true↔fe v.1 m=true∧fe v.2.1 m=true∧fe v.2.2 m=true:=by
 simp only [aA,Bool.and_eq_true]
 constructor
 ·rintro ⟨⟨a,b⟩,c⟩;exact ⟨a,b,c⟩
 ·rintro ⟨a,b,c⟩;exact ⟨⟨a,b⟩,c⟩
theorem bQ {x m : Int} : fe x m=true↔¬ x < -m∧¬ m < x:=by
 simp only [fe,Bool.and_eq_true,decide_eq_true_eq];omega
theorem qf {α : Type} {p : α→Bool} {xs : List α} {i : Nat} (hq : ∀ k x,k < i→xs[k]?=some x→p x=true) (h : ¬ i < xs.length) : xs.all p=true:=by
 rw [List.all_eq_true]
 intro x hx
 obtain ⟨k,hk⟩:=List.getElem?_of_mem hx
 exact hq k x (by have:=(List.getElem?_eq_some_iff.1 hk).1;omega) hk
theorem m9 {α : Type} {p : α→Bool} {xs : List α} {i : Nat} {v : α} (hv : xs[i]?=some v) (hq : ∀ k x,k < i→xs[k]?=some x→p x=true) (hp : p v=true) : ∀ k x,k < i+1→xs[k]?=some x→p x=true:=by
 intro k x hk hx
 by_cases e : k=i
 ·subst e;rw [hv] at hx;injection hx with hx;subst hx;exact hp
 ·exact hq k x (by omega) hx
def iw (s : Sh) : Bool:=decide (1≤s.rad) && decide (s.rad≤1048576) && decide (1≤s.pts.length) && decide (s.pts.length≤8) && s.pts.all (aA 4194304)
end Go.Ab
namespace Go.Ab
open Go.Proofs
abbrev aV (l : List au) : PV:=.sl (l.map dt)
def bW (x : Iv) : Bool:=!(decide (x.1 < -268435456) || decide (x.2 < x.1) || decide (268435456 < x.2))
def cX (v : au) : Bool:=bW v.1 && bW v.2.1 && bW v.2.2
def aC (l : List au) : Bool:=decide (1≤l.length) && decide (l.length≤8) && l.all cX
theorem fX {x : Iv} : bW x=true↔¬ x.1 < -268435456∧¬ x.2 < x.1∧¬ 268435456 < x.2:=by
 simp only [bW,Bool.not_eq_true',Bool.or_eq_false_iff,decide_eq_false_iff_not]
 constructor
 ·rintro ⟨⟨a,b⟩,c⟩;exact ⟨a,b,c⟩
 ·rintro ⟨a,b,c⟩;exact ⟨⟨a,b⟩,c⟩
theorem ja {v : au} : cX v=true↔bW v.1=true∧bW v.2.1=true∧bW v.2.2=true:=by
 simp only [cX,Bool.and_eq_true]
 constructor
 ·rintro ⟨⟨a,b⟩,c⟩;exact ⟨a,b,c⟩
 ·rintro ⟨a,b,c⟩;exact ⟨⟨a,b⟩,c⟩
def nc (x : Iv) : Int:=if am x.1 x.2 then (x.1+x.2) / 2 else 0
def iM (v : au) : Vc:=(nc v.1,nc v.2.1,nc v.2.2)
def aF (l : List au) : List Vc:=if aC l then l.map iM else []
end Go.Ab
namespace Go.Ab
open Go.Proofs
def cK (n : Nat) (l : Int) : Bool:=decide (-1≤l) && decide (l < n)
theorem Br (s : Sce) (l : Int) (hl : s.js.length≤9223372036854775807) : ab Tryz.prog 75 [.pv (eN s),.pv (Z l)] [] [] (.pv (B (cK s.js.length l))):=by
 refine Dp Tryz.func75 ?_
 intro C hP hN
 simp only [Tryz.f75] at hN ⊢
 with_reducible repeat' (first|refine Sp.h ?_|((first|refine Ss.h ?_|(refine Sb.h ?_ ?_ ?_<;>(try intro hgd)<;>try exact Xy))<;>simp -implicitDefEqProofs (maxSteps:=2000000) [hP,hN])|refine X2 ?_ ?_|(refine Xd ?_ ?_<;>intro hcd<;>try exact Xx))
 all_goals (simp only [cK,decide_eq_true_eq,decide_eq_false_iff_not] at *;first|done|(simp;intros;omega)|(simp;omega)|omega)
def bC (n : Nat) (h : Sh) : Int:=if (cK n h.link && decide (1≤h.rad) && decide (h.rad≤1048576) && decide (1≤h.pts.length) && decide (h.pts.length≤8))=true then (if h.pts.all (aA 4194304)=true then 0 else 805) else 902
theorem JH (s : Sce) (h : Sh) (hl : s.js.length≤9223372036854775807) (hl2 : h.pts.length≤9223372036854775807) : ab Tryz.prog 74 [.pv (eN s),.pv (du h)] [] [] (.pv (Z (bC s.js.length h))):=by
 have ci:=Br s h.link hl
 cases hk : cK s.js.length h.link with
 |false=>
  have hf : bC s.js.length h=902:=by simp [bC,hk]
  rw [hf];rw [hk] at ci
  refine Dp Tryz.func74 ?_
  intro C hP hN
  simp only [Tryz.f74] at hN ⊢
  exact Gy
 |true=>
 rw [hk] at ci
 by_cases hh : h.rad < 1∨1048576 < h.rad∨(h.pts.length : Int) < 1∨(8 : Int) < h.pts.length
 ·have hf : bC s.js.length h=902:=by
   unfold bC
   rw [if_neg]
   simp only [Bool.and_eq_true,decide_eq_true_eq]
   rintro ⟨⟨⟨⟨b0,b1⟩,b2⟩,b3⟩,b4⟩
   omega
  rw [hf]
  rcases hh with h1|h1|h1|h1
  ·skip
   refine Dp Tryz.func74 ?_
   intro C hP hN
   simp only [Tryz.f74] at hN ⊢
   exact Gy
  ·skip
   refine Dp Tryz.func74 ?_
   intro C hP hN
   simp only [Tryz.f74] at hN ⊢
   exact Gy
  ·skip
   refine Dp Tryz.func74 ?_
   intro C hP hN
   simp only [Tryz.f74] at hN ⊢
   exact Gy
  ·skip
   refine Dp Tryz.func74 ?_
   intro C hP hN
   simp only [Tryz.f74] at hN ⊢
   exact Gy
 have h1 : ¬ h.rad < 1:=by omega
 have h2 : ¬ 1048576 < h.rad:=by omega
 have h3 : ¬ (h.pts.length : Int) < 1:=by omega
 have h4 : ¬ (8 : Int) < h.pts.length:=by omega
 have h3' : ¬ h.pts.length < 1:=by omega
 have h4' : ¬ 8 < h.pts.length:=by omega
 have hf : bC s.js.length h=if h.pts.all (aA 4194304)=true then 0 else 805:=by
  unfold bC
  rw [if_pos]
  simp only [Bool.and_eq_true,decide_eq_true_eq]
  exact ⟨⟨⟨⟨hk,by omega⟩,by omega⟩,by omega⟩,by omega⟩
 rw [hf]
 refine Dp Tryz.func74 ?_
 intro C hP hN
 simp only [Tryz.f74] at hN ⊢
 cases hall : h.pts.all (aA 4194304) with
 |true=>
  refine Gz ?_
  refine WP.loopN [7] h.pts.length (fun i st=>True∧st.t 37=.pv (aR h.pts)∧st.t 38=.pv (Z h.pts.length)∧st.t 39=.pv (Z i)∧st.h 7=none) (by simp) ?_
  rintro i st hi ⟨g1,gL,gN,gI,hbx⟩
  by_cases hlt : i < h.pts.length
  ·have hw:=ak hlt (by omega)
   have hv:=dm.1 (List.all_eq_true.1 hall _ (List.getElem_mem hlt))
   obtain ⟨hv1,hv2,hv3⟩:=hv
   rw [bQ] at hv1 hv2 hv3
   generalize hxe : h.pts[i]=v at *
   have hx : h.pts[i]?=some v:=by rw [List.getElem?_eq_getElem hlt,hxe]
   refine Gz ?_
   refine WP.loopN [] 3 (fun k st=>True∧st.t 37=.pv (aR h.pts)∧st.t 38=.pv (Z h.pts.length)∧st.t 39=.pv (Z i)∧st.t 43=.pv (aH v)∧st.t 44=.pv (Z k)) (by simp [g1,gL,gN,gI]) ?_
   clear g1 gL gN gI hbx
   rintro k st hk ⟨g1,gL,gN,gI,gA,gK⟩
   rcases gS hk with rfl|rfl|rfl|rfl
   ·skip
    exact Gy
   ·skip
    exact Gy
   ·skip
    exact Gy
   ·skip
    exact Gy
  ·skip
   exact Gy
 |false=>
  refine Gz ?_
  refine WP.loopN [7] h.pts.length (fun i st=>True∧st.t 37=.pv (aR h.pts)∧st.t 38=.pv (Z h.pts.length)∧st.t 39=.pv (Z i)∧st.h 7=none∧∀ k x,k < i→h.pts[k]?=some x→aA 4194304 x=true) (by simp) ?_
  rintro i st hi ⟨g1,gL,gN,gI,hbx,hq⟩
  by_cases hlt : i < h.pts.length
  ·have hw:=ak hlt (by omega)
   generalize hxe : h.pts[i]=v at *
   have hx : h.pts[i]?=some v:=by rw [List.getElem?_eq_getElem hlt,hxe]
   have hst:=m9 (p:=aA 4194304) hx hq
   refine Gz ?_
   refine WP.loopN [] 3 (fun k st=>True∧st.t 37=.pv (aR h.pts)∧st.t 38=.pv (Z h.pts.length)∧st.t 39=.pv (Z i)∧st.t 43=.pv (aH v)∧st.t 44=.pv (Z k)∧(0 < k→fe v.1 4194304=true)∧(1 < k→fe v.2.1 4194304=true)∧(2 < k→fe v.2.2 4194304=true)) (by simp [g1,gL,gN,gI]) ?_
   clear g1 gL gN gI hbx hq
   rintro k st hk ⟨g1,gL,gN,gI,gA,gK,q0,q1,q2⟩
   rcases gS hk with rfl|rfl|rfl|rfl
   ·skip
    with_reducible repeat' (first|refine Sp.h ?_|((first|refine Ss.h ?_|(refine Sb.h ?_ ?_ ?_<;>(try intro hgd)<;>try exact Xy))<;>simp -implicitDefEqProofs (maxSteps:=2000000) [hP,hN,g1,gL,gN,gI,gA,gK,hw])|refine X2 ?_ ?_|(refine Xd ?_ ?_<;>intro hcd<;>try exact Xx))
    all_goals (try (rw [bQ];simp only [decide_eq_false_iff_not,decide_eq_true_eq] at hgd hcd;omega))
   ·skip
    with_reducible repeat' (first|refine Sp.h ?_|((first|refine Ss.h ?_|(refine Sb.h ?_ ?_ ?_<;>(try intro hgd)<;>try exact Xy))<;>simp -implicitDefEqProofs (maxSteps:=2000000) [hP,hN,g1,gL,gN,gI,gA,gK,hw])|refine X2 ?_ ?_|(refine Xd ?_ ?_<;>intro hcd<;>try exact Xx))
    all_goals (try (exact ⟨q0 (by omega),by rw [bQ];simp only [decide_eq_false_iff_not,decide_eq_true_eq] at hgd hcd;omega⟩))
   ·skip
    with_reducible repeat' (first|refine Sp.h ?_|((first|refine Ss.h ?_|(refine Sb.h ?_ ?_ ?_<;>(try intro hgd)<;>try exact Xy))<;>simp -implicitDefEqProofs (maxSteps:=2000000) [hP,hN,g1,gL,gN,gI,gA,gK,hw])|refine X2 ?_ ?_|(refine Xd ?_ ?_<;>intro hcd<;>try exact Xx))
    all_goals (try (exact ⟨q0 (by omega),q1 (by omega),by rw [bQ];simp only [decide_eq_false_iff_not,decide_eq_true_eq] at hgd hcd;omega⟩))
   ·have hn : aA 4194304 v=true:=dm.2 ⟨q0 (by omega),q1 (by omega),q2 (by omega)⟩
    have hst':=hst hn
    refine Gz ?_
    all_goals (try exact fun k a b c=>hst' k (a,b,c))
  ·have:=qf hq hlt
   rw [this] at hall;cases hall
def eu (n : Nat) (shs : List Sh) : Int:=match (shs.map (bC n)).find? (fun e=>e !=0) with
 |some e=>e
 |none=>0
theorem ph {n : Nat} {shs : List Sh} {i : Nat} (hlt : i < shs.length) (hq : ∀ k x,k < i→shs[k]?=some x→bC n x=0) (he : bC n shs[i]≠0) : eu n shs=bC n shs[i]:=by
 have : (shs.map (bC n)).find? (fun e=>e !=0)=some (bC n shs[i]):=by
  rw [List.find?_eq_some_iff_getElem]
  refine ⟨by simpa using he,i,by simpa using hlt,by simp,fun k hk=>?_⟩
  have hkl : k < shs.length:=by omega
  simp [hq k shs[k] hk (List.getElem?_eq_getElem hkl)]
 rw [eu,this]
theorem qg {n : Nat} {shs : List Sh} (hq : ∀ (k : Nat) x,shs[k]?=some x→bC n x=0) : eu n shs=0:=by
 have : (shs.map (bC n)).find? (fun e=>e !=0)=none:=by
  rw [List.find?_eq_none]
  intro e he
  simp only [List.mem_map] at he
  obtain ⟨x,hx,rfl⟩:=he
  obtain ⟨k,hk⟩:=List.getElem?_of_mem hx
  simp [hq k x hk]
 rw [eu,this]
def gC (n : Nat) (p : Int × Int) : Bool:=cK n p.1 && cK n p.2
def az (s : Sce) : Int:=if ax s.js s.ms≠0 then ax s.js s.ms else if 24 < s.shs.length then 901 else if eu s.js.length s.shs≠0 then eu s.js.length s.shs else if 64 < s.sks.length then 903 else if s.sks.all (gC s.js.length)=true then 0 else 903
structure ScL (s : Sce) : Prop where
 js : s.js.length≤9223372036854775807
 ms : s.ms.length≤9223372036854775807
 shs : s.shs.length≤9223372036854775807
 sks : s.sks.length≤9223372036854775807
 pts : ∀ h ∈ s.shs,h.pts.length≤9223372036854775807
theorem JI (s : Sce) (hs : ScL s) : ab Tryz.prog 41 [.pv (eN s)] [] [] (.pv (Z (az s))):=by
 have cr:=Jm s.js s.ms hs.js hs.ms
 obtain ⟨l1,l2,l3,l4,l5⟩:=hs
 by_cases h0 : ax s.js s.ms=0
 case neg=>
  have hf : az s=ax s.js s.ms:=by simp [az,h0]
  have h0' : (ax s.js s.ms !=0)=true:=by simp [h0]
  rw [hf]
  generalize ax s.js s.ms=r at *
  refine Dp Tryz.func41 ?_
  intro C hP hN
  simp only [Tryz.f41] at hN ⊢
  exact Gy
 rw [h0] at cr
 by_cases h1 : 24 < s.shs.length
 ·have hf : az s=901:=by simp [az,h0,h1]
  have h1' : (24 : Int) < s.shs.length:=by omega
  rw [hf]
  refine Dp Tryz.func41 ?_
  intro C hP hN
  simp only [Tryz.f41] at hN ⊢
  exact Gy
 have h1' : ¬ (24 : Int) < s.shs.length:=by omega
 have hf : az s=if eu s.js.length s.shs≠0 then eu s.js.length s.shs else if 64 < s.sks.length then 903 else if s.sks.all (gC s.js.length)=true then 0 else 903:=by simp only [az,h0,h1,if_false,ne_eq,not_true_eq_false]
 rw [hf]
 refine Dp Tryz.func41 ?_
 intro C hP hN
 simp only [Tryz.f41] at hN ⊢
 refine Gz ?_
 refine WP.loopN [5] s.shs.length (fun i st=>st.t 1=.ptr 1 0∧st.h 1=some (.box [.pv (.sl (s.js.map bT)),.pv (.sl (s.ms.map bY)),.pv (.sl (s.shs.map du)),.pv (.sl (s.sks.map aJ))] true false)∧st.t 20=.pv (.sl (s.shs.map du))∧st.t 21=.pv (Z s.shs.length)∧st.t 22=.pv (Z i)∧st.h 5=none∧st.h 8=none∧∀ k x,k < i→s.shs[k]?=some x→bC s.js.length x=0) (by simp) ?_
 rintro i st hi ⟨g1,hb1,g20,g21,g22,hb5,hb8,hq⟩
 by_cases hlt : i < s.shs.length
 ·have hw:=ak hlt l3
  have hfd:=ph (n:=s.js.length) hlt hq
  have hst:=fun he=>m9 (p:=fun x=>bC s.js.length x==0) (List.getElem?_eq_getElem hlt) (fun k x hk hx=>by simp [hq k x hk hx]) he
  generalize hxe : s.shs[i]=v at *
  have hx : s.shs[i]?=some v:=by rw [List.getElem?_eq_getElem hlt,hxe]
  have cc:=JH s v l1 (l5 v (List.mem_of_getElem? hx))
  generalize bC s.js.length v=e at *
  by_cases he : e=0
  ·subst he
   have hst2 : ∀ k x,k < i+1→s.shs[k]?=some x→bC s.js.length x=0:=fun k x hk hx=>by simpa using hst rfl k x hk hx
   refine Gz ?_
   all_goals exact hst2
  ·have he' : (e !=0)=true:=by simp [he]
   have hfe:=hfd he
   exact Gy
   all_goals simp [hfe,he]
 ·have hz : eu s.js.length s.shs=0:=qg (fun k x hx=>hq k x (by have:=(List.getElem?_eq_some_iff.1 hx).1;omega) hx)
  rw [hz]
  by_cases h64 : 64 < s.sks.length
  ·have h64' : (64 : Int) < s.sks.length:=by omega
   exact Gy
  ·have h64' : ¬ (64 : Int) < s.sks.length:=by omega
   cases hall : s.sks.all (gC s.js.length) with
   |true=>
    refine Gz ?_
    refine WP.loopN [8] s.sks.length (fun i st=>st.t 1=.ptr 1 0∧st.h 1=some (.box [.pv (.sl (s.js.map bT)),.pv (.sl (s.ms.map bY)),.pv (.sl (s.shs.map du)),.pv (.sl (s.sks.map aJ))] true false)∧st.t 38=.pv (.sl (s.sks.map aJ))∧st.t 39=.pv (Z s.sks.length)∧st.t 40=.pv (Z i)∧st.h 8=none) (by simp [g1,hb1,hb8]) ?_
    clear g1 hb1 g20 g21 g22 hb5 hb8 hq hlt
    rintro i st hi ⟨g1,hb1,g38,g39,g40,hb8⟩
    by_cases hlt : i < s.sks.length
    ·have hw:=ak hlt l4
     have hv:=List.all_eq_true.1 hall _ (List.getElem_mem hlt)
     generalize hxe : s.sks[i]=v at *
     have hx : s.sks[i]?=some v:=by rw [List.getElem?_eq_getElem hlt,hxe]
     simp only [gC,Bool.and_eq_true] at hv
     have c1:=Br s v.1 l1
     have c2:=Br s v.2 l1
     rw [hv.1] at c1;rw [hv.2] at c2
     exact Gy
    ·skip
     exact Gy
   |false=>
    refine Gz ?_
    refine WP.loopN [8] s.sks.length (fun i st=>st.t 1=.ptr 1 0∧st.h 1=some (.box [.pv (.sl (s.js.map bT)),.pv (.sl (s.ms.map bY)),.pv (.sl (s.shs.map du)),.pv (.sl (s.sks.map aJ))] true false)∧st.t 38=.pv (.sl (s.sks.map aJ))∧st.t 39=.pv (Z s.sks.length)∧st.t 40=.pv (Z i)∧st.h 8=none∧∀ k x,k < i→s.sks[k]?=some x→gC s.js.length x=true) (by simp [g1,hb1,hb8]) ?_
    clear g1 hb1 g20 g21 g22 hb5 hb8 hq hlt
    rintro i st hi ⟨g1,hb1,g38,g39,g40,hb8,hq⟩
    by_cases hlt : i < s.sks.length
    ·have hw:=ak hlt l4
     generalize hxe : s.sks[i]=v at *
     have hx : s.sks[i]?=some v:=by rw [List.getElem?_eq_getElem hlt,hxe]
     have hst:=m9 (p:=gC s.js.length) hx hq
     have c1:=Br s v.1 l1
     have c2:=Br s v.2 l1
     have hsk : gC s.js.length v=(cK s.js.length v.1 && cK s.js.length v.2):=rfl
     cases b1 : cK s.js.length v.1 with
     |false=>
      rw [b1] at c1
      exact Gy
     |true=>
      rw [b1] at c1 hsk
      cases b2 : cK s.js.length v.2 with
      |false=>
       rw [b2] at c2
       exact Gy
      |true=>
       rw [b2] at c2 hsk
       have hst':=hst hsk
       refine Gz ?_
       all_goals exact fun k a b=>hst' k (a,b)
    ·have:=qf hq hlt
     rw [this] at hall;cases hall
end Go.Ab
namespace Go.Ab
open Go.Proofs
def uo (i : Nat) (j : J) : Prop:=(0≤j.kind∧j.kind≤6)∧-1≤j.parent∧j.parent < (i : Int)
def oK (js : List J) : Prop:=∀ i j,js[i]?=some j→uo i j
theorem Bs {js : List J} {i : Nat} {j : J} (h : bb js i j=0) : uo i j:=by
 unfold bb at h
 repeat' split at h
 all_goals (try (cases h;done))
 all_goals (try omega)
 refine ⟨by omega,by omega,by omega⟩
theorem mG {js : List J} {ms : List Ms} (h : ax js ms=0) : oK js∧js.length≤10∧1≤js.length:=by
 unfold ax at h
 split at h
 ·cases h
 ·rename_i hl
  split at h
  ·rename_i hne;exact absurd h hne
  ·rename_i he
   refine ⟨fun i j hij=>?_,by omega,by omega⟩
   have hlt:=(List.getElem?_eq_some_iff.1 hij).1
   have he' : fP js=0:=by simpa using he
   rw [kH] at he'
   by_cases hz : bb js i j=0
   ·exact Bs hz
   ·exfalso
    cases hf : (js.mapIdx (bb js)).find? (fun e=>e !=0) with
    |none=>
     rw [List.find?_eq_none] at hf
     have hm : bb js i j ∈ js.mapIdx (bb js):=by
      rw [List.mem_mapIdx]
      obtain ⟨h1,h2⟩:=List.getElem?_eq_some_iff.1 hij
      exact ⟨i,h1,by rw [h2]⟩
     exact hf _ hm (by simpa using hz)
    |some e=>
     rw [hf] at he'
     have:=List.find?_some hf
     simp only at he'
     rw [he'] at this
     simp at this
theorem mH {s : Sce} (h : az s=0) : oK s.js∧s.js.length≤10∧1≤s.js.length∧s.shs.length≤24∧s.sks.length≤64∧(∀ x ∈ s.shs,cK s.js.length x.link=true∧iw x=true)∧∀ p ∈ s.sks,gC s.js.length p=true:=by
 unfold az at h
 split at h
 ·rename_i hne;exact absurd h hne
 ·rename_i h0
  have h0 : ax s.js s.ms=0:=by simpa using h0
  split at h
  ·cases h
  ·rename_i h1
   split at h
   ·rename_i hne;exact absurd h hne
   ·rename_i h2
    have h2 : eu s.js.length s.shs=0:=by simpa using h2
    split at h
    ·cases h
    ·rename_i h3
     split at h
     ·rename_i h4
      obtain ⟨a1,a2,a3⟩:=mG h0
      refine ⟨a1,a2,a3,by omega,by omega,fun x hx=>?_,fun p hp=>List.all_eq_true.1 h4 p hp⟩
      have hz : bC s.js.length x=0:=by
       by_cases hz : bC s.js.length x=0
       ·exact hz
       ·exfalso
        unfold eu at h2
        cases hf : (s.shs.map (bC s.js.length)).find? (fun e=>e !=0) with
        |none=>
         rw [List.find?_eq_none] at hf
         exact hf _ (List.mem_map.2 ⟨x,hx,rfl⟩) (by simpa using hz)
        |some e=>
         rw [hf] at h2
         have:=List.find?_some hf
         simp only at h2
         rw [h2] at this
         simp at this
      unfold bC at hz
      split at hz
      ·rename_i hc
       split at hz
       ·rename_i hn
        simp only [Bool.and_eq_true,decide_eq_true_eq] at hc
        obtain ⟨⟨⟨⟨c0,c1⟩,c2⟩,c3⟩,c4⟩:=hc
        refine ⟨c0,?_⟩
        simp only [iw,Bool.and_eq_true,decide_eq_true_eq]
        exact ⟨⟨⟨⟨c1,c2⟩,c3⟩,c4⟩,hn⟩
       ·cases hz
      ·cases hz
     ·cases h
theorem H3 (a b c d : Int) : ag Tryz.prog (Op.equal 102 (.agg #[.int .i64 a,.int .i64 b]) (.agg #[.int .i64 c,.int .i64 d]))=some (a==c && b==d):=by
 have hf : (Tryz.prog.fieldsOf 102).toList=[(Tryz.prog.fieldsOf 102)[0]!,(Tryz.prog.fieldsOf 102)[1]!]:=by kernel_rfl
 show ag Tryz.prog (Op.equalIn (9999+1) 102 _ _)=_
 rw [uO 9999 102 _ _ (by kernel_rfl) (by kernel_rfl),hf]
 have h:=qN (P:=Tryz.prog) (d:=9999) (xs:=#[.int .i64 a,.int .i64 b]) (ys:=#[.int .i64 c,.int .i64 d]) (f:=(Tryz.prog.fieldsOf 102)[0]!) (fs:=[(Tryz.prog.fieldsOf 102)[1]!]) (a:=.int .i64 a) (b:=.int .i64 c) (by decide +kernel) (by kernel_rfl) (by kernel_rfl) (pI 9998 _ .i64 .i64 a c (by kernel_rfl))
  (qN (by decide +kernel) (a:=.int .i64 b) (b:=.int .i64 d) (by kernel_rfl) (by kernel_rfl) (pI 9998 _ .i64 .i64 b d (by kernel_rfl)) AR)
 rw [h];simp
def z7 (x y : AV) (fb : Option aT) : Option aT:=match qO x,qO y with
 |some (a,b),some (c,d)=>some (.pv (.val (.bool (a==c && b==d))),[])
 |_,_=>fb
@[simp] theorem GB (a b c d : Int) (fb : Option aT) : z7 (.pv (.val (.agg #[.int .i64 a,.int .i64 b]))) (.pv (.val (.agg #[.int .i64 c,.int .i64 d]))) fb=some (.pv (.val (.bool (a==c && b==d))),[]):=rfl
@[simp] theorem Ks {dst : Option Nat} {ty : TypeId} {pos : String} {aft : Array Edge} {g : Option (Nat × Bool)} {ρ : Operand→AV} (x y : Operand) :
 aG Tryz.prog ⟨dst,.binOp .eql 102 x y 102,ty,pos,aft,g⟩ ρ=z7 (ρ x) (ρ y) (dU Tryz.prog ⟨dst,.binOp .eql 102 x y 102,ty,pos,aft,g⟩ ρ):=by
 unfold z7
 split
 ·rename_i a b c d hx hy
  exact oh rfl (lm hx) (lm hy) (by kernel_rfl) (H3 a b c d)
 ·rfl
def yT (a b : Int) (p : Int × Int) : Bool:=(p.1==a && p.2==b) || (p.1==b && p.2==a)
def lD (s : Sce) (a b : Int) : Bool:=s.sks.any (yT a b)
theorem FD {α : Type} {p : α→Bool} {xs : List α} {i : Nat} {v : α} (h : xs[i]?=some v) (hp : p v=true) : xs.any p=true:=List.any_eq_true.2 ⟨v,List.mem_of_getElem? h,hp⟩
theorem FE {α : Type} {p : α→Bool} {xs : List α} {i : Nat} (hq : ∀ k x,k < i→xs[k]?=some x→p x=false) (h : ¬ i < xs.length) : xs.any p=false:=by
 rw [List.any_eq_false]
 intro x hx
 obtain ⟨k,hk⟩:=List.getElem?_of_mem hx
 simp [hq k x (by have:=(List.getElem?_eq_some_iff.1 hk).1;omega) hk]
theorem CS {α : Type} {p : α→Bool} {xs : List α} {i : Nat} {v : α} (hv : xs[i]?=some v) (hq : ∀ k x,k < i→xs[k]?=some x→p x=false) (hp : p v=false) : ∀ k x,k < i+1→xs[k]?=some x→p x=false:=by
 intro k x hk hx
 by_cases e : k=i
 ·subst e;rw [hv] at hx;injection hx with hx;subst hx;exact hp
 ·exact hq k x (by omega) hx
def H4 (L : List Int) (i : Nat) (j : J) : Int:=if j.lo=j.hi then (L[(j.parent+1).toNat]?).getD 0 else (i : Int)
def kZ (js : List J) : Nat→List Int
 |0=>[-1]
 |i+1=>match js[i]? with
  |some j=>kZ js i++[H4 (kZ js i) i j]
  |none=>kZ js i
def oL (js : List J) : List Int:=kZ js js.length
theorem r6 {js : List J} : ∀ i,i≤js.length→(kZ js i).length=i+1
 |0,_=>rfl
 |i+1,h=>by
  have hlt : i < js.length:=by omega
  have ih:=r6 (js:=js) i (by omega)
  simp only [kZ,List.getElem?_eq_getElem hlt,List.length_append,ih,List.length_singleton]
theorem oM {js : List J} {k : Nat} : ∀ i,k≤i→i≤js.length→∀ q,q≤k→(kZ js i)[q]?=(kZ js k)[q]?
 |0,h1,h2,q,hq=>by have : k=0:=by omega
                   subst this;rfl
 |i+1,h1,h2,q,hq=>by
  by_cases e : k=i+1
  ·subst e;rfl
  ·have hlt : i < js.length:=by omega
   rw [← oM i (by omega) (by omega) q hq]
   simp only [kZ,List.getElem?_eq_getElem hlt]
   rw [List.getElem?_append_left (by rw [r6 i (by omega)];omega)]
theorem Ex {js : List J} {i : Nat} {j : J} (hj : js[i]?=some j) (hk : uo i j) : (oL js)[i+1]?=some (if j.lo=j.hi then ((oL js)[(j.parent+1).toNat]?).getD 0 else (i : Int)):=by
 have hlt:=(List.getElem?_eq_some_iff.1 hj).1
 obtain ⟨_,hp1,hp2⟩:=hk
 have e1 : (oL js)[i+1]?=(kZ js (i+1))[i+1]?:=oM js.length (k:=i+1) (by omega) (Nat.le_refl _) _ (Nat.le_refl _)
 have e2 : (oL js)[(j.parent+1).toNat]?=(kZ js i)[(j.parent+1).toNat]?:=oM js.length (k:=i) (by omega) (Nat.le_refl _) _ (by omega)
 rw [e1,e2]
 have hlen:=r6 (js:=js) i (by omega)
 simp only [kZ,hj]
 rw [List.getElem?_append_right (by omega),hlen,Nat.sub_self]
 rfl
end Go.Ab
namespace Go.Ab
open Go.Proofs
def G4 (h : Sh) : Nat:=(h.link+1).toNat
def FF (CL : List Int) (a b : Sh) : Bool:=(CL[G4 a]?).getD 0==(CL[G4 b]?).getD 0
def z8 (s : Sce) (a b : Sh) : Bool:=!FF (oL s.js) a b && !lD s a.link b.link
def gF (s : Sce) (i q : Nat) : Bool:=match s.shs[i]?,s.shs[q]? with
 |some a,some b=>z8 s a b
 |_,_=>false
def lh (s : Sce) (i : Nat) : Nat→List (Nat × Nat)
 |0=>[]
 |k+1=>lh s i k++(if i < k∧gF s i k=true then [(i,k)] else [])
def j5 (s : Sce) : Nat→List (Nat × Nat)
 |0=>[]
 |i+1=>j5 s i++lh s i s.shs.length
def di (s : Sce) : List (Nat × Nat):=if az s=0 then j5 s s.shs.length else []
abbrev vR (p : Nat × Nat) : PV:=.val (.agg #[.int .i64 (p.1 : Int),.int .i64 (p.2 : Int)])
theorem yU (s : Sce) (i : Nat) : ∀ k,k≤i+1→lh s i k=[]
 |0,_=>rfl
 |k+1,h=>by
  have : ¬ i < k:=by omega
  simp [lh,yU s i k (by omega),this]
theorem uq (s : Sce) (i : Nat) : ∀ k,(lh s i k).length≤k
 |0=>Nat.le_refl _
 |k+1=>by
  have:=uq s i k
  simp only [lh,List.length_append]
  split<;>simp<;>omega
theorem ur (s : Sce) : ∀ i,(j5 s i).length≤i * s.shs.length
 |0=>by simp [j5]
 |i+1=>by
  have:=ur s i
  have:=uq s i s.shs.length
  simp only [j5,List.length_append,Nat.add_mul]
  omega
def jO (js : List J) (bx : List Iv) : Bool:=decide (bx.length=js.length) && aD vI bx
end Go.Ab
namespace Go.Ab
open Go.Proofs
def zP : j0:=((((0,0),(0,0),(0,0)),((0,0),(0,0),(0,0)),((0,0),(0,0),(0,0))),((0,0),(0,0),(0,0)))
def z9 (L : List j0) (j : J) (v : Iv) : j0:=if j.parent=-1 then mb j v else mF ((L[j.parent.toNat]?).getD zP) (mb j v)
def gg (js : List J) (bx : List Iv) : Nat→List j0
 |0=>[]
 |i+1=>match js[i]?,bx[i]? with
  |some j,some v=>gg js bx i++[z9 (gg js bx i) j v]
  |_,_=>gg js bx i
def iy (js : List J) (bx : List Iv) : List j0:=gg js bx js.length
theorem jP {js : List J} {bx : List Iv} (hb : bx.length=js.length) : ∀ i,i≤js.length→(gg js bx i).length=i
 |0,_=>rfl
 |i+1,h=>by
  have hlt : i < js.length:=by omega
  have hlb : i < bx.length:=by omega
  have ih:=jP hb i (by omega)
  simp only [gg,List.getElem?_eq_getElem hlt,List.getElem?_eq_getElem hlb,List.length_append,ih,List.length_singleton]
theorem oN {js : List J} {bx : List Iv} (hb : bx.length=js.length) {k : Nat} : ∀ i,k≤i→i≤js.length→∀ q,q < k→(gg js bx i)[q]?=(gg js bx k)[q]?
 |0,h1,h2,q,hq=>by omega
 |i+1,h1,h2,q,hq=>by
  by_cases e : k=i+1
  ·subst e;rfl
  ·have hlt : i < js.length:=by omega
   have hlb : i < bx.length:=by omega
   rw [← oN hb i (by omega) (by omega) q hq]
   simp only [gg,List.getElem?_eq_getElem hlt,List.getElem?_eq_getElem hlb]
   rw [List.getElem?_append_left (by rw [jP hb i (by omega)];omega)]
theorem CT {js : List J} {bx : List Iv} (hb : bx.length=js.length) {i : Nat} {j : J} {v : Iv} (hj : js[i]?=some j) (hv : bx[i]?=some v) (hk : uo i j) : (iy js bx)[i]?=some (if j.parent=-1 then mb j v else mF (((iy js bx)[j.parent.toNat]?).getD zP) (mb j v)):=by
 have hlt:=(List.getElem?_eq_some_iff.1 hj).1
 obtain ⟨_,hp1,hp2⟩:=hk
 have e1 : (iy js bx)[i]?=(gg js bx (i+1))[i]?:=oN hb js.length (k:=i+1) (by omega) (Nat.le_refl _) _ (by omega)
 rw [e1]
 have hlen:=jP hb i (by omega)
 simp only [gg,hj,hv]
 rw [List.getElem?_append_right (by omega),hlen,Nat.sub_self]
 show some (z9 (gg js bx i) j v)=_
 unfold z9
 by_cases he : j.parent=-1
 ·rw [if_pos he,if_pos he]
 ·rw [if_neg he,if_neg he]
  have e2 : (iy js bx)[j.parent.toNat]?=(gg js bx i)[j.parent.toNat]?:=oN hb js.length (k:=i) (by omega) (Nat.le_refl _) _ (by omega)
  rw [e2]
theorem FG {R : List PV} {k : Nat} {x : PV} (h : R[k]?=some x) : ∀ hk,R[k]'hk=x:=fun hk=>by
 have:=List.getElem?_eq_getElem hk
 rw [h] at this;injection this with this;exact this.symm
def dI (h : Sh) (p : j0) : List au:=h.pts.map fun q=>kM p (gE q)
end Go.Ab
namespace Go.Ab
open Go.Proofs
def jQ (LL : List j0) (h : Sh) : j0:=if h.link=-1 then i9 else (LL[h.link.toNat]?).getD zP
def eW (s : Sce) (bx : List Iv) : List (List au):=s.shs.map fun h=>dI h (jQ (iy s.js bx) h)
theorem tv {js : List J} {bx : List Iv} : jO js bx=true↔bx.length=js.length∧aD vI bx=true:=by simp [jO]
end Go.Ab
namespace Go.Ab
open Go.Proofs
structure SubV (x y : au) : Prop where
 a : SubI x.1 y.1
 b : SubI x.2.1 y.2.1
 c : SubI x.2.2 y.2.2
structure SubM (x y : ma) : Prop where
 a : SubV x.1 y.1
 b : SubV x.2.1 y.2.1
 c : SubV x.2.2 y.2.2
structure SubP (x y : j0) : Prop where
 m : SubM x.1 y.1
 v : SubV x.2 y.2
theorem SubV.g {x y : au} (h : SubV x y) : ∀ k,SubI (g3 x k) (g3 y k)
 |0=>h.a
 |1=>h.b
 |_+2=>h.c
theorem SubM.g {x y : ma} (h : SubM x y) : ∀ k,SubV (g3 x k) (g3 y k)
 |0=>h.a
 |1=>h.b
 |_+2=>h.c
theorem dH : SubI (0,0) (0,0):=SubI.refl rfl
theorem Cr : SubI (65536,65536) (65536,65536):=SubI.refl rfl
theorem AY : SubV bV bV:=⟨dH,dH,dH⟩
theorem NX : SubM (bV,bV,bV) (bV,bV,bV):=⟨AY,AY,AY⟩
theorem Nq : SubM qe qe:=⟨⟨Cr,dH,dH⟩,⟨dH,Cr,dH⟩,⟨dH,dH,Cr⟩⟩
theorem Fh : SubP i9 i9:=⟨Nq,AY⟩
theorem NY : SubP zP zP:=⟨NX,AY⟩
theorem vj {m m' v v' : au} (hm : SubV m m') (hv : SubV v v') : ∀ n,SubI (qd m v n) (qd m' v' n)
 |0=>dH
 |n+1=>AZ (vj hm hv n) (Of (hm.g n) (hv.g n))
theorem M7 {a a' b b' : au} (ha : SubV a a') (hb : SubV b b') : SubV (zY a b) (zY a' b'):=⟨AZ ha.a hb.a,AZ ha.b hb.b,AZ ha.c hb.c⟩
theorem Fk {m m' : ma} {v v' : au} (hm : SubM m m') (hv : SubV v v') : SubV (tu m v) (tu m' v'):=⟨vj hm.a hv 3,vj hm.b hv 3,vj hm.c hv 3⟩
theorem Ol {x y : Iv} (h : SubI x y) : SubI (m8 x) (m8 y):=by
 have:=h.all
 apply f0<;>simp only [m8,cy]<;>omega
theorem Om {b b' : ma} (h : SubM b b') (c : Nat) : SubV (H2 b c) (H2 b' c):=⟨h.a.g c,h.b.g c,h.c.g c⟩
theorem mo {a a' b b' : ma} (ha : SubM a a') (hb : SubM b b') (r c : Nat) : SubI (dR a b r c) (dR a' b' r c):=Ol (vj (ha.g r) (Om hb c) 3)
theorem NZ {a a' b b' : ma} (ha : SubM a a') (hb : SubM b b') : SubM (zZ a b) (zZ a' b'):=
 ⟨⟨mo ha hb 0 0,mo ha hb 0 1,mo ha hb 0 2⟩,⟨mo ha hb 1 0,mo ha hb 1 1,mo ha hb 1 2⟩,⟨mo ha hb 2 0,mo ha hb 2 1,mo ha hb 2 2⟩⟩
theorem Fo (v : Int × Int × Int) : SubV (gE v) (gE v):=⟨GG _,GG _,GG _⟩
theorem N0 (axis : Int) {a b : Iv} (h : SubI a b) : SubM (gR axis a) (gR axis b):=by
 have hs:=Oj h
 have hc:=Ok h
 have hn:=Oe hs
 simp only [gR,h.vx,h.vy,if_true]
 split
 ·exact ⟨⟨Cr,dH,dH⟩,⟨dH,hc,hn⟩,⟨dH,hs,hc⟩⟩
 ·split
  ·exact ⟨⟨hc,dH,hs⟩,⟨dH,Cr,dH⟩,⟨hn,dH,hc⟩⟩
  ·split
   ·exact ⟨⟨hc,hn,dH⟩,⟨hs,hc,dH⟩,⟨dH,dH,Cr⟩⟩
   ·exact NX
theorem s6 {v w : au} (h : SubV v w) : SubP (fg v) (fg w):=⟨Nq,h⟩
theorem Ci (axis : Int) {a b : Iv} (h : SubI a b) : SubP (jN axis a) (jN axis b):=⟨N0 axis h,AY⟩
theorem Ju {a a' b b' : j0} (ha : SubP a a') (hb : SubP b b') : SubP (mF a b) (mF a' b'):=⟨NZ ha.m hb.m,M7 ha.v (Fk ha.m hb.v)⟩
theorem NB {p p' : j0} {v v' : au} (hp : SubP p p') (hv : SubV v v') : SubV (kM p v) (kM p' v'):=M7 hp.v (Fk hp.m hv)
theorem On (k : Int) {a b : Iv} (h : SubI a b) : SubP (iW k a) (iW k b):=by
 unfold iW
 repeat' split
 ·exact Ci _ h
 ·exact Ci _ h
 ·exact Ci _ h
 ·exact s6 ⟨h,dH,dH⟩
 ·exact s6 ⟨dH,h,dH⟩
 ·exact s6 ⟨dH,dH,h⟩
 ·exact Fh
theorem Fp (j : J) {a b : Iv} (h : SubI a b) : SubP (mb j a) (mb j b):=Ju (s6 (Fo _)) (On _ h)
def k8 (a b : List Iv) : Prop:=a.length=b.length∧∀ (k : Nat) x y,a[k]?=some x→b[k]?=some y→SubI x y
def M8 (a b : List j0) : Prop:=a.length=b.length∧∀ k : Nat,SubP ((a[k]?).getD zP) ((b[k]?).getD zP)
theorem N1 {a b : List j0} {x y : j0} (h : M8 a b) (hx : SubP x y) : M8 (a++[x]) (b++[y]):=by
 refine ⟨by simp [h.1],fun k=>?_⟩
 by_cases hk : k < a.length
 ·rw [List.getElem?_append_left hk,List.getElem?_append_left (by rw [← h.1];exact hk)]
  exact h.2 k
 ·rw [List.getElem?_append_right (by omega),List.getElem?_append_right (by rw [← h.1];omega),← h.1]
  cases hd : k - a.length with
  |zero=>exact hx
  |succ n=>exact NY
theorem N2 {L L' : List j0} (h : M8 L L') (j : J) {a b : Iv} (hab : SubI a b) : SubP (z9 L j a) (z9 L' j b):=by
 unfold z9
 split
 ·exact Fp j hab
 ·exact Ju (h.2 _) (Fp j hab)
theorem Fq (js : List J) {a b : List Iv} (h : k8 a b) : ∀ i,M8 (gg js a i) (gg js b i)
 |0=>⟨rfl,fun k=>NY⟩
 |i+1=>by
  have ih:=Fq js h i
  simp only [gg]
  cases hj : js[i]? with
  |none=>exact ih
  |some j=>
   cases ha : a[i]? with
   |none=>
    have : b[i]?=none:=by rw [List.getElem?_eq_none_iff] at ha ⊢;rw [← h.1];exact ha
    rw [this];exact ih
   |some v=>
    cases hb : b[i]? with
    |none=>
     rw [List.getElem?_eq_none_iff,← h.1] at hb
     rw [List.getElem?_eq_none_iff.2 hb] at ha
     cases ha
    |some w=>exact N1 ih (N2 ih j (h.2 i v w ha hb))
def lV (a b : List au) : Prop:=a.length=b.length∧∀ (k : Nat) x y,a[k]?=some x→b[k]?=some y→SubV x y
theorem NC (h : Sh) {p q : j0} (hp : SubP p q) : lV (dI h p) (dI h q):=by
 refine ⟨by simp [dI],fun k x y hx hy=>?_⟩
 simp only [dI,List.getElem?_map,Option.map_eq_some_iff] at hx hy
 obtain ⟨u,hu,rfl⟩:=hx
 obtain ⟨w,hw,rfl⟩:=hy
 rw [hu] at hw
 cases hw
 exact NB hp (Fo _)
theorem ND {L L' : List j0} (h : M8 L L') (s : Sh) : SubP (jQ L s) (jQ L' s):=by
 unfold jQ
 split
 ·exact Fh
 ·exact h.2 _
theorem Na (s : Sce) {a b : List Iv} (h : k8 a b) (i : Nat) : lV (((eW s a)[i]?).getD []) (((eW s b)[i]?).getD []):=by
 simp only [eW,List.getElem?_map]
 cases s.shs[i]? with
 |none=>exact ⟨rfl,fun k x y hx=>by simp at hx⟩
 |some x=>exact NC x (ND (Fq s.js h _) x)
end Go.Ab
namespace Go.Ab
open Go.Proofs
@[simp] theorem JJ : IntKind.i64.wrap 16=16:=by decide
@[simp] theorem JK : IntKind.i64.wrap 24=24:=by decide
@[simp] theorem JL : IntKind.i64.wrap 32=32:=by decide
@[simp] theorem JM : IntKind.i64.wrap 40=40:=by decide
@[simp] theorem JN : IntKind.i64.wrap 48=48:=by decide
@[simp] theorem JO : IntKind.i64.wrap 8=8:=by decide
@[simp] theorem JP : IntKind.i64.wrap 56=56:=by decide
@[simp] theorem Kt : IntKind.u64.bits=64:=rfl
def mI (n : Nat) : Nat→Nat→Nat
 |0,r=>r
 |k+1,r=>mI n k (if (r+2 ^ k) * (r+2 ^ k)≤n then r+2 ^ k else r)
theorem r7 {n : Nat} : ∀ (k r : Nat),r * r≤n→n < (r+2 ^ k) * (r+2 ^ k)→mI n k r * mI n k r≤n∧n < (mI n k r+1) * (mI n k r+1)
 |0,r,h1,h2=>⟨h1,by simpa [mI] using h2⟩
 |k+1,r,h1,h2=>by
  simp only [mI]
  split
  ·rename_i h
   refine r7 k _ h ?_
   rw [Nat.add_assoc,← Nat.two_mul,← Nat.pow_succ'];exact h2
  ·rename_i h
   exact r7 k r h1 (by omega)
def dn (n : Nat) : Nat:=mI n 32 0
theorem oO {n : Nat} (h : n < 18446744073709551616) : dn n * dn n≤n∧n < (dn n+1) * (dn n+1):=r7 32 0 (Nat.zero_le _) (by simpa using h)
theorem Bt {n a b : Nat} (h1 : a * a≤n) (h2 : n < (a+1) * (a+1)) (h3 : b * b≤n) (h4 : n < (b+1) * (b+1)) : a=b:=by
 rcases Nat.lt_trichotomy a b with h|h|h
 ·have:=Nat.mul_le_mul (show a+1≤b from h) (show a+1≤b from h);omega
 ·exact h
 ·have:=Nat.mul_le_mul (show b+1≤a from h) (show b+1≤a from h);omega
theorem yj {n : Nat} (hn : n < 4611686018427387904) : dn n < 2147483648:=by
 have h:=(oO (n:=n) (by omega)).1
 rcases Nat.lt_or_ge (dn n) 2147483648 with h2|h2
 ·exact h2
 ·have:=Nat.mul_le_mul h2 h2;omega
def tw (n : Nat) : Nat:=if dn n * dn n < n then dn n+1 else dn n
end Go.Ab
namespace Go.Ab
open Go.Proofs
def nz (v : Vc) : Bool:=!(v.1==0 && v.2.1==0 && v.2.2==0)
def aW (v : Vc) : Bool:=aA 16384 v && nz v
def oP (v : Vc) : Vc:=(v.1.tdiv 2,v.2.1.tdiv 2,v.2.2.tdiv 2)
def jf : Nat→Vc→Vc
 |0,v=>v
 |n+1,v=>if aA 16384 v then v else jf n (oP v)
def aX (v : Vc) : Vc:=jf 64 v
def dZ (b : Int) (v : Vc) : Prop:=(-b≤v.1∧v.1≤b)∧(-b≤v.2.1∧v.2.1≤b)∧(-b≤v.2.2∧v.2.2≤b)
theorem Aa {x b : Int} (h : -(2 * b)≤x∧x≤2 * b) : -b≤x.tdiv 2∧x.tdiv 2≤b:=by
 have hb : 0≤b:=by omega
 rcases Int.le_total 0 x with h0|h0
 ·rw [Int.tdiv_eq_ediv_of_nonneg h0];omega
 ·have e : x.tdiv 2=-((-x).tdiv 2):=by rw [Int.neg_tdiv,Int.neg_neg]
  rw [e,Int.tdiv_eq_ediv_of_nonneg (by omega)];omega
theorem CU {v : Vc} {b : Int} (h : dZ (2 * b) v) : dZ b (oP v):=⟨Aa h.1,Aa h.2.1,Aa h.2.2⟩
def tx (v : Vc) : Nat:=(v.1 * v.1+v.2.1 * v.2.1+v.2.2 * v.2.2).toNat
def ft (v : Vc) : Int:=if aW v then (tw (tx v) : Int) else 0
end Go.Ab
namespace Go.Ab
open Go.Proofs
def xh (n : Int) (x : Iv) : Int:=min (n * x.1) (n * x.2)
def xi (n : Int) (x : Iv) : Int:=max (n * x.1) (n * x.2)
def gb (n : Vc) (v : au) : Int:=xh n.1 v.1+xh n.2.1 v.2.1+xh n.2.2 v.2.2
def gc (n : Vc) (v : au) : Int:=xi n.1 v.1+xi n.2.1 v.2.1+xi n.2.2 v.2.2
theorem Ac {x : Iv} (h : bW x=true) : (-268435456≤x.1∧x.1≤268435456)∧(-268435456≤x.2∧x.2≤268435456):=by
 rw [fX] at h;omega
theorem qY {x : Int} (h : fe x 16384=true) : -16384≤x∧x≤16384:=by rw [bQ] at h;omega
theorem nG {n : Int} {x : Iv} (hn : fe n 16384=true) (hx : bW x=true) : (-4398046511104≤n * x.1∧n * x.1≤4398046511104)∧(-4398046511104≤n * x.2∧n * x.2≤4398046511104)∧(-4398046511104≤xh n x∧xh n x≤4398046511104)∧(-4398046511104≤xi n x∧xi n x≤4398046511104):=by
 have h1:=qY hn
 have h2:=Ac hx
 have m1:=bE (a:=n) (b:=x.1) 16384 268435456 (by omega) (by omega) (by omega) (by omega)
 have m2:=bE (a:=n) (b:=x.2) 16384 268435456 (by omega) (by omega) (by omega) (by omega)
 unfold xh xi
 omega
def fB (val : au→Int) (bet : Int→Int→Bool) (xs : List au) : Nat→Int × Nat
 |0=>(0,0)
 |i+1=>match xs[i]? with
  |some v=>if i=0∨bet (val v) (fB val bet xs i).1=true then (val v,i) else fB val bet xs i
  |none=>fB val bet xs i
def FH (val : au→Int) (bet : Int→Int→Bool) (xs : List au) : Int × Nat:=fB val bet xs xs.length
theorem vf {val : au→Int} {bet : Int→Int→Bool} {xs : List au} {i : Nat} {v : au} (h : xs[i]?=some v) : fB val bet xs (i+1)=if i=0∨bet (val v) (fB val bet xs i).1=true then (val v,i) else fB val bet xs i:=by simp only [fB,h]
def ew (x y : Int) : Bool:=decide (x < y)
def ey (x y : Int) : Bool:=decide (y < x)
def gh (n : Vc) (xs : List au) : Int × Nat:=FH (gb n) ew xs
def gi (n : Vc) (xs : List au) : Int × Nat:=FH (gc n) ey xs
theorem de {xs : List au} (h : aC xs=true) : xs.all cX=true∧xs.length≤8∧1≤xs.length:=by
 simp only [aC,Bool.and_eq_true,decide_eq_true_eq] at h
 exact ⟨h.2,h.1.2,h.1.1⟩
def Ad (a : List au) (r : Int) : Bool:=aC a && decide (0≤r) && decide (r≤1048576)
theorem r8 {val : au→Int} {bet : Int→Int→Bool} {xs : List au} {m : Int} (h0 : 0≤m) (h : ∀ v ∈ xs,-m≤val v∧val v≤m) : ∀ i,-m≤(fB val bet xs i).1∧(fB val bet xs i).1≤m
 |0=>by simp [fB];omega
 |i+1=>by
  have ih:=r8 (val:=val) (bet:=bet) h0 h i
  simp only [fB]
  split
  ·rename_i v hv
   split
   ·exact h v (List.mem_of_getElem? hv)
   ·exact ih
  ·exact ih
theorem yV {n : Vc} {v : au} (hn : aA 16384 n=true) (hv : cX v=true) : (-13194139533312≤gb n v∧gb n v≤13194139533312)∧(-13194139533312≤gc n v∧gc n v≤13194139533312):=by
 rw [dm] at hn
 rw [ja] at hv
 obtain ⟨n1,n2,n3⟩:=hn
 obtain ⟨v1,v2,v3⟩:=hv
 have a1:=nG n1 v1
 have a2:=nG n2 v2
 have a3:=nG n3 v3
 unfold gb gc
 omega
theorem Bu {n : Vc} {xs : List au} (hn : aA 16384 n=true) (hx : xs.all cX=true) : -13194139533312≤(gh n xs).1∧(gh n xs).1≤13194139533312:=
 r8 (by decide) (fun v hv=>(yV hn (List.all_eq_true.1 hx v hv)).1) _
theorem Bv {n : Vc} {xs : List au} (hn : aA 16384 n=true) (hx : xs.all cX=true) : -13194139533312≤(gi n xs).1∧(gi n xs).1≤13194139533312:=
 r8 (by decide) (fun v hv=>(yV hn (List.all_eq_true.1 hx v hv)).2) _
theorem Bw {v : Vc} (hv : aA 16384 v=true) : tx v≤805306368:=by
 rw [dm,bQ,bQ,bQ] at hv
 obtain ⟨v1,v2,v3⟩:=v
 simp only at hv
 have m1:=bE (a:=v1) (b:=v1) 16384 16384 (by omega) (by omega) (by omega) (by omega)
 have m2:=bE (a:=v2) (b:=v2) 16384 16384 (by omega) (by omega) (by omega) (by omega)
 have m3:=bE (a:=v3) (b:=v3) 16384 16384 (by omega) (by omega) (by omega) (by omega)
 show (v1 * v1+v2 * v2+v3 * v3).toNat≤_
 omega
theorem xj (v : Vc) : 0≤ft v∧ft v≤32768:=by
 unfold ft
 split
 ·rename_i hu
  have hv : aA 16384 v=true:=by simp only [aW,Bool.and_eq_true] at hu;exact hu.1
  have h1:=Bw hv
  have h2:=(oO (n:=tx v) (by omega)).1
  have h3 : dn (tx v) < 32768:=by
   rcases Nat.lt_or_ge (dn (tx v)) 32768 with h|h
   ·exact h
   ·have:=Nat.mul_le_mul h h;omega
  unfold tw
  split<;>omega
 ·omega
def nH (n : Vc) (a : List au) (ra : Int) (b : List au) (rb : Int) : Int:=(gh n a).1 - (gi n b).1 - ft n * (ra+rb)
def lE (n : Vc) (a : List au) (ra : Int) (b : List au) (rb : Int) : Bool:=Ad a ra && Ad b rb && aW n
def kj (n : Vc) (a : List au) (ra : Int) (b : List au) (rb : Int) : Bool:=lE n a ra b rb && decide (0 < nH n a ra b rb)
end Go.Ab
namespace Go.Ab
open Go.Proofs
def eF (w : Int) (s x : Iv) : Iv:=(s.1+w * x.1,s.2+w * x.2)
def Ae (w : Int) (s x : au) : au:=(eF w s.1 x.1,eF w s.2.1 x.2.1,eF w s.2.2 x.2.2)
def fh (l : List au) (ws : List Int) : Nat→au
 |0=>bV
 |i+1=>match l[i]?,ws[i]? with
  |some x,some w=>Ae w (fh l ws i) x
  |_,_=>fh l ws i
def aU (ws : List Int) : Nat→Int
 |0=>0
 |i+1=>aU ws i+(ws[i]?).getD 0
def wB (w : Int) : Bool:=!(decide (w < 0) || decide (65536 < w))
def eh (l : List au) (ws : List Int) : Bool:=aC l && decide (ws.length=l.length) && ws.all wB && !(decide (aU ws ws.length < 1) || decide (65536 < aU ws ws.length))
abbrev kz (l : List au) (ws : List Int) : PV:=.tup (if eh l ws then [dt (fh l ws ws.length),Z (aU ws ws.length),B true] else [dt bV,Z 0,B false])
theorem kl {w : Int} {s x : Iv} {m : Nat} (hw : 0≤w∧w≤65536) (hx : bW x=true) (hs : (-((m : Int) * 17592186044416)≤s.1∧s.1≤(m : Int) * 17592186044416)∧(-((m : Int) * 17592186044416)≤s.2∧s.2≤(m : Int) * 17592186044416)) :
 ((-17592186044416≤w * x.1∧w * x.1≤17592186044416)∧(-17592186044416≤w * x.2∧w * x.2≤17592186044416))∧(-(((m+1 : Nat) : Int) * 17592186044416)≤(eF w s x).1∧(eF w s x).1≤((m+1 : Nat) : Int) * 17592186044416)∧(-(((m+1 : Nat) : Int) * 17592186044416)≤(eF w s x).2∧(eF w s x).2≤((m+1 : Nat) : Int) * 17592186044416):=by
 rw [fX] at hx
 have m1:=bE (a:=w) (b:=x.1) 65536 268435456 (by omega) (by omega) (by omega) (by omega)
 have m2:=bE (a:=w) (b:=x.2) 65536 268435456 (by omega) (by omega) (by omega) (by omega)
 simp only [eF]
 omega
def Af (m : Nat) (s : Iv) : Prop:=(-((m : Int) * 17592186044416)≤s.1∧s.1≤(m : Int) * 17592186044416)∧(-((m : Int) * 17592186044416)≤s.2∧s.2≤(m : Int) * 17592186044416)
def CV (m : Nat) (s : au) : Prop:=Af m s.1∧Af m s.2.1∧Af m s.2.2
theorem r9 {l : List au} {ws : List Int} (hl : ∀ v ∈ l,cX v=true) (h : ∀ w ∈ ws,wB w=true) : ∀ i : Nat,CV i (fh l ws i)
 |0=>by simp [fh,CV,Af,bV]
 |i+1=>by
  have ih:=r9 hl h i
  simp only [fh]
  split
  ·rename_i x w hx hw
   have h1:=hl x (List.mem_of_getElem? hx)
   have h2:=h w (List.mem_of_getElem? hw)
   rw [ja] at h1
   simp only [wB,Bool.not_eq_true',Bool.or_eq_false_iff,decide_eq_false_iff_not] at h2
   exact ⟨(kl ⟨by omega,by omega⟩ h1.1 ih.1).2,(kl ⟨by omega,by omega⟩ h1.2.1 ih.2.1).2,(kl ⟨by omega,by omega⟩ h1.2.2 ih.2.2).2⟩
  ·obtain ⟨⟨⟨a1,a2⟩,a3,a4⟩,⟨⟨b1,b2⟩,b3,b4⟩,⟨c1,c2⟩,c3,c4⟩:=ih
   refine ⟨⟨⟨?_,?_⟩,?_,?_⟩,⟨⟨?_,?_⟩,?_,?_⟩,⟨?_,?_⟩,?_,?_⟩<;>omega
def yW (s x : au) (w : Int) (k : Nat) : List AV:=[.pv (Z (if 0 < k then (eF w s.1 x.1).1 else s.1.1)),.pv (Z (if 0 < k then (eF w s.1 x.1).2 else s.1.2)),.pv (Z (if 1 < k then (eF w s.2.1 x.2.1).1 else s.2.1.1)),.pv (Z (if 1 < k then (eF w s.2.1 x.2.1).2 else s.2.1.2)),.pv (Z (if 2 < k then (eF w s.2.2 x.2.2).1 else s.2.2.1)),.pv (Z (if 2 < k then (eF w s.2.2 x.2.2).2 else s.2.2.2))]
abbrev b6 (s : au) : List AV:=[.pv (Z s.1.1),.pv (Z s.1.2),.pv (Z s.2.1.1),.pv (Z s.2.1.2),.pv (Z s.2.2.1),.pv (Z s.2.2.2)]
end Go.Ab
namespace Go.Ab
open Go.Proofs
def fA (l : List Vc) : Bool:=decide (1≤l.length) && decide (l.length≤8) && l.all (aA 268435456)
def aQ (v w : Vc) : Vc:=(v.1 - w.1,v.2.1 - w.2.1,v.2.2 - w.2.2)
def bt (v w : Vc) : Int:=v.1 * w.1+v.2.1 * w.2.1+v.2.2 * w.2.2
theorem mw {v w : Vc} {m n : Nat} (hv : dZ m v) (hw : dZ n w) : (-((m * n : Nat) : Int)≤v.1 * w.1∧v.1 * w.1≤((m * n : Nat) : Int))∧(-((m * n : Nat) : Int)≤v.2.1 * w.2.1∧v.2.1 * w.2.1≤((m * n : Nat) : Int))∧(-((m * n : Nat) : Int)≤v.2.2 * w.2.2∧v.2.2 * w.2.2≤((m * n : Nat) : Int)):=
 ⟨bE m n hv.1.1 hv.1.2 hw.1.1 hw.1.2,bE m n hv.2.1.1 hv.2.1.2 hw.2.1.1 hw.2.1.2,bE m n hv.2.2.1 hv.2.2.2 hw.2.2.1 hw.2.2.2⟩
def cY (l : List Vc) (w : List Int) : Nat→Vc
 |0=>(0,0,0)
 |i+1=>match l[i]?,w[i]? with
  |some p,some k=>((cY l w i).1+k * p.1,(cY l w i).2.1+k * p.2.1,(cY l w i).2.2+k * p.2.2)
  |_,_=>cY l w i
structure WgOk (w : List Int) : Prop where
 pos : ∀ k ∈ w,0≤k
 tot : aU w w.length≤65536
theorem ow {w : List Int} {i : Nat} {k : Int} (h : w[i]?=some k) : aU w (i+1)=aU w i+k:=by simp [aU,h]
theorem gp {w : List Int} (h : ∀ k ∈ w,0≤k) {i j : Nat} (hij : i≤j) : aU w i≤aU w j:=by
 induction hij with
 |refl=>exact Int.le_refl _
 |step h1 ih=>
  rename_i m
  cases hw : w[m]? with
  |none=>simp only [aU,hw,Option.getD_none];omega
  |some k=>
   have:=h k (List.mem_of_getElem? hw)
   rw [ow hw];omega
theorem wQ {w : List Int} (h : ∀ k ∈ w,0≤k) (i : Nat) : 0≤aU w i:=gp h (Nat.zero_le i)
theorem p9 {k x m : Int} (hk : 0≤k) (hx : -m≤x∧x≤m) : -(k * m)≤k * x∧k * x≤k * m:=by
 refine ⟨?_,Int.mul_le_mul_of_nonneg_left hx.2 hk⟩
 have:=Int.mul_le_mul_of_nonneg_left hx.1 hk
 rw [Int.mul_neg] at this;exact this
theorem dX {v : Vc} (h : aA 268435456 v=true) : dZ 268435456 v:=by
 rw [dm,bQ,bQ,bQ] at h
 exact ⟨⟨by omega,by omega⟩,⟨by omega,by omega⟩,⟨by omega,by omega⟩⟩
theorem HW {l : List Vc} {w : List Int} (hl : l.all (aA 268435456)=true) (hw : ∀ k ∈ w,0≤k) : ∀ i : Nat,dZ (aU w i * 268435456) (cY l w i)
 |0=>by simp [cY,aU,dZ]
 |i+1=>by
  have ih:=HW hl hw i
  have hm:=gp hw (Nat.le_succ i)
  simp only [cY]
  split
  ·rename_i p k hp hk
   have h1:=dX (List.all_eq_true.1 hl p (List.mem_of_getElem? hp))
   have h2:=hw k (List.mem_of_getElem? hk)
   rw [ow hk]
   obtain ⟨a,b,c⟩:=h1
   have e1:=p9 h2 a
   have e2:=p9 h2 b
   have e3:=p9 h2 c
   obtain ⟨i1,i2,i3⟩:=ih
   exact ⟨⟨by simp only;omega,by simp only;omega⟩,⟨by simp only;omega,by simp only;omega⟩,⟨by simp only;omega,by simp only;omega⟩⟩
  ·obtain ⟨i1,i2,i3⟩:=ih
   have hm' : aU w i≤aU w (i+1):=hm
   exact ⟨⟨by omega,by omega⟩,⟨by omega,by omega⟩,⟨by omega,by omega⟩⟩
theorem kg {l : List Vc} {w : List Int} (hl : l.all (aA 268435456)=true) (hw : WgOk w) (i : Nat) (hi : i≤w.length) : dZ 17592186044416 (cY l w i):=by
 have h1:=HW hl hw.pos i
 have h2:=gp hw.pos hi
 have h3:=hw.tot
 obtain ⟨i1,i2,i3⟩:=h1
 exact ⟨⟨by omega,by omega⟩,⟨by omega,by omega⟩,⟨by omega,by omega⟩⟩
def oA (s p : Vc) (k : Int) (j : Nat) : List AV:=[.pv (Z (if 0 < j then s.1+k * p.1 else s.1)),.pv (Z (if 1 < j then s.2.1+k * p.2.1 else s.2.1)),.pv (Z (if 2 < j then s.2.2+k * p.2.2 else s.2.2))]
def dl (bet : Int→Int→Bool) (n p0 : Vc) (l : List Vc) : Nat→Int × Nat
 |0=>(bt n p0,0)
 |i+1=>match l[i]? with
  |some v=>if bet (bt n v) (dl bet n p0 l i).1=true then (bt n v,i) else dl bet n p0 l i
  |none=>dl bet n p0 l i
theorem oB {bet : Int→Int→Bool} {n p0 : Vc} {l : List Vc} {i : Nat} {v : Vc} (h : l[i]?=some v) : dl bet n p0 l (i+1)=if bet (bt n v) (dl bet n p0 l i).1=true then (bt n v,i) else dl bet n p0 l i:=by simp only [dl,h]
theorem oC {bet : Int→Int→Bool} {n p0 : Vc} {l : List Vc} (hl : 0 < l.length) : ∀ i,(dl bet n p0 l i).2 < l.length
 |0=>hl
 |i+1=>by
  have:=oC (bet:=bet) (n:=n) (p0:=p0) hl i
  simp only [dl]
  split
  ·rename_i v hv
   obtain ⟨h,_⟩:=List.getElem?_eq_some_iff.1 hv
   split
   ·exact h
   ·exact this
  ·exact this
def cJ (bet : Int→Int→Bool) (n : Vc) (l : List Vc) : Int × Nat:=dl bet n ((l[0]?).getD (0,0,0)) l l.length
end Go.Ab
namespace Go.Ab
open Go.Proofs
def zM (x y z : AV) (fb : Option aT) : Option aT:=match x,y,z with
 |.pv (.val (.int .i64 a)),.pv (.val (.int .i64 b)),.pv (.val (.int .i64 c))=>some (.pv (Z (max a (max b c))),[])
 |_,_,_=>fb
@[simp] theorem Gu (a b c : Int) (fb : Option aT) : zM (.pv (.val (.int .i64 a))) (.pv (.val (.int .i64 b))) (.pv (.val (.int .i64 c))) fb=some (.pv (Z (max a (max b c))),[]):=rfl
@[simp] theorem JC {dst : Option Nat} {ty : TypeId} {ts : Array TypeId} {pos : String} {aft : Array Edge} {g : Option (Nat × Bool)} {ρ : Operand→AV} (x y z : Operand) :
 aG Tryz.prog ⟨dst,.call ⟨.builtin .max,#[x,y,z],ts⟩,ty,pos,aft,g⟩ ρ=zM (ρ x) (ρ y) (ρ z) (dU Tryz.prog ⟨dst,.call ⟨.builtin .max,#[x,y,z],ts⟩,ty,pos,aft,g⟩ ρ):=by
 unfold zM
 split
 ·rename_i a b c hx hy hz
  refine bB (by simp [Op.operands,Call.operands,hx,hy,hz,cE]) ?_
  unfold execOp
  simp [resolve,invoke,builtin,Builtin.max_,hx,hy,hz,kr,cE,Builtin.max2,ae,bu]
  try omega
 ·rfl
def rU (x y : Int) : Int:=max (max (max (max 0 x) (-x)) y) (-y)
def s8 (u v : Iv) (tot : Int) : Int:=(rU (u.1 - v.2) (u.2 - v.1)+tot - 1) / tot
def CA (m : List Int) (reach : Int) : Nat→Int
 |0=>reach * reach
 |k+1=>CA m reach k - (m[k]?).getD 0 * (m[k]?).getD 0
def CB (U V : au) (tot : Int) : List Int:=[s8 U.1 V.1 tot,s8 U.2.1 V.2.1 tot,s8 U.2.2 V.2.2 tot]
def zO (m : List Int) (reach : Int) : Int:=if m.all (fun x=>decide (x≤reach)) then CA m reach 3 else -1
def pY (left right : List Int) (a : List au) (ra : Int) (b : List au) (rb : Int) : Bool:=
 eh a left && eh b right && decide (aU left left.length=aU right right.length) && bd ra 0 1048576 && bd rb 0 1048576
def ny (left right : List Int) (a : List au) (ra : Int) (b : List au) (rb : Int) : Int:=
 if pY left right a ra b rb then zO (CB (fh a left left.length) (fh b right right.length) (aU left left.length)) (ra+rb) else 0
theorem wP {a : List au} {w : List Int} (h : eh a w=true) : CV 8 (fh a w w.length):=by
 simp only [eh,aC,Bool.and_eq_true,decide_eq_true_eq,List.all_eq_true] at h
 obtain ⟨⟨⟨⟨⟨h1,h2⟩,h3⟩,h4⟩,h5⟩,h6⟩:=h
 obtain ⟨⟨⟨a1,a2⟩,a3,a4⟩,⟨⟨b1,b2⟩,b3,b4⟩,⟨c1,c2⟩,c3,c4⟩:=r9 h3 h5 w.length
 refine ⟨⟨⟨?_,?_⟩,?_,?_⟩,⟨⟨?_,?_⟩,?_,?_⟩,⟨?_,?_⟩,?_,?_⟩<;>omega
theorem CC {a : List au} {w : List Int} (h : eh a w=true) : 1≤aU w w.length∧aU w w.length≤65536:=by
 simp only [eh,Bool.and_eq_true,Bool.not_eq_true',Bool.or_eq_false_iff,decide_eq_false_iff_not] at h
 omega
theorem CD {x y : Int} {m : Int} (hx : -m≤x∧x≤m) (hy : -m≤y∧y≤m) : 0≤rU x y∧rU x y≤m:=by
 unfold rU;omega
theorem Et {h t : Int} (h0 : 0≤h) (h1 : h≤4503599627370496) (t1 : 1≤t) (t2 : t≤65536) : 0≤(h+t - 1) / t∧(h+t - 1) / t≤4503599627370496:=by
 refine ⟨Int.ediv_nonneg (by omega) (by omega),?_⟩
 have : (h+t - 1) / t < 4503599627370496+1:=Int.ediv_lt_of_lt_mul (by omega) (by
  have h2 : (4503599627370496+1) * 1≤(4503599627370496+1) * t:=by omega
  omega)
 omega
theorem pZ {x m : Int} (h0 : 0≤x) (h1 : x≤m) : 0≤x * x∧x * x≤m * m:=⟨Int.mul_nonneg h0 h0,Int.mul_le_mul h1 h1 h0 (by omega)⟩
end Go.Ab
namespace Go.Ab
open Go.Proofs
def pf (x : Int) : Int:=dY (max x (-x)) 65536 * dY (max x (-x)) 65536
def qV (v : Vc) (rho : Int) : Bool:=decide (pf v.1+pf v.2.1+pf v.2.2≤rho * rho)
theorem ub {x : Int} (h : -35184372088832≤x∧x≤35184372088832) : (0≤dY (max x (-x)) 65536∧dY (max x (-x)) 65536≤536870912)∧0≤pf x∧pf x≤288230376151711744:=by
 have h1 : 0≤dY (max x (-x)) 65536∧dY (max x (-x)) 65536≤536870912:=by unfold dY;omega
 have h2:=pZ h1.1 h1.2
 exact ⟨h1,h2.1,by unfold pf;omega⟩
def kI (x s : Vc) : Int:=if bt x (aQ x s)≤0 then 0 else min 256 (bt x (aQ x s) / max 1 (bt (aQ x s) (aQ x s) / 256))
theorem rV {v w : Vc} {a b : Int} (hv : dZ a v) (hw : dZ b w) : dZ (a+b) (aQ v w):=by
 obtain ⟨v1,v2,v3⟩:=hv
 obtain ⟨w1,w2,w3⟩:=hw
 refine ⟨?_,?_,?_⟩<;>(simp only [aQ];omega)
theorem jK (x s : Vc) : 0≤kI x s∧kI x s≤256:=by
 unfold kI
 split
 ·omega
 ·rename_i h
  have h1 : 0≤bt x (aQ x s) / max 1 (bt (aQ x s) (aQ x s) / 256):=Int.ediv_nonneg (by omega) (by omega)
  omega
theorem kx {v : Vc} {a b : Int} (h : dZ a v) (hab : a≤b) : dZ b v:=by
 obtain ⟨v1,v2,v3⟩:=h
 exact ⟨by omega,by omega,by omega⟩
theorem zQ (v : Vc) : 0≤bt v v:=by
 have h : ∀ x : Int,0≤x * x:=fun x=>by
  rcases Int.le_total 0 x with h|h
  ·exact Int.mul_nonneg h h
  ·have:=Int.mul_nonneg (show 0≤-x by omega) (show 0≤-x by omega)
   rw [Int.neg_mul_neg] at this;exact this
 have h1:=h v.1
 have h2:=h v.2.1
 have h3:=h v.2.2
 unfold bt;omega
end Go.Ab
namespace Go.Ab
open Go.Proofs
def dr (w : List Int) (t : Int) (i : Nat) : List Int:=w.mapIdx fun j k=>if j < i then k - k * t / 256 else k
def dE (w : List Int) (t : Int) : Nat→Int
 |0=>0
 |i+1=>dE w t i+(w[i]?).getD 0 * t / 256
def iU (w : List Int) (q : Nat) (t : Int) : List Int:=(dr w t w.length).set q (((dr w t w.length)[q]?).getD 0+dE w t w.length)
theorem kJ (w : List Int) (t : Int) (i : Nat) : (dr w t i).length=w.length:=by simp [dr]
theorem ir (w : List Int) (t : Int) (i j : Nat) : (dr w t i)[j]?=(w[j]?).map fun k=>if j < i then k - k * t / 256 else k:=by simp [dr,List.getElem?_mapIdx]
theorem tg (w : List Int) (t : Int) : dr w t 0=w:=by
 apply List.ext_getElem?
 intro j
 rw [ir];cases w[j]?<;>simp
theorem tj {w : List Int} {t : Int} {i : Nat} {k : Int} (hk : w[i]?=some k) : dr w t (i+1)=(dr w t i).set i (k - k * t / 256):=by
 apply List.ext_getElem?
 intro j
 rw [List.getElem?_set,ir,ir,kJ]
 by_cases e : i=j
 ·subst e
  obtain ⟨h,_⟩:=List.getElem?_eq_some_iff.1 hk
  rw [hk];simp [h]
 ·rw [if_neg e]
  cases w[j]? with
  |none=>rfl
  |some x=>
   simp only [Option.map_some]
   congr 1
   by_cases h : j < i
   ·rw [if_pos h,if_pos (by omega)]
   ·rw [if_neg h,if_neg (by omega)]
theorem rW (w : List Int) : ∀ i,aU w i=(w.take i).sum
 |0=>by simp [aU]
 |i+1=>by
  rw [List.take_succ]
  cases h : w[i]? with
  |none=>simp [aU,h,rW w i]
  |some k=>simp [aU,h,rW w i]
theorem rX (w : List Int) : aU w w.length=w.sum:=by rw [rW,List.take_length]
theorem ud {w : List Int} {q : Nat} {x y : Int} (h : w[q]?=some y) : (w.set q x).sum=w.sum - y+x:=by
 induction w generalizing q with
 |nil=>simp at h
 |cons a r ih=>
  cases q with
  |zero=>simp at h;subst h;simp;omega
  |succ q=>simp at h;simp only [List.set_cons_succ,List.sum_cons,ih h];omega
theorem wR (w : List Int) (t : Int) : ∀ i,i≤w.length→(dr w t i).sum=w.sum - dE w t i
 |0,_=>by simp [tg,dE]
 |i+1,h=>by
  have hk : w[i]?=some w[i]:=List.getElem?_eq_getElem (by omega)
  have hkk : (dr w t i)[i]?=some w[i]:=by rw [ir,hk];simp
  rw [tj hk,ud hkk,wR w t i (by omega)]
  simp only [dE,hk,Option.getD_some];omega
theorem Eu {w : List Int} {q : Nat} {t : Int} (hq : q < w.length) : (iU w q t).sum=w.sum:=by
 have hlen:=kJ w t w.length
 have hk : (dr w t w.length)[q]?=some ((dr w t w.length)[q]'(by omega)):=List.getElem?_eq_getElem (by omega)
 unfold iU
 rw [ud hk,wR w t _ (Nat.le_refl _),hk]
 simp only [Option.getD_some];omega
theorem oD {k t : Int} (hk : 0≤k) (ht : 0≤t) (ht2 : t≤256) : 0≤k * t∧k * t≤k * 256∧0≤k * t / 256∧k * t / 256≤k:=by
 have h1 : 0≤k * t:=Int.mul_nonneg hk ht
 have h2 : k * t≤k * 256:=Int.mul_le_mul_of_nonneg_left ht2 hk
 omega
theorem rY {w : List Int} {t : Int} (hw : ∀ k ∈ w,0≤k) (ht : 0≤t) (ht2 : t≤256) : ∀ i,0≤dE w t i∧dE w t i≤aU w i
 |0=>by simp [dE,aU]
 |i+1=>by
  have ih:=rY hw ht ht2 i
  cases h : w[i]? with
  |none=>simp [dE,aU,h];omega
  |some k=>
   have:=oD (hw k (List.mem_of_getElem? h)) ht ht2
   simp only [dE,aU,h,Option.getD_some];omega
theorem ue (w : List Int) (q : Nat) (t : Int) : (iU w q t).length=w.length:=by simp [iU,kJ]
theorem Bj {w : List Int} {q : Nat} {t : Int} (hw : WgOk w) (hq : q < w.length) (ht : 0≤t) (ht2 : t≤256) : WgOk (iU w q t):=by
 constructor
 ·intro k hk
  obtain ⟨j,hj,rfl⟩:=List.mem_iff_getElem.1 hk
  have hjl : j < w.length:=by rw [ue] at hj;exact hj
  have hwj : w[j]?=some w[j]:=List.getElem?_eq_getElem hjl
  have hp:=oD (hw.pos _ (List.getElem_mem hjl)) ht ht2
  have hkj : (dr w t w.length)[j]?=some (w[j] - w[j] * t / 256):=by rw [ir,hwj];simp [hjl]
  have hl:=rY hw.pos ht ht2 w.length
  generalize hx : (iU w q t)[j]=x
  have hg : (iU w q t)[j]?=some x:=by rw [List.getElem?_eq_getElem hj,hx]
  clear hx hk
  unfold iU at hg
  rw [List.getElem?_set] at hg
  by_cases e : q=j
  ·subst e
   rw [if_pos rfl,if_pos (by rw [kJ];exact hjl),hkj] at hg
   simp only [Option.getD_some,Option.some.injEq] at hg
   omega
  ·rw [if_neg e,hkj] at hg
   simp only [Option.some.injEq] at hg
   omega
 ·rw [rX,Eu hq,← rX];exact hw.tot
end Go.Ab
namespace Go.Ab
open Go.Proofs
def cF (A : List Vc) (w : List Int) (B' : List Vc) (v : List Int) : Vc:=aQ (cY A w A.length) (cY B' v B'.length)
def gq (t : Vc) : Vc:=(t.1.tdiv 65536,t.2.1.tdiv 65536,t.2.2.tdiv 65536)
structure NSt where
 w : List Int
 v : List Int
 n : Vc
 r : Nat
inductive NEnd where
 |stop (kind : Int) (s : NSt)
 |step (s : NSt)
def nA (A B' : List Vc) (rho : Int) (steps : Nat) (s : NSt) : NEnd:=
 if qV (cF A s.w B' s.v) rho=true then .stop 2 s
 else if nz (aX (gq (cF A s.w B' s.v)))=false then .stop 0 ⟨s.w,s.v,aX (gq (cF A s.w B' s.v)),s.r⟩
 else if ft (aX (gq (cF A s.w B' s.v))) * rho < (cJ ew (aX (gq (cF A s.w B' s.v))) A).1 - (cJ ey (aX (gq (cF A s.w B' s.v))) B').1 then .stop 1 ⟨s.w,s.v,aX (gq (cF A s.w B' s.v)),s.r⟩
 else if s.r=steps then .stop 0 ⟨s.w,s.v,aX (gq (cF A s.w B' s.v)),s.r⟩
 else if kI (gq (cF A s.w B' s.v)) (aQ ((A[(cJ ew (aX (gq (cF A s.w B' s.v))) A).2]?).getD (0,0,0)) ((B'[(cJ ey (aX (gq (cF A s.w B' s.v))) B').2]?).getD (0,0,0)))=0 then .stop 0 ⟨s.w,s.v,aX (gq (cF A s.w B' s.v)),s.r⟩
 else .step ⟨iU s.w (cJ ew (aX (gq (cF A s.w B' s.v))) A).2 (kI (gq (cF A s.w B' s.v)) (aQ ((A[(cJ ew (aX (gq (cF A s.w B' s.v))) A).2]?).getD (0,0,0)) ((B'[(cJ ey (aX (gq (cF A s.w B' s.v))) B').2]?).getD (0,0,0)))),iU s.v (cJ ey (aX (gq (cF A s.w B' s.v))) B').2 (kI (gq (cF A s.w B' s.v)) (aQ ((A[(cJ ew (aX (gq (cF A s.w B' s.v))) A).2]?).getD (0,0,0)) ((B'[(cJ ey (aX (gq (cF A s.w B' s.v))) B').2]?).getD (0,0,0)))),aX (gq (cF A s.w B' s.v)),s.r+1⟩
def my (A B' : List Vc) (rho : Int) (steps : Nat) : Nat→NSt→Int × NSt
 |0,s=>(0,s)
 |f+1,s=>match nA A B' rho steps s with
  |.stop k s'=>(k,s')
  |.step s'=>my A B' rho steps f s'
theorem Fy {t : Vc} (h : dZ 35184372088832 t) : dZ 536870912 (gq t):=by
 have h1 : ∀ x : Int,-35184372088832≤x∧x≤35184372088832→-536870912≤x.tdiv 65536∧x.tdiv 65536≤536870912:=fun x hx=>by
  rcases Int.le_total 0 x with h0|h0
  ·rw [Int.tdiv_eq_ediv_of_nonneg h0];omega
  ·have e : x.tdiv 65536=-((-x).tdiv 65536):=by rw [Int.neg_tdiv,Int.neg_neg]
   rw [e,Int.tdiv_eq_ediv_of_nonneg (by omega)];omega
 exact ⟨h1 _ h.1,h1 _ h.2.1,h1 _ h.2.2⟩
structure NsOk (A B' : List Vc) (s : NSt) : Prop where
 w : WgOk s.w
 v : WgOk s.v
 wl : s.w.length=A.length
 vl : s.v.length=B'.length
theorem kh {l : List Vc} : fA l=true↔1≤l.length∧l.length≤8∧l.all (aA 268435456)=true:=by
 simp only [fA,Bool.and_eq_true,decide_eq_true_eq,and_assoc]
theorem CE {A B' : List Vc} {s : NSt} (hA : fA A=true) (hB : fA B'=true) (hs : NsOk A B' s) : dZ 35184372088832 (cF A s.w B' s.v):=by
 rw [kh] at hA hB
 have h1:=kg hA.2.2 hs.w A.length (by rw [hs.wl];exact Nat.le_refl _)
 have h2:=kg hB.2.2 hs.v B'.length (by rw [hs.vl];exact Nat.le_refl _)
 exact rV h1 h2
theorem mz {bet : Int→Int→Bool} {n : Vc} {l : List Vc} (hl : 1≤l.length) : (cJ bet n l).2 < l.length:=oC hl _
theorem tk : ∀ (k : Nat) (v : Vc),dZ (16384 * ((2 ^ k : Nat) : Int)) v→aA 16384 (jf k v)=true
 |0,v,h=>by
  obtain ⟨h1,h2,h3⟩:=h
  simp only [jf]
  rw [dm,bQ,bQ,bQ]
  simp only [Nat.pow_zero] at h1 h2 h3
  exact ⟨by omega,by omega,by omega⟩
 |k+1,v,h=>by
  simp only [jf]
  split
  ·assumption
  ·refine tk k _ (CU ?_)
   have e : 2 * (16384 * ((2 ^ k : Nat) : Int))=16384 * ((2 ^ (k+1) : Nat) : Int):=by rw [Nat.pow_succ];omega
   rw [e];exact h
theorem Bk (v : Vc) (h : dZ 1099511627776 v) : aA 16384 (aX v)=true:=tk 64 v (kx h (by decide))
theorem tm {A B' : List Vc} {rho : Int} {steps : Nat} {s : NSt} (hA : fA A=true) (hB : fA B'=true) (hs : NsOk A B' s) : (∀ k s',nA A B' rho steps s=.stop k s'→NsOk A B' s')∧∀ s',nA A B' rho steps s=.step s'→NsOk A B' s':=by
 rw [kh] at hA hB
 unfold nA
 refine ⟨fun k s' h=>?_,fun s' h=>?_⟩
 ·repeat' split at h
  all_goals first
   |(injection h with _ h;subst h;exact hs)
   |(injection h with _ h;subst h;exact ⟨hs.w,hs.v,hs.wl,hs.vl⟩)
   |cases h
 ·repeat' split at h
  all_goals first
   |cases h;done
   |(injection h with h
     subst h
     exact ⟨Bj hs.w (by rw [hs.wl];exact mz hA.1) (jK _ _).1 (jK _ _).2,Bj hs.v (by rw [hs.vl];exact mz hB.1) (jK _ _).1 (jK _ _).2,by rw [ue];exact hs.wl,by rw [ue];exact hs.vl⟩)
theorem wU {A B' : List Vc} {rho : Int} {steps : Nat} (hA : fA A=true) (hB : fA B'=true) : ∀ (f : Nat) (s : NSt),NsOk A B' s→NsOk A B' (my A B' rho steps f s).2
 |0,s,hs=>hs
 |f+1,s,hs=>by
  have h:=tm (rho:=rho) (steps:=steps) hA hB hs
  simp only [my]
  split
  ·rename_i k s' e;exact h.1 _ _ e
  ·rename_i s' e;exact wU hA hB f s' (h.2 _ e)
theorem wC {n p : Vc} (hn : dZ 16384 n) (hp : dZ 268435456 p) : -13194139533312≤bt n p∧bt n p≤13194139533312:=by
 obtain ⟨r1,r2,r3⟩:=mw (m:=16384) (n:=268435456) hn hp
 unfold bt;omega
theorem u7 {bet : Int→Int→Bool} {n p0 : Vc} {l : List Vc} (hn : dZ 16384 n) (hp : dZ 268435456 p0) (hl : l.all (aA 268435456)=true) : ∀ i,-13194139533312≤(dl bet n p0 l i).1∧(dl bet n p0 l i).1≤13194139533312
 |0=>wC hn hp
 |i+1=>by
  have ih:=u7 (bet:=bet) hn hp hl i
  simp only [dl]
  split
  ·rename_i v hv
   have:=wC hn (dX (List.all_eq_true.1 hl v (List.mem_of_getElem? hv)))
   split
   ·exact this
   ·exact ih
  ·exact ih
theorem qa {v : Vc} (h : aA 16384 v=true) : dZ 16384 v:=by
 rw [dm,bQ,bQ,bQ] at h
 exact ⟨⟨by omega,by omega⟩,⟨by omega,by omega⟩,⟨by omega,by omega⟩⟩
theorem tn {bet : Int→Int→Bool} {n : Vc} {l : List Vc} (hn : aA 16384 n=true) (hl : l.all (aA 268435456)=true) : -13194139533312≤(cJ bet n l).1∧(cJ bet n l).1≤13194139533312:=by
 refine u7 (qa hn) ?_ hl _
 cases h : l[0]? with
 |none=>simp [dZ]
 |some p=>exact dX (List.all_eq_true.1 hl p (List.mem_of_getElem? h))
end Go.Ab
namespace Go.Ab
open Go.Proofs
def tp (a b : List Vc) : NSt:=⟨(List.replicate a.length 0).set 0 65536,(List.replicate b.length 0).set 0 65536,(0,0,0),0⟩
theorem DM {n : Nat} (h : 1≤n) : WgOk ((List.replicate n 0).set 0 65536):=by
 constructor
 ·intro k hk
  rcases List.mem_or_eq_of_mem_set hk with h|rfl
  ·have:=List.eq_of_mem_replicate h;omega
  ·decide
 ·rw [rX,ud (y:=0) (by rw [List.getElem?_replicate,if_pos (by omega)])]
  have : (List.replicate n (0 : Int)).sum=0:=by simp
  omega
theorem Bl {a b : List Vc} (ha : 1≤a.length) (hb : 1≤b.length) : NsOk a b (tp a b):=⟨DM ha,DM hb,by simp [tp],by simp [tp]⟩
def oE (a b : List Vc) (rho steps : Int) : Bool:=fA a && fA b && bd rho 0 2097152 && bd steps 0 64
def iK (a b : List Vc) (rho steps : Int) : Int × NSt:=if oE a b rho steps then my a b rho steps.toNat (steps.toNat+1) (tp a b) else (0,⟨[],[],(0,0,0),0⟩)
abbrev Gv (x : Int × NSt) : PV:=.agg [Z x.1,Z x.2.n.1,Z x.2.n.2.1,Z x.2.n.2.2,zs x.2.w,zs x.2.v,Z x.2.r]
end Go.Ab
namespace Go.Ab
open Go.Proofs
def av (l : List Vc) : Nat→Vc
 |0=>(0,0,0)
 |i+1=>match l[i]? with
  |some p=>((av l i).1+p.1,(av l i).2.1+p.2.1,(av l i).2.2+p.2.2)
  |none=>av l i
theorem gr {l : List Vc} (hl : l.all (aA 268435456)=true) : ∀ i : Nat,dZ ((i : Int) * 268435456) (av l i)
 |0=>by simp [av,dZ]
 |i+1=>by
  obtain ⟨i1,i2,i3⟩:=gr hl i
  simp only [av]
  split
  ·rename_i p hp
   obtain ⟨a,b,c⟩:=dX (List.all_eq_true.1 hl p (List.mem_of_getElem? hp))
   exact ⟨⟨by simp only;omega,by simp only;omega⟩,⟨by simp only;omega,by simp only;omega⟩,⟨by simp only;omega,by simp only;omega⟩⟩
  ·exact ⟨⟨by omega,by omega⟩,⟨by omega,by omega⟩,⟨by omega,by omega⟩⟩
abbrev yJ : List Vc:=[(1,0,0),(-1,0,0),(0,1,0),(0,-1,0),(0,0,1),(0,0,-1)]
theorem tQ {l : List au} : (aF l).all (aA 268435456)=true:=by
 unfold aF
 split
 ·rename_i h
  have hp:=(de h).1
  rw [List.all_eq_true] at hp ⊢
  intro x hx
  obtain ⟨v,hv,rfl⟩:=List.mem_map.1 hx
  have h1:=hp v hv
  rw [ja] at h1
  obtain ⟨a,b,c⟩:=h1
  have hm : ∀ x : Iv,bW x=true→fe (nc x) 268435456=true:=fun x hx=>by
   rw [fX] at hx
   rw [bQ]
   unfold nc
   split<;>omega
  rw [dm]
  exact ⟨hm _ a,hm _ b,hm _ c⟩
 ·rfl
theorem ky {l : List au} (h : aC l=true) : (aF l).length=l.length:=by simp [aF,h]
def lp (a b : List au) : Vc:=((av (aF a) a.length).1 * b.length - (av (aF b) b.length).1 * a.length,(av (aF a) a.length).2.1 * b.length - (av (aF b) b.length).2.1 * a.length,(av (aF a) a.length).2.2 * b.length - (av (aF b) b.length).2.2 * a.length)
def mC (a b : List au) : Vc:=if aC a && aC b then aX (lp a b) else (0,0,0)
def oF (a b : List au) : Bool:=aC a && aC b && nz (aX (lp a b))
theorem Fz {l : List au} (h : aC l=true) : dZ 2147483648 (av (aF l) l.length):=by
 have h1:=gr (tQ (l:=l)) l.length
 have h2:=(de h).2.1
 exact kx h1 (by omega)
theorem Ev {a b : List au} (ha : aC a=true) (hb : aC b=true) : dZ 1099511627776 (lp a b):=by
 obtain ⟨s1,s2,s3⟩:=Fz ha
 obtain ⟨t1,t2,t3⟩:=Fz hb
 have h2:=(de ha).2.1
 have h3:=(de hb).2.1
 have e : ∀ x : Int,-2147483648≤x∧x≤2147483648→∀ n : Nat,n≤8→-17179869184≤x * n∧x * n≤17179869184:=fun x hx n hn=>by
  have:=bE (a:=x) (b:=(n : Int)) 2147483648 8 (by omega) (by omega) (by omega) (by omega)
  omega
 have a1:=e _ s1 _ h3
 have a2:=e _ s2 _ h3
 have a3:=e _ s3 _ h3
 have b1:=e _ t1 _ h2
 have b2:=e _ t2 _ h2
 have b3:=e _ t3 _ h2
 unfold lp
 exact ⟨by simp only;omega,by simp only;omega,by simp only;omega⟩
end Go.Ab
