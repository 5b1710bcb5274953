/- The contracts and facts that the laws of this seat need, in one text (K11d, K11e, K12). -/
import Derived.Test.YtcalbhjelehlgaaGreatP7
set_option linter.all false
namespace Go.Ab
open Go.Proofs
def nrTot (A : List Vc) (w : List Int) (B' : List Vc) (v : List Int) : Vc:=nrSub (nrSum A w A.length) (nrSum B' v B'.length)
def nrX (t : Vc) : Vc:=(t.1.tdiv 65536,t.2.1.tdiv 65536,t.2.2.tdiv 65536)
structure NSt where
 w : List Int
 v : List Int
 n : Vc
 r : Nat
inductive NEnd where
 |stop (kind : Int) (s : NSt)
 |step (s : NSt)
def nrRound (A B' : List Vc) (rho : Int) (steps : Nat) (s : NSt) : NEnd:=
 if nrClose (nrTot A s.w B' s.v) rho=true then .stop 2 s
 else if nz (normalV (nrX (nrTot A s.w B' s.v)))=false then .stop 0 ⟨s.w,s.v,normalV (nrX (nrTot A s.w B' s.v)),s.r⟩
 else if normI (normalV (nrX (nrTot A s.w B' s.v))) * rho < (nrBest ltB (normalV (nrX (nrTot A s.w B' s.v))) A).1 - (nrBest gtB (normalV (nrX (nrTot A s.w B' s.v))) B').1 then .stop 1 ⟨s.w,s.v,normalV (nrX (nrTot A s.w B' s.v)),s.r⟩
 else if s.r=steps then .stop 0 ⟨s.w,s.v,normalV (nrX (nrTot A s.w B' s.v)),s.r⟩
 else if nrPart (nrX (nrTot A s.w B' s.v)) (nrSub ((A[(nrBest ltB (normalV (nrX (nrTot A s.w B' s.v))) A).2]?).getD (0,0,0)) ((B'[(nrBest gtB (normalV (nrX (nrTot A s.w B' s.v))) B').2]?).getD (0,0,0)))=0 then .stop 0 ⟨s.w,s.v,normalV (nrX (nrTot A s.w B' s.v)),s.r⟩
 else .step ⟨gatW s.w (nrBest ltB (normalV (nrX (nrTot A s.w B' s.v))) A).2 (nrPart (nrX (nrTot A s.w B' s.v)) (nrSub ((A[(nrBest ltB (normalV (nrX (nrTot A s.w B' s.v))) A).2]?).getD (0,0,0)) ((B'[(nrBest gtB (normalV (nrX (nrTot A s.w B' s.v))) B').2]?).getD (0,0,0)))),gatW s.v (nrBest gtB (normalV (nrX (nrTot A s.w B' s.v))) B').2 (nrPart (nrX (nrTot A s.w B' s.v)) (nrSub ((A[(nrBest ltB (normalV (nrX (nrTot A s.w B' s.v))) A).2]?).getD (0,0,0)) ((B'[(nrBest gtB (normalV (nrX (nrTot A s.w B' s.v))) B').2]?).getD (0,0,0)))),normalV (nrX (nrTot A s.w B' s.v)),s.r+1⟩
def nrRun (A B' : List Vc) (rho : Int) (steps : Nat) : Nat→NSt→Int × NSt
 |0,s=>(0,s)
 |f+1,s=>match nrRound A B' rho steps s with
  |.stop k s'=>(k,s')
  |.step s'=>nrRun A B' rho steps f s'
theorem nrX_sm {t : Vc} (h : smV 35184372088832 t) : smV 536870912 (nrX t):=by
 have h1 : ∀ x : Int,-35184372088832≤x∧x≤35184372088832→-536870912≤x.tdiv 65536∧x.tdiv 65536≤536870912:=fun x hx=>by
  rcases Int.le_total 0 x with h0|h0
  ·rw [Int.tdiv_eq_ediv_of_nonneg h0];omega
  ·have e : x.tdiv 65536=-((-x).tdiv 65536):=by rw [Int.neg_tdiv,Int.neg_neg]
   rw [e,Int.tdiv_eq_ediv_of_nonneg (by omega)];omega
 exact ⟨h1 _ h.1,h1 _ h.2.1,h1 _ h.2.2⟩
structure NsOk (A B' : List Vc) (s : NSt) : Prop where
 w : WgOk s.w
 v : WgOk s.v
 wl : s.w.length=A.length
 vl : s.v.length=B'.length
theorem nusB_iff {l : List Vc} : nusB l=true↔1≤l.length∧l.length≤8∧l.all (nearV 268435456)=true:=by
 simp only [nusB,Bool.and_eq_true,decide_eq_true_eq,and_assoc]
theorem nrTot_sm {A B' : List Vc} {s : NSt} (hA : nusB A=true) (hB : nusB B'=true) (hs : NsOk A B' s) : smV 35184372088832 (nrTot A s.w B' s.v):=by
 rw [nusB_iff] at hA hB
 have h1:=nrSum_sm hA.2.2 hs.w A.length (by rw [hs.wl];exact Nat.le_refl _)
 have h2:=nrSum_sm hB.2.2 hs.v B'.length (by rw [hs.vl];exact Nat.le_refl _)
 exact nrSub_sm h1 h2
theorem nrBest_lt {bet : Int→Int→Bool} {n : Vc} {l : List Vc} (hl : 1≤l.length) : (nrBest bet n l).2 < l.length:=nrOpt_lt hl _
abbrev nsC (A : List Vc) (nw : Nat) (B' : List Vc) (nv : Nat) (n : Vc) (r : Nat) : List AV:=[.pv (vecs A),.arr 2000000 nw,.pv (vecs B'),.arr 2000001 nv,.pv (Z n.1),.pv (Z n.2.1),.pv (Z n.2.2),.pv (Z r)]
abbrev nsG (A B' : List Vc) (s : NSt) : List (Nat × Blk):=[(1000000,.box (nsC A s.w.length B' s.v.length s.n s.r) false false),(2000000,.row 2 1 (s.w.map Z) 0),(2000001,.row 2 1 (s.v.map Z) 0)]
theorem normV_near : ∀ (k : Nat) (v : Vc),smV (16384 * ((2 ^ k : Nat) : Int)) v→nearV 16384 (normV k v)=true
 |0,v,h=>by
  obtain ⟨h1,h2,h3⟩:=h
  simp only [normV]
  rw [nearV_iff,inB_iff,inB_iff,inB_iff]
  simp only [Nat.pow_zero] at h1 h2 h3
  exact ⟨by omega,by omega,by omega⟩
 |k+1,v,h=>by
  simp only [normV]
  split
  ·assumption
  ·refine normV_near k _ (smV_half ?_)
   have e : 2 * (16384 * ((2 ^ k : Nat) : Int))=16384 * ((2 ^ (k+1) : Nat) : Int):=by rw [Nat.pow_succ];omega
   rw [e];exact h
theorem norm_near (v : Vc) (h : smV 1099511627776 v) : nearV 16384 (normalV v)=true:=normV_near 64 v (sm_to h (by decide))
theorem nrRound_ok {A B' : List Vc} {rho : Int} {steps : Nat} {s : NSt} (hA : nusB A=true) (hB : nusB B'=true) (hs : NsOk A B' s) : (∀ k s',nrRound A B' rho steps s=.stop k s'→NsOk A B' s')∧∀ s',nrRound A B' rho steps s=.step s'→NsOk A B' s':=by
 rw [nusB_iff] at hA hB
 unfold nrRound
 refine ⟨fun k s' h=>?_,fun s' h=>?_⟩
 ·repeat' split at h
  all_goals first
   |(injection h with _ h;subst h;exact hs)
   |(injection h with _ h;subst h;exact ⟨hs.w,hs.v,hs.wl,hs.vl⟩)
   |cases h
 ·repeat' split at h
  all_goals first
   |cases h;done
   |(injection h with h
     subst h
     exact ⟨gat_ok hs.w (by rw [hs.wl];exact nrBest_lt hA.1) (nrPart_rng _ _).1 (nrPart_rng _ _).2,gat_ok hs.v (by rw [hs.vl];exact nrBest_lt hB.1) (nrPart_rng _ _).1 (nrPart_rng _ _).2,by rw [gat_len];exact hs.wl,by rw [gat_len];exact hs.vl⟩)
theorem nrRun_ok {A B' : List Vc} {rho : Int} {steps : Nat} (hA : nusB A=true) (hB : nusB B'=true) : ∀ (f : Nat) (s : NSt),NsOk A B' s→NsOk A B' (nrRun A B' rho steps f s).2
 |0,s,hs=>hs
 |f+1,s,hs=>by
  have h:=nrRound_ok (rho:=rho) (steps:=steps) hA hB hs
  simp only [nrRun]
  split
  ·rename_i k s' e;exact h.1 _ _ e
  ·rename_i s' e;exact nrRun_ok hA hB f s' (h.2 _ e)
theorem nrDot_box {n p : Vc} (hn : smV 16384 n) (hp : smV 268435456 p) : -13194139533312≤nrDot n p∧nrDot n p≤13194139533312:=by
 obtain ⟨r1,r2,r3⟩:=nrDot_rng (m:=16384) (n:=268435456) hn hp
 unfold nrDot;omega
theorem nrOpt_rng {bet : Int→Int→Bool} {n p0 : Vc} {l : List Vc} (hn : smV 16384 n) (hp : smV 268435456 p0) (hl : l.all (nearV 268435456)=true) : ∀ i,-13194139533312≤(nrOpt bet n p0 l i).1∧(nrOpt bet n p0 l i).1≤13194139533312
 |0=>nrDot_box hn hp
 |i+1=>by
  have ih:=nrOpt_rng (bet:=bet) hn hp hl i
  simp only [nrOpt]
  split
  ·rename_i v hv
   have:=nrDot_box hn (near_sm (List.all_eq_true.1 hl v (List.mem_of_getElem? hv)))
   split
   ·exact this
   ·exact ih
  ·exact ih
theorem near16 {v : Vc} (h : nearV 16384 v=true) : smV 16384 v:=by
 rw [nearV_iff,inB_iff,inB_iff,inB_iff] at h
 exact ⟨⟨by omega,by omega⟩,⟨by omega,by omega⟩,⟨by omega,by omega⟩⟩
theorem nrBest_rng {bet : Int→Int→Bool} {n : Vc} {l : List Vc} (hn : nearV 16384 n=true) (hl : l.all (nearV 268435456)=true) : -13194139533312≤(nrBest bet n l).1∧(nrBest bet n l).1≤13194139533312:=by
 refine nrOpt_rng (near16 hn) ?_ hl _
 cases h : l[0]? with
 |none=>simp [smV]
 |some p=>exact near_sm (List.all_eq_true.1 hl p (List.mem_of_getElem? h))
theorem nsG_ok {A B' : List Vc} {s s' : NSt} (hs : NsOk A B' s) (hs' : NsOk A B' s') : OkG (nsG A B' s) (nsG A B' s'):=by
 constructor
 ·rfl
 ·simp
 ·intro k b h
  simp only [List.mem_cons,Prod.mk.injEq,List.not_mem_nil,or_false] at h
  rcases h with ⟨rfl,rfl⟩|⟨rfl,rfl⟩|⟨rfl,rfl⟩
  all_goals (simp [okBG,okG1])
 ·intro k b h
  simp only [List.mem_cons,Prod.mk.injEq,List.not_mem_nil,or_false] at h
  rcases h with ⟨rfl,rfl⟩|⟨rfl,rfl⟩|⟨rfl,rfl⟩
  all_goals (simp [okBG,okG1])
 ·intro k b b' h h'
  have e1:=asHp_mem h
  have e2:=asHp_mem h'
  simp only [List.mem_cons,Prod.mk.injEq,List.not_mem_nil,or_false] at e1 e2
  rcases e1 with ⟨rfl,rfl⟩|⟨rfl,rfl⟩|⟨rfl,rfl⟩
  ·rcases e2 with ⟨_,rfl⟩|⟨e,_⟩|⟨e,_⟩
   ·rfl
   ·exact absurd e (by decide)
   ·exact absurd e (by decide)
  ·rcases e2 with ⟨e,_⟩|⟨_,rfl⟩|⟨e,_⟩
   ·exact absurd e (by decide)
   ·simp [sameB,hs.wl,hs'.wl]
   ·exact absurd e (by decide)
  ·rcases e2 with ⟨e,_⟩|⟨e,_⟩|⟨_,rfl⟩
   ·exact absurd e (by decide)
   ·exact absurd e (by decide)
   ·simp [sameB,hs.vl,hs'.vl]
set_option maxHeartbeats 32000000 in
set_option maxRecDepth 4000 in
theorem g77 (A B' : List Vc) (rho : Int) (steps : Nat) (s0 : NSt) (hA : nusB A=true) (hB : nusB B'=true) (hr : 0≤rho∧rho≤2097152) (hst : steps≤64) (hs : NsOk A B' s0) (h0 : s0.r=0) : DetG Tryz.prog 77 [.ptr 1000000 0,.pv (Z rho),.pv (Z steps)] (nsG A B' s0) (nsG A B' (nrRun A B' rho steps (steps+1) s0).2) (Z (nrRun A B' rho steps (steps+1) s0).1):=by
 have hend:=nrRun_ok (rho:=rho) (steps:=steps) hA hB (steps+1) s0 hs
 generalize hRR : nrRun A B' rho steps (steps+1) s0=RR at *
 have hA':=nusB_iff.1 hA
 have hB':=nusB_iff.1 hB
 refine detG_of Tryz.func77 rfl (by kernel_rfl) (by simp [Tryz.f77]) (nsG_ok hs hend) ?_
 intro C hP hN
 simp only [Tryz.f77] at hN ⊢
 with_reducible repeat' (first|refine Sp.h ?_|((first|refine Ss.h ?_|(refine Xb ?_ ?_ ?_<;>(try intro hgd)<;>try (exfalso;simp at hgd;first|done|omega)))<;>simp -implicitDefEqProofs (maxSteps:=2000000) [hP,hN,stG,asHp])|((first|refine Wd (hn:=[]) (by rw [hP];kernel_rfl) (by kernel_rfl) ?_|(refine Yb ?_ ?_ ?_<;>(try intro hgd)<;>try (exfalso;simp at hgd;first|done|omega)))<;>simp -implicitDefEqProofs (maxSteps:=2000000) [hP,hN,stG,asHp]<;>(try refine ⟨by kernel_rfl,?_⟩))|refine X2 ?_ ?_|(refine Xd ?_ ?_<;>intro hcd<;>(try (exfalso;clear hP hN;simp_all;done))<;>(try (exfalso;simp at *;omega))))
 refine WP.loopN [7,8,9] steps (fun i st=>∃ s : NSt,NsOk A B' s∧s.r=i∧nrRun A B' rho steps (steps+1 - i) s=RR∧st.t 0=.ptr 1000000 0∧st.t 1=.pv (Z rho)∧st.t 2=.pv (Z steps)∧st.h 7=none∧st.h 8=none∧st.h 9=none∧st.h 1000000=some (.box (nsC A s.w.length B' s.v.length s.n s.r) false false)∧st.h 2000000=some (.row 2 1 (s.w.map Z) 0)∧st.h 2000001=some (.row 2 1 (s.v.map Z) 0)) (by refine ⟨s0,hs,h0,hRR,?_⟩;simp) ?_
 rintro i st hi ⟨s,hs,hsr,hrun,g0,g1,g2,hb7,hb8,hb9,hbS,hbW,hbV⟩
 have hTs:=nrTot_sm hA hB hs
 have hXs:=nrX_sm hTs
 have hXs2:=sm_to hXs (show (536870912 : Int)≤1099511627776 by decide)
 have hnn:=norm_near _ hXs2
 rw [show steps+1 - i=(steps - i)+1 by omega] at hrun
 simp only [nrRun] at hrun
 have hRo : nrRound A B' rho steps s=_:=rfl
 conv at hRo=>rhs;unfold nrRound
 have c1:=d124 A s.w hA'.2.1 hs.wl hA'.2.2 hs.w
 have c2:=d124 B' s.v hB'.2.1 hs.vl hB'.2.2 hs.v
 have hS1:=nrSum_sm hA'.2.2 hs.w A.length (by rw [hs.wl];exact Nat.le_refl _)
 have hS2:=nrSum_sm hB'.2.2 hs.v B'.length (by rw [hs.vl];exact Nat.le_refl _)
 have c3:=d123 _ _ (sm_to hS1 (by decide)) (sm_to hS2 (by decide))
 have hTd : nrSub (nrSum A s.w A.length) (nrSum B' s.v B'.length)=nrTot A s.w B' s.v:=rfl
 rw [hTd] at c3
 have c4:=d125 _ rho hTs hr
 have hRk:=nrRound_ok (rho:=rho) (steps:=steps) hA hB hs
 generalize nrTot A s.w B' s.v=T at *
 have c5:=d126 _ hXs2
 have hXd : nrX T=(T.1.tdiv 65536,T.2.1.tdiv 65536,T.2.2.tdiv 65536):=rfl
 cases hcl : nrClose T rho with
 |true=>
  rw [hcl] at c4
  rw [if_pos hcl] at hRo
  rw [hRo] at hrun
  simp only at hrun
  subst hrun
  with_reducible repeat' (first|refine Sp.h ?_|((first|refine Ss.h ?_|refine Xc (c1) ?_|refine Xc (c2) ?_|refine Xc (c3) ?_|refine Xc (c4) ?_|(refine Xb ?_ ?_ ?_<;>(try intro hgd)<;>try (exfalso;simp at hgd;first|done|omega)))<;>simp -implicitDefEqProofs (maxSteps:=2000000) [hP,hN,g0,g1,g2,hb7,hb8,hb9,hbS,hbW,hbV])|((first|refine Wd (hn:=[]) (by rw [hP];kernel_rfl) (by kernel_rfl) ?_|refine Yc (c1) ?_|refine Yc (c2) ?_|refine Yc (c3) ?_|refine Yc (c4) ?_|(refine Yb ?_ ?_ ?_<;>(try intro hgd)<;>try (exfalso;simp at hgd;first|done|omega)))<;>simp -implicitDefEqProofs (maxSteps:=2000000) [hP,hN,g0,g1,g2,hb7,hb8,hb9,hbS,hbW,hbV]<;>(try refine ⟨by kernel_rfl,?_⟩))|refine X2 ?_ ?_|(refine Xd ?_ ?_<;>intro hcd<;>(try (exfalso;clear hP hN;simp_all;done))<;>(try (exfalso;simp at *;omega))))
  all_goals exact ⟨rfl,⟨_,rfl,_,rfl⟩,by intro kb h;simp only [List.mem_cons,List.not_mem_nil,or_false] at h;rcases h with rfl|rfl|rfl<;>simp [hbS,hbW,hbV]⟩
 |false=>
  rw [hcl] at c4
  rw [if_neg (by rw [hcl];simp)] at hRo
  have e1 : IntKind.i64.wrap (T.1.tdiv 65536)=T.1.tdiv 65536:=by have:=hXs.1;rw [hXd] at this;simp only at this;exact wr_id (by omega) (by omega)
  have e2 : IntKind.i64.wrap (T.2.1.tdiv 65536)=T.2.1.tdiv 65536:=by have:=hXs.2.1;rw [hXd] at this;simp only at this;exact wr_id (by omega) (by omega)
  have e3 : IntKind.i64.wrap (T.2.2.tdiv 65536)=T.2.2.tdiv 65536:=by have:=hXs.2.2;rw [hXd] at this;simp only at this;exact wr_id (by omega) (by omega)
  generalize normalV (nrX T)=n at *
  cases hnz : nz n with
  |false=>
   rw [if_pos hnz] at hRo
   rw [hRo] at hrun
   simp only at hrun
   subst hrun
   rw [hnz,hXd] at c5
   with_reducible repeat' (first|refine Sp.h ?_|((first|refine Ss.h ?_|refine Xc (c1) ?_|refine Xc (c2) ?_|refine Xc (c3) ?_|refine Xc (c4) ?_|refine Xc (c5) ?_|(refine Xb ?_ ?_ ?_<;>(try intro hgd)<;>try (exfalso;simp at hgd;first|done|omega)))<;>simp -implicitDefEqProofs (maxSteps:=2000000) [hP,hN,g0,g1,g2,hb7,hb8,hb9,hbS,hbW,hbV,e1,e2,e3])|((first|refine Wd (hn:=[]) (by rw [hP];kernel_rfl) (by kernel_rfl) ?_|refine Yc (c1) ?_|refine Yc (c2) ?_|refine Yc (c3) ?_|refine Yc (c4) ?_|refine Yc (c5) ?_|(refine Yb ?_ ?_ ?_<;>(try intro hgd)<;>try (exfalso;simp at hgd;first|done|omega)))<;>simp -implicitDefEqProofs (maxSteps:=2000000) [hP,hN,g0,g1,g2,hb7,hb8,hb9,hbS,hbW,hbV,e1,e2,e3]<;>(try refine ⟨by kernel_rfl,?_⟩))|refine X2 ?_ ?_|(refine Xd ?_ ?_<;>intro hcd<;>(try (exfalso;clear hP hN;simp_all;done))<;>(try (exfalso;simp at *;omega))))
   all_goals exact ⟨rfl,⟨_,rfl,_,rfl⟩,by intro kb h;simp only [List.mem_cons,List.not_mem_nil,or_false] at h;rcases h with rfl|rfl|rfl<;>simp [hbS,hbW,hbV]⟩
  |true=>
   rw [if_neg (by rw [hnz];simp)] at hRo
   have c6:=d127 n A s.w hnn hA'.1 hA'.2.1 hA'.2.2
   have c7:=d128 n B' s.v hnn hB'.1 hB'.2.1 hB'.2.2
   have c8:=d65 n
   have hq:=norm_rng n
   have l1:=nrBest_rng (bet:=ltB) hnn hA'.2.2
   have l2:=nrBest_rng (bet:=gtB) hnn hB'.2.2
   have i1:=nrBest_lt (bet:=ltB) (n:=n) hA'.1
   have i2:=nrBest_lt (bet:=gtB) (n:=n) hB'.1
   generalize nrBest ltB n A=lo at *
   generalize nrBest gtB n B'=hi' at *
   generalize normI n=q at *
   have hqr:=mul_rng (a:=q) (b:=rho) 32768 2097152 (by omega) (by omega) (by omega) (by omega)
   have e4 : IntKind.i64.wrap (lo.1 - hi'.1)=lo.1 - hi'.1:=wr_id (by omega) (by omega)
   have e5 : IntKind.i64.wrap (q * rho)=q * rho:=wr_id (by omega) (by omega)
   generalize hpp : q * rho=qr at *
   obtain ⟨pa,hpa⟩ : ∃ x,A[lo.2]?=some x:=⟨_,List.getElem?_eq_getElem i1⟩
   obtain ⟨pb,hpb⟩ : ∃ x,B'[hi'.2]?=some x:=⟨_,List.getElem?_eq_getElem i2⟩
   have hxa : ∀ h,A[lo.2]'h=pa:=fun h=>by rw [List.getElem?_eq_getElem h] at hpa;exact Option.some.inj hpa
   have hxb : ∀ h,B'[hi'.2]'h=pb:=fun h=>by rw [List.getElem?_eq_getElem h] at hpb;exact Option.some.inj hpb
   have sa:=near_sm (List.all_eq_true.1 hA'.2.2 pa (List.mem_of_getElem? hpa))
   have sb:=near_sm (List.all_eq_true.1 hB'.2.2 pb (List.mem_of_getElem? hpb))
   have c9:=d123 pa pb (sm_to sa (by decide)) (sm_to sb (by decide))
   have sab:=nrSub_sm sa sb
   have c10:=d129 (nrX T) (nrSub pa pb) hXs sab
   have htr:=nrPart_rng (nrX T) (nrSub pa pb)
   rw [hpa,hpb] at hRo
   simp only [Option.getD_some] at hRo
   generalize nrPart (nrX T) (nrSub pa pb)=t at *
   generalize nrSub pa pb=pab at *
   rw [hXd] at c5 c10
   rw [hnz] at c5
   by_cases hsep : qr < lo.1 - hi'.1
   ·rw [if_pos hsep] at hRo
    rw [hRo] at hrun
    simp only at hrun
    subst hrun
    with_reducible repeat' (first|refine Sp.h ?_|((first|refine Ss.h ?_|refine Xc (c1) ?_|refine Xc (c2) ?_|refine Xc (c3) ?_|refine Xc (c4) ?_|refine Xc (c5) ?_|refine Xc (c6) ?_|refine Xc (c7) ?_|refine Xc (c8) ?_|(refine Xb ?_ ?_ ?_<;>(try intro hgd)<;>try (exfalso;simp at hgd;first|done|omega)))<;>simp -implicitDefEqProofs (maxSteps:=2000000) [hP,hN,g0,g1,g2,hb7,hb8,hb9,hbS,hbW,hbV,e1,e2,e3,e4,e5,hpp,hsep])|((first|refine Wd (hn:=[]) (by rw [hP];kernel_rfl) (by kernel_rfl) ?_|refine Yc (c1) ?_|refine Yc (c2) ?_|refine Yc (c3) ?_|refine Yc (c4) ?_|refine Yc (c5) ?_|refine Yc (c6) ?_|refine Yc (c7) ?_|refine Yc (c8) ?_|(refine Yb ?_ ?_ ?_<;>(try intro hgd)<;>try (exfalso;simp at hgd;first|done|omega)))<;>simp -implicitDefEqProofs (maxSteps:=2000000) [hP,hN,g0,g1,g2,hb7,hb8,hb9,hbS,hbW,hbV,e1,e2,e3,e4,e5,hpp,hsep]<;>(try refine ⟨by kernel_rfl,?_⟩))|refine X2 ?_ ?_|(refine Xd ?_ ?_<;>intro hcd<;>(try (exfalso;clear hP hN;simp_all;done))<;>(try (exfalso;simp at *;omega))))
    all_goals exact ⟨rfl,⟨_,rfl,_,rfl⟩,by intro kb h;simp only [List.mem_cons,List.not_mem_nil,or_false] at h;rcases h with rfl|rfl|rfl<;>simp [hbS,hbW,hbV]⟩
   rw [if_neg hsep] at hRo
   by_cases hstp : s.r=steps
   ·rw [if_pos hstp] at hRo
    rw [hRo] at hrun
    simp only at hrun
    subst hrun
    have hst2 : ((s.r : Int)==(steps : Int))=true:=by simp;omega
    with_reducible repeat' (first|refine Sp.h ?_|((first|refine Ss.h ?_|refine Xc (c1) ?_|refine Xc (c2) ?_|refine Xc (c3) ?_|refine Xc (c4) ?_|refine Xc (c5) ?_|refine Xc (c6) ?_|refine Xc (c7) ?_|refine Xc (c8) ?_|(refine Xb ?_ ?_ ?_<;>(try intro hgd)<;>try (exfalso;simp at hgd;first|done|omega)))<;>simp -implicitDefEqProofs (maxSteps:=2000000) [hP,hN,g0,g1,g2,hb7,hb8,hb9,hbS,hbW,hbV,e1,e2,e3,e4,e5,hpp,hsep,hst2])|((first|refine Wd (hn:=[]) (by rw [hP];kernel_rfl) (by kernel_rfl) ?_|refine Yc (c1) ?_|refine Yc (c2) ?_|refine Yc (c3) ?_|refine Yc (c4) ?_|refine Yc (c5) ?_|refine Yc (c6) ?_|refine Yc (c7) ?_|refine Yc (c8) ?_|(refine Yb ?_ ?_ ?_<;>(try intro hgd)<;>try (exfalso;simp at hgd;first|done|omega)))<;>simp -implicitDefEqProofs (maxSteps:=2000000) [hP,hN,g0,g1,g2,hb7,hb8,hb9,hbS,hbW,hbV,e1,e2,e3,e4,e5,hpp,hsep,hst2]<;>(try refine ⟨by kernel_rfl,?_⟩))|refine X2 ?_ ?_|(refine Xd ?_ ?_<;>intro hcd<;>(try (exfalso;clear hP hN;simp_all;done))<;>(try (exfalso;simp at *;omega))))
    all_goals exact ⟨rfl,⟨_,rfl,_,rfl⟩,by intro kb h;simp only [List.mem_cons,List.not_mem_nil,or_false] at h;rcases h with rfl|rfl|rfl<;>simp [hbS,hbW,hbV]⟩
   rw [if_neg hstp] at hRo
   have hst2 : ((s.r : Int)==(steps : Int))=false:=by simp;omega
   by_cases ht0 : t=0
   ·rw [if_pos ht0] at hRo
    rw [hRo] at hrun
    simp only at hrun
    subst hrun
    with_reducible repeat' (first|refine Sp.h ?_|((first|refine Ss.h ?_|refine Xc (c1) ?_|refine Xc (c2) ?_|refine Xc (c3) ?_|refine Xc (c4) ?_|refine Xc (c5) ?_|refine Xc (c6) ?_|refine Xc (c7) ?_|refine Xc (c8) ?_|refine Xc (c9) ?_|refine Xc (c10) ?_|(refine Xb ?_ ?_ ?_<;>(try intro hgd)<;>try (exfalso;simp at hgd;first|done|omega)))<;>simp -implicitDefEqProofs (maxSteps:=2000000) [hP,hN,g0,g1,g2,hb7,hb8,hb9,hbS,hbW,hbV,e1,e2,e3,e4,e5,hpp,hsep,hst2,hpa,hpb,hxa,hxb,i1,i2,ht0])|((first|refine Wd (hn:=[]) (by rw [hP];kernel_rfl) (by kernel_rfl) ?_|refine Yc (c1) ?_|refine Yc (c2) ?_|refine Yc (c3) ?_|refine Yc (c4) ?_|refine Yc (c5) ?_|refine Yc (c6) ?_|refine Yc (c7) ?_|refine Yc (c8) ?_|refine Yc (c9) ?_|refine Yc (c10) ?_|(refine Yb ?_ ?_ ?_<;>(try intro hgd)<;>try (exfalso;simp at hgd;first|done|omega)))<;>simp -implicitDefEqProofs (maxSteps:=2000000) [hP,hN,g0,g1,g2,hb7,hb8,hb9,hbS,hbW,hbV,e1,e2,e3,e4,e5,hpp,hsep,hst2,hpa,hpb,hxa,hxb,i1,i2,ht0]<;>(try refine ⟨by kernel_rfl,?_⟩))|refine X2 ?_ ?_|(refine Xd ?_ ?_<;>intro hcd<;>(try (exfalso;clear hP hN;simp_all;done))<;>(try (exfalso;simp at *;omega))))
    all_goals exact ⟨rfl,⟨_,rfl,_,rfl⟩,by intro kb h;simp only [List.mem_cons,List.not_mem_nil,or_false] at h;rcases h with rfl|rfl|rfl<;>simp [hbS,hbW,hbV]⟩
   rw [if_neg ht0] at hRo
   have hok:=hRk.2 _ hRo
   rw [hRo] at hrun
   simp only at hrun
   have ht2 : (t==0)=false:=by simp;omega
   have hgL:=g130 A s.w lo.2 t (by rw [hs.wl];exact hA'.2.1) hs.w (by rw [hs.wl];exact i1) htr.1 htr.2
   have hgR:=g130 B' s.v hi'.2 t (by rw [hs.vl];exact hB'.2.1) hs.v (by rw [hs.vl];exact i2) htr.1 htr.2
   with_reducible repeat' (first|refine Sp.h ?_|((refine WP.share (hn:=[]) (pre:=[_,_,_,_,_,_,_]) (post:=[]) rfl rfl rfl ?_);simp -implicitDefEqProofs (maxSteps:=2000000) [hP,hN,g0,g1,g2,hb7,hb8,hb9,hbS,hbW,hbV,e1,e2,e3,e4,e5,hpp,hsep,hst2,hpa,hpb,hxa,hxb,i1,i2,ht0,ht2])|((first|refine Ss.h ?_|refine Xc (c1) ?_|refine Xc (c2) ?_|refine Xc (c3) ?_|refine Xc (c4) ?_|refine Xc (c5) ?_|refine Xc (c6) ?_|refine Xc (c7) ?_|refine Xc (c8) ?_|refine Xc (c9) ?_|refine Xc (c10) ?_|(refine Xb ?_ ?_ ?_<;>(try intro hgd)<;>try (exfalso;simp at hgd;first|done|omega)))<;>simp -implicitDefEqProofs (maxSteps:=2000000) [hP,hN,g0,g1,g2,hb7,hb8,hb9,hbS,hbW,hbV,e1,e2,e3,e4,e5,hpp,hsep,hst2,hpa,hpb,hxa,hxb,i1,i2,ht0,ht2])|((first|refine Wd (hn:=[]) (by rw [hP];kernel_rfl) (by kernel_rfl) ?_|refine Yc (c1) ?_|refine Yc (c2) ?_|refine Yc (c3) ?_|refine Yc (c4) ?_|refine Yc (c5) ?_|refine Yc (c6) ?_|refine Yc (c7) ?_|refine Yc (c8) ?_|refine Yc (c9) ?_|refine Yc (c10) ?_|(refine Yb ?_ ?_ ?_<;>(try intro hgd)<;>try (exfalso;simp at hgd;first|done|omega)))<;>simp -implicitDefEqProofs (maxSteps:=2000000) [hP,hN,g0,g1,g2,hb7,hb8,hb9,hbS,hbW,hbV,e1,e2,e3,e4,e5,hpp,hsep,hst2,hpa,hpb,hxa,hxb,i1,i2,ht0,ht2]<;>(try refine ⟨by kernel_rfl,?_⟩))|refine X2 ?_ ?_|(refine Xd ?_ ?_<;>intro hcd<;>(try (exfalso;clear hP hN;simp_all;done))<;>(try (exfalso;simp at *;omega))))
   simp only [ShareK,hP]
   refine ⟨_,_,_,_,_,fun _=>2000000,rfl,hgL,rfl,?_⟩
   refine ⟨by simp [renA,renA1],by simp [okG,okG1],by simp,by intro kb h;simp only [List.mem_cons,List.not_mem_nil,or_false] at h;subst h;simp [hbW,renB],by rw [hN];rfl,?_⟩
   simp -implicitDefEqProofs (maxSteps:=2000000) [hP,hN,shareW,renB,evR,hbW]
   with_reducible repeat' (first|refine Sp.h ?_|((refine WP.share (hn:=[]) (pre:=[_,_,_,_,_,_,_]) (post:=[]) rfl rfl rfl ?_);simp -implicitDefEqProofs (maxSteps:=2000000) [hP,hN,g0,g1,g2,hb7,hb8,hb9,hbS,hbW,hbV,shareW,renB,e1,e2,e3,e4,e5,hpp,hsep,hst2,hpa,hpb,hxa,hxb,i1,i2,ht0,ht2])|((first|refine Ss.h ?_|refine Xc (c1) ?_|refine Xc (c2) ?_|refine Xc (c3) ?_|refine Xc (c4) ?_|refine Xc (c5) ?_|refine Xc (c6) ?_|refine Xc (c7) ?_|refine Xc (c8) ?_|refine Xc (c9) ?_|refine Xc (c10) ?_|(refine Xb ?_ ?_ ?_<;>(try intro hgd)<;>try (exfalso;simp at hgd;first|done|omega)))<;>simp -implicitDefEqProofs (maxSteps:=2000000) [hP,hN,g0,g1,g2,hb7,hb8,hb9,hbS,hbW,hbV,shareW,renB,e1,e2,e3,e4,e5,hpp,hsep,hst2,hpa,hpb,hxa,hxb,i1,i2,ht0,ht2])|((first|refine Wd (hn:=[]) (by rw [hP];kernel_rfl) (by kernel_rfl) ?_|refine Yc (c1) ?_|refine Yc (c2) ?_|refine Yc (c3) ?_|refine Yc (c4) ?_|refine Yc (c5) ?_|refine Yc (c6) ?_|refine Yc (c7) ?_|refine Yc (c8) ?_|refine Yc (c9) ?_|refine Yc (c10) ?_|(refine Yb ?_ ?_ ?_<;>(try intro hgd)<;>try (exfalso;simp at hgd;first|done|omega)))<;>simp -implicitDefEqProofs (maxSteps:=2000000) [hP,hN,g0,g1,g2,hb7,hb8,hb9,hbS,hbW,hbV,shareW,renB,e1,e2,e3,e4,e5,hpp,hsep,hst2,hpa,hpb,hxa,hxb,i1,i2,ht0,ht2]<;>(try refine ⟨by kernel_rfl,?_⟩))|refine X2 ?_ ?_|(refine Xd ?_ ?_<;>intro hcd<;>(try (exfalso;clear hP hN;simp_all;done))<;>(try (exfalso;simp at *;omega))))
   simp only [ShareK,hP]
   refine ⟨_,_,_,_,_,fun _=>2000001,rfl,hgR,rfl,?_⟩
   refine ⟨by simp [renA,renA1],by simp [okG,okG1],by simp,by intro kb h;simp only [List.mem_cons,List.not_mem_nil,or_false] at h;subst h;simp [hbV,renB],by rw [hN];rfl,?_⟩
   simp -implicitDefEqProofs (maxSteps:=2000000) [hP,hN,shareW,renB,evR,hbW,hbV]
   have hwr : IntKind.i64.wrap ((s.r : Int)+1)=(s.r : Int)+1:=wr_id (by omega) (by omega)
   with_reducible repeat' (first|refine Sp.h ?_|((first|refine Ss.h ?_|refine Xc (c1) ?_|(refine Xb ?_ ?_ ?_<;>(try intro hgd)<;>try (exfalso;simp at hgd;first|done|omega)))<;>simp -implicitDefEqProofs (maxSteps:=2000000) [hP,hN,g0,g1,g2,hb7,hb8,hb9,hbS,hbW,hbV,hwr,shareW,renB,e1,e2,e3,e4,e5,hpp,hsep,hst2,hpa,hpb,hxa,hxb,i1,i2,ht0,ht2])|((first|refine Wd (hn:=[]) (by rw [hP];kernel_rfl) (by kernel_rfl) ?_|refine Yc (c1) ?_|(refine Yb ?_ ?_ ?_<;>(try intro hgd)<;>try (exfalso;simp at hgd;first|done|omega)))<;>simp -implicitDefEqProofs (maxSteps:=2000000) [hP,hN,g0,g1,g2,hb7,hb8,hb9,hbS,hbW,hbV,hwr,shareW,renB,e1,e2,e3,e4,e5,hpp,hsep,hst2,hpa,hpb,hxa,hxb,i1,i2,ht0,ht2]<;>(try refine ⟨by kernel_rfl,?_⟩))|refine X2 ?_ ?_|(refine Xd ?_ ?_<;>intro hcd<;>(try (exfalso;clear hP hN;simp_all;done))<;>(try (exfalso;simp at *;omega))))
   refine ⟨by omega,⟨gatW s.w lo.2 t,gatW s.v hi'.2 t,n,s.r+1⟩,hok,by simp only;omega,hrun,⟨(gat_len _ _ _).symm,(gat_len _ _ _).symm,rfl,rfl,rfl,by simp only;omega⟩,rfl,rfl⟩
end Go.Ab
namespace Go.Ab
open Go.Proofs
def ns0 (a b : List Vc) : NSt:=⟨(List.replicate a.length 0).set 0 65536,(List.replicate b.length 0).set 0 65536,(0,0,0),0⟩
theorem w0_ok {n : Nat} (h : 1≤n) : WgOk ((List.replicate n 0).set 0 65536):=by
 constructor
 ·intro k hk
  rcases List.mem_or_eq_of_mem_set hk with h|rfl
  ·have:=List.eq_of_mem_replicate h;omega
  ·decide
 ·rw [wtot_all,sum_set (y:=0) (by rw [List.getElem?_replicate,if_pos (by omega)])]
  have : (List.replicate n (0 : Int)).sum=0:=by simp
  omega
theorem ns0_ok {a b : List Vc} (ha : 1≤a.length) (hb : 1≤b.length) : NsOk a b (ns0 a b):=⟨w0_ok ha,w0_ok hb,by simp [ns0],by simp [ns0]⟩
def nrOkB (a b : List Vc) (rho steps : Int) : Bool:=nusB a && nusB b && fromB rho 0 2097152 && fromB steps 0 64
def nrRes (a b : List Vc) (rho steps : Int) : Int × NSt:=if nrOkB a b rho steps then nrRun a b rho steps.toNat (steps.toNat+1) (ns0 a b) else (0,⟨[],[],(0,0,0),0⟩)
abbrev encNr (x : Int × NSt) : PV:=.agg [Z x.1,Z x.2.n.1,Z x.2.n.2.1,Z x.2.n.2.2,zs x.2.w,zs x.2.v,Z x.2.r]
set_option maxHeartbeats 16000000 in
theorem d41 (a b : List Vc) (rho steps : Int) (ha : a.length≤9223372036854775807) (hb : b.length≤9223372036854775807) : DetH Tryz.prog 41 [.pv (vecs a),.pv (vecs b),.pv (Z rho),.pv (Z steps)] [] [] (.pv (encNr (nrRes a b rho steps))):=by
 have cua:=d75 a ha
 have cub:=d75 b hb
 have hB : nrOkB a b rho steps=(nusB a && nusB b && fromB rho 0 2097152 && fromB steps 0 64):=rfl
 have hR : nrRes a b rho steps=if nrOkB a b rho steps then nrRun a b rho steps.toNat (steps.toNat+1) (ns0 a b) else (0,⟨[],[],(0,0,0),0⟩):=rfl
 cases hua : nusB a with
 |false=>
  rw [hua] at cua hB
  simp only [Bool.false_and] at hB
  rw [hB] at hR
  simp only [Bool.false_eq_true,if_false] at hR
  rw [hR]
  refine detP_of Tryz.func41 rfl (by kernel_rfl) (by simp [Tryz.f41]) rfl ?_
  intro C hP hN
  simp only [Tryz.f41] at hN ⊢
  with_reducible repeat' (first|refine Sp.h ?_|((first|refine Ss.h ?_|refine Xc (cua) ?_|refine Xc (cub) ?_|(refine Xb ?_ ?_ ?_<;>(try intro hgd)<;>try (exfalso;simp at hgd;first|done|omega)))<;>simp -implicitDefEqProofs (maxSteps:=2000000) [hP,hN])|refine X2 ?_ ?_|(refine Xd ?_ ?_<;>intro hcd<;>(try (exfalso;clear hP hN;simp_all;done))<;>(try (exfalso;simp at *;omega))))
 |true=>
 cases hub : nusB b with
 |false=>
  rw [hua] at cua hB
  rw [hub] at cub hB
  simp only [Bool.and_false,Bool.false_and] at hB
  rw [hB] at hR
  simp only [Bool.false_eq_true,if_false] at hR
  rw [hR]
  refine detP_of Tryz.func41 rfl (by kernel_rfl) (by simp [Tryz.f41]) rfl ?_
  intro C hP hN
  simp only [Tryz.f41] at hN ⊢
  with_reducible repeat' (first|refine Sp.h ?_|((first|refine Ss.h ?_|refine Xc (cua) ?_|refine Xc (cub) ?_|(refine Xb ?_ ?_ ?_<;>(try intro hgd)<;>try (exfalso;simp at hgd;first|done|omega)))<;>simp -implicitDefEqProofs (maxSteps:=2000000) [hP,hN])|refine X2 ?_ ?_|(refine Xd ?_ ?_<;>intro hcd<;>(try (exfalso;clear hP hN;simp_all;done))<;>(try (exfalso;simp at *;omega))))
 |true=>
 rw [hua] at cua hB
 rw [hub] at cub hB
 simp only [Bool.and_self,Bool.true_and] at hB
 by_cases hg : rho < 0∨2097152 < rho∨steps < 0∨64 < steps
 ·have hf : (fromB rho 0 2097152 && fromB steps 0 64)=false:=by
   simp only [fromB]
   rcases hg with h|h|h|h
   ·rw [decide_eq_false (show ¬ 0≤rho by omega)];simp
   ·rw [decide_eq_false (show ¬ rho≤2097152 by omega)];simp
   ·rw [decide_eq_false (show ¬ 0≤steps by omega)];simp
   ·rw [decide_eq_false (show ¬ steps≤64 by omega)];simp
  rw [hf] at hB
  rw [hB] at hR
  simp only [Bool.false_eq_true,if_false] at hR
  rw [hR]
  rcases hg with h|h|h|h
  ·skip
   refine detP_of Tryz.func41 rfl (by kernel_rfl) (by simp [Tryz.f41]) rfl ?_
   intro C hP hN
   simp only [Tryz.f41] at hN ⊢
   with_reducible repeat' (first|refine Sp.h ?_|((first|refine Ss.h ?_|refine Xc (cua) ?_|refine Xc (cub) ?_|(refine Xb ?_ ?_ ?_<;>(try intro hgd)<;>try (exfalso;simp at hgd;first|done|omega)))<;>simp -implicitDefEqProofs (maxSteps:=2000000) [hP,hN,h])|refine X2 ?_ ?_|(refine Xd ?_ ?_<;>intro hcd<;>(try (exfalso;clear hP hN;simp_all;done))<;>(try (exfalso;simp at *;omega))))
  ·skip
   refine detP_of Tryz.func41 rfl (by kernel_rfl) (by simp [Tryz.f41]) rfl ?_
   intro C hP hN
   simp only [Tryz.f41] at hN ⊢
   with_reducible repeat' (first|refine Sp.h ?_|((first|refine Ss.h ?_|refine Xc (cua) ?_|refine Xc (cub) ?_|(refine Xb ?_ ?_ ?_<;>(try intro hgd)<;>try (exfalso;simp at hgd;first|done|omega)))<;>simp -implicitDefEqProofs (maxSteps:=2000000) [hP,hN,h])|refine X2 ?_ ?_|(refine Xd ?_ ?_<;>intro hcd<;>(try (exfalso;clear hP hN;simp_all;done))<;>(try (exfalso;simp at *;omega))))
  ·skip
   refine detP_of Tryz.func41 rfl (by kernel_rfl) (by simp [Tryz.f41]) rfl ?_
   intro C hP hN
   simp only [Tryz.f41] at hN ⊢
   with_reducible repeat' (first|refine Sp.h ?_|((first|refine Ss.h ?_|refine Xc (cua) ?_|refine Xc (cub) ?_|(refine Xb ?_ ?_ ?_<;>(try intro hgd)<;>try (exfalso;simp at hgd;first|done|omega)))<;>simp -implicitDefEqProofs (maxSteps:=2000000) [hP,hN,h])|refine X2 ?_ ?_|(refine Xd ?_ ?_<;>intro hcd<;>(try (exfalso;clear hP hN;simp_all;done))<;>(try (exfalso;simp at *;omega))))
  ·skip
   refine detP_of Tryz.func41 rfl (by kernel_rfl) (by simp [Tryz.f41]) rfl ?_
   intro C hP hN
   simp only [Tryz.f41] at hN ⊢
   with_reducible repeat' (first|refine Sp.h ?_|((first|refine Ss.h ?_|refine Xc (cua) ?_|refine Xc (cub) ?_|(refine Xb ?_ ?_ ?_<;>(try intro hgd)<;>try (exfalso;simp at hgd;first|done|omega)))<;>simp -implicitDefEqProofs (maxSteps:=2000000) [hP,hN,h])|refine X2 ?_ ?_|(refine Xd ?_ ?_<;>intro hcd<;>(try (exfalso;clear hP hN;simp_all;done))<;>(try (exfalso;simp at *;omega))))
 have hf : (fromB rho 0 2097152 && fromB steps 0 64)=true:=by
  simp only [fromB,Bool.and_eq_true,decide_eq_true_eq];omega
 rw [hf] at hB
 rw [hB] at hR
 simp only [if_true] at hR
 obtain ⟨m,hm⟩ : ∃ m : Nat,steps=m:=⟨steps.toNat,by omega⟩
 subst hm
 simp only [Int.toNat_natCast] at hR
 have ia:=nusB_iff.1 hua
 have ib:=nusB_iff.1 hub
 have c1:=sr76 a ia.1 ia.2.1
 have c2:=sr76 b ib.1 ib.2.1
 have hs0:=ns0_ok ia.1 ib.1
 have hend:=nrRun_ok (rho:=rho) (steps:=m) hua hub (m+1) (ns0 a b) hs0
 have hgr:=g77 a b rho m (ns0 a b) hua hub (by omega) (by omega) hs0 rfl
 generalize nrRun a b rho m (m+1) (ns0 a b)=RR at *
 rw [hR]
 have h1 : ¬ rho < 0:=by omega
 have h2 : ¬ 2097152 < rho:=by omega
 have h3 : ¬ (m : Int) < 0:=by omega
 have h4 : ¬ 64 < (m : Int):=by omega
 refine detP_of Tryz.func41 rfl (by kernel_rfl) (by simp [Tryz.f41]) rfl ?_
 intro C hP hN
 simp only [Tryz.f41] at hN ⊢
 with_reducible repeat' (first|refine Sp.h ?_|((refine WP.share (hn:=[]) (pre:=[_,_]) (post:=[_]) rfl rfl rfl ?_);simp -implicitDefEqProofs (maxSteps:=2000000) [hP,hN,h1,h2,h4])|((first|refine Ss.h ?_|refine Xc (cua) ?_|refine Xc (cub) ?_|refine Xc (c1) ?_|refine Xc (c2) ?_|(refine Xb ?_ ?_ ?_<;>(try intro hgd)<;>try (exfalso;simp at hgd;first|done|omega)))<;>simp -implicitDefEqProofs (maxSteps:=2000000) [hP,hN,h1,h2,h4])|refine X2 ?_ ?_|(refine Xd ?_ ?_<;>intro hcd<;>(try (exfalso;clear hP hN;simp_all;done))<;>(try (exfalso;simp at *;omega))))
 simp only [ShareK,hP]
 refine ⟨_,_,_,_,_,fun q=>if q=1000000 then 9 else if q=2000000 then 37 else 40,rfl,hgr,rfl,?_⟩
 refine ⟨by simp [renA,renA1],by simp [okG,okG1],by simp,by intro kb h;simp only [List.mem_cons,List.not_mem_nil,or_false] at h;rcases h with rfl|rfl|rfl<;>simp [renB,renA1,ownOf,ns0],by rw [hN];rfl,?_⟩
 simp -implicitDefEqProofs (maxSteps:=2000000) [hP,hN,shareW,renB,renA1,ownOf]
 have hwl:=hend.wl
 have hvl:=hend.vl
 with_reducible repeat' (first|refine Sp.h ?_|((first|refine Ss.h ?_|(refine Xb ?_ ?_ ?_<;>(try intro hgd)<;>try (exfalso;simp at hgd;first|done|omega)))<;>simp -implicitDefEqProofs (maxSteps:=2000000) [hP,hN,shareW,renB,renA1,ownOf,hwl,hvl])|refine X2 ?_ ?_|(refine Xd ?_ ?_<;>intro hcd<;>(try (exfalso;clear hP hN;simp_all;done))<;>(try (exfalso;simp at *;omega))))
end Go.Ab
namespace Go.Ab
open Go.Proofs
set_option maxRecDepth 100000 in
@[simp] theorem quiet72 : QuietFn Tryz.prog 72:=by
 refine ⟨by kernel_rfl,fun args w=>?_⟩
 refine callsD_of_wpS Tryz.func72 rfl fun c₀ cs hu=>?_
 apply wpS_seq
 apply wpS_region
 have hk : ∀ k,k < Tryz.f72.ntmps→k < args.size+(Tryz.f72.ntmps - args.size):=by intro k h;omega
 rw [Tryz.ntmps72] at hk
 have h0:=hk 0 (by decide)
 have h1:=hk 1 (by decide)
 have h2:=hk 2 (by decide)
 have h3:=hk 3 (by decide)
 simp [wpOpsS,go_sem,recoverD,hu,Tryz.ntmps72,Exit.thenS,h0,h1,h2,h3]
 refine wpS_cond (t:=false) (by simp [Act.eval,h0,h1,h2,h3]) ?_
 simp only [Bool.false_eq_true,if_false]
 refine wpS_of_wp (wp_skip ?_)
 cases c₀
 simp_all [bodyPostS,results,Tryz.results72]
set_option maxRecDepth 100000 in
@[simp] theorem quiet169 : QuietFn Tryz.prog 169:=by
 refine ⟨by kernel_rfl,fun args w=>?_⟩
 refine callsD_of_wpS Tryz.func169 rfl fun c₀ cs hu=>?_
 apply wpS_seq
 apply wpS_region
 have hk : ∀ k,k < Tryz.f169.ntmps→k < args.size+(Tryz.f169.ntmps - args.size):=by intro k h;omega
 rw [Tryz.ntmps169] at hk
 have h0:=hk 0 (by decide)
 have h1:=hk 1 (by decide)
 have h2:=hk 2 (by decide)
 have h3:=hk 3 (by decide)
 simp [wpOpsS,go_sem,recoverD,hu,Tryz.ntmps169,Exit.thenS,h0,h1,h2,h3]
 refine wpS_cond (t:=false) (by simp [Act.eval,h0,h1,h2,h3]) ?_
 simp only [Bool.false_eq_true,if_false]
 refine wpS_of_wp (wp_skip ?_)
 cases c₀
 simp_all [bodyPostS,results,Tryz.results169]
def sumVc (l : List Vc) : Nat→Vc
 |0=>(0,0,0)
 |i+1=>match l[i]? with
  |some p=>((sumVc l i).1+p.1,(sumVc l i).2.1+p.2.1,(sumVc l i).2.2+p.2.2)
  |none=>sumVc l i
theorem sumVc_rng {l : List Vc} (hl : l.all (nearV 268435456)=true) : ∀ i : Nat,smV ((i : Int) * 268435456) (sumVc l i)
 |0=>by simp [sumVc,smV]
 |i+1=>by
  obtain ⟨i1,i2,i3⟩:=sumVc_rng hl i
  simp only [sumVc]
  split
  ·rename_i p hp
   obtain ⟨a,b,c⟩:=near_sm (List.all_eq_true.1 hl p (List.mem_of_getElem? hp))
   exact ⟨⟨by simp only;omega,by simp only;omega⟩,⟨by simp only;omega,by simp only;omega⟩,⟨by simp only;omega,by simp only;omega⟩⟩
  ·exact ⟨⟨by omega,by omega⟩,⟨by omega,by omega⟩,⟨by omega,by omega⟩⟩
def addP3 (s p : Vc) (j : Nat) : List AV:=[.pv (Z (if 0 < j then s.1+p.1 else s.1)),.pv (Z (if 1 < j then s.2.1+p.2.1 else s.2.1)),.pv (Z (if 2 < j then s.2.2+p.2.2 else s.2.2))]
set_option maxHeartbeats 16000000 in
theorem d170 (l : List Vc) (h8 : l.length≤8) (hl : l.all (nearV 268435456)=true) : DetH Tryz.prog 170 [.pv (vecs l)] [] [] (.pv (encVec (sumVc l l.length))):=by
 refine detP_of Tryz.func170 rfl (by kernel_rfl) (by simp [Tryz.f170]) rfl ?_
 intro C hP hN
 simp only [Tryz.f170] at hN ⊢
 with_reducible repeat' (first|refine Sp.h ?_|((first|refine Ss.h ?_|(refine Xb ?_ ?_ ?_<;>(try intro hgd)<;>try (exfalso;simp at hgd;first|done|omega)))<;>simp -implicitDefEqProofs (maxSteps:=2000000) [hP,hN])|((first|refine Wd (hn:=[]) (by rw [hP];kernel_rfl) (by kernel_rfl) ?_|(refine Yb ?_ ?_ ?_<;>(try intro hgd)<;>try (exfalso;simp at hgd;first|done|omega)))<;>simp -implicitDefEqProofs (maxSteps:=2000000) [hP,hN]<;>(try refine ⟨by kernel_rfl,?_⟩))|refine X2 ?_ ?_|(refine Xd ?_ ?_<;>intro hcd<;>(try (exfalso;clear hP hN;simp_all;done))<;>(try (exfalso;simp at *;omega))))
 refine WP.loopN [5] l.length (fun i st=>st.t 2=.ptr 2 0∧st.h 2=some (.box [.pv (Z 0),.pv (Z 0),.pv (Z 0)] true false)∧st.t 3=.ptr 3 0∧st.h 3=some (.box [.pv (Z (sumVc l i).1),.pv (Z (sumVc l i).2.1),.pv (Z (sumVc l i).2.2)] true false)∧st.t 7=.pv (vecs l)∧st.t 8=.pv (Z l.length)∧st.t 9=.pv (Z i)∧st.h 5=none) (by simp [sumVc]) ?_
 rintro i st hi ⟨g2,hb2,g3,hb3,g7,g8,g9,hb5⟩
 by_cases hlt : i < l.length
 ·have hwr:=wr_succ hlt (by omega)
  generalize hxe : l[i]=p at *
  have hx : l[i]?=some p:=by rw [List.getElem?_eq_getElem hlt,hxe]
  have r1:=sumVc_rng hl (i+1)
  have hp:=near_sm (List.all_eq_true.1 hl p (List.mem_of_getElem? hx))
  have hS : sumVc l (i+1)=((sumVc l i).1+p.1,(sumVc l i).2.1+p.2.1,(sumVc l i).2.2+p.2.2):=by simp only [sumVc,hx]
  generalize sumVc l i=S at *
  generalize sumVc l (i+1)=S' at *
  subst hS
  obtain ⟨q1,q2,q3⟩:=r1
  simp only at q1 q2 q3
  have v1 : IntKind.i64.wrap (S.1+p.1)=S.1+p.1:=wr_id (by omega) (by omega)
  have v2 : IntKind.i64.wrap (S.2.1+p.2.1)=S.2.1+p.2.1:=wr_id (by omega) (by omega)
  have v3 : IntKind.i64.wrap (S.2.2+p.2.2)=S.2.2+p.2.2:=wr_id (by omega) (by omega)
  clear q1 q2 q3 hp
  have hbeg : [AV.pv (Z S.1),AV.pv (Z S.2.1),AV.pv (Z S.2.2)]=addP3 S p 0:=rfl
  rw [hbeg] at hb3
  with_reducible repeat' (first|refine Sp.h ?_|((first|refine Ss.h ?_|(refine Xb ?_ ?_ ?_<;>(try intro hgd)<;>try (exfalso;simp at hgd;first|done|omega)))<;>simp -implicitDefEqProofs (maxSteps:=2000000) [hP,hN,g2,hb2,g3,g7,g8,g9,hb5,hb3,hlt,hx,hxe])|((first|refine Wd (hn:=[]) (by rw [hP];kernel_rfl) (by kernel_rfl) ?_|(refine Yb ?_ ?_ ?_<;>(try intro hgd)<;>try (exfalso;simp at hgd;first|done|omega)))<;>simp -implicitDefEqProofs (maxSteps:=2000000) [hP,hN,g2,hb2,g3,g7,g8,g9,hb5,hb3,hlt,hx,hxe]<;>(try refine ⟨by kernel_rfl,?_⟩))|refine X2 ?_ ?_|(refine Xd ?_ ?_<;>intro hcd<;>(try (exfalso;clear hP hN;simp_all;done))<;>(try (exfalso;simp at *;omega))))
  refine WP.loopN [] 3 (fun j st=>st.t 2=.ptr 2 0∧st.h 2=some (.box [.pv (Z 0),.pv (Z 0),.pv (Z 0)] true false)∧st.t 3=.ptr 3 0∧st.h 3=some (.box (addP3 S p j) true false)∧st.t 5=.ptr 5 0∧st.h 5=some (.box [.pv (Z p.1),.pv (Z p.2.1),.pv (Z p.2.2)] true false)∧st.t 7=.pv (vecs l)∧st.t 8=.pv (Z l.length)∧st.t 9=.pv (Z i)∧st.t 13=.pv (Z j)) (by simp [g2,hb2,g3,g7,g8,g9,hb3,addP3]) ?_
  clear g2 hb2 g3 g7 g8 g9 hb3 hb5
  rintro j st hj ⟨g2,hb2,g3,hb3,g5,hb5,g7,g8,g9,g13⟩
  rcases fin3' hj with rfl|rfl|rfl|rfl
  all_goals (simp [addP3] at hb3 g13)
  ·skip
   with_reducible repeat' (first|refine Sp.h ?_|((first|refine Ss.h ?_|(refine Xb ?_ ?_ ?_<;>(try intro hgd)<;>try (exfalso;simp at hgd;first|done|omega)))<;>simp -implicitDefEqProofs (maxSteps:=2000000) [hP,hN,g2,hb2,g3,hb3,g5,hb5,g7,g8,g9,g13,v1,addP3])|((first|refine Wd (hn:=[]) (by rw [hP];kernel_rfl) (by kernel_rfl) ?_|(refine Yb ?_ ?_ ?_<;>(try intro hgd)<;>try (exfalso;simp at hgd;first|done|omega)))<;>simp -implicitDefEqProofs (maxSteps:=2000000) [hP,hN,g2,hb2,g3,hb3,g5,hb5,g7,g8,g9,g13,v1,addP3]<;>(try refine ⟨by kernel_rfl,?_⟩))|refine X2 ?_ ?_|(refine Xd ?_ ?_<;>intro hcd<;>(try (exfalso;clear hP hN;simp_all;done))<;>(try (exfalso;simp at *;omega))))
  ·skip
   with_reducible repeat' (first|refine Sp.h ?_|((first|refine Ss.h ?_|(refine Xb ?_ ?_ ?_<;>(try intro hgd)<;>try (exfalso;simp at hgd;first|done|omega)))<;>simp -implicitDefEqProofs (maxSteps:=2000000) [hP,hN,g2,hb2,g3,hb3,g5,hb5,g7,g8,g9,g13,v2,addP3])|((first|refine Wd (hn:=[]) (by rw [hP];kernel_rfl) (by kernel_rfl) ?_|(refine Yb ?_ ?_ ?_<;>(try intro hgd)<;>try (exfalso;simp at hgd;first|done|omega)))<;>simp -implicitDefEqProofs (maxSteps:=2000000) [hP,hN,g2,hb2,g3,hb3,g5,hb5,g7,g8,g9,g13,v2,addP3]<;>(try refine ⟨by kernel_rfl,?_⟩))|refine X2 ?_ ?_|(refine Xd ?_ ?_<;>intro hcd<;>(try (exfalso;clear hP hN;simp_all;done))<;>(try (exfalso;simp at *;omega))))
  ·skip
   with_reducible repeat' (first|refine Sp.h ?_|((first|refine Ss.h ?_|(refine Xb ?_ ?_ ?_<;>(try intro hgd)<;>try (exfalso;simp at hgd;first|done|omega)))<;>simp -implicitDefEqProofs (maxSteps:=2000000) [hP,hN,g2,hb2,g3,hb3,g5,hb5,g7,g8,g9,g13,v3,addP3])|((first|refine Wd (hn:=[]) (by rw [hP];kernel_rfl) (by kernel_rfl) ?_|(refine Yb ?_ ?_ ?_<;>(try intro hgd)<;>try (exfalso;simp at hgd;first|done|omega)))<;>simp -implicitDefEqProofs (maxSteps:=2000000) [hP,hN,g2,hb2,g3,hb3,g5,hb5,g7,g8,g9,g13,v3,addP3]<;>(try refine ⟨by kernel_rfl,?_⟩))|refine X2 ?_ ?_|(refine Xd ?_ ?_<;>intro hcd<;>(try (exfalso;clear hP hN;simp_all;done))<;>(try (exfalso;simp at *;omega))))
  ·skip
   with_reducible repeat' (first|refine Sp.h ?_|((first|refine Ss.h ?_|(refine Xb ?_ ?_ ?_<;>(try intro hgd)<;>try (exfalso;simp at hgd;first|done|omega)))<;>simp -implicitDefEqProofs (maxSteps:=2000000) [hP,hN,g2,hb2,g3,hb3,g5,hb5,g7,g8,g9,g13,hlt,hwr,addP3])|((first|refine Wd (hn:=[]) (by rw [hP];kernel_rfl) (by kernel_rfl) ?_|(refine Yb ?_ ?_ ?_<;>(try intro hgd)<;>try (exfalso;simp at hgd;first|done|omega)))<;>simp -implicitDefEqProofs (maxSteps:=2000000) [hP,hN,g2,hb2,g3,hb3,g5,hb5,g7,g8,g9,g13,hlt,hwr,addP3]<;>(try refine ⟨by kernel_rfl,?_⟩))|refine X2 ?_ ?_|(refine Xd ?_ ?_<;>intro hcd<;>(try (exfalso;clear hP hN;simp_all;done))<;>(try (exfalso;simp at *;omega))))
 ·have hin : i=l.length:=by omega
  subst hin
  with_reducible repeat' (first|refine Sp.h ?_|((first|refine Ss.h ?_|(refine Xb ?_ ?_ ?_<;>(try intro hgd)<;>try (exfalso;simp at hgd;first|done|omega)))<;>simp -implicitDefEqProofs (maxSteps:=2000000) [hP,hN,g2,hb2,g3,hb3,g7,g8,g9])|((first|refine Wd (hn:=[]) (by rw [hP];kernel_rfl) (by kernel_rfl) ?_|(refine Yb ?_ ?_ ?_<;>(try intro hgd)<;>try (exfalso;simp at hgd;first|done|omega)))<;>simp -implicitDefEqProofs (maxSteps:=2000000) [hP,hN,g2,hb2,g3,hb3,g7,g8,g9]<;>(try refine ⟨by kernel_rfl,?_⟩))|refine X2 ?_ ?_|(refine Xd ?_ ?_<;>intro hcd<;>(try (exfalso;clear hP hN;simp_all;done))<;>(try (exfalso;simp at *;omega))))
abbrev axesL : List Vc:=[(1,0,0),(-1,0,0),(0,1,0),(0,-1,0),(0,0,1),(0,0,-1)]
theorem d121 : DetH Tryz.prog 121 [] [] [] (.pv (vecs axesL)):=by
 refine detP_of Tryz.func121 rfl (by kernel_rfl) (by simp [Tryz.f121]) rfl ?_
 intro C hP hN
 simp only [Tryz.f121] at hN ⊢
 with_reducible repeat' (first|refine Sp.h ?_|((first|refine Ss.h ?_|(refine Xb ?_ ?_ ?_<;>(try intro hgd)<;>try (exfalso;simp at hgd;first|done|omega)))<;>simp -implicitDefEqProofs (maxSteps:=2000000) [hP,hN])|refine X2 ?_ ?_|(refine Xd ?_ ?_<;>intro hcd<;>(try (exfalso;clear hP hN;simp_all;done))<;>(try (exfalso;simp at *;omega))))
theorem centers_near {l : List IVc} : (centers l).all (nearV 268435456)=true:=by
 unfold centers
 split
 ·rename_i h
  have hp:=(placedB_all h).1
  rw [List.all_eq_true] at hp ⊢
  intro x hx
  obtain ⟨v,hv,rfl⟩:=List.mem_map.1 hx
  have h1:=hp v hv
  rw [placedV_iff] at h1
  obtain ⟨a,b,c⟩:=h1
  have hm : ∀ x : Iv,placedI x=true→inB (midW x) 268435456=true:=fun x hx=>by
   rw [placedI_iff] at hx
   rw [inB_iff]
   unfold midW
   split<;>omega
  rw [nearV_iff]
  exact ⟨hm _ a,hm _ b,hm _ c⟩
 ·rfl
theorem centers_len {l : List IVc} (h : placedB l=true) : (centers l).length=l.length:=by simp [centers,h]
def meanV (a b : List IVc) : Vc:=((sumVc (centers a) a.length).1 * b.length - (sumVc (centers b) b.length).1 * a.length,(sumVc (centers a) a.length).2.1 * b.length - (sumVc (centers b) b.length).2.1 * a.length,(sumVc (centers a) a.length).2.2 * b.length - (sumVc (centers b) b.length).2.2 * a.length)
def meanN (a b : List IVc) : Vc:=if placedB a && placedB b then normalV (meanV a b) else (0,0,0)
def meanB (a b : List IVc) : Bool:=placedB a && placedB b && nz (normalV (meanV a b))
theorem sum8 {l : List IVc} (h : placedB l=true) : smV 2147483648 (sumVc (centers l) l.length):=by
 have h1:=sumVc_rng (centers_near (l:=l)) l.length
 have h2:=(placedB_all h).2.1
 exact sm_to h1 (by omega)
theorem mean_sm {a b : List IVc} (ha : placedB a=true) (hb : placedB b=true) : smV 1099511627776 (meanV a b):=by
 obtain ⟨s1,s2,s3⟩:=sum8 ha
 obtain ⟨t1,t2,t3⟩:=sum8 hb
 have h2:=(placedB_all ha).2.1
 have h3:=(placedB_all hb).2.1
 have e : ∀ x : Int,-2147483648≤x∧x≤2147483648→∀ n : Nat,n≤8→-17179869184≤x * n∧x * n≤17179869184:=fun x hx n hn=>by
  have:=mul_rng (a:=x) (b:=(n : Int)) 2147483648 8 (by omega) (by omega) (by omega) (by omega)
  omega
 have a1:=e _ s1 _ h3
 have a2:=e _ s2 _ h3
 have a3:=e _ s3 _ h3
 have b1:=e _ t1 _ h2
 have b2:=e _ t2 _ h2
 have b3:=e _ t3 _ h2
 unfold meanV
 exact ⟨by simp only;omega,by simp only;omega,by simp only;omega⟩
def meK (v : Vc) (j : Nat) : List AV:=[.pv (Z (if 0 < j then v.1 else 0)),.pv (Z (if 1 < j then v.2.1 else 0)),.pv (Z (if 2 < j then v.2.2 else 0))]
set_option maxHeartbeats 16000000 in
theorem d120 (a b : List IVc) (ha : a.length≤9223372036854775807) (hb : b.length≤9223372036854775807) : DetH Tryz.prog 120 [.pv (ivcs a),.pv (ivcs b)] [] [] (.pv (.tup [encVec (meanN a b),B (meanB a b)])):=by
 have ca:=d78 a ha
 have cb:=d78 b hb
 have hN : meanN a b=if placedB a && placedB b then normalV (meanV a b) else (0,0,0):=rfl
 have hM : meanB a b=(placedB a && placedB b && nz (normalV (meanV a b))):=rfl
 rw [hN,hM]
 cases hpa : placedB a with
 |false=>
  rw [hpa] at ca
  refine detP_of Tryz.func120 rfl (by kernel_rfl) (by simp [Tryz.f120]) rfl ?_
  intro C hP hN
  simp only [Tryz.f120] at hN ⊢
  with_reducible repeat' (first|refine Sp.h ?_|((first|refine Ss.h ?_|refine Xc (ca) ?_|refine Xc (cb) ?_|(refine Xb ?_ ?_ ?_<;>(try intro hgd)<;>try (exfalso;simp at hgd;first|done|omega)))<;>simp -implicitDefEqProofs (maxSteps:=2000000) [hP,hN])|((first|refine Wd (hn:=[]) (by rw [hP];kernel_rfl) (by kernel_rfl) ?_|refine Yc (ca) ?_|refine Yc (cb) ?_|(refine Yb ?_ ?_ ?_<;>(try intro hgd)<;>try (exfalso;simp at hgd;first|done|omega)))<;>simp -implicitDefEqProofs (maxSteps:=2000000) [hP,hN]<;>(try refine ⟨by kernel_rfl,?_⟩))|refine X2 ?_ ?_|(refine Xd ?_ ?_<;>intro hcd<;>(try (exfalso;clear hP hN;simp_all;done))<;>(try (exfalso;simp at *;omega))))
 |true=>
 rw [hpa] at ca
 cases hpb : placedB b with
 |false=>
  rw [hpb] at cb
  refine detP_of Tryz.func120 rfl (by kernel_rfl) (by simp [Tryz.f120]) rfl ?_
  intro C hP hN
  simp only [Tryz.f120] at hN ⊢
  with_reducible repeat' (first|refine Sp.h ?_|((first|refine Ss.h ?_|refine Xc (ca) ?_|refine Xc (cb) ?_|(refine Xb ?_ ?_ ?_<;>(try intro hgd)<;>try (exfalso;simp at hgd;first|done|omega)))<;>simp -implicitDefEqProofs (maxSteps:=2000000) [hP,hN])|((first|refine Wd (hn:=[]) (by rw [hP];kernel_rfl) (by kernel_rfl) ?_|refine Yc (ca) ?_|refine Yc (cb) ?_|(refine Yb ?_ ?_ ?_<;>(try intro hgd)<;>try (exfalso;simp at hgd;first|done|omega)))<;>simp -implicitDefEqProofs (maxSteps:=2000000) [hP,hN]<;>(try refine ⟨by kernel_rfl,?_⟩))|refine X2 ?_ ?_|(refine Xd ?_ ?_<;>intro hcd<;>(try (exfalso;clear hP hN;simp_all;done))<;>(try (exfalso;simp at *;omega))))
 |true=>
 rw [hpb] at cb
 have c1:=d42 a ha
 have c2:=d42 b hb
 have c3:=d170 (centers a) (by rw [centers_len hpa];exact (placedB_all hpa).2.1) centers_near
 have c4:=d170 (centers b) (by rw [centers_len hpb];exact (placedB_all hpb).2.1) centers_near
 rw [centers_len hpa] at c3
 rw [centers_len hpb] at c4
 have hms:=mean_sm hpa hpb
 have c5:=d126 (meanV a b) hms
 obtain ⟨s1,s2,s3⟩:=sum8 hpa
 obtain ⟨t1,t2,t3⟩:=sum8 hpb
 have h2:=(placedB_all hpa).2.1
 have h3:=(placedB_all hpb).2.1
 have hmv : meanV a b=((sumVc (centers a) a.length).1 * b.length - (sumVc (centers b) b.length).1 * a.length,(sumVc (centers a) a.length).2.1 * b.length - (sumVc (centers b) b.length).2.1 * a.length,(sumVc (centers a) a.length).2.2 * b.length - (sumVc (centers b) b.length).2.2 * a.length):=rfl
 simp only [Bool.and_self,if_true,Bool.true_and]
 have e : ∀ x : Int,-2147483648≤x∧x≤2147483648→∀ n : Nat,n≤8→-17179869184≤x * n∧x * n≤17179869184:=fun x hx n hn=>by
  have:=mul_rng (a:=x) (b:=(n : Int)) 2147483648 8 (by omega) (by omega) (by omega) (by omega)
  omega
 generalize sumVc (centers a) a.length=S at *
 generalize sumVc (centers b) b.length=T at *
 generalize meanV a b=V at *
 have f1:=e _ s1 _ h3
 have f2:=e _ s2 _ h3
 have f3:=e _ s3 _ h3
 have k1:=e _ t1 _ h2
 have k2:=e _ t2 _ h2
 have k3:=e _ t3 _ h2
 clear e
 have V1 : S.1 * b.length - T.1 * a.length=V.1:=by rw [hmv]
 have V2 : S.2.1 * b.length - T.2.1 * a.length=V.2.1:=by rw [hmv]
 have V3 : S.2.2 * b.length - T.2.2 * a.length=V.2.2:=by rw [hmv]
 clear hmv
 have m01 : IntKind.i64.wrap (S.1 * b.length)=S.1 * b.length:=wr_id (by omega) (by omega)
 have m02 : IntKind.i64.wrap (T.1 * a.length)=T.1 * a.length:=wr_id (by omega) (by omega)
 have w0 : IntKind.i64.wrap (S.1 * b.length - T.1 * a.length)=V.1:=(wr_id (by omega) (by omega)).trans V1
 have m11 : IntKind.i64.wrap (S.2.1 * b.length)=S.2.1 * b.length:=wr_id (by omega) (by omega)
 have m12 : IntKind.i64.wrap (T.2.1 * a.length)=T.2.1 * a.length:=wr_id (by omega) (by omega)
 have w1 : IntKind.i64.wrap (S.2.1 * b.length - T.2.1 * a.length)=V.2.1:=(wr_id (by omega) (by omega)).trans V2
 have m21 : IntKind.i64.wrap (S.2.2 * b.length)=S.2.2 * b.length:=wr_id (by omega) (by omega)
 have m22 : IntKind.i64.wrap (T.2.2 * a.length)=T.2.2 * a.length:=wr_id (by omega) (by omega)
 have w2 : IntKind.i64.wrap (S.2.2 * b.length - T.2.2 * a.length)=V.2.2:=(wr_id (by omega) (by omega)).trans V3
 generalize normalV V=n at *
 have wa : IntKind.i64.wrap (a.length : Int)=(a.length : Int):=wr_id (by omega) (by omega)
 have wb : IntKind.i64.wrap (b.length : Int)=(b.length : Int):=wr_id (by omega) (by omega)
 refine detP_of Tryz.func120 rfl (by kernel_rfl) (by simp [Tryz.f120]) rfl ?_
 intro C hP hN
 simp only [Tryz.f120] at hN ⊢
 with_reducible repeat' (first|refine Sp.h ?_|((first|refine Ss.h ?_|refine Xc (ca) ?_|refine Xc (cb) ?_|refine Xc (c1) ?_|refine Xc (c2) ?_|refine Xc (c3) ?_|refine Xc (c4) ?_|(refine Xb ?_ ?_ ?_<;>(try intro hgd)<;>try (exfalso;simp at hgd;first|done|omega)))<;>simp -implicitDefEqProofs (maxSteps:=2000000) [hP,hN])|((first|refine Wd (hn:=[]) (by rw [hP];kernel_rfl) (by kernel_rfl) ?_|refine Yc (ca) ?_|refine Yc (cb) ?_|refine Yc (c1) ?_|refine Yc (c2) ?_|refine Yc (c3) ?_|refine Yc (c4) ?_|(refine Yb ?_ ?_ ?_<;>(try intro hgd)<;>try (exfalso;simp at hgd;first|done|omega)))<;>simp -implicitDefEqProofs (maxSteps:=2000000) [hP,hN]<;>(try refine ⟨by kernel_rfl,?_⟩))|refine X2 ?_ ?_|(refine Xd ?_ ?_<;>intro hcd<;>(try (exfalso;clear hP hN;simp_all;done))<;>(try (exfalso;simp at *;omega))))
 refine WP.loopN [] 3 (fun k st=>st.t 0=.pv (ivcs a)∧st.t 1=.pv (ivcs b)∧st.t 4=.ptr 4 0∧st.h 4=some (.box [.pv (Z 0),.pv (Z 0),.pv (Z 0)] true false)∧st.t 5=.ptr 5 0∧st.h 5=some (.box [.pv (B false)] true false)∧st.t 6=.ptr 6 0∧st.h 6=some (.box [.pv (Z S.1),.pv (Z S.2.1),.pv (Z S.2.2)] true false)∧st.t 7=.ptr 7 0∧st.h 7=some (.box [.pv (Z T.1),.pv (Z T.2.1),.pv (Z T.2.2)] true false)∧st.t 8=.ptr 8 0∧st.h 8=some (.box (meK V k) true false)∧st.t 26=.pv (Z k)) (by simp [meK]) ?_
 rintro k st hk ⟨g0,g1,g4,hb4,g5,hb5,g6,hb6,g7,hb7,g8,hb8,g26⟩
 rcases fin3' hk with rfl|rfl|rfl|rfl
 all_goals (simp [meK] at hb8 g26)
 ·skip
  with_reducible repeat' (first|refine Sp.h ?_|((first|refine Ss.h ?_|(refine Xb ?_ ?_ ?_<;>(try intro hgd)<;>try (exfalso;simp at hgd;first|done|omega)))<;>simp -implicitDefEqProofs (maxSteps:=2000000) [hP,hN,g6,hb6,g7,hb7,g8,hb8,g0,g1,g4,g5,hb4,hb5,g26,m01,m02,w0,wa,wb,meK])|((first|refine Wd (hn:=[]) (by rw [hP];kernel_rfl) (by kernel_rfl) ?_|(refine Yb ?_ ?_ ?_<;>(try intro hgd)<;>try (exfalso;simp at hgd;first|done|omega)))<;>simp -implicitDefEqProofs (maxSteps:=2000000) [hP,hN,g6,hb6,g7,hb7,g8,hb8,g0,g1,g4,g5,hb4,hb5,g26,m01,m02,w0,wa,wb,meK]<;>(try refine ⟨by kernel_rfl,?_⟩))|refine X2 ?_ ?_|(refine Xd ?_ ?_<;>intro hcd<;>(try (exfalso;clear hP hN;simp_all;done))<;>(try (exfalso;simp at *;omega))))
 ·skip
  with_reducible repeat' (first|refine Sp.h ?_|((first|refine Ss.h ?_|(refine Xb ?_ ?_ ?_<;>(try intro hgd)<;>try (exfalso;simp at hgd;first|done|omega)))<;>simp -implicitDefEqProofs (maxSteps:=2000000) [hP,hN,g6,hb6,g7,hb7,g8,hb8,g0,g1,g4,g5,hb4,hb5,g26,m11,m12,w1,wa,wb,meK])|((first|refine Wd (hn:=[]) (by rw [hP];kernel_rfl) (by kernel_rfl) ?_|(refine Yb ?_ ?_ ?_<;>(try intro hgd)<;>try (exfalso;simp at hgd;first|done|omega)))<;>simp -implicitDefEqProofs (maxSteps:=2000000) [hP,hN,g6,hb6,g7,hb7,g8,hb8,g0,g1,g4,g5,hb4,hb5,g26,m11,m12,w1,wa,wb,meK]<;>(try refine ⟨by kernel_rfl,?_⟩))|refine X2 ?_ ?_|(refine Xd ?_ ?_<;>intro hcd<;>(try (exfalso;clear hP hN;simp_all;done))<;>(try (exfalso;simp at *;omega))))
 ·skip
  with_reducible repeat' (first|refine Sp.h ?_|((first|refine Ss.h ?_|(refine Xb ?_ ?_ ?_<;>(try intro hgd)<;>try (exfalso;simp at hgd;first|done|omega)))<;>simp -implicitDefEqProofs (maxSteps:=2000000) [hP,hN,g6,hb6,g7,hb7,g8,hb8,g0,g1,g4,g5,hb4,hb5,g26,m21,m22,w2,wa,wb,meK])|((first|refine Wd (hn:=[]) (by rw [hP];kernel_rfl) (by kernel_rfl) ?_|(refine Yb ?_ ?_ ?_<;>(try intro hgd)<;>try (exfalso;simp at hgd;first|done|omega)))<;>simp -implicitDefEqProofs (maxSteps:=2000000) [hP,hN,g6,hb6,g7,hb7,g8,hb8,g0,g1,g4,g5,hb4,hb5,g26,m21,m22,w2,wa,wb,meK]<;>(try refine ⟨by kernel_rfl,?_⟩))|refine X2 ?_ ?_|(refine Xd ?_ ?_<;>intro hcd<;>(try (exfalso;clear hP hN;simp_all;done))<;>(try (exfalso;simp at *;omega))))
 ·skip
  with_reducible repeat' (first|refine Sp.h ?_|((first|refine Ss.h ?_|refine Xc (c5) ?_|(refine Xb ?_ ?_ ?_<;>(try intro hgd)<;>try (exfalso;simp at hgd;first|done|omega)))<;>simp -implicitDefEqProofs (maxSteps:=2000000) [hP,hN,g6,hb6,g7,hb7,g8,hb8,g0,g1,g4,g5,hb4,hb5,g26])|((first|refine Wd (hn:=[]) (by rw [hP];kernel_rfl) (by kernel_rfl) ?_|refine Yc (c5) ?_|(refine Yb ?_ ?_ ?_<;>(try intro hgd)<;>try (exfalso;simp at hgd;first|done|omega)))<;>simp -implicitDefEqProofs (maxSteps:=2000000) [hP,hN,g6,hb6,g7,hb7,g8,hb8,g0,g1,g4,g5,hb4,hb5,g26]<;>(try refine ⟨by kernel_rfl,?_⟩))|refine X2 ?_ ?_|(refine Xd ?_ ?_<;>intro hcd<;>(try (exfalso;clear hP hN;simp_all;done))<;>(try (exfalso;simp at *;omega))))
end Go.Ab
