/- The contracts and facts that the laws of this seat need, in one text (Ab29, Cs1, Sm5, Cs2, Ab34, Cs3, Cs4, Cs5, KV, Cs0, Cu7, Cu8, Cu9, Cu10, Cu11, Cu12, Cu13, Cs6). -/
import Derived.Test.YtkpmahdfgfeknaaW5
set_option linter.all false
set_option maxHeartbeats 16000000
namespace Go.Ab
def i0 (ren : Nat→Nat) : AV→AV
 |.ptr k off=>.ptr (ren k) off
 |.arr k n=>.arr (ren k) n
 |x=>x
def sA (ren : Nat→Nat) : AV→AV
 |.agg cs=>.agg (cs.map (i0 ren))
 |x=>i0 ren x
def jq (K : List Nat) : AV→Bool
 |.pv _=>true
 |.ptr k _=>K.contains k
 |.arr k _=>K.contains k
 |_=>false
def wz (K : List Nat) : AV→Bool
 |.agg cs=>cs.all (jq K)
 |x=>jq K x
def aZ : List (Nat × Blk)→Hp
 |[]=>fun _=>none
 |(k,b) :: r=>fun q=>if q=k then some b else aZ r q
def eD (ren : Nat→Nat) (own : Bool) : Blk→Blk
 |.box cs _ _=>.box (cs.map (i0 ren)) own false
 |b=>b
def eo (K : List Nat) (k : Nat) : Blk→Bool
 |.box cs own fz=>cs.all (jq K) && !own && !fz && decide (1000000≤k) && decide (k < 2000000)
 |.row _ _ _ fz=>decide (fz=0) && decide (2000000≤k)
 |.mp _ _ _ _=>false
def np : Blk→Blk→Bool
 |.box _ _ _,.box _ _ _=>true
 |.row e sz xs _,.row e' sz' xs' _=>e==e' && sz==sz' && xs.length==xs'.length
 |_,_=>false
theorem cy {G : List (Nat × Blk)} {k : Nat} {b : Blk} (h : aZ G k=some b) : (k,b) ∈ G:=by
 induction G with
 |nil=>cases h
 |cons x r ih=>
  obtain ⟨k',b'⟩:=x
  simp only [aZ] at h
  split at h
  ·rename_i e;injection h with h;subst e;subst h;exact List.mem_cons_self
  ·exact List.mem_cons_of_mem _ (ih h)
theorem eE {G : List (Nat × Blk)} (hn : (G.map (·.1)).Nodup) {k : Nat} {b : Blk} (h : (k,b) ∈ G) : aZ G k=some b:=by
 induction G with
 |nil=>cases h
 |cons x r ih=>
  obtain ⟨k',b'⟩:=x
  simp only [aZ]
  rw [List.map_cons,List.nodup_cons] at hn
  rcases List.mem_cons.1 h with e|e
  ·injection e with e1 e2;subst e1;subst e2;rw [if_pos rfl]
  ·have hne : k≠k':=by
    rintro rfl
    exact hn.1 (List.mem_map.2 ⟨(k,b),e,rfl⟩)
   rw [if_neg hne];exact ih hn.2 e
section
variable {w : World} {M M' : Nat→Nat→Prop} {L L' : Nat→Loc} {h h' : Hp} {ren : Nat→Nat} {K : List Nat}
theorem jR (hM : ∀ b o,M' b o→M b o) (hk : ∀ k ∈ K,∀ ap,h (ren k)=some ap→∃ blk',h' k=some blk'∧dF ap (L (ren k)) blk' (L' k)) {x : AV} {u : Value} (ho : jq K x=true) (hx : RepA w M L h (i0 ren x) u) : RepA w M' L' h' x u:=by
 cases x with
 |pv p=>cases hx with
  |pv hr=>exact .pv (hr.mono (Pres.sub hM))
 |ptr k off=>
  cases hx with
  |ptr hb=>
   obtain ⟨blk',h1,h2⟩:=hk k (by simpa [jq] using ho) _ hb
   cases blk' with
   |row=>exact h2.elim
   |mp=>exact h2.elim
   |box cs own fz=>
    have h2 : (L' k).b=(L (ren k)).b:=h2
    rw [← h2];exact .ptr h1
 |arr k n=>
  cases hx with
  |arr hb hn hu=>
   obtain ⟨blk',h1,h2⟩:=hk k (by simpa [jq] using ho) _ hb
   cases blk' with
   |box=>exact h2.elim
   |mp=>exact h2.elim
   |row e sz xs fz=>
    obtain ⟨_,_,a2,a3⟩:=h2
    refine .arr h1 (by omega) (fun e=>?_)
    have : xs.length=_:=Nat.le_antisymm (by omega) a2
    rw [a3 this];exact hu (by omega)
 |_=>cases ho
theorem ua (hM : ∀ b o,M' b o→M b o) (hk : ∀ k ∈ K,∀ ap,h (ren k)=some ap→∃ blk',h' k=some blk'∧dF ap (L (ren k)) blk' (L' k)) {x : AV} {u : Value} (ho : wz K x=true) (hx : RepA w M L h (sA ren x) u) : RepA w M' L' h' x u:=by
 cases x with
 |agg cs=>
  cases hx with
  |agg _ vs hl hh=>
   refine .agg cs vs (by simpa using hl) (fun i p u hp hu=>?_)
   exact jR hM hk (List.all_eq_true.1 ho p (List.mem_of_getElem? hp)) (hh i _ u (by simp [hp]) hu)
 |_=>exact jR hM hk ho hx
theorem sC (hM : ∀ b o,M' b o→M b o) (hk : ∀ k ∈ K,∀ ap,h' k=some ap→∃ blk',h (ren k)=some blk'∧dF ap (L' k) blk' (L (ren k))) {x : AV} {u : Value} (ho : jq K x=true) (hx : RepA w M L' h' x u) : RepA w M' L h (i0 ren x) u:=by
 cases x with
 |pv p=>cases hx with
  |pv hr=>exact .pv (hr.mono (Pres.sub hM))
 |ptr k off=>
  cases hx with
  |ptr hb=>
   obtain ⟨blk',h1,h2⟩:=hk k (by simpa [jq] using ho) _ hb
   cases blk' with
   |row=>exact h2.elim
   |mp=>exact h2.elim
   |box cs own fz=>
    have h2 : (L (ren k)).b=(L' k).b:=h2
    rw [← h2];exact .ptr h1
 |arr k n=>
  cases hx with
  |arr hb hn hu=>
   obtain ⟨blk',h1,h2⟩:=hk k (by simpa [jq] using ho) _ hb
   cases blk' with
   |box=>exact h2.elim
   |mp=>exact h2.elim
   |row e sz xs fz=>
    obtain ⟨_,_,a2,a3⟩:=h2
    refine .arr h1 (by omega) (fun e=>?_)
    have : xs.length=_:=Nat.le_antisymm (by omega) a2
    rw [a3 this];exact hu (by omega)
 |_=>cases ho
end
def qu (G : List (Nat × Blk)) (L : Nat→Loc) (b : Nat) : Prop:=∃ k ap,aZ G k=some ap∧ap.live (L k)∧b=(L k).b
structure OkG (G G' : List (Nat × Blk)) : Prop where
 keys : G'.map (·.1)=G.map (·.1)
 nodup : (G.map (·.1)).Nodup
 okin : ∀ k b,(k,b) ∈ G→eo (G.map (·.1)) k b=true
 okout : ∀ k b,(k,b) ∈ G'→eo (G.map (·.1)) k b=true
 same : ∀ k b b',aZ G k=some b→aZ G' k=some b'→np b b'=true
def ub (P : Program) (f : FuncId) (args : List AV) (G G' : List (Nat × Blk)) (res : PV) : Prop:=
 bT P f=true∧OkG G G'∧∀ (w : World) (M : Nat→Nat→Prop) (L : Nat→Loc) (vs : List Value),(∀ b o,M b o→b < w.heap.size)→
  (∀ k ap,aZ G k=some ap→ap.live (L k)→∀ o,M (L k).b o)→
  (∀ k k' ap blk',k≠k'→aZ G k=some ap→aZ G k'=some blk'→ap.live (L k)→blk'.live (L k')→(L k).b≠(L k').b)→
  (∀ k ap,aZ G k=some ap→dt w M L (aZ G) (L k) ap)→ai w M L (aZ G) args vs→
  Calls P f vs.toArray w fun e w'=>∃ v,e=.returned v∧Ext (qu G L) w w'∧(∀ k ap,aZ G' k=some ap→dt w' M L (aZ G') (L k) ap)∧Rep w' M res v
def xM (args : List AV) (G : List (Nat × Blk)) : St:=⟨fun n=>(args[n]?).getD .undef,aZ G⟩
def qF (P : Program) (rs : List ResultVar) (G' : List (Nat × Blk)) (res : PV) (st : St) : Prop:=
 lS res=true∧(∃ r,k9 P st rs=some r∧∃ W,frz st.h r=some (res,W))∧∀ kb ∈ G',st.h kb.1=some kb.2
def uz (P : Program) (rs : List ResultVar) (G' : List (Nat × Blk)) (res : PV) : Exit→St→Prop
 |.normal,st=>qF P rs G' res st
 |.ret,st=>qF P rs G' res st
 |_,_=>False
@[simp] theorem yp {P : Program} {rs : List ResultVar} {G' : List (Nat × Blk)} {res : PV} {st : St} : uz P rs G' res .normal st=qF P rs G' res st:=rfl
@[simp] theorem zk {P : Program} {rs : List ResultVar} {G' : List (Nat × Blk)} {res : PV} {st : St} : uz P rs G' res .ret st=qF P rs G' res st:=rfl
theorem wJ {P : Program} {f : FuncId} {fn : Func} {c : Code} (hf : P.funcs[f]?=some fn) (hb : fn.body=some c) (hcall : bT P f=true) {args : List AV} {G G' : List (Nat × Blk)} {res : PV} (hlen : args.length≤fn.ntmps) (hok : OkG G G')
 (h : ∀ C : Cx,C.P=P→C.N=fn.ntmps→WP C c (uz P fn.results.toList G' res) (xM args G)) : ub P f args G G' res:=by
 refine ⟨hcall,hok,fun w M L vs hM hlv hsep hbl hvs=>?_⟩
 have okin : ∀ {k ap},aZ G k=some ap→eo (G.map (·.1)) k ap=true:=fun hk=>hok.okin _ _ (cy hk)
 have okout : ∀ {k ap},aZ G' k=some ap→eo (G.map (·.1)) k ap=true:=fun hk=>hok.okout _ _ (cy hk)
 have hnd' : (G'.map (·.1)).Nodup:=by rw [hok.keys];exact hok.nodup
 have hinout : ∀ {k ap},aZ G k=some ap→∃ blk',aZ G' k=some blk':=by
  intro k ap hk
  have hm : k ∈ G'.map (·.1):=by rw [hok.keys];exact List.mem_map.2 ⟨_,cy hk,rfl⟩
  obtain ⟨⟨k',b'⟩,h1,h2⟩:=List.mem_map.1 hm
  simp only at h2;subst h2
  exact ⟨b',eE hnd' h1⟩
 have houtin : ∀ {k ap},aZ G' k=some ap→∃ blk',aZ G k=some blk':=by
  intro k ap hk
  have hm : k ∈ G.map (·.1):=by rw [← hok.keys];exact List.mem_map.2 ⟨_,cy hk,rfl⟩
  obtain ⟨⟨k',b'⟩,h1,h2⟩:=List.mem_map.1 hm
  simp only at h2;subst h2
  exact ⟨b',eE hok.nodup h1⟩
 let rowB : Nat→Prop:=fun b=>∃ k e sz xs fz,aZ G k=some (.row e sz xs fz)∧(L k).isNil=false∧b=(L k).b
 let C : Cx:={ P:=P,N:=fn.ntmps,M0:=fun b o=>M b o∧¬ rowB b,S:=qu G L,pb:=fun k=>some (L k).b,pr:=fun k=>if 2000000≤k then some (L k) else none,hpr:=(fun k hk=>by rw [if_neg (by omega)]),w0:=w }
 have hMst : ∀ b o,ae C L (aZ G) b o↔M b o:=by
  intro b o
  constructor
  ·rintro (h0|⟨k,ap,hk,hl,hbb,_⟩)
   ·exact h0.1
   ·rw [← hbb];exact hlv k ap hk hl o
  ·intro hm
   by_cases hr : rowB b
   ·obtain ⟨k,e,sz,xs,fz,hk,hn,rfl⟩:=hr
    refine .inr ⟨k,_,hk,hn,rfl,?_⟩
    have:=okin hk
    simp only [eo,Bool.and_eq_true,decide_eq_true_eq] at this
    rw [this.1];simp [Blk.frz]
   ·exact .inl ⟨hm,hr⟩
 have hMeq : ae C L (aZ G)=M:=by funext b o;exact propext (hMst b o)
 have hvl:=hvs.1
 have hsim : cx C (xM args G) { tmps:=vs.toArray++Array.replicate (fn.ntmps - vs.toArray.size) undef,defers:=[] } w:=by
  refine ⟨L,⟨Ext.refl _ _,fun b o h0=>hM b o h0.1,?_,hsep,?_⟩,by show (vs.toArray++Array.replicate (fn.ntmps - vs.toArray.size) undef).size=fn.ntmps;simp;omega,eW.nil _,fun n=>?_⟩
  ·intro k ap hk
   show dt w (ae C L (aZ G)) L (aZ G) (L k) ap
   rw [hMeq];exact hbl k ap hk
  ·intro k ap hk
   have ho:=okin hk
   cases ap with
   |mp=>cases ho
   |box cs own fz=>
    simp only [eo,Bool.and_eq_true,Bool.not_eq_true',decide_eq_true_eq] at ho
    obtain ⟨⟨⟨⟨_,h1⟩,h2⟩,h3⟩,h4⟩:=ho
    subst h1;subst h2
    refine ⟨rfl,rfl,⟨k,_,hk,trivial,rfl⟩,?_,fun o=>⟨hlv k _ hk trivial o,?_⟩⟩
    ·exact (hbl k _ hk).lt trivial
    ·rintro ⟨k',e,sz,xs,fz,hk',hn',he⟩
     by_cases e' : k=k'
     ·subst e';rw [show aZ G k=_ from hk] at hk';cases hk'
     ·exact hsep k k' _ _ e' hk hk' trivial hn' he
   |row e sz xs fz=>
    simp only [eo,Bool.and_eq_true,decide_eq_true_eq] at ho
    show co C k (L k) _
    have hpr : C.pr k=some (L k):=if_pos ho.2
    unfold co
    simp only
    rw [hpr]
    exact ⟨rfl,fun hn=>⟨⟨k,_,hk,hn,rfl⟩,fun o h9=>h9.2 ⟨k,e,sz,xs,fz,hk,hn,rfl⟩⟩⟩
  ·show RepA w (ae C L (aZ G)) L (aZ G) ((args[n]?).getD .undef) _
   rw [hMeq]
   cases hp : args[n]? with
   |none=>exact .undef _
   |some p=>
    have hlt : n < vs.length:=by rw [← hvl];exact (List.getElem?_eq_some_iff.1 hp).1
    have hget : (vs.toArray++Array.replicate (fn.ntmps - vs.toArray.size) undef).getD n undef=vs[n]:=by
     rw [Array.getD_eq_getD_getElem?,Array.getElem?_append_left (by simpa using hlt)];simp [hlt]
    simp only [hget]
    exact hvs.2 n p _ hp (List.getElem?_eq_getElem hlt)
 refine calls_of_wp_defers hf hb (wp_mono (h C rfl rfl _ w hsim) ?_)
 have hfin : ∀ (a' : Act) w' st',cx C st' a' w'→qF P fn.results.toList G' res st'→eW P a'.defers∧∃ v,(results fn a'.tmps).run P w'=.ok v w'∧
  ∃ v',Ending.returned v=.returned v'∧Ext (qu G L) w w'∧(∀ k ap,aZ G' k=some ap→dt w' M L (aZ G') (L k) ap)∧Rep w' M res v':=by
  rintro a' w' st' ⟨L',hm,hN,hdf,ht⟩ ⟨hml,⟨r,hr,W,hW⟩,hpb⟩
  obtain ⟨u,hu1,hu2⟩:=pK (C:=C) hm ht hr
  have hpb' : ∀ {k ap},aZ G' k=some ap→st'.h k=some ap:=fun hk=>hpb _ (cy hk)
  have hLr : ∀ {k e sz xs fz},aZ G' k=some (.row e sz xs fz)→L' k=L k:=by
   intro k e sz xs fz hk
   have ho:=okout hk
   simp only [eo,Bool.and_eq_true,decide_eq_true_eq] at ho
   have how:=hm.own k _ (hpb' hk)
   have hpr : C.pr k=some (L k):=if_pos ho.2
   simp only [co,hpr] at how
   exact how.1
  have hLb : ∀ {k cs own fz},aZ G' k=some (.box cs own fz)→(L' k).b=(L k).b:=by
   intro k cs own fz hk
   have ho:=okout hk
   simp only [eo,Bool.and_eq_true,Bool.not_eq_true',decide_eq_true_eq] at ho
   obtain ⟨⟨⟨⟨_,h1⟩,h2⟩,h3⟩,h4⟩:=ho
   subst h1;subst h2
   have how:=(hm.own k _ (hpb' hk)).2.1
   injection how with how;exact how.symm
  have hsub : ∀ b o,M b o→ae C L' st'.h b o:=by
   intro b o hmo
   by_cases hr' : rowB b
   ·obtain ⟨k,e,sz,xs,fz,hk,hn,rfl⟩:=hr'
    obtain ⟨blk',hk'⟩:=hinout hk
    have hs:=hok.same k _ _ hk hk'
    cases blk' with
    |box=>cases hs
    |mp=>cases hs
    |row e' sz' xs' fz'=>
     have ho:=okout hk'
     simp only [eo,Bool.and_eq_true,decide_eq_true_eq] at ho
     refine .inr ⟨k,_,hpb' hk',?_,?_,?_⟩
     ·show (L' k).isNil=false;rw [hLr hk'];exact hn
     ·rw [hLr hk']
     ·rw [ho.1];simp [Blk.frz]
   ·exact .inl ⟨hmo,hr'⟩
  obtain ⟨b1,b2,_⟩:=gH hm (aF.refl _) hu2 hW
  refine ⟨hdf,u,hu1,u,rfl,hm.ext,?_,?_⟩
  ·intro k ap hk
   have hbr:=hm.bl k ap (hpb' hk)
   cases ap with
   |mp=>cases okout hk
   |row e sz xs fz=>
    rw [hLr hk] at hbr
    obtain ⟨g1,g2,g3,g4,g5⟩:=hbr
    refine ⟨g1,g2,g3,g4,fun hn=>?_⟩
    obtain ⟨a1,a2,arr,a3,a4,a5⟩:=g5 hn
    exact ⟨a1,a2,arr,a3,a4,fun i x j p hx hj=>by obtain ⟨u,hu,hr⟩:=a5 i x j p hx hj;exact ⟨u,hu,hr.mono (Pres.sub hsub)⟩⟩
   |box cs own fz=>
    obtain ⟨arr,ty,e1,e2⟩:=hbr
    rw [hLb hk] at e1
    refine ⟨arr,ty,e1,e2.1,fun i p u hp hu=>?_⟩
    have ho:=okout hk
    simp only [eo,Bool.and_eq_true] at ho
    have hop:=List.all_eq_true.1 ho.1.1.1.1 p (List.mem_of_getElem? hp)
    have hx:=e2.2 i p u hp hu
    have e0 : i0 id p=p:=by cases p<;>rfl
    have hx' : RepA w' (ae C L' st'.h) L' st'.h (i0 id p) u:=by rw [e0];exact hx
    refine jR (ren:=id) (K:=G.map (·.1)) (M':=M) (L':=L) (h':=aZ G') hsub (fun q hq ap hb=>?_) hop hx'
    ·obtain ⟨⟨q',b'⟩,h1,h2⟩:=List.mem_map.1 hq
     simp only at h2;subst h2
     obtain ⟨blk',hq'⟩:=hinout (eE hok.nodup h1)
     refine ⟨blk',hq',?_⟩
     have h9:=hpb' hq'
     have hb' : st'.h q'=some ap:=hb
     rw [hb'] at h9;injection h9 with h9;subst h9
     cases ap with
     |mp=>cases okout hq'
     |box=>exact (hLb hq').symm
     |row=>exact ⟨rfl,rfl,Nat.le_refl _,fun _=>(hLr hq').symm⟩
  ·exact oH hml b2
 rintro e a' w' ⟨st',hs',hq⟩
 cases e with
 |normal=>obtain ⟨h1,v,h2,h3⟩:=hfin a' w' st' hs' hq;exact gr h1 h2 h3
 |ret=>obtain ⟨h1,v,h2,h3⟩:=hfin a' w' st' hs' hq;exact gr h1 h2 h3
 |exit=>exact hq.elim
 |goto=>exact hq.elim
 |panic=>exact hq.elim
 |outgrown=>exact hq.elim
def gV (h : Hp) (q : Nat) : Bool:=match h q with
 |some (.box _ own _)=>own
 |_=>false
def eI (ren : Nat→Nat) (h : Hp) (G' : List (Nat × Blk)) : List (Nat × Blk):=G'.map fun kb=>(ren kb.1,eD ren (gV h (ren kb.1)) kb.2)
theorem nT {ren : Nat→Nat} {g : Nat × Blk→Blk} : ∀ (l : List (Nat × Blk)) (h : Hp),(l.map fun x=>ren x.1).Nodup→∀ x ∈ l,ab h (l.map fun x=>(ren x.1,g x)) (ren x.1)=some (g x)
 |[],_,_,x,hx=>by cases hx
 |y :: l,h,hn,x,hx=>by
  rw [List.map_cons,List.nodup_cons] at hn
  rw [List.map_cons]
  show ab (aj h (ren y.1) (some (g y))) (l.map fun x=>(ren x.1,g x)) (ren x.1)=_
  rcases List.mem_cons.1 hx with rfl|hx
  ·rw [gp,ah]
   intro kb hkb
   obtain ⟨z,hz,rfl⟩:=List.mem_map.1 hkb
   intro e
   exact hn.1 (List.mem_map.2 ⟨z,hz,e⟩)
  ·exact nT l _ hn.2 x hx
theorem ic {ren : Nat→Nat} {own : Bool} {b : Blk} {l : Loc} : (eD ren own b).live l↔b.live l:=by cases b<;>exact Iff.rfl
theorem mU {ren : Nat→Nat} {own : Bool} {b : Blk} {K : List Nat} {k o : Nat} (h : eo K k b=true) : ¬ (eD ren own b).frz o:=by
 cases b with
 |mp=>cases h
 |box cs own' fz=>simp [eD,Blk.frz]
 |row e sz xs fz=>
  simp only [eo,Bool.and_eq_true,decide_eq_true_eq] at h
  rw [h.1];simp [eD,Blk.frz]
structure Share (h : Hp) (ren : Nat→Nat) (G G' : List (Nat × Blk)) : Prop where
 ok : OkG G G'
 inj : (G.map fun x=>ren x.1).Nodup
 have_ : ∀ kb ∈ G,h (ren kb.1)=some (eD ren (gV h (ren kb.1)) kb.2)
section
variable {C : Cx} {L : Nat→Loc} {h : Hp} {w : World} {ren : Nat→Nat} {G G' : List (Nat × Blk)}
theorem Share.ren_inj (hs : Share h ren G G') {k k' : Nat} {b b' : Blk} (hk : aZ G k=some b) (hk' : aZ G k'=some b') (e : ren k=ren k') : k=k':=by
 obtain ⟨i,hi⟩:=List.mem_iff_getElem?.1 (cy hk)
 obtain ⟨j,hj⟩:=List.mem_iff_getElem?.1 (cy hk')
 have h1 : (G.map fun x=>ren x.1)[i]?=some (ren k):=by simp [hi]
 have h2 : (G.map fun x=>ren x.1)[j]?=some (ren k'):=by simp [hj]
 obtain ⟨l1,e1⟩:=List.getElem?_eq_some_iff.1 h1
 obtain ⟨l2,e2⟩:=List.getElem?_eq_some_iff.1 h2
 have : i=j:=(List.getElem_inj hs.inj).1 (e1.trans (e.trans e2.symm))
 subst this
 rw [hi] at hj;injection hj with hj;injection hj with hj
theorem Share.inout (hs : Share h ren G G') {k : Nat} {ap : Blk} (hk : aZ G k=some ap) : ∃ blk',aZ G' k=some blk':=by
 have hm : k ∈ G'.map (·.1):=by rw [hs.ok.keys];exact List.mem_map.2 ⟨_,cy hk,rfl⟩
 obtain ⟨⟨k',b'⟩,h1,h2⟩:=List.mem_map.1 hm
 simp only at h2;subst h2
 exact ⟨b',eE (by rw [hs.ok.keys];exact hs.ok.nodup) h1⟩
theorem Share.outin (hs : Share h ren G G') {k : Nat} {ap : Blk} (hk : aZ G' k=some ap) : ∃ blk',aZ G k=some blk':=by
 have hm : k ∈ G.map (·.1):=by rw [← hs.ok.keys];exact List.mem_map.2 ⟨_,cy hk,rfl⟩
 obtain ⟨⟨k',b'⟩,h1,h2⟩:=List.mem_map.1 hm
 simp only at h2;subst h2
 exact ⟨b',eE hs.ok.nodup h1⟩
theorem Share.at_ (hs : Share h ren G G') {k : Nat} {ap : Blk} (hk : aZ G k=some ap) : h (ren k)=some (eD ren (gV h (ren k)) ap):=hs.have_ _ (cy hk)
theorem Share.new (hs : Share h ren G G') {k : Nat} {ap : Blk} (hk : aZ G' k=some ap) : ab h (eI ren h G') (ren k)=some (eD ren (gV h (ren k)) ap):=by
 have hn : (G'.map fun x=>ren x.1).Nodup:=by
  have e : (G'.map fun x=>ren x.1)=(G.map fun x=>ren x.1):=by
   have:=congrArg (List.map ren) hs.ok.keys
   simpa [List.map_map,Function.comp_def] using this
  rw [e];exact hs.inj
 exact nT (g:=fun kb=>eD ren (gV h (ren kb.1)) kb.2) G' h hn (k,ap) (cy hk)
theorem Share.other (hs : Share h ren G G') {q : Nat} (hq : ∀ k ap,aZ G k=some ap→q≠ren k) : ab h (eI ren h G') q=h q:=by
 refine gp ?_
 intro kb hkb e
 obtain ⟨⟨k,b⟩,hz,rfl⟩:=List.mem_map.1 hkb
 obtain ⟨blk',hk'⟩:=hs.outin (eE (by rw [hs.ok.keys];exact hs.ok.nodup) hz)
 exact hq k _ hk' e.symm
theorem Share.cases (hs : Share h ren G G') {q : Nat} {b : Blk} (hq : ab h (eI ren h G') q=some b) :
 (∃ k ap blk',aZ G k=some ap∧aZ G' k=some blk'∧q=ren k∧b=eD ren (gV h (ren k)) blk')∨((∀ k ap,aZ G k=some ap→q≠ren k)∧h q=some b):=by
 by_cases hc : ∃ k ap,aZ G k=some ap∧q=ren k
 ·obtain ⟨k,ap,hk,rfl⟩:=hc
  obtain ⟨blk',hk'⟩:=hs.inout hk
  rw [hs.new hk'] at hq;injection hq with hq
  exact .inl ⟨k,ap,blk',hk,hk',rfl,hq.symm⟩
 ·have hne : ∀ k ap,aZ G k=some ap→q≠ren k:=fun k ap hk e=>hc ⟨k,ap,hk,e⟩
  rw [hs.other hne] at hq
  exact .inr ⟨hne,hq⟩
theorem qG {b b' : Blk} {l : Loc} {ren : Nat→Nat} {own : Bool} (h : np b b'=true) : dF (eD ren own b) l (eD ren own b') l:=by
 cases b<;>cases b'<;>first|(cases h;done)|skip
 ·exact rfl
 ·simp only [np,Bool.and_eq_true,beq_iff_eq] at h
  exact ⟨h.1.1.symm,h.1.2.symm,Nat.le_of_eq h.2,fun _=>rfl⟩
theorem Share.okin (hs : Share h ren G G') {k : Nat} {b : Blk} (hk : aZ G k=some b) : eo (G.map (·.1)) k b=true:=hs.ok.okin _ _ (cy hk)
theorem Share.okout (hs : Share h ren G G') {k : Nat} {b : Blk} (hk : aZ G' k=some b) : eo (G.map (·.1)) k b=true:=hs.ok.okout _ _ (cy hk)
theorem Share.view (hs : Share h ren G G') (hm : MemL C L h w) {k : Nat} {ap : Blk} (hk : aZ G k=some ap) : dt w (ae C L h) (fun k=>L (ren k)) (aZ G) (L (ren k)) ap:=by
 have hb:=hm.bl _ _ (hs.at_ hk)
 cases ap with
 |mp=>cases hs.okin hk
 |row e sz xs fz=>exact hb
 |box cs own fz=>
  obtain ⟨arr,ty,e1,e2⟩:=hb
  have ho:=hs.okin hk
  simp only [eo,Bool.and_eq_true] at ho
  refine ⟨arr,ty,e1,by simpa using e2.1,fun i p u hp hu=>?_⟩
  refine jR (ren:=ren) (K:=G.map (·.1)) (fun b o h=>h) (fun q hq b hb=>?_) (List.all_eq_true.1 ho.1.1.1.1 p (List.mem_of_getElem? hp)) (e2.2 i _ u (by simp [hp]) hu)
  obtain ⟨⟨q',b'⟩,h1,h2⟩:=List.mem_map.1 hq
  simp only at h2;subst h2
  have hq':=eE hs.ok.nodup h1
  refine ⟨b',hq',?_⟩
  rw [hs.at_ hq'] at hb;injection hb with hb;subst hb
  cases b' with
  |mp=>exact ⟨rfl,rfl,rfl⟩
  |box=>exact rfl
  |row=>exact ⟨rfl,rfl,Nat.le_refl _,fun _=>rfl⟩
theorem MemL.shareStep (hm : MemL C L h w) (hs : Share h ren G G') {w' : World} (hx : Ext (qu G (fun k=>L (ren k))) w w')
 (hb : ∀ k ap,aZ G' k=some ap→dt w' (ae C L h) (fun k=>L (ren k)) (aZ G') (L (ren k)) ap) : aq C L h w L (ab h (eI ren h G')) w':=by
 have hMM : ∀ b o,ae C L (ab h (eI ren h G')) b o→ae C L h b o:=by
  rintro b o (h0|⟨q,ap,hq,hl,hqb,hf⟩)
  ·exact .inl h0
  ·rcases hs.cases hq with ⟨k,b1,b2,hk,hk',rfl,rfl⟩|⟨_,hq'⟩
   ·refine .inr ⟨ren k,_,hs.at_ hk,?_,hqb,mU (hs.okin hk)⟩
    have hsm:=hs.ok.same k _ _ hk hk'
    cases b1<;>cases b2<;>first|(cases hsm;done)|exact hl
   ·exact .inr ⟨q,ap,hq',hl,hqb,hf⟩
 have hkc : KC L h L (ab h (eI ren h G')):=by
  intro q ap hq
  by_cases hc : ∃ k b,aZ G k=some b∧q=ren k
  ·obtain ⟨k,b,hk,rfl⟩:=hc
   obtain ⟨b',hk'⟩:=hs.inout hk
   rw [hs.at_ hk] at hq;injection hq with hq;subst hq
   exact ⟨_,hs.new hk',qG (hs.ok.same k _ _ hk hk')⟩
  ·exact ⟨ap,by rw [hs.other (fun k b hk e=>hc ⟨k,b,hk,e⟩)];exact hq,bH _ _⟩
 have hpres : Pres w (ae C L h) w' (ae C L (ab h (eI ren h G'))):=by
  refine Pres.ext hx (fun b _ hsb o=>?_) fun b o _ h9=>hMM b o h9
  obtain ⟨k,ap,hk,hl,rfl⟩:=hsb
  exact .inr ⟨ren k,_,hs.at_ hk,ic.2 hl,rfl,mU (hs.okin hk)⟩
 refine ⟨⟨?_,hm.m0,?_,?_,?_⟩,hpres,hkc⟩
 ·refine hm.ext.trans hx (fun b hb0 hmem=>?_)
  obtain ⟨k,ap,hk,hl,rfl⟩:=hmem
  have hb1 : (L (ren k)).b < C.w0.heap.size:=hb0
  have how:=hm.own _ _ (hs.at_ hk)
  cases ap with
  |mp=>cases hs.okin hk
  |box cs own fz=>
   cases hown : gV h (ren k) with
   |false=>rw [hown] at how;exact how.2.2.1
   |true=>rw [hown] at how;simp only [eD,co] at how;omega
  |row e sz xs fz=>
   rcases how.row hl with h9|h9
   ·omega
   ·exact h9.1
 ·intro q ap hq
  rcases hs.cases hq with ⟨k,b1,b2,hk,hk',rfl,rfl⟩|⟨hne,hq'⟩
  ·have hbr:=hb k b2 hk'
   cases b2 with
   |mp=>cases hs.okout hk'
   |row e sz xs fz=>
    obtain ⟨g1,g2,g3,g4,g5⟩:=hbr
    refine ⟨g1,g2,g3,g4,fun hn=>?_⟩
    obtain ⟨a1,a2,arr,a3,a4,a5⟩:=g5 hn
    exact ⟨a1,a2,arr,a3,a4,fun i x j p hx9 hj=>by obtain ⟨u,hu,hr⟩:=a5 i x j p hx9 hj;exact ⟨u,hu,hr.mono (Pres.sub hMM)⟩⟩
   |box cs own fz=>
    obtain ⟨arr,ty,e1,e2⟩:=hbr
    have ho:=hs.okout hk'
    simp only [eo,Bool.and_eq_true] at ho
    refine ⟨arr,ty,e1,by simpa using e2.1,fun i p u hp hu=>?_⟩
    simp only [List.getElem?_map,Option.map_eq_some_iff] at hp
    obtain ⟨y,hy,rfl⟩:=hp
    refine sC (ren:=ren) (K:=G.map (·.1)) (L':=fun k=>L (ren k)) (h':=aZ G') hMM (fun q hq b hb=>?_) (List.all_eq_true.1 ho.1.1.1.1 y (List.mem_of_getElem? hy)) (e2.2 i y u hy hu)
    refine ⟨_,hs.new hb,?_⟩
    cases b with
    |mp=>exact ⟨rfl,rfl,rfl⟩
    |box=>exact rfl
    |row=>exact ⟨rfl,rfl,Nat.le_refl _,fun _=>rfl⟩
  ·refine (hm.bl q ap hq').mono hpres hkc (fun hl=>hx.block _ ((hm.bl q ap hq').lt hl) ?_)
   rintro ⟨k,b,hk,hl',e⟩
   exact hm.sep q (ren k) _ _ (hne k b hk) hq' (hs.at_ hk) hl (ic.2 hl') e
 ·have aux : ∀ q b,ab h (eI ren h G') q=some b→b.live (L q)→∃ b0,h q=some b0∧b0.live (L q):=by
   intro q b hq hl
   rcases hs.cases hq with ⟨k,b1,b2,hk,hk',rfl,rfl⟩|⟨_,hq'⟩
   ·refine ⟨_,hs.at_ hk,?_⟩
    have hsm:=hs.ok.same k _ _ hk hk'
    cases b1<;>cases b2<;>first|(cases hsm;done)|exact hl
   ·exact ⟨b,hq',hl⟩
  intro q q' b1 b2 hne hq hq' hl hl'
  obtain ⟨c1,d1,f1⟩:=aux q b1 hq hl
  obtain ⟨c2,d2,f2⟩:=aux q' b2 hq' hl'
  exact hm.sep q q' c1 c2 hne d1 d2 f1 f2
 ·intro q ap hq
  rcases hs.cases hq with ⟨k,b1,b2,hk,hk',rfl,rfl⟩|⟨_,hq'⟩
  ·have how:=hm.own _ _ (hs.at_ hk)
   have hsm:=hs.ok.same k _ _ hk hk'
   cases b1<;>cases b2<;>first|(cases hsm;done)|skip
   ·cases hown : gV h (ren k) with
    |false=>rw [hown] at how;exact how
    |true=>rw [hown] at how;exact how
   ·exact how
  ·exact hm.own q ap hq'
end
section
variable {C : Cx} {Q : Exit→St→Prop} {st : St}
def sR (C : Cx) (Q : St→Prop) (f : Operand) (xs : List Operand) (d : Option Nat) (st : St) : Prop:=
 ∃ g args G G' res ren,aX (st.ev f)=some (g,[],[])∧ub C.P g args G G' res∧lS res=true∧xs.map st.ev=args.map (sA ren)∧args.all (wz (G.map (·.1)))=true∧(G.map fun x=>ren x.1).Nodup∧
  (∀ kb ∈ G,st.h (ren kb.1)=some (eD ren (gV st.h (ren kb.1)) kb.2))∧ew C.N d=true∧Q (st.put d (.pv res) (eI ren st.h G'))
theorem WP.share {hn : List Nat} {id : Nat} {ops : Array Oper} {pre post : List Oper} {o : Oper} {f : Operand} {xs : List Operand} {ats : Array TypeId} (hops : ops.toList=pre++o :: post) (hop : o.op=.call { callee:=.value f,args:=xs.toArray,argTypes:=ats }) (hg : o.guard=none)
 (hq : cC C.P hn C.N ops (sR C (cC C.P hn C.N ops (Q .normal) post) f xs o.dst) pre st) : WP C (.region id ops false) Q st:=by
 intro a w hs
 refine wp_region_list ?_
 rw [hops]
 refine dQ (fun st1 a1 w1 hs1 hq1=>?_) hs hq
 obtain ⟨g,args,G,G',res,ren,hce,⟨hcall,hok,hD⟩,hml,hargs,hokA,hinj,hhave,hdN,hQ⟩:=hq1
 obtain ⟨L,hm,hN,hdf,ht⟩:=hs1
 have hsh : Share st1.h ren G G':=⟨hok,hinj,hhave⟩
 refine wpList_step (fun K hK=>?_)
 rw [ow hg,if_pos rfl]
 obtain ⟨vs,us,hfv,hv1,hv2⟩:=e8 (dM ht f) hce
 have hvs:=hv1.nil_inv
 have hus:=hv2.nil_inv
 subst hvs;subst hus
 have hlenA : xs.length=args.length:=by have:=congrArg List.length hargs;simpa using this
 have hrepA : ai w1 (ae C L st1.h) (fun k=>L (ren k)) (aZ G) args (xs.map a1.eval):=by
  refine ⟨by simp [hlenA],fun i p u hp hu=>?_⟩
  simp only [List.getElem?_map,Option.map_eq_some_iff] at hu
  obtain ⟨x,hx,rfl⟩:=hu
  have he:=congrArg (fun l : List AV=>l[i]?) hargs
  simp only [List.getElem?_map,hx,hp,Option.map_some,Option.some.injEq] at he
  have hr:=dM ht x
  rw [he] at hr
  refine ua (K:=G.map (·.1)) (fun b o h=>h) (fun q hq b hb=>?_) (List.all_eq_true.1 hokA p (List.mem_of_getElem? hp)) hr
  obtain ⟨⟨q',b'⟩,h1,h2⟩:=List.mem_map.1 hq
  simp only at h2;subst h2
  have hq':=eE hsh.ok.nodup h1
  refine ⟨b',hq',?_⟩
  rw [hsh.at_ hq'] at hb;injection hb with hb;subst hb
  cases b' with
  |mp=>exact ⟨rfl,rfl,rfl⟩
  |box=>exact rfl
  |row=>exact ⟨rfl,rfl,Nat.le_refl _,fun _=>rfl⟩
 have hcalls:=hD w1 (ae C L st1.h) (fun k=>L (ren k)) (xs.map a1.eval) (fun b o h=>hm.mlt h)
  (fun k ap hk hl o=>.inr ⟨ren k,_,hsh.at_ hk,ic.2 hl,rfl,mU (hsh.okin hk)⟩)
  (fun k k' b b' hne hk hk' hl hl'=>hm.sep (ren k) (ren k') _ _ (fun e=>hne (hsh.ren_inj hk hk' e)) (hsh.at_ hk) (hsh.at_ hk') (ic.2 hl) (ic.2 hl'))
  (fun k ap hk=>hsh.view hm hk) hrepA
 have hrun : (execOp a1.eval o).run C.P w1=.ok (.enter g (xs.map a1.eval).toArray) w1:=by
  unfold bT at hcall
  cases hfn : C.P.funcs[g]? with
  |none=>rw [hfn] at hcall;cases hcall
  |some fn=>
   rw [hfn] at hcall
   simp only [Bool.and_eq_true,Bool.not_eq_true',beq_eq_false_iff_ne,ne_eq] at hcall
   have hb : fn.body.isNone=false:=by cases hbb : fn.body<;>simp_all
   unfold execOp
   rw [hop]
   simp only [resolve,hfv,Deferred.ofValue,pure_bind,Sem.run_bind,Result.andThen_ok,invoke,callFunc,program,Sem.run,hfn]
   simp [hcall.2,hb]
 unfold Oper.wp
 rw [hrun]
 simp only [Oper.upon]
 refine hcalls.mono ?_
 rintro ee w' ⟨v,rfl,hx,hb,hr⟩
 have hA:=hm.shareStep hsh hx hb
 refine hK _ _ ?_
 exact fD (fun st' a' w' hs' hq'=>⟨st',hs',hq'⟩) (cx.put hm hN hdf ht hdN hA (.pv (oH hml hr))) hQ
end
attribute [simp] sA i0 wz jq aZ eD eo np eI gV
end Go.Ab
namespace Go.Ab
open Go.Proofs
theorem mY (V : List Bool) : (V.map B).all gi=true:=by
 rw [List.all_eq_true];intro x hx
 obtain ⟨b,_,rfl⟩:=List.mem_map.1 hx;rfl
set_option maxRecDepth 10000 in
theorem zm (t : Tr) (hv : av t=true) : am Try.prog 20 [.pv (bR t)] [] [] (.srow [.sl ((aw t).map iv)] 4 1 ((t.cells.map aH).map B)):=by
 have hs:=bn hv
 obtain ⟨z1,z2,z3,z4,z5⟩:=aS.1 hs
 have cb:=vQ t hv
 refine Dp Try.func20 ?_
 intro C hP hN
 simp only [Try.f20] at hN ⊢
 with_reducible repeat' (first|refine Sp.h ?_|((first|refine Wd ?_|refine Ss.h ?_|refine Sc.h (cb) ?_|(refine Sb.h ?_ ?_ ?_<;>(try intro hgd)<;>try exact Xy))<;>simp -implicitDefEqProofs (maxSteps:=2000000) [hP,hN,show (1 : Int) * t.cells.length≤281474976710656 by omega,show (t.cells.length : Int)≤281474976710656 by omega,show (t.cells.length : Int)≤9223372036854775807 by omega,show 0 < t.cells.length by omega]<;>try refine Ya ?_)|refine X2 ?_ ?_|(refine Xd ?_ ?_<;>intro hcd<;>try exact Xx))
 refine WP.loopN [5] t.cells.length (fun i st=>st.t 2=.ptr 2 0∧st.t 3=.ptr 3 0∧st.t 14=.pv (.sl (t.cells.map bf))∧st.t 15=.pv (Z t.cells.length)∧st.t 16=.pv (Z i)∧st.h 5=none∧st.h 3=some (.box [.pv (.sl ((aw t).map iv)),.arr 11 t.cells.length] true false)∧st.h 2=some (.box [.pv (.val (.slice none 0 0)),.pv (.val (.slice none 0 0))] true false)∧st.h 11=some (.row 4 1 ((jv t i).map B) 0)) (by simp [q9]) ?_
 rintro i st hi ⟨g2,g3,g14,g15,g16,hb5,hb3,hb2,hb11⟩
 have hUl:=r7 hi
 by_cases hlt : i < t.cells.length
 ·have hw:=ak hlt (by omega)
  generalize hc : t.cells[i]=c at *
  have hci : t.cells[i]?=some c:=by rw [List.getElem?_eq_getElem hlt,hc]
  have cl:=vF c
  have cc:=tg c
  have hst:=ra hlt hci
  have hop : aH c=(aT c && !(di c)):=rfl
  generalize jv t i=U at *
  generalize jv t (i+1)=U' at *
  have hiU : i < U.length:=by omega
  cases hlf : aT c with
  |false=>
   rw [hlf] at cl
   rw [hlf,Bool.false_and] at hop
   rw [hop] at hst
   with_reducible repeat' (first|refine Sp.h ?_|((first|refine Wd ?_|refine Ss.h ?_|refine Sc.h (cl) ?_|(refine Sb.h ?_ ?_ ?_<;>(try intro hgd)<;>try exact Xy))<;>simp -implicitDefEqProofs (maxSteps:=2000000) [hP,hN,g2,g3,g14,g15,g16,hb5,hb3,hb2,hb11,hlt,hw,hci,hc,hUl,hiU]<;>try refine Ya ?_)|refine X2 ?_ ?_|(refine Xd ?_ ?_<;>intro hcd<;>try exact Xx))
   all_goals simp [← hst,List.map_set]
  |true=>
   rw [hlf] at cl
   rw [hlf,Bool.true_and] at hop
   rw [hop] at hst
   generalize di c=cb9 at *
   with_reducible repeat' (first|refine Sp.h ?_|((first|refine Wd ?_|refine Ss.h ?_|refine Sc.h (cl) ?_|refine Sc.h (cc) ?_|(refine Sb.h ?_ ?_ ?_<;>(try intro hgd)<;>try exact Xy))<;>simp -implicitDefEqProofs (maxSteps:=2000000) [hP,hN,g2,g3,g14,g15,g16,hb5,hb3,hb2,hb11,hlt,hw,hci,hc,hUl,hiU]<;>try refine Ya ?_)|refine X2 ?_ ?_|(refine Xd ?_ ?_<;>intro hcd<;>try exact Xx))
   all_goals simp [← hst,List.map_set]
 ·have hi' : i=t.cells.length:=by omega
  subst hi'
  rw [r8] at hb11
  with_reducible repeat' (first|refine Sp.h ?_|((first|refine Wd ?_|refine Ss.h ?_|(refine Sb.h ?_ ?_ ?_<;>(try intro hgd)<;>try exact Xy))<;>simp -implicitDefEqProofs (maxSteps:=2000000) [hP,hN,g2,g3,g14,g15,g16,hb5,hb3,hb2,hb11,hlt]<;>try refine Ya ?_)|refine X2 ?_ ?_|(refine Xd ?_ ?_<;>intro hcd<;>try exact Xx))
set_option maxRecDepth 10000 in
theorem zP (bs : List Bx) (op : List Bool) (q : List Int) (V : List Bool) (hb : bs.length=op.length) (h1 : 1≤op.length) (hn : op.length≤2048) (hbx : ∀ b ∈ bs,b.length≤9223372036854775807) (hV : IsR op.length (a9 op) (gL bs) (fun i=>i < op.length∧sB bs op q i=true) V) : am Try.prog 41 [.pv (eh bs op),.pv (zs q)] [] [] (.nrow 4 1 (V.map B)):=by
 obtain ⟨n,hnn⟩ : ∃ n,op.length=n:=⟨_,rfl⟩
 have hfi:=o8 op.length (a9 op) (gL bs) (sB bs op q)
 have hfl:=lI (sB bs op q) op.length
 have csp:=wG bs op _ _ V _ hb hn hbx (by omega) hfi hV
 rw [hnn] at hV hn hb h1 hfl csp hfi
 refine Dp Try.func41 ?_
 intro C hP hN
 simp only [Try.f41] at hN ⊢
 with_reducible repeat' (first|refine Sp.h ?_|((first|refine Wh [6] ?_|refine Ss.h ?_|(refine Sb.h ?_ ?_ ?_<;>(try intro hgd)<;>try exact Xy))<;>simp -implicitDefEqProofs (maxSteps:=2000000) [hP,hN,hnn,show (1 : Int) * n≤281474976710656 by omega,show (n : Int)≤281474976710656 by omega,show (n : Int)≤9223372036854775807 by omega])|refine X2 ?_ ?_|(refine Xd ?_ ?_<;>intro hcd<;>try exact Xx))
 refine WP.loopN [] n (fun i st=>st.t 1=.pv (zs q)∧st.t 2=.ptr 2 0∧st.t 5=.arr 12 n∧st.t 6=.arr 6 (fF (sB bs op q) i).length∧st.t 14=.pv (.sl (op.map B))∧st.t 15=.pv (Z n)∧st.t 16=.pv (Z i)∧st.h 2=some (.box [.pv (.sl (bs.map iv)),.pv (.sl (op.map B))] true false)∧st.h 12=some (.row 4 1 ((fU n (sB bs op q) i).map B) 0)∧st.h 6=some (.row 3 1 ((fF (sB bs op q) i).map zN) 0)) (by simp [o0,fF]) ?_
 rintro i st hi ⟨g1,g2,g5,g6,g14,g15,g16,hb2,hb12,hb6⟩
 have hUl:=nZ n (sB bs op q) i
 have hFl:=lI (sB bs op q) i
 by_cases hlt : i < n
 ·have hw:=ak hlt (by omega)
  have hio : i < op.length:=by omega
  have hop:=gU hio
  have hop':=aP hop hio
  have hib : i < bs.length:=by omega
  have hbi:=jn hib
  have hbi':=aP hbi hib
  have ch:=uA (cH bs i) q (hbx _ (List.mem_of_getElem? hbi))
  have hs9 : sB bs op q i=(a9 op i && aR (cH bs i) q):=rfl
  have hUn:=sG (n:=n) (s:=sB bs op q) (i:=i)
  have hFn:=sH (s:=sB bs op q) (i:=i)
  have hUy:=q6 (n:=n) (s:=sB bs op q) hlt
  have hFy:=q7 (s:=sB bs op q) (i:=i)
  rw [hs9] at hUn hFn hUy hFy
  generalize fU n (sB bs op q) i=U at *
  generalize fU n (sB bs op q) (i+1)=U' at *
  generalize fF (sB bs op q) i=F at *
  generalize fF (sB bs op q) (i+1)=F' at *
  have hiU : i < U.length:=by omega
  cases ho : a9 op i with
  |false=>
   rw [ho] at hop hop' hUn hFn
   have e1:=hUn (by simp)
   have e2:=hFn (by simp)
   subst e1;subst e2
   with_reducible repeat' (first|refine Sp.h ?_|((first|refine Ss.h ?_|(refine Sb.h ?_ ?_ ?_<;>(try intro hgd)<;>try exact Xy))<;>simp -implicitDefEqProofs (maxSteps:=2000000) [hP,hN,g1,g2,g5,g6,g14,g15,g16,hb2,hb12,hb6,hlt,hw,hnn,hop,hop',hio])|refine X2 ?_ ?_|(refine Xd ?_ ?_<;>intro hcd<;>try exact Xx))
  |true=>
  rw [ho] at hop hop' hUn hFn hUy hFy
  cases hh : aR (cH bs i) q with
  |false=>
   rw [hh] at ch hUn hFn
   have e1:=hUn (by simp)
   have e2:=hFn (by simp)
   subst e1;subst e2
   with_reducible repeat' (first|refine Sp.h ?_|((first|refine Ss.h ?_|refine Sc.h (ch) ?_|(refine Sb.h ?_ ?_ ?_<;>(try intro hgd)<;>try exact Xy))<;>simp -implicitDefEqProofs (maxSteps:=2000000) [hP,hN,g1,g2,g5,g6,g14,g15,g16,hb2,hb12,hb6,hlt,hw,hnn,hop,hop',hio,hib,hbi,hbi'])|refine X2 ?_ ?_|(refine Xd ?_ ?_<;>intro hcd<;>try exact Xx))
  |true=>
   rw [hh] at ch hUy hFy
   have e1:=hUy rfl
   have e2:=hFy rfl
   with_reducible repeat' (first|refine Sp.h ?_|((first|refine Ss.h ?_|refine Sc.h (ch) ?_|(refine Sb.h ?_ ?_ ?_<;>(try intro hgd)<;>try exact Xy))<;>simp -implicitDefEqProofs (maxSteps:=2000000) [hP,hN,g1,g2,g5,g6,g14,g15,g16,hb2,hb12,hb6,hlt,hw,hnn,hop,hop',hio,hib,hbi,hbi',hUl,hiU,show (F.length+1) * 8≤140737488355328 by omega,show F.length+1≤9223372036854775807 by omega])|refine X2 ?_ ?_|(refine Xd ?_ ?_<;>intro hcd<;>try exact Xx))
   all_goals simp [e2,← e1,List.map_set]
 ·have hi' : i=n:=by omega
  subst hi'
  have hne : fU i (sB bs op q) i≠[]:=by intro h;rw [h] at hUl;simp at hUl;omega
  generalize fU i (sB bs op q) i=U at *
  generalize fF (sB bs op q) i=F at *
  with_reducible repeat' (first|refine Sp.h ?_|((refine WP.hand (hn:=[]) (pre:=[_,_,_]) rfl rfl rfl rfl ?_);simp -implicitDefEqProofs (maxSteps:=2000000) [hP,hN,g1,g2,g5,g6,g14,g15,g16,hb2,hb12,hb6,hlt])|((first|refine Ss.h ?_|(refine Sb.h ?_ ?_ ?_<;>(try intro hgd)<;>try exact Xy))<;>simp -implicitDefEqProofs (maxSteps:=2000000) [hP,hN,g1,g2,g5,g6,g14,g15,g16,hb2,hb12,hb6,hlt])|refine X2 ?_ ?_|(refine Xd ?_ ?_<;>intro hcd<;>try exact Xx))
  refine ⟨47,eh bs op,[],12,6,4,1,3,1,U.map B,V.map B,F.map zN,by simp,by simp [hb2],by simp [g5,hUl],by simp [g6],by simp [hb12],by simp [hb6],by decide,by simp [hne],by rw [hP];exact csp,by rw [hN];decide,?_⟩
  simp -implicitDefEqProofs (maxSteps:=2000000) [hP,hN,g1,g2,g5,g6,hb2,hb12,hb6]
  have hVl:=hV.len
  with_reducible repeat' (first|refine Sp.h ?_|((first|refine Ss.h ?_|(refine Sb.h ?_ ?_ ?_<;>(try intro hgd)<;>try exact Xy))<;>simp -implicitDefEqProofs (maxSteps:=2000000) [hP,hN,g1,g2,g5,g6,hb2,hb12,hb6,hVl])|refine X2 ?_ ?_|(refine Xd ?_ ?_<;>intro hcd<;>try exact Xx))
  all_goals exact ⟨mY V,12,by simp [hVl],rfl⟩
set_option maxRecDepth 10000 in
theorem vD (bs : List Bx) (op U : List Bool) (i : Nat) (q : List Int) (hi : i < bs.length) (hU : U.length=bs.length) (hn : bs.length≤2048) (hbx : ∀ b ∈ bs,b.length≤9223372036854775807) : am Try.prog 46 [.pv (eh bs op),.pv (Z i),.pv (.sl (U.map B)),.pv (zs q)] [] [] (.pv (B (jW bs i U q))):=by
 have hbi:=jn hi
 have hbi':=aP hbi hi
 have ch:=uA (cH bs i) q (hbx _ (List.mem_of_getElem? hbi))
 unfold jW
 cases hh : aR (cH bs i) q with
 |true=>
  rw [hh] at ch
  rw [Bool.true_or]
  refine Dp Try.func46 ?_
  intro C hP hN
  simp only [Try.f46] at hN ⊢
  with_reducible repeat' (first|refine Sp.h ?_|((first|refine Wd ?_|refine Ss.h ?_|refine Sc.h (ch) ?_|(refine Sb.h ?_ ?_ ?_<;>(try intro hgd)<;>try exact Xy))<;>simp -implicitDefEqProofs (maxSteps:=2000000) [hP,hN,hi,hbi,hbi']<;>try refine Ya ?_)|refine X2 ?_ ?_|(refine Xd ?_ ?_<;>intro hcd<;>try exact Xx))
 |false=>
  rw [hh] at ch
  rw [Bool.false_or]
  obtain ⟨p,hp⟩ : ∃ p,p=fun k=>a9 U k && bG (cH bs i) (cH bs k):=⟨_,rfl⟩
  rw [← hp]
  obtain ⟨r,hr⟩ : ∃ r,(List.range U.length).any p=r:=⟨_,rfl⟩
  rw [hr]
  refine Dp Try.func46 ?_
  intro C hP hN
  simp only [Try.f46] at hN ⊢
  with_reducible repeat' (first|refine Sp.h ?_|((first|refine Wd ?_|refine Ss.h ?_|refine Sc.h (ch) ?_|(refine Sb.h ?_ ?_ ?_<;>(try intro hgd)<;>try exact Xy))<;>simp -implicitDefEqProofs (maxSteps:=2000000) [hP,hN,hi,hbi,hbi']<;>try refine Ya ?_)|refine X2 ?_ ?_|(refine Xd ?_ ?_<;>intro hcd<;>try exact Xx))
  refine WP.loopN [] U.length (fun k st=>st.t 4=.ptr 4 0∧st.h 4=some (.box [.pv (.sl (bs.map iv)),.pv (.sl (op.map B))] true false)∧st.t 1=.pv (Z i)∧st.t 18=.pv (.sl (U.map B))∧st.t 19=.pv (Z U.length)∧st.t 20=.pv (Z k)∧∀ j,j < k→p j=false) (by simp) ?_
  rintro k st hk ⟨g4,b4,g1,g18,g19,g20,hq⟩
  by_cases hlt : k < U.length
  ·have hw:=ak hlt (by omega)
   have hku:=gU hlt
   have hku':=aP hku hlt
   have hkb : k < bs.length:=by omega
   have hbk:=jn hkb
   have hbk':=aP hbk hkb
   have ct:=vm (cH bs i) (cH bs k) (hbx _ (List.mem_of_getElem? hbi))
   have hpk : p k=(a9 U k && bG (cH bs i) (cH bs k)):=by rw [hp]
   have hyes : p k=true→r=true:=fun h=>by rw [← hr];exact List.any_eq_true.2 ⟨k,List.mem_range.2 hlt,h⟩
   have hno : p k=false→∀ j,j < k+1→p j=false:=fun h j hj=>by
    by_cases e : j=k
    ·subst e;exact h
    ·exact hq j (by omega)
   rw [hpk] at hyes hno
   generalize a9 U k=u at *
   cases u with
   |false=>
    have h9:=hno rfl
    with_reducible repeat' (first|refine Sp.h ?_|((first|refine Wd ?_|refine Ss.h ?_|(refine Sb.h ?_ ?_ ?_<;>(try intro hgd)<;>try exact Xy))<;>simp -implicitDefEqProofs (maxSteps:=2000000) [hP,hN,g4,b4,g1,g18,g19,g20,hlt,hw,hku,hku']<;>try refine Ya ?_)|refine X2 ?_ ?_|(refine Xd ?_ ?_<;>intro hcd<;>try exact Xx))
    all_goals exact h9
   |true=>
    rw [Bool.true_and] at hyes hno
    cases ht : bG (cH bs i) (cH bs k) with
    |true=>
     rw [ht] at ct
     rw [hyes ht]
     with_reducible repeat' (first|refine Sp.h ?_|((first|refine Wd ?_|refine Ss.h ?_|refine Sc.h (ct) ?_|(refine Sb.h ?_ ?_ ?_<;>(try intro hgd)<;>try exact Xy))<;>simp -implicitDefEqProofs (maxSteps:=2000000) [hP,hN,g4,b4,g1,g18,g19,g20,hlt,hw,hku,hku',hi,hbi,hbi',hkb,hbk,hbk']<;>try refine Ya ?_)|refine X2 ?_ ?_|(refine Xd ?_ ?_<;>intro hcd<;>try exact Xx))
    |false=>
     rw [ht] at ct
     have h9:=hno ht
     with_reducible repeat' (first|refine Sp.h ?_|((first|refine Wd ?_|refine Ss.h ?_|refine Sc.h (ct) ?_|(refine Sb.h ?_ ?_ ?_<;>(try intro hgd)<;>try exact Xy))<;>simp -implicitDefEqProofs (maxSteps:=2000000) [hP,hN,g4,b4,g1,g18,g19,g20,hlt,hw,hku,hku',hi,hbi,hbi',hkb,hbk,hbk']<;>try refine Ya ?_)|refine X2 ?_ ?_|(refine Xd ?_ ?_<;>intro hcd<;>try exact Xx))
     all_goals exact h9
  ·have hrf : r=false:=by
    rw [← hr,List.any_eq_false]
    intro j hj
    rw [hq j (by have:=List.mem_range.1 hj;omega)];decide
   rw [hrf]
   with_reducible repeat' (first|refine Sp.h ?_|((first|refine Wd ?_|refine Ss.h ?_|(refine Sb.h ?_ ?_ ?_<;>(try intro hgd)<;>try exact Xy))<;>simp -implicitDefEqProofs (maxSteps:=2000000) [hP,hN,g4,b4,g1,g18,g19,g20,hlt]<;>try refine Ya ?_)|refine X2 ?_ ?_|(refine Xd ?_ ?_<;>intro hcd<;>try exact Xx))
end Go.Ab
namespace Go.Ab
open Go.Proofs
section
variable {t : Tr} {op U : List Bool} {p : List Int} {i : Nat}
theorem pW (hv : av t=true) (hl : op.length=t.cells.length) (hU : kC t op p U) (hi : i < t.cells.length) (hm : jW (aw t) i U p=false) : kC t (op.set i true) p U:=by
 have hno : ¬ Mt (cD t) (OO op) p i:=fun h=>by
  have:=(fY hv hU hi).2 h
  rw [hm] at this;cases this
 have hO : ∀ k,OO (op.set i true) k↔OO op k∨k=i:=fun k=>fV (by omega) k
 refine ⟨fT hU,fun k hk=>?_⟩
 rw [kD hv hU k,oh hv]
 exact ⟨fun h=>h.mono fun k h=>(hO k).2 (.inl h),fun h=>ph (T:=cD t) hO hno h⟩
theorem ss (hv : av t=true) (hl : op.length=t.cells.length) (hU : kC t op p U) (hi : i < t.cells.length) (hm : jW (aw t) i U p=true) : FI t.cells.length (a9 (op.set i true)) (gL (aw t)) (fun k=>k < t.cells.length∧sB (aw t) (op.set i true) p k=true) (U.set i true) [i]:=by
 have hUl:=fT hU
 have hM:=(fY hv hU hi).1 hm
 have hO : ∀ k,OO (op.set i true) k↔OO op k∨k=i:=fun k=>fV (by omega) k
 have mono : ∀ k,OO op k→OO (op.set i true) k:=fun k h=>(hO k).2 (.inl h)
 have hri : Rc (cD t) (OO (op.set i true)) p i:=by
  rcases hM with h1|⟨k,x,a,b,c⟩
  ·exact .base hi ((hO i).2 (.inr rfl)) h1
  ·exact .step (a.mono mono) hi ((hO i).2 (.inr rfl)) x c b
 have mk : ∀ k,cG (U.set i true) k↔k=i∨Rc (cD t) (OO op) p k:=fun k=>by
  rw [jm (by omega),kD hv hU k]
 refine ⟨by rw [List.length_set,hUl],fun k hk=>?_,fun k hk=>?_,fun k hk=>?_,fun k hk=>?_⟩
 ·obtain ⟨h1,h2⟩:=hk
  simp only [sB,Bool.and_eq_true] at h2
  rw [mk]
  rcases (hO k).1 h2.1 with h3|rfl
  ·refine .inr (.base h1 h3 ?_)
   show aR (aD t (k : Int)) p=true
   rw [← d0];exact h2.2
  ·exact .inl rfl
 ·rw [oh hv]
  rcases (mk k).1 hk with rfl|h
  ·exact hri
  ·exact h.mono mono
 ·rw [List.mem_singleton] at hk;subst hk
  exact (mk k).2 (.inl rfl)
 ·rcases (mk k).1 hk with rfl|h
  ·exact .inl (by simp)
  ·refine .inr fun m hm1 ho ht=>?_
   rw [mk]
   rcases (hO m).1 ho with h3|rfl
   ·have ht : bG (cH (aw t) k) (cH (aw t) m)=true:=ht
    rw [d0,d0] at ht
    obtain ⟨x,h4,h5⟩:=(kB hv h.lt hm1).1 ht
    exact .inr (.step h hm1 h3 x h4 h5)
   ·exact .inl rfl
theorem ro {V : List Bool} (h : kC t op p U) (h' : kC t op p V) : U=V:=lz h h'
end
end Go.Ab
namespace Go.Ab
open Go.Proofs
set_option maxRecDepth 20000 in
theorem jT (R : Tr→List Bool→List Int→List Bool) (hR : lB R) (t : Tr) (p q : List Int) (hv : av t=true) :
 ub Try.prog 21 [.agg [.pv (.sl ((aw t).map iv)),.arr 2000000 t.cells.length],.pv (bR t),.pv (zs p),.pv (zs q)] [(2000000,.row 4 1 ((t.cells.map aH).map B) 0)] [(2000000,.row 4 1 ((dp R t p q).map B) 0)] (.tup []):=by
 have hz:=aS.1 (bn hv)
 have hbl:=dr hv
 have hbs:=pR hv
 have hfl : (dp R t p q).length=t.cells.length:=k7 _
 refine wJ Try.func21 rfl (by kernel_rfl) (by simp [Try.f21]) ?_ ?_
 ·constructor
  ·rfl
  ·simp
  ·intro k b h;simp at h;obtain ⟨rfl,rfl⟩:=h;rfl
  ·intro k b h;simp at h;obtain ⟨rfl,rfl⟩:=h;rfl
  ·intro k b b' h h'
   have e1:=cy h
   have e2:=cy h'
   simp at e1 e2
   obtain ⟨rfl,rfl⟩:=e1
   obtain ⟨_,rfl⟩:=e2
   simp [np,hfl]
 intro C hP hN
 simp only [Try.f21] at hN ⊢
 have hl0 : (t.cells.map aH).length=t.cells.length:=List.length_map ..
 have hfl0:=fun (x : List Int)=>zP (aw t) (t.cells.map aH) x (R t (t.cells.map aH) x) (by rw [hbl,hl0]) (by rw [hl0];omega) (by rw [hl0];omega) (fun b hb=>by have:=hbs b hb;omega) (by have:=hR t (t.cells.map aH) x hl0;rw [hl0];exact this)
 have cf1:=hfl0 p
 have cf2:=hfl0 q
 have hRl : ∀ op x,op.length=t.cells.length→(R t op x).length=t.cells.length:=fun op x h=>fT (hR t op x h)
 have hN0:=hRl (t.cells.map aH) p hl0
 have hF0:=hRl (t.cells.map aH) q hl0
 have hA0 : cp t (R t) p q 0=t.cells.map aH:=rfl
 have hfin : dp R t p q=cp t (R t) p q t.cells.length:=rfl
 rw [hfin]
 obtain ⟨n,hn⟩ : ∃ n,t.cells.length=n:=⟨_,rfl⟩
 rw [hn] at hz hbl hl0 hRl hN0 hF0 ⊢
 generalize t.cells.map aH=op0 at *
 with_reducible repeat' (first|refine Sp.h ?_|((first|refine Wd ?_|refine Ss.h ?_|refine Sc.h (cf1) ?_|refine Sc.h (cf2) ?_|(refine Sb.h ?_ ?_ ?_<;>(try intro hgd)<;>try exact Xy))<;>simp -implicitDefEqProofs (maxSteps:=2000000) [hP,hN,xM,aZ,hn,hl0,hN0,hF0]<;>try refine Ya ?_)|refine X2 ?_ ?_|(refine Xd ?_ ?_<;>intro hcd<;>try exact Xx))
 refine WP.loopN [11] n (fun i st=>st.t 4=.ptr 4 0∧st.h 4=some (.box [.pv (.sl ((aw t).map iv)),.arr 2000000 n] true false)∧st.t 5=.ptr 5 0∧st.h 5=some (.box [.pv (iv t.root),.pv (.sl (t.cells.map bf))] true false)∧st.t 2=.pv (zs p)∧st.t 3=.pv (zs q)∧st.t 21=.pv (.sl (t.cells.map bf))∧st.t 22=.pv (Z n)∧st.t 8=.arr 16 n∧st.t 9=.arr 19 n∧st.t 23=.pv (Z i)∧st.h 11=none∧st.h 56=none∧st.h 65=none∧st.h 2000000=some (.row 4 1 ((cp t (R t) p q i).map B) 0)∧st.h 16=some (.row 4 1 ((R t (cp t (R t) p q i) p).map B) 0)∧st.h 19=some (.row 4 1 ((R t (cp t (R t) p q i) q).map B) 0)) (by simp [hA0,hn,hN0,hF0]) ?_
 rintro i st hi ⟨g4,b4,g5,b5,g2,g3,jT,g22,g8,g9,g23,b11,b56,b65,hbO,hbN,hbF⟩
 have hopl:=k7 (t:=t) (R:=R t) (p:=p) (q:=q) i
 rw [hn] at hopl
 have hNO:=hR t (cp t (R t) p q i) p (by rw [hopl,hn])
 have hFO:=hR t (cp t (R t) p q i) q (by rw [hopl,hn])
 have hst : cp t (R t) p q (i+1)=if (eL t i && !(kE t (R t) p q (cp t (R t) p q i) i))=true then (cp t (R t) p q i).set i true else cp t (R t) p q i:=rfl
 have hmt : kE t (R t) p q (cp t (R t) p q i) i=(jW (aw t) i (R t (cp t (R t) p q i) p) p && jW (aw t) i (R t (cp t (R t) p q i) q) q):=rfl
 rw [hmt] at hst
 clear hmt
 by_cases hlt : i < n
 ·have hw:=ak hlt (by omega)
  have hci:=cF (t:=t) (i:=i) (by omega)
  have hce : ∀ h,t.cells[i]'h=aJ t i:=fun h=>aP hci h
  have hilt : i < t.cells.length:=by omega
  have hcol : eL t i=di (aJ t i):=rfl
  have cc:=tg (aJ t i)
  rw [← hcol] at cc
  generalize aJ t i=c at *
  clear hcol
  generalize cp t (R t) p q (i+1)=op2 at *
  generalize cp t (R t) p q i=op at *
  have hNl:=fT hNO
  have hFl:=fT hFO
  cases hcl : eL t i with
  |false=>
   rw [hcl] at cc hst
   rw [Bool.false_and,if_neg (by decide)] at hst
   subst hst
   with_reducible repeat' (first|refine Sp.h ?_|((first|refine Wd ?_|refine Ss.h ?_|refine Sc.h (cc) ?_|(refine Sb.h ?_ ?_ ?_<;>(try intro hgd)<;>try exact Xy))<;>simp -implicitDefEqProofs (maxSteps:=2000000) [hP,hN,g4,b4,g5,b5,g2,g3,jT,g22,g8,g9,g23,b11,b56,b65,hbO,hbN,hbF,hlt,hilt,hw,hci,hce,hn]<;>try refine Ya ?_)|refine X2 ?_ ?_|(refine Xd ?_ ?_<;>intro hcd<;>try exact Xx))
   all_goals skip
  |true=>
   rw [hcl] at cc hst
   rw [Bool.true_and] at hst
   have cm1:=vD (aw t) op (R t op p) i p (by omega) (by omega) (by omega) (fun b hb=>by have:=hbs b hb;omega)
   have cm2:=vD (aw t) op (R t op q) i q (by omega) (by omega) (by omega) (fun b hb=>by have:=hbs b hb;omega)
   have kn:=pW hv (by rw [hopl,hn]) hNO hilt
   have kf:=pW hv (by rw [hopl,hn]) hFO hilt
   have fn:=ss hv (by rw [hopl,hn]) hNO hilt
   have ff:=ss hv (by rw [hopl,hn]) hFO hilt
   have hop'l : (op.set i true).length=n:=by rw [List.length_set,hopl]
   have hV1:=hR t (op.set i true) p (by rw [hop'l,hn])
   have hV2:=hR t (op.set i true) q (by rw [hop'l,hn])
   have csp1:=fun (h : jW (aw t) i (R t op p) p=true)=>wG (aw t) (op.set i true) _ _ (R t (op.set i true) p) [i] (by rw [hbl,hop'l]) (by rw [hop'l];omega) (fun b hb=>by have:=hbs b hb;omega) (by simp) (by rw [hop'l,← hn];exact fn h) (by rw [hop'l,← hn];exact hV1)
   have csp2:=fun (h : jW (aw t) i (R t op q) q=true)=>wG (aw t) (op.set i true) _ _ (R t (op.set i true) q) [i] (by rw [hbl,hop'l]) (by rw [hop'l];omega) (fun b hb=>by have:=hbs b hb;omega) (by simp) (by rw [hop'l,← hn];exact ff h) (by rw [hop'l,← hn];exact hV2)
   have eN:=fun h=>ro (kn h) hV1
   have eF:=fun h=>ro (kf h) hV2
   generalize jW (aw t) i (R t op p) p=m1 at *
   generalize jW (aw t) i (R t op q) q=m2 at *
   have hV1l:=fT hV1
   have hV2l:=fT hV2
   rw [hn] at hV1l hV2l hNl hFl
   have hopi : i < op.length:=by omega
   by_cases hboth : m1=true∧m2=true
   ·obtain ⟨e1,e2⟩:=hboth
    subst e1;subst e2
    rw [show (!(true && true))=false from rfl,if_neg (by decide)] at hst
    subst hst
    with_reducible repeat' (first|refine Sp.h ?_|((first|refine Wd ?_|refine Ss.h ?_|refine Sc.h (cc) ?_|refine Sc.h (cm1) ?_|refine Sc.h (cm2) ?_|(refine Sb.h ?_ ?_ ?_<;>(try intro hgd)<;>try exact Xy))<;>simp -implicitDefEqProofs (maxSteps:=2000000) [hP,hN,g4,b4,g5,b5,g2,g3,jT,g22,g8,g9,g23,b11,b56,b65,hbO,hbN,hbF,hlt,hilt,hw,hci,hce,hn,hopl,hNl,hFl]<;>try refine Ya ?_)|refine X2 ?_ ?_|(refine Xd ?_ ?_<;>intro hcd<;>try exact Xx))
    all_goals skip
   ·have hst2 : op2=op.set i true:=by rw [hst,if_pos (by cases m1<;>cases m2<;>simp_all)]
    subst hst2
    clear hst
    generalize hop' : op.set i true=op' at *
    generalize R t op' p=V1 at *
    generalize R t op' q=V2 at *
    generalize R t op p=N1 at *
    generalize R t op q=N2 at *
    have hsetB : (op.map B).set i (B true)=op'.map B:=by rw [← hop',List.map_set]
    cases m1 with
    |true=>
     have hm2 : m2=false:=by cases m2<;>simp_all
     subst hm2
     have e2:=eF rfl
     subst e2
     have csp:=csp1 rfl
     have hiN : i < N1.length:=by omega
     have hNs : (N1.map B).set i (B true)=(N1.set i true).map B:=by rw [List.map_set]
     have hNsl : (N1.set i true).length=n:=by rw [List.length_set,hNl]
     have hNne : N1.set i true≠[]:=by intro h;rw [h] at hNsl;simp at hNsl;omega
     generalize N1.set i true=N1' at *
     with_reducible repeat' (first|refine Sp.h ?_|((refine WP.handL (hn:=[56]) (pre:=[_,_,_,_]) rfl rfl rfl rfl ?_);simp -implicitDefEqProofs (maxSteps:=2000000) [hP,hN,g4,b4,g5,b5,g2,g3,jT,g22,g8,g9,g23,b11,b56,b65,hbO,hbN,hbF,hlt,hilt,hw,hci,hce,hn,hopl,hNl,hFl,hopi,hsetB,hiN,hNs])|((first|refine Wd ?_|refine Ss.h ?_|refine Sc.h (cc) ?_|refine Sc.h (cm1) ?_|refine Sc.h (cm2) ?_|(refine Sb.h ?_ ?_ ?_<;>(try intro hgd)<;>try exact Xy))<;>simp -implicitDefEqProofs (maxSteps:=2000000) [hP,hN,g4,b4,g5,b5,g2,g3,jT,g22,g8,g9,g23,b11,b56,b65,hbO,hbN,hbF,hlt,hilt,hw,hci,hce,hn,hopl,hNl,hFl,hopi,hsetB,hiN,hNs]<;>try refine Ya ?_)|refine X2 ?_ ?_|(refine Xd ?_ ?_<;>intro hcd<;>try exact Xx))
     refine ⟨47,eh (aw t) op',[(2000000,.row 4 1 (op'.map B) n)],16,56,4,1,3,1,N1'.map B,V1.map B,[i].map zN,by simp,by simp [b4,hbO,hop'l],by simp [g8,hNsl],by simp,by simp [hbN],by simp,by simp [hbN],by simp,mY _,by decide,by simp [hNne],by rw [hP];exact csp,by rw [hN];decide,?_⟩
     simp -implicitDefEqProofs (maxSteps:=2000000) [hP,hN,g4,b4,g5,b5,g2,g3,jT,g22,g8,g9,g23,b11,b56,b65,hbO,hbN,hbF]
     with_reducible repeat' (first|refine Sp.h ?_|((first|refine Wd ?_|refine Ss.h ?_|(refine Sb.h ?_ ?_ ?_<;>(try intro hgd)<;>try exact Xy))<;>simp -implicitDefEqProofs (maxSteps:=2000000) [hP,hN,g4,b4,g5,b5,g2,g3,jT,g22,g8,g9,g23,b11,b56,b65,hbO,hbN,hbF,hlt,hilt,hw,hci,hce,hn,hopl,hNl,hFl,hopi,hsetB,hiN,hNs,hV1l]<;>try refine Ya ?_)|refine X2 ?_ ?_|(refine Xd ?_ ?_<;>intro hcd<;>try exact Xx))
     all_goals skip
    |false=>
     have e1:=eN rfl
     subst e1
     cases m2 with
     |true=>
      have csp:=csp2 rfl
      have hiN : i < N2.length:=by omega
      have hNs : (N2.map B).set i (B true)=(N2.set i true).map B:=by rw [List.map_set]
      have hNsl : (N2.set i true).length=n:=by rw [List.length_set,hFl]
      have hNne : N2.set i true≠[]:=by intro h;rw [h] at hNsl;simp at hNsl;omega
      generalize N2.set i true=N2' at *
      with_reducible repeat' (first|refine Sp.h ?_|((refine WP.handL (hn:=[65]) (pre:=[_,_,_,_]) rfl rfl rfl rfl ?_);simp -implicitDefEqProofs (maxSteps:=2000000) [hP,hN,g4,b4,g5,b5,g2,g3,jT,g22,g8,g9,g23,b11,b56,b65,hbO,hbN,hbF,hlt,hilt,hw,hci,hce,hn,hopl,hNl,hFl,hopi,hsetB,hiN,hNs])|((first|refine Wd ?_|refine Ss.h ?_|refine Sc.h (cc) ?_|refine Sc.h (cm1) ?_|refine Sc.h (cm2) ?_|(refine Sb.h ?_ ?_ ?_<;>(try intro hgd)<;>try exact Xy))<;>simp -implicitDefEqProofs (maxSteps:=2000000) [hP,hN,g4,b4,g5,b5,g2,g3,jT,g22,g8,g9,g23,b11,b56,b65,hbO,hbN,hbF,hlt,hilt,hw,hci,hce,hn,hopl,hNl,hFl,hopi,hsetB,hiN,hNs]<;>try refine Ya ?_)|refine X2 ?_ ?_|(refine Xd ?_ ?_<;>intro hcd<;>try exact Xx))
      refine ⟨47,eh (aw t) op',[(2000000,.row 4 1 (op'.map B) n)],19,65,4,1,3,1,N2'.map B,V2.map B,[i].map zN,by simp,by simp [b4,hbO,hop'l],by simp [g9,hNsl],by simp,by simp [hbF],by simp,by simp [hbF],by simp,mY _,by decide,by simp [hNne],by rw [hP];exact csp,by rw [hN];decide,?_⟩
      simp -implicitDefEqProofs (maxSteps:=2000000) [hP,hN,g4,b4,g5,b5,g2,g3,jT,g22,g8,g9,g23,b11,b56,b65,hbO,hbN,hbF]
      with_reducible repeat' (first|refine Sp.h ?_|((first|refine Wd ?_|refine Ss.h ?_|(refine Sb.h ?_ ?_ ?_<;>(try intro hgd)<;>try exact Xy))<;>simp -implicitDefEqProofs (maxSteps:=2000000) [hP,hN,g4,b4,g5,b5,g2,g3,jT,g22,g8,g9,g23,b11,b56,b65,hbO,hbN,hbF,hlt,hilt,hw,hci,hce,hn,hopl,hNl,hFl,hopi,hsetB,hiN,hNs,hV2l]<;>try refine Ya ?_)|refine X2 ?_ ?_|(refine Xd ?_ ?_<;>intro hcd<;>try exact Xx))
      all_goals skip
     |false=>
      have e2:=eF rfl
      subst e2
      with_reducible repeat' (first|refine Sp.h ?_|((first|refine Wd ?_|refine Ss.h ?_|refine Sc.h (cc) ?_|refine Sc.h (cm1) ?_|refine Sc.h (cm2) ?_|(refine Sb.h ?_ ?_ ?_<;>(try intro hgd)<;>try exact Xy))<;>simp -implicitDefEqProofs (maxSteps:=2000000) [hP,hN,g4,b4,g5,b5,g2,g3,jT,g22,g8,g9,g23,b11,b56,b65,hbO,hbN,hbF,hlt,hilt,hw,hci,hce,hn,hopl,hNl,hFl,hopi,hsetB]<;>try refine Ya ?_)|refine X2 ?_ ?_|(refine Xd ?_ ?_<;>intro hcd<;>try exact Xx))
      all_goals skip
 ·have hin : i=n:=by omega
  subst hin
  with_reducible repeat' (first|refine Sp.h ?_|((first|refine Wd ?_|refine Ss.h ?_|(refine Sb.h ?_ ?_ ?_<;>(try intro hgd)<;>try exact Xy))<;>simp -implicitDefEqProofs (maxSteps:=2000000) [hP,hN,g4,b4,g5,b5,g2,g3,jT,g22,g8,g9,g23,b11,b56,b65,hbO,hbN,hbF,hlt]<;>try refine Ya ?_)|refine X2 ?_ ?_|(refine Xd ?_ ?_<;>intro hcd<;>try exact Xx))
  all_goals exact ⟨rfl,⟨_,rfl,_,rfl⟩,by intro kb h;simp only [List.mem_cons,List.not_mem_nil,or_false] at h;subst h;simp [hbO]⟩
end Go.Ab
namespace Go.Ab
section
variable {C : Cx} {Q : Exit→St→Prop} {st : St}
def yt (C : Cx) (hn : List Nat) (ops : Array Oper) (Q : St→Prop) (t : TypeId) (x y : Operand) (d : Nat) (post : List Oper) (st : St) : Prop:=
 ∃ e sz b z k1 k2 m ti,st.ev x=.pv (.val (.int k1 0))∧st.ev y=.pv (.val (.int k2 ((m : Nat) : Int)))∧ag C.P t=some ti∧ti.kind=.slice e sz b (some z)∧0 < sz∧z.cells.size=sz∧(b : Int) * m≤281474976710656∧(m : Int)≤9223372036854775807∧st.h d=none∧d < 2000000∧d < C.N∧
  cC C.P hn C.N ops Q post (st.put (some d) (.arr d 0) [(d,.row e sz [] 0)])
theorem WP.make0 {hn : List Nat} {id : Nat} {ops : Array Oper} {pre post : List Oper} {o : Oper} {t : TypeId} {x y : Operand} {d : Nat} (hops : ops.toList=pre++o :: post) (hop : o.op=.makeSlice t x y) (hd : o.dst=some d) (hg : o.guard=none)
 (hq : cC C.P hn C.N ops (yt C hn ops (Q .normal) t x y d post) pre st) : WP C (.region id ops false) Q st:=by
 intro a w hs
 refine wp_region_list ?_
 rw [hops]
 refine dQ (fun st1 a1 w1 hs1 hq1=>?_) hs hq
 obtain ⟨e,sz,b,z,k1,k2,m,ti,hxe,hye,hti,hkd,hsz,hzs,hb1,hb2,hdn,hd2,hdN,hrest⟩:=hq1
 obtain ⟨L,hm,hN,hdf,ht⟩:=hs1
 refine wpList_step (fun K hK=>?_)
 rw [ow hg,if_pos rfl]
 have hxr:=dM ht x
 rw [hxe] at hxr
 have hxv : a1.eval x=.int k1 0:=by
  cases hxr with
  |pv hr=>exact ao hr
 have hyr:=dM ht y
 rw [hye] at hyr
 have hyv : a1.eval y=.int k2 (m : Nat):=by
  cases hyr with
  |pv hr=>exact ao hr
 obtain ⟨hund,jt,hj,hjs,hjb,hjz⟩:=bo hti hkd
 subst hjs;subst hjb
 have hmk:=run_make (P:=C.P) w1 t e jt z hund hj hjz k1 k2 0 (m : Nat) (Int.le_refl _) (by omega) hb1 hb2
 have hrun : (execOp a1.eval o).run C.P w1=.ok (.value (.slice (some ⟨w1.heap.size,0,none⟩) 0 m)) (w1.alloc (.cells (madeCells z.cells ((m : Int).toNat * jt.size)) e)):=by
  unfold execOp
  rw [hop]
  simp only [hxv,hyv]
  simp [hmk]
 unfold Oper.wp
 rw [hrun]
 refine hK _ _ ?_
 have hx : Ext (fun _=>False) w1 (w1.alloc (.cells (madeCells z.cells ((m : Int).toNat * jt.size)) e)):=Ext.alloc _ w1 _
 have hrow:=eg (e:=e) (sz:=jt.size) (xs:=[]) (l:=⟨w1.heap.size,m,false⟩) hm hx hdn hd2 (fun _=>Nat.le_refl _) (by
  refine ⟨hsz,Nat.le_refl _,(fun x hx=>by cases hx),(fun h=>by cases h),fun _=>⟨Nat.zero_le _,by simp only [maxLen];omega,_,dn w1 _,by simp [size_madeCells],?_⟩⟩
  intro a x b p hxa
  simp at hxa)
 refine fD (fun st' a' w' hs' hq'=>⟨st',hs',hq'⟩) (st:=st1.put (some d) (.arr d 0) [(d,.row e jt.size [] 0)]) ?_ hrest
 rw [hd]
 refine cx.put hm hN hdf ht (by simp [ew];exact ⟨hdN,hd2⟩) hrow.1 ?_
 exact hrow.2
end
end Go.Ab
namespace Go.Ab
open Go.Proofs
theorem xS (xs : List (Int)) (hl : xs.length≤16777216) : am Try.prog 67 [.pv (.sl (xs.map Z))] [] [] (.pv (.sl (xs.map Z))):=by
 by_cases hx : xs=[]
 ·subst hx
  refine Dp Try.func67 ?_
  intro C hP hN
  simp only [Try.f67] at hN ⊢
  with_reducible repeat' (first|refine Sp.h ?_|((first|refine Wh [5] ?_|refine Ss.h ?_|(refine Sb.h ?_ ?_ ?_<;>(try intro hgd)<;>try exact Xy))<;>simp -implicitDefEqProofs (maxSteps:=2000000) [hP,hN])|refine X2 ?_ ?_|(refine Xd ?_ ?_<;>intro hcd<;>try exact Xx))
 ·have hne : xs.isEmpty=false:=by simp [hx]
  refine Dp Try.func67 ?_
  intro C hP hN
  simp only [Try.f67] at hN ⊢
  with_reducible repeat' (first|refine Sp.h ?_|((first|refine Wh [5] ?_|refine Ss.h ?_|(refine Sb.h ?_ ?_ ?_<;>(try intro hgd)<;>try exact Xy))<;>simp -implicitDefEqProofs (maxSteps:=2000000) [hP,hN,hx,hne,show xs.length * 8≤140737488355328 by omega,show xs.length≤9223372036854775807 by omega])|refine X2 ?_ ?_|(refine Xd ?_ ?_<;>intro hcd<;>try exact Xx))
theorem xT (xs : List (Int × Int)) (hl : xs.length≤16777216) : am Try.prog 43 [.pv (.sl (xs.map uP))] [] [] (.pv (.sl (xs.map uP))):=by
 by_cases hx : xs=[]
 ·subst hx
  refine Dp Try.func43 ?_
  intro C hP hN
  simp only [Try.f43] at hN ⊢
  with_reducible repeat' (first|refine Sp.h ?_|((first|refine Wh [5] ?_|refine Ss.h ?_|(refine Sb.h ?_ ?_ ?_<;>(try intro hgd)<;>try exact Xy))<;>simp -implicitDefEqProofs (maxSteps:=2000000) [hP,hN])|refine X2 ?_ ?_|(refine Xd ?_ ?_<;>intro hcd<;>try exact Xx))
 ·have hne : xs.isEmpty=false:=by simp [hx]
  refine Dp Try.func43 ?_
  intro C hP hN
  simp only [Try.f43] at hN ⊢
  with_reducible repeat' (first|refine Sp.h ?_|((first|refine Wh [5] ?_|refine Ss.h ?_|(refine Sb.h ?_ ?_ ?_<;>(try intro hgd)<;>try exact Xy))<;>simp -implicitDefEqProofs (maxSteps:=2000000) [hP,hN,hx,hne,show xs.length * 16≤140737488355328 by omega,show xs.length≤9223372036854775807 by omega])|refine X2 ?_ ?_|(refine Xd ?_ ?_<;>intro hcd<;>try exact Xx))
theorem zn (xs : List (Int × Int × Int)) (hl : xs.length≤16777216) : am Try.prog 66 [.pv (.sl (xs.map oo))] [] [] (.pv (.sl (xs.map oo))):=by
 by_cases hx : xs=[]
 ·subst hx
  refine Dp Try.func66 ?_
  intro C hP hN
  simp only [Try.f66] at hN ⊢
  with_reducible repeat' (first|refine Sp.h ?_|((first|refine Wh [5] ?_|refine Ss.h ?_|(refine Sb.h ?_ ?_ ?_<;>(try intro hgd)<;>try exact Xy))<;>simp -implicitDefEqProofs (maxSteps:=2000000) [hP,hN])|refine X2 ?_ ?_|(refine Xd ?_ ?_<;>intro hcd<;>try exact Xx))
 ·have hne : xs.isEmpty=false:=by simp [hx]
  refine Dp Try.func66 ?_
  intro C hP hN
  simp only [Try.f66] at hN ⊢
  with_reducible repeat' (first|refine Sp.h ?_|((first|refine Wh [5] ?_|refine Ss.h ?_|(refine Sb.h ?_ ?_ ?_<;>(try intro hgd)<;>try exact Xy))<;>simp -implicitDefEqProofs (maxSteps:=2000000) [hP,hN,hx,hne,show xs.length * 24≤140737488355328 by omega,show xs.length≤9223372036854775807 by omega])|refine X2 ?_ ?_|(refine Xd ?_ ?_<;>intro hcd<;>try exact Xx))
def tr (c : Cel) : Prop:=c.v.nor.length≤1000000∧c.v.left.length≤1000000∧c.v.right.length≤1000000
theorem yQ (c : Cel) (hc : tr c) : am Try.prog 42 [.pv (bf c)] [] [] (.pv (bf c)):=by
 have c1:=zn c.v.nor (by have:=hc.1;omega)
 have c2:=xS c.v.left (by have:=hc.2.1;omega)
 have c3:=xS c.v.right (by have:=hc.2.2;omega)
 refine Dp Try.func42 ?_
 intro C hP hN
 simp only [Try.f42] at hN ⊢
 with_reducible repeat' (first|refine Sp.h ?_|((first|refine Ss.h ?_|refine Sc.h (c1) ?_|refine Sc.h (c2) ?_|refine Sc.h (c3) ?_|(refine Sb.h ?_ ?_ ?_<;>(try intro hgd)<;>try exact Xy))<;>simp -implicitDefEqProofs (maxSteps:=2000000) [hP,hN])|refine X2 ?_ ?_|(refine Xd ?_ ?_<;>intro hcd<;>try exact Xx))
theorem rV : ∃ ti z,ag Try.prog 24=some ti∧ti.kind=TK.slice 42 8 112 (some z)∧z.cells.size=8:=⟨_,_,xg,rfl,rfl⟩
theorem rY (t : Tr) (hr : t.root.length≤1000000) (hl : t.cells.length≤1000000) (hc : ∀ c ∈ t.cells,tr c) : am Try.prog 19 [.pv (bR t)] [] [] (.pv (bR t)):=by
 have c1:=xT t.root (by omega)
 refine Dp Try.func19 ?_
 intro C hP hN
 simp only [Try.f19] at hN ⊢
 obtain ⟨ti,z,ht1,ht2,ht3⟩:=rV
 with_reducible repeat' (first|refine Sp.h ?_|((refine WP.make0 (hn:=[]) (pre:=[_,_,_]) (post:=[_]) rfl rfl rfl rfl ?_);simp -implicitDefEqProofs (maxSteps:=2000000) [hP,hN])|((first|refine Ss.h ?_|(refine Sb.h ?_ ?_ ?_<;>(try intro hgd)<;>try exact Xy))<;>simp -implicitDefEqProofs (maxSteps:=2000000) [hP,hN])|refine X2 ?_ ?_|(refine Xd ?_ ?_<;>intro hcd<;>try exact Xx))
 refine ⟨42,8,112,z,.i64,.i64,t.cells.length,ti,by simp,by simp,by rw [hP];exact ht1,ht2,by decide,ht3,by omega,by omega,by simp,by decide,by rw [hN];decide,?_⟩
 simp -implicitDefEqProofs (maxSteps:=2000000) [hP,hN]
 with_reducible repeat' (first|refine Sp.h ?_|((first|refine Ss.h ?_|(refine Sb.h ?_ ?_ ?_<;>(try intro hgd)<;>try exact Xy))<;>simp -implicitDefEqProofs (maxSteps:=2000000) [hP,hN])|refine X2 ?_ ?_|(refine Xd ?_ ?_<;>intro hcd<;>try exact Xx))
 refine WP.loopN [5] t.cells.length (fun i st=>st.t 1=.ptr 1 0∧st.h 1=some (.box [.pv (iv t.root),.pv (.sl (t.cells.map bf))] true false)∧st.t 2=.ptr 2 0∧st.h 2=some (.box [.pv (.val (.slice none 0 0)),.pv (.val (.slice none 0 0))] true false)∧st.t 3=.arr 9 i∧st.t 11=.pv (.sl (t.cells.map bf))∧st.t 12=.pv (Z t.cells.length)∧st.t 13=.pv (Z i)∧st.h 5=none∧st.h 9=some (.row 42 8 ((t.cells.take i).map bf) 0)) (by simp) ?_
 rintro i st hi ⟨g1,b1,g2,b2,g3,g11,g12,g13,b5,b9⟩
 have hll : ((t.cells.take i).map bf).length=i:=by simp;omega
 by_cases hlt : i < t.cells.length
 ·have hw:=ak hlt (by omega)
  have hci : t.cells[i]?=some t.cells[i]:=List.getElem?_eq_getElem hlt
  have cc:=yQ t.cells[i] (hc _ (List.getElem_mem hlt))
  have hsu : (t.cells.take (i+1)).map bf=(t.cells.take i).map bf++[bf t.cells[i]]:=by rw [List.take_succ_eq_append_getElem hlt,List.map_append];rfl
  rw [hsu]
  generalize (t.cells.take i).map bf=L at *
  generalize hx : t.cells[i]=c at *
  with_reducible repeat' (first|refine Sp.h ?_|((first|refine Ss.h ?_|refine Sc.h (cc) ?_|(refine Sb.h ?_ ?_ ?_<;>(try intro hgd)<;>try exact Xy))<;>simp -implicitDefEqProofs (maxSteps:=2000000) [hP,hN,g1,b1,g2,b2,g3,g11,g12,g13,b5,b9,hlt,hw,hci,hx,hll,show (i+1) * 112≤140737488355328 by omega,show i+1≤9223372036854775807 by omega,show i≤9223372036854775806 by omega])|refine X2 ?_ ?_|(refine Xd ?_ ?_<;>intro hcd<;>try exact Xx))
  all_goals trace_state
 ·have hin : i=t.cells.length:=by omega
  subst hin
  rw [List.take_length] at b9 hll
  with_reducible repeat' (first|refine Sp.h ?_|((first|refine Ss.h ?_|refine Sc.h (c1) ?_|(refine Sb.h ?_ ?_ ?_<;>(try intro hgd)<;>try exact Xy))<;>simp -implicitDefEqProofs (maxSteps:=2000000) [hP,hN,g1,b1,g2,b2,g3,g11,g12,g13,b5,b9,hlt,hll])|refine X2 ?_ ?_|(refine Xd ?_ ?_<;>intro hcd<;>try exact Xx))
end Go.Ab
namespace Go.Ab
open Go.Proofs
def iY (t : Tr) (op : List Bool) (n i : Nat) : List Bool:=(List.range n).map fun k=>decide (i≤k) && ap t op k
theorem oV (t : Tr) (op : List Bool) (n i : Nat) : (iY t op n i).length=n:=by simp [iY]
theorem tt {t : Tr} {op : List Bool} {n i k : Nat} (h : i≤k) (hk : k < n) : (iY t op n i)[k]?=some (ap t op k):=by simp [iY,hk,h]
theorem vh (t : Tr) (op : List Bool) (n : Nat) : List.replicate n false=iY t op n n:=by
 unfold iY
 apply List.ext_getElem?
 intro k
 by_cases hk : k < n
 ·simp [hk];intro h;omega
 ·simp [hk]
theorem wN {t : Tr} {op : List Bool} {n i : Nat} (hi : i < n) : (iY t op n (i+1)).set i (ap t op i)=iY t op n i:=by
 apply List.ext_getElem?
 intro k
 rw [List.getElem?_set,oV]
 by_cases hk : k < n
 ·by_cases e : i=k
  ·subst e;simp [iY,hk]
  ·simp [iY,hk,e,show (i+1≤k↔i≤k) by omega]
 ·by_cases e : i=k
  ·subst e;exact absurd hi hk
  ·simp [iY,hk,e]
def fR (K : Nat→Bool) (n i : Nat) : List Int:=(List.range n).map fun k=>if k < i∧K k=true then ((aV K k : Nat) : Int) else 0
theorem rZ (K : Nat→Bool) (n i : Nat) : (fR K n i).length=n:=by simp [fR]
theorem vr (K : Nat→Bool) (n : Nat) : List.replicate n (0 : Int)=fR K n 0:=by simp [fR,List.map_const']
theorem xU {K : Nat→Bool} {n i : Nat} (h : K i=false) : fR K n (i+1)=fR K n i:=by
 unfold fR
 refine List.map_congr_left fun k _=>?_
 by_cases e : k=i
 ·subst e;simp [h]
 ·simp [show (k < i+1↔k < i) by omega]
theorem wO {K : Nat→Bool} {n i : Nat} (hi : i < n) (h : K i=true) : (fR K n i).set i ((aV K i : Nat) : Int)=fR K n (i+1):=by
 apply List.ext_getElem?
 intro k
 rw [List.getElem?_set,rZ]
 by_cases hk : k < n
 ·by_cases e : i=k
  ·subst e;simp [fR,hk,h]
  ·simp [fR,hk,e,show (k < i+1↔k < i) by omega]
 ·by_cases e : i=k
  ·subst e;exact absurd hi hk
  ·simp [fR,hk,e]
theorem xV {K : Nat→Bool} {n k : Nat} (hk : k < n) (h : K k=true) : (fR K n n)[k]?=some ((aV K k : Nat) : Int):=by simp [fR,hk,h]
theorem vt (t : Tr) (op : List Bool) : d9 t op 0=(List.replicate t.cells.length false).set 0 true:=rfl
set_option maxRecDepth 20000 in
theorem zQ (t : Tr) (op : List Bool) (hv : av t=true) (hop : op.length=t.cells.length) (hcs : ∀ c ∈ t.cells,tr c) : am Try.prog 22 [.pv (bR t),.pv (.sl (op.map B))] [] [] (.pv (bR (az t op))):=by
 have hz:=aS.1 (bn hv)
 have c1:=xT t.root (by omega)
 have hK0:=vt t op
 have hmg : bR (az t op)=.agg [iv t.root,.sl ((er t op t.cells.length).map bf)]:=rfl
 rw [hmg]
 have hkn:=fun i (h : i < t.cells.length)=>rm hv op h
 have hbe:=fun i (h : i < t.cells.length)=>rl hv op h
 have hin:=fun i (h : i < t.cells.length) (hl : aK t i=false)=>b6 hv h hl
 have hkd:=fun i (h : i < t.cells.length) (hl : aK t i=false)=>l4 (op:=op) hv h hl
 obtain ⟨n,hn⟩ : ∃ n,t.cells.length=n:=⟨_,rfl⟩
 have hpos : 0 < n:=by omega
 have hn2 : n≤2048:=by omega
 rw [hn] at hop ⊢
 rw [hn] at hkn hbe hK0
 have w1 : IntKind.i64.wrap ((n : Int) - 1)=(n : Int) - 1:=bP
 refine Dp Try.func22 ?_
 intro C hP hN
 simp only [Try.f22] at hN ⊢
 with_reducible repeat' (first|refine Sp.h ?_|((first|refine Wh [21] ?_|refine Wi [21] ?_|refine Ss.h ?_|(refine Sb.h ?_ ?_ ?_<;>(try intro hgd)<;>try exact Xy))<;>simp -implicitDefEqProofs (maxSteps:=2000000) [hP,hN,hn,hop,w1,show (n : Int)≤281474976710656 by omega,show (n : Int)≤9223372036854775807 by omega]<;>try refine Ya ?_)|refine X2 ?_ ?_|(refine Xd ?_ ?_<;>intro hcd<;>try exact Xx))
 have hb0 : List.replicate n (B false)=(iY t op n n).map B:=by rw [← vh,List.map_replicate]
 rw [hb0]
 refine WP.loopN [8] n (fun c st=>st.t 2=.ptr 2 0∧st.h 2=some (.box [.pv (iv t.root),.pv (.sl (t.cells.map bf))] true false)∧st.t 4=.ptr 4 0∧st.h 4=some (.box [.pv (.val (.slice none 0 0)),.pv (.val (.slice none 0 0))] true false)∧st.t 1=.pv (.sl (op.map B))∧st.t 5=.pv (Z n)∧st.t 6=.arr 21 n∧st.t 7=.pv (Z ((n : Int) - 1 - c))∧st.h 8=none∧st.h 21=some (.row 4 1 ((iY t op n (n - c)).map B) 0)∧st.h 58=none∧st.h 60=none∧st.h 13=none∧st.h 16=none∧st.h 102=none) (by simp) ?_
 rintro c st hc ⟨g2,b2,g4,b4,g1,g5,g6,g7,b8,b21,b58,b60,b13,b16,b102⟩
 by_cases hlt : c < n
 ·obtain ⟨i,hic⟩ : ∃ i,i=n - 1 - c:=⟨_,rfl⟩
  have hi : i < n:=by omega
  rw [show (n : Int) - 1 - c=(i : Int) by omega] at g7
  rw [show n - c=i+1 by omega] at b21
  have hset:=wN (t:=t) (op:=op) hi
  have hrl:=oV t op n (i+1)
  have hat:=fun k (h1 : i+1≤k) (h2 : k < n)=>tt (t:=t) (op:=op) h1 h2
  have hfin : (n : Int) - 1 - ((c : Int)+1)=(i : Int) - 1:=by omega
  have hfin2 : n - (c+1)=i:=by omega
  have hwi : IntKind.i64.wrap ((i : Int) - 1)=(i : Int) - 1:=bP
  have hi0 : 0≤(i : Int):=by omega
  have hilt : i < t.cells.length:=by omega
  have hci:=cF hilt
  have hce : ∀ h,t.cells[i]'h=aJ t i:=fun h=>aP hci h
  have cl:=vF (aJ t i)
  rw [← cg hilt] at cl
  have hbi:=hbe i hi
  have hino:=hin i hilt
  generalize hr2 : iY t op n i=r2 at *
  generalize iY t op n (i+1)=r1 at *
  generalize hcc : aJ t i=cc at *
  have hiR : i < r1.length:=by omega
  cases hl : aK t i with
  |true=>
   rw [hl] at cl hbi
   rw [if_pos rfl] at hbi
   have hio : i < op.length:=by omega
   have ho:=gU hio
   have ho':=aP ho hio
   rw [← hbi] at ho ho'
   have hsetB : (r1.map B).set i (B (ap t op i))=r2.map B:=by rw [← hset,List.map_set]
   with_reducible repeat' (first|refine Sp.h ?_|((first|refine Wd ?_|refine Ss.h ?_|refine Sc.h (cl) ?_|(refine Sb.h ?_ ?_ ?_<;>(try intro hgd)<;>try exact Xy))<;>simp -implicitDefEqProofs (maxSteps:=2000000) [hP,hN,g2,b2,g4,b4,g1,g5,g6,g7,b8,b21,b58,b60,b13,b16,b102,hlt,hi,hilt,hn,hci,hce,hio,ho,ho',hrl,hiR,hi0,hwi,hfin,hfin2,hr2,hsetB]<;>try refine Ya ?_)|refine X2 ?_ ?_|(refine Xd ?_ ?_<;>intro hcd<;>try exact Xx))
   all_goals skip
  |false=>
   rw [hl] at cl hbi
   rw [if_neg (by decide)] at hbi
   obtain ⟨_,_,_,a,b,c9,d,_⟩:=hino hl
   have e1:=hat _ a (by omega)
   have e2:=hat _ c9 (by omega)
   obtain ⟨jo,lo,hg,v0⟩:=cc
   simp only at a b c9 d e1 e2 hbi
   obtain ⟨x,rfl⟩ : ∃ x : Nat,lo=x:=⟨lo.toNat,by omega⟩
   obtain ⟨y,rfl⟩ : ∃ y : Nat,hg=y:=⟨hg.toNat,by omega⟩
   simp only [Int.toNat_natCast] at a b c9 d e1 e2 hbi
   have hx : x < r1.length:=by omega
   have hy : y < r1.length:=by omega
   have hxn : x < n:=by omega
   have hyn : y < n:=by omega
   have e1':=aP e1 hx
   have e2':=aP e2 hy
   have hsetB : (r1.map B).set i (B (ap t op i))=r2.map B:=by rw [← hset,List.map_set]
   rw [hbi] at hsetB
   generalize ap t op x=bx at *
   generalize ap t op y=by9 at *
   cases bx with
   |true=>
    rw [Bool.true_and] at hsetB
    with_reducible repeat' (first|refine Sp.h ?_|((first|refine Wd ?_|refine Ss.h ?_|refine Sc.h (cl) ?_|(refine Sb.h ?_ ?_ ?_<;>(try intro hgd)<;>try exact Xy))<;>simp -implicitDefEqProofs (maxSteps:=2000000) [hP,hN,g2,b2,g4,b4,g1,g5,g6,g7,b8,b21,b58,b60,b13,b16,b102,hlt,hi,hilt,hn,hci,hce,hrl,hiR,hx,hy,hxn,hyn,e1,e2,e1',e2',hi0,hwi,hfin,hfin2,hr2,hsetB]<;>try refine Ya ?_)|refine X2 ?_ ?_|(refine Xd ?_ ?_<;>intro hcd<;>try exact Xx))
    all_goals skip
   |false=>
    rw [Bool.false_and] at hsetB
    with_reducible repeat' (first|refine Sp.h ?_|((first|refine Wd ?_|refine Ss.h ?_|refine Sc.h (cl) ?_|(refine Sb.h ?_ ?_ ?_<;>(try intro hgd)<;>try exact Xy))<;>simp -implicitDefEqProofs (maxSteps:=2000000) [hP,hN,g2,b2,g4,b4,g1,g5,g6,g7,b8,b21,b58,b60,b13,b16,b102,hlt,hi,hilt,hn,hci,hce,hrl,hiR,hx,hy,hxn,hyn,e1,e2,e1',e2',hi0,hwi,hfin,hfin2,hr2,hsetB]<;>try refine Ya ?_)|refine X2 ?_ ?_|(refine Xd ?_ ?_<;>intro hcd<;>try exact Xx))
    all_goals skip
 ·have hcn : c=n:=by omega
  have hneg : ¬ 0≤(n : Int) - 1 - c:=by omega
  have hneg2 : (n : Int) - 1 - c < 0:=by omega
  rw [show n - c=0 by omega] at b21
  clear hc hlt
  have hkr : (List.replicate n (B false)).set 0 (B true)=(d9 t op 0).map B:=by rw [hK0,List.map_set,List.map_replicate]
  with_reducible repeat' (first|refine Sp.h ?_|((first|refine Wh [58,60] ?_|refine Wi [58,60] ?_|refine Ss.h ?_|(refine Sb.h ?_ ?_ ?_<;>(try intro hgd)<;>try exact Xy))<;>simp -implicitDefEqProofs (maxSteps:=2000000) [hP,hN,g2,b2,g4,b4,g1,g5,g6,g7,b8,b21,b58,b60,b13,b16,b102,hneg,hneg2,hn,hpos,show (n : Int) * 8≤281474976710656 by omega,show 8 * (n : Int)≤281474976710656 by omega,show (n : Int)≤281474976710656 by omega,show (n : Int)≤9223372036854775807 by omega]<;>try refine Ya ?_)|refine X2 ?_ ?_|(refine Xd ?_ ?_<;>intro hcd<;>try exact Xx))
  have hnr : List.replicate n (Z 0)=(fR (kp t op) n 0).map Z:=by rw [← vr,List.map_replicate]
  have hkl:=fun i=>la t op i
  rw [hn] at hkl
  have hkst:=fun i=>show d9 t op (i+1)=if (a9 (d9 t op i) i && (!aK t i && !ap t op i))=true then ((d9 t op i).set (aJ t i).low.toNat true).set (aJ t i).high.toNat true else d9 t op i from rfl
  have hn0 : aV (kp t op) 0=0:=rfl
  have hbL:=oV t op n 0
  have hbA:=fun k (h : k < n)=>tt (t:=t) (op:=op) (Nat.zero_le k) h
  generalize iY t op n 0=bk at *
  try rw [hkr]
  try rw [hnr]
  refine WP.loopN [13] n (fun i st=>st.t 2=.ptr 2 0∧st.h 2=some (.box [.pv (iv t.root),.pv (.sl (t.cells.map bf))] true false)∧st.t 4=.ptr 4 0∧st.h 4=some (.box [.pv (.val (.slice none 0 0)),.pv (.val (.slice none 0 0))] true false)∧st.t 6=.arr 21 n∧st.t 9=.arr 58 n∧st.t 10=.arr 60 n∧st.t 11=.pv (Z (aV (kp t op) i))∧st.t 64=.pv (.sl (t.cells.map bf))∧st.t 65=.pv (Z n)∧st.t 66=.pv (Z i)∧st.h 21=some (.row 4 1 (bk.map B) 0)∧st.h 58=some (.row 3 1 ((fR (kp t op) n i).map Z) 0)∧st.h 60=some (.row 4 1 ((d9 t op i).map B) 0)∧st.h 13=none∧st.h 16=none∧st.h 102=none) (by simp [g2,b2,g4,b4,g6,b21,b16,b102,hn0,hkr,hnr,hn]) ?_
  clear g2 b2 g4 b4 g1 g5 g6 g7 b8 b21 b58 b60 b13 b16 b102 st
  rintro i st hi ⟨g2,b2,g4,b4,g6,g9,g10,g11,g64,g65,g66,b21,b58,b60,b13,b16,b102⟩
  have hnl:=rZ (kp t op) n i
  have hkli:=hkl i
  by_cases hlt : i < n
  ·have hw:=ak hlt (by omega)
   have hilt : i < t.cells.length:=by omega
   have hci:=cF hilt
   have hce : ∀ h,t.cells[i]'h=aJ t i:=fun h=>aP hci h
   have cl:=vF (aJ t i)
   rw [← cg hilt] at cl
   have hK:=hkn i hlt
   have hik : i < (d9 t op i).length:=by omega
   have hko:=gU hik
   have hko':=aP hko hik
   rw [hK] at hko hko'
   have hst:=hkst i
   rw [hK] at hst
   have hnu:=xU (K:=kp t op) (n:=n) (i:=i)
   have hny:=wO (K:=kp t op) hlt
   have hns:=fH (kp t op) i
   have hnle:=lL (kp t op) i
   have hib : i < bk.length:=by omega
   have hbk:=hbA i hlt
   have hbk':=aP hbk hib
   have hino:=hin i hilt
   have hin9 : i < (fR (kp t op) n i).length:=by omega
   have hnw : IntKind.i64.wrap ((aV (kp t op) i : Int)+1)=((aV (kp t op) i+1 : Nat) : Int):=by rw [IntKind.wrap_i64];omega
   generalize d9 t op (i+1)=k2 at *
   generalize d9 t op i=k1 at *
   generalize fR (kp t op) n (i+1)=n2 at *
   generalize fR (kp t op) n i=n1 at *
   generalize aV (kp t op) (i+1)=m2 at *
   generalize aV (kp t op) i=m1 at *
   generalize hcc : aJ t i=cc at *
   cases hkp : kp t op i with
   |false=>
    rw [hkp] at hko hko' hst hns
    rw [Bool.false_and,if_neg (by decide)] at hst
    rw [if_neg (by decide)] at hns
    have hnu:=hnu hkp
    subst hst;subst hns;subst hnu
    with_reducible repeat' (first|refine Sp.h ?_|((first|refine Wd ?_|refine Ss.h ?_|(refine Sb.h ?_ ?_ ?_<;>(try intro hgd)<;>try exact Xy))<;>simp -implicitDefEqProofs (maxSteps:=2000000) [hP,hN,g2,b2,g4,b4,g6,g9,g10,g11,g64,g65,g66,b21,b58,b60,b13,b16,b102,hlt,hilt,hw,hn,hci,hce,hik,hko,hko',hkli,hnl]<;>try refine Ya ?_)|refine X2 ?_ ?_|(refine Xd ?_ ?_<;>intro hcd<;>try exact Xx))
    all_goals skip
   |true=>
    rw [hkp] at hko hko' hst hns
    rw [Bool.true_and] at hst
    rw [if_pos rfl] at hns
    have hny:=hny hkp
    have hnyZ : (n1.map Z).set i (Z (m1 : Int))=n2.map Z:=by rw [← hny,List.map_set]
    subst hns
    cases hl : aK t i with
    |true=>
     rw [hl] at cl hst
     simp only [Bool.not_true,Bool.false_and,Bool.false_eq_true,if_false] at hst
     subst hst
     with_reducible repeat' (first|refine Sp.h ?_|((first|refine Wd ?_|refine Ss.h ?_|refine Sc.h (cl) ?_|(refine Sb.h ?_ ?_ ?_<;>(try intro hgd)<;>try exact Xy))<;>simp -implicitDefEqProofs (maxSteps:=2000000) [hP,hN,g2,b2,g4,b4,g6,g9,g10,g11,g64,g65,g66,b21,b58,b60,b13,b16,b102,hlt,hilt,hw,hn,hci,hce,hik,hko,hko',hkli,hnl,hin9,hnyZ,hnw]<;>try refine Ya ?_)|refine X2 ?_ ?_|(refine Xd ?_ ?_<;>intro hcd<;>try exact Xx))
     all_goals skip
    |false=>
     rw [hl] at cl hst
     rw [Bool.not_false,Bool.true_and] at hst
     obtain ⟨_,_,_,a,b,c9,d,_⟩:=hino hl
     obtain ⟨jo,lo,hg,v0⟩:=cc
     simp only at a b c9 d hst
     obtain ⟨x,rfl⟩ : ∃ x : Nat,lo=x:=⟨lo.toNat,by omega⟩
     obtain ⟨y,rfl⟩ : ∃ y : Nat,hg=y:=⟨hg.toNat,by omega⟩
     simp only [Int.toNat_natCast] at a b c9 d hst
     cases hb : ap t op i with
     |true=>
      rw [hb] at hst hbk hbk'
      rw [Bool.not_true,if_neg (by decide)] at hst
      subst hst
      with_reducible repeat' (first|refine Sp.h ?_|((first|refine Wd ?_|refine Ss.h ?_|refine Sc.h (cl) ?_|(refine Sb.h ?_ ?_ ?_<;>(try intro hgd)<;>try exact Xy))<;>simp -implicitDefEqProofs (maxSteps:=2000000) [hP,hN,g2,b2,g4,b4,g6,g9,g10,g11,g64,g65,g66,b21,b58,b60,b13,b16,b102,hlt,hilt,hw,hn,hci,hce,hik,hko,hko',hkli,hnl,hin9,hnyZ,hnw,hib,hbk,hbk',hbL]<;>try refine Ya ?_)|refine X2 ?_ ?_|(refine Xd ?_ ?_<;>intro hcd<;>try exact Xx))
      all_goals skip
     |false=>
      rw [hb] at hst hbk hbk'
      rw [Bool.not_false,if_pos rfl] at hst
      have hstB : ((k1.map B).set x (B true)).set y (B true)=k2.map B:=by rw [hst,List.map_set,List.map_set]
      have hxl : x < n:=by omega
      have hyl : y < n:=by omega
      with_reducible repeat' (first|refine Sp.h ?_|((first|refine Wd ?_|refine Ss.h ?_|refine Sc.h (cl) ?_|(refine Sb.h ?_ ?_ ?_<;>(try intro hgd)<;>try exact Xy))<;>simp -implicitDefEqProofs (maxSteps:=2000000) [hP,hN,g2,b2,g4,b4,g6,g9,g10,g11,g64,g65,g66,b21,b58,b60,b13,b16,b102,hlt,hilt,hw,hn,hci,hce,hik,hko,hko',hkli,hnl,hin9,hnyZ,hnw,hib,hbk,hbk',hbL,hxl,hyl,hstB]<;>try refine Ya ?_)|refine X2 ?_ ?_|(refine Xd ?_ ?_<;>intro hcd<;>try exact Xx))
      all_goals skip
  ·have hin : i=n:=by omega
   subst hin
   have hkA:=fun k (h : k < i)=>gU (op:=d9 t op i) (i:=k) (by rw [hkl i];exact h)
   have hkp:=fun k=>show a9 (d9 t op i) k=kp t op k by rw [kp,hn]
   simp only [hkp] at hkA
   have hnA:=fun k (h : k < i) (h2 : kp t op k=true)=>xV h h2
   have hnle:=lL (kp t op) i
   have hm0 : er t op 0=[]:=rfl
   have hms:=we t op
   have hml:=pe t op
   have hnle9:=fun k=>lL (kp t op) k
   obtain ⟨cn,hcn⟩ : ∃ cn,aV (kp t op) i=cn:=⟨_,rfl⟩
   rw [hcn] at g11
   with_reducible repeat' (first|refine Sp.h ?_|((refine WP.make0 (hn:=[]) (pre:=[_]) (post:=[_]) rfl rfl rfl rfl ?_);simp -implicitDefEqProofs (maxSteps:=2000000) [hP,hN,g2,b2,g4,b4,g6,g9,g10,g11,g64,g65,g66,b21,b58,b60,b13,b16,b102,hlt,hn])|((first|refine Wd ?_|refine Ss.h ?_|(refine Sb.h ?_ ?_ ?_<;>(try intro hgd)<;>try exact Xy))<;>simp -implicitDefEqProofs (maxSteps:=2000000) [hP,hN,g2,b2,g4,b4,g6,g9,g10,g11,g64,g65,g66,b21,b58,b60,b13,b16,b102,hlt,hn]<;>try refine Ya ?_)|refine X2 ?_ ?_|(refine Xd ?_ ?_<;>intro hcd<;>try exact Xx))
   obtain ⟨ti,z,ht1,ht2,ht3⟩:=rV
   refine ⟨42,8,112,z,.i64,.i64,cn,ti,by simp,by simp [g11],by rw [hP];exact ht1,ht2,by decide,ht3,by omega,by omega,by simp [b102],by decide,by rw [hN];decide,?_⟩
   simp -implicitDefEqProofs (maxSteps:=2000000) [hP,hN,g2,b2,g4,b4,g6,g9,g10,g11,g64,g65,g66,b21,b58,b60,b13,b16,b102]
   with_reducible repeat' (first|refine Sp.h ?_|((first|refine Wd ?_|refine Ss.h ?_|(refine Sb.h ?_ ?_ ?_<;>(try intro hgd)<;>try exact Xy))<;>simp -implicitDefEqProofs (maxSteps:=2000000) [hP,hN,g2,b2,g4,b4,g6,g9,g10,g11,g64,g65,g66,b21,b58,b60,b13,b16,b102,hlt,hn]<;>try refine Ya ?_)|refine X2 ?_ ?_|(refine Xd ?_ ?_<;>intro hcd<;>try exact Xx))
   have hkfl:=hkl i
   generalize d9 t op i=kf at *
   generalize fR (kp t op) i i=nf at *
   refine WP.loopN [16] i (fun j st=>st.t 2=.ptr 2 0∧st.h 2=some (.box [.pv (iv t.root),.pv (.sl (t.cells.map bf))] true false)∧st.t 4=.ptr 4 0∧st.h 4=some (.box [.pv (.val (.slice none 0 0)),.pv (.val (.slice none 0 0))] true false)∧st.t 6=.arr 21 i∧st.t 9=.arr 58 i∧st.t 10=.arr 60 i∧st.t 14=.arr 102 (aV (kp t op) j)∧st.t 104=.pv (.sl (t.cells.map bf))∧st.t 105=.pv (Z i)∧st.t 106=.pv (Z j)∧st.h 21=some (.row 4 1 (bk.map B) 0)∧st.h 58=some (.row 3 1 (nf.map Z) 0)∧st.h 60=some (.row 4 1 (kf.map B) 0)∧st.h 102=some (.row 42 8 ((er t op j).map bf) 0)∧st.h 16=none) (by simp [g2,b2,g4,b4,g6,g9,g10,b21,b58,b60,b16,hm0,hn0,hn]) ?_
   clear g2 b2 g4 b4 g6 g9 g10 g11 g64 g65 g66 b21 b58 b60 b13 b16 b102 st
   rintro j st hj ⟨g2,b2,g4,b4,g6,g9,g10,g14,g104,g105,g106,b21,b58,b60,b102,b16⟩
   by_cases hjl : j < i
   ·have hw:=ak hjl (by omega)
    have hilt : j < t.cells.length:=by omega
    have hci:=cF hilt
    have hce : ∀ h,t.cells[j]'h=aJ t j:=fun h=>aP hci h
    have cl:=vF (aJ t j)
    have ccp:=yQ (aJ t j) (hcs _ (List.mem_of_getElem? hci))
    rw [← cg hilt] at cl
    have hjk : j < kf.length:=by omega
    have hko:=hkA j hjl
    have hko':=aP hko hjk
    have hib : j < bk.length:=by omega
    have hbk:=hbA j hjl
    have hbk':=aP hbk hib
    have hino:=hin j hilt
    have hkdo:=hkd j hilt
    have hMs:=hms j
    have hMl:=hml j
    have hns:=fH (kp t op) j
    have hnl9:=hnle9 j
    have hMm : ((er t op j).map bf).length=aV (kp t op) j:=by rw [List.length_map,hMl]
    have hmc : bW t op j=if ap t op j=true then aY aG else if aK t j=true then aJ t j else ⟨(aJ t j).joint,(aV (kp t op) (aJ t j).low.toNat : Nat),(aV (kp t op) (aJ t j).high.toNat : Nat),aG⟩:=rfl
    generalize aV (kp t op) (j+1)=m2 at *
    generalize er t op (j+1)=M2 at *
    generalize hcc : aJ t j=cc at *
    generalize bW t op j=mc at *
    have hMM : (er t op j++[mc]).map bf=(er t op j).map bf++[bf mc]:=by rw [List.map_append];rfl
    generalize er t op j=M1 at *
    have hnm : aV (kp t op) j≤2048:=by omega
    cases hkp9 : kp t op j with
    |false=>
     rw [hkp9] at hko hko' hMs hns
     rw [if_neg (by decide)] at hMs hns
     subst hMs;subst hns
     with_reducible repeat' (first|refine Sp.h ?_|((first|refine Wd ?_|refine Ss.h ?_|(refine Sb.h ?_ ?_ ?_<;>(try intro hgd)<;>try exact Xy))<;>simp -implicitDefEqProofs (maxSteps:=2000000) [hP,hN,g2,b2,g4,b4,g6,g9,g10,g14,g104,g105,g106,b21,b58,b60,b102,b16,hjl,hilt,hw,hn,hci,hce,hjk,hko,hko',hkfl]<;>try refine Ya ?_)|refine X2 ?_ ?_|(refine Xd ?_ ?_<;>intro hcd<;>try exact Xx))
     all_goals skip
    |true=>
     rw [hkp9] at hko hko' hMs hns
     rw [if_pos rfl] at hMs hns
     rw [hMs,hMM]
     subst hns
     generalize M1.map bf=L at *
     cases hb : ap t op j with
     |true=>
      rw [hb] at hbk hbk' hmc
      rw [if_pos rfl] at hmc
      rw [hmc,show bf (aY aG)=.agg [Z (-1),Z (-1),Z (-1),Z 0,.sl [],Z 0,.sl [],.sl []] from rfl]
      generalize aV (kp t op) j=m1 at *
      with_reducible repeat' (first|refine Sp.h ?_|((first|refine Wd ?_|refine Ss.h ?_|(refine Sb.h ?_ ?_ ?_<;>(try intro hgd)<;>try exact Xy))<;>simp -implicitDefEqProofs (maxSteps:=2000000) [hP,hN,g2,b2,g4,b4,g6,g9,g10,g14,g104,g105,g106,b21,b58,b60,b102,b16,hjl,hilt,hw,hn,hci,hce,hjk,hko,hko',hkfl,hib,hbk,hbk',hbL,hMm,show (m1+1) * 112≤140737488355328 by omega,show m1+1≤9223372036854775807 by omega,show m1≤9223372036854775806 by omega]<;>try refine Ya ?_)|refine X2 ?_ ?_|(refine Xd ?_ ?_<;>intro hcd<;>try exact Xx))
      all_goals skip
     |false=>
      rw [hb] at hbk hbk' hmc
      rw [if_neg (by decide)] at hmc
      cases hl : aK t j with
      |true=>
       rw [hl] at cl hmc
       rw [if_pos rfl] at hmc
       rw [hmc]
       generalize aV (kp t op) j=m1 at *
       with_reducible repeat' (first|refine Sp.h ?_|((first|refine Wd ?_|refine Ss.h ?_|refine Sc.h (cl) ?_|refine Sc.h (ccp) ?_|(refine Sb.h ?_ ?_ ?_<;>(try intro hgd)<;>try exact Xy))<;>simp -implicitDefEqProofs (maxSteps:=2000000) [hP,hN,g2,b2,g4,b4,g6,g9,g10,g14,g104,g105,g106,b21,b58,b60,b102,b16,hjl,hilt,hw,hn,hci,hce,hjk,hko,hko',hkfl,hib,hbk,hbk',hbL,hMm,show (m1+1) * 112≤140737488355328 by omega,show m1+1≤9223372036854775807 by omega,show m1≤9223372036854775806 by omega]<;>try refine Ya ?_)|refine X2 ?_ ?_|(refine Xd ?_ ?_<;>intro hcd<;>try exact Xx))
       all_goals skip
      |false=>
       rw [hl] at cl hmc
       rw [if_neg (by decide)] at hmc
       obtain ⟨_,_,_,a,b,c9,d,_⟩:=hino hl
       obtain ⟨k1,k2⟩:=hkdo hl
       obtain ⟨jo,lo,hg,v0⟩:=cc
       simp only at a b c9 d hmc k1 k2
       obtain ⟨x,rfl⟩ : ∃ x : Nat,lo=x:=⟨lo.toNat,by omega⟩
       obtain ⟨y,rfl⟩ : ∃ y : Nat,hg=y:=⟨hg.toNat,by omega⟩
       simp only [Int.toNat_natCast] at a b c9 d hmc k1 k2
       rw [hkp9,hb] at k1 k2
       have e1:=hnA x (by omega) k1
       have e2:=hnA y (by omega) k2
       have hxl : x < nf.length:=by omega
       have hyl : y < nf.length:=by omega
       have hxi9 : x < i:=by omega
       have hyi9 : y < i:=by omega
       have e1':=aP e1 hxl
       have e2':=aP e2 hyl
       rw [hmc,show ∀ (u v : Nat),bf ⟨jo,(u : Int),(v : Int),aG⟩=.agg [Z jo,Z (u : Int),Z (v : Int),Z 0,.sl [],Z 0,.sl [],.sl []] from fun _ _=>rfl]
       generalize aV (kp t op) x=nx9 at *
       generalize aV (kp t op) y=ny9 at *
       generalize aV (kp t op) j=m1 at *
       with_reducible repeat' (first|refine Sp.h ?_|((first|refine Wd ?_|refine Ss.h ?_|refine Sc.h (cl) ?_|(refine Sb.h ?_ ?_ ?_<;>(try intro hgd)<;>try exact Xy))<;>simp -implicitDefEqProofs (maxSteps:=2000000) [hP,hN,g2,b2,g4,b4,g6,g9,g10,g14,g104,g105,g106,b21,b58,b60,b102,b16,hjl,hilt,hw,hn,hci,hce,hjk,hko,hko',hkfl,hib,hbk,hbk',hbL,hMm,hxl,hyl,hxi9,hyi9,e1,e2,e1',e2',hnl,show (m1+1) * 112≤140737488355328 by omega,show m1+1≤9223372036854775807 by omega,show m1≤9223372036854775806 by omega]<;>try refine Ya ?_)|refine X2 ?_ ?_|(refine Xd ?_ ?_<;>intro hcd<;>try exact Xx))
       all_goals skip
   ·have hji : j=i:=by omega
    subst hji
    have hMm : ((er t op j).map bf).length=aV (kp t op) j:=by rw [List.length_map,hml]
    generalize (er t op j).map bf=L at *
    with_reducible repeat' (first|refine Sp.h ?_|((first|refine Wd ?_|refine Ss.h ?_|refine Sc.h (c1) ?_|(refine Sb.h ?_ ?_ ?_<;>(try intro hgd)<;>try exact Xy))<;>simp -implicitDefEqProofs (maxSteps:=2000000) [hP,hN,g2,b2,g4,b4,g6,g9,g10,g14,g104,g105,g106,b21,b58,b60,b102,b16,hjl,hMm]<;>try refine Ya ?_)|refine X2 ?_ ?_|(refine Xd ?_ ?_<;>intro hcd<;>try exact Xx))
    all_goals skip
end Go.Ab
namespace Go.Ab
open Go.Proofs
def qN (R : Tr→List Bool→List Int→List Bool) (t : Tr) (p q : List Int) (U : List Bool) : Tr:=if dR t p q U=true then bS R t p q else t
set_option maxRecDepth 20000 in
theorem d6 (R : Tr→List Bool→List Int→List Bool) (hR : lB R) (t : Tr) (p q : List Int) (U : List Bool) (hU : ju t p U) (hl : t.cells.length≤1000000) (hr : t.root.length≤1000000) (hcs : ∀ c ∈ t.cells,tr c) : am Try.prog 6 [.pv (bR t),.pv (zs p),.pv (zs q)] [] [] (.pv (bR (qN R t p q U))):=by
 have c0:=yr t p q U (by omega) (by omega) hU
 unfold qN
 cases hs : dR t p q U with
 |false=>
  rw [hs] at c0
  have c1:=rY t hr hl hcs
  refine Dp Try.func6 ?_
  intro C hP hN
  simp only [Try.f6] at hN ⊢
  with_reducible repeat' (first|refine Sp.h ?_|((first|refine Ss.h ?_|refine Sc.h (c0) ?_|refine Sc.h (c1) ?_|(refine Sb.h ?_ ?_ ?_<;>(try intro hgd)<;>try exact Xy))<;>simp -implicitDefEqProofs (maxSteps:=2000000) [hP,hN])|refine X2 ?_ ?_|(refine Xd ?_ ?_<;>intro hcd<;>try exact Xx))
 |true=>
  rw [hs] at c0
  rw [if_pos rfl]
  obtain ⟨hv,_,_,_⟩:=md hs
  have c1:=zm t hv
  have hg:=jT R hR t p q hv
  have hfl : (dp R t p q).length=t.cells.length:=k7 _
  have c2:=zQ t (dp R t p q) hv hfl hcs
  have he : az t (dp R t p q)=bS R t p q:=rfl
  rw [he] at c2
  generalize bS R t p q=u at *
  generalize dp R t p q=F at *
  have hl0 : (t.cells.map aH).length=t.cells.length:=List.length_map ..
  generalize t.cells.map aH=op0 at *
  refine Dp Try.func6 ?_
  intro C hP hN
  simp only [Try.f6] at hN ⊢
  with_reducible repeat' (first|refine Sp.h ?_|((refine WP.share (hn:=[]) (pre:=[_,_,_,_]) (post:=[]) rfl rfl rfl ?_);simp -implicitDefEqProofs (maxSteps:=2000000) [hP,hN,hl0])|((first|refine Ss.h ?_|refine Sc.h (c0) ?_|refine Sc.h (c1) ?_|(refine Sb.h ?_ ?_ ?_<;>(try intro hgd)<;>try exact Xy))<;>simp -implicitDefEqProofs (maxSteps:=2000000) [hP,hN,hl0])|refine X2 ?_ ?_|(refine Xd ?_ ?_<;>intro hcd<;>try exact Xx))
  simp only [sR,hP]
  refine ⟨_,_,_,_,_,fun _=>16,rfl,hg,rfl,?_⟩
  refine ⟨by simp [sA,i0,hl0],by simp [wz,jq],by simp,by intro kb h;simp only [List.mem_cons,List.not_mem_nil,or_false] at h;subst h;simp [eD],by rw [hN];rfl,?_⟩
  simp -implicitDefEqProofs (maxSteps:=2000000) [hP,hN,eI,eD,cC,hl0]
  with_reducible repeat' (first|refine Sp.h ?_|((first|refine Ss.h ?_|refine Sc.h (c2) ?_|(refine Sb.h ?_ ?_ ?_<;>(try intro hgd)<;>try exact Xy))<;>simp -implicitDefEqProofs (maxSteps:=2000000) [hP,hN,hfl,hl0])|refine X2 ?_ ?_|(refine Xd ?_ ?_<;>intro hcd<;>try exact Xx))
end Go.Ab
namespace Go.Ab
open Go.Proofs
theorem xj {P : Program} (D : Nat) {t e : TypeId} (ht : P.underlying t=some (.array 3 e)) (hs : af P (sizeOf e)=some 1) (e0 : ∀ x y : Int,af P (Op.equalIn D e (.int .i64 x) (.int .i64 y))=some (x==y)) {xs ys : Array Value} {a b c a' b' c' : Int}
 (p0 : af P (part e xs (0 * 1))=some (.int .i64 a)) (p1 : af P (part e xs (1 * 1))=some (.int .i64 b)) (p2 : af P (part e xs (2 * 1))=some (.int .i64 c))
 (q0 : af P (part e ys (0 * 1))=some (.int .i64 a')) (q1 : af P (part e ys (1 * 1))=some (.int .i64 b')) (q2 : af P (part e ys (2 * 1))=some (.int .i64 c')) :
 af P (Op.equalIn (D+1) t (.agg xs) (.agg ys))=some (a==a' && b==b' && c==c'):=by
 simp only [Op.equalIn,aa,dO ht,Option.bind_some]
 simp only [hs,Option.bind_some,Std.Legacy.Range.forIn_eq_forIn_range',Std.Legacy.Range.size]
 have hr : List.range' 0 ((3 - 0+1 - 1) / 1) 1=[0,1,2]:=by decide
 rw [hr]
 simp only [List.forIn_cons,List.forIn_nil,aa,p0,q0,e0,Option.bind_some]
 cases h1 : (a==a')
 ·simp [de]
 simp only [Bool.not_true,Bool.false_eq_true,if_false,de,Option.bind_some,aa,p1,q1,e0]
 cases h2 : (b==b')
 ·simp [de]
 simp only [Bool.not_true,Bool.false_eq_true,if_false,de,Option.bind_some,aa,p2,q2,e0]
 cases h3 : (c==c')
 ·simp [de]
 ·simp [de]
theorem yz (a b e c d f : Int) : af Try.prog (Op.equal 105 (.agg #[.int .i64 a,.int .i64 b,.int .i64 e]) (.agg #[.int .i64 c,.int .i64 d,.int .i64 f]))=some (a==c && b==d && e==f):=
 xj 9999 Try.underlying105 (by kernel_rfl) (fun x y=>nQ (P:=Try.prog) 9998 2 .i64 .i64 x y Try.underlying2) (by kernel_rfl) (by kernel_rfl) (by kernel_rfl) (by kernel_rfl) (by kernel_rfl) (by kernel_rfl)
def qC (x : AV) : Option (Int × Int × Int):=match x with
 |.pv (.val (.agg vs))=>match vs.toList with
  |[.int .i64 a,.int .i64 b,.int .i64 c]=>some (a,b,c)
  |_=>none
 |_=>none
theorem oe {x : AV} {a b c : Int} (h : qC x=some (a,b,c)) : x=.pv (oo (a,b,c)):=by
 unfold qC at h
 split at h
 ·split at h
  ·rename_i vs _ a' b' c' hv
   injection h with h;injection h with h1 h2;injection h2 with h2 h3;subst h1;subst h2;subst h3
   rw [← Array.toArray_toList (xs:=vs),hv]
  ·cases h
 ·cases h
def vT (x y : AV) (fb : Option bj) : Option bj:=match qC x,qC y with
 |some (a,b,e),some (c,d,f)=>some (.pv (.val (.bool !(a==c && b==d && e==f))),[])
 |_,_=>fb
@[simp] theorem ze (a b e c d f : Int) (fb : Option bj) : vT (.pv (.val (.agg #[.int .i64 a,.int .i64 b,.int .i64 e]))) (.pv (.val (.agg #[.int .i64 c,.int .i64 d,.int .i64 f]))) fb=some (.pv (.val (.bool !(a==c && b==d && e==f))),[]):=rfl
@[simp] theorem zR {dst : Option Nat} {ty : TypeId} {pos : String} {aft : Array Edge} {g : Option (Nat × Bool)} {ρ : Operand→AV} (x y : Operand) :
 aM Try.prog ⟨dst,.binOp .neq 105 x y 105,ty,pos,aft,g⟩ ρ=vT (ρ x) (ρ y) (oW Try.prog ⟨dst,.binOp .neq 105 x y 105,ty,pos,aft,g⟩ ρ):=by
 unfold vT
 split
 ·rename_i a b e c d f hx hy
  exact nV rfl (oe hx) (oe hy) (by kernel_rfl) (yz a b e c d f)
 ·rfl
end Go.Ab
namespace Go.Ab
open Go.Proofs
def qL (n : Nat) (v : Verd) : Prop:=v.nor.length≤n∧v.left.length≤n∧v.right.length≤n
theorem pP {α : Type} [DecidableEq α] (xs ys : List α) : hY xs ys=decide (xs=ys):=by
 unfold hY
 by_cases h : xs.length=ys.length
 ·simp [h,wL h]
 ·have : xs≠ys:=fun e=>h (by rw [e])
  simp [h,this]
theorem uR (xs : List (Int × Int × Int)) (hl : xs.length≤9223372036854775807) : am Try.prog 59 [.pv (pj xs),.pv (pj xs)] [] [] (.pv (B true)):=by
 refine Dp Try.func59 ?_
 intro C hP hN
 simp only [Try.f59] at hN ⊢
 with_reducible repeat' (first|refine Sp.h ?_|((first|refine Wd ?_|refine Ss.h ?_|(refine Sb.h ?_ ?_ ?_<;>(try intro hgd)<;>try exact Xy))<;>simp -implicitDefEqProofs (maxSteps:=2000000) [hP,hN]<;>try refine Ya ?_)|refine X2 ?_ ?_|(refine Xd ?_ ?_<;>intro hcd<;>try exact Xx))
 refine WP.loopN [] xs.length (fun i st=>st.t 0=.pv (pj xs)∧st.t 1=.pv (pj xs)∧st.t 5=.pv (Z i)) (by simp) ?_
 rintro i st hi ⟨h0,h1,h2⟩
 by_cases hlt : i < xs.length
 ·have hw:=ak hlt hl
  with_reducible repeat' (first|refine Sp.h ?_|((first|refine Wd ?_|refine Ss.h ?_|(refine Sb.h ?_ ?_ ?_<;>(try intro hgd)<;>try exact Xy))<;>simp -implicitDefEqProofs (maxSteps:=2000000) [hP,hN,h0,h1,h2,hlt,hw]<;>try refine Ya ?_)|refine X2 ?_ ?_|(refine Xd ?_ ?_<;>intro hcd<;>try exact Xx))
 ·skip
  with_reducible repeat' (first|refine Sp.h ?_|((first|refine Wd ?_|refine Ss.h ?_|(refine Sb.h ?_ ?_ ?_<;>(try intro hgd)<;>try exact Xy))<;>simp -implicitDefEqProofs (maxSteps:=2000000) [hP,hN,h0,h1,h2,hlt]<;>try refine Ya ?_)|refine X2 ?_ ?_|(refine Xd ?_ ?_<;>intro hcd<;>try exact Xx))
theorem wM (p : Int) (l r : List Int) (hl : l.length≤9223372036854775807) (hr : r.length≤9223372036854775807) : am Try.prog 60 [.pv (sO p l r),.pv (sO p l r)] [] [] (.pv (B true)):=by
 have c1:=vJ l l hl hl
 have c2:=vJ r r hr hr
 rw [pP,decide_eq_true rfl] at c1 c2
 refine Dp Try.func60 ?_
 intro C hP hN
 simp only [Try.f60] at hN ⊢
 with_reducible repeat' (first|refine Sp.h ?_|((first|refine Ss.h ?_|refine Sc.h (c1) ?_|refine Sc.h (c2) ?_|(refine Sb.h ?_ ?_ ?_<;>(try intro hgd)<;>try exact Xy))<;>simp -implicitDefEqProofs (maxSteps:=2000000) [hP,hN])|refine X2 ?_ ?_|(refine Xd ?_ ?_<;>intro hcd<;>try exact Xx))
theorem uS (v : Verd) (h1 : v.nor.length≤9223372036854775807) (h2 : v.left.length≤9223372036854775807) (h3 : v.right.length≤9223372036854775807) : am Try.prog 29 [.pv (jY v),.pv (jY v)] [] [] (.pv (B true)):=by
 have c1:=uR v.nor h1
 have c2:=wM v.pair v.left v.right h2 h3
 refine Dp Try.func29 ?_
 intro C hP hN
 simp only [Try.f29] at hN ⊢
 with_reducible repeat' (first|refine Sp.h ?_|((first|refine Ss.h ?_|refine Sc.h (c1) ?_|refine Sc.h (c2) ?_|(refine Sb.h ?_ ?_ ?_<;>(try intro hgd)<;>try exact Xy))<;>simp -implicitDefEqProofs (maxSteps:=2000000) [hP,hN])|refine X2 ?_ ?_|(refine Xd ?_ ?_<;>intro hcd<;>try exact Xx))
def xQ (v : Verd) : Prop:=v.nor.length≤9223372036854775807∧v.left.length≤9223372036854775807∧v.right.length≤9223372036854775807
theorem qM (t : Tr) (hr : t.root.length≤9223372036854775807) (hl : t.cells.length≤9223372036854775807) (hv : ∀ c ∈ t.cells,xQ c.v) : am Try.prog 9 [.pv (bR t),.pv (bR t)] [] [] (.pv (B true)):=by
 have c1:=td t.root t.root hr hr
 rw [pP,decide_eq_true rfl] at c1
 refine Dp Try.func9 ?_
 intro C hP hN
 simp only [Try.f9] at hN ⊢
 with_reducible repeat' (first|refine Sp.h ?_|((first|refine Wd ?_|refine Ss.h ?_|refine Sc.h (c1) ?_|(refine Sb.h ?_ ?_ ?_<;>(try intro hgd)<;>try exact Xy))<;>simp -implicitDefEqProofs (maxSteps:=2000000) [hP,hN]<;>try refine Ya ?_)|refine X2 ?_ ?_|(refine Xd ?_ ?_<;>intro hcd<;>try exact Xx))
 refine WP.loopN [6,7] t.cells.length (fun i st=>st.t 2=.ptr 2 0∧st.t 3=.ptr 3 0∧st.t 5=.pv (Z i)∧st.h 2=some (.box [.pv (iv t.root),.pv (.sl (t.cells.map bf))] true false)∧st.h 3=some (.box [.pv (iv t.root),.pv (.sl (t.cells.map bf))] true false)∧st.h 6=none∧st.h 7=none) (by simp) ?_
 rintro i st hi ⟨g2,g3,g5,hb2,hb3,hb6,hb7⟩
 by_cases hlt : i < t.cells.length
 ·have hw:=ak hlt hl
  generalize hc : t.cells[i]=c at *
  have hci : t.cells[i]?=some c:=by rw [List.getElem?_eq_getElem hlt,hc]
  obtain ⟨v1,v2,v3⟩:=hv c (List.mem_of_getElem? hci)
  have cv:=uS c.v v1 v2 v3
  with_reducible repeat' (first|refine Sp.h ?_|((first|refine Wd ?_|refine Ss.h ?_|refine Sc.h (cv) ?_|(refine Sb.h ?_ ?_ ?_<;>(try intro hgd)<;>try exact Xy))<;>simp -implicitDefEqProofs (maxSteps:=2000000) [hP,hN,g2,g3,g5,hb2,hb3,hb6,hb7,hlt,hw,hci,hc]<;>try refine Ya ?_)|refine X2 ?_ ?_|(refine Xd ?_ ?_<;>intro hcd<;>try exact Xx))
 ·skip
  with_reducible repeat' (first|refine Sp.h ?_|((first|refine Wd ?_|refine Ss.h ?_|(refine Sb.h ?_ ?_ ?_<;>(try intro hgd)<;>try exact Xy))<;>simp -implicitDefEqProofs (maxSteps:=2000000) [hP,hN,g2,g3,g5,hb2,hb3,hb6,hb7,hlt]<;>try refine Ya ?_)|refine X2 ?_ ?_|(refine Xd ?_ ?_<;>intro hcd<;>try exact Xx))
theorem uT (k : Int) : qL 16 (dj k):=by
 unfold dj qL aG
 repeat' split
 all_goals simp
def gx (n : Nat) (t : Tr) : Prop:=∀ c ∈ t.cells,qL n c.v
theorem gS (n : Nat) : qL n aG:=by simp [qL,aG]
theorem xR {n : Nat} {t : Tr} (h : gx n t) (i : Nat) : qL n (ou t i):=by
 unfold ou
 split
 ·rename_i c hc;exact h c (List.mem_of_getElem? hc)
 ·exact gS n
theorem u0 {n : Nat} {t : Tr} (h : gx n t) (i j : Int) : gx n (dC t i j):=by
 unfold dC
 split
 ·intro c hc
  simp only [eV,List.mem_append,List.mem_cons,List.not_mem_nil,or_false] at hc
  rcases hc with hc|rfl|rfl
  ·rcases List.mem_or_eq_of_mem_set hc with h'|rfl
   ·exact h c h'
   ·exact gS n
  ·exact xR h _
  ·exact xR h _
 ·exact h
theorem tn {n : Nat} {t : Tr} (h : gx n t) (i : Int) {v : Verd} (hv : qL n v) : gx n (cL t i v):=by
 unfold cL
 split
 ·intro c hc
  rcases List.mem_or_eq_of_mem_set hc with h'|rfl
  ·exact h c h'
  ·exact hv
 ·exact h
theorem rM {n : Nat} {t0 : Tr} (l : List Int) (h : gx n t0) : ∀ k,gx n (bt t0 l k).1
 |0=>h
 |k+1=>by simp only [bt];exact u0 (rM l h k) _ _
theorem rN {t0 : Tr} (m0 : Nat) (all : List Nat) (l : List Int) (h : gx 16 t0) : ∀ k,gx 16 (cV t0 m0 all l k).1
 |0=>h
 |k+1=>by simp only [cV];exact tn (rN m0 all l h k) _ (uT _)
theorem tp (l : List Int) : gx 16 (e6 l):=by
 unfold e6 nd
 refine rN _ _ _ (rM _ ?_ _) _
 intro c hc
 simp at hc;subst hc
 exact gS 16
end Go.Ab
namespace Go.Ab
open Go.Proofs
abbrev U (n : Int) : PV:=.val (.int .u64 n)
theorem fc {n : Int} (h : 0≤n) (h' : n < 18446744073709551616) : IntKind.u64.wrap n=n:=by
 simp only [IntKind.wrap,IntKind.signed,IntKind.bits]
 simp
 omega
theorem m3 {a : Int} (h : 0≤a) (h' : a < 18446744073709551616) : pq .and .u64 a 4294967295=a % 4294967296:=by
 obtain ⟨n,rfl⟩ : ∃ n : Nat,a=n:=⟨a.toNat,by omega⟩
 unfold pq
 have e : (BitVec.ofInt IntKind.u64.bits (n : Int) &&& BitVec.ofInt IntKind.u64.bits 4294967295).toNat=n % 4294967296:=by
  rw [BitVec.toNat_and]
  have e1 : (BitVec.ofInt IntKind.u64.bits (n : Int)).toNat=n:=by
   simp only [IntKind.bits,BitVec.toNat_ofInt];omega
  have e2 : (BitVec.ofInt IntKind.u64.bits 4294967295).toNat=2 ^ 32 - 1:=by decide
  rw [e1,e2,Nat.and_two_pow_sub_one_eq_mod]
 simp only [e]
 rw [fc (by omega) (by omega)]
 omega
def oc (x y : Int) : Int:=x * y / 18446744073709551616
def rh (x y : Int) : Int:=x * y % 18446744073709551616
theorem pS {x0 x1 y0 y1 : Int} (h1 : 0≤x0) (h2 : x0 < 4294967296) (h3 : 0≤x1) (h4 : x1 < 4294967296) (h5 : 0≤y0) (h6 : y0 < 4294967296) (h7 : 0≤y1) (h8 : y1 < 4294967296) :
 0≤x0 * y0∧x0 * y0≤18446744065119617025∧0≤x1 * y0∧x1 * y0≤18446744065119617025∧0≤x0 * y1∧x0 * y1≤18446744065119617025∧0≤x1 * y1∧x1 * y1≤18446744065119617025:=by
 have key : ∀ {a b : Int},0≤a→a < 4294967296→0≤b→b < 4294967296→0≤a * b∧a * b≤18446744065119617025:=by
  intro a b ha ha' hb hb'
  refine ⟨Int.mul_nonneg ha hb,?_⟩
  have:=Int.mul_le_mul (show a≤4294967295 by omega) (show b≤4294967295 by omega) hb (by decide)
  simpa using this
 have a:=key h1 h2 h5 h6
 have b:=key h3 h4 h5 h6
 have c:=key h1 h2 h7 h8
 have d:=key h3 h4 h7 h8
 exact ⟨a.1,a.2,b.1,b.2,c.1,c.2,d.1,d.2⟩
theorem x6 {x0 x1 y0 y1 : Int} (h1 : 0≤x0) (h2 : x0 < 4294967296) (h3 : 0≤x1) (h4 : x1 < 4294967296) (h5 : 0≤y0) (h6 : y0 < 4294967296) (h7 : 0≤y1) (h8 : y1 < 4294967296) :
 (x1 * 4294967296+x0) * (y1 * 4294967296+y0) / 18446744073709551616=x1 * y1+(x1 * y0+x0 * y0 / 4294967296) / 4294967296+((x1 * y0+x0 * y0 / 4294967296) % 4294967296+x0 * y1) / 4294967296:=by
 obtain ⟨a1,a2,b1,b2,c1,c2,d1,d2⟩:=pS h1 h2 h3 h4 h5 h6 h7 h8
 have e : (x1 * 4294967296+x0) * (y1 * 4294967296+y0)=x1 * y1 * 18446744073709551616+(x1 * y0) * 4294967296+(x0 * y1) * 4294967296+x0 * y0:=by
  rw [Int.add_mul,Int.mul_add,Int.mul_add]
  have e1 : x1 * 4294967296 * (y1 * 4294967296)=x1 * y1 * 18446744073709551616:=by
   rw [show (18446744073709551616 : Int)=4294967296 * 4294967296 by decide];ac_rfl
  have e2 : x1 * 4294967296 * y0=x1 * y0 * 4294967296:=by ac_rfl
  have e3 : x0 * (y1 * 4294967296)=x0 * y1 * 4294967296:=by ac_rfl
  omega
 rw [e]
 generalize x0 * y0=a at *
 generalize x1 * y0=b at *
 generalize x0 * y1=c at *
 generalize x1 * y1=d at *
 omega
set_option maxRecDepth 10000 in
theorem vH (x y : Int) (h1 : 0≤x) (h2 : x < 18446744073709551616) (h3 : 0≤y) (h4 : y < 18446744073709551616) : am Try.prog 72 [.pv (U x),.pv (U y)] [] [] (.pv (.tup [U (oc x y),U (rh x y)])):=by
 have ax:=m3 h1 h2
 have ay:=m3 h3 h4
 obtain ⟨x0,hx0⟩ : ∃ x0,x % 4294967296=x0:=⟨_,rfl⟩
 obtain ⟨x1,hx1⟩ : ∃ x1,x / 4294967296=x1:=⟨_,rfl⟩
 obtain ⟨y0,hy0⟩ : ∃ y0,y % 4294967296=y0:=⟨_,rfl⟩
 obtain ⟨y1,hy1⟩ : ∃ y1,y / 4294967296=y1:=⟨_,rfl⟩
 obtain ⟨a1,a2,b1,b2,c1,c2,d1,d2⟩:=pS (x0:=x0) (x1:=x1) (y0:=y0) (y1:=y1) (by omega) (by omega) (by omega) (by omega) (by omega) (by omega) (by omega) (by omega)
 have hhi:=x6 (x0:=x0) (x1:=x1) (y0:=y0) (y1:=y1) (by omega) (by omega) (by omega) (by omega) (by omega) (by omega) (by omega) (by omega)
 rw [show x1 * 4294967296+x0=x by omega,show y1 * 4294967296+y0=y by omega] at hhi
 have fx : x.fdiv 4294967296=x1:=by rw [Int.fdiv_eq_ediv_of_nonneg _ (by decide)];exact hx1
 have fy : y.fdiv 4294967296=y1:=by rw [Int.fdiv_eq_ediv_of_nonneg _ (by decide)];exact hy1
 have w1 : IntKind.u64.wrap (x0 * y0)=x0 * y0:=fc a1 (by omega)
 have f1 : (x0 * y0).fdiv 4294967296=x0 * y0 / 4294967296:=Int.fdiv_eq_ediv_of_nonneg _ (by decide)
 have w2 : IntKind.u64.wrap (x1 * y0)=x1 * y0:=fc b1 (by omega)
 obtain ⟨t,ht⟩ : ∃ t,x1 * y0+x0 * y0 / 4294967296=t:=⟨_,rfl⟩
 have w3 : IntKind.u64.wrap (x1 * y0+x0 * y0 / 4294967296)=t:=by rw [ht];exact fc (by omega) (by omega)
 have at_:=m3 (a:=t) (by omega) (by omega)
 have ft : t.fdiv 4294967296=t / 4294967296:=Int.fdiv_eq_ediv_of_nonneg _ (by decide)
 have w4 : IntKind.u64.wrap (x0 * y1)=x0 * y1:=fc c1 (by omega)
 have w5 : IntKind.u64.wrap (t % 4294967296+x0 * y1)=t % 4294967296+x0 * y1:=fc (by omega) (by omega)
 have f5 : (t % 4294967296+x0 * y1).fdiv 4294967296=(t % 4294967296+x0 * y1) / 4294967296:=Int.fdiv_eq_ediv_of_nonneg _ (by decide)
 have w6 : IntKind.u64.wrap (x1 * y1)=x1 * y1:=fc d1 (by omega)
 have w7 : IntKind.u64.wrap (x1 * y1+t / 4294967296)=x1 * y1+t / 4294967296:=fc (by omega) (by omega)
 rw [ht] at hhi
 have hlt : x * y / 18446744073709551616 < 18446744073709551616:=by
  have : x * y≤18446744073709551615 * 18446744073709551615:=Int.mul_le_mul (by omega) (by omega) h3 (by decide)
  omega
 have hnn : 0≤x * y / 18446744073709551616:=Int.ediv_nonneg (Int.mul_nonneg h1 h3) (by decide)
 have w8 : IntKind.u64.wrap (x1 * y1+t / 4294967296+(t % 4294967296+x0 * y1) / 4294967296)=oc x y:=by
  rw [oc,hhi]
  rw [hhi] at hlt hnn
  exact fc hnn hlt
 have w9 : IntKind.u64.wrap (x * y)=rh x y:=by
  simp only [IntKind.wrap,IntKind.signed,IntKind.bits,rh];simp
 rw [hx0] at ax
 rw [hy0] at ay
 refine Dp Try.func72 ?_
 intro C hP hN
 simp only [Try.f72] at hN ⊢
 with_reducible repeat' (first|refine Sp.h ?_|((first|refine Ss.h ?_|(refine Sb.h ?_ ?_ ?_<;>(try intro hgd)<;>try exact Xy))<;>simp -implicitDefEqProofs (maxSteps:=2000000) [hP,hN,ax,ay,fx,fy,w1,f1,w2,w3,at_,ft,w4,w5,f5,w6,w7,w8,w9,IntKind.bits])|refine X2 ?_ ?_|(refine Xd ?_ ?_<;>intro hcd<;>try exact Xx))
abbrev Fr:=Int × Int
def fS (f g : Fr) : Bool:=decide (f.1 * g.2 < g.1 * f.2)
def tB (f : Fr) : Prop:=0≤f.1∧f.1 < 9223372036854775808∧0≤f.2∧f.2 < 9223372036854775808
theorem x7 {u v : Int} : (decide (u / 18446744073709551616 < v / 18446744073709551616) || ((u / 18446744073709551616==v / 18446744073709551616) && decide (u % 18446744073709551616 < v % 18446744073709551616)))=decide (u < v):=by
 rw [Bool.eq_iff_iff]
 simp only [Bool.or_eq_true,Bool.and_eq_true,decide_eq_true_eq,beq_iff_eq]
 omega
theorem ut (f g : Fr) (hf : tB f) (hg : tB g) : am Try.prog 57 [.pv (uP f),.pv (uP g)] [] [] (.pv (B (fS f g))):=by
 obtain ⟨f1,f2,f3,f4⟩:=hf
 obtain ⟨g1,g2,g3,g4⟩:=hg
 have c1:=vH f.1 g.2 f1 (by omega) g3 (by omega)
 have c2:=vH g.1 f.2 g1 (by omega) f3 (by omega)
 have k1 : IntKind.u64.wrap f.1=f.1:=fc f1 (by omega)
 have k2 : IntKind.u64.wrap f.2=f.2:=fc f3 (by omega)
 have k3 : IntKind.u64.wrap g.1=g.1:=fc g1 (by omega)
 have k4 : IntKind.u64.wrap g.2=g.2:=fc g3 (by omega)
 have hlex : fS f g=(decide (oc f.1 g.2 < oc g.1 f.2) || ((oc f.1 g.2==oc g.1 f.2) && decide (rh f.1 g.2 < rh g.1 f.2))):=(x7 (u:=f.1 * g.2) (v:=g.1 * f.2)).symm
 rw [hlex]
 generalize oc f.1 g.2=a at *
 generalize oc g.1 f.2=b at *
 generalize rh f.1 g.2=c at *
 generalize rh g.1 f.2=d at *
 refine Dp Try.func57 ?_
 intro C hP hN
 simp only [Try.f57] at hN ⊢
 exact Gy
 all_goals (simp_all)
end Go.Ab
namespace Go.Ab
open Go.Proofs
def dl (a b : Int) : Int:=(Int.gcd a b : Int)
theorem tC {a b : Int} (hb : 0 < b) (ha : 0≤a) : dl b (a % b)=dl a b:=by
 unfold dl
 congr 1
 rw [Int.gcd_comm a b]
 obtain ⟨n,rfl⟩ : ∃ n : Nat,a=n:=⟨a.toNat,by omega⟩
 obtain ⟨m,rfl⟩ : ∃ m : Nat,b=m:=⟨b.toNat,by omega⟩
 rw [← Int.natCast_emod,Int.gcd_natCast_natCast,Int.gcd_natCast_natCast,Nat.gcd_comm m n,Nat.gcd_comm m (n % m),← Nat.gcd_rec,Nat.gcd_comm]
theorem tD {a : Int} (ha : 0≤a) : dl a 0=a:=by
 unfold dl;simp;omega
def sL (f : Fr) : Fr:=(f.1 / dl f.1 f.2,f.2 / dl f.1 f.2)
theorem vS {a b : Int} (hb : 0 < b) : 0 < dl a b:=by
 unfold dl
 have : 0 < Int.gcd a b:=Int.gcd_pos_of_ne_zero_right _ (by omega)
 omega
set_option maxRecDepth 10000 in
theorem vn (f : Fr) (ha : 0≤f.1) (hb : 0 < f.2) (h1 : f.1 < 9223372036854775808) (h2 : f.2 < 9223372036854775808) : am Try.prog 58 [.pv (uP f)] [] [] (.pv (uP (sL f))):=by
 obtain ⟨a,b⟩:=f
 simp only at ha hb h1 h2
 have hgp:=vS (a:=a) hb
 have q1 : a.tdiv (dl a b)=a / dl a b:=Int.tdiv_eq_ediv_of_nonneg ha
 have q2 : b.tdiv (dl a b)=b / dl a b:=Int.tdiv_eq_ediv_of_nonneg (by omega)
 have hn1:=Int.ediv_nonneg ha (show 0≤dl a b by omega)
 have hn2:=Int.ediv_nonneg (show 0≤b by omega) (show 0≤dl a b by omega)
 have hl1:=Int.ediv_le_self (dl a b) ha
 have hl2:=Int.ediv_le_self (dl a b) (show 0≤b by omega)
 have w1 : IntKind.i64.wrap (a / dl a b)=a / dl a b:=bP
 have w2 : IntKind.i64.wrap (b / dl a b)=b / dl a b:=bP
 have hg0 : ¬ dl a b=0:=by omega
 simp only [sL]
 generalize hG : dl a b=G at *
 refine Dp Try.func58 ?_
 intro C hP hN
 simp only [Try.f58] at hN ⊢
 refine Gz ?_
 refine WP.loopN [] b.toNat (fun i st=>∃ x y : Int,0≤x∧0≤y∧y+i≤b∧dl x y=G∧st.t 3=.pv (Z x)∧st.t 4=.pv (Z y)∧st.t 1=.ptr 1 0∧st.t 2=.ptr 2 0∧st.h 1=some (.box [.pv (Z a),.pv (Z b)] true false)∧st.h 2=some (.box [.pv (Z 0),.pv (Z 0)] true false)) (by exact ⟨a,b,ha,by omega,by simp,hG,by simp⟩) ?_
 rintro i st hi ⟨x,y,hx,hy,hyi,hg,g3,g4,g1,g2,hb1,hb2⟩
 by_cases hlt : y=0
 ·subst hlt
  rw [tD hx] at hg
  subst hg
  exact Gy
 ·have hm : x.tmod y=x % y:=Int.tmod_eq_emod_of_nonneg hx
  have h1:=Int.emod_nonneg x (show y≠0 by omega)
  have h2:=Int.emod_lt_of_pos x (show 0 < y by omega)
  have hs:=tC (show 0 < y by omega) hx
  have hne : (y !=0)=true:=by simp [hlt]
  refine Gz ?_
  all_goals (refine ⟨by omega,y,by omega,x % y,h1,by omega,by rw [hs];exact hg,rfl,rfl⟩)
end Go.Ab
namespace Go.Ab
open Go.Proofs
def cW (s : Fr × Fr) (a b lo hi : Int) : Option (Fr × Fr):=
 if b < lo∨hi < a then none
 else some (if a < lo∧fS s.1 (lo - a,b - a)=true then (lo - a,b - a) else s.1,if hi < b∧fS (hi - a,b - a) s.2=true then (hi - a,b - a) else s.2)
def jU (s : Fr × Fr) (p q : Int) (x : Int × Int) : Option (Fr × Fr):=if q < p then cW s (-p) (-q) (-x.2) (-x.1) else cW s p q x.1 x.2
def dS : Bx→List Int→List Int→Fr × Fr→Option (Fr × Fr)
 |x :: b,p :: ps,q :: qs,s=>match jU s p q x with
  |none=>none
  |some s'=>dS b ps qs s'
 |_,_,_,s=>some s
def lJ : Fr × Fr:=((0,1),(1,1))
def jw (b : Bx) (p q : List Int) : Option Fr:=match dS b p q lJ with
 |none=>none
 |some s=>if fS s.2 s.1 then none else some s.1
structure Sm (b : Bx) (p q : List Int) : Prop where
 v : aU vI b=true
 lb : b.length≤16777216
 lp : p.length=b.length
 lq : q.length=b.length
 sp : ∀ y ∈ p,-2147483648≤y∧y≤2147483648
 sq : ∀ y ∈ q,-2147483648≤y∧y≤2147483648
def mL (s : Fr × Fr) : Prop:=0≤s.1.1∧s.1.1≤4294967296∧0 < s.1.2∧s.1.2≤4294967296∧0≤s.2.1∧s.2.1≤4294967296∧0 < s.2.2∧s.2.2≤4294967296
theorem yy {s : Fr × Fr} (h : mL s) : tB s.1∧tB s.2:=by
 obtain ⟨h1,h2,h3,h4,h5,h6,h7,h8⟩:=h
 exact ⟨⟨h1,by omega,by omega,by omega⟩,⟨h5,by omega,by omega,by omega⟩⟩
theorem od {s s' : Fr × Fr} {a b lo hi : Int} (hs : mL s) (h : cW s a b lo hi=some s') (ha : -2147483648≤a) (hb : b≤2147483648) (hl : lo≤2147483648) (hh : -2147483648≤hi) (h1 : lo≤hi) (hab : a≤b) : mL s':=by
 obtain ⟨s1,s2,s3,s4,s5,s6,s7,s8⟩:=hs
 unfold cW at h
 split at h
 ·cases h
 ·injection h with h
  subst h
  unfold mL
  dsimp only
  refine ⟨?_,?_,?_,?_,?_,?_,?_,?_⟩<;>(split<;>(try dsimp only)<;>omega)
theorem ri {s s' : Fr × Fr} {p q : Int} {x : Int × Int} (hs : mL s) (h : jU s p q x=some s') (hx : aW x.1 x.2=true) (hp : -2147483648≤p∧p≤2147483648) (hq : -2147483648≤q∧q≤2147483648) : mL s':=by
 have v:=bD.1 hx
 unfold jU at h
 split at h
 ·exact od hs h (by omega) (by omega) (by omega) (by omega) (by omega) (by omega)
 ·exact od hs h (by omega) (by omega) (by omega) (by omega) (by omega) (by omega)
theorem mM {b : Bx} {p q : List Int} {i : Nat} {s : Fr × Fr} {x : Int × Int} {u v : Int} (h1 : b[i]?=some x) (h2 : p[i]?=some u) (h3 : q[i]?=some v) :
 dS (b.drop i) (p.drop i) (q.drop i) s=match jU s u v x with|none=>none|some s'=>dS (b.drop (i+1)) (p.drop (i+1)) (q.drop (i+1)) s':=by
 obtain ⟨l1,e1⟩:=List.getElem?_eq_some_iff.1 h1
 obtain ⟨l2,e2⟩:=List.getElem?_eq_some_iff.1 h2
 obtain ⟨l3,e3⟩:=List.getElem?_eq_some_iff.1 h3
 rw [List.drop_eq_getElem_cons l1,List.drop_eq_getElem_cons l2,List.drop_eq_getElem_cons l3,e1,e2,e3]
 rfl
theorem rD {b : Bx} {p q : List Int} {i : Nat} {s : Fr × Fr} (h : b.length≤i) : dS (b.drop i) (p.drop i) (q.drop i) s=some s:=by
 rw [List.drop_eq_nil_of_le h];rfl
structure EntI (b : Bx) (p q : List Int) (i : Nat) (s : Fr × Fr) : Prop where
 ok : mL s
 run : dS (b.drop i) (p.drop i) (q.drop i) s=dS b p q lJ
theorem pT (b : Bx) (p q : List Int) : EntI b p q 0 lJ:=⟨by simp [mL,lJ],by simp⟩
theorem pU {b : Bx} {p q : List Int} {i : Nat} {s s' : Fr × Fr} {x : Int × Int} {u v : Int} (hS : Sm b p q) (hI : EntI b p q i s) (h1 : b[i]?=some x) (h2 : p[i]?=some u) (h3 : q[i]?=some v) (h : jU s u v x=some s') : EntI b p q (i+1) s':=by
 refine ⟨ri hI.ok h (bC.1 hS.v _ (List.mem_of_getElem? h1)) (hS.sp _ (List.mem_of_getElem? h2)) (hS.sq _ (List.mem_of_getElem? h3)),?_⟩
 rw [← hI.run,mM h1 h2 h3,h]
theorem jV {b : Bx} {p q : List Int} {i : Nat} {s : Fr × Fr} {x : Int × Int} {u v : Int} (hI : EntI b p q i s) (h1 : b[i]?=some x) (h2 : p[i]?=some u) (h3 : q[i]?=some v) (h : jU s u v x=none) : dS b p q lJ=none:=by
 rw [← hI.run,mM h1 h2 h3,h]
theorem tE {b : Bx} {p q : List Int} {i : Nat} {s : Fr × Fr} (hI : EntI b p q i s) (h : b.length≤i) : dS b p q lJ=some s:=by
 rw [← hI.run,rD h]
abbrev Fb (f : Fr) : Blk:=.box [.pv (Z f.1),.pv (Z f.2)] true false
set_option maxRecDepth 10000 in
theorem vp (b : Bx) (p q : List Int) (hS : Sm b p q) : am Try.prog 56 [.pv (iv b),.pv (zs p),.pv (zs q)] [] [] (.pv (.tup [uP ((jw b p q).getD (0,0)),B (jw b p q).isSome])):=by
 have hbl:=hS.lb
 refine Dp Try.func56 ?_
 intro C hP hN
 simp only [Try.f56] at hN ⊢
 refine Gz ?_
 refine WP.loopN [11,16,18] b.length (fun i st=>∃ s,EntI b p q i s∧st.t 1=.pv (zs p)∧st.t 2=.pv (zs q)∧st.t 6=.ptr 6 0∧st.t 8=.ptr 8 0∧st.t 9=.ptr 9 0∧st.t 23=.pv (iv b)∧st.t 24=.pv (Z b.length)∧st.t 25=.pv (Z i)∧st.h 11=none∧st.h 16=none∧st.h 18=none∧st.h 6=some (.box [.pv (Z 0),.pv (Z 0)] true false)∧st.h 8=some (Fb s.1)∧st.h 9=some (Fb s.2)) (by exact ⟨lJ,pT b p q,by simp [lJ]⟩) ?_
 rintro i st hi0 ⟨s,hI,g1,g2,g6,g8,g9,g23,g24,g25,hb11,hb16,hb18,hb6,hb8,hb9⟩
 obtain ⟨hF1,hF2⟩:=yy hI.ok
 by_cases hlt : i < b.length
 ·have hw:=ak hlt (by omega)
  have hpl : i < p.length:=by rw [hS.lp];exact hlt
  have hql : i < q.length:=by rw [hS.lq];exact hlt
  have hbi : b[i]?=some b[i]:=List.getElem?_eq_getElem hlt
  have hpi : p[i]?=some p[i]:=List.getElem?_eq_getElem hpl
  have hqi : q[i]?=some q[i]:=List.getElem?_eq_getElem hql
  have hvx:=bD.1 (bC.1 hS.v _ (List.mem_of_getElem? hbi))
  have hpx:=hS.sp _ (List.mem_of_getElem? hpi)
  have hqx:=hS.sq _ (List.mem_of_getElem? hqi)
  generalize hbx : b[i]=x at *
  generalize hpu : p[i]=u at *
  generalize hqv : q[i]=v at *
  obtain ⟨xl,xh⟩:=x
  simp only at hvx
  by_cases hqp : v < u
  ·have hAt : jU s u v (xl,xh)=cW s (-u) (-v) (-xh) (-xl):=if_pos hqp
   have n1 : IntKind.i64.wrap (-u)=-u:=bP
   have n2 : IntKind.i64.wrap (-v)=-v:=bP
   have n3 : IntKind.i64.wrap (-xh)=-xh:=bP
   have n4 : IntKind.i64.wrap (-xl)=-xl:=bP
   obtain ⟨a,ha⟩ : ∃ a,-u=a:=⟨_,rfl⟩
   obtain ⟨b1,hb1⟩ : ∃ a,-v=a:=⟨_,rfl⟩
   obtain ⟨lo,hlo⟩ : ∃ a,-xh=a:=⟨_,rfl⟩
   obtain ⟨hi,hhi⟩ : ∃ a,-xl=a:=⟨_,rfl⟩
   rw [ha,hb1,hlo,hhi] at hAt
   rw [ha] at n1
   rw [hb1] at n2
   rw [hlo] at n3
   rw [hhi] at n4
   by_cases r1 : b1 < lo
   ·have hn:=jV hI hbi hpi hqi (by rw [hAt,cW,if_pos (.inl r1)])
    rw [jw,hn]
    exact Gy
   by_cases r2 : hi < a
   ·have hn:=jV hI hbi hpi hqi (by rw [hAt,cW,if_pos (.inr r2)])
    rw [jw,hn]
    exact Gy
   have hnx:=fun s' (h : cW s a b1 lo hi=some s')=>pU hS hI hbi hpi hqi (by rw [hAt];exact h)
   have hst : cW s a b1 lo hi=some (if a < lo∧fS s.1 (lo - a,b1 - a)=true then (lo - a,b1 - a) else s.1,if hi < b1∧fS (hi - a,b1 - a) s.2=true then (hi - a,b1 - a) else s.2):=if_neg (by omega)
   have hnx:=hnx _ hst
   clear hst
   have w1 : IntKind.i64.wrap (lo - a)=lo - a:=bP
   have w2 : IntKind.i64.wrap (b1 - a)=b1 - a:=bP
   have w3 : IntKind.i64.wrap (hi - a)=hi - a:=bP
   have c1 : a < lo→am Try.prog 57 [.pv (uP s.1),.pv (uP (lo - a,b1 - a))] [] [] (.pv (B (fS s.1 (lo - a,b1 - a)))):=fun h=>ut s.1 (lo - a,b1 - a) hF1 ⟨by simp only;omega,by simp only;omega,by simp only;omega,by simp only;omega⟩
   have c2 : hi < b1→am Try.prog 57 [.pv (uP (hi - a,b1 - a)),.pv (uP s.2)] [] [] (.pv (B (fS (hi - a,b1 - a) s.2))):=fun h=>ut (hi - a,b1 - a) s.2 ⟨by simp only;omega,by simp only;omega,by simp only;omega,by simp only;omega⟩ hF2
   generalize fS s.1 (lo - a,b1 - a)=t1 at *
   generalize fS (hi - a,b1 - a) s.2=t2 at *
   try simp only at c1 c2
   by_cases u1 : a < lo
   ·have c1:=c1 u1
    by_cases u2 : hi < b1
    ·have c2:=c2 u2
     cases t1<;>cases t2<;>simp only [u1,u2,true_and,if_true,Bool.false_eq_true,if_false] at hnx
     ·skip
      refine Gz ?_
      all_goals exact ⟨_,_,_,_,hnx,⟨rfl,rfl⟩,rfl,rfl⟩
     ·skip
      refine Gz ?_
      all_goals exact ⟨_,_,_,_,hnx,⟨rfl,rfl⟩,rfl,rfl⟩
     ·skip
      refine Gz ?_
      all_goals exact ⟨_,_,_,_,hnx,⟨rfl,rfl⟩,rfl,rfl⟩
     ·skip
      refine Gz ?_
      all_goals exact ⟨_,_,_,_,hnx,⟨rfl,rfl⟩,rfl,rfl⟩
    ·cases t1<;>simp only [u1,u2,true_and,false_and,if_true,Bool.false_eq_true,if_false] at hnx
     ·skip
      refine Gz ?_
      all_goals exact ⟨_,_,_,_,hnx,⟨rfl,rfl⟩,rfl,rfl⟩
     ·skip
      refine Gz ?_
      all_goals exact ⟨_,_,_,_,hnx,⟨rfl,rfl⟩,rfl,rfl⟩
   ·by_cases u2 : hi < b1
    ·have c2:=c2 u2
     cases t2<;>simp only [u1,u2,true_and,false_and,if_true,Bool.false_eq_true,if_false] at hnx
     ·skip
      refine Gz ?_
      all_goals exact ⟨_,_,_,_,hnx,⟨rfl,rfl⟩,rfl,rfl⟩
     ·skip
      refine Gz ?_
      all_goals exact ⟨_,_,_,_,hnx,⟨rfl,rfl⟩,rfl,rfl⟩
    ·simp only [u1,u2,false_and,if_false] at hnx
     refine Gz ?_
     all_goals exact ⟨_,_,_,_,hnx,⟨rfl,rfl⟩,rfl,rfl⟩
  ·have hAt : jU s u v (xl,xh)=cW s u v xl xh:=if_neg hqp
   by_cases r1 : v < xl
   ·have hn:=jV hI hbi hpi hqi (by rw [hAt,cW,if_pos (.inl r1)])
    rw [jw,hn]
    exact Gy
   by_cases r2 : xh < u
   ·have hn:=jV hI hbi hpi hqi (by rw [hAt,cW,if_pos (.inr r2)])
    rw [jw,hn]
    exact Gy
   have hnx:=fun s' (h : cW s u v xl xh=some s')=>pU hS hI hbi hpi hqi (by rw [hAt];exact h)
   have hst : cW s u v xl xh=some (if u < xl∧fS s.1 (xl - u,v - u)=true then (xl - u,v - u) else s.1,if xh < v∧fS (xh - u,v - u) s.2=true then (xh - u,v - u) else s.2):=if_neg (by omega)
   have hnx:=hnx _ hst
   clear hst
   have w1 : IntKind.i64.wrap (xl - u)=xl - u:=bP
   have w2 : IntKind.i64.wrap (v - u)=v - u:=bP
   have w3 : IntKind.i64.wrap (xh - u)=xh - u:=bP
   have c1 : u < xl→am Try.prog 57 [.pv (uP s.1),.pv (uP (xl - u,v - u))] [] [] (.pv (B (fS s.1 (xl - u,v - u)))):=fun h=>ut s.1 (xl - u,v - u) hF1 ⟨by simp only;omega,by simp only;omega,by simp only;omega,by simp only;omega⟩
   have c2 : xh < v→am Try.prog 57 [.pv (uP (xh - u,v - u)),.pv (uP s.2)] [] [] (.pv (B (fS (xh - u,v - u) s.2))):=fun h=>ut (xh - u,v - u) s.2 ⟨by simp only;omega,by simp only;omega,by simp only;omega,by simp only;omega⟩ hF2
   generalize fS s.1 (xl - u,v - u)=t1 at *
   generalize fS (xh - u,v - u) s.2=t2 at *
   try simp only at c1 c2
   by_cases u1 : u < xl
   ·have c1:=c1 u1
    by_cases u2 : xh < v
    ·have c2:=c2 u2
     cases t1<;>cases t2<;>simp only [u1,u2,true_and,if_true,Bool.false_eq_true,if_false] at hnx
     ·skip
      refine Gz ?_
      all_goals exact ⟨_,_,_,_,hnx,⟨rfl,rfl⟩,rfl,rfl⟩
     ·skip
      refine Gz ?_
      all_goals exact ⟨_,_,_,_,hnx,⟨rfl,rfl⟩,rfl,rfl⟩
     ·skip
      refine Gz ?_
      all_goals exact ⟨_,_,_,_,hnx,⟨rfl,rfl⟩,rfl,rfl⟩
     ·skip
      refine Gz ?_
      all_goals exact ⟨_,_,_,_,hnx,⟨rfl,rfl⟩,rfl,rfl⟩
    ·cases t1<;>simp only [u1,u2,true_and,false_and,if_true,Bool.false_eq_true,if_false] at hnx
     ·skip
      refine Gz ?_
      all_goals exact ⟨_,_,_,_,hnx,⟨rfl,rfl⟩,rfl,rfl⟩
     ·skip
      refine Gz ?_
      all_goals exact ⟨_,_,_,_,hnx,⟨rfl,rfl⟩,rfl,rfl⟩
   ·by_cases u2 : xh < v
    ·have c2:=c2 u2
     cases t2<;>simp only [u1,u2,true_and,false_and,if_true,Bool.false_eq_true,if_false] at hnx
     ·skip
      refine Gz ?_
      all_goals exact ⟨_,_,_,_,hnx,⟨rfl,rfl⟩,rfl,rfl⟩
     ·skip
      refine Gz ?_
      all_goals exact ⟨_,_,_,_,hnx,⟨rfl,rfl⟩,rfl,rfl⟩
    ·simp only [u1,u2,false_and,if_false] at hnx
     refine Gz ?_
     all_goals exact ⟨_,_,_,_,hnx,⟨rfl,rfl⟩,rfl,rfl⟩
 ·have hd:=tE hI (by omega)
  have cl:=ut s.2 s.1 hF2 hF1
  rw [jw,hd]
  simp only
  cases hl : fS s.2 s.1 with
  |true=>
   rw [hl] at cl
   exact Gy
  |false=>
   rw [hl] at cl
   exact Gy
end Go.Ab
namespace Go.Ab
open Go.Proofs
def vE (t : Tr) (i : Nat) : Bool:=match t.cells[i]? with
 |some c=>di c
 |none=>false
def qA (t : Tr) (p q : List Int) (i : Nat) (s : Option (Fr × Nat)) : Option (Fr × Nat):=
 if vE t i then
  match jw (aD t (i : Int)) p q with
  |none=>s
  |some f=>match s with
   |none=>some (f,i)
   |some g=>if fS f g.1 then some (f,i) else some g
 else s
def gT (t : Tr) (p q : List Int) : Nat→Option (Fr × Nat)
 |0=>none
 |i+1=>qA t p q i (gT t p q i)
def dZ (line : List (List Int)) (m : Nat) : List Int:=line[m]?.getD []
def n0 (t : Tr) (line : List (List Int)) (m : Nat) : Option (Fr × Nat):=gT t (dZ line m) (dZ line (m+1)) t.cells.length
def hZ (t : Tr) (line : List (List Int)) : Nat→Nat→Option (Nat × Fr × Nat)
 |0,_=>none
 |k+1,m=>match n0 t line m with
  |some g=>some (m,sL g.1,g.2)
  |none=>hZ t line k (m+1)
def gz (t : Tr) (line : List (List Int)) : Bool:=av t && decide (2≤line.length) && decide (line.length≤1024) && aU (aR t.root) line
def ep (t : Tr) (line : List (List Int)) : Option (Nat × Fr × Nat):=if gz t line then hZ t line (line.length - 1) 0 else none
abbrev yv (x : Nat × Fr × Nat) : PV:=.val (.agg #[.int .i64 (x.1 : Int),.int .i64 x.2.1.1,.int .i64 x.2.1.2,.int .i64 (x.2.2 : Int)])
def r0 : Nat × Fr × Nat:=(0,(0,0),0)
def xY (f : Fr) : Prop:=0≤f.1∧f.1≤4294967296∧0 < f.2∧f.2≤4294967296
theorem wB {f : Fr} (h : xY f) : tB f:=by obtain ⟨h1,h2,h3,h4⟩:=h;exact ⟨h1,by omega,by omega,by omega⟩
theorem pQ : ∀ {b : Bx} {p q : List Int} {s s' : Fr × Fr},(∀ x ∈ b,aW x.1 x.2=true)→(∀ y ∈ p,-2147483648≤y∧y≤2147483648)→(∀ y ∈ q,-2147483648≤y∧y≤2147483648)→mL s→dS b p q s=some s'→mL s'
 |[],_,_,s,s',_,_,_,hs,h=>by simp [dS] at h;subst h;exact hs
 |_ :: _,[],_,s,s',_,_,_,hs,h=>by simp [dS] at h;subst h;exact hs
 |_ :: _,_ :: _,[],s,s',_,_,_,hs,h=>by simp [dS] at h;subst h;exact hs
 |x :: b,p :: ps,q :: qs,s,s',hb,hp,hq,hs,h=>by
  simp only [dS] at h
  split at h
  ·cases h
  ·rename_i s1 h1
   exact pQ (fun y hy=>hb y (List.mem_cons_of_mem _ hy)) (fun y hy=>hp y (List.mem_cons_of_mem _ hy)) (fun y hy=>hq y (List.mem_cons_of_mem _ hy)) (ri hs h1 (hb _ (by simp)) (hp _ (by simp)) (hq _ (by simp))) h
theorem r3 {b : Bx} {p q : List Int} {f : Fr} (hS : Sm b p q) (h : jw b p q=some f) : xY f:=by
 unfold jw at h
 split at h
 ·cases h
 ·rename_i s hs
  split at h
  ·cases h
  ·injection h with h
   subst h
   have:=pQ (fun x hx=>bC.1 hS.v x hx) hS.sp hS.sq (pT b p q).ok hs
   exact ⟨this.1,this.2.1,this.2.2.1,this.2.2.2.1⟩
theorem r4 {t : Tr} {p q : List Int} (hS : ∀ i,i < t.cells.length→Sm (aD t (i : Int)) p q) : ∀ {i : Nat} {g : Fr × Nat},i≤t.cells.length→gT t p q i=some g→xY g.1∧g.2 < i
 |0,g,_,h=>by simp [gT] at h
 |i+1,g,hi,h=>by
  have ih:=fun g=>r4 hS (i:=i) (g:=g) (by omega)
  simp only [gT,qA] at h
  split at h
  ·split at h
   ·have:=ih g h;exact ⟨this.1,by omega⟩
   ·rename_i f hf
    have hfk:=r3 (hS i (by omega)) hf
    split at h
    ·injection h with h;subst h;exact ⟨hfk,by simp⟩
    ·rename_i g' hg'
     split at h
     ·injection h with h;subst h;exact ⟨hfk,by simp⟩
     ·injection h with h;subst h
      have:=ih g' hg';exact ⟨this.1,by omega⟩
  ·have:=ih g h;exact ⟨this.1,by omega⟩
theorem r5 {t : Tr} {line : List (List Int)} (h : gz t line=true) {m : Nat} (hm : m < line.length) : aR t.root (dZ line m)=true:=by
 simp only [gz,Bool.and_eq_true] at h
 exact bC.1 h.2 _ (by simp [dZ,List.getElem?_eq_getElem hm])
theorem r6 {b : Bx} {c : List Int} (h : aR b c=true) : b.length=c.length:=by
 simp only [aR,Bool.and_eq_true,decide_eq_true_eq] at h
 exact h.1
theorem yw {t : Tr} (hv : av t=true) {p q : List Int} (hp : aR t.root p=true) (hq : aR t.root q=true) {i : Nat} (hi : i < t.cells.length) : Sm (aD t (i : Int)) p q:=by
 obtain ⟨_,l,v⟩:=e7 hv (c:=(i : Int)) (by simpa using hi)
 have hz:=aS.1 (bn hv)
 have l1:=r6 hp
 have l2:=r6 hq
 refine ⟨v,by omega,by omega,by omega,fun y hy=>?_,fun y hy=>?_⟩
 ·obtain ⟨k,hk⟩:=List.mem_iff_getElem?.1 hy
  exact sx hp hk
 ·obtain ⟨k,hk⟩:=List.mem_iff_getElem?.1 hy
  exact sx hq hk
theorem vo (b : Bx) (line : List (List Int)) (hb : b.length≤9223372036854775807) (hl : line.length≤9223372036854775807) : am Try.prog 55 [.pv (iv b),.pv (.sl (line.map zs))] [] [] (.pv (B (aU (aR b) line))):=by
 refine Dp Try.func55 ?_
 intro C hP hN
 simp only [Try.f55] at hN ⊢
 refine Gz ?_
 refine WP.loopN [] line.length (fun i st=>st.t 0=.pv (iv b)∧st.t 7=.pv (.sl (line.map zs))∧st.t 8=.pv (Z line.length)∧st.t 9=.pv (Z i)∧aU (aR b) (line.take i)=true) (by simp [aU]) ?_
 rintro i st hi ⟨g0,g7,g8,g9,hq⟩
 by_cases hlt : i < line.length
 ·have hw:=ak hlt (by omega)
  have hF : aR b line[i]=false→aU (aR b) line=false:=jS hlt
  have hS : aR b line[i]=true→aU (aR b) (line.take (i+1))=true:=jr hlt hq
  have ch:=uA b line[i] hb
  cases hh : aR b line[i] with
  |false=>
   rw [hh] at ch hF
   rw [hF rfl]
   exact Gy
  |true=>
   rw [hh] at ch hS
   have:=hS rfl
   exact Gy
   all_goals exact this
 ·have:=js hlt hq
  rw [this]
  exact Gy
def n6 (s : Option (Fr × Nat)) : Fr:=match s with
 |some g=>g.1
 |none=>(0,0)
def n7 (s : Option (Fr × Nat)) : Nat:=match s with
 |some g=>g.2
 |none=>0
theorem sI {t : Tr} {line : List (List Int)} {n m : Nat} (h : m < n) (hn : n0 t line m=none) : hZ t line (n - m) m=hZ t line (n - (m+1)) (m+1):=by
 obtain ⟨k,hk⟩ : ∃ k,n - m=k+1:=⟨n - m - 1,by omega⟩
 rw [hk,show n - (m+1)=k by omega]
 simp only [hZ,hn]
theorem tv {t : Tr} {line : List (List Int)} {n m : Nat} {g : Fr × Nat} (h : m < n) (hn : n0 t line m=some g) : hZ t line (n - m) m=some (m,sL g.1,g.2):=by
 obtain ⟨k,hk⟩ : ∃ k,n - m=k+1:=⟨n - m - 1,by omega⟩
 rw [hk]
 simp only [hZ,hn]
theorem tw {t : Tr} {line : List (List Int)} {n m : Nat} (h : ¬ m < n) : hZ t line (n - m) m=none:=by
 rw [show n - m=0 by omega];rfl
set_option maxRecDepth 10000 in
theorem tM (t : Tr) (line : List (List Int)) (hl : t.cells.length≤9223372036854775807) (hr : t.root.length≤9223372036854775807) (hk : line.length≤9223372036854775807) : am Try.prog 27 [.pv (bR t),.pv (.sl (line.map zs))] [] [] (.pv (.tup [yv ((ep t line).getD r0),B (ep t line).isSome])):=by
 have cv:=vP t hl
 have ci:=vo t.root line hr hk
 cases hv : av t with
 |false=>
  have hm : ep t line=none:=by simp [ep,gz,hv]
  rw [hm,r0]
  rw [hv] at cv
  refine Dp Try.func27 ?_
  intro C hP hN
  simp only [Try.f27] at hN ⊢
  exact Gy
 |true=>
 rw [hv] at cv
 by_cases h1 : line.length < 2
 ·have hm : ep t line=none:=by rw [ep,if_neg];simp [gz];omega
  rw [hm,r0]
  have h1' : (line.length : Int) < 2:=by omega
  refine Dp Try.func27 ?_
  intro C hP hN
  simp only [Try.f27] at hN ⊢
  exact Gy
 have h1' : ¬ (line.length : Int) < 2:=by omega
 by_cases h2 : 1024 < line.length
 ·have hm : ep t line=none:=by rw [ep,if_neg];simp [gz];omega
  rw [hm,r0]
  have h2' : (1024 : Int) < line.length:=by omega
  refine Dp Try.func27 ?_
  intro C hP hN
  simp only [Try.f27] at hN ⊢
  exact Gy
 have h2' : ¬ (1024 : Int) < line.length:=by omega
 cases hin : aU (aR t.root) line with
 |false=>
  have hm : ep t line=none:=by simp [ep,gz,hin]
  rw [hm,r0]
  rw [hin] at ci
  refine Dp Try.func27 ?_
  intro C hP hN
  simp only [Try.f27] at hN ⊢
  exact Gy
 |true=>
 rw [hin] at ci
 have hok : gz t line=true:=by simp [gz,hv,hin];omega
 have cb:=vQ t hv
 have hz:=aS.1 (bn hv)
 have hbl:=dr hv
 have hmc : ep t line=hZ t line (line.length - 1 - 0) 0:=by simp [ep,hok]
 have hw1 : IntKind.i64.wrap ((line.length : Int) - 1)=((line.length - 1 : Nat) : Int):=by rw [show (line.length : Int) - 1=((line.length - 1 : Nat) : Int) by omega];exact bP (by omega) (by omega)
 refine Dp Try.func27 ?_
 intro C hP hN
 simp only [Try.f27] at hN ⊢
 with_reducible repeat' (first|refine Sp.h ?_|((first|refine Wd ?_|refine Ss.h ?_|refine Sc.h (cv) ?_|refine Sc.h (ci) ?_|refine Sc.h (cb) ?_|(refine Sb.h ?_ ?_ ?_<;>(try intro hgd)<;>try exact Xy))<;>simp -implicitDefEqProofs (maxSteps:=2000000) [hP,hN,h1,h1',h2,h2',hw1]<;>try refine Ya ?_)|refine X2 ?_ ?_|(refine Xd ?_ ?_<;>intro hcd<;>try exact Xx))
 refine WP.loopN [9] (line.length - 1) (fun m st=>ep t line=hZ t line (line.length - 1 - m) m∧st.t 1=.pv (.sl (line.map zs))∧st.t 2=.ptr 2 0∧st.t 4=.ptr 4 0∧st.t 6=.pv (.sl ((aw t).map iv))∧st.t 41=.pv (Z (line.length - 1 : Nat))∧st.t 42=.pv (Z m)∧st.h 2=some (.box [.pv (iv t.root),.pv (.sl (t.cells.map bf))] true false)∧st.h 4=some (.box [.pv (Z 0),.pv (Z 0),.pv (Z 0),.pv (Z 0)] true false)∧st.h 9=none∧st.h 12=none∧st.h 13=none) (by refine ⟨hmc,?_⟩;simp) ?_
 clear hmc
 rintro m st hm ⟨hmc,g1,g2,g4,g6,g41,g42,hb2,hb4,hb9,hb12,hb13⟩
 by_cases hlt : m < line.length - 1
 ·have hw : IntKind.i64.wrap ((m : Int)+1)=(m : Int)+1:=bP
  have hltZ : (m : Int) < ((line.length - 1 : Nat) : Int):=by omega
  have hm1 : m < line.length:=by omega
  have hm2 : m+1 < line.length:=by omega
  have hm3 : (0 : Int)≤(m : Int)+1:=by omega
  have hp:=r5 hok hm1
  have hq:=r5 hok hm2
  have hSm:=fun i hi=>yw hv hp hq (i:=i) hi
  have hp1 : line[m]?=some (dZ line m):=by simp [dZ,List.getElem?_eq_getElem hm1]
  have hq1 : line[m+1]?=some (dZ line (m+1)):=by simp [dZ,List.getElem?_eq_getElem hm2]
  have hp1':=aP hp1 hm1
  have hq1':=aP hq1 hm2
  have hMM : n0 t line m=gT t (dZ line m) (dZ line (m+1)) t.cells.length:=rfl
  generalize dZ line m=p at *
  generalize dZ line (m+1)=q at *
  have hrk:=fun i g=>r4 hSm (i:=i) (g:=g)
  with_reducible repeat' (first|refine Sp.h ?_|((first|refine Wd ?_|refine Ss.h ?_|(refine Sb.h ?_ ?_ ?_<;>(try intro hgd)<;>try exact Xy))<;>simp -implicitDefEqProofs (maxSteps:=2000000) [hP,hN,g1,g2,g4,g6,g41,g42,hb2,hb4,hb9,hb12,hb13,hlt,hltZ]<;>try refine Ya ?_)|refine X2 ?_ ?_|(refine Xd ?_ ?_<;>intro hcd<;>try exact Xx))
  refine WP.loopN [12,13] t.cells.length (fun i st=>st.t 1=.pv (.sl (line.map zs))∧st.t 2=.ptr 2 0∧st.t 4=.ptr 4 0∧st.t 6=.pv (.sl ((aw t).map iv))∧st.t 7=.pv (Z m)∧st.t 8=.pv (B (gT t p q i).isSome)∧st.t 9=.ptr 9 0∧st.t 10=.pv (Z (n7 (gT t p q i)))∧st.t 41=.pv (Z (line.length - 1 : Nat))∧st.t 42=.pv (Z m)∧st.t 46=.pv (.sl (t.cells.map bf))∧st.t 47=.pv (Z t.cells.length)∧st.t 48=.pv (Z i)∧st.h 2=some (.box [.pv (iv t.root),.pv (.sl (t.cells.map bf))] true false)∧st.h 4=some (.box [.pv (Z 0),.pv (Z 0),.pv (Z 0),.pv (Z 0)] true false)∧st.h 9=some (Fb (n6 (gT t p q i)))∧st.h 12=none∧st.h 13=none) (by simp [gT,n6,n7,g1,g2,g4,g6,g41,g42,hb2,hb4,hb12,hb13]) ?_
  clear g1 g2 g4 g6 g41 g42 hb2 hb4 hb9 hb12 hb13
  rintro i st' hi ⟨y1,y2,y4,y6,y7,y8,y9,y10,y41,y42,y46,y47,y48,yb2,yb4,yb9,yb12,yb13⟩
  by_cases hil : i < t.cells.length
  ·have hwi:=ak hil (by omega)
   have hib : i < (aw t).length:=by omega
   obtain ⟨hbi,_,_⟩:=e7 hv (c:=(i : Int)) (by simpa using hil)
   rw [Int.toNat_natCast] at hbi
   have hbi':=aP hbi hib
   have ce:=vp (aD t (i : Int)) p q (hSm i hil)
   have hek:=fun f=>r3 (f:=f) (hSm i hil)
   have hsu : gT t p q (i+1)=qA t p q i (gT t p q i):=rfl
   generalize hc : t.cells[i]=c at *
   have hci : t.cells[i]?=some c:=by rw [List.getElem?_eq_getElem hil,hc]
   have cc:=tg c
   have hct : vE t i=di c:=by simp [vE,hci]
   rw [qA,hct] at hsu
   have hrki:=fun g hg=>(hrk i g (by omega) hg).1
   cases hcb : di c with
   |false=>
    rw [hcb] at cc hsu
    simp only [Bool.false_eq_true,if_false] at hsu
    rw [← hsu] at y8 y10 yb9
    with_reducible repeat' (first|refine Sp.h ?_|((first|refine Wd ?_|refine Ss.h ?_|refine Sc.h (cc) ?_|(refine Sb.h ?_ ?_ ?_<;>(try intro hgd)<;>try exact Xy))<;>simp -implicitDefEqProofs (maxSteps:=2000000) [hP,hN,y1,y2,y4,y6,y7,y8,y9,y10,y41,y42,y46,y47,y48,yb2,yb4,yb9,yb12,yb13,hil,hwi,hci,hc]<;>try refine Ya ?_)|refine X2 ?_ ?_|(refine Xd ?_ ?_<;>intro hcd<;>try exact Xx))
   |true=>
   rw [hcb] at cc hsu
   simp only [if_true] at hsu
   cases he : jw (aD t (i : Int)) p q with
   |none=>
    rw [he] at ce hsu
    simp only at hsu
    rw [← hsu] at y8 y10 yb9
    simp only [Option.getD_none,Option.isSome_none] at ce
    with_reducible repeat' (first|refine Sp.h ?_|((first|refine Wd ?_|refine Ss.h ?_|refine Sc.h (cc) ?_|refine Sc.h (ce) ?_|(refine Sb.h ?_ ?_ ?_<;>(try intro hgd)<;>try exact Xy))<;>simp -implicitDefEqProofs (maxSteps:=2000000) [hP,hN,y1,y2,y4,y6,y7,y8,y9,y10,y41,y42,y46,y47,y48,yb2,yb4,yb9,yb12,yb13,hil,hwi,hci,hc,hib,hbi,hbi',hm1,hm2,hp1,hq1,hp1',hq1',hw,hm3]<;>try refine Ya ?_)|refine X2 ?_ ?_|(refine Xd ?_ ?_<;>intro hcd<;>try exact Xx))
   |some f=>
   rw [he] at ce hsu
   simp only [Option.getD_some,Option.isSome_some] at ce
   have hfk:=wB (hek f he)
   simp only at hsu
   cases hs : gT t p q i with
   |none=>
    rw [hs] at hsu y8 y10 yb9
    simp only [Option.isSome_none,n7,n6] at hsu y8 y10 yb9
    with_reducible repeat' (first|refine Sp.h ?_|((first|refine Wd ?_|refine Ss.h ?_|refine Sc.h (cc) ?_|refine Sc.h (ce) ?_|(refine Sb.h ?_ ?_ ?_<;>(try intro hgd)<;>try exact Xy))<;>simp -implicitDefEqProofs (maxSteps:=2000000) [hP,hN,y1,y2,y4,y6,y7,y8,y9,y10,y41,y42,y46,y47,y48,yb2,yb4,yb9,yb12,yb13,hil,hwi,hci,hc,hib,hbi,hbi',hm1,hm2,hp1,hq1,hp1',hq1',hw,hm3]<;>try refine Ya ?_)|refine X2 ?_ ?_|(refine Xd ?_ ?_<;>intro hcd<;>try exact Xx))
    all_goals simp [hsu,n7,n6]
   |some g=>
    rw [hs] at hsu y8 y10 yb9
    have cl:=ut f g.1 hfk (wB (hrki g hs))
    simp only [Option.isSome_some,n7,n6] at hsu y8 y10 yb9
    cases hlf : fS f g.1 with
    |true=>
     rw [hlf] at cl hsu
     simp only [if_true] at hsu
     with_reducible repeat' (first|refine Sp.h ?_|((first|refine Wd ?_|refine Ss.h ?_|refine Sc.h (cc) ?_|refine Sc.h (ce) ?_|refine Sc.h (cl) ?_|(refine Sb.h ?_ ?_ ?_<;>(try intro hgd)<;>try exact Xy))<;>simp -implicitDefEqProofs (maxSteps:=2000000) [hP,hN,y1,y2,y4,y6,y7,y8,y9,y10,y41,y42,y46,y47,y48,yb2,yb4,yb9,yb12,yb13,hil,hwi,hci,hc,hib,hbi,hbi',hm1,hm2,hp1,hq1,hp1',hq1',hw,hm3]<;>try refine Ya ?_)|refine X2 ?_ ?_|(refine Xd ?_ ?_<;>intro hcd<;>try exact Xx))
     all_goals simp [hsu,n7,n6]
    |false=>
     rw [hlf] at cl hsu
     simp only [Bool.false_eq_true,if_false] at hsu
     with_reducible repeat' (first|refine Sp.h ?_|((first|refine Wd ?_|refine Ss.h ?_|refine Sc.h (cc) ?_|refine Sc.h (ce) ?_|refine Sc.h (cl) ?_|(refine Sb.h ?_ ?_ ?_<;>(try intro hgd)<;>try exact Xy))<;>simp -implicitDefEqProofs (maxSteps:=2000000) [hP,hN,y1,y2,y4,y6,y7,y8,y9,y10,y41,y42,y46,y47,y48,yb2,yb4,yb9,yb12,yb13,hil,hwi,hci,hc,hib,hbi,hbi',hm1,hm2,hp1,hq1,hp1',hq1',hw,hm3]<;>try refine Ya ?_)|refine X2 ?_ ?_|(refine Xd ?_ ?_<;>intro hcd<;>try exact Xx))
     all_goals simp [hsu,n7,n6]
  ·have hi' : i=t.cells.length:=by omega
   subst hi'
   rw [← hMM] at y8 y10 yb9
   cases hmm : n0 t line m with
   |none=>
    rw [hmm] at y8 y10 yb9
    have hnx:=sI hlt hmm
    rw [← hmc] at hnx
    simp only [Option.isSome_none,n7,n6] at y8 y10 yb9
    with_reducible repeat' (first|refine Sp.h ?_|((first|refine Wd ?_|refine Ss.h ?_|(refine Sb.h ?_ ?_ ?_<;>(try intro hgd)<;>try exact Xy))<;>simp -implicitDefEqProofs (maxSteps:=2000000) [hP,hN,y1,y2,y4,y6,y7,y8,y9,y10,y41,y42,y46,y47,y48,yb2,yb4,yb9,yb12,yb13,hil,hw]<;>try refine Ya ?_)|refine X2 ?_ ?_|(refine Xd ?_ ?_<;>intro hcd<;>try exact Xx))
    all_goals exact hnx
   |some g=>
    rw [hmm] at y8 y10 yb9
    obtain ⟨⟨o1,o2,o3,o4⟩,_⟩:=hrk _ g (Nat.le_refl _) (by rw [← hMM];exact hmm)
    have clo:=vn g.1 o1 o3 (by omega) (by omega)
    rw [hmc,tv hlt hmm]
    simp only [Option.isSome_some,n7,n6] at y8 y10 yb9
    with_reducible repeat' (first|refine Sp.h ?_|((first|refine Wd ?_|refine Ss.h ?_|refine Sc.h (clo) ?_|(refine Sb.h ?_ ?_ ?_<;>(try intro hgd)<;>try exact Xy))<;>simp -implicitDefEqProofs (maxSteps:=2000000) [hP,hN,y1,y2,y4,y6,y7,y8,y9,y10,y41,y42,y46,y47,y48,yb2,yb4,yb9,yb12,yb13,hil,hw]<;>try refine Ya ?_)|refine X2 ?_ ?_|(refine Xd ?_ ?_<;>intro hcd<;>try exact Xx))
 ·have hltZ : ¬ (m : Int) < ((line.length - 1 : Nat) : Int):=by omega
  rw [hmc,tw hlt,r0]
  with_reducible repeat' (first|refine Sp.h ?_|((first|refine Wd ?_|refine Ss.h ?_|(refine Sb.h ?_ ?_ ?_<;>(try intro hgd)<;>try exact Xy))<;>simp -implicitDefEqProofs (maxSteps:=2000000) [hP,hN,g1,g2,g4,g6,g41,g42,hb2,hb4,hb9,hb12,hb13,hlt,hltZ]<;>try refine Ya ?_)|refine X2 ?_ ?_|(refine Xd ?_ ?_<;>intro hcd<;>try exact Xx))
end Go.Ab
namespace Go.Ab
open Go.Proofs
def sJ (x y : AV) (fb : Option bj) : Option bj:=match rW x y with
 |some (a,b)=>some (.pv (.val (.bool (!(a==b)))),[])
 |none=>fb
@[simp] theorem yx (a b : Bool) (fb : Option bj) : sJ (.pv (.val (.bool a))) (.pv (.val (.bool b))) fb=some (.pv (.val (.bool (!(a==b)))),[]):=rfl
@[simp] theorem zu {dst : Option Nat} {ty : TypeId} {pos : String} {aft : Array Edge} {g : Option (Nat × Bool)} {ρ : Operand→AV} (x y : Operand) :
 aM Try.prog ⟨dst,.binOp .neq 4 x y 4,ty,pos,aft,g⟩ ρ=sJ (ρ x) (ρ y) (oW Try.prog ⟨dst,.binOp .neq 4 x y 4,ty,pos,aft,g⟩ ρ):=by
 unfold sJ
 split
 ·rename_i a b h
  unfold rW at h
  split at h
  ·rename_i a' b' hx hy
   injection h with h;injection h with h1 h2;subst h1;subst h2
   refine bw (by simp [Op.operands,hx,hy,bN]) ?_
   unfold execOp
   simp only [(aC hx).2,(aC hy).2]
   have h1 : af Try.prog (eqGuard .neq 4 x y (.bool a') (.bool b'))=some ():=by kernel_rfl
   have h2 : af Try.prog (binOp .neq 4 (.bool a') (.bool b'))=some (.bool (!(a'==b'))):=by
    simp only [binOp,aa]
    rw [show af Try.prog (Op.equal 4 (.bool a') (.bool b'))=some (a'==b') from si 9999 4 a' b' Try.underlying4]
    rfl
   simp only [aa,h1,h2,Option.bind_some];rfl
  ·cases h
 ·rfl
theorem zo (a b c d a' b' c' d' : Int) : af Try.prog (Op.equal 68 (.agg #[.int .i64 a,.int .i64 b,.int .i64 c,.int .i64 d]) (.agg #[.int .i64 a',.int .i64 b',.int .i64 c',.int .i64 d']))=some (a==a' && b==b' && c==c' && d==d'):=by
 have hf : (Try.prog.fieldsOf 68).toList=[(Try.prog.fieldsOf 68)[0]!,(Try.prog.fieldsOf 68)[1]!,(Try.prog.fieldsOf 68)[2]!,(Try.prog.fieldsOf 68)[3]!]:=by kernel_rfl
 show af Try.prog (Op.equalIn (9999+1) 68 _ _)=_
 rw [qt 9999 68 _ _ (by kernel_rfl) (by kernel_rfl),hf]
 have h:=l9 (P:=Try.prog) (d:=9999) (xs:=#[.int .i64 a,.int .i64 b,.int .i64 c,.int .i64 d]) (ys:=#[.int .i64 a',.int .i64 b',.int .i64 c',.int .i64 d']) (f:=(Try.prog.fieldsOf 68)[0]!) (fs:=[(Try.prog.fieldsOf 68)[1]!,(Try.prog.fieldsOf 68)[2]!,(Try.prog.fieldsOf 68)[3]!]) (a:=.int .i64 a) (b:=.int .i64 a') (by decide +kernel) (by kernel_rfl) (by kernel_rfl) (nQ 9998 _ .i64 .i64 a a' (by kernel_rfl))
  (l9 (by decide +kernel) (a:=.int .i64 b) (b:=.int .i64 b') (by kernel_rfl) (by kernel_rfl) (nQ 9998 _ .i64 .i64 b b' (by kernel_rfl))
  (l9 (by decide +kernel) (a:=.int .i64 c) (b:=.int .i64 c') (by kernel_rfl) (by kernel_rfl) (nQ 9998 _ .i64 .i64 c c' (by kernel_rfl))
  (l9 (by decide +kernel) (a:=.int .i64 d) (b:=.int .i64 d') (by kernel_rfl) (by kernel_rfl) (nQ 9998 _ .i64 .i64 d d' (by kernel_rfl)) tc)))
 rw [h];simp [Bool.and_assoc]
def qB (x : AV) : Option (Int × Int × Int × Int):=match x with
 |.pv (.val (.agg vs))=>match vs.toList with
  |[.int .i64 a,.int .i64 b,.int .i64 c,.int .i64 d]=>some (a,b,c,d)
  |_=>none
 |_=>none
theorem n8 {x : AV} {a b c d : Int} (h : qB x=some (a,b,c,d)) : x=.pv (.val (.agg #[.int .i64 a,.int .i64 b,.int .i64 c,.int .i64 d])):=by
 unfold qB at h
 split at h
 ·split at h
  ·rename_i vs _ a' b' c' d' hv
   injection h with h;injection h with h1 h2;injection h2 with h2 h3;injection h3 with h3 h4;subst h1;subst h2;subst h3;subst h4
   rw [← Array.toArray_toList (xs:=vs),hv]
  ·cases h
 ·cases h
def vO (x y : AV) (fb : Option bj) : Option bj:=match qB x,qB y with
 |some (a,b,c,d),some (a',b',c',d')=>some (.pv (.val (.bool (a==a' && b==b' && c==c' && d==d'))),[])
 |_,_=>fb
@[simp] theorem yR (a b c d a' b' c' d' : Int) (fb : Option bj) : vO (.pv (.val (.agg #[.int .i64 a,.int .i64 b,.int .i64 c,.int .i64 d]))) (.pv (.val (.agg #[.int .i64 a',.int .i64 b',.int .i64 c',.int .i64 d']))) fb=some (.pv (.val (.bool (a==a' && b==b' && c==c' && d==d'))),[]):=rfl
@[simp] theorem Ad {dst : Option Nat} {ty : TypeId} {pos : String} {aft : Array Edge} {g : Option (Nat × Bool)} {ρ : Operand→AV} (x y : Operand) :
 aM Try.prog ⟨dst,.binOp .eql 68 x y 68,ty,pos,aft,g⟩ ρ=vO (ρ x) (ρ y) (oW Try.prog ⟨dst,.binOp .eql 68 x y 68,ty,pos,aft,g⟩ ρ):=by
 unfold vO
 split
 ·rename_i a b c d a' b' c' d' hx hy
  exact pM rfl (n8 hx) (n8 hy) (by kernel_rfl) (zo a b c d a' b' c' d')
 ·rfl
def wA : Tr:=⟨[(0,8)],[aY aG]⟩
def tx : Tr:=⟨[(0,8)],[⟨0,1,2,aG⟩,aY aG,aY aG]⟩
def wC : Tr:=⟨[(0,8)],[⟨0,1,2,aG⟩,aY aG,⟨0,3,4,aG⟩,aY aG,aY aG]⟩
def wD : Tr:=⟨[(0,8)],[⟨0,1,2,aG⟩,aY aG,⟨0,3,4,aG⟩,aY (dj 1),aY aG]⟩
theorem wE : pl [(0,8)]=wA∧bX [(0,8)]=true:=⟨by kernel_rfl,by decide +kernel⟩
theorem yS : dC wA 0 0=tx∧bZ wA 0 0=true:=⟨by kernel_rfl,by kernel_rfl⟩
theorem za : dC tx 2 0=wC∧bZ tx 2 0=true:=⟨by kernel_rfl,by kernel_rfl⟩
theorem zb : cL wC 3 (dj 1)=wD∧bL wC 3 (dj 1)=true:=⟨by kernel_rfl,by kernel_rfl⟩
def wU : List Bool:=[false,true,false,false,false]
theorem wF {i : Nat} (h : cG wU i) : i=1:=by
 unfold cG wU at h
 match i,h with
 |0,h=>simp at h
 |1,_=>rfl
 |2,h=>simp at h
 |3,h=>simp at h
 |4,h=>simp at h
 |n+5,h=>simp at h
theorem zd : ju wD [1] wU:=by
 have hb : ∀ i,i < 5→(b7 wD i && ca wD [1] i)=true→i=1:=by decide +kernel
 have hc : ∀ i,i < 5→b7 wD i=true→gy wD 1 i=true→i=1:=by decide +kernel
 have h1 : cG wU 1:=rfl
 have hI : FI 5 (b7 wD) (gy wD) (lA wD [1]) wU []:=by
  refine ⟨rfl,fun i hi=>?_,fun i hi=>?_,fun i hi=>by simp at hi,fun i hi=>.inr fun k hk ho ht=>?_⟩
  ·rw [hb i hi.1 hi.2];exact h1
  ·rw [wF hi];exact .base ⟨by decide,by kernel_rfl⟩
  ·rw [wF hi] at ht
   rw [hc k hk ho ht];exact h1
 exact hI.fin
theorem x5 : dR wD [1] [7] wU=true∧dR wD [1] [3] wU=false∧cO wD.cells=1∧ep wD [[1],[7]]=some (0,(1,2),3):=⟨by kernel_rfl,by kernel_rfl,by kernel_rfl,by kernel_rfl⟩
theorem vR : am Try.prog 26 [] [] [] (.pv (bR wD)):=by
 have c1 : am Try.prog 13 [.pv (.sl [I 0 8])] [] [] (.pv (.tup [bR wA,B true])):=by
  have:=oY [(0,8)]
  rw [wE.1,wE.2] at this;exact this
 have c2:=uw wA 0 0 (by decide)
 rw [yS.1,yS.2] at c2
 have c3:=uw tx 2 0 (by decide)
 rw [za.1,za.2] at c3
 have c4:=vi 1
 have c5:=zi wC 3 (dj 1) (by decide)
 rw [zb.1,zb.2] at c5
 generalize wD=T4 at *
 generalize wC=T3 at *
 generalize tx=T2 at *
 generalize wA=T1 at *
 generalize dj 1=lv at *
 refine Dp Try.func26 ?_
 intro C hP hN
 simp only [Try.f26] at hN ⊢
 exact Gy
theorem d8 : am Try.prog 8 [] [] [] (.pv (B true)):=by
 have c0:=vR
 obtain ⟨e1,e2,e3,e4⟩:=x5
 have c1 : am Try.prog 27 [.pv (bR wD),.pv (.sl [.sl [Z 1],.sl [Z 7]])] [] [] (.pv (.tup [.val (.agg #[.int .i64 0,.int .i64 1,.int .i64 2,.int .i64 3]),B true])):=by
  have:=tM wD [[1],[7]] (by decide) (by decide) (by decide)
  rw [e4] at this;exact this
 have c2 : am Try.prog 18 [.pv (bR wD),.pv (.sl [Z 1]),.pv (.sl [Z 7])] [] [] (.pv (B true)):=by
  have:=yr wD [1] [7] wU (by decide) (by decide) zd
  rw [e1] at this;exact this
 have c3 : am Try.prog 18 [.pv (bR wD),.pv (.sl [Z 1]),.pv (.sl [Z 3])] [] [] (.pv (B false)):=by
  have:=yr wD [1] [3] wU (by decide) (by decide) zd
  rw [e2] at this;exact this
 have c4 : am Try.prog 10 [.pv (bR wD)] [] [] (.pv (Z 1)):=by
  have:=vM wD (by decide)
  rw [e3] at this;exact this
 generalize wD=T4 at *
 refine Dp Try.func8 ?_
 intro C hP hN
 simp only [Try.f8] at hN ⊢
 exact Gy
end Go.Ab
namespace Go.Ab
open Go.Proofs
theorem xW {R : Tr→List Bool→List Int→List Bool} {t : Tr} {p q : List Int} (h : gx 16 t) : gx 16 (bS R t p q):=by
 intro c hc
 have hc : c ∈ er t (dp R t p q) t.cells.length:=hc
 obtain ⟨i,hi,rfl⟩:=List.mem_map.1 hc
 unfold bW
 split
 ·exact gS 16
 ·split
  ·unfold aJ
   cases hx : t.cells[i]? with
   |none=>exact gS 16
   |some c=>exact h c (List.mem_of_getElem? hx)
  ·exact gS 16
theorem qO {t : Tr} (h : gx 16 t) : ∀ c ∈ t.cells,tr c:=fun c hc=>by
 obtain ⟨h1,h2,h3⟩:=h c hc
 exact ⟨by omega,by omega,by omega⟩
theorem tu {t : Tr} (h : gx 16 t) : ∀ c ∈ t.cells,xQ c.v:=fun c hc=>by
 obtain ⟨h1,h2,h3⟩:=h c hc
 exact ⟨by omega,by omega,by omega⟩
theorem sF {t : Tr} (hv : av t=true) {i : Nat} (hi : i < t.cells.length) (hk : (aJ t i).v.kind=2) : eL t i=true∧aT (aJ t i)=true:=by
 cases hl : aT (aJ t i) with
 |true=>exact ⟨by simp [eL,di,hl,hk],rfl⟩
 |false=>
  obtain ⟨h1,_⟩:=ib hv (cF hi) hl
  obtain ⟨_,_,_,_,_,h6⟩:=bB.1 h1
  simp only [fA,Bool.and_eq_true,beq_iff_eq] at h6
  omega
set_option maxRecDepth 20000 in
theorem d3 (l m o : List Int) (k : Int) : am Try.prog 3 [.pv (zs l),.pv (zs m),.pv (zs o),.pv (Z k)] [] [] (.pv (B true)):=by
 have hT:=t8 l
 have hvs:=tp l
 have ct:=d4 l
 have c0:=d8
 generalize e6 l=t at *
 have hv:=hT.valid
 have hz:=aS.1 (bn hv)
 have hn:=hT.cells
 have c1:=d5 t.root m (by omega) hz.2.2.2.2
 have c2:=d5 t.root o (by omega) hz.2.2.2.2
 have l1:=lu t.root m
 have l2:=lu t.root o
 generalize lg t.root m=p at *
 generalize lg t.root o=q at *
 obtain ⟨R,hR⟩:=wg
 obtain ⟨U,hU⟩:=q8 t p
 have cs1:=d6 R hR t p q U hU (by omega) (by omega) (qO hvs)
 have cr1:=d7 t p q U (by omega) (by omega) (by omega) (by omega) hU
 have st:=qM t (by omega) (by omega) (tu hvs)
 unfold qN at cs1
 cases hs : dR t p q U with
 |false=>
  rw [hs] at cs1 cr1
  rw [if_neg (by decide)] at cs1
  refine Dp Try.func3 ?_
  intro C hP hN
  simp only [Try.f3] at hN ⊢
  with_reducible repeat' (first|refine Sp.h ?_|((first|refine Wd ?_|refine Ss.h ?_|refine Sc.h (ct) ?_|refine Sc.h (c1) ?_|refine Sc.h (c2) ?_|refine Sc.h (cs1) ?_|refine Sc.h (cr1) ?_|refine Sc.h (c0) ?_|refine Sc.h (st) ?_|(refine Sb.h ?_ ?_ ?_<;>(try intro hgd)<;>try exact Xy))<;>simp -implicitDefEqProofs (maxSteps:=2000000) [hP,hN]<;>try refine Ya ?_)|refine X2 ?_ ?_|(refine Xd ?_ ?_<;>intro hcd<;>try exact Xx))
 |true=>
  rw [hs] at cs1 cr1
  rw [if_pos rfl] at cs1
  have hvu : av (bS R t p q)=true:=ei hv
  have hul:=xw (R:=R) (t:=t) (p:=p) (q:=q)
  have hup:=xx (R:=R) (t:=t) (p:=p) (q:=q) hv
  have husz:=wi (R:=R) (t:=t) (p:=p) (q:=q)
  have huv:=xW (R:=R) (p:=p) (q:=q) hvs
  obtain ⟨V,hV⟩:=q8 (bS R t p q) p
  have husep:=xv hR hU hs hV
  have hagain:=tQ (R:=R) (p:=p) (q:=q) hR hv
  have hmet:=fun i h1 h2=>sn (R:=R) (t:=t) (p:=p) (q:=q) (i:=i) hR hv h1 h2
  have hur : (bS R t p q).root=t.root:=rfl
  have cs2:=d6 R hR (bS R t p q) p q V hV (by omega) (by rw [hur];omega) (qO huv)
  unfold qN at cs2
  rw [husep,if_pos rfl,hagain] at cs2
  have cr2:=d7 (bS R t p q) p q V (by omega) (by rw [hur];omega) (by omega) (by omega) hV
  rw [husep] at cr2
  have st2:=qM (bS R t p q) (by rw [hur];omega) (by omega) (tu huv)
  have cz1:=vM t (by omega)
  have cz2:=vM (bS R t p q) (by omega)
  clear hagain husep cs1 cr1
  have cs1:=d6 R hR t p q U hU (by omega) (by omega) (qO hvs)
  unfold qN at cs1
  rw [hs,if_pos rfl] at cs1
  have cr1:=d7 t p q U (by omega) (by omega) (by omega) (by omega) hU
  rw [hs] at cr1
  have hrt : (bS R t p q).root.length≤3:=by rw [hur];exact hT.three
  generalize bS R t p q=u at *
  have cR:=tL k u.cells.length (by omega)
  have hrr:=oK k (k:=(u.cells.length : Int)) (by omega) (by omega)
  generalize fG k u.cells.length=r at *
  obtain ⟨i,rfl⟩ : ∃ i : Nat,r=i:=⟨r.toNat,by omega⟩
  have hi : i < u.cells.length:=by omega
  have hci:=cF hi
  have hce : ∀ h,u.cells[i]'h=aJ u i:=fun h=>aP hci h
  have z1 : ¬ (t.cells.length : Int) < (u.cells.length : Int):=by omega
  have z2 : ¬ (cO t.cells : Int) < (cO u.cells : Int):=by omega
  have z3 : ¬ u.cells.length=0:=by omega
  have z4 : ¬ u.cells=[]:=fun h=>by rw [h] at hup;simp at hup
  generalize cO t.cells=s1 at *
  generalize cO u.cells=s2 at *
  have hk2:=fun h=>sF hvu hi h
  by_cases hk : (aJ u i).v.kind=2
  ·obtain ⟨hcol,hlf⟩:=hk2 hk
   have hce2:=m8 hlf
   have hm:=hmet i hi hcol
   have hvv : bm u i aG=⟨u.root,u.cells.set i (aY aG)⟩:=rfl
   obtain ⟨W,hW⟩:=q8 (bm u i aG) p
   have hno:=sN hvu hi hcol hm hW
   have cr3:=d7 (bm u i aG) p q W (by rw [hvv];simp only [List.length_set];omega) (by rw [hvv];simp only;omega) (by omega) (by omega) hW
   have hso : dR (bm u i aG) p q W=false:=by rw [dR,hno];simp
   rw [hso,hvv] at cr3
   have hk' : ((aJ u i).v.kind==2)=true:=by simp [hk]
   have hen : bR ⟨u.root,u.cells.set i (aY aG)⟩=.agg [iv u.root,.sl ((u.cells.map bf).set i (.agg [Z (aJ u i).joint,Z (aJ u i).low,Z (aJ u i).high,Z 0,.sl [],Z 0,.sl [],.sl []]))]:=by
    show PV.agg [iv u.root,.sl ((u.cells.set i (aY aG)).map bf)]=_
    rw [List.map_set,hce2];rfl
   rw [hen] at cr3
   clear hce2 hen
   generalize aJ u i=c at *
   refine Dp Try.func3 ?_
   intro C hP hN
   simp only [Try.f3] at hN ⊢
   with_reducible repeat' (first|refine Sp.h ?_|((first|refine Wd ?_|refine Ss.h ?_|refine Sc.h (ct) ?_|refine Sc.h (c1) ?_|refine Sc.h (c2) ?_|refine Sc.h (cs1) ?_|refine Sc.h (cr1) ?_|refine Sc.h (cr2) ?_|refine Sc.h (cz1) ?_|refine Sc.h (cz2) ?_|refine Sc.h (cR) ?_|refine Sc.h (cr3) ?_|refine Sc.h (c0) ?_|refine Sc.h (cs2) ?_|refine Sc.h (st2) ?_|(refine Sb.h ?_ ?_ ?_<;>(try intro hgd)<;>try exact Xy))<;>simp -implicitDefEqProofs (maxSteps:=2000000) [hP,hN,z1,z2,z3,z4,hi,hci,hce,hk',hup,show u.cells.length * 112≤140737488355328 by omega,show u.cells.length≤9223372036854775807 by omega]<;>try refine Ya ?_)|refine X2 ?_ ?_|(refine Xd ?_ ?_<;>intro hcd<;>try exact Xx))
   all_goals skip
  ·have hk' : ((aJ u i).v.kind==2)=false:=by simp [hk]
   generalize aJ u i=c at *
   refine Dp Try.func3 ?_
   intro C hP hN
   simp only [Try.f3] at hN ⊢
   with_reducible repeat' (first|refine Sp.h ?_|((first|refine Wd ?_|refine Ss.h ?_|refine Sc.h (ct) ?_|refine Sc.h (c1) ?_|refine Sc.h (c2) ?_|refine Sc.h (cs1) ?_|refine Sc.h (cr1) ?_|refine Sc.h (cr2) ?_|refine Sc.h (cz1) ?_|refine Sc.h (cz2) ?_|refine Sc.h (cR) ?_|refine Sc.h (c0) ?_|refine Sc.h (cs2) ?_|refine Sc.h (st2) ?_|(refine Sb.h ?_ ?_ ?_<;>(try intro hgd)<;>try exact Xy))<;>simp -implicitDefEqProofs (maxSteps:=2000000) [hP,hN,z1,z2,z3,z4,hi,hci,hce,hk,hk']<;>try refine Ya ?_)|refine X2 ?_ ?_|(refine Xd ?_ ?_<;>intro hcd<;>try exact Xx))
   all_goals skip
end Go.Ab
