/- The contracts and facts that the laws of this seat need, in one text (AbA). -/
import Derived.WalkKit
import Derived.Defers
import Derived.Recover
import Derived.Maps.AppendAt
set_option linter.all false
set_option maxRecDepth 10000
set_option maxHeartbeats 16000000
namespace Go.Ab
open IntKind (i64)
abbrev an:=@List.getElem?_eq_getElem
abbrev th:=@List.getElem?_eq_some_iff
abbrev An:=@Bool.and_eq_true
abbrev Is:=@List.mem_of_getElem?
abbrev L4:=@decide_eq_true_eq
abbrev No:=@Option.map_eq_some_iff
abbrev TP:=@List.all_eq_true
abbrev TQ:=@if_neg
abbrev TR:=@List.getElem?_map
abbrev T4:=@List.getElem?_append_left
abbrev T5:=@Bool.false_eq_true
abbrev T6:=@Option.some.injEq
abbrev T7:=@List.getElem?_append_right
abbrev T8:=@if_pos
abbrev T9:=@Array.getD_eq_getD_getElem?
abbrev Ua:=@Nat.le_refl
abbrev Ub:=@List.getElem?_set
abbrev Uc:=@List.getElem?_eq_none
abbrev Ud:=@Option.bind_some
abbrev Ue:=@decide_eq_false_iff_not
abbrev Uf:=@if_false
abbrev Ug:=@Prod.mk.injEq
abbrev Ui:=@List.mem_append
abbrev Uj:=@Option.getD_some
abbrev Uk:=@Int.toNat_natCast
abbrev Ul:=@if_true
abbrev Um:=@List.length_append
abbrev Un:=@Int.tdiv_eq_ediv_of_nonneg
abbrev Uo:=@List.getElem_mem
abbrev Up:=@Nat.mul_le_mul_right
abbrev Uq:=@Bool.true_and
abbrev Ur:=@List.mem_map
abbrev Us:=@List.take_of_length_le
abbrev Ut:=@List.mem_cons
abbrev Uu:=@List.getElem?_take
abbrev Uv:=@List.getElem?_replicate
abbrev Uw:=@Option.isSome_iff_exists
abbrev Ux:=@List.length_map
abbrev Uy:=@List.eq_nil_of_length_eq_zero
abbrev Uz:=@List.not_mem_nil
abbrev UA:=@Array.getElem?_eq_some_iff
abbrev UB:=@List.getElem?_of_mem
abbrev UC:=@List.mem_singleton
abbrev UD:=@decide_eq_true
abbrev UE:=@Bool.false_and
abbrev UF:=@Array.getElem?_append_left
abbrev UG:=@Bool.not_eq_true'
abbrev UH:=@List.mem_range
abbrev UI:=@List.ext_getElem?
abbrev UJ:=@Array.getElem?_eq_getElem
abbrev UK:=@Nat.add_mul
abbrev UL:=@List.length_take
abbrev UM:=@Option.some.inj
abbrev UN:=@List.take_succ_eq_append_getElem
abbrev UO:=@Option.map_some
abbrev UP:=@List.mem_or_eq_of_mem_set
abbrev UQ:=@Array.getElem?_toList
abbrev UR:=@Nat.zero_le
abbrev US:=@beq_iff_eq
abbrev UT:=@Bool.or_eq_true
abbrev UU:=@Nat.lt_of_lt_of_le
abbrev UV:=@Array.getElem?_setIfInBounds_ne
abbrev UW:=@List.getElem?_drop
abbrev UX:=@or_false
abbrev UY:=@List.take_append_drop
abbrev UZ:=@List.length_singleton
abbrev U0:=@Nat.zero_add
abbrev U1:=@Int.mul_nonneg
abbrev U2:=@decide_eq_false
abbrev U3:=@List.mem_filter
abbrev U4:=@beq_eq_false_iff_ne
abbrev U5:=@Array.length_toList
abbrev U7:=@List.append_assoc
abbrev U8:=@Int.mul_le_mul_of_nonneg_left
abbrev U9:=@List.map_cons
abbrev Va:=@Int.emod_nonneg
abbrev Vb:=@List.find?_eq_none
abbrev Ve:=@Int.emod_lt_of_pos
abbrev Vf:=@List.getElem?_cons_zero
abbrev Vg:=@Bool.or_eq_false_iff
abbrev Vh:=@List.mem_iff_getElem?
abbrev Vj:=@List.getElem?_toArray
abbrev Vk:=@Iff.rfl
abbrev Vl:=@Bool.and_self
abbrev Vm:=@Nat.mul_le_mul
abbrev Vn:=@List.mem_iff_getElem
abbrev Vo:=@Bool.and_false
abbrev Vp:=@Int.eq_ofNat_of_zero_le
abbrev Vq:=@List.range_succ
abbrev Vr:=@List.length_set
abbrev Vs:=@List.getElem_cons_drop
abbrev Vt:=@List.set_append_right
abbrev Vu:=@List.foldl_cons
abbrev Vv:=@not_true_eq_false
abbrev Vw:=@congrArg
abbrev Vx:=@List.size_toArray
abbrev Vy:=@List.map_set
abbrev Vz:=@List.all_eq_false
abbrev VA:=@Nat.add_assoc
abbrev VB:=@Bool.not_true
abbrev VC:=@Bool.and_true
abbrev VD:=@List.length_drop
abbrev VE:=@List.length_cons
abbrev VF:=@Nat.mul_one
abbrev VG:=@List.take_append_of_le_length
abbrev VH:=@Nat.le_trans
abbrev VJ:=@List.filter_append
abbrev VK:=@Int.tmod_lt_of_pos
abbrev VL:=@List.find?_some
abbrev VM:=@Nat.lt_trichotomy
abbrev VN:=@List.nodup_append
abbrev VO:=@List.any_eq_false
abbrev VP:=@Array.size_append
abbrev VQ:=@decide_true
abbrev VR:=@List.set_append_left
abbrev VS:=@List.mem_of_mem_take
abbrev VT:=@List.mem_append_left
abbrev VU:=@List.getD_eq_getElem?_getD
abbrev VV:=@Nat.sub_self
abbrev VW:=@List.take_length
abbrev VX:=@List.any_eq_true
abbrev VY:=@Array.getElem?_replicate
abbrev V7:=@List.map_append
abbrev V8:=@List.length_nil
abbrev V9:=@List.append_nil
abbrev Wa:=@Int.ediv_nonneg
abbrev Wb:=@Int.mul_nonneg_of_nonpos_of_nonpos
abbrev Wc:=@Int.lt_tmod_of_pos
abbrev We:=@List.getElem?_cons_succ
abbrev Wf:=@List.findIdx?_eq_some_iff_getElem
abbrev Wg:=@Nat.add_zero
abbrev Wj:=@List.take_add_one
abbrev Wk:=@List.foldl_append
abbrev Wn:=@List.drop_eq_nil_of_le
abbrev Wo:=@Int.le_total
abbrev Wp:=@Int.le_ediv_iff_mul_le
abbrev Wq:=@Int.ediv_lt_iff_lt_mul
abbrev Wr:=@Nat.le_div_iff_mul_le
abbrev Ws:=@List.length_filter_le
abbrev Wt:=@Int.mul_tdiv_add_tmod
abbrev Wu:=@List.find?_eq_some_iff_getElem
abbrev Wv:=@List.mem_cons_of_mem
abbrev Ww:=@List.drop_append_of_le_length
abbrev Wx:=@Int.neg_mul
abbrev Wy:=@Int.le_refl
abbrev Wz:=@List.nodup_cons
abbrev WA:=@Array.toList_append
abbrev WB:=@Nat.zero_mul
abbrev WC:=@Nat.pow_succ
abbrev WE:=@List.map_nil
abbrev WF:=@List.drop_zero
abbrev WG:=@Int.tmod_eq_emod_of_nonneg
abbrev WH:=@Int.mul_le_mul
abbrev WI:=@Bool.not_false
abbrev WJ:=@Option.isNone_iff_eq_none
abbrev WK:=@List.drop_eq_getElem_cons
abbrev WL:=@List.map_drop
abbrev WM:=@Int.ediv_le_self
end Go.Ab
namespace Go.Ab
open IntKind (i64)
inductive PV where
 |val(v:Value)
 |agg(cs:List PV)
 |sl(xs:List PV)
 |rptr(x:PV)(off:Nat)
 |fn(f:Fn)(first caps:List PV)
 |tup(vs:List PV)
 |ifc(t:TypeId)(x:PV)
 |hd(n:Nat)
 |mp(kd:IntKind)(n:Nat)(es:List (List Int×Value))
 deriving Inhabited
variable {M M':Nat->Nat->Prop}{P:Program}{S:Nat->Prop}{b d e fz k n o off sz:Nat}{es:List (List Int×Value)}{g:Option (Nat×Bool)}{ops:Array Oper}{p:PV}{ps xs:List PV}{t ty:TypeId}{u v:Value}{us vs:List Value}{w w':World}{α:Type}
def O4(kd:IntKind)(a:List Int):Value:=.agg (a.map (Value.int kd)).toArray
def JP(kd:IntKind)(n:Nat)(a:List (List Int×Value))(arr:Array MapEntry):Prop:=
 arr.toList.map (λe=>(e.key,e.val))=a.map (λx=>(O4 kd x.1,x.2))/\∀x∈a,x.1.length=n
def PV.cells:PV->List PV
 |.val v=>v.cells.toList.map .val
 |.agg cs=>cs
 |p=>[p]
inductive Rep(w:World)(M:Nat->Nat->Prop):PV->Value->Prop
 |val (v:Value):Rep w M (.val v) v
 |agg (cs:List PV) (vs:List Value) (hl:cs.length=vs.length)
   (h:∀(i:Nat) p u,cs[i]?=some p->vs[i]?=some u->Rep w M p u):Rep w M (.agg cs) (.agg vs.toArray)
 |sl0 (a:Option Addr) (c:Nat):Rep w M (.sl []) (.slice a 0 c)
 |sl (xs:List PV) (b o c sz:Nat) (u:Nat->Nat->Value) (hcap:xs.length<=c)
   (hs:∀(i:Nat) x,xs[i]?=some x->x.cells.length=sz)
   (hc:∀(i:Nat) x(j:Nat) p,xs[i]?=some x->x.cells[j]?=some p->w.cell? ⟨b,o+(i*sz+j),none⟩=some (u i j)/\¬M b (o+(i*sz+j)))
   (hr:∀(i:Nat) x(j:Nat) p,xs[i]?=some x->x.cells[j]?=some p->Rep w M p (u i j)):Rep w M (.sl xs) (.slice (some ⟨b,o,none⟩) xs.length c)
 |rptr (x:PV) (b o off:Nat) (u:Nat->Value)
   (hc:∀(j:Nat) p,x.cells[j]?=some p->w.cell? ⟨b,o+j,none⟩=some (u j)/\¬M b (o+j))
   (hr:∀(j:Nat) p,x.cells[j]?=some p->Rep w M p (u j)):Rep w M (.rptr x off) (.pointer (some ⟨b,o+off,none⟩))
 |fn (f:Fn) (first caps:List PV) (vs us:List Value) (hl:first.length=vs.length) (hk:caps.length=us.length)
   (h:∀(i:Nat) p u,first[i]?=some p->vs[i]?=some u->Rep w M p u)
   (hh:∀(i:Nat) p u,caps[i]?=some p->us[i]?=some u->Rep w M p u):Rep w M (.fn f first caps) (.func f vs.toArray us.toArray)
 |tup (cs:List PV) (vs:List Value) (hl:cs.length=vs.length)
   (h:∀(i:Nat) p u,cs[i]?=some p->vs[i]?=some u->Rep w M p u):Rep w M (.tup cs) (.tuple vs.toArray)
 |ifc (t:TypeId) (x:PV) (v:Value) (h:Rep w M x v):Rep w M (.ifc t x) (.iface t v)
 |hd (n:Nat) (a:Option Addr) (c:Nat):Rep w M (.hd n) (.slice a n c)
 |mp (kd:IntKind) (n:Nat) (es:List (List Int×Value)) (b:Nat) (arr:Array MapEntry) (clock:Nat) (hb:w.heap[b]?=some (.map arr clock)) (hm:¬M b 0) (hes:JP kd n es arr):Rep w M (.mp kd n es) (.map (some b))
structure Pres(w:World)(M:Nat->Nat->Prop)(w':World)(M':Nat->Nat->Prop):Prop where
 cell:∀b o v,w.cell? ⟨b,o,none⟩=some v->¬M b o->w'.cell? ⟨b,o,none⟩=some v/\¬M' b o
 map:∀b arr c,w.heap[b]?=some (.map arr c)->¬M b 0->w'.heap[b]?=some (.map arr c)/\¬M' b 0
theorem Rep.mono(hp:Pres w M w' M')(h:Rep w M p u):Rep w' M' p u:=by
 induction h with
 |val v=>exact .val v
 |agg cs vs l _ ih=>exact .agg cs vs l ih
 |sl0 a c=>exact .sl0 a c
 |sl xs b o c sz u g A e _ ih=>exact .sl xs b o c sz u g A (λi x j p y k=>hp.cell _ _ _ (e i x j p y k).1 (e i x j p y k).2) ih
 |rptr x b o off u e _ ih=>exact .rptr x b o off u (λj p k=>hp.cell _ _ _ (e j p k).1 (e j p k).2) ih
 |fn f first d vs us l z _ _ ih q=>exact .fn f first d vs us l z ih q
 |tup cs vs l _ ih=>exact .tup cs vs l ih
 |ifc t x v _ ih=>exact .ifc t x v ih
 |hd n a c=>exact .hd n a c
 |mp B n es b arr clock r s m=>exact .mp B n es b arr clock (hp.map _ _ _ r s).1 (hp.map _ _ _ r s).2 m
theorem Pres.refl(w:World)(M:Nat->Nat->Prop):Pres w M w M:=⟨λ_ _ _ h a=>⟨h,a⟩,λ_ _ _ h a=>⟨h,a⟩⟩
theorem Pres.trans{e:World}{a:Nat->Nat->Prop}(h:Pres w M w' M')(h':Pres w' M' e a):Pres w M e a:=
 ⟨λb o v c d=>h'.cell b o v (h.cell b o v c d).1 (h.cell b o v c d).2,λb o v c d=>h'.map b o v (h.map b o v c d).1 (h.map b o v c d).2⟩
theorem Pres.sub(h:∀b o,M' b o->M b o):Pres w M w M':=⟨λ_ _ _ a c=>⟨a,λhn=>c (h _ _ hn)⟩,λ_ _ _ a c=>⟨a,λhn=>c (h _ _ hn)⟩⟩
def bS(w:World)(M:Nat->Nat->Prop)(ps:List PV)(us:List Value):Prop:=
 ps.length=us.length/\∀(i:Nat) p u,ps[i]?=some p->us[i]?=some u->Rep w M p u
theorem bS.nil:bS w M [] []:=⟨rfl,λi p u h=>by simp at h⟩
theorem bS.cons(h:Rep w M p u)(b:bS w M ps us):bS w M (p::ps) (u::us):=by
 refine⟨by simp[b.1],λi q v hq a=>?_⟩
 cases i with
 |zero=>simp at hq a;subst hq;subst a;exact h
 |succ i=>exact b.2 i q v (by simpa using hq) (by simpa using a)
theorem bS.cons_inv{p:PV}(h:bS w M (p::ps) us):∃u a,us=u::a/\Rep w M p u/\bS w M ps a:=by
 cases us with
 |nil=>exact absurd h.1 (by simp)
 |cons u a=>exact⟨u,a,rfl,h.2 0 p u rfl rfl,by have:=h.1;simpa using this,λi q v hq b=>h.2 (i+1) q v (by simpa using hq) (by simpa using b)⟩
theorem bS.nil_inv(h:bS w M [] us):us=[]:=by
 cases us with
 |nil=>rfl
 |cons u us=>exact absurd h.1 (by simp)
theorem bS.mono(hp:Pres w M w' M')(h:bS w M ps us):bS w' M' ps us:=
 ⟨h.1,λi p u a b=>(h.2 i p u a b).mono hp⟩
def dD:List PV->Option (List Value)
 |[]=>some []
 |.val v::r=>(dD r).map (v::·)
 |_::_=>none
def fF(cs:List PV):PV:=match dD cs with
 |some vs=>.val (.agg vs.toArray)
 |none=>.agg cs
theorem tr{w:World}{M:Nat->Nat->Prop}:∀{cs:List PV}{vs us:List Value},dD cs=some vs->bS w M cs us->us=vs
 |[],vs,us,h,a=>by simp[dD]at h;subst h;exact a.nil_inv
 |.val v::r,vs,us,h,a=>by
  simp only[dD,No]at h;obtain⟨e,h',rfl⟩:=h;obtain⟨u,d,rfl,c,b⟩:=a.cons_inv;cases c;rw[tr h' b]
 |.agg _::_,_,_,h,_=>by simp[dD]at h
 |.sl _::_,_,_,h,_=>by simp[dD]at h
 |.rptr _ _::_,_,_,h,_=>by simp[dD]at h
 |.fn _ _ _::_,_,_,h,_=>by simp[dD]at h
 |.tup _::_,_,_,h,_=>by simp[dD]at h
 |.ifc _ _::_,_,_,h,_=>by simp[dD]at h
 |.hd _::_,_,_,h,_=>by simp[dD]at h
 |.mp _ _ _::_,_,_,h,_=>by simp[dD]at h
theorem k9{cs:List PV}(h:bS w M cs us):Rep w M (fF cs) (.agg us.toArray):=by
 unfold fF;split
 .rename_i vs a;rw[tr a h];exact .val _
 .exact .agg cs us h.1 h.2
theorem Rep.cells(h:Rep w M p u):bS w M p.cells u.cells.toList:=by
 have one:∀{q:PV}{v:Value},Rep w M q v->bS w M [q] [v]:=λhq=>.cons hq .nil
 cases h with
 |val v=>
  refine⟨by simp[PV.cells],λi p u hp d=>?_⟩;simp only[PV.cells,TR,No]at hp;obtain⟨E,s,rfl⟩:=hp;rw[s]at d;injection d with d;subst d;exact .val _
 |agg cs vs j m=>exact⟨by simpa[PV.cells,Value.cells]using j,λi p u hp d=>m i p u (by simpa[PV.cells]using hp) (by simpa[Value.cells]using d)⟩
 |sl0 a c=>exact one (.sl0 a c)
 |sl xs b o c sz u g C k r=>exact one (.sl xs b o c sz u g C k r)
 |rptr x b o off u k r=>exact one (.rptr x b o off u k r)
 |fn f first e vs us j A h1 y=>exact one (.fn f first e vs us j A h1 y)
 |tup cs vs j m=>exact one (.tup cs vs j m)
 |ifc t x v h=>exact one (.ifc t x v h)
 |hd n a c=>exact one (.hd n a c)
 |mp D n es b arr clock z B l=>exact one (.mp D n es b arr clock z B l)
inductive XV where
 |barr(k n c:Nat)
 |mp(k:Nat)
 |suf(k o n t:Nat)
 deriving Inhabited
def XV.key:XV->Nat
 |.barr k _ _=>k
 |.mp k=>k
 |.suf k _ _ _=>k
inductive AV where
 |pv(p:PV)
 |ptr(k off:Nat)
 |arr(k n:Nat)
 |eptr(k n i off:Nat)
 |agg(cs:List AV)
 |fn(f:Fn)(first caps:List AV)
 |tup(vs:List AV)
 |ext(x:XV)
 |undef
 deriving Inhabited
inductive Blk where
 |box(cs:List AV)(own fz:Bool)
 |row(e sz:Nat)(xs:List PV)(fz:Nat)
 |mp(kd:IntKind)(n:Nat)(es:List (List Int×Value))(fz:Bool)
 deriving Inhabited
structure Loc where
 b:Nat
 cap:Nat
 isNil:Bool
 deriving Inhabited
variable {L L' L'':Nat->Loc}{W:List (Nat×Blk)}{blk:Blk}{cs:List AV}{l:Loc}{x:AV}
def Loc.slice(l:Loc)(n:Nat):Value:=if l.isNil then .slice none 0 0 else .slice (some ⟨l.b,0,none⟩) n l.cap
abbrev Hp:=Nat->Option Blk
inductive RepX(L:Nat->Loc)(h:Hp):XV->Value->Prop
 |barr {k n c:Nat} {cs:List AV} {own fz:Bool} (hc:n<=c) (hk:h k=some (.box cs own fz)):RepX L h (.barr k n c) (.slice (some ⟨(L k).b,0,none⟩) n c)
 |mp {k n:Nat} {kd:IntKind} {es:List (List Int×Value)} {fz:Bool} (hk:h k=some (.mp kd n es fz)):RepX L h (.mp k) (.map (some (L k).b))
 |suf {k o n t e sz fz:Nat} {xs:List PV} {u:Value} (hs:∃A m c,u=.slice A m c) (hk:h k=some (.row e sz xs fz)) (hn:o+n<=t) (ht:t<=xs.length)
   (hu:xs.length=t->∃A c,u=.slice A n c/\(((L k).isNil=false/\A=some ⟨(L k).b,o*sz,none⟩/\c+o=(L k).cap)\/(n=0/\c=0/\(o=0->(L k).isNil=true/\A=none)))):RepX L h (.suf k o n t) u
inductive RepA(w:World)(M:Nat->Nat->Prop)(L:Nat->Loc)(h:Hp):AV->Value->Prop
 |pv {p:PV} {u:Value} (hr:Rep w M p u):RepA w M L h (.pv p) u
 |ptr {k off:Nat} {cs:List AV} {own fz:Bool} (hk:h k=some (.box cs own fz)):RepA w M L h (.ptr k off) (.pointer (some ⟨(L k).b,off,none⟩))
 |arr {k n e sz fz:Nat} {xs:List PV} {u:Value} (hk:h k=some (.row e sz xs fz)) (hn:n<=xs.length) (hu:xs.length=n->u=(L k).slice n):RepA w M L h (.arr k n) u
 |eptr {k n i off e sz fz:Nat} {xs:List PV} {u:Value} (hk:h k=some (.row e sz xs fz)) (hn:n<=xs.length)
   (hu:xs.length=n->(L k).isNil=false/\u=.pointer (some ⟨(L k).b,i*sz+off,none⟩)):RepA w M L h (.eptr k n i off) u
 |agg (cs:List AV) (vs:List Value) (hl:cs.length=vs.length)
   (hh:∀(i:Nat) p u,cs[i]?=some p->vs[i]?=some u->RepA w M L h p u):RepA w M L h (.agg cs) (.agg vs.toArray)
 |fn (f:Fn) (first caps:List AV) (vs us:List Value) (hl:first.length=vs.length) (hk:caps.length=us.length)
   (h1:∀(i:Nat) p u,first[i]?=some p->vs[i]?=some u->RepA w M L h p u)
   (h2:∀(i:Nat) p u,caps[i]?=some p->us[i]?=some u->RepA w M L h p u):RepA w M L h (.fn f first caps) (.func f vs.toArray us.toArray)
 |tup (cs:List AV) (vs:List Value) (hl:cs.length=vs.length)
   (hh:∀(i:Nat) p u,cs[i]?=some p->vs[i]?=some u->RepA w M L h p u):RepA w M L h (.tup cs) (.tuple vs.toArray)
 |ext {x:XV} {u:Value} (hx:RepX L h x u):RepA w M L h (.ext x) u
 |undef (u:Value):RepA w M L h .undef u
variable {h h' h1:Hp}
def dZ:Blk->Loc->Blk->Loc->Prop
 |.box _ _ _,l,.box _ _ _,a=>a.b=l.b
 |.row e sz xs _,l,.row g f c _,a=>g=e/\f=sz/\xs.length<=c.length/\(c.length=xs.length->a=l)
 |.mp i n _ _,l,.mp d j _ _,a=>d=i/\j=n/\a.b=l.b
 |_,_,_,_=>False
def KC(L:Nat->Loc)(h:Hp)(L':Nat->Loc)(h':Hp):Prop:=∀k blk,h k=some blk->∃a,h' k=some a/\dZ blk (L k) a (L' k)
theorem cX(blk:Blk)(l:Loc):dZ blk l blk l:=by cases blk<;>simp[dZ]
theorem KC.refl(L:Nat->Loc)(h:Hp):KC L h L h:=λ_ blk a=>⟨blk,a,cX _ _⟩
theorem RepX.mono(i:KC L h L' h'){x:XV}(B:RepX L h x u):RepX L' h' x u:=by
 cases B with
 |@barr k n c cs own fz j g=>
  obtain⟨a,h1,d⟩:=i k _ g
  cases a with
  |row=>exact d.elim
  |mp=>exact d.elim
  |box r q f=>have d:(L' k).b=(L k).b:=d;rw[<-d];exact .barr j h1
 |@mp k n C es fz g=>
  obtain⟨a,h1,d⟩:=i k _ g
  cases a with
  |row=>exact d.elim
  |box=>exact d.elim
  |mp m D y f=>have d:m=C/\D=n/\(L' k).b=(L k).b:=d;rw[<-d.2.2];exact .mp h1
 |@suf k o n t e sz fz xs u l g hn z A=>
  obtain⟨a,h1,d⟩:=i k _ g
  cases a with
  |box=>exact d.elim
  |mp=>exact d.elim
  |row F E p f=>
   obtain⟨_,s,G,v⟩:=d;refine .suf l h1 hn (by omega) (λe=>?_)
   have:p.length=xs.length:=by omega
   rw[v this,s];exact A (by omega)
theorem RepA.mono(hp:Pres w M w' M')(o:KC L h L' h')
 (r:RepA w M L h x u):RepA w' M' L' h' x u:=by
 induction r with
 |pv D=>exact .pv (D.mono hp)
 |@ptr k off cs own fz d=>
  obtain⟨a,h1,c⟩:=o k _ d
  cases a with
  |row=>exact c.elim
  |mp=>exact c.elim
  |box A z l=>have c:(L' k).b=(L k).b:=c;rw[<-c];exact .ptr h1
 |@arr k n e sz fz xs u d hn q=>
  obtain⟨a,h1,c⟩:=o k _ d
  cases a with
  |box=>exact c.elim
  |mp=>exact c.elim
  |row B v g l=>
   obtain⟨_,y,C,p⟩:=c;refine .arr h1 (by omega) (λe=>?_)
   have:g.length=xs.length:=by omega
   rw[p this];exact q (by omega)
 |@eptr k n i off e sz fz xs u d hn q=>
  obtain⟨a,h1,c⟩:=o k _ d
  cases a with
  |box=>exact c.elim
  |mp=>exact c.elim
  |row B v g l=>
   obtain⟨_,y,C,p⟩:=c;refine .eptr h1 (by omega) (λe=>?_)
   have:g.length=xs.length:=by omega
   rw[p this,y];exact q (by omega)
 |agg cs vs m _ ih=>exact .agg cs vs m ih
 |fn f first j vs us m d _ _ ih s=>exact .fn f first j vs us m d ih s
 |tup cs vs m _ ih=>exact .tup cs vs m ih
 |ext r=>exact .ext (r.mono o)
 |undef u=>exact .undef u
def aA(w:World)(M:Nat->Nat->Prop)(L:Nat->Loc)(h:Hp)(ps:List AV)(us:List Value):Prop:=
 ps.length=us.length/\∀(i:Nat) p u,ps[i]?=some p->us[i]?=some u->RepA w M L h p u
section
variable {w:World} {M:Nat->Nat->Prop} {L:Nat->Loc} {h:Hp}
theorem aA.nil:aA w M L h [] []:=⟨rfl,λi p u h=>by simp at h⟩
theorem aA.cons{p:AV}{ps:List AV}(h1:RepA w M L h p u)(b:aA w M L h ps us):aA w M L h (p::ps) (u::us):=by
 refine⟨by simp[b.1],λi q v hq a=>?_⟩
 cases i with
 |zero=>simp at hq a;subst hq;subst a;exact h1
 |succ i=>exact b.2 i q v (by simpa using hq) (by simpa using a)
theorem aA.cons_inv{p:AV}{ps:List AV}(h1:aA w M L h (p::ps) us):∃u a,us=u::a/\RepA w M L h p u/\aA w M L h ps a:=by
 cases us with
 |nil=>exact absurd h1.1 (by simp)
 |cons u a=>exact⟨u,a,rfl,h1.2 0 p u rfl rfl,by have:=h1.1;simpa using this,λi q v hq b=>h1.2 (i+1) q v (by simpa using hq) (by simpa using b)⟩
theorem aA.nil_inv(h1:aA w M L h [] us):us=[]:=by
 cases us with
 |nil=>rfl
 |cons u us=>exact absurd h1.1 (by simp)
theorem aA.append{ps qs:List AV}(h1:aA w M L h ps us)(b:aA w M L h qs vs):aA w M L h (ps++qs) (us++vs):=by
 refine⟨by simp[h1.1,b.1],λi p u hp a=>?_⟩;by_cases hi:i<ps.length
 .rw[T4 hi]at hp
  rw[T4 (by have:=h1.1;omega)]at a;exact h1.2 i p u hp a
 .rw[T7 (by omega)]at hp
  rw[T7 (by have:=h1.1;omega)]at a;refine b.2 _ p u hp ?_;rw[h1.1];exact a
theorem aA.map_pv(h1:bS w M ps us):aA w M L h (ps.map .pv) us:=by
 refine⟨by simpa using h1.1,λi p u hp a=>?_⟩;simp only[TR,No]at hp;obtain⟨q,hq,rfl⟩:=hp;exact .pv (h1.2 i q u hq a)
theorem aA.map_pv_inv(h1:aA w M L h (ps.map .pv) us):bS w M ps us:=by
 refine⟨by simpa using h1.1,λi p u hp a=>?_⟩;have:=h1.2 i (.pv p) u (by simp[hp]) a;cases this;assumption
end
def AV.cells:AV->List AV
 |.pv p=>p.cells.map .pv
 |.agg cs=>cs
 |x=>[x]
def kQ:List AV->Option (List PV)
 |[]=>some []
 |.pv p::r=>(kQ r).map (p::·)
 |_::_=>none
def sG(cs:List AV):AV:=match kQ cs with
 |some ps=>.pv (fF ps)
 |none=>.agg cs
theorem oZ:∀{cs:List AV}{ps:List PV},kQ cs=some ps->cs=ps.map .pv
 |[],ps,h=>by simp[kQ]at h;subst h;rfl
 |.pv p::r,ps,h=>by
  simp only[kQ,No]at h;obtain⟨a,h',rfl⟩:=h;rw[oZ h'];rfl
 |.ptr _ _::_,_,h=>by simp[kQ]at h
 |.arr _ _::_,_,h=>by simp[kQ]at h
 |.eptr _ _ _ _::_,_,h=>by simp[kQ]at h
 |.agg _::_,_,h=>by simp[kQ]at h
 |.fn _ _ _::_,_,h=>by simp[kQ]at h
 |.tup _::_,_,h=>by simp[kQ]at h
 |.ext _::_,_,h=>by simp[kQ]at h
 |.undef::_,_,h=>by simp[kQ]at h
theorem sf(h1:aA w M L h cs us):RepA w M L h (sG cs) (.agg us.toArray):=by
 unfold sG;split
 .rename_i ps hp
  rw[oZ hp]at h1;exact .pv (k9 h1.map_pv_inv)
 .exact .agg cs us h1.1 h1.2
theorem RepA.cells(c:RepA w M L h x u)(j:x≠.undef):aA w M L h x.cells u.cells.toList\/(∃k n,x=.arr k n)\/(∃k n i o,x=.eptr k n i o):=by
 have one:∀{q:AV}{v:Value},RepA w M L h q v->aA w M L h [q] [v]:=λhq=>.cons hq .nil
 cases c with
 |pv r=>exact .inl (aA.map_pv r.cells)
 |ptr g=>exact .inl (one (.ptr g))
 |arr=>exact .inr (.inl ⟨_,_,rfl⟩)
 |eptr=>exact .inr (.inr ⟨_,_,_,_,rfl⟩)
 |agg cs vs b d=>exact .inl ⟨by simpa[AV.cells,Value.cells]using b,λi p u hp s=>d i p u (by simpa[AV.cells]using hp) (by simpa[Value.cells]using s)⟩
 |fn f first a vs us b g h1 m=>exact .inl (one (.fn f first a vs us b g h1 m))
 |tup cs vs b d=>exact .inl (one (.tup cs vs b d))
 |ext c=>
  refine .inl ?_
  have e:u.cells.toList=[u]:=by
   cases c with
   |suf l _ _ _ _=>obtain⟨_,_,_,rfl⟩:=l;rfl
   |_=>rfl
  rw[e];exact one (.ext c)
 |undef=>exact absurd rfl j
def ae(f:Nat->α)(k:Nat)(v:α):Nat->α:=λn=>if n=k then v else f n
theorem aF(f:Nat->α)(k:Nat)(v:α):ae f k v k=v:=by simp[ae]
theorem bB{f:Nat->α}{v:α}(h:n≠k):ae f k v n=f n:=by simp[ae,h]
structure Ext(S:Nat->Prop)(w w':World):Prop where
 os:w'.os=w.os
 tape:w'.tape=w.tape
 output:w'.output=w.output
 size:w.heap.size<=w'.heap.size
 block:∀b,b<w.heap.size->¬S b->w'.heap[b]?=w.heap[b]?
theorem Ext.refl(S:Nat->Prop)(w:World):Ext S w w:=⟨rfl,rfl,rfl,Ua _,λ_ _ _=>rfl⟩
theorem Ext.trans{e:Nat->Prop}{a b c:World}(h:Ext S a b)(k:Ext e b c)(f:∀x,x<a.heap.size->e x->S x):Ext S a c:=
 ⟨k.os.trans h.os,k.tape.trans h.tape,k.output.trans h.output,VH h.size k.size,
   λi hi hn=>(k.block i (UU hi h.size) (λd=>hn (f i hi d))).trans (h.block i hi hn)⟩
theorem Ext.cell(h:Ext S w w')(a:b<w.heap.size)(c:¬S b):w'.cell? ⟨b,o,none⟩=w.cell? ⟨b,o,none⟩:=by
 simp only[World.cell?,h.block b a c]
theorem Ext.alloc(S:Nat->Prop)(w:World)(o:Obj):Ext S w (w.alloc o):=
 ⟨rfl,rfl,rfl,by simp,λb a _=>RowKit.Below.heap_alloc w o b a⟩
theorem Ext.drew(S:Nat->Prop)(w:World):Ext S w w.drew:=⟨rfl,rfl,rfl,Ua _,λ_ _ _=>rfl⟩
structure Cx where
 P:Program
 N:Nat
 M0:Nat->Nat->Prop
 S:Nat->Prop
 pb:Nat->Option Nat
 pr:Nat->Option Loc:=λ_=>none
 hpr:∀k,k<2000000->pr k=none:=by intros;rfl
 w0:World
variable {C:Cx}
def Blk.live:Blk->Loc->Prop
 |.box _ _ _,_=>True
 |.row _ _ _ _,l=>l.isNil=false
 |.mp _ _ _ _,_=>True
def Blk.frz:Blk->Nat->Prop
 |.box _ _ fz,_=>fz=true
 |.row _ sz _ fz,o=>o<fz*sz
 |.mp _ _ _ fz,_=>fz=true
def ab(C:Cx)(L:Nat->Loc)(h:Hp)(b o:Nat):Prop:=C.M0 b o\/∃k blk,h k=some blk/\blk.live (L k)/\(L k).b=b/\¬blk.frz o
def dJ(w:World)(M:Nat->Nat->Prop)(L:Nat->Loc)(h:Hp)(l:Loc):Blk->Prop
 |.box cs _ _=>∃arr ty,w.heap[l.b]?=some (.cells arr ty (0,0))/\aA w M L h cs arr.toList
 |.row e sz xs fz=>0<sz/\fz<=xs.length/\(∀x∈xs,x.cells.length=sz)/\(l.isNil=true->xs=[])/\
   (l.isNil=false->xs.length<=l.cap/\l.cap<=maxLen/\∃arr,w.heap[l.b]?=some (.cells arr e (0,0))/\arr.size=l.cap*sz/\
     ∀(i:Nat) x(j:Nat) p,xs[i]?=some x->x.cells[j]?=some p->∃u,arr[i*sz+j]?=some u/\Rep w M p u)
 |.mp a n es _=>∃arr clock,w.heap[l.b]?=some (.map arr clock)/\JP a n es arr
def eY(C:Cx)(k:Nat)(l:Loc):Blk->Prop
 |.box _ false fz=>fz=false/\C.pb k=some l.b/\C.S l.b/\l.b<C.w0.heap.size/\∀o,C.M0 l.b o
 |.box _ true _=>C.w0.heap.size<=l.b\/(C.S l.b/\∀o,¬C.M0 l.b o)
 |.row _ _ _ _=>match C.pr k with
  |some a=>l=a/\(l.isNil=false->C.S l.b/\∀o,¬C.M0 l.b o)
  |none=>l.isNil=false->C.w0.heap.size<=l.b\/(C.S l.b/\∀o,¬C.M0 l.b o)
 |.mp _ _ _ _=>C.w0.heap.size<=l.b
theorem eY.row(h:eY C k l (.row e sz xs fz))(hn:l.isNil=false):C.w0.heap.size<=l.b\/(C.S l.b/\∀o,¬C.M0 l.b o):=by
 grind [eY]
theorem eY.mkRow(a:k<2000000)(h:l.isNil=false->C.w0.heap.size<=l.b):eY C k l (.row e sz xs fz):=by
 simp only[eY,C.hpr k a]
 grind
structure MemL(C:Cx)(L:Nat->Loc)(h:Hp)(w:World):Prop where
 ext:Ext C.S C.w0 w
 m0:∀b o,C.M0 b o->b<C.w0.heap.size
 bl:∀k blk,h k=some blk->dJ w (ab C L h) L h (L k) blk
 sep:∀k k' blk blk',k≠k'->h k=some blk->h k'=some blk'->blk.live (L k)->blk'.live (L k')->(L k).b≠(L k').b
 own:∀k blk,h k=some blk->eY C k (L k) blk
theorem dJ.lt(d:dJ w M L h l blk)(f:blk.live l):l.b<w.heap.size:=by
 have a:∀{o:Obj},w.heap[l.b]?=some o->l.b<w.heap.size:=λ{o} e=>by
  grind
 cases blk with
 |box cs own fz=>obtain⟨arr,ty,e,_⟩:=d;exact a e
 |row e sz xs fz=>obtain⟨_,_,_,_,h5⟩:=d;obtain⟨_,_,arr,e,_⟩:=h5 f;exact a e
 |mp g n es fz=>obtain⟨arr,c,e,_⟩:=d;exact a e
theorem MemL.mlt(c:MemL C L h w)(a:ab C L h b o):b<w.heap.size:=by
 rcases a with a|⟨k,blk,d,e,rfl,_⟩
 .exact UU (c.m0 b o a) c.ext.size
 .exact(c.bl k blk d).lt e
theorem vZ{o:Obj}(e:w.heap[b]?=some o):b<w.heap.size:=by
 grind
theorem Pres.ext(f:Ext S w w')(i:∀b,b<w.heap.size->S b->∀o,M b o)(e:∀b o,b<w.heap.size->M' b o->M b o):Pres w M w' M':=by
 have ns:∀b o,b<w.heap.size->¬M b o->¬S b:=λb o g hn h=>hn (i b g h o);refine⟨λb o v d hn=>?_,λb arr c d hn=>?_⟩
 .have a:=World.block_lt_of_cell? w ⟨b,o,none⟩ d
  exact⟨(f.cell a (ns b o a hn)).trans d,λh=>hn (e b o a h)⟩
 .have a:=vZ d
  exact⟨(f.block b a (ns b 0 a hn)).trans d,λh=>hn (e b 0 a h)⟩
theorem zS(h:w.cell? ⟨b,o,none⟩=some v):b<w.heap.size:=World.block_lt_of_cell? w ⟨b,o,none⟩ h
theorem dJ.mono(f:dJ w M L h l blk)(hp:Pres w M w' M')(q:KC L h L' h')
 (g:blk.live l->w'.heap[l.b]?=w.heap[l.b]?):dJ w' M' L' h' l blk:=by
 cases blk with
 |box cs own fz=>
  obtain⟨arr,ty,e,s,k⟩:=f;exact⟨arr,ty,(g trivial).trans e,s,λi p u h1 a=>(k i p u h1 a).mono hp q⟩
 |row z sz xs fz=>
  obtain⟨h1,a,m,o,h5⟩:=f;refine⟨h1,a,m,o,λhn=>?_⟩;obtain⟨h6,d,arr,e,h7,h8⟩:=h5 hn;refine⟨h6,d,arr,(g hn).trans e,h7,λi x j p y r=>?_⟩;obtain⟨u,v,k⟩:=h8 i x j p y r;exact⟨u,v,k.mono hp⟩
 |mp A n es fz=>
  obtain⟨arr,c,e,h1⟩:=f;exact⟨arr,c,(g trivial).trans e,h1⟩
theorem dJ.same{l':Loc}(f:dJ w M L h l blk)
 (a:w=w')(b:M=M')(c:L=L')(d:h=h')(e:l=l'):dJ w' M' L' h' l' blk:=by subst a;subst b;subst c;subst d;subst e;exact f
theorem KC.trans{e:Hp}(a:KC L h L' h')(b:KC L' h' L'' e):KC L h L'' e:=by
 intro k blk j;obtain⟨d,h1,f⟩:=a k blk j;obtain⟨c,g,i⟩:=b k d h1;refine⟨c,g,?_⟩;cases blk<;>cases d<;>cases c<;>simp only[dZ]at f i|-
 all_goals grind
theorem KC.new(hd:h d=none):KC L h (ae L d l) (ae h d (some blk)):=by
 intro k b a
 grind [bB,cX]
theorem MemL.newKey(p:MemL C L h w)(hd:h d=none)(y:d<2000000)(z:Ext (λ_=>False) w w')
 (j:blk.live l->w.heap.size<=l.b)(q:∀cs fz,blk≠.box cs false fz)
 (G:dJ w' (λb o=>ab C L h b o\/(blk.live l/\b=l.b)) (ae L d l) (ae h d (some blk)) l blk):
 MemL C (ae L d l) (ae h d (some blk)) w'/\Pres w (ab C L h) w' (ab C (ae L d l) (ae h d (some blk)))/\KC L h (ae L d l) (ae h d (some blk)):=by
 have s:KC L h (ae L d l) (ae h d (some blk)):=KC.new hd
 have E:∀b o,ab C (ae L d l) (ae h d (some blk)) b o->ab C L h b o\/(blk.live l/\b=l.b):=by
  rintro b o (D|⟨k,c,a,g,r,hf⟩)
  .exact .inl (.inl D)
  .by_cases e:k=d
   .grind [aF]
   .rw[bB e]at a g r
    exact .inl (.inr ⟨k,c,a,g,r,hf⟩)
 have m:Pres w (ab C L h) w' (ab C (ae L d l) (ae h d (some blk))):=by
  refine Pres.ext z (λ_ _ h=>h.elim) λb o H F=>?_
  grind
 refine⟨⟨p.ext.trans z (λ_ _ h=>h.elim),p.m0,?_,?_,?_⟩,m,s⟩
 .intro k c a
  by_cases e:k=d
  .subst e
   rw[aF]at a|-;injection a with a;subst a;exact G.mono (Pres.sub E) (KC.refl _ _) (λ_=>rfl)
  .rw[bB e]at a|-
   exact(p.bl k c a).mono m s (λg=>z.block _ ((p.bl k c a).lt g) (λh=>h))
 .intro k x A B u a f g i
  by_cases e:k=d
  .subst e
   have v:x≠k:=λe=>u e.symm;rw[bB v]at f i|-;rw[aF]at a g|-;injection a with a;subst a;have:=(p.bl x B f).lt i
   grind
  .rw[bB e]at a g|-
   by_cases v:x=d
   .subst v
    rw[aF]at f i|-;injection f with f;subst f;have:=(p.bl k A a).lt g
    grind
   .rw[bB v]at f i|-
    exact p.sep k x A B u a f g i
 .intro k c a
  by_cases e:k=d
  .subst e
   rw[aF]at a|-;injection a with a;subst a;have:=p.ext.size
   cases blk with
   |box cs own fz=>
    cases own with
    |false=>exact absurd rfl (q cs fz)
    |true=>have:=j trivial;exact .inl (by omega)
   |row e sz xs fz=>exact eY.mkRow y (λg=>by have:=j g;omega)
   |mp I n es fz=>have:=j trivial;simp only[eY];omega
  .rw[bB e]at a|-
   exact p.own k c a
theorem MemL.touch(g:MemL C L h w){blk':Blk}(p:h k=some blk)
 (y:∀b,b<w.heap.size->(blk.live (L k)->b≠(L k).b)->w'.heap[b]?=w.heap[b]?)(K:w.heap.size<=w'.heap.size)(J:w'.os=w.os)(M:w'.tape=w.tape)(hout:w'.output=w.output)
 (hpr:∀o v,blk.live (L k)->blk.frz o->w.cell? ⟨(L k).b,o,none⟩=some v->w'.cell? ⟨(L k).b,o,none⟩=some v)(H:∀o,blk.frz o->blk'.frz o)(F:dZ blk (L k) blk' (L k))
 (x:blk'.live (L k)↔blk.live (L k))(Q:eY C k (L k) blk')
 (T:dJ w' (ab C L (ae h k (some blk'))) L (ae h k (some blk')) (L k) blk')(I:∀D n es,blk≠.mp D n es true:=by intro _ _ _ h;cases h):
 MemL C L (ae h k (some blk')) w'/\Pres w (ab C L h) w' (ab C L (ae h k (some blk')))/\KC L h L (ae h k (some blk')):=by
 have z:KC L h L (ae h k (some blk')):=by
  intro q b hq;by_cases e:q=k
  .subst e;rw[p]at hq;injection hq with hq;subst hq;exact⟨blk',aF _ _ _,F⟩
  .exact⟨b,by rw[bB e];exact hq,cX _ _⟩
 have P:∀b o,ab C L (ae h k (some blk')) b o->ab C L h b o:=by
  rintro b o (S|⟨q,s,hq,a,j,hf⟩)
  .exact .inl S
  .by_cases e:q=k
   .subst e
    rw[aF]at hq;injection hq with hq;subst hq;exact .inr ⟨q,blk,p,x.1 a,j,λG=>hf (H o G)⟩
   .rw[bB e]at hq
    exact .inr ⟨q,s,hq,a,j,hf⟩
 have m:Pres w (ab C L h) w' (ab C L (ae h k (some blk'))):=by
  refine⟨?_,λb arr c i hn=>⟨?_,λu=>hn (P b 0 u)⟩⟩
  case refine_2=>
   have l:=vZ i;by_cases a:blk.live (L k)
   .by_cases e:b=(L k).b
    .subst e
     have R:=g.bl k blk p
     cases blk with
     |box cs own fz=>obtain⟨_,_,e,_⟩:=R;rw[e]at i;cases i
     |row e sz xs fz=>obtain⟨_,_,_,_,h5⟩:=R;obtain⟨_,_,_,e,_⟩:=h5 a;rw[e]at i;cases i
     |mp D n es fz=>
      cases fz with
      |true=>exact absurd rfl (I D n es)
      |false=>exact absurd (Or.inr ⟨k,_,p,a,rfl,by simp[Blk.frz]⟩) hn
    .rw[y b l (λ_=>e)];exact i
   .rw[y b l (λd=>absurd d a)];exact i
  intro b o v i hn;have l:=zS i;refine⟨?_,λu=>hn (P b o u)⟩;by_cases a:blk.live (L k)
  .by_cases e:b=(L k).b
   .subst e
    by_cases hf:blk.frz o
    .exact hpr o v a hf i
    .exact absurd (Or.inr ⟨k,blk,p,a,rfl,hf⟩) hn
   .simp only[World.cell?,y b l (λ_=>e)]at i|-;exact i
  .simp only[World.cell?,y b l (λd=>absurd d a)]at i|-;exact i
 refine⟨⟨?_,g.m0,?_,?_,?_⟩,m,z⟩
 .refine⟨J.trans g.ext.os,M.trans g.ext.tape,hout.trans g.ext.output,VH g.ext.size K,λb j hS=>?_⟩
  rw[y b (UU j g.ext.size),g.ext.block b j hS];rintro a rfl;have h1:=g.own k blk p
  cases blk with
  |box cs own fz=>
   cases own with
   |false=>exact hS h1.2.2.1
   |true=>rcases h1 with B|B
          .omega
          .exact hS B.1
  |row e sz xs fz=>
   rcases h1.row a with B|B
   all_goals grind
  |mp D n es fz=>simp only[eY]at h1;omega
 .intro q s hq
  by_cases e:q=k
  .grind [aF]
  .rw[bB e]at hq
   exact(g.bl q s hq).mono m z (λa=>y _ ((g.bl q s hq).lt a) (λd A=>g.sep q k s blk e hq p a d A))
 .intro q E N O r hq f a d
  by_cases e:q=k
  .subst e
   rw[aF]at hq;injection hq with hq;subst hq;rw[bB (λe=>r e.symm)]at f;exact g.sep q E blk O r p f (x.1 a) d
  .rw[bB e]at hq
   by_cases A:E=k
   .subst A
    rw[aF]at f;injection f with f;subst f;exact g.sep q E N blk r hq p a (x.1 d)
   .rw[bB A]at f
    exact g.sep q E N O r hq f a d
 .intro q s hq
  by_cases e:q=k
  .grind [aF]
  .rw[bB e]at hq;exact g.own q s hq
theorem MemL.move(g:MemL C L h w){d:Nat}{xs':List PV}(E:h k=some (.row d sz xs fz))(F:k<2000000)(s:Ext (λ_=>False) w w'){l':Loc}
 (y:l'.isNil=false/\w.heap.size<=l'.b)(x:xs.length<xs'.length)
 (D:dJ w' (λb o=>ab C L h b o\/b=l'.b) (ae L k l') (ae h k (some (.row d sz xs' fz))) l' (.row d sz xs' fz)):
 MemL C (ae L k l') (ae h k (some (.row d sz xs' fz))) w'/\Pres w (ab C L h) w' (ab C (ae L k l') (ae h k (some (.row d sz xs' fz))))/\KC L h (ae L k l') (ae h k (some (.row d sz xs' fz))):=by
 have m:KC L h (ae L k l') (ae h k (some (.row d sz xs' fz))):=by
  intro q b hq;by_cases e:q=k
  .subst e;rw[E]at hq;injection hq with hq;subst hq
   exact⟨_,aF _ _ _,rfl,rfl,by omega,λe=>by omega⟩
  grind [bB,cX]
 have A:∀b o,ab C (ae L k l') (ae h k (some (.row d sz xs' fz))) b o->ab C L h b o\/b=l'.b:=by
  rintro b o (z|⟨q,j,hq,f,l,hf⟩)
  .exact .inl (.inl z)
  .by_cases e:q=k
   .grind [aF]
   .rw[bB e]at hq f l;exact .inl (.inr ⟨q,j,hq,f,l,hf⟩)
 have c:Pres w (ab C L h) w' (ab C (ae L k l') (ae h k (some (.row d sz xs' fz)))):=by
  refine Pres.ext s (λ_ _ h=>h.elim) λb o G B=>?_
  grind
 refine⟨⟨g.ext.trans s (λ_ _ h=>h.elim),g.m0,?_,?_,?_⟩,c,m⟩
 .intro q j hq
  by_cases e:q=k
  .subst e
   rw[aF]at hq|-;injection hq with hq;subst hq;exact D.mono (Pres.sub A) (KC.refl _ _) (λ_=>rfl)
  .rw[bB e]at hq|-
   exact(g.bl q j hq).mono c m (λf=>s.block _ ((g.bl q j hq).lt f) (λh=>h))
 .intro q r u v n hq i f a
  by_cases e:q=k
  .subst e
   have p:r≠q:=λe=>n e.symm;rw[bB p]at i a|-;rw[aF]at f|-;have:=(g.bl r v i).lt a;omega
  .rw[bB e]at hq f|-
   by_cases p:r=k
   .subst p
    rw[aF]at a|-;have:=(g.bl q u hq).lt f;omega
   .rw[bB p]at i a|-
    exact g.sep q r u v n hq i f a
 .intro q j hq
  have:=g.ext.size;by_cases e:q=k
  .grind [aF,eY.mkRow]
  .rw[bB e]at hq|-;exact g.own q j hq
theorem MemL.grow(b:MemL C L h w)(c:Ext (λ_=>False) w w'):MemL C L h w'/\Pres w (ab C L h) w' (ab C L h):=by
 have a:Pres w (ab C L h) w' (ab C L h):=Pres.ext c (λ_ _ h=>h.elim) λ_ _ _ h=>h;exact⟨⟨b.ext.trans c (λ_ _ h=>h.elim),b.m0,λk blk d=>(b.bl k blk d).mono a (KC.refl _ _) (λe=>c.block _ ((b.bl k blk d).lt e) (λh=>h)),b.sep,b.own⟩,a⟩
inductive TK where
 |one
 |struct(fs:List (Nat×Nat))
 |array(len esz:Nat)
 |slice(e esz ebytes:Nat)(ezero:Option Value)
structure TI where
 size:Nat
 zero:Option Value
 kind:TK
variable {ti:TI}
def od(P:Program)(t:TypeId):Nat:=((P.info? t).map (·.size)).getD 0
def md(P:Program)(t:TypeId):Bool:=match P.underlying t with
 |some (.struct a)=>a.toList.all λf=>(P.info? f.type).isSome
 |some (.array _ e)=>(P.info? e).isSome
 |_=>true
def af(P:Program)(t:TypeId):Option TI:=
 if md P t=false then none else
 match P.info? t,P.underlying t with
 |some i,some d=>some {size:=i.size,zero:=i.zero,kind:=match d with
   |.struct a=>.struct (a.toList.map λf=>(f.offset,od P f.type))
   |.array n e=>.array n (od P e)
   |.slice e=>match P.info? e with
    |some j=>.slice e j.size j.bytes j.zero
    |none=>.one
   |_=>.one}
 |_,_=>none
def HT(P:Program)(t:TypeId):Option (IntKind×Nat×TypeId):=match P.underlying t with
 |some (.map c a)=>match P.underlying c with
  |some (.array n e)=>match P.underlying e,P.info? e with
   |some (.int b),some j=>if j.size=1 then some (b,n,a)else none
   |_,_=>none
  |_=>none
 |_=>none
def B0(kd:IntKind):List Value->Option (List Int)
 |[]=>some []
 |.int k i::r=>if k=kd then(B0 kd r).map (i::·)else none
 |_::_=>none
def B1(kd:IntKind)(n:Nat):AV->Option (List Int)
 |.pv (.val (.agg cs))=>match B0 kd cs.toList with
  |some a=>if a.length=n then some a else none
  |none=>none
 |_=>none
def Lq:List (List Int×Value)->List Int->Option Value
 |[],_=>none
 |(k,v)::r,a=>if k=a then some v else Lq r a
def Lr:List (List Int×Value)->List Int->Value->List (List Int×Value)
 |[],a,u=>[(a,u)]
 |(k,v)::r,a,u=>if k=a then(a,u)::r else(k,v)::Lr r a u
def TK.isAgg:TK->Bool
 |.struct _|.array _ _=>true
 |_=>false
def ak{α:Type}(P:Program):Sem α->Option α
 |.pure a=>some a
 |.program k=>ak P (k P)
 |_=>none
def v8:AV->List Nat
 |.ptr k _|.arr k _|.eptr k _ _ _=>[k]
 |.ext x=>[x.key]
 |_=>[]
def Ls:AV->List Nat
 |.agg cs=>cs.flatMap v8
 |.fn _ f c=>(f++c).flatMap v8
 |.tup vs=>vs.flatMap v8
 |x=>v8 x
abbrev cK:=AV×List (Nat×Blk)
def me:Value->Bool
 |.slice none 0 0=>true
 |_=>false
def nk:AV->Bool
 |.pv (.val v)=>me v
 |_=>false
def v9:PV->PV
 |.val v=>if me v then .sl []else .val v
 |p=>p
def B2(v:Value):Bool:=match v with
 |.agg cs=>cs.toList.any me
 |_=>false
def Fc(p:PV):PV:=match p with
 |.val v=>if me v then .sl []else if B2 v then fF (p.cells.map v9)else .val v
 |.agg cs=>fF (cs.map v9)
 |p=>p
def o8:PV->Bool
 |.agg _=>true
 |.val (.agg _)=>true
 |_=>false
def kR:PV->Bool
 |.val v=>v.oneCell'
 |.agg _=>false
 |.tup _=>false
 |_=>true
def uS(h:Hp):AV->Bool
 |.pv p=>kR p
 |.ptr _ _=>true
 |.arr k n=>match h k with
  |some (.row _ _ xs _)=>xs.length==n
  |_=>false
 |.fn _ _ _=>true
 |.ext _=>true
 |_=>false
def pN(a:Nat)(y:PV):Bool:=y.cells.length==a&&y.cells.all kR
def fY(h:Hp):AV->Option (List AV×Nat)
 |.ptr k off=>match h k with
  |some (.box cs _ _)=>some (cs,off)
  |_=>none
 |.pv (.rptr x off)=>some (x.cells.map .pv,off)
 |.eptr k n i off=>match h k with
  |some (.row _ _ xs _)=>if xs.length=n then(match xs[i]? with
   |some x=>some (x.cells.map .pv,off)
   |none=>none)else none
  |_=>none
 |_=>none
def yN(h:Hp)(sz:Nat):AV->Option PV
 |.pv (.rptr x 0)=>if o8 x&&x.cells.length==sz then some x else none
 |.eptr k n i 0=>match h k with
  |some (.row _ _ xs _)=>if xs.length=n then(match xs[i]? with
   |some x=>if o8 x&&x.cells.length==sz then some x else none
   |none=>none)else none
  |_=>none
 |_=>none
def uT(a:TI)(x:AV)(h:Hp):Option AV:=
 if a.kind.isAgg then
  match yN h a.size x with
  |some p=>some (.pv p)
  |none=>match fY h x with
   |some (cs,off)=>if off+a.size<=cs.length then some (sG ((cs.drop off).take a.size))else none
   |none=>none
 else match fY h x with
  |some (cs,off)=>cs[off]?
  |none=>none
def im(h:Hp):AV->Option (List AV)
 |.undef=>none
 |.eptr _ _ _ _=>none
 |.arr k n=>match h k with
  |some (.row _ _ xs _)=>if xs.length=n then some [.arr k n]else none
  |_=>none
 |x=>some x.cells
def df(cs:List α)(off:Nat)(vs:List α):List α:=cs.take off++vs++cs.drop (off+vs.length)
def lc(h:Hp):AV->Option (PV×List (Nat×Blk))
 |.pv p=>some (Fc p,[])
 |.arr k n=>match h k with
  |some (.row e sz xs _)=>if xs.length=n then some (.sl xs,[(k,.row e sz xs xs.length)])else none
  |_=>none
 |.ext (.mp k)=>match h k with
  |some (.mp a n es _)=>some (.mp a n es,[(k,.mp a n es true)])
  |_=>none
 |_=>none
def mF(h:Hp):List AV->Option (List PV×List (Nat×Blk))
 |[]=>some ([],[])
 |x::r=>match lc h x,mF h r with
  |some (p,W),some (ps,a)=>some (p::ps,W++a)
  |_,_=>none
def sg(h:Hp):AV->Option (PV×List (Nat×Blk))
 |.ext (.barr k n _)=>match h k with
  |some (.box cs true _)=>if cs.length=n then(match mF h cs with
   |some (ps,W)=>if ps.all kR=true then some (.sl ps,W++[(k,.box cs true true)])else none
   |none=>none)else if n<=cs.length then(match mF h cs with
   |some (ps,W)=>if ps.all kR=true then some (.sl (ps.take n),W++[(k,.box cs true true)])else none
   |none=>none)else none
  |_=>none
 |x=>lc h x
def pE(h:Hp):List AV->Option (List PV×List (Nat×Blk))
 |[]=>some ([],[])
 |x::r=>match sg h x,pE h r with
  |some (p,W),some (ps,a)=>some (p::ps,W++a)
  |_,_=>none
def jx:List PV->Bool
 |[p]=>kR p
 |_=>false
def qK(h:Hp):AV->Option (PV×List (Nat×Blk))
 |.pv p=>some (p,[])
 |.ptr k 0=>match h k with
  |some (.box cs true _)=>match kQ cs with
   |some ps=>if jx ps=true then some (.rptr (ps.headD default) 0,[(k,.box cs true true)])
    else some (.rptr (fF ps) 0,[(k,.box cs true true)])
   |none=>match pE h cs with
    |some (ps,W)=>if jx ps=true then some (.rptr (ps.headD default) 0,W++[(k,.box cs true true)])
     else some (.rptr (fF ps) 0,W++[(k,.box cs true true)])
    |none=>none
  |_=>none
 |_=>none
def kI(h:Hp):List AV->Option (List PV×List (Nat×Blk))
 |[]=>some ([],[])
 |x::r=>match qK h x,kI h r with
  |some (p,W),some (ps,a)=>some (p::ps,W++a)
  |_,_=>none
def zT(h:Hp):AV->Option (PV×List (Nat×Blk))
 |.agg cs=>match pE h cs with
  |some (ps,W)=>some (fF ps,W)
  |none=>none
 |.fn f first a=>match pE h first,kI h a with
  |some (ps,W),some (qs,b)=>some (.fn f ps qs,W++b)
  |_,_=>none
 |x=>sg h x
def oL(h:Hp):List AV->Option (List PV×List (Nat×Blk))
 |[]=>some ([],[])
 |x::r=>match zT h x,oL h r with
  |some (p,W),some (ps,a)=>some (p::ps,W++a)
  |_,_=>none
def frz(h:Hp):AV->Option (PV×List (Nat×Blk))
 |.agg cs=>match oL h cs with
  |some (ps,W)=>some (fF ps,W)
  |none=>none
 |.fn f first a=>match pE h first,kI h a with
  |some (ps,W),some (qs,b)=>some (.fn f ps qs,W++b)
  |_,_=>none
 |.tup vs=>match oL h vs with
  |some (ps,W)=>some (.tup ps,W)
  |none=>none
 |x=>sg h x
def ld:PV->Bool
 |.val _=>true
 |.agg cs=>cs.all λc=>match c with|.val _=>true|_=>false
 |_=>false
def xM(h:Hp):AV->Option PV
 |.pv p=>if ld p=true then some p else none
 |.arr k n=>match h k with
  |some (.row _ _ xs _)=>if xs.length=n/\k<2000000/\xs.all ld=true then some (.sl xs)else none
  |_=>none
 |.ext (.mp k)=>match h k with
  |some (.mp a n es _)=>some (.mp a n es)
  |_=>none
 |_=>none
def wc(h:Hp):List AV->Option (List PV)
 |[]=>some []
 |x::r=>match xM h x,wc h r with
  |some p,some ps=>some (p::ps)
  |_,_=>none
def zU(h:Hp):AV->Option PV
 |.ext (.barr k n _)=>match h k with
  |some (.box cs true _)=>if cs.length=n then(match wc h cs with
   |some ps=>if ps.all kR=true then some (.sl ps)else none
   |none=>none)else none
  |_=>none
 |x=>xM h x
def uU(h:Hp):List AV->Option (List PV)
 |[]=>some []
 |x::r=>match zU h x,uU h r with
  |some p,some ps=>some (p::ps)
  |_,_=>none
def yP(h:Hp):AV->Option PV
 |.ptr k 0=>match h k with
  |some (.box cs true _)=>match uU h cs with
   |some ps=>if jx ps=true then some (.rptr (ps.headD default) 0)else some (.rptr (fF ps) 0)
   |none=>none
  |_=>none
 |x=>zU h x
def qq(h:Hp):List AV->Option (List PV)
 |[]=>some []
 |x::r=>match yP h x,qq h r with
  |some p,some ps=>some (p::ps)
  |_,_=>none
def JQ(h:Hp):AV->Option PV
 |.fn f first a=>match uU h first,qq h a with
  |some ps,some qs=>some (.fn f ps qs)
  |_,_=>none
 |.tup vs=>match uU h vs with
  |some ps=>some (.tup ps)
  |none=>none
 |x=>zU h x
def we(a:TI)(x v:AV)(h:Hp):Option (List (Nat×Blk)):=
 match x with
 |.ptr k off=>match h k,im h v with
  |some (.box cs own false),some b=>if b.length=a.size/\off+b.length<=cs.length/\b.all (uS h)=true then some [(k,.box (df cs off b) own false)]else none
  |_,_=>none
 |.eptr k n i off=>match h k with
  |some (.row e sz xs fz)=>
   if xs.length=n/\fz<=i then
    match xs[i]?,sg h v with
    |some y,some (p,[])=>
     if pN a.size p=true then
      if off=0/\a.size=sz then some [(k,.row e sz (xs.set i p) fz)]
      else if off+a.size<=sz/\o8 y then some [(k,.row e sz (xs.set i (fF (df y.cells off p.cells))) fz)]
      else none
     else none
    |_,_=>none
   else none
  |_=>none
 |_=>none
def sH(h:Hp)(k n:Nat):Bool:=match h k with
 |some (.row _ _ xs _)=>xs.length==n
 |_=>false
def oM(b:TI)(x:AV)(f:Nat)(h:Hp):Option AV:=
 match b.kind with
 |.struct a=>match a[f]? with
  |some (o,s)=>if s=0 then none else match x with
   |.ptr k off=>some (.ptr k (off+o))
   |.pv (.rptr y off)=>some (.pv (.rptr y (off+o)))
   |.eptr k n i off=>if sH h k n=true then some (.eptr k n i (off+o))else none
   |_=>none
  |none=>none
 |_=>none
def oN(b:TI)(x:AV)(i:Int)(h:Hp):Option AV:=
 match b.kind with
 |.slice _ a _ _=>match x with
  |.pv (.sl xs)=>if 0<=i then(match xs[i.toNat]? with
   |some y=>if y.cells.length=a then some (.pv (.rptr y 0))else none
   |none=>none)else none
  |.arr k n=>match h k with
   |some (.row _ sz xs _)=>if xs.length=n/\sz=a/\0<=i/\i.toNat<n then some (.eptr k n i.toNat 0)else none
   |_=>none
  |_=>none
 |.array len a=>if 0<=i/\i.toNat<len then match x with
   |.ptr k off=>some (.ptr k (off+i.toNat*a))
   |.pv (.rptr y off)=>some (.pv (.rptr y (off+i.toNat*a)))
   |.eptr k n j off=>if sH h k n=true then some (.eptr k n j (off+i.toNat*a))else none
   |_=>none
  else none
 |_=>none
def tu(b:TI)(x:AV)(i:Int)(h:Hp):Option AV:=
 match b.kind,x with
 |.slice _ 1 _ _,.ext (.barr k n _)=>if 0<=i/\i.toNat<n then some (.ptr k i.toNat)else none
 |.slice _ a _ _,.ext (.suf k o n t)=>match h k with
  |some (.row _ sz xs _)=>if xs.length=t/\sz=a/\0<=i/\i.toNat<n then some (.eptr k t (o+i.toNat) 0)else none
  |_=>none
 |_,_=>none
def zV:Option AV->Option AV->Option AV
 |some v,_=>some v
 |none,y=>y
def tv(place:Nat->Option (Nat×Nat))(cells:List AV):List (Nat×List AV)->Option (List AV)
 |[]=>some cells
 |(i,vs)::rest=>match place i with
  |none=>none
  |some (off,size)=>if vs.length≠size\/off+vs.length>cells.length then none else tv place (df cells off vs) rest
def qu(h:Hp)(ρ:Operand->AV):List (Nat×Operand)->Option (List (Nat×List AV))
 |[]=>some []
 |(i,x)::r=>match im h (ρ x),qu h ρ r with
  |some cs,some ps=>some ((i,cs)::ps)
  |_,_=>none
def wg(b:TI)(ps:List (Nat×List AV)):Option AV:=
 match b.zero with
 |none=>none
 |some z=>
  let c:=z.cells.toList.map λv=>AV.pv (.val v)
  match b.kind with
  |.struct d=>(tv (λi=>d[i]?) c ps).map sG
  |.array _ a=>(tv (λi=>some (i*a,a)) c ps).map sG
  |_=>none
def Fd(a:Bool)(h:Hp)(x:AV):Option (PV×List (Nat×Blk)):=match a,x with
 |true,.pv (.val v)=>some (.val v,[])
 |_,x=>frz h x
def Gv(hn:List Nat)(d:Option Nat):Bool:=match d with
 |some d=>hn.contains (d+2000000)
 |none=>false
def qv(h:Hp)(ρ:Operand->AV)(a:Nat)(b:Bool):Nat->List (Nat×Operand)->Option (List PV×List (Nat×Blk))
 |_,[]=>some ([],[])
 |k,(i,x)::r=>if i=k then match Fd b h (ρ x),qv h ρ a b (k+1) r with
   |some (p,W),some (ps,c)=>if p.cells.length=a then some (p::ps,W++c)else none
   |_,_=>none
  else none
def fZ(h:Hp):AV->Option (List PV)
 |.pv (.sl a)=>some a
 |.pv (.val v)=>if me v then some []else none
 |.arr k n=>match h k with
  |some (.row _ _ xs _)=>if xs.length=n then some xs else none
  |_=>none
 |_=>none
def tw(g:TI)(d:Option Nat)(s x:AV)(h:Hp):Option cK:=
 match g.kind with
 |.slice f b a (some z)=>
  match fZ h x with
  |none=>none
  |some c=>
   if 0<b/\z.cells.size=b/\c.all (pN b)=true then
    match s with
    |.arr k n=>match h k with
     |some (.row e sz xs fz)=>
      if k<2000000/\xs.length=n/\e=f/\sz=b/\(n+c.length)*a<=140737488355328/\n+c.length<=9223372036854775807 then some (.arr k (n+c.length),[(k,.row e sz (xs++c) fz)])else none
     |_=>none
    |.pv (.val v)=>
     if me v then match d with
      |some d=>if(h d).isNone/\c.length*a<=140737488355328/\c.length<=9223372036854775807 then some (.arr d c.length,[(d,.row f b c 0)])else none
      |none=>none
     else none
    |_=>none
   else none
 |_=>none
def yQ(c:TI)(s x:AV)(h:Hp):Option cK:=
 match c.kind,s with
 |.slice _ a _ _,.arr k n=>match h k,fZ h x with
  |some (.row e sz xs 0),some b=>
   if xs.length=n/\sz=a/\b.all (pN a)=true then
    some (.pv (.val (.int .i64 (Nat.min b.length n:Nat))),[(k,.row e sz (b.take (Nat.min b.length n)++xs.drop (Nat.min b.length n)) 0)])else none
  |_,_=>none
 |_,_=>none
def BI(a:TI)(x:AV)(h:Hp):Option AV:=
 match a.kind,x with
 |.slice _ _ _ _,.pv (.sl xs)=>some (.pv (.val (.int .i64 (xs.length:Nat))))
 |.slice _ _ _ _,.pv (.hd n)=>some (.pv (.val (.int .i64 (n:Nat))))
 |.slice _ _ _ _,.arr k n=>match h k with
  |some (.row _ _ xs _)=>if xs.length=n then some (.pv (.val (.int .i64 (n:Nat))))else none
  |_=>none
 |.slice _ _ _ _,.ext (.barr _ n _)=>some (.pv (.val (.int .i64 (n:Nat))))
 |.slice _ _ _ _,.ext (.suf k o n t)=>match h k with
  |some (.row _ _ xs _)=>if xs.length=t then some (.pv (.val (.int .i64 (n:Nat))))else none
  |_=>none
 |_,_=>none
def wh(b:TI)(hn:List Nat)(d:Option Nat)(l c:AV)(h:Hp):Option cK:=
 match b.kind,l,c,d with
 |.slice _ 1 a (some z),.pv (.val (.int _ n)),.pv (.val (.int _ m)),some d=>
  if hn.contains (d+1000000)=true/\kR (.val z)=true/\m=n/\0<=n/\(a:Int)*n<=281474976710656/\n<=9223372036854775807/\(h d).isNone then
   some (.ext (.barr d n.toNat n.toNat),[(d,.box (List.replicate n.toNat (.pv (.val z))) true false)])
  else none
 |_,_,_,_=>none
def zW:Option cK->Option cK->Option cK
 |some v,_=>some v
 |none,y=>y
def Gw(P:Program)(t:TypeId)(d:Option Nat)(h:Hp):Option cK:=
 match HT P t,d with
 |some (a,n,_),some d=>if(h d).isNone then some (.ext (.mp d),[(d,.mp a n [] false)])else none
 |_,_=>none
def NR(P:Program)(t:TypeId):Option Value:=(P.info? t).bind (·.zero)
def Eg(z:Option Value)(ok:Bool):Option Value->Option AV
 |some v=>some (.pv (if ok then .tup [.val v,.val (.bool true)]else .val v))
 |none=>match z with
  |some z=>some (.pv (if ok then .tup [.val z,.val (.bool false)]else .val z))
  |none=>none
def JR(h:Hp):AV->Option (IntKind×Nat×List (List Int×Value))
 |.ext (.mp k)=>match h k with
  |some (.mp a n es _)=>some (a,n,es)
  |_=>none
 |.pv (.mp a n es)=>some (a,n,es)
 |_=>none
def HU(P:Program)(t:TypeId)(x i:AV)(ok:Bool)(h:Hp):Option AV:=
 match HT P t,JR h x with
 |some (b,n,c),some (a,e,es)=>if a=b/\e=n then match B1 b n i with
   |some d=>Eg (NR P c) ok (Lq es d)
   |none=>none else none
 |_,_=>none
def HV(P:Program)(t:TypeId)(x i v:AV)(h:Hp):Option (List (Nat×Blk)):=
 match HT P t,x,v with
 |some (a,n,_),.ext (.mp k),.pv (.val v)=>match h k,B1 a n i with
  |some (.mp b d es false),some c=>if b=a/\d=n then some [(k,.mp a n (Lr es c v) false)]else none
  |_,_=>none
 |_,_,_=>none
def yR(f:TI)(d:Option Nat)(l c:AV)(h:Hp):Option cK:=
 match f.kind,l,c,d with
 |.slice e b a (some z),.pv (.val (.int _ n)),.pv (.val (.int _ m)),some d=>
  if 0<b/\z.cells.size=b/\m=n/\0<=n/\(a:Int)*n<=281474976710656/\n<=9223372036854775807/\(h d).isNone then
   some (.arr d n.toNat,[(d,.row e b (List.replicate n.toNat (.val z)) 0)])
  else none
 |_,_,_,_=>none
def lE(b:TI)(x:AV)(lo hi:Option AV):Option AV:=
 match b.kind,x with
 |.slice _ a _ _,.pv (.sl xs)=>
  let l:=match lo with|none=>some 0|some (.pv (.val (.int _ n)))=>if 0<=n then some n.toNat else none|_=>none
  let r:=match hi with|none=>some xs.length|some (.pv (.val (.int _ n)))=>if 0<=n then some n.toNat else none|_=>none
  match l,r with
  |some l,some r=>if l<=r/\r<=xs.length/\0<a/\xs.all (pN a)=true then some (.pv (.sl ((xs.take r).drop l)))else none
  |_,_=>none
 |_,_=>none
def eZ:AV->Option Value
 |.pv (.val v)=>some v
 |_=>none
def pX(x:AV):Value:=(eZ x).getD undef
def bz(P:Program)(o:Oper)(ρ:Operand->AV):Option cK:=
 if(o.op.operands.toList.all λx=>(eZ (ρ x)).isSome)=true then
  match ak P (execOp (λx=>pX (ρ x)) o)with
  |some (.value v)=>some (.pv (.val v),[])
  |_=>none
 else none
def zX(op:BinOp)(k:IntKind)(a b:Int):Int:=match op with
 |.and=>k.wrap (BitVec.ofInt k.bits a &&& BitVec.ofInt k.bits b).toNat
 |.or=>k.wrap (BitVec.ofInt k.bits a ||| BitVec.ofInt k.bits b).toNat
 |.xor=>k.wrap (BitVec.ofInt k.bits a ^^^ BitVec.ofInt k.bits b).toNat
 |_=>k.wrap (BitVec.ofInt k.bits a &&& ~~~BitVec.ofInt k.bits b).toNat
def sI(op:BinOp)(x y:AV):Option Value:=
 match x,y with
 |.pv (.val (.int k a)),.pv (.val (.int c b))=>match op with
  |.shl=>if 0<=b then some (.int k (k.wrap (a*2^(min b.toNat k.bits))))else none
  |.shr=>if 0<=b then some (.int k (a.fdiv (2^(min b.toNat k.bits))))else none
  |.add=>if k=c then some (.int k (k.wrap (a+b)))else none
  |.sub=>if k=c then some (.int k (k.wrap (a-b)))else none
  |.mul=>if k=c then some (.int k (k.wrap (a*b)))else none
  |.quo=>if k=c/\b≠0 then some (.int k (k.wrap (a.tdiv b)))else none
  |.rem=>if k=c/\b≠0 then some (.int k (a.tmod b))else none
  |.eql=>if k=c then some (.bool (a==b))else none
  |.neq=>if k=c then some (.bool (a !=b))else none
  |.lss=>if k=c then some (.bool (decide (a<b)))else none
  |.leq=>if k=c then some (.bool (decide (a<=b)))else none
  |.gtr=>if k=c then some (.bool (decide (b<a)))else none
  |.geq=>if k=c then some (.bool (decide (b<=a)))else none
  |.and=>if k=c then some (.int k (zX .and k a b))else none
  |.or=>if k=c then some (.int k (zX .or k a b))else none
  |.xor=>if k=c then some (.int k (zX .xor k a b))else none
  |.andNot=>if k=c then some (.int k (zX .andNot k a b))else none
 |.pv (.val (.string a)),.pv (.val (.string b))=>match op with
  |.eql=>some (.bool (a.toList==b.toList))
  |.neq=>some (.bool !(a.toList==b.toList))
  |_=>none
 |_,_=>none
def yS(op:UnOp)(x:AV):Option Value:=
 match op,x with
 |.not,.pv (.val (.bool b))=>some (.bool !b)
 |.neg,.pv (.val (.int k n))=>some (.int k (k.wrap (0-n)))
 |_,_=>none
def dN(P:Program)(t:TypeId):Option IntKind:=match P.underlying t with
 |some (.int k)=>some k
 |_=>none
def tx(P:Program)(s d:TypeId)(x:AV):Option Value:=
 match dN P s,dN P d,x with
 |some _,some k,.pv (.val (.int _ n))=>some (.int k (k.wrap n))
 |_,_,_=>none
def wi:List AV->Option Value
 |[.pv (.val (.int k a)),.pv (.val (.int _ b))]=>some (.int k (if b<a then b else a))
 |_=>none
def wj:List AV->Option Value
 |[.pv (.val (.int k a)),.pv (.val (.int _ b))]=>some (.int k (if b>a then b else a))
 |_=>none
def np(P:Program)(o:Oper)(ρ:Operand->AV):Option Value->Option cK
 |some v=>some (.pv (.val v),[])
 |none=>bz P o ρ
def B3:AV->Option Int
 |.pv (.val (.int _ n))=>some n
 |_=>none
def uV(P:Program)(o:Oper)(b:Builtin)(args:List AV)(a:List TypeId)(ρ:Operand->AV)(h:Hp):Option cK:=
 match b,args,a with
 |.len,[x],[t]=>match x with
  |.pv (.val _)=>bz P o ρ
  |_=>match af P t with
   |some ti=>(BI ti x h).map λv=>(v,[])
   |none=>none
 |.append,[s,x],[t,t']=>if t=t' then match af P t with
   |some ti=>tw ti o.dst s x h
   |none=>none
  else none
 |.copy,[s,x],[t,_]=>match af P t with
  |some ti=>yQ ti s x h
  |none=>none
 |.min,_,_=>np P o ρ (wi args)
 |.max,_,_=>np P o ρ (wj args)
 |_,_,_=>none
def gG(P:Program)(t:TypeId):Option (Option Nat):=match P.underlying t with
 |some .string=>some none
 |some (.array n e)=>match P.underlying e with
  |some (.struct _)=>none
  |some (.array _ _)=>none
  |some _=>if od P e=1/\(P.info? e).isSome=true then some (some n)else none
  |none=>none
 |_=>none
def yT:Option (Option Nat)->AV->AV->Option Value
 |some none,.pv (.val (.string s)),.pv (.val (.int _ i))=>if 0<=i then(s[i.toNat]?).map λb=>.int .u8 b.toNat else none
 |some (some n),.pv (.val (.agg cs)),.pv (.val (.int _ i))=>if 0<=i/\i<n then cs[i.toNat]? else none
 |_,_,_=>none
def qL(P:Program)(t:TypeId):Option Bool:=match P.underlying t with
 |some (.struct _)=>some true
 |some (.array _ _)=>some true
 |some _=>some false
 |none=>none
def tz(P:Program)(t:TypeId):Option (Nat×Nat):=match P.underlying t with
 |some (.array n e)=>match qL P e,P.info? e with
  |some true,some j=>some (n,j.size)
  |_,_=>none
 |_=>none
def xP(cs:Array Value)(off sz:Nat):Value:=.agg ((cs.toList.drop off).take sz).toArray
def yU:Option (Nat×Nat)->AV->AV->Option Value
 |some (n,sz),.pv (.val (.agg cs)),.pv (.val (.int _ i))=>if 0<=i/\i<n then some (xP cs (i.toNat*sz) sz)else none
 |_,_,_=>none
def sJ(P:Program)(t:TypeId)(f:Nat):Option (Bool×Nat×Nat):=match P.underlying t with
 |some (.struct c)=>match c[f]? with
  |some a=>match qL P a.type,P.info? a.type with
   |some b,some j=>some (b,a.offset,j.size)
   |_,_=>none
  |none=>none
 |_=>none
def wk:Option (Bool×Nat×Nat)->AV->Option Value
 |some (true,off,sz),.pv (.val (.agg cs))=>some (xP cs off sz)
 |some (false,off,_),.pv (.val (.agg cs))=>cs[off]?
 |_,_=>none
def wm:Option Value->Option Value->Option Value
 |some v,_=>some v
 |none,y=>y
def BJ(f:Fn):List AV->List AV->AV
 |x::r,[]=>match kQ (x::r)with
  |some ps=>match dD ps with
   |some vs=>.pv (.val (.func f vs.toArray #[]))
   |none=>.pv (.fn f ps [])
  |none=>.fn f (x::r) []
 |first,a=>.fn f first a
def tA(h:Hp):AV->Option Bool
 |.pv (.val v)=>if me v then some true else none
 |.pv (.sl xs)=>if xs.isEmpty then none else some false
 |.arr k n=>match h k with
  |some (.row _ _ xs _)=>if xs.length=n/\n≠0 then some false else none
  |_=>none
 |_=>none
def qw(h:Hp):AV->Bool
 |.pv (.sl xs)=>xs.isEmpty
 |.arr k n=>match h k with
  |some (.row _ _ xs _)=>decide (xs.length=n)&&decide (n=0)
  |_=>false
 |_=>false
def mM(P:Program)(t:TypeId):Bool:=match af P t with
 |some {kind:=.slice _ _ _ _,..}=>true
 |_=>false
def yV(op:BinOp):Option Bool->Option Bool
 |none=>none
 |some b=>match op with
  |.eql=>some b
  |.neq=>some !b
  |_=>none
def B4(P:Program)(h:Hp)(ρ:Operand->AV)(op:BinOp)(t:TypeId)(x y:Operand):Option Bool:=
 if(nk (ρ y)&&mM P t)=true then yV op (tA h (ρ x))else none
def xQ(P:Program)(hn:List Nat)(dst:Option Nat)(h:Hp)(t:TypeId)(len:Nat)(ps:List (Nat×Operand)):Option cK:=
 match len,ps,dst with
 |0,[],some d=>if hn.contains d=true then match af P t with
   |some {kind:=.slice e a _ (some _),..}=>if(h d).isNone/\0<a then some (.arr d 0,[(d,.row e a [] 0)])else none
   |_=>none
  else none
 |_,_,_=>none
def B5(hn:List Nat)(dst:Option Nat)(h:Hp)(W:List (Nat×Blk)):Option Nat:=match dst,W with
 |some d,[]=>if(hn.contains d&&(h d).isNone)=true then some d else none
 |_,_=>none
def JS(a:TI)(h:Hp)(x:AV)(lo hi:Option AV):Option cK:=match sg h x with
 |some (p,W)=>match lE a (.pv p) lo hi with
  |some v=>some (v,W)
  |none=>none
 |none=>none
def sK(P:Program)(t:TypeId):Bool:=match P.underlying t with
 |some (.interface _)=>false
 |some _=>true
 |none=>false
def zY(P:Program)(t:TypeId)(p:PV)(a:TypeId)(ok:Bool):Option AV:=
 if t=a then some (if ok then .pv (.tup [p,.val (.bool true)])else .pv p)
 else if ok then match(af P a).bind (·.zero)with
  |some z=>some (.pv (.tup [.val z,.val (.bool false)]))
  |none=>none
 else none
def tB(P:Program)(t:TypeId)(name:String):Option FuncId:=match P.info? t with
 |some i=>match i.methods.find? (·.name==name)with
  |some m=>if m.path.isEmpty then(match m.func,P.underlying t with
    |some (_,true),_=>none
    |some (_,false),some (.pointer _)=>none
    |some (f,false),some _=>some f
    |_,_=>none)else none
  |none=>none
 |none=>none
def pF(P:Program)(name:String):AV->AV
 |.pv (.ifc t p)=>match tB P t name with
  |some f=>.fn (.func f) [.pv p] []
  |none=>.undef
 |_=>.undef
def eP(P:Program)(hn:List Nat)(o:Oper)(ρ:Operand->AV)(h:Hp):Option cK:=
 match o.op with
 |.move x=>some (ρ x,[])
 |.assign x=>match o.dst with
  |some d=>if(hn.contains d&&nk (ρ x))=true then
    match af P o.type with
    |some {kind:=.slice e g _ _,..}=>if(h d).isNone/\0<g then some (.arr d 0,[(d,.row e g [] 0)])else none
    |_=>none
   else some (ρ x,[])
  |none=>some (ρ x,[])
 |.pick c a b=>match ρ c with
  |.pv (.val (.bool t))=>some (if t then ρ a else ρ b,[])
  |_=>none
 |.alloc e=>match af P e,o.dst with
  |some {zero:=some z,..},some d=>if(h d).isNone then some (.ptr d 0,[(d,.box (z.cells.toList.map λv=>.pv (.val v)) true false)])else none
  |_,_=>none
 |.box _ x=>match im h (ρ x),o.dst with
  |some cs,some d=>if(h d).isNone then some (.ptr d 0,[(d,.box cs true false)])else none
  |_,_=>none
 |.build t ps=>match af P t,qu h ρ ps.toList with
  |some ti,some qs=>(wg ti qs).map λv=>(v,[])
  |_,_=>none
 |.buildSlice t len ps=>match xQ P hn o.dst h t len ps.toList with
  |some m=>some m
  |none=>match af P t with
   |some {kind:=.slice e g _ (some _),..}=>match qv h ρ g (Gv hn o.dst) 0 ps.toList with
    |some (xs,W)=>if xs.length=len/\0<g/\len*g<=16777216 then(match B5 hn o.dst h W with
     |some d=>some (.arr d len,[(d,.row e g xs 0)])
     |none=>some (.pv (.sl xs),W))else none
    |none=>none
   |_=>none
 |.load t a=>match af P t with
  |some ti=>(uT ti (ρ a) h).map λv=>(v,[])
  |none=>none
 |.store t a v=>match af P t with
  |some ti=>(we ti (ρ a) (ρ v) h).map λW=>(.undef,W)
  |none=>none
 |.nilCheck x=>match ρ x with
  |.ptr k off=>some (.ptr k off,[])
  |.pv (.rptr y off)=>some (.pv (.rptr y off),[])
  |_=>none
 |.fieldAddr s x f=>match af P s with
  |some ti=>(oM ti (ρ x) f h).map λv=>(v,[])
  |none=>none
 |.indexAddr t x i=>match af P t,B3 (ρ i)with
  |some ti,some n=>(zV (oN ti (ρ x) n h) (tu ti (ρ x) n h)).map λv=>(v,[])
  |_,_=>none
 |.makeFunc f first j=>some (BJ f (first.toList.map ρ) (j.toList.map ρ),[])
 |.makeInterface t x=>if sK P t then(match frz h (ρ x)with
   |some (p,W)=>some (.pv (.ifc t p),W)
   |none=>none)else none
 |.typeAssert x _ a ok=>match ρ x with
  |.pv (.ifc t p)=>if sK P a then(zY P t p a ok).map λv=>(v,[])else none
  |_=>none
 |.makeSlice t l c=>match af P t with
  |some ti=>zW (wh ti hn o.dst (ρ l) (ρ c) h) (yR ti o.dst (ρ l) (ρ c) h)
  |none=>none
 |.slice t x lo hi q=>match ρ x,q with
  |.pv (.val _),_=>bz P o ρ
  |.arr k n,none=>match af P t with
   |some ti=>JS ti h (.arr k n) (lo.map ρ) (hi.map ρ)
   |none=>none
  |_,none=>match af P t with
   |some ti=>(lE ti (ρ x) (lo.map ρ) (hi.map ρ)).map λv=>(v,[])
   |none=>none
  |_,_=>none
 |.extract t i=>match ρ t with
  |.tup vs=>(vs[i]?).map λv=>(v,[])
  |.pv (.tup vs)=>(vs[i]?).map λv=>(.pv v,[])
  |.pv (.val _)=>bz P o ρ
  |_=>none
 |.call c=>match c.callee with
  |.builtin b=>uV P o b (c.args.toList.map ρ) c.argTypes.toList ρ h
  |_=>none
 |.binOp op t x y _=>match B4 P h ρ op t x y with
  |some b=>some (.pv (.val (.bool b)),[])
  |none=>np P o ρ (sI op (ρ x) (ρ y))
 |.unOp op _ x=>np P o ρ (yS op (ρ x))
 |.convert s d x=>np P o ρ (tx P s d (ρ x))
 |.field t x f=>np P o ρ (wk (sJ P t f) (ρ x))
 |.index t x i=>np P o ρ (wm (yT (gG P t) (ρ x) (ρ i)) (yU (tz P t) (ρ x) (ρ i)))
 |_=>none
structure St where
 t:Nat->AV
 h:Hp
def St.ev(st:St):Operand->AV
 |.tmp n=>st.t n
 |.const v=>.pv (.val v)
 |.global _=>.undef
 |.func f=>.pv (.val (.func (.func f) #[] #[]))
def ai(h:Hp)(W:List (Nat×Blk)):Hp:=W.foldl (λh a=>ae h a.1 (some a.2)) h
def St.put(st:St)(d:Option Nat)(v:AV)(W:List (Nat×Blk)):St:=
 ⟨match d with|some d=>ae st.t d v|none=>st.t,ai st.h W⟩
inductive Arg where
 |pv(p:PV)
 |bx(i:Nat)
inductive RV where
 |pv(p:PV)
 |box(ps:List PV)
 |row(e sz:Nat)(xs:List PV)
 |srow(pre:List PV)(e sz:Nat)(xs:List PV)
 |nrow(e sz:Nat)(xs:List PV)
 |new(p:PV)
def da(P:Program)(f:FuncId):Bool:=match P.funcs[f]? with
 |some fn=>fn.body.isSome&& !(fn.name== "runtime.NumGoroutine")
 |none=>false
def kD(w:World)(M:Nat->Nat->Prop)(b:Nat)(ps:List PV):Prop:=∃arr ty,w.heap[b]?=some (.cells arr ty (0,0))/\bS w M ps arr.toList
def Gx(w:World)(M:Nat->Nat->Prop)(a:List Nat):Arg->Value->Prop
 |.pv p,v=>Rep w M p v
 |.bx j,v=>∃b,a[j]?=some b/\v=.pointer (some ⟨b,0,none⟩)
def yW(w c:World)(M:Nat->Nat->Prop):RV->Value->Prop
 |.pv p,v=>Rep c M p v
 |.new p,v=>Rep c (λb _=>b<w.heap.size) p v
 |.box ps,v=>∃b,w.heap.size<=b/\v=.pointer (some ⟨b,0,none⟩)/\kD c (λa o=>M a o\/a=b) b ps
 |.row e sz xs,v=>∃l:Loc,v=l.slice xs.length/\(l.isNil=false->w.heap.size<=l.b)/\
   dJ c (λa o=>M a o\/(l.isNil=false/\a=l.b)) (λ_=>default) (λ_=>none) l (.row e sz xs 0)
 |.nrow e sz xs,v=>xs.all ld=true/\∃l:Loc,v=l.slice xs.length/\(l.isNil=false->w.heap.size<=l.b)/\
   dJ c (λa o=>M a o\/(l.isNil=false/\a=l.b)) (λ_=>default) (λ_=>none) l (.row e sz xs 0)
 |.srow pre e sz xs,v=>∃(l:Loc)(us:List Value),v=.agg (us++[l.slice xs.length]).toArray/\(l.isNil=false->w.heap.size<=l.b)/\bS c (λa o=>M a o\/(l.isNil=false/\a=l.b)) pre us/\
   dJ c (λa o=>M a o\/(l.isNil=false/\a=l.b)) (λ_=>default) (λ_=>none) l (.row e sz xs 0)
def aP(P:Program)(f:FuncId)(args:List Arg)(hin hout:List (List PV))(res:RV):Prop:=
 da P f=true/\hout.length=hin.length/\∀(w:World)(M:Nat->Nat->Prop)(c:List Nat)(vs:List Value),
  (∀b o,M b o->b<w.heap.size)->c.length=hin.length->c.Nodup->
  (∀(i:Nat) b ps,c[i]?=some b->hin[i]?=some ps->(∀o,M b o)/\kD w M b ps)->
  args.length=vs.length->(∀(i:Nat) a v,args[i]?=some a->vs[i]?=some v->Gx w M c a v)->
  Calls P f vs.toArray w λe w'=>∃v,e=.returned v/\Ext (·∈c) w w'/\
   (∀(i:Nat) b ps,c[i]?=some b->hout[i]?=some ps->kD w' M b ps)/\yW w w' M res v
def bX:AV->Option (FuncId×List AV×List AV)
 |.pv (.val (.func (.func f) first a))=>some (f,first.toList.map (λv=>.pv (.val v)),a.toList.map (λv=>.pv (.val v)))
 |.pv (.fn (.func f) first a)=>some (f,first.map .pv,a.map .pv)
 |.fn (.func f) first a=>some (f,first,a)
 |_=>none
def Fe(h:Hp)(k:Nat):Bool:=match h k with
 |some (.box cs true _)=>(kQ cs).isSome
 |_=>true
def jy(h:Hp):List AV->List Nat->Option (List Arg×List Nat×List (Nat×Blk))
 |[],b=>some ([],b,[])
 |x::r,b=>match x with
  |.ptr k off=>if off=0/\b.contains k=false/\Fe h k=true then match jy h r (b++[k])with
    |some (c,a,W)=>some (.bx b.length::c,a,W)
    |none=>none
   else if Fe h k=false then match qK h (.ptr k off),jy h r b with
    |some (p,W),some (c,a,d)=>some (.pv p::c,a,W++d)
    |_,_=>none
   else none
  |x=>match frz h x,jy h r b with
   |some (p,W),some (c,a,d)=>some (.pv p::c,a,W++d)
   |_,_=>none
def lW(h:Hp):List Nat->Option (List (List PV))
 |[]=>some []
 |k::r=>match h k,lW h r with
  |some (.box cs _ false),some a=>match kQ cs with
   |some ps=>some (ps::a)
   |none=>none
  |_,_=>none
def jS(h:Hp):List Nat->List (List PV)->List (Nat×Blk)
 |k::b,ps::a=>(match h k with
   |some (.box _ own _)=>[(k,.box (ps.map .pv) own false)]
   |_=>[])++jS h b a
 |_,_=>[]
def B6:PV->Bool
 |.val _=>true
 |.hd _=>true
 |_=>false
def qA:PV->Bool
 |.val _=>true
 |.hd _=>true
 |.tup cs=>cs.all B6
 |.agg cs=>cs.all B6
 |_=>false
def Ff(ks:List Nat)(p:PV)(W:List (Nat×Blk)):List (Nat×Blk):=if(ks.isEmpty&&qA p)=true then[]else W
def lF(h:Hp)(d:Option Nat)(ks:List Nat)(a:List (Nat×Blk))(hout:List (List PV))(res:RV):Option cK:=
 match res,d with
 |.pv p,_=>some (.pv p,Ff ks p a++jS h ks hout)
 |.new p,_=>if ks=[]then some (.pv p,[])else none
 |.box ps,some d=>if(h d).isNone/\ks=[]then some (.ptr d 0,a++[(d,.box (ps.map .pv) true false)])else none
 |.row e sz xs,some d=>if(h d).isNone/\ks=[]then some (.arr d xs.length,a++[(d,.row e sz xs 0)])else none
 |.nrow e sz xs,some d=>if(h d).isNone/\ks=[]then some (.arr d xs.length,[(d,.row e sz xs 0)])else none
 |.srow pre e sz xs,some d=>if(h d).isNone/\ks=[]then some (.agg (pre.map .pv++[.arr d xs.length]),a++[(d,.row e sz xs 0)])else none
 |_,_=>none
def iW(x:Option cK)(K:cK->Prop):Prop:=match x with
 |some e=>K e
 |none=>False
def xR(P:Program)(g:FuncId)(c:List Arg)(hin:List (List PV))(F:List (List PV)->RV->Prop):Prop:=∃a b,aP P g c hin a b/\F a b
def gH(P:Program)(c:AV)(args:List AV)(d:Option Nat)(h:Hp)(K:cK->Prop):Prop:=
 match bX c with
 |none=>False
 |some (g,first,a)=>match jy h (first++args++a) []with
  |none=>False
  |some (k,f,j)=>if(j.any λl=>f.contains l.1)=true then False else match lW h f with
   |none=>False
   |some e=>xR P g k e λb i=>iW (lF h d f j b i) K
def sL(P:Program)(hn:List Nat)(o:Oper)(ρ:Operand->AV)(h:Hp)(K:cK->Prop):Prop:=
 match o.op with
 |.call c=>match c.callee with
  |.value f=>gH P (ρ f) (c.args.toList.map ρ) o.dst h K
  |.invoke r name=>gH P (pF P name (ρ r)) (c.args.toList.map ρ) o.dst h K
  |_=>iW (eP P hn o ρ h) K
 |_=>iW (eP P hn o ρ h) K
def ew(P:Program)(g:FuncId):Prop:=da P g=true/\∀(args:Array Value)(w:World),CallsD P g args .returning w λe a w'=>a=.returning/\(∃v,e=.returned v)/\w'=w
def Eh(P:Program)(K:cK->Prop):AV->Prop
 |.fn (.func g) _ _=>ew P g/\K (.undef,[])
 |_=>False
def Fg(x y:Prop):Prop:=x/\y
theorem eK{x y:Prop}(a:x)(b:y):Fg x y:=⟨a,b⟩
def uW(P:Program)(hn:List Nat)(o:Oper)(ρ:Operand->AV)(h:Hp)(K:cK->Prop):Prop:=
 match o.op with
 |.defer c=>match c.callee with
  |.value f=>if c.args.size=0 then Eh P K (ρ f)else False
  |_=>False
 |.binOp op t x y _=>if(nk (ρ y)&&mM P t&&qw h (ρ x)&&(op==.eql||op==.neq))=true then Fg (K (.pv (.val (.bool true)),[])) (K (.pv (.val (.bool false)),[]))else sL P hn o ρ h K
 |_=>sL P hn o ρ h K
def fA(ops:Array Oper)(t:Nat->AV)(g:Option (Nat×Bool)):Option Bool:=
 match g with
 |none=>some true
 |some (j,a)=>match(ops[j]?).bind (·.dst)with
  |some d=>match t d with
   |.pv (.val (.bool b))=>some (b==a)
   |.pv (.val (.tuple _))=>some false
   |_=>none
  |none=>none
def dm(N:Nat):Option Nat->Bool
 |some d=>decide (d<N)&&decide (d<2000000)
 |none=>true
def lg(ops:Array Oper)(t:Nat->AV)(g:Option (Nat×Bool)):Option (Option (Nat×Bool×Bool)):=
 match g with
 |none=>some none
 |some (j,a)=>match(ops[j]?).bind (·.dst)with
  |some d=>match t d with
   |.pv (.val (.bool b))=>some (some (d,b,a))
   |.pv (.val (.tuple _))=>some (some (d,!a,a))
   |_=>none
  |none=>none
def wW(b:Bool)(_:Nat)(st:St)(F:Bool->St->Prop):Prop:=F b st
def dK(P:Program)(hn:List Nat)(N:Nat)(ops:Array Oper)(Q:St->Prop):List Oper->St->Prop
 |[],c=>Q c
 |o::rest,c=>dm N o.dst=true/\(match lg ops c.t o.guard with
   |some none=>uW P hn o c.ev c.h (λe=>dK P hn N ops Q rest (c.put o.dst e.1 e.2))
   |some (some (d,b,f))=>wW b d c (λg a=>if g=f then uW P hn o a.ev a.h (λe=>dK P hn N ops Q rest (a.put o.dst e.1 e.2))else dK P hn N ops Q rest (a.put o.dst (.pv (.val (.tuple #[]))) []))
   |none=>False)
theorem oO{t:Nat->AV}(e:lg ops t g=some none):fA ops t g=some true:=by
 unfold lg at e;unfold fA;split at e
 .rfl
 .split at e
  .split at e
   .injection e with e;cases e
   .injection e with e;cases e
   .cases e
  .cases e
theorem mf{t:Nat->AV}{b a:Bool}(e:lg ops t g=some (some (d,b,a))):fA ops t g=some (b==a):=by
 unfold lg at e;unfold fA;split at e
 .injection e with e;cases e
 .rename_i j w
  split at e
  .rename_i i hd
   split at e
   .rename_i f c
    injection e with e;injection e with e;injection e with e1 e;injection e with e2 e3;subst e1;subst e2;subst e3;simp only[hd,c]
   .rename_i q c
    injection e with e;injection e with e;injection e with e1 e;injection e with e2 e3;subst e1;subst e2;subst e3;cases w<;>rfl
   .cases e
  .cases e
theorem eH{arr:Array Value}{a:Nat×Nat}(h:w.heap[b]?=some (.cells arr ty a)):w.cell? ⟨b,o,none⟩=arr[o]?:=by
 simp[World.cell?,h]
theorem eV(b o n:Nat):(⟨b,o,none⟩:Addr).add n=⟨b,o+n,none⟩:=by unfold Addr.add;split<;>simp_all
def aI(C:Cx)(L:Nat->Loc)(h:Hp)(w:World)(L':Nat->Loc)(h':Hp)(a:World):Prop:=
 MemL C L' h' a/\Pres w (ab C L h) a (ab C L' h')/\KC L h L' h'
theorem aI.trans{c:Hp}{d:World}(a:aI C L h w L' h' w')(b:aI C L' h' w' L'' c d):aI C L h w L'' c d:=
 ⟨b.1,a.2.1.trans b.2.1,a.2.2.trans b.2.2⟩
theorem aI.refl(a:MemL C L h w):aI C L h w L h w:=⟨a,Pres.refl _ _,KC.refl _ _⟩
theorem lh(h:me v=true):v=.slice none 0 0:=by
 grind [me]
theorem GA(h:Rep w M p u):Rep w M (v9 p) u:=by
 unfold v9;split
 .split
  .rename_i v a;cases h;rw[lh a];exact .sl0 none 0
  .exact h
 .exact h
theorem yX(h:bS w M ps us):bS w M (ps.map v9) us:=by
 refine⟨by simpa using h.1,λi p u hp a=>?_⟩;simp only[TR,No]at hp;obtain⟨q,hq,rfl⟩:=hp;exact GA (h.2 i q u hq a)
theorem HW(h:Rep w M p u):Rep w M (Fc p) u:=by
 unfold Fc;split
 .rename_i v
  split
  .rename_i a;cases h;rw[lh a];exact .sl0 none 0
  .split
   .rename_i a
    unfold B2 at a;split at a
    .rename_i cs
     have b:=h.cells;cases h;have:=k9 (yX b);simpa[Value.cells]using this
    .cases a
   .exact h
 .rename_i cs
  cases h with
  |agg _ vs d c=>exact k9 (yX ⟨d,c⟩)
 .exact h
def cY(h1 h:Hp):Prop:=∀k b,h1 k=some b->∃l,h k=some l/\(match b,l with
 |.box cs own fz,.box d c a=>d=cs/\c=own/\(fz=true->a=true)
 |.row e sz xs fz,.row m i j a=>m=e/\i=sz/\j=xs/\fz<=a
 |.mp o n es fz,.mp g p f a=>g=o/\p=n/\f=es/\(fz=true->a=true)
 |_,_=>False)
theorem cY.row(hf:cY h1 h)(b:h1 k=some (.row e sz xs fz)):∃a,h k=some (.row e sz xs a)/\fz<=a:=by
 obtain⟨c,d,f⟩:=hf k _ b
 grind
theorem cY.box(hf:cY h1 h){own fz:Bool}(b:h1 k=some (.box cs own fz)):∃a,h k=some (.box cs own a)/\(fz=true->a=true):=by
 obtain⟨c,d,e⟩:=hf k _ b
 grind
theorem cY.mp{h1 h:Hp}(hf:cY h1 h){k n:Nat}{kd:IntKind}{b:List (List Int×Value)}{fz:Bool}(c:h1 k=some (.mp kd n b fz)):∃a,h k=some (.mp kd n b a)/\(fz=true->a=true):=by
 obtain⟨d,e,f⟩:=hf k _ c
 grind
theorem cY.refl(h:Hp):cY h h:=λk b a=>⟨b,a,by cases b<;>simp⟩
theorem cY.of_sub(c:∀k b,h1 k=some b->h k=some b):cY h1 h:=λk b a=>⟨b,c k b a,by cases b<;>simp⟩
theorem cY.set_row(hf:cY h1 h)(g:h1 k=some (.row e sz xs fz))(a:fz<=xs.length):cY h1 (ae h k (some (.row e sz xs xs.length))):=by
 intro q b hq;by_cases e:q=k
 .grind [aF]
 .obtain⟨c,d,f⟩:=hf q b hq
  grind [bB]
theorem cY.set_box(hf:cY h1 h){own fz:Bool}(f:h1 k=some (.box cs own fz)):cY h1 (ae h k (some (.box cs own true))):=by
 intro q b hq;by_cases e:q=k
 .grind [aF]
 .obtain⟨a,c,d⟩:=hf q b hq
  grind [bB]
theorem cY.set_mp(hf:cY h1 h){kd:IntKind}{fz:Bool}(f:h1 k=some (.mp kd n es fz)):cY h1 (ae h k (some (.mp kd n es true))):=by
 intro q b hq;by_cases e:q=k
 .grind [aF]
 .obtain⟨a,c,d⟩:=hf q b hq
  grind [bB]
theorem mS(c:MemL C L h w)(a:h k=some (.row e sz xs fz)):(L k).isNil=true/\xs=[]\/(L k).isNil=false/\xs.length<=(L k).cap/\(L k).cap<=maxLen/\∃arr,w.heap[(L k).b]?=some (.cells arr e (0,0))/\arr.size=(L k).cap*sz/\
 ∀(i:Nat) x(j:Nat) p,xs[i]?=some x->x.cells[j]?=some p->∃u,arr[i*sz+j]?=some u/\Rep w (ab C L h) p u:=by
 obtain⟨_,_,_,d,h5⟩:=c.bl k _ a
 grind
theorem yY(n:MemL C L h w)(g:h k=some (.row e sz xs fz)):
 aI C L h w L (ae h k (some (.row e sz xs xs.length))) w/\Rep w (ab C L (ae h k (some (.row e sz xs xs.length)))) (.sl xs) ((L k).slice xs.length):=by
 have M:=n.bl k _ g;obtain⟨h1,J,F,K,h5⟩:=M
 have s:∀b o,ab C L (ae h k (some (.row e sz xs xs.length))) b o->ab C L h b o:=by
  rintro b o (E|⟨q,D,hq,y,c,hf⟩)
  .exact .inl E
  .by_cases l:q=k
   .subst l
    rw[aF]at hq;injection hq with hq;subst hq;refine .inr ⟨q,_,g,y,c,λr=>hf ?_⟩;simp only[Blk.frz]at r|-;exact UU r (Up _ J)
   .rw[bB l]at hq;exact .inr ⟨q,D,hq,y,c,hf⟩
 have a:Pres w (ab C L h) w (ab C L (ae h k (some (.row e sz xs xs.length)))):=Pres.sub s
 have O:KC L h L (ae h k (some (.row e sz xs xs.length))):=by
  intro q b hq;by_cases I:q=k
  .subst I;rw[g]at hq;injection hq with hq;subst hq;exact⟨_,aF _ _ _,rfl,rfl,Ua _,λ_=>rfl⟩
  .exact⟨b,by rw[bB I];exact hq,cX _ _⟩
 refine⟨n.touch g (λ_ _ _=>rfl) (Ua _) rfl rfl rfl (λ_ _ _ _ h=>h) (λo hf=>?_) ⟨rfl,rfl,Ua _,λ_=>rfl⟩ Vk (by have G:=n.own k _ g;exact G) ?_,?_⟩
 .simp only[Blk.frz]at hf|-;exact UU hf (Up _ J)
 .refine⟨h1,Ua _,F,K,λhn=>?_⟩
  obtain⟨A,H,arr,a3,a4,B⟩:=h5 hn;refine⟨A,H,arr,a3,a4,λi x j p d m=>?_⟩;obtain⟨u,v,z⟩:=B i x j p d m;exact⟨u,v,z.mono a⟩
 .unfold Loc.slice
  cases hn:(L k).isNil with
  |true=>rw[K hn];exact .sl0 none 0
  |false=>
   obtain⟨A,H,arr,a3,a4,B⟩:=h5 hn;simp only[T5,Uf]
   have f:∀(i:Nat) x(j:Nat) p,xs[i]?=some x->x.cells[j]?=some p->∃u,arr[i*sz+j]?=some u/\Rep w (ab C L (ae h k (some (.row e sz xs xs.length)))) p u:=by
    intro i x j p d m;obtain⟨u,v,z⟩:=B i x j p d m;exact⟨u,v,z.mono a⟩
   refine .sl xs (L k).b 0 (L k).cap sz (λi j=>(arr[i*sz+j]?).getD undef) A (λi x d=>F x (Is d)) ?_ ?_
   .intro i x j p d m
    obtain⟨u,v,z⟩:=f i x j p d m;refine⟨by rw[eH a3];simp[v],?_⟩;rintro(E|⟨q,D,hq,y,c,hf⟩)
    .have:=n.m0 _ _ E
     rcases(n.own k _ g).row hn with G|G
     all_goals grind
    .by_cases l:q=k
     .subst l
      rw[aF]at hq;injection hq with hq;subst hq;apply hf;simp only[Blk.frz];have hi:i<xs.length:=(th.1 d).1
      have N:j<sz:=by rw[<-F x (Is d)];exact(th.1 m).1
      have:(i+1)*sz<=xs.length*sz:=Up _ hi
      grind
     .rw[bB l]at hq
      exact n.sep q k D _ l hq g y hn c
   grind
theorem qM(g:MemL C L h w){fz:Bool}(f:h k=some (.box cs true fz))
 (D:∀arr ty,w.heap[(L k).b]?=some (.cells arr ty (0,0))->aA w (ab C L h) L h cs arr.toList->bS w (ab C L h) ps arr.toList):
 aI C L h w L (ae h k (some (.box cs true true))) w/\∃u:Nat->Value,∀(j:Nat) p,ps[j]?=some p->
  (w.cell? ⟨(L k).b,0+j,none⟩=some (u j)/\¬ab C L (ae h k (some (.box cs true true))) (L k).b (0+j))/\Rep w (ab C L (ae h k (some (.box cs true true)))) p (u j):=by
 obtain⟨arr,ty,s,v⟩:=g.bl k _ f
 have l:∀b o,ab C L (ae h k (some (.box cs true true))) b o->ab C L h b o:=by
  rintro b o (x|⟨q,r,hq,H,d,hf⟩)
  .exact .inl x
  .by_cases e:q=k
   .subst e
    rw[aF]at hq;injection hq with hq;subst hq;exact absurd rfl hf
   .rw[bB e]at hq;exact .inr ⟨q,r,hq,H,d,hf⟩
 have c:Pres w (ab C L h) w (ab C L (ae h k (some (.box cs true true)))):=Pres.sub l
 have z:KC L h L (ae h k (some (.box cs true true))):=by
  intro q b hq;by_cases E:q=k
  .subst E;rw[f]at hq;injection hq with hq;subst hq;exact⟨_,aF _ _ _,rfl⟩
  .exact⟨b,by rw[bB E];exact hq,cX _ _⟩
 have I:aA w (ab C L (ae h k (some (.box cs true true)))) L (ae h k (some (.box cs true true))) cs arr.toList:=⟨v.1,λi p u hp n=>(v.2 i p u hp n).mono c z⟩;refine⟨g.touch f (λ_ _ _=>rfl) (Ua _) rfl rfl rfl (λ_ _ _ _ h=>h) (λ_ _=>rfl) rfl Vk (by have y:=g.own k _ f;exact y) ⟨arr,ty,s,I⟩,λj=>(arr[j]?).getD undef,λj p G=>?_⟩;have F:=D arr ty s v
 have B:j<arr.toList.length:=by rw[<-F.1];exact(th.1 G).1
 have n:arr.toList[j]?=some (arr.toList[j]):=an B
 have m:arr[j]?=some (arr.toList[j]):=by rw[<-UQ];exact n
 refine⟨⟨by rw[eH s,U0];simp only[m,Uj],?_⟩,?_⟩
 .rintro(x|⟨q,r,a,A,d,hf⟩)
  .have:=g.m0 _ _ x
   rcases g.own k _ f with y|y
   all_goals grind
  .by_cases e:q=k
   .subst e
    rw[aF]at a;injection a with a;subst a;exact hf rfl
   .rw[bB e]at a
    exact g.sep q k r _ e a f A trivial d
 .simp only[m,Uj]
  exact(F.2 j p _ G n).mono c
theorem Fh(g:MemL C L h w){fz:Bool}{x:PV}(f:h k=some (.box cs true fz))(i:x.cells.map .pv=cs):
 aI C L h w L (ae h k (some (.box cs true true))) w/\Rep w (ab C L (ae h k (some (.box cs true true)))) (.rptr x 0) (.pointer (some ⟨(L k).b,0,none⟩)):=by
 obtain⟨a,u,e⟩:=qM g (ps:=x.cells) f (λarr ty _ d=>by rw[<-i]at d;exact aA.map_pv_inv d);exact⟨a,.rptr x (L k).b 0 0 u (λj p c=>(e j p c).1) (λj p c=>(e j p c).2)⟩
theorem DQ(l:MemL C L h w){c:Nat}(m:n<=c){fz:Bool}(g:h k=some (.box cs true fz))(hn:n<=ps.length)(f:∀p∈ps,p.cells=[p])
 (hq:∀arr ty,w.heap[(L k).b]?=some (.cells arr ty (0,0))->aA w (ab C L h) L h cs arr.toList->bS w (ab C L h) ps arr.toList):
 aI C L h w L (ae h k (some (.box cs true true))) w/\Rep w (ab C L (ae h k (some (.box cs true true)))) (.sl (ps.take n)) (.slice (some ⟨(L k).b,0,none⟩) n c):=by
 obtain⟨a,u,r⟩:=qM l g hq;refine⟨a,?_⟩
 have q:(ps.take n).length=n:=by rw[UL];omega
 have o:∀{i:Nat}{x},(ps.take n)[i]?=some x->ps[i]?=some x:=by
  intro i x d;rw[Uu]at d;split at d
  .exact d
  .cases d
 have one:∀(i:Nat) x(j:Nat) p,ps[i]?=some x->x.cells[j]?=some p->j=0/\p=x:=by
  intro i x j p d e;rw[f x (Is d)]at e
  cases j with
  |zero=>simp at e;exact⟨rfl,e.symm⟩
  |succ j=>simp at e
 have key:Rep w (ab C L (ae h k (some (.box cs true true)))) (.sl (ps.take n)) (.slice (some ⟨(L k).b,0,none⟩) (ps.take n).length c):=by
  refine .sl (ps.take n) (L k).b 0 c 1 (λi _=>u i) (by omega) (λi x d=>by rw[f x (Is (o d))];rfl) ?_ ?_
  all_goals grind
 grind
theorem Fi(d:MemL C L h w){kd:IntKind}{fz:Bool}(l:h k=some (.mp kd n es fz)):
 aI C L h w L (ae h k (some (.mp kd n es true))) w/\Rep w (ab C L (ae h k (some (.mp kd n es true)))) (.mp kd n es) (.map (some (L k).b)):=by
 obtain⟨arr,clock,v,x⟩:=d.bl k _ l
 have p:∀b o,ab C L (ae h k (some (.mp kd n es true))) b o->ab C L h b o:=by
  rintro b o (s|⟨q,i,hq,r,f,hf⟩)
  .exact .inl s
  .by_cases j:q=k
   .subst j
    rw[aF]at hq;injection hq with hq;subst hq;exact absurd rfl hf
   .rw[bB j]at hq;exact .inr ⟨q,i,hq,r,f,hf⟩
 have c:Pres w (ab C L h) w (ab C L (ae h k (some (.mp kd n es true)))):=Pres.sub p
 have m:KC L h L (ae h k (some (.mp kd n es true))):=by
  intro q b hq;by_cases e:q=k
  .subst e;rw[l]at hq;injection hq with hq;subst hq;exact⟨_,aF _ _ _,rfl,rfl,rfl⟩
  grind [bB,cX]
 refine⟨⟨⟨d.ext,d.m0,?_,?_,?_⟩,c,m⟩,.mp kd n es _ arr clock v ?_ x⟩
 .intro q b hq
  by_cases e:q=k
  .subst e;rw[aF]at hq;injection hq with hq;subst hq;exact⟨arr,clock,v,x⟩
  .rw[bB e]at hq;exact(d.bl q b hq).mono c m (λ_=>rfl)
 .intro q y z A u hq a r g
  have lift:∀q b,ae h k (some (.mp kd n es true)) q=some b->b.live (L q)->∃i,h q=some i/\i.live (L q):=by
   intro q b hq r;by_cases e:q=k
   .subst e;exact⟨_,l,trivial⟩
   grind [bB]
  obtain⟨B,E,F⟩:=lift q z hq r;obtain⟨D,d3,d4⟩:=lift y A a g;exact d.sep q y B D u E d3 F d4
 .intro q b hq
  by_cases e:q=k
  .subst e;rw[aF]at hq;injection hq with hq;subst hq;have:=d.own q _ l;exact this
  .rw[bB e]at hq;exact d.own q b hq
 .rintro(s|⟨q,i,a,g,f,hf⟩)
  .have:=d.m0 _ _ s
   have G:=d.own k _ l
   grind [eY]
  .by_cases j:q=k
   .subst j
    rw[aF]at a;injection a with a;subst a;exact hf rfl
   .rw[bB j]at a
    exact d.sep q k i _ j a l g trivial f
theorem cO(h:Hp)(W a:List (Nat×Blk)):ai h (W++a)=ai (ai h W) a:=by simp[ai,Wk]
theorem iI(h:Hp)(k:Nat)(b:Blk):ai h [(k,b)]=ae h k (some b):=rfl
theorem i9(h:kR p=true):p.cells=[p]:=by
 cases p with
 |val v=>cases v<;>simp_all[kR,PV.cells,Value.cells,Value.oneCell']
 |agg _=>simp[kR]at h
 |tup _=>simp[kR]at h
 |_=>rfl
theorem AP:∀{cs:List PV}{vs:List Value},dD cs=some vs->cs=vs.map .val
 |[],vs,h=>by simp[dD]at h;subst h;rfl
 |.val v::r,vs,h=>by
  simp only[dD,No]at h;obtain⟨a,h',rfl⟩:=h;rw[AP h'];rfl
 |.agg _::_,_,h=>by simp[dD]at h
 |.sl _::_,_,h=>by simp[dD]at h
 |.rptr _ _::_,_,h=>by simp[dD]at h
 |.fn _ _ _::_,_,h=>by simp[dD]at h
 |.tup _::_,_,h=>by simp[dD]at h
 |.ifc _ _::_,_,h=>by simp[dD]at h
 |.hd _::_,_,h=>by simp[dD]at h
 |.mp _ _ _::_,_,h=>by simp[dD]at h
theorem kJ(ps:List PV):(fF ps).cells=ps:=by
 unfold fF;split
 .rename_i vs a;simp[PV.cells,Value.cells,AP a]
 .rfl
section
variable {C:Cx} {L:Nat->Loc} {h1 h:Hp} {w:World}
theorem yZ(d:MemL C L h w)(hf:cY h1 h)(g:RepA w (ab C L h) L h x u)(e:lc h1 x=some (p,W)):
 aI C L h w L (ai h W) w/\Rep w (ab C L (ai h W)) p u/\cY h1 (ai h W):=by
 cases x with
 |pv q=>
  simp only[lc,T6,Ug]at e;obtain⟨rfl,rfl⟩:=e
  cases g with
  |pv m=>exact⟨aI.refl d,HW m,hf⟩
 |arr k n=>
  simp only[lc]at e;split at e
  .rename_i r sz xs fz c
   split at e
   .rename_i hn
    simp only[T6,Ug]at e;obtain⟨rfl,rfl⟩:=e;obtain⟨f,a,j⟩:=hf.row c
    cases g with
    |arr b l o=>
     rw[a]at b;injection b with b;injection b with a1 a2 a3 a4;subst a1;subst a2;subst a3;subst a4;have:=yY d a;rw[o hn,<-hn];have s:=(d.bl k _ a).2.1;exact⟨this.1,this.2,hf.set_row c (by omega)⟩
   .cases e
  .cases e
 |ptr=>simp[lc]at e
 |eptr=>simp[lc]at e
 |agg=>simp[lc]at e
 |fn=>simp[lc]at e
 |tup=>simp[lc]at e
 |undef=>simp[lc]at e
 |ext y=>
  cases y with
  |barr=>simp[lc]at e
  |suf=>simp[lc]at e
  |mp k=>
   simp only[lc]at e;split at e
   .rename_i v n es fz c
    simp only[T6,Ug]at e;obtain⟨rfl,rfl⟩:=e;obtain⟨f,a,_⟩:=hf.mp c;have:=Fi d a
    cases g with
    |ext i=>cases i with
     |mp _=>exact⟨this.1,this.2,hf.set_mp c⟩
   .cases e
theorem aA.mono{w:World}{L:Nat->Loc}{h:Hp}(hp:Pres w M w' M')(c:KC L h L' h'){ps:List AV}(a:aA w M L h ps us):aA w' M' L' h' ps us:=
 ⟨a.1,λi p u h1 b=>(a.2 i p u h1 b).mono hp c⟩
theorem sh:∀{xs:List AV}{h:Hp}(_:MemL C L h w)(_:cY h1 h){us:List Value}(_:aA w (ab C L h) L h xs us){ps:List PV}{W:List (Nat×Blk)}(_:mF h1 xs=some (ps,W)),
 aI C L h w L (ai h W) w/\bS w (ab C L (ai h W)) ps us/\cY h1 (ai h W)
 |[],h,b,hf,us,c,ps,W,e=>by
  simp only[mF,T6,Ug]at e;obtain⟨rfl,rfl⟩:=e;rw[c.nil_inv];exact⟨aI.refl b,bS.nil,hf⟩
 |x::r,h,b,hf,us,c,ps,W,e=>by
  simp only[mF]at e;split at e
  .rename_i p q n s j k
   simp only[T6,Ug]at e;obtain⟨rfl,rfl⟩:=e;obtain⟨u,o,rfl,m,l⟩:=c.cons_inv;obtain⟨a,f,a3⟩:=yZ b hf m j;obtain⟨d,g,i⟩:=sh a.1 a3 (l.mono a.2.1 a.2.2) k;rw[cO];exact⟨a.trans d,.cons (f.mono d.2.1) g,i⟩
  .cases e
theorem nq(l:MemL C L h w)(hf:cY h1 h)(F:RepA w (ab C L h) L h x u)(e:sg h1 x=some (p,W)):
 aI C L h w L (ai h W) w/\Rep w (ab C L (ai h W)) p u/\cY h1 (ai h W):=by
 unfold sg at e;split at e
 .rename_i k n H
  split at e
  .rename_i cs fz j
   have main:∀{ps:List PV}{c:List (Nat×Blk)},n<=cs.length->mF h1 cs=some (ps,c)->ps.all kR=true->W=c++[(k,.box cs true true)]->p=.sl (ps.take n)->aI C L h w L (ai h W) w/\Rep w (ab C L (ai h W)) p u/\cY h1 (ai h W):=by
    intro ps c hn m E A B;subst A;subst B;obtain⟨o,b,_⟩:=hf.box j;obtain⟨arr,ty,f,a⟩:=l.bl k _ b;obtain⟨y,i,a3⟩:=sh l hf a m;obtain⟨D,r,_⟩:=a3.box j
    have g:n<=ps.length:=by rw[i.1,<-a.1];exact hn
    rw[cO]
    cases F with
    |ext v=>cases v with
     |barr q _=>
      have:=DQ y.1 q (ps:=ps) r g (λp hp=>i9 (TP.1 E p hp)) (λz G d _=>by rw[f]at d;injection d with d;injection d with d;subst d;exact i);exact⟨y.trans this.1,this.2,a3.set_box j⟩
   have s:∀{ps:List PV}{c:List (Nat×Blk)},mF h1 cs=some (ps,c)->ps.length=cs.length:=by
    intro ps c m;obtain⟨o,b,_⟩:=hf.box j;obtain⟨arr,ty,f,a⟩:=l.bl k _ b;obtain⟨_,i,_⟩:=sh l hf a m;rw[i.1,<-a.1]
   grind
  .cases e
 grind [yZ]
theorem nu:∀{xs:List AV}{h:Hp}(_:MemL C L h w)(_:cY h1 h){us:List Value}(_:aA w (ab C L h) L h xs us){ps:List PV}{W:List (Nat×Blk)}(_:pE h1 xs=some (ps,W)),
 aI C L h w L (ai h W) w/\bS w (ab C L (ai h W)) ps us/\cY h1 (ai h W)
 |[],h,b,hf,us,c,ps,W,e=>by
  simp only[pE,T6,Ug]at e;obtain⟨rfl,rfl⟩:=e;rw[c.nil_inv];exact⟨aI.refl b,bS.nil,hf⟩
 |x::r,h,b,hf,us,c,ps,W,e=>by
  simp only[pE]at e;split at e
  .rename_i p q n s j k
   simp only[T6,Ug]at e;obtain⟨rfl,rfl⟩:=e;obtain⟨u,o,rfl,m,l⟩:=c.cons_inv;obtain⟨a,f,a3⟩:=nq b hf m j;obtain⟨d,g,i⟩:=nu a.1 a3 (l.mono a.2.1 a.2.2) k;rw[cO];exact⟨a.trans d,.cons (f.mono d.2.1) g,i⟩
  .cases e
theorem uX(i:MemL C L h w)(hf:cY h1 h)(A:RepA w (ab C L h) L h x u)(e:qK h1 x=some (p,W)):
 aI C L h w L (ai h W) w/\Rep w (ab C L (ai h W)) p u/\cY h1 (ai h W):=by
 unfold qK at e;split at e
 .simp only[T6,Ug]at e
  obtain⟨rfl,rfl⟩:=e
  cases A with
  |pv J=>exact⟨aI.refl i,J,hf⟩
 .rename_i k
  split at e
  .rename_i cs fz g
   obtain⟨G,c,_⟩:=hf.box g
   have key:∀y:PV,y.cells.map .pv=cs->aI C L h w L (ai h [(k,.box cs true true)]) w/\Rep w (ab C L (ai h [(k,.box cs true true)])) (.rptr y 0) u/\cY h1 (ai h [(k,.box cs true true)]):=by
    intro y l;obtain⟨f,n⟩:=Fh i c l
    cases A with
    |ptr _=>exact⟨f,n,hf.set_box g⟩
   split at e
   .rename_i ps hp
    have I:=oZ hp;split at e
    .rename_i hq
     simp only[T6,Ug]at e;obtain⟨rfl,rfl⟩:=e
     exact key _ (by rw[I];congr 1;cases ps with
      |nil=>simp[jx]at hq
      |cons q r=>cases r with
       |nil=>simp only[jx]at hq;exact i9 hq
       |cons _ _=>simp[jx]at hq)
    grind [Option.some.injEq,kJ]
   .split at e
    .rename_i ps m F
     obtain⟨arr,ty,o,s⟩:=i.bl k _ c;obtain⟨f,n,a3⟩:=nu i hf s F;obtain⟨H,z,_⟩:=a3.box g
     have d:∀y:PV,y.cells=ps->aI C L h w L (ai h (m++[(k,.box cs true true)])) w/\Rep w (ab C L (ai h (m++[(k,.box cs true true)]))) (.rptr y 0) u/\cY h1 (ai h (m++[(k,.box cs true true)])):=by
      intro y l;obtain⟨E,M,D⟩:=qM f.1 (ps:=ps) z (λB K a _=>by rw[o]at a;injection a with a;injection a with a;subst a;exact n);rw[cO]
      cases A with
      |ptr _=>exact⟨f.trans E,.rptr y (L k).b 0 0 M (λj p v=>(D j p (l▸v)).1) (λj p v=>(D j p (l▸v)).2),a3.set_box g⟩
     split at e
     .rename_i hq
      simp only[T6,Ug]at e;obtain⟨rfl,rfl⟩:=e
      exact d _ (by cases ps with
       |nil=>simp[jx]at hq
       |cons q r=>cases r with
        |nil=>simp only[jx]at hq;exact i9 hq
        |cons _ _=>simp[jx]at hq)
     grind [Option.some.injEq,kJ]
    .cases e
  .cases e
 .cases e
theorem pG:∀{xs:List AV}{h:Hp}(_:MemL C L h w)(_:cY h1 h){us:List Value}(_:aA w (ab C L h) L h xs us){ps:List PV}{W:List (Nat×Blk)}(_:kI h1 xs=some (ps,W)),
 aI C L h w L (ai h W) w/\bS w (ab C L (ai h W)) ps us/\cY h1 (ai h W)
 |[],h,b,hf,us,c,ps,W,e=>by
  simp only[kI,T6,Ug]at e;obtain⟨rfl,rfl⟩:=e;rw[c.nil_inv];exact⟨aI.refl b,bS.nil,hf⟩
 |x::r,h,b,hf,us,c,ps,W,e=>by
  simp only[kI]at e;split at e
  .rename_i p q n s j k
   simp only[T6,Ug]at e;obtain⟨rfl,rfl⟩:=e;obtain⟨u,o,rfl,m,l⟩:=c.cons_inv;obtain⟨a,f,a3⟩:=uX b hf m j;obtain⟨d,g,i⟩:=pG a.1 a3 (l.mono a.2.1 a.2.2) k;rw[cO];exact⟨a.trans d,.cons (f.mono d.2.1) g,i⟩
  .cases e
theorem Fj(m:MemL C L h w)(hf:cY h1 h)(n:RepA w (ab C L h) L h x u)(e:zT h1 x=some (p,W)):
 aI C L h w L (ai h W) w/\Rep w (ab C L (ai h W)) p u/\cY h1 (ai h W):=by
 unfold zT at e;split at e
 .rename_i cs
  split at e
  .rename_i ps v c
   simp only[T6,Ug]at e;obtain⟨rfl,rfl⟩:=e
   cases n with
   |agg _ vs i r=>
    obtain⟨a,b,a3⟩:=nu m hf ⟨i,r⟩ c
    grind [k9]
  .cases e
 .rename_i f first l
  split at e
  .rename_i ps y qs z c q
   simp only[T6,Ug]at e;obtain⟨rfl,rfl⟩:=e
   cases n with
   |fn _ _ _ vs us i s d g=>
    obtain⟨a,b,a3⟩:=nu m hf ⟨i,d⟩ c;obtain⟨j,k,o⟩:=pG a.1 a3 (aA.mono a.2.1 a.2.2 ⟨s,g⟩) q;rw[cO];exact⟨a.trans j,.fn f ps qs vs us (b.1.trans rfl) k.1 (b.mono j.2.1).2 k.2,o⟩
  .cases e
 grind [nq]
theorem si:∀{xs:List AV}{h:Hp}(_:MemL C L h w)(_:cY h1 h){us:List Value}(_:aA w (ab C L h) L h xs us){ps:List PV}{W:List (Nat×Blk)}(_:oL h1 xs=some (ps,W)),
 aI C L h w L (ai h W) w/\bS w (ab C L (ai h W)) ps us/\cY h1 (ai h W)
 |[],h,b,hf,us,c,ps,W,e=>by
  simp only[oL,T6,Ug]at e;obtain⟨rfl,rfl⟩:=e;rw[c.nil_inv];exact⟨aI.refl b,bS.nil,hf⟩
 |x::r,h,b,hf,us,c,ps,W,e=>by
  simp only[oL]at e;split at e
  .rename_i p q n s j k
   simp only[T6,Ug]at e;obtain⟨rfl,rfl⟩:=e;obtain⟨u,o,rfl,m,l⟩:=c.cons_inv;obtain⟨a,f,a3⟩:=Fj b hf m j;obtain⟨d,g,i⟩:=si a.1 a3 (l.mono a.2.1 a.2.2) k;rw[cO];exact⟨a.trans d,.cons (f.mono d.2.1) g,i⟩
  .cases e
theorem mT(k:MemL C L h w)(hf:cY h1 h)(l:RepA w (ab C L h) L h x u)(e:frz h1 x=some (p,W)):
 aI C L h w L (ai h W) w/\Rep w (ab C L (ai h W)) p u/\cY h1 (ai h W):=by
 unfold frz at e;split at e
 .rename_i cs
  split at e
  .rename_i ps r c
   simp only[T6,Ug]at e;obtain⟨rfl,rfl⟩:=e
   cases l with
   |agg _ vs d g=>
    obtain⟨a,b,a3⟩:=si k hf ⟨d,g⟩ c
    grind [k9]
  .cases e
 .rename_i f first q
  split at e
  .rename_i ps z qs A c v
   simp only[T6,Ug]at e;obtain⟨rfl,rfl⟩:=e
   cases l with
   |fn _ _ _ vs us d y i j=>
    obtain⟨a,b,a3⟩:=nu k hf ⟨d,i⟩ c;obtain⟨n,o,s⟩:=pG a.1 a3 (aA.mono a.2.1 a.2.2 ⟨y,j⟩) v;rw[cO];exact⟨a.trans n,.fn f ps qs vs us (b.1.trans rfl) o.1 (b.mono n.2.1).2 o.2,s⟩
  .cases e
 .rename_i vs
  split at e
  .rename_i ps r c
   simp only[T6,Ug]at e;obtain⟨rfl,rfl⟩:=e
   cases l with
   |tup _ m d g=>
    obtain⟨a,b,a3⟩:=si k hf ⟨d,g⟩ c;exact⟨a,.tup ps m b.1 b.2,a3⟩
  .cases e
 grind [nq]
theorem uA(D:MemL C L h w)(F:∀k b,h1 k=some b->h k=some b)(A:RepA w (ab C L h) L h x u)(e:fY h1 x=some (cs,off)):
 ∃b o,u=.pointer (some ⟨b,o+off,none⟩)/\∀(j:Nat) c,cs[j]?=some c->∃v,w.cell? ⟨b,o+j,none⟩=some v/\RepA w (ab C L h) L h c v:=by
 cases x with
 |ptr k f=>
  simp only[fY]at e;split at e
  .rename_i G own fz s
   simp only[T6,Ug]at e;obtain⟨rfl,rfl⟩:=e;obtain⟨arr,ty,r,B⟩:=D.bl k _ (F _ _ s)
   cases A with
   |ptr _=>
    refine⟨(L k).b,0,by simp,λj c d=>?_⟩
    have z:j<arr.toList.length:=by rw[<-B.1];exact(th.1 d).1
    have m:arr.toList[j]?=some (arr.toList[j]):=an z;exact⟨_,by rw[eH r,U0,<-UQ];exact m,B.2 j c _ d m⟩
  .cases e
 |pv p=>
  cases p with
  |rptr y f=>
   simp only[fY,T6,Ug]at e;obtain⟨rfl,rfl⟩:=e
   cases A with
   |pv l=>cases l with
    |rptr _ b o _ N I l=>
     refine⟨b,o,rfl,λj c d=>?_⟩;simp only[TR,No]at d;obtain⟨q,hq,rfl⟩:=d;exact⟨N j,(I j q hq).1,.pv (l j q hq)⟩
  |_=>simp[fY]at e
 |eptr k n i f=>
  simp only[fY]at e;split at e
  .rename_i O sz xs fz s
   split at e
   .rename_i hn
    split at e
    .rename_i y M
     simp only[T6,Ug]at e;obtain⟨rfl,rfl⟩:=e;have g:=F _ _ s
     cases A with
     |eptr a J m=>
      rw[g]at a;injection a with a;injection a with a1 a2 a3 a4;subst a1;subst a2;subst a3;subst a4;obtain⟨E,rfl⟩:=m hn;rcases mS D g with⟨P,_⟩|⟨_,_,_,arr,r,_,H⟩
      .grind
      .refine⟨(L k).b,i*sz,rfl,λj c d=>?_⟩
       simp only[TR,No]at d;obtain⟨q,hq,rfl⟩:=d;obtain⟨v,K,l⟩:=H i y j q M hq;exact⟨v,by rw[eH r];exact K,.pv l⟩
    .cases e
   .cases e
  .cases e
 |arr=>simp[fY]at e
 |agg=>simp[fY]at e
 |fn=>simp[fY]at e
 |tup=>simp[fY]at e
 |ext=>simp[fY]at e
 |undef=>simp[fY]at e
theorem B7(e:yN h1 sz x=some p):fY h1 x=some (p.cells.map .pv,0)/\o8 p=true/\p.cells.length=sz:=by
 unfold yN at e;split at e
 .rename_i y
  split at e
  .rename_i a
   injection e with e;subst e;simp only[An,US]at a;exact⟨rfl,a.1,a.2⟩
  .cases e
 .rename_i k n i
  split at e
  .rename_i b s xs fz c
   split at e
   .rename_i hn
    split at e
    .rename_i y a
     split at e
     all_goals simp_all[An,fY]
    .cases e
   .cases e
  .cases e
 .cases e
theorem aM(a:Rep w M (.val v) u):u=v:=by cases a;rfl
theorem B8(c:o8 p=true)(a:bS w M p.cells us):Rep w M p (.agg us.toArray):=by
 cases p with
 |agg cs=>exact .agg cs us a.1 a.2
 |val v=>
  cases v with
  |agg arr=>
   have:us=arr.toList:=by
    apply UI;intro i;by_cases hi:i<us.length
    .have b:=a.1
     simp only[PV.cells,Value.cells,Ux,U5]at b;have d:arr.toList[i]?=some (arr.toList[i]'(by simp;omega)):=an _;have e:=a.2 i (.val (arr.toList[i]'(by simp;omega))) us[i] (by simp[PV.cells,Value.cells,d]) (an hi)
     grind [List.getElem?_eq_getElem,aM]
    .rw[Uc (by omega),Uc]
     have b:=a.1;simp only[PV.cells,Value.cells,Ux]at b;omega
   rw[this];exact .val _
  |_=>simp[o8]at c
 |_=>simp[o8]at c
theorem zZ(d:∀(j:Nat) c,cs[j]?=some c->∃v,w.cell? ⟨b,o+j,none⟩=some v/\RepA w M L h c v):
 ∃us:List Value,us.length=cs.length/\(∀(j:Nat) v,us[j]?=some v->w.cell? ⟨b,o+j,none⟩=some v)/\aA w M L h cs us:=by
 induction cs generalizing o with
 |nil=>exact⟨[],rfl,λj v a=>by simp at a,aA.nil⟩
 |cons c r ih=>
  obtain⟨v,k,g⟩:=d 0 c rfl;obtain⟨us,h1,i,f⟩:=ih (o:=o+1) (λj e a=>by have:=d (j+1) e (by simpa using a);rwa [show o+(j+1)=o+1+j from by omega]at this);refine⟨v::us,by simp[h1],λj l a=>?_,.cons g f⟩
  grind
theorem gY(e:af P t=some ti):∃i d,P.info? t=some i/\P.underlying t=some d/\ti.size=i.size/\ti.zero=i.zero/\
 ti.kind=(match d with
  |.struct a=>.struct (a.toList.map λf=>(f.offset,od P f.type))
  |.array n e=>.array n (od P e)
  |.slice e=>match P.info? e with
   |some j=>.slice e j.size j.bytes j.zero
   |none=>.one
  |_=>.one):=by
 grind [af]
theorem y2(e:af P t=some ti):md P t=true:=by
 grind [af]
theorem dF{d:TypeDesc}(e:P.underlying t=some d)(w:World):(underlying t).run P w=.ok d w:=by
 simp[underlying,program,Sem.run,e]
theorem mU{i:TypeInfo}(e:P.info? t=some i)(w:World):(typeInfo t).run P w=.ok i w:=by
 simp[typeInfo,program,Sem.run,e]
theorem gj{i:TypeInfo}(e:P.info? t=some i)(w:World):(sizeOf t).run P w=.ok i.size w:=by
 simp[sizeOf,mU e]
theorem AQ(e:af P t=some ti)(w:World):(isAgg t).run P w=.ok ti.kind.isAgg w:=by
 obtain⟨i,d,_,b,_,_,c⟩:=gY e;rw[c];unfold isAgg;rw[Sem.run_bind,dF b];simp only[Result.andThen_ok]
 cases d<;>first|rfl|skip
 rename_i a
 show Result.ok false w=.ok (TK.isAgg (match P.info? a with
  |some j=>TK.slice a j.size j.bytes j.zero
  |none=>TK.one)) w
 split<;>rfl
theorem uY(D:MemL C L h w)(E:∀k b,h1 k=some b->h k=some b)(z:af C.P t=some ti){v:AV}(F:RepA w (ab C L h) L h x u)(e:uT ti x h1=some v):
 ∃r,(Instr.loadAt t u).run C.P w=.ok r w/\RepA w (ab C L h) L h v r:=by
 obtain⟨i,d,hi,hd,y,_,_⟩:=gY z;unfold uT at e;split at e
 .rename_i g
  have key:∀cs off,fY h1 x=some (cs,off)->off+ti.size<=cs.length->∃us,(Instr.loadAt t u).run C.P w=.ok (.agg us.toArray) w/\aA w (ab C L h) L h ((cs.drop off).take ti.size) us:=by
   intro cs off n K;obtain⟨b,o,rfl,a⟩:=uA D E F n
   have f:∀(j:Nat) c,((cs.drop off).take ti.size)[j]?=some c->∃v,w.cell? ⟨b,(o+off)+j,none⟩=some v/\RepA w (ab C L h) L h c v:=by
    grind
   obtain⟨us,J,A,M⟩:=zZ f;refine⟨us,?_,M⟩
   have m:us.length=i.size:=by rw[J,<-y,UL,VD];omega
   simp only[Instr.loadAt,Instr.sureAddr,pure_bind,loadVar,Sem.run_bind,AQ z,g,Result.andThen_ok,Ul,gj hi];rw[<-m,run_loadCells_list w _ us (λj v I=>by rw[eV];exact A j v I)];rfl
  split at e
  .rename_i p N
   injection e with e;subst e;obtain⟨G,H,B⟩:=B7 N;obtain⟨us,h5,h6⟩:=key _ _ G (by simp[B]);refine⟨_,h5,.pv (B8 H ?_)⟩;rw[WF,Us (by simp[B])]at h6;exact h6.map_pv_inv
  grind [sf]
 .rename_i g
  split at e
  .rename_i cs off n
   obtain⟨b,o,rfl,a⟩:=uA D E F n;obtain⟨r,q,s⟩:=a off v e;refine⟨r,?_,s⟩
   have l:ti.kind.isAgg=false:=by simpa using g
   simp only[Instr.loadAt,Instr.sureAddr,pure_bind,loadVar,Sem.run_bind,AQ z,l,Result.andThen_ok,T5,Uf,run_load,q]
  .cases e
end
theorem MemL.touch_pk(F:MemL C L h w){blk':Blk}(l:h k=some blk)
 (m:∀b,b<w.heap.size->(blk.live (L k)->b≠(L k).b)->w'.heap[b]?=w.heap[b]?)
 (hpr:∀o v,blk.live (L k)->blk.frz o->w.cell? ⟨(L k).b,o,none⟩=some v->w'.cell? ⟨(L k).b,o,none⟩=some v)(r:∀o,blk.frz o->blk'.frz o)(E:dZ blk (L k) blk' (L k))
 (u:blk'.live (L k)↔blk.live (L k))(x:∀y n es,blk≠.mp y n es true:=by intro _ _ _ h;cases h):Pres w (ab C L h) w' (ab C L (ae h k (some blk')))/\KC L h L (ae h k (some blk')):=by
 have s:KC L h L (ae h k (some blk')):=by
  intro q b hq
  grind [aF,bB,cX]
 have z:∀b o,ab C L (ae h k (some blk')) b o->ab C L h b o:=by
  rintro b o (D|⟨q,B,hq,f,j,hf⟩)
  .exact .inl D
  .by_cases e:q=k
   .subst e
    rw[aF]at hq;injection hq with hq;subst hq;exact .inr ⟨q,blk,l,u.1 f,j,λp=>hf (r o p)⟩
   .rw[bB e]at hq
    exact .inr ⟨q,B,hq,f,j,hf⟩
 refine⟨⟨?_,λb arr c a hn=>⟨?_,λg=>hn (z b 0 g)⟩⟩,s⟩
 case refine_2=>
  have d:=vZ a;by_cases f:blk.live (L k)
  .by_cases e:b=(L k).b
   .subst e
    have A:=F.bl k blk l
    cases blk with
    |box cs own fz=>obtain⟨_,_,e,_⟩:=A;rw[e]at a;cases a
    |row e sz xs fz=>obtain⟨_,_,_,_,h5⟩:=A;obtain⟨_,_,_,e,_⟩:=h5 f;rw[e]at a;cases a
    |mp y n es fz=>
     cases fz with
     |true=>exact absurd rfl (x y n es)
     |false=>exact absurd (Or.inr ⟨k,_,l,f,rfl,by simp[Blk.frz]⟩) hn
   .rw[m b d (λ_=>e)];exact a
  .rw[m b d (λi=>absurd i f)];exact a
 intro b o v a hn;have d:=zS a;refine⟨?_,λg=>hn (z b o g)⟩;by_cases f:blk.live (L k)
 .by_cases e:b=(L k).b
  .subst e
   by_cases hf:blk.frz o
   .grind
   .exact absurd (Or.inr ⟨k,blk,l,f,rfl,hf⟩) hn
  .simp only[World.cell?,m b d (λ_=>e)]at a|-;exact a
 .simp only[World.cell?,m b d (λi=>absurd i f)]at a|-;exact a
section
variable {C:Cx} {L:Nat->Loc} {h1 h:Hp} {w:World}
theorem pH(F:∀k b,h1 k=some b->h k=some b)(d:RepA w M L h x u)(e:im h1 x=some cs):aA w M L h cs u.cells.toList:=by
 have one:∀{q:AV}{v:Value},RepA w M L h q v->aA w M L h [q] [v]:=λhq=>.cons hq .nil
 cases x with
 |undef=>simp[im]at e
 |eptr=>simp[im]at e
 |arr k n=>
  simp only[im]at e;split at e
  .rename_i G sz xs fz l
   split at e
   .rename_i hn
    injection e with e;subst e;have r:=F _ _ l;have g:=d
    cases d with
    |arr c D z=>
     rw[r]at c;injection c with c;injection c with a1 a2 a3 a4;subst a1;subst a2;subst a3;subst a4;have A:=z hn;subst A
     have:((L k).slice n).cells.toList=[(L k).slice n]:=by unfold Loc.slice;split<;>rfl
     grind
   .cases e
  .cases e
 |pv p=>
  simp only[im,T6]at e;subst e
  cases d with
  |pv E=>exact aA.map_pv E.cells
 |ptr k off=>
  simp only[im,T6]at e;subst e
  cases d with
  |ptr l=>exact one (.ptr l)
 |agg B=>
  simp only[im,T6]at e;subst e
  cases d with
  |agg _ vs m o=>exact⟨by simpa[AV.cells,Value.cells]using m,λi p u hp z=>o i p u (by simpa[AV.cells]using hp) (by simpa[Value.cells]using z)⟩
 |fn f first j=>
  simp only[im,T6]at e;subst e
  cases d with
  |fn _ _ _ vs us m l a b=>exact one (.fn f first j vs us m l a b)
 |tup vs=>
  simp only[im,T6]at e;subst e
  cases d with
  |tup _ us m o=>exact one (.tup vs us m o)
 |ext y=>
  simp only[im,T6]at e;subst e
  cases d with
  |ext g=>
   have C:u.cells.toList=[u]:=by
    cases g with
    |suf s _ _ _ _=>obtain⟨_,_,_,rfl⟩:=s;rfl
    |_=>rfl
   rw[C];exact one (.ext g)
theorem tC(a:Rep w M p u)(b:kR p=true):u.oneCell'=true:=by
 cases a<;>simp_all[kR,Value.oneCell']
theorem Fk(j:∀k b,h1 k=some b->h k=some b)(d:RepA w M L h x u)(a:uS h1 x=true):u.oneCell'=true:=by
 cases d with
 |pv d=>exact tC d a
 |ptr=>rfl
 |@arr k n e sz fz xs u i hn l=>
  simp only[uS]at a;split at a
  .rename_i q o p g c
   have:=j _ _ c;rw[i]at this;injection this with this;injection this with a1 a2 a3 a4;subst a3;rw[l (by simpa using a)];unfold Loc.slice;split<;>rfl
  .cases a
 |eptr=>simp[uS]at a
 |agg=>simp[uS]at a
 |fn=>rfl
 |tup=>simp[uS]at a
 |ext m=>cases m with
   |suf f _ _ _ _=>obtain⟨_,_,_,rfl⟩:=f;rfl
   |_=>rfl
 |undef=>simp[uS]at a
theorem aA.take_{ps:List AV}(b:aA w M L h ps us)(n:Nat):aA w M L h (ps.take n) (us.take n):=by
 refine⟨by simp[b.1],λi p u hp a=>?_⟩;rw[Uu]at hp a;split at hp
 .rename_i hi;rw[T8 hi]at a;exact b.2 i p u hp a
 .cases hp
theorem aA.drop_{ps:List AV}(a:aA w M L h ps us)(n:Nat):aA w M L h (ps.drop n) (us.drop n):=by
 refine⟨by simp[a.1],λi p u hp b=>?_⟩;rw[UW]at hp b;exact a.2 _ p u hp b
theorem aA.splice_{ps qs:List AV}(a:aA w M L h ps us)(hq:aA w M L h qs vs)(off:Nat):aA w M L h (df ps off qs) (df us off vs):=by
 unfold df;rw[hq.1];exact((a.take_ off).append hq).append (a.drop_ _)
theorem wX(k:af P t=some ti){ty:Nat}{a:Array Value}(g:w.heap[b]?=some (.cells a ty (0,0)))(f:v.cells.size=ti.size)(c:o+v.cells.size<=a.size)
 (h1:∀u∈v.cells.toList,u.oneCell'=true):(Instr.storeAt t (.pointer (some ⟨b,o,none⟩)) v).run P w=.ok () (w.setRow b (df a.toList o v.cells.toList).toArray):=by
 obtain⟨i,d,hi,hd,j,_,_⟩:=gY k;have:=run_storeCells_at P b o ty v.cells.toList 0 a w g (by simpa using c) h1
 have e:¬v.cells.size≠i.size:=by simp[f,j]
 simp only[Instr.storeAt,Instr.sureAddr,pure_bind,storeVar,Sem.run_bind,gj hi,Result.andThen_ok,e,Uf,this];simp[df]
theorem GB(f:MemL C L h w){a:List AV}{own:Bool}(e:h k=some (.box cs own false))(r:af C.P t=some ti)
 (j:aA w (ab C L h) L h a u.cells.toList)(y:a.length=ti.size)(p:off+a.length<=cs.length)(c:∀x∈u.cells.toList,x.oneCell'=true):
 ∃w',(Instr.storeAt t (.pointer (some ⟨(L k).b,off,none⟩)) u).run C.P w=.ok () w'/\aI C L h w L (ae h k (some (.box (df cs off a) own false))) w':=by
 obtain⟨arr,ty,g,i⟩:=f.bl k _ e
 have s:u.cells.size=a.length:=by have:=j.1;simp at this;omega
 have q:arr.size=cs.length:=by have:=i.1;simp at this;omega
 refine⟨_,wX r g (by omega) (by omega) c,?_⟩;have l:∀b,b<w.heap.size->((Blk.box cs own false).live (L k)->b≠(L k).b)->(w.setRow (L k).b (df arr.toList off u.cells.toList).toArray).heap[b]?=w.heap[b]?:=λb _ n=>setRow_other w _ b _ (n trivial);have d:=f.touch_pk (blk':=.box (df cs off a) own false) e l (λo v _ hf _=>by cases hf) (λo hf=>by cases hf) rfl Vk;refine f.touch e l (by simp) rfl rfl rfl (λo v _ hf _=>by cases hf) (λo hf=>by cases hf) rfl Vk (by have m:=f.own k _ e;cases own<;>exact m) ?_;refine⟨_,ty,setRow_heap w _ arr _ ty _ g,?_⟩;have:=(i.splice_ j off).mono d.1 d.2;omega
theorem AR(F:MemL C L h w){i:Nat}{y q:PV}(E:h k=some (.row e sz xs fz))(hi:xs[i]?=some y)(H:fz<=i)(c:(L k).isNil=false)(ht:af C.P t=some ti)
 {u:Value}{ps:List PV}(S:bS w (ab C L h) ps u.cells.toList)(hl:ps.length=ti.size)(a6:off+ps.length<=sz)(A:∀x∈u.cells.toList,x.oneCell'=true)(U:q.cells=df y.cells off ps):
 ∃w',(Instr.storeAt t (.pointer (some ⟨(L k).b,i*sz+off,none⟩)) u).run C.P w=.ok () w'/\aI C L h w L (ae h k (some (.row e sz (xs.set i q) fz))) w':=by
 obtain⟨g1,g2,g3,g4,g5⟩:=F.bl k _ E;obtain⟨a1,V,arr,a3,a4,G⟩:=g5 c
 have a7:u.cells.size=ps.length:=by have:=S.1;simp at this;omega
 have ad:i<xs.length:=(th.1 hi).1
 have z:(i+1)*sz<=arr.size:=by rw[a4];exact Up _ (by omega)
 rw[UK]at z
 have s:i*sz+off+u.cells.size<=arr.size:=by omega
 refine⟨_,wX ht a3 (by omega) s A,?_⟩;have T:∀b,b<w.heap.size->((Blk.row e sz xs fz).live (L k)->b≠(L k).b)->(w.setRow (L k).b (df arr.toList (i*sz+off) u.cells.toList).toArray).heap[b]?=w.heap[b]?:=λb _ Y=>setRow_other w _ b _ (Y c);have Q:fz*sz<=i*sz:=Up _ H
 have f:∀o,o<i*sz+off\/i*sz+off+u.cells.size<=o->(df arr.toList (i*sz+off) u.cells.toList)[o]?=arr[o]?:=by
  intro o K;unfold df;rcases K with K|K
  .grind
  grind [List.getElem?_append_right,List.length_append,List.length_take,Array.length_toList]
 have ar:∀j,j<u.cells.size->(df arr.toList (i*sz+off) u.cells.toList)[i*sz+off+j]?=u.cells[j]?:=by
  intro j a;unfold df
  grind [List.append_assoc,List.getElem?_append_right,List.getElem?_append_left,List.length_take,Array.length_toList]
 have hpr:∀o v,(Blk.row e sz xs fz).live (L k)->(Blk.row e sz xs fz).frz o->w.cell? ⟨(L k).b,o,none⟩=some v->(w.setRow (L k).b (df arr.toList (i*sz+off) u.cells.toList).toArray).cell? ⟨(L k).b,o,none⟩=some v:=by
  intro o v _ hf Z;simp only[Blk.frz]at hf;rw[cell_setRow_same w _ o arr _ _ _ a3,Vj,f o (.inl (by omega)),<-eH a3];exact Z
 have R:(xs.set i q).length=xs.length:=by simp
 have r:dZ (.row e sz xs fz) (L k) (.row e sz (xs.set i q) fz) (L k):=⟨rfl,rfl,by omega,λ_=>rfl⟩;have d:=F.touch_pk (blk':=.row e sz (xs.set i q) fz) E T hpr (λo hf=>hf) r Vk;refine F.touch E T (by simp) rfl rfl rfl hpr (λo hf=>hf) r Vk (by have X:=F.own k _ E;exact X) ?_;have N:y.cells.length=sz:=g3 y (Is hi)
 have g:q.cells.length=sz:=by rw[U];simp[df];omega
 refine⟨g1,by omega,?_,λhn=>absurd c (by rw[hn];simp),λ_=>⟨by omega,V,_,setRow_heap w _ arr _ _ _ a3,by simp[df];omega,?_⟩⟩
 .grind
 .intro O x j p n a
  rw[Ub]at n;split at n
  .rename_i l
   subst l;injection n with n;subst n
   have J:j<sz:=by rw[<-g];exact(th.1 a).1
   rw[U]at a;by_cases W:j<off
   .unfold df at a
    rw[U7,T4 (by simp;omega),Uu,T8 W]at a;obtain⟨v,D,B⟩:=G i y j p hi a;exact⟨v,by rw[Vj,f _ (.inl (by omega))];exact D,B.mono d.1⟩
   .by_cases c2:j<off+ps.length
    .unfold df at a
     rw[U7,T7 (by simp;omega),T4 (by simp;omega)]at a;simp only[UL]at a;rw[show j-min off y.cells.length=j-off from by omega]at a
     have m:j-off<u.cells.size:=by omega
     have M:u.cells.toList[j-off]?=some u.cells[j-off]:=by simp[m]
     refine⟨u.cells[j-off],?_,(S.2 _ p _ a M).mono d.1⟩
     grind
    .unfold df at a
     rw[T7 (by simp;omega),UW]at a;simp only[Um,UL]at a;rw[show off+ps.length+(j-(min off y.cells.length+ps.length))=j from by omega]at a;obtain⟨v,D,B⟩:=G i y j p hi a;exact⟨v,by rw[Vj,f _ (.inr (by omega))];exact D,B.mono d.1⟩
  .rename_i l
   obtain⟨v,D,B⟩:=G O x j p n a
   have J:j<sz:=by rw[<-g3 x (Is n)];exact(th.1 a).1
   refine⟨v,?_,B.mono d.1⟩;rw[Vj,f _ ?_]
   .exact D
   .rcases Nat.lt_or_gt_of_ne l with m|I
    .right
     have:(i+1)*sz<=O*sz:=Up _ m
     grind
    .left
     have:(O+1)*sz<=i*sz:=Up _ I
     grind
theorem Ei(b:bS w M ps us)(c:ps.all kR=true):∀x∈us,x.oneCell'=true:=by
 intro x d;obtain⟨i,hi⟩:=Vh.1 d
 have a:i<ps.length:=by rw[b.1];exact(th.1 hi).1
 exact tC (b.2 i ps[i] x (an a) hi) (TP.1 c _ (Uo a))
theorem BC(o:MemL C L h w)(r:∀k b,h1 k=some b->h k=some b)(B:af C.P t=some ti){v:AV}{a:Value}(G:RepA w (ab C L h) L h x a)(F:RepA w (ab C L h) L h v u)
 {W:List (Nat×Blk)}(e:we ti x v h1=some W):∃w',(Instr.storeAt t a u).run C.P w=.ok () w'/\aI C L h w L (ai h W) w':=by
 unfold we at e;split at e
 .rename_i k off
  split at e
  .rename_i cs own H s D
   split at e
   .rename_i m
    injection e with e;subst e;have A:=pH r F D
    cases G with
    |ptr _=>
     refine GB o (r _ _ s) B A m.1 m.2.1 ?_;intro y q;obtain⟨i,hi⟩:=Vh.1 q
     have z:i<H.length:=by rw[A.1];exact(th.1 hi).1
     have Q:=A.2 i H[i] y (an z) hi
     grind [Fk,List.all_eq_true,List.getElem_mem]
   .cases e
  .cases e
 .rename_i k n i off
  split at e
  .rename_i O sz xs fz s
   split at e
   .rename_i m
    split at e
    .rename_i y p q hp
     have d:=r _ _ s;obtain⟨M,l,N⟩:=nq o (cY.of_sub r) F hp;have l:Rep w (ab C L h) p u:=l;split at e
     .rename_i c
      simp only[pN,An,US]at c
      cases G with
      |eptr f I K=>
       rw[d]at f;injection f with f;injection f with a1 a2 a3 a4;subst a1;subst a2;subst a3;subst a4;obtain⟨g,rfl⟩:=K m.1;have E:=(o.bl k _ d).2.2.1 y (Is q);split at e
       .rename_i j
        injection e with e;subst e;obtain⟨rfl,J⟩:=j;exact AR o d q m.2 g B l.cells c.1 (by omega) (Ei l.cells c.2) (by simp[df];omega)
       .split at e
        .rename_i j
         injection e with e;subst e;exact AR o d q m.2 g B l.cells c.1 (by omega) (Ei l.cells c.2) (kJ _)
        .cases e
     .cases e
    .cases e
   .cases e
  .cases e
 .cases e
end
theorem oe(e:Ext (λ_=>False) w w'){a:Nat}{q:Prop}(c:q->w.heap.size<=a):Pres w M w' (λb o=>M b o\/(q/\b=a)):=by
 refine Pres.ext e (λ_ _ h=>h.elim) λb o d=>?_;rintro(h|⟨hq,rfl⟩)
 .exact h
 .have:=c hq;omega
theorem jL(w:World)(o:Obj):(w.alloc o).heap[w.heap.size]?=some o:=heap_alloc_new w o
section
variable {C:Cx} {L:Nat->Loc} {h1 h:Hp} {w:World}
theorem z7(i:MemL C L h w)(hd:h d=none)(a:d<2000000){us:Array Value}(j:aA w (ab C L h) L h cs us.toList)(ty:TypeId):
 aI C L h w (ae L d ⟨w.heap.size,0,false⟩) (ae h d (some (.box cs true false))) (w.alloc (.cells us ty))/\
 RepA (w.alloc (.cells us ty)) (ab C (ae L d ⟨w.heap.size,0,false⟩) (ae h d (some (.box cs true false)))) (ae L d ⟨w.heap.size,0,false⟩) (ae h d (some (.box cs true false))) (.ptr d 0) (.pointer (some ⟨w.heap.size,0,none⟩)):=by
 have c:Ext (λ_=>False) w (w.alloc (.cells us ty)):=Ext.alloc _ w _;have b:KC L h (ae L d ⟨w.heap.size,0,false⟩) (ae h d (some (.box cs true false))):=KC.new hd;refine⟨i.newKey hd a c (λ_=>Ua _) (by intro f g e;injection e with _ e2;cases e2) ⟨us,ty,jL w _,j.mono (oe c (λ_=>Ua _)) b⟩,?_⟩;have:=RepA.ptr (w:=w.alloc (.cells us ty)) (M:=ab C (ae L d ⟨w.heap.size,0,false⟩) (ae h d (some (.box cs true false)))) (L:=ae L d ⟨w.heap.size,0,false⟩) (h:=ae h d (some (.box cs true false))) (k:=d) (off:=0) (aF _ _ _);rw[aF]at this;exact this
theorem kK(j:MemL C L h w)(k:Ext (λ_=>False) w w')(hd:h d=none)(a:d<2000000)(i:l.isNil=false->w.heap.size<=l.b)
 (g:dJ w' (λb o=>ab C L h b o\/(l.isNil=false/\b=l.b)) (λ_=>default) (λ_=>none) l (.row e sz xs 0)):
 aI C L h w (ae L d l) (ae h d (some (.row e sz xs 0))) w'/\
 RepA w' (ab C (ae L d l) (ae h d (some (.row e sz xs 0)))) (ae L d l) (ae h d (some (.row e sz xs 0))) (.arr d xs.length) (l.slice xs.length):=by
 refine⟨j.newKey hd a k i (by intro c f e;cases e) g,?_⟩;exact .arr (aF _ _ _) (Ua _) (λ_=>by rw[aF])
theorem Lt{i j:Nat}(a:j<sz):(i*sz+j)%sz=j:=by
 rw[Nat.add_comm,Nat.add_mul_mod_self_right];exact Nat.mod_eq_of_lt a
theorem B9(hm:MemL C L h w)(ht:af C.P t=some ti){d:Option Nat}(g:∀q,d=some q->h1 q=h q/\q<2000000){l c:AV}{ul V:Value}(M:RepA w (ab C L h) L h l ul)(I:RepA w (ab C L h) L h c V)
 {v:AV}{W:List (Nat×Blk)}(e:yR ti d l c h1=some (v,W)):
 ∃r w' L',(Instr.makeSlice t ul V).run C.P w=.ok r w'/\aI C L h w L' (ai h W) w'/\RepA w' (ab C L' (ai h W)) L' (ai h W) v r:=by
 obtain⟨i,dd,hi,hd,ad,_,hk⟩:=gY ht;unfold yR at e;split at e
 .rename_i G H o z k1 n k2 m q f
  split at e
  .rename_i A
   obtain⟨X,R,Y,Z,c5,c6,c7⟩:=A;injection e with e;injection e with e1 e2;subst e1;subst e2;subst Y
   have s:∃B j,dd=.slice B/\C.P.info? B=some j/\G=B/\j.size=H/\j.bytes=o/\j.zero=some z:=by
    rw[hk]at f;split at f
    .cases f
    .cases f
    .rename_i B
     split at f
     .rename_i j K;injection f with a1 a2 a3 a4;exact⟨B,j,rfl,K,a1.symm,a2,a3,a4⟩
     .cases f
    .cases f
   obtain⟨B,j,rfl,K,rfl,rfl,rfl,hz⟩:=s
   cases M with
   |pv M=>cases I with
    |pv I=>
     rw[aM M,aM I];have E:=run_make (P:=C.P) w t G j z hd K hz k1 k2 m m Z (Wy _) c5 c6
     have J:h q=none:=by rw[<-(g q rfl).1];simpa using c7
     have hx:Ext (λ_=>False) w (w.alloc (.cells (madeCells z.cells (m.toNat*j.size)) G)):=Ext.alloc _ w _
     have u:=kK (e:=G) (sz:=j.size) (xs:=List.replicate m.toNat (PV.val z)) (l:=⟨w.heap.size,m.toNat,false⟩) hm hx J (g q rfl).2 (λ_=>Ua _) (by
      refine⟨X,UR _,?_,(λh=>by cases h),λ_=>⟨by simp,by simp only[maxLen];omega,_,jL w _,by simp[size_madeCells],?_⟩⟩
      .intro x O;rw[List.eq_of_mem_replicate O];simp[PV.cells,R]
      .intro a x b p k F
       have T:a<m.toNat:=by have:=(th.1 k).1;simpa using this
       rw[Uv,T8 T]at k;injection k with k;subst k;simp only[PV.cells,TR,No]at F;obtain⟨y,U,rfl⟩:=F
       have hb:b<j.size:=by have:=(th.1 U).1;simp at this;omega
       have D:b<z.cells.size:=by omega
       refine⟨y,?_,.val _⟩
       have N:a*j.size+b<m.toNat*j.size:=by
        have:(a+1)*j.size<=m.toNat*j.size:=Up _ T;rw[UK]at this;omega
       have Q:z.cells[b]=y:=by simpa[D]using U
       simp[madeCells,N,R,Lt hb]
       rw[getElem!_pos z.cells b D];exact Q)
     refine⟨_,_,_,E,u.1,?_⟩;have S:=u.2;rw[List.length_replicate]at S;exact S
  .cases e
 .cases e
theorem BD(hm:MemL C L h w)(ht:af C.P t=some ti){hn:List Nat}{d:Option Nat}(g:∀q,d=some q->h1 q=h q/\q<2000000){l c:AV}{ul R:Value}(N:RepA w (ab C L h) L h l ul)(I:RepA w (ab C L h) L h c R)
 {v:AV}{W:List (Nat×Blk)}(e:wh ti hn d l c h1=some (v,W)):
 ∃r w' L',(Instr.makeSlice t ul R).run C.P w=.ok r w'/\aI C L h w L' (ai h W) w'/\RepA w' (ab C L' (ai h W)) L' (ai h W) v r:=by
 obtain⟨i,Y,hi,hd,ad,_,hk⟩:=gY ht;unfold wh at e;split at e
 .rename_i F k z k1 n k2 m q f
  split at e
  .rename_i x
   obtain⟨_,S,T,U,V,c6,X⟩:=x;injection e with e;injection e with B e2;subst B;subst e2;subst T
   have s:∃A j,Y=.slice A/\C.P.info? A=some j/\F=A/\j.size=1/\j.bytes=k/\j.zero=some z:=by
    rw[hk]at f;split at f
    .cases f
    .cases f
    .rename_i A
     split at f
     .rename_i j K;injection f with a1 a2 a3 a4;exact⟨A,j,rfl,K,a1.symm,a2,a3,a4⟩
     .cases f
    .cases f
   obtain⟨A,j,rfl,K,rfl,M,rfl,hz⟩:=s
   have O:z.cells=#[z]:=by
    have:=i9 S;simp only[PV.cells]at this;apply Array.ext'
    cases E:z.cells.toList with
    |nil=>rw[E]at this;cases this
    |cons y r=>
     rw[E]at this;simp only[U9,List.cons.injEq,List.map_eq_nil_iff]at this;obtain⟨B,rfl⟩:=this;injection B with B;subst B;rfl
   cases N with
   |pv N=>cases I with
    |pv I=>
     rw[aM N,aM I];have D:=run_make (P:=C.P) w t F j z hd K hz k1 k2 m m U (Wy _) V c6
     have J:h q=none:=by rw[<-(g q rfl).1];simpa using X
     have hx:Ext (λ_=>False) w (w.alloc (.cells (madeCells z.cells (m.toNat*j.size)) F)):=Ext.alloc _ w _
     have o:madeCells z.cells (m.toNat*j.size)=(List.replicate m.toNat z).toArray:=by
      rw[M,VF,O];apply Array.ext
      .simp[size_madeCells]
      .intro a h1 h2
       simp[madeCells,Nat.mod_one]
     have Z:=z7 (us:=madeCells z.cells (m.toNat*j.size)) (cs:=List.replicate m.toNat (.pv (.val z))) hm J (g q rfl).2 (by
      rw[o];refine⟨by simp,λa p u hp G=>?_⟩;have H:=(th.1 hp).1;simp only[List.length_replicate]at H;rw[Uv,T8 H]at hp;rw[Uv,T8 H]at G;injection hp with hp;injection G with G;subst hp;subst G
      exact .pv (.val _)) F
     refine⟨_,_,_,D,Z.1,?_⟩;have Q:RepX (ae L q ⟨w.heap.size,0,false⟩) (ae h q (some (.box (List.replicate m.toNat (.pv (.val z))) true false))) (.barr q m.toNat m.toNat) (.slice (some ⟨(ae L q ⟨w.heap.size,0,false⟩ q).b,0,none⟩) m.toNat m.toNat):=.barr (Ua _) (aF _ _ _);rw[aF]at Q;exact .ext Q
  .cases e
 .cases e
theorem oP(P:MemL C L h w)(Y:∀k b,h1 k=some b->h k=some b)(Q:RepA w (ab C L h) L h x u){ys:List PV}(e:fZ h1 x=some ys)(K:ys.all (pN sz)=true):
 ∃A c,u=.slice A ys.length c/\(A=none->ys=[])/\(0<ys.length->∃b o,A=some ⟨b,o,none⟩/\∃news:List Value,news.length=ys.length*sz/\(∀(j:Nat) v,news[j]?=some v->w.cell? ⟨b,o+j,none⟩=some v)/\
  (∀v∈news,v.oneCell'=true)/\(∀(i:Nat) y(j:Nat) p,ys[i]?=some y->y.cells[j]?=some p->∃v,news[i*sz+j]?=some v/\Rep w (ab C L h) p v)):=by
 have g:∀y∈ys,y.cells.length=sz/\y.cells.all kR=true:=by
  intro y d;have:=TP.1 K y d;simpa[pN]using this
 have R:∀b o,(∀(i:Nat) y(j:Nat) p,ys[i]?=some y->y.cells[j]?=some p->∃v,w.cell? ⟨b,o+(i*sz+j),none⟩=some v/\Rep w (ab C L h) p v)->
  ∃news:List Value,news.length=ys.length*sz/\(∀(j:Nat) v,news[j]?=some v->w.cell? ⟨b,o+j,none⟩=some v)/\(∀v∈news,v.oneCell'=true)/\
   (∀(i:Nat) y(j:Nat) p,ys[i]?=some y->y.cells[j]?=some p->∃v,news[i*sz+j]?=some v/\Rep w (ab C L h) p v):=by
  intro b o H
  have z:∀q,q<ys.length*sz->∃v,w.cell? ⟨b,o+q,none⟩=some v/\v.oneCell'=true:=by
   intro q hq;have D:0<sz:=Nat.pos_of_ne_zero (λI=>by subst I;simp at hq);have hi:q/sz<ys.length:=Nat.div_lt_of_lt_mul (by rw[Nat.mul_comm];exact hq);have f:q%sz<sz:=Nat.mod_lt _ D;have d:=g _ (Uo hi)
   have F:q%sz<ys[q/sz].cells.length:=by omega
   obtain⟨v,m,l⟩:=H (q/sz) ys[q/sz] (q%sz) _ (an hi) (an F);refine⟨v,?_,tC l (TP.1 d.2 _ (Uo F))⟩;rw[show q/sz*sz+q%sz=q from by rw[Nat.mul_comm];exact Nat.div_add_mod q sz]at m;exact m
  refine⟨(List.range (ys.length*sz)).map λq=>(w.cell? ⟨b,o+q,none⟩).getD undef,by simp,?_,?_,?_⟩
  .intro j v f
   rw[TR]at f;by_cases G:j<ys.length*sz
   .rw[List.getElem?_range G]at f
    obtain⟨v',s,_⟩:=z j G;simp[s]at f;rw[s,f]
   .rw[Uc (by simp;omega)]at f;cases f
  .intro v m
   obtain⟨q,hq,rfl⟩:=Ur.1 m;obtain⟨v',s,X⟩:=z q (UH.1 hq);simpa[s]using X
  .intro i y j p d f
   obtain⟨v,m,l⟩:=H i y j p d f;refine⟨v,?_,l⟩;have hi:i<ys.length:=(th.1 d).1
   have U:j<sz:=by rw[<-(g y (Is d)).1];exact(th.1 f).1
   have:(i+1)*sz<=ys.length*sz:=Up _ hi;rw[UK]at this;rw[TR,List.getElem?_range (by omega)];simp[m]
 cases x with
 |pv p=>
  cases Q with
  |pv l=>
  cases p with
  |sl ad=>
   simp only[fZ,T6]at e;subst e
   cases l with
   |sl0 a c=>exact⟨a,c,rfl,λ_=>rfl,(λh=>by simp at h)⟩
   |sl _ b o c E uu O D H l=>
    refine⟨_,c,rfl,(λh=>by cases h),λI=>⟨b,o,rfl,R b o ?_⟩⟩;intro i y j p d f
    have:E=sz:=by rw[<-D i y d];exact(g y (Is d)).1
    subst this;exact⟨_,(H i y j p d f).1,l i y j p d f⟩
  |val v=>
   simp only[fZ]at e;split at e
   .rename_i m
    injection e with e;subst e;rw[aM l,lh m];exact⟨none,0,rfl,λ_=>rfl,(λh=>by simp at h)⟩
   .cases e
  |_=>simp[fZ]at e
 |arr k n=>
  simp only[fZ]at e;split at e
  .rename_i ee E xs fz V
   split at e
   .rename_i hn
    injection e with e;subst e;have B:=Y _ _ V
    cases Q with
    |arr r W Z=>
     rw[B]at r;injection r with r;injection r with a1 a2 a3 a4;subst a1;subst a2;subst a3;subst a4;rw[Z hn];rcases mS P B with⟨J,N⟩|⟨J,_,_,arr,S,_,T⟩
     .subst N;subst hn
      exact⟨none,0,by simp[Loc.slice,J],λ_=>rfl,(λh=>by simp at h)⟩
     .refine⟨some ⟨(L k).b,0,none⟩,(L k).cap,by simp[Loc.slice,J,hn],(λh=>by cases h),λI=>⟨(L k).b,0,rfl,R _ _ ?_⟩⟩
      intro i y j p d f
      have M:E=sz:=by rw[<-(P.bl k _ B).2.2.1 y (Is d)];exact(g y (Is d)).1
      subst M;obtain⟨v,m,l⟩:=T i y j p d f;exact⟨v,by rw[eH S,U0];exact m,l⟩
   .cases e
  .cases e
 |ptr=>simp[fZ]at e
 |eptr=>simp[fZ]at e
 |agg=>simp[fZ]at e
 |fn=>simp[fZ]at e
 |tup=>simp[fZ]at e
 |ext=>simp[fZ]at e
 |undef=>simp[fZ]at e
end
theorem xS{b:Blk}(a:h k=some b):ae h k (some b)=h:=by
 funext n;unfold ae;split
 all_goals grind
theorem dO(f:af P t=some ti){a:Nat}{z:Option Value}(g:ti.kind=.slice e sz a z):
 P.underlying t=some (.slice e)/\∃j,P.info? e=some j/\j.size=sz/\j.bytes=a/\j.zero=z:=by
 obtain⟨i,d,hi,hd,c,_,b⟩:=gY f
 grind
theorem wY{e:TypeId}{j:TypeInfo}(f:P.underlying t=some (.slice e))(d:P.info? e=some j)(B:Option Addr)(n cap:Nat)(hn:n<=cap)(A:Option Addr)(c:Nat):
 (Builtin.append_ #[t,t] ty #[.slice B n cap,.slice A 0 c]).run P w=.ok (.slice B n cap) w:=by
 have hf:(Builtin.firstCells j.size 0 (.slice A 0 c)).run P w=.ok #[] w:=by
  cases A with
  |none=>rfl
  |some a=>simp only[Builtin.firstCells,WB];rfl
 cases B with
 |none=>simp[Builtin.append_,run_underlying f,sizeOf,typeInfo,d,Builtin.lenOf,hn,hf]
 |some b=>simp[Builtin.append_,run_underlying f,sizeOf,typeInfo,d,Builtin.lenOf,hn,hf,storeCells]
theorem xT{ys:List PV}{a news:List Value}(g:a.length=xs.length*sz)(l:∀x∈xs,x.cells.length=sz)(m:∀y∈ys,y.cells.length=sz)
 (o:∀(i:Nat) x(j:Nat) p,xs[i]?=some x->x.cells[j]?=some p->∃u,a[i*sz+j]?=some u/\Rep w M p u)
 (hn:∀(i:Nat) x(j:Nat) p,ys[i]?=some x->x.cells[j]?=some p->∃u,news[i*sz+j]?=some u/\Rep w M p u)
 (i:Nat)(x:PV)(j:Nat)(p:PV)(d:(xs++ys)[i]?=some x)(e:x.cells[j]?=some p):∃u,(a++news)[i*sz+j]?=some u/\Rep w M p u/\i*sz+j<(xs.length+ys.length)*sz:=by
 have f:j<sz:=by
  grind
 have b:i<xs.length+ys.length:=by have:=(th.1 d).1;simpa using this
 have c:i*sz+j<(xs.length+ys.length)*sz:=by
  have:(i+1)*sz<=(xs.length+ys.length)*sz:=Up _ b
  grind
 by_cases hi:i<xs.length
 .grind
 .rw[T7 (by omega)]at d
  obtain⟨u,q,k⟩:=hn _ x j p d e;refine⟨u,?_,k,c⟩
  have n:i*sz=xs.length*sz+(i-xs.length)*sz:=by rw[<-UK];congr 1;omega
  grind
section
variable {C:Cx} {L:Nat->Loc} {h1 h:Hp} {w:World}
theorem z8(S:MemL C L h w)(hs:∀k b,h1 k=some b->h k=some b)(ht:af C.P t=some ti){d:Option Nat}(M:∀q,d=some q->h1 q=h q/\q<2000000)
 {s x:AV}{us ux:Value}(b0:RepA w (ab C L h) L h s us)(hx:RepA w (ab C L h) L h x ux){v:AV}{W:List (Nat×Blk)}(e:tw ti d s x h1=some (v,W)):
 ∃r w' L',(Builtin.append_ #[t,t] ty #[us,ux]).run C.P w=.ok r w'/\aI C L h w L' (ai h W) w'/\RepA w' (ab C L' (ai h W)) L' (ai h W) v r:=by
 unfold tw at e;split at e
 .rename_i et cg b4 z a6
  obtain⟨I,a,hj,rfl,rfl,hz⟩:=dO ht a6;split at e
  .cases e
  .rename_i f cd
   split at e
   .rename_i ad
    obtain⟨c1,c2,c3⟩:=ad
    have Y:∀y∈f,y.cells.length=a.size:=by
     intro y hy;have:=TP.1 c3 y hy;simp[pN]at this;exact this.1
    obtain⟨A,c,rfl,ch,hA⟩:=oP S hs hx cd c3;split at e
    .rename_i k n
     split at e
     .rename_i J sz xs fz hk
      split at e
      .rename_i hc
       obtain⟨ar,hn,rfl,rfl,K,b5⟩:=hc;injection e with e;injection e with e1 e2;subst e1;subst e2;have E:=hs _ _ hk;rw[iI]
       have b3:us=(L k).slice n:=by
        cases b0 with
        |arr ar cm H=>
         grind
       subst b3;obtain⟨g1,g2,g3,g4,g5⟩:=S.bl k _ E;by_cases bb:f.length=0
       .have bc:f=[]:=Uy bb
        subst bc
        have b9:∃B cap,(L k).slice n=.slice B n cap/\n<=cap:=by
         rcases mS S E with⟨V,ba⟩|⟨V,a1,_⟩
         .subst ba;subst hn;exact⟨none,0,by simp[Loc.slice,V],Ua _⟩
         .exact⟨_,_,by simp[Loc.slice,V];exact⟨rfl,rfl⟩,by omega⟩
        obtain⟨B,cap,hB,b7⟩:=b9;refine⟨(L k).slice n,w,L,by rw[hB];exact wY I hj B n cap b7 A c,?_,?_⟩
        .rw[V9,xS E];exact aI.refl S
        .rw[V9,xS E,V8,Wg]
         omega
       .obtain⟨b,o,rfl,news,n1,n2,n3,n4⟩:=hA (by omega)
        have m:∀j u,news[j]?=some u->w.cell? ((⟨b,o,none⟩:Addr).add j)=some u:=λj u H=>by rw[eV];exact n2 j u H
        rcases mS S E with⟨V,ba⟩|⟨V,a1,a2,arr,a3,a4,a5⟩
        .
         subst ba;simp only[V8]at hn;subst hn
         have a9:(L k).slice 0=.slice none 0 0:=by simp[Loc.slice,V]
         rw[a9];have D:=run_append_nil (P:=C.P) w t ty J a z I hj hz ⟨b,o,none⟩ f.length c news n1 m (by omega) (by omega) (by rw[U0]at K;omega);have F:Ext (λ_=>False) w (w.drew.alloc (.cells (news.toArray++Builtin.zeroCells z.cells (grownCap w f.length 0 J-f.length)) J)):=(Ext.drew _ w).trans (Ext.alloc _ _ _) (λ_ _ h=>h);have X:=grownCap_ge w f.length 0 J;have N:=grownCap_le_maxLen w f.length 0 J (by simp only[maxLen];omega)
         have a8:=S.move (xs':=[]++f) (l':=⟨w.heap.size,grownCap w f.length 0 J,false⟩) E ar F ⟨rfl,Ua _⟩ (by simp;omega) (by
          refine⟨c1,by simp at g2|-;omega,by simpa using Y,(λh=>by cases h),λ_=>⟨by simpa using X,N,_,jL _ _,?_,?_⟩⟩
          .simp only[VP,Vx,n1,size_zeroCells,c2]
           rw[<-UK];congr 1;omega
          .intro i x j p g G
           simp only[List.nil_append]at g;obtain⟨u,H,T⟩:=n4 i x j p g G;refine⟨u,?_,T.mono ((oe (q:=True) F (λ_=>Ua _)).trans (Pres.sub (λZ o' h=>h.elim .inl (λh=>.inr ⟨trivial,h⟩))))⟩;rw[UF (by have:=(th.1 H).1;simpa using this)]
           simpa using H)
         refine⟨_,_,_,D,a8,?_⟩;refine .arr (aF _ _ _) (by simp) (λ_=>?_);rw[aF];simp[Loc.slice]
        .have a9:(L k).slice n=.slice (some ⟨(L k).b,0,none⟩) n (L k).cap:=by simp[Loc.slice,V]
         rw[a9]
         have cf:n*a.size<=arr.size:=by rw[a4];exact Up _ (by omega)
         have Q:(arr.toList.take (n*a.size)).length=xs.length*a.size:=by simp[hn];omega
         have bs:∀(i:Nat) x(j:Nat) p,xs[i]?=some x->x.cells[j]?=some p->∃u,(arr.toList.take (n*a.size))[i*a.size+j]?=some u/\Rep w (ab C L h) p u:=by
          intro i x j p g G;obtain⟨u,H,T⟩:=a5 i x j p g G;refine⟨u,?_,T⟩
          have ck:j<a.size:=by rw[<-g3 x (Is g)];exact(th.1 G).1
          have cj:i<xs.length:=(th.1 g).1;have:(i+1)*a.size<=n*a.size:=Up _ (by omega)
          grind
         have R:=xT Q g3 Y bs n4;by_cases U:n+f.length<=(L k).cap
         .have a7:(n+f.length)*a.size<=arr.size:=by rw[a4];exact Up _ U
          rw[UK]at a7;have D:=run_append_room (P:=C.P) w t ty J a I hj (L k).b n (L k).cap arr a3 ⟨b,o,none⟩ f.length c news n1 m n3 U (by omega);refine⟨_,_,L,D,?_,?_⟩
          .have hw:∀Z,Z<w.heap.size->((Blk.row J a.size xs fz).live (L k)->Z≠(L k).b)->(w.setRow (L k).b (arr.toList.take (n*a.size)++news++arr.toList.drop (n*a.size+news.length)).toArray).heap[Z]?=w.heap[Z]?:=
            λZ _ hb=>setRow_other w _ Z _ (hb V)
           have cb:∀q,q<n*a.size->(arr.toList.take (n*a.size)++news++arr.toList.drop (n*a.size+news.length))[q]?=arr[q]?:=by
            grind
           have hpr:∀o v,(Blk.row J a.size xs fz).live (L k)->(Blk.row J a.size xs fz).frz o->w.cell? ⟨(L k).b,o,none⟩=some v->
            (w.setRow (L k).b (arr.toList.take (n*a.size)++news++arr.toList.drop (n*a.size+news.length)).toArray).cell? ⟨(L k).b,o,none⟩=some v:=by
            intro q v _ hf hc;simp only[Blk.frz]at hf;have:fz*a.size<=n*a.size:=Up _ (by omega);rw[cell_setRow_same w _ q arr _ _ _ a3,Vj,cb q (by omega),<-eH a3];exact hc
           have bq:dZ (.row J a.size xs fz) (L k) (.row J a.size (xs++f) fz) (L k):=⟨rfl,rfl,by simp,λ_=>rfl⟩;have ca:=S.touch_pk (blk':=.row J a.size (xs++f) fz) E hw hpr (λo hf=>hf) bq Vk;refine S.touch E hw (by simp) rfl rfl rfl hpr (λo hf=>hf) bq Vk (by have h9:=S.own k _ E;exact h9) ?_;refine⟨g1,by simp;omega,?_,(λhn=>by rw[V]at hn;cases hn),λ_=>⟨by simp;omega,a2,_,setRow_heap w _ arr _ _ _ a3,?_,?_⟩⟩
           .grind
           .grind
           .intro i x j p g G
            obtain⟨u,H,T,b8⟩:=R i x j p g G;refine⟨u,?_,T.mono ca.1⟩
            grind
          .refine .arr (aF _ _ _) (by simp;omega) (λ_=>?_)
           simp[Loc.slice,V]
         .have D:=run_append_grow (P:=C.P) w t ty J a z I hj hz ⟨(L k).b,0,none⟩ n (L k).cap (arr.toList.take (n*a.size)) (by rw[Q,hn])
           (λq u H=>by
             rw[eV,eH a3,U0];rw[Uu]at H;split at H
             .simpa using H
             .cases H)
           ⟨b,o,none⟩ f.length c news n1 m (by omega) (by omega) (growslice_fits (by omega) K)
          have F:Ext (λ_=>False) w (w.drew.alloc (.cells ((arr.toList.take (n*a.size)).toArray++news.toArray++Builtin.zeroCells z.cells (grownCap w (n+f.length) (L k).cap J-(n+f.length))) J)):=
           (Ext.drew _ w).trans (Ext.alloc _ _ _) (λ_ _ h=>h)
          have X:=grownCap_ge w (n+f.length) (L k).cap J;have N:=grownCap_le_maxLen w (n+f.length) (L k).cap J (by simp only[maxLen];omega)
          have a8:=S.move (xs':=xs++f) (l':=⟨w.heap.size,grownCap w (n+f.length) (L k).cap J,false⟩) E ar F ⟨rfl,Ua _⟩ (by simp;omega) (by
           refine⟨c1,by simp;omega,?_,(λh=>by cases h),λ_=>⟨by simp;omega,N,_,jL _ _,?_,?_⟩⟩
           .intro x F
            rcases Ui.1 F with h'|h'
            .exact g3 x h'
            .exact Y x h'
           .simp only[VP,Vx,Q,n1,size_zeroCells,c2,hn]
            rw[<-UK,<-UK];congr 1;omega
           .intro i x j p g G
            obtain⟨u,H,T,b8⟩:=R i x j p g G;refine⟨u,?_,T.mono ((oe (q:=True) F (λ_=>Ua _)).trans (Pres.sub (λZ o' h=>h.elim .inl (λh=>.inr ⟨trivial,h⟩))))⟩;have b1:=(th.1 H).1
            have b2:i*a.size+j<((arr.toList.take (n*a.size)).toArray++news.toArray).size:=by simp only[VP,Vx];simp only[Um]at b1;exact b1
            rw[UF b2,<-UQ,WA]
            exact H)
          refine⟨_,_,_,D,a8,?_⟩;refine .arr (aF _ _ _) (by simp;omega) (λ_=>?_);rw[aF];simp[Loc.slice]
      .cases e
     .cases e
    .rename_i vv
     split at e
     .rename_i hv
      split at e
      .rename_i q
       split at e
       .rename_i hc
        obtain⟨hq,K,b5⟩:=hc;injection e with e;injection e with e1 e2;subst e1;subst e2;rw[iI]
        have bH:h q=none:=by rw[<-(M q rfl).1];simpa using hq
        cases b0 with
        |pv T=>
        rw[aM T,lh hv];by_cases bb:f.length=0
        .have bc:f=[]:=Uy bb
         subst bc
         have O:=kK (e:=et) (sz:=a.size) (xs:=[]) (l:=⟨0,0,true⟩) S (Ext.refl _ w) bH (M q rfl).2 (λh=>by cases h)
          ⟨c1,UR _,by simp,λ_=>rfl,(λh=>by cases h)⟩
         exact⟨_,_,_,wY I hj none 0 0 (Ua _) A c,O.1,O.2⟩
        .obtain⟨b,o,rfl,news,n1,n2,n3,n4⟩:=hA (by omega)
         have m:∀j u,news[j]?=some u->w.cell? ((⟨b,o,none⟩:Addr).add j)=some u:=λj u H=>by rw[eV];exact n2 j u H
         have D:=run_append_nil (P:=C.P) w t ty et a z I hj hz ⟨b,o,none⟩ f.length c news n1 m (by omega) (by omega) (by omega);have F:Ext (λ_=>False) w (w.drew.alloc (.cells (news.toArray++Builtin.zeroCells z.cells (grownCap w f.length 0 et-f.length)) et)):=(Ext.drew _ w).trans (Ext.alloc _ _ _) (λ_ _ h=>h);have X:=grownCap_ge w f.length 0 et;have N:=grownCap_le_maxLen w f.length 0 et (by simp only[maxLen];omega)
         have O:=kK (e:=et) (sz:=a.size) (xs:=f) (l:=⟨w.heap.size,grownCap w f.length 0 et,false⟩) S F bH (M q rfl).2 (λ_=>Ua _) (by
          refine⟨c1,UR _,Y,(λh=>by cases h),λ_=>⟨X,N,_,jL _ _,?_,?_⟩⟩
          .simp only[VP,Vx,n1,size_zeroCells,c2]
           rw[<-UK];congr 1;omega
          .intro i x j p g G
           obtain⟨u,H,T⟩:=n4 i x j p g G;refine⟨u,?_,T.mono (oe F (λ_=>Ua _))⟩;rw[UF (by have:=(th.1 H).1;simpa using this)]
           simpa using H)
         exact⟨_,_,_,D,O.1,O.2⟩
       .cases e
      .cases e
     .cases e
    .cases e
   .cases e
 .cases e
theorem Ca(I:MemL C L h w)(hs:∀k b,h1 k=some b->h k=some b){t':TypeId}(ht:af C.P t=some ti)
 {s x:AV}{us ux:Value}(a6:RepA w (ab C L h) L h s us)(hx:RepA w (ab C L h) L h x ux){v:AV}{W:List (Nat×Blk)}(e:yQ ti s x h1=some (v,W)):
 ∃r w',(Builtin.copy_ #[t,t'] ty #[us,ux]).run C.P w=.ok r w'/\aI C L h w L (ai h W) w'/\RepA w' (ab C L (ai h W)) L (ai h W) v r:=by
 unfold yQ at e;split at e
 .rename_i e1 bs T z k n H
  obtain⟨D,d,V,rfl,rfl,hz⟩:=dO ht H;split at e
  .rename_i G sz xs g hk ba
   split at e
   .rename_i hc
    obtain⟨hn,rfl,c3⟩:=hc;injection e with e;injection e with ea eb;subst ea;subst eb;rw[iI];have f:=hs _ _ hk
    have S:us=(L k).slice n:=by
     cases a6 with
     |arr E b2 hu=>
      rw[f]at E;injection E with E;injection E with a1 a2 a3 a4;subst a3;exact hu hn
    subst S
    have a9:∀y∈g,y.cells.length=d.size:=by
     intro y hy;have:=TP.1 c3 y hy;simp[pN]at this;exact this.1
    obtain⟨A,c,rfl,bH,hA⟩:=oP I hs hx ba c3;obtain⟨g1,g2,g3,g4,g5⟩:=I.bl k _ f;by_cases l:Nat.min g.length n=0
    .
     have bb:(g.take (Nat.min g.length n)++xs.drop (Nat.min g.length n))=xs:=by rw[l];simp
     rw[bb,xS f,l];refine⟨goInt 0,w,?_,aI.refl I,.pv (.val _)⟩
     have hf:(Builtin.firstCells d.size 0 (.slice A g.length c)).run C.P w=.ok #[] w:=by
      cases A with
      |none=>rfl
      |some a=>simp only[Builtin.firstCells,WB];rfl
     unfold Loc.slice
     cases bq:(L k).isNil with
     |true=>
      simp[Builtin.copy_,run_underlying D,Builtin.lenOf,sizeOf,typeInfo,V,hf,goInt]
     |false=>simp[Builtin.copy_,run_underlying D,Builtin.lenOf,sizeOf,typeInfo,V,l,hf,storeCells,goInt]
    .have F:0<Nat.min g.length n:=Nat.pos_of_ne_zero l
     have a8:0<g.length:=UU F (Nat.min_le_left _ _);have b3:0<n:=UU F (Nat.min_le_right _ _);obtain⟨b,o,rfl,news,n1,n2,n3,n4⟩:=hA a8;rcases mS I f with⟨U,a7⟩|⟨U,a1,a2,arr,a3,a4,a5⟩
     .subst a7;simp at hn;omega
     .have ar:(L k).slice n=.slice (some ⟨(L k).b,0,none⟩) n (L k).cap:=by simp[Loc.slice,U]
      rw[ar];generalize J:Nat.min g.length n=m at *
      have Y:m<=g.length:=by rw[<-J];exact Nat.min_le_left _ _
      have b1:m<=n:=by rw[<-J];exact Nat.min_le_right _ _
      have ad:m*d.size<=news.length:=by rw[n1];exact Up _ Y
      have Z:m*d.size<=arr.size:=by rw[a4];exact Up _ (by omega)
      have K:(news.take (m*d.size)).length=m*d.size:=by simp;omega
      have hf:(Builtin.firstCells d.size m (.slice (some ⟨b,o,none⟩) g.length c)).run C.P w=.ok (news.take (m*d.size)).toArray w:=by
       have:=run_loadCells_list (P:=C.P) w ⟨b,o,none⟩ (news.take (m*d.size)) (λq v hq=>by
        rw[eV];rw[Uu]at hq;split at hq
        .exact n2 q v hq
        .cases hq)
       rw[K]at this;simpa[Builtin.firstCells]using this
      have R:=run_storeCells_at C.P (L k).b 0 G (news.take (m*d.size)) 0 arr w a3 (by rw[K];omega) (λv hv=>n3 v (VS hv));simp only[U0,List.take_zero,List.nil_append,K]at R;refine⟨goInt m,w.setRow (L k).b (news.take (m*d.size)++arr.toList.drop (m*d.size)).toArray,?_,?_,?_⟩
      .simp only[Builtin.copy_,Vj,Vf,We,Sem.run_bind,run_underlying D,Result.andThen_ok,Builtin.lenOf,Sem.run_pure,sizeOf,typeInfo,program,Sem.run,V,J,hf,R]
      .have hw:∀N,N<w.heap.size->((Blk.row G d.size xs 0).live (L k)->N≠(L k).b)->(w.setRow (L k).b (news.take (m*d.size)++arr.toList.drop (m*d.size)).toArray).heap[N]?=w.heap[N]?:=
        λN _ hb=>setRow_other w _ N _ (hb U)
       have bc:(g.take m++xs.drop m).length=xs.length:=by simp;omega
       have O:dZ (.row G d.size xs 0) (L k) (.row G d.size (g.take m++xs.drop m) 0) (L k):=⟨rfl,rfl,by omega,λ_=>rfl⟩
       have hpr:∀o v,(Blk.row G d.size xs 0).live (L k)->(Blk.row G d.size xs 0).frz o->w.cell? ⟨(L k).b,o,none⟩=some v->
        (w.setRow (L k).b (news.take (m*d.size)++arr.toList.drop (m*d.size)).toArray).cell? ⟨(L k).b,o,none⟩=some v:=by
        intro q v _ hf _;simp only[Blk.frz,WB]at hf;omega
       have Q:=I.touch_pk (blk':=.row G d.size (g.take m++xs.drop m) 0) f hw hpr (λo hf=>hf) O Vk;refine I.touch f hw (by simp) rfl rfl rfl hpr (λo hf=>hf) O Vk (by have h9:=I.own k _ f;exact h9) ?_;refine⟨g1,UR _,?_,(λhn=>by rw[U]at hn;cases hn),λ_=>⟨by omega,a2,_,setRow_heap w _ arr _ _ _ a3,?_,?_⟩⟩
       .grind
       .grind
       .intro i x j p B M
        have X:∀y:PV,y.cells.length=d.size->x=y->j<d.size:=λy hy e=>by subst e;rw[<-hy];exact(th.1 M).1
        by_cases hi:i<m
        .rw[T4 (by simp;omega),Uu,T8 hi]at B
         obtain⟨u,hu,hr⟩:=n4 i x j p B M;have b0:=X x (a9 x (Is B)) rfl;have:(i+1)*d.size<=m*d.size:=Up _ hi;rw[UK]at this;refine⟨u,?_,hr.mono Q.1⟩
         grind
        .rw[T7 (by simp;omega),UW]at B
         rw[show m+(i-(g.take m).length)=i from by simp;omega]at B;obtain⟨u,hu,hr⟩:=a5 i x j p B M;have:m*d.size<=i*d.size:=Up _ (by omega);refine⟨u,?_,hr.mono Q.1⟩
         grind
      .exact .pv (.val _)
   .cases e
  .cases e
 .cases e
end
end Go.Ab
