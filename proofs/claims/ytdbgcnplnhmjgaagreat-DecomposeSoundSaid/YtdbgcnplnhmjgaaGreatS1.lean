/- The contracts and facts that the laws of this seat need, in one text (AbA). -/
import Derived.WalkKit
import Derived.Defers
import Derived.Recover
import Derived.Maps.AppendAt
set_option linter.all false
set_option maxRecDepth 10000
set_option maxHeartbeats 16000000
namespace Go.Ab
abbrev an:=@List.getElem?_eq_getElem
abbrev th:=@List.getElem?_eq_some_iff
abbrev An:=@Bool.and_eq_true
abbrev HW:=@List.mem_of_getElem?
abbrev HX:=@decide_eq_true_eq
abbrev Ii:=@Option.map_eq_some_iff
abbrev Ij:=@List.all_eq_true
abbrev Ik:=@if_neg
abbrev Is:=@List.getElem?_map
abbrev Iz:=@List.getElem?_append_left
abbrev IA:=@Bool.false_eq_true
abbrev IL:=@Option.some.injEq
abbrev IN:=@List.getElem?_append_right
abbrev IR:=@if_pos
abbrev IV:=@Array.getD_eq_getD_getElem?
abbrev IX:=@Nat.le_refl
abbrev I0:=@List.getElem?_set
abbrev Jr:=@List.getElem?_eq_none
abbrev Js:=@Option.bind_some
abbrev Jw:=@decide_eq_false_iff_not
abbrev JE:=@if_false
abbrev JR:=@Prod.mk.injEq
abbrev JS:=@List.mem_append
abbrev JX:=@Option.getD_some
abbrev JY:=@Int.toNat_natCast
abbrev J4:=@if_true
abbrev Kk:=@List.length_append
abbrev Kq:=@Int.tdiv_eq_ediv_of_nonneg
abbrev Ky:=@List.getElem_mem
abbrev Kz:=@Nat.mul_le_mul_right
abbrev KA:=@Bool.true_and
abbrev KB:=@List.mem_map
abbrev KL:=@List.take_of_length_le
abbrev KM:=@List.mem_cons
abbrev KN:=@List.getElem?_take
abbrev Lc:=@List.getElem?_replicate
abbrev Le:=@Option.isSome_iff_exists
abbrev Lf:=@List.length_map
abbrev LC:=@List.eq_nil_of_length_eq_zero
abbrev LF:=@List.not_mem_nil
abbrev LU:=@Array.getElem?_eq_some_iff
abbrev LV:=@List.getElem?_of_mem
abbrev LZ:=@List.mem_singleton
abbrev L4:=@decide_eq_true
abbrev Mi:=@Bool.false_and
abbrev Mj:=@Array.getElem?_append_left
abbrev Mp:=@Bool.not_eq_true'
abbrev Mx:=@List.mem_range
abbrev My:=@List.ext_getElem?
abbrev MA:=@Array.getElem?_eq_getElem
abbrev MB:=@Nat.add_mul
abbrev MD:=@List.length_take
abbrev ME:=@Option.some.inj
abbrev MF:=@List.take_succ_eq_append_getElem
abbrev MG:=@Option.map_some
abbrev ML:=@List.mem_or_eq_of_mem_set
abbrev M7:=@Array.getElem?_toList
abbrev Ng:=@Nat.zero_le
abbrev Nj:=@beq_iff_eq
abbrev Nv:=@Bool.or_eq_true
abbrev Ny:=@Nat.lt_of_lt_of_le
abbrev NE:=@Array.getElem?_setIfInBounds_ne
abbrev NG:=@List.getElem?_drop
abbrev NH:=@or_false
abbrev NI:=@List.take_append_drop
abbrev NR:=@List.length_singleton
abbrev NU:=@Nat.zero_add
abbrev NV:=@Int.mul_nonneg
abbrev Ok:=@decide_eq_false
abbrev Ol:=@List.mem_filter
abbrev Om:=@beq_eq_false_iff_ne
abbrev On:=@Array.length_toList
abbrev Oo:=@List.append_assoc
abbrev Oq:=@Int.mul_le_mul_of_nonneg_left
abbrev Ot:=@List.map_cons
abbrev Ov:=@Int.emod_nonneg
abbrev OJ:=@List.find?_eq_none
abbrev ON:=@Int.emod_lt_of_pos
abbrev OO:=@List.getElem?_cons_zero
abbrev OR:=@Bool.or_eq_false_iff
abbrev Pl:=@List.mem_iff_getElem?
abbrev Pm:=@List.getElem?_toArray
abbrev Pp:=@Iff.rfl
abbrev PC:=@Bool.and_self
abbrev PG:=@Nat.mul_le_mul
abbrev PH:=@List.mem_iff_getElem
abbrev PI:=@Bool.and_false
abbrev PJ:=@Int.eq_ofNat_of_zero_le
abbrev PK:=@List.range_succ
abbrev PU:=@List.length_set
abbrev PZ:=@List.getElem_cons_drop
abbrev P3:=@List.set_append_right
abbrev P8:=@List.foldl_cons
abbrev Qe:=@not_true_eq_false
abbrev Qf:=@congrArg
abbrev Qg:=@List.size_toArray
abbrev QH:=@List.map_set
abbrev QJ:=@List.all_eq_false
abbrev QN:=@Nat.add_assoc
abbrev QO:=@Bool.not_true
abbrev QR:=@Bool.and_true
abbrev Q7:=@List.length_drop
abbrev Rq:=@List.length_cons
abbrev SJ:=@Nat.mul_one
abbrev SM:=@List.take_append_of_le_length
abbrev SN:=@Nat.le_trans
abbrev SO:=@List.filter_append
abbrev SQ:=@Int.tmod_lt_of_pos
abbrev S2:=@List.find?_some
abbrev Tc:=@Nat.lt_trichotomy
abbrev Td:=@List.nodup_append
abbrev Te:=@List.any_eq_false
abbrev Ti:=@Array.size_append
abbrev Tl:=@decide_true
abbrev Tm:=@List.set_append_left
abbrev Tn:=@List.mem_of_mem_take
abbrev Tq:=@List.mem_append_left
abbrev TN:=@List.getD_eq_getElem?_getD
abbrev T1:=@Nat.sub_self
abbrev T3:=@List.take_length
abbrev T4:=@List.any_eq_true
abbrev Un:=@Array.getElem?_replicate
abbrev Uo:=@List.map_append
abbrev Up:=@List.length_nil
abbrev Uq:=@List.append_nil
abbrev UB:=@Int.ediv_nonneg
abbrev UJ:=@Int.mul_nonneg_of_nonpos_of_nonpos
abbrev UR:=@Int.lt_tmod_of_pos
abbrev UU:=@List.getElem?_cons_succ
abbrev UV:=@List.findIdx?_eq_some_iff_getElem
abbrev U2:=@Nat.add_zero
abbrev U5:=@List.take_add_one
abbrev VA:=@List.foldl_append
abbrev VB:=@List.drop_eq_nil_of_le
abbrev VC:=@Int.le_total
abbrev VD:=@Int.le_ediv_iff_mul_le
abbrev VE:=@Int.ediv_lt_iff_lt_mul
abbrev VF:=@Nat.le_div_iff_mul_le
abbrev VG:=@List.length_filter_le
abbrev VH:=@Int.mul_tdiv_add_tmod
abbrev VJ:=@List.find?_eq_some_iff_getElem
abbrev VK:=@List.mem_cons_of_mem
abbrev VL:=@List.drop_append_of_le_length
abbrev VM:=@Int.neg_mul
abbrev VN:=@Int.le_refl
abbrev VO:=@List.nodup_cons
abbrev VP:=@Array.toList_append
abbrev VQ:=@Nat.zero_mul
abbrev VR:=@Nat.pow_succ
abbrev VS:=@List.map_nil
abbrev VT:=@List.drop_zero
abbrev VU:=@Int.tmod_eq_emod_of_nonneg
abbrev VV:=@Int.mul_le_mul
abbrev VW:=@Bool.not_false
abbrev VX:=@Option.isNone_iff_eq_none
abbrev VY:=@List.drop_eq_getElem_cons
abbrev VZ:=@not_false_eq_true
abbrev V0:=@List.map_drop
abbrev V4:=@and_true
abbrev V5:=@Int.ediv_le_self
end Go.Ab
namespace Go.Ab
inductive PV where
 |val(v:Value)
 |agg(cs:List PV)
 |sl(xs:List PV)
 |rptr(x:PV)(off:Nat)
 |fn(f:Fn)(first caps:List PV)
 |tup(vs:List PV)
 |ifc(t:TypeId)(x:PV)
 |hd(n:Nat)
 |mp(kd:IntKind)(n:Nat)(es:List (List Int×Value))
 deriving Inhabited
variable {M M':Nat->Nat->Prop}{P:Program}{S:Nat->Prop}{b d e fz k n o off sz:Nat}{es:List (List Int×Value)}{g:Option (Nat×Bool)}{ops:Array Oper}{p:PV}{ps xs:List PV}{t ty:TypeId}{u v:Value}{us vs:List Value}{w w':World}{α:Type}
def Qq(kd:IntKind)(is:List Int):Value:=.agg (is.map (Value.int kd)).toArray
def KX(kd:IntKind)(n:Nat)(es:List (List Int×Value))(arr:Array MapEntry):Prop:=
 arr.toList.map (λe=>(e.key,e.val))=es.map (λx=>(Qq kd x.1,x.2))∧∀x∈es,x.1.length=n
def PV.cells:PV->List PV
 |.val v=>v.cells.toList.map .val
 |.agg cs=>cs
 |p=>[p]
inductive Rep(w:World)(M:Nat->Nat->Prop):PV->Value->Prop
 |val (v:Value):Rep w M (.val v) v
 |agg (cs:List PV) (vs:List Value) (hl:cs.length=vs.length)
   (h:∀(i:Nat) p u,cs[i]?=some p->vs[i]?=some u->Rep w M p u):Rep w M (.agg cs) (.agg vs.toArray)
 |sl0 (a:Option Addr) (c:Nat):Rep w M (.sl []) (.slice a 0 c)
 |sl (xs:List PV) (b o c sz:Nat) (u:Nat->Nat->Value) (hcap:xs.length<=c)
   (hs:∀(i:Nat) x,xs[i]?=some x->x.cells.length=sz)
   (hc:∀(i:Nat) x(j:Nat) p,xs[i]?=some x->x.cells[j]?=some p->w.cell? ⟨b,o+(i*sz+j),none⟩=some (u i j)∧¬M b (o+(i*sz+j)))
   (hr:∀(i:Nat) x(j:Nat) p,xs[i]?=some x->x.cells[j]?=some p->Rep w M p (u i j)):Rep w M (.sl xs) (.slice (some ⟨b,o,none⟩) xs.length c)
 |rptr (x:PV) (b o off:Nat) (u:Nat->Value)
   (hc:∀(j:Nat) p,x.cells[j]?=some p->w.cell? ⟨b,o+j,none⟩=some (u j)∧¬M b (o+j))
   (hr:∀(j:Nat) p,x.cells[j]?=some p->Rep w M p (u j)):Rep w M (.rptr x off) (.pointer (some ⟨b,o+off,none⟩))
 |fn (f:Fn) (first caps:List PV) (vs us:List Value) (hl:first.length=vs.length) (hk:caps.length=us.length)
   (h:∀(i:Nat) p u,first[i]?=some p->vs[i]?=some u->Rep w M p u)
   (hh:∀(i:Nat) p u,caps[i]?=some p->us[i]?=some u->Rep w M p u):Rep w M (.fn f first caps) (.func f vs.toArray us.toArray)
 |tup (cs:List PV) (vs:List Value) (hl:cs.length=vs.length)
   (h:∀(i:Nat) p u,cs[i]?=some p->vs[i]?=some u->Rep w M p u):Rep w M (.tup cs) (.tuple vs.toArray)
 |ifc (t:TypeId) (x:PV) (v:Value) (h:Rep w M x v):Rep w M (.ifc t x) (.iface t v)
 |hd (n:Nat) (a:Option Addr) (c:Nat):Rep w M (.hd n) (.slice a n c)
 |mp (kd:IntKind) (n:Nat) (es:List (List Int×Value)) (b:Nat) (arr:Array MapEntry) (clock:Nat) (hb:w.heap[b]?=some (.map arr clock)) (hm:¬M b 0) (hes:KX kd n es arr):Rep w M (.mp kd n es) (.map (some b))
structure Pres(w:World)(M:Nat->Nat->Prop)(w':World)(M':Nat->Nat->Prop):Prop where
 cell:∀b o v,w.cell? ⟨b,o,none⟩=some v->¬M b o->w'.cell? ⟨b,o,none⟩=some v∧¬M' b o
 map:∀b arr c,w.heap[b]?=some (.map arr c)->¬M b 0->w'.heap[b]?=some (.map arr c)∧¬M' b 0
theorem Rep.mono(hp:Pres w M w' M')(h:Rep w M p u):Rep w' M' p u:=by
 induction h with
 |val v=>exact .val v
 |agg cs vs hl _ ih=>exact .agg cs vs hl ih
 |sl0 a c=>exact .sl0 a c
 |sl xs b o c sz u hcap hs hc _ ih=>exact .sl xs b o c sz u hcap hs (λi x j p hx hj=>hp.cell _ _ _ (hc i x j p hx hj).1 (hc i x j p hx hj).2) ih
 |rptr x b o off u hc _ ih=>exact .rptr x b o off u (λj p hj=>hp.cell _ _ _ (hc j p hj).1 (hc j p hj).2) ih
 |fn f first caps vs us hl hk _ _ ih ih'=>exact .fn f first caps vs us hl hk ih ih'
 |tup cs vs hl _ ih=>exact .tup cs vs hl ih
 |ifc t x v _ ih=>exact .ifc t x v ih
 |hd n a c=>exact .hd n a c
 |mp kd n es b arr clock hb hm hes=>exact .mp kd n es b arr clock (hp.map _ _ _ hb hm).1 (hp.map _ _ _ hb hm).2 hes
theorem Pres.refl(w:World)(M:Nat->Nat->Prop):Pres w M w M:=⟨λ_ _ _ h hm=>⟨h,hm⟩,λ_ _ _ h hm=>⟨h,hm⟩⟩
theorem Pres.trans{w'':World}{M'':Nat->Nat->Prop}(h:Pres w M w' M')(h':Pres w' M' w'' M''):Pres w M w'' M'':=
 ⟨λb o v hc hm=>h'.cell b o v (h.cell b o v hc hm).1 (h.cell b o v hc hm).2,λb o v hc hm=>h'.map b o v (h.map b o v hc hm).1 (h.map b o v hc hm).2⟩
theorem Pres.sub(h:∀b o,M' b o->M b o):Pres w M w M':=⟨λ_ _ _ hc hm=>⟨hc,λhn=>hm (h _ _ hn)⟩,λ_ _ _ hc hm=>⟨hc,λhn=>hm (h _ _ hn)⟩⟩
def cO(w:World)(M:Nat->Nat->Prop)(ps:List PV)(us:List Value):Prop:=
 ps.length=us.length∧∀(i:Nat) p u,ps[i]?=some p->us[i]?=some u->Rep w M p u
theorem cO.nil:cO w M [] []:=⟨rfl,λi p u h=>by simp at h⟩
theorem cO.cons(h:Rep w M p u)(hh:cO w M ps us):cO w M (p::ps) (u::us):=by
 refine⟨by simp[hh.1],λi q v hq hv=>?_⟩
 cases i with
 |zero=>simp at hq hv;subst hq;subst hv;exact h
 |succ i=>exact hh.2 i q v (by simpa using hq) (by simpa using hv)
theorem cO.cons_inv{p:PV}(h:cO w M (p::ps) us):∃u us',us=u::us'∧Rep w M p u∧cO w M ps us':=by
 cases us with
 |nil=>exact absurd h.1 (by simp)
 |cons u us'=>exact⟨u,us',rfl,h.2 0 p u rfl rfl,by have:=h.1;simpa using this,λi q v hq hv=>h.2 (i+1) q v (by simpa using hq) (by simpa using hv)⟩
theorem cO.nil_inv(h:cO w M [] us):us=[]:=by
 cases us with
 |nil=>rfl
 |cons u us=>exact absurd h.1 (by simp)
theorem cO.mono(hp:Pres w M w' M')(h:cO w M ps us):cO w' M' ps us:=
 ⟨h.1,λi p u hp' hu=>(h.2 i p u hp' hu).mono hp⟩
def fg:List PV->Option (List Value)
 |[]=>some []
 |.val v::r=>(fg r).map (v::·)
 |_::_=>none
def iA(cs:List PV):PV:=match fg cs with
 |some vs=>.val (.agg vs.toArray)
 |none=>.agg cs
theorem uI{w:World}{M:Nat->Nat->Prop}:∀{cs:List PV}{vs us:List Value},fg cs=some vs->cO w M cs us->us=vs
 |[],vs,us,h,hr=>by simp[fg]at h;subst h;exact hr.nil_inv
 |.val v::r,vs,us,h,hr=>by
  simp only[fg,Ii]at h;obtain⟨vs',h',rfl⟩:=h;obtain⟨u,us',rfl,hu,hr'⟩:=hr.cons_inv;cases hu;rw[uI h' hr']
 |.agg _::_,_,_,h,_=>by simp[fg]at h
 |.sl _::_,_,_,h,_=>by simp[fg]at h
 |.rptr _ _::_,_,_,h,_=>by simp[fg]at h
 |.fn _ _ _::_,_,_,h,_=>by simp[fg]at h
 |.tup _::_,_,_,h,_=>by simp[fg]at h
 |.ifc _ _::_,_,_,h,_=>by simp[fg]at h
 |.hd _::_,_,_,h,_=>by simp[fg]at h
 |.mp _ _ _::_,_,_,h,_=>by simp[fg]at h
theorem lM{cs:List PV}(h:cO w M cs us):Rep w M (iA cs) (.agg us.toArray):=by
 unfold iA;split
 .rename_i vs hv;rw[uI hv h];exact .val _
 .exact .agg cs us h.1 h.2
theorem Rep.cells(h:Rep w M p u):cO w M p.cells u.cells.toList:=by
 have one:∀{q:PV}{v:Value},Rep w M q v->cO w M [q] [v]:=λhq=>.cons hq .nil
 cases h with
 |val v=>
  refine⟨by simp[PV.cells],λi p u hp hu=>?_⟩;simp only[PV.cells,Is,Ii]at hp;obtain⟨v',hv',rfl⟩:=hp;rw[hv']at hu;injection hu with hu;subst hu;exact .val _
 |agg cs vs hl hh=>exact⟨by simpa[PV.cells,Value.cells]using hl,λi p u hp hu=>hh i p u (by simpa[PV.cells]using hp) (by simpa[Value.cells]using hu)⟩
 |sl0 a c=>exact one (.sl0 a c)
 |sl xs b o c sz u hcap hs hc hr=>exact one (.sl xs b o c sz u hcap hs hc hr)
 |rptr x b o off u hc hr=>exact one (.rptr x b o off u hc hr)
 |fn f first caps vs us hl hk h1 h2=>exact one (.fn f first caps vs us hl hk h1 h2)
 |tup cs vs hl hh=>exact one (.tup cs vs hl hh)
 |ifc t x v h=>exact one (.ifc t x v h)
 |hd n a c=>exact one (.hd n a c)
 |mp kd n es b arr clock hb hm hes=>exact one (.mp kd n es b arr clock hb hm hes)
inductive XV where
 |barr(k n c:Nat)
 |mp(k:Nat)
 |suf(k o n t:Nat)
 deriving Inhabited
def XV.key:XV->Nat
 |.barr k _ _=>k
 |.mp k=>k
 |.suf k _ _ _=>k
inductive AV where
 |pv(p:PV)
 |ptr(k off:Nat)
 |arr(k n:Nat)
 |eptr(k n i off:Nat)
 |agg(cs:List AV)
 |fn(f:Fn)(first caps:List AV)
 |tup(vs:List AV)
 |ext(x:XV)
 |undef
 deriving Inhabited
inductive Blk where
 |box(cs:List AV)(own fz:Bool)
 |row(e sz:Nat)(xs:List PV)(fz:Nat)
 |mp(kd:IntKind)(n:Nat)(es:List (List Int×Value))(fz:Bool)
 deriving Inhabited
structure Loc where
 b:Nat
 cap:Nat
 isNil:Bool
 deriving Inhabited
variable {L L' L'':Nat->Loc}{W:List (Nat×Blk)}{blk:Blk}{cs:List AV}{l:Loc}{x:AV}
def Loc.slice(l:Loc)(n:Nat):Value:=if l.isNil then .slice none 0 0 else .slice (some ⟨l.b,0,none⟩) n l.cap
abbrev Hp:=Nat->Option Blk
inductive RepX(L:Nat->Loc)(h:Hp):XV->Value->Prop
 |barr {k n c:Nat} {cs:List AV} {own fz:Bool} (hc:n<=c) (hk:h k=some (.box cs own fz)):RepX L h (.barr k n c) (.slice (some ⟨(L k).b,0,none⟩) n c)
 |mp {k n:Nat} {kd:IntKind} {es:List (List Int×Value)} {fz:Bool} (hk:h k=some (.mp kd n es fz)):RepX L h (.mp k) (.map (some (L k).b))
 |suf {k o n t e sz fz:Nat} {xs:List PV} {u:Value} (hs:∃A m c,u=.slice A m c) (hk:h k=some (.row e sz xs fz)) (hn:o+n<=t) (ht:t<=xs.length)
   (hu:xs.length=t->∃A c,u=.slice A n c∧(((L k).isNil=false∧A=some ⟨(L k).b,o*sz,none⟩∧c+o=(L k).cap)∨(n=0∧c=0∧(o=0->(L k).isNil=true∧A=none)))):RepX L h (.suf k o n t) u
inductive RepA(w:World)(M:Nat->Nat->Prop)(L:Nat->Loc)(h:Hp):AV->Value->Prop
 |pv {p:PV} {u:Value} (hr:Rep w M p u):RepA w M L h (.pv p) u
 |ptr {k off:Nat} {cs:List AV} {own fz:Bool} (hk:h k=some (.box cs own fz)):RepA w M L h (.ptr k off) (.pointer (some ⟨(L k).b,off,none⟩))
 |arr {k n e sz fz:Nat} {xs:List PV} {u:Value} (hk:h k=some (.row e sz xs fz)) (hn:n<=xs.length) (hu:xs.length=n->u=(L k).slice n):RepA w M L h (.arr k n) u
 |eptr {k n i off e sz fz:Nat} {xs:List PV} {u:Value} (hk:h k=some (.row e sz xs fz)) (hn:n<=xs.length)
   (hu:xs.length=n->(L k).isNil=false∧u=.pointer (some ⟨(L k).b,i*sz+off,none⟩)):RepA w M L h (.eptr k n i off) u
 |agg (cs:List AV) (vs:List Value) (hl:cs.length=vs.length)
   (hh:∀(i:Nat) p u,cs[i]?=some p->vs[i]?=some u->RepA w M L h p u):RepA w M L h (.agg cs) (.agg vs.toArray)
 |fn (f:Fn) (first caps:List AV) (vs us:List Value) (hl:first.length=vs.length) (hk:caps.length=us.length)
   (h1:∀(i:Nat) p u,first[i]?=some p->vs[i]?=some u->RepA w M L h p u)
   (h2:∀(i:Nat) p u,caps[i]?=some p->us[i]?=some u->RepA w M L h p u):RepA w M L h (.fn f first caps) (.func f vs.toArray us.toArray)
 |tup (cs:List AV) (vs:List Value) (hl:cs.length=vs.length)
   (hh:∀(i:Nat) p u,cs[i]?=some p->vs[i]?=some u->RepA w M L h p u):RepA w M L h (.tup cs) (.tuple vs.toArray)
 |ext {x:XV} {u:Value} (hx:RepX L h x u):RepA w M L h (.ext x) u
 |undef (u:Value):RepA w M L h .undef u
variable {h h' h1:Hp}
def eF:Blk->Loc->Blk->Loc->Prop
 |.box _ _ _,l,.box _ _ _,l'=>l'.b=l.b
 |.row e sz xs _,l,.row e' sz' xs' _,l'=>e'=e∧sz'=sz∧xs.length<=xs'.length∧(xs'.length=xs.length->l'=l)
 |.mp kd n _ _,l,.mp kd' n' _ _,l'=>kd'=kd∧n'=n∧l'.b=l.b
 |_,_,_,_=>False
def KC(L:Nat->Loc)(h:Hp)(L':Nat->Loc)(h':Hp):Prop:=∀k blk,h k=some blk->∃blk',h' k=some blk'∧eF blk (L k) blk' (L' k)
theorem dq(blk:Blk)(l:Loc):eF blk l blk l:=by cases blk<;>simp[eF]
theorem KC.refl(L:Nat->Loc)(h:Hp):KC L h L h:=λ_ blk hk=>⟨blk,hk,dq _ _⟩
theorem RepX.mono(hc:KC L h L' h'){x:XV}(hx:RepX L h x u):RepX L' h' x u:=by
 cases hx with
 |@barr k n c cs own fz hc0 hk=>
  obtain⟨blk',h1,h2⟩:=hc k _ hk
  cases blk' with
  |row=>exact h2.elim
  |mp=>exact h2.elim
  |box cs' own' fz'=>have h2:(L' k).b=(L k).b:=h2;rw[<-h2];exact .barr hc0 h1
 |@mp k n kd es fz hk=>
  obtain⟨blk',h1,h2⟩:=hc k _ hk
  cases blk' with
  |row=>exact h2.elim
  |box=>exact h2.elim
  |mp kd' n' es' fz'=>have h2:kd'=kd∧n'=n∧(L' k).b=(L k).b:=h2;rw[<-h2.2.2];exact .mp h1
 |@suf k o n t e sz fz xs u hs0 hk hn ht0 hu=>
  obtain⟨blk',h1,h2⟩:=hc k _ hk
  cases blk' with
  |box=>exact h2.elim
  |mp=>exact h2.elim
  |row e' sz' xs' fz'=>
   obtain⟨_,e1,e2,e3⟩:=h2;refine .suf hs0 h1 hn (by omega) (λe=>?_)
   have:xs'.length=xs.length:=by omega
   rw[e3 this,e1];exact hu (by omega)
theorem RepA.mono(hp:Pres w M w' M')(hc:KC L h L' h')
 (hx:RepA w M L h x u):RepA w' M' L' h' x u:=by
 induction hx with
 |pv hr=>exact .pv (hr.mono hp)
 |@ptr k off cs own fz hk=>
  obtain⟨blk',h1,h2⟩:=hc k _ hk
  cases blk' with
  |row=>exact h2.elim
  |mp=>exact h2.elim
  |box cs' own' fz'=>have h2:(L' k).b=(L k).b:=h2;rw[<-h2];exact .ptr h1
 |@arr k n e sz fz xs u hk hn hu=>
  obtain⟨blk',h1,h2⟩:=hc k _ hk
  cases blk' with
  |box=>exact h2.elim
  |mp=>exact h2.elim
  |row e' sz' xs' fz'=>
   obtain⟨_,e1,e2,e3⟩:=h2;refine .arr h1 (by omega) (λe=>?_)
   have:xs'.length=xs.length:=by omega
   rw[e3 this];exact hu (by omega)
 |@eptr k n i off e sz fz xs u hk hn hu=>
  obtain⟨blk',h1,h2⟩:=hc k _ hk
  cases blk' with
  |box=>exact h2.elim
  |mp=>exact h2.elim
  |row e' sz' xs' fz'=>
   obtain⟨_,e1,e2,e3⟩:=h2;refine .eptr h1 (by omega) (λe=>?_)
   have:xs'.length=xs.length:=by omega
   rw[e3 this,e1];exact hu (by omega)
 |agg cs vs hl _ ih=>exact .agg cs vs hl ih
 |fn f first caps vs us hl hk _ _ ih ih'=>exact .fn f first caps vs us hl hk ih ih'
 |tup cs vs hl _ ih=>exact .tup cs vs hl ih
 |ext hx=>exact .ext (hx.mono hc)
 |undef u=>exact .undef u
def aK(w:World)(M:Nat->Nat->Prop)(L:Nat->Loc)(h:Hp)(ps:List AV)(us:List Value):Prop:=
 ps.length=us.length∧∀(i:Nat) p u,ps[i]?=some p->us[i]?=some u->RepA w M L h p u
section
variable {w:World} {M:Nat->Nat->Prop} {L:Nat->Loc} {h:Hp}
theorem aK.nil:aK w M L h [] []:=⟨rfl,λi p u h=>by simp at h⟩
theorem aK.cons{p:AV}{ps:List AV}(h1:RepA w M L h p u)(hh:aK w M L h ps us):aK w M L h (p::ps) (u::us):=by
 refine⟨by simp[hh.1],λi q v hq hv=>?_⟩
 cases i with
 |zero=>simp at hq hv;subst hq;subst hv;exact h1
 |succ i=>exact hh.2 i q v (by simpa using hq) (by simpa using hv)
theorem aK.cons_inv{p:AV}{ps:List AV}(h1:aK w M L h (p::ps) us):∃u us',us=u::us'∧RepA w M L h p u∧aK w M L h ps us':=by
 cases us with
 |nil=>exact absurd h1.1 (by simp)
 |cons u us'=>exact⟨u,us',rfl,h1.2 0 p u rfl rfl,by have:=h1.1;simpa using this,λi q v hq hv=>h1.2 (i+1) q v (by simpa using hq) (by simpa using hv)⟩
theorem aK.nil_inv(h1:aK w M L h [] us):us=[]:=by
 cases us with
 |nil=>rfl
 |cons u us=>exact absurd h1.1 (by simp)
theorem aK.append{ps qs:List AV}(h1:aK w M L h ps us)(h2:aK w M L h qs vs):aK w M L h (ps++qs) (us++vs):=by
 refine⟨by simp[h1.1,h2.1],λi p u hp hu=>?_⟩;by_cases hi:i<ps.length
 .rw[Iz hi]at hp
  rw[Iz (by have:=h1.1;omega)]at hu;exact h1.2 i p u hp hu
 .rw[IN (by omega)]at hp
  rw[IN (by have:=h1.1;omega)]at hu;refine h2.2 _ p u hp ?_;rw[h1.1];exact hu
theorem aK.map_pv(h1:cO w M ps us):aK w M L h (ps.map .pv) us:=by
 refine⟨by simpa using h1.1,λi p u hp hu=>?_⟩;simp only[Is,Ii]at hp;obtain⟨q,hq,rfl⟩:=hp;exact .pv (h1.2 i q u hq hu)
theorem aK.map_pv_inv(h1:aK w M L h (ps.map .pv) us):cO w M ps us:=by
 refine⟨by simpa using h1.1,λi p u hp hu=>?_⟩;have:=h1.2 i (.pv p) u (by simp[hp]) hu;cases this;assumption
end
def AV.cells:AV->List AV
 |.pv p=>p.cells.map .pv
 |.agg cs=>cs
 |x=>[x]
def lB:List AV->Option (List PV)
 |[]=>some []
 |.pv p::r=>(lB r).map (p::·)
 |_::_=>none
def tW(cs:List AV):AV:=match lB cs with
 |some ps=>.pv (iA ps)
 |none=>.agg cs
theorem qb:∀{cs:List AV}{ps:List PV},lB cs=some ps->cs=ps.map .pv
 |[],ps,h=>by simp[lB]at h;subst h;rfl
 |.pv p::r,ps,h=>by
  simp only[lB,Ii]at h;obtain⟨ps',h',rfl⟩:=h;rw[qb h'];rfl
 |.ptr _ _::_,_,h=>by simp[lB]at h
 |.arr _ _::_,_,h=>by simp[lB]at h
 |.eptr _ _ _ _::_,_,h=>by simp[lB]at h
 |.agg _::_,_,h=>by simp[lB]at h
 |.fn _ _ _::_,_,h=>by simp[lB]at h
 |.tup _::_,_,h=>by simp[lB]at h
 |.ext _::_,_,h=>by simp[lB]at h
 |.undef::_,_,h=>by simp[lB]at h
theorem tF(h1:aK w M L h cs us):RepA w M L h (tW cs) (.agg us.toArray):=by
 unfold tW;split
 .rename_i ps hp
  rw[qb hp]at h1;exact .pv (lM h1.map_pv_inv)
 .exact .agg cs us h1.1 h1.2
theorem RepA.cells(hx:RepA w M L h x u)(hne:x≠.undef):aK w M L h x.cells u.cells.toList∨(∃k n,x=.arr k n)∨(∃k n i o,x=.eptr k n i o):=by
 have one:∀{q:AV}{v:Value},RepA w M L h q v->aK w M L h [q] [v]:=λhq=>.cons hq .nil
 cases hx with
 |pv hr=>exact .inl (aK.map_pv hr.cells)
 |ptr hk=>exact .inl (one (.ptr hk))
 |arr=>exact .inr (.inl ⟨_,_,rfl⟩)
 |eptr=>exact .inr (.inr ⟨_,_,_,_,rfl⟩)
 |agg cs vs hl hh=>exact .inl ⟨by simpa[AV.cells,Value.cells]using hl,λi p u hp hu=>hh i p u (by simpa[AV.cells]using hp) (by simpa[Value.cells]using hu)⟩
 |fn f first caps vs us hl hk h1 h2=>exact .inl (one (.fn f first caps vs us hl hk h1 h2))
 |tup cs vs hl hh=>exact .inl (one (.tup cs vs hl hh))
 |ext hx=>
  refine .inl ?_
  have e:u.cells.toList=[u]:=by
   cases hx with
   |suf hs0 _ _ _ _=>obtain⟨_,_,_,rfl⟩:=hs0;rfl
   |_=>rfl
  rw[e];exact one (.ext hx)
 |undef=>exact absurd rfl hne
def ai(f:Nat->α)(k:Nat)(v:α):Nat->α:=λn=>if n=k then v else f n
theorem aN(f:Nat->α)(k:Nat)(v:α):ai f k v k=v:=by simp[ai]
theorem bU{f:Nat->α}{v:α}(h:n≠k):ai f k v n=f n:=by simp[ai,h]
structure Ext(S:Nat->Prop)(w w':World):Prop where
 os:w'.os=w.os
 tape:w'.tape=w.tape
 output:w'.output=w.output
 size:w.heap.size<=w'.heap.size
 block:∀b,b<w.heap.size->¬S b->w'.heap[b]?=w.heap[b]?
theorem Ext.refl(S:Nat->Prop)(w:World):Ext S w w:=⟨rfl,rfl,rfl,IX _,λ_ _ _=>rfl⟩
theorem Ext.trans{S':Nat->Prop}{a b c:World}(h:Ext S a b)(k:Ext S' b c)(hs:∀x,x<a.heap.size->S' x->S x):Ext S a c:=
 ⟨k.os.trans h.os,k.tape.trans h.tape,k.output.trans h.output,SN h.size k.size,
   λi hi hn=>(k.block i (Ny hi h.size) (λhs'=>hn (hs i hi hs'))).trans (h.block i hi hn)⟩
theorem Ext.cell(h:Ext S w w')(hb:b<w.heap.size)(hs:¬S b):w'.cell? ⟨b,o,none⟩=w.cell? ⟨b,o,none⟩:=by
 simp only[World.cell?,h.block b hb hs]
theorem Ext.alloc(S:Nat->Prop)(w:World)(o:Obj):Ext S w (w.alloc o):=
 ⟨rfl,rfl,rfl,by simp,λb hb _=>RowKit.Below.heap_alloc w o b hb⟩
theorem Ext.drew(S:Nat->Prop)(w:World):Ext S w w.drew:=⟨rfl,rfl,rfl,IX _,λ_ _ _=>rfl⟩
structure Cx where
 P:Program
 N:Nat
 M0:Nat->Nat->Prop
 S:Nat->Prop
 pb:Nat->Option Nat
 pr:Nat->Option Loc:=λ_=>none
 hpr:∀k,k<2000000->pr k=none:=by intros;rfl
 w0:World
variable {C:Cx}
def Blk.live:Blk->Loc->Prop
 |.box _ _ _,_=>True
 |.row _ _ _ _,l=>l.isNil=false
 |.mp _ _ _ _,_=>True
def Blk.frz:Blk->Nat->Prop
 |.box _ _ fz,_=>fz=true
 |.row _ sz _ fz,o=>o<fz*sz
 |.mp _ _ _ fz,_=>fz=true
def af(C:Cx)(L:Nat->Loc)(h:Hp)(b o:Nat):Prop:=C.M0 b o∨∃k blk,h k=some blk∧blk.live (L k)∧(L k).b=b∧¬blk.frz o
def dW(w:World)(M:Nat->Nat->Prop)(L:Nat->Loc)(h:Hp)(l:Loc):Blk->Prop
 |.box cs _ _=>∃arr ty,w.heap[l.b]?=some (.cells arr ty (0,0))∧aK w M L h cs arr.toList
 |.row e sz xs fz=>0<sz∧fz<=xs.length∧(∀x∈xs,x.cells.length=sz)∧(l.isNil=true->xs=[])∧
   (l.isNil=false->xs.length<=l.cap∧l.cap<=maxLen∧∃arr,w.heap[l.b]?=some (.cells arr e (0,0))∧arr.size=l.cap*sz∧
     ∀(i:Nat) x(j:Nat) p,xs[i]?=some x->x.cells[j]?=some p->∃u,arr[i*sz+j]?=some u∧Rep w M p u)
 |.mp kd n es _=>∃arr clock,w.heap[l.b]?=some (.map arr clock)∧KX kd n es arr
def fC(C:Cx)(k:Nat)(l:Loc):Blk->Prop
 |.box _ false fz=>fz=false∧C.pb k=some l.b∧C.S l.b∧l.b<C.w0.heap.size∧∀o,C.M0 l.b o
 |.box _ true _=>C.w0.heap.size<=l.b∨(C.S l.b∧∀o,¬C.M0 l.b o)
 |.row _ _ _ _=>match C.pr k with
  |some l0=>l=l0∧(l.isNil=false->C.S l.b∧∀o,¬C.M0 l.b o)
  |none=>l.isNil=false->C.w0.heap.size<=l.b∨(C.S l.b∧∀o,¬C.M0 l.b o)
 |.mp _ _ _ _=>C.w0.heap.size<=l.b
theorem fC.row(h:fC C k l (.row e sz xs fz))(hn:l.isNil=false):C.w0.heap.size<=l.b∨(C.S l.b∧∀o,¬C.M0 l.b o):=by
 grind [fC]
theorem fC.mkRow(hk:k<2000000)(h:l.isNil=false->C.w0.heap.size<=l.b):fC C k l (.row e sz xs fz):=by
 simp only[fC,C.hpr k hk]
 grind
structure MemL(C:Cx)(L:Nat->Loc)(h:Hp)(w:World):Prop where
 ext:Ext C.S C.w0 w
 m0:∀b o,C.M0 b o->b<C.w0.heap.size
 bl:∀k blk,h k=some blk->dW w (af C L h) L h (L k) blk
 sep:∀k k' blk blk',k≠k'->h k=some blk->h k'=some blk'->blk.live (L k)->blk'.live (L k')->(L k).b≠(L k').b
 own:∀k blk,h k=some blk->fC C k (L k) blk
theorem dW.lt(hb:dW w M L h l blk)(hl:blk.live l):l.b<w.heap.size:=by
 have aux:∀{o:Obj},w.heap[l.b]?=some o->l.b<w.heap.size:=λ{o} e=>by
  grind
 cases blk with
 |box cs own fz=>obtain⟨arr,ty,e,_⟩:=hb;exact aux e
 |row e sz xs fz=>obtain⟨_,_,_,_,h5⟩:=hb;obtain⟨_,_,arr,e,_⟩:=h5 hl;exact aux e
 |mp kd n es fz=>obtain⟨arr,c,e,_⟩:=hb;exact aux e
theorem MemL.mlt(hm:MemL C L h w)(hb:af C L h b o):b<w.heap.size:=by
 rcases hb with hb|⟨k,blk,hk,hl,rfl,_⟩
 .exact Ny (hm.m0 b o hb) hm.ext.size
 .exact(hm.bl k blk hk).lt hl
theorem xy{o:Obj}(e:w.heap[b]?=some o):b<w.heap.size:=by
 grind
theorem Pres.ext(hx:Ext S w w')(hs:∀b,b<w.heap.size->S b->∀o,M b o)(hM:∀b o,b<w.heap.size->M' b o->M b o):Pres w M w' M':=by
 have ns:∀b o,b<w.heap.size->¬M b o->¬S b:=λb o hb hn h=>hn (hs b hb h o);refine⟨λb o v hc hn=>?_,λb arr c hc hn=>?_⟩
 .have hlt:=World.block_lt_of_cell? w ⟨b,o,none⟩ hc
  exact⟨(hx.cell hlt (ns b o hlt hn)).trans hc,λh=>hn (hM b o hlt h)⟩
 .have hlt:=xy hc
  exact⟨(hx.block b hlt (ns b 0 hlt hn)).trans hc,λh=>hn (hM b 0 hlt h)⟩
theorem AS(h:w.cell? ⟨b,o,none⟩=some v):b<w.heap.size:=World.block_lt_of_cell? w ⟨b,o,none⟩ h
theorem dW.mono(hb:dW w M L h l blk)(hp:Pres w M w' M')(hc:KC L h L' h')
 (he:blk.live l->w'.heap[l.b]?=w.heap[l.b]?):dW w' M' L' h' l blk:=by
 cases blk with
 |box cs own fz=>
  obtain⟨arr,ty,e,hl,hr⟩:=hb;exact⟨arr,ty,(he trivial).trans e,hl,λi p u h1 h2=>(hr i p u h1 h2).mono hp hc⟩
 |row et sz xs fz=>
  obtain⟨h1,h2,h3,h4,h5⟩:=hb;refine⟨h1,h2,h3,h4,λhn=>?_⟩;obtain⟨h6,h6',arr,e,h7,h8⟩:=h5 hn;refine⟨h6,h6',arr,(he hn).trans e,h7,λi x j p hx hj=>?_⟩;obtain⟨u,hu,hr⟩:=h8 i x j p hx hj;exact⟨u,hu,hr.mono hp⟩
 |mp kd n es fz=>
  obtain⟨arr,c,e,h1⟩:=hb;exact⟨arr,c,(he trivial).trans e,h1⟩
theorem dW.same{l':Loc}(hb:dW w M L h l blk)
 (e1:w=w')(e2:M=M')(e3:L=L')(e4:h=h')(e5:l=l'):dW w' M' L' h' l' blk:=by subst e1;subst e2;subst e3;subst e4;subst e5;exact hb
theorem KC.trans{h'':Hp}(a:KC L h L' h')(b:KC L' h' L'' h''):KC L h L'' h'':=by
 intro k blk hk;obtain⟨blk',h1,h2⟩:=a k blk hk;obtain⟨blk'',h3,h4⟩:=b k blk' h1;refine⟨blk'',h3,?_⟩;cases blk<;>cases blk'<;>cases blk''<;>simp only[eF]at h2 h4|-
 all_goals grind
theorem KC.new(hd:h d=none):KC L h (ai L d l) (ai h d (some blk)):=by
 intro k b hk
 grind [bU,dq]
theorem MemL.newKey(hm:MemL C L h w)(hd:h d=none)(hd2:d<2000000)(hx:Ext (λ_=>False) w w')
 (hown:blk.live l->w.heap.size<=l.b)(hown2:∀cs fz,blk≠.box cs false fz)
 (hb:dW w' (λb o=>af C L h b o∨(blk.live l∧b=l.b)) (ai L d l) (ai h d (some blk)) l blk):
 MemL C (ai L d l) (ai h d (some blk)) w'∧Pres w (af C L h) w' (af C (ai L d l) (ai h d (some blk)))∧KC L h (ai L d l) (ai h d (some blk)):=by
 have hkc:KC L h (ai L d l) (ai h d (some blk)):=KC.new hd
 have hM:∀b o,af C (ai L d l) (ai h d (some blk)) b o->af C L h b o∨(blk.live l∧b=l.b):=by
  rintro b o (h0|⟨k,blk',hk,hl,hb',hf⟩)
  .exact .inl (.inl h0)
  .by_cases e:k=d
   .grind [aN]
   .rw[bU e]at hk hl hb'
    exact .inl (.inr ⟨k,blk',hk,hl,hb',hf⟩)
 have hpres:Pres w (af C L h) w' (af C (ai L d l) (ai h d (some blk))):=by
  refine Pres.ext hx (λ_ _ h=>h.elim) λb o hlt hM'=>?_
  grind
 refine⟨⟨hm.ext.trans hx (λ_ _ h=>h.elim),hm.m0,?_,?_,?_⟩,hpres,hkc⟩
 .intro k blk' hk
  by_cases e:k=d
  .subst e
   rw[aN]at hk|-;injection hk with hk;subst hk;exact hb.mono (Pres.sub hM) (KC.refl _ _) (λ_=>rfl)
  .rw[bU e]at hk|-
   exact(hm.bl k blk' hk).mono hpres hkc (λhl=>hx.block _ ((hm.bl k blk' hk).lt hl) (λh=>h))
 .intro k k' b1 b2 hne hk hk' hl hl'
  by_cases e:k=d
  .subst e
   have e':k'≠k:=λe=>hne e.symm;rw[bU e']at hk' hl'|-;rw[aN]at hk hl|-;injection hk with hk;subst hk;have:=(hm.bl k' b2 hk').lt hl'
   grind
  .rw[bU e]at hk hl|-
   by_cases e':k'=d
   .subst e'
    rw[aN]at hk' hl'|-;injection hk' with hk';subst hk';have:=(hm.bl k b1 hk).lt hl
    grind
   .rw[bU e']at hk' hl'|-
    exact hm.sep k k' b1 b2 hne hk hk' hl hl'
 .intro k blk' hk
  by_cases e:k=d
  .subst e
   rw[aN]at hk|-;injection hk with hk;subst hk;have:=hm.ext.size
   cases blk with
   |box cs own fz=>
    cases own with
    |false=>exact absurd rfl (hown2 cs fz)
    |true=>have:=hown trivial;exact .inl (by omega)
   |row e sz xs fz=>exact fC.mkRow hd2 (λhl=>by have:=hown hl;omega)
   |mp kd n es fz=>have:=hown trivial;simp only[fC];omega
  .rw[bU e]at hk|-
   exact hm.own k blk' hk
theorem MemL.touch(hm:MemL C L h w){blk':Blk}(hk:h k=some blk)
 (hw:∀b,b<w.heap.size->(blk.live (L k)->b≠(L k).b)->w'.heap[b]?=w.heap[b]?)(hsz:w.heap.size<=w'.heap.size)(hos:w'.os=w.os)(htp:w'.tape=w.tape)(hout:w'.output=w.output)
 (hpr:∀o v,blk.live (L k)->blk.frz o->w.cell? ⟨(L k).b,o,none⟩=some v->w'.cell? ⟨(L k).b,o,none⟩=some v)(hfr:∀o,blk.frz o->blk'.frz o)(hcp:eF blk (L k) blk' (L k))
 (hlv:blk'.live (L k)↔blk.live (L k))(hown:fC C k (L k) blk')
 (hb:dW w' (af C L (ai h k (some blk'))) L (ai h k (some blk')) (L k) blk')(hnm:∀kd n es,blk≠.mp kd n es true:=by intro _ _ _ h;cases h):
 MemL C L (ai h k (some blk')) w'∧Pres w (af C L h) w' (af C L (ai h k (some blk')))∧KC L h L (ai h k (some blk')):=by
 have hkc:KC L h L (ai h k (some blk')):=by
  intro q b hq;by_cases e:q=k
  .subst e;rw[hk]at hq;injection hq with hq;subst hq;exact⟨blk',aN _ _ _,hcp⟩
  .exact⟨b,by rw[bU e];exact hq,dq _ _⟩
 have hM:∀b o,af C L (ai h k (some blk')) b o->af C L h b o:=by
  rintro b o (h0|⟨q,b',hq,hl,hb',hf⟩)
  .exact .inl h0
  .by_cases e:q=k
   .subst e
    rw[aN]at hq;injection hq with hq;subst hq;exact .inr ⟨q,blk,hk,hlv.1 hl,hb',λhff=>hf (hfr o hff)⟩
   .rw[bU e]at hq
    exact .inr ⟨q,b',hq,hl,hb',hf⟩
 have hpres:Pres w (af C L h) w' (af C L (ai h k (some blk'))):=by
  refine⟨?_,λb arr c hc hn=>⟨?_,λhM'=>hn (hM b 0 hM')⟩⟩
  case refine_2=>
   have hlt:=xy hc;by_cases hl:blk.live (L k)
   .by_cases e:b=(L k).b
    .subst e
     have hr:=hm.bl k blk hk
     cases blk with
     |box cs own fz=>obtain⟨_,_,e,_⟩:=hr;rw[e]at hc;cases hc
     |row e sz xs fz=>obtain⟨_,_,_,_,h5⟩:=hr;obtain⟨_,_,_,e,_⟩:=h5 hl;rw[e]at hc;cases hc
     |mp kd n es fz=>
      cases fz with
      |true=>exact absurd rfl (hnm kd n es)
      |false=>exact absurd (Or.inr ⟨k,_,hk,hl,rfl,by simp[Blk.frz]⟩) hn
    .rw[hw b hlt (λ_=>e)];exact hc
   .rw[hw b hlt (λhl'=>absurd hl' hl)];exact hc
  intro b o v hc hn;have hlt:=AS hc;refine⟨?_,λhM'=>hn (hM b o hM')⟩;by_cases hl:blk.live (L k)
  .by_cases e:b=(L k).b
   .subst e
    by_cases hf:blk.frz o
    .exact hpr o v hl hf hc
    .exact absurd (Or.inr ⟨k,blk,hk,hl,rfl,hf⟩) hn
   .simp only[World.cell?,hw b hlt (λ_=>e)]at hc|-;exact hc
  .simp only[World.cell?,hw b hlt (λhl'=>absurd hl' hl)]at hc|-;exact hc
 refine⟨⟨?_,hm.m0,?_,?_,?_⟩,hpres,hkc⟩
 .refine⟨hos.trans hm.ext.os,htp.trans hm.ext.tape,hout.trans hm.ext.output,SN hm.ext.size hsz,λb hb' hS=>?_⟩
  rw[hw b (Ny hb' hm.ext.size),hm.ext.block b hb' hS];rintro hl rfl;have h1:=hm.own k blk hk
  cases blk with
  |box cs own fz=>
   cases own with
   |false=>exact hS h1.2.2.1
   |true=>rcases h1 with h2|h2
          .omega
          .exact hS h2.1
  |row e sz xs fz=>
   rcases h1.row hl with h2|h2
   all_goals grind
  |mp kd n es fz=>simp only[fC]at h1;omega
 .intro q b' hq
  by_cases e:q=k
  .grind [aN]
  .rw[bU e]at hq
   exact(hm.bl q b' hq).mono hpres hkc (λhl=>hw _ ((hm.bl q b' hq).lt hl) (λhl' e'=>hm.sep q k b' blk e hq hk hl hl' e'))
 .intro q q' b1 b2 hne hq hq' hl hl'
  by_cases e:q=k
  .subst e
   rw[aN]at hq;injection hq with hq;subst hq;rw[bU (λe=>hne e.symm)]at hq';exact hm.sep q q' blk b2 hne hk hq' (hlv.1 hl) hl'
  .rw[bU e]at hq
   by_cases e':q'=k
   .subst e'
    rw[aN]at hq';injection hq' with hq';subst hq';exact hm.sep q q' b1 blk hne hq hk hl (hlv.1 hl')
   .rw[bU e']at hq'
    exact hm.sep q q' b1 b2 hne hq hq' hl hl'
 .intro q b' hq
  by_cases e:q=k
  .grind [aN]
  .rw[bU e]at hq;exact hm.own q b' hq
theorem MemL.move(hm:MemL C L h w){et:Nat}{xs':List PV}(hk:h k=some (.row et sz xs fz))(hk2:k<2000000)(hx:Ext (λ_=>False) w w'){l':Loc}
 (hown:l'.isNil=false∧w.heap.size<=l'.b)(hlen:xs.length<xs'.length)
 (hb:dW w' (λb o=>af C L h b o∨b=l'.b) (ai L k l') (ai h k (some (.row et sz xs' fz))) l' (.row et sz xs' fz)):
 MemL C (ai L k l') (ai h k (some (.row et sz xs' fz))) w'∧Pres w (af C L h) w' (af C (ai L k l') (ai h k (some (.row et sz xs' fz))))∧KC L h (ai L k l') (ai h k (some (.row et sz xs' fz))):=by
 have hkc:KC L h (ai L k l') (ai h k (some (.row et sz xs' fz))):=by
  intro q b hq;by_cases e:q=k
  .subst e;rw[hk]at hq;injection hq with hq;subst hq
   exact⟨_,aN _ _ _,rfl,rfl,by omega,λe=>by omega⟩
  grind [bU,dq]
 have hM:∀b o,af C (ai L k l') (ai h k (some (.row et sz xs' fz))) b o->af C L h b o∨b=l'.b:=by
  rintro b o (h0|⟨q,b',hq,hl,hb',hf⟩)
  .exact .inl (.inl h0)
  .by_cases e:q=k
   .grind [aN]
   .rw[bU e]at hq hl hb';exact .inl (.inr ⟨q,b',hq,hl,hb',hf⟩)
 have hpres:Pres w (af C L h) w' (af C (ai L k l') (ai h k (some (.row et sz xs' fz)))):=by
  refine Pres.ext hx (λ_ _ h=>h.elim) λb o hlt hM'=>?_
  grind
 refine⟨⟨hm.ext.trans hx (λ_ _ h=>h.elim),hm.m0,?_,?_,?_⟩,hpres,hkc⟩
 .intro q b' hq
  by_cases e:q=k
  .subst e
   rw[aN]at hq|-;injection hq with hq;subst hq;exact hb.mono (Pres.sub hM) (KC.refl _ _) (λ_=>rfl)
  .rw[bU e]at hq|-
   exact(hm.bl q b' hq).mono hpres hkc (λhl=>hx.block _ ((hm.bl q b' hq).lt hl) (λh=>h))
 .intro q q' b1 b2 hne hq hq' hl hl'
  by_cases e:q=k
  .subst e
   have e':q'≠q:=λe=>hne e.symm;rw[bU e']at hq' hl'|-;rw[aN]at hl|-;have:=(hm.bl q' b2 hq').lt hl';omega
  .rw[bU e]at hq hl|-
   by_cases e':q'=k
   .subst e'
    rw[aN]at hl'|-;have:=(hm.bl q b1 hq).lt hl;omega
   .rw[bU e']at hq' hl'|-
    exact hm.sep q q' b1 b2 hne hq hq' hl hl'
 .intro q b' hq
  have:=hm.ext.size;by_cases e:q=k
  .grind [aN,fC.mkRow]
  .rw[bU e]at hq|-;exact hm.own q b' hq
theorem MemL.grow(hm:MemL C L h w)(hx:Ext (λ_=>False) w w'):MemL C L h w'∧Pres w (af C L h) w' (af C L h):=by
 have hpres:Pres w (af C L h) w' (af C L h):=Pres.ext hx (λ_ _ h=>h.elim) λ_ _ _ h=>h;exact⟨⟨hm.ext.trans hx (λ_ _ h=>h.elim),hm.m0,λk blk hk=>(hm.bl k blk hk).mono hpres (KC.refl _ _) (λhl=>hx.block _ ((hm.bl k blk hk).lt hl) (λh=>h)),hm.sep,hm.own⟩,hpres⟩
inductive TK where
 |one
 |struct(fs:List (Nat×Nat))
 |array(len esz:Nat)
 |slice(e esz ebytes:Nat)(ezero:Option Value)
structure TI where
 size:Nat
 zero:Option Value
 kind:TK
variable {ti:TI}
def oY(P:Program)(t:TypeId):Nat:=((P.info? t).map (·.size)).getD 0
def mO(P:Program)(t:TypeId):Bool:=match P.underlying t with
 |some (.struct fs)=>fs.toList.all λf=>(P.info? f.type).isSome
 |some (.array _ e)=>(P.info? e).isSome
 |_=>true
def ao(P:Program)(t:TypeId):Option TI:=
 if mO P t=false then none else
 match P.info? t,P.underlying t with
 |some i,some d=>some {size:=i.size,zero:=i.zero,kind:=match d with
   |.struct fs=>.struct (fs.toList.map λf=>(f.offset,oY P f.type))
   |.array n e=>.array n (oY P e)
   |.slice e=>match P.info? e with
    |some j=>.slice e j.size j.bytes j.zero
    |none=>.one
   |_=>.one}
 |_,_=>none
def Jb(P:Program)(t:TypeId):Option (IntKind×Nat×TypeId):=match P.underlying t with
 |some (.map kt et)=>match P.underlying kt with
  |some (.array n e)=>match P.underlying e,P.info? e with
   |some (.int kd),some j=>if j.size=1 then some (kd,n,et)else none
   |_,_=>none
  |_=>none
 |_=>none
def CP(kd:IntKind):List Value->Option (List Int)
 |[]=>some []
 |.int k i::r=>if k=kd then(CP kd r).map (i::·)else none
 |_::_=>none
def CQ(kd:IntKind)(n:Nat):AV->Option (List Int)
 |.pv (.val (.agg cs))=>match CP kd cs.toList with
  |some is=>if is.length=n then some is else none
  |none=>none
 |_=>none
def MO:List (List Int×Value)->List Int->Option Value
 |[],_=>none
 |(k,v)::r,is=>if k=is then some v else MO r is
def MP:List (List Int×Value)->List Int->Value->List (List Int×Value)
 |[],is,u=>[(is,u)]
 |(k,v)::r,is,u=>if k=is then(is,u)::r else(k,v)::MP r is u
def TK.isAgg:TK->Bool
 |.struct _|.array _ _=>true
 |_=>false
def aq{α:Type}(P:Program):Sem α->Option α
 |.pure a=>some a
 |.program k=>aq P (k P)
 |_=>none
def xA:AV->List Nat
 |.ptr k _|.arr k _|.eptr k _ _ _=>[k]
 |.ext x=>[x.key]
 |_=>[]
def MQ:AV->List Nat
 |.agg cs=>cs.flatMap xA
 |.fn _ f c=>(f++c).flatMap xA
 |.tup vs=>vs.flatMap xA
 |x=>xA x
abbrev dl:=AV×List (Nat×Blk)
def mP:Value->Bool
 |.slice none 0 0=>true
 |_=>false
def od:AV->Bool
 |.pv (.val v)=>mP v
 |_=>false
def xD:PV->PV
 |.val v=>if mP v then .sl []else .val v
 |p=>p
def CR(v:Value):Bool:=match v with
 |.agg cs=>cs.toList.any mP
 |_=>false
def F8(p:PV):PV:=match p with
 |.val v=>if mP v then .sl []else if CR v then iA (p.cells.map xD)else .val v
 |.agg cs=>iA (cs.map xD)
 |p=>p
def qc:PV->Bool
 |.agg _=>true
 |.val (.agg _)=>true
 |_=>false
def lC:PV->Bool
 |.val v=>v.oneCell'
 |.agg _=>false
 |.tup _=>false
 |_=>true
def wu(h:Hp):AV->Bool
 |.pv p=>lC p
 |.ptr _ _=>true
 |.arr k n=>match h k with
  |some (.row _ _ xs _)=>xs.length==n
  |_=>false
 |.fn _ _ _=>true
 |.ext _=>true
 |_=>false
def qR(esz:Nat)(y:PV):Bool:=y.cells.length==esz&&y.cells.all lC
def gq(h:Hp):AV->Option (List AV×Nat)
 |.ptr k off=>match h k with
  |some (.box cs _ _)=>some (cs,off)
  |_=>none
 |.pv (.rptr x off)=>some (x.cells.map .pv,off)
 |.eptr k n i off=>match h k with
  |some (.row _ _ xs _)=>if xs.length=n then(match xs[i]? with
   |some x=>some (x.cells.map .pv,off)
   |none=>none)else none
  |_=>none
 |_=>none
def zS(h:Hp)(sz:Nat):AV->Option PV
 |.pv (.rptr x 0)=>if qc x&&x.cells.length==sz then some x else none
 |.eptr k n i 0=>match h k with
  |some (.row _ _ xs _)=>if xs.length=n then(match xs[i]? with
   |some x=>if qc x&&x.cells.length==sz then some x else none
   |none=>none)else none
  |_=>none
 |_=>none
def wv(ti:TI)(x:AV)(h:Hp):Option AV:=
 if ti.kind.isAgg then
  match zS h ti.size x with
  |some p=>some (.pv p)
  |none=>match gq h x with
   |some (cs,off)=>if off+ti.size<=cs.length then some (tW ((cs.drop off).take ti.size))else none
   |none=>none
 else match gq h x with
  |some (cs,off)=>cs[off]?
  |none=>none
def iQ(h:Hp):AV->Option (List AV)
 |.undef=>none
 |.eptr _ _ _ _=>none
 |.arr k n=>match h k with
  |some (.row _ _ xs _)=>if xs.length=n then some [.arr k n]else none
  |_=>none
 |x=>some x.cells
def dC(cs:List α)(off:Nat)(vs:List α):List α:=cs.take off++vs++cs.drop (off+vs.length)
def lN(h:Hp):AV->Option (PV×List (Nat×Blk))
 |.pv p=>some (F8 p,[])
 |.arr k n=>match h k with
  |some (.row e sz xs _)=>if xs.length=n then some (.sl xs,[(k,.row e sz xs xs.length)])else none
  |_=>none
 |.ext (.mp k)=>match h k with
  |some (.mp kd n es _)=>some (.mp kd n es,[(k,.mp kd n es true)])
  |_=>none
 |_=>none
def ni(h:Hp):List AV->Option (List PV×List (Nat×Blk))
 |[]=>some ([],[])
 |x::r=>match lN h x,ni h r with
  |some (p,W),some (ps,W')=>some (p::ps,W++W')
  |_,_=>none
def tG(h:Hp):AV->Option (PV×List (Nat×Blk))
 |.ext (.barr k n _)=>match h k with
  |some (.box cs true _)=>if cs.length=n then(match ni h cs with
   |some (ps,W)=>if ps.all lC=true then some (.sl ps,W++[(k,.box cs true true)])else none
   |none=>none)else if n<=cs.length then(match ni h cs with
   |some (ps,W)=>if ps.all lC=true then some (.sl (ps.take n),W++[(k,.box cs true true)])else none
   |none=>none)else none
  |_=>none
 |x=>lN h x
def qG(h:Hp):List AV->Option (List PV×List (Nat×Blk))
 |[]=>some ([],[])
 |x::r=>match tG h x,qG h r with
  |some (p,W),some (ps,W')=>some (p::ps,W++W')
  |_,_=>none
def jT:List PV->Bool
 |[p]=>lC p
 |_=>false
def rU(h:Hp):AV->Option (PV×List (Nat×Blk))
 |.pv p=>some (p,[])
 |.ptr k 0=>match h k with
  |some (.box cs true _)=>match lB cs with
   |some ps=>if jT ps=true then some (.rptr (ps.headD default) 0,[(k,.box cs true true)])
    else some (.rptr (iA ps) 0,[(k,.box cs true true)])
   |none=>match qG h cs with
    |some (ps,W)=>if jT ps=true then some (.rptr (ps.headD default) 0,W++[(k,.box cs true true)])
     else some (.rptr (iA ps) 0,W++[(k,.box cs true true)])
    |none=>none
  |_=>none
 |_=>none
def lu(h:Hp):List AV->Option (List PV×List (Nat×Blk))
 |[]=>some ([],[])
 |x::r=>match rU h x,lu h r with
  |some (p,W),some (ps,W')=>some (p::ps,W++W')
  |_,_=>none
def AT(h:Hp):AV->Option (PV×List (Nat×Blk))
 |.agg cs=>match qG h cs with
  |some (ps,W)=>some (iA ps,W)
  |none=>none
 |.fn f first caps=>match qG h first,lu h caps with
  |some (ps,W),some (qs,W')=>some (.fn f ps qs,W++W')
  |_,_=>none
 |x=>tG h x
def pO(h:Hp):List AV->Option (List PV×List (Nat×Blk))
 |[]=>some ([],[])
 |x::r=>match AT h x,pO h r with
  |some (p,W),some (ps,W')=>some (p::ps,W++W')
  |_,_=>none
def frz(h:Hp):AV->Option (PV×List (Nat×Blk))
 |.agg cs=>match pO h cs with
  |some (ps,W)=>some (iA ps,W)
  |none=>none
 |.fn f first caps=>match qG h first,lu h caps with
  |some (ps,W),some (qs,W')=>some (.fn f ps qs,W++W')
  |_,_=>none
 |.tup vs=>match pO h vs with
  |some (ps,W)=>some (.tup ps,W)
  |none=>none
 |x=>tG h x
def lO:PV->Bool
 |.val _=>true
 |.agg cs=>cs.all λc=>match c with|.val _=>true|_=>false
 |_=>false
def y5(h:Hp):AV->Option PV
 |.pv p=>if lO p=true then some p else none
 |.arr k n=>match h k with
  |some (.row _ _ xs _)=>if xs.length=n∧k<2000000∧xs.all lO=true then some (.sl xs)else none
  |_=>none
 |.ext (.mp k)=>match h k with
  |some (.mp kd n es _)=>some (.mp kd n es)
  |_=>none
 |_=>none
def xE(h:Hp):List AV->Option (List PV)
 |[]=>some []
 |x::r=>match y5 h x,xE h r with
  |some p,some ps=>some (p::ps)
  |_,_=>none
def AU(h:Hp):AV->Option PV
 |.ext (.barr k n _)=>match h k with
  |some (.box cs true _)=>if cs.length=n then(match xE h cs with
   |some ps=>if ps.all lC=true then some (.sl ps)else none
   |none=>none)else none
  |_=>none
 |x=>y5 h x
def ww(h:Hp):List AV->Option (List PV)
 |[]=>some []
 |x::r=>match AU h x,ww h r with
  |some p,some ps=>some (p::ps)
  |_,_=>none
def zT(h:Hp):AV->Option PV
 |.ptr k 0=>match h k with
  |some (.box cs true _)=>match ww h cs with
   |some ps=>if jT ps=true then some (.rptr (ps.headD default) 0)else some (.rptr (iA ps) 0)
   |none=>none
  |_=>none
 |x=>AU h x
def rB(h:Hp):List AV->Option (List PV)
 |[]=>some []
 |x::r=>match zT h x,rB h r with
  |some p,some ps=>some (p::ps)
  |_,_=>none
def KY(h:Hp):AV->Option PV
 |.fn f first caps=>match ww h first,rB h caps with
  |some ps,some qs=>some (.fn f ps qs)
  |_,_=>none
 |.tup vs=>match ww h vs with
  |some ps=>some (.tup ps)
  |none=>none
 |x=>AU h x
def xF(ti:TI)(x v:AV)(h:Hp):Option (List (Nat×Blk)):=
 match x with
 |.ptr k off=>match h k,iQ h v with
  |some (.box cs own false),some vc=>if vc.length=ti.size∧off+vc.length<=cs.length∧vc.all (wu h)=true then some [(k,.box (dC cs off vc) own false)]else none
  |_,_=>none
 |.eptr k n i off=>match h k with
  |some (.row e sz xs fz)=>
   if xs.length=n∧fz<=i then
    match xs[i]?,tG h v with
    |some y,some (p,[])=>
     if qR ti.size p=true then
      if off=0∧ti.size=sz then some [(k,.row e sz (xs.set i p) fz)]
      else if off+ti.size<=sz∧qc y then some [(k,.row e sz (xs.set i (iA (dC y.cells off p.cells))) fz)]
      else none
     else none
    |_,_=>none
   else none
  |_=>none
 |_=>none
def tY(h:Hp)(k n:Nat):Bool:=match h k with
 |some (.row _ _ xs _)=>xs.length==n
 |_=>false
def pP(ti:TI)(x:AV)(f:Nat)(h:Hp):Option AV:=
 match ti.kind with
 |.struct fs=>match fs[f]? with
  |some (o,s)=>if s=0 then none else match x with
   |.ptr k off=>some (.ptr k (off+o))
   |.pv (.rptr y off)=>some (.pv (.rptr y (off+o)))
   |.eptr k n i off=>if tY h k n=true then some (.eptr k n i (off+o))else none
   |_=>none
  |none=>none
 |_=>none
def pQ(ti:TI)(x:AV)(i:Int)(h:Hp):Option AV:=
 match ti.kind with
 |.slice _ esz _ _=>match x with
  |.pv (.sl xs)=>if 0<=i then(match xs[i.toNat]? with
   |some y=>if y.cells.length=esz then some (.pv (.rptr y 0))else none
   |none=>none)else none
  |.arr k n=>match h k with
   |some (.row _ sz xs _)=>if xs.length=n∧sz=esz∧0<=i∧i.toNat<n then some (.eptr k n i.toNat 0)else none
   |_=>none
  |_=>none
 |.array len esz=>if 0<=i∧i.toNat<len then match x with
   |.ptr k off=>some (.ptr k (off+i.toNat*esz))
   |.pv (.rptr y off)=>some (.pv (.rptr y (off+i.toNat*esz)))
   |.eptr k n j off=>if tY h k n=true then some (.eptr k n j (off+i.toNat*esz))else none
   |_=>none
  else none
 |_=>none
def uJ(ti:TI)(x:AV)(i:Int)(h:Hp):Option AV:=
 match ti.kind,x with
 |.slice _ 1 _ _,.ext (.barr k n _)=>if 0<=i∧i.toNat<n then some (.ptr k i.toNat)else none
 |.slice _ esz _ _,.ext (.suf k o n t)=>match h k with
  |some (.row _ sz xs _)=>if xs.length=t∧sz=esz∧0<=i∧i.toNat<n then some (.eptr k t (o+i.toNat) 0)else none
  |_=>none
 |_,_=>none
def AW:Option AV->Option AV->Option AV
 |some v,_=>some v
 |none,y=>y
def uK(place:Nat->Option (Nat×Nat))(cells:List AV):List (Nat×List AV)->Option (List AV)
 |[]=>some cells
 |(i,vs)::rest=>match place i with
  |none=>none
  |some (off,size)=>if vs.length≠size∨off+vs.length>cells.length then none else uK place (dC cells off vs) rest
def rC(h:Hp)(ρ:Operand->AV):List (Nat×Operand)->Option (List (Nat×List AV))
 |[]=>some []
 |(i,x)::r=>match iQ h (ρ x),rC h ρ r with
  |some cs,some ps=>some ((i,cs)::ps)
  |_,_=>none
def xH(ti:TI)(ps:List (Nat×List AV)):Option AV:=
 match ti.zero with
 |none=>none
 |some z=>
  let zc:=z.cells.toList.map λv=>AV.pv (.val v)
  match ti.kind with
  |.struct fs=>(uK (λi=>fs[i]?) zc ps).map tW
  |.array _ esz=>(uK (λi=>some (i*esz,esz)) zc ps).map tW
  |_=>none
def F9(raw:Bool)(h:Hp)(x:AV):Option (PV×List (Nat×Blk)):=match raw,x with
 |true,.pv (.val v)=>some (.val v,[])
 |_,x=>frz h x
def Hr(hn:List Nat)(d:Option Nat):Bool:=match d with
 |some d=>hn.contains (d+2000000)
 |none=>false
def rD(h:Hp)(ρ:Operand->AV)(esz:Nat)(raw:Bool):Nat->List (Nat×Operand)->Option (List PV×List (Nat×Blk))
 |_,[]=>some ([],[])
 |k,(i,x)::r=>if i=k then match F9 raw h (ρ x),rD h ρ esz raw (k+1) r with
   |some (p,W),some (ps,W')=>if p.cells.length=esz then some (p::ps,W++W')else none
   |_,_=>none
  else none
def gt(h:Hp):AV->Option (List PV)
 |.pv (.sl ys)=>some ys
 |.pv (.val v)=>if mP v then some []else none
 |.arr k n=>match h k with
  |some (.row _ _ xs _)=>if xs.length=n then some xs else none
  |_=>none
 |_=>none
def uL(ti:TI)(d:Option Nat)(s x:AV)(h:Hp):Option dl:=
 match ti.kind with
 |.slice et esz ebytes (some z)=>
  match gt h x with
  |none=>none
  |some ys=>
   if 0<esz∧z.cells.size=esz∧ys.all (qR esz)=true then
    match s with
    |.arr k n=>match h k with
     |some (.row e sz xs fz)=>
      if k<2000000∧xs.length=n∧e=et∧sz=esz∧(n+ys.length)*ebytes<=140737488355328∧n+ys.length<=9223372036854775807 then some (.arr k (n+ys.length),[(k,.row e sz (xs++ys) fz)])else none
     |_=>none
    |.pv (.val v)=>
     if mP v then match d with
      |some d=>if(h d).isNone∧ys.length*ebytes<=140737488355328∧ys.length<=9223372036854775807 then some (.arr d ys.length,[(d,.row et esz ys 0)])else none
      |none=>none
     else none
    |_=>none
   else none
 |_=>none
def zU(ti:TI)(s x:AV)(h:Hp):Option dl:=
 match ti.kind,s with
 |.slice _ esz _ _,.arr k n=>match h k,gt h x with
  |some (.row e sz xs 0),some ys=>
   if xs.length=n∧sz=esz∧ys.all (qR esz)=true then
    some (.pv (.val (.int .i64 (Nat.min ys.length n:Nat))),[(k,.row e sz (ys.take (Nat.min ys.length n)++xs.drop (Nat.min ys.length n)) 0)])else none
  |_,_=>none
 |_,_=>none
def Cv(ti:TI)(x:AV)(h:Hp):Option AV:=
 match ti.kind,x with
 |.slice _ _ _ _,.pv (.sl xs)=>some (.pv (.val (.int .i64 (xs.length:Nat))))
 |.slice _ _ _ _,.pv (.hd n)=>some (.pv (.val (.int .i64 (n:Nat))))
 |.slice _ _ _ _,.arr k n=>match h k with
  |some (.row _ _ xs _)=>if xs.length=n then some (.pv (.val (.int .i64 (n:Nat))))else none
  |_=>none
 |.slice _ _ _ _,.ext (.barr _ n _)=>some (.pv (.val (.int .i64 (n:Nat))))
 |.slice _ _ _ _,.ext (.suf k o n t)=>match h k with
  |some (.row _ _ xs _)=>if xs.length=t then some (.pv (.val (.int .i64 (n:Nat))))else none
  |_=>none
 |_,_=>none
def xI(ti:TI)(hn:List Nat)(d:Option Nat)(l c:AV)(h:Hp):Option dl:=
 match ti.kind,l,c,d with
 |.slice _ 1 ebytes (some z),.pv (.val (.int _ n)),.pv (.val (.int _ m)),some d=>
  if hn.contains (d+1000000)=true∧lC (.val z)=true∧m=n∧0<=n∧(ebytes:Int)*n<=281474976710656∧n<=9223372036854775807∧(h d).isNone then
   some (.ext (.barr d n.toNat n.toNat),[(d,.box (List.replicate n.toNat (.pv (.val z))) true false)])
  else none
 |_,_,_,_=>none
def AY:Option dl->Option dl->Option dl
 |some v,_=>some v
 |none,y=>y
def Hs(P:Program)(t:TypeId)(d:Option Nat)(h:Hp):Option dl:=
 match Jb P t,d with
 |some (kd,n,_),some d=>if(h d).isNone then some (.ext (.mp d),[(d,.mp kd n [] false)])else none
 |_,_=>none
def O9(P:Program)(t:TypeId):Option Value:=(P.info? t).bind (·.zero)
def E4(z:Option Value)(ok:Bool):Option Value->Option AV
 |some v=>some (.pv (if ok then .tup [.val v,.val (.bool true)]else .val v))
 |none=>match z with
  |some z=>some (.pv (if ok then .tup [.val z,.val (.bool false)]else .val z))
  |none=>none
def KZ(h:Hp):AV->Option (IntKind×Nat×List (List Int×Value))
 |.ext (.mp k)=>match h k with
  |some (.mp kd n es _)=>some (kd,n,es)
  |_=>none
 |.pv (.mp kd n es)=>some (kd,n,es)
 |_=>none
def Jc(P:Program)(t:TypeId)(x i:AV)(ok:Bool)(h:Hp):Option AV:=
 match Jb P t,KZ h x with
 |some (kd,n,et),some (kd',n',es)=>if kd'=kd∧n'=n then match CQ kd n i with
   |some is=>E4 (O9 P et) ok (MO es is)
   |none=>none else none
 |_,_=>none
def Jd(P:Program)(t:TypeId)(x i v:AV)(h:Hp):Option (List (Nat×Blk)):=
 match Jb P t,x,v with
 |some (kd,n,_),.ext (.mp k),.pv (.val v)=>match h k,CQ kd n i with
  |some (.mp kd' n' es false),some is=>if kd'=kd∧n'=n then some [(k,.mp kd n (MP es is v) false)]else none
  |_,_=>none
 |_,_,_=>none
def zV(ti:TI)(d:Option Nat)(l c:AV)(h:Hp):Option dl:=
 match ti.kind,l,c,d with
 |.slice e esz ebytes (some z),.pv (.val (.int _ n)),.pv (.val (.int _ m)),some d=>
  if 0<esz∧z.cells.size=esz∧m=n∧0<=n∧(ebytes:Int)*n<=281474976710656∧n<=9223372036854775807∧(h d).isNone then
   some (.arr d n.toNat,[(d,.row e esz (List.replicate n.toNat (.val z)) 0)])
  else none
 |_,_,_,_=>none
def mf(ti:TI)(x:AV)(lo hi:Option AV):Option AV:=
 match ti.kind,x with
 |.slice _ esz _ _,.pv (.sl xs)=>
  let l:=match lo with|none=>some 0|some (.pv (.val (.int _ n)))=>if 0<=n then some n.toNat else none|_=>none
  let r:=match hi with|none=>some xs.length|some (.pv (.val (.int _ n)))=>if 0<=n then some n.toNat else none|_=>none
  match l,r with
  |some l,some r=>if l<=r∧r<=xs.length∧0<esz∧xs.all (qR esz)=true then some (.pv (.sl ((xs.take r).drop l)))else none
  |_,_=>none
 |_,_=>none
def fD:AV->Option Value
 |.pv (.val v)=>some v
 |_=>none
def rc(x:AV):Value:=(fD x).getD undef
def bR(P:Program)(o:Oper)(ρ:Operand->AV):Option dl:=
 if(o.op.operands.toList.all λx=>(fD (ρ x)).isSome)=true then
  match aq P (execOp (λx=>rc (ρ x)) o)with
  |some (.value v)=>some (.pv (.val v),[])
  |_=>none
 else none
def tH(op:BinOp)(k:IntKind)(a b:Int):Int:=match op with
 |.and=>k.wrap (BitVec.ofInt k.bits a &&& BitVec.ofInt k.bits b).toNat
 |.or=>k.wrap (BitVec.ofInt k.bits a ||| BitVec.ofInt k.bits b).toNat
 |.xor=>k.wrap (BitVec.ofInt k.bits a ^^^ BitVec.ofInt k.bits b).toNat
 |_=>k.wrap (BitVec.ofInt k.bits a &&& ~~~BitVec.ofInt k.bits b).toNat
def tZ(op:BinOp)(x y:AV):Option Value:=
 match x,y with
 |.pv (.val (.int k a)),.pv (.val (.int k' b))=>match op with
  |.shl=>if 0<=b then some (.int k (k.wrap (a*2^(min b.toNat k.bits))))else none
  |.shr=>if 0<=b then some (.int k (a.fdiv (2^(min b.toNat k.bits))))else none
  |.add=>if k=k' then some (.int k (k.wrap (a+b)))else none
  |.sub=>if k=k' then some (.int k (k.wrap (a-b)))else none
  |.mul=>if k=k' then some (.int k (k.wrap (a*b)))else none
  |.quo=>if k=k'∧b≠0 then some (.int k (k.wrap (a.tdiv b)))else none
  |.rem=>if k=k'∧b≠0 then some (.int k (a.tmod b))else none
  |.eql=>if k=k' then some (.bool (a==b))else none
  |.neq=>if k=k' then some (.bool (a !=b))else none
  |.lss=>if k=k' then some (.bool (decide (a<b)))else none
  |.leq=>if k=k' then some (.bool (decide (a<=b)))else none
  |.gtr=>if k=k' then some (.bool (decide (b<a)))else none
  |.geq=>if k=k' then some (.bool (decide (b<=a)))else none
  |.and=>if k=k' then some (.int k (tH .and k a b))else none
  |.or=>if k=k' then some (.int k (tH .or k a b))else none
  |.xor=>if k=k' then some (.int k (tH .xor k a b))else none
  |.andNot=>if k=k' then some (.int k (tH .andNot k a b))else none
 |.pv (.val (.string a)),.pv (.val (.string b))=>match op with
  |.eql=>some (.bool (a.toList==b.toList))
  |.neq=>some (.bool !(a.toList==b.toList))
  |_=>none
 |_,_=>none
def zW(op:UnOp)(x:AV):Option Value:=
 match op,x with
 |.not,.pv (.val (.bool b))=>some (.bool !b)
 |.neg,.pv (.val (.int k n))=>some (.int k (k.wrap (0-n)))
 |_,_=>none
def eh(P:Program)(t:TypeId):Option IntKind:=match P.underlying t with
 |some (.int k)=>some k
 |_=>none
def uM(P:Program)(s d:TypeId)(x:AV):Option Value:=
 match eh P s,eh P d,x with
 |some _,some k,.pv (.val (.int _ n))=>some (.int k (k.wrap n))
 |_,_,_=>none
def xJ:List AV->Option Value
 |[.pv (.val (.int k a)),.pv (.val (.int _ b))]=>some (.int k (if b<a then b else a))
 |_=>none
def xL:List AV->Option Value
 |[.pv (.val (.int k a)),.pv (.val (.int _ b))]=>some (.int k (if b>a then b else a))
 |_=>none
def oe(P:Program)(o:Oper)(ρ:Operand->AV):Option Value->Option dl
 |some v=>some (.pv (.val v),[])
 |none=>bR P o ρ
def CS:AV->Option Int
 |.pv (.val (.int _ n))=>some n
 |_=>none
def wx(P:Program)(o:Oper)(b:Builtin)(args:List AV)(ts:List TypeId)(ρ:Operand->AV)(h:Hp):Option dl:=
 match b,args,ts with
 |.len,[x],[t]=>match x with
  |.pv (.val _)=>bR P o ρ
  |_=>match ao P t with
   |some ti=>(Cv ti x h).map λv=>(v,[])
   |none=>none
 |.append,[s,x],[t,t']=>if t=t' then match ao P t with
   |some ti=>uL ti o.dst s x h
   |none=>none
  else none
 |.copy,[s,x],[t,_]=>match ao P t with
  |some ti=>zU ti s x h
  |none=>none
 |.min,_,_=>oe P o ρ (xJ args)
 |.max,_,_=>oe P o ρ (xL args)
 |_,_,_=>none
def ik(P:Program)(t:TypeId):Option (Option Nat):=match P.underlying t with
 |some .string=>some none
 |some (.array n e)=>match P.underlying e with
  |some (.struct _)=>none
  |some (.array _ _)=>none
  |some _=>if oY P e=1∧(P.info? e).isSome=true then some (some n)else none
  |none=>none
 |_=>none
def zX:Option (Option Nat)->AV->AV->Option Value
 |some none,.pv (.val (.string s)),.pv (.val (.int _ i))=>if 0<=i then(s[i.toNat]?).map λb=>.int .u8 b.toNat else none
 |some (some n),.pv (.val (.agg cs)),.pv (.val (.int _ i))=>if 0<=i∧i<n then cs[i.toNat]? else none
 |_,_,_=>none
def rV(P:Program)(t:TypeId):Option Bool:=match P.underlying t with
 |some (.struct _)=>some true
 |some (.array _ _)=>some true
 |some _=>some false
 |none=>none
def uN(P:Program)(t:TypeId):Option (Nat×Nat):=match P.underlying t with
 |some (.array n e)=>match rV P e,P.info? e with
  |some true,some j=>some (n,j.size)
  |_,_=>none
 |_=>none
def y6(cs:Array Value)(off sz:Nat):Value:=.agg ((cs.toList.drop off).take sz).toArray
def zY:Option (Nat×Nat)->AV->AV->Option Value
 |some (n,sz),.pv (.val (.agg cs)),.pv (.val (.int _ i))=>if 0<=i∧i<n then some (y6 cs (i.toNat*sz) sz)else none
 |_,_,_=>none
def t5(P:Program)(t:TypeId)(f:Nat):Option (Bool×Nat×Nat):=match P.underlying t with
 |some (.struct fs)=>match fs[f]? with
  |some fd=>match rV P fd.type,P.info? fd.type with
   |some b,some j=>some (b,fd.offset,j.size)
   |_,_=>none
  |none=>none
 |_=>none
def xM:Option (Bool×Nat×Nat)->AV->Option Value
 |some (true,off,sz),.pv (.val (.agg cs))=>some (y6 cs off sz)
 |some (false,off,_),.pv (.val (.agg cs))=>cs[off]?
 |_,_=>none
def xP:Option Value->Option Value->Option Value
 |some v,_=>some v
 |none,y=>y
def Cw(f:Fn):List AV->List AV->AV
 |x::r,[]=>match lB (x::r)with
  |some ps=>match fg ps with
   |some vs=>.pv (.val (.func f vs.toArray #[]))
   |none=>.pv (.fn f ps [])
  |none=>.fn f (x::r) []
 |first,caps=>.fn f first caps
def uO(h:Hp):AV->Option Bool
 |.pv (.val v)=>if mP v then some true else none
 |.pv (.sl xs)=>if xs.isEmpty then none else some false
 |.arr k n=>match h k with
  |some (.row _ _ xs _)=>if xs.length=n∧n≠0 then some false else none
  |_=>none
 |_=>none
def rE(h:Hp):AV->Bool
 |.pv (.sl xs)=>xs.isEmpty
 |.arr k n=>match h k with
  |some (.row _ _ xs _)=>decide (xs.length=n)&&decide (n=0)
  |_=>false
 |_=>false
def nB(P:Program)(t:TypeId):Bool:=match ao P t with
 |some {kind:=.slice _ _ _ _,..}=>true
 |_=>false
def zZ(op:BinOp):Option Bool->Option Bool
 |none=>none
 |some b=>match op with
  |.eql=>some b
  |.neq=>some !b
  |_=>none
def CT(P:Program)(h:Hp)(ρ:Operand->AV)(op:BinOp)(t:TypeId)(x y:Operand):Option Bool:=
 if(od (ρ y)&&nB P t)=true then zZ op (uO h (ρ x))else none
def y7(P:Program)(hn:List Nat)(dst:Option Nat)(h:Hp)(t:TypeId)(len:Nat)(ps:List (Nat×Operand)):Option dl:=
 match len,ps,dst with
 |0,[],some d=>if hn.contains d=true then match ao P t with
   |some {kind:=.slice e esz _ (some _),..}=>if(h d).isNone∧0<esz then some (.arr d 0,[(d,.row e esz [] 0)])else none
   |_=>none
  else none
 |_,_,_=>none
def CU(hn:List Nat)(dst:Option Nat)(h:Hp)(W:List (Nat×Blk)):Option Nat:=match dst,W with
 |some d,[]=>if(hn.contains d&&(h d).isNone)=true then some d else none
 |_,_=>none
def K0(ti:TI)(h:Hp)(x:AV)(lo hi:Option AV):Option dl:=match tG h x with
 |some (p,W)=>match mf ti (.pv p) lo hi with
  |some v=>some (v,W)
  |none=>none
 |none=>none
def t6(P:Program)(t:TypeId):Bool:=match P.underlying t with
 |some (.interface _)=>false
 |some _=>true
 |none=>false
def AZ(P:Program)(t:TypeId)(p:PV)(a:TypeId)(ok:Bool):Option AV:=
 if t=a then some (if ok then .pv (.tup [p,.val (.bool true)])else .pv p)
 else if ok then match(ao P a).bind (·.zero)with
  |some z=>some (.pv (.tup [.val z,.val (.bool false)]))
  |none=>none
 else none
def z7(P:Program)(t:TypeId)(name:String):Option FuncId:=match P.info? t with
 |some i=>match i.methods.find? (·.name==name)with
  |some m=>if m.path.isEmpty then(match m.func,P.underlying t with
    |some (_,true),_=>none
    |some (_,false),some (.pointer _)=>none
    |some (f,false),some _=>some f
    |_,_=>none)else none
  |none=>none
 |none=>none
def qH(P:Program)(name:String):AV->AV
 |.pv (.ifc t p)=>match z7 P t name with
  |some f=>.fn (.func f) [.pv p] []
  |none=>.undef
 |_=>.undef
def fv(P:Program)(hn:List Nat)(o:Oper)(ρ:Operand->AV)(h:Hp):Option dl:=
 match o.op with
 |.move x=>some (ρ x,[])
 |.assign x=>match o.dst with
  |some d=>if(hn.contains d&&od (ρ x))=true then
    match ao P o.type with
    |some {kind:=.slice e esz _ _,..}=>if(h d).isNone∧0<esz then some (.arr d 0,[(d,.row e esz [] 0)])else none
    |_=>none
   else some (ρ x,[])
  |none=>some (ρ x,[])
 |.pick c a b=>match ρ c with
  |.pv (.val (.bool t))=>some (if t then ρ a else ρ b,[])
  |_=>none
 |.alloc e=>match ao P e,o.dst with
  |some {zero:=some z,..},some d=>if(h d).isNone then some (.ptr d 0,[(d,.box (z.cells.toList.map λv=>.pv (.val v)) true false)])else none
  |_,_=>none
 |.box _ x=>match iQ h (ρ x),o.dst with
  |some cs,some d=>if(h d).isNone then some (.ptr d 0,[(d,.box cs true false)])else none
  |_,_=>none
 |.build t ps=>match ao P t,rC h ρ ps.toList with
  |some ti,some qs=>(xH ti qs).map λv=>(v,[])
  |_,_=>none
 |.buildSlice t len ps=>match y7 P hn o.dst h t len ps.toList with
  |some eff=>some eff
  |none=>match ao P t with
   |some {kind:=.slice e esz _ (some _),..}=>match rD h ρ esz (Hr hn o.dst) 0 ps.toList with
    |some (xs,W)=>if xs.length=len∧0<esz∧len*esz<=16777216 then(match CU hn o.dst h W with
     |some d=>some (.arr d len,[(d,.row e esz xs 0)])
     |none=>some (.pv (.sl xs),W))else none
    |none=>none
   |_=>none
 |.load t a=>match ao P t with
  |some ti=>(wv ti (ρ a) h).map λv=>(v,[])
  |none=>none
 |.store t a v=>match ao P t with
  |some ti=>(xF ti (ρ a) (ρ v) h).map λW=>(.undef,W)
  |none=>none
 |.nilCheck x=>match ρ x with
  |.ptr k off=>some (.ptr k off,[])
  |.pv (.rptr y off)=>some (.pv (.rptr y off),[])
  |_=>none
 |.fieldAddr s x f=>match ao P s with
  |some ti=>(pP ti (ρ x) f h).map λv=>(v,[])
  |none=>none
 |.indexAddr t x i=>match ao P t,CS (ρ i)with
  |some ti,some n=>(AW (pQ ti (ρ x) n h) (uJ ti (ρ x) n h)).map λv=>(v,[])
  |_,_=>none
 |.makeFunc f first caps=>some (Cw f (first.toList.map ρ) (caps.toList.map ρ),[])
 |.makeInterface t x=>if t6 P t then(match frz h (ρ x)with
   |some (p,W)=>some (.pv (.ifc t p),W)
   |none=>none)else none
 |.typeAssert x _ a ok=>match ρ x with
  |.pv (.ifc t p)=>if t6 P a then(AZ P t p a ok).map λv=>(v,[])else none
  |_=>none
 |.makeSlice t l c=>match ao P t with
  |some ti=>AY (xI ti hn o.dst (ρ l) (ρ c) h) (zV ti o.dst (ρ l) (ρ c) h)
  |none=>none
 |.slice t x lo hi mx=>match ρ x,mx with
  |.pv (.val _),_=>bR P o ρ
  |.arr k n,none=>match ao P t with
   |some ti=>K0 ti h (.arr k n) (lo.map ρ) (hi.map ρ)
   |none=>none
  |_,none=>match ao P t with
   |some ti=>(mf ti (ρ x) (lo.map ρ) (hi.map ρ)).map λv=>(v,[])
   |none=>none
  |_,_=>none
 |.extract t i=>match ρ t with
  |.tup vs=>(vs[i]?).map λv=>(v,[])
  |.pv (.tup vs)=>(vs[i]?).map λv=>(.pv v,[])
  |.pv (.val _)=>bR P o ρ
  |_=>none
 |.call c=>match c.callee with
  |.builtin b=>wx P o b (c.args.toList.map ρ) c.argTypes.toList ρ h
  |_=>none
 |.binOp op t x y _=>match CT P h ρ op t x y with
  |some b=>some (.pv (.val (.bool b)),[])
  |none=>oe P o ρ (tZ op (ρ x) (ρ y))
 |.unOp op _ x=>oe P o ρ (zW op (ρ x))
 |.convert s d x=>oe P o ρ (uM P s d (ρ x))
 |.field t x f=>oe P o ρ (xM (t5 P t f) (ρ x))
 |.index t x i=>oe P o ρ (xP (zX (ik P t) (ρ x) (ρ i)) (zY (uN P t) (ρ x) (ρ i)))
 |_=>none
structure St where
 t:Nat->AV
 h:Hp
def St.ev(st:St):Operand->AV
 |.tmp n=>st.t n
 |.const v=>.pv (.val v)
 |.global _=>.undef
 |.func f=>.pv (.val (.func (.func f) #[] #[]))
def am(h:Hp)(W:List (Nat×Blk)):Hp:=W.foldl (λh kb=>ai h kb.1 (some kb.2)) h
def St.put(st:St)(d:Option Nat)(v:AV)(W:List (Nat×Blk)):St:=
 ⟨match d with|some d=>ai st.t d v|none=>st.t,am st.h W⟩
inductive Arg where
 |pv(p:PV)
 |bx(i:Nat)
inductive RV where
 |pv(p:PV)
 |box(ps:List PV)
 |row(e sz:Nat)(xs:List PV)
 |srow(pre:List PV)(e sz:Nat)(xs:List PV)
 |nrow(e sz:Nat)(xs:List PV)
 |new(p:PV)
def dw(P:Program)(f:FuncId):Bool:=match P.funcs[f]? with
 |some fn=>fn.body.isSome&& !(fn.name== "runtime.NumGoroutine")
 |none=>false
def ln(w:World)(M:Nat->Nat->Prop)(b:Nat)(ps:List PV):Prop:=∃arr ty,w.heap[b]?=some (.cells arr ty (0,0))∧cO w M ps arr.toList
def Ht(w:World)(M:Nat->Nat->Prop)(bs:List Nat):Arg->Value->Prop
 |.pv p,v=>Rep w M p v
 |.bx j,v=>∃b,bs[j]?=some b∧v=.pointer (some ⟨b,0,none⟩)
def z8(w w':World)(M:Nat->Nat->Prop):RV->Value->Prop
 |.pv p,v=>Rep w' M p v
 |.new p,v=>Rep w' (λb _=>b<w.heap.size) p v
 |.box ps,v=>∃b,w.heap.size<=b∧v=.pointer (some ⟨b,0,none⟩)∧ln w' (λb' o=>M b' o∨b'=b) b ps
 |.row e sz xs,v=>∃l:Loc,v=l.slice xs.length∧(l.isNil=false->w.heap.size<=l.b)∧
   dW w' (λb' o=>M b' o∨(l.isNil=false∧b'=l.b)) (λ_=>default) (λ_=>none) l (.row e sz xs 0)
 |.nrow e sz xs,v=>xs.all lO=true∧∃l:Loc,v=l.slice xs.length∧(l.isNil=false->w.heap.size<=l.b)∧
   dW w' (λb' o=>M b' o∨(l.isNil=false∧b'=l.b)) (λ_=>default) (λ_=>none) l (.row e sz xs 0)
 |.srow pre e sz xs,v=>∃(l:Loc)(us:List Value),v=.agg (us++[l.slice xs.length]).toArray∧(l.isNil=false->w.heap.size<=l.b)∧cO w' (λb' o=>M b' o∨(l.isNil=false∧b'=l.b)) pre us∧
   dW w' (λb' o=>M b' o∨(l.isNil=false∧b'=l.b)) (λ_=>default) (λ_=>none) l (.row e sz xs 0)
def ab(P:Program)(f:FuncId)(args:List Arg)(hin hout:List (List PV))(res:RV):Prop:=
 dw P f=true∧hout.length=hin.length∧∀(w:World)(M:Nat->Nat->Prop)(bs:List Nat)(vs:List Value),
  (∀b o,M b o->b<w.heap.size)->bs.length=hin.length->bs.Nodup->
  (∀(i:Nat) b ps,bs[i]?=some b->hin[i]?=some ps->(∀o,M b o)∧ln w M b ps)->
  args.length=vs.length->(∀(i:Nat) a v,args[i]?=some a->vs[i]?=some v->Ht w M bs a v)->
  Calls P f vs.toArray w λe w'=>∃v,e=.returned v∧Ext (·∈bs) w w'∧
   (∀(i:Nat) b ps,bs[i]?=some b->hout[i]?=some ps->ln w' M b ps)∧z8 w w' M res v
def cZ:AV->Option (FuncId×List AV×List AV)
 |.pv (.val (.func (.func f) first caps))=>some (f,first.toList.map (λv=>.pv (.val v)),caps.toList.map (λv=>.pv (.val v)))
 |.pv (.fn (.func f) first caps)=>some (f,first.map .pv,caps.map .pv)
 |.fn (.func f) first caps=>some (f,first,caps)
 |_=>none
def Ga(h:Hp)(k:Nat):Bool:=match h k with
 |some (.box cs true _)=>(lB cs).isSome
 |_=>true
def jU(h:Hp):List AV->List Nat->Option (List Arg×List Nat×List (Nat×Blk))
 |[],ks=>some ([],ks,[])
 |x::r,ks=>match x with
  |.ptr k off=>if off=0∧ks.contains k=false∧Ga h k=true then match jU h r (ks++[k])with
    |some (as,ks',W)=>some (.bx ks.length::as,ks',W)
    |none=>none
   else if Ga h k=false then match rU h (.ptr k off),jU h r ks with
    |some (p,W),some (as,ks',W')=>some (.pv p::as,ks',W++W')
    |_,_=>none
   else none
  |x=>match frz h x,jU h r ks with
   |some (p,W),some (as,ks',W')=>some (.pv p::as,ks',W++W')
   |_,_=>none
def mI(h:Hp):List Nat->Option (List (List PV))
 |[]=>some []
 |k::r=>match h k,mI h r with
  |some (.box cs _ false),some hs=>match lB cs with
   |some ps=>some (ps::hs)
   |none=>none
  |_,_=>none
def kv(h:Hp):List Nat->List (List PV)->List (Nat×Blk)
 |k::ks,ps::hs=>(match h k with
   |some (.box _ own _)=>[(k,.box (ps.map .pv) own false)]
   |_=>[])++kv h ks hs
 |_,_=>[]
def CV:PV->Bool
 |.val _=>true
 |.hd _=>true
 |_=>false
def rF:PV->Bool
 |.val _=>true
 |.hd _=>true
 |.tup cs=>cs.all CV
 |.agg cs=>cs.all CV
 |_=>false
def Gb(ks:List Nat)(p:PV)(W:List (Nat×Blk)):List (Nat×Blk):=if(ks.isEmpty&&rF p)=true then[]else W
def mg(h:Hp)(d:Option Nat)(ks:List Nat)(W0:List (Nat×Blk))(hout:List (List PV))(res:RV):Option dl:=
 match res,d with
 |.pv p,_=>some (.pv p,Gb ks p W0++kv h ks hout)
 |.new p,_=>if ks=[]then some (.pv p,[])else none
 |.box ps,some d=>if(h d).isNone∧ks=[]then some (.ptr d 0,W0++[(d,.box (ps.map .pv) true false)])else none
 |.row e sz xs,some d=>if(h d).isNone∧ks=[]then some (.arr d xs.length,W0++[(d,.row e sz xs 0)])else none
 |.nrow e sz xs,some d=>if(h d).isNone∧ks=[]then some (.arr d xs.length,[(d,.row e sz xs 0)])else none
 |.srow pre e sz xs,some d=>if(h d).isNone∧ks=[]then some (.agg (pre.map .pv++[.arr d xs.length]),W0++[(d,.row e sz xs 0)])else none
 |_,_=>none
def ju(x:Option dl)(K:dl->Prop):Prop:=match x with
 |some e=>K e
 |none=>False
def y8(P:Program)(g:FuncId)(as:List Arg)(hin:List (List PV))(F:List (List PV)->RV->Prop):Prop:=∃hout res,ab P g as hin hout res∧F hout res
def im(P:Program)(c:AV)(args:List AV)(d:Option Nat)(h:Hp)(K:dl->Prop):Prop:=
 match cZ c with
 |none=>False
 |some (g,first,caps)=>match jU h (first++args++caps) []with
  |none=>False
  |some (as,ks,W0)=>if(W0.any λkb=>ks.contains kb.1)=true then False else match mI h ks with
   |none=>False
   |some hin=>y8 P g as hin λhout res=>ju (mg h d ks W0 hout res) K
def t7(P:Program)(hn:List Nat)(o:Oper)(ρ:Operand->AV)(h:Hp)(K:dl->Prop):Prop:=
 match o.op with
 |.call c=>match c.callee with
  |.value f=>im P (ρ f) (c.args.toList.map ρ) o.dst h K
  |.invoke r name=>im P (qH P name (ρ r)) (c.args.toList.map ρ) o.dst h K
  |_=>ju (fv P hn o ρ h) K
 |_=>ju (fv P hn o ρ h) K
def fJ(P:Program)(g:FuncId):Prop:=dw P g=true∧∀(args:Array Value)(w:World),CallsD P g args .returning w λe u' w'=>u'=.returning∧(∃v,e=.returned v)∧w'=w
def E5(P:Program)(K:dl->Prop):AV->Prop
 |.fn (.func g) _ _=>fJ P g∧K (.undef,[])
 |_=>False
def Gc(x y:Prop):Prop:=x∧y
theorem aV{x y:Prop}(a:x)(b:y):Gc x y:=⟨a,b⟩
def wy(P:Program)(hn:List Nat)(o:Oper)(ρ:Operand->AV)(h:Hp)(K:dl->Prop):Prop:=
 match o.op with
 |.defer c=>match c.callee with
  |.value f=>if c.args.size=0 then E5 P K (ρ f)else False
  |_=>False
 |.binOp op t x y _=>if(od (ρ y)&&nB P t&&rE h (ρ x)&&(op==.eql||op==.neq))=true then Gc (K (.pv (.val (.bool true)),[])) (K (.pv (.val (.bool false)),[]))else t7 P hn o ρ h K
 |_=>t7 P hn o ρ h K
def gb(ops:Array Oper)(t:Nat->AV)(g:Option (Nat×Bool)):Option Bool:=
 match g with
 |none=>some true
 |some (j,want)=>match(ops[j]?).bind (·.dst)with
  |some d=>match t d with
   |.pv (.val (.bool b))=>some (b==want)
   |.pv (.val (.tuple _))=>some false
   |_=>none
  |none=>none
def dD(N:Nat):Option Nat->Bool
 |some d=>decide (d<N)&&decide (d<2000000)
 |none=>true
def lP(ops:Array Oper)(t:Nat->AV)(g:Option (Nat×Bool)):Option (Option (Nat×Bool×Bool)):=
 match g with
 |none=>some none
 |some (j,want)=>match(ops[j]?).bind (·.dst)with
  |some d=>match t d with
   |.pv (.val (.bool b))=>some (some (d,b,want))
   |.pv (.val (.tuple _))=>some (some (d,!want,want))
   |_=>none
  |none=>none
def yr(b:Bool)(_:Nat)(st:St)(F:Bool->St->Prop):Prop:=F b st
def dX(P:Program)(hn:List Nat)(N:Nat)(ops:Array Oper)(Q:St->Prop):List Oper->St->Prop
 |[],st=>Q st
 |o::rest,st=>dD N o.dst=true∧(match lP ops st.t o.guard with
   |some none=>wy P hn o st.ev st.h (λe=>dX P hn N ops Q rest (st.put o.dst e.1 e.2))
   |some (some (d,b,want))=>yr b d st (λb' st'=>if b'=want then wy P hn o st'.ev st'.h (λe=>dX P hn N ops Q rest (st'.put o.dst e.1 e.2))else dX P hn N ops Q rest (st'.put o.dst (.pv (.val (.tuple #[]))) []))
   |none=>False)
theorem pR{t:Nat->AV}(e:lP ops t g=some none):gb ops t g=some true:=by
 unfold lP at e;unfold gb;split at e
 .rfl
 .split at e
  .split at e
   .injection e with e;cases e
   .injection e with e;cases e
   .cases e
  .cases e
theorem mQ{t:Nat->AV}{b want:Bool}(e:lP ops t g=some (some (d,b,want))):gb ops t g=some (b==want):=by
 unfold lP at e;unfold gb;split at e
 .injection e with e;cases e
 .rename_i j w
  split at e
  .rename_i d' hd
   split at e
   .rename_i b' hb
    injection e with e;injection e with e;injection e with e1 e;injection e with e2 e3;subst e1;subst e2;subst e3;simp only[hd,hb]
   .rename_i q hb
    injection e with e;injection e with e;injection e with e1 e;injection e with e2 e3;subst e1;subst e2;subst e3;cases w<;>rfl
   .cases e
  .cases e
theorem fl{arr:Array Value}{fr:Nat×Nat}(h:w.heap[b]?=some (.cells arr ty fr)):w.cell? ⟨b,o,none⟩=arr[o]?:=by
 simp[World.cell?,h]
theorem fy(b o n:Nat):(⟨b,o,none⟩:Addr).add n=⟨b,o+n,none⟩:=by unfold Addr.add;split<;>simp_all
def aP(C:Cx)(L:Nat->Loc)(h:Hp)(w:World)(L':Nat->Loc)(h':Hp)(w':World):Prop:=
 MemL C L' h' w'∧Pres w (af C L h) w' (af C L' h')∧KC L h L' h'
theorem aP.trans{h'':Hp}{w'':World}(a:aP C L h w L' h' w')(b:aP C L' h' w' L'' h'' w''):aP C L h w L'' h'' w'':=
 ⟨b.1,a.2.1.trans b.2.1,a.2.2.trans b.2.2⟩
theorem aP.refl(hm:MemL C L h w):aP C L h w L h w:=⟨hm,Pres.refl _ _,KC.refl _ _⟩
theorem lQ(h:mP v=true):v=.slice none 0 0:=by
 grind [mP]
theorem Hu(h:Rep w M p u):Rep w M (xD p) u:=by
 unfold xD;split
 .split
  .rename_i v hv;cases h;rw[lQ hv];exact .sl0 none 0
  .exact h
 .exact h
theorem z9(h:cO w M ps us):cO w M (ps.map xD) us:=by
 refine⟨by simpa using h.1,λi p u hp hu=>?_⟩;simp only[Is,Ii]at hp;obtain⟨q,hq,rfl⟩:=hp;exact Hu (h.2 i q u hq hu)
theorem Je(h:Rep w M p u):Rep w M (F8 p) u:=by
 unfold F8;split
 .rename_i v
  split
  .rename_i hv;cases h;rw[lQ hv];exact .sl0 none 0
  .split
   .rename_i hv
    unfold CR at hv;split at hv
    .rename_i cs
     have hc:=h.cells;cases h;have:=lM (z9 hc);simpa[Value.cells]using this
    .cases hv
   .exact h
 .rename_i cs
  cases h with
  |agg _ vs hl hh=>exact lM (z9 ⟨hl,hh⟩)
 .exact h
def dr(h1 h:Hp):Prop:=∀k b,h1 k=some b->∃b',h k=some b'∧(match b,b' with
 |.box cs own fz,.box cs' own' fz'=>cs'=cs∧own'=own∧(fz=true->fz'=true)
 |.row e sz xs fz,.row e' sz' xs' fz'=>e'=e∧sz'=sz∧xs'=xs∧fz<=fz'
 |.mp kd n es fz,.mp kd' n' es' fz'=>kd'=kd∧n'=n∧es'=es∧(fz=true->fz'=true)
 |_,_=>False)
theorem dr.row(hf:dr h1 h)(hk:h1 k=some (.row e sz xs fz)):∃fz',h k=some (.row e sz xs fz')∧fz<=fz':=by
 obtain⟨b',h2,h3⟩:=hf k _ hk
 grind
theorem dr.box(hf:dr h1 h){own fz:Bool}(hk:h1 k=some (.box cs own fz)):∃fz',h k=some (.box cs own fz')∧(fz=true->fz'=true):=by
 obtain⟨b',h2,h3⟩:=hf k _ hk
 grind
theorem dr.mp{h1 h:Hp}(hf:dr h1 h){k n:Nat}{kd:IntKind}{es:List (List Int×Value)}{fz:Bool}(hk:h1 k=some (.mp kd n es fz)):∃fz',h k=some (.mp kd n es fz')∧(fz=true->fz'=true):=by
 obtain⟨b',h2,h3⟩:=hf k _ hk
 grind
theorem dr.refl(h:Hp):dr h h:=λk b hk=>⟨b,hk,by cases b<;>simp⟩
theorem dr.of_sub(hs:∀k b,h1 k=some b->h k=some b):dr h1 h:=λk b hk=>⟨b,hs k b hk,by cases b<;>simp⟩
theorem dr.set_row(hf:dr h1 h)(hk:h1 k=some (.row e sz xs fz))(hfz:fz<=xs.length):dr h1 (ai h k (some (.row e sz xs xs.length))):=by
 intro q b hq;by_cases e:q=k
 .grind [aN]
 .obtain⟨b',h2,h3⟩:=hf q b hq
  grind [bU]
theorem dr.set_box(hf:dr h1 h){own fz:Bool}(hk:h1 k=some (.box cs own fz)):dr h1 (ai h k (some (.box cs own true))):=by
 intro q b hq;by_cases e:q=k
 .grind [aN]
 .obtain⟨b',h2,h3⟩:=hf q b hq
  grind [bU]
theorem dr.set_mp(hf:dr h1 h){kd:IntKind}{fz:Bool}(hk:h1 k=some (.mp kd n es fz)):dr h1 (ai h k (some (.mp kd n es true))):=by
 intro q b hq;by_cases e:q=k
 .grind [aN]
 .obtain⟨b',h2,h3⟩:=hf q b hq
  grind [bU]
theorem nM(hm:MemL C L h w)(hk:h k=some (.row e sz xs fz)):(L k).isNil=true∧xs=[]∨(L k).isNil=false∧xs.length<=(L k).cap∧(L k).cap<=maxLen∧∃arr,w.heap[(L k).b]?=some (.cells arr e (0,0))∧arr.size=(L k).cap*sz∧
 ∀(i:Nat) x(j:Nat) p,xs[i]?=some x->x.cells[j]?=some p->∃u,arr[i*sz+j]?=some u∧Rep w (af C L h) p u:=by
 obtain⟨_,_,_,h4,h5⟩:=hm.bl k _ hk
 grind
theorem Aa(hm:MemL C L h w)(hk:h k=some (.row e sz xs fz)):
 aP C L h w L (ai h k (some (.row e sz xs xs.length))) w∧Rep w (af C L (ai h k (some (.row e sz xs xs.length)))) (.sl xs) ((L k).slice xs.length):=by
 have hb:=hm.bl k _ hk;obtain⟨h1,h2,h3,h4,h5⟩:=hb
 have hsub:∀b o,af C L (ai h k (some (.row e sz xs xs.length))) b o->af C L h b o:=by
  rintro b o (h0|⟨q,b',hq,hl,hb',hf⟩)
  .exact .inl h0
  .by_cases eq:q=k
   .subst eq
    rw[aN]at hq;injection hq with hq;subst hq;refine .inr ⟨q,_,hk,hl,hb',λhff=>hf ?_⟩;simp only[Blk.frz]at hff|-;exact Ny hff (Kz _ h2)
   .rw[bU eq]at hq;exact .inr ⟨q,b',hq,hl,hb',hf⟩
 have hpres:Pres w (af C L h) w (af C L (ai h k (some (.row e sz xs xs.length)))):=Pres.sub hsub
 have hkc:KC L h L (ai h k (some (.row e sz xs xs.length))):=by
  intro q b hq;by_cases e':q=k
  .subst e';rw[hk]at hq;injection hq with hq;subst hq;exact⟨_,aN _ _ _,rfl,rfl,IX _,λ_=>rfl⟩
  .exact⟨b,by rw[bU e'];exact hq,dq _ _⟩
 refine⟨hm.touch hk (λ_ _ _=>rfl) (IX _) rfl rfl rfl (λ_ _ _ _ h=>h) (λo hf=>?_) ⟨rfl,rfl,IX _,λ_=>rfl⟩ Pp (by have h9:=hm.own k _ hk;exact h9) ?_,?_⟩
 .simp only[Blk.frz]at hf|-;exact Ny hf (Kz _ h2)
 .refine⟨h1,IX _,h3,h4,λhn=>?_⟩
  obtain⟨a1,a2,arr,a3,a4,a5⟩:=h5 hn;refine⟨a1,a2,arr,a3,a4,λi x j p hx hj=>?_⟩;obtain⟨u,hu,hr⟩:=a5 i x j p hx hj;exact⟨u,hu,hr.mono hpres⟩
 .unfold Loc.slice
  cases hn:(L k).isNil with
  |true=>rw[h4 hn];exact .sl0 none 0
  |false=>
   obtain⟨a1,a2,arr,a3,a4,a5⟩:=h5 hn;simp only[IA,JE]
   have hcell:∀(i:Nat) x(j:Nat) p,xs[i]?=some x->x.cells[j]?=some p->∃u,arr[i*sz+j]?=some u∧Rep w (af C L (ai h k (some (.row e sz xs xs.length)))) p u:=by
    intro i x j p hx hj;obtain⟨u,hu,hr⟩:=a5 i x j p hx hj;exact⟨u,hu,hr.mono hpres⟩
   refine .sl xs (L k).b 0 (L k).cap sz (λi j=>(arr[i*sz+j]?).getD undef) a1 (λi x hx=>h3 x (HW hx)) ?_ ?_
   .intro i x j p hx hj
    obtain⟨u,hu,hr⟩:=hcell i x j p hx hj;refine⟨by rw[fl a3];simp[hu],?_⟩;rintro(h0|⟨q,b',hq,hl,hb',hf⟩)
    .have:=hm.m0 _ _ h0
     rcases(hm.own k _ hk).row hn with h9|h9
     all_goals grind
    .by_cases eq:q=k
     .subst eq
      rw[aN]at hq;injection hq with hq;subst hq;apply hf;simp only[Blk.frz];have hi:i<xs.length:=(th.1 hx).1
      have hj':j<sz:=by rw[<-h3 x (HW hx)];exact(th.1 hj).1
      have:(i+1)*sz<=xs.length*sz:=Kz _ hi
      grind
     .rw[bU eq]at hq
      exact hm.sep q k b' _ eq hq hk hl hn hb'
   grind
theorem rW(hm:MemL C L h w){fz:Bool}(hk:h k=some (.box cs true fz))
 (hpq:∀arr ty,w.heap[(L k).b]?=some (.cells arr ty (0,0))->aK w (af C L h) L h cs arr.toList->cO w (af C L h) ps arr.toList):
 aP C L h w L (ai h k (some (.box cs true true))) w∧∃u:Nat->Value,∀(j:Nat) p,ps[j]?=some p->
  (w.cell? ⟨(L k).b,0+j,none⟩=some (u j)∧¬af C L (ai h k (some (.box cs true true))) (L k).b (0+j))∧Rep w (af C L (ai h k (some (.box cs true true)))) p (u j):=by
 obtain⟨arr,ty,e1,e2⟩:=hm.bl k _ hk
 have hsub:∀b o,af C L (ai h k (some (.box cs true true))) b o->af C L h b o:=by
  rintro b o (h0|⟨q,b',hq,hl,hb',hf⟩)
  .exact .inl h0
  .by_cases eq:q=k
   .subst eq
    rw[aN]at hq;injection hq with hq;subst hq;exact absurd rfl hf
   .rw[bU eq]at hq;exact .inr ⟨q,b',hq,hl,hb',hf⟩
 have hpres:Pres w (af C L h) w (af C L (ai h k (some (.box cs true true)))):=Pres.sub hsub
 have hkc:KC L h L (ai h k (some (.box cs true true))):=by
  intro q b hq;by_cases e':q=k
  .subst e';rw[hk]at hq;injection hq with hq;subst hq;exact⟨_,aN _ _ _,rfl⟩
  .exact⟨b,by rw[bU e'];exact hq,dq _ _⟩
 have hr:aK w (af C L (ai h k (some (.box cs true true)))) L (ai h k (some (.box cs true true))) cs arr.toList:=⟨e2.1,λi p u hp hu=>(e2.2 i p u hp hu).mono hpres hkc⟩;refine⟨hm.touch hk (λ_ _ _=>rfl) (IX _) rfl rfl rfl (λ_ _ _ _ h=>h) (λ_ _=>rfl) rfl Pp (by have h9:=hm.own k _ hk;exact h9) ⟨arr,ty,e1,hr⟩,λj=>(arr[j]?).getD undef,λj p hj=>?_⟩;have hR:=hpq arr ty e1 e2
 have hlt:j<arr.toList.length:=by rw[<-hR.1];exact(th.1 hj).1
 have hu:arr.toList[j]?=some (arr.toList[j]):=an hlt
 have hu':arr[j]?=some (arr.toList[j]):=by rw[<-M7];exact hu
 refine⟨⟨by rw[fl e1,NU];simp only[hu',JX],?_⟩,?_⟩
 .rintro(h0|⟨q,b',hq',hl',hb',hf⟩)
  .have:=hm.m0 _ _ h0
   rcases hm.own k _ hk with h9|h9
   all_goals grind
  .by_cases eq:q=k
   .subst eq
    rw[aN]at hq';injection hq' with hq';subst hq';exact hf rfl
   .rw[bU eq]at hq'
    exact hm.sep q k b' _ eq hq' hk hl' trivial hb'
 .simp only[hu',JX]
  exact(hR.2 j p _ hj hu).mono hpres
theorem Gd(hm:MemL C L h w){fz:Bool}{x:PV}(hk:h k=some (.box cs true fz))(hx:x.cells.map .pv=cs):
 aP C L h w L (ai h k (some (.box cs true true))) w∧Rep w (af C L (ai h k (some (.box cs true true)))) (.rptr x 0) (.pointer (some ⟨(L k).b,0,none⟩)):=by
 obtain⟨a,u,hu⟩:=rW hm (ps:=x.cells) hk (λarr ty _ hr=>by rw[<-hx]at hr;exact aK.map_pv_inv hr);exact⟨a,.rptr x (L k).b 0 0 u (λj p hj=>(hu j p hj).1) (λj p hj=>(hu j p hj).2)⟩
theorem EI(hm:MemL C L h w){c:Nat}(hnc:n<=c){fz:Bool}(hk:h k=some (.box cs true fz))(hn:n<=ps.length)(ho:∀p∈ps,p.cells=[p])
 (hq:∀arr ty,w.heap[(L k).b]?=some (.cells arr ty (0,0))->aK w (af C L h) L h cs arr.toList->cO w (af C L h) ps arr.toList):
 aP C L h w L (ai h k (some (.box cs true true))) w∧Rep w (af C L (ai h k (some (.box cs true true)))) (.sl (ps.take n)) (.slice (some ⟨(L k).b,0,none⟩) n c):=by
 obtain⟨a,u,hu⟩:=rW hm hk hq;refine⟨a,?_⟩
 have hl:(ps.take n).length=n:=by rw[MD];omega
 have tk:∀{i:Nat}{x},(ps.take n)[i]?=some x->ps[i]?=some x:=by
  intro i x hx;rw[KN]at hx;split at hx
  .exact hx
  .cases hx
 have one:∀(i:Nat) x(j:Nat) p,ps[i]?=some x->x.cells[j]?=some p->j=0∧p=x:=by
  intro i x j p hx hj;rw[ho x (HW hx)]at hj
  cases j with
  |zero=>simp at hj;exact⟨rfl,hj.symm⟩
  |succ j=>simp at hj
 have key:Rep w (af C L (ai h k (some (.box cs true true)))) (.sl (ps.take n)) (.slice (some ⟨(L k).b,0,none⟩) (ps.take n).length c):=by
  refine .sl (ps.take n) (L k).b 0 c 1 (λi _=>u i) (by omega) (λi x hx=>by rw[ho x (HW (tk hx))];rfl) ?_ ?_
  all_goals grind
 grind
theorem Ge(hm:MemL C L h w){kd:IntKind}{fz:Bool}(hk:h k=some (.mp kd n es fz)):
 aP C L h w L (ai h k (some (.mp kd n es true))) w∧Rep w (af C L (ai h k (some (.mp kd n es true)))) (.mp kd n es) (.map (some (L k).b)):=by
 obtain⟨arr,clock,e1,e2⟩:=hm.bl k _ hk
 have hsub:∀b o,af C L (ai h k (some (.mp kd n es true))) b o->af C L h b o:=by
  rintro b o (h0|⟨q,b',hq,hl,hb',hf⟩)
  .exact .inl h0
  .by_cases eq:q=k
   .subst eq
    rw[aN]at hq;injection hq with hq;subst hq;exact absurd rfl hf
   .rw[bU eq]at hq;exact .inr ⟨q,b',hq,hl,hb',hf⟩
 have hpres:Pres w (af C L h) w (af C L (ai h k (some (.mp kd n es true)))):=Pres.sub hsub
 have hkc:KC L h L (ai h k (some (.mp kd n es true))):=by
  intro q b hq;by_cases e':q=k
  .subst e';rw[hk]at hq;injection hq with hq;subst hq;exact⟨_,aN _ _ _,rfl,rfl,rfl⟩
  grind [bU,dq]
 refine⟨⟨⟨hm.ext,hm.m0,?_,?_,?_⟩,hpres,hkc⟩,.mp kd n es _ arr clock e1 ?_ e2⟩
 .intro q b hq
  by_cases e':q=k
  .subst e';rw[aN]at hq;injection hq with hq;subst hq;exact⟨arr,clock,e1,e2⟩
  .rw[bU e']at hq;exact(hm.bl q b hq).mono hpres hkc (λ_=>rfl)
 .intro q q' b1 b2 hne hq hq' hl hl'
  have lift:∀q b,ai h k (some (.mp kd n es true)) q=some b->b.live (L q)->∃b',h q=some b'∧b'.live (L q):=by
   intro q b hq hl;by_cases e':q=k
   .subst e';exact⟨_,hk,trivial⟩
   grind [bU]
  obtain⟨c1,d1,d2⟩:=lift q b1 hq hl;obtain⟨c2,d3,d4⟩:=lift q' b2 hq' hl';exact hm.sep q q' c1 c2 hne d1 d3 d2 d4
 .intro q b hq
  by_cases e':q=k
  .subst e';rw[aN]at hq;injection hq with hq;subst hq;have:=hm.own q _ hk;exact this
  .rw[bU e']at hq;exact hm.own q b hq
 .rintro(h0|⟨q,b',hq',hl',hb',hf⟩)
  .have:=hm.m0 _ _ h0
   have h9:=hm.own k _ hk
   grind [fC]
  .by_cases eq:q=k
   .subst eq
    rw[aN]at hq';injection hq' with hq';subst hq';exact hf rfl
   .rw[bU eq]at hq'
    exact hm.sep q k b' _ eq hq' hk hl' trivial hb'
theorem dn(h:Hp)(W W':List (Nat×Blk)):am h (W++W')=am (am h W) W':=by simp[am,VA]
theorem jc(h:Hp)(k:Nat)(b:Blk):am h [(k,b)]=ai h k (some b):=rfl
theorem jz(h:lC p=true):p.cells=[p]:=by
 cases p with
 |val v=>cases v<;>simp_all[lC,PV.cells,Value.cells,Value.oneCell']
 |agg _=>simp[lC]at h
 |tup _=>simp[lC]at h
 |_=>rfl
theorem BF:∀{cs:List PV}{vs:List Value},fg cs=some vs->cs=vs.map .val
 |[],vs,h=>by simp[fg]at h;subst h;rfl
 |.val v::r,vs,h=>by
  simp only[fg,Ii]at h;obtain⟨vs',h',rfl⟩:=h;rw[BF h'];rfl
 |.agg _::_,_,h=>by simp[fg]at h
 |.sl _::_,_,h=>by simp[fg]at h
 |.rptr _ _::_,_,h=>by simp[fg]at h
 |.fn _ _ _::_,_,h=>by simp[fg]at h
 |.tup _::_,_,h=>by simp[fg]at h
 |.ifc _ _::_,_,h=>by simp[fg]at h
 |.hd _::_,_,h=>by simp[fg]at h
 |.mp _ _ _::_,_,h=>by simp[fg]at h
theorem lw(ps:List PV):(iA ps).cells=ps:=by
 unfold iA;split
 .rename_i vs hv;simp[PV.cells,Value.cells,BF hv]
 .rfl
section
variable {C:Cx} {L:Nat->Loc} {h1 h:Hp} {w:World}
theorem Ac(hm:MemL C L h w)(hf:dr h1 h)(hx:RepA w (af C L h) L h x u)(e:lN h1 x=some (p,W)):
 aP C L h w L (am h W) w∧Rep w (af C L (am h W)) p u∧dr h1 (am h W):=by
 cases x with
 |pv q=>
  simp only[lN,IL,JR]at e;obtain⟨rfl,rfl⟩:=e
  cases hx with
  |pv hr=>exact⟨aP.refl hm,Je hr,hf⟩
 |arr k n=>
  simp only[lN]at e;split at e
  .rename_i ee sz xs fz hk
   split at e
   .rename_i hn
    simp only[IL,JR]at e;obtain⟨rfl,rfl⟩:=e;obtain⟨fz',hk',hle⟩:=hf.row hk
    cases hx with
    |arr hk2 hn2 hu=>
     rw[hk']at hk2;injection hk2 with hk2;injection hk2 with a1 a2 a3 a4;subst a1;subst a2;subst a3;subst a4;have:=Aa hm hk';rw[hu hn,<-hn];have hb:=(hm.bl k _ hk').2.1;exact⟨this.1,this.2,hf.set_row hk (by omega)⟩
   .cases e
  .cases e
 |ptr=>simp[lN]at e
 |eptr=>simp[lN]at e
 |agg=>simp[lN]at e
 |fn=>simp[lN]at e
 |tup=>simp[lN]at e
 |undef=>simp[lN]at e
 |ext y=>
  cases y with
  |barr=>simp[lN]at e
  |suf=>simp[lN]at e
  |mp k=>
   simp only[lN]at e;split at e
   .rename_i kd n es fz hk
    simp only[IL,JR]at e;obtain⟨rfl,rfl⟩:=e;obtain⟨fz',hk',_⟩:=hf.mp hk;have:=Ge hm hk'
    cases hx with
    |ext hx'=>cases hx' with
     |mp _=>exact⟨this.1,this.2,hf.set_mp hk⟩
   .cases e
theorem aK.mono{w:World}{L:Nat->Loc}{h:Hp}(hp:Pres w M w' M')(hc:KC L h L' h'){ps:List AV}(hx:aK w M L h ps us):aK w' M' L' h' ps us:=
 ⟨hx.1,λi p u h1 h2=>(hx.2 i p u h1 h2).mono hp hc⟩
theorem tJ:∀{xs:List AV}{h:Hp}(_:MemL C L h w)(_:dr h1 h){us:List Value}(_:aK w (af C L h) L h xs us){ps:List PV}{W:List (Nat×Blk)}(_:ni h1 xs=some (ps,W)),
 aP C L h w L (am h W) w∧cO w (af C L (am h W)) ps us∧dr h1 (am h W)
 |[],h,hm,hf,us,hx,ps,W,e=>by
  simp only[ni,IL,JR]at e;obtain⟨rfl,rfl⟩:=e;rw[hx.nil_inv];exact⟨aP.refl hm,cO.nil,hf⟩
 |x::r,h,hm,hf,us,hx,ps,W,e=>by
  simp only[ni]at e;split at e
  .rename_i p W1 ps' W2 e1 e2
   simp only[IL,JR]at e;obtain⟨rfl,rfl⟩:=e;obtain⟨u,us',rfl,hu,hr⟩:=hx.cons_inv;obtain⟨a1,a2,a3⟩:=Ac hm hf hu e1;obtain⟨b1,b2,b3⟩:=tJ a1.1 a3 (hr.mono a1.2.1 a1.2.2) e2;rw[dn];exact⟨a1.trans b1,.cons (a2.mono b1.2.1) b2,b3⟩
  .cases e
theorem og(hm:MemL C L h w)(hf:dr h1 h)(hx:RepA w (af C L h) L h x u)(e:tG h1 x=some (p,W)):
 aP C L h w L (am h W) w∧Rep w (af C L (am h W)) p u∧dr h1 (am h W):=by
 unfold tG at e;split at e
 .rename_i k n c0
  split at e
  .rename_i cs fz hk
   have main:∀{ps:List PV}{W':List (Nat×Blk)},n<=cs.length->ni h1 cs=some (ps,W')->ps.all lC=true->W=W'++[(k,.box cs true true)]->p=.sl (ps.take n)->aP C L h w L (am h W) w∧Rep w (af C L (am h W)) p u∧dr h1 (am h W):=by
    intro ps W' hn e1 ho eW ep;subst eW;subst ep;obtain⟨fz',hk',_⟩:=hf.box hk;obtain⟨arr,ty,h1',h2'⟩:=hm.bl k _ hk';obtain⟨a1,a2,a3⟩:=tJ hm hf h2' e1;obtain⟨fz2,hk2,_⟩:=a3.box hk
    have hlen:n<=ps.length:=by rw[a2.1,<-h2'.1];exact hn
    rw[dn]
    cases hx with
    |ext hx'=>cases hx' with
     |barr hc9 _=>
      have:=EI a1.1 hc9 (ps:=ps) hk2 hlen (λp hp=>jz (Ij.1 ho p hp)) (λarr' ty' h3 _=>by rw[h1']at h3;injection h3 with h3;injection h3 with h3;subst h3;exact a2);exact⟨a1.trans this.1,this.2,a3.set_box hk⟩
   have hlenc:∀{ps:List PV}{W':List (Nat×Blk)},ni h1 cs=some (ps,W')->ps.length=cs.length:=by
    intro ps W' e1;obtain⟨fz',hk',_⟩:=hf.box hk;obtain⟨arr,ty,h1',h2'⟩:=hm.bl k _ hk';obtain⟨_,a2,_⟩:=tJ hm hf h2' e1;rw[a2.1,<-h2'.1]
   grind
  .cases e
 grind [Ac]
theorem oh:∀{xs:List AV}{h:Hp}(_:MemL C L h w)(_:dr h1 h){us:List Value}(_:aK w (af C L h) L h xs us){ps:List PV}{W:List (Nat×Blk)}(_:qG h1 xs=some (ps,W)),
 aP C L h w L (am h W) w∧cO w (af C L (am h W)) ps us∧dr h1 (am h W)
 |[],h,hm,hf,us,hx,ps,W,e=>by
  simp only[qG,IL,JR]at e;obtain⟨rfl,rfl⟩:=e;rw[hx.nil_inv];exact⟨aP.refl hm,cO.nil,hf⟩
 |x::r,h,hm,hf,us,hx,ps,W,e=>by
  simp only[qG]at e;split at e
  .rename_i p W1 ps' W2 e1 e2
   simp only[IL,JR]at e;obtain⟨rfl,rfl⟩:=e;obtain⟨u,us',rfl,hu,hr⟩:=hx.cons_inv;obtain⟨a1,a2,a3⟩:=og hm hf hu e1;obtain⟨b1,b2,b3⟩:=oh a1.1 a3 (hr.mono a1.2.1 a1.2.2) e2;rw[dn];exact⟨a1.trans b1,.cons (a2.mono b1.2.1) b2,b3⟩
  .cases e
theorem wA(hm:MemL C L h w)(hf:dr h1 h)(hx:RepA w (af C L h) L h x u)(e:rU h1 x=some (p,W)):
 aP C L h w L (am h W) w∧Rep w (af C L (am h W)) p u∧dr h1 (am h W):=by
 unfold rU at e;split at e
 .simp only[IL,JR]at e
  obtain⟨rfl,rfl⟩:=e
  cases hx with
  |pv hr=>exact⟨aP.refl hm,hr,hf⟩
 .rename_i k
  split at e
  .rename_i cs fz hk
   obtain⟨fz',hk',_⟩:=hf.box hk
   have key:∀y:PV,y.cells.map .pv=cs->aP C L h w L (am h [(k,.box cs true true)]) w∧Rep w (af C L (am h [(k,.box cs true true)])) (.rptr y 0) u∧dr h1 (am h [(k,.box cs true true)]):=by
    intro y hy;obtain⟨a1,a2⟩:=Gd hm hk' hy
    cases hx with
    |ptr _=>exact⟨a1,a2,hf.set_box hk⟩
   split at e
   .rename_i ps hp
    have hc:=qb hp;split at e
    .rename_i hq
     simp only[IL,JR]at e;obtain⟨rfl,rfl⟩:=e
     exact key _ (by rw[hc];congr 1;cases ps with
      |nil=>simp[jT]at hq
      |cons q r=>cases r with
       |nil=>simp only[jT]at hq;exact jz hq
       |cons _ _=>simp[jT]at hq)
    grind [Option.some.injEq,lw]
   .split at e
    .rename_i ps W' e1
     obtain⟨arr,ty,h1',h2'⟩:=hm.bl k _ hk';obtain⟨a1,a2,a3⟩:=oh hm hf h2' e1;obtain⟨fz2,hk2,_⟩:=a3.box hk
     have key2:∀y:PV,y.cells=ps->aP C L h w L (am h (W'++[(k,.box cs true true)])) w∧Rep w (af C L (am h (W'++[(k,.box cs true true)]))) (.rptr y 0) u∧dr h1 (am h (W'++[(k,.box cs true true)])):=by
      intro y hy;obtain⟨b1,uu,hu⟩:=rW a1.1 (ps:=ps) hk2 (λarr' ty' h3 _=>by rw[h1']at h3;injection h3 with h3;injection h3 with h3;subst h3;exact a2);rw[dn]
      cases hx with
      |ptr _=>exact⟨a1.trans b1,.rptr y (L k).b 0 0 uu (λj p hj=>(hu j p (hy▸hj)).1) (λj p hj=>(hu j p (hy▸hj)).2),a3.set_box hk⟩
     split at e
     .rename_i hq
      simp only[IL,JR]at e;obtain⟨rfl,rfl⟩:=e
      exact key2 _ (by cases ps with
       |nil=>simp[jT]at hq
       |cons q r=>cases r with
        |nil=>simp only[jT]at hq;exact jz hq
        |cons _ _=>simp[jT]at hq)
     grind [Option.some.injEq,lw]
    .cases e
  .cases e
 .cases e
theorem qI:∀{xs:List AV}{h:Hp}(_:MemL C L h w)(_:dr h1 h){us:List Value}(_:aK w (af C L h) L h xs us){ps:List PV}{W:List (Nat×Blk)}(_:lu h1 xs=some (ps,W)),
 aP C L h w L (am h W) w∧cO w (af C L (am h W)) ps us∧dr h1 (am h W)
 |[],h,hm,hf,us,hx,ps,W,e=>by
  simp only[lu,IL,JR]at e;obtain⟨rfl,rfl⟩:=e;rw[hx.nil_inv];exact⟨aP.refl hm,cO.nil,hf⟩
 |x::r,h,hm,hf,us,hx,ps,W,e=>by
  simp only[lu]at e;split at e
  .rename_i p W1 ps' W2 e1 e2
   simp only[IL,JR]at e;obtain⟨rfl,rfl⟩:=e;obtain⟨u,us',rfl,hu,hr⟩:=hx.cons_inv;obtain⟨a1,a2,a3⟩:=wA hm hf hu e1;obtain⟨b1,b2,b3⟩:=qI a1.1 a3 (hr.mono a1.2.1 a1.2.2) e2;rw[dn];exact⟨a1.trans b1,.cons (a2.mono b1.2.1) b2,b3⟩
  .cases e
theorem Gf(hm:MemL C L h w)(hf:dr h1 h)(hx:RepA w (af C L h) L h x u)(e:AT h1 x=some (p,W)):
 aP C L h w L (am h W) w∧Rep w (af C L (am h W)) p u∧dr h1 (am h W):=by
 unfold AT at e;split at e
 .rename_i cs
  split at e
  .rename_i ps W' e1
   simp only[IL,JR]at e;obtain⟨rfl,rfl⟩:=e
   cases hx with
   |agg _ vs hl hh=>
    obtain⟨a1,a2,a3⟩:=oh hm hf ⟨hl,hh⟩ e1
    grind [lM]
  .cases e
 .rename_i f first caps
  split at e
  .rename_i ps W1 qs W2 e1 e2
   simp only[IL,JR]at e;obtain⟨rfl,rfl⟩:=e
   cases hx with
   |fn _ _ _ vs us hl hk hh1 hh2=>
    obtain⟨a1,a2,a3⟩:=oh hm hf ⟨hl,hh1⟩ e1;obtain⟨b1,b2,b3⟩:=qI a1.1 a3 (aK.mono a1.2.1 a1.2.2 ⟨hk,hh2⟩) e2;rw[dn];exact⟨a1.trans b1,.fn f ps qs vs us (a2.1.trans rfl) b2.1 (a2.mono b1.2.1).2 b2.2,b3⟩
  .cases e
 grind [og]
theorem tK:∀{xs:List AV}{h:Hp}(_:MemL C L h w)(_:dr h1 h){us:List Value}(_:aK w (af C L h) L h xs us){ps:List PV}{W:List (Nat×Blk)}(_:pO h1 xs=some (ps,W)),
 aP C L h w L (am h W) w∧cO w (af C L (am h W)) ps us∧dr h1 (am h W)
 |[],h,hm,hf,us,hx,ps,W,e=>by
  simp only[pO,IL,JR]at e;obtain⟨rfl,rfl⟩:=e;rw[hx.nil_inv];exact⟨aP.refl hm,cO.nil,hf⟩
 |x::r,h,hm,hf,us,hx,ps,W,e=>by
  simp only[pO]at e;split at e
  .rename_i p W1 ps' W2 e1 e2
   simp only[IL,JR]at e;obtain⟨rfl,rfl⟩:=e;obtain⟨u,us',rfl,hu,hr⟩:=hx.cons_inv;obtain⟨a1,a2,a3⟩:=Gf hm hf hu e1;obtain⟨b1,b2,b3⟩:=tK a1.1 a3 (hr.mono a1.2.1 a1.2.2) e2;rw[dn];exact⟨a1.trans b1,.cons (a2.mono b1.2.1) b2,b3⟩
  .cases e
theorem nN(hm:MemL C L h w)(hf:dr h1 h)(hx:RepA w (af C L h) L h x u)(e:frz h1 x=some (p,W)):
 aP C L h w L (am h W) w∧Rep w (af C L (am h W)) p u∧dr h1 (am h W):=by
 unfold frz at e;split at e
 .rename_i cs
  split at e
  .rename_i ps W' e1
   simp only[IL,JR]at e;obtain⟨rfl,rfl⟩:=e
   cases hx with
   |agg _ vs hl hh=>
    obtain⟨a1,a2,a3⟩:=tK hm hf ⟨hl,hh⟩ e1
    grind [lM]
  .cases e
 .rename_i f first caps
  split at e
  .rename_i ps W1 qs W2 e1 e2
   simp only[IL,JR]at e;obtain⟨rfl,rfl⟩:=e
   cases hx with
   |fn _ _ _ vs us hl hk hh1 hh2=>
    obtain⟨a1,a2,a3⟩:=oh hm hf ⟨hl,hh1⟩ e1;obtain⟨b1,b2,b3⟩:=qI a1.1 a3 (aK.mono a1.2.1 a1.2.2 ⟨hk,hh2⟩) e2;rw[dn];exact⟨a1.trans b1,.fn f ps qs vs us (a2.1.trans rfl) b2.1 (a2.mono b1.2.1).2 b2.2,b3⟩
  .cases e
 .rename_i vs
  split at e
  .rename_i ps W' e1
   simp only[IL,JR]at e;obtain⟨rfl,rfl⟩:=e
   cases hx with
   |tup _ vs' hl hh=>
    obtain⟨a1,a2,a3⟩:=tK hm hf ⟨hl,hh⟩ e1;exact⟨a1,.tup ps vs' a2.1 a2.2,a3⟩
  .cases e
 grind [og]
theorem vU(hm:MemL C L h w)(hs:∀k b,h1 k=some b->h k=some b)(hx:RepA w (af C L h) L h x u)(e:gq h1 x=some (cs,off)):
 ∃b o,u=.pointer (some ⟨b,o+off,none⟩)∧∀(j:Nat) c,cs[j]?=some c->∃v,w.cell? ⟨b,o+j,none⟩=some v∧RepA w (af C L h) L h c v:=by
 cases x with
 |ptr k off'=>
  simp only[gq]at e;split at e
  .rename_i cs' own fz hk
   simp only[IL,JR]at e;obtain⟨rfl,rfl⟩:=e;obtain⟨arr,ty,e1,e2⟩:=hm.bl k _ (hs _ _ hk)
   cases hx with
   |ptr _=>
    refine⟨(L k).b,0,by simp,λj c hj=>?_⟩
    have hlt:j<arr.toList.length:=by rw[<-e2.1];exact(th.1 hj).1
    have hu:arr.toList[j]?=some (arr.toList[j]):=an hlt;exact⟨_,by rw[fl e1,NU,<-M7];exact hu,e2.2 j c _ hj hu⟩
  .cases e
 |pv p=>
  cases p with
  |rptr y off'=>
   simp only[gq,IL,JR]at e;obtain⟨rfl,rfl⟩:=e
   cases hx with
   |pv hr=>cases hr with
    |rptr _ b o _ uu hc hr=>
     refine⟨b,o,rfl,λj c hj=>?_⟩;simp only[Is,Ii]at hj;obtain⟨q,hq,rfl⟩:=hj;exact⟨uu j,(hc j q hq).1,.pv (hr j q hq)⟩
  |_=>simp[gq]at e
 |eptr k n i off'=>
  simp only[gq]at e;split at e
  .rename_i ee sz xs fz hk
   split at e
   .rename_i hn
    split at e
    .rename_i y hy
     simp only[IL,JR]at e;obtain⟨rfl,rfl⟩:=e;have hk':=hs _ _ hk
     cases hx with
     |eptr hk2 hn2 hu=>
      rw[hk']at hk2;injection hk2 with hk2;injection hk2 with a1 a2 a3 a4;subst a1;subst a2;subst a3;subst a4;obtain⟨hnil,rfl⟩:=hu hn;rcases nM hm hk' with⟨hh,_⟩|⟨_,_,_,arr,e1,_,e3⟩
      .grind
      .refine⟨(L k).b,i*sz,rfl,λj c hj=>?_⟩
       simp only[Is,Ii]at hj;obtain⟨q,hq,rfl⟩:=hj;obtain⟨v,hv,hr⟩:=e3 i y j q hy hq;exact⟨v,by rw[fl e1];exact hv,.pv hr⟩
    .cases e
   .cases e
  .cases e
 |arr=>simp[gq]at e
 |agg=>simp[gq]at e
 |fn=>simp[gq]at e
 |tup=>simp[gq]at e
 |ext=>simp[gq]at e
 |undef=>simp[gq]at e
theorem CW(e:zS h1 sz x=some p):gq h1 x=some (p.cells.map .pv,0)∧qc p=true∧p.cells.length=sz:=by
 unfold zS at e;split at e
 .rename_i y
  split at e
  .rename_i hy
   injection e with e;subst e;simp only[An,Nj]at hy;exact⟨rfl,hy.1,hy.2⟩
  .cases e
 .rename_i k n i
  split at e
  .rename_i ee s xs fz hk
   split at e
   .rename_i hn
    split at e
    .rename_i y hy
     split at e
     all_goals simp_all[An,gq]
    .cases e
   .cases e
  .cases e
 .cases e
theorem aY(hr:Rep w M (.val v) u):u=v:=by cases hr;rfl
theorem CX(ha:qc p=true)(hr:cO w M p.cells us):Rep w M p (.agg us.toArray):=by
 cases p with
 |agg cs=>exact .agg cs us hr.1 hr.2
 |val v=>
  cases v with
  |agg arr=>
   have:us=arr.toList:=by
    apply My;intro i;by_cases hi:i<us.length
    .have hl:=hr.1
     simp only[PV.cells,Value.cells,Lf,On]at hl;have h2:arr.toList[i]?=some (arr.toList[i]'(by simp;omega)):=an _;have h3:=hr.2 i (.val (arr.toList[i]'(by simp;omega))) us[i] (by simp[PV.cells,Value.cells,h2]) (an hi)
     grind [List.getElem?_eq_getElem,aY]
    .rw[Jr (by omega),Jr]
     have hl:=hr.1;simp only[PV.cells,Value.cells,Lf]at hl;omega
   rw[this];exact .val _
  |_=>simp[qc]at ha
 |_=>simp[qc]at ha
theorem A0(hc:∀(j:Nat) c,cs[j]?=some c->∃v,w.cell? ⟨b,o+j,none⟩=some v∧RepA w M L h c v):
 ∃us:List Value,us.length=cs.length∧(∀(j:Nat) v,us[j]?=some v->w.cell? ⟨b,o+j,none⟩=some v)∧aK w M L h cs us:=by
 induction cs generalizing o with
 |nil=>exact⟨[],rfl,λj v hj=>by simp at hj,aK.nil⟩
 |cons c r ih=>
  obtain⟨v,hv,hr⟩:=hc 0 c rfl;obtain⟨us,h1,h2,h3⟩:=ih (o:=o+1) (λj c' hj=>by have:=hc (j+1) c' (by simpa using hj);rwa [show o+(j+1)=o+1+j from by omega]at this);refine⟨v::us,by simp[h1],λj v' hj=>?_,.cons hr h3⟩
  grind
theorem iD(e:ao P t=some ti):∃i d,P.info? t=some i∧P.underlying t=some d∧ti.size=i.size∧ti.zero=i.zero∧
 ti.kind=(match d with
  |.struct fs=>.struct (fs.toList.map λf=>(f.offset,oY P f.type))
  |.array n e=>.array n (oY P e)
  |.slice e=>match P.info? e with
   |some j=>.slice e j.size j.bytes j.zero
   |none=>.one
  |_=>.one):=by
 grind [ao]
theorem Ae(e:ao P t=some ti):mO P t=true:=by
 grind [ao]
theorem dR{d:TypeDesc}(e:P.underlying t=some d)(w:World):(underlying t).run P w=.ok d w:=by
 simp[underlying,program,Sem.run,e]
theorem nO{i:TypeInfo}(e:P.info? t=some i)(w:World):(typeInfo t).run P w=.ok i w:=by
 simp[typeInfo,program,Sem.run,e]
theorem gO{i:TypeInfo}(e:P.info? t=some i)(w:World):(sizeOf t).run P w=.ok i.size w:=by
 simp[sizeOf,nO e]
theorem BG(e:ao P t=some ti)(w:World):(isAgg t).run P w=.ok ti.kind.isAgg w:=by
 obtain⟨i,d,_,h2,_,_,hk⟩:=iD e;rw[hk];unfold isAgg;rw[Sem.run_bind,dR h2];simp only[Result.andThen_ok]
 cases d<;>first|rfl|skip
 rename_i e'
 show Result.ok false w=.ok (TK.isAgg (match P.info? e' with
  |some j=>TK.slice e' j.size j.bytes j.zero
  |none=>TK.one)) w
 split<;>rfl
theorem wC(hm:MemL C L h w)(hs:∀k b,h1 k=some b->h k=some b)(ht:ao C.P t=some ti){v:AV}(hx:RepA w (af C L h) L h x u)(e:wv ti x h1=some v):
 ∃r,(Instr.loadAt t u).run C.P w=.ok r w∧RepA w (af C L h) L h v r:=by
 obtain⟨i,d,hi,hd,hsz,_,_⟩:=iD ht;unfold wv at e;split at e
 .rename_i hag
  have key:∀cs off,gq h1 x=some (cs,off)->off+ti.size<=cs.length->∃us,(Instr.loadAt t u).run C.P w=.ok (.agg us.toArray) w∧aK w (af C L h) L h ((cs.drop off).take ti.size) us:=by
   intro cs off hc hle;obtain⟨b,o,rfl,hcell⟩:=vU hm hs hx hc
   have hrange:∀(j:Nat) c,((cs.drop off).take ti.size)[j]?=some c->∃v,w.cell? ⟨b,(o+off)+j,none⟩=some v∧RepA w (af C L h) L h c v:=by
    grind
   obtain⟨us,hl,hus,hr⟩:=A0 hrange;refine⟨us,?_,hr⟩
   have hlen:us.length=i.size:=by rw[hl,<-hsz,MD,Q7];omega
   simp only[Instr.loadAt,Instr.sureAddr,pure_bind,loadVar,Sem.run_bind,BG ht,hag,Result.andThen_ok,J4,gO hi];rw[<-hlen,run_loadCells_list w _ us (λj v hj=>by rw[fy];exact hus j v hj)];rfl
  split at e
  .rename_i p hw
   injection e with e;subst e;obtain⟨h2,h3,h4⟩:=CW hw;obtain⟨us,h5,h6⟩:=key _ _ h2 (by simp[h4]);refine⟨_,h5,.pv (CX h3 ?_)⟩;rw[VT,KL (by simp[h4])]at h6;exact h6.map_pv_inv
  grind [tF]
 .rename_i hag
  split at e
  .rename_i cs off hc
   obtain⟨b,o,rfl,hcell⟩:=vU hm hs hx hc;obtain⟨r,hr1,hr2⟩:=hcell off v e;refine⟨r,?_,hr2⟩
   have hag':ti.kind.isAgg=false:=by simpa using hag
   simp only[Instr.loadAt,Instr.sureAddr,pure_bind,loadVar,Sem.run_bind,BG ht,hag',Result.andThen_ok,IA,JE,run_load,hr1]
  .cases e
end
theorem MemL.touch_pk(hm:MemL C L h w){blk':Blk}(hk:h k=some blk)
 (hw:∀b,b<w.heap.size->(blk.live (L k)->b≠(L k).b)->w'.heap[b]?=w.heap[b]?)
 (hpr:∀o v,blk.live (L k)->blk.frz o->w.cell? ⟨(L k).b,o,none⟩=some v->w'.cell? ⟨(L k).b,o,none⟩=some v)(hfr:∀o,blk.frz o->blk'.frz o)(hcp:eF blk (L k) blk' (L k))
 (hlv:blk'.live (L k)↔blk.live (L k))(hnm:∀kd n es,blk≠.mp kd n es true:=by intro _ _ _ h;cases h):Pres w (af C L h) w' (af C L (ai h k (some blk')))∧KC L h L (ai h k (some blk')):=by
 have hkc:KC L h L (ai h k (some blk')):=by
  intro q b hq
  grind [aN,bU,dq]
 have hM:∀b o,af C L (ai h k (some blk')) b o->af C L h b o:=by
  rintro b o (h0|⟨q,b',hq,hl,hb',hf⟩)
  .exact .inl h0
  .by_cases e:q=k
   .subst e
    rw[aN]at hq;injection hq with hq;subst hq;exact .inr ⟨q,blk,hk,hlv.1 hl,hb',λhff=>hf (hfr o hff)⟩
   .rw[bU e]at hq
    exact .inr ⟨q,b',hq,hl,hb',hf⟩
 refine⟨⟨?_,λb arr c hc hn=>⟨?_,λhM'=>hn (hM b 0 hM')⟩⟩,hkc⟩
 case refine_2=>
  have hlt:=xy hc;by_cases hl:blk.live (L k)
  .by_cases e:b=(L k).b
   .subst e
    have hr:=hm.bl k blk hk
    cases blk with
    |box cs own fz=>obtain⟨_,_,e,_⟩:=hr;rw[e]at hc;cases hc
    |row e sz xs fz=>obtain⟨_,_,_,_,h5⟩:=hr;obtain⟨_,_,_,e,_⟩:=h5 hl;rw[e]at hc;cases hc
    |mp kd n es fz=>
     cases fz with
     |true=>exact absurd rfl (hnm kd n es)
     |false=>exact absurd (Or.inr ⟨k,_,hk,hl,rfl,by simp[Blk.frz]⟩) hn
   .rw[hw b hlt (λ_=>e)];exact hc
  .rw[hw b hlt (λhl'=>absurd hl' hl)];exact hc
 intro b o v hc hn;have hlt:=AS hc;refine⟨?_,λhM'=>hn (hM b o hM')⟩;by_cases hl:blk.live (L k)
 .by_cases e:b=(L k).b
  .subst e
   by_cases hf:blk.frz o
   .grind
   .exact absurd (Or.inr ⟨k,blk,hk,hl,rfl,hf⟩) hn
  .simp only[World.cell?,hw b hlt (λ_=>e)]at hc|-;exact hc
 .simp only[World.cell?,hw b hlt (λhl'=>absurd hl' hl)]at hc|-;exact hc
section
variable {C:Cx} {L:Nat->Loc} {h1 h:Hp} {w:World}
theorem qJ(hs:∀k b,h1 k=some b->h k=some b)(hx:RepA w M L h x u)(e:iQ h1 x=some cs):aK w M L h cs u.cells.toList:=by
 have one:∀{q:AV}{v:Value},RepA w M L h q v->aK w M L h [q] [v]:=λhq=>.cons hq .nil
 cases x with
 |undef=>simp[iQ]at e
 |eptr=>simp[iQ]at e
 |arr k n=>
  simp only[iQ]at e;split at e
  .rename_i ee sz xs fz hk
   split at e
   .rename_i hn
    injection e with e;subst e;have hk':=hs _ _ hk;have hx':=hx
    cases hx with
    |arr hk2 hn2 hu=>
     rw[hk']at hk2;injection hk2 with hk2;injection hk2 with a1 a2 a3 a4;subst a1;subst a2;subst a3;subst a4;have hu':=hu hn;subst hu'
     have:((L k).slice n).cells.toList=[(L k).slice n]:=by unfold Loc.slice;split<;>rfl
     grind
   .cases e
  .cases e
 |pv p=>
  simp only[iQ,IL]at e;subst e
  cases hx with
  |pv hr=>exact aK.map_pv hr.cells
 |ptr k off=>
  simp only[iQ,IL]at e;subst e
  cases hx with
  |ptr hk=>exact one (.ptr hk)
 |agg cs'=>
  simp only[iQ,IL]at e;subst e
  cases hx with
  |agg _ vs hl hh=>exact⟨by simpa[AV.cells,Value.cells]using hl,λi p u hp hu=>hh i p u (by simpa[AV.cells]using hp) (by simpa[Value.cells]using hu)⟩
 |fn f first caps=>
  simp only[iQ,IL]at e;subst e
  cases hx with
  |fn _ _ _ vs us hl hk a b=>exact one (.fn f first caps vs us hl hk a b)
 |tup vs=>
  simp only[iQ,IL]at e;subst e
  cases hx with
  |tup _ us hl hh=>exact one (.tup vs us hl hh)
 |ext y=>
  simp only[iQ,IL]at e;subst e
  cases hx with
  |ext hx'=>
   have e1:u.cells.toList=[u]:=by
    cases hx' with
    |suf hs0 _ _ _ _=>obtain⟨_,_,_,rfl⟩:=hs0;rfl
    |_=>rfl
   rw[e1];exact one (.ext hx')
theorem uP(hr:Rep w M p u)(ho:lC p=true):u.oneCell'=true:=by
 cases hr<;>simp_all[lC,Value.oneCell']
theorem Gg(hs:∀k b,h1 k=some b->h k=some b)(hr:RepA w M L h x u)(ho:wu h1 x=true):u.oneCell'=true:=by
 cases hr with
 |pv hr=>exact uP hr ho
 |ptr=>rfl
 |@arr k n e sz fz xs u hk hn hu=>
  simp only[wu]at ho;split at ho
  .rename_i e' sz' xs' fz' hk'
   have:=hs _ _ hk';rw[hk]at this;injection this with this;injection this with a1 a2 a3 a4;subst a3;rw[hu (by simpa using ho)];unfold Loc.slice;split<;>rfl
  .cases ho
 |eptr=>simp[wu]at ho
 |agg=>simp[wu]at ho
 |fn=>rfl
 |tup=>simp[wu]at ho
 |ext hx=>cases hx with
   |suf hs0 _ _ _ _=>obtain⟨_,_,_,rfl⟩:=hs0;rfl
   |_=>rfl
 |undef=>simp[wu]at ho
theorem aK.take_{ps:List AV}(hr:aK w M L h ps us)(n:Nat):aK w M L h (ps.take n) (us.take n):=by
 refine⟨by simp[hr.1],λi p u hp hu=>?_⟩;rw[KN]at hp hu;split at hp
 .rename_i hi;rw[IR hi]at hu;exact hr.2 i p u hp hu
 .cases hp
theorem aK.drop_{ps:List AV}(hr:aK w M L h ps us)(n:Nat):aK w M L h (ps.drop n) (us.drop n):=by
 refine⟨by simp[hr.1],λi p u hp hu=>?_⟩;rw[NG]at hp hu;exact hr.2 _ p u hp hu
theorem aK.splice_{ps qs:List AV}(hr:aK w M L h ps us)(hq:aK w M L h qs vs)(off:Nat):aK w M L h (dC ps off qs) (dC us off vs):=by
 unfold dC;rw[hq.1];exact((hr.take_ off).append hq).append (hr.drop_ _)
theorem yt(ht:ao P t=some ti){ty:Nat}{cur:Array Value}(hg:w.heap[b]?=some (.cells cur ty (0,0)))(hsz:v.cells.size=ti.size)(hle:o+v.cells.size<=cur.size)
 (h1:∀u∈v.cells.toList,u.oneCell'=true):(Instr.storeAt t (.pointer (some ⟨b,o,none⟩)) v).run P w=.ok () (w.setRow b (dC cur.toList o v.cells.toList).toArray):=by
 obtain⟨i,d,hi,hd,hs,_,_⟩:=iD ht;have:=run_storeCells_at P b o ty v.cells.toList 0 cur w hg (by simpa using hle) h1
 have hne:¬v.cells.size≠i.size:=by simp[hsz,hs]
 simp only[Instr.storeAt,Instr.sureAddr,pure_bind,storeVar,Sem.run_bind,gO hi,Result.andThen_ok,hne,JE,this];simp[dC]
theorem Hw(hm:MemL C L h w){vc:List AV}{own:Bool}(hk:h k=some (.box cs own false))(ht:ao C.P t=some ti)
 (hu:aK w (af C L h) L h vc u.cells.toList)(hl:vc.length=ti.size)(hle:off+vc.length<=cs.length)(hone:∀x∈u.cells.toList,x.oneCell'=true):
 ∃w',(Instr.storeAt t (.pointer (some ⟨(L k).b,off,none⟩)) u).run C.P w=.ok () w'∧aP C L h w L (ai h k (some (.box (dC cs off vc) own false))) w':=by
 obtain⟨arr,ty,e1,e2⟩:=hm.bl k _ hk
 have hus:u.cells.size=vc.length:=by have:=hu.1;simp at this;omega
 have hsz:arr.size=cs.length:=by have:=e2.1;simp at this;omega
 refine⟨_,yt ht e1 (by omega) (by omega) hone,?_⟩;have hw:∀b,b<w.heap.size->((Blk.box cs own false).live (L k)->b≠(L k).b)->(w.setRow (L k).b (dC arr.toList off u.cells.toList).toArray).heap[b]?=w.heap[b]?:=λb _ hb=>setRow_other w _ b _ (hb trivial);have hpk:=hm.touch_pk (blk':=.box (dC cs off vc) own false) hk hw (λo v _ hf _=>by cases hf) (λo hf=>by cases hf) rfl Pp;refine hm.touch hk hw (by simp) rfl rfl rfl (λo v _ hf _=>by cases hf) (λo hf=>by cases hf) rfl Pp (by have h9:=hm.own k _ hk;cases own<;>exact h9) ?_;refine⟨_,ty,setRow_heap w _ arr _ ty _ e1,?_⟩;have:=(e2.splice_ hu off).mono hpk.1 hpk.2;omega
theorem BH(hm:MemL C L h w){i:Nat}{y y':PV}(hk:h k=some (.row e sz xs fz))(hi:xs[i]?=some y)(hfz:fz<=i)(hnil:(L k).isNil=false)(ht:ao C.P t=some ti)
 {u:Value}{ps:List PV}(hu:cO w (af C L h) ps u.cells.toList)(hl:ps.length=ti.size)(hle:off+ps.length<=sz)(hone:∀x∈u.cells.toList,x.oneCell'=true)(hy:y'.cells=dC y.cells off ps):
 ∃w',(Instr.storeAt t (.pointer (some ⟨(L k).b,i*sz+off,none⟩)) u).run C.P w=.ok () w'∧aP C L h w L (ai h k (some (.row e sz (xs.set i y') fz))) w':=by
 obtain⟨g1,g2,g3,g4,g5⟩:=hm.bl k _ hk;obtain⟨a1,a2,arr,a3,a4,a5⟩:=g5 hnil
 have hus:u.cells.size=ps.length:=by have:=hu.1;simp at this;omega
 have hil:i<xs.length:=(th.1 hi).1
 have hmul:(i+1)*sz<=arr.size:=by rw[a4];exact Kz _ (by omega)
 rw[MB]at hmul
 have hle2:i*sz+off+u.cells.size<=arr.size:=by omega
 refine⟨_,yt ht a3 (by omega) hle2 hone,?_⟩;have hw:∀b,b<w.heap.size->((Blk.row e sz xs fz).live (L k)->b≠(L k).b)->(w.setRow (L k).b (dC arr.toList (i*sz+off) u.cells.toList).toArray).heap[b]?=w.heap[b]?:=λb _ hb=>setRow_other w _ b _ (hb hnil);have hfz2:fz*sz<=i*sz:=Kz _ hfz
 have hsp:∀o,o<i*sz+off∨i*sz+off+u.cells.size<=o->(dC arr.toList (i*sz+off) u.cells.toList)[o]?=arr[o]?:=by
  intro o ho;unfold dC;rcases ho with ho|ho
  .grind
  grind [List.getElem?_append_right,List.length_append,List.length_take,Array.length_toList]
 have hin:∀j,j<u.cells.size->(dC arr.toList (i*sz+off) u.cells.toList)[i*sz+off+j]?=u.cells[j]?:=by
  intro j hj;unfold dC
  grind [List.append_assoc,List.getElem?_append_right,List.getElem?_append_left,List.length_take,Array.length_toList]
 have hpr:∀o v,(Blk.row e sz xs fz).live (L k)->(Blk.row e sz xs fz).frz o->w.cell? ⟨(L k).b,o,none⟩=some v->(w.setRow (L k).b (dC arr.toList (i*sz+off) u.cells.toList).toArray).cell? ⟨(L k).b,o,none⟩=some v:=by
  intro o v _ hf hc;simp only[Blk.frz]at hf;rw[cell_setRow_same w _ o arr _ _ _ a3,Pm,hsp o (.inl (by omega)),<-fl a3];exact hc
 have hlen:(xs.set i y').length=xs.length:=by simp
 have hcp:eF (.row e sz xs fz) (L k) (.row e sz (xs.set i y') fz) (L k):=⟨rfl,rfl,by omega,λ_=>rfl⟩;have hpk:=hm.touch_pk (blk':=.row e sz (xs.set i y') fz) hk hw hpr (λo hf=>hf) hcp Pp;refine hm.touch hk hw (by simp) rfl rfl rfl hpr (λo hf=>hf) hcp Pp (by have h9:=hm.own k _ hk;exact h9) ?_;have hylen:y.cells.length=sz:=g3 y (HW hi)
 have hy'len:y'.cells.length=sz:=by rw[hy];simp[dC];omega
 refine⟨g1,by omega,?_,λhn=>absurd hnil (by rw[hn];simp),λ_=>⟨by omega,a2,_,setRow_heap w _ arr _ _ _ a3,by simp[dC];omega,?_⟩⟩
 .grind
 .intro i' x j p hx hj
  rw[I0]at hx;split at hx
  .rename_i hii
   subst hii;injection hx with hx;subst hx
   have hjs:j<sz:=by rw[<-hy'len];exact(th.1 hj).1
   rw[hy]at hj;by_cases c1:j<off
   .unfold dC at hj
    rw[Oo,Iz (by simp;omega),KN,IR c1]at hj;obtain⟨v,hv,hr⟩:=a5 i y j p hi hj;exact⟨v,by rw[Pm,hsp _ (.inl (by omega))];exact hv,hr.mono hpk.1⟩
   .by_cases c2:j<off+ps.length
    .unfold dC at hj
     rw[Oo,IN (by simp;omega),Iz (by simp;omega)]at hj;simp only[MD]at hj;rw[show j-min off y.cells.length=j-off from by omega]at hj
     have hlt:j-off<u.cells.size:=by omega
     have hu2:u.cells.toList[j-off]?=some u.cells[j-off]:=by simp[hlt]
     refine⟨u.cells[j-off],?_,(hu.2 _ p _ hj hu2).mono hpk.1⟩
     grind
    .unfold dC at hj
     rw[IN (by simp;omega),NG]at hj;simp only[Kk,MD]at hj;rw[show off+ps.length+(j-(min off y.cells.length+ps.length))=j from by omega]at hj;obtain⟨v,hv,hr⟩:=a5 i y j p hi hj;exact⟨v,by rw[Pm,hsp _ (.inr (by omega))];exact hv,hr.mono hpk.1⟩
  .rename_i hii
   obtain⟨v,hv,hr⟩:=a5 i' x j p hx hj
   have hjs:j<sz:=by rw[<-g3 x (HW hx)];exact(th.1 hj).1
   refine⟨v,?_,hr.mono hpk.1⟩;rw[Pm,hsp _ ?_]
   .exact hv
   .rcases Nat.lt_or_gt_of_ne hii with hlt|hgt
    .right
     have:(i+1)*sz<=i'*sz:=Kz _ hlt
     grind
    .left
     have:(i'+1)*sz<=i*sz:=Kz _ hgt
     grind
theorem E6(hr:cO w M ps us)(ho:ps.all lC=true):∀x∈us,x.oneCell'=true:=by
 intro x hx;obtain⟨i,hi⟩:=Pl.1 hx
 have hlt:i<ps.length:=by rw[hr.1];exact(th.1 hi).1
 exact uP (hr.2 i ps[i] x (an hlt) hi) (Ij.1 ho _ (Ky hlt))
theorem Cp(hm:MemL C L h w)(hs:∀k b,h1 k=some b->h k=some b)(ht:ao C.P t=some ti){v:AV}{a:Value}(hx:RepA w (af C L h) L h x a)(hv:RepA w (af C L h) L h v u)
 {W:List (Nat×Blk)}(e:xF ti x v h1=some W):∃w',(Instr.storeAt t a u).run C.P w=.ok () w'∧aP C L h w L (am h W) w':=by
 unfold xF at e;split at e
 .rename_i k off
  split at e
  .rename_i cs own vc hk hvc
   split at e
   .rename_i hc
    injection e with e;subst e;have hr:=qJ hs hv hvc
    cases hx with
    |ptr _=>
     refine Hw hm (hs _ _ hk) ht hr hc.1 hc.2.1 ?_;intro y hy;obtain⟨i,hi⟩:=Pl.1 hy
     have hlt:i<vc.length:=by rw[hr.1];exact(th.1 hi).1
     have h2:=hr.2 i vc[i] y (an hlt) hi
     grind [Gg,List.all_eq_true,List.getElem_mem]
   .cases e
  .cases e
 .rename_i k n i off
  split at e
  .rename_i ee sz xs fz hk
   split at e
   .rename_i hc
    split at e
    .rename_i y p hy hp
     have hk':=hs _ _ hk;obtain⟨b1,b2,b3⟩:=og hm (dr.of_sub hs) hv hp;have b2:Rep w (af C L h) p u:=b2;split at e
     .rename_i hok
      simp only[qR,An,Nj]at hok
      cases hx with
      |eptr hk2 hn2 hu=>
       rw[hk']at hk2;injection hk2 with hk2;injection hk2 with a1 a2 a3 a4;subst a1;subst a2;subst a3;subst a4;obtain⟨hnil,rfl⟩:=hu hc.1;have hylen:=(hm.bl k _ hk').2.2.1 y (HW hy);split at e
       .rename_i hoff
        injection e with e;subst e;obtain⟨rfl,hsz⟩:=hoff;exact BH hm hk' hy hc.2 hnil ht b2.cells hok.1 (by omega) (E6 b2.cells hok.2) (by simp[dC];omega)
       .split at e
        .rename_i hoff
         injection e with e;subst e;exact BH hm hk' hy hc.2 hnil ht b2.cells hok.1 (by omega) (E6 b2.cells hok.2) (lw _)
        .cases e
     .cases e
    .cases e
   .cases e
  .cases e
 .cases e
end
theorem oZ(hx:Ext (λ_=>False) w w'){b0:Nat}{q:Prop}(hb:q->w.heap.size<=b0):Pres w M w' (λb o=>M b o∨(q∧b=b0)):=by
 refine Pres.ext hx (λ_ _ h=>h.elim) λb o hlt=>?_;rintro(h|⟨hq,rfl⟩)
 .exact h
 .have:=hb hq;omega
theorem kf(w:World)(o:Obj):(w.alloc o).heap[w.heap.size]?=some o:=heap_alloc_new w o
section
variable {C:Cx} {L:Nat->Loc} {h1 h:Hp} {w:World}
theorem A1(hm:MemL C L h w)(hd:h d=none)(hd2:d<2000000){us:Array Value}(hr:aK w (af C L h) L h cs us.toList)(ty:TypeId):
 aP C L h w (ai L d ⟨w.heap.size,0,false⟩) (ai h d (some (.box cs true false))) (w.alloc (.cells us ty))∧
 RepA (w.alloc (.cells us ty)) (af C (ai L d ⟨w.heap.size,0,false⟩) (ai h d (some (.box cs true false)))) (ai L d ⟨w.heap.size,0,false⟩) (ai h d (some (.box cs true false))) (.ptr d 0) (.pointer (some ⟨w.heap.size,0,none⟩)):=by
 have hx:Ext (λ_=>False) w (w.alloc (.cells us ty)):=Ext.alloc _ w _;have hkc:KC L h (ai L d ⟨w.heap.size,0,false⟩) (ai h d (some (.box cs true false))):=KC.new hd;refine⟨hm.newKey hd hd2 hx (λ_=>IX _) (by intro cs' fz' e;injection e with _ e2;cases e2) ⟨us,ty,kf w _,hr.mono (oZ hx (λ_=>IX _)) hkc⟩,?_⟩;have:=RepA.ptr (w:=w.alloc (.cells us ty)) (M:=af C (ai L d ⟨w.heap.size,0,false⟩) (ai h d (some (.box cs true false)))) (L:=ai L d ⟨w.heap.size,0,false⟩) (h:=ai h d (some (.box cs true false))) (k:=d) (off:=0) (aN _ _ _);rw[aN]at this;exact this
theorem lx(hm:MemL C L h w)(hx:Ext (λ_=>False) w w')(hd:h d=none)(hd2:d<2000000)(hl:l.isNil=false->w.heap.size<=l.b)
 (hb:dW w' (λb o=>af C L h b o∨(l.isNil=false∧b=l.b)) (λ_=>default) (λ_=>none) l (.row e sz xs 0)):
 aP C L h w (ai L d l) (ai h d (some (.row e sz xs 0))) w'∧
 RepA w' (af C (ai L d l) (ai h d (some (.row e sz xs 0)))) (ai L d l) (ai h d (some (.row e sz xs 0))) (.arr d xs.length) (l.slice xs.length):=by
 refine⟨hm.newKey hd hd2 hx hl (by intro cs' fz' e;cases e) hb,?_⟩;exact .arr (aN _ _ _) (IX _) (λ_=>by rw[aN])
theorem MR{i j:Nat}(hj:j<sz):(i*sz+j)%sz=j:=by
 rw[Nat.add_comm,Nat.add_mul_mod_self_right];exact Nat.mod_eq_of_lt hj
theorem CY(hm:MemL C L h w)(ht:ao C.P t=some ti){d:Option Nat}(hfresh:∀q,d=some q->h1 q=h q∧q<2000000){l c:AV}{ul uc:Value}(hl:RepA w (af C L h) L h l ul)(hc:RepA w (af C L h) L h c uc)
 {v:AV}{W:List (Nat×Blk)}(e:zV ti d l c h1=some (v,W)):
 ∃r w' L',(Instr.makeSlice t ul uc).run C.P w=.ok r w'∧aP C L h w L' (am h W) w'∧RepA w' (af C L' (am h W)) L' (am h W) v r:=by
 obtain⟨i,dd,hi,hd,hsz,_,hk⟩:=iD ht;unfold zV at e;split at e
 .rename_i e0 esz ebytes z k1 n k2 m q hkind
  split at e
  .rename_i hcond
   obtain⟨c1,c2,c3,c4,c5,c6,c7⟩:=hcond;injection e with e;injection e with e1 e2;subst e1;subst e2;subst c3
   have hslice:∃ee j,dd=.slice ee∧C.P.info? ee=some j∧e0=ee∧j.size=esz∧j.bytes=ebytes∧j.zero=some z:=by
    rw[hk]at hkind;split at hkind
    .cases hkind
    .cases hkind
    .rename_i ee
     split at hkind
     .rename_i j hj;injection hkind with a1 a2 a3 a4;exact⟨ee,j,rfl,hj,a1.symm,a2,a3,a4⟩
     .cases hkind
    .cases hkind
   obtain⟨ee,j,rfl,hj,rfl,rfl,rfl,hz⟩:=hslice
   cases hl with
   |pv hl=>cases hc with
    |pv hc=>
     rw[aY hl,aY hc];have hrun:=run_make (P:=C.P) w t e0 j z hd hj hz k1 k2 m m c4 (VN _) c5 c6
     have hdn:h q=none:=by rw[<-(hfresh q rfl).1];simpa using c7
     have hx:Ext (λ_=>False) w (w.alloc (.cells (madeCells z.cells (m.toNat*j.size)) e0)):=Ext.alloc _ w _
     have hrow:=lx (e:=e0) (sz:=j.size) (xs:=List.replicate m.toNat (PV.val z)) (l:=⟨w.heap.size,m.toNat,false⟩) hm hx hdn (hfresh q rfl).2 (λ_=>IX _) (by
      refine⟨c1,Ng _,?_,(λh=>by cases h),λ_=>⟨by simp,by simp only[maxLen];omega,_,kf w _,by simp[size_madeCells],?_⟩⟩
      .intro x hx';rw[List.eq_of_mem_replicate hx'];simp[PV.cells,c2]
      .intro a x b p hxa hxb
       have ha:a<m.toNat:=by have:=(th.1 hxa).1;simpa using this
       rw[Lc,IR ha]at hxa;injection hxa with hxa;subst hxa;simp only[PV.cells,Is,Ii]at hxb;obtain⟨y,hy,rfl⟩:=hxb
       have hb:b<j.size:=by have:=(th.1 hy).1;simp at this;omega
       have hb2:b<z.cells.size:=by omega
       refine⟨y,?_,.val _⟩
       have hlt:a*j.size+b<m.toNat*j.size:=by
        have:(a+1)*j.size<=m.toNat*j.size:=Kz _ ha;rw[MB]at this;omega
       have hyy:z.cells[b]=y:=by simpa[hb2]using hy
       simp[madeCells,hlt,c2,MR hb]
       rw[getElem!_pos z.cells b hb2];exact hyy)
     refine⟨_,_,_,hrun,hrow.1,?_⟩;have h9:=hrow.2;rw[List.length_replicate]at h9;exact h9
  .cases e
 .cases e
theorem Cq(hm:MemL C L h w)(ht:ao C.P t=some ti){hn:List Nat}{d:Option Nat}(hfresh:∀q,d=some q->h1 q=h q∧q<2000000){l c:AV}{ul uc:Value}(hl:RepA w (af C L h) L h l ul)(hc:RepA w (af C L h) L h c uc)
 {v:AV}{W:List (Nat×Blk)}(e:xI ti hn d l c h1=some (v,W)):
 ∃r w' L',(Instr.makeSlice t ul uc).run C.P w=.ok r w'∧aP C L h w L' (am h W) w'∧RepA w' (af C L' (am h W)) L' (am h W) v r:=by
 obtain⟨i,dd,hi,hd,hsz,_,hk⟩:=iD ht;unfold xI at e;split at e
 .rename_i e0 ebytes z k1 n k2 m q hkind
  split at e
  .rename_i hcond
   obtain⟨_,c2,c3,c4,c5,c6,c7⟩:=hcond;injection e with e;injection e with e1 e2;subst e1;subst e2;subst c3
   have hslice:∃ee j,dd=.slice ee∧C.P.info? ee=some j∧e0=ee∧j.size=1∧j.bytes=ebytes∧j.zero=some z:=by
    rw[hk]at hkind;split at hkind
    .cases hkind
    .cases hkind
    .rename_i ee
     split at hkind
     .rename_i j hj;injection hkind with a1 a2 a3 a4;exact⟨ee,j,rfl,hj,a1.symm,a2,a3,a4⟩
     .cases hkind
    .cases hkind
   obtain⟨ee,j,rfl,hj,rfl,hj1,rfl,hz⟩:=hslice
   have hzc:z.cells=#[z]:=by
    have:=jz c2;simp only[PV.cells]at this;apply Array.ext'
    cases hzl:z.cells.toList with
    |nil=>rw[hzl]at this;cases this
    |cons y r=>
     rw[hzl]at this;simp only[Ot,List.cons.injEq,List.map_eq_nil_iff]at this;obtain⟨e1,rfl⟩:=this;injection e1 with e1;subst e1;rfl
   cases hl with
   |pv hl=>cases hc with
    |pv hc=>
     rw[aY hl,aY hc];have hrun:=run_make (P:=C.P) w t e0 j z hd hj hz k1 k2 m m c4 (VN _) c5 c6
     have hdn:h q=none:=by rw[<-(hfresh q rfl).1];simpa using c7
     have hx:Ext (λ_=>False) w (w.alloc (.cells (madeCells z.cells (m.toNat*j.size)) e0)):=Ext.alloc _ w _
     have hcells:madeCells z.cells (m.toNat*j.size)=(List.replicate m.toNat z).toArray:=by
      rw[hj1,SJ,hzc];apply Array.ext
      .simp[size_madeCells]
      .intro a h1 h2
       simp[madeCells,Nat.mod_one]
     have hb:=A1 (us:=madeCells z.cells (m.toNat*j.size)) (cs:=List.replicate m.toNat (.pv (.val z))) hm hdn (hfresh q rfl).2 (by
      rw[hcells];refine⟨by simp,λa p u hp hu=>?_⟩;have ha:=(th.1 hp).1;simp only[List.length_replicate]at ha;rw[Lc,IR ha]at hp;rw[Lc,IR ha]at hu;injection hp with hp;injection hu with hu;subst hp;subst hu
      exact .pv (.val _)) e0
     refine⟨_,_,_,hrun,hb.1,?_⟩;have h9:RepX (ai L q ⟨w.heap.size,0,false⟩) (ai h q (some (.box (List.replicate m.toNat (.pv (.val z))) true false))) (.barr q m.toNat m.toNat) (.slice (some ⟨(ai L q ⟨w.heap.size,0,false⟩ q).b,0,none⟩) m.toNat m.toNat):=.barr (IX _) (aN _ _ _);rw[aN]at h9;exact .ext h9
  .cases e
 .cases e
theorem pT(hm:MemL C L h w)(hs:∀k b,h1 k=some b->h k=some b)(hx:RepA w (af C L h) L h x u){ys:List PV}(e:gt h1 x=some ys)(hok:ys.all (qR sz)=true):
 ∃A c,u=.slice A ys.length c∧(A=none->ys=[])∧(0<ys.length->∃b o,A=some ⟨b,o,none⟩∧∃news:List Value,news.length=ys.length*sz∧(∀(j:Nat) v,news[j]?=some v->w.cell? ⟨b,o+j,none⟩=some v)∧
  (∀v∈news,v.oneCell'=true)∧(∀(i:Nat) y(j:Nat) p,ys[i]?=some y->y.cells[j]?=some p->∃v,news[i*sz+j]?=some v∧Rep w (af C L h) p v)):=by
 have hlen:∀y∈ys,y.cells.length=sz∧y.cells.all lC=true:=by
  intro y hy;have:=Ij.1 hok y hy;simpa[qR]using this
 have mk:∀b o,(∀(i:Nat) y(j:Nat) p,ys[i]?=some y->y.cells[j]?=some p->∃v,w.cell? ⟨b,o+(i*sz+j),none⟩=some v∧Rep w (af C L h) p v)->
  ∃news:List Value,news.length=ys.length*sz∧(∀(j:Nat) v,news[j]?=some v->w.cell? ⟨b,o+j,none⟩=some v)∧(∀v∈news,v.oneCell'=true)∧
   (∀(i:Nat) y(j:Nat) p,ys[i]?=some y->y.cells[j]?=some p->∃v,news[i*sz+j]?=some v∧Rep w (af C L h) p v):=by
  intro b o hc
  have hall:∀q,q<ys.length*sz->∃v,w.cell? ⟨b,o+q,none⟩=some v∧v.oneCell'=true:=by
   intro q hq;have hsz:0<sz:=Nat.pos_of_ne_zero (λh0=>by subst h0;simp at hq);have hi:q/sz<ys.length:=Nat.div_lt_of_lt_mul (by rw[Nat.mul_comm];exact hq);have hj:q%sz<sz:=Nat.mod_lt _ hsz;have hy:=hlen _ (Ky hi)
   have hjl:q%sz<ys[q/sz].cells.length:=by omega
   obtain⟨v,hv,hr⟩:=hc (q/sz) ys[q/sz] (q%sz) _ (an hi) (an hjl);refine⟨v,?_,uP hr (Ij.1 hy.2 _ (Ky hjl))⟩;rw[show q/sz*sz+q%sz=q from by rw[Nat.mul_comm];exact Nat.div_add_mod q sz]at hv;exact hv
  refine⟨(List.range (ys.length*sz)).map λq=>(w.cell? ⟨b,o+q,none⟩).getD undef,by simp,?_,?_,?_⟩
  .intro j v hj
   rw[Is]at hj;by_cases hlt:j<ys.length*sz
   .rw[List.getElem?_range hlt]at hj
    obtain⟨v',hv',_⟩:=hall j hlt;simp[hv']at hj;rw[hv',hj]
   .rw[Jr (by simp;omega)]at hj;cases hj
  .intro v hv
   obtain⟨q,hq,rfl⟩:=KB.1 hv;obtain⟨v',hv',ho⟩:=hall q (Mx.1 hq);simpa[hv']using ho
  .intro i y j p hy hj
   obtain⟨v,hv,hr⟩:=hc i y j p hy hj;refine⟨v,?_,hr⟩;have hi:i<ys.length:=(th.1 hy).1
   have hj':j<sz:=by rw[<-(hlen y (HW hy)).1];exact(th.1 hj).1
   have:(i+1)*sz<=ys.length*sz:=Kz _ hi;rw[MB]at this;rw[Is,List.getElem?_range (by omega)];simp[hv]
 cases x with
 |pv p=>
  cases hx with
  |pv hr=>
  cases p with
  |sl ys'=>
   simp only[gt,IL]at e;subst e
   cases hr with
   |sl0 a c=>exact⟨a,c,rfl,λ_=>rfl,(λh=>by simp at h)⟩
   |sl _ b o c sz' uu hcap hsz hc hr=>
    refine⟨_,c,rfl,(λh=>by cases h),λh0=>⟨b,o,rfl,mk b o ?_⟩⟩;intro i y j p hy hj
    have:sz'=sz:=by rw[<-hsz i y hy];exact(hlen y (HW hy)).1
    subst this;exact⟨_,(hc i y j p hy hj).1,hr i y j p hy hj⟩
  |val v=>
   simp only[gt]at e;split at e
   .rename_i hv
    injection e with e;subst e;rw[aY hr,lQ hv];exact⟨none,0,rfl,λ_=>rfl,(λh=>by simp at h)⟩
   .cases e
  |_=>simp[gt]at e
 |arr k n=>
  simp only[gt]at e;split at e
  .rename_i ee sz' xs fz hk
   split at e
   .rename_i hn
    injection e with e;subst e;have hk':=hs _ _ hk
    cases hx with
    |arr hk2 hn2 hu=>
     rw[hk']at hk2;injection hk2 with hk2;injection hk2 with a1 a2 a3 a4;subst a1;subst a2;subst a3;subst a4;rw[hu hn];rcases nM hm hk' with⟨hh,hxs⟩|⟨hh,_,_,arr,e1,_,e3⟩
     .subst hxs;subst hn
      exact⟨none,0,by simp[Loc.slice,hh],λ_=>rfl,(λh=>by simp at h)⟩
     .refine⟨some ⟨(L k).b,0,none⟩,(L k).cap,by simp[Loc.slice,hh,hn],(λh=>by cases h),λh0=>⟨(L k).b,0,rfl,mk _ _ ?_⟩⟩
      intro i y j p hy hj
      have hss:sz'=sz:=by rw[<-(hm.bl k _ hk').2.2.1 y (HW hy)];exact(hlen y (HW hy)).1
      subst hss;obtain⟨v,hv,hr⟩:=e3 i y j p hy hj;exact⟨v,by rw[fl e1,NU];exact hv,hr⟩
   .cases e
  .cases e
 |ptr=>simp[gt]at e
 |eptr=>simp[gt]at e
 |agg=>simp[gt]at e
 |fn=>simp[gt]at e
 |tup=>simp[gt]at e
 |ext=>simp[gt]at e
 |undef=>simp[gt]at e
end
theorem y9{b:Blk}(hk:h k=some b):ai h k (some b)=h:=by
 funext n;unfold ai;split
 all_goals grind
theorem ej(ht:ao P t=some ti){by_:Nat}{z:Option Value}(hk:ti.kind=.slice e sz by_ z):
 P.underlying t=some (.slice e)∧∃j,P.info? e=some j∧j.size=sz∧j.bytes=by_∧j.zero=z:=by
 obtain⟨i,d,hi,hd,hsz,_,hkind⟩:=iD ht
 grind
theorem yu{e:TypeId}{j:TypeInfo}(ht:P.underlying t=some (.slice e))(hj:P.info? e=some j)(B:Option Addr)(n cap:Nat)(hn:n<=cap)(A:Option Addr)(c:Nat):
 (Builtin.append_ #[t,t] ty #[.slice B n cap,.slice A 0 c]).run P w=.ok (.slice B n cap) w:=by
 have hf:(Builtin.firstCells j.size 0 (.slice A 0 c)).run P w=.ok #[] w:=by
  cases A with
  |none=>rfl
  |some a=>simp only[Builtin.firstCells,VQ];rfl
 cases B with
 |none=>simp[Builtin.append_,run_underlying ht,sizeOf,typeInfo,hj,Builtin.lenOf,hn,hf]
 |some b=>simp[Builtin.append_,run_underlying ht,sizeOf,typeInfo,hj,Builtin.lenOf,hn,hf,storeCells]
theorem za{ys:List PV}{olds news:List Value}(hlo:olds.length=xs.length*sz)(hxs:∀x∈xs,x.cells.length=sz)(hys:∀y∈ys,y.cells.length=sz)
 (ho:∀(i:Nat) x(j:Nat) p,xs[i]?=some x->x.cells[j]?=some p->∃u,olds[i*sz+j]?=some u∧Rep w M p u)
 (hn:∀(i:Nat) x(j:Nat) p,ys[i]?=some x->x.cells[j]?=some p->∃u,news[i*sz+j]?=some u∧Rep w M p u)
 (i:Nat)(x:PV)(j:Nat)(p:PV)(hx:(xs++ys)[i]?=some x)(hj:x.cells[j]?=some p):∃u,(olds++news)[i*sz+j]?=some u∧Rep w M p u∧i*sz+j<(xs.length+ys.length)*sz:=by
 have hjs:j<sz:=by
  grind
 have hil:i<xs.length+ys.length:=by have:=(th.1 hx).1;simpa using this
 have hlt:i*sz+j<(xs.length+ys.length)*sz:=by
  have:(i+1)*sz<=(xs.length+ys.length)*sz:=Kz _ hil
  grind
 by_cases hi:i<xs.length
 .grind
 .rw[IN (by omega)]at hx
  obtain⟨u,hu,hr⟩:=hn _ x j p hx hj;refine⟨u,?_,hr,hlt⟩
  have he:i*sz=xs.length*sz+(i-xs.length)*sz:=by rw[<-MB];congr 1;omega
  grind
section
variable {C:Cx} {L:Nat->Loc} {h1 h:Hp} {w:World}
theorem A3(hm:MemL C L h w)(hs:∀k b,h1 k=some b->h k=some b)(ht:ao C.P t=some ti){d:Option Nat}(hfresh:∀q,d=some q->h1 q=h q∧q<2000000)
 {s x:AV}{us ux:Value}(hsr:RepA w (af C L h) L h s us)(hx:RepA w (af C L h) L h x ux){v:AV}{W:List (Nat×Blk)}(e:uL ti d s x h1=some (v,W)):
 ∃r w' L',(Builtin.append_ #[t,t] ty #[us,ux]).run C.P w=.ok r w'∧aP C L h w L' (am h W) w'∧RepA w' (af C L' (am h W)) L' (am h W) v r:=by
 unfold uL at e;split at e
 .rename_i et esz ebytes z hkind
  obtain⟨hund,jt,hj,rfl,rfl,hz⟩:=ej ht hkind;split at e
  .cases e
  .rename_i ys hys
   split at e
   .rename_i hcond
    obtain⟨c1,c2,c3⟩:=hcond
    have hyl:∀y∈ys,y.cells.length=jt.size:=by
     intro y hy;have:=Ij.1 c3 y hy;simp[qR]at this;exact this.1
    obtain⟨A,c,rfl,hA0,hA⟩:=pT hm hs hx hys c3;split at e
    .rename_i k n
     split at e
     .rename_i e0 sz xs fz hk
      split at e
      .rename_i hc
       obtain⟨hk2,hn,rfl,rfl,hbytes,h63⟩:=hc;injection e with e;injection e with e1 e2;subst e1;subst e2;have hk':=hs _ _ hk;rw[jc]
       have husv:us=(L k).slice n:=by
        cases hsr with
        |arr hk2 hn2 hu=>
         grind
       subst husv;obtain⟨g1,g2,g3,g4,g5⟩:=hm.bl k _ hk';by_cases hy0:ys.length=0
       .have hye:ys=[]:=LC hy0
        subst hye
        have hnc:∃B cap,(L k).slice n=.slice B n cap∧n<=cap:=by
         rcases nM hm hk' with⟨hh,hxs⟩|⟨hh,a1,_⟩
         .subst hxs;subst hn;exact⟨none,0,by simp[Loc.slice,hh],IX _⟩
         .exact⟨_,_,by simp[Loc.slice,hh];exact⟨rfl,rfl⟩,by omega⟩
        obtain⟨B,cap,hB,hBc⟩:=hnc;refine⟨(L k).slice n,w,L,by rw[hB];exact yu hund hj B n cap hBc A c,?_,?_⟩
        .rw[Uq,y9 hk'];exact aP.refl hm
        .rw[Uq,y9 hk',Up,U2]
         omega
       .obtain⟨b,o,rfl,news,n1,n2,n3,n4⟩:=hA (by omega)
        have hcell:∀j u,news[j]?=some u->w.cell? ((⟨b,o,none⟩:Addr).add j)=some u:=λj u hu=>by rw[fy];exact n2 j u hu
        rcases nM hm hk' with⟨hh,hxs⟩|⟨hh,a1,a2,arr,a3,a4,a5⟩
        .
         subst hxs;simp only[Up]at hn;subst hn
         have hsl:(L k).slice 0=.slice none 0 0:=by simp[Loc.slice,hh]
         rw[hsl];have hrun:=run_append_nil (P:=C.P) w t ty e0 jt z hund hj hz ⟨b,o,none⟩ ys.length c news n1 hcell (by omega) (by omega) (by rw[NU]at hbytes;omega);have hx':Ext (λ_=>False) w (w.drew.alloc (.cells (news.toArray++Builtin.zeroCells z.cells (grownCap w ys.length 0 e0-ys.length)) e0)):=(Ext.drew _ w).trans (Ext.alloc _ _ _) (λ_ _ h=>h);have hge:=grownCap_ge w ys.length 0 e0;have hcap:=grownCap_le_maxLen w ys.length 0 e0 (by simp only[maxLen];omega)
         have hmv:=hm.move (xs':=[]++ys) (l':=⟨w.heap.size,grownCap w ys.length 0 e0,false⟩) hk' hk2 hx' ⟨rfl,IX _⟩ (by simp;omega) (by
          refine⟨c1,by simp at g2|-;omega,by simpa using hyl,(λh=>by cases h),λ_=>⟨by simpa using hge,hcap,_,kf _ _,?_,?_⟩⟩
          .simp only[Ti,Qg,n1,size_zeroCells,c2]
           rw[<-MB];congr 1;omega
          .intro i x j p hxi hxj
           simp only[List.nil_append]at hxi;obtain⟨u,hu,hr⟩:=n4 i x j p hxi hxj;refine⟨u,?_,hr.mono ((oZ (q:=True) hx' (λ_=>IX _)).trans (Pres.sub (λb' o' h=>h.elim .inl (λh=>.inr ⟨trivial,h⟩))))⟩;rw[Mj (by have:=(th.1 hu).1;simpa using this)]
           simpa using hu)
         refine⟨_,_,_,hrun,hmv,?_⟩;refine .arr (aN _ _ _) (by simp) (λ_=>?_);rw[aN];simp[Loc.slice]
        .have hsl:(L k).slice n=.slice (some ⟨(L k).b,0,none⟩) n (L k).cap:=by simp[Loc.slice,hh]
         rw[hsl]
         have hmul:n*jt.size<=arr.size:=by rw[a4];exact Kz _ (by omega)
         have holen:(arr.toList.take (n*jt.size)).length=xs.length*jt.size:=by simp[hn];omega
         have hold:∀(i:Nat) x(j:Nat) p,xs[i]?=some x->x.cells[j]?=some p->∃u,(arr.toList.take (n*jt.size))[i*jt.size+j]?=some u∧Rep w (af C L h) p u:=by
          intro i x j p hxi hxj;obtain⟨u,hu,hr⟩:=a5 i x j p hxi hxj;refine⟨u,?_,hr⟩
          have hjs:j<jt.size:=by rw[<-g3 x (HW hxi)];exact(th.1 hxj).1
          have hil:i<xs.length:=(th.1 hxi).1;have:(i+1)*jt.size<=n*jt.size:=Kz _ (by omega)
          grind
         have hcells:=za holen g3 hyl hold n4;by_cases hroom:n+ys.length<=(L k).cap
         .have hmul2:(n+ys.length)*jt.size<=arr.size:=by rw[a4];exact Kz _ hroom
          rw[MB]at hmul2;have hrun:=run_append_room (P:=C.P) w t ty e0 jt hund hj (L k).b n (L k).cap arr a3 ⟨b,o,none⟩ ys.length c news n1 hcell n3 hroom (by omega);refine⟨_,_,L,hrun,?_,?_⟩
          .have hw:∀b',b'<w.heap.size->((Blk.row e0 jt.size xs fz).live (L k)->b'≠(L k).b)->(w.setRow (L k).b (arr.toList.take (n*jt.size)++news++arr.toList.drop (n*jt.size+news.length)).toArray).heap[b']?=w.heap[b']?:=
            λb' _ hb=>setRow_other w _ b' _ (hb hh)
           have hsp:∀q,q<n*jt.size->(arr.toList.take (n*jt.size)++news++arr.toList.drop (n*jt.size+news.length))[q]?=arr[q]?:=by
            grind
           have hpr:∀o v,(Blk.row e0 jt.size xs fz).live (L k)->(Blk.row e0 jt.size xs fz).frz o->w.cell? ⟨(L k).b,o,none⟩=some v->
            (w.setRow (L k).b (arr.toList.take (n*jt.size)++news++arr.toList.drop (n*jt.size+news.length)).toArray).cell? ⟨(L k).b,o,none⟩=some v:=by
            intro q v _ hf hc;simp only[Blk.frz]at hf;have:fz*jt.size<=n*jt.size:=Kz _ (by omega);rw[cell_setRow_same w _ q arr _ _ _ a3,Pm,hsp q (by omega),<-fl a3];exact hc
           have hcp:eF (.row e0 jt.size xs fz) (L k) (.row e0 jt.size (xs++ys) fz) (L k):=⟨rfl,rfl,by simp,λ_=>rfl⟩;have hpk:=hm.touch_pk (blk':=.row e0 jt.size (xs++ys) fz) hk' hw hpr (λo hf=>hf) hcp Pp;refine hm.touch hk' hw (by simp) rfl rfl rfl hpr (λo hf=>hf) hcp Pp (by have h9:=hm.own k _ hk';exact h9) ?_;refine⟨g1,by simp;omega,?_,(λhn=>by rw[hh]at hn;cases hn),λ_=>⟨by simp;omega,a2,_,setRow_heap w _ arr _ _ _ a3,?_,?_⟩⟩
           .grind
           .grind
           .intro i x j p hxi hxj
            obtain⟨u,hu,hr,hlt⟩:=hcells i x j p hxi hxj;refine⟨u,?_,hr.mono hpk.1⟩
            grind
          .refine .arr (aN _ _ _) (by simp;omega) (λ_=>?_)
           simp[Loc.slice,hh]
         .have hrun:=run_append_grow (P:=C.P) w t ty e0 jt z hund hj hz ⟨(L k).b,0,none⟩ n (L k).cap (arr.toList.take (n*jt.size)) (by rw[holen,hn])
           (λq u hu=>by
             rw[fy,fl a3,NU];rw[KN]at hu;split at hu
             .simpa using hu
             .cases hu)
           ⟨b,o,none⟩ ys.length c news n1 hcell (by omega) (by omega) (growslice_fits (by omega) hbytes)
          have hx':Ext (λ_=>False) w (w.drew.alloc (.cells ((arr.toList.take (n*jt.size)).toArray++news.toArray++Builtin.zeroCells z.cells (grownCap w (n+ys.length) (L k).cap e0-(n+ys.length))) e0)):=
           (Ext.drew _ w).trans (Ext.alloc _ _ _) (λ_ _ h=>h)
          have hge:=grownCap_ge w (n+ys.length) (L k).cap e0;have hcap:=grownCap_le_maxLen w (n+ys.length) (L k).cap e0 (by simp only[maxLen];omega)
          have hmv:=hm.move (xs':=xs++ys) (l':=⟨w.heap.size,grownCap w (n+ys.length) (L k).cap e0,false⟩) hk' hk2 hx' ⟨rfl,IX _⟩ (by simp;omega) (by
           refine⟨c1,by simp;omega,?_,(λh=>by cases h),λ_=>⟨by simp;omega,hcap,_,kf _ _,?_,?_⟩⟩
           .intro x hx'
            rcases JS.1 hx' with h'|h'
            .exact g3 x h'
            .exact hyl x h'
           .simp only[Ti,Qg,holen,n1,size_zeroCells,c2,hn]
            rw[<-MB,<-MB];congr 1;omega
           .intro i x j p hxi hxj
            obtain⟨u,hu,hr,hlt⟩:=hcells i x j p hxi hxj;refine⟨u,?_,hr.mono ((oZ (q:=True) hx' (λ_=>IX _)).trans (Pres.sub (λb' o' h=>h.elim .inl (λh=>.inr ⟨trivial,h⟩))))⟩;have hul:=(th.1 hu).1
            have hul2:i*jt.size+j<((arr.toList.take (n*jt.size)).toArray++news.toArray).size:=by simp only[Ti,Qg];simp only[Kk]at hul;exact hul
            rw[Mj hul2,<-M7,VP]
            exact hu)
          refine⟨_,_,_,hrun,hmv,?_⟩;refine .arr (aN _ _ _) (by simp;omega) (λ_=>?_);rw[aN];simp[Loc.slice]
      .cases e
     .cases e
    .rename_i vv
     split at e
     .rename_i hv
      split at e
      .rename_i q
       split at e
       .rename_i hc
        obtain⟨hq,hbytes,h63⟩:=hc;injection e with e;injection e with e1 e2;subst e1;subst e2;rw[jc]
        have hqn:h q=none:=by rw[<-(hfresh q rfl).1];simpa using hq
        cases hsr with
        |pv hr=>
        rw[aY hr,lQ hv];by_cases hy0:ys.length=0
        .have hye:ys=[]:=LC hy0
         subst hye
         have hrow:=lx (e:=et) (sz:=jt.size) (xs:=[]) (l:=⟨0,0,true⟩) hm (Ext.refl _ w) hqn (hfresh q rfl).2 (λh=>by cases h)
          ⟨c1,Ng _,by simp,λ_=>rfl,(λh=>by cases h)⟩
         exact⟨_,_,_,yu hund hj none 0 0 (IX _) A c,hrow.1,hrow.2⟩
        .obtain⟨b,o,rfl,news,n1,n2,n3,n4⟩:=hA (by omega)
         have hcell:∀j u,news[j]?=some u->w.cell? ((⟨b,o,none⟩:Addr).add j)=some u:=λj u hu=>by rw[fy];exact n2 j u hu
         have hrun:=run_append_nil (P:=C.P) w t ty et jt z hund hj hz ⟨b,o,none⟩ ys.length c news n1 hcell (by omega) (by omega) (by omega);have hx':Ext (λ_=>False) w (w.drew.alloc (.cells (news.toArray++Builtin.zeroCells z.cells (grownCap w ys.length 0 et-ys.length)) et)):=(Ext.drew _ w).trans (Ext.alloc _ _ _) (λ_ _ h=>h);have hge:=grownCap_ge w ys.length 0 et;have hcap:=grownCap_le_maxLen w ys.length 0 et (by simp only[maxLen];omega)
         have hrow:=lx (e:=et) (sz:=jt.size) (xs:=ys) (l:=⟨w.heap.size,grownCap w ys.length 0 et,false⟩) hm hx' hqn (hfresh q rfl).2 (λ_=>IX _) (by
          refine⟨c1,Ng _,hyl,(λh=>by cases h),λ_=>⟨hge,hcap,_,kf _ _,?_,?_⟩⟩
          .simp only[Ti,Qg,n1,size_zeroCells,c2]
           rw[<-MB];congr 1;omega
          .intro i x j p hxi hxj
           obtain⟨u,hu,hr⟩:=n4 i x j p hxi hxj;refine⟨u,?_,hr.mono (oZ hx' (λ_=>IX _))⟩;rw[Mj (by have:=(th.1 hu).1;simpa using this)]
           simpa using hu)
         exact⟨_,_,_,hrun,hrow.1,hrow.2⟩
       .cases e
      .cases e
     .cases e
    .cases e
   .cases e
 .cases e
theorem CZ(hm:MemL C L h w)(hs:∀k b,h1 k=some b->h k=some b){t':TypeId}(ht:ao C.P t=some ti)
 {s x:AV}{us ux:Value}(hsr:RepA w (af C L h) L h s us)(hx:RepA w (af C L h) L h x ux){v:AV}{W:List (Nat×Blk)}(e:zU ti s x h1=some (v,W)):
 ∃r w',(Builtin.copy_ #[t,t'] ty #[us,ux]).run C.P w=.ok r w'∧aP C L h w L (am h W) w'∧RepA w' (af C L (am h W)) L (am h W) v r:=by
 unfold zU at e;split at e
 .rename_i e1 esz ebytes z k n hkind
  obtain⟨hund,jt,hj,rfl,rfl,hz⟩:=ej ht hkind;split at e
  .rename_i e0 sz xs ys hk hys
   split at e
   .rename_i hc
    obtain⟨hn,rfl,c3⟩:=hc;injection e with e;injection e with ea eb;subst ea;subst eb;rw[jc];have hk':=hs _ _ hk
    have husv:us=(L k).slice n:=by
     cases hsr with
     |arr hk2 hn2 hu=>
      rw[hk']at hk2;injection hk2 with hk2;injection hk2 with a1 a2 a3 a4;subst a3;exact hu hn
    subst husv
    have hyl:∀y∈ys,y.cells.length=jt.size:=by
     intro y hy;have:=Ij.1 c3 y hy;simp[qR]at this;exact this.1
    obtain⟨A,c,rfl,hA0,hA⟩:=pT hm hs hx hys c3;obtain⟨g1,g2,g3,g4,g5⟩:=hm.bl k _ hk';by_cases hmin:Nat.min ys.length n=0
    .
     have hz0:(ys.take (Nat.min ys.length n)++xs.drop (Nat.min ys.length n))=xs:=by rw[hmin];simp
     rw[hz0,y9 hk',hmin];refine⟨goInt 0,w,?_,aP.refl hm,.pv (.val _)⟩
     have hf:(Builtin.firstCells jt.size 0 (.slice A ys.length c)).run C.P w=.ok #[] w:=by
      cases A with
      |none=>rfl
      |some a=>simp only[Builtin.firstCells,VQ];rfl
     unfold Loc.slice
     cases hnil:(L k).isNil with
     |true=>
      simp[Builtin.copy_,run_underlying hund,Builtin.lenOf,sizeOf,typeInfo,hj,hf,goInt]
     |false=>simp[Builtin.copy_,run_underlying hund,Builtin.lenOf,sizeOf,typeInfo,hj,hmin,hf,storeCells,goInt]
    .have hpos:0<Nat.min ys.length n:=Nat.pos_of_ne_zero hmin
     have hy0:0<ys.length:=Ny hpos (Nat.min_le_left _ _);have hnn:0<n:=Ny hpos (Nat.min_le_right _ _);obtain⟨b,o,rfl,news,n1,n2,n3,n4⟩:=hA hy0;rcases nM hm hk' with⟨hh,hxs⟩|⟨hh,a1,a2,arr,a3,a4,a5⟩
     .subst hxs;simp at hn;omega
     .have hsl:(L k).slice n=.slice (some ⟨(L k).b,0,none⟩) n (L k).cap:=by simp[Loc.slice,hh]
      rw[hsl];generalize hmm:Nat.min ys.length n=m at *
      have hm1:m<=ys.length:=by rw[<-hmm];exact Nat.min_le_left _ _
      have hm2:m<=n:=by rw[<-hmm];exact Nat.min_le_right _ _
      have hmulm:m*jt.size<=news.length:=by rw[n1];exact Kz _ hm1
      have hmula:m*jt.size<=arr.size:=by rw[a4];exact Kz _ (by omega)
      have htl:(news.take (m*jt.size)).length=m*jt.size:=by simp;omega
      have hf:(Builtin.firstCells jt.size m (.slice (some ⟨b,o,none⟩) ys.length c)).run C.P w=.ok (news.take (m*jt.size)).toArray w:=by
       have:=run_loadCells_list (P:=C.P) w ⟨b,o,none⟩ (news.take (m*jt.size)) (λq v hq=>by
        rw[fy];rw[KN]at hq;split at hq
        .exact n2 q v hq
        .cases hq)
       rw[htl]at this;simpa[Builtin.firstCells]using this
      have hst:=run_storeCells_at C.P (L k).b 0 e0 (news.take (m*jt.size)) 0 arr w a3 (by rw[htl];omega) (λv hv=>n3 v (Tn hv));simp only[NU,List.take_zero,List.nil_append,htl]at hst;refine⟨goInt m,w.setRow (L k).b (news.take (m*jt.size)++arr.toList.drop (m*jt.size)).toArray,?_,?_,?_⟩
      .simp only[Builtin.copy_,Pm,OO,UU,Sem.run_bind,run_underlying hund,Result.andThen_ok,Builtin.lenOf,Sem.run_pure,sizeOf,typeInfo,program,Sem.run,hj,hmm,hf,hst]
      .have hw:∀b',b'<w.heap.size->((Blk.row e0 jt.size xs 0).live (L k)->b'≠(L k).b)->(w.setRow (L k).b (news.take (m*jt.size)++arr.toList.drop (m*jt.size)).toArray).heap[b']?=w.heap[b']?:=
        λb' _ hb=>setRow_other w _ b' _ (hb hh)
       have hlen:(ys.take m++xs.drop m).length=xs.length:=by simp;omega
       have hcp:eF (.row e0 jt.size xs 0) (L k) (.row e0 jt.size (ys.take m++xs.drop m) 0) (L k):=⟨rfl,rfl,by omega,λ_=>rfl⟩
       have hpr:∀o v,(Blk.row e0 jt.size xs 0).live (L k)->(Blk.row e0 jt.size xs 0).frz o->w.cell? ⟨(L k).b,o,none⟩=some v->
        (w.setRow (L k).b (news.take (m*jt.size)++arr.toList.drop (m*jt.size)).toArray).cell? ⟨(L k).b,o,none⟩=some v:=by
        intro q v _ hf _;simp only[Blk.frz,VQ]at hf;omega
       have hpk:=hm.touch_pk (blk':=.row e0 jt.size (ys.take m++xs.drop m) 0) hk' hw hpr (λo hf=>hf) hcp Pp;refine hm.touch hk' hw (by simp) rfl rfl rfl hpr (λo hf=>hf) hcp Pp (by have h9:=hm.own k _ hk';exact h9) ?_;refine⟨g1,Ng _,?_,(λhn=>by rw[hh]at hn;cases hn),λ_=>⟨by omega,a2,_,setRow_heap w _ arr _ _ _ a3,?_,?_⟩⟩
       .grind
       .grind
       .intro i x j p hxi hxj
        have hjs:∀y:PV,y.cells.length=jt.size->x=y->j<jt.size:=λy hy e=>by subst e;rw[<-hy];exact(th.1 hxj).1
        by_cases hi:i<m
        .rw[Iz (by simp;omega),KN,IR hi]at hxi
         obtain⟨u,hu,hr⟩:=n4 i x j p hxi hxj;have hj':=hjs x (hyl x (HW hxi)) rfl;have:(i+1)*jt.size<=m*jt.size:=Kz _ hi;rw[MB]at this;refine⟨u,?_,hr.mono hpk.1⟩
         grind
        .rw[IN (by simp;omega),NG]at hxi
         rw[show m+(i-(ys.take m).length)=i from by simp;omega]at hxi;obtain⟨u,hu,hr⟩:=a5 i x j p hxi hxj;have:m*jt.size<=i*jt.size:=Kz _ (by omega);refine⟨u,?_,hr.mono hpk.1⟩
         grind
      .exact .pv (.val _)
   .cases e
  .cases e
 .cases e
end
end Go.Ab
