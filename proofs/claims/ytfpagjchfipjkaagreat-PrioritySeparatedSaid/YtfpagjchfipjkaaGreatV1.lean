/- The contracts and facts that the laws of this seat need, in one text (AbA). -/
import Derived.WalkKit
import Derived.Defers
import Derived.Recover
import Derived.Maps.AppendAt
set_option linter.all false
set_option maxRecDepth 10000
set_option maxHeartbeats 16000000
namespace Go.Ab
open IntKind (i64)
abbrev an:=@List.getElem?_eq_getElem
abbrev th:=@List.getElem?_eq_some_iff
abbrev up:=@Bool.and_eq_true
abbrev An:=@List.mem_of_getElem?
abbrev Is:=@decide_eq_true_eq
abbrev II:=@Option.map_eq_some_iff
abbrev L4:=@List.all_eq_true
abbrev YR:=@if_neg
abbrev YS:=@List.getElem?_map
abbrev YT:=@List.getElem?_append_left
abbrev YU:=@Bool.false_eq_true
abbrev YV:=@Option.some.injEq
abbrev YX:=@List.getElem?_append_right
abbrev YY:=@if_pos
abbrev YZ:=@Array.getD_eq_getD_getElem?
abbrev Y0:=@Nat.le_refl
abbrev Y1:=@List.getElem?_set
abbrev Y2:=@List.getElem?_eq_none
abbrev Y3:=@Option.bind_some
abbrev Y4:=@decide_eq_false_iff_not
abbrev Y5:=@if_false
abbrev Y6:=@Prod.mk.injEq
abbrev Y7:=@List.mem_append
abbrev Y8:=@Option.getD_some
abbrev Y9:=@Int.toNat_natCast
abbrev Za:=@if_true
abbrev Zb:=@List.length_append
abbrev Zc:=@Int.tdiv_eq_ediv_of_nonneg
abbrev Zd:=@List.getElem_mem
abbrev Ze:=@Nat.mul_le_mul_right
abbrev Zf:=@Bool.true_and
abbrev Zg:=@List.mem_map
abbrev Zh:=@List.take_of_length_le
abbrev Zi:=@List.mem_cons
abbrev Zj:=@List.getElem?_take
abbrev Zk:=@List.getElem?_replicate
abbrev Zl:=@Option.isSome_iff_exists
abbrev Zm:=@List.length_map
abbrev Zn:=@List.eq_nil_of_length_eq_zero
abbrev Zo:=@List.not_mem_nil
abbrev Zp:=@Array.getElem?_eq_some_iff
abbrev Zq:=@List.getElem?_of_mem
abbrev Zr:=@List.mem_singleton
abbrev Zs:=@decide_eq_true
abbrev Zt:=@Bool.false_and
abbrev Zu:=@Array.getElem?_append_left
abbrev Zv:=@Bool.not_eq_true'
abbrev Zw:=@List.mem_range
abbrev Zx:=@List.ext_getElem?
abbrev Zy:=@Array.getElem?_eq_getElem
abbrev Zz:=@Nat.add_mul
abbrev ZA:=@List.length_take
abbrev ZB:=@Option.some.inj
abbrev ZC:=@List.take_succ_eq_append_getElem
abbrev ZD:=@Option.map_some
abbrev ZE:=@List.mem_or_eq_of_mem_set
abbrev ZF:=@Array.getElem?_toList
abbrev ZG:=@Nat.zero_le
abbrev ZH:=@beq_iff_eq
abbrev ZI:=@Bool.or_eq_true
abbrev ZJ:=@Nat.lt_of_lt_of_le
abbrev ZK:=@Array.getElem?_setIfInBounds_ne
abbrev ZO:=@List.getElem?_drop
abbrev ZP:=@or_false
abbrev ZQ:=@List.take_append_drop
abbrev ZR:=@List.length_singleton
abbrev ZS:=@Nat.zero_add
abbrev ZT:=@Int.mul_nonneg
abbrev ZU:=@decide_eq_false
abbrev ZV:=@List.mem_filter
abbrev ZW:=@beq_eq_false_iff_ne
abbrev ZX:=@Array.length_toList
abbrev ZY:=@List.append_assoc
abbrev ZZ:=@Int.mul_le_mul_of_nonneg_left
abbrev Z0:=@List.map_cons
abbrev Z1:=@Int.emod_nonneg
abbrev Z2:=@List.find?_eq_none
abbrev Z3:=@Int.emod_lt_of_pos
abbrev Z4:=@List.getElem?_cons_zero
abbrev Z5:=@Bool.or_eq_false_iff
abbrev Z6:=@List.mem_iff_getElem?
abbrev Z7:=@List.getElem?_toArray
abbrev Z8:=@Iff.rfl
abbrev Z9:=@Bool.and_self
abbrev yAa:=@Nat.mul_le_mul
abbrev yAb:=@List.mem_iff_getElem
abbrev yAc:=@Bool.and_false
abbrev yAd:=@List.range_succ
abbrev yAe:=@List.length_set
abbrev yAf:=@List.getElem_cons_drop
abbrev yAh:=@List.foldl_cons
abbrev yAi:=@not_true_eq_false
abbrev yAj:=@congrArg
abbrev yAk:=@List.size_toArray
abbrev yAl:=@List.map_set
abbrev yAm:=@List.all_eq_false
abbrev yAn:=@Nat.add_assoc
abbrev yAo:=@Bool.not_true
abbrev yAp:=@Bool.and_true
abbrev yAq:=@List.length_cons
abbrev yAr:=@Nat.mul_one
abbrev yAs:=@Nat.le_trans
abbrev yAt:=@List.filter_append
abbrev yAu:=@Int.tmod_lt_of_pos
abbrev yAv:=@List.find?_some
abbrev yAw:=@Nat.lt_trichotomy
abbrev yAx:=@List.any_eq_false
abbrev yAy:=@Array.size_append
abbrev yAz:=@decide_true
abbrev yAA:=@List.mem_of_mem_take
abbrev yAB:=@List.mem_append_left
abbrev yAC:=@List.getD_eq_getElem?_getD
abbrev yAD:=@Nat.sub_self
abbrev yAE:=@List.take_length
abbrev yAF:=@List.any_eq_true
abbrev yAG:=@Array.getElem?_replicate
abbrev yAH:=@List.map_append
abbrev yAI:=@List.length_nil
abbrev yAJ:=@List.append_nil
abbrev yAK:=@Int.ediv_nonneg
abbrev yAL:=@Int.mul_nonneg_of_nonpos_of_nonpos
abbrev yAM:=@Int.lt_tmod_of_pos
abbrev yAN:=@List.getElem?_cons_succ
abbrev yAO:=@List.findIdx?_eq_some_iff_getElem
abbrev yAP:=@Nat.add_zero
abbrev yAQ:=@List.take_add_one
abbrev yAR:=@List.foldl_append
abbrev yAS:=@List.drop_eq_nil_of_le
abbrev yAT:=@Int.le_total
abbrev yAU:=@Int.le_ediv_iff_mul_le
abbrev yAV:=@Int.ediv_lt_iff_lt_mul
abbrev yAW:=@Nat.le_div_iff_mul_le
abbrev yAX:=@List.length_filter_le
abbrev yAY:=@Int.mul_tdiv_add_tmod
abbrev yAZ:=@List.find?_eq_some_iff_getElem
abbrev yA0:=@List.mem_cons_of_mem
abbrev yA1:=@Int.neg_mul
abbrev yA3:=@List.nodup_cons
abbrev yA4:=@Nat.zero_mul
abbrev yA5:=@Nat.pow_succ
abbrev yA6:=@List.map_nil
abbrev yA7:=@List.drop_zero
abbrev yA8:=@Int.tmod_eq_emod_of_nonneg
abbrev yA9:=@Int.mul_le_mul
abbrev yBa:=@Bool.not_false
abbrev yBb:=@List.drop_eq_getElem_cons
abbrev yBc:=@Int.ediv_le_self
end Go.Ab
namespace Go.Ab
open IntKind (i64)
inductive PV where
 |val(v:Value)
 |agg(cs:List PV)
 |sl(xs:List PV)
 |rptr(x:PV)(off:Nat)
 |fn(f:Fn)(first caps:List PV)
 |tup(vs:List PV)
 |ifc(t:TypeId)(x:PV)
 |hd(n:Nat)
 |mp(kd:IntKind)(n:Nat)(es:List (List Int×Value))
 deriving Inhabited
variable {M M':Nat->Nat->Prop}{P:Program}{S:Nat->Prop}{b d e fz k n o off sz:Nat}{es:List (List Int×Value)}{g:Option (Nat×Bool)}{ops:Array Oper}{p:PV}{ps xs:List PV}{t ty:TypeId}{u v:Value}{us vs:List Value}{w w':World}{α:Type}
def kM(kd:IntKind)(a:List Int):Value:=.agg (a.map (Value.int kd)).toArray
def DW(kd:IntKind)(n:Nat)(es:List (List Int×Value))(arr:Array MapEntry):Prop:=
 arr.toList.map (λe=>(e.key,e.val))=es.map (λx=>(kM kd x.1,x.2))/\∀x∈es,x.1.length=n
def PV.cells:PV->List PV
 |.val v=>v.cells.toList.map .val
 |.agg cs=>cs
 |p=>[p]
inductive Rep(w:World)(M:Nat->Nat->Prop):PV->Value->Prop
 |val (v:Value):Rep w M (.val v) v
 |agg (cs:List PV) (vs:List Value) (hl:cs.length=vs.length)
   (h:∀(i:Nat) p u,cs[i]?=some p->vs[i]?=some u->Rep w M p u):Rep w M (.agg cs) (.agg vs.toArray)
 |sl0 (a:Option Addr) (c:Nat):Rep w M (.sl []) (.slice a 0 c)
 |sl (xs:List PV) (b o c sz:Nat) (u:Nat->Nat->Value) (hcap:xs.length<=c)
   (hs:∀(i:Nat) x,xs[i]?=some x->x.cells.length=sz)
   (hc:∀(i:Nat) x(j:Nat) p,xs[i]?=some x->x.cells[j]?=some p->w.cell? ⟨b,o+(i*sz+j),none⟩=some (u i j)/\¬M b (o+(i*sz+j)))
   (hr:∀(i:Nat) x(j:Nat) p,xs[i]?=some x->x.cells[j]?=some p->Rep w M p (u i j)):Rep w M (.sl xs) (.slice (some ⟨b,o,none⟩) xs.length c)
 |rptr (x:PV) (b o off:Nat) (u:Nat->Value)
   (hc:∀(j:Nat) p,x.cells[j]?=some p->w.cell? ⟨b,o+j,none⟩=some (u j)/\¬M b (o+j))
   (hr:∀(j:Nat) p,x.cells[j]?=some p->Rep w M p (u j)):Rep w M (.rptr x off) (.pointer (some ⟨b,o+off,none⟩))
 |fn (f:Fn) (first caps:List PV) (vs us:List Value) (hl:first.length=vs.length) (hk:caps.length=us.length)
   (h:∀(i:Nat) p u,first[i]?=some p->vs[i]?=some u->Rep w M p u)
   (hh:∀(i:Nat) p u,caps[i]?=some p->us[i]?=some u->Rep w M p u):Rep w M (.fn f first caps) (.func f vs.toArray us.toArray)
 |tup (cs:List PV) (vs:List Value) (hl:cs.length=vs.length)
   (h:∀(i:Nat) p u,cs[i]?=some p->vs[i]?=some u->Rep w M p u):Rep w M (.tup cs) (.tuple vs.toArray)
 |ifc (t:TypeId) (x:PV) (v:Value) (h:Rep w M x v):Rep w M (.ifc t x) (.iface t v)
 |hd (n:Nat) (a:Option Addr) (c:Nat):Rep w M (.hd n) (.slice a n c)
 |mp (kd:IntKind) (n:Nat) (es:List (List Int×Value)) (b:Nat) (arr:Array MapEntry) (clock:Nat) (hb:w.heap[b]?=some (.map arr clock)) (hm:¬M b 0) (hes:DW kd n es arr):Rep w M (.mp kd n es) (.map (some b))
structure Pres(w:World)(M:Nat->Nat->Prop)(w':World)(M':Nat->Nat->Prop):Prop where
 cell:∀b o v,w.cell? ⟨b,o,none⟩=some v->¬M b o->w'.cell? ⟨b,o,none⟩=some v/\¬M' b o
 map:∀b arr c,w.heap[b]?=some (.map arr c)->¬M b 0->w'.heap[b]?=some (.map arr c)/\¬M' b 0
theorem Rep.mono(hp:Pres w M w' M')(h:Rep w M p u):Rep w' M' p u:=by
 induction h with
 |val v=>exact .val v
 |agg cs vs k _ ih=>exact .agg cs vs k ih
 |sl0 a c=>exact .sl0 a c
 |sl xs b o c sz u e y hc _ ih=>exact .sl xs b o c sz u e y (λi x j p r g=>hp.cell _ _ _ (hc i x j p r g).1 (hc i x j p r g).2) ih
 |rptr x b o off u hc _ ih=>exact .rptr x b o off u (λj p g=>hp.cell _ _ _ (hc j p g).1 (hc j p g).2) ih
 |fn f first d vs us k s _ _ ih m=>exact .fn f first d vs us k s ih m
 |tup cs vs k _ ih=>exact .tup cs vs k ih
 |ifc t x v _ ih=>exact .ifc t x v ih
 |hd n a c=>exact .hd n a c
 |mp z n es b arr clock hb q l=>exact .mp z n es b arr clock (hp.map _ _ _ hb q).1 (hp.map _ _ _ hb q).2 l
theorem Pres.refl(w:World)(M:Nat->Nat->Prop):Pres w M w M:=⟨λ_ _ _ h a=>⟨h,a⟩,λ_ _ _ h a=>⟨h,a⟩⟩
theorem Pres.trans{d:World}{a:Nat->Nat->Prop}(h:Pres w M w' M')(h':Pres w' M' d a):Pres w M d a:=
 ⟨λb o v hc c=>h'.cell b o v (h.cell b o v hc c).1 (h.cell b o v hc c).2,λb o v hc c=>h'.map b o v (h.map b o v hc c).1 (h.map b o v hc c).2⟩
theorem Pres.sub(h:∀b o,M' b o->M b o):Pres w M w M':=⟨λ_ _ _ hc a=>⟨hc,λhn=>a (h _ _ hn)⟩,λ_ _ _ hc a=>⟨hc,λhn=>a (h _ _ hn)⟩⟩
def bn(w:World)(M:Nat->Nat->Prop)(ps:List PV)(us:List Value):Prop:=
 ps.length=us.length/\∀(i:Nat) p u,ps[i]?=some p->us[i]?=some u->Rep w M p u
theorem bn.nil:bn w M [] []:=⟨rfl,λi p u h=>by simp at h⟩
theorem bn.cons(h:Rep w M p u)(b:bn w M ps us):bn w M (p::ps) (u::us):=by
 refine⟨by simp[b.1],λi q v hq a=>?_⟩
 cases i with
 |zero=>simp at hq a;subst hq;subst a;exact h
 |succ i=>exact b.2 i q v (by simpa using hq) (by simpa using a)
theorem bn.cons_inv{p:PV}(h:bn w M (p::ps) us):∃u a,us=u::a/\Rep w M p u/\bn w M ps a:=by
 cases us with
 |nil=>exact absurd h.1 (by simp)
 |cons u a=>exact⟨u,a,rfl,h.2 0 p u rfl rfl,by have:=h.1;simpa using this,λi q v hq b=>h.2 (i+1) q v (by simpa using hq) (by simpa using b)⟩
theorem bn.nil_inv(h:bn w M [] us):us=[]:=by
 cases us with
 |nil=>rfl
 |cons u us=>exact absurd h.1 (by simp)
theorem bn.mono(hp:Pres w M w' M')(h:bn w M ps us):bn w' M' ps us:=
 ⟨h.1,λi p u a b=>(h.2 i p u a b).mono hp⟩
def eg:List PV->Option (List Value)
 |[]=>some []
 |.val v::r=>(eg r).map (v::·)
 |_::_=>none
def j5(cs:List PV):PV:=match eg cs with
 |some vs=>.val (.agg vs.toArray)
 |none=>.agg cs
theorem uO{w:World}{M:Nat->Nat->Prop}:∀{cs:List PV}{vs us:List Value},eg cs=some vs->bn w M cs us->us=vs
 |[],vs,us,h,a=>by simp[eg]at h;subst h;exact a.nil_inv
 |.val v::r,vs,us,h,a=>by
  simp only[eg,II]at h;obtain⟨e,h',rfl⟩:=h;obtain⟨u,d,rfl,c,b⟩:=a.cons_inv;cases c;rw[uO h' b]
 |.agg _::_,_,_,h,_=>by simp[eg]at h
 |.sl _::_,_,_,h,_=>by simp[eg]at h
 |.rptr _ _::_,_,_,h,_=>by simp[eg]at h
 |.fn _ _ _::_,_,_,h,_=>by simp[eg]at h
 |.tup _::_,_,_,h,_=>by simp[eg]at h
 |.ifc _ _::_,_,_,h,_=>by simp[eg]at h
 |.hd _::_,_,_,h,_=>by simp[eg]at h
 |.mp _ _ _::_,_,_,h,_=>by simp[eg]at h
theorem kO{cs:List PV}(h:bn w M cs us):Rep w M (j5 cs) (.agg us.toArray):=by
 unfold j5;split
 .rename_i vs a;rw[uO a h];exact .val _
 .exact .agg cs us h.1 h.2
theorem Rep.cells(h:Rep w M p u):bn w M p.cells u.cells.toList:=by
 have one:∀{q:PV}{v:Value},Rep w M q v->bn w M [q] [v]:=λhq=>.cons hq .nil
 cases h with
 |val v=>
  refine⟨by simp[PV.cells],λi p u hp d=>?_⟩;simp only[PV.cells,YS,II]at hp;obtain⟨B,r,rfl⟩:=hp;rw[r]at d;injection d with d;subst d;exact .val _
 |agg cs vs j l=>exact⟨by simpa[PV.cells,Value.cells]using j,λi p u hp d=>l i p u (by simpa[PV.cells]using hp) (by simpa[Value.cells]using d)⟩
 |sl0 a c=>exact one (.sl0 a c)
 |sl xs b o c sz u g z hc m=>exact one (.sl xs b o c sz u g z hc m)
 |rptr x b o off u hc m=>exact one (.rptr x b o off u hc m)
 |fn f first e vs us j s h1 h2=>exact one (.fn f first e vs us j s h1 h2)
 |tup cs vs j l=>exact one (.tup cs vs j l)
 |ifc t x v h=>exact one (.ifc t x v h)
 |hd n a c=>exact one (.hd n a c)
 |mp A n es b arr clock hb y k=>exact one (.mp A n es b arr clock hb y k)
inductive XV where
 |barr(k n c:Nat)
 |mp(k:Nat)
 |suf(k o n t:Nat)
 deriving Inhabited
def XV.key:XV->Nat
 |.barr k _ _=>k
 |.mp k=>k
 |.suf k _ _ _=>k
inductive AV where
 |pv(p:PV)
 |ptr(k off:Nat)
 |arr(k n:Nat)
 |eptr(k n i off:Nat)
 |agg(cs:List AV)
 |fn(f:Fn)(first caps:List AV)
 |tup(vs:List AV)
 |ext(x:XV)
 |undef
 deriving Inhabited
inductive Blk where
 |box(cs:List AV)(own fz:Bool)
 |row(e sz:Nat)(xs:List PV)(fz:Nat)
 |mp(kd:IntKind)(n:Nat)(es:List (List Int×Value))(fz:Bool)
 deriving Inhabited
structure Loc where
 b:Nat
 cap:Nat
 isNil:Bool
 deriving Inhabited
variable {L' L'':Nat->Loc}{W:List (Nat×Blk)}{blk:Blk}{cs:List AV}{l:Loc}{x:AV}
def Loc.slice(l:Loc)(n:Nat):Value:=if l.isNil then .slice none 0 0 else .slice (some ⟨l.b,0,none⟩) n l.cap
abbrev Hp:=Nat->Option Blk
inductive RepX(L:Nat->Loc)(h:Hp):XV->Value->Prop
 |barr {k n c:Nat} {cs:List AV} {own fz:Bool} (hc:n<=c) (hk:h k=some (.box cs own fz)):RepX L h (.barr k n c) (.slice (some ⟨(L k).b,0,none⟩) n c)
 |mp {k n:Nat} {kd:IntKind} {es:List (List Int×Value)} {fz:Bool} (hk:h k=some (.mp kd n es fz)):RepX L h (.mp k) (.map (some (L k).b))
 |suf {k o n t e sz fz:Nat} {xs:List PV} {u:Value} (hs:∃A m c,u=.slice A m c) (hk:h k=some (.row e sz xs fz)) (hn:o+n<=t) (ht:t<=xs.length)
   (hu:xs.length=t->∃A c,u=.slice A n c/\(((L k).isNil=false/\A=some ⟨(L k).b,o*sz,none⟩/\c+o=(L k).cap)\/(n=0/\c=0/\(o=0->(L k).isNil=true/\A=none)))):RepX L h (.suf k o n t) u
inductive RepA(w:World)(M:Nat->Nat->Prop)(L:Nat->Loc)(h:Hp):AV->Value->Prop
 |pv {p:PV} {u:Value} (hr:Rep w M p u):RepA w M L h (.pv p) u
 |ptr {k off:Nat} {cs:List AV} {own fz:Bool} (hk:h k=some (.box cs own fz)):RepA w M L h (.ptr k off) (.pointer (some ⟨(L k).b,off,none⟩))
 |arr {k n e sz fz:Nat} {xs:List PV} {u:Value} (hk:h k=some (.row e sz xs fz)) (hn:n<=xs.length) (hu:xs.length=n->u=(L k).slice n):RepA w M L h (.arr k n) u
 |eptr {k n i off e sz fz:Nat} {xs:List PV} {u:Value} (hk:h k=some (.row e sz xs fz)) (hn:n<=xs.length)
   (hu:xs.length=n->(L k).isNil=false/\u=.pointer (some ⟨(L k).b,i*sz+off,none⟩)):RepA w M L h (.eptr k n i off) u
 |agg (cs:List AV) (vs:List Value) (hl:cs.length=vs.length)
   (hh:∀(i:Nat) p u,cs[i]?=some p->vs[i]?=some u->RepA w M L h p u):RepA w M L h (.agg cs) (.agg vs.toArray)
 |fn (f:Fn) (first caps:List AV) (vs us:List Value) (hl:first.length=vs.length) (hk:caps.length=us.length)
   (h1:∀(i:Nat) p u,first[i]?=some p->vs[i]?=some u->RepA w M L h p u)
   (h2:∀(i:Nat) p u,caps[i]?=some p->us[i]?=some u->RepA w M L h p u):RepA w M L h (.fn f first caps) (.func f vs.toArray us.toArray)
 |tup (cs:List AV) (vs:List Value) (hl:cs.length=vs.length)
   (hh:∀(i:Nat) p u,cs[i]?=some p->vs[i]?=some u->RepA w M L h p u):RepA w M L h (.tup cs) (.tuple vs.toArray)
 |ext {x:XV} {u:Value} (hx:RepX L h x u):RepA w M L h (.ext x) u
 |undef (u:Value):RepA w M L h .undef u
variable {h h' h1:Hp}
def dg:Blk->Loc->Blk->Loc->Prop
 |.box _ _ _,l,.box _ _ _,a=>a.b=l.b
 |.row e sz xs _,l,.row g f c _,a=>g=e/\f=sz/\xs.length<=c.length/\(c.length=xs.length->a=l)
 |.mp i n _ _,l,.mp d j _ _,a=>d=i/\j=n/\a.b=l.b
 |_,_,_,_=>False
def KC(L:Nat->Loc)(h:Hp)(L':Nat->Loc)(h':Hp):Prop:=∀k blk,h k=some blk->∃a,h' k=some a/\dg blk (L k) a (L' k)
theorem bt(blk:Blk)(l:Loc):dg blk l blk l:=by cases blk<;>simp[dg]
theorem KC.refl(L:Nat->Loc)(h:Hp):KC L h L h:=λ_ blk a=>⟨blk,a,bt _ _⟩
theorem RepX.mono{L:Nat->Loc}(hc:KC L h L' h'){x:XV}(z:RepX L h x u):RepX L' h' x u:=by
 cases z with
 |@barr k n c cs own fz g f=>
  obtain⟨a,h1,h2⟩:=hc k _ f
  cases a with
  |row=>exact h2.elim
  |mp=>exact h2.elim
  |box p m d=>have h2:(L' k).b=(L k).b:=h2;rw[<-h2];exact .barr g h1
 |@mp k n A es fz f=>
  obtain⟨a,h1,h2⟩:=hc k _ f
  cases a with
  |row=>exact h2.elim
  |box=>exact h2.elim
  |mp j B s d=>have h2:j=A/\B=n/\(L' k).b=(L k).b:=h2;rw[<-h2.2.2];exact .mp h1
 |@suf k o n t e sz fz xs u i f hn v y=>
  obtain⟨a,h1,h2⟩:=hc k _ f
  cases a with
  |box=>exact h2.elim
  |mp=>exact h2.elim
  |row D C l d=>
   obtain⟨_,q,E,r⟩:=h2;refine .suf i h1 hn (by omega) (λe=>?_)
   have:l.length=xs.length:=by omega
   rw[r this,q];exact y (by omega)
theorem RepA.mono{L:Nat->Loc}(hp:Pres w M w' M')(hc:KC L h L' h')
 (p:RepA w M L h x u):RepA w' M' L' h' x u:=by
 induction p with
 |pv B=>exact .pv (B.mono hp)
 |@ptr k off cs own fz c=>
  obtain⟨a,h1,h2⟩:=hc k _ c
  cases a with
  |row=>exact h2.elim
  |mp=>exact h2.elim
  |box y v j=>have h2:(L' k).b=(L k).b:=h2;rw[<-h2];exact .ptr h1
 |@arr k n e sz fz xs u c hn o=>
  obtain⟨a,h1,h2⟩:=hc k _ c
  cases a with
  |box=>exact h2.elim
  |mp=>exact h2.elim
  |row z r d j=>
   obtain⟨_,s,A,m⟩:=h2;refine .arr h1 (by omega) (λe=>?_)
   have:d.length=xs.length:=by omega
   rw[m this];exact o (by omega)
 |@eptr k n i off e sz fz xs u c hn o=>
  obtain⟨a,h1,h2⟩:=hc k _ c
  cases a with
  |box=>exact h2.elim
  |mp=>exact h2.elim
  |row z r d j=>
   obtain⟨_,s,A,m⟩:=h2;refine .eptr h1 (by omega) (λe=>?_)
   have:d.length=xs.length:=by omega
   rw[m this,s];exact o (by omega)
 |agg cs vs l _ ih=>exact .agg cs vs l ih
 |fn f first g vs us l c _ _ ih q=>exact .fn f first g vs us l c ih q
 |tup cs vs l _ ih=>exact .tup cs vs l ih
 |ext p=>exact .ext (p.mono hc)
 |undef u=>exact .undef u
def aC(w:World)(M:Nat->Nat->Prop)(L:Nat->Loc)(h:Hp)(ps:List AV)(us:List Value):Prop:=
 ps.length=us.length/\∀(i:Nat) p u,ps[i]?=some p->us[i]?=some u->RepA w M L h p u
section
variable {w:World} {M:Nat->Nat->Prop} {L:Nat->Loc} {h:Hp}
theorem aC.nil:aC w M L h [] []:=⟨rfl,λi p u h=>by simp at h⟩
theorem aC.cons{p:AV}{ps:List AV}(h1:RepA w M L h p u)(b:aC w M L h ps us):aC w M L h (p::ps) (u::us):=by
 refine⟨by simp[b.1],λi q v hq a=>?_⟩
 cases i with
 |zero=>simp at hq a;subst hq;subst a;exact h1
 |succ i=>exact b.2 i q v (by simpa using hq) (by simpa using a)
theorem aC.cons_inv{p:AV}{ps:List AV}(h1:aC w M L h (p::ps) us):∃u a,us=u::a/\RepA w M L h p u/\aC w M L h ps a:=by
 cases us with
 |nil=>exact absurd h1.1 (by simp)
 |cons u a=>exact⟨u,a,rfl,h1.2 0 p u rfl rfl,by have:=h1.1;simpa using this,λi q v hq b=>h1.2 (i+1) q v (by simpa using hq) (by simpa using b)⟩
theorem aC.nil_inv(h1:aC w M L h [] us):us=[]:=by
 cases us with
 |nil=>rfl
 |cons u us=>exact absurd h1.1 (by simp)
theorem aC.append{ps qs:List AV}(h1:aC w M L h ps us)(h2:aC w M L h qs vs):aC w M L h (ps++qs) (us++vs):=by
 refine⟨by simp[h1.1,h2.1],λi p u hp a=>?_⟩;by_cases hi:i<ps.length
 .rw[YT hi]at hp
  rw[YT (by have:=h1.1;omega)]at a;exact h1.2 i p u hp a
 .rw[YX (by omega)]at hp
  rw[YX (by have:=h1.1;omega)]at a;refine h2.2 _ p u hp ?_;rw[h1.1];exact a
theorem aC.map_pv(h1:bn w M ps us):aC w M L h (ps.map .pv) us:=by
 refine⟨by simpa using h1.1,λi p u hp a=>?_⟩;simp only[YS,II]at hp;obtain⟨q,hq,rfl⟩:=hp;exact .pv (h1.2 i q u hq a)
theorem aC.map_pv_inv(h1:aC w M L h (ps.map .pv) us):bn w M ps us:=by
 refine⟨by simpa using h1.1,λi p u hp a=>?_⟩;have:=h1.2 i (.pv p) u (by simp[hp]) a;cases this;assumption
end
def AV.cells:AV->List AV
 |.pv p=>p.cells.map .pv
 |.agg cs=>cs
 |x=>[x]
def jo:List AV->Option (List PV)
 |[]=>some []
 |.pv p::r=>(jo r).map (p::·)
 |_::_=>none
def ua(cs:List AV):AV:=match jo cs with
 |some ps=>.pv (j5 ps)
 |none=>.agg cs
theorem qb:∀{cs:List AV}{ps:List PV},jo cs=some ps->cs=ps.map .pv
 |[],ps,h=>by simp[jo]at h;subst h;rfl
 |.pv p::r,ps,h=>by
  simp only[jo,II]at h;obtain⟨a,h',rfl⟩:=h;rw[qb h'];rfl
 |.ptr _ _::_,_,h=>by simp[jo]at h
 |.arr _ _::_,_,h=>by simp[jo]at h
 |.eptr _ _ _ _::_,_,h=>by simp[jo]at h
 |.agg _::_,_,h=>by simp[jo]at h
 |.fn _ _ _::_,_,h=>by simp[jo]at h
 |.tup _::_,_,h=>by simp[jo]at h
 |.ext _::_,_,h=>by simp[jo]at h
 |.undef::_,_,h=>by simp[jo]at h
theorem tG{L:Nat->Loc}(h1:aC w M L h cs us):RepA w M L h (ua cs) (.agg us.toArray):=by
 unfold ua;split
 .rename_i ps hp
  rw[qb hp]at h1;exact .pv (kO h1.map_pv_inv)
 .exact .agg cs us h1.1 h1.2
theorem RepA.cells{L:Nat->Loc}(c:RepA w M L h x u)(j:x≠.undef):aC w M L h x.cells u.cells.toList\/(∃k n,x=.arr k n)\/(∃k n i o,x=.eptr k n i o):=by
 have one:∀{q:AV}{v:Value},RepA w M L h q v->aC w M L h [q] [v]:=λhq=>.cons hq .nil
 cases c with
 |pv m=>exact .inl (aC.map_pv m.cells)
 |ptr g=>exact .inl (one (.ptr g))
 |arr=>exact .inr (.inl ⟨_,_,rfl⟩)
 |eptr=>exact .inr (.inr ⟨_,_,_,_,rfl⟩)
 |agg cs vs b d=>exact .inl ⟨by simpa[AV.cells,Value.cells]using b,λi p u hp r=>d i p u (by simpa[AV.cells]using hp) (by simpa[Value.cells]using r)⟩
 |fn f first a vs us b g h1 h2=>exact .inl (one (.fn f first a vs us b g h1 h2))
 |tup cs vs b d=>exact .inl (one (.tup cs vs b d))
 |ext c=>
  refine .inl ?_
  have e:u.cells.toList=[u]:=by
   cases c with
   |suf l _ _ _ _=>obtain⟨_,_,_,rfl⟩:=l;rfl
   |_=>rfl
  rw[e];exact one (.ext c)
 |undef=>exact absurd rfl j
def av(f:Nat->α)(k:Nat)(v:α):Nat->α:=λn=>if n=k then v else f n
theorem aE(f:Nat->α)(k:Nat)(v:α):av f k v k=v:=by simp[av]
theorem bc{f:Nat->α}{v:α}(h:n≠k):av f k v n=f n:=by simp[av,h]
structure Ext(S:Nat->Prop)(w w':World):Prop where
 os:w'.os=w.os
 tape:w'.tape=w.tape
 output:w'.output=w.output
 size:w.heap.size<=w'.heap.size
 block:∀b,b<w.heap.size->¬S b->w'.heap[b]?=w.heap[b]?
theorem Ext.refl(S:Nat->Prop)(w:World):Ext S w w:=⟨rfl,rfl,rfl,Y0 _,λ_ _ _=>rfl⟩
theorem Ext.trans{e:Nat->Prop}{a b c:World}(h:Ext S a b)(k:Ext e b c)(hs:∀x,x<a.heap.size->e x->S x):Ext S a c:=
 ⟨k.os.trans h.os,k.tape.trans h.tape,k.output.trans h.output,yAs h.size k.size,
   λi hi hn=>(k.block i (ZJ hi h.size) (λd=>hn (hs i hi d))).trans (h.block i hi hn)⟩
theorem Ext.cell(h:Ext S w w')(hb:b<w.heap.size)(hs:¬S b):w'.cell? ⟨b,o,none⟩=w.cell? ⟨b,o,none⟩:=by
 simp only[World.cell?,h.block b hb hs]
theorem Ext.alloc(S:Nat->Prop)(w:World)(o:Obj):Ext S w (w.alloc o):=
 ⟨rfl,rfl,rfl,by simp,λb hb _=>RowKit.Below.heap_alloc w o b hb⟩
theorem Ext.drew(S:Nat->Prop)(w:World):Ext S w w.drew:=⟨rfl,rfl,rfl,Y0 _,λ_ _ _=>rfl⟩
structure Cx where
 P:Program
 N:Nat
 M0:Nat->Nat->Prop
 S:Nat->Prop
 pb:Nat->Option Nat
 pr:Nat->Option Loc:=λ_=>none
 hpr:∀k,k<2000000->pr k=none:=by intros;rfl
 w0:World
variable {C:Cx}
def Blk.live:Blk->Loc->Prop
 |.box _ _ _,_=>True
 |.row _ _ _ _,l=>l.isNil=false
 |.mp _ _ _ _,_=>True
def Blk.frz:Blk->Nat->Prop
 |.box _ _ fz,_=>fz=true
 |.row _ sz _ fz,o=>o<fz*sz
 |.mp _ _ _ fz,_=>fz=true
def ab(C:Cx)(L:Nat->Loc)(h:Hp)(b o:Nat):Prop:=C.M0 b o\/∃k blk,h k=some blk/\blk.live (L k)/\(L k).b=b/\¬blk.frz o
def dh(w:World)(M:Nat->Nat->Prop)(L:Nat->Loc)(h:Hp)(l:Loc):Blk->Prop
 |.box cs _ _=>∃arr ty,w.heap[l.b]?=some (.cells arr ty (0,0))/\aC w M L h cs arr.toList
 |.row e sz xs fz=>0<sz/\fz<=xs.length/\(∀x∈xs,x.cells.length=sz)/\(l.isNil=true->xs=[])/\
   (l.isNil=false->xs.length<=l.cap/\l.cap<=maxLen/\∃arr,w.heap[l.b]?=some (.cells arr e (0,0))/\arr.size=l.cap*sz/\
     ∀(i:Nat) x(j:Nat) p,xs[i]?=some x->x.cells[j]?=some p->∃u,arr[i*sz+j]?=some u/\Rep w M p u)
 |.mp a n es _=>∃arr clock,w.heap[l.b]?=some (.map arr clock)/\DW a n es arr
def dy(C:Cx)(k:Nat)(l:Loc):Blk->Prop
 |.box _ false fz=>fz=false/\C.pb k=some l.b/\C.S l.b/\l.b<C.w0.heap.size/\∀o,C.M0 l.b o
 |.box _ true _=>C.w0.heap.size<=l.b\/(C.S l.b/\∀o,¬C.M0 l.b o)
 |.row _ _ _ _=>match C.pr k with
  |some a=>l=a/\(l.isNil=false->C.S l.b/\∀o,¬C.M0 l.b o)
  |none=>l.isNil=false->C.w0.heap.size<=l.b\/(C.S l.b/\∀o,¬C.M0 l.b o)
 |.mp _ _ _ _=>C.w0.heap.size<=l.b
theorem dy.row(h:dy C k l (.row e sz xs fz))(hn:l.isNil=false):C.w0.heap.size<=l.b\/(C.S l.b/\∀o,¬C.M0 l.b o):=by
 grind [dy]
theorem dy.mkRow(a:k<2000000)(h:l.isNil=false->C.w0.heap.size<=l.b):dy C k l (.row e sz xs fz):=by
 simp only[dy,C.hpr k a]
 grind
structure MemL(C:Cx)(L:Nat->Loc)(h:Hp)(w:World):Prop where
 ext:Ext C.S C.w0 w
 m0:∀b o,C.M0 b o->b<C.w0.heap.size
 bl:∀k blk,h k=some blk->dh w (ab C L h) L h (L k) blk
 sep:∀k k' blk blk',k≠k'->h k=some blk->h k'=some blk'->blk.live (L k)->blk'.live (L k')->(L k).b≠(L k').b
 own:∀k blk,h k=some blk->dy C k (L k) blk
theorem dh.lt{L:Nat->Loc}(hb:dh w M L h l blk)(d:blk.live l):l.b<w.heap.size:=by
 have a:∀{o:Obj},w.heap[l.b]?=some o->l.b<w.heap.size:=λ{o} e=>by
  grind
 cases blk with
 |box cs own fz=>obtain⟨arr,ty,e,_⟩:=hb;exact a e
 |row e sz xs fz=>obtain⟨_,_,_,_,h5⟩:=hb;obtain⟨_,_,arr,e,_⟩:=h5 d;exact a e
 |mp f n es fz=>obtain⟨arr,c,e,_⟩:=hb;exact a e
theorem MemL.mlt{L:Nat->Loc}(a:MemL C L h w)(hb:ab C L h b o):b<w.heap.size:=by
 rcases hb with hb|⟨k,blk,c,d,rfl,_⟩
 .exact ZJ (a.m0 b o hb) a.ext.size
 .exact(a.bl k blk c).lt d
theorem rt{o:Obj}(e:w.heap[b]?=some o):b<w.heap.size:=by
 grind
theorem Pres.ext(e:Ext S w w')(hs:∀b,b<w.heap.size->S b->∀o,M b o)(d:∀b o,b<w.heap.size->M' b o->M b o):Pres w M w' M':=by
 have ns:∀b o,b<w.heap.size->¬M b o->¬S b:=λb o hb hn h=>hn (hs b hb h o);refine⟨λb o v hc hn=>?_,λb arr c hc hn=>?_⟩
 .have a:=World.block_lt_of_cell? w ⟨b,o,none⟩ hc
  exact⟨(e.cell a (ns b o a hn)).trans hc,λh=>hn (d b o a h)⟩
 .have a:=rt hc
  exact⟨(e.block b a (ns b 0 a hn)).trans hc,λh=>hn (d b 0 a h)⟩
theorem xZ(h:w.cell? ⟨b,o,none⟩=some v):b<w.heap.size:=World.block_lt_of_cell? w ⟨b,o,none⟩ h
theorem dh.mono{L:Nat->Loc}(hb:dh w M L h l blk)(hp:Pres w M w' M')(hc:KC L h L' h')
 (d:blk.live l->w'.heap[l.b]?=w.heap[l.b]?):dh w' M' L' h' l blk:=by
 cases blk with
 |box cs own fz=>
  obtain⟨arr,ty,e,k,f⟩:=hb;exact⟨arr,ty,(d trivial).trans e,k,λi p u h1 h2=>(f i p u h1 h2).mono hp hc⟩
 |row q sz xs fz=>
  obtain⟨h1,h2,h3,h4,h5⟩:=hb;refine⟨h1,h2,h3,h4,λhn=>?_⟩;obtain⟨h6,a,arr,e,h7,h8⟩:=h5 hn;refine⟨h6,a,arr,(d hn).trans e,h7,λi x j p o g=>?_⟩;obtain⟨u,m,f⟩:=h8 i x j p o g;exact⟨u,m,f.mono hp⟩
 |mp r n es fz=>
  obtain⟨arr,c,e,h1⟩:=hb;exact⟨arr,c,(d trivial).trans e,h1⟩
theorem dh.same{L:Nat->Loc}{l':Loc}(hb:dh w M L h l blk)
 (a:w=w')(b:M=M')(c:L=L')(d:h=h')(e:l=l'):dh w' M' L' h' l' blk:=by subst a;subst b;subst c;subst d;subst e;exact hb
theorem KC.trans{L:Nat->Loc}{e:Hp}(a:KC L h L' h')(b:KC L' h' L'' e):KC L h L'' e:=by
 intro k blk f;obtain⟨d,h1,h2⟩:=a k blk f;obtain⟨c,h3,h4⟩:=b k d h1;refine⟨c,h3,?_⟩;cases blk<;>cases d<;>cases c<;>simp only[dg]at h2 h4|-
 all_goals grind
theorem KC.new{L:Nat->Loc}(hd:h d=none):KC L h (av L d l) (av h d (some blk)):=by
 intro k b a
 grind [bc,bt]
theorem MemL.newKey{L:Nat->Loc}(p:MemL C L h w)(hd:h d=none)(y:d<2000000)(z:Ext (λ_=>False) w w')
 (j:blk.live l->w.heap.size<=l.b)(q:∀cs fz,blk≠.box cs false fz)
 (hb:dh w' (λb o=>ab C L h b o\/(blk.live l/\b=l.b)) (av L d l) (av h d (some blk)) l blk):
 MemL C (av L d l) (av h d (some blk)) w'/\Pres w (ab C L h) w' (ab C (av L d l) (av h d (some blk)))/\KC L h (av L d l) (av h d (some blk)):=by
 have s:KC L h (av L d l) (av h d (some blk)):=KC.new hd
 have D:∀b o,ab C (av L d l) (av h d (some blk)) b o->ab C L h b o\/(blk.live l/\b=l.b):=by
  rintro b o (B|⟨k,c,a,g,r,hf⟩)
  .exact .inl (.inl B)
  .by_cases e:k=d
   .grind [aE]
   .rw[bc e]at a g r
    exact .inl (.inr ⟨k,c,a,g,r,hf⟩)
 have m:Pres w (ab C L h) w' (ab C (av L d l) (av h d (some blk))):=by
  refine Pres.ext z (λ_ _ h=>h.elim) λb o F E=>?_
  grind
 refine⟨⟨p.ext.trans z (λ_ _ h=>h.elim),p.m0,?_,?_,?_⟩,m,s⟩
 .intro k c a
  by_cases e:k=d
  .subst e
   rw[aE]at a|-;injection a with a;subst a;exact hb.mono (Pres.sub D) (KC.refl _ _) (λ_=>rfl)
  .rw[bc e]at a|-
   exact(p.bl k c a).mono m s (λg=>z.block _ ((p.bl k c a).lt g) (λh=>h))
 .intro k x b1 A u a f g i
  by_cases e:k=d
  .subst e
   have v:x≠k:=λe=>u e.symm;rw[bc v]at f i|-;rw[aE]at a g|-;injection a with a;subst a;have:=(p.bl x A f).lt i
   grind
  .rw[bc e]at a g|-
   by_cases v:x=d
   .subst v
    rw[aE]at f i|-;injection f with f;subst f;have:=(p.bl k b1 a).lt g
    grind
   .rw[bc v]at f i|-
    exact p.sep k x b1 A u a f g i
 .intro k c a
  by_cases e:k=d
  .subst e
   rw[aE]at a|-;injection a with a;subst a;have:=p.ext.size
   cases blk with
   |box cs own fz=>
    cases own with
    |false=>exact absurd rfl (q cs fz)
    |true=>have:=j trivial;exact .inl (by omega)
   |row e sz xs fz=>exact dy.mkRow y (λg=>by have:=j g;omega)
   |mp G n es fz=>have:=j trivial;simp only[dy];omega
  .rw[bc e]at a|-
   exact p.own k c a
theorem MemL.touch{L:Nat->Loc}(g:MemL C L h w){blk':Blk}(m:h k=some blk)
 (x:∀b,b<w.heap.size->(blk.live (L k)->b≠(L k).b)->w'.heap[b]?=w.heap[b]?)(I:w.heap.size<=w'.heap.size)(H:w'.os=w.os)(J:w'.tape=w.tape)(hout:w'.output=w.output)
 (hpr:∀o v,blk.live (L k)->blk.frz o->w.cell? ⟨(L k).b,o,none⟩=some v->w'.cell? ⟨(L k).b,o,none⟩=some v)(F:∀o,blk.frz o->blk'.frz o)(D:dg blk (L k) blk' (L k))
 (u:blk'.live (L k)↔blk.live (L k))(N:dy C k (L k) blk')
 (hb:dh w' (ab C L (av h k (some blk'))) L (av h k (some blk')) (L k) blk')(G:∀A n es,blk≠.mp A n es true:=by intro _ _ _ h;cases h):
 MemL C L (av h k (some blk')) w'/\Pres w (ab C L h) w' (ab C L (av h k (some blk')))/\KC L h L (av h k (some blk')):=by
 have y:KC L h L (av h k (some blk')):=by
  intro q b hq;by_cases e:q=k
  .subst e;rw[m]at hq;injection hq with hq;subst hq;exact⟨blk',aE _ _ _,D⟩
  .exact⟨b,by rw[bc e];exact hq,bt _ _⟩
 have M:∀b o,ab C L (av h k (some blk')) b o->ab C L h b o:=by
  rintro b o (P|⟨q,r,hq,a,i,hf⟩)
  .exact .inl P
  .by_cases e:q=k
   .subst e
    rw[aE]at hq;injection hq with hq;subst hq;exact .inr ⟨q,blk,m,u.1 a,i,λE=>hf (F o E)⟩
   .rw[bc e]at hq
    exact .inr ⟨q,r,hq,a,i,hf⟩
 have l:Pres w (ab C L h) w' (ab C L (av h k (some blk'))):=by
  refine⟨?_,λb arr c hc hn=>⟨?_,λs=>hn (M b 0 s)⟩⟩
  case refine_2=>
   have j:=rt hc;by_cases a:blk.live (L k)
   .by_cases e:b=(L k).b
    .subst e
     have O:=g.bl k blk m
     cases blk with
     |box cs own fz=>obtain⟨_,_,e,_⟩:=O;rw[e]at hc;cases hc
     |row e sz xs fz=>obtain⟨_,_,_,_,h5⟩:=O;obtain⟨_,_,_,e,_⟩:=h5 a;rw[e]at hc;cases hc
     |mp A n es fz=>
      cases fz with
      |true=>exact absurd rfl (G A n es)
      |false=>exact absurd (Or.inr ⟨k,_,m,a,rfl,by simp[Blk.frz]⟩) hn
    .rw[x b j (λ_=>e)];exact hc
   .rw[x b j (λd=>absurd d a)];exact hc
  intro b o v hc hn;have j:=xZ hc;refine⟨?_,λs=>hn (M b o s)⟩;by_cases a:blk.live (L k)
  .by_cases e:b=(L k).b
   .subst e
    by_cases hf:blk.frz o
    .exact hpr o v a hf hc
    .exact absurd (Or.inr ⟨k,blk,m,a,rfl,hf⟩) hn
   .simp only[World.cell?,x b j (λ_=>e)]at hc|-;exact hc
  .simp only[World.cell?,x b j (λd=>absurd d a)]at hc|-;exact hc
 refine⟨⟨?_,g.m0,?_,?_,?_⟩,l,y⟩
 .refine⟨H.trans g.ext.os,J.trans g.ext.tape,hout.trans g.ext.output,yAs g.ext.size I,λb i hS=>?_⟩
  rw[x b (ZJ i g.ext.size),g.ext.block b i hS];rintro a rfl;have h1:=g.own k blk m
  cases blk with
  |box cs own fz=>
   cases own with
   |false=>exact hS h1.2.2.1
   |true=>rcases h1 with h2|h2
          .omega
          .exact hS h2.1
  |row e sz xs fz=>
   rcases h1.row a with h2|h2
   all_goals grind
  |mp A n es fz=>simp only[dy]at h1;omega
 .intro q r hq
  by_cases e:q=k
  .grind [aE]
  .rw[bc e]at hq
   exact(g.bl q r hq).mono l y (λa=>x _ ((g.bl q r hq).lt a) (λd z=>g.sep q k r blk e hq m a d z))
 .intro q B b1 K p hq f a d
  by_cases e:q=k
  .subst e
   rw[aE]at hq;injection hq with hq;subst hq;rw[bc (λe=>p e.symm)]at f;exact g.sep q B blk K p m f (u.1 a) d
  .rw[bc e]at hq
   by_cases z:B=k
   .subst z
    rw[aE]at f;injection f with f;subst f;exact g.sep q B b1 blk p hq m a (u.1 d)
   .rw[bc z]at f
    exact g.sep q B b1 K p hq f a d
 .intro q r hq
  by_cases e:q=k
  .grind [aE]
  .rw[bc e]at hq;exact g.own q r hq
theorem MemL.move{L:Nat->Loc}(g:MemL C L h w){d:Nat}{xs':List PV}(B:h k=some (.row d sz xs fz))(D:k<2000000)(s:Ext (λ_=>False) w w'){l':Loc}
 (x:l'.isNil=false/\w.heap.size<=l'.b)(v:xs.length<xs'.length)
 (hb:dh w' (λb o=>ab C L h b o\/b=l'.b) (av L k l') (av h k (some (.row d sz xs' fz))) l' (.row d sz xs' fz)):
 MemL C (av L k l') (av h k (some (.row d sz xs' fz))) w'/\Pres w (ab C L h) w' (ab C (av L k l') (av h k (some (.row d sz xs' fz))))/\KC L h (av L k l') (av h k (some (.row d sz xs' fz))):=by
 have m:KC L h (av L k l') (av h k (some (.row d sz xs' fz))):=by
  intro q b hq;by_cases e:q=k
  .subst e;rw[B]at hq;injection hq with hq;subst hq
   exact⟨_,aE _ _ _,rfl,rfl,by omega,λe=>by omega⟩
  grind [bc,bt]
 have z:∀b o,ab C (av L k l') (av h k (some (.row d sz xs' fz))) b o->ab C L h b o\/b=l'.b:=by
  rintro b o (y|⟨q,j,hq,f,l,hf⟩)
  .exact .inl (.inl y)
  .by_cases e:q=k
   .grind [aE]
   .rw[bc e]at hq f l;exact .inl (.inr ⟨q,j,hq,f,l,hf⟩)
 have c:Pres w (ab C L h) w' (ab C (av L k l') (av h k (some (.row d sz xs' fz)))):=by
  refine Pres.ext s (λ_ _ h=>h.elim) λb o E A=>?_
  grind
 refine⟨⟨g.ext.trans s (λ_ _ h=>h.elim),g.m0,?_,?_,?_⟩,c,m⟩
 .intro q j hq
  by_cases e:q=k
  .subst e
   rw[aE]at hq|-;injection hq with hq;subst hq;exact hb.mono (Pres.sub z) (KC.refl _ _) (λ_=>rfl)
  .rw[bc e]at hq|-
   exact(g.bl q j hq).mono c m (λf=>s.block _ ((g.bl q j hq).lt f) (λh=>h))
 .intro q r b1 u n hq i f a
  by_cases e:q=k
  .subst e
   have p:r≠q:=λe=>n e.symm;rw[bc p]at i a|-;rw[aE]at f|-;have:=(g.bl r u i).lt a;omega
  .rw[bc e]at hq f|-
   by_cases p:r=k
   .subst p
    rw[aE]at a|-;have:=(g.bl q b1 hq).lt f;omega
   .rw[bc p]at i a|-
    exact g.sep q r b1 u n hq i f a
 .intro q j hq
  have:=g.ext.size;by_cases e:q=k
  .grind [aE,dy.mkRow]
  .rw[bc e]at hq|-;exact g.own q j hq
theorem MemL.grow{L:Nat->Loc}(b:MemL C L h w)(c:Ext (λ_=>False) w w'):MemL C L h w'/\Pres w (ab C L h) w' (ab C L h):=by
 have a:Pres w (ab C L h) w' (ab C L h):=Pres.ext c (λ_ _ h=>h.elim) λ_ _ _ h=>h;exact⟨⟨b.ext.trans c (λ_ _ h=>h.elim),b.m0,λk blk d=>(b.bl k blk d).mono a (KC.refl _ _) (λe=>c.block _ ((b.bl k blk d).lt e) (λh=>h)),b.sep,b.own⟩,a⟩
inductive TK where
 |one
 |struct(fs:List (Nat×Nat))
 |array(len esz:Nat)
 |slice(e esz ebytes:Nat)(ezero:Option Value)
structure TI where
 size:Nat
 zero:Option Value
 kind:TK
variable {ti:TI}
def oZ(P:Program)(t:TypeId):Nat:=((P.info? t).map (·.size)).getD 0
def mb(P:Program)(t:TypeId):Bool:=match P.underlying t with
 |some (.struct a)=>a.toList.all λf=>(P.info? f.type).isSome
 |some (.array _ e)=>(P.info? e).isSome
 |_=>true
def az(P:Program)(t:TypeId):Option TI:=
 if mb P t=false then none else
 match P.info? t,P.underlying t with
 |some i,some d=>some {size:=i.size,zero:=i.zero,kind:=match d with
   |.struct a=>.struct (a.toList.map λf=>(f.offset,oZ P f.type))
   |.array n e=>.array n (oZ P e)
   |.slice e=>match P.info? e with
    |some j=>.slice e j.size j.bytes j.zero
    |none=>.one
   |_=>.one}
 |_,_=>none
def zL(P:Program)(t:TypeId):Option (IntKind×Nat×TypeId):=match P.underlying t with
 |some (.map c a)=>match P.underlying c with
  |some (.array n e)=>match P.underlying e,P.info? e with
   |some (.int b),some j=>if j.size=1 then some (b,n,a)else none
   |_,_=>none
  |_=>none
 |_=>none
def mc(kd:IntKind):List Value->Option (List Int)
 |[]=>some []
 |.int k i::r=>if k=kd then(mc kd r).map (i::·)else none
 |_::_=>none
def wx(kd:IntKind)(n:Nat):AV->Option (List Int)
 |.pv (.val (.agg cs))=>match mc kd cs.toList with
  |some a=>if a.length=n then some a else none
  |none=>none
 |_=>none
def iW:List (List Int×Value)->List Int->Option Value
 |[],_=>none
 |(k,v)::r,a=>if k=a then some v else iW r a
def lU:List (List Int×Value)->List Int->Value->List (List Int×Value)
 |[],a,u=>[(a,u)]
 |(k,v)::r,a,u=>if k=a then(a,u)::r else(k,v)::lU r a u
def TK.isAgg:TK->Bool
 |.struct _|.array _ _=>true
 |_=>false
def al{α:Type}(P:Program):Sem α->Option α
 |.pure a=>some a
 |.program k=>al P (k P)
 |_=>none
def mJ:AV->List Nat
 |.ptr k _|.arr k _|.eptr k _ _ _=>[k]
 |.ext x=>[x.key]
 |_=>[]
def Ps:AV->List Nat
 |.agg cs=>cs.flatMap mJ
 |.fn _ f c=>(f++c).flatMap mJ
 |.tup vs=>vs.flatMap mJ
 |x=>mJ x
abbrev bP:=AV×List (Nat×Blk)
def md:Value->Bool
 |.slice none 0 0=>true
 |_=>false
def nJ:AV->Bool
 |.pv (.val v)=>md v
 |_=>false
def yb:PV->PV
 |.val v=>if md v then .sl []else .val v
 |p=>p
def Ei(v:Value):Bool:=match v with
 |.agg cs=>cs.toList.any md
 |_=>false
def norm(p:PV):PV:=match p with
 |.val v=>if md v then .sl []else if Ei v then j5 (p.cells.map yb)else .val v
 |.agg cs=>j5 (cs.map yb)
 |p=>p
def qc:PV->Bool
 |.agg _=>true
 |.val (.agg _)=>true
 |_=>false
def jp:PV->Bool
 |.val v=>v.oneCell'
 |.agg _=>false
 |.tup _=>false
 |_=>true
def wy(h:Hp):AV->Bool
 |.pv p=>jp p
 |.ptr _ _=>true
 |.arr k n=>match h k with
  |some (.row _ _ xs _)=>xs.length==n
  |_=>false
 |.fn _ _ _=>true
 |.ext _=>true
 |_=>false
def rH(a:Nat)(y:PV):Bool:=y.cells.length==a&&y.cells.all jp
def ft(h:Hp):AV->Option (List AV×Nat)
 |.ptr k off=>match h k with
  |some (.box cs _ _)=>some (cs,off)
  |_=>none
 |.pv (.rptr x off)=>some (x.cells.map .pv,off)
 |.eptr k n i off=>match h k with
  |some (.row _ _ xs _)=>if xs.length=n then(match xs[i]? with
   |some x=>some (x.cells.map .pv,off)
   |none=>none)else none
  |_=>none
 |_=>none
def AB(h:Hp)(sz:Nat):AV->Option PV
 |.pv (.rptr x 0)=>if qc x&&x.cells.length==sz then some x else none
 |.eptr k n i 0=>match h k with
  |some (.row _ _ xs _)=>if xs.length=n then(match xs[i]? with
   |some x=>if qc x&&x.cells.length==sz then some x else none
   |none=>none)else none
  |_=>none
 |_=>none
def wC(a:TI)(x:AV)(h:Hp):Option AV:=
 if a.kind.isAgg then
  match AB h a.size x with
  |some p=>some (.pv p)
  |none=>match ft h x with
   |some (cs,off)=>if off+a.size<=cs.length then some (ua ((cs.drop off).take a.size))else none
   |none=>none
 else match ft h x with
  |some (cs,off)=>cs[off]?
  |none=>none
def gV(h:Hp):AV->Option (List AV)
 |.undef=>none
 |.eptr _ _ _ _=>none
 |.arr k n=>match h k with
  |some (.row _ _ xs _)=>if xs.length=n then some [.arr k n]else none
  |_=>none
 |x=>some x.cells
def bo(cs:List α)(off:Nat)(vs:List α):List α:=cs.take off++vs++cs.drop (off+vs.length)
def iX(h:Hp):AV->Option (PV×List (Nat×Blk))
 |.pv p=>some (norm p,[])
 |.arr k n=>match h k with
  |some (.row e sz xs _)=>if xs.length=n then some (.sl xs,[(k,.row e sz xs xs.length)])else none
  |_=>none
 |.ext (.mp k)=>match h k with
  |some (.mp a n es _)=>some (.mp a n es,[(k,.mp a n es true)])
  |_=>none
 |_=>none
def eh(h:Hp):List AV->Option (List PV×List (Nat×Blk))
 |[]=>some ([],[])
 |x::r=>match iX h x,eh h r with
  |some (p,W),some (ps,a)=>some (p::ps,W++a)
  |_,_=>none
def tH(h:Hp):AV->Option (PV×List (Nat×Blk))
 |.ext (.barr k n _)=>match h k with
  |some (.box cs true _)=>if cs.length=n then(match eh h cs with
   |some (ps,W)=>if ps.all jp=true then some (.sl ps,W++[(k,.box cs true true)])else none
   |none=>none)else if n<=cs.length then(match eh h cs with
   |some (ps,W)=>if ps.all jp=true then some (.sl (ps.take n),W++[(k,.box cs true true)])else none
   |none=>none)else none
  |_=>none
 |x=>iX h x
def qC(h:Hp):List AV->Option (List PV×List (Nat×Blk))
 |[]=>some ([],[])
 |x::r=>match tH h x,qC h r with
  |some (p,W),some (ps,a)=>some (p::ps,W++a)
  |_,_=>none
def i7:List PV->Bool
 |[p]=>jp p
 |_=>false
def rI(h:Hp):AV->Option (PV×List (Nat×Blk))
 |.pv p=>some (p,[])
 |.ptr k 0=>match h k with
  |some (.box cs true _)=>match jo cs with
   |some ps=>if i7 ps=true then some (.rptr (ps.headD default) 0,[(k,.box cs true true)])
    else some (.rptr (j5 ps) 0,[(k,.box cs true true)])
   |none=>match qC h cs with
    |some (ps,W)=>if i7 ps=true then some (.rptr (ps.headD default) 0,W++[(k,.box cs true true)])
     else some (.rptr (j5 ps) 0,W++[(k,.box cs true true)])
    |none=>none
  |_=>none
 |_=>none
def kv(h:Hp):List AV->Option (List PV×List (Nat×Blk))
 |[]=>some ([],[])
 |x::r=>match rI h x,kv h r with
  |some (p,W),some (ps,a)=>some (p::ps,W++a)
  |_,_=>none
def BU(h:Hp):AV->Option (PV×List (Nat×Blk))
 |.agg cs=>match qC h cs with
  |some (ps,W)=>some (j5 ps,W)
  |none=>none
 |.fn f first a=>match qC h first,kv h a with
  |some (ps,W),some (c,b)=>some (.fn f ps c,W++b)
  |_,_=>none
 |x=>tH h x
def pQ(h:Hp):List AV->Option (List PV×List (Nat×Blk))
 |[]=>some ([],[])
 |x::r=>match BU h x,pQ h r with
  |some (p,W),some (ps,a)=>some (p::ps,W++a)
  |_,_=>none
def frz(h:Hp):AV->Option (PV×List (Nat×Blk))
 |.agg cs=>match pQ h cs with
  |some (ps,W)=>some (j5 ps,W)
  |none=>none
 |.fn f first a=>match qC h first,kv h a with
  |some (ps,W),some (c,b)=>some (.fn f ps c,W++b)
  |_,_=>none
 |.tup vs=>match pQ h vs with
  |some (ps,W)=>some (.tup ps,W)
  |none=>none
 |x=>tH h x
def kP:PV->Bool
 |.val _=>true
 |.agg cs=>cs.all λc=>match c with|.val _=>true|_=>false
 |_=>false
def wD(h:Hp):AV->Option PV
 |.pv p=>if kP p=true then some p else none
 |.arr k n=>match h k with
  |some (.row _ _ xs _)=>if xs.length=n/\k<2000000/\xs.all kP=true then some (.sl xs)else none
  |_=>none
 |.ext (.mp k)=>match h k with
  |some (.mp a n es _)=>some (.mp a n es)
  |_=>none
 |_=>none
def sT(h:Hp):List AV->Option (List PV)
 |[]=>some []
 |x::r=>match wD h x,sT h r with
  |some p,some ps=>some (p::ps)
  |_,_=>none
def BV(h:Hp):AV->Option PV
 |.ext (.barr k n _)=>match h k with
  |some (.box cs true _)=>if cs.length=n then(match sT h cs with
   |some ps=>if ps.all jp=true then some (.sl ps)else none
   |none=>none)else none
  |_=>none
 |x=>wD h x
def wE(h:Hp):List AV->Option (List PV)
 |[]=>some []
 |x::r=>match BV h x,wE h r with
  |some p,some ps=>some (p::ps)
  |_,_=>none
def AC(h:Hp):AV->Option PV
 |.ptr k 0=>match h k with
  |some (.box cs true _)=>match wE h cs with
   |some ps=>if i7 ps=true then some (.rptr (ps.headD default) 0)else some (.rptr (j5 ps) 0)
   |none=>none
  |_=>none
 |x=>BV h x
def rx(h:Hp):List AV->Option (List PV)
 |[]=>some []
 |x::r=>match AC h x,rx h r with
  |some p,some ps=>some (p::ps)
  |_,_=>none
def Nc(h:Hp):AV->Option PV
 |.fn f first a=>match wE h first,rx h a with
  |some ps,some b=>some (.fn f ps b)
  |_,_=>none
 |.tup vs=>match wE h vs with
  |some ps=>some (.tup ps)
  |none=>none
 |x=>BV h x
def yc(a:TI)(x v:AV)(h:Hp):Option (List (Nat×Blk)):=
 match x with
 |.ptr k off=>match h k,gV h v with
  |some (.box cs own false),some b=>if b.length=a.size/\off+b.length<=cs.length/\b.all (wy h)=true then some [(k,.box (bo cs off b) own false)]else none
  |_,_=>none
 |.eptr k n i off=>match h k with
  |some (.row e sz xs fz)=>
   if xs.length=n/\fz<=i then
    match xs[i]?,tH h v with
    |some y,some (p,[])=>
     if rH a.size p=true then
      if off=0/\a.size=sz then some [(k,.row e sz (xs.set i p) fz)]
      else if off+a.size<=sz/\qc y then some [(k,.row e sz (xs.set i (j5 (bo y.cells off p.cells))) fz)]
      else none
     else none
    |_,_=>none
   else none
  |_=>none
 |_=>none
def ub(h:Hp)(k n:Nat):Bool:=match h k with
 |some (.row _ _ xs _)=>xs.length==n
 |_=>false
def pR(b:TI)(x:AV)(f:Nat)(h:Hp):Option AV:=
 match b.kind with
 |.struct a=>match a[f]? with
  |some (o,s)=>if s=0 then none else match x with
   |.ptr k off=>some (.ptr k (off+o))
   |.pv (.rptr y off)=>some (.pv (.rptr y (off+o)))
   |.eptr k n i off=>if ub h k n=true then some (.eptr k n i (off+o))else none
   |_=>none
  |none=>none
 |_=>none
def pS(b:TI)(x:AV)(i:Int)(h:Hp):Option AV:=
 match b.kind with
 |.slice _ a _ _=>match x with
  |.pv (.sl xs)=>if 0<=i then(match xs[i.toNat]? with
   |some y=>if y.cells.length=a then some (.pv (.rptr y 0))else none
   |none=>none)else none
  |.arr k n=>match h k with
   |some (.row _ sz xs _)=>if xs.length=n/\sz=a/\0<=i/\i.toNat<n then some (.eptr k n i.toNat 0)else none
   |_=>none
  |_=>none
 |.array len a=>if 0<=i/\i.toNat<len then match x with
   |.ptr k off=>some (.ptr k (off+i.toNat*a))
   |.pv (.rptr y off)=>some (.pv (.rptr y (off+i.toNat*a)))
   |.eptr k n j off=>if ub h k n=true then some (.eptr k n j (off+i.toNat*a))else none
   |_=>none
  else none
 |_=>none
def uP(b:TI)(x:AV)(i:Int)(h:Hp):Option AV:=
 match b.kind,x with
 |.slice _ 1 _ _,.ext (.barr k n _)=>if 0<=i/\i.toNat<n then some (.ptr k i.toNat)else none
 |.slice _ a _ _,.ext (.suf k o n t)=>match h k with
  |some (.row _ sz xs _)=>if xs.length=t/\sz=a/\0<=i/\i.toNat<n then some (.eptr k t (o+i.toNat) 0)else none
  |_=>none
 |_,_=>none
def BW:Option AV->Option AV->Option AV
 |some v,_=>some v
 |none,y=>y
def uQ(place:Nat->Option (Nat×Nat))(cells:List AV):List (Nat×List AV)->Option (List AV)
 |[]=>some cells
 |(i,vs)::rest=>match place i with
  |none=>none
  |some (off,size)=>if vs.length≠size\/off+vs.length>cells.length then none else uQ place (bo cells off vs) rest
def ry(h:Hp)(ρ:Operand->AV):List (Nat×Operand)->Option (List (Nat×List AV))
 |[]=>some []
 |(i,x)::r=>match gV h (ρ x),ry h ρ r with
  |some cs,some ps=>some ((i,cs)::ps)
  |_,_=>none
def yd(b:TI)(ps:List (Nat×List AV)):Option AV:=
 match b.zero with
 |none=>none
 |some z=>
  let c:=z.cells.toList.map λv=>AV.pv (.val v)
  match b.kind with
  |.struct d=>(uQ (λi=>d[i]?) c ps).map ua
  |.array _ a=>(uQ (λi=>some (i*a,a)) c ps).map ua
  |_=>none
def Ic(a:Bool)(h:Hp)(x:AV):Option (PV×List (Nat×Blk)):=match a,x with
 |true,.pv (.val v)=>some (.val v,[])
 |_,x=>frz h x
def JG(hn:List Nat)(d:Option Nat):Bool:=match d with
 |some d=>hn.contains (d+2000000)
 |none=>false
def rz(h:Hp)(ρ:Operand->AV)(a:Nat)(b:Bool):Nat->List (Nat×Operand)->Option (List PV×List (Nat×Blk))
 |_,[]=>some ([],[])
 |k,(i,x)::r=>if i=k then match Ic b h (ρ x),rz h ρ a b (k+1) r with
   |some (p,W),some (ps,c)=>if p.cells.length=a then some (p::ps,W++c)else none
   |_,_=>none
  else none
def gq(h:Hp):AV->Option (List PV)
 |.pv (.sl a)=>some a
 |.pv (.val v)=>if md v then some []else none
 |.arr k n=>match h k with
  |some (.row _ _ xs _)=>if xs.length=n then some xs else none
  |_=>none
 |_=>none
def uR(g:TI)(d:Option Nat)(s x:AV)(h:Hp):Option bP:=
 match g.kind with
 |.slice f b a (some z)=>
  match gq h x with
  |none=>none
  |some c=>
   if 0<b/\z.cells.size=b/\c.all (rH b)=true then
    match s with
    |.arr k n=>match h k with
     |some (.row e sz xs fz)=>
      if k<2000000/\xs.length=n/\e=f/\sz=b/\(n+c.length)*a<=140737488355328/\n+c.length<=9223372036854775807 then some (.arr k (n+c.length),[(k,.row e sz (xs++c) fz)])else none
     |_=>none
    |.pv (.val v)=>
     if md v then match d with
      |some d=>if(h d).isNone/\c.length*a<=140737488355328/\c.length<=9223372036854775807 then some (.arr d c.length,[(d,.row f b c 0)])else none
      |none=>none
     else none
    |_=>none
   else none
 |_=>none
def AD(c:TI)(s x:AV)(h:Hp):Option bP:=
 match c.kind,s with
 |.slice _ a _ _,.arr k n=>match h k,gq h x with
  |some (.row e sz xs 0),some b=>
   if xs.length=n/\sz=a/\b.all (rH a)=true then
    some (.pv (.val (.int .i64 (Nat.min b.length n:Nat))),[(k,.row e sz (b.take (Nat.min b.length n)++xs.drop (Nat.min b.length n)) 0)])else none
  |_,_=>none
 |_,_=>none
def DX(a:TI)(x:AV)(h:Hp):Option AV:=
 match a.kind,x with
 |.slice _ _ _ _,.pv (.sl xs)=>some (.pv (.val (.int .i64 (xs.length:Nat))))
 |.slice _ _ _ _,.pv (.hd n)=>some (.pv (.val (.int .i64 (n:Nat))))
 |.slice _ _ _ _,.arr k n=>match h k with
  |some (.row _ _ xs _)=>if xs.length=n then some (.pv (.val (.int .i64 (n:Nat))))else none
  |_=>none
 |.slice _ _ _ _,.ext (.barr _ n _)=>some (.pv (.val (.int .i64 (n:Nat))))
 |.slice _ _ _ _,.ext (.suf k o n t)=>match h k with
  |some (.row _ _ xs _)=>if xs.length=t then some (.pv (.val (.int .i64 (n:Nat))))else none
  |_=>none
 |_,_=>none
def ye(b:TI)(hn:List Nat)(d:Option Nat)(l c:AV)(h:Hp):Option bP:=
 match b.kind,l,c,d with
 |.slice _ 1 a (some z),.pv (.val (.int _ n)),.pv (.val (.int _ m)),some d=>
  if hn.contains (d+1000000)=true/\jp (.val z)=true/\m=n/\0<=n/\(a:Int)*n<=281474976710656/\n<=9223372036854775807/\(h d).isNone then
   some (.ext (.barr d n.toNat n.toNat),[(d,.box (List.replicate n.toNat (.pv (.val z))) true false)])
  else none
 |_,_,_,_=>none
def BX:Option bP->Option bP->Option bP
 |some v,_=>some v
 |none,y=>y
def sU(P:Program)(t:TypeId)(d:Option Nat)(h:Hp):Option bP:=
 match zL P t,d with
 |some (a,n,_),some d=>if(h d).isNone then some (.ext (.mp d),[(d,.mp a n [] false)])else none
 |_,_=>none
def Id(P:Program)(t:TypeId):Option Value:=(P.info? t).bind (·.zero)
def yg(z:Option Value)(ok:Bool):Option Value->Option AV
 |some v=>some (.pv (if ok then .tup [.val v,.val (.bool true)]else .val v))
 |none=>match z with
  |some z=>some (.pv (if ok then .tup [.val z,.val (.bool false)]else .val z))
  |none=>none
def DY(h:Hp):AV->Option (IntKind×Nat×List (List Int×Value))
 |.ext (.mp k)=>match h k with
  |some (.mp a n es _)=>some (a,n,es)
  |_=>none
 |.pv (.mp a n es)=>some (a,n,es)
 |_=>none
def uS(P:Program)(t:TypeId)(x i:AV)(ok:Bool)(h:Hp):Option AV:=
 match zL P t,DY h x with
 |some (b,n,c),some (a,e,es)=>if a=b/\e=n then match wx b n i with
   |some d=>yg (Id P c) ok (iW es d)
   |none=>none else none
 |_,_=>none
def uT(P:Program)(t:TypeId)(x i v:AV)(h:Hp):Option (List (Nat×Blk)):=
 match zL P t,x,v with
 |some (a,n,_),.ext (.mp k),.pv (.val v)=>match h k,wx a n i with
  |some (.mp b d es false),some c=>if b=a/\d=n then some [(k,.mp a n (lU es c v) false)]else none
  |_,_=>none
 |_,_,_=>none
def AE(f:TI)(d:Option Nat)(l c:AV)(h:Hp):Option bP:=
 match f.kind,l,c,d with
 |.slice e b a (some z),.pv (.val (.int _ n)),.pv (.val (.int _ m)),some d=>
  if 0<b/\z.cells.size=b/\m=n/\0<=n/\(a:Int)*n<=281474976710656/\n<=9223372036854775807/\(h d).isNone then
   some (.arr d n.toNat,[(d,.row e b (List.replicate n.toNat (.val z)) 0)])
  else none
 |_,_,_,_=>none
def kw(b:TI)(x:AV)(lo hi:Option AV):Option AV:=
 match b.kind,x with
 |.slice _ a _ _,.pv (.sl xs)=>
  let l:=match lo with|none=>some 0|some (.pv (.val (.int _ n)))=>if 0<=n then some n.toNat else none|_=>none
  let r:=match hi with|none=>some xs.length|some (.pv (.val (.int _ n)))=>if 0<=n then some n.toNat else none|_=>none
  match l,r with
  |some l,some r=>if l<=r/\r<=xs.length/\0<a/\xs.all (rH a)=true then some (.pv (.sl ((xs.take r).drop l)))else none
  |_,_=>none
 |_,_=>none
def eN:AV->Option Value
 |.pv (.val v)=>some v
 |_=>none
def qU(x:AV):Value:=(eN x).getD undef
def aV(P:Program)(o:Oper)(ρ:Operand->AV):Option bP:=
 if(o.op.operands.toList.all λx=>(eN (ρ x)).isSome)=true then
  match al P (execOp (λx=>qU (ρ x)) o)with
  |some (.value v)=>some (.pv (.val v),[])
  |_=>none
 else none
def BY(op:BinOp)(k:IntKind)(a b:Int):Int:=match op with
 |.and=>k.wrap (BitVec.ofInt k.bits a &&& BitVec.ofInt k.bits b).toNat
 |.or=>k.wrap (BitVec.ofInt k.bits a ||| BitVec.ofInt k.bits b).toNat
 |.xor=>k.wrap (BitVec.ofInt k.bits a ^^^ BitVec.ofInt k.bits b).toNat
 |_=>k.wrap (BitVec.ofInt k.bits a &&& ~~~BitVec.ofInt k.bits b).toNat
def ud(op:BinOp)(x y:AV):Option Value:=
 match x,y with
 |.pv (.val (.int k a)),.pv (.val (.int c b))=>match op with
  |.shl=>if 0<=b then some (.int k (k.wrap (a*2^(min b.toNat k.bits))))else none
  |.shr=>if 0<=b then some (.int k (a.fdiv (2^(min b.toNat k.bits))))else none
  |.add=>if k=c then some (.int k (k.wrap (a+b)))else none
  |.sub=>if k=c then some (.int k (k.wrap (a-b)))else none
  |.mul=>if k=c then some (.int k (k.wrap (a*b)))else none
  |.quo=>if k=c/\b≠0 then some (.int k (k.wrap (a.tdiv b)))else none
  |.rem=>if k=c/\b≠0 then some (.int k (a.tmod b))else none
  |.eql=>if k=c then some (.bool (a==b))else none
  |.neq=>if k=c then some (.bool (a !=b))else none
  |.lss=>if k=c then some (.bool (decide (a<b)))else none
  |.leq=>if k=c then some (.bool (decide (a<=b)))else none
  |.gtr=>if k=c then some (.bool (decide (b<a)))else none
  |.geq=>if k=c then some (.bool (decide (b<=a)))else none
  |.and=>if k=c then some (.int k (BY .and k a b))else none
  |.or=>if k=c then some (.int k (BY .or k a b))else none
  |.xor=>if k=c then some (.int k (BY .xor k a b))else none
  |.andNot=>if k=c then some (.int k (BY .andNot k a b))else none
 |.pv (.val (.string a)),.pv (.val (.string b))=>match op with
  |.add=>if a.size+b.size<=9223372036854775807 then some (.string (a++b))else none
  |.eql=>some (.bool (a.toList==b.toList))
  |.neq=>some (.bool !(a.toList==b.toList))
  |_=>none
 |_,_=>none
def AF(op:UnOp)(x:AV):Option Value:=
 match op,x with
 |.not,.pv (.val (.bool b))=>some (.bool !b)
 |.neg,.pv (.val (.int k n))=>some (.int k (k.wrap (0-n)))
 |_,_=>none
def gH(P:Program)(t:TypeId):Option IntKind:=match P.underlying t with
 |some (.int k)=>some k
 |_=>none
def uU(P:Program)(s d:TypeId)(x:AV):Option Value:=
 match gH P s,gH P d,x with
 |some _,some k,.pv (.val (.int _ n))=>some (.int k (k.wrap n))
 |_,_,_=>none
def yh:List AV->Option Value
 |[.pv (.val (.int k a)),.pv (.val (.int _ b))]=>some (.int k (if b<a then b else a))
 |_=>none
def yi:List AV->Option Value
 |[.pv (.val (.int k a)),.pv (.val (.int _ b))]=>some (.int k (if b>a then b else a))
 |_=>none
def nK(P:Program)(o:Oper)(ρ:Operand->AV):Option Value->Option bP
 |some v=>some (.pv (.val v),[])
 |none=>aV P o ρ
def Ej:AV->Option Int
 |.pv (.val (.int _ n))=>some n
 |_=>none
def wG(P:Program)(o:Oper)(b:Builtin)(args:List AV)(a:List TypeId)(ρ:Operand->AV)(h:Hp):Option bP:=
 match b,args,a with
 |.len,[x],[t]=>match x with
  |.pv (.val _)=>aV P o ρ
  |_=>match az P t with
   |some ti=>(DX ti x h).map λv=>(v,[])
   |none=>none
 |.append,[s,x],[t,t']=>if t=t' then match az P t with
   |some ti=>uR ti o.dst s x h
   |none=>none
  else none
 |.copy,[s,x],[t,_]=>match az P t with
  |some ti=>AD ti s x h
  |none=>none
 |.min,_,_=>nK P o ρ (yh args)
 |.max,_,_=>nK P o ρ (yi args)
 |_,_,_=>none
def qd(P:Program)(t:TypeId):Option (Option Nat):=match P.underlying t with
 |some .string=>some none
 |some (.array n e)=>match P.underlying e with
  |some (.struct _)=>none
  |some (.array _ _)=>none
  |some _=>if oZ P e=1/\(P.info? e).isSome=true then some (some n)else none
  |none=>none
 |_=>none
def AG:Option (Option Nat)->AV->AV->Option Value
 |some none,.pv (.val (.string s)),.pv (.val (.int _ i))=>if 0<=i then(s[i.toNat]?).map λb=>.int .u8 b.toNat else none
 |some (some n),.pv (.val (.agg cs)),.pv (.val (.int _ i))=>if 0<=i/\i<n then cs[i.toNat]? else none
 |_,_,_=>none
def nM(P:Program)(t:TypeId):Option Bool:=match P.underlying t with
 |some (.struct _)=>some true
 |some (.array _ _)=>some true
 |some _=>some false
 |none=>none
def DZ(P:Program)(t:TypeId):Option (Nat×Nat):=match P.underlying t with
 |some (.array n e)=>match nM P e,P.info? e with
  |some true,some j=>some (n,j.size)
  |_,_=>none
 |_=>none
def zM(cs:Array Value)(off sz:Nat):Value:=.agg ((cs.toList.drop off).take sz).toArray
def AI:Option (Nat×Nat)->AV->AV->Option Value
 |some (n,sz),.pv (.val (.agg cs)),.pv (.val (.int _ i))=>if 0<=i/\i<n then some (zM cs (i.toNat*sz) sz)else none
 |_,_,_=>none
def ly(P:Program)(t:TypeId)(f:Nat):Option (Bool×Nat×Nat):=match P.underlying t with
 |some (.struct c)=>match c[f]? with
  |some a=>match nM P a.type,P.info? a.type with
   |some b,some j=>some (b,a.offset,j.size)
   |_,_=>none
  |none=>none
 |_=>none
def yj:Option (Bool×Nat×Nat)->AV->Option Value
 |some (true,off,sz),.pv (.val (.agg cs))=>some (zM cs off sz)
 |some (false,off,_),.pv (.val (.agg cs))=>cs[off]?
 |_,_=>none
def yk:Option Value->Option Value->Option Value
 |some v,_=>some v
 |none,y=>y
def D0(f:Fn):List AV->List AV->AV
 |x::r,[]=>match jo (x::r)with
  |some ps=>match eg ps with
   |some vs=>.pv (.val (.func f vs.toArray #[]))
   |none=>.pv (.fn f ps [])
  |none=>.fn f (x::r) []
 |first,a=>.fn f first a
def uV(h:Hp):AV->Option Bool
 |.pv (.val v)=>if md v then some true else none
 |.pv (.sl xs)=>if xs.isEmpty then none else some false
 |.arr k n=>match h k with
  |some (.row _ _ xs _)=>if xs.length=n/\n≠0 then some false else none
  |_=>none
 |_=>none
def rA(h:Hp):AV->Bool
 |.pv (.sl xs)=>xs.isEmpty
 |.arr k n=>match h k with
  |some (.row _ _ xs _)=>decide (xs.length=n)&&decide (n=0)
  |_=>false
 |_=>false
def mT(P:Program)(t:TypeId):Bool:=match az P t with
 |some {kind:=.slice _ _ _ _,..}=>true
 |_=>false
def AJ(op:BinOp):Option Bool->Option Bool
 |none=>none
 |some b=>match op with
  |.eql=>some b
  |.neq=>some !b
  |_=>none
def Ek(P:Program)(h:Hp)(ρ:Operand->AV)(op:BinOp)(t:TypeId)(x y:Operand):Option Bool:=
 if(nJ (ρ y)&&mT P t)=true then AJ op (uV h (ρ x))else none
def zN(P:Program)(hn:List Nat)(dst:Option Nat)(h:Hp)(t:TypeId)(len:Nat)(ps:List (Nat×Operand)):Option bP:=
 match len,ps,dst with
 |0,[],some d=>if hn.contains d=true then match az P t with
   |some {kind:=.slice e a _ (some _),..}=>if(h d).isNone/\0<a then some (.arr d 0,[(d,.row e a [] 0)])else none
   |_=>none
  else none
 |_,_,_=>none
def El(hn:List Nat)(dst:Option Nat)(h:Hp)(W:List (Nat×Blk)):Option Nat:=match dst,W with
 |some d,[]=>if(hn.contains d&&(h d).isNone)=true then some d else none
 |_,_=>none
def Nd(a:TI)(h:Hp)(x:AV)(lo hi:Option AV):Option bP:=match tH h x with
 |some (p,W)=>match kw a (.pv p) lo hi with
  |some v=>some (v,W)
  |none=>none
 |none=>none
def ue(P:Program)(t:TypeId):Bool:=match P.underlying t with
 |some (.interface _)=>false
 |some _=>true
 |none=>false
def BZ(P:Program)(t:TypeId)(p:PV)(a:TypeId)(ok:Bool):Option AV:=
 if t=a then some (if ok then .pv (.tup [p,.val (.bool true)])else .pv p)
 else if ok then match(az P a).bind (·.zero)with
  |some z=>some (.pv (.tup [.val z,.val (.bool false)]))
  |none=>none
 else none
def AK(P:Program)(t:TypeId)(name:String):Option FuncId:=match P.info? t with
 |some i=>match i.methods.find? (·.name==name)with
  |some m=>if m.path.isEmpty then(match m.func,P.underlying t with
    |some (_,true),_=>none
    |some (_,false),some (.pointer _)=>none
    |some (f,false),some _=>some f
    |_,_=>none)else none
  |none=>none
 |none=>none
def qD(P:Program)(name:String):AV->AV
 |.pv (.ifc t p)=>match AK P t name with
  |some f=>.fn (.func f) [.pv p] []
  |none=>.undef
 |_=>.undef
def dw(P:Program)(hn:List Nat)(o:Oper)(ρ:Operand->AV)(h:Hp):Option bP:=
 match o.op with
 |.move x=>some (ρ x,[])
 |.assign x=>match o.dst with
  |some d=>if(hn.contains d&&nJ (ρ x))=true then
    match az P o.type with
    |some {kind:=.slice e g _ _,..}=>if(h d).isNone/\0<g then some (.arr d 0,[(d,.row e g [] 0)])else none
    |_=>none
   else some (ρ x,[])
  |none=>some (ρ x,[])
 |.pick c a b=>match ρ c with
  |.pv (.val (.bool t))=>some (if t then ρ a else ρ b,[])
  |_=>none
 |.alloc e=>match az P e,o.dst with
  |some {zero:=some z,..},some d=>if(h d).isNone then some (.ptr d 0,[(d,.box (z.cells.toList.map λv=>.pv (.val v)) true false)])else none
  |_,_=>none
 |.box _ x=>match gV h (ρ x),o.dst with
  |some cs,some d=>if(h d).isNone then some (.ptr d 0,[(d,.box cs true false)])else none
  |_,_=>none
 |.build t ps=>match az P t,ry h ρ ps.toList with
  |some ti,some r=>(yd ti r).map λv=>(v,[])
  |_,_=>none
 |.buildSlice t len ps=>match zN P hn o.dst h t len ps.toList with
  |some m=>some m
  |none=>match az P t with
   |some {kind:=.slice e g _ (some _),..}=>match rz h ρ g (JG hn o.dst) 0 ps.toList with
    |some (xs,W)=>if xs.length=len/\0<g/\len*g<=16777216 then(match El hn o.dst h W with
     |some d=>some (.arr d len,[(d,.row e g xs 0)])
     |none=>some (.pv (.sl xs),W))else none
    |none=>none
   |_=>none
 |.load t a=>match az P t with
  |some ti=>(wC ti (ρ a) h).map λv=>(v,[])
  |none=>none
 |.store t a v=>match az P t with
  |some ti=>(yc ti (ρ a) (ρ v) h).map λW=>(.undef,W)
  |none=>none
 |.nilCheck x=>match ρ x with
  |.ptr k off=>some (.ptr k off,[])
  |.pv (.rptr y off)=>some (.pv (.rptr y off),[])
  |_=>none
 |.fieldAddr s x f=>match az P s with
  |some ti=>(pR ti (ρ x) f h).map λv=>(v,[])
  |none=>none
 |.indexAddr t x i=>match az P t,Ej (ρ i)with
  |some ti,some n=>(BW (pS ti (ρ x) n h) (uP ti (ρ x) n h)).map λv=>(v,[])
  |_,_=>none
 |.makeFunc f first j=>some (D0 f (first.toList.map ρ) (j.toList.map ρ),[])
 |.makeInterface t x=>if ue P t then(match frz h (ρ x)with
   |some (p,W)=>some (.pv (.ifc t p),W)
   |none=>none)else none
 |.typeAssert x _ a ok=>match ρ x with
  |.pv (.ifc t p)=>if ue P a then(BZ P t p a ok).map λv=>(v,[])else none
  |_=>none
 |.makeSlice t l c=>match az P t with
  |some ti=>BX (ye ti hn o.dst (ρ l) (ρ c) h) (AE ti o.dst (ρ l) (ρ c) h)
  |none=>none
 |.makeMap t none=>sU P t o.dst h
 |.lookup t x i ok=>(uS P t (ρ x) (ρ i) ok h).map λv=>(v,[])
 |.mapUpdate t x i v=>(uT P t (ρ x) (ρ i) (ρ v) h).map λW=>(.undef,W)
 |.slice t x lo hi q=>match ρ x,q with
  |.pv (.val _),_=>aV P o ρ
  |.arr k n,none=>match az P t with
   |some ti=>Nd ti h (.arr k n) (lo.map ρ) (hi.map ρ)
   |none=>none
  |_,none=>match az P t with
   |some ti=>(kw ti (ρ x) (lo.map ρ) (hi.map ρ)).map λv=>(v,[])
   |none=>none
  |_,_=>none
 |.extract t i=>match ρ t with
  |.tup vs=>(vs[i]?).map λv=>(v,[])
  |.pv (.tup vs)=>(vs[i]?).map λv=>(.pv v,[])
  |.pv (.val _)=>aV P o ρ
  |_=>none
 |.call c=>match c.callee with
  |.builtin b=>wG P o b (c.args.toList.map ρ) c.argTypes.toList ρ h
  |_=>none
 |.binOp op t x y _=>match Ek P h ρ op t x y with
  |some b=>some (.pv (.val (.bool b)),[])
  |none=>nK P o ρ (ud op (ρ x) (ρ y))
 |.unOp op _ x=>nK P o ρ (AF op (ρ x))
 |.convert s d x=>nK P o ρ (uU P s d (ρ x))
 |.field t x f=>nK P o ρ (yj (ly P t f) (ρ x))
 |.index t x i=>nK P o ρ (yk (AG (qd P t) (ρ x) (ρ i)) (AI (DZ P t) (ρ x) (ρ i)))
 |_=>none
structure St where
 t:Nat->AV
 h:Hp
def St.ev(st:St):Operand->AV
 |.tmp n=>st.t n
 |.const v=>.pv (.val v)
 |.global _=>.undef
 |.func f=>.pv (.val (.func (.func f) #[] #[]))
def ag(h:Hp)(W:List (Nat×Blk)):Hp:=W.foldl (λh a=>av h a.1 (some a.2)) h
def St.put(st:St)(d:Option Nat)(v:AV)(W:List (Nat×Blk)):St:=
 ⟨match d with|some d=>av st.t d v|none=>st.t,ag st.h W⟩
inductive Arg where
 |pv(p:PV)
 |bx(i:Nat)
inductive RV where
 |pv(p:PV)
 |box(ps:List PV)
 |row(e sz:Nat)(xs:List PV)
 |srow(pre:List PV)(e sz:Nat)(xs:List PV)
 |nrow(e sz:Nat)(xs:List PV)
 |new(p:PV)
def bR(P:Program)(f:FuncId):Bool:=match P.funcs[f]? with
 |some fn=>fn.body.isSome&& !(fn.name== "runtime.NumGoroutine")
 |none=>false
def ko(w:World)(M:Nat->Nat->Prop)(b:Nat)(ps:List PV):Prop:=∃arr ty,w.heap[b]?=some (.cells arr ty (0,0))/\bn w M ps arr.toList
def JH(w:World)(M:Nat->Nat->Prop)(bs:List Nat):Arg->Value->Prop
 |.pv p,v=>Rep w M p v
 |.bx j,v=>∃b,bs[j]?=some b/\v=.pointer (some ⟨b,0,none⟩)
def AL(w w':World)(M:Nat->Nat->Prop):RV->Value->Prop
 |.pv p,v=>Rep w' M p v
 |.new p,v=>Rep w' (λb _=>b<w.heap.size) p v
 |.box ps,v=>∃b,w.heap.size<=b/\v=.pointer (some ⟨b,0,none⟩)/\ko w' (λa o=>M a o\/a=b) b ps
 |.row e sz xs,v=>∃l:Loc,v=l.slice xs.length/\(l.isNil=false->w.heap.size<=l.b)/\
   dh w' (λa o=>M a o\/(l.isNil=false/\a=l.b)) (λ_=>default) (λ_=>none) l (.row e sz xs 0)
 |.nrow e sz xs,v=>xs.all kP=true/\∃l:Loc,v=l.slice xs.length/\(l.isNil=false->w.heap.size<=l.b)/\
   dh w' (λa o=>M a o\/(l.isNil=false/\a=l.b)) (λ_=>default) (λ_=>none) l (.row e sz xs 0)
 |.srow pre e sz xs,v=>∃(l:Loc)(us:List Value),v=.agg (us++[l.slice xs.length]).toArray/\(l.isNil=false->w.heap.size<=l.b)/\bn w' (λa o=>M a o\/(l.isNil=false/\a=l.b)) pre us/\
   dh w' (λa o=>M a o\/(l.isNil=false/\a=l.b)) (λ_=>default) (λ_=>none) l (.row e sz xs 0)
def aS(P:Program)(f:FuncId)(args:List Arg)(hin hout:List (List PV))(res:RV):Prop:=
 bR P f=true/\hout.length=hin.length/\∀(w:World)(M:Nat->Nat->Prop)(c:List Nat)(vs:List Value),
  (∀b o,M b o->b<w.heap.size)->c.length=hin.length->c.Nodup->
  (∀(i:Nat) b ps,c[i]?=some b->hin[i]?=some ps->(∀o,M b o)/\ko w M b ps)->
  args.length=vs.length->(∀(i:Nat) a v,args[i]?=some a->vs[i]?=some v->JH w M c a v)->
  Calls P f vs.toArray w λe w'=>∃v,e=.returned v/\Ext (·∈c) w w'/\
   (∀(i:Nat) b ps,c[i]?=some b->hout[i]?=some ps->ko w' M b ps)/\AL w w' M res v
def bA:AV->Option (FuncId×List AV×List AV)
 |.pv (.val (.func (.func f) first a))=>some (f,first.toList.map (λv=>.pv (.val v)),a.toList.map (λv=>.pv (.val v)))
 |.pv (.fn (.func f) first a)=>some (f,first.map .pv,a.map .pv)
 |.fn (.func f) first a=>some (f,first,a)
 |_=>none
def Ie(h:Hp)(k:Nat):Bool:=match h k with
 |some (.box cs true _)=>(jo cs).isSome
 |_=>true
def i8(h:Hp):List AV->List Nat->Option (List Arg×List Nat×List (Nat×Blk))
 |[],b=>some ([],b,[])
 |x::r,b=>match x with
  |.ptr k off=>if off=0/\b.contains k=false/\Ie h k=true then match i8 h r (b++[k])with
    |some (as,a,W)=>some (.bx b.length::as,a,W)
    |none=>none
   else if Ie h k=false then match rI h (.ptr k off),i8 h r b with
    |some (p,W),some (as,a,c)=>some (.pv p::as,a,W++c)
    |_,_=>none
   else none
  |x=>match frz h x,i8 h r b with
   |some (p,W),some (as,a,c)=>some (.pv p::as,a,W++c)
   |_,_=>none
def lV(h:Hp):List Nat->Option (List (List PV))
 |[]=>some []
 |k::r=>match h k,lV h r with
  |some (.box cs _ false),some a=>match jo cs with
   |some ps=>some (ps::a)
   |none=>none
  |_,_=>none
def jC(h:Hp):List Nat->List (List PV)->List (Nat×Blk)
 |k::b,ps::a=>(match h k with
   |some (.box _ own _)=>[(k,.box (ps.map .pv) own false)]
   |_=>[])++jC h b a
 |_,_=>[]
def Em:PV->Bool
 |.val _=>true
 |.hd _=>true
 |_=>false
def uf:PV->Bool
 |.val _=>true
 |.hd _=>true
 |.tup cs=>cs.all Em
 |.agg cs=>cs.all Em
 |_=>false
def If(ks:List Nat)(p:PV)(W:List (Nat×Blk)):List (Nat×Blk):=if(ks.isEmpty&&uf p)=true then[]else W
def lz(h:Hp)(d:Option Nat)(ks:List Nat)(a:List (Nat×Blk))(hout:List (List PV))(res:RV):Option bP:=
 match res,d with
 |.pv p,_=>some (.pv p,If ks p a++jC h ks hout)
 |.new p,_=>if ks=[]then some (.pv p,[])else none
 |.box ps,some d=>if(h d).isNone/\ks=[]then some (.ptr d 0,a++[(d,.box (ps.map .pv) true false)])else none
 |.row e sz xs,some d=>if(h d).isNone/\ks=[]then some (.arr d xs.length,a++[(d,.row e sz xs 0)])else none
 |.nrow e sz xs,some d=>if(h d).isNone/\ks=[]then some (.arr d xs.length,[(d,.row e sz xs 0)])else none
 |.srow pre e sz xs,some d=>if(h d).isNone/\ks=[]then some (.agg (pre.map .pv++[.arr d xs.length]),a++[(d,.row e sz xs 0)])else none
 |_,_=>none
def iE(x:Option bP)(K:bP->Prop):Prop:=match x with
 |some e=>K e
 |none=>False
def zO(P:Program)(g:FuncId)(as:List Arg)(hin:List (List PV))(F:List (List PV)->RV->Prop):Prop:=∃a b,aS P g as hin a b/\F a b
def gk(P:Program)(c:AV)(args:List AV)(d:Option Nat)(h:Hp)(K:bP->Prop):Prop:=
 match bA c with
 |none=>False
 |some (g,first,a)=>match i8 h (first++args++a) []with
  |none=>False
  |some (as,f,j)=>if(j.any λk=>f.contains k.1)=true then False else match lV h f with
   |none=>False
   |some e=>zO P g as e λb i=>iE (lz h d f j b i) K
def ug(P:Program)(hn:List Nat)(o:Oper)(ρ:Operand->AV)(h:Hp)(K:bP->Prop):Prop:=
 match o.op with
 |.call c=>match c.callee with
  |.value f=>gk P (ρ f) (c.args.toList.map ρ) o.dst h K
  |.invoke r name=>gk P (qD P name (ρ r)) (c.args.toList.map ρ) o.dst h K
  |_=>iE (dw P hn o ρ h) K
 |_=>iE (dw P hn o ρ h) K
def gW(P:Program)(g:FuncId):Prop:=bR P g=true/\∀(args:Array Value)(w:World),CallsD P g args .returning w λe a w'=>a=.returning/\(∃v,e=.returned v)/\w'=w
def GX(P:Program)(K:bP->Prop):AV->Prop
 |.fn (.func g) _ _=>gW P g/\K (.undef,[])
 |_=>False
def Ig(x y:Prop):Prop:=x/\y
theorem j6{x y:Prop}(a:x)(b:y):Ig x y:=⟨a,b⟩
def wH(P:Program)(hn:List Nat)(o:Oper)(ρ:Operand->AV)(h:Hp)(K:bP->Prop):Prop:=
 match o.op with
 |.defer c=>match c.callee with
  |.value f=>if c.args.size=0 then GX P K (ρ f)else False
  |_=>False
 |.binOp op t x y _=>if(nJ (ρ y)&&mT P t&&rA h (ρ x)&&(op==.eql||op==.neq))=true then Ig (K (.pv (.val (.bool true)),[])) (K (.pv (.val (.bool false)),[]))else ug P hn o ρ h K
 |_=>ug P hn o ρ h K
def dR(ops:Array Oper)(t:Nat->AV)(g:Option (Nat×Bool)):Option Bool:=
 match g with
 |none=>some true
 |some (j,want)=>match(ops[j]?).bind (·.dst)with
  |some d=>match t d with
   |.pv (.val (.bool b))=>some (b==want)
   |.pv (.val (.tuple _))=>some false
   |_=>none
  |none=>none
def dJ(N:Nat):Option Nat->Bool
 |some d=>decide (d<N)&&decide (d<2000000)
 |none=>true
def kQ(ops:Array Oper)(t:Nat->AV)(g:Option (Nat×Bool)):Option (Option (Nat×Bool×Bool)):=
 match g with
 |none=>some none
 |some (j,want)=>match(ops[j]?).bind (·.dst)with
  |some d=>match t d with
   |.pv (.val (.bool b))=>some (some (d,b,want))
   |.pv (.val (.tuple _))=>some (some (d,!want,want))
   |_=>none
  |none=>none
def ze(b:Bool)(_:Nat)(st:St)(F:Bool->St->Prop):Prop:=F b st
def cw(P:Program)(hn:List Nat)(N:Nat)(ops:Array Oper)(Q:St->Prop):List Oper->St->Prop
 |[],st=>Q st
 |o::rest,st=>dJ N o.dst=true/\(match kQ ops st.t o.guard with
   |some none=>wH P hn o st.ev st.h (λe=>cw P hn N ops Q rest (st.put o.dst e.1 e.2))
   |some (some (d,b,want))=>ze b d st (λc a=>if c=want then wH P hn o a.ev a.h (λe=>cw P hn N ops Q rest (a.put o.dst e.1 e.2))else cw P hn N ops Q rest (a.put o.dst (.pv (.val (.tuple #[]))) []))
   |none=>False)
theorem pT{t:Nat->AV}(e:kQ ops t g=some none):dR ops t g=some true:=by
 unfold kQ at e;unfold dR;split at e
 .rfl
 .split at e
  .split at e
   .injection e with e;cases e
   .injection e with e;cases e
   .cases e
  .cases e
theorem me{t:Nat->AV}{b want:Bool}(e:kQ ops t g=some (some (d,b,want))):dR ops t g=some (b==want):=by
 unfold kQ at e;unfold dR;split at e
 .injection e with e;cases e
 .rename_i j w
  split at e
  .rename_i c hd
   split at e
   .rename_i a hb
    injection e with e;injection e with e;injection e with e1 e;injection e with e2 e3;subst e1;subst e2;subst e3;simp only[hd,hb]
   .rename_i q hb
    injection e with e;injection e with e;injection e with e1 e;injection e with e2 e3;subst e1;subst e2;subst e3;cases w<;>rfl
   .cases e
  .cases e
theorem gc{arr:Array Value}{a:Nat×Nat}(h:w.heap[b]?=some (.cells arr ty a)):w.cell? ⟨b,o,none⟩=arr[o]?:=by
 simp[World.cell?,h]
theorem fo(b o n:Nat):(⟨b,o,none⟩:Addr).add n=⟨b,o+n,none⟩:=by unfold Addr.add;split<;>simp_all
def aF(C:Cx)(L:Nat->Loc)(h:Hp)(w:World)(L':Nat->Loc)(h':Hp)(w':World):Prop:=
 MemL C L' h' w'/\Pres w (ab C L h) w' (ab C L' h')/\KC L h L' h'
theorem aF.trans{L:Nat->Loc}{c:Hp}{d:World}(a:aF C L h w L' h' w')(b:aF C L' h' w' L'' c d):aF C L h w L'' c d:=
 ⟨b.1,a.2.1.trans b.2.1,a.2.2.trans b.2.2⟩
theorem aF.refl{L:Nat->Loc}(a:MemL C L h w):aF C L h w L h w:=⟨a,Pres.refl _ _,KC.refl _ _⟩
theorem kR(h:md v=true):v=.slice none 0 0:=by
 grind [md]
theorem JJ(h:Rep w M p u):Rep w M (yb p) u:=by
 unfold yb;split
 .split
  .rename_i v a;cases h;rw[kR a];exact .sl0 none 0
  .exact h
 .exact h
theorem AM(h:bn w M ps us):bn w M (ps.map yb) us:=by
 refine⟨by simpa using h.1,λi p u hp a=>?_⟩;simp only[YS,II]at hp;obtain⟨q,hq,rfl⟩:=hp;exact JJ (h.2 i q u hq a)
theorem Eo(h:Rep w M p u):Rep w M (norm p) u:=by
 unfold norm;split
 .rename_i v
  split
  .rename_i a;cases h;rw[kR a];exact .sl0 none 0
  .split
   .rename_i a
    unfold Ei at a;split at a
    .rename_i cs
     have hc:=h.cells;cases h;have:=kO (AM hc);simpa[Value.cells]using this
    .cases a
   .exact h
 .rename_i cs
  cases h with
  |agg _ vs c b=>exact kO (AM ⟨c,b⟩)
 .exact h
def bH(h1 h:Hp):Prop:=∀k b,h1 k=some b->∃l,h k=some l/\(match b,l with
 |.box cs own fz,.box d c a=>d=cs/\c=own/\(fz=true->a=true)
 |.row e sz xs fz,.row m i j a=>m=e/\i=sz/\j=xs/\fz<=a
 |.mp o n es fz,.mp g p f a=>g=o/\p=n/\f=es/\(fz=true->a=true)
 |_,_=>False)
theorem bH.row(hf:bH h1 h)(b:h1 k=some (.row e sz xs fz)):∃a,h k=some (.row e sz xs a)/\fz<=a:=by
 obtain⟨c,h2,h3⟩:=hf k _ b
 grind
theorem bH.box(hf:bH h1 h){own fz:Bool}(b:h1 k=some (.box cs own fz)):∃a,h k=some (.box cs own a)/\(fz=true->a=true):=by
 obtain⟨c,h2,h3⟩:=hf k _ b
 grind
theorem bH.mp{h1 h:Hp}(hf:bH h1 h){k n:Nat}{kd:IntKind}{es:List (List Int×Value)}{fz:Bool}(b:h1 k=some (.mp kd n es fz)):∃a,h k=some (.mp kd n es a)/\(fz=true->a=true):=by
 obtain⟨c,h2,h3⟩:=hf k _ b
 grind
theorem bH.refl(h:Hp):bH h h:=λk b a=>⟨b,a,by cases b<;>simp⟩
theorem bH.of_sub(hs:∀k b,h1 k=some b->h k=some b):bH h1 h:=λk b a=>⟨b,hs k b a,by cases b<;>simp⟩
theorem bH.set_row(hf:bH h1 h)(d:h1 k=some (.row e sz xs fz))(a:fz<=xs.length):bH h1 (av h k (some (.row e sz xs xs.length))):=by
 intro q b hq;by_cases e:q=k
 .grind [aE]
 .obtain⟨c,h2,h3⟩:=hf q b hq
  grind [bc]
theorem bH.set_box(hf:bH h1 h){own fz:Bool}(c:h1 k=some (.box cs own fz)):bH h1 (av h k (some (.box cs own true))):=by
 intro q b hq;by_cases e:q=k
 .grind [aE]
 .obtain⟨a,h2,h3⟩:=hf q b hq
  grind [bc]
theorem bH.set_mp(hf:bH h1 h){kd:IntKind}{fz:Bool}(c:h1 k=some (.mp kd n es fz)):bH h1 (av h k (some (.mp kd n es true))):=by
 intro q b hq;by_cases e:q=k
 .grind [aE]
 .obtain⟨a,h2,h3⟩:=hf q b hq
  grind [bc]
theorem o6{L:Nat->Loc}(c:MemL C L h w)(a:h k=some (.row e sz xs fz)):(L k).isNil=true/\xs=[]\/(L k).isNil=false/\xs.length<=(L k).cap/\(L k).cap<=maxLen/\∃arr,w.heap[(L k).b]?=some (.cells arr e (0,0))/\arr.size=(L k).cap*sz/\
 ∀(i:Nat) x(j:Nat) p,xs[i]?=some x->x.cells[j]?=some p->∃u,arr[i*sz+j]?=some u/\Rep w (ab C L h) p u:=by
 obtain⟨_,_,_,h4,h5⟩:=c.bl k _ a
 grind
theorem uW{L:Nat->Loc}(m:MemL C L h w)(g:h k=some (.row e sz xs fz)):
 aF C L h w L (av h k (some (.row e sz xs xs.length))) w/\Rep w (ab C L (av h k (some (.row e sz xs xs.length)))) (.sl xs) ((L k).slice xs.length):=by
 have hb:=m.bl k _ g;obtain⟨h1,h2,h3,h4,h5⟩:=hb
 have r:∀b o,ab C L (av h k (some (.row e sz xs xs.length))) b o->ab C L h b o:=by
  rintro b o (D|⟨q,B,hq,v,c,hf⟩)
  .exact .inl D
  .by_cases eq:q=k
   .subst eq
    rw[aE]at hq;injection hq with hq;subst hq;refine .inr ⟨q,_,g,v,c,λn=>hf ?_⟩;simp only[Blk.frz]at n|-;exact ZJ n (Ze _ h2)
   .rw[bc eq]at hq;exact .inr ⟨q,B,hq,v,c,hf⟩
 have a:Pres w (ab C L h) w (ab C L (av h k (some (.row e sz xs xs.length)))):=Pres.sub r
 have I:KC L h L (av h k (some (.row e sz xs xs.length))):=by
  intro q b hq;by_cases G:q=k
  .subst G;rw[g]at hq;injection hq with hq;subst hq;exact⟨_,aE _ _ _,rfl,rfl,Y0 _,λ_=>rfl⟩
  .exact⟨b,by rw[bc G];exact hq,bt _ _⟩
 refine⟨m.touch g (λ_ _ _=>rfl) (Y0 _) rfl rfl rfl (λ_ _ _ _ h=>h) (λo hf=>?_) ⟨rfl,rfl,Y0 _,λ_=>rfl⟩ Z8 (by have h9:=m.own k _ g;exact h9) ?_,?_⟩
 .simp only[Blk.frz]at hf|-;exact ZJ hf (Ze _ h2)
 .refine⟨h1,Y0 _,h3,h4,λhn=>?_⟩
  obtain⟨a1,E,arr,z,F,A⟩:=h5 hn;refine⟨a1,E,arr,z,F,λi x j p d l=>?_⟩;obtain⟨u,s,y⟩:=A i x j p d l;exact⟨u,s,y.mono a⟩
 .unfold Loc.slice
  cases hn:(L k).isNil with
  |true=>rw[h4 hn];exact .sl0 none 0
  |false=>
   obtain⟨a1,E,arr,z,F,A⟩:=h5 hn;simp only[YU,Y5]
   have f:∀(i:Nat) x(j:Nat) p,xs[i]?=some x->x.cells[j]?=some p->∃u,arr[i*sz+j]?=some u/\Rep w (ab C L (av h k (some (.row e sz xs xs.length)))) p u:=by
    intro i x j p d l;obtain⟨u,s,y⟩:=A i x j p d l;exact⟨u,s,y.mono a⟩
   refine .sl xs (L k).b 0 (L k).cap sz (λi j=>(arr[i*sz+j]?).getD undef) a1 (λi x d=>h3 x (An d)) ?_ ?_
   .intro i x j p d l
    obtain⟨u,s,y⟩:=f i x j p d l;refine⟨by rw[gc z];simp[s],?_⟩;rintro(D|⟨q,B,hq,v,c,hf⟩)
    .have:=m.m0 _ _ D
     rcases(m.own k _ g).row hn with h9|h9
     all_goals grind
    .by_cases eq:q=k
     .subst eq
      rw[aE]at hq;injection hq with hq;subst hq;apply hf;simp only[Blk.frz];have hi:i<xs.length:=(th.1 d).1
      have H:j<sz:=by rw[<-h3 x (An d)];exact(th.1 l).1
      have:(i+1)*sz<=xs.length*sz:=Ze _ hi
      grind
     .rw[bc eq]at hq
      exact m.sep q k B _ eq hq g v hn c
   grind
theorem rJ{L:Nat->Loc}(f:MemL C L h w){fz:Bool}(e:h k=some (.box cs true fz))
 (A:∀arr ty,w.heap[(L k).b]?=some (.cells arr ty (0,0))->aC w (ab C L h) L h cs arr.toList->bn w (ab C L h) ps arr.toList):
 aF C L h w L (av h k (some (.box cs true true))) w/\∃u:Nat->Value,∀(j:Nat) p,ps[j]?=some p->
  (w.cell? ⟨(L k).b,0+j,none⟩=some (u j)/\¬ab C L (av h k (some (.box cs true true))) (L k).b (0+j))/\Rep w (ab C L (av h k (some (.box cs true true)))) p (u j):=by
 obtain⟨arr,ty,r,s⟩:=f.bl k _ e
 have g:∀b o,ab C L (av h k (some (.box cs true true))) b o->ab C L h b o:=by
  rintro b o (v|⟨q,n,hq,F,d,hf⟩)
  .exact .inl v
  .by_cases eq:q=k
   .subst eq
    rw[aE]at hq;injection hq with hq;subst hq;exact absurd rfl hf
   .rw[bc eq]at hq;exact .inr ⟨q,n,hq,F,d,hf⟩
 have c:Pres w (ab C L h) w (ab C L (av h k (some (.box cs true true)))):=Pres.sub g
 have x:KC L h L (av h k (some (.box cs true true))):=by
  intro q b hq;by_cases B:q=k
  .subst B;rw[e]at hq;injection hq with hq;subst hq;exact⟨_,aE _ _ _,rfl⟩
  .exact⟨b,by rw[bc B];exact hq,bt _ _⟩
 have G:aC w (ab C L (av h k (some (.box cs true true)))) L (av h k (some (.box cs true true))) cs arr.toList:=⟨s.1,λi p u hp m=>(s.2 i p u hp m).mono c x⟩;refine⟨f.touch e (λ_ _ _=>rfl) (Y0 _) rfl rfl rfl (λ_ _ _ _ h=>h) (λ_ _=>rfl) rfl Z8 (by have h9:=f.own k _ e;exact h9) ⟨arr,ty,r,G⟩,λj=>(arr[j]?).getD undef,λj p E=>?_⟩;have D:=A arr ty r s
 have z:j<arr.toList.length:=by rw[<-D.1];exact(th.1 E).1
 have m:arr.toList[j]?=some (arr.toList[j]):=an z
 have l:arr[j]?=some (arr.toList[j]):=by rw[<-Array.getElem?_toList];exact m
 refine⟨⟨by rw[gc r,ZS];simp only[l,Y8],?_⟩,?_⟩
 .rintro(v|⟨q,n,a,y,d,hf⟩)
  .have:=f.m0 _ _ v
   rcases f.own k _ e with h9|h9
   all_goals grind
  .by_cases eq:q=k
   .subst eq
    rw[aE]at a;injection a with a;subst a;exact hf rfl
   .rw[bc eq]at a
    exact f.sep q k n _ eq a e y trivial d
 .simp only[l,Y8]
  exact(D.2 j p _ E m).mono c
theorem Ih{L:Nat->Loc}(g:MemL C L h w){fz:Bool}{x:PV}(f:h k=some (.box cs true fz))(i:x.cells.map .pv=cs):
 aF C L h w L (av h k (some (.box cs true true))) w/\Rep w (ab C L (av h k (some (.box cs true true)))) (.rptr x 0) (.pointer (some ⟨(L k).b,0,none⟩)):=by
 obtain⟨a,u,e⟩:=rJ g (ps:=x.cells) f (λarr ty _ d=>by rw[<-i]at d;exact aC.map_pv_inv d);exact⟨a,.rptr x (L k).b 0 0 u (λj p c=>(e j p c).1) (λj p c=>(e j p c).2)⟩
theorem Gv{L:Nat->Loc}(l:MemL C L h w){c:Nat}(m:n<=c){fz:Bool}(g:h k=some (.box cs true fz))(hn:n<=ps.length)(f:∀p∈ps,p.cells=[p])
 (hq:∀arr ty,w.heap[(L k).b]?=some (.cells arr ty (0,0))->aC w (ab C L h) L h cs arr.toList->bn w (ab C L h) ps arr.toList):
 aF C L h w L (av h k (some (.box cs true true))) w/\Rep w (ab C L (av h k (some (.box cs true true)))) (.sl (ps.take n)) (.slice (some ⟨(L k).b,0,none⟩) n c):=by
 obtain⟨a,u,r⟩:=rJ l g hq;refine⟨a,?_⟩
 have q:(ps.take n).length=n:=by rw[ZA];omega
 have o:∀{i:Nat}{x},(ps.take n)[i]?=some x->ps[i]?=some x:=by
  intro i x d;rw[Zj]at d;split at d
  .exact d
  .cases d
 have one:∀(i:Nat) x(j:Nat) p,ps[i]?=some x->x.cells[j]?=some p->j=0/\p=x:=by
  intro i x j p d e;rw[f x (An d)]at e
  cases j with
  |zero=>simp at e;exact⟨rfl,e.symm⟩
  |succ j=>simp at e
 have key:Rep w (ab C L (av h k (some (.box cs true true)))) (.sl (ps.take n)) (.slice (some ⟨(L k).b,0,none⟩) (ps.take n).length c):=by
  refine .sl (ps.take n) (L k).b 0 c 1 (λi _=>u i) (by omega) (λi x d=>by rw[f x (An (o d))];rfl) ?_ ?_
  all_goals grind
 grind
theorem Ii{L:Nat->Loc}(d:MemL C L h w){kd:IntKind}{fz:Bool}(j:h k=some (.mp kd n es fz)):
 aF C L h w L (av h k (some (.mp kd n es true))) w/\Rep w (ab C L (av h k (some (.mp kd n es true)))) (.mp kd n es) (.map (some (L k).b)):=by
 obtain⟨arr,clock,u,v⟩:=d.bl k _ j
 have m:∀b o,ab C L (av h k (some (.mp kd n es true))) b o->ab C L h b o:=by
  rintro b o (r|⟨q,i,hq,p,f,hf⟩)
  .exact .inl r
  .by_cases eq:q=k
   .subst eq
    rw[aE]at hq;injection hq with hq;subst hq;exact absurd rfl hf
   .rw[bc eq]at hq;exact .inr ⟨q,i,hq,p,f,hf⟩
 have c:Pres w (ab C L h) w (ab C L (av h k (some (.mp kd n es true)))):=Pres.sub m
 have l:KC L h L (av h k (some (.mp kd n es true))):=by
  intro q b hq;by_cases e:q=k
  .subst e;rw[j]at hq;injection hq with hq;subst hq;exact⟨_,aE _ _ _,rfl,rfl,rfl⟩
  grind [bc,bt]
 refine⟨⟨⟨d.ext,d.m0,?_,?_,?_⟩,c,l⟩,.mp kd n es _ arr clock u ?_ v⟩
 .intro q b hq
  by_cases e:q=k
  .subst e;rw[aE]at hq;injection hq with hq;subst hq;exact⟨arr,clock,u,v⟩
  .rw[bc e]at hq;exact(d.bl q b hq).mono c l (λ_=>rfl)
 .intro q x b1 y s hq a p g
  have lift:∀q b,av h k (some (.mp kd n es true)) q=some b->b.live (L q)->∃i,h q=some i/\i.live (L q):=by
   intro q b hq p;by_cases e:q=k
   .subst e;exact⟨_,j,trivial⟩
   grind [bc]
  obtain⟨c1,d1,d2⟩:=lift q b1 hq p;obtain⟨z,d3,d4⟩:=lift x y a g;exact d.sep q x c1 z s d1 d3 d2 d4
 .intro q b hq
  by_cases e:q=k
  .subst e;rw[aE]at hq;injection hq with hq;subst hq;have:=d.own q _ j;exact this
  .rw[bc e]at hq;exact d.own q b hq
 .rintro(r|⟨q,i,a,g,f,hf⟩)
  .have:=d.m0 _ _ r
   have h9:=d.own k _ j
   grind [dy]
  .by_cases eq:q=k
   .subst eq
    rw[aE]at a;injection a with a;subst a;exact hf rfl
   .rw[bc eq]at a
    exact d.sep q k i _ eq a j g trivial f
theorem bG(h:Hp)(W a:List (Nat×Blk)):ag h (W++a)=ag (ag h W) a:=by simp[ag,yAR]
theorem j7(h:Hp)(k:Nat)(b:Blk):ag h [(k,b)]=av h k (some b):=rfl
theorem iG(h:jp p=true):p.cells=[p]:=by
 cases p with
 |val v=>cases v<;>simp_all[jp,PV.cells,Value.cells,Value.oneCell']
 |agg _=>simp[jp]at h
 |tup _=>simp[jp]at h
 |_=>rfl
theorem CW:∀{cs:List PV}{vs:List Value},eg cs=some vs->cs=vs.map .val
 |[],vs,h=>by simp[eg]at h;subst h;rfl
 |.val v::r,vs,h=>by
  simp only[eg,II]at h;obtain⟨a,h',rfl⟩:=h;rw[CW h'];rfl
 |.agg _::_,_,h=>by simp[eg]at h
 |.sl _::_,_,h=>by simp[eg]at h
 |.rptr _ _::_,_,h=>by simp[eg]at h
 |.fn _ _ _::_,_,h=>by simp[eg]at h
 |.tup _::_,_,h=>by simp[eg]at h
 |.ifc _ _::_,_,h=>by simp[eg]at h
 |.hd _::_,_,h=>by simp[eg]at h
 |.mp _ _ _::_,_,h=>by simp[eg]at h
theorem kx(ps:List PV):(j5 ps).cells=ps:=by
 unfold j5;split
 .rename_i vs a;simp[PV.cells,Value.cells,CW a]
 .rfl
section
variable {C:Cx} {L:Nat->Loc} {h1 h:Hp} {w:World}
theorem AN(d:MemL C L h w)(hf:bH h1 h)(g:RepA w (ab C L h) L h x u)(e:iX h1 x=some (p,W)):
 aF C L h w L (ag h W) w/\Rep w (ab C L (ag h W)) p u/\bH h1 (ag h W):=by
 cases x with
 |pv q=>
  simp only[iX,YV,Y6]at e;obtain⟨rfl,rfl⟩:=e
  cases g with
  |pv m=>exact⟨aF.refl d,Eo m,hf⟩
 |arr k n=>
  simp only[iX]at e;split at e
  .rename_i r sz xs fz c
   split at e
   .rename_i hn
    simp only[YV,Y6]at e;obtain⟨rfl,rfl⟩:=e;obtain⟨f,a,j⟩:=hf.row c
    cases g with
    |arr b l o=>
     rw[a]at b;injection b with b;injection b with a1 a2 a3 a4;subst a1;subst a2;subst a3;subst a4;have:=uW d a;rw[o hn,<-hn];have hb:=(d.bl k _ a).2.1;exact⟨this.1,this.2,hf.set_row c (by omega)⟩
   .cases e
  .cases e
 |ptr=>simp[iX]at e
 |eptr=>simp[iX]at e
 |agg=>simp[iX]at e
 |fn=>simp[iX]at e
 |tup=>simp[iX]at e
 |undef=>simp[iX]at e
 |ext y=>
  cases y with
  |barr=>simp[iX]at e
  |suf=>simp[iX]at e
  |mp k=>
   simp only[iX]at e;split at e
   .rename_i s n es fz c
    simp only[YV,Y6]at e;obtain⟨rfl,rfl⟩:=e;obtain⟨f,a,_⟩:=hf.mp c;have:=Ii d a
    cases g with
    |ext i=>cases i with
     |mp _=>exact⟨this.1,this.2,hf.set_mp c⟩
   .cases e
theorem aC.mono{w:World}{L:Nat->Loc}{h:Hp}(hp:Pres w M w' M')(hc:KC L h L' h'){ps:List AV}(a:aC w M L h ps us):aC w' M' L' h' ps us:=
 ⟨a.1,λi p u h1 h2=>(a.2 i p u h1 h2).mono hp hc⟩
theorem tJ:∀{xs:List AV}{h:Hp}(_:MemL C L h w)(_:bH h1 h){us:List Value}(_:aC w (ab C L h) L h xs us){ps:List PV}{W:List (Nat×Blk)}(_:eh h1 xs=some (ps,W)),
 aF C L h w L (ag h W) w/\bn w (ab C L (ag h W)) ps us/\bH h1 (ag h W)
 |[],h,a,hf,us,b,ps,W,e=>by
  simp only[eh,YV,Y6]at e;obtain⟨rfl,rfl⟩:=e;rw[b.nil_inv];exact⟨aF.refl a,bn.nil,hf⟩
 |x::r,h,a,hf,us,b,ps,W,e=>by
  simp only[eh]at e;split at e
  .rename_i p o m q i j
   simp only[YV,Y6]at e;obtain⟨rfl,rfl⟩:=e;obtain⟨u,n,rfl,l,k⟩:=b.cons_inv;obtain⟨a1,c,d⟩:=AN a hf l i;obtain⟨b1,f,g⟩:=tJ a1.1 d (k.mono a1.2.1 a1.2.2) j;rw[bG];exact⟨a1.trans b1,.cons (c.mono b1.2.1) f,g⟩
  .cases e
theorem nN(j:MemL C L h w)(hf:bH h1 h)(E:RepA w (ab C L h) L h x u)(e:tH h1 x=some (p,W)):
 aF C L h w L (ag h W) w/\Rep w (ab C L (ag h W)) p u/\bH h1 (ag h W):=by
 unfold tH at e;split at e
 .rename_i k n G
  split at e
  .rename_i cs fz i
   have main:∀{ps:List PV}{c:List (Nat×Blk)},n<=cs.length->eh h1 cs=some (ps,c)->ps.all jp=true->W=c++[(k,.box cs true true)]->p=.sl (ps.take n)->aF C L h w L (ag h W) w/\Rep w (ab C L (ag h W)) p u/\bH h1 (ag h W):=by
    intro ps c hn l D z A;subst z;subst A;obtain⟨m,b,_⟩:=hf.box i;obtain⟨arr,ty,d,a⟩:=j.bl k _ b;obtain⟨a1,g,v⟩:=tJ j hf a l;obtain⟨B,q,_⟩:=v.box i
    have f:n<=ps.length:=by rw[g.1,<-a.1];exact hn
    rw[bG]
    cases E with
    |ext s=>cases s with
     |barr o _=>
      have:=Gv a1.1 o (ps:=ps) q f (λp hp=>iG (L4.1 D p hp)) (λy F h3 _=>by rw[d]at h3;injection h3 with h3;injection h3 with h3;subst h3;exact g);exact⟨a1.trans this.1,this.2,v.set_box i⟩
   have r:∀{ps:List PV}{c:List (Nat×Blk)},eh h1 cs=some (ps,c)->ps.length=cs.length:=by
    intro ps c l;obtain⟨m,b,_⟩:=hf.box i;obtain⟨arr,ty,d,a⟩:=j.bl k _ b;obtain⟨_,g,_⟩:=tJ j hf a l;rw[g.1,<-a.1]
   grind
  .cases e
 grind [AN]
theorem nO:∀{xs:List AV}{h:Hp}(_:MemL C L h w)(_:bH h1 h){us:List Value}(_:aC w (ab C L h) L h xs us){ps:List PV}{W:List (Nat×Blk)}(_:qC h1 xs=some (ps,W)),
 aF C L h w L (ag h W) w/\bn w (ab C L (ag h W)) ps us/\bH h1 (ag h W)
 |[],h,a,hf,us,b,ps,W,e=>by
  simp only[qC,YV,Y6]at e;obtain⟨rfl,rfl⟩:=e;rw[b.nil_inv];exact⟨aF.refl a,bn.nil,hf⟩
 |x::r,h,a,hf,us,b,ps,W,e=>by
  simp only[qC]at e;split at e
  .rename_i p o m q i j
   simp only[YV,Y6]at e;obtain⟨rfl,rfl⟩:=e;obtain⟨u,n,rfl,l,k⟩:=b.cons_inv;obtain⟨a1,c,d⟩:=nN a hf l i;obtain⟨b1,f,g⟩:=nO a1.1 d (k.mono a1.2.1 a1.2.2) j;rw[bG];exact⟨a1.trans b1,.cons (c.mono b1.2.1) f,g⟩
  .cases e
theorem wI(f:MemL C L h w)(hf:bH h1 h)(v:RepA w (ab C L h) L h x u)(e:rI h1 x=some (p,W)):
 aF C L h w L (ag h W) w/\Rep w (ab C L (ag h W)) p u/\bH h1 (ag h W):=by
 unfold rI at e;split at e
 .simp only[YV,Y6]at e
  obtain⟨rfl,rfl⟩:=e
  cases v with
  |pv G=>exact⟨aF.refl f,G,hf⟩
 .rename_i k
  split at e
  .rename_i cs fz d
   obtain⟨E,a,_⟩:=hf.box d
   have key:∀y:PV,y.cells.map .pv=cs->aF C L h w L (ag h [(k,.box cs true true)]) w/\Rep w (ab C L (ag h [(k,.box cs true true)])) (.rptr y 0) u/\bH h1 (ag h [(k,.box cs true true)]):=by
    intro y g;obtain⟨a1,l⟩:=Ih f a g
    cases v with
    |ptr _=>exact⟨a1,l,hf.set_box d⟩
   split at e
   .rename_i ps hp
    have hc:=qb hp;split at e
    .rename_i hq
     simp only[YV,Y6]at e;obtain⟨rfl,rfl⟩:=e
     exact key _ (by rw[hc];congr 1;cases ps with
      |nil=>simp[i7]at hq
      |cons q r=>cases r with
       |nil=>simp only[i7]at hq;exact iG hq
       |cons _ _=>simp[i7]at hq)
    grind [Option.some.injEq,kx]
   .split at e
    .rename_i ps i D
     obtain⟨arr,ty,m,n⟩:=f.bl k _ a;obtain⟨a1,l,z⟩:=nO f hf n D;obtain⟨F,s,_⟩:=z.box d
     have c:∀y:PV,y.cells=ps->aF C L h w L (ag h (i++[(k,.box cs true true)])) w/\Rep w (ab C L (ag h (i++[(k,.box cs true true)]))) (.rptr y 0) u/\bH h1 (ag h (i++[(k,.box cs true true)])):=by
      intro y g;obtain⟨b1,I,B⟩:=rJ a1.1 (ps:=ps) s (λA H h3 _=>by rw[m]at h3;injection h3 with h3;injection h3 with h3;subst h3;exact l);rw[bG]
      cases v with
      |ptr _=>exact⟨a1.trans b1,.rptr y (L k).b 0 0 I (λj p o=>(B j p (g▸o)).1) (λj p o=>(B j p (g▸o)).2),z.set_box d⟩
     split at e
     .rename_i hq
      simp only[YV,Y6]at e;obtain⟨rfl,rfl⟩:=e
      exact c _ (by cases ps with
       |nil=>simp[i7]at hq
       |cons q r=>cases r with
        |nil=>simp only[i7]at hq;exact iG hq
        |cons _ _=>simp[i7]at hq)
     grind [Option.some.injEq,kx]
    .cases e
  .cases e
 .cases e
theorem qF:∀{xs:List AV}{h:Hp}(_:MemL C L h w)(_:bH h1 h){us:List Value}(_:aC w (ab C L h) L h xs us){ps:List PV}{W:List (Nat×Blk)}(_:kv h1 xs=some (ps,W)),
 aF C L h w L (ag h W) w/\bn w (ab C L (ag h W)) ps us/\bH h1 (ag h W)
 |[],h,a,hf,us,b,ps,W,e=>by
  simp only[kv,YV,Y6]at e;obtain⟨rfl,rfl⟩:=e;rw[b.nil_inv];exact⟨aF.refl a,bn.nil,hf⟩
 |x::r,h,a,hf,us,b,ps,W,e=>by
  simp only[kv]at e;split at e
  .rename_i p o m q i j
   simp only[YV,Y6]at e;obtain⟨rfl,rfl⟩:=e;obtain⟨u,n,rfl,l,k⟩:=b.cons_inv;obtain⟨a1,c,d⟩:=wI a hf l i;obtain⟨b1,f,g⟩:=qF a1.1 d (k.mono a1.2.1 a1.2.2) j;rw[bG];exact⟨a1.trans b1,.cons (c.mono b1.2.1) f,g⟩
  .cases e
theorem Ij(l:MemL C L h w)(hf:bH h1 h)(m:RepA w (ab C L h) L h x u)(e:BU h1 x=some (p,W)):
 aF C L h w L (ag h W) w/\Rep w (ab C L (ag h W)) p u/\bH h1 (ag h W):=by
 unfold BU at e;split at e
 .rename_i cs
  split at e
  .rename_i ps v b
   simp only[YV,Y6]at e;obtain⟨rfl,rfl⟩:=e
   cases m with
   |agg _ vs g q=>
    obtain⟨a1,a,i⟩:=nO l hf ⟨g,q⟩ b
    grind [kO]
  .cases e
 .rename_i f first k
  split at e
  .rename_i ps y s z b o
   simp only[YV,Y6]at e;obtain⟨rfl,rfl⟩:=e
   cases m with
   |fn _ _ _ vs us g r c d=>
    obtain⟨a1,a,i⟩:=nO l hf ⟨g,c⟩ b;obtain⟨b1,j,n⟩:=qF a1.1 i (aC.mono a1.2.1 a1.2.2 ⟨r,d⟩) o;rw[bG];exact⟨a1.trans b1,.fn f ps s vs us (a.1.trans rfl) j.1 (a.mono b1.2.1).2 j.2,n⟩
  .cases e
 grind [nN]
theorem tK:∀{xs:List AV}{h:Hp}(_:MemL C L h w)(_:bH h1 h){us:List Value}(_:aC w (ab C L h) L h xs us){ps:List PV}{W:List (Nat×Blk)}(_:pQ h1 xs=some (ps,W)),
 aF C L h w L (ag h W) w/\bn w (ab C L (ag h W)) ps us/\bH h1 (ag h W)
 |[],h,a,hf,us,b,ps,W,e=>by
  simp only[pQ,YV,Y6]at e;obtain⟨rfl,rfl⟩:=e;rw[b.nil_inv];exact⟨aF.refl a,bn.nil,hf⟩
 |x::r,h,a,hf,us,b,ps,W,e=>by
  simp only[pQ]at e;split at e
  .rename_i p o m q i j
   simp only[YV,Y6]at e;obtain⟨rfl,rfl⟩:=e;obtain⟨u,n,rfl,l,k⟩:=b.cons_inv;obtain⟨a1,c,d⟩:=Ij a hf l i;obtain⟨b1,f,g⟩:=tK a1.1 d (k.mono a1.2.1 a1.2.2) j;rw[bG];exact⟨a1.trans b1,.cons (c.mono b1.2.1) f,g⟩
  .cases e
theorem m9(k:MemL C L h w)(hf:bH h1 h)(l:RepA w (ab C L h) L h x u)(e:frz h1 x=some (p,W)):
 aF C L h w L (ag h W) w/\Rep w (ab C L (ag h W)) p u/\bH h1 (ag h W):=by
 unfold frz at e;split at e
 .rename_i cs
  split at e
  .rename_i ps q b
   simp only[YV,Y6]at e;obtain⟨rfl,rfl⟩:=e
   cases l with
   |agg _ vs c g=>
    obtain⟨a1,a,d⟩:=tK k hf ⟨c,g⟩ b
    grind [kO]
  .cases e
 .rename_i f first o
  split at e
  .rename_i ps z y A b s
   simp only[YV,Y6]at e;obtain⟨rfl,rfl⟩:=e
   cases l with
   |fn _ _ _ vs us c v i j=>
    obtain⟨a1,a,d⟩:=nO k hf ⟨c,i⟩ b;obtain⟨b1,n,r⟩:=qF a1.1 d (aC.mono a1.2.1 a1.2.2 ⟨v,j⟩) s;rw[bG];exact⟨a1.trans b1,.fn f ps y vs us (a.1.trans rfl) n.1 (a.mono b1.2.1).2 n.2,r⟩
  .cases e
 .rename_i vs
  split at e
  .rename_i ps q b
   simp only[YV,Y6]at e;obtain⟨rfl,rfl⟩:=e
   cases l with
   |tup _ m c g=>
    obtain⟨a1,a,d⟩:=tK k hf ⟨c,g⟩ b;exact⟨a1,.tup ps m a.1 a.2,d⟩
  .cases e
 grind [nN]
theorem vW(D:MemL C L h w)(hs:∀k b,h1 k=some b->h k=some b)(A:RepA w (ab C L h) L h x u)(e:ft h1 x=some (cs,off)):
 ∃b o,u=.pointer (some ⟨b,o+off,none⟩)/\∀(j:Nat) c,cs[j]?=some c->∃v,w.cell? ⟨b,o+j,none⟩=some v/\RepA w (ab C L h) L h c v:=by
 cases x with
 |ptr k f=>
  simp only[ft]at e;split at e
  .rename_i F own fz s
   simp only[YV,Y6]at e;obtain⟨rfl,rfl⟩:=e;obtain⟨arr,ty,r,B⟩:=D.bl k _ (hs _ _ s)
   cases A with
   |ptr _=>
    refine⟨(L k).b,0,by simp,λj c d=>?_⟩
    have z:j<arr.toList.length:=by rw[<-B.1];exact(th.1 d).1
    have m:arr.toList[j]?=some (arr.toList[j]):=an z;exact⟨_,by rw[gc r,ZS,<-Array.getElem?_toList];exact m,B.2 j c _ d m⟩
  .cases e
 |pv p=>
  cases p with
  |rptr y f=>
   simp only[ft,YV,Y6]at e;obtain⟨rfl,rfl⟩:=e
   cases A with
   |pv l=>cases l with
    |rptr _ b o _ K hc l=>
     refine⟨b,o,rfl,λj c d=>?_⟩;simp only[YS,II]at d;obtain⟨q,hq,rfl⟩:=d;exact⟨K j,(hc j q hq).1,.pv (l j q hq)⟩
  |_=>simp[ft]at e
 |eptr k n i f=>
  simp only[ft]at e;split at e
  .rename_i M sz xs fz s
   split at e
   .rename_i hn
    split at e
    .rename_i y J
     simp only[YV,Y6]at e;obtain⟨rfl,rfl⟩:=e;have g:=hs _ _ s
     cases A with
     |eptr a H m=>
      rw[g]at a;injection a with a;injection a with a1 a2 a3 a4;subst a1;subst a2;subst a3;subst a4;obtain⟨E,rfl⟩:=m hn;rcases o6 D g with⟨N,_⟩|⟨_,_,_,arr,r,_,G⟩
      .grind
      .refine⟨(L k).b,i*sz,rfl,λj c d=>?_⟩
       simp only[YS,II]at d;obtain⟨q,hq,rfl⟩:=d;obtain⟨v,I,l⟩:=G i y j q J hq;exact⟨v,by rw[gc r];exact I,.pv l⟩
    .cases e
   .cases e
  .cases e
 |arr=>simp[ft]at e
 |agg=>simp[ft]at e
 |fn=>simp[ft]at e
 |tup=>simp[ft]at e
 |ext=>simp[ft]at e
 |undef=>simp[ft]at e
theorem Ep(e:AB h1 sz x=some p):ft h1 x=some (p.cells.map .pv,0)/\qc p=true/\p.cells.length=sz:=by
 unfold AB at e;split at e
 .rename_i y
  split at e
  .rename_i a
   injection e with e;subst e;simp only[up,ZH]at a;exact⟨rfl,a.1,a.2⟩
  .cases e
 .rename_i k n i
  split at e
  .rename_i b s xs fz c
   split at e
   .rename_i hn
    split at e
    .rename_i y a
     split at e
     all_goals simp_all[up,ft]
    .cases e
   .cases e
  .cases e
 .cases e
theorem aJ(a:Rep w M (.val v) u):u=v:=by cases a;rfl
theorem Er(ha:qc p=true)(a:bn w M p.cells us):Rep w M p (.agg us.toArray):=by
 cases p with
 |agg cs=>exact .agg cs us a.1 a.2
 |val v=>
  cases v with
  |agg arr=>
   have:us=arr.toList:=by
    apply Zx;intro i;by_cases hi:i<us.length
    .have b:=a.1
     simp only[PV.cells,Value.cells,Zm,ZX]at b;have h2:arr.toList[i]?=some (arr.toList[i]'(by simp;omega)):=an _;have h3:=a.2 i (.val (arr.toList[i]'(by simp;omega))) us[i] (by simp[PV.cells,Value.cells,h2]) (an hi)
     grind [List.getElem?_eq_getElem,aJ]
    .rw[Y2 (by omega),Y2]
     have b:=a.1;simp only[PV.cells,Value.cells,Zm]at b;omega
   rw[this];exact .val _
  |_=>simp[qc]at ha
 |_=>simp[qc]at ha
theorem B0(hc:∀(j:Nat) c,cs[j]?=some c->∃v,w.cell? ⟨b,o+j,none⟩=some v/\RepA w M L h c v):
 ∃us:List Value,us.length=cs.length/\(∀(j:Nat) v,us[j]?=some v->w.cell? ⟨b,o+j,none⟩=some v)/\aC w M L h cs us:=by
 induction cs generalizing o with
 |nil=>exact⟨[],rfl,λj v a=>by simp at a,aC.nil⟩
 |cons c r ih=>
  obtain⟨v,f,e⟩:=hc 0 c rfl;obtain⟨us,h1,h2,h3⟩:=ih (o:=o+1) (λj d a=>by have:=hc (j+1) d (by simpa using a);rwa [show o+(j+1)=o+1+j from by omega]at this);refine⟨v::us,by simp[h1],λj g a=>?_,.cons e h3⟩
  grind
theorem gJ(e:az P t=some ti):∃i d,P.info? t=some i/\P.underlying t=some d/\ti.size=i.size/\ti.zero=i.zero/\
 ti.kind=(match d with
  |.struct a=>.struct (a.toList.map λf=>(f.offset,oZ P f.type))
  |.array n e=>.array n (oZ P e)
  |.slice e=>match P.info? e with
   |some j=>.slice e j.size j.bytes j.zero
   |none=>.one
  |_=>.one):=by
 grind [az]
theorem AO(e:az P t=some ti):mb P t=true:=by
 grind [az]
theorem bL{d:TypeDesc}(e:P.underlying t=some d)(w:World):(underlying t).run P w=.ok d w:=by
 simp[underlying,program,Sem.run,e]
theorem kS{i:TypeInfo}(e:P.info? t=some i)(w:World):(typeInfo t).run P w=.ok i w:=by
 simp[typeInfo,program,Sem.run,e]
theorem fG{i:TypeInfo}(e:P.info? t=some i)(w:World):(sizeOf t).run P w=.ok i.size w:=by
 simp[sizeOf,kS e]
theorem CX(e:az P t=some ti)(w:World):(isAgg t).run P w=.ok ti.kind.isAgg w:=by
 obtain⟨i,d,_,h2,_,_,b⟩:=gJ e;rw[b];unfold isAgg;rw[Sem.run_bind,bL h2];simp only[Result.andThen_ok]
 cases d<;>first|rfl|skip
 rename_i a
 show Result.ok false w=.ok (TK.isAgg (match P.info? a with
  |some j=>TK.slice a j.size j.bytes j.zero
  |none=>TK.one)) w
 split<;>rfl
theorem wJ(A:MemL C L h w)(hs:∀k b,h1 k=some b->h k=some b)(y:az C.P t=some ti){v:AV}(B:RepA w (ab C L h) L h x u)(e:wC ti x h1=some v):
 ∃r,(Instr.loadAt t u).run C.P w=.ok r w/\RepA w (ab C L h) L h v r:=by
 obtain⟨i,d,hi,hd,s,_,_⟩:=gJ y;unfold wC at e;split at e
 .rename_i g
  have key:∀cs off,ft h1 x=some (cs,off)->off+ti.size<=cs.length->∃us,(Instr.loadAt t u).run C.P w=.ok (.agg us.toArray) w/\aC w (ab C L h) L h ((cs.drop off).take ti.size) us:=by
   intro cs off hc F;obtain⟨b,o,rfl,a⟩:=vW A hs B hc
   have f:∀(j:Nat) c,((cs.drop off).take ti.size)[j]?=some c->∃v,w.cell? ⟨b,(o+off)+j,none⟩=some v/\RepA w (ab C L h) L h c v:=by
    grind
   obtain⟨us,E,z,G⟩:=B0 f;refine⟨us,?_,G⟩
   have m:us.length=i.size:=by rw[E,<-s,ZA,List.length_drop];omega
   simp only[Instr.loadAt,Instr.sureAddr,pure_bind,loadVar,Sem.run_bind,CX y,g,Result.andThen_ok,Za,fG hi];rw[<-m,run_loadCells_list w _ us (λj v D=>by rw[fo];exact z j v D)];rfl
  split at e
  .rename_i p H
   injection e with e;subst e;obtain⟨h2,h3,h4⟩:=Ep H;obtain⟨us,h5,h6⟩:=key _ _ h2 (by simp[h4]);refine⟨_,h5,.pv (Er h3 ?_)⟩;rw[yA7,Zh (by simp[h4])]at h6;exact h6.map_pv_inv
  grind [tG]
 .rename_i g
  split at e
  .rename_i cs off hc
   obtain⟨b,o,rfl,a⟩:=vW A hs B hc;obtain⟨r,n,q⟩:=a off v e;refine⟨r,?_,q⟩
   have l:ti.kind.isAgg=false:=by simpa using g
   simp only[Instr.loadAt,Instr.sureAddr,pure_bind,loadVar,Sem.run_bind,CX y,l,Result.andThen_ok,YU,Y5,run_load,n]
  .cases e
end
theorem MemL.touch_pk{L:Nat->Loc}(E:MemL C L h w){blk':Blk}(j:h k=some blk)
 (l:∀b,b<w.heap.size->(blk.live (L k)->b≠(L k).b)->w'.heap[b]?=w.heap[b]?)
 (hpr:∀o v,blk.live (L k)->blk.frz o->w.cell? ⟨(L k).b,o,none⟩=some v->w'.cell? ⟨(L k).b,o,none⟩=some v)(p:∀o,blk.frz o->blk'.frz o)(D:dg blk (L k) blk' (L k))
 (s:blk'.live (L k)↔blk.live (L k))(u:∀x n es,blk≠.mp x n es true:=by intro _ _ _ h;cases h):Pres w (ab C L h) w' (ab C L (av h k (some blk')))/\KC L h L (av h k (some blk')):=by
 have r:KC L h L (av h k (some blk')):=by
  intro q b hq
  grind [aE,bc,bt]
 have y:∀b o,ab C L (av h k (some blk')) b o->ab C L h b o:=by
  rintro b o (B|⟨q,A,hq,d,i,hf⟩)
  .exact .inl B
  .by_cases e:q=k
   .subst e
    rw[aE]at hq;injection hq with hq;subst hq;exact .inr ⟨q,blk,j,s.1 d,i,λm=>hf (p o m)⟩
   .rw[bc e]at hq
    exact .inr ⟨q,A,hq,d,i,hf⟩
 refine⟨⟨?_,λb arr c hc hn=>⟨?_,λf=>hn (y b 0 f)⟩⟩,r⟩
 case refine_2=>
  have a:=rt hc;by_cases d:blk.live (L k)
  .by_cases e:b=(L k).b
   .subst e
    have z:=E.bl k blk j
    cases blk with
    |box cs own fz=>obtain⟨_,_,e,_⟩:=z;rw[e]at hc;cases hc
    |row e sz xs fz=>obtain⟨_,_,_,_,h5⟩:=z;obtain⟨_,_,_,e,_⟩:=h5 d;rw[e]at hc;cases hc
    |mp x n es fz=>
     cases fz with
     |true=>exact absurd rfl (u x n es)
     |false=>exact absurd (Or.inr ⟨k,_,j,d,rfl,by simp[Blk.frz]⟩) hn
   .rw[l b a (λ_=>e)];exact hc
  .rw[l b a (λg=>absurd g d)];exact hc
 intro b o v hc hn;have a:=xZ hc;refine⟨?_,λf=>hn (y b o f)⟩;by_cases d:blk.live (L k)
 .by_cases e:b=(L k).b
  .subst e
   by_cases hf:blk.frz o
   .grind
   .exact absurd (Or.inr ⟨k,blk,j,d,rfl,hf⟩) hn
  .simp only[World.cell?,l b a (λ_=>e)]at hc|-;exact hc
 .simp only[World.cell?,l b a (λg=>absurd g d)]at hc|-;exact hc
section
variable {C:Cx} {L:Nat->Loc} {h1 h:Hp} {w:World}
theorem qG(hs:∀k b,h1 k=some b->h k=some b)(d:RepA w M L h x u)(e:gV h1 x=some cs):aC w M L h cs u.cells.toList:=by
 have one:∀{q:AV}{v:Value},RepA w M L h q v->aC w M L h [q] [v]:=λhq=>.cons hq .nil
 cases x with
 |undef=>simp[gV]at e
 |eptr=>simp[gV]at e
 |arr k n=>
  simp only[gV]at e;split at e
  .rename_i F sz xs fz l
   split at e
   .rename_i hn
    injection e with e;subst e;have r:=hs _ _ l;have g:=d
    cases d with
    |arr c D z=>
     rw[r]at c;injection c with c;injection c with a1 a2 a3 a4;subst a1;subst a2;subst a3;subst a4;have A:=z hn;subst A
     have:((L k).slice n).cells.toList=[(L k).slice n]:=by unfold Loc.slice;split<;>rfl
     grind
   .cases e
  .cases e
 |pv p=>
  simp only[gV,YV]at e;subst e
  cases d with
  |pv E=>exact aC.map_pv E.cells
 |ptr k off=>
  simp only[gV,YV]at e;subst e
  cases d with
  |ptr l=>exact one (.ptr l)
 |agg B=>
  simp only[gV,YV]at e;subst e
  cases d with
  |agg _ vs m o=>exact⟨by simpa[AV.cells,Value.cells]using m,λi p u hp z=>o i p u (by simpa[AV.cells]using hp) (by simpa[Value.cells]using z)⟩
 |fn f first j=>
  simp only[gV,YV]at e;subst e
  cases d with
  |fn _ _ _ vs us m l a b=>exact one (.fn f first j vs us m l a b)
 |tup vs=>
  simp only[gV,YV]at e;subst e
  cases d with
  |tup _ us m o=>exact one (.tup vs us m o)
 |ext y=>
  simp only[gV,YV]at e;subst e
  cases d with
  |ext g=>
   have C:u.cells.toList=[u]:=by
    cases g with
    |suf s _ _ _ _=>obtain⟨_,_,_,rfl⟩:=s;rfl
    |_=>rfl
   rw[C];exact one (.ext g)
theorem uX(a:Rep w M p u)(b:jp p=true):u.oneCell'=true:=by
 cases a<;>simp_all[jp,Value.oneCell']
theorem Ik(hs:∀k b,h1 k=some b->h k=some b)(d:RepA w M L h x u)(a:wy h1 x=true):u.oneCell'=true:=by
 cases d with
 |pv d=>exact uX d a
 |ptr=>rfl
 |@arr k n e sz fz xs u i hn j=>
  simp only[wy]at a;split at a
  .rename_i p m o g c
   have:=hs _ _ c;rw[i]at this;injection this with this;injection this with a1 a2 a3 a4;subst a3;rw[j (by simpa using a)];unfold Loc.slice;split<;>rfl
  .cases a
 |eptr=>simp[wy]at a
 |agg=>simp[wy]at a
 |fn=>rfl
 |tup=>simp[wy]at a
 |ext l=>cases l with
   |suf f _ _ _ _=>obtain⟨_,_,_,rfl⟩:=f;rfl
   |_=>rfl
 |undef=>simp[wy]at a
theorem aC.take_{ps:List AV}(b:aC w M L h ps us)(n:Nat):aC w M L h (ps.take n) (us.take n):=by
 refine⟨by simp[b.1],λi p u hp a=>?_⟩;rw[Zj]at hp a;split at hp
 .rename_i hi;rw[YY hi]at a;exact b.2 i p u hp a
 .cases hp
theorem aC.drop_{ps:List AV}(a:aC w M L h ps us)(n:Nat):aC w M L h (ps.drop n) (us.drop n):=by
 refine⟨by simp[a.1],λi p u hp b=>?_⟩;rw[ZO]at hp b;exact a.2 _ p u hp b
theorem aC.splice_{ps qs:List AV}(a:aC w M L h ps us)(hq:aC w M L h qs vs)(off:Nat):aC w M L h (bo ps off qs) (bo us off vs):=by
 unfold bo;rw[hq.1];exact((a.take_ off).append hq).append (a.drop_ _)
theorem zf(k:az P t=some ti){ty:Nat}{a:Array Value}(g:w.heap[b]?=some (.cells a ty (0,0)))(f:v.cells.size=ti.size)(c:o+v.cells.size<=a.size)
 (h1:∀u∈v.cells.toList,u.oneCell'=true):(Instr.storeAt t (.pointer (some ⟨b,o,none⟩)) v).run P w=.ok () (w.setRow b (bo a.toList o v.cells.toList).toArray):=by
 obtain⟨i,d,hi,hd,j,_,_⟩:=gJ k;have:=run_storeCells_at P b o ty v.cells.toList 0 a w g (by simpa using c) h1
 have e:¬v.cells.size≠i.size:=by simp[f,j]
 simp only[Instr.storeAt,Instr.sureAddr,pure_bind,storeVar,Sem.run_bind,fG hi,Result.andThen_ok,e,Y5,this];simp[bo]
theorem JK(e:MemL C L h w){vc:List AV}{own:Bool}(d:h k=some (.box cs own false))(n:az C.P t=some ti)
 (i:aC w (ab C L h) L h vc u.cells.toList)(q:vc.length=ti.size)(l:off+vc.length<=cs.length)(a:∀x∈u.cells.toList,x.oneCell'=true):
 ∃w',(Instr.storeAt t (.pointer (some ⟨(L k).b,off,none⟩)) u).run C.P w=.ok () w'/\aF C L h w L (av h k (some (.box (bo cs off vc) own false))) w':=by
 obtain⟨arr,ty,f,g⟩:=e.bl k _ d
 have p:u.cells.size=vc.length:=by have:=i.1;simp at this;omega
 have m:arr.size=cs.length:=by have:=g.1;simp at this;omega
 refine⟨_,zf n f (by omega) (by omega) a,?_⟩;have j:∀b,b<w.heap.size->((Blk.box cs own false).live (L k)->b≠(L k).b)->(w.setRow (L k).b (bo arr.toList off u.cells.toList).toArray).heap[b]?=w.heap[b]?:=λb _ hb=>setRow_other w _ b _ (hb trivial);have c:=e.touch_pk (blk':=.box (bo cs off vc) own false) d j (λo v _ hf _=>by cases hf) (λo hf=>by cases hf) rfl Z8;refine e.touch d j (by simp) rfl rfl rfl (λo v _ hf _=>by cases hf) (λo hf=>by cases hf) rfl Z8 (by have h9:=e.own k _ d;cases own<;>exact h9) ?_;refine⟨_,ty,setRow_heap w _ arr _ ty _ f,?_⟩;have:=(g.splice_ i off).mono c.1 c.2;omega
theorem CY(G:MemL C L h w){i:Nat}{y q:PV}(F:h k=some (.row e sz xs fz))(hi:xs[i]?=some y)(I:fz<=i)(c:(L k).isNil=false)(ht:az C.P t=some ti)
 {u:Value}{ps:List PV}(T:bn w (ab C L h) ps u.cells.toList)(hl:ps.length=ti.size)(ad:off+ps.length<=sz)(A:∀x∈u.cells.toList,x.oneCell'=true)(V:q.cells=bo y.cells off ps):
 ∃w',(Instr.storeAt t (.pointer (some ⟨(L k).b,i*sz+off,none⟩)) u).run C.P w=.ok () w'/\aF C L h w L (av h k (some (.row e sz (xs.set i q) fz))) w':=by
 obtain⟨g1,g2,g3,g4,g5⟩:=G.bl k _ F;obtain⟨a1,W,arr,E,X,H⟩:=g5 c
 have ah:u.cells.size=ps.length:=by have:=T.1;simp at this;omega
 have Y:i<xs.length:=(th.1 hi).1
 have z:(i+1)*sz<=arr.size:=by rw[X];exact Ze _ (by omega)
 rw[Zz]at z
 have s:i*sz+off+u.cells.size<=arr.size:=by omega
 refine⟨_,zf ht E (by omega) s A,?_⟩;have U:∀b,b<w.heap.size->((Blk.row e sz xs fz).live (L k)->b≠(L k).b)->(w.setRow (L k).b (bo arr.toList (i*sz+off) u.cells.toList).toArray).heap[b]?=w.heap[b]?:=λb _ hb=>setRow_other w _ b _ (hb c);have R:fz*sz<=i*sz:=Ze _ I
 have f:∀o,o<i*sz+off\/i*sz+off+u.cells.size<=o->(bo arr.toList (i*sz+off) u.cells.toList)[o]?=arr[o]?:=by
  intro o M;unfold bo;rcases M with M|M
  .grind
  grind [List.getElem?_append_right,List.length_append,List.length_take,Array.length_toList]
 have Z:∀j,j<u.cells.size->(bo arr.toList (i*sz+off) u.cells.toList)[i*sz+off+j]?=u.cells[j]?:=by
  intro j a;unfold bo
  grind [List.append_assoc,List.getElem?_append_right,List.getElem?_append_left,List.length_take,Array.length_toList]
 have hpr:∀o v,(Blk.row e sz xs fz).live (L k)->(Blk.row e sz xs fz).frz o->w.cell? ⟨(L k).b,o,none⟩=some v->(w.setRow (L k).b (bo arr.toList (i*sz+off) u.cells.toList).toArray).cell? ⟨(L k).b,o,none⟩=some v:=by
  intro o v _ hf hc;simp only[Blk.frz]at hf;rw[cell_setRow_same w _ o arr _ _ _ E,Z7,f o (.inl (by omega)),<-gc E];exact hc
 have S:(xs.set i q).length=xs.length:=by simp
 have r:dg (.row e sz xs fz) (L k) (.row e sz (xs.set i q) fz) (L k):=⟨rfl,rfl,by omega,λ_=>rfl⟩;have d:=G.touch_pk (blk':=.row e sz (xs.set i q) fz) F U hpr (λo hf=>hf) r Z8;refine G.touch F U (by simp) rfl rfl rfl hpr (λo hf=>hf) r Z8 (by have h9:=G.own k _ F;exact h9) ?_;have O:y.cells.length=sz:=g3 y (An hi)
 have g:q.cells.length=sz:=by rw[V];simp[bo];omega
 refine⟨g1,by omega,?_,λhn=>absurd c (by rw[hn];simp),λ_=>⟨by omega,W,_,setRow_heap w _ arr _ _ _ E,by simp[bo];omega,?_⟩⟩
 .grind
 .intro Q x j p n a
  rw[Y1]at n;split at n
  .rename_i l
   subst l;injection n with n;subst n
   have K:j<sz:=by rw[<-g];exact(th.1 a).1
   rw[V]at a;by_cases c1:j<off
   .unfold bo at a
    rw[ZY,YT (by simp;omega),Zj,YY c1]at a;obtain⟨v,D,B⟩:=H i y j p hi a;exact⟨v,by rw[Z7,f _ (.inl (by omega))];exact D,B.mono d.1⟩
   .by_cases c2:j<off+ps.length
    .unfold bo at a
     rw[ZY,YX (by simp;omega),YT (by simp;omega)]at a;simp only[ZA]at a;rw[show j-min off y.cells.length=j-off from by omega]at a
     have m:j-off<u.cells.size:=by omega
     have N:u.cells.toList[j-off]?=some u.cells[j-off]:=by simp[m]
     refine⟨u.cells[j-off],?_,(T.2 _ p _ a N).mono d.1⟩
     grind
    .unfold bo at a
     rw[YX (by simp;omega),ZO]at a;simp only[Zb,ZA]at a;rw[show off+ps.length+(j-(min off y.cells.length+ps.length))=j from by omega]at a;obtain⟨v,D,B⟩:=H i y j p hi a;exact⟨v,by rw[Z7,f _ (.inr (by omega))];exact D,B.mono d.1⟩
  .rename_i l
   obtain⟨v,D,B⟩:=H Q x j p n a
   have K:j<sz:=by rw[<-g3 x (An n)];exact(th.1 a).1
   refine⟨v,?_,B.mono d.1⟩;rw[Z7,f _ ?_]
   .exact D
   .rcases Nat.lt_or_gt_of_ne l with m|J
    .right
     have:(i+1)*sz<=Q*sz:=Ze _ m
     grind
    .left
     have:(Q+1)*sz<=i*sz:=Ze _ J
     grind
theorem GY(b:bn w M ps us)(c:ps.all jp=true):∀x∈us,x.oneCell'=true:=by
 intro x d;obtain⟨i,hi⟩:=Z6.1 d
 have a:i<ps.length:=by rw[b.1];exact(th.1 hi).1
 exact uX (b.2 i ps[i] x (an a) hi) (L4.1 c _ (Zd a))
theorem DP(m:MemL C L h w)(hs:∀k b,h1 k=some b->h k=some b)(z:az C.P t=some ti){v:AV}{a:Value}(E:RepA w (ab C L h) L h x a)(D:RepA w (ab C L h) L h v u)
 {W:List (Nat×Blk)}(e:yc ti x v h1=some W):∃w',(Instr.storeAt t a u).run C.P w=.ok () w'/\aF C L h w L (ag h W) w':=by
 unfold yc at e;split at e
 .rename_i k off
  split at e
  .rename_i cs own F q A
   split at e
   .rename_i hc
    injection e with e;subst e;have s:=qG hs D A
    cases E with
    |ptr _=>
     refine JK m (hs _ _ q) z s hc.1 hc.2.1 ?_;intro y o;obtain⟨i,hi⟩:=Z6.1 o
     have r:i<F.length:=by rw[s.1];exact(th.1 hi).1
     have h2:=s.2 i F[i] y (an r) hi
     grind [Ik,List.all_eq_true,List.getElem_mem]
   .cases e
  .cases e
 .rename_i k n i off
  split at e
  .rename_i K sz xs fz q
   split at e
   .rename_i hc
    split at e
    .rename_i y p o hp
     have d:=hs _ _ q;obtain⟨b1,l,J⟩:=nN m (bH.of_sub hs) D hp;have l:Rep w (ab C L h) p u:=l;split at e
     .rename_i c
      simp only[rH,up,ZH]at c
      cases E with
      |eptr f G I=>
       rw[d]at f;injection f with f;injection f with a1 a2 a3 a4;subst a1;subst a2;subst a3;subst a4;obtain⟨g,rfl⟩:=I hc.1;have B:=(m.bl k _ d).2.2.1 y (An o);split at e
       .rename_i j
        injection e with e;subst e;obtain⟨rfl,H⟩:=j;exact CY m d o hc.2 g z l.cells c.1 (by omega) (GY l.cells c.2) (by simp[bo];omega)
       .split at e
        .rename_i j
         injection e with e;subst e;exact CY m d o hc.2 g z l.cells c.1 (by omega) (GY l.cells c.2) (kx _)
        .cases e
     .cases e
    .cases e
   .cases e
  .cases e
 .cases e
end
theorem uj(c:Ext (λ_=>False) w w'){b0:Nat}{q:Prop}(hb:q->w.heap.size<=b0):Pres w M w' (λb o=>M b o\/(q/\b=b0)):=by
 refine Pres.ext c (λ_ _ h=>h.elim) λb o a=>?_;rintro(h|⟨hq,rfl⟩)
 .exact h
 .have:=hb hq;omega
theorem j8(w:World)(o:Obj):(w.alloc o).heap[w.heap.size]?=some o:=heap_alloc_new w o
section
variable {C:Cx} {L:Nat->Loc} {h1 h:Hp} {w:World}
theorem B5(i:MemL C L h w)(hd:h d=none)(a:d<2000000){us:Array Value}(j:aC w (ab C L h) L h cs us.toList)(ty:TypeId):
 aF C L h w (av L d ⟨w.heap.size,0,false⟩) (av h d (some (.box cs true false))) (w.alloc (.cells us ty))/\
 RepA (w.alloc (.cells us ty)) (ab C (av L d ⟨w.heap.size,0,false⟩) (av h d (some (.box cs true false)))) (av L d ⟨w.heap.size,0,false⟩) (av h d (some (.box cs true false))) (.ptr d 0) (.pointer (some ⟨w.heap.size,0,none⟩)):=by
 have c:Ext (λ_=>False) w (w.alloc (.cells us ty)):=Ext.alloc _ w _;have b:KC L h (av L d ⟨w.heap.size,0,false⟩) (av h d (some (.box cs true false))):=KC.new hd;refine⟨i.newKey hd a c (λ_=>Y0 _) (by intro f g e;injection e with _ e2;cases e2) ⟨us,ty,j8 w _,j.mono (uj c (λ_=>Y0 _)) b⟩,?_⟩;have:=RepA.ptr (w:=w.alloc (.cells us ty)) (M:=ab C (av L d ⟨w.heap.size,0,false⟩) (av h d (some (.box cs true false)))) (L:=av L d ⟨w.heap.size,0,false⟩) (h:=av h d (some (.box cs true false))) (k:=d) (off:=0) (aE _ _ _);rw[aE]at this;exact this
theorem lA(i:MemL C L h w)(j:Ext (λ_=>False) w w')(hd:h d=none)(a:d<2000000)(g:l.isNil=false->w.heap.size<=l.b)
 (hb:dh w' (λb o=>ab C L h b o\/(l.isNil=false/\b=l.b)) (λ_=>default) (λ_=>none) l (.row e sz xs 0)):
 aF C L h w (av L d l) (av h d (some (.row e sz xs 0))) w'/\
 RepA w' (ab C (av L d l) (av h d (some (.row e sz xs 0)))) (av L d l) (av h d (some (.row e sz xs 0))) (.arr d xs.length) (l.slice xs.length):=by
 refine⟨i.newKey hd a j g (by intro c f e;cases e) hb,?_⟩;exact .arr (aE _ _ _) (Y0 _) (λ_=>by rw[aE])
theorem Pt{i j:Nat}(a:j<sz):(i*sz+j)%sz=j:=by
 rw[Nat.add_comm,Nat.add_mul_mod_self_right];exact Nat.mod_eq_of_lt a
theorem Es(hm:MemL C L h w)(ht:az C.P t=some ti){d:Option Nat}(g:∀q,d=some q->h1 q=h q/\q<2000000){l c:AV}{ul S:Value}(K:RepA w (ab C L h) L h l ul)(hc:RepA w (ab C L h) L h c S)
 {v:AV}{W:List (Nat×Blk)}(e:AE ti d l c h1=some (v,W)):
 ∃r w' L',(Instr.makeSlice t ul S).run C.P w=.ok r w'/\aF C L h w L' (ag h W) w'/\RepA w' (ab C L' (ag h W)) L' (ag h W) v r:=by
 obtain⟨i,Y,hi,hd,ad,_,Z⟩:=gJ ht;unfold AE at e;split at e
 .rename_i G H o z k1 n k2 m q f
  split at e
  .rename_i A
   obtain⟨c1,Q,T,U,V,c6,X⟩:=A;injection e with e;injection e with e1 e2;subst e1;subst e2;subst T
   have s:∃B j,Y=.slice B/\C.P.info? B=some j/\G=B/\j.size=H/\j.bytes=o/\j.zero=some z:=by
    rw[Z]at f;split at f
    .cases f
    .cases f
    .rename_i B
     split at f
     .rename_i j J;injection f with a1 a2 a3 a4;exact⟨B,j,rfl,J,a1.symm,a2,a3,a4⟩
     .cases f
    .cases f
   obtain⟨B,j,rfl,J,rfl,rfl,rfl,hz⟩:=s
   cases K with
   |pv K=>cases hc with
    |pv hc=>
     rw[aJ K,aJ hc];have E:=run_make (P:=C.P) w t G j z hd J hz k1 k2 m m U (Int.le_refl _) V c6
     have I:h q=none:=by rw[<-(g q rfl).1];simpa using X
     have hx:Ext (λ_=>False) w (w.alloc (.cells (madeCells z.cells (m.toNat*j.size)) G)):=Ext.alloc _ w _
     have u:=lA (e:=G) (sz:=j.size) (xs:=List.replicate m.toNat (PV.val z)) (l:=⟨w.heap.size,m.toNat,false⟩) hm hx I (g q rfl).2 (λ_=>Y0 _) (by
      refine⟨c1,ZG _,?_,(λh=>by cases h),λ_=>⟨by simp,by simp only[maxLen];omega,_,j8 w _,by simp[size_madeCells],?_⟩⟩
      .intro x N;rw[List.eq_of_mem_replicate N];simp[PV.cells,Q]
      .intro a x b p k F
       have ha:a<m.toNat:=by have:=(th.1 k).1;simpa using this
       rw[Zk,YY ha]at k;injection k with k;subst k;simp only[PV.cells,YS,II]at F;obtain⟨y,R,rfl⟩:=F
       have hb:b<j.size:=by have:=(th.1 R).1;simp at this;omega
       have D:b<z.cells.size:=by omega
       refine⟨y,?_,.val _⟩
       have M:a*j.size+b<m.toNat*j.size:=by
        have:(a+1)*j.size<=m.toNat*j.size:=Ze _ ha;rw[Zz]at this;omega
       have O:z.cells[b]=y:=by simpa[D]using R
       simp[madeCells,M,Q,Pt hb]
       rw[getElem!_pos z.cells b D];exact O)
     refine⟨_,_,_,E,u.1,?_⟩;have h9:=u.2;rw[List.length_replicate]at h9;exact h9
  .cases e
 .cases e
theorem DQ(X:MemL C L h w)(Z:az C.P t=some ti){hn:List Nat}{d:Option Nat}(g:∀q,d=some q->h1 q=h q/\q<2000000){l c:AV}{ul N:Value}(K:RepA w (ab C L h) L h l ul)(hc:RepA w (ab C L h) L h c N)
 {v:AV}{W:List (Nat×Blk)}(e:ye ti hn d l c h1=some (v,W)):
 ∃r w' L',(Instr.makeSlice t ul N).run C.P w=.ok r w'/\aF C L h w L' (ag h W) w'/\RepA w' (ab C L' (ag h W)) L' (ag h W) v r:=by
 obtain⟨i,U,hi,hd,Y,_,V⟩:=gJ Z;unfold ye at e;split at e
 .rename_i F k z k1 n k2 m q f
  split at e
  .rename_i x
   obtain⟨_,O,Q,R,S,c6,T⟩:=x;injection e with e;injection e with B e2;subst B;subst e2;subst Q
   have s:∃A j,U=.slice A/\C.P.info? A=some j/\F=A/\j.size=1/\j.bytes=k/\j.zero=some z:=by
    rw[V]at f;split at f
    .cases f
    .cases f
    .rename_i A
     split at f
     .rename_i j I;injection f with a1 a2 a3 a4;exact⟨A,j,rfl,I,a1.symm,a2,a3,a4⟩
     .cases f
    .cases f
   obtain⟨A,j,rfl,I,rfl,J,rfl,hz⟩:=s
   have M:z.cells=#[z]:=by
    have:=iG O;simp only[PV.cells]at this;apply Array.ext'
    cases E:z.cells.toList with
    |nil=>rw[E]at this;cases this
    |cons y r=>
     rw[E]at this;simp only[Z0,List.cons.injEq,List.map_eq_nil_iff]at this;obtain⟨B,rfl⟩:=this;injection B with B;subst B;rfl
   cases K with
   |pv K=>cases hc with
    |pv hc=>
     rw[aJ K,aJ hc];have D:=run_make (P:=C.P) w t F j z hd I hz k1 k2 m m R (Int.le_refl _) S c6
     have H:h q=none:=by rw[<-(g q rfl).1];simpa using T
     have hx:Ext (λ_=>False) w (w.alloc (.cells (madeCells z.cells (m.toNat*j.size)) F)):=Ext.alloc _ w _
     have o:madeCells z.cells (m.toNat*j.size)=(List.replicate m.toNat z).toArray:=by
      rw[J,yAr,M];apply Array.ext
      .simp[size_madeCells]
      .intro a h1 h2
       simp[madeCells,Nat.mod_one]
     have hb:=B5 (us:=madeCells z.cells (m.toNat*j.size)) (cs:=List.replicate m.toNat (.pv (.val z))) X H (g q rfl).2 (by
      rw[o];refine⟨by simp,λa p u hp G=>?_⟩;have ha:=(th.1 hp).1;simp only[List.length_replicate]at ha;rw[Zk,YY ha]at hp;rw[Zk,YY ha]at G;injection hp with hp;injection G with G;subst hp;subst G
      exact .pv (.val _)) F
     refine⟨_,_,_,D,hb.1,?_⟩;have h9:RepX (av L q ⟨w.heap.size,0,false⟩) (av h q (some (.box (List.replicate m.toNat (.pv (.val z))) true false))) (.barr q m.toNat m.toNat) (.slice (some ⟨(av L q ⟨w.heap.size,0,false⟩ q).b,0,none⟩) m.toNat m.toNat):=.barr (Y0 _) (aE _ _ _);rw[aE]at h9;exact .ext h9
  .cases e
 .cases e
theorem tL(O:MemL C L h w)(hs:∀k b,h1 k=some b->h k=some b)(P:RepA w (ab C L h) L h x u){ys:List PV}(e:gq h1 x=some ys)(J:ys.all (rH sz)=true):
 ∃A c,u=.slice A ys.length c/\(A=none->ys=[])/\(0<ys.length->∃b o,A=some ⟨b,o,none⟩/\∃news:List Value,news.length=ys.length*sz/\(∀(j:Nat) v,news[j]?=some v->w.cell? ⟨b,o+j,none⟩=some v)/\
  (∀v∈news,v.oneCell'=true)/\(∀(i:Nat) y(j:Nat) p,ys[i]?=some y->y.cells[j]?=some p->∃v,news[i*sz+j]?=some v/\Rep w (ab C L h) p v)):=by
 have g:∀y∈ys,y.cells.length=sz/\y.cells.all jp=true:=by
  intro y d;have:=L4.1 J y d;simpa[rH]using this
 have mk:∀b o,(∀(i:Nat) y(j:Nat) p,ys[i]?=some y->y.cells[j]?=some p->∃v,w.cell? ⟨b,o+(i*sz+j),none⟩=some v/\Rep w (ab C L h) p v)->
  ∃news:List Value,news.length=ys.length*sz/\(∀(j:Nat) v,news[j]?=some v->w.cell? ⟨b,o+j,none⟩=some v)/\(∀v∈news,v.oneCell'=true)/\
   (∀(i:Nat) y(j:Nat) p,ys[i]?=some y->y.cells[j]?=some p->∃v,news[i*sz+j]?=some v/\Rep w (ab C L h) p v):=by
  intro b o hc
  have z:∀q,q<ys.length*sz->∃v,w.cell? ⟨b,o+q,none⟩=some v/\v.oneCell'=true:=by
   intro q hq;have D:0<sz:=Nat.pos_of_ne_zero (λH=>by subst H;simp at hq);have hi:q/sz<ys.length:=Nat.div_lt_of_lt_mul (by rw[Nat.mul_comm];exact hq);have f:q%sz<sz:=Nat.mod_lt _ D;have d:=g _ (Zd hi)
   have F:q%sz<ys[q/sz].cells.length:=by omega
   obtain⟨v,m,l⟩:=hc (q/sz) ys[q/sz] (q%sz) _ (an hi) (an F);refine⟨v,?_,uX l (L4.1 d.2 _ (Zd F))⟩;rw[show q/sz*sz+q%sz=q from by rw[Nat.mul_comm];exact Nat.div_add_mod q sz]at m;exact m
  refine⟨(List.range (ys.length*sz)).map λq=>(w.cell? ⟨b,o+q,none⟩).getD undef,by simp,?_,?_,?_⟩
  .intro j v f
   rw[YS]at f;by_cases G:j<ys.length*sz
   .rw[List.getElem?_range G]at f
    obtain⟨X,s,_⟩:=z j G;simp[s]at f;rw[s,f]
   .rw[Y2 (by simp;omega)]at f;cases f
  .intro v m
   obtain⟨q,hq,rfl⟩:=Zg.1 m;obtain⟨X,s,V⟩:=z q (Zw.1 hq);simpa[s]using V
  .intro i y j p d f
   obtain⟨v,m,l⟩:=hc i y j p d f;refine⟨v,?_,l⟩;have hi:i<ys.length:=(th.1 d).1
   have S:j<sz:=by rw[<-(g y (An d)).1];exact(th.1 f).1
   have:(i+1)*sz<=ys.length*sz:=Ze _ hi;rw[Zz]at this;rw[YS,List.getElem?_range (by omega)];simp[m]
 cases x with
 |pv p=>
  cases P with
  |pv l=>
  cases p with
  |sl Y=>
   simp only[gq,YV]at e;subst e
   cases l with
   |sl0 a c=>exact⟨a,c,rfl,λ_=>rfl,(λh=>by simp at h)⟩
   |sl _ b o c E uu N D hc l=>
    refine⟨_,c,rfl,(λh=>by cases h),λH=>⟨b,o,rfl,mk b o ?_⟩⟩;intro i y j p d f
    have:E=sz:=by rw[<-D i y d];exact(g y (An d)).1
    subst this;exact⟨_,(hc i y j p d f).1,l i y j p d f⟩
  |val v=>
   simp only[gq]at e;split at e
   .rename_i m
    injection e with e;subst e;rw[aJ l,kR m];exact⟨none,0,rfl,λ_=>rfl,(λh=>by simp at h)⟩
   .cases e
  |_=>simp[gq]at e
 |arr k n=>
  simp only[gq]at e;split at e
  .rename_i Z E xs fz T
   split at e
   .rename_i hn
    injection e with e;subst e;have B:=hs _ _ T
    cases P with
    |arr r U W=>
     rw[B]at r;injection r with r;injection r with a1 a2 a3 a4;subst a1;subst a2;subst a3;subst a4;rw[W hn];rcases o6 O B with⟨I,M⟩|⟨I,_,_,arr,Q,_,R⟩
     .subst M;subst hn
      exact⟨none,0,by simp[Loc.slice,I],λ_=>rfl,(λh=>by simp at h)⟩
     .refine⟨some ⟨(L k).b,0,none⟩,(L k).cap,by simp[Loc.slice,I,hn],(λh=>by cases h),λH=>⟨(L k).b,0,rfl,mk _ _ ?_⟩⟩
      intro i y j p d f
      have K:E=sz:=by rw[<-(O.bl k _ B).2.2.1 y (An d)];exact(g y (An d)).1
      subst K;obtain⟨v,m,l⟩:=R i y j p d f;exact⟨v,by rw[gc Q,ZS];exact m,l⟩
   .cases e
  .cases e
 |ptr=>simp[gq]at e
 |eptr=>simp[gq]at e
 |agg=>simp[gq]at e
 |fn=>simp[gq]at e
 |tup=>simp[gq]at e
 |ext=>simp[gq]at e
 |undef=>simp[gq]at e
end
theorem zQ{b:Blk}(a:h k=some b):av h k (some b)=h:=by
 funext n;unfold av;split
 all_goals grind
theorem dK(f:az P t=some ti){a:Nat}{z:Option Value}(g:ti.kind=.slice e sz a z):
 P.underlying t=some (.slice e)/\∃j,P.info? e=some j/\j.size=sz/\j.bytes=a/\j.zero=z:=by
 obtain⟨i,d,hi,hd,c,_,b⟩:=gJ f
 grind
theorem zg{e:TypeId}{j:TypeInfo}(f:P.underlying t=some (.slice e))(d:P.info? e=some j)(B:Option Addr)(n cap:Nat)(hn:n<=cap)(A:Option Addr)(c:Nat):
 (Builtin.append_ #[t,t] ty #[.slice B n cap,.slice A 0 c]).run P w=.ok (.slice B n cap) w:=by
 have hf:(Builtin.firstCells j.size 0 (.slice A 0 c)).run P w=.ok #[] w:=by
  cases A with
  |none=>rfl
  |some a=>simp only[Builtin.firstCells,yA4];rfl
 cases B with
 |none=>simp[Builtin.append_,run_underlying f,sizeOf,typeInfo,d,Builtin.lenOf,hn,hf]
 |some b=>simp[Builtin.append_,run_underlying f,sizeOf,typeInfo,d,Builtin.lenOf,hn,hf,storeCells]
theorem La{ys:List PV}{a news:List Value}(g:a.length=xs.length*sz)(l:∀x∈xs,x.cells.length=sz)(m:∀y∈ys,y.cells.length=sz)
 (o:∀(i:Nat) x(j:Nat) p,xs[i]?=some x->x.cells[j]?=some p->∃u,a[i*sz+j]?=some u/\Rep w M p u)
 (hn:∀(i:Nat) x(j:Nat) p,ys[i]?=some x->x.cells[j]?=some p->∃u,news[i*sz+j]?=some u/\Rep w M p u)
 (i:Nat)(x:PV)(j:Nat)(p:PV)(d:(xs++ys)[i]?=some x)(e:x.cells[j]?=some p):∃u,(a++news)[i*sz+j]?=some u/\Rep w M p u/\i*sz+j<(xs.length+ys.length)*sz:=by
 have f:j<sz:=by
  grind
 have b:i<xs.length+ys.length:=by have:=(th.1 d).1;simpa using this
 have c:i*sz+j<(xs.length+ys.length)*sz:=by
  have:(i+1)*sz<=(xs.length+ys.length)*sz:=Ze _ b
  grind
 by_cases hi:i<xs.length
 .grind
 .rw[YX (by omega)]at d
  obtain⟨u,q,k⟩:=hn _ x j p d e;refine⟨u,?_,k,c⟩
  have n:i*sz=xs.length*sz+(i-xs.length)*sz:=by rw[<-Nat.add_mul];congr 1;omega
  grind
section
variable {C:Cx} {L:Nat->Loc} {h1 h:Hp} {w:World}
theorem B6(S:MemL C L h w)(hs:∀k b,h1 k=some b->h k=some b)(ht:az C.P t=some ti){d:Option Nat}(M:∀q,d=some q->h1 q=h q/\q<2000000)
 {s x:AV}{us ux:Value}(b5:RepA w (ab C L h) L h s us)(hx:RepA w (ab C L h) L h x ux){v:AV}{W:List (Nat×Blk)}(e:uR ti d s x h1=some (v,W)):
 ∃r w' L',(Builtin.append_ #[t,t] ty #[us,ux]).run C.P w=.ok r w'/\aF C L h w L' (ag h W) w'/\RepA w' (ab C L' (ag h W)) L' (ag h W) v r:=by
 unfold uR at e;split at e
 .rename_i et cm ca z aj
  obtain⟨I,a,hj,rfl,rfl,hz⟩:=dK ht aj;split at e
  .cases e
  .rename_i f cj
   split at e
   .rename_i ad
    obtain⟨c1,c2,c3⟩:=ad
    have Y:∀y∈f,y.cells.length=a.size:=by
     intro y hy;have:=L4.1 c3 y hy;simp[rH]at this;exact this.1
    obtain⟨A,c,rfl,cn,hA⟩:=tL S hs hx cj c3;split at e
    .rename_i k n
     split at e
     .rename_i J sz xs fz hk
      split at e
      .rename_i hc
       obtain⟨ah,hn,rfl,rfl,K,cb⟩:=hc;injection e with e;injection e with e1 e2;subst e1;subst e2;have E:=hs _ _ hk;rw[j7]
       have b9:us=(L k).slice n:=by
        cases b5 with
        |arr ah cr H=>
         grind
       subst b9;obtain⟨g1,g2,g3,g4,g5⟩:=S.bl k _ E;by_cases a8:f.length=0
       .have bq:f=[]:=Zn a8
        subst bq
        have cf:∃B cap,(L k).slice n=.slice B n cap/\n<=cap:=by
         rcases o6 S E with⟨V,a7⟩|⟨V,a1,_⟩
         .subst a7;subst hn;exact⟨none,0,by simp[Loc.slice,V],Y0 _⟩
         .exact⟨_,_,by simp[Loc.slice,V];exact⟨rfl,rfl⟩,by omega⟩
        obtain⟨B,cap,hB,cc⟩:=cf;refine⟨(L k).slice n,w,L,by rw[hB];exact zg I hj B n cap cc A c,?_,?_⟩
        .rw[yAJ,zQ E];exact aF.refl S
        .rw[yAJ,zQ E,yAI,yAP]
         omega
       .obtain⟨b,o,rfl,news,n1,n2,n3,n4⟩:=hA (by omega)
        have m:∀j u,news[j]?=some u->w.cell? ((⟨b,o,none⟩:Addr).add j)=some u:=λj u H=>by rw[fo];exact n2 j u H
        rcases o6 S E with⟨V,a7⟩|⟨V,a1,a2,arr,a3,a4,a5⟩
        .
         subst a7;simp only[yAI]at hn;subst hn
         have a6:(L k).slice 0=.slice none 0 0:=by simp[Loc.slice,V]
         rw[a6];have D:=run_append_nil (P:=C.P) w t ty J a z I hj hz ⟨b,o,none⟩ f.length c news n1 m (by omega) (by omega) (by rw[ZS]at K;omega);have F:Ext (λ_=>False) w (w.drew.alloc (.cells (news.toArray++Builtin.zeroCells z.cells (grownCap w f.length 0 J-f.length)) J)):=(Ext.drew _ w).trans (Ext.alloc _ _ _) (λ_ _ h=>h);have X:=grownCap_ge w f.length 0 J;have N:=grownCap_le_maxLen w f.length 0 J (by simp only[maxLen];omega)
         have ar:=S.move (xs':=[]++f) (l':=⟨w.heap.size,grownCap w f.length 0 J,false⟩) E ah F ⟨rfl,Y0 _⟩ (by simp;omega) (by
          refine⟨c1,by simp at g2|-;omega,by simpa using Y,(λh=>by cases h),λ_=>⟨by simpa using X,N,_,j8 _ _,?_,?_⟩⟩
          .simp only[yAy,yAk,n1,size_zeroCells,c2]
           rw[<-Nat.add_mul];congr 1;omega
          .intro i x j p g G
           simp only[List.nil_append]at g;obtain⟨u,H,T⟩:=n4 i x j p g G;refine⟨u,?_,T.mono ((uj (q:=True) F (λ_=>Y0 _)).trans (Pres.sub (λZ o' h=>h.elim .inl (λh=>.inr ⟨trivial,h⟩))))⟩;rw[Zu (by have:=(th.1 H).1;simpa using this)]
           simpa using H)
         refine⟨_,_,_,D,ar,?_⟩;refine .arr (aE _ _ _) (by simp) (λ_=>?_);rw[aE];simp[Loc.slice]
        .have a6:(L k).slice n=.slice (some ⟨(L k).b,0,none⟩) n (L k).cap:=by simp[Loc.slice,V]
         rw[a6]
         have ck:n*a.size<=arr.size:=by rw[a4];exact Ze _ (by omega)
         have Q:(arr.toList.take (n*a.size)).length=xs.length*a.size:=by simp[hn];omega
         have b3:∀(i:Nat) x(j:Nat) p,xs[i]?=some x->x.cells[j]?=some p->∃u,(arr.toList.take (n*a.size))[i*a.size+j]?=some u/\Rep w (ab C L h) p u:=by
          intro i x j p g G;obtain⟨u,H,T⟩:=a5 i x j p g G;refine⟨u,?_,T⟩
          have cq:j<a.size:=by rw[<-g3 x (An g)];exact(th.1 G).1
          have cp:i<xs.length:=(th.1 g).1;have:(i+1)*a.size<=n*a.size:=Ze _ (by omega)
          grind
         have R:=La Q g3 Y b3 n4;by_cases U:n+f.length<=(L k).cap
         .have ak:(n+f.length)*a.size<=arr.size:=by rw[a4];exact Ze _ U
          rw[Zz]at ak;have D:=run_append_room (P:=C.P) w t ty J a I hj (L k).b n (L k).cap arr a3 ⟨b,o,none⟩ f.length c news n1 m n3 U (by omega);refine⟨_,_,L,D,?_,?_⟩
          .have hw:∀Z,Z<w.heap.size->((Blk.row J a.size xs fz).live (L k)->Z≠(L k).b)->(w.setRow (L k).b (arr.toList.take (n*a.size)++news++arr.toList.drop (n*a.size+news.length)).toArray).heap[Z]?=w.heap[Z]?:=
            λZ _ hb=>setRow_other w _ Z _ (hb V)
           have ch:∀q,q<n*a.size->(arr.toList.take (n*a.size)++news++arr.toList.drop (n*a.size+news.length))[q]?=arr[q]?:=by
            grind
           have hpr:∀o v,(Blk.row J a.size xs fz).live (L k)->(Blk.row J a.size xs fz).frz o->w.cell? ⟨(L k).b,o,none⟩=some v->
            (w.setRow (L k).b (arr.toList.take (n*a.size)++news++arr.toList.drop (n*a.size+news.length)).toArray).cell? ⟨(L k).b,o,none⟩=some v:=by
            intro q v _ hf hc;simp only[Blk.frz]at hf;have:fz*a.size<=n*a.size:=Ze _ (by omega);rw[cell_setRow_same w _ q arr _ _ _ a3,Z7,ch q (by omega),<-gc a3];exact hc
           have b2:dg (.row J a.size xs fz) (L k) (.row J a.size (xs++f) fz) (L k):=⟨rfl,rfl,by simp,λ_=>rfl⟩;have cg:=S.touch_pk (blk':=.row J a.size (xs++f) fz) E hw hpr (λo hf=>hf) b2 Z8;refine S.touch E hw (by simp) rfl rfl rfl hpr (λo hf=>hf) b2 Z8 (by have h9:=S.own k _ E;exact h9) ?_;refine⟨g1,by simp;omega,?_,(λhn=>by rw[V]at hn;cases hn),λ_=>⟨by simp;omega,a2,_,setRow_heap w _ arr _ _ _ a3,?_,?_⟩⟩
           .grind
           .grind
           .intro i x j p g G
            obtain⟨u,H,T,cd⟩:=R i x j p g G;refine⟨u,?_,T.mono cg.1⟩
            grind
          .refine .arr (aE _ _ _) (by simp;omega) (λ_=>?_)
           simp[Loc.slice,V]
         .have D:=run_append_grow (P:=C.P) w t ty J a z I hj hz ⟨(L k).b,0,none⟩ n (L k).cap (arr.toList.take (n*a.size)) (by rw[Q,hn])
           (λq u H=>by
             rw[fo,gc a3,ZS];rw[Zj]at H;split at H
             .simpa using H
             .cases H)
           ⟨b,o,none⟩ f.length c news n1 m (by omega) (by omega) (growslice_fits (by omega) K)
          have F:Ext (λ_=>False) w (w.drew.alloc (.cells ((arr.toList.take (n*a.size)).toArray++news.toArray++Builtin.zeroCells z.cells (grownCap w (n+f.length) (L k).cap J-(n+f.length))) J)):=
           (Ext.drew _ w).trans (Ext.alloc _ _ _) (λ_ _ h=>h)
          have X:=grownCap_ge w (n+f.length) (L k).cap J;have N:=grownCap_le_maxLen w (n+f.length) (L k).cap J (by simp only[maxLen];omega)
          have ar:=S.move (xs':=xs++f) (l':=⟨w.heap.size,grownCap w (n+f.length) (L k).cap J,false⟩) E ah F ⟨rfl,Y0 _⟩ (by simp;omega) (by
           refine⟨c1,by simp;omega,?_,(λh=>by cases h),λ_=>⟨by simp;omega,N,_,j8 _ _,?_,?_⟩⟩
           .intro x F
            rcases Y7.1 F with h'|h'
            .exact g3 x h'
            .exact Y x h'
           .simp only[yAy,yAk,Q,n1,size_zeroCells,c2,hn]
            rw[<-Nat.add_mul,<-Nat.add_mul];congr 1;omega
           .intro i x j p g G
            obtain⟨u,H,T,cd⟩:=R i x j p g G;refine⟨u,?_,T.mono ((uj (q:=True) F (λ_=>Y0 _)).trans (Pres.sub (λZ o' h=>h.elim .inl (λh=>.inr ⟨trivial,h⟩))))⟩;have b7:=(th.1 H).1
            have b8:i*a.size+j<((arr.toList.take (n*a.size)).toArray++news.toArray).size:=by simp only[yAy,yAk];simp only[Zb]at b7;exact b7
            rw[Zu b8,<-Array.getElem?_toList,Array.toList_append]
            exact H)
          refine⟨_,_,_,D,ar,?_⟩;refine .arr (aE _ _ _) (by simp;omega) (λ_=>?_);rw[aE];simp[Loc.slice]
      .cases e
     .cases e
    .rename_i vv
     split at e
     .rename_i hv
      split at e
      .rename_i q
       split at e
       .rename_i hc
        obtain⟨hq,K,cb⟩:=hc;injection e with e;injection e with e1 e2;subst e1;subst e2;rw[j7]
        have b4:h q=none:=by rw[<-(M q rfl).1];simpa using hq
        cases b5 with
        |pv T=>
        rw[aJ T,kR hv];by_cases a8:f.length=0
        .have bq:f=[]:=Zn a8
         subst bq
         have O:=lA (e:=et) (sz:=a.size) (xs:=[]) (l:=⟨0,0,true⟩) S (Ext.refl _ w) b4 (M q rfl).2 (λh=>by cases h)
          ⟨c1,ZG _,by simp,λ_=>rfl,(λh=>by cases h)⟩
         exact⟨_,_,_,zg I hj none 0 0 (Y0 _) A c,O.1,O.2⟩
        .obtain⟨b,o,rfl,news,n1,n2,n3,n4⟩:=hA (by omega)
         have m:∀j u,news[j]?=some u->w.cell? ((⟨b,o,none⟩:Addr).add j)=some u:=λj u H=>by rw[fo];exact n2 j u H
         have D:=run_append_nil (P:=C.P) w t ty et a z I hj hz ⟨b,o,none⟩ f.length c news n1 m (by omega) (by omega) (by omega);have F:Ext (λ_=>False) w (w.drew.alloc (.cells (news.toArray++Builtin.zeroCells z.cells (grownCap w f.length 0 et-f.length)) et)):=(Ext.drew _ w).trans (Ext.alloc _ _ _) (λ_ _ h=>h);have X:=grownCap_ge w f.length 0 et;have N:=grownCap_le_maxLen w f.length 0 et (by simp only[maxLen];omega)
         have O:=lA (e:=et) (sz:=a.size) (xs:=f) (l:=⟨w.heap.size,grownCap w f.length 0 et,false⟩) S F b4 (M q rfl).2 (λ_=>Y0 _) (by
          refine⟨c1,ZG _,Y,(λh=>by cases h),λ_=>⟨X,N,_,j8 _ _,?_,?_⟩⟩
          .simp only[yAy,yAk,n1,size_zeroCells,c2]
           rw[<-Nat.add_mul];congr 1;omega
          .intro i x j p g G
           obtain⟨u,H,T⟩:=n4 i x j p g G;refine⟨u,?_,T.mono (uj F (λ_=>Y0 _))⟩;rw[Zu (by have:=(th.1 H).1;simpa using this)]
           simpa using H)
         exact⟨_,_,_,D,O.1,O.2⟩
       .cases e
      .cases e
     .cases e
    .cases e
   .cases e
 .cases e
theorem Et(I:MemL C L h w)(hs:∀k b,h1 k=some b->h k=some b){t':TypeId}(ht:az C.P t=some ti)
 {s x:AV}{us ux:Value}(ak:RepA w (ab C L h) L h s us)(hx:RepA w (ab C L h) L h x ux){v:AV}{W:List (Nat×Blk)}(e:AD ti s x h1=some (v,W)):
 ∃r w',(Builtin.copy_ #[t,t'] ty #[us,ux]).run C.P w=.ok r w'/\aF C L h w L (ag h W) w'/\RepA w' (ab C L (ag h W)) L (ag h W) v r:=by
 unfold AD at e;split at e
 .rename_i e1 b4 U z k n H
  obtain⟨D,d,X,rfl,rfl,hz⟩:=dK ht H;split at e
  .rename_i G sz xs g hk a8
   split at e
   .rename_i hc
    obtain⟨hn,rfl,c3⟩:=hc;injection e with e;injection e with ea eb;subst ea;subst eb;rw[j7];have f:=hs _ _ hk
    have S:us=(L k).slice n:=by
     cases ak with
     |arr E b9 hu=>
      rw[f]at E;injection E with E;injection E with a1 a2 T a4;subst T;exact hu hn
    subst S
    have a7:∀y∈g,y.cells.length=d.size:=by
     intro y hy;have:=L4.1 c3 y hy;simp[rH]at this;exact this.1
    obtain⟨A,c,rfl,b5,hA⟩:=tL I hs hx a8 c3;obtain⟨g1,g2,g3,g4,g5⟩:=I.bl k _ f;by_cases l:Nat.min g.length n=0
    .
     have bq:(g.take (Nat.min g.length n)++xs.drop (Nat.min g.length n))=xs:=by rw[l];simp
     rw[bq,zQ f,l];refine⟨goInt 0,w,?_,aF.refl I,.pv (.val _)⟩
     have hf:(Builtin.firstCells d.size 0 (.slice A g.length c)).run C.P w=.ok #[] w:=by
      cases A with
      |none=>rfl
      |some a=>simp only[Builtin.firstCells,yA4];rfl
     unfold Loc.slice
     cases b3:(L k).isNil with
     |true=>
      simp[Builtin.copy_,run_underlying D,Builtin.lenOf,sizeOf,typeInfo,X,hf,goInt]
     |false=>simp[Builtin.copy_,run_underlying D,Builtin.lenOf,sizeOf,typeInfo,X,l,hf,storeCells,goInt]
    .have F:0<Nat.min g.length n:=Nat.pos_of_ne_zero l
     have a6:0<g.length:=ZJ F (Nat.min_le_left _ _);have ca:0<n:=ZJ F (Nat.min_le_right _ _);obtain⟨b,o,rfl,news,n1,n2,n3,n4⟩:=hA a6;rcases o6 I f with⟨V,ar⟩|⟨V,a1,a2,arr,T,a4,a5⟩
     .subst ar;simp at hn;omega
     .have aj:(L k).slice n=.slice (some ⟨(L k).b,0,none⟩) n (L k).cap:=by simp[Loc.slice,V]
      rw[aj];generalize J:Nat.min g.length n=m at *
      have Z:m<=g.length:=by rw[<-J];exact Nat.min_le_left _ _
      have b8:m<=n:=by rw[<-J];exact Nat.min_le_right _ _
      have ah:m*d.size<=news.length:=by rw[n1];exact Ze _ Z
      have ad:m*d.size<=arr.size:=by rw[a4];exact Ze _ (by omega)
      have K:(news.take (m*d.size)).length=m*d.size:=by simp;omega
      have hf:(Builtin.firstCells d.size m (.slice (some ⟨b,o,none⟩) g.length c)).run C.P w=.ok (news.take (m*d.size)).toArray w:=by
       have:=run_loadCells_list (P:=C.P) w ⟨b,o,none⟩ (news.take (m*d.size)) (λq v hq=>by
        rw[fo];rw[Zj]at hq;split at hq
        .exact n2 q v hq
        .cases hq)
       rw[K]at this;simpa[Builtin.firstCells]using this
      have R:=run_storeCells_at C.P (L k).b 0 G (news.take (m*d.size)) 0 arr w T (by rw[K];omega) (λv hv=>n3 v (yAA hv));simp only[ZS,List.take_zero,List.nil_append,K]at R;refine⟨goInt m,w.setRow (L k).b (news.take (m*d.size)++arr.toList.drop (m*d.size)).toArray,?_,?_,?_⟩
      .simp only[Builtin.copy_,Z7,Z4,yAN,Sem.run_bind,run_underlying D,Result.andThen_ok,Builtin.lenOf,Sem.run_pure,sizeOf,typeInfo,program,Sem.run,X,J,hf,R]
      .have hw:∀N,N<w.heap.size->((Blk.row G d.size xs 0).live (L k)->N≠(L k).b)->(w.setRow (L k).b (news.take (m*d.size)++arr.toList.drop (m*d.size)).toArray).heap[N]?=w.heap[N]?:=
        λN _ hb=>setRow_other w _ N _ (hb V)
       have b2:(g.take m++xs.drop m).length=xs.length:=by simp;omega
       have O:dg (.row G d.size xs 0) (L k) (.row G d.size (g.take m++xs.drop m) 0) (L k):=⟨rfl,rfl,by omega,λ_=>rfl⟩
       have hpr:∀o v,(Blk.row G d.size xs 0).live (L k)->(Blk.row G d.size xs 0).frz o->w.cell? ⟨(L k).b,o,none⟩=some v->
        (w.setRow (L k).b (news.take (m*d.size)++arr.toList.drop (m*d.size)).toArray).cell? ⟨(L k).b,o,none⟩=some v:=by
        intro q v _ hf _;simp only[Blk.frz,yA4]at hf;omega
       have Q:=I.touch_pk (blk':=.row G d.size (g.take m++xs.drop m) 0) f hw hpr (λo hf=>hf) O Z8;refine I.touch f hw (by simp) rfl rfl rfl hpr (λo hf=>hf) O Z8 (by have h9:=I.own k _ f;exact h9) ?_;refine⟨g1,ZG _,?_,(λhn=>by rw[V]at hn;cases hn),λ_=>⟨by omega,a2,_,setRow_heap w _ arr _ _ _ T,?_,?_⟩⟩
       .grind
       .grind
       .intro i x j p B M
        have Y:∀y:PV,y.cells.length=d.size->x=y->j<d.size:=λy hy e=>by subst e;rw[<-hy];exact(th.1 M).1
        by_cases hi:i<m
        .rw[YT (by simp;omega),Zj,YY hi]at B
         obtain⟨u,hu,hr⟩:=n4 i x j p B M;have b7:=Y x (a7 x (An B)) rfl;have:(i+1)*d.size<=m*d.size:=Ze _ hi;rw[Zz]at this;refine⟨u,?_,hr.mono Q.1⟩
         grind
        .rw[YX (by simp;omega),ZO]at B
         rw[show m+(i-(g.take m).length)=i from by simp;omega]at B;obtain⟨u,hu,hr⟩:=a5 i x j p B M;have:m*d.size<=i*d.size:=Ze _ (by omega);refine⟨u,?_,hr.mono Q.1⟩
         grind
      .exact .pv (.val _)
   .cases e
  .cases e
 .cases e
end
end Go.Ab
