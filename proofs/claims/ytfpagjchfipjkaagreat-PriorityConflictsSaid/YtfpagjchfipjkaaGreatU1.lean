/- The contracts and facts that the laws of this seat need, in one text (AbA). -/
import Derived.WalkKit
import Derived.Defers
import Derived.Recover
import Derived.Maps.AppendAt
set_option linter.all false
set_option maxRecDepth 10000
set_option maxHeartbeats 16000000
namespace Go.Ab
open IntKind (i64)
abbrev an:=@List.getElem?_eq_getElem
abbrev th:=@List.getElem?_eq_some_iff
abbrev up:=@Bool.and_eq_true
abbrev An:=@List.mem_of_getElem?
abbrev Is:=@decide_eq_true_eq
abbrev II:=@Option.map_eq_some_iff
abbrev L4:=@List.all_eq_true
abbrev Y6:=@if_neg
abbrev Y7:=@List.getElem?_map
abbrev Y8:=@List.getElem?_append_left
abbrev Y9:=@Bool.false_eq_true
abbrev Za:=@Option.some.injEq
abbrev Zc:=@List.getElem?_append_right
abbrev Zd:=@if_pos
abbrev Ze:=@Array.getD_eq_getD_getElem?
abbrev Zf:=@Nat.le_refl
abbrev Zg:=@List.getElem?_set
abbrev Zh:=@List.getElem?_eq_none
abbrev Zi:=@Option.bind_some
abbrev Zj:=@decide_eq_false_iff_not
abbrev Zk:=@if_false
abbrev Zl:=@Prod.mk.injEq
abbrev Zm:=@List.mem_append
abbrev Zn:=@Option.getD_some
abbrev Zo:=@Int.toNat_natCast
abbrev Zp:=@if_true
abbrev Zq:=@List.length_append
abbrev Zr:=@Int.tdiv_eq_ediv_of_nonneg
abbrev Zs:=@List.getElem_mem
abbrev Zt:=@Nat.mul_le_mul_right
abbrev Zu:=@Bool.true_and
abbrev Zv:=@List.mem_map
abbrev Zw:=@List.take_of_length_le
abbrev Zx:=@List.mem_cons
abbrev Zy:=@List.getElem?_take
abbrev Zz:=@List.getElem?_replicate
abbrev ZA:=@Option.isSome_iff_exists
abbrev ZB:=@List.length_map
abbrev ZC:=@List.eq_nil_of_length_eq_zero
abbrev ZD:=@List.not_mem_nil
abbrev ZE:=@Array.getElem?_eq_some_iff
abbrev ZF:=@List.getElem?_of_mem
abbrev ZG:=@List.mem_singleton
abbrev ZH:=@decide_eq_true
abbrev ZI:=@Bool.false_and
abbrev ZJ:=@Array.getElem?_append_left
abbrev ZK:=@Bool.not_eq_true'
abbrev ZL:=@List.mem_range
abbrev ZM:=@List.ext_getElem?
abbrev ZN:=@Array.getElem?_eq_getElem
abbrev ZO:=@Nat.add_mul
abbrev ZP:=@List.length_take
abbrev ZQ:=@Option.some.inj
abbrev ZR:=@List.take_succ_eq_append_getElem
abbrev ZS:=@Option.map_some
abbrev ZT:=@List.mem_or_eq_of_mem_set
abbrev ZU:=@Array.getElem?_toList
abbrev ZV:=@Nat.zero_le
abbrev ZW:=@beq_iff_eq
abbrev ZX:=@Bool.or_eq_true
abbrev ZY:=@Nat.lt_of_lt_of_le
abbrev ZZ:=@Array.getElem?_setIfInBounds_ne
abbrev Z3:=@List.getElem?_drop
abbrev Z4:=@or_false
abbrev Z5:=@List.take_append_drop
abbrev Z6:=@List.length_singleton
abbrev Z7:=@Nat.zero_add
abbrev Z8:=@Int.mul_nonneg
abbrev Z9:=@decide_eq_false
abbrev yAa:=@List.mem_filter
abbrev yAb:=@beq_eq_false_iff_ne
abbrev yAc:=@Array.length_toList
abbrev yAd:=@List.append_assoc
abbrev yAe:=@Int.mul_le_mul_of_nonneg_left
abbrev yAf:=@List.map_cons
abbrev yAg:=@Int.emod_nonneg
abbrev yAh:=@List.find?_eq_none
abbrev yAi:=@Int.emod_lt_of_pos
abbrev yAj:=@List.getElem?_cons_zero
abbrev yAk:=@Bool.or_eq_false_iff
abbrev yAl:=@List.mem_iff_getElem?
abbrev yAm:=@List.getElem?_toArray
abbrev yAn:=@Iff.rfl
abbrev yAo:=@Bool.and_self
abbrev yAp:=@Nat.mul_le_mul
abbrev yAq:=@List.mem_iff_getElem
abbrev yAr:=@Bool.and_false
abbrev yAs:=@List.range_succ
abbrev yAt:=@List.length_set
abbrev yAu:=@List.getElem_cons_drop
abbrev yAv:=@List.foldl_cons
abbrev yAw:=@not_true_eq_false
abbrev yAx:=@congrArg
abbrev yAy:=@List.size_toArray
abbrev yAz:=@List.map_set
abbrev yAA:=@List.all_eq_false
abbrev yAB:=@Nat.add_assoc
abbrev yAC:=@Bool.not_true
abbrev yAD:=@Bool.and_true
abbrev yAE:=@List.length_cons
abbrev yAF:=@Nat.mul_one
abbrev yAG:=@Nat.le_trans
abbrev yAH:=@List.filter_append
abbrev yAI:=@Int.tmod_lt_of_pos
abbrev yAJ:=@List.find?_some
abbrev yAK:=@Nat.lt_trichotomy
abbrev yAL:=@List.any_eq_false
abbrev yAM:=@Array.size_append
abbrev yAN:=@decide_true
abbrev yAO:=@List.mem_of_mem_take
abbrev yAP:=@List.mem_append_left
abbrev yAQ:=@List.getD_eq_getElem?_getD
abbrev yAR:=@Nat.sub_self
abbrev yAS:=@List.take_length
abbrev yAT:=@List.any_eq_true
abbrev yAU:=@Array.getElem?_replicate
abbrev yAV:=@List.map_append
abbrev yAW:=@List.length_nil
abbrev yAX:=@List.append_nil
abbrev yAY:=@Int.ediv_nonneg
abbrev yAZ:=@Int.mul_nonneg_of_nonpos_of_nonpos
abbrev yA0:=@Int.lt_tmod_of_pos
abbrev yA1:=@List.getElem?_cons_succ
abbrev yA2:=@List.findIdx?_eq_some_iff_getElem
abbrev yA3:=@Nat.add_zero
abbrev yA4:=@List.take_add_one
abbrev yA5:=@List.foldl_append
abbrev yA6:=@List.drop_eq_nil_of_le
abbrev yA7:=@Int.le_total
abbrev yA8:=@Int.le_ediv_iff_mul_le
abbrev yA9:=@Int.ediv_lt_iff_lt_mul
abbrev yBa:=@Nat.le_div_iff_mul_le
abbrev yBb:=@List.length_filter_le
abbrev yBc:=@Int.mul_tdiv_add_tmod
abbrev yBd:=@List.find?_eq_some_iff_getElem
abbrev yBe:=@List.mem_cons_of_mem
abbrev yBf:=@Int.neg_mul
abbrev yBh:=@List.nodup_cons
abbrev yBi:=@Nat.zero_mul
abbrev yBj:=@Nat.pow_succ
abbrev yBk:=@List.map_nil
abbrev yBl:=@List.drop_zero
abbrev yBm:=@Int.tmod_eq_emod_of_nonneg
abbrev yBn:=@Int.mul_le_mul
abbrev yBo:=@Bool.not_false
abbrev yBp:=@List.drop_eq_getElem_cons
abbrev yBq:=@Int.ediv_le_self
end Go.Ab
namespace Go.Ab
open IntKind (i64)
inductive PV where
 |val(v:Value)
 |agg(cs:List PV)
 |sl(xs:List PV)
 |rptr(x:PV)(off:Nat)
 |fn(f:Fn)(first caps:List PV)
 |tup(vs:List PV)
 |ifc(t:TypeId)(x:PV)
 |hd(n:Nat)
 |mp(kd:IntKind)(n:Nat)(es:List (List Int×Value))
 deriving Inhabited
variable {M M':Nat->Nat->Prop}{P:Program}{S:Nat->Prop}{b d e fz k n o off sz:Nat}{es:List (List Int×Value)}{g:Option (Nat×Bool)}{ops:Array Oper}{p:PV}{ps xs:List PV}{t ty:TypeId}{u v:Value}{us vs:List Value}{w w':World}{α:Type}
def kG(kd:IntKind)(a:List Int):Value:=.agg (a.map (Value.int kd)).toArray
def DN(kd:IntKind)(n:Nat)(es:List (List Int×Value))(arr:Array MapEntry):Prop:=
 arr.toList.map (λe=>(e.key,e.val))=es.map (λx=>(kG kd x.1,x.2))/\∀x∈es,x.1.length=n
def PV.cells:PV->List PV
 |.val v=>v.cells.toList.map .val
 |.agg cs=>cs
 |p=>[p]
inductive Rep(w:World)(M:Nat->Nat->Prop):PV->Value->Prop
 |val (v:Value):Rep w M (.val v) v
 |agg (cs:List PV) (vs:List Value) (hl:cs.length=vs.length)
   (h:∀(i:Nat) p u,cs[i]?=some p->vs[i]?=some u->Rep w M p u):Rep w M (.agg cs) (.agg vs.toArray)
 |sl0 (a:Option Addr) (c:Nat):Rep w M (.sl []) (.slice a 0 c)
 |sl (xs:List PV) (b o c sz:Nat) (u:Nat->Nat->Value) (hcap:xs.length<=c)
   (hs:∀(i:Nat) x,xs[i]?=some x->x.cells.length=sz)
   (hc:∀(i:Nat) x(j:Nat) p,xs[i]?=some x->x.cells[j]?=some p->w.cell? ⟨b,o+(i*sz+j),none⟩=some (u i j)/\¬M b (o+(i*sz+j)))
   (hr:∀(i:Nat) x(j:Nat) p,xs[i]?=some x->x.cells[j]?=some p->Rep w M p (u i j)):Rep w M (.sl xs) (.slice (some ⟨b,o,none⟩) xs.length c)
 |rptr (x:PV) (b o off:Nat) (u:Nat->Value)
   (hc:∀(j:Nat) p,x.cells[j]?=some p->w.cell? ⟨b,o+j,none⟩=some (u j)/\¬M b (o+j))
   (hr:∀(j:Nat) p,x.cells[j]?=some p->Rep w M p (u j)):Rep w M (.rptr x off) (.pointer (some ⟨b,o+off,none⟩))
 |fn (f:Fn) (first caps:List PV) (vs us:List Value) (hl:first.length=vs.length) (hk:caps.length=us.length)
   (h:∀(i:Nat) p u,first[i]?=some p->vs[i]?=some u->Rep w M p u)
   (hh:∀(i:Nat) p u,caps[i]?=some p->us[i]?=some u->Rep w M p u):Rep w M (.fn f first caps) (.func f vs.toArray us.toArray)
 |tup (cs:List PV) (vs:List Value) (hl:cs.length=vs.length)
   (h:∀(i:Nat) p u,cs[i]?=some p->vs[i]?=some u->Rep w M p u):Rep w M (.tup cs) (.tuple vs.toArray)
 |ifc (t:TypeId) (x:PV) (v:Value) (h:Rep w M x v):Rep w M (.ifc t x) (.iface t v)
 |hd (n:Nat) (a:Option Addr) (c:Nat):Rep w M (.hd n) (.slice a n c)
 |mp (kd:IntKind) (n:Nat) (es:List (List Int×Value)) (b:Nat) (arr:Array MapEntry) (clock:Nat) (hb:w.heap[b]?=some (.map arr clock)) (hm:¬M b 0) (hes:DN kd n es arr):Rep w M (.mp kd n es) (.map (some b))
structure Pres(w:World)(M:Nat->Nat->Prop)(w':World)(M':Nat->Nat->Prop):Prop where
 cell:∀b o v,w.cell? ⟨b,o,none⟩=some v->¬M b o->w'.cell? ⟨b,o,none⟩=some v/\¬M' b o
 map:∀b arr c,w.heap[b]?=some (.map arr c)->¬M b 0->w'.heap[b]?=some (.map arr c)/\¬M' b 0
theorem Rep.mono(hp:Pres w M w' M')(h:Rep w M p u):Rep w' M' p u:=by
 induction h with
 |val v=>exact .val v
 |agg cs vs l _ ih=>exact .agg cs vs l ih
 |sl0 a c=>exact .sl0 a c
 |sl xs b o c sz u g A e _ ih=>exact .sl xs b o c sz u g A (λi x j p y k=>hp.cell _ _ _ (e i x j p y k).1 (e i x j p y k).2) ih
 |rptr x b o off u e _ ih=>exact .rptr x b o off u (λj p k=>hp.cell _ _ _ (e j p k).1 (e j p k).2) ih
 |fn f first d vs us l z _ _ ih q=>exact .fn f first d vs us l z ih q
 |tup cs vs l _ ih=>exact .tup cs vs l ih
 |ifc t x v _ ih=>exact .ifc t x v ih
 |hd n a c=>exact .hd n a c
 |mp B n es b arr clock r s m=>exact .mp B n es b arr clock (hp.map _ _ _ r s).1 (hp.map _ _ _ r s).2 m
theorem Pres.refl(w:World)(M:Nat->Nat->Prop):Pres w M w M:=⟨λ_ _ _ h a=>⟨h,a⟩,λ_ _ _ h a=>⟨h,a⟩⟩
theorem Pres.trans{e:World}{a:Nat->Nat->Prop}(h:Pres w M w' M')(h':Pres w' M' e a):Pres w M e a:=
 ⟨λb o v c d=>h'.cell b o v (h.cell b o v c d).1 (h.cell b o v c d).2,λb o v c d=>h'.map b o v (h.map b o v c d).1 (h.map b o v c d).2⟩
theorem Pres.sub(h:∀b o,M' b o->M b o):Pres w M w M':=⟨λ_ _ _ a c=>⟨a,λhn=>c (h _ _ hn)⟩,λ_ _ _ a c=>⟨a,λhn=>c (h _ _ hn)⟩⟩
def bp(w:World)(M:Nat->Nat->Prop)(ps:List PV)(us:List Value):Prop:=
 ps.length=us.length/\∀(i:Nat) p u,ps[i]?=some p->us[i]?=some u->Rep w M p u
theorem bp.nil:bp w M [] []:=⟨rfl,λi p u h=>by simp at h⟩
theorem bp.cons(h:Rep w M p u)(b:bp w M ps us):bp w M (p::ps) (u::us):=by
 refine⟨by simp[b.1],λi q v hq a=>?_⟩
 cases i with
 |zero=>simp at hq a;subst hq;subst a;exact h
 |succ i=>exact b.2 i q v (by simpa using hq) (by simpa using a)
theorem bp.cons_inv{p:PV}(h:bp w M (p::ps) us):∃u a,us=u::a/\Rep w M p u/\bp w M ps a:=by
 cases us with
 |nil=>exact absurd h.1 (by simp)
 |cons u a=>exact⟨u,a,rfl,h.2 0 p u rfl rfl,by have:=h.1;simpa using this,λi q v hq b=>h.2 (i+1) q v (by simpa using hq) (by simpa using b)⟩
theorem bp.nil_inv(h:bp w M [] us):us=[]:=by
 cases us with
 |nil=>rfl
 |cons u us=>exact absurd h.1 (by simp)
theorem bp.mono(hp:Pres w M w' M')(h:bp w M ps us):bp w' M' ps us:=
 ⟨h.1,λi p u a b=>(h.2 i p u a b).mono hp⟩
def cW:List PV->Option (List Value)
 |[]=>some []
 |.val v::r=>(cW r).map (v::·)
 |_::_=>none
def fE(cs:List PV):PV:=match cW cs with
 |some vs=>.val (.agg vs.toArray)
 |none=>.agg cs
theorem uI{w:World}{M:Nat->Nat->Prop}:∀{cs:List PV}{vs us:List Value},cW cs=some vs->bp w M cs us->us=vs
 |[],vs,us,h,a=>by simp[cW]at h;subst h;exact a.nil_inv
 |.val v::r,vs,us,h,a=>by
  simp only[cW,II]at h;obtain⟨e,h',rfl⟩:=h;obtain⟨u,d,rfl,c,b⟩:=a.cons_inv;cases c;rw[uI h' b]
 |.agg _::_,_,_,h,_=>by simp[cW]at h
 |.sl _::_,_,_,h,_=>by simp[cW]at h
 |.rptr _ _::_,_,_,h,_=>by simp[cW]at h
 |.fn _ _ _::_,_,_,h,_=>by simp[cW]at h
 |.tup _::_,_,_,h,_=>by simp[cW]at h
 |.ifc _ _::_,_,_,h,_=>by simp[cW]at h
 |.hd _::_,_,_,h,_=>by simp[cW]at h
 |.mp _ _ _::_,_,_,h,_=>by simp[cW]at h
theorem kH{cs:List PV}(h:bp w M cs us):Rep w M (fE cs) (.agg us.toArray):=by
 unfold fE;split
 .rename_i vs a;rw[uI a h];exact .val _
 .exact .agg cs us h.1 h.2
theorem Rep.cells(h:Rep w M p u):bp w M p.cells u.cells.toList:=by
 have one:∀{q:PV}{v:Value},Rep w M q v->bp w M [q] [v]:=λhq=>.cons hq .nil
 cases h with
 |val v=>
  refine⟨by simp[PV.cells],λi p u hp d=>?_⟩;simp only[PV.cells,Y7,II]at hp;obtain⟨E,s,rfl⟩:=hp;rw[s]at d;injection d with d;subst d;exact .val _
 |agg cs vs j m=>exact⟨by simpa[PV.cells,Value.cells]using j,λi p u hp d=>m i p u (by simpa[PV.cells]using hp) (by simpa[Value.cells]using d)⟩
 |sl0 a c=>exact one (.sl0 a c)
 |sl xs b o c sz u g C k r=>exact one (.sl xs b o c sz u g C k r)
 |rptr x b o off u k r=>exact one (.rptr x b o off u k r)
 |fn f first e vs us j A h1 y=>exact one (.fn f first e vs us j A h1 y)
 |tup cs vs j m=>exact one (.tup cs vs j m)
 |ifc t x v h=>exact one (.ifc t x v h)
 |hd n a c=>exact one (.hd n a c)
 |mp D n es b arr clock z B l=>exact one (.mp D n es b arr clock z B l)
inductive XV where
 |barr(k n c:Nat)
 |mp(k:Nat)
 |suf(k o n t:Nat)
 deriving Inhabited
def XV.key:XV->Nat
 |.barr k _ _=>k
 |.mp k=>k
 |.suf k _ _ _=>k
inductive AV where
 |pv(p:PV)
 |ptr(k off:Nat)
 |arr(k n:Nat)
 |eptr(k n i off:Nat)
 |agg(cs:List AV)
 |fn(f:Fn)(first caps:List AV)
 |tup(vs:List AV)
 |ext(x:XV)
 |undef
 deriving Inhabited
inductive Blk where
 |box(cs:List AV)(own fz:Bool)
 |row(e sz:Nat)(xs:List PV)(fz:Nat)
 |mp(kd:IntKind)(n:Nat)(es:List (List Int×Value))(fz:Bool)
 deriving Inhabited
structure Loc where
 b:Nat
 cap:Nat
 isNil:Bool
 deriving Inhabited
variable {L' L'':Nat->Loc}{W:List (Nat×Blk)}{blk:Blk}{cs:List AV}{l:Loc}{x:AV}
def Loc.slice(l:Loc)(n:Nat):Value:=if l.isNil then .slice none 0 0 else .slice (some ⟨l.b,0,none⟩) n l.cap
abbrev Hp:=Nat->Option Blk
inductive RepX(L:Nat->Loc)(h:Hp):XV->Value->Prop
 |barr {k n c:Nat} {cs:List AV} {own fz:Bool} (hc:n<=c) (hk:h k=some (.box cs own fz)):RepX L h (.barr k n c) (.slice (some ⟨(L k).b,0,none⟩) n c)
 |mp {k n:Nat} {kd:IntKind} {es:List (List Int×Value)} {fz:Bool} (hk:h k=some (.mp kd n es fz)):RepX L h (.mp k) (.map (some (L k).b))
 |suf {k o n t e sz fz:Nat} {xs:List PV} {u:Value} (hs:∃A m c,u=.slice A m c) (hk:h k=some (.row e sz xs fz)) (hn:o+n<=t) (ht:t<=xs.length)
   (hu:xs.length=t->∃A c,u=.slice A n c/\(((L k).isNil=false/\A=some ⟨(L k).b,o*sz,none⟩/\c+o=(L k).cap)\/(n=0/\c=0/\(o=0->(L k).isNil=true/\A=none)))):RepX L h (.suf k o n t) u
inductive RepA(w:World)(M:Nat->Nat->Prop)(L:Nat->Loc)(h:Hp):AV->Value->Prop
 |pv {p:PV} {u:Value} (hr:Rep w M p u):RepA w M L h (.pv p) u
 |ptr {k off:Nat} {cs:List AV} {own fz:Bool} (hk:h k=some (.box cs own fz)):RepA w M L h (.ptr k off) (.pointer (some ⟨(L k).b,off,none⟩))
 |arr {k n e sz fz:Nat} {xs:List PV} {u:Value} (hk:h k=some (.row e sz xs fz)) (hn:n<=xs.length) (hu:xs.length=n->u=(L k).slice n):RepA w M L h (.arr k n) u
 |eptr {k n i off e sz fz:Nat} {xs:List PV} {u:Value} (hk:h k=some (.row e sz xs fz)) (hn:n<=xs.length)
   (hu:xs.length=n->(L k).isNil=false/\u=.pointer (some ⟨(L k).b,i*sz+off,none⟩)):RepA w M L h (.eptr k n i off) u
 |agg (cs:List AV) (vs:List Value) (hl:cs.length=vs.length)
   (hh:∀(i:Nat) p u,cs[i]?=some p->vs[i]?=some u->RepA w M L h p u):RepA w M L h (.agg cs) (.agg vs.toArray)
 |fn (f:Fn) (first caps:List AV) (vs us:List Value) (hl:first.length=vs.length) (hk:caps.length=us.length)
   (h1:∀(i:Nat) p u,first[i]?=some p->vs[i]?=some u->RepA w M L h p u)
   (h2:∀(i:Nat) p u,caps[i]?=some p->us[i]?=some u->RepA w M L h p u):RepA w M L h (.fn f first caps) (.func f vs.toArray us.toArray)
 |tup (cs:List AV) (vs:List Value) (hl:cs.length=vs.length)
   (hh:∀(i:Nat) p u,cs[i]?=some p->vs[i]?=some u->RepA w M L h p u):RepA w M L h (.tup cs) (.tuple vs.toArray)
 |ext {x:XV} {u:Value} (hx:RepX L h x u):RepA w M L h (.ext x) u
 |undef (u:Value):RepA w M L h .undef u
variable {h h' h1:Hp}
def dh:Blk->Loc->Blk->Loc->Prop
 |.box _ _ _,l,.box _ _ _,a=>a.b=l.b
 |.row e sz xs _,l,.row g f c _,a=>g=e/\f=sz/\xs.length<=c.length/\(c.length=xs.length->a=l)
 |.mp i n _ _,l,.mp d j _ _,a=>d=i/\j=n/\a.b=l.b
 |_,_,_,_=>False
def KC(L:Nat->Loc)(h:Hp)(L':Nat->Loc)(h':Hp):Prop:=∀k blk,h k=some blk->∃a,h' k=some a/\dh blk (L k) a (L' k)
theorem bv(blk:Blk)(l:Loc):dh blk l blk l:=by cases blk<;>simp[dh]
theorem KC.refl(L:Nat->Loc)(h:Hp):KC L h L h:=λ_ blk a=>⟨blk,a,bv _ _⟩
theorem RepX.mono{L:Nat->Loc}(i:KC L h L' h'){x:XV}(B:RepX L h x u):RepX L' h' x u:=by
 cases B with
 |@barr k n c cs own fz j g=>
  obtain⟨a,h1,d⟩:=i k _ g
  cases a with
  |row=>exact d.elim
  |mp=>exact d.elim
  |box r q f=>have d:(L' k).b=(L k).b:=d;rw[<-d];exact .barr j h1
 |@mp k n C es fz g=>
  obtain⟨a,h1,d⟩:=i k _ g
  cases a with
  |row=>exact d.elim
  |box=>exact d.elim
  |mp m D y f=>have d:m=C/\D=n/\(L' k).b=(L k).b:=d;rw[<-d.2.2];exact .mp h1
 |@suf k o n t e sz fz xs u l g hn z A=>
  obtain⟨a,h1,d⟩:=i k _ g
  cases a with
  |box=>exact d.elim
  |mp=>exact d.elim
  |row F E p f=>
   obtain⟨_,s,G,v⟩:=d;refine .suf l h1 hn (by omega) (λe=>?_)
   have:p.length=xs.length:=by omega
   rw[v this,s];exact A (by omega)
theorem RepA.mono{L:Nat->Loc}(hp:Pres w M w' M')(o:KC L h L' h')
 (r:RepA w M L h x u):RepA w' M' L' h' x u:=by
 induction r with
 |pv D=>exact .pv (D.mono hp)
 |@ptr k off cs own fz d=>
  obtain⟨a,h1,c⟩:=o k _ d
  cases a with
  |row=>exact c.elim
  |mp=>exact c.elim
  |box A z l=>have c:(L' k).b=(L k).b:=c;rw[<-c];exact .ptr h1
 |@arr k n e sz fz xs u d hn q=>
  obtain⟨a,h1,c⟩:=o k _ d
  cases a with
  |box=>exact c.elim
  |mp=>exact c.elim
  |row B v g l=>
   obtain⟨_,y,C,p⟩:=c;refine .arr h1 (by omega) (λe=>?_)
   have:g.length=xs.length:=by omega
   rw[p this];exact q (by omega)
 |@eptr k n i off e sz fz xs u d hn q=>
  obtain⟨a,h1,c⟩:=o k _ d
  cases a with
  |box=>exact c.elim
  |mp=>exact c.elim
  |row B v g l=>
   obtain⟨_,y,C,p⟩:=c;refine .eptr h1 (by omega) (λe=>?_)
   have:g.length=xs.length:=by omega
   rw[p this,y];exact q (by omega)
 |agg cs vs m _ ih=>exact .agg cs vs m ih
 |fn f first j vs us m d _ _ ih s=>exact .fn f first j vs us m d ih s
 |tup cs vs m _ ih=>exact .tup cs vs m ih
 |ext r=>exact .ext (r.mono o)
 |undef u=>exact .undef u
def aD(w:World)(M:Nat->Nat->Prop)(L:Nat->Loc)(h:Hp)(ps:List AV)(us:List Value):Prop:=
 ps.length=us.length/\∀(i:Nat) p u,ps[i]?=some p->us[i]?=some u->RepA w M L h p u
section
variable {w:World} {M:Nat->Nat->Prop} {L:Nat->Loc} {h:Hp}
theorem aD.nil:aD w M L h [] []:=⟨rfl,λi p u h=>by simp at h⟩
theorem aD.cons{p:AV}{ps:List AV}(h1:RepA w M L h p u)(b:aD w M L h ps us):aD w M L h (p::ps) (u::us):=by
 refine⟨by simp[b.1],λi q v hq a=>?_⟩
 cases i with
 |zero=>simp at hq a;subst hq;subst a;exact h1
 |succ i=>exact b.2 i q v (by simpa using hq) (by simpa using a)
theorem aD.cons_inv{p:AV}{ps:List AV}(h1:aD w M L h (p::ps) us):∃u a,us=u::a/\RepA w M L h p u/\aD w M L h ps a:=by
 cases us with
 |nil=>exact absurd h1.1 (by simp)
 |cons u a=>exact⟨u,a,rfl,h1.2 0 p u rfl rfl,by have:=h1.1;simpa using this,λi q v hq b=>h1.2 (i+1) q v (by simpa using hq) (by simpa using b)⟩
theorem aD.nil_inv(h1:aD w M L h [] us):us=[]:=by
 cases us with
 |nil=>rfl
 |cons u us=>exact absurd h1.1 (by simp)
theorem aD.append{ps c:List AV}(h1:aD w M L h ps us)(b:aD w M L h c vs):aD w M L h (ps++c) (us++vs):=by
 refine⟨by simp[h1.1,b.1],λi p u hp a=>?_⟩;by_cases hi:i<ps.length
 .rw[Y8 hi]at hp
  rw[Y8 (by have:=h1.1;omega)]at a;exact h1.2 i p u hp a
 .rw[Zc (by omega)]at hp
  rw[Zc (by have:=h1.1;omega)]at a;refine b.2 _ p u hp ?_;rw[h1.1];exact a
theorem aD.map_pv(h1:bp w M ps us):aD w M L h (ps.map .pv) us:=by
 refine⟨by simpa using h1.1,λi p u hp a=>?_⟩;simp only[Y7,II]at hp;obtain⟨q,hq,rfl⟩:=hp;exact .pv (h1.2 i q u hq a)
theorem aD.map_pv_inv(h1:aD w M L h (ps.map .pv) us):bp w M ps us:=by
 refine⟨by simpa using h1.1,λi p u hp a=>?_⟩;have:=h1.2 i (.pv p) u (by simp[hp]) a;cases this;assumption
end
def AV.cells:AV->List AV
 |.pv p=>p.cells.map .pv
 |.agg cs=>cs
 |x=>[x]
def jk:List AV->Option (List PV)
 |[]=>some []
 |.pv p::r=>(jk r).map (p::·)
 |_::_=>none
def tU(cs:List AV):AV:=match jk cs with
 |some ps=>.pv (fE ps)
 |none=>.agg cs
theorem pT:∀{cs:List AV}{ps:List PV},jk cs=some ps->cs=ps.map .pv
 |[],ps,h=>by simp[jk]at h;subst h;rfl
 |.pv p::r,ps,h=>by
  simp only[jk,II]at h;obtain⟨a,h',rfl⟩:=h;rw[pT h'];rfl
 |.ptr _ _::_,_,h=>by simp[jk]at h
 |.arr _ _::_,_,h=>by simp[jk]at h
 |.eptr _ _ _ _::_,_,h=>by simp[jk]at h
 |.agg _::_,_,h=>by simp[jk]at h
 |.fn _ _ _::_,_,h=>by simp[jk]at h
 |.tup _::_,_,h=>by simp[jk]at h
 |.ext _::_,_,h=>by simp[jk]at h
 |.undef::_,_,h=>by simp[jk]at h
theorem tz{L:Nat->Loc}(h1:aD w M L h cs us):RepA w M L h (tU cs) (.agg us.toArray):=by
 unfold tU;split
 .rename_i ps hp
  rw[pT hp]at h1;exact .pv (kH h1.map_pv_inv)
 .exact .agg cs us h1.1 h1.2
theorem RepA.cells{L:Nat->Loc}(c:RepA w M L h x u)(j:x≠.undef):aD w M L h x.cells u.cells.toList\/(∃k n,x=.arr k n)\/(∃k n i o,x=.eptr k n i o):=by
 have one:∀{q:AV}{v:Value},RepA w M L h q v->aD w M L h [q] [v]:=λhq=>.cons hq .nil
 cases c with
 |pv r=>exact .inl (aD.map_pv r.cells)
 |ptr g=>exact .inl (one (.ptr g))
 |arr=>exact .inr (.inl ⟨_,_,rfl⟩)
 |eptr=>exact .inr (.inr ⟨_,_,_,_,rfl⟩)
 |agg cs vs b d=>exact .inl ⟨by simpa[AV.cells,Value.cells]using b,λi p u hp s=>d i p u (by simpa[AV.cells]using hp) (by simpa[Value.cells]using s)⟩
 |fn f first a vs us b g h1 m=>exact .inl (one (.fn f first a vs us b g h1 m))
 |tup cs vs b d=>exact .inl (one (.tup cs vs b d))
 |ext c=>
  refine .inl ?_
  have e:u.cells.toList=[u]:=by
   cases c with
   |suf l _ _ _ _=>obtain⟨_,_,_,rfl⟩:=l;rfl
   |_=>rfl
  rw[e];exact one (.ext c)
 |undef=>exact absurd rfl j
def av(f:Nat->α)(k:Nat)(v:α):Nat->α:=λn=>if n=k then v else f n
theorem aG(f:Nat->α)(k:Nat)(v:α):av f k v k=v:=by simp[av]
theorem bc{f:Nat->α}{v:α}(h:n≠k):av f k v n=f n:=by simp[av,h]
structure Ext(S:Nat->Prop)(w w':World):Prop where
 os:w'.os=w.os
 tape:w'.tape=w.tape
 output:w'.output=w.output
 size:w.heap.size<=w'.heap.size
 block:∀b,b<w.heap.size->¬S b->w'.heap[b]?=w.heap[b]?
theorem Ext.refl(S:Nat->Prop)(w:World):Ext S w w:=⟨rfl,rfl,rfl,Zf _,λ_ _ _=>rfl⟩
theorem Ext.trans{e:Nat->Prop}{a b c:World}(h:Ext S a b)(k:Ext e b c)(hs:∀x,x<a.heap.size->e x->S x):Ext S a c:=
 ⟨k.os.trans h.os,k.tape.trans h.tape,k.output.trans h.output,yAG h.size k.size,
   λi hi hn=>(k.block i (ZY hi h.size) (λd=>hn (hs i hi d))).trans (h.block i hi hn)⟩
theorem Ext.cell(h:Ext S w w')(a:b<w.heap.size)(hs:¬S b):w'.cell? ⟨b,o,none⟩=w.cell? ⟨b,o,none⟩:=by
 simp only[World.cell?,h.block b a hs]
theorem Ext.alloc(S:Nat->Prop)(w:World)(o:Obj):Ext S w (w.alloc o):=
 ⟨rfl,rfl,rfl,by simp,λb a _=>RowKit.Below.heap_alloc w o b a⟩
theorem Ext.drew(S:Nat->Prop)(w:World):Ext S w w.drew:=⟨rfl,rfl,rfl,Zf _,λ_ _ _=>rfl⟩
structure Cx where
 P:Program
 N:Nat
 M0:Nat->Nat->Prop
 S:Nat->Prop
 pb:Nat->Option Nat
 pr:Nat->Option Loc:=λ_=>none
 hpr:∀k,k<2000000->pr k=none:=by intros;rfl
 w0:World
variable {C:Cx}
def Blk.live:Blk->Loc->Prop
 |.box _ _ _,_=>True
 |.row _ _ _ _,l=>l.isNil=false
 |.mp _ _ _ _,_=>True
def Blk.frz:Blk->Nat->Prop
 |.box _ _ fz,_=>fz=true
 |.row _ sz _ fz,o=>o<fz*sz
 |.mp _ _ _ fz,_=>fz=true
def ae(C:Cx)(L:Nat->Loc)(h:Hp)(b o:Nat):Prop:=C.M0 b o\/∃k blk,h k=some blk/\blk.live (L k)/\(L k).b=b/\¬blk.frz o
def dk(w:World)(M:Nat->Nat->Prop)(L:Nat->Loc)(h:Hp)(l:Loc):Blk->Prop
 |.box cs _ _=>∃arr ty,w.heap[l.b]?=some (.cells arr ty (0,0))/\aD w M L h cs arr.toList
 |.row e sz xs fz=>0<sz/\fz<=xs.length/\(∀x∈xs,x.cells.length=sz)/\(l.isNil=true->xs=[])/\
   (l.isNil=false->xs.length<=l.cap/\l.cap<=maxLen/\∃arr,w.heap[l.b]?=some (.cells arr e (0,0))/\arr.size=l.cap*sz/\
     ∀(i:Nat) x(j:Nat) p,xs[i]?=some x->x.cells[j]?=some p->∃u,arr[i*sz+j]?=some u/\Rep w M p u)
 |.mp a n es _=>∃arr clock,w.heap[l.b]?=some (.map arr clock)/\DN a n es arr
def dw(C:Cx)(k:Nat)(l:Loc):Blk->Prop
 |.box _ false fz=>fz=false/\C.pb k=some l.b/\C.S l.b/\l.b<C.w0.heap.size/\∀o,C.M0 l.b o
 |.box _ true _=>C.w0.heap.size<=l.b\/(C.S l.b/\∀o,¬C.M0 l.b o)
 |.row _ _ _ _=>match C.pr k with
  |some a=>l=a/\(l.isNil=false->C.S l.b/\∀o,¬C.M0 l.b o)
  |none=>l.isNil=false->C.w0.heap.size<=l.b\/(C.S l.b/\∀o,¬C.M0 l.b o)
 |.mp _ _ _ _=>C.w0.heap.size<=l.b
theorem dw.row(h:dw C k l (.row e sz xs fz))(hn:l.isNil=false):C.w0.heap.size<=l.b\/(C.S l.b/\∀o,¬C.M0 l.b o):=by
 grind [dw]
theorem dw.mkRow(a:k<2000000)(h:l.isNil=false->C.w0.heap.size<=l.b):dw C k l (.row e sz xs fz):=by
 simp only[dw,C.hpr k a]
 grind
structure MemL(C:Cx)(L:Nat->Loc)(h:Hp)(w:World):Prop where
 ext:Ext C.S C.w0 w
 m0:∀b o,C.M0 b o->b<C.w0.heap.size
 bl:∀k blk,h k=some blk->dk w (ae C L h) L h (L k) blk
 sep:∀k k' blk blk',k≠k'->h k=some blk->h k'=some blk'->blk.live (L k)->blk'.live (L k')->(L k).b≠(L k').b
 own:∀k blk,h k=some blk->dw C k (L k) blk
theorem dk.lt{L:Nat->Loc}(d:dk w M L h l blk)(f:blk.live l):l.b<w.heap.size:=by
 have a:∀{o:Obj},w.heap[l.b]?=some o->l.b<w.heap.size:=λ{o} e=>by
  grind
 cases blk with
 |box cs own fz=>obtain⟨arr,ty,e,_⟩:=d;exact a e
 |row e sz xs fz=>obtain⟨_,_,_,_,h5⟩:=d;obtain⟨_,_,arr,e,_⟩:=h5 f;exact a e
 |mp g n es fz=>obtain⟨arr,c,e,_⟩:=d;exact a e
theorem MemL.mlt{L:Nat->Loc}(c:MemL C L h w)(a:ae C L h b o):b<w.heap.size:=by
 rcases a with a|⟨k,blk,d,e,rfl,_⟩
 .exact ZY (c.m0 b o a) c.ext.size
 .exact(c.bl k blk d).lt e
theorem ri{o:Obj}(e:w.heap[b]?=some o):b<w.heap.size:=by
 grind
theorem Pres.ext(f:Ext S w w')(hs:∀b,b<w.heap.size->S b->∀o,M b o)(e:∀b o,b<w.heap.size->M' b o->M b o):Pres w M w' M':=by
 have ns:∀b o,b<w.heap.size->¬M b o->¬S b:=λb o g hn h=>hn (hs b g h o);refine⟨λb o v d hn=>?_,λb arr c d hn=>?_⟩
 .have a:=World.block_lt_of_cell? w ⟨b,o,none⟩ d
  exact⟨(f.cell a (ns b o a hn)).trans d,λh=>hn (e b o a h)⟩
 .have a:=ri d
  exact⟨(f.block b a (ns b 0 a hn)).trans d,λh=>hn (e b 0 a h)⟩
theorem xX(h:w.cell? ⟨b,o,none⟩=some v):b<w.heap.size:=World.block_lt_of_cell? w ⟨b,o,none⟩ h
theorem dk.mono{L:Nat->Loc}(f:dk w M L h l blk)(hp:Pres w M w' M')(q:KC L h L' h')
 (g:blk.live l->w'.heap[l.b]?=w.heap[l.b]?):dk w' M' L' h' l blk:=by
 cases blk with
 |box cs own fz=>
  obtain⟨arr,ty,e,s,k⟩:=f;exact⟨arr,ty,(g trivial).trans e,s,λi p u h1 a=>(k i p u h1 a).mono hp q⟩
 |row z sz xs fz=>
  obtain⟨h1,a,m,o,h5⟩:=f;refine⟨h1,a,m,o,λhn=>?_⟩;obtain⟨h6,d,arr,e,h7,h8⟩:=h5 hn;refine⟨h6,d,arr,(g hn).trans e,h7,λi x j p y r=>?_⟩;obtain⟨u,v,k⟩:=h8 i x j p y r;exact⟨u,v,k.mono hp⟩
 |mp A n es fz=>
  obtain⟨arr,c,e,h1⟩:=f;exact⟨arr,c,(g trivial).trans e,h1⟩
theorem dk.same{L:Nat->Loc}{l':Loc}(f:dk w M L h l blk)
 (a:w=w')(b:M=M')(c:L=L')(d:h=h')(e:l=l'):dk w' M' L' h' l' blk:=by subst a;subst b;subst c;subst d;subst e;exact f
theorem KC.trans{L:Nat->Loc}{e:Hp}(a:KC L h L' h')(b:KC L' h' L'' e):KC L h L'' e:=by
 intro k blk j;obtain⟨d,h1,f⟩:=a k blk j;obtain⟨c,g,i⟩:=b k d h1;refine⟨c,g,?_⟩;cases blk<;>cases d<;>cases c<;>simp only[dh]at f i|-
 all_goals grind
theorem KC.new{L:Nat->Loc}(hd:h d=none):KC L h (av L d l) (av h d (some blk)):=by
 intro k b a
 grind [bc,bv]
theorem MemL.newKey{L:Nat->Loc}(p:MemL C L h w)(hd:h d=none)(y:d<2000000)(z:Ext (λ_=>False) w w')
 (j:blk.live l->w.heap.size<=l.b)(q:∀cs fz,blk≠.box cs false fz)
 (F:dk w' (λb o=>ae C L h b o\/(blk.live l/\b=l.b)) (av L d l) (av h d (some blk)) l blk):
 MemL C (av L d l) (av h d (some blk)) w'/\Pres w (ae C L h) w' (ae C (av L d l) (av h d (some blk)))/\KC L h (av L d l) (av h d (some blk)):=by
 have s:KC L h (av L d l) (av h d (some blk)):=KC.new hd
 have D:∀b o,ae C (av L d l) (av h d (some blk)) b o->ae C L h b o\/(blk.live l/\b=l.b):=by
  rintro b o (B|⟨k,c,a,g,r,hf⟩)
  .exact .inl (.inl B)
  .by_cases e:k=d
   .grind [aG]
   .rw[bc e]at a g r
    exact .inl (.inr ⟨k,c,a,g,r,hf⟩)
 have m:Pres w (ae C L h) w' (ae C (av L d l) (av h d (some blk))):=by
  refine Pres.ext z (λ_ _ h=>h.elim) λb o G E=>?_
  grind
 refine⟨⟨p.ext.trans z (λ_ _ h=>h.elim),p.m0,?_,?_,?_⟩,m,s⟩
 .intro k c a
  by_cases e:k=d
  .subst e
   rw[aG]at a|-;injection a with a;subst a;exact F.mono (Pres.sub D) (KC.refl _ _) (λ_=>rfl)
  .rw[bc e]at a|-
   exact(p.bl k c a).mono m s (λg=>z.block _ ((p.bl k c a).lt g) (λh=>h))
 .intro k x b1 A u a f g i
  by_cases e:k=d
  .subst e
   have v:x≠k:=λe=>u e.symm;rw[bc v]at f i|-;rw[aG]at a g|-;injection a with a;subst a;have:=(p.bl x A f).lt i
   grind
  .rw[bc e]at a g|-
   by_cases v:x=d
   .subst v
    rw[aG]at f i|-;injection f with f;subst f;have:=(p.bl k b1 a).lt g
    grind
   .rw[bc v]at f i|-
    exact p.sep k x b1 A u a f g i
 .intro k c a
  by_cases e:k=d
  .subst e
   rw[aG]at a|-;injection a with a;subst a;have:=p.ext.size
   cases blk with
   |box cs own fz=>
    cases own with
    |false=>exact absurd rfl (q cs fz)
    |true=>have:=j trivial;exact .inl (by omega)
   |row e sz xs fz=>exact dw.mkRow y (λg=>by have:=j g;omega)
   |mp H n es fz=>have:=j trivial;simp only[dw];omega
  .rw[bc e]at a|-
   exact p.own k c a
theorem MemL.touch{L:Nat->Loc}(g:MemL C L h w){blk':Blk}(p:h k=some blk)
 (y:∀b,b<w.heap.size->(blk.live (L k)->b≠(L k).b)->w'.heap[b]?=w.heap[b]?)(K:w.heap.size<=w'.heap.size)(J:w'.os=w.os)(M:w'.tape=w.tape)(hout:w'.output=w.output)
 (hpr:∀o v,blk.live (L k)->blk.frz o->w.cell? ⟨(L k).b,o,none⟩=some v->w'.cell? ⟨(L k).b,o,none⟩=some v)(H:∀o,blk.frz o->blk'.frz o)(F:dh blk (L k) blk' (L k))
 (x:blk'.live (L k)↔blk.live (L k))(P:dw C k (L k) blk')
 (S:dk w' (ae C L (av h k (some blk'))) L (av h k (some blk')) (L k) blk')(I:∀D n es,blk≠.mp D n es true:=by intro _ _ _ h;cases h):
 MemL C L (av h k (some blk')) w'/\Pres w (ae C L h) w' (ae C L (av h k (some blk')))/\KC L h L (av h k (some blk')):=by
 have z:KC L h L (av h k (some blk')):=by
  intro q b hq;by_cases e:q=k
  .subst e;rw[p]at hq;injection hq with hq;subst hq;exact⟨blk',aG _ _ _,F⟩
  .exact⟨b,by rw[bc e];exact hq,bv _ _⟩
 have O:∀b o,ae C L (av h k (some blk')) b o->ae C L h b o:=by
  rintro b o (R|⟨q,s,hq,a,j,hf⟩)
  .exact .inl R
  .by_cases e:q=k
   .subst e
    rw[aG]at hq;injection hq with hq;subst hq;exact .inr ⟨q,blk,p,x.1 a,j,λG=>hf (H o G)⟩
   .rw[bc e]at hq
    exact .inr ⟨q,s,hq,a,j,hf⟩
 have m:Pres w (ae C L h) w' (ae C L (av h k (some blk'))):=by
  refine⟨?_,λb arr c i hn=>⟨?_,λu=>hn (O b 0 u)⟩⟩
  case refine_2=>
   have l:=ri i;by_cases a:blk.live (L k)
   .by_cases e:b=(L k).b
    .subst e
     have Q:=g.bl k blk p
     cases blk with
     |box cs own fz=>obtain⟨_,_,e,_⟩:=Q;rw[e]at i;cases i
     |row e sz xs fz=>obtain⟨_,_,_,_,h5⟩:=Q;obtain⟨_,_,_,e,_⟩:=h5 a;rw[e]at i;cases i
     |mp D n es fz=>
      cases fz with
      |true=>exact absurd rfl (I D n es)
      |false=>exact absurd (Or.inr ⟨k,_,p,a,rfl,by simp[Blk.frz]⟩) hn
    .rw[y b l (λ_=>e)];exact i
   .rw[y b l (λd=>absurd d a)];exact i
  intro b o v i hn;have l:=xX i;refine⟨?_,λu=>hn (O b o u)⟩;by_cases a:blk.live (L k)
  .by_cases e:b=(L k).b
   .subst e
    by_cases hf:blk.frz o
    .exact hpr o v a hf i
    .exact absurd (Or.inr ⟨k,blk,p,a,rfl,hf⟩) hn
   .simp only[World.cell?,y b l (λ_=>e)]at i|-;exact i
  .simp only[World.cell?,y b l (λd=>absurd d a)]at i|-;exact i
 refine⟨⟨?_,g.m0,?_,?_,?_⟩,m,z⟩
 .refine⟨J.trans g.ext.os,M.trans g.ext.tape,hout.trans g.ext.output,yAG g.ext.size K,λb j hS=>?_⟩
  rw[y b (ZY j g.ext.size),g.ext.block b j hS];rintro a rfl;have h1:=g.own k blk p
  cases blk with
  |box cs own fz=>
   cases own with
   |false=>exact hS h1.2.2.1
   |true=>rcases h1 with B|B
          .omega
          .exact hS B.1
  |row e sz xs fz=>
   rcases h1.row a with B|B
   all_goals grind
  |mp D n es fz=>simp only[dw]at h1;omega
 .intro q s hq
  by_cases e:q=k
  .grind [aG]
  .rw[bc e]at hq
   exact(g.bl q s hq).mono m z (λa=>y _ ((g.bl q s hq).lt a) (λd A=>g.sep q k s blk e hq p a d A))
 .intro q E b1 N r hq f a d
  by_cases e:q=k
  .subst e
   rw[aG]at hq;injection hq with hq;subst hq;rw[bc (λe=>r e.symm)]at f;exact g.sep q E blk N r p f (x.1 a) d
  .rw[bc e]at hq
   by_cases A:E=k
   .subst A
    rw[aG]at f;injection f with f;subst f;exact g.sep q E b1 blk r hq p a (x.1 d)
   .rw[bc A]at f
    exact g.sep q E b1 N r hq f a d
 .intro q s hq
  by_cases e:q=k
  .grind [aG]
  .rw[bc e]at hq;exact g.own q s hq
theorem MemL.move{L:Nat->Loc}(g:MemL C L h w){d:Nat}{xs':List PV}(D:h k=some (.row d sz xs fz))(E:k<2000000)(s:Ext (λ_=>False) w w'){l':Loc}
 (x:l'.isNil=false/\w.heap.size<=l'.b)(v:xs.length<xs'.length)
 (B:dk w' (λb o=>ae C L h b o\/b=l'.b) (av L k l') (av h k (some (.row d sz xs' fz))) l' (.row d sz xs' fz)):
 MemL C (av L k l') (av h k (some (.row d sz xs' fz))) w'/\Pres w (ae C L h) w' (ae C (av L k l') (av h k (some (.row d sz xs' fz))))/\KC L h (av L k l') (av h k (some (.row d sz xs' fz))):=by
 have m:KC L h (av L k l') (av h k (some (.row d sz xs' fz))):=by
  intro q b hq;by_cases e:q=k
  .subst e;rw[D]at hq;injection hq with hq;subst hq
   exact⟨_,aG _ _ _,rfl,rfl,by omega,λe=>by omega⟩
  grind [bc,bv]
 have z:∀b o,ae C (av L k l') (av h k (some (.row d sz xs' fz))) b o->ae C L h b o\/b=l'.b:=by
  rintro b o (y|⟨q,j,hq,f,l,hf⟩)
  .exact .inl (.inl y)
  .by_cases e:q=k
   .grind [aG]
   .rw[bc e]at hq f l;exact .inl (.inr ⟨q,j,hq,f,l,hf⟩)
 have c:Pres w (ae C L h) w' (ae C (av L k l') (av h k (some (.row d sz xs' fz)))):=by
  refine Pres.ext s (λ_ _ h=>h.elim) λb o F A=>?_
  grind
 refine⟨⟨g.ext.trans s (λ_ _ h=>h.elim),g.m0,?_,?_,?_⟩,c,m⟩
 .intro q j hq
  by_cases e:q=k
  .subst e
   rw[aG]at hq|-;injection hq with hq;subst hq;exact B.mono (Pres.sub z) (KC.refl _ _) (λ_=>rfl)
  .rw[bc e]at hq|-
   exact(g.bl q j hq).mono c m (λf=>s.block _ ((g.bl q j hq).lt f) (λh=>h))
 .intro q r b1 u n hq i f a
  by_cases e:q=k
  .subst e
   have p:r≠q:=λe=>n e.symm;rw[bc p]at i a|-;rw[aG]at f|-;have:=(g.bl r u i).lt a;omega
  .rw[bc e]at hq f|-
   by_cases p:r=k
   .subst p
    rw[aG]at a|-;have:=(g.bl q b1 hq).lt f;omega
   .rw[bc p]at i a|-
    exact g.sep q r b1 u n hq i f a
 .intro q j hq
  have:=g.ext.size;by_cases e:q=k
  .grind [aG,dw.mkRow]
  .rw[bc e]at hq|-;exact g.own q j hq
theorem MemL.grow{L:Nat->Loc}(b:MemL C L h w)(c:Ext (λ_=>False) w w'):MemL C L h w'/\Pres w (ae C L h) w' (ae C L h):=by
 have a:Pres w (ae C L h) w' (ae C L h):=Pres.ext c (λ_ _ h=>h.elim) λ_ _ _ h=>h;exact⟨⟨b.ext.trans c (λ_ _ h=>h.elim),b.m0,λk blk d=>(b.bl k blk d).mono a (KC.refl _ _) (λe=>c.block _ ((b.bl k blk d).lt e) (λh=>h)),b.sep,b.own⟩,a⟩
inductive TK where
 |one
 |struct(fs:List (Nat×Nat))
 |array(len esz:Nat)
 |slice(e esz ebytes:Nat)(ezero:Option Value)
structure TI where
 size:Nat
 zero:Option Value
 kind:TK
variable {ti:TI}
def oX(P:Program)(t:TypeId):Nat:=((P.info? t).map (·.size)).getD 0
def mb(P:Program)(t:TypeId):Bool:=match P.underlying t with
 |some (.struct a)=>a.toList.all λf=>(P.info? f.type).isSome
 |some (.array _ e)=>(P.info? e).isSome
 |_=>true
def aA(P:Program)(t:TypeId):Option TI:=
 if mb P t=false then none else
 match P.info? t,P.underlying t with
 |some i,some d=>some {size:=i.size,zero:=i.zero,kind:=match d with
   |.struct a=>.struct (a.toList.map λf=>(f.offset,oX P f.type))
   |.array n e=>.array n (oX P e)
   |.slice e=>match P.info? e with
    |some j=>.slice e j.size j.bytes j.zero
    |none=>.one
   |_=>.one}
 |_,_=>none
def zD(P:Program)(t:TypeId):Option (IntKind×Nat×TypeId):=match P.underlying t with
 |some (.map c a)=>match P.underlying c with
  |some (.array n e)=>match P.underlying e,P.info? e with
   |some (.int b),some j=>if j.size=1 then some (b,n,a)else none
   |_,_=>none
  |_=>none
 |_=>none
def mc(kd:IntKind):List Value->Option (List Int)
 |[]=>some []
 |.int k i::r=>if k=kd then(mc kd r).map (i::·)else none
 |_::_=>none
def wu(kd:IntKind)(n:Nat):AV->Option (List Int)
 |.pv (.val (.agg cs))=>match mc kd cs.toList with
  |some a=>if a.length=n then some a else none
  |none=>none
 |_=>none
def iS:List (List Int×Value)->List Int->Option Value
 |[],_=>none
 |(k,v)::r,a=>if k=a then some v else iS r a
def lS:List (List Int×Value)->List Int->Value->List (List Int×Value)
 |[],a,u=>[(a,u)]
 |(k,v)::r,a,u=>if k=a then(a,u)::r else(k,v)::lS r a u
def TK.isAgg:TK->Bool
 |.struct _|.array _ _=>true
 |_=>false
def ag{α:Type}(P:Program):Sem α->Option α
 |.pure a=>some a
 |.program k=>ag P (k P)
 |_=>none
def mH:AV->List Nat
 |.ptr k _|.arr k _|.eptr k _ _ _=>[k]
 |.ext x=>[x.key]
 |_=>[]
def PF:AV->List Nat
 |.agg cs=>cs.flatMap mH
 |.fn _ f c=>(f++c).flatMap mH
 |.tup vs=>vs.flatMap mH
 |x=>mH x
abbrev bG:=AV×List (Nat×Blk)
def md:Value->Bool
 |.slice none 0 0=>true
 |_=>false
def nF:AV->Bool
 |.pv (.val v)=>md v
 |_=>false
def xY:PV->PV
 |.val v=>if md v then .sl []else .val v
 |p=>p
def D9(v:Value):Bool:=match v with
 |.agg cs=>cs.toList.any md
 |_=>false
def norm(p:PV):PV:=match p with
 |.val v=>if md v then .sl []else if D9 v then fE (p.cells.map xY)else .val v
 |.agg cs=>fE (cs.map xY)
 |p=>p
def pU:PV->Bool
 |.agg _=>true
 |.val (.agg _)=>true
 |_=>false
def jl:PV->Bool
 |.val v=>v.oneCell'
 |.agg _=>false
 |.tup _=>false
 |_=>true
def wv(h:Hp):AV->Bool
 |.pv p=>jl p
 |.ptr _ _=>true
 |.arr k n=>match h k with
  |some (.row _ _ xs _)=>xs.length==n
  |_=>false
 |.fn _ _ _=>true
 |.ext _=>true
 |_=>false
def pV(a:Nat)(y:PV):Bool:=y.cells.length==a&&y.cells.all jl
def fq(h:Hp):AV->Option (List AV×Nat)
 |.ptr k off=>match h k with
  |some (.box cs _ _)=>some (cs,off)
  |_=>none
 |.pv (.rptr x off)=>some (x.cells.map .pv,off)
 |.eptr k n i off=>match h k with
  |some (.row _ _ xs _)=>if xs.length=n then(match xs[i]? with
   |some x=>some (x.cells.map .pv,off)
   |none=>none)else none
  |_=>none
 |_=>none
def Aq(h:Hp)(sz:Nat):AV->Option PV
 |.pv (.rptr x 0)=>if pU x&&x.cells.length==sz then some x else none
 |.eptr k n i 0=>match h k with
  |some (.row _ _ xs _)=>if xs.length=n then(match xs[i]? with
   |some x=>if pU x&&x.cells.length==sz then some x else none
   |none=>none)else none
  |_=>none
 |_=>none
def ww(a:TI)(x:AV)(h:Hp):Option AV:=
 if a.kind.isAgg then
  match Aq h a.size x with
  |some p=>some (.pv p)
  |none=>match fq h x with
   |some (cs,off)=>if off+a.size<=cs.length then some (tU ((cs.drop off).take a.size))else none
   |none=>none
 else match fq h x with
  |some (cs,off)=>cs[off]?
  |none=>none
def gQ(h:Hp):AV->Option (List AV)
 |.undef=>none
 |.eptr _ _ _ _=>none
 |.arr k n=>match h k with
  |some (.row _ _ xs _)=>if xs.length=n then some [.arr k n]else none
  |_=>none
 |x=>some x.cells
def br(cs:List α)(off:Nat)(vs:List α):List α:=cs.take off++vs++cs.drop (off+vs.length)
def iT(h:Hp):AV->Option (PV×List (Nat×Blk))
 |.pv p=>some (norm p,[])
 |.arr k n=>match h k with
  |some (.row e sz xs _)=>if xs.length=n then some (.sl xs,[(k,.row e sz xs xs.length)])else none
  |_=>none
 |.ext (.mp k)=>match h k with
  |some (.mp a n es _)=>some (.mp a n es,[(k,.mp a n es true)])
  |_=>none
 |_=>none
def dZ(h:Hp):List AV->Option (List PV×List (Nat×Blk))
 |[]=>some ([],[])
 |x::r=>match iT h x,dZ h r with
  |some (p,W),some (ps,a)=>some (p::ps,W++a)
  |_,_=>none
def tB(h:Hp):AV->Option (PV×List (Nat×Blk))
 |.ext (.barr k n _)=>match h k with
  |some (.box cs true _)=>if cs.length=n then(match dZ h cs with
   |some (ps,W)=>if ps.all jl=true then some (.sl ps,W++[(k,.box cs true true)])else none
   |none=>none)else if n<=cs.length then(match dZ h cs with
   |some (ps,W)=>if ps.all jl=true then some (.sl (ps.take n),W++[(k,.box cs true true)])else none
   |none=>none)else none
  |_=>none
 |x=>iT h x
def qq(h:Hp):List AV->Option (List PV×List (Nat×Blk))
 |[]=>some ([],[])
 |x::r=>match tB h x,qq h r with
  |some (p,W),some (ps,a)=>some (p::ps,W++a)
  |_,_=>none
def i5:List PV->Bool
 |[p]=>jl p
 |_=>false
def rA(h:Hp):AV->Option (PV×List (Nat×Blk))
 |.pv p=>some (p,[])
 |.ptr k 0=>match h k with
  |some (.box cs true _)=>match jk cs with
   |some ps=>if i5 ps=true then some (.rptr (ps.headD default) 0,[(k,.box cs true true)])
    else some (.rptr (fE ps) 0,[(k,.box cs true true)])
   |none=>match qq h cs with
    |some (ps,W)=>if i5 ps=true then some (.rptr (ps.headD default) 0,W++[(k,.box cs true true)])
     else some (.rptr (fE ps) 0,W++[(k,.box cs true true)])
    |none=>none
  |_=>none
 |_=>none
def kn(h:Hp):List AV->Option (List PV×List (Nat×Blk))
 |[]=>some ([],[])
 |x::r=>match rA h x,kn h r with
  |some (p,W),some (ps,a)=>some (p::ps,W++a)
  |_,_=>none
def BG(h:Hp):AV->Option (PV×List (Nat×Blk))
 |.agg cs=>match qq h cs with
  |some (ps,W)=>some (fE ps,W)
  |none=>none
 |.fn f first a=>match qq h first,kn h a with
  |some (ps,W),some (c,b)=>some (.fn f ps c,W++b)
  |_,_=>none
 |x=>tB h x
def pJ(h:Hp):List AV->Option (List PV×List (Nat×Blk))
 |[]=>some ([],[])
 |x::r=>match BG h x,pJ h r with
  |some (p,W),some (ps,a)=>some (p::ps,W++a)
  |_,_=>none
def frz(h:Hp):AV->Option (PV×List (Nat×Blk))
 |.agg cs=>match pJ h cs with
  |some (ps,W)=>some (fE ps,W)
  |none=>none
 |.fn f first a=>match qq h first,kn h a with
  |some (ps,W),some (c,b)=>some (.fn f ps c,W++b)
  |_,_=>none
 |.tup vs=>match pJ h vs with
  |some (ps,W)=>some (.tup ps,W)
  |none=>none
 |x=>tB h x
def kI:PV->Bool
 |.val _=>true
 |.agg cs=>cs.all λc=>match c with|.val _=>true|_=>false
 |_=>false
def wx(h:Hp):AV->Option PV
 |.pv p=>if kI p=true then some p else none
 |.arr k n=>match h k with
  |some (.row _ _ xs _)=>if xs.length=n/\k<2000000/\xs.all kI=true then some (.sl xs)else none
  |_=>none
 |.ext (.mp k)=>match h k with
  |some (.mp a n es _)=>some (.mp a n es)
  |_=>none
 |_=>none
def sM(h:Hp):List AV->Option (List PV)
 |[]=>some []
 |x::r=>match wx h x,sM h r with
  |some p,some ps=>some (p::ps)
  |_,_=>none
def BH(h:Hp):AV->Option PV
 |.ext (.barr k n _)=>match h k with
  |some (.box cs true _)=>if cs.length=n then(match sM h cs with
   |some ps=>if ps.all jl=true then some (.sl ps)else none
   |none=>none)else none
  |_=>none
 |x=>wx h x
def wy(h:Hp):List AV->Option (List PV)
 |[]=>some []
 |x::r=>match BH h x,wy h r with
  |some p,some ps=>some (p::ps)
  |_,_=>none
def Ar(h:Hp):AV->Option PV
 |.ptr k 0=>match h k with
  |some (.box cs true _)=>match wy h cs with
   |some ps=>if i5 ps=true then some (.rptr (ps.headD default) 0)else some (.rptr (fE ps) 0)
   |none=>none
  |_=>none
 |x=>BH h x
def rj(h:Hp):List AV->Option (List PV)
 |[]=>some []
 |x::r=>match Ar h x,rj h r with
  |some p,some ps=>some (p::ps)
  |_,_=>none
def Na(h:Hp):AV->Option PV
 |.fn f first a=>match wy h first,rj h a with
  |some ps,some b=>some (.fn f ps b)
  |_,_=>none
 |.tup vs=>match wy h vs with
  |some ps=>some (.tup ps)
  |none=>none
 |x=>BH h x
def xZ(a:TI)(x v:AV)(h:Hp):Option (List (Nat×Blk)):=
 match x with
 |.ptr k off=>match h k,gQ h v with
  |some (.box cs own false),some b=>if b.length=a.size/\off+b.length<=cs.length/\b.all (wv h)=true then some [(k,.box (br cs off b) own false)]else none
  |_,_=>none
 |.eptr k n i off=>match h k with
  |some (.row e sz xs fz)=>
   if xs.length=n/\fz<=i then
    match xs[i]?,tB h v with
    |some y,some (p,[])=>
     if pV a.size p=true then
      if off=0/\a.size=sz then some [(k,.row e sz (xs.set i p) fz)]
      else if off+a.size<=sz/\pU y then some [(k,.row e sz (xs.set i (fE (br y.cells off p.cells))) fz)]
      else none
     else none
    |_,_=>none
   else none
  |_=>none
 |_=>none
def tV(h:Hp)(k n:Nat):Bool:=match h k with
 |some (.row _ _ xs _)=>xs.length==n
 |_=>false
def pK(b:TI)(x:AV)(f:Nat)(h:Hp):Option AV:=
 match b.kind with
 |.struct a=>match a[f]? with
  |some (o,s)=>if s=0 then none else match x with
   |.ptr k off=>some (.ptr k (off+o))
   |.pv (.rptr y off)=>some (.pv (.rptr y (off+o)))
   |.eptr k n i off=>if tV h k n=true then some (.eptr k n i (off+o))else none
   |_=>none
  |none=>none
 |_=>none
def pL(b:TI)(x:AV)(i:Int)(h:Hp):Option AV:=
 match b.kind with
 |.slice _ a _ _=>match x with
  |.pv (.sl xs)=>if 0<=i then(match xs[i.toNat]? with
   |some y=>if y.cells.length=a then some (.pv (.rptr y 0))else none
   |none=>none)else none
  |.arr k n=>match h k with
   |some (.row _ sz xs _)=>if xs.length=n/\sz=a/\0<=i/\i.toNat<n then some (.eptr k n i.toNat 0)else none
   |_=>none
  |_=>none
 |.array len a=>if 0<=i/\i.toNat<len then match x with
   |.ptr k off=>some (.ptr k (off+i.toNat*a))
   |.pv (.rptr y off)=>some (.pv (.rptr y (off+i.toNat*a)))
   |.eptr k n j off=>if tV h k n=true then some (.eptr k n j (off+i.toNat*a))else none
   |_=>none
  else none
 |_=>none
def uJ(b:TI)(x:AV)(i:Int)(h:Hp):Option AV:=
 match b.kind,x with
 |.slice _ 1 _ _,.ext (.barr k n _)=>if 0<=i/\i.toNat<n then some (.ptr k i.toNat)else none
 |.slice _ a _ _,.ext (.suf k o n t)=>match h k with
  |some (.row _ sz xs _)=>if xs.length=t/\sz=a/\0<=i/\i.toNat<n then some (.eptr k t (o+i.toNat) 0)else none
  |_=>none
 |_,_=>none
def BI:Option AV->Option AV->Option AV
 |some v,_=>some v
 |none,y=>y
def uK(place:Nat->Option (Nat×Nat))(cells:List AV):List (Nat×List AV)->Option (List AV)
 |[]=>some cells
 |(i,vs)::rest=>match place i with
  |none=>none
  |some (off,size)=>if vs.length≠size\/off+vs.length>cells.length then none else uK place (br cells off vs) rest
def rl(h:Hp)(ρ:Operand->AV):List (Nat×Operand)->Option (List (Nat×List AV))
 |[]=>some []
 |(i,x)::r=>match gQ h (ρ x),rl h ρ r with
  |some cs,some ps=>some ((i,cs)::ps)
  |_,_=>none
def yb(b:TI)(ps:List (Nat×List AV)):Option AV:=
 match b.zero with
 |none=>none
 |some z=>
  let c:=z.cells.toList.map λv=>AV.pv (.val v)
  match b.kind with
  |.struct d=>(uK (λi=>d[i]?) c ps).map tU
  |.array _ a=>(uK (λi=>some (i*a,a)) c ps).map tU
  |_=>none
def H1(a:Bool)(h:Hp)(x:AV):Option (PV×List (Nat×Blk)):=match a,x with
 |true,.pv (.val v)=>some (.val v,[])
 |_,x=>frz h x
def Jm(hn:List Nat)(d:Option Nat):Bool:=match d with
 |some d=>hn.contains (d+2000000)
 |none=>false
def rm(h:Hp)(ρ:Operand->AV)(a:Nat)(b:Bool):Nat->List (Nat×Operand)->Option (List PV×List (Nat×Blk))
 |_,[]=>some ([],[])
 |k,(i,x)::r=>if i=k then match H1 b h (ρ x),rm h ρ a b (k+1) r with
   |some (p,W),some (ps,c)=>if p.cells.length=a then some (p::ps,W++c)else none
   |_,_=>none
  else none
def gj(h:Hp):AV->Option (List PV)
 |.pv (.sl a)=>some a
 |.pv (.val v)=>if md v then some []else none
 |.arr k n=>match h k with
  |some (.row _ _ xs _)=>if xs.length=n then some xs else none
  |_=>none
 |_=>none
def uL(g:TI)(d:Option Nat)(s x:AV)(h:Hp):Option bG:=
 match g.kind with
 |.slice f b a (some z)=>
  match gj h x with
  |none=>none
  |some c=>
   if 0<b/\z.cells.size=b/\c.all (pV b)=true then
    match s with
    |.arr k n=>match h k with
     |some (.row e sz xs fz)=>
      if k<2000000/\xs.length=n/\e=f/\sz=b/\(n+c.length)*a<=140737488355328/\n+c.length<=9223372036854775807 then some (.arr k (n+c.length),[(k,.row e sz (xs++c) fz)])else none
     |_=>none
    |.pv (.val v)=>
     if md v then match d with
      |some d=>if(h d).isNone/\c.length*a<=140737488355328/\c.length<=9223372036854775807 then some (.arr d c.length,[(d,.row f b c 0)])else none
      |none=>none
     else none
    |_=>none
   else none
 |_=>none
def As(c:TI)(s x:AV)(h:Hp):Option bG:=
 match c.kind,s with
 |.slice _ a _ _,.arr k n=>match h k,gj h x with
  |some (.row e sz xs 0),some b=>
   if xs.length=n/\sz=a/\b.all (pV a)=true then
    some (.pv (.val (.int .i64 (Nat.min b.length n:Nat))),[(k,.row e sz (b.take (Nat.min b.length n)++xs.drop (Nat.min b.length n)) 0)])else none
  |_,_=>none
 |_,_=>none
def DO(a:TI)(x:AV)(h:Hp):Option AV:=
 match a.kind,x with
 |.slice _ _ _ _,.pv (.sl xs)=>some (.pv (.val (.int .i64 (xs.length:Nat))))
 |.slice _ _ _ _,.pv (.hd n)=>some (.pv (.val (.int .i64 (n:Nat))))
 |.slice _ _ _ _,.arr k n=>match h k with
  |some (.row _ _ xs _)=>if xs.length=n then some (.pv (.val (.int .i64 (n:Nat))))else none
  |_=>none
 |.slice _ _ _ _,.ext (.barr _ n _)=>some (.pv (.val (.int .i64 (n:Nat))))
 |.slice _ _ _ _,.ext (.suf k o n t)=>match h k with
  |some (.row _ _ xs _)=>if xs.length=t then some (.pv (.val (.int .i64 (n:Nat))))else none
  |_=>none
 |_,_=>none
def yc(b:TI)(hn:List Nat)(d:Option Nat)(l c:AV)(h:Hp):Option bG:=
 match b.kind,l,c,d with
 |.slice _ 1 a (some z),.pv (.val (.int _ n)),.pv (.val (.int _ m)),some d=>
  if hn.contains (d+1000000)=true/\jl (.val z)=true/\m=n/\0<=n/\(a:Int)*n<=281474976710656/\n<=9223372036854775807/\(h d).isNone then
   some (.ext (.barr d n.toNat n.toNat),[(d,.box (List.replicate n.toNat (.pv (.val z))) true false)])
  else none
 |_,_,_,_=>none
def BJ:Option bG->Option bG->Option bG
 |some v,_=>some v
 |none,y=>y
def sN(P:Program)(t:TypeId)(d:Option Nat)(h:Hp):Option bG:=
 match zD P t,d with
 |some (a,n,_),some d=>if(h d).isNone then some (.ext (.mp d),[(d,.mp a n [] false)])else none
 |_,_=>none
def H2(P:Program)(t:TypeId):Option Value:=(P.info? t).bind (·.zero)
def yd(z:Option Value)(ok:Bool):Option Value->Option AV
 |some v=>some (.pv (if ok then .tup [.val v,.val (.bool true)]else .val v))
 |none=>match z with
  |some z=>some (.pv (if ok then .tup [.val z,.val (.bool false)]else .val z))
  |none=>none
def DP(h:Hp):AV->Option (IntKind×Nat×List (List Int×Value))
 |.ext (.mp k)=>match h k with
  |some (.mp a n es _)=>some (a,n,es)
  |_=>none
 |.pv (.mp a n es)=>some (a,n,es)
 |_=>none
def uM(P:Program)(t:TypeId)(x i:AV)(ok:Bool)(h:Hp):Option AV:=
 match zD P t,DP h x with
 |some (b,n,c),some (a,e,es)=>if a=b/\e=n then match wu b n i with
   |some d=>yd (H2 P c) ok (iS es d)
   |none=>none else none
 |_,_=>none
def uN(P:Program)(t:TypeId)(x i v:AV)(h:Hp):Option (List (Nat×Blk)):=
 match zD P t,x,v with
 |some (a,n,_),.ext (.mp k),.pv (.val v)=>match h k,wu a n i with
  |some (.mp b d es false),some c=>if b=a/\d=n then some [(k,.mp a n (lS es c v) false)]else none
  |_,_=>none
 |_,_,_=>none
def At(f:TI)(d:Option Nat)(l c:AV)(h:Hp):Option bG:=
 match f.kind,l,c,d with
 |.slice e b a (some z),.pv (.val (.int _ n)),.pv (.val (.int _ m)),some d=>
  if 0<b/\z.cells.size=b/\m=n/\0<=n/\(a:Int)*n<=281474976710656/\n<=9223372036854775807/\(h d).isNone then
   some (.arr d n.toNat,[(d,.row e b (List.replicate n.toNat (.val z)) 0)])
  else none
 |_,_,_,_=>none
def iW(b:TI)(x:AV)(lo hi:Option AV):Option AV:=
 match b.kind,x with
 |.slice _ a _ _,.pv (.sl xs)=>
  let l:=match lo with|none=>some 0|some (.pv (.val (.int _ n)))=>if 0<=n then some n.toNat else none|_=>none
  let r:=match hi with|none=>some xs.length|some (.pv (.val (.int _ n)))=>if 0<=n then some n.toNat else none|_=>none
  match l,r with
  |some l,some r=>if l<=r/\r<=xs.length/\0<a/\xs.all (pV a)=true then some (.pv (.sl ((xs.take r).drop l)))else none
  |_,_=>none
 |_,_=>none
def er:AV->Option Value
 |.pv (.val v)=>some v
 |_=>none
def qM(x:AV):Value:=(er x).getD undef
def aU(P:Program)(o:Oper)(ρ:Operand->AV):Option bG:=
 if(o.op.operands.toList.all λx=>(er (ρ x)).isSome)=true then
  match ag P (execOp (λx=>qM (ρ x)) o)with
  |some (.value v)=>some (.pv (.val v),[])
  |_=>none
 else none
def BK(op:BinOp)(k:IntKind)(a b:Int):Int:=match op with
 |.and=>k.wrap (BitVec.ofInt k.bits a &&& BitVec.ofInt k.bits b).toNat
 |.or=>k.wrap (BitVec.ofInt k.bits a ||| BitVec.ofInt k.bits b).toNat
 |.xor=>k.wrap (BitVec.ofInt k.bits a ^^^ BitVec.ofInt k.bits b).toNat
 |_=>k.wrap (BitVec.ofInt k.bits a &&& ~~~BitVec.ofInt k.bits b).toNat
def tW(op:BinOp)(x y:AV):Option Value:=
 match x,y with
 |.pv (.val (.int k a)),.pv (.val (.int c b))=>match op with
  |.shl=>if 0<=b then some (.int k (k.wrap (a*2^(min b.toNat k.bits))))else none
  |.shr=>if 0<=b then some (.int k (a.fdiv (2^(min b.toNat k.bits))))else none
  |.add=>if k=c then some (.int k (k.wrap (a+b)))else none
  |.sub=>if k=c then some (.int k (k.wrap (a-b)))else none
  |.mul=>if k=c then some (.int k (k.wrap (a*b)))else none
  |.quo=>if k=c/\b≠0 then some (.int k (k.wrap (a.tdiv b)))else none
  |.rem=>if k=c/\b≠0 then some (.int k (a.tmod b))else none
  |.eql=>if k=c then some (.bool (a==b))else none
  |.neq=>if k=c then some (.bool (a !=b))else none
  |.lss=>if k=c then some (.bool (decide (a<b)))else none
  |.leq=>if k=c then some (.bool (decide (a<=b)))else none
  |.gtr=>if k=c then some (.bool (decide (b<a)))else none
  |.geq=>if k=c then some (.bool (decide (b<=a)))else none
  |.and=>if k=c then some (.int k (BK .and k a b))else none
  |.or=>if k=c then some (.int k (BK .or k a b))else none
  |.xor=>if k=c then some (.int k (BK .xor k a b))else none
  |.andNot=>if k=c then some (.int k (BK .andNot k a b))else none
 |.pv (.val (.string a)),.pv (.val (.string b))=>match op with
  |.add=>if a.size+b.size<=9223372036854775807 then some (.string (a++b))else none
  |.eql=>some (.bool (a.toList==b.toList))
  |.neq=>some (.bool !(a.toList==b.toList))
  |_=>none
 |_,_=>none
def Au(op:UnOp)(x:AV):Option Value:=
 match op,x with
 |.not,.pv (.val (.bool b))=>some (.bool !b)
 |.neg,.pv (.val (.int k n))=>some (.int k (k.wrap (0-n)))
 |_,_=>none
def gD(P:Program)(t:TypeId):Option IntKind:=match P.underlying t with
 |some (.int k)=>some k
 |_=>none
def uO(P:Program)(s d:TypeId)(x:AV):Option Value:=
 match gD P s,gD P d,x with
 |some _,some k,.pv (.val (.int _ n))=>some (.int k (k.wrap n))
 |_,_,_=>none
def ye:List AV->Option Value
 |[.pv (.val (.int k a)),.pv (.val (.int _ b))]=>some (.int k (if b<a then b else a))
 |_=>none
def yg:List AV->Option Value
 |[.pv (.val (.int k a)),.pv (.val (.int _ b))]=>some (.int k (if b>a then b else a))
 |_=>none
def nG(P:Program)(o:Oper)(ρ:Operand->AV):Option Value->Option bG
 |some v=>some (.pv (.val v),[])
 |none=>aU P o ρ
def Ea:AV->Option Int
 |.pv (.val (.int _ n))=>some n
 |_=>none
def wC(P:Program)(o:Oper)(b:Builtin)(args:List AV)(a:List TypeId)(ρ:Operand->AV)(h:Hp):Option bG:=
 match b,args,a with
 |.len,[x],[t]=>match x with
  |.pv (.val _)=>aU P o ρ
  |_=>match aA P t with
   |some ti=>(DO ti x h).map λv=>(v,[])
   |none=>none
 |.append,[s,x],[t,t']=>if t=t' then match aA P t with
   |some ti=>uL ti o.dst s x h
   |none=>none
  else none
 |.copy,[s,x],[t,_]=>match aA P t with
  |some ti=>As ti s x h
  |none=>none
 |.min,_,_=>nG P o ρ (ye args)
 |.max,_,_=>nG P o ρ (yg args)
 |_,_,_=>none
def pW(P:Program)(t:TypeId):Option (Option Nat):=match P.underlying t with
 |some .string=>some none
 |some (.array n e)=>match P.underlying e with
  |some (.struct _)=>none
  |some (.array _ _)=>none
  |some _=>if oX P e=1/\(P.info? e).isSome=true then some (some n)else none
  |none=>none
 |_=>none
def Av:Option (Option Nat)->AV->AV->Option Value
 |some none,.pv (.val (.string s)),.pv (.val (.int _ i))=>if 0<=i then(s[i.toNat]?).map λb=>.int .u8 b.toNat else none
 |some (some n),.pv (.val (.agg cs)),.pv (.val (.int _ i))=>if 0<=i/\i<n then cs[i.toNat]? else none
 |_,_,_=>none
def nH(P:Program)(t:TypeId):Option Bool:=match P.underlying t with
 |some (.struct _)=>some true
 |some (.array _ _)=>some true
 |some _=>some false
 |none=>none
def DQ(P:Program)(t:TypeId):Option (Nat×Nat):=match P.underlying t with
 |some (.array n e)=>match nH P e,P.info? e with
  |some true,some j=>some (n,j.size)
  |_,_=>none
 |_=>none
def zE(cs:Array Value)(off sz:Nat):Value:=.agg ((cs.toList.drop off).take sz).toArray
def Aw:Option (Nat×Nat)->AV->AV->Option Value
 |some (n,sz),.pv (.val (.agg cs)),.pv (.val (.int _ i))=>if 0<=i/\i<n then some (zE cs (i.toNat*sz) sz)else none
 |_,_,_=>none
def lw(P:Program)(t:TypeId)(f:Nat):Option (Bool×Nat×Nat):=match P.underlying t with
 |some (.struct c)=>match c[f]? with
  |some a=>match nH P a.type,P.info? a.type with
   |some b,some j=>some (b,a.offset,j.size)
   |_,_=>none
  |none=>none
 |_=>none
def yh:Option (Bool×Nat×Nat)->AV->Option Value
 |some (true,off,sz),.pv (.val (.agg cs))=>some (zE cs off sz)
 |some (false,off,_),.pv (.val (.agg cs))=>cs[off]?
 |_,_=>none
def yi:Option Value->Option Value->Option Value
 |some v,_=>some v
 |none,y=>y
def DR(f:Fn):List AV->List AV->AV
 |x::r,[]=>match jk (x::r)with
  |some ps=>match cW ps with
   |some vs=>.pv (.val (.func f vs.toArray #[]))
   |none=>.pv (.fn f ps [])
  |none=>.fn f (x::r) []
 |first,a=>.fn f first a
def uP(h:Hp):AV->Option Bool
 |.pv (.val v)=>if md v then some true else none
 |.pv (.sl xs)=>if xs.isEmpty then none else some false
 |.arr k n=>match h k with
  |some (.row _ _ xs _)=>if xs.length=n/\n≠0 then some false else none
  |_=>none
 |_=>none
def rn(h:Hp):AV->Bool
 |.pv (.sl xs)=>xs.isEmpty
 |.arr k n=>match h k with
  |some (.row _ _ xs _)=>decide (xs.length=n)&&decide (n=0)
  |_=>false
 |_=>false
def mR(P:Program)(t:TypeId):Bool:=match aA P t with
 |some {kind:=.slice _ _ _ _,..}=>true
 |_=>false
def Ax(op:BinOp):Option Bool->Option Bool
 |none=>none
 |some b=>match op with
  |.eql=>some b
  |.neq=>some !b
  |_=>none
def Eb(P:Program)(h:Hp)(ρ:Operand->AV)(op:BinOp)(t:TypeId)(x y:Operand):Option Bool:=
 if(nF (ρ y)&&mR P t)=true then Ax op (uP h (ρ x))else none
def zF(P:Program)(hn:List Nat)(dst:Option Nat)(h:Hp)(t:TypeId)(len:Nat)(ps:List (Nat×Operand)):Option bG:=
 match len,ps,dst with
 |0,[],some d=>if hn.contains d=true then match aA P t with
   |some {kind:=.slice e a _ (some _),..}=>if(h d).isNone/\0<a then some (.arr d 0,[(d,.row e a [] 0)])else none
   |_=>none
  else none
 |_,_,_=>none
def Ec(hn:List Nat)(dst:Option Nat)(h:Hp)(W:List (Nat×Blk)):Option Nat:=match dst,W with
 |some d,[]=>if(hn.contains d&&(h d).isNone)=true then some d else none
 |_,_=>none
def Nb(a:TI)(h:Hp)(x:AV)(lo hi:Option AV):Option bG:=match tB h x with
 |some (p,W)=>match iW a (.pv p) lo hi with
  |some v=>some (v,W)
  |none=>none
 |none=>none
def tX(P:Program)(t:TypeId):Bool:=match P.underlying t with
 |some (.interface _)=>false
 |some _=>true
 |none=>false
def BL(P:Program)(t:TypeId)(p:PV)(a:TypeId)(ok:Bool):Option AV:=
 if t=a then some (if ok then .pv (.tup [p,.val (.bool true)])else .pv p)
 else if ok then match(aA P a).bind (·.zero)with
  |some z=>some (.pv (.tup [.val z,.val (.bool false)]))
  |none=>none
 else none
def Ay(P:Program)(t:TypeId)(name:String):Option FuncId:=match P.info? t with
 |some i=>match i.methods.find? (·.name==name)with
  |some m=>if m.path.isEmpty then(match m.func,P.underlying t with
    |some (_,true),_=>none
    |some (_,false),some (.pointer _)=>none
    |some (f,false),some _=>some f
    |_,_=>none)else none
  |none=>none
 |none=>none
def qu(P:Program)(name:String):AV->AV
 |.pv (.ifc t p)=>match Ay P t name with
  |some f=>.fn (.func f) [.pv p] []
  |none=>.undef
 |_=>.undef
def du(P:Program)(hn:List Nat)(o:Oper)(ρ:Operand->AV)(h:Hp):Option bG:=
 match o.op with
 |.move x=>some (ρ x,[])
 |.assign x=>match o.dst with
  |some d=>if(hn.contains d&&nF (ρ x))=true then
    match aA P o.type with
    |some {kind:=.slice e g _ _,..}=>if(h d).isNone/\0<g then some (.arr d 0,[(d,.row e g [] 0)])else none
    |_=>none
   else some (ρ x,[])
  |none=>some (ρ x,[])
 |.pick c a b=>match ρ c with
  |.pv (.val (.bool t))=>some (if t then ρ a else ρ b,[])
  |_=>none
 |.alloc e=>match aA P e,o.dst with
  |some {zero:=some z,..},some d=>if(h d).isNone then some (.ptr d 0,[(d,.box (z.cells.toList.map λv=>.pv (.val v)) true false)])else none
  |_,_=>none
 |.box _ x=>match gQ h (ρ x),o.dst with
  |some cs,some d=>if(h d).isNone then some (.ptr d 0,[(d,.box cs true false)])else none
  |_,_=>none
 |.build t ps=>match aA P t,rl h ρ ps.toList with
  |some ti,some r=>(yb ti r).map λv=>(v,[])
  |_,_=>none
 |.buildSlice t len ps=>match zF P hn o.dst h t len ps.toList with
  |some m=>some m
  |none=>match aA P t with
   |some {kind:=.slice e g _ (some _),..}=>match rm h ρ g (Jm hn o.dst) 0 ps.toList with
    |some (xs,W)=>if xs.length=len/\0<g/\len*g<=16777216 then(match Ec hn o.dst h W with
     |some d=>some (.arr d len,[(d,.row e g xs 0)])
     |none=>some (.pv (.sl xs),W))else none
    |none=>none
   |_=>none
 |.load t a=>match aA P t with
  |some ti=>(ww ti (ρ a) h).map λv=>(v,[])
  |none=>none
 |.store t a v=>match aA P t with
  |some ti=>(xZ ti (ρ a) (ρ v) h).map λW=>(.undef,W)
  |none=>none
 |.nilCheck x=>match ρ x with
  |.ptr k off=>some (.ptr k off,[])
  |.pv (.rptr y off)=>some (.pv (.rptr y off),[])
  |_=>none
 |.fieldAddr s x f=>match aA P s with
  |some ti=>(pK ti (ρ x) f h).map λv=>(v,[])
  |none=>none
 |.indexAddr t x i=>match aA P t,Ea (ρ i)with
  |some ti,some n=>(BI (pL ti (ρ x) n h) (uJ ti (ρ x) n h)).map λv=>(v,[])
  |_,_=>none
 |.makeFunc f first j=>some (DR f (first.toList.map ρ) (j.toList.map ρ),[])
 |.makeInterface t x=>if tX P t then(match frz h (ρ x)with
   |some (p,W)=>some (.pv (.ifc t p),W)
   |none=>none)else none
 |.typeAssert x _ a ok=>match ρ x with
  |.pv (.ifc t p)=>if tX P a then(BL P t p a ok).map λv=>(v,[])else none
  |_=>none
 |.makeSlice t l c=>match aA P t with
  |some ti=>BJ (yc ti hn o.dst (ρ l) (ρ c) h) (At ti o.dst (ρ l) (ρ c) h)
  |none=>none
 |.makeMap t none=>sN P t o.dst h
 |.lookup t x i ok=>(uM P t (ρ x) (ρ i) ok h).map λv=>(v,[])
 |.mapUpdate t x i v=>(uN P t (ρ x) (ρ i) (ρ v) h).map λW=>(.undef,W)
 |.slice t x lo hi q=>match ρ x,q with
  |.pv (.val _),_=>aU P o ρ
  |.arr k n,none=>match aA P t with
   |some ti=>Nb ti h (.arr k n) (lo.map ρ) (hi.map ρ)
   |none=>none
  |_,none=>match aA P t with
   |some ti=>(iW ti (ρ x) (lo.map ρ) (hi.map ρ)).map λv=>(v,[])
   |none=>none
  |_,_=>none
 |.extract t i=>match ρ t with
  |.tup vs=>(vs[i]?).map λv=>(v,[])
  |.pv (.tup vs)=>(vs[i]?).map λv=>(.pv v,[])
  |.pv (.val _)=>aU P o ρ
  |_=>none
 |.call c=>match c.callee with
  |.builtin b=>wC P o b (c.args.toList.map ρ) c.argTypes.toList ρ h
  |_=>none
 |.binOp op t x y _=>match Eb P h ρ op t x y with
  |some b=>some (.pv (.val (.bool b)),[])
  |none=>nG P o ρ (tW op (ρ x) (ρ y))
 |.unOp op _ x=>nG P o ρ (Au op (ρ x))
 |.convert s d x=>nG P o ρ (uO P s d (ρ x))
 |.field t x f=>nG P o ρ (yh (lw P t f) (ρ x))
 |.index t x i=>nG P o ρ (yi (Av (pW P t) (ρ x) (ρ i)) (Aw (DQ P t) (ρ x) (ρ i)))
 |_=>none
structure St where
 t:Nat->AV
 h:Hp
def St.ev(st:St):Operand->AV
 |.tmp n=>st.t n
 |.const v=>.pv (.val v)
 |.global _=>.undef
 |.func f=>.pv (.val (.func (.func f) #[] #[]))
def ai(h:Hp)(W:List (Nat×Blk)):Hp:=W.foldl (λh a=>av h a.1 (some a.2)) h
def St.put(st:St)(d:Option Nat)(v:AV)(W:List (Nat×Blk)):St:=
 ⟨match d with|some d=>av st.t d v|none=>st.t,ai st.h W⟩
inductive Arg where
 |pv(p:PV)
 |bx(i:Nat)
inductive RV where
 |pv(p:PV)
 |box(ps:List PV)
 |row(e sz:Nat)(xs:List PV)
 |srow(pre:List PV)(e sz:Nat)(xs:List PV)
 |nrow(e sz:Nat)(xs:List PV)
 |new(p:PV)
def bS(P:Program)(f:FuncId):Bool:=match P.funcs[f]? with
 |some fn=>fn.body.isSome&& !(fn.name== "runtime.NumGoroutine")
 |none=>false
def kh(w:World)(M:Nat->Nat->Prop)(b:Nat)(ps:List PV):Prop:=∃arr ty,w.heap[b]?=some (.cells arr ty (0,0))/\bp w M ps arr.toList
def Jn(w:World)(M:Nat->Nat->Prop)(bs:List Nat):Arg->Value->Prop
 |.pv p,v=>Rep w M p v
 |.bx j,v=>∃b,bs[j]?=some b/\v=.pointer (some ⟨b,0,none⟩)
def Az(w w':World)(M:Nat->Nat->Prop):RV->Value->Prop
 |.pv p,v=>Rep w' M p v
 |.new p,v=>Rep w' (λb _=>b<w.heap.size) p v
 |.box ps,v=>∃b,w.heap.size<=b/\v=.pointer (some ⟨b,0,none⟩)/\kh w' (λa o=>M a o\/a=b) b ps
 |.row e sz xs,v=>∃l:Loc,v=l.slice xs.length/\(l.isNil=false->w.heap.size<=l.b)/\
   dk w' (λa o=>M a o\/(l.isNil=false/\a=l.b)) (λ_=>default) (λ_=>none) l (.row e sz xs 0)
 |.nrow e sz xs,v=>xs.all kI=true/\∃l:Loc,v=l.slice xs.length/\(l.isNil=false->w.heap.size<=l.b)/\
   dk w' (λa o=>M a o\/(l.isNil=false/\a=l.b)) (λ_=>default) (λ_=>none) l (.row e sz xs 0)
 |.srow pre e sz xs,v=>∃(l:Loc)(us:List Value),v=.agg (us++[l.slice xs.length]).toArray/\(l.isNil=false->w.heap.size<=l.b)/\bp w' (λa o=>M a o\/(l.isNil=false/\a=l.b)) pre us/\
   dk w' (λa o=>M a o\/(l.isNil=false/\a=l.b)) (λ_=>default) (λ_=>none) l (.row e sz xs 0)
def aW(P:Program)(f:FuncId)(args:List Arg)(hin hout:List (List PV))(res:RV):Prop:=
 bS P f=true/\hout.length=hin.length/\∀(w:World)(M:Nat->Nat->Prop)(c:List Nat)(vs:List Value),
  (∀b o,M b o->b<w.heap.size)->c.length=hin.length->c.Nodup->
  (∀(i:Nat) b ps,c[i]?=some b->hin[i]?=some ps->(∀o,M b o)/\kh w M b ps)->
  args.length=vs.length->(∀(i:Nat) a v,args[i]?=some a->vs[i]?=some v->Jn w M c a v)->
  Calls P f vs.toArray w λe w'=>∃v,e=.returned v/\Ext (·∈c) w w'/\
   (∀(i:Nat) b ps,c[i]?=some b->hout[i]?=some ps->kh w' M b ps)/\Az w w' M res v
def bC:AV->Option (FuncId×List AV×List AV)
 |.pv (.val (.func (.func f) first a))=>some (f,first.toList.map (λv=>.pv (.val v)),a.toList.map (λv=>.pv (.val v)))
 |.pv (.fn (.func f) first a)=>some (f,first.map .pv,a.map .pv)
 |.fn (.func f) first a=>some (f,first,a)
 |_=>none
def H3(h:Hp)(k:Nat):Bool:=match h k with
 |some (.box cs true _)=>(jk cs).isSome
 |_=>true
def i6(h:Hp):List AV->List Nat->Option (List Arg×List Nat×List (Nat×Blk))
 |[],b=>some ([],b,[])
 |x::r,b=>match x with
  |.ptr k off=>if off=0/\b.contains k=false/\H3 h k=true then match i6 h r (b++[k])with
    |some (as,a,W)=>some (.bx b.length::as,a,W)
    |none=>none
   else if H3 h k=false then match rA h (.ptr k off),i6 h r b with
    |some (p,W),some (as,a,c)=>some (.pv p::as,a,W++c)
    |_,_=>none
   else none
  |x=>match frz h x,i6 h r b with
   |some (p,W),some (as,a,c)=>some (.pv p::as,a,W++c)
   |_,_=>none
def lT(h:Hp):List Nat->Option (List (List PV))
 |[]=>some []
 |k::r=>match h k,lT h r with
  |some (.box cs _ false),some a=>match jk cs with
   |some ps=>some (ps::a)
   |none=>none
  |_,_=>none
def jw(h:Hp):List Nat->List (List PV)->List (Nat×Blk)
 |k::b,ps::a=>(match h k with
   |some (.box _ own _)=>[(k,.box (ps.map .pv) own false)]
   |_=>[])++jw h b a
 |_,_=>[]
def Ed:PV->Bool
 |.val _=>true
 |.hd _=>true
 |_=>false
def tY:PV->Bool
 |.val _=>true
 |.hd _=>true
 |.tup cs=>cs.all Ed
 |.agg cs=>cs.all Ed
 |_=>false
def H4(ks:List Nat)(p:PV)(W:List (Nat×Blk)):List (Nat×Blk):=if(ks.isEmpty&&tY p)=true then[]else W
def lx(h:Hp)(d:Option Nat)(ks:List Nat)(a:List (Nat×Blk))(hout:List (List PV))(res:RV):Option bG:=
 match res,d with
 |.pv p,_=>some (.pv p,H4 ks p a++jw h ks hout)
 |.new p,_=>if ks=[]then some (.pv p,[])else none
 |.box ps,some d=>if(h d).isNone/\ks=[]then some (.ptr d 0,a++[(d,.box (ps.map .pv) true false)])else none
 |.row e sz xs,some d=>if(h d).isNone/\ks=[]then some (.arr d xs.length,a++[(d,.row e sz xs 0)])else none
 |.nrow e sz xs,some d=>if(h d).isNone/\ks=[]then some (.arr d xs.length,[(d,.row e sz xs 0)])else none
 |.srow pre e sz xs,some d=>if(h d).isNone/\ks=[]then some (.agg (pre.map .pv++[.arr d xs.length]),a++[(d,.row e sz xs 0)])else none
 |_,_=>none
def iA(x:Option bG)(K:bG->Prop):Prop:=match x with
 |some e=>K e
 |none=>False
def zG(P:Program)(g:FuncId)(as:List Arg)(hin:List (List PV))(F:List (List PV)->RV->Prop):Prop:=∃a b,aW P g as hin a b/\F a b
def gc(P:Program)(c:AV)(args:List AV)(d:Option Nat)(h:Hp)(K:bG->Prop):Prop:=
 match bC c with
 |none=>False
 |some (g,first,a)=>match i6 h (first++args++a) []with
  |none=>False
  |some (as,f,j)=>if(j.any λk=>f.contains k.1)=true then False else match lT h f with
   |none=>False
   |some e=>zG P g as e λb i=>iA (lx h d f j b i) K
def tZ(P:Program)(hn:List Nat)(o:Oper)(ρ:Operand->AV)(h:Hp)(K:bG->Prop):Prop:=
 match o.op with
 |.call c=>match c.callee with
  |.value f=>gc P (ρ f) (c.args.toList.map ρ) o.dst h K
  |.invoke r name=>gc P (qu P name (ρ r)) (c.args.toList.map ρ) o.dst h K
  |_=>iA (du P hn o ρ h) K
 |_=>iA (du P hn o ρ h) K
def gR(P:Program)(g:FuncId):Prop:=bS P g=true/\∀(args:Array Value)(w:World),CallsD P g args .returning w λe a w'=>a=.returning/\(∃v,e=.returned v)/\w'=w
def GO(P:Program)(K:bG->Prop):AV->Prop
 |.fn (.func g) _ _=>gR P g/\K (.undef,[])
 |_=>False
def H5(x y:Prop):Prop:=x/\y
theorem jV{x y:Prop}(a:x)(b:y):H5 x y:=⟨a,b⟩
def wD(P:Program)(hn:List Nat)(o:Oper)(ρ:Operand->AV)(h:Hp)(K:bG->Prop):Prop:=
 match o.op with
 |.defer c=>match c.callee with
  |.value f=>if c.args.size=0 then GO P K (ρ f)else False
  |_=>False
 |.binOp op t x y _=>if(nF (ρ y)&&mR P t&&rn h (ρ x)&&(op==.eql||op==.neq))=true then H5 (K (.pv (.val (.bool true)),[])) (K (.pv (.val (.bool false)),[]))else tZ P hn o ρ h K
 |_=>tZ P hn o ρ h K
def eC(ops:Array Oper)(t:Nat->AV)(g:Option (Nat×Bool)):Option Bool:=
 match g with
 |none=>some true
 |some (j,want)=>match(ops[j]?).bind (·.dst)with
  |some d=>match t d with
   |.pv (.val (.bool b))=>some (b==want)
   |.pv (.val (.tuple _))=>some false
   |_=>none
  |none=>none
def dI(N:Nat):Option Nat->Bool
 |some d=>decide (d<N)&&decide (d<2000000)
 |none=>true
def kJ(ops:Array Oper)(t:Nat->AV)(g:Option (Nat×Bool)):Option (Option (Nat×Bool×Bool)):=
 match g with
 |none=>some none
 |some (j,want)=>match(ops[j]?).bind (·.dst)with
  |some d=>match t d with
   |.pv (.val (.bool b))=>some (some (d,b,want))
   |.pv (.val (.tuple _))=>some (some (d,!want,want))
   |_=>none
  |none=>none
def y7(b:Bool)(_:Nat)(st:St)(F:Bool->St->Prop):Prop:=F b st
def bZ(P:Program)(hn:List Nat)(N:Nat)(ops:Array Oper)(Q:St->Prop):List Oper->St->Prop
 |[],c=>Q c
 |o::rest,c=>dI N o.dst=true/\(match kJ ops c.t o.guard with
   |some none=>wD P hn o c.ev c.h (λe=>bZ P hn N ops Q rest (c.put o.dst e.1 e.2))
   |some (some (d,b,want))=>y7 b d c (λf a=>if f=want then wD P hn o a.ev a.h (λe=>bZ P hn N ops Q rest (a.put o.dst e.1 e.2))else bZ P hn N ops Q rest (a.put o.dst (.pv (.val (.tuple #[]))) []))
   |none=>False)
theorem pM{t:Nat->AV}(e:kJ ops t g=some none):eC ops t g=some true:=by
 unfold kJ at e;unfold eC;split at e
 .rfl
 .split at e
  .split at e
   .injection e with e;cases e
   .injection e with e;cases e
   .cases e
  .cases e
theorem me{t:Nat->AV}{b want:Bool}(e:kJ ops t g=some (some (d,b,want))):eC ops t g=some (b==want):=by
 unfold kJ at e;unfold eC;split at e
 .injection e with e;cases e
 .rename_i j w
  split at e
  .rename_i f hd
   split at e
   .rename_i c a
    injection e with e;injection e with e;injection e with e1 e;injection e with e2 e3;subst e1;subst e2;subst e3;simp only[hd,a]
   .rename_i q a
    injection e with e;injection e with e;injection e with e1 e;injection e with e2 e3;subst e1;subst e2;subst e3;cases w<;>rfl
   .cases e
  .cases e
theorem fU{arr:Array Value}{a:Nat×Nat}(h:w.heap[b]?=some (.cells arr ty a)):w.cell? ⟨b,o,none⟩=arr[o]?:=by
 simp[World.cell?,h]
theorem fo(b o n:Nat):(⟨b,o,none⟩:Addr).add n=⟨b,o+n,none⟩:=by unfold Addr.add;split<;>simp_all
def aH(C:Cx)(L:Nat->Loc)(h:Hp)(w:World)(L':Nat->Loc)(h':Hp)(w':World):Prop:=
 MemL C L' h' w'/\Pres w (ae C L h) w' (ae C L' h')/\KC L h L' h'
theorem aH.trans{L:Nat->Loc}{c:Hp}{d:World}(a:aH C L h w L' h' w')(b:aH C L' h' w' L'' c d):aH C L h w L'' c d:=
 ⟨b.1,a.2.1.trans b.2.1,a.2.2.trans b.2.2⟩
theorem aH.refl{L:Nat->Loc}(a:MemL C L h w):aH C L h w L h w:=⟨a,Pres.refl _ _,KC.refl _ _⟩
theorem kK(h:md v=true):v=.slice none 0 0:=by
 grind [md]
theorem Jo(h:Rep w M p u):Rep w M (xY p) u:=by
 unfold xY;split
 .split
  .rename_i v a;cases h;rw[kK a];exact .sl0 none 0
  .exact h
 .exact h
theorem AA(h:bp w M ps us):bp w M (ps.map xY) us:=by
 refine⟨by simpa using h.1,λi p u hp a=>?_⟩;simp only[Y7,II]at hp;obtain⟨q,hq,rfl⟩:=hp;exact Jo (h.2 i q u hq a)
theorem Eg(h:Rep w M p u):Rep w M (norm p) u:=by
 unfold norm;split
 .rename_i v
  split
  .rename_i a;cases h;rw[kK a];exact .sl0 none 0
  .split
   .rename_i a
    unfold D9 at a;split at a
    .rename_i cs
     have b:=h.cells;cases h;have:=kH (AA b);simpa[Value.cells]using this
    .cases a
   .exact h
 .rename_i cs
  cases h with
  |agg _ vs d c=>exact kH (AA ⟨d,c⟩)
 .exact h
def bI(h1 h:Hp):Prop:=∀k b,h1 k=some b->∃l,h k=some l/\(match b,l with
 |.box cs own fz,.box d c a=>d=cs/\c=own/\(fz=true->a=true)
 |.row e sz xs fz,.row m i j a=>m=e/\i=sz/\j=xs/\fz<=a
 |.mp o n es fz,.mp g p f a=>g=o/\p=n/\f=es/\(fz=true->a=true)
 |_,_=>False)
theorem bI.row(hf:bI h1 h)(b:h1 k=some (.row e sz xs fz)):∃a,h k=some (.row e sz xs a)/\fz<=a:=by
 obtain⟨c,d,f⟩:=hf k _ b
 grind
theorem bI.box(hf:bI h1 h){own fz:Bool}(b:h1 k=some (.box cs own fz)):∃a,h k=some (.box cs own a)/\(fz=true->a=true):=by
 obtain⟨c,d,e⟩:=hf k _ b
 grind
theorem bI.mp{h1 h:Hp}(hf:bI h1 h){k n:Nat}{kd:IntKind}{es:List (List Int×Value)}{fz:Bool}(b:h1 k=some (.mp kd n es fz)):∃a,h k=some (.mp kd n es a)/\(fz=true->a=true):=by
 obtain⟨c,d,e⟩:=hf k _ b
 grind
theorem bI.refl(h:Hp):bI h h:=λk b a=>⟨b,a,by cases b<;>simp⟩
theorem bI.of_sub(hs:∀k b,h1 k=some b->h k=some b):bI h1 h:=λk b a=>⟨b,hs k b a,by cases b<;>simp⟩
theorem bI.set_row(hf:bI h1 h)(g:h1 k=some (.row e sz xs fz))(a:fz<=xs.length):bI h1 (av h k (some (.row e sz xs xs.length))):=by
 intro q b hq;by_cases e:q=k
 .grind [aG]
 .obtain⟨c,d,f⟩:=hf q b hq
  grind [bc]
theorem bI.set_box(hf:bI h1 h){own fz:Bool}(f:h1 k=some (.box cs own fz)):bI h1 (av h k (some (.box cs own true))):=by
 intro q b hq;by_cases e:q=k
 .grind [aG]
 .obtain⟨a,c,d⟩:=hf q b hq
  grind [bc]
theorem bI.set_mp(hf:bI h1 h){kd:IntKind}{fz:Bool}(f:h1 k=some (.mp kd n es fz)):bI h1 (av h k (some (.mp kd n es true))):=by
 intro q b hq;by_cases e:q=k
 .grind [aG]
 .obtain⟨a,c,d⟩:=hf q b hq
  grind [bc]
theorem oY{L:Nat->Loc}(c:MemL C L h w)(a:h k=some (.row e sz xs fz)):(L k).isNil=true/\xs=[]\/(L k).isNil=false/\xs.length<=(L k).cap/\(L k).cap<=maxLen/\∃arr,w.heap[(L k).b]?=some (.cells arr e (0,0))/\arr.size=(L k).cap*sz/\
 ∀(i:Nat) x(j:Nat) p,xs[i]?=some x->x.cells[j]?=some p->∃u,arr[i*sz+j]?=some u/\Rep w (ae C L h) p u:=by
 obtain⟨_,_,_,d,h5⟩:=c.bl k _ a
 grind
theorem uQ{L:Nat->Loc}(m:MemL C L h w)(g:h k=some (.row e sz xs fz)):
 aH C L h w L (av h k (some (.row e sz xs xs.length))) w/\Rep w (ae C L (av h k (some (.row e sz xs xs.length)))) (.sl xs) ((L k).slice xs.length):=by
 have M:=m.bl k _ g;obtain⟨h1,J,E,K,h5⟩:=M
 have r:∀b o,ae C L (av h k (some (.row e sz xs xs.length))) b o->ae C L h b o:=by
  rintro b o (D|⟨q,B,hq,v,c,hf⟩)
  .exact .inl D
  .by_cases eq:q=k
   .subst eq
    rw[aG]at hq;injection hq with hq;subst hq;refine .inr ⟨q,_,g,v,c,λn=>hf ?_⟩;simp only[Blk.frz]at n|-;exact ZY n (Zt _ J)
   .rw[bc eq]at hq;exact .inr ⟨q,B,hq,v,c,hf⟩
 have a:Pres w (ae C L h) w (ae C L (av h k (some (.row e sz xs xs.length)))):=Pres.sub r
 have O:KC L h L (av h k (some (.row e sz xs xs.length))):=by
  intro q b hq;by_cases I:q=k
  .subst I;rw[g]at hq;injection hq with hq;subst hq;exact⟨_,aG _ _ _,rfl,rfl,Zf _,λ_=>rfl⟩
  .exact⟨b,by rw[bc I];exact hq,bv _ _⟩
 refine⟨m.touch g (λ_ _ _=>rfl) (Zf _) rfl rfl rfl (λ_ _ _ _ h=>h) (λo hf=>?_) ⟨rfl,rfl,Zf _,λ_=>rfl⟩ yAn (by have F:=m.own k _ g;exact F) ?_,?_⟩
 .simp only[Blk.frz]at hf|-;exact ZY hf (Zt _ J)
 .refine⟨h1,Zf _,E,K,λhn=>?_⟩
  obtain⟨a1,G,arr,z,H,A⟩:=h5 hn;refine⟨a1,G,arr,z,H,λi x j p d l=>?_⟩;obtain⟨u,s,y⟩:=A i x j p d l;exact⟨u,s,y.mono a⟩
 .unfold Loc.slice
  cases hn:(L k).isNil with
  |true=>rw[K hn];exact .sl0 none 0
  |false=>
   obtain⟨a1,G,arr,z,H,A⟩:=h5 hn;simp only[Y9,Zk]
   have f:∀(i:Nat) x(j:Nat) p,xs[i]?=some x->x.cells[j]?=some p->∃u,arr[i*sz+j]?=some u/\Rep w (ae C L (av h k (some (.row e sz xs xs.length)))) p u:=by
    intro i x j p d l;obtain⟨u,s,y⟩:=A i x j p d l;exact⟨u,s,y.mono a⟩
   refine .sl xs (L k).b 0 (L k).cap sz (λi j=>(arr[i*sz+j]?).getD undef) a1 (λi x d=>E x (An d)) ?_ ?_
   .intro i x j p d l
    obtain⟨u,s,y⟩:=f i x j p d l;refine⟨by rw[fU z];simp[s],?_⟩;rintro(D|⟨q,B,hq,v,c,hf⟩)
    .have:=m.m0 _ _ D
     rcases(m.own k _ g).row hn with F|F
     all_goals grind
    .by_cases eq:q=k
     .subst eq
      rw[aG]at hq;injection hq with hq;subst hq;apply hf;simp only[Blk.frz];have hi:i<xs.length:=(th.1 d).1
      have N:j<sz:=by rw[<-E x (An d)];exact(th.1 l).1
      have:(i+1)*sz<=xs.length*sz:=Zt _ hi
      grind
     .rw[bc eq]at hq
      exact m.sep q k B _ eq hq g v hn c
   grind
theorem rB{L:Nat->Loc}(f:MemL C L h w){fz:Bool}(e:h k=some (.box cs true fz))
 (B:∀arr ty,w.heap[(L k).b]?=some (.cells arr ty (0,0))->aD w (ae C L h) L h cs arr.toList->bp w (ae C L h) ps arr.toList):
 aH C L h w L (av h k (some (.box cs true true))) w/\∃u:Nat->Value,∀(j:Nat) p,ps[j]?=some p->
  (w.cell? ⟨(L k).b,0+j,none⟩=some (u j)/\¬ae C L (av h k (some (.box cs true true))) (L k).b (0+j))/\Rep w (ae C L (av h k (some (.box cs true true)))) p (u j):=by
 obtain⟨arr,ty,r,s⟩:=f.bl k _ e
 have g:∀b o,ae C L (av h k (some (.box cs true true))) b o->ae C L h b o:=by
  rintro b o (v|⟨q,n,hq,G,d,hf⟩)
  .exact .inl v
  .by_cases eq:q=k
   .subst eq
    rw[aG]at hq;injection hq with hq;subst hq;exact absurd rfl hf
   .rw[bc eq]at hq;exact .inr ⟨q,n,hq,G,d,hf⟩
 have c:Pres w (ae C L h) w (ae C L (av h k (some (.box cs true true)))):=Pres.sub g
 have y:KC L h L (av h k (some (.box cs true true))):=by
  intro q b hq;by_cases D:q=k
  .subst D;rw[e]at hq;injection hq with hq;subst hq;exact⟨_,aG _ _ _,rfl⟩
  .exact⟨b,by rw[bc D];exact hq,bv _ _⟩
 have H:aD w (ae C L (av h k (some (.box cs true true)))) L (av h k (some (.box cs true true))) cs arr.toList:=⟨s.1,λi p u hp m=>(s.2 i p u hp m).mono c y⟩;refine⟨f.touch e (λ_ _ _=>rfl) (Zf _) rfl rfl rfl (λ_ _ _ _ h=>h) (λ_ _=>rfl) rfl yAn (by have x:=f.own k _ e;exact x) ⟨arr,ty,r,H⟩,λj=>(arr[j]?).getD undef,λj p F=>?_⟩;have E:=B arr ty r s
 have A:j<arr.toList.length:=by rw[<-E.1];exact(th.1 F).1
 have m:arr.toList[j]?=some (arr.toList[j]):=an A
 have l:arr[j]?=some (arr.toList[j]):=by rw[<-Array.getElem?_toList];exact m
 refine⟨⟨by rw[fU r,Z7];simp only[l,Zn],?_⟩,?_⟩
 .rintro(v|⟨q,n,a,z,d,hf⟩)
  .have:=f.m0 _ _ v
   rcases f.own k _ e with x|x
   all_goals grind
  .by_cases eq:q=k
   .subst eq
    rw[aG]at a;injection a with a;subst a;exact hf rfl
   .rw[bc eq]at a
    exact f.sep q k n _ eq a e z trivial d
 .simp only[l,Zn]
  exact(E.2 j p _ F m).mono c
theorem H6{L:Nat->Loc}(g:MemL C L h w){fz:Bool}{x:PV}(f:h k=some (.box cs true fz))(i:x.cells.map .pv=cs):
 aH C L h w L (av h k (some (.box cs true true))) w/\Rep w (ae C L (av h k (some (.box cs true true)))) (.rptr x 0) (.pointer (some ⟨(L k).b,0,none⟩)):=by
 obtain⟨a,u,e⟩:=rB g (ps:=x.cells) f (λarr ty _ d=>by rw[<-i]at d;exact aD.map_pv_inv d);exact⟨a,.rptr x (L k).b 0 0 u (λj p c=>(e j p c).1) (λj p c=>(e j p c).2)⟩
theorem Gp{L:Nat->Loc}(l:MemL C L h w){c:Nat}(m:n<=c){fz:Bool}(g:h k=some (.box cs true fz))(hn:n<=ps.length)(f:∀p∈ps,p.cells=[p])
 (hq:∀arr ty,w.heap[(L k).b]?=some (.cells arr ty (0,0))->aD w (ae C L h) L h cs arr.toList->bp w (ae C L h) ps arr.toList):
 aH C L h w L (av h k (some (.box cs true true))) w/\Rep w (ae C L (av h k (some (.box cs true true)))) (.sl (ps.take n)) (.slice (some ⟨(L k).b,0,none⟩) n c):=by
 obtain⟨a,u,r⟩:=rB l g hq;refine⟨a,?_⟩
 have q:(ps.take n).length=n:=by rw[ZP];omega
 have o:∀{i:Nat}{x},(ps.take n)[i]?=some x->ps[i]?=some x:=by
  intro i x d;rw[Zy]at d;split at d
  .exact d
  .cases d
 have one:∀(i:Nat) x(j:Nat) p,ps[i]?=some x->x.cells[j]?=some p->j=0/\p=x:=by
  intro i x j p d e;rw[f x (An d)]at e
  cases j with
  |zero=>simp at e;exact⟨rfl,e.symm⟩
  |succ j=>simp at e
 have key:Rep w (ae C L (av h k (some (.box cs true true)))) (.sl (ps.take n)) (.slice (some ⟨(L k).b,0,none⟩) (ps.take n).length c):=by
  refine .sl (ps.take n) (L k).b 0 c 1 (λi _=>u i) (by omega) (λi x d=>by rw[f x (An (o d))];rfl) ?_ ?_
  all_goals grind
 grind
theorem H7{L:Nat->Loc}(d:MemL C L h w){kd:IntKind}{fz:Bool}(j:h k=some (.mp kd n es fz)):
 aH C L h w L (av h k (some (.mp kd n es true))) w/\Rep w (ae C L (av h k (some (.mp kd n es true)))) (.mp kd n es) (.map (some (L k).b)):=by
 obtain⟨arr,clock,u,v⟩:=d.bl k _ j
 have m:∀b o,ae C L (av h k (some (.mp kd n es true))) b o->ae C L h b o:=by
  rintro b o (r|⟨q,i,hq,p,f,hf⟩)
  .exact .inl r
  .by_cases eq:q=k
   .subst eq
    rw[aG]at hq;injection hq with hq;subst hq;exact absurd rfl hf
   .rw[bc eq]at hq;exact .inr ⟨q,i,hq,p,f,hf⟩
 have c:Pres w (ae C L h) w (ae C L (av h k (some (.mp kd n es true)))):=Pres.sub m
 have l:KC L h L (av h k (some (.mp kd n es true))):=by
  intro q b hq;by_cases e:q=k
  .subst e;rw[j]at hq;injection hq with hq;subst hq;exact⟨_,aG _ _ _,rfl,rfl,rfl⟩
  grind [bc,bv]
 refine⟨⟨⟨d.ext,d.m0,?_,?_,?_⟩,c,l⟩,.mp kd n es _ arr clock u ?_ v⟩
 .intro q b hq
  by_cases e:q=k
  .subst e;rw[aG]at hq;injection hq with hq;subst hq;exact⟨arr,clock,u,v⟩
  .rw[bc e]at hq;exact(d.bl q b hq).mono c l (λ_=>rfl)
 .intro q x b1 y s hq a p g
  have lift:∀q b,av h k (some (.mp kd n es true)) q=some b->b.live (L q)->∃i,h q=some i/\i.live (L q):=by
   intro q b hq p;by_cases e:q=k
   .subst e;exact⟨_,j,trivial⟩
   grind [bc]
  obtain⟨c1,d1,d2⟩:=lift q b1 hq p;obtain⟨z,d3,d4⟩:=lift x y a g;exact d.sep q x c1 z s d1 d3 d2 d4
 .intro q b hq
  by_cases e:q=k
  .subst e;rw[aG]at hq;injection hq with hq;subst hq;have:=d.own q _ j;exact this
  .rw[bc e]at hq;exact d.own q b hq
 .rintro(r|⟨q,i,a,g,f,hf⟩)
  .have:=d.m0 _ _ r
   have A:=d.own k _ j
   grind [dw]
  .by_cases eq:q=k
   .subst eq
    rw[aG]at a;injection a with a;subst a;exact hf rfl
   .rw[bc eq]at a
    exact d.sep q k i _ eq a j g trivial f
theorem bH(h:Hp)(W a:List (Nat×Blk)):ai h (W++a)=ai (ai h W) a:=by simp[ai,yA5]
theorem jW(h:Hp)(k:Nat)(b:Blk):ai h [(k,b)]=av h k (some b):=rfl
theorem iC(h:jl p=true):p.cells=[p]:=by
 cases p with
 |val v=>cases v<;>simp_all[jl,PV.cells,Value.cells,Value.oneCell']
 |agg _=>simp[jl]at h
 |tup _=>simp[jl]at h
 |_=>rfl
theorem CN:∀{cs:List PV}{vs:List Value},cW cs=some vs->cs=vs.map .val
 |[],vs,h=>by simp[cW]at h;subst h;rfl
 |.val v::r,vs,h=>by
  simp only[cW,II]at h;obtain⟨a,h',rfl⟩:=h;rw[CN h'];rfl
 |.agg _::_,_,h=>by simp[cW]at h
 |.sl _::_,_,h=>by simp[cW]at h
 |.rptr _ _::_,_,h=>by simp[cW]at h
 |.fn _ _ _::_,_,h=>by simp[cW]at h
 |.tup _::_,_,h=>by simp[cW]at h
 |.ifc _ _::_,_,h=>by simp[cW]at h
 |.hd _::_,_,h=>by simp[cW]at h
 |.mp _ _ _::_,_,h=>by simp[cW]at h
theorem ko(ps:List PV):(fE ps).cells=ps:=by
 unfold fE;split
 .rename_i vs a;simp[PV.cells,Value.cells,CN a]
 .rfl
section
variable {C:Cx} {L:Nat->Loc} {h1 h:Hp} {w:World}
theorem AB(d:MemL C L h w)(hf:bI h1 h)(g:RepA w (ae C L h) L h x u)(e:iT h1 x=some (p,W)):
 aH C L h w L (ai h W) w/\Rep w (ae C L (ai h W)) p u/\bI h1 (ai h W):=by
 cases x with
 |pv q=>
  simp only[iT,Za,Zl]at e;obtain⟨rfl,rfl⟩:=e
  cases g with
  |pv m=>exact⟨aH.refl d,Eg m,hf⟩
 |arr k n=>
  simp only[iT]at e;split at e
  .rename_i r sz xs fz c
   split at e
   .rename_i hn
    simp only[Za,Zl]at e;obtain⟨rfl,rfl⟩:=e;obtain⟨f,a,j⟩:=hf.row c
    cases g with
    |arr b l o=>
     rw[a]at b;injection b with b;injection b with a1 a2 a3 a4;subst a1;subst a2;subst a3;subst a4;have:=uQ d a;rw[o hn,<-hn];have s:=(d.bl k _ a).2.1;exact⟨this.1,this.2,hf.set_row c (by omega)⟩
   .cases e
  .cases e
 |ptr=>simp[iT]at e
 |eptr=>simp[iT]at e
 |agg=>simp[iT]at e
 |fn=>simp[iT]at e
 |tup=>simp[iT]at e
 |undef=>simp[iT]at e
 |ext y=>
  cases y with
  |barr=>simp[iT]at e
  |suf=>simp[iT]at e
  |mp k=>
   simp only[iT]at e;split at e
   .rename_i v n es fz c
    simp only[Za,Zl]at e;obtain⟨rfl,rfl⟩:=e;obtain⟨f,a,_⟩:=hf.mp c;have:=H7 d a
    cases g with
    |ext i=>cases i with
     |mp _=>exact⟨this.1,this.2,hf.set_mp c⟩
   .cases e
theorem aD.mono{w:World}{L:Nat->Loc}{h:Hp}(hp:Pres w M w' M')(c:KC L h L' h'){ps:List AV}(a:aD w M L h ps us):aD w' M' L' h' ps us:=
 ⟨a.1,λi p u h1 b=>(a.2 i p u h1 b).mono hp c⟩
theorem tC:∀{xs:List AV}{h:Hp}(_:MemL C L h w)(_:bI h1 h){us:List Value}(_:aD w (ae C L h) L h xs us){ps:List PV}{W:List (Nat×Blk)}(_:dZ h1 xs=some (ps,W)),
 aH C L h w L (ai h W) w/\bp w (ae C L (ai h W)) ps us/\bI h1 (ai h W)
 |[],h,a,hf,us,b,ps,W,e=>by
  simp only[dZ,Za,Zl]at e;obtain⟨rfl,rfl⟩:=e;rw[b.nil_inv];exact⟨aH.refl a,bp.nil,hf⟩
 |x::r,h,a,hf,us,b,ps,W,e=>by
  simp only[dZ]at e;split at e
  .rename_i p o m q i j
   simp only[Za,Zl]at e;obtain⟨rfl,rfl⟩:=e;obtain⟨u,n,rfl,l,k⟩:=b.cons_inv;obtain⟨a1,c,d⟩:=AB a hf l i;obtain⟨b1,f,g⟩:=tC a1.1 d (k.mono a1.2.1 a1.2.2) j;rw[bH];exact⟨a1.trans b1,.cons (c.mono b1.2.1) f,g⟩
  .cases e
theorem nI(l:MemL C L h w)(hf:bI h1 h)(F:RepA w (ae C L h) L h x u)(e:tB h1 x=some (p,W)):
 aH C L h w L (ai h W) w/\Rep w (ae C L (ai h W)) p u/\bI h1 (ai h W):=by
 unfold tB at e;split at e
 .rename_i k n H
  split at e
  .rename_i cs fz j
   have main:∀{ps:List PV}{c:List (Nat×Blk)},n<=cs.length->dZ h1 cs=some (ps,c)->ps.all jl=true->W=c++[(k,.box cs true true)]->p=.sl (ps.take n)->aH C L h w L (ai h W) w/\Rep w (ae C L (ai h W)) p u/\bI h1 (ai h W):=by
    intro ps c hn m E A B;subst A;subst B;obtain⟨o,b,_⟩:=hf.box j;obtain⟨arr,ty,f,a⟩:=l.bl k _ b;obtain⟨a1,i,y⟩:=tC l hf a m;obtain⟨D,r,_⟩:=y.box j
    have g:n<=ps.length:=by rw[i.1,<-a.1];exact hn
    rw[bH]
    cases F with
    |ext v=>cases v with
     |barr q _=>
      have:=Gp a1.1 q (ps:=ps) r g (λp hp=>iC (L4.1 E p hp)) (λz G d _=>by rw[f]at d;injection d with d;injection d with d;subst d;exact i);exact⟨a1.trans this.1,this.2,y.set_box j⟩
   have s:∀{ps:List PV}{c:List (Nat×Blk)},dZ h1 cs=some (ps,c)->ps.length=cs.length:=by
    intro ps c m;obtain⟨o,b,_⟩:=hf.box j;obtain⟨arr,ty,f,a⟩:=l.bl k _ b;obtain⟨_,i,_⟩:=tC l hf a m;rw[i.1,<-a.1]
   grind
  .cases e
 grind [AB]
theorem nJ:∀{xs:List AV}{h:Hp}(_:MemL C L h w)(_:bI h1 h){us:List Value}(_:aD w (ae C L h) L h xs us){ps:List PV}{W:List (Nat×Blk)}(_:qq h1 xs=some (ps,W)),
 aH C L h w L (ai h W) w/\bp w (ae C L (ai h W)) ps us/\bI h1 (ai h W)
 |[],h,a,hf,us,b,ps,W,e=>by
  simp only[qq,Za,Zl]at e;obtain⟨rfl,rfl⟩:=e;rw[b.nil_inv];exact⟨aH.refl a,bp.nil,hf⟩
 |x::r,h,a,hf,us,b,ps,W,e=>by
  simp only[qq]at e;split at e
  .rename_i p o m q i j
   simp only[Za,Zl]at e;obtain⟨rfl,rfl⟩:=e;obtain⟨u,n,rfl,l,k⟩:=b.cons_inv;obtain⟨a1,c,d⟩:=nI a hf l i;obtain⟨b1,f,g⟩:=nJ a1.1 d (k.mono a1.2.1 a1.2.2) j;rw[bH];exact⟨a1.trans b1,.cons (c.mono b1.2.1) f,g⟩
  .cases e
theorem wE(g:MemL C L h w)(hf:bI h1 h)(z:RepA w (ae C L h) L h x u)(e:rA h1 x=some (p,W)):
 aH C L h w L (ai h W) w/\Rep w (ae C L (ai h W)) p u/\bI h1 (ai h W):=by
 unfold rA at e;split at e
 .simp only[Za,Zl]at e
  obtain⟨rfl,rfl⟩:=e
  cases z with
  |pv I=>exact⟨aH.refl g,I,hf⟩
 .rename_i k
  split at e
  .rename_i cs fz f
   obtain⟨F,c,_⟩:=hf.box f
   have key:∀y:PV,y.cells.map .pv=cs->aH C L h w L (ai h [(k,.box cs true true)]) w/\Rep w (ae C L (ai h [(k,.box cs true true)])) (.rptr y 0) u/\bI h1 (ai h [(k,.box cs true true)]):=by
    intro y i;obtain⟨a1,m⟩:=H6 g c i
    cases z with
    |ptr _=>exact⟨a1,m,hf.set_box f⟩
   split at e
   .rename_i ps hp
    have H:=pT hp;split at e
    .rename_i hq
     simp only[Za,Zl]at e;obtain⟨rfl,rfl⟩:=e
     exact key _ (by rw[H];congr 1;cases ps with
      |nil=>simp[i5]at hq
      |cons q r=>cases r with
       |nil=>simp only[i5]at hq;exact iC hq
       |cons _ _=>simp[i5]at hq)
    grind [Option.some.injEq,ko]
   .split at e
    .rename_i ps l E
     obtain⟨arr,ty,n,o⟩:=g.bl k _ c;obtain⟨a1,m,A⟩:=nJ g hf o E;obtain⟨G,v,_⟩:=A.box f
     have d:∀y:PV,y.cells=ps->aH C L h w L (ai h (l++[(k,.box cs true true)])) w/\Rep w (ae C L (ai h (l++[(k,.box cs true true)]))) (.rptr y 0) u/\bI h1 (ai h (l++[(k,.box cs true true)])):=by
      intro y i;obtain⟨b1,K,D⟩:=rB a1.1 (ps:=ps) v (λB J a _=>by rw[n]at a;injection a with a;injection a with a;subst a;exact m);rw[bH]
      cases z with
      |ptr _=>exact⟨a1.trans b1,.rptr y (L k).b 0 0 K (λj p s=>(D j p (i▸s)).1) (λj p s=>(D j p (i▸s)).2),A.set_box f⟩
     split at e
     .rename_i hq
      simp only[Za,Zl]at e;obtain⟨rfl,rfl⟩:=e
      exact d _ (by cases ps with
       |nil=>simp[i5]at hq
       |cons q r=>cases r with
        |nil=>simp only[i5]at hq;exact iC hq
        |cons _ _=>simp[i5]at hq)
     grind [Option.some.injEq,ko]
    .cases e
  .cases e
 .cases e
theorem qv:∀{xs:List AV}{h:Hp}(_:MemL C L h w)(_:bI h1 h){us:List Value}(_:aD w (ae C L h) L h xs us){ps:List PV}{W:List (Nat×Blk)}(_:kn h1 xs=some (ps,W)),
 aH C L h w L (ai h W) w/\bp w (ae C L (ai h W)) ps us/\bI h1 (ai h W)
 |[],h,a,hf,us,b,ps,W,e=>by
  simp only[kn,Za,Zl]at e;obtain⟨rfl,rfl⟩:=e;rw[b.nil_inv];exact⟨aH.refl a,bp.nil,hf⟩
 |x::r,h,a,hf,us,b,ps,W,e=>by
  simp only[kn]at e;split at e
  .rename_i p o m q i j
   simp only[Za,Zl]at e;obtain⟨rfl,rfl⟩:=e;obtain⟨u,n,rfl,l,k⟩:=b.cons_inv;obtain⟨a1,c,d⟩:=wE a hf l i;obtain⟨b1,f,g⟩:=qv a1.1 d (k.mono a1.2.1 a1.2.2) j;rw[bH];exact⟨a1.trans b1,.cons (c.mono b1.2.1) f,g⟩
  .cases e
theorem H8(l:MemL C L h w)(hf:bI h1 h)(m:RepA w (ae C L h) L h x u)(e:BG h1 x=some (p,W)):
 aH C L h w L (ai h W) w/\Rep w (ae C L (ai h W)) p u/\bI h1 (ai h W):=by
 unfold BG at e;split at e
 .rename_i cs
  split at e
  .rename_i ps v b
   simp only[Za,Zl]at e;obtain⟨rfl,rfl⟩:=e
   cases m with
   |agg _ vs g q=>
    obtain⟨a1,a,i⟩:=nJ l hf ⟨g,q⟩ b
    grind [kH]
  .cases e
 .rename_i f first k
  split at e
  .rename_i ps y s z b o
   simp only[Za,Zl]at e;obtain⟨rfl,rfl⟩:=e
   cases m with
   |fn _ _ _ vs us g r c d=>
    obtain⟨a1,a,i⟩:=nJ l hf ⟨g,c⟩ b;obtain⟨b1,j,n⟩:=qv a1.1 i (aD.mono a1.2.1 a1.2.2 ⟨r,d⟩) o;rw[bH];exact⟨a1.trans b1,.fn f ps s vs us (a.1.trans rfl) j.1 (a.mono b1.2.1).2 j.2,n⟩
  .cases e
 grind [nI]
theorem tD:∀{xs:List AV}{h:Hp}(_:MemL C L h w)(_:bI h1 h){us:List Value}(_:aD w (ae C L h) L h xs us){ps:List PV}{W:List (Nat×Blk)}(_:pJ h1 xs=some (ps,W)),
 aH C L h w L (ai h W) w/\bp w (ae C L (ai h W)) ps us/\bI h1 (ai h W)
 |[],h,a,hf,us,b,ps,W,e=>by
  simp only[pJ,Za,Zl]at e;obtain⟨rfl,rfl⟩:=e;rw[b.nil_inv];exact⟨aH.refl a,bp.nil,hf⟩
 |x::r,h,a,hf,us,b,ps,W,e=>by
  simp only[pJ]at e;split at e
  .rename_i p o m q i j
   simp only[Za,Zl]at e;obtain⟨rfl,rfl⟩:=e;obtain⟨u,n,rfl,l,k⟩:=b.cons_inv;obtain⟨a1,c,d⟩:=H8 a hf l i;obtain⟨b1,f,g⟩:=tD a1.1 d (k.mono a1.2.1 a1.2.2) j;rw[bH];exact⟨a1.trans b1,.cons (c.mono b1.2.1) f,g⟩
  .cases e
theorem m8(k:MemL C L h w)(hf:bI h1 h)(l:RepA w (ae C L h) L h x u)(e:frz h1 x=some (p,W)):
 aH C L h w L (ai h W) w/\Rep w (ae C L (ai h W)) p u/\bI h1 (ai h W):=by
 unfold frz at e;split at e
 .rename_i cs
  split at e
  .rename_i ps q b
   simp only[Za,Zl]at e;obtain⟨rfl,rfl⟩:=e
   cases l with
   |agg _ vs c g=>
    obtain⟨a1,a,d⟩:=tD k hf ⟨c,g⟩ b
    grind [kH]
  .cases e
 .rename_i f first o
  split at e
  .rename_i ps z y A b s
   simp only[Za,Zl]at e;obtain⟨rfl,rfl⟩:=e
   cases l with
   |fn _ _ _ vs us c v i j=>
    obtain⟨a1,a,d⟩:=nJ k hf ⟨c,i⟩ b;obtain⟨b1,n,r⟩:=qv a1.1 d (aD.mono a1.2.1 a1.2.2 ⟨v,j⟩) s;rw[bH];exact⟨a1.trans b1,.fn f ps y vs us (a.1.trans rfl) n.1 (a.mono b1.2.1).2 n.2,r⟩
  .cases e
 .rename_i vs
  split at e
  .rename_i ps q b
   simp only[Za,Zl]at e;obtain⟨rfl,rfl⟩:=e
   cases l with
   |tup _ m c g=>
    obtain⟨a1,a,d⟩:=tD k hf ⟨c,g⟩ b;exact⟨a1,.tup ps m a.1 a.2,d⟩
  .cases e
 grind [nI]
theorem vQ(D:MemL C L h w)(hs:∀k b,h1 k=some b->h k=some b)(A:RepA w (ae C L h) L h x u)(e:fq h1 x=some (cs,off)):
 ∃b o,u=.pointer (some ⟨b,o+off,none⟩)/\∀(j:Nat) c,cs[j]?=some c->∃v,w.cell? ⟨b,o+j,none⟩=some v/\RepA w (ae C L h) L h c v:=by
 cases x with
 |ptr k f=>
  simp only[fq]at e;split at e
  .rename_i F own fz s
   simp only[Za,Zl]at e;obtain⟨rfl,rfl⟩:=e;obtain⟨arr,ty,r,B⟩:=D.bl k _ (hs _ _ s)
   cases A with
   |ptr _=>
    refine⟨(L k).b,0,by simp,λj c d=>?_⟩
    have z:j<arr.toList.length:=by rw[<-B.1];exact(th.1 d).1
    have m:arr.toList[j]?=some (arr.toList[j]):=an z;exact⟨_,by rw[fU r,Z7,<-Array.getElem?_toList];exact m,B.2 j c _ d m⟩
  .cases e
 |pv p=>
  cases p with
  |rptr y f=>
   simp only[fq,Za,Zl]at e;obtain⟨rfl,rfl⟩:=e
   cases A with
   |pv l=>cases l with
    |rptr _ b o _ M H l=>
     refine⟨b,o,rfl,λj c d=>?_⟩;simp only[Y7,II]at d;obtain⟨q,hq,rfl⟩:=d;exact⟨M j,(H j q hq).1,.pv (l j q hq)⟩
  |_=>simp[fq]at e
 |eptr k n i f=>
  simp only[fq]at e;split at e
  .rename_i N sz xs fz s
   split at e
   .rename_i hn
    split at e
    .rename_i y K
     simp only[Za,Zl]at e;obtain⟨rfl,rfl⟩:=e;have g:=hs _ _ s
     cases A with
     |eptr a I m=>
      rw[g]at a;injection a with a;injection a with a1 a2 a3 a4;subst a1;subst a2;subst a3;subst a4;obtain⟨E,rfl⟩:=m hn;rcases oY D g with⟨O,_⟩|⟨_,_,_,arr,r,_,G⟩
      .grind
      .refine⟨(L k).b,i*sz,rfl,λj c d=>?_⟩
       simp only[Y7,II]at d;obtain⟨q,hq,rfl⟩:=d;obtain⟨v,J,l⟩:=G i y j q K hq;exact⟨v,by rw[fU r];exact J,.pv l⟩
    .cases e
   .cases e
  .cases e
 |arr=>simp[fq]at e
 |agg=>simp[fq]at e
 |fn=>simp[fq]at e
 |tup=>simp[fq]at e
 |ext=>simp[fq]at e
 |undef=>simp[fq]at e
theorem Eh(e:Aq h1 sz x=some p):fq h1 x=some (p.cells.map .pv,0)/\pU p=true/\p.cells.length=sz:=by
 unfold Aq at e;split at e
 .rename_i y
  split at e
  .rename_i a
   injection e with e;subst e;simp only[up,ZW]at a;exact⟨rfl,a.1,a.2⟩
  .cases e
 .rename_i k n i
  split at e
  .rename_i b s xs fz c
   split at e
   .rename_i hn
    split at e
    .rename_i y a
     split at e
     all_goals simp_all[up,fq]
    .cases e
   .cases e
  .cases e
 .cases e
theorem aK(a:Rep w M (.val v) u):u=v:=by cases a;rfl
theorem Ei(c:pU p=true)(a:bp w M p.cells us):Rep w M p (.agg us.toArray):=by
 cases p with
 |agg cs=>exact .agg cs us a.1 a.2
 |val v=>
  cases v with
  |agg arr=>
   have:us=arr.toList:=by
    apply ZM;intro i;by_cases hi:i<us.length
    .have b:=a.1
     simp only[PV.cells,Value.cells,ZB,yAc]at b;have d:arr.toList[i]?=some (arr.toList[i]'(by simp;omega)):=an _;have e:=a.2 i (.val (arr.toList[i]'(by simp;omega))) us[i] (by simp[PV.cells,Value.cells,d]) (an hi)
     grind [List.getElem?_eq_getElem,aK]
    .rw[Zh (by omega),Zh]
     have b:=a.1;simp only[PV.cells,Value.cells,ZB]at b;omega
   rw[this];exact .val _
  |_=>simp[pU]at c
 |_=>simp[pU]at c
theorem BM(d:∀(j:Nat) c,cs[j]?=some c->∃v,w.cell? ⟨b,o+j,none⟩=some v/\RepA w M L h c v):
 ∃us:List Value,us.length=cs.length/\(∀(j:Nat) v,us[j]?=some v->w.cell? ⟨b,o+j,none⟩=some v)/\aD w M L h cs us:=by
 induction cs generalizing o with
 |nil=>exact⟨[],rfl,λj v a=>by simp at a,aD.nil⟩
 |cons c r ih=>
  obtain⟨v,k,g⟩:=d 0 c rfl;obtain⟨us,h1,i,f⟩:=ih (o:=o+1) (λj e a=>by have:=d (j+1) e (by simpa using a);rwa [show o+(j+1)=o+1+j from by omega]at this);refine⟨v::us,by simp[h1],λj l a=>?_,.cons g f⟩
  grind
theorem gE(e:aA P t=some ti):∃i d,P.info? t=some i/\P.underlying t=some d/\ti.size=i.size/\ti.zero=i.zero/\
 ti.kind=(match d with
  |.struct a=>.struct (a.toList.map λf=>(f.offset,oX P f.type))
  |.array n e=>.array n (oX P e)
  |.slice e=>match P.info? e with
   |some j=>.slice e j.size j.bytes j.zero
   |none=>.one
  |_=>.one):=by
 grind [aA]
theorem AC(e:aA P t=some ti):mb P t=true:=by
 grind [aA]
theorem bM{d:TypeDesc}(e:P.underlying t=some d)(w:World):(underlying t).run P w=.ok d w:=by
 simp[underlying,program,Sem.run,e]
theorem kL{i:TypeInfo}(e:P.info? t=some i)(w:World):(typeInfo t).run P w=.ok i w:=by
 simp[typeInfo,program,Sem.run,e]
theorem fF{i:TypeInfo}(e:P.info? t=some i)(w:World):(sizeOf t).run P w=.ok i.size w:=by
 simp[sizeOf,kL e]
theorem CO(e:aA P t=some ti)(w:World):(isAgg t).run P w=.ok ti.kind.isAgg w:=by
 obtain⟨i,d,_,b,_,_,c⟩:=gE e;rw[c];unfold isAgg;rw[Sem.run_bind,bM b];simp only[Result.andThen_ok]
 cases d<;>first|rfl|skip
 rename_i a
 show Result.ok false w=.ok (TK.isAgg (match P.info? a with
  |some j=>TK.slice a j.size j.bytes j.zero
  |none=>TK.one)) w
 split<;>rfl
theorem wG(D:MemL C L h w)(hs:∀k b,h1 k=some b->h k=some b)(z:aA C.P t=some ti){v:AV}(E:RepA w (ae C L h) L h x u)(e:ww ti x h1=some v):
 ∃r,(Instr.loadAt t u).run C.P w=.ok r w/\RepA w (ae C L h) L h v r:=by
 obtain⟨i,d,hi,hd,y,_,_⟩:=gE z;unfold ww at e;split at e
 .rename_i g
  have key:∀cs off,fq h1 x=some (cs,off)->off+ti.size<=cs.length->∃us,(Instr.loadAt t u).run C.P w=.ok (.agg us.toArray) w/\aD w (ae C L h) L h ((cs.drop off).take ti.size) us:=by
   intro cs off n J;obtain⟨b,o,rfl,a⟩:=vQ D hs E n
   have f:∀(j:Nat) c,((cs.drop off).take ti.size)[j]?=some c->∃v,w.cell? ⟨b,(o+off)+j,none⟩=some v/\RepA w (ae C L h) L h c v:=by
    grind
   obtain⟨us,I,A,K⟩:=BM f;refine⟨us,?_,K⟩
   have m:us.length=i.size:=by rw[I,<-y,ZP,List.length_drop];omega
   simp only[Instr.loadAt,Instr.sureAddr,pure_bind,loadVar,Sem.run_bind,CO z,g,Result.andThen_ok,Zp,fF hi];rw[<-m,run_loadCells_list w _ us (λj v H=>by rw[fo];exact A j v H)];rfl
  split at e
  .rename_i p M
   injection e with e;subst e;obtain⟨F,G,B⟩:=Eh M;obtain⟨us,h5,h6⟩:=key _ _ F (by simp[B]);refine⟨_,h5,.pv (Ei G ?_)⟩;rw[yBl,Zw (by simp[B])]at h6;exact h6.map_pv_inv
  grind [tz]
 .rename_i g
  split at e
  .rename_i cs off n
   obtain⟨b,o,rfl,a⟩:=vQ D hs E n;obtain⟨r,q,s⟩:=a off v e;refine⟨r,?_,s⟩
   have l:ti.kind.isAgg=false:=by simpa using g
   simp only[Instr.loadAt,Instr.sureAddr,pure_bind,loadVar,Sem.run_bind,CO z,l,Result.andThen_ok,Y9,Zk,run_load,q]
  .cases e
end
theorem MemL.touch_pk{L:Nat->Loc}(F:MemL C L h w){blk':Blk}(l:h k=some blk)
 (m:∀b,b<w.heap.size->(blk.live (L k)->b≠(L k).b)->w'.heap[b]?=w.heap[b]?)
 (hpr:∀o v,blk.live (L k)->blk.frz o->w.cell? ⟨(L k).b,o,none⟩=some v->w'.cell? ⟨(L k).b,o,none⟩=some v)(r:∀o,blk.frz o->blk'.frz o)(E:dh blk (L k) blk' (L k))
 (u:blk'.live (L k)↔blk.live (L k))(x:∀y n es,blk≠.mp y n es true:=by intro _ _ _ h;cases h):Pres w (ae C L h) w' (ae C L (av h k (some blk')))/\KC L h L (av h k (some blk')):=by
 have s:KC L h L (av h k (some blk')):=by
  intro q b hq
  grind [aG,bc,bv]
 have z:∀b o,ae C L (av h k (some blk')) b o->ae C L h b o:=by
  rintro b o (D|⟨q,B,hq,f,j,hf⟩)
  .exact .inl D
  .by_cases e:q=k
   .subst e
    rw[aG]at hq;injection hq with hq;subst hq;exact .inr ⟨q,blk,l,u.1 f,j,λp=>hf (r o p)⟩
   .rw[bc e]at hq
    exact .inr ⟨q,B,hq,f,j,hf⟩
 refine⟨⟨?_,λb arr c a hn=>⟨?_,λg=>hn (z b 0 g)⟩⟩,s⟩
 case refine_2=>
  have d:=ri a;by_cases f:blk.live (L k)
  .by_cases e:b=(L k).b
   .subst e
    have A:=F.bl k blk l
    cases blk with
    |box cs own fz=>obtain⟨_,_,e,_⟩:=A;rw[e]at a;cases a
    |row e sz xs fz=>obtain⟨_,_,_,_,h5⟩:=A;obtain⟨_,_,_,e,_⟩:=h5 f;rw[e]at a;cases a
    |mp y n es fz=>
     cases fz with
     |true=>exact absurd rfl (x y n es)
     |false=>exact absurd (Or.inr ⟨k,_,l,f,rfl,by simp[Blk.frz]⟩) hn
   .rw[m b d (λ_=>e)];exact a
  .rw[m b d (λi=>absurd i f)];exact a
 intro b o v a hn;have d:=xX a;refine⟨?_,λg=>hn (z b o g)⟩;by_cases f:blk.live (L k)
 .by_cases e:b=(L k).b
  .subst e
   by_cases hf:blk.frz o
   .grind
   .exact absurd (Or.inr ⟨k,blk,l,f,rfl,hf⟩) hn
  .simp only[World.cell?,m b d (λ_=>e)]at a|-;exact a
 .simp only[World.cell?,m b d (λi=>absurd i f)]at a|-;exact a
section
variable {C:Cx} {L:Nat->Loc} {h1 h:Hp} {w:World}
theorem qw(hs:∀k b,h1 k=some b->h k=some b)(d:RepA w M L h x u)(e:gQ h1 x=some cs):aD w M L h cs u.cells.toList:=by
 have one:∀{q:AV}{v:Value},RepA w M L h q v->aD w M L h [q] [v]:=λhq=>.cons hq .nil
 cases x with
 |undef=>simp[gQ]at e
 |eptr=>simp[gQ]at e
 |arr k n=>
  simp only[gQ]at e;split at e
  .rename_i F sz xs fz l
   split at e
   .rename_i hn
    injection e with e;subst e;have r:=hs _ _ l;have g:=d
    cases d with
    |arr c D z=>
     rw[r]at c;injection c with c;injection c with a1 a2 a3 a4;subst a1;subst a2;subst a3;subst a4;have A:=z hn;subst A
     have:((L k).slice n).cells.toList=[(L k).slice n]:=by unfold Loc.slice;split<;>rfl
     grind
   .cases e
  .cases e
 |pv p=>
  simp only[gQ,Za]at e;subst e
  cases d with
  |pv E=>exact aD.map_pv E.cells
 |ptr k off=>
  simp only[gQ,Za]at e;subst e
  cases d with
  |ptr l=>exact one (.ptr l)
 |agg B=>
  simp only[gQ,Za]at e;subst e
  cases d with
  |agg _ vs m o=>exact⟨by simpa[AV.cells,Value.cells]using m,λi p u hp z=>o i p u (by simpa[AV.cells]using hp) (by simpa[Value.cells]using z)⟩
 |fn f first j=>
  simp only[gQ,Za]at e;subst e
  cases d with
  |fn _ _ _ vs us m l a b=>exact one (.fn f first j vs us m l a b)
 |tup vs=>
  simp only[gQ,Za]at e;subst e
  cases d with
  |tup _ us m o=>exact one (.tup vs us m o)
 |ext y=>
  simp only[gQ,Za]at e;subst e
  cases d with
  |ext g=>
   have C:u.cells.toList=[u]:=by
    cases g with
    |suf s _ _ _ _=>obtain⟨_,_,_,rfl⟩:=s;rfl
    |_=>rfl
   rw[C];exact one (.ext g)
theorem uR(a:Rep w M p u)(b:jl p=true):u.oneCell'=true:=by
 cases a<;>simp_all[jl,Value.oneCell']
theorem H9(hs:∀k b,h1 k=some b->h k=some b)(d:RepA w M L h x u)(a:wv h1 x=true):u.oneCell'=true:=by
 cases d with
 |pv d=>exact uR d a
 |ptr=>rfl
 |@arr k n e sz fz xs u i hn j=>
  simp only[wv]at a;split at a
  .rename_i p m o g c
   have:=hs _ _ c;rw[i]at this;injection this with this;injection this with a1 a2 a3 a4;subst a3;rw[j (by simpa using a)];unfold Loc.slice;split<;>rfl
  .cases a
 |eptr=>simp[wv]at a
 |agg=>simp[wv]at a
 |fn=>rfl
 |tup=>simp[wv]at a
 |ext l=>cases l with
   |suf f _ _ _ _=>obtain⟨_,_,_,rfl⟩:=f;rfl
   |_=>rfl
 |undef=>simp[wv]at a
theorem aD.take_{ps:List AV}(b:aD w M L h ps us)(n:Nat):aD w M L h (ps.take n) (us.take n):=by
 refine⟨by simp[b.1],λi p u hp a=>?_⟩;rw[Zy]at hp a;split at hp
 .rename_i hi;rw[Zd hi]at a;exact b.2 i p u hp a
 .cases hp
theorem aD.drop_{ps:List AV}(a:aD w M L h ps us)(n:Nat):aD w M L h (ps.drop n) (us.drop n):=by
 refine⟨by simp[a.1],λi p u hp b=>?_⟩;rw[Z3]at hp b;exact a.2 _ p u hp b
theorem aD.splice_{ps b:List AV}(a:aD w M L h ps us)(hq:aD w M L h b vs)(off:Nat):aD w M L h (br ps off b) (br us off vs):=by
 unfold br;rw[hq.1];exact((a.take_ off).append hq).append (a.drop_ _)
theorem y8(k:aA P t=some ti){ty:Nat}{a:Array Value}(g:w.heap[b]?=some (.cells a ty (0,0)))(f:v.cells.size=ti.size)(c:o+v.cells.size<=a.size)
 (h1:∀u∈v.cells.toList,u.oneCell'=true):(Instr.storeAt t (.pointer (some ⟨b,o,none⟩)) v).run P w=.ok () (w.setRow b (br a.toList o v.cells.toList).toArray):=by
 obtain⟨i,d,hi,hd,j,_,_⟩:=gE k;have:=run_storeCells_at P b o ty v.cells.toList 0 a w g (by simpa using c) h1
 have e:¬v.cells.size≠i.size:=by simp[f,j]
 simp only[Instr.storeAt,Instr.sureAddr,pure_bind,storeVar,Sem.run_bind,fF hi,Result.andThen_ok,e,Zk,this];simp[br]
theorem Jp(e:MemL C L h w){vc:List AV}{own:Bool}(d:h k=some (.box cs own false))(q:aA C.P t=some ti)
 (i:aD w (ae C L h) L h vc u.cells.toList)(s:vc.length=ti.size)(n:off+vc.length<=cs.length)(a:∀x∈u.cells.toList,x.oneCell'=true):
 ∃w',(Instr.storeAt t (.pointer (some ⟨(L k).b,off,none⟩)) u).run C.P w=.ok () w'/\aH C L h w L (av h k (some (.box (br cs off vc) own false))) w':=by
 obtain⟨arr,ty,f,g⟩:=e.bl k _ d
 have r:u.cells.size=vc.length:=by have:=i.1;simp at this;omega
 have p:arr.size=cs.length:=by have:=g.1;simp at this;omega
 refine⟨_,y8 q f (by omega) (by omega) a,?_⟩;have j:∀b,b<w.heap.size->((Blk.box cs own false).live (L k)->b≠(L k).b)->(w.setRow (L k).b (br arr.toList off u.cells.toList).toArray).heap[b]?=w.heap[b]?:=λb _ m=>setRow_other w _ b _ (m trivial);have c:=e.touch_pk (blk':=.box (br cs off vc) own false) d j (λo v _ hf _=>by cases hf) (λo hf=>by cases hf) rfl yAn;refine e.touch d j (by simp) rfl rfl rfl (λo v _ hf _=>by cases hf) (λo hf=>by cases hf) rfl yAn (by have l:=e.own k _ d;cases own<;>exact l) ?_;refine⟨_,ty,setRow_heap w _ arr _ ty _ f,?_⟩;have:=(g.splice_ i off).mono c.1 c.2;omega
theorem CP(G:MemL C L h w){i:Nat}{y q:PV}(F:h k=some (.row e sz xs fz))(hi:xs[i]?=some y)(I:fz<=i)(c:(L k).isNil=false)(ht:aA C.P t=some ti)
 {u:Value}{ps:List PV}(T:bp w (ae C L h) ps u.cells.toList)(hl:ps.length=ti.size)(aj:off+ps.length<=sz)(A:∀x∈u.cells.toList,x.oneCell'=true)(V:q.cells=br y.cells off ps):
 ∃w',(Instr.storeAt t (.pointer (some ⟨(L k).b,i*sz+off,none⟩)) u).run C.P w=.ok () w'/\aH C L h w L (av h k (some (.row e sz (xs.set i q) fz))) w':=by
 obtain⟨g1,g2,g3,g4,g5⟩:=G.bl k _ F;obtain⟨a1,W,arr,E,X,H⟩:=g5 c
 have ak:u.cells.size=ps.length:=by have:=T.1;simp at this;omega
 have ad:i<xs.length:=(th.1 hi).1
 have z:(i+1)*sz<=arr.size:=by rw[X];exact Zt _ (by omega)
 rw[ZO]at z
 have s:i*sz+off+u.cells.size<=arr.size:=by omega
 refine⟨_,y8 ht E (by omega) s A,?_⟩;have U:∀b,b<w.heap.size->((Blk.row e sz xs fz).live (L k)->b≠(L k).b)->(w.setRow (L k).b (br arr.toList (i*sz+off) u.cells.toList).toArray).heap[b]?=w.heap[b]?:=λb _ Z=>setRow_other w _ b _ (Z c);have R:fz*sz<=i*sz:=Zt _ I
 have f:∀o,o<i*sz+off\/i*sz+off+u.cells.size<=o->(br arr.toList (i*sz+off) u.cells.toList)[o]?=arr[o]?:=by
  intro o M;unfold br;rcases M with M|M
  .grind
  grind [List.getElem?_append_right,List.length_append,List.length_take,Array.length_toList]
 have ah:∀j,j<u.cells.size->(br arr.toList (i*sz+off) u.cells.toList)[i*sz+off+j]?=u.cells[j]?:=by
  intro j a;unfold br
  grind [List.append_assoc,List.getElem?_append_right,List.getElem?_append_left,List.length_take,Array.length_toList]
 have hpr:∀o v,(Blk.row e sz xs fz).live (L k)->(Blk.row e sz xs fz).frz o->w.cell? ⟨(L k).b,o,none⟩=some v->(w.setRow (L k).b (br arr.toList (i*sz+off) u.cells.toList).toArray).cell? ⟨(L k).b,o,none⟩=some v:=by
  intro o v _ hf hc;simp only[Blk.frz]at hf;rw[cell_setRow_same w _ o arr _ _ _ E,yAm,f o (.inl (by omega)),<-fU E];exact hc
 have S:(xs.set i q).length=xs.length:=by simp
 have r:dh (.row e sz xs fz) (L k) (.row e sz (xs.set i q) fz) (L k):=⟨rfl,rfl,by omega,λ_=>rfl⟩;have d:=G.touch_pk (blk':=.row e sz (xs.set i q) fz) F U hpr (λo hf=>hf) r yAn;refine G.touch F U (by simp) rfl rfl rfl hpr (λo hf=>hf) r yAn (by have Y:=G.own k _ F;exact Y) ?_;have O:y.cells.length=sz:=g3 y (An hi)
 have g:q.cells.length=sz:=by rw[V];simp[br];omega
 refine⟨g1,by omega,?_,λhn=>absurd c (by rw[hn];simp),λ_=>⟨by omega,W,_,setRow_heap w _ arr _ _ _ E,by simp[br];omega,?_⟩⟩
 .grind
 .intro Q x j p n a
  rw[Zg]at n;split at n
  .rename_i l
   subst l;injection n with n;subst n
   have K:j<sz:=by rw[<-g];exact(th.1 a).1
   rw[V]at a;by_cases c1:j<off
   .unfold br at a
    rw[yAd,Y8 (by simp;omega),Zy,Zd c1]at a;obtain⟨v,D,B⟩:=H i y j p hi a;exact⟨v,by rw[yAm,f _ (.inl (by omega))];exact D,B.mono d.1⟩
   .by_cases c2:j<off+ps.length
    .unfold br at a
     rw[yAd,Zc (by simp;omega),Y8 (by simp;omega)]at a;simp only[ZP]at a;rw[show j-min off y.cells.length=j-off from by omega]at a
     have m:j-off<u.cells.size:=by omega
     have N:u.cells.toList[j-off]?=some u.cells[j-off]:=by simp[m]
     refine⟨u.cells[j-off],?_,(T.2 _ p _ a N).mono d.1⟩
     grind
    .unfold br at a
     rw[Zc (by simp;omega),Z3]at a;simp only[Zq,ZP]at a;rw[show off+ps.length+(j-(min off y.cells.length+ps.length))=j from by omega]at a;obtain⟨v,D,B⟩:=H i y j p hi a;exact⟨v,by rw[yAm,f _ (.inr (by omega))];exact D,B.mono d.1⟩
  .rename_i l
   obtain⟨v,D,B⟩:=H Q x j p n a
   have K:j<sz:=by rw[<-g3 x (An n)];exact(th.1 a).1
   refine⟨v,?_,B.mono d.1⟩;rw[yAm,f _ ?_]
   .exact D
   .rcases Nat.lt_or_gt_of_ne l with m|J
    .right
     have:(i+1)*sz<=Q*sz:=Zt _ m
     grind
    .left
     have:(Q+1)*sz<=i*sz:=Zt _ J
     grind
theorem GP(b:bp w M ps us)(c:ps.all jl=true):∀x∈us,x.oneCell'=true:=by
 intro x d;obtain⟨i,hi⟩:=yAl.1 d
 have a:i<ps.length:=by rw[b.1];exact(th.1 hi).1
 exact uR (b.2 i ps[i] x (an a) hi) (L4.1 c _ (Zs a))
theorem DG(o:MemL C L h w)(hs:∀k b,h1 k=some b->h k=some b)(A:aA C.P t=some ti){v:AV}{a:Value}(F:RepA w (ae C L h) L h x a)(E:RepA w (ae C L h) L h v u)
 {W:List (Nat×Blk)}(e:xZ ti x v h1=some W):∃w',(Instr.storeAt t a u).run C.P w=.ok () w'/\aH C L h w L (ai h W) w':=by
 unfold xZ at e;split at e
 .rename_i k off
  split at e
  .rename_i cs own G r B
   split at e
   .rename_i m
    injection e with e;subst e;have z:=qw hs E B
    cases F with
    |ptr _=>
     refine Jp o (hs _ _ r) A z m.1 m.2.1 ?_;intro y q;obtain⟨i,hi⟩:=yAl.1 q
     have s:i<G.length:=by rw[z.1];exact(th.1 hi).1
     have N:=z.2 i G[i] y (an s) hi
     grind [H9,List.all_eq_true,List.getElem_mem]
   .cases e
  .cases e
 .rename_i k n i off
  split at e
  .rename_i M sz xs fz r
   split at e
   .rename_i m
    split at e
    .rename_i y p q hp
     have d:=hs _ _ r;obtain⟨b1,l,K⟩:=nI o (bI.of_sub hs) E hp;have l:Rep w (ae C L h) p u:=l;split at e
     .rename_i c
      simp only[pV,up,ZW]at c
      cases F with
      |eptr f H J=>
       rw[d]at f;injection f with f;injection f with a1 a2 a3 a4;subst a1;subst a2;subst a3;subst a4;obtain⟨g,rfl⟩:=J m.1;have D:=(o.bl k _ d).2.2.1 y (An q);split at e
       .rename_i j
        injection e with e;subst e;obtain⟨rfl,I⟩:=j;exact CP o d q m.2 g A l.cells c.1 (by omega) (GP l.cells c.2) (by simp[br];omega)
       .split at e
        .rename_i j
         injection e with e;subst e;exact CP o d q m.2 g A l.cells c.1 (by omega) (GP l.cells c.2) (ko _)
        .cases e
     .cases e
    .cases e
   .cases e
  .cases e
 .cases e
end
theorem t6(d:Ext (λ_=>False) w w'){b0:Nat}{q:Prop}(a:q->w.heap.size<=b0):Pres w M w' (λb o=>M b o\/(q/\b=b0)):=by
 refine Pres.ext d (λ_ _ h=>h.elim) λb o c=>?_;rintro(h|⟨hq,rfl⟩)
 .exact h
 .have:=a hq;omega
theorem jX(w:World)(o:Obj):(w.alloc o).heap[w.heap.size]?=some o:=heap_alloc_new w o
section
variable {C:Cx} {L:Nat->Loc} {h1 h:Hp} {w:World}
theorem BN(i:MemL C L h w)(hd:h d=none)(a:d<2000000){us:Array Value}(j:aD w (ae C L h) L h cs us.toList)(ty:TypeId):
 aH C L h w (av L d ⟨w.heap.size,0,false⟩) (av h d (some (.box cs true false))) (w.alloc (.cells us ty))/\
 RepA (w.alloc (.cells us ty)) (ae C (av L d ⟨w.heap.size,0,false⟩) (av h d (some (.box cs true false)))) (av L d ⟨w.heap.size,0,false⟩) (av h d (some (.box cs true false))) (.ptr d 0) (.pointer (some ⟨w.heap.size,0,none⟩)):=by
 have c:Ext (λ_=>False) w (w.alloc (.cells us ty)):=Ext.alloc _ w _;have b:KC L h (av L d ⟨w.heap.size,0,false⟩) (av h d (some (.box cs true false))):=KC.new hd;refine⟨i.newKey hd a c (λ_=>Zf _) (by intro f g e;injection e with _ e2;cases e2) ⟨us,ty,jX w _,j.mono (t6 c (λ_=>Zf _)) b⟩,?_⟩;have:=RepA.ptr (w:=w.alloc (.cells us ty)) (M:=ae C (av L d ⟨w.heap.size,0,false⟩) (av h d (some (.box cs true false)))) (L:=av L d ⟨w.heap.size,0,false⟩) (h:=av h d (some (.box cs true false))) (k:=d) (off:=0) (aG _ _ _);rw[aG]at this;exact this
theorem ly(j:MemL C L h w)(k:Ext (λ_=>False) w w')(hd:h d=none)(a:d<2000000)(i:l.isNil=false->w.heap.size<=l.b)
 (g:dk w' (λb o=>ae C L h b o\/(l.isNil=false/\b=l.b)) (λ_=>default) (λ_=>none) l (.row e sz xs 0)):
 aH C L h w (av L d l) (av h d (some (.row e sz xs 0))) w'/\
 RepA w' (ae C (av L d l) (av h d (some (.row e sz xs 0)))) (av L d l) (av h d (some (.row e sz xs 0))) (.arr d xs.length) (l.slice xs.length):=by
 refine⟨j.newKey hd a k i (by intro c f e;cases e) g,?_⟩;exact .arr (aG _ _ _) (Zf _) (λ_=>by rw[aG])
theorem PG{i j:Nat}(a:j<sz):(i*sz+j)%sz=j:=by
 rw[Nat.add_comm,Nat.add_mul_mod_self_right];exact Nat.mod_eq_of_lt a
theorem Ej(hm:MemL C L h w)(ht:aA C.P t=some ti){d:Option Nat}(g:∀q,d=some q->h1 q=h q/\q<2000000){l c:AV}{ul V:Value}(M:RepA w (ae C L h) L h l ul)(I:RepA w (ae C L h) L h c V)
 {v:AV}{W:List (Nat×Blk)}(e:At ti d l c h1=some (v,W)):
 ∃r w' L',(Instr.makeSlice t ul V).run C.P w=.ok r w'/\aH C L h w L' (ai h W) w'/\RepA w' (ae C L' (ai h W)) L' (ai h W) v r:=by
 obtain⟨i,dd,hi,hd,ad,_,hk⟩:=gE ht;unfold At at e;split at e
 .rename_i G H o z k1 n k2 m q f
  split at e
  .rename_i A
   obtain⟨c1,R,X,Y,Z,c6,c7⟩:=A;injection e with e;injection e with e1 e2;subst e1;subst e2;subst X
   have s:∃B j,dd=.slice B/\C.P.info? B=some j/\G=B/\j.size=H/\j.bytes=o/\j.zero=some z:=by
    rw[hk]at f;split at f
    .cases f
    .cases f
    .rename_i B
     split at f
     .rename_i j K;injection f with a1 a2 a3 a4;exact⟨B,j,rfl,K,a1.symm,a2,a3,a4⟩
     .cases f
    .cases f
   obtain⟨B,j,rfl,K,rfl,rfl,rfl,hz⟩:=s
   cases M with
   |pv M=>cases I with
    |pv I=>
     rw[aK M,aK I];have E:=run_make (P:=C.P) w t G j z hd K hz k1 k2 m m Y (Int.le_refl _) Z c6
     have J:h q=none:=by rw[<-(g q rfl).1];simpa using c7
     have hx:Ext (λ_=>False) w (w.alloc (.cells (madeCells z.cells (m.toNat*j.size)) G)):=Ext.alloc _ w _
     have u:=ly (e:=G) (sz:=j.size) (xs:=List.replicate m.toNat (PV.val z)) (l:=⟨w.heap.size,m.toNat,false⟩) hm hx J (g q rfl).2 (λ_=>Zf _) (by
      refine⟨c1,ZV _,?_,(λh=>by cases h),λ_=>⟨by simp,by simp only[maxLen];omega,_,jX w _,by simp[size_madeCells],?_⟩⟩
      .intro x O;rw[List.eq_of_mem_replicate O];simp[PV.cells,R]
      .intro a x b p k F
       have T:a<m.toNat:=by have:=(th.1 k).1;simpa using this
       rw[Zz,Zd T]at k;injection k with k;subst k;simp only[PV.cells,Y7,II]at F;obtain⟨y,U,rfl⟩:=F
       have hb:b<j.size:=by have:=(th.1 U).1;simp at this;omega
       have D:b<z.cells.size:=by omega
       refine⟨y,?_,.val _⟩
       have N:a*j.size+b<m.toNat*j.size:=by
        have:(a+1)*j.size<=m.toNat*j.size:=Zt _ T;rw[ZO]at this;omega
       have Q:z.cells[b]=y:=by simpa[D]using U
       simp[madeCells,N,R,PG hb]
       rw[getElem!_pos z.cells b D];exact Q)
     refine⟨_,_,_,E,u.1,?_⟩;have S:=u.2;rw[List.length_replicate]at S;exact S
  .cases e
 .cases e
theorem DH(hm:MemL C L h w)(ht:aA C.P t=some ti){hn:List Nat}{d:Option Nat}(g:∀q,d=some q->h1 q=h q/\q<2000000){l c:AV}{ul R:Value}(N:RepA w (ae C L h) L h l ul)(I:RepA w (ae C L h) L h c R)
 {v:AV}{W:List (Nat×Blk)}(e:yc ti hn d l c h1=some (v,W)):
 ∃r w' L',(Instr.makeSlice t ul R).run C.P w=.ok r w'/\aH C L h w L' (ai h W) w'/\RepA w' (ae C L' (ai h W)) L' (ai h W) v r:=by
 obtain⟨i,Y,hi,hd,ad,_,hk⟩:=gE ht;unfold yc at e;split at e
 .rename_i F k z k1 n k2 m q f
  split at e
  .rename_i x
   obtain⟨_,S,T,U,V,c6,X⟩:=x;injection e with e;injection e with B e2;subst B;subst e2;subst T
   have s:∃A j,Y=.slice A/\C.P.info? A=some j/\F=A/\j.size=1/\j.bytes=k/\j.zero=some z:=by
    rw[hk]at f;split at f
    .cases f
    .cases f
    .rename_i A
     split at f
     .rename_i j K;injection f with a1 a2 a3 a4;exact⟨A,j,rfl,K,a1.symm,a2,a3,a4⟩
     .cases f
    .cases f
   obtain⟨A,j,rfl,K,rfl,M,rfl,hz⟩:=s
   have O:z.cells=#[z]:=by
    have:=iC S;simp only[PV.cells]at this;apply Array.ext'
    cases E:z.cells.toList with
    |nil=>rw[E]at this;cases this
    |cons y r=>
     rw[E]at this;simp only[yAf,List.cons.injEq,List.map_eq_nil_iff]at this;obtain⟨B,rfl⟩:=this;injection B with B;subst B;rfl
   cases N with
   |pv N=>cases I with
    |pv I=>
     rw[aK N,aK I];have D:=run_make (P:=C.P) w t F j z hd K hz k1 k2 m m U (Int.le_refl _) V c6
     have J:h q=none:=by rw[<-(g q rfl).1];simpa using X
     have hx:Ext (λ_=>False) w (w.alloc (.cells (madeCells z.cells (m.toNat*j.size)) F)):=Ext.alloc _ w _
     have o:madeCells z.cells (m.toNat*j.size)=(List.replicate m.toNat z).toArray:=by
      rw[M,yAF,O];apply Array.ext
      .simp[size_madeCells]
      .intro a h1 h2
       simp[madeCells,Nat.mod_one]
     have Z:=BN (us:=madeCells z.cells (m.toNat*j.size)) (cs:=List.replicate m.toNat (.pv (.val z))) hm J (g q rfl).2 (by
      rw[o];refine⟨by simp,λa p u hp G=>?_⟩;have H:=(th.1 hp).1;simp only[List.length_replicate]at H;rw[Zz,Zd H]at hp;rw[Zz,Zd H]at G;injection hp with hp;injection G with G;subst hp;subst G
      exact .pv (.val _)) F
     refine⟨_,_,_,D,Z.1,?_⟩;have Q:RepX (av L q ⟨w.heap.size,0,false⟩) (av h q (some (.box (List.replicate m.toNat (.pv (.val z))) true false))) (.barr q m.toNat m.toNat) (.slice (some ⟨(av L q ⟨w.heap.size,0,false⟩ q).b,0,none⟩) m.toNat m.toNat):=.barr (Zf _) (aG _ _ _);rw[aG]at Q;exact .ext Q
  .cases e
 .cases e
theorem tE(P:MemL C L h w)(hs:∀k b,h1 k=some b->h k=some b)(Q:RepA w (ae C L h) L h x u){ys:List PV}(e:gj h1 x=some ys)(K:ys.all (pV sz)=true):
 ∃A c,u=.slice A ys.length c/\(A=none->ys=[])/\(0<ys.length->∃b o,A=some ⟨b,o,none⟩/\∃news:List Value,news.length=ys.length*sz/\(∀(j:Nat) v,news[j]?=some v->w.cell? ⟨b,o+j,none⟩=some v)/\
  (∀v∈news,v.oneCell'=true)/\(∀(i:Nat) y(j:Nat) p,ys[i]?=some y->y.cells[j]?=some p->∃v,news[i*sz+j]?=some v/\Rep w (ae C L h) p v)):=by
 have g:∀y∈ys,y.cells.length=sz/\y.cells.all jl=true:=by
  intro y d;have:=L4.1 K y d;simpa[pV]using this
 have mk:∀b o,(∀(i:Nat) y(j:Nat) p,ys[i]?=some y->y.cells[j]?=some p->∃v,w.cell? ⟨b,o+(i*sz+j),none⟩=some v/\Rep w (ae C L h) p v)->
  ∃news:List Value,news.length=ys.length*sz/\(∀(j:Nat) v,news[j]?=some v->w.cell? ⟨b,o+j,none⟩=some v)/\(∀v∈news,v.oneCell'=true)/\
   (∀(i:Nat) y(j:Nat) p,ys[i]?=some y->y.cells[j]?=some p->∃v,news[i*sz+j]?=some v/\Rep w (ae C L h) p v):=by
  intro b o H
  have z:∀q,q<ys.length*sz->∃v,w.cell? ⟨b,o+q,none⟩=some v/\v.oneCell'=true:=by
   intro q hq;have D:0<sz:=Nat.pos_of_ne_zero (λI=>by subst I;simp at hq);have hi:q/sz<ys.length:=Nat.div_lt_of_lt_mul (by rw[Nat.mul_comm];exact hq);have f:q%sz<sz:=Nat.mod_lt _ D;have d:=g _ (Zs hi)
   have F:q%sz<ys[q/sz].cells.length:=by omega
   obtain⟨v,m,l⟩:=H (q/sz) ys[q/sz] (q%sz) _ (an hi) (an F);refine⟨v,?_,uR l (L4.1 d.2 _ (Zs F))⟩;rw[show q/sz*sz+q%sz=q from by rw[Nat.mul_comm];exact Nat.div_add_mod q sz]at m;exact m
  refine⟨(List.range (ys.length*sz)).map λq=>(w.cell? ⟨b,o+q,none⟩).getD undef,by simp,?_,?_,?_⟩
  .intro j v f
   rw[Y7]at f;by_cases G:j<ys.length*sz
   .rw[List.getElem?_range G]at f
    obtain⟨Y,s,_⟩:=z j G;simp[s]at f;rw[s,f]
   .rw[Zh (by simp;omega)]at f;cases f
  .intro v m
   obtain⟨q,hq,rfl⟩:=Zv.1 m;obtain⟨Y,s,W⟩:=z q (ZL.1 hq);simpa[s]using W
  .intro i y j p d f
   obtain⟨v,m,l⟩:=H i y j p d f;refine⟨v,?_,l⟩;have hi:i<ys.length:=(th.1 d).1
   have T:j<sz:=by rw[<-(g y (An d)).1];exact(th.1 f).1
   have:(i+1)*sz<=ys.length*sz:=Zt _ hi;rw[ZO]at this;rw[Y7,List.getElem?_range (by omega)];simp[m]
 cases x with
 |pv p=>
  cases Q with
  |pv l=>
  cases p with
  |sl Z=>
   simp only[gj,Za]at e;subst e
   cases l with
   |sl0 a c=>exact⟨a,c,rfl,λ_=>rfl,(λh=>by simp at h)⟩
   |sl _ b o c E uu O D H l=>
    refine⟨_,c,rfl,(λh=>by cases h),λI=>⟨b,o,rfl,mk b o ?_⟩⟩;intro i y j p d f
    have:E=sz:=by rw[<-D i y d];exact(g y (An d)).1
    subst this;exact⟨_,(H i y j p d f).1,l i y j p d f⟩
  |val v=>
   simp only[gj]at e;split at e
   .rename_i m
    injection e with e;subst e;rw[aK l,kK m];exact⟨none,0,rfl,λ_=>rfl,(λh=>by simp at h)⟩
   .cases e
  |_=>simp[gj]at e
 |arr k n=>
  simp only[gj]at e;split at e
  .rename_i ee E xs fz U
   split at e
   .rename_i hn
    injection e with e;subst e;have B:=hs _ _ U
    cases Q with
    |arr r V X=>
     rw[B]at r;injection r with r;injection r with a1 a2 a3 a4;subst a1;subst a2;subst a3;subst a4;rw[X hn];rcases oY P B with⟨J,N⟩|⟨J,_,_,arr,R,_,S⟩
     .subst N;subst hn
      exact⟨none,0,by simp[Loc.slice,J],λ_=>rfl,(λh=>by simp at h)⟩
     .refine⟨some ⟨(L k).b,0,none⟩,(L k).cap,by simp[Loc.slice,J,hn],(λh=>by cases h),λI=>⟨(L k).b,0,rfl,mk _ _ ?_⟩⟩
      intro i y j p d f
      have M:E=sz:=by rw[<-(P.bl k _ B).2.2.1 y (An d)];exact(g y (An d)).1
      subst M;obtain⟨v,m,l⟩:=S i y j p d f;exact⟨v,by rw[fU R,Z7];exact m,l⟩
   .cases e
  .cases e
 |ptr=>simp[gj]at e
 |eptr=>simp[gj]at e
 |agg=>simp[gj]at e
 |fn=>simp[gj]at e
 |tup=>simp[gj]at e
 |ext=>simp[gj]at e
 |undef=>simp[gj]at e
end
theorem zH{b:Blk}(a:h k=some b):av h k (some b)=h:=by
 funext n;unfold av;split
 all_goals grind
theorem dJ(f:aA P t=some ti){a:Nat}{z:Option Value}(g:ti.kind=.slice e sz a z):
 P.underlying t=some (.slice e)/\∃j,P.info? e=some j/\j.size=sz/\j.bytes=a/\j.zero=z:=by
 obtain⟨i,d,hi,hd,c,_,b⟩:=gE f
 grind
theorem za{e:TypeId}{j:TypeInfo}(f:P.underlying t=some (.slice e))(d:P.info? e=some j)(B:Option Addr)(n cap:Nat)(hn:n<=cap)(A:Option Addr)(c:Nat):
 (Builtin.append_ #[t,t] ty #[.slice B n cap,.slice A 0 c]).run P w=.ok (.slice B n cap) w:=by
 have hf:(Builtin.firstCells j.size 0 (.slice A 0 c)).run P w=.ok #[] w:=by
  cases A with
  |none=>rfl
  |some a=>simp only[Builtin.firstCells,yBi];rfl
 cases B with
 |none=>simp[Builtin.append_,run_underlying f,sizeOf,typeInfo,d,Builtin.lenOf,hn,hf]
 |some b=>simp[Builtin.append_,run_underlying f,sizeOf,typeInfo,d,Builtin.lenOf,hn,hf,storeCells]
theorem K3{ys:List PV}{a news:List Value}(g:a.length=xs.length*sz)(l:∀x∈xs,x.cells.length=sz)(m:∀y∈ys,y.cells.length=sz)
 (o:∀(i:Nat) x(j:Nat) p,xs[i]?=some x->x.cells[j]?=some p->∃u,a[i*sz+j]?=some u/\Rep w M p u)
 (hn:∀(i:Nat) x(j:Nat) p,ys[i]?=some x->x.cells[j]?=some p->∃u,news[i*sz+j]?=some u/\Rep w M p u)
 (i:Nat)(x:PV)(j:Nat)(p:PV)(d:(xs++ys)[i]?=some x)(e:x.cells[j]?=some p):∃u,(a++news)[i*sz+j]?=some u/\Rep w M p u/\i*sz+j<(xs.length+ys.length)*sz:=by
 have f:j<sz:=by
  grind
 have b:i<xs.length+ys.length:=by have:=(th.1 d).1;simpa using this
 have c:i*sz+j<(xs.length+ys.length)*sz:=by
  have:(i+1)*sz<=(xs.length+ys.length)*sz:=Zt _ b
  grind
 by_cases hi:i<xs.length
 .grind
 .rw[Zc (by omega)]at d
  obtain⟨u,q,k⟩:=hn _ x j p d e;refine⟨u,?_,k,c⟩
  have n:i*sz=xs.length*sz+(i-xs.length)*sz:=by rw[<-Nat.add_mul];congr 1;omega
  grind
section
variable {C:Cx} {L:Nat->Loc} {h1 h:Hp} {w:World}
theorem BO(S:MemL C L h w)(hs:∀k b,h1 k=some b->h k=some b)(ht:aA C.P t=some ti){d:Option Nat}(M:∀q,d=some q->h1 q=h q/\q<2000000)
 {s x:AV}{us ux:Value}(b5:RepA w (ae C L h) L h s us)(hx:RepA w (ae C L h) L h x ux){v:AV}{W:List (Nat×Blk)}(e:uL ti d s x h1=some (v,W)):
 ∃r w' L',(Builtin.append_ #[t,t] ty #[us,ux]).run C.P w=.ok r w'/\aH C L h w L' (ai h W) w'/\RepA w' (ae C L' (ai h W)) L' (ai h W) v r:=by
 unfold uL at e;split at e
 .rename_i et cm ca z aj
  obtain⟨I,a,hj,rfl,rfl,hz⟩:=dJ ht aj;split at e
  .cases e
  .rename_i f cj
   split at e
   .rename_i ad
    obtain⟨c1,c2,c3⟩:=ad
    have Y:∀y∈f,y.cells.length=a.size:=by
     intro y hy;have:=L4.1 c3 y hy;simp[pV]at this;exact this.1
    obtain⟨A,c,rfl,cn,hA⟩:=tE S hs hx cj c3;split at e
    .rename_i k n
     split at e
     .rename_i J sz xs fz hk
      split at e
      .rename_i hc
       obtain⟨ah,hn,rfl,rfl,K,cb⟩:=hc;injection e with e;injection e with e1 e2;subst e1;subst e2;have E:=hs _ _ hk;rw[jW]
       have b9:us=(L k).slice n:=by
        cases b5 with
        |arr ah cr H=>
         grind
       subst b9;obtain⟨g1,g2,g3,g4,g5⟩:=S.bl k _ E;by_cases a8:f.length=0
       .have bq:f=[]:=ZC a8
        subst bq
        have cf:∃B cap,(L k).slice n=.slice B n cap/\n<=cap:=by
         rcases oY S E with⟨V,a7⟩|⟨V,a1,_⟩
         .subst a7;subst hn;exact⟨none,0,by simp[Loc.slice,V],Zf _⟩
         .exact⟨_,_,by simp[Loc.slice,V];exact⟨rfl,rfl⟩,by omega⟩
        obtain⟨B,cap,hB,cc⟩:=cf;refine⟨(L k).slice n,w,L,by rw[hB];exact za I hj B n cap cc A c,?_,?_⟩
        .rw[yAX,zH E];exact aH.refl S
        .rw[yAX,zH E,yAW,yA3]
         omega
       .obtain⟨b,o,rfl,news,n1,n2,n3,n4⟩:=hA (by omega)
        have m:∀j u,news[j]?=some u->w.cell? ((⟨b,o,none⟩:Addr).add j)=some u:=λj u H=>by rw[fo];exact n2 j u H
        rcases oY S E with⟨V,a7⟩|⟨V,a1,a2,arr,a3,a4,a5⟩
        .
         subst a7;simp only[yAW]at hn;subst hn
         have a6:(L k).slice 0=.slice none 0 0:=by simp[Loc.slice,V]
         rw[a6];have D:=run_append_nil (P:=C.P) w t ty J a z I hj hz ⟨b,o,none⟩ f.length c news n1 m (by omega) (by omega) (by rw[Z7]at K;omega);have F:Ext (λ_=>False) w (w.drew.alloc (.cells (news.toArray++Builtin.zeroCells z.cells (grownCap w f.length 0 J-f.length)) J)):=(Ext.drew _ w).trans (Ext.alloc _ _ _) (λ_ _ h=>h);have X:=grownCap_ge w f.length 0 J;have N:=grownCap_le_maxLen w f.length 0 J (by simp only[maxLen];omega)
         have ar:=S.move (xs':=[]++f) (l':=⟨w.heap.size,grownCap w f.length 0 J,false⟩) E ah F ⟨rfl,Zf _⟩ (by simp;omega) (by
          refine⟨c1,by simp at g2|-;omega,by simpa using Y,(λh=>by cases h),λ_=>⟨by simpa using X,N,_,jX _ _,?_,?_⟩⟩
          .simp only[yAM,yAy,n1,size_zeroCells,c2]
           rw[<-Nat.add_mul];congr 1;omega
          .intro i x j p g G
           simp only[List.nil_append]at g;obtain⟨u,H,T⟩:=n4 i x j p g G;refine⟨u,?_,T.mono ((t6 (q:=True) F (λ_=>Zf _)).trans (Pres.sub (λZ o' h=>h.elim .inl (λh=>.inr ⟨trivial,h⟩))))⟩;rw[ZJ (by have:=(th.1 H).1;simpa using this)]
           simpa using H)
         refine⟨_,_,_,D,ar,?_⟩;refine .arr (aG _ _ _) (by simp) (λ_=>?_);rw[aG];simp[Loc.slice]
        .have a6:(L k).slice n=.slice (some ⟨(L k).b,0,none⟩) n (L k).cap:=by simp[Loc.slice,V]
         rw[a6]
         have ck:n*a.size<=arr.size:=by rw[a4];exact Zt _ (by omega)
         have Q:(arr.toList.take (n*a.size)).length=xs.length*a.size:=by simp[hn];omega
         have b3:∀(i:Nat) x(j:Nat) p,xs[i]?=some x->x.cells[j]?=some p->∃u,(arr.toList.take (n*a.size))[i*a.size+j]?=some u/\Rep w (ae C L h) p u:=by
          intro i x j p g G;obtain⟨u,H,T⟩:=a5 i x j p g G;refine⟨u,?_,T⟩
          have cq:j<a.size:=by rw[<-g3 x (An g)];exact(th.1 G).1
          have cp:i<xs.length:=(th.1 g).1;have:(i+1)*a.size<=n*a.size:=Zt _ (by omega)
          grind
         have R:=K3 Q g3 Y b3 n4;by_cases U:n+f.length<=(L k).cap
         .have ak:(n+f.length)*a.size<=arr.size:=by rw[a4];exact Zt _ U
          rw[ZO]at ak;have D:=run_append_room (P:=C.P) w t ty J a I hj (L k).b n (L k).cap arr a3 ⟨b,o,none⟩ f.length c news n1 m n3 U (by omega);refine⟨_,_,L,D,?_,?_⟩
          .have hw:∀Z,Z<w.heap.size->((Blk.row J a.size xs fz).live (L k)->Z≠(L k).b)->(w.setRow (L k).b (arr.toList.take (n*a.size)++news++arr.toList.drop (n*a.size+news.length)).toArray).heap[Z]?=w.heap[Z]?:=
            λZ _ hb=>setRow_other w _ Z _ (hb V)
           have ch:∀q,q<n*a.size->(arr.toList.take (n*a.size)++news++arr.toList.drop (n*a.size+news.length))[q]?=arr[q]?:=by
            grind
           have hpr:∀o v,(Blk.row J a.size xs fz).live (L k)->(Blk.row J a.size xs fz).frz o->w.cell? ⟨(L k).b,o,none⟩=some v->
            (w.setRow (L k).b (arr.toList.take (n*a.size)++news++arr.toList.drop (n*a.size+news.length)).toArray).cell? ⟨(L k).b,o,none⟩=some v:=by
            intro q v _ hf hc;simp only[Blk.frz]at hf;have:fz*a.size<=n*a.size:=Zt _ (by omega);rw[cell_setRow_same w _ q arr _ _ _ a3,yAm,ch q (by omega),<-fU a3];exact hc
           have b2:dh (.row J a.size xs fz) (L k) (.row J a.size (xs++f) fz) (L k):=⟨rfl,rfl,by simp,λ_=>rfl⟩;have cg:=S.touch_pk (blk':=.row J a.size (xs++f) fz) E hw hpr (λo hf=>hf) b2 yAn;refine S.touch E hw (by simp) rfl rfl rfl hpr (λo hf=>hf) b2 yAn (by have h9:=S.own k _ E;exact h9) ?_;refine⟨g1,by simp;omega,?_,(λhn=>by rw[V]at hn;cases hn),λ_=>⟨by simp;omega,a2,_,setRow_heap w _ arr _ _ _ a3,?_,?_⟩⟩
           .grind
           .grind
           .intro i x j p g G
            obtain⟨u,H,T,cd⟩:=R i x j p g G;refine⟨u,?_,T.mono cg.1⟩
            grind
          .refine .arr (aG _ _ _) (by simp;omega) (λ_=>?_)
           simp[Loc.slice,V]
         .have D:=run_append_grow (P:=C.P) w t ty J a z I hj hz ⟨(L k).b,0,none⟩ n (L k).cap (arr.toList.take (n*a.size)) (by rw[Q,hn])
           (λq u H=>by
             rw[fo,fU a3,Z7];rw[Zy]at H;split at H
             .simpa using H
             .cases H)
           ⟨b,o,none⟩ f.length c news n1 m (by omega) (by omega) (growslice_fits (by omega) K)
          have F:Ext (λ_=>False) w (w.drew.alloc (.cells ((arr.toList.take (n*a.size)).toArray++news.toArray++Builtin.zeroCells z.cells (grownCap w (n+f.length) (L k).cap J-(n+f.length))) J)):=
           (Ext.drew _ w).trans (Ext.alloc _ _ _) (λ_ _ h=>h)
          have X:=grownCap_ge w (n+f.length) (L k).cap J;have N:=grownCap_le_maxLen w (n+f.length) (L k).cap J (by simp only[maxLen];omega)
          have ar:=S.move (xs':=xs++f) (l':=⟨w.heap.size,grownCap w (n+f.length) (L k).cap J,false⟩) E ah F ⟨rfl,Zf _⟩ (by simp;omega) (by
           refine⟨c1,by simp;omega,?_,(λh=>by cases h),λ_=>⟨by simp;omega,N,_,jX _ _,?_,?_⟩⟩
           .intro x F
            rcases Zm.1 F with h'|h'
            .exact g3 x h'
            .exact Y x h'
           .simp only[yAM,yAy,Q,n1,size_zeroCells,c2,hn]
            rw[<-Nat.add_mul,<-Nat.add_mul];congr 1;omega
           .intro i x j p g G
            obtain⟨u,H,T,cd⟩:=R i x j p g G;refine⟨u,?_,T.mono ((t6 (q:=True) F (λ_=>Zf _)).trans (Pres.sub (λZ o' h=>h.elim .inl (λh=>.inr ⟨trivial,h⟩))))⟩;have b7:=(th.1 H).1
            have b8:i*a.size+j<((arr.toList.take (n*a.size)).toArray++news.toArray).size:=by simp only[yAM,yAy];simp only[Zq]at b7;exact b7
            rw[ZJ b8,<-Array.getElem?_toList,Array.toList_append]
            exact H)
          refine⟨_,_,_,D,ar,?_⟩;refine .arr (aG _ _ _) (by simp;omega) (λ_=>?_);rw[aG];simp[Loc.slice]
      .cases e
     .cases e
    .rename_i vv
     split at e
     .rename_i hv
      split at e
      .rename_i q
       split at e
       .rename_i hc
        obtain⟨hq,K,cb⟩:=hc;injection e with e;injection e with e1 e2;subst e1;subst e2;rw[jW]
        have b4:h q=none:=by rw[<-(M q rfl).1];simpa using hq
        cases b5 with
        |pv T=>
        rw[aK T,kK hv];by_cases a8:f.length=0
        .have bq:f=[]:=ZC a8
         subst bq
         have O:=ly (e:=et) (sz:=a.size) (xs:=[]) (l:=⟨0,0,true⟩) S (Ext.refl _ w) b4 (M q rfl).2 (λh=>by cases h)
          ⟨c1,ZV _,by simp,λ_=>rfl,(λh=>by cases h)⟩
         exact⟨_,_,_,za I hj none 0 0 (Zf _) A c,O.1,O.2⟩
        .obtain⟨b,o,rfl,news,n1,n2,n3,n4⟩:=hA (by omega)
         have m:∀j u,news[j]?=some u->w.cell? ((⟨b,o,none⟩:Addr).add j)=some u:=λj u H=>by rw[fo];exact n2 j u H
         have D:=run_append_nil (P:=C.P) w t ty et a z I hj hz ⟨b,o,none⟩ f.length c news n1 m (by omega) (by omega) (by omega);have F:Ext (λ_=>False) w (w.drew.alloc (.cells (news.toArray++Builtin.zeroCells z.cells (grownCap w f.length 0 et-f.length)) et)):=(Ext.drew _ w).trans (Ext.alloc _ _ _) (λ_ _ h=>h);have X:=grownCap_ge w f.length 0 et;have N:=grownCap_le_maxLen w f.length 0 et (by simp only[maxLen];omega)
         have O:=ly (e:=et) (sz:=a.size) (xs:=f) (l:=⟨w.heap.size,grownCap w f.length 0 et,false⟩) S F b4 (M q rfl).2 (λ_=>Zf _) (by
          refine⟨c1,ZV _,Y,(λh=>by cases h),λ_=>⟨X,N,_,jX _ _,?_,?_⟩⟩
          .simp only[yAM,yAy,n1,size_zeroCells,c2]
           rw[<-Nat.add_mul];congr 1;omega
          .intro i x j p g G
           obtain⟨u,H,T⟩:=n4 i x j p g G;refine⟨u,?_,T.mono (t6 F (λ_=>Zf _))⟩;rw[ZJ (by have:=(th.1 H).1;simpa using this)]
           simpa using H)
         exact⟨_,_,_,D,O.1,O.2⟩
       .cases e
      .cases e
     .cases e
    .cases e
   .cases e
 .cases e
theorem Ek(I:MemL C L h w)(hs:∀k b,h1 k=some b->h k=some b){t':TypeId}(ht:aA C.P t=some ti)
 {s x:AV}{us ux:Value}(ak:RepA w (ae C L h) L h s us)(hx:RepA w (ae C L h) L h x ux){v:AV}{W:List (Nat×Blk)}(e:As ti s x h1=some (v,W)):
 ∃r w',(Builtin.copy_ #[t,t'] ty #[us,ux]).run C.P w=.ok r w'/\aH C L h w L (ai h W) w'/\RepA w' (ae C L (ai h W)) L (ai h W) v r:=by
 unfold As at e;split at e
 .rename_i e1 b4 U z k n H
  obtain⟨D,d,X,rfl,rfl,hz⟩:=dJ ht H;split at e
  .rename_i G sz xs g hk a8
   split at e
   .rename_i hc
    obtain⟨hn,rfl,c3⟩:=hc;injection e with e;injection e with ea eb;subst ea;subst eb;rw[jW];have f:=hs _ _ hk
    have S:us=(L k).slice n:=by
     cases ak with
     |arr E b9 hu=>
      rw[f]at E;injection E with E;injection E with a1 a2 T a4;subst T;exact hu hn
    subst S
    have a7:∀y∈g,y.cells.length=d.size:=by
     intro y hy;have:=L4.1 c3 y hy;simp[pV]at this;exact this.1
    obtain⟨A,c,rfl,b5,hA⟩:=tE I hs hx a8 c3;obtain⟨g1,g2,g3,g4,g5⟩:=I.bl k _ f;by_cases l:Nat.min g.length n=0
    .
     have bq:(g.take (Nat.min g.length n)++xs.drop (Nat.min g.length n))=xs:=by rw[l];simp
     rw[bq,zH f,l];refine⟨goInt 0,w,?_,aH.refl I,.pv (.val _)⟩
     have hf:(Builtin.firstCells d.size 0 (.slice A g.length c)).run C.P w=.ok #[] w:=by
      cases A with
      |none=>rfl
      |some a=>simp only[Builtin.firstCells,yBi];rfl
     unfold Loc.slice
     cases b3:(L k).isNil with
     |true=>
      simp[Builtin.copy_,run_underlying D,Builtin.lenOf,sizeOf,typeInfo,X,hf,goInt]
     |false=>simp[Builtin.copy_,run_underlying D,Builtin.lenOf,sizeOf,typeInfo,X,l,hf,storeCells,goInt]
    .have F:0<Nat.min g.length n:=Nat.pos_of_ne_zero l
     have a6:0<g.length:=ZY F (Nat.min_le_left _ _);have ca:0<n:=ZY F (Nat.min_le_right _ _);obtain⟨b,o,rfl,news,n1,n2,n3,n4⟩:=hA a6;rcases oY I f with⟨V,ar⟩|⟨V,a1,a2,arr,T,a4,a5⟩
     .subst ar;simp at hn;omega
     .have aj:(L k).slice n=.slice (some ⟨(L k).b,0,none⟩) n (L k).cap:=by simp[Loc.slice,V]
      rw[aj];generalize J:Nat.min g.length n=m at *
      have Z:m<=g.length:=by rw[<-J];exact Nat.min_le_left _ _
      have b8:m<=n:=by rw[<-J];exact Nat.min_le_right _ _
      have ah:m*d.size<=news.length:=by rw[n1];exact Zt _ Z
      have ad:m*d.size<=arr.size:=by rw[a4];exact Zt _ (by omega)
      have K:(news.take (m*d.size)).length=m*d.size:=by simp;omega
      have hf:(Builtin.firstCells d.size m (.slice (some ⟨b,o,none⟩) g.length c)).run C.P w=.ok (news.take (m*d.size)).toArray w:=by
       have:=run_loadCells_list (P:=C.P) w ⟨b,o,none⟩ (news.take (m*d.size)) (λq v hq=>by
        rw[fo];rw[Zy]at hq;split at hq
        .exact n2 q v hq
        .cases hq)
       rw[K]at this;simpa[Builtin.firstCells]using this
      have R:=run_storeCells_at C.P (L k).b 0 G (news.take (m*d.size)) 0 arr w T (by rw[K];omega) (λv hv=>n3 v (yAO hv));simp only[Z7,List.take_zero,List.nil_append,K]at R;refine⟨goInt m,w.setRow (L k).b (news.take (m*d.size)++arr.toList.drop (m*d.size)).toArray,?_,?_,?_⟩
      .simp only[Builtin.copy_,yAm,yAj,yA1,Sem.run_bind,run_underlying D,Result.andThen_ok,Builtin.lenOf,Sem.run_pure,sizeOf,typeInfo,program,Sem.run,X,J,hf,R]
      .have hw:∀N,N<w.heap.size->((Blk.row G d.size xs 0).live (L k)->N≠(L k).b)->(w.setRow (L k).b (news.take (m*d.size)++arr.toList.drop (m*d.size)).toArray).heap[N]?=w.heap[N]?:=
        λN _ hb=>setRow_other w _ N _ (hb V)
       have b2:(g.take m++xs.drop m).length=xs.length:=by simp;omega
       have O:dh (.row G d.size xs 0) (L k) (.row G d.size (g.take m++xs.drop m) 0) (L k):=⟨rfl,rfl,by omega,λ_=>rfl⟩
       have hpr:∀o v,(Blk.row G d.size xs 0).live (L k)->(Blk.row G d.size xs 0).frz o->w.cell? ⟨(L k).b,o,none⟩=some v->
        (w.setRow (L k).b (news.take (m*d.size)++arr.toList.drop (m*d.size)).toArray).cell? ⟨(L k).b,o,none⟩=some v:=by
        intro q v _ hf _;simp only[Blk.frz,yBi]at hf;omega
       have Q:=I.touch_pk (blk':=.row G d.size (g.take m++xs.drop m) 0) f hw hpr (λo hf=>hf) O yAn;refine I.touch f hw (by simp) rfl rfl rfl hpr (λo hf=>hf) O yAn (by have h9:=I.own k _ f;exact h9) ?_;refine⟨g1,ZV _,?_,(λhn=>by rw[V]at hn;cases hn),λ_=>⟨by omega,a2,_,setRow_heap w _ arr _ _ _ T,?_,?_⟩⟩
       .grind
       .grind
       .intro i x j p B M
        have Y:∀y:PV,y.cells.length=d.size->x=y->j<d.size:=λy hy e=>by subst e;rw[<-hy];exact(th.1 M).1
        by_cases hi:i<m
        .rw[Y8 (by simp;omega),Zy,Zd hi]at B
         obtain⟨u,hu,hr⟩:=n4 i x j p B M;have b7:=Y x (a7 x (An B)) rfl;have:(i+1)*d.size<=m*d.size:=Zt _ hi;rw[ZO]at this;refine⟨u,?_,hr.mono Q.1⟩
         grind
        .rw[Zc (by simp;omega),Z3]at B
         rw[show m+(i-(g.take m).length)=i from by simp;omega]at B;obtain⟨u,hu,hr⟩:=a5 i x j p B M;have:m*d.size<=i*d.size:=Zt _ (by omega);refine⟨u,?_,hr.mono Q.1⟩
         grind
      .exact .pv (.val _)
   .cases e
  .cases e
 .cases e
end
end Go.Ab
