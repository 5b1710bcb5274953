/- The contracts and facts that the laws of this seat need, in one text (AbA). -/
import Derived.WalkKit
import Derived.Defers
import Derived.Recover
import Derived.Maps.AppendAt
set_option linter.all false
set_option maxRecDepth 10000
set_option maxHeartbeats 16000000
namespace Go.Ab
open IntKind (i64)
abbrev an:=@List.getElem?_eq_getElem
abbrev th:=@List.getElem?_eq_some_iff
abbrev An:=@Bool.and_eq_true
abbrev In:=@List.mem_of_getElem?
abbrev Is:=@decide_eq_true_eq
abbrev II:=@Option.map_eq_some_iff
abbrev IV:=@List.all_eq_true
abbrev L4:=@if_neg
abbrev ZW:=@List.getElem?_map
abbrev ZX:=@List.getElem?_append_left
abbrev ZY:=@Bool.false_eq_true
abbrev Z9:=@Option.some.injEq
abbrev yAa:=@List.getElem?_append_right
abbrev yAb:=@if_pos
abbrev yAc:=@Array.getD_eq_getD_getElem?
abbrev yAd:=@Nat.le_refl
abbrev yAe:=@List.getElem?_set
abbrev yAf:=@List.getElem?_eq_none
abbrev yAg:=@Option.bind_some
abbrev yAh:=@decide_eq_false_iff_not
abbrev yAi:=@if_false
abbrev yAj:=@Prod.mk.injEq
abbrev yAk:=@List.mem_append
abbrev yAl:=@Option.getD_some
abbrev yAm:=@Int.toNat_natCast
abbrev yAn:=@if_true
abbrev yAo:=@List.length_append
abbrev yAp:=@Int.tdiv_eq_ediv_of_nonneg
abbrev yAq:=@List.getElem_mem
abbrev yAr:=@Nat.mul_le_mul_right
abbrev yAs:=@Bool.true_and
abbrev yAt:=@List.mem_map
abbrev yAu:=@List.take_of_length_le
abbrev yAv:=@List.mem_cons
abbrev yAw:=@List.getElem?_take
abbrev yAx:=@List.getElem?_replicate
abbrev yAy:=@Option.isSome_iff_exists
abbrev yAz:=@List.length_map
abbrev yAA:=@List.eq_nil_of_length_eq_zero
abbrev yAB:=@List.not_mem_nil
abbrev yAC:=@Array.getElem?_eq_some_iff
abbrev yAD:=@List.getElem?_of_mem
abbrev yAE:=@List.mem_singleton
abbrev yAF:=@decide_eq_true
abbrev yAG:=@Bool.false_and
abbrev yAH:=@Array.getElem?_append_left
abbrev yAI:=@Bool.not_eq_true'
abbrev yAJ:=@List.mem_range
abbrev yAK:=@List.ext_getElem?
abbrev yAL:=@Array.getElem?_eq_getElem
abbrev yAM:=@Nat.add_mul
abbrev yAN:=@List.length_take
abbrev yAO:=@Option.some.inj
abbrev yAP:=@List.take_succ_eq_append_getElem
abbrev yAQ:=@Option.map_some
abbrev yAR:=@List.mem_or_eq_of_mem_set
abbrev yAT:=@Nat.zero_le
abbrev yAU:=@beq_iff_eq
abbrev yAV:=@Bool.or_eq_true
abbrev yAW:=@Nat.lt_of_lt_of_le
abbrev yAX:=@Array.getElem?_setIfInBounds_ne
abbrev yAY:=@List.getElem?_drop
abbrev yAZ:=@or_false
abbrev yA1:=@List.length_singleton
abbrev yA2:=@Nat.zero_add
abbrev yA3:=@Int.mul_nonneg
abbrev yA4:=@decide_eq_false
abbrev yA5:=@List.mem_filter
abbrev yA6:=@beq_eq_false_iff_ne
abbrev yA7:=@Array.length_toList
abbrev yA8:=@List.append_assoc
abbrev yA9:=@Int.mul_le_mul_of_nonneg_left
abbrev yBa:=@List.map_cons
abbrev yBb:=@Int.emod_nonneg
abbrev yBc:=@List.find?_eq_none
abbrev yBd:=@Int.emod_lt_of_pos
abbrev yBe:=@List.getElem?_cons_zero
abbrev yBf:=@Bool.or_eq_false_iff
abbrev yBg:=@List.mem_iff_getElem?
abbrev yBh:=@List.getElem?_toArray
abbrev yBi:=@Iff.rfl
abbrev yBj:=@Bool.and_self
abbrev yBk:=@Nat.mul_le_mul
abbrev yBl:=@List.mem_iff_getElem
abbrev yBm:=@Bool.and_false
abbrev yBn:=@Int.eq_ofNat_of_zero_le
abbrev yBo:=@List.range_succ
abbrev yBp:=@List.length_set
abbrev yBq:=@List.set_append_right
abbrev yBr:=@List.foldl_cons
abbrev yBs:=@not_true_eq_false
abbrev yBt:=@congrArg
abbrev yBu:=@List.size_toArray
abbrev yBv:=@List.map_set
abbrev yBw:=@List.all_eq_false
abbrev yBx:=@Nat.add_assoc
abbrev yBy:=@Bool.not_true
abbrev yBz:=@Bool.and_true
abbrev yBA:=@List.length_cons
abbrev yBB:=@Nat.mul_one
abbrev yBC:=@Nat.le_trans
abbrev yBD:=@List.filter_append
abbrev yBE:=@Int.tmod_lt_of_pos
abbrev yBF:=@List.find?_some
abbrev yBG:=@Nat.lt_trichotomy
abbrev yBH:=@List.any_eq_false
abbrev yBI:=@Array.size_append
abbrev yBJ:=@decide_true
abbrev yBL:=@List.mem_of_mem_take
abbrev yBM:=@List.mem_append_left
abbrev yBN:=@List.getD_eq_getElem?_getD
abbrev yBO:=@Nat.sub_self
abbrev yBP:=@List.take_length
abbrev yBQ:=@List.any_eq_true
abbrev yBR:=@Array.getElem?_replicate
abbrev yBS:=@List.map_append
abbrev yBT:=@List.length_nil
abbrev yBU:=@List.append_nil
abbrev yBV:=@Int.ediv_nonneg
abbrev yBW:=@Int.lt_tmod_of_pos
abbrev yBX:=@List.getElem?_cons_succ
abbrev yBY:=@List.findIdx?_eq_some_iff_getElem
abbrev yBZ:=@Nat.add_zero
abbrev yB0:=@List.take_add_one
abbrev yB1:=@List.foldl_append
abbrev yB2:=@List.drop_eq_nil_of_le
abbrev yB3:=@Int.le_total
abbrev yB4:=@Int.le_ediv_iff_mul_le
abbrev yB5:=@Int.ediv_lt_iff_lt_mul
abbrev yB7:=@List.length_filter_le
abbrev yB8:=@Int.mul_tdiv_add_tmod
abbrev yB9:=@List.find?_eq_some_iff_getElem
abbrev yCa:=@List.mem_cons_of_mem
abbrev yCb:=@Int.neg_mul
abbrev yCc:=@Int.le_refl
abbrev yCd:=@List.nodup_cons
abbrev yCe:=@Nat.zero_mul
abbrev yCf:=@Nat.pow_succ
abbrev yCg:=@List.map_nil
abbrev yCh:=@List.drop_zero
abbrev yCi:=@Int.tmod_eq_emod_of_nonneg
abbrev yCj:=@Int.mul_le_mul
abbrev yCk:=@Bool.not_false
abbrev yCl:=@Option.isNone_iff_eq_none
abbrev yCm:=@List.drop_eq_getElem_cons
abbrev yCn:=@Int.ediv_le_self
end Go.Ab
namespace Go.Ab
open IntKind (i64)
inductive PV where
 |val(v:Value)
 |agg(cs:List PV)
 |sl(xs:List PV)
 |rptr(x:PV)(off:Nat)
 |fn(f:Fn)(first caps:List PV)
 |tup(vs:List PV)
 |ifc(t:TypeId)(x:PV)
 |hd(n:Nat)
 |mp(kd:IntKind)(n:Nat)(es:List (List Int×Value))
 deriving Inhabited
variable {M M':Nat->Nat->Prop}{P:Program}{S:Nat->Prop}{b d e fz k n o off sz:Nat}{es:List (List Int×Value)}{ops:Array Oper}{p:PV}{ps xs:List PV}{t ty:TypeId}{u v:Value}{us vs:List Value}{w w':World}{α:Type}
def lE(b:IntKind)(a:List Int):Value:=.agg (a.map (Value.int b)).toArray
def E6(b:IntKind)(n:Nat)(a:List (List Int×Value))(arr:Array MapEntry):Prop:=
 arr.toList.map (λe=>(e.key,e.val))=a.map (λx=>(lE b x.1,x.2))/\∀x∈a,x.1.length=n
def PV.cells:PV->List PV
 |.val v=>v.cells.toList.map .val
 |.agg cs=>cs
 |p=>[p]
inductive Rep(w:World)(M:Nat->Nat->Prop):PV->Value->Prop
 |val (v:Value):Rep w M (.val v) v
 |agg (cs:List PV) (vs:List Value) (hl:cs.length=vs.length)
   (h:∀(i:Nat) p u,cs[i]?=some p->vs[i]?=some u->Rep w M p u):Rep w M (.agg cs) (.agg vs.toArray)
 |sl0 (a:Option Addr) (c:Nat):Rep w M (.sl []) (.slice a 0 c)
 |sl (xs:List PV) (b o c sz:Nat) (u:Nat->Nat->Value) (hcap:xs.length<=c)
   (hs:∀(i:Nat) x,xs[i]?=some x->x.cells.length=sz)
   (hc:∀(i:Nat) x(j:Nat) p,xs[i]?=some x->x.cells[j]?=some p->w.cell? ⟨b,o+(i*sz+j),none⟩=some (u i j)/\¬M b (o+(i*sz+j)))
   (hr:∀(i:Nat) x(j:Nat) p,xs[i]?=some x->x.cells[j]?=some p->Rep w M p (u i j)):Rep w M (.sl xs) (.slice (some ⟨b,o,none⟩) xs.length c)
 |rptr (x:PV) (b o off:Nat) (u:Nat->Value)
   (hc:∀(j:Nat) p,x.cells[j]?=some p->w.cell? ⟨b,o+j,none⟩=some (u j)/\¬M b (o+j))
   (hr:∀(j:Nat) p,x.cells[j]?=some p->Rep w M p (u j)):Rep w M (.rptr x off) (.pointer (some ⟨b,o+off,none⟩))
 |fn (f:Fn) (first caps:List PV) (vs us:List Value) (hl:first.length=vs.length) (hk:caps.length=us.length)
   (h:∀(i:Nat) p u,first[i]?=some p->vs[i]?=some u->Rep w M p u)
   (hh:∀(i:Nat) p u,caps[i]?=some p->us[i]?=some u->Rep w M p u):Rep w M (.fn f first caps) (.func f vs.toArray us.toArray)
 |tup (cs:List PV) (vs:List Value) (hl:cs.length=vs.length)
   (h:∀(i:Nat) p u,cs[i]?=some p->vs[i]?=some u->Rep w M p u):Rep w M (.tup cs) (.tuple vs.toArray)
 |ifc (t:TypeId) (x:PV) (v:Value) (h:Rep w M x v):Rep w M (.ifc t x) (.iface t v)
 |hd (n:Nat) (a:Option Addr) (c:Nat):Rep w M (.hd n) (.slice a n c)
 |mp (kd:IntKind) (n:Nat) (es:List (List Int×Value)) (b:Nat) (arr:Array MapEntry) (clock:Nat) (hb:w.heap[b]?=some (.map arr clock)) (hm:¬M b 0) (hes:E6 kd n es arr):Rep w M (.mp kd n es) (.map (some b))
structure Pres(w:World)(M:Nat->Nat->Prop)(w':World)(M':Nat->Nat->Prop):Prop where
 cell:∀b o v,w.cell? ⟨b,o,none⟩=some v->¬M b o->w'.cell? ⟨b,o,none⟩=some v/\¬M' b o
 map:∀b arr c,w.heap[b]?=some (.map arr c)->¬M b 0->w'.heap[b]?=some (.map arr c)/\¬M' b 0
theorem Rep.mono(hp:Pres w M w' M')(h:Rep w M p u):Rep w' M' p u:=by
 induction h with
 |val v=>exact .val v
 |agg cs vs l _ ih=>exact .agg cs vs l ih
 |sl0 a c=>exact .sl0 a c
 |sl xs b o c sz u g A e _ ih=>exact .sl xs b o c sz u g A (λi x j p y k=>hp.cell _ _ _ (e i x j p y k).1 (e i x j p y k).2) ih
 |rptr x b o off u e _ ih=>exact .rptr x b o off u (λj p k=>hp.cell _ _ _ (e j p k).1 (e j p k).2) ih
 |fn f first d vs us l z _ _ ih q=>exact .fn f first d vs us l z ih q
 |tup cs vs l _ ih=>exact .tup cs vs l ih
 |ifc t x v _ ih=>exact .ifc t x v ih
 |hd n a c=>exact .hd n a c
 |mp B n es b arr clock r s m=>exact .mp B n es b arr clock (hp.map _ _ _ r s).1 (hp.map _ _ _ r s).2 m
theorem Pres.refl(w:World)(M:Nat->Nat->Prop):Pres w M w M:=⟨λ_ _ _ h a=>⟨h,a⟩,λ_ _ _ h a=>⟨h,a⟩⟩
theorem Pres.trans{e:World}{a:Nat->Nat->Prop}(h:Pres w M w' M')(h':Pres w' M' e a):Pres w M e a:=
 ⟨λb o v c d=>h'.cell b o v (h.cell b o v c d).1 (h.cell b o v c d).2,λb o v c d=>h'.map b o v (h.map b o v c d).1 (h.map b o v c d).2⟩
theorem Pres.sub(h:∀b o,M' b o->M b o):Pres w M w M':=⟨λ_ _ _ a c=>⟨a,λd=>c (h _ _ d)⟩,λ_ _ _ a c=>⟨a,λd=>c (h _ _ d)⟩⟩
def bR(w:World)(M:Nat->Nat->Prop)(ps:List PV)(us:List Value):Prop:=
 ps.length=us.length/\∀(i:Nat) p u,ps[i]?=some p->us[i]?=some u->Rep w M p u
theorem bR.nil:bR w M [] []:=⟨rfl,λi p u h=>by simp at h⟩
theorem bR.cons(h:Rep w M p u)(b:bR w M ps us):bR w M (p::ps) (u::us):=by
 refine⟨by simp[b.1],λi q v hq a=>?_⟩
 cases i with
 |zero=>simp at hq a;subst hq;subst a;exact h
 |succ i=>exact b.2 i q v (by simpa using hq) (by simpa using a)
theorem bR.cons_inv{p:PV}(h:bR w M (p::ps) us):∃u a,us=u::a/\Rep w M p u/\bR w M ps a:=by
 cases us with
 |nil=>exact absurd h.1 (by simp)
 |cons u a=>exact⟨u,a,rfl,h.2 0 p u rfl rfl,by have:=h.1;simpa using this,λi q v hq b=>h.2 (i+1) q v (by simpa using hq) (by simpa using b)⟩
theorem bR.nil_inv(h:bR w M [] us):us=[]:=by
 cases us with
 |nil=>rfl
 |cons u us=>exact absurd h.1 (by simp)
theorem bR.mono(hp:Pres w M w' M')(h:bR w M ps us):bR w' M' ps us:=
 ⟨h.1,λi p u a b=>(h.2 i p u a b).mono hp⟩
def fe:List PV->Option (List Value)
 |[]=>some []
 |.val v::r=>(fe r).map (v::·)
 |_::_=>none
def kq(cs:List PV):PV:=match fe cs with
 |some vs=>.val (.agg vs.toArray)
 |none=>.agg cs
theorem uQ{w:World}{M:Nat->Nat->Prop}:∀{cs:List PV}{vs us:List Value},fe cs=some vs->bR w M cs us->us=vs
 |[],vs,us,h,a=>by simp[fe]at h;subst h;exact a.nil_inv
 |.val v::r,vs,us,h,a=>by
  simp only[fe,II]at h;obtain⟨e,h',rfl⟩:=h;obtain⟨u,d,rfl,c,b⟩:=a.cons_inv;cases c;rw[uQ h' b]
 |.agg _::_,_,_,h,_=>by simp[fe]at h
 |.sl _::_,_,_,h,_=>by simp[fe]at h
 |.rptr _ _::_,_,_,h,_=>by simp[fe]at h
 |.fn _ _ _::_,_,_,h,_=>by simp[fe]at h
 |.tup _::_,_,_,h,_=>by simp[fe]at h
 |.ifc _ _::_,_,_,h,_=>by simp[fe]at h
 |.hd _::_,_,_,h,_=>by simp[fe]at h
 |.mp _ _ _::_,_,_,h,_=>by simp[fe]at h
theorem lF{cs:List PV}(h:bR w M cs us):Rep w M (kq cs) (.agg us.toArray):=by
 unfold kq;split
 .rename_i vs a;rw[uQ a h];exact .val _
 .exact .agg cs us h.1 h.2
theorem Rep.cells(h:Rep w M p u):bR w M p.cells u.cells.toList:=by
 have one:∀{q:PV}{v:Value},Rep w M q v->bR w M [q] [v]:=λhq=>.cons hq .nil
 cases h with
 |val v=>
  refine⟨by simp[PV.cells],λi p u hp d=>?_⟩;simp only[PV.cells,ZW,II]at hp;obtain⟨E,s,rfl⟩:=hp;rw[s]at d;injection d with d;subst d;exact .val _
 |agg cs vs j m=>exact⟨by simpa[PV.cells,Value.cells]using j,λi p u hp d=>m i p u (by simpa[PV.cells]using hp) (by simpa[Value.cells]using d)⟩
 |sl0 a c=>exact one (.sl0 a c)
 |sl xs b o c sz u g C k r=>exact one (.sl xs b o c sz u g C k r)
 |rptr x b o off u k r=>exact one (.rptr x b o off u k r)
 |fn f first e vs us j A h1 y=>exact one (.fn f first e vs us j A h1 y)
 |tup cs vs j m=>exact one (.tup cs vs j m)
 |ifc t x v h=>exact one (.ifc t x v h)
 |hd n a c=>exact one (.hd n a c)
 |mp D n es b arr clock z B l=>exact one (.mp D n es b arr clock z B l)
inductive XV where
 |barr(k n c:Nat)
 |mp(k:Nat)
 |suf(k o n t:Nat)
 deriving Inhabited
def XV.key:XV->Nat
 |.barr k _ _=>k
 |.mp k=>k
 |.suf k _ _ _=>k
inductive AV where
 |pv(p:PV)
 |ptr(k off:Nat)
 |arr(k n:Nat)
 |eptr(k n i off:Nat)
 |agg(cs:List AV)
 |fn(f:Fn)(first caps:List AV)
 |tup(vs:List AV)
 |ext(x:XV)
 |undef
 deriving Inhabited
inductive Blk where
 |box(cs:List AV)(own fz:Bool)
 |row(e sz:Nat)(xs:List PV)(fz:Nat)
 |mp(kd:IntKind)(n:Nat)(es:List (List Int×Value))(fz:Bool)
 deriving Inhabited
structure Loc where
 b:Nat
 cap:Nat
 isNil:Bool
 deriving Inhabited
variable {L L' L'':Nat->Loc}{W:List (Nat×Blk)}{cs:List AV}{l:Loc}{x:AV}
def Loc.slice(l:Loc)(n:Nat):Value:=if l.isNil then .slice none 0 0 else .slice (some ⟨l.b,0,none⟩) n l.cap
abbrev Hp:=Nat->Option Blk
inductive RepX(L:Nat->Loc)(h:Hp):XV->Value->Prop
 |barr {k n c:Nat} {cs:List AV} {own fz:Bool} (hc:n<=c) (hk:h k=some (.box cs own fz)):RepX L h (.barr k n c) (.slice (some ⟨(L k).b,0,none⟩) n c)
 |mp {k n:Nat} {kd:IntKind} {es:List (List Int×Value)} {fz:Bool} (hk:h k=some (.mp kd n es fz)):RepX L h (.mp k) (.map (some (L k).b))
 |suf {k o n t e sz fz:Nat} {xs:List PV} {u:Value} (hs:∃A m c,u=.slice A m c) (hk:h k=some (.row e sz xs fz)) (hn:o+n<=t) (ht:t<=xs.length)
   (hu:xs.length=t->∃A c,u=.slice A n c/\(((L k).isNil=false/\A=some ⟨(L k).b,o*sz,none⟩/\c+o=(L k).cap)\/(n=0/\c=0/\(o=0->(L k).isNil=true/\A=none)))):RepX L h (.suf k o n t) u
inductive RepA(w:World)(M:Nat->Nat->Prop)(L:Nat->Loc)(h:Hp):AV->Value->Prop
 |pv {p:PV} {u:Value} (hr:Rep w M p u):RepA w M L h (.pv p) u
 |ptr {k off:Nat} {cs:List AV} {own fz:Bool} (hk:h k=some (.box cs own fz)):RepA w M L h (.ptr k off) (.pointer (some ⟨(L k).b,off,none⟩))
 |arr {k n e sz fz:Nat} {xs:List PV} {u:Value} (hk:h k=some (.row e sz xs fz)) (hn:n<=xs.length) (hu:xs.length=n->u=(L k).slice n):RepA w M L h (.arr k n) u
 |eptr {k n i off e sz fz:Nat} {xs:List PV} {u:Value} (hk:h k=some (.row e sz xs fz)) (hn:n<=xs.length)
   (hu:xs.length=n->(L k).isNil=false/\u=.pointer (some ⟨(L k).b,i*sz+off,none⟩)):RepA w M L h (.eptr k n i off) u
 |agg (cs:List AV) (vs:List Value) (hl:cs.length=vs.length)
   (hh:∀(i:Nat) p u,cs[i]?=some p->vs[i]?=some u->RepA w M L h p u):RepA w M L h (.agg cs) (.agg vs.toArray)
 |fn (f:Fn) (first caps:List AV) (vs us:List Value) (hl:first.length=vs.length) (hk:caps.length=us.length)
   (h1:∀(i:Nat) p u,first[i]?=some p->vs[i]?=some u->RepA w M L h p u)
   (h2:∀(i:Nat) p u,caps[i]?=some p->us[i]?=some u->RepA w M L h p u):RepA w M L h (.fn f first caps) (.func f vs.toArray us.toArray)
 |tup (cs:List AV) (vs:List Value) (hl:cs.length=vs.length)
   (hh:∀(i:Nat) p u,cs[i]?=some p->vs[i]?=some u->RepA w M L h p u):RepA w M L h (.tup cs) (.tuple vs.toArray)
 |ext {x:XV} {u:Value} (hx:RepX L h x u):RepA w M L h (.ext x) u
 |undef (u:Value):RepA w M L h .undef u
variable {h h' h1:Hp}
def eY:Blk->Loc->Blk->Loc->Prop
 |.box _ _ _,l,.box _ _ _,a=>a.b=l.b
 |.row e sz xs _,l,.row g f c _,a=>g=e/\f=sz/\xs.length<=c.length/\(c.length=xs.length->a=l)
 |.mp i n _ _,l,.mp d j _ _,a=>d=i/\j=n/\a.b=l.b
 |_,_,_,_=>False
def KC(L:Nat->Loc)(h:Hp)(L':Nat->Loc)(h':Hp):Prop:=∀k ab,h k=some ab->∃a,h' k=some a/\eY ab (L k) a (L' k)
theorem du(ab:Blk)(l:Loc):eY ab l ab l:=by cases ab<;>simp[eY]
theorem KC.refl(L:Nat->Loc)(h:Hp):KC L h L h:=λ_ ab a=>⟨ab,a,du _ _⟩
theorem RepX.mono(i:KC L h L' h'){x:XV}(C:RepX L h x u):RepX L' h' x u:=by
 cases C with
 |@barr k n c cs own fz j g=>
  obtain⟨a,h1,d⟩:=i k _ g
  cases a with
  |row=>exact d.elim
  |mp=>exact d.elim
  |box r q f=>have d:(L' k).b=(L k).b:=d;rw[<-d];exact .barr j h1
 |@mp k n D es fz g=>
  obtain⟨a,h1,d⟩:=i k _ g
  cases a with
  |row=>exact d.elim
  |box=>exact d.elim
  |mp m E y f=>have d:m=D/\E=n/\(L' k).b=(L k).b:=d;rw[<-d.2.2];exact .mp h1
 |@suf k o n t e sz fz xs u l g z A B=>
  obtain⟨a,h1,d⟩:=i k _ g
  cases a with
  |box=>exact d.elim
  |mp=>exact d.elim
  |row G F p f=>
   obtain⟨_,s,H,v⟩:=d;refine .suf l h1 z (by omega) (λe=>?_)
   have:p.length=xs.length:=by omega
   rw[v this,s];exact B (by omega)
theorem RepA.mono(hp:Pres w M w' M')(o:KC L h L' h')
 (r:RepA w M L h x u):RepA w' M' L' h' x u:=by
 induction r with
 |pv E=>exact .pv (E.mono hp)
 |@ptr k off cs own fz d=>
  obtain⟨a,h1,c⟩:=o k _ d
  cases a with
  |row=>exact c.elim
  |mp=>exact c.elim
  |box A z l=>have c:(L' k).b=(L k).b:=c;rw[<-c];exact .ptr h1
 |@arr k n e sz fz xs u d D q=>
  obtain⟨a,h1,c⟩:=o k _ d
  cases a with
  |box=>exact c.elim
  |mp=>exact c.elim
  |row B v g l=>
   obtain⟨_,y,C,p⟩:=c;refine .arr h1 (by omega) (λe=>?_)
   have:g.length=xs.length:=by omega
   rw[p this];exact q (by omega)
 |@eptr k n i off e sz fz xs u d D q=>
  obtain⟨a,h1,c⟩:=o k _ d
  cases a with
  |box=>exact c.elim
  |mp=>exact c.elim
  |row B v g l=>
   obtain⟨_,y,C,p⟩:=c;refine .eptr h1 (by omega) (λe=>?_)
   have:g.length=xs.length:=by omega
   rw[p this,y];exact q (by omega)
 |agg cs vs m _ ih=>exact .agg cs vs m ih
 |fn f first j vs us m d _ _ ih s=>exact .fn f first j vs us m d ih s
 |tup cs vs m _ ih=>exact .tup cs vs m ih
 |ext r=>exact .ext (r.mono o)
 |undef u=>exact .undef u
def aB(w:World)(M:Nat->Nat->Prop)(L:Nat->Loc)(h:Hp)(ps:List AV)(us:List Value):Prop:=
 ps.length=us.length/\∀(i:Nat) p u,ps[i]?=some p->us[i]?=some u->RepA w M L h p u
section
variable {w:World} {M:Nat->Nat->Prop} {L:Nat->Loc} {h:Hp}
theorem aB.nil:aB w M L h [] []:=⟨rfl,λi p u h=>by simp at h⟩
theorem aB.cons{p:AV}{ps:List AV}(h1:RepA w M L h p u)(b:aB w M L h ps us):aB w M L h (p::ps) (u::us):=by
 refine⟨by simp[b.1],λi q v hq a=>?_⟩
 cases i with
 |zero=>simp at hq a;subst hq;subst a;exact h1
 |succ i=>exact b.2 i q v (by simpa using hq) (by simpa using a)
theorem aB.cons_inv{p:AV}{ps:List AV}(h1:aB w M L h (p::ps) us):∃u a,us=u::a/\RepA w M L h p u/\aB w M L h ps a:=by
 cases us with
 |nil=>exact absurd h1.1 (by simp)
 |cons u a=>exact⟨u,a,rfl,h1.2 0 p u rfl rfl,by have:=h1.1;simpa using this,λi q v hq b=>h1.2 (i+1) q v (by simpa using hq) (by simpa using b)⟩
theorem aB.nil_inv(h1:aB w M L h [] us):us=[]:=by
 cases us with
 |nil=>rfl
 |cons u us=>exact absurd h1.1 (by simp)
theorem aB.append{ps qs:List AV}(h1:aB w M L h ps us)(b:aB w M L h qs vs):aB w M L h (ps++qs) (us++vs):=by
 refine⟨by simp[h1.1,b.1],λi p u hp a=>?_⟩;by_cases hi:i<ps.length
 .rw[ZX hi]at hp
  rw[ZX (by have:=h1.1;omega)]at a;exact h1.2 i p u hp a
 .rw[yAa (by omega)]at hp
  rw[yAa (by have:=h1.1;omega)]at a;refine b.2 _ p u hp ?_;rw[h1.1];exact a
theorem aB.map_pv(h1:bR w M ps us):aB w M L h (ps.map .pv) us:=by
 refine⟨by simpa using h1.1,λi p u hp a=>?_⟩;simp only[ZW,II]at hp;obtain⟨q,hq,rfl⟩:=hp;exact .pv (h1.2 i q u hq a)
theorem aB.map_pv_inv(h1:aB w M L h (ps.map .pv) us):bR w M ps us:=by
 refine⟨by simpa using h1.1,λi p u hp a=>?_⟩;have:=h1.2 i (.pv p) u (by simp[hp]) a;cases this;assumption
end
def AV.cells:AV->List AV
 |.pv p=>p.cells.map .pv
 |.agg cs=>cs
 |x=>[x]
def ld:List AV->Option (List PV)
 |[]=>some []
 |.pv p::r=>(ld r).map (p::·)
 |_::_=>none
def tV(cs:List AV):AV:=match ld cs with
 |some ps=>.pv (kq ps)
 |none=>.agg cs
theorem pK:∀{cs:List AV}{ps:List PV},ld cs=some ps->cs=ps.map .pv
 |[],ps,h=>by simp[ld]at h;subst h;rfl
 |.pv p::r,ps,h=>by
  simp only[ld,II]at h;obtain⟨a,h',rfl⟩:=h;rw[pK h'];rfl
 |.ptr _ _::_,_,h=>by simp[ld]at h
 |.arr _ _::_,_,h=>by simp[ld]at h
 |.eptr _ _ _ _::_,_,h=>by simp[ld]at h
 |.agg _::_,_,h=>by simp[ld]at h
 |.fn _ _ _::_,_,h=>by simp[ld]at h
 |.tup _::_,_,h=>by simp[ld]at h
 |.ext _::_,_,h=>by simp[ld]at h
 |.undef::_,_,h=>by simp[ld]at h
theorem tB(h1:aB w M L h cs us):RepA w M L h (tV cs) (.agg us.toArray):=by
 unfold tV;split
 .rename_i ps hp
  rw[pK hp]at h1;exact .pv (lF h1.map_pv_inv)
 .exact .agg cs us h1.1 h1.2
theorem RepA.cells(c:RepA w M L h x u)(j:x≠.undef):aB w M L h x.cells u.cells.toList\/(∃k n,x=.arr k n)\/(∃k n i o,x=.eptr k n i o):=by
 have one:∀{q:AV}{v:Value},RepA w M L h q v->aB w M L h [q] [v]:=λhq=>.cons hq .nil
 cases c with
 |pv r=>exact .inl (aB.map_pv r.cells)
 |ptr g=>exact .inl (one (.ptr g))
 |arr=>exact .inr (.inl ⟨_,_,rfl⟩)
 |eptr=>exact .inr (.inr ⟨_,_,_,_,rfl⟩)
 |agg cs vs b d=>exact .inl ⟨by simpa[AV.cells,Value.cells]using b,λi p u hp s=>d i p u (by simpa[AV.cells]using hp) (by simpa[Value.cells]using s)⟩
 |fn f first a vs us b g h1 m=>exact .inl (one (.fn f first a vs us b g h1 m))
 |tup cs vs b d=>exact .inl (one (.tup cs vs b d))
 |ext c=>
  refine .inl ?_
  have e:u.cells.toList=[u]:=by
   cases c with
   |suf l _ _ _ _=>obtain⟨_,_,_,rfl⟩:=l;rfl
   |_=>rfl
  rw[e];exact one (.ext c)
 |undef=>exact absurd rfl j
def aH(f:Nat->α)(k:Nat)(v:α):Nat->α:=λn=>if n=k then v else f n
theorem aE(f:Nat->α)(k:Nat)(v:α):aH f k v k=v:=by simp[aH]
theorem bu{f:Nat->α}{v:α}(h:n≠k):aH f k v n=f n:=by simp[aH,h]
structure Ext(S:Nat->Prop)(w w':World):Prop where
 os:w'.os=w.os
 tape:w'.tape=w.tape
 output:w'.output=w.output
 size:w.heap.size<=w'.heap.size
 block:∀b,b<w.heap.size->¬S b->w'.heap[b]?=w.heap[b]?
theorem Ext.refl(S:Nat->Prop)(w:World):Ext S w w:=⟨rfl,rfl,rfl,yAd _,λ_ _ _=>rfl⟩
theorem Ext.trans{e:Nat->Prop}{a b c:World}(h:Ext S a b)(k:Ext e b c)(hs:∀x,x<a.heap.size->e x->S x):Ext S a c:=
 ⟨k.os.trans h.os,k.tape.trans h.tape,k.output.trans h.output,yBC h.size k.size,
   λi hi f=>(k.block i (yAW hi h.size) (λd=>f (hs i hi d))).trans (h.block i hi f)⟩
theorem Ext.cell(h:Ext S w w')(a:b<w.heap.size)(hs:¬S b):w'.cell? ⟨b,o,none⟩=w.cell? ⟨b,o,none⟩:=by
 simp only[World.cell?,h.block b a hs]
theorem Ext.alloc(S:Nat->Prop)(w:World)(o:Obj):Ext S w (w.alloc o):=
 ⟨rfl,rfl,rfl,by simp,λb a _=>RowKit.Below.heap_alloc w o b a⟩
theorem Ext.drew(S:Nat->Prop)(w:World):Ext S w w.drew:=⟨rfl,rfl,rfl,yAd _,λ_ _ _=>rfl⟩
structure Cx where
 P:Program
 N:Nat
 M0:Nat->Nat->Prop
 S:Nat->Prop
 pb:Nat->Option Nat
 pr:Nat->Option Loc:=λ_=>none
 hpr:∀k,k<2000000->pr k=none:=by intros;rfl
 w0:World
variable {C:Cx}
def Blk.live:Blk->Loc->Prop
 |.box _ _ _,_=>True
 |.row _ _ _ _,l=>l.isNil=false
 |.mp _ _ _ _,_=>True
def Blk.frz:Blk->Nat->Prop
 |.box _ _ fz,_=>fz=true
 |.row _ sz _ fz,o=>o<fz*sz
 |.mp _ _ _ fz,_=>fz=true
def ak(C:Cx)(L:Nat->Loc)(h:Hp)(b o:Nat):Prop:=C.M0 b o\/∃k ab,h k=some ab/\ab.live (L k)/\(L k).b=b/\¬ab.frz o
def db(w:World)(M:Nat->Nat->Prop)(L:Nat->Loc)(h:Hp)(l:Loc):Blk->Prop
 |.box cs _ _=>∃arr ty,w.heap[l.b]?=some (.cells arr ty (0,0))/\aB w M L h cs arr.toList
 |.row e sz xs fz=>0<sz/\fz<=xs.length/\(∀x∈xs,x.cells.length=sz)/\(l.isNil=true->xs=[])/\
   (l.isNil=false->xs.length<=l.cap/\l.cap<=maxLen/\∃arr,w.heap[l.b]?=some (.cells arr e (0,0))/\arr.size=l.cap*sz/\
     ∀(i:Nat) x(j:Nat) p,xs[i]?=some x->x.cells[j]?=some p->∃u,arr[i*sz+j]?=some u/\Rep w M p u)
 |.mp a n es _=>∃arr clock,w.heap[l.b]?=some (.map arr clock)/\E6 a n es arr
def fw(C:Cx)(k:Nat)(l:Loc):Blk->Prop
 |.box _ false fz=>fz=false/\C.pb k=some l.b/\C.S l.b/\l.b<C.w0.heap.size/\∀o,C.M0 l.b o
 |.box _ true _=>C.w0.heap.size<=l.b\/(C.S l.b/\∀o,¬C.M0 l.b o)
 |.row _ _ _ _=>match C.pr k with
  |some a=>l=a/\(l.isNil=false->C.S l.b/\∀o,¬C.M0 l.b o)
  |none=>l.isNil=false->C.w0.heap.size<=l.b\/(C.S l.b/\∀o,¬C.M0 l.b o)
 |.mp _ _ _ _=>C.w0.heap.size<=l.b
theorem fw.row(h:fw C k l (.row e sz xs fz))(hn:l.isNil=false):C.w0.heap.size<=l.b\/(C.S l.b/\∀o,¬C.M0 l.b o):=by
 grind [fw]
theorem fw.mkRow(a:k<2000000)(h:l.isNil=false->C.w0.heap.size<=l.b):fw C k l (.row e sz xs fz):=by
 simp only[fw,C.hpr k a]
 grind
structure MemL(C:Cx)(L:Nat->Loc)(h:Hp)(w:World):Prop where
 ext:Ext C.S C.w0 w
 m0:∀b o,C.M0 b o->b<C.w0.heap.size
 bl:∀k ab,h k=some ab->db w (ak C L h) L h (L k) ab
 sep:∀k k' ab blk',k≠k'->h k=some ab->h k'=some blk'->ab.live (L k)->blk'.live (L k')->(L k).b≠(L k').b
 own:∀k ab,h k=some ab->fw C k (L k) ab
theorem db.lt{ab:Blk}(d:db w M L h l ab)(g:ab.live l):l.b<w.heap.size:=by
 have a:∀{o:Obj},w.heap[l.b]?=some o->l.b<w.heap.size:=λ{o} e=>by
  grind
 cases ab with
 |box cs own fz=>obtain⟨arr,ty,e,_⟩:=d;exact a e
 |row e sz xs fz=>obtain⟨_,_,_,_,f⟩:=d;obtain⟨_,_,arr,e,_⟩:=f g;exact a e
 |mp i n es fz=>obtain⟨arr,c,e,_⟩:=d;exact a e
theorem MemL.mlt(c:MemL C L h w)(a:ak C L h b o):b<w.heap.size:=by
 rcases a with a|⟨k,ab,d,e,rfl,_⟩
 .exact yAW (c.m0 b o a) c.ext.size
 .exact(c.bl k ab d).lt e
theorem yw{o:Obj}(e:w.heap[b]?=some o):b<w.heap.size:=by
 grind
theorem Pres.ext(g:Ext S w w')(hs:∀b,b<w.heap.size->S b->∀o,M b o)(f:∀b o,b<w.heap.size->M' b o->M b o):Pres w M w' M':=by
 have ns:∀b o,b<w.heap.size->¬M b o->¬S b:=λb o i d h=>d (hs b i h o);refine⟨λb o v e d=>?_,λb arr c e d=>?_⟩
 .have a:=World.block_lt_of_cell? w ⟨b,o,none⟩ e
  exact⟨(g.cell a (ns b o a d)).trans e,λh=>d (f b o a h)⟩
 .have a:=yw e
  exact⟨(g.block b a (ns b 0 a d)).trans e,λh=>d (f b 0 a h)⟩
theorem CP(h:w.cell? ⟨b,o,none⟩=some v):b<w.heap.size:=World.block_lt_of_cell? w ⟨b,o,none⟩ h
theorem db.mono{ab:Blk}(f:db w M L h l ab)(hp:Pres w M w' M')(z:KC L h L' h')
 (g:ab.live l->w'.heap[l.b]?=w.heap[l.b]?):db w' M' L' h' l ab:=by
 cases ab with
 |box cs own fz=>
  obtain⟨arr,ty,e,B,k⟩:=f;exact⟨arr,ty,(g trivial).trans e,B,λi p u h1 a=>(k i p u h1 a).mono hp z⟩
 |row E sz xs fz=>
  obtain⟨h1,a,o,q,r⟩:=f;refine⟨h1,a,o,q,λm=>?_⟩;obtain⟨s,d,arr,e,v,y⟩:=r m;refine⟨s,d,arr,(g m).trans e,v,λi x j p D A=>?_⟩;obtain⟨u,C,k⟩:=y i x j p D A;exact⟨u,C,k.mono hp⟩
 |mp F n es fz=>
  obtain⟨arr,c,e,h1⟩:=f;exact⟨arr,c,(g trivial).trans e,h1⟩
theorem db.same{ab:Blk}{l':Loc}(f:db w M L h l ab)
 (a:w=w')(b:M=M')(c:L=L')(d:h=h')(e:l=l'):db w' M' L' h' l' ab:=by subst a;subst b;subst c;subst d;subst e;exact f
theorem KC.trans{e:Hp}(a:KC L h L' h')(b:KC L' h' L'' e):KC L h L'' e:=by
 intro k ab j;obtain⟨d,h1,f⟩:=a k ab j;obtain⟨c,g,i⟩:=b k d h1;refine⟨c,g,?_⟩;cases ab<;>cases d<;>cases c<;>simp only[eY]at f i|-
 all_goals grind
theorem KC.new{ab:Blk}(hd:h d=none):KC L h (aH L d l) (aH h d (some ab)):=by
 intro k b a
 grind [bu,du]
theorem MemL.newKey(p:MemL C L h w)(hd:h d=none)(y:d<2000000){ab:Blk}(z:Ext (λ_=>False) w w')
 (j:ab.live l->w.heap.size<=l.b)(q:∀cs fz,ab≠.box cs false fz)
 (G:db w' (λb o=>ak C L h b o\/(ab.live l/\b=l.b)) (aH L d l) (aH h d (some ab)) l ab):
 MemL C (aH L d l) (aH h d (some ab)) w'/\Pres w (ak C L h) w' (ak C (aH L d l) (aH h d (some ab)))/\KC L h (aH L d l) (aH h d (some ab)):=by
 have s:KC L h (aH L d l) (aH h d (some ab)):=KC.new hd
 have E:∀b o,ak C (aH L d l) (aH h d (some ab)) b o->ak C L h b o\/(ab.live l/\b=l.b):=by
  rintro b o (D|⟨k,c,a,g,r,hf⟩)
  .exact .inl (.inl D)
  .by_cases e:k=d
   .grind [aE]
   .rw[bu e]at a g r
    exact .inl (.inr ⟨k,c,a,g,r,hf⟩)
 have m:Pres w (ak C L h) w' (ak C (aH L d l) (aH h d (some ab))):=by
  refine Pres.ext z (λ_ _ h=>h.elim) λb o H F=>?_
  grind
 refine⟨⟨p.ext.trans z (λ_ _ h=>h.elim),p.m0,?_,?_,?_⟩,m,s⟩
 .intro k c a
  by_cases e:k=d
  .subst e
   rw[aE]at a|-;injection a with a;subst a;exact G.mono (Pres.sub E) (KC.refl _ _) (λ_=>rfl)
  .rw[bu e]at a|-
   exact(p.bl k c a).mono m s (λg=>z.block _ ((p.bl k c a).lt g) (λh=>h))
 .intro k x A B u a f g i
  by_cases e:k=d
  .subst e
   have v:x≠k:=λe=>u e.symm;rw[bu v]at f i|-;rw[aE]at a g|-;injection a with a;subst a;have:=(p.bl x B f).lt i
   grind
  .rw[bu e]at a g|-
   by_cases v:x=d
   .subst v
    rw[aE]at f i|-;injection f with f;subst f;have:=(p.bl k A a).lt g
    grind
   .rw[bu v]at f i|-
    exact p.sep k x A B u a f g i
 .intro k c a
  by_cases e:k=d
  .subst e
   rw[aE]at a|-;injection a with a;subst a;have:=p.ext.size
   cases ab with
   |box cs own fz=>
    cases own with
    |false=>exact absurd rfl (q cs fz)
    |true=>have:=j trivial;exact .inl (by omega)
   |row e sz xs fz=>exact fw.mkRow y (λg=>by have:=j g;omega)
   |mp I n es fz=>have:=j trivial;simp only[fw];omega
  .rw[bu e]at a|-
   exact p.own k c a
theorem MemL.touch(g:MemL C L h w){ab blk':Blk}(p:h k=some ab)
 (y:∀b,b<w.heap.size->(ab.live (L k)->b≠(L k).b)->w'.heap[b]?=w.heap[b]?)(M:w.heap.size<=w'.heap.size)(K:w'.os=w.os)(N:w'.tape=w.tape)(hout:w'.output=w.output)
 (hpr:∀o v,ab.live (L k)->ab.frz o->w.cell? ⟨(L k).b,o,none⟩=some v->w'.cell? ⟨(L k).b,o,none⟩=some v)(I:∀o,ab.frz o->blk'.frz o)(G:eY ab (L k) blk' (L k))
 (x:blk'.live (L k)↔ab.live (L k))(R:fw C k (L k) blk')
 (V:db w' (ak C L (aH h k (some blk'))) L (aH h k (some blk')) (L k) blk')(J:∀E n es,ab≠.mp E n es true:=by intro _ _ _ h;cases h):
 MemL C L (aH h k (some blk')) w'/\Pres w (ak C L h) w' (ak C L (aH h k (some blk')))/\KC L h L (aH h k (some blk')):=by
 have z:KC L h L (aH h k (some blk')):=by
  intro q b hq;by_cases e:q=k
  .subst e;rw[p]at hq;injection hq with hq;subst hq;exact⟨blk',aE _ _ _,G⟩
  .exact⟨b,by rw[bu e];exact hq,du _ _⟩
 have Q:∀b o,ak C L (aH h k (some blk')) b o->ak C L h b o:=by
  rintro b o (T|⟨q,s,hq,a,j,hf⟩)
  .exact .inl T
  .by_cases e:q=k
   .subst e
    rw[aE]at hq;injection hq with hq;subst hq;exact .inr ⟨q,ab,p,x.1 a,j,λH=>hf (I o H)⟩
   .rw[bu e]at hq
    exact .inr ⟨q,s,hq,a,j,hf⟩
 have m:Pres w (ak C L h) w' (ak C L (aH h k (some blk'))):=by
  refine⟨?_,λb arr c i A=>⟨?_,λu=>A (Q b 0 u)⟩⟩
  case refine_2=>
   have l:=yw i;by_cases a:ab.live (L k)
   .by_cases e:b=(L k).b
    .subst e
     have S:=g.bl k ab p
     cases ab with
     |box cs own fz=>obtain⟨_,_,e,_⟩:=S;rw[e]at i;cases i
     |row e sz xs fz=>obtain⟨_,_,_,_,U⟩:=S;obtain⟨_,_,_,e,_⟩:=U a;rw[e]at i;cases i
     |mp E n es fz=>
      cases fz with
      |true=>exact absurd rfl (J E n es)
      |false=>exact absurd (Or.inr ⟨k,_,p,a,rfl,by simp[Blk.frz]⟩) A
    .rw[y b l (λ_=>e)];exact i
   .rw[y b l (λd=>absurd d a)];exact i
  intro b o v i A;have l:=CP i;refine⟨?_,λu=>A (Q b o u)⟩;by_cases a:ab.live (L k)
  .by_cases e:b=(L k).b
   .subst e
    by_cases hf:ab.frz o
    .exact hpr o v a hf i
    .exact absurd (Or.inr ⟨k,ab,p,a,rfl,hf⟩) A
   .simp only[World.cell?,y b l (λ_=>e)]at i|-;exact i
  .simp only[World.cell?,y b l (λd=>absurd d a)]at i|-;exact i
 refine⟨⟨?_,g.m0,?_,?_,?_⟩,m,z⟩
 .refine⟨K.trans g.ext.os,N.trans g.ext.tape,hout.trans g.ext.output,yBC g.ext.size M,λb j hS=>?_⟩
  rw[y b (yAW j g.ext.size),g.ext.block b j hS];rintro a rfl;have h1:=g.own k ab p
  cases ab with
  |box cs own fz=>
   cases own with
   |false=>exact hS h1.2.2.1
   |true=>rcases h1 with D|D
          .omega
          .exact hS D.1
  |row e sz xs fz=>
   rcases h1.row a with D|D
   all_goals grind
  |mp E n es fz=>simp only[fw]at h1;omega
 .intro q s hq
  by_cases e:q=k
  .grind [aE]
  .rw[bu e]at hq
   exact(g.bl q s hq).mono m z (λa=>y _ ((g.bl q s hq).lt a) (λd B=>g.sep q k s ab e hq p a d B))
 .intro q F O P r hq f a d
  by_cases e:q=k
  .subst e
   rw[aE]at hq;injection hq with hq;subst hq;rw[bu (λe=>r e.symm)]at f;exact g.sep q F ab P r p f (x.1 a) d
  .rw[bu e]at hq
   by_cases B:F=k
   .subst B
    rw[aE]at f;injection f with f;subst f;exact g.sep q F O ab r hq p a (x.1 d)
   .rw[bu B]at f
    exact g.sep q F O P r hq f a d
 .intro q s hq
  by_cases e:q=k
  .grind [aE]
  .rw[bu e]at hq;exact g.own q s hq
theorem MemL.move(g:MemL C L h w){d:Nat}{xs':List PV}(E:h k=some (.row d sz xs fz))(F:k<2000000)(s:Ext (λ_=>False) w w'){l':Loc}
 (y:l'.isNil=false/\w.heap.size<=l'.b)(x:xs.length<xs'.length)
 (D:db w' (λb o=>ak C L h b o\/b=l'.b) (aH L k l') (aH h k (some (.row d sz xs' fz))) l' (.row d sz xs' fz)):
 MemL C (aH L k l') (aH h k (some (.row d sz xs' fz))) w'/\Pres w (ak C L h) w' (ak C (aH L k l') (aH h k (some (.row d sz xs' fz))))/\KC L h (aH L k l') (aH h k (some (.row d sz xs' fz))):=by
 have m:KC L h (aH L k l') (aH h k (some (.row d sz xs' fz))):=by
  intro q b hq;by_cases e:q=k
  .subst e;rw[E]at hq;injection hq with hq;subst hq
   exact⟨_,aE _ _ _,rfl,rfl,by omega,λe=>by omega⟩
  grind [bu,du]
 have A:∀b o,ak C (aH L k l') (aH h k (some (.row d sz xs' fz))) b o->ak C L h b o\/b=l'.b:=by
  rintro b o (z|⟨q,j,hq,f,l,hf⟩)
  .exact .inl (.inl z)
  .by_cases e:q=k
   .grind [aE]
   .rw[bu e]at hq f l;exact .inl (.inr ⟨q,j,hq,f,l,hf⟩)
 have c:Pres w (ak C L h) w' (ak C (aH L k l') (aH h k (some (.row d sz xs' fz)))):=by
  refine Pres.ext s (λ_ _ h=>h.elim) λb o G B=>?_
  grind
 refine⟨⟨g.ext.trans s (λ_ _ h=>h.elim),g.m0,?_,?_,?_⟩,c,m⟩
 .intro q j hq
  by_cases e:q=k
  .subst e
   rw[aE]at hq|-;injection hq with hq;subst hq;exact D.mono (Pres.sub A) (KC.refl _ _) (λ_=>rfl)
  .rw[bu e]at hq|-
   exact(g.bl q j hq).mono c m (λf=>s.block _ ((g.bl q j hq).lt f) (λh=>h))
 .intro q r u v n hq i f a
  by_cases e:q=k
  .subst e
   have p:r≠q:=λe=>n e.symm;rw[bu p]at i a|-;rw[aE]at f|-;have:=(g.bl r v i).lt a;omega
  .rw[bu e]at hq f|-
   by_cases p:r=k
   .subst p
    rw[aE]at a|-;have:=(g.bl q u hq).lt f;omega
   .rw[bu p]at i a|-
    exact g.sep q r u v n hq i f a
 .intro q j hq
  have:=g.ext.size;by_cases e:q=k
  .grind [aE,fw.mkRow]
  .rw[bu e]at hq|-;exact g.own q j hq
theorem MemL.grow(b:MemL C L h w)(c:Ext (λ_=>False) w w'):MemL C L h w'/\Pres w (ak C L h) w' (ak C L h):=by
 have a:Pres w (ak C L h) w' (ak C L h):=Pres.ext c (λ_ _ h=>h.elim) λ_ _ _ h=>h;exact⟨⟨b.ext.trans c (λ_ _ h=>h.elim),b.m0,λk ab d=>(b.bl k ab d).mono a (KC.refl _ _) (λe=>c.block _ ((b.bl k ab d).lt e) (λh=>h)),b.sep,b.own⟩,a⟩
inductive TK where
 |one
 |struct(fs:List (Nat×Nat))
 |array(len esz:Nat)
 |slice(e esz ebytes:Nat)(ezero:Option Value)
structure TI where
 size:Nat
 zero:Option Value
 kind:TK
variable {ti:TI}
def oO(P:Program)(t:TypeId):Nat:=((P.info? t).map (·.size)).getD 0
def mP(P:Program)(t:TypeId):Bool:=match P.underlying t with
 |some (.struct a)=>a.toList.all λf=>(P.info? f.type).isSome
 |some (.array _ e)=>(P.info? e).isSome
 |_=>true
def ag(P:Program)(t:TypeId):Option TI:=
 if mP P t=false then none else
 match P.info? t,P.underlying t with
 |some i,some d=>some {size:=i.size,zero:=i.zero,kind:=match d with
   |.struct a=>.struct (a.toList.map λf=>(f.offset,oO P f.type))
   |.array n e=>.array n (oO P e)
   |.slice e=>match P.info? e with
    |some j=>.slice e j.size j.bytes j.zero
    |none=>.one
   |_=>.one}
 |_,_=>none
def Fy(P:Program)(t:TypeId):Option (IntKind×Nat×TypeId):=match P.underlying t with
 |some (.map c a)=>match P.underlying c with
  |some (.array n e)=>match P.underlying e,P.info? e with
   |some (.int b),some j=>if j.size=1 then some (b,n,a)else none
   |_,_=>none
  |_=>none
 |_=>none
def rq(a:IntKind):List Value->Option (List Int)
 |[]=>some []
 |.int k i::r=>if k=a then(rq a r).map (i::·)else none
 |_::_=>none
def wG(b:IntKind)(n:Nat):AV->Option (List Int)
 |.pv (.val (.agg cs))=>match rq b cs.toList with
  |some a=>if a.length=n then some a else none
  |none=>none
 |_=>none
def Jr:List (List Int×Value)->List Int->Option Value
 |[],_=>none
 |(k,v)::r,a=>if k=a then some v else Jr r a
def uR:List (List Int×Value)->List Int->Value->List (List Int×Value)
 |[],a,u=>[(a,u)]
 |(k,v)::r,a,u=>if k=a then(a,u)::r else(k,v)::uR r a u
def TK.isAgg:TK->Bool
 |.struct _|.array _ _=>true
 |_=>false
def aj{α:Type}(P:Program):Sem α->Option α
 |.pure a=>some a
 |.program k=>aj P (k P)
 |_=>none
def yx:AV->List Nat
 |.ptr k _|.arr k _|.eptr k _ _ _=>[k]
 |.ext x=>[x.key]
 |_=>[]
def Rt:AV->List Nat
 |.agg cs=>cs.flatMap yx
 |.fn _ f c=>(f++c).flatMap yx
 |.tup vs=>vs.flatMap yx
 |x=>yx x
abbrev bF:=AV×List (Nat×Blk)
def mQ:Value->Bool
 |.slice none 0 0=>true
 |_=>false
def nX:AV->Bool
 |.pv (.val v)=>mQ v
 |_=>false
def yy:PV->PV
 |.val v=>if mQ v then .sl []else .val v
 |p=>p
def Fz(v:Value):Bool:=match v with
 |.agg cs=>cs.toList.any mQ
 |_=>false
def Js(p:PV):PV:=match p with
 |.val v=>if mQ v then .sl []else if Fz v then kq (p.cells.map yy)else .val v
 |.agg cs=>kq (cs.map yy)
 |p=>p
def pL:PV->Bool
 |.agg _=>true
 |.val (.agg _)=>true
 |_=>false
def lG:PV->Bool
 |.val v=>v.oneCell'
 |.agg _=>false
 |.tup _=>false
 |_=>true
def wH(h:Hp):AV->Bool
 |.pv p=>lG p
 |.ptr _ _=>true
 |.arr k n=>match h k with
  |some (.row _ _ xs _)=>xs.length==n
  |_=>false
 |.fn _ _ _=>true
 |.ext _=>true
 |_=>false
def tW(a:Nat)(y:PV):Bool:=y.cells.length==a&&y.cells.all lG
def fJ(h:Hp):AV->Option (List AV×Nat)
 |.ptr k off=>match h k with
  |some (.box cs _ _)=>some (cs,off)
  |_=>none
 |.pv (.rptr x off)=>some (x.cells.map .pv,off)
 |.eptr k n i off=>match h k with
  |some (.row _ _ xs _)=>if xs.length=n then(match xs[i]? with
   |some x=>some (x.cells.map .pv,off)
   |none=>none)else none
  |_=>none
 |_=>none
def Bg(h:Hp)(sz:Nat):AV->Option PV
 |.pv (.rptr x 0)=>if pL x&&x.cells.length==sz then some x else none
 |.eptr k n i 0=>match h k with
  |some (.row _ _ xs _)=>if xs.length=n then(match xs[i]? with
   |some x=>if pL x&&x.cells.length==sz then some x else none
   |none=>none)else none
  |_=>none
 |_=>none
def wI(a:TI)(x:AV)(h:Hp):Option AV:=
 if a.kind.isAgg then
  match Bg h a.size x with
  |some p=>some (.pv p)
  |none=>match fJ h x with
   |some (cs,off)=>if off+a.size<=cs.length then some (tV ((cs.drop off).take a.size))else none
   |none=>none
 else match fJ h x with
  |some (cs,off)=>cs[off]?
  |none=>none
def ik(h:Hp):AV->Option (List AV)
 |.undef=>none
 |.eptr _ _ _ _=>none
 |.arr k n=>match h k with
  |some (.row _ _ xs _)=>if xs.length=n then some [.arr k n]else none
  |_=>none
 |x=>some x.cells
def cS(cs:List α)(off:Nat)(vs:List α):List α:=cs.take off++vs++cs.drop (off+vs.length)
def lH(h:Hp):AV->Option (PV×List (Nat×Blk))
 |.pv p=>some (Js p,[])
 |.arr k n=>match h k with
  |some (.row e sz xs _)=>if xs.length=n then some (.sl xs,[(k,.row e sz xs xs.length)])else none
  |_=>none
 |.ext (.mp k)=>match h k with
  |some (.mp a n es _)=>some (.mp a n es,[(k,.mp a n es true)])
  |_=>none
 |_=>none
def mY(h:Hp):List AV->Option (List PV×List (Nat×Blk))
 |[]=>some ([],[])
 |x::r=>match lH h x,mY h r with
  |some (p,W),some (ps,a)=>some (p::ps,W++a)
  |_,_=>none
def tC(h:Hp):AV->Option (PV×List (Nat×Blk))
 |.ext (.barr k n _)=>match h k with
  |some (.box cs true _)=>if cs.length=n then(match mY h cs with
   |some (ps,W)=>if ps.all lG=true then some (.sl ps,W++[(k,.box cs true true)])else none
   |none=>none)else if n<=cs.length then(match mY h cs with
   |some (ps,W)=>if ps.all lG=true then some (.sl (ps.take n),W++[(k,.box cs true true)])else none
   |none=>none)else none
  |_=>none
 |x=>lH h x
def qd(h:Hp):List AV->Option (List PV×List (Nat×Blk))
 |[]=>some ([],[])
 |x::r=>match tC h x,qd h r with
  |some (p,W),some (ps,a)=>some (p::ps,W++a)
  |_,_=>none
def ju:List PV->Bool
 |[p]=>lG p
 |_=>false
def rr(h:Hp):AV->Option (PV×List (Nat×Blk))
 |.pv p=>some (p,[])
 |.ptr k 0=>match h k with
  |some (.box cs true _)=>match ld cs with
   |some ps=>if ju ps=true then some (.rptr (ps.headD default) 0,[(k,.box cs true true)])
    else some (.rptr (kq ps) 0,[(k,.box cs true true)])
   |none=>match qd h cs with
    |some (ps,W)=>if ju ps=true then some (.rptr (ps.headD default) 0,W++[(k,.box cs true true)])
     else some (.rptr (kq ps) 0,W++[(k,.box cs true true)])
    |none=>none
  |_=>none
 |_=>none
def kV(h:Hp):List AV->Option (List PV×List (Nat×Blk))
 |[]=>some ([],[])
 |x::r=>match rr h x,kV h r with
  |some (p,W),some (ps,a)=>some (p::ps,W++a)
  |_,_=>none
def CQ(h:Hp):AV->Option (PV×List (Nat×Blk))
 |.agg cs=>match qd h cs with
  |some (ps,W)=>some (kq ps,W)
  |none=>none
 |.fn f first a=>match qd h first,kV h a with
  |some (ps,W),some (qs,b)=>some (.fn f ps qs,W++b)
  |_,_=>none
 |x=>tC h x
def po(h:Hp):List AV->Option (List PV×List (Nat×Blk))
 |[]=>some ([],[])
 |x::r=>match CQ h x,po h r with
  |some (p,W),some (ps,a)=>some (p::ps,W++a)
  |_,_=>none
def frz(h:Hp):AV->Option (PV×List (Nat×Blk))
 |.agg cs=>match po h cs with
  |some (ps,W)=>some (kq ps,W)
  |none=>none
 |.fn f first a=>match qd h first,kV h a with
  |some (ps,W),some (qs,b)=>some (.fn f ps qs,W++b)
  |_,_=>none
 |.tup vs=>match po h vs with
  |some (ps,W)=>some (.tup ps,W)
  |none=>none
 |x=>tC h x
def jG:PV->Bool
 |.val _=>true
 |.agg cs=>cs.all λc=>match c with|.val _=>true|_=>false
 |_=>false
def Aq(h:Hp):AV->Option PV
 |.pv p=>if jG p=true then some p else none
 |.arr k n=>match h k with
  |some (.row _ _ xs _)=>if xs.length=n/\k<2000000/\xs.all jG=true then some (.sl xs)else none
  |_=>none
 |.ext (.mp k)=>match h k with
  |some (.mp a n es _)=>some (.mp a n es)
  |_=>none
 |_=>none
def yz(h:Hp):List AV->Option (List PV)
 |[]=>some []
 |x::r=>match Aq h x,yz h r with
  |some p,some ps=>some (p::ps)
  |_,_=>none
def CR(h:Hp):AV->Option PV
 |.ext (.barr k n _)=>match h k with
  |some (.box cs true _)=>if cs.length=n then(match yz h cs with
   |some ps=>if ps.all lG=true then some (.sl ps)else none
   |none=>none)else none
  |_=>none
 |x=>Aq h x
def wJ(h:Hp):List AV->Option (List PV)
 |[]=>some []
 |x::r=>match CR h x,wJ h r with
  |some p,some ps=>some (p::ps)
  |_,_=>none
def Bh(h:Hp):AV->Option PV
 |.ptr k 0=>match h k with
  |some (.box cs true _)=>match wJ h cs with
   |some ps=>if ju ps=true then some (.rptr (ps.headD default) 0)else some (.rptr (kq ps) 0)
   |none=>none
  |_=>none
 |x=>CR h x
def qV(h:Hp):List AV->Option (List PV)
 |[]=>some []
 |x::r=>match Bh h x,qV h r with
  |some p,some ps=>some (p::ps)
  |_,_=>none
def Pn(h:Hp):AV->Option PV
 |.fn f first a=>match wJ h first,qV h a with
  |some ps,some qs=>some (.fn f ps qs)
  |_,_=>none
 |.tup vs=>match wJ h vs with
  |some ps=>some (.tup ps)
  |none=>none
 |x=>CR h x
def yA(a:TI)(x v:AV)(h:Hp):Option (List (Nat×Blk)):=
 match x with
 |.ptr k off=>match h k,ik h v with
  |some (.box cs own false),some b=>if b.length=a.size/\off+b.length<=cs.length/\b.all (wH h)=true then some [(k,.box (cS cs off b) own false)]else none
  |_,_=>none
 |.eptr k n i off=>match h k with
  |some (.row e sz xs fz)=>
   if xs.length=n/\fz<=i then
    match xs[i]?,tC h v with
    |some y,some (p,[])=>
     if tW a.size p=true then
      if off=0/\a.size=sz then some [(k,.row e sz (xs.set i p) fz)]
      else if off+a.size<=sz/\pL y then some [(k,.row e sz (xs.set i (kq (cS y.cells off p.cells))) fz)]
      else none
     else none
    |_,_=>none
   else none
  |_=>none
 |_=>none
def tX(h:Hp)(k n:Nat):Bool:=match h k with
 |some (.row _ _ xs _)=>xs.length==n
 |_=>false
def pu(b:TI)(x:AV)(f:Nat)(h:Hp):Option AV:=
 match b.kind with
 |.struct a=>match a[f]? with
  |some (o,s)=>if s=0 then none else match x with
   |.ptr k off=>some (.ptr k (off+o))
   |.pv (.rptr y off)=>some (.pv (.rptr y (off+o)))
   |.eptr k n i off=>if tX h k n=true then some (.eptr k n i (off+o))else none
   |_=>none
  |none=>none
 |_=>none
def pA(b:TI)(x:AV)(i:Int)(h:Hp):Option AV:=
 match b.kind with
 |.slice _ a _ _=>match x with
  |.pv (.sl xs)=>if 0<=i then(match xs[i.toNat]? with
   |some y=>if y.cells.length=a then some (.pv (.rptr y 0))else none
   |none=>none)else none
  |.arr k n=>match h k with
   |some (.row _ sz xs _)=>if xs.length=n/\sz=a/\0<=i/\i.toNat<n then some (.eptr k n i.toNat 0)else none
   |_=>none
  |_=>none
 |.array len a=>if 0<=i/\i.toNat<len then match x with
   |.ptr k off=>some (.ptr k (off+i.toNat*a))
   |.pv (.rptr y off)=>some (.pv (.rptr y (off+i.toNat*a)))
   |.eptr k n j off=>if tX h k n=true then some (.eptr k n j (off+i.toNat*a))else none
   |_=>none
  else none
 |_=>none
def uS(b:TI)(x:AV)(i:Int)(h:Hp):Option AV:=
 match b.kind,x with
 |.slice _ 1 _ _,.ext (.barr k n _)=>if 0<=i/\i.toNat<n then some (.ptr k i.toNat)else none
 |.slice _ a _ _,.ext (.suf k o n t)=>match h k with
  |some (.row _ sz xs _)=>if xs.length=t/\sz=a/\0<=i/\i.toNat<n then some (.eptr k t (o+i.toNat) 0)else none
  |_=>none
 |_,_=>none
def CS:Option AV->Option AV->Option AV
 |some v,_=>some v
 |none,y=>y
def uT(place:Nat->Option (Nat×Nat))(cells:List AV):List (Nat×List AV)->Option (List AV)
 |[]=>some cells
 |(i,vs)::rest=>match place i with
  |none=>none
  |some (off,size)=>if vs.length≠size\/off+vs.length>cells.length then none else uT place (cS cells off vs) rest
def qW(h:Hp)(ρ:Operand->AV):List (Nat×Operand)->Option (List (Nat×List AV))
 |[]=>some []
 |(i,x)::r=>match ik h (ρ x),qW h ρ r with
  |some cs,some ps=>some ((i,cs)::ps)
  |_,_=>none
def yD(b:TI)(ps:List (Nat×List AV)):Option AV:=
 match b.zero with
 |none=>none
 |some z=>
  let c:=z.cells.toList.map λv=>AV.pv (.val v)
  match b.kind with
  |.struct d=>(uT (λi=>d[i]?) c ps).map tV
  |.array _ a=>(uT (λi=>some (i*a,a)) c ps).map tV
  |_=>none
def Jt(a:Bool)(h:Hp)(x:AV):Option (PV×List (Nat×Blk)):=match a,x with
 |true,.pv (.val v)=>some (.val v,[])
 |_,x=>frz h x
def KF(hn:List Nat)(d:Option Nat):Bool:=match d with
 |some d=>hn.contains (d+2000000)
 |none=>false
def qX(h:Hp)(ρ:Operand->AV)(a:Nat)(b:Bool):Nat->List (Nat×Operand)->Option (List PV×List (Nat×Blk))
 |_,[]=>some ([],[])
 |k,(i,x)::r=>if i=k then match Jt b h (ρ x),qX h ρ a b (k+1) r with
   |some (p,W),some (ps,c)=>if p.cells.length=a then some (p::ps,W++c)else none
   |_,_=>none
  else none
def gF(h:Hp):AV->Option (List PV)
 |.pv (.sl a)=>some a
 |.pv (.val v)=>if mQ v then some []else none
 |.arr k n=>match h k with
  |some (.row _ _ xs _)=>if xs.length=n then some xs else none
  |_=>none
 |_=>none
def uU(g:TI)(d:Option Nat)(s x:AV)(h:Hp):Option bF:=
 match g.kind with
 |.slice f b a (some z)=>
  match gF h x with
  |none=>none
  |some c=>
   if 0<b/\z.cells.size=b/\c.all (tW b)=true then
    match s with
    |.arr k n=>match h k with
     |some (.row e sz xs fz)=>
      if k<2000000/\xs.length=n/\e=f/\sz=b/\(n+c.length)*a<=140737488355328/\n+c.length<=9223372036854775807 then some (.arr k (n+c.length),[(k,.row e sz (xs++c) fz)])else none
     |_=>none
    |.pv (.val v)=>
     if mQ v then match d with
      |some d=>if(h d).isNone/\c.length*a<=140737488355328/\c.length<=9223372036854775807 then some (.arr d c.length,[(d,.row f b c 0)])else none
      |none=>none
     else none
    |_=>none
   else none
 |_=>none
def Bi(c:TI)(s x:AV)(h:Hp):Option bF:=
 match c.kind,s with
 |.slice _ a _ _,.arr k n=>match h k,gF h x with
  |some (.row e sz xs 0),some b=>
   if xs.length=n/\sz=a/\b.all (tW a)=true then
    some (.pv (.val (.int .i64 (Nat.min b.length n:Nat))),[(k,.row e sz (b.take (Nat.min b.length n)++xs.drop (Nat.min b.length n)) 0)])else none
  |_,_=>none
 |_,_=>none
def E7(a:TI)(x:AV)(h:Hp):Option AV:=
 match a.kind,x with
 |.slice _ _ _ _,.pv (.sl xs)=>some (.pv (.val (.int .i64 (xs.length:Nat))))
 |.slice _ _ _ _,.pv (.hd n)=>some (.pv (.val (.int .i64 (n:Nat))))
 |.slice _ _ _ _,.arr k n=>match h k with
  |some (.row _ _ xs _)=>if xs.length=n then some (.pv (.val (.int .i64 (n:Nat))))else none
  |_=>none
 |.slice _ _ _ _,.ext (.barr _ n _)=>some (.pv (.val (.int .i64 (n:Nat))))
 |.slice _ _ _ _,.ext (.suf k o n t)=>match h k with
  |some (.row _ _ xs _)=>if xs.length=t then some (.pv (.val (.int .i64 (n:Nat))))else none
  |_=>none
 |_,_=>none
def yE(b:TI)(hn:List Nat)(d:Option Nat)(l c:AV)(h:Hp):Option bF:=
 match b.kind,l,c,d with
 |.slice _ 1 a (some z),.pv (.val (.int _ n)),.pv (.val (.int _ m)),some d=>
  if hn.contains (d+1000000)=true/\lG (.val z)=true/\m=n/\0<=n/\(a:Int)*n<=281474976710656/\n<=9223372036854775807/\(h d).isNone then
   some (.ext (.barr d n.toNat n.toNat),[(d,.box (List.replicate n.toNat (.pv (.val z))) true false)])
  else none
 |_,_,_,_=>none
def CT:Option bF->Option bF->Option bF
 |some v,_=>some v
 |none,y=>y
def sy(P:Program)(t:TypeId)(d:Option Nat)(h:Hp):Option bF:=
 match Fy P t,d with
 |some (a,n,_),some d=>if(h d).isNone then some (.ext (.mp d),[(d,.mp a n [] false)])else none
 |_,_=>none
def Po(P:Program)(t:TypeId):Option Value:=(P.info? t).bind (·.zero)
def yF(z:Option Value)(ok:Bool):Option Value->Option AV
 |some v=>some (.pv (if ok then .tup [.val v,.val (.bool true)]else .val v))
 |none=>match z with
  |some z=>some (.pv (if ok then .tup [.val z,.val (.bool false)]else .val z))
  |none=>none
def E8(h:Hp):AV->Option (IntKind×Nat×List (List Int×Value))
 |.ext (.mp k)=>match h k with
  |some (.mp a n es _)=>some (a,n,es)
  |_=>none
 |.pv (.mp a n es)=>some (a,n,es)
 |_=>none
def uV(P:Program)(t:TypeId)(x i:AV)(ok:Bool)(h:Hp):Option AV:=
 match Fy P t,E8 h x with
 |some (b,n,c),some (a,e,es)=>if a=b/\e=n then match wG b n i with
   |some d=>yF (Po P c) ok (Jr es d)
   |none=>none else none
 |_,_=>none
def uW(P:Program)(t:TypeId)(x i v:AV)(h:Hp):Option (List (Nat×Blk)):=
 match Fy P t,x,v with
 |some (a,n,_),.ext (.mp k),.pv (.val v)=>match h k,wG a n i with
  |some (.mp b d es false),some c=>if b=a/\d=n then some [(k,.mp a n (uR es c v) false)]else none
  |_,_=>none
 |_,_,_=>none
def Bj(f:TI)(d:Option Nat)(l c:AV)(h:Hp):Option bF:=
 match f.kind,l,c,d with
 |.slice e b a (some z),.pv (.val (.int _ n)),.pv (.val (.int _ m)),some d=>
  if 0<b/\z.cells.size=b/\m=n/\0<=n/\(a:Int)*n<=281474976710656/\n<=9223372036854775807/\(h d).isNone then
   some (.arr d n.toNat,[(d,.row e b (List.replicate n.toNat (.val z)) 0)])
  else none
 |_,_,_,_=>none
def kW(b:TI)(x:AV)(lo hi:Option AV):Option AV:=
 match b.kind,x with
 |.slice _ a _ _,.pv (.sl xs)=>
  let l:=match lo with|none=>some 0|some (.pv (.val (.int _ n)))=>if 0<=n then some n.toNat else none|_=>none
  let r:=match hi with|none=>some xs.length|some (.pv (.val (.int _ n)))=>if 0<=n then some n.toNat else none|_=>none
  match l,r with
  |some l,some r=>if l<=r/\r<=xs.length/\0<a/\xs.all (tW a)=true then some (.pv (.sl ((xs.take r).drop l)))else none
  |_,_=>none
 |_,_=>none
def dV:AV->Option Value
 |.pv (.val v)=>some v
 |_=>none
def pB(x:AV):Value:=(dV x).getD undef
def bf(P:Program)(o:Oper)(ρ:Operand->AV):Option bF:=
 if(o.op.operands.toList.all λx=>(dV (ρ x)).isSome)=true then
  match aj P (execOp (λx=>pB (ρ x)) o)with
  |some (.value v)=>some (.pv (.val v),[])
  |_=>none
 else none
def wK(op:BinOp)(k:IntKind)(a b:Int):Int:=match op with
 |.and=>k.wrap (BitVec.ofInt k.bits a &&& BitVec.ofInt k.bits b).toNat
 |.or=>k.wrap (BitVec.ofInt k.bits a ||| BitVec.ofInt k.bits b).toNat
 |.xor=>k.wrap (BitVec.ofInt k.bits a ^^^ BitVec.ofInt k.bits b).toNat
 |_=>k.wrap (BitVec.ofInt k.bits a &&& ~~~BitVec.ofInt k.bits b).toNat
def tY(op:BinOp)(x y:AV):Option Value:=
 match x,y with
 |.pv (.val (.int k a)),.pv (.val (.int c b))=>match op with
  |.shl=>if 0<=b then some (.int k (k.wrap (a*2^(min b.toNat k.bits))))else none
  |.shr=>if 0<=b then some (.int k (a.fdiv (2^(min b.toNat k.bits))))else none
  |.add=>if k=c then some (.int k (k.wrap (a+b)))else none
  |.sub=>if k=c then some (.int k (k.wrap (a-b)))else none
  |.mul=>if k=c then some (.int k (k.wrap (a*b)))else none
  |.quo=>if k=c/\b≠0 then some (.int k (k.wrap (a.tdiv b)))else none
  |.rem=>if k=c/\b≠0 then some (.int k (a.tmod b))else none
  |.eql=>if k=c then some (.bool (a==b))else none
  |.neq=>if k=c then some (.bool (a !=b))else none
  |.lss=>if k=c then some (.bool (decide (a<b)))else none
  |.leq=>if k=c then some (.bool (decide (a<=b)))else none
  |.gtr=>if k=c then some (.bool (decide (b<a)))else none
  |.geq=>if k=c then some (.bool (decide (b<=a)))else none
  |.and=>if k=c then some (.int k (wK .and k a b))else none
  |.or=>if k=c then some (.int k (wK .or k a b))else none
  |.xor=>if k=c then some (.int k (wK .xor k a b))else none
  |.andNot=>if k=c then some (.int k (wK .andNot k a b))else none
 |.pv (.val (.string a)),.pv (.val (.string b))=>match op with
  |.eql=>some (.bool (a.toList==b.toList))
  |.neq=>some (.bool !(a.toList==b.toList))
  |_=>none
 |_,_=>none
def Bk(op:UnOp)(x:AV):Option Value:=
 match op,x with
 |.not,.pv (.val (.bool b))=>some (.bool !b)
 |.neg,.pv (.val (.int k n))=>some (.int k (k.wrap (0-n)))
 |_,_=>none
def dy(P:Program)(t:TypeId):Option IntKind:=match P.underlying t with
 |some (.int k)=>some k
 |_=>none
def uX(P:Program)(s d:TypeId)(x:AV):Option Value:=
 match dy P s,dy P d,x with
 |some _,some k,.pv (.val (.int _ n))=>some (.int k (k.wrap n))
 |_,_,_=>none
def yH:List AV->Option Value
 |[.pv (.val (.int k a)),.pv (.val (.int _ b))]=>some (.int k (if b<a then b else a))
 |_=>none
def yI:List AV->Option Value
 |[.pv (.val (.int k a)),.pv (.val (.int _ b))]=>some (.int k (if b>a then b else a))
 |_=>none
def nY(P:Program)(o:Oper)(ρ:Operand->AV):Option Value->Option bF
 |some v=>some (.pv (.val v),[])
 |none=>bf P o ρ
def FA:AV->Option Int
 |.pv (.val (.int _ n))=>some n
 |_=>none
def wL(P:Program)(o:Oper)(b:Builtin)(args:List AV)(a:List TypeId)(ρ:Operand->AV)(h:Hp):Option bF:=
 match b,args,a with
 |.len,[x],[t]=>match x with
  |.pv (.val _)=>bf P o ρ
  |_=>match ag P t with
   |some ti=>(E7 ti x h).map λv=>(v,[])
   |none=>none
 |.append,[s,x],[t,t']=>if t=t' then match ag P t with
   |some ti=>uU ti o.dst s x h
   |none=>none
  else none
 |.copy,[s,x],[t,_]=>match ag P t with
  |some ti=>Bi ti s x h
  |none=>none
 |.min,_,_=>nY P o ρ (yH args)
 |.max,_,_=>nY P o ρ (yI args)
 |_,_,_=>none
def gy(P:Program)(t:TypeId):Option (Option Nat):=match P.underlying t with
 |some .string=>some none
 |some (.array n e)=>match P.underlying e with
  |some (.struct _)=>none
  |some (.array _ _)=>none
  |some _=>if oO P e=1/\(P.info? e).isSome=true then some (some n)else none
  |none=>none
 |_=>none
def Bl:Option (Option Nat)->AV->AV->Option Value
 |some none,.pv (.val (.string s)),.pv (.val (.int _ i))=>if 0<=i then(s[i.toNat]?).map λb=>.int .u8 b.toNat else none
 |some (some n),.pv (.val (.agg cs)),.pv (.val (.int _ i))=>if 0<=i/\i<n then cs[i.toNat]? else none
 |_,_,_=>none
def nZ(P:Program)(t:TypeId):Option Bool:=match P.underlying t with
 |some (.struct _)=>some true
 |some (.array _ _)=>some true
 |some _=>some false
 |none=>none
def uY(P:Program)(t:TypeId):Option (Nat×Nat):=match P.underlying t with
 |some (.array n e)=>match nZ P e,P.info? e with
  |some true,some j=>some (n,j.size)
  |_,_=>none
 |_=>none
def Ar(cs:Array Value)(off sz:Nat):Value:=.agg ((cs.toList.drop off).take sz).toArray
def Bm:Option (Nat×Nat)->AV->AV->Option Value
 |some (n,sz),.pv (.val (.agg cs)),.pv (.val (.int _ i))=>if 0<=i/\i<n then some (Ar cs (i.toNat*sz) sz)else none
 |_,_,_=>none
def tZ(P:Program)(t:TypeId)(f:Nat):Option (Bool×Nat×Nat):=match P.underlying t with
 |some (.struct c)=>match c[f]? with
  |some a=>match nZ P a.type,P.info? a.type with
   |some b,some j=>some (b,a.offset,j.size)
   |_,_=>none
  |none=>none
 |_=>none
def yJ:Option (Bool×Nat×Nat)->AV->Option Value
 |some (true,off,sz),.pv (.val (.agg cs))=>some (Ar cs off sz)
 |some (false,off,_),.pv (.val (.agg cs))=>cs[off]?
 |_,_=>none
def yL:Option Value->Option Value->Option Value
 |some v,_=>some v
 |none,y=>y
def E9(f:Fn):List AV->List AV->AV
 |x::r,[]=>match ld (x::r)with
  |some ps=>match fe ps with
   |some vs=>.pv (.val (.func f vs.toArray #[]))
   |none=>.pv (.fn f ps [])
  |none=>.fn f (x::r) []
 |first,a=>.fn f first a
def uZ(h:Hp):AV->Option Bool
 |.pv (.val v)=>if mQ v then some true else none
 |.pv (.sl xs)=>if xs.isEmpty then none else some false
 |.arr k n=>match h k with
  |some (.row _ _ xs _)=>if xs.length=n/\n≠0 then some false else none
  |_=>none
 |_=>none
def qY(h:Hp):AV->Bool
 |.pv (.sl xs)=>xs.isEmpty
 |.arr k n=>match h k with
  |some (.row _ _ xs _)=>decide (xs.length=n)&&decide (n=0)
  |_=>false
 |_=>false
def ng(P:Program)(t:TypeId):Bool:=match ag P t with
 |some {kind:=.slice _ _ _ _,..}=>true
 |_=>false
def Bn(op:BinOp):Option Bool->Option Bool
 |none=>none
 |some b=>match op with
  |.eql=>some b
  |.neq=>some !b
  |_=>none
def FB(P:Program)(h:Hp)(ρ:Operand->AV)(op:BinOp)(t:TypeId)(x y:Operand):Option Bool:=
 if(nX (ρ y)&&ng P t)=true then Bn op (uZ h (ρ x))else none
def As(P:Program)(hn:List Nat)(dst:Option Nat)(h:Hp)(t:TypeId)(len:Nat)(ps:List (Nat×Operand)):Option bF:=
 match len,ps,dst with
 |0,[],some d=>if hn.contains d=true then match ag P t with
   |some {kind:=.slice e a _ (some _),..}=>if(h d).isNone/\0<a then some (.arr d 0,[(d,.row e a [] 0)])else none
   |_=>none
  else none
 |_,_,_=>none
def FC(hn:List Nat)(dst:Option Nat)(h:Hp)(W:List (Nat×Blk)):Option Nat:=match dst,W with
 |some d,[]=>if(hn.contains d&&(h d).isNone)=true then some d else none
 |_,_=>none
def Pp(a:TI)(h:Hp)(x:AV)(lo hi:Option AV):Option bF:=match tC h x with
 |some (p,W)=>match kW a (.pv p) lo hi with
  |some v=>some (v,W)
  |none=>none
 |none=>none
def t6(P:Program)(t:TypeId):Bool:=match P.underlying t with
 |some (.interface _)=>false
 |some _=>true
 |none=>false
def CU(P:Program)(t:TypeId)(p:PV)(a:TypeId)(ok:Bool):Option AV:=
 if t=a then some (if ok then .pv (.tup [p,.val (.bool true)])else .pv p)
 else if ok then match(ag P a).bind (·.zero)with
  |some z=>some (.pv (.tup [.val z,.val (.bool false)]))
  |none=>none
 else none
def u0(P:Program)(t:TypeId)(name:String):Option FuncId:=match P.info? t with
 |some i=>match i.methods.find? (·.name==name)with
  |some m=>if m.path.isEmpty then(match m.func,P.underlying t with
    |some (_,true),_=>none
    |some (_,false),some (.pointer _)=>none
    |some (f,false),some _=>some f
    |_,_=>none)else none
  |none=>none
 |none=>none
def qe(P:Program)(name:String):AV->AV
 |.pv (.ifc t p)=>match u0 P t name with
  |some f=>.fn (.func f) [.pv p] []
  |none=>.undef
 |_=>.undef
def dI(P:Program)(hn:List Nat)(o:Oper)(ρ:Operand->AV)(h:Hp):Option bF:=
 match o.op with
 |.move x=>some (ρ x,[])
 |.assign x=>match o.dst with
  |some d=>if(hn.contains d&&nX (ρ x))=true then
    match ag P o.type with
    |some {kind:=.slice e g _ _,..}=>if(h d).isNone/\0<g then some (.arr d 0,[(d,.row e g [] 0)])else none
    |_=>none
   else some (ρ x,[])
  |none=>some (ρ x,[])
 |.pick c a b=>match ρ c with
  |.pv (.val (.bool t))=>some (if t then ρ a else ρ b,[])
  |_=>none
 |.alloc e=>match ag P e,o.dst with
  |some {zero:=some z,..},some d=>if(h d).isNone then some (.ptr d 0,[(d,.box (z.cells.toList.map λv=>.pv (.val v)) true false)])else none
  |_,_=>none
 |.box _ x=>match ik h (ρ x),o.dst with
  |some cs,some d=>if(h d).isNone then some (.ptr d 0,[(d,.box cs true false)])else none
  |_,_=>none
 |.build t ps=>match ag P t,qW h ρ ps.toList with
  |some ti,some qs=>(yD ti qs).map λv=>(v,[])
  |_,_=>none
 |.buildSlice t len ps=>match As P hn o.dst h t len ps.toList with
  |some m=>some m
  |none=>match ag P t with
   |some {kind:=.slice e g _ (some _),..}=>match qX h ρ g (KF hn o.dst) 0 ps.toList with
    |some (xs,W)=>if xs.length=len/\0<g/\len*g<=16777216 then(match FC hn o.dst h W with
     |some d=>some (.arr d len,[(d,.row e g xs 0)])
     |none=>some (.pv (.sl xs),W))else none
    |none=>none
   |_=>none
 |.load t a=>match ag P t with
  |some ti=>(wI ti (ρ a) h).map λv=>(v,[])
  |none=>none
 |.store t a v=>match ag P t with
  |some ti=>(yA ti (ρ a) (ρ v) h).map λW=>(.undef,W)
  |none=>none
 |.nilCheck x=>match ρ x with
  |.ptr k off=>some (.ptr k off,[])
  |.pv (.rptr y off)=>some (.pv (.rptr y off),[])
  |_=>none
 |.fieldAddr s x f=>match ag P s with
  |some ti=>(pu ti (ρ x) f h).map λv=>(v,[])
  |none=>none
 |.indexAddr t x i=>match ag P t,FA (ρ i)with
  |some ti,some n=>(CS (pA ti (ρ x) n h) (uS ti (ρ x) n h)).map λv=>(v,[])
  |_,_=>none
 |.makeFunc f first j=>some (E9 f (first.toList.map ρ) (j.toList.map ρ),[])
 |.makeInterface t x=>if t6 P t then(match frz h (ρ x)with
   |some (p,W)=>some (.pv (.ifc t p),W)
   |none=>none)else none
 |.typeAssert x _ a ok=>match ρ x with
  |.pv (.ifc t p)=>if t6 P a then(CU P t p a ok).map λv=>(v,[])else none
  |_=>none
 |.makeSlice t l c=>match ag P t with
  |some ti=>CT (yE ti hn o.dst (ρ l) (ρ c) h) (Bj ti o.dst (ρ l) (ρ c) h)
  |none=>none
 |.makeMap t none=>sy P t o.dst h
 |.lookup t x i ok=>(uV P t (ρ x) (ρ i) ok h).map λv=>(v,[])
 |.mapUpdate t x i v=>(uW P t (ρ x) (ρ i) (ρ v) h).map λW=>(.undef,W)
 |.slice t x lo hi mx=>match ρ x,mx with
  |.pv (.val _),_=>bf P o ρ
  |.arr k n,none=>match ag P t with
   |some ti=>Pp ti h (.arr k n) (lo.map ρ) (hi.map ρ)
   |none=>none
  |_,none=>match ag P t with
   |some ti=>(kW ti (ρ x) (lo.map ρ) (hi.map ρ)).map λv=>(v,[])
   |none=>none
  |_,_=>none
 |.extract t i=>match ρ t with
  |.tup vs=>(vs[i]?).map λv=>(v,[])
  |.pv (.tup vs)=>(vs[i]?).map λv=>(.pv v,[])
  |.pv (.val _)=>bf P o ρ
  |_=>none
 |.call c=>match c.callee with
  |.builtin b=>wL P o b (c.args.toList.map ρ) c.argTypes.toList ρ h
  |_=>none
 |.binOp op t x y _=>match FB P h ρ op t x y with
  |some b=>some (.pv (.val (.bool b)),[])
  |none=>nY P o ρ (tY op (ρ x) (ρ y))
 |.unOp op _ x=>nY P o ρ (Bk op (ρ x))
 |.convert s d x=>nY P o ρ (uX P s d (ρ x))
 |.field t x f=>nY P o ρ (yJ (tZ P t f) (ρ x))
 |.index t x i=>nY P o ρ (yL (Bl (gy P t) (ρ x) (ρ i)) (Bm (uY P t) (ρ x) (ρ i)))
 |_=>none
structure St where
 t:Nat->AV
 h:Hp
def St.ev(st:St):Operand->AV
 |.tmp n=>st.t n
 |.const v=>.pv (.val v)
 |.global _=>.undef
 |.func f=>.pv (.val (.func (.func f) #[] #[]))
def ah(h:Hp)(W:List (Nat×Blk)):Hp:=W.foldl (λh a=>aH h a.1 (some a.2)) h
def St.put(st:St)(d:Option Nat)(v:AV)(W:List (Nat×Blk)):St:=
 ⟨match d with|some d=>aH st.t d v|none=>st.t,ah st.h W⟩
inductive Arg where
 |pv(p:PV)
 |bx(i:Nat)
inductive RV where
 |pv(p:PV)
 |box(ps:List PV)
 |row(e sz:Nat)(xs:List PV)
 |srow(pre:List PV)(e sz:Nat)(xs:List PV)
 |nrow(e sz:Nat)(xs:List PV)
 |new(p:PV)
def dW(P:Program)(f:FuncId):Bool:=match P.funcs[f]? with
 |some fn=>fn.body.isSome&& !(fn.name== "runtime.NumGoroutine")
 |none=>false
def ru(w:World)(M:Nat->Nat->Prop)(b:Nat)(ps:List PV):Prop:=∃arr ty,w.heap[b]?=some (.cells arr ty (0,0))/\bR w M ps arr.toList
def KG(w:World)(M:Nat->Nat->Prop)(a:List Nat):Arg->Value->Prop
 |.pv p,v=>Rep w M p v
 |.bx j,v=>∃b,a[j]?=some b/\v=.pointer (some ⟨b,0,none⟩)
def KH(w w':World)(M:Nat->Nat->Prop):RV->Value->Prop
 |.pv p,v=>Rep w' M p v
 |.new p,v=>Rep w' (λb _=>b<w.heap.size) p v
 |.box ps,v=>∃b,w.heap.size<=b/\v=.pointer (some ⟨b,0,none⟩)/\ru w' (λa o=>M a o\/a=b) b ps
 |.row e sz xs,v=>∃l:Loc,v=l.slice xs.length/\(l.isNil=false->w.heap.size<=l.b)/\
   db w' (λa o=>M a o\/(l.isNil=false/\a=l.b)) (λ_=>default) (λ_=>none) l (.row e sz xs 0)
 |.nrow e sz xs,v=>xs.all jG=true/\∃l:Loc,v=l.slice xs.length/\(l.isNil=false->w.heap.size<=l.b)/\
   db w' (λa o=>M a o\/(l.isNil=false/\a=l.b)) (λ_=>default) (λ_=>none) l (.row e sz xs 0)
 |.srow pre e sz xs,v=>∃(l:Loc)(us:List Value),v=.agg (us++[l.slice xs.length]).toArray/\(l.isNil=false->w.heap.size<=l.b)/\bR w' (λa o=>M a o\/(l.isNil=false/\a=l.b)) pre us/\
   db w' (λa o=>M a o\/(l.isNil=false/\a=l.b)) (λ_=>default) (λ_=>none) l (.row e sz xs 0)
def aO(P:Program)(f:FuncId)(args:List Arg)(c hout:List (List PV))(g:RV):Prop:=
 dW P f=true/\hout.length=c.length/\∀(w:World)(M:Nat->Nat->Prop)(d:List Nat)(vs:List Value),
  (∀b o,M b o->b<w.heap.size)->d.length=c.length->d.Nodup->
  (∀(i:Nat) b ps,d[i]?=some b->c[i]?=some ps->(∀o,M b o)/\ru w M b ps)->
  args.length=vs.length->(∀(i:Nat) a v,args[i]?=some a->vs[i]?=some v->KG w M d a v)->
  Calls P f vs.toArray w λe w'=>∃v,e=.returned v/\Ext (·∈d) w w'/\
   (∀(i:Nat) b ps,d[i]?=some b->hout[i]?=some ps->ru w' M b ps)/\KH w w' M g v
def dw:AV->Option (FuncId×List AV×List AV)
 |.pv (.val (.func (.func f) first a))=>some (f,first.toList.map (λv=>.pv (.val v)),a.toList.map (λv=>.pv (.val v)))
 |.pv (.fn (.func f) first a)=>some (f,first.map .pv,a.map .pv)
 |.fn (.func f) first a=>some (f,first,a)
 |_=>none
def Ju(h:Hp)(k:Nat):Bool:=match h k with
 |some (.box cs true _)=>(ld cs).isSome
 |_=>true
def jv(h:Hp):List AV->List Nat->Option (List Arg×List Nat×List (Nat×Blk))
 |[],b=>some ([],b,[])
 |x::r,b=>match x with
  |.ptr k off=>if off=0/\b.contains k=false/\Ju h k=true then match jv h r (b++[k])with
    |some (as,a,W)=>some (.bx b.length::as,a,W)
    |none=>none
   else if Ju h k=false then match rr h (.ptr k off),jv h r b with
    |some (p,W),some (as,a,c)=>some (.pv p::as,a,W++c)
    |_,_=>none
   else none
  |x=>match frz h x,jv h r b with
   |some (p,W),some (as,a,c)=>some (.pv p::as,a,W++c)
   |_,_=>none
def n9(h:Hp):List Nat->Option (List (List PV))
 |[]=>some []
 |k::r=>match h k,n9 h r with
  |some (.box cs _ false),some a=>match ld cs with
   |some ps=>some (ps::a)
   |none=>none
  |_,_=>none
def jR(h:Hp):List Nat->List (List PV)->List (Nat×Blk)
 |k::b,ps::a=>(match h k with
   |some (.box _ own _)=>[(k,.box (ps.map .pv) own false)]
   |_=>[])++jR h b a
 |_,_=>[]
def FD:PV->Bool
 |.val _=>true
 |.hd _=>true
 |_=>false
def t7:PV->Bool
 |.val _=>true
 |.hd _=>true
 |.tup cs=>cs.all FD
 |.agg cs=>cs.all FD
 |_=>false
def Jv(ks:List Nat)(p:PV)(W:List (Nat×Blk)):List (Nat×Blk):=if(ks.isEmpty&&t7 p)=true then[]else W
def mm(h:Hp)(d:Option Nat)(ks:List Nat)(a:List (Nat×Blk))(hout:List (List PV))(b:RV):Option bF:=
 match b,d with
 |.pv p,_=>some (.pv p,Jv ks p a++jR h ks hout)
 |.new p,_=>if ks=[]then some (.pv p,[])else none
 |.box ps,some d=>if(h d).isNone/\ks=[]then some (.ptr d 0,a++[(d,.box (ps.map .pv) true false)])else none
 |.row e sz xs,some d=>if(h d).isNone/\ks=[]then some (.arr d xs.length,a++[(d,.row e sz xs 0)])else none
 |.nrow e sz xs,some d=>if(h d).isNone/\ks=[]then some (.arr d xs.length,[(d,.row e sz xs 0)])else none
 |.srow pre e sz xs,some d=>if(h d).isNone/\ks=[]then some (.agg (pre.map .pv++[.arr d xs.length]),a++[(d,.row e sz xs 0)])else none
 |_,_=>none
def iP(x:Option bF)(K:bF->Prop):Prop:=match x with
 |some e=>K e
 |none=>False
def At(P:Program)(g:FuncId)(as:List Arg)(c:List (List PV))(F:List (List PV)->RV->Prop):Prop:=∃a b,aO P g as c a b/\F a b
def gz(P:Program)(c:AV)(args:List AV)(d:Option Nat)(h:Hp)(K:bF->Prop):Prop:=
 match dw c with
 |none=>False
 |some (g,first,a)=>match jv h (first++args++a) []with
  |none=>False
  |some (as,f,j)=>if(j.any λk=>f.contains k.1)=true then False else match n9 h f with
   |none=>False
   |some e=>At P g as e λb i=>iP (mm h d f j b i) K
def wi(P:Program)(hn:List Nat)(o:Oper)(ρ:Operand->AV)(h:Hp)(K:bF->Prop):Prop:=
 match o.op with
 |.call c=>match c.callee with
  |.value f=>gz P (ρ f) (c.args.toList.map ρ) o.dst h K
  |.invoke r name=>gz P (qe P name (ρ r)) (c.args.toList.map ρ) o.dst h K
  |_=>iP (dI P hn o ρ h) K
 |_=>iP (dI P hn o ρ h) K
def dR(P:Program)(g:FuncId):Prop:=dW P g=true/\∀(args:Array Value)(w:World),CallsD P g args .returning w λe a w'=>a=.returning/\(∃v,e=.returned v)/\w'=w
def H7(P:Program)(K:bF->Prop):AV->Prop
 |.fn (.func g) _ _=>dR P g/\K (.undef,[])
 |_=>False
def Jw(x y:Prop):Prop:=x/\y
theorem Jx{x y:Prop}(a:x)(b:y):Jw x y:=⟨a,b⟩
def CV(P:Program)(hn:List Nat)(o:Oper)(ρ:Operand->AV)(h:Hp)(K:bF->Prop):Prop:=
 match o.op with
 |.defer c=>match c.callee with
  |.value f=>if c.args.size=0 then H7 P K (ρ f)else False
  |_=>False
 |.binOp op t x y _=>if(nX (ρ y)&&ng P t&&qY h (ρ x)&&(op==.eql||op==.neq))=true then Jw (K (.pv (.val (.bool true)),[])) (K (.pv (.val (.bool false)),[]))else wi P hn o ρ h K
 |_=>wi P hn o ρ h K
def lI(a:Array Oper)(t:Nat->AV)(g:Option (Nat×Bool)):Option Bool:=
 match g with
 |none=>some true
 |some (j,want)=>match(a[j]?).bind (·.dst)with
  |some d=>match t d with
   |.pv (.val (.bool b))=>some (b==want)
   |.pv (.val (.tuple _))=>some false
   |_=>none
  |none=>none
def lu(N:Nat):Option Nat->Bool
 |some d=>decide (d<N)&&decide (d<2000000)
 |none=>true
def lJ(a:Array Oper)(t:Nat->AV)(g:Option (Nat×Bool)):Option (Option (Nat×Bool×Bool)):=
 match g with
 |none=>some none
 |some (j,want)=>match(a[j]?).bind (·.dst)with
  |some d=>match t d with
   |.pv (.val (.bool b))=>some (some (d,b,want))
   |.pv (.val (.tuple _))=>some (some (d,!want,want))
   |_=>none
  |none=>none
def Bo(b:Bool)(_:Nat)(st:St)(F:Bool->St->Prop):Prop:=F b st
def fW(P:Program)(hn:List Nat)(N:Nat)(a:Array Oper)(Q:St->Prop):List Oper->St->Prop
 |[],f=>Q f
 |o::rest,f=>lu N o.dst=true/\(match lJ a f.t o.guard with
   |some none=>CV P hn o f.ev f.h (λe=>fW P hn N a Q rest (f.put o.dst e.1 e.2))
   |some (some (d,b,want))=>Bo b d f (λg c=>if g=want then CV P hn o c.ev c.h (λe=>fW P hn N a Q rest (c.put o.dst e.1 e.2))else fW P hn N a Q rest (c.put o.dst (.pv (.val (.tuple #[]))) []))
   |none=>False)
theorem tD{t:Nat->AV}{g:Option (Nat×Bool)}(e:lJ ops t g=some none):lI ops t g=some true:=by
 unfold lJ at e;unfold lI;split at e
 .rfl
 .split at e
  .split at e
   .injection e with e;cases e
   .injection e with e;cases e
   .cases e
  .cases e
theorem pC{t:Nat->AV}{g:Option (Nat×Bool)}{b want:Bool}(e:lJ ops t g=some (some (d,b,want))):lI ops t g=some (b==want):=by
 unfold lJ at e;unfold lI;split at e
 .injection e with e;cases e
 .rename_i j w
  split at e
  .rename_i f hd
   split at e
   .rename_i c a
    injection e with e;injection e with e;injection e with e1 e;injection e with e2 e3;subst e1;subst e2;subst e3;simp only[hd,a]
   .rename_i q a
    injection e with e;injection e with e;injection e with e1 e;injection e with e2 e3;subst e1;subst e2;subst e3;cases w<;>rfl
   .cases e
  .cases e
theorem gm{arr:Array Value}{fr:Nat×Nat}(h:w.heap[b]?=some (.cells arr ty fr)):w.cell? ⟨b,o,none⟩=arr[o]?:=by
 simp[World.cell?,h]
theorem gG(b o n:Nat):(⟨b,o,none⟩:Addr).add n=⟨b,o+n,none⟩:=by unfold Addr.add;split<;>simp_all
def aZ(C:Cx)(L:Nat->Loc)(h:Hp)(w:World)(L':Nat->Loc)(h':Hp)(w':World):Prop:=
 MemL C L' h' w'/\Pres w (ak C L h) w' (ak C L' h')/\KC L h L' h'
theorem aZ.trans{c:Hp}{d:World}(a:aZ C L h w L' h' w')(b:aZ C L' h' w' L'' c d):aZ C L h w L'' c d:=
 ⟨b.1,a.2.1.trans b.2.1,a.2.2.trans b.2.2⟩
theorem aZ.refl(a:MemL C L h w):aZ C L h w L h w:=⟨a,Pres.refl _ _,KC.refl _ _⟩
theorem lK(h:mQ v=true):v=.slice none 0 0:=by
 grind [mQ]
theorem KI(h:Rep w M p u):Rep w M (yy p) u:=by
 unfold yy;split
 .split
  .rename_i v a;cases h;rw[lK a];exact .sl0 none 0
  .exact h
 .exact h
theorem Bp(h:bR w M ps us):bR w M (ps.map yy) us:=by
 refine⟨by simpa using h.1,λi p u hp a=>?_⟩;simp only[ZW,II]at hp;obtain⟨q,hq,rfl⟩:=hp;exact KI (h.2 i q u hq a)
theorem MU(h:Rep w M p u):Rep w M (Js p) u:=by
 unfold Js;split
 .rename_i v
  split
  .rename_i a;cases h;rw[lK a];exact .sl0 none 0
  .split
   .rename_i a
    unfold Fz at a;split at a
    .rename_i cs
     have b:=h.cells;cases h;have:=lF (Bp b);simpa[Value.cells]using this
    .cases a
   .exact h
 .rename_i cs
  cases h with
  |agg _ vs d c=>exact lF (Bp ⟨d,c⟩)
 .exact h
def bW(h1 h:Hp):Prop:=∀k b,h1 k=some b->∃l,h k=some l/\(match b,l with
 |.box cs own fz,.box d c a=>d=cs/\c=own/\(fz=true->a=true)
 |.row e sz xs fz,.row m i j a=>m=e/\i=sz/\j=xs/\fz<=a
 |.mp o n es fz,.mp g p f a=>g=o/\p=n/\f=es/\(fz=true->a=true)
 |_,_=>False)
theorem bW.row(hf:bW h1 h)(b:h1 k=some (.row e sz xs fz)):∃a,h k=some (.row e sz xs a)/\fz<=a:=by
 obtain⟨c,d,f⟩:=hf k _ b
 grind
theorem bW.box(hf:bW h1 h){own fz:Bool}(b:h1 k=some (.box cs own fz)):∃a,h k=some (.box cs own a)/\(fz=true->a=true):=by
 obtain⟨c,d,e⟩:=hf k _ b
 grind
theorem bW.mp{h1 h:Hp}(hf:bW h1 h){k n:Nat}{c:IntKind}{b:List (List Int×Value)}{fz:Bool}(d:h1 k=some (.mp c n b fz)):∃a,h k=some (.mp c n b a)/\(fz=true->a=true):=by
 obtain⟨e,f,g⟩:=hf k _ d
 grind
theorem bW.refl(h:Hp):bW h h:=λk b a=>⟨b,a,by cases b<;>simp⟩
theorem bW.of_sub(hs:∀k b,h1 k=some b->h k=some b):bW h1 h:=λk b a=>⟨b,hs k b a,by cases b<;>simp⟩
theorem bW.set_row(hf:bW h1 h)(g:h1 k=some (.row e sz xs fz))(a:fz<=xs.length):bW h1 (aH h k (some (.row e sz xs xs.length))):=by
 intro q b hq;by_cases e:q=k
 .grind [aE]
 .obtain⟨c,d,f⟩:=hf q b hq
  grind [bu]
theorem bW.set_box(hf:bW h1 h){own fz:Bool}(f:h1 k=some (.box cs own fz)):bW h1 (aH h k (some (.box cs own true))):=by
 intro q b hq;by_cases e:q=k
 .grind [aE]
 .obtain⟨a,c,d⟩:=hf q b hq
  grind [bu]
theorem bW.set_mp(hf:bW h1 h){a:IntKind}{fz:Bool}(g:h1 k=some (.mp a n es fz)):bW h1 (aH h k (some (.mp a n es true))):=by
 intro q b hq;by_cases e:q=k
 .grind [aE]
 .obtain⟨c,d,f⟩:=hf q b hq
  grind [bu]
theorem nB(c:MemL C L h w)(a:h k=some (.row e sz xs fz)):(L k).isNil=true/\xs=[]\/(L k).isNil=false/\xs.length<=(L k).cap/\(L k).cap<=maxLen/\∃arr,w.heap[(L k).b]?=some (.cells arr e (0,0))/\arr.size=(L k).cap*sz/\
 ∀(i:Nat) x(j:Nat) p,xs[i]?=some x->x.cells[j]?=some p->∃u,arr[i*sz+j]?=some u/\Rep w (ak C L h) p u:=by
 obtain⟨_,_,_,d,f⟩:=c.bl k _ a
 grind
theorem u7(m:MemL C L h w)(g:h k=some (.row e sz xs fz)):
 aZ C L h w L (aH h k (some (.row e sz xs xs.length))) w/\Rep w (ak C L (aH h k (some (.row e sz xs xs.length)))) (.sl xs) ((L k).slice xs.length):=by
 have P:=m.bl k _ g;obtain⟨h1,M,G,N,O⟩:=P
 have s:∀b o,ak C L (aH h k (some (.row e sz xs xs.length))) b o->ak C L h b o:=by
  rintro b o (F|⟨q,E,hq,y,c,hf⟩)
  .exact .inl F
  .by_cases eq:q=k
   .subst eq
    rw[aE]at hq;injection hq with hq;subst hq;refine .inr ⟨q,_,g,y,c,λr=>hf ?_⟩;simp only[Blk.frz]at r|-;exact yAW r (yAr _ M)
   .rw[bu eq]at hq;exact .inr ⟨q,E,hq,y,c,hf⟩
 have a:Pres w (ak C L h) w (ak C L (aH h k (some (.row e sz xs xs.length)))):=Pres.sub s
 have R:KC L h L (aH h k (some (.row e sz xs xs.length))):=by
  intro q b hq;by_cases K:q=k
  .subst K;rw[g]at hq;injection hq with hq;subst hq;exact⟨_,aE _ _ _,rfl,rfl,yAd _,λ_=>rfl⟩
  .exact⟨b,by rw[bu K];exact hq,du _ _⟩
 refine⟨m.touch g (λ_ _ _=>rfl) (yAd _) rfl rfl rfl (λ_ _ _ _ h=>h) (λo hf=>?_) ⟨rfl,rfl,yAd _,λ_=>rfl⟩ yBi (by have H:=m.own k _ g;exact H) ?_,?_⟩
 .simp only[Blk.frz]at hf|-;exact yAW hf (yAr _ M)
 .refine⟨h1,yAd _,G,N,λn=>?_⟩
  obtain⟨A,I,arr,B,J,D⟩:=O n;refine⟨A,I,arr,B,J,λi x j p d l=>?_⟩;obtain⟨u,v,z⟩:=D i x j p d l;exact⟨u,v,z.mono a⟩
 .unfold Loc.slice
  cases n:(L k).isNil with
  |true=>rw[N n];exact .sl0 none 0
  |false=>
   obtain⟨A,I,arr,B,J,D⟩:=O n;simp only[ZY,yAi]
   have f:∀(i:Nat) x(j:Nat) p,xs[i]?=some x->x.cells[j]?=some p->∃u,arr[i*sz+j]?=some u/\Rep w (ak C L (aH h k (some (.row e sz xs xs.length)))) p u:=by
    intro i x j p d l;obtain⟨u,v,z⟩:=D i x j p d l;exact⟨u,v,z.mono a⟩
   refine .sl xs (L k).b 0 (L k).cap sz (λi j=>(arr[i*sz+j]?).getD undef) A (λi x d=>G x (In d)) ?_ ?_
   .intro i x j p d l
    obtain⟨u,v,z⟩:=f i x j p d l;refine⟨by rw[gm B];simp[v],?_⟩;rintro(F|⟨q,E,hq,y,c,hf⟩)
    .have:=m.m0 _ _ F
     rcases(m.own k _ g).row n with H|H
     all_goals grind
    .by_cases eq:q=k
     .subst eq
      rw[aE]at hq;injection hq with hq;subst hq;apply hf;simp only[Blk.frz];have hi:i<xs.length:=(th.1 d).1
      have Q:j<sz:=by rw[<-G x (In d)];exact(th.1 l).1
      have:(i+1)*sz<=xs.length*sz:=yAr _ hi
      grind
     .rw[bu eq]at hq
      exact m.sep q k E _ eq hq g y n c
   grind
theorem rv(f:MemL C L h w){fz:Bool}(e:h k=some (.box cs true fz))
 (B:∀arr ty,w.heap[(L k).b]?=some (.cells arr ty (0,0))->aB w (ak C L h) L h cs arr.toList->bR w (ak C L h) ps arr.toList):
 aZ C L h w L (aH h k (some (.box cs true true))) w/\∃u:Nat->Value,∀(j:Nat) p,ps[j]?=some p->
  (w.cell? ⟨(L k).b,0+j,none⟩=some (u j)/\¬ak C L (aH h k (some (.box cs true true))) (L k).b (0+j))/\Rep w (ak C L (aH h k (some (.box cs true true)))) p (u j):=by
 obtain⟨arr,ty,r,s⟩:=f.bl k _ e
 have g:∀b o,ak C L (aH h k (some (.box cs true true))) b o->ak C L h b o:=by
  rintro b o (v|⟨q,n,hq,G,d,hf⟩)
  .exact .inl v
  .by_cases eq:q=k
   .subst eq
    rw[aE]at hq;injection hq with hq;subst hq;exact absurd rfl hf
   .rw[bu eq]at hq;exact .inr ⟨q,n,hq,G,d,hf⟩
 have c:Pres w (ak C L h) w (ak C L (aH h k (some (.box cs true true)))):=Pres.sub g
 have y:KC L h L (aH h k (some (.box cs true true))):=by
  intro q b hq;by_cases D:q=k
  .subst D;rw[e]at hq;injection hq with hq;subst hq;exact⟨_,aE _ _ _,rfl⟩
  .exact⟨b,by rw[bu D];exact hq,du _ _⟩
 have H:aB w (ak C L (aH h k (some (.box cs true true)))) L (aH h k (some (.box cs true true))) cs arr.toList:=⟨s.1,λi p u hp m=>(s.2 i p u hp m).mono c y⟩;refine⟨f.touch e (λ_ _ _=>rfl) (yAd _) rfl rfl rfl (λ_ _ _ _ h=>h) (λ_ _=>rfl) rfl yBi (by have x:=f.own k _ e;exact x) ⟨arr,ty,r,H⟩,λj=>(arr[j]?).getD undef,λj p F=>?_⟩;have E:=B arr ty r s
 have A:j<arr.toList.length:=by rw[<-E.1];exact(th.1 F).1
 have m:arr.toList[j]?=some (arr.toList[j]):=an A
 have l:arr[j]?=some (arr.toList[j]):=by rw[<-Array.getElem?_toList];exact m
 refine⟨⟨by rw[gm r,yA2];simp only[l,yAl],?_⟩,?_⟩
 .rintro(v|⟨q,n,a,z,d,hf⟩)
  .have:=f.m0 _ _ v
   rcases f.own k _ e with x|x
   all_goals grind
  .by_cases eq:q=k
   .subst eq
    rw[aE]at a;injection a with a;subst a;exact hf rfl
   .rw[bu eq]at a
    exact f.sep q k n _ eq a e z trivial d
 .simp only[l,yAl]
  exact(E.2 j p _ F m).mono c
theorem Jy(g:MemL C L h w){fz:Bool}{x:PV}(f:h k=some (.box cs true fz))(i:x.cells.map .pv=cs):
 aZ C L h w L (aH h k (some (.box cs true true))) w/\Rep w (ak C L (aH h k (some (.box cs true true)))) (.rptr x 0) (.pointer (some ⟨(L k).b,0,none⟩)):=by
 obtain⟨a,u,e⟩:=rv g (ps:=x.cells) f (λarr ty _ d=>by rw[<-i]at d;exact aB.map_pv_inv d);exact⟨a,.rptr x (L k).b 0 0 u (λj p c=>(e j p c).1) (λj p c=>(e j p c).2)⟩
theorem HI(l:MemL C L h w){c:Nat}(m:n<=c){fz:Bool}(g:h k=some (.box cs true fz))(hn:n<=ps.length)(f:∀p∈ps,p.cells=[p])
 (hq:∀arr ty,w.heap[(L k).b]?=some (.cells arr ty (0,0))->aB w (ak C L h) L h cs arr.toList->bR w (ak C L h) ps arr.toList):
 aZ C L h w L (aH h k (some (.box cs true true))) w/\Rep w (ak C L (aH h k (some (.box cs true true)))) (.sl (ps.take n)) (.slice (some ⟨(L k).b,0,none⟩) n c):=by
 obtain⟨a,u,r⟩:=rv l g hq;refine⟨a,?_⟩
 have q:(ps.take n).length=n:=by rw[yAN];omega
 have o:∀{i:Nat}{x},(ps.take n)[i]?=some x->ps[i]?=some x:=by
  intro i x d;rw[yAw]at d;split at d
  .exact d
  .cases d
 have one:∀(i:Nat) x(j:Nat) p,ps[i]?=some x->x.cells[j]?=some p->j=0/\p=x:=by
  intro i x j p d e;rw[f x (In d)]at e
  cases j with
  |zero=>simp at e;exact⟨rfl,e.symm⟩
  |succ j=>simp at e
 have key:Rep w (ak C L (aH h k (some (.box cs true true)))) (.sl (ps.take n)) (.slice (some ⟨(L k).b,0,none⟩) (ps.take n).length c):=by
  refine .sl (ps.take n) (L k).b 0 c 1 (λi _=>u i) (by omega) (λi x d=>by rw[f x (In (o d))];rfl) ?_ ?_
  all_goals grind
 grind
theorem Jz(d:MemL C L h w){f:IntKind}{fz:Bool}(l:h k=some (.mp f n es fz)):
 aZ C L h w L (aH h k (some (.mp f n es true))) w/\Rep w (ak C L (aH h k (some (.mp f n es true)))) (.mp f n es) (.map (some (L k).b)):=by
 obtain⟨arr,clock,v,x⟩:=d.bl k _ l
 have p:∀b o,ak C L (aH h k (some (.mp f n es true))) b o->ak C L h b o:=by
  rintro b o (s|⟨q,j,hq,r,g,hf⟩)
  .exact .inl s
  .by_cases eq:q=k
   .subst eq
    rw[aE]at hq;injection hq with hq;subst hq;exact absurd rfl hf
   .rw[bu eq]at hq;exact .inr ⟨q,j,hq,r,g,hf⟩
 have c:Pres w (ak C L h) w (ak C L (aH h k (some (.mp f n es true)))):=Pres.sub p
 have m:KC L h L (aH h k (some (.mp f n es true))):=by
  intro q b hq;by_cases e:q=k
  .subst e;rw[l]at hq;injection hq with hq;subst hq;exact⟨_,aE _ _ _,rfl,rfl,rfl⟩
  grind [bu,du]
 refine⟨⟨⟨d.ext,d.m0,?_,?_,?_⟩,c,m⟩,.mp f n es _ arr clock v ?_ x⟩
 .intro q b hq
  by_cases e:q=k
  .subst e;rw[aE]at hq;injection hq with hq;subst hq;exact⟨arr,clock,v,x⟩
  .rw[bu e]at hq;exact(d.bl q b hq).mono c m (λ_=>rfl)
 .intro q y z A u hq a r i
  have lift:∀q b,aH h k (some (.mp f n es true)) q=some b->b.live (L q)->∃j,h q=some j/\j.live (L q):=by
   intro q b hq r;by_cases e:q=k
   .subst e;exact⟨_,l,trivial⟩
   grind [bu]
  obtain⟨B,d1,d2⟩:=lift q z hq r;obtain⟨D,d3,d4⟩:=lift y A a i;exact d.sep q y B D u d1 d3 d2 d4
 .intro q b hq
  by_cases e:q=k
  .subst e;rw[aE]at hq;injection hq with hq;subst hq;have:=d.own q _ l;exact this
  .rw[bu e]at hq;exact d.own q b hq
 .rintro(s|⟨q,j,a,i,g,hf⟩)
  .have:=d.m0 _ _ s
   have E:=d.own k _ l
   grind [fw]
  .by_cases eq:q=k
   .subst eq
    rw[aE]at a;injection a with a;subst a;exact hf rfl
   .rw[bu eq]at a
    exact d.sep q k j _ eq a l i trivial g
theorem cE(h:Hp)(W a:List (Nat×Blk)):ah h (W++a)=ah (ah h W) a:=by simp[ah,yB1]
theorem kr(h:Hp)(k:Nat)(b:Blk):ah h [(k,b)]=aH h k (some b):=rfl
theorem iR(h:lG p=true):p.cells=[p]:=by
 cases p with
 |val v=>cases v<;>simp_all[lG,PV.cells,Value.cells,Value.oneCell']
 |agg _=>simp[lG]at h
 |tup _=>simp[lG]at h
 |_=>rfl
theorem D3:∀{cs:List PV}{vs:List Value},fe cs=some vs->cs=vs.map .val
 |[],vs,h=>by simp[fe]at h;subst h;rfl
 |.val v::r,vs,h=>by
  simp only[fe,II]at h;obtain⟨a,h',rfl⟩:=h;rw[D3 h'];rfl
 |.agg _::_,_,h=>by simp[fe]at h
 |.sl _::_,_,h=>by simp[fe]at h
 |.rptr _ _::_,_,h=>by simp[fe]at h
 |.fn _ _ _::_,_,h=>by simp[fe]at h
 |.tup _::_,_,h=>by simp[fe]at h
 |.ifc _ _::_,_,h=>by simp[fe]at h
 |.hd _::_,_,h=>by simp[fe]at h
 |.mp _ _ _::_,_,h=>by simp[fe]at h
theorem kX(ps:List PV):(kq ps).cells=ps:=by
 unfold kq;split
 .rename_i vs a;simp[PV.cells,Value.cells,D3 a]
 .rfl
section
variable {C:Cx} {L:Nat->Loc} {h1 h:Hp} {w:World}
theorem Bq(d:MemL C L h w)(hf:bW h1 h)(g:RepA w (ak C L h) L h x u)(e:lH h1 x=some (p,W)):
 aZ C L h w L (ah h W) w/\Rep w (ak C L (ah h W)) p u/\bW h1 (ah h W):=by
 cases x with
 |pv q=>
  simp only[lH,Z9,yAj]at e;obtain⟨rfl,rfl⟩:=e
  cases g with
  |pv o=>exact⟨aZ.refl d,MU o,hf⟩
 |arr k n=>
  simp only[lH]at e;split at e
  .rename_i s sz xs fz c
   split at e
   .rename_i j
    simp only[Z9,yAj]at e;obtain⟨rfl,rfl⟩:=e;obtain⟨f,a,l⟩:=hf.row c
    cases g with
    |arr b m r=>
     rw[a]at b;injection b with b;injection b with a1 a2 a3 a4;subst a1;subst a2;subst a3;subst a4;have:=u7 d a;rw[r j,<-j];have v:=(d.bl k _ a).2.1;exact⟨this.1,this.2,hf.set_row c (by omega)⟩
   .cases e
  .cases e
 |ptr=>simp[lH]at e
 |eptr=>simp[lH]at e
 |agg=>simp[lH]at e
 |fn=>simp[lH]at e
 |tup=>simp[lH]at e
 |undef=>simp[lH]at e
 |ext y=>
  cases y with
  |barr=>simp[lH]at e
  |suf=>simp[lH]at e
  |mp k=>
   simp only[lH]at e;split at e
   .rename_i z n es fz c
    simp only[Z9,yAj]at e;obtain⟨rfl,rfl⟩:=e;obtain⟨f,a,_⟩:=hf.mp c;have:=Jz d a
    cases g with
    |ext i=>cases i with
     |mp _=>exact⟨this.1,this.2,hf.set_mp c⟩
   .cases e
theorem aB.mono{w:World}{L:Nat->Loc}{h:Hp}(hp:Pres w M w' M')(c:KC L h L' h'){ps:List AV}(a:aB w M L h ps us):aB w' M' L' h' ps us:=
 ⟨a.1,λi p u h1 b=>(a.2 i p u h1 b).mono hp c⟩
theorem tE:∀{xs:List AV}{h:Hp}(_:MemL C L h w)(_:bW h1 h){us:List Value}(_:aB w (ak C L h) L h xs us){ps:List PV}{W:List (Nat×Blk)}(_:mY h1 xs=some (ps,W)),
 aZ C L h w L (ah h W) w/\bR w (ak C L (ah h W)) ps us/\bW h1 (ah h W)
 |[],h,b,hf,us,c,ps,W,e=>by
  simp only[mY,Z9,yAj]at e;obtain⟨rfl,rfl⟩:=e;rw[c.nil_inv];exact⟨aZ.refl b,bR.nil,hf⟩
 |x::r,h,b,hf,us,c,ps,W,e=>by
  simp only[mY]at e;split at e
  .rename_i p s o v k l
   simp only[Z9,yAj]at e;obtain⟨rfl,rfl⟩:=e;obtain⟨u,q,rfl,n,m⟩:=c.cons_inv;obtain⟨a,f,g⟩:=Bq b hf n k;obtain⟨d,i,j⟩:=tE a.1 g (m.mono a.2.1 a.2.2) l;rw[cE];exact⟨a.trans d,.cons (f.mono d.2.1) i,j⟩
  .cases e
theorem oc(l:MemL C L h w)(hf:bW h1 h)(H:RepA w (ak C L h) L h x u)(e:tC h1 x=some (p,W)):
 aZ C L h w L (ah h W) w/\Rep w (ak C L (ah h W)) p u/\bW h1 (ah h W):=by
 unfold tC at e;split at e
 .rename_i k n J
  split at e
  .rename_i cs fz j
   have main:∀{ps:List PV}{c:List (Nat×Blk)},n<=cs.length->mY h1 cs=some (ps,c)->ps.all lG=true->W=c++[(k,.box cs true true)]->p=.sl (ps.take n)->aZ C L h w L (ah h W) w/\Rep w (ak C L (ah h W)) p u/\bW h1 (ah h W):=by
    intro ps c F m G B D;subst B;subst D;obtain⟨o,b,_⟩:=hf.box j;obtain⟨arr,ty,f,a⟩:=l.bl k _ b;obtain⟨y,i,z⟩:=tE l hf a m;obtain⟨E,r,_⟩:=z.box j
    have g:n<=ps.length:=by rw[i.1,<-a.1];exact F
    rw[cE]
    cases H with
    |ext v=>cases v with
     |barr q _=>
      have:=HI y.1 q (ps:=ps) r g (λp hp=>iR (IV.1 G p hp)) (λA I d _=>by rw[f]at d;injection d with d;injection d with d;subst d;exact i);exact⟨y.trans this.1,this.2,z.set_box j⟩
   have s:∀{ps:List PV}{c:List (Nat×Blk)},mY h1 cs=some (ps,c)->ps.length=cs.length:=by
    intro ps c m;obtain⟨o,b,_⟩:=hf.box j;obtain⟨arr,ty,f,a⟩:=l.bl k _ b;obtain⟨_,i,_⟩:=tE l hf a m;rw[i.1,<-a.1]
   grind
  .cases e
 grind [Bq]
theorem od:∀{xs:List AV}{h:Hp}(_:MemL C L h w)(_:bW h1 h){us:List Value}(_:aB w (ak C L h) L h xs us){ps:List PV}{W:List (Nat×Blk)}(_:qd h1 xs=some (ps,W)),
 aZ C L h w L (ah h W) w/\bR w (ak C L (ah h W)) ps us/\bW h1 (ah h W)
 |[],h,b,hf,us,c,ps,W,e=>by
  simp only[qd,Z9,yAj]at e;obtain⟨rfl,rfl⟩:=e;rw[c.nil_inv];exact⟨aZ.refl b,bR.nil,hf⟩
 |x::r,h,b,hf,us,c,ps,W,e=>by
  simp only[qd]at e;split at e
  .rename_i p s o v k l
   simp only[Z9,yAj]at e;obtain⟨rfl,rfl⟩:=e;obtain⟨u,q,rfl,n,m⟩:=c.cons_inv;obtain⟨a,f,g⟩:=oc b hf n k;obtain⟨d,i,j⟩:=od a.1 g (m.mono a.2.1 a.2.2) l;rw[cE];exact⟨a.trans d,.cons (f.mono d.2.1) i,j⟩
  .cases e
theorem wM(i:MemL C L h w)(hf:bW h1 h)(A:RepA w (ak C L h) L h x u)(e:rr h1 x=some (p,W)):
 aZ C L h w L (ah h W) w/\Rep w (ak C L (ah h W)) p u/\bW h1 (ah h W):=by
 unfold rr at e;split at e
 .simp only[Z9,yAj]at e
  obtain⟨rfl,rfl⟩:=e
  cases A with
  |pv K=>exact⟨aZ.refl i,K,hf⟩
 .rename_i k
  split at e
  .rename_i cs fz g
   obtain⟨H,c,_⟩:=hf.box g
   have key:∀y:PV,y.cells.map .pv=cs->aZ C L h w L (ah h [(k,.box cs true true)]) w/\Rep w (ak C L (ah h [(k,.box cs true true)])) (.rptr y 0) u/\bW h1 (ah h [(k,.box cs true true)]):=by
    intro y l;obtain⟨f,n⟩:=Jy i c l
    cases A with
    |ptr _=>exact⟨f,n,hf.set_box g⟩
   split at e
   .rename_i ps hp
    have J:=pK hp;split at e
    .rename_i hq
     simp only[Z9,yAj]at e;obtain⟨rfl,rfl⟩:=e
     exact key _ (by rw[J];congr 1;cases ps with
      |nil=>simp[ju]at hq
      |cons q r=>cases r with
       |nil=>simp only[ju]at hq;exact iR hq
       |cons _ _=>simp[ju]at hq)
    grind [Option.some.injEq,kX]
   .split at e
    .rename_i ps m G
     obtain⟨arr,ty,o,s⟩:=i.bl k _ c;obtain⟨f,n,B⟩:=od i hf s G;obtain⟨I,z,_⟩:=B.box g
     have d:∀y:PV,y.cells=ps->aZ C L h w L (ah h (m++[(k,.box cs true true)])) w/\Rep w (ak C L (ah h (m++[(k,.box cs true true)]))) (.rptr y 0) u/\bW h1 (ah h (m++[(k,.box cs true true)])):=by
      intro y l;obtain⟨F,N,E⟩:=rv f.1 (ps:=ps) z (λD M a _=>by rw[o]at a;injection a with a;injection a with a;subst a;exact n);rw[cE]
      cases A with
      |ptr _=>exact⟨f.trans F,.rptr y (L k).b 0 0 N (λj p v=>(E j p (l▸v)).1) (λj p v=>(E j p (l▸v)).2),B.set_box g⟩
     split at e
     .rename_i hq
      simp only[Z9,yAj]at e;obtain⟨rfl,rfl⟩:=e
      exact d _ (by cases ps with
       |nil=>simp[ju]at hq
       |cons q r=>cases r with
        |nil=>simp only[ju]at hq;exact iR hq
        |cons _ _=>simp[ju]at hq)
     grind [Option.some.injEq,kX]
    .cases e
  .cases e
 .cases e
theorem qf:∀{xs:List AV}{h:Hp}(_:MemL C L h w)(_:bW h1 h){us:List Value}(_:aB w (ak C L h) L h xs us){ps:List PV}{W:List (Nat×Blk)}(_:kV h1 xs=some (ps,W)),
 aZ C L h w L (ah h W) w/\bR w (ak C L (ah h W)) ps us/\bW h1 (ah h W)
 |[],h,b,hf,us,c,ps,W,e=>by
  simp only[kV,Z9,yAj]at e;obtain⟨rfl,rfl⟩:=e;rw[c.nil_inv];exact⟨aZ.refl b,bR.nil,hf⟩
 |x::r,h,b,hf,us,c,ps,W,e=>by
  simp only[kV]at e;split at e
  .rename_i p s o v k l
   simp only[Z9,yAj]at e;obtain⟨rfl,rfl⟩:=e;obtain⟨u,q,rfl,n,m⟩:=c.cons_inv;obtain⟨a,f,g⟩:=wM b hf n k;obtain⟨d,i,j⟩:=qf a.1 g (m.mono a.2.1 a.2.2) l;rw[cE];exact⟨a.trans d,.cons (f.mono d.2.1) i,j⟩
  .cases e
theorem JA(n:MemL C L h w)(hf:bW h1 h)(o:RepA w (ak C L h) L h x u)(e:CQ h1 x=some (p,W)):
 aZ C L h w L (ah h W) w/\Rep w (ak C L (ah h W)) p u/\bW h1 (ah h W):=by
 unfold CQ at e;split at e
 .rename_i cs
  split at e
  .rename_i ps y c
   simp only[Z9,yAj]at e;obtain⟨rfl,rfl⟩:=e
   cases o with
   |agg _ vs i s=>
    obtain⟨a,b,j⟩:=od n hf ⟨i,s⟩ c
    grind [lF]
  .cases e
 .rename_i f first m
  split at e
  .rename_i ps z qs A c r
   simp only[Z9,yAj]at e;obtain⟨rfl,rfl⟩:=e
   cases o with
   |fn _ _ _ vs us i v d g=>
    obtain⟨a,b,j⟩:=od n hf ⟨i,d⟩ c;obtain⟨k,l,q⟩:=qf a.1 j (aB.mono a.2.1 a.2.2 ⟨v,g⟩) r;rw[cE];exact⟨a.trans k,.fn f ps qs vs us (b.1.trans rfl) l.1 (b.mono k.2.1).2 l.2,q⟩
  .cases e
 grind [oc]
theorem tF:∀{xs:List AV}{h:Hp}(_:MemL C L h w)(_:bW h1 h){us:List Value}(_:aB w (ak C L h) L h xs us){ps:List PV}{W:List (Nat×Blk)}(_:po h1 xs=some (ps,W)),
 aZ C L h w L (ah h W) w/\bR w (ak C L (ah h W)) ps us/\bW h1 (ah h W)
 |[],h,b,hf,us,c,ps,W,e=>by
  simp only[po,Z9,yAj]at e;obtain⟨rfl,rfl⟩:=e;rw[c.nil_inv];exact⟨aZ.refl b,bR.nil,hf⟩
 |x::r,h,b,hf,us,c,ps,W,e=>by
  simp only[po]at e;split at e
  .rename_i p s o v k l
   simp only[Z9,yAj]at e;obtain⟨rfl,rfl⟩:=e;obtain⟨u,q,rfl,n,m⟩:=c.cons_inv;obtain⟨a,f,g⟩:=JA b hf n k;obtain⟨d,i,j⟩:=tF a.1 g (m.mono a.2.1 a.2.2) l;rw[cE];exact⟨a.trans d,.cons (f.mono d.2.1) i,j⟩
  .cases e
theorem lL(l:MemL C L h w)(hf:bW h1 h)(m:RepA w (ak C L h) L h x u)(e:frz h1 x=some (p,W)):
 aZ C L h w L (ah h W) w/\Rep w (ak C L (ah h W)) p u/\bW h1 (ah h W):=by
 unfold frz at e;split at e
 .rename_i cs
  split at e
  .rename_i ps s c
   simp only[Z9,yAj]at e;obtain⟨rfl,rfl⟩:=e
   cases m with
   |agg _ vs d i=>
    obtain⟨a,b,g⟩:=tF l hf ⟨d,i⟩ c
    grind [lF]
  .cases e
 .rename_i f first r
  split at e
  .rename_i ps A qs B c y
   simp only[Z9,yAj]at e;obtain⟨rfl,rfl⟩:=e
   cases m with
   |fn _ _ _ vs us d z j k=>
    obtain⟨a,b,g⟩:=od l hf ⟨d,j⟩ c;obtain⟨o,q,v⟩:=qf a.1 g (aB.mono a.2.1 a.2.2 ⟨z,k⟩) y;rw[cE];exact⟨a.trans o,.fn f ps qs vs us (b.1.trans rfl) q.1 (b.mono o.2.1).2 q.2,v⟩
  .cases e
 .rename_i vs
  split at e
  .rename_i ps s c
   simp only[Z9,yAj]at e;obtain⟨rfl,rfl⟩:=e
   cases m with
   |tup _ n d i=>
    obtain⟨a,b,g⟩:=tF l hf ⟨d,i⟩ c;exact⟨a,.tup ps n b.1 b.2,g⟩
  .cases e
 grind [oc]
theorem wj(D:MemL C L h w)(hs:∀k b,h1 k=some b->h k=some b)(A:RepA w (ak C L h) L h x u)(e:fJ h1 x=some (cs,off)):
 ∃b o,u=.pointer (some ⟨b,o+off,none⟩)/\∀(j:Nat) c,cs[j]?=some c->∃v,w.cell? ⟨b,o+j,none⟩=some v/\RepA w (ak C L h) L h c v:=by
 cases x with
 |ptr k f=>
  simp only[fJ]at e;split at e
  .rename_i F own fz s
   simp only[Z9,yAj]at e;obtain⟨rfl,rfl⟩:=e;obtain⟨arr,ty,r,B⟩:=D.bl k _ (hs _ _ s)
   cases A with
   |ptr _=>
    refine⟨(L k).b,0,by simp,λj c d=>?_⟩
    have z:j<arr.toList.length:=by rw[<-B.1];exact(th.1 d).1
    have m:arr.toList[j]?=some (arr.toList[j]):=an z;exact⟨_,by rw[gm r,yA2,<-Array.getElem?_toList];exact m,B.2 j c _ d m⟩
  .cases e
 |pv p=>
  cases p with
  |rptr y f=>
   simp only[fJ,Z9,yAj]at e;obtain⟨rfl,rfl⟩:=e
   cases A with
   |pv l=>cases l with
    |rptr _ b o _ N H l=>
     refine⟨b,o,rfl,λj c d=>?_⟩;simp only[ZW,II]at d;obtain⟨q,hq,rfl⟩:=d;exact⟨N j,(H j q hq).1,.pv (l j q hq)⟩
  |_=>simp[fJ]at e
 |eptr k n i f=>
  simp only[fJ]at e;split at e
  .rename_i O sz xs fz s
   split at e
   .rename_i I
    split at e
    .rename_i y M
     simp only[Z9,yAj]at e;obtain⟨rfl,rfl⟩:=e;have g:=hs _ _ s
     cases A with
     |eptr a J m=>
      rw[g]at a;injection a with a;injection a with a1 a2 a3 a4;subst a1;subst a2;subst a3;subst a4;obtain⟨E,rfl⟩:=m I;rcases nB D g with⟨P,_⟩|⟨_,_,_,arr,r,_,G⟩
      .grind
      .refine⟨(L k).b,i*sz,rfl,λj c d=>?_⟩
       simp only[ZW,II]at d;obtain⟨q,hq,rfl⟩:=d;obtain⟨v,K,l⟩:=G i y j q M hq;exact⟨v,by rw[gm r];exact K,.pv l⟩
    .cases e
   .cases e
  .cases e
 |arr=>simp[fJ]at e
 |agg=>simp[fJ]at e
 |fn=>simp[fJ]at e
 |tup=>simp[fJ]at e
 |ext=>simp[fJ]at e
 |undef=>simp[fJ]at e
theorem FE(e:Bg h1 sz x=some p):fJ h1 x=some (p.cells.map .pv,0)/\pL p=true/\p.cells.length=sz:=by
 unfold Bg at e;split at e
 .rename_i y
  split at e
  .rename_i a
   injection e with e;subst e;simp only[An,yAU]at a;exact⟨rfl,a.1,a.2⟩
  .cases e
 .rename_i k n i
  split at e
  .rename_i b s xs fz c
   split at e
   .rename_i d
    split at e
    .rename_i y a
     split at e
     all_goals simp_all[An,fJ]
    .cases e
   .cases e
  .cases e
 .cases e
theorem aX(a:Rep w M (.val v) u):u=v:=by cases a;rfl
theorem FF(c:pL p=true)(a:bR w M p.cells us):Rep w M p (.agg us.toArray):=by
 cases p with
 |agg cs=>exact .agg cs us a.1 a.2
 |val v=>
  cases v with
  |agg arr=>
   have:us=arr.toList:=by
    apply yAK;intro i;by_cases hi:i<us.length
    .have b:=a.1
     simp only[PV.cells,Value.cells,yAz,yA7]at b;have d:arr.toList[i]?=some (arr.toList[i]'(by simp;omega)):=an _;have e:=a.2 i (.val (arr.toList[i]'(by simp;omega))) us[i] (by simp[PV.cells,Value.cells,d]) (an hi)
     grind [List.getElem?_eq_getElem,aX]
    .rw[yAf (by omega),yAf]
     have b:=a.1;simp only[PV.cells,Value.cells,yAz]at b;omega
   rw[this];exact .val _
  |_=>simp[pL]at c
 |_=>simp[pL]at c
theorem CW(d:∀(j:Nat) c,cs[j]?=some c->∃v,w.cell? ⟨b,o+j,none⟩=some v/\RepA w M L h c v):
 ∃us:List Value,us.length=cs.length/\(∀(j:Nat) v,us[j]?=some v->w.cell? ⟨b,o+j,none⟩=some v)/\aB w M L h cs us:=by
 induction cs generalizing o with
 |nil=>exact⟨[],rfl,λj v a=>by simp at a,aB.nil⟩
 |cons c r ih=>
  obtain⟨v,k,g⟩:=d 0 c rfl;obtain⟨us,h1,i,f⟩:=ih (o:=o+1) (λj e a=>by have:=d (j+1) e (by simpa using a);rwa [show o+(j+1)=o+1+j from by omega]at this);refine⟨v::us,by simp[h1],λj l a=>?_,.cons g f⟩
  grind
theorem gZ(e:ag P t=some ti):∃i d,P.info? t=some i/\P.underlying t=some d/\ti.size=i.size/\ti.zero=i.zero/\
 ti.kind=(match d with
  |.struct a=>.struct (a.toList.map λf=>(f.offset,oO P f.type))
  |.array n e=>.array n (oO P e)
  |.slice e=>match P.info? e with
   |some j=>.slice e j.size j.bytes j.zero
   |none=>.one
  |_=>.one):=by
 grind [ag]
theorem Br(e:ag P t=some ti):mP P t=true:=by
 grind [ag]
theorem cH{d:TypeDesc}(e:P.underlying t=some d)(w:World):(underlying t).run P w=.ok d w:=by
 simp[underlying,program,Sem.run,e]
theorem lM{i:TypeInfo}(e:P.info? t=some i)(w:World):(typeInfo t).run P w=.ok i w:=by
 simp[typeInfo,program,Sem.run,e]
theorem fZ{i:TypeInfo}(e:P.info? t=some i)(w:World):(sizeOf t).run P w=.ok i.size w:=by
 simp[sizeOf,lM e]
theorem D4(e:ag P t=some ti)(w:World):(isAgg t).run P w=.ok ti.kind.isAgg w:=by
 obtain⟨i,d,_,b,_,_,c⟩:=gZ e;rw[c];unfold isAgg;rw[Sem.run_bind,cH b];simp only[Result.andThen_ok]
 cases d<;>first|rfl|skip
 rename_i a
 show Result.ok false w=.ok (TK.isAgg (match P.info? a with
  |some j=>TK.slice a j.size j.bytes j.zero
  |none=>TK.one)) w
 split<;>rfl
theorem wN(E:MemL C L h w)(hs:∀k b,h1 k=some b->h k=some b)(z:ag C.P t=some ti){v:AV}(F:RepA w (ak C L h) L h x u)(e:wI ti x h1=some v):
 ∃r,(Instr.loadAt t u).run C.P w=.ok r w/\RepA w (ak C L h) L h v r:=by
 obtain⟨i,d,hi,hd,y,_,_⟩:=gZ z;unfold wI at e;split at e
 .rename_i g
  have key:∀cs off,fJ h1 x=some (cs,off)->off+ti.size<=cs.length->∃us,(Instr.loadAt t u).run C.P w=.ok (.agg us.toArray) w/\aB w (ak C L h) L h ((cs.drop off).take ti.size) us:=by
   intro cs off n M;obtain⟨b,o,rfl,a⟩:=wj E hs F n
   have f:∀(j:Nat) c,((cs.drop off).take ti.size)[j]?=some c->∃v,w.cell? ⟨b,(o+off)+j,none⟩=some v/\RepA w (ak C L h) L h c v:=by
    grind
   obtain⟨us,K,A,N⟩:=CW f;refine⟨us,?_,N⟩
   have m:us.length=i.size:=by rw[K,<-y,yAN,List.length_drop];omega
   simp only[Instr.loadAt,Instr.sureAddr,pure_bind,loadVar,Sem.run_bind,D4 z,g,Result.andThen_ok,yAn,fZ hi];rw[<-m,run_loadCells_list w _ us (λj v J=>by rw[gG];exact A j v J)];rfl
  split at e
  .rename_i p O
   injection e with e;subst e;obtain⟨G,H,B⟩:=FE O;obtain⟨us,I,D⟩:=key _ _ G (by simp[B]);refine⟨_,I,.pv (FF H ?_)⟩;rw[yCh,yAu (by simp[B])]at D;exact D.map_pv_inv
  grind [tB]
 .rename_i g
  split at e
  .rename_i cs off n
   obtain⟨b,o,rfl,a⟩:=wj E hs F n;obtain⟨r,q,s⟩:=a off v e;refine⟨r,?_,s⟩
   have l:ti.kind.isAgg=false:=by simpa using g
   simp only[Instr.loadAt,Instr.sureAddr,pure_bind,loadVar,Sem.run_bind,D4 z,l,Result.andThen_ok,ZY,yAi,run_load,q]
  .cases e
end
theorem MemL.touch_pk(H:MemL C L h w){ab blk':Blk}(m:h k=some ab)
 (p:∀b,b<w.heap.size->(ab.live (L k)->b≠(L k).b)->w'.heap[b]?=w.heap[b]?)
 (hpr:∀o v,ab.live (L k)->ab.frz o->w.cell? ⟨(L k).b,o,none⟩=some v->w'.cell? ⟨(L k).b,o,none⟩=some v)(s:∀o,ab.frz o->blk'.frz o)(G:eY ab (L k) blk' (L k))
 (x:blk'.live (L k)↔ab.live (L k))(y:∀z n es,ab≠.mp z n es true:=by intro _ _ _ h;cases h):Pres w (ak C L h) w' (ak C L (aH h k (some blk')))/\KC L h L (aH h k (some blk')):=by
 have u:KC L h L (aH h k (some blk')):=by
  intro q b hq
  grind [aE,bu,du]
 have A:∀b o,ak C L (aH h k (some blk')) b o->ak C L h b o:=by
  rintro b o (E|⟨q,D,hq,f,j,hf⟩)
  .exact .inl E
  .by_cases e:q=k
   .subst e
    rw[aE]at hq;injection hq with hq;subst hq;exact .inr ⟨q,ab,m,x.1 f,j,λr=>hf (s o r)⟩
   .rw[bu e]at hq
    exact .inr ⟨q,D,hq,f,j,hf⟩
 refine⟨⟨?_,λb arr c a l=>⟨?_,λg=>l (A b 0 g)⟩⟩,u⟩
 case refine_2=>
  have d:=yw a;by_cases f:ab.live (L k)
  .by_cases e:b=(L k).b
   .subst e
    have B:=H.bl k ab m
    cases ab with
    |box cs own fz=>obtain⟨_,_,e,_⟩:=B;rw[e]at a;cases a
    |row e sz xs fz=>obtain⟨_,_,_,_,F⟩:=B;obtain⟨_,_,_,e,_⟩:=F f;rw[e]at a;cases a
    |mp z n es fz=>
     cases fz with
     |true=>exact absurd rfl (y z n es)
     |false=>exact absurd (Or.inr ⟨k,_,m,f,rfl,by simp[Blk.frz]⟩) l
   .rw[p b d (λ_=>e)];exact a
  .rw[p b d (λi=>absurd i f)];exact a
 intro b o v a l;have d:=CP a;refine⟨?_,λg=>l (A b o g)⟩;by_cases f:ab.live (L k)
 .by_cases e:b=(L k).b
  .subst e
   by_cases hf:ab.frz o
   .grind
   .exact absurd (Or.inr ⟨k,ab,m,f,rfl,hf⟩) l
  .simp only[World.cell?,p b d (λ_=>e)]at a|-;exact a
 .simp only[World.cell?,p b d (λi=>absurd i f)]at a|-;exact a
section
variable {C:Cx} {L:Nat->Loc} {h1 h:Hp} {w:World}
theorem qg(hs:∀k b,h1 k=some b->h k=some b)(d:RepA w M L h x u)(e:ik h1 x=some cs):aB w M L h cs u.cells.toList:=by
 have one:∀{q:AV}{v:Value},RepA w M L h q v->aB w M L h [q] [v]:=λhq=>.cons hq .nil
 cases x with
 |undef=>simp[ik]at e
 |eptr=>simp[ik]at e
 |arr k n=>
  simp only[ik]at e;split at e
  .rename_i G sz xs fz l
   split at e
   .rename_i D
    injection e with e;subst e;have r:=hs _ _ l;have g:=d
    cases d with
    |arr c E z=>
     rw[r]at c;injection c with c;injection c with a1 a2 a3 a4;subst a1;subst a2;subst a3;subst a4;have A:=z D;subst A
     have:((L k).slice n).cells.toList=[(L k).slice n]:=by unfold Loc.slice;split<;>rfl
     grind
   .cases e
  .cases e
 |pv p=>
  simp only[ik,Z9]at e;subst e
  cases d with
  |pv F=>exact aB.map_pv F.cells
 |ptr k off=>
  simp only[ik,Z9]at e;subst e
  cases d with
  |ptr l=>exact one (.ptr l)
 |agg B=>
  simp only[ik,Z9]at e;subst e
  cases d with
  |agg _ vs m o=>exact⟨by simpa[AV.cells,Value.cells]using m,λi p u hp z=>o i p u (by simpa[AV.cells]using hp) (by simpa[Value.cells]using z)⟩
 |fn f first j=>
  simp only[ik,Z9]at e;subst e
  cases d with
  |fn _ _ _ vs us m l a b=>exact one (.fn f first j vs us m l a b)
 |tup vs=>
  simp only[ik,Z9]at e;subst e
  cases d with
  |tup _ us m o=>exact one (.tup vs us m o)
 |ext y=>
  simp only[ik,Z9]at e;subst e
  cases d with
  |ext g=>
   have C:u.cells.toList=[u]:=by
    cases g with
    |suf s _ _ _ _=>obtain⟨_,_,_,rfl⟩:=s;rfl
    |_=>rfl
   rw[C];exact one (.ext g)
theorem u9(a:Rep w M p u)(b:lG p=true):u.oneCell'=true:=by
 cases a<;>simp_all[lG,Value.oneCell']
theorem JB(hs:∀k b,h1 k=some b->h k=some b)(d:RepA w M L h x u)(a:wH h1 x=true):u.oneCell'=true:=by
 cases d with
 |pv d=>exact u9 d a
 |ptr=>rfl
 |@arr k n e sz fz xs u i q j=>
  simp only[wH]at a;split at a
  .rename_i p m o g c
   have:=hs _ _ c;rw[i]at this;injection this with this;injection this with a1 a2 a3 a4;subst a3;rw[j (by simpa using a)];unfold Loc.slice;split<;>rfl
  .cases a
 |eptr=>simp[wH]at a
 |agg=>simp[wH]at a
 |fn=>rfl
 |tup=>simp[wH]at a
 |ext l=>cases l with
   |suf f _ _ _ _=>obtain⟨_,_,_,rfl⟩:=f;rfl
   |_=>rfl
 |undef=>simp[wH]at a
theorem aB.take_{ps:List AV}(b:aB w M L h ps us)(n:Nat):aB w M L h (ps.take n) (us.take n):=by
 refine⟨by simp[b.1],λi p u hp a=>?_⟩;rw[yAw]at hp a;split at hp
 .rename_i hi;rw[yAb hi]at a;exact b.2 i p u hp a
 .cases hp
theorem aB.drop_{ps:List AV}(a:aB w M L h ps us)(n:Nat):aB w M L h (ps.drop n) (us.drop n):=by
 refine⟨by simp[a.1],λi p u hp b=>?_⟩;rw[yAY]at hp b;exact a.2 _ p u hp b
theorem aB.splice_{ps qs:List AV}(a:aB w M L h ps us)(hq:aB w M L h qs vs)(off:Nat):aB w M L h (cS ps off qs) (cS us off vs):=by
 unfold cS;rw[hq.1];exact((a.take_ off).append hq).append (a.drop_ _)
theorem zG(k:ag P t=some ti){ty:Nat}{a:Array Value}(g:w.heap[b]?=some (.cells a ty (0,0)))(f:v.cells.size=ti.size)(c:o+v.cells.size<=a.size)
 (h1:∀u∈v.cells.toList,u.oneCell'=true):(Instr.storeAt t (.pointer (some ⟨b,o,none⟩)) v).run P w=.ok () (w.setRow b (cS a.toList o v.cells.toList).toArray):=by
 obtain⟨i,d,hi,hd,j,_,_⟩:=gZ k;have:=run_storeCells_at P b o ty v.cells.toList 0 a w g (by simpa using c) h1
 have e:¬v.cells.size≠i.size:=by simp[f,j]
 simp only[Instr.storeAt,Instr.sureAddr,pure_bind,storeVar,Sem.run_bind,fZ hi,Result.andThen_ok,e,yAi,this];simp[cS]
theorem KJ(f:MemL C L h w){a:List AV}{own:Bool}(e:h k=some (.box cs own false))(r:ag C.P t=some ti)
 (j:aB w (ak C L h) L h a u.cells.toList)(y:a.length=ti.size)(p:off+a.length<=cs.length)(c:∀x∈u.cells.toList,x.oneCell'=true):
 ∃w',(Instr.storeAt t (.pointer (some ⟨(L k).b,off,none⟩)) u).run C.P w=.ok () w'/\aZ C L h w L (aH h k (some (.box (cS cs off a) own false))) w':=by
 obtain⟨arr,ty,g,i⟩:=f.bl k _ e
 have s:u.cells.size=a.length:=by have:=j.1;simp at this;omega
 have q:arr.size=cs.length:=by have:=i.1;simp at this;omega
 refine⟨_,zG r g (by omega) (by omega) c,?_⟩;have l:∀b,b<w.heap.size->((Blk.box cs own false).live (L k)->b≠(L k).b)->(w.setRow (L k).b (cS arr.toList off u.cells.toList).toArray).heap[b]?=w.heap[b]?:=λb _ n=>setRow_other w _ b _ (n trivial);have d:=f.touch_pk (blk':=.box (cS cs off a) own false) e l (λo v _ hf _=>by cases hf) (λo hf=>by cases hf) rfl yBi;refine f.touch e l (by simp) rfl rfl rfl (λo v _ hf _=>by cases hf) (λo hf=>by cases hf) rfl yBi (by have m:=f.own k _ e;cases own<;>exact m) ?_;refine⟨_,ty,setRow_heap w _ arr _ ty _ g,?_⟩;have:=(i.splice_ j off).mono d.1 d.2;omega
theorem D5(G:MemL C L h w){i:Nat}{y q:PV}(F:h k=some (.row e sz xs fz))(hi:xs[i]?=some y)(I:fz<=i)(c:(L k).isNil=false)(ht:ag C.P t=some ti)
 {u:Value}{ps:List PV}(T:bR w (ak C L h) ps u.cells.toList)(hl:ps.length=ti.size)(ay:off+ps.length<=sz)(A:∀x∈u.cells.toList,x.oneCell'=true)(V:q.cells=cS y.cells off ps):
 ∃w',(Instr.storeAt t (.pointer (some ⟨(L k).b,i*sz+off,none⟩)) u).run C.P w=.ok () w'/\aZ C L h w L (aH h k (some (.row e sz (xs.set i q) fz))) w':=by
 obtain⟨Z,g2,g3,g4,g5⟩:=G.bl k _ F;obtain⟨a1,W,arr,E,X,H⟩:=g5 c
 have a6:u.cells.size=ps.length:=by have:=T.1;simp at this;omega
 have ad:i<xs.length:=(th.1 hi).1
 have z:(i+1)*sz<=arr.size:=by rw[X];exact yAr _ (by omega)
 rw[yAM]at z
 have s:i*sz+off+u.cells.size<=arr.size:=by omega
 refine⟨_,zG ht E (by omega) s A,?_⟩;have U:∀b,b<w.heap.size->((Blk.row e sz xs fz).live (L k)->b≠(L k).b)->(w.setRow (L k).b (cS arr.toList (i*sz+off) u.cells.toList).toArray).heap[b]?=w.heap[b]?:=λb _ hb=>setRow_other w _ b _ (hb c);have R:fz*sz<=i*sz:=yAr _ I
 have f:∀o,o<i*sz+off\/i*sz+off+u.cells.size<=o->(cS arr.toList (i*sz+off) u.cells.toList)[o]?=arr[o]?:=by
  intro o M;unfold cS;rcases M with M|M
  .grind
  grind [List.getElem?_append_right,List.length_append,List.length_take,Array.length_toList]
 have ax:∀j,j<u.cells.size->(cS arr.toList (i*sz+off) u.cells.toList)[i*sz+off+j]?=u.cells[j]?:=by
  intro j a;unfold cS
  grind [List.append_assoc,List.getElem?_append_right,List.getElem?_append_left,List.length_take,Array.length_toList]
 have hpr:∀o v,(Blk.row e sz xs fz).live (L k)->(Blk.row e sz xs fz).frz o->w.cell? ⟨(L k).b,o,none⟩=some v->(w.setRow (L k).b (cS arr.toList (i*sz+off) u.cells.toList).toArray).cell? ⟨(L k).b,o,none⟩=some v:=by
  intro o v _ hf hc;simp only[Blk.frz]at hf;rw[cell_setRow_same w _ o arr _ _ _ E,yBh,f o (.inl (by omega)),<-gm E];exact hc
 have S:(xs.set i q).length=xs.length:=by simp
 have r:eY (.row e sz xs fz) (L k) (.row e sz (xs.set i q) fz) (L k):=⟨rfl,rfl,by omega,λ_=>rfl⟩;have d:=G.touch_pk (blk':=.row e sz (xs.set i q) fz) F U hpr (λo hf=>hf) r yBi;refine G.touch F U (by simp) rfl rfl rfl hpr (λo hf=>hf) r yBi (by have h9:=G.own k _ F;exact h9) ?_;have O:y.cells.length=sz:=g3 y (In hi)
 have g:q.cells.length=sz:=by rw[V];simp[cS];omega
 refine⟨Z,by omega,?_,λhn=>absurd c (by rw[hn];simp),λ_=>⟨by omega,W,_,setRow_heap w _ arr _ _ _ E,by simp[cS];omega,?_⟩⟩
 .grind
 .intro Q x j p n a
  rw[yAe]at n;split at n
  .rename_i l
   subst l;injection n with n;subst n
   have K:j<sz:=by rw[<-g];exact(th.1 a).1
   rw[V]at a;by_cases Y:j<off
   .unfold cS at a
    rw[yA8,ZX (by simp;omega),yAw,yAb Y]at a;obtain⟨v,D,B⟩:=H i y j p hi a;exact⟨v,by rw[yBh,f _ (.inl (by omega))];exact D,B.mono d.1⟩
   .by_cases c2:j<off+ps.length
    .unfold cS at a
     rw[yA8,yAa (by simp;omega),ZX (by simp;omega)]at a;simp only[yAN]at a;rw[show j-min off y.cells.length=j-off from by omega]at a
     have m:j-off<u.cells.size:=by omega
     have N:u.cells.toList[j-off]?=some u.cells[j-off]:=by simp[m]
     refine⟨u.cells[j-off],?_,(T.2 _ p _ a N).mono d.1⟩
     grind
    .unfold cS at a
     rw[yAa (by simp;omega),yAY]at a;simp only[yAo,yAN]at a;rw[show off+ps.length+(j-(min off y.cells.length+ps.length))=j from by omega]at a;obtain⟨v,D,B⟩:=H i y j p hi a;exact⟨v,by rw[yBh,f _ (.inr (by omega))];exact D,B.mono d.1⟩
  .rename_i l
   obtain⟨v,D,B⟩:=H Q x j p n a
   have K:j<sz:=by rw[<-g3 x (In n)];exact(th.1 a).1
   refine⟨v,?_,B.mono d.1⟩;rw[yBh,f _ ?_]
   .exact D
   .rcases Nat.lt_or_gt_of_ne l with m|J
    .right
     have:(i+1)*sz<=Q*sz:=yAr _ m
     grind
    .left
     have:(Q+1)*sz<=i*sz:=yAr _ J
     grind
theorem H8(b:bR w M ps us)(c:ps.all lG=true):∀x∈us,x.oneCell'=true:=by
 intro x d;obtain⟨i,hi⟩:=yBg.1 d
 have a:i<ps.length:=by rw[b.1];exact(th.1 hi).1
 exact u9 (b.2 i ps[i] x (an a) hi) (IV.1 c _ (yAq a))
theorem E0(o:MemL C L h w)(hs:∀k b,h1 k=some b->h k=some b)(A:ag C.P t=some ti){v:AV}{a:Value}(F:RepA w (ak C L h) L h x a)(E:RepA w (ak C L h) L h v u)
 {W:List (Nat×Blk)}(e:yA ti x v h1=some W):∃w',(Instr.storeAt t a u).run C.P w=.ok () w'/\aZ C L h w L (ah h W) w':=by
 unfold yA at e;split at e
 .rename_i k off
  split at e
  .rename_i cs own G r B
   split at e
   .rename_i m
    injection e with e;subst e;have z:=qg hs E B
    cases F with
    |ptr _=>
     refine KJ o (hs _ _ r) A z m.1 m.2.1 ?_;intro y q;obtain⟨i,hi⟩:=yBg.1 q
     have s:i<G.length:=by rw[z.1];exact(th.1 hi).1
     have O:=z.2 i G[i] y (an s) hi
     grind [JB,List.all_eq_true,List.getElem_mem]
   .cases e
  .cases e
 .rename_i k n i off
  split at e
  .rename_i N sz xs fz r
   split at e
   .rename_i m
    split at e
    .rename_i y p q hp
     have d:=hs _ _ r;obtain⟨K,l,M⟩:=oc o (bW.of_sub hs) E hp;have l:Rep w (ak C L h) p u:=l;split at e
     .rename_i c
      simp only[tW,An,yAU]at c
      cases F with
      |eptr f H J=>
       rw[d]at f;injection f with f;injection f with a1 a2 a3 a4;subst a1;subst a2;subst a3;subst a4;obtain⟨g,rfl⟩:=J m.1;have D:=(o.bl k _ d).2.2.1 y (In q);split at e
       .rename_i j
        injection e with e;subst e;obtain⟨rfl,I⟩:=j;exact D5 o d q m.2 g A l.cells c.1 (by omega) (H8 l.cells c.2) (by simp[cS];omega)
       .split at e
        .rename_i j
         injection e with e;subst e;exact D5 o d q m.2 g A l.cells c.1 (by omega) (H8 l.cells c.2) (kX _)
        .cases e
     .cases e
    .cases e
   .cases e
  .cases e
 .cases e
end
theorem t8(e:Ext (λ_=>False) w w'){a:Nat}{q:Prop}(c:q->w.heap.size<=a):Pres w M w' (λb o=>M b o\/(q/\b=a)):=by
 refine Pres.ext e (λ_ _ h=>h.elim) λb o d=>?_;rintro(h|⟨hq,rfl⟩)
 .exact h
 .have:=c hq;omega
theorem jH(w:World)(o:Obj):(w.alloc o).heap[w.heap.size]?=some o:=heap_alloc_new w o
section
variable {C:Cx} {L:Nat->Loc} {h1 h:Hp} {w:World}
theorem CX(i:MemL C L h w)(hd:h d=none)(a:d<2000000){us:Array Value}(j:aB w (ak C L h) L h cs us.toList)(ty:TypeId):
 aZ C L h w (aH L d ⟨w.heap.size,0,false⟩) (aH h d (some (.box cs true false))) (w.alloc (.cells us ty))/\
 RepA (w.alloc (.cells us ty)) (ak C (aH L d ⟨w.heap.size,0,false⟩) (aH h d (some (.box cs true false)))) (aH L d ⟨w.heap.size,0,false⟩) (aH h d (some (.box cs true false))) (.ptr d 0) (.pointer (some ⟨w.heap.size,0,none⟩)):=by
 have c:Ext (λ_=>False) w (w.alloc (.cells us ty)):=Ext.alloc _ w _;have b:KC L h (aH L d ⟨w.heap.size,0,false⟩) (aH h d (some (.box cs true false))):=KC.new hd;refine⟨i.newKey hd a c (λ_=>yAd _) (by intro f g e;injection e with _ e2;cases e2) ⟨us,ty,jH w _,j.mono (t8 c (λ_=>yAd _)) b⟩,?_⟩;have:=RepA.ptr (w:=w.alloc (.cells us ty)) (M:=ak C (aH L d ⟨w.heap.size,0,false⟩) (aH h d (some (.box cs true false)))) (L:=aH L d ⟨w.heap.size,0,false⟩) (h:=aH h d (some (.box cs true false))) (k:=d) (off:=0) (aE _ _ _);rw[aE]at this;exact this
theorem kY(j:MemL C L h w)(k:Ext (λ_=>False) w w')(hd:h d=none)(a:d<2000000)(i:l.isNil=false->w.heap.size<=l.b)
 (g:db w' (λb o=>ak C L h b o\/(l.isNil=false/\b=l.b)) (λ_=>default) (λ_=>none) l (.row e sz xs 0)):
 aZ C L h w (aH L d l) (aH h d (some (.row e sz xs 0))) w'/\
 RepA w' (ak C (aH L d l) (aH h d (some (.row e sz xs 0)))) (aH L d l) (aH h d (some (.row e sz xs 0))) (.arr d xs.length) (l.slice xs.length):=by
 refine⟨j.newKey hd a k i (by intro c f e;cases e) g,?_⟩;exact .arr (aE _ _ _) (yAd _) (λ_=>by rw[aE])
theorem Ru{i j:Nat}(a:j<sz):(i*sz+j)%sz=j:=by
 rw[Nat.add_comm,Nat.add_mul_mod_self_right];exact Nat.mod_eq_of_lt a
theorem FG(hm:MemL C L h w)(ht:ag C.P t=some ti){d:Option Nat}(g:∀q,d=some q->h1 q=h q/\q<2000000){l c:AV}{ul V:Value}(M:RepA w (ak C L h) L h l ul)(I:RepA w (ak C L h) L h c V)
 {v:AV}{W:List (Nat×Blk)}(e:Bj ti d l c h1=some (v,W)):
 ∃r w' L',(Instr.makeSlice t ul V).run C.P w=.ok r w'/\aZ C L h w L' (ah h W) w'/\RepA w' (ak C L' (ah h W)) L' (ah h W) v r:=by
 obtain⟨i,dd,hi,hd,ad,_,hk⟩:=gZ ht;unfold Bj at e;split at e
 .rename_i G H o z k1 n k2 m q f
  split at e
  .rename_i A
   obtain⟨X,R,Y,Z,c5,c6,c7⟩:=A;injection e with e;injection e with e1 e2;subst e1;subst e2;subst Y
   have s:∃B j,dd=.slice B/\C.P.info? B=some j/\G=B/\j.size=H/\j.bytes=o/\j.zero=some z:=by
    rw[hk]at f;split at f
    .cases f
    .cases f
    .rename_i B
     split at f
     .rename_i j K;injection f with a1 a2 a3 a4;exact⟨B,j,rfl,K,a1.symm,a2,a3,a4⟩
     .cases f
    .cases f
   obtain⟨B,j,rfl,K,rfl,rfl,rfl,hz⟩:=s
   cases M with
   |pv M=>cases I with
    |pv I=>
     rw[aX M,aX I];have E:=run_make (P:=C.P) w t G j z hd K hz k1 k2 m m Z (yCc _) c5 c6
     have J:h q=none:=by rw[<-(g q rfl).1];simpa using c7
     have hx:Ext (λ_=>False) w (w.alloc (.cells (madeCells z.cells (m.toNat*j.size)) G)):=Ext.alloc _ w _
     have u:=kY (e:=G) (sz:=j.size) (xs:=List.replicate m.toNat (PV.val z)) (l:=⟨w.heap.size,m.toNat,false⟩) hm hx J (g q rfl).2 (λ_=>yAd _) (by
      refine⟨X,yAT _,?_,(λh=>by cases h),λ_=>⟨by simp,by simp only[maxLen];omega,_,jH w _,by simp[size_madeCells],?_⟩⟩
      .intro x O;rw[List.eq_of_mem_replicate O];simp[PV.cells,R]
      .intro a x b p k F
       have T:a<m.toNat:=by have:=(th.1 k).1;simpa using this
       rw[yAx,yAb T]at k;injection k with k;subst k;simp only[PV.cells,ZW,II]at F;obtain⟨y,U,rfl⟩:=F
       have hb:b<j.size:=by have:=(th.1 U).1;simp at this;omega
       have D:b<z.cells.size:=by omega
       refine⟨y,?_,.val _⟩
       have N:a*j.size+b<m.toNat*j.size:=by
        have:(a+1)*j.size<=m.toNat*j.size:=yAr _ T;rw[yAM]at this;omega
       have Q:z.cells[b]=y:=by simpa[D]using U
       simp[madeCells,N,R,Ru hb]
       rw[getElem!_pos z.cells b D];exact Q)
     refine⟨_,_,_,E,u.1,?_⟩;have S:=u.2;rw[List.length_replicate]at S;exact S
  .cases e
 .cases e
theorem E1(hm:MemL C L h w)(ht:ag C.P t=some ti){hn:List Nat}{d:Option Nat}(g:∀q,d=some q->h1 q=h q/\q<2000000){l c:AV}{ul R:Value}(N:RepA w (ak C L h) L h l ul)(I:RepA w (ak C L h) L h c R)
 {v:AV}{W:List (Nat×Blk)}(e:yE ti hn d l c h1=some (v,W)):
 ∃r w' L',(Instr.makeSlice t ul R).run C.P w=.ok r w'/\aZ C L h w L' (ah h W) w'/\RepA w' (ak C L' (ah h W)) L' (ah h W) v r:=by
 obtain⟨i,Y,hi,hd,ad,_,hk⟩:=gZ ht;unfold yE at e;split at e
 .rename_i F k z k1 n k2 m q f
  split at e
  .rename_i x
   obtain⟨_,S,T,U,V,c6,X⟩:=x;injection e with e;injection e with B e2;subst B;subst e2;subst T
   have s:∃A j,Y=.slice A/\C.P.info? A=some j/\F=A/\j.size=1/\j.bytes=k/\j.zero=some z:=by
    rw[hk]at f;split at f
    .cases f
    .cases f
    .rename_i A
     split at f
     .rename_i j K;injection f with a1 a2 a3 a4;exact⟨A,j,rfl,K,a1.symm,a2,a3,a4⟩
     .cases f
    .cases f
   obtain⟨A,j,rfl,K,rfl,M,rfl,hz⟩:=s
   have O:z.cells=#[z]:=by
    have:=iR S;simp only[PV.cells]at this;apply Array.ext'
    cases E:z.cells.toList with
    |nil=>rw[E]at this;cases this
    |cons y r=>
     rw[E]at this;simp only[yBa,List.cons.injEq,List.map_eq_nil_iff]at this;obtain⟨B,rfl⟩:=this;injection B with B;subst B;rfl
   cases N with
   |pv N=>cases I with
    |pv I=>
     rw[aX N,aX I];have D:=run_make (P:=C.P) w t F j z hd K hz k1 k2 m m U (yCc _) V c6
     have J:h q=none:=by rw[<-(g q rfl).1];simpa using X
     have hx:Ext (λ_=>False) w (w.alloc (.cells (madeCells z.cells (m.toNat*j.size)) F)):=Ext.alloc _ w _
     have o:madeCells z.cells (m.toNat*j.size)=(List.replicate m.toNat z).toArray:=by
      rw[M,yBB,O];apply Array.ext
      .simp[size_madeCells]
      .intro a h1 h2
       simp[madeCells,Nat.mod_one]
     have Z:=CX (us:=madeCells z.cells (m.toNat*j.size)) (cs:=List.replicate m.toNat (.pv (.val z))) hm J (g q rfl).2 (by
      rw[o];refine⟨by simp,λa p u hp G=>?_⟩;have H:=(th.1 hp).1;simp only[List.length_replicate]at H;rw[yAx,yAb H]at hp;rw[yAx,yAb H]at G;injection hp with hp;injection G with G;subst hp;subst G
      exact .pv (.val _)) F
     refine⟨_,_,_,D,Z.1,?_⟩;have Q:RepX (aH L q ⟨w.heap.size,0,false⟩) (aH h q (some (.box (List.replicate m.toNat (.pv (.val z))) true false))) (.barr q m.toNat m.toNat) (.slice (some ⟨(aH L q ⟨w.heap.size,0,false⟩ q).b,0,none⟩) m.toNat m.toNat):=.barr (yAd _) (aE _ _ _);rw[aE]at Q;exact .ext Q
  .cases e
 .cases e
theorem zH(Q:MemL C L h w)(hs:∀k b,h1 k=some b->h k=some b)(R:RepA w (ak C L h) L h x u){ys:List PV}(e:gF h1 x=some ys)(M:ys.all (tW sz)=true):
 ∃A c,u=.slice A ys.length c/\(A=none->ys=[])/\(0<ys.length->∃b o,A=some ⟨b,o,none⟩/\∃news:List Value,news.length=ys.length*sz/\(∀(j:Nat) v,news[j]?=some v->w.cell? ⟨b,o+j,none⟩=some v)/\
  (∀v∈news,v.oneCell'=true)/\(∀(i:Nat) y(j:Nat) p,ys[i]?=some y->y.cells[j]?=some p->∃v,news[i*sz+j]?=some v/\Rep w (ak C L h) p v)):=by
 have g:∀y∈ys,y.cells.length=sz/\y.cells.all lG=true:=by
  intro y d;have:=IV.1 M y d;simpa[tW]using this
 have mk:∀b o,(∀(i:Nat) y(j:Nat) p,ys[i]?=some y->y.cells[j]?=some p->∃v,w.cell? ⟨b,o+(i*sz+j),none⟩=some v/\Rep w (ak C L h) p v)->
  ∃news:List Value,news.length=ys.length*sz/\(∀(j:Nat) v,news[j]?=some v->w.cell? ⟨b,o+j,none⟩=some v)/\(∀v∈news,v.oneCell'=true)/\
   (∀(i:Nat) y(j:Nat) p,ys[i]?=some y->y.cells[j]?=some p->∃v,news[i*sz+j]?=some v/\Rep w (ak C L h) p v):=by
  intro b o H
  have z:∀q,q<ys.length*sz->∃v,w.cell? ⟨b,o+q,none⟩=some v/\v.oneCell'=true:=by
   intro q hq;have D:0<sz:=Nat.pos_of_ne_zero (λI=>by subst I;simp at hq);have hi:q/sz<ys.length:=Nat.div_lt_of_lt_mul (by rw[Nat.mul_comm];exact hq);have f:q%sz<sz:=Nat.mod_lt _ D;have d:=g _ (yAq hi)
   have F:q%sz<ys[q/sz].cells.length:=by omega
   obtain⟨v,m,l⟩:=H (q/sz) ys[q/sz] (q%sz) _ (an hi) (an F);refine⟨v,?_,u9 l (IV.1 d.2 _ (yAq F))⟩;rw[show q/sz*sz+q%sz=q from by rw[Nat.mul_comm];exact Nat.div_add_mod q sz]at m;exact m
  refine⟨(List.range (ys.length*sz)).map λq=>(w.cell? ⟨b,o+q,none⟩).getD undef,by simp,?_,?_,?_⟩
  .intro j v f
   rw[ZW]at f;by_cases G:j<ys.length*sz
   .rw[List.getElem?_range G]at f
    obtain⟨Z,s,_⟩:=z j G;simp[s]at f;rw[s,f]
   .rw[yAf (by simp;omega)]at f;cases f
  .intro v m
   obtain⟨q,hq,rfl⟩:=yAt.1 m;obtain⟨Z,s,X⟩:=z q (yAJ.1 hq);simpa[s]using X
  .intro i y j p d f
   obtain⟨v,m,l⟩:=H i y j p d f;refine⟨v,?_,l⟩;have hi:i<ys.length:=(th.1 d).1
   have U:j<sz:=by rw[<-(g y (In d)).1];exact(th.1 f).1
   have:(i+1)*sz<=ys.length*sz:=yAr _ hi;rw[yAM]at this;rw[ZW,List.getElem?_range (by omega)];simp[m]
 cases x with
 |pv p=>
  cases R with
  |pv l=>
  cases p with
  |sl ad=>
   simp only[gF,Z9]at e;subst e
   cases l with
   |sl0 a c=>exact⟨a,c,rfl,λ_=>rfl,(λh=>by simp at h)⟩
   |sl _ b o c E uu P D H l=>
    refine⟨_,c,rfl,(λh=>by cases h),λI=>⟨b,o,rfl,mk b o ?_⟩⟩;intro i y j p d f
    have:E=sz:=by rw[<-D i y d];exact(g y (In d)).1
    subst this;exact⟨_,(H i y j p d f).1,l i y j p d f⟩
  |val v=>
   simp only[gF]at e;split at e
   .rename_i m
    injection e with e;subst e;rw[aX l,lK m];exact⟨none,0,rfl,λ_=>rfl,(λh=>by simp at h)⟩
   .cases e
  |_=>simp[gF]at e
 |arr k n=>
  simp only[gF]at e;split at e
  .rename_i ee E xs fz V
   split at e
   .rename_i K
    injection e with e;subst e;have B:=hs _ _ V
    cases R with
    |arr r W Y=>
     rw[B]at r;injection r with r;injection r with a1 a2 a3 a4;subst a1;subst a2;subst a3;subst a4;rw[Y K];rcases nB Q B with⟨J,O⟩|⟨J,_,_,arr,S,_,T⟩
     .subst O;subst K
      exact⟨none,0,by simp[Loc.slice,J],λ_=>rfl,(λh=>by simp at h)⟩
     .refine⟨some ⟨(L k).b,0,none⟩,(L k).cap,by simp[Loc.slice,J,K],(λh=>by cases h),λI=>⟨(L k).b,0,rfl,mk _ _ ?_⟩⟩
      intro i y j p d f
      have N:E=sz:=by rw[<-(Q.bl k _ B).2.2.1 y (In d)];exact(g y (In d)).1
      subst N;obtain⟨v,m,l⟩:=T i y j p d f;exact⟨v,by rw[gm S,yA2];exact m,l⟩
   .cases e
  .cases e
 |ptr=>simp[gF]at e
 |eptr=>simp[gF]at e
 |agg=>simp[gF]at e
 |fn=>simp[gF]at e
 |tup=>simp[gF]at e
 |ext=>simp[gF]at e
 |undef=>simp[gF]at e
end
theorem Au{b:Blk}(a:h k=some b):aH h k (some b)=h:=by
 funext n;unfold aH;split
 all_goals grind
theorem dK(f:ag P t=some ti){a:Nat}{z:Option Value}(g:ti.kind=.slice e sz a z):
 P.underlying t=some (.slice e)/\∃j,P.info? e=some j/\j.size=sz/\j.bytes=a/\j.zero=z:=by
 obtain⟨i,d,hi,hd,c,_,b⟩:=gZ f
 grind
theorem zI{e:TypeId}{j:TypeInfo}(f:P.underlying t=some (.slice e))(d:P.info? e=some j)(B:Option Addr)(n cap:Nat)(hn:n<=cap)(A:Option Addr)(c:Nat):
 (Builtin.append_ #[t,t] ty #[.slice B n cap,.slice A 0 c]).run P w=.ok (.slice B n cap) w:=by
 have hf:(Builtin.firstCells j.size 0 (.slice A 0 c)).run P w=.ok #[] w:=by
  cases A with
  |none=>rfl
  |some a=>simp only[Builtin.firstCells,yCe];rfl
 cases B with
 |none=>simp[Builtin.append_,run_underlying f,sizeOf,typeInfo,d,Builtin.lenOf,hn,hf]
 |some b=>simp[Builtin.append_,run_underlying f,sizeOf,typeInfo,d,Builtin.lenOf,hn,hf,storeCells]
theorem MV{ys:List PV}{a news:List Value}(g:a.length=xs.length*sz)(l:∀x∈xs,x.cells.length=sz)(m:∀y∈ys,y.cells.length=sz)
 (o:∀(i:Nat) x(j:Nat) p,xs[i]?=some x->x.cells[j]?=some p->∃u,a[i*sz+j]?=some u/\Rep w M p u)
 (hn:∀(i:Nat) x(j:Nat) p,ys[i]?=some x->x.cells[j]?=some p->∃u,news[i*sz+j]?=some u/\Rep w M p u)
 (i:Nat)(x:PV)(j:Nat)(p:PV)(d:(xs++ys)[i]?=some x)(e:x.cells[j]?=some p):∃u,(a++news)[i*sz+j]?=some u/\Rep w M p u/\i*sz+j<(xs.length+ys.length)*sz:=by
 have f:j<sz:=by
  grind
 have b:i<xs.length+ys.length:=by have:=(th.1 d).1;simpa using this
 have c:i*sz+j<(xs.length+ys.length)*sz:=by
  have:(i+1)*sz<=(xs.length+ys.length)*sz:=yAr _ b
  grind
 by_cases hi:i<xs.length
 .grind
 .rw[yAa (by omega)]at d
  obtain⟨u,q,k⟩:=hn _ x j p d e;refine⟨u,?_,k,c⟩
  have n:i*sz=xs.length*sz+(i-xs.length)*sz:=by rw[<-Nat.add_mul];congr 1;omega
  grind
section
variable {C:Cx} {L:Nat->Loc} {h1 h:Hp} {w:World}
theorem CY(S:MemL C L h w)(hs:∀k b,h1 k=some b->h k=some b)(ht:ag C.P t=some ti){d:Option Nat}(M:∀q,d=some q->h1 q=h q/\q<2000000)
 {s x:AV}{us ux:Value}(b3:RepA w (ak C L h) L h s us)(hx:RepA w (ak C L h) L h x ux){v:AV}{W:List (Nat×Blk)}(e:uU ti d s x h1=some (v,W)):
 ∃r w' L',(Builtin.append_ #[t,t] ty #[us,ux]).run C.P w=.ok r w'/\aZ C L h w L' (ah h W) w'/\RepA w' (ak C L' (ah h W)) L' (ah h W) v r:=by
 unfold uU at e;split at e
 .rename_i et ck b8 z ay
  obtain⟨I,a,hj,rfl,rfl,hz⟩:=dK ht ay;split at e
  .cases e
  .rename_i f ch
   split at e
   .rename_i ad
    obtain⟨c1,c2,c3⟩:=ad
    have Z:∀y∈f,y.cells.length=a.size:=by
     intro y hy;have:=IV.1 c3 y hy;simp[tW]at this;exact this.1
    obtain⟨A,c,rfl,cm,hA⟩:=zH S hs hx ch c3;split at e
    .rename_i k n
     split at e
     .rename_i J sz xs fz hk
      split at e
      .rename_i hc
       obtain⟨ax,Y,rfl,rfl,K,b9⟩:=hc;injection e with e;injection e with e1 e2;subst e1;subst e2;have E:=hs _ _ hk;rw[kr]
       have b7:us=(L k).slice n:=by
        cases b3 with
        |arr ax cq H=>
         grind
       subst b7;obtain⟨g1,g2,g3,g4,g5⟩:=S.bl k _ E;by_cases bq:f.length=0
       .have bs:f=[]:=yAA bq
        subst bs
        have cd:∃B cap,(L k).slice n=.slice B n cap/\n<=cap:=by
         rcases nB S E with⟨V,bk⟩|⟨V,a1,_⟩
         .subst bk;subst Y;exact⟨none,0,by simp[Loc.slice,V],yAd _⟩
         .exact⟨_,_,by simp[Loc.slice,V];exact⟨rfl,rfl⟩,by omega⟩
        obtain⟨B,cap,hB,ca⟩:=cd;refine⟨(L k).slice n,w,L,by rw[hB];exact zI I hj B n cap ca A c,?_,?_⟩
        .rw[yBU,Au E];exact aZ.refl S
        .rw[yBU,Au E,yBT,yBZ]
         omega
       .obtain⟨b,o,rfl,news,n1,n2,n3,n4⟩:=hA (by omega)
        have m:∀j u,news[j]?=some u->w.cell? ((⟨b,o,none⟩:Addr).add j)=some u:=λj u H=>by rw[gG];exact n2 j u H
        rcases nB S E with⟨V,bk⟩|⟨V,a1,a2,arr,a3,a4,a5⟩
        .
         subst bk;simp only[yBT]at Y;subst Y
         have a8:(L k).slice 0=.slice none 0 0:=by simp[Loc.slice,V]
         rw[a8];have D:=run_append_nil (P:=C.P) w t ty J a z I hj hz ⟨b,o,none⟩ f.length c news n1 m (by omega) (by omega) (by rw[yA2]at K;omega);have F:Ext (λ_=>False) w (w.drew.alloc (.cells (news.toArray++Builtin.zeroCells z.cells (grownCap w f.length 0 J-f.length)) J)):=(Ext.drew _ w).trans (Ext.alloc _ _ _) (λ_ _ h=>h);have X:=grownCap_ge w f.length 0 J;have N:=grownCap_le_maxLen w f.length 0 J (by simp only[maxLen];omega)
         have a7:=S.move (xs':=[]++f) (l':=⟨w.heap.size,grownCap w f.length 0 J,false⟩) E ax F ⟨rfl,yAd _⟩ (by simp;omega) (by
          refine⟨c1,by simp at g2|-;omega,by simpa using Z,(λh=>by cases h),λ_=>⟨by simpa using X,N,_,jH _ _,?_,?_⟩⟩
          .simp only[yBI,yBu,n1,size_zeroCells,c2]
           rw[<-Nat.add_mul];congr 1;omega
          .intro i x j p g G
           simp only[List.nil_append]at g;obtain⟨u,H,T⟩:=n4 i x j p g G;refine⟨u,?_,T.mono ((t8 (q:=True) F (λ_=>yAd _)).trans (Pres.sub (λb' o' h=>h.elim .inl (λh=>.inr ⟨trivial,h⟩))))⟩;rw[yAH (by have:=(th.1 H).1;simpa using this)]
           simpa using H)
         refine⟨_,_,_,D,a7,?_⟩;refine .arr (aE _ _ _) (by simp) (λ_=>?_);rw[aE];simp[Loc.slice]
        .have a8:(L k).slice n=.slice (some ⟨(L k).b,0,none⟩) n (L k).cap:=by simp[Loc.slice,V]
         rw[a8]
         have cj:n*a.size<=arr.size:=by rw[a4];exact yAr _ (by omega)
         have Q:(arr.toList.take (n*a.size)).length=xs.length*a.size:=by simp[Y];omega
         have b1:∀(i:Nat) x(j:Nat) p,xs[i]?=some x->x.cells[j]?=some p->∃u,(arr.toList.take (n*a.size))[i*a.size+j]?=some u/\Rep w (ak C L h) p u:=by
          intro i x j p g G;obtain⟨u,H,T⟩:=a5 i x j p g G;refine⟨u,?_,T⟩
          have cp:j<a.size:=by rw[<-g3 x (In g)];exact(th.1 G).1
          have cn:i<xs.length:=(th.1 g).1;have:(i+1)*a.size<=n*a.size:=yAr _ (by omega)
          grind
         have R:=MV Q g3 Z b1 n4;by_cases U:n+f.length<=(L k).cap
         .have a6:(n+f.length)*a.size<=arr.size:=by rw[a4];exact yAr _ U
          rw[yAM]at a6;have D:=run_append_room (P:=C.P) w t ty J a I hj (L k).b n (L k).cap arr a3 ⟨b,o,none⟩ f.length c news n1 m n3 U (by omega);refine⟨_,_,L,D,?_,?_⟩
          .have hw:∀b',b'<w.heap.size->((Blk.row J a.size xs fz).live (L k)->b'≠(L k).b)->(w.setRow (L k).b (arr.toList.take (n*a.size)++news++arr.toList.drop (n*a.size+news.length)).toArray).heap[b']?=w.heap[b']?:=
            λb' _ hb=>setRow_other w _ b' _ (hb V)
           have cg:∀q,q<n*a.size->(arr.toList.take (n*a.size)++news++arr.toList.drop (n*a.size+news.length))[q]?=arr[q]?:=by
            grind
           have hpr:∀o v,(Blk.row J a.size xs fz).live (L k)->(Blk.row J a.size xs fz).frz o->w.cell? ⟨(L k).b,o,none⟩=some v->
            (w.setRow (L k).b (arr.toList.take (n*a.size)++news++arr.toList.drop (n*a.size+news.length)).toArray).cell? ⟨(L k).b,o,none⟩=some v:=by
            intro q v _ hf hc;simp only[Blk.frz]at hf;have:fz*a.size<=n*a.size:=yAr _ (by omega);rw[cell_setRow_same w _ q arr _ _ _ a3,yBh,cg q (by omega),<-gm a3];exact hc
           have b0:eY (.row J a.size xs fz) (L k) (.row J a.size (xs++f) fz) (L k):=⟨rfl,rfl,by simp,λ_=>rfl⟩;have cf:=S.touch_pk (blk':=.row J a.size (xs++f) fz) E hw hpr (λo hf=>hf) b0 yBi;refine S.touch E hw (by simp) rfl rfl rfl hpr (λo hf=>hf) b0 yBi (by have h9:=S.own k _ E;exact h9) ?_;refine⟨g1,by simp;omega,?_,(λY=>by rw[V]at Y;cases Y),λ_=>⟨by simp;omega,a2,_,setRow_heap w _ arr _ _ _ a3,?_,?_⟩⟩
           .grind
           .grind
           .intro i x j p g G
            obtain⟨u,H,T,cb⟩:=R i x j p g G;refine⟨u,?_,T.mono cf.1⟩
            grind
          .refine .arr (aE _ _ _) (by simp;omega) (λ_=>?_)
           simp[Loc.slice,V]
         .have D:=run_append_grow (P:=C.P) w t ty J a z I hj hz ⟨(L k).b,0,none⟩ n (L k).cap (arr.toList.take (n*a.size)) (by rw[Q,Y])
           (λq u H=>by
             rw[gG,gm a3,yA2];rw[yAw]at H;split at H
             .simpa using H
             .cases H)
           ⟨b,o,none⟩ f.length c news n1 m (by omega) (by omega) (growslice_fits (by omega) K)
          have F:Ext (λ_=>False) w (w.drew.alloc (.cells ((arr.toList.take (n*a.size)).toArray++news.toArray++Builtin.zeroCells z.cells (grownCap w (n+f.length) (L k).cap J-(n+f.length))) J)):=
           (Ext.drew _ w).trans (Ext.alloc _ _ _) (λ_ _ h=>h)
          have X:=grownCap_ge w (n+f.length) (L k).cap J;have N:=grownCap_le_maxLen w (n+f.length) (L k).cap J (by simp only[maxLen];omega)
          have a7:=S.move (xs':=xs++f) (l':=⟨w.heap.size,grownCap w (n+f.length) (L k).cap J,false⟩) E ax F ⟨rfl,yAd _⟩ (by simp;omega) (by
           refine⟨c1,by simp;omega,?_,(λh=>by cases h),λ_=>⟨by simp;omega,N,_,jH _ _,?_,?_⟩⟩
           .intro x F
            rcases yAk.1 F with h'|h'
            .exact g3 x h'
            .exact Z x h'
           .simp only[yBI,yBu,Q,n1,size_zeroCells,c2,Y]
            rw[<-Nat.add_mul,<-Nat.add_mul];congr 1;omega
           .intro i x j p g G
            obtain⟨u,H,T,cb⟩:=R i x j p g G;refine⟨u,?_,T.mono ((t8 (q:=True) F (λ_=>yAd _)).trans (Pres.sub (λb' o' h=>h.elim .inl (λh=>.inr ⟨trivial,h⟩))))⟩;have b4:=(th.1 H).1
            have b5:i*a.size+j<((arr.toList.take (n*a.size)).toArray++news.toArray).size:=by simp only[yBI,yBu];simp only[yAo]at b4;exact b4
            rw[yAH b5,<-Array.getElem?_toList,Array.toList_append]
            exact H)
          refine⟨_,_,_,D,a7,?_⟩;refine .arr (aE _ _ _) (by simp;omega) (λ_=>?_);rw[aE];simp[Loc.slice]
      .cases e
     .cases e
    .rename_i vv
     split at e
     .rename_i hv
      split at e
      .rename_i q
       split at e
       .rename_i hc
        obtain⟨hq,K,b9⟩:=hc;injection e with e;injection e with e1 e2;subst e1;subst e2;rw[kr]
        have b2:h q=none:=by rw[<-(M q rfl).1];simpa using hq
        cases b3 with
        |pv T=>
        rw[aX T,lK hv];by_cases bq:f.length=0
        .have bs:f=[]:=yAA bq
         subst bs
         have O:=kY (e:=et) (sz:=a.size) (xs:=[]) (l:=⟨0,0,true⟩) S (Ext.refl _ w) b2 (M q rfl).2 (λh=>by cases h)
          ⟨c1,yAT _,by simp,λ_=>rfl,(λh=>by cases h)⟩
         exact⟨_,_,_,zI I hj none 0 0 (yAd _) A c,O.1,O.2⟩
        .obtain⟨b,o,rfl,news,n1,n2,n3,n4⟩:=hA (by omega)
         have m:∀j u,news[j]?=some u->w.cell? ((⟨b,o,none⟩:Addr).add j)=some u:=λj u H=>by rw[gG];exact n2 j u H
         have D:=run_append_nil (P:=C.P) w t ty et a z I hj hz ⟨b,o,none⟩ f.length c news n1 m (by omega) (by omega) (by omega);have F:Ext (λ_=>False) w (w.drew.alloc (.cells (news.toArray++Builtin.zeroCells z.cells (grownCap w f.length 0 et-f.length)) et)):=(Ext.drew _ w).trans (Ext.alloc _ _ _) (λ_ _ h=>h);have X:=grownCap_ge w f.length 0 et;have N:=grownCap_le_maxLen w f.length 0 et (by simp only[maxLen];omega)
         have O:=kY (e:=et) (sz:=a.size) (xs:=f) (l:=⟨w.heap.size,grownCap w f.length 0 et,false⟩) S F b2 (M q rfl).2 (λ_=>yAd _) (by
          refine⟨c1,yAT _,Z,(λh=>by cases h),λ_=>⟨X,N,_,jH _ _,?_,?_⟩⟩
          .simp only[yBI,yBu,n1,size_zeroCells,c2]
           rw[<-Nat.add_mul];congr 1;omega
          .intro i x j p g G
           obtain⟨u,H,T⟩:=n4 i x j p g G;refine⟨u,?_,T.mono (t8 F (λ_=>yAd _))⟩;rw[yAH (by have:=(th.1 H).1;simpa using this)]
           simpa using H)
         exact⟨_,_,_,D,O.1,O.2⟩
       .cases e
      .cases e
     .cases e
    .cases e
   .cases e
 .cases e
theorem FH(I:MemL C L h w)(hs:∀k b,h1 k=some b->h k=some b){t':TypeId}(ht:ag C.P t=some ti)
 {s x:AV}{us ux:Value}(a7:RepA w (ak C L h) L h s us)(hx:RepA w (ak C L h) L h x ux){v:AV}{W:List (Nat×Blk)}(e:Bi ti s x h1=some (v,W)):
 ∃r w',(Builtin.copy_ #[t,t'] ty #[us,ux]).run C.P w=.ok r w'/\aZ C L h w L (ah h W) w'/\RepA w' (ak C L (ah h W)) L (ah h W) v r:=by
 unfold Bi at e;split at e
 .rename_i e1 b3 V z k n H
  obtain⟨D,d,Y,rfl,rfl,hz⟩:=dK ht H;split at e
  .rename_i G sz xs g hk bs
   split at e
   .rename_i hc
    obtain⟨Q,rfl,c3⟩:=hc;injection e with e;injection e with ea eb;subst ea;subst eb;rw[kr];have f:=hs _ _ hk
    have T:us=(L k).slice n:=by
     cases a7 with
     |arr E b8 hu=>
      rw[f]at E;injection E with E;injection E with a1 a2 U a4;subst U;exact hu Q
    subst T
    have bq:∀y∈g,y.cells.length=d.size:=by
     intro y hy;have:=IV.1 c3 y hy;simp[tW]at this;exact this.1
    obtain⟨A,c,rfl,b4,hA⟩:=zH I hs hx bs c3;obtain⟨g1,g2,g3,g4,g5⟩:=I.bl k _ f;by_cases l:Nat.min g.length n=0
    .
     have b0:(g.take (Nat.min g.length n)++xs.drop (Nat.min g.length n))=xs:=by rw[l];simp
     rw[b0,Au f,l];refine⟨goInt 0,w,?_,aZ.refl I,.pv (.val _)⟩
     have hf:(Builtin.firstCells d.size 0 (.slice A g.length c)).run C.P w=.ok #[] w:=by
      cases A with
      |none=>rfl
      |some a=>simp only[Builtin.firstCells,yCe];rfl
     unfold Loc.slice
     cases b2:(L k).isNil with
     |true=>
      simp[Builtin.copy_,run_underlying D,Builtin.lenOf,sizeOf,typeInfo,Y,hf,goInt]
     |false=>simp[Builtin.copy_,run_underlying D,Builtin.lenOf,sizeOf,typeInfo,Y,l,hf,storeCells,goInt]
    .have F:0<Nat.min g.length n:=Nat.pos_of_ne_zero l
     have bk:0<g.length:=yAW F (Nat.min_le_left _ _);have b9:0<n:=yAW F (Nat.min_le_right _ _);obtain⟨b,o,rfl,news,n1,n2,n3,n4⟩:=hA bk;rcases nB I f with⟨X,a8⟩|⟨X,a1,a2,arr,U,a4,a5⟩
     .subst a8;simp at Q;omega
     .have a6:(L k).slice n=.slice (some ⟨(L k).b,0,none⟩) n (L k).cap:=by simp[Loc.slice,X]
      rw[a6];generalize J:Nat.min g.length n=m at *
      have ad:m<=g.length:=by rw[<-J];exact Nat.min_le_left _ _
      have b7:m<=n:=by rw[<-J];exact Nat.min_le_right _ _
      have ay:m*d.size<=news.length:=by rw[n1];exact yAr _ ad
      have ax:m*d.size<=arr.size:=by rw[a4];exact yAr _ (by omega)
      have K:(news.take (m*d.size)).length=m*d.size:=by simp;omega
      have hf:(Builtin.firstCells d.size m (.slice (some ⟨b,o,none⟩) g.length c)).run C.P w=.ok (news.take (m*d.size)).toArray w:=by
       have:=run_loadCells_list (P:=C.P) w ⟨b,o,none⟩ (news.take (m*d.size)) (λq v hq=>by
        rw[gG];rw[yAw]at hq;split at hq
        .exact n2 q v hq
        .cases hq)
       rw[K]at this;simpa[Builtin.firstCells]using this
      have S:=run_storeCells_at C.P (L k).b 0 G (news.take (m*d.size)) 0 arr w U (by rw[K];omega) (λv hv=>n3 v (yBL hv));simp only[yA2,List.take_zero,List.nil_append,K]at S;refine⟨goInt m,w.setRow (L k).b (news.take (m*d.size)++arr.toList.drop (m*d.size)).toArray,?_,?_,?_⟩
      .simp only[Builtin.copy_,yBh,yBe,yBX,Sem.run_bind,run_underlying D,Result.andThen_ok,Builtin.lenOf,Sem.run_pure,sizeOf,typeInfo,program,Sem.run,Y,J,hf,S]
      .have hw:∀N,N<w.heap.size->((Blk.row G d.size xs 0).live (L k)->N≠(L k).b)->(w.setRow (L k).b (news.take (m*d.size)++arr.toList.drop (m*d.size)).toArray).heap[N]?=w.heap[N]?:=
        λN _ hb=>setRow_other w _ N _ (hb X)
       have b1:(g.take m++xs.drop m).length=xs.length:=by simp;omega
       have O:eY (.row G d.size xs 0) (L k) (.row G d.size (g.take m++xs.drop m) 0) (L k):=⟨rfl,rfl,by omega,λ_=>rfl⟩
       have hpr:∀o v,(Blk.row G d.size xs 0).live (L k)->(Blk.row G d.size xs 0).frz o->w.cell? ⟨(L k).b,o,none⟩=some v->
        (w.setRow (L k).b (news.take (m*d.size)++arr.toList.drop (m*d.size)).toArray).cell? ⟨(L k).b,o,none⟩=some v:=by
        intro q v _ hf _;simp only[Blk.frz,yCe]at hf;omega
       have R:=I.touch_pk (blk':=.row G d.size (g.take m++xs.drop m) 0) f hw hpr (λo hf=>hf) O yBi;refine I.touch f hw (by simp) rfl rfl rfl hpr (λo hf=>hf) O yBi (by have h9:=I.own k _ f;exact h9) ?_;refine⟨g1,yAT _,?_,(λQ=>by rw[X]at Q;cases Q),λ_=>⟨by omega,a2,_,setRow_heap w _ arr _ _ _ U,?_,?_⟩⟩
       .grind
       .grind
       .intro i x j p B M
        have Z:∀y:PV,y.cells.length=d.size->x=y->j<d.size:=λy hy e=>by subst e;rw[<-hy];exact(th.1 M).1
        by_cases hi:i<m
        .rw[ZX (by simp;omega),yAw,yAb hi]at B
         obtain⟨u,hu,hr⟩:=n4 i x j p B M;have b5:=Z x (bq x (In B)) rfl;have:(i+1)*d.size<=m*d.size:=yAr _ hi;rw[yAM]at this;refine⟨u,?_,hr.mono R.1⟩
         grind
        .rw[yAa (by simp;omega),yAY]at B
         rw[show m+(i-(g.take m).length)=i from by simp;omega]at B;obtain⟨u,hu,hr⟩:=a5 i x j p B M;have:m*d.size<=i*d.size:=yAr _ (by omega);refine⟨u,?_,hr.mono R.1⟩
         grind
      .exact .pv (.val _)
   .cases e
  .cases e
 .cases e
end
end Go.Ab
