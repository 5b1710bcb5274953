/- The contracts and facts that the laws of this seat need, in one text (AbA). -/
import Derived.WalkKit
import Derived.Defers
import Derived.Recover
import Derived.Maps.AppendAt
set_option linter.all false
namespace Go.Ab
inductive PV where
 |val(v:Value)
 |agg(cs:List PV)
 |sl(xs:List PV)
 |rptr(x:PV)(off:Nat)
 |fn(f:Fn)(first caps:List PV)
 |tup(vs:List PV)
 |ifc(t:TypeId)(x:PV)
 |hd(n:Nat)
 |mp(kd:IntKind)(n:Nat)(es:List (List Int×Value))
 deriving Inhabited
variable {M M':Nat->Nat->Prop}{P:Program}{S:Nat->Prop}{b d e fz k n o off sz:Nat}{es:List (List Int×Value)}{g:Option (Nat×Bool)}{ops:Array Oper}{p:PV}{ps xs:List PV}{t ty:TypeId}{u v:Value}{us vs:List Value}{w w':World}{α:Type}
def jL(kd:IntKind)(is:List Int):Value:=.agg (is.map (Value.int kd)).toArray
def zL(kd:IntKind)(n:Nat)(es:List (List Int×Value))(arr:Array MapEntry):Prop:=
 arr.toList.map (λe=>(e.key,e.val))=es.map (λx=>(jL kd x.1,x.2))∧∀x∈es,x.1.length=n
def PV.cells:PV->List PV
 |.val v=>v.cells.toList.map .val
 |.agg cs=>cs
 |p=>[p]
inductive Rep(w:World)(M:Nat->Nat->Prop):PV->Value->Prop
 |val (v:Value):Rep w M (.val v) v
 |agg (cs:List PV) (vs:List Value) (hl:cs.length=vs.length)
   (h:∀(i:Nat) p u,cs[i]?=some p->vs[i]?=some u->Rep w M p u):Rep w M (.agg cs) (.agg vs.toArray)
 |sl0 (a:Option Addr) (c:Nat):Rep w M (.sl []) (.slice a 0 c)
 |sl (xs:List PV) (b o c sz:Nat) (u:Nat->Nat->Value) (hcap:xs.length<=c)
   (hs:∀(i:Nat) x,xs[i]?=some x->x.cells.length=sz)
   (hc:∀(i:Nat) x(j:Nat) p,xs[i]?=some x->x.cells[j]?=some p->w.cell? ⟨b,o+(i*sz+j),none⟩=some (u i j)∧¬M b (o+(i*sz+j)))
   (hr:∀(i:Nat) x(j:Nat) p,xs[i]?=some x->x.cells[j]?=some p->Rep w M p (u i j)):Rep w M (.sl xs) (.slice (some ⟨b,o,none⟩) xs.length c)
 |rptr (x:PV) (b o off:Nat) (u:Nat->Value)
   (hc:∀(j:Nat) p,x.cells[j]?=some p->w.cell? ⟨b,o+j,none⟩=some (u j)∧¬M b (o+j))
   (hr:∀(j:Nat) p,x.cells[j]?=some p->Rep w M p (u j)):Rep w M (.rptr x off) (.pointer (some ⟨b,o+off,none⟩))
 |fn (f:Fn) (first caps:List PV) (vs us:List Value) (hl:first.length=vs.length) (hk:caps.length=us.length)
   (h:∀(i:Nat) p u,first[i]?=some p->vs[i]?=some u->Rep w M p u)
   (hh:∀(i:Nat) p u,caps[i]?=some p->us[i]?=some u->Rep w M p u):Rep w M (.fn f first caps) (.func f vs.toArray us.toArray)
 |tup (cs:List PV) (vs:List Value) (hl:cs.length=vs.length)
   (h:∀(i:Nat) p u,cs[i]?=some p->vs[i]?=some u->Rep w M p u):Rep w M (.tup cs) (.tuple vs.toArray)
 |ifc (t:TypeId) (x:PV) (v:Value) (h:Rep w M x v):Rep w M (.ifc t x) (.iface t v)
 |hd (n:Nat) (a:Option Addr) (c:Nat):Rep w M (.hd n) (.slice a n c)
 |mp (kd:IntKind) (n:Nat) (es:List (List Int×Value)) (b:Nat) (arr:Array MapEntry) (clock:Nat) (hb:w.heap[b]?=some (.map arr clock)) (hm:¬M b 0) (hes:zL kd n es arr):Rep w M (.mp kd n es) (.map (some b))
structure Pres(w:World)(M:Nat->Nat->Prop)(w':World)(M':Nat->Nat->Prop):Prop where
 cell:∀b o v,w.cell? ⟨b,o,none⟩=some v->¬M b o->w'.cell? ⟨b,o,none⟩=some v∧¬M' b o
 map:∀b arr c,w.heap[b]?=some (.map arr c)->¬M b 0->w'.heap[b]?=some (.map arr c)∧¬M' b 0
theorem Rep.mono(hp:Pres w M w' M')(h:Rep w M p u):Rep w' M' p u:=by
 induction h with
 |val v=>exact .val v
 |agg cs vs hl _ ih=>exact .agg cs vs hl ih
 |sl0 a c=>exact .sl0 a c
 |sl xs b o c sz u hcap hs hc _ ih=>exact .sl xs b o c sz u hcap hs (λi x j p hx hj=>hp.cell _ _ _ (hc i x j p hx hj).1 (hc i x j p hx hj).2) ih
 |rptr x b o off u hc _ ih=>exact .rptr x b o off u (λj p hj=>hp.cell _ _ _ (hc j p hj).1 (hc j p hj).2) ih
 |fn f first caps vs us hl hk _ _ ih ih'=>exact .fn f first caps vs us hl hk ih ih'
 |tup cs vs hl _ ih=>exact .tup cs vs hl ih
 |ifc t x v _ ih=>exact .ifc t x v ih
 |hd n a c=>exact .hd n a c
 |mp kd n es b arr clock hb hm hes=>exact .mp kd n es b arr clock (hp.map _ _ _ hb hm).1 (hp.map _ _ _ hb hm).2 hes
theorem Pres.refl(w:World)(M:Nat->Nat->Prop):Pres w M w M:=⟨λ_ _ _ h hm=>⟨h,hm⟩,λ_ _ _ h hm=>⟨h,hm⟩⟩
theorem Pres.trans{w'':World}{M'':Nat->Nat->Prop}(h:Pres w M w' M')(h':Pres w' M' w'' M''):Pres w M w'' M'':=
 ⟨λb o v hc hm=>h'.cell b o v (h.cell b o v hc hm).1 (h.cell b o v hc hm).2,λb o v hc hm=>h'.map b o v (h.map b o v hc hm).1 (h.map b o v hc hm).2⟩
theorem Pres.sub(h:∀b o,M' b o->M b o):Pres w M w M':=⟨λ_ _ _ hc hm=>⟨hc,λhn=>hm (h _ _ hn)⟩,λ_ _ _ hc hm=>⟨hc,λhn=>hm (h _ _ hn)⟩⟩
def bw(w:World)(M:Nat->Nat->Prop)(ps:List PV)(us:List Value):Prop:=
 ps.length=us.length∧∀(i:Nat) p u,ps[i]?=some p->us[i]?=some u->Rep w M p u
theorem bw.nil:bw w M [] []:=⟨rfl,λi p u h=>by simp at h⟩
theorem bw.cons(h:Rep w M p u)(hh:bw w M ps us):bw w M (p::ps) (u::us):=by
 refine⟨by simp[hh.1],λi q v hq hv=>?_⟩
 cases i with
 |zero=>simp at hq hv;subst hq;subst hv;exact h
 |succ i=>exact hh.2 i q v (by simpa using hq) (by simpa using hv)
theorem bw.cons_inv{p:PV}(h:bw w M (p::ps) us):∃u us',us=u::us'∧Rep w M p u∧bw w M ps us':=by
 cases us with
 |nil=>exact absurd h.1 (by simp)
 |cons u us'=>exact⟨u,us',rfl,h.2 0 p u rfl rfl,by have:=h.1;simpa using this,λi q v hq hv=>h.2 (i+1) q v (by simpa using hq) (by simpa using hv)⟩
theorem bw.nil_inv(h:bw w M [] us):us=[]:=by
 cases us with
 |nil=>rfl
 |cons u us=>exact absurd h.1 (by simp)
theorem bw.mono(hp:Pres w M w' M')(h:bw w M ps us):bw w' M' ps us:=
 ⟨h.1,λi p u hp' hu=>(h.2 i p u hp' hu).mono hp⟩
def dF:List PV->Option (List Value)
 |[]=>some []
 |.val v::r=>(dF r).map (v::·)
 |_::_=>none
def fL(cs:List PV):PV:=match dF cs with
 |some vs=>.val (.agg vs.toArray)
 |none=>.agg cs
theorem rE{w:World}{M:Nat->Nat->Prop}:∀{cs:List PV}{vs us:List Value},dF cs=some vs->bw w M cs us->us=vs
 |[],vs,us,h,hr=>by simp[dF]at h;subst h;exact hr.nil_inv
 |.val v::r,vs,us,h,hr=>by
  simp only[dF,Option.map_eq_some_iff]at h;obtain⟨vs',h',rfl⟩:=h;obtain⟨u,us',rfl,hu,hr'⟩:=hr.cons_inv;cases hu;rw[rE h' hr']
 |.agg _::_,_,_,h,_=>by simp[dF]at h
 |.sl _::_,_,_,h,_=>by simp[dF]at h
 |.rptr _ _::_,_,_,h,_=>by simp[dF]at h
 |.fn _ _ _::_,_,_,h,_=>by simp[dF]at h
 |.tup _::_,_,_,h,_=>by simp[dF]at h
 |.ifc _ _::_,_,_,h,_=>by simp[dF]at h
 |.hd _::_,_,_,h,_=>by simp[dF]at h
 |.mp _ _ _::_,_,_,h,_=>by simp[dF]at h
theorem jM{cs:List PV}(h:bw w M cs us):Rep w M (fL cs) (.agg us.toArray):=by
 unfold fL;split
 .rename_i vs hv;rw[rE hv h];exact .val _
 .exact .agg cs us h.1 h.2
theorem Rep.cells(h:Rep w M p u):bw w M p.cells u.cells.toList:=by
 have one:∀{q:PV}{v:Value},Rep w M q v->bw w M [q] [v]:=λhq=>.cons hq .nil
 cases h with
 |val v=>
  refine⟨by simp[PV.cells],λi p u hp hu=>?_⟩;simp only[PV.cells,List.getElem?_map,Option.map_eq_some_iff]at hp;obtain⟨v',hv',rfl⟩:=hp;rw[hv']at hu;injection hu with hu;subst hu;exact .val _
 |agg cs vs hl hh=>exact⟨by simpa[PV.cells,Value.cells]using hl,λi p u hp hu=>hh i p u (by simpa[PV.cells]using hp) (by simpa[Value.cells]using hu)⟩
 |sl0 a c=>exact one (.sl0 a c)
 |sl xs b o c sz u hcap hs hc hr=>exact one (.sl xs b o c sz u hcap hs hc hr)
 |rptr x b o off u hc hr=>exact one (.rptr x b o off u hc hr)
 |fn f first caps vs us hl hk h1 h2=>exact one (.fn f first caps vs us hl hk h1 h2)
 |tup cs vs hl hh=>exact one (.tup cs vs hl hh)
 |ifc t x v h=>exact one (.ifc t x v h)
 |hd n a c=>exact one (.hd n a c)
 |mp kd n es b arr clock hb hm hes=>exact one (.mp kd n es b arr clock hb hm hes)
inductive XV where
 |barr(k n c:Nat)
 |mp(k:Nat)
 |suf(k o n t:Nat)
 deriving Inhabited
def XV.key:XV->Nat
 |.barr k _ _=>k
 |.mp k=>k
 |.suf k _ _ _=>k
inductive AV where
 |pv(p:PV)
 |ptr(k off:Nat)
 |arr(k n:Nat)
 |eptr(k n i off:Nat)
 |agg(cs:List AV)
 |fn(f:Fn)(first caps:List AV)
 |tup(vs:List AV)
 |ext(x:XV)
 |undef
 deriving Inhabited
inductive Blk where
 |box(cs:List AV)(own fz:Bool)
 |row(e sz:Nat)(xs:List PV)(fz:Nat)
 |mp(kd:IntKind)(n:Nat)(es:List (List Int×Value))(fz:Bool)
 deriving Inhabited
structure Loc where
 b:Nat
 cap:Nat
 isNil:Bool
 deriving Inhabited
variable {L L' L'':Nat->Loc}{W:List (Nat×Blk)}{blk:Blk}{cs:List AV}{l:Loc}{x:AV}
def Loc.slice(l:Loc)(n:Nat):Value:=if l.isNil then .slice none 0 0 else .slice (some ⟨l.b,0,none⟩) n l.cap
abbrev Hp:=Nat->Option Blk
inductive RepX(L:Nat->Loc)(h:Hp):XV->Value->Prop
 |barr {k n c:Nat} {cs:List AV} {own fz:Bool} (hc:n<=c) (hk:h k=some (.box cs own fz)):RepX L h (.barr k n c) (.slice (some ⟨(L k).b,0,none⟩) n c)
 |mp {k n:Nat} {kd:IntKind} {es:List (List Int×Value)} {fz:Bool} (hk:h k=some (.mp kd n es fz)):RepX L h (.mp k) (.map (some (L k).b))
 |suf {k o n t e sz fz:Nat} {xs:List PV} {u:Value} (hs:∃A m c,u=.slice A m c) (hk:h k=some (.row e sz xs fz)) (hn:o+n<=t) (ht:t<=xs.length)
   (hu:xs.length=t->∃A c,u=.slice A n c∧(((L k).isNil=false∧A=some ⟨(L k).b,o*sz,none⟩∧c+o=(L k).cap)∨(n=0∧c=0∧(o=0->(L k).isNil=true∧A=none)))):RepX L h (.suf k o n t) u
inductive RepA(w:World)(M:Nat->Nat->Prop)(L:Nat->Loc)(h:Hp):AV->Value->Prop
 |pv {p:PV} {u:Value} (hr:Rep w M p u):RepA w M L h (.pv p) u
 |ptr {k off:Nat} {cs:List AV} {own fz:Bool} (hk:h k=some (.box cs own fz)):RepA w M L h (.ptr k off) (.pointer (some ⟨(L k).b,off,none⟩))
 |arr {k n e sz fz:Nat} {xs:List PV} {u:Value} (hk:h k=some (.row e sz xs fz)) (hn:n<=xs.length) (hu:xs.length=n->u=(L k).slice n):RepA w M L h (.arr k n) u
 |eptr {k n i off e sz fz:Nat} {xs:List PV} {u:Value} (hk:h k=some (.row e sz xs fz)) (hn:n<=xs.length)
   (hu:xs.length=n->(L k).isNil=false∧u=.pointer (some ⟨(L k).b,i*sz+off,none⟩)):RepA w M L h (.eptr k n i off) u
 |agg (cs:List AV) (vs:List Value) (hl:cs.length=vs.length)
   (hh:∀(i:Nat) p u,cs[i]?=some p->vs[i]?=some u->RepA w M L h p u):RepA w M L h (.agg cs) (.agg vs.toArray)
 |fn (f:Fn) (first caps:List AV) (vs us:List Value) (hl:first.length=vs.length) (hk:caps.length=us.length)
   (h1:∀(i:Nat) p u,first[i]?=some p->vs[i]?=some u->RepA w M L h p u)
   (h2:∀(i:Nat) p u,caps[i]?=some p->us[i]?=some u->RepA w M L h p u):RepA w M L h (.fn f first caps) (.func f vs.toArray us.toArray)
 |tup (cs:List AV) (vs:List Value) (hl:cs.length=vs.length)
   (hh:∀(i:Nat) p u,cs[i]?=some p->vs[i]?=some u->RepA w M L h p u):RepA w M L h (.tup cs) (.tuple vs.toArray)
 |ext {x:XV} {u:Value} (hx:RepX L h x u):RepA w M L h (.ext x) u
 |undef (u:Value):RepA w M L h .undef u
variable {h h' h1:Hp}
def dg:Blk->Loc->Blk->Loc->Prop
 |.box _ _ _,l,.box _ _ _,l'=>l'.b=l.b
 |.row e sz xs _,l,.row e' sz' xs' _,l'=>e'=e∧sz'=sz∧xs.length<=xs'.length∧(xs'.length=xs.length->l'=l)
 |.mp kd n _ _,l,.mp kd' n' _ _,l'=>kd'=kd∧n'=n∧l'.b=l.b
 |_,_,_,_=>False
def KC(L:Nat->Loc)(h:Hp)(L':Nat->Loc)(h':Hp):Prop:=∀k blk,h k=some blk->∃blk',h' k=some blk'∧dg blk (L k) blk' (L' k)
theorem bW(blk:Blk)(l:Loc):dg blk l blk l:=by cases blk<;>simp[dg]
theorem KC.refl(L:Nat->Loc)(h:Hp):KC L h L h:=λ_ blk hk=>⟨blk,hk,bW _ _⟩
theorem RepX.mono(hc:KC L h L' h'){x:XV}(hx:RepX L h x u):RepX L' h' x u:=by
 cases hx with
 |@barr k n c cs own fz hc0 hk=>
  obtain⟨blk',h1,h2⟩:=hc k _ hk
  cases blk' with
  |row=>exact h2.elim
  |mp=>exact h2.elim
  |box cs' own' fz'=>have h2:(L' k).b=(L k).b:=h2;rw[<-h2];exact .barr hc0 h1
 |@mp k n kd es fz hk=>
  obtain⟨blk',h1,h2⟩:=hc k _ hk
  cases blk' with
  |row=>exact h2.elim
  |box=>exact h2.elim
  |mp kd' n' es' fz'=>have h2:kd'=kd∧n'=n∧(L' k).b=(L k).b:=h2;rw[<-h2.2.2];exact .mp h1
 |@suf k o n t e sz fz xs u hs0 hk hn ht0 hu=>
  obtain⟨blk',h1,h2⟩:=hc k _ hk
  cases blk' with
  |box=>exact h2.elim
  |mp=>exact h2.elim
  |row e' sz' xs' fz'=>
   obtain⟨_,e1,e2,e3⟩:=h2;refine .suf hs0 h1 hn (by omega) (λe=>?_)
   have:xs'.length=xs.length:=by omega
   rw[e3 this,e1];exact hu (by omega)
theorem RepA.mono(hp:Pres w M w' M')(hc:KC L h L' h')
 (hx:RepA w M L h x u):RepA w' M' L' h' x u:=by
 induction hx with
 |pv hr=>exact .pv (hr.mono hp)
 |@ptr k off cs own fz hk=>
  obtain⟨blk',h1,h2⟩:=hc k _ hk
  cases blk' with
  |row=>exact h2.elim
  |mp=>exact h2.elim
  |box cs' own' fz'=>have h2:(L' k).b=(L k).b:=h2;rw[<-h2];exact .ptr h1
 |@arr k n e sz fz xs u hk hn hu=>
  obtain⟨blk',h1,h2⟩:=hc k _ hk
  cases blk' with
  |box=>exact h2.elim
  |mp=>exact h2.elim
  |row e' sz' xs' fz'=>
   obtain⟨_,e1,e2,e3⟩:=h2;refine .arr h1 (by omega) (λe=>?_)
   have:xs'.length=xs.length:=by omega
   rw[e3 this];exact hu (by omega)
 |@eptr k n i off e sz fz xs u hk hn hu=>
  obtain⟨blk',h1,h2⟩:=hc k _ hk
  cases blk' with
  |box=>exact h2.elim
  |mp=>exact h2.elim
  |row e' sz' xs' fz'=>
   obtain⟨_,e1,e2,e3⟩:=h2;refine .eptr h1 (by omega) (λe=>?_)
   have:xs'.length=xs.length:=by omega
   rw[e3 this,e1];exact hu (by omega)
 |agg cs vs hl _ ih=>exact .agg cs vs hl ih
 |fn f first caps vs us hl hk _ _ ih ih'=>exact .fn f first caps vs us hl hk ih ih'
 |tup cs vs hl _ ih=>exact .tup cs vs hl ih
 |ext hx=>exact .ext (hx.mono hc)
 |undef u=>exact .undef u
def aB(w:World)(M:Nat->Nat->Prop)(L:Nat->Loc)(h:Hp)(ps:List AV)(us:List Value):Prop:=
 ps.length=us.length∧∀(i:Nat) p u,ps[i]?=some p->us[i]?=some u->RepA w M L h p u
section
variable {w:World} {M:Nat->Nat->Prop} {L:Nat->Loc} {h:Hp}
theorem aB.nil:aB w M L h [] []:=⟨rfl,λi p u h=>by simp at h⟩
theorem aB.cons{p:AV}{ps:List AV}(h1:RepA w M L h p u)(hh:aB w M L h ps us):aB w M L h (p::ps) (u::us):=by
 refine⟨by simp[hh.1],λi q v hq hv=>?_⟩
 cases i with
 |zero=>simp at hq hv;subst hq;subst hv;exact h1
 |succ i=>exact hh.2 i q v (by simpa using hq) (by simpa using hv)
theorem aB.cons_inv{p:AV}{ps:List AV}(h1:aB w M L h (p::ps) us):∃u us',us=u::us'∧RepA w M L h p u∧aB w M L h ps us':=by
 cases us with
 |nil=>exact absurd h1.1 (by simp)
 |cons u us'=>exact⟨u,us',rfl,h1.2 0 p u rfl rfl,by have:=h1.1;simpa using this,λi q v hq hv=>h1.2 (i+1) q v (by simpa using hq) (by simpa using hv)⟩
theorem aB.nil_inv(h1:aB w M L h [] us):us=[]:=by
 cases us with
 |nil=>rfl
 |cons u us=>exact absurd h1.1 (by simp)
theorem aB.append{ps qs:List AV}(h1:aB w M L h ps us)(h2:aB w M L h qs vs):aB w M L h (ps++qs) (us++vs):=by
 refine⟨by simp[h1.1,h2.1],λi p u hp hu=>?_⟩;by_cases hi:i<ps.length
 .rw[List.getElem?_append_left hi]at hp
  rw[List.getElem?_append_left (by have:=h1.1;omega)]at hu;exact h1.2 i p u hp hu
 .rw[List.getElem?_append_right (by omega)]at hp
  rw[List.getElem?_append_right (by have:=h1.1;omega)]at hu;refine h2.2 _ p u hp ?_;rw[h1.1];exact hu
theorem aB.map_pv(h1:bw w M ps us):aB w M L h (ps.map .pv) us:=by
 refine⟨by simpa using h1.1,λi p u hp hu=>?_⟩;simp only[List.getElem?_map,Option.map_eq_some_iff]at hp;obtain⟨q,hq,rfl⟩:=hp;exact .pv (h1.2 i q u hq hu)
theorem aB.map_pv_inv(h1:aB w M L h (ps.map .pv) us):bw w M ps us:=by
 refine⟨by simpa using h1.1,λi p u hp hu=>?_⟩;have:=h1.2 i (.pv p) u (by simp[hp]) hu;cases this;assumption
end
def AV.cells:AV->List AV
 |.pv p=>p.cells.map .pv
 |.agg cs=>cs
 |x=>[x]
def jy:List AV->Option (List PV)
 |[]=>some []
 |.pv p::r=>(jy r).map (p::·)
 |_::_=>none
def qM(cs:List AV):AV:=match jy cs with
 |some ps=>.pv (fL ps)
 |none=>.agg cs
theorem ng:∀{cs:List AV}{ps:List PV},jy cs=some ps->cs=ps.map .pv
 |[],ps,h=>by simp[jy]at h;subst h;rfl
 |.pv p::r,ps,h=>by
  simp only[jy,Option.map_eq_some_iff]at h;obtain⟨ps',h',rfl⟩:=h;rw[ng h'];rfl
 |.ptr _ _::_,_,h=>by simp[jy]at h
 |.arr _ _::_,_,h=>by simp[jy]at h
 |.eptr _ _ _ _::_,_,h=>by simp[jy]at h
 |.agg _::_,_,h=>by simp[jy]at h
 |.fn _ _ _::_,_,h=>by simp[jy]at h
 |.tup _::_,_,h=>by simp[jy]at h
 |.ext _::_,_,h=>by simp[jy]at h
 |.undef::_,_,h=>by simp[jy]at h
theorem qw(h1:aB w M L h cs us):RepA w M L h (qM cs) (.agg us.toArray):=by
 unfold qM;split
 .rename_i ps hp
  rw[ng hp]at h1;exact .pv (jM h1.map_pv_inv)
 .exact .agg cs us h1.1 h1.2
theorem RepA.cells(hx:RepA w M L h x u)(hne:x≠.undef):aB w M L h x.cells u.cells.toList∨(∃k n,x=.arr k n)∨(∃k n i o,x=.eptr k n i o):=by
 have one:∀{q:AV}{v:Value},RepA w M L h q v->aB w M L h [q] [v]:=λhq=>.cons hq .nil
 cases hx with
 |pv hr=>exact .inl (aB.map_pv hr.cells)
 |ptr hk=>exact .inl (one (.ptr hk))
 |arr=>exact .inr (.inl ⟨_,_,rfl⟩)
 |eptr=>exact .inr (.inr ⟨_,_,_,_,rfl⟩)
 |agg cs vs hl hh=>exact .inl ⟨by simpa[AV.cells,Value.cells]using hl,λi p u hp hu=>hh i p u (by simpa[AV.cells]using hp) (by simpa[Value.cells]using hu)⟩
 |fn f first caps vs us hl hk h1 h2=>exact .inl (one (.fn f first caps vs us hl hk h1 h2))
 |tup cs vs hl hh=>exact .inl (one (.tup cs vs hl hh))
 |ext hx=>
  refine .inl ?_
  have e:u.cells.toList=[u]:=by
   cases hx with
   |suf hs0 _ _ _ _=>obtain⟨_,_,_,rfl⟩:=hs0;rfl
   |_=>rfl
  rw[e];exact one (.ext hx)
 |undef=>exact absurd rfl hne
def ah(f:Nat->α)(k:Nat)(v:α):Nat->α:=λn=>if n=k then v else f n
theorem aF(f:Nat->α)(k:Nat)(v:α):ah f k v k=v:=by simp[ah]
theorem bj{f:Nat->α}{v:α}(h:n≠k):ah f k v n=f n:=by simp[ah,h]
structure Ext(S:Nat->Prop)(w w':World):Prop where
 os:w'.os=w.os
 tape:w'.tape=w.tape
 output:w'.output=w.output
 size:w.heap.size<=w'.heap.size
 block:∀b,b<w.heap.size->¬S b->w'.heap[b]?=w.heap[b]?
theorem Ext.refl(S:Nat->Prop)(w:World):Ext S w w:=⟨rfl,rfl,rfl,Nat.le_refl _,λ_ _ _=>rfl⟩
theorem Ext.trans{S':Nat->Prop}{a b c:World}(h:Ext S a b)(k:Ext S' b c)(hs:∀x,x<a.heap.size->S' x->S x):Ext S a c:=
 ⟨k.os.trans h.os,k.tape.trans h.tape,k.output.trans h.output,Nat.le_trans h.size k.size,
   λi hi hn=>(k.block i (Nat.lt_of_lt_of_le hi h.size) (λhs'=>hn (hs i hi hs'))).trans (h.block i hi hn)⟩
theorem Ext.cell(h:Ext S w w')(hb:b<w.heap.size)(hs:¬S b):w'.cell? ⟨b,o,none⟩=w.cell? ⟨b,o,none⟩:=by
 simp only[World.cell?,h.block b hb hs]
theorem Ext.alloc(S:Nat->Prop)(w:World)(o:Obj):Ext S w (w.alloc o):=
 ⟨rfl,rfl,rfl,by simp,λb hb _=>RowKit.Below.heap_alloc w o b hb⟩
theorem Ext.drew(S:Nat->Prop)(w:World):Ext S w w.drew:=⟨rfl,rfl,rfl,Nat.le_refl _,λ_ _ _=>rfl⟩
structure Cx where
 P:Program
 N:Nat
 M0:Nat->Nat->Prop
 S:Nat->Prop
 pb:Nat->Option Nat
 pr:Nat->Option Loc:=λ_=>none
 hpr:∀k,k<2000000->pr k=none:=by intros;rfl
 w0:World
variable {C:Cx}
def Blk.live:Blk->Loc->Prop
 |.box _ _ _,_=>True
 |.row _ _ _ _,l=>l.isNil=false
 |.mp _ _ _ _,_=>True
def Blk.frz:Blk->Nat->Prop
 |.box _ _ fz,_=>fz=true
 |.row _ sz _ fz,o=>o<fz*sz
 |.mp _ _ _ fz,_=>fz=true
def ag(C:Cx)(L:Nat->Loc)(h:Hp)(b o:Nat):Prop:=C.M0 b o∨∃k blk,h k=some blk∧blk.live (L k)∧(L k).b=b∧¬blk.frz o
def db(w:World)(M:Nat->Nat->Prop)(L:Nat->Loc)(h:Hp)(l:Loc):Blk->Prop
 |.box cs _ _=>∃arr ty,w.heap[l.b]?=some (.cells arr ty (0,0))∧aB w M L h cs arr.toList
 |.row e sz xs fz=>0<sz∧fz<=xs.length∧(∀x∈xs,x.cells.length=sz)∧(l.isNil=true->xs=[])∧
   (l.isNil=false->xs.length<=l.cap∧l.cap<=maxLen∧∃arr,w.heap[l.b]?=some (.cells arr e (0,0))∧arr.size=l.cap*sz∧
     ∀(i:Nat) x(j:Nat) p,xs[i]?=some x->x.cells[j]?=some p->∃u,arr[i*sz+j]?=some u∧Rep w M p u)
 |.mp kd n es _=>∃arr clock,w.heap[l.b]?=some (.map arr clock)∧zL kd n es arr
def dT(C:Cx)(k:Nat)(l:Loc):Blk->Prop
 |.box _ false fz=>fz=false∧C.pb k=some l.b∧C.S l.b∧l.b<C.w0.heap.size∧∀o,C.M0 l.b o
 |.box _ true _=>C.w0.heap.size<=l.b∨(C.S l.b∧∀o,¬C.M0 l.b o)
 |.row _ _ _ _=>match C.pr k with
  |some l0=>l=l0∧(l.isNil=false->C.S l.b∧∀o,¬C.M0 l.b o)
  |none=>l.isNil=false->C.w0.heap.size<=l.b∨(C.S l.b∧∀o,¬C.M0 l.b o)
 |.mp _ _ _ _=>C.w0.heap.size<=l.b
theorem dT.row(h:dT C k l (.row e sz xs fz))(hn:l.isNil=false):C.w0.heap.size<=l.b∨(C.S l.b∧∀o,¬C.M0 l.b o):=by
 simp only[dT]at h;split at h
 .exact .inr (h.2 hn)
 .exact h hn
theorem dT.mkRow(hk:k<2000000)(h:l.isNil=false->C.w0.heap.size<=l.b):dT C k l (.row e sz xs fz):=by
 simp only[dT,C.hpr k hk];exact λhn=>.inl (h hn)
structure MemL(C:Cx)(L:Nat->Loc)(h:Hp)(w:World):Prop where
 ext:Ext C.S C.w0 w
 m0:∀b o,C.M0 b o->b<C.w0.heap.size
 bl:∀k blk,h k=some blk->db w (ag C L h) L h (L k) blk
 sep:∀k k' blk blk',k≠k'->h k=some blk->h k'=some blk'->blk.live (L k)->blk'.live (L k')->(L k).b≠(L k').b
 own:∀k blk,h k=some blk->dT C k (L k) blk
theorem db.lt(hb:db w M L h l blk)(hl:blk.live l):l.b<w.heap.size:=by
 have aux:∀{o:Obj},w.heap[l.b]?=some o->l.b<w.heap.size:=λ{o} e=>by
  rcases Nat.lt_or_ge l.b w.heap.size with h'|h'
  .exact h'
  .rw[Array.getElem?_eq_none h']at e;cases e
 cases blk with
 |box cs own fz=>obtain⟨arr,ty,e,_⟩:=hb;exact aux e
 |row e sz xs fz=>obtain⟨_,_,_,_,h5⟩:=hb;obtain⟨_,_,arr,e,_⟩:=h5 hl;exact aux e
 |mp kd n es fz=>obtain⟨arr,c,e,_⟩:=hb;exact aux e
theorem MemL.mlt(hm:MemL C L h w)(hb:ag C L h b o):b<w.heap.size:=by
 rcases hb with hb|⟨k,blk,hk,hl,rfl,_⟩
 .exact Nat.lt_of_lt_of_le (hm.m0 b o hb) hm.ext.size
 .exact(hm.bl k blk hk).lt hl
theorem tZ{o:Obj}(e:w.heap[b]?=some o):b<w.heap.size:=by
 rcases Nat.lt_or_ge b w.heap.size with h'|h'
 .exact h'
 .rw[Array.getElem?_eq_none h']at e;cases e
theorem Pres.ext(hx:Ext S w w')(hs:∀b,b<w.heap.size->S b->∀o,M b o)(hM:∀b o,b<w.heap.size->M' b o->M b o):Pres w M w' M':=by
 have ns:∀b o,b<w.heap.size->¬M b o->¬S b:=λb o hb hn h=>hn (hs b hb h o);refine⟨λb o v hc hn=>?_,λb arr c hc hn=>?_⟩
 .have hlt:=World.block_lt_of_cell? w ⟨b,o,none⟩ hc
  exact⟨(hx.cell hlt (ns b o hlt hn)).trans hc,λh=>hn (hM b o hlt h)⟩
 .have hlt:=tZ hc
  exact⟨(hx.block b hlt (ns b 0 hlt hn)).trans hc,λh=>hn (hM b 0 hlt h)⟩
theorem xX(h:w.cell? ⟨b,o,none⟩=some v):b<w.heap.size:=World.block_lt_of_cell? w ⟨b,o,none⟩ h
theorem db.mono(hb:db w M L h l blk)(hp:Pres w M w' M')(hc:KC L h L' h')
 (he:blk.live l->w'.heap[l.b]?=w.heap[l.b]?):db w' M' L' h' l blk:=by
 cases blk with
 |box cs own fz=>
  obtain⟨arr,ty,e,hl,hr⟩:=hb;exact⟨arr,ty,(he trivial).trans e,hl,λi p u h1 h2=>(hr i p u h1 h2).mono hp hc⟩
 |row et sz xs fz=>
  obtain⟨h1,h2,h3,h4,h5⟩:=hb;refine⟨h1,h2,h3,h4,λhn=>?_⟩;obtain⟨h6,h6',arr,e,h7,h8⟩:=h5 hn;refine⟨h6,h6',arr,(he hn).trans e,h7,λi x j p hx hj=>?_⟩;obtain⟨u,hu,hr⟩:=h8 i x j p hx hj;exact⟨u,hu,hr.mono hp⟩
 |mp kd n es fz=>
  obtain⟨arr,c,e,h1⟩:=hb;exact⟨arr,c,(he trivial).trans e,h1⟩
theorem db.same{l':Loc}(hb:db w M L h l blk)
 (e1:w=w')(e2:M=M')(e3:L=L')(e4:h=h')(e5:l=l'):db w' M' L' h' l' blk:=by subst e1;subst e2;subst e3;subst e4;subst e5;exact hb
theorem KC.trans{h'':Hp}(a:KC L h L' h')(b:KC L' h' L'' h''):KC L h L'' h'':=by
 intro k blk hk;obtain⟨blk',h1,h2⟩:=a k blk hk;obtain⟨blk'',h3,h4⟩:=b k blk' h1;refine⟨blk'',h3,?_⟩;cases blk<;>cases blk'<;>cases blk''<;>simp only[dg]at h2 h4|-
 .rw[h4,h2]
 .obtain⟨a0,a1,a2,a3⟩:=h2
  obtain⟨b0,b1,b2,b3⟩:=h4;refine⟨b0.trans a0,b1.trans a1,by omega,λe=>?_⟩;rw[b3 (by omega),a3 (by omega)]
 .exact⟨h4.1.trans h2.1,h4.2.1.trans h2.2.1,h4.2.2.trans h2.2.2⟩
theorem KC.new(hd:h d=none):KC L h (ah L d l) (ah h d (some blk)):=by
 intro k b hk
 have hne:k≠d:=λe=>by rw[e,hd]at hk;cases hk
 exact⟨b,by rw[bj hne];exact hk,by rw[bj hne];exact bW _ _⟩
theorem MemL.newKey(hm:MemL C L h w)(hd:h d=none)(hd2:d<2000000)(hx:Ext (λ_=>False) w w')
 (hown:blk.live l->w.heap.size<=l.b)(hown2:∀cs fz,blk≠.box cs false fz)
 (hb:db w' (λb o=>ag C L h b o∨(blk.live l∧b=l.b)) (ah L d l) (ah h d (some blk)) l blk):
 MemL C (ah L d l) (ah h d (some blk)) w'∧Pres w (ag C L h) w' (ag C (ah L d l) (ah h d (some blk)))∧KC L h (ah L d l) (ah h d (some blk)):=by
 have hkc:KC L h (ah L d l) (ah h d (some blk)):=KC.new hd
 have hM:∀b o,ag C (ah L d l) (ah h d (some blk)) b o->ag C L h b o∨(blk.live l∧b=l.b):=by
  rintro b o (h0|⟨k,blk',hk,hl,hb',hf⟩)
  .exact .inl (.inl h0)
  .by_cases e:k=d
   .subst e
    rw[aF]at hk hl hb';injection hk with hk;subst hk;exact .inr ⟨hl,hb'.symm⟩
   .rw[bj e]at hk hl hb'
    exact .inl (.inr ⟨k,blk',hk,hl,hb',hf⟩)
 have hpres:Pres w (ag C L h) w' (ag C (ah L d l) (ah h d (some blk))):=by
  refine Pres.ext hx (λ_ _ h=>h.elim) λb o hlt hM'=>?_;rcases hM b o hM' with h1|⟨h1,h2⟩
  .exact h1
  .have:=hown h1;omega
 refine⟨⟨hm.ext.trans hx (λ_ _ h=>h.elim),hm.m0,?_,?_,?_⟩,hpres,hkc⟩
 .intro k blk' hk
  by_cases e:k=d
  .subst e
   rw[aF]at hk|-;injection hk with hk;subst hk;exact hb.mono (Pres.sub hM) (KC.refl _ _) (λ_=>rfl)
  .rw[bj e]at hk|-
   exact(hm.bl k blk' hk).mono hpres hkc (λhl=>hx.block _ ((hm.bl k blk' hk).lt hl) (λh=>h))
 .intro k k' b1 b2 hne hk hk' hl hl'
  by_cases e:k=d
  .subst e
   have e':k'≠k:=λe=>hne e.symm;rw[bj e']at hk' hl'|-;rw[aF]at hk hl|-;injection hk with hk;subst hk;have:=(hm.bl k' b2 hk').lt hl';have:=hown hl;omega
  .rw[bj e]at hk hl|-
   by_cases e':k'=d
   .subst e'
    rw[aF]at hk' hl'|-;injection hk' with hk';subst hk';have:=(hm.bl k b1 hk).lt hl;have:=hown hl';omega
   .rw[bj e']at hk' hl'|-
    exact hm.sep k k' b1 b2 hne hk hk' hl hl'
 .intro k blk' hk
  by_cases e:k=d
  .subst e
   rw[aF]at hk|-;injection hk with hk;subst hk;have:=hm.ext.size
   cases blk with
   |box cs own fz=>
    cases own with
    |false=>exact absurd rfl (hown2 cs fz)
    |true=>have:=hown trivial;exact .inl (by omega)
   |row e sz xs fz=>exact dT.mkRow hd2 (λhl=>by have:=hown hl;omega)
   |mp kd n es fz=>have:=hown trivial;simp only[dT];omega
  .rw[bj e]at hk|-
   exact hm.own k blk' hk
theorem MemL.touch(hm:MemL C L h w){blk':Blk}(hk:h k=some blk)
 (hw:∀b,b<w.heap.size->(blk.live (L k)->b≠(L k).b)->w'.heap[b]?=w.heap[b]?)(hsz:w.heap.size<=w'.heap.size)(hos:w'.os=w.os)(htp:w'.tape=w.tape)(hout:w'.output=w.output)
 (hpr:∀o v,blk.live (L k)->blk.frz o->w.cell? ⟨(L k).b,o,none⟩=some v->w'.cell? ⟨(L k).b,o,none⟩=some v)(hfr:∀o,blk.frz o->blk'.frz o)(hcp:dg blk (L k) blk' (L k))
 (hlv:blk'.live (L k)↔blk.live (L k))(hown:dT C k (L k) blk')
 (hb:db w' (ag C L (ah h k (some blk'))) L (ah h k (some blk')) (L k) blk')(hnm:∀kd n es,blk≠.mp kd n es true:=by intro _ _ _ h;cases h):
 MemL C L (ah h k (some blk')) w'∧Pres w (ag C L h) w' (ag C L (ah h k (some blk')))∧KC L h L (ah h k (some blk')):=by
 have hkc:KC L h L (ah h k (some blk')):=by
  intro q b hq;by_cases e:q=k
  .subst e;rw[hk]at hq;injection hq with hq;subst hq;exact⟨blk',aF _ _ _,hcp⟩
  .exact⟨b,by rw[bj e];exact hq,bW _ _⟩
 have hM:∀b o,ag C L (ah h k (some blk')) b o->ag C L h b o:=by
  rintro b o (h0|⟨q,b',hq,hl,hb',hf⟩)
  .exact .inl h0
  .by_cases e:q=k
   .subst e
    rw[aF]at hq;injection hq with hq;subst hq;exact .inr ⟨q,blk,hk,hlv.1 hl,hb',λhff=>hf (hfr o hff)⟩
   .rw[bj e]at hq
    exact .inr ⟨q,b',hq,hl,hb',hf⟩
 have hpres:Pres w (ag C L h) w' (ag C L (ah h k (some blk'))):=by
  refine⟨?_,λb arr c hc hn=>⟨?_,λhM'=>hn (hM b 0 hM')⟩⟩
  case refine_2=>
   have hlt:=tZ hc;by_cases hl:blk.live (L k)
   .by_cases e:b=(L k).b
    .subst e
     have hr:=hm.bl k blk hk
     cases blk with
     |box cs own fz=>obtain⟨_,_,e,_⟩:=hr;rw[e]at hc;cases hc
     |row e sz xs fz=>obtain⟨_,_,_,_,h5⟩:=hr;obtain⟨_,_,_,e,_⟩:=h5 hl;rw[e]at hc;cases hc
     |mp kd n es fz=>
      cases fz with
      |true=>exact absurd rfl (hnm kd n es)
      |false=>exact absurd (Or.inr ⟨k,_,hk,hl,rfl,by simp[Blk.frz]⟩) hn
    .rw[hw b hlt (λ_=>e)];exact hc
   .rw[hw b hlt (λhl'=>absurd hl' hl)];exact hc
  intro b o v hc hn;have hlt:=xX hc;refine⟨?_,λhM'=>hn (hM b o hM')⟩;by_cases hl:blk.live (L k)
  .by_cases e:b=(L k).b
   .subst e
    by_cases hf:blk.frz o
    .exact hpr o v hl hf hc
    .exact absurd (Or.inr ⟨k,blk,hk,hl,rfl,hf⟩) hn
   .simp only[World.cell?,hw b hlt (λ_=>e)]at hc|-;exact hc
  .simp only[World.cell?,hw b hlt (λhl'=>absurd hl' hl)]at hc|-;exact hc
 refine⟨⟨?_,hm.m0,?_,?_,?_⟩,hpres,hkc⟩
 .refine⟨hos.trans hm.ext.os,htp.trans hm.ext.tape,hout.trans hm.ext.output,Nat.le_trans hm.ext.size hsz,λb hb' hS=>?_⟩
  rw[hw b (Nat.lt_of_lt_of_le hb' hm.ext.size),hm.ext.block b hb' hS];rintro hl rfl;have h1:=hm.own k blk hk
  cases blk with
  |box cs own fz=>
   cases own with
   |false=>exact hS h1.2.2.1
   |true=>rcases h1 with h2|h2
          .omega
          .exact hS h2.1
  |row e sz xs fz=>
   rcases h1.row hl with h2|h2
   .omega
   .exact hS h2.1
  |mp kd n es fz=>simp only[dT]at h1;omega
 .intro q b' hq
  by_cases e:q=k
  .subst e
   rw[aF]at hq;injection hq with hq;subst hq;exact hb
  .rw[bj e]at hq
   exact(hm.bl q b' hq).mono hpres hkc (λhl=>hw _ ((hm.bl q b' hq).lt hl) (λhl' e'=>hm.sep q k b' blk e hq hk hl hl' e'))
 .intro q q' b1 b2 hne hq hq' hl hl'
  by_cases e:q=k
  .subst e
   rw[aF]at hq;injection hq with hq;subst hq;rw[bj (λe=>hne e.symm)]at hq';exact hm.sep q q' blk b2 hne hk hq' (hlv.1 hl) hl'
  .rw[bj e]at hq
   by_cases e':q'=k
   .subst e'
    rw[aF]at hq';injection hq' with hq';subst hq';exact hm.sep q q' b1 blk hne hq hk hl (hlv.1 hl')
   .rw[bj e']at hq'
    exact hm.sep q q' b1 b2 hne hq hq' hl hl'
 .intro q b' hq
  by_cases e:q=k
  .subst e;rw[aF]at hq;injection hq with hq;subst hq;exact hown
  .rw[bj e]at hq;exact hm.own q b' hq
theorem MemL.move(hm:MemL C L h w){et:Nat}{xs':List PV}(hk:h k=some (.row et sz xs fz))(hk2:k<2000000)(hx:Ext (λ_=>False) w w'){l':Loc}
 (hown:l'.isNil=false∧w.heap.size<=l'.b)(hlen:xs.length<xs'.length)
 (hb:db w' (λb o=>ag C L h b o∨b=l'.b) (ah L k l') (ah h k (some (.row et sz xs' fz))) l' (.row et sz xs' fz)):
 MemL C (ah L k l') (ah h k (some (.row et sz xs' fz))) w'∧Pres w (ag C L h) w' (ag C (ah L k l') (ah h k (some (.row et sz xs' fz))))∧KC L h (ah L k l') (ah h k (some (.row et sz xs' fz))):=by
 have hkc:KC L h (ah L k l') (ah h k (some (.row et sz xs' fz))):=by
  intro q b hq;by_cases e:q=k
  .subst e;rw[hk]at hq;injection hq with hq;subst hq
   exact⟨_,aF _ _ _,rfl,rfl,by omega,λe=>by omega⟩
  .exact⟨b,by rw[bj e];exact hq,by rw[bj e];exact bW _ _⟩
 have hM:∀b o,ag C (ah L k l') (ah h k (some (.row et sz xs' fz))) b o->ag C L h b o∨b=l'.b:=by
  rintro b o (h0|⟨q,b',hq,hl,hb',hf⟩)
  .exact .inl (.inl h0)
  .by_cases e:q=k
   .subst e;rw[aF]at hb';exact .inr hb'.symm
   .rw[bj e]at hq hl hb';exact .inl (.inr ⟨q,b',hq,hl,hb',hf⟩)
 have hpres:Pres w (ag C L h) w' (ag C (ah L k l') (ah h k (some (.row et sz xs' fz)))):=by
  refine Pres.ext hx (λ_ _ h=>h.elim) λb o hlt hM'=>?_;rcases hM b o hM' with h1|h2
  .exact h1
  .omega
 refine⟨⟨hm.ext.trans hx (λ_ _ h=>h.elim),hm.m0,?_,?_,?_⟩,hpres,hkc⟩
 .intro q b' hq
  by_cases e:q=k
  .subst e
   rw[aF]at hq|-;injection hq with hq;subst hq;exact hb.mono (Pres.sub hM) (KC.refl _ _) (λ_=>rfl)
  .rw[bj e]at hq|-
   exact(hm.bl q b' hq).mono hpres hkc (λhl=>hx.block _ ((hm.bl q b' hq).lt hl) (λh=>h))
 .intro q q' b1 b2 hne hq hq' hl hl'
  by_cases e:q=k
  .subst e
   have e':q'≠q:=λe=>hne e.symm;rw[bj e']at hq' hl'|-;rw[aF]at hl|-;have:=(hm.bl q' b2 hq').lt hl';omega
  .rw[bj e]at hq hl|-
   by_cases e':q'=k
   .subst e'
    rw[aF]at hl'|-;have:=(hm.bl q b1 hq).lt hl;omega
   .rw[bj e']at hq' hl'|-
    exact hm.sep q q' b1 b2 hne hq hq' hl hl'
 .intro q b' hq
  have:=hm.ext.size;by_cases e:q=k
  .subst e
   rw[aF]at hq|-;injection hq with hq;subst hq;exact dT.mkRow hk2 (λ_=>by omega)
  .rw[bj e]at hq|-;exact hm.own q b' hq
theorem MemL.grow(hm:MemL C L h w)(hx:Ext (λ_=>False) w w'):MemL C L h w'∧Pres w (ag C L h) w' (ag C L h):=by
 have hpres:Pres w (ag C L h) w' (ag C L h):=Pres.ext hx (λ_ _ h=>h.elim) λ_ _ _ h=>h;exact⟨⟨hm.ext.trans hx (λ_ _ h=>h.elim),hm.m0,λk blk hk=>(hm.bl k blk hk).mono hpres (KC.refl _ _) (λhl=>hx.block _ ((hm.bl k blk hk).lt hl) (λh=>h)),hm.sep,hm.own⟩,hpres⟩
inductive TK where
 |one
 |struct(fs:List (Nat×Nat))
 |array(len esz:Nat)
 |slice(e esz ebytes:Nat)(ezero:Option Value)
structure TI where
 size:Nat
 zero:Option Value
 kind:TK
variable {ti:TI}
def mD(P:Program)(t:TypeId):Nat:=((P.info? t).map (·.size)).getD 0
def kH(P:Program)(t:TypeId):Bool:=match P.underlying t with
 |some (.struct fs)=>fs.toList.all λf=>(P.info? f.type).isSome
 |some (.array _ e)=>(P.info? e).isSome
 |_=>true
def ak(P:Program)(t:TypeId):Option TI:=
 if kH P t=false then none else
 match P.info? t,P.underlying t with
 |some i,some d=>some {size:=i.size,zero:=i.zero,kind:=match d with
   |.struct fs=>.struct (fs.toList.map λf=>(f.offset,mD P f.type))
   |.array n e=>.array n (mD P e)
   |.slice e=>match P.info? e with
    |some j=>.slice e j.size j.bytes j.zero
    |none=>.one
   |_=>.one}
 |_,_=>none
def Af(P:Program)(t:TypeId):Option (IntKind×Nat×TypeId):=match P.underlying t with
 |some (.map kt et)=>match P.underlying kt with
  |some (.array n e)=>match P.underlying e,P.info? e with
   |some (.int kd),some j=>if j.size=1 then some (kd,n,et)else none
   |_,_=>none
  |_=>none
 |_=>none
def oO(kd:IntKind):List Value->Option (List Int)
 |[]=>some []
 |.int k i::r=>if k=kd then(oO kd r).map (i::·)else none
 |_::_=>none
def sS(kd:IntKind)(n:Nat):AV->Option (List Int)
 |.pv (.val (.agg cs))=>match oO kd cs.toList with
  |some is=>if is.length=n then some is else none
  |none=>none
 |_=>none
def CW:List (List Int×Value)->List Int->Option Value
 |[],_=>none
 |(k,v)::r,is=>if k=is then some v else CW r is
def rF:List (List Int×Value)->List Int->Value->List (List Int×Value)
 |[],is,u=>[(is,u)]
 |(k,v)::r,is,u=>if k=is then(is,u)::r else(k,v)::rF r is u
def TK.isAgg:TK->Bool
 |.struct _|.array _ _=>true
 |_=>false
def al{α:Type}(P:Program):Sem α->Option α
 |.pure a=>some a
 |.program k=>al P (k P)
 |_=>none
def t6:AV->List Nat
 |.ptr k _|.arr k _|.eptr k _ _ _=>[k]
 |.ext x=>[x.key]
 |_=>[]
def H7:AV->List Nat
 |.agg cs=>cs.flatMap t6
 |.fn _ f c=>(f++c).flatMap t6
 |.tup vs=>vs.flatMap t6
 |x=>t6 x
abbrev dm:=AV×List (Nat×Blk)
def kI:Value->Bool
 |.slice none 0 0=>true
 |_=>false
def lH:AV->Bool
 |.pv (.val v)=>kI v
 |_=>false
def t7:PV->PV
 |.val v=>if kI v then .sl []else .val v
 |p=>p
def Ag(v:Value):Bool:=match v with
 |.agg cs=>cs.toList.any kI
 |_=>false
def CX(p:PV):PV:=match p with
 |.val v=>if kI v then .sl []else if Ag v then fL (p.cells.map t7)else .val v
 |.agg cs=>fL (cs.map t7)
 |p=>p
def nh:PV->Bool
 |.agg _=>true
 |.val (.agg _)=>true
 |_=>false
def i8:PV->Bool
 |.val v=>v.oneCell'
 |.agg _=>false
 |.tup _=>false
 |_=>true
def sT(h:Hp):AV->Bool
 |.pv p=>i8 p
 |.ptr _ _=>true
 |.arr k n=>match h k with
  |some (.row _ _ xs _)=>xs.length==n
  |_=>false
 |.fn _ _ _=>true
 |.ext _=>true
 |_=>false
def lI(esz:Nat)(y:PV):Bool:=y.cells.length==esz&&y.cells.all i8
def eT(h:Hp):AV->Option (List AV×Nat)
 |.ptr k off=>match h k with
  |some (.box cs _ _)=>some (cs,off)
  |_=>none
 |.pv (.rptr x off)=>some (x.cells.map .pv,off)
 |.eptr k n i off=>match h k with
  |some (.row _ _ xs _)=>if xs.length=n then(match xs[i]? with
   |some x=>some (x.cells.map .pv,off)
   |none=>none)else none
  |_=>none
 |_=>none
def wv(h:Hp)(sz:Nat):AV->Option PV
 |.pv (.rptr x 0)=>if nh x&&x.cells.length==sz then some x else none
 |.eptr k n i 0=>match h k with
  |some (.row _ _ xs _)=>if xs.length=n then(match xs[i]? with
   |some x=>if nh x&&x.cells.length==sz then some x else none
   |none=>none)else none
  |_=>none
 |_=>none
def sU(ti:TI)(x:AV)(h:Hp):Option AV:=
 if ti.kind.isAgg then
  match wv h ti.size x with
  |some p=>some (.pv p)
  |none=>match eT h x with
   |some (cs,off)=>if off+ti.size<=cs.length then some (qM ((cs.drop off).take ti.size))else none
   |none=>none
 else match eT h x with
  |some (cs,off)=>cs[off]?
  |none=>none
def ge(h:Hp):AV->Option (List AV)
 |.undef=>none
 |.eptr _ _ _ _=>none
 |.arr k n=>match h k with
  |some (.row _ _ xs _)=>if xs.length=n then some [.arr k n]else none
  |_=>none
 |x=>some x.cells
def cE(cs:List α)(off:Nat)(vs:List α):List α:=cs.take off++vs++cs.drop (off+vs.length)
def jN(h:Hp):AV->Option (PV×List (Nat×Blk))
 |.pv p=>some (CX p,[])
 |.arr k n=>match h k with
  |some (.row e sz xs _)=>if xs.length=n then some (.sl xs,[(k,.row e sz xs xs.length)])else none
  |_=>none
 |.ext (.mp k)=>match h k with
  |some (.mp kd n es _)=>some (.mp kd n es,[(k,.mp kd n es true)])
  |_=>none
 |_=>none
def kV(h:Hp):List AV->Option (List PV×List (Nat×Blk))
 |[]=>some ([],[])
 |x::r=>match jN h x,kV h r with
  |some (p,W),some (ps,W')=>some (p::ps,W++W')
  |_,_=>none
def qx(h:Hp):AV->Option (PV×List (Nat×Blk))
 |.ext (.barr k n _)=>match h k with
  |some (.box cs true _)=>if cs.length=n then(match kV h cs with
   |some (ps,W)=>if ps.all i8=true then some (.sl ps,W++[(k,.box cs true true)])else none
   |none=>none)else if n<=cs.length then(match kV h cs with
   |some (ps,W)=>if ps.all i8=true then some (.sl (ps.take n),W++[(k,.box cs true true)])else none
   |none=>none)else none
  |_=>none
 |x=>jN h x
def nH(h:Hp):List AV->Option (List PV×List (Nat×Blk))
 |[]=>some ([],[])
 |x::r=>match qx h x,nH h r with
  |some (p,W),some (ps,W')=>some (p::ps,W++W')
  |_,_=>none
def ir:List PV->Bool
 |[p]=>i8 p
 |_=>false
def oP(h:Hp):AV->Option (PV×List (Nat×Blk))
 |.pv p=>some (p,[])
 |.ptr k 0=>match h k with
  |some (.box cs true _)=>match jy cs with
   |some ps=>if ir ps=true then some (.rptr (ps.headD default) 0,[(k,.box cs true true)])
    else some (.rptr (fL ps) 0,[(k,.box cs true true)])
   |none=>match nH h cs with
    |some (ps,W)=>if ir ps=true then some (.rptr (ps.headD default) 0,W++[(k,.box cs true true)])
     else some (.rptr (fL ps) 0,W++[(k,.box cs true true)])
    |none=>none
  |_=>none
 |_=>none
def jo(h:Hp):List AV->Option (List PV×List (Nat×Blk))
 |[]=>some ([],[])
 |x::r=>match oP h x,jo h r with
  |some (p,W),some (ps,W')=>some (p::ps,W++W')
  |_,_=>none
def xY(h:Hp):AV->Option (PV×List (Nat×Blk))
 |.agg cs=>match nH h cs with
  |some (ps,W)=>some (fL ps,W)
  |none=>none
 |.fn f first caps=>match nH h first,jo h caps with
  |some (ps,W),some (qs,W')=>some (.fn f ps qs,W++W')
  |_,_=>none
 |x=>qx h x
def mR(h:Hp):List AV->Option (List PV×List (Nat×Blk))
 |[]=>some ([],[])
 |x::r=>match xY h x,mR h r with
  |some (p,W),some (ps,W')=>some (p::ps,W++W')
  |_,_=>none
def frz(h:Hp):AV->Option (PV×List (Nat×Blk))
 |.agg cs=>match mR h cs with
  |some (ps,W)=>some (fL ps,W)
  |none=>none
 |.fn f first caps=>match nH h first,jo h caps with
  |some (ps,W),some (qs,W')=>some (.fn f ps qs,W++W')
  |_,_=>none
 |.tup vs=>match mR h vs with
  |some (ps,W)=>some (.tup ps,W)
  |none=>none
 |x=>qx h x
def jO:PV->Bool
 |.val _=>true
 |.agg cs=>cs.all λc=>match c with|.val _=>true|_=>false
 |_=>false
def vk(h:Hp):AV->Option PV
 |.pv p=>if jO p=true then some p else none
 |.arr k n=>match h k with
  |some (.row _ _ xs _)=>if xs.length=n∧k<2000000∧xs.all jO=true then some (.sl xs)else none
  |_=>none
 |.ext (.mp k)=>match h k with
  |some (.mp kd n es _)=>some (.mp kd n es)
  |_=>none
 |_=>none
def t8(h:Hp):List AV->Option (List PV)
 |[]=>some []
 |x::r=>match vk h x,t8 h r with
  |some p,some ps=>some (p::ps)
  |_,_=>none
def xZ(h:Hp):AV->Option PV
 |.ext (.barr k n _)=>match h k with
  |some (.box cs true _)=>if cs.length=n then(match t8 h cs with
   |some ps=>if ps.all i8=true then some (.sl ps)else none
   |none=>none)else none
  |_=>none
 |x=>vk h x
def sV(h:Hp):List AV->Option (List PV)
 |[]=>some []
 |x::r=>match xZ h x,sV h r with
  |some p,some ps=>some (p::ps)
  |_,_=>none
def ww(h:Hp):AV->Option PV
 |.ptr k 0=>match h k with
  |some (.box cs true _)=>match sV h cs with
   |some ps=>if ir ps=true then some (.rptr (ps.headD default) 0)else some (.rptr (fL ps) 0)
   |none=>none
  |_=>none
 |x=>xZ h x
def ow(h:Hp):List AV->Option (List PV)
 |[]=>some []
 |x::r=>match ww h x,ow h r with
  |some p,some ps=>some (p::ps)
  |_,_=>none
def GC(h:Hp):AV->Option PV
 |.fn f first caps=>match sV h first,ow h caps with
  |some ps,some qs=>some (.fn f ps qs)
  |_,_=>none
 |.tup vs=>match sV h vs with
  |some ps=>some (.tup ps)
  |none=>none
 |x=>xZ h x
def ua(ti:TI)(x v:AV)(h:Hp):Option (List (Nat×Blk)):=
 match x with
 |.ptr k off=>match h k,ge h v with
  |some (.box cs own false),some vc=>if vc.length=ti.size∧off+vc.length<=cs.length∧vc.all (sT h)=true then some [(k,.box (cE cs off vc) own false)]else none
  |_,_=>none
 |.eptr k n i off=>match h k with
  |some (.row e sz xs fz)=>
   if xs.length=n∧fz<=i then
    match xs[i]?,qx h v with
    |some y,some (p,[])=>
     if lI ti.size p=true then
      if off=0∧ti.size=sz then some [(k,.row e sz (xs.set i p) fz)]
      else if off+ti.size<=sz∧nh y then some [(k,.row e sz (xs.set i (fL (cE y.cells off p.cells))) fz)]
      else none
     else none
    |_,_=>none
   else none
  |_=>none
 |_=>none
def qN(h:Hp)(k n:Nat):Bool:=match h k with
 |some (.row _ _ xs _)=>xs.length==n
 |_=>false
def mS(ti:TI)(x:AV)(f:Nat)(h:Hp):Option AV:=
 match ti.kind with
 |.struct fs=>match fs[f]? with
  |some (o,s)=>if s=0 then none else match x with
   |.ptr k off=>some (.ptr k (off+o))
   |.pv (.rptr y off)=>some (.pv (.rptr y (off+o)))
   |.eptr k n i off=>if qN h k n=true then some (.eptr k n i (off+o))else none
   |_=>none
  |none=>none
 |_=>none
def mT(ti:TI)(x:AV)(i:Int)(h:Hp):Option AV:=
 match ti.kind with
 |.slice _ esz _ _=>match x with
  |.pv (.sl xs)=>if 0<=i then(match xs[i.toNat]? with
   |some y=>if y.cells.length=esz then some (.pv (.rptr y 0))else none
   |none=>none)else none
  |.arr k n=>match h k with
   |some (.row _ sz xs _)=>if xs.length=n∧sz=esz∧0<=i∧i.toNat<n then some (.eptr k n i.toNat 0)else none
   |_=>none
  |_=>none
 |.array len esz=>if 0<=i∧i.toNat<len then match x with
   |.ptr k off=>some (.ptr k (off+i.toNat*esz))
   |.pv (.rptr y off)=>some (.pv (.rptr y (off+i.toNat*esz)))
   |.eptr k n j off=>if qN h k n=true then some (.eptr k n j (off+i.toNat*esz))else none
   |_=>none
  else none
 |_=>none
def rG(ti:TI)(x:AV)(i:Int)(h:Hp):Option AV:=
 match ti.kind,x with
 |.slice _ 1 _ _,.ext (.barr k n _)=>if 0<=i∧i.toNat<n then some (.ptr k i.toNat)else none
 |.slice _ esz _ _,.ext (.suf k o n t)=>match h k with
  |some (.row _ sz xs _)=>if xs.length=t∧sz=esz∧0<=i∧i.toNat<n then some (.eptr k t (o+i.toNat) 0)else none
  |_=>none
 |_,_=>none
def ya:Option AV->Option AV->Option AV
 |some v,_=>some v
 |none,y=>y
def rH(place:Nat->Option (Nat×Nat))(cells:List AV):List (Nat×List AV)->Option (List AV)
 |[]=>some cells
 |(i,vs)::rest=>match place i with
  |none=>none
  |some (off,size)=>if vs.length≠size∨off+vs.length>cells.length then none else rH place (cE cells off vs) rest
def oA(h:Hp)(ρ:Operand->AV):List (Nat×Operand)->Option (List (Nat×List AV))
 |[]=>some []
 |(i,x)::r=>match ge h (ρ x),oA h ρ r with
  |some cs,some ps=>some ((i,cs)::ps)
  |_,_=>none
def ub(ti:TI)(ps:List (Nat×List AV)):Option AV:=
 match ti.zero with
 |none=>none
 |some z=>
  let zc:=z.cells.toList.map λv=>AV.pv (.val v)
  match ti.kind with
  |.struct fs=>(rH (λi=>fs[i]?) zc ps).map qM
  |.array _ esz=>(rH (λi=>some (i*esz,esz)) zc ps).map qM
  |_=>none
def CY(raw:Bool)(h:Hp)(x:AV):Option (PV×List (Nat×Blk)):=match raw,x with
 |true,.pv (.val v)=>some (.val v,[])
 |_,x=>frz h x
def D7(hn:List Nat)(d:Option Nat):Bool:=match d with
 |some d=>hn.contains (d+2000000)
 |none=>false
def oB(h:Hp)(ρ:Operand->AV)(esz:Nat)(raw:Bool):Nat->List (Nat×Operand)->Option (List PV×List (Nat×Blk))
 |_,[]=>some ([],[])
 |k,(i,x)::r=>if i=k then match CY raw h (ρ x),oB h ρ esz raw (k+1) r with
   |some (p,W),some (ps,W')=>if p.cells.length=esz then some (p::ps,W++W')else none
   |_,_=>none
  else none
def eU(h:Hp):AV->Option (List PV)
 |.pv (.sl ys)=>some ys
 |.pv (.val v)=>if kI v then some []else none
 |.arr k n=>match h k with
  |some (.row _ _ xs _)=>if xs.length=n then some xs else none
  |_=>none
 |_=>none
def rI(ti:TI)(d:Option Nat)(s x:AV)(h:Hp):Option dm:=
 match ti.kind with
 |.slice et esz ebytes (some z)=>
  match eU h x with
  |none=>none
  |some ys=>
   if 0<esz∧z.cells.size=esz∧ys.all (lI esz)=true then
    match s with
    |.arr k n=>match h k with
     |some (.row e sz xs fz)=>
      if k<2000000∧xs.length=n∧e=et∧sz=esz∧(n+ys.length)*ebytes<=140737488355328∧n+ys.length<=9223372036854775807 then some (.arr k (n+ys.length),[(k,.row e sz (xs++ys) fz)])else none
     |_=>none
    |.pv (.val v)=>
     if kI v then match d with
      |some d=>if(h d).isNone∧ys.length*ebytes<=140737488355328∧ys.length<=9223372036854775807 then some (.arr d ys.length,[(d,.row et esz ys 0)])else none
      |none=>none
     else none
    |_=>none
   else none
 |_=>none
def wx(ti:TI)(s x:AV)(h:Hp):Option dm:=
 match ti.kind,s with
 |.slice _ esz _ _,.arr k n=>match h k,eU h x with
  |some (.row e sz xs 0),some ys=>
   if xs.length=n∧sz=esz∧ys.all (lI esz)=true then
    some (.pv (.val (.int .i64 (Nat.min ys.length n:Nat))),[(k,.row e sz (ys.take (Nat.min ys.length n)++xs.drop (Nat.min ys.length n)) 0)])else none
  |_,_=>none
 |_,_=>none
def zM(ti:TI)(x:AV)(h:Hp):Option AV:=
 match ti.kind,x with
 |.slice _ _ _ _,.pv (.sl xs)=>some (.pv (.val (.int .i64 (xs.length:Nat))))
 |.slice _ _ _ _,.pv (.hd n)=>some (.pv (.val (.int .i64 (n:Nat))))
 |.slice _ _ _ _,.arr k n=>match h k with
  |some (.row _ _ xs _)=>if xs.length=n then some (.pv (.val (.int .i64 (n:Nat))))else none
  |_=>none
 |.slice _ _ _ _,.ext (.barr _ n _)=>some (.pv (.val (.int .i64 (n:Nat))))
 |.slice _ _ _ _,.ext (.suf k o n t)=>match h k with
  |some (.row _ _ xs _)=>if xs.length=t then some (.pv (.val (.int .i64 (n:Nat))))else none
  |_=>none
 |_,_=>none
def ud(ti:TI)(hn:List Nat)(d:Option Nat)(l c:AV)(h:Hp):Option dm:=
 match ti.kind,l,c,d with
 |.slice _ 1 ebytes (some z),.pv (.val (.int _ n)),.pv (.val (.int _ m)),some d=>
  if hn.contains (d+1000000)=true∧i8 (.val z)=true∧m=n∧0<=n∧(ebytes:Int)*n<=281474976710656∧n<=9223372036854775807∧(h d).isNone then
   some (.ext (.barr d n.toNat n.toNat),[(d,.box (List.replicate n.toNat (.pv (.val z))) true false)])
  else none
 |_,_,_,_=>none
def yb:Option dm->Option dm->Option dm
 |some v,_=>some v
 |none,y=>y
def pP(P:Program)(t:TypeId)(d:Option Nat)(h:Hp):Option dm:=
 match Af P t,d with
 |some (kd,n,_),some d=>if(h d).isNone then some (.ext (.mp d),[(d,.mp kd n [] false)])else none
 |_,_=>none
def GD(P:Program)(t:TypeId):Option Value:=(P.info? t).bind (·.zero)
def ue(z:Option Value)(ok:Bool):Option Value->Option AV
 |some v=>some (.pv (if ok then .tup [.val v,.val (.bool true)]else .val v))
 |none=>match z with
  |some z=>some (.pv (if ok then .tup [.val z,.val (.bool false)]else .val z))
  |none=>none
def zO(h:Hp):AV->Option (IntKind×Nat×List (List Int×Value))
 |.ext (.mp k)=>match h k with
  |some (.mp kd n es _)=>some (kd,n,es)
  |_=>none
 |.pv (.mp kd n es)=>some (kd,n,es)
 |_=>none
def rJ(P:Program)(t:TypeId)(x i:AV)(ok:Bool)(h:Hp):Option AV:=
 match Af P t,zO h x with
 |some (kd,n,et),some (kd',n',es)=>if kd'=kd∧n'=n then match sS kd n i with
   |some is=>ue (GD P et) ok (CW es is)
   |none=>none else none
 |_,_=>none
def EI(P:Program)(t:TypeId)(x i v:AV)(h:Hp):Option (List (Nat×Blk)):=
 match Af P t,x,v with
 |some (kd,n,_),.ext (.mp k),.pv (.val v)=>match h k,sS kd n i with
  |some (.mp kd' n' es false),some is=>if kd'=kd∧n'=n then some [(k,.mp kd n (rF es is v) false)]else none
  |_,_=>none
 |_,_,_=>none
def wy(ti:TI)(d:Option Nat)(l c:AV)(h:Hp):Option dm:=
 match ti.kind,l,c,d with
 |.slice e esz ebytes (some z),.pv (.val (.int _ n)),.pv (.val (.int _ m)),some d=>
  if 0<esz∧z.cells.size=esz∧m=n∧0<=n∧(ebytes:Int)*n<=281474976710656∧n<=9223372036854775807∧(h d).isNone then
   some (.arr d n.toNat,[(d,.row e esz (List.replicate n.toNat (.val z)) 0)])
  else none
 |_,_,_,_=>none
def lj(ti:TI)(x:AV)(lo hi:Option AV):Option AV:=
 match ti.kind,x with
 |.slice _ esz _ _,.pv (.sl xs)=>
  let l:=match lo with|none=>some 0|some (.pv (.val (.int _ n)))=>if 0<=n then some n.toNat else none|_=>none
  let r:=match hi with|none=>some xs.length|some (.pv (.val (.int _ n)))=>if 0<=n then some n.toNat else none|_=>none
  match l,r with
  |some l,some r=>if l<=r∧r<=xs.length∧0<esz∧xs.all (lI esz)=true then some (.pv (.sl ((xs.take r).drop l)))else none
  |_,_=>none
 |_,_=>none
def fl:AV->Option Value
 |.pv (.val v)=>some v
 |_=>none
def rL(x:AV):Value:=(fl x).getD undef
def bz(P:Program)(o:Oper)(ρ:Operand->AV):Option dm:=
 if(o.op.operands.toList.all λx=>(fl (ρ x)).isSome)=true then
  match al P (execOp (λx=>rL (ρ x)) o)with
  |some (.value v)=>some (.pv (.val v),[])
  |_=>none
 else none
def yc(op:BinOp)(k:IntKind)(a b:Int):Int:=match op with
 |.and=>k.wrap (BitVec.ofInt k.bits a &&& BitVec.ofInt k.bits b).toNat
 |.or=>k.wrap (BitVec.ofInt k.bits a ||| BitVec.ofInt k.bits b).toNat
 |.xor=>k.wrap (BitVec.ofInt k.bits a ^^^ BitVec.ofInt k.bits b).toNat
 |_=>k.wrap (BitVec.ofInt k.bits a &&& ~~~BitVec.ofInt k.bits b).toNat
def qO(op:BinOp)(x y:AV):Option Value:=
 match x,y with
 |.pv (.val (.int k a)),.pv (.val (.int k' b))=>match op with
  |.shl=>if 0<=b then some (.int k (k.wrap (a*2^(min b.toNat k.bits))))else none
  |.shr=>if 0<=b then some (.int k (a.fdiv (2^(min b.toNat k.bits))))else none
  |.add=>if k=k' then some (.int k (k.wrap (a+b)))else none
  |.sub=>if k=k' then some (.int k (k.wrap (a-b)))else none
  |.mul=>if k=k' then some (.int k (k.wrap (a*b)))else none
  |.quo=>if k=k'∧b≠0 then some (.int k (k.wrap (a.tdiv b)))else none
  |.rem=>if k=k'∧b≠0 then some (.int k (a.tmod b))else none
  |.eql=>if k=k' then some (.bool (a==b))else none
  |.neq=>if k=k' then some (.bool (a !=b))else none
  |.lss=>if k=k' then some (.bool (decide (a<b)))else none
  |.leq=>if k=k' then some (.bool (decide (a<=b)))else none
  |.gtr=>if k=k' then some (.bool (decide (b<a)))else none
  |.geq=>if k=k' then some (.bool (decide (b<=a)))else none
  |.and=>if k=k' then some (.int k (yc .and k a b))else none
  |.or=>if k=k' then some (.int k (yc .or k a b))else none
  |.xor=>if k=k' then some (.int k (yc .xor k a b))else none
  |.andNot=>if k=k' then some (.int k (yc .andNot k a b))else none
 |.pv (.val (.string a)),.pv (.val (.string b))=>match op with
  |.eql=>some (.bool (a.toList==b.toList))
  |.neq=>some (.bool !(a.toList==b.toList))
  |_=>none
 |_,_=>none
def wA(op:UnOp)(x:AV):Option Value:=
 match op,x with
 |.not,.pv (.val (.bool b))=>some (.bool !b)
 |.neg,.pv (.val (.int k n))=>some (.int k (k.wrap (0-n)))
 |_,_=>none
def dh(P:Program)(t:TypeId):Option IntKind:=match P.underlying t with
 |some (.int k)=>some k
 |_=>none
def oN(P:Program)(s d:TypeId)(x:AV):Option Value:=
 match dh P s,dh P d,x with
 |some _,some k,.pv (.val (.int _ n))=>some (.int k (k.wrap n))
 |_,_,_=>none
def uf:List AV->Option Value
 |[.pv (.val (.int k a)),.pv (.val (.int _ b))]=>some (.int k (if b<a then b else a))
 |_=>none
def ug:List AV->Option Value
 |[.pv (.val (.int k a)),.pv (.val (.int _ b))]=>some (.int k (if b>a then b else a))
 |_=>none
def lJ(P:Program)(o:Oper)(ρ:Operand->AV):Option Value->Option dm
 |some v=>some (.pv (.val v),[])
 |none=>bz P o ρ
def Ah:AV->Option Int
 |.pv (.val (.int _ n))=>some n
 |_=>none
def sW(P:Program)(o:Oper)(b:Builtin)(args:List AV)(ts:List TypeId)(ρ:Operand->AV)(h:Hp):Option dm:=
 match b,args,ts with
 |.len,[x],[t]=>match x with
  |.pv (.val _)=>bz P o ρ
  |_=>match ak P t with
   |some ti=>(zM ti x h).map λv=>(v,[])
   |none=>none
 |.append,[s,x],[t,t']=>if t=t' then match ak P t with
   |some ti=>rI ti o.dst s x h
   |none=>none
  else none
 |.copy,[s,x],[t,_]=>match ak P t with
  |some ti=>wx ti s x h
  |none=>none
 |.min,_,_=>lJ P o ρ (uf args)
 |.max,_,_=>lJ P o ρ (ug args)
 |_,_,_=>none
def fT(P:Program)(t:TypeId):Option (Option Nat):=match P.underlying t with
 |some .string=>some none
 |some (.array n e)=>match P.underlying e with
  |some (.struct _)=>none
  |some (.array _ _)=>none
  |some _=>if mD P e=1∧(P.info? e).isSome=true then some (some n)else none
  |none=>none
 |_=>none
def wC:Option (Option Nat)->AV->AV->Option Value
 |some none,.pv (.val (.string s)),.pv (.val (.int _ i))=>if 0<=i then(s[i.toNat]?).map λb=>.int .u8 b.toNat else none
 |some (some n),.pv (.val (.agg cs)),.pv (.val (.int _ i))=>if 0<=i∧i<n then cs[i.toNat]? else none
 |_,_,_=>none
def lK(P:Program)(t:TypeId):Option Bool:=match P.underlying t with
 |some (.struct _)=>some true
 |some (.array _ _)=>some true
 |some _=>some false
 |none=>none
def o7(P:Program)(t:TypeId):Option (Nat×Nat):=match P.underlying t with
 |some (.array n e)=>match lK P e,P.info? e with
  |some true,some j=>some (n,j.size)
  |_,_=>none
 |_=>none
def vm(cs:Array Value)(off sz:Nat):Value:=.agg ((cs.toList.drop off).take sz).toArray
def wD:Option (Nat×Nat)->AV->AV->Option Value
 |some (n,sz),.pv (.val (.agg cs)),.pv (.val (.int _ i))=>if 0<=i∧i<n then some (vm cs (i.toNat*sz) sz)else none
 |_,_,_=>none
def qP(P:Program)(t:TypeId)(f:Nat):Option (Bool×Nat×Nat):=match P.underlying t with
 |some (.struct fs)=>match fs[f]? with
  |some fd=>match lK P fd.type,P.info? fd.type with
   |some b,some j=>some (b,fd.offset,j.size)
   |_,_=>none
  |none=>none
 |_=>none
def uj:Option (Bool×Nat×Nat)->AV->Option Value
 |some (true,off,sz),.pv (.val (.agg cs))=>some (vm cs off sz)
 |some (false,off,_),.pv (.val (.agg cs))=>cs[off]?
 |_,_=>none
def uk:Option Value->Option Value->Option Value
 |some v,_=>some v
 |none,y=>y
def zQ(f:Fn):List AV->List AV->AV
 |x::r,[]=>match jy (x::r)with
  |some ps=>match dF ps with
   |some vs=>.pv (.val (.func f vs.toArray #[]))
   |none=>.pv (.fn f ps [])
  |none=>.fn f (x::r) []
 |first,caps=>.fn f first caps
def rO(h:Hp):AV->Option Bool
 |.pv (.val v)=>if kI v then some true else none
 |.pv (.sl xs)=>if xs.isEmpty then none else some false
 |.arr k n=>match h k with
  |some (.row _ _ xs _)=>if xs.length=n∧n≠0 then some false else none
  |_=>none
 |_=>none
def oC(h:Hp):AV->Bool
 |.pv (.sl xs)=>xs.isEmpty
 |.arr k n=>match h k with
  |some (.row _ _ xs _)=>decide (xs.length=n)&&decide (n=0)
  |_=>false
 |_=>false
def lc(P:Program)(t:TypeId):Bool:=match ak P t with
 |some {kind:=.slice _ _ _ _,..}=>true
 |_=>false
def wE(op:BinOp):Option Bool->Option Bool
 |none=>none
 |some b=>match op with
  |.eql=>some b
  |.neq=>some !b
  |_=>none
def Ai(P:Program)(h:Hp)(ρ:Operand->AV)(op:BinOp)(t:TypeId)(x y:Operand):Option Bool:=
 if(lH (ρ y)&&lc P t)=true then wE op (rO h (ρ x))else none
def vn(P:Program)(hn:List Nat)(dst:Option Nat)(h:Hp)(t:TypeId)(len:Nat)(ps:List (Nat×Operand)):Option dm:=
 match len,ps,dst with
 |0,[],some d=>if hn.contains d=true then match ak P t with
   |some {kind:=.slice e esz _ (some _),..}=>if(h d).isNone∧0<esz then some (.arr d 0,[(d,.row e esz [] 0)])else none
   |_=>none
  else none
 |_,_,_=>none
def Aj(hn:List Nat)(dst:Option Nat)(h:Hp)(W:List (Nat×Blk)):Option Nat:=match dst,W with
 |some d,[]=>if(hn.contains d&&(h d).isNone)=true then some d else none
 |_,_=>none
def GE(ti:TI)(h:Hp)(x:AV)(lo hi:Option AV):Option dm:=match qx h x with
 |some (p,W)=>match lj ti (.pv p) lo hi with
  |some v=>some (v,W)
  |none=>none
 |none=>none
def qQ(P:Program)(t:TypeId):Bool:=match P.underlying t with
 |some (.interface _)=>false
 |some _=>true
 |none=>false
def yd(P:Program)(t:TypeId)(p:PV)(a:TypeId)(ok:Bool):Option AV:=
 if t=a then some (if ok then .pv (.tup [p,.val (.bool true)])else .pv p)
 else if ok then match(ak P a).bind (·.zero)with
  |some z=>some (.pv (.tup [.val z,.val (.bool false)]))
  |none=>none
 else none
def wF(P:Program)(t:TypeId)(name:String):Option FuncId:=match P.info? t with
 |some i=>match i.methods.find? (·.name==name)with
  |some m=>if m.path.isEmpty then(match m.func,P.underlying t with
    |some (_,true),_=>none
    |some (_,false),some (.pointer _)=>none
    |some (f,false),some _=>some f
    |_,_=>none)else none
  |none=>none
 |none=>none
def nI(P:Program)(name:String):AV->AV
 |.pv (.ifc t p)=>match wF P t name with
  |some f=>.fn (.func f) [.pv p] []
  |none=>.undef
 |_=>.undef
def du(P:Program)(hn:List Nat)(o:Oper)(ρ:Operand->AV)(h:Hp):Option dm:=
 match o.op with
 |.move x=>some (ρ x,[])
 |.assign x=>match o.dst with
  |some d=>if(hn.contains d&&lH (ρ x))=true then
    match ak P o.type with
    |some {kind:=.slice e esz _ _,..}=>if(h d).isNone∧0<esz then some (.arr d 0,[(d,.row e esz [] 0)])else none
    |_=>none
   else some (ρ x,[])
  |none=>some (ρ x,[])
 |.pick c a b=>match ρ c with
  |.pv (.val (.bool t))=>some (if t then ρ a else ρ b,[])
  |_=>none
 |.alloc e=>match ak P e,o.dst with
  |some {zero:=some z,..},some d=>if(h d).isNone then some (.ptr d 0,[(d,.box (z.cells.toList.map λv=>.pv (.val v)) true false)])else none
  |_,_=>none
 |.box _ x=>match ge h (ρ x),o.dst with
  |some cs,some d=>if(h d).isNone then some (.ptr d 0,[(d,.box cs true false)])else none
  |_,_=>none
 |.build t ps=>match ak P t,oA h ρ ps.toList with
  |some ti,some qs=>(ub ti qs).map λv=>(v,[])
  |_,_=>none
 |.buildSlice t len ps=>match vn P hn o.dst h t len ps.toList with
  |some eff=>some eff
  |none=>match ak P t with
   |some {kind:=.slice e esz _ (some _),..}=>match oB h ρ esz (D7 hn o.dst) 0 ps.toList with
    |some (xs,W)=>if xs.length=len∧0<esz∧len*esz<=16777216 then(match Aj hn o.dst h W with
     |some d=>some (.arr d len,[(d,.row e esz xs 0)])
     |none=>some (.pv (.sl xs),W))else none
    |none=>none
   |_=>none
 |.load t a=>match ak P t with
  |some ti=>(sU ti (ρ a) h).map λv=>(v,[])
  |none=>none
 |.store t a v=>match ak P t with
  |some ti=>(ua ti (ρ a) (ρ v) h).map λW=>(.undef,W)
  |none=>none
 |.nilCheck x=>match ρ x with
  |.ptr k off=>some (.ptr k off,[])
  |.pv (.rptr y off)=>some (.pv (.rptr y off),[])
  |_=>none
 |.fieldAddr s x f=>match ak P s with
  |some ti=>(mS ti (ρ x) f h).map λv=>(v,[])
  |none=>none
 |.indexAddr t x i=>match ak P t,Ah (ρ i)with
  |some ti,some n=>(ya (mT ti (ρ x) n h) (rG ti (ρ x) n h)).map λv=>(v,[])
  |_,_=>none
 |.makeFunc f first caps=>some (zQ f (first.toList.map ρ) (caps.toList.map ρ),[])
 |.makeInterface t x=>if qQ P t then(match frz h (ρ x)with
   |some (p,W)=>some (.pv (.ifc t p),W)
   |none=>none)else none
 |.typeAssert x _ a ok=>match ρ x with
  |.pv (.ifc t p)=>if qQ P a then(yd P t p a ok).map λv=>(v,[])else none
  |_=>none
 |.makeSlice t l c=>match ak P t with
  |some ti=>yb (ud ti hn o.dst (ρ l) (ρ c) h) (wy ti o.dst (ρ l) (ρ c) h)
  |none=>none
 |.slice t x lo hi mx=>match ρ x,mx with
  |.pv (.val _),_=>bz P o ρ
  |.arr k n,none=>match ak P t with
   |some ti=>GE ti h (.arr k n) (lo.map ρ) (hi.map ρ)
   |none=>none
  |_,none=>match ak P t with
   |some ti=>(lj ti (ρ x) (lo.map ρ) (hi.map ρ)).map λv=>(v,[])
   |none=>none
  |_,_=>none
 |.extract t i=>match ρ t with
  |.tup vs=>(vs[i]?).map λv=>(v,[])
  |.pv (.tup vs)=>(vs[i]?).map λv=>(.pv v,[])
  |.pv (.val _)=>bz P o ρ
  |_=>none
 |.call c=>match c.callee with
  |.builtin b=>sW P o b (c.args.toList.map ρ) c.argTypes.toList ρ h
  |_=>none
 |.binOp op t x y _=>match Ai P h ρ op t x y with
  |some b=>some (.pv (.val (.bool b)),[])
  |none=>lJ P o ρ (qO op (ρ x) (ρ y))
 |.unOp op _ x=>lJ P o ρ (wA op (ρ x))
 |.convert s d x=>lJ P o ρ (oN P s d (ρ x))
 |.field t x f=>lJ P o ρ (uj (qP P t f) (ρ x))
 |.index t x i=>lJ P o ρ (uk (wC (fT P t) (ρ x) (ρ i)) (wD (o7 P t) (ρ x) (ρ i)))
 |_=>none
structure St where
 t:Nat->AV
 h:Hp
def St.ev(st:St):Operand->AV
 |.tmp n=>st.t n
 |.const v=>.pv (.val v)
 |.global _=>.undef
 |.func f=>.pv (.val (.func (.func f) #[] #[]))
def ai(h:Hp)(W:List (Nat×Blk)):Hp:=W.foldl (λh kb=>ah h kb.1 (some kb.2)) h
def St.put(st:St)(d:Option Nat)(v:AV)(W:List (Nat×Blk)):St:=
 ⟨match d with|some d=>ah st.t d v|none=>st.t,ai st.h W⟩
inductive Arg where
 |pv(p:PV)
 |bx(i:Nat)
inductive RV where
 |pv(p:PV)
 |box(ps:List PV)
 |row(e sz:Nat)(xs:List PV)
 |srow(pre:List PV)(e sz:Nat)(xs:List PV)
 |nrow(e sz:Nat)(xs:List PV)
 |new(p:PV)
def bZ(P:Program)(f:FuncId):Bool:=match P.funcs[f]? with
 |some fn=>fn.body.isSome&& !(fn.name== "runtime.NumGoroutine")
 |none=>false
def jf(w:World)(M:Nat->Nat->Prop)(b:Nat)(ps:List PV):Prop:=∃arr ty,w.heap[b]?=some (.cells arr ty (0,0))∧bw w M ps arr.toList
def D8(w:World)(M:Nat->Nat->Prop)(bs:List Nat):Arg->Value->Prop
 |.pv p,v=>Rep w M p v
 |.bx j,v=>∃b,bs[j]?=some b∧v=.pointer (some ⟨b,0,none⟩)
def wG(w w':World)(M:Nat->Nat->Prop):RV->Value->Prop
 |.pv p,v=>Rep w' M p v
 |.new p,v=>Rep w' (λb _=>b<w.heap.size) p v
 |.box ps,v=>∃b,w.heap.size<=b∧v=.pointer (some ⟨b,0,none⟩)∧jf w' (λb' o=>M b' o∨b'=b) b ps
 |.row e sz xs,v=>∃l:Loc,v=l.slice xs.length∧(l.isNil=false->w.heap.size<=l.b)∧
   db w' (λb' o=>M b' o∨(l.isNil=false∧b'=l.b)) (λ_=>default) (λ_=>none) l (.row e sz xs 0)
 |.nrow e sz xs,v=>xs.all jO=true∧∃l:Loc,v=l.slice xs.length∧(l.isNil=false->w.heap.size<=l.b)∧
   db w' (λb' o=>M b' o∨(l.isNil=false∧b'=l.b)) (λ_=>default) (λ_=>none) l (.row e sz xs 0)
 |.srow pre e sz xs,v=>∃(l:Loc)(us:List Value),v=.agg (us++[l.slice xs.length]).toArray∧(l.isNil=false->w.heap.size<=l.b)∧bw w' (λb' o=>M b' o∨(l.isNil=false∧b'=l.b)) pre us∧
   db w' (λb' o=>M b' o∨(l.isNil=false∧b'=l.b)) (λ_=>default) (λ_=>none) l (.row e sz xs 0)
def aa(P:Program)(f:FuncId)(args:List Arg)(hin hout:List (List PV))(res:RV):Prop:=
 bZ P f=true∧hout.length=hin.length∧∀(w:World)(M:Nat->Nat->Prop)(bs:List Nat)(vs:List Value),
  (∀b o,M b o->b<w.heap.size)->bs.length=hin.length->bs.Nodup->
  (∀(i:Nat) b ps,bs[i]?=some b->hin[i]?=some ps->(∀o,M b o)∧jf w M b ps)->
  args.length=vs.length->(∀(i:Nat) a v,args[i]?=some a->vs[i]?=some v->D8 w M bs a v)->
  Calls P f vs.toArray w λe w'=>∃v,e=.returned v∧Ext (·∈bs) w w'∧
   (∀(i:Nat) b ps,bs[i]?=some b->hout[i]?=some ps->jf w' M b ps)∧wG w w' M res v
def bC:AV->Option (FuncId×List AV×List AV)
 |.pv (.val (.func (.func f) first caps))=>some (f,first.toList.map (λv=>.pv (.val v)),caps.toList.map (λv=>.pv (.val v)))
 |.pv (.fn (.func f) first caps)=>some (f,first.map .pv,caps.map .pv)
 |.fn (.func f) first caps=>some (f,first,caps)
 |_=>none
def CZ(h:Hp)(k:Nat):Bool:=match h k with
 |some (.box cs true _)=>(jy cs).isSome
 |_=>true
def iu(h:Hp):List AV->List Nat->Option (List Arg×List Nat×List (Nat×Blk))
 |[],ks=>some ([],ks,[])
 |x::r,ks=>match x with
  |.ptr k off=>if off=0∧ks.contains k=false∧CZ h k=true then match iu h r (ks++[k])with
    |some (as,ks',W)=>some (.bx ks.length::as,ks',W)
    |none=>none
   else if CZ h k=false then match oP h (.ptr k off),iu h r ks with
    |some (p,W),some (as,ks',W')=>some (.pv p::as,ks',W++W')
    |_,_=>none
   else none
  |x=>match frz h x,iu h r ks with
   |some (p,W),some (as,ks',W')=>some (.pv p::as,ks',W++W')
   |_,_=>none
def kD(h:Hp):List Nat->Option (List (List PV))
 |[]=>some []
 |k::r=>match h k,kD h r with
  |some (.box cs _ false),some hs=>match jy cs with
   |some ps=>some (ps::hs)
   |none=>none
  |_,_=>none
def iG(h:Hp):List Nat->List (List PV)->List (Nat×Blk)
 |k::ks,ps::hs=>(match h k with
   |some (.box _ own _)=>[(k,.box (ps.map .pv) own false)]
   |_=>[])++iG h ks hs
 |_,_=>[]
def Ak:PV->Bool
 |.val _=>true
 |.hd _=>true
 |_=>false
def oD:PV->Bool
 |.val _=>true
 |.hd _=>true
 |.tup cs=>cs.all Ak
 |.agg cs=>cs.all Ak
 |_=>false
def C4(ks:List Nat)(p:PV)(W:List (Nat×Blk)):List (Nat×Blk):=if(ks.isEmpty&&oD p)=true then[]else W
def kf(h:Hp)(d:Option Nat)(ks:List Nat)(W0:List (Nat×Blk))(hout:List (List PV))(res:RV):Option dm:=
 match res,d with
 |.pv p,_=>some (.pv p,C4 ks p W0++iG h ks hout)
 |.new p,_=>if ks=[]then some (.pv p,[])else none
 |.box ps,some d=>if(h d).isNone∧ks=[]then some (.ptr d 0,W0++[(d,.box (ps.map .pv) true false)])else none
 |.row e sz xs,some d=>if(h d).isNone∧ks=[]then some (.arr d xs.length,W0++[(d,.row e sz xs 0)])else none
 |.nrow e sz xs,some d=>if(h d).isNone∧ks=[]then some (.arr d xs.length,[(d,.row e sz xs 0)])else none
 |.srow pre e sz xs,some d=>if(h d).isNone∧ks=[]then some (.agg (pre.map .pv++[.arr d xs.length]),W0++[(d,.row e sz xs 0)])else none
 |_,_=>none
def gM(x:Option dm)(K:dm->Prop):Prop:=match x with
 |some e=>K e
 |none=>False
def vo(P:Program)(g:FuncId)(as:List Arg)(hin:List (List PV))(F:List (List PV)->RV->Prop):Prop:=∃hout res,aa P g as hin hout res∧F hout res
def fD(P:Program)(c:AV)(args:List AV)(d:Option Nat)(h:Hp)(K:dm->Prop):Prop:=
 match bC c with
 |none=>False
 |some (g,first,caps)=>match iu h (first++args++caps) []with
  |none=>False
  |some (as,ks,W0)=>if(W0.any λkb=>ks.contains kb.1)=true then False else match kD h ks with
   |none=>False
   |some hin=>vo P g as hin λhout res=>gM (kf h d ks W0 hout res) K
def qR(P:Program)(hn:List Nat)(o:Oper)(ρ:Operand->AV)(h:Hp)(K:dm->Prop):Prop:=
 match o.op with
 |.call c=>match c.callee with
  |.value f=>fD P (ρ f) (c.args.toList.map ρ) o.dst h K
  |.invoke r name=>fD P (nI P name (ρ r)) (c.args.toList.map ρ) o.dst h K
  |_=>gM (du P hn o ρ h) K
 |_=>gM (du P hn o ρ h) K
def dp(P:Program)(g:FuncId):Prop:=bZ P g=true∧∀(args:Array Value)(w:World),CallsD P g args .returning w λe u' w'=>u'=.returning∧(∃v,e=.returned v)∧w'=w
def Cb(P:Program)(K:dm->Prop):AV->Prop
 |.fn (.func g) _ _=>dp P g∧K (.undef,[])
 |_=>False
def C5(x y:Prop):Prop:=x∧y
theorem aE{x y:Prop}(a:x)(b:y):C5 x y:=⟨a,b⟩
def sX(P:Program)(hn:List Nat)(o:Oper)(ρ:Operand->AV)(h:Hp)(K:dm->Prop):Prop:=
 match o.op with
 |.defer c=>match c.callee with
  |.value f=>if c.args.size=0 then Cb P K (ρ f)else False
  |_=>False
 |.binOp op t x y _=>if(lH (ρ y)&&lc P t&&oC h (ρ x)&&(op==.eql||op==.neq))=true then C5 (K (.pv (.val (.bool true)),[])) (K (.pv (.val (.bool false)),[]))else qR P hn o ρ h K
 |_=>qR P hn o ρ h K
def de(ops:Array Oper)(t:Nat->AV)(g:Option (Nat×Bool)):Option Bool:=
 match g with
 |none=>some true
 |some (j,want)=>match(ops[j]?).bind (·.dst)with
  |some d=>match t d with
   |.pv (.val (.bool b))=>some (b==want)
   |.pv (.val (.tuple _))=>some false
   |_=>none
  |none=>none
def bX(N:Nat):Option Nat->Bool
 |some d=>decide (d<N)&&decide (d<2000000)
 |none=>true
def jP(ops:Array Oper)(t:Nat->AV)(g:Option (Nat×Bool)):Option (Option (Nat×Bool×Bool)):=
 match g with
 |none=>some none
 |some (j,want)=>match(ops[j]?).bind (·.dst)with
  |some d=>match t d with
   |.pv (.val (.bool b))=>some (some (d,b,want))
   |.pv (.val (.tuple _))=>some (some (d,!want,want))
   |_=>none
  |none=>none
def uJ(b:Bool)(_:Nat)(st:St)(F:Bool->St->Prop):Prop:=F b st
def cU(P:Program)(hn:List Nat)(N:Nat)(ops:Array Oper)(Q:St->Prop):List Oper->St->Prop
 |[],st=>Q st
 |o::rest,st=>bX N o.dst=true∧(match jP ops st.t o.guard with
   |some none=>sX P hn o st.ev st.h (λe=>cU P hn N ops Q rest (st.put o.dst e.1 e.2))
   |some (some (d,b,want))=>uJ b d st (λb' st'=>if b'=want then sX P hn o st'.ev st'.h (λe=>cU P hn N ops Q rest (st'.put o.dst e.1 e.2))else cU P hn N ops Q rest (st'.put o.dst (.pv (.val (.tuple #[]))) []))
   |none=>False)
theorem mU{t:Nat->AV}(e:jP ops t g=some none):de ops t g=some true:=by
 unfold jP at e;unfold de;split at e
 .rfl
 .split at e
  .split at e
   .injection e with e;cases e
   .injection e with e;cases e
   .cases e
  .cases e
theorem kJ{t:Nat->AV}{b want:Bool}(e:jP ops t g=some (some (d,b,want))):de ops t g=some (b==want):=by
 unfold jP at e;unfold de;split at e
 .injection e with e;cases e
 .rename_i j w
  split at e
  .rename_i d' hd
   split at e
   .rename_i b' hb
    injection e with e;injection e with e;injection e with e1 e;injection e with e2 e3;subst e1;subst e2;subst e3;simp only[hd,hb]
   .rename_i q hb
    injection e with e;injection e with e;injection e with e1 e;injection e with e2 e3;subst e1;subst e2;subst e3;cases w<;>rfl
   .cases e
  .cases e
theorem dI{arr:Array Value}{fr:Nat×Nat}(h:w.heap[b]?=some (.cells arr ty fr)):w.cell? ⟨b,o,none⟩=arr[o]?:=by
 simp[World.cell?,h]
theorem dR(b o n:Nat):(⟨b,o,none⟩:Addr).add n=⟨b,o+n,none⟩:=by unfold Addr.add;split<;>simp_all
def aG(C:Cx)(L:Nat->Loc)(h:Hp)(w:World)(L':Nat->Loc)(h':Hp)(w':World):Prop:=
 MemL C L' h' w'∧Pres w (ag C L h) w' (ag C L' h')∧KC L h L' h'
theorem aG.trans{h'':Hp}{w'':World}(a:aG C L h w L' h' w')(b:aG C L' h' w' L'' h'' w''):aG C L h w L'' h'' w'':=
 ⟨b.1,a.2.1.trans b.2.1,a.2.2.trans b.2.2⟩
theorem aG.refl(hm:MemL C L h w):aG C L h w L h w:=⟨hm,Pres.refl _ _,KC.refl _ _⟩
theorem jQ(h:kI v=true):v=.slice none 0 0:=by
 unfold kI at h;split at h<;>simp_all
theorem D9(h:Rep w M p u):Rep w M (t7 p) u:=by
 unfold t7;split
 .split
  .rename_i v hv;cases h;rw[jQ hv];exact .sl0 none 0
  .exact h
 .exact h
theorem wH(h:bw w M ps us):bw w M (ps.map t7) us:=by
 refine⟨by simpa using h.1,λi p u hp hu=>?_⟩;simp only[List.getElem?_map,Option.map_eq_some_iff]at hp;obtain⟨q,hq,rfl⟩:=hp;exact D9 (h.2 i q u hq hu)
theorem Ff(h:Rep w M p u):Rep w M (CX p) u:=by
 unfold CX;split
 .rename_i v
  split
  .rename_i hv;cases h;rw[jQ hv];exact .sl0 none 0
  .split
   .rename_i hv
    unfold Ag at hv;split at hv
    .rename_i cs
     have hc:=h.cells;cases h;have:=jM (wH hc);simpa[Value.cells]using this
    .cases hv
   .exact h
 .rename_i cs
  cases h with
  |agg _ vs hl hh=>exact jM (wH ⟨hl,hh⟩)
 .exact h
def bY(h1 h:Hp):Prop:=∀k b,h1 k=some b->∃b',h k=some b'∧(match b,b' with
 |.box cs own fz,.box cs' own' fz'=>cs'=cs∧own'=own∧(fz=true->fz'=true)
 |.row e sz xs fz,.row e' sz' xs' fz'=>e'=e∧sz'=sz∧xs'=xs∧fz<=fz'
 |.mp kd n es fz,.mp kd' n' es' fz'=>kd'=kd∧n'=n∧es'=es∧(fz=true->fz'=true)
 |_,_=>False)
theorem bY.row(hf:bY h1 h)(hk:h1 k=some (.row e sz xs fz)):∃fz',h k=some (.row e sz xs fz')∧fz<=fz':=by
 obtain⟨b',h2,h3⟩:=hf k _ hk
 cases b' with
 |box=>exact h3.elim
 |mp=>exact h3.elim
 |row e' sz' xs' fz'=>obtain⟨rfl,rfl,rfl,h4⟩:=h3;exact⟨fz',h2,h4⟩
theorem bY.box(hf:bY h1 h){own fz:Bool}(hk:h1 k=some (.box cs own fz)):∃fz',h k=some (.box cs own fz')∧(fz=true->fz'=true):=by
 obtain⟨b',h2,h3⟩:=hf k _ hk
 cases b' with
 |row=>exact h3.elim
 |mp=>exact h3.elim
 |box cs' own' fz'=>obtain⟨rfl,rfl,h4⟩:=h3;exact⟨fz',h2,h4⟩
theorem bY.mp{h1 h:Hp}(hf:bY h1 h){k n:Nat}{kd:IntKind}{es:List (List Int×Value)}{fz:Bool}(hk:h1 k=some (.mp kd n es fz)):∃fz',h k=some (.mp kd n es fz')∧(fz=true->fz'=true):=by
 obtain⟨b',h2,h3⟩:=hf k _ hk
 cases b' with
 |row=>exact h3.elim
 |box=>exact h3.elim
 |mp kd' n' es' fz'=>obtain⟨rfl,rfl,rfl,h4⟩:=h3;exact⟨fz',h2,h4⟩
theorem bY.refl(h:Hp):bY h h:=λk b hk=>⟨b,hk,by cases b<;>simp⟩
theorem bY.of_sub(hs:∀k b,h1 k=some b->h k=some b):bY h1 h:=λk b hk=>⟨b,hs k b hk,by cases b<;>simp⟩
theorem bY.set_row(hf:bY h1 h)(hk:h1 k=some (.row e sz xs fz))(hfz:fz<=xs.length):bY h1 (ah h k (some (.row e sz xs xs.length))):=by
 intro q b hq;by_cases e:q=k
 .subst e;rw[hk]at hq;injection hq with hq;subst hq
  exact⟨_,aF _ _ _,rfl,rfl,rfl,hfz⟩
 .obtain⟨b',h2,h3⟩:=hf q b hq
  exact⟨b',by rw[bj e];exact h2,h3⟩
theorem bY.set_box(hf:bY h1 h){own fz:Bool}(hk:h1 k=some (.box cs own fz)):bY h1 (ah h k (some (.box cs own true))):=by
 intro q b hq;by_cases e:q=k
 .subst e;rw[hk]at hq;injection hq with hq;subst hq
  exact⟨_,aF _ _ _,rfl,rfl,λ_=>rfl⟩
 .obtain⟨b',h2,h3⟩:=hf q b hq
  exact⟨b',by rw[bj e];exact h2,h3⟩
theorem bY.set_mp(hf:bY h1 h){kd:IntKind}{fz:Bool}(hk:h1 k=some (.mp kd n es fz)):bY h1 (ah h k (some (.mp kd n es true))):=by
 intro q b hq;by_cases e:q=k
 .subst e;rw[hk]at hq;injection hq with hq;subst hq
  exact⟨_,aF _ _ _,rfl,rfl,rfl,λ_=>rfl⟩
 .obtain⟨b',h2,h3⟩:=hf q b hq
  exact⟨b',by rw[bj e];exact h2,h3⟩
theorem lk(hm:MemL C L h w)(hk:h k=some (.row e sz xs fz)):(L k).isNil=true∧xs=[]∨(L k).isNil=false∧xs.length<=(L k).cap∧(L k).cap<=maxLen∧∃arr,w.heap[(L k).b]?=some (.cells arr e (0,0))∧arr.size=(L k).cap*sz∧
 ∀(i:Nat) x(j:Nat) p,xs[i]?=some x->x.cells[j]?=some p->∃u,arr[i*sz+j]?=some u∧Rep w (ag C L h) p u:=by
 obtain⟨_,_,_,h4,h5⟩:=hm.bl k _ hk
 cases hn:(L k).isNil with
 |true=>exact .inl ⟨rfl,h4 hn⟩
 |false=>obtain⟨a1,a2,arr,a3,a4,a5⟩:=h5 hn;exact .inr ⟨rfl,a1,a2,arr,a3,a4,a5⟩
theorem wI(hm:MemL C L h w)(hk:h k=some (.row e sz xs fz)):
 aG C L h w L (ah h k (some (.row e sz xs xs.length))) w∧Rep w (ag C L (ah h k (some (.row e sz xs xs.length)))) (.sl xs) ((L k).slice xs.length):=by
 have hb:=hm.bl k _ hk;obtain⟨h1,h2,h3,h4,h5⟩:=hb
 have hsub:∀b o,ag C L (ah h k (some (.row e sz xs xs.length))) b o->ag C L h b o:=by
  rintro b o (h0|⟨q,b',hq,hl,hb',hf⟩)
  .exact .inl h0
  .by_cases eq:q=k
   .subst eq
    rw[aF]at hq;injection hq with hq;subst hq;refine .inr ⟨q,_,hk,hl,hb',λhff=>hf ?_⟩;simp only[Blk.frz]at hff|-;exact Nat.lt_of_lt_of_le hff (Nat.mul_le_mul_right _ h2)
   .rw[bj eq]at hq;exact .inr ⟨q,b',hq,hl,hb',hf⟩
 have hpres:Pres w (ag C L h) w (ag C L (ah h k (some (.row e sz xs xs.length)))):=Pres.sub hsub
 have hkc:KC L h L (ah h k (some (.row e sz xs xs.length))):=by
  intro q b hq;by_cases e':q=k
  .subst e';rw[hk]at hq;injection hq with hq;subst hq;exact⟨_,aF _ _ _,rfl,rfl,Nat.le_refl _,λ_=>rfl⟩
  .exact⟨b,by rw[bj e'];exact hq,bW _ _⟩
 refine⟨hm.touch hk (λ_ _ _=>rfl) (Nat.le_refl _) rfl rfl rfl (λ_ _ _ _ h=>h) (λo hf=>?_) ⟨rfl,rfl,Nat.le_refl _,λ_=>rfl⟩ Iff.rfl (by have h9:=hm.own k _ hk;exact h9) ?_,?_⟩
 .simp only[Blk.frz]at hf|-;exact Nat.lt_of_lt_of_le hf (Nat.mul_le_mul_right _ h2)
 .refine⟨h1,Nat.le_refl _,h3,h4,λhn=>?_⟩
  obtain⟨a1,a2,arr,a3,a4,a5⟩:=h5 hn;refine⟨a1,a2,arr,a3,a4,λi x j p hx hj=>?_⟩;obtain⟨u,hu,hr⟩:=a5 i x j p hx hj;exact⟨u,hu,hr.mono hpres⟩
 .unfold Loc.slice
  cases hn:(L k).isNil with
  |true=>rw[h4 hn];exact .sl0 none 0
  |false=>
   obtain⟨a1,a2,arr,a3,a4,a5⟩:=h5 hn;simp only[Bool.false_eq_true,if_false]
   have hcell:∀(i:Nat) x(j:Nat) p,xs[i]?=some x->x.cells[j]?=some p->∃u,arr[i*sz+j]?=some u∧Rep w (ag C L (ah h k (some (.row e sz xs xs.length)))) p u:=by
    intro i x j p hx hj;obtain⟨u,hu,hr⟩:=a5 i x j p hx hj;exact⟨u,hu,hr.mono hpres⟩
   refine .sl xs (L k).b 0 (L k).cap sz (λi j=>(arr[i*sz+j]?).getD undef) a1 (λi x hx=>h3 x (List.mem_of_getElem? hx)) ?_ ?_
   .intro i x j p hx hj
    obtain⟨u,hu,hr⟩:=hcell i x j p hx hj;refine⟨by rw[dI a3];simp[hu],?_⟩;rintro(h0|⟨q,b',hq,hl,hb',hf⟩)
    .have:=hm.m0 _ _ h0
     rcases(hm.own k _ hk).row hn with h9|h9
     .omega
     .exact h9.2 _ h0
    .by_cases eq:q=k
     .subst eq
      rw[aF]at hq;injection hq with hq;subst hq;apply hf;simp only[Blk.frz];have hi:i<xs.length:=(List.getElem?_eq_some_iff.1 hx).1
      have hj':j<sz:=by rw[<-h3 x (List.mem_of_getElem? hx)];exact(List.getElem?_eq_some_iff.1 hj).1
      have:(i+1)*sz<=xs.length*sz:=Nat.mul_le_mul_right _ hi;rw[Nat.add_mul]at this;omega
     .rw[bj eq]at hq
      exact hm.sep q k b' _ eq hq hk hl hn hb'
   .intro i x j p hx hj
    obtain⟨u,hu,hr⟩:=hcell i x j p hx hj;simp only[hu,Option.getD_some];exact hr
theorem oQ(hm:MemL C L h w){fz:Bool}(hk:h k=some (.box cs true fz))
 (hpq:∀arr ty,w.heap[(L k).b]?=some (.cells arr ty (0,0))->aB w (ag C L h) L h cs arr.toList->bw w (ag C L h) ps arr.toList):
 aG C L h w L (ah h k (some (.box cs true true))) w∧∃u:Nat->Value,∀(j:Nat) p,ps[j]?=some p->
  (w.cell? ⟨(L k).b,0+j,none⟩=some (u j)∧¬ag C L (ah h k (some (.box cs true true))) (L k).b (0+j))∧Rep w (ag C L (ah h k (some (.box cs true true)))) p (u j):=by
 obtain⟨arr,ty,e1,e2⟩:=hm.bl k _ hk
 have hsub:∀b o,ag C L (ah h k (some (.box cs true true))) b o->ag C L h b o:=by
  rintro b o (h0|⟨q,b',hq,hl,hb',hf⟩)
  .exact .inl h0
  .by_cases eq:q=k
   .subst eq
    rw[aF]at hq;injection hq with hq;subst hq;exact absurd rfl hf
   .rw[bj eq]at hq;exact .inr ⟨q,b',hq,hl,hb',hf⟩
 have hpres:Pres w (ag C L h) w (ag C L (ah h k (some (.box cs true true)))):=Pres.sub hsub
 have hkc:KC L h L (ah h k (some (.box cs true true))):=by
  intro q b hq;by_cases e':q=k
  .subst e';rw[hk]at hq;injection hq with hq;subst hq;exact⟨_,aF _ _ _,rfl⟩
  .exact⟨b,by rw[bj e'];exact hq,bW _ _⟩
 have hr:aB w (ag C L (ah h k (some (.box cs true true)))) L (ah h k (some (.box cs true true))) cs arr.toList:=⟨e2.1,λi p u hp hu=>(e2.2 i p u hp hu).mono hpres hkc⟩;refine⟨hm.touch hk (λ_ _ _=>rfl) (Nat.le_refl _) rfl rfl rfl (λ_ _ _ _ h=>h) (λ_ _=>rfl) rfl Iff.rfl (by have h9:=hm.own k _ hk;exact h9) ⟨arr,ty,e1,hr⟩,λj=>(arr[j]?).getD undef,λj p hj=>?_⟩;have hR:=hpq arr ty e1 e2
 have hlt:j<arr.toList.length:=by rw[<-hR.1];exact(List.getElem?_eq_some_iff.1 hj).1
 have hu:arr.toList[j]?=some (arr.toList[j]):=List.getElem?_eq_getElem hlt
 have hu':arr[j]?=some (arr.toList[j]):=by rw[<-Array.getElem?_toList];exact hu
 refine⟨⟨by rw[dI e1,Nat.zero_add];simp only[hu',Option.getD_some],?_⟩,?_⟩
 .rintro(h0|⟨q,b',hq',hl',hb',hf⟩)
  .have:=hm.m0 _ _ h0
   rcases hm.own k _ hk with h9|h9
   .omega
   .exact h9.2 _ h0
  .by_cases eq:q=k
   .subst eq
    rw[aF]at hq';injection hq' with hq';subst hq';exact hf rfl
   .rw[bj eq]at hq'
    exact hm.sep q k b' _ eq hq' hk hl' trivial hb'
 .simp only[hu',Option.getD_some]
  exact(hR.2 j p _ hj hu).mono hpres
theorem C6(hm:MemL C L h w){fz:Bool}{x:PV}(hk:h k=some (.box cs true fz))(hx:x.cells.map .pv=cs):
 aG C L h w L (ah h k (some (.box cs true true))) w∧Rep w (ag C L (ah h k (some (.box cs true true)))) (.rptr x 0) (.pointer (some ⟨(L k).b,0,none⟩)):=by
 obtain⟨a,u,hu⟩:=oQ hm (ps:=x.cells) hk (λarr ty _ hr=>by rw[<-hx]at hr;exact aB.map_pv_inv hr);exact⟨a,.rptr x (L k).b 0 0 u (λj p hj=>(hu j p hj).1) (λj p hj=>(hu j p hj).2)⟩
theorem BN(hm:MemL C L h w){c:Nat}(hnc:n<=c){fz:Bool}(hk:h k=some (.box cs true fz))(hn:n<=ps.length)(ho:∀p∈ps,p.cells=[p])
 (hq:∀arr ty,w.heap[(L k).b]?=some (.cells arr ty (0,0))->aB w (ag C L h) L h cs arr.toList->bw w (ag C L h) ps arr.toList):
 aG C L h w L (ah h k (some (.box cs true true))) w∧Rep w (ag C L (ah h k (some (.box cs true true)))) (.sl (ps.take n)) (.slice (some ⟨(L k).b,0,none⟩) n c):=by
 obtain⟨a,u,hu⟩:=oQ hm hk hq;refine⟨a,?_⟩
 have hl:(ps.take n).length=n:=by rw[List.length_take];omega
 have tk:∀{i:Nat}{x},(ps.take n)[i]?=some x->ps[i]?=some x:=by
  intro i x hx;rw[List.getElem?_take]at hx;split at hx
  .exact hx
  .cases hx
 have one:∀(i:Nat) x(j:Nat) p,ps[i]?=some x->x.cells[j]?=some p->j=0∧p=x:=by
  intro i x j p hx hj;rw[ho x (List.mem_of_getElem? hx)]at hj
  cases j with
  |zero=>simp at hj;exact⟨rfl,hj.symm⟩
  |succ j=>simp at hj
 have key:Rep w (ag C L (ah h k (some (.box cs true true)))) (.sl (ps.take n)) (.slice (some ⟨(L k).b,0,none⟩) (ps.take n).length c):=by
  refine .sl (ps.take n) (L k).b 0 c 1 (λi _=>u i) (by omega) (λi x hx=>by rw[ho x (List.mem_of_getElem? (tk hx))];rfl) ?_ ?_
  .intro i x j p hx hj
   obtain⟨rfl,rfl⟩:=one i x j p (tk hx) hj;have:=(hu i p (tk hx)).1
   rwa [Nat.mul_one,Nat.add_zero]
  .intro i x j p hx hj
   obtain⟨rfl,rfl⟩:=one i x j p (tk hx) hj;exact(hu i p (tk hx)).2
 rw[hl]at key;exact key
theorem C7(hm:MemL C L h w){kd:IntKind}{fz:Bool}(hk:h k=some (.mp kd n es fz)):
 aG C L h w L (ah h k (some (.mp kd n es true))) w∧Rep w (ag C L (ah h k (some (.mp kd n es true)))) (.mp kd n es) (.map (some (L k).b)):=by
 obtain⟨arr,clock,e1,e2⟩:=hm.bl k _ hk
 have hsub:∀b o,ag C L (ah h k (some (.mp kd n es true))) b o->ag C L h b o:=by
  rintro b o (h0|⟨q,b',hq,hl,hb',hf⟩)
  .exact .inl h0
  .by_cases eq:q=k
   .subst eq
    rw[aF]at hq;injection hq with hq;subst hq;exact absurd rfl hf
   .rw[bj eq]at hq;exact .inr ⟨q,b',hq,hl,hb',hf⟩
 have hpres:Pres w (ag C L h) w (ag C L (ah h k (some (.mp kd n es true)))):=Pres.sub hsub
 have hkc:KC L h L (ah h k (some (.mp kd n es true))):=by
  intro q b hq;by_cases e':q=k
  .subst e';rw[hk]at hq;injection hq with hq;subst hq;exact⟨_,aF _ _ _,rfl,rfl,rfl⟩
  .exact⟨b,by rw[bj e'];exact hq,bW _ _⟩
 refine⟨⟨⟨hm.ext,hm.m0,?_,?_,?_⟩,hpres,hkc⟩,.mp kd n es _ arr clock e1 ?_ e2⟩
 .intro q b hq
  by_cases e':q=k
  .subst e';rw[aF]at hq;injection hq with hq;subst hq;exact⟨arr,clock,e1,e2⟩
  .rw[bj e']at hq;exact(hm.bl q b hq).mono hpres hkc (λ_=>rfl)
 .intro q q' b1 b2 hne hq hq' hl hl'
  have lift:∀q b,ah h k (some (.mp kd n es true)) q=some b->b.live (L q)->∃b',h q=some b'∧b'.live (L q):=by
   intro q b hq hl;by_cases e':q=k
   .subst e';exact⟨_,hk,trivial⟩
   .rw[bj e']at hq;exact⟨b,hq,hl⟩
  obtain⟨c1,d1,d2⟩:=lift q b1 hq hl;obtain⟨c2,d3,d4⟩:=lift q' b2 hq' hl';exact hm.sep q q' c1 c2 hne d1 d3 d2 d4
 .intro q b hq
  by_cases e':q=k
  .subst e';rw[aF]at hq;injection hq with hq;subst hq;have:=hm.own q _ hk;exact this
  .rw[bj e']at hq;exact hm.own q b hq
 .rintro(h0|⟨q,b',hq',hl',hb',hf⟩)
  .have:=hm.m0 _ _ h0
   have h9:=hm.own k _ hk;simp only[dT]at h9;omega
  .by_cases eq:q=k
   .subst eq
    rw[aF]at hq';injection hq' with hq';subst hq';exact hf rfl
   .rw[bj eq]at hq'
    exact hm.sep q k b' _ eq hq' hk hl' trivial hb'
theorem bV(h:Hp)(W W':List (Nat×Blk)):ai h (W++W')=ai (ai h W) W':=by simp[ai,List.foldl_append]
theorem gu(h:Hp)(k:Nat)(b:Blk):ai h [(k,b)]=ah h k (some b):=rfl
theorem gS(h:i8 p=true):p.cells=[p]:=by
 cases p with
 |val v=>cases v<;>simp_all[i8,PV.cells,Value.cells,Value.oneCell']
 |agg _=>simp[i8]at h
 |tup _=>simp[i8]at h
 |_=>rfl
theorem yS:∀{cs:List PV}{vs:List Value},dF cs=some vs->cs=vs.map .val
 |[],vs,h=>by simp[dF]at h;subst h;rfl
 |.val v::r,vs,h=>by
  simp only[dF,Option.map_eq_some_iff]at h;obtain⟨vs',h',rfl⟩:=h;rw[yS h'];rfl
 |.agg _::_,_,h=>by simp[dF]at h
 |.sl _::_,_,h=>by simp[dF]at h
 |.rptr _ _::_,_,h=>by simp[dF]at h
 |.fn _ _ _::_,_,h=>by simp[dF]at h
 |.tup _::_,_,h=>by simp[dF]at h
 |.ifc _ _::_,_,h=>by simp[dF]at h
 |.hd _::_,_,h=>by simp[dF]at h
 |.mp _ _ _::_,_,h=>by simp[dF]at h
theorem jp(ps:List PV):(fL ps).cells=ps:=by
 unfold fL;split
 .rename_i vs hv;simp[PV.cells,Value.cells,yS hv]
 .rfl
section
variable {C:Cx} {L:Nat->Loc} {h1 h:Hp} {w:World}
theorem wJ(hm:MemL C L h w)(hf:bY h1 h)(hx:RepA w (ag C L h) L h x u)(e:jN h1 x=some (p,W)):
 aG C L h w L (ai h W) w∧Rep w (ag C L (ai h W)) p u∧bY h1 (ai h W):=by
 cases x with
 |pv q=>
  simp only[jN,Option.some.injEq,Prod.mk.injEq]at e;obtain⟨rfl,rfl⟩:=e
  cases hx with
  |pv hr=>exact⟨aG.refl hm,Ff hr,hf⟩
 |arr k n=>
  simp only[jN]at e;split at e
  .rename_i ee sz xs fz hk
   split at e
   .rename_i hn
    simp only[Option.some.injEq,Prod.mk.injEq]at e;obtain⟨rfl,rfl⟩:=e;obtain⟨fz',hk',hle⟩:=hf.row hk
    cases hx with
    |arr hk2 hn2 hu=>
     rw[hk']at hk2;injection hk2 with hk2;injection hk2 with a1 a2 a3 a4;subst a1;subst a2;subst a3;subst a4;have:=wI hm hk';rw[hu hn,<-hn];have hb:=(hm.bl k _ hk').2.1;exact⟨this.1,this.2,hf.set_row hk (by omega)⟩
   .cases e
  .cases e
 |ptr=>simp[jN]at e
 |eptr=>simp[jN]at e
 |agg=>simp[jN]at e
 |fn=>simp[jN]at e
 |tup=>simp[jN]at e
 |undef=>simp[jN]at e
 |ext y=>
  cases y with
  |barr=>simp[jN]at e
  |suf=>simp[jN]at e
  |mp k=>
   simp only[jN]at e;split at e
   .rename_i kd n es fz hk
    simp only[Option.some.injEq,Prod.mk.injEq]at e;obtain⟨rfl,rfl⟩:=e;obtain⟨fz',hk',_⟩:=hf.mp hk;have:=C7 hm hk'
    cases hx with
    |ext hx'=>cases hx' with
     |mp _=>exact⟨this.1,this.2,hf.set_mp hk⟩
   .cases e
theorem aB.mono{w:World}{L:Nat->Loc}{h:Hp}(hp:Pres w M w' M')(hc:KC L h L' h'){ps:List AV}(hx:aB w M L h ps us):aB w' M' L' h' ps us:=
 ⟨hx.1,λi p u h1 h2=>(hx.2 i p u h1 h2).mono hp hc⟩
theorem qy:∀{xs:List AV}{h:Hp}(_:MemL C L h w)(_:bY h1 h){us:List Value}(_:aB w (ag C L h) L h xs us){ps:List PV}{W:List (Nat×Blk)}(_:kV h1 xs=some (ps,W)),
 aG C L h w L (ai h W) w∧bw w (ag C L (ai h W)) ps us∧bY h1 (ai h W)
 |[],h,hm,hf,us,hx,ps,W,e=>by
  simp only[kV,Option.some.injEq,Prod.mk.injEq]at e;obtain⟨rfl,rfl⟩:=e;rw[hx.nil_inv];exact⟨aG.refl hm,bw.nil,hf⟩
 |x::r,h,hm,hf,us,hx,ps,W,e=>by
  simp only[kV]at e;split at e
  .rename_i p W1 ps' W2 e1 e2
   simp only[Option.some.injEq,Prod.mk.injEq]at e;obtain⟨rfl,rfl⟩:=e;obtain⟨u,us',rfl,hu,hr⟩:=hx.cons_inv;obtain⟨a1,a2,a3⟩:=wJ hm hf hu e1;obtain⟨b1,b2,b3⟩:=qy a1.1 a3 (hr.mono a1.2.1 a1.2.2) e2;rw[bV];exact⟨a1.trans b1,.cons (a2.mono b1.2.1) b2,b3⟩
  .cases e
theorem lL(hm:MemL C L h w)(hf:bY h1 h)(hx:RepA w (ag C L h) L h x u)(e:qx h1 x=some (p,W)):
 aG C L h w L (ai h W) w∧Rep w (ag C L (ai h W)) p u∧bY h1 (ai h W):=by
 unfold qx at e;split at e
 .rename_i k n c0
  split at e
  .rename_i cs fz hk
   have main:∀{ps:List PV}{W':List (Nat×Blk)},n<=cs.length->kV h1 cs=some (ps,W')->ps.all i8=true->W=W'++[(k,.box cs true true)]->p=.sl (ps.take n)->aG C L h w L (ai h W) w∧Rep w (ag C L (ai h W)) p u∧bY h1 (ai h W):=by
    intro ps W' hn e1 ho eW ep;subst eW;subst ep;obtain⟨fz',hk',_⟩:=hf.box hk;obtain⟨arr,ty,h1',h2'⟩:=hm.bl k _ hk';obtain⟨a1,a2,a3⟩:=qy hm hf h2' e1;obtain⟨fz2,hk2,_⟩:=a3.box hk
    have hlen:n<=ps.length:=by rw[a2.1,<-h2'.1];exact hn
    rw[bV]
    cases hx with
    |ext hx'=>cases hx' with
     |barr hc9 _=>
      have:=BN a1.1 hc9 (ps:=ps) hk2 hlen (λp hp=>gS (List.all_eq_true.1 ho p hp)) (λarr' ty' h3 _=>by rw[h1']at h3;injection h3 with h3;injection h3 with h3;subst h3;exact a2);exact⟨a1.trans this.1,this.2,a3.set_box hk⟩
   have hlenc:∀{ps:List PV}{W':List (Nat×Blk)},kV h1 cs=some (ps,W')->ps.length=cs.length:=by
    intro ps W' e1;obtain⟨fz',hk',_⟩:=hf.box hk;obtain⟨arr,ty,h1',h2'⟩:=hm.bl k _ hk';obtain⟨_,a2,_⟩:=qy hm hf h2' e1;rw[a2.1,<-h2'.1]
   split at e
   .rename_i hn
    split at e
    .rename_i ps W' e1
     split at e
     .rename_i ho
      simp only[Option.some.injEq,Prod.mk.injEq]at e;exact main (by omega) e1 ho e.2.symm (by rw[<-e.1,List.take_of_length_le (by rw[hlenc e1];omega)])
     .cases e
    .cases e
   .split at e
    .rename_i hn
     split at e
     .rename_i ps W' e1
      split at e
      .rename_i ho
       simp only[Option.some.injEq,Prod.mk.injEq]at e;exact main hn e1 ho e.2.symm e.1.symm
      .cases e
     .cases e
    .cases e
  .cases e
 .exact wJ hm hf hx e
theorem lM:∀{xs:List AV}{h:Hp}(_:MemL C L h w)(_:bY h1 h){us:List Value}(_:aB w (ag C L h) L h xs us){ps:List PV}{W:List (Nat×Blk)}(_:nH h1 xs=some (ps,W)),
 aG C L h w L (ai h W) w∧bw w (ag C L (ai h W)) ps us∧bY h1 (ai h W)
 |[],h,hm,hf,us,hx,ps,W,e=>by
  simp only[nH,Option.some.injEq,Prod.mk.injEq]at e;obtain⟨rfl,rfl⟩:=e;rw[hx.nil_inv];exact⟨aG.refl hm,bw.nil,hf⟩
 |x::r,h,hm,hf,us,hx,ps,W,e=>by
  simp only[nH]at e;split at e
  .rename_i p W1 ps' W2 e1 e2
   simp only[Option.some.injEq,Prod.mk.injEq]at e;obtain⟨rfl,rfl⟩:=e;obtain⟨u,us',rfl,hu,hr⟩:=hx.cons_inv;obtain⟨a1,a2,a3⟩:=lL hm hf hu e1;obtain⟨b1,b2,b3⟩:=lM a1.1 a3 (hr.mono a1.2.1 a1.2.2) e2;rw[bV];exact⟨a1.trans b1,.cons (a2.mono b1.2.1) b2,b3⟩
  .cases e
theorem sY(hm:MemL C L h w)(hf:bY h1 h)(hx:RepA w (ag C L h) L h x u)(e:oP h1 x=some (p,W)):
 aG C L h w L (ai h W) w∧Rep w (ag C L (ai h W)) p u∧bY h1 (ai h W):=by
 unfold oP at e;split at e
 .simp only[Option.some.injEq,Prod.mk.injEq]at e
  obtain⟨rfl,rfl⟩:=e
  cases hx with
  |pv hr=>exact⟨aG.refl hm,hr,hf⟩
 .rename_i k
  split at e
  .rename_i cs fz hk
   obtain⟨fz',hk',_⟩:=hf.box hk
   have key:∀y:PV,y.cells.map .pv=cs->aG C L h w L (ai h [(k,.box cs true true)]) w∧Rep w (ag C L (ai h [(k,.box cs true true)])) (.rptr y 0) u∧bY h1 (ai h [(k,.box cs true true)]):=by
    intro y hy;obtain⟨a1,a2⟩:=C6 hm hk' hy
    cases hx with
    |ptr _=>exact⟨a1,a2,hf.set_box hk⟩
   split at e
   .rename_i ps hp
    have hc:=ng hp;split at e
    .rename_i hq
     simp only[Option.some.injEq,Prod.mk.injEq]at e;obtain⟨rfl,rfl⟩:=e
     exact key _ (by rw[hc];congr 1;cases ps with
      |nil=>simp[ir]at hq
      |cons q r=>cases r with
       |nil=>simp only[ir]at hq;exact gS hq
       |cons _ _=>simp[ir]at hq)
    .simp only[Option.some.injEq,Prod.mk.injEq]at e
     obtain⟨rfl,rfl⟩:=e;exact key _ (by rw[jp,hc])
   .split at e
    .rename_i ps W' e1
     obtain⟨arr,ty,h1',h2'⟩:=hm.bl k _ hk';obtain⟨a1,a2,a3⟩:=lM hm hf h2' e1;obtain⟨fz2,hk2,_⟩:=a3.box hk
     have key2:∀y:PV,y.cells=ps->aG C L h w L (ai h (W'++[(k,.box cs true true)])) w∧Rep w (ag C L (ai h (W'++[(k,.box cs true true)]))) (.rptr y 0) u∧bY h1 (ai h (W'++[(k,.box cs true true)])):=by
      intro y hy;obtain⟨b1,uu,hu⟩:=oQ a1.1 (ps:=ps) hk2 (λarr' ty' h3 _=>by rw[h1']at h3;injection h3 with h3;injection h3 with h3;subst h3;exact a2);rw[bV]
      cases hx with
      |ptr _=>exact⟨a1.trans b1,.rptr y (L k).b 0 0 uu (λj p hj=>(hu j p (hy▸hj)).1) (λj p hj=>(hu j p (hy▸hj)).2),a3.set_box hk⟩
     split at e
     .rename_i hq
      simp only[Option.some.injEq,Prod.mk.injEq]at e;obtain⟨rfl,rfl⟩:=e
      exact key2 _ (by cases ps with
       |nil=>simp[ir]at hq
       |cons q r=>cases r with
        |nil=>simp only[ir]at hq;exact gS hq
        |cons _ _=>simp[ir]at hq)
     .simp only[Option.some.injEq,Prod.mk.injEq]at e
      obtain⟨rfl,rfl⟩:=e;exact key2 _ (jp ps)
    .cases e
  .cases e
 .cases e
theorem nJ:∀{xs:List AV}{h:Hp}(_:MemL C L h w)(_:bY h1 h){us:List Value}(_:aB w (ag C L h) L h xs us){ps:List PV}{W:List (Nat×Blk)}(_:jo h1 xs=some (ps,W)),
 aG C L h w L (ai h W) w∧bw w (ag C L (ai h W)) ps us∧bY h1 (ai h W)
 |[],h,hm,hf,us,hx,ps,W,e=>by
  simp only[jo,Option.some.injEq,Prod.mk.injEq]at e;obtain⟨rfl,rfl⟩:=e;rw[hx.nil_inv];exact⟨aG.refl hm,bw.nil,hf⟩
 |x::r,h,hm,hf,us,hx,ps,W,e=>by
  simp only[jo]at e;split at e
  .rename_i p W1 ps' W2 e1 e2
   simp only[Option.some.injEq,Prod.mk.injEq]at e;obtain⟨rfl,rfl⟩:=e;obtain⟨u,us',rfl,hu,hr⟩:=hx.cons_inv;obtain⟨a1,a2,a3⟩:=sY hm hf hu e1;obtain⟨b1,b2,b3⟩:=nJ a1.1 a3 (hr.mono a1.2.1 a1.2.2) e2;rw[bV];exact⟨a1.trans b1,.cons (a2.mono b1.2.1) b2,b3⟩
  .cases e
theorem C8(hm:MemL C L h w)(hf:bY h1 h)(hx:RepA w (ag C L h) L h x u)(e:xY h1 x=some (p,W)):
 aG C L h w L (ai h W) w∧Rep w (ag C L (ai h W)) p u∧bY h1 (ai h W):=by
 unfold xY at e;split at e
 .rename_i cs
  split at e
  .rename_i ps W' e1
   simp only[Option.some.injEq,Prod.mk.injEq]at e;obtain⟨rfl,rfl⟩:=e
   cases hx with
   |agg _ vs hl hh=>
    obtain⟨a1,a2,a3⟩:=lM hm hf ⟨hl,hh⟩ e1;exact⟨a1,jM a2,a3⟩
  .cases e
 .rename_i f first caps
  split at e
  .rename_i ps W1 qs W2 e1 e2
   simp only[Option.some.injEq,Prod.mk.injEq]at e;obtain⟨rfl,rfl⟩:=e
   cases hx with
   |fn _ _ _ vs us hl hk hh1 hh2=>
    obtain⟨a1,a2,a3⟩:=lM hm hf ⟨hl,hh1⟩ e1;obtain⟨b1,b2,b3⟩:=nJ a1.1 a3 (aB.mono a1.2.1 a1.2.2 ⟨hk,hh2⟩) e2;rw[bV];exact⟨a1.trans b1,.fn f ps qs vs us (a2.1.trans rfl) b2.1 (a2.mono b1.2.1).2 b2.2,b3⟩
  .cases e
 .exact lL hm hf hx e
theorem qz:∀{xs:List AV}{h:Hp}(_:MemL C L h w)(_:bY h1 h){us:List Value}(_:aB w (ag C L h) L h xs us){ps:List PV}{W:List (Nat×Blk)}(_:mR h1 xs=some (ps,W)),
 aG C L h w L (ai h W) w∧bw w (ag C L (ai h W)) ps us∧bY h1 (ai h W)
 |[],h,hm,hf,us,hx,ps,W,e=>by
  simp only[mR,Option.some.injEq,Prod.mk.injEq]at e;obtain⟨rfl,rfl⟩:=e;rw[hx.nil_inv];exact⟨aG.refl hm,bw.nil,hf⟩
 |x::r,h,hm,hf,us,hx,ps,W,e=>by
  simp only[mR]at e;split at e
  .rename_i p W1 ps' W2 e1 e2
   simp only[Option.some.injEq,Prod.mk.injEq]at e;obtain⟨rfl,rfl⟩:=e;obtain⟨u,us',rfl,hu,hr⟩:=hx.cons_inv;obtain⟨a1,a2,a3⟩:=C8 hm hf hu e1;obtain⟨b1,b2,b3⟩:=qz a1.1 a3 (hr.mono a1.2.1 a1.2.2) e2;rw[bV];exact⟨a1.trans b1,.cons (a2.mono b1.2.1) b2,b3⟩
  .cases e
theorem ll(hm:MemL C L h w)(hf:bY h1 h)(hx:RepA w (ag C L h) L h x u)(e:frz h1 x=some (p,W)):
 aG C L h w L (ai h W) w∧Rep w (ag C L (ai h W)) p u∧bY h1 (ai h W):=by
 unfold frz at e;split at e
 .rename_i cs
  split at e
  .rename_i ps W' e1
   simp only[Option.some.injEq,Prod.mk.injEq]at e;obtain⟨rfl,rfl⟩:=e
   cases hx with
   |agg _ vs hl hh=>
    obtain⟨a1,a2,a3⟩:=qz hm hf ⟨hl,hh⟩ e1;exact⟨a1,jM a2,a3⟩
  .cases e
 .rename_i f first caps
  split at e
  .rename_i ps W1 qs W2 e1 e2
   simp only[Option.some.injEq,Prod.mk.injEq]at e;obtain⟨rfl,rfl⟩:=e
   cases hx with
   |fn _ _ _ vs us hl hk hh1 hh2=>
    obtain⟨a1,a2,a3⟩:=lM hm hf ⟨hl,hh1⟩ e1;obtain⟨b1,b2,b3⟩:=nJ a1.1 a3 (aB.mono a1.2.1 a1.2.2 ⟨hk,hh2⟩) e2;rw[bV];exact⟨a1.trans b1,.fn f ps qs vs us (a2.1.trans rfl) b2.1 (a2.mono b1.2.1).2 b2.2,b3⟩
  .cases e
 .rename_i vs
  split at e
  .rename_i ps W' e1
   simp only[Option.some.injEq,Prod.mk.injEq]at e;obtain⟨rfl,rfl⟩:=e
   cases hx with
   |tup _ vs' hl hh=>
    obtain⟨a1,a2,a3⟩:=qz hm hf ⟨hl,hh⟩ e1;exact⟨a1,.tup ps vs' a2.1 a2.2,a3⟩
  .cases e
 .exact lL hm hf hx e
theorem sD(hm:MemL C L h w)(hs:∀k b,h1 k=some b->h k=some b)(hx:RepA w (ag C L h) L h x u)(e:eT h1 x=some (cs,off)):
 ∃b o,u=.pointer (some ⟨b,o+off,none⟩)∧∀(j:Nat) c,cs[j]?=some c->∃v,w.cell? ⟨b,o+j,none⟩=some v∧RepA w (ag C L h) L h c v:=by
 cases x with
 |ptr k off'=>
  simp only[eT]at e;split at e
  .rename_i cs' own fz hk
   simp only[Option.some.injEq,Prod.mk.injEq]at e;obtain⟨rfl,rfl⟩:=e;obtain⟨arr,ty,e1,e2⟩:=hm.bl k _ (hs _ _ hk)
   cases hx with
   |ptr _=>
    refine⟨(L k).b,0,by simp,λj c hj=>?_⟩
    have hlt:j<arr.toList.length:=by rw[<-e2.1];exact(List.getElem?_eq_some_iff.1 hj).1
    have hu:arr.toList[j]?=some (arr.toList[j]):=List.getElem?_eq_getElem hlt;exact⟨_,by rw[dI e1,Nat.zero_add,<-Array.getElem?_toList];exact hu,e2.2 j c _ hj hu⟩
  .cases e
 |pv p=>
  cases p with
  |rptr y off'=>
   simp only[eT,Option.some.injEq,Prod.mk.injEq]at e;obtain⟨rfl,rfl⟩:=e
   cases hx with
   |pv hr=>cases hr with
    |rptr _ b o _ uu hc hr=>
     refine⟨b,o,rfl,λj c hj=>?_⟩;simp only[List.getElem?_map,Option.map_eq_some_iff]at hj;obtain⟨q,hq,rfl⟩:=hj;exact⟨uu j,(hc j q hq).1,.pv (hr j q hq)⟩
  |_=>simp[eT]at e
 |eptr k n i off'=>
  simp only[eT]at e;split at e
  .rename_i ee sz xs fz hk
   split at e
   .rename_i hn
    split at e
    .rename_i y hy
     simp only[Option.some.injEq,Prod.mk.injEq]at e;obtain⟨rfl,rfl⟩:=e;have hk':=hs _ _ hk
     cases hx with
     |eptr hk2 hn2 hu=>
      rw[hk']at hk2;injection hk2 with hk2;injection hk2 with a1 a2 a3 a4;subst a1;subst a2;subst a3;subst a4;obtain⟨hnil,rfl⟩:=hu hn;rcases lk hm hk' with⟨hh,_⟩|⟨_,_,_,arr,e1,_,e3⟩
      .rw[hnil]at hh;cases hh
      .refine⟨(L k).b,i*sz,rfl,λj c hj=>?_⟩
       simp only[List.getElem?_map,Option.map_eq_some_iff]at hj;obtain⟨q,hq,rfl⟩:=hj;obtain⟨v,hv,hr⟩:=e3 i y j q hy hq;exact⟨v,by rw[dI e1];exact hv,.pv hr⟩
    .cases e
   .cases e
  .cases e
 |arr=>simp[eT]at e
 |agg=>simp[eT]at e
 |fn=>simp[eT]at e
 |tup=>simp[eT]at e
 |ext=>simp[eT]at e
 |undef=>simp[eT]at e
theorem Al(e:wv h1 sz x=some p):eT h1 x=some (p.cells.map .pv,0)∧nh p=true∧p.cells.length=sz:=by
 unfold wv at e;split at e
 .rename_i y
  split at e
  .rename_i hy
   injection e with e;subst e;simp only[Bool.and_eq_true,beq_iff_eq]at hy;exact⟨rfl,hy.1,hy.2⟩
  .cases e
 .rename_i k n i
  split at e
  .rename_i ee s xs fz hk
   split at e
   .rename_i hn
    split at e
    .rename_i y hy
     split at e
     .rename_i hq
      injection e with e;subst e;simp only[Bool.and_eq_true,beq_iff_eq]at hq;exact⟨by simp[eT,hk,hn,hy],hq.1,hq.2⟩
     .cases e
    .cases e
   .cases e
  .cases e
 .cases e
theorem aJ(hr:Rep w M (.val v) u):u=v:=by cases hr;rfl
theorem Am(ha:nh p=true)(hr:bw w M p.cells us):Rep w M p (.agg us.toArray):=by
 cases p with
 |agg cs=>exact .agg cs us hr.1 hr.2
 |val v=>
  cases v with
  |agg arr=>
   have:us=arr.toList:=by
    apply List.ext_getElem?;intro i;by_cases hi:i<us.length
    .have hl:=hr.1
     simp only[PV.cells,Value.cells,List.length_map,Array.length_toList]at hl;have h2:arr.toList[i]?=some (arr.toList[i]'(by simp;omega)):=List.getElem?_eq_getElem _;have h3:=hr.2 i (.val (arr.toList[i]'(by simp;omega))) us[i] (by simp[PV.cells,Value.cells,h2]) (List.getElem?_eq_getElem hi);rw[h2,List.getElem?_eq_getElem hi,aJ h3]
    .rw[List.getElem?_eq_none (by omega),List.getElem?_eq_none]
     have hl:=hr.1;simp only[PV.cells,Value.cells,List.length_map]at hl;omega
   rw[this];exact .val _
  |_=>simp[nh]at ha
 |_=>simp[nh]at ha
theorem ye(hc:∀(j:Nat) c,cs[j]?=some c->∃v,w.cell? ⟨b,o+j,none⟩=some v∧RepA w M L h c v):
 ∃us:List Value,us.length=cs.length∧(∀(j:Nat) v,us[j]?=some v->w.cell? ⟨b,o+j,none⟩=some v)∧aB w M L h cs us:=by
 induction cs generalizing o with
 |nil=>exact⟨[],rfl,λj v hj=>by simp at hj,aB.nil⟩
 |cons c r ih=>
  obtain⟨v,hv,hr⟩:=hc 0 c rfl;obtain⟨us,h1,h2,h3⟩:=ih (o:=o+1) (λj c' hj=>by have:=hc (j+1) c' (by simpa using hj);rwa [show o+(j+1)=o+1+j from by omega]at this);refine⟨v::us,by simp[h1],λj v' hj=>?_,.cons hr h3⟩
  cases j with
  |zero=>simp at hj;subst hj;exact hv
  |succ j=>have:=h2 j v' (by simpa using hj);rwa [show o+1+j=o+(j+1) from by omega]at this
theorem fU(e:ak P t=some ti):∃i d,P.info? t=some i∧P.underlying t=some d∧ti.size=i.size∧ti.zero=i.zero∧
 ti.kind=(match d with
  |.struct fs=>.struct (fs.toList.map λf=>(f.offset,mD P f.type))
  |.array n e=>.array n (mD P e)
  |.slice e=>match P.info? e with
   |some j=>.slice e j.size j.bytes j.zero
   |none=>.one
  |_=>.one):=by
 unfold ak at e;split at e
 .cases e
 split at e
 .rename_i i d h1 h2;injection e with e;subst e;exact⟨i,d,h1,h2,rfl,rfl,rfl⟩
 .cases e
theorem wK(e:ak P t=some ti):kH P t=true:=by
 unfold ak at e;split at e
 .cases e
 .rename_i h;simpa using h
theorem cy{d:TypeDesc}(e:P.underlying t=some d)(w:World):(underlying t).run P w=.ok d w:=by
 simp[underlying,program,Sem.run,e]
theorem jR{i:TypeInfo}(e:P.info? t=some i)(w:World):(typeInfo t).run P w=.ok i w:=by
 simp[typeInfo,program,Sem.run,e]
theorem fm{i:TypeInfo}(e:P.info? t=some i)(w:World):(sizeOf t).run P w=.ok i.size w:=by
 simp[sizeOf,jR e]
theorem yT(e:ak P t=some ti)(w:World):(isAgg t).run P w=.ok ti.kind.isAgg w:=by
 obtain⟨i,d,_,h2,_,_,hk⟩:=fU e;rw[hk];unfold isAgg;rw[Sem.run_bind,cy h2];simp only[Result.andThen_ok]
 cases d<;>first|rfl|skip
 rename_i e'
 show Result.ok false w=.ok (TK.isAgg (match P.info? e' with
  |some j=>TK.slice e' j.size j.bytes j.zero
  |none=>TK.one)) w
 split<;>rfl
theorem sZ(hm:MemL C L h w)(hs:∀k b,h1 k=some b->h k=some b)(ht:ak C.P t=some ti){v:AV}(hx:RepA w (ag C L h) L h x u)(e:sU ti x h1=some v):
 ∃r,(Instr.loadAt t u).run C.P w=.ok r w∧RepA w (ag C L h) L h v r:=by
 obtain⟨i,d,hi,hd,hsz,_,_⟩:=fU ht;unfold sU at e;split at e
 .rename_i hag
  have key:∀cs off,eT h1 x=some (cs,off)->off+ti.size<=cs.length->∃us,(Instr.loadAt t u).run C.P w=.ok (.agg us.toArray) w∧aB w (ag C L h) L h ((cs.drop off).take ti.size) us:=by
   intro cs off hc hle;obtain⟨b,o,rfl,hcell⟩:=sD hm hs hx hc
   have hrange:∀(j:Nat) c,((cs.drop off).take ti.size)[j]?=some c->∃v,w.cell? ⟨b,(o+off)+j,none⟩=some v∧RepA w (ag C L h) L h c v:=by
    intro j c hj;rw[List.getElem?_take]at hj;split at hj
    .rw[List.getElem?_drop]at hj
     have:=hcell (off+j) c hj
     rwa [show o+(off+j)=o+off+j from by omega]at this
    .cases hj
   obtain⟨us,hl,hus,hr⟩:=ye hrange;refine⟨us,?_,hr⟩
   have hlen:us.length=i.size:=by rw[hl,<-hsz,List.length_take,List.length_drop];omega
   simp only[Instr.loadAt,Instr.sureAddr,pure_bind,loadVar,Sem.run_bind,yT ht,hag,Result.andThen_ok,if_true,fm hi];rw[<-hlen,run_loadCells_list w _ us (λj v hj=>by rw[dR];exact hus j v hj)];rfl
  split at e
  .rename_i p hw
   injection e with e;subst e;obtain⟨h2,h3,h4⟩:=Al hw;obtain⟨us,h5,h6⟩:=key _ _ h2 (by simp[h4]);refine⟨_,h5,.pv (Am h3 ?_)⟩;rw[List.drop_zero,List.take_of_length_le (by simp[h4])]at h6;exact h6.map_pv_inv
  .split at e
   .rename_i cs off hc
    split at e
    .rename_i hle
     injection e with e;subst e;obtain⟨us,h5,h6⟩:=key _ _ hc hle;exact⟨_,h5,qw h6⟩
    .cases e
   .cases e
 .rename_i hag
  split at e
  .rename_i cs off hc
   obtain⟨b,o,rfl,hcell⟩:=sD hm hs hx hc;obtain⟨r,hr1,hr2⟩:=hcell off v e;refine⟨r,?_,hr2⟩
   have hag':ti.kind.isAgg=false:=by simpa using hag
   simp only[Instr.loadAt,Instr.sureAddr,pure_bind,loadVar,Sem.run_bind,yT ht,hag',Result.andThen_ok,Bool.false_eq_true,if_false,run_load,hr1]
  .cases e
end
theorem MemL.touch_pk(hm:MemL C L h w){blk':Blk}(hk:h k=some blk)
 (hw:∀b,b<w.heap.size->(blk.live (L k)->b≠(L k).b)->w'.heap[b]?=w.heap[b]?)
 (hpr:∀o v,blk.live (L k)->blk.frz o->w.cell? ⟨(L k).b,o,none⟩=some v->w'.cell? ⟨(L k).b,o,none⟩=some v)(hfr:∀o,blk.frz o->blk'.frz o)(hcp:dg blk (L k) blk' (L k))
 (hlv:blk'.live (L k)↔blk.live (L k))(hnm:∀kd n es,blk≠.mp kd n es true:=by intro _ _ _ h;cases h):Pres w (ag C L h) w' (ag C L (ah h k (some blk')))∧KC L h L (ah h k (some blk')):=by
 have hkc:KC L h L (ah h k (some blk')):=by
  intro q b hq;by_cases e:q=k
  .subst e;rw[hk]at hq;injection hq with hq;subst hq;exact⟨blk',aF _ _ _,hcp⟩
  .exact⟨b,by rw[bj e];exact hq,bW _ _⟩
 have hM:∀b o,ag C L (ah h k (some blk')) b o->ag C L h b o:=by
  rintro b o (h0|⟨q,b',hq,hl,hb',hf⟩)
  .exact .inl h0
  .by_cases e:q=k
   .subst e
    rw[aF]at hq;injection hq with hq;subst hq;exact .inr ⟨q,blk,hk,hlv.1 hl,hb',λhff=>hf (hfr o hff)⟩
   .rw[bj e]at hq
    exact .inr ⟨q,b',hq,hl,hb',hf⟩
 refine⟨⟨?_,λb arr c hc hn=>⟨?_,λhM'=>hn (hM b 0 hM')⟩⟩,hkc⟩
 case refine_2=>
  have hlt:=tZ hc;by_cases hl:blk.live (L k)
  .by_cases e:b=(L k).b
   .subst e
    have hr:=hm.bl k blk hk
    cases blk with
    |box cs own fz=>obtain⟨_,_,e,_⟩:=hr;rw[e]at hc;cases hc
    |row e sz xs fz=>obtain⟨_,_,_,_,h5⟩:=hr;obtain⟨_,_,_,e,_⟩:=h5 hl;rw[e]at hc;cases hc
    |mp kd n es fz=>
     cases fz with
     |true=>exact absurd rfl (hnm kd n es)
     |false=>exact absurd (Or.inr ⟨k,_,hk,hl,rfl,by simp[Blk.frz]⟩) hn
   .rw[hw b hlt (λ_=>e)];exact hc
  .rw[hw b hlt (λhl'=>absurd hl' hl)];exact hc
 intro b o v hc hn;have hlt:=xX hc;refine⟨?_,λhM'=>hn (hM b o hM')⟩;by_cases hl:blk.live (L k)
 .by_cases e:b=(L k).b
  .subst e
   by_cases hf:blk.frz o
   .exact hpr o v hl hf hc
   .exact absurd (Or.inr ⟨k,blk,hk,hl,rfl,hf⟩) hn
  .simp only[World.cell?,hw b hlt (λ_=>e)]at hc|-;exact hc
 .simp only[World.cell?,hw b hlt (λhl'=>absurd hl' hl)]at hc|-;exact hc
section
variable {C:Cx} {L:Nat->Loc} {h1 h:Hp} {w:World}
theorem nK(hs:∀k b,h1 k=some b->h k=some b)(hx:RepA w M L h x u)(e:ge h1 x=some cs):aB w M L h cs u.cells.toList:=by
 have one:∀{q:AV}{v:Value},RepA w M L h q v->aB w M L h [q] [v]:=λhq=>.cons hq .nil
 cases x with
 |undef=>simp[ge]at e
 |eptr=>simp[ge]at e
 |arr k n=>
  simp only[ge]at e;split at e
  .rename_i ee sz xs fz hk
   split at e
   .rename_i hn
    injection e with e;subst e;have hk':=hs _ _ hk;have hx':=hx
    cases hx with
    |arr hk2 hn2 hu=>
     rw[hk']at hk2;injection hk2 with hk2;injection hk2 with a1 a2 a3 a4;subst a1;subst a2;subst a3;subst a4;have hu':=hu hn;subst hu'
     have:((L k).slice n).cells.toList=[(L k).slice n]:=by unfold Loc.slice;split<;>rfl
     rw[this];exact one hx'
   .cases e
  .cases e
 |pv p=>
  simp only[ge,Option.some.injEq]at e;subst e
  cases hx with
  |pv hr=>exact aB.map_pv hr.cells
 |ptr k off=>
  simp only[ge,Option.some.injEq]at e;subst e
  cases hx with
  |ptr hk=>exact one (.ptr hk)
 |agg cs'=>
  simp only[ge,Option.some.injEq]at e;subst e
  cases hx with
  |agg _ vs hl hh=>exact⟨by simpa[AV.cells,Value.cells]using hl,λi p u hp hu=>hh i p u (by simpa[AV.cells]using hp) (by simpa[Value.cells]using hu)⟩
 |fn f first caps=>
  simp only[ge,Option.some.injEq]at e;subst e
  cases hx with
  |fn _ _ _ vs us hl hk a b=>exact one (.fn f first caps vs us hl hk a b)
 |tup vs=>
  simp only[ge,Option.some.injEq]at e;subst e
  cases hx with
  |tup _ us hl hh=>exact one (.tup vs us hl hh)
 |ext y=>
  simp only[ge,Option.some.injEq]at e;subst e
  cases hx with
  |ext hx'=>
   have e1:u.cells.toList=[u]:=by
    cases hx' with
    |suf hs0 _ _ _ _=>obtain⟨_,_,_,rfl⟩:=hs0;rfl
    |_=>rfl
   rw[e1];exact one (.ext hx')
theorem rP(hr:Rep w M p u)(ho:i8 p=true):u.oneCell'=true:=by
 cases hr<;>simp_all[i8,Value.oneCell']
theorem C9(hs:∀k b,h1 k=some b->h k=some b)(hr:RepA w M L h x u)(ho:sT h1 x=true):u.oneCell'=true:=by
 cases hr with
 |pv hr=>exact rP hr ho
 |ptr=>rfl
 |@arr k n e sz fz xs u hk hn hu=>
  simp only[sT]at ho;split at ho
  .rename_i e' sz' xs' fz' hk'
   have:=hs _ _ hk';rw[hk]at this;injection this with this;injection this with a1 a2 a3 a4;subst a3;rw[hu (by simpa using ho)];unfold Loc.slice;split<;>rfl
  .cases ho
 |eptr=>simp[sT]at ho
 |agg=>simp[sT]at ho
 |fn=>rfl
 |tup=>simp[sT]at ho
 |ext hx=>cases hx with
   |suf hs0 _ _ _ _=>obtain⟨_,_,_,rfl⟩:=hs0;rfl
   |_=>rfl
 |undef=>simp[sT]at ho
theorem aB.take_{ps:List AV}(hr:aB w M L h ps us)(n:Nat):aB w M L h (ps.take n) (us.take n):=by
 refine⟨by simp[hr.1],λi p u hp hu=>?_⟩;rw[List.getElem?_take]at hp hu;split at hp
 .rename_i hi;rw[if_pos hi]at hu;exact hr.2 i p u hp hu
 .cases hp
theorem aB.drop_{ps:List AV}(hr:aB w M L h ps us)(n:Nat):aB w M L h (ps.drop n) (us.drop n):=by
 refine⟨by simp[hr.1],λi p u hp hu=>?_⟩;rw[List.getElem?_drop]at hp hu;exact hr.2 _ p u hp hu
theorem aB.splice_{ps qs:List AV}(hr:aB w M L h ps us)(hq:aB w M L h qs vs)(off:Nat):aB w M L h (cE ps off qs) (cE us off vs):=by
 unfold cE;rw[hq.1];exact((hr.take_ off).append hq).append (hr.drop_ _)
theorem uK(ht:ak P t=some ti){ty:Nat}{cur:Array Value}(hg:w.heap[b]?=some (.cells cur ty (0,0)))(hsz:v.cells.size=ti.size)(hle:o+v.cells.size<=cur.size)
 (h1:∀u∈v.cells.toList,u.oneCell'=true):(Instr.storeAt t (.pointer (some ⟨b,o,none⟩)) v).run P w=.ok () (w.setRow b (cE cur.toList o v.cells.toList).toArray):=by
 obtain⟨i,d,hi,hd,hs,_,_⟩:=fU ht;have:=run_storeCells_at P b o ty v.cells.toList 0 cur w hg (by simpa using hle) h1
 have hne:¬v.cells.size≠i.size:=by simp[hsz,hs]
 simp only[Instr.storeAt,Instr.sureAddr,pure_bind,storeVar,Sem.run_bind,fm hi,Result.andThen_ok,hne,if_false,this];simp[cE]
theorem Ea(hm:MemL C L h w){vc:List AV}{own:Bool}(hk:h k=some (.box cs own false))(ht:ak C.P t=some ti)
 (hu:aB w (ag C L h) L h vc u.cells.toList)(hl:vc.length=ti.size)(hle:off+vc.length<=cs.length)(hone:∀x∈u.cells.toList,x.oneCell'=true):
 ∃w',(Instr.storeAt t (.pointer (some ⟨(L k).b,off,none⟩)) u).run C.P w=.ok () w'∧aG C L h w L (ah h k (some (.box (cE cs off vc) own false))) w':=by
 obtain⟨arr,ty,e1,e2⟩:=hm.bl k _ hk
 have hus:u.cells.size=vc.length:=by have:=hu.1;simp at this;omega
 have hsz:arr.size=cs.length:=by have:=e2.1;simp at this;omega
 refine⟨_,uK ht e1 (by omega) (by omega) hone,?_⟩;have hw:∀b,b<w.heap.size->((Blk.box cs own false).live (L k)->b≠(L k).b)->(w.setRow (L k).b (cE arr.toList off u.cells.toList).toArray).heap[b]?=w.heap[b]?:=λb _ hb=>setRow_other w _ b _ (hb trivial);have hpk:=hm.touch_pk (blk':=.box (cE cs off vc) own false) hk hw (λo v _ hf _=>by cases hf) (λo hf=>by cases hf) rfl Iff.rfl;refine hm.touch hk hw (by simp) rfl rfl rfl (λo v _ hf _=>by cases hf) (λo hf=>by cases hf) rfl Iff.rfl (by have h9:=hm.own k _ hk;cases own<;>exact h9) ?_;refine⟨_,ty,setRow_heap w _ arr _ ty _ e1,?_⟩;have:=(e2.splice_ hu off).mono hpk.1 hpk.2;simpa using this
theorem yU(hm:MemL C L h w){i:Nat}{y y':PV}(hk:h k=some (.row e sz xs fz))(hi:xs[i]?=some y)(hfz:fz<=i)(hnil:(L k).isNil=false)(ht:ak C.P t=some ti)
 {u:Value}{ps:List PV}(hu:bw w (ag C L h) ps u.cells.toList)(hl:ps.length=ti.size)(hle:off+ps.length<=sz)(hone:∀x∈u.cells.toList,x.oneCell'=true)(hy:y'.cells=cE y.cells off ps):
 ∃w',(Instr.storeAt t (.pointer (some ⟨(L k).b,i*sz+off,none⟩)) u).run C.P w=.ok () w'∧aG C L h w L (ah h k (some (.row e sz (xs.set i y') fz))) w':=by
 obtain⟨g1,g2,g3,g4,g5⟩:=hm.bl k _ hk;obtain⟨a1,a2,arr,a3,a4,a5⟩:=g5 hnil
 have hus:u.cells.size=ps.length:=by have:=hu.1;simp at this;omega
 have hil:i<xs.length:=(List.getElem?_eq_some_iff.1 hi).1
 have hmul:(i+1)*sz<=arr.size:=by rw[a4];exact Nat.mul_le_mul_right _ (by omega)
 rw[Nat.add_mul]at hmul
 have hle2:i*sz+off+u.cells.size<=arr.size:=by omega
 refine⟨_,uK ht a3 (by omega) hle2 hone,?_⟩;have hw:∀b,b<w.heap.size->((Blk.row e sz xs fz).live (L k)->b≠(L k).b)->(w.setRow (L k).b (cE arr.toList (i*sz+off) u.cells.toList).toArray).heap[b]?=w.heap[b]?:=λb _ hb=>setRow_other w _ b _ (hb hnil);have hfz2:fz*sz<=i*sz:=Nat.mul_le_mul_right _ hfz
 have hsp:∀o,o<i*sz+off∨i*sz+off+u.cells.size<=o->(cE arr.toList (i*sz+off) u.cells.toList)[o]?=arr[o]?:=by
  intro o ho;unfold cE;rcases ho with ho|ho
  .rw[List.append_assoc,List.getElem?_append_left (by simp;omega),List.getElem?_take,if_pos ho];simp
  .rw[List.getElem?_append_right (by simp;omega),List.getElem?_drop]
   simp only[List.length_append,List.length_take,Array.length_toList];rw[show i*sz+off+u.cells.size+(o-(min (i*sz+off) arr.size+u.cells.size))=o from by omega];simp
 have hin:∀j,j<u.cells.size->(cE arr.toList (i*sz+off) u.cells.toList)[i*sz+off+j]?=u.cells[j]?:=by
  intro j hj;unfold cE;rw[List.append_assoc,List.getElem?_append_right (by simp;omega),List.getElem?_append_left (by simp;omega)];simp only[List.length_take,Array.length_toList];rw[show i*sz+off+j-min (i*sz+off) arr.size=j from by omega];simp
 have hpr:∀o v,(Blk.row e sz xs fz).live (L k)->(Blk.row e sz xs fz).frz o->w.cell? ⟨(L k).b,o,none⟩=some v->(w.setRow (L k).b (cE arr.toList (i*sz+off) u.cells.toList).toArray).cell? ⟨(L k).b,o,none⟩=some v:=by
  intro o v _ hf hc;simp only[Blk.frz]at hf;rw[cell_setRow_same w _ o arr _ _ _ a3,List.getElem?_toArray,hsp o (.inl (by omega)),<-dI a3];exact hc
 have hlen:(xs.set i y').length=xs.length:=by simp
 have hcp:dg (.row e sz xs fz) (L k) (.row e sz (xs.set i y') fz) (L k):=⟨rfl,rfl,by omega,λ_=>rfl⟩;have hpk:=hm.touch_pk (blk':=.row e sz (xs.set i y') fz) hk hw hpr (λo hf=>hf) hcp Iff.rfl;refine hm.touch hk hw (by simp) rfl rfl rfl hpr (λo hf=>hf) hcp Iff.rfl (by have h9:=hm.own k _ hk;exact h9) ?_;have hylen:y.cells.length=sz:=g3 y (List.mem_of_getElem? hi)
 have hy'len:y'.cells.length=sz:=by rw[hy];simp[cE];omega
 refine⟨g1,by omega,?_,λhn=>absurd hnil (by rw[hn];simp),λ_=>⟨by omega,a2,_,setRow_heap w _ arr _ _ _ a3,by simp[cE];omega,?_⟩⟩
 .intro x hx
  rcases List.mem_or_eq_of_mem_set hx with hx|rfl
  .exact g3 x hx
  .exact hy'len
 .intro i' x j p hx hj
  rw[List.getElem?_set]at hx;split at hx
  .rename_i hii
   subst hii;injection hx with hx;subst hx
   have hjs:j<sz:=by rw[<-hy'len];exact(List.getElem?_eq_some_iff.1 hj).1
   rw[hy]at hj;by_cases c1:j<off
   .unfold cE at hj
    rw[List.append_assoc,List.getElem?_append_left (by simp;omega),List.getElem?_take,if_pos c1]at hj;obtain⟨v,hv,hr⟩:=a5 i y j p hi hj;exact⟨v,by rw[List.getElem?_toArray,hsp _ (.inl (by omega))];exact hv,hr.mono hpk.1⟩
   .by_cases c2:j<off+ps.length
    .unfold cE at hj
     rw[List.append_assoc,List.getElem?_append_right (by simp;omega),List.getElem?_append_left (by simp;omega)]at hj;simp only[List.length_take]at hj;rw[show j-min off y.cells.length=j-off from by omega]at hj
     have hlt:j-off<u.cells.size:=by omega
     have hu2:u.cells.toList[j-off]?=some u.cells[j-off]:=by simp[hlt]
     refine⟨u.cells[j-off],?_,(hu.2 _ p _ hj hu2).mono hpk.1⟩;rw[List.getElem?_toArray,show i*sz+j=i*sz+off+(j-off) from by omega,hin _ hlt];simp[hlt]
    .unfold cE at hj
     rw[List.getElem?_append_right (by simp;omega),List.getElem?_drop]at hj;simp only[List.length_append,List.length_take]at hj;rw[show off+ps.length+(j-(min off y.cells.length+ps.length))=j from by omega]at hj;obtain⟨v,hv,hr⟩:=a5 i y j p hi hj;exact⟨v,by rw[List.getElem?_toArray,hsp _ (.inr (by omega))];exact hv,hr.mono hpk.1⟩
  .rename_i hii
   obtain⟨v,hv,hr⟩:=a5 i' x j p hx hj
   have hjs:j<sz:=by rw[<-g3 x (List.mem_of_getElem? hx)];exact(List.getElem?_eq_some_iff.1 hj).1
   refine⟨v,?_,hr.mono hpk.1⟩;rw[List.getElem?_toArray,hsp _ ?_]
   .exact hv
   .rcases Nat.lt_or_gt_of_ne hii with hlt|hgt
    .right
     have:(i+1)*sz<=i'*sz:=Nat.mul_le_mul_right _ hlt;rw[Nat.add_mul]at this;omega
    .left
     have:(i'+1)*sz<=i*sz:=Nat.mul_le_mul_right _ hgt;rw[Nat.add_mul]at this;omega
theorem Cc(hr:bw w M ps us)(ho:ps.all i8=true):∀x∈us,x.oneCell'=true:=by
 intro x hx;obtain⟨i,hi⟩:=List.mem_iff_getElem?.1 hx
 have hlt:i<ps.length:=by rw[hr.1];exact(List.getElem?_eq_some_iff.1 hi).1
 exact rP (hr.2 i ps[i] x (List.getElem?_eq_getElem hlt) hi) (List.all_eq_true.1 ho _ (List.getElem_mem hlt))
theorem zD(hm:MemL C L h w)(hs:∀k b,h1 k=some b->h k=some b)(ht:ak C.P t=some ti){v:AV}{a:Value}(hx:RepA w (ag C L h) L h x a)(hv:RepA w (ag C L h) L h v u)
 {W:List (Nat×Blk)}(e:ua ti x v h1=some W):∃w',(Instr.storeAt t a u).run C.P w=.ok () w'∧aG C L h w L (ai h W) w':=by
 unfold ua at e;split at e
 .rename_i k off
  split at e
  .rename_i cs own vc hk hvc
   split at e
   .rename_i hc
    injection e with e;subst e;have hr:=nK hs hv hvc
    cases hx with
    |ptr _=>
     refine Ea hm (hs _ _ hk) ht hr hc.1 hc.2.1 ?_;intro y hy;obtain⟨i,hi⟩:=List.mem_iff_getElem?.1 hy
     have hlt:i<vc.length:=by rw[hr.1];exact(List.getElem?_eq_some_iff.1 hi).1
     have h2:=hr.2 i vc[i] y (List.getElem?_eq_getElem hlt) hi;exact C9 hs h2 (List.all_eq_true.1 hc.2.2 _ (List.getElem_mem hlt))
   .cases e
  .cases e
 .rename_i k n i off
  split at e
  .rename_i ee sz xs fz hk
   split at e
   .rename_i hc
    split at e
    .rename_i y p hy hp
     have hk':=hs _ _ hk;obtain⟨b1,b2,b3⟩:=lL hm (bY.of_sub hs) hv hp;have b2:Rep w (ag C L h) p u:=b2;split at e
     .rename_i hok
      simp only[lI,Bool.and_eq_true,beq_iff_eq]at hok
      cases hx with
      |eptr hk2 hn2 hu=>
       rw[hk']at hk2;injection hk2 with hk2;injection hk2 with a1 a2 a3 a4;subst a1;subst a2;subst a3;subst a4;obtain⟨hnil,rfl⟩:=hu hc.1;have hylen:=(hm.bl k _ hk').2.2.1 y (List.mem_of_getElem? hy);split at e
       .rename_i hoff
        injection e with e;subst e;obtain⟨rfl,hsz⟩:=hoff;exact yU hm hk' hy hc.2 hnil ht b2.cells hok.1 (by omega) (Cc b2.cells hok.2) (by simp[cE];omega)
       .split at e
        .rename_i hoff
         injection e with e;subst e;exact yU hm hk' hy hc.2 hnil ht b2.cells hok.1 (by omega) (Cc b2.cells hok.2) (jp _)
        .cases e
     .cases e
    .cases e
   .cases e
  .cases e
 .cases e
end
theorem mE(hx:Ext (λ_=>False) w w'){b0:Nat}{q:Prop}(hb:q->w.heap.size<=b0):Pres w M w' (λb o=>M b o∨(q∧b=b0)):=by
 refine Pres.ext hx (λ_ _ h=>h.elim) λb o hlt=>?_;rintro(h|⟨hq,rfl⟩)
 .exact h
 .have:=hb hq;omega
theorem gU(w:World)(o:Obj):(w.alloc o).heap[w.heap.size]?=some o:=heap_alloc_new w o
section
variable {C:Cx} {L:Nat->Loc} {h1 h:Hp} {w:World}
theorem yf(hm:MemL C L h w)(hd:h d=none)(hd2:d<2000000){us:Array Value}(hr:aB w (ag C L h) L h cs us.toList)(ty:TypeId):
 aG C L h w (ah L d ⟨w.heap.size,0,false⟩) (ah h d (some (.box cs true false))) (w.alloc (.cells us ty))∧
 RepA (w.alloc (.cells us ty)) (ag C (ah L d ⟨w.heap.size,0,false⟩) (ah h d (some (.box cs true false)))) (ah L d ⟨w.heap.size,0,false⟩) (ah h d (some (.box cs true false))) (.ptr d 0) (.pointer (some ⟨w.heap.size,0,none⟩)):=by
 have hx:Ext (λ_=>False) w (w.alloc (.cells us ty)):=Ext.alloc _ w _;have hkc:KC L h (ah L d ⟨w.heap.size,0,false⟩) (ah h d (some (.box cs true false))):=KC.new hd;refine⟨hm.newKey hd hd2 hx (λ_=>Nat.le_refl _) (by intro cs' fz' e;injection e with _ e2;cases e2) ⟨us,ty,gU w _,hr.mono (mE hx (λ_=>Nat.le_refl _)) hkc⟩,?_⟩;have:=RepA.ptr (w:=w.alloc (.cells us ty)) (M:=ag C (ah L d ⟨w.heap.size,0,false⟩) (ah h d (some (.box cs true false)))) (L:=ah L d ⟨w.heap.size,0,false⟩) (h:=ah h d (some (.box cs true false))) (k:=d) (off:=0) (aF _ _ _);rw[aF]at this;exact this
theorem jq(hm:MemL C L h w)(hx:Ext (λ_=>False) w w')(hd:h d=none)(hd2:d<2000000)(hl:l.isNil=false->w.heap.size<=l.b)
 (hb:db w' (λb o=>ag C L h b o∨(l.isNil=false∧b=l.b)) (λ_=>default) (λ_=>none) l (.row e sz xs 0)):
 aG C L h w (ah L d l) (ah h d (some (.row e sz xs 0))) w'∧
 RepA w' (ag C (ah L d l) (ah h d (some (.row e sz xs 0)))) (ah L d l) (ah h d (some (.row e sz xs 0))) (.arr d xs.length) (l.slice xs.length):=by
 refine⟨hm.newKey hd hd2 hx hl (by intro cs' fz' e;cases e) hb,?_⟩;exact .arr (aF _ _ _) (Nat.le_refl _) (λ_=>by rw[aF])
theorem H8{i j:Nat}(hj:j<sz):(i*sz+j)%sz=j:=by
 rw[Nat.add_comm,Nat.add_mul_mod_self_right];exact Nat.mod_eq_of_lt hj
theorem Ao(hm:MemL C L h w)(ht:ak C.P t=some ti){d:Option Nat}(hfresh:∀q,d=some q->h1 q=h q∧q<2000000){l c:AV}{ul uc:Value}(hl:RepA w (ag C L h) L h l ul)(hc:RepA w (ag C L h) L h c uc)
 {v:AV}{W:List (Nat×Blk)}(e:wy ti d l c h1=some (v,W)):
 ∃r w' L',(Instr.makeSlice t ul uc).run C.P w=.ok r w'∧aG C L h w L' (ai h W) w'∧RepA w' (ag C L' (ai h W)) L' (ai h W) v r:=by
 obtain⟨i,dd,hi,hd,hsz,_,hk⟩:=fU ht;unfold wy at e;split at e
 .rename_i e0 esz ebytes z k1 n k2 m q hkind
  split at e
  .rename_i hcond
   obtain⟨c1,c2,c3,c4,c5,c6,c7⟩:=hcond;injection e with e;injection e with e1 e2;subst e1;subst e2;subst c3
   have hslice:∃ee j,dd=.slice ee∧C.P.info? ee=some j∧e0=ee∧j.size=esz∧j.bytes=ebytes∧j.zero=some z:=by
    rw[hk]at hkind;split at hkind
    .cases hkind
    .cases hkind
    .rename_i ee
     split at hkind
     .rename_i j hj;injection hkind with a1 a2 a3 a4;exact⟨ee,j,rfl,hj,a1.symm,a2,a3,a4⟩
     .cases hkind
    .cases hkind
   obtain⟨ee,j,rfl,hj,rfl,rfl,rfl,hz⟩:=hslice
   cases hl with
   |pv hl=>cases hc with
    |pv hc=>
     rw[aJ hl,aJ hc];have hrun:=run_make (P:=C.P) w t e0 j z hd hj hz k1 k2 m m c4 (Int.le_refl _) c5 c6
     have hdn:h q=none:=by rw[<-(hfresh q rfl).1];simpa using c7
     have hx:Ext (λ_=>False) w (w.alloc (.cells (madeCells z.cells (m.toNat*j.size)) e0)):=Ext.alloc _ w _
     have hrow:=jq (e:=e0) (sz:=j.size) (xs:=List.replicate m.toNat (PV.val z)) (l:=⟨w.heap.size,m.toNat,false⟩) hm hx hdn (hfresh q rfl).2 (λ_=>Nat.le_refl _) (by
      refine⟨c1,Nat.zero_le _,?_,(λh=>by cases h),λ_=>⟨by simp,by simp only[maxLen];omega,_,gU w _,by simp[size_madeCells],?_⟩⟩
      .intro x hx';rw[List.eq_of_mem_replicate hx'];simp[PV.cells,c2]
      .intro a x b p hxa hxb
       have ha:a<m.toNat:=by have:=(List.getElem?_eq_some_iff.1 hxa).1;simpa using this
       rw[List.getElem?_replicate,if_pos ha]at hxa;injection hxa with hxa;subst hxa;simp only[PV.cells,List.getElem?_map,Option.map_eq_some_iff]at hxb;obtain⟨y,hy,rfl⟩:=hxb
       have hb:b<j.size:=by have:=(List.getElem?_eq_some_iff.1 hy).1;simp at this;omega
       have hb2:b<z.cells.size:=by omega
       refine⟨y,?_,.val _⟩
       have hlt:a*j.size+b<m.toNat*j.size:=by
        have:(a+1)*j.size<=m.toNat*j.size:=Nat.mul_le_mul_right _ ha;rw[Nat.add_mul]at this;omega
       have hyy:z.cells[b]=y:=by simpa[hb2]using hy
       simp[madeCells,hlt,c2,H8 hb]
       rw[getElem!_pos z.cells b hb2];exact hyy)
     refine⟨_,_,_,hrun,hrow.1,?_⟩;have h9:=hrow.2;rw[List.length_replicate]at h9;exact h9
  .cases e
 .cases e
theorem zE(hm:MemL C L h w)(ht:ak C.P t=some ti){hn:List Nat}{d:Option Nat}(hfresh:∀q,d=some q->h1 q=h q∧q<2000000){l c:AV}{ul uc:Value}(hl:RepA w (ag C L h) L h l ul)(hc:RepA w (ag C L h) L h c uc)
 {v:AV}{W:List (Nat×Blk)}(e:ud ti hn d l c h1=some (v,W)):
 ∃r w' L',(Instr.makeSlice t ul uc).run C.P w=.ok r w'∧aG C L h w L' (ai h W) w'∧RepA w' (ag C L' (ai h W)) L' (ai h W) v r:=by
 obtain⟨i,dd,hi,hd,hsz,_,hk⟩:=fU ht;unfold ud at e;split at e
 .rename_i e0 ebytes z k1 n k2 m q hkind
  split at e
  .rename_i hcond
   obtain⟨_,c2,c3,c4,c5,c6,c7⟩:=hcond;injection e with e;injection e with e1 e2;subst e1;subst e2;subst c3
   have hslice:∃ee j,dd=.slice ee∧C.P.info? ee=some j∧e0=ee∧j.size=1∧j.bytes=ebytes∧j.zero=some z:=by
    rw[hk]at hkind;split at hkind
    .cases hkind
    .cases hkind
    .rename_i ee
     split at hkind
     .rename_i j hj;injection hkind with a1 a2 a3 a4;exact⟨ee,j,rfl,hj,a1.symm,a2,a3,a4⟩
     .cases hkind
    .cases hkind
   obtain⟨ee,j,rfl,hj,rfl,hj1,rfl,hz⟩:=hslice
   have hzc:z.cells=#[z]:=by
    have:=gS c2;simp only[PV.cells]at this;apply Array.ext'
    cases hzl:z.cells.toList with
    |nil=>rw[hzl]at this;cases this
    |cons y r=>
     rw[hzl]at this;simp only[List.map_cons,List.cons.injEq,List.map_eq_nil_iff]at this;obtain⟨e1,rfl⟩:=this;injection e1 with e1;subst e1;rfl
   cases hl with
   |pv hl=>cases hc with
    |pv hc=>
     rw[aJ hl,aJ hc];have hrun:=run_make (P:=C.P) w t e0 j z hd hj hz k1 k2 m m c4 (Int.le_refl _) c5 c6
     have hdn:h q=none:=by rw[<-(hfresh q rfl).1];simpa using c7
     have hx:Ext (λ_=>False) w (w.alloc (.cells (madeCells z.cells (m.toNat*j.size)) e0)):=Ext.alloc _ w _
     have hcells:madeCells z.cells (m.toNat*j.size)=(List.replicate m.toNat z).toArray:=by
      rw[hj1,Nat.mul_one,hzc];apply Array.ext
      .simp[size_madeCells]
      .intro a h1 h2
       simp[madeCells,Nat.mod_one]
     have hb:=yf (us:=madeCells z.cells (m.toNat*j.size)) (cs:=List.replicate m.toNat (.pv (.val z))) hm hdn (hfresh q rfl).2 (by
      rw[hcells];refine⟨by simp,λa p u hp hu=>?_⟩;have ha:=(List.getElem?_eq_some_iff.1 hp).1;simp only[List.length_replicate]at ha;rw[List.getElem?_replicate,if_pos ha]at hp;rw[List.getElem?_replicate,if_pos ha]at hu;injection hp with hp;injection hu with hu;subst hp;subst hu
      exact .pv (.val _)) e0
     refine⟨_,_,_,hrun,hb.1,?_⟩;have h9:RepX (ah L q ⟨w.heap.size,0,false⟩) (ah h q (some (.box (List.replicate m.toNat (.pv (.val z))) true false))) (.barr q m.toNat m.toNat) (.slice (some ⟨(ah L q ⟨w.heap.size,0,false⟩ q).b,0,none⟩) m.toNat m.toNat):=.barr (Nat.le_refl _) (aF _ _ _);rw[aF]at h9;exact .ext h9
  .cases e
 .cases e
theorem mV(hm:MemL C L h w)(hs:∀k b,h1 k=some b->h k=some b)(hx:RepA w (ag C L h) L h x u){ys:List PV}(e:eU h1 x=some ys)(hok:ys.all (lI sz)=true):
 ∃A c,u=.slice A ys.length c∧(A=none->ys=[])∧(0<ys.length->∃b o,A=some ⟨b,o,none⟩∧∃news:List Value,news.length=ys.length*sz∧(∀(j:Nat) v,news[j]?=some v->w.cell? ⟨b,o+j,none⟩=some v)∧
  (∀v∈news,v.oneCell'=true)∧(∀(i:Nat) y(j:Nat) p,ys[i]?=some y->y.cells[j]?=some p->∃v,news[i*sz+j]?=some v∧Rep w (ag C L h) p v)):=by
 have hlen:∀y∈ys,y.cells.length=sz∧y.cells.all i8=true:=by
  intro y hy;have:=List.all_eq_true.1 hok y hy;simpa[lI]using this
 have mk:∀b o,(∀(i:Nat) y(j:Nat) p,ys[i]?=some y->y.cells[j]?=some p->∃v,w.cell? ⟨b,o+(i*sz+j),none⟩=some v∧Rep w (ag C L h) p v)->
  ∃news:List Value,news.length=ys.length*sz∧(∀(j:Nat) v,news[j]?=some v->w.cell? ⟨b,o+j,none⟩=some v)∧(∀v∈news,v.oneCell'=true)∧
   (∀(i:Nat) y(j:Nat) p,ys[i]?=some y->y.cells[j]?=some p->∃v,news[i*sz+j]?=some v∧Rep w (ag C L h) p v):=by
  intro b o hc
  have hall:∀q,q<ys.length*sz->∃v,w.cell? ⟨b,o+q,none⟩=some v∧v.oneCell'=true:=by
   intro q hq;have hsz:0<sz:=Nat.pos_of_ne_zero (λh0=>by subst h0;simp at hq);have hi:q/sz<ys.length:=Nat.div_lt_of_lt_mul (by rw[Nat.mul_comm];exact hq);have hj:q%sz<sz:=Nat.mod_lt _ hsz;have hy:=hlen _ (List.getElem_mem hi)
   have hjl:q%sz<ys[q/sz].cells.length:=by omega
   obtain⟨v,hv,hr⟩:=hc (q/sz) ys[q/sz] (q%sz) _ (List.getElem?_eq_getElem hi) (List.getElem?_eq_getElem hjl);refine⟨v,?_,rP hr (List.all_eq_true.1 hy.2 _ (List.getElem_mem hjl))⟩;rw[show q/sz*sz+q%sz=q from by rw[Nat.mul_comm];exact Nat.div_add_mod q sz]at hv;exact hv
  refine⟨(List.range (ys.length*sz)).map λq=>(w.cell? ⟨b,o+q,none⟩).getD undef,by simp,?_,?_,?_⟩
  .intro j v hj
   rw[List.getElem?_map]at hj;by_cases hlt:j<ys.length*sz
   .rw[List.getElem?_range hlt]at hj
    obtain⟨v',hv',_⟩:=hall j hlt;simp[hv']at hj;rw[hv',hj]
   .rw[List.getElem?_eq_none (by simp;omega)]at hj;cases hj
  .intro v hv
   obtain⟨q,hq,rfl⟩:=List.mem_map.1 hv;obtain⟨v',hv',ho⟩:=hall q (List.mem_range.1 hq);simpa[hv']using ho
  .intro i y j p hy hj
   obtain⟨v,hv,hr⟩:=hc i y j p hy hj;refine⟨v,?_,hr⟩;have hi:i<ys.length:=(List.getElem?_eq_some_iff.1 hy).1
   have hj':j<sz:=by rw[<-(hlen y (List.mem_of_getElem? hy)).1];exact(List.getElem?_eq_some_iff.1 hj).1
   have:(i+1)*sz<=ys.length*sz:=Nat.mul_le_mul_right _ hi;rw[Nat.add_mul]at this;rw[List.getElem?_map,List.getElem?_range (by omega)];simp[hv]
 cases x with
 |pv p=>
  cases hx with
  |pv hr=>
  cases p with
  |sl ys'=>
   simp only[eU,Option.some.injEq]at e;subst e
   cases hr with
   |sl0 a c=>exact⟨a,c,rfl,λ_=>rfl,(λh=>by simp at h)⟩
   |sl _ b o c sz' uu hcap hsz hc hr=>
    refine⟨_,c,rfl,(λh=>by cases h),λh0=>⟨b,o,rfl,mk b o ?_⟩⟩;intro i y j p hy hj
    have:sz'=sz:=by rw[<-hsz i y hy];exact(hlen y (List.mem_of_getElem? hy)).1
    subst this;exact⟨_,(hc i y j p hy hj).1,hr i y j p hy hj⟩
  |val v=>
   simp only[eU]at e;split at e
   .rename_i hv
    injection e with e;subst e;rw[aJ hr,jQ hv];exact⟨none,0,rfl,λ_=>rfl,(λh=>by simp at h)⟩
   .cases e
  |_=>simp[eU]at e
 |arr k n=>
  simp only[eU]at e;split at e
  .rename_i ee sz' xs fz hk
   split at e
   .rename_i hn
    injection e with e;subst e;have hk':=hs _ _ hk
    cases hx with
    |arr hk2 hn2 hu=>
     rw[hk']at hk2;injection hk2 with hk2;injection hk2 with a1 a2 a3 a4;subst a1;subst a2;subst a3;subst a4;rw[hu hn];rcases lk hm hk' with⟨hh,hxs⟩|⟨hh,_,_,arr,e1,_,e3⟩
     .subst hxs;subst hn
      exact⟨none,0,by simp[Loc.slice,hh],λ_=>rfl,(λh=>by simp at h)⟩
     .refine⟨some ⟨(L k).b,0,none⟩,(L k).cap,by simp[Loc.slice,hh,hn],(λh=>by cases h),λh0=>⟨(L k).b,0,rfl,mk _ _ ?_⟩⟩
      intro i y j p hy hj
      have hss:sz'=sz:=by rw[<-(hm.bl k _ hk').2.2.1 y (List.mem_of_getElem? hy)];exact(hlen y (List.mem_of_getElem? hy)).1
      subst hss;obtain⟨v,hv,hr⟩:=e3 i y j p hy hj;exact⟨v,by rw[dI e1,Nat.zero_add];exact hv,hr⟩
   .cases e
  .cases e
 |ptr=>simp[eU]at e
 |eptr=>simp[eU]at e
 |agg=>simp[eU]at e
 |fn=>simp[eU]at e
 |tup=>simp[eU]at e
 |ext=>simp[eU]at e
 |undef=>simp[eU]at e
end
theorem vp{b:Blk}(hk:h k=some b):ah h k (some b)=h:=by
 funext n;unfold ah;split
 .rename_i e;rw[e,hk]
 .rfl
theorem di(ht:ak P t=some ti){by_:Nat}{z:Option Value}(hk:ti.kind=.slice e sz by_ z):
 P.underlying t=some (.slice e)∧∃j,P.info? e=some j∧j.size=sz∧j.bytes=by_∧j.zero=z:=by
 obtain⟨i,d,hi,hd,hsz,_,hkind⟩:=fU ht;rw[hk]at hkind;split at hkind
 .cases hkind
 .cases hkind
 .rename_i ee
  split at hkind
  .rename_i j hj
   injection hkind with a1 a2 a3 a4;subst a1;exact⟨hd,j,hj,a2.symm,a3.symm,a4.symm⟩
  .cases hkind
 .cases hkind
theorem uL{e:TypeId}{j:TypeInfo}(ht:P.underlying t=some (.slice e))(hj:P.info? e=some j)(B:Option Addr)(n cap:Nat)(hn:n<=cap)(A:Option Addr)(c:Nat):
 (Builtin.append_ #[t,t] ty #[.slice B n cap,.slice A 0 c]).run P w=.ok (.slice B n cap) w:=by
 have hf:(Builtin.firstCells j.size 0 (.slice A 0 c)).run P w=.ok #[] w:=by
  cases A with
  |none=>rfl
  |some a=>simp only[Builtin.firstCells,Nat.zero_mul];rfl
 cases B with
 |none=>simp[Builtin.append_,run_underlying ht,sizeOf,typeInfo,hj,Builtin.lenOf,hn,hf]
 |some b=>simp[Builtin.append_,run_underlying ht,sizeOf,typeInfo,hj,Builtin.lenOf,hn,hf,storeCells]
theorem vq{ys:List PV}{olds news:List Value}(hlo:olds.length=xs.length*sz)(hxs:∀x∈xs,x.cells.length=sz)(hys:∀y∈ys,y.cells.length=sz)
 (ho:∀(i:Nat) x(j:Nat) p,xs[i]?=some x->x.cells[j]?=some p->∃u,olds[i*sz+j]?=some u∧Rep w M p u)
 (hn:∀(i:Nat) x(j:Nat) p,ys[i]?=some x->x.cells[j]?=some p->∃u,news[i*sz+j]?=some u∧Rep w M p u)
 (i:Nat)(x:PV)(j:Nat)(p:PV)(hx:(xs++ys)[i]?=some x)(hj:x.cells[j]?=some p):∃u,(olds++news)[i*sz+j]?=some u∧Rep w M p u∧i*sz+j<(xs.length+ys.length)*sz:=by
 have hjs:j<sz:=by
  have hmem:=List.mem_of_getElem? hx
  have hl:x.cells.length=sz:=by
   rcases List.mem_append.1 hmem with h|h
   .exact hxs x h
   .exact hys x h
  rw[<-hl];exact(List.getElem?_eq_some_iff.1 hj).1
 have hil:i<xs.length+ys.length:=by have:=(List.getElem?_eq_some_iff.1 hx).1;simpa using this
 have hlt:i*sz+j<(xs.length+ys.length)*sz:=by
  have:(i+1)*sz<=(xs.length+ys.length)*sz:=Nat.mul_le_mul_right _ hil;rw[Nat.add_mul]at this;omega
 by_cases hi:i<xs.length
 .rw[List.getElem?_append_left hi]at hx
  obtain⟨u,hu,hr⟩:=ho i x j p hx hj;exact⟨u,by rw[List.getElem?_append_left (List.getElem?_eq_some_iff.1 hu).1];exact hu,hr,hlt⟩
 .rw[List.getElem?_append_right (by omega)]at hx
  obtain⟨u,hu,hr⟩:=hn _ x j p hx hj;refine⟨u,?_,hr,hlt⟩
  have he:i*sz=xs.length*sz+(i-xs.length)*sz:=by rw[<-Nat.add_mul];congr 1;omega
  rw[List.getElem?_append_right (by rw[hlo];omega),hlo,<-hu]
  congr 1
  omega
section
variable {C:Cx} {L:Nat->Loc} {h1 h:Hp} {w:World}
theorem yg(hm:MemL C L h w)(hs:∀k b,h1 k=some b->h k=some b)(ht:ak C.P t=some ti){d:Option Nat}(hfresh:∀q,d=some q->h1 q=h q∧q<2000000)
 {s x:AV}{us ux:Value}(hsr:RepA w (ag C L h) L h s us)(hx:RepA w (ag C L h) L h x ux){v:AV}{W:List (Nat×Blk)}(e:rI ti d s x h1=some (v,W)):
 ∃r w' L',(Builtin.append_ #[t,t] ty #[us,ux]).run C.P w=.ok r w'∧aG C L h w L' (ai h W) w'∧RepA w' (ag C L' (ai h W)) L' (ai h W) v r:=by
 unfold rI at e;split at e
 .rename_i et esz ebytes z hkind
  obtain⟨hund,jt,hj,rfl,rfl,hz⟩:=di ht hkind;split at e
  .cases e
  .rename_i ys hys
   split at e
   .rename_i hcond
    obtain⟨c1,c2,c3⟩:=hcond
    have hyl:∀y∈ys,y.cells.length=jt.size:=by
     intro y hy;have:=List.all_eq_true.1 c3 y hy;simp[lI]at this;exact this.1
    obtain⟨A,c,rfl,hA0,hA⟩:=mV hm hs hx hys c3;split at e
    .rename_i k n
     split at e
     .rename_i e0 sz xs fz hk
      split at e
      .rename_i hc
       obtain⟨hk2,hn,rfl,rfl,hbytes,h63⟩:=hc;injection e with e;injection e with e1 e2;subst e1;subst e2;have hk':=hs _ _ hk;rw[gu]
       have husv:us=(L k).slice n:=by
        cases hsr with
        |arr hk2 hn2 hu=>
         rw[hk']at hk2;injection hk2 with hk2;injection hk2 with a1 a2 a3 a4;subst a3;exact hu hn
       subst husv;obtain⟨g1,g2,g3,g4,g5⟩:=hm.bl k _ hk';by_cases hy0:ys.length=0
       .have hye:ys=[]:=List.eq_nil_of_length_eq_zero hy0
        subst hye
        have hnc:∃B cap,(L k).slice n=.slice B n cap∧n<=cap:=by
         rcases lk hm hk' with⟨hh,hxs⟩|⟨hh,a1,_⟩
         .subst hxs;subst hn;exact⟨none,0,by simp[Loc.slice,hh],Nat.le_refl _⟩
         .exact⟨_,_,by simp[Loc.slice,hh];exact⟨rfl,rfl⟩,by omega⟩
        obtain⟨B,cap,hB,hBc⟩:=hnc;refine⟨(L k).slice n,w,L,by rw[hB];exact uL hund hj B n cap hBc A c,?_,?_⟩
        .rw[List.append_nil,vp hk'];exact aG.refl hm
        .rw[List.append_nil,vp hk',List.length_nil,Nat.add_zero]
         exact .arr hk' (by omega) (λ_=>rfl)
       .obtain⟨b,o,rfl,news,n1,n2,n3,n4⟩:=hA (by omega)
        have hcell:∀j u,news[j]?=some u->w.cell? ((⟨b,o,none⟩:Addr).add j)=some u:=λj u hu=>by rw[dR];exact n2 j u hu
        rcases lk hm hk' with⟨hh,hxs⟩|⟨hh,a1,a2,arr,a3,a4,a5⟩
        .
         subst hxs;simp only[List.length_nil]at hn;subst hn
         have hsl:(L k).slice 0=.slice none 0 0:=by simp[Loc.slice,hh]
         rw[hsl];have hrun:=run_append_nil (P:=C.P) w t ty e0 jt z hund hj hz ⟨b,o,none⟩ ys.length c news n1 hcell (by omega) (by omega) (by rw[Nat.zero_add]at hbytes;omega);have hx':Ext (λ_=>False) w (w.drew.alloc (.cells (news.toArray++Builtin.zeroCells z.cells (grownCap w ys.length 0 e0-ys.length)) e0)):=(Ext.drew _ w).trans (Ext.alloc _ _ _) (λ_ _ h=>h);have hge:=grownCap_ge w ys.length 0 e0;have hcap:=grownCap_le_maxLen w ys.length 0 e0 (by simp only[maxLen];omega)
         have hmv:=hm.move (xs':=[]++ys) (l':=⟨w.heap.size,grownCap w ys.length 0 e0,false⟩) hk' hk2 hx' ⟨rfl,Nat.le_refl _⟩ (by simp;omega) (by
          refine⟨c1,by simp at g2|-;omega,by simpa using hyl,(λh=>by cases h),λ_=>⟨by simpa using hge,hcap,_,gU _ _,?_,?_⟩⟩
          .simp only[Array.size_append,List.size_toArray,n1,size_zeroCells,c2]
           rw[<-Nat.add_mul];congr 1;omega
          .intro i x j p hxi hxj
           simp only[List.nil_append]at hxi;obtain⟨u,hu,hr⟩:=n4 i x j p hxi hxj;refine⟨u,?_,hr.mono ((mE (q:=True) hx' (λ_=>Nat.le_refl _)).trans (Pres.sub (λb' o' h=>h.elim .inl (λh=>.inr ⟨trivial,h⟩))))⟩;rw[Array.getElem?_append_left (by have:=(List.getElem?_eq_some_iff.1 hu).1;simpa using this)]
           simpa using hu)
         refine⟨_,_,_,hrun,hmv,?_⟩;refine .arr (aF _ _ _) (by simp) (λ_=>?_);rw[aF];simp[Loc.slice]
        .have hsl:(L k).slice n=.slice (some ⟨(L k).b,0,none⟩) n (L k).cap:=by simp[Loc.slice,hh]
         rw[hsl]
         have hmul:n*jt.size<=arr.size:=by rw[a4];exact Nat.mul_le_mul_right _ (by omega)
         have holen:(arr.toList.take (n*jt.size)).length=xs.length*jt.size:=by simp[hn];omega
         have hold:∀(i:Nat) x(j:Nat) p,xs[i]?=some x->x.cells[j]?=some p->∃u,(arr.toList.take (n*jt.size))[i*jt.size+j]?=some u∧Rep w (ag C L h) p u:=by
          intro i x j p hxi hxj;obtain⟨u,hu,hr⟩:=a5 i x j p hxi hxj;refine⟨u,?_,hr⟩
          have hjs:j<jt.size:=by rw[<-g3 x (List.mem_of_getElem? hxi)];exact(List.getElem?_eq_some_iff.1 hxj).1
          have hil:i<xs.length:=(List.getElem?_eq_some_iff.1 hxi).1;have:(i+1)*jt.size<=n*jt.size:=Nat.mul_le_mul_right _ (by omega);rw[Nat.add_mul]at this;rw[List.getElem?_take,if_pos (by omega)];simpa using hu
         have hcells:=vq holen g3 hyl hold n4;by_cases hroom:n+ys.length<=(L k).cap
         .have hmul2:(n+ys.length)*jt.size<=arr.size:=by rw[a4];exact Nat.mul_le_mul_right _ hroom
          rw[Nat.add_mul]at hmul2;have hrun:=run_append_room (P:=C.P) w t ty e0 jt hund hj (L k).b n (L k).cap arr a3 ⟨b,o,none⟩ ys.length c news n1 hcell n3 hroom (by omega);refine⟨_,_,L,hrun,?_,?_⟩
          .have hw:∀b',b'<w.heap.size->((Blk.row e0 jt.size xs fz).live (L k)->b'≠(L k).b)->(w.setRow (L k).b (arr.toList.take (n*jt.size)++news++arr.toList.drop (n*jt.size+news.length)).toArray).heap[b']?=w.heap[b']?:=
            λb' _ hb=>setRow_other w _ b' _ (hb hh)
           have hsp:∀q,q<n*jt.size->(arr.toList.take (n*jt.size)++news++arr.toList.drop (n*jt.size+news.length))[q]?=arr[q]?:=by
            intro q hq;rw[List.append_assoc,List.getElem?_append_left (by simp;omega),List.getElem?_take,if_pos hq];simp
           have hpr:∀o v,(Blk.row e0 jt.size xs fz).live (L k)->(Blk.row e0 jt.size xs fz).frz o->w.cell? ⟨(L k).b,o,none⟩=some v->
            (w.setRow (L k).b (arr.toList.take (n*jt.size)++news++arr.toList.drop (n*jt.size+news.length)).toArray).cell? ⟨(L k).b,o,none⟩=some v:=by
            intro q v _ hf hc;simp only[Blk.frz]at hf;have:fz*jt.size<=n*jt.size:=Nat.mul_le_mul_right _ (by omega);rw[cell_setRow_same w _ q arr _ _ _ a3,List.getElem?_toArray,hsp q (by omega),<-dI a3];exact hc
           have hcp:dg (.row e0 jt.size xs fz) (L k) (.row e0 jt.size (xs++ys) fz) (L k):=⟨rfl,rfl,by simp,λ_=>rfl⟩;have hpk:=hm.touch_pk (blk':=.row e0 jt.size (xs++ys) fz) hk' hw hpr (λo hf=>hf) hcp Iff.rfl;refine hm.touch hk' hw (by simp) rfl rfl rfl hpr (λo hf=>hf) hcp Iff.rfl (by have h9:=hm.own k _ hk';exact h9) ?_;refine⟨g1,by simp;omega,?_,(λhn=>by rw[hh]at hn;cases hn),λ_=>⟨by simp;omega,a2,_,setRow_heap w _ arr _ _ _ a3,?_,?_⟩⟩
           .intro x hx'
            rcases List.mem_append.1 hx' with h'|h'
            .exact g3 x h'
            .exact hyl x h'
           .simp only[List.size_toArray,List.length_append,List.length_take,List.length_drop,Array.length_toList];omega
           .intro i x j p hxi hxj
            obtain⟨u,hu,hr,hlt⟩:=hcells i x j p hxi hxj;refine⟨u,?_,hr.mono hpk.1⟩;rw[List.getElem?_toArray,List.getElem?_append_left (List.getElem?_eq_some_iff.1 hu).1];exact hu
          .refine .arr (aF _ _ _) (by simp;omega) (λ_=>?_)
           simp[Loc.slice,hh]
         .have hrun:=run_append_grow (P:=C.P) w t ty e0 jt z hund hj hz ⟨(L k).b,0,none⟩ n (L k).cap (arr.toList.take (n*jt.size)) (by rw[holen,hn])
           (λq u hu=>by
             rw[dR,dI a3,Nat.zero_add];rw[List.getElem?_take]at hu;split at hu
             .simpa using hu
             .cases hu)
           ⟨b,o,none⟩ ys.length c news n1 hcell (by omega) (by omega) (growslice_fits (by omega) hbytes)
          have hx':Ext (λ_=>False) w (w.drew.alloc (.cells ((arr.toList.take (n*jt.size)).toArray++news.toArray++Builtin.zeroCells z.cells (grownCap w (n+ys.length) (L k).cap e0-(n+ys.length))) e0)):=
           (Ext.drew _ w).trans (Ext.alloc _ _ _) (λ_ _ h=>h)
          have hge:=grownCap_ge w (n+ys.length) (L k).cap e0;have hcap:=grownCap_le_maxLen w (n+ys.length) (L k).cap e0 (by simp only[maxLen];omega)
          have hmv:=hm.move (xs':=xs++ys) (l':=⟨w.heap.size,grownCap w (n+ys.length) (L k).cap e0,false⟩) hk' hk2 hx' ⟨rfl,Nat.le_refl _⟩ (by simp;omega) (by
           refine⟨c1,by simp;omega,?_,(λh=>by cases h),λ_=>⟨by simp;omega,hcap,_,gU _ _,?_,?_⟩⟩
           .intro x hx'
            rcases List.mem_append.1 hx' with h'|h'
            .exact g3 x h'
            .exact hyl x h'
           .simp only[Array.size_append,List.size_toArray,holen,n1,size_zeroCells,c2,hn]
            rw[<-Nat.add_mul,<-Nat.add_mul];congr 1;omega
           .intro i x j p hxi hxj
            obtain⟨u,hu,hr,hlt⟩:=hcells i x j p hxi hxj;refine⟨u,?_,hr.mono ((mE (q:=True) hx' (λ_=>Nat.le_refl _)).trans (Pres.sub (λb' o' h=>h.elim .inl (λh=>.inr ⟨trivial,h⟩))))⟩;have hul:=(List.getElem?_eq_some_iff.1 hu).1
            have hul2:i*jt.size+j<((arr.toList.take (n*jt.size)).toArray++news.toArray).size:=by simp only[Array.size_append,List.size_toArray];simp only[List.length_append]at hul;exact hul
            rw[Array.getElem?_append_left hul2,<-Array.getElem?_toList,Array.toList_append]
            exact hu)
          refine⟨_,_,_,hrun,hmv,?_⟩;refine .arr (aF _ _ _) (by simp;omega) (λ_=>?_);rw[aF];simp[Loc.slice]
      .cases e
     .cases e
    .rename_i vv
     split at e
     .rename_i hv
      split at e
      .rename_i q
       split at e
       .rename_i hc
        obtain⟨hq,hbytes,h63⟩:=hc;injection e with e;injection e with e1 e2;subst e1;subst e2;rw[gu]
        have hqn:h q=none:=by rw[<-(hfresh q rfl).1];simpa using hq
        cases hsr with
        |pv hr=>
        rw[aJ hr,jQ hv];by_cases hy0:ys.length=0
        .have hye:ys=[]:=List.eq_nil_of_length_eq_zero hy0
         subst hye
         have hrow:=jq (e:=et) (sz:=jt.size) (xs:=[]) (l:=⟨0,0,true⟩) hm (Ext.refl _ w) hqn (hfresh q rfl).2 (λh=>by cases h)
          ⟨c1,Nat.zero_le _,by simp,λ_=>rfl,(λh=>by cases h)⟩
         exact⟨_,_,_,uL hund hj none 0 0 (Nat.le_refl _) A c,hrow.1,hrow.2⟩
        .obtain⟨b,o,rfl,news,n1,n2,n3,n4⟩:=hA (by omega)
         have hcell:∀j u,news[j]?=some u->w.cell? ((⟨b,o,none⟩:Addr).add j)=some u:=λj u hu=>by rw[dR];exact n2 j u hu
         have hrun:=run_append_nil (P:=C.P) w t ty et jt z hund hj hz ⟨b,o,none⟩ ys.length c news n1 hcell (by omega) (by omega) (by omega);have hx':Ext (λ_=>False) w (w.drew.alloc (.cells (news.toArray++Builtin.zeroCells z.cells (grownCap w ys.length 0 et-ys.length)) et)):=(Ext.drew _ w).trans (Ext.alloc _ _ _) (λ_ _ h=>h);have hge:=grownCap_ge w ys.length 0 et;have hcap:=grownCap_le_maxLen w ys.length 0 et (by simp only[maxLen];omega)
         have hrow:=jq (e:=et) (sz:=jt.size) (xs:=ys) (l:=⟨w.heap.size,grownCap w ys.length 0 et,false⟩) hm hx' hqn (hfresh q rfl).2 (λ_=>Nat.le_refl _) (by
          refine⟨c1,Nat.zero_le _,hyl,(λh=>by cases h),λ_=>⟨hge,hcap,_,gU _ _,?_,?_⟩⟩
          .simp only[Array.size_append,List.size_toArray,n1,size_zeroCells,c2]
           rw[<-Nat.add_mul];congr 1;omega
          .intro i x j p hxi hxj
           obtain⟨u,hu,hr⟩:=n4 i x j p hxi hxj;refine⟨u,?_,hr.mono (mE hx' (λ_=>Nat.le_refl _))⟩;rw[Array.getElem?_append_left (by have:=(List.getElem?_eq_some_iff.1 hu).1;simpa using this)]
           simpa using hu)
         exact⟨_,_,_,hrun,hrow.1,hrow.2⟩
       .cases e
      .cases e
     .cases e
    .cases e
   .cases e
 .cases e
theorem Ap(hm:MemL C L h w)(hs:∀k b,h1 k=some b->h k=some b){t':TypeId}(ht:ak C.P t=some ti)
 {s x:AV}{us ux:Value}(hsr:RepA w (ag C L h) L h s us)(hx:RepA w (ag C L h) L h x ux){v:AV}{W:List (Nat×Blk)}(e:wx ti s x h1=some (v,W)):
 ∃r w',(Builtin.copy_ #[t,t'] ty #[us,ux]).run C.P w=.ok r w'∧aG C L h w L (ai h W) w'∧RepA w' (ag C L (ai h W)) L (ai h W) v r:=by
 unfold wx at e;split at e
 .rename_i e1 esz ebytes z k n hkind
  obtain⟨hund,jt,hj,rfl,rfl,hz⟩:=di ht hkind;split at e
  .rename_i e0 sz xs ys hk hys
   split at e
   .rename_i hc
    obtain⟨hn,rfl,c3⟩:=hc;injection e with e;injection e with ea eb;subst ea;subst eb;rw[gu];have hk':=hs _ _ hk
    have husv:us=(L k).slice n:=by
     cases hsr with
     |arr hk2 hn2 hu=>
      rw[hk']at hk2;injection hk2 with hk2;injection hk2 with a1 a2 a3 a4;subst a3;exact hu hn
    subst husv
    have hyl:∀y∈ys,y.cells.length=jt.size:=by
     intro y hy;have:=List.all_eq_true.1 c3 y hy;simp[lI]at this;exact this.1
    obtain⟨A,c,rfl,hA0,hA⟩:=mV hm hs hx hys c3;obtain⟨g1,g2,g3,g4,g5⟩:=hm.bl k _ hk';by_cases hmin:Nat.min ys.length n=0
    .
     have hz0:(ys.take (Nat.min ys.length n)++xs.drop (Nat.min ys.length n))=xs:=by rw[hmin];simp
     rw[hz0,vp hk',hmin];refine⟨goInt 0,w,?_,aG.refl hm,.pv (.val _)⟩
     have hf:(Builtin.firstCells jt.size 0 (.slice A ys.length c)).run C.P w=.ok #[] w:=by
      cases A with
      |none=>rfl
      |some a=>simp only[Builtin.firstCells,Nat.zero_mul];rfl
     unfold Loc.slice
     cases hnil:(L k).isNil with
     |true=>
      simp[Builtin.copy_,run_underlying hund,Builtin.lenOf,sizeOf,typeInfo,hj,hf,goInt]
     |false=>simp[Builtin.copy_,run_underlying hund,Builtin.lenOf,sizeOf,typeInfo,hj,hmin,hf,storeCells,goInt]
    .have hpos:0<Nat.min ys.length n:=Nat.pos_of_ne_zero hmin
     have hy0:0<ys.length:=Nat.lt_of_lt_of_le hpos (Nat.min_le_left _ _);have hnn:0<n:=Nat.lt_of_lt_of_le hpos (Nat.min_le_right _ _);obtain⟨b,o,rfl,news,n1,n2,n3,n4⟩:=hA hy0;rcases lk hm hk' with⟨hh,hxs⟩|⟨hh,a1,a2,arr,a3,a4,a5⟩
     .subst hxs;simp at hn;omega
     .have hsl:(L k).slice n=.slice (some ⟨(L k).b,0,none⟩) n (L k).cap:=by simp[Loc.slice,hh]
      rw[hsl];generalize hmm:Nat.min ys.length n=m at *
      have hm1:m<=ys.length:=by rw[<-hmm];exact Nat.min_le_left _ _
      have hm2:m<=n:=by rw[<-hmm];exact Nat.min_le_right _ _
      have hmulm:m*jt.size<=news.length:=by rw[n1];exact Nat.mul_le_mul_right _ hm1
      have hmula:m*jt.size<=arr.size:=by rw[a4];exact Nat.mul_le_mul_right _ (by omega)
      have htl:(news.take (m*jt.size)).length=m*jt.size:=by simp;omega
      have hf:(Builtin.firstCells jt.size m (.slice (some ⟨b,o,none⟩) ys.length c)).run C.P w=.ok (news.take (m*jt.size)).toArray w:=by
       have:=run_loadCells_list (P:=C.P) w ⟨b,o,none⟩ (news.take (m*jt.size)) (λq v hq=>by
        rw[dR];rw[List.getElem?_take]at hq;split at hq
        .exact n2 q v hq
        .cases hq)
       rw[htl]at this;simpa[Builtin.firstCells]using this
      have hst:=run_storeCells_at C.P (L k).b 0 e0 (news.take (m*jt.size)) 0 arr w a3 (by rw[htl];omega) (λv hv=>n3 v (List.mem_of_mem_take hv));simp only[Nat.zero_add,List.take_zero,List.nil_append,htl]at hst;refine⟨goInt m,w.setRow (L k).b (news.take (m*jt.size)++arr.toList.drop (m*jt.size)).toArray,?_,?_,?_⟩
      .simp only[Builtin.copy_,List.getElem?_toArray,List.getElem?_cons_zero,List.getElem?_cons_succ,Sem.run_bind,run_underlying hund,Result.andThen_ok,Builtin.lenOf,Sem.run_pure,sizeOf,typeInfo,program,Sem.run,hj,hmm,hf,hst]
      .have hw:∀b',b'<w.heap.size->((Blk.row e0 jt.size xs 0).live (L k)->b'≠(L k).b)->(w.setRow (L k).b (news.take (m*jt.size)++arr.toList.drop (m*jt.size)).toArray).heap[b']?=w.heap[b']?:=
        λb' _ hb=>setRow_other w _ b' _ (hb hh)
       have hlen:(ys.take m++xs.drop m).length=xs.length:=by simp;omega
       have hcp:dg (.row e0 jt.size xs 0) (L k) (.row e0 jt.size (ys.take m++xs.drop m) 0) (L k):=⟨rfl,rfl,by omega,λ_=>rfl⟩
       have hpr:∀o v,(Blk.row e0 jt.size xs 0).live (L k)->(Blk.row e0 jt.size xs 0).frz o->w.cell? ⟨(L k).b,o,none⟩=some v->
        (w.setRow (L k).b (news.take (m*jt.size)++arr.toList.drop (m*jt.size)).toArray).cell? ⟨(L k).b,o,none⟩=some v:=by
        intro q v _ hf _;simp only[Blk.frz,Nat.zero_mul]at hf;omega
       have hpk:=hm.touch_pk (blk':=.row e0 jt.size (ys.take m++xs.drop m) 0) hk' hw hpr (λo hf=>hf) hcp Iff.rfl;refine hm.touch hk' hw (by simp) rfl rfl rfl hpr (λo hf=>hf) hcp Iff.rfl (by have h9:=hm.own k _ hk';exact h9) ?_;refine⟨g1,Nat.zero_le _,?_,(λhn=>by rw[hh]at hn;cases hn),λ_=>⟨by omega,a2,_,setRow_heap w _ arr _ _ _ a3,?_,?_⟩⟩
       .intro x hx'
        rcases List.mem_append.1 hx' with h'|h'
        .exact hyl x (List.mem_of_mem_take h')
        .exact g3 x (List.mem_of_mem_drop h')
       .simp only[List.size_toArray,List.length_append,htl,List.length_drop,Array.length_toList];omega
       .intro i x j p hxi hxj
        have hjs:∀y:PV,y.cells.length=jt.size->x=y->j<jt.size:=λy hy e=>by subst e;rw[<-hy];exact(List.getElem?_eq_some_iff.1 hxj).1
        by_cases hi:i<m
        .rw[List.getElem?_append_left (by simp;omega),List.getElem?_take,if_pos hi]at hxi
         obtain⟨u,hu,hr⟩:=n4 i x j p hxi hxj;have hj':=hjs x (hyl x (List.mem_of_getElem? hxi)) rfl;have:(i+1)*jt.size<=m*jt.size:=Nat.mul_le_mul_right _ hi;rw[Nat.add_mul]at this;refine⟨u,?_,hr.mono hpk.1⟩;rw[List.getElem?_toArray,List.getElem?_append_left (by rw[htl];omega),List.getElem?_take,if_pos (by omega)];exact hu
        .rw[List.getElem?_append_right (by simp;omega),List.getElem?_drop]at hxi
         rw[show m+(i-(ys.take m).length)=i from by simp;omega]at hxi;obtain⟨u,hu,hr⟩:=a5 i x j p hxi hxj;have:m*jt.size<=i*jt.size:=Nat.mul_le_mul_right _ (by omega);refine⟨u,?_,hr.mono hpk.1⟩;rw[List.getElem?_toArray,List.getElem?_append_right (by rw[htl];omega),List.getElem?_drop,htl];rw[show m*jt.size+(i*jt.size+j-m*jt.size)=i*jt.size+j from by omega];simpa using hu
      .exact .pv (.val _)
   .cases e
  .cases e
 .cases e
end
end Go.Ab
