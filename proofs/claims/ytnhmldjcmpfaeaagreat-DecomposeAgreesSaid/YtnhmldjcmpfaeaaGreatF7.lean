/- The contracts and facts that the laws of this seat need, in one text (CfB, Tr4, TrE, TrF, Tr8, Tr9, Tr10, Cf16w, Cf18w, TrG, TcS, DcS, Dc3, DcT, Dc1, Dc2, Dc5, Dc6, DcN, Ab41, DcU, TrH, Dc7, TrS, Ab42, Ab32, Dc13, TrN, TrX, KV, K1, K2, K2b, K3). -/
import Derived.Test.YtnhmldjcmpfaeaaGreatF6
import Derived.Laws.RangeString
import Derived.Laws.RangeAny
import Derived.LoopTactic
set_option linter.all false
set_option maxHeartbeats 16000000
namespace Go.Ab
open Go.Proofs
variable {C:Cx}{M:Nat->Nat->Prop}{N c e fz i k l leaf n sz v:Nat}{P:Program}{Q:Exit->St->Prop}{a a0 a1 a2 a3 a4 a5 b d:Int}{aft:Array Edge}{args pre ys:List PV}{ats:Array TypeId}{dst:Option Nat}{f:Operand}{far far':List Int}{g:Option (Nat×Bool)}{h:Hp}{hasF:Nat->Bool}{hn old:List Nat}{js:List J}{nb:Nat->List Nat}{near:List (List Nat)}{o:Oper}{ops:Array Oper}{p q:PV}{pos:String}{st:St}{t:Tr}{tch tch':Nat->Nat->Bool}{ty:TypeId}{w:World}{xs:List Operand}{α:Type}{ρ:Operand->AV}
def lW(b:Nat):Bool:=decide (97<=b)&&decide (b<=122)
def lX(b:Nat):Bool:=decide (48<=b)&&decide (b<=57)
def gy(k b:Nat):Bool:=lW b||(decide (k≠0)&&(lX b||decide (b=95)))
def eR(s:ByteArray):Bool:=(List.range s.size).all λi=>gy i (s[i]!).toNat
def iA(s:ByteArray):Bool:=decide (1<=s.size)&&decide (s.size<=16)&& !(s.toList==[119,111,114,108,100])&&eR s
theorem jb{s:ByteArray}(h:i<s.size)(hb:gy i (s[i]'h).toNat=false):eR s=false:=by
 rw[eR,List.all_eq_false];exact⟨i,by simpa using h,by rw[getElem!_pos s i h,hb];simp⟩
theorem uS{s:ByteArray}(h:∀i(hi:i<s.size),gy i (s[i]'hi).toNat=true):eR s=true:=by
 rw[eR,List.all_eq_true];intro i hi
 have hi':i<s.size:=by simpa using hi
 rw[getElem!_pos s i hi'];exact h i hi'
theorem uy{s:ByteArray}{pos:Nat}{hp:pos<s.size}(hc:(s[pos]'hp).toNat=c)(hc':gy pos c=true)(hok:∀i(hi:i<s.size),i<pos->gy i (s[i]'hi).toNat=true):∀i(hi:i<s.size),i<pos+1->gy i (s[i]'hi).toNat=true:=by
 intro i hi h;by_cases e:i=pos
 .subst e;rw[hc];exact hc'
 .exact hok i hi (by omega)
set_option maxRecDepth 1000000 in
theorem Fu(s:ByteArray)(w:World)(h1:¬s.size=0)(h2:¬s.size>16)(h3:(s.toList==[119,111,114,108,100])=false):
 Calls Tryz.prog 103 #[.string s] w λe w'=>e=.returned (.bool (eR s))∧(w'=w∨∃pos,w'=w.iter s pos):=by
 have q1:((s.size:Int)==0)=false:=by simp;intro h;exact h1 (by simp[h])
 have q2:¬((16:Int)<(s.size:Int)):=by omega
 go_enter Tryz.func103,Tryz.ntmps103
 go_wp2
 go_loopw [19] (λ_ w'=>∃pos,w'=w.iter s pos∧∀i(hi:i<s.size),i<pos->gy i (s[i]'hi).toNat=true) (λ_ w'=>s.size-w'.iterPos w.heap.size)
 case atStart=>exact⟨0,rfl,λi hi h=>by omega⟩
 case round=>
  obtain⟨pos,rfl,hok⟩:=hrel;by_cases hp:pos<s.size
  .by_cases ha:(s[pos]'hp).toNat<128
   .have hnx:∀ty,(Instr.next (.pointer (some ⟨w.heap.size,0,none⟩)) true ty).run Tryz.prog (w.iter s pos)=_:=λty=>run_next_ascii w s pos ty hp ha
    generalize hc:(s[pos]'hp).toNat=c at hnx ha
    have key:(97<=c∧c<=122)∨(¬97<=c∧pos=0)∨(97<=c∧¬c<=122∧pos=0)∨(¬97<=c∧¬pos=0∧48<=c∧c<=57)∨(¬97<=c∧¬pos=0∧¬48<=c)∨(¬97<=c∧¬pos=0∧¬c<=57∧c=95)∨(¬97<=c∧¬pos=0∧¬c<=57∧¬c=95)∨(97<=c∧¬c<=122∧¬pos=0):=by omega
    rcases key with⟨k1,k2⟩|⟨k1,k2⟩|⟨k1,k2,k3⟩|⟨k1,k2,k3,k4⟩|⟨k1,k2,k3⟩|⟨k1,k2,k3,k4⟩|⟨k1,k2,k3,k4⟩|⟨k1,k2,k3⟩
    .have m1:(97:Int)<=(c:Int):=by omega
     have m2:(c:Int)<=122:=by omega
     go_wp2
     go_roundw
     case rel=>exact⟨pos+1,rfl,uy hc (by simp[gy,lW,lX];omega) hok⟩
     case measure=>simp;omega
    .have m1:¬(97:Int)<=(c:Int):=by omega
     subst k2;have hb:eR s=false:=jb hp (by rw[hc];simp[gy,lW,lX];omega)
     go_wp2
     go_ret
     exact⟨by first|rfl|(rw[hb];rfl),.inr ⟨_,rfl⟩⟩
    .have m1:(97:Int)<=(c:Int):=by omega
     have m2:¬(c:Int)<=122:=by omega
     subst k3;have hb:eR s=false:=jb hp (by rw[hc];simp[gy,lW,lX];omega)
     go_wp2
     go_ret
     exact⟨by first|rfl|(rw[hb];rfl),.inr ⟨_,rfl⟩⟩
    .have m1:¬(97:Int)<=(c:Int):=by omega
     have m2:((pos:Int)==0)=false:=by simp;omega
     have m3:(48:Int)<=(c:Int):=by omega
     have m4:(c:Int)<=57:=by omega
     go_wp2
     go_roundw
     case rel=>exact⟨pos+1,rfl,uy hc (by simp[gy,lW,lX];omega) hok⟩
     case measure=>simp;omega
    .have m1:¬(97:Int)<=(c:Int):=by omega
     have m2:((pos:Int)==0)=false:=by simp;omega
     have m3:¬(48:Int)<=(c:Int):=by omega
     have m4:((c:Int)!=95)=true:=by simp;omega
     have hb:eR s=false:=jb hp (by rw[hc];simp[gy,lW,lX];omega)
     go_wp2
     go_ret
     exact⟨by first|rfl|(rw[hb];rfl),.inr ⟨_,rfl⟩⟩
    .have m1:¬(97:Int)<=(c:Int):=by omega
     have m2:((pos:Int)==0)=false:=by simp;omega
     have m3:(48:Int)<=(c:Int):=by omega
     have m5:¬(c:Int)<=57:=by omega
     have m4:((c:Int)!=95)=false:=by simp;omega
     go_wp2
     go_roundw
     case rel=>exact⟨pos+1,rfl,uy hc (by simp[gy,lW,lX];omega) hok⟩
     case measure=>simp;omega
    .have m1:¬(97:Int)<=(c:Int):=by omega
     have m2:((pos:Int)==0)=false:=by simp;omega
     have m3:(48:Int)<=(c:Int):=by omega
     have m5:¬(c:Int)<=57:=by omega
     have m4:((c:Int)!=95)=true:=by simp;omega
     have hb:eR s=false:=jb hp (by rw[hc];simp[gy,lW,lX];omega)
     go_wp2
     go_ret
     exact⟨by first|rfl|(rw[hb];rfl),.inr ⟨_,rfl⟩⟩
    .have m1:(97:Int)<=(c:Int):=by omega
     have m6:¬(c:Int)<=122:=by omega
     have m2:((pos:Int)==0)=false:=by simp;omega
     have m3:(48:Int)<=(c:Int):=by omega
     have m5:¬(c:Int)<=57:=by omega
     have m4:((c:Int)!=95)=true:=by simp;omega
     have hb:eR s=false:=jb hp (by rw[hc];simp[gy,lW,lX];omega)
     go_wp2
     go_ret
     exact⟨by first|rfl|(rw[hb];rfl),.inr ⟨_,rfl⟩⟩
   .have hnx:∀ty,(Instr.next (.pointer (some ⟨w.heap.size,0,none⟩)) true ty).run Tryz.prog (w.iter s pos)=_:=λty=>run_next_any w s pos ty hp
    have hh:=(decode_high s pos hp (by omega)).1;generalize(Utf8.decode s pos).1=c at hnx hh;generalize(Utf8.decode s pos).2=wd at hnx;have hb:eR s=false:=jb hp (by simp[gy,lW,lX];omega)
    have m1:(97:Int)<=(c:Int):=by omega
    have m6:¬(c:Int)<=122:=by omega
    have m3:(48:Int)<=(c:Int):=by omega
    have m5:¬(c:Int)<=57:=by omega
    have m4:((c:Int)!=95)=true:=by simp;omega
    by_cases k0:pos=0
    .subst k0
     go_wp2
     go_ret
     exact⟨by first|rfl|(rw[hb];rfl),.inr ⟨_,rfl⟩⟩
    .have m2:((pos:Int)==0)=false:=by simp;omega
     go_wp2
     go_ret
     exact⟨by first|rfl|(rw[hb];rfl),.inr ⟨_,rfl⟩⟩
  .have hnx:∀ty,(Instr.next (.pointer (some ⟨w.heap.size,0,none⟩)) true ty).run Tryz.prog (w.iter s pos)=_:=λty=>run_next_end w s pos ty hp
   go_wp2
   go_ret
   exact⟨by rw[uS (λi hi=>hok i hi (by omega))];rfl,.inr ⟨_,rfl⟩⟩
set_option maxRecDepth 1000000 in
theorem Et(s:ByteArray)(w:World)(h:s.size=0∨s.size>16∨(s.toList==[119,111,114,108,100])=true):
 Calls Tryz.prog 103 #[.string s] w λe w'=>e=.returned (.bool false)∧w'=w:=by
 by_cases h1:s.size=0
 .have q1:((s.size:Int)==0)=true:=by simp[h1]
  go_enter Tryz.func103,Tryz.ntmps103
  go_wp2
  go_ret
  exact⟨rfl,rfl⟩
 .have q1:((s.size:Int)==0)=false:=by simp;intro h;exact h1 (by simp[h])
  by_cases h2:s.size>16
  .have q2:((16:Int)<(s.size:Int)):=by omega
   go_enter Tryz.func103,Tryz.ntmps103
   go_wp2
   go_ret
   exact⟨rfl,rfl⟩
  .have q2:¬((16:Int)<(s.size:Int)):=by omega
   have h3:(s.toList==[119,111,114,108,100])=true:=by rcases h with h|h|h<;>first|exact absurd h h1|exact absurd h h2|exact h
   go_enter Tryz.func103,Tryz.ntmps103
   go_wp2
   go_ret
   exact⟨rfl,rfl⟩
theorem K9(s:ByteArray):aa Tryz.prog 103 [.pv (.val (.string s))] [] [] (.pv (B (iA s))):=by
 refine⟨by kernel_rfl,rfl,λw M bs vs hM hbs hnd hbox hlen harg=>?_⟩
 match vs,hlen with
 |[v],_=>
  have hv:Rep w M (.val (.string s)) v:=harg 0 _ _ rfl rfl;cases hv;have ext0:Ext (·∈bs) w w:=Ext.refl _ _;have exti:∀pos,Ext (·∈bs) w (w.iter s pos):=λpos=>Ext.alloc _ _ _
  have hb0:bs=[]:=by cases bs with
   |nil=>rfl
   |cons b r=>simp at hbs
  subst hb0;by_cases h:s.size=0∨s.size>16∨(s.toList==[119,111,114,108,100])=true
  .have hf:iA s=false:=by
    unfold iA;rcases h with h|h|h
    .simp[h]
    .simp;omega
    .simp[h]
   refine(Et s w h).mono ?_;rintro e w' ⟨rfl,rfl⟩;exact⟨_,rfl,ext0,λi b ps h=>by simp at h,by rw[hf];exact .val _⟩
  .have h1:¬s.size=0:=λe=>h (.inl e)
   have h2:¬s.size>16:=λe=>h (.inr (.inl e))
   have h3:(s.toList==[119,111,114,108,100])=false:=by
    cases hq:s.toList==[119,111,114,108,100]with
    |false=>rfl
    |true=>exact absurd (.inr (.inr hq)) h
   have hf:iA s=eR s:=by
    unfold iA;rw[h3]
    have a1:decide (1<=s.size)=true:=by simp;omega
    have a2:decide (s.size<=16)=true:=by simp;omega
    rw[a1,a2];simp
   refine(Fu s w h1 h2 h3).mono ?_;rintro e w' ⟨rfl,hw⟩;rcases hw with rfl|⟨pos,rfl⟩
   .exact⟨_,rfl,ext0,λi b ps h=>by simp at h,by rw[hf];exact .val _⟩
   .exact⟨_,rfl,exti pos,λi b ps h=>by simp at h,by rw[hf];exact .val _⟩
def GO(x:Int):Prop:=-2147483648<=x∧x<=2147483648
def Fw(x:AV)(fb:Option dm):Option dm:=match x with
 |.pv (.val (.string s))=>some (.pv (Z s.size),[])
 |_=>fb
@[simp] theorem Ku(s:ByteArray)(fb:Option dm):Fw (.pv (.val (.string s))) fb=some (.pv (Z s.size),[]):=rfl
theorem Hq(x:Operand)(s:ByteArray):
 bz Tryz.prog ⟨dst,.call ⟨.builtin .len,#[x],#[9]⟩,ty,pos,aft,g⟩ (λ_=>.pv (.val (.string s)))=some (.pv (Z s.size),[]):=by kernel_rfl
@[simp] theorem NO(x:Operand):
 bz Tryz.prog ⟨dst,.call ⟨.builtin .len,#[x],#[9]⟩,ty,pos,aft,g⟩ ρ=Fw (ρ x) (mF Tryz.prog ⟨dst,.call ⟨.builtin .len,#[x],#[9]⟩,ty,pos,aft,g⟩ ρ):=by
 unfold Fw;split
 .rename_i s hs
  rw[<-Hq (dst:=dst) (ty:=ty) (pos:=pos) (aft:=aft) (g:=g) x s];refine oZ (by intro _ _ h;cases h) ?_;intro y hy;simp[Op.operands,Call.operands]at hy;subst hy;exact hs
 .rfl
def fe(x m:Int):Bool:=decide (-m<=x)&&decide (x<=m)
def jD(x y z m:Int):Bool:=fe x m&&fe y m&&fe z m
abbrev mJ(x y z:Int):PV:=.val (.agg #[.int .i64 x,.int .i64 y,.int .i64 z])
theorem y9:IntKind.i64.wrap 1=1:=by decide
theorem za:IntKind.i64.wrap 2=2:=by decide
theorem zb:IntKind.i64.wrap 3=3:=by decide
theorem Iw(h:i<=3):i=0∨i=1∨i=2∨i=3:=by omega
theorem Lr(x y z:Int):aa Tryz.prog 105 [.pv (mJ x y z)] [] [] (.pv (B (!jD x y z 4194304))):=by
 refine Dp Tryz.func105 ?_;intro C hP hN;simp only[Tryz.f105]at hN|-;refine Gz ?_;refine WP.loopN [] 3 (λi st=>st.t 5=.pv (mJ x y z)∧st.t 6=.pv (Z i)∧(0<i->fe x 4194304=true)∧(1<i->fe y 4194304=true)∧(2<i->fe z 4194304=true)) (by simp) ?_;rintro i st hi ⟨h5,h6,q0,q1,q2⟩;rcases Iw hi with rfl|rfl|rfl|rfl
 .skip
  with_reducible repeat' (first|refine Sp.h ?_|((first|refine Ss.h ?_|(refine Sb.h ?_ ?_ ?_<;>(try intro hgd)<;>try exact Xy))<;>simp -implicitDefEqProofs (maxSteps:=2000000) [hP,hN,h5,h6])|refine X2 ?_ ?_|(refine Xd ?_ ?_<;>intro hcd<;>try exact Xx))
  all_goals (simp[jD,fe,y9,za,zb]at *;first|omega|grind)
 .skip
  with_reducible repeat' (first|refine Sp.h ?_|((first|refine Ss.h ?_|(refine Sb.h ?_ ?_ ?_<;>(try intro hgd)<;>try exact Xy))<;>simp -implicitDefEqProofs (maxSteps:=2000000) [hP,hN,h5,h6])|refine X2 ?_ ?_|(refine Xd ?_ ?_<;>intro hcd<;>try exact Xx))
  all_goals (simp[jD,fe,y9,za,zb]at *;first|omega|grind)
 .skip
  with_reducible repeat' (first|refine Sp.h ?_|((first|refine Ss.h ?_|(refine Sb.h ?_ ?_ ?_<;>(try intro hgd)<;>try exact Xy))<;>simp -implicitDefEqProofs (maxSteps:=2000000) [hP,hN,h5,h6])|refine X2 ?_ ?_|(refine Xd ?_ ?_<;>intro hcd<;>try exact Xx))
  all_goals (simp[jD,fe,y9,za,zb]at *;first|omega|grind)
 .skip
  refine Gz ?_
  all_goals (simp[jD,fe,y9,za,zb]at *;first|omega|grind)
def cJ(x a b:Int):Bool:=decide (a<=x)&&decide (x<=b)
theorem Lq(x m:Int):aa Tryz.prog 107 [.pv (Z x),.pv (Z m)] [] [] (.pv (B (cJ x 1 m))):=by
 refine Dp Tryz.func107 ?_;intro C hP hN;simp only[Tryz.f107]at hN|-
 with_reducible repeat' (first|refine Sp.h ?_|((first|refine Ss.h ?_|(refine Sb.h ?_ ?_ ?_<;>(try intro hgd)<;>try exact Xy))<;>simp -implicitDefEqProofs (maxSteps:=2000000) [hP,hN])|refine X2 ?_ ?_|(refine Xd ?_ ?_<;>intro hcd<;>try exact Xx))
 all_goals (first|(simp_all[cJ];done)|((try simp_all[cJ])<;>(try omega)<;>grind))
def xf(k:Int):Int:=if k=1∨k=2∨k=3 then 524288 else if k=4∨k=5∨k=6 then 4194304 else 0
def dC(k:Int):Int:=if k=0 then 0 else if k=1∨k=2∨k=3 then 524288 else 4194304
theorem vu(k:Int):aa Tryz.prog 106 [.pv (Z k)] [] [] (.pv (Z (xf k))):=by
 refine Dp Tryz.func106 ?_;intro C hP hN;simp only[Tryz.f106]at hN|-
 with_reducible repeat' (first|refine Sp.h ?_|((first|refine Ss.h ?_|(refine Sb.h ?_ ?_ ?_<;>(try intro hgd)<;>try exact Xy))<;>simp -implicitDefEqProofs (maxSteps:=2000000) [hP,hN])|refine X2 ?_ ?_|(refine Xd ?_ ?_<;>intro hcd<;>try exact Xx))
 all_goals (simp[xf]at *;first|omega|grind)
theorem BZ{k:Int}(h0:0<=k)(h6:k<=6):xf k=dC k:=by
 have:k=0∨k=1∨k=2∨k=3∨k=4∨k=5∨k=6:=by omega
 rcases this with rfl|rfl|rfl|rfl|rfl|rfl|rfl<;>rfl
def kn(a b:ByteArray):Bool:=a.toList==b.toList
theorem M7(js:List J)(ms:List Ms)(name:ByteArray)(hl:js.length<=9223372036854775807):aa Tryz.prog 104 [.pv (ja js ms),.pv (.val (.string name))] [] [] (.pv (Z (mG (λj=>kn j.name name) js))):=by
 refine Dp Tryz.func104 ?_;intro C hP hN;simp only[Tryz.f104]at hN|-;refine Gz ?_;refine WP.loopN [] js.length (λi st=>st.t 1=.pv (.val (.string name))∧st.t 2=.ptr 2 0∧st.h 2=some (.box [.pv (.sl (js.map cW)),.pv (.sl (ms.map fc))] true false)∧st.t 8=.pv (Z js.length)∧st.t 9=.pv (Z i)∧∀j x,j<i->js[j]?=some x->kn x.name name=false) (by simp) ?_;rintro i st hi ⟨h1,h2,hb,h8,h9,hq⟩;by_cases hlt:i<js.length
 .have hw:=au hlt hl
  with_reducible repeat' (first|refine Sp.h ?_|((first|refine Ss.h ?_|(refine Sb.h ?_ ?_ ?_<;>(try intro hgd)<;>try exact Xy))<;>simp -implicitDefEqProofs (maxSteps:=2000000) [hP,hN,h1,h2,hb,h8,h9,hlt,hw])|refine X2 ?_ ?_|(refine Xd ?_ ?_<;>intro hcd<;>try exact Xx))
  .exact(od hlt hq hcd).symm
  .simpa using nq hlt hq hcd
 .skip
  refine Gz ?_;exact(tu (na hlt hq)).symm
def qA(js:List J)(i:Nat)(name:ByteArray):Bool:=(js.take i).any λj=>kn j.name name
theorem Fz(h:i<js.length):(mG (λj=>kn j.name js[i].name) js !=(i:Int))=qA js i js[i].name:=by
 have hs:kn js[i].name js[i].name=true:=by simp[kn]
 cases hd:qA js i js[i].name with
 |false=>
  have:mG (λj=>kn j.name js[i].name) js=i:=od h (λj x hj hx=>by
   rw[qA,List.any_eq_false]at hd;have hm:x∈js.take i:=List.mem_of_getElem? (by rw[List.getElem?_take,if_pos hj];exact hx)
   simpa using hd x hm) hs
  rw[this];simp
 |true=>
  rw[qA,List.any_eq_true]at hd;obtain⟨x,hx,hp⟩:=hd;obtain⟨k,hk⟩:=List.getElem?_of_mem hx;rw[List.getElem?_take]at hk;split at hk
  .rename_i hki
   simp only[bne_iff_ne,ne_eq];intro he;unfold mG at he
   cases hf:js.findIdx? (λj=>kn j.name js[i].name)with
   |none=>
    rw[hf]at he;simp at he
   |some m=>
    rw[hf]at he;have he':(m:Int)=(i:Int):=he
    have he:m=i:=by omega
    clear he';subst he;rw[List.findIdx?_eq_some_iff_getElem]at hf;obtain⟨hl,_,hno⟩:=hf;have hkl:=(List.getElem?_eq_some_iff.1 hk);have:=hno k hki;rw[hkl.2]at this;exact this hp
  .cases hk
def dv(js:List J)(i:Nat)(j:J):Int:=
 if(!iA j.name||qA js i j.name)=true then 802 else if j.kind<0∨6<j.kind then 803 else if j.parent< -1∨(i:Int)<=j.parent then 804 else if jD j.ox j.oy j.oz 4194304=false then 805
 else if j.hi<j.lo∨j.lo< -dC j.kind∨dC j.kind<j.hi then 806 else if(cJ j.w 1 1024&&cJ j.sp 1 1048576&&cJ j.ac 1 1048576&&cJ j.tq 1 1099511627776)=false then 807 else 0
theorem uT(k:Int):0<=dC k∧dC k<=4194304:=by unfold dC;repeat' split
                                            all_goals omega
theorem s9(js:List J)(ms:List Ms)(i:Nat)(hl:js.length<=9223372036854775807)(hi:i<js.length):aa Tryz.prog 68 [.pv (ja js ms),.pv (Z i)] [] [] (.pv (Z (dv js i js[i]))):=by
 have hx:=List.getElem?_eq_getElem hi;have hfd:=Fz hi;have cf:=M7 js ms js[i].name hl;generalize hxx:js[i]=j at hx hfd cf|-;have hr:=uT j.kind;have hng:IntKind.i64.wrap (0-dC j.kind)=-dC j.kind:=(ab (n:=0-dC j.kind) (by omega) (by omega)).trans (by omega);have hng':IntKind.i64.wrap (-dC j.kind)=-dC j.kind:=ab;generalize mG (λk=>kn k.name j.name) js=q at hfd cf;refine Dp Tryz.func68 ?_;intro C hP hN;simp only[Tryz.f68]at hN|-
 cases hn:iA j.name with
 |false=>
  with_reducible repeat' (first|refine Sp.h ?_|((first|refine Ss.h ?_|refine Sc.h (K9 _) ?_|refine Sc.h (cf) ?_|(refine Sb.h ?_ ?_ ?_<;>(try intro hgd)<;>try exact Xy))<;>simp -implicitDefEqProofs (maxSteps:=2000000) [hP,hN,hx,hxx,hn,hi])|refine X2 ?_ ?_|(refine Xd ?_ ?_<;>intro hcd<;>try exact Xx))
  all_goals simp[dv,hn]
 |true=>
  cases hd:qA js i j.name with
  |true=>
   rw[hd]at hfd
   with_reducible repeat' (first|refine Sp.h ?_|((first|refine Ss.h ?_|refine Sc.h (K9 _) ?_|refine Sc.h (cf) ?_|(refine Sb.h ?_ ?_ ?_<;>(try intro hgd)<;>try exact Xy))<;>simp -implicitDefEqProofs (maxSteps:=2000000) [hP,hN,hx,hxx,hn,hi,hfd])|refine X2 ?_ ?_|(refine Xd ?_ ?_<;>intro hcd<;>try exact Xx))
   all_goals simp[dv,hn,hd]
  |false=>
   rw[hd]at hfd;by_cases hk:j.kind<0∨6<j.kind
   .skip
    with_reducible repeat' (first|refine Sp.h ?_|((first|refine Ss.h ?_|refine Sc.h (K9 _) ?_|refine Sc.h (cf) ?_|(refine Sb.h ?_ ?_ ?_<;>(try intro hgd)<;>try exact Xy))<;>simp -implicitDefEqProofs (maxSteps:=2000000) [hP,hN,hx,hxx,hn,hi,hfd])|refine X2 ?_ ?_|(refine Xd ?_ ?_<;>intro hcd<;>try exact Xx))
    all_goals (first|(simp[dv,hn,hd,hk];done)|(exfalso;simp at *;omega))
   .have hlr:xf j.kind=dC j.kind:=BZ (by omega) (by omega)
    have cl:=vu j.kind;rw[hlr]at cl
    have k1:¬j.kind<0:=by omega
    have k2:¬6<j.kind:=by omega
    by_cases hp:j.parent< -1∨(i:Int)<=j.parent
    .skip
     with_reducible repeat' (first|refine Sp.h ?_|((first|refine Ss.h ?_|refine Sc.h (K9 _) ?_|refine Sc.h (cf) ?_|(refine Sb.h ?_ ?_ ?_<;>(try intro hgd)<;>try exact Xy))<;>simp -implicitDefEqProofs (maxSteps:=2000000) [hP,hN,hx,hxx,hn,hi,hfd,k1,k2])|refine X2 ?_ ?_|(refine Xd ?_ ?_<;>intro hcd<;>try exact Xx))
     all_goals (first|(simp[dv,hn,hd,hk,hp];done)|(exfalso;simp at *;omega))
    .have p1:¬j.parent< -1:=by omega
     have p2:¬(i:Int)<=j.parent:=by omega
     cases hv:jD j.ox j.oy j.oz 4194304 with
     |false=>
      with_reducible repeat' (first|refine Sp.h ?_|((first|refine Ss.h ?_|refine Sc.h (K9 _) ?_|refine Sc.h (cf) ?_|refine Sc.h (Lr _ _ _) ?_|(refine Sb.h ?_ ?_ ?_<;>(try intro hgd)<;>try exact Xy))<;>simp -implicitDefEqProofs (maxSteps:=2000000) [hP,hN,hx,hxx,hn,hi,hfd,k1,k2,p1,p2,hv])|refine X2 ?_ ?_|(refine Xd ?_ ?_<;>intro hcd<;>try exact Xx))
      all_goals (simp[dv,hn,hd,hk,hp,hv])
     |true=>
      by_cases hb:j.hi<j.lo∨j.lo< -dC j.kind∨dC j.kind<j.hi
      .skip
       with_reducible repeat' (first|refine Sp.h ?_|((first|refine Ss.h ?_|refine Sc.h (K9 _) ?_|refine Sc.h (cf) ?_|refine Sc.h (Lr _ _ _) ?_|refine Sc.h (cl) ?_|(refine Sb.h ?_ ?_ ?_<;>(try intro hgd)<;>try exact Xy))<;>simp -implicitDefEqProofs (maxSteps:=2000000) [hP,hN,hx,hxx,hn,hi,hfd,k1,k2,p1,p2,hv,hng,hng'])|refine X2 ?_ ?_|(refine Xd ?_ ?_<;>intro hcd<;>try exact Xx))
       all_goals (first|(simp[dv,hn,hd,hk,hp,hv,hb];done)|(exfalso;simp at *;omega))
      .have b1:¬j.hi<j.lo:=by omega
       have b2:¬j.lo< -dC j.kind:=by omega
       have b3:¬dC j.kind<j.hi:=by omega
       with_reducible repeat' (first|refine Sp.h ?_|((first|refine Ss.h ?_|refine Sc.h (K9 _) ?_|refine Sc.h (cf) ?_|refine Sc.h (Lr _ _ _) ?_|refine Sc.h (cl) ?_|refine Sc.h (Lq _ _) ?_|(refine Sb.h ?_ ?_ ?_<;>(try intro hgd)<;>try exact Xy))<;>simp -implicitDefEqProofs (maxSteps:=2000000) [hP,hN,hx,hxx,hn,hi,hfd,k1,k2,p1,p2,hv,hng,hng',b1,b2,b3])|refine X2 ?_ ?_|(refine Xd ?_ ?_<;>intro hcd<;>try exact Xx))
       all_goals (rw[dv,if_neg (by simp[hn,hd]),if_neg hk,if_neg hp,if_neg (by simp[hv]),if_neg hb];simp_all)
def fW(n:Nat)(m:Ms):Bool:=decide (0<=m.link)&&decide (m.link<n)&&cJ m.mass 1 65536&&jD m.px m.py m.pz 4194304
theorem yk(js:List J)(ms:List Ms)(m:Ms):aa Tryz.prog 71 [.pv (ja js ms),.pv (fc m)] [] [] (.pv (B (fW js.length m))):=by
 refine Dp Tryz.func71 ?_;intro C hP hN;simp only[Tryz.f71]at hN|-
 with_reducible repeat' (first|refine Sp.h ?_|((first|refine Ss.h ?_|refine Sc.h (Lq _ _) ?_|refine Sc.h (Lr _ _ _) ?_|(refine Sb.h ?_ ?_ ?_<;>(try intro hgd)<;>try exact Xy))<;>simp -implicitDefEqProofs (maxSteps:=2000000) [hP,hN])|refine X2 ?_ ?_|(refine Xd ?_ ?_<;>intro hcd<;>try exact Xx))
 all_goals (simp_all[fW]<;>omega)
theorem OX(js:List J)(ms:List Ms)(m:Ms):aa Tryz.prog 70 [.pv (fc m),.pv (.rptr (ja js ms) 0)] [] [] (.pv (B (!fW js.length m))):=by
 refine Dp Tryz.func70 ?_;intro C hP hN;simp only[Tryz.f70]at hN|-;have q1:=@yk;exact GS trivial
theorem IC(f:FuncId)(c:PV)(p:Ms->Bool)(xs:List Ms)(hl:xs.length<=9223372036854775807)(hf:∀x,aa Tryz.prog f [.pv (fc x),.pv (.rptr c 0)] [] [] (.pv (B (p x)))):aa Tryz.prog 108 [.pv (.sl (xs.map fc)),.pv (.fn (.func f) [] [.rptr c 0])] [] [] (.pv (Z (mG p xs))):=by
 refine Dp Tryz.func108 ?_;intro C hP hN;simp only[Tryz.f108]at hN|-;refine Gz ?_;refine WP.loopN [] xs.length (λi st=>st.t 0=.pv (.sl (xs.map fc))∧st.t 1=.pv (.fn (.func f) [] [.rptr c 0])∧st.t 7=.pv (Z xs.length)∧st.t 8=.pv (Z i)∧∀j x,j<i->xs[j]?=some x->p x=false) (by simp) ?_;rintro i st hi ⟨h0,h1,h7,h8,hq⟩;by_cases hlt:i<xs.length
 .have hw:=au hlt hl
  with_reducible repeat' (first|refine Sp.h ?_|((first|refine Ss.h ?_|refine Sc.h (hf _) ?_|(refine Sb.h ?_ ?_ ?_<;>(try intro hgd)<;>try exact Xy))<;>simp -implicitDefEqProofs (maxSteps:=2000000) [hP,hN,h0,h1,h7,h8,hlt,hw])|refine X2 ?_ ?_|(refine Xd ?_ ?_<;>intro hcd<;>try exact Xx))
  .exact(od hlt hq hcd).symm
  .simpa using nq hlt hq hcd
 .skip
  refine Gz ?_;exact(tu (na hlt hq)).symm
theorem Lp(f:FuncId)(c:PV)(p:Ms->Bool)(xs:List Ms)(hl:xs.length<=9223372036854775807)(hf:∀x,aa Tryz.prog f [.pv (fc x),.pv (.rptr c 0)] [] [] (.pv (B (p x)))):aa Tryz.prog 69 [.pv (.sl (xs.map fc)),.pv (.fn (.func f) [] [.rptr c 0])] [] [] (.pv (B (xs.any p))):=by
 refine Dp Tryz.func69 ?_;intro C hP hN;simp only[Tryz.f69]at hN|-;have q1:=IC _ _ _ _ hl hf;refine GT trivial ?_
 all_goals (first|(simp_all[rZ];done)|((try simp_all[rZ])<;>(try omega)<;>grind))
def jg(js:List J):Int:=match(js.mapIdx (dv js)).find? (λe=>e !=0)with
 |some e=>e
 |none=>0
theorem tx(js:List J):jg js=match(js.mapIdx (dv js)).find? (λe=>e !=0)with
 |some e=>e
 |none=>0:=rfl
theorem uU(hlt:i<js.length)(hq:∀k x,k<i->js[k]?=some x->dv js k x=0)(he:dv js i js[i]≠0):jg js=dv js i js[i]:=by
 rw[tx]
 have:(js.mapIdx (dv js)).find? (λe=>e !=0)=some (dv js i js[i]):=by
  rw[List.find?_eq_some_iff_getElem];refine⟨by simpa using he,i,by simpa using hlt,by simp,λk hk=>?_⟩
  have hkl:k<js.length:=by omega
  simp[hq k js[k] hk (List.getElem?_eq_getElem hkl)]
 rw[this]
theorem xg(hq:∀(k:Nat) x,js[k]?=some x->dv js k x=0):jg js=0:=by
 rw[tx]
 have:(js.mapIdx (dv js)).find? (λe=>e !=0)=none:=by
  rw[List.find?_eq_none];intro e he;simp only[List.mem_mapIdx]at he;obtain⟨i,hi,rfl⟩:=he;simp[hq i js[i] (List.getElem?_eq_getElem hi)]
 rw[this]
theorem AP(hlt:i<js.length)(hq:∀k x,k<i->js[k]?=some x->dv js k x=0)(he:dv js i js[i]=0):∀k x,k<i+1->js[k]?=some x->dv js k x=0:=by
 intro k x hk hx;by_cases e:k=i
 .subst e;rw[List.getElem?_eq_getElem hlt]at hx;injection hx with hx;subst hx;exact he
 .exact hq k x (by omega) hx
def bF(js:List J)(ms:List Ms):Int:=if js.length=0∨10<js.length then 801 else if jg js≠0 then jg js else if(decide (32<ms.length)||ms.any λm=>!fW js.length m)=true then 808 else 0
theorem EV(js:List J)(ms:List Ms)(hl:js.length<=9223372036854775807)(hm:ms.length<=9223372036854775807):aa Tryz.prog 29 [.pv (ja js ms)] [] [] (.pv (Z (bF js ms))):=by
 by_cases h0:js.length=0
 .have hc:bF js ms=801:=by simp[bF,h0]
  have h0':js=[]:=List.eq_nil_of_length_eq_zero h0;rw[hc];subst h0';refine Dp Tryz.func29 ?_;intro C hP hN;simp only[Tryz.f29]at hN|-;exact Gy
 have n0:((js.length:Int)==0)=false:=by simp;intro h;exact h0 (by rw[h];rfl)
 by_cases h1:10<js.length
 .have hc:bF js ms=801:=by simp[bF,h1]
  have h1':(10:Int)<js.length:=by omega
  rw[hc];refine Dp Tryz.func29 ?_;intro C hP hN;simp only[Tryz.f29]at hN|-;exact Gy
 have h1':¬(10:Int)<js.length:=by omega
 have hc0:bF js ms=if jg js≠0 then jg js else if(decide (32<ms.length)||ms.any λm=>!fW js.length m)=true then 808 else 0:=by
  unfold bF;rw[if_neg (by omega)]
 rw[hc0];generalize hr:(if(decide (32<ms.length)||ms.any λm=>!fW js.length m)=true then(808:Int)else 0)=r;refine Dp Tryz.func29 ?_;intro C hP hN;simp only[Tryz.f29]at hN|-;refine Gz ?_;refine WP.loopN [] js.length (λi st=>st.t 1=.ptr 1 0∧st.h 1=some (.box [.pv (.sl (js.map cW)),.pv (.sl (ms.map fc))] true false)∧st.t 17=.pv (Z js.length)∧st.t 18=.pv (Z i)∧∀k x,k<i->js[k]?=some x->dv js k x=0) (by simp) ?_;rintro i st hi ⟨g1,hb1,g17,g18,hq⟩;by_cases hlt:i<js.length
 .have hw:=au hlt hl
  by_cases he:dv js i js[i]=0
  .have hne:(dv js i js[i]!=0)=false:=by simp[he]
   have q1:=s9 js ms i hl hlt;refine GT (gA g1 (gA hb1 (gA g17 (gA g18 (gA hlt (gA hw (gA hne he))))))) ?_
   all_goals simpa using AP hlt hq he
  .have hne:(dv js i js[i]!=0)=true:=by simp[he]
   have hf:=uU hlt hq he;have q1:=s9 js ms i hl hlt;refine GT (gA g1 (gA hb1 (gA g17 (gA g18 (gA hlt (gA hw (gA hne he))))))) ?_
   all_goals simp[hf,he]
 .have hf:jg js=0:=xg (λk x hx=>hq k x (by have:=(List.getElem?_eq_some_iff.1 hx).1;omega) hx)
  have cm:=Lp 70 (ja js ms) (λm=>!fW js.length m) ms hm (λm=>OX js ms m);rw[hf];by_cases h32:32<ms.length
  .have h32':(32:Int)<ms.length:=by omega
   have hr':r=808:=by rw[<-hr];simp[h32]
   exact Gy
  .have h32':¬(32:Int)<ms.length:=by omega
   cases hany:ms.any λm=>!fW js.length m with
   |true=>
    rw[hany]at cm
    have hr':r=808:=by rw[<-hr,hany];simp
    exact Gy
   |false=>
    rw[hany]at cm
    have hr':r=0:=by rw[<-hr,hany];simp[h32]
    exact Gy
theorem AQ{β:Type}{f:α->β->Bool}{xs:List α}{ys:List β}:fp f xs ys=true↔∀(i:Nat)(h:i<xs.length)(h':i<ys.length),f xs[i] ys[i]=true:=by
 unfold fp;rw[List.all_eq_true];constructor
 .intro h i hi hi'
  exact h (f xs[i] ys[i]) (by
   rw[List.mem_iff_getElem]
   exact⟨i,by simp;omega,by simp⟩)
 .intro h x hx
  obtain⟨i,hi,rfl⟩:=List.mem_iff_getElem.1 hx;simp only[List.length_zipWith]at hi;simpa using h i (by omega) (by omega)
section
variable {p q:List Int} {d i:Int}
end
def fX(js:List J)(b:List (Int×Int)):Nat->Int×Int
 |0=>(-1,0)
 |i+1=>match js[i]?,b[i]? with
  |some j,some x=>if 2<=cV x∧(fX js b i).2<wr (j.w*cV x)then((i:Int),wr (j.w*cV x))else fX js b i
  |_,_=>fX js b i
def Ge(x:AV)(fb:Option dm):Option dm:=match x with
 |.pv (.val (.slice none 0 0))=>some (.pv (Z 0),[])
 |_=>fb
@[simp] theorem KE(fb:Option dm):Ge (.pv (.val (.slice none 0 0))) fb=some (.pv (Z 0),[]):=rfl
theorem Gf(x:Operand):
 bz Tryz.prog ⟨dst,.call ⟨.builtin .len,#[x],#[35]⟩,ty,pos,aft,g⟩ (λ_=>.pv (.val (.slice none 0 0)))=some (.pv (Z 0),[]):=by kernel_rfl
@[simp] theorem Nu(x:Operand):
 bz Tryz.prog ⟨dst,.call ⟨.builtin .len,#[x],#[35]⟩,ty,pos,aft,g⟩ ρ=Ge (ρ x) (mF Tryz.prog ⟨dst,.call ⟨.builtin .len,#[x],#[35]⟩,ty,pos,aft,g⟩ ρ):=by
 unfold Ge;split
 .rename_i hs
  rw[<-Gf (dst:=dst) (ty:=ty) (pos:=pos) (aft:=aft) (g:=g) x];refine oZ (by intro _ _ h;cases h) ?_;intro y hy;simp[Op.operands,Call.operands]at hy;subst hy;exact hs
 .rfl
abbrev zN(n:Nat):PV:=Z (n:Int)
abbrev ns(l:List Nat):PV:=.sl (l.map zN)
theorem I5(t:Tr)(hl:t.cells.length<=9223372036854775807):aa Tryz.prog 37 [.pv (da t)] [] [] (.pv (B (ay t))):=by
 have cb:=IJ t hl;refine Dp Tryz.func37 ?_;intro C hP hN;simp only[Tryz.f37]at hN|-;exact GS trivial
theorem K0(xs:List (Int))(hl:xs.length<=16777216):aa Tryz.prog 115 [.pv (.sl (xs.map Z))] [] [] (.pv (.sl (xs.map Z))):=by
 by_cases hx:xs=[]
 .subst hx
  refine Dp Tryz.func115 ?_;intro C hP hN;simp only[Tryz.f115]at hN|-;exact Ij [5] trivial
 .have hne:xs.isEmpty=false:=by simp[hx]
  refine Dp Tryz.func115 ?_;intro C hP hN;simp only[Tryz.f115]at hN|-;exact Ij [5] (gA hx (gA hne (gA (show xs.length*8<=140737488355328 by omega) (show xs.length<=9223372036854775807 by omega))))
theorem Kx(xs:List (Int×Int))(hl:xs.length<=16777216):aa Tryz.prog 35 [.pv (.sl (xs.map aU))] [] [] (.pv (.sl (xs.map aU))):=by
 by_cases hx:xs=[]
 .subst hx
  refine Dp Tryz.func35 ?_;intro C hP hN;simp only[Tryz.f35]at hN|-;exact Ij [5] trivial
 .have hne:xs.isEmpty=false:=by simp[hx]
  refine Dp Tryz.func35 ?_;intro C hP hN;simp only[Tryz.f35]at hN|-;exact Ij [5] (gA hx (gA hne (gA (show xs.length*16<=140737488355328 by omega) (show xs.length<=9223372036854775807 by omega))))
theorem wN(f:FuncId)(p:J->Int->Bool)(xs:List (J))(ys:List (Int))(hl:xs.length<=9223372036854775807)(hf:∀a b,aa Tryz.prog f [.pv (cW a),.pv (Z b)] [] [] (.pv (B (p a b)))):aa Tryz.prog 32 [.pv (.sl (xs.map cW)),.pv (.sl (ys.map Z)),.pv (Fv f)] [] [] (.pv (B (decide (xs.length=ys.length)&&fp p xs ys))):=by
 refine Dp Tryz.func32 ?_;intro C hP hN;simp only[Tryz.f32]at hN|-;by_cases he:xs.length=ys.length
 .skip
  refine Gz ?_;refine WP.loopN [8] xs.length (λi st=>st.t 0=.pv (.sl (xs.map cW))∧st.t 1=.pv (.sl (ys.map Z))∧st.t 2=.pv (Fv f)∧st.t 14=.pv (.sl (xs.map cW))∧st.t 15=.pv (Z xs.length)∧st.t 16=.pv (Z i)∧st.h 8=none∧fM p xs ys i=true) (by simp[fM,he]) ?_;rintro i st hi ⟨h0,h1,h2,h14,h15,h16,hb,hq⟩;by_cases hlt:i<xs.length
  .have hw:=au hlt hl
   have hlt':i<ys.length:=by omega
   have hF:p xs[i] ys[i]=false->fp p xs ys=false:=km hlt hlt';have hS:p xs[i] ys[i]=true->fM p xs ys (i+1)=true:=lr hlt hlt' hq
   with_reducible repeat' (first|refine Sp.h ?_|((first|refine Wd ?_|refine Ss.h ?_|refine Sc.h (hf _ _) ?_|(refine Sb.h ?_ ?_ ?_<;>(try intro hgd)<;>try exact Xy))<;>simp -implicitDefEqProofs (maxSteps:=2000000) [hP,hN,h0,h1,h2,h14,h15,h16,hb,hlt,hlt',hw]<;>try refine Ya ?_)|refine X2 ?_ ?_|(refine Xd ?_ ?_<;>intro hcd<;>try exact Xx))
   all_goals first|exact hF (by simpa using hcd)|simpa using hS (by simpa using hcd)
  .skip
   refine Gz ?_
   all_goals simp[he,lu hlt hq]
 .skip
  exact Gy
  all_goals simp[he]
theorem OV(f:FuncId)(p:J->Int×Int->Bool)(xs:List (J))(ys:List (Int×Int))(hl:xs.length<=9223372036854775807)(hf:∀a b,aa Tryz.prog f [.pv (cW a),.pv (aU b)] [] [] (.pv (B (p a b)))):aa Tryz.prog 75 [.pv (.sl (xs.map cW)),.pv (.sl (ys.map aU)),.pv (Fv f)] [] [] (.pv (B (decide (xs.length=ys.length)&&fp p xs ys))):=by
 refine Dp Tryz.func75 ?_;intro C hP hN;simp only[Tryz.f75]at hN|-;by_cases he:xs.length=ys.length
 .skip
  refine Gz ?_;refine WP.loopN [8] xs.length (λi st=>st.t 0=.pv (.sl (xs.map cW))∧st.t 1=.pv (.sl (ys.map aU))∧st.t 2=.pv (Fv f)∧st.t 14=.pv (.sl (xs.map cW))∧st.t 15=.pv (Z xs.length)∧st.t 16=.pv (Z i)∧st.h 8=none∧fM p xs ys i=true) (by simp[fM,he]) ?_;rintro i st hi ⟨h0,h1,h2,h14,h15,h16,hb,hq⟩;by_cases hlt:i<xs.length
  .have hw:=au hlt hl
   have hlt':i<ys.length:=by omega
   have hF:p xs[i] ys[i]=false->fp p xs ys=false:=km hlt hlt';have hS:p xs[i] ys[i]=true->fM p xs ys (i+1)=true:=lr hlt hlt' hq
   with_reducible repeat' (first|refine Sp.h ?_|((first|refine Wd ?_|refine Ss.h ?_|refine Sc.h (hf _ _) ?_|(refine Sb.h ?_ ?_ ?_<;>(try intro hgd)<;>try exact Xy))<;>simp -implicitDefEqProofs (maxSteps:=2000000) [hP,hN,h0,h1,h2,h14,h15,h16,hb,hlt,hlt',hw]<;>try refine Ya ?_)|refine X2 ?_ ?_|(refine Xd ?_ ?_<;>intro hcd<;>try exact Xx))
   all_goals first|exact hF (by simpa using hcd)|simpa using hS (by simpa using hcd)
  .skip
   refine Gz ?_
   all_goals simp[he,lu hlt hq]
 .skip
  exact Gy
  all_goals simp[he]
def qS(j:J)(x:Int):Bool:=decide (j.lo<=x)&&decide (x<=j.hi)
def lq(j:J):Int×Int:=(j.lo,j.hi)
theorem Lg(j:J)(x:Int):aa Tryz.prog 33 [.pv (cW j),.pv (Z x)] [] [] (.pv (B (qS j x))):=by
 refine Dp Tryz.func33 ?_;intro C hP hN;simp only[Tryz.f33]at hN|-
 with_reducible repeat' (first|refine Sp.h ?_|((first|refine Ss.h ?_|(refine Sb.h ?_ ?_ ?_<;>(try intro hgd)<;>try exact Xy))<;>simp -implicitDefEqProofs (maxSteps:=2000000) [hP,hN])|refine X2 ?_ ?_|(refine Xd ?_ ?_<;>intro hcd<;>try exact Xx))
 all_goals (simp_all[qS]<;>omega)
theorem Jy(j:J):aa Tryz.prog 39 [.pv (cW j)] [] [] (.pv (aU (lq j))):=by
 refine Dp Tryz.func39 ?_;intro C hP hN;simp only[Tryz.f39]at hN|-;refine Gz ?_
 all_goals simp[lq]
theorem Lj(j:J)(x:Int×Int):aa Tryz.prog 76 [.pv (cW j),.pv (aU x)] [] [] (.pv (B (oH x (lq j)))):=by
 refine Dp Tryz.func76 ?_;intro C hP hN;simp only[Tryz.f76]at hN|-;have q1:=@Jy;have q2:=Ho x (j.lo,j.hi);exact GS @lq.eq_1
def kl(js:List J)(ms:List Ms)(c:List Int):Bool:=decide (bF js ms=0)&&decide (js.length=c.length)&&fp qS js c
theorem FW(js:List J)(ms:List Ms)(c:List Int)(hl:js.length<=9223372036854775807)(hm:ms.length<=9223372036854775807):aa Tryz.prog 16 [.pv (ja js ms),.pv (zs c)] [] [] (.pv (B (kl js ms c))):=by
 have ce:=wN 33 qS js c hl Lg;by_cases hc:bF js ms=0
 .have hr:kl js ms c=(decide (js.length=c.length)&&fp qS js c):=by simp[kl,hc]
  rw[hr];generalize(decide (js.length=c.length)&&fp qS js c)=u at *;refine Dp Tryz.func16 ?_;intro C hP hN;simp only[Tryz.f16]at hN|-;have q1:=EV js ms hl hm;exact GS hc
 .have hr:kl js ms c=false:=by simp[kl,hc]
  have hcn:(bF js ms==0)=false:=by simp[hc]
  rw[hr];refine Dp Tryz.func16 ?_;intro C hP hN;simp only[Tryz.f16]at hN|-;have q1:=EV js ms hl hm;exact GS (gA hc hcn)
def aI(js:List J)(ms:List Ms):List (Int×Int):=if bF js ms=0 then js.map lq else[]
theorem nM{ms:List Ms}(h:bF js ms=0):0<js.length∧js.length<=10:=by
 unfold bF at h;split at h
 all_goals omega
theorem wZ(js:List J)(ms:List Ms)(hl:js.length<=9223372036854775807)(hm:ms.length<=9223372036854775807):aa Tryz.prog 18 [.pv (ja js ms)] [] [] (.pv (iv (aI js ms))):=by
 by_cases hc:bF js ms=0
 .have hlen:=nM hc
  have cm:=KA 39 lq js (by omega) Jy
  have hr:aI js ms=js.map lq:=by simp[aI,hc]
  rw[hr];generalize js.map lq=u at *;refine Dp Tryz.func18 ?_;intro C hP hN;simp only[Tryz.f18]at hN|-;have q1:=EV js ms hl hm;exact GS hc
 .have hr:aI js ms=[]:=by simp[aI,hc]
  have hcn:(bF js ms !=0)=true:=by simp[hc]
  rw[hr];refine Dp Tryz.func18 ?_;intro C hP hN;simp only[Tryz.f18]at hN|-;have q1:=EV js ms hl hm;exact GS (gA hc hcn)
def kX(js:List J)(ms:List Ms)(b:List (Int×Int)):Bool:=decide (bF js ms=0)&&decide (js.length=b.length)&&fp (λj x=>oH x (lq j)) js b
theorem OQ(js:List J)(ms:List Ms)(b:List (Int×Int))(hl:js.length<=9223372036854775807)(hm:ms.length<=9223372036854775807):aa Tryz.prog 42 [.pv (ja js ms),.pv (iv b)] [] [] (.pv (B (kX js ms b))):=by
 have ce:=OV 76 (λj x=>oH x (lq j)) js b hl Lj;by_cases hc:bF js ms=0
 .have hr:kX js ms b=(decide (js.length=b.length)&&fp (λj x=>oH x (lq j)) js b):=by simp[kX,hc]
  rw[hr];generalize(decide (js.length=b.length)&&fp (λj x=>oH x (lq j)) js b)=u at *;refine Dp Tryz.func42 ?_;intro C hP hN;simp only[Tryz.f42]at hN|-;have q1:=EV js ms hl hm;exact GS hc
 .have hr:kX js ms b=false:=by simp[kX,hc]
  have hcn:(bF js ms==0)=false:=by simp[hc]
  rw[hr];refine Dp Tryz.func42 ?_;intro C hP hN;simp only[Tryz.f42]at hN|-;have q1:=EV js ms hl hm;exact GS (gA hc hcn)
def pX(js:List J)(ms:List Ms)(b:List (Int×Int)):Bool:=decide (b.length=js.length)&&bi vI b&&decide (bF js ms=0)
def iS(js:List J)(ms:List Ms)(b:List (Int×Int)):Int:=if pX js ms b then(fX js b js.length).1 else -1
theorem AL{b:List (Int×Int)}(h1:i<js.length)(h2:i<b.length)(h:2<=cV b[i]∧(fX js b i).2<wr (js[i].w*cV b[i])):fX js b (i+1)=((i:Int),wr (js[i].w*cV b[i])):=by
 simp[fX,h1,h2,h]
theorem ut{b:List (Int×Int)}(h1:i<js.length)(h2:i<b.length)(h:¬(2<=cV b[i]∧(fX js b i).2<wr (js[i].w*cV b[i]))):fX js b (i+1)=fX js b i:=by
 simp only[fX,List.getElem?_eq_getElem h1,List.getElem?_eq_getElem h2];rw[if_neg h]
theorem AM(x:Int×Int):aa Tryz.prog 84 [.pv (aU x)] [] [] (.pv (Z (cV x))):=xm x.1 x.2
theorem Lk(js:List J)(ms:List Ms)(b:List (Int×Int))(hl:js.length<=9223372036854775807)(hm:ms.length<=9223372036854775807)(hb:b.length<=9223372036854775807):aa Tryz.prog 48 [.pv (ja js ms),.pv (iv b)] [] [] (.pv (Z (iS js ms b))):=by
 cases hok:pX js ms b with
 |false=>
  have hr:iS js ms b=-1:=by simp[iS,hok]
  rw[hr];by_cases e1:b.length=js.length
  .have e1':((b.length:Int)!=js.length)=false:=by simp[e1]
   have hok':(bi vI b&&decide (bF js ms=0))=false:=by simpa[pX,e1]using hok
   refine Dp Tryz.func48 ?_;intro C hP hN;simp only[Tryz.f48]at hN|-;have q1:=GR _ hb;have q2:=EV js ms hl hm;exact GS e1'
   all_goals simp_all
  .have e1':((b.length:Int)!=js.length)=true:=by simp;omega
   refine Dp Tryz.func48 ?_;intro C hP hN;simp only[Tryz.f48]at hN|-;have q1:=GR _ hb;have q2:=EV js ms hl hm;exact GS e1'
 |true=>
  have hr:iS js ms b=(fX js b js.length).1:=by simp[iS,hok]
  rw[hr];simp only[pX,Bool.and_eq_true,decide_eq_true_eq]at hok;obtain⟨⟨e1,s1⟩,hc⟩:=hok
  have e1':((b.length:Int)!=js.length)=false:=by simp[e1]
  refine Dp Tryz.func48 ?_;intro C hP hN;simp only[Tryz.f48]at hN|-;have q1:=GR _ hb;have q2:=EV js ms hl hm;refine GT (gA e1' (gA s1 hc)) ?_;refine WP.loopN [8] js.length (λi st=>st.t 2=.ptr 2 0∧st.h 2=some (.box [.pv (.sl (js.map cW)),.pv (.sl (ms.map fc))] true false)∧st.t 27=.pv (iv b)∧st.t 28=.pv (Z b.length)∧st.t 29=.pv (Z i)∧st.t 5=.pv (Z (fX js b i).1)∧st.t 6=.pv (Z (fX js b i).2)∧st.h 8=none) (by simp[fX]) ?_;rintro i st hi ⟨g2,hb2,g27,g28,g29,g5,g6,hb8⟩;by_cases hlt:i<js.length
  .have hw:=au hlt hl
   have hlb:i<b.length:=by omega
   by_cases h2:2<=cV b[i]
   .by_cases h3:(fX js b i).2<wr (js[i].w*cV b[i])
    .have hs:=AL hlt hlb ⟨h2,h3⟩
     with_reducible repeat' (first|refine Sp.h ?_|((first|refine Ss.h ?_|refine Sc.h (AM _) ?_|(refine Sb.h ?_ ?_ ?_<;>(try intro hgd)<;>try exact Xy))<;>simp -implicitDefEqProofs (maxSteps:=2000000) [hP,hN,g2,hb2,g27,g28,g29,g5,g6,hb8,hlt,hlb,hw,h2,h3])|refine X2 ?_ ?_|(refine Xd ?_ ?_<;>intro hcd<;>try exact Xx))
     all_goals simp[hs]
    .have hs:=ut hlt hlb (λh=>h3 h.2)
     with_reducible repeat' (first|refine Sp.h ?_|((first|refine Ss.h ?_|refine Sc.h (AM _) ?_|(refine Sb.h ?_ ?_ ?_<;>(try intro hgd)<;>try exact Xy))<;>simp -implicitDefEqProofs (maxSteps:=2000000) [hP,hN,g2,hb2,g27,g28,g29,g5,g6,hb8,hlt,hlb,hw,h2,h3])|refine X2 ?_ ?_|(refine Xd ?_ ?_<;>intro hcd<;>try exact Xx))
     all_goals simp[hs]
   .have hs:=ut hlt hlb (λh=>h2 h.1)
    with_reducible repeat' (first|refine Sp.h ?_|((first|refine Ss.h ?_|refine Sc.h (AM _) ?_|(refine Sb.h ?_ ?_ ?_<;>(try intro hgd)<;>try exact Xy))<;>simp -implicitDefEqProofs (maxSteps:=2000000) [hP,hN,g2,hb2,g27,g28,g29,g5,g6,hb8,hlt,hlb,hw,h2])|refine X2 ?_ ?_|(refine Xd ?_ ?_<;>intro hcd<;>try exact Xx))
    all_goals simp[hs]
  .have hi':i=js.length:=by omega
   subst hi'
   have hnb:¬js.length<b.length:=by omega
   exact Gy
def ff(bs:List Bx)(i:Nat):Bx:=bs[i]?.getD []
def aw(bs:List Bx)(p:List Int)(i:Nat):Bool:=jz (ff bs i) p
def cQ(bs:List Bx)(i j:Nat):Bool:=eo (ff bs i) (ff bs j)
abbrev pd(l:List Nat):PV:=.sl (l.map λn:Nat=>Z (n:Int))
structure Spc where
 root:Bx
 cells:List Cel
 bx:List Bx
 near:List (List Nat)
 jn:List Int
 cc:Bool:=false
variable {s:Spc}
abbrev Oc(s:Spc):PV:=.agg [iv s.root,.sl (s.cells.map aW),.sl (s.bx.map iv),.sl (s.near.map pd),.sl (s.jn.map Z)]
abbrev hC(s:Spc):PV:=.rptr (Oc s) 0
def ae(s:Spc)(v:Nat):List Nat:=(s.near[v]?).getD []
def bo(s:Spc)(i:Nat):Cel:=(s.cells[i]?).getD (aP bn)
def iB(s:Spc)(i:Nat):Int:=(s.jn[i]?).getD 0
def aZ(s:Spc)(f:Int->Int->Bool)(i:Nat):Bool:=decide ((bo s i).low=-1)&&f (bo s i).v.kind (iB s i)
def fE(s:Spc)(i:Nat):Bx:=(s.bx[i]?).getD []
def fZ(near:List (List Nat)):List AV:=(List.range near.length).map λv=>.arr (v+300) ((near[v]?).getD []).length
abbrev cL:AV:=.pv (.val (.slice none 0 0))
def jW(s:Spc):AV:=match s.cc with
 |true=>.pv (.sl (s.cells.map aW))
 |false=>.arr 291 s.cells.length
theorem p8(h:s.cc=false):jW s=.arr 291 s.cells.length:=by unfold jW;rw[h]
theorem JY(h:s.cc=true):jW s=.pv (.sl (s.cells.map aW)):=by unfold jW;rw[h]
theorem IM(s:Spc):nR (jW s)=true:=by unfold jW;split<;>rfl
theorem A5{ks:List Nat}(h:ks.contains 291=false):aQ ks (jW s)=false:=by
 unfold jW;split
 .rfl
 .simpa[aQ,ax]using h
def aM(own:Bool)(s:Spc)(c:Nat):Hp:=λk=>
 if k=290 then some (.box [.pv (iv s.root),jW s,.arr 292 s.bx.length,.ext (.barr 293 s.near.length (s.near.length+c)),.arr 294 s.jn.length] own false)
 else if k=291 then(match s.cc with
  |true=>none
  |false=>some (.row 76 8 (s.cells.map aW) 0))
 else if k=292 then some (.row 35 1 (s.bx.map iv) 0)
 else if k=293 then some (.box (fZ s.near++List.replicate c cL) true false)
 else if k=294 then some (.row 3 1 (s.jn.map Z) 0)
 else if 300<=k∧k<300+s.near.length then some (.row 3 1 ((ae s (k-300)).map λn:Nat=>Z (n:Int)) 0)
 else none
theorem bL(near:List (List Nat)):(fZ near).length=near.length:=by simp[fZ]
theorem jX(h:v<near.length):(fZ near)[v]?=some (.arr (v+300) ((near[v]?).getD []).length):=by simp[fZ,h]
theorem lx(own:Bool)(s:Spc)(c:Nat):aM own s c 290=some (.box [.pv (iv s.root),jW s,.arr 292 s.bx.length,.ext (.barr 293 s.near.length (s.near.length+c)),.arr 294 s.jn.length] own false):=rfl
theorem oI(own:Bool)(s:Spc)(c:Nat)(h:s.cc=false):aM own s c 291=some (.row 76 8 (s.cells.map aW) 0):=by
 unfold aM;rw[if_neg (by omega),if_pos rfl,h]
theorem oJ(own:Bool)(s:Spc)(c:Nat):aM own s c 292=some (.row 35 1 (s.bx.map iv) 0):=rfl
theorem mL(own:Bool)(s:Spc)(c:Nat):aM own s c 293=some (.box (fZ s.near++List.replicate c cL) true false):=rfl
theorem rf(own:Bool)(s:Spc)(c:Nat):aM own s c 294=some (.row 3 1 (s.jn.map Z) 0):=rfl
theorem gh{own:Bool}(h:v<s.near.length):aM own s c (v+300)=some (.row 3 1 ((ae s v).map λn:Nat=>Z (n:Int)) 0):=by
 unfold aM;rw[if_neg (by omega),if_neg (by omega),if_neg (by omega),if_neg (by omega),if_neg (by omega),if_pos (by omega),Nat.add_sub_cancel]
theorem EJ{own:Bool}(h:295<=k):aM own s c k=none∨∃xs,aM own s c k=some (.row 3 1 xs 0):=by
 unfold aM;rw[if_neg (by omega),if_neg (by omega),if_neg (by omega),if_neg (by omega),if_neg (by omega)];split
 .exact .inr ⟨_,rfl⟩
 .exact .inl rfl
theorem lg{own:Bool}(h:s.near.length<=4096):LookH (aM own s c):=by
 have cases:∀{k b},aM own s c k=some b->(k=290∧b=.box [.pv (iv s.root),jW s,.arr 292 s.bx.length,.ext (.barr 293 s.near.length (s.near.length+c)),.arr 294 s.jn.length] own false)∨(k=293∧b=.box (fZ s.near++List.replicate c cL) true false)∨(290<=k∧k<1000000∧∃e sz xs,b=.row e sz xs 0):=by
  intro k b hk;unfold aM at hk;split at hk
  .rename_i e;injection hk with hk;exact .inl ⟨e,hk.symm⟩
  .split at hk
   .split at hk
    .cases hk
    .injection hk with hk;exact .inr (.inr ⟨by omega,by omega,_,_,_,hk.symm⟩)
   .split at hk
    .injection hk with hk;exact .inr (.inr ⟨by omega,by omega,_,_,_,hk.symm⟩)
    .split at hk
     .rename_i e;injection hk with hk;exact .inr (.inl ⟨e,hk.symm⟩)
     .split at hk
      .injection hk with hk;exact .inr (.inr ⟨by omega,by omega,_,_,_,hk.symm⟩)
      .split at hk
       .injection hk with hk;exact .inr (.inr ⟨by omega,by omega,_,_,_,hk.symm⟩)
       .cases hk
 have hin:∀k,290<=k->k<1000000->inK k=true:=λk h1 h2=>by simp[inK,h1,h2]
 refine⟨λk b hk=>?_,λk b o hk=>?_,λk b hk=>?_,λk cs o f hk=>?_⟩
 .rcases cases hk with⟨rfl,_⟩|⟨rfl,_⟩|⟨h1,h2,_⟩
  .rfl
  .rfl
  .exact hin k h1 h2
 .rcases cases hk with⟨_,rfl⟩|⟨_,rfl⟩|⟨_,_,e,sz,xs,rfl⟩
  all_goals simp[Blk.frz]
 .rcases cases hk with⟨_,rfl⟩|⟨_,rfl⟩|⟨_,_,e,sz,xs,rfl⟩<;>rfl
 .rcases cases hk with⟨_,e⟩|⟨_,e⟩|⟨_,_,e,sz,xs,h9⟩
  .injection e with e;subst e
   intro x hx;simp only[List.mem_cons,List.not_mem_nil,or_false]at hx
   rcases hx with rfl|rfl|rfl|rfl|rfl<;>first|exact IM s|rfl
  .injection e with e;subst e
   intro x hx;rcases List.mem_append.1 hx with hx|hx
   .simp only[fZ,List.mem_map,List.mem_range]at hx
    obtain⟨v,hv,rfl⟩:=hx;exact hin (v+300) (by omega) (by omega)
   .rw[(List.mem_replicate.1 hx).2];rfl
  .cases h9
theorem Cy{cs:List AV}{f:Bool}(h:aM false s c k=some (.box cs false f)):k=290:=by
 unfold aM at h;split at h
 .assumption
 .exfalso
  repeat' split at h
  all_goals cases h
theorem vJ{rs:List ResultVar}{Post:AV->Hp->Prop}{r:AV}{s':Spc}{c':Nat}(h1:kK P st rs=some r)(ho:nR r=true)(hl:s'.near.length<=4096)(hp:Post r (aM false s' c'))(hH:∀k,inK k=true->st.h k=aM false s' c' k):vh P rs (aM false s c) Post st:=
 qL h1 ho hH (lg hl) hp λk cs f hk=>by rw[Cy hk];exact⟨_,rfl⟩
theorem zj{own:Bool}{nr:List (List Nat)}(hl:nr.length=s.near.length)(h1:k≠293)(h2:∀v,k=v+300->v<s.near.length->nr[v]?=s.near[v]?):aM own {s with near:=nr} c k=aM own s c k:=by
 unfold aM;simp only[hl];by_cases e:300<=k∧k<300+s.near.length
 .have h3:=h2 (k-300) (by omega) (by omega)
  have h4:ae {s with near:=nr} (k-300)=ae s (k-300):=by simp only[ae,h3]
  simp only[if_neg h1,h4];rfl
 .simp only[if_neg h1,if_neg e]
  rfl
theorem fy{l:List α}{x:α}(h:l[i]?=some x)(hi:i<l.length):l[i]'hi=x:=(List.getElem?_eq_some_iff.1 h).2
def dP(s:Spc)(a b:Nat):Spc:=if eo (fE s a) (fE s b)then{s with near:=(s.near.set a (ae s a++[b])).set b (ae s b++[a])}else s
theorem FI{a b:Nat}{x y:List Nat}(hab:a≠b):fZ ((near.set a x).set b y)=((fZ near).set a (.arr (a+300) x.length)).set b (.arr (b+300) y.length):=by
 apply List.ext_getElem?;intro v;simp only[fZ,List.length_set];by_cases hv:v<near.length
 .by_cases e2:b=v
  .subst e2
   simp[List.getElem?_set,hv]
  .by_cases e1:a=v
   .subst e1
    simp[List.getElem?_set,hv,e2]
   .simp[List.getElem?_set,hv,e1,e2]
 .rw[List.getElem?_eq_none (by simp;omega),List.getElem?_eq_none (by simp;omega)]
theorem LD(s:Spc)(c a b:Nat)(hn:s.near.length<=4096)(ha:a<s.near.length)(hb:b<s.near.length)(hab:a≠b)(hbx:s.bx.length=s.near.length)(hbl:∀x∈s.bx,x.length<=9223372036854775807)(hnl:∀v,(ae s v).length<=4096):
 kC Tryz.prog 47 [.ptr 290 0,.pv (Z a),.pv (Z b)] (aM false s c) (λ_ h'=>h'=aM false (dP s a b) c):=by
 have hba:s.bx[a]?=some (fE s a):=by simp[fE,List.getElem?_eq_getElem (by omega:a<s.bx.length)]
 have hbb:s.bx[b]?=some (fE s b):=by simp[fE,List.getElem?_eq_getElem (by omega:b<s.bx.length)]
 have ct:=Om (fE s a) (fE s b) (hbl _ (List.mem_of_getElem? hba))
 have hbal:a<s.bx.length:=by omega
 have hbbl:b<s.bx.length:=by omega
 have hba':=fy hba hbal;have hbb':=fy hbb hbbl;have h290:=lx false s c;have h292:=oJ false s c;have h293:=mL false s c;refine B8 Tryz.func47 (lg (by omega)) ?_;intro C hP hN;simp only[Tryz.f47]at hN|-
 cases ht:eo (fE s a) (fE s b)with
 |false=>
  rw[ht]at ct
  have hm:dP s a b=s:=by simp[dP,ht]
  rw[hm];generalize hH:aM false s c=H at *;refine GT (gA @pO.eq_1 (gA h290 (gA h292 (gA hbal (gA hbbl (gA hba (gA hbb (gA hba' hbb')))))))) ?_;subst hH;exact vJ (s':=s) (c':=c) rfl rfl hn rfl (λ_ _=>rfl)
 |true=>
  rw[ht]at ct
  have hm:dP s a b={s with near:=(s.near.set a (ae s a++[b])).set b (ae s b++[a])}:=by simp[dP,ht]
  rw[hm];have hra:=gh (own:=false) (s:=s) (c:=c) ha;have hrb:=gh (own:=false) (s:=s) (c:=c) hb;obtain⟨cs,hcs⟩:∃cs,cs=fZ s.near++List.replicate c cL:=⟨_,rfl⟩
  have hcl:cs.length=s.near.length+c:=by rw[hcs];simp[bL]
  have ca:cs[a]?=some (.arr (a+300) (ae s a).length):=by rw[hcs,List.getElem?_append_left (by rw[bL];exact ha),jX ha];rfl
  have cb:cs[b]?=some (.arr (b+300) (ae s b).length):=by rw[hcs,List.getElem?_append_left (by rw[bL];exact hb),jX hb];rfl
  have ca':∀h,cs[a]'h=.arr (a+300) (ae s a).length:=λh=>fy ca h;have cb':∀h,cs[b]'h=.arr (b+300) (ae s b).length:=λh=>fy cb h;have sa:∀x,cs.take a++x::cs.drop (a+1)=cs.set a x:=λx=>nY (by omega);have sb:∀x y,(cs.set a x).take b++y::(cs.set a x).drop (b+1)=(cs.set a x).set b y:=λx y=>nY (by simp;omega)
  have ha1:a+1<=s.near.length+c:=by omega
  have hb1:b+1<=s.near.length+c:=by omega
  have hac:a<s.near.length+c:=by omega
  have hbc:b<s.near.length+c:=by omega
  have hba9:¬b=a:=λe=>hab e.symm;have la:=hnl a;have lb:=hnl b;rw[<-hcs]at h293;generalize hH:aM false s c=H at *;refine ym (gA @pO.eq_1 (gA h290 (gA h292 (gA h293 (gA hbal (gA hbbl (gA hba (gA hbb (gA hba' (gA hbb' (gA hra (gA hrb (gA hcl (gA ca (gA cb (gA ca' (gA cb' (gA sa (gA sb (gA ha (gA hb (gA ha1 (gA hb1 (gA hac (gA hbc (gA hab (gA hba9 (gA (show¬a+300=290 by omega) (gA (show¬b+300=290 by omega) (gA (show¬a+300=293 by omega) (gA (show¬b+300=293 by omega) (gA (show¬293=a+300 by omega) (gA (show¬293=b+300 by omega) (gA (show¬290=a+300 by omega) (gA (show¬290=b+300 by omega) (gA (show a+300<2000000 by omega) (gA (show b+300<2000000 by omega) (gA (show((ae s a).length+1)*8<=140737488355328 by omega) (gA (show((ae s b).length+1)*8<=140737488355328 by omega) (gA (show(ae s a).length+1<=9223372036854775807 by omega) (show(ae s b).length+1<=9223372036854775807 by omega))))))))))))))))))))))))))))))))))))))))) ?_;subst hH;refine vJ (s':={s with near:=(s.near.set a (ae s a++[b])).set b (ae s b++[a])}) (c':=c) rfl rfl (by simp only[List.length_set];exact hn) rfl (λk hk=>?_);by_cases e1:k=293
  .subst e1
   rw[mL];simp only[FI hab];simp[ah,hcs,List.set_append_left,bL,ha,hb,show¬293=a+300 by omega,show¬293=b+300 by omega]
  .by_cases e2:k=b+300
   .subst e2
    rw[gh (by simp only[List.length_set];exact hb)];simp[ah,ae,List.getElem?_set,hb]
   .by_cases e3:k=a+300
    .subst e3
     rw[gh (by simp only[List.length_set];exact ha)];simp[ah,ae,List.getElem?_set,ha,hba9,hab]
    .rw[zj (by simp) e1 (λv hv hlt=>by rw[List.getElem?_set,if_neg (by omega),List.getElem?_set,if_neg (by omega)])]
     simp[ah,e1,e2,e3]
def ga(s:Spc)(leaf:Nat)(joint:Int):Spc:=
 {root:=s.root,cells:=s.cells.set leaf ⟨joint,s.cells.length,s.cells.length+1,bn⟩++[aP bn,aP bn],bx:=s.bx++[cF (fE s leaf) joint,cG (fE s leaf) joint],near:=s.near.set leaf []++[[],[]],jn:=s.jn++[-1,-1]}
def gW(s:Spc)(k leaf:Nat):Spc:={s with near:=s.near.set k ((ae s k).erase leaf)}
def eD(low leaf:Nat)(s:Spc)(k:Nat):Spc:=dP (dP (gW s k leaf) low k) (low+1) k
def fu(s:Spc)(leaf:Nat)(joint:Int):Spc:=dP ((ae s leaf).foldl (eD s.cells.length leaf) (ga s leaf joint)) s.cells.length (s.cells.length+1)
theorem ly{a b:Nat}(hab:a≠b)(ha:a<s.near.length)(hb:b<s.near.length):ae (dP s a b) v=if eo (fE s a) (fE s b)=true∧(v=a∨v=b)then ae s v++[if v=a then b else a]else ae s v:=by
 unfold dP
 cases ht:eo (fE s a) (fE s b)with
 |false=>simp
 |true=>
  by_cases h1:v=b
  .subst h1
   simp[ae,List.getElem?_set,hb,show¬v=a from λe=>hab e.symm]
  .by_cases h2:v=a
   .subst h2
    simp[ae,List.getElem?_set,ha,h1,show¬b=v from λe=>h1 e.symm]
   .simp[ae,List.getElem?_set,h1,h2,show¬b=v from λe=>h1 e.symm,show¬a=v from λe=>h2 e.symm]
theorem gG(s:Spc)(a b:Nat):(dP s a b).near.length=s.near.length∧(dP s a b).bx=s.bx∧(dP s a b).cells=s.cells∧(dP s a b).jn=s.jn∧(dP s a b).root=s.root:=by
 unfold dP;split<;>simp
theorem vK(hk:k<s.near.length):ae (gW s k leaf) v=if v=k then(ae s k).erase leaf else ae s v:=by
 unfold gW;by_cases h:v=k
 .subst h;simp[ae,List.getElem?_set,hk]
 .simp[ae,List.getElem?_set,h,show¬k=v from λe=>h e.symm]
theorem zk(low leaf:Nat)(s:Spc)(k:Nat):(eD low leaf s k).near.length=s.near.length∧(eD low leaf s k).bx=s.bx∧(eD low leaf s k).cells=s.cells∧(eD low leaf s k).jn=s.jn∧(eD low leaf s k).root=s.root:=by
 unfold eD;obtain⟨a1,a2,a3,a4,a5⟩:=gG (dP (gW s k leaf) low k) (low+1) k;obtain⟨b1,b2,b3,b4,b5⟩:=gG (gW s k leaf) low k;rw[a1,a2,a3,a4,a5,b1,b2,b3,b4,b5];simp[gW]
theorem EK{low:Nat}(hl:low+1<s.near.length)(hk:k<low)(hv:v≠k)(hv1:v≠low)(hv2:v≠low+1):ae (eD low leaf s k) v=ae s v:=by
 obtain⟨b1,_⟩:=gG (gW s k leaf) low k
 have hd:(gW s k leaf).near.length=s.near.length:=by simp[gW]
 unfold eD;rw[ly (by omega) (by omega) (by omega),if_neg (by omega),ly (by omega) (by omega) (by omega),if_neg (by omega),vK (by omega),if_neg hv]
theorem FQ{low:Nat}(hl:low+1<s.near.length)(hk:k<low):(ae (eD low leaf s k) v).length<=(ae s v).length+(if v=k then 2 else if v=low∨v=low+1 then 1 else 0):=by
 obtain⟨b1,_⟩:=gG (gW s k leaf) low k
 have hd:(gW s k leaf).near.length=s.near.length:=by simp[gW]
 have he:((ae s k).erase leaf).length<=(ae s k).length:=List.length_erase_le;unfold eD;rw[ly (by omega) (by omega) (by omega),ly (by omega) (by omega) (by omega),vK (by omega)];by_cases h:v=k
 .subst h
  simp only[if_true];split<;>split<;>simp<;>omega
 .rw[if_neg h,if_neg h]
  by_cases e1:v=low
  .subst e1
   rw[if_neg (by omega)];split<;>simp
  .by_cases e2:v=low+1
   .subst e2
    rw[if_neg (c:=eo (fE (gW s k leaf) low) (fE (gW s k leaf) k)=true∧(low+1=low∨low+1=k)) (by omega)];split<;>simp
   .rw[if_neg (by omega),if_neg (by omega)]
    simp[e1,e2]
theorem uz(s:Spc)(a b:Nat):(dP s a b).cc=s.cc:=by unfold dP;split<;>rfl
theorem Cz(low leaf:Nat)(s:Spc)(k:Nat):(eD low leaf s k).cc=s.cc:=by unfold eD;rw[uz,uz];rfl
structure LpI(s0:Spc)(n leaf:Nat)(old:List Nat)(i:Nat)(s:Spc):Prop where
 nl:s.near.length=n+2
 bx:s.bx=s0.bx
 cells:s.cells=s0.cells
 jn:s.jn=s0.jn
 root:s.root=s0.root
 cc:s.cc=s0.cc
 low:∀k,k<n->k∉old.take i->ae s k=ae s0 k
 len:∀v,(ae s v).length<=(ae s0 v).length+2+(if v<n then 0 else i)
theorem LpI.step{s0:Spc}(h:LpI s0 n leaf old i s)(hnd:old.Nodup)(hk:old[i]?=some k)(hkn:k<n):LpI s0 n leaf old (i+1) (eD n leaf s k):=by
 obtain⟨a1,a2,a3,a4,a5⟩:=zk n leaf s k
 have ht:old.take (i+1)=old.take i++[k]:=by rw[List.take_add_one,hk];rfl
 have hni:k∉old.take i:=by
  have:=(List.take_sublist (i+1) old).nodup hnd;rw[ht,List.nodup_append]at this;intro hm;exact this.2.2 k hm k (by simp) rfl
 refine⟨a1.trans h.nl,a2.trans h.bx,a3.trans h.cells,a4.trans h.jn,a5.trans h.root,(Cz n leaf s k).trans h.cc,λv hv hm=>?_,λv=>?_⟩
 .rw[ht]at hm
  simp only[List.mem_append,List.mem_singleton,not_or]at hm;rw[EK (by rw[h.nl];omega) hkn hm.2 (by omega) (by omega),h.low v hv hm.1]
 .have h1:=FQ (leaf:=leaf) (v:=v) (s:=s) (by rw[h.nl];omega) hkn
  have h2:=h.len v;by_cases e:v=k
  .subst e
   rw[if_pos rfl]at h1;rw[h.low v hkn hni]at h1;rw[if_pos hkn];omega
  .rw[if_neg e]at h1
   split at h1
   .rw[if_neg (by omega)]at h2|-
    omega
   .split at h2
    .rw[if_pos (by assumption)];omega
    .rw[if_neg (by assumption)];omega
theorem pf{joint:Int}(hl:leaf<s.near.length):ae (ga s leaf joint) v=if v=leaf then[]else ae s v:=by
 unfold ga ae;simp only;by_cases h:v<s.near.length
 .rw[List.getElem?_append_left (by simpa using h),List.getElem?_set]
  by_cases e:v=leaf
  .subst e;simp[hl]
  .simp[e,show¬leaf=v from λe2=>e e2.symm]
 .rw[List.getElem?_append_right (by simpa using(by omega:s.near.length<=v)),if_neg (by omega),List.getElem?_eq_none (l:=s.near) (by omega)]
  simp only[List.length_set]
  match v-s.near.length with
  |0=>rfl
  |1=>rfl
  |m+2=>simp
theorem LpI.zero{joint:Int}(hn:s.near.length=n):LpI (ga s leaf joint) n leaf old 0 (ga s leaf joint):=
 ⟨by simp[ga,hn],rfl,rfl,rfl,rfl,rfl,λ_ _ _=>rfl,λ_=>by omega⟩
section
variable {n:Nat} {may has:Nat->Bool} {tch:Nat->Nat->Bool}
inductive Vis(may:Nat->Bool)(k:Nat)(s:BS):List Nat->BS->Prop
 |nil:Vis may k s [] s
 |hit {c s1 i} (h:Vis may k s c s1) (h0:am s1.far i=0) (hm:may i=true):Vis may k s (c++[i]) (lB s1 k i)
 |miss {c s1 i} (h:Vis may k s c s1) (h0:am s1.far i=0->may i=false):Vis may k s (c++[i]) s1
structure VI(n:Nat)(may has:Nat->Bool)(tch:Nat->Nat->Bool)(s:BS)(k:Nat)(c:List Nat)(s1:BS):Prop where
 inv:BInv2 n may has tch s1
 le:s.q.length<=s1.q.length
 qs:∀a,a<s.q.length->bB s1 a=bB s a
 keep:∀i,1<=am s.far i->am s1.far i=am s.far i
 inq:∀i,1<=am s1.far i->i∈s1.q
 qn:∀a,s.q.length<=a->a<s1.q.length->am s1.far (bB s1 a)=am s.far (bB s k)+1
 vis:∀i∈c,may i=true->1<=am s1.far i
theorem Cq{s:BS}{l:List Int}{a:Nat}(h:a<s.q.length):bB ⟨l,s.q++[i]⟩ a=bB s a:=by
 unfold bB;rw[List.getElem?_append_left h]
theorem Hv{s:BS}{l:List Int}:bB ⟨l,s.q++[i]⟩ s.q.length=i:=by
 unfold bB;rw[List.getElem?_append_right (Nat.le_refl _)];simp
theorem yt{s s1:BS}{c:List Nat}(hs:BInv2 n may has tch s)(hk:k<s.q.length)(hq:∀i,1<=am s.far i->i∈s.q)(h:Vis may k s c s1)(hc:∀i∈c,i<n∧tch i (bB s k)=true):VI n may has tch s k c s1:=by
 induction h with
 |nil=>exact⟨hs,Nat.le_refl _,λ_ _=>rfl,λ_ _=>rfl,hq,λa h1 h2=>by omega,λi hi=>by cases hi⟩
 |@hit c s1 i h h0 hm ih=>
  have I:=ih λj hj=>hc j (List.mem_append_left _ hj);obtain⟨hi,ht⟩:=hc i (by simp);have hqk:=I.qs k hk
  have hkm:bB s k∈s.q:=by
   unfold bB;rw[List.getElem?_eq_getElem hk];exact List.getElem_mem _
  have hfk:=(hs.mem _ hkm)
  have hfe:am s1.far (bB s1 k)=am s.far (bB s k):=by rw[hqk];exact I.keep _ hfk.2
  have hil:i<s1.far.length:=by rw[I.inv.len];exact hi
  have hset:∀j,am (lB s1 k i).far j=if j=i then am s.far (bB s k)+1 else am s1.far j:=λj=>by
   simp only[lB];rw[kz hil,hfe]
  have hne:∀j,1<=am s1.far j->j≠i:=λj hj e=>by rw[e,h0]at hj;omega
  have hkm1:bB s1 k∈s1.q:=by
   unfold bB;rw[List.getElem?_eq_getElem (Nat.lt_of_lt_of_le hk I.le)];exact List.getElem_mem _
  refine⟨?_,?_,?_,?_,?_,?_,?_⟩
  .refine I.inv.put hi h0 (by rw[hfe];omega) hm (by have:=I.inv.top (bB s1 k);omega) (.inr ⟨bB s1 k,(I.inv.mem _ hkm1).1,by omega,(I.inv.mem _ hkm1).2,by rw[hqk];exact ht⟩)
  .simp only[lB,List.length_append,List.length_singleton];have:=I.le;omega
  .intro a ha
   have:=I.le;rw[<-I.qs a ha];exact Cq (by omega)
  .intro j hj
   have:=I.keep j hj;rw[hset,if_neg (hne j (by omega)),this]
  .intro j hj
   rw[hset]at hj;simp only[lB,List.mem_append,List.mem_singleton];split at hj
   .rename_i e;exact .inr e
   .exact .inl (I.inq j hj)
  .intro a ha hal
   simp only[lB,List.length_append,List.length_singleton]at hal;by_cases e:a<s1.q.length
   .have e1:bB (lB s1 k i) a=bB s1 a:=Cq e
    have hm1:bB s1 a∈s1.q:=by
     unfold bB;rw[List.getElem?_eq_getElem e];exact List.getElem_mem _
    rw[e1,hset,if_neg (hne _ (I.inv.mem _ hm1).2)];exact I.qn a ha e
   .have:a=s1.q.length:=by omega
    subst this;rw[show bB (lB s1 k i) s1.q.length=i from Hv,hset,if_pos rfl]
  .intro j hj hmj
   rw[hset];split
   .omega
   .rename_i e
    rcases List.mem_append.1 hj with hj|hj
    .exact I.vis j hj hmj
    .exact absurd (List.mem_singleton.1 hj) e
 |@miss c s1 i h h0 ih=>
  have I:=ih λj hj=>hc j (List.mem_append_left _ hj);refine⟨I.inv,I.le,I.qs,I.keep,I.inq,I.qn,λj hj hmj=>?_⟩;rcases List.mem_append.1 hj with hj|hj
  .exact I.vis j hj hmj
  .rw[List.mem_singleton.1 hj]at hmj|-
   have h1:=I.inv.nn i;by_cases e:am s1.far i=0
   .rw[h0 e]at hmj;cases hmj
   .omega
structure BO(n:Nat)(may has:Nat->Bool)(tch:Nat->Nat->Bool)(s:BS)(k:Nat):Prop where
 inv:BInv2 n may has tch s
 inq:∀i,1<=am s.far i->i∈s.q
 mono:∀a b,a<=b->b<s.q.length->am s.far (bB s a)<=am s.far (bB s b)
 top:∀b,b<s.q.length->k<s.q.length->am s.far (bB s b)<=am s.far (bB s k)+1
 start:∀i,i<n->may i=true->has i=true->am s.far i=1
 done:∀a,a<k->a<s.q.length->∀i,i<n->may i=true->tch i (bB s a)=true->1<=am s.far i∧am s.far i<=am s.far (bB s a)+1
theorem IH{s:BS}(h:i∈s.q):∃a,a<s.q.length∧bB s a=i:=by
 obtain⟨a,ha⟩:=List.getElem?_of_mem h;exact⟨a,(List.getElem?_eq_some_iff.1 ha).1,by simp[bB,ha]⟩
theorem r6{s:BS}{a:Nat}(h:a<s.q.length):bB s a∈s.q:=by
 unfold bB;rw[List.getElem?_eq_getElem h];exact List.getElem_mem _
theorem BO.step{s s1:BS}{c:List Nat}(H:BO n may has tch s k)(hk:k<s.q.length)(h:Vis may k s c s1)(hc:∀i∈c,i<n∧tch i (bB s k)=true)(hall:∀i,i<n->may i=true->tch i (bB s k)=true->i∈c∨i=bB s k):BO n may has tch s1 (k+1):=by
 have I:=yt H.inv hk H.inq h hc;have hle:=I.le
 have far1:∀a,a<s.q.length->am s1.far (bB s1 a)=am s.far (bB s a):=λa ha=>by
  rw[I.qs a ha];exact I.keep _ (H.inv.mem _ (r6 ha)).2
 have up:∀b,b<s1.q.length->am s1.far (bB s1 b)<=am s.far (bB s k)+1:=by
  intro b hb;by_cases e:b<s.q.length
  .rw[far1 b e];exact H.top b e hk
  .rw[I.qn b (by omega) hb];omega
 have mono:∀a b,a<=b->b<s1.q.length->am s1.far (bB s1 a)<=am s1.far (bB s1 b):=by
  intro a b hab hb;by_cases e:b<s.q.length
  .rw[far1 b e,far1 a (by omega)];exact H.mono a b hab e
  .rw[I.qn b (by omega) hb];exact up a (by omega)
 refine⟨I.inv,I.inq,mono,?_,?_,?_⟩
 .intro b hb hk1
  have h1:=mono k (k+1) (by omega) hk1;rw[far1 k hk]at h1;have:=up b hb;omega
 .intro i hi hm hh
  have h1:=H.start i hi hm hh;rw[I.keep i (by omega)];exact h1
 .intro a ha hal i hi hm ht
  by_cases e:a<k
  .have hal':a<s.q.length:=by omega
   rw[I.qs a hal']at ht;obtain⟨h1,h2⟩:=H.done a e hal' i hi hm ht;rw[I.keep i h1,far1 a hal'];exact⟨h1,h2⟩
  .have e:a=k:=by omega
   subst e;rw[I.qs a hk]at ht;rw[far1 a hk];rcases hall i hi hm ht with h3|h3
   .have h4:=I.vis i h3 hm
    obtain⟨b,hb,hbi⟩:=IH (I.inq i h4);have:=up b hb;rw[hbi]at this;exact⟨h4,this⟩
   .have h4:=(H.inv.mem _ (r6 hk)).2
    rw[h3,I.keep _ h4];exact⟨h4,by omega⟩
theorem BO.stay{s:BS}(H:BO n may has tch s k)(hk:¬k<s.q.length):BO n may has tch s (k+1):=
 ⟨H.inv,H.inq,H.mono,λb _ h=>by omega,H.start,λa ha hal=>H.done a (by omega) hal⟩
theorem Ex:∀i,i<=n->(∀j,1<=am (bI n may has i).far j->j∈(bI n may has i).q∧am (bI n may has i).far j=1)∧∀j,j<i->may j=true->has j=true->am (bI n may has i).far j=1
 |0,_=>by
  refine⟨λj hj=>?_,λj hj=>by omega⟩
  have hz:am (List.replicate n (0:Int)) j=0:=by simp only[am,List.getElem?_replicate];split<;>rfl
  simp only[bI,hz]at hj;omega
 |i+1,hi=>by
  obtain⟨h1,h2⟩:=Ex i (by omega);have hinv:=(pL (n:=n) (may:=may) (has:=has) (tch:=λ_ _=>true) i (by omega)).1
  have hil:i<(bI n may has i).far.length:=by rw[hinv.len];omega
  simp only[bI];split
  .rename_i hc
   simp only[Bool.and_eq_true]at hc;refine⟨λj hj=>?_,λj hj hm hh=>?_⟩
   .rw[kz hil]at hj|-
    split
    .rename_i e;exact⟨by simp[e],rfl⟩
    .rename_i e
     rw[if_neg e]at hj;exact⟨List.mem_append_left _ (h1 j hj).1,(h1 j hj).2⟩
   .rw[kz hil]
    split
    .rfl
    .exact h2 j (by omega) hm hh
  .rename_i hc
   refine⟨h1,λj hj hm hh=>?_⟩;by_cases e:j=i
   .subst e;rw[hm,hh]at hc;exact absurd rfl hc
   .exact h2 j (by omega) hm hh
theorem BO.init:BO n may has tch (bI n may has n) 0:=by
 obtain⟨h1,h2⟩:=Ex (n:=n) (may:=may) (has:=has) n (Nat.le_refl _);have hinv:=(pL (n:=n) (may:=may) (has:=has) (tch:=tch) n (Nat.le_refl _)).1;have one:∀a,a<(bI n may has n).q.length->am (bI n may has n).far (bB (bI n may has n) a)=1:=λa ha=>(h1 _ (hinv.mem _ (r6 ha)).2).2;refine⟨hinv,λi hi=>(h1 i hi).1,λa b hab hb=>?_,λb hb h0=>?_,λi hi hm hh=>h2 i hi hm hh,λa ha=>by omega⟩
 .rw[one a (by omega),one b hb];omega
 .rw[one b hb,one 0 h0];omega
structure FarOk(n:Nat)(may has:Nat->Bool)(tch:Nat->Nat->Bool)(far:List Int):Prop where
 len:far.length=n
 nn:∀i,0<=am far i
 rng:∀i,1<=am far i->i<n∧may i=true
 start:∀i,i<n->may i=true->has i=true->am far i=1
 back:∀i,1<=am far i->(am far i=1∧has i=true)∨∃p,p<n∧am far p=am far i-1∧1<=am far p∧tch i p=true
 clo:∀p i,1<=am far p->i<n->may i=true->tch i p=true->1<=am far i∧am far i<=am far p+1
theorem BO.fin{s:BS}(H:BO n may has tch s k)(hk:s.q.length<=k):FarOk n may has tch s.far:=by
 refine⟨H.inv.len,H.inv.nn,λi hi=>⟨?_,H.inv.may' i hi⟩,H.start,H.inv.back,λp i hp hi hm ht=>?_⟩
 .exact(H.inv.mem i (H.inq i hi)).1
 .obtain⟨a,ha,rfl⟩:=IH (H.inq p hp)
  exact H.done a (by omega) ha i hi hm ht
theorem AT(h:FarOk n may has tch far)(h':FarOk n may has tch' far')(ht:∀i p,i<n->may i=true->p<n->may p=true->i≠p->tch i p=true->tch' i p=true):∀(m:Nat) i,(m:Int)=am far i->1<=am far i->1<=am far' i∧am far' i<=am far i:=by
 intro m
 induction m using Nat.strongRecOn with
 |_ m ih=>
  intro i hm hi;obtain⟨r1,r2⟩:=h.rng i hi;rcases h.back i hi with⟨e,hh⟩|⟨p,p1,p2,p3,p4⟩
  .have:=h'.start i r1 r2 hh
   omega
  .obtain⟨q1,q2⟩:=ih (m-1) (by omega) p (by omega) p3
   have hp:=h.rng p p3
   have hne:i≠p:=λe=>by rw[e]at p2;omega
   obtain⟨c1,c2⟩:=h'.clo p i q1 r1 r2 (ht i p r1 r2 hp.1 hp.2 hne p4);exact⟨c1,by omega⟩
theorem Dr(h:FarOk n may has tch far)(h':FarOk n may has tch' far')(ht:∀i p,i<n->may i=true->p<n->may p=true->i≠p->(tch i p=true↔tch' i p=true)):far=far':=by
 have e:∀i,am far i=am far' i:=by
  intro i;have a:=h.nn i;have b:=h'.nn i;by_cases h1:1<=am far i
  .have q1:=AT h h' (λi p a b c d e=>(ht i p a b c d e).1) (am far i).toNat i (by omega) h1
   have q2:=AT h' h (λi p a b c d e=>(ht i p a b c d e).2) (am far' i).toNat i (by omega) q1.1;omega
  .by_cases h2:1<=am far' i
   .have q2:=AT h' h (λi p a b c d e=>(ht i p a b c d e).2) (am far' i).toNat i (by omega) h2
    omega
   .omega
 apply List.ext_getElem?;intro i;by_cases hi:i<n
 .have h1:i<far.length:=by rw[h.len];exact hi
  have h2:i<far'.length:=by rw[h'.len];exact hi
  have:=e i;simp only[am,List.getElem?_eq_getElem h1,List.getElem?_eq_getElem h2,Option.getD_some]at this;rw[List.getElem?_eq_getElem h1,List.getElem?_eq_getElem h2,this]
 .rw[List.getElem?_eq_none (by rw[h.len];omega),List.getElem?_eq_none (by rw[h'.len];omega)]
theorem Ey{s:BS}{k:Nat}(hs:BInv2 n may has tch s)(hk:k<s.q.length):∀i,i<=n->Vis may k s ((List.range i).filter λj=>tch j (bB s k)) (bJ may tch s k i)
 |0,_=>.nil
 |i+1,hi=>by
  have ih:=Ey hs hk i (by omega);have hq:=(xR hs hk i (by omega)).2.2;rw[List.range_succ,List.filter_append];simp only[bJ]
  cases ht:tch i (bB s k)with
  |true=>
   rw[show List.filter (λj=>tch j (bB s k)) [i]=[i] by simp[ht]];split
   .rename_i hc
    simp only[vd,Bool.and_eq_true,beq_iff_eq]at hc;exact .hit ih hc.1.1 hc.1.2
   .rename_i hc
    refine .miss ih λh0=>?_;rw[<-Bool.not_eq_true];intro hm;exact hc (by simp[vd,h0,hm,hq,ht])
  |false=>
   rw[show List.filter (λj=>tch j (bB s k)) [i]=[] by simp[ht],List.append_nil];rw[if_neg (by simp[vd,hq,ht])];exact ih
theorem Ez:∀k,BO n may has tch (bK n may has tch k) k
 |0=>BO.init
 |k+1=>by
  have ih:=Ez k;simp only[bK];split
  .rename_i hk
   refine ih.step hk (Ey ih.inv hk n (Nat.le_refl _)) (λi hi=>?_) (λi hi hm ht=>.inl ?_)
   .simp only[List.mem_filter,List.mem_range]at hi;exact hi
   .simp only[List.mem_filter,List.mem_range];exact⟨hi,ht⟩
  .rename_i hk;exact ih.stay hk
theorem rc:FarOk n may has tch (bK n may has tch n).far:=(Ez n).fin (mt n).le
variable (n may has)
def gT(s:BS)(k:Nat)(l:List Nat):Nat->BS
 |0=>s
 |j+1=>match l[j]? with
  |some i=>if(am (gT s k l j).far i==0)&&may i then lB (gT s k l j) k i else gT s k l j
  |none=>gT s k l j
def gK(nb:Nat->List Nat):Nat->BS
 |0=>bI n may has n
 |k+1=>if k<(gK nb k).q.length then gT may (gK nb k) k (nb (bB (gK nb k) k)) (nb (bB (gK nb k) k)).length else gK nb k
variable {n may has}
theorem xi{s:BS}{k:Nat}{l:List Nat}:∀j,j<=l.length->Vis may k s (l.take j) (gT may s k l j)
 |0,_=>.nil
 |j+1,hj=>by
  have ih:=xi (s:=s) (k:=k) (l:=l) j (by omega);have hl:l[j]?=some l[j]:=List.getElem?_eq_getElem (by omega);rw[List.take_succ_eq_append_getElem (by omega)];simp only[gT,hl];split
  .rename_i hc
   simp only[Bool.and_eq_true,beq_iff_eq]at hc;exact .hit ih hc.1 hc.2
  .rename_i hc
   refine .miss ih λh0=>?_;rw[<-Bool.not_eq_true];intro hm;exact hc (by simp[h0,hm])
def tB(nb:Nat->List Nat)(i p:Nat):Bool:=(nb p).contains i
theorem xj{nb:Nat->List Nat}(hnb:∀p i,i∈nb p->i<n):∀k,BO n may has (tB nb) (gK n may has nb k) k
 |0=>BO.init
 |k+1=>by
  have ih:=xj hnb k;simp only[gK];split
  .rename_i hk
   have hv:=xi (may:=may) (s:=gK n may has nb k) (k:=k) (l:=nb (bB (gK n may has nb k) k)) _ (Nat.le_refl _);rw[List.take_length]at hv;refine ih.step hk hv (λi hi=>⟨hnb _ i hi,?_⟩) (λi hi hm ht=>.inl ?_)
   .simpa[tB]using hi
   .simpa[tB]using ht
  .rename_i hk;exact ih.stay hk
theorem EA(hnb:∀p i,i∈nb p->i<n)(h:∀i p,i<n->may i=true->p<n->may p=true->i≠p->(i∈nb p↔tch i p=true))(hk:(gK n may has nb k).q.length<=k):(gK n may has nb k).far=(bK n may has tch n).far:=
 Dr ((xj hnb k).fin hk) rc λi p a b c d e=>by rw[<-h i p a b c d e];simp[tB]
def nP(far:List Int)(m:Int)(l:List Nat):Nat->Int
 |0=>-1
 |j+1=>match l[j]? with
  |some k=>if(am far k==m)&&(nP far m l j==-1||decide ((k:Int)<nP far m l j))then(k:Int)else nP far m l j
  |none=>nP far m l j
theorem AU{far:List Int}{m:Int}{l:List Nat}:∀j,j<=l.length->-1<=nP far m l j∧(0<=nP far m l j->am far (nP far m l j).toNat=m∧(nP far m l j).toNat∈l)∧∀k∈l.take j,am far k=m->0<=nP far m l j∧nP far m l j<=(k:Int)
 |0,_=>by simp[nP]
 |j+1,hj=>by
  obtain⟨h1,h2,h3⟩:=AU (far:=far) (m:=m) (l:=l) j (by omega);have hl:l[j]?=some l[j]:=List.getElem?_eq_getElem (by omega);rw[List.take_succ_eq_append_getElem (by omega)];simp only[nP,hl];split
  .rename_i hc
   simp only[Bool.and_eq_true,Bool.or_eq_true,beq_iff_eq,decide_eq_true_eq]at hc;refine⟨by omega,λ_=>⟨by rw[Int.toNat_natCast];exact hc.1,by rw[Int.toNat_natCast];exact List.getElem_mem _⟩,λk hk hf=>⟨by omega,?_⟩⟩;rcases List.mem_append.1 hk with hk|hk
   .have:=h3 k hk hf
    omega
   .rw[List.mem_singleton.1 hk];omega
  .rename_i hc
   refine⟨h1,h2,λk hk hf=>?_⟩;rcases List.mem_append.1 hk with hk|hk
   .exact h3 k hk hf
   .rw[List.mem_singleton.1 hk]at hf|-
    simp only[Bool.and_eq_true,Bool.or_eq_true,beq_iff_eq,decide_eq_true_eq,not_and,not_or]at hc;have:=hc hf;omega
theorem AW{far:List Int}{a:Nat}:∀m,m<=n->∀i,i<n->n-m<=i->nC far tch a i=true->0<=nS n far tch a m∧nS n far tch a m<=(i:Int)
 |0,_,i,h1,h2,_=>by omega
 |m+1,hm,i,h1,h2,h3=>by
  simp only[nS];split
  .exact⟨by omega,by omega⟩
  .rename_i hc
   by_cases e:i=n-1-m
   .rw[e]at h3;exact absurd h3 hc
   .exact AW m (by omega) i h1 (by omega) h3
theorem JT{a:Nat}{l:List Nat}(hl:∀i∈l,i<n)(h:∀i,i<n->am far i=am far a-1->(i∈l↔tch i a=true)):nP far (am far a-1) l l.length=nS n far tch a n:=by
 obtain⟨p1,p2,p3⟩:=AU (far:=far) (m:=am far a-1) (l:=l) l.length (Nat.le_refl _);rw[List.take_length]at p3;have q:=BJ (n:=n) (tch:=tch) (far:=far) (at_:=a) n (Nat.le_refl _);have q3:=λi=>AW (tch:=tch) (far:=far) (a:=a) n (Nat.le_refl _) i;by_cases e1:0<=nP far (am far a-1) l l.length
 .obtain⟨r1,r2⟩:=p2 e1
  have hi:=hl _ r2
  have hn:nC far tch a (nP far (am far a-1) l l.length).toNat=true:=by
   simp only[nC,Bool.and_eq_true,beq_iff_eq];exact⟨r1,(h _ hi r1).1 r2⟩
  obtain⟨s1,s2⟩:=q3 _ hi (by omega) hn;obtain⟨t1,t2⟩:=q.1 s1;simp only[nC,Bool.and_eq_true,beq_iff_eq]at t2;have:=p3 _ ((h _ t1 t2.1).2 t2.2) t2.1;omega
 .by_cases e2:0<=nS n far tch a n
  .obtain⟨t1,t2⟩:=q.1 e2
   simp only[nC,Bool.and_eq_true,beq_iff_eq]at t2;have:=p3 _ ((h _ t1 t2.1).2 t2.2) t2.1;omega
  .have:=q.2.2
   omega
def eQ(far:List Int)(nb:Nat->List Nat)(a:Nat):Nat->Nat
 |0=>a
 |r+1=>(nP far (am far a-1-r) (nb (eQ far nb a r)) (nb (eQ far nb a r)).length).toNat
def jE(n:Nat)(far:List Int)(nb:Nat->List Nat)(hasF:Nat->Bool):List Nat×Bool:=
 if 0<=aS far hasF n then((List.range (am far (aS far hasF n).toNat).toNat).map (eQ far nb (aS far hasF n).toNat),true)else([],false)
theorem AY(hF:far=(bK n may has tch n).far)(hsym:∀i j,i<n->j<n->tch i j=tch j i)(hnb:∀p i,i∈nb p->i<n)(h:∀i p,i<n->may i=true->p<n->may p=true->i≠p->(i∈nb p↔tch i p=true)){a:Nat}(hl:a<n)(ha:0<am far a):
 ∀r:Nat,(r:Int)<am far a->eQ far nb a r=pS n far tch a r∧eQ far nb a r<n∧am far (eQ far nb a r)=am far a-r∧((r:Int)+1<am far a->0<=nP far (am far a-1-r) (nb (eQ far nb a r)) (nb (eQ far nb a r)).length):=by
 subst hF;have hI:=mt (n:=n) (may:=may) (has:=has) (tch:=tch) n;have hO:=rc (n:=n) (may:=may) (has:=has) (tch:=tch);generalize bK n may has tch n=s at *
 have next:∀r:Nat,(r:Int)+1<am s.far a->nP s.far (am s.far a-1-r) (nb (pS n s.far tch a r)) (nb (pS n s.far tch a r)).length=nS n s.far tch (pS n s.far tch a r) n:=by
  intro r hr;obtain⟨i1,i2⟩:=uE hI hsym hl ha r (by omega);rw[show am s.far a-1-r=am s.far (pS n s.far tch a r)-1 by omega];have hp:=hO.rng (pS n s.far tch a r) (by omega);refine JT (λi hi=>hnb _ i hi) λi hi hf=>?_;have hm:=hO.rng i (by omega);exact h i _ hi hm.2 hp.1 hp.2 (λe=>by rw[e]at hf;omega)
 have main:∀r:Nat,(r:Int)<am s.far a->eQ s.far nb a r=pS n s.far tch a r:=by
  intro r
  induction r with
  |zero=>exact λ_=>rfl
  |succ r ih=>
   intro hr;have e:=ih (by omega);simp only[eQ,pS,zB];rw[e,next r (by omega)]
 intro r hr;obtain⟨i1,i2⟩:=uE hI hsym hl ha r hr;rw[main r hr];refine⟨rfl,i1,i2,λhr1=>?_⟩;rw[next r hr1];have:=(xS hI hsym i1 (by omega)).1;omega
theorem AZ(hsym:∀i j,i<n->j<n->tch i j=tch j i)(hnb:∀p i,i∈nb p->i<n)(h:∀i p,i<n->may i=true->p<n->may p=true->i≠p->(i∈nb p↔tch i p=true)):
 jE n (bK n may has tch n).far nb hasF=(dQ n may has hasF tch,bU n may has hasF tch):=by
 have ha:=ru (hasF:=hasF) (far:=(bK n may has tch n).far) n;unfold jE dQ bU ql;by_cases h0:0<=aS (bK n may has tch n).far hasF n
 .obtain⟨a1,_⟩:=ha.2.2 h0
  simp only[h0,decide_true,if_true];refine Prod.ext ?_ rfl;refine List.map_congr_left λr hr=>?_;have hr:=List.mem_range.1 hr;exact(AY rfl hsym hnb h (by omega) a1 r (by omega)).1
 .simp only[h0,decide_false,Bool.false_eq_true,if_false]
end
theorem IE(s:Spc)(i:Nat)(hi:i<s.cells.length):aa Tryz.prog 56 [.pv (hC s),.pv (Z i)] [] [] (.pv (Z (bo s i).v.kind)):=by
 have hc:s.cells[i]?=some s.cells[i]:=List.getElem?_eq_getElem hi
 have he:bo s i=s.cells[i]:=by simp[bo,hc]
 rw[he];generalize hce:s.cells[i]=c at *;refine Dp Tryz.func56 ?_;intro C hP hN;simp only[Tryz.f56]at hN|-;exact Gy
structure SpcOk(s:Spc)(m:Nat):Prop where
 n:m<=2048
 c:s.cells.length=m
 b:s.bx.length=m
 r:s.near.length=m
 j:s.jn.length=m
 bl:∀b∈s.bx,b.length<=9223372036854775807
 lf:∀p i,i∈ae s p->i<m∧(bo s i).low=-1
 nl:∀p,(ae s p).length<=4096
theorem Hz(s:Spc)(p q:List Int)(g:FuncId):aa Tryz.prog 50 [.pv (hC s),.pv (zs p),.pv (zs q),.pv (.val (.func (.func g) #[] #[]))] [] [] (.pv (.agg [hC s,zs p,zs q,.val (.func (.func g) #[] #[])])):=by
 refine Dp Tryz.func50 ?_;intro C hP hN;simp only[Tryz.f50]at hN|-;exact Gy
set_option maxRecDepth 10000 in
theorem FG(s:Spc)(n:Nat)(p q:List Int)(g:FuncId)(f:Int->Int->Bool)(tch:Nat->Nat->Bool)(hs:SpcOk s n)(hq9:q.length<=9223372036854775807)(hmay:∀k j:Int,aa Tryz.prog g [.pv (Z k),.pv (Z j)] [] [] (.pv (B (f k j))))(hcov:∀i p,i<n->aZ s f i=true->p<n->aZ s f p=true->i≠p->(i∈ae s p↔tch i p=true)):aa Tryz.prog 89 [.pv (.agg [hC s,zs p,zs q,.val (.func (.func g) #[] #[])])] [] [] (.pv (.sl ((bK n (aZ s f) (aw s.bx q) tch n).far.map Z))):=by
 have hb:∀i,i<n->s.bx[i]?=some (ff s.bx i):=λi hi=>by
  have:i<s.bx.length:=by rw[hs.b];exact hi
  simp[ff,List.getElem?_eq_getElem this]
 have ck:=λ(i:Nat)(hi:i<s.cells.length)=>IE s i hi;have cH:=λ(i:Nat)(hi:i<n)=>Kz (ff s.bx i) q (hs.bl _ (List.mem_of_getElem? (hb i hi)));have cH':∀i,i<n->aa Tryz.prog 90 [.pv (iv (ff s.bx i)),.pv (zs q)] [] [] (.pv (B (aw s.bx q i))):=cH;have hgk:=λ{k:Nat}(hk:(gK n (aZ s f) (aw s.bx q) (ae s) k).q.length<=k)=>EA (λp i hi=>(hs.lf p i hi).1) hcov hk;have hord:=xj (n:=n) (may:=aZ s f) (has:=aw s.bx q) (nb:=ae s) (λp i hi=>(hs.lf p i hi).1);have hbl:=hs.b;have hcl:=hs.c;have hjl:=hs.j;have hnl:=hs.r;have hn:=hs.n;have hlf:=hs.lf;have hnlb:=hs.nl;have hmd:∀i,aZ s f i=(decide ((bo s i).low=-1)&&f (bo s i).v.kind (iB s i)):=λi=>rfl
 have hcg:∀i,i<n->s.cells[i]?=some (bo s i):=λi hi=>by
  have:i<s.cells.length:=by omega
  simp[bo,List.getElem?_eq_getElem this]
 have hjg:∀i,i<n->s.jn[i]?=some (iB s i):=λi hi=>by
  have:i<s.jn.length:=by omega
  simp[iB,List.getElem?_eq_getElem this]
 clear cH hcov;generalize hhas:aw s.bx q=has at *;generalize hmm:aZ s f=may at *;refine Dp Tryz.func89 ?_;intro C hP hN;simp only[Tryz.f89]at hN|-;refine Ko [4] (gA hbl (gA (show(8:Int)*n<=281474976710656 by omega) (gA (show(n:Int)<=281474976710656 by omega) (show(n:Int)<=9223372036854775807 by omega)))) ?_;refine WP.loopN [6] n (λi st=>st.t 1=.ptr 1 0∧st.t 3=.arr 16 n∧st.t 4=.arr 4 (bI n may has i).q.length∧st.t 22=.pv (.sl (s.cells.map aW))∧st.t 23=.pv (Z n)∧st.t 24=.pv (Z i)∧st.h 1=some (.box [.pv (hC s),.pv (zs p),.pv (zs q),.pv (.val (.func (.func g) #[] #[]))] true false)∧st.h 4=some (.row 3 1 ((bI n may has i).q.map zN) 0)∧st.h 16=some (.row 3 1 ((bI n may has i).far.map Z) 0)∧st.h 6=none) (by simp[bI,hcl]) ?_;rintro i st hi ⟨g1,g3,g4,g22,g23,g24,b1,b4,b16,b6⟩;obtain⟨hI,hIz⟩:=pL (n:=n) (may:=may) (has:=has) (tch:=tch) i hi;have hle:=hI.le;have hfl:=hI.len;by_cases hlt:i<n
 .have hw:=au hlt (by omega)
  have hic:i<s.cells.length:=by omega
  have hci:=hcg i hlt;have hci':=aT hci hic
  have hij:i<s.jn.length:=by omega
  have hji:=hjg i hlt;have hji':=aT hji hij
  have hib:i<s.bx.length:=by omega
  have hbi:=hb i hlt;have hbi':=aT hbi hib
  have hsu:bI n may has (i+1)=if may i&&has i then⟨(bI n may has i).far.set i 1,(bI n may has i).q++[i]⟩else bI n may has i:=rfl
  have c1:=ck i hic;have c2:=hmay (bo s i).v.kind (iB s i);have c3:=cH' i hlt;have hm9:=hmd i;generalize bI n may has i=S at *;generalize bo s i=c at *;generalize iB s i=jj at *;by_cases hlo:c.low=-1
  .have hlo':(c.low==-1)=true:=by simp[hlo]
   rw[decide_eq_true hlo,Bool.true_and]at hm9
   cases hf:f c.v.kind jj with
   |false=>
    rw[hf]at c2 hm9;rw[hm9,Bool.false_and,if_neg (by simp)]at hsu;exact Gy
    all_goals simp[hsu]
   |true=>
    rw[hf]at c2 hm9
    cases hh:has i with
    |false=>
     rw[hh]at c3;rw[hm9,hh,if_neg (by simp)]at hsu;exact Gy
     all_goals simp[hsu]
    |true=>
     rw[hh]at c3;rw[hm9,hh,if_pos (by simp)]at hsu
     with_reducible repeat' (first|refine Sp.h ?_|((first|refine Wd ?_|refine Ss.h ?_|refine Sc.h (c1) ?_|refine Sc.h (c2) ?_|refine Sc.h (c3) ?_|(refine Sb.h ?_ ?_ ?_<;>(try intro hgd)<;>try exact Xy))<;>simp -implicitDefEqProofs (maxSteps:=2000000) [hP,hN,g1,g3,g4,g22,g23,g24,b1,b4,b16,b6,hlt,hw,hic,hci,hci',hij,hji,hji',hib,hbi,hbi',hlo,hlo',hfl,show(S.q.length+1)*8<=140737488355328 by omega,show S.q.length+1<=9223372036854775807 by omega]<;>try refine Ya ?_)|refine X2 ?_ ?_|(refine Xd ?_ ?_<;>intro hcd<;>try exact Xx))
     all_goals simp[hsu,List.map_set]
  .have hlo':(c.low==-1)=false:=by simp[hlo]
   rw[decide_eq_false hlo,Bool.false_and]at hm9;rw[hm9,Bool.false_and,if_neg (by simp)]at hsu;exact Gy
   all_goals simp[hsu]
 have hi':i=n:=by omega
 subst hi';clear hIz hI;refine Gz ?_;refine WP.toSuf 4 (k:=4) (e:=3) (sz:=1) (fz:=0) (xs:=(bI i may has i).q.map zN) (by simp[b4]) (by simp[g4]) ?_
 refine WP.loopN [] i (λk st=>∃o xs,st.t 1=.ptr 1 0∧st.t 3=.arr 16 i∧st.t 4=.ext (.suf 4 o ((gK i may has (ae s) k).q.length-k) (o+((gK i may has (ae s) k).q.length-k)))∧xs.length=o+((gK i may has (ae s) k).q.length-k)∧xs.drop o=((gK i may has (ae s) k).q.drop k).map zN∧k<=(gK i may has (ae s) k).q.length∧st.h 1=some (.box [.pv (hC s),.pv (zs p),.pv (zs q),.pv (.val (.func (.func g) #[] #[]))] true false)∧st.h 4=some (.row 3 1 xs 0)∧st.h 16=some (.row 3 1 ((gK i may has (ae s) k).far.map Z) 0)) (by
  refine⟨0,(bI i may has i).q.map zN,?_⟩
  simp[gK,g1,g3,b1,b4,b16,ah]) ?_
 clear g1 g3 g4 g22 g23 g24 b1 b4 b16 b6 st hi hlt;rintro k st hk ⟨o,xs,g1,g3,g4,hxl,hxd,hkq,b1,b4,b16⟩;have hO:=hord k;have hI:=hO.inv;have hle:=hI.le;have hfl:=hI.len;have hfin:=hgk (k:=k);by_cases hlt:k<(gK i may has (ae s) k).q.length
 .have hsk:gK i may has (ae s) (k+1)=gT may (gK i may has (ae s) k) k (ae s (bB (gK i may has (ae s) k) k)) (ae s (bB (gK i may has (ae s) k) k)).length:=by simp only[gK];rw[if_pos hlt]
  rw[hsk];clear hfin hsk;generalize gK i may has (ae s) k=S at *;have hQm:=hI.mem _ (r6 hlt);generalize hQ:bB S k=Q at *
  have hqk:S.q[k]?=some Q:=by
   have:S.q[k]?=some (bB S k):=by simp[bB,List.getElem?_eq_getElem hlt]
   rw[this,hQ]
  have hx0:xs[o]?=some (zN Q):=by
   have h9:=congrArg (λl:List PV=>l[0]?) hxd;simp only[List.getElem?_drop,List.getElem?_map,Nat.add_zero]at h9;rw[h9,hqk];rfl
  have hol:o<xs.length:=(List.getElem?_eq_some_iff.1 hx0).1;have hx0':=aT hx0 hol
  have hQn:Q<s.near.length:=by omega
  have hnQ:s.near[Q]?=some (ae s Q):=by simp[ae,List.getElem?_eq_getElem hQn]
  have hnQ':=aT hnQ hQn
  have hpos:0<S.q.length-k:=by omega
  with_reducible repeat' (first|refine Sp.h ?_|((with_unfolding_all refine WP.sufAt (hn:=[]) (d:=77) 1 rfl rfl rfl rfl ?_);simp -implicitDefEqProofs (maxSteps:=2000000) [hP,hN,g1,g3,g4,hxl,b1,b4,b16,hpos,hx0,hol,hx0'])|((first|refine Wd ?_|refine Ss.h ?_|(refine Sb.h ?_ ?_ ?_<;>(try intro hgd)<;>try exact Xy))<;>simp -implicitDefEqProofs (maxSteps:=2000000) [hP,hN,g1,g3,g4,hxl,b1,b4,b16,hpos,hx0,hol,hx0']<;>try refine Ya ?_)|refine X2 ?_ ?_|(refine Xd ?_ ?_<;>intro hcd<;>try exact Xx))
  refine⟨4,3,1,S.q.length-k,1,o,.i64,0,xs,_,3,8,_,by simp[St.ev,g4],by simp[St.ev],by simp[b4],hxl,by omega,by rw[hP];exact Rk,rfl,by omega,by omega,?_⟩;simp -implicitDefEqProofs (maxSteps:=2000000) [hP,hN];refine Gz ?_
  have hxd1:xs.drop (o+1)=(S.q.drop (k+1)).map zN:=by
   have h9:=congrArg (List.drop 1) hxd;rw[List.drop_drop,<-List.map_drop,List.drop_drop]at h9;exact h9
  have hlQ:∀x∈ae s Q,x<i∧tB (ae s) x (bB S k)=true∧(bo s x).low=-1:=λx hx=>⟨(hlf Q x hx).1,by rw[hQ];simp[tB,hx],(hlf Q x hx).2⟩;clear hnQ hnQ' hx0 hx0' hqk;have hll:=hnlb Q;generalize ae s Q=l at *
  refine WP.loopN [] l.length (λj st=>∃o xs,st.t 1=.ptr 1 0∧st.t 3=.arr 16 i∧st.t 7=.pv (Z Q)∧st.t 85=.pv (pd l)∧st.t 86=.pv (Z l.length)∧st.t 87=.pv (Z j)∧st.t 4=.ext (.suf 4 o ((gT may S k l j).q.length-(k+1)) (o+((gT may S k l j).q.length-(k+1))))∧xs.length=o+((gT may S k l j).q.length-(k+1))∧xs.drop o=((gT may S k l j).q.drop (k+1)).map zN∧st.h 1=some (.box [.pv (hC s),.pv (zs p),.pv (zs q),.pv (.val (.func (.func g) #[] #[]))] true false)∧st.h 4=some (.row 3 1 xs 0)∧st.h 16=some (.row 3 1 ((gT may S k l j).far.map Z) 0)) (by
   refine⟨o+1,xs,?_⟩
   have e1:S.q.length-k-1=S.q.length-(k+1):=by omega
   have e2:o+(S.q.length-k)=o+1+(S.q.length-(k+1)):=by omega
   simp only[gT];rw[<-e2,<-e1]
   simp[ah,g1,g3,b1,b4,b16,hxl,hxd1]) ?_
  clear g1 g3 g4 b1 b4 b16 hxl hxd hxd1 hol hpos st;clear o xs;rintro j st hj ⟨o,xs,g1,g3,g7,g85,g86,g87,g4,hxl,hxd,b1,b4,b16⟩;have V:=yt hI hlt hO.inq (xi (may:=may) (s:=S) (k:=k) (l:=l) j hj) (λx hx=>⟨(hlQ x (List.mem_of_mem_take hx)).1,(hlQ x (List.mem_of_mem_take hx)).2.1⟩);have hTl:=V.inv.le;have hTf:=V.inv.len;have hTq:=V.qs k hlt;have hTk:=V.le;have hVn:=V.inv.nn;have hVt:=V.inv.top;have hVm:=V.inv.mem _ (r6 (Nat.lt_of_lt_of_le hlt V.le));rw[hTq,hQ]at hVm;rw[hQ]at hTq;by_cases hjl:j<l.length
  .have hwj:=au hjl (by omega)
   have hx:l[j]?=some l[j]:=List.getElem?_eq_getElem hjl
   have hsu:gT may S k l (j+1)=if(am (gT may S k l j).far l[j]==0)&&may l[j]then lB (gT may S k l j) k l[j]else gT may S k l j:=by simp only[gT,hx]
   obtain⟨hxn,_,hxlo⟩:=hlQ _ (List.getElem_mem hjl);clear V;generalize gT may S k l j=T at *;generalize hxe:l[j]=x at *
   have hxc:x<s.cells.length:=by omega
   have hci:=hcg x hxn;have hci':=aT hci hxc
   have hxj:x<s.jn.length:=by omega
   have hji:=hjg x hxn;have hji':=aT hji hxj;have c1:=ck x hxc;have c2:=hmay (bo s x).v.kind (iB s x);have hm9:=hmd x;rw[decide_eq_true hxlo,Bool.true_and]at hm9
   have hxf:x<T.far.length:=by omega
   have hfx:T.far[x]?=some (am T.far x):=by simp[am,List.getElem?_eq_getElem hxf]
   have hfx':=aT hfx hxf
   have hQf:Q<T.far.length:=by omega
   have hfQ:T.far[Q]?=some (am T.far Q):=by simp[am,List.getElem?_eq_getElem hQf]
   have hfQ':=aT hfQ hQf
   have hbj:lB T k x=⟨T.far.set x (am T.far Q+1),T.q++[x]⟩:=by simp only[lB,hTq]
   have htQ:=hVt Q;have hnQ:=hVn Q;have hwQ:IntKind.i64.wrap (am T.far Q+1)=am T.far Q+1:=ab;rw[hbj]at hsu;generalize bo s x=cc at *;generalize iB s x=jj at *;generalize am T.far Q=fQ at *;by_cases hf0:am T.far x=0
   .have hf0':(am T.far x==0)=true:=by simp[hf0]
    rw[hf0',Bool.true_and]at hsu
    cases hmx:f cc.v.kind jj with
    |false=>
     rw[hmx]at c2 hm9;rw[hm9,if_neg (by simp)]at hsu;rw[hsu];exact Gy
     all_goals simp[hxl,hxd,hjl]
    |true=>
     rw[hmx]at c2 hm9;rw[hm9,if_pos rfl]at hsu;rw[hsu]
     with_reducible repeat' (first|refine Sp.h ?_|((with_unfolding_all refine WP.appSAt (hn:=[]) (d:=124) 3 rfl rfl rfl rfl ?_);simp -implicitDefEqProofs (maxSteps:=2000000) [hP,hN,g1,g3,g7,g85,g86,g87,g4,hxl,b1,b4,b16,hjl,hwj,hx,hxe,hxc,hci,hci',hxj,hji,hji',hxf,hfx,hfx',hTf,hxn,hVm.1,hf0,hf0',hQf,hfQ,hfQ',hwQ])|((first|refine Wd ?_|refine Ss.h ?_|refine Sc.h (c1) ?_|refine Sc.h (c2) ?_|(refine Sb.h ?_ ?_ ?_<;>(try intro hgd)<;>try exact Xy))<;>simp -implicitDefEqProofs (maxSteps:=2000000) [hP,hN,g1,g3,g7,g85,g86,g87,g4,hxl,b1,b4,b16,hjl,hwj,hx,hxe,hxc,hci,hci',hxj,hji,hji',hxf,hfx,hfx',hTf,hxn,hVm.1,hf0,hf0',hQf,hfQ,hfQ',hwQ]<;>try refine Ya ?_)|refine X2 ?_ ?_|(refine Xd ?_ ?_<;>intro hcd<;>try exact Xx))
     refine⟨4,o,T.q.length-(k+1),3,1,xs,[zN x],_,8,.int .i64 0,by simp[St.ev,g4],by simp[b4],hxl,by simp[St.ev],by simp[lI,i8],by simp,by rw[hP];exact Rk,rfl,by omega,rfl,by simp;omega,by simp;omega,by omega,by omega,by omega,?_⟩;intro o' xs' e1 e2;simp -implicitDefEqProofs (maxSteps:=2000000) [hP,hN];refine Gz ?_
     have hkT:k+1<=T.q.length:=by omega
     simp only[List.length_singleton]at e1;refine⟨o',⟨rfl,by omega,by omega⟩,by omega,?_⟩;rw[e2,hxd,List.drop_append_of_le_length (by simpa using hkT),List.map_drop]
   .have hf0':(am T.far x==0)=false:=by simp[hf0]
    rw[hf0',Bool.false_and,if_neg (by simp)]at hsu;rw[hsu];exact Gy
    all_goals simp[hxl,hxd,hjl]
  .have hjn:j=l.length:=by omega
   subst hjn;refine Gz ?_;exact⟨by omega,xs,hxl,by rw[hxd,List.map_drop],by omega,rfl⟩
 .have hF:=hfin (by omega)
  have hz:(gK i may has (ae s) k).q.length-k=0:=by omega
  rw[hF]at b16;rw[hz]at g4 hxl;refine Gz ?_;exact rc.len
theorem xl(f:Nat->α)(r:Nat):(List.range r).map f++[f r]=(List.range (r+1)).map f:=by
 rw[List.range_succ,List.map_append];rfl
set_option maxRecDepth 10000 in
theorem II(s:Spc)(n:Nat)(p q:List Int)(g:FuncId)(f:Int->Int->Bool)(tch:Nat->Nat->Bool)(hs:SpcOk s n)(hp9:p.length<=9223372036854775807)(hq9:q.length<=9223372036854775807)(hmay:∀k j:Int,aa Tryz.prog g [.pv (Z k),.pv (Z j)] [] [] (.pv (B (f k j))))(hsym:∀i j,i<n->j<n->tch i j=tch j i)(hcov:∀i p,i<n->aZ s f i=true->p<n->aZ s f p=true->i≠p->(i∈ae s p↔tch i p=true)):aa Tryz.prog 51 [.pv (.agg [hC s,zs p,zs q,.val (.func (.func g) #[] #[])])] [] [] (.pv (.tup [pd (dQ n (aZ s f) (aw s.bx q) (aw s.bx p) tch),B (bU n (aZ s f) (aw s.bx q) (aw s.bx p) tch)])):=by
 have cl:=FG s n p q g f tch hs hq9 hmay hcov
 have hb:∀i,i<n->s.bx[i]?=some (ff s.bx i):=λi hi=>by
  have:i<s.bx.length:=by rw[hs.b];exact hi
  simp[ff,List.getElem?_eq_getElem this]
 have cH:=λ(i:Nat)(hi:i<n)=>Kz (ff s.bx i) p (hs.bl _ (List.mem_of_getElem? (hb i hi)));have cH':∀i,i<n->aa Tryz.prog 90 [.pv (iv (ff s.bx i)),.pv (zs p)] [] [] (.pv (B (aw s.bx p i))):=cH;clear cH;have hE:=AZ (n:=n) (may:=aZ s f) (has:=aw s.bx q) (hasF:=aw s.bx p) hsym (λp i hi=>(hs.lf p i hi).1) hcov;have hPA:=λ{a:Nat}=>AY (n:=n) (may:=aZ s f) (has:=aw s.bx q) (a:=a) rfl hsym (λp i hi=>(hs.lf p i hi).1) hcov;have hF:=rc (n:=n) (may:=aZ s f) (has:=aw s.bx q) (tch:=tch);have hbl:=hs.b;have hnl:=hs.r;have hn:=hs.n;have hlf:=hs.lf;have hnlb:=hs.nl;have hT:=(mt (n:=n) (may:=aZ s f) (has:=aw s.bx q) (tch:=tch) n).top;have hQl:=(mt (n:=n) (may:=aZ s f) (has:=aw s.bx q) (tch:=tch) n).le;rw[show dQ n (aZ s f) (aw s.bx q) (aw s.bx p) tch=(jE n (bK n (aZ s f) (aw s.bx q) tch n).far (ae s) (aw s.bx p)).1 by rw[hE],show bU n (aZ s f) (aw s.bx q) (aw s.bx p) tch=(jE n (bK n (aZ s f) (aw s.bx q) tch n).far (ae s) (aw s.bx p)).2 by rw[hE]];clear hE hcov
 have htop:∀i,am (bK n (aZ s f) (aw s.bx q) tch n).far i<=n:=λi=>by have:=hT i;omega
 clear hT hQl;generalize(bK n (aZ s f) (aw s.bx q) tch n).far=F at *;generalize aw s.bx p=hasF at *;have hFl:=hF.len;have hFn:=hF.nn
 have hfg:∀i,i<n->F[i]?=some (am F i):=λi hi=>by simp[am,List.getElem?_eq_getElem (by omega:i<F.length)]
 refine Dp Tryz.func51 ?_;intro C hP hN;simp only[Tryz.f51]at hN|-;refine Gz ?_;refine WP.loopN [] n (λi st=>st.t 1=.ptr 1 0∧st.t 4=.pv (.sl (F.map Z))∧st.t 5=.pv (Z (aS F hasF i))∧st.t 15=.pv (.sl (F.map Z))∧st.t 16=.pv (Z n)∧st.t 17=.pv (Z i)∧st.h 1=some (.box [.pv (hC s),.pv (zs p),.pv (zs q),.pv (.val (.func (.func g) #[] #[]))] true false)∧st.h 54=none) (by simp[aS,hFl]) ?_;rintro i st hi ⟨g1,g4,g5,g15,g16,g17,b1,b54⟩;have hA:=ru (hasF:=hasF) (far:=F) i;by_cases hlt:i<n
 .have hw:=au hlt (by omega)
  have hif:i<F.length:=by omega
  have hfi:=hfg i hlt;have hfi':=aT hfi hif
  have hib:i<s.bx.length:=by omega
  have hbi:=hb i hlt;have hbi':=aT hbi hib;have c3:=cH' i hlt
  have hsu:aS F hasF (i+1)=if decide (0<am F i)&&hasF i&&(decide (aS F hasF i<0)||decide (am F i<am F (aS F hasF i).toNat))then(i:Int)else aS F hasF i:=rfl
  rw[hsu];clear hsu;by_cases h0:0<am F i
  .rw[decide_eq_true h0,Bool.true_and]
   by_cases ha:aS F hasF i<0
   .have ha1:aS F hasF i=-1:=by omega
    rw[ha1];rw[ha1]at g5
    cases hh:hasF i with
    |false=>
     rw[hh]at c3;exact Gy
     all_goals simp
    |true=>
     rw[hh]at c3;exact Gy
     all_goals simp
   .obtain⟨a,hae⟩:=Int.eq_ofNat_of_zero_le (by omega:0<=aS F hasF i)
    rw[hae]at hA g5|-
    have han:a<n:=by omega
    have haf:a<F.length:=by omega
    have hfa:=hfg a han;have hfa':=aT hfa haf;rw[Int.toNat_natCast];by_cases hl2:am F i<am F a
    .cases hh:hasF i with
     |false=>
      rw[hh]at c3;exact Gy
      all_goals simp
     |true=>
      rw[hh]at c3;exact Gy
      all_goals (first|(simp[hl2];done)|(intros;omega))
    .skip
     refine Gz ?_
     all_goals (first|(simp[hl2];done)|(intros;omega))
  .rw[decide_eq_false h0]
   exact Gy
   all_goals simp
 have hin:i=n:=by omega
 subst hin;by_cases h0:0<=aS F hasF i
 case neg=>
  have ha1:aS F hasF i=-1:=by omega
  have hres:jE i F (ae s) hasF=([],false):=by simp[jE,ha1]
  rw[hres];rw[ha1]at g5;exact Gy
 obtain⟨a,hae⟩:=Int.eq_ofNat_of_zero_le h0;obtain⟨ha0,_⟩:=hA.2.2 h0
 have hres:jE i F (ae s) hasF=((List.range (am F a).toNat).map (eQ F (ae s) a),true):=by simp[jE,hae]
 rw[hres];rw[hae]at g5 hA ha0;rw[Int.toNat_natCast]at ha0
 have han:a<i:=by omega
 have hPa:=hPA han ha0
 have haf:a<F.length:=by omega
 have hfa:=hfg a han;have hfa':=aT hfa haf;have hta:=htop a;have hw1:IntKind.i64.wrap (am F a-1)=am F a-1:=ab;clear hPA h0 hres
 with_reducible repeat' (first|refine Sp.h ?_|((first|refine Wh [54] ?_|refine Wi [54] ?_|refine Ss.h ?_|(refine Sb.h ?_ ?_ ?_<;>(try intro hgd)<;>try exact Xy))<;>simp -implicitDefEqProofs (maxSteps:=2000000) [hP,hN,g1,g4,g5,g15,g16,g17,b1,b54,hlt,haf,hfa,hfa',hw1]<;>try refine Ya ?_)|refine X2 ?_ ?_|(refine Xd ?_ ?_<;>intro hcd<;>try exact Xx))
 refine WP.loopN [] (am F a).toNat (λr st=>st.t 1=.ptr 1 0∧st.t 4=.pv (.sl (F.map Z))∧st.t 5=.pv (Z (eQ F (ae s) a r:Int))∧st.t 8=.arr 54 (r+1)∧st.t 9=.pv (Z (am F a-1-r))∧st.h 1=some (.box [.pv (hC s),.pv (zs p),.pv (zs q),.pv (.val (.func (.func g) #[] #[]))] true false)∧st.h 54=some (.row 3 1 ((List.range (r+1)).map λm=>Z (eQ F (ae s) a m:Int)) 0)∧(r:Int)<am F a) (by simp[eQ,g1,g4,g5,b1,ha0]) ?_;clear g1 g4 g5 g15 g16 g17 b1 b54 hlt st hi;rintro r st hr ⟨g1,g4,g5,g8,g9,b1,b54,hra⟩;obtain⟨_,hpn,hpf,hpz⟩:=hPa r hra;by_cases hlt:0<am F a-1-r
 .have hz:=hpz (by omega)
  have hsu:eQ F (ae s) a (r+1)=(nP F (am F a-1-r) (ae s (eQ F (ae s) a r)) (ae s (eQ F (ae s) a r)).length).toNat:=rfl
  have hps:s.near[eQ F (ae s) a r]?=some (ae s (eQ F (ae s) a r)):=by simp[ae,List.getElem?_eq_getElem (by omega:eQ F (ae s) a r<s.near.length)]
  have hpl:eQ F (ae s) a r<s.near.length:=by omega
  have hps':=aT hps hpl;have hll:=hnlb (eQ F (ae s) a r);have hlQ:∀x∈ae s (eQ F (ae s) a r),x<i:=λx hx=>(hlf _ x hx).1;have hrs:=xl (λm=>Z (eQ F (ae s) a m:Int)) (r+1)
  with_reducible repeat' (first|refine Sp.h ?_|((first|refine Wd ?_|refine Ss.h ?_|(refine Sb.h ?_ ?_ ?_<;>(try intro hgd)<;>try exact Xy))<;>simp -implicitDefEqProofs (maxSteps:=2000000) [hP,hN,g1,g4,g5,g8,g9,b1,b54,hlt,hps,hpl,hps',hnl]<;>try refine Ya ?_)|refine X2 ?_ ?_|(refine Xd ?_ ?_<;>intro hcd<;>try exact Xx))
  clear hps hps' hPa hpz;generalize hl9:ae s (eQ F (ae s) a r)=l at *;obtain⟨m,hm9⟩:∃m,m=am F a-1-r:=⟨_,rfl⟩;rw[<-hm9]at hz hsu g9 hlt;refine WP.loopN [] l.length (λj st=>st.t 1=.ptr 1 0∧st.t 4=.pv (.sl (F.map Z))∧st.t 8=.arr 54 (r+1)∧st.t 9=.pv (Z m)∧st.t 10=.pv (Z (nP F m l j))∧st.t 71=.pv (pd l)∧st.t 72=.pv (Z l.length)∧st.t 73=.pv (Z j)∧st.h 1=some (.box [.pv (hC s),.pv (zs p),.pv (zs q),.pv (.val (.func (.func g) #[] #[]))] true false)∧st.h 54=some (.row 3 1 ((List.range (r+1)).map λm=>Z (eQ F (ae s) a m:Int)) 0)) (by simp[nP,g1,g4,g8,g9,b1,b54]) ?_;clear g1 g4 g5 g8 g9 b1 b54 st;rintro j st hj ⟨g1,g4,g8,g9,g10,g71,g72,g73,b1,b54⟩;by_cases hjl:j<l.length
  .have hwj:=au hjl (by omega)
   have hx:l[j]?=some l[j]:=List.getElem?_eq_getElem hjl;have hxn:=hlQ _ (List.getElem_mem hjl)
   have hs2:nP F m l (j+1)=if(am F l[j]==m)&&(nP F m l j==-1||decide ((l[j]:Int)<nP F m l j))then(l[j]:Int)else nP F m l j:=by simp only[nP,hx]
   rw[hs2];clear hs2;generalize hxe:l[j]=x at *
   have hxf:x<F.length:=by omega
   have hfx:=hfg x hxn;have hfx':=aT hfx hxf;generalize nP F m l j=y at *;by_cases h1:am F x=m
   .by_cases h2:y=-1
    .subst h2
     exact GS (gA g1 (gA g4 (gA g8 (gA g9 (gA g10 (gA g71 (gA g72 (gA g73 (gA b1 (gA b54 (gA hjl (gA hwj (gA hx (gA hxe (gA hxf (gA hfx (gA hfx' h1)))))))))))))))))
     all_goals simp[h1]
    .by_cases h3:(x:Int)<y
     all_goals
      exact GS (gA g1 (gA g4 (gA g8 (gA g9 (gA g10 (gA g71 (gA g72 (gA g73 (gA b1 (gA b54 (gA hjl (gA hwj (gA hx (gA hxe (gA hxf (gA hfx (gA hfx' (gA h1 (gA h2 h3)))))))))))))))))))
      all_goals simp[h1,h2,h3]
   .skip
    exact GS (gA g1 (gA g4 (gA g8 (gA g9 (gA g10 (gA g71 (gA g72 (gA g73 (gA b1 (gA b54 (gA hjl (gA hwj (gA hx (gA hxe (gA hxf (gA hfx (gA hfx' h1)))))))))))))))))
    all_goals simp[h1]
  .have hjn:j=l.length:=by omega
   subst hjn;obtain⟨Y,hY⟩:=Int.eq_ofNat_of_zero_le hz;rw[hY,Int.toNat_natCast]at hsu;rw[hY]at g10;rw[hsu]at hrs;have hw9:IntKind.i64.wrap (m-1)=m-1:=ab;refine GT (gA g1 (gA g4 (gA g8 (gA g9 (gA g10 (gA g71 (gA g72 (gA g73 (gA b1 (gA b54 (gA hjl (gA hw9 (gA hsu (gA (show(r+1+1)*8<=140737488355328 by omega) (show r+1+1<=9223372036854775807 by omega))))))))))))))) ?_;exact⟨hra,by omega,hrs,by omega⟩
 .skip
  refine GT (gA g1 (gA g4 (gA g5 (gA g8 (gA g9 (gA b1 (gA b54 hlt))))))) ?_;rw[show(am F a).toNat=r+1 by omega];rfl
def qB(k _:Int):Bool:=k==1
def mK(k _:Int):Bool:=k !=2
def qC(k j:Int):Bool:=k==1||(k==0&&j != -1)
def vE(k j:Int):Bool:=k==1||(k==0&&j==-1)
theorem GM(k j:Int):aa Tryz.prog 52 [.pv (Z k),.pv (Z j)] [] [] (.pv (B (qB k j))):=by
 refine Dp Tryz.func52 ?_;intro C hP hN;simp only[Tryz.f52]at hN|-;refine Gz ?_
 all_goals (first|(simp_all[qB];done)|((try simp_all[qB])<;>(try omega)<;>grind))
theorem OU(k j:Int):aa Tryz.prog 53 [.pv (Z k),.pv (Z j)] [] [] (.pv (B (mK k j))):=by
 refine Dp Tryz.func53 ?_;intro C hP hN;simp only[Tryz.f53]at hN|-;refine Gz ?_
 all_goals (first|(simp_all[mK];done)|((try simp_all[mK])<;>(try omega)<;>grind))
theorem lU(k j:Int):aa Tryz.prog 54 [.pv (Z k),.pv (Z j)] [] [] (.pv (B (qC k j))):=by
 unfold qC;by_cases h1:k=1
 .have h1':(k==1)=true:=by simp[h1]
  refine Dp Tryz.func54 ?_;intro C hP hN;simp only[Tryz.f54]at hN|-;exact Gy
  all_goals simp[h1]
 .have h1':(k==1)=false:=by simp[h1]
  by_cases h0:k=0
  .have h0':(k==0)=true:=by simp[h0]
   refine Dp Tryz.func54 ?_;intro C hP hN;simp only[Tryz.f54]at hN|-;exact Gy
   all_goals simp[h1',h0']
  .have h0':(k==0)=false:=by simp[h0]
   refine Dp Tryz.func54 ?_;intro C hP hN;simp only[Tryz.f54]at hN|-;exact Gy
   all_goals simp[h1',h0']
theorem Kv(k j:Int):aa Tryz.prog 55 [.pv (Z k),.pv (Z j)] [] [] (.pv (B (vE k j))):=by
 unfold vE;by_cases h1:k=1
 .have h1':(k==1)=true:=by simp[h1]
  refine Dp Tryz.func55 ?_;intro C hP hN;simp only[Tryz.f55]at hN|-;exact Gy
  all_goals simp[h1]
 .have h1':(k==1)=false:=by simp[h1]
  by_cases h0:k=0
  .have h0':(k==0)=true:=by simp[h0]
   refine Dp Tryz.func55 ?_;intro C hP hN;simp only[Tryz.f55]at hN|-;exact Gy
   all_goals simp[h1',h0']
  .have h0':(k==0)=false:=by simp[h0]
   refine Dp Tryz.func55 ?_;intro C hP hN;simp only[Tryz.f55]at hN|-;exact Gy
   all_goals simp[h1',h0']
structure SpcC(s:Spc)(n:Nat)(tch:Nat->Nat->Bool):Prop where
 ok:SpcOk s n
 sym:∀i j,i<n->j<n->tch i j=tch j i
 cov:∀i p,i<n->(bo s i).low=-1->p<n->(bo s p).low=-1->i≠p->(i∈ae s p↔tch i p=true)
theorem SpcC.cv(h:SpcC s n tch)(f:Int->Int->Bool):∀i p,i<n->aZ s f i=true->p<n->aZ s f p=true->i≠p->(i∈ae s p↔tch i p=true):=by
 intro i p hi hm hp hmp hne;simp only[aZ,Bool.and_eq_true,decide_eq_true_eq]at hm hmp;exact h.cov i p hi hm.1 hp hmp.1 hne
theorem N7{g:PV}{a b c:List PV}:∀(i j:Nat),([.pv g,.bx 0,.bx 1,.bx 2]:List Arg)[i]?=some (.bx j)->j< [a,b,c].length
 |0,j,h=>by simp at h
 |1,j,h=>by simp at h;subst h;simp
 |2,j,h=>by simp at h;subst h;simp
 |3,j,h=>by simp at h;subst h;simp
 |i+4,j,h=>by simp at h
theorem GU(s:Spc)(n:Nat)(p q:List Int)(g:FuncId)(f:Int->Int->Bool)(tch:Nat->Nat->Bool)(hs:SpcC s n tch)(hp9:p.length<=9223372036854775807)(hq9:q.length<=9223372036854775807)(hmay:∀k j:Int,aa Tryz.prog g [.pv (Z k),.pv (Z j)] [] [] (.pv (B (f k j)))):
 aa Tryz.prog 49 [.pv (.val (.func (.func g) #[] #[])),.bx 0,.bx 1,.bx 2] [[hC s],[zs p],[zs q]] [[hC s],[zs p],[zs q]] (.pv (.tup [pd (dQ n (aZ s f) (aw s.bx q) (aw s.bx p) tch),B (bU n (aZ s f) (aw s.bx q) (aw s.bx p) tch)])):=by
 have c1:=Hz s p q g;have c2:=II s n p q g f tch hs.ok hp9 hq9 hmay hs.sym (hs.cv f);generalize dQ n (aZ s f) (aw s.bx q) (aw s.bx p) tch=L at *;generalize bU n (aZ s f) (aw s.bx q) (aw s.bx p) tch=O at *;refine qU Tryz.func49 rfl (by kernel_rfl) (by simp[Tryz.f49]) rfl (by exact N7) ?_;intro C hP hN;simp only[Tryz.f49]at hN|-;refine Gz ?_;exact λi ps h=>⟨ps,h,rfl⟩
def zg(s:Spc)(k:Nat):Bool:=decide ((bo s k).v.kind=0)&&decide (iB s k≠-1)
def nu(s:Spc)(c:List Nat):Int×Int×Int:=match c.find? (zg s)with
 |some k=>((k:Int),iB s k,3)
 |none=>(-1,-1,0)
def rd(s:Spc)(n:Nat)(p q:List Int)(tch:Nat->Nat->Bool):Int×Int×Int:=
 if bU n (aZ s qB) (aw s.bx q) (aw s.bx p) tch=true then(-1,-1,1)
 else if bU n (aZ s mK) (aw s.bx q) (aw s.bx p) tch=false then(-1,-1,2)
 else if bU n (aZ s qC) (aw s.bx q) (aw s.bx p) tch=true then nu s (dQ n (aZ s qC) (aw s.bx q) (aw s.bx p) tch)
 else if bU n (aZ s vE) (aw s.bx q) (aw s.bx p) tch=true then(-1,-1,5)
 else nu s (dQ n (aZ s mK) (aw s.bx q) (aw s.bx p) tch)
def pc(s:Spc)(c:List Nat)(i:Nat):Prop:=∀j x,j<i->c[j]?=some x->zg s x=false
theorem pc.step{c:List Nat}(h:pc s c i)(hk:c[i]?=some k)(hp:zg s k=false):pc s c (i+1):=by
 intro j x hj hx;by_cases e:j=i
 .subst e;rw[hk]at hx;injection hx with hx;subst hx;exact hp
 .exact h j x (by omega) hx
theorem Cr{c:List Nat}(h:pc s c c.length):nu s c=(-1,-1,0):=by
 have:c.find? (zg s)=none:=by
  rw[List.find?_eq_none];intro x hx;obtain⟨j,hj⟩:=List.getElem?_of_mem hx;rw[h j x (List.getElem?_eq_some_iff.1 hj).1 hj];simp
 rw[nu,this]
theorem A1{c:List Nat}(h:pc s c i)(hk:c[i]?=some k)(hp:zg s k=true):nu s c=((k:Int),iB s k,3):=by
 have:c.find? (zg s)=some k:=by
  obtain⟨hi,rfl⟩:=List.getElem?_eq_some_iff.1 hk;rw[List.find?_eq_some_iff_getElem];refine⟨hp,i,hi,rfl,λj hj=>?_⟩;have:=h j _ hj (List.getElem?_eq_getElem (by omega));rw[this];rfl
 rw[nu,this]
theorem Cs{may has:Nat->Bool}(hsym:∀i j,i<n->j<n->tch i j=tch j i):(dQ n may has hasF tch).length<=n∧∀k∈dQ n may has hasF tch,k<n:=by
 cases h:bU n may has hasF tch with
 |true=>
  obtain⟨_,b2,b3,_⟩:=xT hsym h;refine⟨b2,λk hk=>?_⟩;obtain⟨j,hj⟩:=List.getElem?_of_mem hk;exact(b3 j k hj).1
 |false=>simp[dQ,h]
theorem NP(s:Spc)(n:Nat)(p q:List Int)(tch:Nat->Nat->Bool)(hs:SpcC s n tch)(hp9:p.length<=9223372036854775807)(hq9:q.length<=9223372036854775807):aa Tryz.prog 22 [.pv (hC s),.pv (zs p),.pv (zs q)] [] [] (.pv (.tup [Z (rd s n p q tch).1,Z (rd s n p q tch).2.1,Z (rd s n p q tch).2.2])):=by
 have b0:=GU s n p q 52 qB tch hs hp9 hq9 GM;have b3:=GU s n p q 53 mK tch hs hp9 hq9 OU;have b1:=GU s n p q 54 qC tch hs hp9 hq9 lU;have b2:=GU s n p q 55 vE tch hs hp9 hq9 Kv;have m1:=Cs (n:=n) (may:=aZ s qC) (has:=aw s.bx q) (hasF:=aw s.bx p) hs.sym;have m3:=Cs (n:=n) (may:=aZ s mK) (has:=aw s.bx q) (hasF:=aw s.bx p) hs.sym
 have hG:rd s n p q tch=if bU n (aZ s qB) (aw s.bx q) (aw s.bx p) tch=true then(-1,-1,1)else if bU n (aZ s mK) (aw s.bx q) (aw s.bx p) tch=false then(-1,-1,2)else if bU n (aZ s qC) (aw s.bx q) (aw s.bx p) tch=true then nu s (dQ n (aZ s qC) (aw s.bx q) (aw s.bx p) tch)else if bU n (aZ s vE) (aw s.bx q) (aw s.bx p) tch=true then(-1,-1,5)else nu s (dQ n (aZ s mK) (aw s.bx q) (aw s.bx p) tch):=rfl
 have hcl:=hs.ok.c;have hjl:=hs.ok.j;have hn:=hs.ok.n;rw[hG];clear hG hs;generalize dQ n (aZ s qB) (aw s.bx q) (aw s.bx p) tch=C0 at *;generalize dQ n (aZ s qC) (aw s.bx q) (aw s.bx p) tch=C1 at *;generalize dQ n (aZ s vE) (aw s.bx q) (aw s.bx p) tch=C2 at *;generalize dQ n (aZ s mK) (aw s.bx q) (aw s.bx p) tch=C3 at *;generalize bU n (aZ s qB) (aw s.bx q) (aw s.bx p) tch=O0 at *;generalize bU n (aZ s qC) (aw s.bx q) (aw s.bx p) tch=O1 at *;generalize bU n (aZ s vE) (aw s.bx q) (aw s.bx p) tch=O2 at *;generalize bU n (aZ s mK) (aw s.bx q) (aw s.bx p) tch=O3 at *
 cases O0 with
 |true=>
  simp only[if_true];refine Dp Tryz.func22 ?_;intro C hP hN;simp only[Tryz.f22]at hN|-;exact Gy
 |false=>
 simp only[Bool.false_eq_true,if_false]
 cases O3 with
 |false=>
  simp only[if_true];refine Dp Tryz.func22 ?_;intro C hP hN;simp only[Tryz.f22]at hN|-;exact Gy
 |true=>
 simp only[Bool.true_eq_false,if_false]
 cases O1 with
 |true=>
  simp only[if_true];obtain⟨hlen,hmem⟩:=m1;refine Dp Tryz.func22 ?_;intro C hP hN;simp only[Tryz.f22]at hN|-;refine Gz ?_;refine WP.loopN [] (C1).length (λi st=>st.t 3=.ptr 3 0∧st.h 3=some (.box [.pv (hC s)] true false)∧st.t 47=.pv (pd (C1))∧st.t 48=.pv (Z (C1).length)∧st.t 49=.pv (Z i)∧pc s (C1) i) ?_ ?_
  .simp
   exact λj x hj=>by omega
  rintro i st hi ⟨g3,b3,g47,g48,g49,hq0⟩;by_cases hlt:i<(C1).length
  .have hlt':(i:Int)<((C1).length:Int):=by omega
   have hwr:=au hlt (by omega);generalize hke:(C1)[i]=k at *
   have hk:(C1)[i]?=some k:=by rw[List.getElem?_eq_getElem hlt,hke]
   have hkn:=hmem k (List.mem_of_getElem? hk)
   have hkc:k<s.cells.length:=by omega
   have hkj:k<s.jn.length:=by omega
   have hji:s.jn[k]?=some (iB s k):=by simp[iB,List.getElem?_eq_getElem hkj]
   have hji':∀h,s.jn[k]'h=iB s k:=λh=>aT hji h;have ck:=IE s k hkc;have hkd:zg s k=(decide ((bo s k).v.kind=0)&&decide (iB s k≠-1)):=rfl;have hyes:=A1 hq0 hk;generalize(bo s k).v.kind=kd at *;generalize iB s k=jj at *;by_cases h0:kd=0
   .have h0':(kd==0)=true:=by simp[h0]
    by_cases h1:jj=-1
    .have h1':(jj != -1)=false:=by simp[h1]
     have hst:pc s (C1) (i+1):=pc.step hq0 hk (by rw[hkd];simp[h1]);exact Gy
     all_goals exact hst
    .have h1':(jj != -1)=true:=by simp[h1]
     rw[hyes (by rw[hkd];simp[h0,h1])];exact Gy
   .have h0':(kd==0)=false:=by simp[h0]
    have hst:pc s (C1) (i+1):=pc.step hq0 hk (by rw[hkd];simp[h0]);exact Gy
    all_goals exact hst
  .have hin:i=(C1).length:=by omega
   subst hin;rw[Cr hq0];exact Gy
 |false=>
 simp only[Bool.false_eq_true,if_false]
 cases O2 with
 |true=>
  simp only[if_true];refine Dp Tryz.func22 ?_;intro C hP hN;simp only[Tryz.f22]at hN|-;exact Gy
 |false=>
  simp only[Bool.false_eq_true,if_false];obtain⟨hlen,hmem⟩:=m3;refine Dp Tryz.func22 ?_;intro C hP hN;simp only[Tryz.f22]at hN|-;refine Gz ?_;refine WP.loopN [] (C3).length (λi st=>st.t 3=.ptr 3 0∧st.h 3=some (.box [.pv (hC s)] true false)∧st.t 47=.pv (pd (C3))∧st.t 48=.pv (Z (C3).length)∧st.t 49=.pv (Z i)∧pc s (C3) i) ?_ ?_
  .simp
   exact λj x hj=>by omega
  rintro i st hi ⟨g3,b3,g47,g48,g49,hq0⟩;by_cases hlt:i<(C3).length
  .have hlt':(i:Int)<((C3).length:Int):=by omega
   have hwr:=au hlt (by omega);generalize hke:(C3)[i]=k at *
   have hk:(C3)[i]?=some k:=by rw[List.getElem?_eq_getElem hlt,hke]
   have hkn:=hmem k (List.mem_of_getElem? hk)
   have hkc:k<s.cells.length:=by omega
   have hkj:k<s.jn.length:=by omega
   have hji:s.jn[k]?=some (iB s k):=by simp[iB,List.getElem?_eq_getElem hkj]
   have hji':∀h,s.jn[k]'h=iB s k:=λh=>aT hji h;have ck:=IE s k hkc;have hkd:zg s k=(decide ((bo s k).v.kind=0)&&decide (iB s k≠-1)):=rfl;have hyes:=A1 hq0 hk;generalize(bo s k).v.kind=kd at *;generalize iB s k=jj at *;by_cases h0:kd=0
   .have h0':(kd==0)=true:=by simp[h0]
    by_cases h1:jj=-1
    .have h1':(jj != -1)=false:=by simp[h1]
     have hst:pc s (C3) (i+1):=pc.step hq0 hk (by rw[hkd];simp[h1]);exact Gy
     all_goals exact hst
    .have h1':(jj != -1)=true:=by simp[h1]
     rw[hyes (by rw[hkd];simp[h0,h1])];exact Gy
   .have h0':(kd==0)=false:=by simp[h0]
    have hst:pc s (C3) (i+1):=pc.step hq0 hk (by rw[hkd];simp[h0]);exact Gy
    all_goals exact hst
  .have hin:i=(C3).length:=by omega
   subst hin;rw[Cr hq0];exact Gy
def k9{α β:Type}(f:α->Option β):List α->Option (List β)
 |[]=>some []
 |x::r=>match f x,k9 f r with
  |some y,some ys=>some (y::ys)
  |_,_=>none
theorem rA{α β:Type}{f:α->Option β}:∀{l:List α}{r:List β},k9 f l=some r->l.length=r.length∧∀(i:Nat) y,r[i]?=some y->∃x,l[i]?=some x∧f x=some y
 |[],r,h=>by simp only[k9]at h;injection h with h;subst h;exact⟨rfl,λi y hy=>by simp at hy⟩
 |x::l,r,h=>by
  simp only[k9]at h;split at h
  .rename_i y ys h1 h2
   injection h with h;subst h;obtain⟨g1,g2⟩:=rA h2;refine⟨by simp[g1],λi z hz=>?_⟩
   cases i with
   |zero=>simp at hz;subst hz;exact⟨x,rfl,h1⟩
   |succ i=>simpa using g2 i z (by simpa using hz)
  .cases h
theorem B9{α β:Type}{f:α->Option β}:∀{l:List α}{r:List β},l.length=r.length->(∀(i:Nat) x y,l[i]?=some x->r[i]?=some y->f x=some y)->k9 f l=some r
 |[],[],_,_=>rfl
 |[],_::_,h,_=>by simp at h
 |_::_,[],h,_=>by simp at h
 |x::l,y::r,h,hh=>by
  have h1:=hh 0 x y rfl rfl;have h2:=B9 (f:=f) (l:=l) (r:=r) (by simpa using h) (λi a b ha hb=>hh (i+1) a b (by simpa using ha) (by simpa using hb));simp only[k9,h1,h2]
def HY:PV->Bool
 |.sl _=>true
 |_=>false
def fS(h:Hp):Nat->AV->Option PV
 |_,.pv p=>some p
 |0,_=>none
 |_+1,.arr k n=>if inK k=true then match h k with
  |some (.row _ _ xs _)=>if xs.length=n then some (.sl xs)else none
  |_=>none else none
 |d+1,.ext (.barr k n _)=>if inK k=true then match h k with
  |some (.box cs _ _)=>match k9 (fS h d) (cs.take n)with
   |some ps=>if ps.length=n∧ps.all HY=true then some (.sl ps)else none
   |none=>none
  |_=>none else none
 |d+1,.ptr k off=>if inK k=true then match h k with
  |some (.box cs _ _)=>match k9 (fS h d) cs with
   |some ps=>some (.rptr (.agg ps) off)
   |none=>none
  |_=>none else none
 |_+1,_=>none
def mC(h:Hp):Hp:=λk=>if inK k=true then none else h k
def KJ:Blk->Bool
 |.box _ o _=>o
 |.row _ _ _ _=>true
 |.mp _ _ _ _=>false
def qq(h:Hp):Prop:=∀k blk,inK k=true->h k=some blk->KJ blk=true
section
variable {C:Cx} {L:Nat->Loc} {h:Hp} {w:World}
theorem yR{b:Blk}(e:mC h k=some b):inK k=false∧h k=some b:=by
 unfold mC at e;split at e
 .cases e
 .rename_i hi;exact⟨by simpa using hi,e⟩
theorem rB{b o:Nat}(h9:ag C L (mC h) b o):ag C L h b o:=by
 rcases h9 with h9|⟨k,blk,hk,hl,hb,hf⟩
 .exact .inl h9
 .exact .inr ⟨k,blk,(yR hk).2,hl,hb,hf⟩
theorem vj(hm:MemL C L h w)(hl:qq h){blk:Blk}(hi:inK k=true)(hk:h k=some blk)(hv:blk.live (L k))(o:Nat):¬ag C L (mC h) (L k).b o:=by
 rintro(h9|⟨k',b',h1,h2,h3,_⟩)
 .have hm0:=hm.m0 _ _ h9
  have ho:=hm.own k _ hk
  have h8:C.w0.heap.size<=(L k).b∨(C.S (L k).b∧∀o,¬C.M0 (L k).b o):=by
   have hb:=hl k blk hi hk
   cases blk with
   |box cs own f=>
    have hb:own=true:=hb;subst hb;exact ho
   |row e sz xs f=>exact ho.row hv
   |mp=>cases hb
  rcases h8 with h8|h8
  .omega
  .exact h8.2 o h9
 .obtain⟨i1,g1⟩:=yR h1
  exact hm.sep k' k b' blk (λe=>by rw[e,hi]at i1;cases i1) g1 hk h2 hv h3
theorem G9(hm:MemL C L h w)(hl:qq h){xs:List PV}(hi:inK k=true)(hk:h k=some (.row e sz xs fz)):Rep w (ag C L (mC h)) (.sl xs) ((L k).slice xs.length):=by
 obtain⟨g1,g2,g3,g4,g5⟩:=hm.bl k _ hk
 cases hn:(L k).isNil with
 |true=>
  have:=g4 hn;subst this;simp only[Loc.slice,hn,if_true];exact .sl0 _ _
 |false=>
  obtain⟨a1,a2,arr,a3,a4,a5⟩:=g5 hn;simp only[Loc.slice,hn,Bool.false_eq_true,if_false];refine .sl xs (L k).b 0 (L k).cap sz (λi j=>(arr[i*sz+j]?).getD default) a1 (λi x hx=>g3 x (List.mem_of_getElem? hx)) (λi x j p hx hj=>?_) (λi x j p hx hj=>?_)
  .obtain⟨u,hu,_⟩:=a5 i x j p hx hj
   refine⟨?_,vj hm hl hi hk hn _⟩;rw[dI a3,Nat.zero_add,hu];rfl
  .obtain⟨u,hu,hr⟩:=a5 i x j p hx hj
   rw[hu];exact hr.mono (Pres.sub λ_ _=>rB)
theorem Ca(hm:MemL C L h w)(hl:qq h):∀(d:Nat){x:AV}{p:PV}{u:Value},fS h d x=some p->RepA w (ag C L h) L h x u->Rep w (ag C L (mC h)) p u:=by
 have base:∀{q p:PV}{u:Value},some q=some p->RepA w (ag C L h) L h (.pv q) u->Rep w (ag C L (mC h)) p u:=by
  intro q p u e hr;injection e with e;subst e
  cases hr with
  |pv hr=>exact hr.mono (Pres.sub λ_ _=>rB)
 intro d
 induction d with
 |zero=>
  intro x p u hc hr
  cases x with
  |pv q=>exact base (by simpa only[fS]using hc) hr
  |_=>simp[fS]at hc
 |succ d ih=>
  intro x p u hc hr
  cases x with
  |pv q=>exact base (by simpa only[fS]using hc) hr
  |arr k n=>
   simp only[fS]at hc;split at hc
   .rename_i hi
    split at hc
    .rename_i e sz xs fz hk
     split at hc
     .rename_i hn
      injection hc with hc;subst hc
      cases hr with
      |arr hk2 hn2 hu=>
       rw[hk]at hk2;injection hk2 with hk2;injection hk2 with _ _ a3 _;subst a3;rw[hu hn,<-hn];exact G9 hm hl hi hk
     .cases hc
    .cases hc
   .cases hc
  |ptr k off=>
   simp only[fS]at hc;split at hc
   .rename_i hi
    split at hc
    .rename_i cs own fz hk
     split at hc
     .rename_i ps hps
      injection hc with hc;subst hc;obtain⟨m1,m2⟩:=rA hps
      cases hr with
      |ptr hk2=>
       obtain⟨arr,ty,a3,a4⟩:=hm.bl k _ hk;have hn:=vj hm hl hi hk trivial
       have hel:∀(j:Nat) q,ps[j]?=some q->∃v,arr[j]?=some v∧Rep w (ag C L (mC h)) q v:=by
        intro j q hq;obtain⟨x,hx,hcx⟩:=m2 j q hq
        have hjl:j<arr.toList.length:=by rw[<-a4.1];exact(List.getElem?_eq_some_iff.1 hx).1
        have hv:arr.toList[j]?=some (arr.toList[j]):=List.getElem?_eq_getElem hjl;exact⟨arr.toList[j],by rw[<-Array.getElem?_toList];exact hv,ih hcx (a4.2 j x _ hx hv)⟩
       have:=Rep.rptr (w:=w) (M:=ag C L (mC h)) (.agg ps) (L k).b 0 off (λj=>(arr[j]?).getD default) (λj q hq=>?_) (λj q hq=>?_)
       .rw[Nat.zero_add]at this;exact this
       .obtain⟨v,hv,_⟩:=hel j q hq
        refine⟨?_,hn _⟩;rw[Nat.zero_add,dI a3,hv];rfl
       .obtain⟨v,hv,hr⟩:=hel j q hq
        rw[hv];exact hr
     .cases hc
    .cases hc
   .cases hc
  |ext x=>
   cases x with
   |barr k n c=>
    simp only[fS]at hc;split at hc
    .rename_i hi
     split at hc
     .rename_i cs own fz hk
      split at hc
      .rename_i ps hps
       split at hc
       .rename_i hal
        injection hc with hc;subst hc;obtain⟨hpl,hal⟩:=hal;obtain⟨m1,m2⟩:=rA hps
        have hone:∀q∈ps,q.cells=[q]:=by
         intro q hq;have:=List.all_eq_true.1 hal q hq
         cases q<;>first|rfl|cases this
        cases hr with
        |ext hx'=>
         cases hx' with
         |barr hnc hk2=>
          obtain⟨arr,ty,a3,a4⟩:=hm.bl k _ hk;have hn:=vj hm hl hi hk trivial
          have hel:∀(j:Nat) q,ps[j]?=some q->∃v,arr[j]?=some v∧Rep w (ag C L (mC h)) q v:=by
           intro j q hq;obtain⟨x,hx,hcx⟩:=m2 j q hq
           have hx:cs[j]?=some x:=by
            rw[List.getElem?_take]at hx;split at hx
            .exact hx
            .cases hx
           have hjl:j<arr.toList.length:=by rw[<-a4.1];exact(List.getElem?_eq_some_iff.1 hx).1
           have hv:arr.toList[j]?=some (arr.toList[j]):=List.getElem?_eq_getElem hjl;exact⟨arr.toList[j],by rw[<-Array.getElem?_toList];exact hv,ih hcx (a4.2 j x _ hx hv)⟩
          rw[<-hpl]
          have aux:∀{i j:Nat}{q r:PV},ps[i]?=some q->q.cells[j]?=some r->j=0∧r=q:=by
           intro i j q r hq hr;rw[hone q (List.mem_of_getElem? hq)]at hr
           cases j with
           |zero=>simp at hr;exact⟨rfl,hr.symm⟩
           |succ j=>simp at hr
          refine .sl ps (L k).b 0 c 1 (λi _=>(arr[i]?).getD default) (by omega) (λi q hq=>by rw[hone q (List.mem_of_getElem? hq)];rfl) (λi q j r hq hr=>?_) (λi q j r hq hr=>?_)
          .obtain⟨rfl,rfl⟩:=aux hq hr
           obtain⟨v,hv,_⟩:=hel i _ hq;refine⟨?_,hn _⟩;rw[show 0+(i*1+0)=i by omega,dI a3,hv];rfl
          .obtain⟨rfl,rfl⟩:=aux hq hr
           obtain⟨v,hv,hr⟩:=hel i _ hq;rw[hv];exact hr
       .cases hc
      .cases hc
     .cases hc
    .cases hc
   |_=>simp[fS]at hc
  |_=>simp[fS]at hc
def GA(C:Cx)(Q:St->Prop)(f:Operand)(xs:List Operand)(d:Option Nat)(st:St):Prop:=
 ∃g ps res,bC (st.ev f)=some (g,[],[])∧qq st.h∧k9 (fS st.h 3) (xs.map st.ev)=some ps∧aa C.P g (ps.map .pv) [] [] (.pv res)∧oD res=true∧bX C.N d=true∧Q (st.put d (.pv res) [])
theorem WP.lend{id:Nat}{pre post:List Oper}(hops:ops.toList=pre++o::post)(hop:o.op=.call {callee:=.value f,args:=xs.toArray,argTypes:=ats})(hg:o.guard=none)
 (hq:cU C.P hn C.N ops (GA C (cU C.P hn C.N ops (Q .normal) post) f xs o.dst) pre st):WP C (.region id ops false) Q st:=by
 intro a w hs;refine wp_region_list ?_;rw[hops];refine gt (λst1 a1 w1 hs1 hq1=>?_) hs hq;obtain⟨g,ps,res,hce,hlo,hps,⟨hcall,_,hD⟩,hml,hdN,hQ⟩:=hq1;obtain⟨L,hm,hN,hdf,ht⟩:=hs1;refine wpList_step (λK hK=>?_);rw[fO hg,if_pos rfl];obtain⟨vs,us,hfv,hv1,hv2⟩:=gO (cD ht f) hce;have hvs:=hv1.nil_inv;have hus:=hv2.nil_inv;subst hvs;subst hus;obtain⟨m1,m2⟩:=rA hps
 have hcalls:=hD w1 (ag C L (mC st1.h)) [] (xs.map a1.eval) (λb o h9=>hm.mlt (rB h9)) rfl List.nodup_nil (λi b ps h9=>by simp at h9) (by simp only[List.length_map]at m1|-;omega) (by
  intro i x v hx hv;simp only[List.getElem?_map,Option.map_eq_some_iff]at hx hv;obtain⟨p,hp,rfl⟩:=hx;obtain⟨y,hy,rfl⟩:=hv;obtain⟨z,hz,hc⟩:=m2 i p hp;simp only[List.getElem?_map,Option.map_eq_some_iff]at hz;obtain⟨y',hy',rfl⟩:=hz;rw[hy]at hy';injection hy' with hy';subst hy'
  exact Ca hm hlo 3 hc (cD ht y))
 have hrun:(execOp a1.eval o).run C.P w1=.ok (.enter g (xs.map a1.eval).toArray) w1:=by
  unfold bZ at hcall
  cases hfn:C.P.funcs[g]? with
  |none=>rw[hfn]at hcall;cases hcall
  |some fn=>
   rw[hfn]at hcall;simp only[Bool.and_eq_true,Bool.not_eq_true',beq_eq_false_iff_ne,ne_eq]at hcall
   have hb:fn.body.isNone=false:=by cases hbb:fn.body<;>simp_all
   unfold execOp;rw[hop];simp only[resolve,hfv,Deferred.ofValue,pure_bind,Sem.run_bind,Result.andThen_ok,invoke,callFunc,program,Sem.run,hfn];simp[hcall.2,hb]
 unfold Oper.wp;rw[hrun];simp only[Oper.upon];refine hcalls.mono ?_;rintro ee w' ⟨v,rfl,hx,_,hr⟩;have hx':Ext (λ_=>False) w1 w':=⟨hx.os,hx.tape,hx.output,hx.size,λb' hb' _=>hx.block b' hb' (by simp)⟩;obtain⟨g1,g2⟩:=hm.grow hx';refine hK _ _ ?_;exact gF (λst' a' w' hs' hq'=>⟨st',hs',hq'⟩) (eO.put hm hN hdf ht hdN (W:=[]) ⟨g1,g2,KC.refl _ _⟩ (.pv (mW hml hr))) hQ
theorem WP.lendAt{id:Nat}(n:Nat)(ho:ops.toList[n]?=some o)(hop:o.op=.call {callee:=.value f,args:=xs.toArray,argTypes:=ats})(hg:o.guard=none)
 (hq:cU C.P hn C.N ops (GA C (cU C.P hn C.N ops (Q .normal) (ops.toList.drop (n+1))) f xs o.dst) (ops.toList.take n) st):WP C (.region id ops false) Q st:=by
 refine WP.lend (pre:=ops.toList.take n) (post:=ops.toList.drop (n+1)) (o:=o) ?_ hop hg hq;have hlt:=(List.getElem?_eq_some_iff.1 ho).1;have he:=(List.getElem?_eq_some_iff.1 ho).2;rw[<-he,List.getElem_cons_drop,List.take_append_drop]
end
theorem WP.of_st{c:Code}{P:St->Prop}(h:P st∧∀st,P st->WP C c Q st):WP C c Q st:=h.2 st h.1
theorem CA{own:Bool}(hl:s.near.length<=4096)(hH:∀k,inK k=true->h k=aM own s c k):fh h=aM false s c:=by
 funext k
 unfold fh;by_cases hk:inK k=true
 .rw[if_pos hk,hH k hk]
  split
  .rename_i e;subst e;rfl
  .rename_i e;unfold aM;rw[if_neg e,if_neg e]
 .rw[if_neg hk]
  cases hh:aM false s c k with
  |none=>rfl
  |some b=>exact absurd ((lg hl).keys k b hh) hk
theorem FR{own:Bool}{cs:List AV}{f:Bool}(h:aM own s c k=some (.box cs false f)):k=290:=by
 cases own with
 |false=>exact Cy h
 |true=>
  unfold aM at h;split at h
  .assumption
  .exfalso
   repeat' split at h
   all_goals first|(injection h with h;injection h;done)|cases h
theorem A6{own:Bool}(hl:s.near.length<=4096)(hH:∀k,inK k=true->h k=aM own s c k):InOk h:=by
 have hL:LookH (aM own s c):=lg hl
 exact⟨λk b o hk hb=>hL.nf k b o (by rw[<-hH k hk];exact hb),λk b hk hb=>hL.nm k b (by rw[<-hH k hk];exact hb),λk cs o f hk hb=>hL.cl k cs o f (by rw[<-hH k hk];exact hb),λk cs f hk hb=>FR (own:=own) (s:=s) (c:=c) (by rw[<-hH k hk];exact hb),λb hb=>by
  rw[hH 290 rfl]at hb
  exact⟨_,_,_,(Option.some.inj hb).symm⟩⟩
theorem A7{own:Bool}{s':Spc}{c':Nat}(hH:∀k,inK k=true->h k=aM own s c k)(hk:inK k=true):dX h (aM false s' c') k=aM own s' c' k:=by
 unfold dX;rw[if_pos hk];split
 .rename_i e;subst e
  have:jA h 290=own:=by simp only[jA,hH 290 rfl];rfl
  rw[this];rfl
 .rename_i e;unfold aM;rw[if_neg e,if_neg e]
theorem fJ(own:Bool)(s:Spc)(c k:Nat):(aM own s c k).map (bm [])=aM own s c k:=by
 have hid:(fZ s.near++List.replicate c cL).map (aq [])=fZ s.near++List.replicate c cL:=by
  refine(List.map_congr_left (g:=id) λx hx=>?_).trans (List.map_id _);rcases List.mem_append.1 hx with hx|hx
  .simp only[fZ,List.mem_map,List.mem_range]at hx
   obtain⟨v,hv,rfl⟩:=hx;simp[aq,aQ,ax]
  .rw[(List.mem_replicate.1 hx).2]
   simp[aq,aQ,ax]
 have hce:aq [] (jW s)=jW s:=by unfold aq;rw[A5 rfl];rfl
 unfold aM;split
 .show some (Blk.box _ own false)=_
  simp only[List.map_cons,List.map_nil,hce];simp[aq,aQ,ax]
 .split
  .split<;>rfl
  .split
   .rfl
   .split
    .simp only[Option.map_some,bm,hid]
    .split
     .rfl
     .split<;>rfl
theorem EL{own:Bool}{d:Nat}(hk:k≠293)(hd:295<=d):(aM own s c k).map (bm [d])=aM own s c k:=by
 have hce:aQ [d] (jW s)=false:=A5 (by simp;omega);unfold aM;rw[if_neg hk];split
 .have h1:∀x,aQ [d] x=false->aq [d] x=x:=λx h=>by unfold aq;rw[h];rfl
  show some (Blk.box [aq [d] _,aq [d] _,aq [d] _,aq [d] _,aq [d] _] own false)=_;rw[h1 (.pv _) rfl,h1 _ hce,h1 (.arr 292 _) (by simp[aQ,ax];omega),h1 (.ext _) (by simp[aQ,ax,XV.key];omega),h1 (.arr 294 _) (by simp[aQ,ax];omega)]
 .repeat' split
  all_goals rfl
theorem CB{own:Bool}(hn:s.near.length<=4096)(hH:∀k,inK k=true->h k=aM own s c k):fS h 3 (.ptr 290 0)=some (hC s):=by
 have e0:=(hH 290 rfl).trans (lx own s c);have e2:=(hH 292 rfl).trans (oJ own s c);have e3:=(hH 293 rfl).trans (mL own s c);have e4:=(hH 294 rfl).trans (rf own s c)
 have c2:fS h 2 (jW s)=some (.sl (s.cells.map aW)):=by
  cases hc:s.cc with
  |true=>rw[JY hc];rfl
  |false=>
   have e1:=(hH 291 rfl).trans (oI own s c hc);rw[p8 hc];simp[fS,inK,e1]
 have c3:fS h 2 (.arr 292 s.bx.length)=some (.sl (s.bx.map iv)):=by simp[fS,inK,e2]
 have c5:fS h 2 (.arr 294 s.jn.length)=some (.sl (s.jn.map Z)):=by simp[fS,inK,e4]
 have c4:fS h 2 (.ext (.barr 293 s.near.length (s.near.length+c)))=some (.sl (s.near.map pd)):=by
  have ht:(fZ s.near++List.replicate c cL).take s.near.length=fZ s.near:=by
   rw[List.take_append_of_le_length (by rw[bL];omega),List.take_of_length_le (by rw[bL];omega)]
  have hm:k9 (fS h 1) (fZ s.near)=some (s.near.map pd):=by
   refine B9 (by simp[bL]) λi x y hx hy=>?_
   have hi:i<s.near.length:=by
    have:=(List.getElem?_eq_some_iff.1 hx).1
    rwa [bL]at this
   rw[jX hi]at hx;injection hx with hx;subst hx;simp only[List.getElem?_map,Option.map_eq_some_iff]at hy;obtain⟨z,hz,rfl⟩:=hy
   have hk:inK (i+300)=true:=by simp[inK];omega
   have er:=(hH (i+300) hk).trans (gh hi);simp[fS,hk,er,ae,hz]
  simp only[fS,inK,e3];rw[ht,hm];simp[HY]
 have hmm:k9 (fS h 2) [.pv (iv s.root),jW s,.arr 292 s.bx.length,.ext (.barr 293 s.near.length (s.near.length+c)),.arr 294 s.jn.length]=some [iv s.root,.sl (s.cells.map aW),.sl (s.bx.map iv),.sl (s.near.map pd),.sl (s.jn.map Z)]:=by
  simp only[k9,c2,c3,c4,c5];rfl
 show(if inK 290=true then _ else _)=_;rw[if_pos (show inK 290=true from rfl),e0];simp only[hmm]
theorem A8(hH:∀k,inK k=true->h k=aM true s c k):qq h:=by
 intro k blk hk hb;rw[hH k hk]at hb;unfold aM at hb
 repeat' split at hb
 all_goals first|(cases hb;rfl)|cases hb
theorem se{Q:St->Prop}{d:Option Nat}{own:Bool}{a b:Nat}(hP:C.P=Tryz.prog)(hcal:bC (st.ev f)=some (47,[],[]))(hargs:xs.map st.ev=[.ptr 290 0,.pv (Z a),.pv (Z b)])(hH:∀k,inK k=true->st.h k=aM own s c k)
 (hn:s.near.length<=4096)(ha:a<s.near.length)(hb:b<s.near.length)(hab:a≠b)(hbx:s.bx.length=s.near.length)(hbl:∀x∈s.bx,x.length<=9223372036854775807)(hnl:∀v,(ae s v).length<=4096)(hd:bX C.N d=true)
 (h:∀r h',(∀k,inK k=true->h' k=aM own (dP s a b) c k)->(∀k,inK k=false->h' k=(st.h k).map fR)->Q (St.put ⟨λn=>dO (st.t n),h'⟩ d r [])):nX C Q f xs d st:=by
 refine⟨_,λ_ h'=>h'=aM false (dP s a b) c,hcal,A6 hn hH,?_,by rw[hargs];rfl,hd,λr h' hL ho hp=>?_⟩
 .rw[hargs,CA hn hH,hP]
  exact LD s c a b hn ha hb hab hbx hbl hnl
 .have hp:h'=_:=hp
  subst hp;exact h r _ (λk hk=>A7 hH hk) (λk hk=>by unfold dX;rw[if_neg (by rw[hk];decide)])
theorem A9(hH:∀k,inK k=true->h k=none):fh h=iX:=by
 funext k
 unfold fh;by_cases hk:inK k=true
 .rw[if_pos hk,hH k hk];split<;>rfl
 .rw[if_neg hk];rfl
theorem zl(hH:∀k,inK k=true->h k=none):InOk h:=
 ⟨λk b o hk hb=>(by rw[hH k hk]at hb;cases hb),λk b hk hb=>(by rw[hH k hk]at hb;cases hb),λk cs o f hk hb=>(by rw[hH k hk]at hb;cases hb),λk cs f hk hb=>(by rw[hH k hk]at hb;cases hb),λb hb=>(by rw[hH 290 rfl]at hb;cases hb)⟩
abbrev kR(n:Nat):PV:=Z (n:Int)
def eG(t:Tr):List (PV×PV):=(aD t).map λi=>(kR i,iv (dU t (i:Int)))
def sA(a:Act):Nat:=match a.tmps.getD 14 undef with
 |.int _ v=>v.toNat
 |_=>0
def tL(l:Nat)(t:Tr)(i:Nat):Nat->AV:=λm=>if m=0 then .pv (.val (.func (.yield l) #[] #[]))else if m=1 then .pv (.rptr (da t) 0)else if m=12 then .pv (.sl ((ao t).map iv))else if m=13 then .pv (Z (ao t).length)else if m=14 then .pv (Z i)else .undef
def em(l:Nat)(t:Tr)(i:Nat)(st:St):Prop:=st.t 0=.pv (.val (.func (.yield l) #[] #[]))∧st.t 1=.pv (.rptr (da t) 0)∧st.t 12=.pv (.sl ((ao t).map iv))∧st.t 13=.pv (Z (ao t).length)∧st.t 14=.pv (Z i)
def tX(l:Nat)(t:Tr)(i:Nat)(x y:Nat)(p q:PV):Nat->AV:=λm=>if m=x then .pv p else if m=y then .pv q else tL l t i m
theorem tV{a:Act}(h:dL 33 M (bk st.t) a w)(hk:em l t i st):dL 33 M (tL l t i) a w:=h.sub (λm=>by
 obtain⟨k0,k1,k12,k13,k14⟩:=hk;unfold tL;by_cases m0:m=0
 .subst m0;right;simp[bk,k0]
 by_cases m1:m=1
 .subst m1;right;simp[bk,k1]
 by_cases m12:m=12
 .subst m12;right;simp[bk,k12]
 by_cases m13:m=13
 .subst m13;right;simp[bk,k13]
 by_cases m14:m=14
 .subst m14;right;simp[bk,k14]
 .left;simp[m0,m1,m12,m13,m14])
theorem sB{x y:Nat}{a:Act}(h:dL 33 M (bk st.t) a w)(hk:em l t i st)(hx:st.t x=.pv p)(hy:st.t y=.pv q):dL 33 M (tX l t i x y p q) a w:=by
 have h2:=tV h hk;refine⟨h.1,λm=>?_⟩;unfold tX;split
 .rename_i e;subst e
  have:=h.2 m;simp only[bk,hx]at this;exact this
 .split
  .rename_i e;subst e
   have:=h.2 m;simp only[bk,hy]at this;exact this
  .exact h2.2 m
theorem Ke{x y:Nat}{tt:Nat->AV}{a:Act}(h:dL 33 M tt a w)(k0:tt 0=.pv (.val (.func (.yield l) #[] #[])))(k1:tt 1=.pv (.rptr (da t) 0))(k12:tt 12=.pv (.sl ((ao t).map iv)))(k13:tt 13=.pv (Z (ao t).length))(k14:tt 14=.pv (Z i))(hx:tt x=.pv p)(hy:tt y=.pv q):dL 33 M (tX l t i x y p q) a w:=h.sub (λm=>by
 unfold tX tL;by_cases mx:m=x
 .subst mx;right;simp[hx]
 by_cases my:m=y
 .subst my;right;simp[mx,hy]
 by_cases m0:m=0
 .subst m0;right;simp[k0,mx,my]
 by_cases m1:m=1
 .subst m1;right;simp[k1,mx,my]
 by_cases m12:m=12
 .subst m12;right;simp[k12,mx,my]
 by_cases m13:m=13
 .subst m13;right;simp[k13,mx,my]
 by_cases m14:m=14
 .subst m14;right;simp[k14,mx,my]
 .left;simp[m0,m1,m12,m13,m14,mx,my])
theorem vf{t:Tr}{i:Nat}(hlf:dZ t i=true):∀{n:Nat},i<n->(cT t n)[(cT t i).length]?=some i
 |0,h=>by omega
 |n+1,h=>by
  rw[pK];by_cases e:i=n
  .subst e
   rw[if_pos hlf];simp
  .have ih:=vf hlf (n:=n) (by omega)
   have hlt:=(List.getElem?_eq_some_iff.1 ih).1;split
   .rw[List.getElem?_append_left hlt];exact ih
   .exact ih
theorem dL.put{t:Nat->AV}{a:Act}(h:dL N M t a w){d:Nat}(hd:d<N){v:Value}(hv:Rep w M p v):dL N M (ah t d (.pv p)) (a.put (some d) v) w:=by
 have hd':d<a.tmps.size:=by rw[h.1];exact hd
 refine⟨by simpa[Act.put]using h.1,λm=>?_⟩;rw[oW hd'];simp only[ah];split
 .exact .inr ⟨p,rfl,hv⟩
 .exact h.2 m
theorem HW{fn:Func}(h:fn.results=#[])(tmps:Array Value)(P:Program)(w:World):(results fn tmps).run P w=.ok (.tuple #[]) w:=by
 unfold results;rw[h];simp[go_sem]
theorem mQ{t:Nat->AV}{a:Act}(h:dL N M t a w){m:Nat}{v:Value}(e:t m=.pv (.val v)):a.tmps.getD m undef=v:=by
 rcases h.2 m with e'|⟨p,e',hr⟩
 .rw[e]at e';cases e'
 .rw[e]at e';injection e' with e';subst e'
  exact aJ hr
theorem BK{t:Nat->AV}{a:Act}(h:dL N M t a w){m:Nat}(e:t m=.pv p):Rep w M p (a.tmps.getD m undef):=by
 rcases h.2 m with e'|⟨p',e',hr⟩
 .rw[e]at e';cases e'
 .rw[e]at e';injection e' with e';subst e'
  exact hr
set_option maxRecDepth 100000 in
theorem Kd(t:Tr)(hl:t.cells.length<=9223372036854775807):Di Tryz.prog 119 [.rptr (da t) 0] (eG t):=by
 refine⟨by kernel_rfl,λn l lb W M J hJb hJg hY h0 hcap=>?_⟩
 obtain⟨v1,rfl⟩:∃v,lb=[v]:=by
  have:=hcap.1
  cases lb with
  |nil=>simp at this
  |cons v r=>cases r with
   |nil=>exact⟨v,rfl⟩
   |cons=>simp at this
 have hrep1:Rep W M (.rptr (da t) 0) v1:=hcap.2 0 _ _ rfl rfl;have hF:=eV;have cb:=IJ t hl;refine callsIn_of_wp_marks Tryz.func119 rfl trivial ?_ rfl
 have H0:dL 33 M (λm=>if m=0 then .pv (.val (.func (.yield l) #[] #[]))else if m=1 then .pv (.rptr (da t) 0)else .undef) {tmps:=((#[Value.func (.yield l) #[] #[]]:Array Value)++[v1].toArray)++Array.replicate (Tryz.f119.ntmps-((#[Value.func (.yield l) #[] #[]]:Array Value)++[v1].toArray).size) undef,defers:=[]} W:=by
  refine⟨by rw[Tryz.ntmps119];simp,λm=>?_⟩;by_cases m0:m=0
  .subst m0;exact .inr ⟨_,rfl,by simp;exact .val _⟩
  .by_cases m1:m=1
   .subst m1;exact .inr ⟨_,rfl,by simpa using hrep1⟩
   .left;simp[m0,m1]
 refine wpIn_seq (wpIn_mono (H0.step (hJb 0 M W h0) (Q:=λe st'=>e=.normal∧st'.t 0=.pv (.val (.func (.yield l) #[] #[]))∧st'.t 1=.pv (.rptr (da t) 0)∧st'.t 3=.pv (.sl ((ao t).map iv))) (λC hP hN=>?_)) ?_)
 .skip
  repeat' (first
   |with_reducible refine af.seq ?_
   |(with_reducible ((first|refine af.region hF (hn:=[]) (by kernel_rfl) ?_|refine bh (cb) ?_|refine af.cond' ?_);simp -implicitDefEqProofs (maxSteps:=2000000) [hP,hN]))
   |(with_reducible refine aO (by simp) (λhgd=>?_) (λhgd=>?_)<;>first|(exfalso;simp at hgd;done)|(exfalso;simp at hgd;omega)|simp -implicitDefEqProofs (maxSteps:=2000000) [hP,hN])
   |with_reducible refine aE ?_ ?_
   |(with_reducible refine av (λhcd=>?_) (λhcd=>?_)<;>(try (exfalso;clear hP hN;simp_all;done))<;>(try (exfalso;simp at *;omega)))
   |with_reducible refine af.block ?_
   |(with_reducible ((first|refine af.skip ?_|refine af.exit ?_|refine af.ret ?_);simp)))
 rintro e a1 w1 ⟨st1,⟨rfl,g0,g1,g3⟩,H1,hx1,hd1⟩;have hJ1:=hJg 0 M W w1 h0 hx1
 have H1':dL 33 M (λm=>if m=0 then .pv (.val (.func (.yield l) #[] #[]))else if m=1 then .pv (.rptr (da t) 0)else if m=3 then .pv (.sl ((ao t).map iv))else .undef) a1 w1:=H1.sub (λm=>by
  by_cases m0:m=0
  .subst m0;right;simp[bk,g0]
  .by_cases m1:m=1
   .subst m1;right;simp[bk,g1]
   .by_cases m3:m=3
    .subst m3;right;simp[bk,g3]
    .left;simp[m0,m1,m3])
 show Code.wpIn Fence.wide n Tryz.prog _ _ a1 w1;refine wpIn_seq (wpIn_mono (H1'.step (hJb 0 M w1 hJ1) (Q:=λe st'=>e=.normal∧st'.t 0=.pv (.val (.func (.yield l) #[] #[]))∧st'.t 1=.pv (.rptr (da t) 0)∧st'.t 12=.pv (.sl ((ao t).map iv))∧st'.t 13=.pv (Z (ao t).length)∧st'.t 14=.pv (Z 0)) (λC hP hN=>?_)) ?_)
 .skip
  repeat' (first
   |with_reducible refine af.seq ?_
   |(with_reducible ((first|refine af.region hF (hn:=[]) (by kernel_rfl) ?_|refine af.cond' ?_);simp -implicitDefEqProofs (maxSteps:=2000000) [hP,hN]))
   |(with_reducible refine aO (by simp) (λhgd=>?_) (λhgd=>?_)<;>first|(exfalso;simp at hgd;done)|(exfalso;simp at hgd;omega)|simp -implicitDefEqProofs (maxSteps:=2000000) [hP,hN])
   |with_reducible refine aE ?_ ?_
   |(with_reducible refine av (λhcd=>?_) (λhcd=>?_)<;>(try (exfalso;clear hP hN;simp_all;done))<;>(try (exfalso;simp at *;omega)))
   |with_reducible refine af.block ?_
   |(with_reducible ((first|refine af.skip ?_|refine af.exit ?_|refine af.ret ?_);simp)))
 rintro e a2 w2 ⟨st2,⟨rfl,k0,k1,k12,k13,k14⟩,H2,hx2,hd2⟩;have hJ2:=hJg 0 M w1 w2 hJ1 hx2
 have H2':dL 33 M (tL l t 0) a2 w2:=H2.sub (λm=>by
  unfold tL;by_cases m0:m=0
  .subst m0;right;simp[bk,k0]
  by_cases m1:m=1
  .subst m1;right;simp[bk,k1]
  by_cases m12:m=12
  .subst m12;right;simp[bk,k12]
  by_cases m13:m=13
  .subst m13;right;simp[bk,k13]
  by_cases m14:m=14
  .subst m14;right;simp[bk,k14]
  .left;simp[m0,m1,m12,m13,m14])
 have hdd:a2.defers=[]:=by rw[hd2,hd1]
 clear H1 H1' H2 H0 g0 g1 g3 k0 k1 k12 k13 k14 hx1 hx2 hd1 hd2 hJ1 h0;show Code.wpIn Fence.wide n Tryz.prog _ _ a2 w2;refine wpIn_block (wpIn_loop (λa w=>∃i M',i<=(ao t).length∧J (cT t i).length M' w∧dL 33 M' (tL l t i) a w∧a.defers=[]) (λa _=>(ao t).length-sA a) ⟨0,M,Nat.zero_le _,by simpa[cT]using hJ2,H2',hdd⟩ ?_);clear hJ2 H2' hdd a2 w2 st2 a1 w1 st1;rintro a w ⟨i,M',hi,hJ,hH,hdd⟩
 have hidx:sA a=i:=by simp[sA,mQ hH (m:=14) (v:=.int .i64 i) (by simp[tL])]
 have hM':=hJb _ _ _ hJ;by_cases hlt:i<(ao t).length
 .have hv:ay t=true:=by
   cases h:ay t with
   |true=>rfl
   |false=>
    have:ao t=[]:=by
     simp only[ay]at h;simp[ao,Option.isSome_eq_false_iff.1 h |> Option.isNone_iff_eq_none.1]
    rw[this]at hlt;simp at hlt
  have hbl:=lY hv
  have hic:i<t.cells.length:=by omega
  have hz:=bG.1 (dz hv);generalize hc:t.cells[i]=c at *
  have hci:t.cells[i]?=some c:=by rw[List.getElem?_eq_getElem hic,hc]
  obtain⟨hbx,hbxl,_⟩:=wi hv (c:=(i:Int)) hic;have hbx1:(ao t)[i]?=some (dU t i):=hbx;have hbx2:=aT hbx1 hlt;have hwi:IntKind.i64.wrap ((i:Int)+1)=(i:Int)+1:=ab;have cl:=N4 c;have hstep:=pK t i
  have hlfN:dZ t i=cO c:=by simp[dZ,hci]
  rw[hlfN]at hstep;refine wpIn_seq (wpIn_mono (hH.step hM' (Q:=λe st'=>e=.normal∧em l t i st'∧st'.t 15=.pv (.val (.bool true))) (λC hP hN=>?_)) ?_)
  .skip
   repeat' (first
    |with_reducible refine af.seq ?_
    |(with_reducible ((first|refine af.region hF (hn:=[]) (by kernel_rfl) ?_|refine af.cond' ?_);simp -implicitDefEqProofs (maxSteps:=2000000) [hP,hN,tL,em,hlt]))
    |(with_reducible refine aO (by simp[tL,em,hlt]) (λhgd=>?_) (λhgd=>?_)<;>first|(exfalso;simp at hgd;done)|(exfalso;simp at hgd;omega)|simp -implicitDefEqProofs (maxSteps:=2000000) [hP,hN,tL,em,hlt])
    |with_reducible refine aE ?_ ?_
    |(with_reducible refine av (λhcd=>?_) (λhcd=>?_)<;>(try (exfalso;clear hP hN;simp_all;done))<;>(try (exfalso;simp at *;omega)))
    |with_reducible refine af.block ?_
    |(with_reducible ((first|refine af.skip ?_|refine af.exit ?_|refine af.ret ?_);simp[tL,em,hlt])))
  rintro e a1 w1 ⟨st1,⟨rfl,hk1,h15⟩,H1,hx1,hd1⟩;have hJ1:=hJg _ _ _ _ hJ hx1;have e15:a1.eval (.tmp 15)=.bool true:=mQ H1 (m:=15) (by simp[bk,h15]);have K1:=tV H1 hk1;show Code.wpIn Fence.wide n Tryz.prog _ _ a1 w1;refine wpIn_seq (wpIn_cond_true e15 (wpIn_skip ?_));show Code.wpIn Fence.wide n Tryz.prog _ _ a1 w1;refine wpIn_seq (wpIn_block ?_);refine wpIn_seq (wpIn_mono (K1.step (hJb _ _ _ hJ1) (Q:=λe st'=>e=.normal∧em l t i st'∧st'.t 5=.pv (Z i)∧st'.t 6=.pv (iv (dU t i))) (λC hP hN=>?_)) ?_)
  .skip
   repeat' (first
    |with_reducible refine af.seq ?_
    |(with_reducible ((first|refine af.region hF (hn:=[]) (by kernel_rfl) ?_|refine af.cond' ?_);simp -implicitDefEqProofs (maxSteps:=2000000) [hP,hN,tL,em,hlt,hbx1,hbx2]))
    |(with_reducible refine aO (by simp[tL,em,hlt,hbx1,hbx2]) (λhgd=>?_) (λhgd=>?_)<;>first|(exfalso;simp at hgd;done)|(exfalso;simp at hgd;omega)|simp -implicitDefEqProofs (maxSteps:=2000000) [hP,hN,tL,em,hlt,hbx1,hbx2])
    |with_reducible refine aE ?_ ?_
    |(with_reducible refine av (λhcd=>?_) (λhcd=>?_)<;>(try (exfalso;clear hP hN;simp_all;done))<;>(try (exfalso;simp at *;omega)))
    |with_reducible refine af.block ?_
    |(with_reducible ((first|refine af.skip ?_|refine af.exit ?_|refine af.ret ?_);simp[tL,em,hlt,hbx1,hbx2])))
  rintro e a2 w2 ⟨st2,⟨rfl,hk2,h5,h6⟩,H2,hx2,hd2⟩;have hJ2:=hJg _ _ _ _ hJ1 hx2;have K2:=sB H2 hk2 h5 h6;have hM2:=hJb _ _ _ hJ2;show Code.wpIn Fence.wide n Tryz.prog _ _ a2 w2;refine wpIn_seq (wpIn_mono (Q:=λe a3 w3=>e=.normal∧∃M3,J (cT t (i+1)).length M3 w3∧dL 33 M3 (tX l t i 31 31 (B false) (B false)) a3 w3∧a3.defers=[]) ?_ ?_)
  .cases hlf:cO c with
   |false=>
    rw[hlf]at cl hstep;rw[if_neg (by simp)]at hstep;refine wpIn_mono (K2.step hM2 (Q:=λe st'=>e=.normal∧em l t i st'∧st'.t 31=.pv (.val (.bool false))) (λC hP hN=>?_)) ?_
    .skip
     repeat' (first
      |with_reducible refine af.seq ?_
      |(with_reducible ((first|refine af.region hF (hn:=[]) (by kernel_rfl) ?_|refine bh (cl) ?_|refine af.cond' ?_);simp -implicitDefEqProofs (maxSteps:=2000000) [hP,hN,tX,tL,em,hic,hci,hc]))
      |(with_reducible refine aO (by simp[tX,tL,em,hic,hci,hc]) (λhgd=>?_) (λhgd=>?_)<;>first|(exfalso;simp at hgd;done)|(exfalso;simp at hgd;omega)|simp -implicitDefEqProofs (maxSteps:=2000000) [hP,hN,tX,tL,em,hic,hci,hc])
      |with_reducible refine aE ?_ ?_
      |(with_reducible refine av (λhcd=>?_) (λhcd=>?_)<;>(try (exfalso;clear hP hN;simp_all;done))<;>(try (exfalso;simp at *;omega)))
      |with_reducible refine af.block ?_
      |(with_reducible ((first|refine af.skip ?_|refine af.exit ?_|refine af.ret ?_);simp[tX,tL,em,hic,hci,hc])))
    rintro e a3 w3 ⟨st3,⟨rfl,hk3,h31⟩,H3,hx3,hd3⟩;exact⟨rfl,M',by rw[hstep];exact hJg _ _ _ _ hJ2 hx3,sB H3 hk3 h31 h31,by rw[hd3,hd2,hd1];exact hdd⟩
   |true=>
    rw[hlf]at cl hstep hlfN;rw[if_pos rfl]at hstep;refine wpIn_region_list ?_;rw[<-List.take_append_drop 10 (Array.toList _)];refine dk _ ?_;refine K2.list hM2 (hn:=[]) (Q:=λst'=>em l t i st'∧st'.t 25=.pv (.val (.bool true))∧st'.t 26=.pv (.val (.func (.yield l) #[] #[]))∧st'.t 27=.pv (Z i)∧st'.t 28=.pv (iv (dU t i))) (λo ho=>kj (by kernel_rfl) (List.mem_of_mem_take ho)) ?_ ?_
    .simp -implicitDefEqProofs [tX,tL,em,hic,hci,hc]
     refine bh cl ?_;simp -implicitDefEqProofs [tX,tL,em,hic,hci,hc]
    intro st3 a3 w3 ⟨hk3,h25,h26,h27,h28⟩ H3 hx3 hd3;have hJ3:=hJg _ _ _ _ hJ2 hx3;have hM3:=hJb _ _ _ hJ3
    have hxs:(eG t)[(cT t i).length]?=some (kR i,iv (dU t (i:Int))):=by
     have hL:aD t=cT t t.cells.length:=by simp[aD,hv]
     simp[eG,hL,vf hlfN hic]
    have hy:=hY (n-1) _ _ M' w3 _ _ hxs hJ3 (BK H3 (m:=27) (by simp[bk,h27])) (BK H3 (m:=28) (by simp[bk,h28]));refine Dj ?_ rfl rfl rfl (mQ H3 (m:=26) (by simp[bk,h26])) hy ?_
    .exact dB (H3.sim (P:=Tryz.prog) hM3).2.2 (by simp[de,bk,h25])
    rintro e w4 ⟨rfl,M4,hJ4,hp4⟩;refine⟨_,rfl,?_⟩;obtain⟨y0,y1,y12,y13,y14⟩:=hk3;have H5:=(H3.mono hp4).put (d:=29) (by decide) (p:=B true) (.val (.bool true));have K5:dL 33 M4 (tX l t i 25 29 (B true) (B true)) (a3.put (some 29) (.bool true)) w4:=Ke H5 (by simp[ah,bk,y0]) (by simp[ah,bk,y1]) (by simp[ah,bk,y12]) (by simp[ah,bk,y13]) (by simp[ah,bk,y14]) (by simp[ah,bk,h25]) (by simp[ah]);refine K5.list (hJb _ _ _ hJ4) (hn:=[]) (Q:=λst'=>em l t i st'∧st'.t 31=.pv (.val (.bool false))) (λo ho c' hc'=>by simp at ho;rcases ho with rfl|rfl<;>cases hc') ?_ ?_
    .simp -implicitDefEqProofs [tX,tL,em]
    intro st6 a6 w6 ⟨hk6,h31⟩ H6 hx6 hd6;refine⟨rfl,M4,?_,sB H6 hk6 h31 h31,?_⟩
    .have:(cT t (i+1)).length=(cT t i).length+1:=by rw[hstep];simp
     rw[this];exact hJg _ _ _ _ hJ4 hx6
    .rw[hd6,i9,hd3,hd2,hd1];exact hdd
  rintro e a3 w3 ⟨rfl,M3,hJ3,H3,hd3⟩;show Code.wpIn Fence.wide n Tryz.prog _ _ a3 w3;refine wpIn_cond_false (mQ H3 (m:=31) (by simp[tX])) (wpIn_skip ?_);show Code.wpIn Fence.wide n Tryz.prog _ _ a3 w3;refine wpIn_mono (H3.step (hJb _ _ _ hJ3) (Q:=λe st'=>e=.normal∧em l t (i+1) st') (λC hP hN=>?_)) ?_
  .skip
   repeat' (first
    |with_reducible refine af.seq ?_
    |(with_reducible ((first|refine af.region hF (hn:=[]) (by kernel_rfl) ?_|refine af.cond' ?_);simp -implicitDefEqProofs (maxSteps:=2000000) [hP,hN,tX,tL,em,hwi]))
    |(with_reducible refine aO (by simp[tX,tL,em,hwi]) (λhgd=>?_) (λhgd=>?_)<;>first|(exfalso;simp at hgd;done)|(exfalso;simp at hgd;omega)|simp -implicitDefEqProofs (maxSteps:=2000000) [hP,hN,tX,tL,em,hwi])
    |with_reducible refine aE ?_ ?_
    |(with_reducible refine av (λhcd=>?_) (λhcd=>?_)<;>(try (exfalso;clear hP hN;simp_all;done))<;>(try (exfalso;simp at *;omega)))
    |with_reducible refine af.block ?_
    |(with_reducible ((first|refine af.skip ?_|refine af.exit ?_|refine af.ret ?_);simp[tX,tL,em,hwi])))
  rintro e a4 w4 ⟨st4,⟨rfl,hk4⟩,H4,hx4,hd4⟩;have K4:=tV H4 hk4;refine⟨⟨i+1,M3,by omega,hJg _ _ _ _ hJ3 hx4,K4,by rw[hd4];exact hd3⟩,?_⟩
  have hidx4:sA a4=i+1:=by
   simp only[sA,mQ K4 (m:=14) (v:=.int .i64 ((i+1:Nat):Int)) (by simp[tL])];omega
  show(ao t).length-sA a4<(ao t).length-sA a;omega
 .have hin:i=(ao t).length:=by omega
  refine wpIn_seq (wpIn_mono (hH.step hM' (Q:=λe st'=>e=.normal∧st'.t 15=.pv (.val (.bool false))) (λC hP hN=>?_)) ?_)
  .skip
   repeat' (first
    |with_reducible refine af.seq ?_
    |(with_reducible ((first|refine af.region hF (hn:=[]) (by kernel_rfl) ?_|refine af.cond' ?_);simp -implicitDefEqProofs (maxSteps:=2000000) [hP,hN,tL,hlt]))
    |(with_reducible refine aO (by simp[tL,hlt]) (λhgd=>?_) (λhgd=>?_)<;>first|(exfalso;simp at hgd;done)|(exfalso;simp at hgd;omega)|simp -implicitDefEqProofs (maxSteps:=2000000) [hP,hN,tL,hlt])
    |with_reducible refine aE ?_ ?_
    |(with_reducible refine av (λhcd=>?_) (λhcd=>?_)<;>(try (exfalso;clear hP hN;simp_all;done))<;>(try (exfalso;simp at *;omega)))
    |with_reducible refine af.block ?_
    |(with_reducible ((first|refine af.skip ?_|refine af.exit ?_|refine af.ret ?_);simp[tL,hlt])))
  rintro e a1 w1 ⟨st1,⟨rfl,h15⟩,H1,hx1,hd1⟩;have hJ1:=hJg _ _ _ _ hJ hx1;have e15:a1.eval (.tmp 15)=.bool false:=mQ H1 (m:=15) (by simp[bk,h15]);show Code.wpIn Fence.wide n Tryz.prog _ _ a1 w1;refine wpIn_seq (wpIn_cond_false e15 (wpIn_exit ?_));show LeavesInM Fence.wide n Tryz.prog Tryz.f119 a1.tmps _ a1.defers .returning w1;rw[hd1,hdd];refine⟨_,HW Tryz.results119 _ _ _,⟨_,rfl⟩,M',?_⟩
  have hlen:(eG t).length=(cT t i).length:=by
   cases hv:ay t with
   |true=>
    have:=lY hv;rw[hin,this];simp[eG,aD,hv]
   |false=>
    have:ao t=[]:=by
     simp only[ay]at hv;simp[ao,Option.isSome_eq_false_iff.1 hv |> Option.isNone_iff_eq_none.1]
    rw[hin,this];simp[eG,aD,hv,cT]
  rw[hlen];exact hJ1
set_option maxRecDepth 100000 in
theorem EH:uq Tryz.prog 86:=by
 refine⟨by kernel_rfl,λn args w=>?_⟩;refine callsDIn_of_wpSIn Tryz.func86 rfl trivial λc₀ cs hu=>?_;apply wpSIn_seq;apply wpSIn_region
 have hk:∀k,k<Tryz.f86.ntmps->k<args.size+(Tryz.f86.ntmps-args.size):=by intro k h;omega
 rw[Tryz.ntmps86]at hk;have h0:=hk 0 (by decide);have h1:=hk 1 (by decide);have h2:=hk 2 (by decide);simp[wpOpsSIn,go_sem,recoverD,hu,Tryz.ntmps86,Exit.thenS,h0,h1,h2];refine wpSIn_cond (t:=false) (by simp[Act.eval,h0,h1,h2]) ?_;simp only[Bool.false_eq_true,if_false];refine wpSIn_of_wpIn rfl (wpIn_skip ?_);cases c₀
 simp_all[bodyPostS,results,Tryz.results86]
theorem On(t:Tr):aa Tryz.prog 87 [.pv (da t)] [] [] (.pv (.fn (.func 119) [] [.rptr (da t) 0])):=by
 refine Dp Tryz.func87 ?_;intro C hP hN;simp only[Tryz.f87]at hN|-;exact Gy
def LI(kb kr:Nat)(acc:List Nat)(h:Hp):Prop:=(acc=[]∧h kb=some (.box [.pv (.val (.slice none 0 0))] false false)∧h kr=none)∨(acc≠[]∧h kb=some (.box [.arr kr acc.length] false false)∧h kr=some (.row 3 1 (acc.map kR) 0))
theorem zC{x:PV×PV}(h:(eG t)[i]?=some x):∃e,(aD t)[i]?=some e∧x=(kR e,iv (dU t (e:Int))):=by
 rw[eG,List.getElem?_map,Option.map_eq_some_iff]at h;obtain⟨e,h1,h2⟩:=h;exact⟨e,h1,h2.symm⟩
theorem BL{l:List Nat}(h:l[i]?=some e):l.take (i+1)=l.take i++[e]:=by
 obtain⟨h1,h2⟩:=List.getElem?_eq_some_iff.1 h;rw[List.take_succ_eq_append_getElem h1,h2]
theorem tW(t:Tr):(aD t).length<=2048:=by
 cases hv:ay t with
 |false=>simp[aD,hv]
 |true=>
  have:=bG.1 (dz hv);have:=m9 t t.cells.length;simp[aD,hv];omega
theorem lw{b:Blk}(e:h k=some b)(hb:∀cs f,b≠.box cs false f):∀cs f,h k≠some (.box cs false f):=by
 intro cs f h2;rw[e]at h2;injection h2 with h2;exact hb cs f h2
set_option maxRecDepth 100000 in
theorem LU(t:Tr)(hv9:ay t=true)(hl:t.cells.length<=9223372036854775807):aa Tryz.prog 46 [.pv (da t)] [] [] (.nrow 3 1 ((aD t).map kR)):=by
 refine yq (args:=[da t]) Tryz.func46 rfl (by kernel_rfl) (by simp[Tryz.f46]) ?_;intro C hP hN hCS;simp only[Tryz.f46]at hN|-;have hF:=eV;refine kL.seq hCS ?_
 repeat' (first
  |with_reducible refine af.seq ?_
  |(with_reducible ((first|refine af.region hF (hn:=[]) (by kernel_rfl) ?_|refine af.cond' ?_);simp -implicitDefEqProofs (maxSteps:=2000000) [hP,hN]))
  |(with_reducible refine aO (by simp) (λhgd=>?_) (λhgd=>?_)<;>first|(exfalso;simp at hgd;done)|(exfalso;simp at hgd;omega)|simp -implicitDefEqProofs (maxSteps:=2000000) [hP,hN])
  |with_reducible refine aE ?_ ?_
  |(with_reducible refine av (λhcd=>?_) (λhcd=>?_)<;>(try (exfalso;clear hP hN;simp_all;done))<;>(try (exfalso;simp at *;omega)))
  |with_reducible refine af.block ?_
  |(with_reducible ((first|refine af.skip ?_|refine af.exit ?_|refine af.ret ?_);simp)))
 refine kL.defer (pre:=[_]) (hn:=[]) (g:=86) rfl (λo ho c' hc'=>by simp at ho;subst ho;cases hc') rfl rfl rfl rfl rfl (by rw[hP];exact EH) ?_;simp -implicitDefEqProofs [hP,hN];refine kL.range hCS (gf:=119) (caps:=[.rptr (da t) 0]) (xs:=eG t) (by rw[hP];exact Kd t hl) (by rw[hN];decide) (by rw[hN];decide) (ks:=[2]) (hin:=λ_=>[.val (.slice none 0 0)]) (t:=λm=>if m=2 then .ptr 2 0 else .undef) ?_ (λi h=>LI 2 12 ((aD t).take i) h) ?_ ?_ ?_ (by kernel_rfl) (hn:=[]) ?_
 .skip
  repeat' (first
   |with_reducible refine af.seq ?_
   |(with_reducible ((first|refine af.region hF (hn:=[]) (by kernel_rfl) ?_|refine bh (On t) ?_|refine af.cond' ?_);simp -implicitDefEqProofs (maxSteps:=2000000) [hP,hN]))
   |(with_reducible refine aO (by simp) (λhgd=>?_) (λhgd=>?_)<;>first|(exfalso;simp at hgd;done)|(exfalso;simp at hgd;omega)|simp -implicitDefEqProofs (maxSteps:=2000000) [hP,hN])
   |with_reducible refine aE ?_ ?_
   |(with_reducible refine av (λhcd=>?_) (λhcd=>?_)<;>(try (exfalso;clear hP hN;simp_all;done))<;>(try (exfalso;simp at *;omega)))
   |with_reducible refine af.block ?_
   |(with_reducible ((first|refine af.skip ?_|refine af.exit ?_|refine af.ret ?_);simp)))
  all_goals (intro m;by_cases hm:m=2<;>simp[hm])
 .left;simp[iH]
 .intro i h k hk hi
  simp at hk;subst hk;rcases hi with⟨_,h2,_⟩|⟨_,h2,_⟩
  all_goals exact⟨_,h2⟩
 .intro C1 C2 l i x h hP1 hN1 hP2 hN2 hx hI
  obtain⟨e,he,rfl⟩:=zC hx;have hac:=BL he;have hsm:=tW t
  have hlen:((aD t).take i).length<=2048:=by rw[List.length_take];omega
  rw[hac];generalize(aD t).take i=acc at *;have hF:=rX l;have hP0:=hP;have hN0:=hN;clear hP hN;have hP:=hP1.trans hP0;have hN:=hN1.trans hN0;have hPb:=hP2.trans hP0;have hNb:=hN2.trans hN0
  have hA:(acc.length+1)*8<=140737488355328:=by omega
  have hA':acc.length+1<=9223372036854775807:=by omega
  rcases hI with⟨rfl,q2,q12⟩|⟨hne,q2,q12⟩
  .skip
   repeat' (first
    |with_reducible refine af.seq ?_
    |(with_reducible ((first|refine af.region hF (hn:=[]) (by kernel_rfl) ?_|refine af.cond' ?_);simp -implicitDefEqProofs (maxSteps:=2000000) [hP,hN,hPb,hNb,iR,q2,q12]))
    |(with_reducible refine aO (by simp[hPb,hNb,iR,q2,q12]) (λhgd=>?_) (λhgd=>?_)<;>first|(exfalso;simp at hgd;done)|(exfalso;simp at hgd;omega)|simp -implicitDefEqProofs (maxSteps:=2000000) [hP,hN,hPb,hNb,iR,q2,q12])
    |with_reducible refine aE ?_ ?_
    |(with_reducible refine av (λhcd=>?_) (λhcd=>?_)<;>(try (exfalso;clear hP hN;simp_all;done))<;>(try (exfalso;simp at *;omega)))
    |with_reducible refine af.block ?_
    |(with_reducible ((first|refine af.skip ?_|refine af.exit ?_|refine af.ret ?_);simp[hPb,hNb,iR,q2,q12])))
   all_goals exact .inr ⟨by simp,by simp[ah],by simp[ah]⟩
  .skip
   repeat' (first
    |with_reducible refine af.seq ?_
    |(with_reducible ((first|refine af.region hF (hn:=[]) (by kernel_rfl) ?_|refine af.cond' ?_);simp -implicitDefEqProofs (maxSteps:=2000000) [hP,hN,hPb,hNb,iR,q2,q12,hA,hA']))
    |(with_reducible refine aO (by simp[hPb,hNb,iR,q2,q12,hA,hA']) (λhgd=>?_) (λhgd=>?_)<;>first|(exfalso;simp at hgd;done)|(exfalso;simp at hgd;omega)|simp -implicitDefEqProofs (maxSteps:=2000000) [hP,hN,hPb,hNb,iR,q2,q12,hA,hA'])
    |with_reducible refine aE ?_ ?_
    |(with_reducible refine av (λhcd=>?_) (λhcd=>?_)<;>(try (exfalso;clear hP hN;simp_all;done))<;>(try (exfalso;simp at *;omega)))
    |with_reducible refine af.block ?_
    |(with_reducible ((first|refine af.skip ?_|refine af.exit ?_|refine af.ret ?_);simp[hPb,hNb,iR,q2,q12,hA,hA'])))
   all_goals exact .inr ⟨by simp,by simp[ah],by simp[ah]⟩
 .intro h hI
  have hall:(aD t).take (eG t).length=aD t:=List.take_of_length_le (by simp[eG]);rw[hall]at hI;rcases hI with⟨e,q2,q12⟩|⟨hne,q2,q12⟩
  .have:=qJ hv9
   rw[e]at this;simp at this
  .simp -implicitDefEqProofs [hP,hN,q2,q12]
def eh(e sz:Nat)(ys:List PV):Hp:=λk=>if k=291 then some (.row e sz ys 0)else none
theorem dn{b:Blk}(h:eh e sz ys k=some b):k=291∧b=.row e sz ys 0:=by
 unfold eh at h;split at h
 .rename_i e9;injection h with h;exact⟨e9,h.symm⟩
 .cases h
theorem Fe{hK:Hp}{g:FuncId}{d:Nat}(hop:o.op=.call {callee:=.value f,args:=xs.toArray,argTypes:=ats})(hd:o.dst=some d)(hkd:hK d=none)
 (hce:bC (ρ f)=some (g,[],[]))(hargs:xs.map ρ=args.map AV.pv)(hD:kC P g (args.map .pv) iX (λr h'=>r=.tup [.agg (pre.map .pv++[.arr 291 ys.length]),.pv q]∧h'=eh e sz ys)):
 kg P o ρ hK (.tup [.agg (pre.map .pv++[.arr d ys.length]),.pv q]) [(d,.row e sz ys 0)]:=by
 intro C L h w1 a1 hP hm hs hf hρ next Q hnext
 subst hP;obtain⟨hcall,hDD⟩:=hD
 have hdh:h d=none:=by rw[<-(hf d hd).1];exact hkd
 have hops:∀x,x=f∨x∈xs->RepA w1 (ag C L h) L h (ρ x) (a1.eval x):=λx hx=>hρ x (by rw[hop];rcases hx with rfl|hx<;>simp[Op.operands,Call.operands, *]);obtain⟨vs,us,hfv,hv1,hv2⟩:=gO (hops f (.inl rfl)) hce;have hvs:=hv1.nil_inv;have hus:=hv2.nil_inv;subst hvs;subst hus
 have hM0:∀b o,sC (ag C L h) L iX b o->ag C L h b o:=by
  rintro b o (h9|⟨k,blk,hk,_⟩)
  .exact h9
  .cases hk
 have hcalls:=hDD w1 (ag C L h) L (xs.map a1.eval) (λb o h9=>hm.mlt h9) ⟨λk b hk=>(by cases hk),λk k' b b' _ hk=>(by cases hk),λk b hk=>(by cases hk),λk cs f hk=>(by cases hk)⟩ (by
  rw[<-hargs];refine⟨by simp,λi p u hp hu=>?_⟩;have hp0:=hp;rw[hargs,List.getElem?_map,Option.map_eq_some_iff]at hp0;obtain⟨p0,_,rfl⟩:=hp0;simp only[List.getElem?_map,Option.map_eq_some_iff]at hp hu;obtain⟨x,hx,hxe⟩:=hp;obtain⟨y,hy,rfl⟩:=hu;rw[hx]at hy;injection hy with hy;subst hy;have:=hops x (.inr (List.mem_of_getElem? hx));rw[hxe]at this
  cases this with
  |pv hr=>exact .pv (hr.mono (Pres.sub hM0)))
 have hrun:(execOp a1.eval o).run C.P w1=.ok (.enter g (xs.map a1.eval).toArray) w1:=by
  unfold bZ at hcall
  cases hfn:C.P.funcs[g]? with
  |none=>rw[hfn]at hcall;cases hcall
  |some fn=>
   rw[hfn]at hcall;simp only[Bool.and_eq_true,Bool.not_eq_true',beq_eq_false_iff_ne,ne_eq]at hcall
   have hb:fn.body.isNone=false:=by cases hbb:fn.body<;>simp_all
   unfold execOp;rw[hop];simp only[resolve,hfv,Deferred.ofValue,pure_bind,Sem.run_bind,Result.andThen_ok,invoke,callFunc,program,Sem.run,hfn];simp[hcall.2,hb]
 unfold Oper.wp;rw[hrun];simp only[Oper.upon];refine hcalls.mono ?_;rintro ee w' ⟨v,r,L',h',rfl,hx,hlk,htr,hr,hokr,⟨rfl,rfl⟩,_,_,hnew⟩
 have hno:∀b,¬kU iX L b:=by rintro b ⟨k,blk,hk,_⟩;cases hk
 have hnt:∀b,¬io iX L b:=by rintro b ⟨k,blk,hk,_⟩;cases hk
 have hxF:Ext (λ_=>False) w1 w':=⟨hx.os,hx.tape,hx.output,hx.size,λb' hb' _=>hx.block b' hb' (hno b')⟩
 have hk9:eh e sz ys 291=some (.row e sz ys 0):=by simp[eh]
 have hb:=htr.bl 291 _ hk9;have hb1:(L' 291).isNil=false->w1.heap.size<=(L' 291).b:=λhn=>(hnew 291 _ hk9 rfl hn).elim id λh9=>absurd h9 (hnt _)
 have hsub0:∀b o,(ag C L h b o∨((L' 291).isNil=false∧b=(L' 291).b))->sC (ag C L h) L' (eh e sz ys) b o:=by
  rintro b o (h9|⟨hn,rfl⟩)
  .exact .inl h9
  .exact .inr ⟨291,_,hk9,hn,rfl,by simp[Blk.frz]⟩
 have hb3:db w' (λb' o=>ag C L h b' o∨((L' 291).isNil=false∧b'=(L' 291).b)) (λ_=>default) (λ_=>none) (L' 291) (.row e sz ys 0):=by
  obtain⟨c1,c2,c3,c4,c5⟩:=hb;refine⟨c1,c2,c3,c4,λhn=>?_⟩;obtain⟨d1,d2,arr,d3,d4,d5⟩:=c5 hn;refine⟨d1,d2,arr,d3,d4,λi x j p hx9 hj=>?_⟩;obtain⟨u,hu,hr9⟩:=d5 i x j p hx9 hj;exact⟨u,hu,hr9.mono (Pres.sub hsub0)⟩
 generalize hl:L' 291=l at *;have hnk:=jq (e:=e) (sz:=sz) (xs:=ys) hm hxF hdh (hf d hd).2 hb1 hb3
 have hsub:∀b o,ag C (ah L d l) (ah h d (some (.row e sz ys 0))) b o->sC (ag C L h) L' (eh e sz ys) b o:=by
  rintro b o (h0|⟨k,blk,hk,hlv,hkb,hfz⟩)
  .exact .inl (.inl h0)
  .by_cases hkq:k=d
   .subst hkq
    rw[aF]at hk hkb hlv;injection hk with hk;subst hk;exact hsub0 b o (.inr ⟨hlv,hkb.symm⟩)
   .rw[bj hkq]at hk hkb hlv
    exact .inl (.inr ⟨k,blk,hk,hlv,hkb,hfz⟩)
 refine hnext _ _ (ah L d l) (by rw[gu];exact hnk.1) ?_;rw[gu]
 cases hr with
 |tup _ vs hvl hh=>
  refine .tup _ _ (by simpa using hvl) (λi p u hp hu=>?_)
  match i,hp with
  |0,hp=>
   simp only[List.getElem?_cons_zero,Option.some.injEq]at hp;subst hp;have h0:=hh 0 _ u rfl hu
   cases h0 with
   |agg _ us hul hhu=>
    have hlen:us.length=pre.length+1:=by simpa using hul.symm
    refine .agg _ _ (by simpa using hul) (λi p u hp hu=>?_);by_cases hi:i<pre.length
    .rw[List.getElem?_append_left (by simpa using hi),List.getElem?_map,List.getElem?_eq_getElem hi]at hp
     simp only[Option.map_some,Option.some.injEq]at hp;subst hp;have:=hhu i (.pv pre[i]) u (by rw[List.getElem?_append_left (by simpa using hi),List.getElem?_map,List.getElem?_eq_getElem hi];rfl) hu
     cases this with
     |pv hr9=>exact .pv (hr9.mono (Pres.sub hsub))
    .have hil:=(List.getElem?_eq_some_iff.1 hp).1
     have hie:i=pre.length:=by simp at hil;omega
     subst hie;rw[List.getElem?_append_right (by simp)]at hp;simp only[List.length_map,Nat.sub_self,List.getElem?_cons_zero,Option.some.injEq]at hp;subst hp;have:=hhu pre.length (.arr 291 ys.length) u (by rw[List.getElem?_append_right (by simp)];simp) hu
     cases this with
     |arr hk2 hn2 hu2=>
      rw[hk9]at hk2;injection hk2 with hk2;injection hk2 with a1 a2 a3 a4;subst a3;rw[hu2 rfl,hl];exact hnk.2
  |1,hp=>
   simp only[List.getElem?_cons_succ,List.getElem?_cons_zero,Option.some.injEq]at hp;subst hp;have h0:=hh 1 (.pv q) u rfl hu
   cases h0 with
   |pv hr9=>exact .pv (hr9.mono (Pres.sub hsub))
  |i+2,hp=>simp at hp
theorem D5{g:FuncId}{d:Nat}(hop:o.op=.call {callee:=.value f,args:=xs.toArray,argTypes:=ats})(hd:o.dst=some d)(hg:o.guard=none)(hdd:bX N o.dst=true)(hkd:st.h d=none)
 (hce:bC (st.ev f)=some (g,[],[]))(hargs:xs.map st.ev=args.map AV.pv)(hD:kC P g (args.map .pv) iX (λr h'=>r=.tup [.agg (pre.map .pv++[.arr 291 ys.length]),.pv q]∧h'=eh e sz ys)):
 lR P hn N ops o st ⟨o.dst,.tup [.agg (pre.map .pv++[.arr d ys.length]),.pv q],[(d,.row e sz ys 0)],[d]⟩:=by
 refine⟨hdd,rfl,.inl ⟨by simp[de,hg],λd9 hd9=>by rw[hd]at hd9;injection hd9 with hd9;simp[hd9],?_,by simp⟩⟩;exact Fe hop hd (by simp[bu,hkd]) hce hargs hD
theorem D6{c:Code}(d k':Nat){xs:List PV}(hd:st.h d=some (.row e sz xs fz))(hk':st.h k'=none)(hne:d≠k')(hlt:k'<2000000)(h:WP C c Q ⟨λn=>aY d k' (st.t n),aL d k' st.h⟩):WP C c Q st:=
 WP.ren d k' hne hk' hlt (by rw[hd];intro cs f e9;cases e9) h
theorem WP.freeze{c:Code}(s:Nat){xs:List PV}(hk:st.h k=some (.row e sz xs fz))(ht:st.t s=.arr k xs.length)(h:WP C c Q ⟨ah st.t s (.pv (.sl xs)),ah st.h k (some (.row e sz xs xs.length))⟩):WP C c Q st:=by
 intro a w hs;obtain⟨L,hm,hN,hdf,htm⟩:=hs;obtain⟨hA,hR⟩:=wI hm hk;refine h a w ⟨L,hA.1,hN,hdf,λn=>?_⟩;have hold:=(htm n).mono hA.2.1 hA.2.2;show RepA w _ L _ (ah st.t s (.pv (.sl xs)) n) _;by_cases hn:n=s
 .subst hn
  rw[aF];have hv:=htm n;rw[ht]at hv
  cases hv with
  |arr hk2 hn2 hu=>
   rw[hk]at hk2;injection hk2 with hk2;injection hk2 with _ _ a3 _;subst a3;rw[hu rfl];exact .pv hR
 .rw[bj hn];exact hold
abbrev lZ(r:Bx)(v:Verd):Tr:=⟨r,[aP v]⟩
def xk(r:Bx)(v:Verd):Spc:={root:=r,cells:=[aP v],bx:=[r],near:=[[]],jn:=[-1]}
theorem Hx{r:Bx}{v:Verd}(hv:ay (lZ r v)=true):aD (lZ r v)=[0]:=by
 unfold aD;rw[if_pos hv];rfl
theorem zf:LookH (eh e sz ys):=
 ⟨λk b hb=>by obtain⟨rfl,_⟩:=dn hb;rfl,λk b o hb=>by obtain⟨_,rfl⟩:=dn hb;simp[Blk.frz],λk b hb=>by obtain⟨_,rfl⟩:=dn hb;rfl,λk cs o f hb=>by obtain⟨_,h9⟩:=dn hb;cases h9⟩
set_option maxRecDepth 10000 in
theorem JU(r:Bx)(v:Verd)(hv:ay (lZ r v)=true):kC Tryz.prog 20 [.agg [.pv (iv r),.arr 291 1]] (eh 76 8 [aW (aP v)]) (λr' h'=>r'=.ptr 290 0∧h'=aM true (xk r v) 0):=by
 have cl:aa Tryz.prog 46 [.pv (.agg [iv r,.sl [aW ⟨-1,-1,-1,v⟩]])] [] [] (.nrow 3 1 [Z 0]):=by
  have:=LU (lZ r v) hv (by simp);rw[Hx hv]at this;exact this
 have hr9:eh 76 8 [aW (aP v)] 291=some (.row 76 8 [aW (aP v)] 0):=by simp[eh]
 have hrn:∀k,k≠291->eh 76 8 [aW (aP v)] k=none:=λk h=>by simp[eh,h]
 refine B8 Tryz.func20 zf ?_;intro C hP hN;simp only[Tryz.f20]at hN|-;generalize hRR:eh 76 8 [aW (aP v)]=RR at *
 with_reducible repeat' (first|refine Sp.h ?_|((first|refine Wh [1000019] ?_|refine Wi [1000019] ?_|refine Ss.h ?_|(refine Sb.h ?_ ?_ ?_<;>(try intro hgd)<;>try exact Xy))<;>simp -implicitDefEqProofs (maxSteps:=2000000) [hP,hN,pO,hr9,hrn,aP]<;>try refine Yc ?_)|refine X2 ?_ ?_|(refine Xd ?_ ?_<;>intro hcd<;>try exact Xx))
 refine WP.loopN [6] 1 (λi st=>st.t 1=.ptr 1 0∧st.t 4=.ptr 23 0∧st.t 32=.arr 291 1∧st.t 33=.pv (Z 1)∧st.t 34=.pv (Z i)∧st.h 6=none∧st.h 78=none∧st.h 1=some (.box [.pv (iv r),.arr 291 1] true false)∧st.h 291=some (.row 76 8 [aW (aP v)] 0)∧st.h 17=some (.row 35 1 [iv r] 0)∧st.h 19=some (.box [cL] true false)∧st.h 21=some (.row 3 1 [if i=0 then Z 0 else Z (-1)] 0)∧st.h 23=some (.box [.pv (iv r),.arr 291 1,.arr 17 1,.ext (.barr 19 1 1),.arr 21 1] true false)∧∀k,290<=k->k≠291->st.h k=none) ?_ ?_
 .simp[St.kill,aq,bm,aQ,ax,ah,XV.key,hr9,hrn]
  exact λk h1 h2 h3=>by simp[h2,h3,show¬k=1 by omega,show¬k=17 by omega,show¬k=19 by omega,show¬k=21 by omega,show¬k=23 by omega,hrn k h2]
 rintro i st hi ⟨g1,g4,g32,g33,g34,b6,b78,b1,b291,b17,b19,b21,b23,bhi⟩;by_cases hlt:i<1
 .have hi0:i=0:=by omega
  subst hi0;simp only[if_true]at b21
  with_reducible repeat' (first|refine Sp.h ?_|((first|refine Wd ?_|refine Ss.h ?_|(refine Sb.h ?_ ?_ ?_<;>(try intro hgd)<;>try exact Xy))<;>simp -implicitDefEqProofs (maxSteps:=2000000) [hP,hN,g1,g4,g32,g33,g34,b6,b78,b1,b291,b17,b19,b21,b23,aP]<;>try refine Yc ?_)|refine X2 ?_ ?_|(refine Xd ?_ ?_<;>intro hcd<;>try exact Xx))
  exact⟨ab (by omega) (by omega),λk h1 h2 h3=>by simp[h2,h3,show¬k=21 by omega,bhi k h1 h2]⟩
 .have hi1:i=1:=by omega
  subst hi1;simp only[Nat.one_ne_zero,if_false]at b21
  with_reducible repeat' (first|refine Sp.h ?_|((first|refine Wd ?_|refine Ss.h ?_|refine Sc.h (cl) ?_|(refine Sb.h ?_ ?_ ?_<;>(try intro hgd)<;>try exact Xy))<;>simp -implicitDefEqProofs (maxSteps:=2000000) [hP,hN,g1,g4,g32,g33,g34,b6,b78,b1,b291,b17,b19,b21,b23,aP]<;>try refine Yc ?_)|refine X2 ?_ ?_|(refine Xd ?_ ?_<;>intro hcd<;>try exact Xx))
  refine WP.freeze 7 (k:=78) (e:=3) (sz:=1) (fz:=0) (xs:=[Z 0]) (by simp[ah]) (by simp[ah]) ?_;refine WP.freeze 79 (k:=78) (e:=3) (sz:=1) (fz:=1) (xs:=[Z 0]) (by simp[ah]) (by simp[ah]) ?_;refine WP.of_st (P:=λst=>st.t 4=.ptr 23 0∧st.t 7=.pv (.sl [Z 0])∧st.t 79=.pv (.sl [Z 0])∧st.t 80=.pv (Z 1)∧st.t 81=.pv (Z 0)∧st.h 23=some (.box [.pv (iv r),.arr 291 1,.arr 17 1,.ext (.barr 19 1 1),.arr 21 1] true false)∧st.h 17=some (.row 35 1 [iv r] 0)∧st.h 19=some (.box [cL] true false)∧st.h 21=some (.row 3 1 [Z (-1)] 0)∧st.h 291=some (.row 76 8 [aW (aP v)] 0)∧∀k,290<=k->k≠291->k≠23->k≠17->k≠19->k≠21->st.h k=none) ⟨⟨by simp[g4,ah],by simp[ah],by simp[ah],by simp[ah],by simp[ah],by simp[ah,b23],by simp[ah,b17],by simp[ah,b19],by simp[ah,b21],by simp[ah,b291],λk h1 h2 _ _ _ _=>by simp[ah,show¬k=78 by omega,bhi k h1 h2]⟩,?_⟩;clear g1 g4 g32 g33 g34 b6 b78 b1 b291 b17 b19 b21 b23 bhi st;rintro st ⟨g4,g7,g79,g80,g81,bx,ba,bb,bc,b291,bhi⟩;refine WP.ren 23 290 (by omega) (bhi 290 (by omega) (by omega) (by omega) (by omega) (by omega) (by omega)) (by omega) (lw bx (by intro cs f e;cases e)) ?_;refine WP.of_st (P:=λst=>st.t 4=.ptr 290 0∧st.t 7=.pv (.sl [Z 0])∧st.t 79=.pv (.sl [Z 0])∧st.t 80=.pv (Z 1)∧st.t 81=.pv (Z 0)∧st.h 290=some (.box [.pv (iv r),.arr 291 1,.arr 17 1,.ext (.barr 19 1 1),.arr 21 1] true false)∧st.h 17=some (.row 35 1 [iv r] 0)∧st.h 19=some (.box [cL] true false)∧st.h 21=some (.row 3 1 [Z (-1)] 0)∧st.h 291=some (.row 76 8 [aW (aP v)] 0)∧∀k,290<=k->k≠291->k≠290->k≠17->k≠19->k≠21->st.h k=none) ⟨⟨by simp[aY,aN,rk,g4],by simp[aY,aN,g7],by simp[aY,aN,g79],by simp[aY,aN,g80],by simp[aY,aN,g81],by simp[aL,bN,aY,aN,gR,rk,g4,bx,ba,bb,bc,b291],by simp[aL,bN,aY,aN,gR,rk,g4,bx,ba,bb,bc,b291],by simp[aL,bN,aY,aN,gR,rk,g4,bx,ba,bb,bc,b291],by simp[aL,bN,aY,aN,gR,rk,g4,bx,ba,bb,bc,b291],by simp[aL,bN,aY,aN,gR,rk,g4,bx,ba,bb,bc,b291],λk h1 h2 n1 n2 n3 n4=>?_⟩,?_⟩
  .by_cases e:k=23
   .simp[aL,e]
   .simp[aL,e,n1,bhi k h1 h2 e n2 n3 n4]
  clear g4 g7 g79 g80 g81 bx ba bb bc b291 bhi st;rintro st ⟨g4,g7,g79,g80,g81,bx,ba,bb,bc,b291,bhi⟩;refine WP.ren 17 292 (by omega) (bhi 292 (by omega) (by omega) (by omega) (by omega) (by omega) (by omega)) (by omega) (lw ba (by intro cs f e;cases e)) ?_;refine WP.of_st (P:=λst=>st.t 4=.ptr 290 0∧st.t 7=.pv (.sl [Z 0])∧st.t 79=.pv (.sl [Z 0])∧st.t 80=.pv (Z 1)∧st.t 81=.pv (Z 0)∧st.h 290=some (.box [.pv (iv r),.arr 291 1,.arr 292 1,.ext (.barr 19 1 1),.arr 21 1] true false)∧st.h 292=some (.row 35 1 [iv r] 0)∧st.h 19=some (.box [cL] true false)∧st.h 21=some (.row 3 1 [Z (-1)] 0)∧st.h 291=some (.row 76 8 [aW (aP v)] 0)∧∀k,290<=k->k≠291->k≠290->k≠292->k≠19->k≠21->st.h k=none) ⟨⟨by simp[aY,aN,rk,g4],by simp[aY,aN,g7],by simp[aY,aN,g79],by simp[aY,aN,g80],by simp[aY,aN,g81],by simp[aL,bN,aY,aN,gR,rk,g4,bx,ba,bb,bc,b291],by simp[aL,bN,aY,aN,gR,rk,g4,bx,ba,bb,bc,b291],by simp[aL,bN,aY,aN,gR,rk,g4,bx,ba,bb,bc,b291],by simp[aL,bN,aY,aN,gR,rk,g4,bx,ba,bb,bc,b291],by simp[aL,bN,aY,aN,gR,rk,g4,bx,ba,bb,bc,b291],λk h1 h2 n1 n2 n3 n4=>?_⟩,?_⟩
  .by_cases e:k=17
   .simp[aL,e]
   .simp[aL,e,n2,bhi k h1 h2 n1 e n3 n4]
  clear g4 g7 g79 g80 g81 bx ba bb bc b291 bhi st;rintro st ⟨g4,g7,g79,g80,g81,bx,ba,bb,bc,b291,bhi⟩;refine WP.ren 19 293 (by omega) (bhi 293 (by omega) (by omega) (by omega) (by omega) (by omega) (by omega)) (by omega) (lw bb (by intro cs f e;cases e)) ?_;refine WP.of_st (P:=λst=>st.t 4=.ptr 290 0∧st.t 7=.pv (.sl [Z 0])∧st.t 79=.pv (.sl [Z 0])∧st.t 80=.pv (Z 1)∧st.t 81=.pv (Z 0)∧st.h 290=some (.box [.pv (iv r),.arr 291 1,.arr 292 1,.ext (.barr 293 1 1),.arr 21 1] true false)∧st.h 292=some (.row 35 1 [iv r] 0)∧st.h 293=some (.box [cL] true false)∧st.h 21=some (.row 3 1 [Z (-1)] 0)∧st.h 291=some (.row 76 8 [aW (aP v)] 0)∧∀k,290<=k->k≠291->k≠290->k≠292->k≠293->k≠21->st.h k=none) ⟨⟨by simp[aY,aN,rk,g4],by simp[aY,aN,g7],by simp[aY,aN,g79],by simp[aY,aN,g80],by simp[aY,aN,g81],by simp[aL,bN,aY,aN,gR,rk,g4,bx,ba,bb,bc,b291],by simp[aL,bN,aY,aN,gR,rk,g4,bx,ba,bb,bc,b291],by simp[aL,bN,aY,aN,gR,rk,g4,bx,ba,bb,bc,b291],by simp[aL,bN,aY,aN,gR,rk,g4,bx,ba,bb,bc,b291],by simp[aL,bN,aY,aN,gR,rk,g4,bx,ba,bb,bc,b291],λk h1 h2 n1 n2 n3 n4=>?_⟩,?_⟩
  .by_cases e:k=19
   .simp[aL,e]
   .simp[aL,e,n3,bhi k h1 h2 n1 n2 e n4]
  clear g4 g7 g79 g80 g81 bx ba bb bc b291 bhi st;rintro st ⟨g4,g7,g79,g80,g81,bx,ba,bb,bc,b291,bhi⟩;refine WP.ren 21 294 (by omega) (bhi 294 (by omega) (by omega) (by omega) (by omega) (by omega) (by omega)) (by omega) (lw bc (by intro cs f e;cases e)) ?_;refine WP.of_st (P:=λst=>st.t 4=.ptr 290 0∧st.t 7=.pv (.sl [Z 0])∧st.t 79=.pv (.sl [Z 0])∧st.t 80=.pv (Z 1)∧st.t 81=.pv (Z 0)∧st.h 290=some (.box [.pv (iv r),.arr 291 1,.arr 292 1,.ext (.barr 293 1 1),.arr 294 1] true false)∧st.h 292=some (.row 35 1 [iv r] 0)∧st.h 293=some (.box [cL] true false)∧st.h 294=some (.row 3 1 [Z (-1)] 0)∧st.h 291=some (.row 76 8 [aW (aP v)] 0)∧∀k,290<=k->k≠291->k≠290->k≠292->k≠293->k≠294->st.h k=none) ⟨⟨by simp[aY,aN,rk,g4],by simp[aY,aN,g7],by simp[aY,aN,g79],by simp[aY,aN,g80],by simp[aY,aN,g81],by simp[aL,bN,aY,aN,gR,rk,g4,bx,ba,bb,bc,b291],by simp[aL,bN,aY,aN,gR,rk,g4,bx,ba,bb,bc,b291],by simp[aL,bN,aY,aN,gR,rk,g4,bx,ba,bb,bc,b291],by simp[aL,bN,aY,aN,gR,rk,g4,bx,ba,bb,bc,b291],by simp[aL,bN,aY,aN,gR,rk,g4,bx,ba,bb,bc,b291],λk h1 h2 n1 n2 n3 n4=>?_⟩,?_⟩
  .by_cases e:k=21
   .simp[aL,e]
   .simp[aL,e,n4,bhi k h1 h2 n1 n2 n3 e]
  clear g4 g7 g79 g80 g81 bx ba bb bc b291 bhi st;rintro st ⟨g4,g7,g79,g80,g81,bx,ba,bb,bc,b291,bhi⟩;refine WP.nilRows (λq=>decide (q=300)) 3 293 (cs:=[cL]) (cs':=[.arr 300 0]) (own:=true) (fb:=false) bb ?_ rfl ?_ ?_
  .intro q hq
   simp only[decide_eq_true_eq]at hq;exact⟨bhi q (by omega) (by omega) (by omega) (by omega) (by omega) (by omega),by omega⟩
  .intro i x hx
   cases i with
   |zero=>simp at hx;exact .inr ⟨rfl,300,by simp,hx.symm⟩
   |succ i=>simp at hx
  refine WP.of_st (P:=λst=>st.t 4=.ptr 290 0∧st.t 7=.pv (.sl [Z 0])∧st.t 79=.pv (.sl [Z 0])∧st.t 80=.pv (Z 1)∧st.t 81=.pv (Z 0)∧∀k,inK k=true->st.h k=aM true (xk r v) 0 k) ⟨⟨g4,g7,g79,g80,g81,λk hk=>?_⟩,?_⟩
  .simp only[inK,Bool.and_eq_true,decide_eq_true_eq]at hk
   simp only;by_cases e0:k=290
   .subst e0;simp[bx];rfl
   by_cases e1:k=291
   .subst e1;simp[b291];rfl
   by_cases e2:k=292
   .subst e2;simp[ba];rfl
   by_cases e3:k=293
   .subst e3;simp;rfl
   by_cases e4:k=294
   .subst e4;simp[bc];rfl
   by_cases e5:k=300
   .subst e5;simp;rfl
   unfold aM;rw[if_neg e0,if_neg e1,if_neg e2,if_neg e3,if_neg e4,if_neg (c:=300<=k∧k<300+(xk r v).near.length) (by simp[xk];omega)];simp[e3,e5,bhi k (by omega) e1 e0 e2 e3 e4]
  clear g4 g7 g79 g80 g81 bx ba bb bc b291 bhi st;rintro st ⟨g4,g7,g79,g80,g81,bH⟩;refine WP.loopN [] 1 (λk st=>st.t 4=.ptr 290 0∧st.t 7=.pv (.sl [Z 0])∧st.t 79=.pv (.sl [Z 0])∧st.t 80=.pv (Z 1)∧st.t 81=.pv (Z k)∧∀q,inK q=true->st.h q=aM true (xk r v) 0 q) ?_ ?_
  .refine⟨by simp[St.kill,aq,aQ,ax,g4],by simp[St.kill,aq,aQ,ax,g7],by simp[St.kill,aq,aQ,ax,g79],by simp[St.kill,aq,aQ,ax,g80],by simp[St.kill,aq,aQ,ax,g81],λq hq=>?_⟩
   show(st.h q).map (bm [])=_;rw[bH q hq,fJ]
  clear g4 g7 g79 g80 g81 bH st;rintro k st hk ⟨g4,g7,g79,g80,g81,bH⟩;by_cases hlk:k<1
  .have hk0:k=0:=by omega
   subst hk0
   with_reducible repeat' (first|refine Sp.h ?_|((first|refine Wd ?_|refine Ss.h ?_|(refine Sb.h ?_ ?_ ?_<;>(try intro hgd)<;>try exact Xy))<;>simp -implicitDefEqProofs (maxSteps:=2000000) [hP,hN,g4,g7,g79,g80,g81,lj,lI]<;>try refine Yc ?_)|refine X2 ?_ ?_|(refine Xd ?_ ?_<;>intro hcd<;>try exact Xx))
   refine WP.loopN [] 0 (λj st=>st.t 4=.ptr 290 0∧st.t 7=.pv (.sl [Z 0])∧st.t 79=.pv (.sl [Z 0])∧st.t 80=.pv (Z 1)∧st.t 81=.pv (Z 0)∧st.t 88=.pv (.sl [])∧st.t 89=.pv (Z 0)∧st.t 90=.pv (Z j)∧∀q,inK q=true->st.h q=aM true (xk r v) 0 q) ?_ ?_
   .refine⟨by simp[St.kill,aq,aQ,ax,ah,g4],by simp[St.kill,aq,aQ,ax,ah,g7],by simp[St.kill,aq,aQ,ax,ah,g79],by simp[St.kill,aq,aQ,ax,ah,g80],by simp[St.kill,aq,aQ,ax,ah,g81],by simp[St.kill,aq,aQ,ax,ah],by simp[St.kill,aq,aQ,ax,ah],by simp[St.kill,aq,aQ,ax,ah],λq hq=>?_⟩
    show(st.h q).map (bm [])=_;rw[bH q hq,fJ]
   clear g4 g7 g79 g80 g81 bH st;rintro j st hj ⟨g4,g7,g79,g80,g81,g88,g89,g90,bH⟩
   have hj0:j=0:=by omega
   subst hj0;refine ym (gA g4 (gA g7 (gA g79 (gA g80 (gA g81 (gA g88 (gA g89 g90))))))) ?_
   all_goals exact⟨ab (by omega) (by omega),λq hq=>by rw[bH q hq,fJ]⟩
  .have hk1:k=1:=by omega
   subst hk1;refine ym (gA g4 (gA g7 (gA g79 (gA g80 g81)))) ?_
   exact qL (H:=aM true (xk r v) 0) (r:=.ptr 290 0) rfl rfl bH (lg (by simp[xk])) ⟨rfl,rfl⟩ (λk cs f hk=>by
    subst hRR
    obtain⟨_,h9⟩:=dn hk;cases h9)
theorem Gn{L:OL}(h:cK t=some L){b:Bx}(hb:L[i]?=some (some b)):dU t (i:Int)=b:=by
 rw[mo h]at hb;rw[List.getElem?_map,Option.map_eq_some_iff]at hb;obtain⟨x,h1,h2⟩:=hb;injection h2 with h2;subst h2;simp[dU,h1]
theorem Gp(hv:ay t=true):dU t 0=t.root:=by
 obtain⟨L,hL⟩:=Option.isSome_iff_exists.1 hv;have hP:=j9 (P:=λ_ M=>M[0]?=some (some t.root)) hL (by simp[iJ]) (λk d M M' _ hp hm=>xM hm hp);exact Gn hL hP
def je(a b:Bx):Prop:=∃(j:Nat)(x y:Int×Int),a[j]?=some x∧b[j]?=some y∧(x.2<=y.1∨y.2<=x.1)
theorem je.symm{a b:Bx}(h:je a b):je b a:=by
 obtain⟨j,x,y,h1,h2,h3⟩:=h;exact⟨j,y,x,h2,h1,h3.symm⟩
def iK(t:Tr)(i:Int):Bool:=ay t&&decide (0<=i)&&decide (i<t.cells.length)
def fP(t:Tr)(i:Int):Bx:=if iK t i then dU t i else[]
theorem wj{i:Int}(h:iK t i=false):fP t i=[]:=by simp[fP,h]
theorem KG(t:Tr)(i:Int)(hl:t.cells.length<=9223372036854775807):aa Tryz.prog 41 [.pv (da t),.pv (Z i)] [] [] (.pv (.tup [iv (fP t i),B (iK t i)])):=by
 have cb:=IJ t hl
 cases hv:ay t with
 |false=>
  have hno:iK t i=false:=by simp[iK,hv]
  rw[wj hno,hno];rw[hv]at cb;refine Dp Tryz.func41 ?_;intro C hP hN;simp only[Tryz.f41]at hN|-;exact GS trivial
 |true=>
  rw[hv]at cb;have hbl:=lY hv;have hz:=bG.1 (dz hv);by_cases h1:i<0
  .have hno:iK t i=false:=by
    have:decide (0<=i)=false:=by simp;omega
    simp only[iK,this,Bool.and_false,Bool.false_and]
   rw[wj hno,hno];refine Dp Tryz.func41 ?_;intro C hP hN;simp only[Tryz.f41]at hN|-;exact GS h1
  .obtain⟨k,rfl⟩:=Int.eq_ofNat_of_zero_le (show 0<=i by omega)
   by_cases h2:t.cells.length<=k
   .have hno:iK t k=false:=by
     have:decide ((k:Int)<t.cells.length)=false:=by simp;omega
     simp only[iK,this,Bool.and_false,Bool.false_and]
    rw[wj hno,hno];refine Dp Tryz.func41 ?_;intro C hP hN;simp only[Tryz.f41]at hN|-;exact GS (gA h1 (gA h2 hbl))
   .have hlt:k<t.cells.length:=by omega
    have hlt':k<(ao t).length:=by omega
    obtain⟨hb1,hb2,_⟩:=wi hv (c:=(k:Int)) hlt;have hb1':(ao t)[k]?=some (dU t k):=hb1;have hb3:=aT hb1' hlt'
    have hyes:iK t k=true:=by simp[iK,hv,hlt]
    have hbo:fP t k=dU t k:=by simp[fP,hyes]
    rw[hbo,hyes];have cc:=Kx (dU t k) (by omega);refine Dp Tryz.func41 ?_;intro C hP hN;simp only[Tryz.f41]at hN|-;exact GS (gA h1 (gA h2 (gA hbl (gA hlt (gA hlt' (gA hb1' hb3))))))
theorem N8(v:Verd):aa Tryz.prog 36 [.pv (k7 v)] [] [] (.pv (aW (aP v))):=by
 refine Dp Tryz.func36 ?_;intro C hP hN;simp only[Tryz.f36]at hN|-;refine GT trivial ?_
 all_goals simp[aP]
theorem Ll(xs:List (Int×Int×Int))(hl:xs.length<=16777216):aa Tryz.prog 114 [.pv (.sl (xs.map aR))] [] [] (.pv (.sl (xs.map aR))):=by
 by_cases hx:xs=[]
 .subst hx
  refine Dp Tryz.func114 ?_;intro C hP hN;simp only[Tryz.f114]at hN|-;exact Ij [5] trivial
 .have hne:xs.isEmpty=false:=by simp[hx]
  refine Dp Tryz.func114 ?_;intro C hP hN;simp only[Tryz.f114]at hN|-;exact Ij [5] (gA hx (gA hne (gA (show xs.length*24<=140737488355328 by omega) (show xs.length<=9223372036854775807 by omega))))
theorem Gq(xs:List Cel)(hl:xs.length<=16777216)(hx:xs≠[]):aa Tryz.prog 112 [.pv (.sl (xs.map aW))] [] [] (.row 76 8 (xs.map aW)):=by
 have hne:xs.isEmpty=false:=by simp[hx]
 refine Dp Tryz.func112 ?_;intro C hP hN;simp only[Tryz.f112]at hN|-;exact Ij [5] (gA hx (gA hne (gA (show xs.length*112<=140737488355328 by omega) (show xs.length<=9223372036854775807 by omega))))
def CQ(n:Nat)(v:Verd):Prop:=v.nor.length<=n∧v.left.length<=n∧v.right.length<=n
theorem N6(v:Verd)(hv:CQ 16777216 v):aa Tryz.prog 82 [.pv (k7 v)] [] [] (.pv (k7 v)):=by
 have c1:=Ll v.nor hv.1;have c2:=K0 v.left hv.2.1;have c3:=K0 v.right hv.2.2;refine Dp Tryz.func82 ?_;intro C hP hN;simp only[Tryz.f82]at hN|-;exact GS trivial
theorem OT(r:List (Int×Int))(hl:r.length<=16777216):aa Tryz.prog 17 [.pv (iv r)] [] [] (.pv (.tup [da (qK r),B (dt r)])):=by
 have cc:=Kx r hl;have cl:aa Tryz.prog 36 [.pv (.agg [Z 0,.sl [],Z 0,.sl [],.sl []])] [] [] (.pv (.agg [Z (-1),Z (-1),Z (-1),Z 0,.sl [],Z 0,.sl [],.sl []])):=N8 bn
 have cv:aa Tryz.prog 37 [.pv (.agg [iv r,.sl [.agg [Z (-1),Z (-1),Z (-1),Z 0,.sl [],Z 0,.sl [],.sl []]]])] [] [] (.pv (B (dt r))):=by
  have:=I5 ⟨r,[aP bn]⟩ (by simp);rw[qt]at this;exact this
 cases h:dt r with
 |true=>
  rw[h]at cv;refine Dp Tryz.func17 ?_;intro C hP hN;simp only[Tryz.f17]at hN|-;refine GT trivial ?_
  all_goals simp[qK,h,aP,bn]
 |false=>
  rw[h]at cv;refine Dp Tryz.func17 ?_;intro C hP hN;simp only[Tryz.f17]at hN|-;refine GT trivial ?_
  all_goals simp[qK,h]
structure TSm(t:Tr):Prop where
 root:t.root.length<=16777216
 cells:t.cells.length<=16777216
 vs:∀c∈t.cells,CQ 16777216 c.v
set_option maxRecDepth 10000 in
theorem Gr(t:Tr)(ht:TSm t)(hne:t.cells≠[]):aa Tryz.prog 79 [.pv (da t)] [] [] (.srow [iv t.root] 76 8 (t.cells.map aW)):=by
 have c1:=Gq t.cells ht.cells hne;have c2:=Kx t.root ht.root;have hl:=ht.cells;refine Dp Tryz.func79 ?_;intro C hP hN;simp only[Tryz.f79]at hN|-;refine GT trivial ?_;refine WP.loopN [5] t.cells.length (λi st=>st.t 1=.ptr 1 0∧st.t 2=.ptr 2 0∧st.t 3=.arr 8 t.cells.length∧st.t 9=.arr 8 t.cells.length∧st.t 10=.pv (Z t.cells.length)∧st.t 11=.pv (Z i)∧st.h 1=some (.box [.pv (iv t.root),.pv (.sl (t.cells.map aW))] true false)∧st.h 2=some (.box [.pv (.val (.slice none 0 0)),.pv (.val (.slice none 0 0))] true false)∧st.h 5=none∧st.h 8=some (.row 76 8 (t.cells.map aW) 0)) (by simp) ?_;rintro i st hi ⟨g1,g2,g3,g9,g10,g11,hb1,hb2,hb5,hb8⟩;by_cases hlt:i<t.cells.length
 .have hw:=au hlt (by omega)
  generalize hc:t.cells[i]=c at *
  have hci:t.cells[i]?=some c:=by rw[List.getElem?_eq_getElem hlt,hc]
  have cv:=N6 c.v (ht.vs c (List.mem_of_getElem? hci))
  have hset:(t.cells.map aW).set i (aW c)=t.cells.map aW:=by
   apply List.ext_getElem?;intro j;rw[List.getElem?_set];by_cases e:i=j
   .subst e;simp[hlt,hc]
   .rw[if_neg e]
  with_reducible repeat' (first|refine Sp.h ?_|((first|refine Ss.h ?_|refine Sc.h (cv) ?_|(refine Sb.h ?_ ?_ ?_<;>(try intro hgd)<;>try exact Xy))<;>simp -implicitDefEqProofs (maxSteps:=2000000) [hP,hN,g1,g2,g3,g9,g10,g11,hb1,hb2,hb5,hb8,hlt,hw,hci,hc])|refine X2 ?_ ?_|(refine Xd ?_ ?_<;>intro hcd<;>try exact Xx))
  all_goals exact hset
 .skip
  with_reducible repeat' (first|refine Sp.h ?_|((first|refine Ss.h ?_|refine Sc.h (c2) ?_|(refine Sb.h ?_ ?_ ?_<;>(try intro hgd)<;>try exact Xy))<;>simp -implicitDefEqProofs (maxSteps:=2000000) [hP,hN,g1,g2,g3,g9,g10,g11,hb1,hb2,hb5,hb8,hlt])|refine X2 ?_ ?_|(refine Xd ?_ ?_<;>intro hcd<;>try exact Xx))
  all_goals exact⟨8,⟨rfl,rfl⟩,hb8⟩
theorem HQ(D:Nat){t e:TypeId}(ht:P.underlying t=some (.array 3 e))(hs:al P (sizeOf e)=some 1)(e0:∀x y:Int,al P (Op.equalIn D e (.int .i64 x) (.int .i64 y))=some (x==y)){xs ys:Array Value}{c a' b' c':Int}
 (p0:al P (part e xs (0*1))=some (.int .i64 a))(p1:al P (part e xs (1*1))=some (.int .i64 b))(p2:al P (part e xs (2*1))=some (.int .i64 c))
 (q0:al P (part e ys (0*1))=some (.int .i64 a'))(q1:al P (part e ys (1*1))=some (.int .i64 b'))(q2:al P (part e ys (2*1))=some (.int .i64 c')):
 al P (Op.equalIn (D+1) t (.agg xs) (.agg ys))=some (a==a'&&b==b'&&c==c'):=by
 simp only[Op.equalIn,aj,iy ht,Option.bind_some];simp only[hs,Option.bind_some,Std.Legacy.Range.forIn_eq_forIn_range',Std.Legacy.Range.size]
 have hr:List.range' 0 ((3-0+1-1)/1) 1=[0,1,2]:=by decide
 rw[hr];simp only[List.forIn_cons,List.forIn_nil,aj,p0,q0,e0,Option.bind_some];cases h1:(a==a')
 .simp[dA]
 simp only[Bool.not_true,Bool.false_eq_true,if_false,dA,Option.bind_some,aj,p1,q1,e0];cases h2:(b==b')
 .simp[dA]
 simp only[Bool.not_true,Bool.false_eq_true,if_false,dA,Option.bind_some,aj,p2,q2,e0];cases h3:(c==c')
 all_goals simp[dA]
theorem J9(a b e c d f:Int):al Tryz.prog (Op.equal 49 (.agg #[.int .i64 a,.int .i64 b,.int .i64 e]) (.agg #[.int .i64 c,.int .i64 d,.int .i64 f]))=some (a==c&&b==d&&e==f):=
 HQ 9999 Tryz.underlying49 (by kernel_rfl) (λx y=>tn (P:=Tryz.prog) 9998 2 .i64 .i64 x y Tryz.underlying2) (by kernel_rfl) (by kernel_rfl) (by kernel_rfl) (by kernel_rfl) (by kernel_rfl) (by kernel_rfl)
def zY(x:AV):Option (Int×Int×Int):=match x with
 |.pv (.val (.agg vs))=>match vs.toList with
  |[.int .i64 a,.int .i64 b,.int .i64 c]=>some (a,b,c)
  |_=>none
 |_=>none
theorem xJ{x:AV}{c:Int}(h:zY x=some (a,b,c)):x=.pv (aR (a,b,c)):=by
 unfold zY at h;split at h
 .split at h
  .rename_i vs _ a' b' c' hv
   injection h with h;injection h with h1 h2;injection h2 with h2 h3;subst h1;subst h2;subst h3;rw[<-Array.toArray_toList (xs:=vs),hv]
  .cases h
 .cases h
def Gb(x y:AV)(fb:Option dm):Option dm:=match zY x,zY y with
 |some (a,b,e),some (c,d,f)=>some (.pv (.val (.bool !(a==c&&b==d&&e==f))),[])
 |_,_=>fb
@[simp] theorem KB(a b e c d f:Int)(fb:Option dm):Gb (.pv (.val (.agg #[.int .i64 a,.int .i64 b,.int .i64 e]))) (.pv (.val (.agg #[.int .i64 c,.int .i64 d,.int .i64 f]))) fb=some (.pv (.val (.bool !(a==c&&b==d&&e==f))),[]):=rfl
@[simp] theorem OD(x y:Operand):
 bz Tryz.prog ⟨dst,.binOp .neq 49 x y 49,ty,pos,aft,g⟩ ρ=Gb (ρ x) (ρ y) (mF Tryz.prog ⟨dst,.binOp .neq 49 x y 49,ty,pos,aft,g⟩ ρ):=by
 unfold Gb;split
 .rename_i a b e c d f hx hy
  exact wW rfl (xJ hx) (xJ hy) (by kernel_rfl) (J9 a b e c d f)
 .rfl
abbrev Iv:=Int×Int
def nU(a:Int):Int:=min (max a (-2147483648)) 2147483648
def eE(a m:Int):Int:=-((-a)/m)
theorem dq(m n:Nat)(ha:-(m:Int)<=a)(ha':a<=m)(hb:-(n:Int)<=b)(hb':b<=n):-((m*n:Nat):Int)<=a*b∧a*b<=((m*n:Nat):Int):=by
 have h1:(a*b).natAbs<=m*n:=by
  rw[Int.natAbs_mul];exact Nat.mul_le_mul (by omega) (by omega)
 omega
theorem EP(a:Int)(m:Nat):a.fdiv (m:Int)=a/(m:Int):=Int.fdiv_eq_ediv_of_nonneg a (by omega)
theorem IQ(a:Int):a.fdiv 65536=a/65536:=EP a 65536
theorem IR(a:Int):a.fdiv 16384=a/16384:=EP a 16384
theorem IS(a:Int):a.fdiv 1073741824=a/1073741824:=EP a 1073741824
theorem Be(a:Int)(ha:-4611686018427387904<=a)(hb:a<=4611686018427387904):aa Tryz.prog 166 [.pv (Z a),.pv (Z 16)] [] [] (.pv (Z (eE a 65536))):=by
 have h1:a.fdiv (2^min 16 IntKind.i64.bits)=a/65536:=IQ a
 have h2:IntKind.i64.wrap (a/65536*2^min 16 IntKind.i64.bits)=a/65536*65536:=by
  show IntKind.i64.wrap (a/65536*65536)=_;exact ab (by omega) (by omega)
 have h3:IntKind.i64.wrap (a/65536+1)=a/65536+1:=ab;by_cases he:a/65536*65536=a
 .have hf:eE a 65536=a/65536:=by unfold eE;omega
  rw[hf];refine Dp Tryz.func166 ?_;intro C hP hN;simp only[Tryz.f166]at hN|-;exact Gy
 .have hf:eE a 65536=a/65536+1:=by unfold eE;omega
  rw[hf]
  have he':(a/65536*65536==a)=false:=by simpa using he
  refine Dp Tryz.func166 ?_;intro C hP hN;simp only[Tryz.f166]at hN|-;exact Gy
theorem IT(a:Int):aa Tryz.prog 118 [.pv (Z a),.pv (Z 16)] [] [] (.pv (Z (a/65536))):=by
 have h1:a.fdiv (2^min 16 IntKind.i64.bits)=a/65536:=IQ a;refine Dp Tryz.func118 ?_;intro C hP hN;simp only[Tryz.f118]at hN|-;exact Gy
theorem Lv(a:Int)(ha:-4611686018427387904<=a)(hb:a<=4611686018427387904):aa Tryz.prog 166 [.pv (Z a),.pv (Z 14)] [] [] (.pv (Z (eE a 16384))):=by
 have h1:a.fdiv (2^min 14 IntKind.i64.bits)=a/16384:=IR a
 have h2:IntKind.i64.wrap (a/16384*2^min 14 IntKind.i64.bits)=a/16384*16384:=by
  show IntKind.i64.wrap (a/16384*16384)=_;exact ab (by omega) (by omega)
 have h3:IntKind.i64.wrap (a/16384+1)=a/16384+1:=ab;by_cases he:a/16384*16384=a
 .have hf:eE a 16384=a/16384:=by unfold eE;omega
  rw[hf];refine Dp Tryz.func166 ?_;intro C hP hN;simp only[Tryz.f166]at hN|-;exact Gy
 .have hf:eE a 16384=a/16384+1:=by unfold eE;omega
  rw[hf]
  have he':(a/16384*16384==a)=false:=by simpa using he
  refine Dp Tryz.func166 ?_;intro C hP hN;simp only[Tryz.f166]at hN|-;exact Gy
theorem Lx(a:Int):aa Tryz.prog 118 [.pv (Z a),.pv (Z 14)] [] [] (.pv (Z (a/16384))):=by
 have h1:a.fdiv (2^min 14 IntKind.i64.bits)=a/16384:=IR a;refine Dp Tryz.func118 ?_;intro C hP hN;simp only[Tryz.f118]at hN|-;exact Gy
theorem Ly(a:Int)(ha:-4611686018427387904<=a)(hb:a<=4611686018427387904):aa Tryz.prog 166 [.pv (Z a),.pv (Z 30)] [] [] (.pv (Z (eE a 1073741824))):=by
 have h1:a.fdiv (2^min 30 IntKind.i64.bits)=a/1073741824:=IS a
 have h2:IntKind.i64.wrap (a/1073741824*2^min 30 IntKind.i64.bits)=a/1073741824*1073741824:=by
  show IntKind.i64.wrap (a/1073741824*1073741824)=_;exact ab (by omega) (by omega)
 have h3:IntKind.i64.wrap (a/1073741824+1)=a/1073741824+1:=ab;by_cases he:a/1073741824*1073741824=a
 .have hf:eE a 1073741824=a/1073741824:=by unfold eE;omega
  rw[hf];refine Dp Tryz.func166 ?_;intro C hP hN;simp only[Tryz.f166]at hN|-;exact Gy
 .have hf:eE a 1073741824=a/1073741824+1:=by unfold eE;omega
  rw[hf]
  have he':(a/1073741824*1073741824==a)=false:=by simpa using he
  refine Dp Tryz.func166 ?_;intro C hP hN;simp only[Tryz.f166]at hN|-;exact Gy
theorem Lz(a:Int):aa Tryz.prog 118 [.pv (Z a),.pv (Z 30)] [] [] (.pv (Z (a/1073741824))):=by
 have h1:a.fdiv (2^min 30 IntKind.i64.bits)=a/1073741824:=IS a;refine Dp Tryz.func118 ?_;intro C hP hN;simp only[Tryz.f118]at hN|-;exact Gy
def qE(x y:Iv):Iv:=if aC x.1 x.2&&aC y.1 y.2 then(nU (x.1+y.1),nU (x.2+y.2))else(0,0)
def lh(x:Iv):Iv:=if aC x.1 x.2 then(-x.2,-x.1)else(0,0)
def vL(x y:Iv):Iv:=if aC x.1 x.2&&aC y.1 y.2 then
 (nU (min (x.1*y.1) (min (x.1*y.2) (min (x.2*y.1) (x.2*y.2)))/65536),nU (eE (max (x.1*y.1) (max (x.1*y.2) (max (x.2*y.1) (x.2*y.2)))) 65536))else(0,0)
def sN(x:Int):Iv:=(nU x,nU x)
theorem jY:aC a b=true↔-2147483648<=a∧a<=b∧b<=2147483648:=by
 simp only[aC,Bool.and_eq_true,decide_eq_true_eq];constructor
 .rintro⟨⟨h1,h2⟩,h3⟩;exact⟨h1,h2,h3⟩
 .rintro⟨h1,h2,h3⟩;exact⟨⟨h1,h2⟩,h3⟩
theorem GX(a b:Int):aa Tryz.prog 187 [.pv (Z a),.pv (Z b)] [] [] (.pv (I (nU a) (nU b))):=Jf a b
theorem yu(a:Int):aa Tryz.prog 173 [.pv (Z a)] [] [] (.pv (I (nU a) (nU a))):=MC a
theorem Je{c:Int}:aa Tryz.prog 184 [.pv (I a b),.pv (I c d)] [] [] (.pv (aU (qE (a,b) (c,d)))):=by
 cases hv:(aC a b&&aC c d)with
 |false=>
  have hr:qE (a,b) (c,d)=(0,0):=by simp[qE,hv]
  rw[hr];refine Dp Tryz.func184 ?_;intro C hP hN;simp only[Tryz.f184]at hN|-;have q1:=@IA;exact GS hv
 |true=>
  have hr:qE (a,b) (c,d)=(nU (a+c),nU (b+d)):=by simp only[qE,hv,if_true]
  rw[hr];have hv':=hv;rw[Bool.and_eq_true,jY,jY]at hv';have w1:IntKind.i64.wrap (a+c)=a+c:=ab;have w2:IntKind.i64.wrap (b+d)=b+d:=ab;refine Dp Tryz.func184 ?_;intro C hP hN;simp only[Tryz.f184]at hN|-
  with_reducible repeat' (first|refine Sp.h ?_|((first|refine Ss.h ?_|refine Sc.h (IA _ _ _ _) ?_|refine Sc.h (GX _ _) ?_|(refine Sb.h ?_ ?_ ?_<;>(try intro hgd)<;>try exact Xy))<;>simp -implicitDefEqProofs (maxSteps:=2000000) [hP,hN,hv,w1,w2])|refine X2 ?_ ?_|(refine Xd ?_ ?_<;>intro hcd<;>try exact Xx))
theorem Mb:aa Tryz.prog 203 [.pv (I a b)] [] [] (.pv (aU (lh (a,b)))):=by
 cases hv:aC a b with
 |false=>
  have hr:lh (a,b)=(0,0):=by simp[lh,hv]
  rw[hr];refine Dp Tryz.func203 ?_;intro C hP hN;simp only[Tryz.f203]at hN|-;have q1:=@CI;exact GS hv
 |true=>
  have hr:lh (a,b)=(-b,-a):=by simp only[lh,hv,if_true]
  rw[hr];have hv':=hv;rw[jY]at hv';have w1:IntKind.i64.wrap (-b)=-b:=ab;have w2:IntKind.i64.wrap (-a)=-a:=ab;have w3:IntKind.i64.wrap (0-b)=-b:=(ab (n:=0-b) (by omega) (by omega)).trans (by omega);have w4:IntKind.i64.wrap (0-a)=-a:=(ab (n:=0-a) (by omega) (by omega)).trans (by omega);refine Dp Tryz.func203 ?_;intro C hP hN;simp only[Tryz.f203]at hN|-;have q1:=@CI;exact GS (gA hv (gA w1 (gA w2 (gA w3 w4))))
theorem FX(a b:Int)(ha:-4611686018427387904<=b)(hb:b<=4611686018427387904):aa Tryz.prog 193 [.pv (Z a),.pv (Z b)] [] [] (.pv (I (nU (a/65536)) (nU (eE b 65536)))):=by
 refine Dp Tryz.func193 ?_;intro C hP hN;simp only[Tryz.f193]at hN|-
 with_reducible repeat' (first|refine Sp.h ?_|((first|refine Ss.h ?_|refine Sc.h (IT _) ?_|refine Sc.h (Be _ ha hb) ?_|refine Sc.h (GX _ _) ?_|(refine Sb.h ?_ ?_ ?_<;>(try intro hgd)<;>try exact Xy))<;>simp -implicitDefEqProofs (maxSteps:=2000000) [hP,hN])|refine X2 ?_ ?_|(refine Xd ?_ ?_<;>intro hcd<;>try exact Xx))
@[simp] theorem Pe:IntKind.i64.wrap 1=1:=by decide
@[simp] theorem Pf:IntKind.i64.wrap 2=2:=by decide
@[simp] theorem Pg:IntKind.i64.wrap 3=3:=by decide
@[simp] theorem Ph:IntKind.i64.wrap 4=4:=by decide
theorem LB(h:i<=4):i=0∨i=1∨i=2∨i=3∨i=4:=by omega
theorem LF{c:Int}:aa Tryz.prog 185 [.pv (I a b),.pv (I c d)] [] [] (.pv (aU (vL (a,b) (c,d)))):=by
 cases hv:(aC a b&&aC c d)with
 |false=>
  have hr:vL (a,b) (c,d)=(0,0):=by simp[vL,hv]
  rw[hr];refine Dp Tryz.func185 ?_;intro C hP hN;simp only[Tryz.f185]at hN|-;have q1:=@IA;exact GS hv
 |true=>
  have hv':=hv;rw[Bool.and_eq_true,jY,jY]at hv';have m1:=dq (a:=a) (b:=c) 2147483648 2147483648 (by omega) (by omega) (by omega) (by omega);have m2:=dq (a:=a) (b:=d) 2147483648 2147483648 (by omega) (by omega) (by omega) (by omega);have m3:=dq (a:=b) (b:=c) 2147483648 2147483648 (by omega) (by omega) (by omega) (by omega);have m4:=dq (a:=b) (b:=d) 2147483648 2147483648 (by omega) (by omega) (by omega) (by omega);have w1:IntKind.i64.wrap (a*c)=a*c:=ab;have w2:IntKind.i64.wrap (a*d)=a*d:=ab;have w3:IntKind.i64.wrap (b*c)=b*c:=ab;have w4:IntKind.i64.wrap (b*d)=b*d:=ab
  have hr:vL (a,b) (c,d)=(nU (min (a*c) (min (a*d) (min (b*c) (b*d)))/65536),nU (eE (max (a*c) (max (a*d) (max (b*c) (b*d)))) 65536)):=by simp only[vL,hv,if_true]
  rw[hr];generalize hp0:a*c=p0 at *;generalize hp1:a*d=p1 at *;generalize hp2:b*c=p2 at *;generalize hp3:b*d=p3 at *;have cs:=FX (min p0 (min p1 (min p2 p3))) (max p0 (max p1 (max p2 p3))) (by omega) (by omega);refine Dp Tryz.func185 ?_;intro C hP hN;simp only[Tryz.f185]at hN|-
  with_reducible repeat' (first|refine Sp.h ?_|((first|refine Wd ?_|refine Ss.h ?_|refine Sc.h (IA _ _ _ _) ?_|(refine Sb.h ?_ ?_ ?_<;>(try intro hgd)<;>try exact Xy))<;>simp -implicitDefEqProofs (maxSteps:=2000000) [hP,hN,hv,w1,w2,w3,w4,hp0,hp1,hp2,hp3]<;>try refine Ya ?_)|refine X2 ?_ ?_|(refine Xd ?_ ?_<;>intro hcd<;>try exact Xx))
  refine WP.loopN [] 4 (λi st=>st.t 4=.ptr 4 0∧st.h 4=some (.box [.pv (Z 0),.pv (Z 0)] true false)∧st.t 40=.pv (.val (.agg #[.int .i64 p0,.int .i64 p1,.int .i64 p2,.int .i64 p3]))∧st.t 41=.pv (Z i)∧
   st.t 6=.pv (Z (if i<=1 then p0 else if i=2 then min p0 p1 else if i=3 then min p0 (min p1 p2)else min p0 (min p1 (min p2 p3))))∧st.t 7=.pv (Z (if i<=1 then p0 else if i=2 then max p0 p1 else if i=3 then max p0 (max p1 p2)else max p0 (max p1 (max p2 p3))))) (by simp) ?_
  rintro i st hi ⟨g4,hb4,g40,g41,g6,g7⟩;rcases LB hi with rfl|rfl|rfl|rfl|rfl
  all_goals (simp at g6 g7)
  all_goals
   exact Gy
def gX(x:Int):Nat->Int
 |0=>1073741824
 |1=>x*6746518852/65536
 |k+2=>gX x (k+1)*(x*6746518852/65536)/1073741824
def gY(x:Int):Nat->Int
 |0=>1073741824
 |1=>eE (x*6746518853) 65536
 |k+2=>eE (gY x (k+1)*eE (x*6746518853) 65536) 1073741824
theorem rj{x:Int}(h0:0<=x)(h1:x<=8192):∀k,0<=gX x k∧gX x k<=1073741824
 |0=>by simp[gX]
 |1=>by simp only[gX];omega
 |k+2=>by
  have h:=rj h0 h1 (k+1)
  have h2:0<=x*6746518852/65536∧x*6746518852/65536<=1073741824:=by omega
  simp only[gX];generalize x*6746518852/65536=y at *;have h3:=Int.mul_nonneg h.1 h2.1;have h4:=Int.mul_le_mul h.2 h2.2 h2.1 (by decide:(0:Int)<=1073741824);omega
theorem rl{x:Int}(h0:0<=x)(h1:x<=8192):∀k,0<=gY x k∧gY x k<=1073741824
 |0=>by simp[gY]
 |1=>by simp only[gY,eE];omega
 |k+2=>by
  have h:=rl h0 h1 (k+1)
  have h2:0<=eE (x*6746518853) 65536∧eE (x*6746518853) 65536<=1073741824:=by unfold eE;omega
  simp only[gY];generalize eE (x*6746518853) 65536=y at *;have h3:=Int.mul_nonneg h.1 h2.1;have h4:=Int.mul_le_mul h.2 h2.2 h2.1 (by decide:(0:Int)<=1073741824);unfold eE;omega
theorem CE{x:Int}(h0:0<=x)(h1:x<=8192)(j:Nat):0<=gX x j*gX x 1∧gX x j*gX x 1<=1152921504606846976:=by
 have h:=rj h0 h1 j;have h2:=rj h0 h1 1;have h3:=Int.mul_nonneg h.1 h2.1;have h4:=Int.mul_le_mul h.2 h2.2 h2.1 (by decide:(0:Int)<=1073741824);omega
theorem uB{x:Int}(h0:0<=x)(h1:x<=8192)(j:Nat):0<=gY x j*gY x 1∧gY x j*gY x 1<=1152921504606846976:=by
 have h:=rl h0 h1 j;have h2:=rl h0 h1 1;have h3:=Int.mul_nonneg h.1 h2.1;have h4:=Int.mul_le_mul h.2 h2.2 h2.1 (by decide:(0:Int)<=1073741824);omega
def po(f:Nat->Int)(n:Nat):List AV:=[.pv (Z (if 0<n then f 0 else 0)),.pv (Z (if 1<n then f 1 else 0)),.pv (Z (if 2<n then f 2 else 0)),.pv (Z (if 3<n then f 3 else 0)),.pv (Z (if 4<n then f 4 else 0)),.pv (Z (if 5<n then f 5 else 0)),
 .pv (Z (if 6<n then f 6 else 0)),.pv (Z (if 7<n then f 7 else 0)),.pv (Z (if 8<n then f 8 else 0)),.pv (Z (if 9<n then f 9 else 0)),.pv (Z (if 10<n then f 10 else 0))]
abbrev G3(f:Nat->Int):PV:=.val (.agg #[.int .i64 (f 0),.int .i64 (f 1),.int .i64 (f 2),.int .i64 (f 3),.int .i64 (f 4),.int .i64 (f 5),.int .i64 (f 6),.int .i64 (f 7),.int .i64 (f 8),.int .i64 (f 9),.int .i64 (f 10)])
@[simp] theorem Pk:IntKind.i64.wrap 5=5:=by decide
@[simp] theorem Pl:IntKind.i64.wrap 6=6:=by decide
@[simp] theorem Pm:IntKind.i64.wrap 7=7:=by decide
@[simp] theorem Pn:IntKind.i64.wrap 8=8:=by decide
@[simp] theorem Po:IntKind.i64.wrap 9=9:=by decide
@[simp] theorem Oo:IntKind.i64.wrap 10=10:=by decide
@[simp] theorem Oq:IntKind.i64.wrap 11=11:=by decide
set_option maxRecDepth 4000 in
theorem I8(x:Int)(h0:0<=x)(h1:x<=8192):aa Tryz.prog 213 [.pv (Z x)] [] [] (.pv (.tup [G3 (gX x),G3 (gY x)])):=by
 have w1:IntKind.i64.wrap (x*6746518852)=x*6746518852:=ab;have w2:IntKind.i64.wrap (x*6746518853)=x*6746518853:=ab;have c1:aa Tryz.prog 118 [.pv (Z (x*6746518852)),.pv (Z 16)] [] [] (.pv (Z (gX x 1))):=IT _;have c2:aa Tryz.prog 166 [.pv (Z (x*6746518853)),.pv (Z 16)] [] [] (.pv (Z (gY x 1))):=Be _ (by omega) (by omega);have m1:∀j,IntKind.i64.wrap (gX x j*gX x 1)=gX x j*gX x 1:=λj=>ab (by have:=CE h0 h1 j;omega) (by have:=CE h0 h1 j;omega);have m2:∀j,IntKind.i64.wrap (gY x j*gY x 1)=gY x j*gY x 1:=λj=>ab (by have:=uB h0 h1 j;omega) (by have:=uB h0 h1 j;omega);have c3:∀j,aa Tryz.prog 118 [.pv (Z (gX x (j+1)*gX x 1)),.pv (Z 30)] [] [] (.pv (Z (gX x (j+2)))):=λj=>Lz _;have c4:∀j,aa Tryz.prog 166 [.pv (Z (gY x (j+1)*gY x 1)),.pv (Z 30)] [] [] (.pv (Z (gY x (j+2)))):=λj=>Ly _ (by have:=uB h0 h1 (j+1);omega) (by have:=uB h0 h1 (j+1);omega);have z1:gX x 0=1073741824:=rfl;have z2:gY x 0=1073741824:=rfl;generalize gX x=f at *;generalize gY x=g at *;refine Dp Tryz.func213 ?_;intro C hP hN;simp only[Tryz.f213]at hN|-;refine Gz ?_;refine WP.loopN [] 9 (λi st=>st.t 2=.ptr 2 0∧st.t 3=.ptr 3 0∧st.t 4=.ptr 4 0∧st.t 5=.ptr 5 0∧st.t 6=.pv (Z (i+2:Nat))∧st.h 2=some (.box (po f 0) true false)∧st.h 3=some (.box (po f 0) true false)∧st.h 4=some (.box (po f (i+2)) true false)∧st.h 5=some (.box (po g (i+2)) true false)) (by simp[po,z1,z2]) ?_;rintro i st hi ⟨g2,g3,g4,g5,g6,hb2,hb3,hb4,hb5⟩
 have hc:i=0∨i=1∨i=2∨i=3∨i=4∨i=5∨i=6∨i=7∨i=8∨i=9:=by omega
 rcases hc with rfl|rfl|rfl|rfl|rfl|rfl|rfl|rfl|rfl|rfl
 all_goals (simp only[po]at hb2 hb3 hb4 hb5;simp at g6 hb2 hb3 hb4 hb5)
 all_goals skip
 .skip
  with_reducible repeat' (first|refine Sp.h ?_|((first|refine Wd ?_|refine Ss.h ?_|refine Sc.h (c3 0) ?_|refine Sc.h (c4 0) ?_|(refine Sb.h ?_ ?_ ?_<;>(try intro hgd)<;>try exact Xy))<;>simp -implicitDefEqProofs (maxSteps:=2000000) [hP,hN,g2,g3,g4,g5,g6,hb2,hb3,hb4,hb5,m1,m2,po]<;>try refine Ya ?_)|refine X2 ?_ ?_|(refine Xd ?_ ?_<;>intro hcd<;>try exact Xx))
 .skip
  with_reducible repeat' (first|refine Sp.h ?_|((first|refine Wd ?_|refine Ss.h ?_|refine Sc.h (c3 1) ?_|refine Sc.h (c4 1) ?_|(refine Sb.h ?_ ?_ ?_<;>(try intro hgd)<;>try exact Xy))<;>simp -implicitDefEqProofs (maxSteps:=2000000) [hP,hN,g2,g3,g4,g5,g6,hb2,hb3,hb4,hb5,m1,m2,po]<;>try refine Ya ?_)|refine X2 ?_ ?_|(refine Xd ?_ ?_<;>intro hcd<;>try exact Xx))
 .skip
  with_reducible repeat' (first|refine Sp.h ?_|((first|refine Wd ?_|refine Ss.h ?_|refine Sc.h (c3 2) ?_|refine Sc.h (c4 2) ?_|(refine Sb.h ?_ ?_ ?_<;>(try intro hgd)<;>try exact Xy))<;>simp -implicitDefEqProofs (maxSteps:=2000000) [hP,hN,g2,g3,g4,g5,g6,hb2,hb3,hb4,hb5,m1,m2,po]<;>try refine Ya ?_)|refine X2 ?_ ?_|(refine Xd ?_ ?_<;>intro hcd<;>try exact Xx))
 .skip
  with_reducible repeat' (first|refine Sp.h ?_|((first|refine Wd ?_|refine Ss.h ?_|refine Sc.h (c3 3) ?_|refine Sc.h (c4 3) ?_|(refine Sb.h ?_ ?_ ?_<;>(try intro hgd)<;>try exact Xy))<;>simp -implicitDefEqProofs (maxSteps:=2000000) [hP,hN,g2,g3,g4,g5,g6,hb2,hb3,hb4,hb5,m1,m2,po]<;>try refine Ya ?_)|refine X2 ?_ ?_|(refine Xd ?_ ?_<;>intro hcd<;>try exact Xx))
 .skip
  with_reducible repeat' (first|refine Sp.h ?_|((first|refine Wd ?_|refine Ss.h ?_|refine Sc.h (c3 4) ?_|refine Sc.h (c4 4) ?_|(refine Sb.h ?_ ?_ ?_<;>(try intro hgd)<;>try exact Xy))<;>simp -implicitDefEqProofs (maxSteps:=2000000) [hP,hN,g2,g3,g4,g5,g6,hb2,hb3,hb4,hb5,m1,m2,po]<;>try refine Ya ?_)|refine X2 ?_ ?_|(refine Xd ?_ ?_<;>intro hcd<;>try exact Xx))
 .skip
  with_reducible repeat' (first|refine Sp.h ?_|((first|refine Wd ?_|refine Ss.h ?_|refine Sc.h (c3 5) ?_|refine Sc.h (c4 5) ?_|(refine Sb.h ?_ ?_ ?_<;>(try intro hgd)<;>try exact Xy))<;>simp -implicitDefEqProofs (maxSteps:=2000000) [hP,hN,g2,g3,g4,g5,g6,hb2,hb3,hb4,hb5,m1,m2,po]<;>try refine Ya ?_)|refine X2 ?_ ?_|(refine Xd ?_ ?_<;>intro hcd<;>try exact Xx))
 .skip
  with_reducible repeat' (first|refine Sp.h ?_|((first|refine Wd ?_|refine Ss.h ?_|refine Sc.h (c3 6) ?_|refine Sc.h (c4 6) ?_|(refine Sb.h ?_ ?_ ?_<;>(try intro hgd)<;>try exact Xy))<;>simp -implicitDefEqProofs (maxSteps:=2000000) [hP,hN,g2,g3,g4,g5,g6,hb2,hb3,hb4,hb5,m1,m2,po]<;>try refine Ya ?_)|refine X2 ?_ ?_|(refine Xd ?_ ?_<;>intro hcd<;>try exact Xx))
 .skip
  with_reducible repeat' (first|refine Sp.h ?_|((first|refine Wd ?_|refine Ss.h ?_|refine Sc.h (c3 7) ?_|refine Sc.h (c4 7) ?_|(refine Sb.h ?_ ?_ ?_<;>(try intro hgd)<;>try exact Xy))<;>simp -implicitDefEqProofs (maxSteps:=2000000) [hP,hN,g2,g3,g4,g5,g6,hb2,hb3,hb4,hb5,m1,m2,po]<;>try refine Ya ?_)|refine X2 ?_ ?_|(refine Xd ?_ ?_<;>intro hcd<;>try exact Xx))
 .skip
  with_reducible repeat' (first|refine Sp.h ?_|((first|refine Wd ?_|refine Ss.h ?_|refine Sc.h (c3 8) ?_|refine Sc.h (c4 8) ?_|(refine Sb.h ?_ ?_ ?_<;>(try intro hgd)<;>try exact Xy))<;>simp -implicitDefEqProofs (maxSteps:=2000000) [hP,hN,g2,g3,g4,g5,g6,hb2,hb3,hb4,hb5,m1,m2,po]<;>try refine Ya ?_)|refine X2 ?_ ?_|(refine Xd ?_ ?_<;>intro hcd<;>try exact Xx))
 .skip
  exact Gy
def mv(i:Nat):Int:=if i%2=0 then 1 else -1
def pt(xs:List Int):Nat->Int
 |0=>0
 |i+1=>pt xs i+mv i*(xs[i]?).getD 0
def gn(xs:List Int):Int:=pt xs xs.length
theorem CF(i:Nat)(x:Int):(mv i*x=x∨mv i*x=-x):=by unfold mv;split<;>simp
theorem Bl(i:Nat):mv (i+1)=-mv i:=by unfold mv;split<;>split<;>omega
theorem sm{xs:List Int}(hb:∀x∈xs,-1099511627776<=x∧x<=1099511627776):∀i:Nat,-((i:Int)*1099511627776)<=pt xs i∧pt xs i<=(i:Int)*1099511627776
 |0=>by simp[pt]
 |i+1=>by
  have h:=sm hb i
  have h2:-1099511627776<=(xs[i]?).getD 0∧(xs[i]?).getD 0<=1099511627776:=by
   cases hx:xs[i]? with
   |none=>simp
   |some y=>exact hb y (List.mem_of_getElem? hx)
  have h3:=CF i ((xs[i]?).getD 0);simp only[pt];omega
theorem L7(xs:List Int)(hl:xs.length<=1000)(hb:∀x∈xs,-1099511627776<=x∧x<=1099511627776):aa Tryz.prog 214 [.pv (zs xs)] [] [] (.pv (Z (gn xs))):=by
 refine Dp Tryz.func214 ?_;intro C hP hN;simp only[Tryz.f214]at hN|-;refine Gz ?_;refine WP.loopN [] xs.length (λi st=>st.t 3=.pv (Z (pt xs i))∧st.t 4=.pv (Z (mv i))∧st.t 7=.pv (zs xs)∧st.t 8=.pv (Z xs.length)∧st.t 9=.pv (Z i)) (by simp[pt,mv]) ?_;rintro i st hi ⟨g3,g4,g7,g8,g9⟩;by_cases hlt:i<xs.length
 .have hw:=au hlt (by omega)
  have hxi:xs[i]?=some xs[i]:=List.getElem?_eq_getElem hlt;have hr:=hb xs[i] (List.getElem_mem hlt);have ha:=sm hb i;have h3:=CF i xs[i];have w1:IntKind.i64.wrap (mv i*xs[i])=mv i*xs[i]:=ab;have w2:IntKind.i64.wrap (pt xs i+mv i*xs[i])=pt xs (i+1):=(ab (by omega) (by omega)).trans (by simp[pt,hxi])
  have w3:IntKind.i64.wrap (-mv i)=mv (i+1):=by
   rw[Bl];unfold mv;split<;>decide
  have w4:IntKind.i64.wrap (0-mv i)=mv (i+1):=by
   rw[Bl];unfold mv;split<;>decide
  exact Gy
 .skip
  refine Gz ?_
  all_goals (have:i=xs.length:=by omega
             subst this;rfl)
def fC(n d:Int):Int:=(n+d-1)/d
theorem L5(n d:Int)(hn:0<=n)(hn':n<=1099511627776)(hd:1<=d)(hd':d<=1099511627776):aa Tryz.prog 215 [.pv (Z n),.pv (Z d)] [] [] (.pv (Z (fC n d))):=by
 have w1:IntKind.i64.wrap (n+d)=n+d:=ab;have w2:IntKind.i64.wrap (n+d-1)=n+d-1:=ab;have hq:(n+d-1).tdiv d=(n+d-1)/d:=Int.tdiv_eq_ediv_of_nonneg (by omega);have hq1:0<=(n+d-1)/d:=Int.ediv_nonneg (by omega) (by omega);have hq2:(n+d-1)/d<=n+d-1:=Int.ediv_le_self _ (by omega);have w3:IntKind.i64.wrap ((n+d-1)/d)=(n+d-1)/d:=ab
 have hne:d≠0:=by omega
 refine Dp Tryz.func215 ?_;intro C hP hN;simp only[Tryz.f215]at hN|-;refine Gz ?_
 all_goals rfl
def yA(lo hi:Int):Iv:=(max 0 (lo/16384),min 65536 (eE hi 16384))
theorem K7(lo hi:Int)(h1:-4611686018427387904<=hi)(h2:hi<=4611686018427387904):aa Tryz.prog 216 [.pv (Z lo),.pv (Z hi)] [] [] (.pv (aU (yA lo hi))):=by
 refine Dp Tryz.func216 ?_;intro C hP hN;simp only[Tryz.f216]at hN|-;have q1:=@Lx;have q2:=Lv _ h1 h2;refine GT trivial ?_
 all_goals simp[yA]
def om(f g:Nat->Int):List Int:=[f 1,fC (g 3) 6,f 5/120,fC (g 7) 5040]
def ma(f g:Nat->Int):List Int:=[g 1,f 3/6,fC (g 5) 120,f 7/5040,fC (g 9) 362880]
def sq(f g:Nat->Int):List Int:=[1073741824,fC (g 2) 2,f 4/24,fC (g 6) 720,f 8/40320,fC (g 10) 3628800]
def pu(f g:Nat->Int):List Int:=[1073741824,f 2/2,fC (g 4) 24,f 6/720,fC (g 8) 40320]
def zX(x:Int):Iv:=yA (gn (om (gX x) (gY x))) (gn (ma (gX x) (gY x)))
def DI(x:Int):Iv:=yA (gn (sq (gX x) (gY x))) (gn (pu (gX x) (gY x)))
theorem jc{n:Int}(h0:0<=n)(h1:n<=1073741824)(hd:1<=d)(hd':d<=4000000):0<=fC n d∧fC n d<=1099511627776:=by
 unfold fC;have hq1:0<=(n+d-1)/d:=Int.ediv_nonneg (by omega) (by omega);have hq2:(n+d-1)/d<=n+d-1:=Int.ediv_le_self _ (by omega);omega
theorem Bm{f:Nat->Int}(hf:∀j,0<=f j∧f j<=1073741824)(j:Nat)(d:Int):(f j).tdiv d=f j/d:=Int.tdiv_eq_ediv_of_nonneg (hf j).1
theorem zu{f:Nat->Int}(hf:∀j,0<=f j∧f j<=1073741824)(j:Nat)(hd:0<d):0<=f j/d∧f j/d<=1073741824:=by
 have h:=hf j;have hq1:0<=f j/d:=Int.ediv_nonneg (by omega) (by omega);have hq2:f j/d<=f j:=Int.ediv_le_self _ (by omega);omega
theorem Bn{f:Nat->Int}(hf:∀j,0<=f j∧f j<=1073741824)(j:Nat)(hd:0<d):IntKind.i64.wrap (f j/d)=f j/d:=by
 have:=zu hf j hd;exact ab (by omega) (by omega)
theorem MG(x:Int)(h0:0<=x)(h1:x<=8192):aa Tryz.prog 211 [.pv (Z x)] [] [] (.pv (aU (zX x))):=by
 have cp:=I8 x h0 h1;have hf:=rj h0 h1;have hg:=rl h0 h1;show aa _ _ _ _ _ (.pv (aU (yA (gn (om (gX x) (gY x))) (gn (ma (gX x) (gY x))))));generalize gX x=f at *;generalize gY x=g at *
 have k1:∀y∈om f g,-1099511627776<=y∧y<=1099511627776:=by
  intro y hy;have a1:=hf 1;have a2:=jc (d:=6) (hg 3).1 (hg 3).2 (by decide) (by decide);have a3:=zu hf 5 (d:=120) (by decide);have a4:=jc (d:=5040) (hg 7).1 (hg 7).2 (by decide) (by decide);simp only[om,List.mem_cons,List.not_mem_nil,or_false]at hy;rcases hy with rfl|rfl|rfl|rfl<;>omega
 have k2:∀y∈ma f g,-1099511627776<=y∧y<=1099511627776:=by
  intro y hy;have a1:=hg 1;have a2:=jc (d:=120) (hg 5).1 (hg 5).2 (by decide) (by decide);have a3:=zu hf 3 (d:=6) (by decide);have a4:=jc (d:=362880) (hg 9).1 (hg 9).2 (by decide) (by decide);have a5:=zu hf 7 (d:=5040) (by decide);simp only[ma,List.mem_cons,List.not_mem_nil,or_false]at hy;rcases hy with rfl|rfl|rfl|rfl|rfl<;>omega
 have b2:=sm k2 5;have b3:-(((5:Nat):Int)*1099511627776)<=gn (ma f g)∧gn (ma f g)<=((5:Nat):Int)*1099511627776:=b2;have ca:aa Tryz.prog 214 [.pv (.sl [Z (f 1),Z (fC (g 3) 6),Z (f 5/120),Z (fC (g 7) 5040)])] [] [] (.pv (Z (gn (om f g)))):=L7 (om f g) (by simp[om]) k1;have cb:aa Tryz.prog 214 [.pv (.sl [Z (g 1),Z (f 3/6),Z (fC (g 5) 120),Z (f 7/5040),Z (fC (g 9) 362880)])] [] [] (.pv (Z (gn (ma f g)))):=L7 (ma f g) (by simp[ma]) k2;have c3:=L5 (g 3) 6 (hg 3).1 (by have:=hg 3;omega) (by decide) (by decide);have c7:=L5 (g 7) 5040 (hg 7).1 (by have:=hg 7;omega) (by decide) (by decide);have c5:=L5 (g 5) 120 (hg 5).1 (by have:=hg 5;omega) (by decide) (by decide);have c9:=L5 (g 9) 362880 (hg 9).1 (by have:=hg 9;omega) (by decide) (by decide);have ce:=K7 (gn (om f g)) (gn (ma f g)) (by omega) (by omega);generalize gn (om f g)=lo at *;generalize gn (ma f g)=hi at *;have t1:=Bm hf 5 120;have t2:=Bm hf 3 6;have t3:=Bm hf 7 5040;have w1:=Bn hf 5 (d:=120) (by decide);have w2:=Bn hf 3 (d:=6) (by decide);have w3:=Bn hf 7 (d:=5040) (by decide);refine Dp Tryz.func211 ?_;intro C hP hN;simp only[Tryz.f211]at hN|-;exact Gy
theorem Jv(x:Int)(h0:0<=x)(h1:x<=8192):aa Tryz.prog 212 [.pv (Z x)] [] [] (.pv (aU (DI x))):=by
 have cp:=I8 x h0 h1;have hf:=rj h0 h1;have hg:=rl h0 h1;show aa _ _ _ _ _ (.pv (aU (yA (gn (sq (gX x) (gY x))) (gn (pu (gX x) (gY x))))));generalize gX x=f at *;generalize gY x=g at *
 have k1:∀y∈sq f g,-1099511627776<=y∧y<=1099511627776:=by
  intro y hy;have a2:=jc (d:=2) (hg 2).1 (hg 2).2 (by decide) (by decide);have a3:=zu hf 4 (d:=24) (by decide);have a4:=jc (d:=720) (hg 6).1 (hg 6).2 (by decide) (by decide);have a5:=zu hf 8 (d:=40320) (by decide);have a6:=jc (d:=3628800) (hg 10).1 (hg 10).2 (by decide) (by decide);simp only[sq,List.mem_cons,List.not_mem_nil,or_false]at hy;rcases hy with rfl|rfl|rfl|rfl|rfl|rfl<;>omega
 have k2:∀y∈pu f g,-1099511627776<=y∧y<=1099511627776:=by
  intro y hy;have a2:=jc (d:=24) (hg 4).1 (hg 4).2 (by decide) (by decide);have a3:=zu hf 2 (d:=2) (by decide);have a4:=jc (d:=40320) (hg 8).1 (hg 8).2 (by decide) (by decide);have a5:=zu hf 6 (d:=720) (by decide);simp only[pu,List.mem_cons,List.not_mem_nil,or_false]at hy;rcases hy with rfl|rfl|rfl|rfl|rfl<;>omega
 have b2:=sm k2 5;have b3:-(((5:Nat):Int)*1099511627776)<=gn (pu f g)∧gn (pu f g)<=((5:Nat):Int)*1099511627776:=b2;have ca:aa Tryz.prog 214 [.pv (.sl [Z 1073741824,Z (fC (g 2) 2),Z (f 4/24),Z (fC (g 6) 720),Z (f 8/40320),Z (fC (g 10) 3628800)])] [] [] (.pv (Z (gn (sq f g)))):=L7 (sq f g) (by simp[sq]) k1;have cb:aa Tryz.prog 214 [.pv (.sl [Z 1073741824,Z (f 2/2),Z (fC (g 4) 24),Z (f 6/720),Z (fC (g 8) 40320)])] [] [] (.pv (Z (gn (pu f g)))):=L7 (pu f g) (by simp[pu]) k2;have c2:=L5 (g 2) 2 (hg 2).1 (by have:=hg 2;omega) (by decide) (by decide);have c6:=L5 (g 6) 720 (hg 6).1 (by have:=hg 6;omega) (by decide) (by decide);have c10:=L5 (g 10) 3628800 (hg 10).1 (by have:=hg 10;omega) (by decide) (by decide);have c4:=L5 (g 4) 24 (hg 4).1 (by have:=hg 4;omega) (by decide) (by decide);have c8:=L5 (g 8) 40320 (hg 8).1 (by have:=hg 8;omega) (by decide) (by decide);have ce:=K7 (gn (sq f g)) (gn (pu f g)) (by omega) (by omega);generalize gn (sq f g)=lo at *;generalize gn (pu f g)=hi at *;have t1:=Bm hf 4 24;have t2:=Bm hf 8 40320;have t3:=Bm hf 2 2;have t4:=Bm hf 6 720;have w1:=Bn hf 4 (d:=24) (by decide);have w2:=Bn hf 8 (d:=40320) (by decide);have w3:=Bn hf 2 (d:=2) (by decide);have w4:=Bn hf 6 (d:=720) (by decide);refine Dp Tryz.func212 ?_;intro C hP hN;simp only[Tryz.f212]at hN|-;exact Gy
def gb(r:Int):Iv:=if r<=8192 then zX r else DI (16384-r)
theorem yw(r:Int)(h0:0<=r)(h1:r<=16384):aa Tryz.prog 210 [.pv (Z r)] [] [] (.pv (aU (gb r))):=by
 have w1:IntKind.i64.wrap (16384-r)=16384-r:=ab;by_cases h:r<=8192
 .have hf:gb r=zX r:=by simp[gb,h]
  have cs:=MG r h0 h;rw[hf];generalize zX r=y at *;refine Dp Tryz.func210 ?_;intro C hP hN;simp only[Tryz.f210]at hN|-;exact Gy
 .have hf:gb r=DI (16384-r):=by simp[gb,h]
  have cs:=Jv (16384-r) (by omega) (by omega);rw[hf];generalize DI (16384-r)=y at *;refine Dp Tryz.func210 ?_;intro C hP hN;simp only[Tryz.f210]at hN|-;exact Gy
theorem J7(a:Int):yc .and .i64 a 65535=a%65536:=by
 unfold yc
 have h1:(BitVec.ofInt 64 a &&& BitVec.ofInt 64 65535).toNat=(a%65536).toNat:=by
  rw[BitVec.toNat_and,BitVec.toNat_ofInt,BitVec.toNat_ofInt]
  have e1:((65535:Int)%((2^64:Nat):Int)).toNat=2^16-1:=by decide
  rw[e1,Nat.and_two_pow_sub_one_eq_mod];have h0:0<=a%((2^64:Nat):Int):=Int.emod_nonneg _ (by decide);have h2:(a%((2^64:Nat):Int))%65536=a%65536:=Int.emod_emod_of_dvd a (by decide);omega
 show IntKind.i64.wrap ((BitVec.ofInt 64 a &&& BitVec.ofInt 64 65535).toNat:Int)=_;rw[h1,IntKind.wrap_i64];have:=Int.emod_nonneg a (b:=65536) (by decide);have:=Int.emod_lt_of_pos a (b:=65536) (by decide);omega
theorem FU(a:Int):aa Tryz.prog 209 [.pv (Z a)] [] [] (.pv (Z (a%65536))):=by
 refine Dp Tryz.func209 ?_;intro C hP hN;simp only[Tryz.f209]at hN|-;exact GS @J7
def qG(m:Int):Iv:=if m/16384=0 then gb (m%16384)else if m/16384=1 then gb (16384-m%16384)else if m/16384=2 then lh (gb (m%16384))else lh (gb (16384-m%16384))
def yD(a:Int):Iv:=qG (a%65536)
theorem Ir(a:Int):aa Tryz.prog 206 [.pv (Z a)] [] [] (.pv (aU (yD a))):=by
 have cm:=FU a;show aa _ _ _ _ _ (.pv (aU (qG (a%65536))));have r1:=Int.emod_nonneg a (b:=65536) (by decide);have r2:=Int.emod_lt_of_pos a (b:=65536) (by decide);generalize a%65536=m at *;have t1:m.tmod 16384=m%16384:=Int.tmod_eq_emod_of_nonneg r1;have t2:m.tdiv 16384=m/16384:=Int.tdiv_eq_ediv_of_nonneg r1;have w1:IntKind.i64.wrap (m/16384)=m/16384:=ab;have w2:IntKind.i64.wrap (m%16384)=m%16384:=ab;have w3:IntKind.i64.wrap (16384-m%16384)=16384-m%16384:=ab;have cf:=yw (m%16384) (by omega) (by omega);have cg:=yw (16384-m%16384) (by omega) (by omega)
 have key:m/16384=0∨m/16384=1∨m/16384=2∨m/16384=3:=by omega
 rcases key with hk|hk|hk|hk
 .have hf:qG m=gb (m%16384):=by simp[qG,hk]
  rw[hf];generalize gb (m%16384)=y at *;refine Dp Tryz.func206 ?_;intro C hP hN;simp only[Tryz.f206]at hN|-;exact Gy
 .have hf:qG m=gb (16384-m%16384):=by simp[qG,hk]
  rw[hf];generalize gb (16384-m%16384)=y at *;refine Dp Tryz.func206 ?_;intro C hP hN;simp only[Tryz.f206]at hN|-;exact Gy
 .have hf:qG m=lh (gb (m%16384)):=by simp[qG,hk]
  rw[hf];generalize gb (m%16384)=y at *;refine Dp Tryz.func206 ?_;intro C hP hN;simp only[Tryz.f206]at hN|-
  with_reducible repeat' (first|refine Sp.h ?_|((first|refine Ss.h ?_|refine Sc.h (cm) ?_|refine Sc.h (cf) ?_|refine Sc.h (Mb) ?_|(refine Sb.h ?_ ?_ ?_<;>(try intro hgd)<;>try exact Xy))<;>simp -implicitDefEqProofs (maxSteps:=2000000) [hP,hN,t1,t2,w1,w2,w3,hk])|refine X2 ?_ ?_|(refine Xd ?_ ?_<;>intro hcd<;>try exact Xx))
 .have hf:qG m=lh (gb (16384-m%16384)):=by simp[qG,hk]
  rw[hf];generalize gb (16384-m%16384)=y at *;refine Dp Tryz.func206 ?_;intro C hP hN;simp only[Tryz.f206]at hN|-
  with_reducible repeat' (first|refine Sp.h ?_|((first|refine Ss.h ?_|refine Sc.h (cm) ?_|refine Sc.h (cg) ?_|refine Sc.h (Mb) ?_|(refine Sb.h ?_ ?_ ?_<;>(try intro hgd)<;>try exact Xy))<;>simp -implicitDefEqProofs (maxSteps:=2000000) [hP,hN,t1,t2,w1,w2,w3,hk])|refine X2 ?_ ?_|(refine Xd ?_ ?_<;>intro hcd<;>try exact Xx))
def F3(a:Int):Iv:=yD (a%65536+16384)
theorem Jd(a:Int):aa Tryz.prog 205 [.pv (Z a)] [] [] (.pv (aU (F3 a))):=by
 have cm:=FU a;show aa _ _ _ _ _ (.pv (aU (yD (a%65536+16384))));have r1:=Int.emod_nonneg a (b:=65536) (by decide);have r2:=Int.emod_lt_of_pos a (b:=65536) (by decide);generalize a%65536=m at *;have w1:IntKind.i64.wrap (m+16384)=m+16384:=ab;have cs:=Ir (m+16384);generalize yD (m+16384)=y at *;refine Dp Tryz.func205 ?_;intro C hP hN;simp only[Tryz.f205]at hN|-;exact Gy
def nB(a:Iv)(t:Int):Bool:=aC a.1 a.2&&decide (a.1<=a.1+(t-a.1)%65536)&&decide (a.1+(t-a.1)%65536<=a.2)
theorem MS(t:Int)(h1:-2147483648<=a)(h2:a<=2147483648)(h3:-2147483648<=t)(h4:t<=2147483648):aa Tryz.prog 208 [.pv (I a b),.pv (Z t)] [] [] (.pv (B (nB (a,b) t))):=by
 have w1:IntKind.i64.wrap (t-a)=t-a:=ab;have r1:=Int.emod_nonneg (t-a) (b:=65536) (by decide);have r2:=Int.emod_lt_of_pos (t-a) (b:=65536) (by decide);have w2:IntKind.i64.wrap (a+(t-a)%65536)=a+(t-a)%65536:=ab;have cm:=FU (t-a);refine Dp Tryz.func208 ?_;intro C hP hN;simp only[Tryz.f208]at hN|-
 with_reducible repeat' (first|refine Sp.h ?_|((first|refine Wd ?_|refine Ss.h ?_|refine Sc.h (cm) ?_|refine Sc.h (JD _ _ _) ?_|(refine Sb.h ?_ ?_ ?_<;>(try intro hgd)<;>try exact Xy))<;>simp -implicitDefEqProofs (maxSteps:=2000000) [hP,hN,w1,w2]<;>try refine Ya ?_)|refine X2 ?_ ?_|(refine Xd ?_ ?_<;>intro hcd<;>try exact Xx))
 all_goals (try simp[nB])
def oo(a:Iv)(v:Int->Iv)(t b:Int):Iv:=if aC a.1 a.2=false then(0,0)else if 65536<=a.2-a.1 then(-65536,65536)else
 let h:=oc (v a.1) (v a.2)
 let h1:=if nB a t then oc h (sN 65536)else h
 if nB a b then oc h1 (sN (-65536))else h1
theorem F4(f:FuncId)(v:Int->Iv)(t u:Int)(hf:∀x,aa Tryz.prog f [.pv (Z x)] [] [] (.pv (aU (v x))))(ht:-2147483648<=t)(ht':t<=2147483648)(hu:-2147483648<=u)(hu':u<=2147483648):aa Tryz.prog 204 [.pv (I a b),.pv (Fv f),.pv (Z t),.pv (Z u)] [] [] (.pv (aU (oo (a,b) v t u))):=by
 cases hv:aC a b with
 |false=>
  have hr:oo (a,b) v t u=(0,0):=by simp[oo,hv]
  rw[hr];refine Dp Tryz.func204 ?_;intro C hP hN;simp only[Tryz.f204]at hN|-
  with_reducible repeat' (first|refine Sp.h ?_|((first|refine Wd ?_|refine Ss.h ?_|refine Sc.h (CI _ _) ?_|(refine Sb.h ?_ ?_ ?_<;>(try intro hgd)<;>try exact Xy))<;>simp -implicitDefEqProofs (maxSteps:=2000000) [hP,hN,hv]<;>try refine Ya ?_)|refine X2 ?_ ?_|(refine Xd ?_ ?_<;>intro hcd<;>try exact Xx))
 |true=>
  have hv':=jY.1 hv;have w1:IntKind.i64.wrap (b-a)=b-a:=ab;have cm:=MS (a:=a) (b:=b) t (by omega) (by omega) ht ht';have cn:=MS (a:=a) (b:=b) u (by omega) (by omega) hu hu';have o1:aa Tryz.prog 173 [.pv (Z 65536)] [] [] (.pv (I 65536 65536)):=yu 65536;have o2:aa Tryz.prog 173 [.pv (Z (-65536))] [] [] (.pv (I (-65536) (-65536))):=yu (-65536);by_cases hw:65536<=b-a
  .have hr:oo (a,b) v t u=(-65536,65536):=by simp[oo,hv,hw]
   rw[hr];refine Dp Tryz.func204 ?_;intro C hP hN;simp only[Tryz.f204]at hN|-
   with_reducible repeat' (first|refine Sp.h ?_|((first|refine Wd ?_|refine Ss.h ?_|refine Sc.h (CI _ _) ?_|refine Sc.h (xm _ _) ?_|(refine Sb.h ?_ ?_ ?_<;>(try intro hgd)<;>try exact Xy))<;>simp -implicitDefEqProofs (maxSteps:=2000000) [hP,hN,hv,w1,hw]<;>try refine Ya ?_)|refine X2 ?_ ?_|(refine Xd ?_ ?_<;>intro hcd<;>try exact Xx))
  .have hr:oo (a,b) v t u=(let h:=oc (v a) (v b);let h1:=if nB (a,b) t then oc h (65536,65536)else h;if nB (a,b) u then oc h1 (-65536,-65536)else h1):=by
    have e1:sN 65536=(65536,65536):=by decide
    have e2:sN (-65536)=(-65536,-65536):=by decide
    simp[oo,hv,hw,e1,e2]
   rw[hr];cases hm1:nB (a,b) t<;>cases hm2:nB (a,b) u<;>rw[hm1]at cm<;>rw[hm2]at cn
   .skip
    refine Dp Tryz.func204 ?_;intro C hP hN;simp only[Tryz.f204]at hN|-
    with_reducible repeat' (first|refine Sp.h ?_|((first|refine Wd ?_|refine Ss.h ?_|refine Sc.h (CI _ _) ?_|refine Sc.h (xm _ _) ?_|refine Sc.h (hf _) ?_|refine Sc.h (I0 _ _ _ _) ?_|refine Sc.h (cm) ?_|refine Sc.h (cn) ?_|(refine Sb.h ?_ ?_ ?_<;>(try intro hgd)<;>try exact Xy))<;>simp -implicitDefEqProofs (maxSteps:=2000000) [hP,hN,hv,w1,hw]<;>try refine Ya ?_)|refine X2 ?_ ?_|(refine Xd ?_ ?_<;>intro hcd<;>try exact Xx))
    all_goals (try simp)
   .skip
    refine Dp Tryz.func204 ?_;intro C hP hN;simp only[Tryz.f204]at hN|-
    with_reducible repeat' (first|refine Sp.h ?_|((first|refine Wd ?_|refine Ss.h ?_|refine Sc.h (CI _ _) ?_|refine Sc.h (xm _ _) ?_|refine Sc.h (hf _) ?_|refine Sc.h (I0 _ _ _ _) ?_|refine Sc.h (cm) ?_|refine Sc.h (cn) ?_|refine Sc.h (o2) ?_|(refine Sb.h ?_ ?_ ?_<;>(try intro hgd)<;>try exact Xy))<;>simp -implicitDefEqProofs (maxSteps:=2000000) [hP,hN,hv,w1,hw]<;>try refine Ya ?_)|refine X2 ?_ ?_|(refine Xd ?_ ?_<;>intro hcd<;>try exact Xx))
    all_goals (try simp)
   .skip
    refine Dp Tryz.func204 ?_;intro C hP hN;simp only[Tryz.f204]at hN|-
    with_reducible repeat' (first|refine Sp.h ?_|((first|refine Wd ?_|refine Ss.h ?_|refine Sc.h (CI _ _) ?_|refine Sc.h (xm _ _) ?_|refine Sc.h (hf _) ?_|refine Sc.h (I0 _ _ _ _) ?_|refine Sc.h (cm) ?_|refine Sc.h (cn) ?_|refine Sc.h (o1) ?_|(refine Sb.h ?_ ?_ ?_<;>(try intro hgd)<;>try exact Xy))<;>simp -implicitDefEqProofs (maxSteps:=2000000) [hP,hN,hv,w1,hw]<;>try refine Ya ?_)|refine X2 ?_ ?_|(refine Xd ?_ ?_<;>intro hcd<;>try exact Xx))
    all_goals (try simp)
   .skip
    refine Dp Tryz.func204 ?_;intro C hP hN;simp only[Tryz.f204]at hN|-
    with_reducible repeat' (first|refine Sp.h ?_|((first|refine Wd ?_|refine Ss.h ?_|refine Sc.h (CI _ _) ?_|refine Sc.h (xm _ _) ?_|refine Sc.h (hf _) ?_|refine Sc.h (I0 _ _ _ _) ?_|refine Sc.h (cm) ?_|refine Sc.h (cn) ?_|refine Sc.h (o1) ?_|refine Sc.h (o2) ?_|(refine Sb.h ?_ ?_ ?_<;>(try intro hgd)<;>try exact Xy))<;>simp -implicitDefEqProofs (maxSteps:=2000000) [hP,hN,hv,w1,hw]<;>try refine Ya ?_)|refine X2 ?_ ?_|(refine Xd ?_ ?_<;>intro hcd<;>try exact Xx))
    all_goals (try simp)
def tJ(a:Iv):Iv:=oo a yD 16384 49152
def tK(a:Iv):Iv:=oo a F3 0 32768
theorem Mp:aa Tryz.prog 202 [.pv (I a b)] [] [] (.pv (aU (tJ (a,b)))):=by
 have co:=F4 (a:=a) (b:=b) 206 yD 16384 49152 Ir (by decide) (by decide) (by decide) (by decide);refine Dp Tryz.func202 ?_;intro C hP hN;simp only[Tryz.f202]at hN|-;refine Gz ?_
 all_goals exact⟨rfl,rfl⟩
theorem I7:aa Tryz.prog 201 [.pv (I a b)] [] [] (.pv (aU (tK (a,b)))):=by
 have co:=F4 (a:=a) (b:=b) 205 F3 0 32768 Jd (by decide) (by decide) (by decide) (by decide);refine Dp Tryz.func201 ?_;intro C hP hN;simp only[Tryz.f201]at hN|-;refine Gz ?_
 all_goals exact⟨rfl,rfl⟩
abbrev aH:=Iv×Iv×Iv
abbrev pw:=aH×aH×aH
abbrev mw:=pw×aH
abbrev V6(x0 x1 x2 x3 x4 x5:Int):PV:=.val (.agg #[.int .i64 x0,.int .i64 x1,.int .i64 x2,.int .i64 x3,.int .i64 x4,.int .i64 x5])
abbrev G4(x0 x1 x2 x3 x4 x5 x6 x7 x8 x9 x10 x11 x12 x13 x14 x15 x16 x17:Int):PV:=.val (.agg #[.int .i64 x0,.int .i64 x1,.int .i64 x2,.int .i64 x3,.int .i64 x4,.int .i64 x5,.int .i64 x6,.int .i64 x7,.int .i64 x8,.int .i64 x9,.int .i64 x10,.int .i64 x11,.int .i64 x12,.int .i64 x13,.int .i64 x14,.int .i64 x15,.int .i64 x16,.int .i64 x17])
abbrev Bo(x0 x1 x2 x3 x4 x5 x6 x7 x8 x9 x10 x11 x12 x13 x14 x15 x16 x17 x18 x19 x20 x21 x22 x23:Int):PV:=.val (.agg #[.int .i64 x0,.int .i64 x1,.int .i64 x2,.int .i64 x3,.int .i64 x4,.int .i64 x5,.int .i64 x6,.int .i64 x7,.int .i64 x8,.int .i64 x9,.int .i64 x10,.int .i64 x11,.int .i64 x12,.int .i64 x13,.int .i64 x14,.int .i64 x15,.int .i64 x16,.int .i64 x17,.int .i64 x18,.int .i64 x19,.int .i64 x20,.int .i64 x21,.int .i64 x22,.int .i64 x23])
abbrev dG(v:aH):PV:=V6 v.1.1 v.1.2 v.2.1.1 v.2.1.2 v.2.2.1 v.2.2.2
abbrev DJ(m:pw):PV:=G4 m.1.1.1 m.1.1.2 m.1.2.1.1 m.1.2.1.2 m.1.2.2.1 m.1.2.2.2 m.2.1.1.1 m.2.1.1.2 m.2.1.2.1.1 m.2.1.2.1.2 m.2.1.2.2.1 m.2.1.2.2.2 m.2.2.1.1 m.2.2.1.2 m.2.2.2.1.1 m.2.2.2.1.2 m.2.2.2.2.1 m.2.2.2.2.2
abbrev dY(p:mw):PV:=Bo p.1.1.1.1 p.1.1.1.2 p.1.1.2.1.1 p.1.1.2.1.2 p.1.1.2.2.1 p.1.1.2.2.2 p.1.2.1.1.1 p.1.2.1.1.2 p.1.2.1.2.1.1 p.1.2.1.2.1.2 p.1.2.1.2.2.1 p.1.2.1.2.2.2 p.1.2.2.1.1 p.1.2.2.1.2 p.1.2.2.2.1.1 p.1.2.2.2.1.2 p.1.2.2.2.2.1 p.1.2.2.2.2.2 p.2.1.1 p.2.1.2 p.2.2.1.1 p.2.2.1.2 p.2.2.2.1 p.2.2.2.2
def g3(v:α×α×α):Nat->α
 |0=>v.1
 |1=>v.2.1
 |_=>v.2.2
@[simp] theorem Q2(v:α×α×α):g3 v 0=v.1:=rfl
@[simp] theorem Q3(v:α×α×α):g3 v 1=v.2.1:=rfl
@[simp] theorem Q4(v:α×α×α):g3 v 2=v.2.2:=rfl
def az(m v:aH):Nat->Iv
 |0=>(0,0)
 |n+1=>qE (az m v n) (vL (g3 m n) (g3 v n))
def sr(a b:aH):aH:=(qE a.1 b.1,qE a.2.1 b.2.1,qE a.2.2 b.2.2)
def xF(m:pw)(v:aH):aH:=(az m.1 v 3,az m.2.1 v 3,az m.2.2 v 3)
def DK(x:Int):Int:=min (max x (-65536)) 65536
def pA(x:Iv):Iv:=(DK x.1,DK x.2)
def aA(b:pw)(c:Nat):aH:=(g3 b.1 c,g3 b.2.1 c,g3 b.2.2 c)
def tM(a b:pw)(r c:Nat):Iv:=pA (az (g3 a r) (aA b c) 3)
def DL(a b:pw):pw:=((tM a b 0 0,tM a b 0 1,tM a b 0 2),(tM a b 1 0,tM a b 1 1,tM a b 1 2),(tM a b 2 0,tM a b 2 1,tM a b 2 2))
def fv(v:Int×Int×Int):aH:=(sN v.1,sN v.2.1,sN v.2.2)
def pB:pw:=(((65536,65536),(0,0),(0,0)),((0,0),(65536,65536),(0,0)),((0,0),(0,0),(65536,65536)))
def bT:aH:=((0,0),(0,0),(0,0))
def jF(axis:Int)(a:Iv):pw:=if aC a.1 a.2 then
 (if axis=0 then(((65536,65536),(0,0),(0,0)),((0,0),tK a,lh (tJ a)),((0,0),tJ a,tK a))
  else if axis=1 then((tK a,(0,0),tJ a),((0,0),(65536,65536),(0,0)),(lh (tJ a),(0,0),tK a))
  else if axis=2 then((tK a,lh (tJ a),(0,0)),(tJ a,tK a,(0,0)),((0,0),(0,0),(65536,65536)))
  else(bT,bT,bT))else(bT,bT,bT)
def fG(v:aH):mw:=(pB,v)
def kv(axis:Int)(a:Iv):mw:=(jF axis a,bT)
def uC(a b:mw):mw:=(DL a.1 b.1,sr a.2 (xF a.1 b.2))
def mb(p:mw)(v:aH):aH:=sr p.2 (xF p.1 v)
theorem cM(h:i<=3):i=0∨i=1∨i=2∨i=3:=by omega
def pick(b:Bool)(x:Iv):Iv:=if b then x else(0,0)
@[simp] theorem Ot(x:Iv):pick true x=x:=rfl
@[simp] theorem Ou(x:Iv):pick false x=(0,0):=rfl
def c6(v:aH)(i:Nat):List AV:=[.pv (Z (pick (decide (0<i)) (g3 v 0)).1),.pv (Z (pick (decide (0<i)) (g3 v 0)).2),.pv (Z (pick (decide (1<i)) (g3 v 1)).1),.pv (Z (pick (decide (1<i)) (g3 v 1)).2),.pv (Z (pick (decide (2<i)) (g3 v 2)).1),.pv (Z (pick (decide (2<i)) (g3 v 2)).2)]
theorem Iq(x y z:Int):aa Tryz.prog 161 [.pv (mJ x y z)] [] [] (.pv (dG (fv (x,y,z)))):=by
 have co:=λa=>yu a;refine Dp Tryz.func161 ?_;intro C hP hN;simp only[Tryz.f161]at hN|-;refine Gz ?_;refine WP.loopN [] 3 (λi st=>st.t 1=.ptr 1 0∧st.t 2=.ptr 2 0∧st.t 3=.ptr 3 0∧st.t 5=.pv (Z i)∧st.h 1=some (.box [.pv (Z x),.pv (Z y),.pv (Z z)] true false)∧st.h 2=some (.box (c6 (fv (x,y,z)) 0) true false)∧st.h 3=some (.box (c6 (fv (x,y,z)) i) true false)) (by simp[c6]) ?_;rintro i st hi ⟨g1,g2,g3',g5,hb1,hb2,hb3⟩;rcases cM hi with rfl|rfl|rfl|rfl
 all_goals (simp[c6,fv,sN]at g5 hb1 hb2 hb3)
 all_goals
  have q1:=@co;exact GS (gA g1 (gA g2 (gA g3' (gA g5 (gA hb1 (gA hb2 (gA hb3 (gA @c6.eq_1 (gA @fv.eq_1 @sN.eq_1)))))))))
theorem IV{b0 b1 b2 b3 b4 b5:Int}:aa Tryz.prog 182 [.pv (V6 a0 a1 a2 a3 a4 a5),.pv (V6 b0 b1 b2 b3 b4 b5)] [] [] (.pv (dG (sr ((a0,a1),(a2,a3),(a4,a5)) ((b0,b1),(b2,b3),(b4,b5))))):=by
 refine Dp Tryz.func182 ?_;intro C hP hN;simp only[Tryz.f182]at hN|-;refine Gz ?_;refine WP.loopN [] 3 (λi st=>st.t 2=.ptr 2 0∧st.t 3=.ptr 3 0∧st.t 4=.ptr 4 0∧st.t 5=.ptr 5 0∧st.t 7=.pv (Z i)∧st.h 2=some (.box [.pv (Z a0),.pv (Z a1),.pv (Z a2),.pv (Z a3),.pv (Z a4),.pv (Z a5)] true false)∧st.h 3=some (.box [.pv (Z b0),.pv (Z b1),.pv (Z b2),.pv (Z b3),.pv (Z b4),.pv (Z b5)] true false)∧st.h 4=some (.box (c6 bT 0) true false)∧st.h 5=some (.box (c6 (sr ((a0,a1),(a2,a3),(a4,a5)) ((b0,b1),(b2,b3),(b4,b5))) i) true false)) (by simp[c6]) ?_;rintro i st hi ⟨g2,g3',g4,g5,g7,hb2,hb3,hb4,hb5⟩;rcases cM hi with rfl|rfl|rfl|rfl
 all_goals (simp[c6,sr]at g7 hb2 hb3 hb4 hb5)
 all_goals
  have q1:=@Je;exact GS (gA g2 (gA g3' (gA g4 (gA g5 (gA g7 (gA hb2 (gA hb3 (gA hb4 (gA hb5 (gA @c6.eq_1 @sr.eq_1))))))))))
def cI(i:Nat):List AV:=[.pv (Z (if 0<i then 65536 else 0)),.pv (Z (if 0<i then 65536 else 0)),.pv (Z 0),.pv (Z 0),.pv (Z 0),.pv (Z 0),.pv (Z 0),.pv (Z 0),.pv (Z (if 1<i then 65536 else 0)),.pv (Z (if 1<i then 65536 else 0)),.pv (Z 0),.pv (Z 0),.pv (Z 0),.pv (Z 0),.pv (Z 0),.pv (Z 0),.pv (Z (if 2<i then 65536 else 0)),.pv (Z (if 2<i then 65536 else 0))]
theorem F5:aa Tryz.prog 172 [] [] [] (.pv (DJ pB)):=by
 have co:aa Tryz.prog 173 [.pv (Z 65536)] [] [] (.pv (I 65536 65536)):=yu 65536;refine Dp Tryz.func172 ?_;intro C hP hN;simp only[Tryz.f172]at hN|-;refine Gz ?_;refine WP.loopN [] 3 (λi st=>st.t 0=.ptr 0 0∧st.t 1=.ptr 1 0∧st.t 3=.pv (Z i)∧st.h 0=some (.box (cI 0) true false)∧st.h 1=some (.box (cI i) true false)) (by simp[cI]) ?_;rintro i st hi ⟨g0,g1,g3',hb0,hb1⟩;rcases cM hi with rfl|rfl|rfl|rfl
 all_goals (simp[cI]at g3' hb0 hb1)
 all_goals
  exact GS (gA g0 (gA g1 (gA g3' (gA hb0 (gA hb1 (gA @cI.eq_1 @pB.eq_1))))))
def gc(m:pw)(v:aH)(i k r:Nat):Iv:=if r<i then az (g3 m r) v 3 else if r=i then az (g3 m r) v k else(0,0)
def cA(m:pw)(v:aH)(i k:Nat):List AV:=[.pv (Z (gc m v i k 0).1),.pv (Z (gc m v i k 0).2),.pv (Z (gc m v i k 1).1),.pv (Z (gc m v i k 1).2),.pv (Z (gc m v i k 2).1),.pv (Z (gc m v i k 2).2)]
theorem LH{a6 a7 a8 a9 a10 a11 a12 a13 a14 a15 a16 a17 v0 v1 v2 v3 v4 v5:Int}:aa Tryz.prog 183 [.pv (G4 a0 a1 a2 a3 a4 a5 a6 a7 a8 a9 a10 a11 a12 a13 a14 a15 a16 a17),.pv (V6 v0 v1 v2 v3 v4 v5)] [] [] (.pv (dG (xF (((a0,a1),(a2,a3),(a4,a5)),((a6,a7),(a8,a9),(a10,a11)),((a12,a13),(a14,a15),(a16,a17))) ((v0,v1),(v2,v3),(v4,v5))))):=by
 refine Dp Tryz.func183 ?_;intro C hP hN;simp only[Tryz.f183]at hN|-;refine Gz ?_;refine WP.loopN [] 3 (λi st=>st.t 2=.ptr 2 0∧st.t 3=.ptr 3 0∧st.t 4=.ptr 4 0∧st.t 5=.ptr 5 0∧st.h 2=some (.box [.pv (Z a0),.pv (Z a1),.pv (Z a2),.pv (Z a3),.pv (Z a4),.pv (Z a5),.pv (Z a6),.pv (Z a7),.pv (Z a8),.pv (Z a9),.pv (Z a10),.pv (Z a11),.pv (Z a12),.pv (Z a13),.pv (Z a14),.pv (Z a15),.pv (Z a16),.pv (Z a17)] true false)∧st.h 3=some (.box [.pv (Z v0),.pv (Z v1),.pv (Z v2),.pv (Z v3),.pv (Z v4),.pv (Z v5)] true false)∧st.h 4=some (.box (cA ((((a0,a1),(a2,a3),(a4,a5)),((a6,a7),(a8,a9),(a10,a11)),((a12,a13),(a14,a15),(a16,a17)))) (((v0,v1),(v2,v3),(v4,v5))) 0 0) true false)∧st.t 8=.pv (Z i)∧st.h 5=some (.box (cA (((a0,a1),(a2,a3),(a4,a5)),((a6,a7),(a8,a9),(a10,a11)),((a12,a13),(a14,a15),(a16,a17))) ((v0,v1),(v2,v3),(v4,v5)) i 0) true false)) (by simp[cA,gc,az]) ?_;rintro i st hi ⟨g2,g3',g4,g5,hb2,hb3,hb4,g8,hb5⟩;rcases cM hi with rfl|rfl|rfl|rfl
 all_goals (simp[cA,gc,az]at g8 hb4 hb5)
 .skip
  refine Gz ?_;refine WP.loopN [] 3 (λk st=>st.t 2=.ptr 2 0∧st.t 3=.ptr 3 0∧st.t 4=.ptr 4 0∧st.t 5=.ptr 5 0∧st.h 2=some (.box [.pv (Z a0),.pv (Z a1),.pv (Z a2),.pv (Z a3),.pv (Z a4),.pv (Z a5),.pv (Z a6),.pv (Z a7),.pv (Z a8),.pv (Z a9),.pv (Z a10),.pv (Z a11),.pv (Z a12),.pv (Z a13),.pv (Z a14),.pv (Z a15),.pv (Z a16),.pv (Z a17)] true false)∧st.h 3=some (.box [.pv (Z v0),.pv (Z v1),.pv (Z v2),.pv (Z v3),.pv (Z v4),.pv (Z v5)] true false)∧st.h 4=some (.box (cA ((((a0,a1),(a2,a3),(a4,a5)),((a6,a7),(a8,a9),(a10,a11)),((a12,a13),(a14,a15),(a16,a17)))) (((v0,v1),(v2,v3),(v4,v5))) 0 0) true false)∧st.t 8=.pv (Z 0)∧st.t 6=.pv (Z 0)∧st.t 11=.pv (Z k)∧st.h 5=some (.box (cA (((a0,a1),(a2,a3),(a4,a5)),((a6,a7),(a8,a9),(a10,a11)),((a12,a13),(a14,a15),(a16,a17))) ((v0,v1),(v2,v3),(v4,v5)) 0 k) true false)) (by simp[cA,gc,az,g2,g3',g4,g5,g8,hb2,hb3,hb4,hb5]) ?_;clear g2 g3' g4 g5 g8 hb2 hb3 hb4 hb5;rintro k st hk ⟨g2,g3',g4,g5,hb2,hb3,hb4,g8,g6,g11,hb5⟩;rcases cM hk with rfl|rfl|rfl|rfl
  all_goals (simp[cA,gc,az]at g11 hb4 hb5)
  .skip
   with_reducible repeat' (first|refine Sp.h ?_|((first|refine Wd ?_|refine Ss.h ?_|refine Sc.h (LF) ?_|refine Sc.h (Je) ?_|(refine Sb.h ?_ ?_ ?_<;>(try intro hgd)<;>try exact Xy))<;>simp -implicitDefEqProofs (maxSteps:=2000000) [hP,hN,g2,g3',g4,g5,g6,g8,g11,hb2,hb3,hb4,hb5,cA,gc,az]<;>try refine Ya ?_)|refine X2 ?_ ?_|(refine Xd ?_ ?_<;>intro hcd<;>try exact Xx))
  .skip
   with_reducible repeat' (first|refine Sp.h ?_|((first|refine Wd ?_|refine Ss.h ?_|refine Sc.h (LF) ?_|refine Sc.h (Je) ?_|(refine Sb.h ?_ ?_ ?_<;>(try intro hgd)<;>try exact Xy))<;>simp -implicitDefEqProofs (maxSteps:=2000000) [hP,hN,g2,g3',g4,g5,g6,g8,g11,hb2,hb3,hb4,hb5,cA,gc,az]<;>try refine Ya ?_)|refine X2 ?_ ?_|(refine Xd ?_ ?_<;>intro hcd<;>try exact Xx))
  .skip
   with_reducible repeat' (first|refine Sp.h ?_|((first|refine Wd ?_|refine Ss.h ?_|refine Sc.h (LF) ?_|refine Sc.h (Je) ?_|(refine Sb.h ?_ ?_ ?_<;>(try intro hgd)<;>try exact Xy))<;>simp -implicitDefEqProofs (maxSteps:=2000000) [hP,hN,g2,g3',g4,g5,g6,g8,g11,hb2,hb3,hb4,hb5,cA,gc,az]<;>try refine Ya ?_)|refine X2 ?_ ?_|(refine Xd ?_ ?_<;>intro hcd<;>try exact Xx))
  .skip
   have q1:=@LF;have q2:=@Je;exact GS (gA g2 (gA g3' (gA g4 (gA g5 (gA g6 (gA g8 (gA g11 (gA hb2 (gA hb3 (gA hb4 (gA hb5 (gA @cA.eq_1 (gA @gc.eq_1 (gA @az.eq_1 @az.eq_2))))))))))))))
 .skip
  refine Gz ?_;refine WP.loopN [] 3 (λk st=>st.t 2=.ptr 2 0∧st.t 3=.ptr 3 0∧st.t 4=.ptr 4 0∧st.t 5=.ptr 5 0∧st.h 2=some (.box [.pv (Z a0),.pv (Z a1),.pv (Z a2),.pv (Z a3),.pv (Z a4),.pv (Z a5),.pv (Z a6),.pv (Z a7),.pv (Z a8),.pv (Z a9),.pv (Z a10),.pv (Z a11),.pv (Z a12),.pv (Z a13),.pv (Z a14),.pv (Z a15),.pv (Z a16),.pv (Z a17)] true false)∧st.h 3=some (.box [.pv (Z v0),.pv (Z v1),.pv (Z v2),.pv (Z v3),.pv (Z v4),.pv (Z v5)] true false)∧st.h 4=some (.box (cA ((((a0,a1),(a2,a3),(a4,a5)),((a6,a7),(a8,a9),(a10,a11)),((a12,a13),(a14,a15),(a16,a17)))) (((v0,v1),(v2,v3),(v4,v5))) 0 0) true false)∧st.t 8=.pv (Z 1)∧st.t 6=.pv (Z 1)∧st.t 11=.pv (Z k)∧st.h 5=some (.box (cA (((a0,a1),(a2,a3),(a4,a5)),((a6,a7),(a8,a9),(a10,a11)),((a12,a13),(a14,a15),(a16,a17))) ((v0,v1),(v2,v3),(v4,v5)) 1 k) true false)) (by simp[cA,gc,az,g2,g3',g4,g5,g8,hb2,hb3,hb4,hb5]) ?_;clear g2 g3' g4 g5 g8 hb2 hb3 hb4 hb5;rintro k st hk ⟨g2,g3',g4,g5,hb2,hb3,hb4,g8,g6,g11,hb5⟩;rcases cM hk with rfl|rfl|rfl|rfl
  all_goals (simp[cA,gc,az]at g11 hb4 hb5)
  .skip
   with_reducible repeat' (first|refine Sp.h ?_|((first|refine Wd ?_|refine Ss.h ?_|refine Sc.h (LF) ?_|refine Sc.h (Je) ?_|(refine Sb.h ?_ ?_ ?_<;>(try intro hgd)<;>try exact Xy))<;>simp -implicitDefEqProofs (maxSteps:=2000000) [hP,hN,g2,g3',g4,g5,g6,g8,g11,hb2,hb3,hb4,hb5,cA,gc,az]<;>try refine Ya ?_)|refine X2 ?_ ?_|(refine Xd ?_ ?_<;>intro hcd<;>try exact Xx))
  .skip
   with_reducible repeat' (first|refine Sp.h ?_|((first|refine Wd ?_|refine Ss.h ?_|refine Sc.h (LF) ?_|refine Sc.h (Je) ?_|(refine Sb.h ?_ ?_ ?_<;>(try intro hgd)<;>try exact Xy))<;>simp -implicitDefEqProofs (maxSteps:=2000000) [hP,hN,g2,g3',g4,g5,g6,g8,g11,hb2,hb3,hb4,hb5,cA,gc,az]<;>try refine Ya ?_)|refine X2 ?_ ?_|(refine Xd ?_ ?_<;>intro hcd<;>try exact Xx))
  .skip
   with_reducible repeat' (first|refine Sp.h ?_|((first|refine Wd ?_|refine Ss.h ?_|refine Sc.h (LF) ?_|refine Sc.h (Je) ?_|(refine Sb.h ?_ ?_ ?_<;>(try intro hgd)<;>try exact Xy))<;>simp -implicitDefEqProofs (maxSteps:=2000000) [hP,hN,g2,g3',g4,g5,g6,g8,g11,hb2,hb3,hb4,hb5,cA,gc,az]<;>try refine Ya ?_)|refine X2 ?_ ?_|(refine Xd ?_ ?_<;>intro hcd<;>try exact Xx))
  .skip
   have q1:=@LF;have q2:=@Je;exact GS (gA g2 (gA g3' (gA g4 (gA g5 (gA g6 (gA g8 (gA g11 (gA hb2 (gA hb3 (gA hb4 (gA hb5 (gA @cA.eq_1 (gA @gc.eq_1 (gA @az.eq_1 @az.eq_2))))))))))))))
 .skip
  refine Gz ?_;refine WP.loopN [] 3 (λk st=>st.t 2=.ptr 2 0∧st.t 3=.ptr 3 0∧st.t 4=.ptr 4 0∧st.t 5=.ptr 5 0∧st.h 2=some (.box [.pv (Z a0),.pv (Z a1),.pv (Z a2),.pv (Z a3),.pv (Z a4),.pv (Z a5),.pv (Z a6),.pv (Z a7),.pv (Z a8),.pv (Z a9),.pv (Z a10),.pv (Z a11),.pv (Z a12),.pv (Z a13),.pv (Z a14),.pv (Z a15),.pv (Z a16),.pv (Z a17)] true false)∧st.h 3=some (.box [.pv (Z v0),.pv (Z v1),.pv (Z v2),.pv (Z v3),.pv (Z v4),.pv (Z v5)] true false)∧st.h 4=some (.box (cA ((((a0,a1),(a2,a3),(a4,a5)),((a6,a7),(a8,a9),(a10,a11)),((a12,a13),(a14,a15),(a16,a17)))) (((v0,v1),(v2,v3),(v4,v5))) 0 0) true false)∧st.t 8=.pv (Z 2)∧st.t 6=.pv (Z 2)∧st.t 11=.pv (Z k)∧st.h 5=some (.box (cA (((a0,a1),(a2,a3),(a4,a5)),((a6,a7),(a8,a9),(a10,a11)),((a12,a13),(a14,a15),(a16,a17))) ((v0,v1),(v2,v3),(v4,v5)) 2 k) true false)) (by simp[cA,gc,az,g2,g3',g4,g5,g8,hb2,hb3,hb4,hb5]) ?_;clear g2 g3' g4 g5 g8 hb2 hb3 hb4 hb5;rintro k st hk ⟨g2,g3',g4,g5,hb2,hb3,hb4,g8,g6,g11,hb5⟩;rcases cM hk with rfl|rfl|rfl|rfl
  all_goals (simp[cA,gc,az]at g11 hb4 hb5)
  .skip
   with_reducible repeat' (first|refine Sp.h ?_|((first|refine Wd ?_|refine Ss.h ?_|refine Sc.h (LF) ?_|refine Sc.h (Je) ?_|(refine Sb.h ?_ ?_ ?_<;>(try intro hgd)<;>try exact Xy))<;>simp -implicitDefEqProofs (maxSteps:=2000000) [hP,hN,g2,g3',g4,g5,g6,g8,g11,hb2,hb3,hb4,hb5,cA,gc,az]<;>try refine Ya ?_)|refine X2 ?_ ?_|(refine Xd ?_ ?_<;>intro hcd<;>try exact Xx))
  .skip
   with_reducible repeat' (first|refine Sp.h ?_|((first|refine Wd ?_|refine Ss.h ?_|refine Sc.h (LF) ?_|refine Sc.h (Je) ?_|(refine Sb.h ?_ ?_ ?_<;>(try intro hgd)<;>try exact Xy))<;>simp -implicitDefEqProofs (maxSteps:=2000000) [hP,hN,g2,g3',g4,g5,g6,g8,g11,hb2,hb3,hb4,hb5,cA,gc,az]<;>try refine Ya ?_)|refine X2 ?_ ?_|(refine Xd ?_ ?_<;>intro hcd<;>try exact Xx))
  .skip
   with_reducible repeat' (first|refine Sp.h ?_|((first|refine Wd ?_|refine Ss.h ?_|refine Sc.h (LF) ?_|refine Sc.h (Je) ?_|(refine Sb.h ?_ ?_ ?_<;>(try intro hgd)<;>try exact Xy))<;>simp -implicitDefEqProofs (maxSteps:=2000000) [hP,hN,g2,g3',g4,g5,g6,g8,g11,hb2,hb3,hb4,hb5,cA,gc,az]<;>try refine Ya ?_)|refine X2 ?_ ?_|(refine Xd ?_ ?_<;>intro hcd<;>try exact Xx))
  .skip
   have q1:=@LF;have q2:=@Je;exact GS (gA g2 (gA g3' (gA g4 (gA g5 (gA g6 (gA g8 (gA g11 (gA hb2 (gA hb3 (gA hb4 (gA hb5 (gA @cA.eq_1 (gA @gc.eq_1 (gA @az.eq_1 @az.eq_2))))))))))))))
 .skip
  exact GS (gA g2 (gA g3' (gA g4 (gA g5 (gA g8 (gA hb2 (gA hb3 (gA hb4 (gA hb5 (gA @xF.eq_1 (gA @az.eq_1 @az.eq_2)))))))))))
theorem LG(x:Int):aa Tryz.prog 186 [.pv (Z x)] [] [] (.pv (Z (DK x))):=by
 refine Dp Tryz.func186 ?_;intro C hP hN;simp only[Tryz.f186]at hN|-;refine Gz ?_
 all_goals (try simp[DK])
def bA(a b:pw)(i k r c:Nat):Iv:=if r<i∨(r=i∧c<k)then tM a b r c else(0,0)
def cC(a b:pw)(i k:Nat):List AV:=[.pv (Z (bA a b i k 0 0).1),.pv (Z (bA a b i k 0 0).2),.pv (Z (bA a b i k 0 1).1),.pv (Z (bA a b i k 0 1).2),.pv (Z (bA a b i k 0 2).1),.pv (Z (bA a b i k 0 2).2),.pv (Z (bA a b i k 1 0).1),.pv (Z (bA a b i k 1 0).2),.pv (Z (bA a b i k 1 1).1),.pv (Z (bA a b i k 1 1).2),.pv (Z (bA a b i k 1 2).1),.pv (Z (bA a b i k 1 2).2),.pv (Z (bA a b i k 2 0).1),.pv (Z (bA a b i k 2 0).2),.pv (Z (bA a b i k 2 1).1),.pv (Z (bA a b i k 2 1).2),.pv (Z (bA a b i k 2 2).1),.pv (Z (bA a b i k 2 2).2)]
set_option maxRecDepth 4000 in
theorem MB{a6 a7 a8 a9 a10 a11 a12 a13 a14 a15 a16 a17 b0 b1 b2 b3 b4 b5 b6 b7 b8 b9 b10 b11 b12 b13 b14 b15 b16 b17:Int}:aa Tryz.prog 171 [.pv (G4 a0 a1 a2 a3 a4 a5 a6 a7 a8 a9 a10 a11 a12 a13 a14 a15 a16 a17),.pv (G4 b0 b1 b2 b3 b4 b5 b6 b7 b8 b9 b10 b11 b12 b13 b14 b15 b16 b17)] [] [] (.pv (DJ (DL (((a0,a1),(a2,a3),(a4,a5)),((a6,a7),(a8,a9),(a10,a11)),((a12,a13),(a14,a15),(a16,a17))) (((b0,b1),(b2,b3),(b4,b5)),((b6,b7),(b8,b9),(b10,b11)),((b12,b13),(b14,b15),(b16,b17)))))):=by
 obtain⟨A,hA⟩:∃A:pw,A=(((a0,a1),(a2,a3),(a4,a5)),((a6,a7),(a8,a9),(a10,a11)),((a12,a13),(a14,a15),(a16,a17))):=⟨_,rfl⟩;obtain⟨B,hB⟩:∃B:pw,B=(((b0,b1),(b2,b3),(b4,b5)),((b6,b7),(b8,b9),(b10,b11)),((b12,b13),(b14,b15),(b16,b17))):=⟨_,rfl⟩;rw[<-hA,<-hB];have hx:∀i k,pA (az (g3 A i) (aA B k) 3)=tM A B i k:=λ_ _=>rfl;have d1:∀m v n,az m v (n+1)=qE (az m v n) (vL (g3 m n) (g3 v n)):=λ_ _ _=>rfl
 have ea00:g3 (g3 A 0) 0=(a0,a1):=by rw[hA];rfl
 have ea01:g3 (g3 A 0) 1=(a2,a3):=by rw[hA];rfl
 have ea02:g3 (g3 A 0) 2=(a4,a5):=by rw[hA];rfl
 have ea10:g3 (g3 A 1) 0=(a6,a7):=by rw[hA];rfl
 have ea11:g3 (g3 A 1) 1=(a8,a9):=by rw[hA];rfl
 have ea12:g3 (g3 A 1) 2=(a10,a11):=by rw[hA];rfl
 have ea20:g3 (g3 A 2) 0=(a12,a13):=by rw[hA];rfl
 have ea21:g3 (g3 A 2) 1=(a14,a15):=by rw[hA];rfl
 have ea22:g3 (g3 A 2) 2=(a16,a17):=by rw[hA];rfl
 have eb00:g3 (aA B 0) 0=(b0,b1):=by rw[hB];rfl
 have eb01:g3 (aA B 1) 0=(b2,b3):=by rw[hB];rfl
 have eb02:g3 (aA B 2) 0=(b4,b5):=by rw[hB];rfl
 have eb10:g3 (aA B 0) 1=(b6,b7):=by rw[hB];rfl
 have eb11:g3 (aA B 1) 1=(b8,b9):=by rw[hB];rfl
 have eb12:g3 (aA B 2) 1=(b10,b11):=by rw[hB];rfl
 have eb20:g3 (aA B 0) 2=(b12,b13):=by rw[hB];rfl
 have eb21:g3 (aA B 1) 2=(b14,b15):=by rw[hB];rfl
 have eb22:g3 (aA B 2) 2=(b16,b17):=by rw[hB];rfl
 refine Dp Tryz.func171 ?_;intro C hP hN;simp only[Tryz.f171]at hN|-;refine GT trivial ?_;refine WP.loopN [8] 3 (λi st=>st.t 2=.ptr 2 0∧st.t 3=.ptr 3 0∧st.t 4=.ptr 4 0∧st.t 5=.ptr 5 0∧st.h 2=some (.box [.pv (Z a0),.pv (Z a1),.pv (Z a2),.pv (Z a3),.pv (Z a4),.pv (Z a5),.pv (Z a6),.pv (Z a7),.pv (Z a8),.pv (Z a9),.pv (Z a10),.pv (Z a11),.pv (Z a12),.pv (Z a13),.pv (Z a14),.pv (Z a15),.pv (Z a16),.pv (Z a17)] true false)∧st.h 3=some (.box [.pv (Z b0),.pv (Z b1),.pv (Z b2),.pv (Z b3),.pv (Z b4),.pv (Z b5),.pv (Z b6),.pv (Z b7),.pv (Z b8),.pv (Z b9),.pv (Z b10),.pv (Z b11),.pv (Z b12),.pv (Z b13),.pv (Z b14),.pv (Z b15),.pv (Z b16),.pv (Z b17)] true false)∧st.h 4=some (.box (cC A B 0 0) true false)∧st.t 10=.pv (Z i)∧st.h 5=some (.box (cC A B i 0) true false)∧st.h 8=none) (by simp[cC,bA]) ?_;rintro i st hi ⟨g2,g3',g4,g5,hb2,hb3,hb4,g10,hb5,hb8⟩;rcases cM hi with rfl|rfl|rfl|rfl
 all_goals (simp[cC,bA]at g10 hb4 hb5)
 .skip
  refine GT (gA g2 (gA g3' (gA g4 (gA g5 (gA g10 (gA hb2 (gA hb3 (gA hb4 (gA hb5 hb8))))))))) ?_;refine WP.loopN [8] 3 (λk st=>st.t 2=.ptr 2 0∧st.t 3=.ptr 3 0∧st.t 4=.ptr 4 0∧st.t 5=.ptr 5 0∧st.h 2=some (.box [.pv (Z a0),.pv (Z a1),.pv (Z a2),.pv (Z a3),.pv (Z a4),.pv (Z a5),.pv (Z a6),.pv (Z a7),.pv (Z a8),.pv (Z a9),.pv (Z a10),.pv (Z a11),.pv (Z a12),.pv (Z a13),.pv (Z a14),.pv (Z a15),.pv (Z a16),.pv (Z a17)] true false)∧st.h 3=some (.box [.pv (Z b0),.pv (Z b1),.pv (Z b2),.pv (Z b3),.pv (Z b4),.pv (Z b5),.pv (Z b6),.pv (Z b7),.pv (Z b8),.pv (Z b9),.pv (Z b10),.pv (Z b11),.pv (Z b12),.pv (Z b13),.pv (Z b14),.pv (Z b15),.pv (Z b16),.pv (Z b17)] true false)∧st.h 4=some (.box (cC A B 0 0) true false)∧st.t 10=.pv (Z 0)∧st.t 6=.pv (Z 0)∧st.t 13=.pv (Z k)∧st.h 5=some (.box (cC A B 0 k) true false)∧st.h 8=none) (by simp[cC,bA,g2,g3',g4,g5,g10,hb2,hb3,hb4,hb5]) ?_;clear g2 g3' g4 g5 g10 hb2 hb3 hb4 hb5 hb8;rintro k st hk ⟨g2,g3',g4,g5,hb2,hb3,hb4,g10,g6,g13,hb5,hb8⟩;rcases cM hk with rfl|rfl|rfl|rfl
  all_goals (simp[cC,bA]at g13 hb4 hb5)
  .skip
   refine GT (gA g2 (gA g3' (gA g4 (gA g5 (gA g6 (gA g10 (gA g13 (gA hb2 (gA hb3 (gA hb4 (gA hb5 hb8))))))))))) ?_;refine WP.loopN [] 3 (λj st=>st.t 2=.ptr 2 0∧st.t 3=.ptr 3 0∧st.t 4=.ptr 4 0∧st.t 5=.ptr 5 0∧st.h 2=some (.box [.pv (Z a0),.pv (Z a1),.pv (Z a2),.pv (Z a3),.pv (Z a4),.pv (Z a5),.pv (Z a6),.pv (Z a7),.pv (Z a8),.pv (Z a9),.pv (Z a10),.pv (Z a11),.pv (Z a12),.pv (Z a13),.pv (Z a14),.pv (Z a15),.pv (Z a16),.pv (Z a17)] true false)∧st.h 3=some (.box [.pv (Z b0),.pv (Z b1),.pv (Z b2),.pv (Z b3),.pv (Z b4),.pv (Z b5),.pv (Z b6),.pv (Z b7),.pv (Z b8),.pv (Z b9),.pv (Z b10),.pv (Z b11),.pv (Z b12),.pv (Z b13),.pv (Z b14),.pv (Z b15),.pv (Z b16),.pv (Z b17)] true false)∧st.h 4=some (.box (cC A B 0 0) true false)∧st.t 10=.pv (Z 0)∧st.t 6=.pv (Z 0)∧st.t 13=.pv (Z 0)∧st.t 7=.pv (Z 0)∧st.t 16=.pv (Z j)∧st.h 5=some (.box (cC A B 0 0) true false)∧st.t 8=.ptr 8 0∧st.h 8=some (.box [.pv (Z (az (g3 A 0) (aA B 0) j).1),.pv (Z (az (g3 A 0) (aA B 0) j).2)] true false)) (by simp[cC,bA,az,g2,g3',g4,g5,g6,g10,g13,hb2,hb3,hb4,hb5]) ?_;clear g2 g3' g4 g5 g6 g10 g13 hb2 hb3 hb4 hb5 hb8;rintro j st hj ⟨g2,g3',g4,g5,hb2,hb3,hb4,g10,g6,g13,g7,g16,hb5,g8,hb8⟩;rcases cM hj with rfl|rfl|rfl|rfl
   all_goals (simp[cC,bA]at g16 hb4 hb5)
   .have e:=d1 (g3 A 0) (aA B 0) 0
    rw[ea00,eb00]at e;generalize az (g3 A 0) (aA B 0) (0+1)=nx at *;generalize az (g3 A 0) (aA B 0) 0=cu at *;have q1:=@LF;have q2:=@Je;exact GS (gA g2 (gA g3' (gA g4 (gA g5 (gA g6 (gA g7 (gA g8 (gA g10 (gA g13 (gA g16 (gA hb2 (gA hb3 (gA hb4 (gA hb5 (gA hb8 (gA @cC.eq_1 (gA @bA.eq_1 e)))))))))))))))))
   .have e:=d1 (g3 A 0) (aA B 0) 1
    rw[ea01,eb10]at e;generalize az (g3 A 0) (aA B 0) (1+1)=nx at *;generalize az (g3 A 0) (aA B 0) 1=cu at *;have q1:=@LF;have q2:=@Je;exact GS (gA g2 (gA g3' (gA g4 (gA g5 (gA g6 (gA g7 (gA g8 (gA g10 (gA g13 (gA g16 (gA hb2 (gA hb3 (gA hb4 (gA hb5 (gA hb8 (gA @cC.eq_1 (gA @bA.eq_1 e)))))))))))))))))
   .have e:=d1 (g3 A 0) (aA B 0) 2
    rw[ea02,eb20]at e;generalize az (g3 A 0) (aA B 0) (2+1)=nx at *;generalize az (g3 A 0) (aA B 0) 2=cu at *;have q1:=@LF;have q2:=@Je;exact GS (gA g2 (gA g3' (gA g4 (gA g5 (gA g6 (gA g7 (gA g8 (gA g10 (gA g13 (gA g16 (gA hb2 (gA hb3 (gA hb4 (gA hb5 (gA hb8 (gA @cC.eq_1 (gA @bA.eq_1 e)))))))))))))))))
   .have e:=hx 0 0
    generalize az (g3 A 0) (aA B 0) 3=cu at *
    with_reducible repeat' (first|refine Sp.h ?_|((first|refine Wd ?_|refine Ss.h ?_|refine Sc.h (LG _) ?_|(refine Sb.h ?_ ?_ ?_<;>(try intro hgd)<;>try exact Xy))<;>simp -implicitDefEqProofs (maxSteps:=2000000) [hP,hN,g2,g3',g4,g5,g6,g7,g8,g10,g13,g16,hb2,hb3,hb4,hb5,hb8,cC,bA,<-e,pA]<;>try refine Ya ?_)|refine X2 ?_ ?_|(refine Xd ?_ ?_<;>intro hcd<;>try exact Xx))
  .skip
   refine GT (gA g2 (gA g3' (gA g4 (gA g5 (gA g6 (gA g10 (gA g13 (gA hb2 (gA hb3 (gA hb4 (gA hb5 hb8))))))))))) ?_;refine WP.loopN [] 3 (λj st=>st.t 2=.ptr 2 0∧st.t 3=.ptr 3 0∧st.t 4=.ptr 4 0∧st.t 5=.ptr 5 0∧st.h 2=some (.box [.pv (Z a0),.pv (Z a1),.pv (Z a2),.pv (Z a3),.pv (Z a4),.pv (Z a5),.pv (Z a6),.pv (Z a7),.pv (Z a8),.pv (Z a9),.pv (Z a10),.pv (Z a11),.pv (Z a12),.pv (Z a13),.pv (Z a14),.pv (Z a15),.pv (Z a16),.pv (Z a17)] true false)∧st.h 3=some (.box [.pv (Z b0),.pv (Z b1),.pv (Z b2),.pv (Z b3),.pv (Z b4),.pv (Z b5),.pv (Z b6),.pv (Z b7),.pv (Z b8),.pv (Z b9),.pv (Z b10),.pv (Z b11),.pv (Z b12),.pv (Z b13),.pv (Z b14),.pv (Z b15),.pv (Z b16),.pv (Z b17)] true false)∧st.h 4=some (.box (cC A B 0 0) true false)∧st.t 10=.pv (Z 0)∧st.t 6=.pv (Z 0)∧st.t 13=.pv (Z 1)∧st.t 7=.pv (Z 1)∧st.t 16=.pv (Z j)∧st.h 5=some (.box (cC A B 0 1) true false)∧st.t 8=.ptr 8 0∧st.h 8=some (.box [.pv (Z (az (g3 A 0) (aA B 1) j).1),.pv (Z (az (g3 A 0) (aA B 1) j).2)] true false)) (by simp[cC,bA,az,g2,g3',g4,g5,g6,g10,g13,hb2,hb3,hb4,hb5]) ?_;clear g2 g3' g4 g5 g6 g10 g13 hb2 hb3 hb4 hb5 hb8;rintro j st hj ⟨g2,g3',g4,g5,hb2,hb3,hb4,g10,g6,g13,g7,g16,hb5,g8,hb8⟩;rcases cM hj with rfl|rfl|rfl|rfl
   all_goals (simp[cC,bA]at g16 hb4 hb5)
   .have e:=d1 (g3 A 0) (aA B 1) 0
    rw[ea00,eb01]at e;generalize az (g3 A 0) (aA B 1) (0+1)=nx at *;generalize az (g3 A 0) (aA B 1) 0=cu at *;have q1:=@LF;have q2:=@Je;exact GS (gA g2 (gA g3' (gA g4 (gA g5 (gA g6 (gA g7 (gA g8 (gA g10 (gA g13 (gA g16 (gA hb2 (gA hb3 (gA hb4 (gA hb5 (gA hb8 (gA @cC.eq_1 (gA @bA.eq_1 e)))))))))))))))))
   .have e:=d1 (g3 A 0) (aA B 1) 1
    rw[ea01,eb11]at e;generalize az (g3 A 0) (aA B 1) (1+1)=nx at *;generalize az (g3 A 0) (aA B 1) 1=cu at *;have q1:=@LF;have q2:=@Je;exact GS (gA g2 (gA g3' (gA g4 (gA g5 (gA g6 (gA g7 (gA g8 (gA g10 (gA g13 (gA g16 (gA hb2 (gA hb3 (gA hb4 (gA hb5 (gA hb8 (gA @cC.eq_1 (gA @bA.eq_1 e)))))))))))))))))
   .have e:=d1 (g3 A 0) (aA B 1) 2
    rw[ea02,eb21]at e;generalize az (g3 A 0) (aA B 1) (2+1)=nx at *;generalize az (g3 A 0) (aA B 1) 2=cu at *;have q1:=@LF;have q2:=@Je;exact GS (gA g2 (gA g3' (gA g4 (gA g5 (gA g6 (gA g7 (gA g8 (gA g10 (gA g13 (gA g16 (gA hb2 (gA hb3 (gA hb4 (gA hb5 (gA hb8 (gA @cC.eq_1 (gA @bA.eq_1 e)))))))))))))))))
   .have e:=hx 0 1
    generalize az (g3 A 0) (aA B 1) 3=cu at *
    with_reducible repeat' (first|refine Sp.h ?_|((first|refine Wd ?_|refine Ss.h ?_|refine Sc.h (LG _) ?_|(refine Sb.h ?_ ?_ ?_<;>(try intro hgd)<;>try exact Xy))<;>simp -implicitDefEqProofs (maxSteps:=2000000) [hP,hN,g2,g3',g4,g5,g6,g7,g8,g10,g13,g16,hb2,hb3,hb4,hb5,hb8,cC,bA,<-e,pA]<;>try refine Ya ?_)|refine X2 ?_ ?_|(refine Xd ?_ ?_<;>intro hcd<;>try exact Xx))
  .skip
   refine GT (gA g2 (gA g3' (gA g4 (gA g5 (gA g6 (gA g10 (gA g13 (gA hb2 (gA hb3 (gA hb4 (gA hb5 hb8))))))))))) ?_;refine WP.loopN [] 3 (λj st=>st.t 2=.ptr 2 0∧st.t 3=.ptr 3 0∧st.t 4=.ptr 4 0∧st.t 5=.ptr 5 0∧st.h 2=some (.box [.pv (Z a0),.pv (Z a1),.pv (Z a2),.pv (Z a3),.pv (Z a4),.pv (Z a5),.pv (Z a6),.pv (Z a7),.pv (Z a8),.pv (Z a9),.pv (Z a10),.pv (Z a11),.pv (Z a12),.pv (Z a13),.pv (Z a14),.pv (Z a15),.pv (Z a16),.pv (Z a17)] true false)∧st.h 3=some (.box [.pv (Z b0),.pv (Z b1),.pv (Z b2),.pv (Z b3),.pv (Z b4),.pv (Z b5),.pv (Z b6),.pv (Z b7),.pv (Z b8),.pv (Z b9),.pv (Z b10),.pv (Z b11),.pv (Z b12),.pv (Z b13),.pv (Z b14),.pv (Z b15),.pv (Z b16),.pv (Z b17)] true false)∧st.h 4=some (.box (cC A B 0 0) true false)∧st.t 10=.pv (Z 0)∧st.t 6=.pv (Z 0)∧st.t 13=.pv (Z 2)∧st.t 7=.pv (Z 2)∧st.t 16=.pv (Z j)∧st.h 5=some (.box (cC A B 0 2) true false)∧st.t 8=.ptr 8 0∧st.h 8=some (.box [.pv (Z (az (g3 A 0) (aA B 2) j).1),.pv (Z (az (g3 A 0) (aA B 2) j).2)] true false)) (by simp[cC,bA,az,g2,g3',g4,g5,g6,g10,g13,hb2,hb3,hb4,hb5]) ?_;clear g2 g3' g4 g5 g6 g10 g13 hb2 hb3 hb4 hb5 hb8;rintro j st hj ⟨g2,g3',g4,g5,hb2,hb3,hb4,g10,g6,g13,g7,g16,hb5,g8,hb8⟩;rcases cM hj with rfl|rfl|rfl|rfl
   all_goals (simp[cC,bA]at g16 hb4 hb5)
   .have e:=d1 (g3 A 0) (aA B 2) 0
    rw[ea00,eb02]at e;generalize az (g3 A 0) (aA B 2) (0+1)=nx at *;generalize az (g3 A 0) (aA B 2) 0=cu at *;have q1:=@LF;have q2:=@Je;exact GS (gA g2 (gA g3' (gA g4 (gA g5 (gA g6 (gA g7 (gA g8 (gA g10 (gA g13 (gA g16 (gA hb2 (gA hb3 (gA hb4 (gA hb5 (gA hb8 (gA @cC.eq_1 (gA @bA.eq_1 e)))))))))))))))))
   .have e:=d1 (g3 A 0) (aA B 2) 1
    rw[ea01,eb12]at e;generalize az (g3 A 0) (aA B 2) (1+1)=nx at *;generalize az (g3 A 0) (aA B 2) 1=cu at *;have q1:=@LF;have q2:=@Je;exact GS (gA g2 (gA g3' (gA g4 (gA g5 (gA g6 (gA g7 (gA g8 (gA g10 (gA g13 (gA g16 (gA hb2 (gA hb3 (gA hb4 (gA hb5 (gA hb8 (gA @cC.eq_1 (gA @bA.eq_1 e)))))))))))))))))
   .have e:=d1 (g3 A 0) (aA B 2) 2
    rw[ea02,eb22]at e;generalize az (g3 A 0) (aA B 2) (2+1)=nx at *;generalize az (g3 A 0) (aA B 2) 2=cu at *;have q1:=@LF;have q2:=@Je;exact GS (gA g2 (gA g3' (gA g4 (gA g5 (gA g6 (gA g7 (gA g8 (gA g10 (gA g13 (gA g16 (gA hb2 (gA hb3 (gA hb4 (gA hb5 (gA hb8 (gA @cC.eq_1 (gA @bA.eq_1 e)))))))))))))))))
   .have e:=hx 0 2
    generalize az (g3 A 0) (aA B 2) 3=cu at *
    with_reducible repeat' (first|refine Sp.h ?_|((first|refine Wd ?_|refine Ss.h ?_|refine Sc.h (LG _) ?_|(refine Sb.h ?_ ?_ ?_<;>(try intro hgd)<;>try exact Xy))<;>simp -implicitDefEqProofs (maxSteps:=2000000) [hP,hN,g2,g3',g4,g5,g6,g7,g8,g10,g13,g16,hb2,hb3,hb4,hb5,hb8,cC,bA,<-e,pA]<;>try refine Ya ?_)|refine X2 ?_ ?_|(refine Xd ?_ ?_<;>intro hcd<;>try exact Xx))
  .skip
   exact GS (gA g2 (gA g3' (gA g4 (gA g5 (gA g6 (gA g10 (gA g13 (gA hb2 (gA hb3 (gA hb4 (gA hb5 (gA hb8 (gA @cC.eq_1 @bA.eq_1)))))))))))))
 .skip
  refine GT (gA g2 (gA g3' (gA g4 (gA g5 (gA g10 (gA hb2 (gA hb3 (gA hb4 (gA hb5 hb8))))))))) ?_;refine WP.loopN [8] 3 (λk st=>st.t 2=.ptr 2 0∧st.t 3=.ptr 3 0∧st.t 4=.ptr 4 0∧st.t 5=.ptr 5 0∧st.h 2=some (.box [.pv (Z a0),.pv (Z a1),.pv (Z a2),.pv (Z a3),.pv (Z a4),.pv (Z a5),.pv (Z a6),.pv (Z a7),.pv (Z a8),.pv (Z a9),.pv (Z a10),.pv (Z a11),.pv (Z a12),.pv (Z a13),.pv (Z a14),.pv (Z a15),.pv (Z a16),.pv (Z a17)] true false)∧st.h 3=some (.box [.pv (Z b0),.pv (Z b1),.pv (Z b2),.pv (Z b3),.pv (Z b4),.pv (Z b5),.pv (Z b6),.pv (Z b7),.pv (Z b8),.pv (Z b9),.pv (Z b10),.pv (Z b11),.pv (Z b12),.pv (Z b13),.pv (Z b14),.pv (Z b15),.pv (Z b16),.pv (Z b17)] true false)∧st.h 4=some (.box (cC A B 0 0) true false)∧st.t 10=.pv (Z 1)∧st.t 6=.pv (Z 1)∧st.t 13=.pv (Z k)∧st.h 5=some (.box (cC A B 1 k) true false)∧st.h 8=none) (by simp[cC,bA,g2,g3',g4,g5,g10,hb2,hb3,hb4,hb5]) ?_;clear g2 g3' g4 g5 g10 hb2 hb3 hb4 hb5 hb8;rintro k st hk ⟨g2,g3',g4,g5,hb2,hb3,hb4,g10,g6,g13,hb5,hb8⟩;rcases cM hk with rfl|rfl|rfl|rfl
  all_goals (simp[cC,bA]at g13 hb4 hb5)
  .skip
   refine GT (gA g2 (gA g3' (gA g4 (gA g5 (gA g6 (gA g10 (gA g13 (gA hb2 (gA hb3 (gA hb4 (gA hb5 hb8))))))))))) ?_;refine WP.loopN [] 3 (λj st=>st.t 2=.ptr 2 0∧st.t 3=.ptr 3 0∧st.t 4=.ptr 4 0∧st.t 5=.ptr 5 0∧st.h 2=some (.box [.pv (Z a0),.pv (Z a1),.pv (Z a2),.pv (Z a3),.pv (Z a4),.pv (Z a5),.pv (Z a6),.pv (Z a7),.pv (Z a8),.pv (Z a9),.pv (Z a10),.pv (Z a11),.pv (Z a12),.pv (Z a13),.pv (Z a14),.pv (Z a15),.pv (Z a16),.pv (Z a17)] true false)∧st.h 3=some (.box [.pv (Z b0),.pv (Z b1),.pv (Z b2),.pv (Z b3),.pv (Z b4),.pv (Z b5),.pv (Z b6),.pv (Z b7),.pv (Z b8),.pv (Z b9),.pv (Z b10),.pv (Z b11),.pv (Z b12),.pv (Z b13),.pv (Z b14),.pv (Z b15),.pv (Z b16),.pv (Z b17)] true false)∧st.h 4=some (.box (cC A B 0 0) true false)∧st.t 10=.pv (Z 1)∧st.t 6=.pv (Z 1)∧st.t 13=.pv (Z 0)∧st.t 7=.pv (Z 0)∧st.t 16=.pv (Z j)∧st.h 5=some (.box (cC A B 1 0) true false)∧st.t 8=.ptr 8 0∧st.h 8=some (.box [.pv (Z (az (g3 A 1) (aA B 0) j).1),.pv (Z (az (g3 A 1) (aA B 0) j).2)] true false)) (by simp[cC,bA,az,g2,g3',g4,g5,g6,g10,g13,hb2,hb3,hb4,hb5]) ?_;clear g2 g3' g4 g5 g6 g10 g13 hb2 hb3 hb4 hb5 hb8;rintro j st hj ⟨g2,g3',g4,g5,hb2,hb3,hb4,g10,g6,g13,g7,g16,hb5,g8,hb8⟩;rcases cM hj with rfl|rfl|rfl|rfl
   all_goals (simp[cC,bA]at g16 hb4 hb5)
   .have e:=d1 (g3 A 1) (aA B 0) 0
    rw[ea10,eb00]at e;generalize az (g3 A 1) (aA B 0) (0+1)=nx at *;generalize az (g3 A 1) (aA B 0) 0=cu at *;have q1:=@LF;have q2:=@Je;exact GS (gA g2 (gA g3' (gA g4 (gA g5 (gA g6 (gA g7 (gA g8 (gA g10 (gA g13 (gA g16 (gA hb2 (gA hb3 (gA hb4 (gA hb5 (gA hb8 (gA @cC.eq_1 (gA @bA.eq_1 e)))))))))))))))))
   .have e:=d1 (g3 A 1) (aA B 0) 1
    rw[ea11,eb10]at e;generalize az (g3 A 1) (aA B 0) (1+1)=nx at *;generalize az (g3 A 1) (aA B 0) 1=cu at *;have q1:=@LF;have q2:=@Je;exact GS (gA g2 (gA g3' (gA g4 (gA g5 (gA g6 (gA g7 (gA g8 (gA g10 (gA g13 (gA g16 (gA hb2 (gA hb3 (gA hb4 (gA hb5 (gA hb8 (gA @cC.eq_1 (gA @bA.eq_1 e)))))))))))))))))
   .have e:=d1 (g3 A 1) (aA B 0) 2
    rw[ea12,eb20]at e;generalize az (g3 A 1) (aA B 0) (2+1)=nx at *;generalize az (g3 A 1) (aA B 0) 2=cu at *;have q1:=@LF;have q2:=@Je;exact GS (gA g2 (gA g3' (gA g4 (gA g5 (gA g6 (gA g7 (gA g8 (gA g10 (gA g13 (gA g16 (gA hb2 (gA hb3 (gA hb4 (gA hb5 (gA hb8 (gA @cC.eq_1 (gA @bA.eq_1 e)))))))))))))))))
   .have e:=hx 1 0
    generalize az (g3 A 1) (aA B 0) 3=cu at *
    with_reducible repeat' (first|refine Sp.h ?_|((first|refine Wd ?_|refine Ss.h ?_|refine Sc.h (LG _) ?_|(refine Sb.h ?_ ?_ ?_<;>(try intro hgd)<;>try exact Xy))<;>simp -implicitDefEqProofs (maxSteps:=2000000) [hP,hN,g2,g3',g4,g5,g6,g7,g8,g10,g13,g16,hb2,hb3,hb4,hb5,hb8,cC,bA,<-e,pA]<;>try refine Ya ?_)|refine X2 ?_ ?_|(refine Xd ?_ ?_<;>intro hcd<;>try exact Xx))
  .skip
   refine GT (gA g2 (gA g3' (gA g4 (gA g5 (gA g6 (gA g10 (gA g13 (gA hb2 (gA hb3 (gA hb4 (gA hb5 hb8))))))))))) ?_;refine WP.loopN [] 3 (λj st=>st.t 2=.ptr 2 0∧st.t 3=.ptr 3 0∧st.t 4=.ptr 4 0∧st.t 5=.ptr 5 0∧st.h 2=some (.box [.pv (Z a0),.pv (Z a1),.pv (Z a2),.pv (Z a3),.pv (Z a4),.pv (Z a5),.pv (Z a6),.pv (Z a7),.pv (Z a8),.pv (Z a9),.pv (Z a10),.pv (Z a11),.pv (Z a12),.pv (Z a13),.pv (Z a14),.pv (Z a15),.pv (Z a16),.pv (Z a17)] true false)∧st.h 3=some (.box [.pv (Z b0),.pv (Z b1),.pv (Z b2),.pv (Z b3),.pv (Z b4),.pv (Z b5),.pv (Z b6),.pv (Z b7),.pv (Z b8),.pv (Z b9),.pv (Z b10),.pv (Z b11),.pv (Z b12),.pv (Z b13),.pv (Z b14),.pv (Z b15),.pv (Z b16),.pv (Z b17)] true false)∧st.h 4=some (.box (cC A B 0 0) true false)∧st.t 10=.pv (Z 1)∧st.t 6=.pv (Z 1)∧st.t 13=.pv (Z 1)∧st.t 7=.pv (Z 1)∧st.t 16=.pv (Z j)∧st.h 5=some (.box (cC A B 1 1) true false)∧st.t 8=.ptr 8 0∧st.h 8=some (.box [.pv (Z (az (g3 A 1) (aA B 1) j).1),.pv (Z (az (g3 A 1) (aA B 1) j).2)] true false)) (by simp[cC,bA,az,g2,g3',g4,g5,g6,g10,g13,hb2,hb3,hb4,hb5]) ?_;clear g2 g3' g4 g5 g6 g10 g13 hb2 hb3 hb4 hb5 hb8;rintro j st hj ⟨g2,g3',g4,g5,hb2,hb3,hb4,g10,g6,g13,g7,g16,hb5,g8,hb8⟩;rcases cM hj with rfl|rfl|rfl|rfl
   all_goals (simp[cC,bA]at g16 hb4 hb5)
   .have e:=d1 (g3 A 1) (aA B 1) 0
    rw[ea10,eb01]at e;generalize az (g3 A 1) (aA B 1) (0+1)=nx at *;generalize az (g3 A 1) (aA B 1) 0=cu at *;have q1:=@LF;have q2:=@Je;exact GS (gA g2 (gA g3' (gA g4 (gA g5 (gA g6 (gA g7 (gA g8 (gA g10 (gA g13 (gA g16 (gA hb2 (gA hb3 (gA hb4 (gA hb5 (gA hb8 (gA @cC.eq_1 (gA @bA.eq_1 e)))))))))))))))))
   .have e:=d1 (g3 A 1) (aA B 1) 1
    rw[ea11,eb11]at e;generalize az (g3 A 1) (aA B 1) (1+1)=nx at *;generalize az (g3 A 1) (aA B 1) 1=cu at *;have q1:=@LF;have q2:=@Je;exact GS (gA g2 (gA g3' (gA g4 (gA g5 (gA g6 (gA g7 (gA g8 (gA g10 (gA g13 (gA g16 (gA hb2 (gA hb3 (gA hb4 (gA hb5 (gA hb8 (gA @cC.eq_1 (gA @bA.eq_1 e)))))))))))))))))
   .have e:=d1 (g3 A 1) (aA B 1) 2
    rw[ea12,eb21]at e;generalize az (g3 A 1) (aA B 1) (2+1)=nx at *;generalize az (g3 A 1) (aA B 1) 2=cu at *;have q1:=@LF;have q2:=@Je;exact GS (gA g2 (gA g3' (gA g4 (gA g5 (gA g6 (gA g7 (gA g8 (gA g10 (gA g13 (gA g16 (gA hb2 (gA hb3 (gA hb4 (gA hb5 (gA hb8 (gA @cC.eq_1 (gA @bA.eq_1 e)))))))))))))))))
   .have e:=hx 1 1
    generalize az (g3 A 1) (aA B 1) 3=cu at *
    with_reducible repeat' (first|refine Sp.h ?_|((first|refine Wd ?_|refine Ss.h ?_|refine Sc.h (LG _) ?_|(refine Sb.h ?_ ?_ ?_<;>(try intro hgd)<;>try exact Xy))<;>simp -implicitDefEqProofs (maxSteps:=2000000) [hP,hN,g2,g3',g4,g5,g6,g7,g8,g10,g13,g16,hb2,hb3,hb4,hb5,hb8,cC,bA,<-e,pA]<;>try refine Ya ?_)|refine X2 ?_ ?_|(refine Xd ?_ ?_<;>intro hcd<;>try exact Xx))
  .skip
   refine GT (gA g2 (gA g3' (gA g4 (gA g5 (gA g6 (gA g10 (gA g13 (gA hb2 (gA hb3 (gA hb4 (gA hb5 hb8))))))))))) ?_;refine WP.loopN [] 3 (λj st=>st.t 2=.ptr 2 0∧st.t 3=.ptr 3 0∧st.t 4=.ptr 4 0∧st.t 5=.ptr 5 0∧st.h 2=some (.box [.pv (Z a0),.pv (Z a1),.pv (Z a2),.pv (Z a3),.pv (Z a4),.pv (Z a5),.pv (Z a6),.pv (Z a7),.pv (Z a8),.pv (Z a9),.pv (Z a10),.pv (Z a11),.pv (Z a12),.pv (Z a13),.pv (Z a14),.pv (Z a15),.pv (Z a16),.pv (Z a17)] true false)∧st.h 3=some (.box [.pv (Z b0),.pv (Z b1),.pv (Z b2),.pv (Z b3),.pv (Z b4),.pv (Z b5),.pv (Z b6),.pv (Z b7),.pv (Z b8),.pv (Z b9),.pv (Z b10),.pv (Z b11),.pv (Z b12),.pv (Z b13),.pv (Z b14),.pv (Z b15),.pv (Z b16),.pv (Z b17)] true false)∧st.h 4=some (.box (cC A B 0 0) true false)∧st.t 10=.pv (Z 1)∧st.t 6=.pv (Z 1)∧st.t 13=.pv (Z 2)∧st.t 7=.pv (Z 2)∧st.t 16=.pv (Z j)∧st.h 5=some (.box (cC A B 1 2) true false)∧st.t 8=.ptr 8 0∧st.h 8=some (.box [.pv (Z (az (g3 A 1) (aA B 2) j).1),.pv (Z (az (g3 A 1) (aA B 2) j).2)] true false)) (by simp[cC,bA,az,g2,g3',g4,g5,g6,g10,g13,hb2,hb3,hb4,hb5]) ?_;clear g2 g3' g4 g5 g6 g10 g13 hb2 hb3 hb4 hb5 hb8;rintro j st hj ⟨g2,g3',g4,g5,hb2,hb3,hb4,g10,g6,g13,g7,g16,hb5,g8,hb8⟩;rcases cM hj with rfl|rfl|rfl|rfl
   all_goals (simp[cC,bA]at g16 hb4 hb5)
   .have e:=d1 (g3 A 1) (aA B 2) 0
    rw[ea10,eb02]at e;generalize az (g3 A 1) (aA B 2) (0+1)=nx at *;generalize az (g3 A 1) (aA B 2) 0=cu at *;have q1:=@LF;have q2:=@Je;exact GS (gA g2 (gA g3' (gA g4 (gA g5 (gA g6 (gA g7 (gA g8 (gA g10 (gA g13 (gA g16 (gA hb2 (gA hb3 (gA hb4 (gA hb5 (gA hb8 (gA @cC.eq_1 (gA @bA.eq_1 e)))))))))))))))))
   .have e:=d1 (g3 A 1) (aA B 2) 1
    rw[ea11,eb12]at e;generalize az (g3 A 1) (aA B 2) (1+1)=nx at *;generalize az (g3 A 1) (aA B 2) 1=cu at *;have q1:=@LF;have q2:=@Je;exact GS (gA g2 (gA g3' (gA g4 (gA g5 (gA g6 (gA g7 (gA g8 (gA g10 (gA g13 (gA g16 (gA hb2 (gA hb3 (gA hb4 (gA hb5 (gA hb8 (gA @cC.eq_1 (gA @bA.eq_1 e)))))))))))))))))
   .have e:=d1 (g3 A 1) (aA B 2) 2
    rw[ea12,eb22]at e;generalize az (g3 A 1) (aA B 2) (2+1)=nx at *;generalize az (g3 A 1) (aA B 2) 2=cu at *;have q1:=@LF;have q2:=@Je;exact GS (gA g2 (gA g3' (gA g4 (gA g5 (gA g6 (gA g7 (gA g8 (gA g10 (gA g13 (gA g16 (gA hb2 (gA hb3 (gA hb4 (gA hb5 (gA hb8 (gA @cC.eq_1 (gA @bA.eq_1 e)))))))))))))))))
   .have e:=hx 1 2
    generalize az (g3 A 1) (aA B 2) 3=cu at *
    with_reducible repeat' (first|refine Sp.h ?_|((first|refine Wd ?_|refine Ss.h ?_|refine Sc.h (LG _) ?_|(refine Sb.h ?_ ?_ ?_<;>(try intro hgd)<;>try exact Xy))<;>simp -implicitDefEqProofs (maxSteps:=2000000) [hP,hN,g2,g3',g4,g5,g6,g7,g8,g10,g13,g16,hb2,hb3,hb4,hb5,hb8,cC,bA,<-e,pA]<;>try refine Ya ?_)|refine X2 ?_ ?_|(refine Xd ?_ ?_<;>intro hcd<;>try exact Xx))
  .skip
   exact GS (gA g2 (gA g3' (gA g4 (gA g5 (gA g6 (gA g10 (gA g13 (gA hb2 (gA hb3 (gA hb4 (gA hb5 (gA hb8 (gA @cC.eq_1 @bA.eq_1)))))))))))))
 .skip
  refine GT (gA g2 (gA g3' (gA g4 (gA g5 (gA g10 (gA hb2 (gA hb3 (gA hb4 (gA hb5 hb8))))))))) ?_;refine WP.loopN [8] 3 (λk st=>st.t 2=.ptr 2 0∧st.t 3=.ptr 3 0∧st.t 4=.ptr 4 0∧st.t 5=.ptr 5 0∧st.h 2=some (.box [.pv (Z a0),.pv (Z a1),.pv (Z a2),.pv (Z a3),.pv (Z a4),.pv (Z a5),.pv (Z a6),.pv (Z a7),.pv (Z a8),.pv (Z a9),.pv (Z a10),.pv (Z a11),.pv (Z a12),.pv (Z a13),.pv (Z a14),.pv (Z a15),.pv (Z a16),.pv (Z a17)] true false)∧st.h 3=some (.box [.pv (Z b0),.pv (Z b1),.pv (Z b2),.pv (Z b3),.pv (Z b4),.pv (Z b5),.pv (Z b6),.pv (Z b7),.pv (Z b8),.pv (Z b9),.pv (Z b10),.pv (Z b11),.pv (Z b12),.pv (Z b13),.pv (Z b14),.pv (Z b15),.pv (Z b16),.pv (Z b17)] true false)∧st.h 4=some (.box (cC A B 0 0) true false)∧st.t 10=.pv (Z 2)∧st.t 6=.pv (Z 2)∧st.t 13=.pv (Z k)∧st.h 5=some (.box (cC A B 2 k) true false)∧st.h 8=none) (by simp[cC,bA,g2,g3',g4,g5,g10,hb2,hb3,hb4,hb5]) ?_;clear g2 g3' g4 g5 g10 hb2 hb3 hb4 hb5 hb8;rintro k st hk ⟨g2,g3',g4,g5,hb2,hb3,hb4,g10,g6,g13,hb5,hb8⟩;rcases cM hk with rfl|rfl|rfl|rfl
  all_goals (simp[cC,bA]at g13 hb4 hb5)
  .skip
   refine GT (gA g2 (gA g3' (gA g4 (gA g5 (gA g6 (gA g10 (gA g13 (gA hb2 (gA hb3 (gA hb4 (gA hb5 hb8))))))))))) ?_;refine WP.loopN [] 3 (λj st=>st.t 2=.ptr 2 0∧st.t 3=.ptr 3 0∧st.t 4=.ptr 4 0∧st.t 5=.ptr 5 0∧st.h 2=some (.box [.pv (Z a0),.pv (Z a1),.pv (Z a2),.pv (Z a3),.pv (Z a4),.pv (Z a5),.pv (Z a6),.pv (Z a7),.pv (Z a8),.pv (Z a9),.pv (Z a10),.pv (Z a11),.pv (Z a12),.pv (Z a13),.pv (Z a14),.pv (Z a15),.pv (Z a16),.pv (Z a17)] true false)∧st.h 3=some (.box [.pv (Z b0),.pv (Z b1),.pv (Z b2),.pv (Z b3),.pv (Z b4),.pv (Z b5),.pv (Z b6),.pv (Z b7),.pv (Z b8),.pv (Z b9),.pv (Z b10),.pv (Z b11),.pv (Z b12),.pv (Z b13),.pv (Z b14),.pv (Z b15),.pv (Z b16),.pv (Z b17)] true false)∧st.h 4=some (.box (cC A B 0 0) true false)∧st.t 10=.pv (Z 2)∧st.t 6=.pv (Z 2)∧st.t 13=.pv (Z 0)∧st.t 7=.pv (Z 0)∧st.t 16=.pv (Z j)∧st.h 5=some (.box (cC A B 2 0) true false)∧st.t 8=.ptr 8 0∧st.h 8=some (.box [.pv (Z (az (g3 A 2) (aA B 0) j).1),.pv (Z (az (g3 A 2) (aA B 0) j).2)] true false)) (by simp[cC,bA,az,g2,g3',g4,g5,g6,g10,g13,hb2,hb3,hb4,hb5]) ?_;clear g2 g3' g4 g5 g6 g10 g13 hb2 hb3 hb4 hb5 hb8;rintro j st hj ⟨g2,g3',g4,g5,hb2,hb3,hb4,g10,g6,g13,g7,g16,hb5,g8,hb8⟩;rcases cM hj with rfl|rfl|rfl|rfl
   all_goals (simp[cC,bA]at g16 hb4 hb5)
   .have e:=d1 (g3 A 2) (aA B 0) 0
    rw[ea20,eb00]at e;generalize az (g3 A 2) (aA B 0) (0+1)=nx at *;generalize az (g3 A 2) (aA B 0) 0=cu at *;have q1:=@LF;have q2:=@Je;exact GS (gA g2 (gA g3' (gA g4 (gA g5 (gA g6 (gA g7 (gA g8 (gA g10 (gA g13 (gA g16 (gA hb2 (gA hb3 (gA hb4 (gA hb5 (gA hb8 (gA @cC.eq_1 (gA @bA.eq_1 e)))))))))))))))))
   .have e:=d1 (g3 A 2) (aA B 0) 1
    rw[ea21,eb10]at e;generalize az (g3 A 2) (aA B 0) (1+1)=nx at *;generalize az (g3 A 2) (aA B 0) 1=cu at *;have q1:=@LF;have q2:=@Je;exact GS (gA g2 (gA g3' (gA g4 (gA g5 (gA g6 (gA g7 (gA g8 (gA g10 (gA g13 (gA g16 (gA hb2 (gA hb3 (gA hb4 (gA hb5 (gA hb8 (gA @cC.eq_1 (gA @bA.eq_1 e)))))))))))))))))
   .have e:=d1 (g3 A 2) (aA B 0) 2
    rw[ea22,eb20]at e;generalize az (g3 A 2) (aA B 0) (2+1)=nx at *;generalize az (g3 A 2) (aA B 0) 2=cu at *;have q1:=@LF;have q2:=@Je;exact GS (gA g2 (gA g3' (gA g4 (gA g5 (gA g6 (gA g7 (gA g8 (gA g10 (gA g13 (gA g16 (gA hb2 (gA hb3 (gA hb4 (gA hb5 (gA hb8 (gA @cC.eq_1 (gA @bA.eq_1 e)))))))))))))))))
   .have e:=hx 2 0
    generalize az (g3 A 2) (aA B 0) 3=cu at *
    with_reducible repeat' (first|refine Sp.h ?_|((first|refine Wd ?_|refine Ss.h ?_|refine Sc.h (LG _) ?_|(refine Sb.h ?_ ?_ ?_<;>(try intro hgd)<;>try exact Xy))<;>simp -implicitDefEqProofs (maxSteps:=2000000) [hP,hN,g2,g3',g4,g5,g6,g7,g8,g10,g13,g16,hb2,hb3,hb4,hb5,hb8,cC,bA,<-e,pA]<;>try refine Ya ?_)|refine X2 ?_ ?_|(refine Xd ?_ ?_<;>intro hcd<;>try exact Xx))
  .skip
   refine GT (gA g2 (gA g3' (gA g4 (gA g5 (gA g6 (gA g10 (gA g13 (gA hb2 (gA hb3 (gA hb4 (gA hb5 hb8))))))))))) ?_;refine WP.loopN [] 3 (λj st=>st.t 2=.ptr 2 0∧st.t 3=.ptr 3 0∧st.t 4=.ptr 4 0∧st.t 5=.ptr 5 0∧st.h 2=some (.box [.pv (Z a0),.pv (Z a1),.pv (Z a2),.pv (Z a3),.pv (Z a4),.pv (Z a5),.pv (Z a6),.pv (Z a7),.pv (Z a8),.pv (Z a9),.pv (Z a10),.pv (Z a11),.pv (Z a12),.pv (Z a13),.pv (Z a14),.pv (Z a15),.pv (Z a16),.pv (Z a17)] true false)∧st.h 3=some (.box [.pv (Z b0),.pv (Z b1),.pv (Z b2),.pv (Z b3),.pv (Z b4),.pv (Z b5),.pv (Z b6),.pv (Z b7),.pv (Z b8),.pv (Z b9),.pv (Z b10),.pv (Z b11),.pv (Z b12),.pv (Z b13),.pv (Z b14),.pv (Z b15),.pv (Z b16),.pv (Z b17)] true false)∧st.h 4=some (.box (cC A B 0 0) true false)∧st.t 10=.pv (Z 2)∧st.t 6=.pv (Z 2)∧st.t 13=.pv (Z 1)∧st.t 7=.pv (Z 1)∧st.t 16=.pv (Z j)∧st.h 5=some (.box (cC A B 2 1) true false)∧st.t 8=.ptr 8 0∧st.h 8=some (.box [.pv (Z (az (g3 A 2) (aA B 1) j).1),.pv (Z (az (g3 A 2) (aA B 1) j).2)] true false)) (by simp[cC,bA,az,g2,g3',g4,g5,g6,g10,g13,hb2,hb3,hb4,hb5]) ?_;clear g2 g3' g4 g5 g6 g10 g13 hb2 hb3 hb4 hb5 hb8;rintro j st hj ⟨g2,g3',g4,g5,hb2,hb3,hb4,g10,g6,g13,g7,g16,hb5,g8,hb8⟩;rcases cM hj with rfl|rfl|rfl|rfl
   all_goals (simp[cC,bA]at g16 hb4 hb5)
   .have e:=d1 (g3 A 2) (aA B 1) 0
    rw[ea20,eb01]at e;generalize az (g3 A 2) (aA B 1) (0+1)=nx at *;generalize az (g3 A 2) (aA B 1) 0=cu at *;have q1:=@LF;have q2:=@Je;exact GS (gA g2 (gA g3' (gA g4 (gA g5 (gA g6 (gA g7 (gA g8 (gA g10 (gA g13 (gA g16 (gA hb2 (gA hb3 (gA hb4 (gA hb5 (gA hb8 (gA @cC.eq_1 (gA @bA.eq_1 e)))))))))))))))))
   .have e:=d1 (g3 A 2) (aA B 1) 1
    rw[ea21,eb11]at e;generalize az (g3 A 2) (aA B 1) (1+1)=nx at *;generalize az (g3 A 2) (aA B 1) 1=cu at *;have q1:=@LF;have q2:=@Je;exact GS (gA g2 (gA g3' (gA g4 (gA g5 (gA g6 (gA g7 (gA g8 (gA g10 (gA g13 (gA g16 (gA hb2 (gA hb3 (gA hb4 (gA hb5 (gA hb8 (gA @cC.eq_1 (gA @bA.eq_1 e)))))))))))))))))
   .have e:=d1 (g3 A 2) (aA B 1) 2
    rw[ea22,eb21]at e;generalize az (g3 A 2) (aA B 1) (2+1)=nx at *;generalize az (g3 A 2) (aA B 1) 2=cu at *;have q1:=@LF;have q2:=@Je;exact GS (gA g2 (gA g3' (gA g4 (gA g5 (gA g6 (gA g7 (gA g8 (gA g10 (gA g13 (gA g16 (gA hb2 (gA hb3 (gA hb4 (gA hb5 (gA hb8 (gA @cC.eq_1 (gA @bA.eq_1 e)))))))))))))))))
   .have e:=hx 2 1
    generalize az (g3 A 2) (aA B 1) 3=cu at *
    with_reducible repeat' (first|refine Sp.h ?_|((first|refine Wd ?_|refine Ss.h ?_|refine Sc.h (LG _) ?_|(refine Sb.h ?_ ?_ ?_<;>(try intro hgd)<;>try exact Xy))<;>simp -implicitDefEqProofs (maxSteps:=2000000) [hP,hN,g2,g3',g4,g5,g6,g7,g8,g10,g13,g16,hb2,hb3,hb4,hb5,hb8,cC,bA,<-e,pA]<;>try refine Ya ?_)|refine X2 ?_ ?_|(refine Xd ?_ ?_<;>intro hcd<;>try exact Xx))
  .skip
   refine GT (gA g2 (gA g3' (gA g4 (gA g5 (gA g6 (gA g10 (gA g13 (gA hb2 (gA hb3 (gA hb4 (gA hb5 hb8))))))))))) ?_;refine WP.loopN [] 3 (λj st=>st.t 2=.ptr 2 0∧st.t 3=.ptr 3 0∧st.t 4=.ptr 4 0∧st.t 5=.ptr 5 0∧st.h 2=some (.box [.pv (Z a0),.pv (Z a1),.pv (Z a2),.pv (Z a3),.pv (Z a4),.pv (Z a5),.pv (Z a6),.pv (Z a7),.pv (Z a8),.pv (Z a9),.pv (Z a10),.pv (Z a11),.pv (Z a12),.pv (Z a13),.pv (Z a14),.pv (Z a15),.pv (Z a16),.pv (Z a17)] true false)∧st.h 3=some (.box [.pv (Z b0),.pv (Z b1),.pv (Z b2),.pv (Z b3),.pv (Z b4),.pv (Z b5),.pv (Z b6),.pv (Z b7),.pv (Z b8),.pv (Z b9),.pv (Z b10),.pv (Z b11),.pv (Z b12),.pv (Z b13),.pv (Z b14),.pv (Z b15),.pv (Z b16),.pv (Z b17)] true false)∧st.h 4=some (.box (cC A B 0 0) true false)∧st.t 10=.pv (Z 2)∧st.t 6=.pv (Z 2)∧st.t 13=.pv (Z 2)∧st.t 7=.pv (Z 2)∧st.t 16=.pv (Z j)∧st.h 5=some (.box (cC A B 2 2) true false)∧st.t 8=.ptr 8 0∧st.h 8=some (.box [.pv (Z (az (g3 A 2) (aA B 2) j).1),.pv (Z (az (g3 A 2) (aA B 2) j).2)] true false)) (by simp[cC,bA,az,g2,g3',g4,g5,g6,g10,g13,hb2,hb3,hb4,hb5]) ?_;clear g2 g3' g4 g5 g6 g10 g13 hb2 hb3 hb4 hb5 hb8;rintro j st hj ⟨g2,g3',g4,g5,hb2,hb3,hb4,g10,g6,g13,g7,g16,hb5,g8,hb8⟩;rcases cM hj with rfl|rfl|rfl|rfl
   all_goals (simp[cC,bA]at g16 hb4 hb5)
   .have e:=d1 (g3 A 2) (aA B 2) 0
    rw[ea20,eb02]at e;generalize az (g3 A 2) (aA B 2) (0+1)=nx at *;generalize az (g3 A 2) (aA B 2) 0=cu at *;have q1:=@LF;have q2:=@Je;exact GS (gA g2 (gA g3' (gA g4 (gA g5 (gA g6 (gA g7 (gA g8 (gA g10 (gA g13 (gA g16 (gA hb2 (gA hb3 (gA hb4 (gA hb5 (gA hb8 (gA @cC.eq_1 (gA @bA.eq_1 e)))))))))))))))))
   .have e:=d1 (g3 A 2) (aA B 2) 1
    rw[ea21,eb12]at e;generalize az (g3 A 2) (aA B 2) (1+1)=nx at *;generalize az (g3 A 2) (aA B 2) 1=cu at *;have q1:=@LF;have q2:=@Je;exact GS (gA g2 (gA g3' (gA g4 (gA g5 (gA g6 (gA g7 (gA g8 (gA g10 (gA g13 (gA g16 (gA hb2 (gA hb3 (gA hb4 (gA hb5 (gA hb8 (gA @cC.eq_1 (gA @bA.eq_1 e)))))))))))))))))
   .have e:=d1 (g3 A 2) (aA B 2) 2
    rw[ea22,eb22]at e;generalize az (g3 A 2) (aA B 2) (2+1)=nx at *;generalize az (g3 A 2) (aA B 2) 2=cu at *;have q1:=@LF;have q2:=@Je;exact GS (gA g2 (gA g3' (gA g4 (gA g5 (gA g6 (gA g7 (gA g8 (gA g10 (gA g13 (gA g16 (gA hb2 (gA hb3 (gA hb4 (gA hb5 (gA hb8 (gA @cC.eq_1 (gA @bA.eq_1 e)))))))))))))))))
   .have e:=hx 2 2
    generalize az (g3 A 2) (aA B 2) 3=cu at *
    with_reducible repeat' (first|refine Sp.h ?_|((first|refine Wd ?_|refine Ss.h ?_|refine Sc.h (LG _) ?_|(refine Sb.h ?_ ?_ ?_<;>(try intro hgd)<;>try exact Xy))<;>simp -implicitDefEqProofs (maxSteps:=2000000) [hP,hN,g2,g3',g4,g5,g6,g7,g8,g10,g13,g16,hb2,hb3,hb4,hb5,hb8,cC,bA,<-e,pA]<;>try refine Ya ?_)|refine X2 ?_ ?_|(refine Xd ?_ ?_<;>intro hcd<;>try exact Xx))
  .skip
   exact GS (gA g2 (gA g3' (gA g4 (gA g5 (gA g6 (gA g10 (gA g13 (gA hb2 (gA hb3 (gA hb4 (gA hb5 (gA hb8 (gA @cC.eq_1 @bA.eq_1)))))))))))))
 .skip
  exact GS (gA g2 (gA g3' (gA g4 (gA g5 (gA g10 (gA hb2 (gA hb3 (gA hb4 (gA hb5 (gA hb8 @DL.eq_1))))))))))
end Go.Ab
