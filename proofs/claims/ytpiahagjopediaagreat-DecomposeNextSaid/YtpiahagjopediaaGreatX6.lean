/- The contracts and facts that the laws of this seat need, in one text (CfB, Tr4, TrE, TrF, Tr8, Tr9, Tr10, Cf16w, Cf18w, TrG, TcS, Ab26, Ab29, Ab35, Ab36). -/
import Derived.Test.YtpiahagjopediaaGreatX5
import Derived.Laws.RangeString
import Derived.Laws.RangeAny
import Derived.LoopTactic
set_option linter.all false
set_option maxHeartbeats 16000000
namespace Go.Ab
open Go.Proofs
variable {C:Cx}{G G':List (Nat×Blk)}{M M':Nat->Nat->Prop}{P:Program}{Post:AV->Hp->Prop}{Q:Exit->St->Prop}{a:Int}{aft:Array Edge}{args:List AV}{ats:Array TypeId}{b b' blk:Blk}{c:Code}{d i id k k' q:Nat}{dst:Option Nat}{f:Operand}{g:Option (Nat×Bool)}{h h0:Hp}{hn ks:List Nat}{js:List J}{l:Loc}{n s:ByteArray}{o:Oper}{ops:Array Oper}{pos:String}{post pre:List Oper}{res:PV}{rs:List ResultVar}{st:St}{t:Tr}{ty:TypeId}{u:Value}{x:AV}{α:Type}{ρ:Operand->AV}{p:α->Bool}{xs:List α}
def lW(b:Nat):Bool:=decide (97<=b)&&decide (b<=122)
def lX(b:Nat):Bool:=decide (48<=b)&&decide (b<=57)
def gy(k b:Nat):Bool:=lW b||(decide (k≠0)&&(lX b||decide (b=95)))
def eR(s:ByteArray):Bool:=(List.range s.size).all λi=>gy i (s[i]!).toNat
def iA(s:ByteArray):Bool:=decide (1<=s.size)&&decide (s.size<=16)&& !(s.toList==[119,111,114,108,100])&&eR s
theorem jb(h:i<s.size)(hb:gy i (s[i]'h).toNat=false):eR s=false:=by
 rw[eR,List.all_eq_false];exact⟨i,by simpa using h,by rw[getElem!_pos s i h,hb];simp⟩
theorem uS(h:∀i(hi:i<s.size),gy i (s[i]'hi).toNat=true):eR s=true:=by
 rw[eR,List.all_eq_true];intro i hi
 have hi':i<s.size:=by simpa using hi
 rw[getElem!_pos s i hi'];exact h i hi'
theorem uy{pos c:Nat}{hp:pos<s.size}(hc:(s[pos]'hp).toNat=c)(hc':gy pos c=true)(hok:∀i(hi:i<s.size),i<pos->gy i (s[i]'hi).toNat=true):∀i(hi:i<s.size),i<pos+1->gy i (s[i]'hi).toNat=true:=by
 intro i hi h;by_cases e:i=pos
 .subst e;rw[hc];exact hc'
 .exact hok i hi (by omega)
set_option maxRecDepth 1000000 in
theorem Fu(s:ByteArray)(w:World)(h1:¬s.size=0)(h2:¬s.size>16)(h3:(s.toList==[119,111,114,108,100])=false):
 Calls Tryz.prog 150 #[.string s] w λe w'=>e=.returned (.bool (eR s))∧(w'=w∨∃pos,w'=w.iter s pos):=by
 have q1:((s.size:Int)==0)=false:=by simp;intro h;exact h1 (by simp[h])
 have q2:¬((16:Int)<(s.size:Int)):=by omega
 go_enter Tryz.func150,Tryz.ntmps150
 go_wp2
 go_loopw [19] (λ_ w'=>∃pos,w'=w.iter s pos∧∀i(hi:i<s.size),i<pos->gy i (s[i]'hi).toNat=true) (λ_ w'=>s.size-w'.iterPos w.heap.size)
 case atStart=>exact⟨0,rfl,λi hi h=>by omega⟩
 case round=>
  obtain⟨pos,rfl,hok⟩:=hrel;by_cases hp:pos<s.size
  .by_cases ha:(s[pos]'hp).toNat<128
   .have hnx:∀ty,(Instr.next (.pointer (some ⟨w.heap.size,0,none⟩)) true ty).run Tryz.prog (w.iter s pos)=_:=λty=>run_next_ascii w s pos ty hp ha
    generalize hc:(s[pos]'hp).toNat=c at hnx ha
    have key:(97<=c∧c<=122)∨(¬97<=c∧pos=0)∨(97<=c∧¬c<=122∧pos=0)∨(¬97<=c∧¬pos=0∧48<=c∧c<=57)∨(¬97<=c∧¬pos=0∧¬48<=c)∨(¬97<=c∧¬pos=0∧¬c<=57∧c=95)∨(¬97<=c∧¬pos=0∧¬c<=57∧¬c=95)∨(97<=c∧¬c<=122∧¬pos=0):=by omega
    rcases key with⟨k1,k2⟩|⟨k1,k2⟩|⟨k1,k2,k3⟩|⟨k1,k2,k3,k4⟩|⟨k1,k2,k3⟩|⟨k1,k2,k3,k4⟩|⟨k1,k2,k3,k4⟩|⟨k1,k2,k3⟩
    .have m1:(97:Int)<=(c:Int):=by omega
     have m2:(c:Int)<=122:=by omega
     go_wp2
     go_roundw
     case rel=>exact⟨pos+1,rfl,uy hc (by simp[gy,lW,lX];omega) hok⟩
     case measure=>simp;omega
    .have m1:¬(97:Int)<=(c:Int):=by omega
     subst k2;have hb:eR s=false:=jb hp (by rw[hc];simp[gy,lW,lX];omega)
     go_wp2
     go_ret
     exact⟨by first|rfl|(rw[hb];rfl),.inr ⟨_,rfl⟩⟩
    .have m1:(97:Int)<=(c:Int):=by omega
     have m2:¬(c:Int)<=122:=by omega
     subst k3;have hb:eR s=false:=jb hp (by rw[hc];simp[gy,lW,lX];omega)
     go_wp2
     go_ret
     exact⟨by first|rfl|(rw[hb];rfl),.inr ⟨_,rfl⟩⟩
    .have m1:¬(97:Int)<=(c:Int):=by omega
     have m2:((pos:Int)==0)=false:=by simp;omega
     have m3:(48:Int)<=(c:Int):=by omega
     have m4:(c:Int)<=57:=by omega
     go_wp2
     go_roundw
     case rel=>exact⟨pos+1,rfl,uy hc (by simp[gy,lW,lX];omega) hok⟩
     case measure=>simp;omega
    .have m1:¬(97:Int)<=(c:Int):=by omega
     have m2:((pos:Int)==0)=false:=by simp;omega
     have m3:¬(48:Int)<=(c:Int):=by omega
     have m4:((c:Int)!=95)=true:=by simp;omega
     have hb:eR s=false:=jb hp (by rw[hc];simp[gy,lW,lX];omega)
     go_wp2
     go_ret
     exact⟨by first|rfl|(rw[hb];rfl),.inr ⟨_,rfl⟩⟩
    .have m1:¬(97:Int)<=(c:Int):=by omega
     have m2:((pos:Int)==0)=false:=by simp;omega
     have m3:(48:Int)<=(c:Int):=by omega
     have m5:¬(c:Int)<=57:=by omega
     have m4:((c:Int)!=95)=false:=by simp;omega
     go_wp2
     go_roundw
     case rel=>exact⟨pos+1,rfl,uy hc (by simp[gy,lW,lX];omega) hok⟩
     case measure=>simp;omega
    .have m1:¬(97:Int)<=(c:Int):=by omega
     have m2:((pos:Int)==0)=false:=by simp;omega
     have m3:(48:Int)<=(c:Int):=by omega
     have m5:¬(c:Int)<=57:=by omega
     have m4:((c:Int)!=95)=true:=by simp;omega
     have hb:eR s=false:=jb hp (by rw[hc];simp[gy,lW,lX];omega)
     go_wp2
     go_ret
     exact⟨by first|rfl|(rw[hb];rfl),.inr ⟨_,rfl⟩⟩
    .have m1:(97:Int)<=(c:Int):=by omega
     have m6:¬(c:Int)<=122:=by omega
     have m2:((pos:Int)==0)=false:=by simp;omega
     have m3:(48:Int)<=(c:Int):=by omega
     have m5:¬(c:Int)<=57:=by omega
     have m4:((c:Int)!=95)=true:=by simp;omega
     have hb:eR s=false:=jb hp (by rw[hc];simp[gy,lW,lX];omega)
     go_wp2
     go_ret
     exact⟨by first|rfl|(rw[hb];rfl),.inr ⟨_,rfl⟩⟩
   .have hnx:∀ty,(Instr.next (.pointer (some ⟨w.heap.size,0,none⟩)) true ty).run Tryz.prog (w.iter s pos)=_:=λty=>run_next_any w s pos ty hp
    have hh:=(decode_high s pos hp (by omega)).1;generalize(Utf8.decode s pos).1=c at hnx hh;generalize(Utf8.decode s pos).2=wd at hnx;have hb:eR s=false:=jb hp (by simp[gy,lW,lX];omega)
    have m1:(97:Int)<=(c:Int):=by omega
    have m6:¬(c:Int)<=122:=by omega
    have m3:(48:Int)<=(c:Int):=by omega
    have m5:¬(c:Int)<=57:=by omega
    have m4:((c:Int)!=95)=true:=by simp;omega
    by_cases k0:pos=0
    .subst k0
     go_wp2
     go_ret
     exact⟨by first|rfl|(rw[hb];rfl),.inr ⟨_,rfl⟩⟩
    .have m2:((pos:Int)==0)=false:=by simp;omega
     go_wp2
     go_ret
     exact⟨by first|rfl|(rw[hb];rfl),.inr ⟨_,rfl⟩⟩
  .have hnx:∀ty,(Instr.next (.pointer (some ⟨w.heap.size,0,none⟩)) true ty).run Tryz.prog (w.iter s pos)=_:=λty=>run_next_end w s pos ty hp
   go_wp2
   go_ret
   exact⟨by rw[uS (λi hi=>hok i hi (by omega))];rfl,.inr ⟨_,rfl⟩⟩
set_option maxRecDepth 1000000 in
theorem Et(s:ByteArray)(w:World)(h:s.size=0∨s.size>16∨(s.toList==[119,111,114,108,100])=true):
 Calls Tryz.prog 150 #[.string s] w λe w'=>e=.returned (.bool false)∧w'=w:=by
 by_cases h1:s.size=0
 .have q1:((s.size:Int)==0)=true:=by simp[h1]
  go_enter Tryz.func150,Tryz.ntmps150
  go_wp2
  go_ret
  exact⟨rfl,rfl⟩
 .have q1:((s.size:Int)==0)=false:=by simp;intro h;exact h1 (by simp[h])
  by_cases h2:s.size>16
  .have q2:((16:Int)<(s.size:Int)):=by omega
   go_enter Tryz.func150,Tryz.ntmps150
   go_wp2
   go_ret
   exact⟨rfl,rfl⟩
  .have q2:¬((16:Int)<(s.size:Int)):=by omega
   have h3:(s.toList==[119,111,114,108,100])=true:=by rcases h with h|h|h<;>first|exact absurd h h1|exact absurd h h2|exact h
   go_enter Tryz.func150,Tryz.ntmps150
   go_wp2
   go_ret
   exact⟨rfl,rfl⟩
theorem vB(s:ByteArray):aa Tryz.prog 150 [.pv (.val (.string s))] [] [] (.pv (B (iA s))):=by
 refine⟨by kernel_rfl,rfl,λw M bs vs hM hbs hnd hbox hlen harg=>?_⟩
 match vs,hlen with
 |[v],_=>
  have hv:Rep w M (.val (.string s)) v:=harg 0 _ _ rfl rfl;cases hv;have ext0:Ext (·∈bs) w w:=Ext.refl _ _;have exti:∀pos,Ext (·∈bs) w (w.iter s pos):=λpos=>Ext.alloc _ _ _
  have hb0:bs=[]:=by cases bs with
   |nil=>rfl
   |cons b r=>simp at hbs
  subst hb0;by_cases h:s.size=0∨s.size>16∨(s.toList==[119,111,114,108,100])=true
  .have hf:iA s=false:=by
    unfold iA;rcases h with h|h|h
    .simp[h]
    .simp;omega
    .simp[h]
   refine(Et s w h).mono ?_;rintro e w' ⟨rfl,rfl⟩;exact⟨_,rfl,ext0,λi b ps h=>by simp at h,by rw[hf];exact .val _⟩
  .have h1:¬s.size=0:=λe=>h (.inl e)
   have h2:¬s.size>16:=λe=>h (.inr (.inl e))
   have h3:(s.toList==[119,111,114,108,100])=false:=by
    cases hq:s.toList==[119,111,114,108,100]with
    |false=>rfl
    |true=>exact absurd (.inr (.inr hq)) h
   have hf:iA s=eR s:=by
    unfold iA;rw[h3]
    have a1:decide (1<=s.size)=true:=by simp;omega
    have a2:decide (s.size<=16)=true:=by simp;omega
    rw[a1,a2];simp
   refine(Fu s w h1 h2 h3).mono ?_;rintro e w' ⟨rfl,hw⟩;rcases hw with rfl|⟨pos,rfl⟩
   .exact⟨_,rfl,ext0,λi b ps h=>by simp at h,by rw[hf];exact .val _⟩
   .exact⟨_,rfl,exti pos,λi b ps h=>by simp at h,by rw[hf];exact .val _⟩
theorem Dn{N B:Int}(hN:0<N)(h1:-B<=a)(h2:a<=B):-B<=a/N∧a/N<=B:=by
 have hB:0<=B:=by omega
 constructor
 .have:(-B)*N<=a:=by
   have:(-B)*N<=(-B)*1:=Int.mul_le_mul_of_nonpos_left (by omega) (by omega);omega
  exact(Int.le_ediv_iff_mul_le hN).2 this
 .have:a/N<B+1:=(Int.ediv_lt_iff_lt_mul hN).2 (by
   have:(B+1)*1<=(B+1)*N:=Int.mul_le_mul_of_nonneg_left (by omega) (by omega)
   omega)
  omega
def GO(x:Int):Prop:=-2147483648<=x∧x<=2147483648
def Fw(x:AV)(fb:Option dm):Option dm:=match x with
 |.pv (.val (.string s))=>some (.pv (Z s.size),[])
 |_=>fb
@[simp] theorem Ku(s:ByteArray)(fb:Option dm):Fw (.pv (.val (.string s))) fb=some (.pv (Z s.size),[]):=rfl
theorem Hq(x:Operand)(s:ByteArray):
 bz Tryz.prog ⟨dst,.call ⟨.builtin .len,#[x],#[9]⟩,ty,pos,aft,g⟩ (λ_=>.pv (.val (.string s)))=some (.pv (Z s.size),[]):=by kernel_rfl
@[simp] theorem NO(x:Operand):
 bz Tryz.prog ⟨dst,.call ⟨.builtin .len,#[x],#[9]⟩,ty,pos,aft,g⟩ ρ=Fw (ρ x) (mF Tryz.prog ⟨dst,.call ⟨.builtin .len,#[x],#[9]⟩,ty,pos,aft,g⟩ ρ):=by
 unfold Fw;split
 .rename_i s hs
  rw[<-Hq (dst:=dst) (ty:=ty) (pos:=pos) (aft:=aft) (g:=g) x s];refine oZ (by intro _ _ h;cases h) ?_;intro y hy;simp[Op.operands,Call.operands]at hy;subst hy;exact hs
 .rfl
theorem xe:(ByteArray.mk #[119,111,114,108,100]).toList=[119,111,114,108,100]:=by decide +kernel
theorem Fx(h:i<s.size):s[i]?=some (s[i]'h):=by simp[h]
theorem Iu(s:ByteArray):aa Tryz.prog 148 [.pv (.val (.string s))] [] [] (.pv (B (iA s))):=by
 by_cases h1:s.size<1
 .have hf:iA s=false:=by unfold iA;simp;omega
  have h1':(s.size:Int)<1:=by omega
  rw[hf];refine Dp Tryz.func148 ?_;intro C hP hN;simp only[Tryz.f148]at hN|-;exact Gy
 have h1':¬(s.size:Int)<1:=by omega
 by_cases h2:16<s.size
 .have hf:iA s=false:=by unfold iA;simp;omega
  have h2':(16:Int)<s.size:=by omega
  rw[hf];refine Dp Tryz.func148 ?_;intro C hP hN;simp only[Tryz.f148]at hN|-;exact Gy
 have h2':¬(16:Int)<s.size:=by omega
 cases h3:s.toList==[119,111,114,108,100]with
 |true=>
  have hf:iA s=false:=by unfold iA;simp[h3]
  have h3':(s.toList==(ByteArray.mk #[119,111,114,108,100]).toList)=true:=by rw[xe];exact h3
  rw[hf];refine Dp Tryz.func148 ?_;intro C hP hN;simp only[Tryz.f148]at hN|-;exact Gy
 |false=>
  have hf:iA s=eR s:=by
   unfold iA;rw[h3]
   have a1:decide (1<=s.size)=true:=by simp;omega
   have a2:decide (s.size<=16)=true:=by simp;omega
   rw[a1,a2];simp
  have h3':(s.toList==(ByteArray.mk #[119,111,114,108,100]).toList)=false:=by rw[xe];exact h3
  rw[hf];refine Dp Tryz.func148 ?_;intro C hP hN;simp only[Tryz.f148]at hN|-;refine Gz ?_;refine WP.loopN [] s.size (λi st=>st.t 0=.pv (.val (.string s))∧st.t 3=.pv (Z i)∧∀k(hk:k<s.size),k<i->gy k (s[k]'hk).toNat=true) (by simp) ?_;rintro i st hi ⟨g0,g3,hok⟩;by_cases hlt:i<s.size
  .have hw:IntKind.i64.wrap ((i:Int)+1)=(i:Int)+1:=by rw[IntKind.wrap_i64];omega
   have hlt':(i:Int)<s.size:=by omega
   have hb:=Fx hlt;have hno:gy i (s[i]'hlt).toNat=false->eR s=false:=jb hlt;have hyes:gy i (s[i]'hlt).toNat=true->∀k(hk:k<s.size),k<i+1->gy k (s[k]'hk).toNat=true:=λh=>uy rfl h hok;generalize s[i]'hlt=b at hno hyes hb
   with_reducible repeat' (first|refine Sp.h ?_|((first|refine Ss.h ?_|(refine Sb.h ?_ ?_ ?_<;>(try intro hgd)<;>try exact Xy))<;>simp -implicitDefEqProofs (maxSteps:=2000000) [hP,hN,g0,g3,hlt',hb,hw])|refine X2 ?_ ?_|(refine Xd ?_ ?_<;>intro hcd<;>try exact Xx))
   all_goals clear hw hP hN g0 g3 hb hok h3 h3' hf h1 h1' h2 h2'
   all_goals first|(refine hno ?_;clear hno hyes;simp[gy,lW,lX]at *;done)|(refine hno ?_;clear hno hyes;simp[gy,lW,lX]at *;omega)|(refine⟨hlt,hyes ?_⟩;clear hno hyes;simp[gy,lW,lX]at *;done)|(refine⟨hlt,hyes ?_⟩;clear hno hyes;simp[gy,lW,lX]at *;omega)
  .have hlt':¬(i:Int)<s.size:=by omega
   refine Gz ?_;exact uS (λk hk=>hok k hk (by omega))
def fe(x m:Int):Bool:=decide (-m<=x)&&decide (x<=m)
def jD(x y z m:Int):Bool:=fe x m&&fe y m&&fe z m
abbrev mJ(x y z:Int):PV:=.val (.agg #[.int .i64 x,.int .i64 y,.int .i64 z])
theorem y9:IntKind.i64.wrap 1=1:=by decide
theorem za:IntKind.i64.wrap 2=2:=by decide
theorem zb:IntKind.i64.wrap 3=3:=by decide
theorem Iw(h:i<=3):i=0∨i=1∨i=2∨i=3:=by omega
theorem Dq(x y z:Int):aa Tryz.prog 152 [.pv (mJ x y z)] [] [] (.pv (B (!jD x y z 4194304))):=by
 refine Dp Tryz.func152 ?_;intro C hP hN;simp only[Tryz.f152]at hN|-;refine Gz ?_;refine WP.loopN [] 3 (λi st=>st.t 5=.pv (mJ x y z)∧st.t 6=.pv (Z i)∧(0<i->fe x 4194304=true)∧(1<i->fe y 4194304=true)∧(2<i->fe z 4194304=true)) (by simp) ?_;rintro i st hi ⟨h5,h6,q0,q1,q2⟩;rcases Iw hi with rfl|rfl|rfl|rfl
 .skip
  with_reducible repeat' (first|refine Sp.h ?_|((first|refine Ss.h ?_|(refine Sb.h ?_ ?_ ?_<;>(try intro hgd)<;>try exact Xy))<;>simp -implicitDefEqProofs (maxSteps:=2000000) [hP,hN,h5,h6])|refine X2 ?_ ?_|(refine Xd ?_ ?_<;>intro hcd<;>try exact Xx))
  all_goals (simp[jD,fe,y9,za,zb]at *;first|omega|grind)
 .skip
  with_reducible repeat' (first|refine Sp.h ?_|((first|refine Ss.h ?_|(refine Sb.h ?_ ?_ ?_<;>(try intro hgd)<;>try exact Xy))<;>simp -implicitDefEqProofs (maxSteps:=2000000) [hP,hN,h5,h6])|refine X2 ?_ ?_|(refine Xd ?_ ?_<;>intro hcd<;>try exact Xx))
  all_goals (simp[jD,fe,y9,za,zb]at *;first|omega|grind)
 .skip
  with_reducible repeat' (first|refine Sp.h ?_|((first|refine Ss.h ?_|(refine Sb.h ?_ ?_ ?_<;>(try intro hgd)<;>try exact Xy))<;>simp -implicitDefEqProofs (maxSteps:=2000000) [hP,hN,h5,h6])|refine X2 ?_ ?_|(refine Xd ?_ ?_<;>intro hcd<;>try exact Xx))
  all_goals (simp[jD,fe,y9,za,zb]at *;first|omega|grind)
 .skip
  refine Gz ?_
  all_goals (simp[jD,fe,y9,za,zb]at *;first|omega|grind)
theorem AO(x y z m:Int)(hm:0<=m)(hm':m<4611686018427387904):aa Tryz.prog 110 [.pv (mJ x y z),.pv (Z m)] [] [] (.pv (B (jD x y z m))):=by
 have hw:IntKind.i64.wrap (0-m)=-m:=(ab (n:=0-m) (by omega) (by omega)).trans (by omega);have hw2:IntKind.i64.wrap (-m)=-m:=ab;refine Dp Tryz.func110 ?_;intro C hP hN;simp only[Tryz.f110]at hN|-;refine Gz ?_;refine WP.loopN [] 3 (λi st=>st.t 1=.pv (Z m)∧st.t 2=.ptr 2 0∧st.h 2=some (.box [.pv (Z x),.pv (Z y),.pv (Z z)] true false)∧st.t 5=.pv (Z i)∧(0<i->fe x m=true)∧(1<i->fe y m=true)∧(2<i->fe z m=true)) (by simp) ?_;rintro i st hi ⟨h1,h2,hb,h5,q0,q1,q2⟩;rcases Iw hi with rfl|rfl|rfl|rfl
 .skip
  with_reducible repeat' (first|refine Sp.h ?_|((first|refine Ss.h ?_|(refine Sb.h ?_ ?_ ?_<;>(try intro hgd)<;>try exact Xy))<;>simp -implicitDefEqProofs (maxSteps:=2000000) [hP,hN,h1,h2,hb,h5,hw,hw2])|refine X2 ?_ ?_|(refine Xd ?_ ?_<;>intro hcd<;>try exact Xx))
  all_goals (simp[jD,fe,y9,za,zb]at *;first|omega|grind)
 .skip
  with_reducible repeat' (first|refine Sp.h ?_|((first|refine Ss.h ?_|(refine Sb.h ?_ ?_ ?_<;>(try intro hgd)<;>try exact Xy))<;>simp -implicitDefEqProofs (maxSteps:=2000000) [hP,hN,h1,h2,hb,h5,hw,hw2])|refine X2 ?_ ?_|(refine Xd ?_ ?_<;>intro hcd<;>try exact Xx))
  all_goals (simp[jD,fe,y9,za,zb]at *;first|omega|grind)
 .skip
  with_reducible repeat' (first|refine Sp.h ?_|((first|refine Ss.h ?_|(refine Sb.h ?_ ?_ ?_<;>(try intro hgd)<;>try exact Xy))<;>simp -implicitDefEqProofs (maxSteps:=2000000) [hP,hN,h1,h2,hb,h5,hw,hw2])|refine X2 ?_ ?_|(refine Xd ?_ ?_<;>intro hcd<;>try exact Xx))
  all_goals (simp[jD,fe,y9,za,zb]at *;first|omega|grind)
 .skip
  refine Gz ?_
  all_goals (simp[jD,fe,y9,za,zb]at *;first|omega|grind)
def cJ(x a b:Int):Bool:=decide (a<=x)&&decide (x<=b)
theorem Iy(x m:Int):aa Tryz.prog 154 [.pv (Z x),.pv (Z m)] [] [] (.pv (B (cJ x 1 m))):=by
 refine Dp Tryz.func154 ?_;intro C hP hN;simp only[Tryz.f154]at hN|-
 with_reducible repeat' (first|refine Sp.h ?_|((first|refine Ss.h ?_|(refine Sb.h ?_ ?_ ?_<;>(try intro hgd)<;>try exact Xy))<;>simp -implicitDefEqProofs (maxSteps:=2000000) [hP,hN])|refine X2 ?_ ?_|(refine Xd ?_ ?_<;>intro hcd<;>try exact Xx))
 all_goals (first|(simp_all[cJ];done)|((try simp_all[cJ])<;>(try omega)<;>grind))
theorem Fy(x a b:Int):aa Tryz.prog 109 [.pv (Z x),.pv (Z a),.pv (Z b)] [] [] (.pv (B (cJ x a b))):=by
 refine Dp Tryz.func109 ?_;intro C hP hN;simp only[Tryz.f109]at hN|-
 with_reducible repeat' (first|refine Sp.h ?_|((first|refine Ss.h ?_|(refine Sb.h ?_ ?_ ?_<;>(try intro hgd)<;>try exact Xy))<;>simp -implicitDefEqProofs (maxSteps:=2000000) [hP,hN])|refine X2 ?_ ?_|(refine Xd ?_ ?_<;>intro hcd<;>try exact Xx))
 all_goals (first|(simp_all[cJ];done)|((try simp_all[cJ])<;>(try omega)<;>grind))
def xf(k:Int):Int:=if k=1∨k=2∨k=3 then 524288 else if k=4∨k=5∨k=6 then 4194304 else 0
def dC(k:Int):Int:=if k=0 then 0 else if k=1∨k=2∨k=3 then 524288 else 4194304
theorem Li(k:Int):aa Tryz.prog 153 [.pv (Z k)] [] [] (.pv (Z (xf k))):=by
 refine Dp Tryz.func153 ?_;intro C hP hN;simp only[Tryz.f153]at hN|-
 with_reducible repeat' (first|refine Sp.h ?_|((first|refine Ss.h ?_|(refine Sb.h ?_ ?_ ?_<;>(try intro hgd)<;>try exact Xy))<;>simp -implicitDefEqProofs (maxSteps:=2000000) [hP,hN])|refine X2 ?_ ?_|(refine Xd ?_ ?_<;>intro hcd<;>try exact Xx))
 all_goals (simp[xf]at *;first|omega|grind)
theorem Iz(k:Int):aa Tryz.prog 149 [.pv (Z k)] [] [] (.pv (Z (dC k))):=by
 refine Dp Tryz.func149 ?_;intro C hP hN;simp only[Tryz.f149]at hN|-
 with_reducible repeat' (first|refine Sp.h ?_|((first|refine Ss.h ?_|(refine Sb.h ?_ ?_ ?_<;>(try intro hgd)<;>try exact Xy))<;>simp -implicitDefEqProofs (maxSteps:=2000000) [hP,hN])|refine X2 ?_ ?_|(refine Xd ?_ ?_<;>intro hcd<;>try exact Xx))
 all_goals (simp[dC]at *;first|omega|grind)
theorem BZ{k:Int}(h0:0<=k)(h6:k<=6):xf k=dC k:=by
 have:k=0∨k=1∨k=2∨k=3∨k=4∨k=5∨k=6:=by omega
 rcases this with rfl|rfl|rfl|rfl|rfl|rfl|rfl<;>rfl
def kn(a b:ByteArray):Bool:=a.toList==b.toList
theorem Lj(js:List J)(ms:List Ms)(name:ByteArray)(hl:js.length<=9223372036854775807):aa Tryz.prog 151 [.pv (ja js ms),.pv (.val (.string name))] [] [] (.pv (Z (mG (λj=>kn j.name name) js))):=by
 refine Dp Tryz.func151 ?_;intro C hP hN;simp only[Tryz.f151]at hN|-;refine Gz ?_;refine WP.loopN [] js.length (λi st=>st.t 1=.pv (.val (.string name))∧st.t 2=.ptr 2 0∧st.h 2=some (.box [.pv (.sl (js.map cW)),.pv (.sl (ms.map fc))] true false)∧st.t 8=.pv (Z js.length)∧st.t 9=.pv (Z i)∧∀j x,j<i->js[j]?=some x->kn x.name name=false) (by simp) ?_;rintro i st hi ⟨h1,h2,hb,h8,h9,hq⟩;by_cases hlt:i<js.length
 .have hw:=au hlt hl
  with_reducible repeat' (first|refine Sp.h ?_|((first|refine Ss.h ?_|(refine Sb.h ?_ ?_ ?_<;>(try intro hgd)<;>try exact Xy))<;>simp -implicitDefEqProofs (maxSteps:=2000000) [hP,hN,h1,h2,hb,h8,h9,hlt,hw])|refine X2 ?_ ?_|(refine Xd ?_ ?_<;>intro hcd<;>try exact Xx))
  .exact(od hlt hq hcd).symm
  .simpa using nq hlt hq hcd
 .skip
  refine Gz ?_;exact(tu (na hlt hq)).symm
def qA(js:List J)(i:Nat)(name:ByteArray):Bool:=(js.take i).any λj=>kn j.name name
theorem Fz(h:i<js.length):(mG (λj=>kn j.name js[i].name) js !=(i:Int))=qA js i js[i].name:=by
 have hs:kn js[i].name js[i].name=true:=by simp[kn]
 cases hd:qA js i js[i].name with
 |false=>
  have:mG (λj=>kn j.name js[i].name) js=i:=od h (λj x hj hx=>by
   rw[qA,List.any_eq_false]at hd;have hm:x∈js.take i:=List.mem_of_getElem? (by rw[List.getElem?_take,if_pos hj];exact hx)
   simpa using hd x hm) hs
  rw[this];simp
 |true=>
  rw[qA,List.any_eq_true]at hd;obtain⟨x,hx,hp⟩:=hd;obtain⟨k,hk⟩:=List.getElem?_of_mem hx;rw[List.getElem?_take]at hk;split at hk
  .rename_i hki
   simp only[bne_iff_ne,ne_eq];intro he;unfold mG at he
   cases hf:js.findIdx? (λj=>kn j.name js[i].name)with
   |none=>
    rw[hf]at he;simp at he
   |some m=>
    rw[hf]at he;have he':(m:Int)=(i:Int):=he
    have he:m=i:=by omega
    clear he';subst he;rw[List.findIdx?_eq_some_iff_getElem]at hf;obtain⟨hl,_,hno⟩:=hf;have hkl:=(List.getElem?_eq_some_iff.1 hk);have:=hno k hki;rw[hkl.2]at this;exact this hp
  .cases hk
def dv(js:List J)(i:Nat)(j:J):Int:=
 if(!iA j.name||qA js i j.name)=true then 802 else if j.kind<0∨6<j.kind then 803 else if j.parent< -1∨(i:Int)<=j.parent then 804 else if jD j.ox j.oy j.oz 4194304=false then 805
 else if j.hi<j.lo∨j.lo< -dC j.kind∨dC j.kind<j.hi then 806 else if(cJ j.w 1 1024&&cJ j.sp 1 1048576&&cJ j.ac 1 1048576&&cJ j.tq 1 1099511627776)=false then 807 else 0
theorem uT(k:Int):0<=dC k∧dC k<=4194304:=by unfold dC;repeat' split
                                            all_goals omega
theorem IA(js:List J)(ms:List Ms)(i:Nat)(hl:js.length<=9223372036854775807)(hi:i<js.length):aa Tryz.prog 111 [.pv (ja js ms),.pv (Z i)] [] [] (.pv (Z (dv js i js[i]))):=by
 have hx:=List.getElem?_eq_getElem hi;have hfd:=Fz hi;have cf:=Lj js ms js[i].name hl;generalize hxx:js[i]=j at hx hfd cf|-;have hr:=uT j.kind;have hng:IntKind.i64.wrap (0-dC j.kind)=-dC j.kind:=(ab (n:=0-dC j.kind) (by omega) (by omega)).trans (by omega);have hng':IntKind.i64.wrap (-dC j.kind)=-dC j.kind:=ab;generalize mG (λk=>kn k.name j.name) js=q at hfd cf;refine Dp Tryz.func111 ?_;intro C hP hN;simp only[Tryz.f111]at hN|-
 cases hn:iA j.name with
 |false=>
  with_reducible repeat' (first|refine Sp.h ?_|((first|refine Ss.h ?_|refine Sc.h (vB _) ?_|refine Sc.h (cf) ?_|(refine Sb.h ?_ ?_ ?_<;>(try intro hgd)<;>try exact Xy))<;>simp -implicitDefEqProofs (maxSteps:=2000000) [hP,hN,hx,hxx,hn,hi])|refine X2 ?_ ?_|(refine Xd ?_ ?_<;>intro hcd<;>try exact Xx))
  all_goals simp[dv,hn]
 |true=>
  cases hd:qA js i j.name with
  |true=>
   rw[hd]at hfd
   with_reducible repeat' (first|refine Sp.h ?_|((first|refine Ss.h ?_|refine Sc.h (vB _) ?_|refine Sc.h (cf) ?_|(refine Sb.h ?_ ?_ ?_<;>(try intro hgd)<;>try exact Xy))<;>simp -implicitDefEqProofs (maxSteps:=2000000) [hP,hN,hx,hxx,hn,hi,hfd])|refine X2 ?_ ?_|(refine Xd ?_ ?_<;>intro hcd<;>try exact Xx))
   all_goals simp[dv,hn,hd]
  |false=>
   rw[hd]at hfd;by_cases hk:j.kind<0∨6<j.kind
   .skip
    with_reducible repeat' (first|refine Sp.h ?_|((first|refine Ss.h ?_|refine Sc.h (vB _) ?_|refine Sc.h (cf) ?_|(refine Sb.h ?_ ?_ ?_<;>(try intro hgd)<;>try exact Xy))<;>simp -implicitDefEqProofs (maxSteps:=2000000) [hP,hN,hx,hxx,hn,hi,hfd])|refine X2 ?_ ?_|(refine Xd ?_ ?_<;>intro hcd<;>try exact Xx))
    all_goals (first|(simp[dv,hn,hd,hk];done)|(exfalso;simp at *;omega))
   .have hlr:xf j.kind=dC j.kind:=BZ (by omega) (by omega)
    have cl:=Li j.kind;rw[hlr]at cl
    have k1:¬j.kind<0:=by omega
    have k2:¬6<j.kind:=by omega
    by_cases hp:j.parent< -1∨(i:Int)<=j.parent
    .skip
     with_reducible repeat' (first|refine Sp.h ?_|((first|refine Ss.h ?_|refine Sc.h (vB _) ?_|refine Sc.h (cf) ?_|(refine Sb.h ?_ ?_ ?_<;>(try intro hgd)<;>try exact Xy))<;>simp -implicitDefEqProofs (maxSteps:=2000000) [hP,hN,hx,hxx,hn,hi,hfd,k1,k2])|refine X2 ?_ ?_|(refine Xd ?_ ?_<;>intro hcd<;>try exact Xx))
     all_goals (first|(simp[dv,hn,hd,hk,hp];done)|(exfalso;simp at *;omega))
    .have p1:¬j.parent< -1:=by omega
     have p2:¬(i:Int)<=j.parent:=by omega
     cases hv:jD j.ox j.oy j.oz 4194304 with
     |false=>
      with_reducible repeat' (first|refine Sp.h ?_|((first|refine Ss.h ?_|refine Sc.h (vB _) ?_|refine Sc.h (cf) ?_|refine Sc.h (Dq _ _ _) ?_|(refine Sb.h ?_ ?_ ?_<;>(try intro hgd)<;>try exact Xy))<;>simp -implicitDefEqProofs (maxSteps:=2000000) [hP,hN,hx,hxx,hn,hi,hfd,k1,k2,p1,p2,hv])|refine X2 ?_ ?_|(refine Xd ?_ ?_<;>intro hcd<;>try exact Xx))
      all_goals (simp[dv,hn,hd,hk,hp,hv])
     |true=>
      by_cases hb:j.hi<j.lo∨j.lo< -dC j.kind∨dC j.kind<j.hi
      .skip
       with_reducible repeat' (first|refine Sp.h ?_|((first|refine Ss.h ?_|refine Sc.h (vB _) ?_|refine Sc.h (cf) ?_|refine Sc.h (Dq _ _ _) ?_|refine Sc.h (cl) ?_|(refine Sb.h ?_ ?_ ?_<;>(try intro hgd)<;>try exact Xy))<;>simp -implicitDefEqProofs (maxSteps:=2000000) [hP,hN,hx,hxx,hn,hi,hfd,k1,k2,p1,p2,hv,hng,hng'])|refine X2 ?_ ?_|(refine Xd ?_ ?_<;>intro hcd<;>try exact Xx))
       all_goals (first|(simp[dv,hn,hd,hk,hp,hv,hb];done)|(exfalso;simp at *;omega))
      .have b1:¬j.hi<j.lo:=by omega
       have b2:¬j.lo< -dC j.kind:=by omega
       have b3:¬dC j.kind<j.hi:=by omega
       with_reducible repeat' (first|refine Sp.h ?_|((first|refine Ss.h ?_|refine Sc.h (vB _) ?_|refine Sc.h (cf) ?_|refine Sc.h (Dq _ _ _) ?_|refine Sc.h (cl) ?_|refine Sc.h (Iy _ _) ?_|(refine Sb.h ?_ ?_ ?_<;>(try intro hgd)<;>try exact Xy))<;>simp -implicitDefEqProofs (maxSteps:=2000000) [hP,hN,hx,hxx,hn,hi,hfd,k1,k2,p1,p2,hv,hng,hng',b1,b2,b3])|refine X2 ?_ ?_|(refine Xd ?_ ?_<;>intro hcd<;>try exact Xx))
       all_goals (rw[dv,if_neg (by simp[hn,hd]),if_neg hk,if_neg hp,if_neg (by simp[hv]),if_neg hb];simp_all)
abbrev Lk(j:J):List AV:=[.pv (.val (.string j.name)),.pv (Z j.kind),.pv (Z j.parent),.pv (Z j.ox),.pv (Z j.oy),.pv (Z j.oz),.pv (Z j.lo),.pv (Z j.hi),.pv (Z j.w),.pv (Z j.sp),.pv (Z j.ac),.pv (Z j.tq)]
theorem Hr(hk:k<i)(hl:k<js.length)(h:kn js[k].name n=true):qA js i n=true:=by
 rw[qA,List.any_eq_true];exact⟨js[k],List.mem_of_getElem? (i:=k) (by rw[List.getElem?_take,if_pos hk];exact List.getElem?_eq_getElem hl),h⟩
theorem IB(h:∀m x,m<i->js[m]?=some x->kn x.name n=false):qA js i n=false:=by
 rw[qA,List.any_eq_false];intro x hx;obtain⟨m,hm⟩:=List.getElem?_of_mem hx;rw[List.getElem?_take]at hm;split at hm
 .rename_i h';simp[h m x h' hm]
 .cases hm
theorem IC(js:List J)(i:Nat)(hl:js.length<=9223372036854775807)(hi:i<js.length):aa Tryz.prog 108 [.pv (.sl (js.map cW)),.pv (Z i)] [] [] (.pv (Z (dv js i js[i]))):=by
 have hx:=List.getElem?_eq_getElem hi;generalize hxx:js[i]=j at hx|-;have hr:=uT j.kind;have hng:IntKind.i64.wrap (0-dC j.kind)=-dC j.kind:=(ab (n:=0-dC j.kind) (by omega) (by omega)).trans (by omega);have hng':IntKind.i64.wrap (-dC j.kind)=-dC j.kind:=ab;refine Dp Tryz.func108 ?_;intro C hP hN;simp only[Tryz.f108]at hN|-
 cases hn:iA j.name with
 |false=>
  have q1:=@Iu;refine GT (gA hx (gA hxx (gA hn hi))) ?_
  all_goals simp[dv,hn]
 |true=>
  have q1:=@Iu;refine GT (gA hx (gA hxx (gA hn hi))) ?_;refine WP.loopN [] i (λk st=>st.t 0=.pv (.sl (js.map cW))∧st.t 1=.pv (Z i)∧st.t 5=.ptr 5 0∧st.h 5=some (.box (Lk j) true false)∧st.t 6=.pv (Z k)∧∀m x,m<k->js[m]?=some x->kn x.name j.name=false) (by simp) ?_;rintro k st hk ⟨g0,g1,g5,hb5,g6,hq⟩;by_cases hlt:k<i
  .have hlt':k<js.length:=by omega
   have hw:=au hlt' hl
   have hlti:(k:Int)<(i:Int):=by omega
   cases hs:kn js[k].name j.name with
   |true=>
    have hs':(js[k].name.toList==j.name.toList)=true:=hs;have hd:=Hr hlt hlt' hs;refine Gz ?_
    all_goals simp[dv,hn,hd]
   |false=>
    have hs':(js[k].name.toList==j.name.toList)=false:=hs;refine Gz ?_
    all_goals simpa using nq hlt' hq hs
  .have hki:k=i:=by omega
   subst hki;have hd:=IB hq;by_cases hk:j.kind<0∨6<j.kind
   .skip
    with_reducible repeat' (first|refine Sp.h ?_|((first|refine Wd ?_|refine Ss.h ?_|(refine Sb.h ?_ ?_ ?_<;>(try intro hgd)<;>try exact Xy))<;>simp -implicitDefEqProofs (maxSteps:=2000000) [hP,hN,g0,g1,g5,hb5,g6]<;>try refine Ya ?_)|refine X2 ?_ ?_|(refine Xd ?_ ?_<;>intro hcd<;>try exact Xx))
    all_goals (first|(simp[dv,hn,hd,hk];done)|(exfalso;simp at *;omega))
   .have k1:¬j.kind<0:=by omega
    have k2:¬6<j.kind:=by omega
    by_cases hp:j.parent< -1∨(k:Int)<=j.parent
    .skip
     with_reducible repeat' (first|refine Sp.h ?_|((first|refine Wd ?_|refine Ss.h ?_|(refine Sb.h ?_ ?_ ?_<;>(try intro hgd)<;>try exact Xy))<;>simp -implicitDefEqProofs (maxSteps:=2000000) [hP,hN,g0,g1,g5,hb5,g6,k1,k2]<;>try refine Ya ?_)|refine X2 ?_ ?_|(refine Xd ?_ ?_<;>intro hcd<;>try exact Xx))
     all_goals (first|(simp[dv,hn,hd,hk,hp];done)|(exfalso;simp at *;omega))
    .have p1:¬j.parent< -1:=by omega
     have p2:¬(k:Int)<=j.parent:=by omega
     cases hv:jD j.ox j.oy j.oz 4194304 with
     |false=>
      with_reducible repeat' (first|refine Sp.h ?_|((first|refine Wd ?_|refine Ss.h ?_|refine Sc.h (AO _ _ _ _ (by decide) (by decide)) ?_|(refine Sb.h ?_ ?_ ?_<;>(try intro hgd)<;>try exact Xy))<;>simp -implicitDefEqProofs (maxSteps:=2000000) [hP,hN,g0,g1,g5,hb5,g6,k1,k2,p1,p2,hv]<;>try refine Ya ?_)|refine X2 ?_ ?_|(refine Xd ?_ ?_<;>intro hcd<;>try exact Xx))
      all_goals (simp[dv,hn,hd,hk,hp,hv])
     |true=>
      by_cases hb:j.hi<j.lo∨j.lo< -dC j.kind∨dC j.kind<j.hi
      .skip
       with_reducible repeat' (first|refine Sp.h ?_|((first|refine Wd ?_|refine Ss.h ?_|refine Sc.h (AO _ _ _ _ (by decide) (by decide)) ?_|refine Sc.h (Iz _) ?_|(refine Sb.h ?_ ?_ ?_<;>(try intro hgd)<;>try exact Xy))<;>simp -implicitDefEqProofs (maxSteps:=2000000) [hP,hN,g0,g1,g5,hb5,g6,k1,k2,p1,p2,hv,hng,hng']<;>try refine Ya ?_)|refine X2 ?_ ?_|(refine Xd ?_ ?_<;>intro hcd<;>try exact Xx))
       all_goals (first|(simp[dv,hn,hd,hk,hp,hv,hb];done)|(exfalso;simp at *;omega))
      .have b1:¬j.hi<j.lo:=by omega
       have b2:¬j.lo< -dC j.kind:=by omega
       have b3:¬dC j.kind<j.hi:=by omega
       with_reducible repeat' (first|refine Sp.h ?_|((first|refine Wd ?_|refine Ss.h ?_|refine Sc.h (AO _ _ _ _ (by decide) (by decide)) ?_|refine Sc.h (Iz _) ?_|refine Sc.h (Fy _ _ _) ?_|(refine Sb.h ?_ ?_ ?_<;>(try intro hgd)<;>try exact Xy))<;>simp -implicitDefEqProofs (maxSteps:=2000000) [hP,hN,g0,g1,g5,hb5,g6,k1,k2,p1,p2,hv,hng,hng',b1,b2,b3]<;>try refine Ya ?_)|refine X2 ?_ ?_|(refine Xd ?_ ?_<;>intro hcd<;>try exact Xx))
       all_goals (rw[dv,if_neg (by simp[hn,hd]),if_neg hk,if_neg hp,if_neg (by simp[hv]),if_neg hb];simp_all)
def fW(n:Nat)(m:Ms):Bool:=decide (0<=m.link)&&decide (m.link<n)&&cJ m.mass 1 65536&&jD m.px m.py m.pz 4194304
theorem Ll(js:List J)(ms:List Ms)(m:Ms):aa Tryz.prog 114 [.pv (ja js ms),.pv (fc m)] [] [] (.pv (B (fW js.length m))):=by
 refine Dp Tryz.func114 ?_;intro C hP hN;simp only[Tryz.f114]at hN|-
 with_reducible repeat' (first|refine Sp.h ?_|((first|refine Ss.h ?_|refine Sc.h (Iy _ _) ?_|refine Sc.h (Dq _ _ _) ?_|(refine Sb.h ?_ ?_ ?_<;>(try intro hgd)<;>try exact Xy))<;>simp -implicitDefEqProofs (maxSteps:=2000000) [hP,hN])|refine X2 ?_ ?_|(refine Xd ?_ ?_<;>intro hcd<;>try exact Xx))
 all_goals (simp_all[fW]<;>omega)
theorem Lm(js:List J)(ms:List Ms)(m:Ms):aa Tryz.prog 113 [.pv (fc m),.pv (.rptr (ja js ms) 0)] [] [] (.pv (B (!fW js.length m))):=by
 refine Dp Tryz.func113 ?_;intro C hP hN;simp only[Tryz.f113]at hN|-;have q1:=@Ll;exact GS trivial
theorem Ln(f:FuncId)(c:PV)(p:Ms->Bool)(xs:List Ms)(hl:xs.length<=9223372036854775807)(hf:∀x,aa Tryz.prog f [.pv (fc x),.pv (.rptr c 0)] [] [] (.pv (B (p x)))):aa Tryz.prog 155 [.pv (.sl (xs.map fc)),.pv (.fn (.func f) [] [.rptr c 0])] [] [] (.pv (Z (mG p xs))):=by
 refine Dp Tryz.func155 ?_;intro C hP hN;simp only[Tryz.f155]at hN|-;refine Gz ?_;refine WP.loopN [] xs.length (λi st=>st.t 0=.pv (.sl (xs.map fc))∧st.t 1=.pv (.fn (.func f) [] [.rptr c 0])∧st.t 7=.pv (Z xs.length)∧st.t 8=.pv (Z i)∧∀j x,j<i->xs[j]?=some x->p x=false) (by simp) ?_;rintro i st hi ⟨h0,h1,h7,h8,hq⟩;by_cases hlt:i<xs.length
 .have hw:=au hlt hl
  with_reducible repeat' (first|refine Sp.h ?_|((first|refine Ss.h ?_|refine Sc.h (hf _) ?_|(refine Sb.h ?_ ?_ ?_<;>(try intro hgd)<;>try exact Xy))<;>simp -implicitDefEqProofs (maxSteps:=2000000) [hP,hN,h0,h1,h7,h8,hlt,hw])|refine X2 ?_ ?_|(refine Xd ?_ ?_<;>intro hcd<;>try exact Xx))
  .exact(od hlt hq hcd).symm
  .simpa using nq hlt hq hcd
 .skip
  refine Gz ?_;exact(tu (na hlt hq)).symm
theorem Lp(f:FuncId)(c:PV)(p:Ms->Bool)(xs:List Ms)(hl:xs.length<=9223372036854775807)(hf:∀x,aa Tryz.prog f [.pv (fc x),.pv (.rptr c 0)] [] [] (.pv (B (p x)))):aa Tryz.prog 112 [.pv (.sl (xs.map fc)),.pv (.fn (.func f) [] [.rptr c 0])] [] [] (.pv (B (xs.any p))):=by
 refine Dp Tryz.func112 ?_;intro C hP hN;simp only[Tryz.f112]at hN|-
 with_reducible repeat' (first|refine Sp.h ?_|((first|refine Ss.h ?_|refine Sc.h (Ln _ _ _ _ hl hf) ?_|(refine Sb.h ?_ ?_ ?_<;>(try intro hgd)<;>try exact Xy))<;>simp -implicitDefEqProofs (maxSteps:=2000000) [hP,hN])|refine X2 ?_ ?_|(refine Xd ?_ ?_<;>intro hcd<;>try exact Xx))
 all_goals (first|(simp_all[rZ];done)|((try simp_all[rZ])<;>(try omega)<;>grind))
def jg(js:List J):Int:=match(js.mapIdx (dv js)).find? (λe=>e !=0)with
 |some e=>e
 |none=>0
theorem tx(js:List J):jg js=match(js.mapIdx (dv js)).find? (λe=>e !=0)with
 |some e=>e
 |none=>0:=rfl
theorem uU(hlt:i<js.length)(hq:∀k x,k<i->js[k]?=some x->dv js k x=0)(he:dv js i js[i]≠0):jg js=dv js i js[i]:=by
 rw[tx]
 have:(js.mapIdx (dv js)).find? (λe=>e !=0)=some (dv js i js[i]):=by
  rw[List.find?_eq_some_iff_getElem];refine⟨by simpa using he,i,by simpa using hlt,by simp,λk hk=>?_⟩
  have hkl:k<js.length:=by omega
  simp[hq k js[k] hk (List.getElem?_eq_getElem hkl)]
 rw[this]
theorem xg(hq:∀(k:Nat) x,js[k]?=some x->dv js k x=0):jg js=0:=by
 rw[tx]
 have:(js.mapIdx (dv js)).find? (λe=>e !=0)=none:=by
  rw[List.find?_eq_none];intro e he;simp only[List.mem_mapIdx]at he;obtain⟨i,hi,rfl⟩:=he;simp[hq i js[i] (List.getElem?_eq_getElem hi)]
 rw[this]
theorem AP(hlt:i<js.length)(hq:∀k x,k<i->js[k]?=some x->dv js k x=0)(he:dv js i js[i]=0):∀k x,k<i+1->js[k]?=some x->dv js k x=0:=by
 intro k x hk hx;by_cases e:k=i
 .subst e;rw[List.getElem?_eq_getElem hlt]at hx;injection hx with hx;subst hx;exact he
 .exact hq k x (by omega) hx
def bF(js:List J)(ms:List Ms):Int:=if js.length=0∨10<js.length then 801 else if jg js≠0 then jg js else if(decide (32<ms.length)||ms.any λm=>!fW js.length m)=true then 808 else 0
theorem uV(js:List J)(ms:List Ms)(hl:js.length<=9223372036854775807)(hm:ms.length<=9223372036854775807):aa Tryz.prog 58 [.pv (ja js ms)] [] [] (.pv (Z (bF js ms))):=by
 by_cases h0:js.length=0
 .have hc:bF js ms=801:=by simp[bF,h0]
  have h0':js=[]:=List.eq_nil_of_length_eq_zero h0;rw[hc];subst h0';refine Dp Tryz.func58 ?_;intro C hP hN;simp only[Tryz.f58]at hN|-;exact Gy
 have n0:((js.length:Int)==0)=false:=by simp;intro h;exact h0 (by rw[h];rfl)
 by_cases h1:10<js.length
 .have hc:bF js ms=801:=by simp[bF,h1]
  have h1':(10:Int)<js.length:=by omega
  rw[hc];refine Dp Tryz.func58 ?_;intro C hP hN;simp only[Tryz.f58]at hN|-;exact Gy
 have h1':¬(10:Int)<js.length:=by omega
 have hc0:bF js ms=if jg js≠0 then jg js else if(decide (32<ms.length)||ms.any λm=>!fW js.length m)=true then 808 else 0:=by
  unfold bF;rw[if_neg (by omega)]
 rw[hc0];generalize hr:(if(decide (32<ms.length)||ms.any λm=>!fW js.length m)=true then(808:Int)else 0)=r;refine Dp Tryz.func58 ?_;intro C hP hN;simp only[Tryz.f58]at hN|-;refine Gz ?_;refine WP.loopN [] js.length (λi st=>st.t 1=.ptr 1 0∧st.h 1=some (.box [.pv (.sl (js.map cW)),.pv (.sl (ms.map fc))] true false)∧st.t 17=.pv (Z js.length)∧st.t 18=.pv (Z i)∧∀k x,k<i->js[k]?=some x->dv js k x=0) (by simp) ?_;rintro i st hi ⟨g1,hb1,g17,g18,hq⟩;by_cases hlt:i<js.length
 .have hw:=au hlt hl
  by_cases he:dv js i js[i]=0
  .have hne:(dv js i js[i]!=0)=false:=by simp[he]
   have q1:=IA js ms i hl hlt;refine GT (gA g1 (gA hb1 (gA g17 (gA g18 (gA hlt (gA hw (gA hne he))))))) ?_
   all_goals simpa using AP hlt hq he
  .have hne:(dv js i js[i]!=0)=true:=by simp[he]
   have hf:=uU hlt hq he;have q1:=IA js ms i hl hlt;refine GT (gA g1 (gA hb1 (gA g17 (gA g18 (gA hlt (gA hw (gA hne he))))))) ?_
   all_goals simp[hf,he]
 .have hf:jg js=0:=xg (λk x hx=>hq k x (by have:=(List.getElem?_eq_some_iff.1 hx).1;omega) hx)
  have cm:=Lp 113 (ja js ms) (λm=>!fW js.length m) ms hm (λm=>Lm js ms m);rw[hf];by_cases h32:32<ms.length
  .have h32':(32:Int)<ms.length:=by omega
   have hr':r=808:=by rw[<-hr];simp[h32]
   exact Gy
  .have h32':¬(32:Int)<ms.length:=by omega
   cases hany:ms.any λm=>!fW js.length m with
   |true=>
    rw[hany]at cm
    have hr':r=808:=by rw[<-hr,hany];simp
    exact Gy
   |false=>
    rw[hany]at cm
    have hr':r=0:=by rw[<-hr,hany];simp[h32]
    exact Gy
theorem Hs(h:i<xs.length)(hp:p xs[i]=true):xs.any p=true:=List.any_eq_true.2 ⟨_,List.getElem_mem h,hp⟩
theorem ID(h:∀(i:Nat) x,xs[i]?=some x->p x=false):xs.any p=false:=by
 rw[List.any_eq_false];intro x hx;obtain⟨i,hi⟩:=List.getElem?_of_mem hx;simp[h i x hi]
theorem IE(js:List J)(ms:List Ms)(hl:js.length<=9223372036854775807)(hm:ms.length<=9223372036854775807):aa Tryz.prog 56 [.pv (ja js ms)] [] [] (.pv (Z (bF js ms))):=by
 by_cases h0:js.length=0
 .have hc:bF js ms=801:=by simp[bF,h0]
  have h0':js=[]:=List.eq_nil_of_length_eq_zero h0;rw[hc];subst h0';refine Dp Tryz.func56 ?_;intro C hP hN;simp only[Tryz.f56]at hN|-;exact Gy
 have n0:¬(js.length:Int)<1:=by omega
 have n1:¬js.length<1:=by omega
 by_cases h1:10<js.length
 .have hc:bF js ms=801:=by simp[bF,h1]
  have h1':(10:Int)<js.length:=by omega
  rw[hc];refine Dp Tryz.func56 ?_;intro C hP hN;simp only[Tryz.f56]at hN|-;exact Gy
 have h1':¬(10:Int)<js.length:=by omega
 have hc0:bF js ms=if jg js≠0 then jg js else if(decide (32<ms.length)||ms.any λm=>!fW js.length m)=true then 808 else 0:=by
  unfold bF;rw[if_neg (by omega)]
 rw[hc0];generalize hr:(if(decide (32<ms.length)||ms.any λm=>!fW js.length m)=true then(808:Int)else 0)=r;refine Dp Tryz.func56 ?_;intro C hP hN;simp only[Tryz.f56]at hN|-;refine Gz ?_;refine WP.loopN [] js.length (λi st=>st.t 1=.ptr 1 0∧st.h 1=some (.box [.pv (.sl (js.map cW)),.pv (.sl (ms.map fc))] true false)∧st.h 6=none∧st.t 3=.pv (Z i)∧∀k x,k<i->js[k]?=some x->dv js k x=0) (by simp) ?_;rintro i st hi ⟨g1,hb1,hb6,g3,hq⟩;by_cases hlt:i<js.length
 .have hw:=au hlt hl
  by_cases he:dv js i js[i]=0
  .have hne:(dv js i js[i]!=0)=false:=by simp[he]
   with_reducible repeat' (first|refine Sp.h ?_|((first|refine Ss.h ?_|refine Sc.h (IC js i hl hlt) ?_|(refine Sb.h ?_ ?_ ?_<;>(try intro hgd)<;>try exact Xy))<;>simp -implicitDefEqProofs (maxSteps:=2000000) [hP,hN,g1,hb1,hb6,g3,hlt,hw,hne,he])|refine X2 ?_ ?_|(refine Xd ?_ ?_<;>intro hcd<;>try exact Xx))
   all_goals simpa using AP hlt hq he
  .have hne:(dv js i js[i]!=0)=true:=by simp[he]
   have hf:=uU hlt hq he
   with_reducible repeat' (first|refine Sp.h ?_|((first|refine Ss.h ?_|refine Sc.h (IC js i hl hlt) ?_|(refine Sb.h ?_ ?_ ?_<;>(try intro hgd)<;>try exact Xy))<;>simp -implicitDefEqProofs (maxSteps:=2000000) [hP,hN,g1,hb1,hb6,g3,hlt,hw,hne,he])|refine X2 ?_ ?_|(refine Xd ?_ ?_<;>intro hcd<;>try exact Xx))
   all_goals simp[hf,he]
 .have hf:jg js=0:=xg (λk x hx=>hq k x (by have:=(List.getElem?_eq_some_iff.1 hx).1;omega) hx)
  rw[hf];by_cases h32:32<ms.length
  .have h32':(32:Int)<ms.length:=by omega
   have hr':r=808:=by rw[<-hr];simp[h32]
   exact Gy
  .have h32':¬(32:Int)<ms.length:=by omega
   refine Gz ?_;refine WP.loopN [6] ms.length (λi st=>st.t 1=.ptr 1 0∧st.h 1=some (.box [.pv (.sl (js.map cW)),.pv (.sl (ms.map fc))] true false)∧st.h 6=none∧st.t 5=.pv (Z i)∧∀k x,k<i->ms[k]?=some x->(!fW js.length x)=false) (by simp[g1,hb1,hb6]) ?_;clear g1 hb1 hb6 g3 hq;rintro i st hi ⟨g1,hb1,hb6,g5,hq⟩;by_cases hlt:i<ms.length
   .have hw:=au hlt hm
    have hx:=List.getElem?_eq_getElem hlt
    cases hok:fW js.length ms[i]with
    |false=>
     have hany:(ms.any λm=>!fW js.length m)=true:=Hs hlt (by simp[hok])
     have hr':r=808:=by rw[<-hr,hany];simp
     clear hr hany
     with_reducible repeat' (first|refine Sp.h ?_|((first|refine Ss.h ?_|refine Sc.h (AO _ _ _ _ (by decide) (by decide)) ?_|refine Sc.h (Fy _ _ _) ?_|(refine Sb.h ?_ ?_ ?_<;>(try intro hgd)<;>try exact Xy))<;>simp -implicitDefEqProofs (maxSteps:=2000000) [hP,hN,g1,hb1,hb6,g5,hlt,hw,hr'])|refine X2 ?_ ?_|(refine Xd ?_ ?_<;>intro hcd<;>try exact Xx))
     all_goals (exfalso;clear hq hP hN g1 hb1 hb6 g5 hw hr' hc0 hf;simp[fW]at *;grind)
    |true=>
     have hst:=nq (p:=λm=>!fW js.length m) hlt hq (by simp[hok]);clear hr hq
     with_reducible repeat' (first|refine Sp.h ?_|((first|refine Ss.h ?_|refine Sc.h (AO _ _ _ _ (by decide) (by decide)) ?_|refine Sc.h (Fy _ _ _) ?_|(refine Sb.h ?_ ?_ ?_<;>(try intro hgd)<;>try exact Xy))<;>simp -implicitDefEqProofs (maxSteps:=2000000) [hP,hN,g1,hb1,hb6,g5,hlt,hw])|refine X2 ?_ ?_|(refine Xd ?_ ?_<;>intro hcd<;>try exact Xx))
     all_goals first|(simpa using hst)|(exfalso;clear hst hP hN g1 hb1 hb6 g5 hw hc0 hf;simp[fW]at *;grind)
   .have hany:(ms.any λm=>!fW js.length m)=false:=ID (λk x hx=>hq k x (by have:=(List.getElem?_eq_some_iff.1 hx).1;omega) hx)
    have hr':r=0:=by rw[<-hr,hany];simp[h32]
    exact Gy
theorem o8:bi p xs=true↔∀x∈xs,p x=true:=by simp[bi]
theorem AQ{β:Type}{f:α->β->Bool}{ys:List β}:fp f xs ys=true↔∀(i:Nat)(h:i<xs.length)(h':i<ys.length),f xs[i] ys[i]=true:=by
 unfold fp;rw[List.all_eq_true];constructor
 .intro h i hi hi'
  exact h (f xs[i] ys[i]) (by
   rw[List.mem_iff_getElem]
   exact⟨i,by simp;omega,by simp⟩)
 .intro h x hx
  obtain⟨i,hi,rfl⟩:=List.mem_iff_getElem.1 hx;simp only[List.length_zipWith]at hi;simpa using h i (by omega) (by omega)
section
variable {p q:List Int} {d i:Int}
end
def qX(a b:Int):Int:=if a.tmod b<0 then wr (wr (a.tdiv b)-1)else wr (a.tdiv b)
theorem Lq(a b:Int)(hb:b≠0):aa Tryz.prog 107 [.pv (Z a),.pv (Z b)] [] [] (.pv (Z (qX a b))):=by
 refine Dp Tryz.func107 ?_;intro C hP hN;simp only[Tryz.f107]at hN|-
 with_reducible repeat' (first|refine Sp.h ?_|((first|refine Ss.h ?_|(refine Sb.h ?_ ?_ ?_<;>(try intro hgd)<;>try exact Xy))<;>simp -implicitDefEqProofs (maxSteps:=2000000) [hP,hN,hb])|refine X2 ?_ ?_|(refine Xd ?_ ?_<;>intro hcd<;>try exact Xx))
 all_goals (first|(simp_all[qX];done)|((try simp_all[qX])<;>(try omega)<;>grind))
theorem zd{b k:Int}(hb:0<b)(h1:k*b<=a)(h2:a<(k+1)*b):a/b=k:=by
 have:=(Int.le_ediv_iff_mul_le hb).2 h1;have:=(Int.ediv_lt_iff_lt_mul hb).2 h2;omega
theorem Eu{b:Int}(hb:0<b)(h1:-4611686018427387904<=a)(h2:a<=4611686018427387904):qX a b=a/b:=by
 have hq:=Int.mul_tdiv_add_tmod a b;have h3:-b<a.tmod b:=Int.lt_tmod_of_pos a hb;have h4:a.tmod b<b:=Int.tmod_lt_of_pos a hb;have hbd:=Dn (a:=a) (N:=b) (B:=4611686018427387904) hb h1 h2;rw[Int.mul_comm]at hq;unfold qX;split
 .have e:a/b=a.tdiv b-1:=zd hb (by rw[Int.sub_mul];omega) (by rw[show a.tdiv b-1+1=a.tdiv b by omega];omega)
  rw[ab (n:=a.tdiv b) (by omega) (by omega),ab (by omega) (by omega),e]
 .have e:a/b=a.tdiv b:=zd hb (by omega) (by rw[Int.add_mul];omega)
  rw[ab (n:=a.tdiv b) (by omega) (by omega),e]
theorem uW{x:Int×Int}(h:aC x.1 x.2=true):-2147483648<=x.1∧x.1<=x.2∧x.2<=2147483648:=by
 simp only[aC,Bool.and_eq_true,decide_eq_true_eq]at h;omega
theorem Kv(x:Int×Int):aa Tryz.prog 55 [.pv (aU x)] [] [] (.pv (Z (ic x))):=by
 cases hv:aC x.1 x.2 with
 |false=>
  have hr:ic x=0:=by simp[ic,hv]
  rw[hr];refine Dp Tryz.func55 ?_;intro C hP hN;simp only[Tryz.f55]at hN|-;have q1:=@vu;exact GS hv
 |true=>
  have hb:=uW hv
  have hr:ic x=qX (wr (x.1+x.2)) 2:=by
   rw[ic,hv];simp only[if_true];rw[ab (by omega) (by omega),Eu (by decide) (by omega) (by omega),Int.fdiv_eq_ediv_of_nonneg _ (by decide)]
  rw[hr];refine Dp Tryz.func55 ?_;intro C hP hN;simp only[Tryz.f55]at hN|-
  with_reducible repeat' (first|refine Sp.h ?_|((first|refine Ss.h ?_|refine Sc.h (vu _ _) ?_|refine Sc.h (Lq _ _ (by decide)) ?_|(refine Sb.h ?_ ?_ ?_<;>(try intro hgd)<;>try exact Xy))<;>simp -implicitDefEqProofs (maxSteps:=2000000) [hP,hN,hv])|refine X2 ?_ ?_|(refine Xd ?_ ?_<;>intro hcd<;>try exact Xx))
theorem NP(xs:List (Int×Int))(hl:xs.length<=16777216):aa Tryz.prog 22 [.pv (iv xs)] [] [] (.pv (zs (mI xs))):=by
 cases hv:bi vI xs with
 |false=>
  have hr:mI xs=[]:=by simp[mI,hv]
  rw[hr];refine Dp Tryz.func22 ?_;intro C hP hN;simp only[Tryz.f22]at hN|-
  with_reducible repeat' (first|refine Sp.h ?_|((first|refine Ss.h ?_|refine Sc.h (lU _ (pY hl)) ?_|(refine Sb.h ?_ ?_ ?_<;>(try intro hgd)<;>try exact Xy))<;>simp -implicitDefEqProofs (maxSteps:=2000000) [hP,hN,hv])|refine X2 ?_ ?_|(refine Xd ?_ ?_<;>intro hcd<;>try exact Xx))
 |true=>
  have hr:mI xs=xs.map ic:=by simp[mI,hv]
  rw[hr];refine Dp Tryz.func22 ?_;intro C hP hN;simp only[Tryz.f22]at hN|-
  with_reducible repeat' (first|refine Sp.h ?_|((first|refine Wh [3] ?_|refine Ss.h ?_|refine Sc.h (lU _ (pY hl)) ?_|(refine Sb.h ?_ ?_ ?_<;>(try intro hgd)<;>try exact Xy))<;>simp -implicitDefEqProofs (maxSteps:=2000000) [hP,hN,hv])|refine X2 ?_ ?_|(refine Xd ?_ ?_<;>intro hcd<;>try exact Xx))
  refine WP.loopN [] xs.length (λi st=>st.t 0=.pv (iv xs)∧st.t 4=.pv (Z i)∧st.t 3=.arr 3 i∧st.h 3=some (.row 2 1 ((xs.map λx=>Z (ic x)).take i) 0)) (by simp) ?_;rintro i st hi ⟨g0,g4,g3,hb⟩;by_cases hlt:i<xs.length
  .have hw:=au hlt (pY hl)
   have hz:min i xs.length=i:=by omega
   have hs:=zG (f:=λx=>Z (ic x)) hlt
   with_reducible repeat' (first|refine Sp.h ?_|((first|refine Ss.h ?_|refine Sc.h (Kv _) ?_|(refine Sb.h ?_ ?_ ?_<;>(try intro hgd)<;>try exact Xy))<;>simp -implicitDefEqProofs (maxSteps:=2000000) [hP,hN,g0,g4,g3,hb,hlt,hw,hz,hs,show(i+1)*8<=140737488355328 by omega,show i+1<=9223372036854775807 by omega])|refine X2 ?_ ?_|(refine Xd ?_ ?_<;>intro hcd<;>try exact Xx))
  .have hz:min i xs.length=i:=by omega
   refine Gz ?_;exact Es (by simp) hlt
def jV(xs ys:List (Int×Int)):Bool:=bi vI xs&&bi vI ys&&decide (xs.length=ys.length)&&fp fV xs ys
theorem Lr(xs ys:List (Int×Int))(hl:xs.length<=9223372036854775807)(hm:ys.length<=9223372036854775807):aa Tryz.prog 105 [.pv (iv xs),.pv (iv ys)] [] [] (.pv (B (jV xs ys))):=by
 cases hv:bi vI xs with
 |false=>
  have hr:jV xs ys=false:=by simp[jV,hv]
  rw[hr];refine Dp Tryz.func105 ?_;intro C hP hN;simp only[Tryz.f105]at hN|-
  with_reducible repeat' (first|refine Sp.h ?_|((first|refine Wd ?_|refine Ss.h ?_|refine Sc.h (lU _ hl) ?_|refine Sc.h (lU _ hm) ?_|(refine Sb.h ?_ ?_ ?_<;>(try intro hgd)<;>try exact Xy))<;>simp -implicitDefEqProofs (maxSteps:=2000000) [hP,hN,hv]<;>try refine Ya ?_)|refine X2 ?_ ?_|(refine Xd ?_ ?_<;>intro hcd<;>try exact Xx))
 |true=>
  cases hu:bi vI ys with
  |false=>
   have hr:jV xs ys=false:=by simp[jV,hv,hu]
   rw[hr];refine Dp Tryz.func105 ?_;intro C hP hN;simp only[Tryz.f105]at hN|-
   with_reducible repeat' (first|refine Sp.h ?_|((first|refine Wd ?_|refine Ss.h ?_|refine Sc.h (lU _ hl) ?_|refine Sc.h (lU _ hm) ?_|(refine Sb.h ?_ ?_ ?_<;>(try intro hgd)<;>try exact Xy))<;>simp -implicitDefEqProofs (maxSteps:=2000000) [hP,hN,hv,hu]<;>try refine Ya ?_)|refine X2 ?_ ?_|(refine Xd ?_ ?_<;>intro hcd<;>try exact Xx))
  |true=>
   by_cases he:xs.length=ys.length
   .have he':((xs.length:Int)!=ys.length)=false:=by simp[he]
    have hr:jV xs ys=fp fV xs ys:=by simp[jV,hv,hu,he]
    rw[hr];refine Dp Tryz.func105 ?_;intro C hP hN;simp only[Tryz.f105]at hN|-
    with_reducible repeat' (first|refine Sp.h ?_|((first|refine Wd ?_|refine Ss.h ?_|refine Sc.h (lU _ hl) ?_|refine Sc.h (lU _ hm) ?_|(refine Sb.h ?_ ?_ ?_<;>(try intro hgd)<;>try exact Xy))<;>simp -implicitDefEqProofs (maxSteps:=2000000) [hP,hN,hv,hu,he']<;>try refine Ya ?_)|refine X2 ?_ ?_|(refine Xd ?_ ?_<;>intro hcd<;>try exact Xx))
    refine WP.loopN [6] xs.length (λi st=>st.t 0=.pv (iv xs)∧st.t 1=.pv (iv ys)∧st.t 5=.pv (Z i)∧st.h 6=none∧fM fV xs ys i=true) (by simp[fM]) ?_;rintro i st hi ⟨g0,g1,g5,hb,hq⟩;by_cases hlt:i<xs.length
    .have hw:=au hlt hl
     have hlt':i<ys.length:=by omega
     have hF:fV xs[i] ys[i]=false->fp fV xs ys=false:=km hlt hlt';have hS:fV xs[i] ys[i]=true->fM fV xs ys (i+1)=true:=lr hlt hlt' hq;have cm:=La xs[i].1 xs[i].2 ys[i].1 ys[i].2
     cases ht:fV xs[i] ys[i]with
     |true=>
      have ht':(aC xs[i].1 xs[i].2&&aC ys[i].1 ys[i].2&&decide (max xs[i].1 ys[i].1<=min xs[i].2 ys[i].2))=true:=ht;rw[if_pos ht']at cm;exact Gy
      all_goals simpa using hS ht
     |false=>
      have ht':(aC xs[i].1 xs[i].2&&aC ys[i].1 ys[i].2&&decide (max xs[i].1 ys[i].1<=min xs[i].2 ys[i].2))=false:=ht;rw[if_neg (by simp[ht'])]at cm;exact Gy
      all_goals simp[hF ht]
    .have hlt':¬i<ys.length:=by omega
     refine Gz ?_
     all_goals simp[lu hlt hq]
   .have he':((xs.length:Int)!=ys.length)=true:=by simp;omega
    have hr:jV xs ys=false:=by simp[jV,he]
    rw[hr];refine Dp Tryz.func105 ?_;intro C hP hN;simp only[Tryz.f105]at hN|-
    with_reducible repeat' (first|refine Sp.h ?_|((first|refine Wd ?_|refine Ss.h ?_|refine Sc.h (lU _ hl) ?_|refine Sc.h (lU _ hm) ?_|(refine Sb.h ?_ ?_ ?_<;>(try intro hgd)<;>try exact Xy))<;>simp -implicitDefEqProofs (maxSteps:=2000000) [hP,hN,hv,hu,he']<;>try refine Ya ?_)|refine X2 ?_ ?_|(refine Xd ?_ ?_<;>intro hcd<;>try exact Xx))
theorem Ev(xs ys:List (Int×Int)):jV xs ys=eo xs ys:=by
 unfold jV eo;by_cases he:xs.length=ys.length
 .cases hz:fp fV xs ys with
  |false=>simp
  |true=>
   rw[AQ]at hz
   have v1:bi vI xs=true:=by
    rw[o8];intro x hx;obtain⟨i,hi,rfl⟩:=List.mem_iff_getElem.1 hx;have:=hz i hi (by omega);simp only[fV,Bool.and_eq_true]at this;exact this.1.1
   have v2:bi vI ys=true:=by
    rw[o8];intro x hx;obtain⟨i,hi,rfl⟩:=List.mem_iff_getElem.1 hx;have:=hz i (by omega) hi;simp only[fV,Bool.and_eq_true]at this;exact this.1.2
   simp[v1,v2,he]
 .simp[he]
theorem Co(xs:List (Int×Int))(ys:List Int):vA xs ys=jz xs ys:=by
 unfold vA jz;by_cases he:xs.length=ys.length
 .cases hz:fp mH xs ys with
  |false=>simp
  |true=>
   rw[AQ]at hz
   have v1:bi vI xs=true:=by
    rw[o8];intro x hx;obtain⟨i,hi,rfl⟩:=List.mem_iff_getElem.1 hx;have:=hz i hi (by omega);simp only[mH,Bool.and_eq_true]at this;exact this.1.1
   simp[v1,he]
 .simp[he]
theorem NQ(xs:List (Int×Int))(j:Int)(hl:xs.length<=16777216)(hv:bi vI xs=false):aa Tryz.prog 96 [.pv (iv xs),.pv (Z j)] [] [] (.pv (.tup [iv [],iv [],B false])):=by
 refine Dp Tryz.func96 ?_;intro C hP hN;simp only[Tryz.f96]at hN|-
 with_reducible repeat' (first|refine Sp.h ?_|((first|refine Wd ?_|refine Ss.h ?_|refine Sc.h (lU _ (pY hl)) ?_|(refine Sb.h ?_ ?_ ?_<;>(try intro hgd)<;>try exact Xy))<;>simp -implicitDefEqProofs (maxSteps:=2000000) [hP,hN,hv]<;>try refine Ya ?_)|refine X2 ?_ ?_|(refine Xd ?_ ?_<;>intro hcd<;>try exact Xx))
theorem NR(xs:List (Int×Int))(j:Int)(hl:xs.length<=16777216)(hv:bi vI xs=true)(hj:j<0):aa Tryz.prog 96 [.pv (iv xs),.pv (Z j)] [] [] (.pv (.tup [iv [],iv [],B false])):=by
 refine Dp Tryz.func96 ?_;intro C hP hN;simp only[Tryz.f96]at hN|-
 with_reducible repeat' (first|refine Sp.h ?_|((first|refine Wd ?_|refine Ss.h ?_|refine Sc.h (lU _ (pY hl)) ?_|(refine Sb.h ?_ ?_ ?_<;>(try intro hgd)<;>try exact Xy))<;>simp -implicitDefEqProofs (maxSteps:=2000000) [hP,hN,hv,hj]<;>try refine Ya ?_)|refine X2 ?_ ?_|(refine Xd ?_ ?_<;>intro hcd<;>try exact Xx))
theorem NS(xs:List (Int×Int))(n:Nat)(hl:xs.length<=16777216)(hv:bi vI xs=true)(hlt:xs.length<=n):aa Tryz.prog 96 [.pv (iv xs),.pv (Z n)] [] [] (.pv (.tup [iv [],iv [],B false])):=by
 have hnl:(xs.length:Int)<=(n:Int):=by omega
 refine Dp Tryz.func96 ?_;intro C hP hN;simp only[Tryz.f96]at hN|-
 with_reducible repeat' (first|refine Sp.h ?_|((first|refine Wd ?_|refine Ss.h ?_|refine Sc.h (lU _ (pY hl)) ?_|(refine Sb.h ?_ ?_ ?_<;>(try intro hgd)<;>try exact Xy))<;>simp -implicitDefEqProofs (maxSteps:=2000000) [hP,hN,hv,hnl,hlt]<;>try refine Ya ?_)|refine X2 ?_ ?_|(refine Xd ?_ ?_<;>intro hcd<;>try exact Xx))
theorem NT(xs:List (Int×Int))(n:Nat)(hl:xs.length<=16777216)(hv:bi vI xs=true)(hlt:n<xs.length)(hw:IntKind.i64.wrap (xs[n].2-xs[n].1)=xs[n].2-xs[n].1)(hs:xs[n].2-xs[n].1<2):aa Tryz.prog 96 [.pv (iv xs),.pv (Z n)] [] [] (.pv (.tup [iv [],iv [],B false])):=by
 have hnl:¬(xs.length:Int)<=(n:Int):=by omega
 refine Dp Tryz.func96 ?_;intro C hP hN;simp only[Tryz.f96]at hN|-
 with_reducible repeat' (first|refine Sp.h ?_|((first|refine Wd ?_|refine Ss.h ?_|refine Sc.h (lU _ (pY hl)) ?_|(refine Sb.h ?_ ?_ ?_<;>(try intro hgd)<;>try exact Xy))<;>simp -implicitDefEqProofs (maxSteps:=2000000) [hP,hN,hv,hlt,hw,hs,hnl,Nat.not_le.2 hlt]<;>try refine Ya ?_)|refine X2 ?_ ?_|(refine Xd ?_ ?_<;>intro hcd<;>try exact Xx))
theorem NU(xs:List (Int×Int))(n:Nat)(hl:xs.length<=16777216)(hv:bi vI xs=true)(hlt:n<xs.length)(hw:IntKind.i64.wrap (xs[n].2-xs[n].1)=xs[n].2-xs[n].1)(hs:¬xs[n].2-xs[n].1<2):aa Tryz.prog 96 [.pv (iv xs),.pv (Z n)] [] [] (.pv (.tup [iv (xs.set n (xs[n].1,ic xs[n])),iv (xs.set n (ic xs[n],xs[n].2)),B true])):=by
 have hnl:¬(xs.length:Int)<=(n:Int):=by omega
 generalize hm:ic xs[n]=m;have cm:=Kv xs[n];rw[hm]at cm;refine Dp Tryz.func96 ?_;intro C hP hN;simp only[Tryz.f96]at hN|-
 with_reducible repeat' (first|refine Sp.h ?_|((first|refine Wd ?_|refine Ss.h ?_|refine Sc.h (lU _ (pY hl)) ?_|refine Sc.h (cm) ?_|(refine Sb.h ?_ ?_ ?_<;>(try intro hgd)<;>try exact Xy))<;>simp -implicitDefEqProofs (maxSteps:=2000000) [hP,hN,hv,hlt,hw,hs,hnl,Nat.not_le.2 hlt,show xs.length*16<=140737488355328 by omega,show xs.length<=9223372036854775807 by omega]<;>try refine Ya ?_)|refine X2 ?_ ?_|(refine Xd ?_ ?_<;>intro hcd<;>try exact Xx))
 all_goals simp[List.map_set]
theorem Kw(xs:List (Int×Int))(j:Int)(hl:xs.length<=16777216):aa Tryz.prog 96 [.pv (iv xs),.pv (Z j)] [] [] (.pv (.tup [iv (cF xs j),iv (cG xs j),B (br xs j)])):=by
 cases hv:bi vI xs with
 |false=>
  have hr:br xs j=false:=by simp[br,hv]
  have hr1:cF xs j=[]:=by simp[cF,hr]
  have hr2:cG xs j=[]:=by simp[cG,hr]
  rw[hr,hr1,hr2];exact NQ xs j hl hv
 |true=>
  by_cases hj:0<=j
  .obtain⟨n,rfl⟩:=Int.eq_ofNat_of_zero_le hj
   by_cases hlt:n<xs.length
   .have hx:=List.getElem?_eq_getElem hlt
    have hvx:aC xs[n].1 xs[n].2=true:=o8.1 hv _ (List.getElem_mem hlt);have hb:=uW hvx
    have hwd:cV xs[n]=xs[n].2-xs[n].1:=by
     rw[cV,hvx];simp only[if_true];exact ab (by omega) (by omega)
    have hw:IntKind.i64.wrap (xs[n].2-xs[n].1)=xs[n].2-xs[n].1:=ab;by_cases hs:xs[n].2-xs[n].1<2
    .have hr:br xs (n:Int)=false:=by simp[br,hv,hx,hwd];omega
     have hr1:cF xs (n:Int)=[]:=by simp[cF,hr]
     have hr2:cG xs (n:Int)=[]:=by simp[cG,hr]
     rw[hr,hr1,hr2];exact NT xs n hl hv hlt hw hs
    .have hr:br xs (n:Int)=true:=by simp[br,hv,hx,hwd];omega
     have hr1:cF xs (n:Int)=xs.set n (xs[n].1,ic xs[n]):=by simp[cF,hr,hx]
     have hr2:cG xs (n:Int)=xs.set n (ic xs[n],xs[n].2):=by simp[cG,hr,hx]
     rw[hr,hr1,hr2];exact NU xs n hl hv hlt hw hs
   .have hx:xs[n]?=none:=List.getElem?_eq_none (by omega)
    have hr:br xs (n:Int)=false:=by simp[br,hx]
    have hr1:cF xs (n:Int)=[]:=by simp[cF,hr]
    have hr2:cG xs (n:Int)=[]:=by simp[cG,hr]
    rw[hr,hr1,hr2];exact NS xs n hl hv (Nat.not_lt.1 hlt)
  .have hr:br xs j=false:=by simp[br,hj]
   have hr1:cF xs j=[]:=by simp[cF,hr]
   have hr2:cG xs j=[]:=by simp[cG,hr]
   rw[hr,hr1,hr2];exact NR xs j hl hv (by omega)
def fX(js:List J)(b:List (Int×Int)):Nat->Int×Int
 |0=>(-1,0)
 |i+1=>match js[i]?,b[i]? with
  |some j,some x=>if 2<=cV x∧(fX js b i).2<wr (j.w*cV x)then((i:Int),wr (j.w*cV x))else fX js b i
  |_,_=>fX js b i
def Ge(x:AV)(fb:Option dm):Option dm:=match x with
 |.pv (.val (.slice none 0 0))=>some (.pv (Z 0),[])
 |_=>fb
@[simp] theorem KE(fb:Option dm):Ge (.pv (.val (.slice none 0 0))) fb=some (.pv (Z 0),[]):=rfl
theorem Gf(x:Operand):
 bz Tryz.prog ⟨dst,.call ⟨.builtin .len,#[x],#[22]⟩,ty,pos,aft,g⟩ (λ_=>.pv (.val (.slice none 0 0)))=some (.pv (Z 0),[]):=by kernel_rfl
@[simp] theorem Nu(x:Operand):
 bz Tryz.prog ⟨dst,.call ⟨.builtin .len,#[x],#[22]⟩,ty,pos,aft,g⟩ ρ=Ge (ρ x) (mF Tryz.prog ⟨dst,.call ⟨.builtin .len,#[x],#[22]⟩,ty,pos,aft,g⟩ ρ):=by
 unfold Ge;split
 .rename_i hs
  rw[<-Gf (dst:=dst) (ty:=ty) (pos:=pos) (aft:=aft) (g:=g) x];refine oZ (by intro _ _ h;cases h) ?_;intro y hy;simp[Op.operands,Call.operands]at hy;subst hy;exact hs
 .rfl
set_option maxRecDepth 100000 in
theorem Jp(t:Tr)(hl:t.cells.length<=9223372036854775807):aa Tryz.prog 94 [.pv (da t)] [] [] (.pv (.tup [.sl ((ao t).map iv),B (ay t)])):=by
 cases hs:fH t with
 |false=>
  have hno:=qp (t:=t) (by simp[cK,hs]);rw[hno.1,hno.2];by_cases q1:t.root.length<1
  .have q1':(t.root.length:Int)<1:=by omega
   refine Dp Tryz.func94 ?_;intro C hP hN;simp only[Tryz.f94]at hN|-;exact Gy
  have q1':¬(t.root.length:Int)<1:=by omega
  by_cases q2:10<t.root.length
  .have q2':(10:Int)<t.root.length:=by omega
   refine Dp Tryz.func94 ?_;intro C hP hN;simp only[Tryz.f94]at hN|-;exact Gy
  have q2':¬(10:Int)<t.root.length:=by omega
  by_cases h1:t.cells.length<1
  .have h1':(t.cells.length:Int)<1:=by omega
   refine Dp Tryz.func94 ?_;intro C hP hN;simp only[Tryz.f94]at hN|-;exact Gy
  have h1':¬(t.cells.length:Int)<1:=by omega
  by_cases h2:2048<t.cells.length
  .have h2':(2048:Int)<t.cells.length:=by omega
   refine Dp Tryz.func94 ?_;intro C hP hN;simp only[Tryz.f94]at hN|-;exact Gy
  have h2':¬(2048:Int)<t.cells.length:=by omega
  have h3:bi vI t.root=false:=by
   cases h:bi vI t.root with
   |false=>rfl
   |true=>simp[fH,dt,h]at hs;omega
  refine Dp Tryz.func94 ?_;intro C hP hN;simp only[Tryz.f94]at hN|-;refine Gz ?_;refine WP.loopN [] t.root.length (λi st=>st.t 1=.ptr 1 0∧st.t 5=.pv (Z i)∧st.h 1=some (.box [.pv (iv t.root),.pv (.sl (t.cells.map aW))] true false)∧bi vI (t.root.take i)=true) (by simp[bi]) ?_;rintro i st hi ⟨g1,g5,hb,hq⟩;by_cases hlt:i<t.root.length
  .have hw:=au hlt (by omega)
   have hS:vI t.root[i]=true->bi vI (t.root.take (i+1))=true:=r4 hlt hq
   with_reducible repeat' (first|refine Sp.h ?_|((first|refine Wd ?_|refine Ss.h ?_|refine Sc.h (vu _ _) ?_|(refine Sb.h ?_ ?_ ?_<;>(try intro hgd)<;>try exact Xy))<;>simp -implicitDefEqProofs (maxSteps:=2000000) [hP,hN,g1,g5,hb,hlt,hw]<;>try refine Ya ?_)|refine X2 ?_ ?_|(refine Xd ?_ ?_<;>intro hcd<;>try exact Xx))
   all_goals (exact hS (by simpa using hcd))
  .have:=r5 hlt hq
   rw[h3]at this;cases this
 |true=>
  obtain⟨z1,z2,z3,z4,z5⟩:=bG.1 hs
  have q1:¬t.root.length<1:=by omega
  have q2:¬10<t.root.length:=by omega
  have q1':¬(t.root.length:Int)<1:=by omega
  have q2':¬(10:Int)<t.root.length:=by omega
  have h1:¬t.cells.length<1:=by omega
  have h2:¬2048<t.cells.length:=by omega
  have h1':¬(t.cells.length:Int)<1:=by omega
  have h2':¬(2048:Int)<t.cells.length:=by omega
  have hin:=v8 z1;refine Dp Tryz.func94 ?_;intro C hP hN;simp only[Tryz.f94]at hN|-;refine Gz ?_;refine WP.loopN [] t.root.length (λi st=>st.t 1=.ptr 1 0∧st.t 4=.pv (Z t.cells.length)∧st.t 5=.pv (Z i)∧st.h 1=some (.box [.pv (iv t.root),.pv (.sl (t.cells.map aW))] true false)∧st.h 48=none∧st.h 8=none) (by simp) ?_;rintro i st hi ⟨g1,g4,g5,hb,hb48,hb8⟩;by_cases hlt:i<t.root.length
  .have hw:=au hlt (by omega)
   have hv:aC t.root[i].1 t.root[i].2=true:=ey.1 z5 _ (List.getElem_mem hlt);have cv:=vu t.root[i].1 t.root[i].2;rw[hv]at cv;exact Gy
  refine GT (gA g1 (gA g4 (gA g5 (gA hb (gA hb48 (gA hb8 (gA hlt (gA hin (gA (show(24:Int)*t.cells.length<=281474976710656 by omega) (gA (show(t.cells.length:Int)<=9223372036854775807 by omega) (show 0<t.cells.length by omega))))))))))) ?_;refine WP.loopN [8] t.cells.length (λi st=>∃L,BInv t i L∧st.t 1=.ptr 1 0∧st.t 4=.pv (Z t.cells.length)∧st.t 6=.arr 48 t.cells.length∧st.t 7=.pv (Z i)∧st.h 1=some (.box [.pv (iv t.root),.pv (.sl (t.cells.map aW))] true false)∧st.h 8=none∧st.h 48=some (.row 22 1 (L.map nQ) 0)) (by exact⟨iJ t,tR hs,by simp[g1,g4,g5,hb,hb48,hb8,hin]⟩) ?_;rintro i st hi ⟨L,hB,g1,g4,g6,g7,hb1',hb8,hb48⟩;have hLl:=hB.bok.len;by_cases hlt:i<t.cells.length
  .have hw:=au hlt hl
   have hlL:i<L.length:=by omega
   generalize hc:t.cells[i]=c at *
   have hci:t.cells[i]?=some c:=by rw[List.getElem?_eq_getElem hlt,hc]
   have bad:eM t.cells.length i c L=none->ay t=false∧ao t=[]:=λh=>qp (tS hB hlt (by rw[hc];exact h));have cl:=E4 c;have cf:=KF c.v;have cz:=MX c.v
   cases hx:L[i]? with
   |none=>rw[List.getElem?_eq_getElem hlL]at hx;cases hx
   |some x=>
   cases x with
   |none=>
    have hx':=aT hx hlL;obtain⟨e1,e2⟩:=bad (by simp[eM,hx]);rw[e1,e2];exact GS (gA g1 (gA g4 (gA g6 (gA g7 (gA hb1' (gA hb8 (gA hb48 (gA hlt (gA hw (gA hx (gA hx' (gA @cY (gA @cZ (gA hci (gA hc hLl)))))))))))))))
   |some b=>
   have hx':=aT hx hlL;obtain⟨hbl,hbv⟩:=hB.bok.ok i b hx
   have hb2:b≠[]:=by intro h;rw[h]at hbl;simp at hbl;omega
   have hb1:((b.length:Int)==0)=false:=by simp[hb2]
   cases hlf:cO c with
   |true=>
    rw[hlf]at cl
    cases hf:dW c.v with
    |true=>
     rw[hf]at cf;have hnx:=nD (L':=L) hB hlt (by rw[hc,i7 (t:=t) hx hlf,hf];rfl);refine GT (gA g1 (gA g4 (gA g6 (gA g7 (gA hb1' (gA hb8 (gA hb48 (gA hlt (gA hw (gA hx (gA hx' (gA @cY (gA @cZ (gA hci (gA hc (gA hLl (gA hb1 hb2))))))))))))))))) ?_
     all_goals exact⟨L,hnx,rfl⟩
    |false=>
     rw[hf]at cf;obtain⟨e1,e2⟩:=bad (by rw[i7 (t:=t) hx hlf,hf];rfl);rw[e1,e2];exact GS (gA g1 (gA g4 (gA g6 (gA g7 (gA hb1' (gA hb8 (gA hb48 (gA hlt (gA hw (gA hx (gA hx' (gA @cY (gA @cZ (gA hci (gA hc (gA hLl (gA hb1 hb2)))))))))))))))))
   |false=>
    rw[hlf]at cl
    cases hin':jk t.cells.length i c with
    |false=>
     obtain⟨e1,e2⟩:=bad (ka hx hlf (.inl hin'));rw[e1,e2];rcases u7 hin' with h|h|h|h|h|h
     all_goals try rw[h]at cz
     all_goals
      exact GS (gA g1 (gA g4 (gA g6 (gA g7 (gA hb1' (gA hb8 (gA hb48 (gA hlt (gA hw (gA hx (gA hx' (gA @cY (gA @cZ (gA hci (gA hc (gA hLl (gA hb1 (gA hb2 h))))))))))))))))))
    |true=>
     obtain⟨i1,i2,i3,i4,i5,i6⟩:=fN.1 hin';rw[i6]at cz;have ch:=Kw b c.joint (by omega)
     have j1:¬c.low<=i:=by omega
     have j2:¬(t.cells.length:Int)<=c.low:=by omega
     have j3:¬c.high<=i:=by omega
     have j4:¬(t.cells.length:Int)<=c.high:=by omega
     have k1:c.low.toNat<t.cells.length:=by omega
     have k2:c.high.toNat<t.cells.length:=by omega
     have k3:0<=c.low:=by omega
     have k4:0<=c.high:=by omega
     have k5:c.low.toNat<L.length:=by omega
     have k6:c.high.toNat<L.length:=by omega
     cases hh:br b c.joint with
     |false=>
      obtain⟨e1,e2⟩:=bad (ka hx hlf (.inr (.inl hh)));rw[e1,e2];rw[hh]at ch
      cases ha:L[c.low.toNat]? with
      |none=>rw[List.getElem?_eq_getElem k5]at ha;cases ha
      |some xa=>
      have ha':=aT ha k5
      cases hz:L[c.high.toNat]? with
      |none=>rw[List.getElem?_eq_getElem k6]at hz;cases hz
      |some xz=>
      have hz':=aT hz k6;rcases xa with _|d
      .rcases xz with _|d'
       .skip
        with_reducible repeat' (first|refine Sp.h ?_|((first|refine Wd ?_|refine Ss.h ?_|refine Sc.h (cl) ?_|refine Sc.h (cz) ?_|refine Sc.h (ch) ?_|(refine Sb.h ?_ ?_ ?_<;>(try intro hgd)<;>try exact Xy))<;>simp -implicitDefEqProofs (maxSteps:=2000000) [hP,hN,g1,g4,g6,g7,hb1',hb8,hb48,hlt,hw,hx,hx',cY,cZ,hci,hc,hLl,hb1,hb2,j1,j2,j3,j4,i5,k1,k2,k3,k4,ha,ha',hz,hz']<;>try refine Ya ?_)|refine X2 ?_ ?_|(refine Xd ?_ ?_<;>intro hcd<;>try exact Xx))
       .obtain⟨hdl,_⟩:=hB.bok.ok _ d' hz
        have hd1:(0:Int)<d'.length:=by omega
        have hd3:0<d'.length:=by omega
        with_reducible repeat' (first|refine Sp.h ?_|((first|refine Wd ?_|refine Ss.h ?_|refine Sc.h (cl) ?_|refine Sc.h (cz) ?_|refine Sc.h (ch) ?_|(refine Sb.h ?_ ?_ ?_<;>(try intro hgd)<;>try exact Xy))<;>simp -implicitDefEqProofs (maxSteps:=2000000) [hP,hN,g1,g4,g6,g7,hb1',hb8,hb48,hlt,hw,hx,hx',cY,cZ,hci,hc,hLl,hb1,hb2,j1,j2,j3,j4,i5,k1,k2,k3,k4,ha,ha',hz,hz',hd1,hd3]<;>try refine Ya ?_)|refine X2 ?_ ?_|(refine Xd ?_ ?_<;>intro hcd<;>try exact Xx))
      .obtain⟨hdl,_⟩:=hB.bok.ok _ d ha
       have hd1:(0:Int)<d.length:=by omega
       have hd3:0<d.length:=by omega
       with_reducible repeat' (first|refine Sp.h ?_|((first|refine Wd ?_|refine Ss.h ?_|refine Sc.h (cl) ?_|refine Sc.h (cz) ?_|refine Sc.h (ch) ?_|(refine Sb.h ?_ ?_ ?_<;>(try intro hgd)<;>try exact Xy))<;>simp -implicitDefEqProofs (maxSteps:=2000000) [hP,hN,g1,g4,g6,g7,hb1',hb8,hb48,hlt,hw,hx,hx',cY,cZ,hci,hc,hLl,hb1,hb2,j1,j2,j3,j4,i5,k1,k2,k3,k4,ha,ha',hz,hz',hd1,hd3]<;>try refine Ya ?_)|refine X2 ?_ ?_|(refine Xd ?_ ?_<;>intro hcd<;>try exact Xx))
     |true=>
     rw[hh]at ch;obtain⟨o1,_,o3,o4,_⟩:=v9.1 hh;have o5:=(List.getElem?_eq_some_iff.1 o4).1
     have o6:¬c.joint<0:=by omega
     have o7:¬(t.root.length:Int)<=c.joint:=by omega
     cases ha:L[c.low.toNat]? with
     |none=>rw[List.getElem?_eq_getElem k5]at ha;cases ha
     |some xa=>
     have ha':=aT ha k5
     cases xa with
     |some d=>
      obtain⟨e1,e2⟩:=bad (ka hx hlf (.inr (.inr (.inl ⟨d,ha⟩))));rw[e1,e2];obtain⟨hdl,_⟩:=hB.bok.ok _ d ha
      have hd2:d≠[]:=by intro h;rw[h]at hdl;simp at hdl;omega
      have hd1:(0:Int)<d.length:=by omega
      have hd3:0<d.length:=by omega
      with_reducible repeat' (first|refine Sp.h ?_|((first|refine Wd ?_|refine Ss.h ?_|refine Sc.h (cl) ?_|refine Sc.h (cz) ?_|refine Sc.h (ch) ?_|(refine Sb.h ?_ ?_ ?_<;>(try intro hgd)<;>try exact Xy))<;>simp -implicitDefEqProofs (maxSteps:=2000000) [hP,hN,g1,g4,g6,g7,hb1',hb8,hb48,hlt,hw,hx,hx',cY,cZ,hci,hc,hLl,hb1,hb2,j1,j2,j3,j4,i5,o6,o7,k1,k2,k3,k4,ha,ha',hd1,hd2,hd3]<;>try refine Ya ?_)|refine X2 ?_ ?_|(refine Xd ?_ ?_<;>intro hcd<;>try exact Xx))
     |none=>
     cases hz:L[c.high.toNat]? with
     |none=>rw[List.getElem?_eq_getElem k6]at hz;cases hz
     |some xz=>
     have hz':=aT hz k6
     cases xz with
     |some d=>
      obtain⟨e1,e2⟩:=bad (ka hx hlf (.inr (.inr (.inr ⟨d,hz⟩))));rw[e1,e2];obtain⟨hdl,_⟩:=hB.bok.ok _ d hz
      have hd2:d≠[]:=by intro h;rw[h]at hdl;simp at hdl;omega
      have hd1:(0:Int)<d.length:=by omega
      have hd3:0<d.length:=by omega
      with_reducible repeat' (first|refine Sp.h ?_|((first|refine Wd ?_|refine Ss.h ?_|refine Sc.h (cl) ?_|refine Sc.h (cz) ?_|refine Sc.h (ch) ?_|(refine Sb.h ?_ ?_ ?_<;>(try intro hgd)<;>try exact Xy))<;>simp -implicitDefEqProofs (maxSteps:=2000000) [hP,hN,g1,g4,g6,g7,hb1',hb8,hb48,hlt,hw,hx,hx',cY,cZ,hci,hc,hLl,hb1,hb2,j1,j2,j3,j4,i5,o6,o7,k1,k2,k3,k4,ha,ha',hz,hz',hd1,hd2,hd3]<;>try refine Ya ?_)|refine X2 ?_ ?_|(refine Xd ?_ ?_<;>intro hcd<;>try exact Xx))
     |none=>
      have hnx:=nD hB hlt (by rw[hc];exact ot hx hlf hin' hh ha hz)
      with_reducible repeat' (first|refine Sp.h ?_|((first|refine Wd ?_|refine Ss.h ?_|refine Sc.h (cl) ?_|refine Sc.h (cz) ?_|refine Sc.h (ch) ?_|(refine Sb.h ?_ ?_ ?_<;>(try intro hgd)<;>try exact Xy))<;>simp -implicitDefEqProofs (maxSteps:=2000000) [hP,hN,g1,g4,g6,g7,hb1',hb8,hb48,hlt,hw,hx,hx',cY,cZ,hci,hc,hLl,hb1,hb2,j1,j2,j3,j4,i5,o6,o7,k1,k2,k3,k4,ha,ha',hz,hz']<;>try refine Ya ?_)|refine X2 ?_ ?_|(refine Xd ?_ ?_<;>intro hcd<;>try exact Xx))
      all_goals exact⟨_,hnx,set_row⟩
  .have hdn:=qm hB hlt
   have hmap:=wg hdn
   have hval:ay t=true:=by simp[ay,hdn]
   rw[hval,<-hmap];exact GS (gA g1 (gA g4 (gA g6 (gA g7 (gA hb1' (gA hb8 (gA hb48 (gA hlt hLl))))))))
abbrev zN(n:Nat):PV:=Z (n:Int)
abbrev ns(l:List Nat):PV:=.sl (l.map zN)
theorem Jw(t:Tr)(hl:t.cells.length<=9223372036854775807):aa Tryz.prog 46 [.pv (da t)] [] [] (.pv (B (ay t))):=by
 have cb:=Jo t hl;refine Dp Tryz.func46 ?_;intro C hP hN;simp only[Tryz.f46]at hN|-;exact GS trivial
theorem Jy(t:Tr)(hl:t.cells.length<=9223372036854775807):aa Tryz.prog 39 [.pv (da t)] [] [] (.pv (B (ay t))):=by
 have cb:=Jp t hl;refine Dp Tryz.func39 ?_;intro C hP hN;simp only[Tryz.f39]at hN|-;exact GS trivial
theorem OO(r:List (Int×Int)):aa Tryz.prog 15 [.pv (iv r)] [] [] (.pv (.tup [da (qK r),B (dt r)])):=by
 have cv:aa Tryz.prog 39 [.pv (.agg [iv r,.sl [.agg [Z (-1),Z (-1),Z (-1),Z 0,.sl [],Z 0,.sl [],.sl []]]])] [] [] (.pv (B (dt r))):=by
  have:=Jy ⟨r,[aP bn]⟩ (by simp);rw[qt]at this;exact this
 cases h:dt r with
 |true=>
  rw[h]at cv;refine Dp Tryz.func15 ?_;intro C hP hN;simp only[Tryz.f15]at hN|-;refine GT trivial ?_
  all_goals simp[qK,h,aP,bn]
 |false=>
  rw[h]at cv;refine Dp Tryz.func15 ?_;intro C hP hN;simp only[Tryz.f15]at hN|-;refine GT trivial ?_
  all_goals simp[qK,h]
theorem B5{c:Cel}(hc:t.cells[i]?=some c):cT t (i+1)=if cO c then cT t i++[i]else cT t i:=by
 rw[pK];simp[dZ,hc]
theorem KG(t:Tr)(hl:t.cells.length<=9223372036854775807):aa Tryz.prog 41 [.pv (da t)] [] [] (.pv (ns (aD t))):=by
 have cv:=Jy t hl
 cases hv:ay t with
 |false=>
  have e:aD t=[]:=by simp[aD,hv]
  rw[hv]at cv;rw[e];refine Dp Tryz.func41 ?_;intro C hP hN;simp only[Tryz.f41]at hN|-;exact GS trivial
 |true=>
  have hz:=bG.1 (dz hv)
  have e:aD t=cT t t.cells.length:=by simp[aD,hv]
  rw[hv]at cv;rw[e];refine Dp Tryz.func41 ?_;intro C hP hN;simp only[Tryz.f41]at hN|-;refine Ko [3] trivial ?_;refine WP.loopN [] t.cells.length (λi st=>st.t 1=.ptr 1 0∧st.t 3=.arr 3 (cT t i).length∧st.t 4=.pv (Z i)∧st.h 1=some (.box [.pv (iv t.root),.pv (.sl (t.cells.map aW))] true false)∧st.h 3=some (.row 3 1 ((cT t i).map zN) 0)) (by simp[cT]) ?_;rintro i st hi ⟨g1,g3,g4,hb1,hb3⟩;have hle:=m9 t i;by_cases hlt:i<t.cells.length
  .have hw:=au hlt hl
   generalize hc:t.cells[i]=c at *
   have hci:t.cells[i]?=some c:=by rw[List.getElem?_eq_getElem hlt,hc]
   have cl:=E4 c;have hs:=B5 hci
   cases hlf:cO c with
   |true=>
    rw[hlf]at cl hs;rw[if_pos rfl]at hs
    have hb:((cT t i).length+1)*8<=140737488355328:=by omega
    have hb':(cT t i).length+1<=9223372036854775807:=by omega
    with_reducible repeat' (first|refine Sp.h ?_|((first|refine Ss.h ?_|refine Sc.h (cl) ?_|(refine Sb.h ?_ ?_ ?_<;>(try intro hgd)<;>try exact Xy))<;>simp -implicitDefEqProofs (maxSteps:=2000000) [hP,hN,g1,g3,g4,hb1,hb3,hlt,hw,hci,hc,hb,hb'])|refine X2 ?_ ?_|(refine Xd ?_ ?_<;>intro hcd<;>try exact Xx))
    all_goals simp[hs]
   |false=>
    rw[hlf]at cl hs;rw[if_neg (by simp)]at hs
    with_reducible repeat' (first|refine Sp.h ?_|((first|refine Ss.h ?_|refine Sc.h (cl) ?_|(refine Sb.h ?_ ?_ ?_<;>(try intro hgd)<;>try exact Xy))<;>simp -implicitDefEqProofs (maxSteps:=2000000) [hP,hN,g1,g3,g4,hb1,hb3,hlt,hw,hci,hc])|refine X2 ?_ ?_|(refine Xd ?_ ?_<;>intro hcd<;>try exact Xx))
    all_goals simp[hs]
  .have hi':i=t.cells.length:=by omega
   subst hi'
   with_reducible repeat' (first|refine Sp.h ?_|((first|refine Ss.h ?_|(refine Sb.h ?_ ?_ ?_<;>(try intro hgd)<;>try exact Xy))<;>simp -implicitDefEqProofs (maxSteps:=2000000) [hP,hN,g1,g3,g4,hb1,hb3,hlt])|refine X2 ?_ ?_|(refine Xd ?_ ?_<;>intro hcd<;>try exact Xx))
theorem OP(k:Int):aa Tryz.prog 44 [.pv (Z k)] [] [] (.pv (k7 (mq k))):=by
 by_cases h1:k=1
 .subst h1
  refine Dp Tryz.func44 ?_;intro C hP hN;simp only[Tryz.f44]at hN|-;refine GT trivial ?_
  all_goals simp[mq]
 .by_cases h2:k=2
  .subst h2
   refine Dp Tryz.func44 ?_;intro C hP hN;simp only[Tryz.f44]at hN|-;refine GT trivial ?_
   all_goals simp[mq]
  .by_cases h3:k=3
   .subst h3
    refine Dp Tryz.func44 ?_;intro C hP hN;simp only[Tryz.f44]at hN|-;refine GT trivial ?_
    all_goals simp[mq]
   .skip
    refine Dp Tryz.func44 ?_;intro C hP hN;simp only[Tryz.f44]at hN|-;refine GT (gA h1 (gA h2 h3)) ?_
    all_goals simp[mq,h1,h2,h3,bn]
theorem lC{i j:Int}(h:eJ t i j=false):kc t i j=t:=by simp[kc,h]
theorem kB{i:Int}{v:Verd}(h:cX t i v=false):dE t i v=t:=by simp[dE,h]
set_option maxRecDepth 10000 in
theorem OQ(t:Tr)(i j:Int)(hl:t.cells.length<=9223372036854775807):aa Tryz.prog 42 [.pv (da t),.pv (Z i),.pv (Z j)] [] [] (.pv (.tup [da (kc t i j),B (eJ t i j)])):=by
 have cb:=Jp t hl
 cases hv:ay t with
 |false=>
  have hno:eJ t i j=false:=by simp[eJ,hv]
  rw[lC hno,hno];rw[hv]at cb;refine Dp Tryz.func42 ?_;intro C hP hN;simp only[Tryz.f42]at hN|-;exact GS trivial
 |true=>
  rw[hv]at cb;have hbl:=eN hv;have hz:=bG.1 (dz hv);by_cases h1:i<0
  .have hno:eJ t i j=false:=by
    have:decide (0<=i)=false:=by simp;omega
    simp[eJ,this]
   rw[lC hno,hno];refine Dp Tryz.func42 ?_;intro C hP hN;simp only[Tryz.f42]at hN|-;exact GS h1
  .obtain⟨k,rfl⟩:=Int.eq_ofNat_of_zero_le (show 0<=i by omega)
   by_cases h2:t.cells.length<=k
   .have hno:eJ t k j=false:=by
     have:decide ((k:Int)<t.cells.length)=false:=by simp;omega
     simp only[eJ,this,Bool.and_false,Bool.false_and]
    rw[lC hno,hno];refine Dp Tryz.func42 ?_;intro C hP hN;simp only[Tryz.f42]at hN|-;exact GS (gA h1 (gA h2 hbl))
   .have hlt:k<t.cells.length:=by omega
    have hlt':k<(ao t).length:=by omega
    generalize hc:t.cells[k]=c at *
    have hci:t.cells[k]?=some c:=by rw[List.getElem?_eq_getElem hlt,hc]
    generalize hbk:(ao t)[k]=b at *
    have hbi:(ao t)[k]?=some b:=by rw[List.getElem?_eq_getElem hlt',hbk]
    obtain⟨hb1,hb2⟩:=gJ hbi;have cl:=E4 c;have ch:=Kw b j (by omega);have hw:IntKind.i64.wrap ((t.cells.length:Int)+2)=(t.cells.length:Int)+2:=ab;have hw1:IntKind.i64.wrap ((t.cells.length:Int)+1)=(t.cells.length:Int)+1:=ab
    cases hlf:cO c with
    |false=>
     have hno:eJ t k j=false:=by simp[eJ,dZ,hci,hlf]
     rw[lC hno,hno];rw[hlf]at cl;refine Dp Tryz.func42 ?_;intro C hP hN;simp only[Tryz.f42]at hN|-;exact GS (gA h1 (gA h2 (gA hbl (gA hlt (gA hlt' (gA hci hc))))))
    |true=>
     rw[hlf]at cl;by_cases h3:2048<t.cells.length+2
     .have hno:eJ t k j=false:=by
       have:decide (t.cells.length+2<=2048)=false:=by simp;omega
       simp only[eJ,this,Bool.and_false,Bool.false_and]
      have h3':(2048:Int)<t.cells.length+2:=by omega
      rw[lC hno,hno];refine Dp Tryz.func42 ?_;intro C hP hN;simp only[Tryz.f42]at hN|-;exact GS (gA h1 (gA h2 (gA hbl (gA hlt (gA hlt' (gA hci (gA hc (gA hw h3'))))))))
     .have h3':¬(2048:Int)<t.cells.length+2:=by omega
      cases hh:br b j with
      |false=>
       have hno:eJ t k j=false:=by simp[eJ,hbi,hh]
       rw[lC hno,hno];rw[hh]at ch;refine Dp Tryz.func42 ?_;intro C hP hN;simp only[Tryz.f42]at hN|-;exact GS (gA h1 (gA h2 (gA hbl (gA hlt (gA hlt' (gA hci (gA hc (gA hbk (gA hbi (gA hw h3'))))))))))
      |true=>
       have hyes:eJ t k j=true:=by
        simp only[eJ,hv,dZ,Int.toNat_natCast,hci,hlf,hbi,Option.getD_some,hh,Bool.and_true,Bool.true_and,Bool.and_eq_true,decide_eq_true_eq];omega
       have hT:kc t k j=kQ t k j c.v:=by simp[kc,hyes,zy,hci]
       rw[hT,hyes];rw[hh]at ch;have hcl:=wh hlf;refine Dp Tryz.func42 ?_;intro C hP hN;simp only[Tryz.f42]at hN|-;refine GT (gA h1 (gA h2 (gA hbl (gA hlt (gA hlt' (gA hci (gA hc (gA hbk (gA hbi (gA hw (gA hw1 (gA h3' (gA (show t.cells.length*112<=140737488355328 by omega) (gA (show(t.cells.length+2)*112<=140737488355328 by omega) (gA (show t.cells.length+2<=9223372036854775807 by omega) (show t.cells.length<=9223372036854775807 by omega)))))))))))))))) ?_
       all_goals (rw[hcl];simp[kQ,aP,List.map_set,bn]<;>rfl)
set_option maxRecDepth 10000 in
theorem OR(t:Tr)(i:Int)(v:Verd)(hl:t.cells.length<=9223372036854775807):aa Tryz.prog 43 [.pv (da t),.pv (Z i),.pv (k7 v)] [] [] (.pv (.tup [da (dE t i v),B (cX t i v)])):=by
 have cb:=Jy t hl
 cases hv:ay t with
 |false=>
  have hno:cX t i v=false:=by simp[cX,hv]
  rw[kB hno,hno];rw[hv]at cb;refine Dp Tryz.func43 ?_;intro C hP hN;simp only[Tryz.f43]at hN|-;exact GS trivial
 |true=>
  rw[hv]at cb;have hz:=bG.1 (dz hv);by_cases h1:i<0
  .have hno:cX t i v=false:=by
    have:decide (0<=i)=false:=by simp;omega
    simp only[cX,this,Bool.and_false,Bool.false_and]
   rw[kB hno,hno];refine Dp Tryz.func43 ?_;intro C hP hN;simp only[Tryz.f43]at hN|-;exact GS h1
  .obtain⟨k,rfl⟩:=Int.eq_ofNat_of_zero_le (show 0<=i by omega)
   by_cases h2:t.cells.length<=k
   .have hno:cX t k v=false:=by
     have:decide ((k:Int)<t.cells.length)=false:=by simp;omega
     simp only[cX,this,Bool.and_false,Bool.false_and]
    rw[kB hno,hno];refine Dp Tryz.func43 ?_;intro C hP hN;simp only[Tryz.f43]at hN|-;exact GS (gA h1 h2)
   .have hlt:k<t.cells.length:=by omega
    generalize hc:t.cells[k]=c at *
    have hci:t.cells[k]?=some c:=by rw[List.getElem?_eq_getElem hlt,hc]
    have cl:=E4 c;have cf:=KF v
    cases hlf:cO c with
    |false=>
     have hno:cX t k v=false:=by simp[cX,dZ,hci,hlf]
     rw[kB hno,hno];rw[hlf]at cl;refine Dp Tryz.func43 ?_;intro C hP hN;simp only[Tryz.f43]at hN|-;exact GS (gA h1 (gA h2 (gA hlt (gA hci hc))))
    |true=>
     rw[hlf]at cl;by_cases h3:c.v.kind=0
     .have h3':(c.v.kind !=0)=false:=by simp[h3]
      cases hf:dW v with
      |false=>
       have hno:cX t k v=false:=by simp[cX,hf]
       rw[kB hno,hno];rw[hf]at cf;refine Dp Tryz.func43 ?_;intro C hP hN;simp only[Tryz.f43]at hN|-;exact GS (gA h1 (gA h2 (gA hlt (gA hci (gA hc h3')))))
      |true=>
       rw[hf]at cf
       have hyes:cX t k v=true:=by
        simp[cX,hv,dZ,hci,hlf,hf,zy,h3,hlt,hc]
       have hT:dE t k v=eI t k v:=by simp[dE,hyes]
       rw[hT,hyes];have hcl:=wh hlf
       have q1:c.joint=-1:=by rw[hcl];rfl
       have q2:c.low=-1:=by rw[hcl];rfl
       have q3:c.high=-1:=by rw[hcl];rfl
       refine Dp Tryz.func43 ?_;intro C hP hN;simp only[Tryz.f43]at hN|-;refine GT (gA h1 (gA h2 (gA hlt (gA hci (gA hc (gA h3' (gA (show t.cells.length*112<=140737488355328 by omega) (show t.cells.length<=9223372036854775807 by omega)))))))) ?_
       all_goals simp[eI,aP,List.map_set,q1,q2,q3]
     .have h3':(c.v.kind !=0)=true:=by simp[h3]
      have hno:cX t k v=false:=by simp[cX,zy,hci,h3]
      rw[kB hno,hno];refine Dp Tryz.func43 ?_;intro C hP hN;simp only[Tryz.f43]at hN|-;exact GS (gA h1 (gA h2 (gA hlt (gA hci (gA hc h3')))))
theorem ve(t:Tr):(aD t).length<=t.cells.length:=by
 cases h:ay t with
 |true=>simp only[aD,h,if_true];exact m9 _ _
 |false=>simp[aD,h]
theorem Gm(hv:ay t=true)(l:List Int)(m:Nat)(hc:t.cells.length<=2048):0<=nx l m (aD t).length∧(aD t)[(nx l m (aD t).length).toNat]?=some (yL t l m)∧(nx l m (aD t).length).toNat<(aD t).length:=by
 have hp:=qJ hv;have hle:=ve t;have hr:=ld l m (k:=((aD t).length:Int)) (by omega) (by omega)
 have hlt:(nx l m (aD t).length).toNat<(aD t).length:=by omega
 exact⟨hr.1,by simp[yL,List.getElem?_eq_getElem hlt],hlt⟩
set_option maxRecDepth 10000 in
theorem OT(t:Tr)(l:List Int)(n:Nat)(hn:n<=100)(hv:ay t=true)(hc:t.cells.length<=100):aa Tryz.prog 17 [.pv (da t),.pv (zs l),.pv (Z n)] [] [] (.pv (da (yM t l n))):=by
 have cf:=It l;have hz:=bG.1 (dz hv);refine Dp Tryz.func17 ?_;intro C hP hN;simp only[Tryz.f17]at hN|-
 with_reducible repeat' (first|refine Sp.h ?_|((first|refine Wd ?_|refine Ss.h ?_|refine Sc.h (cf) ?_|(refine Sb.h ?_ ?_ ?_<;>(try intro hgd)<;>try exact Xy))<;>simp -implicitDefEqProofs (maxSteps:=2000000) [hP,hN,gx]<;>try refine Ya ?_)|refine X2 ?_ ?_|(refine Xd ?_ ?_<;>intro hcd<;>try exact Xx))
 refine WP.loopN [] n (λi st=>st.t 2=.pv (Z n)∧st.t 3=.ptr 3 0∧st.t 6=.ptr 6 0∧st.t 7=.ptr 14 0∧st.t 8=.pv (Z i)∧st.h 3=some (.box [.pv (iv (de t l i).1.root),.pv (.sl ((de t l i).1.cells.map aW))] true false)∧st.h 6=some (.box [.pv (.val (.slice none 0 0)),.pv (.val (.slice none 0 0))] true false)∧st.h 14=some (.box [.pv (zs l),.pv (Z (de t l i).2)] true false)) (by simp[de]) ?_;rintro i st hi ⟨g2,g3,g6,g7,g8,hb3,hb6,hb14⟩;obtain⟨o1,o2,o3,o4⟩:=CN l hv i;by_cases hlt:i<n
 .have hw:=au hlt (by omega)
  have hsu:de t l (i+1)=(kc (de t l i).1 (yL (de t l i).1 l (de t l i).2) (BH (de t l i).1 l (de t l i).2),nn l (nn l (de t l i).2)):=rfl;generalize(de t l i).1=d at *;generalize(de t l i).2=m at *;obtain⟨p1,p2,p3⟩:=Gm o1 l m (by omega);have p2':=(List.getElem?_eq_some_iff.1 p2).2;have l1:=lV l m;have hlp:=qJ o1;have cl:=KG d (by omega);have c1:=wZ l m ((aD d).length:Int) (by omega) (by omega);have c2:=wZ l (nn l m) (d.root.length:Int) (by rw[o2];omega) (by omega);have c3:=OQ d (yL d l m) (BH d l m) (by omega);unfold BH at c3 hsu
  with_reducible repeat' (first|refine Sp.h ?_|((first|refine Wd ?_|refine Ss.h ?_|refine Sc.h (cl) ?_|refine Sc.h (c1) ?_|refine Sc.h (c2) ?_|refine Sc.h (c3) ?_|(refine Sb.h ?_ ?_ ?_<;>(try intro hgd)<;>try exact Xy))<;>simp -implicitDefEqProofs (maxSteps:=2000000) [hP,hN,gx,g2,g3,g6,g7,g8,hb3,hb6,hb14,hlt,hw,p1,p2,p2',p3]<;>try refine Ya ?_)|refine X2 ?_ ?_|(refine Xd ?_ ?_<;>intro hcd<;>try exact Xx))
  all_goals simp[hsu]
 have hi':i=n:=by omega
 subst hi';have o5:yM t l i=(gD (de t l i).1 (de t l i).2 (aD (de t l i).1) l (aD (de t l i).1).length).1:=rfl;rw[o5];generalize(de t l i).1=d at *;generalize(de t l i).2=m at *;have cl:=KG d (by omega);have hle:=ve d
 with_reducible repeat' (first|refine Sp.h ?_|((first|refine Wd ?_|refine Ss.h ?_|refine Sc.h (cl) ?_|(refine Sb.h ?_ ?_ ?_<;>(try intro hgd)<;>try exact Xy))<;>simp -implicitDefEqProofs (maxSteps:=2000000) [hP,hN,g2,g3,g6,g7,g8,hb3,hb6,hb14,hlt]<;>try refine Ya ?_)|refine X2 ?_ ?_|(refine Xd ?_ ?_<;>intro hcd<;>try exact Xx))
 generalize hall:aD d=all at *;refine WP.loopN [] all.length (λk st=>st.t 3=.ptr 3 0∧st.t 6=.ptr 6 0∧st.t 7=.ptr 14 0∧st.t 11=.pv (ns all)∧st.t 12=.pv (Z k)∧st.h 3=some (.box [.pv (iv (gD d m all l k).1.root),.pv (.sl ((gD d m all l k).1.cells.map aW))] true false)∧st.h 6=some (.box [.pv (.val (.slice none 0 0)),.pv (.val (.slice none 0 0))] true false)∧st.h 14=some (.box [.pv (zs l),.pv (Z (gD d m all l k).2)] true false)) (by simp[gD,g2,g3,g6,g7,g8,hb3,hb6,hb14]) ?_;clear g2 g3 g6 g7 g8 hb3 hb6 hb14 st;rintro k st hk ⟨g3,g6,g7,g11,g12,hb3,hb6,hb14⟩;obtain⟨q1,q2,q3,q4,q5⟩:=CO m all l o1 k;by_cases hkl:k<all.length
 .have hw:=au hkl (by omega)
  have hsu:gD d m all l (k+1)=(dE (gD d m all l k).1 ((all[k]?.getD 0:Nat):Int) (mq (nx l (gD d m all l k).2 5)),nn l (gD d m all l k).2):=rfl;rw[List.getElem?_eq_getElem hkl,Option.getD_some]at hsu;generalize(gD d m all l k).1=u at *;generalize(gD d m all l k).2=r at *;have c1:=wZ l r 5 (by decide) (by omega);have c2:=OP (nx l r 5);have c3:=OR u ((all[k]:Nat):Int) (mq (nx l r 5)) (by omega)
  with_reducible repeat' (first|refine Sp.h ?_|((first|refine Wd ?_|refine Ss.h ?_|refine Sc.h (c1) ?_|refine Sc.h (c2) ?_|refine Sc.h (c3) ?_|(refine Sb.h ?_ ?_ ?_<;>(try intro hgd)<;>try exact Xy))<;>simp -implicitDefEqProofs (maxSteps:=2000000) [hP,hN,gx,g3,g6,g7,g11,g12,hb3,hb6,hb14,hkl,hw]<;>try refine Ya ?_)|refine X2 ?_ ?_|(refine Xd ?_ ?_<;>intro hcd<;>try exact Xx))
  all_goals simp[hsu]
 .have hk':k=all.length:=by omega
  subst hk'
  with_reducible repeat' (first|refine Sp.h ?_|((first|refine Wd ?_|refine Ss.h ?_|(refine Sb.h ?_ ?_ ?_<;>(try intro hgd)<;>try exact Xy))<;>simp -implicitDefEqProofs (maxSteps:=2000000) [hP,hN,gx,g3,g6,g7,g11,g12,hb3,hb6,hb14,hkl]<;>try refine Ya ?_)|refine X2 ?_ ?_|(refine Xd ?_ ?_<;>intro hcd<;>try exact Xx))
set_option maxRecDepth 10000 in
theorem d9(b:Bx)(l:List Int)(hb:b.length<=1000)(hv:bi vI b=true):aa Tryz.prog 9 [.pv (iv b),.pv (zs l)] [] [] (.pv (zs (mB b l))):=by
 have cf:=It l;have cm:=NP b (by omega)
 have hmid:mI b=b.map ic:=by simp[mI,hv]
 rw[hmid]at cm;refine Dp Tryz.func9 ?_;intro C hP hN;simp only[Tryz.f9]at hN|-
 with_reducible repeat' (first|refine Sp.h ?_|((first|refine Wh [6] ?_|refine Wi [6] ?_|refine Ss.h ?_|refine Sc.h (cf) ?_|(refine Sb.h ?_ ?_ ?_<;>(try intro hgd)<;>try exact Xy))<;>simp -implicitDefEqProofs (maxSteps:=2000000) [hP,hN,gx]<;>try refine Ya ?_)|refine X2 ?_ ?_|(refine Xd ?_ ?_<;>intro hcd<;>try exact Xx))
 refine WP.loopN [] b.length (λi st=>st.t 0=.pv (iv b)∧st.t 5=.ptr 9 0∧st.t 6=.arr 6 i∧st.t 7=.pv (Z i)∧st.h 9=some (.box [.pv (zs l),.pv (Z (fA l i))] true false)∧st.h 6=some (.row 2 1 (((mB b l).map Z).take i) 0)∧st.h 65=none) (by simp[fA]) ?_;rintro i st hi ⟨g0,g5,g6,g7,hb9,hb6,hb65⟩
 have hzT:min i (mB b l).length=i:=by rw[rt];omega
 by_cases hlt:i<b.length
 .have hw:=au hlt (by omega)
  have hm:=Jv l i;have l1:=lV l (fA l i);have hs:=Gj (l:=l) hlt;have hsn:fA l (i+1)=tU l (fA l i):=rfl;have hvx:=ej.1 (ey.1 hv _ (List.getElem_mem hlt));have hr:=ld l (fA l i) (k:=5) (by decide) (by decide);have hr2:=ld l (nn l (fA l i)) (k:=b[i].2-b[i].1+1) (by omega) (by omega);have c1:=wZ l (fA l i) 5 (by decide) (by omega);have c2:=wZ l (nn l (fA l i)) (b[i].2-b[i].1+1) (by omega) (by omega);have w1:IntKind.i64.wrap (b[i].2-b[i].1)=b[i].2-b[i].1:=ab;have w2:IntKind.i64.wrap (b[i].2-b[i].1+1)=b[i].2-b[i].1+1:=ab;have w3:IntKind.i64.wrap (b[i].1+nx l (nn l (fA l i)) (b[i].2-b[i].1+1))=b[i].1+nx l (nn l (fA l i)) (b[i].2-b[i].1+1):=ab
  have hA:(i+1)*8<=140737488355328:=by omega
  have hA':i+1<=9223372036854775807:=by omega
  by_cases k0:nx l (fA l i) 5=0
  .have e1:vb l (fA l i) b[i]=b[i].1:=by simp[vb,qu,k0]
   have e2:tU l (fA l i)=nn l (fA l i):=by simp[tU,qu,k0]
   rw[e1]at hs;rw[e2]at hsn;rw[k0]at c1
   with_reducible repeat' (first|refine Sp.h ?_|((first|refine Wd ?_|refine Ss.h ?_|refine Sc.h (c1) ?_|(refine Sb.h ?_ ?_ ?_<;>(try intro hgd)<;>try exact Xy))<;>simp -implicitDefEqProofs (maxSteps:=2000000) [hP,hN,gx,g0,g5,g6,g7,hb9,hb6,hb65,hlt,hw,hzT,hA,hA']<;>try refine Ya ?_)|refine X2 ?_ ?_|(refine Xd ?_ ?_<;>intro hcd<;>try exact Xx))
   all_goals exact⟨by rw[hsn],hs⟩
  by_cases k1:nx l (fA l i) 5=1
  .have e1:vb l (fA l i) b[i]=b[i].2:=by simp[vb,qu,k1]
   have e2:tU l (fA l i)=nn l (fA l i):=by simp[tU,qu,k1]
   rw[e1]at hs;rw[e2]at hsn;rw[k1]at c1
   with_reducible repeat' (first|refine Sp.h ?_|((first|refine Wd ?_|refine Ss.h ?_|refine Sc.h (c1) ?_|(refine Sb.h ?_ ?_ ?_<;>(try intro hgd)<;>try exact Xy))<;>simp -implicitDefEqProofs (maxSteps:=2000000) [hP,hN,gx,g0,g5,g6,g7,hb9,hb6,hb65,hlt,hw,hzT,hA,hA']<;>try refine Ya ?_)|refine X2 ?_ ?_|(refine Xd ?_ ?_<;>intro hcd<;>try exact Xx))
   all_goals exact⟨by rw[hsn],hs⟩
  by_cases k2:nx l (fA l i) 5=2
  .have e1:vb l (fA l i) b[i]=ic b[i]:=by simp[vb,qu,k2]
   have e2:tU l (fA l i)=nn l (fA l i):=by simp[tU,qu,k2]
   rw[e1]at hs;rw[e2]at hsn;rw[k2]at c1
   with_reducible repeat' (first|refine Sp.h ?_|((first|refine Wd ?_|refine Ss.h ?_|refine Sc.h (c1) ?_|refine Sc.h (cm) ?_|(refine Sb.h ?_ ?_ ?_<;>(try intro hgd)<;>try exact Xy))<;>simp -implicitDefEqProofs (maxSteps:=2000000) [hP,hN,gx,g0,g5,g6,g7,hb9,hb6,hb65,hlt,hw,hzT,hA,hA']<;>try refine Ya ?_)|refine X2 ?_ ?_|(refine Xd ?_ ?_<;>intro hcd<;>try exact Xx))
   all_goals exact⟨by rw[hsn],hs⟩
  have e1:vb l (fA l i) b[i]=b[i].1+nx l (nn l (fA l i)) (b[i].2-b[i].1+1):=by simp[vb,qu,k0,k1,k2]
  have e2:tU l (fA l i)=nn l (nn l (fA l i)):=by simp[tU,qu,k0,k1,k2]
  have k0':(nx l (fA l i) 5==0)=false:=by simp[k0]
  have k1':(nx l (fA l i) 5==1)=false:=by simp[k1]
  have k2':(nx l (fA l i) 5==2)=false:=by simp[k2]
  rw[e1]at hs;rw[e2]at hsn
  with_reducible repeat' (first|refine Sp.h ?_|((first|refine Wd ?_|refine Ss.h ?_|refine Sc.h (c1) ?_|refine Sc.h (c2) ?_|(refine Sb.h ?_ ?_ ?_<;>(try intro hgd)<;>try exact Xy))<;>simp -implicitDefEqProofs (maxSteps:=2000000) [hP,hN,gx,g0,g5,g6,g7,hb9,hb6,hb65,hlt,hw,hzT,hA,hA',k0',k1',k2',w1,w2,w3]<;>try refine Ya ?_)|refine X2 ?_ ?_|(refine Xd ?_ ?_<;>intro hcd<;>try exact Xx))
  all_goals exact⟨by rw[hsn],hs⟩
 .have hi':i=b.length:=by omega
  subst hi';have htk:((mB b l).map Z).take b.length=(mB b l).map Z:=List.take_of_length_le (by simp[rt]);refine GT (gA g0 (gA g5 (gA g6 (gA g7 (gA hb9 (gA hb6 (gA hb65 (gA hlt (gA hzT htk))))))))) ?_
  all_goals simp[rt]
theorem Jz(xs:List (Int))(hl:xs.length<=16777216):aa Tryz.prog 160 [.pv (.sl (xs.map Z))] [] [] (.pv (.sl (xs.map Z))):=by
 by_cases hx:xs=[]
 .subst hx
  refine Dp Tryz.func160 ?_;intro C hP hN;simp only[Tryz.f160]at hN|-;exact Ij [5] trivial
 .have hne:xs.isEmpty=false:=by simp[hx]
  refine Dp Tryz.func160 ?_;intro C hP hN;simp only[Tryz.f160]at hN|-;exact Ij [5] (gA hx (gA hne (gA (show xs.length*8<=140737488355328 by omega) (show xs.length<=9223372036854775807 by omega))))
theorem JA(xs:List (Int×Int))(hl:xs.length<=16777216):aa Tryz.prog 65 [.pv (.sl (xs.map aU))] [] [] (.pv (.sl (xs.map aU))):=by
 by_cases hx:xs=[]
 .subst hx
  refine Dp Tryz.func65 ?_;intro C hP hN;simp only[Tryz.f65]at hN|-;exact Ij [5] trivial
 .have hne:xs.isEmpty=false:=by simp[hx]
  refine Dp Tryz.func65 ?_;intro C hP hN;simp only[Tryz.f65]at hN|-;exact Ij [5] (gA hx (gA hne (gA (show xs.length*16<=140737488355328 by omega) (show xs.length<=9223372036854775807 by omega))))
theorem DT(f:Nat->α)(n:Nat):(List.range n).map f++[f n]=(List.range (n+1)).map f:=by simp[List.range_succ]
theorem NC(f:FuncId)(p:J->Int->Bool)(xs:List (J))(ys:List (Int))(hl:xs.length<=9223372036854775807)(hf:∀a b,aa Tryz.prog f [.pv (cW a),.pv (Z b)] [] [] (.pv (B (p a b)))):aa Tryz.prog 62 [.pv (.sl (xs.map cW)),.pv (.sl (ys.map Z)),.pv (Fv f)] [] [] (.pv (B (decide (xs.length=ys.length)&&fp p xs ys))):=by
 refine Dp Tryz.func62 ?_;intro C hP hN;simp only[Tryz.f62]at hN|-;by_cases he:xs.length=ys.length
 .skip
  refine Gz ?_;refine WP.loopN [8] xs.length (λi st=>st.t 0=.pv (.sl (xs.map cW))∧st.t 1=.pv (.sl (ys.map Z))∧st.t 2=.pv (Fv f)∧st.t 14=.pv (.sl (xs.map cW))∧st.t 15=.pv (Z xs.length)∧st.t 16=.pv (Z i)∧st.h 8=none∧fM p xs ys i=true) (by simp[fM,he]) ?_;rintro i st hi ⟨h0,h1,h2,h14,h15,h16,hb,hq⟩;by_cases hlt:i<xs.length
  .have hw:=au hlt hl
   have hlt':i<ys.length:=by omega
   have hF:p xs[i] ys[i]=false->fp p xs ys=false:=km hlt hlt';have hS:p xs[i] ys[i]=true->fM p xs ys (i+1)=true:=lr hlt hlt' hq
   with_reducible repeat' (first|refine Sp.h ?_|((first|refine Wd ?_|refine Ss.h ?_|refine Sc.h (hf _ _) ?_|(refine Sb.h ?_ ?_ ?_<;>(try intro hgd)<;>try exact Xy))<;>simp -implicitDefEqProofs (maxSteps:=2000000) [hP,hN,h0,h1,h2,h14,h15,h16,hb,hlt,hlt',hw]<;>try refine Ya ?_)|refine X2 ?_ ?_|(refine Xd ?_ ?_<;>intro hcd<;>try exact Xx))
   all_goals first|exact hF (by simpa using hcd)|simpa using hS (by simpa using hcd)
  .skip
   refine Gz ?_
   all_goals simp[he,lu hlt hq]
 .skip
  exact Gy
  all_goals simp[he]
theorem KY(f:FuncId)(p:J->Int×Int->Bool)(xs:List (J))(ys:List (Int×Int))(hl:xs.length<=9223372036854775807)(hf:∀a b,aa Tryz.prog f [.pv (cW a),.pv (aU b)] [] [] (.pv (B (p a b)))):aa Tryz.prog 117 [.pv (.sl (xs.map cW)),.pv (.sl (ys.map aU)),.pv (Fv f)] [] [] (.pv (B (decide (xs.length=ys.length)&&fp p xs ys))):=by
 refine Dp Tryz.func117 ?_;intro C hP hN;simp only[Tryz.f117]at hN|-;by_cases he:xs.length=ys.length
 .skip
  refine Gz ?_;refine WP.loopN [8] xs.length (λi st=>st.t 0=.pv (.sl (xs.map cW))∧st.t 1=.pv (.sl (ys.map aU))∧st.t 2=.pv (Fv f)∧st.t 14=.pv (.sl (xs.map cW))∧st.t 15=.pv (Z xs.length)∧st.t 16=.pv (Z i)∧st.h 8=none∧fM p xs ys i=true) (by simp[fM,he]) ?_;rintro i st hi ⟨h0,h1,h2,h14,h15,h16,hb,hq⟩;by_cases hlt:i<xs.length
  .have hw:=au hlt hl
   have hlt':i<ys.length:=by omega
   have hF:p xs[i] ys[i]=false->fp p xs ys=false:=km hlt hlt';have hS:p xs[i] ys[i]=true->fM p xs ys (i+1)=true:=lr hlt hlt' hq
   with_reducible repeat' (first|refine Sp.h ?_|((first|refine Wd ?_|refine Ss.h ?_|refine Sc.h (hf _ _) ?_|(refine Sb.h ?_ ?_ ?_<;>(try intro hgd)<;>try exact Xy))<;>simp -implicitDefEqProofs (maxSteps:=2000000) [hP,hN,h0,h1,h2,h14,h15,h16,hb,hlt,hlt',hw]<;>try refine Ya ?_)|refine X2 ?_ ?_|(refine Xd ?_ ?_<;>intro hcd<;>try exact Xx))
   all_goals first|exact hF (by simpa using hcd)|simpa using hS (by simpa using hcd)
  .skip
   refine Gz ?_
   all_goals simp[he,lu hlt hq]
 .skip
  exact Gy
  all_goals simp[he]
def Cl(j:J)(x:Int):Bool:=decide (j.lo<=x)&&decide (x<=j.hi)
def nM(j:J):Int×Int:=(j.lo,j.hi)
theorem ND(j:J)(x:Int):aa Tryz.prog 63 [.pv (cW j),.pv (Z x)] [] [] (.pv (B (Cl j x))):=by
 refine Dp Tryz.func63 ?_;intro C hP hN;simp only[Tryz.f63]at hN|-
 with_reducible repeat' (first|refine Sp.h ?_|((first|refine Ss.h ?_|(refine Sb.h ?_ ?_ ?_<;>(try intro hgd)<;>try exact Xy))<;>simp -implicitDefEqProofs (maxSteps:=2000000) [hP,hN])|refine X2 ?_ ?_|(refine Xd ?_ ?_<;>intro hcd<;>try exact Xx))
 all_goals (simp_all[Cl]<;>omega)
theorem Kp(j:J):aa Tryz.prog 68 [.pv (cW j)] [] [] (.pv (aU (nM j))):=by
 refine Dp Tryz.func68 ?_;intro C hP hN;simp only[Tryz.f68]at hN|-;refine Gz ?_
 all_goals simp[nM]
theorem KZ(j:J)(x:Int×Int):aa Tryz.prog 118 [.pv (cW j),.pv (aU x)] [] [] (.pv (B (oH x (nM j)))):=by
 refine Dp Tryz.func118 ?_;intro C hP hN;simp only[Tryz.f118]at hN|-
 with_reducible repeat' (first|refine Sp.h ?_|((first|refine Wd ?_|refine Ss.h ?_|refine Sc.h (Kp _) ?_|refine Sc.h (Ho x (j.lo,j.hi)) ?_|(refine Sb.h ?_ ?_ ?_<;>(try intro hgd)<;>try exact Xy))<;>simp -implicitDefEqProofs (maxSteps:=2000000) [hP,hN,nM]<;>try refine Ya ?_)|refine X2 ?_ ?_|(refine Xd ?_ ?_<;>intro hcd<;>try exact Xx))
def kl(js:List J)(ms:List Ms)(c:List Int):Bool:=decide (bF js ms=0)&&decide (js.length=c.length)&&fp Cl js c
theorem Kq(js:List J)(ms:List Ms)(c:List Int)(hl:js.length<=9223372036854775807)(hm:ms.length<=9223372036854775807):aa Tryz.prog 30 [.pv (ja js ms),.pv (zs c)] [] [] (.pv (B (kl js ms c))):=by
 have ce:=NC 63 Cl js c hl ND;by_cases hc:bF js ms=0
 .have hr:kl js ms c=(decide (js.length=c.length)&&fp Cl js c):=by simp[kl,hc]
  rw[hr];generalize(decide (js.length=c.length)&&fp Cl js c)=u at *;refine Dp Tryz.func30 ?_;intro C hP hN;simp only[Tryz.f30]at hN|-;have q1:=uV js ms hl hm;exact GS hc
 .have hr:kl js ms c=false:=by simp[kl,hc]
  have hcn:(bF js ms==0)=false:=by simp[hc]
  rw[hr];refine Dp Tryz.func30 ?_;intro C hP hN;simp only[Tryz.f30]at hN|-;have q1:=uV js ms hl hm;exact GS (gA hc hcn)
def aI(js:List J)(ms:List Ms):List (Int×Int):=if bF js ms=0 then js.map nM else[]
theorem Dl{ms:List Ms}(h:bF js ms=0):0<js.length∧js.length<=10:=by
 unfold bF at h;split at h
 .omega
 .omega
theorem NE(js:List J)(ms:List Ms)(hl:js.length<=9223372036854775807)(hm:ms.length<=9223372036854775807):aa Tryz.prog 32 [.pv (ja js ms)] [] [] (.pv (iv (aI js ms))):=by
 by_cases hc:bF js ms=0
 .have hlen:=Dl hc
  have cm:=NM 68 nM js (by omega) Kp
  have hr:aI js ms=js.map nM:=by simp[aI,hc]
  rw[hr];generalize js.map nM=u at *;refine Dp Tryz.func32 ?_;intro C hP hN;simp only[Tryz.f32]at hN|-;have q1:=uV js ms hl hm;exact GS hc
 .have hr:aI js ms=[]:=by simp[aI,hc]
  have hcn:(bF js ms !=0)=true:=by simp[hc]
  rw[hr];refine Dp Tryz.func32 ?_;intro C hP hN;simp only[Tryz.f32]at hN|-;have q1:=uV js ms hl hm;exact GS (gA hc hcn)
theorem IJ(js:List J)(ms:List Ms)(hl:js.length<=9223372036854775807)(hm:ms.length<=9223372036854775807):aa Tryz.prog 24 [.pv (ja js ms)] [] [] (.pv (iv (aI js ms))):=by
 by_cases hc:bF js ms=0
 .have hlen:=Dl hc
  have hcn:(bF js ms !=0)=false:=by simp[hc]
  have hr:aI js ms=js.map nM:=by simp[aI,hc]
  rw[hr];refine Dp Tryz.func24 ?_;intro C hP hN;simp only[Tryz.f24]at hN|-;have q1:=IE js ms hl hm;refine Ko [3] (gA hc hcn) ?_;refine WP.loopN [] js.length (λi st=>st.t 1=.ptr 1 0∧st.h 1=some (.box [.pv (.sl (js.map cW)),.pv (.sl (ms.map fc))] true false)∧st.t 4=.pv (Z i)∧st.t 3=.arr 3 i∧st.h 3=some (.row 65 2 ((js.map λj=>I j.lo j.hi).take i) 0)) (by simp) ?_;rintro i st hi ⟨g1,hb1,g4,g3,hb3⟩;by_cases hlt:i<js.length
  .have hw:=au hlt hl
   have hz:min i js.length=i:=by omega
   have hs:=zG (f:=λj:J=>I j.lo j.hi) hlt
   with_reducible repeat' (first|refine Sp.h ?_|((first|refine Wd ?_|refine Ss.h ?_|(refine Sb.h ?_ ?_ ?_<;>(try intro hgd)<;>try exact Xy))<;>simp -implicitDefEqProofs (maxSteps:=2000000) [hP,hN,g1,hb1,g4,g3,hb3,hlt,hw,hz,hs,show(i+1)*16<=140737488355328 by omega,show i+1<=9223372036854775807 by omega]<;>try refine Ya ?_)|refine X2 ?_ ?_|(refine Xd ?_ ?_<;>intro hcd<;>try exact Xx))
  .have hz:min i js.length=i:=by omega
   refine Gz ?_;have htd:List.take i (js.map λj=>I j.lo j.hi)=js.map λj=>I j.lo j.hi:=List.take_of_length_le (by simp;omega)
   first|exact htd|(simp only[List.map_map];exact htd)|(simp[nM];exact htd)
 .have hr:aI js ms=[]:=by simp[aI,hc]
  have hcn:(bF js ms !=0)=true:=by simp[hc]
  rw[hr];refine Dp Tryz.func24 ?_;intro C hP hN;simp only[Tryz.f24]at hN|-;have q1:=IE js ms hl hm;exact GS (gA hc hcn)
def lq(js:List J)(ms:List Ms)(b:List (Int×Int)):Bool:=decide (bF js ms=0)&&decide (js.length=b.length)&&fp (λj x=>oH x (nM j)) js b
theorem NF(js:List J)(ms:List Ms)(b:List (Int×Int))(hl:js.length<=9223372036854775807)(hm:ms.length<=9223372036854775807):aa Tryz.prog 71 [.pv (ja js ms),.pv (iv b)] [] [] (.pv (B (lq js ms b))):=by
 have ce:=KY 118 (λj x=>oH x (nM j)) js b hl KZ;by_cases hc:bF js ms=0
 .have hr:lq js ms b=(decide (js.length=b.length)&&fp (λj x=>oH x (nM j)) js b):=by simp[lq,hc]
  rw[hr];generalize(decide (js.length=b.length)&&fp (λj x=>oH x (nM j)) js b)=u at *;refine Dp Tryz.func71 ?_;intro C hP hN;simp only[Tryz.f71]at hN|-;have q1:=uV js ms hl hm;exact GS hc
 .have hr:lq js ms b=false:=by simp[lq,hc]
  have hcn:(bF js ms==0)=false:=by simp[hc]
  rw[hr];refine Dp Tryz.func71 ?_;intro C hP hN;simp only[Tryz.f71]at hN|-;have q1:=uV js ms hl hm;exact GS (gA hc hcn)
def pX(js:List J)(ms:List Ms)(b:List (Int×Int)):Bool:=decide (b.length=js.length)&&bi vI b&&decide (bF js ms=0)
def iS(js:List J)(ms:List Ms)(b:List (Int×Int)):Int:=if pX js ms b then(fX js b js.length).1 else -1
theorem AL{b:List (Int×Int)}(h1:i<js.length)(h2:i<b.length)(h:2<=cV b[i]∧(fX js b i).2<wr (js[i].w*cV b[i])):fX js b (i+1)=((i:Int),wr (js[i].w*cV b[i])):=by
 simp[fX,h1,h2,h]
theorem ut{b:List (Int×Int)}(h1:i<js.length)(h2:i<b.length)(h:¬(2<=cV b[i]∧(fX js b i).2<wr (js[i].w*cV b[i]))):fX js b (i+1)=fX js b i:=by
 simp only[fX,List.getElem?_eq_getElem h1,List.getElem?_eq_getElem h2];rw[if_neg h]
theorem AM(x:Int×Int):aa Tryz.prog 126 [.pv (aU x)] [] [] (.pv (Z (cV x))):=tr x.1 x.2
theorem NG(js:List J)(ms:List Ms)(b:List (Int×Int))(hl:js.length<=9223372036854775807)(hm:ms.length<=9223372036854775807)(hb:b.length<=9223372036854775807):aa Tryz.prog 77 [.pv (ja js ms),.pv (iv b)] [] [] (.pv (Z (iS js ms b))):=by
 cases hok:pX js ms b with
 |false=>
  have hr:iS js ms b=-1:=by simp[iS,hok]
  rw[hr];by_cases e1:b.length=js.length
  .have e1':((b.length:Int)!=js.length)=false:=by simp[e1]
   have hok':(bi vI b&&decide (bF js ms=0))=false:=by simpa[pX,e1]using hok
   refine Dp Tryz.func77 ?_;intro C hP hN;simp only[Tryz.f77]at hN|-
   with_reducible repeat' (first|refine Sp.h ?_|((first|refine Ss.h ?_|refine Sc.h (tv _ hb) ?_|refine Sc.h (uV js ms hl hm) ?_|(refine Sb.h ?_ ?_ ?_<;>(try intro hgd)<;>try exact Xy))<;>simp -implicitDefEqProofs (maxSteps:=2000000) [hP,hN,e1'])|refine X2 ?_ ?_|(refine Xd ?_ ?_<;>intro hcd<;>try exact Xx))
   all_goals simp_all
  .have e1':((b.length:Int)!=js.length)=true:=by simp;omega
   refine Dp Tryz.func77 ?_;intro C hP hN;simp only[Tryz.f77]at hN|-
   with_reducible repeat' (first|refine Sp.h ?_|((first|refine Ss.h ?_|refine Sc.h (tv _ hb) ?_|refine Sc.h (uV js ms hl hm) ?_|(refine Sb.h ?_ ?_ ?_<;>(try intro hgd)<;>try exact Xy))<;>simp -implicitDefEqProofs (maxSteps:=2000000) [hP,hN,e1'])|refine X2 ?_ ?_|(refine Xd ?_ ?_<;>intro hcd<;>try exact Xx))
 |true=>
  have hr:iS js ms b=(fX js b js.length).1:=by simp[iS,hok]
  rw[hr];simp only[pX,Bool.and_eq_true,decide_eq_true_eq]at hok;obtain⟨⟨e1,s1⟩,hc⟩:=hok
  have e1':((b.length:Int)!=js.length)=false:=by simp[e1]
  refine Dp Tryz.func77 ?_;intro C hP hN;simp only[Tryz.f77]at hN|-
  with_reducible repeat' (first|refine Sp.h ?_|((first|refine Ss.h ?_|refine Sc.h (tv _ hb) ?_|refine Sc.h (uV js ms hl hm) ?_|(refine Sb.h ?_ ?_ ?_<;>(try intro hgd)<;>try exact Xy))<;>simp -implicitDefEqProofs (maxSteps:=2000000) [hP,hN,e1',s1,hc])|refine X2 ?_ ?_|(refine Xd ?_ ?_<;>intro hcd<;>try exact Xx))
  refine WP.loopN [8] js.length (λi st=>st.t 2=.ptr 2 0∧st.h 2=some (.box [.pv (.sl (js.map cW)),.pv (.sl (ms.map fc))] true false)∧st.t 27=.pv (iv b)∧st.t 28=.pv (Z b.length)∧st.t 29=.pv (Z i)∧st.t 5=.pv (Z (fX js b i).1)∧st.t 6=.pv (Z (fX js b i).2)∧st.h 8=none) (by simp[fX]) ?_;rintro i st hi ⟨g2,hb2,g27,g28,g29,g5,g6,hb8⟩;by_cases hlt:i<js.length
  .have hw:=au hlt hl
   have hlb:i<b.length:=by omega
   by_cases h2:2<=cV b[i]
   .by_cases h3:(fX js b i).2<wr (js[i].w*cV b[i])
    .have hs:=AL hlt hlb ⟨h2,h3⟩
     with_reducible repeat' (first|refine Sp.h ?_|((first|refine Ss.h ?_|refine Sc.h (AM _) ?_|(refine Sb.h ?_ ?_ ?_<;>(try intro hgd)<;>try exact Xy))<;>simp -implicitDefEqProofs (maxSteps:=2000000) [hP,hN,g2,hb2,g27,g28,g29,g5,g6,hb8,hlt,hlb,hw,h2,h3])|refine X2 ?_ ?_|(refine Xd ?_ ?_<;>intro hcd<;>try exact Xx))
     all_goals simp[hs]
    .have hs:=ut hlt hlb (λh=>h3 h.2)
     have q1:=@AM;refine GT (gA g2 (gA hb2 (gA g27 (gA g28 (gA g29 (gA g5 (gA g6 (gA hb8 (gA hlt (gA hlb (gA hw (gA h2 h3)))))))))))) ?_
     all_goals simp[hs]
   .have hs:=ut hlt hlb (λh=>h2 h.1)
    have q1:=@AM;refine GT (gA g2 (gA hb2 (gA g27 (gA g28 (gA g29 (gA g5 (gA g6 (gA hb8 (gA hlt (gA hlb (gA hw h2))))))))))) ?_
    all_goals simp[hs]
  .have hi':i=js.length:=by omega
   subst hi'
   have hnb:¬js.length<b.length:=by omega
   exact Gy
theorem K0(js:List J)(ms:List Ms)(b:List (Int×Int))(hb:b.length<=9223372036854775807):aa Tryz.prog 115 [.pv (ja js ms),.pv (iv b)] [] [] (.pv (B (decide (b.length=js.length)&&bi vI b))):=by
 refine Dp Tryz.func115 ?_;intro C hP hN;simp only[Tryz.f115]at hN|-
 with_reducible repeat' (first|refine Sp.h ?_|((first|refine Ss.h ?_|refine Sc.h (lU _ hb) ?_|(refine Sb.h ?_ ?_ ?_<;>(try intro hgd)<;>try exact Xy))<;>simp -implicitDefEqProofs (maxSteps:=2000000) [hP,hN])|refine X2 ?_ ?_|(refine Xd ?_ ?_<;>intro hcd<;>try exact Xx))
 all_goals (simp_all<;>omega)
theorem NH(js:List J)(ms:List Ms)(b:List (Int×Int))(hl:js.length<=9223372036854775807)(hm:ms.length<=9223372036854775807)(hb:b.length<=9223372036854775807):aa Tryz.prog 59 [.pv (ja js ms),.pv (iv b)] [] [] (.pv (Z (iS js ms b))):=by
 have ci:=K0 js ms b hb
 cases hok:pX js ms b with
 |false=>
  have hr:iS js ms b=-1:=by simp[iS,hok]
  rw[hr];by_cases hc:bF js ms=0
  .have hcn:(bF js ms !=0)=false:=by simp[hc]
   have hok':(decide (b.length=js.length)&&bi vI b)=false:=by simpa[pX,hc]using hok
   rw[hok']at ci;refine Dp Tryz.func59 ?_;intro C hP hN;simp only[Tryz.f59]at hN|-;have q1:=IE js ms hl hm;exact GS (gA hc hcn)
  .have hcn:(bF js ms !=0)=true:=by simp[hc]
   refine Dp Tryz.func59 ?_;intro C hP hN;simp only[Tryz.f59]at hN|-;have q1:=IE js ms hl hm;exact GS hcn
 |true=>
  have hr:iS js ms b=(fX js b js.length).1:=by simp[iS,hok]
  rw[hr];simp only[pX,Bool.and_eq_true,decide_eq_true_eq]at hok;obtain⟨⟨e1,s1⟩,hc⟩:=hok
  have hok':(decide (b.length=js.length)&&bi vI b)=true:=by simp[e1,s1]
  rw[hok']at ci;refine Dp Tryz.func59 ?_;intro C hP hN;simp only[Tryz.f59]at hN|-;have q1:=IE js ms hl hm;refine GT hc ?_;refine WP.loopN [] js.length (λi st=>st.t 1=.pv (iv b)∧st.t 2=.ptr 2 0∧st.h 2=some (.box [.pv (.sl (js.map cW)),.pv (.sl (ms.map fc))] true false)∧st.t 7=.pv (Z i)∧st.t 5=.pv (Z (fX js b i).1)∧st.t 6=.pv (Z (fX js b i).2)) (by simp[fX]) ?_;rintro i st hi ⟨g1,g2,hb2,g7,g5,g6⟩;by_cases hlt:i<js.length
  .have hw:=au hlt hl
   have hlb:i<b.length:=by omega
   have hvx:aC b[i].1 b[i].2=true:=o8.1 s1 _ (List.getElem_mem hlb)
   have hwd:IntKind.i64.wrap (b[i].2-b[i].1)=cV b[i]:=by rw[cV,hvx];rfl
   have hcm:cV b[i]*js[i].w=js[i].w*cV b[i]:=Int.mul_comm _ _;by_cases h2:2<=cV b[i]
   .by_cases h3:(fX js b i).2<IntKind.i64.wrap (js[i].w*cV b[i])
    .have hs:=AL hlt hlb ⟨h2,h3⟩
     exact Gy
     all_goals simp[hs]
    .have hs:=ut hlt hlb (λh=>h3 h.2)
     exact Gy
     all_goals simp[hs]
   .have hs:=ut hlt hlb (λh=>h2 h.1)
    exact Gy
    all_goals simp[hs]
  .have hi':i=js.length:=by omega
   subst hi'
   have hnb:¬js.length<b.length:=by omega
   exact Gy
abbrev DX(cs:List Cel)(bs:List Bx)(op:List Bool):PV:=.agg [.sl (cs.map aW),.sl (bs.map iv),.sl (op.map B)]
def mP(k sort:Int)(o:Bool):Bool:=if sort=0 then k==1 else if sort=1 then(k==1||(k==0&&o))else if sort=2 then(k==1||(k==0&& !o))else k !=2
def mu(cs:List Cel)(op:List Bool)(sort:Int)(i:Nat):Bool:=match cs[i]? with
 |some c=>cO c&&mP c.v.kind sort (op[i]?.getD false)
 |none=>false
theorem M7(cs:List Cel)(bs:List Bx)(op:List Bool)(i:Nat)(sort:Int)(hi:i<cs.length)(ho:op.length=cs.length):aa Tryz.prog 104 [.pv (DX cs bs op),.pv (Z i),.pv (Z sort)] [] [] (.pv (B (mu cs op sort i))):=by
 generalize hc:cs[i]=c at *
 have hci:cs[i]?=some c:=by rw[List.getElem?_eq_getElem hi,hc]
 have hio:i<op.length:=by omega
 have hoi:op[i]?=some op[i]:=List.getElem?_eq_getElem hio
 have hm:mu cs op sort i=(cO c&&mP c.v.kind sort op[i]):=by simp[mu,hci,hoi]
 rw[hm];generalize hoo:op[i]=o at *;have cl:=E4 c
 cases hlf:cO c with
 |false=>
  rw[hlf]at cl;refine Dp Tryz.func104 ?_;intro C hP hN;simp only[Tryz.f104]at hN|-;exact Gy
 |true=>
  rw[hlf]at cl;by_cases s0:sort=0
  .subst s0
   refine Dp Tryz.func104 ?_;intro C hP hN;simp only[Tryz.f104]at hN|-;refine Gz ?_
   all_goals simp[mP]
  by_cases s1:sort=1
  .subst s1
   by_cases k1:c.v.kind=1
   .have k1':(c.v.kind==1)=true:=by simp[k1]
    refine Dp Tryz.func104 ?_;intro C hP hN;simp only[Tryz.f104]at hN|-;refine GT (gA hi (gA hci (gA hc (gA hio (gA hoi k1'))))) ?_
    all_goals simp[mP,k1]
   have k1':(c.v.kind==1)=false:=by simp[k1]
   by_cases k0:c.v.kind=0
   .have k0':(c.v.kind==0)=true:=by simp[k0]
    refine Dp Tryz.func104 ?_;intro C hP hN;simp only[Tryz.f104]at hN|-
    with_reducible repeat' (first|refine Sp.h ?_|((first|refine Ss.h ?_|refine Sc.h (cl) ?_|(refine Sb.h ?_ ?_ ?_<;>(try intro hgd)<;>try exact Xy))<;>simp -implicitDefEqProofs (maxSteps:=2000000) [hP,hN,hi,hci,hc,hio,hoi,k1',k0'])|refine X2 ?_ ?_|(refine Xd ?_ ?_<;>intro hcd<;>try exact Xx))
    all_goals simp[mP,k0,hoo]
   have k0':(c.v.kind==0)=false:=by simp[k0]
   refine Dp Tryz.func104 ?_;intro C hP hN;simp only[Tryz.f104]at hN|-;refine Gz ?_
   all_goals simp[mP,k1,k0]
  by_cases s2:sort=2
  .subst s2
   by_cases k1:c.v.kind=1
   .have k1':(c.v.kind==1)=true:=by simp[k1]
    refine Dp Tryz.func104 ?_;intro C hP hN;simp only[Tryz.f104]at hN|-;refine GT (gA hi (gA hci (gA hc (gA hio (gA hoi k1'))))) ?_
    all_goals simp[mP,k1]
   have k1':(c.v.kind==1)=false:=by simp[k1]
   by_cases k0:c.v.kind=0
   .have k0':(c.v.kind==0)=true:=by simp[k0]
    refine Dp Tryz.func104 ?_;intro C hP hN;simp only[Tryz.f104]at hN|-
    with_reducible repeat' (first|refine Sp.h ?_|((first|refine Ss.h ?_|refine Sc.h (cl) ?_|(refine Sb.h ?_ ?_ ?_<;>(try intro hgd)<;>try exact Xy))<;>simp -implicitDefEqProofs (maxSteps:=2000000) [hP,hN,hi,hci,hc,hio,hoi,k1',k0'])|refine X2 ?_ ?_|(refine Xd ?_ ?_<;>intro hcd<;>try exact Xx))
    all_goals simp[mP,k0,hoo]
   have k0':(c.v.kind==0)=false:=by simp[k0]
   refine Dp Tryz.func104 ?_;intro C hP hN;simp only[Tryz.f104]at hN|-;refine Gz ?_
   all_goals simp[mP,k1,k0]
  have e0:(sort==0)=false:=by simp[s0]
  have e1:(sort==1)=false:=by simp[s1]
  have e2:(sort==2)=false:=by simp[s2]
  refine Dp Tryz.func104 ?_;intro C hP hN;simp only[Tryz.f104]at hN|-;refine Gz ?_
  all_goals simp[mP,s0,s1,s2]
def ff(bs:List Bx)(i:Nat):Bx:=bs[i]?.getD []
def aw(bs:List Bx)(p:List Int)(i:Nat):Bool:=jz (ff bs i) p
def eA(bs:List Bx)(i j:Nat):Bool:=eo (ff bs i) (ff bs j)
theorem oN{n:Nat}{may has:Nat->Bool}{tch:Nat->Nat->Bool}{s:BS}(h:BInv2 n may has tch s)(hi:i<n):s.far[i]?=some (am s.far i):=by
 have:i<s.far.length:=by rw[h.len];exact hi
 simp[am,List.getElem?_eq_getElem this]
theorem G7{s:BS}(h:k<s.q.length):s.q[k]?=some (bB s k):=by simp[bB,List.getElem?_eq_getElem h]
theorem Kd{s:BS}(h:k<s.q.length):bB s k∈s.q:=List.mem_of_getElem? (G7 h)
set_option maxRecDepth 10000 in
theorem OU(cs:List Cel)(bs:List Bx)(op:List Bool)(p q:List Int)(sort:Int)(hn:cs.length<=2048)(hb:bs.length=cs.length)(ho:op.length=cs.length)(hbx:∀b∈bs,b.length<=9223372036854775807)(hp:p.length<=9223372036854775807)(hq:q.length<=9223372036854775807)(hsym:∀i j,i<cs.length->j<cs.length->eA bs i j=eA bs j i):aa Tryz.prog 53 [.pv (DX cs bs op),.pv (zs p),.pv (zs q),.pv (Z sort)] [] [] (.pv (.tup [ns (dQ cs.length (mu cs op sort) (aw bs q) (aw bs p) (eA bs)),B (bU cs.length (mu cs op sort) (aw bs q) (aw bs p) (eA bs))])):=by
 have hbg:∀i,i<cs.length->bs[i]?=some (ff bs i)∧(ff bs i).length<=9223372036854775807:=λi hi=>by
  have hib:i<bs.length:=by omega
  have e:bs[i]?=some (ff bs i):=by simp[ff,List.getElem?_eq_getElem hib]
  exact⟨e,hbx _ (List.mem_of_getElem? e)⟩
 have cm:=λi hi=>M7 cs bs op i sort hi ho;have chp:=λ(i:Nat)(hi:i<cs.length)=>GM (ff bs i) p (hbg i hi).2 hp;have chq:=λ(i:Nat)(hi:i<cs.length)=>GM (ff bs i) q (hbg i hi).2 hq;have cto:=λ(i j:Nat)(hi:i<cs.length)(hj:j<cs.length)=>Lr (ff bs i) (ff bs j) (hbg i hi).2 (hbg j hj).2;simp only[Co]at chp chq;simp only[Ev]at cto;have chp':∀i,i<cs.length->aa Tryz.prog 52 [.pv (iv (ff bs i)),.pv (zs p)] [] [] (.pv (B (aw bs p i))):=chp;have chq':∀i,i<cs.length->aa Tryz.prog 52 [.pv (iv (ff bs i)),.pv (zs q)] [] [] (.pv (B (aw bs q i))):=chq;have cto':∀i j,i<cs.length->j<cs.length->aa Tryz.prog 105 [.pv (iv (ff bs i)),.pv (iv (ff bs j))] [] [] (.pv (B (eA bs i j))):=cto;clear chp chq cto;generalize mu cs op sort=may at *;generalize aw bs p=hasF at *;generalize aw bs q=has at *;generalize eA bs=tch at *;generalize hnn:cs.length=n at *
 have hbn:∀i,i<n->i<bs.length:=λi hi=>by omega
 have hbg':∀i(hi:i<n),bs[i]'(hbn i hi)=ff bs i:=λi hi=>aT (hbg i hi).1 (hbn i hi);refine Dp Tryz.func53 ?_;intro C hP hN;simp only[Tryz.f53]at hN|-;refine Ko [12] (gA hnn (gA (show(8:Int)*n<=281474976710656 by omega) (gA (show(n:Int)<=281474976710656 by omega) (show(n:Int)<=9223372036854775807 by omega)))) ?_;refine WP.loopN [] n (λi st=>st.t 1=.pv (zs p)∧st.t 2=.pv (zs q)∧st.t 3=.pv (Z sort)∧st.t 4=.ptr 4 0∧st.t 10=.pv (Z n)∧st.t 11=.arr 25 n∧st.t 12=.arr 12 (bI n may has i).q.length∧st.t 13=.pv (Z i)∧st.h 4=some (.box [.pv (.sl (cs.map aW)),.pv (.sl (bs.map iv)),.pv (.sl (op.map B))] true false)∧st.h 142=none∧st.h 12=some (.row 3 1 ((bI n may has i).q.map zN) 0)∧st.h 25=some (.row 3 1 ((bI n may has i).far.map Z) 0)) (by simp[bI]) ?_;rintro i st hi ⟨g1,g2,g3,g4,g10,g11,g12,g13,hb4,hb142,hb12,hb25⟩;obtain⟨hI,hIz⟩:=pL (n:=n) (may:=may) (has:=has) (tch:=tch) i hi;have hle:=hI.le;have hfl:=hI.len;by_cases hlt:i<n
 .have hw:=au hlt (by omega)
  have hib:=hbn i hlt;have hbi:=(hbg i hlt).1;have hbi':=hbg' i hlt
  have hsu:bI n may has (i+1)=if may i&&has i then⟨(bI n may has i).far.set i 1,(bI n may has i).q++[i]⟩else bI n may has i:=rfl
  generalize bI n may has i=s at *;have c1:=cm i hlt;have c2:=chq' i hlt
  cases hm:may i with
  |false=>
   rw[hm]at c1;rw[hm,Bool.false_and,if_neg (by simp)]at hsu;exact Gy
   all_goals simp[hsu]
  |true=>
   rw[hm]at c1
   cases hh:has i with
   |false=>
    rw[hh]at c2;rw[hm,hh,if_neg (by simp)]at hsu;exact Gy
    all_goals simp[hsu]
   |true=>
    rw[hh]at c2;rw[hm,hh,if_pos (by simp)]at hsu
    with_reducible repeat' (first|refine Sp.h ?_|((first|refine Wd ?_|refine Ss.h ?_|refine Sc.h (c1) ?_|refine Sc.h (c2) ?_|(refine Sb.h ?_ ?_ ?_<;>(try intro hgd)<;>try exact Xy))<;>simp -implicitDefEqProofs (maxSteps:=2000000) [hP,hN,g1,g2,g3,g4,g10,g11,g12,g13,hb4,hb142,hb12,hb25,hlt,hw,hib,hbi,hbi',hfl,show(s.q.length+1)*8<=140737488355328 by omega,show s.q.length+1<=9223372036854775807 by omega]<;>try refine Ya ?_)|refine X2 ?_ ?_|(refine Xd ?_ ?_<;>intro hcd<;>try exact Xx))
    all_goals (simp[hsu,List.map_set])
 have hi':i=n:=by omega
 subst hi';refine Gz ?_;clear hIz hfl hle hI;refine WP.loopN [] i (λk st=>st.t 1=.pv (zs p)∧st.t 2=.pv (zs q)∧st.t 3=.pv (Z sort)∧st.t 4=.ptr 4 0∧st.t 10=.pv (Z i)∧st.t 11=.arr 25 i∧st.t 12=.arr 12 (bK i may has tch k).q.length∧st.t 14=.pv (Z k)∧st.h 4=some (.box [.pv (.sl (cs.map aW)),.pv (.sl (bs.map iv)),.pv (.sl (op.map B))] true false)∧st.h 142=none∧st.h 12=some (.row 3 1 ((bK i may has tch k).q.map zN) 0)∧st.h 25=some (.row 3 1 ((bK i may has tch k).far.map Z) 0)∧(k<=(bK i may has tch k).q.length)) (by simp[bK,g1,g2,g3,g4,g10,g11,g12,hb4,hb142,hb12,hb25]) ?_;clear g1 g2 g3 g4 g10 g11 g12 g13 hb4 hb142 hb12 hb25 st hi hlt;rintro k st hk ⟨g1,g2,g3,g4,g10,g11,g12,g14,hb4,hb142,hb12,hb25,hkq⟩;have hI:=mt (n:=i) (may:=may) (has:=has) (tch:=tch) k;by_cases hlt:k<(bK i may has tch k).q.length
 .have hle:=hI.le
  have hki:k<i:=by omega
  have hwk:IntKind.i64.wrap ((k:Int)+1)=(k:Int)+1:=ab
  have hsk:bK i may has tch (k+1)=bJ may tch (bK i may has tch k) k i:=by simp only[bK];rw[if_pos hlt]
  rw[hsk];generalize hS:bK i may has tch k=S at *
  with_reducible repeat' (first|refine Sp.h ?_|((first|refine Wd ?_|refine Ss.h ?_|(refine Sb.h ?_ ?_ ?_<;>(try intro hgd)<;>try exact Xy))<;>simp -implicitDefEqProofs (maxSteps:=2000000) [hP,hN,g1,g2,g3,g4,g10,g11,g12,g14,hb4,hb142,hb12,hb25,hlt]<;>try refine Ya ?_)|refine X2 ?_ ?_|(refine Xd ?_ ?_<;>intro hcd<;>try exact Xx))
  refine WP.loopN [] i (λj st=>st.t 1=.pv (zs p)∧st.t 2=.pv (zs q)∧st.t 3=.pv (Z sort)∧st.t 4=.ptr 4 0∧st.t 10=.pv (Z i)∧st.t 11=.arr 25 i∧st.t 12=.arr 12 (bJ may tch S k j).q.length∧st.t 14=.pv (Z k)∧st.t 15=.pv (Z j)∧st.h 4=some (.box [.pv (.sl (cs.map aW)),.pv (.sl (bs.map iv)),.pv (.sl (op.map B))] true false)∧st.h 142=none∧st.h 12=some (.row 3 1 ((bJ may tch S k j).q.map zN) 0)∧st.h 25=some (.row 3 1 ((bJ may tch S k j).far.map Z) 0)) (by simp[bJ,g1,g2,g3,g4,g10,g11,g12,g14,hb4,hb142,hb12,hb25]) ?_;rintro j st' hj ⟨y1,y2,y3,y4,y10,y11,y12,y14,y15,yb4,yb142,yb12,yb25⟩;obtain⟨hJ,hJl,hJq⟩:=xR hI hlt j hj;have hJle:=hJ.le;have hJf:=hJ.len;by_cases hjl:j<i
  .have hwj:=au hjl (by omega)
   have hsu:bJ may tch S k (j+1)=if vd may tch (bJ may tch S k j) k j then lB (bJ may tch S k j) k j else bJ may tch S k j:=rfl
   generalize bJ may tch S k j=T at *;have hfj:=oN hJ hjl
   have hfjl:j<T.far.length:=by omega
   have hfj':=aT hfj hfjl
   have hkT:k<T.q.length:=by omega
   have hqk:=G7 hkT;have hqk':=aT hqk hkT;have hqm:=hJ.mem _ (Kd hkT);have hQn:=hqm.1;have hff:=oN hJ hqm.1
   have hffl:bB T k<T.far.length:=by omega
   have hff':=aT hff hffl;have hcj:vd may tch T k j=((am T.far j==0)&&may j&&tch j (bB T k)):=rfl;have hjs:lB T k j=⟨T.far.set j (am T.far (bB T k)+1),T.q++[j]⟩:=rfl;have htop:=hJ.top (bB T k);have hnn':=hJ.nn (bB T k);have hwf:IntKind.i64.wrap (am T.far (bB T k)+1)=am T.far (bB T k)+1:=ab;generalize am T.far (bB T k)=fk at *;generalize hqq:bB T k=Q at *;have c1:=cm j hjl;have c2:=cto' j Q hjl hqm.1;have hib:=hbn j hjl;have hbi:=(hbg j hjl).1;have hbi':=hbg' j hjl;have hQb:=hbn Q hqm.1;have hQi:=(hbg Q hqm.1).1;have hQi':=hbg' Q hqm.1;by_cases h0:am T.far j=0
   .have h0':(am T.far j==0)=true:=by simp[h0]
    cases hm:may j with
    |false=>
     rw[hm]at c1;rw[hcj,hm,Bool.and_false,Bool.false_and,if_neg (by simp)]at hsu;refine GT (gA y1 (gA y2 (gA y3 (gA y4 (gA y10 (gA y11 (gA y12 (gA y14 (gA y15 (gA yb4 (gA yb142 (gA yb12 (gA yb25 (gA hjl (gA hwj (gA hfj (gA hfj' (gA hfjl (gA hJf h0'))))))))))))))))))) ?_
     all_goals simp[hsu]
    |true=>
     rw[hm]at c1
     cases ht:tch j Q with
     |false=>
      rw[ht]at c2;rw[hcj,ht,Bool.and_false,if_neg (by simp)]at hsu;refine GT (gA y1 (gA y2 (gA y3 (gA y4 (gA y10 (gA y11 (gA y12 (gA y14 (gA y15 (gA yb4 (gA yb142 (gA yb12 (gA yb25 (gA hjl (gA hwj (gA hfj (gA hfj' (gA hfjl (gA hJf (gA h0' (gA hqk (gA hqk' (gA hkT (gA hib (gA hbi (gA hbi' (gA hQb (gA hQi (gA hQi' (gA hff (gA hff' hffl))))))))))))))))))))))))))))))) ?_
      all_goals simp[hsu]
     |true=>
      rw[ht]at c2;rw[hcj,ht,hm,h0',if_pos (by simp),hjs]at hsu;refine GT (gA y1 (gA y2 (gA y3 (gA y4 (gA y10 (gA y11 (gA y12 (gA y14 (gA y15 (gA yb4 (gA yb142 (gA yb12 (gA yb25 (gA hjl (gA hwj (gA hfj (gA hfj' (gA hfjl (gA hJf (gA h0' (gA hqk (gA hqk' (gA hkT (gA hib (gA hbi (gA hbi' (gA hQb (gA hQi (gA hQi' (gA hff (gA hff' (gA hffl (gA hQn (gA hwf (gA (show(T.q.length+1)*8<=140737488355328 by omega) (show T.q.length+1<=9223372036854775807 by omega)))))))))))))))))))))))))))))))))))) ?_
      all_goals (simp[hsu,List.map_set])
   .have h0':(am T.far j==0)=false:=by simp[h0]
    rw[hcj,h0',Bool.false_and,Bool.false_and,if_neg (by simp)]at hsu;refine GT (gA y1 (gA y2 (gA y3 (gA y4 (gA y10 (gA y11 (gA y12 (gA y14 (gA y15 (gA yb4 (gA yb142 (gA yb12 (gA yb25 (gA hjl (gA hwj (gA hfj (gA hfj' (gA hfjl (gA hJf h0'))))))))))))))))))) ?_
    all_goals simp[hsu]
  .have hj':j=i:=by omega
   subst hj';refine GT (gA y1 (gA y2 (gA y3 (gA y4 (gA y10 (gA y11 (gA y12 (gA y14 (gA y15 (gA yb4 (gA yb142 (gA yb12 (gA yb25 (gA hjl hwk)))))))))))))) ?_
   all_goals exact⟨hki,by omega⟩
 .have hst:bK i may has tch i=bK i may has tch k:=by
   have:=CP hlt (i-k);rw[show k+(i-k)=i by omega]at this;exact this
  have hbest:kA i may has hasF tch=aS (bK i may has tch k).far hasF i:=by unfold kA;rw[hst]
  have hbl:dQ i may has hasF tch=if bU i may has hasF tch then(List.range (am (bK i may has tch k).far (kA i may has hasF tch).toNat).toNat).map (pS i (bK i may has tch k).far tch (kA i may has hasF tch).toNat)else[]:=by unfold dQ;rw[hst]
  generalize hS:bK i may has tch k=S at *;have hSf:=hI.len;have hSle:=hI.le
  with_reducible repeat' (first|refine Sp.h ?_|((first|refine Wd ?_|refine Ss.h ?_|(refine Sb.h ?_ ?_ ?_<;>(try intro hgd)<;>try exact Xy))<;>simp -implicitDefEqProofs (maxSteps:=2000000) [hP,hN,g1,g2,g3,g4,g10,g11,g12,g14,hb4,hb142,hb12,hb25,hlt]<;>try refine Ya ?_)|refine X2 ?_ ?_|(refine Xd ?_ ?_<;>intro hcd<;>try exact Xx))
  refine WP.loopN [] i (λj st=>st.t 1=.pv (zs p)∧st.t 4=.ptr 4 0∧st.t 10=.pv (Z i)∧st.t 11=.arr 25 i∧st.h 4=some (.box [.pv (.sl (cs.map aW)),.pv (.sl (bs.map iv)),.pv (.sl (op.map B))] true false)∧st.h 25=some (.row 3 1 (S.far.map Z) 0)∧st.t 16=.pv (Z (aS S.far hasF j))∧st.t 17=.pv (Z j)∧st.h 142=none) (by simp[aS,g1,g4,g10,g11,hb4,hb142,hb25]) ?_;clear g1 g2 g3 g4 g10 g11 g12 g14 hb4 hb142 hb12 hb25 st;rintro j st hj ⟨g1,g4,g10,g11,hb4,hb25,g16,g17,hb142⟩;have hA:=ru (hasF:=hasF) (far:=S.far) j;by_cases hjl:j<i
  .have hwj:=au hjl (by omega)
   have hfj:=oN hI hjl
   have hfjl:j<S.far.length:=by omega
   have hfj':=aT hfj hfjl;have c2:=chp' j hjl;have hib:=hbn j hjl;have hbi:=(hbg j hjl).1;have hbi':=hbg' j hjl
   have hsu:aS S.far hasF (j+1)=if decide (0<am S.far j)&&hasF j&&(decide (aS S.far hasF j<0)||decide (am S.far j<am S.far (aS S.far hasF j).toNat))then(j:Int)else aS S.far hasF j:=rfl
   generalize aS S.far hasF j=A at *;by_cases h0:0<am S.far j
   .cases hh:hasF j with
    |false=>
     rw[hh]at c2;rw[hh,Bool.and_false,Bool.false_and,if_neg (by simp)]at hsu;refine GT (gA g1 (gA g4 (gA g10 (gA g11 (gA hb4 (gA hb25 (gA g16 (gA g17 (gA hb142 (gA hjl (gA hwj (gA hfj (gA hfj' (gA hfjl (gA hSf (gA h0 (gA hib (gA hbi hbi')))))))))))))))))) ?_
     all_goals simp[hsu]
    |true=>
     rw[hh]at c2;by_cases hA0:A<0
     .rw[hh,if_pos (by simp[h0,hA0])]at hsu
      refine GT (gA g1 (gA g4 (gA g10 (gA g11 (gA hb4 (gA hb25 (gA g16 (gA g17 (gA hb142 (gA hjl (gA hwj (gA hfj (gA hfj' (gA hfjl (gA hSf (gA h0 (gA hib (gA hbi (gA hbi' hA0))))))))))))))))))) ?_
      all_goals simp[hsu]
     .have hA1:0<=A:=by omega
      have hA2:A.toNat<i:=by omega
      have hA3:A.toNat<S.far.length:=by omega
      have hfa:=oN hI hA2;have hfa':=aT hfa hA3;by_cases hlt2:am S.far j<am S.far A.toNat
      .rw[hh,if_pos (by simp[h0,hlt2])]at hsu
       refine GT (gA g1 (gA g4 (gA g10 (gA g11 (gA hb4 (gA hb25 (gA g16 (gA g17 (gA hb142 (gA hjl (gA hwj (gA hfj (gA hfj' (gA hfjl (gA hSf (gA h0 (gA hib (gA hbi (gA hbi' (gA hA0 (gA hA1 (gA hA2 (gA hA3 (gA hfa (gA hfa' hlt2))))))))))))))))))))))))) ?_
       all_goals simp[hsu]
      .rw[hh,if_neg (by simp[hlt2];omega)]at hsu
       refine GT (gA g1 (gA g4 (gA g10 (gA g11 (gA hb4 (gA hb25 (gA g16 (gA g17 (gA hb142 (gA hjl (gA hwj (gA hfj (gA hfj' (gA hfjl (gA hSf (gA h0 (gA hib (gA hbi (gA hbi' (gA hA0 (gA hA1 (gA hA2 (gA hA3 (gA hfa (gA hfa' hlt2))))))))))))))))))))))))) ?_
       all_goals simp[hsu]
   .rw[if_neg (by simp[h0])]at hsu
    refine GT (gA g1 (gA g4 (gA g10 (gA g11 (gA hb4 (gA hb25 (gA g16 (gA g17 (gA hb142 (gA hjl (gA hwj (gA hfj (gA hfj' (gA hfjl (gA hSf h0))))))))))))))) ?_
    all_goals simp[hsu]
  have hj':j=i:=by omega
  subst hj';rw[hbl];unfold bU;rw[hbest];generalize hAA:aS S.far hasF j=A at *;by_cases hA0:A<0
  .have hno:decide (0<=A)=false:=by simp;omega
   rw[hno,if_neg (by simp)];exact Gy
  obtain⟨a,rfl⟩:=Int.eq_ofNat_of_zero_le (show 0<=A by omega)
  have hyes:decide (0<=(a:Int))=true:=by simp
  rw[hyes,if_pos rfl,Int.toNat_natCast]
  have hal:a<j:=by omega
  have hapos:0<am S.far a:=by have:=(hA.2.2 (by omega)).1;rwa [Int.toNat_natCast]at this
  have hatop:=hI.top a;have hps:=uE hI hsym hal hapos;refine Ko [142] (gA g1 (gA g4 (gA g10 (gA g11 (gA hb4 (gA hb25 (gA g16 (gA g17 (gA hb142 (gA hjl hA0)))))))))) ?_;refine WP.loopN [] (am S.far a-1).toNat (λr st=>st.t 1=.pv (zs p)∧st.t 4=.ptr 4 0∧st.t 10=.pv (Z j)∧st.t 11=.arr 25 j∧st.h 4=some (.box [.pv (.sl (cs.map aW)),.pv (.sl (bs.map iv)),.pv (.sl (op.map B))] true false)∧st.h 25=some (.row 3 1 (S.far.map Z) 0)∧st.t 16=.pv (Z (pS j S.far tch a r))∧st.t 18=.arr 142 (r+1)∧st.h 142=some (.row 3 1 (((List.range (r+1)).map (pS j S.far tch a)).map zN) 0)) (by simp[pS,g1,g4,g10,g11,hb4,hb25,g16]) ?_;clear g1 g4 g10 g11 hb4 hb142 hb25 g16 g17 st;rintro r st hr ⟨g1,g4,g10,g11,hb4,hb25,g16,g18,hb142⟩;obtain⟨u1,u2⟩:=hps r (by omega);have hsx:pS j S.far tch a (r+1)=zB j S.far tch (pS j S.far tch a r):=rfl;have hrg:(List.range (r+1)).map (pS j S.far tch a)++[pS j S.far tch a (r+1)]=(List.range (r+2)).map (pS j S.far tch a):=DT _ (r+1);have hfp:=oN hI u1
  have hfpl:pS j S.far tch a r<S.far.length:=by omega
  have hfp':=aT hfp hfpl;by_cases hrl:r<(am S.far a-1).toNat
  .have hgt:1<am S.far (pS j S.far tch a r):=by omega
   obtain⟨x1,x2,x3,x4⟩:=xS hI hsym u1 hgt;have hwn:IntKind.i64.wrap ((j:Int)-1)=(j:Int)-1:=ab;rw[hsx]at hrg|-;generalize hPP:pS j S.far tch a r=P at *;refine Gz ?_;refine WP.loopN [] j (λm st=>st.t 1=.pv (zs p)∧st.t 4=.ptr 4 0∧st.t 10=.pv (Z j)∧st.t 11=.arr 25 j∧st.h 4=some (.box [.pv (.sl (cs.map aW)),.pv (.sl (bs.map iv)),.pv (.sl (op.map B))] true false)∧st.h 25=some (.row 3 1 (S.far.map Z) 0)∧st.t 16=.pv (Z P)∧st.t 18=.arr 142 (r+1)∧st.t 19=.pv (Z (nS j S.far tch P m))∧st.t 20=.pv (Z ((j:Int)-1-m))∧st.h 142=some (.row 3 1 (((List.range (r+1)).map (pS j S.far tch a)).map zN) 0)) (by simp[nS,g1,g4,g10,g11,hb4,hb25,g16,g18,hb142]) ?_;clear g1 g4 g10 g11 hb4 hb142 hb25 g16 g18 st;rintro m st hm ⟨g1,g4,g10,g11,hb4,hb25,g16,g18,g19,g20,hb142⟩;by_cases hml:m<j
   .obtain⟨y,hy⟩:∃y:Nat,y=j-1-m:=⟨_,rfl⟩
    have hyZ:(j:Int)-1-m=(y:Int):=by omega
    have hyl:y<j:=by omega
    rw[hyZ]at g20
    have hwm:IntKind.i64.wrap ((y:Int)-1)=(j:Int)-1-((m:Int)+1):=by rw[show(j:Int)-1-((m:Int)+1)=(y:Int)-1 by omega];exact ab (by omega) (by omega)
    have hsu:nS j S.far tch P (m+1)=if nC S.far tch P y then(y:Int)else nS j S.far tch P m:=by simp only[nS];rw[<-hy]
    have hnC:nC S.far tch P y=((am S.far y==am S.far P-1)&&tch y P):=rfl;have hfy:=oN hI hyl
    have hfyl:y<S.far.length:=by omega
    have hfy':=aT hfy hfyl;have hwp:IntKind.i64.wrap (am S.far P-1)=am S.far P-1:=ab;have hib:=hbn y hyl;have hbi:=(hbg y hyl).1;have hbi':=hbg' y hyl;have hQb:=hbn P u1;have hQi:=(hbg P u1).1;have hQi':=hbg' P u1;have c2:=cto' y P hyl u1
    cases hce:(am S.far y==am S.far P-1)with
    |false=>
     rw[hnC,hce,Bool.false_and,if_neg (by simp)]at hsu;refine GT (gA g1 (gA g4 (gA g10 (gA g11 (gA hb4 (gA hb25 (gA g16 (gA g18 (gA g19 (gA g20 (gA hb142 (gA hml (gA hyl (gA hwm (gA hfy (gA hfy' (gA hfyl (gA hfp (gA hfp' (gA hfpl (gA u1 (gA hSf (gA hwp hce))))))))))))))))))))))) ?_
     all_goals simp[hsu]
    |true=>
     cases ht:tch y P with
     |false=>
      rw[ht]at c2;rw[hnC,ht,Bool.and_false,if_neg (by simp)]at hsu;refine GT (gA g1 (gA g4 (gA g10 (gA g11 (gA hb4 (gA hb25 (gA g16 (gA g18 (gA g19 (gA g20 (gA hb142 (gA hml (gA hyl (gA hwm (gA hfy (gA hfy' (gA hfyl (gA hfp (gA hfp' (gA hfpl (gA u1 (gA hSf (gA hwp (gA hce (gA hib (gA hbi (gA hbi' (gA hQb (gA hQi hQi'))))))))))))))))))))))))))))) ?_
      all_goals simp[hsu]
     |true=>
      rw[ht]at c2;rw[hnC,ht,hce,if_pos (by simp)]at hsu;refine GT (gA g1 (gA g4 (gA g10 (gA g11 (gA hb4 (gA hb25 (gA g16 (gA g18 (gA g19 (gA g20 (gA hb142 (gA hml (gA hyl (gA hwm (gA hfy (gA hfy' (gA hfyl (gA hfp (gA hfp' (gA hfpl (gA u1 (gA hSf (gA hwp (gA hce (gA hib (gA hbi (gA hbi' (gA hQb (gA hQi hQi'))))))))))))))))))))))))))))) ?_
      all_goals simp[hsu]
   .have hm':m=j:=by omega
    subst hm'
    have hng:¬(0:Int)<=(m:Int)-1-m:=by omega
    rw[x1]at g19;refine GT (gA g1 (gA g4 (gA g10 (gA g11 (gA hb4 (gA hb25 (gA g16 (gA g18 (gA g19 (gA g20 (gA hb142 (gA hng (gA (show(r+1+1)*8<=140737488355328 by omega) (show r+1+1<=9223372036854775807 by omega)))))))))))))) ?_
    all_goals exact⟨by omega,by simpa using congrArg (List.map zN) hrg⟩
  .have hr':r+1=(am S.far a).toNat:=by omega
   have hgt:¬1<am S.far (pS j S.far tch a r):=by omega
   rw[hr']at hb142 g18;exact Gy
theorem xL(hv:ay t=true):∀i j,i<t.cells.length->j<t.cells.length->eA (ao t) i j=eA (ao t) j i:=by
 have key:∀{a b:Bx},bi vI a=true->bi vI b=true->eo a b=true->eo b a=true:=by
  intro a b ha hb h;obtain⟨h1,h2⟩:=(zA ha hb).1 h;exact(zA hb ha).2 ⟨h1.symm,λi x y hx hy=>(h2 i y x hy hx).symm⟩
 intro i j hi hj;have hbl:=eN hv
 have h1:(ao t)[i]?=some (ff (ao t) i):=by simp[ff,List.getElem?_eq_getElem (by omega:i<(ao t).length)]
 have h2:(ao t)[j]?=some (ff (ao t) j):=by simp[ff,List.getElem?_eq_getElem (by omega:j<(ao t).length)]
 have k1:=key (gJ h1).2 (gJ h2).2;have k2:=key (gJ h2).2 (gJ h1).2;simp only[eA]at *
 cases h:eo (ff (ao t) i) (ff (ao t) j)with
 |true=>rw[k1 h]
 |false=>
  cases h':eo (ff (ao t) j) (ff (ao t) i)with
  |true=>rw[k2 h']at h;cases h
  |false=>rfl
theorem BA(hv:ay t=true){c:Cel}(hc:t.cells[i]?=some c):decide (c.low=-1)=cO c:=by
 obtain⟨L,hL⟩:=Option.isSome_iff_exists.1 hv
 have hp:=j9 (P:=λk _=>i<k->decide (c.low=-1)=cO c) hL (by intro h;omega) (λk d M M' hk hp hm hi=>by
  by_cases e:k=i
  .subst e
   rw[hc]at hk;injection hk with hk;subst hk;obtain⟨b,hb,⟨h1,_,_⟩|⟨h1,h2,_⟩⟩:=gC hm
   .rw[h1];simp[cO]at h1;simp[h1]
   .rw[h1]
    have:=fN.1 h2;simp;omega
  .exact hp (by omega))
 exact hp (List.getElem?_eq_some_iff.1 hc).1
theorem gt{C:Cx}{hn:List Nat}{ops:Array Oper}{Q:St->Prop}{Q':Exit->Act->World->Prop}{rest:List Oper}(hQ:∀st a w,eO C st a w->Q st->wpList C.P ops Q' rest a w):
 ∀{l:List Oper}{st:St}{a:Act}{w:World},eO C st a w->cU C.P hn C.N ops Q l st->wpList C.P ops Q' (l++rest) a w
 |[],st,a,w,hs,e=>hQ st a w hs e
 |o::l,st,a,w,hs,e=>by
  obtain⟨L,hm,hN,hdf,ht⟩:=hs;rw[cU.eq_2]at e;obtain⟨hd,e⟩:=e;rw[List.cons_append];refine wpList_step (λK hK=>?_);split at e
  .rename_i hg
   rw[dB ht (mU hg),if_pos rfl];exact um hm hN hdf ht hd e (λeff a' w' hk hsim=>hK _ _ (gt hQ hsim hk))
  .rename_i d b want hg
   rw[dB ht (kJ hg)];unfold uJ at e;simp only at e;split at e
   .rename_i hgt
    subst hgt;rw[if_pos (by simp)];exact um hm hN hdf ht hd e (λeff a' w' hk hsim=>hK _ _ (gt hQ hsim hk))
   .rename_i hgt
    rw[if_neg (by simpa using hgt)];exact hK _ _ (gt hQ (eO.put hm hN hdf ht hd (W:=[]) (aG.refl hm) (.pv (.val _))) e)
  .exact e.elim
theorem nW{w w':World}{L:Nat->Loc}(hp:Pres w M w' M')(hx:RepA w M L h x u):
 RepA w' M' L (λk=>if ks.contains k=true then none else(h k).map (bm ks)) (aq ks x) u:=
 (y6 hx).mono hp Ce
def rekey(h:Hp)(ks:List Nat)(k:Nat)(blk:Blk):Hp:=λq=>if q=k then some blk else if ks.contains q=true then none else(h q).map (bm ks)
def St.rekey(st:St)(ks:List Nat)(k:Nat)(blk:Blk):St:=⟨λn=>aq ks (st.t n),Go.Ab.rekey st.h ks k blk⟩
theorem pM(hq:rekey h ks k blk q=some b):(q=k∧b=blk)∨(q≠k∧q∉ks∧∃b0,h q=some b0∧b=bm ks b0):=by
 unfold rekey at hq;split at hq
 .rename_i e;injection hq with hq;exact .inl ⟨e,hq.symm⟩
 .rename_i e
  split at hq
  .cases hq
  .rename_i hc
   simp only[Option.map_eq_some_iff]at hq;obtain⟨b0,h1,h2⟩:=hq;exact .inr ⟨e,by simpa using hc,b0,h1,h2.symm⟩
theorem rv(b:Blk)(l:Loc):(bm ks b).live l=b.live l:=by cases b<;>rfl
theorem yN(b:Blk)(o:Nat):(bm ks b).frz o=b.frz o:=by cases b<;>rfl
theorem yP(h:dT C k l b):dT C k l (bm ks b):=by
 cases b with
 |box cs own fz=>cases own<;>exact h
 |row=>exact h
 |mp=>exact h
section
variable {C:Cx} {L:Nat->Loc} {h:Hp} {w:World}
theorem MemL.retake(hm:MemL C L h w){e sz m:Nat}{xs:List PV}(hk:h k=some (.row e sz xs 0)):
 MemL C L (rekey h [k] k (.row e sz (xs.take m) 0)) w∧∀x u,RepA w (ag C L h) L h x u->RepA w (ag C L (rekey h [k] k (.row e sz (xs.take m) 0))) L (rekey h [k] k (.row e sz (xs.take m) 0)) (aq [k] x) u:=by
 have hM:∀b o,ag C L (rekey h [k] k (.row e sz (xs.take m) 0)) b o->ag C L h b o:=by
  rintro b o (h0|⟨q,blk,hq,hl,hb,hf⟩)
  .exact .inl h0
  .rcases pM hq with⟨rfl,rfl⟩|⟨_,_,b0,h1,rfl⟩
   .exact .inr ⟨q,_,hk,hl,hb,hf⟩
   .rw[rv]at hl;rw[yN]at hf
    exact .inr ⟨q,b0,h1,hl,hb,hf⟩
 have hp:=Pres.sub (w:=w) hM
 have hkc:KC L (λq=>if[k].contains q=true then none else(h q).map (bm [k])) L (rekey h [k] k (.row e sz (xs.take m) 0)):=by
  intro q blk hq;simp only at hq;split at hq
  .cases hq
  .rename_i hc
   have hne:q≠k:=by simpa using hc
   refine⟨blk,?_,bW _ _⟩;simp only[rekey,if_neg hne,if_neg hc];exact hq
 have hrep:∀x u,RepA w (ag C L h) L h x u->RepA w (ag C L (rekey h [k] k (.row e sz (xs.take m) 0))) L (rekey h [k] k (.row e sz (xs.take m) 0)) (aq [k] x) u:=
  λx u hx=>(nW (ks:=[k]) hp hx).mono (Pres.refl _ _) hkc
 refine⟨⟨hm.ext,hm.m0,?_,?_,?_⟩,hrep⟩
 .intro q blk hq
  rcases pM hq with⟨rfl,rfl⟩|⟨_,_,b0,h1,rfl⟩
  .obtain⟨g1,g2,g3,g4,g5⟩:=hm.bl q _ hk
   refine⟨g1,Nat.zero_le _,λx hx=>g3 x (List.mem_of_mem_take hx),λhn=>by rw[g4 hn];simp,λhn=>?_⟩;obtain⟨a1,a2,arr,a3,a4,a5⟩:=g5 hn;refine⟨by rw[List.length_take];omega,a2,arr,a3,a4,λi x j p hx hj=>?_⟩;rw[List.getElem?_take]at hx;split at hx
   .obtain⟨u,hu,hr⟩:=a5 i x j p hx hj
    exact⟨u,hu,hr.mono hp⟩
   .cases hx
  .have:=hm.bl q b0 h1
   cases b0 with
   |box cs own fz=>
    obtain⟨arr,ty,e1,e2⟩:=this;refine⟨arr,ty,e1,by simpa using e2.1,λi p u hp' hu=>?_⟩;simp only[List.getElem?_map,Option.map_eq_some_iff]at hp';obtain⟨y,hy,rfl⟩:=hp';exact hrep _ _ (e2.2 i y u hy hu)
   |row e' sz' ys fz=>
    obtain⟨a1,a2,a3,a4,a5⟩:=this;refine⟨a1,a2,a3,a4,λhn=>?_⟩;obtain⟨b1,b2,arr,b3,b4,b5⟩:=a5 hn;exact⟨b1,b2,arr,b3,b4,λi x j p hx hj=>by obtain⟨u,hu,hr⟩:=b5 i x j p hx hj;exact⟨u,hu,hr.mono hp⟩⟩
   |mp kd n es fz=>exact this
 .intro q q' b1 b2 hne hq hq' hl hl'
  have aux:∀{q b},rekey h [k] k (.row e sz (xs.take m) 0) q=some b->b.live (L q)->∃b0,h q=some b0∧b0.live (L q):=by
   intro q b hq hl;rcases pM hq with⟨rfl,rfl⟩|⟨_,_,b0,h1,rfl⟩
   .exact⟨_,hk,hl⟩
   .rw[rv]at hl;exact⟨b0,h1,hl⟩
  obtain⟨c1,d1,f1⟩:=aux hq hl;obtain⟨c2,d2,f2⟩:=aux hq' hl';exact hm.sep q q' c1 c2 hne d1 d2 f1 f2
 .intro q blk hq
  rcases pM hq with⟨rfl,rfl⟩|⟨_,_,b0,h1,rfl⟩
  .have h9:=hm.own q _ hk;exact h9
  .exact yP (hm.own q b0 h1)
end
section
variable {C:Cx} {Q:Exit->St->Prop} {st:St}
theorem jl{a:Act}(hg:o.guard=none):Region.wanted o (yielded ops a.tmps)=true:=by
 unfold Region.wanted;rw[hg]
end
attribute [simp] St.rekey rekey
def ke(ren:Nat->Nat):AV->AV
 |.ptr k off=>.ptr (ren k) off
 |.arr k n=>.arr (ren k) n
 |x=>x
def xV(ren:Nat->Nat):AV->AV
 |.agg cs=>.agg (cs.map (ke ren))
 |x=>ke ren x
def k8(K:List Nat):AV->Bool
 |.pv _=>true
 |.ptr k _=>K.contains k
 |.arr k _=>K.contains k
 |_=>false
def B6(K:List Nat):AV->Bool
 |.agg cs=>cs.all (k8 K)
 |x=>k8 K x
def bt:List (Nat×Blk)->Hp
 |[]=>λ_=>none
 |(k,b)::r=>λq=>if q=k then some b else bt r q
def gP(ren:Nat->Nat)(own:Bool):Blk->Blk
 |.box cs _ _=>.box (cs.map (ke ren)) own false
 |b=>b
def iM(K:List Nat)(k:Nat):Blk->Bool
 |.box cs own fz=>cs.all (k8 K)&& !own&& !fz&&decide (1000000<=k)&&decide (k<2000000)
 |.row _ _ _ fz=>decide (fz=0)&&decide (2000000<=k)
 |.mp _ _ _ _=>false
def rx:Blk->Blk->Bool
 |.box _ _ _,.box _ _ _=>true
 |.row e sz xs _,.row e' sz' xs' _=>e==e'&&sz==sz'&&xs.length==xs'.length
 |_,_=>false
theorem ed(h:bt G k=some b):(k,b)∈G:=by
 induction G with
 |nil=>cases h
 |cons x r ih=>
  obtain⟨k',b'⟩:=x;simp only[bt]at h;split at h
  .rename_i e;injection h with h;subst e;subst h;exact List.mem_cons_self
  .exact List.mem_cons_of_mem _ (ih h)
theorem jK(hn:(G.map (·.1)).Nodup)(h:(k,b)∈G):bt G k=some b:=by
 induction G with
 |nil=>cases h
 |cons x r ih=>
  obtain⟨k',b'⟩:=x;simp only[bt];rw[List.map_cons,List.nodup_cons]at hn;rcases List.mem_cons.1 h with e|e
  .injection e with e1 e2;subst e1;subst e2;rw[if_pos rfl]
  .have hne:k≠k':=by
    rintro rfl;exact hn.1 (List.mem_map.2 ⟨(k,b),e,rfl⟩)
   rw[if_neg hne];exact ih hn.2 e
section
variable {w:World} {M M':Nat->Nat->Prop} {L L':Nat->Loc} {h h':Hp} {ren:Nat->Nat} {K:List Nat}
theorem pN(hM:∀b o,M' b o->M b o)(hk:∀k∈K,∀blk,h (ren k)=some blk->∃blk',h' k=some blk'∧dg blk (L (ren k)) blk' (L' k))(ho:k8 K x=true)(hx:RepA w M L h (ke ren x) u):RepA w M' L' h' x u:=by
 cases x with
 |pv p=>cases hx with
  |pv hr=>exact .pv (hr.mono (Pres.sub hM))
 |ptr k off=>
  cases hx with
  |ptr hb=>
   obtain⟨blk',h1,h2⟩:=hk k (by simpa[k8]using ho) _ hb
   cases blk' with
   |row=>exact h2.elim
   |mp=>exact h2.elim
   |box cs own fz=>
    have h2:(L' k).b=(L (ren k)).b:=h2;rw[<-h2];exact .ptr h1
 |arr k n=>
  cases hx with
  |arr hb hn hu=>
   obtain⟨blk',h1,h2⟩:=hk k (by simpa[k8]using ho) _ hb
   cases blk' with
   |box=>exact h2.elim
   |mp=>exact h2.elim
   |row e sz xs fz=>
    obtain⟨_,_,a2,a3⟩:=h2;refine .arr h1 (by omega) (λe=>?_);have:xs.length=_:=Nat.le_antisymm (by omega) a2;rw[a3 this];exact hu (by omega)
 |_=>cases ho
theorem Fb(hM:∀b o,M' b o->M b o)(hk:∀k∈K,∀blk,h (ren k)=some blk->∃blk',h' k=some blk'∧dg blk (L (ren k)) blk' (L' k))(ho:B6 K x=true)(hx:RepA w M L h (xV ren x) u):RepA w M' L' h' x u:=by
 cases x with
 |agg cs=>
  cases hx with
  |agg _ vs hl hh=>
   refine .agg cs vs (by simpa using hl) (λi p u hp hu=>?_);exact pN hM hk (List.all_eq_true.1 ho p (List.mem_of_getElem? hp)) (hh i _ u (by simp[hp]) hu)
 |_=>exact pN hM hk ho hx
theorem CR(hM:∀b o,M' b o->M b o)(hk:∀k∈K,∀blk,h' k=some blk->∃blk',h (ren k)=some blk'∧dg blk (L' k) blk' (L (ren k)))(ho:k8 K x=true)(hx:RepA w M L' h' x u):RepA w M' L h (ke ren x) u:=by
 cases x with
 |pv p=>cases hx with
  |pv hr=>exact .pv (hr.mono (Pres.sub hM))
 |ptr k off=>
  cases hx with
  |ptr hb=>
   obtain⟨blk',h1,h2⟩:=hk k (by simpa[k8]using ho) _ hb
   cases blk' with
   |row=>exact h2.elim
   |mp=>exact h2.elim
   |box cs own fz=>
    have h2:(L (ren k)).b=(L' k).b:=h2;rw[<-h2];exact .ptr h1
 |arr k n=>
  cases hx with
  |arr hb hn hu=>
   obtain⟨blk',h1,h2⟩:=hk k (by simpa[k8]using ho) _ hb
   cases blk' with
   |box=>exact h2.elim
   |mp=>exact h2.elim
   |row e sz xs fz=>
    obtain⟨_,_,a2,a3⟩:=h2;refine .arr h1 (by omega) (λe=>?_);have:xs.length=_:=Nat.le_antisymm (by omega) a2;rw[a3 this];exact hu (by omega)
 |_=>cases ho
end
def zJ(G:List (Nat×Blk))(L:Nat->Loc)(b:Nat):Prop:=∃k blk,bt G k=some blk∧blk.live (L k)∧b=(L k).b
structure OkG(G G':List (Nat×Blk)):Prop where
 keys:G'.map (·.1)=G.map (·.1)
 nodup:(G.map (·.1)).Nodup
 okin:∀k b,(k,b)∈G->iM (G.map (·.1)) k b=true
 okout:∀k b,(k,b)∈G'->iM (G.map (·.1)) k b=true
 same:∀k b b',bt G k=some b->bt G' k=some b'->rx b b'=true
def CS(P:Program)(f:FuncId)(args:List AV)(G G':List (Nat×Blk))(res:PV):Prop:=
 bZ P f=true∧OkG G G'∧∀(w:World)(M:Nat->Nat->Prop)(L:Nat->Loc)(vs:List Value),(∀b o,M b o->b<w.heap.size)->
  (∀k blk,bt G k=some blk->blk.live (L k)->∀o,M (L k).b o)->
  (∀k k' blk blk',k≠k'->bt G k=some blk->bt G k'=some blk'->blk.live (L k)->blk'.live (L k')->(L k).b≠(L k').b)->
  (∀k blk,bt G k=some blk->db w M L (bt G) (L k) blk)->aB w M L (bt G) args vs->
  Calls P f vs.toArray w λe w'=>∃v,e=.returned v∧Ext (zJ G L) w w'∧(∀k blk,bt G' k=some blk->db w' M L (bt G') (L k) blk)∧Rep w' M res v
def Gu(args:List AV)(G:List (Nat×Blk)):St:=⟨λn=>(args[n]?).getD .undef,bt G⟩
def zZ(P:Program)(rs:List ResultVar)(G':List (Nat×Blk))(res:PV)(st:St):Prop:=
 oD res=true∧(∃r,kK P st rs=some r∧∃W,frz st.h r=some (res,W))∧∀kb∈G',st.h kb.1=some kb.2
def Fc(P:Program)(rs:List ResultVar)(G':List (Nat×Blk))(res:PV):Exit->St->Prop
 |.normal,st=>zZ P rs G' res st
 |.ret,st=>zZ P rs G' res st
 |_,_=>False
@[simp] theorem JE:Fc P rs G' res .normal st=zZ P rs G' res st:=rfl
@[simp] theorem KH:Fc P rs G' res .ret st=zZ P rs G' res st:=rfl
theorem B7{f:FuncId}{fn:Func}(hf:P.funcs[f]?=some fn)(hb:fn.body=some c)(hcall:bZ P f=true)(hlen:args.length<=fn.ntmps)(hok:OkG G G')
 (h:∀C:Cx,C.P=P->C.N=fn.ntmps->WP C c (Fc P fn.results.toList G' res) (Gu args G)):CS P f args G G' res:=by
 refine⟨hcall,hok,λw M L vs hM hlv hsep hbl hvs=>?_⟩;have okin:∀{k blk},bt G k=some blk->iM (G.map (·.1)) k blk=true:=λhk=>hok.okin _ _ (ed hk);have okout:∀{k blk},bt G' k=some blk->iM (G.map (·.1)) k blk=true:=λhk=>hok.okout _ _ (ed hk)
 have hnd':(G'.map (·.1)).Nodup:=by rw[hok.keys];exact hok.nodup
 have hinout:∀{k blk},bt G k=some blk->∃blk',bt G' k=some blk':=by
  intro k blk hk
  have hm:k∈G'.map (·.1):=by rw[hok.keys];exact List.mem_map.2 ⟨_,ed hk,rfl⟩
  obtain⟨⟨k',b'⟩,h1,h2⟩:=List.mem_map.1 hm;simp only at h2;subst h2;exact⟨b',jK hnd' h1⟩
 have houtin:∀{k blk},bt G' k=some blk->∃blk',bt G k=some blk':=by
  intro k blk hk
  have hm:k∈G.map (·.1):=by rw[<-hok.keys];exact List.mem_map.2 ⟨_,ed hk,rfl⟩
  obtain⟨⟨k',b'⟩,h1,h2⟩:=List.mem_map.1 hm;simp only at h2;subst h2;exact⟨b',jK hok.nodup h1⟩
 let rowB:Nat->Prop:=λb=>∃k e sz xs fz,bt G k=some (.row e sz xs fz)∧(L k).isNil=false∧b=(L k).b
 let C:Cx:={P:=P,N:=fn.ntmps,M0:=λb o=>M b o∧¬rowB b,S:=zJ G L,pb:=λk=>some (L k).b,pr:=λk=>if 2000000<=k then some (L k)else none,hpr:=(λk hk=>by rw[if_neg (by omega)]),w0:=w}
 have hMst:∀b o,ag C L (bt G) b o↔M b o:=by
  intro b o;constructor
  .rintro(h0|⟨k,blk,hk,hl,hbb,_⟩)
   .exact h0.1
   .rw[<-hbb];exact hlv k blk hk hl o
  .intro hm
   by_cases hr:rowB b
   .obtain⟨k,e,sz,xs,fz,hk,hn,rfl⟩:=hr
    refine .inr ⟨k,_,hk,hn,rfl,?_⟩;have:=okin hk;simp only[iM,Bool.and_eq_true,decide_eq_true_eq]at this;rw[this.1];simp[Blk.frz]
   .exact .inl ⟨hm,hr⟩
 have hMeq:ag C L (bt G)=M:=by funext b o;exact propext (hMst b o)
 have hvl:=hvs.1
 have hsim:eO C (Gu args G) {tmps:=vs.toArray++Array.replicate (fn.ntmps-vs.toArray.size) undef,defers:=[]} w:=by
  refine⟨L,⟨Ext.refl _ _,λb o h0=>hM b o h0.1,?_,hsep,?_⟩,by show(vs.toArray++Array.replicate (fn.ntmps-vs.toArray.size) undef).size=fn.ntmps;simp;omega,iO.nil _,λn=>?_⟩
  .intro k blk hk
   show db w (ag C L (bt G)) L (bt G) (L k) blk;rw[hMeq];exact hbl k blk hk
  .intro k blk hk
   have ho:=okin hk
   cases blk with
   |mp=>cases ho
   |box cs own fz=>
    simp only[iM,Bool.and_eq_true,Bool.not_eq_true',decide_eq_true_eq]at ho;obtain⟨⟨⟨⟨_,h1⟩,h2⟩,h3⟩,h4⟩:=ho;subst h1;subst h2;refine⟨rfl,rfl,⟨k,_,hk,trivial,rfl⟩,?_,λo=>⟨hlv k _ hk trivial o,?_⟩⟩
    .exact(hbl k _ hk).lt trivial
    .rintro⟨k',e,sz,xs,fz,hk',hn',he⟩
     by_cases e':k=k'
     .subst e';rw[show bt G k=_ from hk]at hk';cases hk'
     .exact hsep k k' _ _ e' hk hk' trivial hn' he
   |row e sz xs fz=>
    simp only[iM,Bool.and_eq_true,decide_eq_true_eq]at ho;show dT C k (L k) _;have hpr:C.pr k=some (L k):=if_pos ho.2;unfold dT;simp only;rw[hpr];exact⟨rfl,λhn=>⟨⟨k,_,hk,hn,rfl⟩,λo h9=>h9.2 ⟨k,e,sz,xs,fz,hk,hn,rfl⟩⟩⟩
  .show RepA w (ag C L (bt G)) L (bt G) ((args[n]?).getD .undef) _
   rw[hMeq]
   cases hp:args[n]? with
   |none=>exact .undef _
   |some p=>
    have hlt:n<vs.length:=by rw[<-hvl];exact(List.getElem?_eq_some_iff.1 hp).1
    have hget:(vs.toArray++Array.replicate (fn.ntmps-vs.toArray.size) undef).getD n undef=vs[n]:=by
     rw[Array.getD_eq_getD_getElem?,Array.getElem?_append_left (by simpa using hlt)];simp[hlt]
    simp only[hget];exact hvs.2 n p _ hp (List.getElem?_eq_getElem hlt)
 refine calls_of_wp_defers hf hb (wp_mono (h C rfl rfl _ w hsim) ?_)
 have hfin:∀(a':Act) w' st',eO C st' a' w'->zZ P fn.results.toList G' res st'->iO P a'.defers∧∃v,(results fn a'.tmps).run P w'=.ok v w'∧
  ∃v',Ending.returned v=.returned v'∧Ext (zJ G L) w w'∧(∀k blk,bt G' k=some blk->db w' M L (bt G') (L k) blk)∧Rep w' M res v':=by
  rintro a' w' st' ⟨L',hm,hN,hdf,ht⟩ ⟨hml,⟨r,hr,W,hW⟩,hpb⟩;obtain⟨u,hu1,hu2⟩:=lO (C:=C) hm ht hr;have hpb':∀{k blk},bt G' k=some blk->st'.h k=some blk:=λhk=>hpb _ (ed hk)
  have hLr:∀{k e sz xs fz},bt G' k=some (.row e sz xs fz)->L' k=L k:=by
   intro k e sz xs fz hk;have ho:=okout hk;simp only[iM,Bool.and_eq_true,decide_eq_true_eq]at ho;have how:=hm.own k _ (hpb' hk);have hpr:C.pr k=some (L k):=if_pos ho.2;simp only[dT,hpr]at how;exact how.1
  have hLb:∀{k cs own fz},bt G' k=some (.box cs own fz)->(L' k).b=(L k).b:=by
   intro k cs own fz hk;have ho:=okout hk;simp only[iM,Bool.and_eq_true,Bool.not_eq_true',decide_eq_true_eq]at ho;obtain⟨⟨⟨⟨_,h1⟩,h2⟩,h3⟩,h4⟩:=ho;subst h1;subst h2;have how:=(hm.own k _ (hpb' hk)).2.1;injection how with how;exact how.symm
  have hsub:∀b o,M b o->ag C L' st'.h b o:=by
   intro b o hmo;by_cases hr':rowB b
   .obtain⟨k,e,sz,xs,fz,hk,hn,rfl⟩:=hr'
    obtain⟨blk',hk'⟩:=hinout hk;have hs:=hok.same k _ _ hk hk'
    cases blk' with
    |box=>cases hs
    |mp=>cases hs
    |row e' sz' xs' fz'=>
     have ho:=okout hk';simp only[iM,Bool.and_eq_true,decide_eq_true_eq]at ho;refine .inr ⟨k,_,hpb' hk',?_,?_,?_⟩
     .show(L' k).isNil=false;rw[hLr hk'];exact hn
     .rw[hLr hk']
     .rw[ho.1];simp[Blk.frz]
   .exact .inl ⟨hmo,hr'⟩
  obtain⟨b1,b2,_⟩:=ll hm (bY.refl _) hu2 hW;refine⟨hdf,u,hu1,u,rfl,hm.ext,?_,?_⟩
  .intro k blk hk
   have hbr:=hm.bl k blk (hpb' hk)
   cases blk with
   |mp=>cases okout hk
   |row e sz xs fz=>
    rw[hLr hk]at hbr;obtain⟨g1,g2,g3,g4,g5⟩:=hbr;refine⟨g1,g2,g3,g4,λhn=>?_⟩;obtain⟨a1,a2,arr,a3,a4,a5⟩:=g5 hn;exact⟨a1,a2,arr,a3,a4,λi x j p hx hj=>by obtain⟨u,hu,hr⟩:=a5 i x j p hx hj;exact⟨u,hu,hr.mono (Pres.sub hsub)⟩⟩
   |box cs own fz=>
    obtain⟨arr,ty,e1,e2⟩:=hbr;rw[hLb hk]at e1;refine⟨arr,ty,e1,e2.1,λi p u hp hu=>?_⟩;have ho:=okout hk;simp only[iM,Bool.and_eq_true]at ho;have hop:=List.all_eq_true.1 ho.1.1.1.1 p (List.mem_of_getElem? hp);have hx:=e2.2 i p u hp hu
    have e0:ke id p=p:=by cases p<;>rfl
    have hx':RepA w' (ag C L' st'.h) L' st'.h (ke id p) u:=by rw[e0];exact hx
    refine pN (ren:=id) (K:=G.map (·.1)) (M':=M) (L':=L) (h':=bt G') hsub (λq hq blk hb=>?_) hop hx'
    .obtain⟨⟨q',b'⟩,h1,h2⟩:=List.mem_map.1 hq
     simp only at h2;subst h2;obtain⟨blk',hq'⟩:=hinout (jK hok.nodup h1);refine⟨blk',hq',?_⟩;have h9:=hpb' hq';have hb':st'.h q'=some blk:=hb;rw[hb']at h9;injection h9 with h9;subst h9
     cases blk with
     |mp=>cases okout hq'
     |box=>exact(hLb hq').symm
     |row=>exact⟨rfl,rfl,Nat.le_refl _,λ_=>(hLr hq').symm⟩
  .exact mW hml b2
 rintro e a' w' ⟨st',hs',hq⟩
 cases e with
 |normal=>obtain⟨h1,v,h2,h3⟩:=hfin a' w' st' hs' hq;exact gV h1 h2 h3
 |ret=>obtain⟨h1,v,h2,h3⟩:=hfin a' w' st' hs' hq;exact gV h1 h2 h3
 |exit=>exact hq.elim
 |goto=>exact hq.elim
 |panic=>exact hq.elim
 |outgrown=>exact hq.elim
def kT(h:Hp)(q:Nat):Bool:=match h q with
 |some (.box _ own _)=>own
 |_=>false
def gp(ren:Nat->Nat)(h:Hp)(G':List (Nat×Blk)):List (Nat×Blk):=G'.map λkb=>(ren kb.1,gP ren (kT h (ren kb.1)) kb.2)
theorem wm{ren:Nat->Nat}{g:Nat×Blk->Blk}:∀(l:List (Nat×Blk))(h:Hp),(l.map λx=>ren x.1).Nodup->∀x∈l,ai h (l.map λx=>(ren x.1,g x)) (ren x.1)=some (g x)
 |[],_,_,x,hx=>by cases hx
 |y::l,h,hn,x,hx=>by
  rw[List.map_cons,List.nodup_cons]at hn;rw[List.map_cons];show ai (ah h (ren y.1) (some (g y))) (l.map λx=>(ren x.1,g x)) (ren x.1)=_;rcases List.mem_cons.1 hx with rfl|hx
  .rw[jT,aF]
   intro kb hkb;obtain⟨z,hz,rfl⟩:=List.mem_map.1 hkb;intro e;exact hn.1 (List.mem_map.2 ⟨z,hz,e⟩)
  .exact wm l _ hn.2 x hx
theorem nc{ren:Nat->Nat}{own:Bool}:(gP ren own b).live l↔b.live l:=by cases b<;>exact Iff.rfl
theorem vg{ren:Nat->Nat}{own:Bool}{K:List Nat}{o:Nat}(h:iM K k b=true):¬(gP ren own b).frz o:=by
 cases b with
 |mp=>cases h
 |box cs own' fz=>simp[gP,Blk.frz]
 |row e sz xs fz=>
  simp only[iM,Bool.and_eq_true,decide_eq_true_eq]at h;rw[h.1];simp[gP,Blk.frz]
structure Share(h:Hp)(ren:Nat->Nat)(G G':List (Nat×Blk)):Prop where
 ok:OkG G G'
 inj:(G.map λx=>ren x.1).Nodup
 have_:∀kb∈G,h (ren kb.1)=some (gP ren (kT h (ren kb.1)) kb.2)
section
variable {C:Cx} {L:Nat->Loc} {h:Hp} {w:World} {ren:Nat->Nat} {G G':List (Nat×Blk)}
theorem Share.ren_inj(hs:Share h ren G G')(hk:bt G k=some b)(hk':bt G k'=some b')(e:ren k=ren k'):k=k':=by
 obtain⟨i,hi⟩:=List.mem_iff_getElem?.1 (ed hk);obtain⟨j,hj⟩:=List.mem_iff_getElem?.1 (ed hk')
 have h1:(G.map λx=>ren x.1)[i]?=some (ren k):=by simp[hi]
 have h2:(G.map λx=>ren x.1)[j]?=some (ren k'):=by simp[hj]
 obtain⟨l1,e1⟩:=List.getElem?_eq_some_iff.1 h1;obtain⟨l2,e2⟩:=List.getElem?_eq_some_iff.1 h2;have:i=j:=(List.getElem_inj hs.inj).1 (e1.trans (e.trans e2.symm));subst this;rw[hi]at hj;injection hj with hj;injection hj with hj
theorem Share.inout(hs:Share h ren G G')(hk:bt G k=some blk):∃blk',bt G' k=some blk':=by
 have hm:k∈G'.map (·.1):=by rw[hs.ok.keys];exact List.mem_map.2 ⟨_,ed hk,rfl⟩
 obtain⟨⟨k',b'⟩,h1,h2⟩:=List.mem_map.1 hm;simp only at h2;subst h2;exact⟨b',jK (by rw[hs.ok.keys];exact hs.ok.nodup) h1⟩
theorem Share.outin(hs:Share h ren G G')(hk:bt G' k=some blk):∃blk',bt G k=some blk':=by
 have hm:k∈G.map (·.1):=by rw[<-hs.ok.keys];exact List.mem_map.2 ⟨_,ed hk,rfl⟩
 obtain⟨⟨k',b'⟩,h1,h2⟩:=List.mem_map.1 hm;simp only at h2;subst h2;exact⟨b',jK hs.ok.nodup h1⟩
theorem Share.at_(hs:Share h ren G G')(hk:bt G k=some blk):h (ren k)=some (gP ren (kT h (ren k)) blk):=hs.have_ _ (ed hk)
theorem Share.new(hs:Share h ren G G')(hk:bt G' k=some blk):ai h (gp ren h G') (ren k)=some (gP ren (kT h (ren k)) blk):=by
 have hn:(G'.map λx=>ren x.1).Nodup:=by
  have e:(G'.map λx=>ren x.1)=(G.map λx=>ren x.1):=by
   have:=congrArg (List.map ren) hs.ok.keys;simpa[List.map_map,Function.comp_def]using this
  rw[e];exact hs.inj
 exact wm (g:=λkb=>gP ren (kT h (ren kb.1)) kb.2) G' h hn (k,blk) (ed hk)
theorem Share.other(hs:Share h ren G G')(hq:∀k blk,bt G k=some blk->q≠ren k):ai h (gp ren h G') q=h q:=by
 refine jT ?_;intro kb hkb e;obtain⟨⟨k,b⟩,hz,rfl⟩:=List.mem_map.1 hkb;obtain⟨blk',hk'⟩:=hs.outin (jK (by rw[hs.ok.keys];exact hs.ok.nodup) hz);exact hq k _ hk' e.symm
theorem Share.cases(hs:Share h ren G G')(hq:ai h (gp ren h G') q=some b):
 (∃k blk blk',bt G k=some blk∧bt G' k=some blk'∧q=ren k∧b=gP ren (kT h (ren k)) blk')∨((∀k blk,bt G k=some blk->q≠ren k)∧h q=some b):=by
 by_cases hc:∃k blk,bt G k=some blk∧q=ren k
 .obtain⟨k,blk,hk,rfl⟩:=hc
  obtain⟨blk',hk'⟩:=hs.inout hk;rw[hs.new hk']at hq;injection hq with hq;exact .inl ⟨k,blk,blk',hk,hk',rfl,hq.symm⟩
 .have hne:∀k blk,bt G k=some blk->q≠ren k:=λk blk hk e=>hc ⟨k,blk,hk,e⟩
  rw[hs.other hne]at hq;exact .inr ⟨hne,hq⟩
theorem z7{ren:Nat->Nat}{own:Bool}(h:rx b b'=true):dg (gP ren own b) l (gP ren own b') l:=by
 cases b<;>cases b'<;>first|(cases h;done)|skip
 .exact rfl
 .simp only[rx,Bool.and_eq_true,beq_iff_eq]at h
  exact⟨h.1.1.symm,h.1.2.symm,Nat.le_of_eq h.2,λ_=>rfl⟩
theorem Share.okin(hs:Share h ren G G')(hk:bt G k=some b):iM (G.map (·.1)) k b=true:=hs.ok.okin _ _ (ed hk)
theorem Share.okout(hs:Share h ren G G')(hk:bt G' k=some b):iM (G.map (·.1)) k b=true:=hs.ok.okout _ _ (ed hk)
theorem Share.view(hs:Share h ren G G')(hm:MemL C L h w)(hk:bt G k=some blk):db w (ag C L h) (λk=>L (ren k)) (bt G) (L (ren k)) blk:=by
 have hb:=hm.bl _ _ (hs.at_ hk)
 cases blk with
 |mp=>cases hs.okin hk
 |row e sz xs fz=>exact hb
 |box cs own fz=>
  obtain⟨arr,ty,e1,e2⟩:=hb;have ho:=hs.okin hk;simp only[iM,Bool.and_eq_true]at ho;refine⟨arr,ty,e1,by simpa using e2.1,λi p u hp hu=>?_⟩;refine pN (ren:=ren) (K:=G.map (·.1)) (λb o h=>h) (λq hq b hb=>?_) (List.all_eq_true.1 ho.1.1.1.1 p (List.mem_of_getElem? hp)) (e2.2 i _ u (by simp[hp]) hu);obtain⟨⟨q',b'⟩,h1,h2⟩:=List.mem_map.1 hq;simp only at h2;subst h2;have hq':=jK hs.ok.nodup h1;refine⟨b',hq',?_⟩;rw[hs.at_ hq']at hb;injection hb with hb;subst hb
  cases b' with
  |mp=>exact⟨rfl,rfl,rfl⟩
  |box=>exact rfl
  |row=>exact⟨rfl,rfl,Nat.le_refl _,λ_=>rfl⟩
theorem MemL.shareStep(hm:MemL C L h w)(hs:Share h ren G G'){w':World}(hx:Ext (zJ G (λk=>L (ren k))) w w')
 (hb:∀k blk,bt G' k=some blk->db w' (ag C L h) (λk=>L (ren k)) (bt G') (L (ren k)) blk):aG C L h w L (ai h (gp ren h G')) w':=by
 have hMM:∀b o,ag C L (ai h (gp ren h G')) b o->ag C L h b o:=by
  rintro b o (h0|⟨q,blk,hq,hl,hqb,hf⟩)
  .exact .inl h0
  .rcases hs.cases hq with⟨k,b1,b2,hk,hk',rfl,rfl⟩|⟨_,hq'⟩
   .refine .inr ⟨ren k,_,hs.at_ hk,?_,hqb,vg (hs.okin hk)⟩
    have hsm:=hs.ok.same k _ _ hk hk'
    cases b1<;>cases b2<;>first|(cases hsm;done)|exact hl
   .exact .inr ⟨q,blk,hq',hl,hqb,hf⟩
 have hkc:KC L h L (ai h (gp ren h G')):=by
  intro q blk hq;by_cases hc:∃k b,bt G k=some b∧q=ren k
  .obtain⟨k,b,hk,rfl⟩:=hc
   obtain⟨b',hk'⟩:=hs.inout hk;rw[hs.at_ hk]at hq;injection hq with hq;subst hq;exact⟨_,hs.new hk',z7 (hs.ok.same k _ _ hk hk')⟩
  .exact⟨blk,by rw[hs.other (λk b hk e=>hc ⟨k,b,hk,e⟩)];exact hq,bW _ _⟩
 have hpres:Pres w (ag C L h) w' (ag C L (ai h (gp ren h G'))):=by
  refine Pres.ext hx (λb _ hsb o=>?_) λb o _ h9=>hMM b o h9;obtain⟨k,blk,hk,hl,rfl⟩:=hsb;exact .inr ⟨ren k,_,hs.at_ hk,nc.2 hl,rfl,vg (hs.okin hk)⟩
 refine⟨⟨?_,hm.m0,?_,?_,?_⟩,hpres,hkc⟩
 .refine hm.ext.trans hx (λb hb0 hmem=>?_)
  obtain⟨k,blk,hk,hl,rfl⟩:=hmem;have hb1:(L (ren k)).b<C.w0.heap.size:=hb0;have how:=hm.own _ _ (hs.at_ hk)
  cases blk with
  |mp=>cases hs.okin hk
  |box cs own fz=>
   cases hown:kT h (ren k)with
   |false=>rw[hown]at how;exact how.2.2.1
   |true=>
    rw[hown]at how;rcases how with h9|h9
    .omega
    .exact h9.1
  |row e sz xs fz=>
   rcases how.row hl with h9|h9
   .omega
   .exact h9.1
 .intro q blk hq
  rcases hs.cases hq with⟨k,b1,b2,hk,hk',rfl,rfl⟩|⟨hne,hq'⟩
  .have hbr:=hb k b2 hk'
   cases b2 with
   |mp=>cases hs.okout hk'
   |row e sz xs fz=>
    obtain⟨g1,g2,g3,g4,g5⟩:=hbr;refine⟨g1,g2,g3,g4,λhn=>?_⟩;obtain⟨a1,a2,arr,a3,a4,a5⟩:=g5 hn;exact⟨a1,a2,arr,a3,a4,λi x j p hx9 hj=>by obtain⟨u,hu,hr⟩:=a5 i x j p hx9 hj;exact⟨u,hu,hr.mono (Pres.sub hMM)⟩⟩
   |box cs own fz=>
    obtain⟨arr,ty,e1,e2⟩:=hbr;have ho:=hs.okout hk';simp only[iM,Bool.and_eq_true]at ho;refine⟨arr,ty,e1,by simpa using e2.1,λi p u hp hu=>?_⟩;simp only[List.getElem?_map,Option.map_eq_some_iff]at hp;obtain⟨y,hy,rfl⟩:=hp;refine CR (ren:=ren) (K:=G.map (·.1)) (L':=λk=>L (ren k)) (h':=bt G') hMM (λq hq b hb=>?_) (List.all_eq_true.1 ho.1.1.1.1 y (List.mem_of_getElem? hy)) (e2.2 i y u hy hu);refine⟨_,hs.new hb,?_⟩
    cases b with
    |mp=>exact⟨rfl,rfl,rfl⟩
    |box=>exact rfl
    |row=>exact⟨rfl,rfl,Nat.le_refl _,λ_=>rfl⟩
  .refine(hm.bl q blk hq').mono hpres hkc (λhl=>hx.block _ ((hm.bl q blk hq').lt hl) ?_)
   rintro⟨k,b,hk,hl',e⟩;exact hm.sep q (ren k) _ _ (hne k b hk) hq' (hs.at_ hk) hl (nc.2 hl') e
 .have aux:∀q b,ai h (gp ren h G') q=some b->b.live (L q)->∃b0,h q=some b0∧b0.live (L q):=by
   intro q b hq hl;rcases hs.cases hq with⟨k,b1,b2,hk,hk',rfl,rfl⟩|⟨_,hq'⟩
   .refine⟨_,hs.at_ hk,?_⟩
    have hsm:=hs.ok.same k _ _ hk hk'
    cases b1<;>cases b2<;>first|(cases hsm;done)|exact hl
   .exact⟨b,hq',hl⟩
  intro q q' b1 b2 hne hq hq' hl hl';obtain⟨c1,d1,f1⟩:=aux q b1 hq hl;obtain⟨c2,d2,f2⟩:=aux q' b2 hq' hl';exact hm.sep q q' c1 c2 hne d1 d2 f1 f2
 .intro q blk hq
  rcases hs.cases hq with⟨k,b1,b2,hk,hk',rfl,rfl⟩|⟨_,hq'⟩
  .have how:=hm.own _ _ (hs.at_ hk)
   have hsm:=hs.ok.same k _ _ hk hk'
   cases b1<;>cases b2<;>first|(cases hsm;done)|skip
   .cases hown:kT h (ren k)with
    |false=>rw[hown]at how;exact how
    |true=>rw[hown]at how;exact how
   .exact how
  .exact hm.own q blk hq'
end
section
variable {C:Cx} {Q:Exit->St->Prop} {st:St}
def wo(C:Cx)(Q:St->Prop)(f:Operand)(xs:List Operand)(d:Option Nat)(st:St):Prop:=
 ∃g args G G' res ren,bC (st.ev f)=some (g,[],[])∧CS C.P g args G G' res∧oD res=true∧xs.map st.ev=args.map (xV ren)∧args.all (B6 (G.map (·.1)))=true∧(G.map λx=>ren x.1).Nodup∧
  (∀kb∈G,st.h (ren kb.1)=some (gP ren (kT st.h (ren kb.1)) kb.2))∧bX C.N d=true∧Q (st.put d (.pv res) (gp ren st.h G'))
theorem WP.share{xs:List Operand}(hops:ops.toList=pre++o::post)(hop:o.op=.call {callee:=.value f,args:=xs.toArray,argTypes:=ats})(hg:o.guard=none)
 (hq:cU C.P hn C.N ops (wo C (cU C.P hn C.N ops (Q .normal) post) f xs o.dst) pre st):WP C (.region id ops false) Q st:=by
 intro a w hs;refine wp_region_list ?_;rw[hops];refine gt (λst1 a1 w1 hs1 hq1=>?_) hs hq;obtain⟨g,args,G,G',res,ren,hce,⟨hcall,hok,hD⟩,hml,hargs,hokA,hinj,hhave,hdN,hQ⟩:=hq1;obtain⟨L,hm,hN,hdf,ht⟩:=hs1;have hsh:Share st1.h ren G G':=⟨hok,hinj,hhave⟩;refine wpList_step (λK hK=>?_);rw[jl hg,if_pos rfl];obtain⟨vs,us,hfv,hv1,hv2⟩:=gO (cD ht f) hce;have hvs:=hv1.nil_inv;have hus:=hv2.nil_inv;subst hvs;subst hus
 have hlenA:xs.length=args.length:=by have:=congrArg List.length hargs;simpa using this
 have hrepA:aB w1 (ag C L st1.h) (λk=>L (ren k)) (bt G) args (xs.map a1.eval):=by
  refine⟨by simp[hlenA],λi p u hp hu=>?_⟩;simp only[List.getElem?_map,Option.map_eq_some_iff]at hu;obtain⟨x,hx,rfl⟩:=hu;have he:=congrArg (λl:List AV=>l[i]?) hargs;simp only[List.getElem?_map,hx,hp,Option.map_some,Option.some.injEq]at he;have hr:=cD ht x;rw[he]at hr;refine Fb (K:=G.map (·.1)) (λb o h=>h) (λq hq b hb=>?_) (List.all_eq_true.1 hokA p (List.mem_of_getElem? hp)) hr;obtain⟨⟨q',b'⟩,h1,h2⟩:=List.mem_map.1 hq;simp only at h2;subst h2;have hq':=jK hsh.ok.nodup h1;refine⟨b',hq',?_⟩;rw[hsh.at_ hq']at hb;injection hb with hb;subst hb
  cases b' with
  |mp=>exact⟨rfl,rfl,rfl⟩
  |box=>exact rfl
  |row=>exact⟨rfl,rfl,Nat.le_refl _,λ_=>rfl⟩
 have hcalls:=hD w1 (ag C L st1.h) (λk=>L (ren k)) (xs.map a1.eval) (λb o h=>hm.mlt h)
  (λk blk hk hl o=>.inr ⟨ren k,_,hsh.at_ hk,nc.2 hl,rfl,vg (hsh.okin hk)⟩)
  (λk k' b b' hne hk hk' hl hl'=>hm.sep (ren k) (ren k') _ _ (λe=>hne (hsh.ren_inj hk hk' e)) (hsh.at_ hk) (hsh.at_ hk') (nc.2 hl) (nc.2 hl'))
  (λk blk hk=>hsh.view hm hk) hrepA
 have hrun:(execOp a1.eval o).run C.P w1=.ok (.enter g (xs.map a1.eval).toArray) w1:=by
  unfold bZ at hcall
  cases hfn:C.P.funcs[g]? with
  |none=>rw[hfn]at hcall;cases hcall
  |some fn=>
   rw[hfn]at hcall;simp only[Bool.and_eq_true,Bool.not_eq_true',beq_eq_false_iff_ne,ne_eq]at hcall
   have hb:fn.body.isNone=false:=by cases hbb:fn.body<;>simp_all
   unfold execOp;rw[hop];simp only[resolve,hfv,Deferred.ofValue,pure_bind,Sem.run_bind,Result.andThen_ok,invoke,callFunc,program,Sem.run,hfn];simp[hcall.2,hb]
 unfold Oper.wp;rw[hrun];simp only[Oper.upon];refine hcalls.mono ?_;rintro ee w' ⟨v,rfl,hx,hb,hr⟩;have hA:=hm.shareStep hsh hx hb;refine hK _ _ ?_;exact gF (λst' a' w' hs' hq'=>⟨st',hs',hq'⟩) (eO.put hm hN hdf ht hdN hA (.pv (mW hml hr))) hQ
end
attribute [simp] xV ke B6 k8 bt gP iM rx gp kT
def inK(k:Nat):Bool:=decide (290<=k)&&decide (k<1000000)
def fa(K:Nat->Bool):AV->Bool
 |.pv _=>true
 |.ptr k _=>K k
 |.arr k _=>K k
 |.eptr k _ _ _=>K k
 |.ext x=>K x.key
 |.undef=>true
 |_=>false
def ry(K:Nat->Bool):AV->Bool
 |.agg cs=>cs.all (fa K)
 |x=>fa K x
def iV(K:Nat->Bool):AV->Bool
 |.agg cs=>cs.all (fa K)
 |.fn _ first caps=>first.all (fa K)&&caps.all (fa K)
 |.tup cs=>cs.all (ry K)
 |x=>fa K x
abbrev nR:AV->Bool:=iV inK
def iN:Blk->Bool
 |.box _ false _=>false
 |_=>true
def z8:Blk->Bool
 |.mp _ _ _ _=>false
 |_=>true
def sC(M:Nat->Nat->Prop)(L:Nat->Loc)(h:Hp)(b o:Nat):Prop:=M b o∨∃k blk,h k=some blk∧blk.live (L k)∧(L k).b=b∧¬blk.frz o
def kU(h:Hp)(L:Nat->Loc)(b:Nat):Prop:=∃k blk,h k=some blk∧blk.live (L k)∧b=(L k).b
def io(h:Hp)(L:Nat->Loc)(b:Nat):Prop:=∃k blk,h k=some blk∧iN blk=true∧blk.live (L k)∧b=(L k).b
structure LookH(h:Hp):Prop where
 keys:∀k blk,h k=some blk->inK k=true
 nf:∀k blk o,h k=some blk->¬blk.frz o
 nm:∀k blk,h k=some blk->z8 blk=true
 cl:∀k cs o f,h k=some (.box cs o f)->∀x∈cs,nR x=true
structure TrIn(w:World)(M:Nat->Nat->Prop)(L:Nat->Loc)(h:Hp):Prop where
 bl:∀k blk,h k=some blk->db w (sC M L h) L h (L k) blk
 sep:∀k k' blk blk',k≠k'->h k=some blk->h k'=some blk'->blk.live (L k)->blk'.live (L k')->(L k).b≠(L k').b
 m1:∀k blk,h k=some blk->iN blk=true->blk.live (L k)->∀o,¬M (L k).b o
 m2:∀k cs f,h k=some (.box cs false f)->∀o,M (L k).b o
def kC(P:Program)(f:FuncId)(args:List AV)(h0:Hp)(Post:AV->Hp->Prop):Prop:=
 bZ P f=true∧∀(w:World)(M:Nat->Nat->Prop)(L:Nat->Loc)(vs:List Value),(∀b o,M b o->b<w.heap.size)->TrIn w M L h0->aB w (sC M L h0) L h0 args vs->
  Calls P f vs.toArray w λe w'=>∃v r L' h',e=.returned v∧Ext (kU h0 L) w w'∧LookH h'∧TrIn w' M L' h'∧RepA w' (sC M L' h') L' h' r v∧nR r=true∧Post r h'∧
   (∀k cs f,h0 k=some (.box cs false f)->∃cs',h' k=some (.box cs' false false)∧(L' k).b=(L k).b)∧
   (∀k cs f,h' k=some (.box cs false f)->∃cs0 f0,h0 k=some (.box cs0 false f0))∧
   (∀k blk,h' k=some blk->iN blk=true->blk.live (L' k)->w.heap.size<=(L' k).b∨io h0 L (L' k).b)
section
variable {w w':World} {M M':Nat->Nat->Prop} {L L':Nat->Loc} {h h':Hp}
theorem ov{K:Nat->Bool}(hp:Pres w M w' M')(hk:∀k blk,K k=true->h k=some blk->∃blk',h' k=some blk'∧dg blk (L k) blk' (L' k))(ho:iV K x=true)(hx:RepA w M L h x u):RepA w' M' L' h' x u:=by
 have one:∀{x:AV}{u:Value},fa K x=true->RepA w M L h x u->RepA w' M' L' h' x u:=by
  intro x u ho hx
  cases hx with
  |pv hr=>exact .pv (hr.mono hp)
  |@ptr k off cs own fz hb=>
   obtain⟨blk',h1,h2⟩:=hk k _ ho hb
   cases blk' with
   |row=>exact h2.elim
   |mp=>exact h2.elim
   |box cs' own' fz'=>have h2:(L' k).b=(L k).b:=h2;rw[<-h2];exact .ptr h1
  |@arr k n e sz fz xs u hb hn hu=>
   obtain⟨blk',h1,h2⟩:=hk k _ ho hb
   cases blk' with
   |box=>exact h2.elim
   |mp=>exact h2.elim
   |row e' sz' xs' fz'=>
    obtain⟨_,e1,e2,e3⟩:=h2;refine .arr h1 (by omega) (λe=>?_)
    have:xs'.length=xs.length:=by omega
    rw[e3 this];exact hu (by omega)
  |@eptr k n i off e sz fz xs u hb hn hu=>
   obtain⟨blk',h1,h2⟩:=hk k _ ho hb
   cases blk' with
   |box=>exact h2.elim
   |mp=>exact h2.elim
   |row e' sz' xs' fz'=>
    obtain⟨_,e1,e2,e3⟩:=h2;refine .eptr h1 (by omega) (λe=>?_)
    have:xs'.length=xs.length:=by omega
    rw[e3 this,e1];exact hu (by omega)
  |ext hx'=>
   cases hx' with
   |@barr k n c cs own fz hc hb=>
    obtain⟨blk',h1,h2⟩:=hk k _ ho hb
    cases blk' with
    |row=>exact h2.elim
    |mp=>exact h2.elim
    |box cs' own' fz'=>have h2:(L' k).b=(L k).b:=h2;rw[<-h2];exact .ext (.barr hc h1)
   |@mp k n kd es fz hb=>
    obtain⟨blk',h1,h2⟩:=hk k _ ho hb
    cases blk' with
    |row=>exact h2.elim
    |box=>exact h2.elim
    |mp kd' n' es' fz'=>have h2:kd'=kd∧n'=n∧(L' k).b=(L k).b:=h2;rw[<-h2.2.2];exact .ext (.mp h1)
   |@suf k o n t e sz fz xs u hs0 hb hn ht hu=>
    obtain⟨blk',h1,h2⟩:=hk k _ ho hb
    cases blk' with
    |box=>exact h2.elim
    |mp=>exact h2.elim
    |row e' sz' xs' fz'=>
     obtain⟨_,e1,e2,e3⟩:=h2;refine .ext (.suf hs0 h1 hn (by omega) (λe=>?_))
     have:xs'.length=xs.length:=by omega
     rw[e3 this,e1];exact hu (by omega)
  |undef=>exact .undef _
  |agg=>cases ho
  |fn=>cases ho
  |tup=>cases ho
 have all:∀{cs:List AV}{p:AV}{i:Nat},cs.all (fa K)=true->cs[i]?=some p->fa K p=true:=λh hp=>List.all_eq_true.1 h _ (List.mem_of_getElem? hp)
 have two:∀{x:AV}{u:Value},ry K x=true->RepA w M L h x u->RepA w' M' L' h' x u:=by
  intro x u ho hx
  cases hx with
  |agg cs vs hl hh=>exact .agg cs vs hl λi p u hp hu=>one (all ho hp) (hh i p u hp hu)
  |pv hr=>exact one ho (.pv hr)
  |ptr hb=>exact one ho (.ptr hb)
  |arr hb hn hu=>exact one ho (.arr hb hn hu)
  |eptr hb hn hu=>exact one ho (.eptr hb hn hu)
  |ext hx'=>exact one ho (.ext hx')
  |undef=>exact .undef _
  |fn=>cases ho
  |tup=>cases ho
 cases hx with
 |agg cs vs hl hh=>exact .agg cs vs hl λi p u hp hu=>one (all ho hp) (hh i p u hp hu)
 |fn f first caps vs us hl hk' h1 h2=>
  simp only[iV,Bool.and_eq_true]at ho
  exact .fn f first caps vs us hl hk' (λi p u hp hu=>one (all ho.1 hp) (h1 i p u hp hu)) (λi p u hp hu=>one (all ho.2 hp) (h2 i p u hp hu))
 |tup cs vs hl hh=>exact .tup cs vs hl λi p u hp hu=>two (List.all_eq_true.1 ho _ (List.mem_of_getElem? hp)) (hh i p u hp hu)
 |pv hr=>exact one ho (.pv hr)
 |ptr hb=>exact one ho (.ptr hb)
 |arr hb hn hu=>exact one ho (.arr hb hn hu)
 |eptr hb hn hu=>exact one ho (.eptr hb hn hu)
 |ext hx'=>exact one ho (.ext hx')
 |undef=>exact .undef _
theorem db.inK(hp:Pres w M w' M')(hk:∀k blk,Go.Ab.inK k=true->h k=some blk->∃blk',h' k=some blk'∧dg blk (L k) blk' (L' k))(hc:∀cs o f,blk=.box cs o f->∀x∈cs,nR x=true)(he:blk.live l->w'.heap[l.b]?=w.heap[l.b]?)(hb:db w M L h l blk):db w' M' L' h' l blk:=by
 cases blk with
 |box cs own fz=>
  obtain⟨arr,ty,e,hl,hr⟩:=hb;exact⟨arr,ty,(he trivial).trans e,hl,λi p u h1 h2=>ov hp hk (hc _ _ _ rfl p (List.mem_of_getElem? h1)) (hr i p u h1 h2)⟩
 |row et sz xs fz=>
  obtain⟨h1,h2,h3,h4,h5⟩:=hb;refine⟨h1,h2,h3,h4,λhn=>?_⟩;obtain⟨h6,h6',arr,e,h7,h8⟩:=h5 hn;refine⟨h6,h6',arr,(he hn).trans e,h7,λi x j p hx hj=>?_⟩;obtain⟨u,hu,hr⟩:=h8 i x j p hx hj;exact⟨u,hu,hr.mono hp⟩
 |mp kd n es fz=>
  obtain⟨arr,c,e,h1⟩:=hb;exact⟨arr,c,(he trivial).trans e,h1⟩
end
def nG(h:Hp):Hp:=λk=>if inK k=true then h k else none
theorem iW(e:nG h k=some b):inK k=true∧h k=some b:=by
 unfold nG at e;split at e
 .rename_i hi;exact⟨hi,e⟩
 .cases e
def pO(args:List AV)(h0:Hp):St:=⟨λn=>(args[n]?).getD .undef,h0⟩
def vh(P:Program)(rs:List ResultVar)(h0:Hp)(Post:AV->Hp->Prop)(st:St):Prop:=
 ∃r,kK P st rs=some r∧nR r=true∧LookH (nG st.h)∧Post r (nG st.h)∧∀k cs f,h0 k=some (.box cs false f)->∃cs',st.h k=some (.box cs' false false)
def CT(P:Program)(rs:List ResultVar)(h0:Hp)(Post:AV->Hp->Prop):Exit->St->Prop
 |.normal,st=>vh P rs h0 Post st
 |.ret,st=>vh P rs h0 Post st
 |_,_=>False
@[simp] theorem JF:CT P rs h0 Post .normal st=vh P rs h0 Post st:=rfl
@[simp] theorem KI:CT P rs h0 Post .ret st=vh P rs h0 Post st:=rfl
theorem qv(hk:k<2000000)(ho:dT C k l blk)(hu:iN blk=true)(hm:z8 blk=true)(hl:blk.live l):C.w0.heap.size<=l.b∨(C.S l.b∧∀o,¬C.M0 l.b o):=by
 cases blk with
 |box cs own fz=>
  cases own with
  |false=>cases hu
  |true=>exact ho
 |row e sz xs fz=>exact ho.row hl
 |mp=>cases hm
theorem sP(h:inK k=true):k<2000000:=by
 simp only[inK,Bool.and_eq_true,decide_eq_true_eq]at h;omega
theorem G8{f:FuncId}{fn:Func}(hf:P.funcs[f]?=some fn)(hb:fn.body=some c)(hcall:bZ P f=true)(hlen:args.length<=fn.ntmps)(hlook:LookH h0)
 (h:∀C:Cx,C.P=P->C.N=fn.ntmps->WP C c (CT P fn.results.toList h0 Post) (pO args h0)):kC P f args h0 Post:=by
 refine⟨hcall,λw M L vs hM hin hvs=>?_⟩
 let C:Cx:={P:=P,N:=fn.ntmps,M0:=M,S:=kU h0 L,pb:=λk=>match h0 k with|some (.box _ false _)=>some (L k).b|_=>none,w0:=w}
 have hvl:=hvs.1
 have hsim:eO C (pO args h0) {tmps:=vs.toArray++Array.replicate (fn.ntmps-vs.toArray.size) undef,defers:=[]} w:=by
  refine⟨L,⟨Ext.refl _ _,hM,hin.bl,hin.sep,?_⟩,by show(vs.toArray++Array.replicate (fn.ntmps-vs.toArray.size) undef).size=fn.ntmps;simp;omega,iO.nil _,λn=>?_⟩
  .intro k blk hk
   cases blk with
   |box cs own fz=>
    cases own with
    |false=>
     have hfz:fz=false:=by
      cases fz with
      |false=>rfl
      |true=>exact absurd rfl (hlook.nf k _ 0 hk)
     refine⟨hfz,?_,⟨k,_,hk,trivial,rfl⟩,(hin.bl k _ hk).lt trivial,hin.m2 k cs fz hk⟩;show(match h0 k with|some (.box _ false _)=>some (L k).b|_=>none)=some (L k).b;rw[show h0 k=_ from hk]
    |true=>exact .inr ⟨⟨k,_,hk,trivial,rfl⟩,hin.m1 k _ hk rfl trivial⟩
   |row e sz xs fz=>
    unfold dT;simp only[C.hpr k (sP (hlook.keys k _ hk))];exact λhn=>.inr ⟨⟨k,_,hk,hn,rfl⟩,hin.m1 k _ hk rfl hn⟩
   |mp=>exact absurd (hlook.nm k _ hk) (by simp[z8])
  .show RepA w (ag C L h0) L h0 ((args[n]?).getD .undef) _
   cases hp:args[n]? with
   |none=>exact .undef _
   |some p=>
    have hlt:n<vs.length:=by rw[<-hvl];exact(List.getElem?_eq_some_iff.1 hp).1
    have hget:(vs.toArray++Array.replicate (fn.ntmps-vs.toArray.size) undef).getD n undef=vs[n]:=by
     rw[Array.getD_eq_getD_getElem?,Array.getElem?_append_left (by simpa using hlt)];simp[hlt]
    simp only[hget];exact hvs.2 n p _ hp (List.getElem?_eq_getElem hlt)
 refine calls_of_wp_defers hf hb (wp_mono (h C rfl rfl _ w hsim) ?_)
 have hfin:∀(a':Act) w' st',eO C st' a' w'->vh P fn.results.toList h0 Post st'->iO P a'.defers∧∃v,(results fn a'.tmps).run P w'=.ok v w'∧
  (∃v' r L' h',Ending.returned v=.returned v'∧Ext (kU h0 L) w w'∧LookH h'∧TrIn w' M L' h'∧RepA w' (sC M L' h') L' h' r v'∧nR r=true∧Post r h'∧
    (∀k cs f,h0 k=some (.box cs false f)->∃cs',h' k=some (.box cs' false false)∧(L' k).b=(L k).b)∧
    (∀k cs f,h' k=some (.box cs false f)->∃cs0 f0,h0 k=some (.box cs0 false f0))∧
    (∀k blk,h' k=some blk->iN blk=true->blk.live (L' k)->w.heap.size<=(L' k).b∨io h0 L (L' k).b)):=by
  rintro a' w' st' ⟨L',hm,hN,hdf,ht⟩ ⟨r,hr,hok,hlk,hpost,hpin⟩;obtain⟨u,hu1,hu2⟩:=lO (C:=C) hm ht hr
  have hsub:∀b o,sC M L' (nG st'.h) b o->ag C L' st'.h b o:=by
   rintro b o (h9|⟨k,blk,hk,hl,hb9,hf9⟩)
   .exact .inl h9
   .exact .inr ⟨k,blk,(iW hk).2,hl,hb9,hf9⟩
  have hpr:=Pres.sub (w:=w') hsub;have hkk:∀k blk,inK k=true->st'.h k=some blk->∃blk',nG st'.h k=some blk'∧dg blk (L' k) blk' (L' k):=λk blk hi hk=>⟨blk,by unfold nG;rw[if_pos hi];exact hk,bW _ _⟩
  have hpb:∀k cs f,st'.h k=some (.box cs false f)->(∃cs0 f0,h0 k=some (.box cs0 false f0))∧(L' k).b=(L k).b∧f=false∧∀o,M (L' k).b o:=by
   intro k cs f hk;have ho:=hm.own k _ hk;have h1:(match h0 k with|some (.box _ false _)=>some (L k).b|_=>none)=some (L' k).b:=ho.2.1;split at h1
   .rename_i cs0 f0 h2
    injection h1 with h1;exact⟨⟨cs0,f0,h2⟩,h1.symm,ho.1,ho.2.2.2.2⟩
   .cases h1
  have hown:∀k blk,nG st'.h k=some blk->iN blk=true->blk.live (L' k)->w.heap.size<=(L' k).b∨(kU h0 L (L' k).b∧∀o,¬M (L' k).b o):=λk blk hk hu hl=>
   qv (C:=C) (sP (iW hk).1) (hm.own k _ (iW hk).2) hu (hlk.nm k _ hk) hl
  refine⟨hdf,u,hu1,u,r,L',nG st'.h,rfl,hm.ext,hlk,⟨?_,?_,?_,?_⟩,ov hpr hkk hok hu2,hok,hpost,?_,?_,?_⟩
  .exact λk blk hk=>(hm.bl k blk (iW hk).2).inK hpr hkk (λcs o f e=>hlk.cl k cs o f (by rw[hk,e])) (λ_=>rfl)
  .exact λk k' b1 b2 hne h1 h2=>hm.sep k k' b1 b2 hne (iW h1).2 (iW h2).2
  .intro k blk hk hu hl o hM9
   rcases hown k blk hk hu hl with h9|h9
   .have:=hM _ _ hM9;omega
   .exact h9.2 o hM9
  .exact λk cs f hk=>(hpb k cs f (iW hk).2).2.2.2
  .intro k cs f hk
   obtain⟨cs',h1⟩:=hpin k cs f hk;exact⟨cs',by unfold nG;rw[if_pos (hlook.keys k _ hk)];exact h1,(hpb k _ _ h1).2.1⟩
  .exact λk cs f hk=>(hpb k cs f (iW hk).2).1
  .intro k blk hk hu hl
   rcases hown k blk hk hu hl with h9|⟨⟨k0,b0,e1,e2,e3⟩,h9⟩
   .exact .inl h9
   .refine .inr ⟨k0,b0,e1,?_,e2,e3⟩
    cases b0 with
    |box cs0 o0 f0=>
     cases o0 with
     |true=>rfl
     |false=>exact absurd (hin.m2 k0 _ _ e1 0) (by rw[<-e3];exact h9 0)
    |row=>rfl
    |mp=>rfl
 rintro e a' w' ⟨st',hs',hq⟩
 cases e with
 |normal=>obtain⟨h1,v,h2,h3⟩:=hfin a' w' st' hs' hq;exact gV h1 h2 h3
 |ret=>obtain⟨h1,v,h2,h3⟩:=hfin a' w' st' hs' hq;exact gV h1 h2 h3
 |exit=>exact hq.elim
 |goto=>exact hq.elim
 |panic=>exact hq.elim
 |outgrown=>exact hq.elim
def lD(o:Bool):Blk->Blk
 |.box cs _ f=>.box cs o f
 |b=>b
def jA(h:Hp)(k:Nat):Bool:=match h k with
 |some (.box _ o _)=>o
 |_=>true
def fh(h:Hp):Hp:=λk=>if inK k=true then(if k=290 then(h k).map (lD false)else h k)else none
def iC(k:Nat):Bool:=!inK k||k==290
def dO(x:AV):AV:=if iV iC x=true then x else .undef
def fR:Blk->Blk
 |.box cs o f=>.box (cs.map dO) o f
 |b=>b
def dX(h h':Hp):Hp:=λk=>if inK k=true then(if k=290 then(h' k).map (lD (jA h k))else h' k)else(h k).map fR
theorem ip{o:Bool}:(lD o b).live l↔b.live l:=by cases b<;>exact Iff.rfl
theorem yQ{o:Bool}:(lD o b).frz q↔b.frz q:=by cases b<;>exact Iff.rfl
theorem jm:(fR b).live l↔b.live l:=by cases b<;>exact Iff.rfl
theorem CU:(fR b).frz q↔b.frz q:=by cases b<;>exact Iff.rfl
theorem sQ{o:Bool}{l':Loc}(h:dg b l b' l'):dg b l (lD o b') l':=by cases b<;>cases b'<;>exact h
theorem gQ(e:fh h k=some b):inK k=true∧∃b0,h k=some b0∧(k=290->b=lD false b0)∧(k≠290->b=b0):=by
 unfold fh at e;split at e
 .rename_i hi
  split at e
  .rename_i h1
   simp only[Option.map_eq_some_iff]at e;obtain⟨b0,h2,rfl⟩:=e;exact⟨hi,b0,h2,λ_=>rfl,λh3=>absurd h1 h3⟩
  .rename_i h1;exact⟨hi,b,e,λh2=>absurd h2 h1,λ_=>rfl⟩
 .cases e
theorem tY(hi:inK k=true)(hk:h k=some b):fh h k=some (if k=290 then lD false b else b):=by
 unfold fh;rw[if_pos hi];split
 .rw[hk];rfl
 .exact hk
theorem z9{h':Hp}(hi:inK k=true)(hk:h' k=some b):dX h h' k=some (if k=290 then lD (jA h k) b else b):=by
 unfold dX;rw[if_pos hi];split
 .rw[hk];rfl
 .exact hk
theorem lE{h':Hp}(e:dX h h' k=some b):(inK k=true∧∃b0,h' k=some b0∧b=if k=290 then lD (jA h k) b0 else b0)∨(inK k=false∧∃b0,h k=some b0∧b=fR b0):=by
 unfold dX at e;split at e
 .rename_i hi
  split at e
  .rename_i h1
   simp only[Option.map_eq_some_iff]at e;obtain⟨b0,h2,rfl⟩:=e;exact .inl ⟨hi,b0,h2,by rw[if_pos h1]⟩
  .rename_i h1;exact .inl ⟨hi,b,e,by rw[if_neg h1]⟩
 .rename_i hi
  simp only[Option.map_eq_some_iff]at e;obtain⟨b0,h2,rfl⟩:=e;exact .inr ⟨by simpa using hi,b0,h2,rfl⟩
structure InOk(h:Hp):Prop where
 nf:∀k blk o,inK k=true->h k=some blk->¬blk.frz o
 nm:∀k blk,inK k=true->h k=some blk->z8 blk=true
 cl:∀k cs o f,inK k=true->h k=some (.box cs o f)->∀x∈cs,nR x=true
 pin:∀k cs f,inK k=true->h k=some (.box cs false f)->k=290
 bx:∀blk,h 290=some blk->∃cs o f,blk=.box cs o f
section
variable {C:Cx} {L L':Nat->Loc} {h h':Hp} {w w':World}
theorem wq(hm:MemL C L h w)(hi:InOk h){b:Nat}(ht:io (fh h) L b):(C.w0.heap.size<=b∨(C.S b∧∀o,¬C.M0 b o))∧kU h L b:=by
 obtain⟨k,blk,hk,hu,hl,rfl⟩:=ht;obtain⟨h1,b0,h2,h3,h4⟩:=gQ hk;by_cases e:k=290
 .have:=h3 e
  subst this;subst e;obtain⟨cs,o,f,rfl⟩:=hi.bx b0 h2;cases hu
 .have:=h4 e
  subst this;exact⟨qv (sP h1) (hm.own k _ h2) hu (hi.nm k _ h1 h2) hl,k,_,h2,hl,rfl⟩
theorem MemL.takeStep(hm:MemL C L h w)(hi:InOk h)(hx:Ext (kU (fh h) L) w w')(hlk:LookH h')
 (ht:TrIn w' (λb o=>ag C L h b o∧¬io (fh h) L b) L' h')
 (hp1:∀k cs f,fh h k=some (.box cs false f)->∃cs',h' k=some (.box cs' false false)∧(L' k).b=(L k).b)
 (hp2:∀k cs f,h' k=some (.box cs false f)->∃cs0 f0,fh h k=some (.box cs0 false f0))
 (hn:∀k blk,h' k=some blk->iN blk=true->blk.live (L' k)->w.heap.size<=(L' k).b∨io (fh h) L (L' k).b):
 ∃L2:Nat->Loc,(∀k,inK k=true->L2 k=L' k)∧MemL C L2 (dX h h') w'∧(∀{x:AV}{u:Value},RepA w (ag C L h) L h x u->RepA w' (ag C L2 (dX h h')) L2 (dX h h') (dO x) u)∧
  (∀{x:AV}{u:Value},nR x=true->RepA w' (sC (λb o=>ag C L h b o∧¬io (fh h) L b) L' h') L' h' x u->RepA w' (ag C L2 (dX h h')) L2 (dX h h') x u):=by
 let L2:Nat->Loc:=λk=>if inK k=true then L' k else L k
 have hL1:∀k,inK k=true->L2 k=L' k:=λk hk=>if_pos hk
 have hL0:∀k,inK k=false->L2 k=L k:=λk hk=>by simp[L2,hk]
 have hsz:=hm.ext.size
 have hlv:∀b,kU (fh h) L b->∃k blk,inK k=true∧h k=some blk∧blk.live (L k)∧b=(L k).b:=by
  rintro b ⟨k,blk,hk,hl,rfl⟩;obtain⟨h1,b0,h2,h3,h4⟩:=gQ hk;refine⟨k,b0,h1,h2,?_,rfl⟩;by_cases e:k=290
  .rw[h3 e]at hl;exact ip.1 hl
  .rw[h4 e]at hl;exact hl
 have hlvM:∀b,kU (fh h) L b->∀o,ag C L h b o:=by
  intro b hb o;obtain⟨k,blk,h1,h2,h3,rfl⟩:=hlv b hb;exact .inr ⟨k,blk,h2,h3,rfl,hi.nf k blk o h1 h2⟩
 have htl:∀b,io (fh h) L b->kU (fh h) L b:=by
  rintro b ⟨k,blk,h1,_,h3,h4⟩;exact⟨k,blk,h1,h3,h4⟩
 have hM2:∀b o,ag C L2 (dX h h') b o->sC (λb o=>ag C L h b o∧¬io (fh h) L b) L' h' b o:=by
  rintro b o (h9|⟨k,blk,hk,hl,hb,hf⟩)
  .refine .inl ⟨.inl h9,λh8=>?_⟩
   rcases(wq hm hi h8).1 with h7|h7
   .have:=hm.m0 _ _ h9;omega
   .exact h7.2 o h9
  .rcases lE hk with⟨hi1,b0,h1,rfl⟩|⟨hi1,b0,h1,rfl⟩
   .rw[hL1 k hi1]at hl hb
    refine .inr ⟨k,b0,h1,?_,hb,?_⟩
    .split at hl
     .exact ip.1 hl
     .exact hl
    .split at hf
     .exact λh8=>hf (yQ.2 h8)
     .exact hf
   .rw[hL0 k hi1]at hl hb
    refine .inl ⟨.inr ⟨k,b0,h1,jm.1 hl,hb,λh8=>hf (CU.2 h8)⟩,λh8=>?_⟩;obtain⟨k',blk',h2,h3,h4,h5⟩:=hlv b (htl b h8);refine hm.sep k k' b0 blk' (λe=>?_) h1 h3 (jm.1 hl) h4 (by rw[hb,<-h5]);rw[e,h2]at hi1;cases hi1
 have hpr2:=Pres.sub (w:=w') hM2
 have hpres:Pres w (ag C L h) w' (ag C L2 (dX h h')):=by
  have hns:∀b o,¬ag C L h b o->¬kU (fh h) L b:=λb o h9 h8=>h9 (hlvM b h8 o)
  have hback:∀b o,b<w.heap.size->ag C L2 (dX h h') b o->ag C L h b o:=by
   intro b o hlt h9;rcases hM2 b o h9 with h8|⟨k,blk,hk,hl,hb,hf⟩
   .exact h8.1
   .cases hu:iN blk with
    |true=>
     rcases hn k blk hk hu hl with h7|h7
     .omega
     .rw[hb]at h7;exact hlvM b (htl b h7) o
    |false=>
     cases blk with
     |row=>cases hu
     |mp=>cases hu
     |box cs o9 f9=>
      cases o9 with
      |true=>cases hu
      |false=>
       obtain⟨cs0,f0,h7⟩:=hp2 k cs f9 hk;obtain⟨_,_,h6⟩:=hp1 k cs0 f0 h7;exact hlvM b ⟨k,_,h7,trivial,by rw[<-hb,h6]⟩ o
  refine⟨λb o v hc hnm=>?_,λb arr c hc hnm=>?_⟩
  .have hlt:=xX hc
   exact⟨(hx.cell hlt (hns b o hnm)).trans hc,λh9=>hnm (hback b o hlt h9)⟩
  .have hlt:=tZ hc
   exact⟨(hx.block b hlt (hns b 0 hnm)).trans hc,λh9=>hnm (hback b 0 hlt h9)⟩
 have hkout:∀k blk,iC k=true->h k=some blk->∃blk',dX h h' k=some blk'∧dg blk (L k) blk' (L2 k):=by
  intro k blk hk h1
  cases hik:inK k with
  |false=>
   refine⟨fR blk,by simp only[dX,hik,Bool.false_eq_true,if_false,h1,Option.map_some],?_⟩;rw[hL0 k hik]
   cases blk with
   |box=>exact rfl
   |row=>exact⟨rfl,rfl,Nat.le_refl _,λ_=>rfl⟩
   |mp=>exact⟨rfl,rfl,rfl⟩
  |true=>
   have e:k=290:=by simpa[iC,hik]using hk
   obtain⟨cs,o,f,rfl⟩:=hi.bx blk (by rw[<-e];exact h1)
   have h2:fh h k=some (.box cs false f):=by rw[tY hik h1,if_pos e];rfl
   obtain⟨cs',h3,h4⟩:=hp1 k cs f h2;refine⟨_,z9 hik h3,?_⟩;rw[if_pos e,hL1 k hik];exact h4
 have hkin:∀k blk,inK k=true->h' k=some blk->∃blk',dX h h' k=some blk'∧dg blk (L' k) blk' (L2 k):=by
  intro k blk hik h1;refine⟨_,z9 hik h1,?_⟩;rw[hL1 k hik];split
  .exact sQ (bW _ _)
  .exact bW _ _
 have hkill:∀{x:AV}{u:Value},RepA w (ag C L h) L h x u->RepA w' (ag C L2 (dX h h')) L2 (dX h h') (dO x) u:=by
  intro x u hr;unfold dO;split
  .rename_i ho;exact ov hpres hkout ho hr
  .exact .undef _
 refine⟨L2,hL1,⟨?_,hm.m0,?_,?_,?_⟩,hkill,λho hr=>ov hpr2 hkin ho hr⟩
 .refine hm.ext.trans hx (λb hlt h9=>?_)
  obtain⟨k,blk,h1,h2,h3,rfl⟩:=hlv b h9;have ho:=hm.own k _ h2
  cases hu:iN blk with
  |true=>
   rcases qv (sP h1) ho hu (hi.nm k _ h1 h2) h3 with h7|h7
   .omega
   .exact h7.1
  |false=>
   cases blk with
   |row=>cases hu
   |mp=>cases hu
   |box cs o9 f9=>
    cases o9 with
    |true=>cases hu
    |false=>exact ho.2.2.1
 .intro k blk hk
  rcases lE hk with⟨hi1,b0,h1,rfl⟩|⟨hi1,b0,h1,rfl⟩
  .rw[hL1 k hi1]
   have hb:=(ht.bl k b0 h1).inK hpr2 hkin (λcs o f e=>hlk.cl k cs o f (by rw[h1,e])) (λ_=>rfl);split
   .cases b0<;>exact hb
   .exact hb
  .rw[hL0 k hi1]
   have hb:=hm.bl k b0 h1
   have he:b0.live (L k)->w'.heap[(L k).b]?=w.heap[(L k).b]?:=by
    intro hl;refine hx.block _ (hb.lt hl) (λh9=>?_);obtain⟨k',blk',h2,h3,h4,h5⟩:=hlv _ h9;exact hm.sep k k' b0 blk' (λe=>by rw[e,h2]at hi1;cases hi1) h1 h3 hl h4 h5
   cases b0 with
   |box cs own fz=>
    obtain⟨arr,ty,e,hl,hr⟩:=hb;refine⟨arr,ty,(he trivial).trans e,by simpa using hl,λi p u hp hu=>?_⟩;simp only[List.getElem?_map,Option.map_eq_some_iff]at hp;obtain⟨q,hq,rfl⟩:=hp;exact hkill (hr i q u hq hu)
   |row et sz xs fz=>
    obtain⟨g1,g2,g3,g4,g5⟩:=hb;refine⟨g1,g2,g3,g4,λhn9=>?_⟩;obtain⟨h6,h6',arr,e,h7,h8⟩:=g5 hn9;refine⟨h6,h6',arr,(he hn9).trans e,h7,λi x j p hx9 hj=>?_⟩;obtain⟨u,hu,hr⟩:=h8 i x j p hx9 hj;exact⟨u,hu,hr.mono hpres⟩
   |mp kd n es fz=>
    obtain⟨arr,c,e,g1⟩:=hb;exact⟨arr,c,(he trivial).trans e,g1⟩
 .
  have new:∀k blk,inK k=true->h' k=some blk->blk.live (L' k)->w.heap.size<=(L' k).b∨kU (fh h) L (L' k).b:=by
   intro k blk hik hk hl
   cases hu:iN blk with
   |true=>exact(hn k blk hk hu hl).imp id (htl _)
   |false=>
    cases blk with
    |row=>cases hu
    |mp=>cases hu
    |box cs o9 f9=>
     cases o9 with
     |true=>cases hu
     |false=>
      obtain⟨cs0,f0,h7⟩:=hp2 k cs f9 hk;obtain⟨_,_,h6⟩:=hp1 k cs0 f0 h7;exact .inr ⟨k,_,h7,trivial,h6⟩
  have je:∀k blk k' blk',inK k=true->inK k'=false->h' k=some blk->h k'=some blk'->blk.live (L' k)->blk'.live (L k')->(L' k).b≠(L k').b:=by
   intro k blk k' blk' h1 h2 h3 h4 h5 h6 e;rcases new k blk h1 h3 h5 with h7|h7
   .have:=(hm.bl k' blk' h4).lt h6;omega
   .obtain⟨q,bq,g1,g2,g3,g4⟩:=hlv _ h7
    exact hm.sep q k' bq blk' (λe9=>by rw[e9,h2]at g1;cases g1) g2 h4 g3 h6 (by rw[<-g4,e])
  have lv:∀{k:Nat}{b0:Blk},(if k=290 then lD (jA h k) b0 else b0).live (L' k)->b0.live (L' k):=by
   intro k b0 hl;split at hl
   .exact ip.1 hl
   .exact hl
  intro k k' b1 b2 hne hk hk' hl hl';rcases lE hk with⟨i1,c1,d1,rfl⟩|⟨i1,c1,d1,rfl⟩<;>rcases lE hk' with⟨i2,c2,d2,rfl⟩|⟨i2,c2,d2,rfl⟩
  .rw[hL1 k i1]at hl|-
   rw[hL1 k' i2]at hl'|-;exact ht.sep k k' c1 c2 hne d1 d2 (lv hl) (lv hl')
  .rw[hL1 k i1]at hl|-
   rw[hL0 k' i2]at hl'|-;exact je k c1 k' c2 i1 i2 d1 d2 (lv hl) (jm.1 hl')
  .rw[hL0 k i1]at hl|-
   rw[hL1 k' i2]at hl'|-;exact λe=>je k' c2 k c1 i2 i1 d2 d1 (lv hl') (jm.1 hl) e.symm
  .rw[hL0 k i1]at hl|-
   rw[hL0 k' i2]at hl'|-;exact hm.sep k k' c1 c2 hne d1 d2 (jm.1 hl) (jm.1 hl')
 .
  intro k blk hk;rcases lE hk with⟨i1,b0,d1,rfl⟩|⟨i1,b0,d1,rfl⟩
  .rw[hL1 k i1]
   have fresh:iN b0=true->b0.live (L' k)->C.w0.heap.size<=(L' k).b∨(C.S (L' k).b∧∀o,¬C.M0 (L' k).b o):=by
    intro hu hl;rcases hn k b0 d1 hu hl with h7|h7
    .exact .inl (by omega)
    .exact(wq hm hi h7).1
   cases b0 with
   |mp=>exact absurd (hlk.nm k _ d1) (by simp[z8])
   |row e sz xs fz=>
    have:dT C k (L' k) (.row e sz xs fz):=by
     unfold dT;simp only[C.hpr k (sP i1)];exact λhn9=>fresh rfl hn9
    split<;>exact this
   |box cs o9 f9=>
    cases o9 with
    |true=>
     have h9:=fresh rfl trivial;split
     .rename_i e
      have h8:fh h k=none∨∃cs0 f0,fh h k=some (.box cs0 false f0):=by
       cases h7:h k with
       |none=>left;simp[fh,h7]
       |some b1=>
        right
        obtain⟨cs0,o0,f0,rfl⟩:=hi.bx b1 (by rw[<-e];exact h7);exact⟨cs0,f0,by rw[tY i1 h7,if_pos e];rfl⟩
      rcases h8 with h8|⟨cs0,f0,h8⟩
      .have h7:h k=none:=by
        cases h7:h k with
        |none=>rfl
        |some b1=>rw[tY i1 h7]at h8;cases h8
       have:jA h k=true:=by simp[jA,h7]
       rw[this];exact h9
      .obtain⟨cs',h6,_⟩:=hp1 k cs0 f0 h8
       rw[d1]at h6;cases h6
     .exact h9
    |false=>
     obtain⟨cs0,f0,h7⟩:=hp2 k cs f9 d1;obtain⟨cs',h6,h5⟩:=hp1 k cs0 f0 h7;rw[d1]at h6;injection h6 with h6;injection h6 with h6a _ h6b;obtain⟨_,b1,g2,g3,g4⟩:=gQ h7
     have e:k=290:=by
      refine Classical.byContradiction λe=>e ?_;have:=g4 e;subst this;exact hi.pin k cs0 f0 i1 g2
     rw[if_pos e];obtain⟨cs1,o1,f1,rfl⟩:=hi.bx b1 (by rw[<-e];exact g2);have ho:=hm.own k _ g2
     have:jA h k=o1:=by simp[jA,g2]
     rw[this];show dT C k (L' k) (.box cs o1 f9)
     cases o1 with
     |true=>
      have ho:C.w0.heap.size<=(L k).b∨(C.S (L k).b∧∀o,¬C.M0 (L k).b o):=ho;show C.w0.heap.size<=(L' k).b∨(C.S (L' k).b∧∀o,¬C.M0 (L' k).b o);rw[h5];exact ho
     |false=>
      obtain⟨a1,a2,a3,a4,a5⟩:=ho;refine⟨h6b,?_,?_,?_,?_⟩
      .rw[h5];exact a2
      .rw[h5];exact a3
      .rw[h5];exact a4
      .rw[h5];exact a5
  .rw[hL0 k i1]
   have:=hm.own k b0 d1
   cases b0 with
   |box cs o f=>cases o<;>exact this
   |row=>exact this
   |mp=>exact this
def nX(C:Cx)(Q:St->Prop)(f:Operand)(xs:List Operand)(d:Option Nat)(st:St):Prop:=
 ∃g Post,bC (st.ev f)=some (g,[],[])∧InOk st.h∧kC C.P g (xs.map st.ev) (fh st.h) Post∧(xs.map st.ev).all nR=true∧bX C.N d=true∧
  ∀r h',LookH h'->nR r=true->Post r h'->Q (St.put ⟨λn=>dO (st.t n),dX st.h h'⟩ d r [])
theorem WP.takeG{xs:List Operand}{K:St->Prop}(hKs:∀st a w,eO C st a w->K st->∃st',eO C st' a w∧cU C.P hn C.N ops (Q .normal) post st')(hops:ops.toList=pre++o::post)(hop:o.op=.call {callee:=.value f,args:=xs.toArray,argTypes:=ats})(hg:o.guard=none)
 (hq:cU C.P hn C.N ops (nX C K f xs o.dst) pre st):WP C (.region id ops false) Q st:=by
 intro a w hs;refine wp_region_list ?_;rw[hops];refine gt (λst1 a1 w1 hs1 hq1=>?_) hs hq;obtain⟨g,Post,hce,hi,⟨hcall,hD⟩,hokA,hdN,hQ⟩:=hq1;obtain⟨L,hm,hN,hdf,ht⟩:=hs1;refine wpList_step (λK hK=>?_);rw[jl hg,if_pos rfl];obtain⟨vs,us,hfv,hv1,hv2⟩:=gO (cD ht f) hce;have hvs:=hv1.nil_inv;have hus:=hv2.nil_inv;subst hvs;subst hus
 have htl:∀b,io (fh st1.h) L b->∀o,ag C L st1.h b o:=by
  intro b hb o;obtain⟨k,blk,h1,h2,h3,rfl⟩:=hb;obtain⟨i1,b0,g1,g2,g3⟩:=gQ h1;by_cases e:k=290
  .rw[g2 e]at h3;exact .inr ⟨k,b0,g1,ip.1 h3,rfl,hi.nf k b0 o i1 g1⟩
  .rw[g3 e]at h3;exact .inr ⟨k,b0,g1,h3,rfl,hi.nf k b0 o i1 g1⟩
 have hMeq:sC (λb o=>ag C L st1.h b o∧¬io (fh st1.h) L b) L (fh st1.h)=ag C L st1.h:=by
  funext b o
  refine propext ⟨?_,λh9=>?_⟩
  .rintro(h9|⟨k,blk,h1,h2,h3,h4⟩)
   .exact h9.1
   .obtain⟨i1,b0,g1,g2,g3⟩:=gQ h1
    by_cases e:k=290
    .rw[g2 e]at h2;exact .inr ⟨k,b0,g1,ip.1 h2,h3,hi.nf k b0 o i1 g1⟩
    .rw[g3 e]at h2;exact .inr ⟨k,b0,g1,h2,h3,hi.nf k b0 o i1 g1⟩
  .by_cases h8:io (fh st1.h) L b
   .obtain⟨k,blk,h1,h2,h3,h4⟩:=h8
    refine .inr ⟨k,blk,h1,h3,h4.symm,?_⟩;obtain⟨i1,b0,g1,g2,g3⟩:=gQ h1;by_cases e:k=290
    .rw[g2 e];exact λh7=>hi.nf k b0 o i1 g1 (yQ.1 h7)
    .rw[g3 e];exact hi.nf k b0 o i1 g1
   .exact .inl ⟨h9,h8⟩
 have hkin:∀k blk,inK k=true->st1.h k=some blk->∃blk',fh st1.h k=some blk'∧dg blk (L k) blk' (L k):=by
  intro k blk hik h1;refine⟨_,tY hik h1,?_⟩;split
  .exact sQ (bW _ _)
  .exact bW _ _
 have hin:TrIn w1 (λb o=>ag C L st1.h b o∧¬io (fh st1.h) L b) L (fh st1.h):=by
  refine⟨?_,?_,?_,?_⟩
  .intro k blk hk
   rw[hMeq];obtain⟨i1,b0,g1,g2,g3⟩:=gQ hk;have hb:=(hm.bl k b0 g1).inK (Pres.refl _ _) hkin (λcs o f e=>hi.cl k cs o f i1 (by rw[g1,e])) (λ_=>rfl);by_cases e:k=290
   .rw[g2 e];cases b0<;>exact hb
   .rw[g3 e];exact hb
  .intro k k' b1 b2 hne h1 h2 hl hl'
   obtain⟨i1,c1,g1,g2,g3⟩:=gQ h1;obtain⟨i2,c2,e1,e2,e3⟩:=gQ h2;refine hm.sep k k' c1 c2 hne g1 e1 ?_ ?_
   .by_cases e:k=290
    .rw[g2 e]at hl;exact ip.1 hl
    .rw[g3 e]at hl;exact hl
   .by_cases e:k'=290
    .rw[e2 e]at hl';exact ip.1 hl'
    .rw[e3 e]at hl';exact hl'
  .exact λk blk h1 h2 h3 o h9=>h9.2 ⟨k,blk,h1,h2,h3,rfl⟩
  .intro k cs f hk o
   obtain⟨i1,b0,g1,g2,g3⟩:=gQ hk
   have hl0:b0.live (L k):=by
    by_cases e:k=290
    .have h8:=g2 e
     cases b0 with
     |box=>exact trivial
     |row=>cases h8
     |mp=>exact trivial
    .rw[<-g3 e];exact trivial
   refine⟨.inr ⟨k,b0,g1,hl0,rfl,hi.nf k b0 o i1 g1⟩,?_⟩;rintro⟨k',blk',h1,h2,h3,h4⟩;obtain⟨i2,c2,e1,e2,e3⟩:=gQ h1
   have hne:k≠k':=by
    intro e;rw[<-e,hk]at h1;injection h1 with h1;rw[<-h1]at h2;cases h2
   refine hm.sep k k' b0 c2 hne g1 e1 hl0 ?_ h4;by_cases e:k'=290
   .rw[e2 e]at h3;exact ip.1 h3
   .rw[e3 e]at h3;exact h3
 have hrepA:aB w1 (sC (λb o=>ag C L st1.h b o∧¬io (fh st1.h) L b) L (fh st1.h)) L (fh st1.h) (xs.map st1.ev) (xs.map a1.eval):=by
  rw[hMeq];refine⟨by simp,λi p u hp hu=>?_⟩;have hok:=List.all_eq_true.1 hokA p (List.mem_of_getElem? hp);simp only[List.getElem?_map,Option.map_eq_some_iff]at hp hu;obtain⟨x,hx,rfl⟩:=hp;obtain⟨y,hy,rfl⟩:=hu;rw[hx]at hy;injection hy with hy;subst hy;exact ov (Pres.refl _ _) hkin hok (cD ht x)
 have hcalls:=hD w1 _ L (xs.map a1.eval) (λb o h9=>hm.mlt h9.1) hin hrepA
 have hrun:(execOp a1.eval o).run C.P w1=.ok (.enter g (xs.map a1.eval).toArray) w1:=by
  unfold bZ at hcall
  cases hfn:C.P.funcs[g]? with
  |none=>rw[hfn]at hcall;cases hcall
  |some fn=>
   rw[hfn]at hcall;simp only[Bool.and_eq_true,Bool.not_eq_true',beq_eq_false_iff_ne,ne_eq]at hcall
   have hb:fn.body.isNone=false:=by cases hbb:fn.body<;>simp_all
   unfold execOp;rw[hop];simp only[resolve,hfv,Deferred.ofValue,pure_bind,Sem.run_bind,Result.andThen_ok,invoke,callFunc,program,Sem.run,hfn];simp[hcall.2,hb]
 unfold Oper.wp;rw[hrun];simp only[Oper.upon];refine hcalls.mono ?_;rintro ee w' ⟨v,r,L',h',rfl,hx,hlk,htr,hr,hokr,hpost,hp1,hp2,hnew⟩;obtain⟨L2,hL2,hm2,hkill,hback⟩:=hm.takeStep hi hx hlk htr hp1 hp2 hnew;refine hK _ _ ?_;obtain⟨st9,hs9,hq9⟩:=hKs _ _ _ (eO.put hm2 hN hdf (λn=>hkill (ht n)) hdN (aG.refl hm2) (hback hokr hr)) (hQ r h' hlk hokr hpost);exact gF (λst' a' w' hs' hq'=>⟨st',hs',hq'⟩) hs9 hq9
theorem WP.take{xs:List Operand}(hops:ops.toList=pre++o::post)(hop:o.op=.call {callee:=.value f,args:=xs.toArray,argTypes:=ats})(hg:o.guard=none)
 (hq:cU C.P hn C.N ops (nX C (cU C.P hn C.N ops (Q .normal) post) f xs o.dst) pre st):WP C (.region id ops false) Q st:=WP.takeG (λst _ _ hs hk=>⟨st,hs,hk⟩) hops hop hg hq
end
attribute [simp] iV fa ry fR lD
def rk(d k' q:Nat):Nat:=if q=d then k' else q
def gR(d k':Nat):XV->XV
 |.barr k n c=>.barr (rk d k' k) n c
 |.mp k=>.mp (rk d k' k)
 |.suf k o n t=>.suf (rk d k' k) o n t
def aN(d k':Nat):AV->AV
 |.pv p=>.pv p
 |.ptr k o=>.ptr (rk d k' k) o
 |.arr k n=>.arr (rk d k' k) n
 |.eptr k n i o=>.eptr (rk d k' k) n i o
 |.ext x=>.ext (gR d k' x)
 |_=>.undef
def aY(d k':Nat):AV->AV
 |.agg cs=>.agg (cs.map (aN d k'))
 |.fn f a b=>.fn f (a.map (aN d k')) (b.map (aN d k'))
 |.tup cs=>.tup (cs.map (aN d k'))
 |x=>aN d k' x
def bN(d k':Nat):Blk->Blk
 |.box cs o f=>.box (cs.map (aY d k')) o f
 |b=>b
def aL(d k':Nat)(h:Hp):Hp:=λq=>if q=k' then(h d).map (bN d k')else if q=d then none else(h q).map (bN d k')
theorem rz:(bN d k' b).live l↔b.live l:=by cases b<;>exact Iff.rfl
theorem D2{o:Nat}:(bN d k' b).frz o↔b.frz o:=by cases b<;>exact Iff.rfl
theorem Aa(d k':Nat)(b:Blk)(l:Loc):dg b l (bN d k' b) l:=by
 cases b with
 |box=>exact rfl
 |row=>exact⟨rfl,rfl,Nat.le_refl _,λ_=>rfl⟩
 |mp=>exact⟨rfl,rfl,rfl⟩
theorem BM{w:World}{L L2:Nat->Loc}{h2:Hp}(hp:Pres w M w M')(hk:∀k blk,h k=some blk->∃blk',h2 (rk d k' k)=some blk'∧dg blk (L k) blk' (L2 (rk d k' k)))(hx:RepA w M L h x u):RepA w M' L2 h2 (aY d k' x) u:=by
 have one:∀{x:AV}{u:Value},RepA w M L h x u->RepA w M' L2 h2 (aN d k' x) u:=by
  intro x u hx
  cases hx with
  |pv hr=>exact .pv (hr.mono hp)
  |@ptr k off cs own fz hb=>
   obtain⟨blk',h1,h2⟩:=hk k _ hb
   cases blk' with
   |row=>exact h2.elim
   |mp=>exact h2.elim
   |box cs' own' fz'=>have h2:(L2 (rk d k' k)).b=(L k).b:=h2;rw[<-h2];exact .ptr h1
  |@arr k n e sz fz xs u hb hn hu=>
   obtain⟨blk',h1,h2⟩:=hk k _ hb
   cases blk' with
   |box=>exact h2.elim
   |mp=>exact h2.elim
   |row e' sz' xs' fz'=>
    obtain⟨_,e1,e2,e3⟩:=h2;refine .arr h1 (by omega) (λe=>?_)
    have:xs'.length=xs.length:=by omega
    rw[e3 this];exact hu (by omega)
  |@eptr k n i off e sz fz xs u hb hn hu=>
   obtain⟨blk',h1,h2⟩:=hk k _ hb
   cases blk' with
   |box=>exact h2.elim
   |mp=>exact h2.elim
   |row e' sz' xs' fz'=>
    obtain⟨_,e1,e2,e3⟩:=h2;refine .eptr h1 (by omega) (λe=>?_)
    have:xs'.length=xs.length:=by omega
    rw[e3 this,e1];exact hu (by omega)
  |ext hx'=>
   cases hx' with
   |@barr k n c cs own fz hc hb=>
    obtain⟨blk',h1,h2⟩:=hk k _ hb
    cases blk' with
    |row=>exact h2.elim
    |mp=>exact h2.elim
    |box cs' own' fz'=>have h2:(L2 (rk d k' k)).b=(L k).b:=h2;rw[<-h2];exact .ext (.barr hc h1)
   |@mp k n kd es fz hb=>
    obtain⟨blk',h1,h2⟩:=hk k _ hb
    cases blk' with
    |row=>exact h2.elim
    |box=>exact h2.elim
    |mp kd' n' es' fz'=>have h2:kd'=kd∧n'=n∧(L2 (rk d k' k)).b=(L k).b:=h2;rw[<-h2.2.2];exact .ext (.mp h1)
   |@suf k o n t e sz fz xs u hs0 hb hn ht hu=>
    obtain⟨blk',h1,h2⟩:=hk k _ hb
    cases blk' with
    |box=>exact h2.elim
    |mp=>exact h2.elim
    |row e' sz' xs' fz'=>
     obtain⟨_,e1,e2,e3⟩:=h2;refine .ext (.suf hs0 h1 hn (by omega) (λe=>?_))
     have:xs'.length=xs.length:=by omega
     rw[e3 this,e1];exact hu (by omega)
  |undef=>exact .undef _
  |agg=>exact .undef _
  |fn=>exact .undef _
  |tup=>exact .undef _
 cases hx with
 |agg cs vs hl hh=>
  refine .agg _ vs (by simpa using hl) λi p u hp hu=>?_;simp only[List.getElem?_map,Option.map_eq_some_iff]at hp;obtain⟨q,hq,rfl⟩:=hp;exact one (hh i q u hq hu)
 |fn f first caps vs us hl hk' h1 h2=>
  refine .fn f _ _ vs us (by simpa using hl) (by simpa using hk') (λi p u hp hu=>?_) (λi p u hp hu=>?_)
  .simp only[List.getElem?_map,Option.map_eq_some_iff]at hp
   obtain⟨q,hq,rfl⟩:=hp;exact one (h1 i q u hq hu)
  .simp only[List.getElem?_map,Option.map_eq_some_iff]at hp
   obtain⟨q,hq,rfl⟩:=hp;exact one (h2 i q u hq hu)
 |tup cs vs hl hh=>
  refine .tup _ vs (by simpa using hl) λi p u hp hu=>?_;simp only[List.getElem?_map,Option.map_eq_some_iff]at hp;obtain⟨q,hq,rfl⟩:=hp;exact one (hh i q u hq hu)
 |pv hr=>exact one (.pv hr)
 |ptr hb=>exact one (.ptr hb)
 |arr hb hn hu=>exact one (.arr hb hn hu)
 |eptr hb hn hu=>exact one (.eptr hb hn hu)
 |ext hx'=>exact one (.ext hx')
 |undef=>exact .undef _
theorem WP.ren(d k':Nat)(hne:d≠k')(hk':st.h k'=none)(hlt:k'<2000000)(hd2:∀cs f,st.h d≠some (.box cs false f))
 (h:WP C c Q ⟨λn=>aY d k' (st.t n),aL d k' st.h⟩):WP C c Q st:=by
 intro a w hs;obtain⟨L,hm,hN,hdf,htm⟩:=hs
 let L2:Nat->Loc:=λq=>if q=k' then L d else L q
 have hLr:∀{k blk},st.h k=some blk->L2 (rk d k' k)=L k:=by
  intro k blk hk;unfold rk;split
  .rename_i e;subst e;exact if_pos rfl
  .rename_i e
   have:k≠k':=by intro e2;rw[e2,hk']at hk;cases hk
   exact if_neg this
 have get:∀{q b},aL d k' st.h q=some b->∃q0 b0,q=rk d k' q0∧st.h q0=some b0∧b=bN d k' b0:=by
  intro q b hq;unfold aL at hq;split at hq
  .rename_i e
   simp only[Option.map_eq_some_iff]at hq;obtain⟨b0,h1,rfl⟩:=hq;exact⟨d,b0,by simp[rk,e],h1,rfl⟩
  .split at hq
   .cases hq
   .rename_i e1 e2
    simp only[Option.map_eq_some_iff]at hq;obtain⟨b0,h1,rfl⟩:=hq;exact⟨q,b0,by simp[rk,e2],h1,rfl⟩
 have put:∀{k blk},st.h k=some blk->aL d k' st.h (rk d k' k)=some (bN d k' blk):=by
  intro k blk hk;unfold rk;split
  .rename_i e;subst e;simp[aL,hk]
  .rename_i e
   have:k≠k':=by intro e2;rw[e2,hk']at hk;cases hk
   simp[aL,this,e,hk]
 have inj:∀{k k2 b b2},st.h k=some b->st.h k2=some b2->rk d k' k=rk d k' k2->k=k2:=by
  intro k k2 b b2 h1 h2 e
  have n1:k≠k':=by intro e2;rw[e2,hk']at h1;cases h1
  have n2:k2≠k':=by intro e2;rw[e2,hk']at h2;cases h2
  unfold rk at e;split at e<;>split at e
  .rename_i e1 e2;rw[e1,e2]
  .exact absurd e.symm n2
  .exact absurd e n1
  .exact e
 have hM:∀b o,ag C L2 (aL d k' st.h) b o->ag C L st.h b o:=by
  rintro b o (h0|⟨q,b1,hq,hl,hb,hf⟩)
  .exact .inl h0
  .obtain⟨q0,b0,rfl,h1,rfl⟩:=get hq
   rw[hLr h1]at hl hb;exact .inr ⟨q0,b0,h1,rz.1 hl,hb,λh9=>hf (D2.2 h9)⟩
 have hp:Pres w (ag C L st.h) w (ag C L2 (aL d k' st.h)):=Pres.sub hM;have hkk:∀k blk,st.h k=some blk->∃blk',aL d k' st.h (rk d k' k)=some blk'∧dg blk (L k) blk' (L2 (rk d k' k)):=λk blk hk=>⟨_,put hk,by rw[hLr hk];exact Aa _ _ _ _⟩;have hrep:∀{x u},RepA w (ag C L st.h) L st.h x u->RepA w (ag C L2 (aL d k' st.h)) L2 (aL d k' st.h) (aY d k' x) u:=λhx=>BM hp hkk hx;refine h a w ⟨L2,⟨hm.ext,hm.m0,?_,?_,?_⟩,hN,hdf,λn=>hrep (htm n)⟩
 .intro q b hq
  obtain⟨q0,b0,rfl,h1,rfl⟩:=get hq;rw[hLr h1];have hb:=hm.bl q0 b0 h1
  cases b0 with
  |box cs own fz=>
   obtain⟨arr,ty,e,hl,hr⟩:=hb;refine⟨arr,ty,e,by simpa using hl,λi p u hp' hu=>?_⟩;simp only[List.getElem?_map,Option.map_eq_some_iff]at hp';obtain⟨z,hz,rfl⟩:=hp';exact hrep (hr i z u hz hu)
  |row e sz xs fz=>
   obtain⟨a1,a2,a3,a4,a5⟩:=hb;refine⟨a1,a2,a3,a4,λhn=>?_⟩;obtain⟨b1,b2,arr,b3,b4,b5⟩:=a5 hn;exact⟨b1,b2,arr,b3,b4,λi x j p hx hj=>by obtain⟨u,hu,hr⟩:=b5 i x j p hx hj;exact⟨u,hu,hr.mono hp⟩⟩
  |mp kd n es fz=>exact hb
 .intro q q' b1 b2 hqq hq hq' hl hl'
  obtain⟨p1,c1,rfl,d1,rfl⟩:=get hq;obtain⟨p2,c2,rfl,d2,rfl⟩:=get hq';rw[hLr d1]at hl|-;rw[hLr d2]at hl'|-;exact hm.sep p1 p2 c1 c2 (λe=>hqq (by rw[e])) d1 d2 (rz.1 hl) (rz.1 hl')
 .intro q b hq
  obtain⟨q0,b0,rfl,h1,rfl⟩:=get hq;rw[hLr h1];have hown:=hm.own q0 b0 h1;by_cases e:q0=d
  .subst e
   have e1:rk q0 k' q0=k':=by simp[rk]
   rw[e1]
   cases b0 with
   |box cs own fz=>
    cases own with
    |false=>exact absurd h1 (hd2 cs fz)
    |true=>exact hown
   |row e sz xs fz=>
    unfold dT bN;simp only[C.hpr k' hlt];exact λhn=>hown.row hn
   |mp=>exact hown
  .have e1:rk d k' q0=q0:=by simp[rk,e]
   rw[e1]
   cases b0 with
   |box cs own fz=>cases own<;>exact hown
   |row=>exact hown
   |mp=>exact hown
theorem WP.nilRows(K:Nat->Bool)(e kb:Nat){cs cs':List AV}{own fb:Bool}(hb:st.h kb=some (.box cs own fb))(hK:∀q,K q=true->st.h q=none∧q<2000000)
 (hlen:cs'.length=cs.length)(hcs:∀(i:Nat) x,cs'[i]?=some x->cs[i]?=some x∨(cs[i]?=some (.pv (.val (.slice none 0 0)))∧∃q,K q=true∧x=.arr q 0))
 (h:WP C c Q ⟨st.t,λq=>if K q=true then some (.row e 1 [] 0)else if q=kb then some (.box cs' own fb)else st.h q⟩):WP C c Q st:=by
 intro a w hs;obtain⟨L,hm,hN,hdf,htm⟩:=hs
 let L2:Nat->Loc:=λq=>if K q=true then⟨0,0,true⟩else L q
 let h2:Hp:=λq=>if K q=true then some (.row e 1 [] 0)else if q=kb then some (.box cs' own fb)else st.h q
 have hkb:K kb=false:=by
  cases h1:K kb with
  |false=>rfl
  |true=>rw[(hK kb h1).1]at hb;cases hb
 have hL:∀{q b},st.h q=some b->K q=false∧L2 q=L q:=by
  intro q b hq
  have:K q=false:=by
   cases h1:K q with
   |false=>rfl
   |true=>rw[(hK q h1).1]at hq;cases hq
  exact⟨this,by simp[L2,this]⟩
 have get:∀{q b},h2 q=some b->(K q=true∧b=.row e 1 [] 0)∨(K q=false∧q=kb∧b=.box cs' own fb)∨(K q=false∧q≠kb∧st.h q=some b):=by
  intro q b hq;simp only[h2]at hq;split at hq
  .rename_i h1;injection hq with hq;exact .inl ⟨h1,hq.symm⟩
  .rename_i h1
   have h1:K q=false:=by simpa using h1
   split at hq
   .rename_i h3;injection hq with hq;exact .inr (.inl ⟨h1,h3,hq.symm⟩)
   .rename_i h3;exact .inr (.inr ⟨h1,h3,hq⟩)
 have hM:∀b o,ag C L2 h2 b o->ag C L st.h b o:=by
  rintro b o (h0|⟨q,b1,hq,hl,hbb,hf⟩)
  .exact .inl h0
  .rcases get hq with⟨h1,rfl⟩|⟨h1,rfl,rfl⟩|⟨h1,_,h3⟩
   .simp[L2,h1,Blk.live]at hl
   .rw[(hL hb).2]at hbb
    exact .inr ⟨q,_,hb,trivial,hbb,hf⟩
   .rw[(hL h3).2]at hl hbb
    exact .inr ⟨q,b1,h3,hl,hbb,hf⟩
 have hp:Pres w (ag C L st.h) w (ag C L2 h2):=Pres.sub hM
 have hkc:KC L st.h L2 h2:=by
  intro q b hq;obtain⟨h1,h3⟩:=hL hq;rw[h3];by_cases e1:q=kb
  .subst e1
   rw[hb]at hq;injection hq with hq;subst hq;exact⟨.box cs' own fb,by simp[h2,h1],rfl⟩
  .exact⟨b,by simp[h2,h1,e1,hq],bW _ _⟩
 refine h a w ⟨L2,⟨hm.ext,hm.m0,?_,?_,?_⟩,hN,hdf,λn=>(htm n).mono hp hkc⟩
 .intro q b hq
  rcases get hq with⟨h1,rfl⟩|⟨h1,rfl,rfl⟩|⟨h1,_,h3⟩
  .refine⟨Nat.one_pos,Nat.le_refl _,(λx hx=>by cases hx),λ_=>rfl,λhn=>?_⟩
   simp[L2,h1]at hn
  .obtain⟨arr,ty,e1,e2,e3⟩:=hm.bl q _ hb
   refine⟨arr,ty,by rw[(hL hb).2];exact e1,by rw[hlen];exact e2,λi p u hp' hu=>?_⟩;rcases hcs i p hp' with h3|⟨h3,q',h4,rfl⟩
   .exact(e3 i p u h3 hu).mono hp hkc
   .have hv:=e3 i _ u h3 hu
    cases hv with
    |pv hr=>
     rw[aJ hr];refine .arr (xs:=[]) (e:=e) (sz:=1) (fz:=0) (by simp[h2,h4]) (Nat.le_refl _) (λ_=>?_);simp[L2,h4,Loc.slice]
  .rw[(hL h3).2]
   exact(hm.bl q b h3).mono hp hkc (λ_=>rfl)
 .intro q q' b1 b2 hqq hq hq' hl hl'
  have aux:∀{q b},h2 q=some b->b.live (L2 q)->∃b0,st.h q=some b0∧b0.live (L q)∧L2 q=L q:=by
   intro q b hq hl;rcases get hq with⟨h1,rfl⟩|⟨h1,rfl,rfl⟩|⟨h1,_,h3⟩
   .simp[L2,h1,Blk.live]at hl
   .exact⟨_,hb,trivial,(hL hb).2⟩
   .rw[(hL h3).2]at hl;exact⟨b,h3,hl,(hL h3).2⟩
  obtain⟨c1,d1,f1,g1⟩:=aux hq hl;obtain⟨c2,d2,f2,g2⟩:=aux hq' hl';rw[g1,g2];exact hm.sep q q' c1 c2 hqq d1 d2 f1 f2
 .intro q b hq
  rcases get hq with⟨h1,rfl⟩|⟨h1,rfl,rfl⟩|⟨h1,_,h3⟩
  .refine dT.mkRow (hK q h1).2 (λhn=>?_)
   simp[L2,h1]at hn
  .have:=hm.own q _ hb
   rw[(hL hb).2];cases own<;>exact this
  .rw[(hL h3).2];exact hm.own q b h3
attribute [simp] aY aN gR rk bN aL
end Go.Ab
