/- The contracts and facts that the laws of this seat need, in one text (CfB, Tr4, TrE, TrF, Tr8, Tr9, Tr10, Cf16w, Cf18w, TrG, TcS, DcS, Dc3, DcT, Dc1, Dc2, Dc5, Dc6, DcN, Ab41, DcU, AbW, TrH, Dc7, TrS, Ab42, Ab32, Dc13, TrN, TrX, KV, K1, K2, K2b). -/
import Derived.Test.YtdbgcnplnhmjgaaGreatS6
import Derived.Laws.RangeString
import Derived.Laws.RangeAny
import Derived.LoopTactic
set_option linter.all false
set_option maxRecDepth 10000
set_option maxHeartbeats 16000000
namespace Go.Ab
open Go.Proofs
variable {C:Cx}{M:Nat->Nat->Prop}{N c e fz i k l leaf n sz v:Nat}{P:Program}{Q:Exit->St->Prop}{a b d:Int}{aft:Array Edge}{args pre ys:List PV}{ats:Array TypeId}{dst:Option Nat}{f:Operand}{far far':List Int}{g:Option (Nat×Bool)}{h:Hp}{hasF:Nat->Bool}{hn old:List Nat}{js:List J}{nb:Nat->List Nat}{near:List (List Nat)}{o:Oper}{ops:Array Oper}{p q:PV}{pos:String}{st:St}{t:Tr}{tch tch':Nat->Nat->Bool}{ty:TypeId}{w:World}{xs:List Operand}{α:Type}{ρ:Operand->AV}
def oC(b:Nat):Bool:=decide (97<=b)&&decide (b<=122)
def oD(b:Nat):Bool:=decide (48<=b)&&decide (b<=57)
def jf(k b:Nat):Bool:=oC b||(decide (k≠0)&&(oD b||decide (b=95)))
def gn(s:ByteArray):Bool:=(List.range s.size).all λi=>jf i (s[i]!).toNat
def jY(s:ByteArray):Bool:=decide (1<=s.size)&&decide (s.size<=16)&& !(s.toList==[119,111,114,108,100])&&gn s
theorem kV{s:ByteArray}(h:i<s.size)(hb:jf i (s[i]'h).toNat=false):gn s=false:=by
 rw[gn,QJ];exact⟨i,by simpa using h,by rw[getElem!_pos s i h,hb];simp⟩
theorem yE{s:ByteArray}(h:∀i(hi:i<s.size),jf i (s[i]'hi).toNat=true):gn s=true:=by
 rw[gn,Ij];intro i hi
 have hi':i<s.size:=by simpa using hi
 rw[getElem!_pos s i hi'];exact h i hi'
theorem xW{s:ByteArray}{pos:Nat}{hp:pos<s.size}(hc:(s[pos]'hp).toNat=c)(hc':jf pos c=true)(hok:∀i(hi:i<s.size),i<pos->jf i (s[i]'hi).toNat=true):∀i(hi:i<s.size),i<pos+1->jf i (s[i]'hi).toNat=true:=by
 intro i hi h;by_cases e:i=pos
 .subst e;rw[hc];exact hc'
 .exact hok i hi (by omega)
set_option maxRecDepth 1000000 in
theorem Jz(s:ByteArray)(w:World)(h1:¬s.size=0)(h2:¬s.size>16)(h3:(s.toList==[119,111,114,108,100])=false):
 Calls Tryz.prog 168 #[.string s] w λe w'=>e=.returned (.bool (gn s))∧(w'=w∨∃pos,w'=w.iter s pos):=by
 have q1:((s.size:Int)==0)=false:=by simp;intro h;exact h1 (by simp[h])
 have q2:¬((16:Int)<(s.size:Int)):=by omega
 go_enter Tryz.func168,Tryz.ntmps168
 go_wp2
 go_loopw [19] (λ_ w'=>∃pos,w'=w.iter s pos∧∀i(hi:i<s.size),i<pos->jf i (s[i]'hi).toNat=true) (λ_ w'=>s.size-w'.iterPos w.heap.size)
 case atStart=>exact⟨0,rfl,λi hi h=>by omega⟩
 case round=>
  obtain⟨pos,rfl,hok⟩:=hrel;by_cases hp:pos<s.size
  .by_cases ha:(s[pos]'hp).toNat<128
   .have hnx:∀ty,(Instr.next (.pointer (some ⟨w.heap.size,0,none⟩)) true ty).run Tryz.prog (w.iter s pos)=_:=λty=>run_next_ascii w s pos ty hp ha
    generalize hc:(s[pos]'hp).toNat=c at hnx ha
    have key:(97<=c∧c<=122)∨(¬97<=c∧pos=0)∨(97<=c∧¬c<=122∧pos=0)∨(¬97<=c∧¬pos=0∧48<=c∧c<=57)∨(¬97<=c∧¬pos=0∧¬48<=c)∨(¬97<=c∧¬pos=0∧¬c<=57∧c=95)∨(¬97<=c∧¬pos=0∧¬c<=57∧¬c=95)∨(97<=c∧¬c<=122∧¬pos=0):=by omega
    rcases key with⟨k1,k2⟩|⟨k1,k2⟩|⟨k1,k2,k3⟩|⟨k1,k2,k3,k4⟩|⟨k1,k2,k3⟩|⟨k1,k2,k3,k4⟩|⟨k1,k2,k3,k4⟩|⟨k1,k2,k3⟩
    .have m1:(97:Int)<=(c:Int):=by omega
     have m2:(c:Int)<=122:=by omega
     go_wp2
     go_roundw
     case rel=>exact⟨pos+1,rfl,xW hc (by simp[jf,oC,oD];omega) hok⟩
     case measure=>simp;omega
    .have m1:¬(97:Int)<=(c:Int):=by omega
     subst k2;have hb:gn s=false:=kV hp (by rw[hc];simp[jf,oC,oD];omega)
     go_wp2
     go_ret
     exact⟨by first|rfl|(rw[hb];rfl),.inr ⟨_,rfl⟩⟩
    .have m1:(97:Int)<=(c:Int):=by omega
     have m2:¬(c:Int)<=122:=by omega
     subst k3;have hb:gn s=false:=kV hp (by rw[hc];simp[jf,oC,oD];omega)
     go_wp2
     go_ret
     exact⟨by first|rfl|(rw[hb];rfl),.inr ⟨_,rfl⟩⟩
    .have m1:¬(97:Int)<=(c:Int):=by omega
     have m2:((pos:Int)==0)=false:=by simp;omega
     have m3:(48:Int)<=(c:Int):=by omega
     have m4:(c:Int)<=57:=by omega
     go_wp2
     go_roundw
     case rel=>exact⟨pos+1,rfl,xW hc (by simp[jf,oC,oD];omega) hok⟩
     case measure=>simp;omega
    .have m1:¬(97:Int)<=(c:Int):=by omega
     have m2:((pos:Int)==0)=false:=by simp;omega
     have m3:¬(48:Int)<=(c:Int):=by omega
     have m4:((c:Int)!=95)=true:=by simp;omega
     have hb:gn s=false:=kV hp (by rw[hc];simp[jf,oC,oD];omega)
     go_wp2
     go_ret
     exact⟨by first|rfl|(rw[hb];rfl),.inr ⟨_,rfl⟩⟩
    .have m1:¬(97:Int)<=(c:Int):=by omega
     have m2:((pos:Int)==0)=false:=by simp;omega
     have m3:(48:Int)<=(c:Int):=by omega
     have m5:¬(c:Int)<=57:=by omega
     have m4:((c:Int)!=95)=false:=by simp;omega
     go_wp2
     go_roundw
     case rel=>exact⟨pos+1,rfl,xW hc (by simp[jf,oC,oD];omega) hok⟩
     case measure=>simp;omega
    .have m1:¬(97:Int)<=(c:Int):=by omega
     have m2:((pos:Int)==0)=false:=by simp;omega
     have m3:(48:Int)<=(c:Int):=by omega
     have m5:¬(c:Int)<=57:=by omega
     have m4:((c:Int)!=95)=true:=by simp;omega
     have hb:gn s=false:=kV hp (by rw[hc];simp[jf,oC,oD];omega)
     go_wp2
     go_ret
     exact⟨by first|rfl|(rw[hb];rfl),.inr ⟨_,rfl⟩⟩
    .have m1:(97:Int)<=(c:Int):=by omega
     have m6:¬(c:Int)<=122:=by omega
     have m2:((pos:Int)==0)=false:=by simp;omega
     have m3:(48:Int)<=(c:Int):=by omega
     have m5:¬(c:Int)<=57:=by omega
     have m4:((c:Int)!=95)=true:=by simp;omega
     have hb:gn s=false:=kV hp (by rw[hc];simp[jf,oC,oD];omega)
     go_wp2
     go_ret
     exact⟨by first|rfl|(rw[hb];rfl),.inr ⟨_,rfl⟩⟩
   .have hnx:∀ty,(Instr.next (.pointer (some ⟨w.heap.size,0,none⟩)) true ty).run Tryz.prog (w.iter s pos)=_:=λty=>run_next_any w s pos ty hp
    have hh:=(decode_high s pos hp (by omega)).1;generalize(Utf8.decode s pos).1=c at hnx hh;generalize(Utf8.decode s pos).2=wd at hnx;have hb:gn s=false:=kV hp (by simp[jf,oC,oD];omega)
    have m1:(97:Int)<=(c:Int):=by omega
    have m6:¬(c:Int)<=122:=by omega
    have m3:(48:Int)<=(c:Int):=by omega
    have m5:¬(c:Int)<=57:=by omega
    have m4:((c:Int)!=95)=true:=by simp;omega
    by_cases k0:pos=0
    .subst k0
     go_wp2
     go_ret
     exact⟨by first|rfl|(rw[hb];rfl),.inr ⟨_,rfl⟩⟩
    .have m2:((pos:Int)==0)=false:=by simp;omega
     go_wp2
     go_ret
     exact⟨by first|rfl|(rw[hb];rfl),.inr ⟨_,rfl⟩⟩
  .have hnx:∀ty,(Instr.next (.pointer (some ⟨w.heap.size,0,none⟩)) true ty).run Tryz.prog (w.iter s pos)=_:=λty=>run_next_end w s pos ty hp
   go_wp2
   go_ret
   exact⟨by rw[yE (λi hi=>hok i hi (by omega))];rfl,.inr ⟨_,rfl⟩⟩
set_option maxRecDepth 1000000 in
theorem HS(s:ByteArray)(w:World)(h:s.size=0∨s.size>16∨(s.toList==[119,111,114,108,100])=true):
 Calls Tryz.prog 168 #[.string s] w λe w'=>e=.returned (.bool false)∧w'=w:=by
 by_cases h1:s.size=0
 .have q1:((s.size:Int)==0)=true:=by simp[h1]
  go_enter Tryz.func168,Tryz.ntmps168
  go_wp2
  go_ret
  exact⟨rfl,rfl⟩
 .have q1:((s.size:Int)==0)=false:=by simp;intro h;exact h1 (by simp[h])
  by_cases h2:s.size>16
  .have q2:((16:Int)<(s.size:Int)):=by omega
   go_enter Tryz.func168,Tryz.ntmps168
   go_wp2
   go_ret
   exact⟨rfl,rfl⟩
  .have q2:¬((16:Int)<(s.size:Int)):=by omega
   have h3:(s.toList==[119,111,114,108,100])=true:=by rcases h with h|h|h<;>first|exact absurd h h1|exact absurd h h2|exact h
   go_enter Tryz.func168,Tryz.ntmps168
   go_wp2
   go_ret
   exact⟨rfl,rfl⟩
theorem zj(s:ByteArray):ab Tryz.prog 168 [.pv (.val (.string s))] [] [] (.pv (B (jY s))):=by
 refine⟨by kernel_rfl,rfl,λw M bs vs hM hbs hnd hbox hlen harg=>?_⟩
 match vs,hlen with
 |[v],_=>
  have hv:Rep w M (.val (.string s)) v:=harg 0 _ _ rfl rfl;cases hv;have ext0:Ext (·∈bs) w w:=Ext.refl _ _;have exti:∀pos,Ext (·∈bs) w (w.iter s pos):=λpos=>Ext.alloc _ _ _
  have hb0:bs=[]:=by cases bs with
   |nil=>rfl
   |cons b r=>simp at hbs
  subst hb0;by_cases h:s.size=0∨s.size>16∨(s.toList==[119,111,114,108,100])=true
  .have hf:jY s=false:=by
    unfold jY;rcases h with h|h|h
    .simp[h]
    .simp;omega
    .simp[h]
   refine(HS s w h).mono ?_;rintro e w' ⟨rfl,rfl⟩;exact⟨_,rfl,ext0,λi b ps h=>by simp at h,by rw[hf];exact .val _⟩
  .have h1:¬s.size=0:=λe=>h (.inl e)
   have h2:¬s.size>16:=λe=>h (.inr (.inl e))
   have h3:(s.toList==[119,111,114,108,100])=false:=by
    cases hq:s.toList==[119,111,114,108,100]with
    |false=>rfl
    |true=>exact absurd (.inr (.inr hq)) h
   have hf:jY s=gn s:=by
    unfold jY;rw[h3]
    have a1:decide (1<=s.size)=true:=by simp;omega
    have a2:decide (s.size<=16)=true:=by simp;omega
    rw[a1,a2];simp
   refine(Jz s w h1 h2 h3).mono ?_;rintro e w' ⟨rfl,hw⟩;rcases hw with rfl|⟨pos,rfl⟩
   .exact⟨_,rfl,ext0,λi b ps h=>by simp at h,by rw[hf];exact .val _⟩
   .exact⟨_,rfl,exti pos,λi b ps h=>by simp at h,by rw[hf];exact .val _⟩
theorem Gt{N B:Int}(hN:0<N)(h1:-B<=a)(h2:a<=B):-B<=a/N∧a/N<=B:=by
 have hB:0<=B:=by omega
 constructor
 .have:(-B)*N<=a:=by
   have:(-B)*N<=(-B)*1:=Int.mul_le_mul_of_nonpos_left (by omega) (by omega);omega
  exact(VD hN).2 this
 .have:a/N<B+1:=(VE hN).2 (by
   have:(B+1)*1<=(B+1)*N:=Oq (by omega) (by omega)
   omega)
  omega
def Ax(x:Int):Prop:=-2147483648<=x∧x<=2147483648
def JA(x:AV)(fb:Option dl):Option dl:=match x with
 |.pv (.val (.string s))=>some (.pv (Z s.size),[])
 |_=>fb
@[simp] theorem P5(s:ByteArray)(fb:Option dl):JA (.pv (.val (.string s))) fb=some (.pv (Z s.size),[]):=rfl
theorem L6(x:Operand)(s:ByteArray):
 bR Tryz.prog ⟨dst,.call ⟨.builtin .len,#[x],#[9]⟩,ty,pos,aft,g⟩ (λ_=>.pv (.val (.string s)))=some (.pv (Z s.size),[]):=by kernel_rfl
@[simp] theorem T6(x:Operand):
 bR Tryz.prog ⟨dst,.call ⟨.builtin .len,#[x],#[9]⟩,ty,pos,aft,g⟩ ρ=JA (ρ x) (jN Tryz.prog ⟨dst,.call ⟨.builtin .len,#[x],#[9]⟩,ty,pos,aft,g⟩ ρ):=by
 unfold JA;split
 .rename_i s hs
  rw[<-L6 (dst:=dst) (ty:=ty) (pos:=pos) (aft:=aft) (g:=g) x s];refine r7 (by intro _ _ h;cases h) ?_;intro y hy;simp[Op.operands,Call.operands]at hy;subst hy;exact hs
 .rfl
theorem Ay:(ByteArray.mk #[119,111,114,108,100]).toList=[119,111,114,108,100]:=by decide +kernel
theorem JB{s:ByteArray}(h:i<s.size):s[i]?=some (s[i]'h):=by simp[h]
theorem Nm(s:ByteArray):ab Tryz.prog 156 [.pv (.val (.string s))] [] [] (.pv (B (jY s))):=by
 by_cases h1:s.size<1
 .have hf:jY s=false:=by unfold jY;simp;omega
  have h1':(s.size:Int)<1:=by omega
  rw[hf];refine Dp Tryz.func156 ?_;intro C hP hN;simp only[Tryz.f156]at hN|-;exact Gy
 have h1':¬(s.size:Int)<1:=by omega
 by_cases h2:16<s.size
 .have hf:jY s=false:=by unfold jY;simp;omega
  have h2':(16:Int)<s.size:=by omega
  rw[hf];refine Dp Tryz.func156 ?_;intro C hP hN;simp only[Tryz.f156]at hN|-;exact Gy
 have h2':¬(16:Int)<s.size:=by omega
 cases h3:s.toList==[119,111,114,108,100]with
 |true=>
  have hf:jY s=false:=by unfold jY;simp[h3]
  have h3':(s.toList==(ByteArray.mk #[119,111,114,108,100]).toList)=true:=by rw[Ay];exact h3
  rw[hf];refine Dp Tryz.func156 ?_;intro C hP hN;simp only[Tryz.f156]at hN|-;exact Gy
 |false=>
  have hf:jY s=gn s:=by
   unfold jY;rw[h3]
   have a1:decide (1<=s.size)=true:=by simp;omega
   have a2:decide (s.size<=16)=true:=by simp;omega
   rw[a1,a2];simp
  have h3':(s.toList==(ByteArray.mk #[119,111,114,108,100]).toList)=false:=by rw[Ay];exact h3
  rw[hf];refine Dp Tryz.func156 ?_;intro C hP hN;simp only[Tryz.f156]at hN|-;refine Gz ?_;refine WP.loopN [] s.size (λi st=>st.t 0=.pv (.val (.string s))∧st.t 3=.pv (Z i)∧∀k(hk:k<s.size),k<i->jf k (s[k]'hk).toNat=true) (by simp) ?_;rintro i st hi ⟨g0,g3,hok⟩;by_cases hlt:i<s.size
  .have hw:IntKind.i64.wrap ((i:Int)+1)=(i:Int)+1:=by rw[IntKind.wrap_i64];omega
   have hlt':(i:Int)<s.size:=by omega
   have hb:=JB hlt;have hno:jf i (s[i]'hlt).toNat=false->gn s=false:=kV hlt;have hyes:jf i (s[i]'hlt).toNat=true->∀k(hk:k<s.size),k<i+1->jf k (s[k]'hk).toNat=true:=λh=>xW rfl h hok;generalize s[i]'hlt=b at hno hyes hb
   with_reducible repeat' (first|refine Sp.h ?_|((first|refine Ss.h ?_|(refine Sb.h ?_ ?_ ?_<;>(try intro hgd)<;>try exact Xy))<;>simp -implicitDefEqProofs (maxSteps:=2000000) [hP,hN,g0,g3,hlt',hb,hw])|refine X2 ?_ ?_|(refine Xd ?_ ?_<;>intro hcd<;>try exact Xx))
   all_goals clear hw hP hN g0 g3 hb hok h3 h3' hf h1 h1' h2 h2'
   all_goals first|(refine hno ?_;clear hno hyes;simp[jf,oC,oD]at *;done)|(refine hno ?_;clear hno hyes;simp[jf,oC,oD]at *;omega)|(refine⟨hlt,hyes ?_⟩;clear hno hyes;simp[jf,oC,oD]at *;done)|(refine⟨hlt,hyes ?_⟩;clear hno hyes;simp[jf,oC,oD]at *;omega)
  .have hlt':¬(i:Int)<s.size:=by omega
   refine Gz ?_;exact yE (λk hk=>hok k hk (by omega))
def gG(x m:Int):Bool:=decide (-m<=x)&&decide (x<=m)
def ij(x y z m:Int):Bool:=gG x m&&gG y m&&gG z m
abbrev oE(x y z:Int):PV:=.val (.agg #[.int .i64 x,.int .i64 y,.int .i64 z])
theorem BP:IntKind.i64.wrap 1=1:=by decide
theorem BQ:IntKind.i64.wrap 2=2:=by decide
theorem BR:IntKind.i64.wrap 3=3:=by decide
theorem Nn(h:i<=3):i=0∨i=1∨i=2∨i=3:=by omega
theorem Gu(x y z:Int):ab Tryz.prog 170 [.pv (oE x y z)] [] [] (.pv (B (!ij x y z 4194304))):=by
 refine Dp Tryz.func170 ?_;intro C hP hN;simp only[Tryz.f170]at hN|-;refine Gz ?_;refine WP.loopN [] 3 (λi st=>st.t 5=.pv (oE x y z)∧st.t 6=.pv (Z i)∧(0<i->gG x 4194304=true)∧(1<i->gG y 4194304=true)∧(2<i->gG z 4194304=true)) (by simp) ?_;rintro i st hi ⟨h5,h6,q0,q1,q2⟩;rcases Nn hi with rfl|rfl|rfl|rfl
 .skip
  with_reducible repeat' (first|refine Sp.h ?_|((first|refine Ss.h ?_|(refine Sb.h ?_ ?_ ?_<;>(try intro hgd)<;>try exact Xy))<;>simp -implicitDefEqProofs (maxSteps:=2000000) [hP,hN,h5,h6])|refine X2 ?_ ?_|(refine Xd ?_ ?_<;>intro hcd<;>try exact Xx))
  all_goals (simp[ij,gG,BP,BQ,BR]at *;first|omega|grind)
 .skip
  with_reducible repeat' (first|refine Sp.h ?_|((first|refine Ss.h ?_|(refine Sb.h ?_ ?_ ?_<;>(try intro hgd)<;>try exact Xy))<;>simp -implicitDefEqProofs (maxSteps:=2000000) [hP,hN,h5,h6])|refine X2 ?_ ?_|(refine Xd ?_ ?_<;>intro hcd<;>try exact Xx))
  all_goals (simp[ij,gG,BP,BQ,BR]at *;first|omega|grind)
 .skip
  with_reducible repeat' (first|refine Sp.h ?_|((first|refine Ss.h ?_|(refine Sb.h ?_ ?_ ?_<;>(try intro hgd)<;>try exact Xy))<;>simp -implicitDefEqProofs (maxSteps:=2000000) [hP,hN,h5,h6])|refine X2 ?_ ?_|(refine Xd ?_ ?_<;>intro hcd<;>try exact Xx))
  all_goals (simp[ij,gG,BP,BQ,BR]at *;first|omega|grind)
 .skip
  refine Gz ?_
  all_goals (simp[ij,gG,BP,BQ,BR]at *;first|omega|grind)
theorem sd(x y z m:Int)(hm:0<=m)(hm':m<4611686018427387904):ab Tryz.prog 104 [.pv (oE x y z),.pv (Z m)] [] [] (.pv (B (ij x y z m))):=by
 have hw:IntKind.i64.wrap (0-m)=-m:=(aa (n:=0-m) (by omega) (by omega)).trans (by omega);have hw2:IntKind.i64.wrap (-m)=-m:=aa;refine Dp Tryz.func104 ?_;intro C hP hN;simp only[Tryz.f104]at hN|-;refine Gz ?_;refine WP.loopN [] 3 (λi st=>st.t 1=.pv (Z m)∧st.t 2=.ptr 2 0∧st.h 2=some (.box [.pv (Z x),.pv (Z y),.pv (Z z)] true false)∧st.t 5=.pv (Z i)∧(0<i->gG x m=true)∧(1<i->gG y m=true)∧(2<i->gG z m=true)) (by simp) ?_;rintro i st hi ⟨h1,h2,hb,h5,q0,q1,q2⟩;rcases Nn hi with rfl|rfl|rfl|rfl
 .skip
  with_reducible repeat' (first|refine Sp.h ?_|((first|refine Ss.h ?_|(refine Sb.h ?_ ?_ ?_<;>(try intro hgd)<;>try exact Xy))<;>simp -implicitDefEqProofs (maxSteps:=2000000) [hP,hN,h1,h2,hb,h5,hw,hw2])|refine X2 ?_ ?_|(refine Xd ?_ ?_<;>intro hcd<;>try exact Xx))
  all_goals (simp[ij,gG,BP,BQ,BR]at *;first|omega|grind)
 .skip
  with_reducible repeat' (first|refine Sp.h ?_|((first|refine Ss.h ?_|(refine Sb.h ?_ ?_ ?_<;>(try intro hgd)<;>try exact Xy))<;>simp -implicitDefEqProofs (maxSteps:=2000000) [hP,hN,h1,h2,hb,h5,hw,hw2])|refine X2 ?_ ?_|(refine Xd ?_ ?_<;>intro hcd<;>try exact Xx))
  all_goals (simp[ij,gG,BP,BQ,BR]at *;first|omega|grind)
 .skip
  with_reducible repeat' (first|refine Sp.h ?_|((first|refine Ss.h ?_|(refine Sb.h ?_ ?_ ?_<;>(try intro hgd)<;>try exact Xy))<;>simp -implicitDefEqProofs (maxSteps:=2000000) [hP,hN,h1,h2,hb,h5,hw,hw2])|refine X2 ?_ ?_|(refine Xd ?_ ?_<;>intro hcd<;>try exact Xx))
  all_goals (simp[ij,gG,BP,BQ,BR]at *;first|omega|grind)
 .skip
  refine Gz ?_
  all_goals (simp[ij,gG,BP,BQ,BR]at *;first|omega|grind)
def bA(x a b:Int):Bool:=decide (a<=x)&&decide (x<=b)
theorem Np(x m:Int):ab Tryz.prog 172 [.pv (Z x),.pv (Z m)] [] [] (.pv (B (bA x 1 m))):=by
 refine Dp Tryz.func172 ?_;intro C hP hN;simp only[Tryz.f172]at hN|-
 with_reducible repeat' (first|refine Sp.h ?_|((first|refine Ss.h ?_|(refine Sb.h ?_ ?_ ?_<;>(try intro hgd)<;>try exact Xy))<;>simp -implicitDefEqProofs (maxSteps:=2000000) [hP,hN])|refine X2 ?_ ?_|(refine Xd ?_ ?_<;>intro hcd<;>try exact Xx))
 all_goals (first|(simp_all[bA];done)|((try simp_all[bA])<;>(try omega)<;>grind))
theorem Gv(x a b:Int):ab Tryz.prog 103 [.pv (Z x),.pv (Z a),.pv (Z b)] [] [] (.pv (B (bA x a b))):=by
 refine Dp Tryz.func103 ?_;intro C hP hN;simp only[Tryz.f103]at hN|-
 with_reducible repeat' (first|refine Sp.h ?_|((first|refine Ss.h ?_|(refine Sb.h ?_ ?_ ?_<;>(try intro hgd)<;>try exact Xy))<;>simp -implicitDefEqProofs (maxSteps:=2000000) [hP,hN])|refine X2 ?_ ?_|(refine Xd ?_ ?_<;>intro hcd<;>try exact Xx))
 all_goals (first|(simp_all[bA];done)|((try simp_all[bA])<;>(try omega)<;>grind))
def Az(k:Int):Int:=if k=1∨k=2∨k=3 then 524288 else if k=4∨k=5∨k=6 then 4194304 else 0
def eY(k:Int):Int:=if k=0 then 0 else if k=1∨k=2∨k=3 then 524288 else 4194304
theorem QX(k:Int):ab Tryz.prog 171 [.pv (Z k)] [] [] (.pv (Z (Az k))):=by
 refine Dp Tryz.func171 ?_;intro C hP hN;simp only[Tryz.f171]at hN|-
 with_reducible repeat' (first|refine Sp.h ?_|((first|refine Ss.h ?_|(refine Sb.h ?_ ?_ ?_<;>(try intro hgd)<;>try exact Xy))<;>simp -implicitDefEqProofs (maxSteps:=2000000) [hP,hN])|refine X2 ?_ ?_|(refine Xd ?_ ?_<;>intro hcd<;>try exact Xx))
 all_goals (simp[Az]at *;first|omega|grind)
theorem Nq(k:Int):ab Tryz.prog 157 [.pv (Z k)] [] [] (.pv (Z (eY k))):=by
 refine Dp Tryz.func157 ?_;intro C hP hN;simp only[Tryz.f157]at hN|-
 with_reducible repeat' (first|refine Sp.h ?_|((first|refine Ss.h ?_|(refine Sb.h ?_ ?_ ?_<;>(try intro hgd)<;>try exact Xy))<;>simp -implicitDefEqProofs (maxSteps:=2000000) [hP,hN])|refine X2 ?_ ?_|(refine Xd ?_ ?_<;>intro hcd<;>try exact Xx))
 all_goals (simp[eY]at *;first|omega|grind)
theorem ER{k:Int}(h0:0<=k)(h6:k<=6):Az k=eY k:=by
 have:k=0∨k=1∨k=2∨k=3∨k=4∨k=5∨k=6:=by omega
 rcases this with rfl|rfl|rfl|rfl|rfl|rfl|rfl<;>rfl
def mo(a b:ByteArray):Bool:=a.toList==b.toList
theorem QZ(js:List J)(ms:List Ms)(name:ByteArray)(hl:js.length<=9223372036854775807):ab Tryz.prog 169 [.pv (gF js ms),.pv (.val (.string name))] [] [] (.pv (Z (pc (λj=>mo j.name name) js))):=by
 refine Dp Tryz.func169 ?_;intro C hP hN;simp only[Tryz.f169]at hN|-;refine Gz ?_;refine WP.loopN [] js.length (λi st=>st.t 1=.pv (.val (.string name))∧st.t 2=.ptr 2 0∧st.h 2=some (.box [.pv (.sl (js.map bC)),.pv (.sl (ms.map IT))] true false)∧st.t 8=.pv (Z js.length)∧st.t 9=.pv (Z i)∧∀j x,j<i->js[j]?=some x->mo x.name name=false) (by simp) ?_;rintro i st hi ⟨h1,h2,hb,h8,h9,hq⟩;by_cases hlt:i<js.length
 .have hw:=al hlt hl
  with_reducible repeat' (first|refine Sp.h ?_|((first|refine Ss.h ?_|(refine Sb.h ?_ ?_ ?_<;>(try intro hgd)<;>try exact Xy))<;>simp -implicitDefEqProofs (maxSteps:=2000000) [hP,hN,h1,h2,hb,h8,h9,hlt,hw])|refine X2 ?_ ?_|(refine Xd ?_ ?_<;>intro hcd<;>try exact Xx))
  .exact(rn hlt hq hcd).symm
  .simpa using qf hlt hq hcd
 .skip
  refine Gz ?_;exact(wN (zg hlt hq)).symm
def tM(js:List J)(i:Nat)(name:ByteArray):Bool:=(js.take i).any λj=>mo j.name name
theorem JC(h:i<js.length):(pc (λj=>mo j.name js[i].name) js !=(i:Int))=tM js i js[i].name:=by
 have hs:mo js[i].name js[i].name=true:=by simp[mo]
 cases hd:tM js i js[i].name with
 |false=>
  have:pc (λj=>mo j.name js[i].name) js=i:=rn h (λj x hj hx=>by
   rw[tM,Te]at hd;have hm:x∈js.take i:=HW (by rw[KN,IR hj];exact hx)
   simpa using hd x hm) hs
  rw[this];simp
 |true=>
  rw[tM,T4]at hd;obtain⟨x,hx,hp⟩:=hd;obtain⟨k,hk⟩:=LV hx;rw[KN]at hk;split at hk
  .rename_i hki
   simp only[bne_iff_ne,ne_eq];intro he;unfold pc at he
   cases hf:js.findIdx? (λj=>mo j.name js[i].name)with
   |none=>
    rw[hf]at he;simp at he
   |some m=>
    rw[hf]at he;have he':(m:Int)=(i:Int):=he
    have he:m=i:=by omega
    clear he';subst he;rw[UV]at hf;obtain⟨hl,_,hno⟩:=hf;have hkl:=(th.1 hk);have:=hno k hki;rw[hkl.2]at this;exact this hp
  .cases hk
def dj(js:List J)(i:Nat)(j:J):Int:=
 if(!jY j.name||tM js i j.name)=true then 802 else if j.kind<0∨6<j.kind then 803 else if j.parent< -1∨(i:Int)<=j.parent then 804 else if ij j.ox j.oy j.oz 4194304=false then 805
 else if j.hi<j.lo∨j.lo< -eY j.kind∨eY j.kind<j.hi then 806 else if(bA j.w 1 1024&&bA j.sp 1 1048576&&bA j.ac 1 1048576&&bA j.tq 1 1099511627776)=false then 807 else 0
theorem tN(k:Int):0<=eY k∧eY k<=4194304:=by unfold eY;repeat' split
                                            all_goals omega
theorem Nr(js:List J)(ms:List Ms)(i:Nat)(hl:js.length<=9223372036854775807)(hi:i<js.length):ab Tryz.prog 120 [.pv (gF js ms),.pv (Z i)] [] [] (.pv (Z (dj js i js[i]))):=by
 have hx:=an hi;have hfd:=JC hi;have cf:=QZ js ms js[i].name hl;generalize hxx:js[i]=j at hx hfd cf|-;have hr:=tN j.kind;have hng:IntKind.i64.wrap (0-eY j.kind)=-eY j.kind:=(aa (n:=0-eY j.kind) (by omega) (by omega)).trans (by omega);have hng':IntKind.i64.wrap (-eY j.kind)=-eY j.kind:=aa;generalize pc (λk=>mo k.name j.name) js=q at hfd cf;refine Dp Tryz.func120 ?_;intro C hP hN;simp only[Tryz.f120]at hN|-
 cases hn:jY j.name with
 |false=>
  have q1:=@zj;refine GT (gA hx (gA hxx (gA hn hi))) ?_
  all_goals simp[dj,hn]
 |true=>
  cases hd:tM js i j.name with
  |true=>
   rw[hd]at hfd;have q1:=@zj;refine GT (gA hx (gA hxx (gA hn (gA hi hfd)))) ?_
   all_goals simp[dj,hn,hd]
  |false=>
   rw[hd]at hfd;by_cases hk:j.kind<0∨6<j.kind
   .skip
    with_reducible repeat' (first|refine Sp.h ?_|((first|refine Ss.h ?_|refine Sc.h (zj _) ?_|refine Sc.h (cf) ?_|(refine Sb.h ?_ ?_ ?_<;>(try intro hgd)<;>try exact Xy))<;>simp -implicitDefEqProofs (maxSteps:=2000000) [hP,hN,hx,hxx,hn,hi,hfd])|refine X2 ?_ ?_|(refine Xd ?_ ?_<;>intro hcd<;>try exact Xx))
    all_goals (first|(simp[dj,hn,hd,hk];done)|(exfalso;simp at *;omega))
   .have hlr:Az j.kind=eY j.kind:=ER (by omega) (by omega)
    have cl:=QX j.kind;rw[hlr]at cl
    have k1:¬j.kind<0:=by omega
    have k2:¬6<j.kind:=by omega
    by_cases hp:j.parent< -1∨(i:Int)<=j.parent
    .skip
     with_reducible repeat' (first|refine Sp.h ?_|((first|refine Ss.h ?_|refine Sc.h (zj _) ?_|refine Sc.h (cf) ?_|(refine Sb.h ?_ ?_ ?_<;>(try intro hgd)<;>try exact Xy))<;>simp -implicitDefEqProofs (maxSteps:=2000000) [hP,hN,hx,hxx,hn,hi,hfd,k1,k2])|refine X2 ?_ ?_|(refine Xd ?_ ?_<;>intro hcd<;>try exact Xx))
     all_goals (first|(simp[dj,hn,hd,hk,hp];done)|(exfalso;simp at *;omega))
    .have p1:¬j.parent< -1:=by omega
     have p2:¬(i:Int)<=j.parent:=by omega
     cases hv:ij j.ox j.oy j.oz 4194304 with
     |false=>
      have q1:=@zj;have q2:=@Gu;refine GT (gA hx (gA hxx (gA hn (gA hi (gA hfd (gA k1 (gA k2 (gA p1 (gA p2 hv))))))))) ?_
      all_goals (simp[dj,hn,hd,hk,hp,hv])
     |true=>
      by_cases hb:j.hi<j.lo∨j.lo< -eY j.kind∨eY j.kind<j.hi
      .skip
       with_reducible repeat' (first|refine Sp.h ?_|((first|refine Ss.h ?_|refine Sc.h (zj _) ?_|refine Sc.h (cf) ?_|refine Sc.h (Gu _ _ _) ?_|refine Sc.h (cl) ?_|(refine Sb.h ?_ ?_ ?_<;>(try intro hgd)<;>try exact Xy))<;>simp -implicitDefEqProofs (maxSteps:=2000000) [hP,hN,hx,hxx,hn,hi,hfd,k1,k2,p1,p2,hv,hng,hng'])|refine X2 ?_ ?_|(refine Xd ?_ ?_<;>intro hcd<;>try exact Xx))
       all_goals (first|(simp[dj,hn,hd,hk,hp,hv,hb];done)|(exfalso;simp at *;omega))
      .have b1:¬j.hi<j.lo:=by omega
       have b2:¬j.lo< -eY j.kind:=by omega
       have b3:¬eY j.kind<j.hi:=by omega
       with_reducible repeat' (first|refine Sp.h ?_|((first|refine Ss.h ?_|refine Sc.h (zj _) ?_|refine Sc.h (cf) ?_|refine Sc.h (Gu _ _ _) ?_|refine Sc.h (cl) ?_|refine Sc.h (Np _ _) ?_|(refine Sb.h ?_ ?_ ?_<;>(try intro hgd)<;>try exact Xy))<;>simp -implicitDefEqProofs (maxSteps:=2000000) [hP,hN,hx,hxx,hn,hi,hfd,k1,k2,p1,p2,hv,hng,hng',b1,b2,b3])|refine X2 ?_ ?_|(refine Xd ?_ ?_<;>intro hcd<;>try exact Xx))
       all_goals (rw[dj,Ik (by simp[hn,hd]),Ik hk,Ik hp,Ik (by simp[hv]),Ik hb];simp_all)
abbrev Q0(j:J):List AV:=[.pv (.val (.string j.name)),.pv (Z j.kind),.pv (Z j.parent),.pv (Z j.ox),.pv (Z j.oy),.pv (Z j.oz),.pv (Z j.lo),.pv (Z j.hi),.pv (Z j.w),.pv (Z j.sp),.pv (Z j.ac),.pv (Z j.tq)]
theorem L7{n:ByteArray}(hk:k<i)(hl:k<js.length)(h:mo js[k].name n=true):tM js i n=true:=by
 rw[tM,T4];exact⟨js[k],HW (i:=k) (by rw[KN,IR hk];exact an hl),h⟩
theorem Ns{n:ByteArray}(h:∀m x,m<i->js[m]?=some x->mo x.name n=false):tM js i n=false:=by
 rw[tM,Te];intro x hx;obtain⟨m,hm⟩:=LV hx;rw[KN]at hm;split at hm
 .rename_i h';simp[h m x h' hm]
 .cases hm
theorem Nt(js:List J)(i:Nat)(hl:js.length<=9223372036854775807)(hi:i<js.length):ab Tryz.prog 102 [.pv (.sl (js.map bC)),.pv (Z i)] [] [] (.pv (Z (dj js i js[i]))):=by
 have hx:=an hi;generalize hxx:js[i]=j at hx|-;have hr:=tN j.kind;have hng:IntKind.i64.wrap (0-eY j.kind)=-eY j.kind:=(aa (n:=0-eY j.kind) (by omega) (by omega)).trans (by omega);have hng':IntKind.i64.wrap (-eY j.kind)=-eY j.kind:=aa;refine Dp Tryz.func102 ?_;intro C hP hN;simp only[Tryz.f102]at hN|-
 cases hn:jY j.name with
 |false=>
  have q1:=@Nm;refine GT (gA hx (gA hxx (gA hn hi))) ?_
  all_goals simp[dj,hn]
 |true=>
  have q1:=@Nm;refine GT (gA hx (gA hxx (gA hn hi))) ?_;refine WP.loopN [] i (λk st=>st.t 0=.pv (.sl (js.map bC))∧st.t 1=.pv (Z i)∧st.t 5=.ptr 5 0∧st.h 5=some (.box (Q0 j) true false)∧st.t 6=.pv (Z k)∧∀m x,m<k->js[m]?=some x->mo x.name j.name=false) (by simp) ?_;rintro k st hk ⟨g0,g1,g5,hb5,g6,hq⟩;by_cases hlt:k<i
  .have hlt':k<js.length:=by omega
   have hw:=al hlt' hl
   have hlti:(k:Int)<(i:Int):=by omega
   cases hs:mo js[k].name j.name with
   |true=>
    have hs':(js[k].name.toList==j.name.toList)=true:=hs;have hd:=L7 hlt hlt' hs;refine Gz ?_
    all_goals simp[dj,hn,hd]
   |false=>
    have hs':(js[k].name.toList==j.name.toList)=false:=hs;refine Gz ?_
    all_goals simpa using qf hlt' hq hs
  .have hki:k=i:=by omega
   subst hki;have hd:=Ns hq;by_cases hk:j.kind<0∨6<j.kind
   .skip
    with_reducible repeat' (first|refine Sp.h ?_|((first|refine Wd ?_|refine Ss.h ?_|(refine Sb.h ?_ ?_ ?_<;>(try intro hgd)<;>try exact Xy))<;>simp -implicitDefEqProofs (maxSteps:=2000000) [hP,hN,g0,g1,g5,hb5,g6]<;>try refine Ya ?_)|refine X2 ?_ ?_|(refine Xd ?_ ?_<;>intro hcd<;>try exact Xx))
    all_goals (first|(simp[dj,hn,hd,hk];done)|(exfalso;simp at *;omega))
   .have k1:¬j.kind<0:=by omega
    have k2:¬6<j.kind:=by omega
    by_cases hp:j.parent< -1∨(k:Int)<=j.parent
    .skip
     with_reducible repeat' (first|refine Sp.h ?_|((first|refine Wd ?_|refine Ss.h ?_|(refine Sb.h ?_ ?_ ?_<;>(try intro hgd)<;>try exact Xy))<;>simp -implicitDefEqProofs (maxSteps:=2000000) [hP,hN,g0,g1,g5,hb5,g6,k1,k2]<;>try refine Ya ?_)|refine X2 ?_ ?_|(refine Xd ?_ ?_<;>intro hcd<;>try exact Xx))
     all_goals (first|(simp[dj,hn,hd,hk,hp];done)|(exfalso;simp at *;omega))
    .have p1:¬j.parent< -1:=by omega
     have p2:¬(k:Int)<=j.parent:=by omega
     cases hv:ij j.ox j.oy j.oz 4194304 with
     |false=>
      with_reducible repeat' (first|refine Sp.h ?_|((first|refine Wd ?_|refine Ss.h ?_|refine Sc.h (sd _ _ _ _ (by decide) (by decide)) ?_|(refine Sb.h ?_ ?_ ?_<;>(try intro hgd)<;>try exact Xy))<;>simp -implicitDefEqProofs (maxSteps:=2000000) [hP,hN,g0,g1,g5,hb5,g6,k1,k2,p1,p2,hv]<;>try refine Ya ?_)|refine X2 ?_ ?_|(refine Xd ?_ ?_<;>intro hcd<;>try exact Xx))
      all_goals (simp[dj,hn,hd,hk,hp,hv])
     |true=>
      by_cases hb:j.hi<j.lo∨j.lo< -eY j.kind∨eY j.kind<j.hi
      .skip
       with_reducible repeat' (first|refine Sp.h ?_|((first|refine Wd ?_|refine Ss.h ?_|refine Sc.h (sd _ _ _ _ (by decide) (by decide)) ?_|refine Sc.h (Nq _) ?_|(refine Sb.h ?_ ?_ ?_<;>(try intro hgd)<;>try exact Xy))<;>simp -implicitDefEqProofs (maxSteps:=2000000) [hP,hN,g0,g1,g5,hb5,g6,k1,k2,p1,p2,hv,hng,hng']<;>try refine Ya ?_)|refine X2 ?_ ?_|(refine Xd ?_ ?_<;>intro hcd<;>try exact Xx))
       all_goals (first|(simp[dj,hn,hd,hk,hp,hv,hb];done)|(exfalso;simp at *;omega))
      .have b1:¬j.hi<j.lo:=by omega
       have b2:¬j.lo< -eY j.kind:=by omega
       have b3:¬eY j.kind<j.hi:=by omega
       with_reducible repeat' (first|refine Sp.h ?_|((first|refine Wd ?_|refine Ss.h ?_|refine Sc.h (sd _ _ _ _ (by decide) (by decide)) ?_|refine Sc.h (Nq _) ?_|refine Sc.h (Gv _ _ _) ?_|(refine Sb.h ?_ ?_ ?_<;>(try intro hgd)<;>try exact Xy))<;>simp -implicitDefEqProofs (maxSteps:=2000000) [hP,hN,g0,g1,g5,hb5,g6,k1,k2,p1,p2,hv,hng,hng',b1,b2,b3]<;>try refine Ya ?_)|refine X2 ?_ ?_|(refine Xd ?_ ?_<;>intro hcd<;>try exact Xx))
       all_goals (rw[dj,Ik (by simp[hn,hd]),Ik hk,Ik hp,Ik (by simp[hv]),Ik hb];simp_all)
def iG(n:Nat)(m:Ms):Bool:=decide (0<=m.link)&&decide (m.link<n)&&bA m.mass 1 65536&&ij m.px m.py m.pz 4194304
theorem Q1(js:List J)(ms:List Ms)(m:Ms):ab Tryz.prog 123 [.pv (gF js ms),.pv (IT m)] [] [] (.pv (B (iG js.length m))):=by
 refine Dp Tryz.func123 ?_;intro C hP hN;simp only[Tryz.f123]at hN|-
 with_reducible repeat' (first|refine Sp.h ?_|((first|refine Ss.h ?_|refine Sc.h (Np _ _) ?_|refine Sc.h (Gu _ _ _) ?_|(refine Sb.h ?_ ?_ ?_<;>(try intro hgd)<;>try exact Xy))<;>simp -implicitDefEqProofs (maxSteps:=2000000) [hP,hN])|refine X2 ?_ ?_|(refine Xd ?_ ?_<;>intro hcd<;>try exact Xx))
 all_goals (simp_all[iG]<;>omega)
theorem Q2(js:List J)(ms:List Ms)(m:Ms):ab Tryz.prog 122 [.pv (IT m),.pv (.rptr (gF js ms) 0)] [] [] (.pv (B (!iG js.length m))):=by
 refine Dp Tryz.func122 ?_;intro C hP hN;simp only[Tryz.f122]at hN|-;have q1:=@Q1;exact GS trivial
theorem Q3(f:FuncId)(c:PV)(p:Ms->Bool)(xs:List Ms)(hl:xs.length<=9223372036854775807)(hf:∀x,ab Tryz.prog f [.pv (IT x),.pv (.rptr c 0)] [] [] (.pv (B (p x)))):ab Tryz.prog 173 [.pv (.sl (xs.map IT)),.pv (.fn (.func f) [] [.rptr c 0])] [] [] (.pv (Z (pc p xs))):=by
 refine Dp Tryz.func173 ?_;intro C hP hN;simp only[Tryz.f173]at hN|-;refine Gz ?_;refine WP.loopN [] xs.length (λi st=>st.t 0=.pv (.sl (xs.map IT))∧st.t 1=.pv (.fn (.func f) [] [.rptr c 0])∧st.t 7=.pv (Z xs.length)∧st.t 8=.pv (Z i)∧∀j x,j<i->xs[j]?=some x->p x=false) (by simp) ?_;rintro i st hi ⟨h0,h1,h7,h8,hq⟩;by_cases hlt:i<xs.length
 .have hw:=al hlt hl
  with_reducible repeat' (first|refine Sp.h ?_|((first|refine Ss.h ?_|refine Sc.h (hf _) ?_|(refine Sb.h ?_ ?_ ?_<;>(try intro hgd)<;>try exact Xy))<;>simp -implicitDefEqProofs (maxSteps:=2000000) [hP,hN,h0,h1,h7,h8,hlt,hw])|refine X2 ?_ ?_|(refine Xd ?_ ?_<;>intro hcd<;>try exact Xx))
  .exact(rn hlt hq hcd).symm
  .simpa using qf hlt hq hcd
 .skip
  refine Gz ?_;exact(wN (zg hlt hq)).symm
theorem Q4(f:FuncId)(c:PV)(p:Ms->Bool)(xs:List Ms)(hl:xs.length<=9223372036854775807)(hf:∀x,ab Tryz.prog f [.pv (IT x),.pv (.rptr c 0)] [] [] (.pv (B (p x)))):ab Tryz.prog 121 [.pv (.sl (xs.map IT)),.pv (.fn (.func f) [] [.rptr c 0])] [] [] (.pv (B (xs.any p))):=by
 refine Dp Tryz.func121 ?_;intro C hP hN;simp only[Tryz.f121]at hN|-;have q1:=Q3 _ _ _ _ hl hf;refine GT trivial ?_
 all_goals (first|(simp_all[uZ];done)|((try simp_all[uZ])<;>(try omega)<;>grind))
def jZ(js:List J):Int:=match(js.mapIdx (dj js)).find? (λe=>e !=0)with
 |some e=>e
 |none=>0
theorem qi(js:List J):jZ js=match(js.mapIdx (dj js)).find? (λe=>e !=0)with
 |some e=>e
 |none=>0:=rfl
theorem yF(hlt:i<js.length)(hq:∀k x,k<i->js[k]?=some x->dj js k x=0)(he:dj js i js[i]≠0):jZ js=dj js i js[i]:=by
 rw[qi]
 have:(js.mapIdx (dj js)).find? (λe=>e !=0)=some (dj js i js[i]):=by
  rw[VJ];refine⟨by simpa using he,i,by simpa using hlt,by simp,λk hk=>?_⟩
  have hkl:k<js.length:=by omega
  simp[hq k js[k] hk (an hkl)]
 rw[this]
theorem AA(hq:∀(k:Nat) x,js[k]?=some x->dj js k x=0):jZ js=0:=by
 rw[qi]
 have:(js.mapIdx (dj js)).find? (λe=>e !=0)=none:=by
  rw[OJ];intro e he;simp only[List.mem_mapIdx]at he;obtain⟨i,hi,rfl⟩:=he;simp[hq i js[i] (an hi)]
 rw[this]
theorem Dt(hlt:i<js.length)(hq:∀k x,k<i->js[k]?=some x->dj js k x=0)(he:dj js i js[i]=0):∀k x,k<i+1->js[k]?=some x->dj js k x=0:=by
 intro k x hk hx;by_cases e:k=i
 .subst e;rw[an hlt]at hx;injection hx with hx;subst hx;exact he
 .exact hq k x (by omega) hx
def aT(js:List J)(ms:List Ms):Int:=if js.length=0∨10<js.length then 801 else if jZ js≠0 then jZ js else if(decide (32<ms.length)||ms.any λm=>!iG js.length m)=true then 808 else 0
theorem yH(js:List J)(ms:List Ms)(hl:js.length<=9223372036854775807)(hm:ms.length<=9223372036854775807):ab Tryz.prog 62 [.pv (gF js ms)] [] [] (.pv (Z (aT js ms))):=by
 by_cases h0:js.length=0
 .have hc:aT js ms=801:=by simp[aT,h0]
  have h0':js=[]:=LC h0;rw[hc];subst h0';refine Dp Tryz.func62 ?_;intro C hP hN;simp only[Tryz.f62]at hN|-;exact Gy
 have n0:((js.length:Int)==0)=false:=by simp;intro h;exact h0 (by rw[h];rfl)
 by_cases h1:10<js.length
 .have hc:aT js ms=801:=by simp[aT,h1]
  have h1':(10:Int)<js.length:=by omega
  rw[hc];refine Dp Tryz.func62 ?_;intro C hP hN;simp only[Tryz.f62]at hN|-;exact Gy
 have h1':¬(10:Int)<js.length:=by omega
 have hc0:aT js ms=if jZ js≠0 then jZ js else if(decide (32<ms.length)||ms.any λm=>!iG js.length m)=true then 808 else 0:=by
  unfold aT;rw[Ik (by omega)]
 rw[hc0];generalize hr:(if(decide (32<ms.length)||ms.any λm=>!iG js.length m)=true then(808:Int)else 0)=r;refine Dp Tryz.func62 ?_;intro C hP hN;simp only[Tryz.f62]at hN|-;refine Gz ?_;refine WP.loopN [] js.length (λi st=>st.t 1=.ptr 1 0∧st.h 1=some (.box [.pv (.sl (js.map bC)),.pv (.sl (ms.map IT))] true false)∧st.t 17=.pv (Z js.length)∧st.t 18=.pv (Z i)∧∀k x,k<i->js[k]?=some x->dj js k x=0) (by simp) ?_;rintro i st hi ⟨g1,hb1,g17,g18,hq⟩;by_cases hlt:i<js.length
 .have hw:=al hlt hl
  by_cases he:dj js i js[i]=0
  .have hne:(dj js i js[i]!=0)=false:=by simp[he]
   have q1:=Nr js ms i hl hlt;refine GT (gA g1 (gA hb1 (gA g17 (gA g18 (gA hlt (gA hw (gA hne he))))))) ?_
   all_goals simpa using Dt hlt hq he
  .have hne:(dj js i js[i]!=0)=true:=by simp[he]
   have hf:=yF hlt hq he;have q1:=Nr js ms i hl hlt;refine GT (gA g1 (gA hb1 (gA g17 (gA g18 (gA hlt (gA hw (gA hne he))))))) ?_
   all_goals simp[hf,he]
 .have hf:jZ js=0:=AA (λk x hx=>hq k x (by have:=(th.1 hx).1;omega) hx)
  have cm:=Q4 122 (gF js ms) (λm=>!iG js.length m) ms hm (λm=>Q2 js ms m);rw[hf];by_cases h32:32<ms.length
  .have h32':(32:Int)<ms.length:=by omega
   have hr':r=808:=by rw[<-hr];simp[h32]
   exact Gy
  .have h32':¬(32:Int)<ms.length:=by omega
   cases hany:ms.any λm=>!iG js.length m with
   |true=>
    rw[hany]at cm
    have hr':r=808:=by rw[<-hr,hany];simp
    exact Gy
   |false=>
    rw[hany]at cm
    have hr':r=0:=by rw[<-hr,hany];simp[h32]
    exact Gy
theorem L8{p:α->Bool}{xs:List α}(h:i<xs.length)(hp:p xs[i]=true):xs.any p=true:=T4.2 ⟨_,Ky h,hp⟩
theorem Nu{p:α->Bool}{xs:List α}(h:∀(i:Nat) x,xs[i]?=some x->p x=false):xs.any p=false:=by
 rw[Te];intro x hx;obtain⟨i,hi⟩:=LV hx;simp[h i x hi]
theorem sX(js:List J)(ms:List Ms)(hl:js.length<=9223372036854775807)(hm:ms.length<=9223372036854775807):ab Tryz.prog 44 [.pv (gF js ms)] [] [] (.pv (Z (aT js ms))):=by
 by_cases h0:js.length=0
 .have hc:aT js ms=801:=by simp[aT,h0]
  have h0':js=[]:=LC h0;rw[hc];subst h0';refine Dp Tryz.func44 ?_;intro C hP hN;simp only[Tryz.f44]at hN|-;exact Gy
 have n0:¬(js.length:Int)<1:=by omega
 have n1:¬js.length<1:=by omega
 by_cases h1:10<js.length
 .have hc:aT js ms=801:=by simp[aT,h1]
  have h1':(10:Int)<js.length:=by omega
  rw[hc];refine Dp Tryz.func44 ?_;intro C hP hN;simp only[Tryz.f44]at hN|-;exact Gy
 have h1':¬(10:Int)<js.length:=by omega
 have hc0:aT js ms=if jZ js≠0 then jZ js else if(decide (32<ms.length)||ms.any λm=>!iG js.length m)=true then 808 else 0:=by
  unfold aT;rw[Ik (by omega)]
 rw[hc0];generalize hr:(if(decide (32<ms.length)||ms.any λm=>!iG js.length m)=true then(808:Int)else 0)=r;refine Dp Tryz.func44 ?_;intro C hP hN;simp only[Tryz.f44]at hN|-;refine Gz ?_;refine WP.loopN [] js.length (λi st=>st.t 1=.ptr 1 0∧st.h 1=some (.box [.pv (.sl (js.map bC)),.pv (.sl (ms.map IT))] true false)∧st.h 6=none∧st.t 3=.pv (Z i)∧∀k x,k<i->js[k]?=some x->dj js k x=0) (by simp) ?_;rintro i st hi ⟨g1,hb1,hb6,g3,hq⟩;by_cases hlt:i<js.length
 .have hw:=al hlt hl
  by_cases he:dj js i js[i]=0
  .have hne:(dj js i js[i]!=0)=false:=by simp[he]
   have q1:=Nt js i hl hlt;refine GT (gA g1 (gA hb1 (gA hb6 (gA g3 (gA hlt (gA hw (gA hne he))))))) ?_
   all_goals simpa using Dt hlt hq he
  .have hne:(dj js i js[i]!=0)=true:=by simp[he]
   have hf:=yF hlt hq he;have q1:=Nt js i hl hlt;refine GT (gA g1 (gA hb1 (gA hb6 (gA g3 (gA hlt (gA hw (gA hne he))))))) ?_
   all_goals simp[hf,he]
 .have hf:jZ js=0:=AA (λk x hx=>hq k x (by have:=(th.1 hx).1;omega) hx)
  rw[hf];by_cases h32:32<ms.length
  .have h32':(32:Int)<ms.length:=by omega
   have hr':r=808:=by rw[<-hr];simp[h32]
   exact Gy
  .have h32':¬(32:Int)<ms.length:=by omega
   refine Gz ?_;refine WP.loopN [6] ms.length (λi st=>st.t 1=.ptr 1 0∧st.h 1=some (.box [.pv (.sl (js.map bC)),.pv (.sl (ms.map IT))] true false)∧st.h 6=none∧st.t 5=.pv (Z i)∧∀k x,k<i->ms[k]?=some x->(!iG js.length x)=false) (by simp[g1,hb1,hb6]) ?_;clear g1 hb1 hb6 g3 hq;rintro i st hi ⟨g1,hb1,hb6,g5,hq⟩;by_cases hlt:i<ms.length
   .have hw:=al hlt hm
    have hx:=an hlt
    cases hok:iG js.length ms[i]with
    |false=>
     have hany:(ms.any λm=>!iG js.length m)=true:=L8 hlt (by simp[hok])
     have hr':r=808:=by rw[<-hr,hany];simp
     clear hr hany
     with_reducible repeat' (first|refine Sp.h ?_|((first|refine Ss.h ?_|refine Sc.h (sd _ _ _ _ (by decide) (by decide)) ?_|refine Sc.h (Gv _ _ _) ?_|(refine Sb.h ?_ ?_ ?_<;>(try intro hgd)<;>try exact Xy))<;>simp -implicitDefEqProofs (maxSteps:=2000000) [hP,hN,g1,hb1,hb6,g5,hlt,hw,hr'])|refine X2 ?_ ?_|(refine Xd ?_ ?_<;>intro hcd<;>try exact Xx))
     all_goals (exfalso;clear hq hP hN g1 hb1 hb6 g5 hw hr' hc0 hf;simp[iG]at *;grind)
    |true=>
     have hst:=qf (p:=λm=>!iG js.length m) hlt hq (by simp[hok]);clear hr hq
     with_reducible repeat' (first|refine Sp.h ?_|((first|refine Ss.h ?_|refine Sc.h (sd _ _ _ _ (by decide) (by decide)) ?_|refine Sc.h (Gv _ _ _) ?_|(refine Sb.h ?_ ?_ ?_<;>(try intro hgd)<;>try exact Xy))<;>simp -implicitDefEqProofs (maxSteps:=2000000) [hP,hN,g1,hb1,hb6,g5,hlt,hw])|refine X2 ?_ ?_|(refine Xd ?_ ?_<;>intro hcd<;>try exact Xx))
     all_goals first|(simpa using hst)|(exfalso;clear hst hP hN g1 hb1 hb6 g5 hw hc0 hf;simp[iG]at *;grind)
   .have hany:(ms.any λm=>!iG js.length m)=false:=Nu (λk x hx=>hq k x (by have:=(th.1 hx).1;omega) hx)
    have hr':r=0:=by rw[<-hr,hany];simp[h32]
    exact Gy
theorem nE{p:α->Bool}{xs:List α}:bo p xs=true↔∀x∈xs,p x=true:=by simp[bo]
theorem nF{β:Type}{f:α->β->Bool}{xs:List α}{ys:List β}:dV f xs ys=true↔∀(i:Nat)(h:i<xs.length)(h':i<ys.length),f xs[i] ys[i]=true:=by
 unfold dV;rw[Ij];constructor
 .intro h i hi hi'
  exact h (f xs[i] ys[i]) (by
   rw[PH]
   exact⟨i,by simp;omega,by simp⟩)
 .intro h x hx
  obtain⟨i,hi,rfl⟩:=PH.1 hx;simp only[List.length_zipWith]at hi;simpa using h i (by omega) (by omega)
section
variable {p q:List Int} {d i:Int}
end
def ug(a b:Int):Int:=if a.tmod b<0 then wr (wr (a.tdiv b)-1)else wr (a.tdiv b)
theorem Q5(a b:Int)(hb:b≠0):ab Tryz.prog 155 [.pv (Z a),.pv (Z b)] [] [] (.pv (Z (ug a b))):=by
 refine Dp Tryz.func155 ?_;intro C hP hN;simp only[Tryz.f155]at hN|-
 with_reducible repeat' (first|refine Sp.h ?_|((first|refine Ss.h ?_|(refine Sb.h ?_ ?_ ?_<;>(try intro hgd)<;>try exact Xy))<;>simp -implicitDefEqProofs (maxSteps:=2000000) [hP,hN,hb])|refine X2 ?_ ?_|(refine Xd ?_ ?_<;>intro hcd<;>try exact Xx))
 all_goals (first|(simp_all[ug];done)|((try simp_all[ug])<;>(try omega)<;>grind))
theorem BT{k:Int}(hb:0<b)(h1:k*b<=a)(h2:a<(k+1)*b):a/b=k:=by
 have:=(VD hb).2 h1;have:=(VE hb).2 h2;omega
theorem HT(hb:0<b)(h1:-4611686018427387904<=a)(h2:a<=4611686018427387904):ug a b=a/b:=by
 have hq:=VH a b;have h3:-b<a.tmod b:=UR a hb;have h4:a.tmod b<b:=SQ a hb;have hbd:=Gt (a:=a) (N:=b) (B:=4611686018427387904) hb h1 h2;rw[Int.mul_comm]at hq;unfold ug;split
 .have e:a/b=a.tdiv b-1:=BT hb (by rw[Int.sub_mul];omega) (by rw[show a.tdiv b-1+1=a.tdiv b by omega];omega)
  rw[aa (n:=a.tdiv b) (by omega) (by omega),aa (by omega) (by omega),e]
 .have e:a/b=a.tdiv b:=BT hb (by omega) (by rw[Int.add_mul];omega)
  rw[aa (n:=a.tdiv b) (by omega) (by omega),e]
theorem yI{x:Int×Int}(h:ay x.1 x.2=true):-2147483648<=x.1∧x.1<=x.2∧x.2<=2147483648:=by
 simp only[ay,An,HX]at h;omega
theorem Q6(x:Int×Int):ab Tryz.prog 101 [.pv (aR x)] [] [] (.pv (Z (jL x))):=by
 cases hv:ay x.1 x.2 with
 |false=>
  have hr:jL x=0:=by simp[jL,hv]
  rw[hr];refine Dp Tryz.func101 ?_;intro C hP hN;simp only[Tryz.f101]at hN|-;have q1:=@oW;exact GS hv
 |true=>
  have hb:=yI hv
  have hr:jL x=ug (wr (x.1+x.2)) 2:=by
   rw[jL,hv];simp only[J4];rw[aa (by omega) (by omega),HT (by decide) (by omega) (by omega),Int.fdiv_eq_ediv_of_nonneg _ (by decide)]
  rw[hr];refine Dp Tryz.func101 ?_;intro C hP hN;simp only[Tryz.f101]at hN|-
  with_reducible repeat' (first|refine Sp.h ?_|((first|refine Ss.h ?_|refine Sc.h (oW _ _) ?_|refine Sc.h (Q5 _ _ (by decide)) ?_|(refine Sb.h ?_ ?_ ?_<;>(try intro hgd)<;>try exact Xy))<;>simp -implicitDefEqProofs (maxSteps:=2000000) [hP,hN,hv])|refine X2 ?_ ?_|(refine Xd ?_ ?_<;>intro hcd<;>try exact Xx))
theorem T7(xs:List (Int×Int))(j:Int)(hl:xs.length<=16777216)(hv:bo vI xs=false):ab Tryz.prog 43 [.pv (iv xs),.pv (Z j)] [] [] (.pv (.tup [iv [],iv [],B false])):=by
 refine Dp Tryz.func43 ?_;intro C hP hN;simp only[Tryz.f43]at hN|-
 with_reducible repeat' (first|refine Sp.h ?_|((first|refine Wd ?_|refine Ss.h ?_|refine Sc.h (iE _ (wM hl)) ?_|(refine Sb.h ?_ ?_ ?_<;>(try intro hgd)<;>try exact Xy))<;>simp -implicitDefEqProofs (maxSteps:=2000000) [hP,hN,hv]<;>try refine Ya ?_)|refine X2 ?_ ?_|(refine Xd ?_ ?_<;>intro hcd<;>try exact Xx))
theorem T8(xs:List (Int×Int))(j:Int)(hl:xs.length<=16777216)(hv:bo vI xs=true)(hj:j<0):ab Tryz.prog 43 [.pv (iv xs),.pv (Z j)] [] [] (.pv (.tup [iv [],iv [],B false])):=by
 refine Dp Tryz.func43 ?_;intro C hP hN;simp only[Tryz.f43]at hN|-
 with_reducible repeat' (first|refine Sp.h ?_|((first|refine Wd ?_|refine Ss.h ?_|refine Sc.h (iE _ (wM hl)) ?_|(refine Sb.h ?_ ?_ ?_<;>(try intro hgd)<;>try exact Xy))<;>simp -implicitDefEqProofs (maxSteps:=2000000) [hP,hN,hv,hj]<;>try refine Ya ?_)|refine X2 ?_ ?_|(refine Xd ?_ ?_<;>intro hcd<;>try exact Xx))
theorem T9(xs:List (Int×Int))(n:Nat)(hl:xs.length<=16777216)(hv:bo vI xs=true)(hlt:xs.length<=n):ab Tryz.prog 43 [.pv (iv xs),.pv (Z n)] [] [] (.pv (.tup [iv [],iv [],B false])):=by
 have hnl:(xs.length:Int)<=(n:Int):=by omega
 refine Dp Tryz.func43 ?_;intro C hP hN;simp only[Tryz.f43]at hN|-
 with_reducible repeat' (first|refine Sp.h ?_|((first|refine Wd ?_|refine Ss.h ?_|refine Sc.h (iE _ (wM hl)) ?_|(refine Sb.h ?_ ?_ ?_<;>(try intro hgd)<;>try exact Xy))<;>simp -implicitDefEqProofs (maxSteps:=2000000) [hP,hN,hv,hnl,hlt]<;>try refine Ya ?_)|refine X2 ?_ ?_|(refine Xd ?_ ?_<;>intro hcd<;>try exact Xx))
theorem Ua(xs:List (Int×Int))(n:Nat)(hl:xs.length<=16777216)(hv:bo vI xs=true)(hlt:n<xs.length)(hw:IntKind.i64.wrap (xs[n].2-xs[n].1)=xs[n].2-xs[n].1)(hs:xs[n].2-xs[n].1<2):ab Tryz.prog 43 [.pv (iv xs),.pv (Z n)] [] [] (.pv (.tup [iv [],iv [],B false])):=by
 have hnl:¬(xs.length:Int)<=(n:Int):=by omega
 refine Dp Tryz.func43 ?_;intro C hP hN;simp only[Tryz.f43]at hN|-
 with_reducible repeat' (first|refine Sp.h ?_|((first|refine Wd ?_|refine Ss.h ?_|refine Sc.h (iE _ (wM hl)) ?_|(refine Sb.h ?_ ?_ ?_<;>(try intro hgd)<;>try exact Xy))<;>simp -implicitDefEqProofs (maxSteps:=2000000) [hP,hN,hv,hlt,hw,hs,hnl,Nat.not_le.2 hlt]<;>try refine Ya ?_)|refine X2 ?_ ?_|(refine Xd ?_ ?_<;>intro hcd<;>try exact Xx))
theorem Ub(xs:List (Int×Int))(n:Nat)(hl:xs.length<=16777216)(hv:bo vI xs=true)(hlt:n<xs.length)(hw:IntKind.i64.wrap (xs[n].2-xs[n].1)=xs[n].2-xs[n].1)(hs:¬xs[n].2-xs[n].1<2):ab Tryz.prog 43 [.pv (iv xs),.pv (Z n)] [] [] (.pv (.tup [iv (xs.set n (xs[n].1,jL xs[n])),iv (xs.set n (jL xs[n],xs[n].2)),B true])):=by
 have hnl:¬(xs.length:Int)<=(n:Int):=by omega
 generalize hm:jL xs[n]=m;have cm:=Q6 xs[n];rw[hm]at cm;refine Dp Tryz.func43 ?_;intro C hP hN;simp only[Tryz.f43]at hN|-
 with_reducible repeat' (first|refine Sp.h ?_|((first|refine Wd ?_|refine Ss.h ?_|refine Sc.h (iE _ (wM hl)) ?_|refine Sc.h (cm) ?_|(refine Sb.h ?_ ?_ ?_<;>(try intro hgd)<;>try exact Xy))<;>simp -implicitDefEqProofs (maxSteps:=2000000) [hP,hN,hv,hlt,hw,hs,hnl,Nat.not_le.2 hlt,show xs.length*16<=140737488355328 by omega,show xs.length<=9223372036854775807 by omega]<;>try refine Ya ?_)|refine X2 ?_ ?_|(refine Xd ?_ ?_<;>intro hcd<;>try exact Xx))
 all_goals simp[QH]
theorem P6(xs:List (Int×Int))(j:Int)(hl:xs.length<=16777216):ab Tryz.prog 43 [.pv (iv xs),.pv (Z j)] [] [] (.pv (.tup [iv (bg xs j),iv (bh xs j),B (bE xs j)])):=by
 cases hv:bo vI xs with
 |false=>
  have hr:bE xs j=false:=by simp[bE,hv]
  have hr1:bg xs j=[]:=by simp[bg,hr]
  have hr2:bh xs j=[]:=by simp[bh,hr]
  rw[hr,hr1,hr2];exact T7 xs j hl hv
 |true=>
  by_cases hj:0<=j
  .obtain⟨n,rfl⟩:=PJ hj
   by_cases hlt:n<xs.length
   .have hx:=an hlt
    have hvx:ay xs[n].1 xs[n].2=true:=nE.1 hv _ (Ky hlt);have hb:=yI hvx
    have hwd:dO xs[n]=xs[n].2-xs[n].1:=by
     rw[dO,hvx];simp only[J4];exact aa (by omega) (by omega)
    have hw:IntKind.i64.wrap (xs[n].2-xs[n].1)=xs[n].2-xs[n].1:=aa;by_cases hs:xs[n].2-xs[n].1<2
    .have hr:bE xs (n:Int)=false:=by simp[bE,hv,hx,hwd];omega
     have hr1:bg xs (n:Int)=[]:=by simp[bg,hr]
     have hr2:bh xs (n:Int)=[]:=by simp[bh,hr]
     rw[hr,hr1,hr2];exact Ua xs n hl hv hlt hw hs
    .have hr:bE xs (n:Int)=true:=by simp[bE,hv,hx,hwd];omega
     have hr1:bg xs (n:Int)=xs.set n (xs[n].1,jL xs[n]):=by simp[bg,hr,hx]
     have hr2:bh xs (n:Int)=xs.set n (jL xs[n],xs[n].2):=by simp[bh,hr,hx]
     rw[hr,hr1,hr2];exact Ub xs n hl hv hlt hw hs
   .have hx:xs[n]?=none:=Jr (by omega)
    have hr:bE xs (n:Int)=false:=by simp[bE,hx]
    have hr1:bg xs (n:Int)=[]:=by simp[bg,hr]
    have hr2:bh xs (n:Int)=[]:=by simp[bh,hr]
    rw[hr,hr1,hr2];exact T9 xs n hl hv (Nat.not_lt.1 hlt)
  .have hr:bE xs j=false:=by simp[bE,hj]
   have hr1:bg xs j=[]:=by simp[bg,hr]
   have hr2:bh xs j=[]:=by simp[bh,hr]
   rw[hr,hr1,hr2];exact T8 xs j hl hv (by omega)
def iH(js:List J)(b:List (Int×Int)):Nat->Int×Int
 |0=>(-1,0)
 |i+1=>match js[i]?,b[i]? with
  |some j,some x=>if 2<=dO x∧(iH js b i).2<wr (j.w*dO x)then((i:Int),wr (j.w*dO x))else iH js b i
  |_,_=>iH js b i
def KF(x:AV)(fb:Option dl):Option dl:=match x with
 |.pv (.val (.slice none 0 0))=>some (.pv (Z 0),[])
 |_=>fb
@[simp] theorem Qj(fb:Option dl):KF (.pv (.val (.slice none 0 0))) fb=some (.pv (Z 0),[]):=rfl
theorem KG(x:Operand):
 bR Tryz.prog ⟨dst,.call ⟨.builtin .len,#[x],#[39]⟩,ty,pos,aft,g⟩ (λ_=>.pv (.val (.slice none 0 0)))=some (.pv (Z 0),[]):=by kernel_rfl
@[simp] theorem TO(x:Operand):
 bR Tryz.prog ⟨dst,.call ⟨.builtin .len,#[x],#[39]⟩,ty,pos,aft,g⟩ ρ=KF (ρ x) (jN Tryz.prog ⟨dst,.call ⟨.builtin .len,#[x],#[39]⟩,ty,pos,aft,g⟩ ρ):=by
 unfold KF;split
 .rename_i hs
  rw[<-KG (dst:=dst) (ty:=ty) (pos:=pos) (aft:=aft) (g:=g) x];refine r7 (by intro _ _ h;cases h) ?_;intro y hy;simp[Op.operands,Call.operands]at hy;subst hy;exact hs
 .rfl
set_option maxRecDepth 100000 in
theorem LD(t:Tr)(hl:t.cells.length<=9223372036854775807):ab Tryz.prog 14 [.pv (fe t)] [] [] (.pv (.tup [.sl ((aj t).map iv),B (aX t)])):=by
 cases hs:ip t with
 |false=>
  have hno:=tC (t:=t) (by simp[dH,hs]);rw[hno.1,hno.2];by_cases q1:t.root.length<1
  .have q1':(t.root.length:Int)<1:=by omega
   refine Dp Tryz.func14 ?_;intro C hP hN;simp only[Tryz.f14]at hN|-;exact Gy
  have q1':¬(t.root.length:Int)<1:=by omega
  by_cases q2:10<t.root.length
  .have q2':(10:Int)<t.root.length:=by omega
   refine Dp Tryz.func14 ?_;intro C hP hN;simp only[Tryz.f14]at hN|-;exact Gy
  have q2':¬(10:Int)<t.root.length:=by omega
  by_cases h1:t.cells.length<1
  .have h1':(t.cells.length:Int)<1:=by omega
   refine Dp Tryz.func14 ?_;intro C hP hN;simp only[Tryz.f14]at hN|-;exact Gy
  have h1':¬(t.cells.length:Int)<1:=by omega
  by_cases h2:2048<t.cells.length
  .have h2':(2048:Int)<t.cells.length:=by omega
   refine Dp Tryz.func14 ?_;intro C hP hN;simp only[Tryz.f14]at hN|-;exact Gy
  have h2':¬(2048:Int)<t.cells.length:=by omega
  have h3:bo vI t.root=false:=by
   cases h:bo vI t.root with
   |false=>rfl
   |true=>simp[ip,dG,h]at hs;omega
  refine Dp Tryz.func14 ?_;intro C hP hN;simp only[Tryz.f14]at hN|-;refine Gz ?_;refine WP.loopN [] t.root.length (λi st=>st.t 1=.ptr 1 0∧st.t 5=.pv (Z i)∧st.h 1=some (.box [.pv (iv t.root),.pv (.sl (t.cells.map bD))] true false)∧bo vI (t.root.take i)=true) (by simp[bo]) ?_;rintro i st hi ⟨g1,g5,hb,hq⟩;by_cases hlt:i<t.root.length
  .have hw:=al hlt (by omega)
   have hS:vI t.root[i]=true->bo vI (t.root.take (i+1))=true:=u0 hlt hq
   with_reducible repeat' (first|refine Sp.h ?_|((first|refine Wd ?_|refine Ss.h ?_|refine Sc.h (oW _ _) ?_|(refine Sb.h ?_ ?_ ?_<;>(try intro hgd)<;>try exact Xy))<;>simp -implicitDefEqProofs [hP,hN,g1,g5,hb,hlt,hw]<;>try refine Ya ?_)|refine X2 ?_ ?_|(refine Xd ?_ ?_<;>intro hcd<;>try exact Xx))
   all_goals (exact hS (by simpa using hcd))
  .have:=u7 hlt hq
   rw[h3]at this;cases this
 |true=>
  obtain⟨z1,z2,z3,z4,z5⟩:=ey.1 hs
  have q1:¬t.root.length<1:=by omega
  have q2:¬10<t.root.length:=by omega
  have q1':¬(t.root.length:Int)<1:=by omega
  have q2':¬(10:Int)<t.root.length:=by omega
  have h1:¬t.cells.length<1:=by omega
  have h2:¬2048<t.cells.length:=by omega
  have h1':¬(t.cells.length:Int)<1:=by omega
  have h2':¬(2048:Int)<t.cells.length:=by omega
  have hin:=Ew z1;refine Dp Tryz.func14 ?_;intro C hP hN;simp only[Tryz.f14]at hN|-;refine Gz ?_;refine WP.loopN [] t.root.length (λi st=>st.t 1=.ptr 1 0∧st.t 4=.pv (Z t.cells.length)∧st.t 5=.pv (Z i)∧st.h 1=some (.box [.pv (iv t.root),.pv (.sl (t.cells.map bD))] true false)∧st.h 48=none∧st.h 8=none) (by simp) ?_;rintro i st hi ⟨g1,g4,g5,hb,hb48,hb8⟩;by_cases hlt:i<t.root.length
  .have hw:=al hlt (by omega)
   have hv:ay t.root[i].1 t.root[i].2=true:=fB.1 z5 _ (Ky hlt);have cv:=oW t.root[i].1 t.root[i].2;rw[hv]at cv;exact Gy
  refine GT (gA g1 (gA g4 (gA g5 (gA hb (gA hb48 (gA hb8 (gA hlt (gA hin (gA (show(24:Int)*t.cells.length<=281474976710656 by omega) (gA (show(t.cells.length:Int)<=9223372036854775807 by omega) (show 0<t.cells.length by omega))))))))))) ?_;refine WP.loopN [8] t.cells.length (λi st=>∃L,BInv t i L∧st.t 1=.ptr 1 0∧st.t 4=.pv (Z t.cells.length)∧st.t 6=.arr 48 t.cells.length∧st.t 7=.pv (Z i)∧st.h 1=some (.box [.pv (iv t.root),.pv (.sl (t.cells.map bD))] true false)∧st.h 8=none∧st.h 48=some (.row 39 1 (L.map sK) 0)) (by exact⟨kc t,Cj hs,by simp[g1,g4,g5,hb,hb48,hb8,hin]⟩) ?_;rintro i st hi ⟨L,hB,g1,g4,g6,g7,hb1',hb8,hb48⟩;have hLl:=hB.bok.len;by_cases hlt:i<t.cells.length
  .have hw:=al hlt hl
   have hlL:i<L.length:=by omega
   generalize hc:t.cells[i]=c at *
   have hci:t.cells[i]?=some c:=by rw[an hlt,hc]
   have bad:gE t.cells.length i c L=none->aX t=false∧aj t=[]:=λh=>tC (Ck hB hlt (by rw[hc];exact h));have cl:=LE c;have cf:=Ql c.v;have cz:=U0 c.v
   cases hx:L[i]? with
   |none=>rw[an hlL]at hx;cases hx
   |some x=>
   cases x with
   |none=>
    have hx':=bW hx hlL;obtain⟨e1,e2⟩:=bad (by simp[gE,hx]);rw[e1,e2];exact GS (gA g1 (gA g4 (gA g6 (gA g7 (gA hb1' (gA hb8 (gA hb48 (gA hlt (gA hw (gA hx (gA hx' (gA @eK (gA @eL (gA hci (gA hc hLl)))))))))))))))
   |some b=>
   have hx':=bW hx hlL;obtain⟨hbl,hbv⟩:=hB.bok.ok i b hx
   have hb2:b≠[]:=by intro h;rw[h]at hbl;simp at hbl;omega
   have hb1:((b.length:Int)==0)=false:=by simp[hb2]
   cases hlf:dZ c with
   |true=>
    rw[hlf]at cl
    cases hf:ff c.v with
    |true=>
     rw[hf]at cf;have hnx:=tB (L':=L) hB hlt (by rw[hc,kS (t:=t) hx hlf,hf];rfl);refine GT (gA g1 (gA g4 (gA g6 (gA g7 (gA hb1' (gA hb8 (gA hb48 (gA hlt (gA hw (gA hx (gA hx' (gA @eK (gA @eL (gA hci (gA hc (gA hLl (gA hb1 hb2))))))))))))))))) ?_
     all_goals exact⟨L,hnx,rfl⟩
    |false=>
     rw[hf]at cf;obtain⟨e1,e2⟩:=bad (by rw[kS (t:=t) hx hlf,hf];rfl);rw[e1,e2];exact GS (gA g1 (gA g4 (gA g6 (gA g7 (gA hb1' (gA hb8 (gA hb48 (gA hlt (gA hw (gA hx (gA hx' (gA @eK (gA @eL (gA hci (gA hc (gA hLl (gA hb1 hb2)))))))))))))))))
   |false=>
    rw[hlf]at cl
    cases hin':lp t.cells.length i c with
    |false=>
     obtain⟨e1,e2⟩:=bad (md hx hlf (.inl hin'));rw[e1,e2];rcases yR hin' with h|h|h|h|h|h
     all_goals try rw[h]at cz
     all_goals
      exact GS (gA g1 (gA g4 (gA g6 (gA g7 (gA hb1' (gA hb8 (gA hb48 (gA hlt (gA hw (gA hx (gA hx' (gA @eK (gA @eL (gA hci (gA hc (gA hLl (gA hb1 (gA hb2 h))))))))))))))))))
    |true=>
     obtain⟨i1,i2,i3,i4,i5,i6⟩:=jk.1 hin';rw[i6]at cz;have ch:=P6 b c.joint (by omega)
     have j1:¬c.low<=i:=by omega
     have j2:¬(t.cells.length:Int)<=c.low:=by omega
     have j3:¬c.high<=i:=by omega
     have j4:¬(t.cells.length:Int)<=c.high:=by omega
     have k1:c.low.toNat<t.cells.length:=by omega
     have k2:c.high.toNat<t.cells.length:=by omega
     have k3:0<=c.low:=by omega
     have k4:0<=c.high:=by omega
     have k5:c.low.toNat<L.length:=by omega
     have k6:c.high.toNat<L.length:=by omega
     cases hh:bE b c.joint with
     |false=>
      obtain⟨e1,e2⟩:=bad (md hx hlf (.inr (.inl hh)));rw[e1,e2];rw[hh]at ch
      cases ha:L[c.low.toNat]? with
      |none=>rw[an k5]at ha;cases ha
      |some xa=>
      have ha':=bW ha k5
      cases hz:L[c.high.toNat]? with
      |none=>rw[an k6]at hz;cases hz
      |some xz=>
      have hz':=bW hz k6;rcases xa with _|d
      .rcases xz with _|d'
       .skip
        with_reducible repeat' (first|refine Sp.h ?_|((first|refine Wd ?_|refine Ss.h ?_|refine Sc.h (cl) ?_|refine Sc.h (cz) ?_|refine Sc.h (ch) ?_|(refine Sb.h ?_ ?_ ?_<;>(try intro hgd)<;>try exact Xy))<;>simp -implicitDefEqProofs [hP,hN,g1,g4,g6,g7,hb1',hb8,hb48,hlt,hw,hx,hx',eK,eL,hci,hc,hLl,hb1,hb2,j1,j2,j3,j4,i5,k1,k2,k3,k4,ha,ha',hz,hz']<;>try refine Ya ?_)|refine X2 ?_ ?_|(refine Xd ?_ ?_<;>intro hcd<;>try exact Xx))
       .obtain⟨hdl,_⟩:=hB.bok.ok _ d' hz
        have hd1:(0:Int)<d'.length:=by omega
        have hd3:0<d'.length:=by omega
        with_reducible repeat' (first|refine Sp.h ?_|((first|refine Wd ?_|refine Ss.h ?_|refine Sc.h (cl) ?_|refine Sc.h (cz) ?_|refine Sc.h (ch) ?_|(refine Sb.h ?_ ?_ ?_<;>(try intro hgd)<;>try exact Xy))<;>simp -implicitDefEqProofs [hP,hN,g1,g4,g6,g7,hb1',hb8,hb48,hlt,hw,hx,hx',eK,eL,hci,hc,hLl,hb1,hb2,j1,j2,j3,j4,i5,k1,k2,k3,k4,ha,ha',hz,hz',hd1,hd3]<;>try refine Ya ?_)|refine X2 ?_ ?_|(refine Xd ?_ ?_<;>intro hcd<;>try exact Xx))
      .obtain⟨hdl,_⟩:=hB.bok.ok _ d ha
       have hd1:(0:Int)<d.length:=by omega
       have hd3:0<d.length:=by omega
       with_reducible repeat' (first|refine Sp.h ?_|((first|refine Wd ?_|refine Ss.h ?_|refine Sc.h (cl) ?_|refine Sc.h (cz) ?_|refine Sc.h (ch) ?_|(refine Sb.h ?_ ?_ ?_<;>(try intro hgd)<;>try exact Xy))<;>simp -implicitDefEqProofs [hP,hN,g1,g4,g6,g7,hb1',hb8,hb48,hlt,hw,hx,hx',eK,eL,hci,hc,hLl,hb1,hb2,j1,j2,j3,j4,i5,k1,k2,k3,k4,ha,ha',hz,hz',hd1,hd3]<;>try refine Ya ?_)|refine X2 ?_ ?_|(refine Xd ?_ ?_<;>intro hcd<;>try exact Xx))
     |true=>
     rw[hh]at ch;obtain⟨o1,_,o3,o4,_⟩:=mc.1 hh;have o5:=(th.1 o4).1
     have o6:¬c.joint<0:=by omega
     have o7:¬(t.root.length:Int)<=c.joint:=by omega
     cases ha:L[c.low.toNat]? with
     |none=>rw[an k5]at ha;cases ha
     |some xa=>
     have ha':=bW ha k5
     cases xa with
     |some d=>
      obtain⟨e1,e2⟩:=bad (md hx hlf (.inr (.inr (.inl ⟨d,ha⟩))));rw[e1,e2];obtain⟨hdl,_⟩:=hB.bok.ok _ d ha
      have hd2:d≠[]:=by intro h;rw[h]at hdl;simp at hdl;omega
      have hd1:(0:Int)<d.length:=by omega
      have hd3:0<d.length:=by omega
      with_reducible repeat' (first|refine Sp.h ?_|((first|refine Wd ?_|refine Ss.h ?_|refine Sc.h (cl) ?_|refine Sc.h (cz) ?_|refine Sc.h (ch) ?_|(refine Sb.h ?_ ?_ ?_<;>(try intro hgd)<;>try exact Xy))<;>simp -implicitDefEqProofs [hP,hN,g1,g4,g6,g7,hb1',hb8,hb48,hlt,hw,hx,hx',eK,eL,hci,hc,hLl,hb1,hb2,j1,j2,j3,j4,i5,o6,o7,k1,k2,k3,k4,ha,ha',hd1,hd2,hd3]<;>try refine Ya ?_)|refine X2 ?_ ?_|(refine Xd ?_ ?_<;>intro hcd<;>try exact Xx))
     |none=>
     cases hz:L[c.high.toNat]? with
     |none=>rw[an k6]at hz;cases hz
     |some xz=>
     have hz':=bW hz k6
     cases xz with
     |some d=>
      obtain⟨e1,e2⟩:=bad (md hx hlf (.inr (.inr (.inr ⟨d,hz⟩))));rw[e1,e2];obtain⟨hdl,_⟩:=hB.bok.ok _ d hz
      have hd2:d≠[]:=by intro h;rw[h]at hdl;simp at hdl;omega
      have hd1:(0:Int)<d.length:=by omega
      have hd3:0<d.length:=by omega
      with_reducible repeat' (first|refine Sp.h ?_|((first|refine Wd ?_|refine Ss.h ?_|refine Sc.h (cl) ?_|refine Sc.h (cz) ?_|refine Sc.h (ch) ?_|(refine Sb.h ?_ ?_ ?_<;>(try intro hgd)<;>try exact Xy))<;>simp -implicitDefEqProofs [hP,hN,g1,g4,g6,g7,hb1',hb8,hb48,hlt,hw,hx,hx',eK,eL,hci,hc,hLl,hb1,hb2,j1,j2,j3,j4,i5,o6,o7,k1,k2,k3,k4,ha,ha',hz,hz',hd1,hd2,hd3]<;>try refine Ya ?_)|refine X2 ?_ ?_|(refine Xd ?_ ?_<;>intro hcd<;>try exact Xx))
     |none=>
      have hnx:=tB hB hlt (by rw[hc];exact rz hx hlf hin' hh ha hz)
      with_reducible repeat' (first|refine Sp.h ?_|((first|refine Wd ?_|refine Ss.h ?_|refine Sc.h (cl) ?_|refine Sc.h (cz) ?_|refine Sc.h (ch) ?_|(refine Sb.h ?_ ?_ ?_<;>(try intro hgd)<;>try exact Xy))<;>simp -implicitDefEqProofs [hP,hN,g1,g4,g6,g7,hb1',hb8,hb48,hlt,hw,hx,hx',eK,eL,hci,hc,hLl,hb1,hb2,j1,j2,j3,j4,i5,o6,o7,k1,k2,k3,k4,ha,ha',hz,hz']<;>try refine Ya ?_)|refine X2 ?_ ?_|(refine Xd ?_ ?_<;>intro hcd<;>try exact Xx))
      all_goals exact⟨_,hnx,set_row⟩
  .have hdn:=Cl hB hlt
   have hmap:=Ez hdn
   have hval:aX t=true:=by simp[aX,hdn]
   rw[hval,<-hmap];exact GS (gA g1 (gA g4 (gA g6 (gA g7 (gA hb1' (gA hb8 (gA hb48 (gA hlt hLl))))))))
abbrev zN(n:Nat):PV:=Z (n:Int)
abbrev ns(l:List Nat):PV:=.sl (l.map zN)
theorem Qm(t:Tr)(hl:t.cells.length<=9223372036854775807):ab Tryz.prog 70 [.pv (fe t)] [] [] (.pv (B (aX t))):=by
 have cb:=KE t hl;refine Dp Tryz.func70 ?_;intro C hP hN;simp only[Tryz.f70]at hN|-;exact GS trivial
theorem OS(xs:List (Int))(hl:xs.length<=16777216):ab Tryz.prog 180 [.pv (.sl (xs.map Z))] [] [] (.pv (.sl (xs.map Z))):=by
 by_cases hx:xs=[]
 .subst hx
  refine Dp Tryz.func180 ?_;intro C hP hN;simp only[Tryz.f180]at hN|-;exact Dn [5] trivial
 .have hne:xs.isEmpty=false:=by simp[hx]
  refine Dp Tryz.func180 ?_;intro C hP hN;simp only[Tryz.f180]at hN|-;exact Dn [5] (gA hx (gA hne (gA (show xs.length*8<=140737488355328 by omega) (show xs.length<=9223372036854775807 by omega))))
theorem OT(xs:List (Int×Int))(hl:xs.length<=16777216):ab Tryz.prog 68 [.pv (.sl (xs.map aR))] [] [] (.pv (.sl (xs.map aR))):=by
 by_cases hx:xs=[]
 .subst hx
  refine Dp Tryz.func68 ?_;intro C hP hN;simp only[Tryz.f68]at hN|-;exact Dn [5] trivial
 .have hne:xs.isEmpty=false:=by simp[hx]
  refine Dp Tryz.func68 ?_;intro C hP hN;simp only[Tryz.f68]at hN|-;exact Dn [5] (gA hx (gA hne (gA (show xs.length*16<=140737488355328 by omega) (show xs.length<=9223372036854775807 by omega))))
theorem TV(f:FuncId)(p:J->Int->Bool)(xs:List (J))(ys:List (Int))(hl:xs.length<=9223372036854775807)(hf:∀a b,ab Tryz.prog f [.pv (bC a),.pv (Z b)] [] [] (.pv (B (p a b)))):ab Tryz.prog 65 [.pv (.sl (xs.map bC)),.pv (.sl (ys.map Z)),.pv (Fv f)] [] [] (.pv (B (decide (xs.length=ys.length)&&dV p xs ys))):=by
 refine Dp Tryz.func65 ?_;intro C hP hN;simp only[Tryz.f65]at hN|-;by_cases he:xs.length=ys.length
 .skip
  refine Gz ?_;refine WP.loopN [8] xs.length (λi st=>st.t 0=.pv (.sl (xs.map bC))∧st.t 1=.pv (.sl (ys.map Z))∧st.t 2=.pv (Fv f)∧st.t 14=.pv (.sl (xs.map bC))∧st.t 15=.pv (Z xs.length)∧st.t 16=.pv (Z i)∧st.h 8=none∧eO p xs ys i=true) (by simp[eO,he]) ?_;rintro i st hi ⟨h0,h1,h2,h14,h15,h16,hb,hq⟩;by_cases hlt:i<xs.length
  .have hw:=al hlt hl
   have hlt':i<ys.length:=by omega
   have hF:p xs[i] ys[i]=false->dV p xs ys=false:=iB hlt hlt';have hS:p xs[i] ys[i]=true->eO p xs ys (i+1)=true:=jq hlt hlt' hq
   with_reducible repeat' (first|refine Sp.h ?_|((first|refine Wd ?_|refine Ss.h ?_|refine Sc.h (hf _ _) ?_|(refine Sb.h ?_ ?_ ?_<;>(try intro hgd)<;>try exact Xy))<;>simp -implicitDefEqProofs (maxSteps:=2000000) [hP,hN,h0,h1,h2,h14,h15,h16,hb,hlt,hlt',hw]<;>try refine Ya ?_)|refine X2 ?_ ?_|(refine Xd ?_ ?_<;>intro hcd<;>try exact Xx))
   all_goals first|exact hF (by simpa using hcd)|simpa using hS (by simpa using hcd)
  .skip
   refine Gz ?_
   all_goals simp[he,jr hlt hq]
 .skip
  exact Gy
  all_goals simp[he]
theorem QF(f:FuncId)(p:J->Int×Int->Bool)(xs:List (J))(ys:List (Int×Int))(hl:xs.length<=9223372036854775807)(hf:∀a b,ab Tryz.prog f [.pv (bC a),.pv (aR b)] [] [] (.pv (B (p a b)))):ab Tryz.prog 127 [.pv (.sl (xs.map bC)),.pv (.sl (ys.map aR)),.pv (Fv f)] [] [] (.pv (B (decide (xs.length=ys.length)&&dV p xs ys))):=by
 refine Dp Tryz.func127 ?_;intro C hP hN;simp only[Tryz.f127]at hN|-;by_cases he:xs.length=ys.length
 .skip
  refine Gz ?_;refine WP.loopN [8] xs.length (λi st=>st.t 0=.pv (.sl (xs.map bC))∧st.t 1=.pv (.sl (ys.map aR))∧st.t 2=.pv (Fv f)∧st.t 14=.pv (.sl (xs.map bC))∧st.t 15=.pv (Z xs.length)∧st.t 16=.pv (Z i)∧st.h 8=none∧eO p xs ys i=true) (by simp[eO,he]) ?_;rintro i st hi ⟨h0,h1,h2,h14,h15,h16,hb,hq⟩;by_cases hlt:i<xs.length
  .have hw:=al hlt hl
   have hlt':i<ys.length:=by omega
   have hF:p xs[i] ys[i]=false->dV p xs ys=false:=iB hlt hlt';have hS:p xs[i] ys[i]=true->eO p xs ys (i+1)=true:=jq hlt hlt' hq
   with_reducible repeat' (first|refine Sp.h ?_|((first|refine Wd ?_|refine Ss.h ?_|refine Sc.h (hf _ _) ?_|(refine Sb.h ?_ ?_ ?_<;>(try intro hgd)<;>try exact Xy))<;>simp -implicitDefEqProofs (maxSteps:=2000000) [hP,hN,h0,h1,h2,h14,h15,h16,hb,hlt,hlt',hw]<;>try refine Ya ?_)|refine X2 ?_ ?_|(refine Xd ?_ ?_<;>intro hcd<;>try exact Xx))
   all_goals first|exact hF (by simpa using hcd)|simpa using hS (by simpa using hcd)
  .skip
   refine Gz ?_
   all_goals simp[he,jr hlt hq]
 .skip
  exact Gy
  all_goals simp[he]
def qS(j:J)(x:Int):Bool:=decide (j.lo<=x)&&decide (x<=j.hi)
def ie(j:J):Int×Int:=(j.lo,j.hi)
theorem TW(j:J)(x:Int):ab Tryz.prog 66 [.pv (bC j),.pv (Z x)] [] [] (.pv (B (qS j x))):=by
 refine Dp Tryz.func66 ?_;intro C hP hN;simp only[Tryz.f66]at hN|-
 with_reducible repeat' (first|refine Sp.h ?_|((first|refine Ss.h ?_|(refine Sb.h ?_ ?_ ?_<;>(try intro hgd)<;>try exact Xy))<;>simp -implicitDefEqProofs (maxSteps:=2000000) [hP,hN])|refine X2 ?_ ?_|(refine Xd ?_ ?_<;>intro hcd<;>try exact Xx))
 all_goals (simp_all[qS]<;>omega)
theorem PY(j:J):ab Tryz.prog 72 [.pv (bC j)] [] [] (.pv (aR (ie j))):=by
 refine Dp Tryz.func72 ?_;intro C hP hN;simp only[Tryz.f72]at hN|-;refine Gz ?_
 all_goals simp[ie]
theorem QG(j:J)(x:Int×Int):ab Tryz.prog 128 [.pv (bC j),.pv (aR x)] [] [] (.pv (B (ed x (ie j)))):=by
 refine Dp Tryz.func128 ?_;intro C hP hN;simp only[Tryz.f128]at hN|-;have q1:=@PY;have q2:=L5 x (j.lo,j.hi);exact GS @ie.eq_1
def cG(js:List J)(ms:List Ms)(c:List Int):Bool:=decide (aT js ms=0)&&decide (js.length=c.length)&&dV qS js c
theorem Fg(js:List J)(ms:List Ms)(c:List Int)(hl:js.length<=9223372036854775807)(hm:ms.length<=9223372036854775807):ab Tryz.prog 30 [.pv (gF js ms),.pv (zs c)] [] [] (.pv (B (cG js ms c))):=by
 have ce:=TV 66 qS js c hl TW;by_cases hc:aT js ms=0
 .have hr:cG js ms c=(decide (js.length=c.length)&&dV qS js c):=by simp[cG,hc]
  rw[hr];generalize(decide (js.length=c.length)&&dV qS js c)=u at *;refine Dp Tryz.func30 ?_;intro C hP hN;simp only[Tryz.f30]at hN|-;have q1:=yH js ms hl hm;exact GS hc
 .have hr:cG js ms c=false:=by simp[cG,hc]
  have hcn:(aT js ms==0)=false:=by simp[hc]
  rw[hr];refine Dp Tryz.func30 ?_;intro C hP hN;simp only[Tryz.f30]at hN|-;have q1:=yH js ms hl hm;exact GS (gA hc hcn)
def ah(js:List J)(ms:List Ms):List (Int×Int):=if aT js ms=0 then js.map ie else[]
theorem rl{ms:List Ms}(h:aT js ms=0):0<js.length∧js.length<=10:=by
 unfold aT at h;split at h
 all_goals omega
theorem TX(js:List J)(ms:List Ms)(hl:js.length<=9223372036854775807)(hm:ms.length<=9223372036854775807):ab Tryz.prog 32 [.pv (gF js ms)] [] [] (.pv (iv (ah js ms))):=by
 by_cases hc:aT js ms=0
 .have hlen:=rl hc
  have cm:=T5 72 ie js (by omega) PY
  have hr:ah js ms=js.map ie:=by simp[ah,hc]
  rw[hr];generalize js.map ie=u at *;refine Dp Tryz.func32 ?_;intro C hP hN;simp only[Tryz.f32]at hN|-;have q1:=yH js ms hl hm;exact GS hc
 .have hr:ah js ms=[]:=by simp[ah,hc]
  have hcn:(aT js ms !=0)=true:=by simp[hc]
  rw[hr];refine Dp Tryz.func32 ?_;intro C hP hN;simp only[Tryz.f32]at hN|-;have q1:=yH js ms hl hm;exact GS (gA hc hcn)
theorem P0(js:List J)(ms:List Ms)(hl:js.length<=9223372036854775807)(hm:ms.length<=9223372036854775807):ab Tryz.prog 16 [.pv (gF js ms)] [] [] (.pv (iv (ah js ms))):=by
 by_cases hc:aT js ms=0
 .have hlen:=rl hc
  have hcn:(aT js ms !=0)=false:=by simp[hc]
  have hr:ah js ms=js.map ie:=by simp[ah,hc]
  rw[hr];refine Dp Tryz.func16 ?_;intro C hP hN;simp only[Tryz.f16]at hN|-;have q1:=sX js ms hl hm;refine ud [3] (gA hc hcn) ?_;refine WP.loopN [] js.length (λi st=>st.t 1=.ptr 1 0∧st.h 1=some (.box [.pv (.sl (js.map bC)),.pv (.sl (ms.map IT))] true false)∧st.t 4=.pv (Z i)∧st.t 3=.arr 3 i∧st.h 3=some (.row 50 2 ((js.map λj=>I j.lo j.hi).take i) 0)) (by simp) ?_;rintro i st hi ⟨g1,hb1,g4,g3,hb3⟩;by_cases hlt:i<js.length
  .have hw:=al hlt hl
   have hz:min i js.length=i:=by omega
   have hs:=Cs (f:=λj:J=>I j.lo j.hi) hlt
   with_reducible repeat' (first|refine Sp.h ?_|((first|refine Wd ?_|refine Ss.h ?_|(refine Sb.h ?_ ?_ ?_<;>(try intro hgd)<;>try exact Xy))<;>simp -implicitDefEqProofs (maxSteps:=2000000) [hP,hN,g1,hb1,g4,g3,hb3,hlt,hw,hz,hs,show(i+1)*16<=140737488355328 by omega,show i+1<=9223372036854775807 by omega]<;>try refine Ya ?_)|refine X2 ?_ ?_|(refine Xd ?_ ?_<;>intro hcd<;>try exact Xx))
  .have hz:min i js.length=i:=by omega
   refine Gz ?_;have htd:List.take i (js.map λj=>I j.lo j.hi)=js.map λj=>I j.lo j.hi:=KL (by simp;omega)
   first|exact htd|(simp only[List.map_map];exact htd)|(simp[ie];exact htd)
 .have hr:ah js ms=[]:=by simp[ah,hc]
  have hcn:(aT js ms !=0)=true:=by simp[hc]
  rw[hr];refine Dp Tryz.func16 ?_;intro C hP hN;simp only[Tryz.f16]at hN|-;have q1:=sX js ms hl hm;exact GS (gA hc hcn)
def gY(js:List J)(ms:List Ms)(b:List (Int×Int)):Bool:=decide (aT js ms=0)&&decide (js.length=b.length)&&dV (λj x=>ed x (ie j)) js b
theorem TY(js:List J)(ms:List Ms)(b:List (Int×Int))(hl:js.length<=9223372036854775807)(hm:ms.length<=9223372036854775807):ab Tryz.prog 75 [.pv (gF js ms),.pv (iv b)] [] [] (.pv (B (gY js ms b))):=by
 have ce:=QF 128 (λj x=>ed x (ie j)) js b hl QG;by_cases hc:aT js ms=0
 .have hr:gY js ms b=(decide (js.length=b.length)&&dV (λj x=>ed x (ie j)) js b):=by simp[gY,hc]
  rw[hr];generalize(decide (js.length=b.length)&&dV (λj x=>ed x (ie j)) js b)=u at *;refine Dp Tryz.func75 ?_;intro C hP hN;simp only[Tryz.f75]at hN|-;have q1:=yH js ms hl hm;exact GS hc
 .have hr:gY js ms b=false:=by simp[gY,hc]
  have hcn:(aT js ms==0)=false:=by simp[hc]
  rw[hr];refine Dp Tryz.func75 ?_;intro C hP hN;simp only[Tryz.f75]at hN|-;have q1:=yH js ms hl hm;exact GS (gA hc hcn)
def sU(js:List J)(ms:List Ms)(b:List (Int×Int)):Bool:=decide (b.length=js.length)&&bo vI b&&decide (aT js ms=0)
def ge(js:List J)(ms:List Ms)(b:List (Int×Int)):Int:=if sU js ms b then(iH js b js.length).1 else -1
theorem Dq{b:List (Int×Int)}(h1:i<js.length)(h2:i<b.length)(h:2<=dO b[i]∧(iH js b i).2<wr (js[i].w*dO b[i])):iH js b (i+1)=((i:Int),wr (js[i].w*dO b[i])):=by
 simp[iH,h1,h2,h]
theorem xU{b:List (Int×Int)}(h1:i<js.length)(h2:i<b.length)(h:¬(2<=dO b[i]∧(iH js b i).2<wr (js[i].w*dO b[i]))):iH js b (i+1)=iH js b i:=by
 simp only[iH,an h1,an h2];rw[Ik h]
theorem Dr(x:Int×Int):ab Tryz.prog 136 [.pv (aR x)] [] [] (.pv (Z (dO x))):=wL x.1 x.2
theorem TZ(js:List J)(ms:List Ms)(b:List (Int×Int))(hl:js.length<=9223372036854775807)(hm:ms.length<=9223372036854775807)(hb:b.length<=9223372036854775807):ab Tryz.prog 81 [.pv (gF js ms),.pv (iv b)] [] [] (.pv (Z (ge js ms b))):=by
 cases hok:sU js ms b with
 |false=>
  have hr:ge js ms b=-1:=by simp[ge,hok]
  rw[hr];by_cases e1:b.length=js.length
  .have e1':((b.length:Int)!=js.length)=false:=by simp[e1]
   have hok':(bo vI b&&decide (aT js ms=0))=false:=by simpa[sU,e1]using hok
   refine Dp Tryz.func81 ?_;intro C hP hN;simp only[Tryz.f81]at hN|-;have q1:=wO _ hb;have q2:=yH js ms hl hm;exact GS e1'
   all_goals simp_all
  .have e1':((b.length:Int)!=js.length)=true:=by simp;omega
   refine Dp Tryz.func81 ?_;intro C hP hN;simp only[Tryz.f81]at hN|-;have q1:=wO _ hb;have q2:=yH js ms hl hm;exact GS e1'
 |true=>
  have hr:ge js ms b=(iH js b js.length).1:=by simp[ge,hok]
  rw[hr];simp only[sU,An,HX]at hok;obtain⟨⟨e1,s1⟩,hc⟩:=hok
  have e1':((b.length:Int)!=js.length)=false:=by simp[e1]
  refine Dp Tryz.func81 ?_;intro C hP hN;simp only[Tryz.f81]at hN|-;have q1:=wO _ hb;have q2:=yH js ms hl hm;refine GT (gA e1' (gA s1 hc)) ?_;refine WP.loopN [8] js.length (λi st=>st.t 2=.ptr 2 0∧st.h 2=some (.box [.pv (.sl (js.map bC)),.pv (.sl (ms.map IT))] true false)∧st.t 27=.pv (iv b)∧st.t 28=.pv (Z b.length)∧st.t 29=.pv (Z i)∧st.t 5=.pv (Z (iH js b i).1)∧st.t 6=.pv (Z (iH js b i).2)∧st.h 8=none) (by simp[iH]) ?_;rintro i st hi ⟨g2,hb2,g27,g28,g29,g5,g6,hb8⟩;by_cases hlt:i<js.length
  .have hw:=al hlt hl
   have hlb:i<b.length:=by omega
   by_cases h2:2<=dO b[i]
   .by_cases h3:(iH js b i).2<wr (js[i].w*dO b[i])
    .have hs:=Dq hlt hlb ⟨h2,h3⟩
     with_reducible repeat' (first|refine Sp.h ?_|((first|refine Ss.h ?_|refine Sc.h (Dr _) ?_|(refine Sb.h ?_ ?_ ?_<;>(try intro hgd)<;>try exact Xy))<;>simp -implicitDefEqProofs (maxSteps:=2000000) [hP,hN,g2,hb2,g27,g28,g29,g5,g6,hb8,hlt,hlb,hw,h2,h3])|refine X2 ?_ ?_|(refine Xd ?_ ?_<;>intro hcd<;>try exact Xx))
     all_goals simp[hs]
    .have hs:=xU hlt hlb (λh=>h3 h.2)
     with_reducible repeat' (first|refine Sp.h ?_|((first|refine Ss.h ?_|refine Sc.h (Dr _) ?_|(refine Sb.h ?_ ?_ ?_<;>(try intro hgd)<;>try exact Xy))<;>simp -implicitDefEqProofs (maxSteps:=2000000) [hP,hN,g2,hb2,g27,g28,g29,g5,g6,hb8,hlt,hlb,hw,h2,h3])|refine X2 ?_ ?_|(refine Xd ?_ ?_<;>intro hcd<;>try exact Xx))
     all_goals simp[hs]
   .have hs:=xU hlt hlb (λh=>h2 h.1)
    with_reducible repeat' (first|refine Sp.h ?_|((first|refine Ss.h ?_|refine Sc.h (Dr _) ?_|(refine Sb.h ?_ ?_ ?_<;>(try intro hgd)<;>try exact Xy))<;>simp -implicitDefEqProofs (maxSteps:=2000000) [hP,hN,g2,hb2,g27,g28,g29,g5,g6,hb8,hlt,hlb,hw,h2])|refine X2 ?_ ?_|(refine Xd ?_ ?_<;>intro hcd<;>try exact Xx))
    all_goals simp[hs]
  .have hi':i=js.length:=by omega
   subst hi'
   have hnb:¬js.length<b.length:=by omega
   exact Gy
def pL(k sort:Int)(o:Bool):Bool:=if sort=0 then k==1 else if sort=1 then(k==1||(k==0&&o))else if sort=2 then(k==1||(k==0&& !o))else k !=2
def oU(cs:List Cel)(op:List Bool)(sort:Int)(i:Nat):Bool:=match cs[i]? with
 |some c=>dZ c&&pL c.v.kind sort (op[i]?.getD false)
 |none=>false
def gz(bs:List Bx)(i:Nat):Bx:=bs[i]?.getD []
def aM(bs:List Bx)(p:List Int)(i:Nat):Bool:=lU (gz bs i) p
def fZ(bs:List Bx)(i j:Nat):Bool:=bp (gz bs i) (gz bs j)
theorem zE(hv:aX t=true){c:Cel}(hc:t.cells[i]?=some c):decide (c.low=-1)=dZ c:=by
 obtain⟨L,hL⟩:=Le.1 hv
 have hp:=kQ (P:=λk _=>i<k->decide (c.low=-1)=dZ c) hL (by intro h;omega) (λk d M M' hk hp hm hi=>by
  by_cases e:k=i
  .subst e
   rw[hc]at hk;injection hk with hk;subst hk;obtain⟨b,hb,⟨h1,_,_⟩|⟨h1,h2,_⟩⟩:=ji hm
   .rw[h1];simp[dZ]at h1;simp[h1]
   .rw[h1]
    have:=jk.1 h2;simp;omega
  .exact hp (by omega))
 exact hp (th.1 hc).1
abbrev wg(l:List Nat):PV:=.sl (l.map λn:Nat=>Z (n:Int))
structure Spc where
 root:Bx
 cells:List Cel
 bx:List Bx
 near:List (List Nat)
 jn:List Int
 cc:Bool:=false
variable {s:Spc}
abbrev Um(s:Spc):PV:=.agg [iv s.root,.sl (s.cells.map bD),.sl (s.bx.map iv),.sl (s.near.map wg),.sl (s.jn.map Z)]
abbrev nV(s:Spc):PV:=.rptr (Um s) 0
def ae(s:Spc)(v:Nat):List Nat:=(s.near[v]?).getD []
def aw(s:Spc)(i:Nat):Cel:=(s.cells[i]?).getD (aH br)
def dm(s:Spc)(i:Nat):Int:=(s.jn[i]?).getD 0
def cX(s:Spc)(f:Int->Int->Bool)(i:Nat):Bool:=decide ((aw s i).low=-1)&&f (aw s i).v.kind (dm s i)
def az(s:Spc)(i:Nat):Bx:=(s.bx[i]?).getD []
def iS(near:List (List Nat)):List AV:=(List.range near.length).map λv=>.arr (v+300) ((near[v]?).getD []).length
abbrev dM:AV:=.pv (.val (.slice none 0 0))
def mK(s:Spc):AV:=match s.cc with
 |true=>.pv (.sl (s.cells.map bD))
 |false=>.arr 291 s.cells.length
theorem td(h:s.cc=false):mK s=.arr 291 s.cells.length:=by unfold mK;rw[h]
theorem Po(h:s.cc=true):mK s=.pv (.sl (s.cells.map bD)):=by unfold mK;rw[h]
theorem NF(s:Spc):rS (mK s)=true:=by unfold mK;split<;>rfl
theorem DG{ks:List Nat}(h:ks.contains 291=false):bL ks (mK s)=false:=by
 unfold mK;split
 .rfl
 .simpa[bL,aO]using h
def bu(own:Bool)(s:Spc)(c:Nat):Hp:=λk=>
 if k=290 then some (.box [.pv (iv s.root),mK s,.arr 292 s.bx.length,.ext (.barr 293 s.near.length (s.near.length+c)),.arr 294 s.jn.length] own false)
 else if k=291 then(match s.cc with
  |true=>none
  |false=>some (.row 58 8 (s.cells.map bD) 0))
 else if k=292 then some (.row 39 1 (s.bx.map iv) 0)
 else if k=293 then some (.box (iS s.near++List.replicate c dM) true false)
 else if k=294 then some (.row 3 1 (s.jn.map Z) 0)
 else if 300<=k∧k<300+s.near.length then some (.row 3 1 ((ae s (k-300)).map λn:Nat=>Z (n:Int)) 0)
 else none
theorem dk(near:List (List Nat)):(iS near).length=near.length:=by simp[iS]
theorem mU(h:v<near.length):(iS near)[v]?=some (.arr (v+300) ((near[v]?).getD []).length):=by simp[iS,h]
theorem pg(own:Bool)(s:Spc)(c:Nat):bu own s c 290=some (.box [.pv (iv s.root),mK s,.arr 292 s.bx.length,.ext (.barr 293 s.near.length (s.near.length+c)),.arr 294 s.jn.length] own false):=rfl
theorem rJ(own:Bool)(s:Spc)(c:Nat)(h:s.cc=false):bu own s c 291=some (.row 58 8 (s.cells.map bD) 0):=by
 unfold bu;rw[Ik (by omega),IR rfl,h]
theorem rL(own:Bool)(s:Spc)(c:Nat):bu own s c 292=some (.row 39 1 (s.bx.map iv) 0):=rfl
theorem ph(own:Bool)(s:Spc)(c:Nat):bu own s c 293=some (.box (iS s.near++List.replicate c dM) true false):=rfl
theorem uk(own:Bool)(s:Spc)(c:Nat):bu own s c 294=some (.row 3 1 (s.jn.map Z) 0):=rfl
theorem mr{own:Bool}(h:v<s.near.length):bu own s c (v+300)=some (.row 3 1 ((ae s v).map λn:Nat=>Z (n:Int)) 0):=by
 unfold bu;rw[Ik (by omega),Ik (by omega),Ik (by omega),Ik (by omega),Ik (by omega),IR (by omega),Nat.add_sub_cancel]
theorem Ie{own:Bool}(h:295<=k):bu own s c k=none∨∃xs,bu own s c k=some (.row 3 1 xs 0):=by
 unfold bu;rw[Ik (by omega),Ik (by omega),Ik (by omega),Ik (by omega),Ik (by omega)];split
 .exact .inr ⟨_,rfl⟩
 .exact .inl rfl
theorem pi{own:Bool}(h:s.near.length<=4096):LookH (bu own s c):=by
 have cases:∀{k b},bu own s c k=some b->(k=290∧b=.box [.pv (iv s.root),mK s,.arr 292 s.bx.length,.ext (.barr 293 s.near.length (s.near.length+c)),.arr 294 s.jn.length] own false)∨(k=293∧b=.box (iS s.near++List.replicate c dM) true false)∨(290<=k∧k<1000000∧∃e sz xs,b=.row e sz xs 0):=by
  intro k b hk;unfold bu at hk;split at hk
  .rename_i e;injection hk with hk;exact .inl ⟨e,hk.symm⟩
  .split at hk
   .split at hk
    .cases hk
    .injection hk with hk;exact .inr (.inr ⟨by omega,by omega,_,_,_,hk.symm⟩)
   .split at hk
    .injection hk with hk;exact .inr (.inr ⟨by omega,by omega,_,_,_,hk.symm⟩)
    .split at hk
     .rename_i e;injection hk with hk;exact .inr (.inl ⟨e,hk.symm⟩)
     .split at hk
      .injection hk with hk;exact .inr (.inr ⟨by omega,by omega,_,_,_,hk.symm⟩)
      .split at hk
       .injection hk with hk;exact .inr (.inr ⟨by omega,by omega,_,_,_,hk.symm⟩)
       .cases hk
 have hin:∀k,290<=k->k<1000000->inK k=true:=λk h1 h2=>by simp[inK,h1,h2]
 refine⟨λk b hk=>?_,λk b o hk=>?_,λk b hk=>?_,λk cs o f hk=>?_⟩
 .rcases cases hk with⟨rfl,_⟩|⟨rfl,_⟩|⟨h1,h2,_⟩
  .rfl
  .rfl
  .exact hin k h1 h2
 .rcases cases hk with⟨_,rfl⟩|⟨_,rfl⟩|⟨_,_,e,sz,xs,rfl⟩
  all_goals simp[Blk.frz]
 .rcases cases hk with⟨_,rfl⟩|⟨_,rfl⟩|⟨_,_,e,sz,xs,rfl⟩<;>rfl
 .rcases cases hk with⟨_,e⟩|⟨_,e⟩|⟨_,_,e,sz,xs,h9⟩
  .injection e with e;subst e
   intro x hx;simp only[KM,LF,NH]at hx
   rcases hx with rfl|rfl|rfl|rfl|rfl<;>first|exact NF s|rfl
  .injection e with e;subst e
   intro x hx;rcases JS.1 hx with hx|hx
   .simp only[iS,KB,Mx]at hx
    obtain⟨v,hv,rfl⟩:=hx;exact hin (v+300) (by omega) (by omega)
   .rw[(List.mem_replicate.1 hx).2];rfl
  .cases h9
theorem Fs{cs:List AV}{f:Bool}(h:bu false s c k=some (.box cs false f)):k=290:=by
 unfold bu at h;split at h
 .assumption
 .exfalso
  repeat' split at h
  all_goals cases h
theorem zl{rs:List ResultVar}{Post:AV->Hp->Prop}{r:AV}{s':Spc}{c':Nat}(h1:mS P st rs=some r)(ho:rS r=true)(hl:s'.near.length<=4096)(hp:Post r (bu false s' c'))(hH:∀k,inK k=true->st.h k=bu false s' c' k):yX P rs (bu false s c) Post st:=
 xx h1 ho hH (pi hl) hp λk cs f hk=>by rw[Fs hk];exact⟨_,rfl⟩
theorem BY{own:Bool}{nr:List (List Nat)}(hl:nr.length=s.near.length)(h1:k≠293)(h2:∀v,k=v+300->v<s.near.length->nr[v]?=s.near[v]?):bu own {s with near:=nr} c k=bu own s c k:=by
 unfold bu;simp only[hl];by_cases e:300<=k∧k<300+s.near.length
 .have h3:=h2 (k-300) (by omega) (by omega)
  have h4:ae {s with near:=nr} (k-300)=ae s (k-300):=by simp only[ae,h3]
  simp only[Ik h1,h4];rfl
 .simp only[Ik h1,Ik e]
  rfl
theorem iR{l:List α}{x:α}(h:l[i]?=some x)(hi:i<l.length):l[i]'hi=x:=(th.1 h).2
def fU(s:Spc)(a b:Nat):Spc:=if bp (az s a) (az s b)then{s with near:=(s.near.set a (ae s a++[b])).set b (ae s b++[a])}else s
theorem JK{a b:Nat}{x y:List Nat}(hab:a≠b):iS ((near.set a x).set b y)=((iS near).set a (.arr (a+300) x.length)).set b (.arr (b+300) y.length):=by
 apply My;intro v;simp only[iS,PU];by_cases hv:v<near.length
 .by_cases e2:b=v
  .subst e2
   simp[I0,hv]
  .by_cases e1:a=v
   .subst e1
    simp[I0,hv,e2]
   .simp[I0,hv,e1,e2]
 .rw[Jr (by simp;omega),Jr (by simp;omega)]
theorem Ue(s:Spc)(c a b:Nat)(hn:s.near.length<=4096)(ha:a<s.near.length)(hb:b<s.near.length)(hab:a≠b)(hbx:s.bx.length=s.near.length)(hbl:∀x∈s.bx,x.length<=9223372036854775807)(hnl:∀v,(ae s v).length<=4096):
 n9 Tryz.prog 80 [.ptr 290 0,.pv (Z a),.pv (Z b)] (bu false s c) (λ_ h'=>h'=bu false (fU s a b) c):=by
 have hba:s.bx[a]?=some (az s a):=by simp[az,an (by omega:a<s.bx.length)]
 have hbb:s.bx[b]?=some (az s b):=by simp[az,an (by omega:b<s.bx.length)]
 have ct:=QW (az s a) (az s b) (hbl _ (HW hba))
 have hbal:a<s.bx.length:=by omega
 have hbbl:b<s.bx.length:=by omega
 have hba':=iR hba hbal;have hbb':=iR hbb hbbl;have h290:=pg false s c;have h292:=rL false s c;have h293:=ph false s c;refine Hm Tryz.func80 (pi (by omega)) ?_;intro C hP hN;simp only[Tryz.f80]at hN|-
 cases ht:bp (az s a) (az s b)with
 |false=>
  rw[ht]at ct
  have hm:fU s a b=s:=by simp[fU,ht]
  rw[hm];generalize hH:bu false s c=H at *;refine GT (gA @tV.eq_1 (gA h290 (gA h292 (gA hbal (gA hbbl (gA hba (gA hbb (gA hba' hbb')))))))) ?_;subst hH;exact zl (s':=s) (c':=c) rfl rfl hn rfl (λ_ _=>rfl)
 |true=>
  rw[ht]at ct
  have hm:fU s a b={s with near:=(s.near.set a (ae s a++[b])).set b (ae s b++[a])}:=by simp[fU,ht]
  rw[hm];have hra:=mr (own:=false) (s:=s) (c:=c) ha;have hrb:=mr (own:=false) (s:=s) (c:=c) hb;obtain⟨cs,hcs⟩:∃cs,cs=iS s.near++List.replicate c dM:=⟨_,rfl⟩
  have hcl:cs.length=s.near.length+c:=by rw[hcs];simp[dk]
  have ca:cs[a]?=some (.arr (a+300) (ae s a).length):=by rw[hcs,Iz (by rw[dk];exact ha),mU ha];rfl
  have cb:cs[b]?=some (.arr (b+300) (ae s b).length):=by rw[hcs,Iz (by rw[dk];exact hb),mU hb];rfl
  have ca':∀h,cs[a]'h=.arr (a+300) (ae s a).length:=λh=>iR ca h;have cb':∀h,cs[b]'h=.arr (b+300) (ae s b).length:=λh=>iR cb h;have sa:∀x,cs.take a++x::cs.drop (a+1)=cs.set a x:=λx=>qZ (by omega);have sb:∀x y,(cs.set a x).take b++y::(cs.set a x).drop (b+1)=(cs.set a x).set b y:=λx y=>qZ (by simp;omega)
  have ha1:a+1<=s.near.length+c:=by omega
  have hb1:b+1<=s.near.length+c:=by omega
  have hac:a<s.near.length+c:=by omega
  have hbc:b<s.near.length+c:=by omega
  have hba9:¬b=a:=λe=>hab e.symm;have la:=hnl a;have lb:=hnl b;rw[<-hcs]at h293;generalize hH:bu false s c=H at *;refine HK (gA @tV.eq_1 (gA h290 (gA h292 (gA h293 (gA hbal (gA hbbl (gA hba (gA hbb (gA hba' (gA hbb' (gA hra (gA hrb (gA hcl (gA ca (gA cb (gA ca' (gA cb' (gA sa (gA sb (gA ha (gA hb (gA ha1 (gA hb1 (gA hac (gA hbc (gA hab (gA hba9 (gA (show¬a+300=290 by omega) (gA (show¬b+300=290 by omega) (gA (show¬a+300=293 by omega) (gA (show¬b+300=293 by omega) (gA (show¬293=a+300 by omega) (gA (show¬293=b+300 by omega) (gA (show¬290=a+300 by omega) (gA (show¬290=b+300 by omega) (gA (show a+300<2000000 by omega) (gA (show b+300<2000000 by omega) (gA (show((ae s a).length+1)*8<=140737488355328 by omega) (gA (show((ae s b).length+1)*8<=140737488355328 by omega) (gA (show(ae s a).length+1<=9223372036854775807 by omega) (show(ae s b).length+1<=9223372036854775807 by omega))))))))))))))))))))))))))))))))))))))))) ?_;subst hH;refine zl (s':={s with near:=(s.near.set a (ae s a++[b])).set b (ae s b++[a])}) (c':=c) rfl rfl (by simp only[PU];exact hn) rfl (λk hk=>?_);by_cases e1:k=293
  .subst e1
   rw[ph];simp only[JK hab];simp[ai,hcs,Tm,dk,ha,hb,show¬293=a+300 by omega,show¬293=b+300 by omega]
  .by_cases e2:k=b+300
   .subst e2
    rw[mr (by simp only[PU];exact hb)];simp[ai,ae,I0,hb]
   .by_cases e3:k=a+300
    .subst e3
     rw[mr (by simp only[PU];exact ha)];simp[ai,ae,I0,ha,hba9,hab]
    .rw[BY (by simp) e1 (λv hv hlt=>by rw[I0,Ik (by omega),I0,Ik (by omega)])]
     simp[ai,e1,e2,e3]
def dJ(s:Spc)(leaf:Nat)(joint:Int):Spc:=
 {root:=s.root,cells:=s.cells.set leaf ⟨joint,s.cells.length,s.cells.length+1,br⟩++[aH br,aH br],bx:=s.bx++[bg (az s leaf) joint,bh (az s leaf) joint],near:=s.near.set leaf []++[[],[]],jn:=s.jn++[-1,-1]}
def ig(s:Spc)(k leaf:Nat):Spc:={s with near:=s.near.set k ((ae s k).erase leaf)}
def dt(low leaf:Nat)(s:Spc)(k:Nat):Spc:=fU (fU (ig s k leaf) low k) (low+1) k
def bF(s:Spc)(leaf:Nat)(joint:Int):Spc:=fU ((ae s leaf).foldl (dt s.cells.length leaf) (dJ s leaf joint)) s.cells.length (s.cells.length+1)
theorem kO{a b:Nat}(hab:a≠b)(ha:a<s.near.length)(hb:b<s.near.length):ae (fU s a b) v=if bp (az s a) (az s b)=true∧(v=a∨v=b)then ae s v++[if v=a then b else a]else ae s v:=by
 unfold fU
 cases ht:bp (az s a) (az s b)with
 |false=>simp
 |true=>
  by_cases h1:v=b
  .subst h1
   simp[ae,I0,hb,show¬v=a from λe=>hab e.symm]
  .by_cases h2:v=a
   .subst h2
    simp[ae,I0,ha,h1,show¬b=v from λe=>h1 e.symm]
   .simp[ae,I0,h1,h2,show¬b=v from λe=>h1 e.symm,show¬a=v from λe=>h2 e.symm]
theorem gw(s:Spc)(a b:Nat):(fU s a b).near.length=s.near.length∧(fU s a b).bx=s.bx∧(fU s a b).cells=s.cells∧(fU s a b).jn=s.jn∧(fU s a b).root=s.root:=by
 unfold fU;split<;>simp
theorem vf(hk:k<s.near.length):ae (ig s k leaf) v=if v=k then(ae s k).erase leaf else ae s v:=by
 unfold ig;by_cases h:v=k
 .subst h;simp[ae,I0,hk]
 .simp[ae,I0,h,show¬k=v from λe=>h e.symm]
theorem ql(low leaf:Nat)(s:Spc)(k:Nat):(dt low leaf s k).near.length=s.near.length∧(dt low leaf s k).bx=s.bx∧(dt low leaf s k).cells=s.cells∧(dt low leaf s k).jn=s.jn∧(dt low leaf s k).root=s.root:=by
 unfold dt;obtain⟨a1,a2,a3,a4,a5⟩:=gw (fU (ig s k leaf) low k) (low+1) k;obtain⟨b1,b2,b3,b4,b5⟩:=gw (ig s k leaf) low k;rw[a1,a2,a3,a4,a5,b1,b2,b3,b4,b5];simp[ig]
theorem If{low:Nat}(hl:low+1<s.near.length)(hk:k<low)(hv:v≠k)(hv1:v≠low)(hv2:v≠low+1):ae (dt low leaf s k) v=ae s v:=by
 obtain⟨b1,_⟩:=gw (ig s k leaf) low k
 have hd:(ig s k leaf).near.length=s.near.length:=by simp[ig]
 unfold dt;rw[kO (by omega) (by omega) (by omega),Ik (by omega),kO (by omega) (by omega) (by omega),Ik (by omega),vf (by omega),Ik hv]
theorem JN{low:Nat}(hl:low+1<s.near.length)(hk:k<low):(ae (dt low leaf s k) v).length<=(ae s v).length+(if v=k then 2 else if v=low∨v=low+1 then 1 else 0):=by
 obtain⟨b1,_⟩:=gw (ig s k leaf) low k
 have hd:(ig s k leaf).near.length=s.near.length:=by simp[ig]
 have he:((ae s k).erase leaf).length<=(ae s k).length:=List.length_erase_le;unfold dt;rw[kO (by omega) (by omega) (by omega),kO (by omega) (by omega) (by omega),vf (by omega)];by_cases h:v=k
 .subst h
  simp only[J4];split<;>split<;>simp<;>omega
 .rw[Ik h,Ik h]
  by_cases e1:v=low
  .subst e1
   rw[Ik (by omega)];split<;>simp
  .by_cases e2:v=low+1
   .subst e2
    rw[Ik (c:=bp (az (ig s k leaf) low) (az (ig s k leaf) k)=true∧(low+1=low∨low+1=k)) (by omega)];split<;>simp
   .rw[Ik (by omega),Ik (by omega)]
    simp[e1,e2]
theorem Be(s:Spc)(a b:Nat):(fU s a b).cc=s.cc:=by unfold fU;split<;>rfl
theorem Ft(low leaf:Nat)(s:Spc)(k:Nat):(dt low leaf s k).cc=s.cc:=by unfold dt;rw[Be,Be];rfl
structure LpI(s0:Spc)(n leaf:Nat)(old:List Nat)(i:Nat)(s:Spc):Prop where
 nl:s.near.length=n+2
 bx:s.bx=s0.bx
 cells:s.cells=s0.cells
 jn:s.jn=s0.jn
 root:s.root=s0.root
 cc:s.cc=s0.cc
 low:∀k,k<n->k∉old.take i->ae s k=ae s0 k
 len:∀v,(ae s v).length<=(ae s0 v).length+2+(if v<n then 0 else i)
theorem LpI.step{s0:Spc}(h:LpI s0 n leaf old i s)(hnd:old.Nodup)(hk:old[i]?=some k)(hkn:k<n):LpI s0 n leaf old (i+1) (dt n leaf s k):=by
 obtain⟨a1,a2,a3,a4,a5⟩:=ql n leaf s k
 have ht:old.take (i+1)=old.take i++[k]:=by rw[U5,hk];rfl
 have hni:k∉old.take i:=by
  have:=(List.take_sublist (i+1) old).nodup hnd;rw[ht,Td]at this;intro hm;exact this.2.2 k hm k (by simp) rfl
 refine⟨a1.trans h.nl,a2.trans h.bx,a3.trans h.cells,a4.trans h.jn,a5.trans h.root,(Ft n leaf s k).trans h.cc,λv hv hm=>?_,λv=>?_⟩
 .rw[ht]at hm
  simp only[JS,LZ,not_or]at hm;rw[If (by rw[h.nl];omega) hkn hm.2 (by omega) (by omega),h.low v hv hm.1]
 .have h1:=JN (leaf:=leaf) (v:=v) (s:=s) (by rw[h.nl];omega) hkn
  have h2:=h.len v;by_cases e:v=k
  .subst e
   rw[IR rfl]at h1;rw[h.low v hkn hni]at h1;rw[IR hkn];omega
  .rw[Ik e]at h1
   split at h1
   .rw[Ik (by omega)]at h2|-
    omega
   .split at h2
    .rw[IR (by assumption)];omega
    .rw[Ik (by assumption)];omega
theorem pj{joint:Int}(hl:leaf<s.near.length):ae (dJ s leaf joint) v=if v=leaf then[]else ae s v:=by
 unfold dJ ae;simp only;by_cases h:v<s.near.length
 .rw[Iz (by simpa using h),I0]
  by_cases e:v=leaf
  .subst e;simp[hl]
  .simp[e,show¬leaf=v from λe2=>e e2.symm]
 .rw[IN (by simpa using(by omega:s.near.length<=v)),Ik (by omega),Jr (l:=s.near) (by omega)]
  simp only[PU]
  match v-s.near.length with
  |0=>rfl
  |1=>rfl
  |m+2=>simp
theorem LpI.zero{joint:Int}(hn:s.near.length=n):LpI (dJ s leaf joint) n leaf old 0 (dJ s leaf joint):=
 ⟨by simp[dJ,hn],rfl,rfl,rfl,rfl,rfl,λ_ _ _=>rfl,λ_=>by omega⟩
section
variable {n:Nat} {may has:Nat->Bool} {tch:Nat->Nat->Bool}
inductive Vis(may:Nat->Bool)(k:Nat)(s:BS):List Nat->BS->Prop
 |nil:Vis may k s [] s
 |hit {c s1 i} (h:Vis may k s c s1) (h0:av s1.far i=0) (hm:may i=true):Vis may k s (c++[i]) (qE s1 k i)
 |miss {c s1 i} (h:Vis may k s c s1) (h0:av s1.far i=0->may i=false):Vis may k s (c++[i]) s1
structure VI(n:Nat)(may has:Nat->Bool)(tch:Nat->Nat->Bool)(s:BS)(k:Nat)(c:List Nat)(s1:BS):Prop where
 inv:BInv2 n may has tch s1
 le:s.q.length<=s1.q.length
 qs:∀a,a<s.q.length->df s1 a=df s a
 keep:∀i,1<=av s.far i->av s1.far i=av s.far i
 inq:∀i,1<=av s1.far i->i∈s1.q
 qn:∀a,s.q.length<=a->a<s1.q.length->av s1.far (df s1 a)=av s.far (df s k)+1
 vis:∀i∈c,may i=true->1<=av s1.far i
theorem Fm{s:BS}{l:List Int}{a:Nat}(h:a<s.q.length):df ⟨l,s.q++[i]⟩ a=df s a:=by
 unfold df;rw[Iz h]
theorem Ma{s:BS}{l:List Int}:df ⟨l,s.q++[i]⟩ s.q.length=i:=by
 unfold df;rw[IN (IX _)];simp
theorem Fo{s s1:BS}{c:List Nat}(hs:BInv2 n may has tch s)(hk:k<s.q.length)(hq:∀i,1<=av s.far i->i∈s.q)(h:Vis may k s c s1)(hc:∀i∈c,i<n∧tch i (df s k)=true):VI n may has tch s k c s1:=by
 induction h with
 |nil=>exact⟨hs,IX _,λ_ _=>rfl,λ_ _=>rfl,hq,λa h1 h2=>by omega,λi hi=>by cases hi⟩
 |@hit c s1 i h h0 hm ih=>
  have I:=ih λj hj=>hc j (Tq _ hj);obtain⟨hi,ht⟩:=hc i (by simp);have hqk:=I.qs k hk
  have hkm:df s k∈s.q:=by
   unfold df;rw[an hk];exact Ky _
  have hfk:=(hs.mem _ hkm)
  have hfe:av s1.far (df s1 k)=av s.far (df s k):=by rw[hqk];exact I.keep _ hfk.2
  have hil:i<s1.far.length:=by rw[I.inv.len];exact hi
  have hset:∀j,av (qE s1 k i).far j=if j=i then av s.far (df s k)+1 else av s1.far j:=λj=>by
   simp only[qE];rw[mD hil,hfe]
  have hne:∀j,1<=av s1.far j->j≠i:=λj hj e=>by rw[e,h0]at hj;omega
  have hkm1:df s1 k∈s1.q:=by
   unfold df;rw[an (Ny hk I.le)];exact Ky _
  refine⟨?_,?_,?_,?_,?_,?_,?_⟩
  .refine I.inv.put hi h0 (by rw[hfe];omega) hm (by have:=I.inv.top (df s1 k);omega) (.inr ⟨df s1 k,(I.inv.mem _ hkm1).1,by omega,(I.inv.mem _ hkm1).2,by rw[hqk];exact ht⟩)
  .simp only[qE,Kk,NR];have:=I.le;omega
  .intro a ha
   have:=I.le;rw[<-I.qs a ha];exact Fm (by omega)
  .intro j hj
   have:=I.keep j hj;rw[hset,Ik (hne j (by omega)),this]
  .intro j hj
   rw[hset]at hj;simp only[qE,JS,LZ];split at hj
   .rename_i e;exact .inr e
   .exact .inl (I.inq j hj)
  .intro a ha hal
   simp only[qE,Kk,NR]at hal;by_cases e:a<s1.q.length
   .have e1:df (qE s1 k i) a=df s1 a:=Fm e
    have hm1:df s1 a∈s1.q:=by
     unfold df;rw[an e];exact Ky _
    rw[e1,hset,Ik (hne _ (I.inv.mem _ hm1).2)];exact I.qn a ha e
   .have:a=s1.q.length:=by omega
    subst this;rw[show df (qE s1 k i) s1.q.length=i from Ma,hset,IR rfl]
  .intro j hj hmj
   rw[hset];split
   .omega
   .rename_i e
    rcases JS.1 hj with hj|hj
    .exact I.vis j hj hmj
    .exact absurd (LZ.1 hj) e
 |@miss c s1 i h h0 ih=>
  have I:=ih λj hj=>hc j (Tq _ hj);refine⟨I.inv,I.le,I.qs,I.keep,I.inq,I.qn,λj hj hmj=>?_⟩;rcases JS.1 hj with hj|hj
  .exact I.vis j hj hmj
  .rw[LZ.1 hj]at hmj|-
   have h1:=I.inv.nn i;by_cases e:av s1.far i=0
   .rw[h0 e]at hmj;cases hmj
   .omega
structure BO(n:Nat)(may has:Nat->Bool)(tch:Nat->Nat->Bool)(s:BS)(k:Nat):Prop where
 inv:BInv2 n may has tch s
 inq:∀i,1<=av s.far i->i∈s.q
 mono:∀a b,a<=b->b<s.q.length->av s.far (df s a)<=av s.far (df s b)
 top:∀b,b<s.q.length->k<s.q.length->av s.far (df s b)<=av s.far (df s k)+1
 start:∀i,i<n->may i=true->has i=true->av s.far i=1
 done:∀a,a<k->a<s.q.length->∀i,i<n->may i=true->tch i (df s a)=true->1<=av s.far i∧av s.far i<=av s.far (df s a)+1
theorem Nz{s:BS}(h:i∈s.q):∃a,a<s.q.length∧df s a=i:=by
 obtain⟨a,ha⟩:=LV h;exact⟨a,(th.1 ha).1,by simp[df,ha]⟩
theorem AC{s:BS}{a:Nat}(h:a<s.q.length):df s a∈s.q:=by
 unfold df;rw[an h];exact Ky _
theorem BO.step{s s1:BS}{c:List Nat}(H:BO n may has tch s k)(hk:k<s.q.length)(h:Vis may k s c s1)(hc:∀i∈c,i<n∧tch i (df s k)=true)(hall:∀i,i<n->may i=true->tch i (df s k)=true->i∈c∨i=df s k):BO n may has tch s1 (k+1):=by
 have I:=Fo H.inv hk H.inq h hc;have hle:=I.le
 have far1:∀a,a<s.q.length->av s1.far (df s1 a)=av s.far (df s a):=λa ha=>by
  rw[I.qs a ha];exact I.keep _ (H.inv.mem _ (AC ha)).2
 have up:∀b,b<s1.q.length->av s1.far (df s1 b)<=av s.far (df s k)+1:=by
  intro b hb;by_cases e:b<s.q.length
  .rw[far1 b e];exact H.top b e hk
  .rw[I.qn b (by omega) hb];omega
 have mono:∀a b,a<=b->b<s1.q.length->av s1.far (df s1 a)<=av s1.far (df s1 b):=by
  intro a b hab hb;by_cases e:b<s.q.length
  .rw[far1 b e,far1 a (by omega)];exact H.mono a b hab e
  .rw[I.qn b (by omega) hb];exact up a (by omega)
 refine⟨I.inv,I.inq,mono,?_,?_,?_⟩
 .intro b hb hk1
  have h1:=mono k (k+1) (by omega) hk1;rw[far1 k hk]at h1;have:=up b hb;omega
 .intro i hi hm hh
  have h1:=H.start i hi hm hh;rw[I.keep i (by omega)];exact h1
 .intro a ha hal i hi hm ht
  by_cases e:a<k
  .have hal':a<s.q.length:=by omega
   rw[I.qs a hal']at ht;obtain⟨h1,h2⟩:=H.done a e hal' i hi hm ht;rw[I.keep i h1,far1 a hal'];exact⟨h1,h2⟩
  .have e:a=k:=by omega
   subst e;rw[I.qs a hk]at ht;rw[far1 a hk];rcases hall i hi hm ht with h3|h3
   .have h4:=I.vis i h3 hm
    obtain⟨b,hb,hbi⟩:=Nz (I.inq i h4);have:=up b hb;rw[hbi]at this;exact⟨h4,this⟩
   .have h4:=(H.inv.mem _ (AC hk)).2
    rw[h3,I.keep _ h4];exact⟨h4,by omega⟩
theorem BO.stay{s:BS}(H:BO n may has tch s k)(hk:¬k<s.q.length):BO n may has tch s (k+1):=
 ⟨H.inv,H.inq,H.mono,λb _ h=>by omega,H.start,λa ha hal=>H.done a (by omega) hal⟩
theorem HZ:∀i,i<=n->(∀j,1<=av (bI n may has i).far j->j∈(bI n may has i).q∧av (bI n may has i).far j=1)∧∀j,j<i->may j=true->has j=true->av (bI n may has i).far j=1
 |0,_=>by
  refine⟨λj hj=>?_,λj hj=>by omega⟩
  have hz:av (List.replicate n (0:Int)) j=0:=by simp only[av,Lc];split<;>rfl
  simp only[bI,hz]at hj;omega
 |i+1,hi=>by
  obtain⟨h1,h2⟩:=HZ i (by omega);have hinv:=(uB (n:=n) (may:=may) (has:=has) (tch:=λ_ _=>true) i (by omega)).1
  have hil:i<(bI n may has i).far.length:=by rw[hinv.len];omega
  simp only[bI];split
  .rename_i hc
   simp only[An]at hc;refine⟨λj hj=>?_,λj hj hm hh=>?_⟩
   .rw[mD hil]at hj|-
    split
    .rename_i e;exact⟨by simp[e],rfl⟩
    .rename_i e
     rw[Ik e]at hj;exact⟨Tq _ (h1 j hj).1,(h1 j hj).2⟩
   .rw[mD hil]
    split
    .rfl
    .exact h2 j (by omega) hm hh
  .rename_i hc
   refine⟨h1,λj hj hm hh=>?_⟩;by_cases e:j=i
   .subst e;rw[hm,hh]at hc;exact absurd rfl hc
   .exact h2 j (by omega) hm hh
theorem BO.init:BO n may has tch (bI n may has n) 0:=by
 obtain⟨h1,h2⟩:=HZ (n:=n) (may:=may) (has:=has) n (IX _);have hinv:=(uB (n:=n) (may:=may) (has:=has) (tch:=tch) n (IX _)).1;have one:∀a,a<(bI n may has n).q.length->av (bI n may has n).far (df (bI n may has n) a)=1:=λa ha=>(h1 _ (hinv.mem _ (AC ha)).2).2;refine⟨hinv,λi hi=>(h1 i hi).1,λa b hab hb=>?_,λb hb h0=>?_,λi hi hm hh=>h2 i hi hm hh,λa ha=>by omega⟩
 .rw[one a (by omega),one b hb];omega
 .rw[one b hb,one 0 h0];omega
structure FarOk(n:Nat)(may has:Nat->Bool)(tch:Nat->Nat->Bool)(far:List Int):Prop where
 len:far.length=n
 nn:∀i,0<=av far i
 rng:∀i,1<=av far i->i<n∧may i=true
 start:∀i,i<n->may i=true->has i=true->av far i=1
 back:∀i,1<=av far i->(av far i=1∧has i=true)∨∃p,p<n∧av far p=av far i-1∧1<=av far p∧tch i p=true
 clo:∀p i,1<=av far p->i<n->may i=true->tch i p=true->1<=av far i∧av far i<=av far p+1
theorem BO.fin{s:BS}(H:BO n may has tch s k)(hk:s.q.length<=k):FarOk n may has tch s.far:=by
 refine⟨H.inv.len,H.inv.nn,λi hi=>⟨?_,H.inv.may' i hi⟩,H.start,H.inv.back,λp i hp hi hm ht=>?_⟩
 .exact(H.inv.mem i (H.inq i hi)).1
 .obtain⟨a,ha,rfl⟩:=Nz (H.inq p hp)
  exact H.done a (by omega) ha i hi hm ht
theorem Dx(h:FarOk n may has tch far)(h':FarOk n may has tch' far')(ht:∀i p,i<n->may i=true->p<n->may p=true->i≠p->tch i p=true->tch' i p=true):∀(m:Nat) i,(m:Int)=av far i->1<=av far i->1<=av far' i∧av far' i<=av far i:=by
 intro m
 induction m using Nat.strongRecOn with
 |_ m ih=>
  intro i hm hi;obtain⟨r1,r2⟩:=h.rng i hi;rcases h.back i hi with⟨e,hh⟩|⟨p,p1,p2,p3,p4⟩
  .have:=h'.start i r1 r2 hh
   omega
  .obtain⟨q1,q2⟩:=ih (m-1) (by omega) p (by omega) p3
   have hp:=h.rng p p3
   have hne:i≠p:=λe=>by rw[e]at p2;omega
   obtain⟨c1,c2⟩:=h'.clo p i q1 r1 r2 (ht i p r1 r2 hp.1 hp.2 hne p4);exact⟨c1,by omega⟩
theorem GB(h:FarOk n may has tch far)(h':FarOk n may has tch' far')(ht:∀i p,i<n->may i=true->p<n->may p=true->i≠p->(tch i p=true↔tch' i p=true)):far=far':=by
 have e:∀i,av far i=av far' i:=by
  intro i;have a:=h.nn i;have b:=h'.nn i;by_cases h1:1<=av far i
  .have q1:=Dx h h' (λi p a b c d e=>(ht i p a b c d e).1) (av far i).toNat i (by omega) h1
   have q2:=Dx h' h (λi p a b c d e=>(ht i p a b c d e).2) (av far' i).toNat i (by omega) q1.1;omega
  .by_cases h2:1<=av far' i
   .have q2:=Dx h' h (λi p a b c d e=>(ht i p a b c d e).2) (av far' i).toNat i (by omega) h2
    omega
   .omega
 apply My;intro i;by_cases hi:i<n
 .have h1:i<far.length:=by rw[h.len];exact hi
  have h2:i<far'.length:=by rw[h'.len];exact hi
  have:=e i;simp only[av,an h1,an h2,JX]at this;rw[an h1,an h2,this]
 .rw[Jr (by rw[h.len];omega),Jr (by rw[h'.len];omega)]
theorem H7{s:BS}{k:Nat}(hs:BInv2 n may has tch s)(hk:k<s.q.length):∀i,i<=n->Vis may k s ((List.range i).filter λj=>tch j (df s k)) (bJ may tch s k i)
 |0,_=>.nil
 |i+1,hi=>by
  have ih:=H7 hs hk i (by omega);have hq:=(AP hs hk i (by omega)).2.2;rw[PK,SO];simp only[bJ]
  cases ht:tch i (df s k)with
  |true=>
   rw[show List.filter (λj=>tch j (df s k)) [i]=[i] by simp[ht]];split
   .rename_i hc
    simp only[yU,An,Nj]at hc;exact .hit ih hc.1.1 hc.1.2
   .rename_i hc
    refine .miss ih λh0=>?_;rw[<-Bool.not_eq_true];intro hm;exact hc (by simp[yU,h0,hm,hq,ht])
  |false=>
   rw[show List.filter (λj=>tch j (df s k)) [i]=[] by simp[ht],Uq];rw[Ik (by simp[yU,hq,ht])];exact ih
theorem H8:∀k,BO n may has tch (bK n may has tch k) k
 |0=>BO.init
 |k+1=>by
  have ih:=H8 k;simp only[bK];split
  .rename_i hk
   refine ih.step hk (H7 ih.inv hk n (IX _)) (λi hi=>?_) (λi hi hm ht=>.inl ?_)
   .simp only[Ol,Mx]at hi;exact hi
   .simp only[Ol,Mx];exact⟨hi,ht⟩
  .rename_i hk;exact ih.stay hk
theorem AD:FarOk n may has tch (bK n may has tch n).far:=(H8 n).fin (sL n).le
variable (n may has)
def gT(s:BS)(k:Nat)(l:List Nat):Nat->BS
 |0=>s
 |j+1=>match l[j]? with
  |some i=>if(av (gT s k l j).far i==0)&&may i then qE (gT s k l j) k i else gT s k l j
  |none=>gT s k l j
def gK(nb:Nat->List Nat):Nat->BS
 |0=>bI n may has n
 |k+1=>if k<(gK nb k).q.length then gT may (gK nb k) k (nb (df (gK nb k) k)) (nb (df (gK nb k) k)).length else gK nb k
variable {n may has}
theorem Dy{s:BS}{k:Nat}{l:List Nat}:∀j,j<=l.length->Vis may k s (l.take j) (gT may s k l j)
 |0,_=>.nil
 |j+1,hj=>by
  have ih:=Dy (s:=s) (k:=k) (l:=l) j (by omega);have hl:l[j]?=some l[j]:=an (by omega);rw[MF (by omega)];simp only[gT,hl];split
  .rename_i hc
   simp only[An,Nj]at hc;exact .hit ih hc.1 hc.2
  .rename_i hc
   refine .miss ih λh0=>?_;rw[<-Bool.not_eq_true];intro hm;exact hc (by simp[h0,hm])
def Bc(nb:Nat->List Nat)(i p:Nat):Bool:=(nb p).contains i
theorem Dz{nb:Nat->List Nat}(hnb:∀p i,i∈nb p->i<n):∀k,BO n may has (Bc nb) (gK n may has nb k) k
 |0=>BO.init
 |k+1=>by
  have ih:=Dz hnb k;simp only[gK];split
  .rename_i hk
   have hv:=Dy (may:=may) (s:=gK n may has nb k) (k:=k) (l:=nb (df (gK n may has nb k) k)) _ (IX _);rw[T3]at hv;refine ih.step hk hv (λi hi=>⟨hnb _ i hi,?_⟩) (λi hi hm ht=>.inl ?_)
   .simpa[Bc]using hi
   .simpa[Bc]using ht
  .rename_i hk;exact ih.stay hk
theorem NA(hnb:∀p i,i∈nb p->i<n)(h:∀i p,i<n->may i=true->p<n->may p=true->i≠p->(i∈nb p↔tch i p=true))(hk:(gK n may has nb k).q.length<=k):(gK n may has nb k).far=(bK n may has tch n).far:=
 GB ((Dz hnb k).fin hk) AD λi p a b c d e=>by rw[<-h i p a b c d e];simp[Bc]
def nP(far:List Int)(m:Int)(l:List Nat):Nat->Int
 |0=>-1
 |j+1=>match l[j]? with
  |some k=>if(av far k==m)&&(nP far m l j==-1||decide ((k:Int)<nP far m l j))then(k:Int)else nP far m l j
  |none=>nP far m l j
theorem DA{far:List Int}{m:Int}{l:List Nat}:∀j,j<=l.length->-1<=nP far m l j∧(0<=nP far m l j->av far (nP far m l j).toNat=m∧(nP far m l j).toNat∈l)∧∀k∈l.take j,av far k=m->0<=nP far m l j∧nP far m l j<=(k:Int)
 |0,_=>by simp[nP]
 |j+1,hj=>by
  obtain⟨h1,h2,h3⟩:=DA (far:=far) (m:=m) (l:=l) j (by omega);have hl:l[j]?=some l[j]:=an (by omega);rw[MF (by omega)];simp only[nP,hl];split
  .rename_i hc
   simp only[An,Nv,Nj,HX]at hc;refine⟨by omega,λ_=>⟨by rw[JY];exact hc.1,by rw[JY];exact Ky _⟩,λk hk hf=>⟨by omega,?_⟩⟩;rcases JS.1 hk with hk|hk
   .have:=h3 k hk hf
    omega
   .rw[LZ.1 hk];omega
  .rename_i hc
   refine⟨h1,h2,λk hk hf=>?_⟩;rcases JS.1 hk with hk|hk
   .exact h3 k hk hf
   .rw[LZ.1 hk]at hf|-
    simp only[An,Nv,Nj,HX,not_and,not_or]at hc;have:=hc hf;omega
theorem DB{far:List Int}{a:Nat}:∀m,m<=n->∀i,i<n->n-m<=i->nC far tch a i=true->0<=nS n far tch a m∧nS n far tch a m<=(i:Int)
 |0,_,i,h1,h2,_=>by omega
 |m+1,hm,i,h1,h2,h3=>by
  simp only[nS];split
  .exact⟨by omega,by omega⟩
  .rename_i hc
   by_cases e:i=n-1-m
   .rw[e]at h3;exact absurd h3 hc
   .exact DB m (by omega) i h1 (by omega) h3
theorem Pj{a:Nat}{l:List Nat}(hl:∀i∈l,i<n)(h:∀i,i<n->av far i=av far a-1->(i∈l↔tch i a=true)):nP far (av far a-1) l l.length=nS n far tch a n:=by
 obtain⟨p1,p2,p3⟩:=DA (far:=far) (m:=av far a-1) (l:=l) l.length (IX _);rw[T3]at p3;have q:=ED (n:=n) (tch:=tch) (far:=far) (at_:=a) n (IX _);have q3:=λi=>DB (tch:=tch) (far:=far) (a:=a) n (IX _) i;by_cases e1:0<=nP far (av far a-1) l l.length
 .obtain⟨r1,r2⟩:=p2 e1
  have hi:=hl _ r2
  have hn:nC far tch a (nP far (av far a-1) l l.length).toNat=true:=by
   simp only[nC,An,Nj];exact⟨r1,(h _ hi r1).1 r2⟩
  obtain⟨s1,s2⟩:=q3 _ hi (by omega) hn;obtain⟨t1,t2⟩:=q.1 s1;simp only[nC,An,Nj]at t2;have:=p3 _ ((h _ t1 t2.1).2 t2.2) t2.1;omega
 .by_cases e2:0<=nS n far tch a n
  .obtain⟨t1,t2⟩:=q.1 e2
   simp only[nC,An,Nj]at t2;have:=p3 _ ((h _ t1 t2.1).2 t2.2) t2.1;omega
  .have:=q.2.2
   omega
def kM(far:List Int)(nb:Nat->List Nat)(a:Nat):Nat->Nat
 |0=>a
 |r+1=>(nP far (av far a-1-r) (nb (kM far nb a r)) (nb (kM far nb a r)).length).toNat
def ta(n:Nat)(far:List Int)(nb:Nat->List Nat)(hasF:Nat->Bool):List Nat×Bool:=
 if 0<=aS far hasF n then((List.range (av far (aS far hasF n).toNat).toNat).map (kM far nb (aS far hasF n).toNat),true)else([],false)
theorem H9(hF:far=(bK n may has tch n).far)(hsym:∀i j,i<n->j<n->tch i j=tch j i)(hnb:∀p i,i∈nb p->i<n)(h:∀i p,i<n->may i=true->p<n->may p=true->i≠p->(i∈nb p↔tch i p=true)){a:Nat}(hl:a<n)(ha:0<av far a):
 ∀r:Nat,(r:Int)<av far a->kM far nb a r=pS n far tch a r∧kM far nb a r<n∧av far (kM far nb a r)=av far a-r∧((r:Int)+1<av far a->0<=nP far (av far a-1-r) (nb (kM far nb a r)) (nb (kM far nb a r)).length):=by
 subst hF;have hI:=sL (n:=n) (may:=may) (has:=has) (tch:=tch) n;have hO:=AD (n:=n) (may:=may) (has:=has) (tch:=tch);generalize bK n may has tch n=s at *
 have next:∀r:Nat,(r:Int)+1<av s.far a->nP s.far (av s.far a-1-r) (nb (pS n s.far tch a r)) (nb (pS n s.far tch a r)).length=nS n s.far tch (pS n s.far tch a r) n:=by
  intro r hr;obtain⟨i1,i2⟩:=yk hI hsym hl ha r (by omega);rw[show av s.far a-1-r=av s.far (pS n s.far tch a r)-1 by omega];have hp:=hO.rng (pS n s.far tch a r) (by omega);refine Pj (λi hi=>hnb _ i hi) λi hi hf=>?_;have hm:=hO.rng i (by omega);exact h i _ hi hm.2 hp.1 hp.2 (λe=>by rw[e]at hf;omega)
 have main:∀r:Nat,(r:Int)<av s.far a->kM s.far nb a r=pS n s.far tch a r:=by
  intro r
  induction r with
  |zero=>exact λ_=>rfl
  |succ r ih=>
   intro hr;have e:=ih (by omega);simp only[kM,pS,Cn];rw[e,next r (by omega)]
 intro r hr;obtain⟨i1,i2⟩:=yk hI hsym hl ha r hr;rw[main r hr];refine⟨rfl,i1,i2,λhr1=>?_⟩;rw[next r hr1];have:=(AQ hI hsym i1 (by omega)).1;omega
theorem JH(hsym:∀i j,i<n->j<n->tch i j=tch j i)(hnb:∀p i,i∈nb p->i<n)(h:∀i p,i<n->may i=true->p<n->may p=true->i≠p->(i∈nb p↔tch i p=true)):
 ta n (bK n may has tch n).far nb hasF=(eV n may has hasF tch,dz n may has hasF tch):=by
 have ha:=xr (hasF:=hasF) (far:=(bK n may has tch n).far) n;unfold ta eV dz mE;by_cases h0:0<=aS (bK n may has tch n).far hasF n
 .obtain⟨a1,_⟩:=ha.2.2 h0
  simp only[h0,Tl,J4];refine Prod.ext ?_ rfl;refine List.map_congr_left λr hr=>?_;have hr:=Mx.1 hr;exact(H9 rfl hsym hnb h (by omega) a1 r (by omega)).1
 .simp only[h0,decide_false,IA,JE]
end
theorem NB(s:Spc)(i:Nat)(hi:i<s.cells.length):ab Tryz.prog 89 [.pv (nV s),.pv (Z i)] [] [] (.pv (Z (aw s i).v.kind)):=by
 have hc:s.cells[i]?=some s.cells[i]:=an hi
 have he:aw s i=s.cells[i]:=by simp[aw,hc]
 rw[he];generalize hce:s.cells[i]=c at *;refine Dp Tryz.func89 ?_;intro C hP hN;simp only[Tryz.f89]at hN|-;exact Gy
structure SpcOk(s:Spc)(m:Nat):Prop where
 n:m<=2048
 c:s.cells.length=m
 b:s.bx.length=m
 r:s.near.length=m
 j:s.jn.length=m
 bl:∀b∈s.bx,b.length<=9223372036854775807
 lf:∀p i,i∈ae s p->i<m∧(aw s i).low=-1
 nl:∀p,(ae s p).length<=4096
theorem Me(s:Spc)(p q:List Int)(g:FuncId):ab Tryz.prog 83 [.pv (nV s),.pv (zs p),.pv (zs q),.pv (.val (.func (.func g) #[] #[]))] [] [] (.pv (.agg [nV s,zs p,zs q,.val (.func (.func g) #[] #[])])):=by
 refine Dp Tryz.func83 ?_;intro C hP hN;simp only[Tryz.f83]at hN|-;exact Gy
theorem JJ(s:Spc)(n:Nat)(p q:List Int)(g:FuncId)(f:Int->Int->Bool)(tch:Nat->Nat->Bool)(hs:SpcOk s n)(hq9:q.length<=9223372036854775807)(hmay:∀k j:Int,ab Tryz.prog g [.pv (Z k),.pv (Z j)] [] [] (.pv (B (f k j))))(hcov:∀i p,i<n->cX s f i=true->p<n->cX s f p=true->i≠p->(i∈ae s p↔tch i p=true)):ab Tryz.prog 141 [.pv (.agg [nV s,zs p,zs q,.val (.func (.func g) #[] #[])])] [] [] (.pv (.sl ((bK n (cX s f) (aM s.bx q) tch n).far.map Z))):=by
 have hb:∀i,i<n->s.bx[i]?=some (gz s.bx i):=λi hi=>by
  have:i<s.bx.length:=by rw[hs.b];exact hi
  simp[gz,an this]
 have ck:=λ(i:Nat)(hi:i<s.cells.length)=>NB s i hi;have cH:=λ(i:Nat)(hi:i<n)=>Nl (gz s.bx i) q (hs.bl _ (HW (hb i hi)));have cH':∀i,i<n->ab Tryz.prog 142 [.pv (iv (gz s.bx i)),.pv (zs q)] [] [] (.pv (B (aM s.bx q i))):=cH;have hgk:=λ{k:Nat}(hk:(gK n (cX s f) (aM s.bx q) (ae s) k).q.length<=k)=>NA (λp i hi=>(hs.lf p i hi).1) hcov hk;have hord:=Dz (n:=n) (may:=cX s f) (has:=aM s.bx q) (nb:=ae s) (λp i hi=>(hs.lf p i hi).1);have hbl:=hs.b;have hcl:=hs.c;have hjl:=hs.j;have hnl:=hs.r;have hn:=hs.n;have hlf:=hs.lf;have hnlb:=hs.nl;have hmd:∀i,cX s f i=(decide ((aw s i).low=-1)&&f (aw s i).v.kind (dm s i)):=λi=>rfl
 have hcg:∀i,i<n->s.cells[i]?=some (aw s i):=λi hi=>by
  have:i<s.cells.length:=by omega
  simp[aw,an this]
 have hjg:∀i,i<n->s.jn[i]?=some (dm s i):=λi hi=>by
  have:i<s.jn.length:=by omega
  simp[dm,an this]
 clear cH hcov;generalize hhas:aM s.bx q=has at *;generalize hmm:cX s f=may at *;refine Dp Tryz.func141 ?_;intro C hP hN;simp only[Tryz.f141]at hN|-;refine ud [4] (gA hbl (gA (show(8:Int)*n<=281474976710656 by omega) (gA (show(n:Int)<=281474976710656 by omega) (show(n:Int)<=9223372036854775807 by omega)))) ?_;refine WP.loopN [6] n (λi st=>st.t 1=.ptr 1 0∧st.t 3=.arr 16 n∧st.t 4=.arr 4 (bI n may has i).q.length∧st.t 22=.pv (.sl (s.cells.map bD))∧st.t 23=.pv (Z n)∧st.t 24=.pv (Z i)∧st.h 1=some (.box [.pv (nV s),.pv (zs p),.pv (zs q),.pv (.val (.func (.func g) #[] #[]))] true false)∧st.h 4=some (.row 3 1 ((bI n may has i).q.map zN) 0)∧st.h 16=some (.row 3 1 ((bI n may has i).far.map Z) 0)∧st.h 6=none) (by simp[bI,hcl]) ?_;rintro i st hi ⟨g1,g3,g4,g22,g23,g24,b1,b4,b16,b6⟩;obtain⟨hI,hIz⟩:=uB (n:=n) (may:=may) (has:=has) (tch:=tch) i hi;have hle:=hI.le;have hfl:=hI.len;by_cases hlt:i<n
 .have hw:=al hlt (by omega)
  have hic:i<s.cells.length:=by omega
  have hci:=hcg i hlt;have hci':=bW hci hic
  have hij:i<s.jn.length:=by omega
  have hji:=hjg i hlt;have hji':=bW hji hij
  have hib:i<s.bx.length:=by omega
  have hbi:=hb i hlt;have hbi':=bW hbi hib
  have hsu:bI n may has (i+1)=if may i&&has i then⟨(bI n may has i).far.set i 1,(bI n may has i).q++[i]⟩else bI n may has i:=rfl
  have c1:=ck i hic;have c2:=hmay (aw s i).v.kind (dm s i);have c3:=cH' i hlt;have hm9:=hmd i;generalize bI n may has i=S at *;generalize aw s i=c at *;generalize dm s i=jj at *;by_cases hlo:c.low=-1
  .have hlo':(c.low==-1)=true:=by simp[hlo]
   rw[L4 hlo,KA]at hm9
   cases hf:f c.v.kind jj with
   |false=>
    rw[hf]at c2 hm9;rw[hm9,Mi,Ik (by simp)]at hsu;exact Gy
    all_goals simp[hsu]
   |true=>
    rw[hf]at c2 hm9
    cases hh:has i with
    |false=>
     rw[hh]at c3;rw[hm9,hh,Ik (by simp)]at hsu;exact Gy
     all_goals simp[hsu]
    |true=>
     rw[hh]at c3;rw[hm9,hh,IR (by simp)]at hsu
     with_reducible repeat' (first|refine Sp.h ?_|((first|refine Wd ?_|refine Ss.h ?_|refine Sc.h (c1) ?_|refine Sc.h (c2) ?_|refine Sc.h (c3) ?_|(refine Sb.h ?_ ?_ ?_<;>(try intro hgd)<;>try exact Xy))<;>simp -implicitDefEqProofs (maxSteps:=2000000) [hP,hN,g1,g3,g4,g22,g23,g24,b1,b4,b16,b6,hlt,hw,hic,hci,hci',hij,hji,hji',hib,hbi,hbi',hlo,hlo',hfl,show(S.q.length+1)*8<=140737488355328 by omega,show S.q.length+1<=9223372036854775807 by omega]<;>try refine Ya ?_)|refine X2 ?_ ?_|(refine Xd ?_ ?_<;>intro hcd<;>try exact Xx))
     all_goals simp[hsu,QH]
  .have hlo':(c.low==-1)=false:=by simp[hlo]
   rw[Ok hlo,Mi]at hm9;rw[hm9,Mi,Ik (by simp)]at hsu;exact Gy
   all_goals simp[hsu]
 have hi':i=n:=by omega
 subst hi';clear hIz hI;refine Gz ?_;refine WP.toSuf 4 (k:=4) (e:=3) (sz:=1) (fz:=0) (xs:=(bI i may has i).q.map zN) (by simp[b4]) (by simp[g4]) ?_
 refine WP.loopN [] i (λk st=>∃o xs,st.t 1=.ptr 1 0∧st.t 3=.arr 16 i∧st.t 4=.ext (.suf 4 o ((gK i may has (ae s) k).q.length-k) (o+((gK i may has (ae s) k).q.length-k)))∧xs.length=o+((gK i may has (ae s) k).q.length-k)∧xs.drop o=((gK i may has (ae s) k).q.drop k).map zN∧k<=(gK i may has (ae s) k).q.length∧st.h 1=some (.box [.pv (nV s),.pv (zs p),.pv (zs q),.pv (.val (.func (.func g) #[] #[]))] true false)∧st.h 4=some (.row 3 1 xs 0)∧st.h 16=some (.row 3 1 ((gK i may has (ae s) k).far.map Z) 0)) (by
  refine⟨0,(bI i may has i).q.map zN,?_⟩
  simp[gK,g1,g3,b1,b4,b16,ai]) ?_
 clear g1 g3 g4 g22 g23 g24 b1 b4 b16 b6 st hi hlt;rintro k st hk ⟨o,xs,g1,g3,g4,hxl,hxd,hkq,b1,b4,b16⟩;have hO:=hord k;have hI:=hO.inv;have hle:=hI.le;have hfl:=hI.len;have hfin:=hgk (k:=k);by_cases hlt:k<(gK i may has (ae s) k).q.length
 .have hsk:gK i may has (ae s) (k+1)=gT may (gK i may has (ae s) k) k (ae s (df (gK i may has (ae s) k) k)) (ae s (df (gK i may has (ae s) k) k)).length:=by simp only[gK];rw[IR hlt]
  rw[hsk];clear hfin hsk;generalize gK i may has (ae s) k=S at *;have hQm:=hI.mem _ (AC hlt);generalize hQ:df S k=Q at *
  have hqk:S.q[k]?=some Q:=by
   have:S.q[k]?=some (df S k):=by simp[df,an hlt]
   rw[this,hQ]
  have hx0:xs[o]?=some (zN Q):=by
   have h9:=Qf (λl:List PV=>l[0]?) hxd;simp only[NG,Is,U2]at h9;rw[h9,hqk];rfl
  have hol:o<xs.length:=(th.1 hx0).1;have hx0':=bW hx0 hol
  have hQn:Q<s.near.length:=by omega
  have hnQ:s.near[Q]?=some (ae s Q):=by simp[ae,an hQn]
  have hnQ':=bW hnQ hQn
  have hpos:0<S.q.length-k:=by omega
  with_reducible repeat' (first|refine Sp.h ?_|((with_unfolding_all refine WP.sufAt (hn:=[]) (d:=77) 1 rfl rfl rfl rfl ?_);simp -implicitDefEqProofs (maxSteps:=2000000) [hP,hN,g1,g3,g4,hxl,b1,b4,b16,hpos,hx0,hol,hx0'])|((first|refine Wd ?_|refine Ss.h ?_|(refine Sb.h ?_ ?_ ?_<;>(try intro hgd)<;>try exact Xy))<;>simp -implicitDefEqProofs (maxSteps:=2000000) [hP,hN,g1,g3,g4,hxl,b1,b4,b16,hpos,hx0,hol,hx0']<;>try refine Ya ?_)|refine X2 ?_ ?_|(refine Xd ?_ ?_<;>intro hcd<;>try exact Xx))
  refine⟨4,3,1,S.q.length-k,1,o,.i64,0,xs,_,3,8,_,by simp[St.ev,g4],by simp[St.ev],by simp[b4],hxl,by omega,by rw[hP];exact OV,rfl,by omega,by omega,?_⟩;simp -implicitDefEqProofs (maxSteps:=2000000) [hP,hN];refine Gz ?_
  have hxd1:xs.drop (o+1)=(S.q.drop (k+1)).map zN:=by
   have h9:=Qf (List.drop 1) hxd;rw[List.drop_drop,<-V0,List.drop_drop]at h9;exact h9
  have hlQ:∀x∈ae s Q,x<i∧Bc (ae s) x (df S k)=true∧(aw s x).low=-1:=λx hx=>⟨(hlf Q x hx).1,by rw[hQ];simp[Bc,hx],(hlf Q x hx).2⟩;clear hnQ hnQ' hx0 hx0' hqk;have hll:=hnlb Q;generalize ae s Q=l at *
  refine WP.loopN [] l.length (λj st=>∃o xs,st.t 1=.ptr 1 0∧st.t 3=.arr 16 i∧st.t 7=.pv (Z Q)∧st.t 85=.pv (wg l)∧st.t 86=.pv (Z l.length)∧st.t 87=.pv (Z j)∧st.t 4=.ext (.suf 4 o ((gT may S k l j).q.length-(k+1)) (o+((gT may S k l j).q.length-(k+1))))∧xs.length=o+((gT may S k l j).q.length-(k+1))∧xs.drop o=((gT may S k l j).q.drop (k+1)).map zN∧st.h 1=some (.box [.pv (nV s),.pv (zs p),.pv (zs q),.pv (.val (.func (.func g) #[] #[]))] true false)∧st.h 4=some (.row 3 1 xs 0)∧st.h 16=some (.row 3 1 ((gT may S k l j).far.map Z) 0)) (by
   refine⟨o+1,xs,?_⟩
   have e1:S.q.length-k-1=S.q.length-(k+1):=by omega
   have e2:o+(S.q.length-k)=o+1+(S.q.length-(k+1)):=by omega
   simp only[gT];rw[<-e2,<-e1]
   simp[ai,g1,g3,b1,b4,b16,hxl,hxd1]) ?_
  clear g1 g3 g4 b1 b4 b16 hxl hxd hxd1 hol hpos st;clear o xs;rintro j st hj ⟨o,xs,g1,g3,g7,g85,g86,g87,g4,hxl,hxd,b1,b4,b16⟩;have V:=Fo hI hlt hO.inq (Dy (may:=may) (s:=S) (k:=k) (l:=l) j hj) (λx hx=>⟨(hlQ x (Tn hx)).1,(hlQ x (Tn hx)).2.1⟩);have hTl:=V.inv.le;have hTf:=V.inv.len;have hTq:=V.qs k hlt;have hTk:=V.le;have hVn:=V.inv.nn;have hVt:=V.inv.top;have hVm:=V.inv.mem _ (AC (Ny hlt V.le));rw[hTq,hQ]at hVm;rw[hQ]at hTq;by_cases hjl:j<l.length
  .have hwj:=al hjl (by omega)
   have hx:l[j]?=some l[j]:=an hjl
   have hsu:gT may S k l (j+1)=if(av (gT may S k l j).far l[j]==0)&&may l[j]then qE (gT may S k l j) k l[j]else gT may S k l j:=by simp only[gT,hx]
   obtain⟨hxn,_,hxlo⟩:=hlQ _ (Ky hjl);clear V;generalize gT may S k l j=T at *;generalize hxe:l[j]=x at *
   have hxc:x<s.cells.length:=by omega
   have hci:=hcg x hxn;have hci':=bW hci hxc
   have hxj:x<s.jn.length:=by omega
   have hji:=hjg x hxn;have hji':=bW hji hxj;have c1:=ck x hxc;have c2:=hmay (aw s x).v.kind (dm s x);have hm9:=hmd x;rw[L4 hxlo,KA]at hm9
   have hxf:x<T.far.length:=by omega
   have hfx:T.far[x]?=some (av T.far x):=by simp[av,an hxf]
   have hfx':=bW hfx hxf
   have hQf:Q<T.far.length:=by omega
   have hfQ:T.far[Q]?=some (av T.far Q):=by simp[av,an hQf]
   have hfQ':=bW hfQ hQf
   have hbj:qE T k x=⟨T.far.set x (av T.far Q+1),T.q++[x]⟩:=by simp only[qE,hTq]
   have htQ:=hVt Q;have hnQ:=hVn Q;have hwQ:IntKind.i64.wrap (av T.far Q+1)=av T.far Q+1:=aa;rw[hbj]at hsu;generalize aw s x=cc at *;generalize dm s x=jj at *;generalize av T.far Q=fQ at *;by_cases hf0:av T.far x=0
   .have hf0':(av T.far x==0)=true:=by simp[hf0]
    rw[hf0',KA]at hsu
    cases hmx:f cc.v.kind jj with
    |false=>
     rw[hmx]at c2 hm9;rw[hm9,Ik (by simp)]at hsu;rw[hsu];exact Gy
     all_goals simp[hxl,hxd,hjl]
    |true=>
     rw[hmx]at c2 hm9;rw[hm9,IR rfl]at hsu;rw[hsu]
     with_reducible repeat' (first|refine Sp.h ?_|((with_unfolding_all refine WP.appSAt (hn:=[]) (d:=124) 3 rfl rfl rfl rfl ?_);simp -implicitDefEqProofs (maxSteps:=2000000) [hP,hN,g1,g3,g7,g85,g86,g87,g4,hxl,b1,b4,b16,hjl,hwj,hx,hxe,hxc,hci,hci',hxj,hji,hji',hxf,hfx,hfx',hTf,hxn,hVm.1,hf0,hf0',hQf,hfQ,hfQ',hwQ])|((first|refine Wd ?_|refine Ss.h ?_|refine Sc.h (c1) ?_|refine Sc.h (c2) ?_|(refine Sb.h ?_ ?_ ?_<;>(try intro hgd)<;>try exact Xy))<;>simp -implicitDefEqProofs (maxSteps:=2000000) [hP,hN,g1,g3,g7,g85,g86,g87,g4,hxl,b1,b4,b16,hjl,hwj,hx,hxe,hxc,hci,hci',hxj,hji,hji',hxf,hfx,hfx',hTf,hxn,hVm.1,hf0,hf0',hQf,hfQ,hfQ',hwQ]<;>try refine Ya ?_)|refine X2 ?_ ?_|(refine Xd ?_ ?_<;>intro hcd<;>try exact Xx))
     refine⟨4,o,T.q.length-(k+1),3,1,xs,[zN x],_,8,.int .i64 0,by simp[St.ev,g4],by simp[b4],hxl,by simp[St.ev],by simp[qR,lC],by simp,by rw[hP];exact OV,rfl,by omega,rfl,by simp;omega,by simp;omega,by omega,by omega,by omega,?_⟩;intro o' xs' e1 e2;simp -implicitDefEqProofs (maxSteps:=2000000) [hP,hN];refine Gz ?_
     have hkT:k+1<=T.q.length:=by omega
     simp only[NR]at e1;refine⟨o',⟨rfl,by omega,by omega⟩,by omega,?_⟩;rw[e2,hxd,VL (by simpa using hkT),V0]
   .have hf0':(av T.far x==0)=false:=by simp[hf0]
    rw[hf0',Mi,Ik (by simp)]at hsu;rw[hsu];exact Gy
    all_goals simp[hxl,hxd,hjl]
  .have hjn:j=l.length:=by omega
   subst hjn;refine Gz ?_;exact⟨by omega,xs,hxl,by rw[hxd,V0],by omega,rfl⟩
 .have hF:=hfin (by omega)
  have hz:(gK i may has (ae s) k).q.length-k=0:=by omega
  rw[hF]at b16;rw[hz]at g4 hxl;refine Gz ?_;exact AD.len
theorem GG(f:Nat->α)(r:Nat):(List.range r).map f++[f r]=(List.range (r+1)).map f:=by
 rw[PK,Uo];rfl
theorem NC(s:Spc)(n:Nat)(p q:List Int)(g:FuncId)(f:Int->Int->Bool)(tch:Nat->Nat->Bool)(hs:SpcOk s n)(hp9:p.length<=9223372036854775807)(hq9:q.length<=9223372036854775807)(hmay:∀k j:Int,ab Tryz.prog g [.pv (Z k),.pv (Z j)] [] [] (.pv (B (f k j))))(hsym:∀i j,i<n->j<n->tch i j=tch j i)(hcov:∀i p,i<n->cX s f i=true->p<n->cX s f p=true->i≠p->(i∈ae s p↔tch i p=true)):ab Tryz.prog 84 [.pv (.agg [nV s,zs p,zs q,.val (.func (.func g) #[] #[])])] [] [] (.pv (.tup [wg (eV n (cX s f) (aM s.bx q) (aM s.bx p) tch),B (dz n (cX s f) (aM s.bx q) (aM s.bx p) tch)])):=by
 have cl:=JJ s n p q g f tch hs hq9 hmay hcov
 have hb:∀i,i<n->s.bx[i]?=some (gz s.bx i):=λi hi=>by
  have:i<s.bx.length:=by rw[hs.b];exact hi
  simp[gz,an this]
 have cH:=λ(i:Nat)(hi:i<n)=>Nl (gz s.bx i) p (hs.bl _ (HW (hb i hi)));have cH':∀i,i<n->ab Tryz.prog 142 [.pv (iv (gz s.bx i)),.pv (zs p)] [] [] (.pv (B (aM s.bx p i))):=cH;clear cH;have hE:=JH (n:=n) (may:=cX s f) (has:=aM s.bx q) (hasF:=aM s.bx p) hsym (λp i hi=>(hs.lf p i hi).1) hcov;have hPA:=λ{a:Nat}=>H9 (n:=n) (may:=cX s f) (has:=aM s.bx q) (a:=a) rfl hsym (λp i hi=>(hs.lf p i hi).1) hcov;have hF:=AD (n:=n) (may:=cX s f) (has:=aM s.bx q) (tch:=tch);have hbl:=hs.b;have hnl:=hs.r;have hn:=hs.n;have hlf:=hs.lf;have hnlb:=hs.nl;have hT:=(sL (n:=n) (may:=cX s f) (has:=aM s.bx q) (tch:=tch) n).top;have hQl:=(sL (n:=n) (may:=cX s f) (has:=aM s.bx q) (tch:=tch) n).le;rw[show eV n (cX s f) (aM s.bx q) (aM s.bx p) tch=(ta n (bK n (cX s f) (aM s.bx q) tch n).far (ae s) (aM s.bx p)).1 by rw[hE],show dz n (cX s f) (aM s.bx q) (aM s.bx p) tch=(ta n (bK n (cX s f) (aM s.bx q) tch n).far (ae s) (aM s.bx p)).2 by rw[hE]];clear hE hcov
 have htop:∀i,av (bK n (cX s f) (aM s.bx q) tch n).far i<=n:=λi=>by have:=hT i;omega
 clear hT hQl;generalize(bK n (cX s f) (aM s.bx q) tch n).far=F at *;generalize aM s.bx p=hasF at *;have hFl:=hF.len;have hFn:=hF.nn
 have hfg:∀i,i<n->F[i]?=some (av F i):=λi hi=>by simp[av,an (by omega:i<F.length)]
 refine Dp Tryz.func84 ?_;intro C hP hN;simp only[Tryz.f84]at hN|-;refine Gz ?_;refine WP.loopN [] n (λi st=>st.t 1=.ptr 1 0∧st.t 4=.pv (.sl (F.map Z))∧st.t 5=.pv (Z (aS F hasF i))∧st.t 15=.pv (.sl (F.map Z))∧st.t 16=.pv (Z n)∧st.t 17=.pv (Z i)∧st.h 1=some (.box [.pv (nV s),.pv (zs p),.pv (zs q),.pv (.val (.func (.func g) #[] #[]))] true false)∧st.h 54=none) (by simp[aS,hFl]) ?_;rintro i st hi ⟨g1,g4,g5,g15,g16,g17,b1,b54⟩;have hA:=xr (hasF:=hasF) (far:=F) i;by_cases hlt:i<n
 .have hw:=al hlt (by omega)
  have hif:i<F.length:=by omega
  have hfi:=hfg i hlt;have hfi':=bW hfi hif
  have hib:i<s.bx.length:=by omega
  have hbi:=hb i hlt;have hbi':=bW hbi hib;have c3:=cH' i hlt
  have hsu:aS F hasF (i+1)=if decide (0<av F i)&&hasF i&&(decide (aS F hasF i<0)||decide (av F i<av F (aS F hasF i).toNat))then(i:Int)else aS F hasF i:=rfl
  rw[hsu];clear hsu;by_cases h0:0<av F i
  .rw[L4 h0,KA]
   by_cases ha:aS F hasF i<0
   .have ha1:aS F hasF i=-1:=by omega
    rw[ha1];rw[ha1]at g5
    cases hh:hasF i with
    |false=>
     rw[hh]at c3;exact Gy
     all_goals simp
    |true=>
     rw[hh]at c3;exact Gy
     all_goals simp
   .obtain⟨a,hae⟩:=PJ (by omega:0<=aS F hasF i)
    rw[hae]at hA g5|-
    have han:a<n:=by omega
    have haf:a<F.length:=by omega
    have hfa:=hfg a han;have hfa':=bW hfa haf;rw[JY];by_cases hl2:av F i<av F a
    .cases hh:hasF i with
     |false=>
      rw[hh]at c3;exact Gy
      all_goals simp
     |true=>
      rw[hh]at c3;exact Gy
      all_goals (first|(simp[hl2];done)|(intros;omega))
    .skip
     refine Gz ?_
     all_goals (first|(simp[hl2];done)|(intros;omega))
  .rw[Ok h0]
   exact Gy
   all_goals simp
 have hin:i=n:=by omega
 subst hin;by_cases h0:0<=aS F hasF i
 case neg=>
  have ha1:aS F hasF i=-1:=by omega
  have hres:ta i F (ae s) hasF=([],false):=by simp[ta,ha1]
  rw[hres];rw[ha1]at g5;exact Gy
 obtain⟨a,hae⟩:=PJ h0;obtain⟨ha0,_⟩:=hA.2.2 h0
 have hres:ta i F (ae s) hasF=((List.range (av F a).toNat).map (kM F (ae s) a),true):=by simp[ta,hae]
 rw[hres];rw[hae]at g5 hA ha0;rw[JY]at ha0
 have han:a<i:=by omega
 have hPa:=hPA han ha0
 have haf:a<F.length:=by omega
 have hfa:=hfg a han;have hfa':=bW hfa haf;have hta:=htop a;have hw1:IntKind.i64.wrap (av F a-1)=av F a-1:=aa;clear hPA h0 hres
 with_reducible repeat' (first|refine Sp.h ?_|((first|refine Wh [54] ?_|refine Wi [54] ?_|refine Ss.h ?_|(refine Sb.h ?_ ?_ ?_<;>(try intro hgd)<;>try exact Xy))<;>simp -implicitDefEqProofs (maxSteps:=2000000) [hP,hN,g1,g4,g5,g15,g16,g17,b1,b54,hlt,haf,hfa,hfa',hw1]<;>try refine Ya ?_)|refine X2 ?_ ?_|(refine Xd ?_ ?_<;>intro hcd<;>try exact Xx))
 refine WP.loopN [] (av F a).toNat (λr st=>st.t 1=.ptr 1 0∧st.t 4=.pv (.sl (F.map Z))∧st.t 5=.pv (Z (kM F (ae s) a r:Int))∧st.t 8=.arr 54 (r+1)∧st.t 9=.pv (Z (av F a-1-r))∧st.h 1=some (.box [.pv (nV s),.pv (zs p),.pv (zs q),.pv (.val (.func (.func g) #[] #[]))] true false)∧st.h 54=some (.row 3 1 ((List.range (r+1)).map λm=>Z (kM F (ae s) a m:Int)) 0)∧(r:Int)<av F a) (by simp[kM,g1,g4,g5,b1,ha0]) ?_;clear g1 g4 g5 g15 g16 g17 b1 b54 hlt st hi;rintro r st hr ⟨g1,g4,g5,g8,g9,b1,b54,hra⟩;obtain⟨_,hpn,hpf,hpz⟩:=hPa r hra;by_cases hlt:0<av F a-1-r
 .have hz:=hpz (by omega)
  have hsu:kM F (ae s) a (r+1)=(nP F (av F a-1-r) (ae s (kM F (ae s) a r)) (ae s (kM F (ae s) a r)).length).toNat:=rfl
  have hps:s.near[kM F (ae s) a r]?=some (ae s (kM F (ae s) a r)):=by simp[ae,an (by omega:kM F (ae s) a r<s.near.length)]
  have hpl:kM F (ae s) a r<s.near.length:=by omega
  have hps':=bW hps hpl;have hll:=hnlb (kM F (ae s) a r);have hlQ:∀x∈ae s (kM F (ae s) a r),x<i:=λx hx=>(hlf _ x hx).1;have hrs:=GG (λm=>Z (kM F (ae s) a m:Int)) (r+1)
  with_reducible repeat' (first|refine Sp.h ?_|((first|refine Wd ?_|refine Ss.h ?_|(refine Sb.h ?_ ?_ ?_<;>(try intro hgd)<;>try exact Xy))<;>simp -implicitDefEqProofs (maxSteps:=2000000) [hP,hN,g1,g4,g5,g8,g9,b1,b54,hlt,hps,hpl,hps',hnl]<;>try refine Ya ?_)|refine X2 ?_ ?_|(refine Xd ?_ ?_<;>intro hcd<;>try exact Xx))
  clear hps hps' hPa hpz;generalize hl9:ae s (kM F (ae s) a r)=l at *;obtain⟨m,hm9⟩:∃m,m=av F a-1-r:=⟨_,rfl⟩;rw[<-hm9]at hz hsu g9 hlt;refine WP.loopN [] l.length (λj st=>st.t 1=.ptr 1 0∧st.t 4=.pv (.sl (F.map Z))∧st.t 8=.arr 54 (r+1)∧st.t 9=.pv (Z m)∧st.t 10=.pv (Z (nP F m l j))∧st.t 71=.pv (wg l)∧st.t 72=.pv (Z l.length)∧st.t 73=.pv (Z j)∧st.h 1=some (.box [.pv (nV s),.pv (zs p),.pv (zs q),.pv (.val (.func (.func g) #[] #[]))] true false)∧st.h 54=some (.row 3 1 ((List.range (r+1)).map λm=>Z (kM F (ae s) a m:Int)) 0)) (by simp[nP,g1,g4,g8,g9,b1,b54]) ?_;clear g1 g4 g5 g8 g9 b1 b54 st;rintro j st hj ⟨g1,g4,g8,g9,g10,g71,g72,g73,b1,b54⟩;by_cases hjl:j<l.length
  .have hwj:=al hjl (by omega)
   have hx:l[j]?=some l[j]:=an hjl;have hxn:=hlQ _ (Ky hjl)
   have hs2:nP F m l (j+1)=if(av F l[j]==m)&&(nP F m l j==-1||decide ((l[j]:Int)<nP F m l j))then(l[j]:Int)else nP F m l j:=by simp only[nP,hx]
   rw[hs2];clear hs2;generalize hxe:l[j]=x at *
   have hxf:x<F.length:=by omega
   have hfx:=hfg x hxn;have hfx':=bW hfx hxf;generalize nP F m l j=y at *;by_cases h1:av F x=m
   .by_cases h2:y=-1
    .subst h2
     exact GS (gA g1 (gA g4 (gA g8 (gA g9 (gA g10 (gA g71 (gA g72 (gA g73 (gA b1 (gA b54 (gA hjl (gA hwj (gA hx (gA hxe (gA hxf (gA hfx (gA hfx' h1)))))))))))))))))
     all_goals simp[h1]
    .by_cases h3:(x:Int)<y
     all_goals
      exact GS (gA g1 (gA g4 (gA g8 (gA g9 (gA g10 (gA g71 (gA g72 (gA g73 (gA b1 (gA b54 (gA hjl (gA hwj (gA hx (gA hxe (gA hxf (gA hfx (gA hfx' (gA h1 (gA h2 h3)))))))))))))))))))
      all_goals simp[h1,h2,h3]
   .skip
    exact GS (gA g1 (gA g4 (gA g8 (gA g9 (gA g10 (gA g71 (gA g72 (gA g73 (gA b1 (gA b54 (gA hjl (gA hwj (gA hx (gA hxe (gA hxf (gA hfx (gA hfx' h1)))))))))))))))))
    all_goals simp[h1]
  .have hjn:j=l.length:=by omega
   subst hjn;obtain⟨Y,hY⟩:=PJ hz;rw[hY,JY]at hsu;rw[hY]at g10;rw[hsu]at hrs;have hw9:IntKind.i64.wrap (m-1)=m-1:=aa;refine GT (gA g1 (gA g4 (gA g8 (gA g9 (gA g10 (gA g71 (gA g72 (gA g73 (gA b1 (gA b54 (gA hjl (gA hw9 (gA hsu (gA (show(r+1+1)*8<=140737488355328 by omega) (show r+1+1<=9223372036854775807 by omega))))))))))))))) ?_;exact⟨hra,by omega,hrs,by omega⟩
 .skip
  refine GT (gA g1 (gA g4 (gA g5 (gA g8 (gA g9 (gA b1 (gA b54 hlt))))))) ?_;rw[show(av F a).toNat=r+1 by omega];rfl
def vd(k _:Int):Bool:=k==1
def pf(k _:Int):Bool:=k !=2
def oF(k j:Int):Bool:=k==1||(k==0&&j != -1)
def tO(k j:Int):Bool:=k==1||(k==0&&j==-1)
theorem Ug(k j:Int):ab Tryz.prog 85 [.pv (Z k),.pv (Z j)] [] [] (.pv (B (vd k j))):=by
 refine Dp Tryz.func85 ?_;intro C hP hN;simp only[Tryz.f85]at hN|-;refine Gz ?_
 all_goals (first|(simp_all[vd];done)|((try simp_all[vd])<;>(try omega)<;>grind))
theorem Uh(k j:Int):ab Tryz.prog 86 [.pv (Z k),.pv (Z j)] [] [] (.pv (B (pf k j))):=by
 refine Dp Tryz.func86 ?_;intro C hP hN;simp only[Tryz.f86]at hN|-;refine Gz ?_
 all_goals (first|(simp_all[pf];done)|((try simp_all[pf])<;>(try omega)<;>grind))
theorem Ui(k j:Int):ab Tryz.prog 87 [.pv (Z k),.pv (Z j)] [] [] (.pv (B (oF k j))):=by
 unfold oF;by_cases h1:k=1
 .have h1':(k==1)=true:=by simp[h1]
  refine Dp Tryz.func87 ?_;intro C hP hN;simp only[Tryz.f87]at hN|-;exact Gy
  all_goals simp[h1]
 .have h1':(k==1)=false:=by simp[h1]
  by_cases h0:k=0
  .have h0':(k==0)=true:=by simp[h0]
   refine Dp Tryz.func87 ?_;intro C hP hN;simp only[Tryz.f87]at hN|-;exact Gy
   all_goals simp[h1',h0']
  .have h0':(k==0)=false:=by simp[h0]
   refine Dp Tryz.func87 ?_;intro C hP hN;simp only[Tryz.f87]at hN|-;exact Gy
   all_goals simp[h1',h0']
theorem Uj(k j:Int):ab Tryz.prog 88 [.pv (Z k),.pv (Z j)] [] [] (.pv (B (tO k j))):=by
 unfold tO;by_cases h1:k=1
 .have h1':(k==1)=true:=by simp[h1]
  refine Dp Tryz.func88 ?_;intro C hP hN;simp only[Tryz.f88]at hN|-;exact Gy
  all_goals simp[h1]
 .have h1':(k==1)=false:=by simp[h1]
  by_cases h0:k=0
  .have h0':(k==0)=true:=by simp[h0]
   refine Dp Tryz.func88 ?_;intro C hP hN;simp only[Tryz.f88]at hN|-;exact Gy
   all_goals simp[h1',h0']
  .have h0':(k==0)=false:=by simp[h0]
   refine Dp Tryz.func88 ?_;intro C hP hN;simp only[Tryz.f88]at hN|-;exact Gy
   all_goals simp[h1',h0']
structure SpcC(s:Spc)(n:Nat)(tch:Nat->Nat->Bool):Prop where
 ok:SpcOk s n
 sym:∀i j,i<n->j<n->tch i j=tch j i
 cov:∀i p,i<n->(aw s i).low=-1->p<n->(aw s p).low=-1->i≠p->(i∈ae s p↔tch i p=true)
theorem SpcC.cv(h:SpcC s n tch)(f:Int->Int->Bool):∀i p,i<n->cX s f i=true->p<n->cX s f p=true->i≠p->(i∈ae s p↔tch i p=true):=by
 intro i p hi hm hp hmp hne;simp only[cX,An,HX]at hm hmp;exact h.cov i p hi hm.1 hp hmp.1 hne
theorem Uk{g:PV}{a b c:List PV}:∀(i j:Nat),([.pv g,.bx 0,.bx 1,.bx 2]:List Arg)[i]?=some (.bx j)->j< [a,b,c].length
 |0,j,h=>by simp at h
 |1,j,h=>by simp at h;subst h;simp
 |2,j,h=>by simp at h;subst h;simp
 |3,j,h=>by simp at h;subst h;simp
 |i+4,j,h=>by simp at h
theorem Lh(s:Spc)(n:Nat)(p q:List Int)(g:FuncId)(f:Int->Int->Bool)(tch:Nat->Nat->Bool)(hs:SpcC s n tch)(hp9:p.length<=9223372036854775807)(hq9:q.length<=9223372036854775807)(hmay:∀k j:Int,ab Tryz.prog g [.pv (Z k),.pv (Z j)] [] [] (.pv (B (f k j)))):
 ab Tryz.prog 82 [.pv (.val (.func (.func g) #[] #[])),.bx 0,.bx 1,.bx 2] [[nV s],[zs p],[zs q]] [[nV s],[zs p],[zs q]] (.pv (.tup [wg (eV n (cX s f) (aM s.bx q) (aM s.bx p) tch),B (dz n (cX s f) (aM s.bx q) (aM s.bx p) tch)])):=by
 have c1:=Me s p q g;have c2:=NC s n p q g f tch hs.ok hp9 hq9 hmay hs.sym (hs.cv f);generalize eV n (cX s f) (aM s.bx q) (aM s.bx p) tch=L at *;generalize dz n (cX s f) (aM s.bx q) (aM s.bx p) tch=O at *;refine o8 Tryz.func82 rfl (by kernel_rfl) (by simp[Tryz.f82]) rfl (by exact Uk) ?_;intro C hP hN;simp only[Tryz.f82]at hN|-;refine Gz ?_;exact λi ps h=>⟨ps,h,rfl⟩
def wW(s:Spc)(k:Nat):Bool:=decide ((aw s k).v.kind=0)&&decide (dm s k≠-1)
def j0(s:Spc)(c:List Nat):Int×Int×Int:=match c.find? (wW s)with
 |some k=>((k:Int),dm s k,3)
 |none=>(-1,-1,0)
def qj(s:Spc)(n:Nat)(p q:List Int)(tch:Nat->Nat->Bool):Int×Int×Int:=
 if dz n (cX s vd) (aM s.bx q) (aM s.bx p) tch=true then(-1,-1,1)
 else if dz n (cX s pf) (aM s.bx q) (aM s.bx p) tch=false then(-1,-1,2)
 else if dz n (cX s oF) (aM s.bx q) (aM s.bx p) tch=true then j0 s (eV n (cX s oF) (aM s.bx q) (aM s.bx p) tch)
 else if dz n (cX s tO) (aM s.bx q) (aM s.bx p) tch=true then(-1,-1,5)
 else j0 s (eV n (cX s pf) (aM s.bx q) (aM s.bx p) tch)
def sh(s:Spc)(c:List Nat)(i:Nat):Prop:=∀j x,j<i->c[j]?=some x->wW s x=false
theorem sh.step{c:List Nat}(h:sh s c i)(hk:c[i]?=some k)(hp:wW s k=false):sh s c (i+1):=by
 intro j x hj hx;by_cases e:j=i
 .subst e;rw[hk]at hx;injection hx with hx;subst hx;exact hp
 .exact h j x (by omega) hx
theorem Fp{c:List Nat}(h:sh s c c.length):j0 s c=(-1,-1,0):=by
 have:c.find? (wW s)=none:=by
  rw[OJ];intro x hx;obtain⟨j,hj⟩:=LV hx;rw[h j x (th.1 hj).1 hj];simp
 rw[j0,this]
theorem DD{c:List Nat}(h:sh s c i)(hk:c[i]?=some k)(hp:wW s k=true):j0 s c=((k:Int),dm s k,3):=by
 have:c.find? (wW s)=some k:=by
  obtain⟨hi,rfl⟩:=th.1 hk;rw[VJ];refine⟨hp,i,hi,rfl,λj hj=>?_⟩;have:=h j _ hj (an (by omega));rw[this];rfl
 rw[j0,this]
theorem Fq{may has:Nat->Bool}(hsym:∀i j,i<n->j<n->tch i j=tch j i):(eV n may has hasF tch).length<=n∧∀k∈eV n may has hasF tch,k<n:=by
 cases h:dz n may has hasF tch with
 |true=>
  obtain⟨_,b2,b3,_⟩:=rA hsym h;refine⟨b2,λk hk=>?_⟩;obtain⟨j,hj⟩:=LV hk;exact(b3 j k hj).1
 |false=>simp[eV,h]
theorem Ul(s:Spc)(n:Nat)(p q:List Int)(tch:Nat->Nat->Bool)(hs:SpcC s n tch)(hp9:p.length<=9223372036854775807)(hq9:q.length<=9223372036854775807):ab Tryz.prog 36 [.pv (nV s),.pv (zs p),.pv (zs q)] [] [] (.pv (.tup [Z (qj s n p q tch).1,Z (qj s n p q tch).2.1,Z (qj s n p q tch).2.2])):=by
 have b0:=Lh s n p q 85 vd tch hs hp9 hq9 Ug;have b3:=Lh s n p q 86 pf tch hs hp9 hq9 Uh;have b1:=Lh s n p q 87 oF tch hs hp9 hq9 Ui;have b2:=Lh s n p q 88 tO tch hs hp9 hq9 Uj;have m1:=Fq (n:=n) (may:=cX s oF) (has:=aM s.bx q) (hasF:=aM s.bx p) hs.sym;have m3:=Fq (n:=n) (may:=cX s pf) (has:=aM s.bx q) (hasF:=aM s.bx p) hs.sym
 have hG:qj s n p q tch=if dz n (cX s vd) (aM s.bx q) (aM s.bx p) tch=true then(-1,-1,1)else if dz n (cX s pf) (aM s.bx q) (aM s.bx p) tch=false then(-1,-1,2)else if dz n (cX s oF) (aM s.bx q) (aM s.bx p) tch=true then j0 s (eV n (cX s oF) (aM s.bx q) (aM s.bx p) tch)else if dz n (cX s tO) (aM s.bx q) (aM s.bx p) tch=true then(-1,-1,5)else j0 s (eV n (cX s pf) (aM s.bx q) (aM s.bx p) tch):=rfl
 have hcl:=hs.ok.c;have hjl:=hs.ok.j;have hn:=hs.ok.n;rw[hG];clear hG hs;generalize eV n (cX s vd) (aM s.bx q) (aM s.bx p) tch=C0 at *;generalize eV n (cX s oF) (aM s.bx q) (aM s.bx p) tch=C1 at *;generalize eV n (cX s tO) (aM s.bx q) (aM s.bx p) tch=C2 at *;generalize eV n (cX s pf) (aM s.bx q) (aM s.bx p) tch=C3 at *;generalize dz n (cX s vd) (aM s.bx q) (aM s.bx p) tch=O0 at *;generalize dz n (cX s oF) (aM s.bx q) (aM s.bx p) tch=O1 at *;generalize dz n (cX s tO) (aM s.bx q) (aM s.bx p) tch=O2 at *;generalize dz n (cX s pf) (aM s.bx q) (aM s.bx p) tch=O3 at *
 cases O0 with
 |true=>
  simp only[J4];refine Dp Tryz.func36 ?_;intro C hP hN;simp only[Tryz.f36]at hN|-;exact Gy
 |false=>
 simp only[IA,JE]
 cases O3 with
 |false=>
  simp only[J4];refine Dp Tryz.func36 ?_;intro C hP hN;simp only[Tryz.f36]at hN|-;exact Gy
 |true=>
 simp only[Bool.true_eq_false,JE]
 cases O1 with
 |true=>
  simp only[J4];obtain⟨hlen,hmem⟩:=m1;refine Dp Tryz.func36 ?_;intro C hP hN;simp only[Tryz.f36]at hN|-;refine Gz ?_;refine WP.loopN [] (C1).length (λi st=>st.t 3=.ptr 3 0∧st.h 3=some (.box [.pv (nV s)] true false)∧st.t 47=.pv (wg (C1))∧st.t 48=.pv (Z (C1).length)∧st.t 49=.pv (Z i)∧sh s (C1) i) ?_ ?_
  .simp
   exact λj x hj=>by omega
  rintro i st hi ⟨g3,b3,g47,g48,g49,hq0⟩;by_cases hlt:i<(C1).length
  .have hlt':(i:Int)<((C1).length:Int):=by omega
   have hwr:=al hlt (by omega);generalize hke:(C1)[i]=k at *
   have hk:(C1)[i]?=some k:=by rw[an hlt,hke]
   have hkn:=hmem k (HW hk)
   have hkc:k<s.cells.length:=by omega
   have hkj:k<s.jn.length:=by omega
   have hji:s.jn[k]?=some (dm s k):=by simp[dm,an hkj]
   have hji':∀h,s.jn[k]'h=dm s k:=λh=>bW hji h;have ck:=NB s k hkc;have hkd:wW s k=(decide ((aw s k).v.kind=0)&&decide (dm s k≠-1)):=rfl;have hyes:=DD hq0 hk;generalize(aw s k).v.kind=kd at *;generalize dm s k=jj at *;by_cases h0:kd=0
   .have h0':(kd==0)=true:=by simp[h0]
    by_cases h1:jj=-1
    .have h1':(jj != -1)=false:=by simp[h1]
     have hst:sh s (C1) (i+1):=sh.step hq0 hk (by rw[hkd];simp[h1]);exact Gy
     all_goals exact hst
    .have h1':(jj != -1)=true:=by simp[h1]
     rw[hyes (by rw[hkd];simp[h0,h1])];exact Gy
   .have h0':(kd==0)=false:=by simp[h0]
    have hst:sh s (C1) (i+1):=sh.step hq0 hk (by rw[hkd];simp[h0]);exact Gy
    all_goals exact hst
  .have hin:i=(C1).length:=by omega
   subst hin;rw[Fp hq0];exact Gy
 |false=>
 simp only[IA,JE]
 cases O2 with
 |true=>
  simp only[J4];refine Dp Tryz.func36 ?_;intro C hP hN;simp only[Tryz.f36]at hN|-;exact Gy
 |false=>
  simp only[IA,JE];obtain⟨hlen,hmem⟩:=m3;refine Dp Tryz.func36 ?_;intro C hP hN;simp only[Tryz.f36]at hN|-;refine Gz ?_;refine WP.loopN [] (C3).length (λi st=>st.t 3=.ptr 3 0∧st.h 3=some (.box [.pv (nV s)] true false)∧st.t 47=.pv (wg (C3))∧st.t 48=.pv (Z (C3).length)∧st.t 49=.pv (Z i)∧sh s (C3) i) ?_ ?_
  .simp
   exact λj x hj=>by omega
  rintro i st hi ⟨g3,b3,g47,g48,g49,hq0⟩;by_cases hlt:i<(C3).length
  .have hlt':(i:Int)<((C3).length:Int):=by omega
   have hwr:=al hlt (by omega);generalize hke:(C3)[i]=k at *
   have hk:(C3)[i]?=some k:=by rw[an hlt,hke]
   have hkn:=hmem k (HW hk)
   have hkc:k<s.cells.length:=by omega
   have hkj:k<s.jn.length:=by omega
   have hji:s.jn[k]?=some (dm s k):=by simp[dm,an hkj]
   have hji':∀h,s.jn[k]'h=dm s k:=λh=>bW hji h;have ck:=NB s k hkc;have hkd:wW s k=(decide ((aw s k).v.kind=0)&&decide (dm s k≠-1)):=rfl;have hyes:=DD hq0 hk;generalize(aw s k).v.kind=kd at *;generalize dm s k=jj at *;by_cases h0:kd=0
   .have h0':(kd==0)=true:=by simp[h0]
    by_cases h1:jj=-1
    .have h1':(jj != -1)=false:=by simp[h1]
     have hst:sh s (C3) (i+1):=sh.step hq0 hk (by rw[hkd];simp[h1]);exact Gy
     all_goals exact hst
    .have h1':(jj != -1)=true:=by simp[h1]
     rw[hyes (by rw[hkd];simp[h0,h1])];exact Gy
   .have h0':(kd==0)=false:=by simp[h0]
    have hst:sh s (C3) (i+1):=sh.step hq0 hk (by rw[hkd];simp[h0]);exact Gy
    all_goals exact hst
  .have hin:i=(C3).length:=by omega
   subst hin;rw[Fp hq0];exact Gy
theorem Bd{c:Cel}(h:s.cells[i]?=some c):aw s i=c:=by simp[aw,h]
def nA{α β:Type}(f:α->Option β):List α->Option (List β)
 |[]=>some []
 |x::r=>match f x,nA f r with
  |some y,some ys=>some (y::ys)
  |_,_=>none
theorem uH{α β:Type}{f:α->Option β}:∀{l:List α}{r:List β},nA f l=some r->l.length=r.length∧∀(i:Nat) y,r[i]?=some y->∃x,l[i]?=some x∧f x=some y
 |[],r,h=>by simp only[nA]at h;injection h with h;subst h;exact⟨rfl,λi y hy=>by simp at hy⟩
 |x::l,r,h=>by
  simp only[nA]at h;split at h
  .rename_i y ys h1 h2
   injection h with h;subst h;obtain⟨g1,g2⟩:=uH h2;refine⟨by simp[g1],λi z hz=>?_⟩
   cases i with
   |zero=>simp at hz;subst hz;exact⟨x,rfl,h1⟩
   |succ i=>simpa using g2 i z (by simpa using hz)
  .cases h
theorem E3{α β:Type}{f:α->Option β}:∀{l:List α}{r:List β},l.length=r.length->(∀(i:Nat) x y,l[i]?=some x->r[i]?=some y->f x=some y)->nA f l=some r
 |[],[],_,_=>rfl
 |[],_::_,h,_=>by simp at h
 |_::_,[],h,_=>by simp at h
 |x::l,y::r,h,hh=>by
  have h1:=hh 0 x y rfl rfl;have h2:=E3 (f:=f) (l:=l) (r:=r) (by simpa using h) (λi a b ha hb=>hh (i+1) a b (by simpa using ha) (by simpa using hb));simp only[nA,h1,h2]
def MN:PV->Bool
 |.sl _=>true
 |_=>false
def iW(h:Hp):Nat->AV->Option PV
 |_,.pv p=>some p
 |0,_=>none
 |_+1,.arr k n=>if inK k=true then match h k with
  |some (.row _ _ xs _)=>if xs.length=n then some (.sl xs)else none
  |_=>none else none
 |d+1,.ext (.barr k n _)=>if inK k=true then match h k with
  |some (.box cs _ _)=>match nA (iW h d) (cs.take n)with
   |some ps=>if ps.length=n∧ps.all MN=true then some (.sl ps)else none
   |none=>none
  |_=>none else none
 |d+1,.ptr k off=>if inK k=true then match h k with
  |some (.box cs _ _)=>match nA (iW h d) cs with
   |some ps=>some (.rptr (.agg ps) off)
   |none=>none
  |_=>none else none
 |_+1,_=>none
def rT(h:Hp):Hp:=λk=>if inK k=true then none else h k
def Qp:Blk->Bool
 |.box _ o _=>o
 |.row _ _ _ _=>true
 |.mp _ _ _ _=>false
def wt(h:Hp):Prop:=∀k blk,inK k=true->h k=some blk->Qp blk=true
section
variable {C:Cx} {L:Nat->Loc} {h:Hp} {w:World}
theorem BE{b:Blk}(e:rT h k=some b):inK k=false∧h k=some b:=by
 grind [rT]
theorem yY{b o:Nat}(h9:af C L (rT h) b o):af C L h b o:=by
 rcases h9 with h9|⟨k,blk,hk,hl,hb,hf⟩
 .exact .inl h9
 .exact .inr ⟨k,blk,(BE hk).2,hl,hb,hf⟩
theorem yZ(hm:MemL C L h w)(hl:wt h){blk:Blk}(hi:inK k=true)(hk:h k=some blk)(hv:blk.live (L k))(o:Nat):¬af C L (rT h) (L k).b o:=by
 rintro(h9|⟨k',b',h1,h2,h3,_⟩)
 .have hm0:=hm.m0 _ _ h9
  have ho:=hm.own k _ hk
  have h8:C.w0.heap.size<=(L k).b∨(C.S (L k).b∧∀o,¬C.M0 (L k).b o):=by
   have hb:=hl k blk hi hk
   cases blk with
   |box cs own f=>
    have hb:own=true:=hb;subst hb;exact ho
   |row e sz xs f=>exact ho.row hv
   |mp=>cases hb
  grind
 .obtain⟨i1,g1⟩:=BE h1
  exact hm.sep k' k b' blk (λe=>by rw[e,hi]at i1;cases i1) g1 hk h2 hv h3
theorem LH(hm:MemL C L h w)(hl:wt h){xs:List PV}(hi:inK k=true)(hk:h k=some (.row e sz xs fz)):Rep w (af C L (rT h)) (.sl xs) ((L k).slice xs.length):=by
 obtain⟨g1,g2,g3,g4,g5⟩:=hm.bl k _ hk
 cases hn:(L k).isNil with
 |true=>
  have:=g4 hn;subst this;simp only[Loc.slice,hn,J4];exact .sl0 _ _
 |false=>
  obtain⟨a1,a2,arr,a3,a4,a5⟩:=g5 hn;simp only[Loc.slice,hn,IA,JE];refine .sl xs (L k).b 0 (L k).cap sz (λi j=>(arr[i*sz+j]?).getD default) a1 (λi x hx=>g3 x (HW hx)) (λi x j p hx hj=>?_) (λi x j p hx hj=>?_)
  .obtain⟨u,hu,_⟩:=a5 i x j p hx hj
   refine⟨?_,yZ hm hl hi hk hn _⟩;rw[fl a3,NU,hu];rfl
  .obtain⟨u,hu,hr⟩:=a5 i x j p hx hj
   rw[hu];exact hr.mono (Pres.sub λ_ _=>yY)
theorem LJ(hm:MemL C L h w)(hl:wt h):∀(d:Nat){x:AV}{p:PV}{u:Value},iW h d x=some p->RepA w (af C L h) L h x u->Rep w (af C L (rT h)) p u:=by
 have base:∀{q p:PV}{u:Value},some q=some p->RepA w (af C L h) L h (.pv q) u->Rep w (af C L (rT h)) p u:=by
  intro q p u e hr;injection e with e;subst e
  cases hr with
  |pv hr=>exact hr.mono (Pres.sub λ_ _=>yY)
 intro d
 induction d with
 |zero=>
  intro x p u hc hr
  cases x with
  |pv q=>exact base (by simpa only[iW]using hc) hr
  |_=>simp[iW]at hc
 |succ d ih=>
  intro x p u hc hr
  cases x with
  |pv q=>exact base (by simpa only[iW]using hc) hr
  |arr k n=>
   simp only[iW]at hc;split at hc
   .rename_i hi
    split at hc
    .rename_i e sz xs fz hk
     split at hc
     .rename_i hn
      injection hc with hc;subst hc
      cases hr with
      |arr hk2 hn2 hu=>
       grind [LH]
     .cases hc
    .cases hc
   .cases hc
  |ptr k off=>
   simp only[iW]at hc;split at hc
   .rename_i hi
    split at hc
    .rename_i cs own fz hk
     split at hc
     .rename_i ps hps
      injection hc with hc;subst hc;obtain⟨m1,m2⟩:=uH hps
      cases hr with
      |ptr hk2=>
       obtain⟨arr,ty,a3,a4⟩:=hm.bl k _ hk;have hn:=yZ hm hl hi hk trivial
       have hel:∀(j:Nat) q,ps[j]?=some q->∃v,arr[j]?=some v∧Rep w (af C L (rT h)) q v:=by
        intro j q hq;obtain⟨x,hx,hcx⟩:=m2 j q hq
        have hjl:j<arr.toList.length:=by rw[<-a4.1];exact(th.1 hx).1
        have hv:arr.toList[j]?=some (arr.toList[j]):=an hjl;exact⟨arr.toList[j],by rw[<-M7];exact hv,ih hcx (a4.2 j x _ hx hv)⟩
       have:=Rep.rptr (w:=w) (M:=af C L (rT h)) (.agg ps) (L k).b 0 off (λj=>(arr[j]?).getD default) (λj q hq=>?_) (λj q hq=>?_)
       .grind
       .obtain⟨v,hv,_⟩:=hel j q hq
        refine⟨?_,hn _⟩;rw[NU,fl a3,hv];rfl
       .obtain⟨v,hv,hr⟩:=hel j q hq
        grind
     .cases hc
    .cases hc
   .cases hc
  |ext x=>
   cases x with
   |barr k n c=>
    simp only[iW]at hc;split at hc
    .rename_i hi
     split at hc
     .rename_i cs own fz hk
      split at hc
      .rename_i ps hps
       split at hc
       .rename_i hal
        injection hc with hc;subst hc;obtain⟨hpl,hal⟩:=hal;obtain⟨m1,m2⟩:=uH hps
        have hone:∀q∈ps,q.cells=[q]:=by
         intro q hq;have:=Ij.1 hal q hq
         cases q<;>first|rfl|cases this
        cases hr with
        |ext hx'=>
         cases hx' with
         |barr hnc hk2=>
          obtain⟨arr,ty,a3,a4⟩:=hm.bl k _ hk;have hn:=yZ hm hl hi hk trivial
          have hel:∀(j:Nat) q,ps[j]?=some q->∃v,arr[j]?=some v∧Rep w (af C L (rT h)) q v:=by
           intro j q hq;obtain⟨x,hx,hcx⟩:=m2 j q hq
           have hx:cs[j]?=some x:=by
            grind
           have hjl:j<arr.toList.length:=by rw[<-a4.1];exact(th.1 hx).1
           have hv:arr.toList[j]?=some (arr.toList[j]):=an hjl;exact⟨arr.toList[j],by rw[<-M7];exact hv,ih hcx (a4.2 j x _ hx hv)⟩
          rw[<-hpl]
          have aux:∀{i j:Nat}{q r:PV},ps[i]?=some q->q.cells[j]?=some r->j=0∧r=q:=by
           grind
          refine .sl ps (L k).b 0 c 1 (λi _=>(arr[i]?).getD default) (by omega) (λi q hq=>by rw[hone q (HW hq)];rfl) (λi q j r hq hr=>?_) (λi q j r hq hr=>?_)
          .obtain⟨rfl,rfl⟩:=aux hq hr
           grind [fl]
          grind
       .cases hc
      .cases hc
     .cases hc
    .cases hc
   |_=>simp[iW]at hc
  |_=>simp[iW]at hc
def KW(C:Cx)(Q:St->Prop)(f:Operand)(xs:List Operand)(d:Option Nat)(st:St):Prop:=
 ∃g ps res,cZ (st.ev f)=some (g,[],[])∧wt st.h∧nA (iW st.h 3) (xs.map st.ev)=some ps∧ab C.P g (ps.map .pv) [] [] (.pv res)∧rF res=true∧dD C.N d=true∧Q (st.put d (.pv res) [])
theorem WP.lend{id:Nat}{pre post:List Oper}(hops:ops.toList=pre++o::post)(hop:o.op=.call {callee:=.value f,args:=xs.toArray,argTypes:=ats})(hg:o.guard=none)
 (hq:dX C.P hn C.N ops (KW C (dX C.P hn C.N ops (Q .normal) post) f xs o.dst) pre st):WP C (.region id ops false) Q st:=by
 intro a w hs;refine wp_region_list ?_;rw[hops];refine ja (λst1 a1 w1 hs1 hq1=>?_) hs hq;obtain⟨g,ps,res,hce,hlo,hps,⟨hcall,_,hD⟩,hml,hdN,hQ⟩:=hq1;obtain⟨L,hm,hN,hdf,ht⟩:=hs1;refine wpList_step (λK hK=>?_);rw[lq hg,IR rfl];obtain⟨vs,us,hfv,hv1,hv2⟩:=jv (dx ht f) hce;have hvs:=hv1.nil_inv;have hus:=hv2.nil_inv;subst hvs;subst hus;obtain⟨m1,m2⟩:=uH hps
 have hcalls:=hD w1 (af C L (rT st1.h)) [] (xs.map a1.eval) (λb o h9=>hm.mlt (yY h9)) rfl List.nodup_nil (λi b ps h9=>by simp at h9) (by simp only[Lf]at m1|-;omega) (by
  intro i x v hx hv;simp only[Is,Ii]at hx hv;obtain⟨p,hp,rfl⟩:=hx;obtain⟨y,hy,rfl⟩:=hv;obtain⟨z,hz,hc⟩:=m2 i p hp;simp only[Is,Ii]at hz;obtain⟨y',hy',rfl⟩:=hz;rw[hy]at hy';injection hy' with hy';subst hy'
  exact LJ hm hlo 3 hc (dx ht y))
 have hrun:(execOp a1.eval o).run C.P w1=.ok (.enter g (xs.map a1.eval).toArray) w1:=by
  unfold dw at hcall
  cases hfn:C.P.funcs[g]? with
  |none=>rw[hfn]at hcall;cases hcall
  |some fn=>
   rw[hfn]at hcall;simp only[An,Mp,Om,ne_eq]at hcall
   have hb:fn.body.isNone=false:=by cases hbb:fn.body<;>simp_all
   unfold execOp;rw[hop];simp only[resolve,hfv,Deferred.ofValue,pure_bind,Sem.run_bind,Result.andThen_ok,invoke,callFunc,program,Sem.run,hfn];simp[hcall.2,hb]
 unfold Oper.wp;rw[hrun];simp only[Oper.upon];refine hcalls.mono ?_;rintro ee w' ⟨v,rfl,hx,_,hr⟩;have hx':Ext (λ_=>False) w1 w':=⟨hx.os,hx.tape,hx.output,hx.size,λb' hb' _=>hx.block b' hb' (by simp)⟩;obtain⟨g1,g2⟩:=hm.grow hx';refine hK _ _ ?_;exact jp (λst' a' w' hs' hq'=>⟨st',hs',hq'⟩) (gP.put hm hN hdf ht hdN (W:=[]) ⟨g1,g2,KC.refl _ _⟩ (.pv (pU hml hr))) hQ
theorem WP.lendAt{id:Nat}(n:Nat)(ho:ops.toList[n]?=some o)(hop:o.op=.call {callee:=.value f,args:=xs.toArray,argTypes:=ats})(hg:o.guard=none)
 (hq:dX C.P hn C.N ops (KW C (dX C.P hn C.N ops (Q .normal) (ops.toList.drop (n+1))) f xs o.dst) (ops.toList.take n) st):WP C (.region id ops false) Q st:=by
 grind [WP.lend,List.getElem?_eq_some_iff,List.getElem_cons_drop,List.take_append_drop]
end
theorem WP.of_st{c:Code}{P:St->Prop}(h:P st∧∀st,P st->WP C c Q st):WP C c Q st:=h.2 st h.1
theorem Fu{own:Bool}(hl:s.near.length<=4096)(hH:∀k,inK k=true->h k=bu own s c k):gM h=bu false s c:=by
 funext k
 unfold gM;by_cases hk:inK k=true
 .rw[IR hk,hH k hk]
  split
  .rename_i e;subst e;rfl
  .rename_i e;unfold bu;rw[Ik e,Ik e]
 .rw[Ik hk]
  cases hh:bu false s c k with
  |none=>rfl
  |some b=>exact absurd ((pi hl).keys k b hh) hk
theorem JO{own:Bool}{cs:List AV}{f:Bool}(h:bu own s c k=some (.box cs false f)):k=290:=by
 cases own with
 |false=>exact Fs h
 |true=>
  unfold bu at h;split at h
  .assumption
  .exfalso
   repeat' split at h
   all_goals first|(injection h with h;injection h;done)|cases h
theorem DH{own:Bool}(hl:s.near.length<=4096)(hH:∀k,inK k=true->h k=bu own s c k):InOk h:=by
 have hL:LookH (bu own s c):=pi hl
 exact⟨λk b o hk hb=>hL.nf k b o (by rw[<-hH k hk];exact hb),λk b hk hb=>hL.nm k b (by rw[<-hH k hk];exact hb),λk cs o f hk hb=>hL.cl k cs o f (by rw[<-hH k hk];exact hb),λk cs f hk hb=>JO (own:=own) (s:=s) (c:=c) (by rw[<-hH k hk];exact hb),λb hb=>by
  rw[hH 290 rfl]at hb
  exact⟨_,_,_,(ME hb).symm⟩⟩
theorem DI{own:Bool}{s':Spc}{c':Nat}(hH:∀k,inK k=true->h k=bu own s c k)(hk:inK k=true):gg h (bu false s' c') k=bu own s' c' k:=by
 unfold gg;rw[IR hk];split
 .rename_i e;subst e
  have:nh h 290=own:=by simp only[nh,hH 290 rfl];rfl
  rw[this];rfl
 .rename_i e;unfold bu;rw[Ik e,Ik e]
theorem kY(own:Bool)(s:Spc)(c k:Nat):(bu own s c k).map (bQ [])=bu own s c k:=by
 have hid:(iS s.near++List.replicate c dM).map (aC [])=iS s.near++List.replicate c dM:=by
  refine(List.map_congr_left (g:=id) λx hx=>?_).trans (List.map_id _);rcases JS.1 hx with hx|hx
  .simp only[iS,KB,Mx]at hx
   obtain⟨v,hv,rfl⟩:=hx;simp[aC,bL,aO]
  .rw[(List.mem_replicate.1 hx).2]
   simp[aC,bL,aO]
 have hce:aC [] (mK s)=mK s:=by unfold aC;rw[DG rfl];rfl
 unfold bu;split
 .show some (Blk.box _ own false)=_
  simp only[Ot,VS,hce];simp[aC,bL,aO]
 .split
  .split<;>rfl
  .split
   .rfl
   .split
    .simp only[MG,bQ,hid]
    .split
     .rfl
     .split<;>rfl
theorem Ig{own:Bool}{d:Nat}(hk:k≠293)(hd:295<=d):(bu own s c k).map (bQ [d])=bu own s c k:=by
 have hce:bL [d] (mK s)=false:=DG (by simp;omega);unfold bu;rw[Ik hk];split
 .have h1:∀x,bL [d] x=false->aC [d] x=x:=λx h=>by unfold aC;rw[h];rfl
  show some (Blk.box [aC [d] _,aC [d] _,aC [d] _,aC [d] _,aC [d] _] own false)=_;rw[h1 (.pv _) rfl,h1 _ hce,h1 (.arr 292 _) (by simp[bL,aO];omega),h1 (.ext _) (by simp[bL,aO,XV.key];omega),h1 (.arr 294 _) (by simp[bL,aO];omega)]
 .repeat' split
  all_goals rfl
theorem Mh{own:Bool}(hn:s.near.length<=4096)(hH:∀k,inK k=true->h k=bu own s c k):iW h 3 (.ptr 290 0)=some (nV s):=by
 have e0:=(hH 290 rfl).trans (pg own s c);have e2:=(hH 292 rfl).trans (rL own s c);have e3:=(hH 293 rfl).trans (ph own s c);have e4:=(hH 294 rfl).trans (uk own s c)
 have c2:iW h 2 (mK s)=some (.sl (s.cells.map bD)):=by
  cases hc:s.cc with
  |true=>rw[Po hc];rfl
  |false=>
   have e1:=(hH 291 rfl).trans (rJ own s c hc);rw[td hc];simp[iW,inK,e1]
 have c3:iW h 2 (.arr 292 s.bx.length)=some (.sl (s.bx.map iv)):=by simp[iW,inK,e2]
 have c5:iW h 2 (.arr 294 s.jn.length)=some (.sl (s.jn.map Z)):=by simp[iW,inK,e4]
 have c4:iW h 2 (.ext (.barr 293 s.near.length (s.near.length+c)))=some (.sl (s.near.map wg)):=by
  have ht:(iS s.near++List.replicate c dM).take s.near.length=iS s.near:=by
   rw[SM (by rw[dk];omega),KL (by rw[dk];omega)]
  have hm:nA (iW h 1) (iS s.near)=some (s.near.map wg):=by
   refine E3 (by simp[dk]) λi x y hx hy=>?_
   have hi:i<s.near.length:=by
    have:=(th.1 hx).1
    rwa [dk]at this
   rw[mU hi]at hx;injection hx with hx;subst hx;simp only[Is,Ii]at hy;obtain⟨z,hz,rfl⟩:=hy
   have hk:inK (i+300)=true:=by simp[inK];omega
   have er:=(hH (i+300) hk).trans (mr hi);simp[iW,hk,er,ae,hz]
  simp only[iW,inK,e3];rw[ht,hm];simp[MN]
 have hmm:nA (iW h 2) [.pv (iv s.root),mK s,.arr 292 s.bx.length,.ext (.barr 293 s.near.length (s.near.length+c)),.arr 294 s.jn.length]=some [iv s.root,.sl (s.cells.map bD),.sl (s.bx.map iv),.sl (s.near.map wg),.sl (s.jn.map Z)]:=by
  simp only[nA,c2,c3,c4,c5];rfl
 show(if inK 290=true then _ else _)=_;rw[IR (show inK 290=true from rfl),e0];simp only[hmm]
theorem JP(hH:∀k,inK k=true->h k=bu true s c k):wt h:=by
 intro k blk hk hb;rw[hH k hk]at hb;unfold bu at hb
 repeat' split at hb
 all_goals first|(cases hb;rfl)|cases hb
theorem zm{Q:St->Prop}{d:Option Nat}{own:Bool}{a b:Nat}(hP:C.P=Tryz.prog)(hcal:cZ (st.ev f)=some (80,[],[]))(hargs:xs.map st.ev=[.ptr 290 0,.pv (Z a),.pv (Z b)])(hH:∀k,inK k=true->st.h k=bu own s c k)
 (hn:s.near.length<=4096)(ha:a<s.near.length)(hb:b<s.near.length)(hab:a≠b)(hbx:s.bx.length=s.near.length)(hbl:∀x∈s.bx,x.length<=9223372036854775807)(hnl:∀v,(ae s v).length<=4096)(hd:dD C.N d=true)
 (h:∀r h',(∀k,inK k=true->h' k=bu own (fU s a b) c k)->(∀k,inK k=false->h' k=(st.h k).map jw)->Q (St.put ⟨λn=>gB (st.t n),h'⟩ d r [])):uF C Q f xs d st:=by
 refine⟨_,λ_ h'=>h'=bu false (fU s a b) c,hcal,DH hn hH,?_,by rw[hargs];rfl,hd,λr h' hL ho hp=>?_⟩
 .rw[hargs,Fu hn hH,hP]
  exact Ue s c a b hn ha hb hab hbx hbl hnl
 .have hp:h'=_:=hp
  subst hp;exact h r _ (λk hk=>DI hH hk) (λk hk=>by unfold gg;rw[Ik (by rw[hk];decide)])
theorem JQ(hH:∀k,inK k=true->h k=none):gM h=mG:=by
 funext k
 unfold gM;by_cases hk:inK k=true
 .rw[IR hk,hH k hk];split<;>rfl
 .rw[Ik hk];rfl
theorem Ih(hH:∀k,inK k=true->h k=none):InOk h:=
 ⟨λk b o hk hb=>(by rw[hH k hk]at hb;cases hb),λk b hk hb=>(by rw[hH k hk]at hb;cases hb),λk cs o f hk hb=>(by rw[hH k hk]at hb;cases hb),λk cs f hk hb=>(by rw[hH k hk]at hb;cases hb),λb hb=>(by rw[hH 290 rfl]at hb;cases hb)⟩
theorem GW{S G:Prop}(s:S)(h:S->G:=by
 intro hS
 repeat' (first
  |with_reducible refine ag.seq ?_
  |(with_reducible ((first|refine ag.region hF (hn:=[]) (by kernel_rfl) ?_|refine bS (by first|assumption|apply_assumption) ?_|refine ag.cond' ?_);simp -implicitDefEqProofs (maxSteps:=2000000) [hP,hN,hS]))
  |(with_reducible refine bB (by simp[hS]) (λhgd=>?_) (λhgd=>?_)<;>first|(exfalso;simp at hgd;done)|(exfalso;simp at hgd;omega)|simp -implicitDefEqProofs (maxSteps:=2000000) [hP,hN,hS])
  |with_reducible refine aV ?_ ?_
  |(with_reducible refine aI (λhcd=>?_) (λhcd=>?_)<;>(try (exfalso;clear hP hN;simp_all;done))<;>(try (exfalso;simp at *;omega)))
  |with_reducible refine ag.block ?_
  |(with_reducible ((first|refine ag.skip ?_|refine ag.exit ?_|refine ag.ret ?_);simp[hS])))):G:=h s
theorem GV{S G H:Prop}(s:S)(x:H)(h:S->Hid H->G:=by
 intro hS hG0
 repeat' (first
  |with_reducible refine ag.seq ?_
  |(with_reducible ((first|refine ag.region hF (hn:=[]) (by kernel_rfl) ?_|refine bS (by first|assumption|apply_assumption) ?_|refine ag.cond' ?_);simp -implicitDefEqProofs (maxSteps:=2000000) [hP,hN,hS]))
  |(with_reducible refine bB (by simp[hS]) (λhgd=>?_) (λhgd=>?_)<;>first|(exfalso;simp at hgd;done)|(exfalso;simp at hgd;omega)|simp -implicitDefEqProofs (maxSteps:=2000000) [hP,hN,hS])
  |with_reducible refine aV ?_ ?_
  |(with_reducible refine aI (λhcd=>?_) (λhcd=>?_)<;>(try (exfalso;clear hP hN;simp_all;done))<;>(try (exfalso;simp at *;omega)))
  |with_reducible refine ag.block ?_
  |(with_reducible ((first|refine ag.skip ?_|refine ag.exit ?_|refine ag.ret ?_);simp[hS])))
 exact hG0.h):G:=h s ⟨x⟩
abbrev I4(n:Nat):PV:=Z (n:Int)
def iP(t:Tr):List (PV×PV):=(fL t).map λi=>(I4 i,iv (bj t (i:Int)))
def vQ(a:Act):Nat:=match a.tmps.getD 14 undef with
 |.int _ v=>v.toNat
 |_=>0
def tL(l:Nat)(t:Tr)(i:Nat):Nat->AV:=λm=>if m=0 then .pv (.val (.func (.yield l) #[] #[]))else if m=1 then .pv (.rptr (fe t) 0)else if m=12 then .pv (.sl ((aj t).map iv))else if m=13 then .pv (Z (aj t).length)else if m=14 then .pv (Z i)else .undef
def ga(l:Nat)(t:Tr)(i:Nat)(st:St):Prop:=st.t 0=.pv (.val (.func (.yield l) #[] #[]))∧st.t 1=.pv (.rptr (fe t) 0)∧st.t 12=.pv (.sl ((aj t).map iv))∧st.t 13=.pv (Z (aj t).length)∧st.t 14=.pv (Z i)
def tX(l:Nat)(t:Tr)(i:Nat)(x y:Nat)(p q:PV):Nat->AV:=λm=>if m=x then .pv p else if m=y then .pv q else tL l t i m
theorem xu{a:Act}(h:fw 33 M (bV st.t) a w)(hk:ga l t i st):fw 33 M (tL l t i) a w:=h.sub (λm=>by
 obtain⟨k0,k1,k12,k13,k14⟩:=hk;unfold tL;by_cases m0:m=0
 .subst m0;right;simp[bV,k0]
 by_cases m1:m=1
 .subst m1;right;simp[bV,k1]
 by_cases m12:m=12
 .subst m12;right;simp[bV,k12]
 by_cases m13:m=13
 .subst m13;right;simp[bV,k13]
 by_cases m14:m=14
 .subst m14;right;simp[bV,k14]
 .left;simp[m0,m1,m12,m13,m14])
theorem vR{x y:Nat}{a:Act}(h:fw 33 M (bV st.t) a w)(hk:ga l t i st)(hx:st.t x=.pv p)(hy:st.t y=.pv q):fw 33 M (tX l t i x y p q) a w:=by
 have h2:=xu h hk;refine⟨h.1,λm=>?_⟩;unfold tX;split
 .rename_i e;subst e
  have:=h.2 m;simp only[bV,hx]at this;exact this
 .split
  .rename_i e;subst e
   have:=h.2 m;simp only[bV,hy]at this;exact this
  .exact h2.2 m
theorem PL{x y:Nat}{tt:Nat->AV}{a:Act}(h:fw 33 M tt a w)(k0:tt 0=.pv (.val (.func (.yield l) #[] #[])))(k1:tt 1=.pv (.rptr (fe t) 0))(k12:tt 12=.pv (.sl ((aj t).map iv)))(k13:tt 13=.pv (Z (aj t).length))(k14:tt 14=.pv (Z i))(hx:tt x=.pv p)(hy:tt y=.pv q):fw 33 M (tX l t i x y p q) a w:=h.sub (λm=>by
 unfold tX tL;by_cases mx:m=x
 .subst mx;right;simp[hx]
 by_cases my:m=y
 .subst my;right;simp[mx,hy]
 by_cases m0:m=0
 .subst m0;right;simp[k0,mx,my]
 by_cases m1:m=1
 .subst m1;right;simp[k1,mx,my]
 by_cases m12:m=12
 .subst m12;right;simp[k12,mx,my]
 by_cases m13:m=13
 .subst m13;right;simp[k13,mx,my]
 by_cases m14:m=14
 .subst m14;right;simp[k14,mx,my]
 .left;simp[m0,m1,m12,m13,m14,mx,my])
theorem yV{t:Tr}{i:Nat}(hlf:eE t i=true):∀{n:Nat},i<n->(fY t n)[(fY t i).length]?=some i
 |0,h=>by omega
 |n+1,h=>by
  rw[xp];by_cases e:i=n
  .subst e
   rw[IR hlf];simp
  .have ih:=yV hlf (n:=n) (by omega)
   have hlt:=(th.1 ih).1;split
   .rw[Iz hlt];exact ih
   .exact ih
theorem fw.put{t:Nat->AV}{a:Act}(h:fw N M t a w){d:Nat}(hd:d<N){v:Value}(hv:Rep w M p v):fw N M (ai t d (.pv p)) (a.put (some d) v) w:=by
 have hd':d<a.tmps.size:=by rw[h.1];exact hd
 refine⟨by simpa[Act.put]using h.1,λm=>?_⟩;rw[UX hd'];simp only[ai];split
 .exact .inr ⟨p,rfl,hv⟩
 .exact h.2 m
theorem MK{fn:Func}(h:fn.results=#[])(tmps:Array Value)(P:Program)(w:World):(results fn tmps).run P w=.ok (.tuple #[]) w:=by
 unfold results;rw[h];simp[go_sem]
theorem pM{t:Nat->AV}{a:Act}(h:fw N M t a w){m:Nat}{v:Value}(e:t m=.pv (.val v)):a.tmps.getD m undef=v:=by
 rcases h.2 m with e'|⟨p,e',hr⟩
 .rw[e]at e';cases e'
 .rw[e]at e';injection e' with e';subst e'
  exact aY hr
theorem EE{t:Nat->AV}{a:Act}(h:fw N M t a w){m:Nat}(e:t m=.pv p):Rep w M p (a.tmps.getD m undef):=by
 rcases h.2 m with e'|⟨p',e',hr⟩
 .rw[e]at e';cases e'
 .rw[e]at e';injection e' with e';subst e'
  exact hr
set_option maxRecDepth 100000 in
theorem To(t:Tr)(hl:t.cells.length<=9223372036854775807):Gn Tryz.prog 184 [.rptr (fe t) 0] (iP t):=by
 refine⟨by kernel_rfl,λn l lb W M J hJb hJg hY h0 hcap=>?_⟩
 obtain⟨v1,rfl⟩:∃v,lb=[v]:=by
  have:=hcap.1
  cases lb with
  |nil=>simp at this
  |cons v r=>cases r with
   |nil=>exact⟨v,rfl⟩
   |cons=>simp at this
 have hrep1:Rep W M (.rptr (fe t) 0) v1:=hcap.2 0 _ _ rfl rfl;have hF:=gZ;have cb:=KE t hl;refine callsIn_of_wp_marks Tryz.func184 rfl trivial ?_ rfl
 have H0:fw 33 M (λm=>if m=0 then .pv (.val (.func (.yield l) #[] #[]))else if m=1 then .pv (.rptr (fe t) 0)else .undef) {tmps:=((#[Value.func (.yield l) #[] #[]]:Array Value)++[v1].toArray)++Array.replicate (Tryz.f184.ntmps-((#[Value.func (.yield l) #[] #[]]:Array Value)++[v1].toArray).size) undef,defers:=[]} W:=by
  refine⟨by rw[Tryz.ntmps184];simp,λm=>?_⟩;by_cases m0:m=0
  .subst m0;exact .inr ⟨_,rfl,by simp;exact .val _⟩
  .by_cases m1:m=1
   .subst m1;exact .inr ⟨_,rfl,by simpa using hrep1⟩
   .left;simp[m0,m1]
 refine wpIn_seq (wpIn_mono (H0.step (hJb 0 M W h0) (Q:=λe st'=>e=.normal∧st'.t 0=.pv (.val (.func (.yield l) #[] #[]))∧st'.t 1=.pv (.rptr (fe t) 0)∧st'.t 3=.pv (.sl ((aj t).map iv))) (λC hP hN=>?_)) ?_)
 .skip
  exact GW trivial
 rintro e a1 w1 ⟨st1,⟨rfl,g0,g1,g3⟩,H1,hx1,hd1⟩;have hJ1:=hJg 0 M W w1 h0 hx1
 have H1':fw 33 M (λm=>if m=0 then .pv (.val (.func (.yield l) #[] #[]))else if m=1 then .pv (.rptr (fe t) 0)else if m=3 then .pv (.sl ((aj t).map iv))else .undef) a1 w1:=H1.sub (λm=>by
  by_cases m0:m=0
  .subst m0;right;simp[bV,g0]
  .by_cases m1:m=1
   .subst m1;right;simp[bV,g1]
   .by_cases m3:m=3
    .subst m3;right;simp[bV,g3]
    .left;simp[m0,m1,m3])
 show Code.wpIn Fence.wide n Tryz.prog _ _ a1 w1;refine wpIn_seq (wpIn_mono (H1'.step (hJb 0 M w1 hJ1) (Q:=λe st'=>e=.normal∧st'.t 0=.pv (.val (.func (.yield l) #[] #[]))∧st'.t 1=.pv (.rptr (fe t) 0)∧st'.t 12=.pv (.sl ((aj t).map iv))∧st'.t 13=.pv (Z (aj t).length)∧st'.t 14=.pv (Z 0)) (λC hP hN=>?_)) ?_)
 .skip
  exact GW trivial
 rintro e a2 w2 ⟨st2,⟨rfl,k0,k1,k12,k13,k14⟩,H2,hx2,hd2⟩;have hJ2:=hJg 0 M w1 w2 hJ1 hx2
 have H2':fw 33 M (tL l t 0) a2 w2:=H2.sub (λm=>by
  unfold tL;by_cases m0:m=0
  .subst m0;right;simp[bV,k0]
  by_cases m1:m=1
  .subst m1;right;simp[bV,k1]
  by_cases m12:m=12
  .subst m12;right;simp[bV,k12]
  by_cases m13:m=13
  .subst m13;right;simp[bV,k13]
  by_cases m14:m=14
  .subst m14;right;simp[bV,k14]
  .left;simp[m0,m1,m12,m13,m14])
 have hdd:a2.defers=[]:=by rw[hd2,hd1]
 clear H1 H1' H2 H0 g0 g1 g3 k0 k1 k12 k13 k14 hx1 hx2 hd1 hd2 hJ1 h0;show Code.wpIn Fence.wide n Tryz.prog _ _ a2 w2;refine wpIn_block (wpIn_loop (λa w=>∃i M',i<=(aj t).length∧J (fY t i).length M' w∧fw 33 M' (tL l t i) a w∧a.defers=[]) (λa _=>(aj t).length-vQ a) ⟨0,M,Ng _,by simpa[fY]using hJ2,H2',hdd⟩ ?_);clear hJ2 H2' hdd a2 w2 st2 a1 w1 st1;rintro a w ⟨i,M',hi,hJ,hH,hdd⟩
 have hidx:vQ a=i:=by simp[vQ,pM hH (m:=14) (v:=.int .i64 i) (by simp[tL])]
 have hM':=hJb _ _ _ hJ;by_cases hlt:i<(aj t).length
 .have hv:aX t=true:=by
   cases h:aX t with
   |true=>rfl
   |false=>
    have:aj t=[]:=by
     simp only[aX]at h;simp[aj,Option.isSome_eq_false_iff.1 h |> VX.1]
    rw[this]at hlt;simp at hlt
  have hbl:=fI hv
  have hic:i<t.cells.length:=by omega
  have hz:=ey.1 (jm hv);generalize hc:t.cells[i]=c at *
  have hci:t.cells[i]?=some c:=by rw[an hic,hc]
  obtain⟨hbx,hbxl,_⟩:=iZ hv (c:=(i:Int)) hic;have hbx1:(aj t)[i]?=some (bj t i):=hbx;have hbx2:=bW hbx1 hlt;have hwi:IntKind.i64.wrap ((i:Int)+1)=(i:Int)+1:=aa;have cl:=KH c;have hstep:=xp t i
  have hlfN:eE t i=dZ c:=by simp[eE,hci]
  rw[hlfN]at hstep;refine wpIn_seq (wpIn_mono (hH.step hM' (Q:=λe st'=>e=.normal∧ga l t i st'∧st'.t 15=.pv (.val (.bool true))) (λC hP hN=>?_)) ?_)
  .skip
   repeat' (first
    |with_reducible refine ag.seq ?_
    |(with_reducible ((first|refine ag.region hF (hn:=[]) (by kernel_rfl) ?_|refine ag.cond' ?_);simp -implicitDefEqProofs (maxSteps:=2000000) [hP,hN,tL,ga,hlt]))
    |(with_reducible refine bB (by simp[tL,ga,hlt]) (λhgd=>?_) (λhgd=>?_)<;>first|(exfalso;simp at hgd;done)|(exfalso;simp at hgd;omega)|simp -implicitDefEqProofs (maxSteps:=2000000) [hP,hN,tL,ga,hlt])
    |with_reducible refine aV ?_ ?_
    |(with_reducible refine aI (λhcd=>?_) (λhcd=>?_)<;>(try (exfalso;clear hP hN;simp_all;done))<;>(try (exfalso;simp at *;omega)))
    |with_reducible refine ag.block ?_
    |(with_reducible ((first|refine ag.skip ?_|refine ag.exit ?_|refine ag.ret ?_);simp[tL,ga,hlt])))
  rintro e a1 w1 ⟨st1,⟨rfl,hk1,h15⟩,H1,hx1,hd1⟩;have hJ1:=hJg _ _ _ _ hJ hx1;have e15:a1.eval (.tmp 15)=.bool true:=pM H1 (m:=15) (by simp[bV,h15]);have K1:=xu H1 hk1;show Code.wpIn Fence.wide n Tryz.prog _ _ a1 w1;refine wpIn_seq (wpIn_cond_true e15 (wpIn_skip ?_));show Code.wpIn Fence.wide n Tryz.prog _ _ a1 w1;refine wpIn_seq (wpIn_block ?_);refine wpIn_seq (wpIn_mono (K1.step (hJb _ _ _ hJ1) (Q:=λe st'=>e=.normal∧ga l t i st'∧st'.t 5=.pv (Z i)∧st'.t 6=.pv (iv (bj t i))) (λC hP hN=>?_)) ?_)
  .skip
   repeat' (first
    |with_reducible refine ag.seq ?_
    |(with_reducible ((first|refine ag.region hF (hn:=[]) (by kernel_rfl) ?_|refine ag.cond' ?_);simp -implicitDefEqProofs (maxSteps:=2000000) [hP,hN,tL,ga,hlt,hbx1,hbx2]))
    |(with_reducible refine bB (by simp[tL,ga,hlt,hbx1,hbx2]) (λhgd=>?_) (λhgd=>?_)<;>first|(exfalso;simp at hgd;done)|(exfalso;simp at hgd;omega)|simp -implicitDefEqProofs (maxSteps:=2000000) [hP,hN,tL,ga,hlt,hbx1,hbx2])
    |with_reducible refine aV ?_ ?_
    |(with_reducible refine aI (λhcd=>?_) (λhcd=>?_)<;>(try (exfalso;clear hP hN;simp_all;done))<;>(try (exfalso;simp at *;omega)))
    |with_reducible refine ag.block ?_
    |(with_reducible ((first|refine ag.skip ?_|refine ag.exit ?_|refine ag.ret ?_);simp[tL,ga,hlt,hbx1,hbx2])))
  rintro e a2 w2 ⟨st2,⟨rfl,hk2,h5,h6⟩,H2,hx2,hd2⟩;have hJ2:=hJg _ _ _ _ hJ1 hx2;have K2:=vR H2 hk2 h5 h6;have hM2:=hJb _ _ _ hJ2;show Code.wpIn Fence.wide n Tryz.prog _ _ a2 w2;refine wpIn_seq (wpIn_mono (Q:=λe a3 w3=>e=.normal∧∃M3,J (fY t (i+1)).length M3 w3∧fw 33 M3 (tX l t i 31 31 (B false) (B false)) a3 w3∧a3.defers=[]) ?_ ?_)
  .cases hlf:dZ c with
   |false=>
    rw[hlf]at cl hstep;rw[Ik (by simp)]at hstep;refine wpIn_mono (K2.step hM2 (Q:=λe st'=>e=.normal∧ga l t i st'∧st'.t 31=.pv (.val (.bool false))) (λC hP hN=>?_)) ?_
    .skip
     repeat' (first
      |with_reducible refine ag.seq ?_
      |(with_reducible ((first|refine ag.region hF (hn:=[]) (by kernel_rfl) ?_|refine bS (cl) ?_|refine ag.cond' ?_);simp -implicitDefEqProofs (maxSteps:=2000000) [hP,hN,tX,tL,ga,hic,hci,hc]))
      |(with_reducible refine bB (by simp[tX,tL,ga,hic,hci,hc]) (λhgd=>?_) (λhgd=>?_)<;>first|(exfalso;simp at hgd;done)|(exfalso;simp at hgd;omega)|simp -implicitDefEqProofs (maxSteps:=2000000) [hP,hN,tX,tL,ga,hic,hci,hc])
      |with_reducible refine aV ?_ ?_
      |(with_reducible refine aI (λhcd=>?_) (λhcd=>?_)<;>(try (exfalso;clear hP hN;simp_all;done))<;>(try (exfalso;simp at *;omega)))
      |with_reducible refine ag.block ?_
      |(with_reducible ((first|refine ag.skip ?_|refine ag.exit ?_|refine ag.ret ?_);simp[tX,tL,ga,hic,hci,hc])))
    rintro e a3 w3 ⟨st3,⟨rfl,hk3,h31⟩,H3,hx3,hd3⟩;exact⟨rfl,M',by rw[hstep];exact hJg _ _ _ _ hJ2 hx3,vR H3 hk3 h31 h31,by rw[hd3,hd2,hd1];exact hdd⟩
   |true=>
    rw[hlf]at cl hstep hlfN;rw[IR rfl]at hstep;refine wpIn_region_list ?_;rw[<-NI 10 (Array.toList _)];refine eo _ ?_;refine K2.list hM2 (hn:=[]) (Q:=λst'=>ga l t i st'∧st'.t 25=.pv (.val (.bool true))∧st'.t 26=.pv (.val (.func (.yield l) #[] #[]))∧st'.t 27=.pv (Z i)∧st'.t 28=.pv (iv (bj t i))) (λo ho=>mm (by kernel_rfl) (Tn ho)) ?_ ?_
    .simp -implicitDefEqProofs [tX,tL,ga,hic,hci,hc]
     refine bS cl ?_;simp -implicitDefEqProofs [tX,tL,ga,hic,hci,hc]
    intro st3 a3 w3 ⟨hk3,h25,h26,h27,h28⟩ H3 hx3 hd3;have hJ3:=hJg _ _ _ _ hJ2 hx3;have hM3:=hJb _ _ _ hJ3
    have hxs:(iP t)[(fY t i).length]?=some (I4 i,iv (bj t (i:Int))):=by
     have hL:fL t=fY t t.cells.length:=by simp[fL,hv]
     simp[iP,hL,yV hlfN hic]
    have hy:=hY (n-1) _ _ M' w3 _ _ hxs hJ3 (EE H3 (m:=27) (by simp[bV,h27])) (EE H3 (m:=28) (by simp[bV,h28]));refine Gp ?_ rfl rfl rfl (pM H3 (m:=26) (by simp[bV,h26])) hy ?_
    .exact eX (H3.sim (P:=Tryz.prog) hM3).2.2 (by simp[gb,bV,h25])
    rintro e w4 ⟨rfl,M4,hJ4,hp4⟩;refine⟨_,rfl,?_⟩;obtain⟨y0,y1,y12,y13,y14⟩:=hk3;have H5:=(H3.mono hp4).put (d:=29) (by decide) (p:=B true) (.val (.bool true));have K5:fw 33 M4 (tX l t i 25 29 (B true) (B true)) (a3.put (some 29) (.bool true)) w4:=PL H5 (by simp[ai,bV,y0]) (by simp[ai,bV,y1]) (by simp[ai,bV,y12]) (by simp[ai,bV,y13]) (by simp[ai,bV,y14]) (by simp[ai,bV,h25]) (by simp[ai]);refine K5.list (hJb _ _ _ hJ4) (hn:=[]) (Q:=λst'=>ga l t i st'∧st'.t 31=.pv (.val (.bool false))) (λo ho c' hc'=>by simp at ho;rcases ho with rfl|rfl<;>cases hc') ?_ ?_
    .simp -implicitDefEqProofs [tX,tL,ga]
    intro st6 a6 w6 ⟨hk6,h31⟩ H6 hx6 hd6;refine⟨rfl,M4,?_,vR H6 hk6 h31 h31,?_⟩
    .have:(fY t (i+1)).length=(fY t i).length+1:=by rw[hstep];simp
     rw[this];exact hJg _ _ _ _ hJ4 hx6
    .rw[hd6,kT,hd3,hd2,hd1];exact hdd
  rintro e a3 w3 ⟨rfl,M3,hJ3,H3,hd3⟩;show Code.wpIn Fence.wide n Tryz.prog _ _ a3 w3;refine wpIn_cond_false (pM H3 (m:=31) (by simp[tX])) (wpIn_skip ?_);show Code.wpIn Fence.wide n Tryz.prog _ _ a3 w3;refine wpIn_mono (H3.step (hJb _ _ _ hJ3) (Q:=λe st'=>e=.normal∧ga l t (i+1) st') (λC hP hN=>?_)) ?_
  .skip
   repeat' (first
    |with_reducible refine ag.seq ?_
    |(with_reducible ((first|refine ag.region hF (hn:=[]) (by kernel_rfl) ?_|refine ag.cond' ?_);simp -implicitDefEqProofs (maxSteps:=2000000) [hP,hN,tX,tL,ga,hwi]))
    |(with_reducible refine bB (by simp[tX,tL,ga,hwi]) (λhgd=>?_) (λhgd=>?_)<;>first|(exfalso;simp at hgd;done)|(exfalso;simp at hgd;omega)|simp -implicitDefEqProofs (maxSteps:=2000000) [hP,hN,tX,tL,ga,hwi])
    |with_reducible refine aV ?_ ?_
    |(with_reducible refine aI (λhcd=>?_) (λhcd=>?_)<;>(try (exfalso;clear hP hN;simp_all;done))<;>(try (exfalso;simp at *;omega)))
    |with_reducible refine ag.block ?_
    |(with_reducible ((first|refine ag.skip ?_|refine ag.exit ?_|refine ag.ret ?_);simp[tX,tL,ga,hwi])))
  rintro e a4 w4 ⟨st4,⟨rfl,hk4⟩,H4,hx4,hd4⟩;have K4:=xu H4 hk4;refine⟨⟨i+1,M3,by omega,hJg _ _ _ _ hJ3 hx4,K4,by rw[hd4];exact hd3⟩,?_⟩
  have hidx4:vQ a4=i+1:=by
   simp only[vQ,pM K4 (m:=14) (v:=.int .i64 ((i+1:Nat):Int)) (by simp[tL])];omega
  show(aj t).length-vQ a4<(aj t).length-vQ a;omega
 .have hin:i=(aj t).length:=by omega
  refine wpIn_seq (wpIn_mono (hH.step hM' (Q:=λe st'=>e=.normal∧st'.t 15=.pv (.val (.bool false))) (λC hP hN=>?_)) ?_)
  .skip
   repeat' (first
    |with_reducible refine ag.seq ?_
    |(with_reducible ((first|refine ag.region hF (hn:=[]) (by kernel_rfl) ?_|refine ag.cond' ?_);simp -implicitDefEqProofs (maxSteps:=2000000) [hP,hN,tL,hlt]))
    |(with_reducible refine bB (by simp[tL,hlt]) (λhgd=>?_) (λhgd=>?_)<;>first|(exfalso;simp at hgd;done)|(exfalso;simp at hgd;omega)|simp -implicitDefEqProofs (maxSteps:=2000000) [hP,hN,tL,hlt])
    |with_reducible refine aV ?_ ?_
    |(with_reducible refine aI (λhcd=>?_) (λhcd=>?_)<;>(try (exfalso;clear hP hN;simp_all;done))<;>(try (exfalso;simp at *;omega)))
    |with_reducible refine ag.block ?_
    |(with_reducible ((first|refine ag.skip ?_|refine ag.exit ?_|refine ag.ret ?_);simp[tL,hlt])))
  rintro e a1 w1 ⟨st1,⟨rfl,h15⟩,H1,hx1,hd1⟩;have hJ1:=hJg _ _ _ _ hJ hx1;have e15:a1.eval (.tmp 15)=.bool false:=pM H1 (m:=15) (by simp[bV,h15]);show Code.wpIn Fence.wide n Tryz.prog _ _ a1 w1;refine wpIn_seq (wpIn_cond_false e15 (wpIn_exit ?_));show LeavesInM Fence.wide n Tryz.prog Tryz.f184 a1.tmps _ a1.defers .returning w1;rw[hd1,hdd];refine⟨_,MK Tryz.results184 _ _ _,⟨_,rfl⟩,M',?_⟩
  have hlen:(iP t).length=(fY t i).length:=by
   cases hv:aX t with
   |true=>
    have:=fI hv;rw[hin,this];simp[iP,fL,hv]
   |false=>
    have:aj t=[]:=by
     simp only[aX]at hv;simp[aj,Option.isSome_eq_false_iff.1 hv |> VX.1]
    rw[hin,this];simp[iP,fL,hv,fY]
  rw[hlen];exact hJ1
set_option maxRecDepth 100000 in
theorem Hh:xT Tryz.prog 138:=by
 refine⟨by kernel_rfl,λn args w=>?_⟩;refine callsDIn_of_wpSIn Tryz.func138 rfl trivial λc₀ cs hu=>?_;apply wpSIn_seq;apply wpSIn_region
 have hk:∀k,k<Tryz.f138.ntmps->k<args.size+(Tryz.f138.ntmps-args.size):=by intro k h;omega
 rw[Tryz.ntmps138]at hk;have h0:=hk 0 (by decide);have h1:=hk 1 (by decide);have h2:=hk 2 (by decide);simp[wpOpsSIn,go_sem,recoverD,hu,Tryz.ntmps138,Exit.thenS,h0,h1,h2];refine wpSIn_cond (t:=false) (by simp[Act.eval,h0,h1,h2]) ?_;simp only[IA,JE];refine wpSIn_of_wpIn rfl (wpIn_skip ?_);cases c₀
 simp_all[bodyPostS,results,Tryz.results138]
theorem Tp(t:Tr):ab Tryz.prog 139 [.pv (fe t)] [] [] (.pv (.fn (.func 184) [] [.rptr (fe t) 0])):=by
 refine Dp Tryz.func139 ?_;intro C hP hN;simp only[Tryz.f139]at hN|-;exact Gy
def LI(kb kr:Nat)(acc:List Nat)(h:Hp):Prop:=(acc=[]∧h kb=some (.box [.pv (.val (.slice none 0 0))] false false)∧h kr=none)∨(acc≠[]∧h kb=some (.box [.arr kr acc.length] false false)∧h kr=some (.row 3 1 (acc.map I4) 0))
theorem I5{x:PV×PV}(h:(iP t)[i]?=some x):∃e,(fL t)[i]?=some e∧x=(I4 e,iv (bj t (e:Int))):=by
 rw[iP,Is,Ii]at h;obtain⟨e,h1,h2⟩:=h;exact⟨e,h1,h2.symm⟩
theorem KK{l:List Nat}(h:l[i]?=some e):l.take (i+1)=l.take i++[e]:=by
 obtain⟨h1,h2⟩:=th.1 h;rw[MF h1,h2]
theorem EF(t:Tr):(fL t).length<=2048:=by
 cases hv:aX t with
 |false=>simp[fL,hv]
 |true=>
  have:=ey.1 (jm hv);have:=EY t t.cells.length;simp[fL,hv];omega
theorem xY{b:Blk}(e:h k=some b)(hb:∀cs f,b≠.box cs false f):∀cs f,h k≠some (.box cs false f):=by
 intro cs f h2;rw[e]at h2;injection h2 with h2;exact hb cs f h2
set_option maxRecDepth 100000 in
theorem U3(t:Tr)(hv9:aX t=true)(hl:t.cells.length<=9223372036854775807):ab Tryz.prog 79 [.pv (fe t)] [] [] (.nrow 3 1 ((fL t).map I4)):=by
 refine Fe (args:=[fe t]) Tryz.func79 rfl (by kernel_rfl) (by simp[Tryz.f79]) ?_;intro C hP hN hCS;simp only[Tryz.f79]at hN|-;have hF:=gZ;refine oV.seq hCS ?_;refine GV trivial ?_;refine oV.defer (pre:=[_]) (hn:=[]) (g:=138) rfl (λo ho c' hc'=>by simp at ho;subst ho;cases hc') rfl rfl rfl rfl rfl (by rw[hP];exact Hh) ?_;simp -implicitDefEqProofs [hP,hN];refine oV.range hCS (gf:=184) (caps:=[.rptr (fe t) 0]) (xs:=iP t) (by rw[hP];exact To t hl) (by rw[hN];decide) (by rw[hN];decide) (ks:=[2]) (hin:=λ_=>[.val (.slice none 0 0)]) (t:=λm=>if m=2 then .ptr 2 0 else .undef) ?_ (λi h=>LI 2 12 ((fL t).take i) h) ?_ ?_ ?_ (by kernel_rfl) (hn:=[]) ?_
 .skip
  have q1:=Tp t;refine GV trivial ?_
  all_goals (intro m;by_cases hm:m=2<;>simp[hm])
 .left;simp[kU]
 .intro i h k hk hi
  simp at hk;subst hk;rcases hi with⟨_,h2,_⟩|⟨_,h2,_⟩
  all_goals exact⟨_,h2⟩
 .intro C1 C2 l i x h hP1 hN1 hP2 hN2 hx hI
  obtain⟨e,he,rfl⟩:=I5 hx;have hac:=KK he;have hsm:=EF t
  have hlen:((fL t).take i).length<=2048:=by rw[MD];omega
  rw[hac];generalize(fL t).take i=acc at *;have hF:=Aq l;have hP0:=hP;have hN0:=hN;clear hP hN;have hP:=hP1.trans hP0;have hN:=hN1.trans hN0;have hPb:=hP2.trans hP0;have hNb:=hN2.trans hN0
  have hA:(acc.length+1)*8<=140737488355328:=by omega
  have hA':acc.length+1<=9223372036854775807:=by omega
  rcases hI with⟨rfl,q2,q12⟩|⟨hne,q2,q12⟩
  .skip
   repeat' (first
    |with_reducible refine ag.seq ?_
    |(with_reducible ((first|refine ag.region hF (hn:=[]) (by kernel_rfl) ?_|refine ag.cond' ?_);simp -implicitDefEqProofs (maxSteps:=2000000) [hP,hN,hPb,hNb,qL,q2,q12]))
    |(with_reducible refine bB (by simp[hPb,hNb,qL,q2,q12]) (λhgd=>?_) (λhgd=>?_)<;>first|(exfalso;simp at hgd;done)|(exfalso;simp at hgd;omega)|simp -implicitDefEqProofs (maxSteps:=2000000) [hP,hN,hPb,hNb,qL,q2,q12])
    |with_reducible refine aV ?_ ?_
    |(with_reducible refine aI (λhcd=>?_) (λhcd=>?_)<;>(try (exfalso;clear hP hN;simp_all;done))<;>(try (exfalso;simp at *;omega)))
    |with_reducible refine ag.block ?_
    |(with_reducible ((first|refine ag.skip ?_|refine ag.exit ?_|refine ag.ret ?_);simp[hPb,hNb,qL,q2,q12])))
   all_goals exact .inr ⟨by simp,by simp[ai],by simp[ai]⟩
  .skip
   repeat' (first
    |with_reducible refine ag.seq ?_
    |(with_reducible ((first|refine ag.region hF (hn:=[]) (by kernel_rfl) ?_|refine ag.cond' ?_);simp -implicitDefEqProofs (maxSteps:=2000000) [hP,hN,hPb,hNb,qL,q2,q12,hA,hA']))
    |(with_reducible refine bB (by simp[hPb,hNb,qL,q2,q12,hA,hA']) (λhgd=>?_) (λhgd=>?_)<;>first|(exfalso;simp at hgd;done)|(exfalso;simp at hgd;omega)|simp -implicitDefEqProofs (maxSteps:=2000000) [hP,hN,hPb,hNb,qL,q2,q12,hA,hA'])
    |with_reducible refine aV ?_ ?_
    |(with_reducible refine aI (λhcd=>?_) (λhcd=>?_)<;>(try (exfalso;clear hP hN;simp_all;done))<;>(try (exfalso;simp at *;omega)))
    |with_reducible refine ag.block ?_
    |(with_reducible ((first|refine ag.skip ?_|refine ag.exit ?_|refine ag.ret ?_);simp[hPb,hNb,qL,q2,q12,hA,hA'])))
   all_goals exact .inr ⟨by simp,by simp[ai],by simp[ai]⟩
 .intro h hI
  have hall:(fL t).take (iP t).length=fL t:=KL (by simp[iP]);rw[hall]at hI;rcases hI with⟨e,q2,q12⟩|⟨hne,q2,q12⟩
  .have:=E0 hv9
   rw[e]at this;simp at this
  .simp -implicitDefEqProofs [hP,hN,q2,q12]
def fS(e sz:Nat)(ys:List PV):Hp:=λk=>if k=291 then some (.row e sz ys 0)else none
theorem gh{b:Blk}(h:fS e sz ys k=some b):k=291∧b=.row e sz ys 0:=by
 unfold fS at h;split at h
 .rename_i e9;injection h with h;exact⟨e9,h.symm⟩
 .cases h
theorem Ja{hK:Hp}{g:FuncId}{d:Nat}(hop:o.op=.call {callee:=.value f,args:=xs.toArray,argTypes:=ats})(hd:o.dst=some d)(hkd:hK d=none)
 (hce:cZ (ρ f)=some (g,[],[]))(hargs:xs.map ρ=args.map AV.pv)(hD:n9 P g (args.map .pv) mG (λr h'=>r=.tup [.agg (pre.map .pv++[.arr 291 ys.length]),.pv q]∧h'=fS e sz ys)):
 mh P o ρ hK (.tup [.agg (pre.map .pv++[.arr d ys.length]),.pv q]) [(d,.row e sz ys 0)]:=by
 intro C L h w1 a1 hP hm hs hf hρ next Q hnext
 subst hP;obtain⟨hcall,hDD⟩:=hD
 have hdh:h d=none:=by rw[<-(hf d hd).1];exact hkd
 have hops:∀x,x=f∨x∈xs->RepA w1 (af C L h) L h (ρ x) (a1.eval x):=λx hx=>hρ x (by rw[hop];rcases hx with rfl|hx<;>simp[Op.operands,Call.operands, *]);obtain⟨vs,us,hfv,hv1,hv2⟩:=jv (hops f (.inl rfl)) hce;have hvs:=hv1.nil_inv;have hus:=hv2.nil_inv;subst hvs;subst hus
 have hM0:∀b o,vT (af C L h) L mG b o->af C L h b o:=by
  rintro b o (h9|⟨k,blk,hk,_⟩)
  .exact h9
  .cases hk
 have hcalls:=hDD w1 (af C L h) L (xs.map a1.eval) (λb o h9=>hm.mlt h9) ⟨λk b hk=>(by cases hk),λk k' b b' _ hk=>(by cases hk),λk b hk=>(by cases hk),λk cs f hk=>(by cases hk)⟩ (by
  rw[<-hargs];refine⟨by simp,λi p u hp hu=>?_⟩;have hp0:=hp;rw[hargs,Is,Ii]at hp0;obtain⟨p0,_,rfl⟩:=hp0;simp only[Is,Ii]at hp hu;obtain⟨x,hx,hxe⟩:=hp;obtain⟨y,hy,rfl⟩:=hu;rw[hx]at hy;injection hy with hy;subst hy;have:=hops x (.inr (HW hx));rw[hxe]at this
  cases this with
  |pv hr=>exact .pv (hr.mono (Pres.sub hM0)))
 have hrun:(execOp a1.eval o).run C.P w1=.ok (.enter g (xs.map a1.eval).toArray) w1:=by
  unfold dw at hcall
  cases hfn:C.P.funcs[g]? with
  |none=>rw[hfn]at hcall;cases hcall
  |some fn=>
   rw[hfn]at hcall;simp only[An,Mp,Om,ne_eq]at hcall
   have hb:fn.body.isNone=false:=by cases hbb:fn.body<;>simp_all
   unfold execOp;rw[hop];simp only[resolve,hfv,Deferred.ofValue,pure_bind,Sem.run_bind,Result.andThen_ok,invoke,callFunc,program,Sem.run,hfn];simp[hcall.2,hb]
 unfold Oper.wp;rw[hrun];simp only[Oper.upon];refine hcalls.mono ?_;rintro ee w' ⟨v,r,L',h',rfl,hx,hlk,htr,hr,hokr,⟨rfl,rfl⟩,_,_,hnew⟩
 have hno:∀b,¬ng mG L b:=by rintro b ⟨k,blk,hk,_⟩;cases hk
 have hnt:∀b,¬jR mG L b:=by rintro b ⟨k,blk,hk,_⟩;cases hk
 have hxF:Ext (λ_=>False) w1 w':=⟨hx.os,hx.tape,hx.output,hx.size,λb' hb' _=>hx.block b' hb' (hno b')⟩
 have hk9:fS e sz ys 291=some (.row e sz ys 0):=by simp[fS]
 have hb:=htr.bl 291 _ hk9;have hb1:(L' 291).isNil=false->w1.heap.size<=(L' 291).b:=λhn=>(hnew 291 _ hk9 rfl hn).elim id λh9=>absurd h9 (hnt _)
 have hsub0:∀b o,(af C L h b o∨((L' 291).isNil=false∧b=(L' 291).b))->vT (af C L h) L' (fS e sz ys) b o:=by
  rintro b o (h9|⟨hn,rfl⟩)
  .exact .inl h9
  .exact .inr ⟨291,_,hk9,hn,rfl,by simp[Blk.frz]⟩
 have hb3:dW w' (λb' o=>af C L h b' o∨((L' 291).isNil=false∧b'=(L' 291).b)) (λ_=>default) (λ_=>none) (L' 291) (.row e sz ys 0):=by
  obtain⟨c1,c2,c3,c4,c5⟩:=hb;refine⟨c1,c2,c3,c4,λhn=>?_⟩;obtain⟨d1,d2,arr,d3,d4,d5⟩:=c5 hn;refine⟨d1,d2,arr,d3,d4,λi x j p hx9 hj=>?_⟩;obtain⟨u,hu,hr9⟩:=d5 i x j p hx9 hj;exact⟨u,hu,hr9.mono (Pres.sub hsub0)⟩
 generalize hl:L' 291=l at *;have hnk:=lx (e:=e) (sz:=sz) (xs:=ys) hm hxF hdh (hf d hd).2 hb1 hb3
 have hsub:∀b o,af C (ai L d l) (ai h d (some (.row e sz ys 0))) b o->vT (af C L h) L' (fS e sz ys) b o:=by
  rintro b o (h0|⟨k,blk,hk,hlv,hkb,hfz⟩)
  .exact .inl (.inl h0)
  .by_cases hkq:k=d
   .subst hkq
    rw[aN]at hk hkb hlv;injection hk with hk;subst hk;exact hsub0 b o (.inr ⟨hlv,hkb.symm⟩)
   .rw[bU hkq]at hk hkb hlv
    exact .inl (.inr ⟨k,blk,hk,hlv,hkb,hfz⟩)
 refine hnext _ _ (ai L d l) (by rw[jc];exact hnk.1) ?_;rw[jc]
 cases hr with
 |tup _ vs hvl hh=>
  refine .tup _ _ (by simpa using hvl) (λi p u hp hu=>?_)
  match i,hp with
  |0,hp=>
   simp only[OO,IL]at hp;subst hp;have h0:=hh 0 _ u rfl hu
   cases h0 with
   |agg _ us hul hhu=>
    have hlen:us.length=pre.length+1:=by simpa using hul.symm
    refine .agg _ _ (by simpa using hul) (λi p u hp hu=>?_);by_cases hi:i<pre.length
    .rw[Iz (by simpa using hi),Is,an hi]at hp
     simp only[MG,IL]at hp;subst hp;have:=hhu i (.pv pre[i]) u (by rw[Iz (by simpa using hi),Is,an hi];rfl) hu
     cases this with
     |pv hr9=>exact .pv (hr9.mono (Pres.sub hsub))
    .have hil:=(th.1 hp).1
     have hie:i=pre.length:=by simp at hil;omega
     subst hie;rw[IN (by simp)]at hp;simp only[Lf,T1,OO,IL]at hp;subst hp;have:=hhu pre.length (.arr 291 ys.length) u (by rw[IN (by simp)];simp) hu
     cases this with
     |arr hk2 hn2 hu2=>
      rw[hk9]at hk2;injection hk2 with hk2;injection hk2 with a1 a2 a3 a4;subst a3;rw[hu2 rfl,hl];exact hnk.2
  |1,hp=>
   simp only[UU,OO,IL]at hp;subst hp;have h0:=hh 1 (.pv q) u rfl hu
   cases h0 with
   |pv hr9=>exact .pv (hr9.mono (Pres.sub hsub))
  |i+2,hp=>simp at hp
theorem Ho{g:FuncId}{d:Nat}(hop:o.op=.call {callee:=.value f,args:=xs.toArray,argTypes:=ats})(hd:o.dst=some d)(hg:o.guard=none)(hdd:dD N o.dst=true)(hkd:st.h d=none)
 (hce:cZ (st.ev f)=some (g,[],[]))(hargs:xs.map st.ev=args.map AV.pv)(hD:n9 P g (args.map .pv) mG (λr h'=>r=.tup [.agg (pre.map .pv++[.arr 291 ys.length]),.pv q]∧h'=fS e sz ys)):
 ot P hn N ops o st ⟨o.dst,.tup [.agg (pre.map .pv++[.arr d ys.length]),.pv q],[(d,.row e sz ys 0)],[d]⟩:=by
 refine⟨hdd,rfl,.inl ⟨by simp[gb,hg],λd9 hd9=>by rw[hd]at hd9;injection hd9 with hd9;simp[hd9],?_,by simp⟩⟩;exact Ja hop hd (by simp[cK,hkd]) hce hargs hD
theorem Hq{c:Code}(d k':Nat){xs:List PV}(hd:st.h d=some (.row e sz xs fz))(hk':st.h k'=none)(hne:d≠k')(hlt:k'<2000000)(h:WP C c Q ⟨λn=>bX d k' (st.t n),bN d k' st.h⟩):WP C c Q st:=
 WP.ren d k' hne hk' hlt (by rw[hd];intro cs f e9;cases e9) h
theorem WP.freeze{c:Code}(s:Nat){xs:List PV}(hk:st.h k=some (.row e sz xs fz))(ht:st.t s=.arr k xs.length)(h:WP C c Q ⟨ai st.t s (.pv (.sl xs)),ai st.h k (some (.row e sz xs xs.length))⟩):WP C c Q st:=by
 intro a w hs;obtain⟨L,hm,hN,hdf,htm⟩:=hs;obtain⟨hA,hR⟩:=Aa hm hk;refine h a w ⟨L,hA.1,hN,hdf,λn=>?_⟩;have hold:=(htm n).mono hA.2.1 hA.2.2;show RepA w _ L _ (ai st.t s (.pv (.sl xs)) n) _;by_cases hn:n=s
 .subst hn
  rw[aN];have hv:=htm n;rw[ht]at hv
  cases hv with
  |arr hk2 hn2 hu=>
   rw[hk]at hk2;injection hk2 with hk2;injection hk2 with _ _ a3 _;subst a3;rw[hu rfl];exact .pv hR
 .rw[bU hn];exact hold
theorem EG{t t':TypeId}{x y:Operand}{a b c:Bool}(ho:o.op=.binOp .neq t x y t')(hx:ρ x=.pv (.val (.bool a)))(hy:ρ y=.pv (.val (.bool b)))
 (hg:P.eqGuardType P.depth t=false)(h:aq P (Op.equal t (.bool a) (.bool b))=some c):bR P o ρ=some (.pv (.val (.bool !c)),[]):=by
 refine eH (by rw[ho];simp[Op.operands,hx,hy,fD]) ?_;unfold execOp;rw[ho];simp only[(cy hx).2,(cy hy).2]
 have h1:aq P (eqGuard .neq t x y (.bool a) (.bool b))=some ():=by
  unfold eqGuard;simp only[QO,IA,JE,ak,jW,Js,hg,VW,J4];rfl
 have h2:aq P (binOp .neq t (.bool a) (.bool b))=some (.bool !c):=by
  simp only[binOp,ak,h,Js];rfl
 simp only[ak,h1,h2,Js];rfl
theorem WP.nilsl{c:Code}(s:Nat)(ht:st.t s=.pv (.val (.slice none 0 0)))(h:WP C c Q ⟨ai st.t s (.pv (.sl [])),st.h⟩):WP C c Q st:=by
 intro a w hs;obtain⟨L,hm,hN,hdf,htm⟩:=hs;refine h a w ⟨L,hm,hN,hdf,λn=>?_⟩;show RepA w _ L _ (ai st.t s (.pv (.sl [])) n) _;by_cases hn:n=s
 .subst hn
  rw[aN];have hv:=htm n;rw[ht]at hv
  cases hv with
  |pv hr=>rw[aY hr];exact .pv (.sl0 none 0)
 .rw[bU hn];exact htm n
abbrev mT(r:Bx)(v:Verd):Tr:=⟨r,[aH v]⟩
def AE(r:Bx)(v:Verd):Spc:={root:=r,cells:=[aH v],bx:=[r],near:=[[]],jn:=[-1]}
theorem Mc{r:Bx}{v:Verd}(hv:aX (mT r v)=true):fL (mT r v)=[0]:=by
 unfold fL;rw[IR hv];rfl
theorem BV:LookH (fS e sz ys):=
 ⟨λk b hb=>by obtain⟨rfl,_⟩:=gh hb;rfl,λk b o hb=>by obtain⟨_,rfl⟩:=gh hb;simp[Blk.frz],λk b hb=>by obtain⟨_,rfl⟩:=gh hb;rfl,λk cs o f hb=>by obtain⟨_,h9⟩:=gh hb;cases h9⟩
theorem Pk(r:Bx)(v:Verd)(hv:aX (mT r v)=true):n9 Tryz.prog 34 [.agg [.pv (iv r),.arr 291 1]] (fS 58 8 [bD (aH v)]) (λr' h'=>r'=.ptr 290 0∧h'=bu true (AE r v) 0):=by
 have cl:ab Tryz.prog 79 [.pv (.agg [iv r,.sl [bD ⟨-1,-1,-1,v⟩]])] [] [] (.nrow 3 1 [Z 0]):=by
  have:=U3 (mT r v) hv (by simp);rw[Mc hv]at this;exact this
 have hr9:fS 58 8 [bD (aH v)] 291=some (.row 58 8 [bD (aH v)] 0):=by simp[fS]
 have hrn:∀k,k≠291->fS 58 8 [bD (aH v)] k=none:=λk h=>by simp[fS,h]
 refine Hm Tryz.func34 BV ?_;intro C hP hN;simp only[Tryz.f34]at hN|-;generalize hRR:fS 58 8 [bD (aH v)]=RR at *
 with_reducible repeat' (first|refine Sp.h ?_|((first|refine Wh [1000019] ?_|refine Wi [1000019] ?_|refine Ss.h ?_|(refine Sb.h ?_ ?_ ?_<;>(try intro hgd)<;>try exact Xy))<;>simp -implicitDefEqProofs (maxSteps:=2000000) [hP,hN,tV,hr9,hrn,aH]<;>try refine Yc ?_)|refine X2 ?_ ?_|(refine Xd ?_ ?_<;>intro hcd<;>try exact Xx))
 refine WP.loopN [6] 1 (λi st=>st.t 1=.ptr 1 0∧st.t 4=.ptr 23 0∧st.t 32=.arr 291 1∧st.t 33=.pv (Z 1)∧st.t 34=.pv (Z i)∧st.h 6=none∧st.h 78=none∧st.h 1=some (.box [.pv (iv r),.arr 291 1] true false)∧st.h 291=some (.row 58 8 [bD (aH v)] 0)∧st.h 17=some (.row 39 1 [iv r] 0)∧st.h 19=some (.box [dM] true false)∧st.h 21=some (.row 3 1 [if i=0 then Z 0 else Z (-1)] 0)∧st.h 23=some (.box [.pv (iv r),.arr 291 1,.arr 17 1,.ext (.barr 19 1 1),.arr 21 1] true false)∧∀k,290<=k->k≠291->st.h k=none) ?_ ?_
 .simp[St.kill,aC,bQ,bL,aO,ai,XV.key,hr9,hrn]
  exact λk h1 h2 h3=>by simp[h2,h3,show¬k=1 by omega,show¬k=17 by omega,show¬k=19 by omega,show¬k=21 by omega,show¬k=23 by omega,hrn k h2]
 rintro i st hi ⟨g1,g4,g32,g33,g34,b6,b78,b1,b291,b17,b19,b21,b23,bhi⟩;by_cases hlt:i<1
 .have hi0:i=0:=by omega
  subst hi0;simp only[J4]at b21
  with_reducible repeat' (first|refine Sp.h ?_|((first|refine Wd ?_|refine Ss.h ?_|(refine Sb.h ?_ ?_ ?_<;>(try intro hgd)<;>try exact Xy))<;>simp -implicitDefEqProofs (maxSteps:=2000000) [hP,hN,g1,g4,g32,g33,g34,b6,b78,b1,b291,b17,b19,b21,b23,aH]<;>try refine Yc ?_)|refine X2 ?_ ?_|(refine Xd ?_ ?_<;>intro hcd<;>try exact Xx))
  exact⟨aa (by omega) (by omega),λk h1 h2 h3=>by simp[h2,h3,show¬k=21 by omega,bhi k h1 h2]⟩
 .have hi1:i=1:=by omega
  subst hi1;simp only[Nat.one_ne_zero,JE]at b21
  with_reducible repeat' (first|refine Sp.h ?_|((first|refine Wd ?_|refine Ss.h ?_|refine Sc.h (cl) ?_|(refine Sb.h ?_ ?_ ?_<;>(try intro hgd)<;>try exact Xy))<;>simp -implicitDefEqProofs (maxSteps:=2000000) [hP,hN,g1,g4,g32,g33,g34,b6,b78,b1,b291,b17,b19,b21,b23,aH]<;>try refine Yc ?_)|refine X2 ?_ ?_|(refine Xd ?_ ?_<;>intro hcd<;>try exact Xx))
  refine WP.freeze 7 (k:=78) (e:=3) (sz:=1) (fz:=0) (xs:=[Z 0]) (by simp[ai]) (by simp[ai]) ?_;refine WP.freeze 79 (k:=78) (e:=3) (sz:=1) (fz:=1) (xs:=[Z 0]) (by simp[ai]) (by simp[ai]) ?_;refine WP.of_st (P:=λst=>st.t 4=.ptr 23 0∧st.t 7=.pv (.sl [Z 0])∧st.t 79=.pv (.sl [Z 0])∧st.t 80=.pv (Z 1)∧st.t 81=.pv (Z 0)∧st.h 23=some (.box [.pv (iv r),.arr 291 1,.arr 17 1,.ext (.barr 19 1 1),.arr 21 1] true false)∧st.h 17=some (.row 39 1 [iv r] 0)∧st.h 19=some (.box [dM] true false)∧st.h 21=some (.row 3 1 [Z (-1)] 0)∧st.h 291=some (.row 58 8 [bD (aH v)] 0)∧∀k,290<=k->k≠291->k≠23->k≠17->k≠19->k≠21->st.h k=none) ⟨⟨by simp[g4,ai],by simp[ai],by simp[ai],by simp[ai],by simp[ai],by simp[ai,b23],by simp[ai,b17],by simp[ai,b19],by simp[ai,b21],by simp[ai,b291],λk h1 h2 _ _ _ _=>by simp[ai,show¬k=78 by omega,bhi k h1 h2]⟩,?_⟩;clear g1 g4 g32 g33 g34 b6 b78 b1 b291 b17 b19 b21 b23 bhi st;rintro st ⟨g4,g7,g79,g80,g81,bx,ba,bb,bc,b291,bhi⟩;refine WP.ren 23 290 (by omega) (bhi 290 (by omega) (by omega) (by omega) (by omega) (by omega) (by omega)) (by omega) (xY bx (by intro cs f e;cases e)) ?_;refine WP.of_st (P:=λst=>st.t 4=.ptr 290 0∧st.t 7=.pv (.sl [Z 0])∧st.t 79=.pv (.sl [Z 0])∧st.t 80=.pv (Z 1)∧st.t 81=.pv (Z 0)∧st.h 290=some (.box [.pv (iv r),.arr 291 1,.arr 17 1,.ext (.barr 19 1 1),.arr 21 1] true false)∧st.h 17=some (.row 39 1 [iv r] 0)∧st.h 19=some (.box [dM] true false)∧st.h 21=some (.row 3 1 [Z (-1)] 0)∧st.h 291=some (.row 58 8 [bD (aH v)] 0)∧∀k,290<=k->k≠291->k≠290->k≠17->k≠19->k≠21->st.h k=none) ⟨⟨by simp[bX,bt,rk,g4],by simp[bX,bt,g7],by simp[bX,bt,g79],by simp[bX,bt,g80],by simp[bX,bt,g81],by simp[bN,dp,bX,bt,jy,rk,g4,bx,ba,bb,bc,b291],by simp[bN,dp,bX,bt,jy,rk,g4,bx,ba,bb,bc,b291],by simp[bN,dp,bX,bt,jy,rk,g4,bx,ba,bb,bc,b291],by simp[bN,dp,bX,bt,jy,rk,g4,bx,ba,bb,bc,b291],by simp[bN,dp,bX,bt,jy,rk,g4,bx,ba,bb,bc,b291],λk h1 h2 n1 n2 n3 n4=>?_⟩,?_⟩
  .by_cases e:k=23
   .simp[bN,e]
   .simp[bN,e,n1,bhi k h1 h2 e n2 n3 n4]
  clear g4 g7 g79 g80 g81 bx ba bb bc b291 bhi st;rintro st ⟨g4,g7,g79,g80,g81,bx,ba,bb,bc,b291,bhi⟩;refine WP.ren 17 292 (by omega) (bhi 292 (by omega) (by omega) (by omega) (by omega) (by omega) (by omega)) (by omega) (xY ba (by intro cs f e;cases e)) ?_;refine WP.of_st (P:=λst=>st.t 4=.ptr 290 0∧st.t 7=.pv (.sl [Z 0])∧st.t 79=.pv (.sl [Z 0])∧st.t 80=.pv (Z 1)∧st.t 81=.pv (Z 0)∧st.h 290=some (.box [.pv (iv r),.arr 291 1,.arr 292 1,.ext (.barr 19 1 1),.arr 21 1] true false)∧st.h 292=some (.row 39 1 [iv r] 0)∧st.h 19=some (.box [dM] true false)∧st.h 21=some (.row 3 1 [Z (-1)] 0)∧st.h 291=some (.row 58 8 [bD (aH v)] 0)∧∀k,290<=k->k≠291->k≠290->k≠292->k≠19->k≠21->st.h k=none) ⟨⟨by simp[bX,bt,rk,g4],by simp[bX,bt,g7],by simp[bX,bt,g79],by simp[bX,bt,g80],by simp[bX,bt,g81],by simp[bN,dp,bX,bt,jy,rk,g4,bx,ba,bb,bc,b291],by simp[bN,dp,bX,bt,jy,rk,g4,bx,ba,bb,bc,b291],by simp[bN,dp,bX,bt,jy,rk,g4,bx,ba,bb,bc,b291],by simp[bN,dp,bX,bt,jy,rk,g4,bx,ba,bb,bc,b291],by simp[bN,dp,bX,bt,jy,rk,g4,bx,ba,bb,bc,b291],λk h1 h2 n1 n2 n3 n4=>?_⟩,?_⟩
  .by_cases e:k=17
   .simp[bN,e]
   .simp[bN,e,n2,bhi k h1 h2 n1 e n3 n4]
  clear g4 g7 g79 g80 g81 bx ba bb bc b291 bhi st;rintro st ⟨g4,g7,g79,g80,g81,bx,ba,bb,bc,b291,bhi⟩;refine WP.ren 19 293 (by omega) (bhi 293 (by omega) (by omega) (by omega) (by omega) (by omega) (by omega)) (by omega) (xY bb (by intro cs f e;cases e)) ?_;refine WP.of_st (P:=λst=>st.t 4=.ptr 290 0∧st.t 7=.pv (.sl [Z 0])∧st.t 79=.pv (.sl [Z 0])∧st.t 80=.pv (Z 1)∧st.t 81=.pv (Z 0)∧st.h 290=some (.box [.pv (iv r),.arr 291 1,.arr 292 1,.ext (.barr 293 1 1),.arr 21 1] true false)∧st.h 292=some (.row 39 1 [iv r] 0)∧st.h 293=some (.box [dM] true false)∧st.h 21=some (.row 3 1 [Z (-1)] 0)∧st.h 291=some (.row 58 8 [bD (aH v)] 0)∧∀k,290<=k->k≠291->k≠290->k≠292->k≠293->k≠21->st.h k=none) ⟨⟨by simp[bX,bt,rk,g4],by simp[bX,bt,g7],by simp[bX,bt,g79],by simp[bX,bt,g80],by simp[bX,bt,g81],by simp[bN,dp,bX,bt,jy,rk,g4,bx,ba,bb,bc,b291],by simp[bN,dp,bX,bt,jy,rk,g4,bx,ba,bb,bc,b291],by simp[bN,dp,bX,bt,jy,rk,g4,bx,ba,bb,bc,b291],by simp[bN,dp,bX,bt,jy,rk,g4,bx,ba,bb,bc,b291],by simp[bN,dp,bX,bt,jy,rk,g4,bx,ba,bb,bc,b291],λk h1 h2 n1 n2 n3 n4=>?_⟩,?_⟩
  .by_cases e:k=19
   .simp[bN,e]
   .simp[bN,e,n3,bhi k h1 h2 n1 n2 e n4]
  clear g4 g7 g79 g80 g81 bx ba bb bc b291 bhi st;rintro st ⟨g4,g7,g79,g80,g81,bx,ba,bb,bc,b291,bhi⟩;refine WP.ren 21 294 (by omega) (bhi 294 (by omega) (by omega) (by omega) (by omega) (by omega) (by omega)) (by omega) (xY bc (by intro cs f e;cases e)) ?_;refine WP.of_st (P:=λst=>st.t 4=.ptr 290 0∧st.t 7=.pv (.sl [Z 0])∧st.t 79=.pv (.sl [Z 0])∧st.t 80=.pv (Z 1)∧st.t 81=.pv (Z 0)∧st.h 290=some (.box [.pv (iv r),.arr 291 1,.arr 292 1,.ext (.barr 293 1 1),.arr 294 1] true false)∧st.h 292=some (.row 39 1 [iv r] 0)∧st.h 293=some (.box [dM] true false)∧st.h 294=some (.row 3 1 [Z (-1)] 0)∧st.h 291=some (.row 58 8 [bD (aH v)] 0)∧∀k,290<=k->k≠291->k≠290->k≠292->k≠293->k≠294->st.h k=none) ⟨⟨by simp[bX,bt,rk,g4],by simp[bX,bt,g7],by simp[bX,bt,g79],by simp[bX,bt,g80],by simp[bX,bt,g81],by simp[bN,dp,bX,bt,jy,rk,g4,bx,ba,bb,bc,b291],by simp[bN,dp,bX,bt,jy,rk,g4,bx,ba,bb,bc,b291],by simp[bN,dp,bX,bt,jy,rk,g4,bx,ba,bb,bc,b291],by simp[bN,dp,bX,bt,jy,rk,g4,bx,ba,bb,bc,b291],by simp[bN,dp,bX,bt,jy,rk,g4,bx,ba,bb,bc,b291],λk h1 h2 n1 n2 n3 n4=>?_⟩,?_⟩
  .by_cases e:k=21
   .simp[bN,e]
   .simp[bN,e,n4,bhi k h1 h2 n1 n2 n3 e]
  clear g4 g7 g79 g80 g81 bx ba bb bc b291 bhi st;rintro st ⟨g4,g7,g79,g80,g81,bx,ba,bb,bc,b291,bhi⟩;refine WP.nilRows (λq=>decide (q=300)) 3 293 (cs:=[dM]) (cs':=[.arr 300 0]) (own:=true) (fb:=false) bb ?_ rfl ?_ ?_
  .intro q hq
   simp only[HX]at hq;exact⟨bhi q (by omega) (by omega) (by omega) (by omega) (by omega) (by omega),by omega⟩
  .intro i x hx
   cases i with
   |zero=>simp at hx;exact .inr ⟨rfl,300,by simp,hx.symm⟩
   |succ i=>simp at hx
  refine WP.of_st (P:=λst=>st.t 4=.ptr 290 0∧st.t 7=.pv (.sl [Z 0])∧st.t 79=.pv (.sl [Z 0])∧st.t 80=.pv (Z 1)∧st.t 81=.pv (Z 0)∧∀k,inK k=true->st.h k=bu true (AE r v) 0 k) ⟨⟨g4,g7,g79,g80,g81,λk hk=>?_⟩,?_⟩
  .simp only[inK,An,HX]at hk
   simp only;by_cases e0:k=290
   .subst e0;simp[bx];rfl
   by_cases e1:k=291
   .subst e1;simp[b291];rfl
   by_cases e2:k=292
   .subst e2;simp[ba];rfl
   by_cases e3:k=293
   .subst e3;simp;rfl
   by_cases e4:k=294
   .subst e4;simp[bc];rfl
   by_cases e5:k=300
   .subst e5;simp;rfl
   unfold bu;rw[Ik e0,Ik e1,Ik e2,Ik e3,Ik e4,Ik (c:=300<=k∧k<300+(AE r v).near.length) (by simp[AE];omega)];simp[e3,e5,bhi k (by omega) e1 e0 e2 e3 e4]
  clear g4 g7 g79 g80 g81 bx ba bb bc b291 bhi st;rintro st ⟨g4,g7,g79,g80,g81,bH⟩;refine WP.loopN [] 1 (λk st=>st.t 4=.ptr 290 0∧st.t 7=.pv (.sl [Z 0])∧st.t 79=.pv (.sl [Z 0])∧st.t 80=.pv (Z 1)∧st.t 81=.pv (Z k)∧∀q,inK q=true->st.h q=bu true (AE r v) 0 q) ?_ ?_
  .refine⟨by simp[St.kill,aC,bL,aO,g4],by simp[St.kill,aC,bL,aO,g7],by simp[St.kill,aC,bL,aO,g79],by simp[St.kill,aC,bL,aO,g80],by simp[St.kill,aC,bL,aO,g81],λq hq=>?_⟩
   show(st.h q).map (bQ [])=_;rw[bH q hq,kY]
  clear g4 g7 g79 g80 g81 bH st;rintro k st hk ⟨g4,g7,g79,g80,g81,bH⟩;by_cases hlk:k<1
  .have hk0:k=0:=by omega
   subst hk0
   with_reducible repeat' (first|refine Sp.h ?_|((first|refine Wd ?_|refine Ss.h ?_|(refine Sb.h ?_ ?_ ?_<;>(try intro hgd)<;>try exact Xy))<;>simp -implicitDefEqProofs (maxSteps:=2000000) [hP,hN,g4,g7,g79,g80,g81,mf,qR]<;>try refine Yc ?_)|refine X2 ?_ ?_|(refine Xd ?_ ?_<;>intro hcd<;>try exact Xx))
   refine WP.loopN [] 0 (λj st=>st.t 4=.ptr 290 0∧st.t 7=.pv (.sl [Z 0])∧st.t 79=.pv (.sl [Z 0])∧st.t 80=.pv (Z 1)∧st.t 81=.pv (Z 0)∧st.t 88=.pv (.sl [])∧st.t 89=.pv (Z 0)∧st.t 90=.pv (Z j)∧∀q,inK q=true->st.h q=bu true (AE r v) 0 q) ?_ ?_
   .refine⟨by simp[St.kill,aC,bL,aO,ai,g4],by simp[St.kill,aC,bL,aO,ai,g7],by simp[St.kill,aC,bL,aO,ai,g79],by simp[St.kill,aC,bL,aO,ai,g80],by simp[St.kill,aC,bL,aO,ai,g81],by simp[St.kill,aC,bL,aO,ai],by simp[St.kill,aC,bL,aO,ai],by simp[St.kill,aC,bL,aO,ai],λq hq=>?_⟩
    show(st.h q).map (bQ [])=_;rw[bH q hq,kY]
   clear g4 g7 g79 g80 g81 bH st;rintro j st hj ⟨g4,g7,g79,g80,g81,g88,g89,g90,bH⟩
   have hj0:j=0:=by omega
   subst hj0;refine HK (gA g4 (gA g7 (gA g79 (gA g80 (gA g81 (gA g88 (gA g89 g90))))))) ?_
   all_goals exact⟨aa (by omega) (by omega),λq hq=>by rw[bH q hq,kY]⟩
  .have hk1:k=1:=by omega
   subst hk1;refine HK (gA g4 (gA g7 (gA g79 (gA g80 g81)))) ?_
   exact xx (H:=bu true (AE r v) 0) (r:=.ptr 290 0) rfl rfl bH (pi (by simp[AE])) ⟨rfl,rfl⟩ (λk cs f hk=>by
    subst hRR
    obtain⟨_,h9⟩:=gh hk;cases h9)
theorem zI{L:OL}(h:dH t=some L){b:Bx}(hb:L[i]?=some (some b)):bj t (i:Int)=b:=by
 rw[ke h]at hb;rw[Is,Ii]at hb;obtain⟨x,h1,h2⟩:=hb;injection h2 with h2;subst h2;simp[bj,h1]
theorem zJ(hv:aX t=true):bj t 0=t.root:=by
 obtain⟨L,hL⟩:=Le.1 hv;have hP:=kQ (P:=λ_ M=>M[0]?=some (some t.root)) hL (by simp[kc]) (λk d M M' _ hp hm=>AO hm hp);exact zI hL hP
def fh(t:Tr)(i:Int):Bool:=aX t&&decide (0<=i)&&decide (i<t.cells.length)
def dB(t:Tr)(i:Int):Bx:=if fh t i then bj t i else[]
theorem pN{i:Int}(h:fh t i=false):dB t i=[]:=by simp[dB,h]
theorem U4(t:Tr)(i:Int)(hl:t.cells.length<=9223372036854775807):ab Tryz.prog 74 [.pv (fe t),.pv (Z i)] [] [] (.pv (.tup [iv (dB t i),B (fh t i)])):=by
 have cb:=KE t hl
 cases hv:aX t with
 |false=>
  have hno:fh t i=false:=by simp[fh,hv]
  rw[pN hno,hno];rw[hv]at cb;refine Dp Tryz.func74 ?_;intro C hP hN;simp only[Tryz.f74]at hN|-;exact GS trivial
 |true=>
  rw[hv]at cb;have hbl:=fI hv;have hz:=ey.1 (jm hv);by_cases h1:i<0
  .have hno:fh t i=false:=by
    have:decide (0<=i)=false:=by simp;omega
    simp only[fh,this,PI,Mi]
   rw[pN hno,hno];refine Dp Tryz.func74 ?_;intro C hP hN;simp only[Tryz.f74]at hN|-;exact GS h1
  .obtain⟨k,rfl⟩:=PJ (show 0<=i by omega)
   by_cases h2:t.cells.length<=k
   .have hno:fh t k=false:=by
     have:decide ((k:Int)<t.cells.length)=false:=by simp;omega
     simp only[fh,this,PI,Mi]
    rw[pN hno,hno];refine Dp Tryz.func74 ?_;intro C hP hN;simp only[Tryz.f74]at hN|-;exact GS (gA h1 (gA h2 hbl))
   .have hlt:k<t.cells.length:=by omega
    have hlt':k<(aj t).length:=by omega
    obtain⟨hb1,hb2,_⟩:=iZ hv (c:=(k:Int)) hlt;have hb1':(aj t)[k]?=some (bj t k):=hb1;have hb3:=bW hb1' hlt'
    have hyes:fh t k=true:=by simp[fh,hv,hlt]
    have hbo:dB t k=bj t k:=by simp[dB,hyes]
    rw[hbo,hyes];have cc:=OT (bj t k) (by omega);refine Dp Tryz.func74 ?_;intro C hP hN;simp only[Tryz.f74]at hN|-;exact GS (gA h1 (gA h2 (gA hbl (gA hlt (gA hlt' (gA hb1' hb3))))))
theorem U7(v:Verd):ab Tryz.prog 69 [.pv (nu v)] [] [] (.pv (bD (aH v))):=by
 refine Dp Tryz.func69 ?_;intro C hP hN;simp only[Tryz.f69]at hN|-;refine GT trivial ?_
 all_goals simp[aH]
theorem Ts(xs:List (Int×Int×Int))(hl:xs.length<=16777216):ab Tryz.prog 179 [.pv (.sl (xs.map au))] [] [] (.pv (.sl (xs.map au))):=by
 by_cases hx:xs=[]
 .subst hx
  refine Dp Tryz.func179 ?_;intro C hP hN;simp only[Tryz.f179]at hN|-;exact Dn [5] trivial
 .have hne:xs.isEmpty=false:=by simp[hx]
  refine Dp Tryz.func179 ?_;intro C hP hN;simp only[Tryz.f179]at hN|-;exact Dn [5] (gA hx (gA hne (gA (show xs.length*24<=140737488355328 by omega) (show xs.length<=9223372036854775807 by omega))))
theorem KO(xs:List Cel)(hl:xs.length<=16777216)(hx:xs≠[]):ab Tryz.prog 177 [.pv (.sl (xs.map bD))] [] [] (.row 58 8 (xs.map bD)):=by
 have hne:xs.isEmpty=false:=by simp[hx]
 refine Dp Tryz.func177 ?_;intro C hP hN;simp only[Tryz.f177]at hN|-;exact Dn [5] (gA hx (gA hne (gA (show xs.length*112<=140737488355328 by omega) (show xs.length<=9223372036854775807 by omega))))
def tD(n:Nat)(v:Verd):Prop:=v.nor.length<=n∧v.left.length<=n∧v.right.length<=n
theorem OU(v:Verd)(hv:tD 16777216 v):ab Tryz.prog 134 [.pv (nu v)] [] [] (.pv (nu v)):=by
 have c1:=Ts v.nor hv.1;have c2:=OS v.left hv.2.1;have c3:=OS v.right hv.2.2;refine Dp Tryz.func134 ?_;intro C hP hN;simp only[Tryz.f134]at hN|-;exact GS trivial
theorem U8(r:List (Int×Int))(hl:r.length<=16777216):ab Tryz.prog 31 [.pv (iv r)] [] [] (.pv (.tup [fe (iw r),B (dG r)])):=by
 have cc:=OT r hl;have cl:ab Tryz.prog 69 [.pv (.agg [Z 0,.sl [],Z 0,.sl [],.sl []])] [] [] (.pv (.agg [Z (-1),Z (-1),Z (-1),Z 0,.sl [],Z 0,.sl [],.sl []])):=U7 br
 have cv:ab Tryz.prog 70 [.pv (.agg [iv r,.sl [.agg [Z (-1),Z (-1),Z (-1),Z 0,.sl [],Z 0,.sl [],.sl []]]])] [] [] (.pv (B (dG r))):=by
  have:=Qm ⟨r,[aH br]⟩ (by simp);rw[qD]at this;exact this
 cases h:dG r with
 |true=>
  rw[h]at cv;refine Dp Tryz.func31 ?_;intro C hP hN;simp only[Tryz.f31]at hN|-;refine GT trivial ?_
  all_goals simp[iw,h,aH,br]
 |false=>
  rw[h]at cv;refine Dp Tryz.func31 ?_;intro C hP hN;simp only[Tryz.f31]at hN|-;refine GT trivial ?_
  all_goals simp[iw,h]
structure TSm(t:Tr):Prop where
 root:t.root.length<=16777216
 cells:t.cells.length<=16777216
 vs:∀c∈t.cells,tD 16777216 c.v
theorem KP(t:Tr)(ht:TSm t)(hne:t.cells≠[]):ab Tryz.prog 131 [.pv (fe t)] [] [] (.srow [iv t.root] 58 8 (t.cells.map bD)):=by
 have c1:=KO t.cells ht.cells hne;have c2:=OT t.root ht.root;have hl:=ht.cells;refine Dp Tryz.func131 ?_;intro C hP hN;simp only[Tryz.f131]at hN|-;refine GT trivial ?_;refine WP.loopN [5] t.cells.length (λi st=>st.t 1=.ptr 1 0∧st.t 2=.ptr 2 0∧st.t 3=.arr 8 t.cells.length∧st.t 9=.arr 8 t.cells.length∧st.t 10=.pv (Z t.cells.length)∧st.t 11=.pv (Z i)∧st.h 1=some (.box [.pv (iv t.root),.pv (.sl (t.cells.map bD))] true false)∧st.h 2=some (.box [.pv (.val (.slice none 0 0)),.pv (.val (.slice none 0 0))] true false)∧st.h 5=none∧st.h 8=some (.row 58 8 (t.cells.map bD) 0)) (by simp) ?_;rintro i st hi ⟨g1,g2,g3,g9,g10,g11,hb1,hb2,hb5,hb8⟩;by_cases hlt:i<t.cells.length
 .have hw:=al hlt (by omega)
  generalize hc:t.cells[i]=c at *
  have hci:t.cells[i]?=some c:=by rw[an hlt,hc]
  have cv:=OU c.v (ht.vs c (HW hci))
  have hset:(t.cells.map bD).set i (bD c)=t.cells.map bD:=by
   apply My;intro j;rw[I0];by_cases e:i=j
   .subst e;simp[hlt,hc]
   .rw[Ik e]
  refine GT (gA g1 (gA g2 (gA g3 (gA g9 (gA g10 (gA g11 (gA hb1 (gA hb2 (gA hb5 (gA hb8 (gA hlt (gA hw (gA hci hc))))))))))))) ?_
  all_goals exact hset
 .skip
  exact GS (gA g1 (gA g2 (gA g3 (gA g9 (gA g10 (gA g11 (gA hb1 (gA hb2 (gA hb5 (gA hb8 hlt))))))))))
  all_goals exact⟨8,⟨rfl,rfl⟩,hb8⟩
theorem MC(D:Nat){t e:TypeId}(ht:P.underlying t=some (.array 3 e))(hs:aq P (sizeOf e)=some 1)(e0:∀x y:Int,aq P (Op.equalIn D e (.int .i64 x) (.int .i64 y))=some (x==y)){xs ys:Array Value}{c a' b' c':Int}
 (p0:aq P (part e xs (0*1))=some (.int .i64 a))(p1:aq P (part e xs (1*1))=some (.int .i64 b))(p2:aq P (part e xs (2*1))=some (.int .i64 c))
 (q0:aq P (part e ys (0*1))=some (.int .i64 a'))(q1:aq P (part e ys (1*1))=some (.int .i64 b'))(q2:aq P (part e ys (2*1))=some (.int .i64 c')):
 aq P (Op.equalIn (D+1) t (.agg xs) (.agg ys))=some (a==a'&&b==b'&&c==c'):=by
 simp only[Op.equalIn,ak,jX ht,Js];simp only[hs,Js,Std.Legacy.Range.forIn_eq_forIn_range',Std.Legacy.Range.size]
 have hr:List.range' 0 ((3-0+1-1)/1) 1=[0,1,2]:=by decide
 rw[hr];simp only[List.forIn_cons,List.forIn_nil,ak,p0,q0,e0,Js];cases h1:(a==a')
 .simp[em]
 simp only[QO,IA,JE,em,Js,ak,p1,q1,e0];cases h2:(b==b')
 .simp[em]
 simp only[QO,IA,JE,em,Js,ak,p2,q2,e0];cases h3:(c==c')
 all_goals simp[em]
theorem Lz(a b e c d f:Int):aq Tryz.prog (Op.equal 68 (.agg #[.int .i64 a,.int .i64 b,.int .i64 e]) (.agg #[.int .i64 c,.int .i64 d,.int .i64 f]))=some (a==c&&b==d&&e==f):=
 MC 9999 Tryz.underlying68 (by kernel_rfl) (λx y=>wK (P:=Tryz.prog) 9998 2 .i64 .i64 x y Tryz.underlying2) (by kernel_rfl) (by kernel_rfl) (by kernel_rfl) (by kernel_rfl) (by kernel_rfl) (by kernel_rfl)
def yj(x:AV):Option (Int×Int×Int):=match x with
 |.pv (.val (.agg vs))=>match vs.toList with
  |[.int .i64 a,.int .i64 b,.int .i64 c]=>some (a,b,c)
  |_=>none
 |_=>none
theorem ry{x:AV}{c:Int}(h:yj x=some (a,b,c)):x=.pv (au (a,b,c)):=by
 unfold yj at h;split at h
 .split at h
  .rename_i vs _ a' b' c' hv
   injection h with h;injection h with h1 h2;injection h2 with h2 h3;subst h1;subst h2;subst h3;rw[<-Array.toArray_toList (xs:=vs),hv]
  .cases h
 .cases h
def Kx(x y:AV)(fb:Option dl):Option dl:=match yj x,yj y with
 |some (a,b,e),some (c,d,f)=>some (.pv (.val (.bool !(a==c&&b==d&&e==f))),[])
 |_,_=>fb
@[simp] theorem Qi(a b e c d f:Int)(fb:Option dl):Kx (.pv (.val (.agg #[.int .i64 a,.int .i64 b,.int .i64 e]))) (.pv (.val (.agg #[.int .i64 c,.int .i64 d,.int .i64 f]))) fb=some (.pv (.val (.bool !(a==c&&b==d&&e==f))),[]):=rfl
@[simp] theorem UQ(x y:Operand):
 bR Tryz.prog ⟨dst,.binOp .neq 68 x y 68,ty,pos,aft,g⟩ ρ=Kx (ρ x) (ρ y) (jN Tryz.prog ⟨dst,.binOp .neq 68 x y 68,ty,pos,aft,g⟩ ρ):=by
 unfold Kx;split
 .rename_i a b e c d f hx hy
  exact Ao rfl (ry hx) (ry hy) (by kernel_rfl) (Lz a b e c d f)
 .rfl
def Ha(x y:AV)(fb:Option dl):Option dl:=match yj x,yj y with
 |some (a,b,e),some (c,d,f)=>some (.pv (.val (.bool (a==c&&b==d&&e==f))),[])
 |_,_=>fb
abbrev Iv:=Int×Int
def gl(a:Int):Int:=min (max a (-2147483648)) 2147483648
def dS(a m:Int):Int:=-((-a)/m)
theorem bZ(m n:Nat)(ha:-(m:Int)<=a)(ha':a<=m)(hb:-(n:Int)<=b)(hb':b<=n):-((m*n:Nat):Int)<=a*b∧a*b<=((m*n:Nat):Int):=by
 have h1:(a*b).natAbs<=m*n:=by
  rw[Int.natAbs_mul];exact PG (by omega) (by omega)
 omega
theorem Iu(a:Int)(m:Nat):a.fdiv (m:Int)=a/(m:Int):=Int.fdiv_eq_ediv_of_nonneg a (by omega)
theorem NJ(a:Int):a.fdiv 65536=a/65536:=Iu a 65536
theorem NK(a:Int):a.fdiv 16384=a/16384:=Iu a 16384
theorem NL(a:Int):a.fdiv 1073741824=a/1073741824:=Iu a 1073741824
theorem DT(a:Int)(ha:-4611686018427387904<=a)(hb:a<=4611686018427387904):ab Tryz.prog 255 [.pv (Z a),.pv (Z 16)] [] [] (.pv (Z (dS a 65536))):=by
 have h1:a.fdiv (2^min 16 IntKind.i64.bits)=a/65536:=NJ a
 have h2:IntKind.i64.wrap (a/65536*2^min 16 IntKind.i64.bits)=a/65536*65536:=by
  show IntKind.i64.wrap (a/65536*65536)=_;exact aa (by omega) (by omega)
 have h3:IntKind.i64.wrap (a/65536+1)=a/65536+1:=aa;by_cases he:a/65536*65536=a
 .have hf:dS a 65536=a/65536:=by unfold dS;omega
  rw[hf];refine Dp Tryz.func255 ?_;intro C hP hN;simp only[Tryz.f255]at hN|-;exact Gy
 .have hf:dS a 65536=a/65536+1:=by unfold dS;omega
  rw[hf]
  have he':(a/65536*65536==a)=false:=by simpa using he
  refine Dp Tryz.func255 ?_;intro C hP hN;simp only[Tryz.f255]at hN|-;exact Gy
theorem NM(a:Int):ab Tryz.prog 183 [.pv (Z a),.pv (Z 16)] [] [] (.pv (Z (a/65536))):=by
 have h1:a.fdiv (2^min 16 IntKind.i64.bits)=a/65536:=NJ a;refine Dp Tryz.func183 ?_;intro C hP hN;simp only[Tryz.f183]at hN|-;exact Gy
theorem Rc(a:Int)(ha:-4611686018427387904<=a)(hb:a<=4611686018427387904):ab Tryz.prog 255 [.pv (Z a),.pv (Z 14)] [] [] (.pv (Z (dS a 16384))):=by
 have h1:a.fdiv (2^min 14 IntKind.i64.bits)=a/16384:=NK a
 have h2:IntKind.i64.wrap (a/16384*2^min 14 IntKind.i64.bits)=a/16384*16384:=by
  show IntKind.i64.wrap (a/16384*16384)=_;exact aa (by omega) (by omega)
 have h3:IntKind.i64.wrap (a/16384+1)=a/16384+1:=aa;by_cases he:a/16384*16384=a
 .have hf:dS a 16384=a/16384:=by unfold dS;omega
  rw[hf];refine Dp Tryz.func255 ?_;intro C hP hN;simp only[Tryz.f255]at hN|-;exact Gy
 .have hf:dS a 16384=a/16384+1:=by unfold dS;omega
  rw[hf]
  have he':(a/16384*16384==a)=false:=by simpa using he
  refine Dp Tryz.func255 ?_;intro C hP hN;simp only[Tryz.f255]at hN|-;exact Gy
theorem Rd(a:Int):ab Tryz.prog 183 [.pv (Z a),.pv (Z 14)] [] [] (.pv (Z (a/16384))):=by
 have h1:a.fdiv (2^min 14 IntKind.i64.bits)=a/16384:=NK a;refine Dp Tryz.func183 ?_;intro C hP hN;simp only[Tryz.f183]at hN|-;exact Gy
theorem Re(a:Int)(ha:-4611686018427387904<=a)(hb:a<=4611686018427387904):ab Tryz.prog 255 [.pv (Z a),.pv (Z 30)] [] [] (.pv (Z (dS a 1073741824))):=by
 have h1:a.fdiv (2^min 30 IntKind.i64.bits)=a/1073741824:=NL a
 have h2:IntKind.i64.wrap (a/1073741824*2^min 30 IntKind.i64.bits)=a/1073741824*1073741824:=by
  show IntKind.i64.wrap (a/1073741824*1073741824)=_;exact aa (by omega) (by omega)
 have h3:IntKind.i64.wrap (a/1073741824+1)=a/1073741824+1:=aa;by_cases he:a/1073741824*1073741824=a
 .have hf:dS a 1073741824=a/1073741824:=by unfold dS;omega
  rw[hf];refine Dp Tryz.func255 ?_;intro C hP hN;simp only[Tryz.f255]at hN|-;exact Gy
 .have hf:dS a 1073741824=a/1073741824+1:=by unfold dS;omega
  rw[hf]
  have he':(a/1073741824*1073741824==a)=false:=by simpa using he
  refine Dp Tryz.func255 ?_;intro C hP hN;simp only[Tryz.f255]at hN|-;exact Gy
theorem Rf(a:Int):ab Tryz.prog 183 [.pv (Z a),.pv (Z 30)] [] [] (.pv (Z (a/1073741824))):=by
 have h1:a.fdiv (2^min 30 IntKind.i64.bits)=a/1073741824:=NL a;refine Dp Tryz.func183 ?_;intro C hP hN;simp only[Tryz.f183]at hN|-;exact Gy
def bf(x y:Iv):Iv:=if ay x.1 x.2&&ay y.1 y.2 then(gl (x.1+y.1),gl (x.2+y.2))else(0,0)
def iX(x:Iv):Iv:=if ay x.1 x.2 then(-x.2,-x.1)else(0,0)
def aA(x y:Iv):Iv:=if ay x.1 x.2&&ay y.1 y.2 then
 (gl (min (x.1*y.1) (min (x.1*y.2) (min (x.2*y.1) (x.2*y.2)))/65536),gl (dS (max (x.1*y.1) (max (x.1*y.2) (max (x.2*y.1) (x.2*y.2)))) 65536))else(0,0)
def qp(x:Int):Iv:=(gl x,gl x)
theorem eJ:ay a b=true↔-2147483648<=a∧a<=b∧b<=2147483648:=by
 simp only[ay,An,HX];constructor
 .rintro⟨⟨h1,h2⟩,h3⟩;exact⟨h1,h2,h3⟩
 .rintro⟨h1,h2,h3⟩;exact⟨⟨h1,h2⟩,h3⟩
theorem Lj(a b:Int):ab Tryz.prog 298 [.pv (Z a),.pv (Z b)] [] [] (.pv (I (gl a) (gl b))):=Na a b
theorem Bh(a:Int):ab Tryz.prog 275 [.pv (Z a)] [] [] (.pv (I (gl a) (gl a))):=QL a
theorem eC{c:Int}:ab Tryz.prog 295 [.pv (I a b),.pv (I c d)] [] [] (.pv (aR (bf (a,b) (c,d)))):=by
 cases hv:(ay a b&&ay c d)with
 |false=>
  have hr:bf (a,b) (c,d)=(0,0):=by simp[bf,hv]
  rw[hr];refine Dp Tryz.func295 ?_;intro C hP hN;simp only[Tryz.f295]at hN|-;have q1:=@zf;exact GS hv
 |true=>
  have hr:bf (a,b) (c,d)=(gl (a+c),gl (b+d)):=by simp only[bf,hv,J4]
  rw[hr];have hv':=hv;rw[An,eJ,eJ]at hv';have w1:IntKind.i64.wrap (a+c)=a+c:=aa;have w2:IntKind.i64.wrap (b+d)=b+d:=aa;refine Dp Tryz.func295 ?_;intro C hP hN;simp only[Tryz.f295]at hN|-
  with_reducible repeat' (first|refine Sp.h ?_|((first|refine Ss.h ?_|refine Sc.h (zf _ _ _ _) ?_|refine Sc.h (Lj _ _) ?_|(refine Sb.h ?_ ?_ ?_<;>(try intro hgd)<;>try exact Xy))<;>simp -implicitDefEqProofs (maxSteps:=2000000) [hP,hN,hv,w1,w2])|refine X2 ?_ ?_|(refine Xd ?_ ?_<;>intro hcd<;>try exact Xx))
theorem JZ:ab Tryz.prog 325 [.pv (I a b)] [] [] (.pv (aR (iX (a,b)))):=by
 cases hv:ay a b with
 |false=>
  have hr:iX (a,b)=(0,0):=by simp[iX,hv]
  rw[hr];refine Dp Tryz.func325 ?_;intro C hP hN;simp only[Tryz.f325]at hN|-;have q1:=@kg;exact GS hv
 |true=>
  have hr:iX (a,b)=(-b,-a):=by simp only[iX,hv,J4]
  rw[hr];have hv':=hv;rw[eJ]at hv';have w1:IntKind.i64.wrap (-b)=-b:=aa;have w2:IntKind.i64.wrap (-a)=-a:=aa;have w3:IntKind.i64.wrap (0-b)=-b:=(aa (n:=0-b) (by omega) (by omega)).trans (by omega);have w4:IntKind.i64.wrap (0-a)=-a:=(aa (n:=0-a) (by omega) (by omega)).trans (by omega);refine Dp Tryz.func325 ?_;intro C hP hN;simp only[Tryz.f325]at hN|-;have q1:=@kg;exact GS (gA hv (gA w1 (gA w2 (gA w3 w4))))
theorem Rg(a b:Int)(ha:-4611686018427387904<=b)(hb:b<=4611686018427387904):ab Tryz.prog 308 [.pv (Z a),.pv (Z b)] [] [] (.pv (I (gl (a/65536)) (gl (dS b 65536)))):=by
 refine Dp Tryz.func308 ?_;intro C hP hN;simp only[Tryz.f308]at hN|-
 with_reducible repeat' (first|refine Sp.h ?_|((first|refine Ss.h ?_|refine Sc.h (NM _) ?_|refine Sc.h (DT _ ha hb) ?_|refine Sc.h (Lj _ _) ?_|(refine Sb.h ?_ ?_ ?_<;>(try intro hgd)<;>try exact Xy))<;>simp -implicitDefEqProofs (maxSteps:=2000000) [hP,hN])|refine X2 ?_ ?_|(refine Xd ?_ ?_<;>intro hcd<;>try exact Xx))
@[simp] theorem Vl:IntKind.i64.wrap 1=1:=by decide
@[simp] theorem Vm:IntKind.i64.wrap 2=2:=by decide
@[simp] theorem Vn:IntKind.i64.wrap 3=3:=by decide
@[simp] theorem Vo:IntKind.i64.wrap 4=4:=by decide
theorem Rh(h:i<=4):i=0∨i=1∨i=2∨i=3∨i=4:=by omega
theorem fo{c:Int}:ab Tryz.prog 296 [.pv (I a b),.pv (I c d)] [] [] (.pv (aR (aA (a,b) (c,d)))):=by
 cases hv:(ay a b&&ay c d)with
 |false=>
  have hr:aA (a,b) (c,d)=(0,0):=by simp[aA,hv]
  rw[hr];refine Dp Tryz.func296 ?_;intro C hP hN;simp only[Tryz.f296]at hN|-;have q1:=@zf;exact GS hv
 |true=>
  have hv':=hv;rw[An,eJ,eJ]at hv';have m1:=bZ (a:=a) (b:=c) 2147483648 2147483648 (by omega) (by omega) (by omega) (by omega);have m2:=bZ (a:=a) (b:=d) 2147483648 2147483648 (by omega) (by omega) (by omega) (by omega);have m3:=bZ (a:=b) (b:=c) 2147483648 2147483648 (by omega) (by omega) (by omega) (by omega);have m4:=bZ (a:=b) (b:=d) 2147483648 2147483648 (by omega) (by omega) (by omega) (by omega);have w1:IntKind.i64.wrap (a*c)=a*c:=aa;have w2:IntKind.i64.wrap (a*d)=a*d:=aa;have w3:IntKind.i64.wrap (b*c)=b*c:=aa;have w4:IntKind.i64.wrap (b*d)=b*d:=aa
  have hr:aA (a,b) (c,d)=(gl (min (a*c) (min (a*d) (min (b*c) (b*d)))/65536),gl (dS (max (a*c) (max (a*d) (max (b*c) (b*d)))) 65536)):=by simp only[aA,hv,J4]
  rw[hr];generalize hp0:a*c=p0 at *;generalize hp1:a*d=p1 at *;generalize hp2:b*c=p2 at *;generalize hp3:b*d=p3 at *;have cs:=Rg (min p0 (min p1 (min p2 p3))) (max p0 (max p1 (max p2 p3))) (by omega) (by omega);refine Dp Tryz.func296 ?_;intro C hP hN;simp only[Tryz.f296]at hN|-
  with_reducible repeat' (first|refine Sp.h ?_|((first|refine Wd ?_|refine Ss.h ?_|refine Sc.h (zf _ _ _ _) ?_|(refine Sb.h ?_ ?_ ?_<;>(try intro hgd)<;>try exact Xy))<;>simp -implicitDefEqProofs (maxSteps:=2000000) [hP,hN,hv,w1,w2,w3,w4,hp0,hp1,hp2,hp3]<;>try refine Ya ?_)|refine X2 ?_ ?_|(refine Xd ?_ ?_<;>intro hcd<;>try exact Xx))
  refine WP.loopN [] 4 (λi st=>st.t 4=.ptr 4 0∧st.h 4=some (.box [.pv (Z 0),.pv (Z 0)] true false)∧st.t 40=.pv (.val (.agg #[.int .i64 p0,.int .i64 p1,.int .i64 p2,.int .i64 p3]))∧st.t 41=.pv (Z i)∧
   st.t 6=.pv (Z (if i<=1 then p0 else if i=2 then min p0 p1 else if i=3 then min p0 (min p1 p2)else min p0 (min p1 (min p2 p3))))∧st.t 7=.pv (Z (if i<=1 then p0 else if i=2 then max p0 p1 else if i=3 then max p0 (max p1 p2)else max p0 (max p1 (max p2 p3))))) (by simp) ?_
  rintro i st hi ⟨g4,hb4,g40,g41,g6,g7⟩;rcases Rh hi with rfl|rfl|rfl|rfl|rfl
  all_goals (simp at g6 g7)
  all_goals
   exact Gy
def fE(x:Int):Nat->Int
 |0=>1073741824
 |1=>x*6746518852/65536
 |k+2=>fE x (k+1)*(x*6746518852/65536)/1073741824
def fF(x:Int):Nat->Int
 |0=>1073741824
 |1=>dS (x*6746518853) 65536
 |k+2=>dS (fF x (k+1)*dS (x*6746518853) 65536) 1073741824
theorem pD{x:Int}(h0:0<=x)(h1:x<=8192):∀k,0<=fE x k∧fE x k<=1073741824
 |0=>by simp[fE]
 |1=>by simp only[fE];omega
 |k+2=>by
  have h:=pD h0 h1 (k+1)
  have h2:0<=x*6746518852/65536∧x*6746518852/65536<=1073741824:=by omega
  simp only[fE];generalize x*6746518852/65536=y at *;have h3:=NV h.1 h2.1;have h4:=VV h.2 h2.2 h2.1 (by decide:(0:Int)<=1073741824);omega
theorem pE{x:Int}(h0:0<=x)(h1:x<=8192):∀k,0<=fF x k∧fF x k<=1073741824
 |0=>by simp[fF]
 |1=>by simp only[fF,dS];omega
 |k+2=>by
  have h:=pE h0 h1 (k+1)
  have h2:0<=dS (x*6746518853) 65536∧dS (x*6746518853) 65536<=1073741824:=by unfold dS;omega
  simp only[fF];generalize dS (x*6746518853) 65536=y at *;have h3:=NV h.1 h2.1;have h4:=VV h.2 h2.2 h2.1 (by decide:(0:Int)<=1073741824);unfold dS;omega
theorem ut{x:Int}(h0:0<=x)(h1:x<=8192)(j:Nat):0<=fE x j*fE x 1∧fE x j*fE x 1<=1152921504606846976:=by
 have h:=pD h0 h1 j;have h2:=pD h0 h1 1;have h3:=NV h.1 h2.1;have h4:=VV h.2 h2.2 h2.1 (by decide:(0:Int)<=1073741824);omega
theorem pF{x:Int}(h0:0<=x)(h1:x<=8192)(j:Nat):0<=fF x j*fF x 1∧fF x j*fF x 1<=1152921504606846976:=by
 have h:=pE h0 h1 j;have h2:=pE h0 h1 1;have h3:=NV h.1 h2.1;have h4:=VV h.2 h2.2 h2.1 (by decide:(0:Int)<=1073741824);omega
def jK(f:Nat->Int)(n:Nat):List AV:=[.pv (Z (if 0<n then f 0 else 0)),.pv (Z (if 1<n then f 1 else 0)),.pv (Z (if 2<n then f 2 else 0)),.pv (Z (if 3<n then f 3 else 0)),.pv (Z (if 4<n then f 4 else 0)),.pv (Z (if 5<n then f 5 else 0)),
 .pv (Z (if 6<n then f 6 else 0)),.pv (Z (if 7<n then f 7 else 0)),.pv (Z (if 8<n then f 8 else 0)),.pv (Z (if 9<n then f 9 else 0)),.pv (Z (if 10<n then f 10 else 0))]
abbrev CE(f:Nat->Int):PV:=.val (.agg #[.int .i64 (f 0),.int .i64 (f 1),.int .i64 (f 2),.int .i64 (f 3),.int .i64 (f 4),.int .i64 (f 5),.int .i64 (f 6),.int .i64 (f 7),.int .i64 (f 8),.int .i64 (f 9),.int .i64 (f 10)])
@[simp] theorem Vs:IntKind.i64.wrap 5=5:=by decide
@[simp] theorem Vt:IntKind.i64.wrap 6=6:=by decide
@[simp] theorem Vu:IntKind.i64.wrap 7=7:=by decide
@[simp] theorem Vv:IntKind.i64.wrap 8=8:=by decide
@[simp] theorem Vw:IntKind.i64.wrap 9=9:=by decide
@[simp] theorem UC:IntKind.i64.wrap 10=10:=by decide
@[simp] theorem UD:IntKind.i64.wrap 11=11:=by decide
set_option maxRecDepth 4000 in
theorem N0(x:Int)(h0:0<=x)(h1:x<=8192):ab Tryz.prog 343 [.pv (Z x)] [] [] (.pv (.tup [CE (fE x),CE (fF x)])):=by
 have w1:IntKind.i64.wrap (x*6746518852)=x*6746518852:=aa;have w2:IntKind.i64.wrap (x*6746518853)=x*6746518853:=aa;have c1:ab Tryz.prog 183 [.pv (Z (x*6746518852)),.pv (Z 16)] [] [] (.pv (Z (fE x 1))):=NM _;have c2:ab Tryz.prog 255 [.pv (Z (x*6746518853)),.pv (Z 16)] [] [] (.pv (Z (fF x 1))):=DT _ (by omega) (by omega);have m1:∀j,IntKind.i64.wrap (fE x j*fE x 1)=fE x j*fE x 1:=λj=>aa (by have:=ut h0 h1 j;omega) (by have:=ut h0 h1 j;omega);have m2:∀j,IntKind.i64.wrap (fF x j*fF x 1)=fF x j*fF x 1:=λj=>aa (by have:=pF h0 h1 j;omega) (by have:=pF h0 h1 j;omega);have c3:∀j,ab Tryz.prog 183 [.pv (Z (fE x (j+1)*fE x 1)),.pv (Z 30)] [] [] (.pv (Z (fE x (j+2)))):=λj=>Rf _;have c4:∀j,ab Tryz.prog 255 [.pv (Z (fF x (j+1)*fF x 1)),.pv (Z 30)] [] [] (.pv (Z (fF x (j+2)))):=λj=>Re _ (by have:=pF h0 h1 (j+1);omega) (by have:=pF h0 h1 (j+1);omega);have z1:fE x 0=1073741824:=rfl;have z2:fF x 0=1073741824:=rfl;generalize fE x=f at *;generalize fF x=g at *;refine Dp Tryz.func343 ?_;intro C hP hN;simp only[Tryz.f343]at hN|-;refine Gz ?_;refine WP.loopN [] 9 (λi st=>st.t 2=.ptr 2 0∧st.t 3=.ptr 3 0∧st.t 4=.ptr 4 0∧st.t 5=.ptr 5 0∧st.t 6=.pv (Z (i+2:Nat))∧st.h 2=some (.box (jK f 0) true false)∧st.h 3=some (.box (jK f 0) true false)∧st.h 4=some (.box (jK f (i+2)) true false)∧st.h 5=some (.box (jK g (i+2)) true false)) (by simp[jK,z1,z2]) ?_;rintro i st hi ⟨g2,g3,g4,g5,g6,hb2,hb3,hb4,hb5⟩
 have hc:i=0∨i=1∨i=2∨i=3∨i=4∨i=5∨i=6∨i=7∨i=8∨i=9:=by omega
 rcases hc with rfl|rfl|rfl|rfl|rfl|rfl|rfl|rfl|rfl|rfl
 all_goals (simp only[jK]at hb2 hb3 hb4 hb5;simp at g6 hb2 hb3 hb4 hb5)
 all_goals skip
 .skip
  with_reducible repeat' (first|refine Sp.h ?_|((first|refine Wd ?_|refine Ss.h ?_|refine Sc.h (c3 0) ?_|refine Sc.h (c4 0) ?_)<;>simp -implicitDefEqProofs [hP,hN,g2,g3,g4,g5,g6,hb2,hb3,hb4,hb5,m1,m2,jK]<;>try refine Ya ?_))
 .skip
  with_reducible repeat' (first|refine Sp.h ?_|((first|refine Wd ?_|refine Ss.h ?_|refine Sc.h (c3 1) ?_|refine Sc.h (c4 1) ?_)<;>simp -implicitDefEqProofs [hP,hN,g2,g3,g4,g5,g6,hb2,hb3,hb4,hb5,m1,m2,jK]<;>try refine Ya ?_))
 .skip
  with_reducible repeat' (first|refine Sp.h ?_|((first|refine Wd ?_|refine Ss.h ?_|refine Sc.h (c3 2) ?_|refine Sc.h (c4 2) ?_)<;>simp -implicitDefEqProofs [hP,hN,g2,g3,g4,g5,g6,hb2,hb3,hb4,hb5,m1,m2,jK]<;>try refine Ya ?_))
 .skip
  with_reducible repeat' (first|refine Sp.h ?_|((first|refine Wd ?_|refine Ss.h ?_|refine Sc.h (c3 3) ?_|refine Sc.h (c4 3) ?_)<;>simp -implicitDefEqProofs [hP,hN,g2,g3,g4,g5,g6,hb2,hb3,hb4,hb5,m1,m2,jK]<;>try refine Ya ?_))
 .skip
  with_reducible repeat' (first|refine Sp.h ?_|((first|refine Wd ?_|refine Ss.h ?_|refine Sc.h (c3 4) ?_|refine Sc.h (c4 4) ?_)<;>simp -implicitDefEqProofs [hP,hN,g2,g3,g4,g5,g6,hb2,hb3,hb4,hb5,m1,m2,jK]<;>try refine Ya ?_))
 .skip
  with_reducible repeat' (first|refine Sp.h ?_|((first|refine Wd ?_|refine Ss.h ?_|refine Sc.h (c3 5) ?_|refine Sc.h (c4 5) ?_)<;>simp -implicitDefEqProofs [hP,hN,g2,g3,g4,g5,g6,hb2,hb3,hb4,hb5,m1,m2,jK]<;>try refine Ya ?_))
 .skip
  with_reducible repeat' (first|refine Sp.h ?_|((first|refine Wd ?_|refine Ss.h ?_|refine Sc.h (c3 6) ?_|refine Sc.h (c4 6) ?_)<;>simp -implicitDefEqProofs [hP,hN,g2,g3,g4,g5,g6,hb2,hb3,hb4,hb5,m1,m2,jK]<;>try refine Ya ?_))
 .skip
  with_reducible repeat' (first|refine Sp.h ?_|((first|refine Wd ?_|refine Ss.h ?_|refine Sc.h (c3 7) ?_|refine Sc.h (c4 7) ?_)<;>simp -implicitDefEqProofs [hP,hN,g2,g3,g4,g5,g6,hb2,hb3,hb4,hb5,m1,m2,jK]<;>try refine Ya ?_))
 .skip
  with_reducible repeat' (first|refine Sp.h ?_|((first|refine Wd ?_|refine Ss.h ?_|refine Sc.h (c3 8) ?_|refine Sc.h (c4 8) ?_)<;>simp -implicitDefEqProofs [hP,hN,g2,g3,g4,g5,g6,hb2,hb3,hb4,hb5,m1,m2,jK]<;>try refine Ya ?_))
 .skip
  exact Gy
def mY(i:Nat):Int:=if i%2=0 then 1 else -1
def oK(xs:List Int):Nat->Int
 |0=>0
 |i+1=>oK xs i+mY i*(xs[i]?).getD 0
def fO(xs:List Int):Int:=oK xs xs.length
theorem FQ(i:Nat)(x:Int):(mY i*x=x∨mY i*x=-x):=by unfold mY;split<;>simp
theorem Ea(i:Nat):mY (i+1)=-mY i:=by unfold mY;split<;>split<;>omega
theorem vD{xs:List Int}(hb:∀x∈xs,-1099511627776<=x∧x<=1099511627776):∀i:Nat,-((i:Int)*1099511627776)<=oK xs i∧oK xs i<=(i:Int)*1099511627776
 |0=>by simp[oK]
 |i+1=>by
  have h:=vD hb i
  have h2:-1099511627776<=(xs[i]?).getD 0∧(xs[i]?).getD 0<=1099511627776:=by
   cases hx:xs[i]? with
   |none=>simp
   |some y=>exact hb y (HW hx)
  have h3:=FQ i ((xs[i]?).getD 0);simp only[oK];omega
theorem GX(xs:List Int)(hl:xs.length<=1000)(hb:∀x∈xs,-1099511627776<=x∧x<=1099511627776):ab Tryz.prog 344 [.pv (zs xs)] [] [] (.pv (Z (fO xs))):=by
 refine Dp Tryz.func344 ?_;intro C hP hN;simp only[Tryz.f344]at hN|-;refine Gz ?_;refine WP.loopN [] xs.length (λi st=>st.t 3=.pv (Z (oK xs i))∧st.t 4=.pv (Z (mY i))∧st.t 7=.pv (zs xs)∧st.t 8=.pv (Z xs.length)∧st.t 9=.pv (Z i)) (by simp[oK,mY]) ?_;rintro i st hi ⟨g3,g4,g7,g8,g9⟩;by_cases hlt:i<xs.length
 .have hw:=al hlt (by omega)
  have hxi:xs[i]?=some xs[i]:=an hlt;have hr:=hb xs[i] (Ky hlt);have ha:=vD hb i;have h3:=FQ i xs[i];have w1:IntKind.i64.wrap (mY i*xs[i])=mY i*xs[i]:=aa;have w2:IntKind.i64.wrap (oK xs i+mY i*xs[i])=oK xs (i+1):=(aa (by omega) (by omega)).trans (by simp[oK,hxi])
  have w3:IntKind.i64.wrap (-mY i)=mY (i+1):=by
   rw[Ea];unfold mY;split<;>decide
  have w4:IntKind.i64.wrap (0-mY i)=mY (i+1):=by
   rw[Ea];unfold mY;split<;>decide
  exact Gy
 .skip
  refine Gz ?_
  all_goals (have:i=xs.length:=by omega
             subst this;rfl)
def bm(n d:Int):Int:=(n+d-1)/d
theorem vE(n d:Int)(hn:0<=n)(hn':n<=1099511627776)(hd:1<=d)(hd':d<=1099511627776):ab Tryz.prog 345 [.pv (Z n),.pv (Z d)] [] [] (.pv (Z (bm n d))):=by
 have w1:IntKind.i64.wrap (n+d)=n+d:=aa;have w2:IntKind.i64.wrap (n+d-1)=n+d-1:=aa;have hq:(n+d-1).tdiv d=(n+d-1)/d:=Kq (by omega);have hq1:0<=(n+d-1)/d:=UB (by omega) (by omega);have hq2:(n+d-1)/d<=n+d-1:=V5 _ (by omega);have w3:IntKind.i64.wrap ((n+d-1)/d)=(n+d-1)/d:=aa
 have hne:d≠0:=by omega
 refine Dp Tryz.func345 ?_;intro C hP hN;simp only[Tryz.f345]at hN|-;refine Gz ?_
 all_goals rfl
def tR(lo hi:Int):Iv:=(max 0 (lo/16384),min 65536 (dS hi 16384))
theorem N1(lo hi:Int)(h1:-4611686018427387904<=hi)(h2:hi<=4611686018427387904):ab Tryz.prog 346 [.pv (Z lo),.pv (Z hi)] [] [] (.pv (aR (tR lo hi))):=by
 refine Dp Tryz.func346 ?_;intro C hP hN;simp only[Tryz.f346]at hN|-;have q1:=@Rd;have q2:=Rc _ h1 h2;refine GT trivial ?_
 all_goals simp[tR]
def oL(f g:Nat->Int):List Int:=[f 1,bm (g 3) 6,f 5/120,bm (g 7) 5040]
def mv(f g:Nat->Int):List Int:=[g 1,f 3/6,bm (g 5) 120,f 7/5040,bm (g 9) 362880]
def sx(f g:Nat->Int):List Int:=[1073741824,bm (g 2) 2,f 4/24,bm (g 6) 720,f 8/40320,bm (g 10) 3628800]
def pG(f g:Nat->Int):List Int:=[1073741824,f 2/2,bm (g 4) 24,f 6/720,bm (g 8) 40320]
def vF(x:Int):Iv:=tR (fO (oL (fE x) (fF x))) (fO (mv (fE x) (fF x)))
def zu(x:Int):Iv:=tR (fO (sx (fE x) (fF x))) (fO (pG (fE x) (fF x)))
theorem fA{n:Int}(h0:0<=n)(h1:n<=1073741824)(hd:1<=d)(hd':d<=4000000):0<=bm n d∧bm n d<=1099511627776:=by
 unfold bm;have hq1:0<=(n+d-1)/d:=UB (by omega) (by omega);have hq2:(n+d-1)/d<=n+d-1:=V5 _ (by omega);omega
theorem Eb{f:Nat->Int}(hf:∀j,0<=f j∧f j<=1073741824)(j:Nat)(d:Int):(f j).tdiv d=f j/d:=Kq (hf j).1
theorem sA{f:Nat->Int}(hf:∀j,0<=f j∧f j<=1073741824)(j:Nat)(hd:0<d):0<=f j/d∧f j/d<=1073741824:=by
 have h:=hf j;have hq1:0<=f j/d:=UB (by omega) (by omega);have hq2:f j/d<=f j:=V5 _ (by omega);omega
theorem Ec{f:Nat->Int}(hf:∀j,0<=f j∧f j<=1073741824)(j:Nat)(hd:0<d):IntKind.i64.wrap (f j/d)=f j/d:=by
 have:=sA hf j hd;exact aa (by omega) (by omega)
theorem RD(x:Int)(h0:0<=x)(h1:x<=8192):ab Tryz.prog 341 [.pv (Z x)] [] [] (.pv (aR (vF x))):=by
 have cp:=N0 x h0 h1;have hf:=pD h0 h1;have hg:=pE h0 h1;show ab _ _ _ _ _ (.pv (aR (tR (fO (oL (fE x) (fF x))) (fO (mv (fE x) (fF x))))));generalize fE x=f at *;generalize fF x=g at *
 have k1:∀y∈oL f g,-1099511627776<=y∧y<=1099511627776:=by
  intro y hy;have a1:=hf 1;have a2:=fA (d:=6) (hg 3).1 (hg 3).2 (by decide) (by decide);have a3:=sA hf 5 (d:=120) (by decide);have a4:=fA (d:=5040) (hg 7).1 (hg 7).2 (by decide) (by decide);simp only[oL,KM,LF,NH]at hy;rcases hy with rfl|rfl|rfl|rfl<;>omega
 have k2:∀y∈mv f g,-1099511627776<=y∧y<=1099511627776:=by
  intro y hy;have a1:=hg 1;have a2:=fA (d:=120) (hg 5).1 (hg 5).2 (by decide) (by decide);have a3:=sA hf 3 (d:=6) (by decide);have a4:=fA (d:=362880) (hg 9).1 (hg 9).2 (by decide) (by decide);have a5:=sA hf 7 (d:=5040) (by decide);simp only[mv,KM,LF,NH]at hy;rcases hy with rfl|rfl|rfl|rfl|rfl<;>omega
 have b2:=vD k2 5;have b3:-(((5:Nat):Int)*1099511627776)<=fO (mv f g)∧fO (mv f g)<=((5:Nat):Int)*1099511627776:=b2;have ca:ab Tryz.prog 344 [.pv (.sl [Z (f 1),Z (bm (g 3) 6),Z (f 5/120),Z (bm (g 7) 5040)])] [] [] (.pv (Z (fO (oL f g)))):=GX (oL f g) (by simp[oL]) k1;have cb:ab Tryz.prog 344 [.pv (.sl [Z (g 1),Z (f 3/6),Z (bm (g 5) 120),Z (f 7/5040),Z (bm (g 9) 362880)])] [] [] (.pv (Z (fO (mv f g)))):=GX (mv f g) (by simp[mv]) k2;have c3:=vE (g 3) 6 (hg 3).1 (by have:=hg 3;omega) (by decide) (by decide);have c7:=vE (g 7) 5040 (hg 7).1 (by have:=hg 7;omega) (by decide) (by decide);have c5:=vE (g 5) 120 (hg 5).1 (by have:=hg 5;omega) (by decide) (by decide);have c9:=vE (g 9) 362880 (hg 9).1 (by have:=hg 9;omega) (by decide) (by decide);have ce:=N1 (fO (oL f g)) (fO (mv f g)) (by omega) (by omega);generalize fO (oL f g)=lo at *;generalize fO (mv f g)=hi at *;have t1:=Eb hf 5 120;have t2:=Eb hf 3 6;have t3:=Eb hf 7 5040;have w1:=Ec hf 5 (d:=120) (by decide);have w2:=Ec hf 3 (d:=6) (by decide);have w3:=Ec hf 7 (d:=5040) (by decide);refine Dp Tryz.func341 ?_;intro C hP hN;simp only[Tryz.f341]at hN|-;exact Gy
theorem RE(x:Int)(h0:0<=x)(h1:x<=8192):ab Tryz.prog 342 [.pv (Z x)] [] [] (.pv (aR (zu x))):=by
 have cp:=N0 x h0 h1;have hf:=pD h0 h1;have hg:=pE h0 h1;show ab _ _ _ _ _ (.pv (aR (tR (fO (sx (fE x) (fF x))) (fO (pG (fE x) (fF x))))));generalize fE x=f at *;generalize fF x=g at *
 have k1:∀y∈sx f g,-1099511627776<=y∧y<=1099511627776:=by
  intro y hy;have a2:=fA (d:=2) (hg 2).1 (hg 2).2 (by decide) (by decide);have a3:=sA hf 4 (d:=24) (by decide);have a4:=fA (d:=720) (hg 6).1 (hg 6).2 (by decide) (by decide);have a5:=sA hf 8 (d:=40320) (by decide);have a6:=fA (d:=3628800) (hg 10).1 (hg 10).2 (by decide) (by decide);simp only[sx,KM,LF,NH]at hy;rcases hy with rfl|rfl|rfl|rfl|rfl|rfl<;>omega
 have k2:∀y∈pG f g,-1099511627776<=y∧y<=1099511627776:=by
  intro y hy;have a2:=fA (d:=24) (hg 4).1 (hg 4).2 (by decide) (by decide);have a3:=sA hf 2 (d:=2) (by decide);have a4:=fA (d:=40320) (hg 8).1 (hg 8).2 (by decide) (by decide);have a5:=sA hf 6 (d:=720) (by decide);simp only[pG,KM,LF,NH]at hy;rcases hy with rfl|rfl|rfl|rfl|rfl<;>omega
 have b2:=vD k2 5;have b3:-(((5:Nat):Int)*1099511627776)<=fO (pG f g)∧fO (pG f g)<=((5:Nat):Int)*1099511627776:=b2;have ca:ab Tryz.prog 344 [.pv (.sl [Z 1073741824,Z (bm (g 2) 2),Z (f 4/24),Z (bm (g 6) 720),Z (f 8/40320),Z (bm (g 10) 3628800)])] [] [] (.pv (Z (fO (sx f g)))):=GX (sx f g) (by simp[sx]) k1;have cb:ab Tryz.prog 344 [.pv (.sl [Z 1073741824,Z (f 2/2),Z (bm (g 4) 24),Z (f 6/720),Z (bm (g 8) 40320)])] [] [] (.pv (Z (fO (pG f g)))):=GX (pG f g) (by simp[pG]) k2;have c2:=vE (g 2) 2 (hg 2).1 (by have:=hg 2;omega) (by decide) (by decide);have c6:=vE (g 6) 720 (hg 6).1 (by have:=hg 6;omega) (by decide) (by decide);have c10:=vE (g 10) 3628800 (hg 10).1 (by have:=hg 10;omega) (by decide) (by decide);have c4:=vE (g 4) 24 (hg 4).1 (by have:=hg 4;omega) (by decide) (by decide);have c8:=vE (g 8) 40320 (hg 8).1 (by have:=hg 8;omega) (by decide) (by decide);have ce:=N1 (fO (sx f g)) (fO (pG f g)) (by omega) (by omega);generalize fO (sx f g)=lo at *;generalize fO (pG f g)=hi at *;have t1:=Eb hf 4 24;have t2:=Eb hf 8 40320;have t3:=Eb hf 2 2;have t4:=Eb hf 6 720;have w1:=Ec hf 4 (d:=24) (by decide);have w2:=Ec hf 8 (d:=40320) (by decide);have w3:=Ec hf 2 (d:=2) (by decide);have w4:=Ec hf 6 (d:=720) (by decide);refine Dp Tryz.func342 ?_;intro C hP hN;simp only[Tryz.f342]at hN|-;exact Gy
def fG(r:Int):Iv:=if r<=8192 then vF r else zu (16384-r)
theorem N2(r:Int)(h0:0<=r)(h1:r<=16384):ab Tryz.prog 338 [.pv (Z r)] [] [] (.pv (aR (fG r))):=by
 have w1:IntKind.i64.wrap (16384-r)=16384-r:=aa;by_cases h:r<=8192
 .have hf:fG r=vF r:=by simp[fG,h]
  have cs:=RD r h0 h;rw[hf];generalize vF r=y at *;refine Dp Tryz.func338 ?_;intro C hP hN;simp only[Tryz.f338]at hN|-;exact Gy
 .have hf:fG r=zu (16384-r):=by simp[fG,h]
  have cs:=RE (16384-r) (by omega) (by omega);rw[hf];generalize zu (16384-r)=y at *;refine Dp Tryz.func338 ?_;intro C hP hN;simp only[Tryz.f338]at hN|-;exact Gy
theorem PA(a:Int):tH .and .i64 a 65535=a%65536:=by
 unfold tH
 have h1:(BitVec.ofInt 64 a &&& BitVec.ofInt 64 65535).toNat=(a%65536).toNat:=by
  rw[BitVec.toNat_and,BitVec.toNat_ofInt,BitVec.toNat_ofInt]
  have e1:((65535:Int)%((2^64:Nat):Int)).toNat=2^16-1:=by decide
  rw[e1,Nat.and_two_pow_sub_one_eq_mod];have h0:0<=a%((2^64:Nat):Int):=Ov _ (by decide);have h2:(a%((2^64:Nat):Int))%65536=a%65536:=Int.emod_emod_of_dvd a (by decide);omega
 show IntKind.i64.wrap ((BitVec.ofInt 64 a &&& BitVec.ofInt 64 65535).toNat:Int)=_;rw[h1,IntKind.wrap_i64];have:=Ov a (b:=65536) (by decide);have:=ON a (b:=65536) (by decide);omega
theorem Kb(a:Int):ab Tryz.prog 337 [.pv (Z a)] [] [] (.pv (Z (a%65536))):=by
 refine Dp Tryz.func337 ?_;intro C hP hN;simp only[Tryz.f337]at hN|-;exact GS @PA
def qN(m:Int):Iv:=if m/16384=0 then fG (m%16384)else if m/16384=1 then fG (16384-m%16384)else if m/16384=2 then iX (fG (m%16384))else iX (fG (16384-m%16384))
def pH(a:Int):Iv:=qN (a%65536)
theorem N3(a:Int):ab Tryz.prog 332 [.pv (Z a)] [] [] (.pv (aR (pH a))):=by
 have cm:=Kb a;show ab _ _ _ _ _ (.pv (aR (qN (a%65536))));have r1:=Ov a (b:=65536) (by decide);have r2:=ON a (b:=65536) (by decide);generalize a%65536=m at *;have t1:m.tmod 16384=m%16384:=VU r1;have t2:m.tdiv 16384=m/16384:=Kq r1;have w1:IntKind.i64.wrap (m/16384)=m/16384:=aa;have w2:IntKind.i64.wrap (m%16384)=m%16384:=aa;have w3:IntKind.i64.wrap (16384-m%16384)=16384-m%16384:=aa;have cf:=N2 (m%16384) (by omega) (by omega);have cg:=N2 (16384-m%16384) (by omega) (by omega)
 have key:m/16384=0∨m/16384=1∨m/16384=2∨m/16384=3:=by omega
 rcases key with hk|hk|hk|hk
 .have hf:qN m=fG (m%16384):=by simp[qN,hk]
  rw[hf];generalize fG (m%16384)=y at *;refine Dp Tryz.func332 ?_;intro C hP hN;simp only[Tryz.f332]at hN|-;exact Gy
 .have hf:qN m=fG (16384-m%16384):=by simp[qN,hk]
  rw[hf];generalize fG (16384-m%16384)=y at *;refine Dp Tryz.func332 ?_;intro C hP hN;simp only[Tryz.f332]at hN|-;exact Gy
 .have hf:qN m=iX (fG (m%16384)):=by simp[qN,hk]
  rw[hf];generalize fG (m%16384)=y at *;refine Dp Tryz.func332 ?_;intro C hP hN;simp only[Tryz.f332]at hN|-;have q1:=@JZ;exact GS (gA t1 (gA t2 (gA w1 (gA w2 (gA w3 hk)))))
 .have hf:qN m=iX (fG (16384-m%16384)):=by simp[qN,hk]
  rw[hf];generalize fG (16384-m%16384)=y at *;refine Dp Tryz.func332 ?_;intro C hP hN;simp only[Tryz.f332]at hN|-;have q1:=@JZ;exact GS (gA t1 (gA t2 (gA w1 (gA w2 (gA w3 hk)))))
def vG(a:Int):Iv:=pH (a%65536+16384)
theorem RF(a:Int):ab Tryz.prog 331 [.pv (Z a)] [] [] (.pv (aR (vG a))):=by
 have cm:=Kb a;show ab _ _ _ _ _ (.pv (aR (pH (a%65536+16384))));have r1:=Ov a (b:=65536) (by decide);have r2:=ON a (b:=65536) (by decide);generalize a%65536=m at *;have w1:IntKind.i64.wrap (m+16384)=m+16384:=aa;have cs:=N3 (m+16384);generalize pH (m+16384)=y at *;refine Dp Tryz.func331 ?_;intro C hP hN;simp only[Tryz.f331]at hN|-;exact Gy
def mZ(a:Iv)(t:Int):Bool:=ay a.1 a.2&&decide (a.1<=a.1+(t-a.1)%65536)&&decide (a.1+(t-a.1)%65536<=a.2)
theorem N4(t:Int)(h1:-2147483648<=a)(h2:a<=2147483648)(h3:-2147483648<=t)(h4:t<=2147483648):ab Tryz.prog 336 [.pv (I a b),.pv (Z t)] [] [] (.pv (B (mZ (a,b) t))):=by
 have w1:IntKind.i64.wrap (t-a)=t-a:=aa;have r1:=Ov (t-a) (b:=65536) (by decide);have r2:=ON (t-a) (b:=65536) (by decide);have w2:IntKind.i64.wrap (a+(t-a)%65536)=a+(t-a)%65536:=aa;have cm:=Kb (t-a);refine Dp Tryz.func336 ?_;intro C hP hN;simp only[Tryz.f336]at hN|-;have q1:=@Nc;refine GT (gA w1 w2) ?_
 all_goals (try simp[mZ])
def jJ(a:Iv)(v:Int->Iv)(t b:Int):Iv:=if ay a.1 a.2=false then(0,0)else if 65536<=a.2-a.1 then(-65536,65536)else
 let h:=ii (v a.1) (v a.2)
 let h1:=if mZ a t then ii h (qp 65536)else h
 if mZ a b then ii h1 (qp (-65536))else h1
theorem N5(f:FuncId)(v:Int->Iv)(t u:Int)(hf:∀x,ab Tryz.prog f [.pv (Z x)] [] [] (.pv (aR (v x))))(ht:-2147483648<=t)(ht':t<=2147483648)(hu:-2147483648<=u)(hu':u<=2147483648):ab Tryz.prog 330 [.pv (I a b),.pv (Fv f),.pv (Z t),.pv (Z u)] [] [] (.pv (aR (jJ (a,b) v t u))):=by
 cases hv:ay a b with
 |false=>
  have hr:jJ (a,b) v t u=(0,0):=by simp[jJ,hv]
  rw[hr];refine Dp Tryz.func330 ?_;intro C hP hN;simp only[Tryz.f330]at hN|-;have q1:=@kg;exact GS hv
 |true=>
  have hv':=eJ.1 hv;have w1:IntKind.i64.wrap (b-a)=b-a:=aa;have cm:=N4 (a:=a) (b:=b) t (by omega) (by omega) ht ht';have cn:=N4 (a:=a) (b:=b) u (by omega) (by omega) hu hu';have o1:ab Tryz.prog 275 [.pv (Z 65536)] [] [] (.pv (I 65536 65536)):=Bh 65536;have o2:ab Tryz.prog 275 [.pv (Z (-65536))] [] [] (.pv (I (-65536) (-65536))):=Bh (-65536);by_cases hw:65536<=b-a
  .have hr:jJ (a,b) v t u=(-65536,65536):=by simp[jJ,hv,hw]
   rw[hr];refine Dp Tryz.func330 ?_;intro C hP hN;simp only[Tryz.f330]at hN|-;have q1:=@kg;have q2:=@wL;exact GS (gA hv (gA w1 hw))
  .have hr:jJ (a,b) v t u=(let h:=ii (v a) (v b);let h1:=if mZ (a,b) t then ii h (65536,65536)else h;if mZ (a,b) u then ii h1 (-65536,-65536)else h1):=by
    have e1:qp 65536=(65536,65536):=by decide
    have e2:qp (-65536)=(-65536,-65536):=by decide
    simp[jJ,hv,hw,e1,e2]
   rw[hr];cases hm1:mZ (a,b) t<;>cases hm2:mZ (a,b) u<;>rw[hm1]at cm<;>rw[hm2]at cn
   all_goals
    refine Dp Tryz.func330 ?_;intro C hP hN;simp only[Tryz.f330]at hN|-;have q1:=@kg;have q2:=@wL;have q3:=@hf;have q4:=@Gr;exact GS (gA hv (gA w1 hw))
    all_goals (try simp)
def sB(a:Iv):Iv:=jJ a pH 16384 49152
def sC(a:Iv):Iv:=jJ a vG 0 32768
theorem RG:ab Tryz.prog 324 [.pv (I a b)] [] [] (.pv (aR (sB (a,b)))):=by
 have co:=N5 (a:=a) (b:=b) 332 pH 16384 49152 N3 (by decide) (by decide) (by decide) (by decide);refine Dp Tryz.func324 ?_;intro C hP hN;simp only[Tryz.f324]at hN|-;refine Gz ?_
 all_goals exact⟨rfl,rfl⟩
theorem RH:ab Tryz.prog 323 [.pv (I a b)] [] [] (.pv (aR (sC (a,b)))):=by
 have co:=N5 (a:=a) (b:=b) 331 vG 0 32768 RF (by decide) (by decide) (by decide) (by decide);refine Dp Tryz.func323 ?_;intro C hP hN;simp only[Tryz.f323]at hN|-;refine Gz ?_
 all_goals exact⟨rfl,rfl⟩
end Go.Ab
