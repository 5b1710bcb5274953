/- The contracts and facts that the laws of this seat need, in one text (CfB, Tr4, TrE, TrF, Tr8, Tr9, Tr10, Cf16w, Cf18w, TrG, TcS, DcS, Dc3, DcT, Dc1, Dc2, Dc5, Dc6, DcN, Ab41, DcU, AbW, TrH, Dc7, TrS, Ab42, Ab32, Dc13, TrN, TrX, KV, K1, K2). -/
import Derived.Test.YtidomjacfogjlaaGreatU6
import Derived.Laws.RangeString
import Derived.Laws.RangeAny
import Derived.LoopTactic
set_option linter.all false
set_option maxRecDepth 10000
set_option maxHeartbeats 16000000
namespace Go.Ab
open IntKind (i64)
open Go.Proofs.Tryz
open Go.Proofs
variable {C:Cx}{M:Nat->Nat->Prop}{N c d e fz i k l leaf n sz v:Nat}{P:Program}{Q:Exit->St->Prop}{a b:Int}{aft:Array Edge}{args pre ys:List PV}{ats:Array TypeId}{dst:Option Nat}{f:Operand}{far far':List Int}{g:Option (Nat×Bool)}{h:Hp}{hasF:Nat->Bool}{hn old:List Nat}{js:List J}{nb:Nat->List Nat}{near:List (List Nat)}{o:Oper}{ops:Array Oper}{p q:PV}{pos:String}{st:St}{t:Tr}{tch tch':Nat->Nat->Bool}{ty:TypeId}{w:World}{xs:List Operand}{α:Type}{ρ:Operand->AV}
def nI(b:Nat):Bool:=decide (97<=b)&&decide (b<=122)
def nJ(b:Nat):Bool:=decide (48<=b)&&decide (b<=57)
def iO(k b:Nat):Bool:=nI b||(decide (k≠0)&&(nJ b||decide (b=95)))
def fW(s:ByteArray):Bool:=(List.range s.size).all λi=>iO i (s[i]!).toNat
def jh(s:ByteArray):Bool:=decide (1<=s.size)&&decide (s.size<=16)&& !(s.toList==[119,111,114,108,100])&&fW s
theorem kn{s:ByteArray}(h:i<s.size)(a:iO i (s[i]'h).toNat=false):fW s=false:=by
 rw[fW,Vz];exact⟨i,by simpa using h,by rw[getElem!_pos s i h,a];simp⟩
theorem xi{s:ByteArray}(h:∀i(hi:i<s.size),iO i (s[i]'hi).toNat=true):fW s=true:=by
 rw[fW,TP];intro i hi
 have a:i<s.size:=by simpa using hi
 rw[getElem!_pos s i a];exact h i a
theorem wy{s:ByteArray}{pos:Nat}{hp:pos<s.size}(d:(s[pos]'hp).toNat=c)(a:iO pos c=true)(b:∀i(hi:i<s.size),i<pos->iO i (s[i]'hi).toNat=true):∀i(hi:i<s.size),i<pos+1->iO i (s[i]'hi).toNat=true:=by
 intro i hi h;by_cases e:i=pos
 .subst e;rw[d];exact a
 .exact b i hi (by omega)
set_option maxRecDepth 1000000 in
theorem Io(s:ByteArray)(w:World)(h1:¬s.size=0)(x:¬s.size>16)(y:(s.toList==[119,111,114,108,100])=false):
 Calls prog 247 #[.string s] w λe l=>e=.returned (.bool (fW s))/\(l=w\/∃pos,l=w.iter s pos):=by
 have z:((s.size:Int)==0)=false:=by simp;intro h;exact h1 (by simp[h])
 have A:¬((16:Int)<(s.size:Int)):=by omega
 go_enter func247,ntmps247
 go_wp2
 go_loopw [19] (λ_ l=>∃pos,l=w.iter s pos/\∀i(hi:i<s.size),i<pos->iO i (s[i]'hi).toNat=true) (λ_ l=>s.size-l.iterPos w.heap.size)
 case atStart=>exact⟨0,rfl,λi hi h=>by omega⟩
 case round=>
  obtain⟨pos,rfl,d⟩:=hrel;by_cases hp:pos<s.size
  .by_cases p:(s[pos]'hp).toNat<128
   .have b:∀ty,(Instr.next (.pointer (some ⟨w.heap.size,0,none⟩)) true ty).run prog (w.iter s pos)=_:=λty=>run_next_ascii w s pos ty hp p
    generalize f:(s[pos]'hp).toNat=c at b p
    have key:(97<=c/\c<=122)\/(¬97<=c/\pos=0)\/(97<=c/\¬c<=122/\pos=0)\/(¬97<=c/\¬pos=0/\48<=c/\c<=57)\/(¬97<=c/\¬pos=0/\¬48<=c)\/(¬97<=c/\¬pos=0/\¬c<=57/\c=95)\/(¬97<=c/\¬pos=0/\¬c<=57/\¬c=95)\/(97<=c/\¬c<=122/\¬pos=0):=by omega
    rcases key with⟨j,g⟩|⟨j,g⟩|⟨j,g,k⟩|⟨j,g,k,q⟩|⟨j,g,k⟩|⟨j,g,k,q⟩|⟨j,g,k,q⟩|⟨j,g,k⟩
    .have m1:(97:Int)<=(c:Int):=by omega
     have m2:(c:Int)<=122:=by omega
     go_wp2
     go_roundw
     case rel=>exact⟨pos+1,rfl,wy f (by simp[iO,nI,nJ];omega) d⟩
     case measure=>simp;omega
    .have m1:¬(97:Int)<=(c:Int):=by omega
     subst g;have a:fW s=false:=kn hp (by rw[f];simp[iO,nI,nJ];omega)
     go_wp2
     go_ret
     exact⟨by first|rfl|(rw[a];rfl),.inr ⟨_,rfl⟩⟩
    .have m1:(97:Int)<=(c:Int):=by omega
     have m2:¬(c:Int)<=122:=by omega
     subst k;have a:fW s=false:=kn hp (by rw[f];simp[iO,nI,nJ];omega)
     go_wp2
     go_ret
     exact⟨by first|rfl|(rw[a];rfl),.inr ⟨_,rfl⟩⟩
    .have m1:¬(97:Int)<=(c:Int):=by omega
     have m2:((pos:Int)==0)=false:=by simp;omega
     have m:(48:Int)<=(c:Int):=by omega
     have n:(c:Int)<=57:=by omega
     go_wp2
     go_roundw
     case rel=>exact⟨pos+1,rfl,wy f (by simp[iO,nI,nJ];omega) d⟩
     case measure=>simp;omega
    .have m1:¬(97:Int)<=(c:Int):=by omega
     have m2:((pos:Int)==0)=false:=by simp;omega
     have m:¬(48:Int)<=(c:Int):=by omega
     have n:((c:Int)!=95)=true:=by simp;omega
     have a:fW s=false:=kn hp (by rw[f];simp[iO,nI,nJ];omega)
     go_wp2
     go_ret
     exact⟨by first|rfl|(rw[a];rfl),.inr ⟨_,rfl⟩⟩
    .have m1:¬(97:Int)<=(c:Int):=by omega
     have m2:((pos:Int)==0)=false:=by simp;omega
     have m:(48:Int)<=(c:Int):=by omega
     have o:¬(c:Int)<=57:=by omega
     have n:((c:Int)!=95)=false:=by simp;omega
     go_wp2
     go_roundw
     case rel=>exact⟨pos+1,rfl,wy f (by simp[iO,nI,nJ];omega) d⟩
     case measure=>simp;omega
    .have m1:¬(97:Int)<=(c:Int):=by omega
     have m2:((pos:Int)==0)=false:=by simp;omega
     have m:(48:Int)<=(c:Int):=by omega
     have o:¬(c:Int)<=57:=by omega
     have n:((c:Int)!=95)=true:=by simp;omega
     have a:fW s=false:=kn hp (by rw[f];simp[iO,nI,nJ];omega)
     go_wp2
     go_ret
     exact⟨by first|rfl|(rw[a];rfl),.inr ⟨_,rfl⟩⟩
    .have m1:(97:Int)<=(c:Int):=by omega
     have v:¬(c:Int)<=122:=by omega
     have m2:((pos:Int)==0)=false:=by simp;omega
     have m:(48:Int)<=(c:Int):=by omega
     have o:¬(c:Int)<=57:=by omega
     have n:((c:Int)!=95)=true:=by simp;omega
     have a:fW s=false:=kn hp (by rw[f];simp[iO,nI,nJ];omega)
     go_wp2
     go_ret
     exact⟨by first|rfl|(rw[a];rfl),.inr ⟨_,rfl⟩⟩
   .have b:∀ty,(Instr.next (.pointer (some ⟨w.heap.size,0,none⟩)) true ty).run prog (w.iter s pos)=_:=λty=>run_next_any w s pos ty hp
    have r:=(decode_high s pos hp (by omega)).1;generalize(Utf8.decode s pos).1=c at b r;generalize(Utf8.decode s pos).2=B at b;have a:fW s=false:=kn hp (by simp[iO,nI,nJ];omega)
    have m1:(97:Int)<=(c:Int):=by omega
    have v:¬(c:Int)<=122:=by omega
    have m:(48:Int)<=(c:Int):=by omega
    have o:¬(c:Int)<=57:=by omega
    have n:((c:Int)!=95)=true:=by simp;omega
    by_cases u:pos=0
    .subst u
     go_wp2
     go_ret
     exact⟨by first|rfl|(rw[a];rfl),.inr ⟨_,rfl⟩⟩
    .have m2:((pos:Int)==0)=false:=by simp;omega
     go_wp2
     go_ret
     exact⟨by first|rfl|(rw[a];rfl),.inr ⟨_,rfl⟩⟩
  .have b:∀ty,(Instr.next (.pointer (some ⟨w.heap.size,0,none⟩)) true ty).run prog (w.iter s pos)=_:=λty=>run_next_end w s pos ty hp
   go_wp2
   go_ret
   exact⟨by rw[xi (λi hi=>d i hi (by omega))];rfl,.inr ⟨_,rfl⟩⟩
set_option maxRecDepth 1000000 in
theorem GX(s:ByteArray)(w:World)(h:s.size=0\/s.size>16\/(s.toList==[119,111,114,108,100])=true):
 Calls prog 247 #[.string s] w λe f=>e=.returned (.bool false)/\f=w:=by
 by_cases a:s.size=0
 .have c:((s.size:Int)==0)=true:=by simp[a]
  go_enter func247,ntmps247
  go_wp2
  go_ret
  exact⟨rfl,rfl⟩
 .have c:((s.size:Int)==0)=false:=by simp;intro h;exact a (by simp[h])
  by_cases b:s.size>16
  .have d:((16:Int)<(s.size:Int)):=by omega
   go_enter func247,ntmps247
   go_wp2
   go_ret
   exact⟨rfl,rfl⟩
  .have d:¬((16:Int)<(s.size:Int)):=by omega
   have g:(s.toList==[119,111,114,108,100])=true:=by rcases h with h|h|h<;>first|exact absurd h a|exact absurd h b|exact h
   go_enter func247,ntmps247
   go_wp2
   go_ret
   exact⟨rfl,rfl⟩
theorem xZ(s:ByteArray):aP prog 247 [.pv (.val (.string s))] [] [] (.pv (B (jh s))):=by
 refine⟨by kernel_rfl,rfl,λw M g vs C k x m f d=>?_⟩
 match vs,f with
 |[v],_=>
  have y:Rep w M (.val (.string s)) v:=d 0 _ _ rfl rfl;cases y;have a:Ext (·∈g) w w:=Ext.refl _ _;have c:∀pos,Ext (·∈g) w (w.iter s pos):=λpos=>Ext.alloc _ _ _
  have j:g=[]:=by cases g with
   |nil=>rfl
   |cons b r=>simp at k
  subst j;by_cases h:s.size=0\/s.size>16\/(s.toList==[119,111,114,108,100])=true
  .have hf:jh s=false:=by
    unfold jh;rcases h with h|h|h
    .simp[h]
    .simp;omega
    .simp[h]
   refine(GX s w h).mono ?_;rintro e A ⟨rfl,rfl⟩;exact⟨_,rfl,a,λi b n h=>by simp at h,by rw[hf];exact .val _⟩
  .have q:¬s.size=0:=λe=>h (.inl e)
   have u:¬s.size>16:=λe=>h (.inr (.inl e))
   have l:(s.toList==[119,111,114,108,100])=false:=by
    cases hq:s.toList==[119,111,114,108,100]with
    |false=>rfl
    |true=>exact absurd (.inr (.inr hq)) h
   have hf:jh s=fW s:=by
    unfold jh;rw[l]
    have o:decide (1<=s.size)=true:=by simp;omega
    have p:decide (s.size<=16)=true:=by simp;omega
    rw[o,p];simp
   refine(Io s w q u l).mono ?_;rintro e A ⟨rfl,z⟩;rcases z with rfl|⟨pos,rfl⟩
   .exact⟨_,rfl,a,λi b n h=>by simp at h,by rw[hf];exact .val _⟩
   .exact⟨_,rfl,c pos,λi b n h=>by simp at h,by rw[hf];exact .val _⟩
theorem Fy{N B:Int}(hN:0<N)(h1:-B<=a)(b:a<=B):-B<=a/N/\a/N<=B:=by
 have c:0<=B:=by omega
 constructor
 .have:(-B)*N<=a:=by
   have:(-B)*N<=(-B)*1:=Int.mul_le_mul_of_nonpos_left (by omega) (by omega);omega
  exact(Wp hN).2 this
 .have:a/N<B+1:=(Wq hN).2 (by
   have:(B+1)*1<=(B+1)*N:=U8 (by omega) (by omega)
   omega)
  omega
def zl(x:Int):Prop:=-2147483648<=x/\x<=2147483648
def Ip(x:AV)(fb:Option cK):Option cK:=match x with
 |.pv (.val (.string s))=>some (.pv (Z s.size),[])
 |_=>fb
@[simp] theorem OE(s:ByteArray)(fb:Option cK):Ip (.pv (.val (.string s))) fb=some (.pv (Z s.size),[]):=rfl
theorem KJ(x:Operand)(s:ByteArray):
 bz prog ⟨dst,.call ⟨.builtin .len,#[x],#[9]⟩,ty,pos,aft,g⟩ (λ_=>.pv (.val (.string s)))=some (.pv (Z s.size),[]):=by kernel_rfl
@[simp] theorem SI(x:Operand):
 bz prog ⟨dst,.call ⟨.builtin .len,#[x],#[9]⟩,ty,pos,aft,g⟩ ρ=Ip (ρ x) (jq prog ⟨dst,.call ⟨.builtin .len,#[x],#[9]⟩,ty,pos,aft,g⟩ ρ):=by
 unfold Ip;split
 .rename_i s b
  rw[<-KJ (dst:=dst) (ty:=ty) (pos:=pos) (aft:=aft) (g:=g) x s];refine qT (by intro _ _ h;cases h) ?_;intro y a;simp[Op.operands,Call.operands]at a;subst a;exact b
 .rfl
theorem zm:(ByteArray.mk #[119,111,114,108,100]).toList=[119,111,114,108,100]:=by decide +kernel
theorem Iq{s:ByteArray}(h:i<s.size):s[i]?=some (s[i]'h):=by simp[h]
theorem LX(s:ByteArray):aR 161 (.val (.string s)) (B (jh s)):=by
 by_cases u:s.size<1
 .have hf:jh s=false:=by unfold jh;simp;omega
  have g:(s.size:Int)<1:=by omega
  rw[hf];refine Dp func161 λC hP hN=>?_;exact Gy
 have g:¬(s.size:Int)<1:=by omega
 by_cases v:16<s.size
 .have hf:jh s=false:=by unfold jh;simp;omega
  have j:(16:Int)<s.size:=by omega
  rw[hf];refine Dp func161 λC hP hN=>?_;exact Gy
 have j:¬(16:Int)<s.size:=by omega
 cases l:s.toList==[119,111,114,108,100]with
 |true=>
  have hf:jh s=false:=by unfold jh;simp[l]
  have m:(s.toList==(ByteArray.mk #[119,111,114,108,100]).toList)=true:=by rw[zm];exact l
  rw[hf];refine Dp func161 λC hP hN=>?_;exact Gy
 |false=>
  have hf:jh s=fW s:=by
   unfold jh;rw[l]
   have q:decide (1<=s.size)=true:=by simp;omega
   have r:decide (s.size<=16)=true:=by simp;omega
   rw[q,r];simp
  have m:(s.toList==(ByteArray.mk #[119,111,114,108,100]).toList)=false:=by rw[zm];exact l
  rw[hf];refine Dp func161 λC hP hN=>?_;refine Gz ?_;refine WP.loopN [] s.size (λi st=>st.t 0=.pv (.val (.string s))/\st.t 3=.pv (Z i)/\∀k(n:k<s.size),k<i->iO k (s[k]'n).toNat=true) (by simp) ?_;rintro i st hi ⟨g0,g3,f⟩;by_cases c:i<s.size
  .have p:i64.wrap ((i:Int)+1)=(i:Int)+1:=by rw[IntKind.wrap_i64];omega
   have e:(i:Int)<s.size:=by omega
   have o:=Iq c;have d:iO i (s[i]'c).toNat=false->fW s=false:=kn c;have a:iO i (s[i]'c).toNat=true->∀k(n:k<s.size),k<i+1->iO k (s[k]'n).toNat=true:=λh=>wy rfl h f;generalize s[i]'c=b at d a o
   with_reducible repeat' (first|refine Sp.h ?_|((first|refine Ss.h ?_|(refine Sb.h ?_ ?_ ?_<;>(try intro hgd)<;>try exact Xy))<;>simp -implicitDefEqProofs (maxSteps:=2000000) [hP,hN,g0,g3,e,o,p])|refine X2 ?_ ?_|(refine Xd ?_ ?_<;>intro hcd<;>try exact Xx))
   all_goals clear p hP hN g0 g3 o f l m hf u g v j
   all_goals first|(refine d ?_;clear d a;simp[iO,nI,nJ]at *;done)|(refine d ?_;clear d a;simp[iO,nI,nJ]at *;omega)|(refine⟨c,a ?_⟩;clear d a;simp[iO,nI,nJ]at *;done)|(refine⟨c,a ?_⟩;clear d a;simp[iO,nI,nJ]at *;omega)
  .have e:¬(i:Int)<s.size:=by omega
   refine Gz ?_;exact xi (λk n=>f k n (by omega))
def fU(x m:Int):Bool:=decide (-m<=x)&&decide (x<=m)
def fS(x y z m:Int):Bool:=fU x m&&fU y m&&fU z m
abbrev nK(x y z:Int):PV:=.val (.agg #[.int .i64 x,.int .i64 y,.int .i64 z])
theorem A0:i64.wrap 1=1:=by decide
theorem A1:i64.wrap 2=2:=by decide
theorem A3:i64.wrap 3=3:=by decide
theorem LY(h:i<=3):i=0\/i=1\/i=2\/i=3:=by omega
theorem Fz(x y z:Int):aR 249 (nK x y z) (B (!fS x y z 4194304)):=by
 refine Dp func249 λC hP hN=>?_;refine Gz ?_;refine WP.loopN [] 3 (λi st=>st.t 5=.pv (nK x y z)/\st.t 6=.pv (Z i)/\(0<i->fU x 4194304=true)/\(1<i->fU y 4194304=true)/\(2<i->fU z 4194304=true)) (by simp) ?_;rintro i st hi ⟨h5,h6,a,b,c⟩;rcases LY hi with rfl|rfl|rfl|rfl
 .skip
  with_reducible repeat' (first|refine Sp.h ?_|((first|refine Ss.h ?_|(refine Sb.h ?_ ?_ ?_<;>(try intro hgd)<;>try exact Xy))<;>simp -implicitDefEqProofs (maxSteps:=2000000) [hP,hN,h5,h6])|refine X2 ?_ ?_|(refine Xd ?_ ?_<;>intro hcd<;>try exact Xx))
  all_goals (simp[fS,fU,A0,A1,A3]at *;first|omega|grind)
 .skip
  with_reducible repeat' (first|refine Sp.h ?_|((first|refine Ss.h ?_|(refine Sb.h ?_ ?_ ?_<;>(try intro hgd)<;>try exact Xy))<;>simp -implicitDefEqProofs (maxSteps:=2000000) [hP,hN,h5,h6])|refine X2 ?_ ?_|(refine Xd ?_ ?_<;>intro hcd<;>try exact Xx))
  all_goals (simp[fS,fU,A0,A1,A3]at *;first|omega|grind)
 .skip
  with_reducible repeat' (first|refine Sp.h ?_|((first|refine Ss.h ?_|(refine Sb.h ?_ ?_ ?_<;>(try intro hgd)<;>try exact Xy))<;>simp -implicitDefEqProofs (maxSteps:=2000000) [hP,hN,h5,h6])|refine X2 ?_ ?_|(refine Xd ?_ ?_<;>intro hcd<;>try exact Xx))
  all_goals (simp[fS,fU,A0,A1,A3]at *;first|omega|grind)
 .skip
  refine Gz ?_
  all_goals (simp[fS,fU,A0,A1,A3]at *;first|omega|grind)
theorem vm(x y z m:Int)(g:0<=m)(f:m<4611686018427387904):aK 88 (nK x y z) (Z m) (B (fS x y z m)):=by
 have e:i64.wrap (0-m)=-m:=(aa (n:=0-m) (by omega) (by omega)).trans (by omega);have a:i64.wrap (-m)=-m:=aa;refine Dp func88 λC hP hN=>?_;refine Gz ?_;refine WP.loopN [] 3 (λi st=>st.t 1=.pv (Z m)/\st.t 2=.ptr 2 0/\st.h 2=some (.box [.pv (Z x),.pv (Z y),.pv (Z z)] true false)/\st.t 5=.pv (Z i)/\(0<i->fU x m=true)/\(1<i->fU y m=true)/\(2<i->fU z m=true)) (by simp) ?_;rintro i st hi ⟨b,c,d,h5,j,k,l⟩;rcases LY hi with rfl|rfl|rfl|rfl
 .skip
  with_reducible repeat' (first|refine Sp.h ?_|((first|refine Ss.h ?_|(refine Sb.h ?_ ?_ ?_<;>(try intro hgd)<;>try exact Xy))<;>simp -implicitDefEqProofs (maxSteps:=2000000) [hP,hN,b,c,d,h5,e,a])|refine X2 ?_ ?_|(refine Xd ?_ ?_<;>intro hcd<;>try exact Xx))
  all_goals (simp[fS,fU,A0,A1,A3]at *;first|omega|grind)
 .skip
  with_reducible repeat' (first|refine Sp.h ?_|((first|refine Ss.h ?_|(refine Sb.h ?_ ?_ ?_<;>(try intro hgd)<;>try exact Xy))<;>simp -implicitDefEqProofs (maxSteps:=2000000) [hP,hN,b,c,d,h5,e,a])|refine X2 ?_ ?_|(refine Xd ?_ ?_<;>intro hcd<;>try exact Xx))
  all_goals (simp[fS,fU,A0,A1,A3]at *;first|omega|grind)
 .skip
  with_reducible repeat' (first|refine Sp.h ?_|((first|refine Ss.h ?_|(refine Sb.h ?_ ?_ ?_<;>(try intro hgd)<;>try exact Xy))<;>simp -implicitDefEqProofs (maxSteps:=2000000) [hP,hN,b,c,d,h5,e,a])|refine X2 ?_ ?_|(refine Xd ?_ ?_<;>intro hcd<;>try exact Xx))
  all_goals (simp[fS,fU,A0,A1,A3]at *;first|omega|grind)
 .skip
  refine Gz ?_
  all_goals (simp[fS,fU,A0,A1,A3]at *;first|omega|grind)
def bf(x a b:Int):Bool:=decide (a<=x)&&decide (x<=b)
theorem LZ(x m:Int):aK 251 (Z x) (Z m) (B (bf x 1 m)):=by
 refine Dp func251 λC hP hN=>?_
 with_reducible repeat' (first|refine Sp.h ?_|((first|refine Ss.h ?_|(refine Sb.h ?_ ?_ ?_<;>(try intro hgd)<;>try exact Xy))<;>simp -implicitDefEqProofs (maxSteps:=2000000) [hP,hN])|refine X2 ?_ ?_|(refine Xd ?_ ?_<;>intro hcd<;>try exact Xx))
 all_goals (first|(simp_all[bf];done)|((try simp_all[bf])<;>(try omega)<;>grind))
theorem JZ(x a b:Int):kY 87 (Z x) (Z a) (Z b) (B (bf x a b)):=by
 refine Dp func87 λC hP hN=>?_
 with_reducible repeat' (first|refine Sp.h ?_|((first|refine Ss.h ?_|(refine Sb.h ?_ ?_ ?_<;>(try intro hgd)<;>try exact Xy))<;>simp -implicitDefEqProofs (maxSteps:=2000000) [hP,hN])|refine X2 ?_ ?_|(refine Xd ?_ ?_<;>intro hcd<;>try exact Xx))
 all_goals (first|(simp_all[bf];done)|((try simp_all[bf])<;>(try omega)<;>grind))
def zn(k:Int):Int:=if k=1\/k=2\/k=3 then 524288 else if k=4\/k=5\/k=6 then 4194304 else 0
def dL(k:Int):Int:=if k=0 then 0 else if k=1\/k=2\/k=3 then 524288 else 4194304
theorem PC(k:Int):aR 250 (Z k) (Z (zn k)):=by
 refine Dp func250 λC hP hN=>?_
 with_reducible repeat' (first|refine Sp.h ?_|((first|refine Ss.h ?_|(refine Sb.h ?_ ?_ ?_<;>(try intro hgd)<;>try exact Xy))<;>simp -implicitDefEqProofs (maxSteps:=2000000) [hP,hN])|refine X2 ?_ ?_|(refine Xd ?_ ?_<;>intro hcd<;>try exact Xx))
 all_goals (simp[zn]at *;first|omega|grind)
theorem L5(k:Int):aR 162 (Z k) (Z (dL k)):=by
 refine Dp func162 λC hP hN=>?_
 with_reducible repeat' (first|refine Sp.h ?_|((first|refine Ss.h ?_|(refine Sb.h ?_ ?_ ?_<;>(try intro hgd)<;>try exact Xy))<;>simp -implicitDefEqProofs (maxSteps:=2000000) [hP,hN])|refine X2 ?_ ?_|(refine Xd ?_ ?_<;>intro hcd<;>try exact Xx))
 all_goals (simp[dL]at *;first|omega|grind)
theorem D0{k:Int}(a:0<=k)(h6:k<=6):zn k=dL k:=by
 have:k=0\/k=1\/k=2\/k=3\/k=4\/k=5\/k=6:=by omega
 rcases this with rfl|rfl|rfl|rfl|rfl|rfl|rfl<;>rfl
def kT(a b:ByteArray):Bool:=a.toList==b.toList
theorem PD(js:List J)(ms:List Ms)(name:ByteArray)(f:js.length<=9223372036854775807):aK 248 (iN js ms) (.val (.string name)) (Z (oh (λj=>kT j.name name) js)):=by
 refine Dp func248 λC hP hN=>?_;refine Gz ?_;refine WP.loopN [] js.length (λi st=>st.t 1=.pv (.val (.string name))/\st.t 2=.ptr 2 0/\st.h 2=some (.box [.pv (.sl (js.map bu)),.pv (.sl (ms.map cG))] true false)/\st.t 8=.pv (Z js.length)/\st.t 9=.pv (Z i)/\∀j x,j<i->js[j]?=some x->kT x.name name=false) (by simp) ?_;rintro i st hi ⟨b,c,e,h8,d,hq⟩;by_cases a:i<js.length
 .have g:=aj a f
  with_reducible repeat' (first|refine Sp.h ?_|((first|refine Ss.h ?_|(refine Sb.h ?_ ?_ ?_<;>(try intro hgd)<;>try exact Xy))<;>simp -implicitDefEqProofs (maxSteps:=2000000) [hP,hN,b,c,e,h8,d,a,g])|refine X2 ?_ ?_|(refine Xd ?_ ?_<;>intro hcd<;>try exact Xx))
  .exact(qe a hq hcd).symm
  .simpa using pf a hq hcd
 .skip
  refine Gz ?_;exact(vh (xY a hq)).symm
def qW(js:List J)(i:Nat)(name:ByteArray):Bool:=(js.take i).any λj=>kT j.name name
theorem Ir(h:i<js.length):(oh (λj=>kT j.name js[i].name) js !=(i:Int))=qW js i js[i].name:=by
 have o:kT js[i].name js[i].name=true:=by simp[kT]
 cases hd:qW js i js[i].name with
 |false=>
  have:oh (λj=>kT j.name js[i].name) js=i:=qe h (λj x l g=>by
   rw[qW,VO]at hd;have n:x∈js.take i:=Is (by rw[Uu,T8 l];exact g)
   simpa using hd x n) o
  rw[this];simp
 |true=>
  rw[qW,VX]at hd;obtain⟨x,g,hp⟩:=hd;obtain⟨k,b⟩:=UB g;rw[Uu]at b;split at b
  .rename_i d
   simp only[bne_iff_ne,ne_eq];intro a;unfold oh at a
   cases hf:js.findIdx? (λj=>kT j.name js[i].name)with
   |none=>
    rw[hf]at a;simp at a
   |some m=>
    rw[hf]at a;have c:(m:Int)=(i:Int):=a
    have a:m=i:=by omega
    clear c;subst a;rw[Wf]at hf;obtain⟨p,_,f⟩:=hf;have e:=(th.1 b);have:=f k d;rw[e.2]at this;exact this hp
  .cases b
def cD(js:List J)(i:Nat)(j:J):Int:=
 if(!jh j.name||qW js i j.name)=true then 802 else if j.kind<0\/6<j.kind then 803 else if j.parent< -1\/(i:Int)<=j.parent then 804 else if fS j.ox j.oy j.oz 4194304=false then 805
 else if j.hi<j.lo\/j.lo< -dL j.kind\/dL j.kind<j.hi then 806 else if(bf j.w 1 1024&&bf j.sp 1 1048576&&bf j.ac 1 1048576&&bf j.tq 1 1099511627776)=false then 807 else 0
theorem sj(k:Int):0<=dL k/\dL k<=4194304:=by unfold dL;repeat' split
                                             all_goals omega
theorem L6(js:List J)(ms:List Ms)(i:Nat)(A:js.length<=9223372036854775807)(hi:i<js.length):aK 185 (iN js ms) (Z i) (Z (cD js i js[i])):=by
 have d:=an hi;have a:=Ir hi;have e:=PD js ms js[i].name A;generalize b:js[i]=j at d a e|-;have B:=sj j.kind;have l:i64.wrap (0-dL j.kind)=-dL j.kind:=(aa (n:=0-dL j.kind) (by omega) (by omega)).trans (by omega);have c:i64.wrap (-dL j.kind)=-dL j.kind:=aa;generalize oh (λk=>kT k.name j.name) js=q at a e;refine Dp func185 λC hP hN=>?_
 cases hn:jh j.name with
 |false=>
  have v:=@xZ;refine GT (f7 d b hn hi) ?_
  all_goals simp[cD,hn]
 |true=>
  cases hd:qW js i j.name with
  |true=>
   rw[hd]at a;have v:=@xZ;refine GT (go d b hn hi a) ?_
   all_goals simp[cD,hn,hd]
  |false=>
   rw[hd]at a;by_cases g:j.kind<0\/6<j.kind
   .skip
    with_reducible repeat' (first|refine Sp.h ?_|((first|refine Ss.h ?_|refine Sc.h (xZ _) ?_|refine Sc.h (e) ?_|(refine Sb.h ?_ ?_ ?_<;>(try intro hgd)<;>try exact Xy))<;>simp -implicitDefEqProofs (maxSteps:=2000000) [hP,hN,d,b,hn,hi,a])|refine X2 ?_ ?_|(refine Xd ?_ ?_<;>intro hcd<;>try exact Xx))
    all_goals (first|(simp[cD,hn,hd,g];done)|(exfalso;simp at *;omega))
   .have p:zn j.kind=dL j.kind:=D0 (by omega) (by omega)
    have cl:=PC j.kind;rw[p]at cl
    have m:¬j.kind<0:=by omega
    have o:¬6<j.kind:=by omega
    by_cases hp:j.parent< -1\/(i:Int)<=j.parent
    .skip
     with_reducible repeat' (first|refine Sp.h ?_|((first|refine Ss.h ?_|refine Sc.h (xZ _) ?_|refine Sc.h (e) ?_|(refine Sb.h ?_ ?_ ?_<;>(try intro hgd)<;>try exact Xy))<;>simp -implicitDefEqProofs (maxSteps:=2000000) [hP,hN,d,b,hn,hi,a,m,o])|refine X2 ?_ ?_|(refine Xd ?_ ?_<;>intro hcd<;>try exact Xx))
     all_goals (first|(simp[cD,hn,hd,g,hp];done)|(exfalso;simp at *;omega))
    .have r:¬j.parent< -1:=by omega
     have s:¬(i:Int)<=j.parent:=by omega
     cases f:fS j.ox j.oy j.oz 4194304 with
     |false=>
      have v:=@xZ;have D:=@Fz;refine GT (s6 d b hn hi a m o r s f) ?_
      all_goals (simp[cD,hn,hd,g,hp,f])
     |true=>
      by_cases u:j.hi<j.lo\/j.lo< -dL j.kind\/dL j.kind<j.hi
      .skip
       with_reducible repeat' (first|refine Sp.h ?_|((first|refine Ss.h ?_|refine Sc.h (xZ _) ?_|refine Sc.h (e) ?_|refine Sc.h (Fz _ _ _) ?_|refine Sc.h (cl) ?_|(refine Sb.h ?_ ?_ ?_<;>(try intro hgd)<;>try exact Xy))<;>simp -implicitDefEqProofs (maxSteps:=2000000) [hP,hN,d,b,hn,hi,a,m,o,r,s,f,l,c])|refine X2 ?_ ?_|(refine Xd ?_ ?_<;>intro hcd<;>try exact Xx))
       all_goals (first|(simp[cD,hn,hd,g,hp,f,u];done)|(exfalso;simp at *;omega))
      .have x:¬j.hi<j.lo:=by omega
       have y:¬j.lo< -dL j.kind:=by omega
       have z:¬dL j.kind<j.hi:=by omega
       with_reducible repeat' (first|refine Sp.h ?_|((first|refine Ss.h ?_|refine Sc.h (xZ _) ?_|refine Sc.h (e) ?_|refine Sc.h (Fz _ _ _) ?_|refine Sc.h (cl) ?_|refine Sc.h (LZ _ _) ?_|(refine Sb.h ?_ ?_ ?_<;>(try intro hgd)<;>try exact Xy))<;>simp -implicitDefEqProofs (maxSteps:=2000000) [hP,hN,d,b,hn,hi,a,m,o,r,s,f,l,c,x,y,z])|refine X2 ?_ ?_|(refine Xd ?_ ?_<;>intro hcd<;>try exact Xx))
       all_goals (rw[cD,TQ (by simp[hn,hd]),TQ g,TQ hp,TQ (by simp[f]),TQ u];simp_all)
abbrev PE(j:J):List AV:=[.pv (.val (.string j.name)),.pv (Z j.kind),.pv (Z j.parent),.pv (Z j.ox),.pv (Z j.oy),.pv (Z j.oz),.pv (Z j.lo),.pv (Z j.hi),.pv (Z j.w),.pv (Z j.sp),.pv (Z j.ac),.pv (Z j.tq)]
theorem KK{n:ByteArray}(a:k<i)(b:k<js.length)(h:kT js[k].name n=true):qW js i n=true:=by
 rw[qW,VX];exact⟨js[k],Is (i:=k) (by rw[Uu,T8 a];exact an b),h⟩
theorem GY{n:ByteArray}(h:∀m x,m<i->js[m]?=some x->kT x.name n=false):qW js i n=false:=by
 rw[qW,VO];intro x c;obtain⟨m,a⟩:=UB c;rw[Uu]at a;split at a
 .rename_i b;simp[h m x b a]
 .cases a
theorem OF(js:List J)(i:Nat)(G:js.length<=9223372036854775807)(hi:i<js.length):aK 86 (.sl (js.map bu)) (Z i) (Z (cD js i js[i])):=by
 have v:=an hi;generalize l:js[i]=j at v|-;have I:=sj j.kind;have g:i64.wrap (0-dL j.kind)=-dL j.kind:=(aa (n:=0-dL j.kind) (by omega) (by omega)).trans (by omega);have c:i64.wrap (-dL j.kind)=-dL j.kind:=aa;refine Dp func86 λC hP hN=>?_
 cases hn:jh j.name with
 |false=>
  have H:=@LX;refine GT (f7 v l hn hi) ?_
  all_goals simp[cD,hn]
 |true=>
  have H:=@LX;refine GT (f7 v l hn hi) ?_;refine WP.loopN [] i (λk st=>st.t 0=.pv (.sl (js.map bu))/\st.t 1=.pv (Z i)/\st.t 5=.ptr 5 0/\st.h 5=some (.box (PE j) true false)/\st.t 6=.pv (Z k)/\∀m x,m<k->js[m]?=some x->kT x.name j.name=false) (by simp) ?_;rintro k st d ⟨g0,g1,g5,a,f,hq⟩;by_cases s:k<i
  .have b:k<js.length:=by omega
   have K:=aj b G
   have B:(k:Int)<(i:Int):=by omega
   cases o:kT js[k].name j.name with
   |true=>
    have u:(js[k].name.toList==j.name.toList)=true:=o;have hd:=KK s b o;refine Gz ?_
    all_goals simp[cD,hn,hd]
   |false=>
    have u:(js[k].name.toList==j.name.toList)=false:=o;refine Gz ?_
    all_goals simpa using pf b hq o
  .have r:k=i:=by omega
   subst r;have hd:=GY hq;by_cases d:j.kind<0\/6<j.kind
   .skip
    with_reducible repeat' (first|refine Sp.h ?_|((first|refine Wd ?_|refine Ss.h ?_|(refine Sb.h ?_ ?_ ?_<;>(try intro hgd)<;>try exact Xy))<;>simp -implicitDefEqProofs (maxSteps:=2000000) [hP,hN,g0,g1,g5,a,f]<;>try refine Ya ?_)|refine X2 ?_ ?_|(refine Xd ?_ ?_<;>intro hcd<;>try exact Xx))
    all_goals (first|(simp[cD,hn,hd,d];done)|(exfalso;simp at *;omega))
   .have p:¬j.kind<0:=by omega
    have q:¬6<j.kind:=by omega
    by_cases hp:j.parent< -1\/(k:Int)<=j.parent
    .skip
     with_reducible repeat' (first|refine Sp.h ?_|((first|refine Wd ?_|refine Ss.h ?_|(refine Sb.h ?_ ?_ ?_<;>(try intro hgd)<;>try exact Xy))<;>simp -implicitDefEqProofs (maxSteps:=2000000) [hP,hN,g0,g1,g5,a,f,p,q]<;>try refine Ya ?_)|refine X2 ?_ ?_|(refine Xd ?_ ?_<;>intro hcd<;>try exact Xx))
     all_goals (first|(simp[cD,hn,hd,d,hp];done)|(exfalso;simp at *;omega))
    .have y:¬j.parent< -1:=by omega
     have z:¬(k:Int)<=j.parent:=by omega
     cases e:fS j.ox j.oy j.oz 4194304 with
     |false=>
      with_reducible repeat' (first|refine Sp.h ?_|((first|refine Wd ?_|refine Ss.h ?_|refine Sc.h (vm _ _ _ _ (by decide) (by decide)) ?_|(refine Sb.h ?_ ?_ ?_<;>(try intro hgd)<;>try exact Xy))<;>simp -implicitDefEqProofs (maxSteps:=2000000) [hP,hN,g0,g1,g5,a,f,p,q,y,z,e]<;>try refine Ya ?_)|refine X2 ?_ ?_|(refine Xd ?_ ?_<;>intro hcd<;>try exact Xx))
      all_goals (simp[cD,hn,hd,d,hp,e])
     |true=>
      by_cases A:j.hi<j.lo\/j.lo< -dL j.kind\/dL j.kind<j.hi
      .skip
       with_reducible repeat' (first|refine Sp.h ?_|((first|refine Wd ?_|refine Ss.h ?_|refine Sc.h (vm _ _ _ _ (by decide) (by decide)) ?_|refine Sc.h (L5 _) ?_|(refine Sb.h ?_ ?_ ?_<;>(try intro hgd)<;>try exact Xy))<;>simp -implicitDefEqProofs (maxSteps:=2000000) [hP,hN,g0,g1,g5,a,f,p,q,y,z,e,g,c]<;>try refine Ya ?_)|refine X2 ?_ ?_|(refine Xd ?_ ?_<;>intro hcd<;>try exact Xx))
       all_goals (first|(simp[cD,hn,hd,d,hp,e,A];done)|(exfalso;simp at *;omega))
      .have D:¬j.hi<j.lo:=by omega
       have E:¬j.lo< -dL j.kind:=by omega
       have F:¬dL j.kind<j.hi:=by omega
       with_reducible repeat' (first|refine Sp.h ?_|((first|refine Wd ?_|refine Ss.h ?_|refine Sc.h (vm _ _ _ _ (by decide) (by decide)) ?_|refine Sc.h (L5 _) ?_|refine Sc.h (JZ _ _ _) ?_|(refine Sb.h ?_ ?_ ?_<;>(try intro hgd)<;>try exact Xy))<;>simp -implicitDefEqProofs (maxSteps:=2000000) [hP,hN,g0,g1,g5,a,f,p,q,y,z,e,g,c,D,E,F]<;>try refine Ya ?_)|refine X2 ?_ ?_|(refine Xd ?_ ?_<;>intro hcd<;>try exact Xx))
       all_goals (rw[cD,TQ (by simp[hn,hd]),TQ d,TQ hp,TQ (by simp[e]),TQ A];simp_all)
def f8(n:Nat)(m:Ms):Bool:=decide (0<=m.link)&&decide (m.link<n)&&bf m.mass 1 65536&&fS m.px m.py m.pz 4194304
theorem PF(js:List J)(ms:List Ms)(m:Ms):aK 188 (iN js ms) (cG m) (B (f8 js.length m)):=by
 refine Dp func188 λC hP hN=>?_
 with_reducible repeat' (first|refine Sp.h ?_|((first|refine Ss.h ?_|refine Sc.h (LZ _ _) ?_|refine Sc.h (Fz _ _ _) ?_|(refine Sb.h ?_ ?_ ?_<;>(try intro hgd)<;>try exact Xy))<;>simp -implicitDefEqProofs (maxSteps:=2000000) [hP,hN])|refine X2 ?_ ?_|(refine Xd ?_ ?_<;>intro hcd<;>try exact Xx))
 all_goals (simp_all[f8]<;>omega)
theorem PG(js:List J)(ms:List Ms)(m:Ms):aK 187 (cG m) (.rptr (iN js ms) 0) (B (!f8 js.length m)):=by
 refine Dp func187 λC hP hN=>?_;have a:=@PF;exact GS trivial
theorem PH(f:FuncId)(c:PV)(p:Ms->Bool)(xs:List Ms)(e:xs.length<=9223372036854775807)(hf:∀x,aP prog f [.pv (cG x),.pv (.rptr c 0)] [] [] (.pv (B (p x)))):aK 252 (.sl (xs.map cG)) (.fn (.func f) [] [.rptr c 0]) (Z (oh p xs)):=by
 refine Dp func252 λC hP hN=>?_;refine Gz ?_;refine WP.loopN [] xs.length (λi st=>st.t 0=.pv (.sl (xs.map cG))/\st.t 1=.pv (.fn (.func f) [] [.rptr c 0])/\st.t 7=.pv (Z xs.length)/\st.t 8=.pv (Z i)/\∀j x,j<i->xs[j]?=some x->p x=false) (by simp) ?_;rintro i st hi ⟨b,d,h7,h8,hq⟩;by_cases a:i<xs.length
 .have g:=aj a e
  with_reducible repeat' (first|refine Sp.h ?_|((first|refine Ss.h ?_|refine Sc.h (hf _) ?_|(refine Sb.h ?_ ?_ ?_<;>(try intro hgd)<;>try exact Xy))<;>simp -implicitDefEqProofs (maxSteps:=2000000) [hP,hN,b,d,h7,h8,a,g])|refine X2 ?_ ?_|(refine Xd ?_ ?_<;>intro hcd<;>try exact Xx))
  .exact(qe a hq hcd).symm
  .simpa using pf a hq hcd
 .skip
  refine Gz ?_;exact(vh (xY a hq)).symm
theorem PI(f:FuncId)(c:PV)(p:Ms->Bool)(xs:List Ms)(a:xs.length<=9223372036854775807)(hf:∀x,aP prog f [.pv (cG x),.pv (.rptr c 0)] [] [] (.pv (B (p x)))):aK 186 (.sl (xs.map cG)) (.fn (.func f) [] [.rptr c 0]) (B (xs.any p)):=by
 refine Dp func186 λC hP hN=>?_;have b:=PH _ _ _ _ a hf;refine GT trivial ?_
 all_goals (first|(simp_all[tO];done)|((try simp_all[tO])<;>(try omega)<;>grind))
def jb(js:List J):Int:=match(js.mapIdx (cD js)).find? (λe=>e !=0)with
 |some e=>e
 |none=>0
theorem ph(js:List J):jb js=match(js.mapIdx (cD js)).find? (λe=>e !=0)with
 |some e=>e
 |none=>0:=rfl
theorem xj(b:i<js.length)(hq:∀k x,k<i->js[k]?=some x->cD js k x=0)(c:cD js i js[i]≠0):jb js=cD js i js[i]:=by
 rw[ph]
 have:(js.mapIdx (cD js)).find? (λe=>e !=0)=some (cD js i js[i]):=by
  rw[Wu];refine⟨by simpa using c,i,by simpa using b,by simp,λk d=>?_⟩
  have a:k<js.length:=by omega
  simp[hq k js[k] d (an a)]
 rw[this]
theorem tT(hq:∀(k:Nat) x,js[k]?=some x->cD js k x=0):jb js=0:=by
 rw[ph]
 have:(js.mapIdx (cD js)).find? (λe=>e !=0)=none:=by
  rw[Vb];intro e a;simp only[List.mem_mapIdx]at a;obtain⟨i,hi,rfl⟩:=a;simp[hq i js[i] (an hi)]
 rw[this]
theorem Cy(b:i<js.length)(hq:∀k x,k<i->js[k]?=some x->cD js k x=0)(c:cD js i js[i]=0):∀k x,k<i+1->js[k]?=some x->cD js k x=0:=by
 intro k x d a;by_cases e:k=i
 .subst e;rw[an b]at a;injection a with a;subst a;exact c
 .exact hq k x (by omega) a
def aW(js:List J)(ms:List Ms):Int:=if js.length=0\/10<js.length then 801 else if jb js≠0 then jb js else if(decide (32<ms.length)||ms.any λm=>!f8 js.length m)=true then 808 else 0
theorem sq(js:List J)(ms:List Ms)(v:js.length<=9223372036854775807)(E:ms.length<=9223372036854775807):aR 108 (iN js ms) (Z (aW js ms)):=by
 by_cases o:js.length=0
 .have s:aW js ms=801:=by simp[aW,o]
  have p:js=[]:=Uy o;rw[s];subst p;refine Dp func108 λC hP hN=>?_;exact Gy
 have G:((js.length:Int)==0)=false:=by simp;intro h;exact o (by rw[h];rfl)
 by_cases D:10<js.length
 .have s:aW js ms=801:=by simp[aW,D]
  have q:(10:Int)<js.length:=by omega
  rw[s];refine Dp func108 λC hP hN=>?_;exact Gy
 have q:¬(10:Int)<js.length:=by omega
 have u:aW js ms=if jb js≠0 then jb js else if(decide (32<ms.length)||ms.any λm=>!f8 js.length m)=true then 808 else 0:=by
  unfold aW;rw[TQ (by omega)]
 rw[u];generalize y:(if(decide (32<ms.length)||ms.any λm=>!f8 js.length m)=true then(808:Int)else 0)=r;refine Dp func108 λC hP hN=>?_;refine Gz ?_;refine WP.loopN [] js.length (λi st=>st.t 1=.ptr 1 0/\st.h 1=some (.box [.pv (.sl (js.map bu)),.pv (.sl (ms.map cG))] true false)/\st.t 17=.pv (Z js.length)/\st.t 18=.pv (Z i)/\∀k x,k<i->js[k]?=some x->cD js k x=0) (by simp) ?_;rintro i st hi ⟨g1,l,e,f,hq⟩;by_cases a:i<js.length
 .have A:=aj a v
  by_cases c:cD js i js[i]=0
  .have d:(cD js i js[i]!=0)=false:=by simp[c]
   have F:=L6 js ms i v a;refine GT (s5 g1 l e f a A d c) ?_
   all_goals simpa using Cy a hq c
  .have d:(cD js i js[i]!=0)=true:=by simp[c]
   have hf:=xj a hq c;have F:=L6 js ms i v a;refine GT (s5 g1 l e f a A d c) ?_
   all_goals simp[hf,c]
 .have hf:jb js=0:=tT (λk x B=>hq k x (by have:=(th.1 B).1;omega) B)
  have z:=PI 187 (iN js ms) (λm=>!f8 js.length m) ms E (λm=>PG js ms m);rw[hf];by_cases g:32<ms.length
  .have j:(32:Int)<ms.length:=by omega
   have n:r=808:=by rw[<-y];simp[g]
   exact Gy
  .have j:¬(32:Int)<ms.length:=by omega
   cases b:ms.any λm=>!f8 js.length m with
   |true=>
    rw[b]at z
    have n:r=808:=by rw[<-y,b];simp
    exact Gy
   |false=>
    rw[b]at z
    have n:r=0:=by rw[<-y,b];simp[g]
    exact Gy
theorem KL{p:α->Bool}{xs:List α}(h:i<xs.length)(hp:p xs[i]=true):xs.any p=true:=VX.2 ⟨_,Uo h,hp⟩
theorem L7{p:α->Bool}{xs:List α}(h:∀(i:Nat) x,xs[i]?=some x->p x=false):xs.any p=false:=by
 rw[VO];intro x a;obtain⟨i,hi⟩:=UB a;simp[h i x hi]
theorem Cz(js:List J)(ms:List Ms)(B:js.length<=9223372036854775807)(F:ms.length<=9223372036854775807):aR 39 (iN js ms) (Z (aW js ms)):=by
 by_cases D:js.length=0
 .have A:aW js ms=801:=by simp[aW,D]
  have y:js=[]:=Uy D;rw[A];subst y;refine Dp func39 λC hP hN=>?_;exact Gy
 have H:¬(js.length:Int)<1:=by omega
 have I:¬js.length<1:=by omega
 by_cases E:10<js.length
 .have A:aW js ms=801:=by simp[aW,E]
  have z:(10:Int)<js.length:=by omega
  rw[A];refine Dp func39 λC hP hN=>?_;exact Gy
 have z:¬(10:Int)<js.length:=by omega
 have f:aW js ms=if jb js≠0 then jb js else if(decide (32<ms.length)||ms.any λm=>!f8 js.length m)=true then 808 else 0:=by
  unfold aW;rw[TQ (by omega)]
 rw[f];generalize u:(if(decide (32<ms.length)||ms.any λm=>!f8 js.length m)=true then(808:Int)else 0)=r;refine Dp func39 λC hP hN=>?_;refine Gz ?_;refine WP.loopN [] js.length (λi st=>st.t 1=.ptr 1 0/\st.h 1=some (.box [.pv (.sl (js.map bu)),.pv (.sl (ms.map cG))] true false)/\st.h 6=none/\st.t 3=.pv (Z i)/\∀k x,k<i->js[k]?=some x->cD js k x=0) (by simp) ?_;rintro i st hi ⟨g1,b,c,g3,hq⟩;by_cases a:i<js.length
 .have l:=aj a B
  by_cases g:cD js i js[i]=0
  .have j:(cD js i js[i]!=0)=false:=by simp[g]
   have G:=OF js i B a;refine GT (s5 g1 b c g3 a l j g) ?_
   all_goals simpa using Cy a hq g
  .have j:(cD js i js[i]!=0)=true:=by simp[g]
   have hf:=xj a hq g;have G:=OF js i B a;refine GT (s5 g1 b c g3 a l j g) ?_
   all_goals simp[hf,g]
 .have hf:jb js=0:=tT (λk x n=>hq k x (by have:=(th.1 n).1;omega) n)
  rw[hf];by_cases o:32<ms.length
  .have q:(32:Int)<ms.length:=by omega
   have e:r=808:=by rw[<-u];simp[o]
   exact Gy
  .have q:¬(32:Int)<ms.length:=by omega
   refine Gz ?_;refine WP.loopN [6] ms.length (λi st=>st.t 1=.ptr 1 0/\st.h 1=some (.box [.pv (.sl (js.map bu)),.pv (.sl (ms.map cG))] true false)/\st.h 6=none/\st.t 5=.pv (Z i)/\∀k x,k<i->ms[k]?=some x->(!f8 js.length x)=false) (by simp[g1,b,c]) ?_;clear g1 b c g3 hq;rintro i st hi ⟨g1,b,c,g5,hq⟩;by_cases a:i<ms.length
   .have l:=aj a F
    have n:=an a
    cases s:f8 js.length ms[i]with
    |false=>
     have d:(ms.any λm=>!f8 js.length m)=true:=KL a (by simp[s])
     have e:r=808:=by rw[<-u,d];simp
     clear u d
     with_reducible repeat' (first|refine Sp.h ?_|((first|refine Ss.h ?_|refine Sc.h (vm _ _ _ _ (by decide) (by decide)) ?_|refine Sc.h (JZ _ _ _) ?_|(refine Sb.h ?_ ?_ ?_<;>(try intro hgd)<;>try exact Xy))<;>simp -implicitDefEqProofs (maxSteps:=2000000) [hP,hN,g1,b,c,g5,a,l,e])|refine X2 ?_ ?_|(refine Xd ?_ ?_<;>intro hcd<;>try exact Xx))
     all_goals (exfalso;clear hq hP hN g1 b c g5 l e f hf;simp[f8]at *;grind)
    |true=>
     have v:=pf (p:=λm=>!f8 js.length m) a hq (by simp[s]);clear u hq
     with_reducible repeat' (first|refine Sp.h ?_|((first|refine Ss.h ?_|refine Sc.h (vm _ _ _ _ (by decide) (by decide)) ?_|refine Sc.h (JZ _ _ _) ?_|(refine Sb.h ?_ ?_ ?_<;>(try intro hgd)<;>try exact Xy))<;>simp -implicitDefEqProofs (maxSteps:=2000000) [hP,hN,g1,b,c,g5,a,l])|refine X2 ?_ ?_|(refine Xd ?_ ?_<;>intro hcd<;>try exact Xx))
     all_goals first|(simpa using v)|(exfalso;clear v hP hN g1 b c g5 l f hf;simp[f8]at *;grind)
   .have d:(ms.any λm=>!f8 js.length m)=false:=L7 (λk x n=>hq k x (by have:=(th.1 n).1;omega) n)
    have e:r=0:=by rw[<-u,d];simp[o]
    exact Gy
theorem ya{p:α->Bool}{xs:List α}:bT p xs=true↔∀x∈xs,p x=true:=by simp[bT]
theorem yb{β:Type}{f:α->β->Bool}{xs:List α}{ys:List β}:fl f xs ys=true↔∀(i:Nat)(h:i<xs.length)(h':i<ys.length),f xs[i] ys[i]=true:=by
 unfold fl;rw[TP];constructor
 .intro h i hi a
  exact h (f xs[i] ys[i]) (by
   rw[Vn]
   exact⟨i,by simp;omega,by simp⟩)
 .intro h x b
  obtain⟨i,hi,rfl⟩:=Vn.1 b;simp only[List.length_zipWith]at hi;simpa using h i (by omega) (by omega)
section
variable {p q:List Int} {d i:Int}
end
def sQ(a b:Int):Int:=if a.tmod b<0 then wr (wr (a.tdiv b)-1)else wr (a.tdiv b)
theorem PJ(a b:Int)(c:b≠0):aK 228 (Z a) (Z b) (Z (sQ a b)):=by
 refine Dp func228 λC hP hN=>?_
 with_reducible repeat' (first|refine Sp.h ?_|((first|refine Ss.h ?_|(refine Sb.h ?_ ?_ ?_<;>(try intro hgd)<;>try exact Xy))<;>simp -implicitDefEqProofs (maxSteps:=2000000) [hP,hN,c])|refine X2 ?_ ?_|(refine Xd ?_ ?_<;>intro hcd<;>try exact Xx))
 all_goals (first|(simp_all[sQ];done)|((try simp_all[sQ])<;>(try omega)<;>grind))
theorem A4{k:Int}(c:0<b)(h1:k*b<=a)(d:a<(k+1)*b):a/b=k:=by
 have:=(Wp c).2 h1;have:=(Wq c).2 d;omega
theorem GZ(c:0<b)(h1:-4611686018427387904<=a)(d:a<=4611686018427387904):sQ a b=a/b:=by
 have hq:=Wt a b;have g:-b<a.tmod b:=Wc a c;have i:a.tmod b<b:=VK a c;have f:=Fy (a:=a) (N:=b) (B:=4611686018427387904) c h1 d;rw[Int.mul_comm]at hq;unfold sQ;split
 .have e:a/b=a.tdiv b-1:=A4 c (by rw[Int.sub_mul];omega) (by rw[show a.tdiv b-1+1=a.tdiv b by omega];omega)
  rw[aa (n:=a.tdiv b) (by omega) (by omega),aa (by omega) (by omega),e]
 .have e:a/b=a.tdiv b:=A4 c (by omega) (by rw[Int.add_mul];omega)
  rw[aa (n:=a.tdiv b) (by omega) (by omega),e]
theorem xk{x:Int×Int}(h:az x.1 x.2=true):-2147483648<=x.1/\x.1<=x.2/\x.2<=2147483648:=by
 simp only[az,An,L4]at h;omega
theorem PK(x:Int×Int):aR 164 (aC x) (Z (jp x)):=by
 cases a:az x.1 x.2 with
 |false=>
  have b:jp x=0:=by simp[jp,a]
  rw[b];refine Dp func164 λC hP hN=>?_;have d:=@lY;exact GS a
 |true=>
  have c:=xk a
  have b:jp x=sQ (wr (x.1+x.2)) 2:=by
   rw[jp,a];simp only[Ul];rw[aa (by omega) (by omega),GZ (by decide) (by omega) (by omega),Int.fdiv_eq_ediv_of_nonneg _ (by decide)]
  rw[b];refine Dp func164 λC hP hN=>?_
  with_reducible repeat' (first|refine Sp.h ?_|((first|refine Ss.h ?_|refine Sc.h (lY _ _) ?_|refine Sc.h (PJ _ _ (by decide)) ?_|(refine Sb.h ?_ ?_ ?_<;>(try intro hgd)<;>try exact Xy))<;>simp -implicitDefEqProofs (maxSteps:=2000000) [hP,hN,a])|refine X2 ?_ ?_|(refine Xd ?_ ?_<;>intro hcd<;>try exact Xx))
theorem FA(xs ys:List (Int×Int)):mY xs ys=om xs ys:=by
 unfold mY om;by_cases c:xs.length=ys.length
 .cases b:fl dV xs ys with
  |false=>simp
  |true=>
   rw[yb]at b
   have d:bT vI xs=true:=by
    rw[ya];intro x a;obtain⟨i,hi,rfl⟩:=Vn.1 a;have:=b i hi (by omega);simp only[dV,An]at this;exact this.1.1.1
   have e:bT vI ys=true:=by
    rw[ya];intro x a;obtain⟨i,hi,rfl⟩:=Vn.1 a;have:=b i (by omega) hi;simp only[dV,An]at this;exact this.1.1.2
   simp[d,e,c]
 .simp[c]
theorem SJ(xs:List (Int×Int))(j:Int)(a:xs.length<=16777216)(b:bT vI xs=false):aK 90 (iv xs) (Z j) (.tup [iv [],iv [],B false]):=by
 refine Dp func90 λC hP hN=>?_
 with_reducible repeat' (first|refine Sp.h ?_|((first|refine Wd ?_|refine Ss.h ?_|refine Sc.h (nH _ (vg a)) ?_|(refine Sb.h ?_ ?_ ?_<;>(try intro hgd)<;>try exact Xy))<;>simp -implicitDefEqProofs (maxSteps:=2000000) [hP,hN,b]<;>try refine Ya ?_)|refine X2 ?_ ?_|(refine Xd ?_ ?_<;>intro hcd<;>try exact Xx))
theorem SK(xs:List (Int×Int))(j:Int)(b:xs.length<=16777216)(c:bT vI xs=true)(a:j<0):aK 90 (iv xs) (Z j) (.tup [iv [],iv [],B false]):=by
 refine Dp func90 λC hP hN=>?_
 with_reducible repeat' (first|refine Sp.h ?_|((first|refine Wd ?_|refine Ss.h ?_|refine Sc.h (nH _ (vg b)) ?_|(refine Sb.h ?_ ?_ ?_<;>(try intro hgd)<;>try exact Xy))<;>simp -implicitDefEqProofs (maxSteps:=2000000) [hP,hN,c,a]<;>try refine Ya ?_)|refine X2 ?_ ?_|(refine Xd ?_ ?_<;>intro hcd<;>try exact Xx))
theorem SL(xs:List (Int×Int))(n:Nat)(c:xs.length<=16777216)(d:bT vI xs=true)(a:xs.length<=n):aK 90 (iv xs) (Z n) (.tup [iv [],iv [],B false]):=by
 have b:(xs.length:Int)<=(n:Int):=by omega
 refine Dp func90 λC hP hN=>?_
 with_reducible repeat' (first|refine Sp.h ?_|((first|refine Wd ?_|refine Ss.h ?_|refine Sc.h (nH _ (vg c)) ?_|(refine Sb.h ?_ ?_ ?_<;>(try intro hgd)<;>try exact Xy))<;>simp -implicitDefEqProofs (maxSteps:=2000000) [hP,hN,d,b,a]<;>try refine Ya ?_)|refine X2 ?_ ?_|(refine Xd ?_ ?_<;>intro hcd<;>try exact Xx))
theorem SM(xs:List (Int×Int))(n:Nat)(c:xs.length<=16777216)(e:bT vI xs=true)(a:n<xs.length)(f:i64.wrap (xs[n].2-xs[n].1)=xs[n].2-xs[n].1)(d:xs[n].2-xs[n].1<2):aK 90 (iv xs) (Z n) (.tup [iv [],iv [],B false]):=by
 have b:¬(xs.length:Int)<=(n:Int):=by omega
 refine Dp func90 λC hP hN=>?_
 with_reducible repeat' (first|refine Sp.h ?_|((first|refine Wd ?_|refine Ss.h ?_|refine Sc.h (nH _ (vg c)) ?_|(refine Sb.h ?_ ?_ ?_<;>(try intro hgd)<;>try exact Xy))<;>simp -implicitDefEqProofs (maxSteps:=2000000) [hP,hN,e,a,f,d,b,Nat.not_le.2 a]<;>try refine Ya ?_)|refine X2 ?_ ?_|(refine Xd ?_ ?_<;>intro hcd<;>try exact Xx))
theorem SN(xs:List (Int×Int))(n:Nat)(d:xs.length<=16777216)(g:bT vI xs=true)(a:n<xs.length)(i:i64.wrap (xs[n].2-xs[n].1)=xs[n].2-xs[n].1)(f:¬xs[n].2-xs[n].1<2):aK 90 (iv xs) (Z n) (.tup [iv (xs.set n (xs[n].1,jp xs[n])),iv (xs.set n (jp xs[n],xs[n].2)),B true]):=by
 have b:¬(xs.length:Int)<=(n:Int):=by omega
 generalize e:jp xs[n]=m;have c:=PK xs[n];rw[e]at c;refine Dp func90 λC hP hN=>?_
 with_reducible repeat' (first|refine Sp.h ?_|((first|refine Wd ?_|refine Ss.h ?_|refine Sc.h (nH _ (vg d)) ?_|refine Sc.h (c) ?_|(refine Sb.h ?_ ?_ ?_<;>(try intro hgd)<;>try exact Xy))<;>simp -implicitDefEqProofs (maxSteps:=2000000) [hP,hN,g,a,i,f,b,Nat.not_le.2 a,show xs.length*16<=140737488355328 by omega,show xs.length<=9223372036854775807 by omega]<;>try refine Ya ?_)|refine X2 ?_ ?_|(refine Xd ?_ ?_<;>intro hcd<;>try exact Xx))
 all_goals simp[Vy]
theorem OG(xs:List (Int×Int))(j:Int)(g:xs.length<=16777216):aK 90 (iv xs) (Z j) (.tup [iv (dg xs j),iv (dh xs j),B (bL xs j)]):=by
 cases e:bT vI xs with
 |false=>
  have a:bL xs j=false:=by simp[bL,e]
  have b:dg xs j=[]:=by simp[dg,a]
  have c:dh xs j=[]:=by simp[dh,a]
  rw[a,b,c];exact SJ xs j g e
 |true=>
  by_cases l:0<=j
  .obtain⟨n,rfl⟩:=Vp l
   by_cases d:n<xs.length
   .have f:=an d
    have i:az xs[n].1 xs[n].2=true:=ya.1 e _ (Uo d);have p:=xk i
    have k:eR xs[n]=xs[n].2-xs[n].1:=by
     rw[eR,i];simp only[Ul];exact aa (by omega) (by omega)
    have o:i64.wrap (xs[n].2-xs[n].1)=xs[n].2-xs[n].1:=aa;by_cases m:xs[n].2-xs[n].1<2
    .have a:bL xs (n:Int)=false:=by simp[bL,e,f,k];omega
     have b:dg xs (n:Int)=[]:=by simp[dg,a]
     have c:dh xs (n:Int)=[]:=by simp[dh,a]
     rw[a,b,c];exact SM xs n g e d o m
    .have a:bL xs (n:Int)=true:=by simp[bL,e,f,k];omega
     have b:dg xs (n:Int)=xs.set n (xs[n].1,jp xs[n]):=by simp[dg,a,f]
     have c:dh xs (n:Int)=xs.set n (jp xs[n],xs[n].2):=by simp[dh,a,f]
     rw[a,b,c];exact SN xs n g e d o m
   .have f:xs[n]?=none:=Uc (by omega)
    have a:bL xs (n:Int)=false:=by simp[bL,f]
    have b:dg xs (n:Int)=[]:=by simp[dg,a]
    have c:dh xs (n:Int)=[]:=by simp[dh,a]
    rw[a,b,c];exact SL xs n g e (Nat.not_lt.1 d)
  .have a:bL xs j=false:=by simp[bL,l]
   have b:dg xs j=[]:=by simp[dg,a]
   have c:dh xs j=[]:=by simp[dh,a]
   rw[a,b,c];exact SK xs j g e (by omega)
def jN(js:List J)(b:List (Int×Int)):Nat->Int×Int
 |0=>(-1,0)
 |i+1=>match js[i]?,b[i]? with
  |some j,some x=>if 2<=eR x/\(jN js b i).2<wr (j.w*eR x)then((i:Int),wr (j.w*eR x))else jN js b i
  |_,_=>jN js b i
def Jr(x:AV)(fb:Option cK):Option cK:=match x with
 |.pv (.val (.slice none 0 0))=>some (.pv (Z 0),[])
 |_=>fb
@[simp] theorem OR(fb:Option cK):Jr (.pv (.val (.slice none 0 0))) fb=some (.pv (Z 0),[]):=rfl
theorem Js(x:Operand):
 bz prog ⟨dst,.call ⟨.builtin .len,#[x],#[30]⟩,ty,pos,aft,g⟩ (λ_=>.pv (.val (.slice none 0 0)))=some (.pv (Z 0),[]):=by kernel_rfl
@[simp] theorem Sw(x:Operand):
 bz prog ⟨dst,.call ⟨.builtin .len,#[x],#[30]⟩,ty,pos,aft,g⟩ ρ=Jr (ρ x) (jq prog ⟨dst,.call ⟨.builtin .len,#[x],#[30]⟩,ty,pos,aft,g⟩ ρ):=by
 unfold Jr;split
 .rename_i b
  rw[<-Js (dst:=dst) (ty:=ty) (pos:=pos) (aft:=aft) (g:=g) x];refine qT (by intro _ _ h;cases h) ?_;intro y a;simp[Op.operands,Call.operands]at a;subst a;exact b
 .rfl
set_option maxRecDepth 100000 in
theorem Nv(t:Tr)(hl:t.cells.length<=9223372036854775807):aR 73 (bZ t) (.tup [.sl ((bj t).map iv),B (aO t)]):=by
 cases hs:gy t with
 |false=>
  have a7:=r7 (t:=t) (by simp[dk,hs]);rw[a7.1,a7.2];by_cases q1:t.root.length<1
  .have a9:(t.root.length:Int)<1:=by omega
   refine Dp func73 λC hP hN=>?_;exact Gy
  have a9:¬(t.root.length:Int)<1:=by omega
  by_cases q2:10<t.root.length
  .have ba:(10:Int)<t.root.length:=by omega
   refine Dp func73 λC hP hN=>?_;exact Gy
  have ba:¬(10:Int)<t.root.length:=by omega
  by_cases h1:t.cells.length<1
  .have ad:(t.cells.length:Int)<1:=by omega
   refine Dp func73 λC hP hN=>?_;exact Gy
  have ad:¬(t.cells.length:Int)<1:=by omega
  by_cases h2:2048<t.cells.length
  .have ar:(2048:Int)<t.cells.length:=by omega
   refine Dp func73 λC hP hN=>?_;exact Gy
  have ar:¬(2048:Int)<t.cells.length:=by omega
  have h3:bT vI t.root=false:=by
   cases h:bT vI t.root with
   |false=>rfl
   |true=>simp[gy,dj,h]at hs;omega
  refine Dp func73 λC hP hN=>?_;refine Gz ?_;refine WP.loopN [] t.root.length (λi st=>st.t 1=.ptr 1 0/\st.t 5=.pv (Z i)/\st.h 1=some (.box [.pv (iv t.root),.pv (.sl (t.cells.map br))] true false)/\bT vI (t.root.take i)=true) (by simp[bT]) ?_;rintro i st hi ⟨g1,g5,hb,hq⟩;by_cases a:i<t.root.length
  .have F:=aj a (by omega)
   have hS:vI t.root[i]=true->bT vI (t.root.take (i+1))=true:=tP a hq
   with_reducible repeat' (first|refine Sp.h ?_|((first|refine Wd ?_|refine Ss.h ?_|refine Sc.h (lY _ _) ?_|(refine Sb.h ?_ ?_ ?_<;>(try intro hgd)<;>try exact Xy))<;>simp -implicitDefEqProofs [hP,hN,g1,g5,hb,a,F]<;>try refine Ya ?_)|refine X2 ?_ ?_|(refine Xd ?_ ?_<;>intro hcd<;>try exact Xx))
   all_goals (exact hS (by simpa using hcd))
  .have:=tR a hq
   rw[h3]at this;cases this
 |true=>
  obtain⟨z1,z2,z3,z4,z5⟩:=dv.1 hs
  have q1:¬t.root.length<1:=by omega
  have q2:¬10<t.root.length:=by omega
  have a9:¬(t.root.length:Int)<1:=by omega
  have ba:¬(10:Int)<t.root.length:=by omega
  have h1:¬t.cells.length<1:=by omega
  have h2:¬2048<t.cells.length:=by omega
  have ad:¬(t.cells.length:Int)<1:=by omega
  have ar:¬(2048:Int)<t.cells.length:=by omega
  have a5:=Dv z1;refine Dp func73 λC hP hN=>?_;refine Gz ?_;refine WP.loopN [] t.root.length (λi st=>st.t 1=.ptr 1 0/\st.t 4=.pv (Z t.cells.length)/\st.t 5=.pv (Z i)/\st.h 1=some (.box [.pv (iv t.root),.pv (.sl (t.cells.map br))] true false)/\st.h 48=none/\st.h 8=none) (by simp) ?_;rintro i st hi ⟨g1,g4,g5,hb,e,g⟩;by_cases a:i<t.root.length
  .have F:=aj a (by omega)
   have hv:az t.root[i].1 t.root[i].2=true:=gR.1 z5 _ (Uo a);have cv:=lY t.root[i].1 t.root[i].2;rw[hv]at cv;exact Gy
  refine GT (s6 g1 g4 g5 hb e g a a5 (show(24:Int)*t.cells.length<=281474976710656 by omega) (gA (show(t.cells.length:Int)<=9223372036854775807 by omega) (show 0<t.cells.length by omega))) ?_;refine WP.loopN [8] t.cells.length (λi st=>∃L,BInv t i L/\st.t 1=.ptr 1 0/\st.t 4=.pv (Z t.cells.length)/\st.t 6=.arr 48 t.cells.length/\st.t 7=.pv (Z i)/\st.h 1=some (.box [.pv (iv t.root),.pv (.sl (t.cells.map br))] true false)/\st.h 8=none/\st.h 48=some (.row 30 1 (L.map rA) 0)) (by exact⟨kB t,Bq hs,by simp[g1,g4,g5,hb,e,g,a5]⟩) ?_;rintro i st hi ⟨L,M,g1,g4,J,K,f,g,e⟩;have j:=M.bok.len;by_cases a:i<t.cells.length
  .have F:=aj a hl
   have Q:i<L.length:=by omega
   generalize A:t.cells[i]=c at *
   have n:t.cells[i]?=some c:=by rw[an a,A]
   have E:gx t.cells.length i c L=none->aO t=false/\bj t=[]:=λh=>r7 (Br M a (by rw[A];exact h));have cl:=Kp c;have cf:=OS c.v;have O:=RU c.v
   cases k:L[i]? with
   |none=>rw[an Q]at k;cases k
   |some x=>
   cases x with
   |none=>
    have l:=dx k Q;obtain⟨H,I⟩:=E (by simp[gx,k]);rw[H,I];exact GS (zAa g1 g4 J K f g e a F k l @eg @eh n (gA A j))
   |some b=>
   have l:=dx k Q;obtain⟨a1,bb⟩:=M.bok.ok i b k
   have m:b≠[]:=by intro h;rw[h]at a1;simp at a1;omega
   have o:((b.length:Int)==0)=false:=by simp[m]
   cases p:dY c with
   |true=>
    rw[p]at cl
    cases hf:eT c.v with
    |true=>
     rw[hf]at cf;have R:=r5 (L':=L) M a (by rw[A,ki (t:=t) k p,hf];rfl);refine GT (zAa g1 g4 J K f g e a F k l @eg @eh n (f7 A j o m)) ?_
     all_goals exact⟨L,R,rfl⟩
    |false=>
     rw[hf]at cf;obtain⟨H,I⟩:=E (by rw[ki (t:=t) k p,hf];rfl);rw[H,I];exact GS (zAa g1 g4 J K f g e a F k l @eg @eh n (f7 A j o m))
   |false=>
    rw[p]at cl
    cases D:kF t.cells.length i c with
    |false=>
     obtain⟨H,I⟩:=E (ly k p (.inl D));rw[H,I];rcases xx D with h|h|h|h|h|h
     all_goals try rw[h]at O
     all_goals
      exact GS (zAa g1 g4 J K f g e a F k l @eg @eh n (go A j o m h))
    |true=>
     obtain⟨i1,i2,i3,i4,S,i6⟩:=jJ.1 D;rw[i6]at O;have N:=OG b c.joint (by omega)
     have T:¬c.low<=i:=by omega
     have U:¬(t.cells.length:Int)<=c.low:=by omega
     have V:¬c.high<=i:=by omega
     have W:¬(t.cells.length:Int)<=c.high:=by omega
     have X:c.low.toNat<t.cells.length:=by omega
     have Y:c.high.toNat<t.cells.length:=by omega
     have k3:0<=c.low:=by omega
     have k4:0<=c.high:=by omega
     have k5:c.low.toNat<L.length:=by omega
     have k6:c.high.toNat<L.length:=by omega
     cases hh:bL b c.joint with
     |false=>
      obtain⟨H,I⟩:=E (ly k p (.inr (.inl hh)));rw[H,I];rw[hh]at N
      cases q:L[c.low.toNat]? with
      |none=>rw[an k5]at q;cases q
      |some xa=>
      have s:=dx q k5
      cases r:L[c.high.toNat]? with
      |none=>rw[an k6]at r;cases r
      |some xz=>
      have G:=dx r k6;rcases xa with _|d
      .rcases xz with _|d'
       .skip
        with_reducible repeat' (first|refine Sp.h ?_|((first|refine Wd ?_|refine Ss.h ?_|refine Sc.h (cl) ?_|refine Sc.h (O) ?_|refine Sc.h (N) ?_|(refine Sb.h ?_ ?_ ?_<;>(try intro hgd)<;>try exact Xy))<;>simp -implicitDefEqProofs [hP,hN,g1,g4,J,K,f,g,e,a,F,k,l,eg,eh,n,A,j,o,m,T,U,V,W,S,X,Y,k3,k4,q,s,r,G]<;>try refine Ya ?_)|refine X2 ?_ ?_|(refine Xd ?_ ?_<;>intro hcd<;>try exact Xx))
       .obtain⟨z,_⟩:=M.bok.ok _ d' r
        have u:(0:Int)<d'.length:=by omega
        have y:0<d'.length:=by omega
        with_reducible repeat' (first|refine Sp.h ?_|((first|refine Wd ?_|refine Ss.h ?_|refine Sc.h (cl) ?_|refine Sc.h (O) ?_|refine Sc.h (N) ?_|(refine Sb.h ?_ ?_ ?_<;>(try intro hgd)<;>try exact Xy))<;>simp -implicitDefEqProofs [hP,hN,g1,g4,J,K,f,g,e,a,F,k,l,eg,eh,n,A,j,o,m,T,U,V,W,S,X,Y,k3,k4,q,s,r,G,u,y]<;>try refine Ya ?_)|refine X2 ?_ ?_|(refine Xd ?_ ?_<;>intro hcd<;>try exact Xx))
      .obtain⟨z,_⟩:=M.bok.ok _ d q
       have u:(0:Int)<d.length:=by omega
       have y:0<d.length:=by omega
       with_reducible repeat' (first|refine Sp.h ?_|((first|refine Wd ?_|refine Ss.h ?_|refine Sc.h (cl) ?_|refine Sc.h (O) ?_|refine Sc.h (N) ?_|(refine Sb.h ?_ ?_ ?_<;>(try intro hgd)<;>try exact Xy))<;>simp -implicitDefEqProofs [hP,hN,g1,g4,J,K,f,g,e,a,F,k,l,eg,eh,n,A,j,o,m,T,U,V,W,S,X,Y,k3,k4,q,s,r,G,u,y]<;>try refine Ya ?_)|refine X2 ?_ ?_|(refine Xd ?_ ?_<;>intro hcd<;>try exact Xx))
     |true=>
     rw[hh]at N;obtain⟨o1,_,o3,o4,_⟩:=yy.1 hh;have o5:=(th.1 o4).1
     have o6:¬c.joint<0:=by omega
     have o7:¬(t.root.length:Int)<=c.joint:=by omega
     cases q:L[c.low.toNat]? with
     |none=>rw[an k5]at q;cases q
     |some xa=>
     have s:=dx q k5
     cases xa with
     |some d=>
      obtain⟨H,I⟩:=E (ly k p (.inr (.inr (.inl ⟨d,q⟩))));rw[H,I];obtain⟨z,_⟩:=M.bok.ok _ d q
      have P:d≠[]:=by intro h;rw[h]at z;simp at z;omega
      have u:(0:Int)<d.length:=by omega
      have y:0<d.length:=by omega
      with_reducible repeat' (first|refine Sp.h ?_|((first|refine Wd ?_|refine Ss.h ?_|refine Sc.h (cl) ?_|refine Sc.h (O) ?_|refine Sc.h (N) ?_|(refine Sb.h ?_ ?_ ?_<;>(try intro hgd)<;>try exact Xy))<;>simp -implicitDefEqProofs [hP,hN,g1,g4,J,K,f,g,e,a,F,k,l,eg,eh,n,A,j,o,m,T,U,V,W,S,o6,o7,X,Y,k3,k4,q,s,u,P,y]<;>try refine Ya ?_)|refine X2 ?_ ?_|(refine Xd ?_ ?_<;>intro hcd<;>try exact Xx))
     |none=>
     cases r:L[c.high.toNat]? with
     |none=>rw[an k6]at r;cases r
     |some xz=>
     have G:=dx r k6
     cases xz with
     |some d=>
      obtain⟨H,I⟩:=E (ly k p (.inr (.inr (.inr ⟨d,r⟩))));rw[H,I];obtain⟨z,_⟩:=M.bok.ok _ d r
      have P:d≠[]:=by intro h;rw[h]at z;simp at z;omega
      have u:(0:Int)<d.length:=by omega
      have y:0<d.length:=by omega
      with_reducible repeat' (first|refine Sp.h ?_|((first|refine Wd ?_|refine Ss.h ?_|refine Sc.h (cl) ?_|refine Sc.h (O) ?_|refine Sc.h (N) ?_|(refine Sb.h ?_ ?_ ?_<;>(try intro hgd)<;>try exact Xy))<;>simp -implicitDefEqProofs [hP,hN,g1,g4,J,K,f,g,e,a,F,k,l,eg,eh,n,A,j,o,m,T,U,V,W,S,o6,o7,X,Y,k3,k4,q,s,r,G,u,P,y]<;>try refine Ya ?_)|refine X2 ?_ ?_|(refine Xd ?_ ?_<;>intro hcd<;>try exact Xx))
     |none=>
      have R:=r5 M a (by rw[A];exact qm k p D hh q r)
      with_reducible repeat' (first|refine Sp.h ?_|((first|refine Wd ?_|refine Ss.h ?_|refine Sc.h (cl) ?_|refine Sc.h (O) ?_|refine Sc.h (N) ?_|(refine Sb.h ?_ ?_ ?_<;>(try intro hgd)<;>try exact Xy))<;>simp -implicitDefEqProofs [hP,hN,g1,g4,J,K,f,g,e,a,F,k,l,eg,eh,n,A,j,o,m,T,U,V,W,S,o6,o7,X,Y,k3,k4,q,s,r,G]<;>try refine Ya ?_)|refine X2 ?_ ?_|(refine Xd ?_ ?_<;>intro hcd<;>try exact Xx))
      all_goals exact⟨_,R,set_row⟩
  .have a2:=Bs M a
   have a6:=DA a2
   have a8:aO t=true:=by simp[aO,a2]
   rw[a8,<-a6];exact GS (s5 g1 g4 J K f g e (gA a j))
abbrev zN(n:Nat):PV:=Z (n:Int)
abbrev ns(l:List Nat):PV:=.sl (l.map zN)
theorem Ny(t:Tr)(a:t.cells.length<=9223372036854775807):aR 54 (bZ t) (B (aO t)):=by
 have b:=Jq t a;refine Dp func54 λC hP hN=>?_;exact GS trivial
theorem Nz(t:Tr)(a:t.cells.length<=9223372036854775807):aR 38 (bZ t) (B (aO t)):=by
 have b:=Nv t a;refine Dp func38 λC hP hN=>?_;exact GS trivial
theorem NA(r:List (Int×Int)):aR 11 (iv r) (.tup [bZ (pM r),B (dj r)]):=by
 have cv:aP prog 38 [.pv (.agg [iv r,.sl [.agg [Z (-1),Z (-1),Z (-1),Z 0,.sl [],Z 0,.sl [],.sl []]]])] [] [] (.pv (B (dj r))):=by
  have:=Nz ⟨r,[aD aN]⟩ (by simp);rw[lA]at this;exact this
 cases h:dj r with
 |true=>
  rw[h]at cv;refine Dp func11 λC hP hN=>?_;refine GT trivial ?_
  all_goals simp[pM,h,aD,aN]
 |false=>
  rw[h]at cv;refine Dp func11 λC hP hN=>?_;refine GT trivial ?_
  all_goals simp[pM,h]
theorem Eb{c:Cel}(a:t.cells[i]?=some c):dr t (i+1)=if dY c then dr t i++[i]else dr t i:=by
 rw[rB];simp[fT,a]
theorem OT(t:Tr)(o:t.cells.length<=9223372036854775807):aR 40 (bZ t) (ns (bh t)):=by
 have cv:=Nz t o
 cases k:aO t with
 |false=>
  have e:bh t=[]:=by simp[bh,k]
  rw[k]at cv;rw[e];refine Dp func40 λC hP hN=>?_;exact GS trivial
 |true=>
  have s:=dv.1 (gz k)
  have e:bh t=dr t t.cells.length:=by simp[bh,k]
  rw[k]at cv;rw[e];refine Dp func40 λC hP hN=>?_;refine sP [3] trivial ?_;refine WP.loopN [] t.cells.length (λi st=>st.t 1=.ptr 1 0/\st.t 3=.arr 3 (dr t i).length/\st.t 4=.pv (Z i)/\st.h 1=some (.box [.pv (iv t.root),.pv (.sl (t.cells.map br))] true false)/\st.h 3=some (.row 3 1 ((dr t i).map zN) 0)) (by simp[dr]) ?_;rintro i st hi ⟨g1,g3,g4,b,d⟩;have r:=sB t i;by_cases a:i<t.cells.length
  .have p:=aj a o
   generalize m:t.cells[i]=c at *
   have f:t.cells[i]?=some c:=by rw[an a,m]
   have cl:=Kp c;have g:=Eb f
   cases j:dY c with
   |true=>
    rw[j]at cl g;rw[T8 rfl]at g
    have q:((dr t i).length+1)*8<=140737488355328:=by omega
    have l:(dr t i).length+1<=9223372036854775807:=by omega
    with_reducible repeat' (first|refine Sp.h ?_|((first|refine Ss.h ?_|refine Sc.h (cl) ?_|(refine Sb.h ?_ ?_ ?_<;>(try intro hgd)<;>try exact Xy))<;>simp -implicitDefEqProofs (maxSteps:=2000000) [hP,hN,g1,g3,g4,b,d,a,p,f,m,q,l])|refine X2 ?_ ?_|(refine Xd ?_ ?_<;>intro hcd<;>try exact Xx))
    all_goals simp[g]
   |false=>
    rw[j]at cl g;rw[TQ (by simp)]at g
    with_reducible repeat' (first|refine Sp.h ?_|((first|refine Ss.h ?_|refine Sc.h (cl) ?_|(refine Sb.h ?_ ?_ ?_<;>(try intro hgd)<;>try exact Xy))<;>simp -implicitDefEqProofs (maxSteps:=2000000) [hP,hN,g1,g3,g4,b,d,a,p,f,m])|refine X2 ?_ ?_|(refine Xd ?_ ?_<;>intro hcd<;>try exact Xx))
    all_goals simp[g]
  .have n:i=t.cells.length:=by omega
   subst n
   with_reducible repeat' (first|refine Sp.h ?_|((first|refine Ss.h ?_|(refine Sb.h ?_ ?_ ?_<;>(try intro hgd)<;>try exact Xy))<;>simp -implicitDefEqProofs (maxSteps:=2000000) [hP,hN,g1,g3,g4,b,d,a])|refine X2 ?_ ?_|(refine Xd ?_ ?_<;>intro hcd<;>try exact Xx))
theorem Tq(k:Int):aR 43 (Z k) (jT (lz k)):=by
 by_cases a:k=1
 .subst a
  refine Dp func43 λC hP hN=>?_;refine GT trivial ?_
  all_goals simp[lz]
 .by_cases b:k=2
  .subst b
   refine Dp func43 λC hP hN=>?_;refine GT trivial ?_
   all_goals simp[lz]
  .by_cases c:k=3
   .subst c
    refine Dp func43 λC hP hN=>?_;refine GT trivial ?_
    all_goals simp[lz]
   .skip
    refine Dp func43 λC hP hN=>?_;refine GT (be a b c) ?_
    all_goals simp[lz,a,b,c,aN]
theorem ij{i j:Int}(h:bU t i j=false):cL t i j=t:=by simp[cL,h]
theorem fx{i:Int}{v:Verd}(h:aV t i v=false):bP t i v=t:=by simp[bP,h]
theorem OU(t:Tr)(i j:Int)(I:t.cells.length<=9223372036854775807):kY 41 (bZ t) (Z i) (Z j) (.tup [bZ (cL t i j),B (bU t i j)]):=by
 have D:=Nv t I
 cases r:aO t with
 |false=>
  have a:bU t i j=false:=by simp[bU,r]
  rw[ij a,a];rw[r]at D;refine Dp func41 λC hP hN=>?_;exact GS trivial
 |true=>
  rw[r]at D;have g:=lR r;have K:=dv.1 (gz r);by_cases q:i<0
  .have a:bU t i j=false:=by
    have:decide (0<=i)=false:=by simp;omega
    simp[bU,this]
   rw[ij a,a];refine Dp func41 λC hP hN=>?_;exact GS q
  .obtain⟨k,rfl⟩:=Vp (show 0<=i by omega)
   by_cases s:t.cells.length<=k
   .have a:bU t k j=false:=by
     have:decide ((k:Int)<t.cells.length)=false:=by simp;omega
     simp only[bU,this,Vo,UE]
    rw[ij a,a];refine Dp func41 λC hP hN=>?_;exact GS (be q s g)
   .have m:k<t.cells.length:=by omega
    have d:k<(bj t).length:=by omega
    generalize u:t.cells[k]=c at *
    have e:t.cells[k]?=some c:=by rw[an m,u]
    generalize p:(bj t)[k]=b at *
    have f:(bj t)[k]?=some b:=by rw[an d,p]
    obtain⟨G,H⟩:=Bt f;have cl:=Kp c;have E:=OG b j (by omega);have z:i64.wrap ((t.cells.length:Int)+2)=(t.cells.length:Int)+2:=aa;have A:i64.wrap ((t.cells.length:Int)+1)=(t.cells.length:Int)+1:=aa
    cases l:dY c with
    |false=>
     have a:bU t k j=false:=by simp[bU,fT,e,l]
     rw[ij a,a];rw[l]at cl;refine Dp func41 λC hP hN=>?_;exact GS (so q s g m d e u)
    |true=>
     rw[l]at cl;by_cases J:2048<t.cells.length+2
     .have a:bU t k j=false:=by
       have:decide (t.cells.length+2<=2048)=false:=by simp;omega
       simp only[bU,this,Vo,UE]
      have n:(2048:Int)<t.cells.length+2:=by omega
      rw[ij a,a];refine Dp func41 λC hP hN=>?_;exact GS (s5 q s g m d e u (gA z n))
     .have n:¬(2048:Int)<t.cells.length+2:=by omega
      cases x:bL b j with
      |false=>
       have a:bU t k j=false:=by simp[bU,f,x]
       rw[ij a,a];rw[x]at E;refine Dp func41 λC hP hN=>?_;exact GS (s6 q s g m d e u p f (gA z n))
      |true=>
       have o:bU t k j=true:=by
        simp only[bU,r,fT,Uk,e,l,f,Uj,x,VC,Uq,An,L4];omega
       have F:cL t k j=jK t k j c.v:=by simp[cL,o,lV,e]
       rw[F,o];rw[x]at E;have y:=uv l;refine Dp func41 λC hP hN=>?_;refine GT (zAa q s g m d e u p f z A n (show t.cells.length*112<=140737488355328 by omega) (show(t.cells.length+2)*112<=140737488355328 by omega) (gA (show t.cells.length+2<=9223372036854775807 by omega) (show t.cells.length<=9223372036854775807 by omega))) ?_
       all_goals (rw[y];simp[jK,aD,Vy,aN]<;>rfl)
theorem OV(t:Tr)(i:Int)(v:Verd)(u:t.cells.length<=9223372036854775807):kY 42 (bZ t) (Z i) (jT v) (.tup [bZ (bP t i v),B (aV t i v)]):=by
 have q:=Nz t u
 cases o:aO t with
 |false=>
  have a:aV t i v=false:=by simp[aV,o]
  rw[fx a,a];rw[o]at q;refine Dp func42 λC hP hN=>?_;exact GS trivial
 |true=>
  rw[o]at q;have A:=dv.1 (gz o);by_cases l:i<0
  .have a:aV t i v=false:=by
    have:decide (0<=i)=false:=by simp;omega
    simp only[aV,this,Vo,UE]
   rw[fx a,a];refine Dp func42 λC hP hN=>?_;exact GS l
  .obtain⟨k,rfl⟩:=Vp (show 0<=i by omega)
   by_cases n:t.cells.length<=k
   .have a:aV t k v=false:=by
     have:decide ((k:Int)<t.cells.length)=false:=by simp;omega
     simp only[aV,this,Vo,UE]
    rw[fx a,a];refine Dp func42 λC hP hN=>?_;exact GS (gA l n)
   .have d:k<t.cells.length:=by omega
    generalize m:t.cells[k]=c at *
    have b:t.cells[k]?=some c:=by rw[an d,m]
    have cl:=Kp c;have r:=OS v
    cases e:dY c with
    |false=>
     have a:aV t k v=false:=by simp[aV,fT,b,e]
     rw[fx a,a];rw[e]at cl;refine Dp func42 λC hP hN=>?_;exact GS (go l n d b m)
    |true=>
     rw[e]at cl;by_cases p:c.v.kind=0
     .have f:(c.v.kind !=0)=false:=by simp[p]
      cases hf:eT v with
      |false=>
       have a:aV t k v=false:=by simp[aV,hf]
       rw[fx a,a];rw[hf]at r;refine Dp func42 λC hP hN=>?_;exact GS (it l n d b m f)
      |true=>
       rw[hf]at r
       have g:aV t k v=true:=by
        simp[aV,o,fT,b,e,hf,lV,p,d,m]
       have s:bP t k v=eG t k v:=by simp[bP,g]
       rw[s,g];have j:=uv e
       have x:c.joint=-1:=by rw[j];rfl
       have y:c.low=-1:=by rw[j];rfl
       have z:c.high=-1:=by rw[j];rfl
       refine Dp func42 λC hP hN=>?_;refine GT (s5 l n d b m f (show t.cells.length*112<=140737488355328 by omega) (show t.cells.length<=9223372036854775807 by omega)) ?_
       all_goals simp[eG,aD,Vy,x,y,z]
     .have f:(c.v.kind !=0)=true:=by simp[p]
      have a:aV t k v=false:=by simp[aV,lV,b,p]
      rw[fx a,a];refine Dp func42 λC hP hN=>?_;exact GS (it l n d b m f)
theorem Ts(l:List Int):aP prog 47 [.bx 0] [gD l 0] [gD l (gX l (fK l))] (.pv (iv (eJ l))):=by
 have q:=sd l
 have m:i64.wrap (1+nx l 0 3)=(fK l:Int):=by rw[q.2.2];exact aa (by omega) (by omega)
 have n:=iE l 0 3 (by decide) (by decide);refine mV func47 rfl (by kernel_rfl) (by simp[f47]) rfl (by intro i j h;rcases i with _|_|_|i<;>simp_all) ?_;intro C hP hN;simp only[f47]at hN|-;refine sP [3] (gA @gD.eq_1 m) ?_;refine WP.loopN [] (fK l) (λi st=>st.t 0=.ptr (pk 0) 0/\st.t 3=.arr 3 i/\st.t 4=.pv (Z ((fK l:Int)-i))/\st.h (pk 0)=some (.box [.pv (zs l),.pv (Z (gX l i))] false false)/\st.h 3=some (.row 99 2 (((eJ l).map aC).take i) 0)) (by simp[gX]) ?_;rintro i st hi ⟨g0,g3,g4,b,c⟩
 have f:min i (eJ l).length=i:=by rw[lS];omega
 by_cases d:i<fK l
 .have a:(0:Int)<(fK l:Int)-i:=by omega
  have e:(i:Int)<fK l:=by omega
  have s:=DD l i;have u:=bt l (gX l i);have p:aP prog 37 [.bx 0,.pv (Z 40)] [gD l (gX l i)] [gD l (nn l (gX l i))] (.pv (Z (pC l (gX l i)))):=vk l (gX l i) 40 (by decide) (by decide) (by omega);have n:=iE l (nn l (gX l i)) 60 (by decide) (by omega);have o:=Ea d
  have r:i64.wrap ((fK l:Int)-i-1)=(fK l:Int)-((i:Int)+1):=by rw[show(fK l:Int)-i-1=(fK l:Int)-((i:Int)+1) by omega];exact aa (by omega) (by omega)
  with_reducible repeat' (first|refine Sp.h ?_|((first|refine Ss.h ?_|refine Sc.h (p) ?_|refine Sc.h (n) ?_|(refine Sb.h ?_ ?_ ?_<;>(try intro hgd)<;>try exact Xy))<;>simp -implicitDefEqProofs (maxSteps:=2000000) [hP,hN,gD,g0,g3,g4,b,c,d,a,e,r,f,o,show(i+1)*16<=140737488355328 by omega,show i+1<=9223372036854775807 by omega])|refine X2 ?_ ?_|(refine Xd ?_ ?_<;>intro hcd<;>try exact Xx))
  all_goals exact⟨rfl,o⟩
 .have g:i=fK l:=by omega
  subst g
  have a:¬(0:Int)<(fK l:Int)-(fK l:Int):=by omega
  have k:((eJ l).map aC).take (fK l)=(eJ l).map aC:=Us (by simp[lS])
  with_reducible repeat' (first|refine Sp.h ?_|((first|refine Ss.h ?_|(refine Sb.h ?_ ?_ ?_<;>(try intro hgd)<;>try exact Xy))<;>simp -implicitDefEqProofs (maxSteps:=2000000) [hP,hN,g0,g3,g4,b,c,a,f,k])|refine X2 ?_ ?_|(refine Xd ?_ ?_<;>intro hcd<;>try exact Xx))
  all_goals exact lS l
theorem xD(t:Tr):(bh t).length<=t.cells.length:=by
 cases h:aO t with
 |true=>simp only[bh,h,Ul];exact sB _ _
 |false=>simp[bh,h]
theorem Jz(d:aO t=true)(l:List Int)(m:Nat)(e:t.cells.length<=2048):0<=nx l m (bh t).length/\(bh t)[(nx l m (bh t).length).toNat]?=some (AI t l m)/\(nx l m (bh t).length).toNat<(bh t).length:=by
 have hp:=sC d;have b:=xD t;have c:=aQ l m (k:=((bh t).length:Int)) (by omega) (by omega)
 have a:(nx l m (bh t).length).toNat<(bh t).length:=by omega
 exact⟨c.1,by simp[AI,an a],a⟩
theorem NB(t:Tr)(l:List Int)(n:Nat)(hn:n<=100)(G:aO t=true)(P:t.cells.length<=100):kY 13 (bZ t) (zs l) (Z n) (bZ (mP t l n)):=by
 have I:=LT l;have R:=dv.1 (gz G);refine Dp func13 λC hP hN=>?_
 with_reducible repeat' (first|refine Sp.h ?_|((first|refine Wd ?_|refine Ss.h ?_|refine Sc.h (I) ?_|(refine Sb.h ?_ ?_ ?_<;>(try intro hgd)<;>try exact Xy))<;>simp -implicitDefEqProofs (maxSteps:=2000000) [hP,hN,gD]<;>try refine Ya ?_)|refine X2 ?_ ?_|(refine Xd ?_ ?_<;>intro hcd<;>try exact Xx))
 refine WP.loopN [] n (λi st=>st.t 2=.pv (Z n)/\st.t 3=.ptr 3 0/\st.t 6=.ptr 6 0/\st.t 7=.ptr 14 0/\st.t 8=.pv (Z i)/\st.h 3=some (.box [.pv (iv (dq t l i).1.root),.pv (.sl ((dq t l i).1.cells.map br))] true false)/\st.h 6=some (.box [.pv (.val (.slice none 0 0)),.pv (.val (.slice none 0 0))] true false)/\st.h 14=some (.box [.pv (zs l),.pv (Z (dq t l i).2)] true false)) (by simp[dq]) ?_;rintro i st hi ⟨g2,g3,g,j,v,b,c,a⟩;obtain⟨D,L,T,U⟩:=AJ l G i;by_cases o:i<n
 .have B:=aj o (by omega)
  have e:dq t l (i+1)=(cL (dq t l i).1 (AI (dq t l i).1 l (dq t l i).2) (DE (dq t l i).1 l (dq t l i).2),nn l (nn l (dq t l i).2)):=rfl;generalize(dq t l i).1=d at *;generalize(dq t l i).2=m at *;obtain⟨N,H,O⟩:=Jz D l m (by omega);have E:=(th.1 H).2;have S:=bt l m;have K:=sC D;have cl:=OT d (by omega);have x:=iE l m ((bh d).length:Int) (by omega) (by omega);have y:=iE l (nn l m) (d.root.length:Int) (by rw[L];omega) (by omega);have s:=OU d (AI d l m) (DE d l m) (by omega);unfold DE at s e
  with_reducible repeat' (first|refine Sp.h ?_|((first|refine Wd ?_|refine Ss.h ?_|refine Sc.h (cl) ?_|refine Sc.h (x) ?_|refine Sc.h (y) ?_|refine Sc.h (s) ?_|(refine Sb.h ?_ ?_ ?_<;>(try intro hgd)<;>try exact Xy))<;>simp -implicitDefEqProofs (maxSteps:=2000000) [hP,hN,gD,g2,g3,g,j,v,b,c,a,o,B,N,H,E,O]<;>try refine Ya ?_)|refine X2 ?_ ?_|(refine Xd ?_ ?_<;>intro hcd<;>try exact Xx))
  all_goals simp[e]
 have z:i=n:=by omega
 subst z;have M:mP t l i=(ii (dq t l i).1 (dq t l i).2 (bh (dq t l i).1) l (bh (dq t l i).1).length).1:=rfl;rw[M];generalize(dq t l i).1=d at *;generalize(dq t l i).2=m at *;have cl:=OT d (by omega);have J:=xD d
 with_reducible repeat' (first|refine Sp.h ?_|((first|refine Wd ?_|refine Ss.h ?_|refine Sc.h (cl) ?_|(refine Sb.h ?_ ?_ ?_<;>(try intro hgd)<;>try exact Xy))<;>simp -implicitDefEqProofs (maxSteps:=2000000) [hP,hN,g2,g3,g,j,v,b,c,a,o]<;>try refine Ya ?_)|refine X2 ?_ ?_|(refine Xd ?_ ?_<;>intro hcd<;>try exact Xx))
 generalize F:bh d=all at *;refine WP.loopN [] all.length (λk st=>st.t 3=.ptr 3 0/\st.t 6=.ptr 6 0/\st.t 7=.ptr 14 0/\st.t 11=.pv (ns all)/\st.t 12=.pv (Z k)/\st.h 3=some (.box [.pv (iv (ii d m all l k).1.root),.pv (.sl ((ii d m all l k).1.cells.map br))] true false)/\st.h 6=some (.box [.pv (.val (.slice none 0 0)),.pv (.val (.slice none 0 0))] true false)/\st.h 14=some (.box [.pv (zs l),.pv (Z (ii d m all l k).2)] true false)) (by simp[ii,g2,g3,g,j,v,b,c,a]) ?_;clear g2 g3 g j v b c a st;rintro k st Q ⟨g3,g,j,p,q,b,c,a⟩;obtain⟨V,W,X,Y,q5⟩:=AK m all l D k;by_cases f:k<all.length
 .have B:=aj f (by omega)
  have e:ii d m all l (k+1)=(bP (ii d m all l k).1 ((all[k]?.getD 0:Nat):Int) (lz (nx l (ii d m all l k).2 5)),nn l (ii d m all l k).2):=rfl;rw[an f,Uj]at e;generalize(ii d m all l k).1=u at *;generalize(ii d m all l k).2=r at *;have x:=iE l r 5 (by decide) (by omega);have y:=Tq (nx l r 5);have s:=OV u ((all[k]:Nat):Int) (lz (nx l r 5)) (by omega)
  with_reducible repeat' (first|refine Sp.h ?_|((first|refine Wd ?_|refine Ss.h ?_|refine Sc.h (x) ?_|refine Sc.h (y) ?_|refine Sc.h (s) ?_|(refine Sb.h ?_ ?_ ?_<;>(try intro hgd)<;>try exact Xy))<;>simp -implicitDefEqProofs (maxSteps:=2000000) [hP,hN,gD,g3,g,j,p,q,b,c,a,f,B]<;>try refine Ya ?_)|refine X2 ?_ ?_|(refine Xd ?_ ?_<;>intro hcd<;>try exact Xx))
  all_goals simp[e]
 .have A:k=all.length:=by omega
  subst A
  with_reducible repeat' (first|refine Sp.h ?_|((first|refine Wd ?_|refine Ss.h ?_|(refine Sb.h ?_ ?_ ?_<;>(try intro hgd)<;>try exact Xy))<;>simp -implicitDefEqProofs (maxSteps:=2000000) [hP,hN,gD,g3,g,j,p,q,b,c,a,f]<;>try refine Ya ?_)|refine X2 ?_ ?_|(refine Xd ?_ ?_<;>intro hcd<;>try exact Xx))
theorem Tt(l:List Int):aR 16 (zs l) (bZ (lB l)):=by
 have i:=LT l;have j:=Ts l;have c:=NA (eJ l);have a:=Bw l
 have e:pM (eJ l)=⟨eJ l,[aD aN]⟩:=by simp[pM,a]
 rw[a,e]at c;have n:=DD l (fK l);have k:=sd l;have g:=iE l (gX l (fK l)) 14 (by decide) (by omega);have m:=xA l;have b:=NB ⟨eJ l,[aD aN]⟩ l (kP l).toNat (by omega) (by rw[lA];exact a) (by simp)
 have d:((kP l).toNat:Int)=nx l (gX l (fK l)) 14:=by rw[Int.toNat_of_nonneg m.1];rfl
 have f:mP ⟨eJ l,[aD aN]⟩ l (kP l).toNat=lB l:=rfl;rw[d,f]at b;clear e d f;generalize(⟨eJ l,[aD aN]⟩:Tr)=T at c b;refine Dp func16 λC hP hN=>?_
 with_reducible repeat' (first|refine Sp.h ?_|((first|refine Wd ?_|refine Ss.h ?_|refine Sc.h (i) ?_|refine Sc.h (j) ?_|refine Sc.h (c) ?_|refine Sc.h (g) ?_|refine Sc.h (b) ?_|(refine Sb.h ?_ ?_ ?_<;>(try intro hgd)<;>try exact Xy))<;>simp -implicitDefEqProofs (maxSteps:=2000000) [hP,hN,gD]<;>try refine Ya ?_)|refine X2 ?_ ?_|(refine Xd ?_ ?_<;>intro hcd<;>try exact Xx))
theorem NC(xs:List (Int))(c:xs.length<=16777216):aR 202 (.sl (xs.map Z)) (.sl (xs.map Z)):=by
 by_cases b:xs=[]
 .subst b
  refine Dp func202 λC hP hN=>?_;exact AZ [5] trivial
 .have a:xs.isEmpty=false:=by simp[b]
  refine Dp func202 λC hP hN=>?_;exact AZ [5] (f7 b a (show xs.length*8<=140737488355328 by omega) (show xs.length<=9223372036854775807 by omega))
theorem Gj(xs:List (Int×Int))(c:xs.length<=16777216):aR 125 (.sl (xs.map aC)) (.sl (xs.map aC)):=by
 by_cases b:xs=[]
 .subst b
  refine Dp func125 λC hP hN=>?_;exact AZ [5] trivial
 .have a:xs.isEmpty=false:=by simp[b]
  refine Dp func125 λC hP hN=>?_;exact AZ [5] (f7 b a (show xs.length*16<=140737488355328 by omega) (show xs.length<=9223372036854775807 by omega))
theorem Pj(f:FuncId)(p:J->Int->Bool)(xs:List (J))(ys:List (Int))(q:xs.length<=9223372036854775807)(hf:∀a b,aP prog f [.pv (bu a),.pv (Z b)] [] [] (.pv (B (p a b)))):kY 136 (.sl (xs.map bu)) (.sl (ys.map Z)) (Fv f) (B (decide (xs.length=ys.length)&&fl p xs ys)):=by
 refine Dp func136 λC hP hN=>?_;by_cases k:xs.length=ys.length
 .skip
  refine Gz ?_;refine WP.loopN [8] xs.length (λi st=>st.t 0=.pv (.sl (xs.map bu))/\st.t 1=.pv (.sl (ys.map Z))/\st.t 2=.pv (Fv f)/\st.t 14=.pv (.sl (xs.map bu))/\st.t 15=.pv (Z xs.length)/\st.t 16=.pv (Z i)/\st.h 8=none/\gc p xs ys i=true) (by simp[gc,k]) ?_;rintro i st hi ⟨l,m,n,e,g,j,o,hq⟩;by_cases c:i<xs.length
  .have r:=aj c q
   have d:i<ys.length:=by omega
   have hF:p xs[i] ys[i]=false->fl p xs ys=false:=km c d;have hS:p xs[i] ys[i]=true->gc p xs ys (i+1)=true:=lm c d hq
   with_reducible repeat' (first|refine Sp.h ?_|((first|refine Wd ?_|refine Ss.h ?_|refine Sc.h (hf _ _) ?_|(refine Sb.h ?_ ?_ ?_<;>(try intro hgd)<;>try exact Xy))<;>simp -implicitDefEqProofs (maxSteps:=2000000) [hP,hN,l,m,n,e,g,j,o,c,d,r]<;>try refine Ya ?_)|refine X2 ?_ ?_|(refine Xd ?_ ?_<;>intro hcd<;>try exact Xx))
   all_goals first|exact hF (by simpa using hcd)|simpa using hS (by simpa using hcd)
  .skip
   refine Gz ?_
   all_goals simp[k,ln c hq]
 .skip
  exact Gy
  all_goals simp[k]
theorem Pk(f:FuncId)(p:J->Int×Int->Bool)(xs:List (J))(ys:List (Int×Int))(q:xs.length<=9223372036854775807)(hf:∀a b,aP prog f [.pv (bu a),.pv (aC b)] [] [] (.pv (B (p a b)))):kY 167 (.sl (xs.map bu)) (.sl (ys.map aC)) (Fv f) (B (decide (xs.length=ys.length)&&fl p xs ys)):=by
 refine Dp func167 λC hP hN=>?_;by_cases k:xs.length=ys.length
 .skip
  refine Gz ?_;refine WP.loopN [8] xs.length (λi st=>st.t 0=.pv (.sl (xs.map bu))/\st.t 1=.pv (.sl (ys.map aC))/\st.t 2=.pv (Fv f)/\st.t 14=.pv (.sl (xs.map bu))/\st.t 15=.pv (Z xs.length)/\st.t 16=.pv (Z i)/\st.h 8=none/\gc p xs ys i=true) (by simp[gc,k]) ?_;rintro i st hi ⟨l,m,n,e,g,j,o,hq⟩;by_cases c:i<xs.length
  .have r:=aj c q
   have d:i<ys.length:=by omega
   have hF:p xs[i] ys[i]=false->fl p xs ys=false:=km c d;have hS:p xs[i] ys[i]=true->gc p xs ys (i+1)=true:=lm c d hq
   with_reducible repeat' (first|refine Sp.h ?_|((first|refine Wd ?_|refine Ss.h ?_|refine Sc.h (hf _ _) ?_|(refine Sb.h ?_ ?_ ?_<;>(try intro hgd)<;>try exact Xy))<;>simp -implicitDefEqProofs (maxSteps:=2000000) [hP,hN,l,m,n,e,g,j,o,c,d,r]<;>try refine Ya ?_)|refine X2 ?_ ?_|(refine Xd ?_ ?_<;>intro hcd<;>try exact Xx))
   all_goals first|exact hF (by simpa using hcd)|simpa using hS (by simpa using hcd)
  .skip
   refine Gz ?_
   all_goals simp[k,ln c hq]
 .skip
  exact Gy
  all_goals simp[k]
def Et(j:J)(x:Int):Bool:=decide (j.lo<=x)&&decide (x<=j.hi)
def iM(j:J):Int×Int:=(j.lo,j.hi)
theorem Pl(j:J)(x:Int):aK 137 (bu j) (Z x) (B (Et j x)):=by
 refine Dp func137 λC hP hN=>?_
 with_reducible repeat' (first|refine Sp.h ?_|((first|refine Ss.h ?_|(refine Sb.h ?_ ?_ ?_<;>(try intro hgd)<;>try exact Xy))<;>simp -implicitDefEqProofs (maxSteps:=2000000) [hP,hN])|refine X2 ?_ ?_|(refine Xd ?_ ?_<;>intro hcd<;>try exact Xx))
 all_goals (simp_all[Et]<;>omega)
theorem LH(j:J):aR 114 (bu j) (aC (iM j)):=by
 refine Dp func114 λC hP hN=>?_;refine Gz ?_
 all_goals simp[iM]
theorem Pm(j:J)(x:Int×Int):aK 168 (bu j) (aC x) (B (dV x (iM j))):=by
 refine Dp func168 λC hP hN=>?_;have a:=@LH;have b:=KI x (j.lo,j.hi);exact GS @iM.eq_1
def lK(js:List J)(ms:List Ms)(c:List Int):Bool:=decide (aW js ms=0)&&decide (js.length=c.length)&&fl Et js c
theorem Oy(js:List J)(ms:List Ms)(c:List Int)(d:js.length<=9223372036854775807)(f:ms.length<=9223372036854775807):aK 78 (iN js ms) (zs c) (B (lK js ms c)):=by
 have i:=Pj 137 Et js c d Pl;by_cases a:aW js ms=0
 .have e:lK js ms c=(decide (js.length=c.length)&&fl Et js c):=by simp[lK,a]
  rw[e];generalize(decide (js.length=c.length)&&fl Et js c)=u at *;refine Dp func78 λC hP hN=>?_;have g:=sq js ms d f;exact GS a
 .have e:lK js ms c=false:=by simp[lK,a]
  have b:(aW js ms==0)=false:=by simp[a]
  rw[e];refine Dp func78 λC hP hN=>?_;have g:=sq js ms d f;exact GS (gA a b)
def al(js:List J)(ms:List Ms):List (Int×Int):=if aW js ms=0 then js.map iM else[]
theorem qc{ms:List Ms}(h:aW js ms=0):0<js.length/\js.length<=10:=by
 unfold aW at h;split at h
 all_goals omega
theorem SC(js:List J)(ms:List Ms)(d:js.length<=9223372036854775807)(f:ms.length<=9223372036854775807):aR 56 (iN js ms) (iv (al js ms)):=by
 by_cases a:aW js ms=0
 .have e:=qc a
  have i:=Py 114 iM js (by omega) LH
  have c:al js ms=js.map iM:=by simp[al,a]
  rw[c];generalize js.map iM=u at *;refine Dp func56 λC hP hN=>?_;have g:=sq js ms d f;exact GS a
 .have c:al js ms=[]:=by simp[al,a]
  have b:(aW js ms !=0)=true:=by simp[a]
  rw[c];refine Dp func56 λC hP hN=>?_;have g:=sq js ms d f;exact GS (gA a b)
theorem LJ(js:List J)(ms:List Ms)(k:js.length<=9223372036854775807)(n:ms.length<=9223372036854775807):aR 12 (iN js ms) (iv (al js ms)):=by
 by_cases a:aW js ms=0
 .have m:=qc a
  have b:(aW js ms !=0)=false:=by simp[a]
  have l:al js ms=js.map iM:=by simp[al,a]
  rw[l];refine Dp func12 λC hP hN=>?_;have r:=Cz js ms k n;refine sP [3] (gA a b) ?_;refine WP.loopN [] js.length (λi st=>st.t 1=.ptr 1 0/\st.h 1=some (.box [.pv (.sl (js.map bu)),.pv (.sl (ms.map cG))] true false)/\st.t 4=.pv (Z i)/\st.t 3=.arr 3 i/\st.h 3=some (.row 99 2 ((js.map λj=>I j.lo j.hi).take i) 0)) (by simp) ?_;rintro i st hi ⟨g1,e,g4,g3,g⟩;by_cases c:i<js.length
  .have q:=aj c k
   have o:min i js.length=i:=by omega
   have p:=BF (f:=λj:J=>I j.lo j.hi) c
   with_reducible repeat' (first|refine Sp.h ?_|((first|refine Wd ?_|refine Ss.h ?_|(refine Sb.h ?_ ?_ ?_<;>(try intro hgd)<;>try exact Xy))<;>simp -implicitDefEqProofs (maxSteps:=2000000) [hP,hN,g1,e,g4,g3,g,c,q,o,p,show(i+1)*16<=140737488355328 by omega,show i+1<=9223372036854775807 by omega]<;>try refine Ya ?_)|refine X2 ?_ ?_|(refine Xd ?_ ?_<;>intro hcd<;>try exact Xx))
  .have o:min i js.length=i:=by omega
   refine Gz ?_;have d:List.take i (js.map λj=>I j.lo j.hi)=js.map λj=>I j.lo j.hi:=Us (by simp;omega)
   first|exact d|(simp only[List.map_map];exact d)|(simp[iM];exact d)
 .have l:al js ms=[]:=by simp[al,a]
  have b:(aW js ms !=0)=true:=by simp[a]
  rw[l];refine Dp func12 λC hP hN=>?_;have r:=Cz js ms k n;exact GS (gA a b)
def io(js:List J)(ms:List Ms)(b:List (Int×Int)):Bool:=decide (aW js ms=0)&&decide (js.length=b.length)&&fl (λj x=>dV x (iM j)) js b
theorem Oz(js:List J)(ms:List Ms)(b:List (Int×Int))(d:js.length<=9223372036854775807)(f:ms.length<=9223372036854775807):aK 94 (iN js ms) (iv b) (B (io js ms b)):=by
 have i:=Pk 168 (λj x=>dV x (iM j)) js b d Pm;by_cases a:aW js ms=0
 .have e:io js ms b=(decide (js.length=b.length)&&fl (λj x=>dV x (iM j)) js b):=by simp[io,a]
  rw[e];generalize(decide (js.length=b.length)&&fl (λj x=>dV x (iM j)) js b)=u at *;refine Dp func94 λC hP hN=>?_;have g:=sq js ms d f;exact GS a
 .have e:io js ms b=false:=by simp[io,a]
  have c:(aW js ms==0)=false:=by simp[a]
  rw[e];refine Dp func94 λC hP hN=>?_;have g:=sq js ms d f;exact GS (gA a c)
def zg(js:List J)(ms:List Ms)(b:List (Int×Int)):Bool:=decide (b.length=js.length)&&bT vI b&&decide (aW js ms=0)
def og(js:List J)(ms:List Ms)(b:List (Int×Int)):Int:=if zg js ms b then(jN js b js.length).1 else -1
theorem Id{b:List (Int×Int)}(h1:i<js.length)(a:i<b.length)(h:2<=eR b[i]/\(jN js b i).2<wr (js[i].w*eR b[i])):jN js b (i+1)=((i:Int),wr (js[i].w*eR b[i])):=by
 simp[jN,h1,a,h]
theorem Eu{b:List (Int×Int)}(h1:i<js.length)(a:i<b.length)(h:¬(2<=eR b[i]/\(jN js b i).2<wr (js[i].w*eR b[i]))):jN js b (i+1)=jN js b i:=by
 simp only[jN,an h1,an a];rw[TQ h]
theorem Cu(x:Int×Int):aP prog 194 [.pv (aC x)] [] [] (.pv (Z (eR x))):=vf x.1 x.2
theorem Pn(js:List J)(ms:List Ms)(b:List (Int×Int))(q:js.length<=9223372036854775807)(v:ms.length<=9223372036854775807)(s:b.length<=9223372036854775807):aK 142 (iN js ms) (iv b) (Z (og js ms b)):=by
 cases e:zg js ms b with
 |false=>
  have x:og js ms b=-1:=by simp[og,e]
  rw[x];by_cases o:b.length=js.length
  .have d:((b.length:Int)!=js.length)=false:=by simp[o]
   have z:(bT vI b&&decide (aW js ms=0))=false:=by simpa[zg,o]using e
   refine Dp func142 λC hP hN=>?_;have A:=vi _ s;have B:=sq js ms q v;exact GS d
   all_goals simp_all
  .have d:((b.length:Int)!=js.length)=true:=by simp;omega
   refine Dp func142 λC hP hN=>?_;have A:=vi _ s;have B:=sq js ms q v;exact GS d
 |true=>
  have x:og js ms b=(jN js b js.length).1:=by simp[og,e]
  rw[x];simp only[zg,An,L4]at e;obtain⟨⟨o,F⟩,D⟩:=e
  have d:((b.length:Int)!=js.length)=false:=by simp[o]
  refine Dp func142 λC hP hN=>?_;have A:=vi _ s;have B:=sq js ms q v;refine GT (be d F D) ?_;refine WP.loopN [8] js.length (λi st=>st.t 2=.ptr 2 0/\st.h 2=some (.box [.pv (.sl (js.map bu)),.pv (.sl (ms.map cG))] true false)/\st.t 27=.pv (iv b)/\st.t 28=.pv (Z b.length)/\st.t 29=.pv (Z i)/\st.t 5=.pv (Z (jN js b i).1)/\st.t 6=.pv (Z (jN js b i).2)/\st.h 8=none) (by simp[jN]) ?_;rintro i st hi ⟨g2,k,f,g,j,g5,r,l⟩;by_cases a:i<js.length
  .have y:=aj a q
   have c:i<b.length:=by omega
   by_cases m:2<=eR b[i]
   .by_cases p:(jN js b i).2<wr (js[i].w*eR b[i])
    .have n:=Id a c ⟨m,p⟩
     with_reducible repeat' (first|refine Sp.h ?_|((first|refine Ss.h ?_|refine Sc.h (Cu _) ?_|(refine Sb.h ?_ ?_ ?_<;>(try intro hgd)<;>try exact Xy))<;>simp -implicitDefEqProofs (maxSteps:=2000000) [hP,hN,g2,k,f,g,j,g5,r,l,a,c,y,m,p])|refine X2 ?_ ?_|(refine Xd ?_ ?_<;>intro hcd<;>try exact Xx))
     all_goals simp[n]
    .have n:=Eu a c (λh=>p h.2)
     with_reducible repeat' (first|refine Sp.h ?_|((first|refine Ss.h ?_|refine Sc.h (Cu _) ?_|(refine Sb.h ?_ ?_ ?_<;>(try intro hgd)<;>try exact Xy))<;>simp -implicitDefEqProofs (maxSteps:=2000000) [hP,hN,g2,k,f,g,j,g5,r,l,a,c,y,m,p])|refine X2 ?_ ?_|(refine Xd ?_ ?_<;>intro hcd<;>try exact Xx))
     all_goals simp[n]
   .have n:=Eu a c (λh=>m h.1)
    with_reducible repeat' (first|refine Sp.h ?_|((first|refine Ss.h ?_|refine Sc.h (Cu _) ?_|(refine Sb.h ?_ ?_ ?_<;>(try intro hgd)<;>try exact Xy))<;>simp -implicitDefEqProofs (maxSteps:=2000000) [hP,hN,g2,k,f,g,j,g5,r,l,a,c,y,m])|refine X2 ?_ ?_|(refine Xd ?_ ?_<;>intro hcd<;>try exact Xx))
    all_goals simp[n]
  .have u:i=js.length:=by omega
   subst u
   have E:¬js.length<b.length:=by omega
   exact Gy
def vV(a:List Bx)(i:Nat):Bx:=a[i]?.getD []
def bk(a:List Bx)(p:List Int)(i:Nat):Bool:=Ah (vV a i) p
def yD(a:List Bx)(i j:Nat):Bool:=j0 (vV a i) (vV a j)
abbrev uK(l:List Nat):PV:=.sl (l.map λn:Nat=>Z (n:Int))
structure Spc where
 root:Bx
 cells:List Cel
 bx:List Bx
 near:List (List Nat)
 jn:List Int
 cc:Bool:=false
variable {s:Spc}
abbrev SW(s:Spc):PV:=.agg [iv s.root,.sl (s.cells.map br),.sl (s.bx.map iv),.sl (s.near.map uK),.sl (s.jn.map Z)]
abbrev m7(s:Spc):PV:=.rptr (SW s) 0
def ag(s:Spc)(v:Nat):List Nat:=(s.near[v]?).getD []
def dA(s:Spc)(i:Nat):Cel:=(s.cells[i]?).getD (aD aN)
def mj(s:Spc)(i:Nat):Int:=(s.jn[i]?).getD 0
def dl(s:Spc)(f:Int->Int->Bool)(i:Nat):Bool:=decide ((dA s i).low=-1)&&f (dA s i).v.kind (mj s i)
def gZ(s:Spc)(i:Nat):Bx:=(s.bx[i]?).getD []
def iu(near:List (List Nat)):List AV:=(List.range near.length).map λv=>.arr (v+300) ((near[v]?).getD []).length
abbrev dz:AV:=.pv (.val (.slice none 0 0))
def lZ(s:Spc):AV:=match s.cc with
 |true=>.pv (.sl (s.cells.map br))
 |false=>.arr 291 s.cells.length
theorem rT(h:s.cc=false):lZ s=.arr 291 s.cells.length:=by unfold lZ;rw[h]
theorem N5(h:s.cc=true):lZ s=.pv (.sl (s.cells.map br)):=by unfold lZ;rw[h]
theorem Mg(s:Spc):qI (lZ s)=true:=by unfold lZ;split<;>rfl
theorem CI{ks:List Nat}(h:ks.contains 291=false):bn ks (lZ s)=false:=by
 unfold lZ;split
 .rfl
 .simpa[bn,aH]using h
def bg(own:Bool)(s:Spc)(c:Nat):Hp:=λk=>
 if k=290 then some (.box [.pv (iv s.root),lZ s,.arr 292 s.bx.length,.ext (.barr 293 s.near.length (s.near.length+c)),.arr 294 s.jn.length] own false)
 else if k=291 then(match s.cc with
  |true=>none
  |false=>some (.row 80 8 (s.cells.map br) 0))
 else if k=292 then some (.row 30 1 (s.bx.map iv) 0)
 else if k=293 then some (.box (iu s.near++List.replicate c dz) true false)
 else if k=294 then some (.row 3 1 (s.jn.map Z) 0)
 else if 300<=k/\k<300+s.near.length then some (.row 3 1 ((ag s (k-300)).map λn:Nat=>Z (n:Int)) 0)
 else none
theorem cJ(near:List (List Nat)):(iu near).length=near.length:=by simp[iu]
theorem mm(h:v<near.length):(iu near)[v]?=some (.arr (v+300) ((near[v]?).getD []).length):=by simp[iu,h]
theorem oo(own:Bool)(s:Spc)(c:Nat):bg own s c 290=some (.box [.pv (iv s.root),lZ s,.arr 292 s.bx.length,.ext (.barr 293 s.near.length (s.near.length+c)),.arr 294 s.jn.length] own false):=rfl
theorem qE(own:Bool)(s:Spc)(c:Nat)(h:s.cc=false):bg own s c 291=some (.row 80 8 (s.cells.map br) 0):=by
 unfold bg;rw[TQ (by omega),T8 rfl,h]
theorem qF(own:Bool)(s:Spc)(c:Nat):bg own s c 292=some (.row 30 1 (s.bx.map iv) 0):=rfl
theorem oq(own:Bool)(s:Spc)(c:Nat):bg own s c 293=some (.box (iu s.near++List.replicate c dz) true false):=rfl
theorem sT(own:Bool)(s:Spc)(c:Nat):bg own s c 294=some (.row 3 1 (s.jn.map Z) 0):=rfl
theorem lL{own:Bool}(h:v<s.near.length):bg own s c (v+300)=some (.row 3 1 ((ag s v).map λn:Nat=>Z (n:Int)) 0):=by
 unfold bg;rw[TQ (by omega),TQ (by omega),TQ (by omega),TQ (by omega),TQ (by omega),T8 (by omega),Nat.add_sub_cancel]
theorem Ha{own:Bool}(h:295<=k):bg own s c k=none\/∃xs,bg own s c k=some (.row 3 1 xs 0):=by
 unfold bg;rw[TQ (by omega),TQ (by omega),TQ (by omega),TQ (by omega),TQ (by omega)];split
 .exact .inr ⟨_,rfl⟩
 .exact .inl rfl
theorem ot{own:Bool}(h:s.near.length<=4096):LookH (bg own s c):=by
 have cases:∀{k b},bg own s c k=some b->(k=290/\b=.box [.pv (iv s.root),lZ s,.arr 292 s.bx.length,.ext (.barr 293 s.near.length (s.near.length+c)),.arr 294 s.jn.length] own false)\/(k=293/\b=.box (iu s.near++List.replicate c dz) true false)\/(290<=k/\k<1000000/\∃e sz xs,b=.row e sz xs 0):=by
  intro k b a;unfold bg at a;split at a
  .rename_i e;injection a with a;exact .inl ⟨e,a.symm⟩
  .split at a
   .split at a
    .cases a
    .injection a with a;exact .inr (.inr ⟨by omega,by omega,_,_,_,a.symm⟩)
   .split at a
    .injection a with a;exact .inr (.inr ⟨by omega,by omega,_,_,_,a.symm⟩)
    .split at a
     .rename_i e;injection a with a;exact .inr (.inl ⟨e,a.symm⟩)
     .split at a
      .injection a with a;exact .inr (.inr ⟨by omega,by omega,_,_,_,a.symm⟩)
      .split at a
       .injection a with a;exact .inr (.inr ⟨by omega,by omega,_,_,_,a.symm⟩)
       .cases a
 have g:∀k,290<=k->k<1000000->inK k=true:=λk i j=>by simp[inK,i,j]
 refine⟨λk b a=>?_,λk b o a=>?_,λk b a=>?_,λk m o f a=>?_⟩
 .rcases cases a with⟨rfl,_⟩|⟨rfl,_⟩|⟨i,j,_⟩
  .rfl
  .rfl
  .exact g k i j
 .rcases cases a with⟨_,rfl⟩|⟨_,rfl⟩|⟨_,_,e,sz,xs,rfl⟩
  all_goals simp[Blk.frz]
 .rcases cases a with⟨_,rfl⟩|⟨_,rfl⟩|⟨_,_,e,sz,xs,rfl⟩<;>rfl
 .rcases cases a with⟨_,e⟩|⟨_,e⟩|⟨_,_,e,sz,xs,l⟩
  .injection e with e;subst e
   intro x d;simp only[Ut,Uz,UX]at d
   rcases d with rfl|rfl|rfl|rfl|rfl<;>first|exact Mg s|rfl
  .injection e with e;subst e
   intro x d;rcases Ui.1 d with d|d
   .simp only[iu,Ur,UH]at d
    obtain⟨v,n,rfl⟩:=d;exact g (v+300) (by omega) (by omega)
   .rw[(List.mem_replicate.1 d).2];rfl
  .cases l
theorem EH{cs:List AV}{f:Bool}(h:bg false s c k=some (.box cs false f)):k=290:=by
 unfold bg at h;split at h
 .assumption
 .exfalso
  repeat' split at h
  all_goals cases h
theorem yf{rs:List ResultVar}{a:AV->Hp->Prop}{r:AV}{s':Spc}{c':Nat}(h1:mh P st rs=some r)(g:qI r=true)(e:s'.near.length<=4096)(hp:a r (bg false s' c'))(b:∀k,inK k=true->st.h k=bg false s' c' k):xI P rs (bg false s c) a st:=
 vY h1 g b (ot e) hp λk i f d=>by rw[EH d];exact⟨_,rfl⟩
theorem A8{own:Bool}{a:List (List Nat)}(g:a.length=s.near.length)(h1:k≠293)(b:∀v,k=v+300->v<s.near.length->a[v]?=s.near[v]?):bg own {s with near:=a} c k=bg own s c k:=by
 unfold bg;simp only[g];by_cases e:300<=k/\k<300+s.near.length
 .have d:=b (k-300) (by omega) (by omega)
  have f:ag {s with near:=a} (k-300)=ag s (k-300):=by simp only[ag,d]
  simp only[TQ h1,f];rfl
 .simp only[TQ h1,TQ e]
  rfl
theorem ip{l:List α}{x:α}(h:l[i]?=some x)(hi:i<l.length):l[i]'hi=x:=(th.1 h).2
def fG(s:Spc)(a b:Nat):Spc:=if j0 (gZ s a) (gZ s b)then{s with near:=(s.near.set a (ag s a++[b])).set b (ag s b++[a])}else s
theorem IC{a b:Nat}{x y:List Nat}(f:a≠b):iu ((near.set a x).set b y)=((iu near).set a (.arr (a+300) x.length)).set b (.arr (b+300) y.length):=by
 apply UI;intro v;simp only[iu,Vr];by_cases d:v<near.length
 .by_cases c:b=v
  .subst c
   simp[Ub,d]
  .by_cases e:a=v
   .subst e
    simp[Ub,d,c]
   .simp[Ub,d,e,c]
 .rw[Uc (by simp;omega),Uc (by simp;omega)]
theorem PM(s:Spc)(c a b:Nat)(hn:s.near.length<=4096)(u:a<s.near.length)(z:b<s.near.length)(j:a≠b)(Y:s.bx.length=s.near.length)(N:∀x∈s.bx,x.length<=9223372036854775807)(B:∀v,(ag s v).length<=4096):
 nh prog 141 [.ptr 290 0,.pv (Z a),.pv (Z b)] (bg false s c) (λ_ X=>X=bg false (fG s a b) c):=by
 have l:s.bx[a]?=some (gZ s a):=by simp[gZ,an (by omega:a<s.bx.length)]
 have A:s.bx[b]?=some (gZ s b):=by simp[gZ,an (by omega:b<s.bx.length)]
 have U:=PB (gZ s a) (gZ s b) (N _ (Is l))
 have f:a<s.bx.length:=by omega
 have g:b<s.bx.length:=by omega
 have p:=ip l f;have r:=ip A g;have m:=oo false s c;have n:=qF false s c;have o:=oq false s c;refine Gr func141 (ot (by omega)) ?_;intro C hP hN;simp only[f141]at hN|-
 cases D:j0 (gZ s a) (gZ s b)with
 |false=>
  rw[D]at U
  have P:fG s a b=s:=by simp[fG,D]
  rw[P];generalize I:bg false s c=H at *;refine GT (s5 @sF.eq_1 m n f g l A (gA p r)) ?_;subst I;exact yf (s':=s) (c':=c) rfl rfl hn rfl (λ_ _=>rfl)
 |true=>
  rw[D]at U
  have P:fG s a b={s with near:=(s.near.set a (ag s a++[b])).set b (ag s b++[a])}:=by simp[fG,D]
  rw[P];have Q:=lL (own:=false) (s:=s) (c:=c) u;have R:=lL (own:=false) (s:=s) (c:=c) z;obtain⟨d,i⟩:∃d,d=iu s.near++List.replicate c dz:=⟨_,rfl⟩
  have O:d.length=s.near.length+c:=by rw[i];simp[cJ]
  have S:d[a]?=some (.arr (a+300) (ag s a).length):=by rw[i,T4 (by rw[cJ];exact u),mm u];rfl
  have T:d[b]?=some (.arr (b+300) (ag s b).length):=by rw[i,T4 (by rw[cJ];exact z),mm z];rfl
  have E:∀h,d[a]'h=.arr (a+300) (ag s a).length:=λh=>ip S h;have F:∀h,d[b]'h=.arr (b+300) (ag s b).length:=λh=>ip T h;have sa:∀x,d.take a++x::d.drop (a+1)=d.set a x:=λx=>pW (by omega);have sb:∀x y,(d.set a x).take b++y::(d.set a x).drop (b+1)=(d.set a x).set b y:=λx y=>pW (by simp;omega)
  have J:a+1<=s.near.length+c:=by omega
  have L:b+1<=s.near.length+c:=by omega
  have K:a<s.near.length+c:=by omega
  have M:b<s.near.length+c:=by omega
  have q:¬b=a:=λe=>j e.symm;have la:=B a;have lb:=B b;rw[<-i]at o;generalize I:bg false s c=H at *;refine GP (zAa @sF.eq_1 m n o f g l A p r Q R O S (zAa T E F sa sb u z J L K M j q (show¬a+300=290 by omega) (s7 (show¬b+300=290 by omega) (show¬a+300=293 by omega) (show¬b+300=293 by omega) (show¬293=a+300 by omega) (show¬293=b+300 by omega) (show¬290=a+300 by omega) (show¬290=b+300 by omega) (show a+300<2000000 by omega) (show b+300<2000000 by omega) (show((ag s a).length+1)*8<=140737488355328 by omega) (show((ag s b).length+1)*8<=140737488355328 by omega) (gA (show(ag s a).length+1<=9223372036854775807 by omega) (show(ag s b).length+1<=9223372036854775807 by omega))))) ?_;subst I;refine yf (s':={s with near:=(s.near.set a (ag s a++[b])).set b (ag s b++[a])}) (c':=c) rfl rfl (by simp only[Vr];exact hn) rfl (λk hk=>?_);by_cases G:k=293
  .subst G
   rw[oq];simp only[IC j];simp[ae,i,VR,cJ,u,z,show¬293=a+300 by omega,show¬293=b+300 by omega]
  .by_cases V:k=b+300
   .subst V
    rw[lL (by simp only[Vr];exact z)];simp[ae,ag,Ub,z]
   .by_cases W:k=a+300
    .subst W
     rw[lL (by simp only[Vr];exact u)];simp[ae,ag,Ub,u,q,j]
    .rw[A8 (by simp) G (λv hv ad=>by rw[Ub,TQ (by omega),Ub,TQ (by omega)])]
     simp[ae,G,V,W]
def hC(s:Spc)(leaf:Nat)(joint:Int):Spc:=
 {root:=s.root,cells:=s.cells.set leaf ⟨joint,s.cells.length,s.cells.length+1,aN⟩++[aD aN,aD aN],bx:=s.bx++[dg (gZ s leaf) joint,dh (gZ s leaf) joint],near:=s.near.set leaf []++[[],[]],jn:=s.jn++[-1,-1]}
def jc(s:Spc)(k leaf:Nat):Spc:={s with near:=s.near.set k ((ag s k).erase leaf)}
def fH(low leaf:Nat)(s:Spc)(k:Nat):Spc:=fG (fG (jc s k leaf) low k) (low+1) k
def gn(s:Spc)(leaf:Nat)(joint:Int):Spc:=fG ((ag s leaf).foldl (fH s.cells.length leaf) (hC s leaf joint)) s.cells.length (s.cells.length+1)
theorem pj{a b:Nat}(f:a≠b)(g:a<s.near.length)(i:b<s.near.length):ag (fG s a b) v=if j0 (gZ s a) (gZ s b)=true/\(v=a\/v=b)then ag s v++[if v=a then b else a]else ag s v:=by
 unfold fG
 cases j:j0 (gZ s a) (gZ s b)with
 |false=>simp
 |true=>
  by_cases c:v=b
  .subst c
   simp[ag,Ub,i,show¬v=a from λe=>f e.symm]
  .by_cases d:v=a
   .subst d
    simp[ag,Ub,g,c,show¬b=v from λe=>c e.symm]
   .simp[ag,Ub,c,d,show¬b=v from λe=>c e.symm,show¬a=v from λe=>d e.symm]
theorem lp(s:Spc)(a b:Nat):(fG s a b).near.length=s.near.length/\(fG s a b).bx=s.bx/\(fG s a b).cells=s.cells/\(fG s a b).jn=s.jn/\(fG s a b).root=s.root:=by
 unfold fG;split<;>simp
theorem yg(a:k<s.near.length):ag (jc s k leaf) v=if v=k then(ag s k).erase leaf else ag s v:=by
 unfold jc;by_cases h:v=k
 .subst h;simp[ag,Ub,a]
 .simp[ag,Ub,h,show¬k=v from λe=>h e.symm]
theorem A9(low leaf:Nat)(s:Spc)(k:Nat):(fH low leaf s k).near.length=s.near.length/\(fH low leaf s k).bx=s.bx/\(fH low leaf s k).cells=s.cells/\(fH low leaf s k).jn=s.jn/\(fH low leaf s k).root=s.root:=by
 unfold fH;obtain⟨a,b,a3,a4,c⟩:=lp (fG (jc s k leaf) low k) (low+1) k;obtain⟨d,e,f,g,i⟩:=lp (jc s k leaf) low k;rw[a,b,a3,a4,c,d,e,f,g,i];simp[jc]
theorem Hb{low:Nat}(f:low+1<s.near.length)(e:k<low)(a:v≠k)(b:v≠low)(c:v≠low+1):ag (fH low leaf s k) v=ag s v:=by
 obtain⟨d,_⟩:=lp (jc s k leaf) low k
 have hd:(jc s k leaf).near.length=s.near.length:=by simp[jc]
 unfold fH;rw[pj (by omega) (by omega) (by omega),TQ (by omega),pj (by omega) (by omega) (by omega),TQ (by omega),yg (by omega),TQ a]
theorem IF{low:Nat}(g:low+1<s.near.length)(f:k<low):(ag (fH low leaf s k) v).length<=(ag s v).length+(if v=k then 2 else if v=low\/v=low+1 then 1 else 0):=by
 obtain⟨d,_⟩:=lp (jc s k leaf) low k
 have hd:(jc s k leaf).near.length=s.near.length:=by simp[jc]
 have e:((ag s k).erase leaf).length<=(ag s k).length:=List.length_erase_le;unfold fH;rw[pj (by omega) (by omega) (by omega),pj (by omega) (by omega) (by omega),yg (by omega)];by_cases h:v=k
 .subst h
  simp only[Ul];split<;>split<;>simp<;>omega
 .rw[TQ h,TQ h]
  by_cases a:v=low
  .subst a
   rw[TQ (by omega)];split<;>simp
  .by_cases b:v=low+1
   .subst b
    rw[TQ (c:=j0 (gZ (jc s k leaf) low) (gZ (jc s k leaf) k)=true/\(low+1=low\/low+1=k)) (by omega)];split<;>simp
   .rw[TQ (by omega),TQ (by omega)]
    simp[a,b]
theorem Ak(s:Spc)(a b:Nat):(fG s a b).cc=s.cc:=by unfold fG;split<;>rfl
theorem EI(low leaf:Nat)(s:Spc)(k:Nat):(fH low leaf s k).cc=s.cc:=by unfold fH;rw[Ak,Ak];rfl
structure LpI(s0:Spc)(n leaf:Nat)(old:List Nat)(i:Nat)(s:Spc):Prop where
 nl:s.near.length=n+2
 bx:s.bx=s0.bx
 cells:s.cells=s0.cells
 jn:s.jn=s0.jn
 root:s.root=s0.root
 cc:s.cc=s0.cc
 low:∀k,k<n->k∉old.take i->ag s k=ag s0 k
 len:∀v,(ag s v).length<=(ag s0 v).length+2+(if v<n then 0 else i)
theorem LpI.step{l:Spc}(h:LpI l n leaf old i s)(d:old.Nodup)(q:old[i]?=some k)(a:k<n):LpI l n leaf old (i+1) (fH n leaf s k):=by
 obtain⟨m,o,a3,a4,p⟩:=A9 n leaf s k
 have j:old.take (i+1)=old.take i++[k]:=by rw[Wj,q];rfl
 have f:k∉old.take i:=by
  have:=(List.take_sublist (i+1) old).nodup d;rw[j,VN]at this;intro b;exact this.2.2 k b k (by simp) rfl
 refine⟨m.trans h.nl,o.trans h.bx,a3.trans h.cells,a4.trans h.jn,p.trans h.root,(EI n leaf s k).trans h.cc,λv r b=>?_,λv=>?_⟩
 .rw[j]at b
  simp only[Ui,UC,not_or]at b;rw[Hb (by rw[h.nl];omega) a b.2 (by omega) (by omega),h.low v r b.1]
 .have c:=IF (leaf:=leaf) (v:=v) (s:=s) (by rw[h.nl];omega) a
  have g:=h.len v;by_cases e:v=k
  .subst e
   rw[T8 rfl]at c;rw[h.low v a f]at c;rw[T8 a];omega
  .rw[TQ e]at c
   split at c
   .rw[TQ (by omega)]at g|-
    omega
   .split at g
    .rw[T8 (by assumption)];omega
    .rw[TQ (by assumption)];omega
theorem qZ{joint:Int}(b:leaf<s.near.length):ag (hC s leaf joint) v=if v=leaf then[]else ag s v:=by
 unfold hC ag;simp only;by_cases h:v<s.near.length
 .rw[T4 (by simpa using h),Ub]
  by_cases e:v=leaf
  .subst e;simp[b]
  .simp[e,show¬leaf=v from λa=>e a.symm]
 .rw[T7 (by simpa using(by omega:s.near.length<=v)),TQ (by omega),Uc (l:=s.near) (by omega)]
  simp only[Vr]
  match v-s.near.length with
  |0=>rfl
  |1=>rfl
  |m+2=>simp
theorem LpI.zero{joint:Int}(hn:s.near.length=n):LpI (hC s leaf joint) n leaf old 0 (hC s leaf joint):=
 ⟨by simp[hC,hn],rfl,rfl,rfl,rfl,rfl,λ_ _ _=>rfl,λ_=>by omega⟩
section
variable {n:Nat} {may has:Nat->Bool} {tch:Nat->Nat->Bool}
inductive Vis(may:Nat->Bool)(k:Nat)(s:BS):List Nat->BS->Prop
 |nil:Vis may k s [] s
 |hit {c s1 i} (h:Vis may k s c s1) (h0:ay s1.far i=0) (hm:may i=true):Vis may k s (c++[i]) (rC s1 k i)
 |miss {c s1 i} (h:Vis may k s c s1) (h0:ay s1.far i=0->may i=false):Vis may k s (c++[i]) s1
structure VI(n:Nat)(may has:Nat->Bool)(tch:Nat->Nat->Bool)(s:BS)(k:Nat)(c:List Nat)(s1:BS):Prop where
 inv:BInv2 n may has tch s1
 le:s.q.length<=s1.q.length
 qs:∀a,a<s.q.length->dy s1 a=dy s a
 keep:∀i,1<=ay s.far i->ay s1.far i=ay s.far i
 inq:∀i,1<=ay s1.far i->i∈s1.q
 qn:∀a,s.q.length<=a->a<s1.q.length->ay s1.far (dy s1 a)=ay s.far (dy s k)+1
 vis:∀i∈c,may i=true->1<=ay s1.far i
theorem EB{s:BS}{l:List Int}{a:Nat}(h:a<s.q.length):dy ⟨l,s.q++[i]⟩ a=dy s a:=by
 unfold dy;rw[T4 h]
theorem KO{s:BS}{l:List Int}:dy ⟨l,s.q++[i]⟩ s.q.length=i:=by
 unfold dy;rw[T7 (Ua _)];simp
theorem EC{s d:BS}{c:List Nat}(D:BInv2 n may has tch s)(A:k<s.q.length)(hq:∀i,1<=ay s.far i->i∈s.q)(h:Vis may k s c d)(x:∀i∈c,i<n/\tch i (dy s k)=true):VI n may has tch s k c d:=by
 induction h with
 |nil=>exact⟨D,Ua _,λ_ _=>rfl,λ_ _=>rfl,hq,λa F J=>by omega,λi hi=>by cases hi⟩
 |@hit c d i h r G ih=>
  have I:=ih λj b=>x j (VT _ b);obtain⟨hi,H⟩:=x i (by simp);have p:=I.qs k A
  have B:dy s k∈s.q:=by
   unfold dy;rw[an A];exact Uo _
  have y:=(D.mem _ B)
  have m:ay d.far (dy d k)=ay s.far (dy s k):=by rw[p];exact I.keep _ y.2
  have z:i<d.far.length:=by rw[I.inv.len];exact hi
  have f:∀j,ay (rC d k i).far j=if j=i then ay s.far (dy s k)+1 else ay d.far j:=λj=>by
   simp only[rC];rw[lT z,m]
  have o:∀j,1<=ay d.far j->j≠i:=λj b e=>by rw[e,r]at b;omega
  have l:dy d k∈d.q:=by
   unfold dy;rw[an (UU A I.le)];exact Uo _
  refine⟨?_,?_,?_,?_,?_,?_,?_⟩
  .refine I.inv.put hi r (by rw[m];omega) G (by have:=I.inv.top (dy d k);omega) (.inr ⟨dy d k,(I.inv.mem _ l).1,by omega,(I.inv.mem _ l).2,by rw[p];exact H⟩)
  .simp only[rC,Um,UZ];have:=I.le;omega
  .intro a u
   have:=I.le;rw[<-I.qs a u];exact EB (by omega)
  .intro j b
   have:=I.keep j b;rw[f,TQ (o j (by omega)),this]
  .intro j b
   rw[f]at b;simp only[rC,Ui,UC];split at b
   .rename_i e;exact .inr e
   .exact .inl (I.inq j b)
  .intro a u v
   simp only[rC,Um,UZ]at v;by_cases e:a<d.q.length
   .have E:dy (rC d k i) a=dy d a:=EB e
    have C:dy d a∈d.q:=by
     unfold dy;rw[an e];exact Uo _
    rw[E,f,TQ (o _ (I.inv.mem _ C).2)];exact I.qn a u e
   .have:a=d.q.length:=by omega
    subst this;rw[show dy (rC d k i) d.q.length=i from KO,f,T8 rfl]
  .intro j b g
   rw[f];split
   .omega
   .rename_i e
    rcases Ui.1 b with b|b
    .exact I.vis j b g
    .exact absurd (UC.1 b) e
 |@miss c d i h r ih=>
  have I:=ih λj b=>x j (VT _ b);refine⟨I.inv,I.le,I.qs,I.keep,I.inq,I.qn,λj b g=>?_⟩;rcases Ui.1 b with b|b
  .exact I.vis j b g
  .rw[UC.1 b]at g|-
   have F:=I.inv.nn i;by_cases e:ay d.far i=0
   .rw[r e]at g;cases g
   .omega
structure BO(n:Nat)(may has:Nat->Bool)(tch:Nat->Nat->Bool)(s:BS)(k:Nat):Prop where
 inv:BInv2 n may has tch s
 inq:∀i,1<=ay s.far i->i∈s.q
 mono:∀a b,a<=b->b<s.q.length->ay s.far (dy s a)<=ay s.far (dy s b)
 top:∀b,b<s.q.length->k<s.q.length->ay s.far (dy s b)<=ay s.far (dy s k)+1
 start:∀i,i<n->may i=true->has i=true->ay s.far i=1
 done:∀a,a<k->a<s.q.length->∀i,i<n->may i=true->tch i (dy s a)=true->1<=ay s.far i/\ay s.far i<=ay s.far (dy s a)+1
theorem Mc{s:BS}(h:i∈s.q):∃a,a<s.q.length/\dy s a=i:=by
 obtain⟨a,b⟩:=UB h;exact⟨a,(th.1 b).1,by simp[dy,b]⟩
theorem zq{s:BS}{a:Nat}(h:a<s.q.length):dy s a∈s.q:=by
 unfold dy;rw[an h];exact Uo _
theorem BO.step{s f:BS}{c:List Nat}(H:BO n may has tch s k)(m:k<s.q.length)(h:Vis may k s c f)(D:∀i∈c,i<n/\tch i (dy s k)=true)(p:∀i,i<n->may i=true->tch i (dy s k)=true->i∈c\/i=dy s k):BO n may has tch f (k+1):=by
 have I:=EC H.inv m H.inq h D;have F:=I.le
 have d:∀a,a<s.q.length->ay f.far (dy f a)=ay s.far (dy s a):=λa x=>by
  rw[I.qs a x];exact I.keep _ (H.inv.mem _ (zq x)).2
 have up:∀b,b<f.q.length->ay f.far (dy f b)<=ay s.far (dy s k)+1:=by
  intro b j;by_cases e:b<s.q.length
  .rw[d b e];exact H.top b e m
  .rw[I.qn b (by omega) j];omega
 have mono:∀a b,a<=b->b<f.q.length->ay f.far (dy f a)<=ay f.far (dy f b):=by
  intro a b y j;by_cases e:b<s.q.length
  .rw[d b e,d a (by omega)];exact H.mono a b y e
  .rw[I.qn b (by omega) j];exact up a (by omega)
 refine⟨I.inv,I.inq,mono,?_,?_,?_⟩
 .intro b j A
  have l:=mono k (k+1) (by omega) A;rw[d k m]at l;have:=up b j;omega
 .intro i hi r E
  have l:=H.start i hi r E;rw[I.keep i (by omega)];exact l
 .intro a x C i hi r u
  by_cases e:a<k
  .have g:a<s.q.length:=by omega
   rw[I.qs a g]at u;obtain⟨l,B⟩:=H.done a e g i hi r u;rw[I.keep i l,d a g];exact⟨l,B⟩
  .have e:a=k:=by omega
   subst e;rw[I.qs a m]at u;rw[d a m];rcases p i hi r u with v|v
   .have o:=I.vis i v r
    obtain⟨b,j,z⟩:=Mc (I.inq i o);have:=up b j;rw[z]at this;exact⟨o,this⟩
   .have o:=(H.inv.mem _ (zq m)).2
    rw[v,I.keep _ o];exact⟨o,by omega⟩
theorem BO.stay{s:BS}(H:BO n may has tch s k)(e:¬k<s.q.length):BO n may has tch s (k+1):=
 ⟨H.inv,H.inq,H.mono,λb _ h=>by omega,H.start,λa d c=>H.done a (by omega) c⟩
theorem G4:∀i,i<=n->(∀j,1<=ay (bI n may has i).far j->j∈(bI n may has i).q/\ay (bI n may has i).far j=1)/\∀j,j<i->may j=true->has j=true->ay (bI n may has i).far j=1
 |0,_=>by
  refine⟨λj a=>?_,λj a=>by omega⟩
  have m:ay (List.replicate n (0:Int)) j=0:=by simp only[ay,Uv];split<;>rfl
  simp only[bI,m]at a;omega
 |i+1,hi=>by
  obtain⟨k,l⟩:=G4 i (by omega);have c:=(vU (n:=n) (may:=may) (has:=has) (tch:=λ_ _=>true) i (by omega)).1
  have b:i<(bI n may has i).far.length:=by rw[c.len];omega
  simp only[bI];split
  .rename_i d
   simp only[An]at d;refine⟨λj a=>?_,λj a g f=>?_⟩
   .rw[lT b]at a|-
    split
    .rename_i e;exact⟨by simp[e],rfl⟩
    .rename_i e
     rw[TQ e]at a;exact⟨VT _ (k j a).1,(k j a).2⟩
   .rw[lT b]
    split
    .rfl
    .exact l j (by omega) g f
  .rename_i d
   refine⟨k,λj a g f=>?_⟩;by_cases e:j=i
   .subst e;rw[g,f]at d;exact absurd rfl d
   .exact l j (by omega) g f
theorem BO.init:BO n may has tch (bI n may has n) 0:=by
 obtain⟨e,j⟩:=G4 (n:=n) (may:=may) (has:=has) n (Ua _);have c:=(vU (n:=n) (may:=may) (has:=has) (tch:=tch) n (Ua _)).1;have one:∀a,a<(bI n may has n).q.length->ay (bI n may has n).far (dy (bI n may has n) a)=1:=λa f=>(e _ (c.mem _ (zq f)).2).2;refine⟨c,λi hi=>(e i hi).1,λa b k d=>?_,λb d g=>?_,λi hi m l=>j i hi m l,λa f=>by omega⟩
 .rw[one a (by omega),one b d];omega
 .rw[one b d,one 0 g];omega
structure FarOk(n:Nat)(may has:Nat->Bool)(tch:Nat->Nat->Bool)(far:List Int):Prop where
 len:far.length=n
 nn:∀i,0<=ay far i
 rng:∀i,1<=ay far i->i<n/\may i=true
 start:∀i,i<n->may i=true->has i=true->ay far i=1
 back:∀i,1<=ay far i->(ay far i=1/\has i=true)\/∃p,p<n/\ay far p=ay far i-1/\1<=ay far p/\tch i p=true
 clo:∀p i,1<=ay far p->i<n->may i=true->tch i p=true->1<=ay far i/\ay far i<=ay far p+1
theorem BO.fin{s:BS}(H:BO n may has tch s k)(e:s.q.length<=k):FarOk n may has tch s.far:=by
 refine⟨H.inv.len,H.inv.nn,λi hi=>⟨?_,H.inv.may' i hi⟩,H.start,H.inv.back,λp i hp hi c d=>?_⟩
 .exact(H.inv.mem i (H.inq i hi)).1
 .obtain⟨a,b,rfl⟩:=Mc (H.inq p hp)
  exact H.done a (by omega) b i hi c d
theorem CB(h:FarOk n may has tch far)(h':FarOk n may has tch' far')(j:∀i p,i<n->may i=true->p<n->may p=true->i≠p->tch i p=true->tch' i p=true):∀(m:Nat) i,(m:Int)=ay far i->1<=ay far i->1<=ay far' i/\ay far' i<=ay far i:=by
 intro m
 induction m using Nat.strongRecOn with
 |_ m ih=>
  intro i r hi;obtain⟨b,c⟩:=h.rng i hi;rcases h.back i hi with⟨e,g⟩|⟨p,s,k,d,l⟩
  .have:=h'.start i b c g
   omega
  .obtain⟨o,u⟩:=ih (m-1) (by omega) p (by omega) d
   have hp:=h.rng p d
   have a:i≠p:=λe=>by rw[e]at k;omega
   obtain⟨f,q⟩:=h'.clo p i o b c (j i p b c hp.1 hp.2 a l);exact⟨f,by omega⟩
theorem FD(h:FarOk n may has tch far)(h':FarOk n may has tch' far')(j:∀i p,i<n->may i=true->p<n->may p=true->i≠p->(tch i p=true↔tch' i p=true)):far=far':=by
 have e:∀i,ay far i=ay far' i:=by
  intro i;have a:=h.nn i;have b:=h'.nn i;by_cases f:1<=ay far i
  .have k:=CB h h' (λi p a b c d e=>(j i p a b c d e).1) (ay far i).toNat i (by omega) f
   have l:=CB h' h (λi p a b c d e=>(j i p a b c d e).2) (ay far' i).toNat i (by omega) k.1;omega
  .by_cases g:1<=ay far' i
   .have l:=CB h' h (λi p a b c d e=>(j i p a b c d e).2) (ay far' i).toNat i (by omega) g
    omega
   .omega
 apply UI;intro i;by_cases hi:i<n
 .have f:i<far.length:=by rw[h.len];exact hi
  have g:i<far'.length:=by rw[h'.len];exact hi
  have:=e i;simp only[ay,an f,an g,Uj]at this;rw[an f,an g,this]
 .rw[Uc (by rw[h.len];omega),Uc (by rw[h'.len];omega)]
theorem G5{s:BS}{k:Nat}(d:BInv2 n may has tch s)(c:k<s.q.length):∀i,i<=n->Vis may k s ((List.range i).filter λj=>tch j (dy s k)) (bJ may tch s k i)
 |0,_=>.nil
 |i+1,hi=>by
  have ih:=G5 d c i (by omega);have hq:=(DG d c i (by omega)).2.2;rw[Vq,VJ];simp only[bJ]
  cases b:tch i (dy s k)with
  |true=>
   rw[show List.filter (λj=>tch j (dy s k)) [i]=[i] by simp[b]];split
   .rename_i a
    simp only[HK,An,US]at a;exact .hit ih a.1.1 a.1.2
   .rename_i a
    refine .miss ih λe=>?_;rw[<-Bool.not_eq_true];intro f;exact a (by simp[HK,e,f,hq,b])
  |false=>
   rw[show List.filter (λj=>tch j (dy s k)) [i]=[] by simp[b],V9];rw[TQ (by simp[HK,hq,b])];exact ih
theorem G6:∀k,BO n may has tch (bK n may has tch k) k
 |0=>BO.init
 |k+1=>by
  have ih:=G6 k;simp only[bK];split
  .rename_i a
   refine ih.step a (G5 ih.inv a n (Ua _)) (λi hi=>?_) (λi hi c b=>.inl ?_)
   .simp only[U3,UH]at hi;exact hi
   .simp only[U3,UH];exact⟨hi,b⟩
  .rename_i a;exact ih.stay a
theorem zt:FarOk n may has tch (bK n may has tch n).far:=(G6 n).fin (td n).le
variable (n may has)
def gT(s:BS)(k:Nat)(l:List Nat):Nat->BS
 |0=>s
 |j+1=>match l[j]? with
  |some i=>if(ay (gT s k l j).far i==0)&&may i then rC (gT s k l j) k i else gT s k l j
  |none=>gT s k l j
def gK(nb:Nat->List Nat):Nat->BS
 |0=>bI n may has n
 |k+1=>if k<(gK nb k).q.length then gT may (gK nb k) k (nb (dy (gK nb k) k)) (nb (dy (gK nb k) k)).length else gK nb k
variable {n may has}
theorem CC{s:BS}{k:Nat}{l:List Nat}:∀j,j<=l.length->Vis may k s (l.take j) (gT may s k l j)
 |0,_=>.nil
 |j+1,e=>by
  have ih:=CC (s:=s) (k:=k) (l:=l) j (by omega);have c:l[j]?=some l[j]:=an (by omega);rw[UN (by omega)];simp only[gT,c];split
  .rename_i a
   simp only[An,US]at a;exact .hit ih a.1 a.2
  .rename_i a
   refine .miss ih λb=>?_;rw[<-Bool.not_eq_true];intro d;exact a (by simp[b,d])
def Aj(nb:Nat->List Nat)(i p:Nat):Bool:=(nb p).contains i
theorem CD{nb:Nat->List Nat}(a:∀p i,i∈nb p->i<n):∀k,BO n may has (Aj nb) (gK n may has nb k) k
 |0=>BO.init
 |k+1=>by
  have ih:=CD a k;simp only[gK];split
  .rename_i b
   have c:=CC (may:=may) (s:=gK n may has nb k) (k:=k) (l:=nb (dy (gK n may has nb k) k)) _ (Ua _);rw[VW]at c;refine ih.step b c (λi hi=>⟨a _ i hi,?_⟩) (λi hi e d=>.inl ?_)
   .simpa[Aj]using hi
   .simpa[Aj]using d
  .rename_i b;exact ih.stay b
theorem Md(f:∀p i,i∈nb p->i<n)(h:∀i p,i<n->may i=true->p<n->may p=true->i≠p->(i∈nb p↔tch i p=true))(g:(gK n may has nb k).q.length<=k):(gK n may has nb k).far=(bK n may has tch n).far:=
 FD ((CD f k).fin g) zt λi p a b c d e=>by rw[<-h i p a b c d e];simp[Aj]
def nP(far:List Int)(m:Int)(l:List Nat):Nat->Int
 |0=>-1
 |j+1=>match l[j]? with
  |some k=>if(ay far k==m)&&(nP far m l j==-1||decide ((k:Int)<nP far m l j))then(k:Int)else nP far m l j
  |none=>nP far m l j
theorem CE{far:List Int}{m:Int}{l:List Nat}:∀j,j<=l.length->-1<=nP far m l j/\(0<=nP far m l j->ay far (nP far m l j).toNat=m/\(nP far m l j).toNat∈l)/\∀k∈l.take j,ay far k=m->0<=nP far m l j/\nP far m l j<=(k:Int)
 |0,_=>by simp[nP]
 |j+1,g=>by
  obtain⟨d,e,c⟩:=CE (far:=far) (m:=m) (l:=l) j (by omega);have f:l[j]?=some l[j]:=an (by omega);rw[UN (by omega)];simp only[nP,f];split
  .rename_i b
   simp only[An,UT,US,L4]at b;refine⟨by omega,λ_=>⟨by rw[Uk];exact b.1,by rw[Uk];exact Uo _⟩,λk a hf=>⟨by omega,?_⟩⟩;rcases Ui.1 a with a|a
   .have:=c k a hf
    omega
   .rw[UC.1 a];omega
  .rename_i b
   refine⟨d,e,λk a hf=>?_⟩;rcases Ui.1 a with a|a
   .exact c k a hf
   .rw[UC.1 a]at hf|-
    simp only[An,UT,US,L4,not_and,not_or]at b;have:=b hf;omega
theorem CF{far:List Int}{a:Nat}:∀m,m<=n->∀i,i<n->n-m<=i->nC far tch a i=true->0<=nS n far tch a m/\nS n far tch a m<=(i:Int)
 |0,_,i,c,d,_=>by omega
 |m+1,g,i,c,d,b=>by
  simp only[nS];split
  .exact⟨by omega,by omega⟩
  .rename_i f
   by_cases e:i=n-1-m
   .rw[e]at b;exact absurd b f
   .exact CF m (by omega) i c (by omega) b
theorem N2{a:Nat}{l:List Nat}(k:∀i∈l,i<n)(h:∀i,i<n->ay far i=ay far a-1->(i∈l↔tch i a=true)):nP far (ay far a-1) l l.length=nS n far tch a n:=by
 obtain⟨s,o,c⟩:=CE (far:=far) (m:=ay far a-1) (l:=l) l.length (Ua _);rw[VW]at c;have q:=DH (n:=n) (tch:=tch) (far:=far) (at_:=a) n (Ua _);have p:=λi=>CF (tch:=tch) (far:=far) (a:=a) n (Ua _) i;by_cases g:0<=nP far (ay far a-1) l l.length
 .obtain⟨e,f⟩:=o g
  have hi:=k _ f
  have hn:nC far tch a (nP far (ay far a-1) l l.length).toNat=true:=by
   simp only[nC,An,US];exact⟨e,(h _ hi e).1 f⟩
  obtain⟨r,u⟩:=p _ hi (by omega) hn;obtain⟨d,b⟩:=q.1 r;simp only[nC,An,US]at b;have:=c _ ((h _ d b.1).2 b.2) b.1;omega
 .by_cases j:0<=nS n far tch a n
  .obtain⟨d,b⟩:=q.1 j
   simp only[nC,An,US]at b;have:=c _ ((h _ d b.1).2 b.2) b.1;omega
  .have:=q.2.2
   omega
def kh(far:List Int)(nb:Nat->List Nat)(a:Nat):Nat->Nat
 |0=>a
 |r+1=>(nP far (ay far a-1-r) (nb (kh far nb a r)) (nb (kh far nb a r)).length).toNat
def rR(n:Nat)(far:List Int)(nb:Nat->List Nat)(hasF:Nat->Bool):List Nat×Bool:=
 if 0<=aS far hasF n then((List.range (ay far (aS far hasF n).toNat).toNat).map (kh far nb (aS far hasF n).toNat),true)else([],false)
theorem G7(hF:far=(bK n may has tch n).far)(b:∀i j,i<n->j<n->tch i j=tch j i)(f:∀p i,i∈nb p->i<n)(h:∀i p,i<n->may i=true->p<n->may p=true->i≠p->(i∈nb p↔tch i p=true)){a:Nat}(o:a<n)(m:0<ay far a):
 ∀r:Nat,(r:Int)<ay far a->kh far nb a r=pS n far tch a r/\kh far nb a r<n/\ay far (kh far nb a r)=ay far a-r/\((r:Int)+1<ay far a->0<=nP far (ay far a-1-r) (nb (kh far nb a r)) (nb (kh far nb a r)).length):=by
 subst hF;have d:=td (n:=n) (may:=may) (has:=has) (tch:=tch) n;have l:=zt (n:=n) (may:=may) (has:=has) (tch:=tch);generalize bK n may has tch n=s at *
 have next:∀r:Nat,(r:Int)+1<ay s.far a->nP s.far (ay s.far a-1-r) (nb (pS n s.far tch a r)) (nb (pS n s.far tch a r)).length=nS n s.far tch (pS n s.far tch a r) n:=by
  intro r c;obtain⟨k,q⟩:=zQ d b o m r (by omega);rw[show ay s.far a-1-r=ay s.far (pS n s.far tch a r)-1 by omega];have hp:=l.rng (pS n s.far tch a r) (by omega);refine N2 (λi hi=>f _ i hi) λi hi hf=>?_;have u:=l.rng i (by omega);exact h i _ hi u.2 hp.1 hp.2 (λe=>by rw[e]at hf;omega)
 have main:∀r:Nat,(r:Int)<ay s.far a->kh s.far nb a r=pS n s.far tch a r:=by
  intro r
  induction r with
  |zero=>exact λ_=>rfl
  |succ r ih=>
   intro c;have e:=ih (by omega);simp only[kh,pS,DI];rw[e,next r (by omega)]
 intro r c;obtain⟨k,q⟩:=zQ d b o m r c;rw[main r c];refine⟨rfl,k,q,λg=>?_⟩;rw[next r g];have:=(DJ d b k (by omega)).1;omega
theorem Iy(a:∀i j,i<n->j<n->tch i j=tch j i)(c:∀p i,i∈nb p->i<n)(h:∀i p,i<n->may i=true->p<n->may p=true->i≠p->(i∈nb p↔tch i p=true)):
 rR n (bK n may has tch n).far nb hasF=(iS n may has hasF tch,fq n may has hasF tch):=by
 have f:=zO (hasF:=hasF) (far:=(bK n may has tch n).far) n;unfold rR iS fq wP;by_cases b:0<=aS (bK n may has tch n).far hasF n
 .obtain⟨e,_⟩:=f.2.2 b
  simp only[b,VQ,Ul];refine Prod.ext ?_ rfl;refine List.map_congr_left λr d=>?_;have d:=UH.1 d;exact(G7 rfl a c h (by omega) e r (by omega)).1
 .simp only[b,decide_false,T5,Uf]
end
theorem IA(s:Spc)(i:Nat)(hi:i<s.cells.length):aK 150 (m7 s) (Z i) (Z (dA s i).v.kind):=by
 have a:s.cells[i]?=some s.cells[i]:=an hi
 have d:dA s i=s.cells[i]:=by simp[dA,a]
 rw[d];generalize b:s.cells[i]=c at *;refine Dp func150 λC hP hN=>?_;exact Gy
structure SpcOk(s:Spc)(m:Nat):Prop where
 n:m<=2048
 c:s.cells.length=m
 b:s.bx.length=m
 r:s.near.length=m
 j:s.jn.length=m
 bl:∀b∈s.bx,b.length<=9223372036854775807
 lf:∀p i,i∈ag s p->i<m/\(dA s i).low=-1
 nl:∀p,(ag s p).length<=4096
theorem KS(s:Spc)(p q:List Int)(g:FuncId):BB 144 (m7 s) (zs p) (zs q) (.val (.func (.func g) #[] #[])) (.agg [m7 s,zs p,zs q,.val (.func (.func g) #[] #[])]):=by
 refine Dp func144 λC hP hN=>?_;exact Gy
theorem IB(s:Spc)(n:Nat)(p q:List Int)(g:FuncId)(f:Int->Int->Bool)(tch:Nat->Nat->Bool)(N:SpcOk s n)(et:q.length<=9223372036854775807)(a8:∀k j:Int,aP prog g [.pv (Z k),.pv (Z j)] [] [] (.pv (B (f k j))))(a1:∀i p,i<n->dl s f i=true->p<n->dl s f p=true->i≠p->(i∈ag s p↔tch i p=true)):aR 215 (.agg [m7 s,zs p,zs q,.val (.func (.func g) #[] #[])]) (.sl ((bK n (dl s f) (bk s.bx q) tch n).far.map Z)):=by
 have hb:∀i,i<n->s.bx[i]?=some (vV s.bx i):=λi hi=>by
  have:i<s.bx.length:=by rw[N.b];exact hi
  simp[vV,an this]
 have ck:=λ(i:Nat)(hi:i<s.cells.length)=>IA s i hi;have cH:=λ(i:Nat)(hi:i<n)=>LW (vV s.bx i) q (N.bl _ (Is (hb i hi)));have cS:∀i,i<n->aP prog 115 [.pv (iv (vV s.bx i)),.pv (zs q)] [] [] (.pv (B (bk s.bx q i))):=cH;have c7:=λ{k:Nat}(hk:(gK n (dl s f) (bk s.bx q) (ag s) k).q.length<=k)=>Md (λp i hi=>(N.lf p i hi).1) a1 hk;have cx:=CD (n:=n) (may:=dl s f) (has:=bk s.bx q) (nb:=ag s) (λp i hi=>(N.lf p i hi).1);have c4:=N.b;have c5:=N.c;have D:=N.j;have er:=N.r;have hn:=N.n;have cq:=N.lf;have cw:=N.nl;have cr:∀i,dl s f i=(decide ((dA s i).low=-1)&&f (dA s i).v.kind (mj s i)):=λi=>rfl
 have ch:∀i,i<n->s.cells[i]?=some (dA s i):=λi hi=>by
  have:i<s.cells.length:=by omega
  simp[dA,an this]
 have cp:∀i,i<n->s.jn[i]?=some (mj s i):=λi hi=>by
  have:i<s.jn.length:=by omega
  simp[mj,an this]
 clear cH a1;generalize eb:bk s.bx q=has at *;generalize ep:dl s f=may at *;refine Dp func215 λC hP hN=>?_;refine sP [4] (f7 c4 (show(8:Int)*n<=281474976710656 by omega) (show(n:Int)<=281474976710656 by omega) (show(n:Int)<=9223372036854775807 by omega)) ?_;refine WP.loopN [6] n (λi st=>st.t 1=.ptr 1 0/\st.t 3=.arr 16 n/\st.t 4=.arr 4 (bI n may has i).q.length/\st.t 22=.pv (.sl (s.cells.map br))/\st.t 23=.pv (Z n)/\st.t 24=.pv (Z i)/\st.h 1=some (.box [.pv (m7 s),.pv (zs p),.pv (zs q),.pv (.val (.func (.func g) #[] #[]))] true false)/\st.h 4=some (.row 3 1 ((bI n may has i).q.map zN) 0)/\st.h 16=some (.row 3 1 ((bI n may has i).far.map Z) 0)/\st.h 6=none) (by simp[bI,c5]) ?_;rintro i st hi ⟨g1,g3,g4,b3,b5,b7,K,F,z,b6⟩;obtain⟨hI,cT⟩:=vU (n:=n) (may:=may) (has:=has) (tch:=tch) i hi;have ea:=hI.le;have cj:=hI.len;by_cases m:i<n
 .have hw:=aj m (by omega)
  have bs:i<s.cells.length:=by omega
  have I:=ch i m;have G:=dx I bs
  have cn:i<s.jn.length:=by omega
  have J:=cp i m;have H:=dx J cn
  have cm:i<s.bx.length:=by omega
  have cf:=hb i m;have cg:=dx cf cm
  have a:bI n may has (i+1)=if may i&&has i then⟨(bI n may has i).far.set i 1,(bI n may has i).q++[i]⟩else bI n may has i:=rfl
  have c1:=ck i bs;have c2:=a8 (dA s i).v.kind (mj s i);have c3:=cS i m;have u:=cr i;generalize bI n may has i=S at *;generalize dA s i=c at *;generalize mj s i=jj at *;by_cases L:c.low=-1
  .have a7:(c.low==-1)=true:=by simp[L]
   rw[UD L,Uq]at u
   cases hf:f c.v.kind jj with
   |false=>
    rw[hf]at c2 u;rw[u,UE,TQ (by simp)]at a;exact Gy
    all_goals simp[a]
   |true=>
    rw[hf]at c2 u
    cases hh:has i with
    |false=>
     rw[hh]at c3;rw[u,hh,TQ (by simp)]at a;exact Gy
     all_goals simp[a]
    |true=>
     rw[hh]at c3;rw[u,hh,T8 (by simp)]at a
     with_reducible repeat' (first|refine Sp.h ?_|((first|refine Wd ?_|refine Ss.h ?_|refine Sc.h (c1) ?_|refine Sc.h (c2) ?_|refine Sc.h (c3) ?_|(refine Sb.h ?_ ?_ ?_<;>(try intro hgd)<;>try exact Xy))<;>simp -implicitDefEqProofs (maxSteps:=2000000) [hP,hN,g1,g3,g4,b3,b5,b7,K,F,z,b6,m,hw,bs,I,G,cn,J,H,cm,cf,cg,L,a7,cj,show(S.q.length+1)*8<=140737488355328 by omega,show S.q.length+1<=9223372036854775807 by omega]<;>try refine Ya ?_)|refine X2 ?_ ?_|(refine Xd ?_ ?_<;>intro hcd<;>try exact Xx))
     all_goals simp[a,Vy]
  .have a7:(c.low==-1)=false:=by simp[L]
   rw[U2 L,UE]at u;rw[u,UE,TQ (by simp)]at a;exact Gy
   all_goals simp[a]
 have c8:i=n:=by omega
 subst c8;clear cT hI;refine Gz ?_;refine WP.toSuf 4 (k:=4) (e:=3) (sz:=1) (fz:=0) (xs:=(bI i may has i).q.map zN) (by simp[F]) (by simp[g4]) ?_
 refine WP.loopN [] i (λk st=>∃o xs,st.t 1=.ptr 1 0/\st.t 3=.arr 16 i/\st.t 4=.ext (.suf 4 o ((gK i may has (ag s) k).q.length-k) (o+((gK i may has (ag s) k).q.length-k)))/\xs.length=o+((gK i may has (ag s) k).q.length-k)/\xs.drop o=((gK i may has (ag s) k).q.drop k).map zN/\k<=(gK i may has (ag s) k).q.length/\st.h 1=some (.box [.pv (m7 s),.pv (zs p),.pv (zs q),.pv (.val (.func (.func g) #[] #[]))] true false)/\st.h 4=some (.row 3 1 xs 0)/\st.h 16=some (.row 3 1 ((gK i may has (ag s) k).far.map Z) 0)) (by
  refine⟨0,(bI i may has i).q.map zN,?_⟩
  simp[gK,g1,g3,K,F,z,ae]) ?_
 clear g1 g3 g4 b3 b5 b7 K F z b6 st hi m;rintro k st hk ⟨o,xs,g1,g3,g4,y,E,ei,K,F,z⟩;have hO:=cx k;have hI:=hO.inv;have ea:=hI.le;have cj:=hI.len;have a5:=c7 (k:=k);by_cases m:k<(gK i may has (ag s) k).q.length
 .have cB:gK i may has (ag s) (k+1)=gT may (gK i may has (ag s) k) k (ag s (dy (gK i may has (ag s) k) k)) (ag s (dy (gK i may has (ag s) k) k)).length:=by simp only[gK];rw[T8 m]
  rw[cB];clear a5 cB;generalize gK i may has (ag s) k=S at *;have ec:=hI.mem _ (zq m);generalize hQ:dy S k=Q at *
  have cz:S.q[k]?=some Q:=by
   have:S.q[k]?=some (dy S k):=by simp[dy,an m]
   rw[this,hQ]
  have O:xs[o]?=some (zN Q):=by
   have h9:=Vw (λl:List PV=>l[0]?) E;simp only[UW,TR,Wg]at h9;rw[h9,cz];rfl
  have X:o<xs.length:=(th.1 O).1;have P:=dx O X
  have cb:Q<s.near.length:=by omega
  have b0:s.near[Q]?=some (ag s Q):=by simp[ag,an cb]
  have cu:=dx b0 cb
  have M:0<S.q.length-k:=by omega
  with_reducible repeat' (first|refine Sp.h ?_|((with_unfolding_all refine WP.sufAt (hn:=[]) (d:=77) 1 rfl rfl rfl rfl ?_);simp -implicitDefEqProofs (maxSteps:=2000000) [hP,hN,g1,g3,g4,y,K,F,z,M,O,X,P])|((first|refine Wd ?_|refine Ss.h ?_|(refine Sb.h ?_ ?_ ?_<;>(try intro hgd)<;>try exact Xy))<;>simp -implicitDefEqProofs (maxSteps:=2000000) [hP,hN,g1,g3,g4,y,K,F,z,M,O,X,P]<;>try refine Ya ?_)|refine X2 ?_ ?_|(refine Xd ?_ ?_<;>intro hcd<;>try exact Xx))
  refine⟨4,3,1,S.q.length-k,1,o,.i64,0,xs,_,3,8,_,by simp[St.ev,g4],by simp[St.ev],by simp[F],y,by omega,by rw[hP];exact NG,rfl,by omega,by omega,?_⟩;simp -implicitDefEqProofs (maxSteps:=2000000) [hP,hN];refine Gz ?_
  have a9:xs.drop (o+1)=(S.q.drop (k+1)).map zN:=by
   have h9:=Vw (List.drop 1) E;rw[List.drop_drop,<-WL,List.drop_drop]at h9;exact h9
  have bH:∀x∈ag s Q,x<i/\Aj (ag s) x (dy S k)=true/\(dA s x).low=-1:=λx R=>⟨(cq Q x R).1,by rw[hQ];simp[Aj,R],(cq Q x R).2⟩;clear b0 cu O P cz;have ek:=cw Q;generalize ag s Q=l at *
  refine WP.loopN [] l.length (λj st=>∃o xs,st.t 1=.ptr 1 0/\st.t 3=.arr 16 i/\st.t 7=.pv (Z Q)/\st.t 85=.pv (uK l)/\st.t 86=.pv (Z l.length)/\st.t 87=.pv (Z j)/\st.t 4=.ext (.suf 4 o ((gT may S k l j).q.length-(k+1)) (o+((gT may S k l j).q.length-(k+1))))/\xs.length=o+((gT may S k l j).q.length-(k+1))/\xs.drop o=((gT may S k l j).q.drop (k+1)).map zN/\st.h 1=some (.box [.pv (m7 s),.pv (zs p),.pv (zs q),.pv (.val (.func (.func g) #[] #[]))] true false)/\st.h 4=some (.row 3 1 xs 0)/\st.h 16=some (.row 3 1 ((gT may S k l j).far.map Z) 0)) (by
   refine⟨o+1,xs,?_⟩
   have e1:S.q.length-k-1=S.q.length-(k+1):=by omega
   have e2:o+(S.q.length-k)=o+1+(S.q.length-(k+1)):=by omega
   simp only[gT];rw[<-e2,<-e1]
   simp[ae,g1,g3,K,F,z,y,a9]) ?_
  clear g1 g3 g4 K F z y E a9 X M st;clear o xs;rintro j st hj ⟨o,xs,g1,g3,g7,b8,b9,ca,g4,y,E,K,F,z⟩;have V:=EC hI m hO.inq (CC (may:=may) (s:=S) (k:=k) (l:=l) j hj) (λx R=>⟨(bH x (VS R)).1,(bH x (VS R)).2.1⟩);have ef:=V.inv.le;have cd:=V.inv.len;have ba:=V.qs k m;have ee:=V.le;have cU:=V.inv.nn;have cV:=V.inv.top;have bb:=V.inv.mem _ (zq (UU m V.le));rw[ba,hQ]at bb;rw[hQ]at ba;by_cases D:j<l.length
  .have cN:=aj D (by omega)
   have R:l[j]?=some l[j]:=an D
   have a:gT may S k l (j+1)=if(ay (gT may S k l j).far l[j]==0)&&may l[j]then rC (gT may S k l j) k l[j]else gT may S k l j:=by simp only[gT,R]
   obtain⟨ar,_,cQ⟩:=bH _ (Uo D);clear V;generalize gT may S k l j=T at *;generalize cP:l[j]=x at *
   have Y:x<s.cells.length:=by omega
   have I:=ch x ar;have G:=dx I Y
   have b2:x<s.jn.length:=by omega
   have J:=cp x ar;have H:=dx J b2;have c1:=ck x Y;have c2:=a8 (dA s x).v.kind (mj s x);have u:=cr x;rw[UD cQ,Uq]at u
   have ad:x<T.far.length:=by omega
   have bq:T.far[x]?=some (ay T.far x):=by simp[ay,an ad]
   have a6:=dx bq ad
   have U:Q<T.far.length:=by omega
   have bc:T.far[Q]?=some (ay T.far Q):=by simp[ay,an U]
   have a2:=dx bc U
   have c0:rC T k x=⟨T.far.set x (ay T.far Q+1),T.q++[x]⟩:=by simp only[rC,ba]
   have ez:=cV Q;have b0:=cU Q;have cM:i64.wrap (ay T.far Q+1)=ay T.far Q+1:=aa;rw[c0]at a;generalize dA s x=cc at *;generalize mj s x=jj at *;generalize ay T.far Q=fQ at *;by_cases W:ay T.far x=0
   .have A:(ay T.far x==0)=true:=by simp[W]
    rw[A,Uq]at a
    cases ct:f cc.v.kind jj with
    |false=>
     rw[ct]at c2 u;rw[u,TQ (by simp)]at a;rw[a];exact Gy
     all_goals simp[y,E,D]
    |true=>
     rw[ct]at c2 u;rw[u,T8 rfl]at a;rw[a]
     with_reducible repeat' (first|refine Sp.h ?_|((with_unfolding_all refine WP.appSAt (hn:=[]) (d:=124) 3 rfl rfl rfl rfl ?_);simp -implicitDefEqProofs (maxSteps:=2000000) [hP,hN,g1,g3,g7,b8,b9,ca,g4,y,K,F,z,D,cN,R,cP,Y,I,G,b2,J,H,ad,bq,a6,cd,ar,bb.1,W,A,U,bc,a2,cM])|((first|refine Wd ?_|refine Ss.h ?_|refine Sc.h (c1) ?_|refine Sc.h (c2) ?_|(refine Sb.h ?_ ?_ ?_<;>(try intro hgd)<;>try exact Xy))<;>simp -implicitDefEqProofs (maxSteps:=2000000) [hP,hN,g1,g3,g7,b8,b9,ca,g4,y,K,F,z,D,cN,R,cP,Y,I,G,b2,J,H,ad,bq,a6,cd,ar,bb.1,W,A,U,bc,a2,cM]<;>try refine Ya ?_)|refine X2 ?_ ?_|(refine Xd ?_ ?_<;>intro hcd<;>try exact Xx))
     refine⟨4,o,T.q.length-(k+1),3,1,xs,[zN x],_,8,.int .i64 0,by simp[St.ev,g4],by simp[F],y,by simp[St.ev],by simp[pN,kR],by simp,by rw[hP];exact NG,rfl,by omega,rfl,by simp;omega,by simp;omega,by omega,by omega,by omega,?_⟩;intro o' eA e1 e2;simp -implicitDefEqProofs (maxSteps:=2000000) [hP,hN];refine Gz ?_
     have dd:k+1<=T.q.length:=by omega
     simp only[UZ]at e1;refine⟨o',⟨rfl,by omega,by omega⟩,by omega,?_⟩;rw[e2,E,Ww (by simpa using dd),WL]
   .have A:(ay T.far x==0)=false:=by simp[W]
    rw[A,UE,TQ (by simp)]at a;rw[a];exact Gy
    all_goals simp[y,E,D]
  .have c9:j=l.length:=by omega
   subst c9;refine Gz ?_;exact⟨by omega,xs,y,by rw[E,WL],by omega,rfl⟩
 .have hF:=a5 (by omega)
  have hz:(gK i may has (ag s) k).q.length-k=0:=by omega
  rw[hF]at z;rw[hz]at g4 y;refine Gz ?_;exact zt.len
theorem FI(f:Nat->α)(r:Nat):(List.range r).map f++[f r]=(List.range (r+1)).map f:=by
 rw[Vq,V7];rfl
theorem Me(s:Spc)(n:Nat)(p q:List Int)(g:FuncId)(f:Int->Int->Bool)(tch:Nat->Nat->Bool)(H:SpcOk s n)(cx:p.length<=9223372036854775807)(cj:q.length<=9223372036854775807)(a9:∀k j:Int,aP prog g [.pv (Z k),.pv (Z j)] [] [] (.pv (B (f k j))))(W:∀i j,i<n->j<n->tch i j=tch j i)(u:∀i p,i<n->dl s f i=true->p<n->dl s f p=true->i≠p->(i∈ag s p↔tch i p=true)):aR 145 (.agg [m7 s,zs p,zs q,.val (.func (.func g) #[] #[])]) (.tup [uK (iS n (dl s f) (bk s.bx q) (bk s.bx p) tch),B (fq n (dl s f) (bk s.bx q) (bk s.bx p) tch)]):=by
 have cl:=IB s n p q g f tch H cj a9 u
 have hb:∀i,i<n->s.bx[i]?=some (vV s.bx i):=λi hi=>by
  have:i<s.bx.length:=by rw[H.b];exact hi
  simp[vV,an this]
 have cH:=λ(i:Nat)(hi:i<n)=>LW (vV s.bx i) p (H.bl _ (Is (hb i hi)));have b2:∀i,i<n->aP prog 115 [.pv (iv (vV s.bx i)),.pv (zs p)] [] [] (.pv (B (bk s.bx p i))):=cH;clear cH;have hE:=Iy (n:=n) (may:=dl s f) (has:=bk s.bx q) (hasF:=bk s.bx p) W (λp i hi=>(H.lf p i hi).1) u;have a6:=λ{a:Nat}=>G7 (n:=n) (may:=dl s f) (has:=bk s.bx q) (a:=a) rfl W (λp i hi=>(H.lf p i hi).1) u;have hF:=zt (n:=n) (may:=dl s f) (has:=bk s.bx q) (tch:=tch);have ct:=H.b;have ch:=H.r;have hn:=H.n;have cf:=H.lf;have ba:=H.nl;have hT:=(td (n:=n) (may:=dl s f) (has:=bk s.bx q) (tch:=tch) n).top;have b4:=(td (n:=n) (may:=dl s f) (has:=bk s.bx q) (tch:=tch) n).le;rw[show iS n (dl s f) (bk s.bx q) (bk s.bx p) tch=(rR n (bK n (dl s f) (bk s.bx q) tch n).far (ag s) (bk s.bx p)).1 by rw[hE],show fq n (dl s f) (bk s.bx q) (bk s.bx p) tch=(rR n (bK n (dl s f) (bk s.bx q) tch n).far (ag s) (bk s.bx p)).2 by rw[hE]];clear hE u
 have b0:∀i,ay (bK n (dl s f) (bk s.bx q) tch n).far i<=n:=λi=>by have:=hT i;omega
 clear hT b4;generalize(bK n (dl s f) (bk s.bx q) tch n).far=F at *;generalize bk s.bx p=hasF at *;have b3:=hF.len;have cr:=hF.nn
 have R:∀i,i<n->F[i]?=some (ay F i):=λi hi=>by simp[ay,an (by omega:i<F.length)]
 refine Dp func145 λC hP hN=>?_;refine Gz ?_;refine WP.loopN [] n (λi st=>st.t 1=.ptr 1 0/\st.t 4=.pv (.sl (F.map Z))/\st.t 5=.pv (Z (aS F hasF i))/\st.t 15=.pv (.sl (F.map Z))/\st.t 16=.pv (Z n)/\st.t 17=.pv (Z i)/\st.h 1=some (.box [.pv (m7 s),.pv (zs p),.pv (zs q),.pv (.val (.func (.func g) #[] #[]))] true false)/\st.h 54=none) (by simp[aS,b3]) ?_;rintro i st hi ⟨g1,g4,g5,a1,a2,a5,z,c⟩;have hA:=zO (hasF:=hasF) (far:=F) i;by_cases d:i<n
 .have hw:=aj d (by omega)
  have b9:i<F.length:=by omega
  have b7:=R i d;have cq:=dx b7 b9
  have b8:i<s.bx.length:=by omega
  have b5:=hb i d;have cp:=dx b5 b8;have c3:=b2 i d
  have o:aS F hasF (i+1)=if decide (0<ay F i)&&hasF i&&(decide (aS F hasF i<0)||decide (ay F i<ay F (aS F hasF i).toNat))then(i:Int)else aS F hasF i:=rfl
  rw[o];clear o;by_cases h0:0<ay F i
  .rw[UD h0,Uq]
   by_cases ha:aS F hasF i<0
   .have D:aS F hasF i=-1:=by omega
    rw[D];rw[D]at g5
    cases hh:hasF i with
    |false=>
     rw[hh]at c3;exact Gy
     all_goals simp
    |true=>
     rw[hh]at c3;exact Gy
     all_goals simp
   .obtain⟨a,N⟩:=Vp (by omega:0<=aS F hasF i)
    rw[N]at hA g5|-
    have P:a<n:=by omega
    have O:a<F.length:=by omega
    have Q:=R a P;have U:=dx Q O;rw[Uk];by_cases a8:ay F i<ay F a
    .cases hh:hasF i with
     |false=>
      rw[hh]at c3;exact Gy
      all_goals simp
     |true=>
      rw[hh]at c3;exact Gy
      all_goals (first|(simp[a8];done)|(intros;omega))
    .skip
     refine Gz ?_
     all_goals (first|(simp[a8];done)|(intros;omega))
  .rw[U2 h0]
   exact Gy
   all_goals simp
 have ca:i=n:=by omega
 subst ca;by_cases h0:0<=aS F hasF i
 case neg=>
  have D:aS F hasF i=-1:=by omega
  have v:rR i F (ag s) hasF=([],false):=by simp[rR,D]
  rw[v];rw[D]at g5;exact Gy
 obtain⟨a,N⟩:=Vp h0;obtain⟨M,_⟩:=hA.2.2 h0
 have v:rR i F (ag s) hasF=((List.range (ay F a).toNat).map (kh F (ag s) a),true):=by simp[rR,N]
 rw[v];rw[N]at g5 hA M;rw[Uk]at M
 have P:a<i:=by omega
 have a7:=a6 P M
 have O:a<F.length:=by omega
 have Q:=R a P;have U:=dx Q O;have cM:=b0 a;have ck:i64.wrap (ay F a-1)=ay F a-1:=aa;clear a6 h0 v
 with_reducible repeat' (first|refine Sp.h ?_|((first|refine Wh [54] ?_|refine Wi [54] ?_|refine Ss.h ?_|(refine Sb.h ?_ ?_ ?_<;>(try intro hgd)<;>try exact Xy))<;>simp -implicitDefEqProofs (maxSteps:=2000000) [hP,hN,g1,g4,g5,a1,a2,a5,z,c,d,O,Q,U,ck]<;>try refine Ya ?_)|refine X2 ?_ ?_|(refine Xd ?_ ?_<;>intro hcd<;>try exact Xx))
 refine WP.loopN [] (ay F a).toNat (λr st=>st.t 1=.ptr 1 0/\st.t 4=.pv (.sl (F.map Z))/\st.t 5=.pv (Z (kh F (ag s) a r:Int))/\st.t 8=.arr 54 (r+1)/\st.t 9=.pv (Z (ay F a-1-r))/\st.h 1=some (.box [.pv (m7 s),.pv (zs p),.pv (zs q),.pv (.val (.func (.func g) #[] #[]))] true false)/\st.h 54=some (.row 3 1 ((List.range (r+1)).map λm=>Z (kh F (ag s) a m:Int)) 0)/\(r:Int)<ay F a) (by simp[kh,g1,g4,g5,z,M]) ?_;clear g1 g4 g5 a1 a2 a5 z c d st hi;rintro r st hr ⟨g1,g4,g5,L,G,z,c,bq⟩;obtain⟨_,cB,cz,bc⟩:=a7 r bq;by_cases d:0<ay F a-1-r
 .have hz:=bc (by omega)
  have o:kh F (ag s) a (r+1)=(nP F (ay F a-1-r) (ag s (kh F (ag s) a r)) (ag s (kh F (ag s) a r)).length).toNat:=rfl
  have X:s.near[kh F (ag s) a r]?=some (ag s (kh F (ag s) a r)):=by simp[ag,an (by omega:kh F (ag s) a r<s.near.length)]
  have bb:kh F (ag s) a r<s.near.length:=by omega
  have V:=dx X bb;have cw:=ba (kh F (ag s) a r);have cd:∀x∈ag s (kh F (ag s) a r),x<i:=λx hx=>(cf _ x hx).1;have bs:=FI (λm=>Z (kh F (ag s) a m:Int)) (r+1)
  with_reducible repeat' (first|refine Sp.h ?_|((first|refine Wd ?_|refine Ss.h ?_|(refine Sb.h ?_ ?_ ?_<;>(try intro hgd)<;>try exact Xy))<;>simp -implicitDefEqProofs (maxSteps:=2000000) [hP,hN,g1,g4,g5,L,G,z,c,d,X,bb,V,ch]<;>try refine Ya ?_)|refine X2 ?_ ?_|(refine Xd ?_ ?_<;>intro hcd<;>try exact Xx))
  clear X V a7 bc;generalize cu:ag s (kh F (ag s) a r)=l at *;obtain⟨m,cg⟩:∃m,m=ay F a-1-r:=⟨_,rfl⟩;rw[<-cg]at hz o G d;refine WP.loopN [] l.length (λj st=>st.t 1=.ptr 1 0/\st.t 4=.pv (.sl (F.map Z))/\st.t 8=.arr 54 (r+1)/\st.t 9=.pv (Z m)/\st.t 10=.pv (Z (nP F m l j))/\st.t 71=.pv (uK l)/\st.t 72=.pv (Z l.length)/\st.t 73=.pv (Z j)/\st.h 1=some (.box [.pv (m7 s),.pv (zs p),.pv (zs q),.pv (.val (.func (.func g) #[] #[]))] true false)/\st.h 54=some (.row 3 1 ((List.range (r+1)).map λm=>Z (kh F (ag s) a m:Int)) 0)) (by simp[nP,g1,g4,L,G,z,c]) ?_;clear g1 g4 g5 L G z c st;rintro j st hj ⟨g1,g4,L,G,A,I,J,K,z,c⟩;by_cases e:j<l.length
  .have ad:=aj e (by omega)
   have hx:l[j]?=some l[j]:=an e;have cn:=cd _ (Uo e)
   have bH:nP F m l (j+1)=if(ay F l[j]==m)&&(nP F m l j==-1||decide ((l[j]:Int)<nP F m l j))then(l[j]:Int)else nP F m l j:=by simp only[nP,hx]
   rw[bH];clear bH;generalize ar:l[j]=x at *
   have T:x<F.length:=by omega
   have S:=R x cn;have E:=dx S T;generalize nP F m l j=y at *;by_cases h1:ay F x=m
   .by_cases h2:y=-1
    .subst h2
     exact GS (zAa g1 g4 L G A I J K z c e ad hx ar (f7 T S E h1))
     all_goals simp[h1]
    .by_cases h3:(x:Int)<y
     all_goals
      exact GS (zAa g1 g4 L G A I J K z c e ad hx ar (it T S E h1 h2 h3))
      all_goals simp[h1,h2,h3]
   .skip
    exact GS (zAa g1 g4 L G A I J K z c e ad hx ar (f7 T S E h1))
    all_goals simp[h1]
  .have cb:j=l.length:=by omega
   subst cb;obtain⟨Y,hY⟩:=Vp hz;rw[hY,Uk]at o;rw[hY]at A;rw[o]at bs;have cm:i64.wrap (m-1)=m-1:=aa;refine GT (zAa g1 g4 L G A I J K z c e cm o (show(r+1+1)*8<=140737488355328 by omega) (show r+1+1<=9223372036854775807 by omega)) ?_;exact⟨bq,by omega,bs,by omega⟩
 .skip
  refine GT (s5 g1 g4 g5 L G z c d) ?_;rw[show(ay F a).toNat=r+1 by omega];rfl
def vp(k _:Int):Bool:=k==1
def qX(k _:Int):Bool:=k !=2
def sr(k j:Int):Bool:=k==1||(k==0&&j != -1)
def yd(k j:Int):Bool:=k==1||(k==0&&j==-1)
theorem PO(k j:Int):aK 146 (Z k) (Z j) (B (vp k j)):=by
 refine Dp func146 λC hP hN=>?_;refine Gz ?_
 all_goals (first|(simp_all[vp];done)|((try simp_all[vp])<;>(try omega)<;>grind))
theorem PP(k j:Int):aK 147 (Z k) (Z j) (B (qX k j)):=by
 refine Dp func147 λC hP hN=>?_;refine Gz ?_
 all_goals (first|(simp_all[qX];done)|((try simp_all[qX])<;>(try omega)<;>grind))
theorem PQ(k j:Int):aK 148 (Z k) (Z j) (B (sr k j)):=by
 unfold sr;by_cases c:k=1
 .have b:(k==1)=true:=by simp[c]
  refine Dp func148 λC hP hN=>?_;exact Gy
  all_goals simp[c]
 .have b:(k==1)=false:=by simp[c]
  by_cases d:k=0
  .have a:(k==0)=true:=by simp[d]
   refine Dp func148 λC hP hN=>?_;exact Gy
   all_goals simp[b,a]
  .have a:(k==0)=false:=by simp[d]
   refine Dp func148 λC hP hN=>?_;exact Gy
   all_goals simp[b,a]
theorem PS(k j:Int):aK 149 (Z k) (Z j) (B (yd k j)):=by
 unfold yd;by_cases c:k=1
 .have b:(k==1)=true:=by simp[c]
  refine Dp func149 λC hP hN=>?_;exact Gy
  all_goals simp[c]
 .have b:(k==1)=false:=by simp[c]
  by_cases d:k=0
  .have a:(k==0)=true:=by simp[d]
   refine Dp func149 λC hP hN=>?_;exact Gy
   all_goals simp[b,a]
  .have a:(k==0)=false:=by simp[d]
   refine Dp func149 λC hP hN=>?_;exact Gy
   all_goals simp[b,a]
structure SpcC(s:Spc)(n:Nat)(tch:Nat->Nat->Bool):Prop where
 ok:SpcOk s n
 sym:∀i j,i<n->j<n->tch i j=tch j i
 cov:∀i p,i<n->(dA s i).low=-1->p<n->(dA s p).low=-1->i≠p->(i∈ag s p↔tch i p=true)
theorem SpcC.cv(h:SpcC s n tch)(f:Int->Int->Bool):∀i p,i<n->dl s f i=true->p<n->dl s f p=true->i≠p->(i∈ag s p↔tch i p=true):=by
 intro i p hi c hp a b;simp only[dl,An,L4]at c a;exact h.cov i p hi c.1 hp a.1 b
theorem SU{g:PV}{a b c:List PV}:∀(i j:Nat),([.pv g,.bx 0,.bx 1,.bx 2]:List Arg)[i]?=some (.bx j)->j< [a,b,c].length
 |0,j,h=>by simp at h
 |1,j,h=>by simp at h;subst h;simp
 |2,j,h=>by simp at h;subst h;simp
 |3,j,h=>by simp at h;subst h;simp
 |i+4,j,h=>by simp at h
theorem J3(s:Spc)(n:Nat)(p q:List Int)(g:FuncId)(f:Int->Int->Bool)(tch:Nat->Nat->Bool)(d:SpcC s n tch)(b:p.length<=9223372036854775807)(c:q.length<=9223372036854775807)(a:∀k j:Int,aP prog g [.pv (Z k),.pv (Z j)] [] [] (.pv (B (f k j)))):
 aP prog 143 [.pv (.val (.func (.func g) #[] #[])),.bx 0,.bx 1,.bx 2] [[m7 s],[zs p],[zs q]] [[m7 s],[zs p],[zs q]] (.pv (.tup [uK (iS n (dl s f) (bk s.bx q) (bk s.bx p) tch),B (fq n (dl s f) (bk s.bx q) (bk s.bx p) tch)])):=by
 have l:=KS s p q g;have m:=Me s n p q g f tch d.ok b c a d.sym (d.cv f);generalize iS n (dl s f) (bk s.bx q) (bk s.bx p) tch=L at *;generalize fq n (dl s f) (bk s.bx q) (bk s.bx p) tch=O at *;refine mV func143 rfl (by kernel_rfl) (by simp[f143]) rfl (by exact SU) ?_;intro C hP hN;simp only[f143]at hN|-;refine Gz ?_;exact λi e h=>⟨e,h,rfl⟩
def A7(s:Spc)(k:Nat):Bool:=decide ((dA s k).v.kind=0)&&decide (mj s k≠-1)
def pi(s:Spc)(c:List Nat):Int×Int×Int:=match c.find? (A7 s)with
 |some k=>((k:Int),mj s k,3)
 |none=>(-1,-1,0)
def sS(s:Spc)(n:Nat)(p q:List Int)(tch:Nat->Nat->Bool):Int×Int×Int:=
 if fq n (dl s vp) (bk s.bx q) (bk s.bx p) tch=true then(-1,-1,1)
 else if fq n (dl s qX) (bk s.bx q) (bk s.bx p) tch=false then(-1,-1,2)
 else if fq n (dl s sr) (bk s.bx q) (bk s.bx p) tch=true then pi s (iS n (dl s sr) (bk s.bx q) (bk s.bx p) tch)
 else if fq n (dl s yd) (bk s.bx q) (bk s.bx p) tch=true then(-1,-1,5)
 else pi s (iS n (dl s qX) (bk s.bx q) (bk s.bx p) tch)
def qY(s:Spc)(c:List Nat)(i:Nat):Prop:=∀j x,j<i->c[j]?=some x->A7 s x=false
theorem qY.step{c:List Nat}(h:qY s c i)(b:c[i]?=some k)(hp:A7 s k=false):qY s c (i+1):=by
 intro j x d a;by_cases e:j=i
 .subst e;rw[b]at a;injection a with a;subst a;exact hp
 .exact h j x (by omega) a
theorem ED{c:List Nat}(h:qY s c c.length):pi s c=(-1,-1,0):=by
 have:c.find? (A7 s)=none:=by
  rw[Vb];intro x b;obtain⟨j,a⟩:=UB b;rw[h j x (th.1 a).1 a];simp
 rw[pi,this]
theorem CH{c:List Nat}(h:qY s c i)(b:c[i]?=some k)(hp:A7 s k=true):pi s c=((k:Int),mj s k,3):=by
 have:c.find? (A7 s)=some k:=by
  obtain⟨hi,rfl⟩:=th.1 b;rw[Wu];refine⟨hp,i,hi,rfl,λj a=>?_⟩;have:=h j _ a (an (by omega));rw[this];rfl
 rw[pi,this]
theorem EE{may has:Nat->Bool}(a:∀i j,i<n->j<n->tch i j=tch j i):(iS n may has hasF tch).length<=n/\∀k∈iS n may has hasF tch,k<n:=by
 cases h:fq n may has hasF tch with
 |true=>
  obtain⟨_,b,c,_⟩:=Gi a h;refine⟨b,λk e=>?_⟩;obtain⟨j,d⟩:=UB e;exact(c j k d).1
 |false=>simp[iS,h]
theorem SV(s:Spc)(n:Nat)(p q:List Int)(tch:Nat->Nat->Bool)(o:SpcC s n tch)(z:p.length<=9223372036854775807)(A:q.length<=9223372036854775807):kY 82 (m7 s) (zs p) (zs q) (.tup [Z (sS s n p q tch).1,Z (sS s n p q tch).2.1,Z (sS s n p q tch).2.2]):=by
 have b0:=J3 s n p q 146 vp tch o z A PO;have T:=J3 s n p q 147 qX tch o z A PP;have b1:=J3 s n p q 148 sr tch o z A PQ;have b2:=J3 s n p q 149 yd tch o z A PS;have m1:=EE (n:=n) (may:=dl s sr) (has:=bk s.bx q) (hasF:=bk s.bx p) o.sym;have m3:=EE (n:=n) (may:=dl s qX) (has:=bk s.bx q) (hasF:=bk s.bx p) o.sym
 have U:sS s n p q tch=if fq n (dl s vp) (bk s.bx q) (bk s.bx p) tch=true then(-1,-1,1)else if fq n (dl s qX) (bk s.bx q) (bk s.bx p) tch=false then(-1,-1,2)else if fq n (dl s sr) (bk s.bx q) (bk s.bx p) tch=true then pi s (iS n (dl s sr) (bk s.bx q) (bk s.bx p) tch)else if fq n (dl s yd) (bk s.bx q) (bk s.bx p) tch=true then(-1,-1,5)else pi s (iS n (dl s qX) (bk s.bx q) (bk s.bx p) tch):=rfl
 have ad:=o.ok.c;have ar:=o.ok.j;have hn:=o.ok.n;rw[U];clear U o;generalize iS n (dl s vp) (bk s.bx q) (bk s.bx p) tch=C0 at *;generalize iS n (dl s sr) (bk s.bx q) (bk s.bx p) tch=e at *;generalize iS n (dl s yd) (bk s.bx q) (bk s.bx p) tch=C2 at *;generalize iS n (dl s qX) (bk s.bx q) (bk s.bx p) tch=f at *;generalize fq n (dl s vp) (bk s.bx q) (bk s.bx p) tch=V at *;generalize fq n (dl s sr) (bk s.bx q) (bk s.bx p) tch=W at *;generalize fq n (dl s yd) (bk s.bx q) (bk s.bx p) tch=X at *;generalize fq n (dl s qX) (bk s.bx q) (bk s.bx p) tch=Y at *
 cases V with
 |true=>
  simp only[Ul];refine Dp func82 λC hP hN=>?_;exact Gy
 |false=>
 simp only[T5,Uf]
 cases Y with
 |false=>
  simp only[Ul];refine Dp func82 λC hP hN=>?_;exact Gy
 |true=>
 simp only[Bool.true_eq_false,Uf]
 cases W with
 |true=>
  simp only[Ul];obtain⟨M,l⟩:=m1;refine Dp func82 λC hP hN=>?_;refine Gz ?_;refine WP.loopN [] (e).length (λi st=>st.t 3=.ptr 3 0/\st.h 3=some (.box [.pv (m7 s)] true false)/\st.t 47=.pv (uK (e))/\st.t 48=.pv (Z (e).length)/\st.t 49=.pv (Z i)/\qY s (e) i) ?_ ?_
  .simp
   exact λj x hj=>by omega
  rintro i st hi ⟨g3,T,O,P,Q,a⟩;by_cases g:i<(e).length
  .have N:(i:Int)<((e).length:Int):=by omega
   have S:=aj g (by omega);generalize H:(e)[i]=k at *
   have y:(e)[i]?=some k:=by rw[an g,H]
   have R:=l k (Is y)
   have G:k<s.cells.length:=by omega
   have I:k<s.jn.length:=by omega
   have F:s.jn[k]?=some (mj s k):=by simp[mj,an I]
   have L:∀h,s.jn[k]'h=mj s k:=λh=>dx F h;have ck:=IA s k G;have b:A7 s k=(decide ((dA s k).v.kind=0)&&decide (mj s k≠-1)):=rfl;have m:=CH a y;generalize(dA s k).v.kind=K at *;generalize mj s k=J at *;by_cases r:K=0
   .have B:(K==0)=true:=by simp[r]
    by_cases u:J=-1
    .have D:(J != -1)=false:=by simp[u]
     have d:qY s (e) (i+1):=qY.step a y (by rw[b];simp[u]);exact Gy
     all_goals exact d
    .have D:(J != -1)=true:=by simp[u]
     rw[m (by rw[b];simp[r,u])];exact Gy
   .have B:(K==0)=false:=by simp[r]
    have d:qY s (e) (i+1):=qY.step a y (by rw[b];simp[r]);exact Gy
    all_goals exact d
  .have E:i=(e).length:=by omega
   subst E;rw[ED a];exact Gy
 |false=>
 simp only[T5,Uf]
 cases X with
 |true=>
  simp only[Ul];refine Dp func82 λC hP hN=>?_;exact Gy
 |false=>
  simp only[T5,Uf];obtain⟨M,l⟩:=m3;refine Dp func82 λC hP hN=>?_;refine Gz ?_;refine WP.loopN [] (f).length (λi st=>st.t 3=.ptr 3 0/\st.h 3=some (.box [.pv (m7 s)] true false)/\st.t 47=.pv (uK (f))/\st.t 48=.pv (Z (f).length)/\st.t 49=.pv (Z i)/\qY s (f) i) ?_ ?_
  .simp
   exact λj x hj=>by omega
  rintro i st hi ⟨g3,T,O,P,Q,a⟩;by_cases g:i<(f).length
  .have N:(i:Int)<((f).length:Int):=by omega
   have S:=aj g (by omega);generalize H:(f)[i]=k at *
   have y:(f)[i]?=some k:=by rw[an g,H]
   have R:=l k (Is y)
   have G:k<s.cells.length:=by omega
   have I:k<s.jn.length:=by omega
   have F:s.jn[k]?=some (mj s k):=by simp[mj,an I]
   have L:∀h,s.jn[k]'h=mj s k:=λh=>dx F h;have ck:=IA s k G;have b:A7 s k=(decide ((dA s k).v.kind=0)&&decide (mj s k≠-1)):=rfl;have m:=CH a y;generalize(dA s k).v.kind=K at *;generalize mj s k=J at *;by_cases r:K=0
   .have B:(K==0)=true:=by simp[r]
    by_cases u:J=-1
    .have D:(J != -1)=false:=by simp[u]
     have d:qY s (f) (i+1):=qY.step a y (by rw[b];simp[u]);exact Gy
     all_goals exact d
    .have D:(J != -1)=true:=by simp[u]
     rw[m (by rw[b];simp[r,u])];exact Gy
   .have B:(K==0)=false:=by simp[r]
    have d:qY s (f) (i+1):=qY.step a y (by rw[b];simp[r]);exact Gy
    all_goals exact d
  .have E:i=(f).length:=by omega
   subst E;rw[ED a];exact Gy
def mL{α β:Type}(f:α->Option β):List α->Option (List β)
 |[]=>some []
 |x::r=>match f x,mL f r with
  |some y,some ys=>some (y::ys)
  |_,_=>none
theorem tp{α β:Type}{f:α->Option β}:∀{l:List α}{r:List β},mL f l=some r->l.length=r.length/\∀(i:Nat) y,r[i]?=some y->∃x,l[i]?=some x/\f x=some y
 |[],r,h=>by simp only[mL]at h;injection h with h;subst h;exact⟨rfl,λi y d=>by simp at d⟩
 |x::l,r,h=>by
  simp only[mL]at h;split at h
  .rename_i y ys b c
   injection h with h;subst h;obtain⟨g1,g2⟩:=tp c;refine⟨by simp[g1],λi z a=>?_⟩
   cases i with
   |zero=>simp at a;subst a;exact⟨x,rfl,b⟩
   |succ i=>simpa using g2 i z (by simpa using a)
  .cases h
theorem Ee{α β:Type}{f:α->Option β}:∀{l:List α}{r:List β},l.length=r.length->(∀(i:Nat) x y,l[i]?=some x->r[i]?=some y->f x=some y)->mL f l=some r
 |[],[],_,_=>rfl
 |[],_::_,h,_=>by simp at h
 |_::_,[],h,_=>by simp at h
 |x::l,y::r,h,c=>by
  have d:=c 0 x y rfl rfl;have e:=Ee (f:=f) (l:=l) (r:=r) (by simpa using h) (λi a b g j=>c (i+1) a b (by simpa using g) (by simpa using j));simp only[mL,d,e]
def Lp:PV->Bool
 |.sl _=>true
 |_=>false
def iy(h:Hp):Nat->AV->Option PV
 |_,.pv p=>some p
 |0,_=>none
 |_+1,.arr k n=>if inK k=true then match h k with
  |some (.row _ _ xs _)=>if xs.length=n then some (.sl xs)else none
  |_=>none else none
 |d+1,.ext (.barr k n _)=>if inK k=true then match h k with
  |some (.box b _ _)=>match mL (iy h d) (b.take n)with
   |some a=>if a.length=n/\a.all Lp=true then some (.sl a)else none
   |none=>none
  |_=>none else none
 |d+1,.ptr k c=>if inK k=true then match h k with
  |some (.box b _ _)=>match mL (iy h d) b with
   |some a=>some (.rptr (.agg a) c)
   |none=>none
  |_=>none else none
 |_+1,_=>none
def qJ(h:Hp):Hp:=λk=>if inK k=true then none else h k
def OZ:Blk->Bool
 |.box _ o _=>o
 |.row _ _ _ _=>true
 |.mp _ _ _ _=>false
def uR(h:Hp):Prop:=∀k a,inK k=true->h k=some a->OZ a=true
section
variable {C:Cx} {L:Nat->Loc} {h:Hp} {w:World}
theorem AO{b:Blk}(e:qJ h k=some b):inK k=false/\h k=some b:=by
 grind [qJ]
theorem xJ{b o:Nat}(c:ab C L (qJ h) b o):ab C L h b o:=by
 rcases c with c|⟨k,a,e,f,d,hf⟩
 .exact .inl c
 .exact .inr ⟨k,a,(AO e).2,f,d,hf⟩
theorem xL(d:MemL C L h w)(r:uR h){blk:Blk}(hi:inK k=true)(c:h k=some blk)(i:blk.live (L k))(o:Nat):¬ab C L (qJ h) (L k).b o:=by
 rintro(q|⟨u,l,m,n,p,_⟩)
 .have s:=d.m0 _ _ q
  have g:=d.own k _ c
  have h8:C.w0.heap.size<=(L k).b\/(C.S (L k).b/\∀o,¬C.M0 (L k).b o):=by
   have a:=r k blk hi c
   cases blk with
   |box v own f=>
    have a:own=true:=a;subst a;exact g
   |row e sz xs f=>exact g.row i
   |mp=>cases a
  grind
 .obtain⟨j,g1⟩:=AO m
  exact d.sep u k l blk (λe=>by rw[e,hi]at j;cases j) g1 c n i p
theorem Kr(l:MemL C L h w)(n:uR h){xs:List PV}(hi:inK k=true)(g:h k=some (.row e sz xs fz)):Rep w (ab C L (qJ h)) (.sl xs) ((L k).slice xs.length):=by
 obtain⟨g1,g2,g3,g4,g5⟩:=l.bl k _ g
 cases hn:(L k).isNil with
 |true=>
  have:=g4 hn;subst this;simp only[Loc.slice,hn,Ul];exact .sl0 _ _
 |false=>
  obtain⟨m,q,arr,a3,a4,f⟩:=g5 hn;simp only[Loc.slice,hn,T5,Uf];refine .sl xs (L k).b 0 (L k).cap sz (λi j=>(arr[i*sz+j]?).getD default) m (λi x a=>g3 x (Is a)) (λi x j p a c=>?_) (λi x j p a c=>?_)
  .obtain⟨u,d,_⟩:=f i x j p a c
   refine⟨?_,xL l n hi g hn _⟩;rw[eH a3,U0,d];rfl
  .obtain⟨u,d,o⟩:=f i x j p a c
   rw[d];exact o.mono (Pres.sub λ_ _=>xJ)
theorem Ks(F:MemL C L h w)(N:uR h):∀(d:Nat){x:AV}{p:PV}{u:Value},iy h d x=some p->RepA w (ab C L h) L h x u->Rep w (ab C L (qJ h)) p u:=by
 have base:∀{q p:PV}{u:Value},some q=some p->RepA w (ab C L h) L h (.pv q) u->Rep w (ab C L (qJ h)) p u:=by
  intro q p u e f;injection e with e;subst e
  cases f with
  |pv f=>exact f.mono (Pres.sub λ_ _=>xJ)
 intro d
 induction d with
 |zero=>
  intro x p u a f
  cases x with
  |pv q=>exact base (by simpa only[iy]using a) f
  |_=>simp[iy]at a
 |succ d ih=>
  intro x p u a f
  cases x with
  |pv q=>exact base (by simpa only[iy]using a) f
  |arr k n=>
   simp only[iy]at a;split at a
   .rename_i hi
    split at a
    .rename_i e sz xs fz A
     split at a
     .rename_i hn
      injection a with a;subst a
      cases f with
      |arr D O Q=>
       grind [Kr]
     .cases a
    .cases a
   .cases a
  |ptr k J=>
   simp only[iy]at a;split at a
   .rename_i hi
    split at a
    .rename_i K own fz A
     split at a
     .rename_i z y
      injection a with a;subst a;obtain⟨m1,m2⟩:=tp y
      cases f with
      |ptr D=>
       obtain⟨arr,ty,a3,a4⟩:=F.bl k _ A;have hn:=xL F N hi A trivial
       have o:∀(j:Nat) q,z[j]?=some q->∃v,arr[j]?=some v/\Rep w (ab C L (qJ h)) q v:=by
        intro j q hq;obtain⟨x,B,m⟩:=m2 j q hq
        have s:j<arr.toList.length:=by rw[<-a4.1];exact(th.1 B).1
        have g:arr.toList[j]?=some (arr.toList[j]):=an s;exact⟨arr.toList[j],by rw[<-UQ];exact g,ih m (a4.2 j x _ B g)⟩
       have:=Rep.rptr (w:=w) (M:=ab C L (qJ h)) (.agg z) (L k).b 0 J (λj=>(arr[j]?).getD default) (λj q hq=>?_) (λj q hq=>?_)
       .grind
       .obtain⟨v,g,_⟩:=o j q hq
        refine⟨?_,hn _⟩;rw[U0,eH a3,g];rfl
       .obtain⟨v,g,f⟩:=o j q hq
        grind
     .cases a
    .cases a
   .cases a
  |ext x=>
   cases x with
   |barr k n c=>
    simp only[iy]at a;split at a
    .rename_i hi
     split at a
     .rename_i K own fz A
      split at a
      .rename_i z y
       split at a
       .rename_i l
        injection a with a;subst a;obtain⟨H,l⟩:=l;obtain⟨m1,m2⟩:=tp y
        have E:∀q∈z,q.cells=[q]:=by
         intro q hq;have:=TP.1 l q hq
         cases q<;>first|rfl|cases this
        cases f with
        |ext I=>
         cases I with
         |barr P D=>
          obtain⟨arr,ty,a3,a4⟩:=F.bl k _ A;have hn:=xL F N hi A trivial
          have o:∀(j:Nat) q,z[j]?=some q->∃v,arr[j]?=some v/\Rep w (ab C L (qJ h)) q v:=by
           intro j q hq;obtain⟨x,B,m⟩:=m2 j q hq
           have B:K[j]?=some x:=by
            grind
           have s:j<arr.toList.length:=by rw[<-a4.1];exact(th.1 B).1
           have g:arr.toList[j]?=some (arr.toList[j]):=an s;exact⟨arr.toList[j],by rw[<-UQ];exact g,ih m (a4.2 j x _ B g)⟩
          rw[<-H]
          have G:∀{i j:Nat}{q r:PV},z[i]?=some q->q.cells[j]?=some r->j=0/\r=q:=by
           grind
          refine .sl z (L k).b 0 c 1 (λi _=>(arr[i]?).getD default) (by omega) (λi q hq=>by rw[E q (Is hq)];rfl) (λi q j r hq f=>?_) (λi q j r hq f=>?_)
          .obtain⟨rfl,rfl⟩:=G hq f
           grind [eH]
          grind
       .cases a
      .cases a
     .cases a
    .cases a
   |_=>simp[iy]at a
  |_=>simp[iy]at a
def JO(C:Cx)(Q:St->Prop)(f:Operand)(xs:List Operand)(d:Option Nat)(st:St):Prop:=
 ∃g b a,bX (st.ev f)=some (g,[],[])/\uR st.h/\mL (iy st.h 3) (xs.map st.ev)=some b/\aP C.P g (b.map .pv) [] [] (.pv a)/\qA a=true/\dm C.N d=true/\Q (st.put d (.pv a) [])
theorem WP.lend{id:Nat}{pre post:List Oper}(l:ops.toList=pre++o::post)(H:o.op=.call {callee:=.value f,args:=xs.toArray,argTypes:=ats})(hg:o.guard=none)
 (hq:dK C.P hn C.N ops (JO C (dK C.P hn C.N ops (Q .normal) post) f xs o.dst) pre st):WP C (.region id ops false) Q st:=by
 intro a w hs;refine wp_region_list ?_;rw[l];refine iG (λad r q R M=>?_) hs hq;obtain⟨g,ps,a2,A,F,I,⟨c,_,hD⟩,G,B,hQ⟩:=M;obtain⟨L,n,hN,D,S⟩:=R;refine wpList_step (λK hK=>?_);rw[kG hg,T8 rfl];obtain⟨vs,us,E,U,V⟩:=iX (db S f) A;have X:=U.nil_inv;have T:=V.nil_inv;subst X;subst T;obtain⟨m1,m2⟩:=tp I
 have d:=hD q (ab C L (qJ ad.h)) [] (xs.map r.eval) (λb o s=>n.mlt (xJ s)) rfl List.nodup_nil (λi b ps s=>by simp at s) (by simp only[Ux]at m1|-;omega) (by
  intro i x v j hv;simp only[TR,No]at j hv;obtain⟨p,hp,rfl⟩:=j;obtain⟨y,hy,rfl⟩:=hv;obtain⟨z,hz,hc⟩:=m2 i p hp;simp only[TR,No]at hz;obtain⟨y',e,rfl⟩:=hz;rw[hy]at e;injection e with e;subst e
  exact Ks n F 3 hc (db S y))
 have m:(execOp r.eval o).run C.P q=.ok (.enter g (xs.map r.eval).toArray) q:=by
  unfold da at c
  cases k:C.P.funcs[g]? with
  |none=>rw[k]at c;cases c
  |some fn=>
   rw[k]at c;simp only[An,UG,U4,ne_eq]at c
   have hb:fn.body.isNone=false:=by cases ar:fn.body<;>simp_all
   unfold execOp;rw[H];simp only[resolve,E,Deferred.ofValue,pure_bind,Sem.run_bind,Result.andThen_ok,invoke,callFunc,program,Sem.run,k];simp[c.2,hb]
 unfold Oper.wp;rw[m];simp only[Oper.upon];refine d.mono ?_;rintro ee w' ⟨v,rfl,j,_,hr⟩;have Y:Ext (λ_=>False) q w':=⟨j.os,j.tape,j.output,j.size,λb' u _=>j.block b' u (by simp)⟩;obtain⟨g1,g2⟩:=n.grow Y;refine hK _ _ ?_;exact iU (λZ a' w' O J=>⟨Z,O,J⟩) (gk.put n hN D S B (W:=[]) ⟨g1,g2,KC.refl _ _⟩ (.pv (oQ G hr))) hQ
theorem WP.lendAt{b:Nat}(n:Nat)(d:ops.toList[n]?=some o)(a:o.op=.call {callee:=.value f,args:=xs.toArray,argTypes:=ats})(c:o.guard=none)
 (hq:dK C.P hn C.N ops (JO C (dK C.P hn C.N ops (Q .normal) (ops.toList.drop (n+1))) f xs o.dst) (ops.toList.take n) st):WP C (.region b ops false) Q st:=by
 grind [WP.lend,List.getElem?_eq_some_iff,List.getElem_cons_drop,List.take_append_drop]
end
theorem WP.of_st{c:Code}{P:St->Prop}(h:P st/\∀st,P st->WP C c Q st):WP C c Q st:=h.2 st h.1
theorem EJ{own:Bool}(g:s.near.length<=4096)(d:∀k,inK k=true->h k=bg own s c k):gi h=bg false s c:=by
 funext k
 unfold gi;by_cases a:inK k=true
 .rw[T8 a,d k a]
  split
  .rename_i e;subst e;rfl
  .rename_i e;unfold bg;rw[TQ e,TQ e]
 .rw[TQ a]
  cases f:bg false s c k with
  |none=>rfl
  |some b=>exact absurd ((ot g).keys k b f) a
theorem IG{own:Bool}{cs:List AV}{f:Bool}(h:bg own s c k=some (.box cs false f)):k=290:=by
 cases own with
 |false=>exact EH h
 |true=>
  unfold bg at h;split at h
  .assumption
  .exfalso
   repeat' split at h
   all_goals first|(injection h with h;injection h;done)|cases h
theorem CJ{own:Bool}(i:s.near.length<=4096)(e:∀k,inK k=true->h k=bg own s c k):InOk h:=by
 have hL:LookH (bg own s c):=ot i
 exact⟨λk b o d a=>hL.nf k b o (by rw[<-e k d];exact a),λk b d a=>hL.nm k b (by rw[<-e k d];exact a),λk g o f d a=>hL.cl k g o f (by rw[<-e k d];exact a),λk g f d a=>IG (own:=own) (s:=s) (c:=c) (by rw[<-e k d];exact a),λb a=>by
  rw[e 290 rfl]at a
  exact⟨_,_,_,(UM a).symm⟩⟩
theorem CK{own:Bool}{s':Spc}{c':Nat}(a:∀k,inK k=true->h k=bg own s c k)(b:inK k=true):fD h (bg false s' c') k=bg own s' c' k:=by
 unfold fD;rw[T8 b];split
 .rename_i e;subst e
  have:mE h 290=own:=by simp only[mE,a 290 rfl];rfl
  rw[this];rfl
 .rename_i e;unfold bg;rw[TQ e,TQ e]
theorem ko(own:Bool)(s:Spc)(c k:Nat):(bg own s c k).map (bw [])=bg own s c k:=by
 have d:(iu s.near++List.replicate c dz).map (au [])=iu s.near++List.replicate c dz:=by
  refine(List.map_congr_left (g:=id) λx a=>?_).trans (List.map_id _);rcases Ui.1 a with a|a
  .simp only[iu,Ur,UH]at a
   obtain⟨v,e,rfl⟩:=a;simp[au,bn,aH]
  .rw[(List.mem_replicate.1 a).2]
   simp[au,bn,aH]
 have b:au [] (lZ s)=lZ s:=by unfold au;rw[CI rfl];rfl
 unfold bg;split
 .show some (Blk.box _ own false)=_
  simp only[U9,WE,b];simp[au,bn,aH]
 .split
  .split<;>rfl
  .split
   .rfl
   .split
    .simp only[UO,bw,d]
    .split
     .rfl
     .split<;>rfl
theorem Hc{own:Bool}(e:k≠293)(hd:295<=d):(bg own s c k).map (bw [d])=bg own s c k:=by
 have b:bn [d] (lZ s)=false:=CI (by simp;omega);unfold bg;rw[TQ e];split
 .have a:∀x,bn [d] x=false->au [d] x=x:=λx h=>by unfold au;rw[h];rfl
  show some (Blk.box [au [d] _,au [d] _,au [d] _,au [d] _,au [d] _] own false)=_;rw[a (.pv _) rfl,a _ b,a (.arr 292 _) (by simp[bn,aH];omega),a (.ext _) (by simp[bn,aH,XV.key];omega),a (.arr 294 _) (by simp[bn,aH];omega)]
 .repeat' split
  all_goals rfl
theorem KU{own:Bool}(hn:s.near.length<=4096)(a:∀k,inK k=true->h k=bg own s c k):iy h 3 (.ptr 290 0)=some (m7 s):=by
 have o:=(a 290 rfl).trans (oo own s c);have q:=(a 292 rfl).trans (qF own s c);have r:=(a 293 rfl).trans (oq own s c);have u:=(a 294 rfl).trans (sT own s c)
 have j:iy h 2 (lZ s)=some (.sl (s.cells.map br)):=by
  cases d:s.cc with
  |true=>rw[N5 d];rfl
  |false=>
   have p:=(a 291 rfl).trans (qE own s c d);rw[rT d];simp[iy,inK,p]
 have l:iy h 2 (.arr 292 s.bx.length)=some (.sl (s.bx.map iv)):=by simp[iy,inK,q]
 have n:iy h 2 (.arr 294 s.jn.length)=some (.sl (s.jn.map Z)):=by simp[iy,inK,u]
 have m:iy h 2 (.ext (.barr 293 s.near.length (s.near.length+c)))=some (.sl (s.near.map uK)):=by
  have B:(iu s.near++List.replicate c dz).take s.near.length=iu s.near:=by
   rw[VG (by rw[cJ];omega),Us (by rw[cJ];omega)]
  have A:mL (iy h 1) (iu s.near)=some (s.near.map uK):=by
   refine Ee (by simp[cJ]) λi x y b g=>?_
   have hi:i<s.near.length:=by
    have:=(th.1 b).1
    rwa [cJ]at this
   rw[mm hi]at b;injection b with b;subst b;simp only[TR,No]at g;obtain⟨z,C,rfl⟩:=g
   have f:inK (i+300)=true:=by simp[inK];omega
   have v:=(a (i+300) f).trans (lL hi);simp[iy,f,v,ag,C]
  simp only[iy,inK,r];rw[B,A];simp[Lp]
 have e:mL (iy h 2) [.pv (iv s.root),lZ s,.arr 292 s.bx.length,.ext (.barr 293 s.near.length (s.near.length+c)),.arr 294 s.jn.length]=some [iv s.root,.sl (s.cells.map br),.sl (s.bx.map iv),.sl (s.near.map uK),.sl (s.jn.map Z)]:=by
  simp only[mL,j,l,m,n];rfl
 show(if inK 290=true then _ else _)=_;rw[T8 (show inK 290=true from rfl),o];simp only[e]
theorem IH(d:∀k,inK k=true->h k=bg true s c k):uR h:=by
 intro k b e a;rw[d k e]at a;unfold bg at a
 repeat' split at a
 all_goals first|(cases a;rfl)|cases a
theorem yh{Q:St->Prop}{d:Option Nat}{own:Bool}{a b:Nat}(hP:C.P=prog)(i:bX (st.ev f)=some (141,[],[]))(e:xs.map st.ev=[.ptr 290 0,.pv (Z a),.pv (Z b)])(j:∀k,inK k=true->st.h k=bg own s c k)
 (hn:s.near.length<=4096)(u:a<s.near.length)(y:b<s.near.length)(l:a≠b)(o:s.bx.length=s.near.length)(m:∀x∈s.bx,x.length<=9223372036854775807)(q:∀v,(ag s v).length<=4096)(hd:dm C.N d=true)
 (h:∀r g,(∀k,inK k=true->g k=bg own (fG s a b) c k)->(∀k,inK k=false->g k=(st.h k).map iZ)->Q (St.put ⟨λn=>gb (st.t n),g⟩ d r [])):tl C Q f xs d st:=by
 refine⟨_,λ_ g=>g=bg false (fG s a b) c,i,CJ hn j,?_,by rw[e];rfl,hd,λr g hL z hp=>?_⟩
 .rw[e,EJ hn j,hP]
  exact PM s c a b hn u y l o m q
 .have hp:g=_:=hp
  subst hp;exact h r _ (λk p=>CK j p) (λk p=>by unfold fD;rw[TQ (by rw[p];decide)])
theorem II(b:∀k,inK k=true->h k=none):gi h=lU:=by
 funext k
 unfold gi;by_cases a:inK k=true
 .rw[T8 a,b k a];split<;>rfl
 .rw[TQ a];rfl
theorem Hd(d:∀k,inK k=true->h k=none):InOk h:=
 ⟨λk b o c a=>(by rw[d k c]at a;cases a),λk b c a=>(by rw[d k c]at a;cases a),λk e o f c a=>(by rw[d k c]at a;cases a),λk e f c a=>(by rw[d k c]at a;cases a),λb a=>(by rw[d 290 rfl]at a;cases a)⟩
theorem GW{S G:Prop}(s:S)(h:S->G:=by
 intro hS
 repeat' (first
  |with_reducible refine aE.seq ?_
  |(with_reducible ((first|refine aE.region hF (hn:=[]) (by kernel_rfl) ?_|refine ll (by first|assumption|apply_assumption) ?_|refine aE.cond' ?_);simp -implicitDefEqProofs (maxSteps:=2000000) [hP,hN,hS]))
  |(with_reducible refine fV (by simp[hS]) (λhgd=>?_) (λhgd=>?_)<;>first|(exfalso;simp at hgd;done)|(exfalso;simp at hgd;omega)|simp -implicitDefEqProofs (maxSteps:=2000000) [hP,hN,hS])
  |with_reducible refine eK ?_ ?_
  |(with_reducible refine dR (λhcd=>?_) (λhcd=>?_)<;>(try (exfalso;clear hP hN;simp_all;done))<;>(try (exfalso;simp at *;omega)))
  |with_reducible refine aE.block ?_
  |(with_reducible ((first|refine aE.skip ?_|refine aE.exit ?_|refine aE.ret ?_);simp[hS])))):G:=h s
theorem GV{S G H:Prop}(s:S)(x:H)(h:S->Hid H->G:=by
 intro hS hG0
 repeat' (first
  |with_reducible refine aE.seq ?_
  |(with_reducible ((first|refine aE.region hF (hn:=[]) (by kernel_rfl) ?_|refine ll (by first|assumption|apply_assumption) ?_|refine aE.cond' ?_);simp -implicitDefEqProofs (maxSteps:=2000000) [hP,hN,hS]))
  |(with_reducible refine fV (by simp[hS]) (λhgd=>?_) (λhgd=>?_)<;>first|(exfalso;simp at hgd;done)|(exfalso;simp at hgd;omega)|simp -implicitDefEqProofs (maxSteps:=2000000) [hP,hN,hS])
  |with_reducible refine eK ?_ ?_
  |(with_reducible refine dR (λhcd=>?_) (λhcd=>?_)<;>(try (exfalso;clear hP hN;simp_all;done))<;>(try (exfalso;simp at *;omega)))
  |with_reducible refine aE.block ?_
  |(with_reducible ((first|refine aE.skip ?_|refine aE.exit ?_|refine aE.ret ?_);simp[hS])))
 exact hG0.h):G:=h s ⟨x⟩
abbrev HL(n:Nat):PV:=Z (n:Int)
def ik(t:Tr):List (PV×PV):=(bh t).map λi=>(HL i,iv (dU t (i:Int)))
def uw(a:Act):Nat:=match a.tmps.getD 14 undef with
 |.int _ v=>v.toNat
 |_=>0
def tL(l:Nat)(t:Tr)(i:Nat):Nat->AV:=λm=>if m=0 then .pv (.val (.func (.yield l) #[] #[]))else if m=1 then .pv (.rptr (bZ t) 0)else if m=12 then .pv (.sl ((bj t).map iv))else if m=13 then .pv (Z (bj t).length)else if m=14 then .pv (Z i)else .undef
def fy(l:Nat)(t:Tr)(i:Nat)(st:St):Prop:=st.t 0=.pv (.val (.func (.yield l) #[] #[]))/\st.t 1=.pv (.rptr (bZ t) 0)/\st.t 12=.pv (.sl ((bj t).map iv))/\st.t 13=.pv (Z (bj t).length)/\st.t 14=.pv (Z i)
def tX(l:Nat)(t:Tr)(i:Nat)(x y:Nat)(p q:PV):Nat->AV:=λm=>if m=x then .pv p else if m=y then .pv q else tL l t i m
theorem vW{a:Act}(h:eQ 33 M (bC st.t) a w)(j:fy l t i st):eQ 33 M (tL l t i) a w:=h.sub (λm=>by
 obtain⟨k,n,e,f,g⟩:=j;unfold tL;by_cases m0:m=0
 .subst m0;right;simp[bC,k]
 by_cases m1:m=1
 .subst m1;right;simp[bC,n]
 by_cases b:m=12
 .subst b;right;simp[bC,e]
 by_cases c:m=13
 .subst c;right;simp[bC,f]
 by_cases d:m=14
 .subst d;right;simp[bC,g]
 .left;simp[m0,m1,b,c,d])
theorem uy{x y:Nat}{a:Act}(h:eQ 33 M (bC st.t) a w)(c:fy l t i st)(d:st.t x=.pv p)(f:st.t y=.pv q):eQ 33 M (tX l t i x y p q) a w:=by
 have b:=vW h c;refine⟨h.1,λm=>?_⟩;unfold tX;split
 .rename_i e;subst e
  have:=h.2 m;simp only[bC,d]at this;exact this
 .split
  .rename_i e;subst e
   have:=h.2 m;simp only[bC,f]at this;exact this
  .exact b.2 m
theorem Ok{x y:Nat}{c:Nat->AV}{a:Act}(h:eQ 33 M c a w)(s:c 0=.pv (.val (.func (.yield l) #[] #[])))(u:c 1=.pv (.rptr (bZ t) 0))(j:c 12=.pv (.sl ((bj t).map iv)))(k:c 13=.pv (Z (bj t).length))(n:c 14=.pv (Z i))(o:c x=.pv p)(r:c y=.pv q):eQ 33 M (tX l t i x y p q) a w:=h.sub (λm=>by
 unfold tX tL;by_cases b:m=x
 .subst b;right;simp[o]
 by_cases d:m=y
 .subst d;right;simp[b,r]
 by_cases m0:m=0
 .subst m0;right;simp[s,b,d]
 by_cases m1:m=1
 .subst m1;right;simp[u,b,d]
 by_cases e:m=12
 .subst e;right;simp[j,b,d]
 by_cases f:m=13
 .subst f;right;simp[k,b,d]
 by_cases g:m=14
 .subst g;right;simp[n,b,d]
 .left;simp[m0,m1,e,f,g,b,d])
theorem xE{t:Tr}{i:Nat}(a:fT t i=true):∀{n:Nat},i<n->(dr t n)[(dr t i).length]?=some i
 |0,h=>by omega
 |n+1,h=>by
  rw[rB];by_cases e:i=n
  .subst e
   rw[T8 a];simp
  .have ih:=xE a (n:=n) (by omega)
   have b:=(th.1 ih).1;split
   .rw[T4 b];exact ih
   .exact ih
theorem eQ.put{t:Nat->AV}{a:Act}(h:eQ N M t a w)(hd:d<N){v:Value}(c:Rep w M p v):eQ N M (ae t d (.pv p)) (a.put (some d) v) w:=by
 have b:d<a.tmps.size:=by rw[h.1];exact hd
 refine⟨by simpa[Act.put]using h.1,λm=>?_⟩;rw[qR b];simp only[ae];split
 .exact .inr ⟨p,rfl,c⟩
 .exact h.2 m
theorem Lk{fn:Func}(h:fn.results=#[])(tmps:Array Value)(P:Program)(w:World):(results fn tmps).run P w=.ok (.tuple #[]) w:=by
 unfold results;rw[h];simp[go_sem]
theorem oK{t:Nat->AV}{a:Act}(h:eQ N M t a w){m:Nat}{v:Value}(e:t m=.pv (.val v)):a.tmps.getD m undef=v:=by
 rcases h.2 m with b|⟨p,b,c⟩
 .rw[e]at b;cases b
 .rw[e]at b;injection b with b;subst b
  exact aM c
theorem DK{t:Nat->AV}{a:Act}(h:eQ N M t a w){m:Nat}(e:t m=.pv p):Rep w M p (a.tmps.getD m undef):=by
 rcases h.2 m with b|⟨d,b,c⟩
 .rw[e]at b;cases b
 .rw[e]at b;injection b with b;subst b
  exact c
set_option maxRecDepth 100000 in
theorem R5(t:Tr)(hl:t.cells.length<=9223372036854775807):Fs prog 269 [.rptr (bZ t) 0] (ik t):=by
 refine⟨by kernel_rfl,λn l lb W M J s j hY h0 U=>?_⟩
 obtain⟨v1,rfl⟩:∃v,lb=[v]:=by
  have:=U.1
  cases lb with
  |nil=>simp at this
  |cons v r=>cases r with
   |nil=>exact⟨v,rfl⟩
   |cons=>simp at this
 have a5:Rep W M (.rptr (bZ t) 0) v1:=U.2 0 _ _ rfl rfl;have hF:=gC;have cb:=Jq t hl;refine callsIn_of_wp_marks func269 rfl trivial ?_ rfl
 have H0:eQ 33 M (λm=>if m=0 then .pv (.val (.func (.yield l) #[] #[]))else if m=1 then .pv (.rptr (bZ t) 0)else .undef) {tmps:=((#[Value.func (.yield l) #[] #[]]:Array Value)++[v1].toArray)++Array.replicate (f269.ntmps-((#[Value.func (.yield l) #[] #[]]:Array Value)++[v1].toArray).size) undef,defers:=[]} W:=by
  refine⟨by rw[ntmps269];simp,λm=>?_⟩;by_cases m0:m=0
  .subst m0;exact .inr ⟨_,rfl,by simp;exact .val _⟩
  .by_cases m1:m=1
   .subst m1;exact .inr ⟨_,rfl,by simpa using a5⟩
   .left;simp[m0,m1]
 refine wpIn_seq (wpIn_mono (H0.step (s 0 M W h0) (Q:=λe b=>e=.normal/\b.t 0=.pv (.val (.func (.yield l) #[] #[]))/\b.t 1=.pv (.rptr (bZ t) 0)/\b.t 3=.pv (.sl ((bj t).map iv))) (λC hP hN=>?_)) ?_)
 .skip
  exact GW trivial
 rintro e F G ⟨a8,⟨rfl,g0,g1,g3⟩,X,E,y⟩;have q:=j 0 M W G h0 E
 have a9:eQ 33 M (λm=>if m=0 then .pv (.val (.func (.yield l) #[] #[]))else if m=1 then .pv (.rptr (bZ t) 0)else if m=3 then .pv (.sl ((bj t).map iv))else .undef) F G:=X.sub (λm=>by
  by_cases m0:m=0
  .subst m0;right;simp[bC,g0]
  .by_cases m1:m=1
   .subst m1;right;simp[bC,g1]
   .by_cases m3:m=3
    .subst m3;right;simp[bC,g3]
    .left;simp[m0,m1,m3])
 show Code.wpIn Fence.wide n prog _ _ F G;refine wpIn_seq (wpIn_mono (a9.step (s 0 M G q) (Q:=λe b=>e=.normal/\b.t 0=.pv (.val (.func (.yield l) #[] #[]))/\b.t 1=.pv (.rptr (bZ t) 0)/\b.t 12=.pv (.sl ((bj t).map iv))/\b.t 13=.pv (Z (bj t).length)/\b.t 14=.pv (Z 0)) (λC hP hN=>?_)) ?_)
 .skip
  exact GW trivial
 rintro e a2 w2 ⟨b9,⟨rfl,k0,k1,b2,b3,b4⟩,H2,T,K⟩;have A:=j 0 M G w2 q T
 have ba:eQ 33 M (tL l t 0) a2 w2:=H2.sub (λm=>by
  unfold tL;by_cases m0:m=0
  .subst m0;right;simp[bC,k0]
  by_cases m1:m=1
  .subst m1;right;simp[bC,k1]
  by_cases b5:m=12
  .subst b5;right;simp[bC,b2]
  by_cases b7:m=13
  .subst b7;right;simp[bC,b3]
  by_cases b8:m=14
  .subst b8;right;simp[bC,b4]
  .left;simp[m0,m1,b5,b7,b8])
 have D:a2.defers=[]:=by rw[K,y]
 clear X a9 H2 H0 g0 g1 g3 k0 k1 b2 b3 b4 E T y K q h0;show Code.wpIn Fence.wide n prog _ _ a2 w2;refine wpIn_block (wpIn_loop (λa w=>∃i M',i<=(bj t).length/\J (dr t i).length M' w/\eQ 33 M' (tL l t i) a w/\a.defers=[]) (λa _=>(bj t).length-uw a) ⟨0,M,UR _,by simpa[dr]using A,ba,D⟩ ?_);clear A ba D a2 w2 b9 F G a8;rintro a w ⟨i,M',hi,hJ,hH,D⟩
 have cQ:uw a=i:=by simp[uw,oK hH (m:=14) (v:=.int .i64 i) (by simp[tL])]
 have bq:=s _ _ _ hJ;by_cases f:i<(bj t).length
 .have R:aO t=true:=by
   cases h:aO t with
   |true=>rfl
   |false=>
    have:bj t=[]:=by
     simp only[aO]at h;simp[bj,Option.isSome_eq_false_iff.1 h |> WJ.1]
    rw[this]at f;simp at f
  have cS:=lR R
  have k:i<t.cells.length:=by omega
  have hz:=dv.1 (gz R);generalize hc:t.cells[i]=c at *
  have x:t.cells[i]?=some c:=by rw[an k,hc]
  obtain⟨ch,cP,_⟩:=mQ R (c:=(i:Int)) k;have u:(bj t)[i]?=some (dU t i):=ch;have z:=dx u f;have S:i64.wrap ((i:Int)+1)=(i:Int)+1:=aa;have cl:=Dx c;have g:=rB t i
  have N:fT t i=dY c:=by simp[fT,x]
  rw[N]at g;refine wpIn_seq (wpIn_mono (hH.step bq (Q:=λe b=>e=.normal/\fy l t i b/\b.t 15=.pv (.val (.bool true))) (λC hP hN=>?_)) ?_)
  .skip
   repeat' (first
    |with_reducible refine aE.seq ?_
    |(with_reducible ((first|refine aE.region hF (hn:=[]) (by kernel_rfl) ?_|refine aE.cond' ?_);simp -implicitDefEqProofs (maxSteps:=2000000) [hP,hN,tL,fy,f]))
    |(with_reducible refine fV (by simp[tL,fy,f]) (λhgd=>?_) (λhgd=>?_)<;>first|(exfalso;simp at hgd;done)|(exfalso;simp at hgd;omega)|simp -implicitDefEqProofs (maxSteps:=2000000) [hP,hN,tL,fy,f])
    |with_reducible refine eK ?_ ?_
    |(with_reducible refine dR (λhcd=>?_) (λhcd=>?_)<;>(try (exfalso;clear hP hN;simp_all;done))<;>(try (exfalso;simp at *;omega)))
    |with_reducible refine aE.block ?_
    |(with_reducible ((first|refine aE.skip ?_|refine aE.exit ?_|refine aE.ret ?_);simp[tL,fy,f])))
  rintro e F G ⟨a8,⟨rfl,cp,ad⟩,X,E,y⟩;have q:=j _ _ _ _ hJ E;have Y:F.eval (.tmp 15)=.bool true:=oK X (m:=15) (by simp[bC,ad]);have K1:=vW X cp;show Code.wpIn Fence.wide n prog _ _ F G;refine wpIn_seq (wpIn_cond_true Y (wpIn_skip ?_));show Code.wpIn Fence.wide n prog _ _ F G;refine wpIn_seq (wpIn_block ?_);refine wpIn_seq (wpIn_mono (K1.step (s _ _ _ q) (Q:=λe b=>e=.normal/\fy l t i b/\b.t 5=.pv (Z i)/\b.t 6=.pv (iv (dU t i))) (λC hP hN=>?_)) ?_)
  .skip
   repeat' (first
    |with_reducible refine aE.seq ?_
    |(with_reducible ((first|refine aE.region hF (hn:=[]) (by kernel_rfl) ?_|refine aE.cond' ?_);simp -implicitDefEqProofs (maxSteps:=2000000) [hP,hN,tL,fy,f,u,z]))
    |(with_reducible refine fV (by simp[tL,fy,f,u,z]) (λhgd=>?_) (λhgd=>?_)<;>first|(exfalso;simp at hgd;done)|(exfalso;simp at hgd;omega)|simp -implicitDefEqProofs (maxSteps:=2000000) [hP,hN,tL,fy,f,u,z])
    |with_reducible refine eK ?_ ?_
    |(with_reducible refine dR (λhcd=>?_) (λhcd=>?_)<;>(try (exfalso;clear hP hN;simp_all;done))<;>(try (exfalso;simp at *;omega)))
    |with_reducible refine aE.block ?_
    |(with_reducible ((first|refine aE.skip ?_|refine aE.exit ?_|refine aE.ret ?_);simp[tL,fy,f,u,z])))
  rintro e a2 w2 ⟨b9,⟨rfl,cq,h5,h6⟩,H2,T,K⟩;have A:=j _ _ _ _ q T;have K2:=uy H2 cq h5 h6;have bs:=s _ _ _ A;show Code.wpIn Fence.wide n prog _ _ a2 w2;refine wpIn_seq (wpIn_mono (Q:=λe a3 V=>e=.normal/\∃M3,J (dr t (i+1)).length M3 V/\eQ 33 M3 (tX l t i 31 31 (B false) (B false)) a3 V/\a3.defers=[]) ?_ ?_)
  .cases b1:dY c with
   |false=>
    rw[b1]at cl g;rw[TQ (by simp)]at g;refine wpIn_mono (K2.step bs (Q:=λe b=>e=.normal/\fy l t i b/\b.t 31=.pv (.val (.bool false))) (λC hP hN=>?_)) ?_
    .skip
     repeat' (first
      |with_reducible refine aE.seq ?_
      |(with_reducible ((first|refine aE.region hF (hn:=[]) (by kernel_rfl) ?_|refine ll (cl) ?_|refine aE.cond' ?_);simp -implicitDefEqProofs (maxSteps:=2000000) [hP,hN,tX,tL,fy,k,x,hc]))
      |(with_reducible refine fV (by simp[tX,tL,fy,k,x,hc]) (λhgd=>?_) (λhgd=>?_)<;>first|(exfalso;simp at hgd;done)|(exfalso;simp at hgd;omega)|simp -implicitDefEqProofs (maxSteps:=2000000) [hP,hN,tX,tL,fy,k,x,hc])
      |with_reducible refine eK ?_ ?_
      |(with_reducible refine dR (λhcd=>?_) (λhcd=>?_)<;>(try (exfalso;clear hP hN;simp_all;done))<;>(try (exfalso;simp at *;omega)))
      |with_reducible refine aE.block ?_
      |(with_reducible ((first|refine aE.skip ?_|refine aE.exit ?_|refine aE.ret ?_);simp[tX,tL,fy,k,x,hc])))
    rintro e a3 V ⟨cB,⟨rfl,ar,H⟩,O,a7,L⟩;exact⟨rfl,M',by rw[g];exact j _ _ _ _ A a7,uy O ar H H,by rw[L,K,y];exact D⟩
   |true=>
    rw[b1]at cl g N;rw[T8 rfl]at g;refine wpIn_region_list ?_;rw[<-UY 10 (Array.toList _)];refine dQ _ ?_;refine K2.list bs (hn:=[]) (Q:=λb=>fy l t i b/\b.t 25=.pv (.val (.bool true))/\b.t 26=.pv (.val (.func (.yield l) #[] #[]))/\b.t 27=.pv (Z i)/\b.t 28=.pv (iv (dU t i))) (λo ho=>lJ (by kernel_rfl) (VS ho)) ?_ ?_
    .simp -implicitDefEqProofs [tX,tL,fy,k,x,hc]
     refine ll cl ?_;simp -implicitDefEqProofs [tX,tL,fy,k,x,hc]
    intro cB a3 V ⟨ar,bb,ca,cd,cf⟩ O a7 L;have I:=j _ _ _ _ A a7;have cg:=s _ _ _ I
    have cz:(ik t)[(dr t i).length]?=some (HL i,iv (dU t (i:Int))):=by
     have hL:bh t=dr t t.cells.length:=by simp[bh,R]
     simp[ik,hL,xE N k]
    have hy:=hY (n-1) _ _ M' V _ _ cz I (DK O (m:=27) (by simp[bC,cd])) (DK O (m:=28) (by simp[bC,cf]));refine Ft ?_ rfl rfl rfl (oK O (m:=26) (by simp[bC,ca])) hy ?_
    .exact ey (O.sim (P:=prog) cg).2.2 (by simp[fA,bC,bb])
    rintro e w4 ⟨rfl,M4,bc,cu⟩;refine⟨_,rfl,?_⟩;obtain⟨y0,y1,cH,cM,cN⟩:=ar;have H5:=(O.mono cu).put (d:=29) (by decide) (p:=B true) (.val (.bool true));have K5:eQ 33 M4 (tX l t i 25 29 (B true) (B true)) (a3.put (some 29) (.bool true)) w4:=Ok H5 (by simp[ae,bC,y0]) (by simp[ae,bC,y1]) (by simp[ae,bC,cH]) (by simp[ae,bC,cM]) (by simp[ae,bC,cN]) (by simp[ae,bC,bb]) (by simp[ae]);refine K5.list (s _ _ _ bc) (hn:=[]) (Q:=λb=>fy l t i b/\b.t 31=.pv (.val (.bool false))) (λo ho c' cj=>by simp at ho;rcases ho with rfl|rfl<;>cases cj) ?_ ?_
    .simp -implicitDefEqProofs [tX,tL,fy]
    intro cU a6 w6 ⟨ct,H⟩ H6 cx cm;refine⟨rfl,M4,?_,uy H6 ct H H,?_⟩
    .have:(dr t (i+1)).length=(dr t i).length+1:=by rw[g];simp
     rw[this];exact j _ _ _ _ bc cx
    .rw[cm,kj,L,K,y];exact D
  rintro e a3 V ⟨rfl,M3,I,O,L⟩;show Code.wpIn Fence.wide n prog _ _ a3 V;refine wpIn_cond_false (oK O (m:=31) (by simp[tX])) (wpIn_skip ?_);show Code.wpIn Fence.wide n prog _ _ a3 V;refine wpIn_mono (O.step (s _ _ _ I) (Q:=λe b=>e=.normal/\fy l t (i+1) b) (λC hP hN=>?_)) ?_
  .skip
   repeat' (first
    |with_reducible refine aE.seq ?_
    |(with_reducible ((first|refine aE.region hF (hn:=[]) (by kernel_rfl) ?_|refine aE.cond' ?_);simp -implicitDefEqProofs (maxSteps:=2000000) [hP,hN,tX,tL,fy,S]))
    |(with_reducible refine fV (by simp[tX,tL,fy,S]) (λhgd=>?_) (λhgd=>?_)<;>first|(exfalso;simp at hgd;done)|(exfalso;simp at hgd;omega)|simp -implicitDefEqProofs (maxSteps:=2000000) [hP,hN,tX,tL,fy,S])
    |with_reducible refine eK ?_ ?_
    |(with_reducible refine dR (λhcd=>?_) (λhcd=>?_)<;>(try (exfalso;clear hP hN;simp_all;done))<;>(try (exfalso;simp at *;omega)))
    |with_reducible refine aE.block ?_
    |(with_reducible ((first|refine aE.skip ?_|refine aE.exit ?_|refine aE.ret ?_);simp[tX,tL,fy,S])))
  rintro e a4 w4 ⟨cT,⟨rfl,cr⟩,H4,cw,ck⟩;have K4:=vW H4 cr;refine⟨⟨i+1,M3,by omega,j _ _ _ _ I cw,K4,by rw[ck];exact L⟩,?_⟩
  have cn:uw a4=i+1:=by
   simp only[uw,oK K4 (m:=14) (v:=.int .i64 ((i+1:Nat):Int)) (by simp[tL])];omega
  show(bj t).length-uw a4<(bj t).length-uw a;omega
 .have bH:i=(bj t).length:=by omega
  refine wpIn_seq (wpIn_mono (hH.step bq (Q:=λe b=>e=.normal/\b.t 15=.pv (.val (.bool false))) (λC hP hN=>?_)) ?_)
  .skip
   repeat' (first
    |with_reducible refine aE.seq ?_
    |(with_reducible ((first|refine aE.region hF (hn:=[]) (by kernel_rfl) ?_|refine aE.cond' ?_);simp -implicitDefEqProofs (maxSteps:=2000000) [hP,hN,tL,f]))
    |(with_reducible refine fV (by simp[tL,f]) (λhgd=>?_) (λhgd=>?_)<;>first|(exfalso;simp at hgd;done)|(exfalso;simp at hgd;omega)|simp -implicitDefEqProofs (maxSteps:=2000000) [hP,hN,tL,f])
    |with_reducible refine eK ?_ ?_
    |(with_reducible refine dR (λhcd=>?_) (λhcd=>?_)<;>(try (exfalso;clear hP hN;simp_all;done))<;>(try (exfalso;simp at *;omega)))
    |with_reducible refine aE.block ?_
    |(with_reducible ((first|refine aE.skip ?_|refine aE.exit ?_|refine aE.ret ?_);simp[tL,f])))
  rintro e F G ⟨a8,⟨rfl,ad⟩,X,E,y⟩;have q:=j _ _ _ _ hJ E;have Y:F.eval (.tmp 15)=.bool false:=oK X (m:=15) (by simp[bC,ad]);show Code.wpIn Fence.wide n prog _ _ F G;refine wpIn_seq (wpIn_cond_false Y (wpIn_exit ?_));show LeavesInM Fence.wide n prog f269 F.tmps _ F.defers .returning G;rw[y,D];refine⟨_,Lk results269 _ _ _,⟨_,rfl⟩,M',?_⟩
  have b0:(ik t).length=(dr t i).length:=by
   cases R:aO t with
   |true=>
    have:=lR R;rw[bH,this];simp[ik,bh,R]
   |false=>
    have:bj t=[]:=by
     simp only[aO]at R;simp[bj,Option.isSome_eq_false_iff.1 R |> WJ.1]
    rw[bH,this];simp[ik,bh,R,dr]
  rw[b0];exact q
set_option maxRecDepth 100000 in
theorem Gk:wu prog 213:=by
 refine⟨by kernel_rfl,λn args w=>?_⟩;refine callsDIn_of_wpSIn func213 rfl trivial λe g f=>?_;apply wpSIn_seq;apply wpSIn_region
 have a:∀k,k<f213.ntmps->k<args.size+(f213.ntmps-args.size):=by intro k h;omega
 rw[ntmps213]at a;have b:=a 0 (by decide);have c:=a 1 (by decide);have d:=a 2 (by decide);simp[wpOpsSIn,go_sem,recoverD,f,ntmps213,Exit.thenS,b,c,d];refine wpSIn_cond (t:=false) (by simp[Act.eval,b,c,d]) ?_;simp only[T5,Uf];refine wpSIn_of_wpIn rfl (wpIn_skip ?_);cases e
 simp_all[bodyPostS,results,results213]
theorem R6(t:Tr):aR 214 (bZ t) (.fn (.func 269) [] [.rptr (bZ t) 0]):=by
 refine Dp func214 λC hP hN=>?_;exact Gy
def LI(b a:Nat)(acc:List Nat)(h:Hp):Prop:=(acc=[]/\h b=some (.box [.pv (.val (.slice none 0 0))] false false)/\h a=none)\/(acc≠[]/\h b=some (.box [.arr a acc.length] false false)/\h a=some (.row 3 1 (acc.map HL) 0))
theorem HM{x:PV×PV}(h:(ik t)[i]?=some x):∃e,(bh t)[i]?=some e/\x=(HL e,iv (dU t (e:Int))):=by
 rw[ik,TR,No]at h;obtain⟨e,a,b⟩:=h;exact⟨e,a,b.symm⟩
theorem JA{l:List Nat}(h:l[i]?=some e):l.take (i+1)=l.take i++[e]:=by
 obtain⟨a,b⟩:=th.1 h;rw[UN a,b]
theorem DL(t:Tr):(bh t).length<=2048:=by
 cases a:aO t with
 |false=>simp[bh,a]
 |true=>
  have:=dv.1 (gz a);have:=sB t t.cells.length;simp[bh,a];omega
theorem wD{b:Blk}(e:h k=some b)(d:∀a f,b≠.box a false f):∀a f,h k≠some (.box a false f):=by
 intro a f c;rw[e]at c;injection c with c;exact d a f c
set_option maxRecDepth 100000 in
theorem R7(t:Tr)(F:aO t=true)(L:t.cells.length<=9223372036854775807):aP prog 140 [.pv (bZ t)] [] [] (.nrow 3 1 ((bh t).map HL)):=by
 refine Er (args:=[bZ t]) func140 rfl (by kernel_rfl) (by simp[f140]) ?_;intro C hP hN n;simp only[f140]at hN|-;have hF:=gC;refine n7.seq n ?_;refine GV trivial ?_;refine n7.defer (pre:=[_]) (hn:=[]) (g:=213) rfl (λo J R D=>by simp at J;subst J;cases D) rfl rfl rfl rfl rfl (by rw[hP];exact Gk) ?_;simp -implicitDefEqProofs [hP,hN];refine n7.range n (gf:=269) (caps:=[.rptr (bZ t) 0]) (xs:=ik t) (by rw[hP];exact R5 t L) (by rw[hN];decide) (by rw[hN];decide) (ks:=[2]) (hin:=λ_=>[.val (.slice none 0 0)]) (t:=λm=>if m=2 then .ptr 2 0 else .undef) ?_ (λi h=>LI 2 12 ((bh t).take i) h) ?_ ?_ ?_ (by kernel_rfl) (hn:=[]) ?_
 .skip
  have S:=R6 t;refine GV trivial ?_
  all_goals (intro m;by_cases M:m=2<;>simp[M])
 .left;simp[kl]
 .intro i h k H hi
  simp at H;subst H;rcases hi with⟨_,G,_⟩|⟨_,G,_⟩
  all_goals exact⟨_,G⟩
 .intro P Q l i x h z v A y O u
  obtain⟨e,K,rfl⟩:=HM O;have B:=JA K;have N:=DL t
  have I:((bh t).take i).length<=2048:=by rw[UL];omega
  rw[B];generalize(bh t).take i=j at *;have hF:=ze l;have q:=hP;have p:=hN;clear hP hN;have hP:=z.trans q;have hN:=v.trans p;have c:=A.trans q;have b:=y.trans p
  have s:(j.length+1)*8<=140737488355328:=by omega
  have f:j.length+1<=9223372036854775807:=by omega
  rcases u with⟨rfl,d,a⟩|⟨E,d,a⟩
  .skip
   repeat' (first
    |with_reducible refine aE.seq ?_
    |(with_reducible ((first|refine aE.region hF (hn:=[]) (by kernel_rfl) ?_|refine aE.cond' ?_);simp -implicitDefEqProofs (maxSteps:=2000000) [hP,hN,c,b,pJ,d,a]))
    |(with_reducible refine fV (by simp[c,b,pJ,d,a]) (λhgd=>?_) (λhgd=>?_)<;>first|(exfalso;simp at hgd;done)|(exfalso;simp at hgd;omega)|simp -implicitDefEqProofs (maxSteps:=2000000) [hP,hN,c,b,pJ,d,a])
    |with_reducible refine eK ?_ ?_
    |(with_reducible refine dR (λhcd=>?_) (λhcd=>?_)<;>(try (exfalso;clear hP hN;simp_all;done))<;>(try (exfalso;simp at *;omega)))
    |with_reducible refine aE.block ?_
    |(with_reducible ((first|refine aE.skip ?_|refine aE.exit ?_|refine aE.ret ?_);simp[c,b,pJ,d,a])))
   all_goals exact .inr ⟨by simp,by simp[ae],by simp[ae]⟩
  .skip
   repeat' (first
    |with_reducible refine aE.seq ?_
    |(with_reducible ((first|refine aE.region hF (hn:=[]) (by kernel_rfl) ?_|refine aE.cond' ?_);simp -implicitDefEqProofs (maxSteps:=2000000) [hP,hN,c,b,pJ,d,a,s,f]))
    |(with_reducible refine fV (by simp[c,b,pJ,d,a,s,f]) (λhgd=>?_) (λhgd=>?_)<;>first|(exfalso;simp at hgd;done)|(exfalso;simp at hgd;omega)|simp -implicitDefEqProofs (maxSteps:=2000000) [hP,hN,c,b,pJ,d,a,s,f])
    |with_reducible refine eK ?_ ?_
    |(with_reducible refine dR (λhcd=>?_) (λhcd=>?_)<;>(try (exfalso;clear hP hN;simp_all;done))<;>(try (exfalso;simp at *;omega)))
    |with_reducible refine aE.block ?_
    |(with_reducible ((first|refine aE.skip ?_|refine aE.exit ?_|refine aE.ret ?_);simp[c,b,pJ,d,a,s,f])))
   all_goals exact .inr ⟨by simp,by simp[ae],by simp[ae]⟩
 .intro h u
  have r:(bh t).take (ik t).length=bh t:=Us (by simp[ik]);rw[r]at u;rcases u with⟨e,d,a⟩|⟨E,d,a⟩
  .have:=sC F
   rw[e]at this;simp at this
  .simp -implicitDefEqProofs [hP,hN,d,a]
def fu(e sz:Nat)(ys:List PV):Hp:=λk=>if k=291 then some (.row e sz ys 0)else none
theorem fE{b:Blk}(h:fu e sz ys k=some b):k=291/\b=.row e sz ys 0:=by
 unfold fu at h;split at h
 .rename_i a;injection h with h;exact⟨a,h.symm⟩
 .cases h
theorem HS{hK:Hp}{g:FuncId}(Z:o.op=.call {callee:=.value f,args:=xs.toArray,argTypes:=ats})(hd:o.dst=some d)(b1:hK d=none)
 (bb:bX (ρ f)=some (g,[],[]))(m:xs.map ρ=args.map AV.pv)(hD:nh P g (args.map .pv) lU (λr h'=>r=.tup [.agg (pre.map .pv++[.arr 291 ys.length]),.pv q]/\h'=fu e sz ys)):
 lG P o ρ hK (.tup [.agg (pre.map .pv++[.arr d ys.length]),.pv q]) [(d,.row e sz ys 0)]:=by
 intro C L h S T hP hm hs hf hρ next Q O
 subst hP;obtain⟨a,a6⟩:=hD
 have bc:h d=none:=by rw[<-(hf d hd).1];exact b1
 have J:∀x,x=f\/x∈xs->RepA S (ab C L h) L h (ρ x) (T.eval x):=λx z=>hρ x (by rw[Z];rcases z with rfl|z<;>simp[Op.operands,Call.operands, *]);obtain⟨vs,us,bq,b8,b9⟩:=iX (J f (.inl rfl)) bb;have cb:=b8.nil_inv;have b7:=b9.nil_inv;subst cb;subst b7
 have a7:∀b o,uz (ab C L h) L lU b o->ab C L h b o:=by
  rintro b o (M|⟨k,D,c,_⟩)
  .exact M
  .cases c
 have E:=a6 S (ab C L h) L (xs.map T.eval) (λb o M=>hm.mlt M) ⟨λk b c=>(by cases c),λk k' b R _ c=>(by cases c),λk b c=>(by cases c),λk cs f c=>(by cases c)⟩ (by
  rw[<-m];refine⟨by simp,λi p u hp B=>?_⟩;have ad:=hp;rw[m,TR,No]at ad;obtain⟨p0,_,rfl⟩:=ad;simp only[TR,No]at hp B;obtain⟨x,z,cg⟩:=hp;obtain⟨y,hy,rfl⟩:=B;rw[z]at hy;injection hy with hy;subst hy;have:=J x (.inr (Is z));rw[cg]at this
  cases this with
  |pv hr=>exact .pv (hr.mono (Pres.sub a7)))
 have ar:(execOp T.eval o).run C.P S=.ok (.enter g (xs.map T.eval).toArray) S:=by
  unfold da at a
  cases N:C.P.funcs[g]? with
  |none=>rw[N]at a;cases a
  |some fn=>
   rw[N]at a;simp only[An,UG,U4,ne_eq]at a
   have hb:fn.body.isNone=false:=by cases ck:fn.body<;>simp_all
   unfold execOp;rw[Z];simp only[resolve,bq,Deferred.ofValue,pure_bind,Sem.run_bind,Result.andThen_ok,invoke,callFunc,program,Sem.run,N];simp[a.2,hb]
 unfold Oper.wp;rw[ar];simp only[Oper.upon];refine E.mono ?_;rintro ee w' ⟨v,r,A,h',rfl,z,cm,b4,hr,cj,⟨rfl,rfl⟩,_,_,X⟩
 have b2:∀b,¬mD lU L b:=by rintro b ⟨k,D,c,_⟩;cases c
 have b3:∀b,¬jv lU L b:=by rintro b ⟨k,D,c,_⟩;cases c
 have cf:Ext (λ_=>False) S w':=⟨z.os,z.tape,z.output,z.size,λR a8 _=>z.block R a8 (b2 R)⟩
 have G:fu e sz ys 291=some (.row e sz ys 0):=by simp[fu]
 have hb:=b4.bl 291 _ G;have a9:(A 291).isNil=false->S.heap.size<=(A 291).b:=λhn=>(X 291 _ G rfl hn).elim id λM=>absurd M (b3 _)
 have s:∀b o,(ab C L h b o\/((A 291).isNil=false/\b=(A 291).b))->uz (ab C L h) A (fu e sz ys) b o:=by
  rintro b o (M|⟨hn,rfl⟩)
  .exact .inl M
  .exact .inr ⟨291,_,G,hn,rfl,by simp[Blk.frz]⟩
 have ba:dJ w' (λR o=>ab C L h R o\/((A 291).isNil=false/\R=(A 291).b)) (λ_=>default) (λ_=>none) (A 291) (.row e sz ys 0):=by
  obtain⟨c1,c2,c3,c4,c5⟩:=hb;refine⟨c1,c2,c3,c4,λhn=>?_⟩;obtain⟨d1,d2,arr,d3,d4,d5⟩:=c5 hn;refine⟨d1,d2,arr,d3,d4,λi x j p cd hj=>?_⟩;obtain⟨u,B,n⟩:=d5 i x j p cd hj;exact⟨u,B,n.mono (Pres.sub s)⟩
 generalize hl:A 291=l at *;have Y:=kK (e:=e) (sz:=sz) (xs:=ys) hm cf bc (hf d hd).2 a9 ba
 have K:∀b o,ab C (ae L d l) (ae h d (some (.row e sz ys 0))) b o->uz (ab C L h) A (fu e sz ys) b o:=by
  rintro b o (U|⟨k,D,c,I,H,bs⟩)
  .exact .inl (.inl U)
  .by_cases W:k=d
   .subst W
    rw[aF]at c H I;injection c with c;subst c;exact s b o (.inr ⟨I,H.symm⟩)
   .rw[bB W]at c H I
    exact .inl (.inr ⟨k,D,c,I,H,bs⟩)
 refine O _ _ (ae L d l) (by rw[iI];exact Y.1) ?_;rw[iI]
 cases hr with
 |tup _ vs ca hh=>
  refine .tup _ _ (by simpa using ca) (λi p u hp B=>?_)
  match i,hp with
  |0,hp=>
   simp only[Vf,T6]at hp;subst hp;have U:=hh 0 _ u rfl B
   cases U with
   |agg _ us a5 V=>
    have ch:us.length=pre.length+1:=by simpa using a5.symm
    refine .agg _ _ (by simpa using a5) (λi p u hp B=>?_);by_cases hi:i<pre.length
    .rw[T4 (by simpa using hi),TR,an hi]at hp
     simp only[UO,T6]at hp;subst hp;have:=V i (.pv pre[i]) u (by rw[T4 (by simpa using hi),TR,an hi];rfl) B
     cases this with
     |pv n=>exact .pv (n.mono (Pres.sub K))
    .have b0:=(th.1 hp).1
     have bH:i=pre.length:=by simp at b0;omega
     subst bH;rw[T7 (by simp)]at hp;simp only[Ux,VV,Vf,T6]at hp;subst hp;have:=V pre.length (.arr 291 ys.length) u (by rw[T7 (by simp)];simp) B
     cases this with
     |arr F cn b5=>
      rw[G]at F;injection F with F;injection F with T a2 a3 a4;subst a3;rw[b5 rfl,hl];exact Y.2
  |1,hp=>
   simp only[We,Vf,T6]at hp;subst hp;have U:=hh 1 (.pv q) u rfl B
   cases U with
   |pv n=>exact .pv (n.mono (Pres.sub K))
  |i+2,hp=>simp at hp
theorem Gt{g:FuncId}(k:o.op=.call {callee:=.value f,args:=xs.toArray,argTypes:=ats})(hd:o.dst=some d)(n:o.guard=none)(i:dm N o.dst=true)(j:st.h d=none)
 (c:bX (st.ev f)=some (g,[],[]))(b:xs.map st.ev=args.map AV.pv)(m:nh P g (args.map .pv) lU (λr l=>r=.tup [.agg (pre.map .pv++[.arr 291 ys.length]),.pv q]/\l=fu e sz ys)):
 nE P hn N ops o st ⟨o.dst,.tup [.agg (pre.map .pv++[.arr d ys.length]),.pv q],[(d,.row e sz ys 0)],[d]⟩:=by
 refine⟨i,rfl,.inl ⟨by simp[fA,n],λd9 a=>by rw[hd]at a;injection a with a;simp[a],?_,by simp⟩⟩;exact HS k hd (by simp[bQ,j]) c b m
theorem Gu{c:Code}(d a:Nat){xs:List PV}(hd:st.h d=some (.row e sz xs fz))(b:st.h a=none)(i:d≠a)(g:a<2000000)(h:WP C c Q ⟨λn=>bD d a (st.t n),bo d a st.h⟩):WP C c Q st:=
 WP.ren d a i b g (by rw[hd];intro k f j;cases j) h
theorem WP.freeze{c:Code}(s:Nat){xs:List PV}(j:st.h k=some (.row e sz xs fz))(r:st.t s=.arr k xs.length)(h:WP C c Q ⟨ae st.t s (.pv (.sl xs)),ae st.h k (some (.row e sz xs xs.length))⟩):WP C c Q st:=by
 intro a w q;obtain⟨L,o,hN,i,f⟩:=q;obtain⟨g,m⟩:=yY o j;refine h a w ⟨L,g.1,hN,i,λn=>?_⟩;have d:=(f n).mono g.2.1 g.2.2;show RepA w _ L _ (ae st.t s (.pv (.sl xs)) n) _;by_cases hn:n=s
 .subst hn
  rw[aF];have l:=f n;rw[r]at l
  cases l with
  |arr b p u=>
   rw[j]at b;injection b with b;injection b with _ _ a3 _;subst a3;rw[u rfl];exact .pv m
 .rw[bB hn];exact d
theorem DO{t t':TypeId}{x y:Operand}{a b c:Bool}(d:o.op=.binOp .neq t x y t')(e:ρ x=.pv (.val (.bool a)))(f:ρ y=.pv (.val (.bool b)))
 (j:P.eqGuardType P.depth t=false)(h:ak P (Op.equal t (.bool a) (.bool b))=some c):bz P o ρ=some (.pv (.val (.bool !c)),[]):=by
 refine d7 (by rw[d];simp[Op.operands,e,f,eZ]) ?_;unfold execOp;rw[d];simp only[(bG e).2,(bG f).2]
 have g:ak P (eqGuard .neq t x y (.bool a) (.bool b))=some ():=by
  unfold eqGuard;simp only[VB,T5,Uf,ah,jA,Ud,j,WI,Ul];rfl
 have i:ak P (binOp .neq t (.bool a) (.bool b))=some (.bool !c):=by
  simp only[binOp,ah,h,Ud];rfl
 simp only[ah,g,i,Ud];rfl
theorem WP.nilsl{c:Code}(s:Nat)(j:st.t s=.pv (.val (.slice none 0 0)))(h:WP C c Q ⟨ae st.t s (.pv (.sl [])),st.h⟩):WP C c Q st:=by
 intro a w i;obtain⟨L,f,hN,d,b⟩:=i;refine h a w ⟨L,f,hN,d,λn=>?_⟩;show RepA w _ L _ (ae st.t s (.pv (.sl [])) n) _;by_cases hn:n=s
 .subst hn
  rw[aF];have e:=b n;rw[j]at e
  cases e with
  |pv g=>rw[aM g];exact .pv (.sl0 none 0)
 .rw[bB hn];exact b n
abbrev nM(r:Bx)(v:Verd):Tr:=⟨r,[aD v]⟩
def zu(r:Bx)(v:Verd):Spc:={root:=r,cells:=[aD v],bx:=[r],near:=[[]],jn:=[-1]}
theorem KQ{r:Bx}{v:Verd}(a:aO (nM r v)=true):bh (nM r v)=[0]:=by
 unfold bh;rw[T8 a];rfl
theorem A6:LookH (fu e sz ys):=
 ⟨λk b a=>by obtain⟨rfl,_⟩:=fE a;rfl,λk b o a=>by obtain⟨_,rfl⟩:=fE a;simp[Blk.frz],λk b a=>by obtain⟨_,rfl⟩:=fE a;rfl,λk d o f a=>by obtain⟨_,c⟩:=fE a;cases c⟩
theorem N3(r:Bx)(v:Verd)(hv:aO (nM r v)=true):nh prog 80 [.agg [.pv (iv r),.arr 291 1]] (fu 80 8 [br (aD v)]) (λr' h'=>r'=.ptr 290 0/\h'=bg true (zu r v) 0):=by
 have cl:aP prog 140 [.pv (.agg [iv r,.sl [br ⟨-1,-1,-1,v⟩]])] [] [] (.nrow 3 1 [Z 0]):=by
  have:=R7 (nM r v) hv (by simp);rw[KQ hv]at this;exact this
 have O:fu 80 8 [br (aD v)] 291=some (.row 80 8 [br (aD v)] 0):=by simp[fu]
 have J:∀k,k≠291->fu 80 8 [br (aD v)] k=none:=λk h=>by simp[fu,h]
 refine Gr func80 A6 ?_;intro C hP hN;simp only[f80]at hN|-;generalize ar:fu 80 8 [br (aD v)]=RR at *
 with_reducible repeat' (first|refine Sp.h ?_|((first|refine Wh [1000019] ?_|refine Wi [1000019] ?_|refine Ss.h ?_|(refine Sb.h ?_ ?_ ?_<;>(try intro hgd)<;>try exact Xy))<;>simp -implicitDefEqProofs (maxSteps:=2000000) [hP,hN,sF,O,J,aD]<;>try refine Yc ?_)|refine X2 ?_ ?_|(refine Xd ?_ ?_<;>intro hcd<;>try exact Xx))
 refine WP.loopN [6] 1 (λi st=>st.t 1=.ptr 1 0/\st.t 4=.ptr 23 0/\st.t 32=.arr 291 1/\st.t 33=.pv (Z 1)/\st.t 34=.pv (Z i)/\st.h 6=none/\st.h 78=none/\st.h 1=some (.box [.pv (iv r),.arr 291 1] true false)/\st.h 291=some (.row 80 8 [br (aD v)] 0)/\st.h 17=some (.row 30 1 [iv r] 0)/\st.h 19=some (.box [dz] true false)/\st.h 21=some (.row 3 1 [if i=0 then Z 0 else Z (-1)] 0)/\st.h 23=some (.box [.pv (iv r),.arr 291 1,.arr 17 1,.ext (.barr 19 1 1),.arr 21 1] true false)/\∀k,290<=k->k≠291->st.h k=none) ?_ ?_
 .simp[St.kill,au,bw,bn,aH,ae,XV.key,O,J]
  exact λk y s h3=>by simp[s,h3,show¬k=1 by omega,show¬k=17 by omega,show¬k=19 by omega,show¬k=21 by omega,show¬k=23 by omega,J k s]
 rintro i st hi ⟨g1,g4,F,G,I,b6,E,S,a,z,A,u,B,l⟩;by_cases a9:i<1
 .have a1:i=0:=by omega
  subst a1;simp only[Ul]at u
  with_reducible repeat' (first|refine Sp.h ?_|((first|refine Wd ?_|refine Ss.h ?_|(refine Sb.h ?_ ?_ ?_<;>(try intro hgd)<;>try exact Xy))<;>simp -implicitDefEqProofs (maxSteps:=2000000) [hP,hN,g1,g4,F,G,I,b6,E,S,a,z,A,u,B,aD]<;>try refine Yc ?_)|refine X2 ?_ ?_|(refine Xd ?_ ?_<;>intro hcd<;>try exact Xx))
  exact⟨aa (by omega) (by omega),λk y s h3=>by simp[s,h3,show¬k=21 by omega,l k y s]⟩
 .have a2:i=1:=by omega
  subst a2;simp only[Nat.one_ne_zero,Uf]at u
  with_reducible repeat' (first|refine Sp.h ?_|((first|refine Wd ?_|refine Ss.h ?_|refine Sc.h (cl) ?_|(refine Sb.h ?_ ?_ ?_<;>(try intro hgd)<;>try exact Xy))<;>simp -implicitDefEqProofs (maxSteps:=2000000) [hP,hN,g1,g4,F,G,I,b6,E,S,a,z,A,u,B,aD]<;>try refine Yc ?_)|refine X2 ?_ ?_|(refine Xd ?_ ?_<;>intro hcd<;>try exact Xx))
  refine WP.freeze 7 (k:=78) (e:=3) (sz:=1) (fz:=0) (xs:=[Z 0]) (by simp[ae]) (by simp[ae]) ?_;refine WP.freeze 79 (k:=78) (e:=3) (sz:=1) (fz:=1) (xs:=[Z 0]) (by simp[ae]) (by simp[ae]) ?_;refine WP.of_st (P:=λst=>st.t 4=.ptr 23 0/\st.t 7=.pv (.sl [Z 0])/\st.t 79=.pv (.sl [Z 0])/\st.t 80=.pv (Z 1)/\st.t 81=.pv (Z 0)/\st.h 23=some (.box [.pv (iv r),.arr 291 1,.arr 17 1,.ext (.barr 19 1 1),.arr 21 1] true false)/\st.h 17=some (.row 30 1 [iv r] 0)/\st.h 19=some (.box [dz] true false)/\st.h 21=some (.row 3 1 [Z (-1)] 0)/\st.h 291=some (.row 80 8 [br (aD v)] 0)/\∀k,290<=k->k≠291->k≠23->k≠17->k≠19->k≠21->st.h k=none) ⟨⟨by simp[g4,ae],by simp[ae],by simp[ae],by simp[ae],by simp[ae],by simp[ae,B],by simp[ae,z],by simp[ae,A],by simp[ae,u],by simp[ae,a],λk y s _ _ _ _=>by simp[ae,show¬k=78 by omega,l k y s]⟩,?_⟩;clear g1 g4 F G I b6 E S a z A u B l st;rintro st ⟨g4,p,b,d,g,bx,m,n,o,a,l⟩;refine WP.ren 23 290 (by omega) (l 290 (by omega) (by omega) (by omega) (by omega) (by omega) (by omega)) (by omega) (wD bx (by intro cs f e;cases e)) ?_;refine WP.of_st (P:=λst=>st.t 4=.ptr 290 0/\st.t 7=.pv (.sl [Z 0])/\st.t 79=.pv (.sl [Z 0])/\st.t 80=.pv (Z 1)/\st.t 81=.pv (Z 0)/\st.h 290=some (.box [.pv (iv r),.arr 291 1,.arr 17 1,.ext (.barr 19 1 1),.arr 21 1] true false)/\st.h 17=some (.row 30 1 [iv r] 0)/\st.h 19=some (.box [dz] true false)/\st.h 21=some (.row 3 1 [Z (-1)] 0)/\st.h 291=some (.row 80 8 [br (aD v)] 0)/\∀k,290<=k->k≠291->k≠290->k≠17->k≠19->k≠21->st.h k=none) ⟨⟨by simp[bD,aZ,rk,g4],by simp[bD,aZ,p],by simp[bD,aZ,b],by simp[bD,aZ,d],by simp[bD,aZ,g],by simp[bo,cW,bD,aZ,i8,rk,g4,bx,m,n,o,a],by simp[bo,cW,bD,aZ,i8,rk,g4,bx,m,n,o,a],by simp[bo,cW,bD,aZ,i8,rk,g4,bx,m,n,o,a],by simp[bo,cW,bD,aZ,i8,rk,g4,bx,m,n,o,a],by simp[bo,cW,bD,aZ,i8,rk,g4,bx,m,n,o,a],λk y s K L M N=>?_⟩,?_⟩
  .by_cases e:k=23
   .simp[bo,e]
   .simp[bo,e,K,l k y s e L M N]
  clear g4 p b d g bx m n o a l st;rintro st ⟨g4,p,b,d,g,bx,m,n,o,a,l⟩;refine WP.ren 17 292 (by omega) (l 292 (by omega) (by omega) (by omega) (by omega) (by omega) (by omega)) (by omega) (wD m (by intro cs f e;cases e)) ?_;refine WP.of_st (P:=λst=>st.t 4=.ptr 290 0/\st.t 7=.pv (.sl [Z 0])/\st.t 79=.pv (.sl [Z 0])/\st.t 80=.pv (Z 1)/\st.t 81=.pv (Z 0)/\st.h 290=some (.box [.pv (iv r),.arr 291 1,.arr 292 1,.ext (.barr 19 1 1),.arr 21 1] true false)/\st.h 292=some (.row 30 1 [iv r] 0)/\st.h 19=some (.box [dz] true false)/\st.h 21=some (.row 3 1 [Z (-1)] 0)/\st.h 291=some (.row 80 8 [br (aD v)] 0)/\∀k,290<=k->k≠291->k≠290->k≠292->k≠19->k≠21->st.h k=none) ⟨⟨by simp[bD,aZ,rk,g4],by simp[bD,aZ,p],by simp[bD,aZ,b],by simp[bD,aZ,d],by simp[bD,aZ,g],by simp[bo,cW,bD,aZ,i8,rk,g4,bx,m,n,o,a],by simp[bo,cW,bD,aZ,i8,rk,g4,bx,m,n,o,a],by simp[bo,cW,bD,aZ,i8,rk,g4,bx,m,n,o,a],by simp[bo,cW,bD,aZ,i8,rk,g4,bx,m,n,o,a],by simp[bo,cW,bD,aZ,i8,rk,g4,bx,m,n,o,a],λk y s K L M N=>?_⟩,?_⟩
  .by_cases e:k=17
   .simp[bo,e]
   .simp[bo,e,L,l k y s K e M N]
  clear g4 p b d g bx m n o a l st;rintro st ⟨g4,p,b,d,g,bx,m,n,o,a,l⟩;refine WP.ren 19 293 (by omega) (l 293 (by omega) (by omega) (by omega) (by omega) (by omega) (by omega)) (by omega) (wD n (by intro cs f e;cases e)) ?_;refine WP.of_st (P:=λst=>st.t 4=.ptr 290 0/\st.t 7=.pv (.sl [Z 0])/\st.t 79=.pv (.sl [Z 0])/\st.t 80=.pv (Z 1)/\st.t 81=.pv (Z 0)/\st.h 290=some (.box [.pv (iv r),.arr 291 1,.arr 292 1,.ext (.barr 293 1 1),.arr 21 1] true false)/\st.h 292=some (.row 30 1 [iv r] 0)/\st.h 293=some (.box [dz] true false)/\st.h 21=some (.row 3 1 [Z (-1)] 0)/\st.h 291=some (.row 80 8 [br (aD v)] 0)/\∀k,290<=k->k≠291->k≠290->k≠292->k≠293->k≠21->st.h k=none) ⟨⟨by simp[bD,aZ,rk,g4],by simp[bD,aZ,p],by simp[bD,aZ,b],by simp[bD,aZ,d],by simp[bD,aZ,g],by simp[bo,cW,bD,aZ,i8,rk,g4,bx,m,n,o,a],by simp[bo,cW,bD,aZ,i8,rk,g4,bx,m,n,o,a],by simp[bo,cW,bD,aZ,i8,rk,g4,bx,m,n,o,a],by simp[bo,cW,bD,aZ,i8,rk,g4,bx,m,n,o,a],by simp[bo,cW,bD,aZ,i8,rk,g4,bx,m,n,o,a],λk y s K L M N=>?_⟩,?_⟩
  .by_cases e:k=19
   .simp[bo,e]
   .simp[bo,e,M,l k y s K L e N]
  clear g4 p b d g bx m n o a l st;rintro st ⟨g4,p,b,d,g,bx,m,n,o,a,l⟩;refine WP.ren 21 294 (by omega) (l 294 (by omega) (by omega) (by omega) (by omega) (by omega) (by omega)) (by omega) (wD o (by intro cs f e;cases e)) ?_;refine WP.of_st (P:=λst=>st.t 4=.ptr 290 0/\st.t 7=.pv (.sl [Z 0])/\st.t 79=.pv (.sl [Z 0])/\st.t 80=.pv (Z 1)/\st.t 81=.pv (Z 0)/\st.h 290=some (.box [.pv (iv r),.arr 291 1,.arr 292 1,.ext (.barr 293 1 1),.arr 294 1] true false)/\st.h 292=some (.row 30 1 [iv r] 0)/\st.h 293=some (.box [dz] true false)/\st.h 294=some (.row 3 1 [Z (-1)] 0)/\st.h 291=some (.row 80 8 [br (aD v)] 0)/\∀k,290<=k->k≠291->k≠290->k≠292->k≠293->k≠294->st.h k=none) ⟨⟨by simp[bD,aZ,rk,g4],by simp[bD,aZ,p],by simp[bD,aZ,b],by simp[bD,aZ,d],by simp[bD,aZ,g],by simp[bo,cW,bD,aZ,i8,rk,g4,bx,m,n,o,a],by simp[bo,cW,bD,aZ,i8,rk,g4,bx,m,n,o,a],by simp[bo,cW,bD,aZ,i8,rk,g4,bx,m,n,o,a],by simp[bo,cW,bD,aZ,i8,rk,g4,bx,m,n,o,a],by simp[bo,cW,bD,aZ,i8,rk,g4,bx,m,n,o,a],λk y s K L M N=>?_⟩,?_⟩
  .by_cases e:k=21
   .simp[bo,e]
   .simp[bo,e,N,l k y s K L M e]
  clear g4 p b d g bx m n o a l st;rintro st ⟨g4,p,b,d,g,bx,m,n,o,a,l⟩;refine WP.nilRows (λq=>decide (q=300)) 3 293 (cs:=[dz]) (cs':=[.arr 300 0]) (own:=true) (fb:=false) n ?_ rfl ?_ ?_
  .intro q hq
   simp only[L4]at hq;exact⟨l q (by omega) (by omega) (by omega) (by omega) (by omega) (by omega),by omega⟩
  .intro i x hx
   cases i with
   |zero=>simp at hx;exact .inr ⟨rfl,300,by simp,hx.symm⟩
   |succ i=>simp at hx
  refine WP.of_st (P:=λst=>st.t 4=.ptr 290 0/\st.t 7=.pv (.sl [Z 0])/\st.t 79=.pv (.sl [Z 0])/\st.t 80=.pv (Z 1)/\st.t 81=.pv (Z 0)/\∀k,inK k=true->st.h k=bg true (zu r v) 0 k) ⟨⟨g4,p,b,d,g,λk R=>?_⟩,?_⟩
  .simp only[inK,An,L4]at R
   simp only;by_cases T:k=290
   .subst T;simp[bx];rfl
   by_cases U:k=291
   .subst U;simp[a];rfl
   by_cases V:k=292
   .subst V;simp[m];rfl
   by_cases Q:k=293
   .subst Q;simp;rfl
   by_cases W:k=294
   .subst W;simp[o];rfl
   by_cases e5:k=300
   .subst e5;simp;rfl
   unfold bg;rw[TQ T,TQ U,TQ V,TQ Q,TQ W,TQ (c:=300<=k/\k<300+(zu r v).near.length) (by simp[zu];omega)];simp[Q,e5,l k (by omega) U T V Q W]
  clear g4 p b d g bx m n o a l st;rintro st ⟨g4,p,b,d,g,D⟩;refine WP.loopN [] 1 (λk st=>st.t 4=.ptr 290 0/\st.t 7=.pv (.sl [Z 0])/\st.t 79=.pv (.sl [Z 0])/\st.t 80=.pv (Z 1)/\st.t 81=.pv (Z k)/\∀q,inK q=true->st.h q=bg true (zu r v) 0 q) ?_ ?_
  .refine⟨by simp[St.kill,au,bn,aH,g4],by simp[St.kill,au,bn,aH,p],by simp[St.kill,au,bn,aH,b],by simp[St.kill,au,bn,aH,d],by simp[St.kill,au,bn,aH,g],λq hq=>?_⟩
   show(st.h q).map (bw [])=_;rw[D q hq,ko]
  clear g4 p b d g D st;rintro k st R ⟨g4,p,b,d,g,D⟩;by_cases a8:k<1
  .have a6:k=0:=by omega
   subst a6
   with_reducible repeat' (first|refine Sp.h ?_|((first|refine Wd ?_|refine Ss.h ?_|(refine Sb.h ?_ ?_ ?_<;>(try intro hgd)<;>try exact Xy))<;>simp -implicitDefEqProofs (maxSteps:=2000000) [hP,hN,g4,p,b,d,g,lE,pN]<;>try refine Yc ?_)|refine X2 ?_ ?_|(refine Xd ?_ ?_<;>intro hcd<;>try exact Xx))
   refine WP.loopN [] 0 (λj st=>st.t 4=.ptr 290 0/\st.t 7=.pv (.sl [Z 0])/\st.t 79=.pv (.sl [Z 0])/\st.t 80=.pv (Z 1)/\st.t 81=.pv (Z 0)/\st.t 88=.pv (.sl [])/\st.t 89=.pv (Z 0)/\st.t 90=.pv (Z j)/\∀q,inK q=true->st.h q=bg true (zu r v) 0 q) ?_ ?_
   .refine⟨by simp[St.kill,au,bn,aH,ae,g4],by simp[St.kill,au,bn,aH,ae,p],by simp[St.kill,au,bn,aH,ae,b],by simp[St.kill,au,bn,aH,ae,d],by simp[St.kill,au,bn,aH,ae,g],by simp[St.kill,au,bn,aH,ae],by simp[St.kill,au,bn,aH,ae],by simp[St.kill,au,bn,aH,ae],λq hq=>?_⟩
    show(st.h q).map (bw [])=_;rw[D q hq,ko]
   clear g4 p b d g D st;rintro j st hj ⟨g4,p,b,d,g,X,Y,ad,D⟩
   have a5:j=0:=by omega
   subst a5;refine GP (s5 g4 p b d g X Y ad) ?_
   all_goals exact⟨aa (by omega) (by omega),λq hq=>by rw[D q hq,ko]⟩
  .have a7:k=1:=by omega
   subst a7;refine GP (go g4 p b d g) ?_
   exact vY (H:=bg true (zu r v) 0) (r:=.ptr 290 0) rfl rfl D (ot (by simp[zu])) ⟨rfl,rfl⟩ (λk cs f R=>by
    subst ar
    obtain⟨_,h9⟩:=fE R;cases h9)
theorem JB{L:OL}(h:dk t=some L){b:Bx}(c:L[i]?=some (some b)):dU t (i:Int)=b:=by
 rw[n6 h]at c;rw[TR,No]at c;obtain⟨x,d,a⟩:=c;injection a with a;subst a;simp[dU,d]
theorem JC(b:aO t=true):dU t 0=t.root:=by
 obtain⟨L,hL⟩:=Uw.1 b;have hP:=ng (P:=λ_ M=>M[0]?=some (some t.root)) hL (by simp[kB]) (λk d M c _ hp a=>zL a hp);exact JB hL hP
def dn(t:Tr)(i:Int):Bool:=aO t&&decide (0<=i)&&decide (i<t.cells.length)
def bO(t:Tr)(i:Int):Bx:=if dn t i then dU t i else[]
theorem lC{i:Int}(h:dn t i=false):bO t i=[]:=by simp[bO,h]
theorem NE(t:Tr)(i:Int)(s:t.cells.length<=9223372036854775807):aK 93 (bZ t) (Z i) (.tup [iv (bO t i),B (dn t i)]):=by
 have p:=Jq t s
 cases g:aO t with
 |false=>
  have a:dn t i=false:=by simp[dn,g]
  rw[lC a,a];rw[g]at p;refine Dp func93 λC hP hN=>?_;exact GS trivial
 |true=>
  rw[g]at p;have j:=lR g;have u:=dv.1 (gz g);by_cases l:i<0
  .have a:dn t i=false:=by
    have:decide (0<=i)=false:=by simp;omega
    simp only[dn,this,Vo,UE]
   rw[lC a,a];refine Dp func93 λC hP hN=>?_;exact GS l
  .obtain⟨k,rfl⟩:=Vp (show 0<=i by omega)
   by_cases q:t.cells.length<=k
   .have a:dn t k=false:=by
     have:decide ((k:Int)<t.cells.length)=false:=by simp;omega
     simp only[dn,this,Vo,UE]
    rw[lC a,a];refine Dp func93 λC hP hN=>?_;exact GS (be l q j)
   .have f:k<t.cells.length:=by omega
    have d:k<(bj t).length:=by omega
    obtain⟨m,r,_⟩:=mQ g (c:=(k:Int)) f;have b:(bj t)[k]?=some (dU t k):=m;have n:=dx b d
    have e:dn t k=true:=by simp[dn,g,f]
    have o:bO t k=dU t k:=by simp[bO,e]
    rw[o,e];have cc:=Gj (dU t k) (by omega);refine Dp func93 λC hP hN=>?_;exact GS (so l q j f d b n)
theorem Tu(t:Tr)(i:Int)(s:t.cells.length<=9223372036854775807):aK 29 (bZ t) (Z i) (.tup [iv (bO t i),B (dn t i)]):=by
 have p:=Nv t s
 cases g:aO t with
 |false=>
  have a:dn t i=false:=by simp[dn,g]
  rw[lC a,a];rw[g]at p;refine Dp func29 λC hP hN=>?_;exact GS trivial
 |true=>
  rw[g]at p;have j:=lR g;by_cases l:i<0
  .have a:dn t i=false:=by
    have:decide (0<=i)=false:=by simp;omega
    simp only[dn,this,Vo,UE]
   rw[lC a,a];refine Dp func29 λC hP hN=>?_;exact GS l
  .obtain⟨k,rfl⟩:=Vp (show 0<=i by omega)
   by_cases q:t.cells.length<=k
   .have a:dn t k=false:=by
     have:decide ((k:Int)<t.cells.length)=false:=by simp;omega
     simp only[dn,this,Vo,UE]
    rw[lC a,a];refine Dp func29 λC hP hN=>?_;exact GS (be l q j)
   .have f:k<t.cells.length:=by omega
    have d:k<(bj t).length:=by omega
    obtain⟨m,r,_⟩:=mQ g (c:=(k:Int)) f;have b:(bj t)[k]?=some (dU t k):=m;have n:=dx b d
    have e:dn t k=true:=by simp[dn,g,f]
    have o:bO t k=dU t k:=by simp[bO,e]
    rw[o,e];refine Dp func29 λC hP hN=>?_;exact GS (so l q j f d b n)
theorem NF(v:Verd):aR 139 (jT v) (br (aD v)):=by
 refine Dp func139 λC hP hN=>?_;refine GT trivial ?_
 all_goals simp[aD]
theorem R8(xs:List (Int×Int×Int))(c:xs.length<=16777216):aR 201 (.sl (xs.map am)) (.sl (xs.map am)):=by
 by_cases b:xs=[]
 .subst b
  refine Dp func201 λC hP hN=>?_;exact AZ [5] trivial
 .have a:xs.isEmpty=false:=by simp[b]
  refine Dp func201 λC hP hN=>?_;exact AZ [5] (f7 b a (show xs.length*24<=140737488355328 by omega) (show xs.length<=9223372036854775807 by omega))
theorem JG:aR 230 (.sl []) (.sl []):=by
 refine Dp func230 λC hP hN=>?_;exact AZ [5] trivial
theorem JH(xs:List Cel)(c:xs.length<=16777216)(b:xs≠[]):aP prog 230 [.pv (.sl (xs.map br))] [] [] (.row 80 8 (xs.map br)):=by
 have a:xs.isEmpty=false:=by simp[b]
 refine Dp func230 λC hP hN=>?_;exact AZ [5] (f7 b a (show xs.length*112<=140737488355328 by omega) (show xs.length<=9223372036854775807 by omega))
def rD(n:Nat)(v:Verd):Prop:=v.nor.length<=n/\v.left.length<=n/\v.right.length<=n
theorem Gl(v:Verd)(a:rD 16777216 v):aR 174 (jT v) (jT v):=by
 have b:=R8 v.nor a.1;have c:=NC v.left a.2.1;have d:=NC v.right a.2.2;refine Dp func174 λC hP hN=>?_;exact GS trivial
theorem Tv(r:List (Int×Int))(a:r.length<=16777216):aR 79 (iv r) (.tup [bZ (pM r),B (dj r)]):=by
 have cc:=Gj r a;have cl:aP prog 139 [.pv (.agg [Z 0,.sl [],Z 0,.sl [],.sl []])] [] [] (.pv (.agg [Z (-1),Z (-1),Z (-1),Z 0,.sl [],Z 0,.sl [],.sl []])):=NF aN
 have cv:aP prog 54 [.pv (.agg [iv r,.sl [.agg [Z (-1),Z (-1),Z (-1),Z 0,.sl [],Z 0,.sl [],.sl []]]])] [] [] (.pv (B (dj r))):=by
  have:=Ny ⟨r,[aD aN]⟩ (by simp);rw[lA]at this;exact this
 cases h:dj r with
 |true=>
  rw[h]at cv;refine Dp func79 λC hP hN=>?_;refine GT trivial ?_
  all_goals simp[pM,h,aD,aN]
 |false=>
  rw[h]at cv;refine Dp func79 λC hP hN=>?_;refine GT trivial ?_
  all_goals simp[pM,h]
structure TSm(t:Tr):Prop where
 root:t.root.length<=16777216
 cells:t.cells.length<=16777216
 vs:∀c∈t.cells,rD 16777216 c.v
theorem DN(r:List (Int×Int))(g:r.length<=16777216):aR 171 (.agg [iv r,.sl []]) (.agg [iv r,.sl []]):=by
 have j:=JG;have k:=Gj r g;refine Dp func171 λC hP hN=>?_;refine GT trivial ?_;refine WP.loopN [5] 0 (λi st=>st.t 1=.ptr 1 0/\st.t 2=.ptr 2 0/\st.t 3=.pv (.sl [])/\st.t 10=.pv (Z 0)/\st.t 11=.pv (Z i)/\st.h 1=some (.box [.pv (iv r),.pv (.sl [])] true false)/\st.h 2=some (.box [.pv (.val (.slice none 0 0)),.pv (.val (.slice none 0 0))] true false)/\st.h 5=none) (by simp) ?_;rintro i st hi ⟨g1,g2,g3,a,b,c,d,e⟩
 have f:i=0:=by omega
 subst f;exact GS (s5 g1 g2 g3 a b c d e)
theorem yE(t:Tr)(o:TSm t)(q:t.cells≠[]):aP prog 171 [.pv (bZ t)] [] [] (.srow [iv t.root] 80 8 (t.cells.map br)):=by
 have u:=JH t.cells o.cells q;have x:=Gj t.root o.root;have y:=o.cells;refine Dp func171 λC hP hN=>?_;refine GT trivial ?_;refine WP.loopN [5] t.cells.length (λi st=>st.t 1=.ptr 1 0/\st.t 2=.ptr 2 0/\st.t 3=.arr 8 t.cells.length/\st.t 9=.arr 8 t.cells.length/\st.t 10=.pv (Z t.cells.length)/\st.t 11=.pv (Z i)/\st.h 1=some (.box [.pv (iv t.root),.pv (.sl (t.cells.map br))] true false)/\st.h 2=some (.box [.pv (.val (.slice none 0 0)),.pv (.val (.slice none 0 0))] true false)/\st.h 5=none/\st.h 8=some (.row 80 8 (t.cells.map br) 0)) (by simp) ?_;rintro i st hi ⟨g1,g2,g3,r,d,f,g,k,l,b⟩;by_cases a:i<t.cells.length
 .have s:=aj a (by omega)
  generalize p:t.cells[i]=c at *
  have m:t.cells[i]?=some c:=by rw[an a,p]
  have cv:=Gl c.v (o.vs c (Is m))
  have n:(t.cells.map br).set i (br c)=t.cells.map br:=by
   apply UI;intro j;rw[Ub];by_cases e:i=j
   .subst e;simp[a,p]
   .rw[TQ e]
  refine GT (s7 g1 g2 g3 r d f g k l b a (be s m p)) ?_
  all_goals exact n
 .skip
  exact GS (s6 g1 g2 g3 r d f g k l (gA b a))
  all_goals exact⟨8,⟨rfl,rfl⟩,b⟩
theorem Lm{i:Int}(h:dn t i=false):aO t=false\/¬0<=i\/¬i<t.cells.length:=by
 by_cases a:0<=i
 .by_cases b:i<t.cells.length
  .left
   simp only[dn,a,b,VQ,VC]at h;exact h
  .exact .inr (.inr b)
 .exact .inr (.inl a)
theorem By{i j:Int}(h:dn t i=false):bU t i j=false:=by
 simp only[bU];rcases Lm h with h|h|h
 .simp[h]
 .simp[U2 h]
 .simp[U2 h]
theorem sD(r:List (Int×Int)):aO ⟨r,[]⟩=false:=by simp[aO,dk,gy]
theorem R9(t:Tr)(i j:Int)(u:TSm t):kY 102 (bZ t) (Z i) (Z j) (.tup [bZ (cL t i j),B (bU t i j)]):=by
 have N:=u.cells;have f:=NE t i (by omega);by_cases o:t.cells=[]
 .obtain⟨r,K⟩:=t
  simp only at o;subst o
  have b:dn ⟨r,[]⟩ i=false:=by simp[dn,sD]
  have a:=By (j:=j) b;rw[ij a,a];have cc:=DN r u.root;rw[b,lC b]at f;simp only[bZ,WE]at f|-;refine Dp func102 λC hP hN=>?_
  with_reducible repeat' (first|refine Sp.h ?_|((first|refine Wd ?_|refine Ss.h ?_|refine Sc.h (cc) ?_|refine Sc.h (f) ?_|(refine Sb.h ?_ ?_ ?_<;>(try intro hgd)<;>try exact Xy))<;>simp -implicitDefEqProofs (maxSteps:=2000000) [hP,hN]<;>try refine Ya ?_)|refine X2 ?_ ?_|(refine Xd ?_ ?_<;>intro hcd<;>try exact Xx))
 have cc:=yE t u o
 cases b:dn t i with
 |false=>
  have a:=By (j:=j) b;rw[ij a,a];rw[b,lC b]at f;refine Dp func102 λC hP hN=>?_
  with_reducible repeat' (first|refine Sp.h ?_|((first|refine Wd ?_|refine Ss.h ?_|refine Sc.h (cc) ?_|refine Sc.h (f) ?_|(refine Sb.h ?_ ?_ ?_<;>(try intro hgd)<;>try exact Xy))<;>simp -implicitDefEqProofs (maxSteps:=2000000) [hP,hN]<;>try refine Ya ?_)|refine X2 ?_ ?_|(refine Xd ?_ ?_<;>intro hcd<;>try exact Xx))
 |true=>
  rw[b]at f;simp only[dn,An,L4]at b;obtain⟨⟨x,H⟩,L⟩:=b;obtain⟨k,rfl⟩:=Vp H
  have e:k<t.cells.length:=by omega
  have O:=dv.1 (gz x)
  have z:bO t k=dU t k:=by simp[bO,dn,x,e]
  obtain⟨y,J,_⟩:=mQ x (c:=(k:Int)) e;have l:(bj t)[k]?=some (dU t k):=y;rw[z]at f;generalize q:t.cells[k]=c at *
  have d:t.cells[k]?=some c:=by rw[an e,q]
  have cl:=Dx c;have p:=Ii (dU t k) j (by omega);have D:=u.vs c (Is d);have cv:=Gl c.v D;have F:=NF c.v;have G:i64.wrap ((t.cells.length:Int)+2)=(t.cells.length:Int)+2:=aa;have E:i64.wrap ((t.cells.length:Int)+1)=(t.cells.length:Int)+1:=aa
  cases g:dY c with
  |false=>
   have a:bU t k j=false:=by simp[bU,fT,d,g]
   rw[ij a,a];rw[g]at cl;refine Dp func102 λC hP hN=>?_
   with_reducible repeat' (first|refine Sp.h ?_|((first|refine Wd ?_|refine Ss.h ?_|refine Sc.h (cc) ?_|refine Sc.h (f) ?_|refine Sc.h (cl) ?_|(refine Sb.h ?_ ?_ ?_<;>(try intro hgd)<;>try exact Xy))<;>simp -implicitDefEqProofs (maxSteps:=2000000) [hP,hN,e,d,q]<;>try refine Ya ?_)|refine X2 ?_ ?_|(refine Xd ?_ ?_<;>intro hcd<;>try exact Xx))
  |true=>
   rw[g]at cl
   cases s:bL (dU t k) j with
   |false=>
    have a:bU t k j=false:=by simp[bU,l,s]
    rw[ij a,a];rw[s]at p;refine Dp func102 λC hP hN=>?_
    with_reducible repeat' (first|refine Sp.h ?_|((first|refine Wd ?_|refine Ss.h ?_|refine Sc.h (cc) ?_|refine Sc.h (f) ?_|refine Sc.h (cl) ?_|refine Sc.h (p) ?_|(refine Sb.h ?_ ?_ ?_<;>(try intro hgd)<;>try exact Xy))<;>simp -implicitDefEqProofs (maxSteps:=2000000) [hP,hN,e,d,q]<;>try refine Ya ?_)|refine X2 ?_ ?_|(refine Xd ?_ ?_<;>intro hcd<;>try exact Xx))
   |true=>
    rw[s]at p;by_cases M:2048<t.cells.length+2
    .have a:bU t k j=false:=by
      have:decide (t.cells.length+2<=2048)=false:=by simp;omega
      simp only[bU,this,Vo,UE]
     have n:(2048:Int)<t.cells.length+2:=by omega
     rw[ij a,a];refine Dp func102 λC hP hN=>?_
     with_reducible repeat' (first|refine Sp.h ?_|((first|refine Wd ?_|refine Ss.h ?_|refine Sc.h (cc) ?_|refine Sc.h (f) ?_|refine Sc.h (cl) ?_|refine Sc.h (p) ?_|(refine Sb.h ?_ ?_ ?_<;>(try intro hgd)<;>try exact Xy))<;>simp -implicitDefEqProofs (maxSteps:=2000000) [hP,hN,e,d,q,G,n]<;>try refine Ya ?_)|refine X2 ?_ ?_|(refine Xd ?_ ?_<;>intro hcd<;>try exact Xx))
    .have n:¬(2048:Int)<t.cells.length+2:=by omega
     have m:bU t k j=true:=by
      simp only[bU,x,fT,Uk,d,g,l,Uj,s,VC,Uq,An,L4];omega
     have I:cL t k j=jK t k j c.v:=by simp[cL,m,lV,d]
     rw[I,m];have A:br (aD c.v)=.agg [Z (-1),Z (-1),Z (-1),Z c.v.kind,aG c.v.nor,Z c.v.pair,zs c.v.left,zs c.v.right]:=rfl;rw[A]at F;refine Dp func102 λC hP hN=>?_
     with_reducible repeat' (first|refine Sp.h ?_|((first|refine Wd ?_|refine Ss.h ?_|refine Sc.h (cc) ?_|refine Sc.h (f) ?_|refine Sc.h (cl) ?_|refine Sc.h (p) ?_|refine Sc.h (cv) ?_|refine Sc.h (F) ?_|(refine Sb.h ?_ ?_ ?_<;>(try intro hgd)<;>try exact Xy))<;>simp -implicitDefEqProofs (maxSteps:=2000000) [hP,hN,e,d,q,G,E,n,show(t.cells.length+2)*112<=140737488355328 by omega,show t.cells.length+2<=9223372036854775807 by omega]<;>try refine Ya ?_)|refine X2 ?_ ?_|(refine Xd ?_ ?_<;>intro hcd<;>try exact Xx))
     all_goals (simp[jK,aD,Vy,aN]<;>rfl)
theorem OW(t:Tr)(i:Int)(v:Verd)(u:TSm t)(x:rD 16777216 v):kY 96 (bZ t) (Z i) (jT v) (.tup [bZ (bP t i v),B (aV t i v)]):=by
 have G:=u.cells;have q:=Ny t (by omega);by_cases l:t.cells=[]
 .obtain⟨r,F⟩:=t
  simp only at l;subst l
  have a:aV ⟨r,[]⟩ i v=false:=by simp[aV,sD]
  rw[fx a,a];have cc:=DN r u.root;rw[sD]at q;simp only[bZ,WE]at q|-;refine Dp func96 λC hP hN=>?_;exact GS trivial
 have cc:=yE t u l
 cases p:aO t with
 |false=>
  have a:aV t i v=false:=by simp[aV,p]
  rw[fx a,a];rw[p]at q;refine Dp func96 λC hP hN=>?_;exact GS trivial
 |true=>
  rw[p]at q;have H:=dv.1 (gz p);by_cases m:i<0
  .have a:aV t i v=false:=by
    have:decide (0<=i)=false:=by simp;omega
    simp only[aV,this,Vo,UE]
   rw[fx a,a];refine Dp func96 λC hP hN=>?_;exact GS m
  .obtain⟨k,rfl⟩:=Vp (show 0<=i by omega)
   by_cases o:t.cells.length<=k
   .have a:aV t k v=false:=by
     have:decide ((k:Int)<t.cells.length)=false:=by simp;omega
     simp only[aV,this,Vo,UE]
    rw[fx a,a];refine Dp func96 λC hP hN=>?_;exact GS (gA m o)
   .have d:k<t.cells.length:=by omega
    generalize n:t.cells[k]=c at *
    have b:t.cells[k]?=some c:=by rw[an d,n]
    have cl:=Dx c;have y:=Ju v;have cv:=Gl v x
    cases e:dY c with
    |false=>
     have a:aV t k v=false:=by simp[aV,fT,b,e]
     rw[fx a,a];rw[e]at cl;refine Dp func96 λC hP hN=>?_;exact GS (go m o d b n)
    |true=>
     rw[e]at cl;by_cases s:c.v.kind=0
     .have f:(c.v.kind !=0)=false:=by simp[s]
      cases hf:eT v with
      |false=>
       have a:aV t k v=false:=by simp[aV,hf]
       rw[fx a,a];rw[hf]at y;refine Dp func96 λC hP hN=>?_;exact GS (it m o d b n f)
      |true=>
       rw[hf]at y
       have g:aV t k v=true:=by
        simp[aV,p,fT,b,e,hf,lV,s,d,n]
       have z:bP t k v=eG t k v:=by simp[bP,g]
       rw[z,g];have j:=uv e
       have A:c.joint=-1:=by rw[j];rfl
       have D:c.low=-1:=by rw[j];rfl
       have E:c.high=-1:=by rw[j];rfl
       refine Dp func96 λC hP hN=>?_;refine GT (it m o d b n f) ?_
       all_goals simp[eG,aD,Vy,A,D,E]
     .have f:(c.v.kind !=0)=true:=by simp[s]
      have a:aV t k v=false:=by simp[aV,lV,b,s]
      rw[fx a,a];refine Dp func96 λC hP hN=>?_;exact GS (it m o d b n f)
theorem Bz[DecidableEq α](xs ys:List α):oV xs ys=decide (xs=ys):=by
 unfold oV;by_cases h:xs.length=ys.length
 .simp[h,KB h]
 .have:xs≠ys:=λe=>h (by rw[e])
  simp[h,this]
theorem Lb(D:Nat){t e:TypeId}(k:P.underlying t=some (.array 3 e))(j:ak P (sizeOf e)=some 1)(g:∀x y:Int,ak P (Op.equalIn D e (.int .i64 x) (.int .i64 y))=some (x==y)){xs ys:Array Value}{c d f c':Int}
 (p0:ak P (part e xs (0*1))=some (.int .i64 a))(l:ak P (part e xs (1*1))=some (.int .i64 b))(m:ak P (part e xs (2*1))=some (.int .i64 c))
 (n:ak P (part e ys (0*1))=some (.int .i64 d))(o:ak P (part e ys (1*1))=some (.int .i64 f))(p:ak P (part e ys (2*1))=some (.int .i64 c')):
 ak P (Op.equalIn (D+1) t (.agg xs) (.agg ys))=some (a==d&&b==f&&c==c'):=by
 simp only[Op.equalIn,ah,jB k,Ud];simp only[j,Ud,Std.Legacy.Range.forIn_eq_forIn_range',Std.Legacy.Range.size]
 have i:List.range' 0 ((3-0+1-1)/1) 1=[0,1,2]:=by decide
 rw[i];simp only[List.forIn_cons,List.forIn_nil,ah,p0,n,g,Ud];cases q:(a==d)
 .simp[dP]
 simp only[VB,T5,Uf,dP,Ud,ah,l,o,g];cases r:(b==f)
 .simp[dP]
 simp only[VB,T5,Uf,dP,Ud,ah,m,p,g];cases s:(c==c')
 all_goals simp[dP]
theorem Kn(a b e c d f:Int):ak prog (Op.equal 84 (.agg #[.int .i64 a,.int .i64 b,.int .i64 e]) (.agg #[.int .i64 c,.int .i64 d,.int .i64 f]))=some (a==c&&b==d&&e==f):=
 Lb 9999 Tryz.underlying84 (by kernel_rfl) (λx y=>ve (P:=prog) 9998 2 .i64 .i64 x y Tryz.underlying2) (by kernel_rfl) (by kernel_rfl) (by kernel_rfl) (by kernel_rfl) (by kernel_rfl) (by kernel_rfl)
def wN(x:AV):Option (Int×Int×Int):=match x with
 |.pv (.val (.agg vs))=>match vs.toList with
  |[.int .i64 a,.int .i64 b,.int .i64 c]=>some (a,b,c)
  |_=>none
 |_=>none
theorem ql{x:AV}{c:Int}(h:wN x=some (a,b,c)):x=.pv (am (a,b,c)):=by
 unfold wN at h;split at h
 .split at h
  .rename_i vs _ e f g d
   injection h with h;injection h with h1 h2;injection h2 with h2 h3;subst h1;subst h2;subst h3;rw[<-Array.toArray_toList (xs:=vs),d]
  .cases h
 .cases h
def Jj(x y:AV)(fb:Option cK):Option cK:=match wN x,wN y with
 |some (a,b,e),some (c,d,f)=>some (.pv (.val (.bool !(a==c&&b==d&&e==f))),[])
 |_,_=>fb
@[simp] theorem OQ(a b e c d f:Int)(fb:Option cK):Jj (.pv (.val (.agg #[.int .i64 a,.int .i64 b,.int .i64 e]))) (.pv (.val (.agg #[.int .i64 c,.int .i64 d,.int .i64 f]))) fb=some (.pv (.val (.bool !(a==c&&b==d&&e==f))),[]):=rfl
@[simp] theorem Tp(x y:Operand):
 bz prog ⟨dst,.binOp .neq 84 x y 84,ty,pos,aft,g⟩ ρ=Jj (ρ x) (ρ y) (jq prog ⟨dst,.binOp .neq 84 x y 84,ty,pos,aft,g⟩ ρ):=by
 unfold Jj;split
 .rename_i a b e c d f i j
  exact zb rfl (ql i) (ql j) (by kernel_rfl) (Kn a b e c d f)
 .rfl
def Gd(x y:AV)(fb:Option cK):Option cK:=match wN x,wN y with
 |some (a,b,e),some (c,d,f)=>some (.pv (.val (.bool (a==c&&b==d&&e==f))),[])
 |_,_=>fb
abbrev Iv:=Int×Int
def fN(a:Int):Int:=min (max a (-2147483648)) 2147483648
def dG(a m:Int):Int:=-((-a)/m)
theorem bF(m n:Nat)(f:-(m:Int)<=a)(c:a<=m)(g:-(n:Int)<=b)(d:b<=n):-((m*n:Nat):Int)<=a*b/\a*b<=((m*n:Nat):Int):=by
 have e:(a*b).natAbs<=m*n:=by
  rw[Int.natAbs_mul];exact Vm (by omega) (by omega)
 omega
theorem Hi(a:Int)(m:Nat):a.fdiv (m:Int)=a/(m:Int):=Int.fdiv_eq_ediv_of_nonneg a (by omega)
theorem Mj(a:Int):a.fdiv 65536=a/65536:=Hi a 65536
theorem Mk(a:Int):a.fdiv 16384=a/16384:=Hi a 16384
theorem Ml(a:Int):a.fdiv 1073741824=a/1073741824:=Hi a 1073741824
theorem CO(a:Int)(g:-4611686018427387904<=a)(i:a<=4611686018427387904):aK 327 (Z a) (Z 16) (Z (dG a 65536)):=by
 have d:a.fdiv (2^min 16 i64.bits)=a/65536:=Mj a
 have e:i64.wrap (a/65536*2^min 16 i64.bits)=a/65536*65536:=by
  show i64.wrap (a/65536*65536)=_;exact aa (by omega) (by omega)
 have f:i64.wrap (a/65536+1)=a/65536+1:=aa;by_cases b:a/65536*65536=a
 .have hf:dG a 65536=a/65536:=by unfold dG;omega
  rw[hf];refine Dp func327 λC hP hN=>?_;exact Gy
 .have hf:dG a 65536=a/65536+1:=by unfold dG;omega
  rw[hf]
  have c:(a/65536*65536==a)=false:=by simpa using b
  refine Dp func327 λC hP hN=>?_;exact Gy
theorem Mm(a:Int):aK 255 (Z a) (Z 16) (Z (a/65536)):=by
 have b:a.fdiv (2^min 16 i64.bits)=a/65536:=Mj a;refine Dp func255 λC hP hN=>?_;exact Gy
theorem PX(a:Int)(g:-4611686018427387904<=a)(i:a<=4611686018427387904):aK 327 (Z a) (Z 14) (Z (dG a 16384)):=by
 have d:a.fdiv (2^min 14 i64.bits)=a/16384:=Mk a
 have e:i64.wrap (a/16384*2^min 14 i64.bits)=a/16384*16384:=by
  show i64.wrap (a/16384*16384)=_;exact aa (by omega) (by omega)
 have f:i64.wrap (a/16384+1)=a/16384+1:=aa;by_cases b:a/16384*16384=a
 .have hf:dG a 16384=a/16384:=by unfold dG;omega
  rw[hf];refine Dp func327 λC hP hN=>?_;exact Gy
 .have hf:dG a 16384=a/16384+1:=by unfold dG;omega
  rw[hf]
  have c:(a/16384*16384==a)=false:=by simpa using b
  refine Dp func327 λC hP hN=>?_;exact Gy
theorem PY(a:Int):aK 255 (Z a) (Z 14) (Z (a/16384)):=by
 have b:a.fdiv (2^min 14 i64.bits)=a/16384:=Mk a;refine Dp func255 λC hP hN=>?_;exact Gy
theorem PZ(a:Int)(g:-4611686018427387904<=a)(i:a<=4611686018427387904):aK 327 (Z a) (Z 30) (Z (dG a 1073741824)):=by
 have d:a.fdiv (2^min 30 i64.bits)=a/1073741824:=Ml a
 have e:i64.wrap (a/1073741824*2^min 30 i64.bits)=a/1073741824*1073741824:=by
  show i64.wrap (a/1073741824*1073741824)=_;exact aa (by omega) (by omega)
 have f:i64.wrap (a/1073741824+1)=a/1073741824+1:=aa;by_cases b:a/1073741824*1073741824=a
 .have hf:dG a 1073741824=a/1073741824:=by unfold dG;omega
  rw[hf];refine Dp func327 λC hP hN=>?_;exact Gy
 .have hf:dG a 1073741824=a/1073741824+1:=by unfold dG;omega
  rw[hf]
  have c:(a/1073741824*1073741824==a)=false:=by simpa using b
  refine Dp func327 λC hP hN=>?_;exact Gy
theorem P0(a:Int):aK 255 (Z a) (Z 30) (Z (a/1073741824)):=by
 have b:a.fdiv (2^min 30 i64.bits)=a/1073741824:=Ml a;refine Dp func255 λC hP hN=>?_;exact Gy
def fO(x y:Iv):Iv:=if az x.1 x.2&&az y.1 y.2 then(fN (x.1+y.1),fN (x.2+y.2))else(0,0)
def iA(x:Iv):Iv:=if az x.1 x.2 then(-x.2,-x.1)else(0,0)
def fg(x y:Iv):Iv:=if az x.1 x.2&&az y.1 y.2 then
 (fN (min (x.1*y.1) (min (x.1*y.2) (min (x.2*y.1) (x.2*y.2)))/65536),fN (dG (max (x.1*y.1) (max (x.1*y.2) (max (x.2*y.1) (x.2*y.2)))) 65536))else(0,0)
def pn(x:Int):Iv:=(fN x,fN x)
theorem eU:az a b=true↔-2147483648<=a/\a<=b/\b<=2147483648:=by
 simp only[az,An,L4];constructor
 .rintro⟨⟨c,d⟩,e⟩;exact⟨c,d,e⟩
 .rintro⟨c,d,e⟩;exact⟨⟨c,d⟩,e⟩
theorem J6(a b:Int):aK 360 (Z a) (Z b) (I (fN a) (fN b)):=LN a b
theorem Al(a:Int):aR 340 (Z a) (I (fN a) (fN a)):=Pr a
theorem Am{c d:Int}:aK 357 (I a b) (I c d) (aC (fO (a,b) (c,d))):=by
 cases e:(az a b&&az c d)with
 |false=>
  have f:fO (a,b) (c,d)=(0,0):=by simp[fO,e]
  rw[f];refine Dp func357 λC hP hN=>?_;have k:=@xX;exact GS e
 |true=>
  have f:fO (a,b) (c,d)=(fN (a+c),fN (b+d)):=by simp only[fO,e,Ul]
  rw[f];have g:=e;rw[An,eU,eU]at g;have i:i64.wrap (a+c)=a+c:=aa;have j:i64.wrap (b+d)=b+d:=aa;refine Dp func357 λC hP hN=>?_
  with_reducible repeat' (first|refine Sp.h ?_|((first|refine Ss.h ?_|refine Sc.h (xX _ _ _ _) ?_|refine Sc.h (J6 _ _) ?_|(refine Sb.h ?_ ?_ ?_<;>(try intro hgd)<;>try exact Xy))<;>simp -implicitDefEqProofs (maxSteps:=2000000) [hP,hN,e,i,j])|refine X2 ?_ ?_|(refine Xd ?_ ?_<;>intro hcd<;>try exact Xx))
theorem IN:aR 386 (I a b) (aC (iA (a,b))):=by
 cases c:az a b with
 |false=>
  have d:iA (a,b)=(0,0):=by simp[iA,c]
  rw[d];refine Dp func386 λC hP hN=>?_;have f:=@jM;exact GS c
 |true=>
  have d:iA (a,b)=(-b,-a):=by simp only[iA,c,Ul]
  rw[d];have e:=c;rw[eU]at e;have g:i64.wrap (-b)=-b:=aa;have i:i64.wrap (-a)=-a:=aa;have j:i64.wrap (0-b)=-b:=(aa (n:=0-b) (by omega) (by omega)).trans (by omega);have k:i64.wrap (0-a)=-a:=(aa (n:=0-a) (by omega) (by omega)).trans (by omega);refine Dp func386 λC hP hN=>?_;have f:=@jM;exact GS (go c g i j k)
theorem P1(a b:Int)(c:-4611686018427387904<=b)(d:b<=4611686018427387904):aK 370 (Z a) (Z b) (I (fN (a/65536)) (fN (dG b 65536))):=by
 refine Dp func370 λC hP hN=>?_
 with_reducible repeat' (first|refine Sp.h ?_|((first|refine Ss.h ?_|refine Sc.h (Mm _) ?_|refine Sc.h (CO _ c d) ?_|refine Sc.h (J6 _ _) ?_|(refine Sb.h ?_ ?_ ?_<;>(try intro hgd)<;>try exact Xy))<;>simp -implicitDefEqProofs (maxSteps:=2000000) [hP,hN])|refine X2 ?_ ?_|(refine Xd ?_ ?_<;>intro hcd<;>try exact Xx))
@[simp] theorem TH:i64.wrap 1=1:=by decide
@[simp] theorem TJ:i64.wrap 2=2:=by decide
@[simp] theorem TM:i64.wrap 3=3:=by decide
@[simp] theorem TN:i64.wrap 4=4:=by decide
theorem P2(h:i<=4):i=0\/i=1\/i=2\/i=3\/i=4:=by omega
theorem Mn{c d:Int}:aK 358 (I a b) (I c d) (aC (fg (a,b) (c,d))):=by
 cases j:(az a b&&az c d)with
 |false=>
  have p:fg (a,b) (c,d)=(0,0):=by simp[fg,j]
  rw[p];refine Dp func358 λC hP hN=>?_;have G:=@xX;exact GS j
 |true=>
  have q:=j;rw[An,eU,eU]at q;have m1:=bF (a:=a) (b:=c) 2147483648 2147483648 (by omega) (by omega) (by omega) (by omega);have m2:=bF (a:=a) (b:=d) 2147483648 2147483648 (by omega) (by omega) (by omega) (by omega);have E:=bF (a:=b) (b:=c) 2147483648 2147483648 (by omega) (by omega) (by omega) (by omega);have F:=bF (a:=b) (b:=d) 2147483648 2147483648 (by omega) (by omega) (by omega) (by omega);have y:i64.wrap (a*c)=a*c:=aa;have z:i64.wrap (a*d)=a*d:=aa;have A:i64.wrap (b*c)=b*c:=aa;have B:i64.wrap (b*d)=b*d:=aa
  have p:fg (a,b) (c,d)=(fN (min (a*c) (min (a*d) (min (b*c) (b*d)))/65536),fN (dG (max (a*c) (max (a*d) (max (b*c) (b*d)))) 65536)):=by simp only[fg,j,Ul]
  rw[p];generalize l:a*c=e at *;generalize m:a*d=f at *;generalize n:b*c=g at *;generalize o:b*d=k at *;have D:=P1 (min e (min f (min g k))) (max e (max f (max g k))) (by omega) (by omega);refine Dp func358 λC hP hN=>?_
  with_reducible repeat' (first|refine Sp.h ?_|((first|refine Wd ?_|refine Ss.h ?_|refine Sc.h (xX _ _ _ _) ?_|(refine Sb.h ?_ ?_ ?_<;>(try intro hgd)<;>try exact Xy))<;>simp -implicitDefEqProofs (maxSteps:=2000000) [hP,hN,j,y,z,A,B,l,m,n,o]<;>try refine Ya ?_)|refine X2 ?_ ?_|(refine Xd ?_ ?_<;>intro hcd<;>try exact Xx))
  refine WP.loopN [] 4 (λi st=>st.t 4=.ptr 4 0/\st.h 4=some (.box [.pv (Z 0),.pv (Z 0)] true false)/\st.t 40=.pv (.val (.agg #[.int .i64 e,.int .i64 f,.int .i64 g,.int .i64 k]))/\st.t 41=.pv (Z i)/\
   st.t 6=.pv (Z (if i<=1 then e else if i=2 then min e f else if i=3 then min e (min f g)else min e (min f (min g k))))/\st.t 7=.pv (Z (if i<=1 then e else if i=2 then max e f else if i=3 then max e (max f g)else max e (max f (max g k))))) (by simp) ?_
  rintro i st hi ⟨g4,x,r,s,u,v⟩;rcases P2 hi with rfl|rfl|rfl|rfl|rfl
  all_goals (simp at u v)
  all_goals
   exact Gy
def fa(x:Int):Nat->Int
 |0=>1073741824
 |1=>x*6746518852/65536
 |k+2=>fa x (k+1)*(x*6746518852/65536)/1073741824
def fc(x:Int):Nat->Int
 |0=>1073741824
 |1=>dG (x*6746518853) 65536
 |k+2=>dG (fc x (k+1)*dG (x*6746518853) 65536) 1073741824
theorem oD{x:Int}(b:0<=x)(h1:x<=8192):∀k,0<=fa x k/\fa x k<=1073741824
 |0=>by simp[fa]
 |1=>by simp only[fa];omega
 |k+2=>by
  have h:=oD b h1 (k+1)
  have a:0<=x*6746518852/65536/\x*6746518852/65536<=1073741824:=by omega
  simp only[fa];generalize x*6746518852/65536=y at *;have c:=U1 h.1 a.1;have d:=WH h.2 a.2 a.1 (by decide:(0:Int)<=1073741824);omega
theorem oE{x:Int}(b:0<=x)(h1:x<=8192):∀k,0<=fc x k/\fc x k<=1073741824
 |0=>by simp[fc]
 |1=>by simp only[fc,dG];omega
 |k+2=>by
  have h:=oE b h1 (k+1)
  have a:0<=dG (x*6746518853) 65536/\dG (x*6746518853) 65536<=1073741824:=by unfold dG;omega
  simp only[fc];generalize dG (x*6746518853) 65536=y at *;have c:=U1 h.1 a.1;have d:=WH h.2 a.2 a.1 (by decide:(0:Int)<=1073741824);unfold dG;omega
theorem sW{x:Int}(b:0<=x)(h1:x<=8192)(j:Nat):0<=fa x j*fa x 1/\fa x j*fa x 1<=1152921504606846976:=by
 have h:=oD b h1 j;have a:=oD b h1 1;have c:=U1 h.1 a.1;have d:=WH h.2 a.2 a.1 (by decide:(0:Int)<=1073741824);omega
theorem oF{x:Int}(b:0<=x)(h1:x<=8192)(j:Nat):0<=fc x j*fc x 1/\fc x j*fc x 1<=1152921504606846976:=by
 have h:=oE b h1 j;have a:=oE b h1 1;have c:=U1 h.1 a.1;have d:=WH h.2 a.2 a.1 (by decide:(0:Int)<=1073741824);omega
def jo(f:Nat->Int)(n:Nat):List AV:=[.pv (Z (if 0<n then f 0 else 0)),.pv (Z (if 1<n then f 1 else 0)),.pv (Z (if 2<n then f 2 else 0)),.pv (Z (if 3<n then f 3 else 0)),.pv (Z (if 4<n then f 4 else 0)),.pv (Z (if 5<n then f 5 else 0)),
 .pv (Z (if 6<n then f 6 else 0)),.pv (Z (if 7<n then f 7 else 0)),.pv (Z (if 8<n then f 8 else 0)),.pv (Z (if 9<n then f 9 else 0)),.pv (Z (if 10<n then f 10 else 0))]
abbrev BP(f:Nat->Int):PV:=.val (.agg #[.int .i64 (f 0),.int .i64 (f 1),.int .i64 (f 2),.int .i64 (f 3),.int .i64 (f 4),.int .i64 (f 5),.int .i64 (f 6),.int .i64 (f 7),.int .i64 (f 8),.int .i64 (f 9),.int .i64 (f 10)])
@[simp] theorem TT:i64.wrap 5=5:=by decide
@[simp] theorem TU:i64.wrap 6=6:=by decide
@[simp] theorem TV:i64.wrap 7=7:=by decide
@[simp] theorem TW:i64.wrap 8=8:=by decide
@[simp] theorem TX:i64.wrap 9=9:=by decide
@[simp] theorem S9:i64.wrap 10=10:=by decide
@[simp] theorem Ta:i64.wrap 11=11:=by decide
set_option maxRecDepth 4000 in
theorem Mz(x:Int)(m:0<=x)(h1:x<=8192):aR 398 (Z x) (.tup [BP (fa x),BP (fc x)]):=by
 have s:i64.wrap (x*6746518852)=x*6746518852:=aa;have u:i64.wrap (x*6746518853)=x*6746518853:=aa;have q:aP prog 255 [.pv (Z (x*6746518852)),.pv (Z 16)] [] [] (.pv (Z (fa x 1))):=Mm _;have r:aP prog 327 [.pv (Z (x*6746518853)),.pv (Z 16)] [] [] (.pv (Z (fc x 1))):=CO _ (by omega) (by omega);have m1:∀j,i64.wrap (fa x j*fa x 1)=fa x j*fa x 1:=λj=>aa (by have:=sW m h1 j;omega) (by have:=sW m h1 j;omega);have m2:∀j,i64.wrap (fc x j*fc x 1)=fc x j*fc x 1:=λj=>aa (by have:=oF m h1 j;omega) (by have:=oF m h1 j;omega);have k:∀j,aP prog 255 [.pv (Z (fa x (j+1)*fa x 1)),.pv (Z 30)] [] [] (.pv (Z (fa x (j+2)))):=λj=>P0 _;have l:∀j,aP prog 327 [.pv (Z (fc x (j+1)*fc x 1)),.pv (Z 30)] [] [] (.pv (Z (fc x (j+2)))):=λj=>PZ _ (by have:=oF m h1 (j+1);omega) (by have:=oF m h1 (j+1);omega);have o:fa x 0=1073741824:=rfl;have p:fc x 0=1073741824:=rfl;generalize fa x=f at *;generalize fc x=g at *;refine Dp func398 λC hP hN=>?_;refine Gz ?_;refine WP.loopN [] 9 (λi st=>st.t 2=.ptr 2 0/\st.t 3=.ptr 3 0/\st.t 4=.ptr 4 0/\st.t 5=.ptr 5 0/\st.t 6=.pv (Z (i+2:Nat))/\st.h 2=some (.box (jo f 0) true false)/\st.h 3=some (.box (jo f 0) true false)/\st.h 4=some (.box (jo f (i+2)) true false)/\st.h 5=some (.box (jo g (i+2)) true false)) (by simp[jo,o,p]) ?_;rintro i st hi ⟨g2,g3,g4,g5,e,a,b,c,d⟩
 have n:i=0\/i=1\/i=2\/i=3\/i=4\/i=5\/i=6\/i=7\/i=8\/i=9:=by omega
 rcases n with rfl|rfl|rfl|rfl|rfl|rfl|rfl|rfl|rfl|rfl
 all_goals (simp only[jo]at a b c d;simp at e a b c d)
 all_goals skip
 .skip
  with_reducible repeat' (first|refine Sp.h ?_|((first|refine Wd ?_|refine Ss.h ?_|refine Sc.h (k 0) ?_|refine Sc.h (l 0) ?_)<;>simp -implicitDefEqProofs [hP,hN,g2,g3,g4,g5,e,a,b,c,d,m1,m2,jo]<;>try refine Ya ?_))
 .skip
  with_reducible repeat' (first|refine Sp.h ?_|((first|refine Wd ?_|refine Ss.h ?_|refine Sc.h (k 1) ?_|refine Sc.h (l 1) ?_)<;>simp -implicitDefEqProofs [hP,hN,g2,g3,g4,g5,e,a,b,c,d,m1,m2,jo]<;>try refine Ya ?_))
 .skip
  with_reducible repeat' (first|refine Sp.h ?_|((first|refine Wd ?_|refine Ss.h ?_|refine Sc.h (k 2) ?_|refine Sc.h (l 2) ?_)<;>simp -implicitDefEqProofs [hP,hN,g2,g3,g4,g5,e,a,b,c,d,m1,m2,jo]<;>try refine Ya ?_))
 .skip
  with_reducible repeat' (first|refine Sp.h ?_|((first|refine Wd ?_|refine Ss.h ?_|refine Sc.h (k 3) ?_|refine Sc.h (l 3) ?_)<;>simp -implicitDefEqProofs [hP,hN,g2,g3,g4,g5,e,a,b,c,d,m1,m2,jo]<;>try refine Ya ?_))
 .skip
  with_reducible repeat' (first|refine Sp.h ?_|((first|refine Wd ?_|refine Ss.h ?_|refine Sc.h (k 4) ?_|refine Sc.h (l 4) ?_)<;>simp -implicitDefEqProofs [hP,hN,g2,g3,g4,g5,e,a,b,c,d,m1,m2,jo]<;>try refine Ya ?_))
 .skip
  with_reducible repeat' (first|refine Sp.h ?_|((first|refine Wd ?_|refine Ss.h ?_|refine Sc.h (k 5) ?_|refine Sc.h (l 5) ?_)<;>simp -implicitDefEqProofs [hP,hN,g2,g3,g4,g5,e,a,b,c,d,m1,m2,jo]<;>try refine Ya ?_))
 .skip
  with_reducible repeat' (first|refine Sp.h ?_|((first|refine Wd ?_|refine Ss.h ?_|refine Sc.h (k 6) ?_|refine Sc.h (l 6) ?_)<;>simp -implicitDefEqProofs [hP,hN,g2,g3,g4,g5,e,a,b,c,d,m1,m2,jo]<;>try refine Ya ?_))
 .skip
  with_reducible repeat' (first|refine Sp.h ?_|((first|refine Wd ?_|refine Ss.h ?_|refine Sc.h (k 7) ?_|refine Sc.h (l 7) ?_)<;>simp -implicitDefEqProofs [hP,hN,g2,g3,g4,g5,e,a,b,c,d,m1,m2,jo]<;>try refine Ya ?_))
 .skip
  with_reducible repeat' (first|refine Sp.h ?_|((first|refine Wd ?_|refine Ss.h ?_|refine Sc.h (k 8) ?_|refine Sc.h (l 8) ?_)<;>simp -implicitDefEqProofs [hP,hN,g2,g3,g4,g5,e,a,b,c,d,m1,m2,jo]<;>try refine Ya ?_))
 .skip
  exact Gy
end Go.Ab
