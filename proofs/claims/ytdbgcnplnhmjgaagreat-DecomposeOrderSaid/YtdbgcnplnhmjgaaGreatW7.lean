/- The contracts and facts that the laws of this seat need, in one text (CfB, Tr4, TrE, TrF, Tr8, Tr9, Tr10, Cf16w, Cf18w, TrG, TcS, DcS, Dc3, DcT, Dc1, Dc2, Dc5, Dc6, DcN, Ab41, DcU, AbW, TrH, Dc7, TrS, Ab42, Ab32, Dc13, TrN, TrX, KV, K1, K2). -/
import Derived.Test.YtdbgcnplnhmjgaaGreatW6
import Derived.Laws.RangeString
import Derived.Laws.RangeAny
import Derived.LoopTactic
set_option linter.all false
set_option maxRecDepth 10000
set_option maxHeartbeats 16000000
namespace Go.Ab
open IntKind (i64)
open Go.Proofs.Tryz
open Go.Proofs
variable {C:Cx}{M:Nat->Nat->Prop}{N c d e fz i k l leaf n sz v:Nat}{P:Program}{Q:Exit->St->Prop}{a b:Int}{aft:Array Edge}{args pre ys:List PV}{ats:Array TypeId}{dst:Option Nat}{f:Operand}{far far':List Int}{g:Option (Nat×Bool)}{h:Hp}{hasF may:Nat->Bool}{hn old:List Nat}{js:List J}{nb:Nat->List Nat}{near:List (List Nat)}{o:Oper}{ops:Array Oper}{p q:PV}{pos:String}{st:St}{t:Tr}{tch tch':Nat->Nat->Bool}{ty:TypeId}{w:World}{xs:List Operand}{α:Type}{ρ:Operand->AV}
def nY(b:Nat):Bool:=decide (97<=b)&&decide (b<=122)
def nZ(b:Nat):Bool:=decide (48<=b)&&decide (b<=57)
def iT(k b:Nat):Bool:=nY b||(decide (k≠0)&&(nZ b||decide (b=95)))
def ge(s:ByteArray):Bool:=(List.range s.size).all λi=>iT i (s[i]!).toNat
def jF(s:ByteArray):Bool:=decide (1<=s.size)&&decide (s.size<=16)&& !(s.toList==[119,111,114,108,100])&&ge s
theorem kF{s:ByteArray}(h:i<s.size)(a:iT i (s[i]'h).toNat=false):ge s=false:=by
 rw[ge,Vw];exact⟨i,by simpa using h,by rw[getElem!_pos s i h,a];simp⟩
theorem xm{s:ByteArray}(h:∀i(hi:i<s.size),iT i (s[i]'hi).toNat=true):ge s=true:=by
 rw[ge,TY];intro i hi
 have a:i<s.size:=by simpa using hi
 rw[getElem!_pos s i a];exact h i a
theorem wH{s:ByteArray}{pos:Nat}{hp:pos<s.size}(d:(s[pos]'hp).toNat=c)(a:iT pos c=true)(b:∀i(hi:i<s.size),i<pos->iT i (s[i]'hi).toNat=true):∀i(hi:i<s.size),i<pos+1->iT i (s[i]'hi).toNat=true:=by
 intro i hi h;by_cases e:i=pos
 .subst e;rw[d];exact a
 .exact b i hi (by omega)
set_option maxRecDepth 1000000 in
theorem Ii(s:ByteArray)(w:World)(h1:¬s.size=0)(x:¬s.size>16)(y:(s.toList==[119,111,114,108,100])=false):
 Calls prog 168 #[.string s] w λe l=>e=.returned (.bool (ge s))/\(l=w\/∃pos,l=w.iter s pos):=by
 have z:((s.size:Int)==0)=false:=by simp;intro h;exact h1 (by simp[h])
 have A:¬((16:Int)<(s.size:Int)):=by omega
 go_enter func168,ntmps168
 go_wp2
 go_loopw [19] (λ_ l=>∃pos,l=w.iter s pos/\∀i(hi:i<s.size),i<pos->iT i (s[i]'hi).toNat=true) (λ_ l=>s.size-l.iterPos w.heap.size)
 case atStart=>exact⟨0,rfl,λi hi h=>by omega⟩
 case round=>
  obtain⟨pos,rfl,d⟩:=hrel;by_cases hp:pos<s.size
  .by_cases p:(s[pos]'hp).toNat<128
   .have b:∀ty,(Instr.next (.pointer (some ⟨w.heap.size,0,none⟩)) true ty).run prog (w.iter s pos)=_:=λty=>run_next_ascii w s pos ty hp p
    generalize f:(s[pos]'hp).toNat=c at b p
    have key:(97<=c/\c<=122)\/(¬97<=c/\pos=0)\/(97<=c/\¬c<=122/\pos=0)\/(¬97<=c/\¬pos=0/\48<=c/\c<=57)\/(¬97<=c/\¬pos=0/\¬48<=c)\/(¬97<=c/\¬pos=0/\¬c<=57/\c=95)\/(¬97<=c/\¬pos=0/\¬c<=57/\¬c=95)\/(97<=c/\¬c<=122/\¬pos=0):=by omega
    rcases key with⟨j,g⟩|⟨j,g⟩|⟨j,g,k⟩|⟨j,g,k,q⟩|⟨j,g,k⟩|⟨j,g,k,q⟩|⟨j,g,k,q⟩|⟨j,g,k⟩
    .have m1:(97:Int)<=(c:Int):=by omega
     have m2:(c:Int)<=122:=by omega
     go_wp2
     go_roundw
     case rel=>exact⟨pos+1,rfl,wH f (by simp[iT,nY,nZ];omega) d⟩
     case measure=>simp;omega
    .have m1:¬(97:Int)<=(c:Int):=by omega
     subst g;have a:ge s=false:=kF hp (by rw[f];simp[iT,nY,nZ];omega)
     go_wp2
     go_ret
     exact⟨by first|rfl|(rw[a];rfl),.inr ⟨_,rfl⟩⟩
    .have m1:(97:Int)<=(c:Int):=by omega
     have m2:¬(c:Int)<=122:=by omega
     subst k;have a:ge s=false:=kF hp (by rw[f];simp[iT,nY,nZ];omega)
     go_wp2
     go_ret
     exact⟨by first|rfl|(rw[a];rfl),.inr ⟨_,rfl⟩⟩
    .have m1:¬(97:Int)<=(c:Int):=by omega
     have m2:((pos:Int)==0)=false:=by simp;omega
     have m:(48:Int)<=(c:Int):=by omega
     have n:(c:Int)<=57:=by omega
     go_wp2
     go_roundw
     case rel=>exact⟨pos+1,rfl,wH f (by simp[iT,nY,nZ];omega) d⟩
     case measure=>simp;omega
    .have m1:¬(97:Int)<=(c:Int):=by omega
     have m2:((pos:Int)==0)=false:=by simp;omega
     have m:¬(48:Int)<=(c:Int):=by omega
     have n:((c:Int)!=95)=true:=by simp;omega
     have a:ge s=false:=kF hp (by rw[f];simp[iT,nY,nZ];omega)
     go_wp2
     go_ret
     exact⟨by first|rfl|(rw[a];rfl),.inr ⟨_,rfl⟩⟩
    .have m1:¬(97:Int)<=(c:Int):=by omega
     have m2:((pos:Int)==0)=false:=by simp;omega
     have m:(48:Int)<=(c:Int):=by omega
     have o:¬(c:Int)<=57:=by omega
     have n:((c:Int)!=95)=false:=by simp;omega
     go_wp2
     go_roundw
     case rel=>exact⟨pos+1,rfl,wH f (by simp[iT,nY,nZ];omega) d⟩
     case measure=>simp;omega
    .have m1:¬(97:Int)<=(c:Int):=by omega
     have m2:((pos:Int)==0)=false:=by simp;omega
     have m:(48:Int)<=(c:Int):=by omega
     have o:¬(c:Int)<=57:=by omega
     have n:((c:Int)!=95)=true:=by simp;omega
     have a:ge s=false:=kF hp (by rw[f];simp[iT,nY,nZ];omega)
     go_wp2
     go_ret
     exact⟨by first|rfl|(rw[a];rfl),.inr ⟨_,rfl⟩⟩
    .have m1:(97:Int)<=(c:Int):=by omega
     have v:¬(c:Int)<=122:=by omega
     have m2:((pos:Int)==0)=false:=by simp;omega
     have m:(48:Int)<=(c:Int):=by omega
     have o:¬(c:Int)<=57:=by omega
     have n:((c:Int)!=95)=true:=by simp;omega
     have a:ge s=false:=kF hp (by rw[f];simp[iT,nY,nZ];omega)
     go_wp2
     go_ret
     exact⟨by first|rfl|(rw[a];rfl),.inr ⟨_,rfl⟩⟩
   .have b:∀ty,(Instr.next (.pointer (some ⟨w.heap.size,0,none⟩)) true ty).run prog (w.iter s pos)=_:=λty=>run_next_any w s pos ty hp
    have r:=(decode_high s pos hp (by omega)).1;generalize(Utf8.decode s pos).1=c at b r;generalize(Utf8.decode s pos).2=B at b;have a:ge s=false:=kF hp (by simp[iT,nY,nZ];omega)
    have m1:(97:Int)<=(c:Int):=by omega
    have v:¬(c:Int)<=122:=by omega
    have m:(48:Int)<=(c:Int):=by omega
    have o:¬(c:Int)<=57:=by omega
    have n:((c:Int)!=95)=true:=by simp;omega
    by_cases u:pos=0
    .subst u
     go_wp2
     go_ret
     exact⟨by first|rfl|(rw[a];rfl),.inr ⟨_,rfl⟩⟩
    .have m2:((pos:Int)==0)=false:=by simp;omega
     go_wp2
     go_ret
     exact⟨by first|rfl|(rw[a];rfl),.inr ⟨_,rfl⟩⟩
  .have b:∀ty,(Instr.next (.pointer (some ⟨w.heap.size,0,none⟩)) true ty).run prog (w.iter s pos)=_:=λty=>run_next_end w s pos ty hp
   go_wp2
   go_ret
   exact⟨by rw[xm (λi hi=>d i hi (by omega))];rfl,.inr ⟨_,rfl⟩⟩
set_option maxRecDepth 1000000 in
theorem GK(s:ByteArray)(w:World)(h:s.size=0\/s.size>16\/(s.toList==[119,111,114,108,100])=true):
 Calls prog 168 #[.string s] w λe f=>e=.returned (.bool false)/\f=w:=by
 by_cases a:s.size=0
 .have c:((s.size:Int)==0)=true:=by simp[a]
  go_enter func168,ntmps168
  go_wp2
  go_ret
  exact⟨rfl,rfl⟩
 .have c:((s.size:Int)==0)=false:=by simp;intro h;exact a (by simp[h])
  by_cases b:s.size>16
  .have d:((16:Int)<(s.size:Int)):=by omega
   go_enter func168,ntmps168
   go_wp2
   go_ret
   exact⟨rfl,rfl⟩
  .have d:¬((16:Int)<(s.size:Int)):=by omega
   have g:(s.toList==[119,111,114,108,100])=true:=by rcases h with h|h|h<;>first|exact absurd h a|exact absurd h b|exact h
   go_enter func168,ntmps168
   go_wp2
   go_ret
   exact⟨rfl,rfl⟩
theorem ye(s:ByteArray):bf prog 168 [.pv (.val (.string s))] [] [] (.pv (B (jF s))):=by
 refine⟨by kernel_rfl,rfl,λw M g vs C k x m f d=>?_⟩
 match vs,f with
 |[v],_=>
  have y:Rep w M (.val (.string s)) v:=d 0 _ _ rfl rfl;cases y;have a:Ext (·∈g) w w:=Ext.refl _ _;have c:∀pos,Ext (·∈g) w (w.iter s pos):=λpos=>Ext.alloc _ _ _
  have j:g=[]:=by cases g with
   |nil=>rfl
   |cons b r=>simp at k
  subst j;by_cases h:s.size=0\/s.size>16\/(s.toList==[119,111,114,108,100])=true
  .have hf:jF s=false:=by
    unfold jF;rcases h with h|h|h
    .simp[h]
    .simp;omega
    .simp[h]
   refine(GK s w h).mono ?_;rintro e A ⟨rfl,rfl⟩;exact⟨_,rfl,a,λi b n h=>by simp at h,by rw[hf];exact .val _⟩
  .have q:¬s.size=0:=λe=>h (.inl e)
   have u:¬s.size>16:=λe=>h (.inr (.inl e))
   have l:(s.toList==[119,111,114,108,100])=false:=by
    cases hq:s.toList==[119,111,114,108,100]with
    |false=>rfl
    |true=>exact absurd (.inr (.inr hq)) h
   have hf:jF s=ge s:=by
    unfold jF;rw[l]
    have o:decide (1<=s.size)=true:=by simp;omega
    have p:decide (s.size<=16)=true:=by simp;omega
    rw[o,p];simp
   refine(Ii s w q u l).mono ?_;rintro e A ⟨rfl,z⟩;rcases z with rfl|⟨pos,rfl⟩
   .exact⟨_,rfl,a,λi b n h=>by simp at h,by rw[hf];exact .val _⟩
   .exact⟨_,rfl,c pos,λi b n h=>by simp at h,by rw[hf];exact .val _⟩
theorem Fr{N B:Int}(hN:0<N)(h1:-B<=a)(b:a<=B):-B<=a/N/\a/N<=B:=by
 have c:0<=B:=by omega
 constructor
 .have:(-B)*N<=a:=by
   have:(-B)*N<=(-B)*1:=Int.mul_le_mul_of_nonpos_left (by omega) (by omega);omega
  exact(Wn hN).2 this
 .have:a/N<B+1:=(Wo hN).2 (by
   have:(B+1)*1<=(B+1)*N:=U5 (by omega) (by omega)
   omega)
  omega
def BG(x:Int):Prop:=-2147483648<=x/\x<=2147483648
def Ij(x:AV)(fb:Option cX):Option cX:=match x with
 |.pv (.val (.string s))=>some (.pv (Z s.size),[])
 |_=>fb
@[simp] theorem Oq(s:ByteArray)(fb:Option cX):Ij (.pv (.val (.string s))) fb=some (.pv (Z s.size),[]):=rfl
theorem KA(x:Operand)(s:ByteArray):
 bF prog ⟨dst,.call ⟨.builtin .len,#[x],#[9]⟩,ty,pos,aft,g⟩ (λ_=>.pv (.val (.string s)))=some (.pv (Z s.size),[]):=by kernel_rfl
@[simp] theorem Sm(x:Operand):
 bF prog ⟨dst,.call ⟨.builtin .len,#[x],#[9]⟩,ty,pos,aft,g⟩ ρ=Ij (ρ x) (jv prog ⟨dst,.call ⟨.builtin .len,#[x],#[9]⟩,ty,pos,aft,g⟩ ρ):=by
 unfold Ij;split
 .rename_i s b
  rw[<-KA (dst:=dst) (ty:=ty) (pos:=pos) (aft:=aft) (g:=g) x s];refine rA (by intro _ _ h;cases h) ?_;intro y a;simp[Op.operands,Call.operands]at a;subst a;exact b
 .rfl
theorem zp:(ByteArray.mk #[119,111,114,108,100]).toList=[119,111,114,108,100]:=by decide +kernel
theorem Ik{s:ByteArray}(h:i<s.size):s[i]?=some (s[i]'h):=by simp[h]
theorem LF(s:ByteArray):bk 156 (.val (.string s)) (B (jF s)):=by
 by_cases u:s.size<1
 .have hf:jF s=false:=by unfold jF;simp;omega
  have g:(s.size:Int)<1:=by omega
  rw[hf];refine Dp func156 λC hP hN=>?_;exact Gy
 have g:¬(s.size:Int)<1:=by omega
 by_cases v:16<s.size
 .have hf:jF s=false:=by unfold jF;simp;omega
  have j:(16:Int)<s.size:=by omega
  rw[hf];refine Dp func156 λC hP hN=>?_;exact Gy
 have j:¬(16:Int)<s.size:=by omega
 cases l:s.toList==[119,111,114,108,100]with
 |true=>
  have hf:jF s=false:=by unfold jF;simp[l]
  have m:(s.toList==(ByteArray.mk #[119,111,114,108,100]).toList)=true:=by rw[zp];exact l
  rw[hf];refine Dp func156 λC hP hN=>?_;exact Gy
 |false=>
  have hf:jF s=ge s:=by
   unfold jF;rw[l]
   have q:decide (1<=s.size)=true:=by simp;omega
   have r:decide (s.size<=16)=true:=by simp;omega
   rw[q,r];simp
  have m:(s.toList==(ByteArray.mk #[119,111,114,108,100]).toList)=false:=by rw[zp];exact l
  rw[hf];refine Dp func156 λC hP hN=>?_;refine Gz ?_;refine WP.loopN [] s.size (λi st=>st.t 0=.pv (.val (.string s))/\st.t 3=.pv (Z i)/\∀k(n:k<s.size),k<i->iT k (s[k]'n).toNat=true) (by simp) ?_;rintro i st hi ⟨g0,g3,f⟩;by_cases c:i<s.size
  .have p:i64.wrap ((i:Int)+1)=(i:Int)+1:=by rw[IntKind.wrap_i64];omega
   have e:(i:Int)<s.size:=by omega
   have o:=Ik c;have d:iT i (s[i]'c).toNat=false->ge s=false:=kF c;have a:iT i (s[i]'c).toNat=true->∀k(n:k<s.size),k<i+1->iT k (s[k]'n).toNat=true:=λh=>wH rfl h f;generalize s[i]'c=b at d a o
   with_reducible repeat' (first|refine Sp.h ?_|((first|refine Ss.h ?_|(refine Sb.h ?_ ?_ ?_<;>(try intro hgd)<;>try exact Xy))<;>simp -implicitDefEqProofs (maxSteps:=2000000) [hP,hN,g0,g3,e,o,p])|refine X2 ?_ ?_|(refine Xd ?_ ?_<;>intro hcd<;>try exact Xx))
   all_goals clear p hP hN g0 g3 o f l m hf u g v j
   all_goals first|(refine d ?_;clear d a;simp[iT,nY,nZ]at *;done)|(refine d ?_;clear d a;simp[iT,nY,nZ]at *;omega)|(refine⟨c,a ?_⟩;clear d a;simp[iT,nY,nZ]at *;done)|(refine⟨c,a ?_⟩;clear d a;simp[iT,nY,nZ]at *;omega)
  .have e:¬(i:Int)<s.size:=by omega
   refine Gz ?_;exact xm (λk n=>f k n (by omega))
def gt(x m:Int):Bool:=decide (-m<=x)&&decide (x<=m)
def gS(x y z m:Int):Bool:=gt x m&&gt y m&&gt z m
abbrev n5(x y z:Int):PV:=.val (.agg #[.int .i64 x,.int .i64 y,.int .i64 z])
theorem A0:i64.wrap 1=1:=by decide
theorem A1:i64.wrap 2=2:=by decide
theorem A3:i64.wrap 3=3:=by decide
theorem LG(h:i<=3):i=0\/i=1\/i=2\/i=3:=by omega
theorem Fs(x y z:Int):bk 170 (n5 x y z) (B (!gS x y z 4194304)):=by
 refine Dp func170 λC hP hN=>?_;refine Gz ?_;refine WP.loopN [] 3 (λi st=>st.t 5=.pv (n5 x y z)/\st.t 6=.pv (Z i)/\(0<i->gt x 4194304=true)/\(1<i->gt y 4194304=true)/\(2<i->gt z 4194304=true)) (by simp) ?_;rintro i st hi ⟨h5,h6,a,b,c⟩;rcases LG hi with rfl|rfl|rfl|rfl
 .skip
  with_reducible repeat' (first|refine Sp.h ?_|((first|refine Ss.h ?_|(refine Sb.h ?_ ?_ ?_<;>(try intro hgd)<;>try exact Xy))<;>simp -implicitDefEqProofs (maxSteps:=2000000) [hP,hN,h5,h6])|refine X2 ?_ ?_|(refine Xd ?_ ?_<;>intro hcd<;>try exact Xx))
  all_goals (simp[gS,gt,A0,A1,A3]at *;first|omega|grind)
 .skip
  with_reducible repeat' (first|refine Sp.h ?_|((first|refine Ss.h ?_|(refine Sb.h ?_ ?_ ?_<;>(try intro hgd)<;>try exact Xy))<;>simp -implicitDefEqProofs (maxSteps:=2000000) [hP,hN,h5,h6])|refine X2 ?_ ?_|(refine Xd ?_ ?_<;>intro hcd<;>try exact Xx))
  all_goals (simp[gS,gt,A0,A1,A3]at *;first|omega|grind)
 .skip
  with_reducible repeat' (first|refine Sp.h ?_|((first|refine Ss.h ?_|(refine Sb.h ?_ ?_ ?_<;>(try intro hgd)<;>try exact Xy))<;>simp -implicitDefEqProofs (maxSteps:=2000000) [hP,hN,h5,h6])|refine X2 ?_ ?_|(refine Xd ?_ ?_<;>intro hcd<;>try exact Xx))
  all_goals (simp[gS,gt,A0,A1,A3]at *;first|omega|grind)
 .skip
  refine Gz ?_
  all_goals (simp[gS,gt,A0,A1,A3]at *;first|omega|grind)
theorem rB(x y z m:Int)(g:0<=m)(f:m<4611686018427387904):aO 104 (n5 x y z) (Z m) (B (gS x y z m)):=by
 have e:i64.wrap (0-m)=-m:=(aa (n:=0-m) (by omega) (by omega)).trans (by omega);have a:i64.wrap (-m)=-m:=aa;refine Dp func104 λC hP hN=>?_;refine Gz ?_;refine WP.loopN [] 3 (λi st=>st.t 1=.pv (Z m)/\st.t 2=.ptr 2 0/\st.h 2=some (.box [.pv (Z x),.pv (Z y),.pv (Z z)] true false)/\st.t 5=.pv (Z i)/\(0<i->gt x m=true)/\(1<i->gt y m=true)/\(2<i->gt z m=true)) (by simp) ?_;rintro i st hi ⟨b,c,d,h5,j,k,l⟩;rcases LG hi with rfl|rfl|rfl|rfl
 .skip
  with_reducible repeat' (first|refine Sp.h ?_|((first|refine Ss.h ?_|(refine Sb.h ?_ ?_ ?_<;>(try intro hgd)<;>try exact Xy))<;>simp -implicitDefEqProofs (maxSteps:=2000000) [hP,hN,b,c,d,h5,e,a])|refine X2 ?_ ?_|(refine Xd ?_ ?_<;>intro hcd<;>try exact Xx))
  all_goals (simp[gS,gt,A0,A1,A3]at *;first|omega|grind)
 .skip
  with_reducible repeat' (first|refine Sp.h ?_|((first|refine Ss.h ?_|(refine Sb.h ?_ ?_ ?_<;>(try intro hgd)<;>try exact Xy))<;>simp -implicitDefEqProofs (maxSteps:=2000000) [hP,hN,b,c,d,h5,e,a])|refine X2 ?_ ?_|(refine Xd ?_ ?_<;>intro hcd<;>try exact Xx))
  all_goals (simp[gS,gt,A0,A1,A3]at *;first|omega|grind)
 .skip
  with_reducible repeat' (first|refine Sp.h ?_|((first|refine Ss.h ?_|(refine Sb.h ?_ ?_ ?_<;>(try intro hgd)<;>try exact Xy))<;>simp -implicitDefEqProofs (maxSteps:=2000000) [hP,hN,b,c,d,h5,e,a])|refine X2 ?_ ?_|(refine Xd ?_ ?_<;>intro hcd<;>try exact Xx))
  all_goals (simp[gS,gt,A0,A1,A3]at *;first|omega|grind)
 .skip
  refine Gz ?_
  all_goals (simp[gS,gt,A0,A1,A3]at *;first|omega|grind)
def bu(x a b:Int):Bool:=decide (a<=x)&&decide (x<=b)
theorem LH(x m:Int):aO 172 (Z x) (Z m) (B (bu x 1 m)):=by
 refine Dp func172 λC hP hN=>?_
 with_reducible repeat' (first|refine Sp.h ?_|((first|refine Ss.h ?_|(refine Sb.h ?_ ?_ ?_<;>(try intro hgd)<;>try exact Xy))<;>simp -implicitDefEqProofs (maxSteps:=2000000) [hP,hN])|refine X2 ?_ ?_|(refine Xd ?_ ?_<;>intro hcd<;>try exact Xx))
 all_goals (first|(simp_all[bu];done)|((try simp_all[bu])<;>(try omega)<;>grind))
theorem Ft(x a b:Int):mm 103 (Z x) (Z a) (Z b) (B (bu x a b)):=by
 refine Dp func103 λC hP hN=>?_
 with_reducible repeat' (first|refine Sp.h ?_|((first|refine Ss.h ?_|(refine Sb.h ?_ ?_ ?_<;>(try intro hgd)<;>try exact Xy))<;>simp -implicitDefEqProofs (maxSteps:=2000000) [hP,hN])|refine X2 ?_ ?_|(refine Xd ?_ ?_<;>intro hcd<;>try exact Xx))
 all_goals (first|(simp_all[bu];done)|((try simp_all[bu])<;>(try omega)<;>grind))
def zq(k:Int):Int:=if k=1\/k=2\/k=3 then 524288 else if k=4\/k=5\/k=6 then 4194304 else 0
def eK(k:Int):Int:=if k=0 then 0 else if k=1\/k=2\/k=3 then 524288 else 4194304
theorem Pp(k:Int):bk 171 (Z k) (Z (zq k)):=by
 refine Dp func171 λC hP hN=>?_
 with_reducible repeat' (first|refine Sp.h ?_|((first|refine Ss.h ?_|(refine Sb.h ?_ ?_ ?_<;>(try intro hgd)<;>try exact Xy))<;>simp -implicitDefEqProofs (maxSteps:=2000000) [hP,hN])|refine X2 ?_ ?_|(refine Xd ?_ ?_<;>intro hcd<;>try exact Xx))
 all_goals (simp[zq]at *;first|omega|grind)
theorem LJ(k:Int):bk 157 (Z k) (Z (eK k)):=by
 refine Dp func157 λC hP hN=>?_
 with_reducible repeat' (first|refine Sp.h ?_|((first|refine Ss.h ?_|(refine Sb.h ?_ ?_ ?_<;>(try intro hgd)<;>try exact Xy))<;>simp -implicitDefEqProofs (maxSteps:=2000000) [hP,hN])|refine X2 ?_ ?_|(refine Xd ?_ ?_<;>intro hcd<;>try exact Xx))
 all_goals (simp[eK]at *;first|omega|grind)
theorem DS{k:Int}(a:0<=k)(h6:k<=6):zq k=eK k:=by
 have:k=0\/k=1\/k=2\/k=3\/k=4\/k=5\/k=6:=by omega
 rcases this with rfl|rfl|rfl|rfl|rfl|rfl|rfl<;>rfl
def l6(a b:ByteArray):Bool:=a.toList==b.toList
theorem Pq(js:List J)(ms:List Ms)(name:ByteArray)(f:js.length<=9223372036854775807):aO 169 (gP js ms) (.val (.string name)) (Z (oE (λj=>l6 j.name name) js)):=by
 refine Dp func169 λC hP hN=>?_;refine Gz ?_;refine WP.loopN [] js.length (λi st=>st.t 1=.pv (.val (.string name))/\st.t 2=.ptr 2 0/\st.h 2=some (.box [.pv (.sl (js.map bR)),.pv (.sl (ms.map dC))] true false)/\st.t 8=.pv (Z js.length)/\st.t 9=.pv (Z i)/\∀j x,j<i->js[j]?=some x->l6 x.name name=false) (by simp) ?_;rintro i st hi ⟨b,c,e,h8,d,hq⟩;by_cases a:i<js.length
 .have g:=am a f
  with_reducible repeat' (first|refine Sp.h ?_|((first|refine Ss.h ?_|(refine Sb.h ?_ ?_ ?_<;>(try intro hgd)<;>try exact Xy))<;>simp -implicitDefEqProofs (maxSteps:=2000000) [hP,hN,b,c,e,h8,d,a,g])|refine X2 ?_ ?_|(refine Xd ?_ ?_<;>intro hcd<;>try exact Xx))
  .exact(qI a hq hcd).symm
  .simpa using pH a hq hcd
 .skip
  refine Gz ?_;exact(vA (yc a hq)).symm
def sN(js:List J)(i:Nat)(name:ByteArray):Bool:=(js.take i).any λj=>l6 j.name name
theorem Il(h:i<js.length):(oE (λj=>l6 j.name js[i].name) js !=(i:Int))=sN js i js[i].name:=by
 have o:l6 js[i].name js[i].name=true:=by simp[l6]
 cases hd:sN js i js[i].name with
 |false=>
  have:oE (λj=>l6 j.name js[i].name) js=i:=qI h (λj x l g=>by
   rw[sN,VP]at hd;have n:x∈js.take i:=Is (by rw[Ur,T6 l];exact g)
   simpa using hd x n) o
  rw[this];simp
 |true=>
  rw[sN,VY]at hd;obtain⟨x,g,hp⟩:=hd;obtain⟨k,b⟩:=Uy g;rw[Ur]at b;split at b
  .rename_i d
   simp only[bne_iff_ne,ne_eq];intro a;unfold oE at a
   cases hf:js.findIdx? (λj=>l6 j.name js[i].name)with
   |none=>
    rw[hf]at a;simp at a
   |some m=>
    rw[hf]at a;have c:(m:Int)=(i:Int):=a
    have a:m=i:=by omega
    clear c;subst a;rw[Wc]at hf;obtain⟨p,_,f⟩:=hf;have e:=(th.1 b);have:=f k d;rw[e.2]at this;exact this hp
  .cases b
def cO(js:List J)(i:Nat)(j:J):Int:=
 if(!jF j.name||sN js i j.name)=true then 802 else if j.kind<0\/6<j.kind then 803 else if j.parent< -1\/(i:Int)<=j.parent then 804 else if gS j.ox j.oy j.oz 4194304=false then 805
 else if j.hi<j.lo\/j.lo< -eK j.kind\/eK j.kind<j.hi then 806 else if(bu j.w 1 1024&&bu j.sp 1 1048576&&bu j.ac 1 1048576&&bu j.tq 1 1099511627776)=false then 807 else 0
theorem sO(k:Int):0<=eK k/\eK k<=4194304:=by unfold eK;repeat' split
                                             all_goals omega
theorem LK(js:List J)(ms:List Ms)(i:Nat)(A:js.length<=9223372036854775807)(hi:i<js.length):aO 120 (gP js ms) (Z i) (Z (cO js i js[i])):=by
 have d:=an hi;have a:=Il hi;have e:=Pq js ms js[i].name A;generalize b:js[i]=j at d a e|-;have B:=sO j.kind;have l:i64.wrap (0-eK j.kind)=-eK j.kind:=(aa (n:=0-eK j.kind) (by omega) (by omega)).trans (by omega);have c:i64.wrap (-eK j.kind)=-eK j.kind:=aa;generalize oE (λk=>l6 k.name j.name) js=q at a e;refine Dp func120 λC hP hN=>?_
 cases hn:jF j.name with
 |false=>
  have v:=@ye;refine GT (it d b hn hi) ?_
  all_goals simp[cO,hn]
 |true=>
  cases hd:sN js i j.name with
  |true=>
   rw[hd]at a;have v:=@ye;refine GT (so d b hn hi a) ?_
   all_goals simp[cO,hn,hd]
  |false=>
   rw[hd]at a;by_cases g:j.kind<0\/6<j.kind
   .skip
    with_reducible repeat' (first|refine Sp.h ?_|((first|refine Ss.h ?_|refine Sc.h (ye _) ?_|refine Sc.h (e) ?_|(refine Sb.h ?_ ?_ ?_<;>(try intro hgd)<;>try exact Xy))<;>simp -implicitDefEqProofs (maxSteps:=2000000) [hP,hN,d,b,hn,hi,a])|refine X2 ?_ ?_|(refine Xd ?_ ?_<;>intro hcd<;>try exact Xx))
    all_goals (first|(simp[cO,hn,hd,g];done)|(exfalso;simp at *;omega))
   .have p:zq j.kind=eK j.kind:=DS (by omega) (by omega)
    have cl:=Pp j.kind;rw[p]at cl
    have m:¬j.kind<0:=by omega
    have o:¬6<j.kind:=by omega
    by_cases hp:j.parent< -1\/(i:Int)<=j.parent
    .skip
     with_reducible repeat' (first|refine Sp.h ?_|((first|refine Ss.h ?_|refine Sc.h (ye _) ?_|refine Sc.h (e) ?_|(refine Sb.h ?_ ?_ ?_<;>(try intro hgd)<;>try exact Xy))<;>simp -implicitDefEqProofs (maxSteps:=2000000) [hP,hN,d,b,hn,hi,a,m,o])|refine X2 ?_ ?_|(refine Xd ?_ ?_<;>intro hcd<;>try exact Xx))
     all_goals (first|(simp[cO,hn,hd,g,hp];done)|(exfalso;simp at *;omega))
    .have r:¬j.parent< -1:=by omega
     have s:¬(i:Int)<=j.parent:=by omega
     cases f:gS j.ox j.oy j.oz 4194304 with
     |false=>
      have v:=@ye;have D:=@Fs;refine GT (zAc d b hn hi a m o r s f) ?_
      all_goals (simp[cO,hn,hd,g,hp,f])
     |true=>
      by_cases u:j.hi<j.lo\/j.lo< -eK j.kind\/eK j.kind<j.hi
      .skip
       with_reducible repeat' (first|refine Sp.h ?_|((first|refine Ss.h ?_|refine Sc.h (ye _) ?_|refine Sc.h (e) ?_|refine Sc.h (Fs _ _ _) ?_|refine Sc.h (cl) ?_|(refine Sb.h ?_ ?_ ?_<;>(try intro hgd)<;>try exact Xy))<;>simp -implicitDefEqProofs (maxSteps:=2000000) [hP,hN,d,b,hn,hi,a,m,o,r,s,f,l,c])|refine X2 ?_ ?_|(refine Xd ?_ ?_<;>intro hcd<;>try exact Xx))
       all_goals (first|(simp[cO,hn,hd,g,hp,f,u];done)|(exfalso;simp at *;omega))
      .have x:¬j.hi<j.lo:=by omega
       have y:¬j.lo< -eK j.kind:=by omega
       have z:¬eK j.kind<j.hi:=by omega
       with_reducible repeat' (first|refine Sp.h ?_|((first|refine Ss.h ?_|refine Sc.h (ye _) ?_|refine Sc.h (e) ?_|refine Sc.h (Fs _ _ _) ?_|refine Sc.h (cl) ?_|refine Sc.h (LH _ _) ?_|(refine Sb.h ?_ ?_ ?_<;>(try intro hgd)<;>try exact Xy))<;>simp -implicitDefEqProofs (maxSteps:=2000000) [hP,hN,d,b,hn,hi,a,m,o,r,s,f,l,c,x,y,z])|refine X2 ?_ ?_|(refine Xd ?_ ?_<;>intro hcd<;>try exact Xx))
       all_goals (rw[cO,TZ (by simp[hn,hd]),TZ g,TZ hp,TZ (by simp[f]),TZ u];simp_all)
abbrev Pr(j:J):List AV:=[.pv (.val (.string j.name)),.pv (Z j.kind),.pv (Z j.parent),.pv (Z j.ox),.pv (Z j.oy),.pv (Z j.oz),.pv (Z j.lo),.pv (Z j.hi),.pv (Z j.w),.pv (Z j.sp),.pv (Z j.ac),.pv (Z j.tq)]
theorem KB{n:ByteArray}(a:k<i)(b:k<js.length)(h:l6 js[k].name n=true):sN js i n=true:=by
 rw[sN,VY];exact⟨js[k],Is (i:=k) (by rw[Ur,T6 a];exact an b),h⟩
theorem LN{n:ByteArray}(h:∀m x,m<i->js[m]?=some x->l6 x.name n=false):sN js i n=false:=by
 rw[sN,VP];intro x c;obtain⟨m,a⟩:=Uy c;rw[Ur]at a;split at a
 .rename_i b;simp[h m x b a]
 .cases a
theorem LO(js:List J)(i:Nat)(G:js.length<=9223372036854775807)(hi:i<js.length):aO 102 (.sl (js.map bR)) (Z i) (Z (cO js i js[i])):=by
 have v:=an hi;generalize l:js[i]=j at v|-;have I:=sO j.kind;have g:i64.wrap (0-eK j.kind)=-eK j.kind:=(aa (n:=0-eK j.kind) (by omega) (by omega)).trans (by omega);have c:i64.wrap (-eK j.kind)=-eK j.kind:=aa;refine Dp func102 λC hP hN=>?_
 cases hn:jF j.name with
 |false=>
  have H:=@LF;refine GT (it v l hn hi) ?_
  all_goals simp[cO,hn]
 |true=>
  have H:=@LF;refine GT (it v l hn hi) ?_;refine WP.loopN [] i (λk st=>st.t 0=.pv (.sl (js.map bR))/\st.t 1=.pv (Z i)/\st.t 5=.ptr 5 0/\st.h 5=some (.box (Pr j) true false)/\st.t 6=.pv (Z k)/\∀m x,m<k->js[m]?=some x->l6 x.name j.name=false) (by simp) ?_;rintro k st d ⟨g0,g1,g5,a,f,hq⟩;by_cases s:k<i
  .have b:k<js.length:=by omega
   have K:=am b G
   have B:(k:Int)<(i:Int):=by omega
   cases o:l6 js[k].name j.name with
   |true=>
    have u:(js[k].name.toList==j.name.toList)=true:=o;have hd:=KB s b o;refine Gz ?_
    all_goals simp[cO,hn,hd]
   |false=>
    have u:(js[k].name.toList==j.name.toList)=false:=o;refine Gz ?_
    all_goals simpa using pH b hq o
  .have r:k=i:=by omega
   subst r;have hd:=LN hq;by_cases d:j.kind<0\/6<j.kind
   .skip
    with_reducible repeat' (first|refine Sp.h ?_|((first|refine Wd ?_|refine Ss.h ?_|(refine Sb.h ?_ ?_ ?_<;>(try intro hgd)<;>try exact Xy))<;>simp -implicitDefEqProofs (maxSteps:=2000000) [hP,hN,g0,g1,g5,a,f]<;>try refine Ya ?_)|refine X2 ?_ ?_|(refine Xd ?_ ?_<;>intro hcd<;>try exact Xx))
    all_goals (first|(simp[cO,hn,hd,d];done)|(exfalso;simp at *;omega))
   .have p:¬j.kind<0:=by omega
    have q:¬6<j.kind:=by omega
    by_cases hp:j.parent< -1\/(k:Int)<=j.parent
    .skip
     with_reducible repeat' (first|refine Sp.h ?_|((first|refine Wd ?_|refine Ss.h ?_|(refine Sb.h ?_ ?_ ?_<;>(try intro hgd)<;>try exact Xy))<;>simp -implicitDefEqProofs (maxSteps:=2000000) [hP,hN,g0,g1,g5,a,f,p,q]<;>try refine Ya ?_)|refine X2 ?_ ?_|(refine Xd ?_ ?_<;>intro hcd<;>try exact Xx))
     all_goals (first|(simp[cO,hn,hd,d,hp];done)|(exfalso;simp at *;omega))
    .have y:¬j.parent< -1:=by omega
     have z:¬(k:Int)<=j.parent:=by omega
     cases e:gS j.ox j.oy j.oz 4194304 with
     |false=>
      with_reducible repeat' (first|refine Sp.h ?_|((first|refine Wd ?_|refine Ss.h ?_|refine Sc.h (rB _ _ _ _ (by decide) (by decide)) ?_|(refine Sb.h ?_ ?_ ?_<;>(try intro hgd)<;>try exact Xy))<;>simp -implicitDefEqProofs (maxSteps:=2000000) [hP,hN,g0,g1,g5,a,f,p,q,y,z,e]<;>try refine Ya ?_)|refine X2 ?_ ?_|(refine Xd ?_ ?_<;>intro hcd<;>try exact Xx))
      all_goals (simp[cO,hn,hd,d,hp,e])
     |true=>
      by_cases A:j.hi<j.lo\/j.lo< -eK j.kind\/eK j.kind<j.hi
      .skip
       with_reducible repeat' (first|refine Sp.h ?_|((first|refine Wd ?_|refine Ss.h ?_|refine Sc.h (rB _ _ _ _ (by decide) (by decide)) ?_|refine Sc.h (LJ _) ?_|(refine Sb.h ?_ ?_ ?_<;>(try intro hgd)<;>try exact Xy))<;>simp -implicitDefEqProofs (maxSteps:=2000000) [hP,hN,g0,g1,g5,a,f,p,q,y,z,e,g,c]<;>try refine Ya ?_)|refine X2 ?_ ?_|(refine Xd ?_ ?_<;>intro hcd<;>try exact Xx))
       all_goals (first|(simp[cO,hn,hd,d,hp,e,A];done)|(exfalso;simp at *;omega))
      .have D:¬j.hi<j.lo:=by omega
       have E:¬j.lo< -eK j.kind:=by omega
       have F:¬eK j.kind<j.hi:=by omega
       with_reducible repeat' (first|refine Sp.h ?_|((first|refine Wd ?_|refine Ss.h ?_|refine Sc.h (rB _ _ _ _ (by decide) (by decide)) ?_|refine Sc.h (LJ _) ?_|refine Sc.h (Ft _ _ _) ?_|(refine Sb.h ?_ ?_ ?_<;>(try intro hgd)<;>try exact Xy))<;>simp -implicitDefEqProofs (maxSteps:=2000000) [hP,hN,g0,g1,g5,a,f,p,q,y,z,e,g,c,D,E,F]<;>try refine Ya ?_)|refine X2 ?_ ?_|(refine Xd ?_ ?_<;>intro hcd<;>try exact Xx))
       all_goals (rw[cO,TZ (by simp[hn,hd]),TZ d,TZ hp,TZ (by simp[e]),TZ A];simp_all)
def io(n:Nat)(m:Ms):Bool:=decide (0<=m.link)&&decide (m.link<n)&&bu m.mass 1 65536&&gS m.px m.py m.pz 4194304
theorem Ps(js:List J)(ms:List Ms)(m:Ms):aO 123 (gP js ms) (dC m) (B (io js.length m)):=by
 refine Dp func123 λC hP hN=>?_
 with_reducible repeat' (first|refine Sp.h ?_|((first|refine Ss.h ?_|refine Sc.h (LH _ _) ?_|refine Sc.h (Fs _ _ _) ?_|(refine Sb.h ?_ ?_ ?_<;>(try intro hgd)<;>try exact Xy))<;>simp -implicitDefEqProofs (maxSteps:=2000000) [hP,hN])|refine X2 ?_ ?_|(refine Xd ?_ ?_<;>intro hcd<;>try exact Xx))
 all_goals (simp_all[io]<;>omega)
theorem Pt(js:List J)(ms:List Ms)(m:Ms):aO 122 (dC m) (.rptr (gP js ms) 0) (B (!io js.length m)):=by
 refine Dp func122 λC hP hN=>?_;have a:=@Ps;exact GS trivial
theorem Pu(f:FuncId)(c:PV)(p:Ms->Bool)(xs:List Ms)(e:xs.length<=9223372036854775807)(hf:∀x,bf prog f [.pv (dC x),.pv (.rptr c 0)] [] [] (.pv (B (p x)))):aO 173 (.sl (xs.map dC)) (.fn (.func f) [] [.rptr c 0]) (Z (oE p xs)):=by
 refine Dp func173 λC hP hN=>?_;refine Gz ?_;refine WP.loopN [] xs.length (λi st=>st.t 0=.pv (.sl (xs.map dC))/\st.t 1=.pv (.fn (.func f) [] [.rptr c 0])/\st.t 7=.pv (Z xs.length)/\st.t 8=.pv (Z i)/\∀j x,j<i->xs[j]?=some x->p x=false) (by simp) ?_;rintro i st hi ⟨b,d,h7,h8,hq⟩;by_cases a:i<xs.length
 .have g:=am a e
  with_reducible repeat' (first|refine Sp.h ?_|((first|refine Ss.h ?_|refine Sc.h (hf _) ?_|(refine Sb.h ?_ ?_ ?_<;>(try intro hgd)<;>try exact Xy))<;>simp -implicitDefEqProofs (maxSteps:=2000000) [hP,hN,b,d,h7,h8,a,g])|refine X2 ?_ ?_|(refine Xd ?_ ?_<;>intro hcd<;>try exact Xx))
  .exact(qI a hq hcd).symm
  .simpa using pH a hq hcd
 .skip
  refine Gz ?_;exact(vA (yc a hq)).symm
theorem Pv(f:FuncId)(c:PV)(p:Ms->Bool)(xs:List Ms)(a:xs.length<=9223372036854775807)(hf:∀x,bf prog f [.pv (dC x),.pv (.rptr c 0)] [] [] (.pv (B (p x)))):aO 121 (.sl (xs.map dC)) (.fn (.func f) [] [.rptr c 0]) (B (xs.any p)):=by
 refine Dp func121 λC hP hN=>?_;have b:=Pu _ _ _ _ a hf;refine GT trivial ?_
 all_goals (first|(simp_all[t5];done)|((try simp_all[t5])<;>(try omega)<;>grind))
def jG(js:List J):Int:=match(js.mapIdx (cO js)).find? (λe=>e !=0)with
 |some e=>e
 |none=>0
theorem pI(js:List J):jG js=match(js.mapIdx (cO js)).find? (λe=>e !=0)with
 |some e=>e
 |none=>0:=rfl
theorem xn(b:i<js.length)(hq:∀k x,k<i->js[k]?=some x->cO js k x=0)(c:cO js i js[i]≠0):jG js=cO js i js[i]:=by
 rw[pI]
 have:(js.mapIdx (cO js)).find? (λe=>e !=0)=some (cO js i js[i]):=by
  rw[Ws];refine⟨by simpa using c,i,by simpa using b,by simp,λk d=>?_⟩
  have a:k<js.length:=by omega
  simp[hq k js[k] d (an a)]
 rw[this]
theorem zt(hq:∀(k:Nat) x,js[k]?=some x->cO js k x=0):jG js=0:=by
 rw[pI]
 have:(js.mapIdx (cO js)).find? (λe=>e !=0)=none:=by
  rw[U9];intro e a;simp only[List.mem_mapIdx]at a;obtain⟨i,hi,rfl⟩:=a;simp[hq i js[i] (an hi)]
 rw[this]
theorem Cr(b:i<js.length)(hq:∀k x,k<i->js[k]?=some x->cO js k x=0)(c:cO js i js[i]=0):∀k x,k<i+1->js[k]?=some x->cO js k x=0:=by
 intro k x d a;by_cases e:k=i
 .subst e;rw[an b]at a;injection a with a;subst a;exact c
 .exact hq k x (by omega) a
def aW(js:List J)(ms:List Ms):Int:=if js.length=0\/10<js.length then 801 else if jG js≠0 then jG js else if(decide (32<ms.length)||ms.any λm=>!io js.length m)=true then 808 else 0
theorem xp(js:List J)(ms:List Ms)(v:js.length<=9223372036854775807)(E:ms.length<=9223372036854775807):bk 62 (gP js ms) (Z (aW js ms)):=by
 by_cases o:js.length=0
 .have s:aW js ms=801:=by simp[aW,o]
  have p:js=[]:=Uv o;rw[s];subst p;refine Dp func62 λC hP hN=>?_;exact Gy
 have G:((js.length:Int)==0)=false:=by simp;intro h;exact o (by rw[h];rfl)
 by_cases D:10<js.length
 .have s:aW js ms=801:=by simp[aW,D]
  have q:(10:Int)<js.length:=by omega
  rw[s];refine Dp func62 λC hP hN=>?_;exact Gy
 have q:¬(10:Int)<js.length:=by omega
 have u:aW js ms=if jG js≠0 then jG js else if(decide (32<ms.length)||ms.any λm=>!io js.length m)=true then 808 else 0:=by
  unfold aW;rw[TZ (by omega)]
 rw[u];generalize y:(if(decide (32<ms.length)||ms.any λm=>!io js.length m)=true then(808:Int)else 0)=r;refine Dp func62 λC hP hN=>?_;refine Gz ?_;refine WP.loopN [] js.length (λi st=>st.t 1=.ptr 1 0/\st.h 1=some (.box [.pv (.sl (js.map bR)),.pv (.sl (ms.map dC))] true false)/\st.t 17=.pv (Z js.length)/\st.t 18=.pv (Z i)/\∀k x,k<i->js[k]?=some x->cO js k x=0) (by simp) ?_;rintro i st hi ⟨g1,l,e,f,hq⟩;by_cases a:i<js.length
 .have A:=am a v
  by_cases c:cO js i js[i]=0
  .have d:(cO js i js[i]!=0)=false:=by simp[c]
   have F:=LK js ms i v a;refine GT (zAb g1 l e f a A d c) ?_
   all_goals simpa using Cr a hq c
  .have d:(cO js i js[i]!=0)=true:=by simp[c]
   have hf:=xn a hq c;have F:=LK js ms i v a;refine GT (zAb g1 l e f a A d c) ?_
   all_goals simp[hf,c]
 .have hf:jG js=0:=zt (λk x B=>hq k x (by have:=(th.1 B).1;omega) B)
  have z:=Pv 122 (gP js ms) (λm=>!io js.length m) ms E (λm=>Pt js ms m);rw[hf];by_cases g:32<ms.length
  .have j:(32:Int)<ms.length:=by omega
   have n:r=808:=by rw[<-y];simp[g]
   exact Gy
  .have j:¬(32:Int)<ms.length:=by omega
   cases b:ms.any λm=>!io js.length m with
   |true=>
    rw[b]at z
    have n:r=808:=by rw[<-y,b];simp
    exact Gy
   |false=>
    rw[b]at z
    have n:r=0:=by rw[<-y,b];simp[g]
    exact Gy
theorem KD{p:α->Bool}{xs:List α}(h:i<xs.length)(hp:p xs[i]=true):xs.any p=true:=VY.2 ⟨_,Ul h,hp⟩
theorem LP{p:α->Bool}{xs:List α}(h:∀(i:Nat) x,xs[i]?=some x->p x=false):xs.any p=false:=by
 rw[VP];intro x a;obtain⟨i,hi⟩:=Uy a;simp[h i x hi]
theorem xq(js:List J)(ms:List Ms)(B:js.length<=9223372036854775807)(F:ms.length<=9223372036854775807):bk 44 (gP js ms) (Z (aW js ms)):=by
 by_cases D:js.length=0
 .have A:aW js ms=801:=by simp[aW,D]
  have y:js=[]:=Uv D;rw[A];subst y;refine Dp func44 λC hP hN=>?_;exact Gy
 have H:¬(js.length:Int)<1:=by omega
 have I:¬js.length<1:=by omega
 by_cases E:10<js.length
 .have A:aW js ms=801:=by simp[aW,E]
  have z:(10:Int)<js.length:=by omega
  rw[A];refine Dp func44 λC hP hN=>?_;exact Gy
 have z:¬(10:Int)<js.length:=by omega
 have f:aW js ms=if jG js≠0 then jG js else if(decide (32<ms.length)||ms.any λm=>!io js.length m)=true then 808 else 0:=by
  unfold aW;rw[TZ (by omega)]
 rw[f];generalize u:(if(decide (32<ms.length)||ms.any λm=>!io js.length m)=true then(808:Int)else 0)=r;refine Dp func44 λC hP hN=>?_;refine Gz ?_;refine WP.loopN [] js.length (λi st=>st.t 1=.ptr 1 0/\st.h 1=some (.box [.pv (.sl (js.map bR)),.pv (.sl (ms.map dC))] true false)/\st.h 6=none/\st.t 3=.pv (Z i)/\∀k x,k<i->js[k]?=some x->cO js k x=0) (by simp) ?_;rintro i st hi ⟨g1,b,c,g3,hq⟩;by_cases a:i<js.length
 .have l:=am a B
  by_cases g:cO js i js[i]=0
  .have j:(cO js i js[i]!=0)=false:=by simp[g]
   have G:=LO js i B a;refine GT (zAb g1 b c g3 a l j g) ?_
   all_goals simpa using Cr a hq g
  .have j:(cO js i js[i]!=0)=true:=by simp[g]
   have hf:=xn a hq g;have G:=LO js i B a;refine GT (zAb g1 b c g3 a l j g) ?_
   all_goals simp[hf,g]
 .have hf:jG js=0:=zt (λk x n=>hq k x (by have:=(th.1 n).1;omega) n)
  rw[hf];by_cases o:32<ms.length
  .have q:(32:Int)<ms.length:=by omega
   have e:r=808:=by rw[<-u];simp[o]
   exact Gy
  .have q:¬(32:Int)<ms.length:=by omega
   refine Gz ?_;refine WP.loopN [6] ms.length (λi st=>st.t 1=.ptr 1 0/\st.h 1=some (.box [.pv (.sl (js.map bR)),.pv (.sl (ms.map dC))] true false)/\st.h 6=none/\st.t 5=.pv (Z i)/\∀k x,k<i->ms[k]?=some x->(!io js.length x)=false) (by simp[g1,b,c]) ?_;clear g1 b c g3 hq;rintro i st hi ⟨g1,b,c,g5,hq⟩;by_cases a:i<ms.length
   .have l:=am a F
    have n:=an a
    cases s:io js.length ms[i]with
    |false=>
     have d:(ms.any λm=>!io js.length m)=true:=KD a (by simp[s])
     have e:r=808:=by rw[<-u,d];simp
     clear u d
     with_reducible repeat' (first|refine Sp.h ?_|((first|refine Ss.h ?_|refine Sc.h (rB _ _ _ _ (by decide) (by decide)) ?_|refine Sc.h (Ft _ _ _) ?_|(refine Sb.h ?_ ?_ ?_<;>(try intro hgd)<;>try exact Xy))<;>simp -implicitDefEqProofs (maxSteps:=2000000) [hP,hN,g1,b,c,g5,a,l,e])|refine X2 ?_ ?_|(refine Xd ?_ ?_<;>intro hcd<;>try exact Xx))
     all_goals (exfalso;clear hq hP hN g1 b c g5 l e f hf;simp[io]at *;grind)
    |true=>
     have v:=pH (p:=λm=>!io js.length m) a hq (by simp[s]);clear u hq
     with_reducible repeat' (first|refine Sp.h ?_|((first|refine Ss.h ?_|refine Sc.h (rB _ _ _ _ (by decide) (by decide)) ?_|refine Sc.h (Ft _ _ _) ?_|(refine Sb.h ?_ ?_ ?_<;>(try intro hgd)<;>try exact Xy))<;>simp -implicitDefEqProofs (maxSteps:=2000000) [hP,hN,g1,b,c,g5,a,l])|refine X2 ?_ ?_|(refine Xd ?_ ?_<;>intro hcd<;>try exact Xx))
     all_goals first|(simpa using v)|(exfalso;clear v hP hN g1 b c g5 l f hf;simp[io]at *;grind)
   .have d:(ms.any λm=>!io js.length m)=false:=LP (λk x n=>hq k x (by have:=(th.1 n).1;omega) n)
    have e:r=0:=by rw[<-u,d];simp[o]
    exact Gy
theorem mZ{p:α->Bool}{xs:List α}:bi p xs=true↔∀x∈xs,p x=true:=by simp[bi]
theorem lJ{β:Type}{f:α->β->Bool}{xs:List α}{ys:List β}:eX f xs ys=true↔∀(i:Nat)(h:i<xs.length)(h':i<ys.length),f xs[i] ys[i]=true:=by
 unfold eX;rw[TY];constructor
 .intro h i hi a
  exact h (f xs[i] ys[i]) (by
   rw[Vk]
   exact⟨i,by simp;omega,by simp⟩)
 .intro h x b
  obtain⟨i,hi,rfl⟩:=Vk.1 b;simp only[List.length_zipWith]at hi;simpa using h i (by omega) (by omega)
section
variable {p q:List Int} {d i:Int}
end
def tc(a b:Int):Int:=if a.tmod b<0 then wr (wr (a.tdiv b)-1)else wr (a.tdiv b)
theorem Pw(a b:Int)(c:b≠0):aO 155 (Z a) (Z b) (Z (tc a b)):=by
 refine Dp func155 λC hP hN=>?_
 with_reducible repeat' (first|refine Sp.h ?_|((first|refine Ss.h ?_|(refine Sb.h ?_ ?_ ?_<;>(try intro hgd)<;>try exact Xy))<;>simp -implicitDefEqProofs (maxSteps:=2000000) [hP,hN,c])|refine X2 ?_ ?_|(refine Xd ?_ ?_<;>intro hcd<;>try exact Xx))
 all_goals (first|(simp_all[tc];done)|((try simp_all[tc])<;>(try omega)<;>grind))
theorem A4{k:Int}(c:0<b)(h1:k*b<=a)(d:a<(k+1)*b):a/b=k:=by
 have:=(Wn c).2 h1;have:=(Wo c).2 d;omega
theorem GL(c:0<b)(h1:-4611686018427387904<=a)(d:a<=4611686018427387904):tc a b=a/b:=by
 have hq:=Wr a b;have g:-b<a.tmod b:=Wa a c;have i:a.tmod b<b:=VL a c;have f:=Fr (a:=a) (N:=b) (B:=4611686018427387904) c h1 d;rw[Int.mul_comm]at hq;unfold tc;split
 .have e:a/b=a.tdiv b-1:=A4 c (by rw[Int.sub_mul];omega) (by rw[show a.tdiv b-1+1=a.tdiv b by omega];omega)
  rw[aa (n:=a.tdiv b) (by omega) (by omega),aa (by omega) (by omega),e]
 .have e:a/b=a.tdiv b:=A4 c (by omega) (by rw[Int.add_mul];omega)
  rw[aa (n:=a.tdiv b) (by omega) (by omega),e]
theorem xr{x:Int×Int}(h:aw x.1 x.2=true):-2147483648<=x.1/\x.1<=x.2/\x.2<=2147483648:=by
 simp only[aw,An,L4]at h;omega
theorem Px(x:Int×Int):bk 101 (aP x) (Z (jr x)):=by
 cases a:aw x.1 x.2 with
 |false=>
  have b:jr x=0:=by simp[jr,a]
  rw[b];refine Dp func101 λC hP hN=>?_;have d:=@oA;exact GS a
 |true=>
  have c:=xr a
  have b:jr x=tc (wr (x.1+x.2)) 2:=by
   rw[jr,a];simp only[Ui];rw[aa (by omega) (by omega),GL (by decide) (by omega) (by omega),Int.fdiv_eq_ediv_of_nonneg _ (by decide)]
  rw[b];refine Dp func101 λC hP hN=>?_
  with_reducible repeat' (first|refine Sp.h ?_|((first|refine Ss.h ?_|refine Sc.h (oA _ _) ?_|refine Sc.h (Pw _ _ (by decide)) ?_|(refine Sb.h ?_ ?_ ?_<;>(try intro hgd)<;>try exact Xy))<;>simp -implicitDefEqProofs (maxSteps:=2000000) [hP,hN,a])|refine X2 ?_ ?_|(refine Xd ?_ ?_<;>intro hcd<;>try exact Xx))
def lK(xs ys:List (Int×Int)):Bool:=bi vI xs&&bi vI ys&&decide (xs.length=ys.length)&&eX im xs ys
theorem Py(xs ys:List (Int×Int))(g:xs.length<=9223372036854775807)(k:ys.length<=9223372036854775807):aO 116 (iv xs) (iv ys) (B (lK xs ys)):=by
 cases f:bi vI xs with
 |false=>
  have d:lK xs ys=false:=by simp[lK,f]
  rw[d];refine Dp func116 λC hP hN=>?_;have n:=ik _ g;have o:=ik _ k;exact GS f
 |true=>
  cases j:bi vI ys with
  |false=>
   have d:lK xs ys=false:=by simp[lK,f,j]
   rw[d];refine Dp func116 λC hP hN=>?_;have n:=ik _ g;have o:=ik _ k;exact GS (gA f j)
  |true=>
   by_cases m:xs.length=ys.length
   .have c:((xs.length:Int)!=ys.length)=false:=by simp[m]
    have d:lK xs ys=eX im xs ys:=by simp[lK,f,j,m]
    rw[d];refine Dp func116 λC hP hN=>?_;have n:=ik _ g;have o:=ik _ k;refine GT (be f j c) ?_;refine WP.loopN [6] xs.length (λi st=>st.t 0=.pv (iv xs)/\st.t 1=.pv (iv ys)/\st.t 5=.pv (Z i)/\st.h 6=none/\gp im xs ys i=true) (by simp[gp]) ?_;rintro i st hi ⟨g0,g1,g5,q,hq⟩;by_cases b:i<xs.length
    .have r:=am b g
     have a:i<ys.length:=by omega
     have hF:im xs[i] ys[i]=false->eX im xs ys=false:=kD b a;have hS:im xs[i] ys[i]=true->gp im xs ys (i+1)=true:=lG b a hq;have p:=Pg xs[i].1 xs[i].2 ys[i].1 ys[i].2
     cases l:im xs[i] ys[i]with
     |true=>
      have e:(aw xs[i].1 xs[i].2&&aw ys[i].1 ys[i].2&&decide (max xs[i].1 ys[i].1<=min xs[i].2 ys[i].2))=true:=l;rw[T6 e]at p;exact Gy
      all_goals simpa using hS l
     |false=>
      have e:(aw xs[i].1 xs[i].2&&aw ys[i].1 ys[i].2&&decide (max xs[i].1 ys[i].1<=min xs[i].2 ys[i].2))=false:=l;rw[TZ (by simp[e])]at p;exact Gy
      all_goals simp[hF l]
    .have a:¬i<ys.length:=by omega
     refine Gz ?_
     all_goals simp[lH b hq]
   .have c:((xs.length:Int)!=ys.length)=true:=by simp;omega
    have d:lK xs ys=false:=by simp[lK,m]
    rw[d];refine Dp func116 λC hP hN=>?_;have n:=ik _ g;have o:=ik _ k;exact GS (be f j c)
theorem GM(xs ys:List (Int×Int)):lK xs ys=bn xs ys:=by
 unfold lK bn;by_cases c:xs.length=ys.length
 .cases b:eX im xs ys with
  |false=>simp
  |true=>
   rw[lJ]at b
   have d:bi vI xs=true:=by
    rw[mZ];intro x a;obtain⟨i,hi,rfl⟩:=Vk.1 a;have:=b i hi (by omega);simp only[im,An]at this;exact this.1.1
   have e:bi vI ys=true:=by
    rw[mZ];intro x a;obtain⟨i,hi,rfl⟩:=Vk.1 a;have:=b i (by omega) hi;simp only[im,An]at this;exact this.1.2
   simp[d,e,c]
 .simp[c]
theorem Fu(xs ys:List (Int×Int)):nq xs ys=oF xs ys:=by
 unfold nq oF;by_cases c:xs.length=ys.length
 .cases b:eX dS xs ys with
  |false=>simp
  |true=>
   rw[lJ]at b
   have d:bi vI xs=true:=by
    rw[mZ];intro x a;obtain⟨i,hi,rfl⟩:=Vk.1 a;have:=b i hi (by omega);simp only[dS,An]at this;exact this.1.1.1
   have e:bi vI ys=true:=by
    rw[mZ];intro x a;obtain⟨i,hi,rfl⟩:=Vk.1 a;have:=b i (by omega) hi;simp only[dS,An]at this;exact this.1.1.2
   simp[d,e,c]
 .simp[c]
theorem El(xs:List (Int×Int))(ys:List Int):yd xs ys=jU xs ys:=by
 unfold yd jU;by_cases a:xs.length=ys.length
 .cases b:eX mY xs ys with
  |false=>simp
  |true=>
   rw[lJ]at b
   have d:bi vI xs=true:=by
    rw[mZ];intro x c;obtain⟨i,hi,rfl⟩:=Vk.1 c;have:=b i hi (by omega);simp only[mY,An]at this;exact this.1.1
   simp[d,a]
 .simp[a]
theorem Sn(xs:List (Int×Int))(j:Int)(a:xs.length<=16777216)(b:bi vI xs=false):aO 43 (iv xs) (Z j) (.tup [iv [],iv [],B false]):=by
 refine Dp func43 λC hP hN=>?_
 with_reducible repeat' (first|refine Sp.h ?_|((first|refine Wd ?_|refine Ss.h ?_|refine Sc.h (ik _ (vz a)) ?_|(refine Sb.h ?_ ?_ ?_<;>(try intro hgd)<;>try exact Xy))<;>simp -implicitDefEqProofs (maxSteps:=2000000) [hP,hN,b]<;>try refine Ya ?_)|refine X2 ?_ ?_|(refine Xd ?_ ?_<;>intro hcd<;>try exact Xx))
theorem So(xs:List (Int×Int))(j:Int)(b:xs.length<=16777216)(c:bi vI xs=true)(a:j<0):aO 43 (iv xs) (Z j) (.tup [iv [],iv [],B false]):=by
 refine Dp func43 λC hP hN=>?_
 with_reducible repeat' (first|refine Sp.h ?_|((first|refine Wd ?_|refine Ss.h ?_|refine Sc.h (ik _ (vz b)) ?_|(refine Sb.h ?_ ?_ ?_<;>(try intro hgd)<;>try exact Xy))<;>simp -implicitDefEqProofs (maxSteps:=2000000) [hP,hN,c,a]<;>try refine Ya ?_)|refine X2 ?_ ?_|(refine Xd ?_ ?_<;>intro hcd<;>try exact Xx))
theorem Sq(xs:List (Int×Int))(n:Nat)(c:xs.length<=16777216)(d:bi vI xs=true)(a:xs.length<=n):aO 43 (iv xs) (Z n) (.tup [iv [],iv [],B false]):=by
 have b:(xs.length:Int)<=(n:Int):=by omega
 refine Dp func43 λC hP hN=>?_
 with_reducible repeat' (first|refine Sp.h ?_|((first|refine Wd ?_|refine Ss.h ?_|refine Sc.h (ik _ (vz c)) ?_|(refine Sb.h ?_ ?_ ?_<;>(try intro hgd)<;>try exact Xy))<;>simp -implicitDefEqProofs (maxSteps:=2000000) [hP,hN,d,b,a]<;>try refine Ya ?_)|refine X2 ?_ ?_|(refine Xd ?_ ?_<;>intro hcd<;>try exact Xx))
theorem Sr(xs:List (Int×Int))(n:Nat)(c:xs.length<=16777216)(d:bi vI xs=true)(a:n<xs.length)(e:i64.wrap (xs[n].2-xs[n].1)=xs[n].2-xs[n].1)(hs:xs[n].2-xs[n].1<2):aO 43 (iv xs) (Z n) (.tup [iv [],iv [],B false]):=by
 have b:¬(xs.length:Int)<=(n:Int):=by omega
 refine Dp func43 λC hP hN=>?_
 with_reducible repeat' (first|refine Sp.h ?_|((first|refine Wd ?_|refine Ss.h ?_|refine Sc.h (ik _ (vz c)) ?_|(refine Sb.h ?_ ?_ ?_<;>(try intro hgd)<;>try exact Xy))<;>simp -implicitDefEqProofs (maxSteps:=2000000) [hP,hN,d,a,e,hs,b,Nat.not_le.2 a]<;>try refine Ya ?_)|refine X2 ?_ ?_|(refine Xd ?_ ?_<;>intro hcd<;>try exact Xx))
theorem Su(xs:List (Int×Int))(n:Nat)(d:xs.length<=16777216)(f:bi vI xs=true)(a:n<xs.length)(g:i64.wrap (xs[n].2-xs[n].1)=xs[n].2-xs[n].1)(hs:¬xs[n].2-xs[n].1<2):aO 43 (iv xs) (Z n) (.tup [iv (xs.set n (xs[n].1,jr xs[n])),iv (xs.set n (jr xs[n],xs[n].2)),B true]):=by
 have b:¬(xs.length:Int)<=(n:Int):=by omega
 generalize e:jr xs[n]=m;have c:=Px xs[n];rw[e]at c;refine Dp func43 λC hP hN=>?_
 with_reducible repeat' (first|refine Sp.h ?_|((first|refine Wd ?_|refine Ss.h ?_|refine Sc.h (ik _ (vz d)) ?_|refine Sc.h (c) ?_|(refine Sb.h ?_ ?_ ?_<;>(try intro hgd)<;>try exact Xy))<;>simp -implicitDefEqProofs (maxSteps:=2000000) [hP,hN,f,a,g,hs,b,Nat.not_le.2 a,show xs.length*16<=140737488355328 by omega,show xs.length<=9223372036854775807 by omega]<;>try refine Ya ?_)|refine X2 ?_ ?_|(refine Xd ?_ ?_<;>intro hcd<;>try exact Xx))
 all_goals simp[Vv]
theorem Ot(xs:List (Int×Int))(j:Int)(g:xs.length<=16777216):aO 43 (iv xs) (Z j) (.tup [iv (aT xs j),iv (aU xs j),B (bD xs j)]):=by
 cases e:bi vI xs with
 |false=>
  have a:bD xs j=false:=by simp[bD,e]
  have b:aT xs j=[]:=by simp[aT,a]
  have c:aU xs j=[]:=by simp[aU,a]
  rw[a,b,c];exact Sn xs j g e
 |true=>
  by_cases l:0<=j
  .obtain⟨n,rfl⟩:=Vm l
   by_cases d:n<xs.length
   .have f:=an d
    have i:aw xs[n].1 xs[n].2=true:=mZ.1 e _ (Ul d);have p:=xr i
    have k:dH xs[n]=xs[n].2-xs[n].1:=by
     rw[dH,i];simp only[Ui];exact aa (by omega) (by omega)
    have o:i64.wrap (xs[n].2-xs[n].1)=xs[n].2-xs[n].1:=aa;by_cases m:xs[n].2-xs[n].1<2
    .have a:bD xs (n:Int)=false:=by simp[bD,e,f,k];omega
     have b:aT xs (n:Int)=[]:=by simp[aT,a]
     have c:aU xs (n:Int)=[]:=by simp[aU,a]
     rw[a,b,c];exact Sr xs n g e d o m
    .have a:bD xs (n:Int)=true:=by simp[bD,e,f,k];omega
     have b:aT xs (n:Int)=xs.set n (xs[n].1,jr xs[n]):=by simp[aT,a,f]
     have c:aU xs (n:Int)=xs.set n (jr xs[n],xs[n].2):=by simp[aU,a,f]
     rw[a,b,c];exact Su xs n g e d o m
   .have f:xs[n]?=none:=Ua (by omega)
    have a:bD xs (n:Int)=false:=by simp[bD,f]
    have b:aT xs (n:Int)=[]:=by simp[aT,a]
    have c:aU xs (n:Int)=[]:=by simp[aU,a]
    rw[a,b,c];exact Sq xs n g e (Nat.not_lt.1 d)
  .have a:bD xs j=false:=by simp[bD,l]
   have b:aT xs j=[]:=by simp[aT,a]
   have c:aU xs j=[]:=by simp[aU,a]
   rw[a,b,c];exact So xs j g e (by omega)
def ip(js:List J)(b:List (Int×Int)):Nat->Int×Int
 |0=>(-1,0)
 |i+1=>match js[i]?,b[i]? with
  |some j,some x=>if 2<=dH x/\(ip js b i).2<wr (j.w*dH x)then((i:Int),wr (j.w*dH x))else ip js b i
  |_,_=>ip js b i
def Js(x:AV)(fb:Option cX):Option cX:=match x with
 |.pv (.val (.slice none 0 0))=>some (.pv (Z 0),[])
 |_=>fb
@[simp] theorem OF(fb:Option cX):Js (.pv (.val (.slice none 0 0))) fb=some (.pv (Z 0),[]):=rfl
theorem Ju(x:Operand):
 bF prog ⟨dst,.call ⟨.builtin .len,#[x],#[39]⟩,ty,pos,aft,g⟩ (λ_=>.pv (.val (.slice none 0 0)))=some (.pv (Z 0),[]):=by kernel_rfl
@[simp] theorem R4(x:Operand):
 bF prog ⟨dst,.call ⟨.builtin .len,#[x],#[39]⟩,ty,pos,aft,g⟩ ρ=Js (ρ x) (jv prog ⟨dst,.call ⟨.builtin .len,#[x],#[39]⟩,ty,pos,aft,g⟩ ρ):=by
 unfold Js;split
 .rename_i b
  rw[<-Ju (dst:=dst) (ty:=ty) (pos:=pos) (aft:=aft) (g:=g) x];refine rA (by intro _ _ h;cases h) ?_;intro y a;simp[Op.operands,Call.operands]at a;subst a;exact b
 .rfl
set_option maxRecDepth 100000 in
theorem Kh(t:Tr)(hl:t.cells.length<=9223372036854775807):bk 14 (fg t) (.tup [.sl ((al t).map iv),B (aK t)]):=by
 cases hs:gW t with
 |false=>
  have a7:=sG (t:=t) (by simp[dw,hs]);rw[a7.1,a7.2];by_cases q1:t.root.length<1
  .have ba:(t.root.length:Int)<1:=by omega
   refine Dp func14 λC hP hN=>?_;exact Gy
  have ba:¬(t.root.length:Int)<1:=by omega
  by_cases q2:10<t.root.length
  .have bb:(10:Int)<t.root.length:=by omega
   refine Dp func14 λC hP hN=>?_;exact Gy
  have bb:¬(10:Int)<t.root.length:=by omega
  by_cases h1:t.cells.length<1
  .have ad:(t.cells.length:Int)<1:=by omega
   refine Dp func14 λC hP hN=>?_;exact Gy
  have ad:¬(t.cells.length:Int)<1:=by omega
  by_cases h2:2048<t.cells.length
  .have ar:(2048:Int)<t.cells.length:=by omega
   refine Dp func14 λC hP hN=>?_;exact Gy
  have ar:¬(2048:Int)<t.cells.length:=by omega
  have h3:bi vI t.root=false:=by
   cases h:bi vI t.root with
   |false=>rfl
   |true=>simp[gW,dv,h]at hs;omega
  refine Dp func14 λC hP hN=>?_;refine Gz ?_;refine WP.loopN [] t.root.length (λi st=>st.t 1=.ptr 1 0/\st.t 5=.pv (Z i)/\st.h 1=some (.box [.pv (iv t.root),.pv (.sl (t.cells.map bz))] true false)/\bi vI (t.root.take i)=true) (by simp[bi]) ?_;rintro i st hi ⟨g1,g5,hb,hq⟩;by_cases a:i<t.root.length
  .have F:=am a (by omega)
   have hS:vI t.root[i]=true->bi vI (t.root.take (i+1))=true:=t6 a hq
   with_reducible repeat' (first|refine Sp.h ?_|((first|refine Wd ?_|refine Ss.h ?_|refine Sc.h (oA _ _) ?_|(refine Sb.h ?_ ?_ ?_<;>(try intro hgd)<;>try exact Xy))<;>simp -implicitDefEqProofs [hP,hN,g1,g5,hb,a,F]<;>try refine Ya ?_)|refine X2 ?_ ?_|(refine Xd ?_ ?_<;>intro hcd<;>try exact Xx))
   all_goals (exact hS (by simpa using hcd))
  .have:=t7 a hq
   rw[h3]at this;cases this
 |true=>
  obtain⟨z1,z2,z3,z4,z5⟩:=eG.1 hs
  have q1:¬t.root.length<1:=by omega
  have q2:¬10<t.root.length:=by omega
  have ba:¬(t.root.length:Int)<1:=by omega
  have bb:¬(10:Int)<t.root.length:=by omega
  have h1:¬t.cells.length<1:=by omega
  have h2:¬2048<t.cells.length:=by omega
  have ad:¬(t.cells.length:Int)<1:=by omega
  have ar:¬(2048:Int)<t.cells.length:=by omega
  have a5:=Dv z1;refine Dp func14 λC hP hN=>?_;refine Gz ?_;refine WP.loopN [] t.root.length (λi st=>st.t 1=.ptr 1 0/\st.t 4=.pv (Z t.cells.length)/\st.t 5=.pv (Z i)/\st.h 1=some (.box [.pv (iv t.root),.pv (.sl (t.cells.map bz))] true false)/\st.h 48=none/\st.h 8=none) (by simp) ?_;rintro i st hi ⟨g1,g4,g5,hb,e,g⟩;by_cases a:i<t.root.length
  .have F:=am a (by omega)
   have hv:aw t.root[i].1 t.root[i].2=true:=eZ.1 z5 _ (Ul a);have cv:=oA t.root[i].1 t.root[i].2;rw[hv]at cv;exact Gy
  refine GT (zAc g1 g4 g5 hb e g a a5 (show(24:Int)*t.cells.length<=281474976710656 by omega) (gA (show(t.cells.length:Int)<=9223372036854775807 by omega) (show 0<t.cells.length by omega))) ?_;refine WP.loopN [8] t.cells.length (λi st=>∃L,BInv t i L/\st.t 1=.ptr 1 0/\st.t 4=.pv (Z t.cells.length)/\st.t 6=.arr 48 t.cells.length/\st.t 7=.pv (Z i)/\st.h 1=some (.box [.pv (iv t.root),.pv (.sl (t.cells.map bz))] true false)/\st.h 8=none/\st.h 48=some (.row 39 1 (L.map rV) 0)) (by exact⟨jO t,Bn hs,by simp[g1,g4,g5,hb,e,g,a5]⟩) ?_;rintro i st hi ⟨L,M,g1,g4,J,K,f,g,e⟩;have j:=M.bok.len;by_cases a:i<t.cells.length
  .have F:=am a hl
   have Q:i<L.length:=by omega
   generalize A:t.cells[i]=c at *
   have n:t.cells[i]?=some c:=by rw[an a,A]
   have E:gq t.cells.length i c L=none->aK t=false/\al t=[]:=λh=>sG (Bo M a (by rw[A];exact h));have cl:=Ki c;have cf:=OH c.v;have O:=Tn c.v
   cases k:L[i]? with
   |none=>rw[an Q]at k;cases k
   |some x=>
   cases x with
   |none=>
    have l:=bZ k Q;obtain⟨H,I⟩:=E (by simp[gq,k]);rw[H,I];exact GS (zAe g1 g4 J K f g e a F k l @eo @eu n (gA A j))
   |some b=>
   have l:=bZ k Q;obtain⟨a1,bc⟩:=M.bok.ok i b k
   have m:b≠[]:=by intro h;rw[h]at a1;simp at a1;omega
   have o:((b.length:Int)==0)=false:=by simp[m]
   cases p:dA c with
   |true=>
    rw[p]at cl
    cases hf:eP c.v with
    |true=>
     rw[hf]at cf;have R:=sF (L':=L) M a (by rw[A,ky (t:=t) k p,hf];rfl);refine GT (zAe g1 g4 J K f g e a F k l @eo @eu n (it A j o m)) ?_
     all_goals exact⟨L,R,rfl⟩
    |false=>
     rw[hf]at cf;obtain⟨H,I⟩:=E (by rw[ky (t:=t) k p,hf];rfl);rw[H,I];exact GS (zAe g1 g4 J K f g e a F k l @eo @eu n (it A j o m))
   |false=>
    rw[p]at cl
    cases D:kU t.cells.length i c with
    |false=>
     obtain⟨H,I⟩:=E (lS k p (.inl D));rw[H,I];rcases xE D with h|h|h|h|h|h
     all_goals try rw[h]at O
     all_goals
      exact GS (zAe g1 g4 J K f g e a F k l @eo @eu n (so A j o m h))
    |true=>
     obtain⟨i1,i2,i3,i4,S,i6⟩:=iV.1 D;rw[i6]at O;have N:=Ot b c.joint (by omega)
     have T:¬c.low<=i:=by omega
     have U:¬(t.cells.length:Int)<=c.low:=by omega
     have V:¬c.high<=i:=by omega
     have W:¬(t.cells.length:Int)<=c.high:=by omega
     have X:c.low.toNat<t.cells.length:=by omega
     have Y:c.high.toNat<t.cells.length:=by omega
     have k3:0<=c.low:=by omega
     have k4:0<=c.high:=by omega
     have k5:c.low.toNat<L.length:=by omega
     have k6:c.high.toNat<L.length:=by omega
     cases hh:bD b c.joint with
     |false=>
      obtain⟨H,I⟩:=E (lS k p (.inr (.inl hh)));rw[H,I];rw[hh]at N
      cases q:L[c.low.toNat]? with
      |none=>rw[an k5]at q;cases q
      |some xa=>
      have s:=bZ q k5
      cases r:L[c.high.toNat]? with
      |none=>rw[an k6]at r;cases r
      |some xz=>
      have G:=bZ r k6;rcases xa with _|d
      .rcases xz with _|d'
       .skip
        with_reducible repeat' (first|refine Sp.h ?_|((first|refine Wd ?_|refine Ss.h ?_|refine Sc.h (cl) ?_|refine Sc.h (O) ?_|refine Sc.h (N) ?_|(refine Sb.h ?_ ?_ ?_<;>(try intro hgd)<;>try exact Xy))<;>simp -implicitDefEqProofs [hP,hN,g1,g4,J,K,f,g,e,a,F,k,l,eo,eu,n,A,j,o,m,T,U,V,W,S,X,Y,k3,k4,q,s,r,G]<;>try refine Ya ?_)|refine X2 ?_ ?_|(refine Xd ?_ ?_<;>intro hcd<;>try exact Xx))
       .obtain⟨z,_⟩:=M.bok.ok _ d' r
        have u:(0:Int)<d'.length:=by omega
        have y:0<d'.length:=by omega
        with_reducible repeat' (first|refine Sp.h ?_|((first|refine Wd ?_|refine Ss.h ?_|refine Sc.h (cl) ?_|refine Sc.h (O) ?_|refine Sc.h (N) ?_|(refine Sb.h ?_ ?_ ?_<;>(try intro hgd)<;>try exact Xy))<;>simp -implicitDefEqProofs [hP,hN,g1,g4,J,K,f,g,e,a,F,k,l,eo,eu,n,A,j,o,m,T,U,V,W,S,X,Y,k3,k4,q,s,r,G,u,y]<;>try refine Ya ?_)|refine X2 ?_ ?_|(refine Xd ?_ ?_<;>intro hcd<;>try exact Xx))
      .obtain⟨z,_⟩:=M.bok.ok _ d q
       have u:(0:Int)<d.length:=by omega
       have y:0<d.length:=by omega
       with_reducible repeat' (first|refine Sp.h ?_|((first|refine Wd ?_|refine Ss.h ?_|refine Sc.h (cl) ?_|refine Sc.h (O) ?_|refine Sc.h (N) ?_|(refine Sb.h ?_ ?_ ?_<;>(try intro hgd)<;>try exact Xy))<;>simp -implicitDefEqProofs [hP,hN,g1,g4,J,K,f,g,e,a,F,k,l,eo,eu,n,A,j,o,m,T,U,V,W,S,X,Y,k3,k4,q,s,r,G,u,y]<;>try refine Ya ?_)|refine X2 ?_ ?_|(refine Xd ?_ ?_<;>intro hcd<;>try exact Xx))
     |true=>
     rw[hh]at N;obtain⟨o1,_,o3,o4,_⟩:=lR.1 hh;have o5:=(th.1 o4).1
     have o6:¬c.joint<0:=by omega
     have o7:¬(t.root.length:Int)<=c.joint:=by omega
     cases q:L[c.low.toNat]? with
     |none=>rw[an k5]at q;cases q
     |some xa=>
     have s:=bZ q k5
     cases xa with
     |some d=>
      obtain⟨H,I⟩:=E (lS k p (.inr (.inr (.inl ⟨d,q⟩))));rw[H,I];obtain⟨z,_⟩:=M.bok.ok _ d q
      have P:d≠[]:=by intro h;rw[h]at z;simp at z;omega
      have u:(0:Int)<d.length:=by omega
      have y:0<d.length:=by omega
      with_reducible repeat' (first|refine Sp.h ?_|((first|refine Wd ?_|refine Ss.h ?_|refine Sc.h (cl) ?_|refine Sc.h (O) ?_|refine Sc.h (N) ?_|(refine Sb.h ?_ ?_ ?_<;>(try intro hgd)<;>try exact Xy))<;>simp -implicitDefEqProofs [hP,hN,g1,g4,J,K,f,g,e,a,F,k,l,eo,eu,n,A,j,o,m,T,U,V,W,S,o6,o7,X,Y,k3,k4,q,s,u,P,y]<;>try refine Ya ?_)|refine X2 ?_ ?_|(refine Xd ?_ ?_<;>intro hcd<;>try exact Xx))
     |none=>
     cases r:L[c.high.toNat]? with
     |none=>rw[an k6]at r;cases r
     |some xz=>
     have G:=bZ r k6
     cases xz with
     |some d=>
      obtain⟨H,I⟩:=E (lS k p (.inr (.inr (.inr ⟨d,r⟩))));rw[H,I];obtain⟨z,_⟩:=M.bok.ok _ d r
      have P:d≠[]:=by intro h;rw[h]at z;simp at z;omega
      have u:(0:Int)<d.length:=by omega
      have y:0<d.length:=by omega
      with_reducible repeat' (first|refine Sp.h ?_|((first|refine Wd ?_|refine Ss.h ?_|refine Sc.h (cl) ?_|refine Sc.h (O) ?_|refine Sc.h (N) ?_|(refine Sb.h ?_ ?_ ?_<;>(try intro hgd)<;>try exact Xy))<;>simp -implicitDefEqProofs [hP,hN,g1,g4,J,K,f,g,e,a,F,k,l,eo,eu,n,A,j,o,m,T,U,V,W,S,o6,o7,X,Y,k3,k4,q,s,r,G,u,P,y]<;>try refine Ya ?_)|refine X2 ?_ ?_|(refine Xd ?_ ?_<;>intro hcd<;>try exact Xx))
     |none=>
      have R:=sF M a (by rw[A];exact qQ k p D hh q r)
      with_reducible repeat' (first|refine Sp.h ?_|((first|refine Wd ?_|refine Ss.h ?_|refine Sc.h (cl) ?_|refine Sc.h (O) ?_|refine Sc.h (N) ?_|(refine Sb.h ?_ ?_ ?_<;>(try intro hgd)<;>try exact Xy))<;>simp -implicitDefEqProofs [hP,hN,g1,g4,J,K,f,g,e,a,F,k,l,eo,eu,n,A,j,o,m,T,U,V,W,S,o6,o7,X,Y,k3,k4,q,s,r,G]<;>try refine Ya ?_)|refine X2 ?_ ?_|(refine Xd ?_ ?_<;>intro hcd<;>try exact Xx))
      all_goals exact⟨_,R,set_row⟩
  .have a2:=Bp M a
   have a6:=Dy a2
   have a8:aK t=true:=by simp[aK,a2]
   rw[a8,<-a6];exact GS (zAb g1 g4 J K f g e (gA a j))
abbrev zN(n:Nat):PV:=Z (n:Int)
abbrev ns(l:List Nat):PV:=.sl (l.map zN)
theorem OI(t:Tr)(a:t.cells.length<=9223372036854775807):bk 70 (fg t) (B (aK t)):=by
 have b:=Jr t a;refine Dp func70 λC hP hN=>?_;exact GS trivial
theorem Ng(t:Tr)(a:t.cells.length<=9223372036854775807):bk 108 (fg t) (B (aK t)):=by
 have b:=Kh t a;refine Dp func108 λC hP hN=>?_;exact GS trivial
theorem To(r:List (Int×Int)):bk 48 (iv r) (.tup [fg (j0 r),B (dv r)]):=by
 have cv:bf prog 108 [.pv (.agg [iv r,.sl [.agg [Z (-1),Z (-1),Z (-1),Z 0,.sl [],Z 0,.sl [],.sl []]]])] [] [] (.pv (B (dv r))):=by
  have:=Ng ⟨r,[aD br]⟩ (by simp);rw[pT]at this;exact this
 cases h:dv r with
 |true=>
  rw[h]at cv;refine Dp func48 λC hP hN=>?_;refine GT trivial ?_
  all_goals simp[j0,h,aD,br]
 |false=>
  rw[h]at cv;refine Dp func48 λC hP hN=>?_;refine GT trivial ?_
  all_goals simp[j0,h]
theorem nG{i j:Int}(h:dx t i j=false):dp t i j=t:=by simp[dp,h]
theorem mh{i:Int}{v:Verd}(h:cJ t i v=false):cy t i v=t:=by simp[cy,h]
theorem RC(t:Tr)(i j:Int)(I:t.cells.length<=9223372036854775807):mm 113 (fg t) (Z i) (Z j) (.tup [fg (dp t i j),B (dx t i j)]):=by
 have D:=Kh t I
 cases r:aK t with
 |false=>
  have a:dx t i j=false:=by simp[dx,r]
  rw[nG a,a];rw[r]at D;refine Dp func113 λC hP hN=>?_;exact GS trivial
 |true=>
  rw[r]at D;have g:=fL r;have K:=eG.1 (jR r);by_cases q:i<0
  .have a:dx t i j=false:=by
    have:decide (0<=i)=false:=by simp;omega
    simp[dx,this]
   rw[nG a,a];refine Dp func113 λC hP hN=>?_;exact GS q
  .obtain⟨k,rfl⟩:=Vm (show 0<=i by omega)
   by_cases s:t.cells.length<=k
   .have a:dx t k j=false:=by
     have:decide ((k:Int)<t.cells.length)=false:=by simp;omega
     simp only[dx,this,Vl,UB]
    rw[nG a,a];refine Dp func113 λC hP hN=>?_;exact GS (be q s g)
   .have m:k<t.cells.length:=by omega
    have d:k<(al t).length:=by omega
    generalize u:t.cells[k]=c at *
    have e:t.cells[k]?=some c:=by rw[an m,u]
    generalize p:(al t)[k]=b at *
    have f:(al t)[k]?=some b:=by rw[an d,p]
    obtain⟨G,H⟩:=kx f;have cl:=Ki c;have E:=Ot b j (by omega);have z:i64.wrap ((t.cells.length:Int)+2)=(t.cells.length:Int)+2:=aa;have A:i64.wrap ((t.cells.length:Int)+1)=(t.cells.length:Int)+1:=aa
    cases l:dA c with
    |false=>
     have a:dx t k j=false:=by simp[dx,eQ,e,l]
     rw[nG a,a];rw[l]at cl;refine Dp func113 λC hP hN=>?_;exact GS (zAa q s g m d e u)
    |true=>
     rw[l]at cl;by_cases J:2048<t.cells.length+2
     .have a:dx t k j=false:=by
       have:decide (t.cells.length+2<=2048)=false:=by simp;omega
       simp only[dx,this,Vl,UB]
      have n:(2048:Int)<t.cells.length+2:=by omega
      rw[nG a,a];refine Dp func113 λC hP hN=>?_;exact GS (zAb q s g m d e u (gA z n))
     .have n:¬(2048:Int)<t.cells.length+2:=by omega
      cases x:bD b j with
      |false=>
       have a:dx t k j=false:=by simp[dx,f,x]
       rw[nG a,a];rw[x]at E;refine Dp func113 λC hP hN=>?_;exact GS (zAc q s g m d e u p f (gA z n))
      |true=>
       have o:dx t k j=true:=by
        simp only[dx,r,eQ,Uh,e,l,f,Ug,x,VD,Un,An,L4];omega
       have F:dp t k j=ga t k j c.v:=by simp[dp,o,eU,e]
       rw[F,o];rw[x]at E;have y:=yE l;refine Dp func113 λC hP hN=>?_;refine GT (zAe q s g m d e u p f z A n (show t.cells.length*112<=140737488355328 by omega) (show(t.cells.length+2)*112<=140737488355328 by omega) (gA (show t.cells.length+2<=9223372036854775807 by omega) (show t.cells.length<=9223372036854775807 by omega))) ?_
       all_goals (rw[y];simp[ga,aD,Vv,br]<;>rfl)
theorem RD(t:Tr)(i:Int)(v:Verd)(u:t.cells.length<=9223372036854775807):mm 110 (fg t) (Z i) (pA v) (.tup [fg (cy t i v),B (cJ t i v)]):=by
 have q:=Ng t u
 cases o:aK t with
 |false=>
  have a:cJ t i v=false:=by simp[cJ,o]
  rw[mh a,a];rw[o]at q;refine Dp func110 λC hP hN=>?_;exact GS trivial
 |true=>
  rw[o]at q;have A:=eG.1 (jR o);by_cases l:i<0
  .have a:cJ t i v=false:=by
    have:decide (0<=i)=false:=by simp;omega
    simp only[cJ,this,Vl,UB]
   rw[mh a,a];refine Dp func110 λC hP hN=>?_;exact GS l
  .obtain⟨k,rfl⟩:=Vm (show 0<=i by omega)
   by_cases n:t.cells.length<=k
   .have a:cJ t k v=false:=by
     have:decide ((k:Int)<t.cells.length)=false:=by simp;omega
     simp only[cJ,this,Vl,UB]
    rw[mh a,a];refine Dp func110 λC hP hN=>?_;exact GS (gA l n)
   .have d:k<t.cells.length:=by omega
    generalize m:t.cells[k]=c at *
    have b:t.cells[k]?=some c:=by rw[an d,m]
    have cl:=Ki c;have r:=OH v
    cases e:dA c with
    |false=>
     have a:cJ t k v=false:=by simp[cJ,eQ,b,e]
     rw[mh a,a];rw[e]at cl;refine Dp func110 λC hP hN=>?_;exact GS (so l n d b m)
    |true=>
     rw[e]at cl;by_cases p:c.v.kind=0
     .have f:(c.v.kind !=0)=false:=by simp[p]
      cases hf:eP v with
      |false=>
       have a:cJ t k v=false:=by simp[cJ,hf]
       rw[mh a,a];rw[hf]at r;refine Dp func110 λC hP hN=>?_;exact GS (s4 l n d b m f)
      |true=>
       rw[hf]at r
       have g:cJ t k v=true:=by
        simp[cJ,o,eQ,b,e,hf,eU,p,d,m]
       have s:cy t k v=dg t k v:=by simp[cy,g]
       rw[s,g];have j:=yE e
       have x:c.joint=-1:=by rw[j];rfl
       have y:c.low=-1:=by rw[j];rfl
       have z:c.high=-1:=by rw[j];rfl
       refine Dp func110 λC hP hN=>?_;refine GT (zAb l n d b m f (show t.cells.length*112<=140737488355328 by omega) (show t.cells.length<=9223372036854775807 by omega)) ?_
       all_goals simp[dg,aD,Vv,x,y,z]
     .have f:(c.v.kind !=0)=true:=by simp[p]
      have a:cJ t k v=false:=by simp[cJ,eU,b,p]
      rw[mh a,a];refine Dp func110 λC hP hN=>?_;exact GS (s4 l n d b m f)
theorem Nh(xs:List (Int))(c:xs.length<=16777216):bk 180 (.sl (xs.map Z)) (.sl (xs.map Z)):=by
 by_cases b:xs=[]
 .subst b
  refine Dp func180 λC hP hN=>?_;exact Co [5] trivial
 .have a:xs.isEmpty=false:=by simp[b]
  refine Dp func180 λC hP hN=>?_;exact Co [5] (it b a (show xs.length*8<=140737488355328 by omega) (show xs.length<=9223372036854775807 by omega))
theorem Ni(xs:List (Int×Int))(c:xs.length<=16777216):bk 68 (.sl (xs.map aP)) (.sl (xs.map aP)):=by
 by_cases b:xs=[]
 .subst b
  refine Dp func68 λC hP hN=>?_;exact Co [5] trivial
 .have a:xs.isEmpty=false:=by simp[b]
  refine Dp func68 λC hP hN=>?_;exact Co [5] (it b a (show xs.length*16<=140737488355328 by omega) (show xs.length<=9223372036854775807 by omega))
theorem F8(f:Nat->α)(n:Nat):(List.range n).map f++[f n]=(List.range (n+1)).map f:=by simp[Vn]
theorem Sd(f:FuncId)(p:J->Int->Bool)(xs:List (J))(ys:List (Int))(q:xs.length<=9223372036854775807)(hf:∀a b,bf prog f [.pv (bR a),.pv (Z b)] [] [] (.pv (B (p a b)))):mm 65 (.sl (xs.map bR)) (.sl (ys.map Z)) (Fv f) (B (decide (xs.length=ys.length)&&eX p xs ys)):=by
 refine Dp func65 λC hP hN=>?_;by_cases k:xs.length=ys.length
 .skip
  refine Gz ?_;refine WP.loopN [8] xs.length (λi st=>st.t 0=.pv (.sl (xs.map bR))/\st.t 1=.pv (.sl (ys.map Z))/\st.t 2=.pv (Fv f)/\st.t 14=.pv (.sl (xs.map bR))/\st.t 15=.pv (Z xs.length)/\st.t 16=.pv (Z i)/\st.h 8=none/\gp p xs ys i=true) (by simp[gp,k]) ?_;rintro i st hi ⟨l,m,n,e,g,j,o,hq⟩;by_cases c:i<xs.length
  .have r:=am c q
   have d:i<ys.length:=by omega
   have hF:p xs[i] ys[i]=false->eX p xs ys=false:=kD c d;have hS:p xs[i] ys[i]=true->gp p xs ys (i+1)=true:=lG c d hq
   with_reducible repeat' (first|refine Sp.h ?_|((first|refine Wd ?_|refine Ss.h ?_|refine Sc.h (hf _ _) ?_|(refine Sb.h ?_ ?_ ?_<;>(try intro hgd)<;>try exact Xy))<;>simp -implicitDefEqProofs (maxSteps:=2000000) [hP,hN,l,m,n,e,g,j,o,c,d,r]<;>try refine Ya ?_)|refine X2 ?_ ?_|(refine Xd ?_ ?_<;>intro hcd<;>try exact Xx))
   all_goals first|exact hF (by simpa using hcd)|simpa using hS (by simpa using hcd)
  .skip
   refine Gz ?_
   all_goals simp[k,lH c hq]
 .skip
  exact Gy
  all_goals simp[k]
theorem O7(f:FuncId)(p:J->Int×Int->Bool)(xs:List (J))(ys:List (Int×Int))(q:xs.length<=9223372036854775807)(hf:∀a b,bf prog f [.pv (bR a),.pv (aP b)] [] [] (.pv (B (p a b)))):mm 127 (.sl (xs.map bR)) (.sl (ys.map aP)) (Fv f) (B (decide (xs.length=ys.length)&&eX p xs ys)):=by
 refine Dp func127 λC hP hN=>?_;by_cases k:xs.length=ys.length
 .skip
  refine Gz ?_;refine WP.loopN [8] xs.length (λi st=>st.t 0=.pv (.sl (xs.map bR))/\st.t 1=.pv (.sl (ys.map aP))/\st.t 2=.pv (Fv f)/\st.t 14=.pv (.sl (xs.map bR))/\st.t 15=.pv (Z xs.length)/\st.t 16=.pv (Z i)/\st.h 8=none/\gp p xs ys i=true) (by simp[gp,k]) ?_;rintro i st hi ⟨l,m,n,e,g,j,o,hq⟩;by_cases c:i<xs.length
  .have r:=am c q
   have d:i<ys.length:=by omega
   have hF:p xs[i] ys[i]=false->eX p xs ys=false:=kD c d;have hS:p xs[i] ys[i]=true->gp p xs ys (i+1)=true:=lG c d hq
   with_reducible repeat' (first|refine Sp.h ?_|((first|refine Wd ?_|refine Ss.h ?_|refine Sc.h (hf _ _) ?_|(refine Sb.h ?_ ?_ ?_<;>(try intro hgd)<;>try exact Xy))<;>simp -implicitDefEqProofs (maxSteps:=2000000) [hP,hN,l,m,n,e,g,j,o,c,d,r]<;>try refine Ya ?_)|refine X2 ?_ ?_|(refine Xd ?_ ?_<;>intro hcd<;>try exact Xx))
   all_goals first|exact hF (by simpa using hcd)|simpa using hS (by simpa using hcd)
  .skip
   refine Gz ?_
   all_goals simp[k,lH c hq]
 .skip
  exact Gy
  all_goals simp[k]
def AY(j:J)(x:Int):Bool:=decide (j.lo<=x)&&decide (x<=j.hi)
def gO(j:J):Int×Int:=(j.lo,j.hi)
theorem Se(j:J)(x:Int):aO 66 (bR j) (Z x) (B (AY j x)):=by
 refine Dp func66 λC hP hN=>?_
 with_reducible repeat' (first|refine Sp.h ?_|((first|refine Ss.h ?_|(refine Sb.h ?_ ?_ ?_<;>(try intro hgd)<;>try exact Xy))<;>simp -implicitDefEqProofs (maxSteps:=2000000) [hP,hN])|refine X2 ?_ ?_|(refine Xd ?_ ?_<;>intro hcd<;>try exact Xx))
 all_goals (simp_all[AY]<;>omega)
theorem Oe(j:J):bk 72 (bR j) (aP (gO j)):=by
 refine Dp func72 λC hP hN=>?_;refine Gz ?_
 all_goals simp[gO]
theorem O8(j:J)(x:Int×Int):aO 128 (bR j) (aP x) (B (dS x (gO j))):=by
 refine Dp func128 λC hP hN=>?_;have a:=@Oe;have b:=Kz x (j.lo,j.hi);exact GS @gO.eq_1
def gj(js:List J)(ms:List Ms)(c:List Int):Bool:=decide (aW js ms=0)&&decide (js.length=c.length)&&eX AY js c
theorem Of(js:List J)(ms:List Ms)(c:List Int)(d:js.length<=9223372036854775807)(f:ms.length<=9223372036854775807):aO 30 (gP js ms) (zs c) (B (gj js ms c)):=by
 have i:=Sd 66 AY js c d Se;by_cases a:aW js ms=0
 .have e:gj js ms c=(decide (js.length=c.length)&&eX AY js c):=by simp[gj,a]
  rw[e];generalize(decide (js.length=c.length)&&eX AY js c)=u at *;refine Dp func30 λC hP hN=>?_;have g:=xp js ms d f;exact GS a
 .have e:gj js ms c=false:=by simp[gj,a]
  have b:(aW js ms==0)=false:=by simp[a]
  rw[e];refine Dp func30 λC hP hN=>?_;have g:=xp js ms d f;exact GS (gA a b)
def af(js:List J)(ms:List Ms):List (Int×Int):=if aW js ms=0 then js.map gO else[]
theorem qG{ms:List Ms}(h:aW js ms=0):0<js.length/\js.length<=10:=by
 unfold aW at h;split at h
 all_goals omega
theorem Sf(js:List J)(ms:List Ms)(d:js.length<=9223372036854775807)(f:ms.length<=9223372036854775807):bk 32 (gP js ms) (iv (af js ms)):=by
 by_cases a:aW js ms=0
 .have e:=qG a
  have i:=Sl 72 gO js (by omega) Oe
  have c:af js ms=js.map gO:=by simp[af,a]
  rw[c];generalize js.map gO=u at *;refine Dp func32 λC hP hN=>?_;have g:=xp js ms d f;exact GS a
 .have c:af js ms=[]:=by simp[af,a]
  have b:(aW js ms !=0)=true:=by simp[a]
  rw[c];refine Dp func32 λC hP hN=>?_;have g:=xp js ms d f;exact GS (gA a b)
theorem Og(js:List J)(ms:List Ms)(k:js.length<=9223372036854775807)(n:ms.length<=9223372036854775807):bk 16 (gP js ms) (iv (af js ms)):=by
 by_cases a:aW js ms=0
 .have m:=qG a
  have b:(aW js ms !=0)=false:=by simp[a]
  have l:af js ms=js.map gO:=by simp[af,a]
  rw[l];refine Dp func16 λC hP hN=>?_;have r:=xq js ms k n;refine sh [3] (gA a b) ?_;refine WP.loopN [] js.length (λi st=>st.t 1=.ptr 1 0/\st.h 1=some (.box [.pv (.sl (js.map bR)),.pv (.sl (ms.map dC))] true false)/\st.t 4=.pv (Z i)/\st.t 3=.arr 3 i/\st.h 3=some (.row 50 2 ((js.map λj=>I j.lo j.hi).take i) 0)) (by simp) ?_;rintro i st hi ⟨g1,e,g4,g3,g⟩;by_cases c:i<js.length
  .have q:=am c k
   have o:min i js.length=i:=by omega
   have p:=Bw (f:=λj:J=>I j.lo j.hi) c
   with_reducible repeat' (first|refine Sp.h ?_|((first|refine Wd ?_|refine Ss.h ?_|(refine Sb.h ?_ ?_ ?_<;>(try intro hgd)<;>try exact Xy))<;>simp -implicitDefEqProofs (maxSteps:=2000000) [hP,hN,g1,e,g4,g3,g,c,q,o,p,show(i+1)*16<=140737488355328 by omega,show i+1<=9223372036854775807 by omega]<;>try refine Ya ?_)|refine X2 ?_ ?_|(refine Xd ?_ ?_<;>intro hcd<;>try exact Xx))
  .have o:min i js.length=i:=by omega
   refine Gz ?_;have d:List.take i (js.map λj=>I j.lo j.hi)=js.map λj=>I j.lo j.hi:=Up (by simp;omega)
   first|exact d|(simp only[List.map_map];exact d)|(simp[gO];exact d)
 .have l:af js ms=[]:=by simp[af,a]
  have b:(aW js ms !=0)=true:=by simp[a]
  rw[l];refine Dp func16 λC hP hN=>?_;have r:=xq js ms k n;exact GS (gA a b)
def gH(js:List J)(ms:List Ms)(b:List (Int×Int)):Bool:=decide (aW js ms=0)&&decide (js.length=b.length)&&eX (λj x=>dS x (gO j)) js b
theorem Sg(js:List J)(ms:List Ms)(b:List (Int×Int))(d:js.length<=9223372036854775807)(f:ms.length<=9223372036854775807):aO 75 (gP js ms) (iv b) (B (gH js ms b)):=by
 have i:=O7 128 (λj x=>dS x (gO j)) js b d O8;by_cases a:aW js ms=0
 .have e:gH js ms b=(decide (js.length=b.length)&&eX (λj x=>dS x (gO j)) js b):=by simp[gH,a]
  rw[e];generalize(decide (js.length=b.length)&&eX (λj x=>dS x (gO j)) js b)=u at *;refine Dp func75 λC hP hN=>?_;have g:=xp js ms d f;exact GS a
 .have e:gH js ms b=false:=by simp[gH,a]
  have c:(aW js ms==0)=false:=by simp[a]
  rw[e];refine Dp func75 λC hP hN=>?_;have g:=xp js ms d f;exact GS (gA a c)
def si(js:List J)(ms:List Ms)(b:List (Int×Int)):Bool:=decide (b.length=js.length)&&bi vI b&&decide (aW js ms=0)
def dP(js:List J)(ms:List Ms)(b:List (Int×Int)):Int:=if si js ms b then(ip js b js.length).1 else -1
theorem Cp{b:List (Int×Int)}(h1:i<js.length)(a:i<b.length)(h:2<=dH b[i]/\(ip js b i).2<wr (js[i].w*dH b[i])):ip js b (i+1)=((i:Int),wr (js[i].w*dH b[i])):=by
 simp[ip,h1,a,h]
theorem wF{b:List (Int×Int)}(h1:i<js.length)(a:i<b.length)(h:¬(2<=dH b[i]/\(ip js b i).2<wr (js[i].w*dH b[i]))):ip js b (i+1)=ip js b i:=by
 simp only[ip,an h1,an a];rw[TZ h]
theorem Cq(x:Int×Int):bf prog 136 [.pv (aP x)] [] [] (.pv (Z (dH x))):=vw x.1 x.2
theorem Si(js:List J)(ms:List Ms)(b:List (Int×Int))(q:js.length<=9223372036854775807)(v:ms.length<=9223372036854775807)(s:b.length<=9223372036854775807):aO 81 (gP js ms) (iv b) (Z (dP js ms b)):=by
 cases e:si js ms b with
 |false=>
  have x:dP js ms b=-1:=by simp[dP,e]
  rw[x];by_cases o:b.length=js.length
  .have d:((b.length:Int)!=js.length)=false:=by simp[o]
   have z:(bi vI b&&decide (aW js ms=0))=false:=by simpa[si,o]using e
   refine Dp func81 λC hP hN=>?_;have A:=vB _ s;have B:=xp js ms q v;exact GS d
   all_goals simp_all
  .have d:((b.length:Int)!=js.length)=true:=by simp;omega
   refine Dp func81 λC hP hN=>?_;have A:=vB _ s;have B:=xp js ms q v;exact GS d
 |true=>
  have x:dP js ms b=(ip js b js.length).1:=by simp[dP,e]
  rw[x];simp only[si,An,L4]at e;obtain⟨⟨o,F⟩,D⟩:=e
  have d:((b.length:Int)!=js.length)=false:=by simp[o]
  refine Dp func81 λC hP hN=>?_;have A:=vB _ s;have B:=xp js ms q v;refine GT (be d F D) ?_;refine WP.loopN [8] js.length (λi st=>st.t 2=.ptr 2 0/\st.h 2=some (.box [.pv (.sl (js.map bR)),.pv (.sl (ms.map dC))] true false)/\st.t 27=.pv (iv b)/\st.t 28=.pv (Z b.length)/\st.t 29=.pv (Z i)/\st.t 5=.pv (Z (ip js b i).1)/\st.t 6=.pv (Z (ip js b i).2)/\st.h 8=none) (by simp[ip]) ?_;rintro i st hi ⟨g2,k,f,g,j,g5,r,l⟩;by_cases a:i<js.length
  .have y:=am a q
   have c:i<b.length:=by omega
   by_cases m:2<=dH b[i]
   .by_cases p:(ip js b i).2<wr (js[i].w*dH b[i])
    .have n:=Cp a c ⟨m,p⟩
     with_reducible repeat' (first|refine Sp.h ?_|((first|refine Ss.h ?_|refine Sc.h (Cq _) ?_|(refine Sb.h ?_ ?_ ?_<;>(try intro hgd)<;>try exact Xy))<;>simp -implicitDefEqProofs (maxSteps:=2000000) [hP,hN,g2,k,f,g,j,g5,r,l,a,c,y,m,p])|refine X2 ?_ ?_|(refine Xd ?_ ?_<;>intro hcd<;>try exact Xx))
     all_goals simp[n]
    .have n:=wF a c (λh=>p h.2)
     with_reducible repeat' (first|refine Sp.h ?_|((first|refine Ss.h ?_|refine Sc.h (Cq _) ?_|(refine Sb.h ?_ ?_ ?_<;>(try intro hgd)<;>try exact Xy))<;>simp -implicitDefEqProofs (maxSteps:=2000000) [hP,hN,g2,k,f,g,j,g5,r,l,a,c,y,m,p])|refine X2 ?_ ?_|(refine Xd ?_ ?_<;>intro hcd<;>try exact Xx))
     all_goals simp[n]
   .have n:=wF a c (λh=>m h.1)
    with_reducible repeat' (first|refine Sp.h ?_|((first|refine Ss.h ?_|refine Sc.h (Cq _) ?_|(refine Sb.h ?_ ?_ ?_<;>(try intro hgd)<;>try exact Xy))<;>simp -implicitDefEqProofs (maxSteps:=2000000) [hP,hN,g2,k,f,g,j,g5,r,l,a,c,y,m])|refine X2 ?_ ?_|(refine Xd ?_ ?_<;>intro hcd<;>try exact Xx))
    all_goals simp[n]
  .have u:i=js.length:=by omega
   subst u
   have E:¬js.length<b.length:=by omega
   exact Gy
theorem O9(js:List J)(ms:List Ms)(b:List (Int×Int))(a:b.length<=9223372036854775807):aO 112 (gP js ms) (iv b) (B (decide (b.length=js.length)&&bi vI b)):=by
 refine Dp func112 λC hP hN=>?_
 with_reducible repeat' (first|refine Sp.h ?_|((first|refine Ss.h ?_|refine Sc.h (ik _ a) ?_|(refine Sb.h ?_ ?_ ?_<;>(try intro hgd)<;>try exact Xy))<;>simp -implicitDefEqProofs (maxSteps:=2000000) [hP,hN])|refine X2 ?_ ?_|(refine Xd ?_ ?_<;>intro hcd<;>try exact Xx))
 all_goals (simp_all<;>omega)
theorem Oh(js:List J)(ms:List Ms)(b:List (Int×Int))(k:js.length<=9223372036854775807)(m:ms.length<=9223372036854775807)(x:b.length<=9223372036854775807):aO 51 (gP js ms) (iv b) (Z (dP js ms b)):=by
 have p:=O9 js ms b x
 cases a:si js ms b with
 |false=>
  have n:dP js ms b=-1:=by simp[dP,a]
  rw[n];by_cases g:aW js ms=0
  .have f:(aW js ms !=0)=false:=by simp[g]
   have c:(decide (b.length=js.length)&&bi vI b)=false:=by simpa[si,g]using a
   rw[c]at p;refine Dp func51 λC hP hN=>?_;have s:=xq js ms k m;exact GS (gA g f)
  .have f:(aW js ms !=0)=true:=by simp[g]
   refine Dp func51 λC hP hN=>?_;have s:=xq js ms k m;exact GS f
 |true=>
  have n:dP js ms b=(ip js b js.length).1:=by simp[dP,a]
  rw[n];simp only[si,An,L4]at a;obtain⟨⟨v,u⟩,g⟩:=a
  have c:(decide (b.length=js.length)&&bi vI b)=true:=by simp[v,u]
  rw[c]at p;refine Dp func51 λC hP hN=>?_;have s:=xq js ms k m;refine GT g ?_;refine WP.loopN [] js.length (λi st=>st.t 1=.pv (iv b)/\st.t 2=.ptr 2 0/\st.h 2=some (.box [.pv (.sl (js.map bR)),.pv (.sl (ms.map dC))] true false)/\st.t 7=.pv (Z i)/\st.t 5=.pv (Z (ip js b i).1)/\st.t 6=.pv (Z (ip js b i).2)) (by simp[ip]) ?_;rintro i st hi ⟨g1,g2,y,E,g5,D⟩;by_cases e:i<js.length
  .have F:=am e k
   have d:i<b.length:=by omega
   have o:aw b[i].1 b[i].2=true:=mZ.1 u _ (Ul d)
   have B:i64.wrap (b[i].2-b[i].1)=dH b[i]:=by rw[dH,o];rfl
   have z:dH b[i]*js[i].w=js[i].w*dH b[i]:=Int.mul_comm _ _;by_cases q:2<=dH b[i]
   .by_cases r:(ip js b i).2<i64.wrap (js[i].w*dH b[i])
    .have j:=Cp e d ⟨q,r⟩
     exact Gy
     all_goals simp[j]
    .have j:=wF e d (λh=>r h.2)
     exact Gy
     all_goals simp[j]
   .have j:=wF e d (λh=>q h.1)
    exact Gy
    all_goals simp[j]
  .have l:i=js.length:=by omega
   subst l
   have A:¬js.length<b.length:=by omega
   exact Gy
abbrev Gc(cs:List Cel)(a:List Bx)(op:List Bool):PV:=.agg [.sl (cs.map bz),.sl (a.map iv),.sl (op.map B)]
def rX(k sort:Int)(o:Bool):Bool:=if sort=0 then k==1 else if sort=1 then(k==1||(k==0&&o))else if sort=2 then(k==1||(k==0&& !o))else k !=2
def sU(cs:List Cel)(op:List Bool)(sort:Int)(i:Nat):Bool:=match cs[i]? with
 |some c=>dA c&&rX c.v.kind sort (op[i]?.getD false)
 |none=>false
theorem RE(cs:List Cel)(r:List Bx)(op:List Bool)(i:Nat)(sort:Int)(hi:i<cs.length)(z:op.length=cs.length):mm 115 (Gc cs r op) (Z i) (Z sort) (B (sU cs op sort i)):=by
 generalize k:cs[i]=c at *
 have b:cs[i]?=some c:=by rw[an hi,k]
 have d:i<op.length:=by omega
 have e:op[i]?=some op[i]:=an d
 have s:sU cs op sort i=(dA c&&rX c.v.kind sort op[i]):=by simp[sU,b,e]
 rw[s];generalize m:op[i]=o at *;have cl:=Ki c
 cases l:dA c with
 |false=>
  rw[l]at cl;refine Dp func115 λC hP hN=>?_;exact Gy
 |true=>
  rw[l]at cl;by_cases n:sort=0
  .subst n
   refine Dp func115 λC hP hN=>?_;refine Gz ?_
   all_goals simp[rX]
  by_cases p:sort=1
  .subst p
   by_cases j:c.v.kind=1
   .have a:(c.v.kind==1)=true:=by simp[j]
    refine Dp func115 λC hP hN=>?_;refine GT (s4 hi b k d e a) ?_
    all_goals simp[rX,j]
   have a:(c.v.kind==1)=false:=by simp[j]
   by_cases g:c.v.kind=0
   .have f:(c.v.kind==0)=true:=by simp[g]
    refine Dp func115 λC hP hN=>?_
    with_reducible repeat' (first|refine Sp.h ?_|((first|refine Ss.h ?_|refine Sc.h (cl) ?_|(refine Sb.h ?_ ?_ ?_<;>(try intro hgd)<;>try exact Xy))<;>simp -implicitDefEqProofs (maxSteps:=2000000) [hP,hN,hi,b,k,d,e,a,f])|refine X2 ?_ ?_|(refine Xd ?_ ?_<;>intro hcd<;>try exact Xx))
    all_goals simp[rX,g,m]
   have f:(c.v.kind==0)=false:=by simp[g]
   refine Dp func115 λC hP hN=>?_;refine Gz ?_
   all_goals simp[rX,j,g]
  by_cases q:sort=2
  .subst q
   by_cases j:c.v.kind=1
   .have a:(c.v.kind==1)=true:=by simp[j]
    refine Dp func115 λC hP hN=>?_;refine GT (s4 hi b k d e a) ?_
    all_goals simp[rX,j]
   have a:(c.v.kind==1)=false:=by simp[j]
   by_cases g:c.v.kind=0
   .have f:(c.v.kind==0)=true:=by simp[g]
    refine Dp func115 λC hP hN=>?_
    with_reducible repeat' (first|refine Sp.h ?_|((first|refine Ss.h ?_|refine Sc.h (cl) ?_|(refine Sb.h ?_ ?_ ?_<;>(try intro hgd)<;>try exact Xy))<;>simp -implicitDefEqProofs (maxSteps:=2000000) [hP,hN,hi,b,k,d,e,a,f])|refine X2 ?_ ?_|(refine Xd ?_ ?_<;>intro hcd<;>try exact Xx))
    all_goals simp[rX,g,m]
   have f:(c.v.kind==0)=false:=by simp[g]
   refine Dp func115 λC hP hN=>?_;refine Gz ?_
   all_goals simp[rX,j,g]
  have u:(sort==0)=false:=by simp[n]
  have x:(sort==1)=false:=by simp[p]
  have y:(sort==2)=false:=by simp[q]
  refine Dp func115 λC hP hN=>?_;refine Gz ?_
  all_goals simp[rX,n,p,q]
def iF(a:List Bx)(i:Nat):Bx:=a[i]?.getD []
def aq(a:List Bx)(p:List Int)(i:Nat):Bool:=jU (iF a i) p
def de(a:List Bx)(i j:Nat):Bool:=bn (iF a i) (iF a j)
theorem rj{has:Nat->Bool}{s:BS}(h:BInv2 n may has tch s)(hi:i<n):s.far[i]?=some (au s.far i):=by
 have:i<s.far.length:=by rw[h.len];exact hi
 simp[au,an this]
theorem Kj{s:BS}(h:k<s.q.length):s.q[k]?=some (cK s k):=by simp[cK,an h]
theorem N3{s:BS}(h:k<s.q.length):cK s k∈s.q:=Is (Kj h)
theorem Tp(cs:List Cel)(v:List Bx)(op:List Bool)(p q:List Int)(sort:Int)(hn:cs.length<=2048)(hb:v.length=cs.length)(ho:op.length=cs.length)(ek:∀b∈v,b.length<=9223372036854775807)(hp:p.length<=9223372036854775807)(hq:q.length<=9223372036854775807)(cq:∀i j,i<cs.length->j<cs.length->de v i j=de v j i):zS 55 (Gc cs v op) (zs p) (zs q) (Z sort) (.tup [ns (eI cs.length (sU cs op sort) (aq v q) (aq v p) (de v)),B (aX cs.length (sU cs op sort) (aq v q) (aq v p) (de v))]):=by
 have K:∀i,i<cs.length->v[i]?=some (iF v i)/\(iF v i).length<=9223372036854775807:=λi hi=>by
  have F:i<v.length:=by omega
  have e:v[i]?=some (iF v i):=by simp[iF,an F]
  exact⟨e,ek _ (Is e)⟩
 have cm:=λi hi=>RE cs v op i sort hi ho;have cr:=λ(i:Nat)(hi:i<cs.length)=>JU (iF v i) p (K i hi).2 hp;have ct:=λ(i:Nat)(hi:i<cs.length)=>JU (iF v i) q (K i hi).2 hq;have cu:=λ(i j:Nat)(hi:i<cs.length)(hj:j<cs.length)=>Py (iF v i) (iF v j) (K i hi).2 (K j hj).2;simp only[El]at cr ct;simp only[GM]at cu;have cW:∀i,i<cs.length->bf prog 54 [.pv (iv (iF v i)),.pv (zs p)] [] [] (.pv (B (aq v p i))):=cr;have c0:∀i,i<cs.length->bf prog 54 [.pv (iv (iF v i)),.pv (zs q)] [] [] (.pv (B (aq v q i))):=ct;have cj:∀i j,i<cs.length->j<cs.length->bf prog 116 [.pv (iv (iF v i)),.pv (iv (iF v j))] [] [] (.pv (B (de v i j))):=cu;clear cr ct cu;generalize sU cs op sort=may at *;generalize aq v p=hasF at *;generalize aq v q=has at *;generalize de v=tch at *;generalize ez:cs.length=n at *
 have W:∀i,i<n->i<v.length:=λi hi=>by omega
 have N:∀i(hi:i<n),v[i]'(W i hi)=iF v i:=λi hi=>bZ (K i hi).1 (W i hi);refine Dp func55 λC hP hN=>?_;refine sh [12] (it ez (show(8:Int)*n<=281474976710656 by omega) (show(n:Int)<=281474976710656 by omega) (show(n:Int)<=9223372036854775807 by omega)) ?_;refine WP.loopN [] n (λi st=>st.t 1=.pv (zs p)/\st.t 2=.pv (zs q)/\st.t 3=.pv (Z sort)/\st.t 4=.ptr 4 0/\st.t 10=.pv (Z n)/\st.t 11=.arr 25 n/\st.t 12=.arr 12 (bI n may has i).q.length/\st.t 13=.pv (Z i)/\st.h 4=some (.box [.pv (.sl (cs.map bz)),.pv (.sl (v.map iv)),.pv (.sl (op.map B))] true false)/\st.h 142=none/\st.h 12=some (.row 3 1 ((bI n may has i).q.map zN) 0)/\st.h 25=some (.row 3 1 ((bI n may has i).far.map Z) 0)) (by simp[bI]) ?_;rintro i st hi ⟨g1,g2,g3,g4,g,l,O,c3,o,c,H,d⟩;obtain⟨hI,eb⟩:=tz (n:=n) (may:=may) (has:=has) (tch:=tch) i hi;have c8:=hI.le;have c5:=hI.len;by_cases G:i<n
 .have hw:=am G (by omega)
  have F:=W i G;have I:=(K i G).1;have x:=N i G
  have f:bI n may has (i+1)=if may i&&has i then⟨(bI n may has i).far.set i 1,(bI n may has i).q++[i]⟩else bI n may has i:=rfl
  generalize bI n may has i=s at *;have c1:=cm i G;have c2:=c0 i G
  cases hm:may i with
  |false=>
   rw[hm]at c1;rw[hm,UB,TZ (by simp)]at f;exact Gy
   all_goals simp[f]
  |true=>
   rw[hm]at c1
   cases hh:has i with
   |false=>
    rw[hh]at c2;rw[hm,hh,TZ (by simp)]at f;exact Gy
    all_goals simp[f]
   |true=>
    rw[hh]at c2;rw[hm,hh,T6 (by simp)]at f
    with_reducible repeat' (first|refine Sp.h ?_|((first|refine Wd ?_|refine Ss.h ?_|refine Sc.h (c1) ?_|refine Sc.h (c2) ?_|(refine Sb.h ?_ ?_ ?_<;>(try intro hgd)<;>try exact Xy))<;>simp -implicitDefEqProofs (maxSteps:=2000000) [hP,hN,g1,g2,g3,g4,g,l,O,c3,o,c,H,d,G,hw,F,I,x,c5,show(s.q.length+1)*8<=140737488355328 by omega,show s.q.length+1<=9223372036854775807 by omega]<;>try refine Ya ?_)|refine X2 ?_ ?_|(refine Xd ?_ ?_<;>intro hcd<;>try exact Xx))
    all_goals (simp[f,Vv])
 have el:i=n:=by omega
 subst el;refine Gz ?_;clear eb c5 c8 hI;refine WP.loopN [] i (λk st=>st.t 1=.pv (zs p)/\st.t 2=.pv (zs q)/\st.t 3=.pv (Z sort)/\st.t 4=.ptr 4 0/\st.t 10=.pv (Z i)/\st.t 11=.arr 25 i/\st.t 12=.arr 12 (bK i may has tch k).q.length/\st.t 14=.pv (Z k)/\st.h 4=some (.box [.pv (.sl (cs.map bz)),.pv (.sl (v.map iv)),.pv (.sl (op.map B))] true false)/\st.h 142=none/\st.h 12=some (.row 3 1 ((bK i may has tch k).q.map zN) 0)/\st.h 25=some (.row 3 1 ((bK i may has tch k).far.map Z) 0)/\(k<=(bK i may has tch k).q.length)) (by simp[bK,g1,g2,g3,g4,g,l,O,o,c,H,d]) ?_;clear g1 g2 g3 g4 g l O c3 o c H d st hi G;rintro k st hk ⟨g1,g2,g3,g4,g,l,O,cb,o,c,H,d,fj⟩;have hI:=rW (n:=i) (may:=may) (has:=has) (tch:=tch) k;by_cases G:k<(bK i may has tch k).q.length
 .have c8:=hI.le
  have ep:k<i:=by omega
  have e1:i64.wrap ((k:Int)+1)=(k:Int)+1:=aa
  have eS:bK i may has tch (k+1)=bJ may tch (bK i may has tch k) k i:=by simp only[bK];rw[T6 G]
  rw[eS];generalize hS:bK i may has tch k=S at *
  with_reducible repeat' (first|refine Sp.h ?_|((first|refine Wd ?_|refine Ss.h ?_|(refine Sb.h ?_ ?_ ?_<;>(try intro hgd)<;>try exact Xy))<;>simp -implicitDefEqProofs (maxSteps:=2000000) [hP,hN,g1,g2,g3,g4,g,l,O,cb,o,c,H,d,G]<;>try refine Ya ?_)|refine X2 ?_ ?_|(refine Xd ?_ ?_<;>intro hcd<;>try exact Xx))
  refine WP.loopN [] i (λj st=>st.t 1=.pv (zs p)/\st.t 2=.pv (zs q)/\st.t 3=.pv (Z sort)/\st.t 4=.ptr 4 0/\st.t 10=.pv (Z i)/\st.t 11=.arr 25 i/\st.t 12=.arr 12 (bJ may tch S k j).q.length/\st.t 14=.pv (Z k)/\st.t 15=.pv (Z j)/\st.h 4=some (.box [.pv (.sl (cs.map bz)),.pv (.sl (v.map iv)),.pv (.sl (op.map B))] true false)/\st.h 142=none/\st.h 12=some (.row 3 1 ((bJ may tch S k j).q.map zN) 0)/\st.h 25=some (.row 3 1 ((bJ may tch S k j).far.map Z) 0)) (by simp[bJ,g1,g2,g3,g4,g,l,O,cb,o,c,H,d]) ?_;rintro j fQ hj ⟨y1,y2,y3,y4,b4,b5,b7,b8,b9,ca,L,Y,ad⟩;obtain⟨hJ,e8,e9⟩:=zQ hI G j hj;have e3:=hJ.le;have cd:=hJ.len;by_cases u:j<i
  .have M:=am u (by omega)
   have f:bJ may tch S k (j+1)=if xI may tch (bJ may tch S k j) k j then pU (bJ may tch S k j) k j else bJ may tch S k j:=rfl
   generalize bJ may tch S k j=T at *;have J:=rj hJ u
   have z:j<T.far.length:=by omega
   have E:=bZ J z
   have b3:k<T.q.length:=by omega
   have cS:=Kj b3;have cp:=bZ cS b3;have a8:=hJ.mem _ (N3 b3);have ec:=a8.1;have cM:=rj hJ a8.1
   have b0:cK T k<T.far.length:=by omega
   have cn:=bZ cM b0;have cf:xI may tch T k j=((au T.far j==0)&&may j&&tch j (cK T k)):=rfl;have en:pU T k j=⟨T.far.set j (au T.far (cK T k)+1),T.q++[j]⟩:=rfl;have e6:=hJ.top (cK T k);have e5:=hJ.nn (cK T k);have e0:i64.wrap (au T.far (cK T k)+1)=au T.far (cK T k)+1:=aa;generalize au T.far (cK T k)=fk at *;generalize fm:cK T k=Q at *;have c1:=cm j u;have c2:=cj j Q u a8.1;have F:=W j u;have I:=(K j u).1;have x:=N j u;have bc:=W Q a8.1;have bq:=(K Q a8.1).1;have U:=N Q a8.1;by_cases h0:au T.far j=0
   .have a1:(au T.far j==0)=true:=by simp[h0]
    cases hm:may j with
    |false=>
     rw[hm]at c1;rw[cf,hm,Vl,UB,TZ (by simp)]at f;refine GT (zAe y1 y2 y3 y4 b4 b5 b7 b8 b9 ca L Y ad u (s4 M J E z cd a1)) ?_
     all_goals simp[f]
    |true=>
     rw[hm]at c1
     cases ht:tch j Q with
     |false=>
      rw[ht]at c2;rw[cf,ht,Vl,TZ (by simp)]at f;refine GT (zAe y1 y2 y3 y4 b4 b5 b7 b8 b9 ca L Y ad u (zAe M J E z cd a1 cS cp b3 F I x bc bq (it U cM cn b0))) ?_
      all_goals simp[f]
     |true=>
      rw[ht]at c2;rw[cf,ht,hm,a1,T6 (by simp),en]at f;refine GT (zAe y1 y2 y3 y4 b4 b5 b7 b8 b9 ca L Y ad u (zAe M J E z cd a1 cS cp b3 F I x bc bq (zAb U cM cn b0 ec e0 (show(T.q.length+1)*8<=140737488355328 by omega) (show T.q.length+1<=9223372036854775807 by omega)))) ?_
      all_goals (simp[f,Vv])
   .have a1:(au T.far j==0)=false:=by simp[h0]
    rw[cf,a1,UB,UB,TZ (by simp)]at f;refine GT (zAe y1 y2 y3 y4 b4 b5 b7 b8 b9 ca L Y ad u (s4 M J E z cd a1)) ?_
    all_goals simp[f]
  .have cN:j=i:=by omega
   subst cN;refine GT (zAe y1 y2 y3 y4 b4 b5 b7 b8 b9 ca L Y ad u e1) ?_
   all_goals exact⟨ep,by omega⟩
 .have dd:bK i may has tch i=bK i may has tch k:=by
   have:=EZ G (i-k);rw[show k+(i-k)=i by omega]at this;exact this
  have cB:lr i may has hasF tch=aS (bK i may has tch k).far hasF i:=by unfold lr;rw[dd]
  have ei:eI i may has hasF tch=if aX i may has hasF tch then(List.range (au (bK i may has tch k).far (lr i may has hasF tch).toNat).toNat).map (pS i (bK i may has tch k).far tch (lr i may has hasF tch).toNat)else[]:=by unfold eI;rw[dd]
  generalize hS:bK i may has tch k=S at *;have V:=hI.len;have e4:=hI.le
  with_reducible repeat' (first|refine Sp.h ?_|((first|refine Wd ?_|refine Ss.h ?_|(refine Sb.h ?_ ?_ ?_<;>(try intro hgd)<;>try exact Xy))<;>simp -implicitDefEqProofs (maxSteps:=2000000) [hP,hN,g1,g2,g3,g4,g,l,O,cb,o,c,H,d,G]<;>try refine Ya ?_)|refine X2 ?_ ?_|(refine Xd ?_ ?_<;>intro hcd<;>try exact Xx))
  refine WP.loopN [] i (λj st=>st.t 1=.pv (zs p)/\st.t 4=.ptr 4 0/\st.t 10=.pv (Z i)/\st.t 11=.arr 25 i/\st.h 4=some (.box [.pv (.sl (cs.map bz)),.pv (.sl (v.map iv)),.pv (.sl (op.map B))] true false)/\st.h 25=some (.row 3 1 (S.far.map Z) 0)/\st.t 16=.pv (Z (aS S.far hasF j))/\st.t 17=.pv (Z j)/\st.h 142=none) (by simp[aS,g1,g4,g,l,o,c,d]) ?_;clear g1 g2 g3 g4 g l O cb o c H d st;rintro j st hj ⟨g1,g4,g,l,o,d,D,ar,c⟩;have hA:=we (hasF:=hasF) (far:=S.far) j;by_cases u:j<i
  .have M:=am u (by omega)
   have J:=rj hI u
   have z:j<S.far.length:=by omega
   have E:=bZ J z;have c2:=cW j u;have F:=W j u;have I:=(K j u).1;have x:=N j u
   have f:aS S.far hasF (j+1)=if decide (0<au S.far j)&&hasF j&&(decide (aS S.far hasF j<0)||decide (au S.far j<au S.far (aS S.far hasF j).toNat))then(j:Int)else aS S.far hasF j:=rfl
   generalize aS S.far hasF j=A at *;by_cases h0:0<au S.far j
   .cases hh:hasF j with
    |false=>
     rw[hh]at c2;rw[hh,Vl,UB,TZ (by simp)]at f;refine GT (zAe g1 g4 g l o d D ar c u M J E z (so V h0 F I x)) ?_
     all_goals simp[f]
    |true=>
     rw[hh]at c2;by_cases a7:A<0
     .rw[hh,T6 (by simp[h0,a7])]at f
      refine GT (zAe g1 g4 g l o d D ar c u M J E z (s4 V h0 F I x a7)) ?_
      all_goals simp[f]
     .have c4:0<=A:=by omega
      have cw:A.toNat<i:=by omega
      have cx:A.toNat<S.far.length:=by omega
      have cH:=rj hI cw;have ck:=bZ cH cx;by_cases a6:au S.far j<au S.far A.toNat
      .rw[hh,T6 (by simp[h0,a6])]at f
       refine GT (zAe g1 g4 g l o d D ar c u M J E z (zAd V h0 F I x a7 c4 cw cx cH ck a6)) ?_
       all_goals simp[f]
      .rw[hh,TZ (by simp[a6];omega)]at f
       refine GT (zAe g1 g4 g l o d D ar c u M J E z (zAd V h0 F I x a7 c4 cw cx cH ck a6)) ?_
       all_goals simp[f]
   .rw[TZ (by simp[h0])]at f
    refine GT (zAe g1 g4 g l o d D ar c u M J E z (gA V h0)) ?_
    all_goals simp[f]
  have cN:j=i:=by omega
  subst cN;rw[ei];unfold aX;rw[cB];generalize e7:aS S.far hasF j=A at *;by_cases a7:A<0
  .have eA:decide (0<=A)=false:=by simp;omega
   rw[eA,TZ (by simp)];exact Gy
  obtain⟨a,rfl⟩:=Vm (show 0<=A by omega)
  have ea:decide (0<=(a:Int))=true:=by simp
  rw[ea,T6 rfl,Uh]
  have ee:a<j:=by omega
  have cz:0<au S.far a:=by have:=(hA.2.2 (by omega)).1;rwa [Uh]at this
  have ef:=hI.top a;have eB:=wX hI cq ee cz;refine sh [142] (zAc g1 g4 g l o d D ar c (gA u a7)) ?_;refine WP.loopN [] (au S.far a-1).toNat (λr st=>st.t 1=.pv (zs p)/\st.t 4=.ptr 4 0/\st.t 10=.pv (Z j)/\st.t 11=.arr 25 j/\st.h 4=some (.box [.pv (.sl (cs.map bz)),.pv (.sl (v.map iv)),.pv (.sl (op.map B))] true false)/\st.h 25=some (.row 3 1 (S.far.map Z) 0)/\st.t 16=.pv (Z (pS j S.far tch a r))/\st.t 18=.arr 142 (r+1)/\st.h 142=some (.row 3 1 (((List.range (r+1)).map (pS j S.far tch a)).map zN) 0)) (by simp[pS,g1,g4,g,l,o,d,D]) ?_;clear g1 g4 g l o c d D ar st;rintro r st hr ⟨g1,g4,g,l,o,d,D,R,c⟩;obtain⟨u1,u2⟩:=eB r (by omega);have eW:pS j S.far tch a (r+1)=Br j S.far tch (pS j S.far tch a r):=rfl;have c9:(List.range (r+1)).map (pS j S.far tch a)++[pS j S.far tch a (r+1)]=(List.range (r+2)).map (pS j S.far tch a):=F8 _ (r+1);have cg:=rj hI u1
  have a2:pS j S.far tch a r<S.far.length:=by omega
  have b1:=bZ cg a2;by_cases fr:r<(au S.far a-1).toNat
  .have c7:1<au S.far (pS j S.far tch a r):=by omega
   obtain⟨x1,x2,x3,x4⟩:=zR hI cq u1 c7;have fM:i64.wrap ((j:Int)-1)=(j:Int)-1:=aa;rw[eW]at c9|-;generalize fi:pS j S.far tch a r=P at *;refine Gz ?_;refine WP.loopN [] j (λm st=>st.t 1=.pv (zs p)/\st.t 4=.ptr 4 0/\st.t 10=.pv (Z j)/\st.t 11=.arr 25 j/\st.h 4=some (.box [.pv (.sl (cs.map bz)),.pv (.sl (v.map iv)),.pv (.sl (op.map B))] true false)/\st.h 25=some (.row 3 1 (S.far.map Z) 0)/\st.t 16=.pv (Z P)/\st.t 18=.arr 142 (r+1)/\st.t 19=.pv (Z (nS j S.far tch P m))/\st.t 20=.pv (Z ((j:Int)-1-m))/\st.h 142=some (.row 3 1 (((List.range (r+1)).map (pS j S.far tch a)).map zN) 0)) (by simp[nS,g1,g4,g,l,o,d,D,R,c]) ?_;clear g1 g4 g l o c d D R st;rintro m st hm ⟨g1,g4,g,l,o,d,D,R,ba,bb,c⟩;by_cases cP:m<j
   .obtain⟨y,hy⟩:∃y:Nat,y=j-1-m:=⟨_,rfl⟩
    have e2:(j:Int)-1-m=(y:Int):=by omega
    have X:y<j:=by omega
    rw[e2]at bb
    have cU:i64.wrap ((y:Int)-1)=(j:Int)-1-((m:Int)+1):=by rw[show(j:Int)-1-((m:Int)+1)=(y:Int)-1 by omega];exact aa (by omega) (by omega)
    have f:nS j S.far tch P (m+1)=if nC S.far tch P y then(y:Int)else nS j S.far tch P m:=by simp only[nS];rw[<-hy]
    have cQ:nC S.far tch P y=((au S.far y==au S.far P-1)&&tch y P):=rfl;have ch:=rj hI X
    have a5:y<S.far.length:=by omega
    have b2:=bZ ch a5;have cV:i64.wrap (au S.far P-1)=au S.far P-1:=aa;have F:=W y X;have I:=(K y X).1;have x:=N y X;have bc:=W P u1;have bq:=(K P u1).1;have U:=N P u1;have c2:=cj y P X u1
    cases bH:(au S.far y==au S.far P-1)with
    |false=>
     rw[cQ,bH,UB,TZ (by simp)]at f;refine GT (zAe g1 g4 g l o d D R ba bb c cP X cU (zAc ch b2 a5 cg b1 a2 u1 V cV bH)) ?_
     all_goals simp[f]
    |true=>
     cases ht:tch y P with
     |false=>
      rw[ht]at c2;rw[cQ,ht,Vl,TZ (by simp)]at f;refine GT (zAe g1 g4 g l o d D R ba bb c cP X cU (zAe ch b2 a5 cg b1 a2 u1 V cV bH F I x bc (gA bq U))) ?_
      all_goals simp[f]
     |true=>
      rw[ht]at c2;rw[cQ,ht,bH,T6 (by simp)]at f;refine GT (zAe g1 g4 g l o d D R ba bb c cP X cU (zAe ch b2 a5 cg b1 a2 u1 V cV bH F I x bc (gA bq U))) ?_
      all_goals simp[f]
   .have er:m=j:=by omega
    subst er
    have et:¬(0:Int)<=(m:Int)-1-m:=by omega
    rw[x1]at ba;refine GT (zAd g1 g4 g l o d D R ba bb c (be et (show(r+1+1)*8<=140737488355328 by omega) (show r+1+1<=9223372036854775807 by omega))) ?_
    all_goals exact⟨by omega,by simpa using Vt (List.map zN) c9⟩
  .have eN:r+1=(au S.far a).toNat:=by omega
   have c7:¬1<au S.far (pS j S.far tch a r):=by omega
   rw[eN]at c R;exact Gy
theorem Nb(l:aK t=true):∀i j,i<t.cells.length->j<t.cells.length->de (al t) i j=de (al t) j i:=by
 have key:∀{a b:Bx},bi vI a=true->bi vI b=true->bn a b=true->bn b a=true:=by
  intro a b e f h;obtain⟨c,d⟩:=(nF e f).1 h;exact(nF f e).2 ⟨c.symm,λi x y m n=>(d i y x n m).symm⟩
 intro i j hi q;have k:=fL l
 have c:(al t)[i]?=some (iF (al t) i):=by simp[iF,an (by omega:i<(al t).length)]
 have d:(al t)[j]?=some (iF (al t) j):=by simp[iF,an (by omega:j<(al t).length)]
 have o:=key (kx c).2 (kx d).2;have p:=key (kx d).2 (kx c).2;simp only[de]at *
 cases h:bn (iF (al t) i) (iF (al t) j)with
 |true=>rw[o h]
 |false=>
  cases g:bn (iF (al t) j) (iF (al t) i)with
  |true=>rw[p g]at h;cases h
  |false=>rfl
theorem yz(m:aK t=true){c:Cel}(g:t.cells[i]?=some c):decide (c.low=-1)=dA c:=by
 obtain⟨L,hL⟩:=Ut.1 m
 have hp:=jP (P:=λk _=>i<k->decide (c.low=-1)=dA c) hL (by intro h;omega) (λk d M n f hp l hi=>by
  by_cases e:k=i
  .subst e
   rw[g]at f;injection f with f;subst f;obtain⟨b,o,⟨a,_,_⟩|⟨a,j,_⟩⟩:=ig l
   .rw[a];simp[dA]at a;simp[a]
   .rw[a]
    have:=iV.1 j;simp;omega
  .exact hp (by omega))
 exact hp (th.1 g).1
abbrev uV(l:List Nat):PV:=.sl (l.map λn:Nat=>Z (n:Int))
structure Spc where
 root:Bx
 cells:List Cel
 bx:List Bx
 near:List (List Nat)
 jn:List Int
 cc:Bool:=false
variable {s:Spc}
abbrev SI(s:Spc):PV:=.agg [iv s.root,.sl (s.cells.map bz),.sl (s.bx.map iv),.sl (s.near.map uV),.sl (s.jn.map Z)]
abbrev nu(s:Spc):PV:=.rptr (SI s) 0
def ab(s:Spc)(v:Nat):List Nat:=(s.near[v]?).getD []
def aj(s:Spc)(i:Nat):Cel:=(s.cells[i]?).getD (aD br)
def dy(s:Spc)(i:Nat):Int:=(s.jn[i]?).getD 0
def bo(s:Spc)(f:Int->Int->Bool)(i:Nat):Bool:=decide ((aj s i).low=-1)&&f (aj s i).v.kind (dy s i)
def aA(s:Spc)(i:Nat):Bx:=(s.bx[i]?).getD []
def iE(near:List (List Nat)):List AV:=(List.range near.length).map λv=>.arr (v+300) ((near[v]?).getD []).length
abbrev dD:AV:=.pv (.val (.slice none 0 0))
def mt(s:Spc):AV:=match s.cc with
 |true=>.pv (.sl (s.cells.map bz))
 |false=>.arr 291 s.cells.length
theorem sr(h:s.cc=false):mt s=.arr 291 s.cells.length:=by unfold mt;rw[h]
theorem NI(h:s.cc=true):mt s=.pv (.sl (s.cells.map bz)):=by unfold mt;rw[h]
theorem LX(s:Spc):rl (mt s)=true:=by unfold mt;split<;>rfl
theorem CH{ks:List Nat}(h:ks.contains 291=false):bB ks (mt s)=false:=by
 unfold mt;split
 .rfl
 .simpa[bB,aL]using h
def bt(own:Bool)(s:Spc)(c:Nat):Hp:=λk=>
 if k=290 then some (.box [.pv (iv s.root),mt s,.arr 292 s.bx.length,.ext (.barr 293 s.near.length (s.near.length+c)),.arr 294 s.jn.length] own false)
 else if k=291 then(match s.cc with
  |true=>none
  |false=>some (.row 58 8 (s.cells.map bz) 0))
 else if k=292 then some (.row 39 1 (s.bx.map iv) 0)
 else if k=293 then some (.box (iE s.near++List.replicate c dD) true false)
 else if k=294 then some (.row 3 1 (s.jn.map Z) 0)
 else if 300<=k/\k<300+s.near.length then some (.row 3 1 ((ab s (k-300)).map λn:Nat=>Z (n:Int)) 0)
 else none
theorem cT(near:List (List Nat)):(iE near).length=near.length:=by simp[iE]
theorem mF(h:v<near.length):(iE near)[v]?=some (.arr (v+300) ((near[v]?).getD []).length):=by simp[iE,h]
theorem oG(own:Bool)(s:Spc)(c:Nat):bt own s c 290=some (.box [.pv (iv s.root),mt s,.arr 292 s.bx.length,.ext (.barr 293 s.near.length (s.near.length+c)),.arr 294 s.jn.length] own false):=rfl
theorem rc(own:Bool)(s:Spc)(c:Nat)(h:s.cc=false):bt own s c 291=some (.row 58 8 (s.cells.map bz) 0):=by
 unfold bt;rw[TZ (by omega),T6 rfl,h]
theorem rd(own:Bool)(s:Spc)(c:Nat):bt own s c 292=some (.row 39 1 (s.bx.map iv) 0):=rfl
theorem oH(own:Bool)(s:Spc)(c:Nat):bt own s c 293=some (.box (iE s.near++List.replicate c dD) true false):=rfl
theorem tf(own:Bool)(s:Spc)(c:Nat):bt own s c 294=some (.row 3 1 (s.jn.map Z) 0):=rfl
theorem l9{own:Bool}(h:v<s.near.length):bt own s c (v+300)=some (.row 3 1 ((ab s v).map λn:Nat=>Z (n:Int)) 0):=by
 unfold bt;rw[TZ (by omega),TZ (by omega),TZ (by omega),TZ (by omega),TZ (by omega),T6 (by omega),Nat.add_sub_cancel]
theorem G4{own:Bool}(h:295<=k):bt own s c k=none\/∃xs,bt own s c k=some (.row 3 1 xs 0):=by
 unfold bt;rw[TZ (by omega),TZ (by omega),TZ (by omega),TZ (by omega),TZ (by omega)];split
 .exact .inr ⟨_,rfl⟩
 .exact .inl rfl
theorem oI{own:Bool}(h:s.near.length<=4096):LookH (bt own s c):=by
 have cases:∀{k b},bt own s c k=some b->(k=290/\b=.box [.pv (iv s.root),mt s,.arr 292 s.bx.length,.ext (.barr 293 s.near.length (s.near.length+c)),.arr 294 s.jn.length] own false)\/(k=293/\b=.box (iE s.near++List.replicate c dD) true false)\/(290<=k/\k<1000000/\∃e sz xs,b=.row e sz xs 0):=by
  intro k b a;unfold bt at a;split at a
  .rename_i e;injection a with a;exact .inl ⟨e,a.symm⟩
  .split at a
   .split at a
    .cases a
    .injection a with a;exact .inr (.inr ⟨by omega,by omega,_,_,_,a.symm⟩)
   .split at a
    .injection a with a;exact .inr (.inr ⟨by omega,by omega,_,_,_,a.symm⟩)
    .split at a
     .rename_i e;injection a with a;exact .inr (.inl ⟨e,a.symm⟩)
     .split at a
      .injection a with a;exact .inr (.inr ⟨by omega,by omega,_,_,_,a.symm⟩)
      .split at a
       .injection a with a;exact .inr (.inr ⟨by omega,by omega,_,_,_,a.symm⟩)
       .cases a
 have g:∀k,290<=k->k<1000000->inK k=true:=λk i j=>by simp[inK,i,j]
 refine⟨λk b a=>?_,λk b o a=>?_,λk b a=>?_,λk m o f a=>?_⟩
 .rcases cases a with⟨rfl,_⟩|⟨rfl,_⟩|⟨i,j,_⟩
  .rfl
  .rfl
  .exact g k i j
 .rcases cases a with⟨_,rfl⟩|⟨_,rfl⟩|⟨_,_,e,sz,xs,rfl⟩
  all_goals simp[Blk.frz]
 .rcases cases a with⟨_,rfl⟩|⟨_,rfl⟩|⟨_,_,e,sz,xs,rfl⟩<;>rfl
 .rcases cases a with⟨_,e⟩|⟨_,e⟩|⟨_,_,e,sz,xs,l⟩
  .injection e with e;subst e
   intro x d;simp only[Uq,Uw,UV]at d
   rcases d with rfl|rfl|rfl|rfl|rfl<;>first|exact LX s|rfl
  .injection e with e;subst e
   intro x d;rcases Uf.1 d with d|d
   .simp only[iE,Uo,UE]at d
    obtain⟨v,n,rfl⟩:=d;exact g (v+300) (by omega) (by omega)
   .rw[(List.mem_replicate.1 d).2];rfl
  .cases l
theorem Et{cs:List AV}{f:Bool}(h:bt false s c k=some (.box cs false f)):k=290:=by
 unfold bt at h;split at h
 .assumption
 .exfalso
  repeat' split at h
  all_goals cases h
theorem yh{rs:List ResultVar}{a:AV->Hp->Prop}{r:AV}{s':Spc}{c':Nat}(h1:mD P st rs=some r)(g:rl r=true)(e:s'.near.length<=4096)(hp:a r (bt false s' c'))(b:∀k,inK k=true->st.h k=bt false s' c' k):xP P rs (bt false s c) a st:=
 wi h1 g b (oI e) hp λk i f d=>by rw[Et d];exact⟨_,rfl⟩
theorem A7{own:Bool}{nr:List (List Nat)}(f:nr.length=s.near.length)(h1:k≠293)(a:∀v,k=v+300->v<s.near.length->nr[v]?=s.near[v]?):bt own {s with near:=nr} c k=bt own s c k:=by
 unfold bt;simp only[f];by_cases e:300<=k/\k<300+s.near.length
 .have b:=a (k-300) (by omega) (by omega)
  have d:ab {s with near:=nr} (k-300)=ab s (k-300):=by simp only[ab,b]
  simp only[TZ h1,d];rfl
 .simp only[TZ h1,TZ e]
  rfl
theorem iD{l:List α}{x:α}(h:l[i]?=some x)(hi:i<l.length):l[i]'hi=x:=(th.1 h).2
def fG(s:Spc)(a b:Nat):Spc:=if bn (aA s a) (aA s b)then{s with near:=(s.near.set a (ab s a++[b])).set b (ab s b++[a])}else s
theorem Iw{a b:Nat}{x y:List Nat}(f:a≠b):iE ((near.set a x).set b y)=((iE near).set a (.arr (a+300) x.length)).set b (.arr (b+300) y.length):=by
 apply UF;intro v;simp only[iE,Vo];by_cases d:v<near.length
 .by_cases c:b=v
  .subst c
   simp[T9,d]
  .by_cases e:a=v
   .subst e
    simp[T9,d,c]
   .simp[T9,d,e,c]
 .rw[Ua (by simp;omega),Ua (by simp;omega)]
theorem Sy(s:Spc)(c a b:Nat)(hn:s.near.length<=4096)(u:a<s.near.length)(z:b<s.near.length)(j:a≠b)(Y:s.bx.length=s.near.length)(N:∀x∈s.bx,x.length<=9223372036854775807)(B:∀v,(ab s v).length<=4096):
 nH prog 80 [.ptr 290 0,.pv (Z a),.pv (Z b)] (bt false s c) (λ_ X=>X=bt false (fG s a b) c):=by
 have l:s.bx[a]?=some (aA s a):=by simp[aA,an (by omega:a<s.bx.length)]
 have A:s.bx[b]?=some (aA s b):=by simp[aA,an (by omega:b<s.bx.length)]
 have U:=Po (aA s a) (aA s b) (N _ (Is l))
 have f:a<s.bx.length:=by omega
 have g:b<s.bx.length:=by omega
 have p:=iD l f;have r:=iD A g;have m:=oG false s c;have n:=rd false s c;have o:=oH false s c;refine Gi func80 (oI (by omega)) ?_;intro C hP hN;simp only[f80]at hN|-
 cases D:bn (aA s a) (aA s b)with
 |false=>
  rw[D]at U
  have P:fG s a b=s:=by simp[fG,D]
  rw[P];generalize I:bt false s c=H at *;refine GT (zAb @sW.eq_1 m n f g l A (gA p r)) ?_;subst I;exact yh (s':=s) (c':=c) rfl rfl hn rfl (λ_ _=>rfl)
 |true=>
  rw[D]at U
  have P:fG s a b={s with near:=(s.near.set a (ab s a++[b])).set b (ab s b++[a])}:=by simp[fG,D]
  rw[P];have Q:=l9 (own:=false) (s:=s) (c:=c) u;have R:=l9 (own:=false) (s:=s) (c:=c) z;obtain⟨d,i⟩:∃d,d=iE s.near++List.replicate c dD:=⟨_,rfl⟩
  have O:d.length=s.near.length+c:=by rw[i];simp[cT]
  have S:d[a]?=some (.arr (a+300) (ab s a).length):=by rw[i,T1 (by rw[cT];exact u),mF u];rfl
  have T:d[b]?=some (.arr (b+300) (ab s b).length):=by rw[i,T1 (by rw[cT];exact z),mF z];rfl
  have E:∀h,d[a]'h=.arr (a+300) (ab s a).length:=λh=>iD S h;have F:∀h,d[b]'h=.arr (b+300) (ab s b).length:=λh=>iD T h;have sa:∀x,d.take a++x::d.drop (a+1)=d.set a x:=λx=>qw (by omega);have sb:∀x y,(d.set a x).take b++y::(d.set a x).drop (b+1)=(d.set a x).set b y:=λx y=>qw (by simp;omega)
  have J:a+1<=s.near.length+c:=by omega
  have L:b+1<=s.near.length+c:=by omega
  have K:a<s.near.length+c:=by omega
  have M:b<s.near.length+c:=by omega
  have q:¬b=a:=λe=>j e.symm;have la:=B a;have lb:=B b;rw[<-i]at o;generalize I:bt false s c=H at *;refine GH (zAe @sW.eq_1 m n o f g l A p r Q R O S (zAe T E F sa sb u z J L K M j q (show¬a+300=290 by omega) (zAd (show¬b+300=290 by omega) (show¬a+300=293 by omega) (show¬b+300=293 by omega) (show¬293=a+300 by omega) (show¬293=b+300 by omega) (show¬290=a+300 by omega) (show¬290=b+300 by omega) (show a+300<2000000 by omega) (show b+300<2000000 by omega) (show((ab s a).length+1)*8<=140737488355328 by omega) (show((ab s b).length+1)*8<=140737488355328 by omega) (gA (show(ab s a).length+1<=9223372036854775807 by omega) (show(ab s b).length+1<=9223372036854775807 by omega))))) ?_;subst I;refine yh (s':={s with near:=(s.near.set a (ab s a++[b])).set b (ab s b++[a])}) (c':=c) rfl rfl (by simp only[Vo];exact hn) rfl (λk hk=>?_);by_cases G:k=293
  .subst G
   rw[oH];simp only[Iw j];simp[ag,i,VS,cT,u,z,show¬293=a+300 by omega,show¬293=b+300 by omega]
  .by_cases V:k=b+300
   .subst V
    rw[l9 (by simp only[Vo];exact z)];simp[ag,ab,T9,z]
   .by_cases W:k=a+300
    .subst W
     rw[l9 (by simp only[Vo];exact u)];simp[ag,ab,T9,u,q,j]
    .rw[A7 (by simp) G (λv hv ad=>by rw[T9,TZ (by omega),T9,TZ (by omega)])]
     simp[ag,G,V,W]
def dE(s:Spc)(leaf:Nat)(joint:Int):Spc:=
 {root:=s.root,cells:=s.cells.set leaf ⟨joint,s.cells.length,s.cells.length+1,br⟩++[aD br,aD br],bx:=s.bx++[aT (aA s leaf) joint,aU (aA s leaf) joint],near:=s.near.set leaf []++[[],[]],jn:=s.jn++[-1,-1]}
def gQ(s:Spc)(k leaf:Nat):Spc:={s with near:=s.near.set k ((ab s k).erase leaf)}
def dl(low leaf:Nat)(s:Spc)(k:Nat):Spc:=fG (fG (gQ s k leaf) low k) (low+1) k
def bN(s:Spc)(leaf:Nat)(joint:Int):Spc:=fG ((ab s leaf).foldl (dl s.cells.length leaf) (dE s leaf joint)) s.cells.length (s.cells.length+1)
theorem kw{a b:Nat}(f:a≠b)(g:a<s.near.length)(i:b<s.near.length):ab (fG s a b) v=if bn (aA s a) (aA s b)=true/\(v=a\/v=b)then ab s v++[if v=a then b else a]else ab s v:=by
 unfold fG
 cases j:bn (aA s a) (aA s b)with
 |false=>simp
 |true=>
  by_cases c:v=b
  .subst c
   simp[ab,T9,i,show¬v=a from λe=>f e.symm]
  .by_cases d:v=a
   .subst d
    simp[ab,T9,g,c,show¬b=v from λe=>c e.symm]
   .simp[ab,T9,c,d,show¬b=v from λe=>c e.symm,show¬a=v from λe=>d e.symm]
theorem gM(s:Spc)(a b:Nat):(fG s a b).near.length=s.near.length/\(fG s a b).bx=s.bx/\(fG s a b).cells=s.cells/\(fG s a b).jn=s.jn/\(fG s a b).root=s.root:=by
 unfold fG;split<;>simp
theorem t8(a:k<s.near.length):ab (gQ s k leaf) v=if v=k then(ab s k).erase leaf else ab s v:=by
 unfold gQ;by_cases h:v=k
 .subst h;simp[ab,T9,a]
 .simp[ab,T9,h,show¬k=v from λe=>h e.symm]
theorem ss(low leaf:Nat)(s:Spc)(k:Nat):(dl low leaf s k).near.length=s.near.length/\(dl low leaf s k).bx=s.bx/\(dl low leaf s k).cells=s.cells/\(dl low leaf s k).jn=s.jn/\(dl low leaf s k).root=s.root:=by
 unfold dl;obtain⟨a,b,a3,a4,c⟩:=gM (fG (gQ s k leaf) low k) (low+1) k;obtain⟨d,e,f,g,i⟩:=gM (gQ s k leaf) low k;rw[a,b,a3,a4,c,d,e,f,g,i];simp[gQ]
theorem G5{low:Nat}(f:low+1<s.near.length)(e:k<low)(a:v≠k)(b:v≠low)(c:v≠low+1):ab (dl low leaf s k) v=ab s v:=by
 obtain⟨d,_⟩:=gM (gQ s k leaf) low k
 have hd:(gQ s k leaf).near.length=s.near.length:=by simp[gQ]
 unfold dl;rw[kw (by omega) (by omega) (by omega),TZ (by omega),kw (by omega) (by omega) (by omega),TZ (by omega),t8 (by omega),TZ a]
theorem IA{low:Nat}(g:low+1<s.near.length)(f:k<low):(ab (dl low leaf s k) v).length<=(ab s v).length+(if v=k then 2 else if v=low\/v=low+1 then 1 else 0):=by
 obtain⟨d,_⟩:=gM (gQ s k leaf) low k
 have hd:(gQ s k leaf).near.length=s.near.length:=by simp[gQ]
 have e:((ab s k).erase leaf).length<=(ab s k).length:=List.length_erase_le;unfold dl;rw[kw (by omega) (by omega) (by omega),kw (by omega) (by omega) (by omega),t8 (by omega)];by_cases h:v=k
 .subst h
  simp only[Ui];split<;>split<;>simp<;>omega
 .rw[TZ h,TZ h]
  by_cases a:v=low
  .subst a
   rw[TZ (by omega)];split<;>simp
  .by_cases b:v=low+1
   .subst b
    rw[TZ (c:=bn (aA (gQ s k leaf) low) (aA (gQ s k leaf) k)=true/\(low+1=low\/low+1=k)) (by omega)];split<;>simp
   .rw[TZ (by omega),TZ (by omega)]
    simp[a,b]
theorem Ak(s:Spc)(a b:Nat):(fG s a b).cc=s.cc:=by unfold fG;split<;>rfl
theorem Eu(low leaf:Nat)(s:Spc)(k:Nat):(dl low leaf s k).cc=s.cc:=by unfold dl;rw[Ak,Ak];rfl
structure LpI(s0:Spc)(n leaf:Nat)(old:List Nat)(i:Nat)(s:Spc):Prop where
 nl:s.near.length=n+2
 bx:s.bx=s0.bx
 cells:s.cells=s0.cells
 jn:s.jn=s0.jn
 root:s.root=s0.root
 cc:s.cc=s0.cc
 low:∀k,k<n->k∉old.take i->ab s k=ab s0 k
 len:∀v,(ab s v).length<=(ab s0 v).length+2+(if v<n then 0 else i)
theorem LpI.step{l:Spc}(h:LpI l n leaf old i s)(d:old.Nodup)(q:old[i]?=some k)(a:k<n):LpI l n leaf old (i+1) (dl n leaf s k):=by
 obtain⟨m,o,a3,a4,p⟩:=ss n leaf s k
 have j:old.take (i+1)=old.take i++[k]:=by rw[Wf,q];rfl
 have f:k∉old.take i:=by
  have:=(List.take_sublist (i+1) old).nodup d;rw[j,VO]at this;intro b;exact this.2.2 k b k (by simp) rfl
 refine⟨m.trans h.nl,o.trans h.bx,a3.trans h.cells,a4.trans h.jn,p.trans h.root,(Eu n leaf s k).trans h.cc,λv r b=>?_,λv=>?_⟩
 .rw[j]at b
  simp only[Uf,Uz,not_or]at b;rw[G5 (by rw[h.nl];omega) a b.2 (by omega) (by omega),h.low v r b.1]
 .have c:=IA (leaf:=leaf) (v:=v) (s:=s) (by rw[h.nl];omega) a
  have g:=h.len v;by_cases e:v=k
  .subst e
   rw[T6 rfl]at c;rw[h.low v a f]at c;rw[T6 a];omega
  .rw[TZ e]at c
   split at c
   .rw[TZ (by omega)]at g|-
    omega
   .split at g
    .rw[T6 (by assumption)];omega
    .rw[TZ (by assumption)];omega
theorem oJ{joint:Int}(b:leaf<s.near.length):ab (dE s leaf joint) v=if v=leaf then[]else ab s v:=by
 unfold dE ab;simp only;by_cases h:v<s.near.length
 .rw[T1 (by simpa using h),T9]
  by_cases e:v=leaf
  .subst e;simp[b]
  .simp[e,show¬leaf=v from λa=>e a.symm]
 .rw[T5 (by simpa using(by omega:s.near.length<=v)),TZ (by omega),Ua (l:=s.near) (by omega)]
  simp only[Vo]
  match v-s.near.length with
  |0=>rfl
  |1=>rfl
  |m+2=>simp
theorem LpI.zero{joint:Int}(hn:s.near.length=n):LpI (dE s leaf joint) n leaf old 0 (dE s leaf joint):=
 ⟨by simp[dE,hn],rfl,rfl,rfl,rfl,rfl,λ_ _ _=>rfl,λ_=>by omega⟩
section
variable {n:Nat} {may has:Nat->Bool} {tch:Nat->Nat->Bool}
inductive Vis(may:Nat->Bool)(k:Nat)(s:BS):List Nat->BS->Prop
 |nil:Vis may k s [] s
 |hit {c s1 i} (h:Vis may k s c s1) (h0:au s1.far i=0) (hm:may i=true):Vis may k s (c++[i]) (pU s1 k i)
 |miss {c s1 i} (h:Vis may k s c s1) (h0:au s1.far i=0->may i=false):Vis may k s (c++[i]) s1
structure VI(n:Nat)(may has:Nat->Bool)(tch:Nat->Nat->Bool)(s:BS)(k:Nat)(c:List Nat)(s1:BS):Prop where
 inv:BInv2 n may has tch s1
 le:s.q.length<=s1.q.length
 qs:∀a,a<s.q.length->cK s1 a=cK s a
 keep:∀i,1<=au s.far i->au s1.far i=au s.far i
 inq:∀i,1<=au s1.far i->i∈s1.q
 qn:∀a,s.q.length<=a->a<s1.q.length->au s1.far (cK s1 a)=au s.far (cK s k)+1
 vis:∀i∈c,may i=true->1<=au s1.far i
theorem En{s:BS}{l:List Int}{a:Nat}(h:a<s.q.length):cK ⟨l,s.q++[i]⟩ a=cK s a:=by
 unfold cK;rw[T1 h]
theorem KF{s:BS}{l:List Int}:cK ⟨l,s.q++[i]⟩ s.q.length=i:=by
 unfold cK;rw[T5 (T8 _)];simp
theorem Eo{s d:BS}{c:List Nat}(hs:BInv2 n may has tch s)(A:k<s.q.length)(hq:∀i,1<=au s.far i->i∈s.q)(h:Vis may k s c d)(x:∀i∈c,i<n/\tch i (cK s k)=true):VI n may has tch s k c d:=by
 induction h with
 |nil=>exact⟨hs,T8 _,λ_ _=>rfl,λ_ _=>rfl,hq,λa E H=>by omega,λi hi=>by cases hi⟩
 |@hit c d i h r F ih=>
  have I:=ih λj b=>x j (VU _ b);obtain⟨hi,G⟩:=x i (by simp);have p:=I.qs k A
  have B:cK s k∈s.q:=by
   unfold cK;rw[an A];exact Ul _
  have y:=(hs.mem _ B)
  have m:au d.far (cK d k)=au s.far (cK s k):=by rw[p];exact I.keep _ y.2
  have z:i<d.far.length:=by rw[I.inv.len];exact hi
  have f:∀j,au (pU d k i).far j=if j=i then au s.far (cK s k)+1 else au d.far j:=λj=>by
   simp only[pU];rw[mg z,m]
  have o:∀j,1<=au d.far j->j≠i:=λj b e=>by rw[e,r]at b;omega
  have l:cK d k∈d.q:=by
   unfold cK;rw[an (UR A I.le)];exact Ul _
  refine⟨?_,?_,?_,?_,?_,?_,?_⟩
  .refine I.inv.put hi r (by rw[m];omega) F (by have:=I.inv.top (cK d k);omega) (.inr ⟨cK d k,(I.inv.mem _ l).1,by omega,(I.inv.mem _ l).2,by rw[p];exact G⟩)
  .simp only[pU,Uj,UX];have:=I.le;omega
  .intro a u
   have:=I.le;rw[<-I.qs a u];exact En (by omega)
  .intro j b
   have:=I.keep j b;rw[f,TZ (o j (by omega)),this]
  .intro j b
   rw[f]at b;simp only[pU,Uf,Uz];split at b
   .rename_i e;exact .inr e
   .exact .inl (I.inq j b)
  .intro a u v
   simp only[pU,Uj,UX]at v;by_cases e:a<d.q.length
   .have D:cK (pU d k i) a=cK d a:=En e
    have C:cK d a∈d.q:=by
     unfold cK;rw[an e];exact Ul _
    rw[D,f,TZ (o _ (I.inv.mem _ C).2)];exact I.qn a u e
   .have:a=d.q.length:=by omega
    subst this;rw[show cK (pU d k i) d.q.length=i from KF,f,T6 rfl]
  .intro j b g
   rw[f];split
   .omega
   .rename_i e
    rcases Uf.1 b with b|b
    .exact I.vis j b g
    .exact absurd (Uz.1 b) e
 |@miss c d i h r ih=>
  have I:=ih λj b=>x j (VU _ b);refine⟨I.inv,I.le,I.qs,I.keep,I.inq,I.qn,λj b g=>?_⟩;rcases Uf.1 b with b|b
  .exact I.vis j b g
  .rw[Uz.1 b]at g|-
   have E:=I.inv.nn i;by_cases e:au d.far i=0
   .rw[r e]at g;cases g
   .omega
structure BO(n:Nat)(may has:Nat->Bool)(tch:Nat->Nat->Bool)(s:BS)(k:Nat):Prop where
 inv:BInv2 n may has tch s
 inq:∀i,1<=au s.far i->i∈s.q
 mono:∀a b,a<=b->b<s.q.length->au s.far (cK s a)<=au s.far (cK s b)
 top:∀b,b<s.q.length->k<s.q.length->au s.far (cK s b)<=au s.far (cK s k)+1
 start:∀i,i<n->may i=true->has i=true->au s.far i=1
 done:∀a,a<k->a<s.q.length->∀i,i<n->may i=true->tch i (cK s a)=true->1<=au s.far i/\au s.far i<=au s.far (cK s a)+1
theorem LS{s:BS}(h:i∈s.q):∃a,a<s.q.length/\cK s a=i:=by
 obtain⟨a,b⟩:=Uy h;exact⟨a,(th.1 b).1,by simp[cK,b]⟩
theorem zx{s:BS}{a:Nat}(h:a<s.q.length):cK s a∈s.q:=by
 unfold cK;rw[an h];exact Ul _
theorem BO.step{s f:BS}{c:List Nat}(H:BO n may has tch s k)(m:k<s.q.length)(h:Vis may k s c f)(E:∀i∈c,i<n/\tch i (cK s k)=true)(p:∀i,i<n->may i=true->tch i (cK s k)=true->i∈c\/i=cK s k):BO n may has tch f (k+1):=by
 have I:=Eo H.inv m H.inq h E;have G:=I.le
 have d:∀a,a<s.q.length->au f.far (cK f a)=au s.far (cK s a):=λa x=>by
  rw[I.qs a x];exact I.keep _ (H.inv.mem _ (zx x)).2
 have B:∀b,b<f.q.length->au f.far (cK f b)<=au s.far (cK s k)+1:=by
  intro b j;by_cases e:b<s.q.length
  .rw[d b e];exact H.top b e m
  .rw[I.qn b (by omega) j];omega
 have mono:∀a b,a<=b->b<f.q.length->au f.far (cK f a)<=au f.far (cK f b):=by
  intro a b y j;by_cases e:b<s.q.length
  .rw[d b e,d a (by omega)];exact H.mono a b y e
  .rw[I.qn b (by omega) j];exact B a (by omega)
 refine⟨I.inv,I.inq,mono,?_,?_,?_⟩
 .intro b j A
  have l:=mono k (k+1) (by omega) A;rw[d k m]at l;have:=B b j;omega
 .intro i hi r F
  have l:=H.start i hi r F;rw[I.keep i (by omega)];exact l
 .intro a x D i hi r u
  by_cases e:a<k
  .have g:a<s.q.length:=by omega
   rw[I.qs a g]at u;obtain⟨l,C⟩:=H.done a e g i hi r u;rw[I.keep i l,d a g];exact⟨l,C⟩
  .have e:a=k:=by omega
   subst e;rw[I.qs a m]at u;rw[d a m];rcases p i hi r u with v|v
   .have o:=I.vis i v r
    obtain⟨b,j,z⟩:=LS (I.inq i o);have:=B b j;rw[z]at this;exact⟨o,this⟩
   .have o:=(H.inv.mem _ (zx m)).2
    rw[v,I.keep _ o];exact⟨o,by omega⟩
theorem BO.stay{s:BS}(H:BO n may has tch s k)(e:¬k<s.q.length):BO n may has tch s (k+1):=
 ⟨H.inv,H.inq,H.mono,λb _ h=>by omega,H.start,λa d c=>H.done a (by omega) c⟩
theorem GU:∀i,i<=n->(∀j,1<=au (bI n may has i).far j->j∈(bI n may has i).q/\au (bI n may has i).far j=1)/\∀j,j<i->may j=true->has j=true->au (bI n may has i).far j=1
 |0,_=>by
  refine⟨λj a=>?_,λj a=>by omega⟩
  have m:au (List.replicate n (0:Int)) j=0:=by simp only[au,Us];split<;>rfl
  simp only[bI,m]at a;omega
 |i+1,hi=>by
  obtain⟨k,l⟩:=GU i (by omega);have c:=(tz (n:=n) (may:=may) (has:=has) (tch:=λ_ _=>true) i (by omega)).1
  have b:i<(bI n may has i).far.length:=by rw[c.len];omega
  simp only[bI];split
  .rename_i d
   simp only[An]at d;refine⟨λj a=>?_,λj a g f=>?_⟩
   .rw[mg b]at a|-
    split
    .rename_i e;exact⟨by simp[e],rfl⟩
    .rename_i e
     rw[TZ e]at a;exact⟨VU _ (k j a).1,(k j a).2⟩
   .rw[mg b]
    split
    .rfl
    .exact l j (by omega) g f
  .rename_i d
   refine⟨k,λj a g f=>?_⟩;by_cases e:j=i
   .subst e;rw[g,f]at d;exact absurd rfl d
   .exact l j (by omega) g f
theorem BO.init:BO n may has tch (bI n may has n) 0:=by
 obtain⟨e,j⟩:=GU (n:=n) (may:=may) (has:=has) n (T8 _);have c:=(tz (n:=n) (may:=may) (has:=has) (tch:=tch) n (T8 _)).1;have one:∀a,a<(bI n may has n).q.length->au (bI n may has n).far (cK (bI n may has n) a)=1:=λa f=>(e _ (c.mem _ (zx f)).2).2;refine⟨c,λi hi=>(e i hi).1,λa b k d=>?_,λb d g=>?_,λi hi m l=>j i hi m l,λa f=>by omega⟩
 .rw[one a (by omega),one b d];omega
 .rw[one b d,one 0 g];omega
structure FarOk(n:Nat)(may has:Nat->Bool)(tch:Nat->Nat->Bool)(far:List Int):Prop where
 len:far.length=n
 nn:∀i,0<=au far i
 rng:∀i,1<=au far i->i<n/\may i=true
 start:∀i,i<n->may i=true->has i=true->au far i=1
 back:∀i,1<=au far i->(au far i=1/\has i=true)\/∃p,p<n/\au far p=au far i-1/\1<=au far p/\tch i p=true
 clo:∀p i,1<=au far p->i<n->may i=true->tch i p=true->1<=au far i/\au far i<=au far p+1
theorem BO.fin{s:BS}(H:BO n may has tch s k)(e:s.q.length<=k):FarOk n may has tch s.far:=by
 refine⟨H.inv.len,H.inv.nn,λi hi=>⟨?_,H.inv.may' i hi⟩,H.start,H.inv.back,λp i hp hi c d=>?_⟩
 .exact(H.inv.mem i (H.inq i hi)).1
 .obtain⟨a,b,rfl⟩:=LS (H.inq p hp)
  exact H.done a (by omega) b i hi c d
theorem Cw(h:FarOk n may has tch far)(h':FarOk n may has tch' far')(j:∀i p,i<n->may i=true->p<n->may p=true->i≠p->tch i p=true->tch' i p=true):∀(m:Nat) i,(m:Int)=au far i->1<=au far i->1<=au far' i/\au far' i<=au far i:=by
 intro m
 induction m using Nat.strongRecOn with
 |_ m ih=>
  intro i r hi;obtain⟨b,c⟩:=h.rng i hi;rcases h.back i hi with⟨e,g⟩|⟨p,s,k,d,l⟩
  .have:=h'.start i b c g
   omega
  .obtain⟨o,u⟩:=ih (m-1) (by omega) p (by omega) d
   have hp:=h.rng p d
   have a:i≠p:=λe=>by rw[e]at k;omega
   obtain⟨f,q⟩:=h'.clo p i o b c (j i p b c hp.1 hp.2 a l);exact⟨f,by omega⟩
theorem Fw(h:FarOk n may has tch far)(h':FarOk n may has tch' far')(j:∀i p,i<n->may i=true->p<n->may p=true->i≠p->(tch i p=true↔tch' i p=true)):far=far':=by
 have e:∀i,au far i=au far' i:=by
  intro i;have a:=h.nn i;have b:=h'.nn i;by_cases f:1<=au far i
  .have k:=Cw h h' (λi p a b c d e=>(j i p a b c d e).1) (au far i).toNat i (by omega) f
   have l:=Cw h' h (λi p a b c d e=>(j i p a b c d e).2) (au far' i).toNat i (by omega) k.1;omega
  .by_cases g:1<=au far' i
   .have l:=Cw h' h (λi p a b c d e=>(j i p a b c d e).2) (au far' i).toNat i (by omega) g
    omega
   .omega
 apply UF;intro i;by_cases hi:i<n
 .have f:i<far.length:=by rw[h.len];exact hi
  have g:i<far'.length:=by rw[h'.len];exact hi
  have:=e i;simp only[au,an f,an g,Ug]at this;rw[an f,an g,this]
 .rw[Ua (by rw[h.len];omega),Ua (by rw[h'.len];omega)]
theorem GX{s:BS}{k:Nat}(hs:BInv2 n may has tch s)(c:k<s.q.length):∀i,i<=n->Vis may k s ((List.range i).filter λj=>tch j (cK s k)) (bJ may tch s k i)
 |0,_=>.nil
 |i+1,hi=>by
  have ih:=GX hs c i (by omega);have hq:=(zQ hs c i (by omega)).2.2;rw[Vn,VK];simp only[bJ]
  cases b:tch i (cK s k)with
  |true=>
   rw[show List.filter (λj=>tch j (cK s k)) [i]=[i] by simp[b]];split
   .rename_i a
    simp only[xI,An,UP]at a;exact .hit ih a.1.1 a.1.2
   .rename_i a
    refine .miss ih λd=>?_;rw[<-Bool.not_eq_true];intro e;exact a (by simp[xI,d,e,hq,b])
  |false=>
   rw[show List.filter (λj=>tch j (cK s k)) [i]=[] by simp[b],V7];rw[TZ (by simp[xI,hq,b])];exact ih
theorem GY:∀k,BO n may has tch (bK n may has tch k) k
 |0=>BO.init
 |k+1=>by
  have ih:=GY k;simp only[bK];split
  .rename_i a
   refine ih.step a (GX ih.inv a n (T8 _)) (λi hi=>?_) (λi hi c b=>.inl ?_)
   .simp only[U1,UE]at hi;exact hi
   .simp only[U1,UE];exact⟨hi,b⟩
  .rename_i a;exact ih.stay a
theorem vH:FarOk n may has tch (bK n may has tch n).far:=(GY n).fin (rW n).le
variable (n may has)
def gT(s:BS)(k:Nat)(l:List Nat):Nat->BS
 |0=>s
 |j+1=>match l[j]? with
  |some i=>if(au (gT s k l j).far i==0)&&may i then pU (gT s k l j) k i else gT s k l j
  |none=>gT s k l j
def gK(nb:Nat->List Nat):Nat->BS
 |0=>bI n may has n
 |k+1=>if k<(gK nb k).q.length then gT may (gK nb k) k (nb (cK (gK nb k) k)) (nb (cK (gK nb k) k)).length else gK nb k
variable {n may has}
theorem Cy{s:BS}{k:Nat}{l:List Nat}:∀j,j<=l.length->Vis may k s (l.take j) (gT may s k l j)
 |0,_=>.nil
 |j+1,e=>by
  have ih:=Cy (s:=s) (k:=k) (l:=l) j (by omega);have c:l[j]?=some l[j]:=an (by omega);rw[UK (by omega)];simp only[gT,c];split
  .rename_i a
   simp only[An,UP]at a;exact .hit ih a.1 a.2
  .rename_i a
   refine .miss ih λb=>?_;rw[<-Bool.not_eq_true];intro d;exact a (by simp[b,d])
def Aj(nb:Nat->List Nat)(i p:Nat):Bool:=(nb p).contains i
theorem Cz{nb:Nat->List Nat}(a:∀p i,i∈nb p->i<n):∀k,BO n may has (Aj nb) (gK n may has nb k) k
 |0=>BO.init
 |k+1=>by
  have ih:=Cz a k;simp only[gK];split
  .rename_i b
   have c:=Cy (may:=may) (s:=gK n may has nb k) (k:=k) (l:=nb (cK (gK n may has nb k) k)) _ (T8 _);rw[VX]at c;refine ih.step b c (λi hi=>⟨a _ i hi,?_⟩) (λi hi e d=>.inl ?_)
   .simpa[Aj]using hi
   .simpa[Aj]using d
  .rename_i b;exact ih.stay b
theorem LT(f:∀p i,i∈nb p->i<n)(h:∀i p,i<n->may i=true->p<n->may p=true->i≠p->(i∈nb p↔tch i p=true))(g:(gK n may has nb k).q.length<=k):(gK n may has nb k).far=(bK n may has tch n).far:=
 Fw ((Cz f k).fin g) vH λi p a b c d e=>by rw[<-h i p a b c d e];simp[Aj]
def nP(far:List Int)(m:Int)(l:List Nat):Nat->Int
 |0=>-1
 |j+1=>match l[j]? with
  |some k=>if(au far k==m)&&(nP far m l j==-1||decide ((k:Int)<nP far m l j))then(k:Int)else nP far m l j
  |none=>nP far m l j
theorem CA{far:List Int}{m:Int}{l:List Nat}:∀j,j<=l.length->-1<=nP far m l j/\(0<=nP far m l j->au far (nP far m l j).toNat=m/\(nP far m l j).toNat∈l)/\∀k∈l.take j,au far k=m->0<=nP far m l j/\nP far m l j<=(k:Int)
 |0,_=>by simp[nP]
 |j+1,g=>by
  obtain⟨d,e,c⟩:=CA (far:=far) (m:=m) (l:=l) j (by omega);have f:l[j]?=some l[j]:=an (by omega);rw[UK (by omega)];simp only[nP,f];split
  .rename_i b
   simp only[An,UQ,UP,L4]at b;refine⟨by omega,λ_=>⟨by rw[Uh];exact b.1,by rw[Uh];exact Ul _⟩,λk a hf=>⟨by omega,?_⟩⟩;rcases Uf.1 a with a|a
   .have:=c k a hf
    omega
   .rw[Uz.1 a];omega
  .rename_i b
   refine⟨d,e,λk a hf=>?_⟩;rcases Uf.1 a with a|a
   .exact c k a hf
   .rw[Uz.1 a]at hf|-
    simp only[An,UQ,UP,L4,not_and,not_or]at b;have:=b hf;omega
theorem CB{far:List Int}{a:Nat}:∀m,m<=n->∀i,i<n->n-m<=i->nC far tch a i=true->0<=nS n far tch a m/\nS n far tch a m<=(i:Int)
 |0,_,i,c,d,_=>by omega
 |m+1,g,i,c,d,b=>by
  simp only[nS];split
  .exact⟨by omega,by omega⟩
  .rename_i f
   by_cases e:i=n-1-m
   .rw[e]at b;exact absurd b f
   .exact CB m (by omega) i c (by omega) b
theorem NF{a:Nat}{l:List Nat}(g:∀i∈l,i<n)(h:∀i,i<n->au far i=au far a-1->(i∈l↔tch i a=true)):nP far (au far a-1) l l.length=nS n far tch a n:=by
 obtain⟨p,j,b⟩:=CA (far:=far) (m:=au far a-1) (l:=l) l.length (T8 _);rw[VX]at b;have q:=DC (n:=n) (tch:=tch) (far:=far) (at_:=a) n (T8 _);have k:=λi=>CB (tch:=tch) (far:=far) (a:=a) n (T8 _) i;by_cases e:0<=nP far (au far a-1) l l.length
 .obtain⟨c,d⟩:=j e
  have hi:=g _ d
  have hn:nC far tch a (nP far (au far a-1) l l.length).toNat=true:=by
   simp only[nC,An,UP];exact⟨c,(h _ hi c).1 d⟩
  obtain⟨o,r⟩:=k _ hi (by omega) hn;obtain⟨t1,t2⟩:=q.1 o;simp only[nC,An,UP]at t2;have:=b _ ((h _ t1 t2.1).2 t2.2) t2.1;omega
 .by_cases f:0<=nS n far tch a n
  .obtain⟨t1,t2⟩:=q.1 f
   simp only[nC,An,UP]at t2;have:=b _ ((h _ t1 t2.1).2 t2.2) t2.1;omega
  .have:=q.2.2
   omega
def kv(far:List Int)(nb:Nat->List Nat)(a:Nat):Nat->Nat
 |0=>a
 |r+1=>(nP far (au far a-1-r) (nb (kv far nb a r)) (nb (kv far nb a r)).length).toNat
def sm(n:Nat)(far:List Int)(nb:Nat->List Nat)(hasF:Nat->Bool):List Nat×Bool:=
 if 0<=aS far hasF n then((List.range (au far (aS far hasF n).toNat).toNat).map (kv far nb (aS far hasF n).toNat),true)else([],false)
theorem GZ(hF:far=(bK n may has tch n).far)(b:∀i j,i<n->j<n->tch i j=tch j i)(f:∀p i,i∈nb p->i<n)(h:∀i p,i<n->may i=true->p<n->may p=true->i≠p->(i∈nb p↔tch i p=true)){a:Nat}(o:a<n)(m:0<au far a):
 ∀r:Nat,(r:Int)<au far a->kv far nb a r=pS n far tch a r/\kv far nb a r<n/\au far (kv far nb a r)=au far a-r/\((r:Int)+1<au far a->0<=nP far (au far a-1-r) (nb (kv far nb a r)) (nb (kv far nb a r)).length):=by
 subst hF;have d:=rW (n:=n) (may:=may) (has:=has) (tch:=tch) n;have l:=vH (n:=n) (may:=may) (has:=has) (tch:=tch);generalize bK n may has tch n=s at *
 have next:∀r:Nat,(r:Int)+1<au s.far a->nP s.far (au s.far a-1-r) (nb (pS n s.far tch a r)) (nb (pS n s.far tch a r)).length=nS n s.far tch (pS n s.far tch a r) n:=by
  intro r c;obtain⟨k,q⟩:=wX d b o m r (by omega);rw[show au s.far a-1-r=au s.far (pS n s.far tch a r)-1 by omega];have hp:=l.rng (pS n s.far tch a r) (by omega);refine NF (λi hi=>f _ i hi) λi hi hf=>?_;have u:=l.rng i (by omega);exact h i _ hi u.2 hp.1 hp.2 (λe=>by rw[e]at hf;omega)
 have main:∀r:Nat,(r:Int)<au s.far a->kv s.far nb a r=pS n s.far tch a r:=by
  intro r
  induction r with
  |zero=>exact λ_=>rfl
  |succ r ih=>
   intro c;have e:=ih (by omega);simp only[kv,pS,Br];rw[e,next r (by omega)]
 intro r c;obtain⟨k,q⟩:=wX d b o m r c;rw[main r c];refine⟨rfl,k,q,λg=>?_⟩;rw[next r g];have:=(zR d b k (by omega)).1;omega
theorem Ir(a:∀i j,i<n->j<n->tch i j=tch j i)(c:∀p i,i∈nb p->i<n)(h:∀i p,i<n->may i=true->p<n->may p=true->i≠p->(i∈nb p↔tch i p=true)):
 sm n (bK n may has tch n).far nb hasF=(eI n may has hasF tch,aX n may has hasF tch):=by
 have f:=we (hasF:=hasF) (far:=(bK n may has tch n).far) n;unfold sm eI aX lr;by_cases b:0<=aS (bK n may has tch n).far hasF n
 .obtain⟨e,_⟩:=f.2.2 b
  simp only[b,VR,Ui];refine Prod.ext ?_ rfl;refine List.map_congr_left λr d=>?_;have d:=UE.1 d;exact(GZ rfl a c h (by omega) e r (by omega)).1
 .simp only[b,decide_false,T3,Ud]
end
theorem LU(s:Spc)(i:Nat)(hi:i<s.cells.length):aO 89 (nu s) (Z i) (Z (aj s i).v.kind):=by
 have a:s.cells[i]?=some s.cells[i]:=an hi
 have d:aj s i=s.cells[i]:=by simp[aj,a]
 rw[d];generalize b:s.cells[i]=c at *;refine Dp func89 λC hP hN=>?_;exact Gy
structure SpcOk(s:Spc)(m:Nat):Prop where
 n:m<=2048
 c:s.cells.length=m
 b:s.bx.length=m
 r:s.near.length=m
 j:s.jn.length=m
 bl:∀b∈s.bx,b.length<=9223372036854775807
 lf:∀p i,i∈ab s p->i<m/\(aj s i).low=-1
 nl:∀p,(ab s p).length<=4096
theorem KJ(s:Spc)(p q:List Int)(g:FuncId):zS 83 (nu s) (zs p) (zs q) (.val (.func (.func g) #[] #[])) (.agg [nu s,zs p,zs q,.val (.func (.func g) #[] #[])]):=by
 refine Dp func83 λC hP hN=>?_;exact Gy
theorem Iu(s:Spc)(n:Nat)(p q:List Int)(g:FuncId)(f:Int->Int->Bool)(tch:Nat->Nat->Bool)(hs:SpcOk s n)(ep:q.length<=9223372036854775807)(a7:∀k j:Int,bf prog g [.pv (Z k),.pv (Z j)] [] [] (.pv (B (f k j))))(ar:∀i p,i<n->bo s f i=true->p<n->bo s f p=true->i≠p->(i∈ab s p↔tch i p=true)):bk 141 (.agg [nu s,zs p,zs q,.val (.func (.func g) #[] #[])]) (.sl ((bK n (bo s f) (aq s.bx q) tch n).far.map Z)):=by
 have hb:∀i,i<n->s.bx[i]?=some (iF s.bx i):=λi hi=>by
  have:i<s.bx.length:=by rw[hs.b];exact hi
  simp[iF,an this]
 have ck:=λ(i:Nat)(hi:i<s.cells.length)=>LU s i hi;have cH:=λ(i:Nat)(hi:i<n)=>LE (iF s.bx i) q (hs.bl _ (Is (hb i hi)));have cS:∀i,i<n->bf prog 142 [.pv (iv (iF s.bx i)),.pv (zs q)] [] [] (.pv (B (aq s.bx q i))):=cH;have c7:=λ{k:Nat}(hk:(gK n (bo s f) (aq s.bx q) (ab s) k).q.length<=k)=>LT (λp i hi=>(hs.lf p i hi).1) ar hk;have cx:=Cz (n:=n) (may:=bo s f) (has:=aq s.bx q) (nb:=ab s) (λp i hi=>(hs.lf p i hi).1);have c4:=hs.b;have c5:=hs.c;have D:=hs.j;have en:=hs.r;have hn:=hs.n;have cq:=hs.lf;have cw:=hs.nl;have cr:∀i,bo s f i=(decide ((aj s i).low=-1)&&f (aj s i).v.kind (dy s i)):=λi=>rfl
 have ch:∀i,i<n->s.cells[i]?=some (aj s i):=λi hi=>by
  have:i<s.cells.length:=by omega
  simp[aj,an this]
 have cp:∀i,i<n->s.jn[i]?=some (dy s i):=λi hi=>by
  have:i<s.jn.length:=by omega
  simp[dy,an this]
 clear cH ar;generalize eb:aq s.bx q=has at *;generalize el:bo s f=may at *;refine Dp func141 λC hP hN=>?_;refine sh [4] (it c4 (show(8:Int)*n<=281474976710656 by omega) (show(n:Int)<=281474976710656 by omega) (show(n:Int)<=9223372036854775807 by omega)) ?_;refine WP.loopN [6] n (λi st=>st.t 1=.ptr 1 0/\st.t 3=.arr 16 n/\st.t 4=.arr 4 (bI n may has i).q.length/\st.t 22=.pv (.sl (s.cells.map bz))/\st.t 23=.pv (Z n)/\st.t 24=.pv (Z i)/\st.h 1=some (.box [.pv (nu s),.pv (zs p),.pv (zs q),.pv (.val (.func (.func g) #[] #[]))] true false)/\st.h 4=some (.row 3 1 ((bI n may has i).q.map zN) 0)/\st.h 16=some (.row 3 1 ((bI n may has i).far.map Z) 0)/\st.h 6=none) (by simp[bI,c5]) ?_;rintro i st hi ⟨g1,g3,g4,b3,b5,b7,K,F,z,b6⟩;obtain⟨hI,cU⟩:=tz (n:=n) (may:=may) (has:=has) (tch:=tch) i hi;have ea:=hI.le;have cj:=hI.len;by_cases m:i<n
 .have hw:=am m (by omega)
  have bs:i<s.cells.length:=by omega
  have I:=ch i m;have G:=bZ I bs
  have cn:i<s.jn.length:=by omega
  have J:=cp i m;have H:=bZ J cn
  have cm:i<s.bx.length:=by omega
  have cf:=hb i m;have cg:=bZ cf cm
  have a:bI n may has (i+1)=if may i&&has i then⟨(bI n may has i).far.set i 1,(bI n may has i).q++[i]⟩else bI n may has i:=rfl
  have c1:=ck i bs;have c2:=a7 (aj s i).v.kind (dy s i);have c3:=cS i m;have u:=cr i;generalize bI n may has i=S at *;generalize aj s i=c at *;generalize dy s i=jj at *;by_cases L:c.low=-1
  .have a6:(c.low==-1)=true:=by simp[L]
   rw[UA L,Un]at u
   cases hf:f c.v.kind jj with
   |false=>
    rw[hf]at c2 u;rw[u,UB,TZ (by simp)]at a;exact Gy
    all_goals simp[a]
   |true=>
    rw[hf]at c2 u
    cases hh:has i with
    |false=>
     rw[hh]at c3;rw[u,hh,TZ (by simp)]at a;exact Gy
     all_goals simp[a]
    |true=>
     rw[hh]at c3;rw[u,hh,T6 (by simp)]at a
     with_reducible repeat' (first|refine Sp.h ?_|((first|refine Wd ?_|refine Ss.h ?_|refine Sc.h (c1) ?_|refine Sc.h (c2) ?_|refine Sc.h (c3) ?_|(refine Sb.h ?_ ?_ ?_<;>(try intro hgd)<;>try exact Xy))<;>simp -implicitDefEqProofs (maxSteps:=2000000) [hP,hN,g1,g3,g4,b3,b5,b7,K,F,z,b6,m,hw,bs,I,G,cn,J,H,cm,cf,cg,L,a6,cj,show(S.q.length+1)*8<=140737488355328 by omega,show S.q.length+1<=9223372036854775807 by omega]<;>try refine Ya ?_)|refine X2 ?_ ?_|(refine Xd ?_ ?_<;>intro hcd<;>try exact Xx))
     all_goals simp[a,Vv]
  .have a6:(c.low==-1)=false:=by simp[L]
   rw[U0 L,UB]at u;rw[u,UB,TZ (by simp)]at a;exact Gy
   all_goals simp[a]
 have c8:i=n:=by omega
 subst c8;clear cU hI;refine Gz ?_;refine WP.toSuf 4 (k:=4) (e:=3) (sz:=1) (fz:=0) (xs:=(bI i may has i).q.map zN) (by simp[F]) (by simp[g4]) ?_
 refine WP.loopN [] i (λk st=>∃o xs,st.t 1=.ptr 1 0/\st.t 3=.arr 16 i/\st.t 4=.ext (.suf 4 o ((gK i may has (ab s) k).q.length-k) (o+((gK i may has (ab s) k).q.length-k)))/\xs.length=o+((gK i may has (ab s) k).q.length-k)/\xs.drop o=((gK i may has (ab s) k).q.drop k).map zN/\k<=(gK i may has (ab s) k).q.length/\st.h 1=some (.box [.pv (nu s),.pv (zs p),.pv (zs q),.pv (.val (.func (.func g) #[] #[]))] true false)/\st.h 4=some (.row 3 1 xs 0)/\st.h 16=some (.row 3 1 ((gK i may has (ab s) k).far.map Z) 0)) (by
  refine⟨0,(bI i may has i).q.map zN,?_⟩
  simp[gK,g1,g3,K,F,z,ag]) ?_
 clear g1 g3 g4 b3 b5 b7 K F z b6 st hi m;rintro k st hk ⟨o,xs,g1,g3,g4,y,E,ei,K,F,z⟩;have hO:=cx k;have hI:=hO.inv;have ea:=hI.le;have cj:=hI.len;have a2:=c7 (k:=k);by_cases m:k<(gK i may has (ab s) k).q.length
 .have cB:gK i may has (ab s) (k+1)=gT may (gK i may has (ab s) k) k (ab s (cK (gK i may has (ab s) k) k)) (ab s (cK (gK i may has (ab s) k) k)).length:=by simp only[gK];rw[T6 m]
  rw[cB];clear a2 cB;generalize gK i may has (ab s) k=S at *;have ec:=hI.mem _ (zx m);generalize hQ:cK S k=Q at *
  have cz:S.q[k]?=some Q:=by
   have:S.q[k]?=some (cK S k):=by simp[cK,an m]
   rw[this,hQ]
  have N:xs[o]?=some (zN Q):=by
   have h9:=Vt (λl:List PV=>l[0]?) E;simp only[UT,T0,We]at h9;rw[h9,cz];rfl
  have W:o<xs.length:=(th.1 N).1;have O:=bZ N W
  have cb:Q<s.near.length:=by omega
  have b0:s.near[Q]?=some (ab s Q):=by simp[ab,an cb]
  have cu:=bZ b0 cb
  have M:0<S.q.length-k:=by omega
  with_reducible repeat' (first|refine Sp.h ?_|((with_unfolding_all refine WP.sufAt (hn:=[]) (d:=77) 1 rfl rfl rfl rfl ?_);simp -implicitDefEqProofs (maxSteps:=2000000) [hP,hN,g1,g3,g4,y,K,F,z,M,N,W,O])|((first|refine Wd ?_|refine Ss.h ?_|(refine Sb.h ?_ ?_ ?_<;>(try intro hgd)<;>try exact Xy))<;>simp -implicitDefEqProofs (maxSteps:=2000000) [hP,hN,g1,g3,g4,y,K,F,z,M,N,W,O]<;>try refine Ya ?_)|refine X2 ?_ ?_|(refine Xd ?_ ?_<;>intro hcd<;>try exact Xx))
  refine⟨4,3,1,S.q.length-k,1,o,.i64,0,xs,_,3,8,_,by simp[St.ev,g4],by simp[St.ev],by simp[F],y,by omega,by rw[hP];exact Nk,rfl,by omega,by omega,?_⟩;simp -implicitDefEqProofs (maxSteps:=2000000) [hP,hN];refine Gz ?_
  have a8:xs.drop (o+1)=(S.q.drop (k+1)).map zN:=by
   have h9:=Vt (List.drop 1) E;rw[List.drop_drop,<-WL,List.drop_drop]at h9;exact h9
  have bH:∀x∈ab s Q,x<i/\Aj (ab s) x (cK S k)=true/\(aj s x).low=-1:=λx P=>⟨(cq Q x P).1,by rw[hQ];simp[Aj,P],(cq Q x P).2⟩;clear b0 cu N O cz;have ek:=cw Q;generalize ab s Q=l at *
  refine WP.loopN [] l.length (λj st=>∃o xs,st.t 1=.ptr 1 0/\st.t 3=.arr 16 i/\st.t 7=.pv (Z Q)/\st.t 85=.pv (uV l)/\st.t 86=.pv (Z l.length)/\st.t 87=.pv (Z j)/\st.t 4=.ext (.suf 4 o ((gT may S k l j).q.length-(k+1)) (o+((gT may S k l j).q.length-(k+1))))/\xs.length=o+((gT may S k l j).q.length-(k+1))/\xs.drop o=((gT may S k l j).q.drop (k+1)).map zN/\st.h 1=some (.box [.pv (nu s),.pv (zs p),.pv (zs q),.pv (.val (.func (.func g) #[] #[]))] true false)/\st.h 4=some (.row 3 1 xs 0)/\st.h 16=some (.row 3 1 ((gT may S k l j).far.map Z) 0)) (by
   refine⟨o+1,xs,?_⟩
   have e1:S.q.length-k-1=S.q.length-(k+1):=by omega
   have e2:o+(S.q.length-k)=o+1+(S.q.length-(k+1)):=by omega
   simp only[gT];rw[<-e2,<-e1]
   simp[ag,g1,g3,K,F,z,y,a8]) ?_
  clear g1 g3 g4 K F z y E a8 W M st;clear o xs;rintro j st hj ⟨o,xs,g1,g3,g7,b8,b9,ca,g4,y,E,K,F,z⟩;have V:=Eo hI m hO.inq (Cy (may:=may) (s:=S) (k:=k) (l:=l) j hj) (λx P=>⟨(bH x (VT P)).1,(bH x (VT P)).2.1⟩);have ef:=V.inv.le;have cd:=V.inv.len;have ba:=V.qs k m;have ee:=V.le;have cV:=V.inv.nn;have cW:=V.inv.top;have bb:=V.inv.mem _ (zx (UR m V.le));rw[ba,hQ]at bb;rw[hQ]at ba;by_cases D:j<l.length
  .have cN:=am D (by omega)
   have P:l[j]?=some l[j]:=an D
   have a:gT may S k l (j+1)=if(au (gT may S k l j).far l[j]==0)&&may l[j]then pU (gT may S k l j) k l[j]else gT may S k l j:=by simp only[gT,P]
   obtain⟨ad,_,cQ⟩:=bH _ (Ul D);clear V;generalize gT may S k l j=T at *;generalize cP:l[j]=x at *
   have X:x<s.cells.length:=by omega
   have I:=ch x ad;have G:=bZ I X
   have b2:x<s.jn.length:=by omega
   have J:=cp x ad;have H:=bZ J b2;have c1:=ck x X;have c2:=a7 (aj s x).v.kind (dy s x);have u:=cr x;rw[UA cQ,Un]at u
   have Y:x<T.far.length:=by omega
   have bq:T.far[x]?=some (au T.far x):=by simp[au,an Y]
   have a5:=bZ bq Y
   have R:Q<T.far.length:=by omega
   have bc:T.far[Q]?=some (au T.far Q):=by simp[au,an R]
   have a1:=bZ bc R
   have c0:pU T k x=⟨T.far.set x (au T.far Q+1),T.q++[x]⟩:=by simp only[pU,ba]
   have er:=cW Q;have b0:=cV Q;have cM:i64.wrap (au T.far Q+1)=au T.far Q+1:=aa;rw[c0]at a;generalize aj s x=cc at *;generalize dy s x=jj at *;generalize au T.far Q=fQ at *;by_cases U:au T.far x=0
   .have A:(au T.far x==0)=true:=by simp[U]
    rw[A,Un]at a
    cases ct:f cc.v.kind jj with
    |false=>
     rw[ct]at c2 u;rw[u,TZ (by simp)]at a;rw[a];exact Gy
     all_goals simp[y,E,D]
    |true=>
     rw[ct]at c2 u;rw[u,T6 rfl]at a;rw[a]
     with_reducible repeat' (first|refine Sp.h ?_|((with_unfolding_all refine WP.appSAt (hn:=[]) (d:=124) 3 rfl rfl rfl rfl ?_);simp -implicitDefEqProofs (maxSteps:=2000000) [hP,hN,g1,g3,g7,b8,b9,ca,g4,y,K,F,z,D,cN,P,cP,X,I,G,b2,J,H,Y,bq,a5,cd,ad,bb.1,U,A,R,bc,a1,cM])|((first|refine Wd ?_|refine Ss.h ?_|refine Sc.h (c1) ?_|refine Sc.h (c2) ?_|(refine Sb.h ?_ ?_ ?_<;>(try intro hgd)<;>try exact Xy))<;>simp -implicitDefEqProofs (maxSteps:=2000000) [hP,hN,g1,g3,g7,b8,b9,ca,g4,y,K,F,z,D,cN,P,cP,X,I,G,b2,J,H,Y,bq,a5,cd,ad,bb.1,U,A,R,bc,a1,cM]<;>try refine Ya ?_)|refine X2 ?_ ?_|(refine Xd ?_ ?_<;>intro hcd<;>try exact Xx))
     refine⟨4,o,T.q.length-(k+1),3,1,xs,[zN x],_,8,.int .i64 0,by simp[St.ev,g4],by simp[F],y,by simp[St.ev],by simp[qg,lg],by simp,by rw[hP];exact Nk,rfl,by omega,rfl,by simp;omega,by simp;omega,by omega,by omega,by omega,?_⟩;intro o' et e1 e2;simp -implicitDefEqProofs (maxSteps:=2000000) [hP,hN];refine Gz ?_
     have dd:k+1<=T.q.length:=by omega
     simp only[UX]at e1;refine⟨o',⟨rfl,by omega,by omega⟩,by omega,?_⟩;rw[e2,E,Wu (by simpa using dd),WL]
   .have A:(au T.far x==0)=false:=by simp[U]
    rw[A,UB,TZ (by simp)]at a;rw[a];exact Gy
    all_goals simp[y,E,D]
  .have c9:j=l.length:=by omega
   subst c9;refine Gz ?_;exact⟨by omega,xs,y,by rw[E,WL],by omega,rfl⟩
 .have hF:=a2 (by omega)
  have hz:(gK i may has (ab s) k).q.length-k=0:=by omega
  rw[hF]at z;rw[hz]at g4 y;refine Gz ?_;exact vH.len
theorem FB(f:Nat->α)(r:Nat):(List.range r).map f++[f r]=(List.range (r+1)).map f:=by
 rw[Vn,V0];rfl
theorem LV(s:Spc)(n:Nat)(p q:List Int)(g:FuncId)(f:Int->Int->Bool)(tch:Nat->Nat->Bool)(hs:SpcOk s n)(cx:p.length<=9223372036854775807)(cj:q.length<=9223372036854775807)(a8:∀k j:Int,bf prog g [.pv (Z k),.pv (Z j)] [] [] (.pv (B (f k j))))(V:∀i j,i<n->j<n->tch i j=tch j i)(u:∀i p,i<n->bo s f i=true->p<n->bo s f p=true->i≠p->(i∈ab s p↔tch i p=true)):bk 84 (.agg [nu s,zs p,zs q,.val (.func (.func g) #[] #[])]) (.tup [uV (eI n (bo s f) (aq s.bx q) (aq s.bx p) tch),B (aX n (bo s f) (aq s.bx q) (aq s.bx p) tch)]):=by
 have cl:=Iu s n p q g f tch hs cj a8 u
 have hb:∀i,i<n->s.bx[i]?=some (iF s.bx i):=λi hi=>by
  have:i<s.bx.length:=by rw[hs.b];exact hi
  simp[iF,an this]
 have cH:=λ(i:Nat)(hi:i<n)=>LE (iF s.bx i) p (hs.bl _ (Is (hb i hi)));have b2:∀i,i<n->bf prog 142 [.pv (iv (iF s.bx i)),.pv (zs p)] [] [] (.pv (B (aq s.bx p i))):=cH;clear cH;have hE:=Ir (n:=n) (may:=bo s f) (has:=aq s.bx q) (hasF:=aq s.bx p) V (λp i hi=>(hs.lf p i hi).1) u;have a5:=λ{a:Nat}=>GZ (n:=n) (may:=bo s f) (has:=aq s.bx q) (a:=a) rfl V (λp i hi=>(hs.lf p i hi).1) u;have hF:=vH (n:=n) (may:=bo s f) (has:=aq s.bx q) (tch:=tch);have ct:=hs.b;have ch:=hs.r;have hn:=hs.n;have cf:=hs.lf;have ba:=hs.nl;have hT:=(rW (n:=n) (may:=bo s f) (has:=aq s.bx q) (tch:=tch) n).top;have b4:=(rW (n:=n) (may:=bo s f) (has:=aq s.bx q) (tch:=tch) n).le;rw[show eI n (bo s f) (aq s.bx q) (aq s.bx p) tch=(sm n (bK n (bo s f) (aq s.bx q) tch n).far (ab s) (aq s.bx p)).1 by rw[hE],show aX n (bo s f) (aq s.bx q) (aq s.bx p) tch=(sm n (bK n (bo s f) (aq s.bx q) tch n).far (ab s) (aq s.bx p)).2 by rw[hE]];clear hE u
 have b0:∀i,au (bK n (bo s f) (aq s.bx q) tch n).far i<=n:=λi=>by have:=hT i;omega
 clear hT b4;generalize(bK n (bo s f) (aq s.bx q) tch n).far=F at *;generalize aq s.bx p=hasF at *;have b3:=hF.len;have cr:=hF.nn
 have Q:∀i,i<n->F[i]?=some (au F i):=λi hi=>by simp[au,an (by omega:i<F.length)]
 refine Dp func84 λC hP hN=>?_;refine Gz ?_;refine WP.loopN [] n (λi st=>st.t 1=.ptr 1 0/\st.t 4=.pv (.sl (F.map Z))/\st.t 5=.pv (Z (aS F hasF i))/\st.t 15=.pv (.sl (F.map Z))/\st.t 16=.pv (Z n)/\st.t 17=.pv (Z i)/\st.h 1=some (.box [.pv (nu s),.pv (zs p),.pv (zs q),.pv (.val (.func (.func g) #[] #[]))] true false)/\st.h 54=none) (by simp[aS,b3]) ?_;rintro i st hi ⟨g1,g4,g5,ar,a1,a2,z,c⟩;have hA:=we (hasF:=hasF) (far:=F) i;by_cases d:i<n
 .have hw:=am d (by omega)
  have b9:i<F.length:=by omega
  have b7:=Q i d;have cq:=bZ b7 b9
  have b8:i<s.bx.length:=by omega
  have b5:=hb i d;have cp:=bZ b5 b8;have c3:=b2 i d
  have o:aS F hasF (i+1)=if decide (0<au F i)&&hasF i&&(decide (aS F hasF i<0)||decide (au F i<au F (aS F hasF i).toNat))then(i:Int)else aS F hasF i:=rfl
  rw[o];clear o;by_cases h0:0<au F i
  .rw[UA h0,Un]
   by_cases ha:aS F hasF i<0
   .have D:aS F hasF i=-1:=by omega
    rw[D];rw[D]at g5
    cases hh:hasF i with
    |false=>
     rw[hh]at c3;exact Gy
     all_goals simp
    |true=>
     rw[hh]at c3;exact Gy
     all_goals simp
   .obtain⟨a,M⟩:=Vm (by omega:0<=aS F hasF i)
    rw[M]at hA g5|-
    have O:a<n:=by omega
    have N:a<F.length:=by omega
    have P:=Q a O;have T:=bZ P N;rw[Uh];by_cases a7:au F i<au F a
    .cases hh:hasF i with
     |false=>
      rw[hh]at c3;exact Gy
      all_goals simp
     |true=>
      rw[hh]at c3;exact Gy
      all_goals (first|(simp[a7];done)|(intros;omega))
    .skip
     refine Gz ?_
     all_goals (first|(simp[a7];done)|(intros;omega))
  .rw[U0 h0]
   exact Gy
   all_goals simp
 have ca:i=n:=by omega
 subst ca;by_cases h0:0<=aS F hasF i
 case neg=>
  have D:aS F hasF i=-1:=by omega
  have v:sm i F (ab s) hasF=([],false):=by simp[sm,D]
  rw[v];rw[D]at g5;exact Gy
 obtain⟨a,M⟩:=Vm h0;obtain⟨L,_⟩:=hA.2.2 h0
 have v:sm i F (ab s) hasF=((List.range (au F a).toNat).map (kv F (ab s) a),true):=by simp[sm,M]
 rw[v];rw[M]at g5 hA L;rw[Uh]at L
 have O:a<i:=by omega
 have a6:=a5 O L
 have N:a<F.length:=by omega
 have P:=Q a O;have T:=bZ P N;have cM:=b0 a;have ck:i64.wrap (au F a-1)=au F a-1:=aa;clear a5 h0 v
 with_reducible repeat' (first|refine Sp.h ?_|((first|refine Wh [54] ?_|refine Wi [54] ?_|refine Ss.h ?_|(refine Sb.h ?_ ?_ ?_<;>(try intro hgd)<;>try exact Xy))<;>simp -implicitDefEqProofs (maxSteps:=2000000) [hP,hN,g1,g4,g5,ar,a1,a2,z,c,d,N,P,T,ck]<;>try refine Ya ?_)|refine X2 ?_ ?_|(refine Xd ?_ ?_<;>intro hcd<;>try exact Xx))
 refine WP.loopN [] (au F a).toNat (λr st=>st.t 1=.ptr 1 0/\st.t 4=.pv (.sl (F.map Z))/\st.t 5=.pv (Z (kv F (ab s) a r:Int))/\st.t 8=.arr 54 (r+1)/\st.t 9=.pv (Z (au F a-1-r))/\st.h 1=some (.box [.pv (nu s),.pv (zs p),.pv (zs q),.pv (.val (.func (.func g) #[] #[]))] true false)/\st.h 54=some (.row 3 1 ((List.range (r+1)).map λm=>Z (kv F (ab s) a m:Int)) 0)/\(r:Int)<au F a) (by simp[kv,g1,g4,g5,z,L]) ?_;clear g1 g4 g5 ar a1 a2 z c d st hi;rintro r st hr ⟨g1,g4,g5,K,G,z,c,bq⟩;obtain⟨_,cB,cz,bc⟩:=a6 r bq;by_cases d:0<au F a-1-r
 .have hz:=bc (by omega)
  have o:kv F (ab s) a (r+1)=(nP F (au F a-1-r) (ab s (kv F (ab s) a r)) (ab s (kv F (ab s) a r)).length).toNat:=rfl
  have W:s.near[kv F (ab s) a r]?=some (ab s (kv F (ab s) a r)):=by simp[ab,an (by omega:kv F (ab s) a r<s.near.length)]
  have bb:kv F (ab s) a r<s.near.length:=by omega
  have U:=bZ W bb;have cw:=ba (kv F (ab s) a r);have cd:∀x∈ab s (kv F (ab s) a r),x<i:=λx hx=>(cf _ x hx).1;have bs:=FB (λm=>Z (kv F (ab s) a m:Int)) (r+1)
  with_reducible repeat' (first|refine Sp.h ?_|((first|refine Wd ?_|refine Ss.h ?_|(refine Sb.h ?_ ?_ ?_<;>(try intro hgd)<;>try exact Xy))<;>simp -implicitDefEqProofs (maxSteps:=2000000) [hP,hN,g1,g4,g5,K,G,z,c,d,W,bb,U,ch]<;>try refine Ya ?_)|refine X2 ?_ ?_|(refine Xd ?_ ?_<;>intro hcd<;>try exact Xx))
  clear W U a6 bc;generalize cu:ab s (kv F (ab s) a r)=l at *;obtain⟨m,cg⟩:∃m,m=au F a-1-r:=⟨_,rfl⟩;rw[<-cg]at hz o G d;refine WP.loopN [] l.length (λj st=>st.t 1=.ptr 1 0/\st.t 4=.pv (.sl (F.map Z))/\st.t 8=.arr 54 (r+1)/\st.t 9=.pv (Z m)/\st.t 10=.pv (Z (nP F m l j))/\st.t 71=.pv (uV l)/\st.t 72=.pv (Z l.length)/\st.t 73=.pv (Z j)/\st.h 1=some (.box [.pv (nu s),.pv (zs p),.pv (zs q),.pv (.val (.func (.func g) #[] #[]))] true false)/\st.h 54=some (.row 3 1 ((List.range (r+1)).map λm=>Z (kv F (ab s) a m:Int)) 0)) (by simp[nP,g1,g4,K,G,z,c]) ?_;clear g1 g4 g5 K G z c st;rintro j st hj ⟨g1,g4,K,G,A,H,I,J,z,c⟩;by_cases e:j<l.length
  .have X:=am e (by omega)
   have hx:l[j]?=some l[j]:=an e;have cn:=cd _ (Ul e)
   have bH:nP F m l (j+1)=if(au F l[j]==m)&&(nP F m l j==-1||decide ((l[j]:Int)<nP F m l j))then(l[j]:Int)else nP F m l j:=by simp only[nP,hx]
   rw[bH];clear bH;generalize ad:l[j]=x at *
   have S:x<F.length:=by omega
   have R:=Q x cn;have E:=bZ R S;generalize nP F m l j=y at *;by_cases h1:au F x=m
   .by_cases h2:y=-1
    .subst h2
     exact GS (zAe g1 g4 K G A H I J z c e X hx ad (it S R E h1))
     all_goals simp[h1]
    .by_cases h3:(x:Int)<y
     all_goals
      exact GS (zAe g1 g4 K G A H I J z c e X hx ad (s4 S R E h1 h2 h3))
      all_goals simp[h1,h2,h3]
   .skip
    exact GS (zAe g1 g4 K G A H I J z c e X hx ad (it S R E h1))
    all_goals simp[h1]
  .have cb:j=l.length:=by omega
   subst cb;obtain⟨Y,hY⟩:=Vm hz;rw[hY,Uh]at o;rw[hY]at A;rw[o]at bs;have cm:i64.wrap (m-1)=m-1:=aa;refine GT (zAe g1 g4 K G A H I J z c e cm o (show(r+1+1)*8<=140737488355328 by omega) (show r+1+1<=9223372036854775807 by omega)) ?_;exact⟨bq,by omega,bs,by omega⟩
 .skip
  refine GT (zAb g1 g4 g5 K G z c d) ?_;rw[show(au F a).toNat=r+1 by omega];rfl
def ir(k _:Int):Bool:=k==1
def iu(k _:Int):Bool:=k !=2
def lL(k j:Int):Bool:=k==1||(k==0&&j != -1)
def n6(k j:Int):Bool:=k==1||(k==0&&j==-1)
theorem SA(k j:Int):aO 85 (Z k) (Z j) (B (ir k j)):=by
 refine Dp func85 λC hP hN=>?_;refine Gz ?_
 all_goals (first|(simp_all[ir];done)|((try simp_all[ir])<;>(try omega)<;>grind))
theorem SC(k j:Int):aO 86 (Z k) (Z j) (B (iu k j)):=by
 refine Dp func86 λC hP hN=>?_;refine Gz ?_
 all_goals (first|(simp_all[iu];done)|((try simp_all[iu])<;>(try omega)<;>grind))
theorem SD(k j:Int):aO 87 (Z k) (Z j) (B (lL k j)):=by
 unfold lL;by_cases c:k=1
 .have b:(k==1)=true:=by simp[c]
  refine Dp func87 λC hP hN=>?_;exact Gy
  all_goals simp[c]
 .have b:(k==1)=false:=by simp[c]
  by_cases d:k=0
  .have a:(k==0)=true:=by simp[d]
   refine Dp func87 λC hP hN=>?_;exact Gy
   all_goals simp[b,a]
  .have a:(k==0)=false:=by simp[d]
   refine Dp func87 λC hP hN=>?_;exact Gy
   all_goals simp[b,a]
theorem SE(k j:Int):aO 88 (Z k) (Z j) (B (n6 k j)):=by
 unfold n6;by_cases c:k=1
 .have b:(k==1)=true:=by simp[c]
  refine Dp func88 λC hP hN=>?_;exact Gy
  all_goals simp[c]
 .have b:(k==1)=false:=by simp[c]
  by_cases d:k=0
  .have a:(k==0)=true:=by simp[d]
   refine Dp func88 λC hP hN=>?_;exact Gy
   all_goals simp[b,a]
  .have a:(k==0)=false:=by simp[d]
   refine Dp func88 λC hP hN=>?_;exact Gy
   all_goals simp[b,a]
structure SpcC(s:Spc)(n:Nat)(tch:Nat->Nat->Bool):Prop where
 ok:SpcOk s n
 sym:∀i j,i<n->j<n->tch i j=tch j i
 cov:∀i p,i<n->(aj s i).low=-1->p<n->(aj s p).low=-1->i≠p->(i∈ab s p↔tch i p=true)
theorem SpcC.cv(h:SpcC s n tch)(f:Int->Int->Bool):∀i p,i<n->bo s f i=true->p<n->bo s f p=true->i≠p->(i∈ab s p↔tch i p=true):=by
 intro i p hi c hp a b;simp only[bo,An,L4]at c a;exact h.cov i p hi c.1 hp a.1 b
theorem SF{g:PV}{a b c:List PV}:∀(i j:Nat),([.pv g,.bx 0,.bx 1,.bx 2]:List Arg)[i]?=some (.bx j)->j< [a,b,c].length
 |0,j,h=>by simp at h
 |1,j,h=>by simp at h;subst h;simp
 |2,j,h=>by simp at h;subst h;simp
 |3,j,h=>by simp at h;subst h;simp
 |i+4,j,h=>by simp at h
theorem JW(s:Spc)(n:Nat)(p q:List Int)(g:FuncId)(f:Int->Int->Bool)(tch:Nat->Nat->Bool)(hs:SpcC s n tch)(b:p.length<=9223372036854775807)(c:q.length<=9223372036854775807)(a:∀k j:Int,bf prog g [.pv (Z k),.pv (Z j)] [] [] (.pv (B (f k j)))):
 bf prog 82 [.pv (.val (.func (.func g) #[] #[])),.bx 0,.bx 1,.bx 2] [[nu s],[zs p],[zs q]] [[nu s],[zs p],[zs q]] (.pv (.tup [uV (eI n (bo s f) (aq s.bx q) (aq s.bx p) tch),B (aX n (bo s f) (aq s.bx q) (aq s.bx p) tch)])):=by
 have e:=KJ s p q g;have l:=LV s n p q g f tch hs.ok b c a hs.sym (hs.cv f);generalize eI n (bo s f) (aq s.bx q) (aq s.bx p) tch=L at *;generalize aX n (bo s f) (aq s.bx q) (aq s.bx p) tch=O at *;refine Ah func82 rfl (by kernel_rfl) (by simp[f82]) rfl (by exact SF) ?_;intro C hP hN;simp only[f82]at hN|-;refine Gz ?_;exact λi d h=>⟨d,h,rfl⟩
def uU(s:Spc)(k:Nat):Bool:=decide ((aj s k).v.kind=0)&&decide (dy s k≠-1)
def jI(s:Spc)(c:List Nat):Int×Int×Int:=match c.find? (uU s)with
 |some k=>((k:Int),dy s k,3)
 |none=>(-1,-1,0)
def pJ(s:Spc)(n:Nat)(p q:List Int)(tch:Nat->Nat->Bool):Int×Int×Int:=
 if aX n (bo s ir) (aq s.bx q) (aq s.bx p) tch=true then(-1,-1,1)
 else if aX n (bo s iu) (aq s.bx q) (aq s.bx p) tch=false then(-1,-1,2)
 else if aX n (bo s lL) (aq s.bx q) (aq s.bx p) tch=true then jI s (eI n (bo s lL) (aq s.bx q) (aq s.bx p) tch)
 else if aX n (bo s n6) (aq s.bx q) (aq s.bx p) tch=true then(-1,-1,5)
 else jI s (eI n (bo s iu) (aq s.bx q) (aq s.bx p) tch)
def rC(s:Spc)(c:List Nat)(i:Nat):Prop:=∀j x,j<i->c[j]?=some x->uU s x=false
theorem rC.step{c:List Nat}(h:rC s c i)(b:c[i]?=some k)(hp:uU s k=false):rC s c (i+1):=by
 intro j x d a;by_cases e:j=i
 .subst e;rw[b]at a;injection a with a;subst a;exact hp
 .exact h j x (by omega) a
theorem Ep{c:List Nat}(h:rC s c c.length):jI s c=(-1,-1,0):=by
 have:c.find? (uU s)=none:=by
  rw[U9];intro x b;obtain⟨j,a⟩:=Uy b;rw[h j x (th.1 a).1 a];simp
 rw[jI,this]
theorem CD{c:List Nat}(h:rC s c i)(b:c[i]?=some k)(hp:uU s k=true):jI s c=((k:Int),dy s k,3):=by
 have:c.find? (uU s)=some k:=by
  obtain⟨hi,rfl⟩:=th.1 b;rw[Ws];refine⟨hp,i,hi,rfl,λj a=>?_⟩;have:=h j _ a (an (by omega));rw[this];rfl
 rw[jI,this]
theorem Er{has:Nat->Bool}(a:∀i j,i<n->j<n->tch i j=tch j i):(eI n may has hasF tch).length<=n/\∀k∈eI n may has hasF tch,k<n:=by
 cases h:aX n may has hasF tch with
 |true=>
  obtain⟨_,b,c,_⟩:=uH a h;refine⟨b,λk e=>?_⟩;obtain⟨j,d⟩:=Uy e;exact(c j k d).1
 |false=>simp[eI,h]
theorem SG(s:Spc)(n:Nat)(p q:List Int)(tch:Nat->Nat->Bool)(hs:SpcC s n tch)(y:p.length<=9223372036854775807)(z:q.length<=9223372036854775807):mm 36 (nu s) (zs p) (zs q) (.tup [Z (pJ s n p q tch).1,Z (pJ s n p q tch).2.1,Z (pJ s n p q tch).2.2]):=by
 have b0:=JW s n p q 85 ir tch hs y z SA;have S:=JW s n p q 86 iu tch hs y z SC;have b1:=JW s n p q 87 lL tch hs y z SD;have b2:=JW s n p q 88 n6 tch hs y z SE;have m1:=Er (n:=n) (may:=bo s lL) (has:=aq s.bx q) (hasF:=aq s.bx p) hs.sym;have m3:=Er (n:=n) (may:=bo s iu) (has:=aq s.bx q) (hasF:=aq s.bx p) hs.sym
 have T:pJ s n p q tch=if aX n (bo s ir) (aq s.bx q) (aq s.bx p) tch=true then(-1,-1,1)else if aX n (bo s iu) (aq s.bx q) (aq s.bx p) tch=false then(-1,-1,2)else if aX n (bo s lL) (aq s.bx q) (aq s.bx p) tch=true then jI s (eI n (bo s lL) (aq s.bx q) (aq s.bx p) tch)else if aX n (bo s n6) (aq s.bx q) (aq s.bx p) tch=true then(-1,-1,5)else jI s (eI n (bo s iu) (aq s.bx q) (aq s.bx p) tch):=rfl
 have ad:=hs.ok.c;have ar:=hs.ok.j;have hn:=hs.ok.n;rw[T];clear T hs;generalize eI n (bo s ir) (aq s.bx q) (aq s.bx p) tch=C0 at *;generalize eI n (bo s lL) (aq s.bx q) (aq s.bx p) tch=e at *;generalize eI n (bo s n6) (aq s.bx q) (aq s.bx p) tch=C2 at *;generalize eI n (bo s iu) (aq s.bx q) (aq s.bx p) tch=f at *;generalize aX n (bo s ir) (aq s.bx q) (aq s.bx p) tch=U at *;generalize aX n (bo s lL) (aq s.bx q) (aq s.bx p) tch=V at *;generalize aX n (bo s n6) (aq s.bx q) (aq s.bx p) tch=W at *;generalize aX n (bo s iu) (aq s.bx q) (aq s.bx p) tch=X at *
 cases U with
 |true=>
  simp only[Ui];refine Dp func36 λC hP hN=>?_;exact Gy
 |false=>
 simp only[T3,Ud]
 cases X with
 |false=>
  simp only[Ui];refine Dp func36 λC hP hN=>?_;exact Gy
 |true=>
 simp only[Bool.true_eq_false,Ud]
 cases V with
 |true=>
  simp only[Ui];obtain⟨L,l⟩:=m1;refine Dp func36 λC hP hN=>?_;refine Gz ?_;refine WP.loopN [] (e).length (λi st=>st.t 3=.ptr 3 0/\st.h 3=some (.box [.pv (nu s)] true false)/\st.t 47=.pv (uV (e))/\st.t 48=.pv (Z (e).length)/\st.t 49=.pv (Z i)/\rC s (e) i) ?_ ?_
  .simp
   exact λj x hj=>by omega
  rintro i st hi ⟨g3,S,N,O,P,a⟩;by_cases g:i<(e).length
  .have M:(i:Int)<((e).length:Int):=by omega
   have R:=am g (by omega);generalize G:(e)[i]=k at *
   have u:(e)[i]?=some k:=by rw[an g,G]
   have Q:=l k (Is u)
   have F:k<s.cells.length:=by omega
   have H:k<s.jn.length:=by omega
   have E:s.jn[k]?=some (dy s k):=by simp[dy,an H]
   have K:∀h,s.jn[k]'h=dy s k:=λh=>bZ E h;have Y:=LU s k F;have b:uU s k=(decide ((aj s k).v.kind=0)&&decide (dy s k≠-1)):=rfl;have m:=CD a u;generalize(aj s k).v.kind=J at *;generalize dy s k=I at *;by_cases o:J=0
   .have A:(J==0)=true:=by simp[o]
    by_cases r:I=-1
    .have B:(I != -1)=false:=by simp[r]
     have d:rC s (e) (i+1):=rC.step a u (by rw[b];simp[r]);exact Gy
     all_goals exact d
    .have B:(I != -1)=true:=by simp[r]
     rw[m (by rw[b];simp[o,r])];exact Gy
   .have A:(J==0)=false:=by simp[o]
    have d:rC s (e) (i+1):=rC.step a u (by rw[b];simp[o]);exact Gy
    all_goals exact d
  .have D:i=(e).length:=by omega
   subst D;rw[Ep a];exact Gy
 |false=>
 simp only[T3,Ud]
 cases W with
 |true=>
  simp only[Ui];refine Dp func36 λC hP hN=>?_;exact Gy
 |false=>
  simp only[T3,Ud];obtain⟨L,l⟩:=m3;refine Dp func36 λC hP hN=>?_;refine Gz ?_;refine WP.loopN [] (f).length (λi st=>st.t 3=.ptr 3 0/\st.h 3=some (.box [.pv (nu s)] true false)/\st.t 47=.pv (uV (f))/\st.t 48=.pv (Z (f).length)/\st.t 49=.pv (Z i)/\rC s (f) i) ?_ ?_
  .simp
   exact λj x hj=>by omega
  rintro i st hi ⟨g3,S,N,O,P,a⟩;by_cases g:i<(f).length
  .have M:(i:Int)<((f).length:Int):=by omega
   have R:=am g (by omega);generalize G:(f)[i]=k at *
   have u:(f)[i]?=some k:=by rw[an g,G]
   have Q:=l k (Is u)
   have F:k<s.cells.length:=by omega
   have H:k<s.jn.length:=by omega
   have E:s.jn[k]?=some (dy s k):=by simp[dy,an H]
   have K:∀h,s.jn[k]'h=dy s k:=λh=>bZ E h;have Y:=LU s k F;have b:uU s k=(decide ((aj s k).v.kind=0)&&decide (dy s k≠-1)):=rfl;have m:=CD a u;generalize(aj s k).v.kind=J at *;generalize dy s k=I at *;by_cases o:J=0
   .have A:(J==0)=true:=by simp[o]
    by_cases r:I=-1
    .have B:(I != -1)=false:=by simp[r]
     have d:rC s (f) (i+1):=rC.step a u (by rw[b];simp[r]);exact Gy
     all_goals exact d
    .have B:(I != -1)=true:=by simp[r]
     rw[m (by rw[b];simp[o,r])];exact Gy
   .have A:(J==0)=false:=by simp[o]
    have d:rC s (f) (i+1):=rC.step a u (by rw[b];simp[o]);exact Gy
    all_goals exact d
  .have D:i=(f).length:=by omega
   subst D;rw[Ep a];exact Gy
theorem qZ{c:Cel}(h:s.cells[i]?=some c):aj s i=c:=by simp[aj,h]
def mW{α β:Type}(f:α->Option β):List α->Option (List β)
 |[]=>some []
 |x::r=>match f x,mW f r with
  |some y,some ys=>some (y::ys)
  |_,_=>none
theorem tF{α β:Type}{f:α->Option β}:∀{l:List α}{r:List β},mW f l=some r->l.length=r.length/\∀(i:Nat) y,r[i]?=some y->∃x,l[i]?=some x/\f x=some y
 |[],r,h=>by simp only[mW]at h;injection h with h;subst h;exact⟨rfl,λi y d=>by simp at d⟩
 |x::l,r,h=>by
  simp only[mW]at h;split at h
  .rename_i y ys b c
   injection h with h;subst h;obtain⟨g1,g2⟩:=tF c;refine⟨by simp[g1],λi z a=>?_⟩
   cases i with
   |zero=>simp at a;subst a;exact⟨x,rfl,b⟩
   |succ i=>simpa using g2 i z (by simpa using a)
  .cases h
theorem D5{α β:Type}{f:α->Option β}:∀{l:List α}{r:List β},l.length=r.length->(∀(i:Nat) x y,l[i]?=some x->r[i]?=some y->f x=some y)->mW f l=some r
 |[],[],_,_=>rfl
 |[],_::_,h,_=>by simp at h
 |_::_,[],h,_=>by simp at h
 |x::l,y::r,h,c=>by
  have d:=c 0 x y rfl rfl;have e:=D5 (f:=f) (l:=l) (r:=r) (by simpa using h) (λi a b g j=>c (i+1) a b (by simpa using g) (by simpa using j));simp only[mW,d,e]
def Le:PV->Bool
 |.sl _=>true
 |_=>false
def iH(h:Hp):Nat->AV->Option PV
 |_,.pv p=>some p
 |0,_=>none
 |_+1,.arr k n=>if inK k=true then match h k with
  |some (.row _ _ xs _)=>if xs.length=n then some (.sl xs)else none
  |_=>none else none
 |d+1,.ext (.barr k n _)=>if inK k=true then match h k with
  |some (.box b _ _)=>match mW (iH h d) (b.take n)with
   |some a=>if a.length=n/\a.all Le=true then some (.sl a)else none
   |none=>none
  |_=>none else none
 |d+1,.ptr k c=>if inK k=true then match h k with
  |some (.box b _ _)=>match mW (iH h d) b with
   |some a=>some (.rptr (.agg a) c)
   |none=>none
  |_=>none else none
 |_+1,_=>none
def rm(h:Hp):Hp:=λk=>if inK k=true then none else h k
def ON:Blk->Bool
 |.box _ o _=>o
 |.row _ _ _ _=>true
 |.mp _ _ _ _=>false
def u9(h:Hp):Prop:=∀k a,inK k=true->h k=some a->ON a=true
section
variable {C:Cx} {L:Nat->Loc} {h:Hp} {w:World}
theorem AM{b:Blk}(e:rm h k=some b):inK k=false/\h k=some b:=by
 grind [rm]
theorem xQ{b o:Nat}(c:ae C L (rm h) b o):ae C L h b o:=by
 rcases c with c|⟨k,a,e,f,d,hf⟩
 .exact .inl c
 .exact .inr ⟨k,a,(AM e).2,f,d,hf⟩
theorem xR(d:MemL C L h w)(r:u9 h){blk:Blk}(hi:inK k=true)(c:h k=some blk)(i:blk.live (L k))(o:Nat):¬ae C L (rm h) (L k).b o:=by
 rintro(q|⟨u,l,m,n,p,_⟩)
 .have s:=d.m0 _ _ q
  have g:=d.own k _ c
  have h8:C.w0.heap.size<=(L k).b\/(C.S (L k).b/\∀o,¬C.M0 (L k).b o):=by
   have a:=r k blk hi c
   cases blk with
   |box v own f=>
    have a:own=true:=a;subst a;exact g
   |row e sz xs f=>exact g.row i
   |mp=>cases a
  grind
 .obtain⟨j,g1⟩:=AM m
  exact d.sep u k l blk (λe=>by rw[e,hi]at j;cases j) g1 c n i p
theorem Km(l:MemL C L h w)(n:u9 h){xs:List PV}(hi:inK k=true)(g:h k=some (.row e sz xs fz)):Rep w (ae C L (rm h)) (.sl xs) ((L k).slice xs.length):=by
 obtain⟨g1,g2,g3,g4,g5⟩:=l.bl k _ g
 cases hn:(L k).isNil with
 |true=>
  have:=g4 hn;subst this;simp only[Loc.slice,hn,Ui];exact .sl0 _ _
 |false=>
  obtain⟨m,q,arr,a3,a4,f⟩:=g5 hn;simp only[Loc.slice,hn,T3,Ud];refine .sl xs (L k).b 0 (L k).cap sz (λi j=>(arr[i*sz+j]?).getD default) m (λi x a=>g3 x (Is a)) (λi x j p a c=>?_) (λi x j p a c=>?_)
  .obtain⟨u,d,_⟩:=f i x j p a c
   refine⟨?_,xR l n hi g hn _⟩;rw[eT a3,UY,d];rfl
  .obtain⟨u,d,o⟩:=f i x j p a c
   rw[d];exact o.mono (Pres.sub λ_ _=>xQ)
theorem Kn(F:MemL C L h w)(N:u9 h):∀(d:Nat){x:AV}{p:PV}{u:Value},iH h d x=some p->RepA w (ae C L h) L h x u->Rep w (ae C L (rm h)) p u:=by
 have base:∀{q p:PV}{u:Value},some q=some p->RepA w (ae C L h) L h (.pv q) u->Rep w (ae C L (rm h)) p u:=by
  intro q p u e f;injection e with e;subst e
  cases f with
  |pv f=>exact f.mono (Pres.sub λ_ _=>xQ)
 intro d
 induction d with
 |zero=>
  intro x p u a f
  cases x with
  |pv q=>exact base (by simpa only[iH]using a) f
  |_=>simp[iH]at a
 |succ d ih=>
  intro x p u a f
  cases x with
  |pv q=>exact base (by simpa only[iH]using a) f
  |arr k n=>
   simp only[iH]at a;split at a
   .rename_i hi
    split at a
    .rename_i e sz xs fz A
     split at a
     .rename_i hn
      injection a with a;subst a
      cases f with
      |arr D O Q=>
       grind [Km]
     .cases a
    .cases a
   .cases a
  |ptr k J=>
   simp only[iH]at a;split at a
   .rename_i hi
    split at a
    .rename_i K own fz A
     split at a
     .rename_i z y
      injection a with a;subst a;obtain⟨m1,m2⟩:=tF y
      cases f with
      |ptr D=>
       obtain⟨arr,ty,a3,a4⟩:=F.bl k _ A;have hn:=xR F N hi A trivial
       have o:∀(j:Nat) q,z[j]?=some q->∃v,arr[j]?=some v/\Rep w (ae C L (rm h)) q v:=by
        intro j q hq;obtain⟨x,B,m⟩:=m2 j q hq
        have s:j<arr.toList.length:=by rw[<-a4.1];exact(th.1 B).1
        have g:arr.toList[j]?=some (arr.toList[j]):=an s;exact⟨arr.toList[j],by rw[<-UN];exact g,ih m (a4.2 j x _ B g)⟩
       have:=Rep.rptr (w:=w) (M:=ae C L (rm h)) (.agg z) (L k).b 0 J (λj=>(arr[j]?).getD default) (λj q hq=>?_) (λj q hq=>?_)
       .grind
       .obtain⟨v,g,_⟩:=o j q hq
        refine⟨?_,hn _⟩;rw[UY,eT a3,g];rfl
       .obtain⟨v,g,f⟩:=o j q hq
        grind
     .cases a
    .cases a
   .cases a
  |ext x=>
   cases x with
   |barr k n c=>
    simp only[iH]at a;split at a
    .rename_i hi
     split at a
     .rename_i K own fz A
      split at a
      .rename_i z y
       split at a
       .rename_i l
        injection a with a;subst a;obtain⟨H,l⟩:=l;obtain⟨m1,m2⟩:=tF y
        have E:∀q∈z,q.cells=[q]:=by
         intro q hq;have:=TY.1 l q hq
         cases q<;>first|rfl|cases this
        cases f with
        |ext I=>
         cases I with
         |barr P D=>
          obtain⟨arr,ty,a3,a4⟩:=F.bl k _ A;have hn:=xR F N hi A trivial
          have o:∀(j:Nat) q,z[j]?=some q->∃v,arr[j]?=some v/\Rep w (ae C L (rm h)) q v:=by
           intro j q hq;obtain⟨x,B,m⟩:=m2 j q hq
           have B:K[j]?=some x:=by
            grind
           have s:j<arr.toList.length:=by rw[<-a4.1];exact(th.1 B).1
           have g:arr.toList[j]?=some (arr.toList[j]):=an s;exact⟨arr.toList[j],by rw[<-UN];exact g,ih m (a4.2 j x _ B g)⟩
          rw[<-H]
          have G:∀{i j:Nat}{q r:PV},z[i]?=some q->q.cells[j]?=some r->j=0/\r=q:=by
           grind
          refine .sl z (L k).b 0 c 1 (λi _=>(arr[i]?).getD default) (by omega) (λi q hq=>by rw[E q (Is hq)];rfl) (λi q j r hq f=>?_) (λi q j r hq f=>?_)
          .obtain⟨rfl,rfl⟩:=G hq f
           grind [eT]
          grind
       .cases a
      .cases a
     .cases a
    .cases a
   |_=>simp[iH]at a
  |_=>simp[iH]at a
def JI(C:Cx)(Q:St->Prop)(f:Operand)(xs:List Operand)(d:Option Nat)(st:St):Prop:=
 ∃g b a,cF (st.ev f)=some (g,[],[])/\u9 st.h/\mW (iH st.h 3) (xs.map st.ev)=some b/\bf C.P g (b.map .pv) [] [] (.pv a)/\qV a=true/\dr C.N d=true/\Q (st.put d (.pv a) [])
theorem WP.lend{id:Nat}{pre post:List Oper}(l:ops.toList=pre++o::post)(H:o.op=.call {callee:=.value f,args:=xs.toArray,argTypes:=ats})(hg:o.guard=none)
 (hq:dR C.P hn C.N ops (JI C (dR C.P hn C.N ops (Q .normal) post) f xs o.dst) pre st):WP C (.region id ops false) Q st:=by
 intro a w hs;refine wp_region_list ?_;rw[l];refine iO (λad r q R M=>?_) hs hq;obtain⟨g,ps,a2,A,F,I,⟨c,_,hD⟩,G,B,hQ⟩:=M;obtain⟨L,n,hN,D,S⟩:=R;refine wpList_step (λK hK=>?_);rw[kV hg,T6 rfl];obtain⟨vs,us,E,U,V⟩:=i8 (dj S f) A;have X:=U.nil_inv;have T:=V.nil_inv;subst X;subst T;obtain⟨m1,m2⟩:=tF I
 have d:=hD q (ae C L (rm ad.h)) [] (xs.map r.eval) (λb o s=>n.mlt (xQ s)) rfl List.nodup_nil (λi b ps s=>by simp at s) (by simp only[Uu]at m1|-;omega) (by
  intro i x v j hv;simp only[T0,TX]at j hv;obtain⟨p,hp,rfl⟩:=j;obtain⟨y,hy,rfl⟩:=hv;obtain⟨z,hz,hc⟩:=m2 i p hp;simp only[T0,TX]at hz;obtain⟨y',e,rfl⟩:=hz;rw[hy]at e;injection e with e;subst e
  exact Kn n F 3 hc (dj S y))
 have m:(execOp r.eval o).run C.P q=.ok (.enter g (xs.map r.eval).toArray) q:=by
  unfold dh at c
  cases k:C.P.funcs[g]? with
  |none=>rw[k]at c;cases c
  |some fn=>
   rw[k]at c;simp only[An,UD,U2,ne_eq]at c
   have hb:fn.body.isNone=false:=by cases ar:fn.body<;>simp_all
   unfold execOp;rw[H];simp only[resolve,E,Deferred.ofValue,pure_bind,Sem.run_bind,Result.andThen_ok,invoke,callFunc,program,Sem.run,k];simp[c.2,hb]
 unfold Oper.wp;rw[m];simp only[Oper.upon];refine d.mono ?_;rintro ee w' ⟨v,rfl,j,_,hr⟩;have Y:Ext (λ_=>False) q w':=⟨j.os,j.tape,j.output,j.size,λb' u _=>j.block b' u (by simp)⟩;obtain⟨g1,g2⟩:=n.grow Y;refine hK _ _ ?_;exact iX (λZ a' w' O J=>⟨Z,O,J⟩) (gy.put n hN D S B (W:=[]) ⟨g1,g2,KC.refl _ _⟩ (.pv (pi G hr))) hQ
theorem WP.lendAt{id:Nat}(n:Nat)(c:ops.toList[n]?=some o)(a:o.op=.call {callee:=.value f,args:=xs.toArray,argTypes:=ats})(b:o.guard=none)
 (hq:dR C.P hn C.N ops (JI C (dR C.P hn C.N ops (Q .normal) (ops.toList.drop (n+1))) f xs o.dst) (ops.toList.take n) st):WP C (.region id ops false) Q st:=by
 grind [WP.lend,List.getElem?_eq_some_iff,List.getElem_cons_drop,List.take_append_drop]
end
theorem WP.of_st{c:Code}{P:St->Prop}(h:P st/\∀st,P st->WP C c Q st):WP C c Q st:=h.2 st h.1
theorem Ev{own:Bool}(g:s.near.length<=4096)(d:∀k,inK k=true->h k=bt own s c k):gw h=bt false s c:=by
 funext k
 unfold gw;by_cases a:inK k=true
 .rw[T6 a,d k a]
  split
  .rename_i e;subst e;rfl
  .rename_i e;unfold bt;rw[TZ e,TZ e]
 .rw[TZ a]
  cases f:bt false s c k with
  |none=>rfl
  |some b=>exact absurd ((oI g).keys k b f) a
theorem IB{own:Bool}{cs:List AV}{f:Bool}(h:bt own s c k=some (.box cs false f)):k=290:=by
 cases own with
 |false=>exact Et h
 |true=>
  unfold bt at h;split at h
  .assumption
  .exfalso
   repeat' split at h
   all_goals first|(injection h with h;injection h;done)|cases h
theorem CI{own:Bool}(i:s.near.length<=4096)(e:∀k,inK k=true->h k=bt own s c k):InOk h:=by
 have hL:LookH (bt own s c):=oI i
 exact⟨λk b o d a=>hL.nf k b o (by rw[<-e k d];exact a),λk b d a=>hL.nm k b (by rw[<-e k d];exact a),λk g o f d a=>hL.cl k g o f (by rw[<-e k d];exact a),λk g f d a=>IB (own:=own) (s:=s) (c:=c) (by rw[<-e k d];exact a),λb a=>by
  rw[e 290 rfl]at a
  exact⟨_,_,_,(UJ a).symm⟩⟩
theorem CJ{own:Bool}{s':Spc}{c':Nat}(a:∀k,inK k=true->h k=bt own s c k)(b:inK k=true):fU h (bt false s' c') k=bt own s' c' k:=by
 unfold fU;rw[T6 b];split
 .rename_i e;subst e
  have:mQ h 290=own:=by simp only[mQ,a 290 rfl];rfl
  rw[this];rfl
 .rename_i e;unfold bt;rw[TZ e,TZ e]
theorem kG(own:Bool)(s:Spc)(c k:Nat):(bt own s c k).map (bT [])=bt own s c k:=by
 have d:(iE s.near++List.replicate c dD).map (aB [])=iE s.near++List.replicate c dD:=by
  refine(List.map_congr_left (g:=id) λx a=>?_).trans (List.map_id _);rcases Uf.1 a with a|a
  .simp only[iE,Uo,UE]at a
   obtain⟨v,e,rfl⟩:=a;simp[aB,bB,aL]
  .rw[(List.mem_replicate.1 a).2]
   simp[aB,bB,aL]
 have b:aB [] (mt s)=mt s:=by unfold aB;rw[CH rfl];rfl
 unfold bt;split
 .show some (Blk.box _ own false)=_
  simp only[U7,WB,b];simp[aB,bB,aL]
 .split
  .split<;>rfl
  .split
   .rfl
   .split
    .simp only[UL,bT,d]
    .split
     .rfl
     .split<;>rfl
theorem G6{own:Bool}(e:k≠293)(hd:295<=d):(bt own s c k).map (bT [d])=bt own s c k:=by
 have b:bB [d] (mt s)=false:=CH (by simp;omega);unfold bt;rw[TZ e];split
 .have a:∀x,bB [d] x=false->aB [d] x=x:=λx h=>by unfold aB;rw[h];rfl
  show some (Blk.box [aB [d] _,aB [d] _,aB [d] _,aB [d] _,aB [d] _] own false)=_;rw[a (.pv _) rfl,a _ b,a (.arr 292 _) (by simp[bB,aL];omega),a (.ext _) (by simp[bB,aL,XV.key];omega),a (.arr 294 _) (by simp[bB,aL];omega)]
 .repeat' split
  all_goals rfl
theorem KL{own:Bool}(hn:s.near.length<=4096)(a:∀k,inK k=true->h k=bt own s c k):iH h 3 (.ptr 290 0)=some (nu s):=by
 have o:=(a 290 rfl).trans (oG own s c);have q:=(a 292 rfl).trans (rd own s c);have r:=(a 293 rfl).trans (oH own s c);have u:=(a 294 rfl).trans (tf own s c)
 have j:iH h 2 (mt s)=some (.sl (s.cells.map bz)):=by
  cases d:s.cc with
  |true=>rw[NI d];rfl
  |false=>
   have p:=(a 291 rfl).trans (rc own s c d);rw[sr d];simp[iH,inK,p]
 have l:iH h 2 (.arr 292 s.bx.length)=some (.sl (s.bx.map iv)):=by simp[iH,inK,q]
 have n:iH h 2 (.arr 294 s.jn.length)=some (.sl (s.jn.map Z)):=by simp[iH,inK,u]
 have m:iH h 2 (.ext (.barr 293 s.near.length (s.near.length+c)))=some (.sl (s.near.map uV)):=by
  have B:(iE s.near++List.replicate c dD).take s.near.length=iE s.near:=by
   rw[VH (by rw[cT];omega),Up (by rw[cT];omega)]
  have A:mW (iH h 1) (iE s.near)=some (s.near.map uV):=by
   refine D5 (by simp[cT]) λi x y b g=>?_
   have hi:i<s.near.length:=by
    have:=(th.1 b).1
    rwa [cT]at this
   rw[mF hi]at b;injection b with b;subst b;simp only[T0,TX]at g;obtain⟨z,C,rfl⟩:=g
   have f:inK (i+300)=true:=by simp[inK];omega
   have v:=(a (i+300) f).trans (l9 hi);simp[iH,f,v,ab,C]
  simp only[iH,inK,r];rw[B,A];simp[Le]
 have e:mW (iH h 2) [.pv (iv s.root),mt s,.arr 292 s.bx.length,.ext (.barr 293 s.near.length (s.near.length+c)),.arr 294 s.jn.length]=some [iv s.root,.sl (s.cells.map bz),.sl (s.bx.map iv),.sl (s.near.map uV),.sl (s.jn.map Z)]:=by
  simp only[mW,j,l,m,n];rfl
 show(if inK 290=true then _ else _)=_;rw[T6 (show inK 290=true from rfl),o];simp only[e]
theorem IC(d:∀k,inK k=true->h k=bt true s c k):u9 h:=by
 intro k b e a;rw[d k e]at a;unfold bt at a
 repeat' split at a
 all_goals first|(cases a;rfl)|cases a
theorem yi{Q:St->Prop}{d:Option Nat}{own:Bool}{a b:Nat}(hP:C.P=prog)(i:cF (st.ev f)=some (80,[],[]))(e:xs.map st.ev=[.ptr 290 0,.pv (Z a),.pv (Z b)])(j:∀k,inK k=true->st.h k=bt own s c k)
 (hn:s.near.length<=4096)(u:a<s.near.length)(y:b<s.near.length)(l:a≠b)(o:s.bx.length=s.near.length)(m:∀x∈s.bx,x.length<=9223372036854775807)(q:∀v,(ab s v).length<=4096)(hd:dr C.N d=true)
 (h:∀r g,(∀k,inK k=true->g k=bt own (fG s a b) c k)->(∀k,inK k=false->g k=(st.h k).map i9)->Q (St.put ⟨λn=>gn (st.t n),g⟩ d r [])):tD C Q f xs d st:=by
 refine⟨_,λ_ g=>g=bt false (fG s a b) c,i,CI hn j,?_,by rw[e];rfl,hd,λr g hL z hp=>?_⟩
 .rw[e,Ev hn j,hP]
  exact Sy s c a b hn u y l o m q
 .have hp:g=_:=hp
  subst hp;exact h r _ (λk p=>CJ j p) (λk p=>by unfold fU;rw[TZ (by rw[p];decide)])
theorem ID(b:∀k,inK k=true->h k=none):gw h=mi:=by
 funext k
 unfold gw;by_cases a:inK k=true
 .rw[T6 a,b k a];split<;>rfl
 .rw[TZ a];rfl
theorem G7(d:∀k,inK k=true->h k=none):InOk h:=
 ⟨λk b o c a=>(by rw[d k c]at a;cases a),λk b c a=>(by rw[d k c]at a;cases a),λk e o f c a=>(by rw[d k c]at a;cases a),λk e f c a=>(by rw[d k c]at a;cases a),λb a=>(by rw[d 290 rfl]at a;cases a)⟩
theorem GW{S G:Prop}(s:S)(h:S->G:=by
 intro hS
 repeat' (first
  |with_reducible refine aI.seq ?_
  |(with_reducible ((first|refine aI.region hF (hn:=[]) (by kernel_rfl) ?_|refine lF (by first|assumption|apply_assumption) ?_|refine aI.cond' ?_);simp -implicitDefEqProofs (maxSteps:=2000000) [hP,hN,hS]))
  |(with_reducible refine gc (by simp[hS]) (λhgd=>?_) (λhgd=>?_)<;>first|(exfalso;simp at hgd;done)|(exfalso;simp at hgd;omega)|simp -implicitDefEqProofs (maxSteps:=2000000) [hP,hN,hS])
  |with_reducible refine eV ?_ ?_
  |(with_reducible refine dY (λhcd=>?_) (λhcd=>?_)<;>(try (exfalso;clear hP hN;simp_all;done))<;>(try (exfalso;simp at *;omega)))
  |with_reducible refine aI.block ?_
  |(with_reducible ((first|refine aI.skip ?_|refine aI.exit ?_|refine aI.ret ?_);simp[hS])))):G:=h s
theorem GV{S G H:Prop}(s:S)(x:H)(h:S->Hid H->G:=by
 intro hS hG0
 repeat' (first
  |with_reducible refine aI.seq ?_
  |(with_reducible ((first|refine aI.region hF (hn:=[]) (by kernel_rfl) ?_|refine lF (by first|assumption|apply_assumption) ?_|refine aI.cond' ?_);simp -implicitDefEqProofs (maxSteps:=2000000) [hP,hN,hS]))
  |(with_reducible refine gc (by simp[hS]) (λhgd=>?_) (λhgd=>?_)<;>first|(exfalso;simp at hgd;done)|(exfalso;simp at hgd;omega)|simp -implicitDefEqProofs (maxSteps:=2000000) [hP,hN,hS])
  |with_reducible refine eV ?_ ?_
  |(with_reducible refine dY (λhcd=>?_) (λhcd=>?_)<;>(try (exfalso;clear hP hN;simp_all;done))<;>(try (exfalso;simp at *;omega)))
  |with_reducible refine aI.block ?_
  |(with_reducible ((first|refine aI.skip ?_|refine aI.exit ?_|refine aI.ret ?_);simp[hS])))
 exact hG0.h):G:=h s ⟨x⟩
abbrev HM(n:Nat):PV:=Z (n:Int)
def iB(t:Tr):List (PV×PV):=(fA t).map λi=>(HM i,iv (ay t (i:Int)))
def uI(a:Act):Nat:=match a.tmps.getD 14 undef with
 |.int _ v=>v.toNat
 |_=>0
def tL(l:Nat)(t:Tr)(i:Nat):Nat->AV:=λm=>if m=0 then .pv (.val (.func (.yield l) #[] #[]))else if m=1 then .pv (.rptr (fg t) 0)else if m=12 then .pv (.sl ((al t).map iv))else if m=13 then .pv (Z (al t).length)else if m=14 then .pv (Z i)else .undef
def fO(l:Nat)(t:Tr)(i:Nat)(st:St):Prop:=st.t 0=.pv (.val (.func (.yield l) #[] #[]))/\st.t 1=.pv (.rptr (fg t) 0)/\st.t 12=.pv (.sl ((al t).map iv))/\st.t 13=.pv (Z (al t).length)/\st.t 14=.pv (Z i)
def tX(l:Nat)(t:Tr)(i:Nat)(x y:Nat)(p q:PV):Nat->AV:=λm=>if m=x then .pv p else if m=y then .pv q else tL l t i m
theorem wg{a:Act}(h:ff 33 M (bM st.t) a w)(j:fO l t i st):ff 33 M (tL l t i) a w:=h.sub (λm=>by
 obtain⟨k,n,e,f,g⟩:=j;unfold tL;by_cases m0:m=0
 .subst m0;right;simp[bM,k]
 by_cases m1:m=1
 .subst m1;right;simp[bM,n]
 by_cases b:m=12
 .subst b;right;simp[bM,e]
 by_cases c:m=13
 .subst c;right;simp[bM,f]
 by_cases d:m=14
 .subst d;right;simp[bM,g]
 .left;simp[m0,m1,b,c,d])
theorem uJ{x y:Nat}{a:Act}(h:ff 33 M (bM st.t) a w)(c:fO l t i st)(d:st.t x=.pv p)(f:st.t y=.pv q):ff 33 M (tX l t i x y p q) a w:=by
 have b:=wg h c;refine⟨h.1,λm=>?_⟩;unfold tX;split
 .rename_i e;subst e
  have:=h.2 m;simp only[bM,d]at this;exact this
 .split
  .rename_i e;subst e
   have:=h.2 m;simp only[bM,f]at this;exact this
  .exact b.2 m
theorem N4{x y:Nat}{c:Nat->AV}{a:Act}(h:ff 33 M c a w)(s:c 0=.pv (.val (.func (.yield l) #[] #[])))(u:c 1=.pv (.rptr (fg t) 0))(j:c 12=.pv (.sl ((al t).map iv)))(k:c 13=.pv (Z (al t).length))(n:c 14=.pv (Z i))(o:c x=.pv p)(r:c y=.pv q):ff 33 M (tX l t i x y p q) a w:=h.sub (λm=>by
 unfold tX tL;by_cases b:m=x
 .subst b;right;simp[o]
 by_cases d:m=y
 .subst d;right;simp[b,r]
 by_cases m0:m=0
 .subst m0;right;simp[s,b,d]
 by_cases m1:m=1
 .subst m1;right;simp[u,b,d]
 by_cases e:m=12
 .subst e;right;simp[j,b,d]
 by_cases f:m=13
 .subst f;right;simp[k,b,d]
 by_cases g:m=14
 .subst g;right;simp[n,b,d]
 .left;simp[m0,m1,e,f,g,b,d])
theorem xJ{t:Tr}{i:Nat}(a:eQ t i=true):∀{n:Nat},i<n->(fN t n)[(fN t i).length]?=some i
 |0,h=>by omega
 |n+1,h=>by
  rw[v9];by_cases e:i=n
  .subst e
   rw[T6 a];simp
  .have ih:=xJ a (n:=n) (by omega)
   have b:=(th.1 ih).1;split
   .rw[T1 b];exact ih
   .exact ih
theorem ff.put{t:Nat->AV}{a:Act}(h:ff N M t a w)(hd:d<N){v:Value}(c:Rep w M p v):ff N M (ag t d (.pv p)) (a.put (some d) v) w:=by
 have b:d<a.tmps.size:=by rw[h.1];exact hd
 refine⟨by simpa[Act.put]using h.1,λm=>?_⟩;rw[ry b];simp only[ag];split
 .exact .inr ⟨p,rfl,c⟩
 .exact h.2 m
theorem Lc{fn:Func}(h:fn.results=#[])(tmps:Array Value)(P:Program)(w:World):(results fn tmps).run P w=.ok (.tuple #[]) w:=by
 unfold results;rw[h];simp[go_sem]
theorem oZ{t:Nat->AV}{a:Act}(h:ff N M t a w){m:Nat}{v:Value}(e:t m=.pv (.val v)):a.tmps.getD m undef=v:=by
 rcases h.2 m with b|⟨p,b,c⟩
 .rw[e]at b;cases b
 .rw[e]at b;injection b with b;subst b
  exact aR c
theorem DD{t:Nat->AV}{a:Act}(h:ff N M t a w){m:Nat}(e:t m=.pv p):Rep w M p (a.tmps.getD m undef):=by
 rcases h.2 m with b|⟨d,b,c⟩
 .rw[e]at b;cases b
 .rw[e]at b;injection b with b;subst b
  exact c
set_option maxRecDepth 100000 in
theorem RF(t:Tr)(hl:t.cells.length<=9223372036854775807):Fk prog 184 [.rptr (fg t) 0] (iB t):=by
 refine⟨by kernel_rfl,λn l lb W M J s j hY h0 U=>?_⟩
 obtain⟨v1,rfl⟩:∃v,lb=[v]:=by
  have:=U.1
  cases lb with
  |nil=>simp at this
  |cons v r=>cases r with
   |nil=>exact⟨v,rfl⟩
   |cons=>simp at this
 have a5:Rep W M (.rptr (fg t) 0) v1:=U.2 0 _ _ rfl rfl;have hF:=gJ;have cb:=Jr t hl;refine callsIn_of_wp_marks func184 rfl trivial ?_ rfl
 have H0:ff 33 M (λm=>if m=0 then .pv (.val (.func (.yield l) #[] #[]))else if m=1 then .pv (.rptr (fg t) 0)else .undef) {tmps:=((#[Value.func (.yield l) #[] #[]]:Array Value)++[v1].toArray)++Array.replicate (f184.ntmps-((#[Value.func (.yield l) #[] #[]]:Array Value)++[v1].toArray).size) undef,defers:=[]} W:=by
  refine⟨by rw[ntmps184];simp,λm=>?_⟩;by_cases m0:m=0
  .subst m0;exact .inr ⟨_,rfl,by simp;exact .val _⟩
  .by_cases m1:m=1
   .subst m1;exact .inr ⟨_,rfl,by simpa using a5⟩
   .left;simp[m0,m1]
 refine wpIn_seq (wpIn_mono (H0.step (s 0 M W h0) (Q:=λe b=>e=.normal/\b.t 0=.pv (.val (.func (.yield l) #[] #[]))/\b.t 1=.pv (.rptr (fg t) 0)/\b.t 3=.pv (.sl ((al t).map iv))) (λC hP hN=>?_)) ?_)
 .skip
  exact GW trivial
 rintro e F G ⟨a8,⟨rfl,g0,g1,g3⟩,X,E,y⟩;have q:=j 0 M W G h0 E
 have ba:ff 33 M (λm=>if m=0 then .pv (.val (.func (.yield l) #[] #[]))else if m=1 then .pv (.rptr (fg t) 0)else if m=3 then .pv (.sl ((al t).map iv))else .undef) F G:=X.sub (λm=>by
  by_cases m0:m=0
  .subst m0;right;simp[bM,g0]
  .by_cases m1:m=1
   .subst m1;right;simp[bM,g1]
   .by_cases m3:m=3
    .subst m3;right;simp[bM,g3]
    .left;simp[m0,m1,m3])
 show Code.wpIn Fence.wide n prog _ _ F G;refine wpIn_seq (wpIn_mono (ba.step (s 0 M G q) (Q:=λe b=>e=.normal/\b.t 0=.pv (.val (.func (.yield l) #[] #[]))/\b.t 1=.pv (.rptr (fg t) 0)/\b.t 12=.pv (.sl ((al t).map iv))/\b.t 13=.pv (Z (al t).length)/\b.t 14=.pv (Z 0)) (λC hP hN=>?_)) ?_)
 .skip
  exact GW trivial
 rintro e a2 w2 ⟨ca,⟨rfl,k0,k1,b3,b4,b5⟩,H2,T,K⟩;have A:=j 0 M G w2 q T
 have bb:ff 33 M (tL l t 0) a2 w2:=H2.sub (λm=>by
  unfold tL;by_cases m0:m=0
  .subst m0;right;simp[bM,k0]
  by_cases m1:m=1
  .subst m1;right;simp[bM,k1]
  by_cases b7:m=12
  .subst b7;right;simp[bM,b3]
  by_cases b8:m=13
  .subst b8;right;simp[bM,b4]
  by_cases b9:m=14
  .subst b9;right;simp[bM,b5]
  .left;simp[m0,m1,b7,b8,b9])
 have D:a2.defers=[]:=by rw[K,y]
 clear X ba H2 H0 g0 g1 g3 k0 k1 b3 b4 b5 E T y K q h0;show Code.wpIn Fence.wide n prog _ _ a2 w2;refine wpIn_block (wpIn_loop (λa w=>∃i M',i<=(al t).length/\J (fN t i).length M' w/\ff 33 M' (tL l t i) a w/\a.defers=[]) (λa _=>(al t).length-uI a) ⟨0,M,UO _,by simpa[fN]using A,bb,D⟩ ?_);clear A bb D a2 w2 ca F G a8;rintro a w ⟨i,M',hi,hJ,hH,D⟩
 have cS:uI a=i:=by simp[uI,oZ hH (m:=14) (v:=.int .i64 i) (by simp[tL])]
 have bs:=s _ _ _ hJ;by_cases f:i<(al t).length
 .have R:aK t=true:=by
   cases h:aK t with
   |true=>rfl
   |false=>
    have:al t=[]:=by
     simp only[aK]at h;simp[al,Option.isSome_eq_false_iff.1 h |> WI.1]
    rw[this]at f;simp at f
  have cU:=fL R
  have k:i<t.cells.length:=by omega
  have hz:=eG.1 (jR R);generalize hc:t.cells[i]=c at *
  have x:t.cells[i]?=some c:=by rw[an k,hc]
  obtain⟨cj,cQ,_⟩:=kS R (c:=(i:Int)) k;have u:(al t)[i]?=some (ay t i):=cj;have z:=bZ u f;have S:i64.wrap ((i:Int)+1)=(i:Int)+1:=aa;have cl:=Jv c;have g:=v9 t i
  have N:eQ t i=dA c:=by simp[eQ,x]
  rw[N]at g;refine wpIn_seq (wpIn_mono (hH.step bs (Q:=λe b=>e=.normal/\fO l t i b/\b.t 15=.pv (.val (.bool true))) (λC hP hN=>?_)) ?_)
  .skip
   repeat' (first
    |with_reducible refine aI.seq ?_
    |(with_reducible ((first|refine aI.region hF (hn:=[]) (by kernel_rfl) ?_|refine aI.cond' ?_);simp -implicitDefEqProofs (maxSteps:=2000000) [hP,hN,tL,fO,f]))
    |(with_reducible refine gc (by simp[tL,fO,f]) (λhgd=>?_) (λhgd=>?_)<;>first|(exfalso;simp at hgd;done)|(exfalso;simp at hgd;omega)|simp -implicitDefEqProofs (maxSteps:=2000000) [hP,hN,tL,fO,f])
    |with_reducible refine eV ?_ ?_
    |(with_reducible refine dY (λhcd=>?_) (λhcd=>?_)<;>(try (exfalso;clear hP hN;simp_all;done))<;>(try (exfalso;simp at *;omega)))
    |with_reducible refine aI.block ?_
    |(with_reducible ((first|refine aI.skip ?_|refine aI.exit ?_|refine aI.ret ?_);simp[tL,fO,f])))
  rintro e F G ⟨a8,⟨rfl,cq,ad⟩,X,E,y⟩;have q:=j _ _ _ _ hJ E;have Y:F.eval (.tmp 15)=.bool true:=oZ X (m:=15) (by simp[bM,ad]);have K1:=wg X cq;show Code.wpIn Fence.wide n prog _ _ F G;refine wpIn_seq (wpIn_cond_true Y (wpIn_skip ?_));show Code.wpIn Fence.wide n prog _ _ F G;refine wpIn_seq (wpIn_block ?_);refine wpIn_seq (wpIn_mono (K1.step (s _ _ _ q) (Q:=λe b=>e=.normal/\fO l t i b/\b.t 5=.pv (Z i)/\b.t 6=.pv (iv (ay t i))) (λC hP hN=>?_)) ?_)
  .skip
   repeat' (first
    |with_reducible refine aI.seq ?_
    |(with_reducible ((first|refine aI.region hF (hn:=[]) (by kernel_rfl) ?_|refine aI.cond' ?_);simp -implicitDefEqProofs (maxSteps:=2000000) [hP,hN,tL,fO,f,u,z]))
    |(with_reducible refine gc (by simp[tL,fO,f,u,z]) (λhgd=>?_) (λhgd=>?_)<;>first|(exfalso;simp at hgd;done)|(exfalso;simp at hgd;omega)|simp -implicitDefEqProofs (maxSteps:=2000000) [hP,hN,tL,fO,f,u,z])
    |with_reducible refine eV ?_ ?_
    |(with_reducible refine dY (λhcd=>?_) (λhcd=>?_)<;>(try (exfalso;clear hP hN;simp_all;done))<;>(try (exfalso;simp at *;omega)))
    |with_reducible refine aI.block ?_
    |(with_reducible ((first|refine aI.skip ?_|refine aI.exit ?_|refine aI.ret ?_);simp[tL,fO,f,u,z])))
  rintro e a2 w2 ⟨ca,⟨rfl,cr,h5,h6⟩,H2,T,K⟩;have A:=j _ _ _ _ q T;have K2:=uJ H2 cr h5 h6;have bH:=s _ _ _ A;show Code.wpIn Fence.wide n prog _ _ a2 w2;refine wpIn_seq (wpIn_mono (Q:=λe a3 V=>e=.normal/\∃M3,J (fN t (i+1)).length M3 V/\ff 33 M3 (tX l t i 31 31 (B false) (B false)) a3 V/\a3.defers=[]) ?_ ?_)
  .cases b2:dA c with
   |false=>
    rw[b2]at cl g;rw[TZ (by simp)]at g;refine wpIn_mono (K2.step bH (Q:=λe b=>e=.normal/\fO l t i b/\b.t 31=.pv (.val (.bool false))) (λC hP hN=>?_)) ?_
    .skip
     repeat' (first
      |with_reducible refine aI.seq ?_
      |(with_reducible ((first|refine aI.region hF (hn:=[]) (by kernel_rfl) ?_|refine lF (cl) ?_|refine aI.cond' ?_);simp -implicitDefEqProofs (maxSteps:=2000000) [hP,hN,tX,tL,fO,k,x,hc]))
      |(with_reducible refine gc (by simp[tX,tL,fO,k,x,hc]) (λhgd=>?_) (λhgd=>?_)<;>first|(exfalso;simp at hgd;done)|(exfalso;simp at hgd;omega)|simp -implicitDefEqProofs (maxSteps:=2000000) [hP,hN,tX,tL,fO,k,x,hc])
      |with_reducible refine eV ?_ ?_
      |(with_reducible refine dY (λhcd=>?_) (λhcd=>?_)<;>(try (exfalso;clear hP hN;simp_all;done))<;>(try (exfalso;simp at *;omega)))
      |with_reducible refine aI.block ?_
      |(with_reducible ((first|refine aI.skip ?_|refine aI.exit ?_|refine aI.ret ?_);simp[tX,tL,fO,k,x,hc])))
    rintro e a3 V ⟨cH,⟨rfl,ar,H⟩,O,a7,L⟩;exact⟨rfl,M',by rw[g];exact j _ _ _ _ A a7,uJ O ar H H,by rw[L,K,y];exact D⟩
   |true=>
    rw[b2]at cl g N;rw[T6 rfl]at g;refine wpIn_region_list ?_;rw[<-UW 10 (Array.toList _)];refine dX _ ?_;refine K2.list bH (hn:=[]) (Q:=λb=>fO l t i b/\b.t 25=.pv (.val (.bool true))/\b.t 26=.pv (.val (.func (.yield l) #[] #[]))/\b.t 27=.pv (Z i)/\b.t 28=.pv (iv (ay t i))) (λo ho=>lZ (by kernel_rfl) (VT ho)) ?_ ?_
    .simp -implicitDefEqProofs [tX,tL,fO,k,x,hc]
     refine lF cl ?_;simp -implicitDefEqProofs [tX,tL,fO,k,x,hc]
    intro cH a3 V ⟨ar,bc,cd,cf,cg⟩ O a7 L;have I:=j _ _ _ _ A a7;have ch:=s _ _ _ I
    have cB:(iB t)[(fN t i).length]?=some (HM i,iv (ay t (i:Int))):=by
     have hL:fA t=fN t t.cells.length:=by simp[fA,R]
     simp[iB,hL,xJ N k]
    have hy:=hY (n-1) _ _ M' V _ _ cB I (DD O (m:=27) (by simp[bM,cf])) (DD O (m:=28) (by simp[bM,cg]));refine Fl ?_ rfl rfl rfl (oZ O (m:=26) (by simp[bM,cd])) hy ?_
    .exact eJ (O.sim (P:=prog) ch).2.2 (by simp[fP,bM,bc])
    rintro e w4 ⟨rfl,M4,bq,cw⟩;refine⟨_,rfl,?_⟩;obtain⟨y0,y1,cM,cN,cP⟩:=ar;have H5:=(O.mono cw).put (d:=29) (by decide) (p:=B true) (.val (.bool true));have K5:ff 33 M4 (tX l t i 25 29 (B true) (B true)) (a3.put (some 29) (.bool true)) w4:=N4 H5 (by simp[ag,bM,y0]) (by simp[ag,bM,y1]) (by simp[ag,bM,cM]) (by simp[ag,bM,cN]) (by simp[ag,bM,cP]) (by simp[ag,bM,bc]) (by simp[ag]);refine K5.list (s _ _ _ bq) (hn:=[]) (Q:=λb=>fO l t i b/\b.t 31=.pv (.val (.bool false))) (λo ho c' ck=>by simp at ho;rcases ho with rfl|rfl<;>cases ck) ?_ ?_
    .simp -implicitDefEqProofs [tX,tL,fO]
    intro cW a6 w6 ⟨cu,H⟩ H6 cz cn;refine⟨rfl,M4,?_,uJ H6 cu H H,?_⟩
    .have:(fN t (i+1)).length=(fN t i).length+1:=by rw[g];simp
     rw[this];exact j _ _ _ _ bq cz
    .rw[cn,kB,L,K,y];exact D
  rintro e a3 V ⟨rfl,M3,I,O,L⟩;show Code.wpIn Fence.wide n prog _ _ a3 V;refine wpIn_cond_false (oZ O (m:=31) (by simp[tX])) (wpIn_skip ?_);show Code.wpIn Fence.wide n prog _ _ a3 V;refine wpIn_mono (O.step (s _ _ _ I) (Q:=λe b=>e=.normal/\fO l t (i+1) b) (λC hP hN=>?_)) ?_
  .skip
   repeat' (first
    |with_reducible refine aI.seq ?_
    |(with_reducible ((first|refine aI.region hF (hn:=[]) (by kernel_rfl) ?_|refine aI.cond' ?_);simp -implicitDefEqProofs (maxSteps:=2000000) [hP,hN,tX,tL,fO,S]))
    |(with_reducible refine gc (by simp[tX,tL,fO,S]) (λhgd=>?_) (λhgd=>?_)<;>first|(exfalso;simp at hgd;done)|(exfalso;simp at hgd;omega)|simp -implicitDefEqProofs (maxSteps:=2000000) [hP,hN,tX,tL,fO,S])
    |with_reducible refine eV ?_ ?_
    |(with_reducible refine dY (λhcd=>?_) (λhcd=>?_)<;>(try (exfalso;clear hP hN;simp_all;done))<;>(try (exfalso;simp at *;omega)))
    |with_reducible refine aI.block ?_
    |(with_reducible ((first|refine aI.skip ?_|refine aI.exit ?_|refine aI.ret ?_);simp[tX,tL,fO,S])))
  rintro e a4 w4 ⟨cV,⟨rfl,ct⟩,H4,cx,cm⟩;have K4:=wg H4 ct;refine⟨⟨i+1,M3,by omega,j _ _ _ _ I cx,K4,by rw[cm];exact L⟩,?_⟩
  have cp:uI a4=i+1:=by
   simp only[uI,oZ K4 (m:=14) (v:=.int .i64 ((i+1:Nat):Int)) (by simp[tL])];omega
  show(al t).length-uI a4<(al t).length-uI a;omega
 .have b0:i=(al t).length:=by omega
  refine wpIn_seq (wpIn_mono (hH.step bs (Q:=λe b=>e=.normal/\b.t 15=.pv (.val (.bool false))) (λC hP hN=>?_)) ?_)
  .skip
   repeat' (first
    |with_reducible refine aI.seq ?_
    |(with_reducible ((first|refine aI.region hF (hn:=[]) (by kernel_rfl) ?_|refine aI.cond' ?_);simp -implicitDefEqProofs (maxSteps:=2000000) [hP,hN,tL,f]))
    |(with_reducible refine gc (by simp[tL,f]) (λhgd=>?_) (λhgd=>?_)<;>first|(exfalso;simp at hgd;done)|(exfalso;simp at hgd;omega)|simp -implicitDefEqProofs (maxSteps:=2000000) [hP,hN,tL,f])
    |with_reducible refine eV ?_ ?_
    |(with_reducible refine dY (λhcd=>?_) (λhcd=>?_)<;>(try (exfalso;clear hP hN;simp_all;done))<;>(try (exfalso;simp at *;omega)))
    |with_reducible refine aI.block ?_
    |(with_reducible ((first|refine aI.skip ?_|refine aI.exit ?_|refine aI.ret ?_);simp[tL,f])))
  rintro e F G ⟨a8,⟨rfl,ad⟩,X,E,y⟩;have q:=j _ _ _ _ hJ E;have Y:F.eval (.tmp 15)=.bool false:=oZ X (m:=15) (by simp[bM,ad]);show Code.wpIn Fence.wide n prog _ _ F G;refine wpIn_seq (wpIn_cond_false Y (wpIn_exit ?_));show LeavesInM Fence.wide n prog f184 F.tmps _ F.defers .returning G;rw[y,D];refine⟨_,Lc results184 _ _ _,⟨_,rfl⟩,M',?_⟩
  have b1:(iB t).length=(fN t i).length:=by
   cases R:aK t with
   |true=>
    have:=fL R;rw[b0,this];simp[iB,fA,R]
   |false=>
    have:al t=[]:=by
     simp only[aK]at R;simp[al,Option.isSome_eq_false_iff.1 R |> WI.1]
    rw[b0,this];simp[iB,fA,R,fN]
  rw[b1];exact q
set_option maxRecDepth 100000 in
theorem Gd:wE prog 138:=by
 refine⟨by kernel_rfl,λn args w=>?_⟩;refine callsDIn_of_wpSIn func138 rfl trivial λe g f=>?_;apply wpSIn_seq;apply wpSIn_region
 have a:∀k,k<f138.ntmps->k<args.size+(f138.ntmps-args.size):=by intro k h;omega
 rw[ntmps138]at a;have b:=a 0 (by decide);have c:=a 1 (by decide);have d:=a 2 (by decide);simp[wpOpsSIn,go_sem,recoverD,f,ntmps138,Exit.thenS,b,c,d];refine wpSIn_cond (t:=false) (by simp[Act.eval,b,c,d]) ?_;simp only[T3,Ud];refine wpSIn_of_wpIn rfl (wpIn_skip ?_);cases e
 simp_all[bodyPostS,results,results138]
theorem RG(t:Tr):bk 139 (fg t) (.fn (.func 184) [] [.rptr (fg t) 0]):=by
 refine Dp func139 λC hP hN=>?_;exact Gy
def LI(b a:Nat)(acc:List Nat)(h:Hp):Prop:=(acc=[]/\h b=some (.box [.pv (.val (.slice none 0 0))] false false)/\h a=none)\/(acc≠[]/\h b=some (.box [.arr a acc.length] false false)/\h a=some (.row 3 1 (acc.map HM) 0))
theorem HN{x:PV×PV}(h:(iB t)[i]?=some x):∃e,(fA t)[i]?=some e/\x=(HM e,iv (ay t (e:Int))):=by
 rw[iB,T0,TX]at h;obtain⟨e,a,b⟩:=h;exact⟨e,a,b.symm⟩
theorem Jz{l:List Nat}(h:l[i]?=some e):l.take (i+1)=l.take i++[e]:=by
 obtain⟨a,b⟩:=th.1 h;rw[UK a,b]
theorem DE(t:Tr):(fA t).length<=2048:=by
 cases a:aK t with
 |false=>simp[fA,a]
 |true=>
  have:=eG.1 (jR a);have:=D0 t t.cells.length;simp[fA,a];omega
theorem wK{b:Blk}(e:h k=some b)(d:∀a f,b≠.box a false f):∀a f,h k≠some (.box a false f):=by
 intro a f c;rw[e]at c;injection c with c;exact d a f c
set_option maxRecDepth 100000 in
theorem Tq(t:Tr)(F:aK t=true)(L:t.cells.length<=9223372036854775807):bf prog 79 [.pv (fg t)] [] [] (.nrow 3 1 ((fA t).map HM)):=by
 refine Eh (args:=[fg t]) func79 rfl (by kernel_rfl) (by simp[f79]) ?_;intro C hP hN n;simp only[f79]at hN|-;have hF:=gJ;refine ow.seq n ?_;refine GV trivial ?_;refine ow.defer (pre:=[_]) (hn:=[]) (g:=138) rfl (λo J R D=>by simp at J;subst J;cases D) rfl rfl rfl rfl rfl (by rw[hP];exact Gd) ?_;simp -implicitDefEqProofs [hP,hN];refine ow.range n (gf:=184) (caps:=[.rptr (fg t) 0]) (xs:=iB t) (by rw[hP];exact RF t L) (by rw[hN];decide) (by rw[hN];decide) (ks:=[2]) (hin:=λ_=>[.val (.slice none 0 0)]) (t:=λm=>if m=2 then .ptr 2 0 else .undef) ?_ (λi h=>LI 2 12 ((fA t).take i) h) ?_ ?_ ?_ (by kernel_rfl) (hn:=[]) ?_
 .skip
  have S:=RG t;refine GV trivial ?_
  all_goals (intro m;by_cases M:m=2<;>simp[M])
 .left;simp[kC]
 .intro i h k H hi
  simp at H;subst H;rcases hi with⟨_,G,_⟩|⟨_,G,_⟩
  all_goals exact⟨_,G⟩
 .intro P Q l i x h z v A y O u
  obtain⟨e,K,rfl⟩:=HN O;have B:=Jz K;have N:=DE t
  have I:((fA t).take i).length<=2048:=by rw[UI];omega
  rw[B];generalize(fA t).take i=j at *;have hF:=zk l;have q:=hP;have p:=hN;clear hP hN;have hP:=z.trans q;have hN:=v.trans p;have c:=A.trans q;have b:=y.trans p
  have s:(j.length+1)*8<=140737488355328:=by omega
  have f:j.length+1<=9223372036854775807:=by omega
  rcases u with⟨rfl,d,a⟩|⟨E,d,a⟩
  .skip
   repeat' (first
    |with_reducible refine aI.seq ?_
    |(with_reducible ((first|refine aI.region hF (hn:=[]) (by kernel_rfl) ?_|refine aI.cond' ?_);simp -implicitDefEqProofs (maxSteps:=2000000) [hP,hN,c,b,qa,d,a]))
    |(with_reducible refine gc (by simp[c,b,qa,d,a]) (λhgd=>?_) (λhgd=>?_)<;>first|(exfalso;simp at hgd;done)|(exfalso;simp at hgd;omega)|simp -implicitDefEqProofs (maxSteps:=2000000) [hP,hN,c,b,qa,d,a])
    |with_reducible refine eV ?_ ?_
    |(with_reducible refine dY (λhcd=>?_) (λhcd=>?_)<;>(try (exfalso;clear hP hN;simp_all;done))<;>(try (exfalso;simp at *;omega)))
    |with_reducible refine aI.block ?_
    |(with_reducible ((first|refine aI.skip ?_|refine aI.exit ?_|refine aI.ret ?_);simp[c,b,qa,d,a])))
   all_goals exact .inr ⟨by simp,by simp[ag],by simp[ag]⟩
  .skip
   repeat' (first
    |with_reducible refine aI.seq ?_
    |(with_reducible ((first|refine aI.region hF (hn:=[]) (by kernel_rfl) ?_|refine aI.cond' ?_);simp -implicitDefEqProofs (maxSteps:=2000000) [hP,hN,c,b,qa,d,a,s,f]))
    |(with_reducible refine gc (by simp[c,b,qa,d,a,s,f]) (λhgd=>?_) (λhgd=>?_)<;>first|(exfalso;simp at hgd;done)|(exfalso;simp at hgd;omega)|simp -implicitDefEqProofs (maxSteps:=2000000) [hP,hN,c,b,qa,d,a,s,f])
    |with_reducible refine eV ?_ ?_
    |(with_reducible refine dY (λhcd=>?_) (λhcd=>?_)<;>(try (exfalso;clear hP hN;simp_all;done))<;>(try (exfalso;simp at *;omega)))
    |with_reducible refine aI.block ?_
    |(with_reducible ((first|refine aI.skip ?_|refine aI.exit ?_|refine aI.ret ?_);simp[c,b,qa,d,a,s,f])))
   all_goals exact .inr ⟨by simp,by simp[ag],by simp[ag]⟩
 .intro h u
  have r:(fA t).take (iB t).length=fA t:=Up (by simp[iB]);rw[r]at u;rcases u with⟨e,d,a⟩|⟨E,d,a⟩
  .have:=D2 F
   rw[e]at this;simp at this
  .simp -implicitDefEqProofs [hP,hN,d,a]
def fF(e sz:Nat)(ys:List PV):Hp:=λk=>if k=291 then some (.row e sz ys 0)else none
theorem fV{b:Blk}(h:fF e sz ys k=some b):k=291/\b=.row e sz ys 0:=by
 unfold fF at h;split at h
 .rename_i a;injection h with h;exact⟨a,h.symm⟩
 .cases h
theorem HS{hK:Hp}{g:FuncId}(Z:o.op=.call {callee:=.value f,args:=xs.toArray,argTypes:=ats})(hd:o.dst=some d)(b2:hK d=none)
 (bc:cF (ρ f)=some (g,[],[]))(m:xs.map ρ=args.map AV.pv)(hD:nH P g (args.map .pv) mi (λr h'=>r=.tup [.agg (pre.map .pv++[.arr 291 ys.length]),.pv q]/\h'=fF e sz ys)):
 lW P o ρ hK (.tup [.agg (pre.map .pv++[.arr d ys.length]),.pv q]) [(d,.row e sz ys 0)]:=by
 intro C L h S T hP hm hs hf hρ next Q O
 subst hP;obtain⟨a,a6⟩:=hD
 have bq:h d=none:=by rw[<-(hf d hd).1];exact b2
 have J:∀x,x=f\/x∈xs->RepA S (ae C L h) L h (ρ x) (T.eval x):=λx z=>hρ x (by rw[Z];rcases z with rfl|z<;>simp[Op.operands,Call.operands, *]);obtain⟨vs,us,bs,b9,ca⟩:=i8 (J f (.inl rfl)) bc;have cd:=b9.nil_inv;have b8:=ca.nil_inv;subst cd;subst b8
 have a7:∀b o,uK (ae C L h) L mi b o->ae C L h b o:=by
  rintro b o (M|⟨k,D,c,_⟩)
  .exact M
  .cases c
 have E:=a6 S (ae C L h) L (xs.map T.eval) (λb o M=>hm.mlt M) ⟨λk b c=>(by cases c),λk k' b R _ c=>(by cases c),λk b c=>(by cases c),λk cs f c=>(by cases c)⟩ (by
  rw[<-m];refine⟨by simp,λi p u hp B=>?_⟩;have ad:=hp;rw[m,T0,TX]at ad;obtain⟨p0,_,rfl⟩:=ad;simp only[T0,TX]at hp B;obtain⟨x,z,ch⟩:=hp;obtain⟨y,hy,rfl⟩:=B;rw[z]at hy;injection hy with hy;subst hy;have:=J x (.inr (Is z));rw[ch]at this
  cases this with
  |pv hr=>exact .pv (hr.mono (Pres.sub a7)))
 have ar:(execOp T.eval o).run C.P S=.ok (.enter g (xs.map T.eval).toArray) S:=by
  unfold dh at a
  cases N:C.P.funcs[g]? with
  |none=>rw[N]at a;cases a
  |some fn=>
   rw[N]at a;simp only[An,UD,U2,ne_eq]at a
   have hb:fn.body.isNone=false:=by cases cm:fn.body<;>simp_all
   unfold execOp;rw[Z];simp only[resolve,bs,Deferred.ofValue,pure_bind,Sem.run_bind,Result.andThen_ok,invoke,callFunc,program,Sem.run,N];simp[a.2,hb]
 unfold Oper.wp;rw[ar];simp only[Oper.upon];refine E.mono ?_;rintro ee w' ⟨v,r,A,h',rfl,z,cn,b5,hr,ck,⟨rfl,rfl⟩,_,_,X⟩
 have b3:∀b,¬mP mi L b:=by rintro b ⟨k,D,c,_⟩;cases c
 have b4:∀b,¬jy mi L b:=by rintro b ⟨k,D,c,_⟩;cases c
 have cg:Ext (λ_=>False) S w':=⟨z.os,z.tape,z.output,z.size,λR a8 _=>z.block R a8 (b3 R)⟩
 have G:fF e sz ys 291=some (.row e sz ys 0):=by simp[fF]
 have hb:=b5.bl 291 _ G;have ba:(A 291).isNil=false->S.heap.size<=(A 291).b:=λhn=>(X 291 _ G rfl hn).elim id λM=>absurd M (b4 _)
 have s:∀b o,(ae C L h b o\/((A 291).isNil=false/\b=(A 291).b))->uK (ae C L h) A (fF e sz ys) b o:=by
  rintro b o (M|⟨hn,rfl⟩)
  .exact .inl M
  .exact .inr ⟨291,_,G,hn,rfl,by simp[Blk.frz]⟩
 have bb:dQ w' (λR o=>ae C L h R o\/((A 291).isNil=false/\R=(A 291).b)) (λ_=>default) (λ_=>none) (A 291) (.row e sz ys 0):=by
  obtain⟨c1,c2,c3,c4,c5⟩:=hb;refine⟨c1,c2,c3,c4,λhn=>?_⟩;obtain⟨d1,d2,arr,d3,d4,d5⟩:=c5 hn;refine⟨d1,d2,arr,d3,d4,λi x j p cf hj=>?_⟩;obtain⟨u,B,n⟩:=d5 i x j p cf hj;exact⟨u,B,n.mono (Pres.sub s)⟩
 generalize hl:A 291=l at *;have Y:=kZ (e:=e) (sz:=sz) (xs:=ys) hm cg bq (hf d hd).2 ba bb
 have K:∀b o,ae C (ag L d l) (ag h d (some (.row e sz ys 0))) b o->uK (ae C L h) A (fF e sz ys) b o:=by
  rintro b o (U|⟨k,D,c,I,H,bH⟩)
  .exact .inl (.inl U)
  .by_cases W:k=d
   .subst W
    rw[aJ]at c H I;injection c with c;subst c;exact s b o (.inr ⟨I,H.symm⟩)
   .rw[bL W]at c H I
    exact .inl (.inr ⟨k,D,c,I,H,bH⟩)
 refine O _ _ (ag L d l) (by rw[iQ];exact Y.1) ?_;rw[iQ]
 cases hr with
 |tup _ vs cb hh=>
  refine .tup _ _ (by simpa using cb) (λi p u hp B=>?_)
  match i,hp with
  |0,hp=>
   simp only[Vb,T4]at hp;subst hp;have U:=hh 0 _ u rfl B
   cases U with
   |agg _ us a5 V=>
    have cj:us.length=pre.length+1:=by simpa using a5.symm
    refine .agg _ _ (by simpa using a5) (λi p u hp B=>?_);by_cases hi:i<pre.length
    .rw[T1 (by simpa using hi),T0,an hi]at hp
     simp only[UL,T4]at hp;subst hp;have:=V i (.pv pre[i]) u (by rw[T1 (by simpa using hi),T0,an hi];rfl) B
     cases this with
     |pv n=>exact .pv (n.mono (Pres.sub K))
    .have b1:=(th.1 hp).1
     have b0:i=pre.length:=by simp at b1;omega
     subst b0;rw[T5 (by simp)]at hp;simp only[Uu,VW,Vb,T4]at hp;subst hp;have:=V pre.length (.arr 291 ys.length) u (by rw[T5 (by simp)];simp) B
     cases this with
     |arr F cp b7=>
      rw[G]at F;injection F with F;injection F with T a2 a3 a4;subst a3;rw[b7 rfl,hl];exact Y.2
  |1,hp=>
   simp only[Wb,Vb,T4]at hp;subst hp;have U:=hh 1 (.pv q) u rfl B
   cases U with
   |pv n=>exact .pv (n.mono (Pres.sub K))
  |i+2,hp=>simp at hp
theorem Gk{g:FuncId}(k:o.op=.call {callee:=.value f,args:=xs.toArray,argTypes:=ats})(hd:o.dst=some d)(n:o.guard=none)(i:dr N o.dst=true)(j:st.h d=none)
 (c:cF (st.ev f)=some (g,[],[]))(b:xs.map st.ev=args.map AV.pv)(m:nH P g (args.map .pv) mi (λr l=>r=.tup [.agg (pre.map .pv++[.arr 291 ys.length]),.pv q]/\l=fF e sz ys)):
 nV P hn N ops o st ⟨o.dst,.tup [.agg (pre.map .pv++[.arr d ys.length]),.pv q],[(d,.row e sz ys 0)],[d]⟩:=by
 refine⟨i,rfl,.inl ⟨by simp[fP,n],λd9 a=>by rw[hd]at a;injection a with a;simp[a],?_,by simp⟩⟩;exact HS k hd (by simp[bW,j]) c b m
theorem Gl{c:Code}(d a:Nat){xs:List PV}(hd:st.h d=some (.row e sz xs fz))(b:st.h a=none)(i:d≠a)(g:a<2000000)(h:WP C c Q ⟨λn=>bO d a (st.t n),bC d a st.h⟩):WP C c Q st:=
 WP.ren d a i b g (by rw[hd];intro k f j;cases j) h
theorem WP.freeze{c:Code}(s:Nat){xs:List PV}(j:st.h k=some (.row e sz xs fz))(r:st.t s=.arr k xs.length)(h:WP C c Q ⟨ag st.t s (.pv (.sl xs)),ag st.h k (some (.row e sz xs xs.length))⟩):WP C c Q st:=by
 intro a w q;obtain⟨L,o,hN,i,f⟩:=q;obtain⟨g,m⟩:=y6 o j;refine h a w ⟨L,g.1,hN,i,λn=>?_⟩;have d:=(f n).mono g.2.1 g.2.2;show RepA w _ L _ (ag st.t s (.pv (.sl xs)) n) _;by_cases hn:n=s
 .subst hn
  rw[aJ];have l:=f n;rw[r]at l
  cases l with
  |arr b p u=>
   rw[j]at b;injection b with b;injection b with _ _ a3 _;subst a3;rw[u rfl];exact .pv m
 .rw[bL hn];exact d
theorem DG{t t':TypeId}{x y:Operand}{a b c:Bool}(d:o.op=.binOp .neq t x y t')(e:ρ x=.pv (.val (.bool a)))(f:ρ y=.pv (.val (.bool b)))
 (j:P.eqGuardType P.depth t=false)(h:ao P (Op.equal t (.bool a) (.bool b))=some c):bF P o ρ=some (.pv (.val (.bool !c)),[]):=by
 refine eh (by rw[d];simp[Op.operands,e,f,fp]) ?_;unfold execOp;rw[d];simp only[(bS e).2,(bS f).2]
 have g:ao P (eqGuard .neq t x y (.bool a) (.bool b))=some ():=by
  unfold eqGuard;simp only[Vy,T3,Ud,ah,jD,Ub,j,WH,Ui];rfl
 have i:ao P (binOp .neq t (.bool a) (.bool b))=some (.bool !c):=by
  simp only[binOp,ah,h,Ub];rfl
 simp only[ah,g,i,Ub];rfl
theorem WP.nilsl{c:Code}(s:Nat)(j:st.t s=.pv (.val (.slice none 0 0)))(h:WP C c Q ⟨ag st.t s (.pv (.sl [])),st.h⟩):WP C c Q st:=by
 intro a w i;obtain⟨L,f,hN,d,b⟩:=i;refine h a w ⟨L,f,hN,d,λn=>?_⟩;show RepA w _ L _ (ag st.t s (.pv (.sl [])) n) _;by_cases hn:n=s
 .subst hn
  rw[aJ];have e:=b n;rw[j]at e
  cases e with
  |pv g=>rw[aR g];exact .pv (.sl0 none 0)
 .rw[bL hn];exact b n
abbrev mE(r:Bx)(v:Verd):Tr:=⟨r,[aD v]⟩
def zy(r:Bx)(v:Verd):Spc:={root:=r,cells:=[aD v],bx:=[r],near:=[[]],jn:=[-1]}
theorem KH{r:Bx}{v:Verd}(a:aK (mE r v)=true):fA (mE r v)=[0]:=by
 unfold fA;rw[T6 a];rfl
theorem A5:LookH (fF e sz ys):=
 ⟨λk b a=>by obtain⟨rfl,_⟩:=fV a;rfl,λk b o a=>by obtain⟨_,rfl⟩:=fV a;simp[Blk.frz],λk b a=>by obtain⟨_,rfl⟩:=fV a;rfl,λk d o f a=>by obtain⟨_,c⟩:=fV a;cases c⟩
theorem NG(r:Bx)(v:Verd)(hv:aK (mE r v)=true):nH prog 34 [.agg [.pv (iv r),.arr 291 1]] (fF 58 8 [bz (aD v)]) (λr' h'=>r'=.ptr 290 0/\h'=bt true (zy r v) 0):=by
 have cl:bf prog 79 [.pv (.agg [iv r,.sl [bz ⟨-1,-1,-1,v⟩]])] [] [] (.nrow 3 1 [Z 0]):=by
  have:=Tq (mE r v) hv (by simp);rw[KH hv]at this;exact this
 have O:fF 58 8 [bz (aD v)] 291=some (.row 58 8 [bz (aD v)] 0):=by simp[fF]
 have J:∀k,k≠291->fF 58 8 [bz (aD v)] k=none:=λk h=>by simp[fF,h]
 refine Gi func34 A5 ?_;intro C hP hN;simp only[f34]at hN|-;generalize ar:fF 58 8 [bz (aD v)]=RR at *
 with_reducible repeat' (first|refine Sp.h ?_|((first|refine Wh [1000019] ?_|refine Wi [1000019] ?_|refine Ss.h ?_|(refine Sb.h ?_ ?_ ?_<;>(try intro hgd)<;>try exact Xy))<;>simp -implicitDefEqProofs (maxSteps:=2000000) [hP,hN,sW,O,J,aD]<;>try refine Yc ?_)|refine X2 ?_ ?_|(refine Xd ?_ ?_<;>intro hcd<;>try exact Xx))
 refine WP.loopN [6] 1 (λi st=>st.t 1=.ptr 1 0/\st.t 4=.ptr 23 0/\st.t 32=.arr 291 1/\st.t 33=.pv (Z 1)/\st.t 34=.pv (Z i)/\st.h 6=none/\st.h 78=none/\st.h 1=some (.box [.pv (iv r),.arr 291 1] true false)/\st.h 291=some (.row 58 8 [bz (aD v)] 0)/\st.h 17=some (.row 39 1 [iv r] 0)/\st.h 19=some (.box [dD] true false)/\st.h 21=some (.row 3 1 [if i=0 then Z 0 else Z (-1)] 0)/\st.h 23=some (.box [.pv (iv r),.arr 291 1,.arr 17 1,.ext (.barr 19 1 1),.arr 21 1] true false)/\∀k,290<=k->k≠291->st.h k=none) ?_ ?_
 .simp[St.kill,aB,bT,bB,aL,ag,XV.key,O,J]
  exact λk y s h3=>by simp[s,h3,show¬k=1 by omega,show¬k=17 by omega,show¬k=19 by omega,show¬k=21 by omega,show¬k=23 by omega,J k s]
 rintro i st hi ⟨g1,g4,F,G,I,b6,E,S,a,z,A,u,B,l⟩;by_cases bq:i<1
 .have a1:i=0:=by omega
  subst a1;simp only[Ui]at u
  with_reducible repeat' (first|refine Sp.h ?_|((first|refine Wd ?_|refine Ss.h ?_|(refine Sb.h ?_ ?_ ?_<;>(try intro hgd)<;>try exact Xy))<;>simp -implicitDefEqProofs (maxSteps:=2000000) [hP,hN,g1,g4,F,G,I,b6,E,S,a,z,A,u,B,aD]<;>try refine Yc ?_)|refine X2 ?_ ?_|(refine Xd ?_ ?_<;>intro hcd<;>try exact Xx))
  exact⟨aa (by omega) (by omega),λk y s h3=>by simp[s,h3,show¬k=21 by omega,l k y s]⟩
 .have a2:i=1:=by omega
  subst a2;simp only[Nat.one_ne_zero,Ud]at u
  with_reducible repeat' (first|refine Sp.h ?_|((first|refine Wd ?_|refine Ss.h ?_|refine Sc.h (cl) ?_|(refine Sb.h ?_ ?_ ?_<;>(try intro hgd)<;>try exact Xy))<;>simp -implicitDefEqProofs (maxSteps:=2000000) [hP,hN,g1,g4,F,G,I,b6,E,S,a,z,A,u,B,aD]<;>try refine Yc ?_)|refine X2 ?_ ?_|(refine Xd ?_ ?_<;>intro hcd<;>try exact Xx))
  refine WP.freeze 7 (k:=78) (e:=3) (sz:=1) (fz:=0) (xs:=[Z 0]) (by simp[ag]) (by simp[ag]) ?_;refine WP.freeze 79 (k:=78) (e:=3) (sz:=1) (fz:=1) (xs:=[Z 0]) (by simp[ag]) (by simp[ag]) ?_;refine WP.of_st (P:=λst=>st.t 4=.ptr 23 0/\st.t 7=.pv (.sl [Z 0])/\st.t 79=.pv (.sl [Z 0])/\st.t 80=.pv (Z 1)/\st.t 81=.pv (Z 0)/\st.h 23=some (.box [.pv (iv r),.arr 291 1,.arr 17 1,.ext (.barr 19 1 1),.arr 21 1] true false)/\st.h 17=some (.row 39 1 [iv r] 0)/\st.h 19=some (.box [dD] true false)/\st.h 21=some (.row 3 1 [Z (-1)] 0)/\st.h 291=some (.row 58 8 [bz (aD v)] 0)/\∀k,290<=k->k≠291->k≠23->k≠17->k≠19->k≠21->st.h k=none) ⟨⟨by simp[g4,ag],by simp[ag],by simp[ag],by simp[ag],by simp[ag],by simp[ag,B],by simp[ag,z],by simp[ag,A],by simp[ag,u],by simp[ag,a],λk y s _ _ _ _=>by simp[ag,show¬k=78 by omega,l k y s]⟩,?_⟩;clear g1 g4 F G I b6 E S a z A u B l st;rintro st ⟨g4,p,b,d,g,bx,m,n,o,a,l⟩;refine WP.ren 23 290 (by omega) (l 290 (by omega) (by omega) (by omega) (by omega) (by omega) (by omega)) (by omega) (wK bx (by intro cs f e;cases e)) ?_;refine WP.of_st (P:=λst=>st.t 4=.ptr 290 0/\st.t 7=.pv (.sl [Z 0])/\st.t 79=.pv (.sl [Z 0])/\st.t 80=.pv (Z 1)/\st.t 81=.pv (Z 0)/\st.h 290=some (.box [.pv (iv r),.arr 291 1,.arr 17 1,.ext (.barr 19 1 1),.arr 21 1] true false)/\st.h 17=some (.row 39 1 [iv r] 0)/\st.h 19=some (.box [dD] true false)/\st.h 21=some (.row 3 1 [Z (-1)] 0)/\st.h 291=some (.row 58 8 [bz (aD v)] 0)/\∀k,290<=k->k≠291->k≠290->k≠17->k≠19->k≠21->st.h k=none) ⟨⟨by simp[bO,bp,rk,g4],by simp[bO,bp,p],by simp[bO,bp,b],by simp[bO,bp,d],by simp[bO,bp,g],by simp[bC,cZ,bO,bp,jb,rk,g4,bx,m,n,o,a],by simp[bC,cZ,bO,bp,jb,rk,g4,bx,m,n,o,a],by simp[bC,cZ,bO,bp,jb,rk,g4,bx,m,n,o,a],by simp[bC,cZ,bO,bp,jb,rk,g4,bx,m,n,o,a],by simp[bC,cZ,bO,bp,jb,rk,g4,bx,m,n,o,a],λk y s K L M N=>?_⟩,?_⟩
  .by_cases e:k=23
   .simp[bC,e]
   .simp[bC,e,K,l k y s e L M N]
  clear g4 p b d g bx m n o a l st;rintro st ⟨g4,p,b,d,g,bx,m,n,o,a,l⟩;refine WP.ren 17 292 (by omega) (l 292 (by omega) (by omega) (by omega) (by omega) (by omega) (by omega)) (by omega) (wK m (by intro cs f e;cases e)) ?_;refine WP.of_st (P:=λst=>st.t 4=.ptr 290 0/\st.t 7=.pv (.sl [Z 0])/\st.t 79=.pv (.sl [Z 0])/\st.t 80=.pv (Z 1)/\st.t 81=.pv (Z 0)/\st.h 290=some (.box [.pv (iv r),.arr 291 1,.arr 292 1,.ext (.barr 19 1 1),.arr 21 1] true false)/\st.h 292=some (.row 39 1 [iv r] 0)/\st.h 19=some (.box [dD] true false)/\st.h 21=some (.row 3 1 [Z (-1)] 0)/\st.h 291=some (.row 58 8 [bz (aD v)] 0)/\∀k,290<=k->k≠291->k≠290->k≠292->k≠19->k≠21->st.h k=none) ⟨⟨by simp[bO,bp,rk,g4],by simp[bO,bp,p],by simp[bO,bp,b],by simp[bO,bp,d],by simp[bO,bp,g],by simp[bC,cZ,bO,bp,jb,rk,g4,bx,m,n,o,a],by simp[bC,cZ,bO,bp,jb,rk,g4,bx,m,n,o,a],by simp[bC,cZ,bO,bp,jb,rk,g4,bx,m,n,o,a],by simp[bC,cZ,bO,bp,jb,rk,g4,bx,m,n,o,a],by simp[bC,cZ,bO,bp,jb,rk,g4,bx,m,n,o,a],λk y s K L M N=>?_⟩,?_⟩
  .by_cases e:k=17
   .simp[bC,e]
   .simp[bC,e,L,l k y s K e M N]
  clear g4 p b d g bx m n o a l st;rintro st ⟨g4,p,b,d,g,bx,m,n,o,a,l⟩;refine WP.ren 19 293 (by omega) (l 293 (by omega) (by omega) (by omega) (by omega) (by omega) (by omega)) (by omega) (wK n (by intro cs f e;cases e)) ?_;refine WP.of_st (P:=λst=>st.t 4=.ptr 290 0/\st.t 7=.pv (.sl [Z 0])/\st.t 79=.pv (.sl [Z 0])/\st.t 80=.pv (Z 1)/\st.t 81=.pv (Z 0)/\st.h 290=some (.box [.pv (iv r),.arr 291 1,.arr 292 1,.ext (.barr 293 1 1),.arr 21 1] true false)/\st.h 292=some (.row 39 1 [iv r] 0)/\st.h 293=some (.box [dD] true false)/\st.h 21=some (.row 3 1 [Z (-1)] 0)/\st.h 291=some (.row 58 8 [bz (aD v)] 0)/\∀k,290<=k->k≠291->k≠290->k≠292->k≠293->k≠21->st.h k=none) ⟨⟨by simp[bO,bp,rk,g4],by simp[bO,bp,p],by simp[bO,bp,b],by simp[bO,bp,d],by simp[bO,bp,g],by simp[bC,cZ,bO,bp,jb,rk,g4,bx,m,n,o,a],by simp[bC,cZ,bO,bp,jb,rk,g4,bx,m,n,o,a],by simp[bC,cZ,bO,bp,jb,rk,g4,bx,m,n,o,a],by simp[bC,cZ,bO,bp,jb,rk,g4,bx,m,n,o,a],by simp[bC,cZ,bO,bp,jb,rk,g4,bx,m,n,o,a],λk y s K L M N=>?_⟩,?_⟩
  .by_cases e:k=19
   .simp[bC,e]
   .simp[bC,e,M,l k y s K L e N]
  clear g4 p b d g bx m n o a l st;rintro st ⟨g4,p,b,d,g,bx,m,n,o,a,l⟩;refine WP.ren 21 294 (by omega) (l 294 (by omega) (by omega) (by omega) (by omega) (by omega) (by omega)) (by omega) (wK o (by intro cs f e;cases e)) ?_;refine WP.of_st (P:=λst=>st.t 4=.ptr 290 0/\st.t 7=.pv (.sl [Z 0])/\st.t 79=.pv (.sl [Z 0])/\st.t 80=.pv (Z 1)/\st.t 81=.pv (Z 0)/\st.h 290=some (.box [.pv (iv r),.arr 291 1,.arr 292 1,.ext (.barr 293 1 1),.arr 294 1] true false)/\st.h 292=some (.row 39 1 [iv r] 0)/\st.h 293=some (.box [dD] true false)/\st.h 294=some (.row 3 1 [Z (-1)] 0)/\st.h 291=some (.row 58 8 [bz (aD v)] 0)/\∀k,290<=k->k≠291->k≠290->k≠292->k≠293->k≠294->st.h k=none) ⟨⟨by simp[bO,bp,rk,g4],by simp[bO,bp,p],by simp[bO,bp,b],by simp[bO,bp,d],by simp[bO,bp,g],by simp[bC,cZ,bO,bp,jb,rk,g4,bx,m,n,o,a],by simp[bC,cZ,bO,bp,jb,rk,g4,bx,m,n,o,a],by simp[bC,cZ,bO,bp,jb,rk,g4,bx,m,n,o,a],by simp[bC,cZ,bO,bp,jb,rk,g4,bx,m,n,o,a],by simp[bC,cZ,bO,bp,jb,rk,g4,bx,m,n,o,a],λk y s K L M N=>?_⟩,?_⟩
  .by_cases e:k=21
   .simp[bC,e]
   .simp[bC,e,N,l k y s K L M e]
  clear g4 p b d g bx m n o a l st;rintro st ⟨g4,p,b,d,g,bx,m,n,o,a,l⟩;refine WP.nilRows (λq=>decide (q=300)) 3 293 (cs:=[dD]) (cs':=[.arr 300 0]) (own:=true) (fb:=false) n ?_ rfl ?_ ?_
  .intro q hq
   simp only[L4]at hq;exact⟨l q (by omega) (by omega) (by omega) (by omega) (by omega) (by omega),by omega⟩
  .intro i x hx
   cases i with
   |zero=>simp at hx;exact .inr ⟨rfl,300,by simp,hx.symm⟩
   |succ i=>simp at hx
  refine WP.of_st (P:=λst=>st.t 4=.ptr 290 0/\st.t 7=.pv (.sl [Z 0])/\st.t 79=.pv (.sl [Z 0])/\st.t 80=.pv (Z 1)/\st.t 81=.pv (Z 0)/\∀k,inK k=true->st.h k=bt true (zy r v) 0 k) ⟨⟨g4,p,b,d,g,λk R=>?_⟩,?_⟩
  .simp only[inK,An,L4]at R
   simp only;by_cases T:k=290
   .subst T;simp[bx];rfl
   by_cases U:k=291
   .subst U;simp[a];rfl
   by_cases V:k=292
   .subst V;simp[m];rfl
   by_cases Q:k=293
   .subst Q;simp;rfl
   by_cases W:k=294
   .subst W;simp[o];rfl
   by_cases e5:k=300
   .subst e5;simp;rfl
   unfold bt;rw[TZ T,TZ U,TZ V,TZ Q,TZ W,TZ (c:=300<=k/\k<300+(zy r v).near.length) (by simp[zy];omega)];simp[Q,e5,l k (by omega) U T V Q W]
  clear g4 p b d g bx m n o a l st;rintro st ⟨g4,p,b,d,g,D⟩;refine WP.loopN [] 1 (λk st=>st.t 4=.ptr 290 0/\st.t 7=.pv (.sl [Z 0])/\st.t 79=.pv (.sl [Z 0])/\st.t 80=.pv (Z 1)/\st.t 81=.pv (Z k)/\∀q,inK q=true->st.h q=bt true (zy r v) 0 q) ?_ ?_
  .refine⟨by simp[St.kill,aB,bB,aL,g4],by simp[St.kill,aB,bB,aL,p],by simp[St.kill,aB,bB,aL,b],by simp[St.kill,aB,bB,aL,d],by simp[St.kill,aB,bB,aL,g],λq hq=>?_⟩
   show(st.h q).map (bT [])=_;rw[D q hq,kG]
  clear g4 p b d g D st;rintro k st R ⟨g4,p,b,d,g,D⟩;by_cases a8:k<1
  .have a6:k=0:=by omega
   subst a6
   with_reducible repeat' (first|refine Sp.h ?_|((first|refine Wd ?_|refine Ss.h ?_|(refine Sb.h ?_ ?_ ?_<;>(try intro hgd)<;>try exact Xy))<;>simp -implicitDefEqProofs (maxSteps:=2000000) [hP,hN,g4,p,b,d,g,lU,qg]<;>try refine Yc ?_)|refine X2 ?_ ?_|(refine Xd ?_ ?_<;>intro hcd<;>try exact Xx))
   refine WP.loopN [] 0 (λj st=>st.t 4=.ptr 290 0/\st.t 7=.pv (.sl [Z 0])/\st.t 79=.pv (.sl [Z 0])/\st.t 80=.pv (Z 1)/\st.t 81=.pv (Z 0)/\st.t 88=.pv (.sl [])/\st.t 89=.pv (Z 0)/\st.t 90=.pv (Z j)/\∀q,inK q=true->st.h q=bt true (zy r v) 0 q) ?_ ?_
   .refine⟨by simp[St.kill,aB,bB,aL,ag,g4],by simp[St.kill,aB,bB,aL,ag,p],by simp[St.kill,aB,bB,aL,ag,b],by simp[St.kill,aB,bB,aL,ag,d],by simp[St.kill,aB,bB,aL,ag,g],by simp[St.kill,aB,bB,aL,ag],by simp[St.kill,aB,bB,aL,ag],by simp[St.kill,aB,bB,aL,ag],λq hq=>?_⟩
    show(st.h q).map (bT [])=_;rw[D q hq,kG]
   clear g4 p b d g D st;rintro j st hj ⟨g4,p,b,d,g,X,Y,ad,D⟩
   have a5:j=0:=by omega
   subst a5;refine GH (zAb g4 p b d g X Y ad) ?_
   all_goals exact⟨aa (by omega) (by omega),λq hq=>by rw[D q hq,kG]⟩
  .have a7:k=1:=by omega
   subst a7;refine GH (so g4 p b d g) ?_
   exact wi (H:=bt true (zy r v) 0) (r:=.ptr 290 0) rfl rfl D (oI (by simp[zy])) ⟨rfl,rfl⟩ (λk cs f R=>by
    subst ar
    obtain⟨_,h9⟩:=fV R;cases h9)
theorem yF{L:OL}(h:dw t=some L){b:Bx}(c:L[i]?=some (some b)):ay t (i:Int)=b:=by
 rw[jQ h]at c;rw[T0,TX]at c;obtain⟨x,d,a⟩:=c;injection a with a;subst a;simp[ay,d]
theorem yH(b:aK t=true):ay t 0=t.root:=by
 obtain⟨L,hL⟩:=Ut.1 b;have hP:=jP (P:=λ_ M=>M[0]?=some (some t.root)) hL (by simp[jO]) (λk d M c _ hp a=>zO a hp);exact yF hL hP
def eR(t:Tr)(i:Int):Bool:=aK t&&decide (0<=i)&&decide (i<t.cells.length)
def dq(t:Tr)(i:Int):Bx:=if eR t i then ay t i else[]
theorem o8{i:Int}(h:eR t i=false):dq t i=[]:=by simp[dq,h]
theorem Ts(t:Tr)(i:Int)(s:t.cells.length<=9223372036854775807):aO 74 (fg t) (Z i) (.tup [iv (dq t i),B (eR t i)]):=by
 have p:=Jr t s
 cases g:aK t with
 |false=>
  have a:eR t i=false:=by simp[eR,g]
  rw[o8 a,a];rw[g]at p;refine Dp func74 λC hP hN=>?_;exact GS trivial
 |true=>
  rw[g]at p;have j:=fL g;have u:=eG.1 (jR g);by_cases l:i<0
  .have a:eR t i=false:=by
    have:decide (0<=i)=false:=by simp;omega
    simp only[eR,this,Vl,UB]
   rw[o8 a,a];refine Dp func74 λC hP hN=>?_;exact GS l
  .obtain⟨k,rfl⟩:=Vm (show 0<=i by omega)
   by_cases q:t.cells.length<=k
   .have a:eR t k=false:=by
     have:decide ((k:Int)<t.cells.length)=false:=by simp;omega
     simp only[eR,this,Vl,UB]
    rw[o8 a,a];refine Dp func74 λC hP hN=>?_;exact GS (be l q j)
   .have f:k<t.cells.length:=by omega
    have d:k<(al t).length:=by omega
    obtain⟨m,r,_⟩:=kS g (c:=(k:Int)) f;have b:(al t)[k]?=some (ay t k):=m;have n:=bZ b d
    have e:eR t k=true:=by simp[eR,g,f]
    have o:dq t k=ay t k:=by simp[dq,e]
    rw[o,e];have cc:=Ni (ay t k) (by omega);refine Dp func74 λC hP hN=>?_;exact GS (zAa l q j f d b n)
theorem OJ(t:Tr)(i:Int)(s:t.cells.length<=9223372036854775807):aO 50 (fg t) (Z i) (.tup [iv (dq t i),B (eR t i)]):=by
 have p:=Kh t s
 cases g:aK t with
 |false=>
  have a:eR t i=false:=by simp[eR,g]
  rw[o8 a,a];rw[g]at p;refine Dp func50 λC hP hN=>?_;exact GS trivial
 |true=>
  rw[g]at p;have j:=fL g;by_cases l:i<0
  .have a:eR t i=false:=by
    have:decide (0<=i)=false:=by simp;omega
    simp only[eR,this,Vl,UB]
   rw[o8 a,a];refine Dp func50 λC hP hN=>?_;exact GS l
  .obtain⟨k,rfl⟩:=Vm (show 0<=i by omega)
   by_cases q:t.cells.length<=k
   .have a:eR t k=false:=by
     have:decide ((k:Int)<t.cells.length)=false:=by simp;omega
     simp only[eR,this,Vl,UB]
    rw[o8 a,a];refine Dp func50 λC hP hN=>?_;exact GS (be l q j)
   .have f:k<t.cells.length:=by omega
    have d:k<(al t).length:=by omega
    obtain⟨m,r,_⟩:=kS g (c:=(k:Int)) f;have b:(al t)[k]?=some (ay t k):=m;have n:=bZ b d
    have e:eR t k=true:=by simp[eR,g,f]
    have o:dq t k=ay t k:=by simp[dq,e]
    rw[o,e];refine Dp func50 λC hP hN=>?_;exact GS (zAa l q j f d b n)
theorem Tt(v:Verd):bk 69 (pA v) (bz (aD v)):=by
 refine Dp func69 λC hP hN=>?_;refine GT trivial ?_
 all_goals simp[aD]
theorem RH(xs:List (Int×Int×Int))(c:xs.length<=16777216):bk 179 (.sl (xs.map ax)) (.sl (xs.map ax)):=by
 by_cases b:xs=[]
 .subst b
  refine Dp func179 λC hP hN=>?_;exact Co [5] trivial
 .have a:xs.isEmpty=false:=by simp[b]
  refine Dp func179 λC hP hN=>?_;exact Co [5] (it b a (show xs.length*24<=140737488355328 by omega) (show xs.length<=9223372036854775807 by omega))
theorem JA(xs:List Cel)(c:xs.length<=16777216)(b:xs≠[]):bf prog 177 [.pv (.sl (xs.map bz))] [] [] (.row 58 8 (xs.map bz)):=by
 have a:xs.isEmpty=false:=by simp[b]
 refine Dp func177 λC hP hN=>?_;exact Co [5] (it b a (show xs.length*112<=140737488355328 by omega) (show xs.length<=9223372036854775807 by omega))
def DF(n:Nat)(v:Verd):Prop:=v.nor.length<=n/\v.left.length<=n/\v.right.length<=n
theorem Nj(v:Verd)(a:DF 16777216 v):bk 134 (pA v) (pA v):=by
 have b:=RH v.nor a.1;have c:=Nh v.left a.2.1;have d:=Nh v.right a.2.2;refine Dp func134 λC hP hN=>?_;exact GS trivial
theorem Tu(r:List (Int×Int))(a:r.length<=16777216):bk 31 (iv r) (.tup [fg (j0 r),B (dv r)]):=by
 have cc:=Ni r a;have cl:bf prog 69 [.pv (.agg [Z 0,.sl [],Z 0,.sl [],.sl []])] [] [] (.pv (.agg [Z (-1),Z (-1),Z (-1),Z 0,.sl [],Z 0,.sl [],.sl []])):=Tt br
 have cv:bf prog 70 [.pv (.agg [iv r,.sl [.agg [Z (-1),Z (-1),Z (-1),Z 0,.sl [],Z 0,.sl [],.sl []]]])] [] [] (.pv (B (dv r))):=by
  have:=OI ⟨r,[aD br]⟩ (by simp);rw[pT]at this;exact this
 cases h:dv r with
 |true=>
  rw[h]at cv;refine Dp func31 λC hP hN=>?_;refine GT trivial ?_
  all_goals simp[j0,h,aD,br]
 |false=>
  rw[h]at cv;refine Dp func31 λC hP hN=>?_;refine GT trivial ?_
  all_goals simp[j0,h]
structure TSm(t:Tr):Prop where
 root:t.root.length<=16777216
 cells:t.cells.length<=16777216
 vs:∀c∈t.cells,DF 16777216 c.v
theorem JB(t:Tr)(o:TSm t)(q:t.cells≠[]):bf prog 131 [.pv (fg t)] [] [] (.srow [iv t.root] 58 8 (t.cells.map bz)):=by
 have u:=JA t.cells o.cells q;have x:=Ni t.root o.root;have y:=o.cells;refine Dp func131 λC hP hN=>?_;refine GT trivial ?_;refine WP.loopN [5] t.cells.length (λi st=>st.t 1=.ptr 1 0/\st.t 2=.ptr 2 0/\st.t 3=.arr 8 t.cells.length/\st.t 9=.arr 8 t.cells.length/\st.t 10=.pv (Z t.cells.length)/\st.t 11=.pv (Z i)/\st.h 1=some (.box [.pv (iv t.root),.pv (.sl (t.cells.map bz))] true false)/\st.h 2=some (.box [.pv (.val (.slice none 0 0)),.pv (.val (.slice none 0 0))] true false)/\st.h 5=none/\st.h 8=some (.row 58 8 (t.cells.map bz) 0)) (by simp) ?_;rintro i st hi ⟨g1,g2,g3,r,d,f,g,k,l,b⟩;by_cases a:i<t.cells.length
 .have s:=am a (by omega)
  generalize p:t.cells[i]=c at *
  have m:t.cells[i]?=some c:=by rw[an a,p]
  have cv:=Nj c.v (o.vs c (Is m))
  have n:(t.cells.map bz).set i (bz c)=t.cells.map bz:=by
   apply UF;intro j;rw[T9];by_cases e:i=j
   .subst e;simp[a,p]
   .rw[TZ e]
  refine GT (zAd g1 g2 g3 r d f g k l b a (be s m p)) ?_
  all_goals exact n
 .skip
  exact GS (zAc g1 g2 g3 r d f g k l (gA b a))
  all_goals exact⟨8,⟨rfl,rfl⟩,b⟩
theorem K8(D:Nat){t e:TypeId}(j:P.underlying t=some (.array 3 e))(hs:ao P (sizeOf e)=some 1)(g:∀x y:Int,ao P (Op.equalIn D e (.int .i64 x) (.int .i64 y))=some (x==y)){xs ys:Array Value}{c d f c':Int}
 (p0:ao P (part e xs (0*1))=some (.int .i64 a))(k:ao P (part e xs (1*1))=some (.int .i64 b))(l:ao P (part e xs (2*1))=some (.int .i64 c))
 (m:ao P (part e ys (0*1))=some (.int .i64 d))(n:ao P (part e ys (1*1))=some (.int .i64 f))(o:ao P (part e ys (2*1))=some (.int .i64 c')):
 ao P (Op.equalIn (D+1) t (.agg xs) (.agg ys))=some (a==d&&b==f&&c==c'):=by
 simp only[Op.equalIn,ah,jE j,Ub];simp only[hs,Ub,Std.Legacy.Range.forIn_eq_forIn_range',Std.Legacy.Range.size]
 have i:List.range' 0 ((3-0+1-1)/1) 1=[0,1,2]:=by decide
 rw[i];simp only[List.forIn_cons,List.forIn_nil,ah,p0,m,g,Ub];cases p:(a==d)
 .simp[dW]
 simp only[Vy,T3,Ud,dW,Ub,ah,k,n,g];cases q:(b==f)
 .simp[dW]
 simp only[Vy,T3,Ud,dW,Ub,ah,l,o,g];cases r:(c==c')
 all_goals simp[dW]
theorem Kf(a b e c d f:Int):ao prog (Op.equal 68 (.agg #[.int .i64 a,.int .i64 b,.int .i64 e]) (.agg #[.int .i64 c,.int .i64 d,.int .i64 f]))=some (a==c&&b==d&&e==f):=
 K8 9999 Tryz.underlying68 (by kernel_rfl) (λx y=>vu (P:=prog) 9998 2 .i64 .i64 x y Tryz.underlying2) (by kernel_rfl) (by kernel_rfl) (by kernel_rfl) (by kernel_rfl) (by kernel_rfl) (by kernel_rfl)
def wV(x:AV):Option (Int×Int×Int):=match x with
 |.pv (.val (.agg vs))=>match vs.toList with
  |[.int .i64 a,.int .i64 b,.int .i64 c]=>some (a,b,c)
  |_=>none
 |_=>none
theorem qP{x:AV}{c:Int}(h:wV x=some (a,b,c)):x=.pv (ax (a,b,c)):=by
 unfold wV at h;split at h
 .split at h
  .rename_i vs _ e f g d
   injection h with h;injection h with h1 h2;injection h2 with h2 h3;subst h1;subst h2;subst h3;rw[<-Array.toArray_toList (xs:=vs),d]
  .cases h
 .cases h
def Jk(x y:AV)(fb:Option cX):Option cX:=match wV x,wV y with
 |some (a,b,e),some (c,d,f)=>some (.pv (.val (.bool !(a==c&&b==d&&e==f))),[])
 |_,_=>fb
@[simp] theorem OE(a b e c d f:Int)(fb:Option cX):Jk (.pv (.val (.agg #[.int .i64 a,.int .i64 b,.int .i64 e]))) (.pv (.val (.agg #[.int .i64 c,.int .i64 d,.int .i64 f]))) fb=some (.pv (.val (.bool !(a==c&&b==d&&e==f))),[]):=rfl
@[simp] theorem Tc(x y:Operand):
 bF prog ⟨dst,.binOp .neq 68 x y 68,ty,pos,aft,g⟩ ρ=Jk (ρ x) (ρ y) (jv prog ⟨dst,.binOp .neq 68 x y 68,ty,pos,aft,g⟩ ρ):=by
 unfold Jk;split
 .rename_i a b e c d f i j
  exact zi rfl (qP i) (qP j) (by kernel_rfl) (Kf a b e c d f)
 .rfl
def F6(x y:AV)(fb:Option cX):Option cX:=match wV x,wV y with
 |some (a,b,e),some (c,d,f)=>some (.pv (.val (.bool (a==c&&b==d&&e==f))),[])
 |_,_=>fb
abbrev Iv:=Int×Int
def fZ(a:Int):Int:=min (max a (-2147483648)) 2147483648
def dM(a m:Int):Int:=-((-a)/m)
theorem bQ(m n:Nat)(f:-(m:Int)<=a)(c:a<=m)(g:-(n:Int)<=b)(d:b<=n):-((m*n:Nat):Int)<=a*b/\a*b<=((m*n:Nat):Int):=by
 have e:(a*b).natAbs<=m*n:=by
  rw[Int.natAbs_mul];exact Vj (by omega) (by omega)
 omega
theorem Hh(a:Int)(m:Nat):a.fdiv (m:Int)=a/(m:Int):=Int.fdiv_eq_ediv_of_nonneg a (by omega)
theorem L6(a:Int):a.fdiv 65536=a/65536:=Hh a 65536
theorem L7(a:Int):a.fdiv 16384=a/16384:=Hh a 16384
theorem L8(a:Int):a.fdiv 1073741824=a/1073741824:=Hh a 1073741824
theorem CS(a:Int)(g:-4611686018427387904<=a)(i:a<=4611686018427387904):aO 255 (Z a) (Z 16) (Z (dM a 65536)):=by
 have d:a.fdiv (2^min 16 i64.bits)=a/65536:=L6 a
 have e:i64.wrap (a/65536*2^min 16 i64.bits)=a/65536*65536:=by
  show i64.wrap (a/65536*65536)=_;exact aa (by omega) (by omega)
 have f:i64.wrap (a/65536+1)=a/65536+1:=aa;by_cases b:a/65536*65536=a
 .have hf:dM a 65536=a/65536:=by unfold dM;omega
  rw[hf];refine Dp func255 λC hP hN=>?_;exact Gy
 .have hf:dM a 65536=a/65536+1:=by unfold dM;omega
  rw[hf]
  have c:(a/65536*65536==a)=false:=by simpa using b
  refine Dp func255 λC hP hN=>?_;exact Gy
theorem L9(a:Int):aO 183 (Z a) (Z 16) (Z (a/65536)):=by
 have b:a.fdiv (2^min 16 i64.bits)=a/65536:=L6 a;refine Dp func183 λC hP hN=>?_;exact Gy
theorem PD(a:Int)(g:-4611686018427387904<=a)(i:a<=4611686018427387904):aO 255 (Z a) (Z 14) (Z (dM a 16384)):=by
 have d:a.fdiv (2^min 14 i64.bits)=a/16384:=L7 a
 have e:i64.wrap (a/16384*2^min 14 i64.bits)=a/16384*16384:=by
  show i64.wrap (a/16384*16384)=_;exact aa (by omega) (by omega)
 have f:i64.wrap (a/16384+1)=a/16384+1:=aa;by_cases b:a/16384*16384=a
 .have hf:dM a 16384=a/16384:=by unfold dM;omega
  rw[hf];refine Dp func255 λC hP hN=>?_;exact Gy
 .have hf:dM a 16384=a/16384+1:=by unfold dM;omega
  rw[hf]
  have c:(a/16384*16384==a)=false:=by simpa using b
  refine Dp func255 λC hP hN=>?_;exact Gy
theorem PE(a:Int):aO 183 (Z a) (Z 14) (Z (a/16384)):=by
 have b:a.fdiv (2^min 14 i64.bits)=a/16384:=L7 a;refine Dp func183 λC hP hN=>?_;exact Gy
theorem PF(a:Int)(g:-4611686018427387904<=a)(i:a<=4611686018427387904):aO 255 (Z a) (Z 30) (Z (dM a 1073741824)):=by
 have d:a.fdiv (2^min 30 i64.bits)=a/1073741824:=L8 a
 have e:i64.wrap (a/1073741824*2^min 30 i64.bits)=a/1073741824*1073741824:=by
  show i64.wrap (a/1073741824*1073741824)=_;exact aa (by omega) (by omega)
 have f:i64.wrap (a/1073741824+1)=a/1073741824+1:=aa;by_cases b:a/1073741824*1073741824=a
 .have hf:dM a 1073741824=a/1073741824:=by unfold dM;omega
  rw[hf];refine Dp func255 λC hP hN=>?_;exact Gy
 .have hf:dM a 1073741824=a/1073741824+1:=by unfold dM;omega
  rw[hf]
  have c:(a/1073741824*1073741824==a)=false:=by simpa using b
  refine Dp func255 λC hP hN=>?_;exact Gy
theorem PG(a:Int):aO 183 (Z a) (Z 30) (Z (a/1073741824)):=by
 have b:a.fdiv (2^min 30 i64.bits)=a/1073741824:=L8 a;refine Dp func183 λC hP hN=>?_;exact Gy
def f7(x y:Iv):Iv:=if aw x.1 x.2&&aw y.1 y.2 then(fZ (x.1+y.1),fZ (x.2+y.2))else(0,0)
def iJ(x:Iv):Iv:=if aw x.1 x.2 then(-x.2,-x.1)else(0,0)
def fw(x y:Iv):Iv:=if aw x.1 x.2&&aw y.1 y.2 then
 (fZ (min (x.1*y.1) (min (x.1*y.2) (min (x.2*y.1) (x.2*y.2)))/65536),fZ (dM (max (x.1*y.1) (max (x.1*y.2) (max (x.2*y.1) (x.2*y.2)))) 65536))else(0,0)
def pK(x:Int):Iv:=(fZ x,fZ x)
theorem em:aw a b=true↔-2147483648<=a/\a<=b/\b<=2147483648:=by
 simp only[aw,An,L4];constructor
 .rintro⟨⟨c,d⟩,e⟩;exact⟨c,d,e⟩
 .rintro⟨c,d,e⟩;exact⟨⟨c,d⟩,e⟩
theorem J0(a b:Int):aO 298 (Z a) (Z b) (I (fZ a) (fZ b)):=Lv a b
theorem Am(a:Int):bk 275 (Z a) (I (fZ a) (fZ a)):=Pd a
theorem Ao{c d:Int}:aO 295 (I a b) (I c d) (aP (f7 (a,b) (c,d))):=by
 cases e:(aw a b&&aw c d)with
 |false=>
  have f:f7 (a,b) (c,d)=(0,0):=by simp[f7,e]
  rw[f];refine Dp func295 λC hP hN=>?_;have k:=@yb;exact GS e
 |true=>
  have f:f7 (a,b) (c,d)=(fZ (a+c),fZ (b+d)):=by simp only[f7,e,Ui]
  rw[f];have g:=e;rw[An,em,em]at g;have i:i64.wrap (a+c)=a+c:=aa;have j:i64.wrap (b+d)=b+d:=aa;refine Dp func295 λC hP hN=>?_
  with_reducible repeat' (first|refine Sp.h ?_|((first|refine Ss.h ?_|refine Sc.h (yb _ _ _ _) ?_|refine Sc.h (J0 _ _) ?_|(refine Sb.h ?_ ?_ ?_<;>(try intro hgd)<;>try exact Xy))<;>simp -implicitDefEqProofs (maxSteps:=2000000) [hP,hN,e,i,j])|refine X2 ?_ ?_|(refine Xd ?_ ?_<;>intro hcd<;>try exact Xx))
theorem IJ:bk 325 (I a b) (aP (iJ (a,b))):=by
 cases c:aw a b with
 |false=>
  have d:iJ (a,b)=(0,0):=by simp[iJ,c]
  rw[d];refine Dp func325 λC hP hN=>?_;have f:=@jT;exact GS c
 |true=>
  have d:iJ (a,b)=(-b,-a):=by simp only[iJ,c,Ui]
  rw[d];have e:=c;rw[em]at e;have g:i64.wrap (-b)=-b:=aa;have i:i64.wrap (-a)=-a:=aa;have j:i64.wrap (0-b)=-b:=(aa (n:=0-b) (by omega) (by omega)).trans (by omega);have k:i64.wrap (0-a)=-a:=(aa (n:=0-a) (by omega) (by omega)).trans (by omega);refine Dp func325 λC hP hN=>?_;have f:=@jT;exact GS (so c g i j k)
theorem PH(a b:Int)(c:-4611686018427387904<=b)(d:b<=4611686018427387904):aO 308 (Z a) (Z b) (I (fZ (a/65536)) (fZ (dM b 65536))):=by
 refine Dp func308 λC hP hN=>?_
 with_reducible repeat' (first|refine Sp.h ?_|((first|refine Ss.h ?_|refine Sc.h (L9 _) ?_|refine Sc.h (CS _ c d) ?_|refine Sc.h (J0 _ _) ?_|(refine Sb.h ?_ ?_ ?_<;>(try intro hgd)<;>try exact Xy))<;>simp -implicitDefEqProofs (maxSteps:=2000000) [hP,hN])|refine X2 ?_ ?_|(refine Xd ?_ ?_<;>intro hcd<;>try exact Xx))
@[simp] theorem TF:i64.wrap 1=1:=by decide
@[simp] theorem TG:i64.wrap 2=2:=by decide
@[simp] theorem TH:i64.wrap 3=3:=by decide
@[simp] theorem TJ:i64.wrap 4=4:=by decide
theorem PI(h:i<=4):i=0\/i=1\/i=2\/i=3\/i=4:=by omega
theorem Ma{c d:Int}:aO 296 (I a b) (I c d) (aP (fw (a,b) (c,d))):=by
 cases j:(aw a b&&aw c d)with
 |false=>
  have p:fw (a,b) (c,d)=(0,0):=by simp[fw,j]
  rw[p];refine Dp func296 λC hP hN=>?_;have G:=@yb;exact GS j
 |true=>
  have q:=j;rw[An,em,em]at q;have m1:=bQ (a:=a) (b:=c) 2147483648 2147483648 (by omega) (by omega) (by omega) (by omega);have m2:=bQ (a:=a) (b:=d) 2147483648 2147483648 (by omega) (by omega) (by omega) (by omega);have E:=bQ (a:=b) (b:=c) 2147483648 2147483648 (by omega) (by omega) (by omega) (by omega);have F:=bQ (a:=b) (b:=d) 2147483648 2147483648 (by omega) (by omega) (by omega) (by omega);have y:i64.wrap (a*c)=a*c:=aa;have z:i64.wrap (a*d)=a*d:=aa;have A:i64.wrap (b*c)=b*c:=aa;have B:i64.wrap (b*d)=b*d:=aa
  have p:fw (a,b) (c,d)=(fZ (min (a*c) (min (a*d) (min (b*c) (b*d)))/65536),fZ (dM (max (a*c) (max (a*d) (max (b*c) (b*d)))) 65536)):=by simp only[fw,j,Ui]
  rw[p];generalize l:a*c=e at *;generalize m:a*d=f at *;generalize n:b*c=g at *;generalize o:b*d=k at *;have D:=PH (min e (min f (min g k))) (max e (max f (max g k))) (by omega) (by omega);refine Dp func296 λC hP hN=>?_
  with_reducible repeat' (first|refine Sp.h ?_|((first|refine Wd ?_|refine Ss.h ?_|refine Sc.h (yb _ _ _ _) ?_|(refine Sb.h ?_ ?_ ?_<;>(try intro hgd)<;>try exact Xy))<;>simp -implicitDefEqProofs (maxSteps:=2000000) [hP,hN,j,y,z,A,B,l,m,n,o]<;>try refine Ya ?_)|refine X2 ?_ ?_|(refine Xd ?_ ?_<;>intro hcd<;>try exact Xx))
  refine WP.loopN [] 4 (λi st=>st.t 4=.ptr 4 0/\st.h 4=some (.box [.pv (Z 0),.pv (Z 0)] true false)/\st.t 40=.pv (.val (.agg #[.int .i64 e,.int .i64 f,.int .i64 g,.int .i64 k]))/\st.t 41=.pv (Z i)/\
   st.t 6=.pv (Z (if i<=1 then e else if i=2 then min e f else if i=3 then min e (min f g)else min e (min f (min g k))))/\st.t 7=.pv (Z (if i<=1 then e else if i=2 then max e f else if i=3 then max e (max f g)else max e (max f (max g k))))) (by simp) ?_
  rintro i st hi ⟨g4,x,r,s,u,v⟩;rcases PI hi with rfl|rfl|rfl|rfl|rfl
  all_goals (simp at u v)
  all_goals
   exact Gy
def fq(x:Int):Nat->Int
 |0=>1073741824
 |1=>x*6746518852/65536
 |k+2=>fq x (k+1)*(x*6746518852/65536)/1073741824
def ft(x:Int):Nat->Int
 |0=>1073741824
 |1=>dM (x*6746518853) 65536
 |k+2=>dM (ft x (k+1)*dM (x*6746518853) 65536) 1073741824
theorem oS{x:Int}(b:0<=x)(h1:x<=8192):∀k,0<=fq x k/\fq x k<=1073741824
 |0=>by simp[fq]
 |1=>by simp only[fq];omega
 |k+2=>by
  have h:=oS b h1 (k+1)
  have a:0<=x*6746518852/65536/\x*6746518852/65536<=1073741824:=by omega
  simp only[fq];generalize x*6746518852/65536=y at *;have c:=UZ h.1 a.1;have d:=WG h.2 a.2 a.1 (by decide:(0:Int)<=1073741824);omega
theorem oT{x:Int}(b:0<=x)(h1:x<=8192):∀k,0<=ft x k/\ft x k<=1073741824
 |0=>by simp[ft]
 |1=>by simp only[ft,dM];omega
 |k+2=>by
  have h:=oT b h1 (k+1)
  have a:0<=dM (x*6746518853) 65536/\dM (x*6746518853) 65536<=1073741824:=by unfold dM;omega
  simp only[ft];generalize dM (x*6746518853) 65536=y at *;have c:=UZ h.1 a.1;have d:=WG h.2 a.2 a.1 (by decide:(0:Int)<=1073741824);unfold dM;omega
theorem tp{x:Int}(b:0<=x)(h1:x<=8192)(j:Nat):0<=fq x j*fq x 1/\fq x j*fq x 1<=1152921504606846976:=by
 have h:=oS b h1 j;have a:=oS b h1 1;have c:=UZ h.1 a.1;have d:=WG h.2 a.2 a.1 (by decide:(0:Int)<=1073741824);omega
theorem oU{x:Int}(b:0<=x)(h1:x<=8192)(j:Nat):0<=ft x j*ft x 1/\ft x j*ft x 1<=1152921504606846976:=by
 have h:=oT b h1 j;have a:=oT b h1 1;have c:=UZ h.1 a.1;have d:=WG h.2 a.2 a.1 (by decide:(0:Int)<=1073741824);omega
def jq(f:Nat->Int)(n:Nat):List AV:=[.pv (Z (if 0<n then f 0 else 0)),.pv (Z (if 1<n then f 1 else 0)),.pv (Z (if 2<n then f 2 else 0)),.pv (Z (if 3<n then f 3 else 0)),.pv (Z (if 4<n then f 4 else 0)),.pv (Z (if 5<n then f 5 else 0)),
 .pv (Z (if 6<n then f 6 else 0)),.pv (Z (if 7<n then f 7 else 0)),.pv (Z (if 8<n then f 8 else 0)),.pv (Z (if 9<n then f 9 else 0)),.pv (Z (if 10<n then f 10 else 0))]
abbrev BI(f:Nat->Int):PV:=.val (.agg #[.int .i64 (f 0),.int .i64 (f 1),.int .i64 (f 2),.int .i64 (f 3),.int .i64 (f 4),.int .i64 (f 5),.int .i64 (f 6),.int .i64 (f 7),.int .i64 (f 8),.int .i64 (f 9),.int .i64 (f 10)])
@[simp] theorem TP:i64.wrap 5=5:=by decide
@[simp] theorem TQ:i64.wrap 6=6:=by decide
@[simp] theorem TR:i64.wrap 7=7:=by decide
@[simp] theorem TS:i64.wrap 8=8:=by decide
@[simp] theorem TT:i64.wrap 9=9:=by decide
@[simp] theorem SV:i64.wrap 10=10:=by decide
@[simp] theorem SW:i64.wrap 11=11:=by decide
set_option maxRecDepth 4000 in
theorem Mj(x:Int)(m:0<=x)(h1:x<=8192):bk 343 (Z x) (.tup [BI (fq x),BI (ft x)]):=by
 have s:i64.wrap (x*6746518852)=x*6746518852:=aa;have u:i64.wrap (x*6746518853)=x*6746518853:=aa;have q:bf prog 183 [.pv (Z (x*6746518852)),.pv (Z 16)] [] [] (.pv (Z (fq x 1))):=L9 _;have r:bf prog 255 [.pv (Z (x*6746518853)),.pv (Z 16)] [] [] (.pv (Z (ft x 1))):=CS _ (by omega) (by omega);have m1:∀j,i64.wrap (fq x j*fq x 1)=fq x j*fq x 1:=λj=>aa (by have:=tp m h1 j;omega) (by have:=tp m h1 j;omega);have m2:∀j,i64.wrap (ft x j*ft x 1)=ft x j*ft x 1:=λj=>aa (by have:=oU m h1 j;omega) (by have:=oU m h1 j;omega);have k:∀j,bf prog 183 [.pv (Z (fq x (j+1)*fq x 1)),.pv (Z 30)] [] [] (.pv (Z (fq x (j+2)))):=λj=>PG _;have l:∀j,bf prog 255 [.pv (Z (ft x (j+1)*ft x 1)),.pv (Z 30)] [] [] (.pv (Z (ft x (j+2)))):=λj=>PF _ (by have:=oU m h1 (j+1);omega) (by have:=oU m h1 (j+1);omega);have o:fq x 0=1073741824:=rfl;have p:ft x 0=1073741824:=rfl;generalize fq x=f at *;generalize ft x=g at *;refine Dp func343 λC hP hN=>?_;refine Gz ?_;refine WP.loopN [] 9 (λi st=>st.t 2=.ptr 2 0/\st.t 3=.ptr 3 0/\st.t 4=.ptr 4 0/\st.t 5=.ptr 5 0/\st.t 6=.pv (Z (i+2:Nat))/\st.h 2=some (.box (jq f 0) true false)/\st.h 3=some (.box (jq f 0) true false)/\st.h 4=some (.box (jq f (i+2)) true false)/\st.h 5=some (.box (jq g (i+2)) true false)) (by simp[jq,o,p]) ?_;rintro i st hi ⟨g2,g3,g4,g5,e,a,b,c,d⟩
 have n:i=0\/i=1\/i=2\/i=3\/i=4\/i=5\/i=6\/i=7\/i=8\/i=9:=by omega
 rcases n with rfl|rfl|rfl|rfl|rfl|rfl|rfl|rfl|rfl|rfl
 all_goals (simp only[jq]at a b c d;simp at e a b c d)
 all_goals skip
 .skip
  with_reducible repeat' (first|refine Sp.h ?_|((first|refine Wd ?_|refine Ss.h ?_|refine Sc.h (k 0) ?_|refine Sc.h (l 0) ?_)<;>simp -implicitDefEqProofs [hP,hN,g2,g3,g4,g5,e,a,b,c,d,m1,m2,jq]<;>try refine Ya ?_))
 .skip
  with_reducible repeat' (first|refine Sp.h ?_|((first|refine Wd ?_|refine Ss.h ?_|refine Sc.h (k 1) ?_|refine Sc.h (l 1) ?_)<;>simp -implicitDefEqProofs [hP,hN,g2,g3,g4,g5,e,a,b,c,d,m1,m2,jq]<;>try refine Ya ?_))
 .skip
  with_reducible repeat' (first|refine Sp.h ?_|((first|refine Wd ?_|refine Ss.h ?_|refine Sc.h (k 2) ?_|refine Sc.h (l 2) ?_)<;>simp -implicitDefEqProofs [hP,hN,g2,g3,g4,g5,e,a,b,c,d,m1,m2,jq]<;>try refine Ya ?_))
 .skip
  with_reducible repeat' (first|refine Sp.h ?_|((first|refine Wd ?_|refine Ss.h ?_|refine Sc.h (k 3) ?_|refine Sc.h (l 3) ?_)<;>simp -implicitDefEqProofs [hP,hN,g2,g3,g4,g5,e,a,b,c,d,m1,m2,jq]<;>try refine Ya ?_))
 .skip
  with_reducible repeat' (first|refine Sp.h ?_|((first|refine Wd ?_|refine Ss.h ?_|refine Sc.h (k 4) ?_|refine Sc.h (l 4) ?_)<;>simp -implicitDefEqProofs [hP,hN,g2,g3,g4,g5,e,a,b,c,d,m1,m2,jq]<;>try refine Ya ?_))
 .skip
  with_reducible repeat' (first|refine Sp.h ?_|((first|refine Wd ?_|refine Ss.h ?_|refine Sc.h (k 5) ?_|refine Sc.h (l 5) ?_)<;>simp -implicitDefEqProofs [hP,hN,g2,g3,g4,g5,e,a,b,c,d,m1,m2,jq]<;>try refine Ya ?_))
 .skip
  with_reducible repeat' (first|refine Sp.h ?_|((first|refine Wd ?_|refine Ss.h ?_|refine Sc.h (k 6) ?_|refine Sc.h (l 6) ?_)<;>simp -implicitDefEqProofs [hP,hN,g2,g3,g4,g5,e,a,b,c,d,m1,m2,jq]<;>try refine Ya ?_))
 .skip
  with_reducible repeat' (first|refine Sp.h ?_|((first|refine Wd ?_|refine Ss.h ?_|refine Sc.h (k 7) ?_|refine Sc.h (l 7) ?_)<;>simp -implicitDefEqProofs [hP,hN,g2,g3,g4,g5,e,a,b,c,d,m1,m2,jq]<;>try refine Ya ?_))
 .skip
  with_reducible repeat' (first|refine Sp.h ?_|((first|refine Wd ?_|refine Ss.h ?_|refine Sc.h (k 8) ?_|refine Sc.h (l 8) ?_)<;>simp -implicitDefEqProofs [hP,hN,g2,g3,g4,g5,e,a,b,c,d,m1,m2,jq]<;>try refine Ya ?_))
 .skip
  exact Gy
end Go.Ab
