/- The contracts and facts that the laws of this seat need, in one text (CfB, Tr4, TrE, TrF, Tr8, Tr9, Tr10, Cf16w, Cf18w, TrG, TcS, DcS, Dc3, DcT, Dc1, Dc2, Dc5, Dc6, DcN, Ab41, DcU, AbW, TrH, Dc7, TrS, Ab42, Ab32, Dc13, TrN, TrX, KV, K1, K2). -/
import Derived.Test.YtdbgcnplnhmjgaaGreatV6
import Derived.Laws.RangeString
import Derived.Laws.RangeAny
import Derived.LoopTactic
set_option linter.all false
set_option maxRecDepth 10000
set_option maxHeartbeats 16000000
namespace Go.Ab
open IntKind (i64)
open Go.Proofs.Tryz
open Go.Proofs
variable {C:Cx}{M:Nat->Nat->Prop}{N c d e fz i k l leaf n sz v:Nat}{P:Program}{Q:Exit->St->Prop}{a b:Int}{aft:Array Edge}{args pre ys:List PV}{ats:Array TypeId}{dst:Option Nat}{f:Operand}{far far':List Int}{g:Option (Nat×Bool)}{h:Hp}{has hasF may:Nat->Bool}{hn old:List Nat}{js:List J}{nb:Nat->List Nat}{near:List (List Nat)}{o:Oper}{ops:Array Oper}{p q:PV}{pos:String}{st:St}{t:Tr}{tch tch':Nat->Nat->Bool}{ty:TypeId}{w:World}{xs:List Operand}{α:Type}{ρ:Operand->AV}
def ou(b:Nat):Bool:=decide (97<=b)&&decide (b<=122)
def ov(b:Nat):Bool:=decide (48<=b)&&decide (b<=57)
def i9(k b:Nat):Bool:=ou b||(decide (k≠0)&&(ov b||decide (b=95)))
def gj(s:ByteArray):Bool:=(List.range s.size).all λi=>i9 i (s[i]!).toNat
def jS(s:ByteArray):Bool:=decide (1<=s.size)&&decide (s.size<=16)&& !(s.toList==[119,111,114,108,100])&&gj s
theorem kP{s:ByteArray}(h:i<s.size)(a:i9 i (s[i]'h).toNat=false):gj s=false:=by
 rw[gj,Xt];exact⟨i,by simpa using h,by rw[getElem!_pos s i h,a];simp⟩
theorem yz{s:ByteArray}(h:∀i(hi:i<s.size),i9 i (s[i]'hi).toNat=true):gj s=true:=by
 rw[gj,VL];intro i hi
 have a:i<s.size:=by simpa using hi
 rw[getElem!_pos s i a];exact h i a
theorem xS{s:ByteArray}{pos:Nat}{hp:pos<s.size}(d:(s[pos]'hp).toNat=c)(a:i9 pos c=true)(b:∀i(hi:i<s.size),i<pos->i9 i (s[i]'hi).toNat=true):∀i(hi:i<s.size),i<pos+1->i9 i (s[i]'hi).toNat=true:=by
 intro i hi h;by_cases e:i=pos
 .subst e;rw[d];exact a
 .exact b i hi (by omega)
set_option maxRecDepth 1000000 in
theorem JE(s:ByteArray)(w:World)(h1:¬s.size=0)(x:¬s.size>16)(y:(s.toList==[119,111,114,108,100])=false):
 Calls prog 168 #[.string s] w λe l=>e=.returned (.bool (gj s))/\(l=w\/∃pos,l=w.iter s pos):=by
 have z:((s.size:Int)==0)=false:=by simp;intro h;exact h1 (by simp[h])
 have A:¬((16:Int)<(s.size:Int)):=by omega
 go_enter func168,ntmps168
 go_wp2
 go_loopw [19] (λ_ l=>∃pos,l=w.iter s pos/\∀i(hi:i<s.size),i<pos->i9 i (s[i]'hi).toNat=true) (λ_ l=>s.size-l.iterPos w.heap.size)
 case atStart=>exact⟨0,rfl,λi hi h=>by omega⟩
 case round=>
  obtain⟨pos,rfl,d⟩:=hrel;by_cases hp:pos<s.size
  .by_cases p:(s[pos]'hp).toNat<128
   .have b:∀ty,(Instr.next (.pointer (some ⟨w.heap.size,0,none⟩)) true ty).run prog (w.iter s pos)=_:=λty=>run_next_ascii w s pos ty hp p
    generalize f:(s[pos]'hp).toNat=c at b p
    have key:(97<=c/\c<=122)\/(¬97<=c/\pos=0)\/(97<=c/\¬c<=122/\pos=0)\/(¬97<=c/\¬pos=0/\48<=c/\c<=57)\/(¬97<=c/\¬pos=0/\¬48<=c)\/(¬97<=c/\¬pos=0/\¬c<=57/\c=95)\/(¬97<=c/\¬pos=0/\¬c<=57/\¬c=95)\/(97<=c/\¬c<=122/\¬pos=0):=by omega
    rcases key with⟨j,g⟩|⟨j,g⟩|⟨j,g,k⟩|⟨j,g,k,q⟩|⟨j,g,k⟩|⟨j,g,k,q⟩|⟨j,g,k,q⟩|⟨j,g,k⟩
    .have m1:(97:Int)<=(c:Int):=by omega
     have m2:(c:Int)<=122:=by omega
     go_wp2
     go_roundw
     case rel=>exact⟨pos+1,rfl,xS f (by simp[i9,ou,ov];omega) d⟩
     case measure=>simp;omega
    .have m1:¬(97:Int)<=(c:Int):=by omega
     subst g;have a:gj s=false:=kP hp (by rw[f];simp[i9,ou,ov];omega)
     go_wp2
     go_ret
     exact⟨by first|rfl|(rw[a];rfl),.inr ⟨_,rfl⟩⟩
    .have m1:(97:Int)<=(c:Int):=by omega
     have m2:¬(c:Int)<=122:=by omega
     subst k;have a:gj s=false:=kP hp (by rw[f];simp[i9,ou,ov];omega)
     go_wp2
     go_ret
     exact⟨by first|rfl|(rw[a];rfl),.inr ⟨_,rfl⟩⟩
    .have m1:¬(97:Int)<=(c:Int):=by omega
     have m2:((pos:Int)==0)=false:=by simp;omega
     have m:(48:Int)<=(c:Int):=by omega
     have n:(c:Int)<=57:=by omega
     go_wp2
     go_roundw
     case rel=>exact⟨pos+1,rfl,xS f (by simp[i9,ou,ov];omega) d⟩
     case measure=>simp;omega
    .have m1:¬(97:Int)<=(c:Int):=by omega
     have m2:((pos:Int)==0)=false:=by simp;omega
     have m:¬(48:Int)<=(c:Int):=by omega
     have n:((c:Int)!=95)=true:=by simp;omega
     have a:gj s=false:=kP hp (by rw[f];simp[i9,ou,ov];omega)
     go_wp2
     go_ret
     exact⟨by first|rfl|(rw[a];rfl),.inr ⟨_,rfl⟩⟩
    .have m1:¬(97:Int)<=(c:Int):=by omega
     have m2:((pos:Int)==0)=false:=by simp;omega
     have m:(48:Int)<=(c:Int):=by omega
     have o:¬(c:Int)<=57:=by omega
     have n:((c:Int)!=95)=false:=by simp;omega
     go_wp2
     go_roundw
     case rel=>exact⟨pos+1,rfl,xS f (by simp[i9,ou,ov];omega) d⟩
     case measure=>simp;omega
    .have m1:¬(97:Int)<=(c:Int):=by omega
     have m2:((pos:Int)==0)=false:=by simp;omega
     have m:(48:Int)<=(c:Int):=by omega
     have o:¬(c:Int)<=57:=by omega
     have n:((c:Int)!=95)=true:=by simp;omega
     have a:gj s=false:=kP hp (by rw[f];simp[i9,ou,ov];omega)
     go_wp2
     go_ret
     exact⟨by first|rfl|(rw[a];rfl),.inr ⟨_,rfl⟩⟩
    .have m1:(97:Int)<=(c:Int):=by omega
     have v:¬(c:Int)<=122:=by omega
     have m2:((pos:Int)==0)=false:=by simp;omega
     have m:(48:Int)<=(c:Int):=by omega
     have o:¬(c:Int)<=57:=by omega
     have n:((c:Int)!=95)=true:=by simp;omega
     have a:gj s=false:=kP hp (by rw[f];simp[i9,ou,ov];omega)
     go_wp2
     go_ret
     exact⟨by first|rfl|(rw[a];rfl),.inr ⟨_,rfl⟩⟩
   .have b:∀ty,(Instr.next (.pointer (some ⟨w.heap.size,0,none⟩)) true ty).run prog (w.iter s pos)=_:=λty=>run_next_any w s pos ty hp
    have r:=(decode_high s pos hp (by omega)).1;generalize(Utf8.decode s pos).1=c at b r;generalize(Utf8.decode s pos).2=B at b;have a:gj s=false:=kP hp (by simp[i9,ou,ov];omega)
    have m1:(97:Int)<=(c:Int):=by omega
    have v:¬(c:Int)<=122:=by omega
    have m:(48:Int)<=(c:Int):=by omega
    have o:¬(c:Int)<=57:=by omega
    have n:((c:Int)!=95)=true:=by simp;omega
    by_cases u:pos=0
    .subst u
     go_wp2
     go_ret
     exact⟨by first|rfl|(rw[a];rfl),.inr ⟨_,rfl⟩⟩
    .have m2:((pos:Int)==0)=false:=by simp;omega
     go_wp2
     go_ret
     exact⟨by first|rfl|(rw[a];rfl),.inr ⟨_,rfl⟩⟩
  .have b:∀ty,(Instr.next (.pointer (some ⟨w.heap.size,0,none⟩)) true ty).run prog (w.iter s pos)=_:=λty=>run_next_end w s pos ty hp
   go_wp2
   go_ret
   exact⟨by rw[yz (λi hi=>d i hi (by omega))];rfl,.inr ⟨_,rfl⟩⟩
set_option maxRecDepth 1000000 in
theorem HX(s:ByteArray)(w:World)(h:s.size=0\/s.size>16\/(s.toList==[119,111,114,108,100])=true):
 Calls prog 168 #[.string s] w λe f=>e=.returned (.bool false)/\f=w:=by
 by_cases a:s.size=0
 .have c:((s.size:Int)==0)=true:=by simp[a]
  go_enter func168,ntmps168
  go_wp2
  go_ret
  exact⟨rfl,rfl⟩
 .have c:((s.size:Int)==0)=false:=by simp;intro h;exact a (by simp[h])
  by_cases b:s.size>16
  .have d:((16:Int)<(s.size:Int)):=by omega
   go_enter func168,ntmps168
   go_wp2
   go_ret
   exact⟨rfl,rfl⟩
  .have d:¬((16:Int)<(s.size:Int)):=by omega
   have g:(s.toList==[119,111,114,108,100])=true:=by rcases h with h|h|h<;>first|exact absurd h a|exact absurd h b|exact h
   go_enter func168,ntmps168
   go_wp2
   go_ret
   exact⟨rfl,rfl⟩
theorem zg(s:ByteArray):aQ prog 168 [.pv (.val (.string s))] [] [] (.pv (B (jS s))):=by
 refine⟨by kernel_rfl,rfl,λw M g vs C k x m f d=>?_⟩
 match vs,f with
 |[v],_=>
  have y:Rep w M (.val (.string s)) v:=d 0 _ _ rfl rfl;cases y;have a:Ext (·∈g) w w:=Ext.refl _ _;have c:∀pos,Ext (·∈g) w (w.iter s pos):=λpos=>Ext.alloc _ _ _
  have j:g=[]:=by cases g with
   |nil=>rfl
   |cons b r=>simp at k
  subst j;by_cases h:s.size=0\/s.size>16\/(s.toList==[119,111,114,108,100])=true
  .have hf:jS s=false:=by
    unfold jS;rcases h with h|h|h
    .simp[h]
    .simp;omega
    .simp[h]
   refine(HX s w h).mono ?_;rintro e A ⟨rfl,rfl⟩;exact⟨_,rfl,a,λi b n h=>by simp at h,by rw[hf];exact .val _⟩
  .have q:¬s.size=0:=λe=>h (.inl e)
   have u:¬s.size>16:=λe=>h (.inr (.inl e))
   have l:(s.toList==[119,111,114,108,100])=false:=by
    cases hq:s.toList==[119,111,114,108,100]with
    |false=>rfl
    |true=>exact absurd (.inr (.inr hq)) h
   have hf:jS s=gj s:=by
    unfold jS;rw[l]
    have o:decide (1<=s.size)=true:=by simp;omega
    have p:decide (s.size<=16)=true:=by simp;omega
    rw[o,p];simp
   refine(JE s w q u l).mono ?_;rintro e A ⟨rfl,z⟩;rcases z with rfl|⟨pos,rfl⟩
   .exact⟨_,rfl,a,λi b n h=>by simp at h,by rw[hf];exact .val _⟩
   .exact⟨_,rfl,c pos,λi b n h=>by simp at h,by rw[hf];exact .val _⟩
theorem Gu{N B:Int}(hN:0<N)(h1:-B<=a)(b:a<=B):-B<=a/N/\a/N<=B:=by
 have c:0<=B:=by omega
 constructor
 .have:(-B)*N<=a:=by
   have:(-B)*N<=(-B)*1:=Int.mul_le_mul_of_nonpos_left (by omega) (by omega);omega
  exact(Yg hN).2 this
 .have:a/N<B+1:=(Yh hN).2 (by
   have:(B+1)*1<=(B+1)*N:=W4 (by omega) (by omega)
   omega)
  omega
def Au(x:Int):Prop:=-2147483648<=x/\x<=2147483648
def JF(x:AV)(fb:Option db):Option db:=match x with
 |.pv (.val (.string s))=>some (.pv (Z s.size),[])
 |_=>fb
@[simp] theorem Qd(s:ByteArray)(fb:Option db):JF (.pv (.val (.string s))) fb=some (.pv (Z s.size),[]):=rfl
theorem Mc(x:Operand)(s:ByteArray):
 bL prog ⟨dst,.call ⟨.builtin .len,#[x],#[9]⟩,ty,pos,aft,g⟩ (λ_=>.pv (.val (.string s)))=some (.pv (Z s.size),[]):=by kernel_rfl
@[simp] theorem Uf(x:Operand):
 bL prog ⟨dst,.call ⟨.builtin .len,#[x],#[9]⟩,ty,pos,aft,g⟩ ρ=JF (ρ x) (jI prog ⟨dst,.call ⟨.builtin .len,#[x],#[9]⟩,ty,pos,aft,g⟩ ρ):=by
 unfold JF;split
 .rename_i s b
  rw[<-Mc (dst:=dst) (ty:=ty) (pos:=pos) (aft:=aft) (g:=g) x s];refine rV (by intro _ _ h;cases h) ?_;intro y a;simp[Op.operands,Call.operands]at a;subst a;exact b
 .rfl
theorem Av:(ByteArray.mk #[119,111,114,108,100]).toList=[119,111,114,108,100]:=by decide +kernel
theorem JG{s:ByteArray}(h:i<s.size):s[i]?=some (s[i]'h):=by simp[h]
theorem Nt(s:ByteArray):bh 156 (.val (.string s)) (B (jS s)):=by
 by_cases u:s.size<1
 .have hf:jS s=false:=by unfold jS;simp;omega
  have g:(s.size:Int)<1:=by omega
  rw[hf];refine Dp func156 λC hP hN=>?_;exact Gy
 have g:¬(s.size:Int)<1:=by omega
 by_cases v:16<s.size
 .have hf:jS s=false:=by unfold jS;simp;omega
  have j:(16:Int)<s.size:=by omega
  rw[hf];refine Dp func156 λC hP hN=>?_;exact Gy
 have j:¬(16:Int)<s.size:=by omega
 cases l:s.toList==[119,111,114,108,100]with
 |true=>
  have hf:jS s=false:=by unfold jS;simp[l]
  have m:(s.toList==(ByteArray.mk #[119,111,114,108,100]).toList)=true:=by rw[Av];exact l
  rw[hf];refine Dp func156 λC hP hN=>?_;exact Gy
 |false=>
  have hf:jS s=gj s:=by
   unfold jS;rw[l]
   have q:decide (1<=s.size)=true:=by simp;omega
   have r:decide (s.size<=16)=true:=by simp;omega
   rw[q,r];simp
  have m:(s.toList==(ByteArray.mk #[119,111,114,108,100]).toList)=false:=by rw[Av];exact l
  rw[hf];refine Dp func156 λC hP hN=>?_;refine Gz ?_;refine WP.loopN [] s.size (λi st=>st.t 0=.pv (.val (.string s))/\st.t 3=.pv (Z i)/\∀k(n:k<s.size),k<i->i9 k (s[k]'n).toNat=true) (by simp) ?_;rintro i st hi ⟨g0,g3,f⟩;by_cases c:i<s.size
  .have p:i64.wrap ((i:Int)+1)=(i:Int)+1:=by rw[IntKind.wrap_i64];omega
   have e:(i:Int)<s.size:=by omega
   have o:=JG c;have d:i9 i (s[i]'c).toNat=false->gj s=false:=kP c;have a:i9 i (s[i]'c).toNat=true->∀k(n:k<s.size),k<i+1->i9 k (s[k]'n).toNat=true:=λh=>xS rfl h f;generalize s[i]'c=b at d a o
   with_reducible repeat' (first|refine Sp.h ?_|((first|refine Ss.h ?_|(refine Sb.h ?_ ?_ ?_<;>(try intro hgd)<;>try exact Xy))<;>simp -implicitDefEqProofs (maxSteps:=2000000) [hP,hN,g0,g3,e,o,p])|refine X2 ?_ ?_|(refine Xd ?_ ?_<;>intro hcd<;>try exact Xx))
   all_goals clear p hP hN g0 g3 o f l m hf u g v j
   all_goals first|(refine d ?_;clear d a;simp[i9,ou,ov]at *;done)|(refine d ?_;clear d a;simp[i9,ou,ov]at *;omega)|(refine⟨c,a ?_⟩;clear d a;simp[i9,ou,ov]at *;done)|(refine⟨c,a ?_⟩;clear d a;simp[i9,ou,ov]at *;omega)
  .have e:¬(i:Int)<s.size:=by omega
   refine Gz ?_;exact yz (λk n=>f k n (by omega))
def gC(x m:Int):Bool:=decide (-m<=x)&&decide (x<=m)
def hC(x y z m:Int):Bool:=gC x m&&gC y m&&gC z m
abbrev ow(x y z:Int):PV:=.val (.agg #[.int .i64 x,.int .i64 y,.int .i64 z])
theorem BM:i64.wrap 1=1:=by decide
theorem BN:i64.wrap 2=2:=by decide
theorem BP:i64.wrap 3=3:=by decide
theorem Nu(h:i<=3):i=0\/i=1\/i=2\/i=3:=by omega
theorem Gv(x y z:Int):bh 170 (ow x y z) (B (!hC x y z 4194304)):=by
 refine Dp func170 λC hP hN=>?_;refine Gz ?_;refine WP.loopN [] 3 (λi st=>st.t 5=.pv (ow x y z)/\st.t 6=.pv (Z i)/\(0<i->gC x 4194304=true)/\(1<i->gC y 4194304=true)/\(2<i->gC z 4194304=true)) (by simp) ?_;rintro i st hi ⟨h5,h6,a,b,c⟩;rcases Nu hi with rfl|rfl|rfl|rfl
 .skip
  with_reducible repeat' (first|refine Sp.h ?_|((first|refine Ss.h ?_|(refine Sb.h ?_ ?_ ?_<;>(try intro hgd)<;>try exact Xy))<;>simp -implicitDefEqProofs (maxSteps:=2000000) [hP,hN,h5,h6])|refine X2 ?_ ?_|(refine Xd ?_ ?_<;>intro hcd<;>try exact Xx))
  all_goals (simp[hC,gC,BM,BN,BP]at *;first|omega|grind)
 .skip
  with_reducible repeat' (first|refine Sp.h ?_|((first|refine Ss.h ?_|(refine Sb.h ?_ ?_ ?_<;>(try intro hgd)<;>try exact Xy))<;>simp -implicitDefEqProofs (maxSteps:=2000000) [hP,hN,h5,h6])|refine X2 ?_ ?_|(refine Xd ?_ ?_<;>intro hcd<;>try exact Xx))
  all_goals (simp[hC,gC,BM,BN,BP]at *;first|omega|grind)
 .skip
  with_reducible repeat' (first|refine Sp.h ?_|((first|refine Ss.h ?_|(refine Sb.h ?_ ?_ ?_<;>(try intro hgd)<;>try exact Xy))<;>simp -implicitDefEqProofs (maxSteps:=2000000) [hP,hN,h5,h6])|refine X2 ?_ ?_|(refine Xd ?_ ?_<;>intro hcd<;>try exact Xx))
  all_goals (simp[hC,gC,BM,BN,BP]at *;first|omega|grind)
 .skip
  refine Gz ?_
  all_goals (simp[hC,gC,BM,BN,BP]at *;first|omega|grind)
theorem rW(x y z m:Int)(g:0<=m)(f:m<4611686018427387904):aH 104 (ow x y z) (Z m) (B (hC x y z m)):=by
 have e:i64.wrap (0-m)=-m:=(aa (n:=0-m) (by omega) (by omega)).trans (by omega);have a:i64.wrap (-m)=-m:=aa;refine Dp func104 λC hP hN=>?_;refine Gz ?_;refine WP.loopN [] 3 (λi st=>st.t 1=.pv (Z m)/\st.t 2=.ptr 2 0/\st.h 2=some (.box [.pv (Z x),.pv (Z y),.pv (Z z)] true false)/\st.t 5=.pv (Z i)/\(0<i->gC x m=true)/\(1<i->gC y m=true)/\(2<i->gC z m=true)) (by simp) ?_;rintro i st hi ⟨b,c,d,h5,j,k,l⟩;rcases Nu hi with rfl|rfl|rfl|rfl
 .skip
  with_reducible repeat' (first|refine Sp.h ?_|((first|refine Ss.h ?_|(refine Sb.h ?_ ?_ ?_<;>(try intro hgd)<;>try exact Xy))<;>simp -implicitDefEqProofs (maxSteps:=2000000) [hP,hN,b,c,d,h5,e,a])|refine X2 ?_ ?_|(refine Xd ?_ ?_<;>intro hcd<;>try exact Xx))
  all_goals (simp[hC,gC,BM,BN,BP]at *;first|omega|grind)
 .skip
  with_reducible repeat' (first|refine Sp.h ?_|((first|refine Ss.h ?_|(refine Sb.h ?_ ?_ ?_<;>(try intro hgd)<;>try exact Xy))<;>simp -implicitDefEqProofs (maxSteps:=2000000) [hP,hN,b,c,d,h5,e,a])|refine X2 ?_ ?_|(refine Xd ?_ ?_<;>intro hcd<;>try exact Xx))
  all_goals (simp[hC,gC,BM,BN,BP]at *;first|omega|grind)
 .skip
  with_reducible repeat' (first|refine Sp.h ?_|((first|refine Ss.h ?_|(refine Sb.h ?_ ?_ ?_<;>(try intro hgd)<;>try exact Xy))<;>simp -implicitDefEqProofs (maxSteps:=2000000) [hP,hN,b,c,d,h5,e,a])|refine X2 ?_ ?_|(refine Xd ?_ ?_<;>intro hcd<;>try exact Xx))
  all_goals (simp[hC,gC,BM,BN,BP]at *;first|omega|grind)
 .skip
  refine Gz ?_
  all_goals (simp[hC,gC,BM,BN,BP]at *;first|omega|grind)
def bt(x a b:Int):Bool:=decide (a<=x)&&decide (x<=b)
theorem Nv(x m:Int):aH 172 (Z x) (Z m) (B (bt x 1 m)):=by
 refine Dp func172 λC hP hN=>?_
 with_reducible repeat' (first|refine Sp.h ?_|((first|refine Ss.h ?_|(refine Sb.h ?_ ?_ ?_<;>(try intro hgd)<;>try exact Xy))<;>simp -implicitDefEqProofs (maxSteps:=2000000) [hP,hN])|refine X2 ?_ ?_|(refine Xd ?_ ?_<;>intro hcd<;>try exact Xx))
 all_goals (first|(simp_all[bt];done)|((try simp_all[bt])<;>(try omega)<;>grind))
theorem Gw(x a b:Int):mW 103 (Z x) (Z a) (Z b) (B (bt x a b)):=by
 refine Dp func103 λC hP hN=>?_
 with_reducible repeat' (first|refine Sp.h ?_|((first|refine Ss.h ?_|(refine Sb.h ?_ ?_ ?_<;>(try intro hgd)<;>try exact Xy))<;>simp -implicitDefEqProofs (maxSteps:=2000000) [hP,hN])|refine X2 ?_ ?_|(refine Xd ?_ ?_<;>intro hcd<;>try exact Xx))
 all_goals (first|(simp_all[bt];done)|((try simp_all[bt])<;>(try omega)<;>grind))
def Aw(k:Int):Int:=if k=1\/k=2\/k=3 then 524288 else if k=4\/k=5\/k=6 then 4194304 else 0
def eO(k:Int):Int:=if k=0 then 0 else if k=1\/k=2\/k=3 then 524288 else 4194304
theorem Q6(k:Int):bh 171 (Z k) (Z (Aw k)):=by
 refine Dp func171 λC hP hN=>?_
 with_reducible repeat' (first|refine Sp.h ?_|((first|refine Ss.h ?_|(refine Sb.h ?_ ?_ ?_<;>(try intro hgd)<;>try exact Xy))<;>simp -implicitDefEqProofs (maxSteps:=2000000) [hP,hN])|refine X2 ?_ ?_|(refine Xd ?_ ?_<;>intro hcd<;>try exact Xx))
 all_goals (simp[Aw]at *;first|omega|grind)
theorem Nw(k:Int):bh 157 (Z k) (Z (eO k)):=by
 refine Dp func157 λC hP hN=>?_
 with_reducible repeat' (first|refine Sp.h ?_|((first|refine Ss.h ?_|(refine Sb.h ?_ ?_ ?_<;>(try intro hgd)<;>try exact Xy))<;>simp -implicitDefEqProofs (maxSteps:=2000000) [hP,hN])|refine X2 ?_ ?_|(refine Xd ?_ ?_<;>intro hcd<;>try exact Xx))
 all_goals (simp[eO]at *;first|omega|grind)
theorem ES{k:Int}(a:0<=k)(h6:k<=6):Aw k=eO k:=by
 have:k=0\/k=1\/k=2\/k=3\/k=4\/k=5\/k=6:=by omega
 rcases this with rfl|rfl|rfl|rfl|rfl|rfl|rfl<;>rfl
def mf(a b:ByteArray):Bool:=a.toList==b.toList
theorem Q7(js:List J)(ms:List Ms)(name:ByteArray)(f:js.length<=9223372036854775807):aH 169 (gB js ms) (.val (.string name)) (Z (oW (λj=>mf j.name name) js)):=by
 refine Dp func169 λC hP hN=>?_;refine Gz ?_;refine WP.loopN [] js.length (λi st=>st.t 1=.pv (.val (.string name))/\st.t 2=.ptr 2 0/\st.h 2=some (.box [.pv (.sl (js.map bu)),.pv (.sl (ms.map cE))] true false)/\st.t 8=.pv (Z js.length)/\st.t 9=.pv (Z i)/\∀j x,j<i->js[j]?=some x->mf x.name name=false) (by simp) ?_;rintro i st hi ⟨b,c,e,h8,d,hq⟩;by_cases a:i<js.length
 .have g:=aj a f
  with_reducible repeat' (first|refine Sp.h ?_|((first|refine Ss.h ?_|(refine Sb.h ?_ ?_ ?_<;>(try intro hgd)<;>try exact Xy))<;>simp -implicitDefEqProofs (maxSteps:=2000000) [hP,hN,b,c,e,h8,d,a,g])|refine X2 ?_ ?_|(refine Xd ?_ ?_<;>intro hcd<;>try exact Xx))
  .exact(rc a hq hcd).symm
  .simpa using p9 a hq hcd
 .skip
  refine Gz ?_;exact(wI (zd a hq)).symm
def tF(js:List J)(i:Nat)(name:ByteArray):Bool:=(js.take i).any λj=>mf j.name name
theorem JH(h:i<js.length):(oW (λj=>mf j.name js[i].name) js !=(i:Int))=tF js i js[i].name:=by
 have o:mf js[i].name js[i].name=true:=by simp[mf]
 cases hd:tF js i js[i].name with
 |false=>
  have:oW (λj=>mf j.name js[i].name) js=i:=rc h (λj x l g=>by
   rw[tF,XN]at hd;have n:x∈js.take i:=Is (by rw[Wk,VS l];exact g)
   simpa using hd x n) o
  rw[this];simp
 |true=>
  rw[tF,XX]at hd;obtain⟨x,g,hp⟩:=hd;obtain⟨k,b⟩:=Wt g;rw[Wk]at b;split at b
  .rename_i d
   simp only[bne_iff_ne,ne_eq];intro a;unfold oW at a
   cases hf:js.findIdx? (λj=>mf j.name js[i].name)with
   |none=>
    rw[hf]at a;simp at a
   |some m=>
    rw[hf]at a;have c:(m:Int)=(i:Int):=a
    have a:m=i:=by omega
    clear c;subst a;rw[X8]at hf;obtain⟨p,_,f⟩:=hf;have e:=(th.1 b);have:=f k d;rw[e.2]at this;exact this hp
  .cases b
def cZ(js:List J)(i:Nat)(j:J):Int:=
 if(!jS j.name||tF js i j.name)=true then 802 else if j.kind<0\/6<j.kind then 803 else if j.parent< -1\/(i:Int)<=j.parent then 804 else if hC j.ox j.oy j.oz 4194304=false then 805
 else if j.hi<j.lo\/j.lo< -eO j.kind\/eO j.kind<j.hi then 806 else if(bt j.w 1 1024&&bt j.sp 1 1048576&&bt j.ac 1 1048576&&bt j.tq 1 1099511627776)=false then 807 else 0
theorem tG(k:Int):0<=eO k/\eO k<=4194304:=by unfold eO;repeat' split
                                             all_goals omega
theorem Ny(js:List J)(ms:List Ms)(i:Nat)(A:js.length<=9223372036854775807)(hi:i<js.length):aH 120 (gB js ms) (Z i) (Z (cZ js i js[i])):=by
 have d:=an hi;have a:=JH hi;have e:=Q7 js ms js[i].name A;generalize b:js[i]=j at d a e|-;have B:=tG j.kind;have l:i64.wrap (0-eO j.kind)=-eO j.kind:=(aa (n:=0-eO j.kind) (by omega) (by omega)).trans (by omega);have c:i64.wrap (-eO j.kind)=-eO j.kind:=aa;generalize oW (λk=>mf k.name j.name) js=q at a e;refine Dp func120 λC hP hN=>?_
 cases hn:jS j.name with
 |false=>
  have v:=@zg;refine GT (f7 d b hn hi) ?_
  all_goals simp[cZ,hn]
 |true=>
  cases hd:tF js i j.name with
  |true=>
   rw[hd]at a;have v:=@zg;refine GT (f8 d b hn hi a) ?_
   all_goals simp[cZ,hn,hd]
  |false=>
   rw[hd]at a;by_cases g:j.kind<0\/6<j.kind
   .skip
    with_reducible repeat' (first|refine Sp.h ?_|((first|refine Ss.h ?_|refine Sc.h (zg _) ?_|refine Sc.h (e) ?_|(refine Sb.h ?_ ?_ ?_<;>(try intro hgd)<;>try exact Xy))<;>simp -implicitDefEqProofs (maxSteps:=2000000) [hP,hN,d,b,hn,hi,a])|refine X2 ?_ ?_|(refine Xd ?_ ?_<;>intro hcd<;>try exact Xx))
    all_goals (first|(simp[cZ,hn,hd,g];done)|(exfalso;simp at *;omega))
   .have p:Aw j.kind=eO j.kind:=ES (by omega) (by omega)
    have cl:=Q6 j.kind;rw[p]at cl
    have m:¬j.kind<0:=by omega
    have o:¬6<j.kind:=by omega
    by_cases hp:j.parent< -1\/(i:Int)<=j.parent
    .skip
     with_reducible repeat' (first|refine Sp.h ?_|((first|refine Ss.h ?_|refine Sc.h (zg _) ?_|refine Sc.h (e) ?_|(refine Sb.h ?_ ?_ ?_<;>(try intro hgd)<;>try exact Xy))<;>simp -implicitDefEqProofs (maxSteps:=2000000) [hP,hN,d,b,hn,hi,a,m,o])|refine X2 ?_ ?_|(refine Xd ?_ ?_<;>intro hcd<;>try exact Xx))
     all_goals (first|(simp[cZ,hn,hd,g,hp];done)|(exfalso;simp at *;omega))
    .have r:¬j.parent< -1:=by omega
     have s:¬(i:Int)<=j.parent:=by omega
     cases f:hC j.ox j.oy j.oz 4194304 with
     |false=>
      have v:=@zg;have D:=@Gv;refine GT (s5 d b hn hi a m o r s f) ?_
      all_goals (simp[cZ,hn,hd,g,hp,f])
     |true=>
      by_cases u:j.hi<j.lo\/j.lo< -eO j.kind\/eO j.kind<j.hi
      .skip
       with_reducible repeat' (first|refine Sp.h ?_|((first|refine Ss.h ?_|refine Sc.h (zg _) ?_|refine Sc.h (e) ?_|refine Sc.h (Gv _ _ _) ?_|refine Sc.h (cl) ?_|(refine Sb.h ?_ ?_ ?_<;>(try intro hgd)<;>try exact Xy))<;>simp -implicitDefEqProofs (maxSteps:=2000000) [hP,hN,d,b,hn,hi,a,m,o,r,s,f,l,c])|refine X2 ?_ ?_|(refine Xd ?_ ?_<;>intro hcd<;>try exact Xx))
       all_goals (first|(simp[cZ,hn,hd,g,hp,f,u];done)|(exfalso;simp at *;omega))
      .have x:¬j.hi<j.lo:=by omega
       have y:¬j.lo< -eO j.kind:=by omega
       have z:¬eO j.kind<j.hi:=by omega
       with_reducible repeat' (first|refine Sp.h ?_|((first|refine Ss.h ?_|refine Sc.h (zg _) ?_|refine Sc.h (e) ?_|refine Sc.h (Gv _ _ _) ?_|refine Sc.h (cl) ?_|refine Sc.h (Nv _ _) ?_|(refine Sb.h ?_ ?_ ?_<;>(try intro hgd)<;>try exact Xy))<;>simp -implicitDefEqProofs (maxSteps:=2000000) [hP,hN,d,b,hn,hi,a,m,o,r,s,f,l,c,x,y,z])|refine X2 ?_ ?_|(refine Xd ?_ ?_<;>intro hcd<;>try exact Xx))
       all_goals (rw[cZ,VM (by simp[hn,hd]),VM g,VM hp,VM (by simp[f]),VM u];simp_all)
abbrev Q8(j:J):List AV:=[.pv (.val (.string j.name)),.pv (Z j.kind),.pv (Z j.parent),.pv (Z j.ox),.pv (Z j.oy),.pv (Z j.oz),.pv (Z j.lo),.pv (Z j.hi),.pv (Z j.w),.pv (Z j.sp),.pv (Z j.ac),.pv (Z j.tq)]
theorem Md{n:ByteArray}(a:k<i)(b:k<js.length)(h:mf js[k].name n=true):tF js i n=true:=by
 rw[tF,XX];exact⟨js[k],Is (i:=k) (by rw[Wk,VS a];exact an b),h⟩
theorem Nz{n:ByteArray}(h:∀m x,m<i->js[m]?=some x->mf x.name n=false):tF js i n=false:=by
 rw[tF,XN];intro x c;obtain⟨m,a⟩:=Wt c;rw[Wk]at a;split at a
 .rename_i b;simp[h m x b a]
 .cases a
theorem NA(js:List J)(i:Nat)(G:js.length<=9223372036854775807)(hi:i<js.length):aH 102 (.sl (js.map bu)) (Z i) (Z (cZ js i js[i])):=by
 have v:=an hi;generalize l:js[i]=j at v|-;have I:=tG j.kind;have g:i64.wrap (0-eO j.kind)=-eO j.kind:=(aa (n:=0-eO j.kind) (by omega) (by omega)).trans (by omega);have c:i64.wrap (-eO j.kind)=-eO j.kind:=aa;refine Dp func102 λC hP hN=>?_
 cases hn:jS j.name with
 |false=>
  have H:=@Nt;refine GT (f7 v l hn hi) ?_
  all_goals simp[cZ,hn]
 |true=>
  have H:=@Nt;refine GT (f7 v l hn hi) ?_;refine WP.loopN [] i (λk st=>st.t 0=.pv (.sl (js.map bu))/\st.t 1=.pv (Z i)/\st.t 5=.ptr 5 0/\st.h 5=some (.box (Q8 j) true false)/\st.t 6=.pv (Z k)/\∀m x,m<k->js[m]?=some x->mf x.name j.name=false) (by simp) ?_;rintro k st d ⟨g0,g1,g5,a,f,hq⟩;by_cases s:k<i
  .have b:k<js.length:=by omega
   have K:=aj b G
   have B:(k:Int)<(i:Int):=by omega
   cases o:mf js[k].name j.name with
   |true=>
    have u:(js[k].name.toList==j.name.toList)=true:=o;have hd:=Md s b o;refine Gz ?_
    all_goals simp[cZ,hn,hd]
   |false=>
    have u:(js[k].name.toList==j.name.toList)=false:=o;refine Gz ?_
    all_goals simpa using p9 b hq o
  .have r:k=i:=by omega
   subst r;have hd:=Nz hq;by_cases d:j.kind<0\/6<j.kind
   .skip
    with_reducible repeat' (first|refine Sp.h ?_|((first|refine Wd ?_|refine Ss.h ?_|(refine Sb.h ?_ ?_ ?_<;>(try intro hgd)<;>try exact Xy))<;>simp -implicitDefEqProofs (maxSteps:=2000000) [hP,hN,g0,g1,g5,a,f]<;>try refine Ya ?_)|refine X2 ?_ ?_|(refine Xd ?_ ?_<;>intro hcd<;>try exact Xx))
    all_goals (first|(simp[cZ,hn,hd,d];done)|(exfalso;simp at *;omega))
   .have p:¬j.kind<0:=by omega
    have q:¬6<j.kind:=by omega
    by_cases hp:j.parent< -1\/(k:Int)<=j.parent
    .skip
     with_reducible repeat' (first|refine Sp.h ?_|((first|refine Wd ?_|refine Ss.h ?_|(refine Sb.h ?_ ?_ ?_<;>(try intro hgd)<;>try exact Xy))<;>simp -implicitDefEqProofs (maxSteps:=2000000) [hP,hN,g0,g1,g5,a,f,p,q]<;>try refine Ya ?_)|refine X2 ?_ ?_|(refine Xd ?_ ?_<;>intro hcd<;>try exact Xx))
     all_goals (first|(simp[cZ,hn,hd,d,hp];done)|(exfalso;simp at *;omega))
    .have y:¬j.parent< -1:=by omega
     have z:¬(k:Int)<=j.parent:=by omega
     cases e:hC j.ox j.oy j.oz 4194304 with
     |false=>
      with_reducible repeat' (first|refine Sp.h ?_|((first|refine Wd ?_|refine Ss.h ?_|refine Sc.h (rW _ _ _ _ (by decide) (by decide)) ?_|(refine Sb.h ?_ ?_ ?_<;>(try intro hgd)<;>try exact Xy))<;>simp -implicitDefEqProofs (maxSteps:=2000000) [hP,hN,g0,g1,g5,a,f,p,q,y,z,e]<;>try refine Ya ?_)|refine X2 ?_ ?_|(refine Xd ?_ ?_<;>intro hcd<;>try exact Xx))
      all_goals (simp[cZ,hn,hd,d,hp,e])
     |true=>
      by_cases A:j.hi<j.lo\/j.lo< -eO j.kind\/eO j.kind<j.hi
      .skip
       with_reducible repeat' (first|refine Sp.h ?_|((first|refine Wd ?_|refine Ss.h ?_|refine Sc.h (rW _ _ _ _ (by decide) (by decide)) ?_|refine Sc.h (Nw _) ?_|(refine Sb.h ?_ ?_ ?_<;>(try intro hgd)<;>try exact Xy))<;>simp -implicitDefEqProofs (maxSteps:=2000000) [hP,hN,g0,g1,g5,a,f,p,q,y,z,e,g,c]<;>try refine Ya ?_)|refine X2 ?_ ?_|(refine Xd ?_ ?_<;>intro hcd<;>try exact Xx))
       all_goals (first|(simp[cZ,hn,hd,d,hp,e,A];done)|(exfalso;simp at *;omega))
      .have D:¬j.hi<j.lo:=by omega
       have E:¬j.lo< -eO j.kind:=by omega
       have F:¬eO j.kind<j.hi:=by omega
       with_reducible repeat' (first|refine Sp.h ?_|((first|refine Wd ?_|refine Ss.h ?_|refine Sc.h (rW _ _ _ _ (by decide) (by decide)) ?_|refine Sc.h (Nw _) ?_|refine Sc.h (Gw _ _ _) ?_|(refine Sb.h ?_ ?_ ?_<;>(try intro hgd)<;>try exact Xy))<;>simp -implicitDefEqProofs (maxSteps:=2000000) [hP,hN,g0,g1,g5,a,f,p,q,y,z,e,g,c,D,E,F]<;>try refine Ya ?_)|refine X2 ?_ ?_|(refine Xd ?_ ?_<;>intro hcd<;>try exact Xx))
       all_goals (rw[cZ,VM (by simp[hn,hd]),VM d,VM hp,VM (by simp[e]),VM A];simp_all)
def iB(n:Nat)(m:Ms):Bool:=decide (0<=m.link)&&decide (m.link<n)&&bt m.mass 1 65536&&hC m.px m.py m.pz 4194304
theorem Q9(js:List J)(ms:List Ms)(m:Ms):aH 123 (gB js ms) (cE m) (B (iB js.length m)):=by
 refine Dp func123 λC hP hN=>?_
 with_reducible repeat' (first|refine Sp.h ?_|((first|refine Ss.h ?_|refine Sc.h (Nv _ _) ?_|refine Sc.h (Gv _ _ _) ?_|(refine Sb.h ?_ ?_ ?_<;>(try intro hgd)<;>try exact Xy))<;>simp -implicitDefEqProofs (maxSteps:=2000000) [hP,hN])|refine X2 ?_ ?_|(refine Xd ?_ ?_<;>intro hcd<;>try exact Xx))
 all_goals (simp_all[iB]<;>omega)
theorem Ra(js:List J)(ms:List Ms)(m:Ms):aH 122 (cE m) (.rptr (gB js ms) 0) (B (!iB js.length m)):=by
 refine Dp func122 λC hP hN=>?_;have a:=@Q9;exact GS trivial
theorem Rb(f:FuncId)(c:PV)(p:Ms->Bool)(xs:List Ms)(e:xs.length<=9223372036854775807)(hf:∀x,aQ prog f [.pv (cE x),.pv (.rptr c 0)] [] [] (.pv (B (p x)))):aH 173 (.sl (xs.map cE)) (.fn (.func f) [] [.rptr c 0]) (Z (oW p xs)):=by
 refine Dp func173 λC hP hN=>?_;refine Gz ?_;refine WP.loopN [] xs.length (λi st=>st.t 0=.pv (.sl (xs.map cE))/\st.t 1=.pv (.fn (.func f) [] [.rptr c 0])/\st.t 7=.pv (Z xs.length)/\st.t 8=.pv (Z i)/\∀j x,j<i->xs[j]?=some x->p x=false) (by simp) ?_;rintro i st hi ⟨b,d,h7,h8,hq⟩;by_cases a:i<xs.length
 .have g:=aj a e
  with_reducible repeat' (first|refine Sp.h ?_|((first|refine Ss.h ?_|refine Sc.h (hf _) ?_|(refine Sb.h ?_ ?_ ?_<;>(try intro hgd)<;>try exact Xy))<;>simp -implicitDefEqProofs (maxSteps:=2000000) [hP,hN,b,d,h7,h8,a,g])|refine X2 ?_ ?_|(refine Xd ?_ ?_<;>intro hcd<;>try exact Xx))
  .exact(rc a hq hcd).symm
  .simpa using p9 a hq hcd
 .skip
  refine Gz ?_;exact(wI (zd a hq)).symm
theorem Rc(f:FuncId)(c:PV)(p:Ms->Bool)(xs:List Ms)(a:xs.length<=9223372036854775807)(hf:∀x,aQ prog f [.pv (cE x),.pv (.rptr c 0)] [] [] (.pv (B (p x)))):aH 121 (.sl (xs.map cE)) (.fn (.func f) [] [.rptr c 0]) (B (xs.any p)):=by
 refine Dp func121 λC hP hN=>?_;have b:=Rb _ _ _ _ a hf;refine GT trivial ?_
 all_goals (first|(simp_all[uV];done)|((try simp_all[uV])<;>(try omega)<;>grind))
def jT(js:List J):Int:=match(js.mapIdx (cZ js)).find? (λe=>e !=0)with
 |some e=>e
 |none=>0
theorem qc(js:List J):jT js=match(js.mapIdx (cZ js)).find? (λe=>e !=0)with
 |some e=>e
 |none=>0:=rfl
theorem yA(b:i<js.length)(hq:∀k x,k<i->js[k]?=some x->cZ js k x=0)(c:cZ js i js[i]≠0):jT js=cZ js i js[i]:=by
 rw[qc]
 have:(js.mapIdx (cZ js)).find? (λe=>e !=0)=some (cZ js i js[i]):=by
  rw[Yl];refine⟨by simpa using c,i,by simpa using b,by simp,λk d=>?_⟩
  have a:k<js.length:=by omega
  simp[hq k js[k] d (an a)]
 rw[this]
theorem Ax(hq:∀(k:Nat) x,js[k]?=some x->cZ js k x=0):jT js=0:=by
 rw[qc]
 have:(js.mapIdx (cZ js)).find? (λe=>e !=0)=none:=by
  rw[W7];intro e a;simp only[List.mem_mapIdx]at a;obtain⟨i,hi,rfl⟩:=a;simp[hq i js[i] (an hi)]
 rw[this]
theorem Ds(b:i<js.length)(hq:∀k x,k<i->js[k]?=some x->cZ js k x=0)(c:cZ js i js[i]=0):∀k x,k<i+1->js[k]?=some x->cZ js k x=0:=by
 intro k x d a;by_cases e:k=i
 .subst e;rw[an b]at a;injection a with a;subst a;exact c
 .exact hq k x (by omega) a
def aO(js:List J)(ms:List Ms):Int:=if js.length=0\/10<js.length then 801 else if jT js≠0 then jT js else if(decide (32<ms.length)||ms.any λm=>!iB js.length m)=true then 808 else 0
theorem yD(js:List J)(ms:List Ms)(v:js.length<=9223372036854775807)(E:ms.length<=9223372036854775807):bh 62 (gB js ms) (Z (aO js ms)):=by
 by_cases o:js.length=0
 .have s:aO js ms=801:=by simp[aO,o]
  have p:js=[]:=Wq o;rw[s];subst p;refine Dp func62 λC hP hN=>?_;exact Gy
 have G:((js.length:Int)==0)=false:=by simp;intro h;exact o (by rw[h];rfl)
 by_cases D:10<js.length
 .have s:aO js ms=801:=by simp[aO,D]
  have q:(10:Int)<js.length:=by omega
  rw[s];refine Dp func62 λC hP hN=>?_;exact Gy
 have q:¬(10:Int)<js.length:=by omega
 have u:aO js ms=if jT js≠0 then jT js else if(decide (32<ms.length)||ms.any λm=>!iB js.length m)=true then 808 else 0:=by
  unfold aO;rw[VM (by omega)]
 rw[u];generalize y:(if(decide (32<ms.length)||ms.any λm=>!iB js.length m)=true then(808:Int)else 0)=r;refine Dp func62 λC hP hN=>?_;refine Gz ?_;refine WP.loopN [] js.length (λi st=>st.t 1=.ptr 1 0/\st.h 1=some (.box [.pv (.sl (js.map bu)),.pv (.sl (ms.map cE))] true false)/\st.t 17=.pv (Z js.length)/\st.t 18=.pv (Z i)/\∀k x,k<i->js[k]?=some x->cZ js k x=0) (by simp) ?_;rintro i st hi ⟨g1,l,e,f,hq⟩;by_cases a:i<js.length
 .have A:=aj a v
  by_cases c:cZ js i js[i]=0
  .have d:(cZ js i js[i]!=0)=false:=by simp[c]
   have F:=Ny js ms i v a;refine GT (so g1 l e f a A d c) ?_
   all_goals simpa using Ds a hq c
  .have d:(cZ js i js[i]!=0)=true:=by simp[c]
   have hf:=yA a hq c;have F:=Ny js ms i v a;refine GT (so g1 l e f a A d c) ?_
   all_goals simp[hf,c]
 .have hf:jT js=0:=Ax (λk x B=>hq k x (by have:=(th.1 B).1;omega) B)
  have z:=Rc 122 (gB js ms) (λm=>!iB js.length m) ms E (λm=>Ra js ms m);rw[hf];by_cases g:32<ms.length
  .have j:(32:Int)<ms.length:=by omega
   have n:r=808:=by rw[<-y];simp[g]
   exact Gy
  .have j:¬(32:Int)<ms.length:=by omega
   cases b:ms.any λm=>!iB js.length m with
   |true=>
    rw[b]at z
    have n:r=808:=by rw[<-y,b];simp
    exact Gy
   |false=>
    rw[b]at z
    have n:r=0:=by rw[<-y,b];simp[g]
    exact Gy
theorem Me{p:α->Bool}{xs:List α}(h:i<xs.length)(hp:p xs[i]=true):xs.any p=true:=XX.2 ⟨_,Wb h,hp⟩
theorem NB{p:α->Bool}{xs:List α}(h:∀(i:Nat) x,xs[i]?=some x->p x=false):xs.any p=false:=by
 rw[XN];intro x a;obtain⟨i,hi⟩:=Wt a;simp[h i x hi]
theorem sR(js:List J)(ms:List Ms)(B:js.length<=9223372036854775807)(F:ms.length<=9223372036854775807):bh 44 (gB js ms) (Z (aO js ms)):=by
 by_cases D:js.length=0
 .have A:aO js ms=801:=by simp[aO,D]
  have y:js=[]:=Wq D;rw[A];subst y;refine Dp func44 λC hP hN=>?_;exact Gy
 have H:¬(js.length:Int)<1:=by omega
 have I:¬js.length<1:=by omega
 by_cases E:10<js.length
 .have A:aO js ms=801:=by simp[aO,E]
  have z:(10:Int)<js.length:=by omega
  rw[A];refine Dp func44 λC hP hN=>?_;exact Gy
 have z:¬(10:Int)<js.length:=by omega
 have f:aO js ms=if jT js≠0 then jT js else if(decide (32<ms.length)||ms.any λm=>!iB js.length m)=true then 808 else 0:=by
  unfold aO;rw[VM (by omega)]
 rw[f];generalize u:(if(decide (32<ms.length)||ms.any λm=>!iB js.length m)=true then(808:Int)else 0)=r;refine Dp func44 λC hP hN=>?_;refine Gz ?_;refine WP.loopN [] js.length (λi st=>st.t 1=.ptr 1 0/\st.h 1=some (.box [.pv (.sl (js.map bu)),.pv (.sl (ms.map cE))] true false)/\st.h 6=none/\st.t 3=.pv (Z i)/\∀k x,k<i->js[k]?=some x->cZ js k x=0) (by simp) ?_;rintro i st hi ⟨g1,b,c,g3,hq⟩;by_cases a:i<js.length
 .have l:=aj a B
  by_cases g:cZ js i js[i]=0
  .have j:(cZ js i js[i]!=0)=false:=by simp[g]
   have G:=NA js i B a;refine GT (so g1 b c g3 a l j g) ?_
   all_goals simpa using Ds a hq g
  .have j:(cZ js i js[i]!=0)=true:=by simp[g]
   have hf:=yA a hq g;have G:=NA js i B a;refine GT (so g1 b c g3 a l j g) ?_
   all_goals simp[hf,g]
 .have hf:jT js=0:=Ax (λk x n=>hq k x (by have:=(th.1 n).1;omega) n)
  rw[hf];by_cases o:32<ms.length
  .have q:(32:Int)<ms.length:=by omega
   have e:r=808:=by rw[<-u];simp[o]
   exact Gy
  .have q:¬(32:Int)<ms.length:=by omega
   refine Gz ?_;refine WP.loopN [6] ms.length (λi st=>st.t 1=.ptr 1 0/\st.h 1=some (.box [.pv (.sl (js.map bu)),.pv (.sl (ms.map cE))] true false)/\st.h 6=none/\st.t 5=.pv (Z i)/\∀k x,k<i->ms[k]?=some x->(!iB js.length x)=false) (by simp[g1,b,c]) ?_;clear g1 b c g3 hq;rintro i st hi ⟨g1,b,c,g5,hq⟩;by_cases a:i<ms.length
   .have l:=aj a F
    have n:=an a
    cases s:iB js.length ms[i]with
    |false=>
     have d:(ms.any λm=>!iB js.length m)=true:=Me a (by simp[s])
     have e:r=808:=by rw[<-u,d];simp
     clear u d
     with_reducible repeat' (first|refine Sp.h ?_|((first|refine Ss.h ?_|refine Sc.h (rW _ _ _ _ (by decide) (by decide)) ?_|refine Sc.h (Gw _ _ _) ?_|(refine Sb.h ?_ ?_ ?_<;>(try intro hgd)<;>try exact Xy))<;>simp -implicitDefEqProofs (maxSteps:=2000000) [hP,hN,g1,b,c,g5,a,l,e])|refine X2 ?_ ?_|(refine Xd ?_ ?_<;>intro hcd<;>try exact Xx))
     all_goals (exfalso;clear hq hP hN g1 b c g5 l e f hf;simp[iB]at *;grind)
    |true=>
     have v:=p9 (p:=λm=>!iB js.length m) a hq (by simp[s]);clear u hq
     with_reducible repeat' (first|refine Sp.h ?_|((first|refine Ss.h ?_|refine Sc.h (rW _ _ _ _ (by decide) (by decide)) ?_|refine Sc.h (Gw _ _ _) ?_|(refine Sb.h ?_ ?_ ?_<;>(try intro hgd)<;>try exact Xy))<;>simp -implicitDefEqProofs (maxSteps:=2000000) [hP,hN,g1,b,c,g5,a,l])|refine X2 ?_ ?_|(refine Xd ?_ ?_<;>intro hcd<;>try exact Xx))
     all_goals first|(simpa using v)|(exfalso;clear v hP hN g1 b c g5 l f hf;simp[iB]at *;grind)
   .have d:(ms.any λm=>!iB js.length m)=false:=NB (λk x n=>hq k x (by have:=(th.1 n).1;omega) n)
    have e:r=0:=by rw[<-u,d];simp[o]
    exact Gy
theorem nu{p:α->Bool}{xs:List α}:bj p xs=true↔∀x∈xs,p x=true:=by simp[bj]
theorem ny{β:Type}{f:α->β->Bool}{xs:List α}{ys:List β}:dN f xs ys=true↔∀(i:Nat)(h:i<xs.length)(h':i<ys.length),f xs[i] ys[i]=true:=by
 unfold dN;rw[VL];constructor
 .intro h i hi a
  exact h (f xs[i] ys[i]) (by
   rw[Xh]
   exact⟨i,by simp;omega,by simp⟩)
 .intro h x b
  obtain⟨i,hi,rfl⟩:=Xh.1 b;simp only[List.length_zipWith]at hi;simpa using h i (by omega) (by omega)
section
variable {p q:List Int} {d i:Int}
end
def t8(a b:Int):Int:=if a.tmod b<0 then wr (wr (a.tdiv b)-1)else wr (a.tdiv b)
theorem Rd(a b:Int)(c:b≠0):aH 155 (Z a) (Z b) (Z (t8 a b)):=by
 refine Dp func155 λC hP hN=>?_
 with_reducible repeat' (first|refine Sp.h ?_|((first|refine Ss.h ?_|(refine Sb.h ?_ ?_ ?_<;>(try intro hgd)<;>try exact Xy))<;>simp -implicitDefEqProofs (maxSteps:=2000000) [hP,hN,c])|refine X2 ?_ ?_|(refine Xd ?_ ?_<;>intro hcd<;>try exact Xx))
 all_goals (first|(simp_all[t8];done)|((try simp_all[t8])<;>(try omega)<;>grind))
theorem BQ{k:Int}(c:0<b)(h1:k*b<=a)(d:a<(k+1)*b):a/b=k:=by
 have:=(Yg c).2 h1;have:=(Yh c).2 d;omega
theorem HY(c:0<b)(h1:-4611686018427387904<=a)(d:a<=4611686018427387904):t8 a b=a/b:=by
 have hq:=Yk a b;have g:-b<a.tmod b:=X6 a c;have i:a.tmod b<b:=XJ a c;have f:=Gu (a:=a) (N:=b) (B:=4611686018427387904) c h1 d;rw[Int.mul_comm]at hq;unfold t8;split
 .have e:a/b=a.tdiv b-1:=BQ c (by rw[Int.sub_mul];omega) (by rw[show a.tdiv b-1+1=a.tdiv b by omega];omega)
  rw[aa (n:=a.tdiv b) (by omega) (by omega),aa (by omega) (by omega),e]
 .have e:a/b=a.tdiv b:=BQ c (by omega) (by rw[Int.add_mul];omega)
  rw[aa (n:=a.tdiv b) (by omega) (by omega),e]
theorem yE{x:Int×Int}(h:aw x.1 x.2=true):-2147483648<=x.1/\x.1<=x.2/\x.2<=2147483648:=by
 simp only[aw,An,L4]at h;omega
theorem Re(x:Int×Int):bh 101 (aN x) (Z (jG x)):=by
 cases a:aw x.1 x.2 with
 |false=>
  have b:jG x=0:=by simp[jG,a]
  rw[b];refine Dp func101 λC hP hN=>?_;have d:=@oR;exact GS a
 |true=>
  have c:=yE a
  have b:jG x=t8 (wr (x.1+x.2)) 2:=by
   rw[jG,a];simp only[V8];rw[aa (by omega) (by omega),HY (by decide) (by omega) (by omega),Int.fdiv_eq_ediv_of_nonneg _ (by decide)]
  rw[b];refine Dp func101 λC hP hN=>?_
  with_reducible repeat' (first|refine Sp.h ?_|((first|refine Ss.h ?_|refine Sc.h (oR _ _) ?_|refine Sc.h (Rd _ _ (by decide)) ?_|(refine Sb.h ?_ ?_ ?_<;>(try intro hgd)<;>try exact Xy))<;>simp -implicitDefEqProofs (maxSteps:=2000000) [hP,hN,a])|refine X2 ?_ ?_|(refine Xd ?_ ?_<;>intro hcd<;>try exact Xx))
def lP(xs ys:List (Int×Int)):Bool:=bj vI xs&&bj vI ys&&decide (xs.length=ys.length)&&dN iA xs ys
theorem Rf(xs ys:List (Int×Int))(g:xs.length<=9223372036854775807)(k:ys.length<=9223372036854775807):aH 116 (iv xs) (iv ys) (B (lP xs ys)):=by
 cases f:bj vI xs with
 |false=>
  have d:lP xs ys=false:=by simp[lP,f]
  rw[d];refine Dp func116 λC hP hN=>?_;have n:=iy _ g;have o:=iy _ k;exact GS f
 |true=>
  cases j:bj vI ys with
  |false=>
   have d:lP xs ys=false:=by simp[lP,f,j]
   rw[d];refine Dp func116 λC hP hN=>?_;have n:=iy _ g;have o:=iy _ k;exact GS (gA f j)
  |true=>
   by_cases m:xs.length=ys.length
   .have c:((xs.length:Int)!=ys.length)=false:=by simp[m]
    have d:lP xs ys=dN iA xs ys:=by simp[lP,f,j,m]
    rw[d];refine Dp func116 λC hP hN=>?_;have n:=iy _ g;have o:=iy _ k;refine GT (be f j c) ?_;refine WP.loopN [6] xs.length (λi st=>st.t 0=.pv (iv xs)/\st.t 1=.pv (iv ys)/\st.t 5=.pv (Z i)/\st.h 6=none/\eF iA xs ys i=true) (by simp[eF]) ?_;rintro i st hi ⟨g0,g1,g5,q,hq⟩;by_cases b:i<xs.length
    .have r:=aj b g
     have a:i<ys.length:=by omega
     have hF:iA xs[i] ys[i]=false->dN iA xs ys=false:=ir b a;have hS:iA xs[i] ys[i]=true->eF iA xs ys (i+1)=true:=jh b a hq;have p:=QW xs[i].1 xs[i].2 ys[i].1 ys[i].2
     cases l:iA xs[i] ys[i]with
     |true=>
      have e:(aw xs[i].1 xs[i].2&&aw ys[i].1 ys[i].2&&decide (max xs[i].1 ys[i].1<=min xs[i].2 ys[i].2))=true:=l;rw[VS e]at p;exact Gy
      all_goals simpa using hS l
     |false=>
      have e:(aw xs[i].1 xs[i].2&&aw ys[i].1 ys[i].2&&decide (max xs[i].1 ys[i].1<=min xs[i].2 ys[i].2))=false:=l;rw[VM (by simp[e])]at p;exact Gy
      all_goals simp[hF l]
    .have a:¬i<ys.length:=by omega
     refine Gz ?_
     all_goals simp[ji b hq]
   .have c:((xs.length:Int)!=ys.length)=true:=by simp;omega
    have d:lP xs ys=false:=by simp[lP,m]
    rw[d];refine Dp func116 λC hP hN=>?_;have n:=iy _ g;have o:=iy _ k;exact GS (be f j c)
theorem HZ(xs ys:List (Int×Int)):lP xs ys=bk xs ys:=by
 unfold lP bk;by_cases c:xs.length=ys.length
 .cases b:dN iA xs ys with
  |false=>simp
  |true=>
   rw[ny]at b
   have d:bj vI xs=true:=by
    rw[nu];intro x a;obtain⟨i,hi,rfl⟩:=Xh.1 a;have:=b i hi (by omega);simp only[iA,An]at this;exact this.1.1
   have e:bj vI ys=true:=by
    rw[nu];intro x a;obtain⟨i,hi,rfl⟩:=Xh.1 a;have:=b i (by omega) hi;simp only[iA,An]at this;exact this.1.2
   simp[d,e,c]
 .simp[c]
theorem Gx(xs ys:List (Int×Int)):nM xs ys=oX xs ys:=by
 unfold nM oX;by_cases c:xs.length=ys.length
 .cases b:dN dS xs ys with
  |false=>simp
  |true=>
   rw[ny]at b
   have d:bj vI xs=true:=by
    rw[nu];intro x a;obtain⟨i,hi,rfl⟩:=Xh.1 a;have:=b i hi (by omega);simp only[dS,An]at this;exact this.1.1.1
   have e:bj vI ys=true:=by
    rw[nu];intro x a;obtain⟨i,hi,rfl⟩:=Xh.1 a;have:=b i (by omega) hi;simp only[dS,An]at this;exact this.1.1.2
   simp[d,e,c]
 .simp[c]
theorem Fm(xs:List (Int×Int))(ys:List Int):ze xs ys=lO xs ys:=by
 unfold ze lO;by_cases a:xs.length=ys.length
 .cases b:dN nq xs ys with
  |false=>simp
  |true=>
   rw[ny]at b
   have d:bj vI xs=true:=by
    rw[nu];intro x c;obtain⟨i,hi,rfl⟩:=Xh.1 c;have:=b i hi (by omega);simp only[nq,An]at this;exact this.1.1
   simp[d,a]
 .simp[a]
theorem Ug(xs:List (Int×Int))(j:Int)(a:xs.length<=16777216)(b:bj vI xs=false):aH 43 (iv xs) (Z j) (.tup [iv [],iv [],B false]):=by
 refine Dp func43 λC hP hN=>?_
 with_reducible repeat' (first|refine Sp.h ?_|((first|refine Wd ?_|refine Ss.h ?_|refine Sc.h (iy _ (wH a)) ?_|(refine Sb.h ?_ ?_ ?_<;>(try intro hgd)<;>try exact Xy))<;>simp -implicitDefEqProofs (maxSteps:=2000000) [hP,hN,b]<;>try refine Ya ?_)|refine X2 ?_ ?_|(refine Xd ?_ ?_<;>intro hcd<;>try exact Xx))
theorem Uh(xs:List (Int×Int))(j:Int)(b:xs.length<=16777216)(c:bj vI xs=true)(a:j<0):aH 43 (iv xs) (Z j) (.tup [iv [],iv [],B false]):=by
 refine Dp func43 λC hP hN=>?_
 with_reducible repeat' (first|refine Sp.h ?_|((first|refine Wd ?_|refine Ss.h ?_|refine Sc.h (iy _ (wH b)) ?_|(refine Sb.h ?_ ?_ ?_<;>(try intro hgd)<;>try exact Xy))<;>simp -implicitDefEqProofs (maxSteps:=2000000) [hP,hN,c,a]<;>try refine Ya ?_)|refine X2 ?_ ?_|(refine Xd ?_ ?_<;>intro hcd<;>try exact Xx))
theorem Ui(xs:List (Int×Int))(n:Nat)(c:xs.length<=16777216)(d:bj vI xs=true)(a:xs.length<=n):aH 43 (iv xs) (Z n) (.tup [iv [],iv [],B false]):=by
 have b:(xs.length:Int)<=(n:Int):=by omega
 refine Dp func43 λC hP hN=>?_
 with_reducible repeat' (first|refine Sp.h ?_|((first|refine Wd ?_|refine Ss.h ?_|refine Sc.h (iy _ (wH c)) ?_|(refine Sb.h ?_ ?_ ?_<;>(try intro hgd)<;>try exact Xy))<;>simp -implicitDefEqProofs (maxSteps:=2000000) [hP,hN,d,b,a]<;>try refine Ya ?_)|refine X2 ?_ ?_|(refine Xd ?_ ?_<;>intro hcd<;>try exact Xx))
theorem Uj(xs:List (Int×Int))(n:Nat)(c:xs.length<=16777216)(d:bj vI xs=true)(a:n<xs.length)(e:i64.wrap (xs[n].2-xs[n].1)=xs[n].2-xs[n].1)(hs:xs[n].2-xs[n].1<2):aH 43 (iv xs) (Z n) (.tup [iv [],iv [],B false]):=by
 have b:¬(xs.length:Int)<=(n:Int):=by omega
 refine Dp func43 λC hP hN=>?_
 with_reducible repeat' (first|refine Sp.h ?_|((first|refine Wd ?_|refine Ss.h ?_|refine Sc.h (iy _ (wH c)) ?_|(refine Sb.h ?_ ?_ ?_<;>(try intro hgd)<;>try exact Xy))<;>simp -implicitDefEqProofs (maxSteps:=2000000) [hP,hN,d,a,e,hs,b,Nat.not_le.2 a]<;>try refine Ya ?_)|refine X2 ?_ ?_|(refine Xd ?_ ?_<;>intro hcd<;>try exact Xx))
theorem Uk(xs:List (Int×Int))(n:Nat)(d:xs.length<=16777216)(f:bj vI xs=true)(a:n<xs.length)(g:i64.wrap (xs[n].2-xs[n].1)=xs[n].2-xs[n].1)(hs:¬xs[n].2-xs[n].1<2):aH 43 (iv xs) (Z n) (.tup [iv (xs.set n (xs[n].1,jG xs[n])),iv (xs.set n (jG xs[n],xs[n].2)),B true]):=by
 have b:¬(xs.length:Int)<=(n:Int):=by omega
 generalize e:jG xs[n]=m;have c:=Re xs[n];rw[e]at c;refine Dp func43 λC hP hN=>?_
 with_reducible repeat' (first|refine Sp.h ?_|((first|refine Wd ?_|refine Ss.h ?_|refine Sc.h (iy _ (wH d)) ?_|refine Sc.h (c) ?_|(refine Sb.h ?_ ?_ ?_<;>(try intro hgd)<;>try exact Xy))<;>simp -implicitDefEqProofs (maxSteps:=2000000) [hP,hN,f,a,g,hs,b,Nat.not_le.2 a,show xs.length*16<=140737488355328 by omega,show xs.length<=9223372036854775807 by omega]<;>try refine Ya ?_)|refine X2 ?_ ?_|(refine Xd ?_ ?_<;>intro hcd<;>try exact Xx))
 all_goals simp[Xs]
theorem Qe(xs:List (Int×Int))(j:Int)(g:xs.length<=16777216):aH 43 (iv xs) (Z j) (.tup [iv (aW xs j),iv (aX xs j),B (bz xs j)]):=by
 cases e:bj vI xs with
 |false=>
  have a:bz xs j=false:=by simp[bz,e]
  have b:aW xs j=[]:=by simp[aW,a]
  have c:aX xs j=[]:=by simp[aX,a]
  rw[a,b,c];exact Ug xs j g e
 |true=>
  by_cases l:0<=j
  .obtain⟨n,rfl⟩:=Xj l
   by_cases d:n<xs.length
   .have f:=an d
    have i:aw xs[n].1 xs[n].2=true:=nu.1 e _ (Wb d);have p:=yE i
    have k:dG xs[n]=xs[n].2-xs[n].1:=by
     rw[dG,i];simp only[V8];exact aa (by omega) (by omega)
    have o:i64.wrap (xs[n].2-xs[n].1)=xs[n].2-xs[n].1:=aa;by_cases m:xs[n].2-xs[n].1<2
    .have a:bz xs (n:Int)=false:=by simp[bz,e,f,k];omega
     have b:aW xs (n:Int)=[]:=by simp[aW,a]
     have c:aX xs (n:Int)=[]:=by simp[aX,a]
     rw[a,b,c];exact Uj xs n g e d o m
    .have a:bz xs (n:Int)=true:=by simp[bz,e,f,k];omega
     have b:aW xs (n:Int)=xs.set n (xs[n].1,jG xs[n]):=by simp[aW,a,f]
     have c:aX xs (n:Int)=xs.set n (jG xs[n],xs[n].2):=by simp[aX,a,f]
     rw[a,b,c];exact Uk xs n g e d o m
   .have f:xs[n]?=none:=VW (by omega)
    have a:bz xs (n:Int)=false:=by simp[bz,f]
    have b:aW xs (n:Int)=[]:=by simp[aW,a]
    have c:aX xs (n:Int)=[]:=by simp[aX,a]
    rw[a,b,c];exact Ui xs n g e (Nat.not_lt.1 d)
  .have a:bz xs j=false:=by simp[bz,l]
   have b:aW xs j=[]:=by simp[aW,a]
   have c:aX xs j=[]:=by simp[aX,a]
   rw[a,b,c];exact Uh xs j g e (by omega)
def iC(js:List J)(b:List (Int×Int)):Nat->Int×Int
 |0=>(-1,0)
 |i+1=>match js[i]?,b[i]? with
  |some j,some x=>if 2<=dG x/\(iC js b i).2<wr (j.w*dG x)then((i:Int),wr (j.w*dG x))else iC js b i
  |_,_=>iC js b i
def KK(x:AV)(fb:Option db):Option db:=match x with
 |.pv (.val (.slice none 0 0))=>some (.pv (Z 0),[])
 |_=>fb
@[simp] theorem Qr(fb:Option db):KK (.pv (.val (.slice none 0 0))) fb=some (.pv (Z 0),[]):=rfl
theorem KL(x:Operand):
 bL prog ⟨dst,.call ⟨.builtin .len,#[x],#[39]⟩,ty,pos,aft,g⟩ (λ_=>.pv (.val (.slice none 0 0)))=some (.pv (Z 0),[]):=by kernel_rfl
@[simp] theorem TX(x:Operand):
 bL prog ⟨dst,.call ⟨.builtin .len,#[x],#[39]⟩,ty,pos,aft,g⟩ ρ=KK (ρ x) (jI prog ⟨dst,.call ⟨.builtin .len,#[x],#[39]⟩,ty,pos,aft,g⟩ ρ):=by
 unfold KK;split
 .rename_i b
  rw[<-KL (dst:=dst) (ty:=ty) (pos:=pos) (aft:=aft) (g:=g) x];refine rV (by intro _ _ h;cases h) ?_;intro y a;simp[Op.operands,Call.operands]at a;subst a;exact b
 .rfl
set_option maxRecDepth 100000 in
theorem LJ(t:Tr)(hl:t.cells.length<=9223372036854775807):bh 14 (eT t) (.tup [.sl ((ah t).map iv),B (aT t)]):=by
 cases hs:ii t with
 |false=>
  have a7:=tw (t:=t) (by simp[dz,hs]);rw[a7.1,a7.2];by_cases q1:t.root.length<1
  .have ba:(t.root.length:Int)<1:=by omega
   refine Dp func14 λC hP hN=>?_;exact Gy
  have ba:¬(t.root.length:Int)<1:=by omega
  by_cases q2:10<t.root.length
  .have bb:(10:Int)<t.root.length:=by omega
   refine Dp func14 λC hP hN=>?_;exact Gy
  have bb:¬(10:Int)<t.root.length:=by omega
  by_cases h1:t.cells.length<1
  .have ad:(t.cells.length:Int)<1:=by omega
   refine Dp func14 λC hP hN=>?_;exact Gy
  have ad:¬(t.cells.length:Int)<1:=by omega
  by_cases h2:2048<t.cells.length
  .have ar:(2048:Int)<t.cells.length:=by omega
   refine Dp func14 λC hP hN=>?_;exact Gy
  have ar:¬(2048:Int)<t.cells.length:=by omega
  have h3:bj vI t.root=false:=by
   cases h:bj vI t.root with
   |false=>rfl
   |true=>simp[ii,dy,h]at hs;omega
  refine Dp func14 λC hP hN=>?_;refine Gz ?_;refine WP.loopN [] t.root.length (λi st=>st.t 1=.ptr 1 0/\st.t 5=.pv (Z i)/\st.h 1=some (.box [.pv (iv t.root),.pv (.sl (t.cells.map bw))] true false)/\bj vI (t.root.take i)=true) (by simp[bj]) ?_;rintro i st hi ⟨g1,g5,hb,hq⟩;by_cases a:i<t.root.length
  .have F:=aj a (by omega)
   have hS:vI t.root[i]=true->bj vI (t.root.take (i+1))=true:=uW a hq
   with_reducible repeat' (first|refine Sp.h ?_|((first|refine Wd ?_|refine Ss.h ?_|refine Sc.h (oR _ _) ?_|(refine Sb.h ?_ ?_ ?_<;>(try intro hgd)<;>try exact Xy))<;>simp -implicitDefEqProofs [hP,hN,g1,g5,hb,a,F]<;>try refine Ya ?_)|refine X2 ?_ ?_|(refine Xd ?_ ?_<;>intro hcd<;>try exact Xx))
   all_goals (exact hS (by simpa using hcd))
  .have:=uX a hq
   rw[h3]at this;cases this
 |true=>
  obtain⟨z1,z2,z3,z4,z5⟩:=eg.1 hs
  have q1:¬t.root.length<1:=by omega
  have q2:¬10<t.root.length:=by omega
  have ba:¬(t.root.length:Int)<1:=by omega
  have bb:¬(10:Int)<t.root.length:=by omega
  have h1:¬t.cells.length<1:=by omega
  have h2:¬2048<t.cells.length:=by omega
  have ad:¬(t.cells.length:Int)<1:=by omega
  have ar:¬(2048:Int)<t.cells.length:=by omega
  have a5:=Ew z1;refine Dp func14 λC hP hN=>?_;refine Gz ?_;refine WP.loopN [] t.root.length (λi st=>st.t 1=.ptr 1 0/\st.t 4=.pv (Z t.cells.length)/\st.t 5=.pv (Z i)/\st.h 1=some (.box [.pv (iv t.root),.pv (.sl (t.cells.map bw))] true false)/\st.h 48=none/\st.h 8=none) (by simp) ?_;rintro i st hi ⟨g1,g4,g5,hb,e,g⟩;by_cases a:i<t.root.length
  .have F:=aj a (by omega)
   have hv:aw t.root[i].1 t.root[i].2=true:=fq.1 z5 _ (Wb a);have cv:=oR t.root[i].1 t.root[i].2;rw[hv]at cv;exact Gy
  refine GT (s5 g1 g4 g5 hb e g a a5 (show(24:Int)*t.cells.length<=281474976710656 by omega) (gA (show(t.cells.length:Int)<=9223372036854775807 by omega) (show 0<t.cells.length by omega))) ?_;refine WP.loopN [8] t.cells.length (λi st=>∃L,BInv t i L/\st.t 1=.ptr 1 0/\st.t 4=.pv (Z t.cells.length)/\st.t 6=.arr 48 t.cells.length/\st.t 7=.pv (Z i)/\st.h 1=some (.box [.pv (iv t.root),.pv (.sl (t.cells.map bw))] true false)/\st.h 8=none/\st.h 48=some (.row 39 1 (L.map sD) 0)) (by exact⟨j0 t,Ch hs,by simp[g1,g4,g5,hb,e,g,a5]⟩) ?_;rintro i st hi ⟨L,M,g1,g4,J,K,f,g,e⟩;have j:=M.bok.len;by_cases a:i<t.cells.length
  .have F:=aj a hl
   have Q:i<L.length:=by omega
   generalize A:t.cells[i]=c at *
   have n:t.cells[i]?=some c:=by rw[an a,A]
   have E:gz t.cells.length i c L=none->aT t=false/\ah t=[]:=λh=>tw (Ci M a (by rw[A];exact h));have cl:=LK c;have cf:=Qt c.v;have O:=Va c.v
   cases k:L[i]? with
   |none=>rw[an Q]at k;cases k
   |some x=>
   cases x with
   |none=>
    have l:=bP k Q;obtain⟨H,I⟩:=E (by simp[gz,k]);rw[H,I];exact GS (s7 g1 g4 J K f g e a F k l @ey @eC n (gA A j))
   |some b=>
   have l:=bP k Q;obtain⟨a1,bc⟩:=M.bok.ok i b k
   have m:b≠[]:=by intro h;rw[h]at a1;simp at a1;omega
   have o:((b.length:Int)==0)=false:=by simp[m]
   cases p:dR c with
   |true=>
    rw[p]at cl
    cases hf:eU c.v with
    |true=>
     rw[hf]at cf;have R:=tv (L':=L) M a (by rw[A,kL (t:=t) k p,hf];rfl);refine GT (s7 g1 g4 J K f g e a F k l @ey @eC n (f7 A j o m)) ?_
     all_goals exact⟨L,R,rfl⟩
    |false=>
     rw[hf]at cf;obtain⟨H,I⟩:=E (by rw[kL (t:=t) k p,hf];rfl);rw[H,I];exact GS (s7 g1 g4 J K f g e a F k l @ey @eC n (f7 A j o m))
   |false=>
    rw[p]at cl
    cases D:lg t.cells.length i c with
    |false=>
     obtain⟨H,I⟩:=E (lX k p (.inl D));rw[H,I];rcases yN D with h|h|h|h|h|h
     all_goals try rw[h]at O
     all_goals
      exact GS (s7 g1 g4 J K f g e a F k l @ey @eC n (f8 A j o m h))
    |true=>
     obtain⟨i1,i2,i3,i4,S,i6⟩:=jd.1 D;rw[i6]at O;have N:=Qe b c.joint (by omega)
     have T:¬c.low<=i:=by omega
     have U:¬(t.cells.length:Int)<=c.low:=by omega
     have V:¬c.high<=i:=by omega
     have W:¬(t.cells.length:Int)<=c.high:=by omega
     have X:c.low.toNat<t.cells.length:=by omega
     have Y:c.high.toNat<t.cells.length:=by omega
     have k3:0<=c.low:=by omega
     have k4:0<=c.high:=by omega
     have k5:c.low.toNat<L.length:=by omega
     have k6:c.high.toNat<L.length:=by omega
     cases hh:bz b c.joint with
     |false=>
      obtain⟨H,I⟩:=E (lX k p (.inr (.inl hh)));rw[H,I];rw[hh]at N
      cases q:L[c.low.toNat]? with
      |none=>rw[an k5]at q;cases q
      |some xa=>
      have s:=bP q k5
      cases r:L[c.high.toNat]? with
      |none=>rw[an k6]at r;cases r
      |some xz=>
      have G:=bP r k6;rcases xa with _|d
      .rcases xz with _|d'
       .skip
        with_reducible repeat' (first|refine Sp.h ?_|((first|refine Wd ?_|refine Ss.h ?_|refine Sc.h (cl) ?_|refine Sc.h (O) ?_|refine Sc.h (N) ?_|(refine Sb.h ?_ ?_ ?_<;>(try intro hgd)<;>try exact Xy))<;>simp -implicitDefEqProofs [hP,hN,g1,g4,J,K,f,g,e,a,F,k,l,ey,eC,n,A,j,o,m,T,U,V,W,S,X,Y,k3,k4,q,s,r,G]<;>try refine Ya ?_)|refine X2 ?_ ?_|(refine Xd ?_ ?_<;>intro hcd<;>try exact Xx))
       .obtain⟨z,_⟩:=M.bok.ok _ d' r
        have u:(0:Int)<d'.length:=by omega
        have y:0<d'.length:=by omega
        with_reducible repeat' (first|refine Sp.h ?_|((first|refine Wd ?_|refine Ss.h ?_|refine Sc.h (cl) ?_|refine Sc.h (O) ?_|refine Sc.h (N) ?_|(refine Sb.h ?_ ?_ ?_<;>(try intro hgd)<;>try exact Xy))<;>simp -implicitDefEqProofs [hP,hN,g1,g4,J,K,f,g,e,a,F,k,l,ey,eC,n,A,j,o,m,T,U,V,W,S,X,Y,k3,k4,q,s,r,G,u,y]<;>try refine Ya ?_)|refine X2 ?_ ?_|(refine Xd ?_ ?_<;>intro hcd<;>try exact Xx))
      .obtain⟨z,_⟩:=M.bok.ok _ d q
       have u:(0:Int)<d.length:=by omega
       have y:0<d.length:=by omega
       with_reducible repeat' (first|refine Sp.h ?_|((first|refine Wd ?_|refine Ss.h ?_|refine Sc.h (cl) ?_|refine Sc.h (O) ?_|refine Sc.h (N) ?_|(refine Sb.h ?_ ?_ ?_<;>(try intro hgd)<;>try exact Xy))<;>simp -implicitDefEqProofs [hP,hN,g1,g4,J,K,f,g,e,a,F,k,l,ey,eC,n,A,j,o,m,T,U,V,W,S,X,Y,k3,k4,q,s,r,G,u,y]<;>try refine Ya ?_)|refine X2 ?_ ?_|(refine Xd ?_ ?_<;>intro hcd<;>try exact Xx))
     |true=>
     rw[hh]at N;obtain⟨o1,_,o3,o4,_⟩:=lW.1 hh;have o5:=(th.1 o4).1
     have o6:¬c.joint<0:=by omega
     have o7:¬(t.root.length:Int)<=c.joint:=by omega
     cases q:L[c.low.toNat]? with
     |none=>rw[an k5]at q;cases q
     |some xa=>
     have s:=bP q k5
     cases xa with
     |some d=>
      obtain⟨H,I⟩:=E (lX k p (.inr (.inr (.inl ⟨d,q⟩))));rw[H,I];obtain⟨z,_⟩:=M.bok.ok _ d q
      have P:d≠[]:=by intro h;rw[h]at z;simp at z;omega
      have u:(0:Int)<d.length:=by omega
      have y:0<d.length:=by omega
      with_reducible repeat' (first|refine Sp.h ?_|((first|refine Wd ?_|refine Ss.h ?_|refine Sc.h (cl) ?_|refine Sc.h (O) ?_|refine Sc.h (N) ?_|(refine Sb.h ?_ ?_ ?_<;>(try intro hgd)<;>try exact Xy))<;>simp -implicitDefEqProofs [hP,hN,g1,g4,J,K,f,g,e,a,F,k,l,ey,eC,n,A,j,o,m,T,U,V,W,S,o6,o7,X,Y,k3,k4,q,s,u,P,y]<;>try refine Ya ?_)|refine X2 ?_ ?_|(refine Xd ?_ ?_<;>intro hcd<;>try exact Xx))
     |none=>
     cases r:L[c.high.toNat]? with
     |none=>rw[an k6]at r;cases r
     |some xz=>
     have G:=bP r k6
     cases xz with
     |some d=>
      obtain⟨H,I⟩:=E (lX k p (.inr (.inr (.inr ⟨d,r⟩))));rw[H,I];obtain⟨z,_⟩:=M.bok.ok _ d r
      have P:d≠[]:=by intro h;rw[h]at z;simp at z;omega
      have u:(0:Int)<d.length:=by omega
      have y:0<d.length:=by omega
      with_reducible repeat' (first|refine Sp.h ?_|((first|refine Wd ?_|refine Ss.h ?_|refine Sc.h (cl) ?_|refine Sc.h (O) ?_|refine Sc.h (N) ?_|(refine Sb.h ?_ ?_ ?_<;>(try intro hgd)<;>try exact Xy))<;>simp -implicitDefEqProofs [hP,hN,g1,g4,J,K,f,g,e,a,F,k,l,ey,eC,n,A,j,o,m,T,U,V,W,S,o6,o7,X,Y,k3,k4,q,s,r,G,u,P,y]<;>try refine Ya ?_)|refine X2 ?_ ?_|(refine Xd ?_ ?_<;>intro hcd<;>try exact Xx))
     |none=>
      have R:=tv M a (by rw[A];exact rn k p D hh q r)
      with_reducible repeat' (first|refine Sp.h ?_|((first|refine Wd ?_|refine Ss.h ?_|refine Sc.h (cl) ?_|refine Sc.h (O) ?_|refine Sc.h (N) ?_|(refine Sb.h ?_ ?_ ?_<;>(try intro hgd)<;>try exact Xy))<;>simp -implicitDefEqProofs [hP,hN,g1,g4,J,K,f,g,e,a,F,k,l,ey,eC,n,A,j,o,m,T,U,V,W,S,o6,o7,X,Y,k3,k4,q,s,r,G]<;>try refine Ya ?_)|refine X2 ?_ ?_|(refine Xd ?_ ?_<;>intro hcd<;>try exact Xx))
      all_goals exact⟨_,R,set_row⟩
  .have a2:=Cj M a
   have a6:=Ez a2
   have a8:aT t=true:=by simp[aT,a2]
   rw[a8,<-a6];exact GS (so g1 g4 J K f g e (gA a j))
abbrev zN(n:Nat):PV:=Z (n:Int)
abbrev ns(l:List Nat):PV:=.sl (l.map zN)
theorem Qu(t:Tr)(a:t.cells.length<=9223372036854775807):bh 70 (eT t) (B (aT t)):=by
 have b:=KJ t a;refine Dp func70 λC hP hN=>?_;exact GS trivial
theorem OZ(t:Tr)(a:t.cells.length<=9223372036854775807):bh 108 (eT t) (B (aT t)):=by
 have b:=LJ t a;refine Dp func108 λC hP hN=>?_;exact GS trivial
theorem Vb(r:List (Int×Int)):bh 48 (iv r) (.tup [eT (im r),B (dy r)]):=by
 have cv:aQ prog 108 [.pv (.agg [iv r,.sl [.agg [Z (-1),Z (-1),Z (-1),Z 0,.sl [],Z 0,.sl [],.sl []]]])] [] [] (.pv (B (dy r))):=by
  have:=OZ ⟨r,[aD bm]⟩ (by simp);rw[qq]at this;exact this
 cases h:dy r with
 |true=>
  rw[h]at cv;refine Dp func48 λC hP hN=>?_;refine GT trivial ?_
  all_goals simp[im,h,aD,bm]
 |false=>
  rw[h]at cv;refine Dp func48 λC hP hN=>?_;refine GT trivial ?_
  all_goals simp[im,h]
theorem nX{i j:Int}(h:dA t i j=false):cL t i j=t:=by simp[cL,h]
theorem mv{i:Int}{v:Verd}(h:cO t i v=false):bX t i v=t:=by simp[bX,h]
theorem Tv(t:Tr)(i j:Int)(I:t.cells.length<=9223372036854775807):mW 113 (eT t) (Z i) (Z j) (.tup [eT (cL t i j),B (dA t i j)]):=by
 have D:=LJ t I
 cases r:aT t with
 |false=>
  have a:dA t i j=false:=by simp[dA,r]
  rw[nX a,a];rw[r]at D;refine Dp func113 λC hP hN=>?_;exact GS trivial
 |true=>
  rw[r]at D;have g:=fA r;have K:=eg.1 (je r);by_cases q:i<0
  .have a:dA t i j=false:=by
    have:decide (0<=i)=false:=by simp;omega
    simp[dA,this]
   rw[nX a,a];refine Dp func113 λC hP hN=>?_;exact GS q
  .obtain⟨k,rfl⟩:=Xj (show 0<=i by omega)
   by_cases s:t.cells.length<=k
   .have a:dA t k j=false:=by
     have:decide ((k:Int)<t.cells.length)=false:=by simp;omega
     simp only[dA,this,Xi,Ww]
    rw[nX a,a];refine Dp func113 λC hP hN=>?_;exact GS (be q s g)
   .have m:k<t.cells.length:=by omega
    have d:k<(ah t).length:=by omega
    generalize u:t.cells[k]=c at *
    have e:t.cells[k]?=some c:=by rw[an m,u]
    generalize p:(ah t)[k]=b at *
    have f:(ah t)[k]?=some b:=by rw[an d,p]
    obtain⟨G,H⟩:=kK f;have cl:=LK c;have E:=Qe b j (by omega);have z:i64.wrap ((t.cells.length:Int)+2)=(t.cells.length:Int)+2:=aa;have A:i64.wrap ((t.cells.length:Int)+1)=(t.cells.length:Int)+1:=aa
    cases l:dR c with
    |false=>
     have a:dA t k j=false:=by simp[dA,ej,e,l]
     rw[nX a,a];rw[l]at cl;refine Dp func113 λC hP hN=>?_;exact GS (it q s g m d e u)
    |true=>
     rw[l]at cl;by_cases J:2048<t.cells.length+2
     .have a:dA t k j=false:=by
       have:decide (t.cells.length+2<=2048)=false:=by simp;omega
       simp only[dA,this,Xi,Ww]
      have n:(2048:Int)<t.cells.length+2:=by omega
      rw[nX a,a];refine Dp func113 λC hP hN=>?_;exact GS (so q s g m d e u (gA z n))
     .have n:¬(2048:Int)<t.cells.length+2:=by omega
      cases x:bz b j with
      |false=>
       have a:dA t k j=false:=by simp[dA,f,x]
       rw[nX a,a];rw[x]at E;refine Dp func113 λC hP hN=>?_;exact GS (s5 q s g m d e u p f (gA z n))
      |true=>
       have o:dA t k j=true:=by
        simp only[dA,r,ej,V7,e,l,f,V5,x,Xw,We,An,L4];omega
       have F:cL t k j=fV t k j c.v:=by simp[cL,o,eD,e]
       rw[F,o];rw[x]at E;have y:=zE l;refine Dp func113 λC hP hN=>?_;refine GT (s7 q s g m d e u p f z A n (show t.cells.length*112<=140737488355328 by omega) (show(t.cells.length+2)*112<=140737488355328 by omega) (gA (show t.cells.length+2<=9223372036854775807 by omega) (show t.cells.length<=9223372036854775807 by omega))) ?_
       all_goals (rw[y];simp[fV,aD,Xs,bm]<;>rfl)
theorem Tw(t:Tr)(i:Int)(v:Verd)(u:t.cells.length<=9223372036854775807):mW 110 (eT t) (Z i) (nh v) (.tup [eT (bX t i v),B (cO t i v)]):=by
 have q:=OZ t u
 cases o:aT t with
 |false=>
  have a:cO t i v=false:=by simp[cO,o]
  rw[mv a,a];rw[o]at q;refine Dp func110 λC hP hN=>?_;exact GS trivial
 |true=>
  rw[o]at q;have A:=eg.1 (je o);by_cases l:i<0
  .have a:cO t i v=false:=by
    have:decide (0<=i)=false:=by simp;omega
    simp only[cO,this,Xi,Ww]
   rw[mv a,a];refine Dp func110 λC hP hN=>?_;exact GS l
  .obtain⟨k,rfl⟩:=Xj (show 0<=i by omega)
   by_cases n:t.cells.length<=k
   .have a:cO t k v=false:=by
     have:decide ((k:Int)<t.cells.length)=false:=by simp;omega
     simp only[cO,this,Xi,Ww]
    rw[mv a,a];refine Dp func110 λC hP hN=>?_;exact GS (gA l n)
   .have d:k<t.cells.length:=by omega
    generalize m:t.cells[k]=c at *
    have b:t.cells[k]?=some c:=by rw[an d,m]
    have cl:=LK c;have r:=Qt v
    cases e:dR c with
    |false=>
     have a:cO t k v=false:=by simp[cO,ej,b,e]
     rw[mv a,a];rw[e]at cl;refine Dp func110 λC hP hN=>?_;exact GS (f8 l n d b m)
    |true=>
     rw[e]at cl;by_cases p:c.v.kind=0
     .have f:(c.v.kind !=0)=false:=by simp[p]
      cases hf:eU v with
      |false=>
       have a:cO t k v=false:=by simp[cO,hf]
       rw[mv a,a];rw[hf]at r;refine Dp func110 λC hP hN=>?_;exact GS (go l n d b m f)
      |true=>
       rw[hf]at r
       have g:cO t k v=true:=by
        simp[cO,o,ej,b,e,hf,eD,p,d,m]
       have s:bX t k v=dl t k v:=by simp[bX,g]
       rw[s,g];have j:=zE e
       have x:c.joint=-1:=by rw[j];rfl
       have y:c.low=-1:=by rw[j];rfl
       have z:c.high=-1:=by rw[j];rfl
       refine Dp func110 λC hP hN=>?_;refine GT (so l n d b m f (show t.cells.length*112<=140737488355328 by omega) (show t.cells.length<=9223372036854775807 by omega)) ?_
       all_goals simp[dl,aD,Xs,x,y,z]
     .have f:(c.v.kind !=0)=true:=by simp[p]
      have a:cO t k v=false:=by simp[cO,eD,b,p]
      rw[mv a,a];refine Dp func110 λC hP hN=>?_;exact GS (go l n d b m f)
theorem O4(xs:List (Int))(c:xs.length<=16777216):bh 180 (.sl (xs.map Z)) (.sl (xs.map Z)):=by
 by_cases b:xs=[]
 .subst b
  refine Dp func180 λC hP hN=>?_;exact Dm [5] trivial
 .have a:xs.isEmpty=false:=by simp[b]
  refine Dp func180 λC hP hN=>?_;exact Dm [5] (f7 b a (show xs.length*8<=140737488355328 by omega) (show xs.length<=9223372036854775807 by omega))
theorem O5(xs:List (Int×Int))(c:xs.length<=16777216):bh 68 (.sl (xs.map aN)) (.sl (xs.map aN)):=by
 by_cases b:xs=[]
 .subst b
  refine Dp func68 λC hP hN=>?_;exact Dm [5] trivial
 .have a:xs.isEmpty=false:=by simp[b]
  refine Dp func68 λC hP hN=>?_;exact Dm [5] (f7 b a (show xs.length*16<=140737488355328 by omega) (show xs.length<=9223372036854775807 by omega))
theorem Hg(f:Nat->α)(n:Nat):(List.range n).map f++[f n]=(List.range (n+1)).map f:=by simp[Xk]
theorem T5(f:FuncId)(p:J->Int->Bool)(xs:List (J))(ys:List (Int))(q:xs.length<=9223372036854775807)(hf:∀a b,aQ prog f [.pv (bu a),.pv (Z b)] [] [] (.pv (B (p a b)))):mW 65 (.sl (xs.map bu)) (.sl (ys.map Z)) (Fv f) (B (decide (xs.length=ys.length)&&dN p xs ys)):=by
 refine Dp func65 λC hP hN=>?_;by_cases k:xs.length=ys.length
 .skip
  refine Gz ?_;refine WP.loopN [8] xs.length (λi st=>st.t 0=.pv (.sl (xs.map bu))/\st.t 1=.pv (.sl (ys.map Z))/\st.t 2=.pv (Fv f)/\st.t 14=.pv (.sl (xs.map bu))/\st.t 15=.pv (Z xs.length)/\st.t 16=.pv (Z i)/\st.h 8=none/\eF p xs ys i=true) (by simp[eF,k]) ?_;rintro i st hi ⟨l,m,n,e,g,j,o,hq⟩;by_cases c:i<xs.length
  .have r:=aj c q
   have d:i<ys.length:=by omega
   have hF:p xs[i] ys[i]=false->dN p xs ys=false:=ir c d;have hS:p xs[i] ys[i]=true->eF p xs ys (i+1)=true:=jh c d hq
   with_reducible repeat' (first|refine Sp.h ?_|((first|refine Wd ?_|refine Ss.h ?_|refine Sc.h (hf _ _) ?_|(refine Sb.h ?_ ?_ ?_<;>(try intro hgd)<;>try exact Xy))<;>simp -implicitDefEqProofs (maxSteps:=2000000) [hP,hN,l,m,n,e,g,j,o,c,d,r]<;>try refine Ya ?_)|refine X2 ?_ ?_|(refine Xd ?_ ?_<;>intro hcd<;>try exact Xx))
   all_goals first|exact hF (by simpa using hcd)|simpa using hS (by simpa using hcd)
  .skip
   refine Gz ?_
   all_goals simp[k,ji c hq]
 .skip
  exact Gy
  all_goals simp[k]
theorem QN(f:FuncId)(p:J->Int×Int->Bool)(xs:List (J))(ys:List (Int×Int))(q:xs.length<=9223372036854775807)(hf:∀a b,aQ prog f [.pv (bu a),.pv (aN b)] [] [] (.pv (B (p a b)))):mW 127 (.sl (xs.map bu)) (.sl (ys.map aN)) (Fv f) (B (decide (xs.length=ys.length)&&dN p xs ys)):=by
 refine Dp func127 λC hP hN=>?_;by_cases k:xs.length=ys.length
 .skip
  refine Gz ?_;refine WP.loopN [8] xs.length (λi st=>st.t 0=.pv (.sl (xs.map bu))/\st.t 1=.pv (.sl (ys.map aN))/\st.t 2=.pv (Fv f)/\st.t 14=.pv (.sl (xs.map bu))/\st.t 15=.pv (Z xs.length)/\st.t 16=.pv (Z i)/\st.h 8=none/\eF p xs ys i=true) (by simp[eF,k]) ?_;rintro i st hi ⟨l,m,n,e,g,j,o,hq⟩;by_cases c:i<xs.length
  .have r:=aj c q
   have d:i<ys.length:=by omega
   have hF:p xs[i] ys[i]=false->dN p xs ys=false:=ir c d;have hS:p xs[i] ys[i]=true->eF p xs ys (i+1)=true:=jh c d hq
   with_reducible repeat' (first|refine Sp.h ?_|((first|refine Wd ?_|refine Ss.h ?_|refine Sc.h (hf _ _) ?_|(refine Sb.h ?_ ?_ ?_<;>(try intro hgd)<;>try exact Xy))<;>simp -implicitDefEqProofs (maxSteps:=2000000) [hP,hN,l,m,n,e,g,j,o,c,d,r]<;>try refine Ya ?_)|refine X2 ?_ ?_|(refine Xd ?_ ?_<;>intro hcd<;>try exact Xx))
   all_goals first|exact hF (by simpa using hcd)|simpa using hS (by simpa using hcd)
  .skip
   refine Gz ?_
   all_goals simp[k,ji c hq]
 .skip
  exact Gy
  all_goals simp[k]
def qK(j:J)(x:Int):Bool:=decide (j.lo<=x)&&decide (x<=j.hi)
def gX(j:J):Int×Int:=(j.lo,j.hi)
theorem T6(j:J)(x:Int):aH 66 (bu j) (Z x) (B (qK j x)):=by
 refine Dp func66 λC hP hN=>?_
 with_reducible repeat' (first|refine Sp.h ?_|((first|refine Ss.h ?_|(refine Sb.h ?_ ?_ ?_<;>(try intro hgd)<;>try exact Xy))<;>simp -implicitDefEqProofs (maxSteps:=2000000) [hP,hN])|refine X2 ?_ ?_|(refine Xd ?_ ?_<;>intro hcd<;>try exact Xx))
 all_goals (simp_all[qK]<;>omega)
theorem P6(j:J):bh 72 (bu j) (aN (gX j)):=by
 refine Dp func72 λC hP hN=>?_;refine Gz ?_
 all_goals simp[gX]
theorem QO(j:J)(x:Int×Int):aH 128 (bu j) (aN x) (B (dS x (gX j))):=by
 refine Dp func128 λC hP hN=>?_;have a:=@P6;have b:=Mb x (j.lo,j.hi);exact GS @gX.eq_1
def bW(js:List J)(ms:List Ms)(c:List Int):Bool:=decide (aO js ms=0)&&decide (js.length=c.length)&&dN qK js c
theorem Fh(js:List J)(ms:List Ms)(c:List Int)(d:js.length<=9223372036854775807)(f:ms.length<=9223372036854775807):aH 30 (gB js ms) (zs c) (B (bW js ms c)):=by
 have i:=T5 66 qK js c d T6;by_cases a:aO js ms=0
 .have e:bW js ms c=(decide (js.length=c.length)&&dN qK js c):=by simp[bW,a]
  rw[e];generalize(decide (js.length=c.length)&&dN qK js c)=u at *;refine Dp func30 λC hP hN=>?_;have g:=yD js ms d f;exact GS a
 .have e:bW js ms c=false:=by simp[bW,a]
  have b:(aO js ms==0)=false:=by simp[a]
  rw[e];refine Dp func30 λC hP hN=>?_;have g:=yD js ms d f;exact GS (gA a b)
theorem P7(js:List J)(ms:List Ms)(c:List Int)(o:js.length<=9223372036854775807)(q:ms.length<=9223372036854775807):aH 59 (gB js ms) (zs c) (B (bW js ms c)):=by
 by_cases e:aO js ms=0
 .have d:(aO js ms !=0)=false:=by simp[e]
  by_cases n:js.length=c.length
  .have f:((c.length:Int)!=js.length)=false:=by simp[n]
   have l:bW js ms c=dN qK js c:=by simp[bW,e,n]
   rw[l];refine Dp func59 λC hP hN=>?_
   with_reducible repeat' (first|refine Sp.h ?_|((first|refine Wd ?_|refine Ss.h ?_|refine Sc.h (sR js ms o q) ?_|(refine Sb.h ?_ ?_ ?_<;>(try intro hgd)<;>try exact Xy))<;>simp -implicitDefEqProofs (maxSteps:=2000000) [hP,hN,e,d,f]<;>try refine Ya ?_)|refine X2 ?_ ?_|(refine Xd ?_ ?_<;>intro hcd<;>try exact Xx))
   refine WP.loopN [] js.length (λi st=>st.t 1=.pv (zs c)/\st.t 2=.ptr 2 0/\st.h 2=some (.box [.pv (.sl (js.map bu)),.pv (.sl (ms.map cE))] true false)/\st.t 5=.pv (Z i)/\eF qK js c i=true) (by simp[eF,n]) ?_;rintro i st hi ⟨g1,g2,m,g5,hq⟩;by_cases b:i<js.length
   .have r:=aj b o
    have a:i<c.length:=by omega
    have hF:qK js[i] c[i]=false->dN qK js c=false:=ir b a;have hS:qK js[i] c[i]=true->eF qK js c (i+1)=true:=jh b a hq
    cases j:qK js[i] c[i]with
    |true=>
     have g:¬c[i]<js[i].lo/\¬js[i].hi<c[i]:=by simp[qK]at j;omega
     with_reducible repeat' (first|refine Sp.h ?_|((first|refine Wd ?_|refine Ss.h ?_|(refine Sb.h ?_ ?_ ?_<;>(try intro hgd)<;>try exact Xy))<;>simp -implicitDefEqProofs (maxSteps:=2000000) [hP,hN,g1,g2,m,g5,b,a,r,g.1,g.2]<;>try refine Ya ?_)|refine X2 ?_ ?_|(refine Xd ?_ ?_<;>intro hcd<;>try exact Xx))
     all_goals simpa using hS j
    |false=>
     have g:c[i]<js[i].lo\/js[i].hi<c[i]:=by simp[qK]at j;omega
     by_cases k:c[i]<js[i].lo
     .skip
      with_reducible repeat' (first|refine Sp.h ?_|((first|refine Wd ?_|refine Ss.h ?_|(refine Sb.h ?_ ?_ ?_<;>(try intro hgd)<;>try exact Xy))<;>simp -implicitDefEqProofs (maxSteps:=2000000) [hP,hN,g1,g2,m,g5,b,a,r,k]<;>try refine Ya ?_)|refine X2 ?_ ?_|(refine Xd ?_ ?_<;>intro hcd<;>try exact Xx))
      all_goals simp[hF j]
     .have p:js[i].hi<c[i]:=by omega
      with_reducible repeat' (first|refine Sp.h ?_|((first|refine Wd ?_|refine Ss.h ?_|(refine Sb.h ?_ ?_ ?_<;>(try intro hgd)<;>try exact Xy))<;>simp -implicitDefEqProofs (maxSteps:=2000000) [hP,hN,g1,g2,m,g5,b,a,r,k,p]<;>try refine Ya ?_)|refine X2 ?_ ?_|(refine Xd ?_ ?_<;>intro hcd<;>try exact Xx))
      all_goals simp[hF j]
   .have a:¬i<c.length:=by omega
    with_reducible repeat' (first|refine Sp.h ?_|((first|refine Wd ?_|refine Ss.h ?_|(refine Sb.h ?_ ?_ ?_<;>(try intro hgd)<;>try exact Xy))<;>simp -implicitDefEqProofs (maxSteps:=2000000) [hP,hN,g1,g2,m,g5,a]<;>try refine Ya ?_)|refine X2 ?_ ?_|(refine Xd ?_ ?_<;>intro hcd<;>try exact Xx))
    all_goals simp[ji b hq]
  .have f:((c.length:Int)!=js.length)=true:=by simp;omega
   have l:bW js ms c=false:=by simp[bW,n]
   rw[l];refine Dp func59 λC hP hN=>?_
   with_reducible repeat' (first|refine Sp.h ?_|((first|refine Wd ?_|refine Ss.h ?_|refine Sc.h (sR js ms o q) ?_|(refine Sb.h ?_ ?_ ?_<;>(try intro hgd)<;>try exact Xy))<;>simp -implicitDefEqProofs (maxSteps:=2000000) [hP,hN,e,d,f]<;>try refine Ya ?_)|refine X2 ?_ ?_|(refine Xd ?_ ?_<;>intro hcd<;>try exact Xx))
 .have l:bW js ms c=false:=by simp[bW,e]
  have d:(aO js ms !=0)=true:=by simp[e]
  rw[l];refine Dp func59 λC hP hN=>?_
  with_reducible repeat' (first|refine Sp.h ?_|((first|refine Wd ?_|refine Ss.h ?_|refine Sc.h (sR js ms o q) ?_|(refine Sb.h ?_ ?_ ?_<;>(try intro hgd)<;>try exact Xy))<;>simp -implicitDefEqProofs (maxSteps:=2000000) [hP,hN,e,d]<;>try refine Ya ?_)|refine X2 ?_ ?_|(refine Xd ?_ ?_<;>intro hcd<;>try exact Xx))
def af(js:List J)(ms:List Ms):List (Int×Int):=if aO js ms=0 then js.map gX else[]
theorem qY{ms:List Ms}(h:aO js ms=0):0<js.length/\js.length<=10:=by
 unfold aO at h;split at h
 all_goals omega
theorem T7(js:List J)(ms:List Ms)(d:js.length<=9223372036854775807)(f:ms.length<=9223372036854775807):bh 32 (gB js ms) (iv (af js ms)):=by
 by_cases a:aO js ms=0
 .have e:=qY a
  have i:=Ue 72 gX js (by omega) P6
  have c:af js ms=js.map gX:=by simp[af,a]
  rw[c];generalize js.map gX=u at *;refine Dp func32 λC hP hN=>?_;have g:=yD js ms d f;exact GS a
 .have c:af js ms=[]:=by simp[af,a]
  have b:(aO js ms !=0)=true:=by simp[a]
  rw[c];refine Dp func32 λC hP hN=>?_;have g:=yD js ms d f;exact GS (gA a b)
theorem P8(js:List J)(ms:List Ms)(k:js.length<=9223372036854775807)(n:ms.length<=9223372036854775807):bh 16 (gB js ms) (iv (af js ms)):=by
 by_cases a:aO js ms=0
 .have m:=qY a
  have b:(aO js ms !=0)=false:=by simp[a]
  have l:af js ms=js.map gX:=by simp[af,a]
  rw[l];refine Dp func16 λC hP hN=>?_;have r:=sR js ms k n;refine sN [3] (gA a b) ?_;refine WP.loopN [] js.length (λi st=>st.t 1=.ptr 1 0/\st.h 1=some (.box [.pv (.sl (js.map bu)),.pv (.sl (ms.map cE))] true false)/\st.t 4=.pv (Z i)/\st.t 3=.arr 3 i/\st.h 3=some (.row 50 2 ((js.map λj=>I j.lo j.hi).take i) 0)) (by simp) ?_;rintro i st hi ⟨g1,e,g4,g3,g⟩;by_cases c:i<js.length
  .have q:=aj c k
   have o:min i js.length=i:=by omega
   have p:=Cr (f:=λj:J=>I j.lo j.hi) c
   with_reducible repeat' (first|refine Sp.h ?_|((first|refine Wd ?_|refine Ss.h ?_|(refine Sb.h ?_ ?_ ?_<;>(try intro hgd)<;>try exact Xy))<;>simp -implicitDefEqProofs (maxSteps:=2000000) [hP,hN,g1,e,g4,g3,g,c,q,o,p,show(i+1)*16<=140737488355328 by omega,show i+1<=9223372036854775807 by omega]<;>try refine Ya ?_)|refine X2 ?_ ?_|(refine Xd ?_ ?_<;>intro hcd<;>try exact Xx))
  .have o:min i js.length=i:=by omega
   refine Gz ?_;have d:List.take i (js.map λj=>I j.lo j.hi)=js.map λj=>I j.lo j.hi:=Wg (by simp;omega)
   first|exact d|(simp only[List.map_map];exact d)|(simp[gX];exact d)
 .have l:af js ms=[]:=by simp[af,a]
  have b:(aO js ms !=0)=true:=by simp[a]
  rw[l];refine Dp func16 λC hP hN=>?_;have r:=sR js ms k n;exact GS (gA a b)
def gU(js:List J)(ms:List Ms)(b:List (Int×Int)):Bool:=decide (aO js ms=0)&&decide (js.length=b.length)&&dN (λj x=>dS x (gX j)) js b
theorem T8(js:List J)(ms:List Ms)(b:List (Int×Int))(d:js.length<=9223372036854775807)(f:ms.length<=9223372036854775807):aH 75 (gB js ms) (iv b) (B (gU js ms b)):=by
 have i:=QN 128 (λj x=>dS x (gX j)) js b d QO;by_cases a:aO js ms=0
 .have e:gU js ms b=(decide (js.length=b.length)&&dN (λj x=>dS x (gX j)) js b):=by simp[gU,a]
  rw[e];generalize(decide (js.length=b.length)&&dN (λj x=>dS x (gX j)) js b)=u at *;refine Dp func75 λC hP hN=>?_;have g:=yD js ms d f;exact GS a
 .have e:gU js ms b=false:=by simp[gU,a]
  have c:(aO js ms==0)=false:=by simp[a]
  rw[e];refine Dp func75 λC hP hN=>?_;have g:=yD js ms d f;exact GS (gA a c)
def sO(js:List J)(ms:List Ms)(b:List (Int×Int)):Bool:=decide (b.length=js.length)&&bj vI b&&decide (aO js ms=0)
def fW(js:List J)(ms:List Ms)(b:List (Int×Int)):Int:=if sO js ms b then(iC js b js.length).1 else -1
theorem Dn{b:List (Int×Int)}(h1:i<js.length)(a:i<b.length)(h:2<=dG b[i]/\(iC js b i).2<wr (js[i].w*dG b[i])):iC js b (i+1)=((i:Int),wr (js[i].w*dG b[i])):=by
 simp[iC,h1,a,h]
theorem xQ{b:List (Int×Int)}(h1:i<js.length)(a:i<b.length)(h:¬(2<=dG b[i]/\(iC js b i).2<wr (js[i].w*dG b[i]))):iC js b (i+1)=iC js b i:=by
 simp only[iC,an h1,an a];rw[VM h]
theorem Dq(x:Int×Int):aQ prog 136 [.pv (aN x)] [] [] (.pv (Z (dG x))):=wG x.1 x.2
theorem T9(js:List J)(ms:List Ms)(b:List (Int×Int))(q:js.length<=9223372036854775807)(v:ms.length<=9223372036854775807)(s:b.length<=9223372036854775807):aH 81 (gB js ms) (iv b) (Z (fW js ms b)):=by
 cases e:sO js ms b with
 |false=>
  have x:fW js ms b=-1:=by simp[fW,e]
  rw[x];by_cases o:b.length=js.length
  .have d:((b.length:Int)!=js.length)=false:=by simp[o]
   have z:(bj vI b&&decide (aO js ms=0))=false:=by simpa[sO,o]using e
   refine Dp func81 λC hP hN=>?_;have A:=wJ _ s;have B:=yD js ms q v;exact GS d
   all_goals simp_all
  .have d:((b.length:Int)!=js.length)=true:=by simp;omega
   refine Dp func81 λC hP hN=>?_;have A:=wJ _ s;have B:=yD js ms q v;exact GS d
 |true=>
  have x:fW js ms b=(iC js b js.length).1:=by simp[fW,e]
  rw[x];simp only[sO,An,L4]at e;obtain⟨⟨o,F⟩,D⟩:=e
  have d:((b.length:Int)!=js.length)=false:=by simp[o]
  refine Dp func81 λC hP hN=>?_;have A:=wJ _ s;have B:=yD js ms q v;refine GT (be d F D) ?_;refine WP.loopN [8] js.length (λi st=>st.t 2=.ptr 2 0/\st.h 2=some (.box [.pv (.sl (js.map bu)),.pv (.sl (ms.map cE))] true false)/\st.t 27=.pv (iv b)/\st.t 28=.pv (Z b.length)/\st.t 29=.pv (Z i)/\st.t 5=.pv (Z (iC js b i).1)/\st.t 6=.pv (Z (iC js b i).2)/\st.h 8=none) (by simp[iC]) ?_;rintro i st hi ⟨g2,k,f,g,j,g5,r,l⟩;by_cases a:i<js.length
  .have y:=aj a q
   have c:i<b.length:=by omega
   by_cases m:2<=dG b[i]
   .by_cases p:(iC js b i).2<wr (js[i].w*dG b[i])
    .have n:=Dn a c ⟨m,p⟩
     with_reducible repeat' (first|refine Sp.h ?_|((first|refine Ss.h ?_|refine Sc.h (Dq _) ?_|(refine Sb.h ?_ ?_ ?_<;>(try intro hgd)<;>try exact Xy))<;>simp -implicitDefEqProofs (maxSteps:=2000000) [hP,hN,g2,k,f,g,j,g5,r,l,a,c,y,m,p])|refine X2 ?_ ?_|(refine Xd ?_ ?_<;>intro hcd<;>try exact Xx))
     all_goals simp[n]
    .have n:=xQ a c (λh=>p h.2)
     with_reducible repeat' (first|refine Sp.h ?_|((first|refine Ss.h ?_|refine Sc.h (Dq _) ?_|(refine Sb.h ?_ ?_ ?_<;>(try intro hgd)<;>try exact Xy))<;>simp -implicitDefEqProofs (maxSteps:=2000000) [hP,hN,g2,k,f,g,j,g5,r,l,a,c,y,m,p])|refine X2 ?_ ?_|(refine Xd ?_ ?_<;>intro hcd<;>try exact Xx))
     all_goals simp[n]
   .have n:=xQ a c (λh=>m h.1)
    with_reducible repeat' (first|refine Sp.h ?_|((first|refine Ss.h ?_|refine Sc.h (Dq _) ?_|(refine Sb.h ?_ ?_ ?_<;>(try intro hgd)<;>try exact Xy))<;>simp -implicitDefEqProofs (maxSteps:=2000000) [hP,hN,g2,k,f,g,j,g5,r,l,a,c,y,m])|refine X2 ?_ ?_|(refine Xd ?_ ?_<;>intro hcd<;>try exact Xx))
    all_goals simp[n]
  .have u:i=js.length:=by omega
   subst u
   have E:¬js.length<b.length:=by omega
   exact Gy
theorem QP(js:List J)(ms:List Ms)(b:List (Int×Int))(a:b.length<=9223372036854775807):aH 112 (gB js ms) (iv b) (B (decide (b.length=js.length)&&bj vI b)):=by
 refine Dp func112 λC hP hN=>?_
 with_reducible repeat' (first|refine Sp.h ?_|((first|refine Ss.h ?_|refine Sc.h (iy _ a) ?_|(refine Sb.h ?_ ?_ ?_<;>(try intro hgd)<;>try exact Xy))<;>simp -implicitDefEqProofs (maxSteps:=2000000) [hP,hN])|refine X2 ?_ ?_|(refine Xd ?_ ?_<;>intro hcd<;>try exact Xx))
 all_goals (simp_all<;>omega)
theorem Nd(js:List J)(ms:List Ms)(b:List (Int×Int))(k:js.length<=9223372036854775807)(m:ms.length<=9223372036854775807)(x:b.length<=9223372036854775807):aH 51 (gB js ms) (iv b) (Z (fW js ms b)):=by
 have p:=QP js ms b x
 cases a:sO js ms b with
 |false=>
  have n:fW js ms b=-1:=by simp[fW,a]
  rw[n];by_cases g:aO js ms=0
  .have f:(aO js ms !=0)=false:=by simp[g]
   have c:(decide (b.length=js.length)&&bj vI b)=false:=by simpa[sO,g]using a
   rw[c]at p;refine Dp func51 λC hP hN=>?_;have s:=sR js ms k m;exact GS (gA g f)
  .have f:(aO js ms !=0)=true:=by simp[g]
   refine Dp func51 λC hP hN=>?_;have s:=sR js ms k m;exact GS f
 |true=>
  have n:fW js ms b=(iC js b js.length).1:=by simp[fW,a]
  rw[n];simp only[sO,An,L4]at a;obtain⟨⟨v,u⟩,g⟩:=a
  have c:(decide (b.length=js.length)&&bj vI b)=true:=by simp[v,u]
  rw[c]at p;refine Dp func51 λC hP hN=>?_;have s:=sR js ms k m;refine GT g ?_;refine WP.loopN [] js.length (λi st=>st.t 1=.pv (iv b)/\st.t 2=.ptr 2 0/\st.h 2=some (.box [.pv (.sl (js.map bu)),.pv (.sl (ms.map cE))] true false)/\st.t 7=.pv (Z i)/\st.t 5=.pv (Z (iC js b i).1)/\st.t 6=.pv (Z (iC js b i).2)) (by simp[iC]) ?_;rintro i st hi ⟨g1,g2,y,E,g5,D⟩;by_cases e:i<js.length
  .have F:=aj e k
   have d:i<b.length:=by omega
   have o:aw b[i].1 b[i].2=true:=nu.1 u _ (Wb d)
   have B:i64.wrap (b[i].2-b[i].1)=dG b[i]:=by rw[dG,o];rfl
   have z:dG b[i]*js[i].w=js[i].w*dG b[i]:=Int.mul_comm _ _;by_cases q:2<=dG b[i]
   .by_cases r:(iC js b i).2<i64.wrap (js[i].w*dG b[i])
    .have j:=Dn e d ⟨q,r⟩
     exact Gy
     all_goals simp[j]
    .have j:=xQ e d (λh=>r h.2)
     exact Gy
     all_goals simp[j]
   .have j:=xQ e d (λh=>q h.1)
    exact Gy
    all_goals simp[j]
  .have l:i=js.length:=by omega
   subst l
   have A:¬js.length<b.length:=by omega
   exact Gy
abbrev Hl(cs:List Cel)(a:List Bx)(op:List Bool):PV:=.agg [.sl (cs.map bw),.sl (a.map iv),.sl (op.map B)]
def pF(k sort:Int)(o:Bool):Bool:=if sort=0 then k==1 else if sort=1 then(k==1||(k==0&&o))else if sort=2 then(k==1||(k==0&& !o))else k !=2
def oP(cs:List Cel)(op:List Bool)(sort:Int)(i:Nat):Bool:=match cs[i]? with
 |some c=>dR c&&pF c.v.kind sort (op[i]?.getD false)
 |none=>false
theorem Tx(cs:List Cel)(r:List Bx)(op:List Bool)(i:Nat)(sort:Int)(hi:i<cs.length)(z:op.length=cs.length):mW 115 (Hl cs r op) (Z i) (Z sort) (B (oP cs op sort i)):=by
 generalize k:cs[i]=c at *
 have b:cs[i]?=some c:=by rw[an hi,k]
 have d:i<op.length:=by omega
 have e:op[i]?=some op[i]:=an d
 have s:oP cs op sort i=(dR c&&pF c.v.kind sort op[i]):=by simp[oP,b,e]
 rw[s];generalize m:op[i]=o at *;have cl:=LK c
 cases l:dR c with
 |false=>
  rw[l]at cl;refine Dp func115 λC hP hN=>?_;exact Gy
 |true=>
  rw[l]at cl;by_cases n:sort=0
  .subst n
   refine Dp func115 λC hP hN=>?_;refine Gz ?_
   all_goals simp[pF]
  by_cases p:sort=1
  .subst p
   by_cases j:c.v.kind=1
   .have a:(c.v.kind==1)=true:=by simp[j]
    refine Dp func115 λC hP hN=>?_;refine GT (go hi b k d e a) ?_
    all_goals simp[pF,j]
   have a:(c.v.kind==1)=false:=by simp[j]
   by_cases g:c.v.kind=0
   .have f:(c.v.kind==0)=true:=by simp[g]
    refine Dp func115 λC hP hN=>?_
    with_reducible repeat' (first|refine Sp.h ?_|((first|refine Ss.h ?_|refine Sc.h (cl) ?_|(refine Sb.h ?_ ?_ ?_<;>(try intro hgd)<;>try exact Xy))<;>simp -implicitDefEqProofs (maxSteps:=2000000) [hP,hN,hi,b,k,d,e,a,f])|refine X2 ?_ ?_|(refine Xd ?_ ?_<;>intro hcd<;>try exact Xx))
    all_goals simp[pF,g,m]
   have f:(c.v.kind==0)=false:=by simp[g]
   refine Dp func115 λC hP hN=>?_;refine Gz ?_
   all_goals simp[pF,j,g]
  by_cases q:sort=2
  .subst q
   by_cases j:c.v.kind=1
   .have a:(c.v.kind==1)=true:=by simp[j]
    refine Dp func115 λC hP hN=>?_;refine GT (go hi b k d e a) ?_
    all_goals simp[pF,j]
   have a:(c.v.kind==1)=false:=by simp[j]
   by_cases g:c.v.kind=0
   .have f:(c.v.kind==0)=true:=by simp[g]
    refine Dp func115 λC hP hN=>?_
    with_reducible repeat' (first|refine Sp.h ?_|((first|refine Ss.h ?_|refine Sc.h (cl) ?_|(refine Sb.h ?_ ?_ ?_<;>(try intro hgd)<;>try exact Xy))<;>simp -implicitDefEqProofs (maxSteps:=2000000) [hP,hN,hi,b,k,d,e,a,f])|refine X2 ?_ ?_|(refine Xd ?_ ?_<;>intro hcd<;>try exact Xx))
    all_goals simp[pF,g,m]
   have f:(c.v.kind==0)=false:=by simp[g]
   refine Dp func115 λC hP hN=>?_;refine Gz ?_
   all_goals simp[pF,j,g]
  have u:(sort==0)=false:=by simp[n]
  have x:(sort==1)=false:=by simp[p]
  have y:(sort==2)=false:=by simp[q]
  refine Dp func115 λC hP hN=>?_;refine Gz ?_
  all_goals simp[pF,n,p,q]
def gv(a:List Bx)(i:Nat):Bx:=a[i]?.getD []
def aG(a:List Bx)(p:List Int)(i:Nat):Bool:=lO (gv a i) p
def fS(a:List Bx)(i j:Nat):Bool:=bk (gv a i) (gv a j)
theorem rG{s:BS}(h:BInv2 n may has tch s)(hi:i<n):s.far[i]?=some (au s.far i):=by
 have:i<s.far.length:=by rw[h.len];exact hi
 simp[au,an this]
theorem LN{s:BS}(h:k<s.q.length):s.q[k]?=some (cW s k):=by simp[cW,an h]
theorem PU{s:BS}(h:k<s.q.length):cW s k∈s.q:=Is (LN h)
theorem Ve(cs:List Cel)(v:List Bx)(op:List Bool)(p q:List Int)(sort:Int)(hn:cs.length<=2048)(hb:v.length=cs.length)(ho:op.length=cs.length)(el:∀b∈v,b.length<=9223372036854775807)(hp:p.length<=9223372036854775807)(hq:q.length<=9223372036854775807)(cq:∀i j,i<cs.length->j<cs.length->fS v i j=fS v j i):EG 55 (Hl cs v op) (zs p) (zs q) (Z sort) (.tup [ns (eM cs.length (oP cs op sort) (aG v q) (aG v p) (fS v)),B (dq cs.length (oP cs op sort) (aG v q) (aG v p) (fS v))]):=by
 have K:∀i,i<cs.length->v[i]?=some (gv v i)/\(gv v i).length<=9223372036854775807:=λi hi=>by
  have F:i<v.length:=by omega
  have e:v[i]?=some (gv v i):=by simp[gv,an F]
  exact⟨e,el _ (Is e)⟩
 have cm:=λi hi=>Tx cs v op i sort hi ho;have cr:=λ(i:Nat)(hi:i<cs.length)=>Lh (gv v i) p (K i hi).2 hp;have ct:=λ(i:Nat)(hi:i<cs.length)=>Lh (gv v i) q (K i hi).2 hq;have cu:=λ(i j:Nat)(hi:i<cs.length)(hj:j<cs.length)=>Rf (gv v i) (gv v j) (K i hi).2 (K j hj).2;simp only[Fm]at cr ct;simp only[HZ]at cu;have c0:∀i,i<cs.length->aQ prog 54 [.pv (iv (gv v i)),.pv (zs p)] [] [] (.pv (B (aG v p i))):=cr;have c3:∀i,i<cs.length->aQ prog 54 [.pv (iv (gv v i)),.pv (zs q)] [] [] (.pv (B (aG v q i))):=ct;have cj:∀i j,i<cs.length->j<cs.length->aQ prog 116 [.pv (iv (gv v i)),.pv (iv (gv v j))] [] [] (.pv (B (fS v i j))):=cu;clear cr ct cu;generalize oP cs op sort=may at *;generalize aG v p=hasF at *;generalize aG v q=has at *;generalize fS v=tch at *;generalize eA:cs.length=n at *
 have W:∀i,i<n->i<v.length:=λi hi=>by omega
 have N:∀i(hi:i<n),v[i]'(W i hi)=gv v i:=λi hi=>bP (K i hi).1 (W i hi);refine Dp func55 λC hP hN=>?_;refine sN [12] (f7 eA (show(8:Int)*n<=281474976710656 by omega) (show(n:Int)<=281474976710656 by omega) (show(n:Int)<=9223372036854775807 by omega)) ?_;refine WP.loopN [] n (λi st=>st.t 1=.pv (zs p)/\st.t 2=.pv (zs q)/\st.t 3=.pv (Z sort)/\st.t 4=.ptr 4 0/\st.t 10=.pv (Z n)/\st.t 11=.arr 25 n/\st.t 12=.arr 12 (bI n may has i).q.length/\st.t 13=.pv (Z i)/\st.h 4=some (.box [.pv (.sl (cs.map bw)),.pv (.sl (v.map iv)),.pv (.sl (op.map B))] true false)/\st.h 142=none/\st.h 12=some (.row 3 1 ((bI n may has i).q.map zN) 0)/\st.h 25=some (.row 3 1 ((bI n may has i).far.map Z) 0)) (by simp[bI]) ?_;rintro i st hi ⟨g1,g2,g3,g4,g,l,O,c4,o,c,H,d⟩;obtain⟨hI,ec⟩:=uv (n:=n) (may:=may) (has:=has) (tch:=tch) i hi;have c9:=hI.le;have c7:=hI.len;by_cases G:i<n
 .have hw:=aj G (by omega)
  have F:=W i G;have I:=(K i G).1;have x:=N i G
  have f:bI n may has (i+1)=if may i&&has i then⟨(bI n may has i).far.set i 1,(bI n may has i).q++[i]⟩else bI n may has i:=rfl
  generalize bI n may has i=s at *;have c1:=cm i G;have c2:=c3 i G
  cases hm:may i with
  |false=>
   rw[hm]at c1;rw[hm,Ww,VM (by simp)]at f;exact Gy
   all_goals simp[f]
  |true=>
   rw[hm]at c1
   cases hh:has i with
   |false=>
    rw[hh]at c2;rw[hm,hh,VM (by simp)]at f;exact Gy
    all_goals simp[f]
   |true=>
    rw[hh]at c2;rw[hm,hh,VS (by simp)]at f
    with_reducible repeat' (first|refine Sp.h ?_|((first|refine Wd ?_|refine Ss.h ?_|refine Sc.h (c1) ?_|refine Sc.h (c2) ?_|(refine Sb.h ?_ ?_ ?_<;>(try intro hgd)<;>try exact Xy))<;>simp -implicitDefEqProofs (maxSteps:=2000000) [hP,hN,g1,g2,g3,g4,g,l,O,c4,o,c,H,d,G,hw,F,I,x,c7,show(s.q.length+1)*8<=140737488355328 by omega,show s.q.length+1<=9223372036854775807 by omega]<;>try refine Ya ?_)|refine X2 ?_ ?_|(refine Xd ?_ ?_<;>intro hcd<;>try exact Xx))
    all_goals (simp[f,Xs])
 have en:i=n:=by omega
 subst en;refine Gz ?_;clear ec c7 c9 hI;refine WP.loopN [] i (λk st=>st.t 1=.pv (zs p)/\st.t 2=.pv (zs q)/\st.t 3=.pv (Z sort)/\st.t 4=.ptr 4 0/\st.t 10=.pv (Z i)/\st.t 11=.arr 25 i/\st.t 12=.arr 12 (bK i may has tch k).q.length/\st.t 14=.pv (Z k)/\st.h 4=some (.box [.pv (.sl (cs.map bw)),.pv (.sl (v.map iv)),.pv (.sl (op.map B))] true false)/\st.h 142=none/\st.h 12=some (.row 3 1 ((bK i may has tch k).q.map zN) 0)/\st.h 25=some (.row 3 1 ((bK i may has tch k).far.map Z) 0)/\(k<=(bK i may has tch k).q.length)) (by simp[bK,g1,g2,g3,g4,g,l,O,o,c,H,d]) ?_;clear g1 g2 g3 g4 g l O c4 o c H d st hi G;rintro k st hk ⟨g1,g2,g3,g4,g,l,O,cb,o,c,H,d,fr⟩;have hI:=sE (n:=i) (may:=may) (has:=has) (tch:=tch) k;by_cases G:k<(bK i may has tch k).q.length
 .have c9:=hI.le
  have er:k<i:=by omega
  have e3:i64.wrap ((k:Int)+1)=(k:Int)+1:=aa
  have e0:bK i may has tch (k+1)=bJ may tch (bK i may has tch k) k i:=by simp only[bK];rw[VS G]
  rw[e0];generalize hS:bK i may has tch k=S at *
  with_reducible repeat' (first|refine Sp.h ?_|((first|refine Wd ?_|refine Ss.h ?_|(refine Sb.h ?_ ?_ ?_<;>(try intro hgd)<;>try exact Xy))<;>simp -implicitDefEqProofs (maxSteps:=2000000) [hP,hN,g1,g2,g3,g4,g,l,O,cb,o,c,H,d,G]<;>try refine Ya ?_)|refine X2 ?_ ?_|(refine Xd ?_ ?_<;>intro hcd<;>try exact Xx))
  refine WP.loopN [] i (λj st=>st.t 1=.pv (zs p)/\st.t 2=.pv (zs q)/\st.t 3=.pv (Z sort)/\st.t 4=.ptr 4 0/\st.t 10=.pv (Z i)/\st.t 11=.arr 25 i/\st.t 12=.arr 12 (bJ may tch S k j).q.length/\st.t 14=.pv (Z k)/\st.t 15=.pv (Z j)/\st.h 4=some (.box [.pv (.sl (cs.map bw)),.pv (.sl (v.map iv)),.pv (.sl (op.map B))] true false)/\st.h 142=none/\st.h 12=some (.row 3 1 ((bJ may tch S k j).q.map zN) 0)/\st.h 25=some (.row 3 1 ((bJ may tch S k j).far.map Z) 0)) (by simp[bJ,g1,g2,g3,g4,g,l,O,cb,o,c,H,d]) ?_;rintro j gI hj ⟨y1,y2,y3,y4,b4,b5,b7,b8,b9,ca,L,Y,ad⟩;obtain⟨hJ,fi,fj⟩:=AM hI G j hj;have e5:=hJ.le;have cd:=hJ.len;by_cases u:j<i
  .have M:=aj u (by omega)
   have f:bJ may tch S k (j+1)=if yR may tch (bJ may tch S k j) k j then qu (bJ may tch S k j) k j else bJ may tch S k j:=rfl
   generalize bJ may tch S k j=T at *;have J:=rG hJ u
   have z:j<T.far.length:=by omega
   have E:=bP J z
   have b3:k<T.q.length:=by omega
   have cS:=LN b3;have cp:=bP cS b3;have a8:=hJ.mem _ (PU b3);have ee:=a8.1;have cM:=rG hJ a8.1
   have b0:cW T k<T.far.length:=by omega
   have cn:=bP cM b0;have cf:yR may tch T k j=((au T.far j==0)&&may j&&tch j (cW T k)):=rfl;have ep:qu T k j=⟨T.far.set j (au T.far (cW T k)+1),T.q++[j]⟩:=rfl;have e8:=hJ.top (cW T k);have e7:=hJ.nn (cW T k);have e2:i64.wrap (au T.far (cW T k)+1)=au T.far (cW T k)+1:=aa;generalize au T.far (cW T k)=fk at *;generalize fM:cW T k=Q at *;have c1:=cm j u;have c2:=cj j Q u a8.1;have F:=W j u;have I:=(K j u).1;have x:=N j u;have bc:=W Q a8.1;have bq:=(K Q a8.1).1;have U:=N Q a8.1;by_cases h0:au T.far j=0
   .have a1:(au T.far j==0)=true:=by simp[h0]
    cases hm:may j with
    |false=>
     rw[hm]at c1;rw[cf,hm,Xi,Ww,VM (by simp)]at f;refine GT (s7 y1 y2 y3 y4 b4 b5 b7 b8 b9 ca L Y ad u (go M J E z cd a1)) ?_
     all_goals simp[f]
    |true=>
     rw[hm]at c1
     cases ht:tch j Q with
     |false=>
      rw[ht]at c2;rw[cf,ht,Xi,VM (by simp)]at f;refine GT (s7 y1 y2 y3 y4 b4 b5 b7 b8 b9 ca L Y ad u (s7 M J E z cd a1 cS cp b3 F I x bc bq (f7 U cM cn b0))) ?_
      all_goals simp[f]
     |true=>
      rw[ht]at c2;rw[cf,ht,hm,a1,VS (by simp),ep]at f;refine GT (s7 y1 y2 y3 y4 b4 b5 b7 b8 b9 ca L Y ad u (s7 M J E z cd a1 cS cp b3 F I x bc bq (so U cM cn b0 ee e2 (show(T.q.length+1)*8<=140737488355328 by omega) (show T.q.length+1<=9223372036854775807 by omega)))) ?_
      all_goals (simp[f,Xs])
   .have a1:(au T.far j==0)=false:=by simp[h0]
    rw[cf,a1,Ww,Ww,VM (by simp)]at f;refine GT (s7 y1 y2 y3 y4 b4 b5 b7 b8 b9 ca L Y ad u (go M J E z cd a1)) ?_
    all_goals simp[f]
  .have cN:j=i:=by omega
   subst cN;refine GT (s7 y1 y2 y3 y4 b4 b5 b7 b8 b9 ca L Y ad u e3) ?_
   all_goals exact⟨er,by omega⟩
 .have ea:bK i may has tch i=bK i may has tch k:=by
   have:=F3 G (i-k);rw[show k+(i-k)=i by omega]at this;exact this
  have cB:mu i may has hasF tch=aS (bK i may has tch k).far hasF i:=by unfold mu;rw[ea]
  have ek:eM i may has hasF tch=if dq i may has hasF tch then(List.range (au (bK i may has tch k).far (mu i may has hasF tch).toNat).toNat).map (pS i (bK i may has tch k).far tch (mu i may has hasF tch).toNat)else[]:=by unfold eM;rw[ea]
  generalize hS:bK i may has tch k=S at *;have V:=hI.len;have e6:=hI.le
  with_reducible repeat' (first|refine Sp.h ?_|((first|refine Wd ?_|refine Ss.h ?_|(refine Sb.h ?_ ?_ ?_<;>(try intro hgd)<;>try exact Xy))<;>simp -implicitDefEqProofs (maxSteps:=2000000) [hP,hN,g1,g2,g3,g4,g,l,O,cb,o,c,H,d,G]<;>try refine Ya ?_)|refine X2 ?_ ?_|(refine Xd ?_ ?_<;>intro hcd<;>try exact Xx))
  refine WP.loopN [] i (λj st=>st.t 1=.pv (zs p)/\st.t 4=.ptr 4 0/\st.t 10=.pv (Z i)/\st.t 11=.arr 25 i/\st.h 4=some (.box [.pv (.sl (cs.map bw)),.pv (.sl (v.map iv)),.pv (.sl (op.map B))] true false)/\st.h 25=some (.row 3 1 (S.far.map Z) 0)/\st.t 16=.pv (Z (aS S.far hasF j))/\st.t 17=.pv (Z j)/\st.h 142=none) (by simp[aS,g1,g4,g,l,o,c,d]) ?_;clear g1 g2 g3 g4 g l O cb o c H d st;rintro j st hj ⟨g1,g4,g,l,o,d,D,ar,c⟩;have hA:=xm (hasF:=hasF) (far:=S.far) j;by_cases u:j<i
  .have M:=aj u (by omega)
   have J:=rG hI u
   have z:j<S.far.length:=by omega
   have E:=bP J z;have c2:=c0 j u;have F:=W j u;have I:=(K j u).1;have x:=N j u
   have f:aS S.far hasF (j+1)=if decide (0<au S.far j)&&hasF j&&(decide (aS S.far hasF j<0)||decide (au S.far j<au S.far (aS S.far hasF j).toNat))then(j:Int)else aS S.far hasF j:=rfl
   generalize aS S.far hasF j=A at *;by_cases h0:0<au S.far j
   .cases hh:hasF j with
    |false=>
     rw[hh]at c2;rw[hh,Xi,Ww,VM (by simp)]at f;refine GT (s7 g1 g4 g l o d D ar c u M J E z (f8 V h0 F I x)) ?_
     all_goals simp[f]
    |true=>
     rw[hh]at c2;by_cases a7:A<0
     .rw[hh,VS (by simp[h0,a7])]at f
      refine GT (s7 g1 g4 g l o d D ar c u M J E z (go V h0 F I x a7)) ?_
      all_goals simp[f]
     .have c5:0<=A:=by omega
      have cw:A.toNat<i:=by omega
      have cx:A.toNat<S.far.length:=by omega
      have cH:=rG hI cw;have ck:=bP cH cx;by_cases a6:au S.far j<au S.far A.toNat
      .rw[hh,VS (by simp[h0,a6])]at f
       refine GT (s7 g1 g4 g l o d D ar c u M J E z (s6 V h0 F I x a7 c5 cw cx cH ck a6)) ?_
       all_goals simp[f]
      .rw[hh,VM (by simp[a6];omega)]at f
       refine GT (s7 g1 g4 g l o d D ar c u M J E z (s6 V h0 F I x a7 c5 cw cx cH ck a6)) ?_
       all_goals simp[f]
   .rw[VM (by simp[h0])]at f
    refine GT (s7 g1 g4 g l o d D ar c u M J E z (gA V h0)) ?_
    all_goals simp[f]
  have cN:j=i:=by omega
  subst cN;rw[ek];unfold dq;rw[cB];generalize e9:aS S.far hasF j=A at *;by_cases a7:A<0
  .have eB:decide (0<=A)=false:=by simp;omega
   rw[eB,VM (by simp)];exact Gy
  obtain⟨a,rfl⟩:=Xj (show 0<=A by omega)
  have eb:decide (0<=(a:Int))=true:=by simp
  rw[eb,VS rfl,V7]
  have ef:a<j:=by omega
  have cz:0<au S.far a:=by have:=(hA.2.2 (by omega)).1;rwa [V7]at this
  have ei:=hI.top a;have eS:=yh hI cq ef cz;refine sN [142] (s5 g1 g4 g l o d D ar c (gA u a7)) ?_;refine WP.loopN [] (au S.far a-1).toNat (λr st=>st.t 1=.pv (zs p)/\st.t 4=.ptr 4 0/\st.t 10=.pv (Z j)/\st.t 11=.arr 25 j/\st.h 4=some (.box [.pv (.sl (cs.map bw)),.pv (.sl (v.map iv)),.pv (.sl (op.map B))] true false)/\st.h 25=some (.row 3 1 (S.far.map Z) 0)/\st.t 16=.pv (Z (pS j S.far tch a r))/\st.t 18=.arr 142 (r+1)/\st.h 142=some (.row 3 1 (((List.range (r+1)).map (pS j S.far tch a)).map zN) 0)) (by simp[pS,g1,g4,g,l,o,d,D]) ?_;clear g1 g4 g l o c d D ar st;rintro r st hr ⟨g1,g4,g,l,o,d,D,R,c⟩;obtain⟨u1,u2⟩:=eS r (by omega);have e1:pS j S.far tch a (r+1)=Cl j S.far tch (pS j S.far tch a r):=rfl;have dd:(List.range (r+1)).map (pS j S.far tch a)++[pS j S.far tch a (r+1)]=(List.range (r+2)).map (pS j S.far tch a):=Hg _ (r+1);have cg:=rG hI u1
  have a2:pS j S.far tch a r<S.far.length:=by omega
  have b1:=bP cg a2;by_cases fQ:r<(au S.far a-1).toNat
  .have c8:1<au S.far (pS j S.far tch a r):=by omega
   obtain⟨x1,x2,x3,x4⟩:=AN hI cq u1 c8;have gd:i64.wrap ((j:Int)-1)=(j:Int)-1:=aa;rw[e1]at dd|-;generalize fm:pS j S.far tch a r=P at *;refine Gz ?_;refine WP.loopN [] j (λm st=>st.t 1=.pv (zs p)/\st.t 4=.ptr 4 0/\st.t 10=.pv (Z j)/\st.t 11=.arr 25 j/\st.h 4=some (.box [.pv (.sl (cs.map bw)),.pv (.sl (v.map iv)),.pv (.sl (op.map B))] true false)/\st.h 25=some (.row 3 1 (S.far.map Z) 0)/\st.t 16=.pv (Z P)/\st.t 18=.arr 142 (r+1)/\st.t 19=.pv (Z (nS j S.far tch P m))/\st.t 20=.pv (Z ((j:Int)-1-m))/\st.h 142=some (.row 3 1 (((List.range (r+1)).map (pS j S.far tch a)).map zN) 0)) (by simp[nS,g1,g4,g,l,o,d,D,R,c]) ?_;clear g1 g4 g l o c d D R st;rintro m st hm ⟨g1,g4,g,l,o,d,D,R,ba,bb,c⟩;by_cases cP:m<j
   .obtain⟨y,hy⟩:∃y:Nat,y=j-1-m:=⟨_,rfl⟩
    have e4:(j:Int)-1-m=(y:Int):=by omega
    have X:y<j:=by omega
    rw[e4]at bb
    have cU:i64.wrap ((y:Int)-1)=(j:Int)-1-((m:Int)+1):=by rw[show(j:Int)-1-((m:Int)+1)=(y:Int)-1 by omega];exact aa (by omega) (by omega)
    have f:nS j S.far tch P (m+1)=if nC S.far tch P y then(y:Int)else nS j S.far tch P m:=by simp only[nS];rw[<-hy]
    have cQ:nC S.far tch P y=((au S.far y==au S.far P-1)&&tch y P):=rfl;have ch:=rG hI X
    have a5:y<S.far.length:=by omega
    have b2:=bP ch a5;have cV:i64.wrap (au S.far P-1)=au S.far P-1:=aa;have F:=W y X;have I:=(K y X).1;have x:=N y X;have bc:=W P u1;have bq:=(K P u1).1;have U:=N P u1;have c2:=cj y P X u1
    cases bH:(au S.far y==au S.far P-1)with
    |false=>
     rw[cQ,bH,Ww,VM (by simp)]at f;refine GT (s7 g1 g4 g l o d D R ba bb c cP X cU (s5 ch b2 a5 cg b1 a2 u1 V cV bH)) ?_
     all_goals simp[f]
    |true=>
     cases ht:tch y P with
     |false=>
      rw[ht]at c2;rw[cQ,ht,Xi,VM (by simp)]at f;refine GT (s7 g1 g4 g l o d D R ba bb c cP X cU (s7 ch b2 a5 cg b1 a2 u1 V cV bH F I x bc (gA bq U))) ?_
      all_goals simp[f]
     |true=>
      rw[ht]at c2;rw[cQ,ht,bH,VS (by simp)]at f;refine GT (s7 g1 g4 g l o d D R ba bb c cP X cU (s7 ch b2 a5 cg b1 a2 u1 V cV bH F I x bc (gA bq U))) ?_
      all_goals simp[f]
   .have et:m=j:=by omega
    subst et
    have ez:¬(0:Int)<=(m:Int)-1-m:=by omega
    rw[x1]at ba;refine GT (s6 g1 g4 g l o d D R ba bb c (be ez (show(r+1+1)*8<=140737488355328 by omega) (show r+1+1<=9223372036854775807 by omega))) ?_
    all_goals exact⟨by omega,by simpa using Xq (List.map zN) dd⟩
  .have eW:r+1=(au S.far a).toNat:=by omega
   have c8:¬1<au S.far (pS j S.far tch a r):=by omega
   rw[eW]at c R;exact Gy
theorem I5(l:aT t=true):∀i j,i<t.cells.length->j<t.cells.length->fS (ah t) i j=fS (ah t) j i:=by
 have key:∀{a b:Bx},bj vI a=true->bj vI b=true->bk a b=true->bk b a=true:=by
  intro a b e f h;obtain⟨c,d⟩:=(nW e f).1 h;exact(nW f e).2 ⟨c.symm,λi x y m n=>(d i y x n m).symm⟩
 intro i j hi q;have k:=fA l
 have c:(ah t)[i]?=some (gv (ah t) i):=by simp[gv,an (by omega:i<(ah t).length)]
 have d:(ah t)[j]?=some (gv (ah t) j):=by simp[gv,an (by omega:j<(ah t).length)]
 have o:=key (kK c).2 (kK d).2;have p:=key (kK d).2 (kK c).2;simp only[fS]at *
 cases h:bk (gv (ah t) i) (gv (ah t) j)with
 |true=>rw[o h]
 |false=>
  cases g:bk (gv (ah t) j) (gv (ah t) i)with
  |true=>rw[p g]at h;cases h
  |false=>rfl
theorem zz(m:aT t=true){c:Cel}(g:t.cells[i]?=some c):decide (c.low=-1)=dR c:=by
 obtain⟨L,hL⟩:=Wo.1 m
 have hp:=kJ (P:=λk _=>i<k->decide (c.low=-1)=dR c) hL (by intro h;omega) (λk d M n f hp l hi=>by
  by_cases e:k=i
  .subst e
   rw[g]at f;injection f with f;subst f;obtain⟨b,o,⟨a,_,_⟩|⟨a,j,_⟩⟩:=jc l
   .rw[a];simp[dR]at a;simp[a]
   .rw[a]
    have:=jd.1 j;simp;omega
  .exact hp (by omega))
 exact hp (th.1 g).1
abbrev vZ(l:List Nat):PV:=.sl (l.map λn:Nat=>Z (n:Int))
structure Spc where
 root:Bx
 cells:List Cel
 bx:List Bx
 near:List (List Nat)
 jn:List Int
 cc:Bool:=false
variable {s:Spc}
abbrev Uv(s:Spc):PV:=.agg [iv s.root,.sl (s.cells.map bw),.sl (s.bx.map iv),.sl (s.near.map vZ),.sl (s.jn.map Z)]
abbrev nO(s:Spc):PV:=.rptr (Uv s) 0
def ab(s:Spc)(v:Nat):List Nat:=(s.near[v]?).getD []
def av(s:Spc)(i:Nat):Cel:=(s.cells[i]?).getD (aD bm)
def dc(s:Spc)(i:Nat):Int:=(s.jn[i]?).getD 0
def cF(s:Spc)(f:Int->Int->Bool)(i:Nat):Bool:=decide ((av s i).low=-1)&&f (av s i).v.kind (dc s i)
def ax(s:Spc)(i:Nat):Bx:=(s.bx[i]?).getD []
def iM(near:List (List Nat)):List AV:=(List.range near.length).map λv=>.arr (v+300) ((near[v]?).getD []).length
abbrev dE:AV:=.pv (.val (.slice none 0 0))
def mE(s:Spc):AV:=match s.cc with
 |true=>.pv (.sl (s.cells.map bw))
 |false=>.arr 291 s.cells.length
theorem sX(h:s.cc=false):mE s=.arr 291 s.cells.length:=by unfold mE;rw[h]
theorem Pw(h:s.cc=true):mE s=.pv (.sl (s.cells.map bw)):=by unfold mE;rw[h]
theorem NL(s:Spc):rH (mE s)=true:=by unfold mE;split<;>rfl
theorem DF{ks:List Nat}(h:ks.contains 291=false):bC ks (mE s)=false:=by
 unfold mE;split
 .rfl
 .simpa[bC,aK]using h
def bo(own:Bool)(s:Spc)(c:Nat):Hp:=λk=>
 if k=290 then some (.box [.pv (iv s.root),mE s,.arr 292 s.bx.length,.ext (.barr 293 s.near.length (s.near.length+c)),.arr 294 s.jn.length] own false)
 else if k=291 then(match s.cc with
  |true=>none
  |false=>some (.row 58 8 (s.cells.map bw) 0))
 else if k=292 then some (.row 39 1 (s.bx.map iv) 0)
 else if k=293 then some (.box (iM s.near++List.replicate c dE) true false)
 else if k=294 then some (.row 3 1 (s.jn.map Z) 0)
 else if 300<=k/\k<300+s.near.length then some (.row 3 1 ((ab s (k-300)).map λn:Nat=>Z (n:Int)) 0)
 else none
theorem da(near:List (List Nat)):(iM near).length=near.length:=by simp[iM]
theorem mO(h:v<near.length):(iM near)[v]?=some (.arr (v+300) ((near[v]?).getD []).length):=by simp[iM,h]
theorem oZ(own:Bool)(s:Spc)(c:Nat):bo own s c 290=some (.box [.pv (iv s.root),mE s,.arr 292 s.bx.length,.ext (.barr 293 s.near.length (s.near.length+c)),.arr 294 s.jn.length] own false):=rfl
theorem rB(own:Bool)(s:Spc)(c:Nat)(h:s.cc=false):bo own s c 291=some (.row 58 8 (s.cells.map bw) 0):=by
 unfold bo;rw[VM (by omega),VS rfl,h]
theorem rC(own:Bool)(s:Spc)(c:Nat):bo own s c 292=some (.row 39 1 (s.bx.map iv) 0):=rfl
theorem o8(own:Bool)(s:Spc)(c:Nat):bo own s c 293=some (.box (iM s.near++List.replicate c dE) true false):=rfl
theorem ud(own:Bool)(s:Spc)(c:Nat):bo own s c 294=some (.row 3 1 (s.jn.map Z) 0):=rfl
theorem mh{own:Bool}(h:v<s.near.length):bo own s c (v+300)=some (.row 3 1 ((ab s v).map λn:Nat=>Z (n:Int)) 0):=by
 unfold bo;rw[VM (by omega),VM (by omega),VM (by omega),VM (by omega),VM (by omega),VS (by omega),Nat.add_sub_cancel]
theorem Ij{own:Bool}(h:295<=k):bo own s c k=none\/∃xs,bo own s c k=some (.row 3 1 xs 0):=by
 unfold bo;rw[VM (by omega),VM (by omega),VM (by omega),VM (by omega),VM (by omega)];split
 .exact .inr ⟨_,rfl⟩
 .exact .inl rfl
theorem pc{own:Bool}(h:s.near.length<=4096):LookH (bo own s c):=by
 have cases:∀{k b},bo own s c k=some b->(k=290/\b=.box [.pv (iv s.root),mE s,.arr 292 s.bx.length,.ext (.barr 293 s.near.length (s.near.length+c)),.arr 294 s.jn.length] own false)\/(k=293/\b=.box (iM s.near++List.replicate c dE) true false)\/(290<=k/\k<1000000/\∃e sz xs,b=.row e sz xs 0):=by
  intro k b a;unfold bo at a;split at a
  .rename_i e;injection a with a;exact .inl ⟨e,a.symm⟩
  .split at a
   .split at a
    .cases a
    .injection a with a;exact .inr (.inr ⟨by omega,by omega,_,_,_,a.symm⟩)
   .split at a
    .injection a with a;exact .inr (.inr ⟨by omega,by omega,_,_,_,a.symm⟩)
    .split at a
     .rename_i e;injection a with a;exact .inr (.inl ⟨e,a.symm⟩)
     .split at a
      .injection a with a;exact .inr (.inr ⟨by omega,by omega,_,_,_,a.symm⟩)
      .split at a
       .injection a with a;exact .inr (.inr ⟨by omega,by omega,_,_,_,a.symm⟩)
       .cases a
 have g:∀k,290<=k->k<1000000->inK k=true:=λk i j=>by simp[inK,i,j]
 refine⟨λk b a=>?_,λk b o a=>?_,λk b a=>?_,λk m o f a=>?_⟩
 .rcases cases a with⟨rfl,_⟩|⟨rfl,_⟩|⟨i,j,_⟩
  .rfl
  .rfl
  .exact g k i j
 .rcases cases a with⟨_,rfl⟩|⟨_,rfl⟩|⟨_,_,e,sz,xs,rfl⟩
  all_goals simp[Blk.frz]
 .rcases cases a with⟨_,rfl⟩|⟨_,rfl⟩|⟨_,_,e,sz,xs,rfl⟩<;>rfl
 .rcases cases a with⟨_,e⟩|⟨_,e⟩|⟨_,_,e,sz,xs,l⟩
  .injection e with e;subst e
   intro x d;simp only[Wj,Wr,WR]at d
   rcases d with rfl|rfl|rfl|rfl|rfl<;>first|exact NL s|rfl
  .injection e with e;subst e
   intro x d;rcases V4.1 d with d|d
   .simp only[iM,Wf,Wz]at d
    obtain⟨v,n,rfl⟩:=d;exact g (v+300) (by omega) (by omega)
   .rw[(List.mem_replicate.1 d).2];rfl
  .cases l
theorem Ft{cs:List AV}{f:Bool}(h:bo false s c k=some (.box cs false f)):k=290:=by
 unfold bo at h;split at h
 .assumption
 .exfalso
  repeat' split at h
  all_goals cases h
theorem zi{rs:List ResultVar}{a:AV->Hp->Prop}{r:AV}{s':Spc}{c':Nat}(h1:mM P st rs=some r)(g:rH r=true)(e:s'.near.length<=4096)(hp:a r (bo false s' c'))(b:∀k,inK k=true->st.h k=bo false s' c' k):yU P rs (bo false s c) a st:=
 xq h1 g b (pc e) hp λk i f d=>by rw[Ft d];exact⟨_,rfl⟩
theorem BW{own:Bool}{nr:List (List Nat)}(f:nr.length=s.near.length)(h1:k≠293)(a:∀v,k=v+300->v<s.near.length->nr[v]?=s.near[v]?):bo own {s with near:=nr} c k=bo own s c k:=by
 unfold bo;simp only[f];by_cases e:300<=k/\k<300+s.near.length
 .have b:=a (k-300) (by omega) (by omega)
  have d:ab {s with near:=nr} (k-300)=ab s (k-300):=by simp only[ab,b]
  simp only[VM h1,d];rfl
 .simp only[VM h1,VM e]
  rfl
theorem iK{l:List α}{x:α}(h:l[i]?=some x)(hi:i<l.length):l[i]'hi=x:=(th.1 h).2
def fK(s:Spc)(a b:Nat):Spc:=if bk (ax s a) (ax s b)then{s with near:=(s.near.set a (ab s a++[b])).set b (ab s b++[a])}else s
theorem JP{a b:Nat}{x y:List Nat}(f:a≠b):iM ((near.set a x).set b y)=((iM near).set a (.arr (a+300) x.length)).set b (.arr (b+300) y.length):=by
 apply WA;intro v;simp only[iM,Xl];by_cases d:v<near.length
 .by_cases c:b=v
  .subst c
   simp[VV,d]
  .by_cases e:a=v
   .subst e
    simp[VV,d,c]
   .simp[VV,d,e,c]
 .rw[VW (by simp;omega),VW (by simp;omega)]
theorem Un(s:Spc)(c a b:Nat)(hn:s.near.length<=4096)(u:a<s.near.length)(z:b<s.near.length)(j:a≠b)(Y:s.bx.length=s.near.length)(N:∀x∈s.bx,x.length<=9223372036854775807)(B:∀v,(ab s v).length<=4096):
 nY prog 80 [.ptr 290 0,.pv (Z a),.pv (Z b)] (bo false s c) (λ_ X=>X=bo false (fK s a b) c):=by
 have l:s.bx[a]?=some (ax s a):=by simp[ax,an (by omega:a<s.bx.length)]
 have A:s.bx[b]?=some (ax s b):=by simp[ax,an (by omega:b<s.bx.length)]
 have U:=Q5 (ax s a) (ax s b) (N _ (Is l))
 have f:a<s.bx.length:=by omega
 have g:b<s.bx.length:=by omega
 have p:=iK l f;have r:=iK A g;have m:=oZ false s c;have n:=rC false s c;have o:=o8 false s c;refine Hs func80 (pc (by omega)) ?_;intro C hP hN;simp only[f80]at hN|-
 cases D:bk (ax s a) (ax s b)with
 |false=>
  rw[D]at U
  have P:fK s a b=s:=by simp[fK,D]
  rw[P];generalize I:bo false s c=H at *;refine GT (so @tQ.eq_1 m n f g l A (gA p r)) ?_;subst I;exact zi (s':=s) (c':=c) rfl rfl hn rfl (λ_ _=>rfl)
 |true=>
  rw[D]at U
  have P:fK s a b={s with near:=(s.near.set a (ab s a++[b])).set b (ab s b++[a])}:=by simp[fK,D]
  rw[P];have Q:=mh (own:=false) (s:=s) (c:=c) u;have R:=mh (own:=false) (s:=s) (c:=c) z;obtain⟨d,i⟩:∃d,d=iM s.near++List.replicate c dE:=⟨_,rfl⟩
  have O:d.length=s.near.length+c:=by rw[i];simp[da]
  have S:d[a]?=some (.arr (a+300) (ab s a).length):=by rw[i,VO (by rw[da];exact u),mO u];rfl
  have T:d[b]?=some (.arr (b+300) (ab s b).length):=by rw[i,VO (by rw[da];exact z),mO z];rfl
  have E:∀h,d[a]'h=.arr (a+300) (ab s a).length:=λh=>iK S h;have F:∀h,d[b]'h=.arr (b+300) (ab s b).length:=λh=>iK T h;have sa:∀x,d.take a++x::d.drop (a+1)=d.set a x:=λx=>qR (by omega);have sb:∀x y,(d.set a x).take b++y::(d.set a x).drop (b+1)=(d.set a x).set b y:=λx y=>qR (by simp;omega)
  have J:a+1<=s.near.length+c:=by omega
  have L:b+1<=s.near.length+c:=by omega
  have K:a<s.near.length+c:=by omega
  have M:b<s.near.length+c:=by omega
  have q:¬b=a:=λe=>j e.symm;have la:=B a;have lb:=B b;rw[<-i]at o;generalize I:bo false s c=H at *;refine HP (s7 @tQ.eq_1 m n o f g l A p r Q R O S (s7 T E F sa sb u z J L K M j q (show¬a+300=290 by omega) (s6 (show¬b+300=290 by omega) (show¬a+300=293 by omega) (show¬b+300=293 by omega) (show¬293=a+300 by omega) (show¬293=b+300 by omega) (show¬290=a+300 by omega) (show¬290=b+300 by omega) (show a+300<2000000 by omega) (show b+300<2000000 by omega) (show((ab s a).length+1)*8<=140737488355328 by omega) (show((ab s b).length+1)*8<=140737488355328 by omega) (gA (show(ab s a).length+1<=9223372036854775807 by omega) (show(ab s b).length+1<=9223372036854775807 by omega))))) ?_;subst I;refine zi (s':={s with near:=(s.near.set a (ab s a++[b])).set b (ab s b++[a])}) (c':=c) rfl rfl (by simp only[Xl];exact hn) rfl (λk hk=>?_);by_cases G:k=293
  .subst G
   rw[o8];simp only[JP j];simp[ag,i,XQ,da,u,z,show¬293=a+300 by omega,show¬293=b+300 by omega]
  .by_cases V:k=b+300
   .subst V
    rw[mh (by simp only[Xl];exact z)];simp[ag,ab,VV,z]
   .by_cases W:k=a+300
    .subst W
     rw[mh (by simp only[Xl];exact u)];simp[ag,ab,VV,u,q,j]
    .rw[BW (by simp) G (λv hv ad=>by rw[VV,VM (by omega),VV,VM (by omega)])]
     simp[ag,G,V,W]
def dB(s:Spc)(leaf:Nat)(joint:Int):Spc:=
 {root:=s.root,cells:=s.cells.set leaf ⟨joint,s.cells.length,s.cells.length+1,bm⟩++[aD bm,aD bm],bx:=s.bx++[aW (ax s leaf) joint,aX (ax s leaf) joint],near:=s.near.set leaf []++[[],[]],jn:=s.jn++[-1,-1]}
def gY(s:Spc)(k leaf:Nat):Spc:={s with near:=s.near.set k ((ab s k).erase leaf)}
def dj(low leaf:Nat)(s:Spc)(k:Nat):Spc:=fK (fK (gY s k leaf) low k) (low+1) k
def bA(s:Spc)(leaf:Nat)(joint:Int):Spc:=fK ((ab s leaf).foldl (dj s.cells.length leaf) (dB s leaf joint)) s.cells.length (s.cells.length+1)
theorem kH{a b:Nat}(f:a≠b)(g:a<s.near.length)(i:b<s.near.length):ab (fK s a b) v=if bk (ax s a) (ax s b)=true/\(v=a\/v=b)then ab s v++[if v=a then b else a]else ab s v:=by
 unfold fK
 cases j:bk (ax s a) (ax s b)with
 |false=>simp
 |true=>
  by_cases c:v=b
  .subst c
   simp[ab,VV,i,show¬v=a from λe=>f e.symm]
  .by_cases d:v=a
   .subst d
    simp[ab,VV,g,c,show¬b=v from λe=>c e.symm]
   .simp[ab,VV,c,d,show¬b=v from λe=>c e.symm,show¬a=v from λe=>d e.symm]
theorem gq(s:Spc)(a b:Nat):(fK s a b).near.length=s.near.length/\(fK s a b).bx=s.bx/\(fK s a b).cells=s.cells/\(fK s a b).jn=s.jn/\(fK s a b).root=s.root:=by
 unfold fK;split<;>simp
theorem u7(a:k<s.near.length):ab (gY s k leaf) v=if v=k then(ab s k).erase leaf else ab s v:=by
 unfold gY;by_cases h:v=k
 .subst h;simp[ab,VV,a]
 .simp[ab,VV,h,show¬k=v from λe=>h e.symm]
theorem qe(low leaf:Nat)(s:Spc)(k:Nat):(dj low leaf s k).near.length=s.near.length/\(dj low leaf s k).bx=s.bx/\(dj low leaf s k).cells=s.cells/\(dj low leaf s k).jn=s.jn/\(dj low leaf s k).root=s.root:=by
 unfold dj;obtain⟨a,b,a3,a4,c⟩:=gq (fK (gY s k leaf) low k) (low+1) k;obtain⟨d,e,f,g,i⟩:=gq (gY s k leaf) low k;rw[a,b,a3,a4,c,d,e,f,g,i];simp[gY]
theorem Ik{low:Nat}(f:low+1<s.near.length)(e:k<low)(a:v≠k)(b:v≠low)(c:v≠low+1):ab (dj low leaf s k) v=ab s v:=by
 obtain⟨d,_⟩:=gq (gY s k leaf) low k
 have hd:(gY s k leaf).near.length=s.near.length:=by simp[gY]
 unfold dj;rw[kH (by omega) (by omega) (by omega),VM (by omega),kH (by omega) (by omega) (by omega),VM (by omega),u7 (by omega),VM a]
theorem JS{low:Nat}(g:low+1<s.near.length)(f:k<low):(ab (dj low leaf s k) v).length<=(ab s v).length+(if v=k then 2 else if v=low\/v=low+1 then 1 else 0):=by
 obtain⟨d,_⟩:=gq (gY s k leaf) low k
 have hd:(gY s k leaf).near.length=s.near.length:=by simp[gY]
 have e:((ab s k).erase leaf).length<=(ab s k).length:=List.length_erase_le;unfold dj;rw[kH (by omega) (by omega) (by omega),kH (by omega) (by omega) (by omega),u7 (by omega)];by_cases h:v=k
 .subst h
  simp only[V8];split<;>split<;>simp<;>omega
 .rw[VM h,VM h]
  by_cases a:v=low
  .subst a
   rw[VM (by omega)];split<;>simp
  .by_cases b:v=low+1
   .subst b
    rw[VM (c:=bk (ax (gY s k leaf) low) (ax (gY s k leaf) k)=true/\(low+1=low\/low+1=k)) (by omega)];split<;>simp
   .rw[VM (by omega),VM (by omega)]
    simp[a,b]
theorem Bb(s:Spc)(a b:Nat):(fK s a b).cc=s.cc:=by unfold fK;split<;>rfl
theorem Fu(low leaf:Nat)(s:Spc)(k:Nat):(dj low leaf s k).cc=s.cc:=by unfold dj;rw[Bb,Bb];rfl
structure LpI(s0:Spc)(n leaf:Nat)(old:List Nat)(i:Nat)(s:Spc):Prop where
 nl:s.near.length=n+2
 bx:s.bx=s0.bx
 cells:s.cells=s0.cells
 jn:s.jn=s0.jn
 root:s.root=s0.root
 cc:s.cc=s0.cc
 low:∀k,k<n->k∉old.take i->ab s k=ab s0 k
 len:∀v,(ab s v).length<=(ab s0 v).length+2+(if v<n then 0 else i)
theorem LpI.step{l:Spc}(h:LpI l n leaf old i s)(d:old.Nodup)(q:old[i]?=some k)(a:k<n):LpI l n leaf old (i+1) (dj n leaf s k):=by
 obtain⟨m,o,a3,a4,p⟩:=qe n leaf s k
 have j:old.take (i+1)=old.take i++[k]:=by rw[Yb,q];rfl
 have f:k∉old.take i:=by
  have:=(List.take_sublist (i+1) old).nodup d;rw[j,XM]at this;intro b;exact this.2.2 k b k (by simp) rfl
 refine⟨m.trans h.nl,o.trans h.bx,a3.trans h.cells,a4.trans h.jn,p.trans h.root,(Fu n leaf s k).trans h.cc,λv r b=>?_,λv=>?_⟩
 .rw[j]at b
  simp only[V4,Wu,not_or]at b;rw[Ik (by rw[h.nl];omega) a b.2 (by omega) (by omega),h.low v r b.1]
 .have c:=JS (leaf:=leaf) (v:=v) (s:=s) (by rw[h.nl];omega) a
  have g:=h.len v;by_cases e:v=k
  .subst e
   rw[VS rfl]at c;rw[h.low v a f]at c;rw[VS a];omega
  .rw[VM e]at c
   split at c
   .rw[VM (by omega)]at g|-
    omega
   .split at g
    .rw[VS (by assumption)];omega
    .rw[VM (by assumption)];omega
theorem pd{joint:Int}(b:leaf<s.near.length):ab (dB s leaf joint) v=if v=leaf then[]else ab s v:=by
 unfold dB ab;simp only;by_cases h:v<s.near.length
 .rw[VO (by simpa using h),VV]
  by_cases e:v=leaf
  .subst e;simp[b]
  .simp[e,show¬leaf=v from λa=>e a.symm]
 .rw[VR (by simpa using(by omega:s.near.length<=v)),VM (by omega),VW (l:=s.near) (by omega)]
  simp only[Xl]
  match v-s.near.length with
  |0=>rfl
  |1=>rfl
  |m+2=>simp
theorem LpI.zero{joint:Int}(hn:s.near.length=n):LpI (dB s leaf joint) n leaf old 0 (dB s leaf joint):=
 ⟨by simp[dB,hn],rfl,rfl,rfl,rfl,rfl,λ_ _ _=>rfl,λ_=>by omega⟩
section
variable {n:Nat} {may has:Nat->Bool} {tch:Nat->Nat->Bool}
inductive Vis(may:Nat->Bool)(k:Nat)(s:BS):List Nat->BS->Prop
 |nil:Vis may k s [] s
 |hit {c s1 i} (h:Vis may k s c s1) (h0:au s1.far i=0) (hm:may i=true):Vis may k s (c++[i]) (qu s1 k i)
 |miss {c s1 i} (h:Vis may k s c s1) (h0:au s1.far i=0->may i=false):Vis may k s (c++[i]) s1
structure VI(n:Nat)(may has:Nat->Bool)(tch:Nat->Nat->Bool)(s:BS)(k:Nat)(c:List Nat)(s1:BS):Prop where
 inv:BInv2 n may has tch s1
 le:s.q.length<=s1.q.length
 qs:∀a,a<s.q.length->cW s1 a=cW s a
 keep:∀i,1<=au s.far i->au s1.far i=au s.far i
 inq:∀i,1<=au s1.far i->i∈s1.q
 qn:∀a,s.q.length<=a->a<s1.q.length->au s1.far (cW s1 a)=au s.far (cW s k)+1
 vis:∀i∈c,may i=true->1<=au s1.far i
theorem Fo{s:BS}{l:List Int}{a:Nat}(h:a<s.q.length):cW ⟨l,s.q++[i]⟩ a=cW s a:=by
 unfold cW;rw[VO h]
theorem Mg{s:BS}{l:List Int}:cW ⟨l,s.q++[i]⟩ s.q.length=i:=by
 unfold cW;rw[VR (VU _)];simp
theorem Fp{s d:BS}{c:List Nat}(hs:BInv2 n may has tch s)(A:k<s.q.length)(hq:∀i,1<=au s.far i->i∈s.q)(h:Vis may k s c d)(x:∀i∈c,i<n/\tch i (cW s k)=true):VI n may has tch s k c d:=by
 induction h with
 |nil=>exact⟨hs,VU _,λ_ _=>rfl,λ_ _=>rfl,hq,λa E H=>by omega,λi hi=>by cases hi⟩
 |@hit c d i h r F ih=>
  have I:=ih λj b=>x j (XS _ b);obtain⟨hi,G⟩:=x i (by simp);have p:=I.qs k A
  have B:cW s k∈s.q:=by
   unfold cW;rw[an A];exact Wb _
  have y:=(hs.mem _ B)
  have m:au d.far (cW d k)=au s.far (cW s k):=by rw[p];exact I.keep _ y.2
  have z:i<d.far.length:=by rw[I.inv.len];exact hi
  have f:∀j,au (qu d k i).far j=if j=i then au s.far (cW s k)+1 else au d.far j:=λj=>by
   simp only[qu];rw[mt z,m]
  have o:∀j,1<=au d.far j->j≠i:=λj b e=>by rw[e,r]at b;omega
  have l:cW d k∈d.q:=by
   unfold cW;rw[an (WM A I.le)];exact Wb _
  refine⟨?_,?_,?_,?_,?_,?_,?_⟩
  .refine I.inv.put hi r (by rw[m];omega) F (by have:=I.inv.top (cW d k);omega) (.inr ⟨cW d k,(I.inv.mem _ l).1,by omega,(I.inv.mem _ l).2,by rw[p];exact G⟩)
  .simp only[qu,V9,WT];have:=I.le;omega
  .intro a u
   have:=I.le;rw[<-I.qs a u];exact Fo (by omega)
  .intro j b
   have:=I.keep j b;rw[f,VM (o j (by omega)),this]
  .intro j b
   rw[f]at b;simp only[qu,V4,Wu];split at b
   .rename_i e;exact .inr e
   .exact .inl (I.inq j b)
  .intro a u v
   simp only[qu,V9,WT]at v;by_cases e:a<d.q.length
   .have D:cW (qu d k i) a=cW d a:=Fo e
    have C:cW d a∈d.q:=by
     unfold cW;rw[an e];exact Wb _
    rw[D,f,VM (o _ (I.inv.mem _ C).2)];exact I.qn a u e
   .have:a=d.q.length:=by omega
    subst this;rw[show cW (qu d k i) d.q.length=i from Mg,f,VS rfl]
  .intro j b g
   rw[f];split
   .omega
   .rename_i e
    rcases V4.1 b with b|b
    .exact I.vis j b g
    .exact absurd (Wu.1 b) e
 |@miss c d i h r ih=>
  have I:=ih λj b=>x j (XS _ b);refine⟨I.inv,I.le,I.qs,I.keep,I.inq,I.qn,λj b g=>?_⟩;rcases V4.1 b with b|b
  .exact I.vis j b g
  .rw[Wu.1 b]at g|-
   have E:=I.inv.nn i;by_cases e:au d.far i=0
   .rw[r e]at g;cases g
   .omega
structure BO(n:Nat)(may has:Nat->Bool)(tch:Nat->Nat->Bool)(s:BS)(k:Nat):Prop where
 inv:BInv2 n may has tch s
 inq:∀i,1<=au s.far i->i∈s.q
 mono:∀a b,a<=b->b<s.q.length->au s.far (cW s a)<=au s.far (cW s b)
 top:∀b,b<s.q.length->k<s.q.length->au s.far (cW s b)<=au s.far (cW s k)+1
 start:∀i,i<n->may i=true->has i=true->au s.far i=1
 done:∀a,a<k->a<s.q.length->∀i,i<n->may i=true->tch i (cW s a)=true->1<=au s.far i/\au s.far i<=au s.far (cW s a)+1
theorem NF{s:BS}(h:i∈s.q):∃a,a<s.q.length/\cW s a=i:=by
 obtain⟨a,b⟩:=Wt h;exact⟨a,(th.1 b).1,by simp[cW,b]⟩
theorem Az{s:BS}{a:Nat}(h:a<s.q.length):cW s a∈s.q:=by
 unfold cW;rw[an h];exact Wb _
theorem BO.step{s f:BS}{c:List Nat}(H:BO n may has tch s k)(m:k<s.q.length)(h:Vis may k s c f)(E:∀i∈c,i<n/\tch i (cW s k)=true)(p:∀i,i<n->may i=true->tch i (cW s k)=true->i∈c\/i=cW s k):BO n may has tch f (k+1):=by
 have I:=Fp H.inv m H.inq h E;have G:=I.le
 have d:∀a,a<s.q.length->au f.far (cW f a)=au s.far (cW s a):=λa x=>by
  rw[I.qs a x];exact I.keep _ (H.inv.mem _ (Az x)).2
 have B:∀b,b<f.q.length->au f.far (cW f b)<=au s.far (cW s k)+1:=by
  intro b j;by_cases e:b<s.q.length
  .rw[d b e];exact H.top b e m
  .rw[I.qn b (by omega) j];omega
 have mono:∀a b,a<=b->b<f.q.length->au f.far (cW f a)<=au f.far (cW f b):=by
  intro a b y j;by_cases e:b<s.q.length
  .rw[d b e,d a (by omega)];exact H.mono a b y e
  .rw[I.qn b (by omega) j];exact B a (by omega)
 refine⟨I.inv,I.inq,mono,?_,?_,?_⟩
 .intro b j A
  have l:=mono k (k+1) (by omega) A;rw[d k m]at l;have:=B b j;omega
 .intro i hi r F
  have l:=H.start i hi r F;rw[I.keep i (by omega)];exact l
 .intro a x D i hi r u
  by_cases e:a<k
  .have g:a<s.q.length:=by omega
   rw[I.qs a g]at u;obtain⟨l,C⟩:=H.done a e g i hi r u;rw[I.keep i l,d a g];exact⟨l,C⟩
  .have e:a=k:=by omega
   subst e;rw[I.qs a m]at u;rw[d a m];rcases p i hi r u with v|v
   .have o:=I.vis i v r
    obtain⟨b,j,z⟩:=NF (I.inq i o);have:=B b j;rw[z]at this;exact⟨o,this⟩
   .have o:=(H.inv.mem _ (Az m)).2
    rw[v,I.keep _ o];exact⟨o,by omega⟩
theorem BO.stay{s:BS}(H:BO n may has tch s k)(e:¬k<s.q.length):BO n may has tch s (k+1):=
 ⟨H.inv,H.inq,H.mono,λb _ h=>by omega,H.start,λa d c=>H.done a (by omega) c⟩
theorem Ib:∀i,i<=n->(∀j,1<=au (bI n may has i).far j->j∈(bI n may has i).q/\au (bI n may has i).far j=1)/\∀j,j<i->may j=true->has j=true->au (bI n may has i).far j=1
 |0,_=>by
  refine⟨λj a=>?_,λj a=>by omega⟩
  have m:au (List.replicate n (0:Int)) j=0:=by simp only[au,Wn];split<;>rfl
  simp only[bI,m]at a;omega
 |i+1,hi=>by
  obtain⟨k,l⟩:=Ib i (by omega);have c:=(uv (n:=n) (may:=may) (has:=has) (tch:=λ_ _=>true) i (by omega)).1
  have b:i<(bI n may has i).far.length:=by rw[c.len];omega
  simp only[bI];split
  .rename_i d
   simp only[An]at d;refine⟨λj a=>?_,λj a g f=>?_⟩
   .rw[mt b]at a|-
    split
    .rename_i e;exact⟨by simp[e],rfl⟩
    .rename_i e
     rw[VM e]at a;exact⟨XS _ (k j a).1,(k j a).2⟩
   .rw[mt b]
    split
    .rfl
    .exact l j (by omega) g f
  .rename_i d
   refine⟨k,λj a g f=>?_⟩;by_cases e:j=i
   .subst e;rw[g,f]at d;exact absurd rfl d
   .exact l j (by omega) g f
theorem BO.init:BO n may has tch (bI n may has n) 0:=by
 obtain⟨e,j⟩:=Ib (n:=n) (may:=may) (has:=has) n (VU _);have c:=(uv (n:=n) (may:=may) (has:=has) (tch:=tch) n (VU _)).1;have one:∀a,a<(bI n may has n).q.length->au (bI n may has n).far (cW (bI n may has n) a)=1:=λa f=>(e _ (c.mem _ (Az f)).2).2;refine⟨c,λi hi=>(e i hi).1,λa b k d=>?_,λb d g=>?_,λi hi m l=>j i hi m l,λa f=>by omega⟩
 .rw[one a (by omega),one b d];omega
 .rw[one b d,one 0 g];omega
structure FarOk(n:Nat)(may has:Nat->Bool)(tch:Nat->Nat->Bool)(far:List Int):Prop where
 len:far.length=n
 nn:∀i,0<=au far i
 rng:∀i,1<=au far i->i<n/\may i=true
 start:∀i,i<n->may i=true->has i=true->au far i=1
 back:∀i,1<=au far i->(au far i=1/\has i=true)\/∃p,p<n/\au far p=au far i-1/\1<=au far p/\tch i p=true
 clo:∀p i,1<=au far p->i<n->may i=true->tch i p=true->1<=au far i/\au far i<=au far p+1
theorem BO.fin{s:BS}(H:BO n may has tch s k)(e:s.q.length<=k):FarOk n may has tch s.far:=by
 refine⟨H.inv.len,H.inv.nn,λi hi=>⟨?_,H.inv.may' i hi⟩,H.start,H.inv.back,λp i hp hi c d=>?_⟩
 .exact(H.inv.mem i (H.inq i hi)).1
 .obtain⟨a,b,rfl⟩:=NF (H.inq p hp)
  exact H.done a (by omega) b i hi c d
theorem Dw(h:FarOk n may has tch far)(h':FarOk n may has tch' far')(j:∀i p,i<n->may i=true->p<n->may p=true->i≠p->tch i p=true->tch' i p=true):∀(m:Nat) i,(m:Int)=au far i->1<=au far i->1<=au far' i/\au far' i<=au far i:=by
 intro m
 induction m using Nat.strongRecOn with
 |_ m ih=>
  intro i r hi;obtain⟨b,c⟩:=h.rng i hi;rcases h.back i hi with⟨e,g⟩|⟨p,s,k,d,l⟩
  .have:=h'.start i b c g
   omega
  .obtain⟨o,u⟩:=ih (m-1) (by omega) p (by omega) d
   have hp:=h.rng p d
   have a:i≠p:=λe=>by rw[e]at k;omega
   obtain⟨f,q⟩:=h'.clo p i o b c (j i p b c hp.1 hp.2 a l);exact⟨f,by omega⟩
theorem GC(h:FarOk n may has tch far)(h':FarOk n may has tch' far')(j:∀i p,i<n->may i=true->p<n->may p=true->i≠p->(tch i p=true↔tch' i p=true)):far=far':=by
 have e:∀i,au far i=au far' i:=by
  intro i;have a:=h.nn i;have b:=h'.nn i;by_cases f:1<=au far i
  .have k:=Dw h h' (λi p a b c d e=>(j i p a b c d e).1) (au far i).toNat i (by omega) f
   have l:=Dw h' h (λi p a b c d e=>(j i p a b c d e).2) (au far' i).toNat i (by omega) k.1;omega
  .by_cases g:1<=au far' i
   .have l:=Dw h' h (λi p a b c d e=>(j i p a b c d e).2) (au far' i).toNat i (by omega) g
    omega
   .omega
 apply WA;intro i;by_cases hi:i<n
 .have f:i<far.length:=by rw[h.len];exact hi
  have g:i<far'.length:=by rw[h'.len];exact hi
  have:=e i;simp only[au,an f,an g,V5]at this;rw[an f,an g,this]
 .rw[VW (by rw[h.len];omega),VW (by rw[h'.len];omega)]
theorem Ic{s:BS}{k:Nat}(hs:BInv2 n may has tch s)(c:k<s.q.length):∀i,i<=n->Vis may k s ((List.range i).filter λj=>tch j (cW s k)) (bJ may tch s k i)
 |0,_=>.nil
 |i+1,hi=>by
  have ih:=Ic hs c i (by omega);have hq:=(AM hs c i (by omega)).2.2;rw[Xk,XI];simp only[bJ]
  cases b:tch i (cW s k)with
  |true=>
   rw[show List.filter (λj=>tch j (cW s k)) [i]=[i] by simp[b]];split
   .rename_i a
    simp only[yR,An,WK]at a;exact .hit ih a.1.1 a.1.2
   .rename_i a
    refine .miss ih λd=>?_;rw[<-Bool.not_eq_true];intro e;exact a (by simp[yR,d,e,hq,b])
  |false=>
   rw[show List.filter (λj=>tch j (cW s k)) [i]=[] by simp[b],X1];rw[VM (by simp[yR,hq,b])];exact ih
theorem Id:∀k,BO n may has tch (bK n may has tch k) k
 |0=>BO.init
 |k+1=>by
  have ih:=Id k;simp only[bK];split
  .rename_i a
   refine ih.step a (Ic ih.inv a n (VU _)) (λi hi=>?_) (λi hi c b=>.inl ?_)
   .simp only[WX,Wz]at hi;exact hi
   .simp only[WX,Wz];exact⟨hi,b⟩
  .rename_i a;exact ih.stay a
theorem AA:FarOk n may has tch (bK n may has tch n).far:=(Id n).fin (sE n).le
variable (n may has)
def gT(s:BS)(k:Nat)(l:List Nat):Nat->BS
 |0=>s
 |j+1=>match l[j]? with
  |some i=>if(au (gT s k l j).far i==0)&&may i then qu (gT s k l j) k i else gT s k l j
  |none=>gT s k l j
def gK(nb:Nat->List Nat):Nat->BS
 |0=>bI n may has n
 |k+1=>if k<(gK nb k).q.length then gT may (gK nb k) k (nb (cW (gK nb k) k)) (nb (cW (gK nb k) k)).length else gK nb k
variable {n may has}
theorem Dx{s:BS}{k:Nat}{l:List Nat}:∀j,j<=l.length->Vis may k s (l.take j) (gT may s k l j)
 |0,_=>.nil
 |j+1,e=>by
  have ih:=Dx (s:=s) (k:=k) (l:=l) j (by omega);have c:l[j]?=some l[j]:=an (by omega);rw[WF (by omega)];simp only[gT,c];split
  .rename_i a
   simp only[An,WK]at a;exact .hit ih a.1 a.2
  .rename_i a
   refine .miss ih λb=>?_;rw[<-Bool.not_eq_true];intro d;exact a (by simp[b,d])
def A9(nb:Nat->List Nat)(i p:Nat):Bool:=(nb p).contains i
theorem Dy{nb:Nat->List Nat}(a:∀p i,i∈nb p->i<n):∀k,BO n may has (A9 nb) (gK n may has nb k) k
 |0=>BO.init
 |k+1=>by
  have ih:=Dy a k;simp only[gK];split
  .rename_i b
   have c:=Dx (may:=may) (s:=gK n may has nb k) (k:=k) (l:=nb (cW (gK n may has nb k) k)) _ (VU _);rw[XW]at c;refine ih.step b c (λi hi=>⟨a _ i hi,?_⟩) (λi hi e d=>.inl ?_)
   .simpa[A9]using hi
   .simpa[A9]using d
  .rename_i b;exact ih.stay b
theorem NG(f:∀p i,i∈nb p->i<n)(h:∀i p,i<n->may i=true->p<n->may p=true->i≠p->(i∈nb p↔tch i p=true))(g:(gK n may has nb k).q.length<=k):(gK n may has nb k).far=(bK n may has tch n).far:=
 GC ((Dy f k).fin g) AA λi p a b c d e=>by rw[<-h i p a b c d e];simp[A9]
def nP(far:List Int)(m:Int)(l:List Nat):Nat->Int
 |0=>-1
 |j+1=>match l[j]? with
  |some k=>if(au far k==m)&&(nP far m l j==-1||decide ((k:Int)<nP far m l j))then(k:Int)else nP far m l j
  |none=>nP far m l j
theorem Dz{far:List Int}{m:Int}{l:List Nat}:∀j,j<=l.length->-1<=nP far m l j/\(0<=nP far m l j->au far (nP far m l j).toNat=m/\(nP far m l j).toNat∈l)/\∀k∈l.take j,au far k=m->0<=nP far m l j/\nP far m l j<=(k:Int)
 |0,_=>by simp[nP]
 |j+1,g=>by
  obtain⟨d,e,c⟩:=Dz (far:=far) (m:=m) (l:=l) j (by omega);have f:l[j]?=some l[j]:=an (by omega);rw[WF (by omega)];simp only[nP,f];split
  .rename_i b
   simp only[An,WL,WK,L4]at b;refine⟨by omega,λ_=>⟨by rw[V7];exact b.1,by rw[V7];exact Wb _⟩,λk a hf=>⟨by omega,?_⟩⟩;rcases V4.1 a with a|a
   .have:=c k a hf
    omega
   .rw[Wu.1 a];omega
  .rename_i b
   refine⟨d,e,λk a hf=>?_⟩;rcases V4.1 a with a|a
   .exact c k a hf
   .rw[Wu.1 a]at hf|-
    simp only[An,WL,WK,L4,not_and,not_or]at b;have:=b hf;omega
theorem DA{far:List Int}{a:Nat}:∀m,m<=n->∀i,i<n->n-m<=i->nC far tch a i=true->0<=nS n far tch a m/\nS n far tch a m<=(i:Int)
 |0,_,i,c,d,_=>by omega
 |m+1,g,i,c,d,b=>by
  simp only[nS];split
  .exact⟨by omega,by omega⟩
  .rename_i f
   by_cases e:i=n-1-m
   .rw[e]at b;exact absurd b f
   .exact DA m (by omega) i c (by omega) b
theorem Pr{a:Nat}{l:List Nat}(g:∀i∈l,i<n)(h:∀i,i<n->au far i=au far a-1->(i∈l↔tch i a=true)):nP far (au far a-1) l l.length=nS n far tch a n:=by
 obtain⟨p,j,b⟩:=Dz (far:=far) (m:=au far a-1) (l:=l) l.length (VU _);rw[XW]at b;have q:=ED (n:=n) (tch:=tch) (far:=far) (at_:=a) n (VU _);have k:=λi=>DA (tch:=tch) (far:=far) (a:=a) n (VU _) i;by_cases e:0<=nP far (au far a-1) l l.length
 .obtain⟨c,d⟩:=j e
  have hi:=g _ d
  have hn:nC far tch a (nP far (au far a-1) l l.length).toNat=true:=by
   simp only[nC,An,WK];exact⟨c,(h _ hi c).1 d⟩
  obtain⟨o,r⟩:=k _ hi (by omega) hn;obtain⟨t1,t2⟩:=q.1 o;simp only[nC,An,WK]at t2;have:=b _ ((h _ t1 t2.1).2 t2.2) t2.1;omega
 .by_cases f:0<=nS n far tch a n
  .obtain⟨t1,t2⟩:=q.1 f
   simp only[nC,An,WK]at t2;have:=b _ ((h _ t1 t2.1).2 t2.2) t2.1;omega
  .have:=q.2.2
   omega
def kG(far:List Int)(nb:Nat->List Nat)(a:Nat):Nat->Nat
 |0=>a
 |r+1=>(nP far (au far a-1-r) (nb (kG far nb a r)) (nb (kG far nb a r)).length).toNat
def sV(n:Nat)(far:List Int)(nb:Nat->List Nat)(hasF:Nat->Bool):List Nat×Bool:=
 if 0<=aS far hasF n then((List.range (au far (aS far hasF n).toNat).toNat).map (kG far nb (aS far hasF n).toNat),true)else([],false)
theorem Ie(hF:far=(bK n may has tch n).far)(b:∀i j,i<n->j<n->tch i j=tch j i)(f:∀p i,i∈nb p->i<n)(h:∀i p,i<n->may i=true->p<n->may p=true->i≠p->(i∈nb p↔tch i p=true)){a:Nat}(o:a<n)(m:0<au far a):
 ∀r:Nat,(r:Int)<au far a->kG far nb a r=pS n far tch a r/\kG far nb a r<n/\au far (kG far nb a r)=au far a-r/\((r:Int)+1<au far a->0<=nP far (au far a-1-r) (nb (kG far nb a r)) (nb (kG far nb a r)).length):=by
 subst hF;have d:=sE (n:=n) (may:=may) (has:=has) (tch:=tch) n;have l:=AA (n:=n) (may:=may) (has:=has) (tch:=tch);generalize bK n may has tch n=s at *
 have next:∀r:Nat,(r:Int)+1<au s.far a->nP s.far (au s.far a-1-r) (nb (pS n s.far tch a r)) (nb (pS n s.far tch a r)).length=nS n s.far tch (pS n s.far tch a r) n:=by
  intro r c;obtain⟨k,q⟩:=yh d b o m r (by omega);rw[show au s.far a-1-r=au s.far (pS n s.far tch a r)-1 by omega];have hp:=l.rng (pS n s.far tch a r) (by omega);refine Pr (λi hi=>f _ i hi) λi hi hf=>?_;have u:=l.rng i (by omega);exact h i _ hi u.2 hp.1 hp.2 (λe=>by rw[e]at hf;omega)
 have main:∀r:Nat,(r:Int)<au s.far a->kG s.far nb a r=pS n s.far tch a r:=by
  intro r
  induction r with
  |zero=>exact λ_=>rfl
  |succ r ih=>
   intro c;have e:=ih (by omega);simp only[kG,pS,Cl];rw[e,next r (by omega)]
 intro r c;obtain⟨k,q⟩:=yh d b o m r c;rw[main r c];refine⟨rfl,k,q,λg=>?_⟩;rw[next r g];have:=(AN d b k (by omega)).1;omega
theorem JM(a:∀i j,i<n->j<n->tch i j=tch j i)(c:∀p i,i∈nb p->i<n)(h:∀i p,i<n->may i=true->p<n->may p=true->i≠p->(i∈nb p↔tch i p=true)):
 sV n (bK n may has tch n).far nb hasF=(eM n may has hasF tch,dq n may has hasF tch):=by
 have f:=xm (hasF:=hasF) (far:=(bK n may has tch n).far) n;unfold sV eM dq mu;by_cases b:0<=aS (bK n may has tch n).far hasF n
 .obtain⟨e,_⟩:=f.2.2 b
  simp only[b,XP,V8];refine Prod.ext ?_ rfl;refine List.map_congr_left λr d=>?_;have d:=Wz.1 d;exact(Ie rfl a c h (by omega) e r (by omega)).1
 .simp only[b,decide_false,VP,VZ]
end
theorem NH(s:Spc)(i:Nat)(hi:i<s.cells.length):aH 89 (nO s) (Z i) (Z (av s i).v.kind):=by
 have a:s.cells[i]?=some s.cells[i]:=an hi
 have d:av s i=s.cells[i]:=by simp[av,a]
 rw[d];generalize b:s.cells[i]=c at *;refine Dp func89 λC hP hN=>?_;exact Gy
structure SpcOk(s:Spc)(m:Nat):Prop where
 n:m<=2048
 c:s.cells.length=m
 b:s.bx.length=m
 r:s.near.length=m
 j:s.jn.length=m
 bl:∀b∈s.bx,b.length<=9223372036854775807
 lf:∀p i,i∈ab s p->i<m/\(av s i).low=-1
 nl:∀p,(ab s p).length<=4096
theorem Mk(s:Spc)(p q:List Int)(g:FuncId):EG 83 (nO s) (zs p) (zs q) (.val (.func (.func g) #[] #[])) (.agg [nO s,zs p,zs q,.val (.func (.func g) #[] #[])]):=by
 refine Dp func83 λC hP hN=>?_;exact Gy
theorem JO(s:Spc)(n:Nat)(p q:List Int)(g:FuncId)(f:Int->Int->Bool)(tch:Nat->Nat->Bool)(hs:SpcOk s n)(er:q.length<=9223372036854775807)(a7:∀k j:Int,aQ prog g [.pv (Z k),.pv (Z j)] [] [] (.pv (B (f k j))))(ar:∀i p,i<n->cF s f i=true->p<n->cF s f p=true->i≠p->(i∈ab s p↔tch i p=true)):bh 141 (.agg [nO s,zs p,zs q,.val (.func (.func g) #[] #[])]) (.sl ((bK n (cF s f) (aG s.bx q) tch n).far.map Z)):=by
 have hb:∀i,i<n->s.bx[i]?=some (gv s.bx i):=λi hi=>by
  have:i<s.bx.length:=by rw[hs.b];exact hi
  simp[gv,an this]
 have ck:=λ(i:Nat)(hi:i<s.cells.length)=>NH s i hi;have cH:=λ(i:Nat)(hi:i<n)=>Ns (gv s.bx i) q (hs.bl _ (Is (hb i hi)));have cS:∀i,i<n->aQ prog 142 [.pv (iv (gv s.bx i)),.pv (zs q)] [] [] (.pv (B (aG s.bx q i))):=cH;have c8:=λ{k:Nat}(hk:(gK n (cF s f) (aG s.bx q) (ab s) k).q.length<=k)=>NG (λp i hi=>(hs.lf p i hi).1) ar hk;have cx:=Dy (n:=n) (may:=cF s f) (has:=aG s.bx q) (nb:=ab s) (λp i hi=>(hs.lf p i hi).1);have c5:=hs.b;have c7:=hs.c;have D:=hs.j;have ep:=hs.r;have hn:=hs.n;have cq:=hs.lf;have cw:=hs.nl;have cr:∀i,cF s f i=(decide ((av s i).low=-1)&&f (av s i).v.kind (dc s i)):=λi=>rfl
 have ch:∀i,i<n->s.cells[i]?=some (av s i):=λi hi=>by
  have:i<s.cells.length:=by omega
  simp[av,an this]
 have cp:∀i,i<n->s.jn[i]?=some (dc s i):=λi hi=>by
  have:i<s.jn.length:=by omega
  simp[dc,an this]
 clear cH ar;generalize ec:aG s.bx q=has at *;generalize en:cF s f=may at *;refine Dp func141 λC hP hN=>?_;refine sN [4] (f7 c5 (show(8:Int)*n<=281474976710656 by omega) (show(n:Int)<=281474976710656 by omega) (show(n:Int)<=9223372036854775807 by omega)) ?_;refine WP.loopN [6] n (λi st=>st.t 1=.ptr 1 0/\st.t 3=.arr 16 n/\st.t 4=.arr 4 (bI n may has i).q.length/\st.t 22=.pv (.sl (s.cells.map bw))/\st.t 23=.pv (Z n)/\st.t 24=.pv (Z i)/\st.h 1=some (.box [.pv (nO s),.pv (zs p),.pv (zs q),.pv (.val (.func (.func g) #[] #[]))] true false)/\st.h 4=some (.row 3 1 ((bI n may has i).q.map zN) 0)/\st.h 16=some (.row 3 1 ((bI n may has i).far.map Z) 0)/\st.h 6=none) (by simp[bI,c7]) ?_;rintro i st hi ⟨g1,g3,g4,b3,b5,b7,K,F,z,b6⟩;obtain⟨hI,cU⟩:=uv (n:=n) (may:=may) (has:=has) (tch:=tch) i hi;have eb:=hI.le;have cj:=hI.len;by_cases m:i<n
 .have hw:=aj m (by omega)
  have bs:i<s.cells.length:=by omega
  have I:=ch i m;have G:=bP I bs
  have cn:i<s.jn.length:=by omega
  have J:=cp i m;have H:=bP J cn
  have cm:i<s.bx.length:=by omega
  have cf:=hb i m;have cg:=bP cf cm
  have a:bI n may has (i+1)=if may i&&has i then⟨(bI n may has i).far.set i 1,(bI n may has i).q++[i]⟩else bI n may has i:=rfl
  have c1:=ck i bs;have c2:=a7 (av s i).v.kind (dc s i);have c3:=cS i m;have u:=cr i;generalize bI n may has i=S at *;generalize av s i=c at *;generalize dc s i=jj at *;by_cases L:c.low=-1
  .have a6:(c.low==-1)=true:=by simp[L]
   rw[Wv L,We]at u
   cases hf:f c.v.kind jj with
   |false=>
    rw[hf]at c2 u;rw[u,Ww,VM (by simp)]at a;exact Gy
    all_goals simp[a]
   |true=>
    rw[hf]at c2 u
    cases hh:has i with
    |false=>
     rw[hh]at c3;rw[u,hh,VM (by simp)]at a;exact Gy
     all_goals simp[a]
    |true=>
     rw[hh]at c3;rw[u,hh,VS (by simp)]at a
     with_reducible repeat' (first|refine Sp.h ?_|((first|refine Wd ?_|refine Ss.h ?_|refine Sc.h (c1) ?_|refine Sc.h (c2) ?_|refine Sc.h (c3) ?_|(refine Sb.h ?_ ?_ ?_<;>(try intro hgd)<;>try exact Xy))<;>simp -implicitDefEqProofs (maxSteps:=2000000) [hP,hN,g1,g3,g4,b3,b5,b7,K,F,z,b6,m,hw,bs,I,G,cn,J,H,cm,cf,cg,L,a6,cj,show(S.q.length+1)*8<=140737488355328 by omega,show S.q.length+1<=9223372036854775807 by omega]<;>try refine Ya ?_)|refine X2 ?_ ?_|(refine Xd ?_ ?_<;>intro hcd<;>try exact Xx))
     all_goals simp[a,Xs]
  .have a6:(c.low==-1)=false:=by simp[L]
   rw[WW L,Ww]at u;rw[u,Ww,VM (by simp)]at a;exact Gy
   all_goals simp[a]
 have c9:i=n:=by omega
 subst c9;clear cU hI;refine Gz ?_;refine WP.toSuf 4 (k:=4) (e:=3) (sz:=1) (fz:=0) (xs:=(bI i may has i).q.map zN) (by simp[F]) (by simp[g4]) ?_
 refine WP.loopN [] i (λk st=>∃o xs,st.t 1=.ptr 1 0/\st.t 3=.arr 16 i/\st.t 4=.ext (.suf 4 o ((gK i may has (ab s) k).q.length-k) (o+((gK i may has (ab s) k).q.length-k)))/\xs.length=o+((gK i may has (ab s) k).q.length-k)/\xs.drop o=((gK i may has (ab s) k).q.drop k).map zN/\k<=(gK i may has (ab s) k).q.length/\st.h 1=some (.box [.pv (nO s),.pv (zs p),.pv (zs q),.pv (.val (.func (.func g) #[] #[]))] true false)/\st.h 4=some (.row 3 1 xs 0)/\st.h 16=some (.row 3 1 ((gK i may has (ab s) k).far.map Z) 0)) (by
  refine⟨0,(bI i may has i).q.map zN,?_⟩
  simp[gK,g1,g3,K,F,z,ag]) ?_
 clear g1 g3 g4 b3 b5 b7 K F z b6 st hi m;rintro k st hk ⟨o,xs,g1,g3,g4,y,E,ek,K,F,z⟩;have hO:=cx k;have hI:=hO.inv;have eb:=hI.le;have cj:=hI.len;have a2:=c8 (k:=k);by_cases m:k<(gK i may has (ab s) k).q.length
 .have cB:gK i may has (ab s) (k+1)=gT may (gK i may has (ab s) k) k (ab s (cW (gK i may has (ab s) k) k)) (ab s (cW (gK i may has (ab s) k) k)).length:=by simp only[gK];rw[VS m]
  rw[cB];clear a2 cB;generalize gK i may has (ab s) k=S at *;have ee:=hI.mem _ (Az m);generalize hQ:cW S k=Q at *
  have cz:S.q[k]?=some Q:=by
   have:S.q[k]?=some (cW S k):=by simp[cW,an m]
   rw[this,hQ]
  have N:xs[o]?=some (zN Q):=by
   have h9:=Xq (λl:List PV=>l[0]?) E;simp only[WO,VN,X9]at h9;rw[h9,cz];rfl
  have W:o<xs.length:=(th.1 N).1;have O:=bP N W
  have cb:Q<s.near.length:=by omega
  have b0:s.near[Q]?=some (ab s Q):=by simp[ab,an cb]
  have cu:=bP b0 cb
  have M:0<S.q.length-k:=by omega
  with_reducible repeat' (first|refine Sp.h ?_|((with_unfolding_all refine WP.sufAt (hn:=[]) (d:=77) 1 rfl rfl rfl rfl ?_);simp -implicitDefEqProofs (maxSteps:=2000000) [hP,hN,g1,g3,g4,y,K,F,z,M,N,W,O])|((first|refine Wd ?_|refine Ss.h ?_|(refine Sb.h ?_ ?_ ?_<;>(try intro hgd)<;>try exact Xy))<;>simp -implicitDefEqProofs (maxSteps:=2000000) [hP,hN,g1,g3,g4,y,K,F,z,M,N,W,O]<;>try refine Ya ?_)|refine X2 ?_ ?_|(refine Xd ?_ ?_<;>intro hcd<;>try exact Xx))
  refine⟨4,3,1,S.q.length-k,1,o,.i64,0,xs,_,3,8,_,by simp[St.ev,g4],by simp[St.ev],by simp[F],y,by omega,by rw[hP];exact O7,rfl,by omega,by omega,?_⟩;simp -implicitDefEqProofs (maxSteps:=2000000) [hP,hN];refine Gz ?_
  have a8:xs.drop (o+1)=(S.q.drop (k+1)).map zN:=by
   have h9:=Xq (List.drop 1) E;rw[List.drop_drop,<-YE,List.drop_drop]at h9;exact h9
  have bH:∀x∈ab s Q,x<i/\A9 (ab s) x (cW S k)=true/\(av s x).low=-1:=λx P=>⟨(cq Q x P).1,by rw[hQ];simp[A9,P],(cq Q x P).2⟩;clear b0 cu N O cz;have el:=cw Q;generalize ab s Q=l at *
  refine WP.loopN [] l.length (λj st=>∃o xs,st.t 1=.ptr 1 0/\st.t 3=.arr 16 i/\st.t 7=.pv (Z Q)/\st.t 85=.pv (vZ l)/\st.t 86=.pv (Z l.length)/\st.t 87=.pv (Z j)/\st.t 4=.ext (.suf 4 o ((gT may S k l j).q.length-(k+1)) (o+((gT may S k l j).q.length-(k+1))))/\xs.length=o+((gT may S k l j).q.length-(k+1))/\xs.drop o=((gT may S k l j).q.drop (k+1)).map zN/\st.h 1=some (.box [.pv (nO s),.pv (zs p),.pv (zs q),.pv (.val (.func (.func g) #[] #[]))] true false)/\st.h 4=some (.row 3 1 xs 0)/\st.h 16=some (.row 3 1 ((gT may S k l j).far.map Z) 0)) (by
   refine⟨o+1,xs,?_⟩
   have e1:S.q.length-k-1=S.q.length-(k+1):=by omega
   have e2:o+(S.q.length-k)=o+1+(S.q.length-(k+1)):=by omega
   simp only[gT];rw[<-e2,<-e1]
   simp[ag,g1,g3,K,F,z,y,a8]) ?_
  clear g1 g3 g4 K F z y E a8 W M st;clear o xs;rintro j st hj ⟨o,xs,g1,g3,g7,b8,b9,ca,g4,y,E,K,F,z⟩;have V:=Fp hI m hO.inq (Dx (may:=may) (s:=S) (k:=k) (l:=l) j hj) (λx P=>⟨(bH x (XR P)).1,(bH x (XR P)).2.1⟩);have ei:=V.inv.le;have cd:=V.inv.len;have ba:=V.qs k m;have ef:=V.le;have cV:=V.inv.nn;have c0:=V.inv.top;have bb:=V.inv.mem _ (Az (WM m V.le));rw[ba,hQ]at bb;rw[hQ]at ba;by_cases D:j<l.length
  .have cN:=aj D (by omega)
   have P:l[j]?=some l[j]:=an D
   have a:gT may S k l (j+1)=if(au (gT may S k l j).far l[j]==0)&&may l[j]then qu (gT may S k l j) k l[j]else gT may S k l j:=by simp only[gT,P]
   obtain⟨ad,_,cQ⟩:=bH _ (Wb D);clear V;generalize gT may S k l j=T at *;generalize cP:l[j]=x at *
   have X:x<s.cells.length:=by omega
   have I:=ch x ad;have G:=bP I X
   have b2:x<s.jn.length:=by omega
   have J:=cp x ad;have H:=bP J b2;have c1:=ck x X;have c2:=a7 (av s x).v.kind (dc s x);have u:=cr x;rw[Wv cQ,We]at u
   have Y:x<T.far.length:=by omega
   have bq:T.far[x]?=some (au T.far x):=by simp[au,an Y]
   have a5:=bP bq Y
   have R:Q<T.far.length:=by omega
   have bc:T.far[Q]?=some (au T.far Q):=by simp[au,an R]
   have a1:=bP bc R
   have c4:qu T k x=⟨T.far.set x (au T.far Q+1),T.q++[x]⟩:=by simp only[qu,ba]
   have et:=c0 Q;have b0:=cV Q;have cM:i64.wrap (au T.far Q+1)=au T.far Q+1:=aa;rw[c4]at a;generalize av s x=cc at *;generalize dc s x=jj at *;generalize au T.far Q=fQ at *;by_cases U:au T.far x=0
   .have A:(au T.far x==0)=true:=by simp[U]
    rw[A,We]at a
    cases ct:f cc.v.kind jj with
    |false=>
     rw[ct]at c2 u;rw[u,VM (by simp)]at a;rw[a];exact Gy
     all_goals simp[y,E,D]
    |true=>
     rw[ct]at c2 u;rw[u,VS rfl]at a;rw[a]
     with_reducible repeat' (first|refine Sp.h ?_|((with_unfolding_all refine WP.appSAt (hn:=[]) (d:=124) 3 rfl rfl rfl rfl ?_);simp -implicitDefEqProofs (maxSteps:=2000000) [hP,hN,g1,g3,g7,b8,b9,ca,g4,y,K,F,z,D,cN,P,cP,X,I,G,b2,J,H,Y,bq,a5,cd,ad,bb.1,U,A,R,bc,a1,cM])|((first|refine Wd ?_|refine Ss.h ?_|refine Sc.h (c1) ?_|refine Sc.h (c2) ?_|(refine Sb.h ?_ ?_ ?_<;>(try intro hgd)<;>try exact Xy))<;>simp -implicitDefEqProofs (maxSteps:=2000000) [hP,hN,g1,g3,g7,b8,b9,ca,g4,y,K,F,z,D,cN,P,cP,X,I,G,b2,J,H,Y,bq,a5,cd,ad,bb.1,U,A,R,bc,a1,cM]<;>try refine Ya ?_)|refine X2 ?_ ?_|(refine Xd ?_ ?_<;>intro hcd<;>try exact Xx))
     refine⟨4,o,T.q.length-(k+1),3,1,xs,[zN x],_,8,.int .i64 0,by simp[St.ev,g4],by simp[F],y,by simp[St.ev],by simp[qJ,lu],by simp,by rw[hP];exact O7,rfl,by omega,rfl,by simp;omega,by simp;omega,by omega,by omega,by omega,?_⟩;intro o' ez e1 e2;simp -implicitDefEqProofs (maxSteps:=2000000) [hP,hN];refine Gz ?_
     have ea:k+1<=T.q.length:=by omega
     simp only[WT]at e1;refine⟨o',⟨rfl,by omega,by omega⟩,by omega,?_⟩;rw[e2,E,Yn (by simpa using ea),YE]
   .have A:(au T.far x==0)=false:=by simp[U]
    rw[A,Ww,VM (by simp)]at a;rw[a];exact Gy
    all_goals simp[y,E,D]
  .have dd:j=l.length:=by omega
   subst dd;refine Gz ?_;exact⟨by omega,xs,y,by rw[E,YE],by omega,rfl⟩
 .have hF:=a2 (by omega)
  have hz:(gK i may has (ab s) k).q.length-k=0:=by omega
  rw[hF]at z;rw[hz]at g4 y;refine Gz ?_;exact AA.len
theorem GH(f:Nat->α)(r:Nat):(List.range r).map f++[f r]=(List.range (r+1)).map f:=by
 rw[Xk,XZ];rfl
theorem NI(s:Spc)(n:Nat)(p q:List Int)(g:FuncId)(f:Int->Int->Bool)(tch:Nat->Nat->Bool)(hs:SpcOk s n)(cx:p.length<=9223372036854775807)(cj:q.length<=9223372036854775807)(a8:∀k j:Int,aQ prog g [.pv (Z k),.pv (Z j)] [] [] (.pv (B (f k j))))(V:∀i j,i<n->j<n->tch i j=tch j i)(u:∀i p,i<n->cF s f i=true->p<n->cF s f p=true->i≠p->(i∈ab s p↔tch i p=true)):bh 84 (.agg [nO s,zs p,zs q,.val (.func (.func g) #[] #[])]) (.tup [vZ (eM n (cF s f) (aG s.bx q) (aG s.bx p) tch),B (dq n (cF s f) (aG s.bx q) (aG s.bx p) tch)]):=by
 have cl:=JO s n p q g f tch hs cj a8 u
 have hb:∀i,i<n->s.bx[i]?=some (gv s.bx i):=λi hi=>by
  have:i<s.bx.length:=by rw[hs.b];exact hi
  simp[gv,an this]
 have cH:=λ(i:Nat)(hi:i<n)=>Ns (gv s.bx i) p (hs.bl _ (Is (hb i hi)));have b2:∀i,i<n->aQ prog 142 [.pv (iv (gv s.bx i)),.pv (zs p)] [] [] (.pv (B (aG s.bx p i))):=cH;clear cH;have hE:=JM (n:=n) (may:=cF s f) (has:=aG s.bx q) (hasF:=aG s.bx p) V (λp i hi=>(hs.lf p i hi).1) u;have a5:=λ{a:Nat}=>Ie (n:=n) (may:=cF s f) (has:=aG s.bx q) (a:=a) rfl V (λp i hi=>(hs.lf p i hi).1) u;have hF:=AA (n:=n) (may:=cF s f) (has:=aG s.bx q) (tch:=tch);have ct:=hs.b;have ch:=hs.r;have hn:=hs.n;have cf:=hs.lf;have ba:=hs.nl;have hT:=(sE (n:=n) (may:=cF s f) (has:=aG s.bx q) (tch:=tch) n).top;have b4:=(sE (n:=n) (may:=cF s f) (has:=aG s.bx q) (tch:=tch) n).le;rw[show eM n (cF s f) (aG s.bx q) (aG s.bx p) tch=(sV n (bK n (cF s f) (aG s.bx q) tch n).far (ab s) (aG s.bx p)).1 by rw[hE],show dq n (cF s f) (aG s.bx q) (aG s.bx p) tch=(sV n (bK n (cF s f) (aG s.bx q) tch n).far (ab s) (aG s.bx p)).2 by rw[hE]];clear hE u
 have b0:∀i,au (bK n (cF s f) (aG s.bx q) tch n).far i<=n:=λi=>by have:=hT i;omega
 clear hT b4;generalize(bK n (cF s f) (aG s.bx q) tch n).far=F at *;generalize aG s.bx p=hasF at *;have b3:=hF.len;have cr:=hF.nn
 have Q:∀i,i<n->F[i]?=some (au F i):=λi hi=>by simp[au,an (by omega:i<F.length)]
 refine Dp func84 λC hP hN=>?_;refine Gz ?_;refine WP.loopN [] n (λi st=>st.t 1=.ptr 1 0/\st.t 4=.pv (.sl (F.map Z))/\st.t 5=.pv (Z (aS F hasF i))/\st.t 15=.pv (.sl (F.map Z))/\st.t 16=.pv (Z n)/\st.t 17=.pv (Z i)/\st.h 1=some (.box [.pv (nO s),.pv (zs p),.pv (zs q),.pv (.val (.func (.func g) #[] #[]))] true false)/\st.h 54=none) (by simp[aS,b3]) ?_;rintro i st hi ⟨g1,g4,g5,ar,a1,a2,z,c⟩;have hA:=xm (hasF:=hasF) (far:=F) i;by_cases d:i<n
 .have hw:=aj d (by omega)
  have b9:i<F.length:=by omega
  have b7:=Q i d;have cq:=bP b7 b9
  have b8:i<s.bx.length:=by omega
  have b5:=hb i d;have cp:=bP b5 b8;have c3:=b2 i d
  have o:aS F hasF (i+1)=if decide (0<au F i)&&hasF i&&(decide (aS F hasF i<0)||decide (au F i<au F (aS F hasF i).toNat))then(i:Int)else aS F hasF i:=rfl
  rw[o];clear o;by_cases h0:0<au F i
  .rw[Wv h0,We]
   by_cases ha:aS F hasF i<0
   .have D:aS F hasF i=-1:=by omega
    rw[D];rw[D]at g5
    cases hh:hasF i with
    |false=>
     rw[hh]at c3;exact Gy
     all_goals simp
    |true=>
     rw[hh]at c3;exact Gy
     all_goals simp
   .obtain⟨a,M⟩:=Xj (by omega:0<=aS F hasF i)
    rw[M]at hA g5|-
    have O:a<n:=by omega
    have N:a<F.length:=by omega
    have P:=Q a O;have T:=bP P N;rw[V7];by_cases a7:au F i<au F a
    .cases hh:hasF i with
     |false=>
      rw[hh]at c3;exact Gy
      all_goals simp
     |true=>
      rw[hh]at c3;exact Gy
      all_goals (first|(simp[a7];done)|(intros;omega))
    .skip
     refine Gz ?_
     all_goals (first|(simp[a7];done)|(intros;omega))
  .rw[WW h0]
   exact Gy
   all_goals simp
 have ca:i=n:=by omega
 subst ca;by_cases h0:0<=aS F hasF i
 case neg=>
  have D:aS F hasF i=-1:=by omega
  have v:sV i F (ab s) hasF=([],false):=by simp[sV,D]
  rw[v];rw[D]at g5;exact Gy
 obtain⟨a,M⟩:=Xj h0;obtain⟨L,_⟩:=hA.2.2 h0
 have v:sV i F (ab s) hasF=((List.range (au F a).toNat).map (kG F (ab s) a),true):=by simp[sV,M]
 rw[v];rw[M]at g5 hA L;rw[V7]at L
 have O:a<i:=by omega
 have a6:=a5 O L
 have N:a<F.length:=by omega
 have P:=Q a O;have T:=bP P N;have cM:=b0 a;have ck:i64.wrap (au F a-1)=au F a-1:=aa;clear a5 h0 v
 with_reducible repeat' (first|refine Sp.h ?_|((first|refine Wh [54] ?_|refine Wi [54] ?_|refine Ss.h ?_|(refine Sb.h ?_ ?_ ?_<;>(try intro hgd)<;>try exact Xy))<;>simp -implicitDefEqProofs (maxSteps:=2000000) [hP,hN,g1,g4,g5,ar,a1,a2,z,c,d,N,P,T,ck]<;>try refine Ya ?_)|refine X2 ?_ ?_|(refine Xd ?_ ?_<;>intro hcd<;>try exact Xx))
 refine WP.loopN [] (au F a).toNat (λr st=>st.t 1=.ptr 1 0/\st.t 4=.pv (.sl (F.map Z))/\st.t 5=.pv (Z (kG F (ab s) a r:Int))/\st.t 8=.arr 54 (r+1)/\st.t 9=.pv (Z (au F a-1-r))/\st.h 1=some (.box [.pv (nO s),.pv (zs p),.pv (zs q),.pv (.val (.func (.func g) #[] #[]))] true false)/\st.h 54=some (.row 3 1 ((List.range (r+1)).map λm=>Z (kG F (ab s) a m:Int)) 0)/\(r:Int)<au F a) (by simp[kG,g1,g4,g5,z,L]) ?_;clear g1 g4 g5 ar a1 a2 z c d st hi;rintro r st hr ⟨g1,g4,g5,K,G,z,c,bq⟩;obtain⟨_,cB,cz,bc⟩:=a6 r bq;by_cases d:0<au F a-1-r
 .have hz:=bc (by omega)
  have o:kG F (ab s) a (r+1)=(nP F (au F a-1-r) (ab s (kG F (ab s) a r)) (ab s (kG F (ab s) a r)).length).toNat:=rfl
  have W:s.near[kG F (ab s) a r]?=some (ab s (kG F (ab s) a r)):=by simp[ab,an (by omega:kG F (ab s) a r<s.near.length)]
  have bb:kG F (ab s) a r<s.near.length:=by omega
  have U:=bP W bb;have cw:=ba (kG F (ab s) a r);have cd:∀x∈ab s (kG F (ab s) a r),x<i:=λx hx=>(cf _ x hx).1;have bs:=GH (λm=>Z (kG F (ab s) a m:Int)) (r+1)
  with_reducible repeat' (first|refine Sp.h ?_|((first|refine Wd ?_|refine Ss.h ?_|(refine Sb.h ?_ ?_ ?_<;>(try intro hgd)<;>try exact Xy))<;>simp -implicitDefEqProofs (maxSteps:=2000000) [hP,hN,g1,g4,g5,K,G,z,c,d,W,bb,U,ch]<;>try refine Ya ?_)|refine X2 ?_ ?_|(refine Xd ?_ ?_<;>intro hcd<;>try exact Xx))
  clear W U a6 bc;generalize cu:ab s (kG F (ab s) a r)=l at *;obtain⟨m,cg⟩:∃m,m=au F a-1-r:=⟨_,rfl⟩;rw[<-cg]at hz o G d;refine WP.loopN [] l.length (λj st=>st.t 1=.ptr 1 0/\st.t 4=.pv (.sl (F.map Z))/\st.t 8=.arr 54 (r+1)/\st.t 9=.pv (Z m)/\st.t 10=.pv (Z (nP F m l j))/\st.t 71=.pv (vZ l)/\st.t 72=.pv (Z l.length)/\st.t 73=.pv (Z j)/\st.h 1=some (.box [.pv (nO s),.pv (zs p),.pv (zs q),.pv (.val (.func (.func g) #[] #[]))] true false)/\st.h 54=some (.row 3 1 ((List.range (r+1)).map λm=>Z (kG F (ab s) a m:Int)) 0)) (by simp[nP,g1,g4,K,G,z,c]) ?_;clear g1 g4 g5 K G z c st;rintro j st hj ⟨g1,g4,K,G,A,H,I,J,z,c⟩;by_cases e:j<l.length
  .have X:=aj e (by omega)
   have hx:l[j]?=some l[j]:=an e;have cn:=cd _ (Wb e)
   have bH:nP F m l (j+1)=if(au F l[j]==m)&&(nP F m l j==-1||decide ((l[j]:Int)<nP F m l j))then(l[j]:Int)else nP F m l j:=by simp only[nP,hx]
   rw[bH];clear bH;generalize ad:l[j]=x at *
   have S:x<F.length:=by omega
   have R:=Q x cn;have E:=bP R S;generalize nP F m l j=y at *;by_cases h1:au F x=m
   .by_cases h2:y=-1
    .subst h2
     exact GS (s7 g1 g4 K G A H I J z c e X hx ad (f7 S R E h1))
     all_goals simp[h1]
    .by_cases h3:(x:Int)<y
     all_goals
      exact GS (s7 g1 g4 K G A H I J z c e X hx ad (go S R E h1 h2 h3))
      all_goals simp[h1,h2,h3]
   .skip
    exact GS (s7 g1 g4 K G A H I J z c e X hx ad (f7 S R E h1))
    all_goals simp[h1]
  .have cb:j=l.length:=by omega
   subst cb;obtain⟨Y,hY⟩:=Xj hz;rw[hY,V7]at o;rw[hY]at A;rw[o]at bs;have cm:i64.wrap (m-1)=m-1:=aa;refine GT (s7 g1 g4 K G A H I J z c e cm o (show(r+1+1)*8<=140737488355328 by omega) (show r+1+1<=9223372036854775807 by omega)) ?_;exact⟨bq,by omega,bs,by omega⟩
 .skip
  refine GT (so g1 g4 g5 K G z c d) ?_;rw[show(au F a).toNat=r+1 by omega];rfl
def uZ(k _:Int):Bool:=k==1
def oY(k _:Int):Bool:=k !=2
def oA(k j:Int):Bool:=k==1||(k==0&&j != -1)
def tH(k j:Int):Bool:=k==1||(k==0&&j==-1)
theorem Up(k j:Int):aH 85 (Z k) (Z j) (B (uZ k j)):=by
 refine Dp func85 λC hP hN=>?_;refine Gz ?_
 all_goals (first|(simp_all[uZ];done)|((try simp_all[uZ])<;>(try omega)<;>grind))
theorem Uq(k j:Int):aH 86 (Z k) (Z j) (B (oY k j)):=by
 refine Dp func86 λC hP hN=>?_;refine Gz ?_
 all_goals (first|(simp_all[oY];done)|((try simp_all[oY])<;>(try omega)<;>grind))
theorem Ur(k j:Int):aH 87 (Z k) (Z j) (B (oA k j)):=by
 unfold oA;by_cases c:k=1
 .have b:(k==1)=true:=by simp[c]
  refine Dp func87 λC hP hN=>?_;exact Gy
  all_goals simp[c]
 .have b:(k==1)=false:=by simp[c]
  by_cases d:k=0
  .have a:(k==0)=true:=by simp[d]
   refine Dp func87 λC hP hN=>?_;exact Gy
   all_goals simp[b,a]
  .have a:(k==0)=false:=by simp[d]
   refine Dp func87 λC hP hN=>?_;exact Gy
   all_goals simp[b,a]
theorem Us(k j:Int):aH 88 (Z k) (Z j) (B (tH k j)):=by
 unfold tH;by_cases c:k=1
 .have b:(k==1)=true:=by simp[c]
  refine Dp func88 λC hP hN=>?_;exact Gy
  all_goals simp[c]
 .have b:(k==1)=false:=by simp[c]
  by_cases d:k=0
  .have a:(k==0)=true:=by simp[d]
   refine Dp func88 λC hP hN=>?_;exact Gy
   all_goals simp[b,a]
  .have a:(k==0)=false:=by simp[d]
   refine Dp func88 λC hP hN=>?_;exact Gy
   all_goals simp[b,a]
structure SpcC(s:Spc)(n:Nat)(tch:Nat->Nat->Bool):Prop where
 ok:SpcOk s n
 sym:∀i j,i<n->j<n->tch i j=tch j i
 cov:∀i p,i<n->(av s i).low=-1->p<n->(av s p).low=-1->i≠p->(i∈ab s p↔tch i p=true)
theorem SpcC.cv(h:SpcC s n tch)(f:Int->Int->Bool):∀i p,i<n->cF s f i=true->p<n->cF s f p=true->i≠p->(i∈ab s p↔tch i p=true):=by
 intro i p hi c hp a b;simp only[cF,An,L4]at c a;exact h.cov i p hi c.1 hp a.1 b
theorem Ut{g:PV}{a b c:List PV}:∀(i j:Nat),([.pv g,.bx 0,.bx 1,.bx 2]:List Arg)[i]?=some (.bx j)->j< [a,b,c].length
 |0,j,h=>by simp at h
 |1,j,h=>by simp at h;subst h;simp
 |2,j,h=>by simp at h;subst h;simp
 |3,j,h=>by simp at h;subst h;simp
 |i+4,j,h=>by simp at h
theorem Lm(s:Spc)(n:Nat)(p q:List Int)(g:FuncId)(f:Int->Int->Bool)(tch:Nat->Nat->Bool)(hs:SpcC s n tch)(b:p.length<=9223372036854775807)(c:q.length<=9223372036854775807)(a:∀k j:Int,aQ prog g [.pv (Z k),.pv (Z j)] [] [] (.pv (B (f k j)))):
 aQ prog 82 [.pv (.val (.func (.func g) #[] #[])),.bx 0,.bx 1,.bx 2] [[nO s],[zs p],[zs q]] [[nO s],[zs p],[zs q]] (.pv (.tup [vZ (eM n (cF s f) (aG s.bx q) (aG s.bx p) tch),B (dq n (cF s f) (aG s.bx q) (aG s.bx p) tch)])):=by
 have e:=Mk s p q g;have l:=NI s n p q g f tch hs.ok b c a hs.sym (hs.cv f);generalize eM n (cF s f) (aG s.bx q) (aG s.bx p) tch=L at *;generalize dq n (cF s f) (aG s.bx q) (aG s.bx p) tch=O at *;refine oV func82 rfl (by kernel_rfl) (by simp[f82]) rfl (by exact Ut) ?_;intro C hP hN;simp only[f82]at hN|-;refine Gz ?_;exact λi d h=>⟨d,h,rfl⟩
def wP(s:Spc)(k:Nat):Bool:=decide ((av s k).v.kind=0)&&decide (dc s k≠-1)
def jU(s:Spc)(c:List Nat):Int×Int×Int:=match c.find? (wP s)with
 |some k=>((k:Int),dc s k,3)
 |none=>(-1,-1,0)
def qd(s:Spc)(n:Nat)(p q:List Int)(tch:Nat->Nat->Bool):Int×Int×Int:=
 if dq n (cF s uZ) (aG s.bx q) (aG s.bx p) tch=true then(-1,-1,1)
 else if dq n (cF s oY) (aG s.bx q) (aG s.bx p) tch=false then(-1,-1,2)
 else if dq n (cF s oA) (aG s.bx q) (aG s.bx p) tch=true then jU s (eM n (cF s oA) (aG s.bx q) (aG s.bx p) tch)
 else if dq n (cF s tH) (aG s.bx q) (aG s.bx p) tch=true then(-1,-1,5)
 else jU s (eM n (cF s oY) (aG s.bx q) (aG s.bx p) tch)
def r4(s:Spc)(c:List Nat)(i:Nat):Prop:=∀j x,j<i->c[j]?=some x->wP s x=false
theorem r4.step{c:List Nat}(h:r4 s c i)(b:c[i]?=some k)(hp:wP s k=false):r4 s c (i+1):=by
 intro j x d a;by_cases e:j=i
 .subst e;rw[b]at a;injection a with a;subst a;exact hp
 .exact h j x (by omega) a
theorem Fq{c:List Nat}(h:r4 s c c.length):jU s c=(-1,-1,0):=by
 have:c.find? (wP s)=none:=by
  rw[W7];intro x b;obtain⟨j,a⟩:=Wt b;rw[h j x (th.1 a).1 a];simp
 rw[jU,this]
theorem DC{c:List Nat}(h:r4 s c i)(b:c[i]?=some k)(hp:wP s k=true):jU s c=((k:Int),dc s k,3):=by
 have:c.find? (wP s)=some k:=by
  obtain⟨hi,rfl⟩:=th.1 b;rw[Yl];refine⟨hp,i,hi,rfl,λj a=>?_⟩;have:=h j _ a (an (by omega));rw[this];rfl
 rw[jU,this]
theorem Fr(a:∀i j,i<n->j<n->tch i j=tch j i):(eM n may has hasF tch).length<=n/\∀k∈eM n may has hasF tch,k<n:=by
 cases h:dq n may has hasF tch with
 |true=>
  obtain⟨_,b,c,_⟩:=ro a h;refine⟨b,λk e=>?_⟩;obtain⟨j,d⟩:=Wt e;exact(c j k d).1
 |false=>simp[eM,h]
theorem Uu(s:Spc)(n:Nat)(p q:List Int)(tch:Nat->Nat->Bool)(hs:SpcC s n tch)(y:p.length<=9223372036854775807)(z:q.length<=9223372036854775807):mW 36 (nO s) (zs p) (zs q) (.tup [Z (qd s n p q tch).1,Z (qd s n p q tch).2.1,Z (qd s n p q tch).2.2]):=by
 have b0:=Lm s n p q 85 uZ tch hs y z Up;have S:=Lm s n p q 86 oY tch hs y z Uq;have b1:=Lm s n p q 87 oA tch hs y z Ur;have b2:=Lm s n p q 88 tH tch hs y z Us;have m1:=Fr (n:=n) (may:=cF s oA) (has:=aG s.bx q) (hasF:=aG s.bx p) hs.sym;have m3:=Fr (n:=n) (may:=cF s oY) (has:=aG s.bx q) (hasF:=aG s.bx p) hs.sym
 have T:qd s n p q tch=if dq n (cF s uZ) (aG s.bx q) (aG s.bx p) tch=true then(-1,-1,1)else if dq n (cF s oY) (aG s.bx q) (aG s.bx p) tch=false then(-1,-1,2)else if dq n (cF s oA) (aG s.bx q) (aG s.bx p) tch=true then jU s (eM n (cF s oA) (aG s.bx q) (aG s.bx p) tch)else if dq n (cF s tH) (aG s.bx q) (aG s.bx p) tch=true then(-1,-1,5)else jU s (eM n (cF s oY) (aG s.bx q) (aG s.bx p) tch):=rfl
 have ad:=hs.ok.c;have ar:=hs.ok.j;have hn:=hs.ok.n;rw[T];clear T hs;generalize eM n (cF s uZ) (aG s.bx q) (aG s.bx p) tch=C0 at *;generalize eM n (cF s oA) (aG s.bx q) (aG s.bx p) tch=e at *;generalize eM n (cF s tH) (aG s.bx q) (aG s.bx p) tch=C2 at *;generalize eM n (cF s oY) (aG s.bx q) (aG s.bx p) tch=f at *;generalize dq n (cF s uZ) (aG s.bx q) (aG s.bx p) tch=U at *;generalize dq n (cF s oA) (aG s.bx q) (aG s.bx p) tch=V at *;generalize dq n (cF s tH) (aG s.bx q) (aG s.bx p) tch=W at *;generalize dq n (cF s oY) (aG s.bx q) (aG s.bx p) tch=X at *
 cases U with
 |true=>
  simp only[V8];refine Dp func36 λC hP hN=>?_;exact Gy
 |false=>
 simp only[VP,VZ]
 cases X with
 |false=>
  simp only[V8];refine Dp func36 λC hP hN=>?_;exact Gy
 |true=>
 simp only[Bool.true_eq_false,VZ]
 cases V with
 |true=>
  simp only[V8];obtain⟨L,l⟩:=m1;refine Dp func36 λC hP hN=>?_;refine Gz ?_;refine WP.loopN [] (e).length (λi st=>st.t 3=.ptr 3 0/\st.h 3=some (.box [.pv (nO s)] true false)/\st.t 47=.pv (vZ (e))/\st.t 48=.pv (Z (e).length)/\st.t 49=.pv (Z i)/\r4 s (e) i) ?_ ?_
  .simp
   exact λj x hj=>by omega
  rintro i st hi ⟨g3,S,N,O,P,a⟩;by_cases g:i<(e).length
  .have M:(i:Int)<((e).length:Int):=by omega
   have R:=aj g (by omega);generalize G:(e)[i]=k at *
   have u:(e)[i]?=some k:=by rw[an g,G]
   have Q:=l k (Is u)
   have F:k<s.cells.length:=by omega
   have H:k<s.jn.length:=by omega
   have E:s.jn[k]?=some (dc s k):=by simp[dc,an H]
   have K:∀h,s.jn[k]'h=dc s k:=λh=>bP E h;have Y:=NH s k F;have b:wP s k=(decide ((av s k).v.kind=0)&&decide (dc s k≠-1)):=rfl;have m:=DC a u;generalize(av s k).v.kind=J at *;generalize dc s k=I at *;by_cases o:J=0
   .have A:(J==0)=true:=by simp[o]
    by_cases r:I=-1
    .have B:(I != -1)=false:=by simp[r]
     have d:r4 s (e) (i+1):=r4.step a u (by rw[b];simp[r]);exact Gy
     all_goals exact d
    .have B:(I != -1)=true:=by simp[r]
     rw[m (by rw[b];simp[o,r])];exact Gy
   .have A:(J==0)=false:=by simp[o]
    have d:r4 s (e) (i+1):=r4.step a u (by rw[b];simp[o]);exact Gy
    all_goals exact d
  .have D:i=(e).length:=by omega
   subst D;rw[Fq a];exact Gy
 |false=>
 simp only[VP,VZ]
 cases W with
 |true=>
  simp only[V8];refine Dp func36 λC hP hN=>?_;exact Gy
 |false=>
  simp only[VP,VZ];obtain⟨L,l⟩:=m3;refine Dp func36 λC hP hN=>?_;refine Gz ?_;refine WP.loopN [] (f).length (λi st=>st.t 3=.ptr 3 0/\st.h 3=some (.box [.pv (nO s)] true false)/\st.t 47=.pv (vZ (f))/\st.t 48=.pv (Z (f).length)/\st.t 49=.pv (Z i)/\r4 s (f) i) ?_ ?_
  .simp
   exact λj x hj=>by omega
  rintro i st hi ⟨g3,S,N,O,P,a⟩;by_cases g:i<(f).length
  .have M:(i:Int)<((f).length:Int):=by omega
   have R:=aj g (by omega);generalize G:(f)[i]=k at *
   have u:(f)[i]?=some k:=by rw[an g,G]
   have Q:=l k (Is u)
   have F:k<s.cells.length:=by omega
   have H:k<s.jn.length:=by omega
   have E:s.jn[k]?=some (dc s k):=by simp[dc,an H]
   have K:∀h,s.jn[k]'h=dc s k:=λh=>bP E h;have Y:=NH s k F;have b:wP s k=(decide ((av s k).v.kind=0)&&decide (dc s k≠-1)):=rfl;have m:=DC a u;generalize(av s k).v.kind=J at *;generalize dc s k=I at *;by_cases o:J=0
   .have A:(J==0)=true:=by simp[o]
    by_cases r:I=-1
    .have B:(I != -1)=false:=by simp[r]
     have d:r4 s (f) (i+1):=r4.step a u (by rw[b];simp[r]);exact Gy
     all_goals exact d
    .have B:(I != -1)=true:=by simp[r]
     rw[m (by rw[b];simp[o,r])];exact Gy
   .have A:(J==0)=false:=by simp[o]
    have d:r4 s (f) (i+1):=r4.step a u (by rw[b];simp[o]);exact Gy
    all_goals exact d
  .have D:i=(f).length:=by omega
   subst D;rw[Fq a];exact Gy
theorem Ba{c:Cel}(h:s.cells[i]?=some c):av s i=c:=by simp[av,h]
def nj{α β:Type}(f:α->Option β):List α->Option (List β)
 |[]=>some []
 |x::r=>match f x,nj f r with
  |some y,some ys=>some (y::ys)
  |_,_=>none
theorem uD{α β:Type}{f:α->Option β}:∀{l:List α}{r:List β},nj f l=some r->l.length=r.length/\∀(i:Nat) y,r[i]?=some y->∃x,l[i]?=some x/\f x=some y
 |[],r,h=>by simp only[nj]at h;injection h with h;subst h;exact⟨rfl,λi y d=>by simp at d⟩
 |x::l,r,h=>by
  simp only[nj]at h;split at h
  .rename_i y ys b c
   injection h with h;subst h;obtain⟨g1,g2⟩:=uD c;refine⟨by simp[g1],λi z a=>?_⟩
   cases i with
   |zero=>simp at a;subst a;exact⟨x,rfl,b⟩
   |succ i=>simpa using g2 i z (by simpa using a)
  .cases h
theorem E4{α β:Type}{f:α->Option β}:∀{l:List α}{r:List β},l.length=r.length->(∀(i:Nat) x y,l[i]?=some x->r[i]?=some y->f x=some y)->nj f l=some r
 |[],[],_,_=>rfl
 |[],_::_,h,_=>by simp at h
 |_::_,[],h,_=>by simp at h
 |x::l,y::r,h,c=>by
  have d:=c 0 x y rfl rfl;have e:=E4 (f:=f) (l:=l) (r:=r) (by simpa using h) (λi a b g j=>c (i+1) a b (by simpa using g) (by simpa using j));simp only[nj,d,e]
def MT:PV->Bool
 |.sl _=>true
 |_=>false
def iQ(h:Hp):Nat->AV->Option PV
 |_,.pv p=>some p
 |0,_=>none
 |_+1,.arr k n=>if inK k=true then match h k with
  |some (.row _ _ xs _)=>if xs.length=n then some (.sl xs)else none
  |_=>none else none
 |d+1,.ext (.barr k n _)=>if inK k=true then match h k with
  |some (.box b _ _)=>match nj (iQ h d) (b.take n)with
   |some a=>if a.length=n/\a.all MT=true then some (.sl a)else none
   |none=>none
  |_=>none else none
 |d+1,.ptr k c=>if inK k=true then match h k with
  |some (.box b _ _)=>match nj (iQ h d) b with
   |some a=>some (.rptr (.agg a) c)
   |none=>none
  |_=>none else none
 |_+1,_=>none
def rI(h:Hp):Hp:=λk=>if inK k=true then none else h k
def Qx:Blk->Bool
 |.box _ o _=>o
 |.row _ _ _ _=>true
 |.mp _ _ _ _=>false
def wj(h:Hp):Prop:=∀k a,inK k=true->h k=some a->Qx a=true
section
variable {C:Cx} {L:Nat->Loc} {h:Hp} {w:World}
theorem BC{b:Blk}(e:rI h k=some b):inK k=false/\h k=some b:=by
 grind [rI]
theorem yV{b o:Nat}(c:ae C L (rI h) b o):ae C L h b o:=by
 rcases c with c|⟨k,a,e,f,d,hf⟩
 .exact .inl c
 .exact .inr ⟨k,a,(BC e).2,f,d,hf⟩
theorem yW(d:MemL C L h w)(r:wj h){blk:Blk}(hi:inK k=true)(c:h k=some blk)(i:blk.live (L k))(o:Nat):¬ae C L (rI h) (L k).b o:=by
 rintro(q|⟨u,l,m,n,p,_⟩)
 .have s:=d.m0 _ _ q
  have g:=d.own k _ c
  have h8:C.w0.heap.size<=(L k).b\/(C.S (L k).b/\∀o,¬C.M0 (L k).b o):=by
   have a:=r k blk hi c
   cases blk with
   |box v own f=>
    have a:own=true:=a;subst a;exact g
   |row e sz xs f=>exact g.row i
   |mp=>cases a
  grind
 .obtain⟨j,g1⟩:=BC m
  exact d.sep u k l blk (λe=>by rw[e,hi]at j;cases j) g1 c n i p
theorem LQ(l:MemL C L h w)(n:wj h){xs:List PV}(hi:inK k=true)(g:h k=some (.row e sz xs fz)):Rep w (ae C L (rI h)) (.sl xs) ((L k).slice xs.length):=by
 obtain⟨g1,g2,g3,g4,g5⟩:=l.bl k _ g
 cases hn:(L k).isNil with
 |true=>
  have:=g4 hn;subst this;simp only[Loc.slice,hn,V8];exact .sl0 _ _
 |false=>
  obtain⟨m,q,arr,a3,a4,f⟩:=g5 hn;simp only[Loc.slice,hn,VP,VZ];refine .sl xs (L k).b 0 (L k).cap sz (λi j=>(arr[i*sz+j]?).getD default) m (λi x a=>g3 x (Is a)) (λi x j p a c=>?_) (λi x j p a c=>?_)
  .obtain⟨u,d,_⟩:=f i x j p a c
   refine⟨?_,yW l n hi g hn _⟩;rw[eY a3,WU,d];rfl
  .obtain⟨u,d,o⟩:=f i x j p a c
   rw[d];exact o.mono (Pres.sub λ_ _=>yV)
theorem LR(F:MemL C L h w)(N:wj h):∀(d:Nat){x:AV}{p:PV}{u:Value},iQ h d x=some p->RepA w (ae C L h) L h x u->Rep w (ae C L (rI h)) p u:=by
 have base:∀{q p:PV}{u:Value},some q=some p->RepA w (ae C L h) L h (.pv q) u->Rep w (ae C L (rI h)) p u:=by
  intro q p u e f;injection e with e;subst e
  cases f with
  |pv f=>exact f.mono (Pres.sub λ_ _=>yV)
 intro d
 induction d with
 |zero=>
  intro x p u a f
  cases x with
  |pv q=>exact base (by simpa only[iQ]using a) f
  |_=>simp[iQ]at a
 |succ d ih=>
  intro x p u a f
  cases x with
  |pv q=>exact base (by simpa only[iQ]using a) f
  |arr k n=>
   simp only[iQ]at a;split at a
   .rename_i hi
    split at a
    .rename_i e sz xs fz A
     split at a
     .rename_i hn
      injection a with a;subst a
      cases f with
      |arr D O Q=>
       grind [LQ]
     .cases a
    .cases a
   .cases a
  |ptr k J=>
   simp only[iQ]at a;split at a
   .rename_i hi
    split at a
    .rename_i K own fz A
     split at a
     .rename_i z y
      injection a with a;subst a;obtain⟨m1,m2⟩:=uD y
      cases f with
      |ptr D=>
       obtain⟨arr,ty,a3,a4⟩:=F.bl k _ A;have hn:=yW F N hi A trivial
       have o:∀(j:Nat) q,z[j]?=some q->∃v,arr[j]?=some v/\Rep w (ae C L (rI h)) q v:=by
        intro j q hq;obtain⟨x,B,m⟩:=m2 j q hq
        have s:j<arr.toList.length:=by rw[<-a4.1];exact(th.1 B).1
        have g:arr.toList[j]?=some (arr.toList[j]):=an s;exact⟨arr.toList[j],by rw[<-WI];exact g,ih m (a4.2 j x _ B g)⟩
       have:=Rep.rptr (w:=w) (M:=ae C L (rI h)) (.agg z) (L k).b 0 J (λj=>(arr[j]?).getD default) (λj q hq=>?_) (λj q hq=>?_)
       .grind
       .obtain⟨v,g,_⟩:=o j q hq
        refine⟨?_,hn _⟩;rw[WU,eY a3,g];rfl
       .obtain⟨v,g,f⟩:=o j q hq
        grind
     .cases a
    .cases a
   .cases a
  |ext x=>
   cases x with
   |barr k n c=>
    simp only[iQ]at a;split at a
    .rename_i hi
     split at a
     .rename_i K own fz A
      split at a
      .rename_i z y
       split at a
       .rename_i l
        injection a with a;subst a;obtain⟨H,l⟩:=l;obtain⟨m1,m2⟩:=uD y
        have E:∀q∈z,q.cells=[q]:=by
         intro q hq;have:=VL.1 l q hq
         cases q<;>first|rfl|cases this
        cases f with
        |ext I=>
         cases I with
         |barr P D=>
          obtain⟨arr,ty,a3,a4⟩:=F.bl k _ A;have hn:=yW F N hi A trivial
          have o:∀(j:Nat) q,z[j]?=some q->∃v,arr[j]?=some v/\Rep w (ae C L (rI h)) q v:=by
           intro j q hq;obtain⟨x,B,m⟩:=m2 j q hq
           have B:K[j]?=some x:=by
            grind
           have s:j<arr.toList.length:=by rw[<-a4.1];exact(th.1 B).1
           have g:arr.toList[j]?=some (arr.toList[j]):=an s;exact⟨arr.toList[j],by rw[<-WI];exact g,ih m (a4.2 j x _ B g)⟩
          rw[<-H]
          have G:∀{i j:Nat}{q r:PV},z[i]?=some q->q.cells[j]?=some r->j=0/\r=q:=by
           grind
          refine .sl z (L k).b 0 c 1 (λi _=>(arr[i]?).getD default) (by omega) (λi q hq=>by rw[E q (Is hq)];rfl) (λi q j r hq f=>?_) (λi q j r hq f=>?_)
          .obtain⟨rfl,rfl⟩:=G hq f
           grind [eY]
          grind
       .cases a
      .cases a
     .cases a
    .cases a
   |_=>simp[iQ]at a
  |_=>simp[iQ]at a
def K3(C:Cx)(Q:St->Prop)(f:Operand)(xs:List Operand)(d:Option Nat)(st:St):Prop:=
 ∃g b a,cJ (st.ev f)=some (g,[],[])/\wj st.h/\nj (iQ st.h 3) (xs.map st.ev)=some b/\aQ C.P g (b.map .pv) [] [] (.pv a)/\rx a=true/\dv C.N d=true/\Q (st.put d (.pv a) [])
theorem WP.lend{id:Nat}{pre post:List Oper}(l:ops.toList=pre++o::post)(H:o.op=.call {callee:=.value f,args:=xs.toArray,argTypes:=ats})(hg:o.guard=none)
 (hq:dP C.P hn C.N ops (K3 C (dP C.P hn C.N ops (Q .normal) post) f xs o.dst) pre st):WP C (.region id ops false) Q st:=by
 intro a w hs;refine wp_region_list ?_;rw[l];refine iX (λad r q R M=>?_) hs hq;obtain⟨g,ps,a2,A,F,I,⟨c,_,hD⟩,G,B,hQ⟩:=M;obtain⟨L,n,hN,D,S⟩:=R;refine wpList_step (λK hK=>?_);rw[lh hg,VS rfl];obtain⟨vs,us,E,U,V⟩:=jo (dn S f) A;have X:=U.nil_inv;have T:=V.nil_inv;subst X;subst T;obtain⟨m1,m2⟩:=uD I
 have d:=hD q (ae C L (rI ad.h)) [] (xs.map r.eval) (λb o s=>n.mlt (yV s)) rfl List.nodup_nil (λi b ps s=>by simp at s) (by simp only[Wp]at m1|-;omega) (by
  intro i x v j hv;simp only[VN,VK]at j hv;obtain⟨p,hp,rfl⟩:=j;obtain⟨y,hy,rfl⟩:=hv;obtain⟨z,hz,hc⟩:=m2 i p hp;simp only[VN,VK]at hz;obtain⟨y',e,rfl⟩:=hz;rw[hy]at e;injection e with e;subst e
  exact LR n F 3 hc (dn S y))
 have m:(execOp r.eval o).run C.P q=.ok (.enter g (xs.map r.eval).toArray) q:=by
  unfold dm at c
  cases k:C.P.funcs[g]? with
  |none=>rw[k]at c;cases c
  |some fn=>
   rw[k]at c;simp only[An,Wy,WY,ne_eq]at c
   have hb:fn.body.isNone=false:=by cases ar:fn.body<;>simp_all
   unfold execOp;rw[H];simp only[resolve,E,Deferred.ofValue,pure_bind,Sem.run_bind,Result.andThen_ok,invoke,callFunc,program,Sem.run,k];simp[c.2,hb]
 unfold Oper.wp;rw[m];simp only[Oper.upon];refine d.mono ?_;rintro ee w' ⟨v,rfl,j,_,hr⟩;have Y:Ext (λ_=>False) q w':=⟨j.os,j.tape,j.output,j.size,λb' u _=>j.block b' u (by simp)⟩;obtain⟨g1,g2⟩:=n.grow Y;refine hK _ _ ?_;exact jg (λZ a' w' O J=>⟨Z,O,J⟩) (gH.put n hN D S B (W:=[]) ⟨g1,g2,KC.refl _ _⟩ (.pv (pN G hr))) hQ
theorem WP.lendAt{id:Nat}(n:Nat)(c:ops.toList[n]?=some o)(a:o.op=.call {callee:=.value f,args:=xs.toArray,argTypes:=ats})(b:o.guard=none)
 (hq:dP C.P hn C.N ops (K3 C (dP C.P hn C.N ops (Q .normal) (ops.toList.drop (n+1))) f xs o.dst) (ops.toList.take n) st):WP C (.region id ops false) Q st:=by
 grind [WP.lend,List.getElem?_eq_some_iff,List.getElem_cons_drop,List.take_append_drop]
end
theorem WP.of_st{c:Code}{P:St->Prop}(h:P st/\∀st,P st->WP C c Q st):WP C c Q st:=h.2 st h.1
theorem Fw{own:Bool}(g:s.near.length<=4096)(d:∀k,inK k=true->h k=bo own s c k):gF h=bo false s c:=by
 funext k
 unfold gF;by_cases a:inK k=true
 .rw[VS a,d k a]
  split
  .rename_i e;subst e;rfl
  .rename_i e;unfold bo;rw[VM e,VM e]
 .rw[VM a]
  cases f:bo false s c k with
  |none=>rfl
  |some b=>exact absurd ((pc g).keys k b f) a
theorem JT{own:Bool}{cs:List AV}{f:Bool}(h:bo own s c k=some (.box cs false f)):k=290:=by
 cases own with
 |false=>exact Ft h
 |true=>
  unfold bo at h;split at h
  .assumption
  .exfalso
   repeat' split at h
   all_goals first|(injection h with h;injection h;done)|cases h
theorem DG{own:Bool}(i:s.near.length<=4096)(e:∀k,inK k=true->h k=bo own s c k):InOk h:=by
 have hL:LookH (bo own s c):=pc i
 exact⟨λk b o d a=>hL.nf k b o (by rw[<-e k d];exact a),λk b d a=>hL.nm k b (by rw[<-e k d];exact a),λk g o f d a=>hL.cl k g o f (by rw[<-e k d];exact a),λk g f d a=>JT (own:=own) (s:=s) (c:=c) (by rw[<-e k d];exact a),λb a=>by
  rw[e 290 rfl]at a
  exact⟨_,_,_,(WE a).symm⟩⟩
theorem DH{own:Bool}{s':Spc}{c':Nat}(a:∀k,inK k=true->h k=bo own s c k)(b:inK k=true):fY h (bo false s' c') k=bo own s' c' k:=by
 unfold fY;rw[VS b];split
 .rename_i e;subst e
  have:m7 h 290=own:=by simp only[m7,a 290 rfl];rfl
  rw[this];rfl
 .rename_i e;unfold bo;rw[VM e,VM e]
theorem kS(own:Bool)(s:Spc)(c k:Nat):(bo own s c k).map (bG [])=bo own s c k:=by
 have d:(iM s.near++List.replicate c dE).map (az [])=iM s.near++List.replicate c dE:=by
  refine(List.map_congr_left (g:=id) λx a=>?_).trans (List.map_id _);rcases V4.1 a with a|a
  .simp only[iM,Wf,Wz]at a
   obtain⟨v,e,rfl⟩:=a;simp[az,bC,aK]
  .rw[(List.mem_replicate.1 a).2]
   simp[az,bC,aK]
 have b:az [] (mE s)=mE s:=by unfold az;rw[DF rfl];rfl
 unfold bo;split
 .show some (Blk.box _ own false)=_
  simp only[W5,Yu,b];simp[az,bC,aK]
 .split
  .split<;>rfl
  .split
   .rfl
   .split
    .simp only[WG,bG,d]
    .split
     .rfl
     .split<;>rfl
theorem Il{own:Bool}(e:k≠293)(hd:295<=d):(bo own s c k).map (bG [d])=bo own s c k:=by
 have b:bC [d] (mE s)=false:=DF (by simp;omega);unfold bo;rw[VM e];split
 .have a:∀x,bC [d] x=false->az [d] x=x:=λx h=>by unfold az;rw[h];rfl
  show some (Blk.box [az [d] _,az [d] _,az [d] _,az [d] _,az [d] _] own false)=_;rw[a (.pv _) rfl,a _ b,a (.arr 292 _) (by simp[bC,aK];omega),a (.ext _) (by simp[bC,aK,XV.key];omega),a (.arr 294 _) (by simp[bC,aK];omega)]
 .repeat' split
  all_goals rfl
theorem Mn{own:Bool}(hn:s.near.length<=4096)(a:∀k,inK k=true->h k=bo own s c k):iQ h 3 (.ptr 290 0)=some (nO s):=by
 have o:=(a 290 rfl).trans (oZ own s c);have q:=(a 292 rfl).trans (rC own s c);have r:=(a 293 rfl).trans (o8 own s c);have u:=(a 294 rfl).trans (ud own s c)
 have j:iQ h 2 (mE s)=some (.sl (s.cells.map bw)):=by
  cases d:s.cc with
  |true=>rw[Pw d];rfl
  |false=>
   have p:=(a 291 rfl).trans (rB own s c d);rw[sX d];simp[iQ,inK,p]
 have l:iQ h 2 (.arr 292 s.bx.length)=some (.sl (s.bx.map iv)):=by simp[iQ,inK,q]
 have n:iQ h 2 (.arr 294 s.jn.length)=some (.sl (s.jn.map Z)):=by simp[iQ,inK,u]
 have m:iQ h 2 (.ext (.barr 293 s.near.length (s.near.length+c)))=some (.sl (s.near.map vZ)):=by
  have B:(iM s.near++List.replicate c dE).take s.near.length=iM s.near:=by
   rw[XG (by rw[da];omega),Wg (by rw[da];omega)]
  have A:nj (iQ h 1) (iM s.near)=some (s.near.map vZ):=by
   refine E4 (by simp[da]) λi x y b g=>?_
   have hi:i<s.near.length:=by
    have:=(th.1 b).1
    rwa [da]at this
   rw[mO hi]at b;injection b with b;subst b;simp only[VN,VK]at g;obtain⟨z,C,rfl⟩:=g
   have f:inK (i+300)=true:=by simp[inK];omega
   have v:=(a (i+300) f).trans (mh hi);simp[iQ,f,v,ab,C]
  simp only[iQ,inK,r];rw[B,A];simp[MT]
 have e:nj (iQ h 2) [.pv (iv s.root),mE s,.arr 292 s.bx.length,.ext (.barr 293 s.near.length (s.near.length+c)),.arr 294 s.jn.length]=some [iv s.root,.sl (s.cells.map bw),.sl (s.bx.map iv),.sl (s.near.map vZ),.sl (s.jn.map Z)]:=by
  simp only[nj,j,l,m,n];rfl
 show(if inK 290=true then _ else _)=_;rw[VS (show inK 290=true from rfl),o];simp only[e]
theorem JU(d:∀k,inK k=true->h k=bo true s c k):wj h:=by
 intro k b e a;rw[d k e]at a;unfold bo at a
 repeat' split at a
 all_goals first|(cases a;rfl)|cases a
theorem zj{Q:St->Prop}{d:Option Nat}{own:Bool}{a b:Nat}(hP:C.P=prog)(i:cJ (st.ev f)=some (80,[],[]))(e:xs.map st.ev=[.ptr 290 0,.pv (Z a),.pv (Z b)])(j:∀k,inK k=true->st.h k=bo own s c k)
 (hn:s.near.length<=4096)(u:a<s.near.length)(y:b<s.near.length)(l:a≠b)(o:s.bx.length=s.near.length)(m:∀x∈s.bx,x.length<=9223372036854775807)(q:∀v,(ab s v).length<=4096)(hd:dv C.N d=true)
 (h:∀r g,(∀k,inK k=true->g k=bo own (fK s a b) c k)->(∀k,inK k=false->g k=(st.h k).map jp)->Q (St.put ⟨λn=>gw (st.t n),g⟩ d r [])):uB C Q f xs d st:=by
 refine⟨_,λ_ g=>g=bo false (fK s a b) c,i,DG hn j,?_,by rw[e];rfl,hd,λr g hL z hp=>?_⟩
 .rw[e,Fw hn j,hP]
  exact Un s c a b hn u y l o m q
 .have hp:g=_:=hp
  subst hp;exact h r _ (λk p=>DH j p) (λk p=>by unfold fY;rw[VM (by rw[p];decide)])
theorem JV(b:∀k,inK k=true->h k=none):gF h=mw:=by
 funext k
 unfold gF;by_cases a:inK k=true
 .rw[VS a,b k a];split<;>rfl
 .rw[VM a];rfl
theorem Im(d:∀k,inK k=true->h k=none):InOk h:=
 ⟨λk b o c a=>(by rw[d k c]at a;cases a),λk b c a=>(by rw[d k c]at a;cases a),λk e o f c a=>(by rw[d k c]at a;cases a),λk e f c a=>(by rw[d k c]at a;cases a),λb a=>(by rw[d 290 rfl]at a;cases a)⟩
theorem GW{S G:Prop}(s:S)(h:S->G:=by
 intro hS
 repeat' (first
  |with_reducible refine aI.seq ?_
  |(with_reducible ((first|refine aI.region hF (hn:=[]) (by kernel_rfl) ?_|refine lN (by first|assumption|apply_assumption) ?_|refine aI.cond' ?_);simp -implicitDefEqProofs (maxSteps:=2000000) [hP,hN,hS]))
  |(with_reducible refine gi (by simp[hS]) (λhgd=>?_) (λhgd=>?_)<;>first|(exfalso;simp at hgd;done)|(exfalso;simp at hgd;omega)|simp -implicitDefEqProofs (maxSteps:=2000000) [hP,hN,hS])
  |with_reducible refine eZ ?_ ?_
  |(with_reducible refine dY (λhcd=>?_) (λhcd=>?_)<;>(try (exfalso;clear hP hN;simp_all;done))<;>(try (exfalso;simp at *;omega)))
  |with_reducible refine aI.block ?_
  |(with_reducible ((first|refine aI.skip ?_|refine aI.exit ?_|refine aI.ret ?_);simp[hS])))):G:=h s
theorem GV{S G H:Prop}(s:S)(x:H)(h:S->Hid H->G:=by
 intro hS hG0
 repeat' (first
  |with_reducible refine aI.seq ?_
  |(with_reducible ((first|refine aI.region hF (hn:=[]) (by kernel_rfl) ?_|refine lN (by first|assumption|apply_assumption) ?_|refine aI.cond' ?_);simp -implicitDefEqProofs (maxSteps:=2000000) [hP,hN,hS]))
  |(with_reducible refine gi (by simp[hS]) (λhgd=>?_) (λhgd=>?_)<;>first|(exfalso;simp at hgd;done)|(exfalso;simp at hgd;omega)|simp -implicitDefEqProofs (maxSteps:=2000000) [hP,hN,hS])
  |with_reducible refine eZ ?_ ?_
  |(with_reducible refine dY (λhcd=>?_) (λhcd=>?_)<;>(try (exfalso;clear hP hN;simp_all;done))<;>(try (exfalso;simp at *;omega)))
  |with_reducible refine aI.block ?_
  |(with_reducible ((first|refine aI.skip ?_|refine aI.exit ?_|refine aI.ret ?_);simp[hS])))
 exact hG0.h):G:=h s ⟨x⟩
abbrev I9(n:Nat):PV:=Z (n:Int)
def iI(t:Tr):List (PV×PV):=(fE t).map λi=>(I9 i,iv (aZ t (i:Int)))
def vL(a:Act):Nat:=match a.tmps.getD 14 undef with
 |.int _ v=>v.toNat
 |_=>0
def tL(l:Nat)(t:Tr)(i:Nat):Nat->AV:=λm=>if m=0 then .pv (.val (.func (.yield l) #[] #[]))else if m=1 then .pv (.rptr (eT t) 0)else if m=12 then .pv (.sl ((ah t).map iv))else if m=13 then .pv (Z (ah t).length)else if m=14 then .pv (Z i)else .undef
def fT(l:Nat)(t:Tr)(i:Nat)(st:St):Prop:=st.t 0=.pv (.val (.func (.yield l) #[] #[]))/\st.t 1=.pv (.rptr (eT t) 0)/\st.t 12=.pv (.sl ((ah t).map iv))/\st.t 13=.pv (Z (ah t).length)/\st.t 14=.pv (Z i)
def tX(l:Nat)(t:Tr)(i:Nat)(x y:Nat)(p q:PV):Nat->AV:=λm=>if m=x then .pv p else if m=y then .pv q else tL l t i m
theorem xn{a:Act}(h:fh 33 M (bO st.t) a w)(j:fT l t i st):fh 33 M (tL l t i) a w:=h.sub (λm=>by
 obtain⟨k,n,e,f,g⟩:=j;unfold tL;by_cases m0:m=0
 .subst m0;right;simp[bO,k]
 by_cases m1:m=1
 .subst m1;right;simp[bO,n]
 by_cases b:m=12
 .subst b;right;simp[bO,e]
 by_cases c:m=13
 .subst c;right;simp[bO,f]
 by_cases d:m=14
 .subst d;right;simp[bO,g]
 .left;simp[m0,m1,b,c,d])
theorem vM{x y:Nat}{a:Act}(h:fh 33 M (bO st.t) a w)(c:fT l t i st)(d:st.t x=.pv p)(f:st.t y=.pv q):fh 33 M (tX l t i x y p q) a w:=by
 have b:=xn h c;refine⟨h.1,λm=>?_⟩;unfold tX;split
 .rename_i e;subst e
  have:=h.2 m;simp only[bO,d]at this;exact this
 .split
  .rename_i e;subst e
   have:=h.2 m;simp only[bO,f]at this;exact this
  .exact b.2 m
theorem PW{x y:Nat}{c:Nat->AV}{a:Act}(h:fh 33 M c a w)(s:c 0=.pv (.val (.func (.yield l) #[] #[])))(u:c 1=.pv (.rptr (eT t) 0))(j:c 12=.pv (.sl ((ah t).map iv)))(k:c 13=.pv (Z (ah t).length))(n:c 14=.pv (Z i))(o:c x=.pv p)(r:c y=.pv q):fh 33 M (tX l t i x y p q) a w:=h.sub (λm=>by
 unfold tX tL;by_cases b:m=x
 .subst b;right;simp[o]
 by_cases d:m=y
 .subst d;right;simp[b,r]
 by_cases m0:m=0
 .subst m0;right;simp[s,b,d]
 by_cases m1:m=1
 .subst m1;right;simp[u,b,d]
 by_cases e:m=12
 .subst e;right;simp[j,b,d]
 by_cases f:m=13
 .subst f;right;simp[k,b,d]
 by_cases g:m=14
 .subst g;right;simp[n,b,d]
 .left;simp[m0,m1,e,f,g,b,d])
theorem yS{t:Tr}{i:Nat}(a:ej t i=true):∀{n:Nat},i<n->(fP t n)[(fP t i).length]?=some i
 |0,h=>by omega
 |n+1,h=>by
  rw[xk];by_cases e:i=n
  .subst e
   rw[VS a];simp
  .have ih:=yS a (n:=n) (by omega)
   have b:=(th.1 ih).1;split
   .rw[VO b];exact ih
   .exact ih
theorem fh.put{t:Nat->AV}{a:Act}(h:fh N M t a w)(hd:d<N){v:Value}(c:Rep w M p v):fh N M (ag t d (.pv p)) (a.put (some d) v) w:=by
 have b:d<a.tmps.size:=by rw[h.1];exact hd
 refine⟨by simpa[Act.put]using h.1,λm=>?_⟩;rw[rT b];simp only[ag];split
 .exact .inr ⟨p,rfl,c⟩
 .exact h.2 m
theorem MQ{fn:Func}(h:fn.results=#[])(tmps:Array Value)(P:Program)(w:World):(results fn tmps).run P w=.ok (.tuple #[]) w:=by
 unfold results;rw[h];simp[go_sem]
theorem pG{t:Nat->AV}{a:Act}(h:fh N M t a w){m:Nat}{v:Value}(e:t m=.pv (.val v)):a.tmps.getD m undef=v:=by
 rcases h.2 m with b|⟨p,b,c⟩
 .rw[e]at b;cases b
 .rw[e]at b;injection b with b;subst b
  exact aU c
theorem EE{t:Nat->AV}{a:Act}(h:fh N M t a w){m:Nat}(e:t m=.pv p):Rep w M p (a.tmps.getD m undef):=by
 rcases h.2 m with b|⟨d,b,c⟩
 .rw[e]at b;cases b
 .rw[e]at b;injection b with b;subst b
  exact c
set_option maxRecDepth 100000 in
theorem Ty(t:Tr)(hl:t.cells.length<=9223372036854775807):Gp prog 184 [.rptr (eT t) 0] (iI t):=by
 refine⟨by kernel_rfl,λn l lb W M J s j hY h0 U=>?_⟩
 obtain⟨v1,rfl⟩:∃v,lb=[v]:=by
  have:=U.1
  cases lb with
  |nil=>simp at this
  |cons v r=>cases r with
   |nil=>exact⟨v,rfl⟩
   |cons=>simp at this
 have a5:Rep W M (.rptr (eT t) 0) v1:=U.2 0 _ _ rfl rfl;have hF:=gV;have cb:=KJ t hl;refine callsIn_of_wp_marks func184 rfl trivial ?_ rfl
 have H0:fh 33 M (λm=>if m=0 then .pv (.val (.func (.yield l) #[] #[]))else if m=1 then .pv (.rptr (eT t) 0)else .undef) {tmps:=((#[Value.func (.yield l) #[] #[]]:Array Value)++[v1].toArray)++Array.replicate (f184.ntmps-((#[Value.func (.yield l) #[] #[]]:Array Value)++[v1].toArray).size) undef,defers:=[]} W:=by
  refine⟨by rw[ntmps184];simp,λm=>?_⟩;by_cases m0:m=0
  .subst m0;exact .inr ⟨_,rfl,by simp;exact .val _⟩
  .by_cases m1:m=1
   .subst m1;exact .inr ⟨_,rfl,by simpa using a5⟩
   .left;simp[m0,m1]
 refine wpIn_seq (wpIn_mono (H0.step (s 0 M W h0) (Q:=λe b=>e=.normal/\b.t 0=.pv (.val (.func (.yield l) #[] #[]))/\b.t 1=.pv (.rptr (eT t) 0)/\b.t 3=.pv (.sl ((ah t).map iv))) (λC hP hN=>?_)) ?_)
 .skip
  exact GW trivial
 rintro e F G ⟨a8,⟨rfl,g0,g1,g3⟩,X,E,y⟩;have q:=j 0 M W G h0 E
 have ba:fh 33 M (λm=>if m=0 then .pv (.val (.func (.yield l) #[] #[]))else if m=1 then .pv (.rptr (eT t) 0)else if m=3 then .pv (.sl ((ah t).map iv))else .undef) F G:=X.sub (λm=>by
  by_cases m0:m=0
  .subst m0;right;simp[bO,g0]
  .by_cases m1:m=1
   .subst m1;right;simp[bO,g1]
   .by_cases m3:m=3
    .subst m3;right;simp[bO,g3]
    .left;simp[m0,m1,m3])
 show Code.wpIn Fence.wide n prog _ _ F G;refine wpIn_seq (wpIn_mono (ba.step (s 0 M G q) (Q:=λe b=>e=.normal/\b.t 0=.pv (.val (.func (.yield l) #[] #[]))/\b.t 1=.pv (.rptr (eT t) 0)/\b.t 12=.pv (.sl ((ah t).map iv))/\b.t 13=.pv (Z (ah t).length)/\b.t 14=.pv (Z 0)) (λC hP hN=>?_)) ?_)
 .skip
  exact GW trivial
 rintro e a2 w2 ⟨ca,⟨rfl,k0,k1,b3,b4,b5⟩,H2,T,K⟩;have A:=j 0 M G w2 q T
 have bb:fh 33 M (tL l t 0) a2 w2:=H2.sub (λm=>by
  unfold tL;by_cases m0:m=0
  .subst m0;right;simp[bO,k0]
  by_cases m1:m=1
  .subst m1;right;simp[bO,k1]
  by_cases b7:m=12
  .subst b7;right;simp[bO,b3]
  by_cases b8:m=13
  .subst b8;right;simp[bO,b4]
  by_cases b9:m=14
  .subst b9;right;simp[bO,b5]
  .left;simp[m0,m1,b7,b8,b9])
 have D:a2.defers=[]:=by rw[K,y]
 clear X ba H2 H0 g0 g1 g3 k0 k1 b3 b4 b5 E T y K q h0;show Code.wpIn Fence.wide n prog _ _ a2 w2;refine wpIn_block (wpIn_loop (λa w=>∃i M',i<=(ah t).length/\J (fP t i).length M' w/\fh 33 M' (tL l t i) a w/\a.defers=[]) (λa _=>(ah t).length-vL a) ⟨0,M,WJ _,by simpa[fP]using A,bb,D⟩ ?_);clear A bb D a2 w2 ca F G a8;rintro a w ⟨i,M',hi,hJ,hH,D⟩
 have cS:vL a=i:=by simp[vL,pG hH (m:=14) (v:=.int .i64 i) (by simp[tL])]
 have bs:=s _ _ _ hJ;by_cases f:i<(ah t).length
 .have R:aT t=true:=by
   cases h:aT t with
   |true=>rfl
   |false=>
    have:ah t=[]:=by
     simp only[aT]at h;simp[ah,Option.isSome_eq_false_iff.1 h |> YB.1]
    rw[this]at f;simp at f
  have cU:=fA R
  have k:i<t.cells.length:=by omega
  have hz:=eg.1 (je R);generalize hc:t.cells[i]=c at *
  have x:t.cells[i]?=some c:=by rw[an k,hc]
  obtain⟨cj,cQ,_⟩:=iT R (c:=(i:Int)) k;have u:(ah t)[i]?=some (aZ t i):=cj;have z:=bP u f;have S:i64.wrap ((i:Int)+1)=(i:Int)+1:=aa;have cl:=KM c;have g:=xk t i
  have N:ej t i=dR c:=by simp[ej,x]
  rw[N]at g;refine wpIn_seq (wpIn_mono (hH.step bs (Q:=λe b=>e=.normal/\fT l t i b/\b.t 15=.pv (.val (.bool true))) (λC hP hN=>?_)) ?_)
  .skip
   repeat' (first
    |with_reducible refine aI.seq ?_
    |(with_reducible ((first|refine aI.region hF (hn:=[]) (by kernel_rfl) ?_|refine aI.cond' ?_);simp -implicitDefEqProofs (maxSteps:=2000000) [hP,hN,tL,fT,f]))
    |(with_reducible refine gi (by simp[tL,fT,f]) (λhgd=>?_) (λhgd=>?_)<;>first|(exfalso;simp at hgd;done)|(exfalso;simp at hgd;omega)|simp -implicitDefEqProofs (maxSteps:=2000000) [hP,hN,tL,fT,f])
    |with_reducible refine eZ ?_ ?_
    |(with_reducible refine dY (λhcd=>?_) (λhcd=>?_)<;>(try (exfalso;clear hP hN;simp_all;done))<;>(try (exfalso;simp at *;omega)))
    |with_reducible refine aI.block ?_
    |(with_reducible ((first|refine aI.skip ?_|refine aI.exit ?_|refine aI.ret ?_);simp[tL,fT,f])))
  rintro e F G ⟨a8,⟨rfl,cq,ad⟩,X,E,y⟩;have q:=j _ _ _ _ hJ E;have Y:F.eval (.tmp 15)=.bool true:=pG X (m:=15) (by simp[bO,ad]);have K1:=xn X cq;show Code.wpIn Fence.wide n prog _ _ F G;refine wpIn_seq (wpIn_cond_true Y (wpIn_skip ?_));show Code.wpIn Fence.wide n prog _ _ F G;refine wpIn_seq (wpIn_block ?_);refine wpIn_seq (wpIn_mono (K1.step (s _ _ _ q) (Q:=λe b=>e=.normal/\fT l t i b/\b.t 5=.pv (Z i)/\b.t 6=.pv (iv (aZ t i))) (λC hP hN=>?_)) ?_)
  .skip
   repeat' (first
    |with_reducible refine aI.seq ?_
    |(with_reducible ((first|refine aI.region hF (hn:=[]) (by kernel_rfl) ?_|refine aI.cond' ?_);simp -implicitDefEqProofs (maxSteps:=2000000) [hP,hN,tL,fT,f,u,z]))
    |(with_reducible refine gi (by simp[tL,fT,f,u,z]) (λhgd=>?_) (λhgd=>?_)<;>first|(exfalso;simp at hgd;done)|(exfalso;simp at hgd;omega)|simp -implicitDefEqProofs (maxSteps:=2000000) [hP,hN,tL,fT,f,u,z])
    |with_reducible refine eZ ?_ ?_
    |(with_reducible refine dY (λhcd=>?_) (λhcd=>?_)<;>(try (exfalso;clear hP hN;simp_all;done))<;>(try (exfalso;simp at *;omega)))
    |with_reducible refine aI.block ?_
    |(with_reducible ((first|refine aI.skip ?_|refine aI.exit ?_|refine aI.ret ?_);simp[tL,fT,f,u,z])))
  rintro e a2 w2 ⟨ca,⟨rfl,cr,h5,h6⟩,H2,T,K⟩;have A:=j _ _ _ _ q T;have K2:=vM H2 cr h5 h6;have bH:=s _ _ _ A;show Code.wpIn Fence.wide n prog _ _ a2 w2;refine wpIn_seq (wpIn_mono (Q:=λe a3 V=>e=.normal/\∃M3,J (fP t (i+1)).length M3 V/\fh 33 M3 (tX l t i 31 31 (B false) (B false)) a3 V/\a3.defers=[]) ?_ ?_)
  .cases b2:dR c with
   |false=>
    rw[b2]at cl g;rw[VM (by simp)]at g;refine wpIn_mono (K2.step bH (Q:=λe b=>e=.normal/\fT l t i b/\b.t 31=.pv (.val (.bool false))) (λC hP hN=>?_)) ?_
    .skip
     repeat' (first
      |with_reducible refine aI.seq ?_
      |(with_reducible ((first|refine aI.region hF (hn:=[]) (by kernel_rfl) ?_|refine lN (cl) ?_|refine aI.cond' ?_);simp -implicitDefEqProofs (maxSteps:=2000000) [hP,hN,tX,tL,fT,k,x,hc]))
      |(with_reducible refine gi (by simp[tX,tL,fT,k,x,hc]) (λhgd=>?_) (λhgd=>?_)<;>first|(exfalso;simp at hgd;done)|(exfalso;simp at hgd;omega)|simp -implicitDefEqProofs (maxSteps:=2000000) [hP,hN,tX,tL,fT,k,x,hc])
      |with_reducible refine eZ ?_ ?_
      |(with_reducible refine dY (λhcd=>?_) (λhcd=>?_)<;>(try (exfalso;clear hP hN;simp_all;done))<;>(try (exfalso;simp at *;omega)))
      |with_reducible refine aI.block ?_
      |(with_reducible ((first|refine aI.skip ?_|refine aI.exit ?_|refine aI.ret ?_);simp[tX,tL,fT,k,x,hc])))
    rintro e a3 V ⟨cH,⟨rfl,ar,H⟩,O,a7,L⟩;exact⟨rfl,M',by rw[g];exact j _ _ _ _ A a7,vM O ar H H,by rw[L,K,y];exact D⟩
   |true=>
    rw[b2]at cl g N;rw[VS rfl]at g;refine wpIn_region_list ?_;rw[<-WS 10 (Array.toList _)];refine dX _ ?_;refine K2.list bH (hn:=[]) (Q:=λb=>fT l t i b/\b.t 25=.pv (.val (.bool true))/\b.t 26=.pv (.val (.func (.yield l) #[] #[]))/\b.t 27=.pv (Z i)/\b.t 28=.pv (iv (aZ t i))) (λo ho=>me (by kernel_rfl) (XR ho)) ?_ ?_
    .simp -implicitDefEqProofs [tX,tL,fT,k,x,hc]
     refine lN cl ?_;simp -implicitDefEqProofs [tX,tL,fT,k,x,hc]
    intro cH a3 V ⟨ar,bc,cd,cf,cg⟩ O a7 L;have I:=j _ _ _ _ A a7;have ch:=s _ _ _ I
    have cB:(iI t)[(fP t i).length]?=some (I9 i,iv (aZ t (i:Int))):=by
     have hL:fE t=fP t t.cells.length:=by simp[fE,R]
     simp[iI,hL,yS N k]
    have hy:=hY (n-1) _ _ M' V _ _ cB I (EE O (m:=27) (by simp[bO,cf])) (EE O (m:=28) (by simp[bO,cg]));refine Gq ?_ rfl rfl rfl (pG O (m:=26) (by simp[bO,cd])) hy ?_
    .exact eN (O.sim (P:=prog) ch).2.2 (by simp[fU,bO,bc])
    rintro e w4 ⟨rfl,M4,bq,cw⟩;refine⟨_,rfl,?_⟩;obtain⟨y0,y1,cM,cN,cP⟩:=ar;have H5:=(O.mono cw).put (d:=29) (by decide) (p:=B true) (.val (.bool true));have K5:fh 33 M4 (tX l t i 25 29 (B true) (B true)) (a3.put (some 29) (.bool true)) w4:=PW H5 (by simp[ag,bO,y0]) (by simp[ag,bO,y1]) (by simp[ag,bO,cM]) (by simp[ag,bO,cN]) (by simp[ag,bO,cP]) (by simp[ag,bO,bc]) (by simp[ag]);refine K5.list (s _ _ _ bq) (hn:=[]) (Q:=λb=>fT l t i b/\b.t 31=.pv (.val (.bool false))) (λo ho c' ck=>by simp at ho;rcases ho with rfl|rfl<;>cases ck) ?_ ?_
    .simp -implicitDefEqProofs [tX,tL,fT]
    intro c0 a6 w6 ⟨cu,H⟩ H6 cz cn;refine⟨rfl,M4,?_,vM H6 cu H H,?_⟩
    .have:(fP t (i+1)).length=(fP t i).length+1:=by rw[g];simp
     rw[this];exact j _ _ _ _ bq cz
    .rw[cn,kM,L,K,y];exact D
  rintro e a3 V ⟨rfl,M3,I,O,L⟩;show Code.wpIn Fence.wide n prog _ _ a3 V;refine wpIn_cond_false (pG O (m:=31) (by simp[tX])) (wpIn_skip ?_);show Code.wpIn Fence.wide n prog _ _ a3 V;refine wpIn_mono (O.step (s _ _ _ I) (Q:=λe b=>e=.normal/\fT l t (i+1) b) (λC hP hN=>?_)) ?_
  .skip
   repeat' (first
    |with_reducible refine aI.seq ?_
    |(with_reducible ((first|refine aI.region hF (hn:=[]) (by kernel_rfl) ?_|refine aI.cond' ?_);simp -implicitDefEqProofs (maxSteps:=2000000) [hP,hN,tX,tL,fT,S]))
    |(with_reducible refine gi (by simp[tX,tL,fT,S]) (λhgd=>?_) (λhgd=>?_)<;>first|(exfalso;simp at hgd;done)|(exfalso;simp at hgd;omega)|simp -implicitDefEqProofs (maxSteps:=2000000) [hP,hN,tX,tL,fT,S])
    |with_reducible refine eZ ?_ ?_
    |(with_reducible refine dY (λhcd=>?_) (λhcd=>?_)<;>(try (exfalso;clear hP hN;simp_all;done))<;>(try (exfalso;simp at *;omega)))
    |with_reducible refine aI.block ?_
    |(with_reducible ((first|refine aI.skip ?_|refine aI.exit ?_|refine aI.ret ?_);simp[tX,tL,fT,S])))
  rintro e a4 w4 ⟨cV,⟨rfl,ct⟩,H4,cx,cm⟩;have K4:=xn H4 ct;refine⟨⟨i+1,M3,by omega,j _ _ _ _ I cx,K4,by rw[cm];exact L⟩,?_⟩
  have cp:vL a4=i+1:=by
   simp only[vL,pG K4 (m:=14) (v:=.int .i64 ((i+1:Nat):Int)) (by simp[tL])];omega
  show(ah t).length-vL a4<(ah t).length-vL a;omega
 .have b0:i=(ah t).length:=by omega
  refine wpIn_seq (wpIn_mono (hH.step bs (Q:=λe b=>e=.normal/\b.t 15=.pv (.val (.bool false))) (λC hP hN=>?_)) ?_)
  .skip
   repeat' (first
    |with_reducible refine aI.seq ?_
    |(with_reducible ((first|refine aI.region hF (hn:=[]) (by kernel_rfl) ?_|refine aI.cond' ?_);simp -implicitDefEqProofs (maxSteps:=2000000) [hP,hN,tL,f]))
    |(with_reducible refine gi (by simp[tL,f]) (λhgd=>?_) (λhgd=>?_)<;>first|(exfalso;simp at hgd;done)|(exfalso;simp at hgd;omega)|simp -implicitDefEqProofs (maxSteps:=2000000) [hP,hN,tL,f])
    |with_reducible refine eZ ?_ ?_
    |(with_reducible refine dY (λhcd=>?_) (λhcd=>?_)<;>(try (exfalso;clear hP hN;simp_all;done))<;>(try (exfalso;simp at *;omega)))
    |with_reducible refine aI.block ?_
    |(with_reducible ((first|refine aI.skip ?_|refine aI.exit ?_|refine aI.ret ?_);simp[tL,f])))
  rintro e F G ⟨a8,⟨rfl,ad⟩,X,E,y⟩;have q:=j _ _ _ _ hJ E;have Y:F.eval (.tmp 15)=.bool false:=pG X (m:=15) (by simp[bO,ad]);show Code.wpIn Fence.wide n prog _ _ F G;refine wpIn_seq (wpIn_cond_false Y (wpIn_exit ?_));show LeavesInM Fence.wide n prog f184 F.tmps _ F.defers .returning G;rw[y,D];refine⟨_,MQ results184 _ _ _,⟨_,rfl⟩,M',?_⟩
  have b1:(iI t).length=(fP t i).length:=by
   cases R:aT t with
   |true=>
    have:=fA R;rw[b0,this];simp[iI,fE,R]
   |false=>
    have:ah t=[]:=by
     simp only[aT]at R;simp[ah,Option.isSome_eq_false_iff.1 R |> YB.1]
    rw[b0,this];simp[iI,fE,R,fP]
  rw[b1];exact q
set_option maxRecDepth 100000 in
theorem Hm:xP prog 138:=by
 refine⟨by kernel_rfl,λn args w=>?_⟩;refine callsDIn_of_wpSIn func138 rfl trivial λe g f=>?_;apply wpSIn_seq;apply wpSIn_region
 have a:∀k,k<f138.ntmps->k<args.size+(f138.ntmps-args.size):=by intro k h;omega
 rw[ntmps138]at a;have b:=a 0 (by decide);have c:=a 1 (by decide);have d:=a 2 (by decide);simp[wpOpsSIn,go_sem,recoverD,f,ntmps138,Exit.thenS,b,c,d];refine wpSIn_cond (t:=false) (by simp[Act.eval,b,c,d]) ?_;simp only[VP,VZ];refine wpSIn_of_wpIn rfl (wpIn_skip ?_);cases e
 simp_all[bodyPostS,results,results138]
theorem Tz(t:Tr):bh 139 (eT t) (.fn (.func 184) [] [.rptr (eT t) 0]):=by
 refine Dp func139 λC hP hN=>?_;exact Gy
def LI(b a:Nat)(acc:List Nat)(h:Hp):Prop:=(acc=[]/\h b=some (.box [.pv (.val (.slice none 0 0))] false false)/\h a=none)\/(acc≠[]/\h b=some (.box [.arr a acc.length] false false)/\h a=some (.row 3 1 (acc.map I9) 0))
theorem Ja{x:PV×PV}(h:(iI t)[i]?=some x):∃e,(fE t)[i]?=some e/\x=(I9 e,iv (aZ t (e:Int))):=by
 rw[iI,VN,VK]at h;obtain⟨e,a,b⟩:=h;exact⟨e,a,b.symm⟩
theorem KP{l:List Nat}(h:l[i]?=some e):l.take (i+1)=l.take i++[e]:=by
 obtain⟨a,b⟩:=th.1 h;rw[WF a,b]
theorem EF(t:Tr):(fE t).length<=2048:=by
 cases a:aT t with
 |false=>simp[fE,a]
 |true=>
  have:=eg.1 (je a);have:=EZ t t.cells.length;simp[fE,a];omega
theorem xU{b:Blk}(e:h k=some b)(d:∀a f,b≠.box a false f):∀a f,h k≠some (.box a false f):=by
 intro a f c;rw[e]at c;injection c with c;exact d a f c
set_option maxRecDepth 100000 in
theorem Vf(t:Tr)(F:aT t=true)(L:t.cells.length<=9223372036854775807):aQ prog 79 [.pv (eT t)] [] [] (.nrow 3 1 ((fE t).map I9)):=by
 refine Ff (args:=[eT t]) func79 rfl (by kernel_rfl) (by simp[f79]) ?_;intro C hP hN n;simp only[f79]at hN|-;have hF:=gV;refine oQ.seq n ?_;refine GV trivial ?_;refine oQ.defer (pre:=[_]) (hn:=[]) (g:=138) rfl (λo J R D=>by simp at J;subst J;cases D) rfl rfl rfl rfl rfl (by rw[hP];exact Hm) ?_;simp -implicitDefEqProofs [hP,hN];refine oQ.range n (gf:=184) (caps:=[.rptr (eT t) 0]) (xs:=iI t) (by rw[hP];exact Ty t L) (by rw[hN];decide) (by rw[hN];decide) (ks:=[2]) (hin:=λ_=>[.val (.slice none 0 0)]) (t:=λm=>if m=2 then .ptr 2 0 else .undef) ?_ (λi h=>LI 2 12 ((fE t).take i) h) ?_ ?_ ?_ (by kernel_rfl) (hn:=[]) ?_
 .skip
  have S:=Tz t;refine GV trivial ?_
  all_goals (intro m;by_cases M:m=2<;>simp[M])
 .left;simp[kO]
 .intro i h k H hi
  simp at H;subst H;rcases hi with⟨_,G,_⟩|⟨_,G,_⟩
  all_goals exact⟨_,G⟩
 .intro P Q l i x h z v A y O u
  obtain⟨e,K,rfl⟩:=Ja O;have B:=KP K;have N:=EF t
  have I:((fE t).take i).length<=2048:=by rw[WD];omega
  rw[B];generalize(fE t).take i=j at *;have hF:=Am l;have q:=hP;have p:=hN;clear hP hN;have hP:=z.trans q;have hN:=v.trans p;have c:=A.trans q;have b:=y.trans p
  have s:(j.length+1)*8<=140737488355328:=by omega
  have f:j.length+1<=9223372036854775807:=by omega
  rcases u with⟨rfl,d,a⟩|⟨E,d,a⟩
  .skip
   repeat' (first
    |with_reducible refine aI.seq ?_
    |(with_reducible ((first|refine aI.region hF (hn:=[]) (by kernel_rfl) ?_|refine aI.cond' ?_);simp -implicitDefEqProofs (maxSteps:=2000000) [hP,hN,c,b,qE,d,a]))
    |(with_reducible refine gi (by simp[c,b,qE,d,a]) (λhgd=>?_) (λhgd=>?_)<;>first|(exfalso;simp at hgd;done)|(exfalso;simp at hgd;omega)|simp -implicitDefEqProofs (maxSteps:=2000000) [hP,hN,c,b,qE,d,a])
    |with_reducible refine eZ ?_ ?_
    |(with_reducible refine dY (λhcd=>?_) (λhcd=>?_)<;>(try (exfalso;clear hP hN;simp_all;done))<;>(try (exfalso;simp at *;omega)))
    |with_reducible refine aI.block ?_
    |(with_reducible ((first|refine aI.skip ?_|refine aI.exit ?_|refine aI.ret ?_);simp[c,b,qE,d,a])))
   all_goals exact .inr ⟨by simp,by simp[ag],by simp[ag]⟩
  .skip
   repeat' (first
    |with_reducible refine aI.seq ?_
    |(with_reducible ((first|refine aI.region hF (hn:=[]) (by kernel_rfl) ?_|refine aI.cond' ?_);simp -implicitDefEqProofs (maxSteps:=2000000) [hP,hN,c,b,qE,d,a,s,f]))
    |(with_reducible refine gi (by simp[c,b,qE,d,a,s,f]) (λhgd=>?_) (λhgd=>?_)<;>first|(exfalso;simp at hgd;done)|(exfalso;simp at hgd;omega)|simp -implicitDefEqProofs (maxSteps:=2000000) [hP,hN,c,b,qE,d,a,s,f])
    |with_reducible refine eZ ?_ ?_
    |(with_reducible refine dY (λhcd=>?_) (λhcd=>?_)<;>(try (exfalso;clear hP hN;simp_all;done))<;>(try (exfalso;simp at *;omega)))
    |with_reducible refine aI.block ?_
    |(with_reducible ((first|refine aI.skip ?_|refine aI.exit ?_|refine aI.ret ?_);simp[c,b,qE,d,a,s,f])))
   all_goals exact .inr ⟨by simp,by simp[ag],by simp[ag]⟩
 .intro h u
  have r:(fE t).take (iI t).length=fE t:=Wg (by simp[iI]);rw[r]at u;rcases u with⟨e,d,a⟩|⟨E,d,a⟩
  .have:=E1 F
   rw[e]at this;simp at this
  .simp -implicitDefEqProofs [hP,hN,d,a]
def fI(e sz:Nat)(ys:List PV):Hp:=λk=>if k=291 then some (.row e sz ys 0)else none
theorem fZ{b:Blk}(h:fI e sz ys k=some b):k=291/\b=.row e sz ys 0:=by
 unfold fI at h;split at h
 .rename_i a;injection h with h;exact⟨a,h.symm⟩
 .cases h
theorem Jf{hK:Hp}{g:FuncId}(Z:o.op=.call {callee:=.value f,args:=xs.toArray,argTypes:=ats})(hd:o.dst=some d)(b2:hK d=none)
 (bc:cJ (ρ f)=some (g,[],[]))(m:xs.map ρ=args.map AV.pv)(hD:nY P g (args.map .pv) mw (λr h'=>r=.tup [.agg (pre.map .pv++[.arr 291 ys.length]),.pv q]/\h'=fI e sz ys)):
 mb P o ρ hK (.tup [.agg (pre.map .pv++[.arr d ys.length]),.pv q]) [(d,.row e sz ys 0)]:=by
 intro C L h S T hP hm hs hf hρ next Q O
 subst hP;obtain⟨a,a6⟩:=hD
 have bq:h d=none:=by rw[<-(hf d hd).1];exact b2
 have J:∀x,x=f\/x∈xs->RepA S (ae C L h) L h (ρ x) (T.eval x):=λx z=>hρ x (by rw[Z];rcases z with rfl|z<;>simp[Op.operands,Call.operands, *]);obtain⟨vs,us,bs,b9,ca⟩:=jo (J f (.inl rfl)) bc;have cd:=b9.nil_inv;have b8:=ca.nil_inv;subst cd;subst b8
 have a7:∀b o,vN (ae C L h) L mw b o->ae C L h b o:=by
  rintro b o (M|⟨k,D,c,_⟩)
  .exact M
  .cases c
 have E:=a6 S (ae C L h) L (xs.map T.eval) (λb o M=>hm.mlt M) ⟨λk b c=>(by cases c),λk k' b R _ c=>(by cases c),λk b c=>(by cases c),λk cs f c=>(by cases c)⟩ (by
  rw[<-m];refine⟨by simp,λi p u hp B=>?_⟩;have ad:=hp;rw[m,VN,VK]at ad;obtain⟨p0,_,rfl⟩:=ad;simp only[VN,VK]at hp B;obtain⟨x,z,ch⟩:=hp;obtain⟨y,hy,rfl⟩:=B;rw[z]at hy;injection hy with hy;subst hy;have:=J x (.inr (Is z));rw[ch]at this
  cases this with
  |pv hr=>exact .pv (hr.mono (Pres.sub a7)))
 have ar:(execOp T.eval o).run C.P S=.ok (.enter g (xs.map T.eval).toArray) S:=by
  unfold dm at a
  cases N:C.P.funcs[g]? with
  |none=>rw[N]at a;cases a
  |some fn=>
   rw[N]at a;simp only[An,Wy,WY,ne_eq]at a
   have hb:fn.body.isNone=false:=by cases cm:fn.body<;>simp_all
   unfold execOp;rw[Z];simp only[resolve,bs,Deferred.ofValue,pure_bind,Sem.run_bind,Result.andThen_ok,invoke,callFunc,program,Sem.run,N];simp[a.2,hb]
 unfold Oper.wp;rw[ar];simp only[Oper.upon];refine E.mono ?_;rintro ee w' ⟨v,r,A,h',rfl,z,cn,b5,hr,ck,⟨rfl,rfl⟩,_,_,X⟩
 have b3:∀b,¬mZ mw L b:=by rintro b ⟨k,D,c,_⟩;cases c
 have b4:∀b,¬jL mw L b:=by rintro b ⟨k,D,c,_⟩;cases c
 have cg:Ext (λ_=>False) S w':=⟨z.os,z.tape,z.output,z.size,λR a8 _=>z.block R a8 (b3 R)⟩
 have G:fI e sz ys 291=some (.row e sz ys 0):=by simp[fI]
 have hb:=b5.bl 291 _ G;have ba:(A 291).isNil=false->S.heap.size<=(A 291).b:=λhn=>(X 291 _ G rfl hn).elim id λM=>absurd M (b4 _)
 have s:∀b o,(ae C L h b o\/((A 291).isNil=false/\b=(A 291).b))->vN (ae C L h) A (fI e sz ys) b o:=by
  rintro b o (M|⟨hn,rfl⟩)
  .exact .inl M
  .exact .inr ⟨291,_,G,hn,rfl,by simp[Blk.frz]⟩
 have bb:dO w' (λR o=>ae C L h R o\/((A 291).isNil=false/\R=(A 291).b)) (λ_=>default) (λ_=>none) (A 291) (.row e sz ys 0):=by
  obtain⟨c1,c2,c3,c4,c5⟩:=hb;refine⟨c1,c2,c3,c4,λhn=>?_⟩;obtain⟨d1,d2,arr,d3,d4,d5⟩:=c5 hn;refine⟨d1,d2,arr,d3,d4,λi x j p cf hj=>?_⟩;obtain⟨u,B,n⟩:=d5 i x j p cf hj;exact⟨u,B,n.mono (Pres.sub s)⟩
 generalize hl:A 291=l at *;have Y:=lm (e:=e) (sz:=sz) (xs:=ys) hm cg bq (hf d hd).2 ba bb
 have K:∀b o,ae C (ag L d l) (ag h d (some (.row e sz ys 0))) b o->vN (ae C L h) A (fI e sz ys) b o:=by
  rintro b o (U|⟨k,D,c,I,H,bH⟩)
  .exact .inl (.inl U)
  .by_cases W:k=d
   .subst W
    rw[aJ]at c H I;injection c with c;subst c;exact s b o (.inr ⟨I,H.symm⟩)
   .rw[bN W]at c H I
    exact .inl (.inr ⟨k,D,c,I,H,bH⟩)
 refine O _ _ (ag L d l) (by rw[iZ];exact Y.1) ?_;rw[iZ]
 cases hr with
 |tup _ vs cb hh=>
  refine .tup _ _ (by simpa using cb) (λi p u hp B=>?_)
  match i,hp with
  |0,hp=>
   simp only[W9,VQ]at hp;subst hp;have U:=hh 0 _ u rfl B
   cases U with
   |agg _ us a5 V=>
    have cj:us.length=pre.length+1:=by simpa using a5.symm
    refine .agg _ _ (by simpa using a5) (λi p u hp B=>?_);by_cases hi:i<pre.length
    .rw[VO (by simpa using hi),VN,an hi]at hp
     simp only[WG,VQ]at hp;subst hp;have:=V i (.pv pre[i]) u (by rw[VO (by simpa using hi),VN,an hi];rfl) B
     cases this with
     |pv n=>exact .pv (n.mono (Pres.sub K))
    .have b1:=(th.1 hp).1
     have b0:i=pre.length:=by simp at b1;omega
     subst b0;rw[VR (by simp)]at hp;simp only[Wp,XU,W9,VQ]at hp;subst hp;have:=V pre.length (.arr 291 ys.length) u (by rw[VR (by simp)];simp) B
     cases this with
     |arr F cp b7=>
      rw[G]at F;injection F with F;injection F with T a2 a3 a4;subst a3;rw[b7 rfl,hl];exact Y.2
  |1,hp=>
   simp only[X7,W9,VQ]at hp;subst hp;have U:=hh 1 (.pv q) u rfl B
   cases U with
   |pv n=>exact .pv (n.mono (Pres.sub K))
  |i+2,hp=>simp at hp
theorem Hu{g:FuncId}(k:o.op=.call {callee:=.value f,args:=xs.toArray,argTypes:=ats})(hd:o.dst=some d)(n:o.guard=none)(i:dv N o.dst=true)(j:st.h d=none)
 (c:cJ (st.ev f)=some (g,[],[]))(b:xs.map st.ev=args.map AV.pv)(m:nY P g (args.map .pv) mw (λr l=>r=.tup [.agg (pre.map .pv++[.arr 291 ys.length]),.pv q]/\l=fI e sz ys)):
 oh P hn N ops o st ⟨o.dst,.tup [.agg (pre.map .pv++[.arr d ys.length]),.pv q],[(d,.row e sz ys 0)],[d]⟩:=by
 refine⟨i,rfl,.inl ⟨by simp[fU,n],λd9 a=>by rw[hd]at a;injection a with a;simp[a],?_,by simp⟩⟩;exact Jf k hd (by simp[bY,j]) c b m
theorem Hw{c:Code}(d a:Nat){xs:List PV}(hd:st.h d=some (.row e sz xs fz))(b:st.h a=none)(i:d≠a)(g:a<2000000)(h:WP C c Q ⟨λn=>bQ d a (st.t n),bE d a st.h⟩):WP C c Q st:=
 WP.ren d a i b g (by rw[hd];intro k f j;cases j) h
theorem WP.freeze{c:Code}(s:Nat){xs:List PV}(j:st.h k=some (.row e sz xs fz))(r:st.t s=.arr k xs.length)(h:WP C c Q ⟨ag st.t s (.pv (.sl xs)),ag st.h k (some (.row e sz xs xs.length))⟩):WP C c Q st:=by
 intro a w q;obtain⟨L,o,hN,i,f⟩:=q;obtain⟨g,m⟩:=z7 o j;refine h a w ⟨L,g.1,hN,i,λn=>?_⟩;have d:=(f n).mono g.2.1 g.2.2;show RepA w _ L _ (ag st.t s (.pv (.sl xs)) n) _;by_cases hn:n=s
 .subst hn
  rw[aJ];have l:=f n;rw[r]at l
  cases l with
  |arr b p u=>
   rw[j]at b;injection b with b;injection b with _ _ a3 _;subst a3;rw[u rfl];exact .pv m
 .rw[bN hn];exact d
theorem EH{t t':TypeId}{x y:Operand}{a b c:Bool}(d:o.op=.binOp .neq t x y t')(e:ρ x=.pv (.val (.bool a)))(f:ρ y=.pv (.val (.bool b)))
 (j:P.eqGuardType P.depth t=false)(h:am P (Op.equal t (.bool a) (.bool b))=some c):bL P o ρ=some (.pv (.val (.bool !c)),[]):=by
 refine eo (by rw[d];simp[Op.operands,e,f,fu]) ?_;unfold execOp;rw[d];simp only[(bT e).2,(bT f).2]
 have g:am P (eqGuard .neq t x y (.bool a) (.bool b))=some ():=by
  unfold eqGuard;simp only[Xv,VP,VZ,ai,jQ,VX,j,Yz,V8];rfl
 have i:am P (binOp .neq t (.bool a) (.bool b))=some (.bool !c):=by
  simp only[binOp,ai,h,VX];rfl
 simp only[ai,g,i,VX];rfl
theorem WP.nilsl{c:Code}(s:Nat)(j:st.t s=.pv (.val (.slice none 0 0)))(h:WP C c Q ⟨ag st.t s (.pv (.sl [])),st.h⟩):WP C c Q st:=by
 intro a w i;obtain⟨L,f,hN,d,b⟩:=i;refine h a w ⟨L,f,hN,d,λn=>?_⟩;show RepA w _ L _ (ag st.t s (.pv (.sl [])) n) _;by_cases hn:n=s
 .subst hn
  rw[aJ];have e:=b n;rw[j]at e
  cases e with
  |pv g=>rw[aU g];exact .pv (.sl0 none 0)
 .rw[bN hn];exact b n
abbrev mN(r:Bx)(v:Verd):Tr:=⟨r,[aD v]⟩
def AB(r:Bx)(v:Verd):Spc:={root:=r,cells:=[aD v],bx:=[r],near:=[[]],jn:=[-1]}
theorem Mi{r:Bx}{v:Verd}(a:aT (mN r v)=true):fE (mN r v)=[0]:=by
 unfold fE;rw[VS a];rfl
theorem BT:LookH (fI e sz ys):=
 ⟨λk b a=>by obtain⟨rfl,_⟩:=fZ a;rfl,λk b o a=>by obtain⟨_,rfl⟩:=fZ a;simp[Blk.frz],λk b a=>by obtain⟨_,rfl⟩:=fZ a;rfl,λk d o f a=>by obtain⟨_,c⟩:=fZ a;cases c⟩
theorem Ps(r:Bx)(v:Verd)(hv:aT (mN r v)=true):nY prog 34 [.agg [.pv (iv r),.arr 291 1]] (fI 58 8 [bw (aD v)]) (λr' h'=>r'=.ptr 290 0/\h'=bo true (AB r v) 0):=by
 have cl:aQ prog 79 [.pv (.agg [iv r,.sl [bw ⟨-1,-1,-1,v⟩]])] [] [] (.nrow 3 1 [Z 0]):=by
  have:=Vf (mN r v) hv (by simp);rw[Mi hv]at this;exact this
 have O:fI 58 8 [bw (aD v)] 291=some (.row 58 8 [bw (aD v)] 0):=by simp[fI]
 have J:∀k,k≠291->fI 58 8 [bw (aD v)] k=none:=λk h=>by simp[fI,h]
 refine Hs func34 BT ?_;intro C hP hN;simp only[f34]at hN|-;generalize ar:fI 58 8 [bw (aD v)]=RR at *
 with_reducible repeat' (first|refine Sp.h ?_|((first|refine Wh [1000019] ?_|refine Wi [1000019] ?_|refine Ss.h ?_|(refine Sb.h ?_ ?_ ?_<;>(try intro hgd)<;>try exact Xy))<;>simp -implicitDefEqProofs (maxSteps:=2000000) [hP,hN,tQ,O,J,aD]<;>try refine Yc ?_)|refine X2 ?_ ?_|(refine Xd ?_ ?_<;>intro hcd<;>try exact Xx))
 refine WP.loopN [6] 1 (λi st=>st.t 1=.ptr 1 0/\st.t 4=.ptr 23 0/\st.t 32=.arr 291 1/\st.t 33=.pv (Z 1)/\st.t 34=.pv (Z i)/\st.h 6=none/\st.h 78=none/\st.h 1=some (.box [.pv (iv r),.arr 291 1] true false)/\st.h 291=some (.row 58 8 [bw (aD v)] 0)/\st.h 17=some (.row 39 1 [iv r] 0)/\st.h 19=some (.box [dE] true false)/\st.h 21=some (.row 3 1 [if i=0 then Z 0 else Z (-1)] 0)/\st.h 23=some (.box [.pv (iv r),.arr 291 1,.arr 17 1,.ext (.barr 19 1 1),.arr 21 1] true false)/\∀k,290<=k->k≠291->st.h k=none) ?_ ?_
 .simp[St.kill,az,bG,bC,aK,ag,XV.key,O,J]
  exact λk y s h3=>by simp[s,h3,show¬k=1 by omega,show¬k=17 by omega,show¬k=19 by omega,show¬k=21 by omega,show¬k=23 by omega,J k s]
 rintro i st hi ⟨g1,g4,F,G,I,b6,E,S,a,z,A,u,B,l⟩;by_cases bq:i<1
 .have a1:i=0:=by omega
  subst a1;simp only[V8]at u
  with_reducible repeat' (first|refine Sp.h ?_|((first|refine Wd ?_|refine Ss.h ?_|(refine Sb.h ?_ ?_ ?_<;>(try intro hgd)<;>try exact Xy))<;>simp -implicitDefEqProofs (maxSteps:=2000000) [hP,hN,g1,g4,F,G,I,b6,E,S,a,z,A,u,B,aD]<;>try refine Yc ?_)|refine X2 ?_ ?_|(refine Xd ?_ ?_<;>intro hcd<;>try exact Xx))
  exact⟨aa (by omega) (by omega),λk y s h3=>by simp[s,h3,show¬k=21 by omega,l k y s]⟩
 .have a2:i=1:=by omega
  subst a2;simp only[Nat.one_ne_zero,VZ]at u
  with_reducible repeat' (first|refine Sp.h ?_|((first|refine Wd ?_|refine Ss.h ?_|refine Sc.h (cl) ?_|(refine Sb.h ?_ ?_ ?_<;>(try intro hgd)<;>try exact Xy))<;>simp -implicitDefEqProofs (maxSteps:=2000000) [hP,hN,g1,g4,F,G,I,b6,E,S,a,z,A,u,B,aD]<;>try refine Yc ?_)|refine X2 ?_ ?_|(refine Xd ?_ ?_<;>intro hcd<;>try exact Xx))
  refine WP.freeze 7 (k:=78) (e:=3) (sz:=1) (fz:=0) (xs:=[Z 0]) (by simp[ag]) (by simp[ag]) ?_;refine WP.freeze 79 (k:=78) (e:=3) (sz:=1) (fz:=1) (xs:=[Z 0]) (by simp[ag]) (by simp[ag]) ?_;refine WP.of_st (P:=λst=>st.t 4=.ptr 23 0/\st.t 7=.pv (.sl [Z 0])/\st.t 79=.pv (.sl [Z 0])/\st.t 80=.pv (Z 1)/\st.t 81=.pv (Z 0)/\st.h 23=some (.box [.pv (iv r),.arr 291 1,.arr 17 1,.ext (.barr 19 1 1),.arr 21 1] true false)/\st.h 17=some (.row 39 1 [iv r] 0)/\st.h 19=some (.box [dE] true false)/\st.h 21=some (.row 3 1 [Z (-1)] 0)/\st.h 291=some (.row 58 8 [bw (aD v)] 0)/\∀k,290<=k->k≠291->k≠23->k≠17->k≠19->k≠21->st.h k=none) ⟨⟨by simp[g4,ag],by simp[ag],by simp[ag],by simp[ag],by simp[ag],by simp[ag,B],by simp[ag,z],by simp[ag,A],by simp[ag,u],by simp[ag,a],λk y s _ _ _ _=>by simp[ag,show¬k=78 by omega,l k y s]⟩,?_⟩;clear g1 g4 F G I b6 E S a z A u B l st;rintro st ⟨g4,p,b,d,g,bx,m,n,o,a,l⟩;refine WP.ren 23 290 (by omega) (l 290 (by omega) (by omega) (by omega) (by omega) (by omega) (by omega)) (by omega) (xU bx (by intro cs f e;cases e)) ?_;refine WP.of_st (P:=λst=>st.t 4=.ptr 290 0/\st.t 7=.pv (.sl [Z 0])/\st.t 79=.pv (.sl [Z 0])/\st.t 80=.pv (Z 1)/\st.t 81=.pv (Z 0)/\st.h 290=some (.box [.pv (iv r),.arr 291 1,.arr 17 1,.ext (.barr 19 1 1),.arr 21 1] true false)/\st.h 17=some (.row 39 1 [iv r] 0)/\st.h 19=some (.box [dE] true false)/\st.h 21=some (.row 3 1 [Z (-1)] 0)/\st.h 291=some (.row 58 8 [bw (aD v)] 0)/\∀k,290<=k->k≠291->k≠290->k≠17->k≠19->k≠21->st.h k=none) ⟨⟨by simp[bQ,bn,rk,g4],by simp[bQ,bn,p],by simp[bQ,bn,b],by simp[bQ,bn,d],by simp[bQ,bn,g],by simp[bE,df,bQ,bn,jr,rk,g4,bx,m,n,o,a],by simp[bE,df,bQ,bn,jr,rk,g4,bx,m,n,o,a],by simp[bE,df,bQ,bn,jr,rk,g4,bx,m,n,o,a],by simp[bE,df,bQ,bn,jr,rk,g4,bx,m,n,o,a],by simp[bE,df,bQ,bn,jr,rk,g4,bx,m,n,o,a],λk y s K L M N=>?_⟩,?_⟩
  .by_cases e:k=23
   .simp[bE,e]
   .simp[bE,e,K,l k y s e L M N]
  clear g4 p b d g bx m n o a l st;rintro st ⟨g4,p,b,d,g,bx,m,n,o,a,l⟩;refine WP.ren 17 292 (by omega) (l 292 (by omega) (by omega) (by omega) (by omega) (by omega) (by omega)) (by omega) (xU m (by intro cs f e;cases e)) ?_;refine WP.of_st (P:=λst=>st.t 4=.ptr 290 0/\st.t 7=.pv (.sl [Z 0])/\st.t 79=.pv (.sl [Z 0])/\st.t 80=.pv (Z 1)/\st.t 81=.pv (Z 0)/\st.h 290=some (.box [.pv (iv r),.arr 291 1,.arr 292 1,.ext (.barr 19 1 1),.arr 21 1] true false)/\st.h 292=some (.row 39 1 [iv r] 0)/\st.h 19=some (.box [dE] true false)/\st.h 21=some (.row 3 1 [Z (-1)] 0)/\st.h 291=some (.row 58 8 [bw (aD v)] 0)/\∀k,290<=k->k≠291->k≠290->k≠292->k≠19->k≠21->st.h k=none) ⟨⟨by simp[bQ,bn,rk,g4],by simp[bQ,bn,p],by simp[bQ,bn,b],by simp[bQ,bn,d],by simp[bQ,bn,g],by simp[bE,df,bQ,bn,jr,rk,g4,bx,m,n,o,a],by simp[bE,df,bQ,bn,jr,rk,g4,bx,m,n,o,a],by simp[bE,df,bQ,bn,jr,rk,g4,bx,m,n,o,a],by simp[bE,df,bQ,bn,jr,rk,g4,bx,m,n,o,a],by simp[bE,df,bQ,bn,jr,rk,g4,bx,m,n,o,a],λk y s K L M N=>?_⟩,?_⟩
  .by_cases e:k=17
   .simp[bE,e]
   .simp[bE,e,L,l k y s K e M N]
  clear g4 p b d g bx m n o a l st;rintro st ⟨g4,p,b,d,g,bx,m,n,o,a,l⟩;refine WP.ren 19 293 (by omega) (l 293 (by omega) (by omega) (by omega) (by omega) (by omega) (by omega)) (by omega) (xU n (by intro cs f e;cases e)) ?_;refine WP.of_st (P:=λst=>st.t 4=.ptr 290 0/\st.t 7=.pv (.sl [Z 0])/\st.t 79=.pv (.sl [Z 0])/\st.t 80=.pv (Z 1)/\st.t 81=.pv (Z 0)/\st.h 290=some (.box [.pv (iv r),.arr 291 1,.arr 292 1,.ext (.barr 293 1 1),.arr 21 1] true false)/\st.h 292=some (.row 39 1 [iv r] 0)/\st.h 293=some (.box [dE] true false)/\st.h 21=some (.row 3 1 [Z (-1)] 0)/\st.h 291=some (.row 58 8 [bw (aD v)] 0)/\∀k,290<=k->k≠291->k≠290->k≠292->k≠293->k≠21->st.h k=none) ⟨⟨by simp[bQ,bn,rk,g4],by simp[bQ,bn,p],by simp[bQ,bn,b],by simp[bQ,bn,d],by simp[bQ,bn,g],by simp[bE,df,bQ,bn,jr,rk,g4,bx,m,n,o,a],by simp[bE,df,bQ,bn,jr,rk,g4,bx,m,n,o,a],by simp[bE,df,bQ,bn,jr,rk,g4,bx,m,n,o,a],by simp[bE,df,bQ,bn,jr,rk,g4,bx,m,n,o,a],by simp[bE,df,bQ,bn,jr,rk,g4,bx,m,n,o,a],λk y s K L M N=>?_⟩,?_⟩
  .by_cases e:k=19
   .simp[bE,e]
   .simp[bE,e,M,l k y s K L e N]
  clear g4 p b d g bx m n o a l st;rintro st ⟨g4,p,b,d,g,bx,m,n,o,a,l⟩;refine WP.ren 21 294 (by omega) (l 294 (by omega) (by omega) (by omega) (by omega) (by omega) (by omega)) (by omega) (xU o (by intro cs f e;cases e)) ?_;refine WP.of_st (P:=λst=>st.t 4=.ptr 290 0/\st.t 7=.pv (.sl [Z 0])/\st.t 79=.pv (.sl [Z 0])/\st.t 80=.pv (Z 1)/\st.t 81=.pv (Z 0)/\st.h 290=some (.box [.pv (iv r),.arr 291 1,.arr 292 1,.ext (.barr 293 1 1),.arr 294 1] true false)/\st.h 292=some (.row 39 1 [iv r] 0)/\st.h 293=some (.box [dE] true false)/\st.h 294=some (.row 3 1 [Z (-1)] 0)/\st.h 291=some (.row 58 8 [bw (aD v)] 0)/\∀k,290<=k->k≠291->k≠290->k≠292->k≠293->k≠294->st.h k=none) ⟨⟨by simp[bQ,bn,rk,g4],by simp[bQ,bn,p],by simp[bQ,bn,b],by simp[bQ,bn,d],by simp[bQ,bn,g],by simp[bE,df,bQ,bn,jr,rk,g4,bx,m,n,o,a],by simp[bE,df,bQ,bn,jr,rk,g4,bx,m,n,o,a],by simp[bE,df,bQ,bn,jr,rk,g4,bx,m,n,o,a],by simp[bE,df,bQ,bn,jr,rk,g4,bx,m,n,o,a],by simp[bE,df,bQ,bn,jr,rk,g4,bx,m,n,o,a],λk y s K L M N=>?_⟩,?_⟩
  .by_cases e:k=21
   .simp[bE,e]
   .simp[bE,e,N,l k y s K L M e]
  clear g4 p b d g bx m n o a l st;rintro st ⟨g4,p,b,d,g,bx,m,n,o,a,l⟩;refine WP.nilRows (λq=>decide (q=300)) 3 293 (cs:=[dE]) (cs':=[.arr 300 0]) (own:=true) (fb:=false) n ?_ rfl ?_ ?_
  .intro q hq
   simp only[L4]at hq;exact⟨l q (by omega) (by omega) (by omega) (by omega) (by omega) (by omega),by omega⟩
  .intro i x hx
   cases i with
   |zero=>simp at hx;exact .inr ⟨rfl,300,by simp,hx.symm⟩
   |succ i=>simp at hx
  refine WP.of_st (P:=λst=>st.t 4=.ptr 290 0/\st.t 7=.pv (.sl [Z 0])/\st.t 79=.pv (.sl [Z 0])/\st.t 80=.pv (Z 1)/\st.t 81=.pv (Z 0)/\∀k,inK k=true->st.h k=bo true (AB r v) 0 k) ⟨⟨g4,p,b,d,g,λk R=>?_⟩,?_⟩
  .simp only[inK,An,L4]at R
   simp only;by_cases T:k=290
   .subst T;simp[bx];rfl
   by_cases U:k=291
   .subst U;simp[a];rfl
   by_cases V:k=292
   .subst V;simp[m];rfl
   by_cases Q:k=293
   .subst Q;simp;rfl
   by_cases W:k=294
   .subst W;simp[o];rfl
   by_cases e5:k=300
   .subst e5;simp;rfl
   unfold bo;rw[VM T,VM U,VM V,VM Q,VM W,VM (c:=300<=k/\k<300+(AB r v).near.length) (by simp[AB];omega)];simp[Q,e5,l k (by omega) U T V Q W]
  clear g4 p b d g bx m n o a l st;rintro st ⟨g4,p,b,d,g,D⟩;refine WP.loopN [] 1 (λk st=>st.t 4=.ptr 290 0/\st.t 7=.pv (.sl [Z 0])/\st.t 79=.pv (.sl [Z 0])/\st.t 80=.pv (Z 1)/\st.t 81=.pv (Z k)/\∀q,inK q=true->st.h q=bo true (AB r v) 0 q) ?_ ?_
  .refine⟨by simp[St.kill,az,bC,aK,g4],by simp[St.kill,az,bC,aK,p],by simp[St.kill,az,bC,aK,b],by simp[St.kill,az,bC,aK,d],by simp[St.kill,az,bC,aK,g],λq hq=>?_⟩
   show(st.h q).map (bG [])=_;rw[D q hq,kS]
  clear g4 p b d g D st;rintro k st R ⟨g4,p,b,d,g,D⟩;by_cases a8:k<1
  .have a6:k=0:=by omega
   subst a6
   with_reducible repeat' (first|refine Sp.h ?_|((first|refine Wd ?_|refine Ss.h ?_|(refine Sb.h ?_ ?_ ?_<;>(try intro hgd)<;>try exact Xy))<;>simp -implicitDefEqProofs (maxSteps:=2000000) [hP,hN,g4,p,b,d,g,lZ,qJ]<;>try refine Yc ?_)|refine X2 ?_ ?_|(refine Xd ?_ ?_<;>intro hcd<;>try exact Xx))
   refine WP.loopN [] 0 (λj st=>st.t 4=.ptr 290 0/\st.t 7=.pv (.sl [Z 0])/\st.t 79=.pv (.sl [Z 0])/\st.t 80=.pv (Z 1)/\st.t 81=.pv (Z 0)/\st.t 88=.pv (.sl [])/\st.t 89=.pv (Z 0)/\st.t 90=.pv (Z j)/\∀q,inK q=true->st.h q=bo true (AB r v) 0 q) ?_ ?_
   .refine⟨by simp[St.kill,az,bC,aK,ag,g4],by simp[St.kill,az,bC,aK,ag,p],by simp[St.kill,az,bC,aK,ag,b],by simp[St.kill,az,bC,aK,ag,d],by simp[St.kill,az,bC,aK,ag,g],by simp[St.kill,az,bC,aK,ag],by simp[St.kill,az,bC,aK,ag],by simp[St.kill,az,bC,aK,ag],λq hq=>?_⟩
    show(st.h q).map (bG [])=_;rw[D q hq,kS]
   clear g4 p b d g D st;rintro j st hj ⟨g4,p,b,d,g,X,Y,ad,D⟩
   have a5:j=0:=by omega
   subst a5;refine HP (so g4 p b d g X Y ad) ?_
   all_goals exact⟨aa (by omega) (by omega),λq hq=>by rw[D q hq,kS]⟩
  .have a7:k=1:=by omega
   subst a7;refine HP (f8 g4 p b d g) ?_
   exact xq (H:=bo true (AB r v) 0) (r:=.ptr 290 0) rfl rfl D (pc (by simp[AB])) ⟨rfl,rfl⟩ (λk cs f R=>by
    subst ar
    obtain⟨_,h9⟩:=fZ R;cases h9)
theorem zF{L:OL}(h:dz t=some L){b:Bx}(c:L[i]?=some (some b)):aZ t (i:Int)=b:=by
 rw[j5 h]at c;rw[VN,VK]at c;obtain⟨x,d,a⟩:=c;injection a with a;subst a;simp[aZ,d]
theorem zG(b:aT t=true):aZ t 0=t.root:=by
 obtain⟨L,hL⟩:=Wo.1 b;have hP:=kJ (P:=λ_ M=>M[0]?=some (some t.root)) hL (by simp[j0]) (λk d M c _ hp a=>AL a hp);exact zF hL hP
def eX(t:Tr)(i:Int):Bool:=aT t&&decide (0<=i)&&decide (i<t.cells.length)
def dt(t:Tr)(i:Int):Bx:=if eX t i then aZ t i else[]
theorem pH{i:Int}(h:eX t i=false):dt t i=[]:=by simp[dt,h]
theorem Vg(t:Tr)(i:Int)(s:t.cells.length<=9223372036854775807):aH 74 (eT t) (Z i) (.tup [iv (dt t i),B (eX t i)]):=by
 have p:=KJ t s
 cases g:aT t with
 |false=>
  have a:eX t i=false:=by simp[eX,g]
  rw[pH a,a];rw[g]at p;refine Dp func74 λC hP hN=>?_;exact GS trivial
 |true=>
  rw[g]at p;have j:=fA g;have u:=eg.1 (je g);by_cases l:i<0
  .have a:eX t i=false:=by
    have:decide (0<=i)=false:=by simp;omega
    simp only[eX,this,Xi,Ww]
   rw[pH a,a];refine Dp func74 λC hP hN=>?_;exact GS l
  .obtain⟨k,rfl⟩:=Xj (show 0<=i by omega)
   by_cases q:t.cells.length<=k
   .have a:eX t k=false:=by
     have:decide ((k:Int)<t.cells.length)=false:=by simp;omega
     simp only[eX,this,Xi,Ww]
    rw[pH a,a];refine Dp func74 λC hP hN=>?_;exact GS (be l q j)
   .have f:k<t.cells.length:=by omega
    have d:k<(ah t).length:=by omega
    obtain⟨m,r,_⟩:=iT g (c:=(k:Int)) f;have b:(ah t)[k]?=some (aZ t k):=m;have n:=bP b d
    have e:eX t k=true:=by simp[eX,g,f]
    have o:dt t k=aZ t k:=by simp[dt,e]
    rw[o,e];have cc:=O5 (aZ t k) (by omega);refine Dp func74 λC hP hN=>?_;exact GS (it l q j f d b n)
theorem Vh(t:Tr)(i:Int)(s:t.cells.length<=9223372036854775807):aH 50 (eT t) (Z i) (.tup [iv (dt t i),B (eX t i)]):=by
 have p:=LJ t s
 cases g:aT t with
 |false=>
  have a:eX t i=false:=by simp[eX,g]
  rw[pH a,a];rw[g]at p;refine Dp func50 λC hP hN=>?_;exact GS trivial
 |true=>
  rw[g]at p;have j:=fA g;by_cases l:i<0
  .have a:eX t i=false:=by
    have:decide (0<=i)=false:=by simp;omega
    simp only[eX,this,Xi,Ww]
   rw[pH a,a];refine Dp func50 λC hP hN=>?_;exact GS l
  .obtain⟨k,rfl⟩:=Xj (show 0<=i by omega)
   by_cases q:t.cells.length<=k
   .have a:eX t k=false:=by
     have:decide ((k:Int)<t.cells.length)=false:=by simp;omega
     simp only[eX,this,Xi,Ww]
    rw[pH a,a];refine Dp func50 λC hP hN=>?_;exact GS (be l q j)
   .have f:k<t.cells.length:=by omega
    have d:k<(ah t).length:=by omega
    obtain⟨m,r,_⟩:=iT g (c:=(k:Int)) f;have b:(ah t)[k]?=some (aZ t k):=m;have n:=bP b d
    have e:eX t k=true:=by simp[eX,g,f]
    have o:dt t k=aZ t k:=by simp[dt,e]
    rw[o,e];refine Dp func50 λC hP hN=>?_;exact GS (it l q j f d b n)
theorem Vi(v:Verd):bh 69 (nh v) (bw (aD v)):=by
 refine Dp func69 λC hP hN=>?_;refine GT trivial ?_
 all_goals simp[aD]
theorem TB(xs:List (Int×Int×Int))(c:xs.length<=16777216):bh 179 (.sl (xs.map ao)) (.sl (xs.map ao)):=by
 by_cases b:xs=[]
 .subst b
  refine Dp func179 λC hP hN=>?_;exact Dm [5] trivial
 .have a:xs.isEmpty=false:=by simp[b]
  refine Dp func179 λC hP hN=>?_;exact Dm [5] (f7 b a (show xs.length*24<=140737488355328 by omega) (show xs.length<=9223372036854775807 by omega))
theorem KT(xs:List Cel)(c:xs.length<=16777216)(b:xs≠[]):aQ prog 177 [.pv (.sl (xs.map bw))] [] [] (.row 58 8 (xs.map bw)):=by
 have a:xs.isEmpty=false:=by simp[b]
 refine Dp func177 λC hP hN=>?_;exact Dm [5] (f7 b a (show xs.length*112<=140737488355328 by omega) (show xs.length<=9223372036854775807 by omega))
def tx(n:Nat)(v:Verd):Prop:=v.nor.length<=n/\v.left.length<=n/\v.right.length<=n
theorem O6(v:Verd)(a:tx 16777216 v):bh 134 (nh v) (nh v):=by
 have b:=TB v.nor a.1;have c:=O4 v.left a.2.1;have d:=O4 v.right a.2.2;refine Dp func134 λC hP hN=>?_;exact GS trivial
theorem Vj(r:List (Int×Int))(a:r.length<=16777216):bh 31 (iv r) (.tup [eT (im r),B (dy r)]):=by
 have cc:=O5 r a;have cl:aQ prog 69 [.pv (.agg [Z 0,.sl [],Z 0,.sl [],.sl []])] [] [] (.pv (.agg [Z (-1),Z (-1),Z (-1),Z 0,.sl [],Z 0,.sl [],.sl []])):=Vi bm
 have cv:aQ prog 70 [.pv (.agg [iv r,.sl [.agg [Z (-1),Z (-1),Z (-1),Z 0,.sl [],Z 0,.sl [],.sl []]]])] [] [] (.pv (B (dy r))):=by
  have:=Qu ⟨r,[aD bm]⟩ (by simp);rw[qq]at this;exact this
 cases h:dy r with
 |true=>
  rw[h]at cv;refine Dp func31 λC hP hN=>?_;refine GT trivial ?_
  all_goals simp[im,h,aD,bm]
 |false=>
  rw[h]at cv;refine Dp func31 λC hP hN=>?_;refine GT trivial ?_
  all_goals simp[im,h]
structure TSm(t:Tr):Prop where
 root:t.root.length<=16777216
 cells:t.cells.length<=16777216
 vs:∀c∈t.cells,tx 16777216 c.v
theorem KU(t:Tr)(o:TSm t)(q:t.cells≠[]):aQ prog 131 [.pv (eT t)] [] [] (.srow [iv t.root] 58 8 (t.cells.map bw)):=by
 have u:=KT t.cells o.cells q;have x:=O5 t.root o.root;have y:=o.cells;refine Dp func131 λC hP hN=>?_;refine GT trivial ?_;refine WP.loopN [5] t.cells.length (λi st=>st.t 1=.ptr 1 0/\st.t 2=.ptr 2 0/\st.t 3=.arr 8 t.cells.length/\st.t 9=.arr 8 t.cells.length/\st.t 10=.pv (Z t.cells.length)/\st.t 11=.pv (Z i)/\st.h 1=some (.box [.pv (iv t.root),.pv (.sl (t.cells.map bw))] true false)/\st.h 2=some (.box [.pv (.val (.slice none 0 0)),.pv (.val (.slice none 0 0))] true false)/\st.h 5=none/\st.h 8=some (.row 58 8 (t.cells.map bw) 0)) (by simp) ?_;rintro i st hi ⟨g1,g2,g3,r,d,f,g,k,l,b⟩;by_cases a:i<t.cells.length
 .have s:=aj a (by omega)
  generalize p:t.cells[i]=c at *
  have m:t.cells[i]?=some c:=by rw[an a,p]
  have cv:=O6 c.v (o.vs c (Is m))
  have n:(t.cells.map bw).set i (bw c)=t.cells.map bw:=by
   apply WA;intro j;rw[VV];by_cases e:i=j
   .subst e;simp[a,p]
   .rw[VM e]
  refine GT (s6 g1 g2 g3 r d f g k l b a (be s m p)) ?_
  all_goals exact n
 .skip
  exact GS (s5 g1 g2 g3 r d f g k l (gA b a))
  all_goals exact⟨8,⟨rfl,rfl⟩,b⟩
theorem Cm[DecidableEq α](xs ys:List α):pT xs ys=decide (xs=ys):=by
 unfold pT;by_cases h:xs.length=ys.length
 .simp[h,L5 h]
 .have:xs≠ys:=λe=>h (by rw[e])
  simp[h,this]
theorem MI(D:Nat){t e:TypeId}(j:P.underlying t=some (.array 3 e))(hs:am P (sizeOf e)=some 1)(g:∀x y:Int,am P (Op.equalIn D e (.int .i64 x) (.int .i64 y))=some (x==y)){xs ys:Array Value}{c d f c':Int}
 (p0:am P (part e xs (0*1))=some (.int .i64 a))(k:am P (part e xs (1*1))=some (.int .i64 b))(l:am P (part e xs (2*1))=some (.int .i64 c))
 (m:am P (part e ys (0*1))=some (.int .i64 d))(n:am P (part e ys (1*1))=some (.int .i64 f))(o:am P (part e ys (2*1))=some (.int .i64 c')):
 am P (Op.equalIn (D+1) t (.agg xs) (.agg ys))=some (a==d&&b==f&&c==c'):=by
 simp only[Op.equalIn,ai,jR j,VX];simp only[hs,VX,Std.Legacy.Range.forIn_eq_forIn_range',Std.Legacy.Range.size]
 have i:List.range' 0 ((3-0+1-1)/1) 1=[0,1,2]:=by decide
 rw[i];simp only[List.forIn_cons,List.forIn_nil,ai,p0,m,g,VX];cases p:(a==d)
 .simp[dW]
 simp only[Xv,VP,VZ,dW,VX,ai,k,n,g];cases q:(b==f)
 .simp[dW]
 simp only[Xv,VP,VZ,dW,VX,ai,l,o,g];cases r:(c==c')
 all_goals simp[dW]
theorem LG(a b e c d f:Int):am prog (Op.equal 68 (.agg #[.int .i64 a,.int .i64 b,.int .i64 e]) (.agg #[.int .i64 c,.int .i64 d,.int .i64 f]))=some (a==c&&b==d&&e==f):=
 MI 9999 Tryz.underlying68 (by kernel_rfl) (λx y=>wF (P:=prog) 9998 2 .i64 .i64 x y Tryz.underlying2) (by kernel_rfl) (by kernel_rfl) (by kernel_rfl) (by kernel_rfl) (by kernel_rfl) (by kernel_rfl)
def yg(x:AV):Option (Int×Int×Int):=match x with
 |.pv (.val (.agg vs))=>match vs.toList with
  |[.int .i64 a,.int .i64 b,.int .i64 c]=>some (a,b,c)
  |_=>none
 |_=>none
theorem rm{x:AV}{c:Int}(h:yg x=some (a,b,c)):x=.pv (ao (a,b,c)):=by
 unfold yg at h;split at h
 .split at h
  .rename_i vs _ e f g d
   injection h with h;injection h with h1 h2;injection h2 with h2 h3;subst h1;subst h2;subst h3;rw[<-Array.toArray_toList (xs:=vs),d]
  .cases h
 .cases h
def KD(x y:AV)(fb:Option db):Option db:=match yg x,yg y with
 |some (a,b,e),some (c,d,f)=>some (.pv (.val (.bool !(a==c&&b==d&&e==f))),[])
 |_,_=>fb
@[simp] theorem Qq(a b e c d f:Int)(fb:Option db):KD (.pv (.val (.agg #[.int .i64 a,.int .i64 b,.int .i64 e]))) (.pv (.val (.agg #[.int .i64 c,.int .i64 d,.int .i64 f]))) fb=some (.pv (.val (.bool !(a==c&&b==d&&e==f))),[]):=rfl
@[simp] theorem UZ(x y:Operand):
 bL prog ⟨dst,.binOp .neq 68 x y 68,ty,pos,aft,g⟩ ρ=KD (ρ x) (ρ y) (jI prog ⟨dst,.binOp .neq 68 x y 68,ty,pos,aft,g⟩ ρ):=by
 unfold KD;split
 .rename_i a b e c d f i j
  exact Ak rfl (rm i) (rm j) (by kernel_rfl) (LG a b e c d f)
 .rfl
def Hf(x y:AV)(fb:Option db):Option db:=match yg x,yg y with
 |some (a,b,e),some (c,d,f)=>some (.pv (.val (.bool (a==c&&b==d&&e==f))),[])
 |_,_=>fb
abbrev Iv:=Int×Int
def ge(a:Int):Int:=min (max a (-2147483648)) 2147483648
def dK(a m:Int):Int:=-((-a)/m)
theorem bS(m n:Nat)(f:-(m:Int)<=a)(c:a<=m)(g:-(n:Int)<=b)(d:b<=n):-((m*n:Nat):Int)<=a*b/\a*b<=((m*n:Nat):Int):=by
 have e:(a*b).natAbs<=m*n:=by
  rw[Int.natAbs_mul];exact Xg (by omega) (by omega)
 omega
theorem IB(a:Int)(m:Nat):a.fdiv (m:Int)=a/(m:Int):=Int.fdiv_eq_ediv_of_nonneg a (by omega)
theorem NQ(a:Int):a.fdiv 65536=a/65536:=IB a 65536
theorem NS(a:Int):a.fdiv 16384=a/16384:=IB a 16384
theorem NT(a:Int):a.fdiv 1073741824=a/1073741824:=IB a 1073741824
theorem DS(a:Int)(g:-4611686018427387904<=a)(i:a<=4611686018427387904):aH 255 (Z a) (Z 16) (Z (dK a 65536)):=by
 have d:a.fdiv (2^min 16 i64.bits)=a/65536:=NQ a
 have e:i64.wrap (a/65536*2^min 16 i64.bits)=a/65536*65536:=by
  show i64.wrap (a/65536*65536)=_;exact aa (by omega) (by omega)
 have f:i64.wrap (a/65536+1)=a/65536+1:=aa;by_cases b:a/65536*65536=a
 .have hf:dK a 65536=a/65536:=by unfold dK;omega
  rw[hf];refine Dp func255 λC hP hN=>?_;exact Gy
 .have hf:dK a 65536=a/65536+1:=by unfold dK;omega
  rw[hf]
  have c:(a/65536*65536==a)=false:=by simpa using b
  refine Dp func255 λC hP hN=>?_;exact Gy
theorem NU(a:Int):aH 183 (Z a) (Z 16) (Z (a/65536)):=by
 have b:a.fdiv (2^min 16 i64.bits)=a/65536:=NQ a;refine Dp func183 λC hP hN=>?_;exact Gy
theorem Rk(a:Int)(g:-4611686018427387904<=a)(i:a<=4611686018427387904):aH 255 (Z a) (Z 14) (Z (dK a 16384)):=by
 have d:a.fdiv (2^min 14 i64.bits)=a/16384:=NS a
 have e:i64.wrap (a/16384*2^min 14 i64.bits)=a/16384*16384:=by
  show i64.wrap (a/16384*16384)=_;exact aa (by omega) (by omega)
 have f:i64.wrap (a/16384+1)=a/16384+1:=aa;by_cases b:a/16384*16384=a
 .have hf:dK a 16384=a/16384:=by unfold dK;omega
  rw[hf];refine Dp func255 λC hP hN=>?_;exact Gy
 .have hf:dK a 16384=a/16384+1:=by unfold dK;omega
  rw[hf]
  have c:(a/16384*16384==a)=false:=by simpa using b
  refine Dp func255 λC hP hN=>?_;exact Gy
theorem Rl(a:Int):aH 183 (Z a) (Z 14) (Z (a/16384)):=by
 have b:a.fdiv (2^min 14 i64.bits)=a/16384:=NS a;refine Dp func183 λC hP hN=>?_;exact Gy
theorem Rm(a:Int)(g:-4611686018427387904<=a)(i:a<=4611686018427387904):aH 255 (Z a) (Z 30) (Z (dK a 1073741824)):=by
 have d:a.fdiv (2^min 30 i64.bits)=a/1073741824:=NT a
 have e:i64.wrap (a/1073741824*2^min 30 i64.bits)=a/1073741824*1073741824:=by
  show i64.wrap (a/1073741824*1073741824)=_;exact aa (by omega) (by omega)
 have f:i64.wrap (a/1073741824+1)=a/1073741824+1:=aa;by_cases b:a/1073741824*1073741824=a
 .have hf:dK a 1073741824=a/1073741824:=by unfold dK;omega
  rw[hf];refine Dp func255 λC hP hN=>?_;exact Gy
 .have hf:dK a 1073741824=a/1073741824+1:=by unfold dK;omega
  rw[hf]
  have c:(a/1073741824*1073741824==a)=false:=by simpa using b
  refine Dp func255 λC hP hN=>?_;exact Gy
theorem Rn(a:Int):aH 183 (Z a) (Z 30) (Z (a/1073741824)):=by
 have b:a.fdiv (2^min 30 i64.bits)=a/1073741824:=NT a;refine Dp func183 λC hP hN=>?_;exact Gy
def gg(x y:Iv):Iv:=if aw x.1 x.2&&aw y.1 y.2 then(ge (x.1+y.1),ge (x.2+y.2))else(0,0)
def iR(x:Iv):Iv:=if aw x.1 x.2 then(-x.2,-x.1)else(0,0)
def fB(x y:Iv):Iv:=if aw x.1 x.2&&aw y.1 y.2 then
 (ge (min (x.1*y.1) (min (x.1*y.2) (min (x.2*y.1) (x.2*y.2)))/65536),ge (dK (max (x.1*y.1) (max (x.1*y.2) (max (x.2*y.1) (x.2*y.2)))) 65536))else(0,0)
def qh(x:Int):Iv:=(ge x,ge x)
theorem ew:aw a b=true↔-2147483648<=a/\a<=b/\b<=2147483648:=by
 simp only[aw,An,L4];constructor
 .rintro⟨⟨c,d⟩,e⟩;exact⟨c,d,e⟩
 .rintro⟨c,d,e⟩;exact⟨⟨c,d⟩,e⟩
theorem Lp(a b:Int):aH 298 (Z a) (Z b) (I (ge a) (ge b)):=Nh a b
theorem Be(a:Int):bh 275 (Z a) (I (ge a) (ge a)):=QT a
theorem Bf{c d:Int}:aH 295 (I a b) (I c d) (aN (gg (a,b) (c,d))):=by
 cases e:(aw a b&&aw c d)with
 |false=>
  have f:gg (a,b) (c,d)=(0,0):=by simp[gg,e]
  rw[f];refine Dp func295 λC hP hN=>?_;have k:=@zb;exact GS e
 |true=>
  have f:gg (a,b) (c,d)=(ge (a+c),ge (b+d)):=by simp only[gg,e,V8]
  rw[f];have g:=e;rw[An,ew,ew]at g;have i:i64.wrap (a+c)=a+c:=aa;have j:i64.wrap (b+d)=b+d:=aa;refine Dp func295 λC hP hN=>?_
  with_reducible repeat' (first|refine Sp.h ?_|((first|refine Ss.h ?_|refine Sc.h (zb _ _ _ _) ?_|refine Sc.h (Lp _ _) ?_|(refine Sb.h ?_ ?_ ?_<;>(try intro hgd)<;>try exact Xy))<;>simp -implicitDefEqProofs (maxSteps:=2000000) [hP,hN,e,i,j])|refine X2 ?_ ?_|(refine Xd ?_ ?_<;>intro hcd<;>try exact Xx))
theorem J4:bh 325 (I a b) (aN (iR (a,b))):=by
 cases c:aw a b with
 |false=>
  have d:iR (a,b)=(0,0):=by simp[iR,c]
  rw[d];refine Dp func325 λC hP hN=>?_;have f:=@j7;exact GS c
 |true=>
  have d:iR (a,b)=(-b,-a):=by simp only[iR,c,V8]
  rw[d];have e:=c;rw[ew]at e;have g:i64.wrap (-b)=-b:=aa;have i:i64.wrap (-a)=-a:=aa;have j:i64.wrap (0-b)=-b:=(aa (n:=0-b) (by omega) (by omega)).trans (by omega);have k:i64.wrap (0-a)=-a:=(aa (n:=0-a) (by omega) (by omega)).trans (by omega);refine Dp func325 λC hP hN=>?_;have f:=@j7;exact GS (f8 c g i j k)
theorem Ro(a b:Int)(c:-4611686018427387904<=b)(d:b<=4611686018427387904):aH 308 (Z a) (Z b) (I (ge (a/65536)) (ge (dK b 65536))):=by
 refine Dp func308 λC hP hN=>?_
 with_reducible repeat' (first|refine Sp.h ?_|((first|refine Ss.h ?_|refine Sc.h (NU _) ?_|refine Sc.h (DS _ c d) ?_|refine Sc.h (Lp _ _) ?_|(refine Sb.h ?_ ?_ ?_<;>(try intro hgd)<;>try exact Xy))<;>simp -implicitDefEqProofs (maxSteps:=2000000) [hP,hN])|refine X2 ?_ ?_|(refine Xd ?_ ?_<;>intro hcd<;>try exact Xx))
@[simp] theorem Vu:i64.wrap 1=1:=by decide
@[simp] theorem Vv:i64.wrap 2=2:=by decide
@[simp] theorem Vw:i64.wrap 3=3:=by decide
@[simp] theorem Vx:i64.wrap 4=4:=by decide
theorem Rp(h:i<=4):i=0\/i=1\/i=2\/i=3\/i=4:=by omega
theorem NV{c d:Int}:aH 296 (I a b) (I c d) (aN (fB (a,b) (c,d))):=by
 cases j:(aw a b&&aw c d)with
 |false=>
  have p:fB (a,b) (c,d)=(0,0):=by simp[fB,j]
  rw[p];refine Dp func296 λC hP hN=>?_;have G:=@zb;exact GS j
 |true=>
  have q:=j;rw[An,ew,ew]at q;have m1:=bS (a:=a) (b:=c) 2147483648 2147483648 (by omega) (by omega) (by omega) (by omega);have m2:=bS (a:=a) (b:=d) 2147483648 2147483648 (by omega) (by omega) (by omega) (by omega);have E:=bS (a:=b) (b:=c) 2147483648 2147483648 (by omega) (by omega) (by omega) (by omega);have F:=bS (a:=b) (b:=d) 2147483648 2147483648 (by omega) (by omega) (by omega) (by omega);have y:i64.wrap (a*c)=a*c:=aa;have z:i64.wrap (a*d)=a*d:=aa;have A:i64.wrap (b*c)=b*c:=aa;have B:i64.wrap (b*d)=b*d:=aa
  have p:fB (a,b) (c,d)=(ge (min (a*c) (min (a*d) (min (b*c) (b*d)))/65536),ge (dK (max (a*c) (max (a*d) (max (b*c) (b*d)))) 65536)):=by simp only[fB,j,V8]
  rw[p];generalize l:a*c=e at *;generalize m:a*d=f at *;generalize n:b*c=g at *;generalize o:b*d=k at *;have D:=Ro (min e (min f (min g k))) (max e (max f (max g k))) (by omega) (by omega);refine Dp func296 λC hP hN=>?_
  with_reducible repeat' (first|refine Sp.h ?_|((first|refine Wd ?_|refine Ss.h ?_|refine Sc.h (zb _ _ _ _) ?_|(refine Sb.h ?_ ?_ ?_<;>(try intro hgd)<;>try exact Xy))<;>simp -implicitDefEqProofs (maxSteps:=2000000) [hP,hN,j,y,z,A,B,l,m,n,o]<;>try refine Ya ?_)|refine X2 ?_ ?_|(refine Xd ?_ ?_<;>intro hcd<;>try exact Xx))
  refine WP.loopN [] 4 (λi st=>st.t 4=.ptr 4 0/\st.h 4=some (.box [.pv (Z 0),.pv (Z 0)] true false)/\st.t 40=.pv (.val (.agg #[.int .i64 e,.int .i64 f,.int .i64 g,.int .i64 k]))/\st.t 41=.pv (Z i)/\
   st.t 6=.pv (Z (if i<=1 then e else if i=2 then min e f else if i=3 then min e (min f g)else min e (min f (min g k))))/\st.t 7=.pv (Z (if i<=1 then e else if i=2 then max e f else if i=3 then max e (max f g)else max e (max f (max g k))))) (by simp) ?_
  rintro i st hi ⟨g4,x,r,s,u,v⟩;rcases Rp hi with rfl|rfl|rfl|rfl|rfl
  all_goals (simp at u v)
  all_goals
   exact Gy
def fv(x:Int):Nat->Int
 |0=>1073741824
 |1=>x*6746518852/65536
 |k+2=>fv x (k+1)*(x*6746518852/65536)/1073741824
def fw(x:Int):Nat->Int
 |0=>1073741824
 |1=>dK (x*6746518853) 65536
 |k+2=>dK (fw x (k+1)*dK (x*6746518853) 65536) 1073741824
theorem pt{x:Int}(b:0<=x)(h1:x<=8192):∀k,0<=fv x k/\fv x k<=1073741824
 |0=>by simp[fv]
 |1=>by simp only[fv];omega
 |k+2=>by
  have h:=pt b h1 (k+1)
  have a:0<=x*6746518852/65536/\x*6746518852/65536<=1073741824:=by omega
  simp only[fv];generalize x*6746518852/65536=y at *;have c:=WV h.1 a.1;have d:=Yx h.2 a.2 a.1 (by decide:(0:Int)<=1073741824);omega
theorem pu{x:Int}(b:0<=x)(h1:x<=8192):∀k,0<=fw x k/\fw x k<=1073741824
 |0=>by simp[fw]
 |1=>by simp only[fw,dK];omega
 |k+2=>by
  have h:=pu b h1 (k+1)
  have a:0<=dK (x*6746518853) 65536/\dK (x*6746518853) 65536<=1073741824:=by unfold dK;omega
  simp only[fw];generalize dK (x*6746518853) 65536=y at *;have c:=WV h.1 a.1;have d:=Yx h.2 a.2 a.1 (by decide:(0:Int)<=1073741824);unfold dK;omega
theorem uj{x:Int}(b:0<=x)(h1:x<=8192)(j:Nat):0<=fv x j*fv x 1/\fv x j*fv x 1<=1152921504606846976:=by
 have h:=pt b h1 j;have a:=pt b h1 1;have c:=WV h.1 a.1;have d:=Yx h.2 a.2 a.1 (by decide:(0:Int)<=1073741824);omega
theorem pA{x:Int}(b:0<=x)(h1:x<=8192)(j:Nat):0<=fw x j*fw x 1/\fw x j*fw x 1<=1152921504606846976:=by
 have h:=pu b h1 j;have a:=pu b h1 1;have c:=WV h.1 a.1;have d:=Yx h.2 a.2 a.1 (by decide:(0:Int)<=1073741824);omega
def jF(f:Nat->Int)(n:Nat):List AV:=[.pv (Z (if 0<n then f 0 else 0)),.pv (Z (if 1<n then f 1 else 0)),.pv (Z (if 2<n then f 2 else 0)),.pv (Z (if 3<n then f 3 else 0)),.pv (Z (if 4<n then f 4 else 0)),.pv (Z (if 5<n then f 5 else 0)),
 .pv (Z (if 6<n then f 6 else 0)),.pv (Z (if 7<n then f 7 else 0)),.pv (Z (if 8<n then f 8 else 0)),.pv (Z (if 9<n then f 9 else 0)),.pv (Z (if 10<n then f 10 else 0))]
abbrev CD(f:Nat->Int):PV:=.val (.agg #[.int .i64 (f 0),.int .i64 (f 1),.int .i64 (f 2),.int .i64 (f 3),.int .i64 (f 4),.int .i64 (f 5),.int .i64 (f 6),.int .i64 (f 7),.int .i64 (f 8),.int .i64 (f 9),.int .i64 (f 10)])
@[simp] theorem VB:i64.wrap 5=5:=by decide
@[simp] theorem VC:i64.wrap 6=6:=by decide
@[simp] theorem VD:i64.wrap 7=7:=by decide
@[simp] theorem VE:i64.wrap 8=8:=by decide
@[simp] theorem VF:i64.wrap 9=9:=by decide
@[simp] theorem UL:i64.wrap 10=10:=by decide
@[simp] theorem UM:i64.wrap 11=11:=by decide
set_option maxRecDepth 4000 in
theorem N7(x:Int)(m:0<=x)(h1:x<=8192):bh 343 (Z x) (.tup [CD (fv x),CD (fw x)]):=by
 have s:i64.wrap (x*6746518852)=x*6746518852:=aa;have u:i64.wrap (x*6746518853)=x*6746518853:=aa;have q:aQ prog 183 [.pv (Z (x*6746518852)),.pv (Z 16)] [] [] (.pv (Z (fv x 1))):=NU _;have r:aQ prog 255 [.pv (Z (x*6746518853)),.pv (Z 16)] [] [] (.pv (Z (fw x 1))):=DS _ (by omega) (by omega);have m1:∀j,i64.wrap (fv x j*fv x 1)=fv x j*fv x 1:=λj=>aa (by have:=uj m h1 j;omega) (by have:=uj m h1 j;omega);have m2:∀j,i64.wrap (fw x j*fw x 1)=fw x j*fw x 1:=λj=>aa (by have:=pA m h1 j;omega) (by have:=pA m h1 j;omega);have k:∀j,aQ prog 183 [.pv (Z (fv x (j+1)*fv x 1)),.pv (Z 30)] [] [] (.pv (Z (fv x (j+2)))):=λj=>Rn _;have l:∀j,aQ prog 255 [.pv (Z (fw x (j+1)*fw x 1)),.pv (Z 30)] [] [] (.pv (Z (fw x (j+2)))):=λj=>Rm _ (by have:=pA m h1 (j+1);omega) (by have:=pA m h1 (j+1);omega);have o:fv x 0=1073741824:=rfl;have p:fw x 0=1073741824:=rfl;generalize fv x=f at *;generalize fw x=g at *;refine Dp func343 λC hP hN=>?_;refine Gz ?_;refine WP.loopN [] 9 (λi st=>st.t 2=.ptr 2 0/\st.t 3=.ptr 3 0/\st.t 4=.ptr 4 0/\st.t 5=.ptr 5 0/\st.t 6=.pv (Z (i+2:Nat))/\st.h 2=some (.box (jF f 0) true false)/\st.h 3=some (.box (jF f 0) true false)/\st.h 4=some (.box (jF f (i+2)) true false)/\st.h 5=some (.box (jF g (i+2)) true false)) (by simp[jF,o,p]) ?_;rintro i st hi ⟨g2,g3,g4,g5,e,a,b,c,d⟩
 have n:i=0\/i=1\/i=2\/i=3\/i=4\/i=5\/i=6\/i=7\/i=8\/i=9:=by omega
 rcases n with rfl|rfl|rfl|rfl|rfl|rfl|rfl|rfl|rfl|rfl
 all_goals (simp only[jF]at a b c d;simp at e a b c d)
 all_goals skip
 .skip
  with_reducible repeat' (first|refine Sp.h ?_|((first|refine Wd ?_|refine Ss.h ?_|refine Sc.h (k 0) ?_|refine Sc.h (l 0) ?_)<;>simp -implicitDefEqProofs [hP,hN,g2,g3,g4,g5,e,a,b,c,d,m1,m2,jF]<;>try refine Ya ?_))
 .skip
  with_reducible repeat' (first|refine Sp.h ?_|((first|refine Wd ?_|refine Ss.h ?_|refine Sc.h (k 1) ?_|refine Sc.h (l 1) ?_)<;>simp -implicitDefEqProofs [hP,hN,g2,g3,g4,g5,e,a,b,c,d,m1,m2,jF]<;>try refine Ya ?_))
 .skip
  with_reducible repeat' (first|refine Sp.h ?_|((first|refine Wd ?_|refine Ss.h ?_|refine Sc.h (k 2) ?_|refine Sc.h (l 2) ?_)<;>simp -implicitDefEqProofs [hP,hN,g2,g3,g4,g5,e,a,b,c,d,m1,m2,jF]<;>try refine Ya ?_))
 .skip
  with_reducible repeat' (first|refine Sp.h ?_|((first|refine Wd ?_|refine Ss.h ?_|refine Sc.h (k 3) ?_|refine Sc.h (l 3) ?_)<;>simp -implicitDefEqProofs [hP,hN,g2,g3,g4,g5,e,a,b,c,d,m1,m2,jF]<;>try refine Ya ?_))
 .skip
  with_reducible repeat' (first|refine Sp.h ?_|((first|refine Wd ?_|refine Ss.h ?_|refine Sc.h (k 4) ?_|refine Sc.h (l 4) ?_)<;>simp -implicitDefEqProofs [hP,hN,g2,g3,g4,g5,e,a,b,c,d,m1,m2,jF]<;>try refine Ya ?_))
 .skip
  with_reducible repeat' (first|refine Sp.h ?_|((first|refine Wd ?_|refine Ss.h ?_|refine Sc.h (k 5) ?_|refine Sc.h (l 5) ?_)<;>simp -implicitDefEqProofs [hP,hN,g2,g3,g4,g5,e,a,b,c,d,m1,m2,jF]<;>try refine Ya ?_))
 .skip
  with_reducible repeat' (first|refine Sp.h ?_|((first|refine Wd ?_|refine Ss.h ?_|refine Sc.h (k 6) ?_|refine Sc.h (l 6) ?_)<;>simp -implicitDefEqProofs [hP,hN,g2,g3,g4,g5,e,a,b,c,d,m1,m2,jF]<;>try refine Ya ?_))
 .skip
  with_reducible repeat' (first|refine Sp.h ?_|((first|refine Wd ?_|refine Ss.h ?_|refine Sc.h (k 7) ?_|refine Sc.h (l 7) ?_)<;>simp -implicitDefEqProofs [hP,hN,g2,g3,g4,g5,e,a,b,c,d,m1,m2,jF]<;>try refine Ya ?_))
 .skip
  with_reducible repeat' (first|refine Sp.h ?_|((first|refine Wd ?_|refine Ss.h ?_|refine Sc.h (k 8) ?_|refine Sc.h (l 8) ?_)<;>simp -implicitDefEqProofs [hP,hN,g2,g3,g4,g5,e,a,b,c,d,m1,m2,jF]<;>try refine Ya ?_))
 .skip
  exact Gy
end Go.Ab
