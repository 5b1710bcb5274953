/- The contracts and facts that the laws of this seat need, in one text (CfB, Tr4, TrE, TrF, Tr8, Tr9, Tr10, Cf16w, Cf18w, TrG, TcS, DcS, Dc3, DcT, Dc1, Dc2, Dc5, Dc6, DcN, Ab41, DcU, AbW, TrH, Dc7, TrS, Ab42, Ab32, Dc13, TrN, TrX, KV, K1, K2, K2b, K3, K4, K5, K5b, K6, K7, K8, K9, K11, K10, K11b, K11c, K11d, K11e). -/
import Derived.Test.YtidomjacfogjlaaGreatT6
import Derived.Laws.RangeString
import Derived.Laws.RangeAny
import Derived.LoopTactic
set_option linter.all false
set_option maxRecDepth 10000
set_option maxHeartbeats 16000000
namespace Go.Ab
open IntKind (i64)
open Go.Proofs.Tryz
open Go.Proofs
variable {Q:Exit->St->Prop}{a a0 a1 a10 a11 a12 a13 a14 a15 a16 a17 a18 a19 a2 a20 a21 a22 a23 a3 a4 a5 a6 a7 a8 a9 b b0 b1 b2 b3 b4 b5 c d m t v0 v1 v2 v3 v4 v5 x:Int}{aft:Array Edge}{bet:Int->Int->Bool}{dst:Option Nat}{f:Nat->Int}{i k q:Nat}{js:List J}{pos:String}{s:BS}{st:St}{ty:TypeId}{w:List Int}{α:Type}{ρ:Operand->AV}{p:α->Bool}{xs:List α}
def oh(b:Nat):Bool:=decide (97<=b)&&decide (b<=122)
def ol(b:Nat):Bool:=decide (48<=b)&&decide (b<=57)
def iF(k b:Nat):Bool:=oh b||(decide (k≠0)&&(ol b||decide (b=95)))
def fH(s:ByteArray):Bool:=(List.range s.size).all λi=>iF i (s[i]!).toNat
def ja(s:ByteArray):Bool:=decide (1<=s.size)&&decide (s.size<=16)&& !(s.toList==[119,111,114,108,100])&&fH s
theorem kv{s:ByteArray}(h:i<s.size)(a:iF i (s[i]'h).toNat=false):fH s=false:=by
 rw[fH,yBw];exact⟨i,by simpa using h,by rw[getElem!_pos s i h,a];simp⟩
theorem zY{s:ByteArray}(h:∀i(hi:i<s.size),iF i (s[i]'hi).toNat=true):fH s=true:=by
 rw[fH,IV];intro i hi
 have a:i<s.size:=by simpa using hi
 rw[getElem!_pos s i a];exact h i a
theorem yW{s:ByteArray}{pos c:Nat}{hp:pos<s.size}(d:(s[pos]'hp).toNat=c)(a:iF pos c=true)(b:∀i(hi:i<s.size),i<pos->iF i (s[i]'hi).toNat=true):∀i(hi:i<s.size),i<pos+1->iF i (s[i]'hi).toNat=true:=by
 intro i hi h;by_cases e:i=pos
 .subst e;rw[d];exact a
 .exact b i hi (by omega)
set_option maxRecDepth 1000000 in
theorem Nl(s:ByteArray)(w:World)(h1:¬s.size=0)(x:¬s.size>16)(y:(s.toList==[119,111,114,108,100])=false):
 Calls prog 247 #[.string s] w λe l=>e=.returned (.bool (fH s))/\(l=w\/∃pos,l=w.iter s pos):=by
 have z:((s.size:Int)==0)=false:=by simp;intro h;exact h1 (by simp[h])
 have A:¬((16:Int)<(s.size:Int)):=by omega
 go_enter func247,ntmps247
 go_wp2
 go_loopw [19] (λ_ l=>∃pos,l=w.iter s pos/\∀i(hi:i<s.size),i<pos->iF i (s[i]'hi).toNat=true) (λ_ l=>s.size-l.iterPos w.heap.size)
 case atStart=>exact⟨0,rfl,λi hi h=>by omega⟩
 case round=>
  obtain⟨pos,rfl,d⟩:=hrel;by_cases hp:pos<s.size
  .by_cases p:(s[pos]'hp).toNat<128
   .have b:∀ty,(Instr.next (.pointer (some ⟨w.heap.size,0,none⟩)) true ty).run prog (w.iter s pos)=_:=λty=>run_next_ascii w s pos ty hp p
    generalize f:(s[pos]'hp).toNat=c at b p
    have key:(97<=c/\c<=122)\/(¬97<=c/\pos=0)\/(97<=c/\¬c<=122/\pos=0)\/(¬97<=c/\¬pos=0/\48<=c/\c<=57)\/(¬97<=c/\¬pos=0/\¬48<=c)\/(¬97<=c/\¬pos=0/\¬c<=57/\c=95)\/(¬97<=c/\¬pos=0/\¬c<=57/\¬c=95)\/(97<=c/\¬c<=122/\¬pos=0):=by omega
    rcases key with⟨j,g⟩|⟨j,g⟩|⟨j,g,k⟩|⟨j,g,k,q⟩|⟨j,g,k⟩|⟨j,g,k,q⟩|⟨j,g,k,q⟩|⟨j,g,k⟩
    .have m1:(97:Int)<=(c:Int):=by omega
     have m2:(c:Int)<=122:=by omega
     go_wp2
     go_roundw
     case rel=>exact⟨pos+1,rfl,yW f (by simp[iF,oh,ol];omega) d⟩
     case measure=>simp;omega
    .have m1:¬(97:Int)<=(c:Int):=by omega
     subst g;have a:fH s=false:=kv hp (by rw[f];simp[iF,oh,ol];omega)
     go_wp2
     go_ret
     exact⟨by first|rfl|(rw[a];rfl),.inr ⟨_,rfl⟩⟩
    .have m1:(97:Int)<=(c:Int):=by omega
     have m2:¬(c:Int)<=122:=by omega
     subst k;have a:fH s=false:=kv hp (by rw[f];simp[iF,oh,ol];omega)
     go_wp2
     go_ret
     exact⟨by first|rfl|(rw[a];rfl),.inr ⟨_,rfl⟩⟩
    .have m1:¬(97:Int)<=(c:Int):=by omega
     have m2:((pos:Int)==0)=false:=by simp;omega
     have m:(48:Int)<=(c:Int):=by omega
     have n:(c:Int)<=57:=by omega
     go_wp2
     go_roundw
     case rel=>exact⟨pos+1,rfl,yW f (by simp[iF,oh,ol];omega) d⟩
     case measure=>simp;omega
    .have m1:¬(97:Int)<=(c:Int):=by omega
     have m2:((pos:Int)==0)=false:=by simp;omega
     have m:¬(48:Int)<=(c:Int):=by omega
     have n:((c:Int)!=95)=true:=by simp;omega
     have a:fH s=false:=kv hp (by rw[f];simp[iF,oh,ol];omega)
     go_wp2
     go_ret
     exact⟨by first|rfl|(rw[a];rfl),.inr ⟨_,rfl⟩⟩
    .have m1:¬(97:Int)<=(c:Int):=by omega
     have m2:((pos:Int)==0)=false:=by simp;omega
     have m:(48:Int)<=(c:Int):=by omega
     have o:¬(c:Int)<=57:=by omega
     have n:((c:Int)!=95)=false:=by simp;omega
     go_wp2
     go_roundw
     case rel=>exact⟨pos+1,rfl,yW f (by simp[iF,oh,ol];omega) d⟩
     case measure=>simp;omega
    .have m1:¬(97:Int)<=(c:Int):=by omega
     have m2:((pos:Int)==0)=false:=by simp;omega
     have m:(48:Int)<=(c:Int):=by omega
     have o:¬(c:Int)<=57:=by omega
     have n:((c:Int)!=95)=true:=by simp;omega
     have a:fH s=false:=kv hp (by rw[f];simp[iF,oh,ol];omega)
     go_wp2
     go_ret
     exact⟨by first|rfl|(rw[a];rfl),.inr ⟨_,rfl⟩⟩
    .have m1:(97:Int)<=(c:Int):=by omega
     have v:¬(c:Int)<=122:=by omega
     have m2:((pos:Int)==0)=false:=by simp;omega
     have m:(48:Int)<=(c:Int):=by omega
     have o:¬(c:Int)<=57:=by omega
     have n:((c:Int)!=95)=true:=by simp;omega
     have a:fH s=false:=kv hp (by rw[f];simp[iF,oh,ol];omega)
     go_wp2
     go_ret
     exact⟨by first|rfl|(rw[a];rfl),.inr ⟨_,rfl⟩⟩
   .have b:∀ty,(Instr.next (.pointer (some ⟨w.heap.size,0,none⟩)) true ty).run prog (w.iter s pos)=_:=λty=>run_next_any w s pos ty hp
    have r:=(decode_high s pos hp (by omega)).1;generalize(Utf8.decode s pos).1=c at b r;generalize(Utf8.decode s pos).2=B at b;have a:fH s=false:=kv hp (by simp[iF,oh,ol];omega)
    have m1:(97:Int)<=(c:Int):=by omega
    have v:¬(c:Int)<=122:=by omega
    have m:(48:Int)<=(c:Int):=by omega
    have o:¬(c:Int)<=57:=by omega
    have n:((c:Int)!=95)=true:=by simp;omega
    by_cases u:pos=0
    .subst u
     go_wp2
     go_ret
     exact⟨by first|rfl|(rw[a];rfl),.inr ⟨_,rfl⟩⟩
    .have m2:((pos:Int)==0)=false:=by simp;omega
     go_wp2
     go_ret
     exact⟨by first|rfl|(rw[a];rfl),.inr ⟨_,rfl⟩⟩
  .have b:∀ty,(Instr.next (.pointer (some ⟨w.heap.size,0,none⟩)) true ty).run prog (w.iter s pos)=_:=λty=>run_next_end w s pos ty hp
   go_wp2
   go_ret
   exact⟨by rw[zY (λi hi=>d i hi (by omega))];rfl,.inr ⟨_,rfl⟩⟩
set_option maxRecDepth 1000000 in
theorem K2(s:ByteArray)(w:World)(h:s.size=0\/s.size>16\/(s.toList==[119,111,114,108,100])=true):
 Calls prog 247 #[.string s] w λe f=>e=.returned (.bool false)/\f=w:=by
 by_cases a:s.size=0
 .have c:((s.size:Int)==0)=true:=by simp[a]
  go_enter func247,ntmps247
  go_wp2
  go_ret
  exact⟨rfl,rfl⟩
 .have c:((s.size:Int)==0)=false:=by simp;intro h;exact a (by simp[h])
  by_cases b:s.size>16
  .have d:((16:Int)<(s.size:Int)):=by omega
   go_enter func247,ntmps247
   go_wp2
   go_ret
   exact⟨rfl,rfl⟩
  .have d:¬((16:Int)<(s.size:Int)):=by omega
   have g:(s.toList==[119,111,114,108,100])=true:=by rcases h with h|h|h<;>first|exact absurd h a|exact absurd h b|exact h
   go_enter func247,ntmps247
   go_wp2
   go_ret
   exact⟨rfl,rfl⟩
theorem Az(s:ByteArray):aO prog 247 [.pv (.val (.string s))] [] [] (.pv (B (ja s))):=by
 refine⟨by kernel_rfl,rfl,λw M g y A k q m f d=>?_⟩
 match y,f with
 |[v],_=>
  have u:Rep w M (.val (.string s)) v:=d 0 _ _ rfl rfl;cases u;have a:Ext (·∈g) w w:=Ext.refl _ _;have c:∀pos,Ext (·∈g) w (w.iter s pos):=λpos=>Ext.alloc _ _ _
  have j:g=[]:=by cases g with
   |nil=>rfl
   |cons b r=>simp at k
  subst j;by_cases h:s.size=0\/s.size>16\/(s.toList==[119,111,114,108,100])=true
  .have hf:ja s=false:=by
    unfold ja;rcases h with h|h|h
    .simp[h]
    .simp;omega
    .simp[h]
   refine(K2 s w h).mono ?_;rintro e z ⟨rfl,rfl⟩;exact⟨_,rfl,a,λi b n h=>by simp at h,by rw[hf];exact .val _⟩
  .have o:¬s.size=0:=λe=>h (.inl e)
   have p:¬s.size>16:=λe=>h (.inr (.inl e))
   have l:(s.toList==[119,111,114,108,100])=false:=by
    cases hq:s.toList==[119,111,114,108,100]with
    |false=>rfl
    |true=>exact absurd (.inr (.inr hq)) h
   have hf:ja s=fH s:=by
    unfold ja;rw[l]
    have a1:decide (1<=s.size)=true:=by simp;omega
    have a2:decide (s.size<=16)=true:=by simp;omega
    rw[a1,a2];simp
   refine(Nl s w o p l).mono ?_;rintro e z ⟨rfl,x⟩;rcases x with rfl|⟨pos,rfl⟩
   .exact⟨_,rfl,a,λi b n h=>by simp at h,by rw[hf];exact .val _⟩
   .exact⟨_,rfl,c pos,λi b n h=>by simp at h,by rw[hf];exact .val _⟩
theorem sD{i D A B:Int}(a:0<=i)(d:i<=A)(h1:-B<=D)(c:D<=B):-(A*B)<=i*D/\i*D<=A*B:=by
 have f:0<=B:=by omega
 have e:i*B<=A*B:=Int.mul_le_mul_of_nonneg_right d f;have g:i*D<=i*B:=yA9 c a;have b:i*(-B)<=i*D:=yA9 h1 a;rw[Int.mul_neg]at b;omega
theorem lU(n:Nat):(0:Int)<2^n:=Int.pow_pos (by decide)
theorem K3(a:Int)(n:Nat):a.fdiv (2^n)=a/2^n:=Int.fdiv_eq_ediv_of_nonneg a (Int.le_of_lt (lU n))
theorem mq{N B:Int}(hN:0<N)(h1:-B<=a)(b:a<=B):-B<=a/N/\a/N<=B:=by
 have c:0<=B:=by omega
 constructor
 .have:(-B)*N<=a:=by
   have:(-B)*N<=(-B)*1:=Int.mul_le_mul_of_nonpos_left (by omega) (by omega);omega
  exact(yB4 hN).2 this
 .have:a/N<B+1:=(yB5 hN).2 (by
   have:(B+1)*1<=(B+1)*N:=yA9 (by omega) (by omega)
   omega)
  omega
def jT(x:Int):Prop:=-2147483648<=x/\x<=2147483648
def xk(N i f t:Int):Int×Int:=(f+min (i*(t-f)) ((i+1)*(t-f))/N,f-(-max (i*(t-f)) ((i+1)*(t-f)))/N)
theorem Eg{i f:Int}(hi:0<=i)(l:i<=1048576)(hf:jT f)(m:jT t):BL i d f t=xk (2^d.toNat) i f t:=by
 unfold jT at hf m;have e:wr (t-f)=t-f:=aa;have c:wr (i+1)=i+1:=aa;have b1:=sD (i:=i) (D:=t-f) (A:=1048577) (B:=4294967296) hi (by omega) (by omega) (by omega);have b2:=sD (i:=i+1) (D:=t-f) (A:=1048577) (B:=4294967296) (by omega) (by omega) (by omega) (by omega);have g:wr (i*(t-f))=i*(t-f):=aa;have j:wr ((i+1)*(t-f))=(i+1)*(t-f):=aa;simp only[BL,xk,e,c,g,j,K3];generalize i*(t-f)=a at *;generalize(i+1)*(t-f)=b at *;have k:wr (-max a b)=-max a b:=aa;rw[k];have n:=mq (a:=min a b) (N:=2^d.toNat) (B:=1048577*4294967296) (lU _) (by omega) (by omega);have o:=mq (a:=-max a b) (N:=2^d.toNat) (B:=1048577*4294967296) (lU _) (by omega) (by omega);rw[aa (by omega) (by omega),aa (by omega) (by omega)]
def Nm(x:AV)(a:Option bF):Option bF:=match x with
 |.pv (.val (.string s))=>some (.pv (Z s.size),[])
 |_=>a
@[simp] theorem UY(s:ByteArray)(a:Option bF):Nm (.pv (.val (.string s))) a=some (.pv (Z s.size),[]):=rfl
theorem Qn{g:Option (Nat×Bool)}(x:Operand)(s:ByteArray):
 bf prog ⟨dst,.call ⟨.builtin .len,#[x],#[9]⟩,ty,pos,aft,g⟩ (λ_=>.pv (.val (.string s)))=some (.pv (Z s.size),[]):=by kernel_rfl
@[simp] theorem YV{g:Option (Nat×Bool)}(x:Operand):
 bf prog ⟨dst,.call ⟨.builtin .len,#[x],#[9]⟩,ty,pos,aft,g⟩ ρ=Nm (ρ x) (gk prog ⟨dst,.call ⟨.builtin .len,#[x],#[9]⟩,ty,pos,aft,g⟩ ρ):=by
 unfold Nm;split
 .rename_i s b
  rw[<-Qn (dst:=dst) (ty:=ty) (pos:=pos) (aft:=aft) (g:=g) x s];refine rF (by intro _ _ h;cases h) ?_;intro y a;simp[Op.operands,Call.operands]at a;subst a;exact b
 .rfl
theorem BP:(ByteArray.mk #[119,111,114,108,100]).toList=[119,111,114,108,100]:=by decide +kernel
theorem Nn{s:ByteArray}(h:i<s.size):s[i]?=some (s[i]'h):=by simp[h]
theorem RQ(s:ByteArray):aV 161 (.val (.string s)) (B (ja s)):=by
 by_cases r:s.size<1
 .have hf:ja s=false:=by unfold ja;simp;omega
  have g:(s.size:Int)<1:=by omega
  rw[hf];refine Dp func161 λC hP hN=>?_;exact Gy
 have g:¬(s.size:Int)<1:=by omega
 by_cases u:16<s.size
 .have hf:ja s=false:=by unfold ja;simp;omega
  have j:(16:Int)<s.size:=by omega
  rw[hf];refine Dp func161 λC hP hN=>?_;exact Gy
 have j:¬(16:Int)<s.size:=by omega
 cases l:s.toList==[119,111,114,108,100]with
 |true=>
  have hf:ja s=false:=by unfold ja;simp[l]
  have m:(s.toList==(ByteArray.mk #[119,111,114,108,100]).toList)=true:=by rw[BP];exact l
  rw[hf];refine Dp func161 λC hP hN=>?_;exact Gy
 |false=>
  have hf:ja s=fH s:=by
   unfold ja;rw[l]
   have a1:decide (1<=s.size)=true:=by simp;omega
   have a2:decide (s.size<=16)=true:=by simp;omega
   rw[a1,a2];simp
  have m:(s.toList==(ByteArray.mk #[119,111,114,108,100]).toList)=false:=by rw[BP];exact l
  rw[hf];refine Dp func161 λC hP hN=>?_;refine Gz ?_;refine WP.loopN [] s.size (λi st=>st.t 0=.pv (.val (.string s))/\st.t 3=.pv (Z i)/\∀k(n:k<s.size),k<i->iF k (s[k]'n).toNat=true) (by simp) ?_;rintro i st hi ⟨p,g3,f⟩;by_cases c:i<s.size
  .have q:i64.wrap ((i:Int)+1)=(i:Int)+1:=by rw[IntKind.wrap_i64];omega
   have e:(i:Int)<s.size:=by omega
   have o:=Nn c;have d:iF i (s[i]'c).toNat=false->fH s=false:=kv c;have a:iF i (s[i]'c).toNat=true->∀k(n:k<s.size),k<i+1->iF k (s[k]'n).toNat=true:=λh=>yW rfl h f;generalize s[i]'c=b at d a o
   with_reducible repeat' (first|refine Sp.h ?_|((first|refine Ss.h ?_|(refine Sb.h ?_ ?_ ?_<;>(try intro hgd)<;>try exact Xy))<;>simp -implicitDefEqProofs (maxSteps:=2000000) [hP,hN,p,g3,e,o,q])|refine X2 ?_ ?_|(refine Xd ?_ ?_<;>intro hcd<;>try exact Xx))
   all_goals clear q hP hN p g3 o f l m hf r g u j
   all_goals first|(refine d ?_;clear d a;simp[iF,oh,ol]at *;done)|(refine d ?_;clear d a;simp[iF,oh,ol]at *;omega)|(refine⟨c,a ?_⟩;clear d a;simp[iF,oh,ol]at *;done)|(refine⟨c,a ?_⟩;clear d a;simp[iF,oh,ol]at *;omega)
  .have e:¬(i:Int)<s.size:=by omega
   refine Gz ?_;exact zY (λk n=>f k n (by omega))
def gR(x m:Int):Bool:=decide (-m<=x)&&decide (x<=m)
def fB(x y z m:Int):Bool:=gR x m&&gR y m&&gR z m
abbrev De(x y z:Int):PV:=.val (.agg #[.int .i64 x,.int .i64 y,.int .i64 z])
theorem Eh:i64.wrap 1=1:=by decide
theorem Ei:i64.wrap 2=2:=by decide
theorem Ej:i64.wrap 3=3:=by decide
theorem RR(h:i<=3):i=0\/i=1\/i=2\/i=3:=by omega
theorem JM(x y z:Int):aV 249 (De x y z) (B (!fB x y z 4194304)):=by
 refine Dp func249 λC hP hN=>?_;refine Gz ?_;refine WP.loopN [] 3 (λi st=>st.t 5=.pv (De x y z)/\st.t 6=.pv (Z i)/\(0<i->gR x 4194304=true)/\(1<i->gR y 4194304=true)/\(2<i->gR z 4194304=true)) (by simp) ?_;rintro i st hi ⟨a,b,c,d,e⟩;rcases RR hi with rfl|rfl|rfl|rfl
 .skip
  with_reducible repeat' (first|refine Sp.h ?_|((first|refine Ss.h ?_|(refine Sb.h ?_ ?_ ?_<;>(try intro hgd)<;>try exact Xy))<;>simp -implicitDefEqProofs (maxSteps:=2000000) [hP,hN,a,b])|refine X2 ?_ ?_|(refine Xd ?_ ?_<;>intro hcd<;>try exact Xx))
  all_goals (simp[fB,gR,Eh,Ei,Ej]at *;first|omega|grind)
 .skip
  with_reducible repeat' (first|refine Sp.h ?_|((first|refine Ss.h ?_|(refine Sb.h ?_ ?_ ?_<;>(try intro hgd)<;>try exact Xy))<;>simp -implicitDefEqProofs (maxSteps:=2000000) [hP,hN,a,b])|refine X2 ?_ ?_|(refine Xd ?_ ?_<;>intro hcd<;>try exact Xx))
  all_goals (simp[fB,gR,Eh,Ei,Ej]at *;first|omega|grind)
 .skip
  with_reducible repeat' (first|refine Sp.h ?_|((first|refine Ss.h ?_|(refine Sb.h ?_ ?_ ?_<;>(try intro hgd)<;>try exact Xy))<;>simp -implicitDefEqProofs (maxSteps:=2000000) [hP,hN,a,b])|refine X2 ?_ ?_|(refine Xd ?_ ?_<;>intro hcd<;>try exact Xx))
  all_goals (simp[fB,gR,Eh,Ei,Ej]at *;first|omega|grind)
 .skip
  refine Gz ?_
  all_goals (simp[fB,gR,Eh,Ei,Ej]at *;first|omega|grind)
theorem xm(x y z m:Int)(j:0<=m)(g:m<4611686018427387904):aL 88 (De x y z) (Z m) (B (fB x y z m)):=by
 have f:i64.wrap (0-m)=-m:=(aa (n:=0-m) (by omega) (by omega)).trans (by omega);have a:i64.wrap (-m)=-m:=aa;refine Dp func88 λC hP hN=>?_;refine Gz ?_;refine WP.loopN [] 3 (λi st=>st.t 1=.pv (Z m)/\st.t 2=.ptr 2 0/\st.h 2=some (.box [.pv (Z x),.pv (Z y),.pv (Z z)] true false)/\st.t 5=.pv (Z i)/\(0<i->gR x m=true)/\(1<i->gR y m=true)/\(2<i->gR z m=true)) (by simp) ?_;rintro i st hi ⟨b,c,e,d,k,l,o⟩;rcases RR hi with rfl|rfl|rfl|rfl
 .skip
  with_reducible repeat' (first|refine Sp.h ?_|((first|refine Ss.h ?_|(refine Sb.h ?_ ?_ ?_<;>(try intro hgd)<;>try exact Xy))<;>simp -implicitDefEqProofs (maxSteps:=2000000) [hP,hN,b,c,e,d,f,a])|refine X2 ?_ ?_|(refine Xd ?_ ?_<;>intro hcd<;>try exact Xx))
  all_goals (simp[fB,gR,Eh,Ei,Ej]at *;first|omega|grind)
 .skip
  with_reducible repeat' (first|refine Sp.h ?_|((first|refine Ss.h ?_|(refine Sb.h ?_ ?_ ?_<;>(try intro hgd)<;>try exact Xy))<;>simp -implicitDefEqProofs (maxSteps:=2000000) [hP,hN,b,c,e,d,f,a])|refine X2 ?_ ?_|(refine Xd ?_ ?_<;>intro hcd<;>try exact Xx))
  all_goals (simp[fB,gR,Eh,Ei,Ej]at *;first|omega|grind)
 .skip
  with_reducible repeat' (first|refine Sp.h ?_|((first|refine Ss.h ?_|(refine Sb.h ?_ ?_ ?_<;>(try intro hgd)<;>try exact Xy))<;>simp -implicitDefEqProofs (maxSteps:=2000000) [hP,hN,b,c,e,d,f,a])|refine X2 ?_ ?_|(refine Xd ?_ ?_<;>intro hcd<;>try exact Xx))
  all_goals (simp[fB,gR,Eh,Ei,Ej]at *;first|omega|grind)
 .skip
  refine Gz ?_
  all_goals (simp[fB,gR,Eh,Ei,Ej]at *;first|omega|grind)
def bw(x a b:Int):Bool:=decide (a<=x)&&decide (x<=b)
theorem RS(x m:Int):aL 251 (Z x) (Z m) (B (bw x 1 m)):=by
 refine Dp func251 λC hP hN=>?_
 with_reducible repeat' (first|refine Sp.h ?_|((first|refine Ss.h ?_|(refine Sb.h ?_ ?_ ?_<;>(try intro hgd)<;>try exact Xy))<;>simp -implicitDefEqProofs (maxSteps:=2000000) [hP,hN])|refine X2 ?_ ?_|(refine Xd ?_ ?_<;>intro hcd<;>try exact Xx))
 all_goals (first|(simp_all[bw];done)|((try simp_all[bw])<;>(try omega)<;>grind))
theorem Px(x a b:Int):jQ 87 (Z x) (Z a) (Z b) (B (bw x a b)):=by
 refine Dp func87 λC hP hN=>?_
 with_reducible repeat' (first|refine Sp.h ?_|((first|refine Ss.h ?_|(refine Sb.h ?_ ?_ ?_<;>(try intro hgd)<;>try exact Xy))<;>simp -implicitDefEqProofs (maxSteps:=2000000) [hP,hN])|refine X2 ?_ ?_|(refine Xd ?_ ?_<;>intro hcd<;>try exact Xx))
 all_goals (first|(simp_all[bw];done)|((try simp_all[bw])<;>(try omega)<;>grind))
def BQ(k:Int):Int:=if k=1\/k=2\/k=3 then 524288 else if k=4\/k=5\/k=6 then 4194304 else 0
def dv(k:Int):Int:=if k=0 then 0 else if k=1\/k=2\/k=3 then 524288 else 4194304
theorem V3(k:Int):aV 250 (Z k) (Z (BQ k)):=by
 refine Dp func250 λC hP hN=>?_
 with_reducible repeat' (first|refine Sp.h ?_|((first|refine Ss.h ?_|(refine Sb.h ?_ ?_ ?_<;>(try intro hgd)<;>try exact Xy))<;>simp -implicitDefEqProofs (maxSteps:=2000000) [hP,hN])|refine X2 ?_ ?_|(refine Xd ?_ ?_<;>intro hcd<;>try exact Xx))
 all_goals (simp[BQ]at *;first|omega|grind)
theorem RT(k:Int):aV 162 (Z k) (Z (dv k)):=by
 refine Dp func162 λC hP hN=>?_
 with_reducible repeat' (first|refine Sp.h ?_|((first|refine Ss.h ?_|(refine Sb.h ?_ ?_ ?_<;>(try intro hgd)<;>try exact Xy))<;>simp -implicitDefEqProofs (maxSteps:=2000000) [hP,hN])|refine X2 ?_ ?_|(refine Xd ?_ ?_<;>intro hcd<;>try exact Xx))
 all_goals (simp[dv]at *;first|omega|grind)
theorem HR{k:Int}(a:0<=k)(b:k<=6):BQ k=dv k:=by
 have:k=0\/k=1\/k=2\/k=3\/k=4\/k=5\/k=6:=by omega
 rcases this with rfl|rfl|rfl|rfl|rfl|rfl|rfl<;>rfl
def lx(a b:ByteArray):Bool:=a.toList==b.toList
theorem V4(js:List J)(ms:List Ms)(name:ByteArray)(g:js.length<=9223372036854775807):aL 248 (gH js ms) (.val (.string name)) (Z (oP (λj=>lx j.name name) js)):=by
 refine Dp func248 λC hP hN=>?_;refine Gz ?_;refine WP.loopN [] js.length (λi st=>st.t 1=.pv (.val (.string name))/\st.t 2=.ptr 2 0/\st.h 2=some (.box [.pv (.sl (js.map bj)),.pv (.sl (ms.map bN))] true false)/\st.t 8=.pv (Z js.length)/\st.t 9=.pv (Z i)/\∀j x,j<i->js[j]?=some x->lx x.name name=false) (by simp) ?_;rintro i st hi ⟨b,c,f,d,e,hq⟩;by_cases a:i<js.length
 .have k:=ai a g
  with_reducible repeat' (first|refine Sp.h ?_|((first|refine Ss.h ?_|(refine Sb.h ?_ ?_ ?_<;>(try intro hgd)<;>try exact Xy))<;>simp -implicitDefEqProofs (maxSteps:=2000000) [hP,hN,b,c,f,d,e,a,k])|refine X2 ?_ ?_|(refine Xd ?_ ?_<;>intro hcd<;>try exact Xx))
  .exact(qK a hq hcd).symm
  .simpa using pN a hq hcd
 .skip
  refine Gz ?_;exact(xi (Aw a hq)).symm
def rL(js:List J)(i:Nat)(name:ByteArray):Bool:=(js.take i).any λj=>lx j.name name
theorem Np(h:i<js.length):(oP (λj=>lx j.name js[i].name) js !=(i:Int))=rL js i js[i].name:=by
 have o:lx js[i].name js[i].name=true:=by simp[lx]
 cases hd:rL js i js[i].name with
 |false=>
  have:oP (λj=>lx j.name js[i].name) js=i:=qK h (λj x l g=>by
   rw[rL,yBH]at hd;have n:x∈js.take i:=In (by rw[yAw,yAb l];exact g)
   simpa using hd x n) o
  rw[this];simp
 |true=>
  rw[rL,yBQ]at hd;obtain⟨x,g,hp⟩:=hd;obtain⟨k,b⟩:=yAD g;rw[yAw]at b;split at b
  .rename_i d
   simp only[bne_iff_ne,ne_eq];intro a;unfold oP at a
   cases hf:js.findIdx? (λj=>lx j.name js[i].name)with
   |none=>
    rw[hf]at a;simp at a
   |some m=>
    rw[hf]at a;have c:(m:Int)=(i:Int):=a
    have a:m=i:=by omega
    clear c;subst a;rw[yBY]at hf;obtain⟨p,_,f⟩:=hf;have e:=(th.1 b);have:=f k d;rw[e.2]at this;exact this hp
  .cases b
def bS(js:List J)(i:Nat)(j:J):Int:=
 if(!ja j.name||rL js i j.name)=true then 802 else if j.kind<0\/6<j.kind then 803 else if j.parent< -1\/(i:Int)<=j.parent then 804 else if fB j.ox j.oy j.oz 4194304=false then 805
 else if j.hi<j.lo\/j.lo< -dv j.kind\/dv j.kind<j.hi then 806 else if(bw j.w 1 1024&&bw j.sp 1 1048576&&bw j.ac 1 1048576&&bw j.tq 1 1099511627776)=false then 807 else 0
theorem tI(k:Int):0<=dv k/\dv k<=4194304:=by unfold dv;repeat' split
                                             all_goals omega
theorem RU(js:List J)(ms:List Ms)(i:Nat)(y:js.length<=9223372036854775807)(hi:i<js.length):aL 185 (gH js ms) (Z i) (Z (bS js i js[i])):=by
 have e:=an hi;have a:=Np hi;have f:=V4 js ms js[i].name y;generalize b:js[i]=j at e a f|-;have z:=tI j.kind;have m:i64.wrap (0-dv j.kind)=-dv j.kind:=(aa (n:=0-dv j.kind) (by omega) (by omega)).trans (by omega);have d:i64.wrap (-dv j.kind)=-dv j.kind:=aa;generalize oP (λk=>lx k.name j.name) js=q at a f;refine Dp func185 λC hP hN=>?_
 cases c:ja j.name with
 |false=>
  have x:=@Az;refine GT (go e b c hi) ?_
  all_goals simp[bS,c]
 |true=>
  cases hd:rL js i j.name with
  |true=>
   rw[hd]at a;have x:=@Az;refine GT (it e b c hi a) ?_
   all_goals simp[bS,c,hd]
  |false=>
   rw[hd]at a;by_cases l:j.kind<0\/6<j.kind
   .skip
    with_reducible repeat' (first|refine Sp.h ?_|((first|refine Ss.h ?_|refine Sc.h (Az _) ?_|refine Sc.h (f) ?_|(refine Sb.h ?_ ?_ ?_<;>(try intro hgd)<;>try exact Xy))<;>simp -implicitDefEqProofs (maxSteps:=2000000) [hP,hN,e,b,c,hi,a])|refine X2 ?_ ?_|(refine Xd ?_ ?_<;>intro hcd<;>try exact Xx))
    all_goals (first|(simp[bS,c,hd,l];done)|(exfalso;simp at *;omega))
   .have r:BQ j.kind=dv j.kind:=HR (by omega) (by omega)
    have cl:=V3 j.kind;rw[r]at cl
    have o:¬j.kind<0:=by omega
    have p:¬6<j.kind:=by omega
    by_cases hp:j.parent< -1\/(i:Int)<=j.parent
    .skip
     with_reducible repeat' (first|refine Sp.h ?_|((first|refine Ss.h ?_|refine Sc.h (Az _) ?_|refine Sc.h (f) ?_|(refine Sb.h ?_ ?_ ?_<;>(try intro hgd)<;>try exact Xy))<;>simp -implicitDefEqProofs (maxSteps:=2000000) [hP,hN,e,b,c,hi,a,o,p])|refine X2 ?_ ?_|(refine Xd ?_ ?_<;>intro hcd<;>try exact Xx))
     all_goals (first|(simp[bS,c,hd,l,hp];done)|(exfalso;simp at *;omega))
    .have s:¬j.parent< -1:=by omega
     have u:¬(i:Int)<=j.parent:=by omega
     cases g:fB j.ox j.oy j.oz 4194304 with
     |false=>
      have x:=@Az;have A:=@JM;refine GT (zAc e b c hi a o p s u g) ?_
      all_goals (simp[bS,c,hd,l,hp,g])
     |true=>
      by_cases v:j.hi<j.lo\/j.lo< -dv j.kind\/dv j.kind<j.hi
      .skip
       with_reducible repeat' (first|refine Sp.h ?_|((first|refine Ss.h ?_|refine Sc.h (Az _) ?_|refine Sc.h (f) ?_|refine Sc.h (JM _ _ _) ?_|refine Sc.h (cl) ?_|(refine Sb.h ?_ ?_ ?_<;>(try intro hgd)<;>try exact Xy))<;>simp -implicitDefEqProofs (maxSteps:=2000000) [hP,hN,e,b,c,hi,a,o,p,s,u,g,m,d])|refine X2 ?_ ?_|(refine Xd ?_ ?_<;>intro hcd<;>try exact Xx))
       all_goals (first|(simp[bS,c,hd,l,hp,g,v];done)|(exfalso;simp at *;omega))
      .have b1:¬j.hi<j.lo:=by omega
       have b2:¬j.lo< -dv j.kind:=by omega
       have b3:¬dv j.kind<j.hi:=by omega
       with_reducible repeat' (first|refine Sp.h ?_|((first|refine Ss.h ?_|refine Sc.h (Az _) ?_|refine Sc.h (f) ?_|refine Sc.h (JM _ _ _) ?_|refine Sc.h (cl) ?_|refine Sc.h (RS _ _) ?_|(refine Sb.h ?_ ?_ ?_<;>(try intro hgd)<;>try exact Xy))<;>simp -implicitDefEqProofs (maxSteps:=2000000) [hP,hN,e,b,c,hi,a,o,p,s,u,g,m,d,b1,b2,b3])|refine X2 ?_ ?_|(refine Xd ?_ ?_<;>intro hcd<;>try exact Xx))
       all_goals (rw[bS,L4 (by simp[c,hd]),L4 l,L4 hp,L4 (by simp[g]),L4 v];simp_all)
abbrev V5(j:J):List AV:=[.pv (.val (.string j.name)),.pv (Z j.kind),.pv (Z j.parent),.pv (Z j.ox),.pv (Z j.oy),.pv (Z j.oz),.pv (Z j.lo),.pv (Z j.hi),.pv (Z j.w),.pv (Z j.sp),.pv (Z j.ac),.pv (Z j.tq)]
theorem Qo{n:ByteArray}(a:k<i)(b:k<js.length)(h:lx js[k].name n=true):rL js i n=true:=by
 rw[rL,yBQ];exact⟨js[k],In (i:=k) (by rw[yAw,yAb a];exact an b),h⟩
theorem K4{n:ByteArray}(h:∀m x,m<i->js[m]?=some x->lx x.name n=false):rL js i n=false:=by
 rw[rL,yBH];intro x c;obtain⟨m,a⟩:=yAD c;rw[yAw]at a;split at a
 .rename_i b;simp[h m x b a]
 .cases a
theorem UZ(js:List J)(i:Nat)(H:js.length<=9223372036854775807)(hi:i<js.length):aL 86 (.sl (js.map bj)) (Z i) (Z (bS js i js[i])):=by
 have B:=an hi;generalize r:js[i]=j at B|-;have K:=tI j.kind;have q:i64.wrap (0-dv j.kind)=-dv j.kind:=(aa (n:=0-dv j.kind) (by omega) (by omega)).trans (by omega);have d:i64.wrap (-dv j.kind)=-dv j.kind:=aa;refine Dp func86 λC hP hN=>?_
 cases c:ja j.name with
 |false=>
  have I:=@RQ;refine GT (go B r c hi) ?_
  all_goals simp[bS,c]
 |true=>
  have I:=@RQ;refine GT (go B r c hi) ?_;refine WP.loopN [] i (λk st=>st.t 0=.pv (.sl (js.map bj))/\st.t 1=.pv (Z i)/\st.t 5=.ptr 5 0/\st.h 5=some (.box (V5 j) true false)/\st.t 6=.pv (Z k)/\∀m x,m<k->js[m]?=some x->lx x.name j.name=false) (by simp) ?_;rintro k st e ⟨g,l,o,a,p,hq⟩;by_cases z:k<i
  .have b:k<js.length:=by omega
   have L:=ai b H
   have G:(k:Int)<(i:Int):=by omega
   cases s:lx js[k].name j.name with
   |true=>
    have A:(js[k].name.toList==j.name.toList)=true:=s;have hd:=Qo z b s;refine Gz ?_
    all_goals simp[bS,c,hd]
   |false=>
    have A:(js[k].name.toList==j.name.toList)=false:=s;refine Gz ?_
    all_goals simpa using pN b hq s
  .have y:k=i:=by omega
   subst y;have hd:=K4 hq;by_cases e:j.kind<0\/6<j.kind
   .skip
    with_reducible repeat' (first|refine Sp.h ?_|((first|refine Wd ?_|refine Ss.h ?_|(refine Sb.h ?_ ?_ ?_<;>(try intro hgd)<;>try exact Xy))<;>simp -implicitDefEqProofs (maxSteps:=2000000) [hP,hN,g,l,o,a,p]<;>try refine Ya ?_)|refine X2 ?_ ?_|(refine Xd ?_ ?_<;>intro hcd<;>try exact Xx))
    all_goals (first|(simp[bS,c,hd,e];done)|(exfalso;simp at *;omega))
   .have u:¬j.kind<0:=by omega
    have v:¬6<j.kind:=by omega
    by_cases hp:j.parent< -1\/(k:Int)<=j.parent
    .skip
     with_reducible repeat' (first|refine Sp.h ?_|((first|refine Wd ?_|refine Ss.h ?_|(refine Sb.h ?_ ?_ ?_<;>(try intro hgd)<;>try exact Xy))<;>simp -implicitDefEqProofs (maxSteps:=2000000) [hP,hN,g,l,o,a,p,u,v]<;>try refine Ya ?_)|refine X2 ?_ ?_|(refine Xd ?_ ?_<;>intro hcd<;>try exact Xx))
     all_goals (first|(simp[bS,c,hd,e,hp];done)|(exfalso;simp at *;omega))
    .have D:¬j.parent< -1:=by omega
     have E:¬(k:Int)<=j.parent:=by omega
     cases f:fB j.ox j.oy j.oz 4194304 with
     |false=>
      with_reducible repeat' (first|refine Sp.h ?_|((first|refine Wd ?_|refine Ss.h ?_|refine Sc.h (xm _ _ _ _ (by decide) (by decide)) ?_|(refine Sb.h ?_ ?_ ?_<;>(try intro hgd)<;>try exact Xy))<;>simp -implicitDefEqProofs (maxSteps:=2000000) [hP,hN,g,l,o,a,p,u,v,D,E,f]<;>try refine Ya ?_)|refine X2 ?_ ?_|(refine Xd ?_ ?_<;>intro hcd<;>try exact Xx))
      all_goals (simp[bS,c,hd,e,hp,f])
     |true=>
      by_cases F:j.hi<j.lo\/j.lo< -dv j.kind\/dv j.kind<j.hi
      .skip
       with_reducible repeat' (first|refine Sp.h ?_|((first|refine Wd ?_|refine Ss.h ?_|refine Sc.h (xm _ _ _ _ (by decide) (by decide)) ?_|refine Sc.h (RT _) ?_|(refine Sb.h ?_ ?_ ?_<;>(try intro hgd)<;>try exact Xy))<;>simp -implicitDefEqProofs (maxSteps:=2000000) [hP,hN,g,l,o,a,p,u,v,D,E,f,q,d]<;>try refine Ya ?_)|refine X2 ?_ ?_|(refine Xd ?_ ?_<;>intro hcd<;>try exact Xx))
       all_goals (first|(simp[bS,c,hd,e,hp,f,F];done)|(exfalso;simp at *;omega))
      .have b1:¬j.hi<j.lo:=by omega
       have b2:¬j.lo< -dv j.kind:=by omega
       have b3:¬dv j.kind<j.hi:=by omega
       with_reducible repeat' (first|refine Sp.h ?_|((first|refine Wd ?_|refine Ss.h ?_|refine Sc.h (xm _ _ _ _ (by decide) (by decide)) ?_|refine Sc.h (RT _) ?_|refine Sc.h (Px _ _ _) ?_|(refine Sb.h ?_ ?_ ?_<;>(try intro hgd)<;>try exact Xy))<;>simp -implicitDefEqProofs (maxSteps:=2000000) [hP,hN,g,l,o,a,p,u,v,D,E,f,q,d,b1,b2,b3]<;>try refine Ya ?_)|refine X2 ?_ ?_|(refine Xd ?_ ?_<;>intro hcd<;>try exact Xx))
       all_goals (rw[bS,L4 (by simp[c,hd]),L4 e,L4 hp,L4 (by simp[f]),L4 F];simp_all)
def fL(n:Nat)(m:Ms):Bool:=decide (0<=m.link)&&decide (m.link<n)&&bw m.mass 1 65536&&fB m.px m.py m.pz 4194304
theorem V7(js:List J)(ms:List Ms)(m:Ms):aL 188 (gH js ms) (bN m) (B (fL js.length m)):=by
 refine Dp func188 λC hP hN=>?_
 with_reducible repeat' (first|refine Sp.h ?_|((first|refine Ss.h ?_|refine Sc.h (RS _ _) ?_|refine Sc.h (JM _ _ _) ?_|(refine Sb.h ?_ ?_ ?_<;>(try intro hgd)<;>try exact Xy))<;>simp -implicitDefEqProofs (maxSteps:=2000000) [hP,hN])|refine X2 ?_ ?_|(refine Xd ?_ ?_<;>intro hcd<;>try exact Xx))
 all_goals (simp_all[fL]<;>omega)
theorem V8(js:List J)(ms:List Ms)(m:Ms):aL 187 (bN m) (.rptr (gH js ms) 0) (B (!fL js.length m)):=by
 refine Dp func187 λC hP hN=>?_;have a:=@V7;exact GS trivial
theorem V9(f:FuncId)(c:PV)(p:Ms->Bool)(xs:List Ms)(k:xs.length<=9223372036854775807)(hf:∀x,aO prog f [.pv (bN x),.pv (.rptr c 0)] [] [] (.pv (B (p x)))):aL 252 (.sl (xs.map bN)) (.fn (.func f) [] [.rptr c 0]) (Z (oP p xs)):=by
 refine Dp func252 λC hP hN=>?_;refine Gz ?_;refine WP.loopN [] xs.length (λi st=>st.t 0=.pv (.sl (xs.map bN))/\st.t 1=.pv (.fn (.func f) [] [.rptr c 0])/\st.t 7=.pv (Z xs.length)/\st.t 8=.pv (Z i)/\∀j x,j<i->xs[j]?=some x->p x=false) (by simp) ?_;rintro i st hi ⟨b,d,e,g,hq⟩;by_cases a:i<xs.length
 .have l:=ai a k
  with_reducible repeat' (first|refine Sp.h ?_|((first|refine Ss.h ?_|refine Sc.h (hf _) ?_|(refine Sb.h ?_ ?_ ?_<;>(try intro hgd)<;>try exact Xy))<;>simp -implicitDefEqProofs (maxSteps:=2000000) [hP,hN,b,d,e,g,a,l])|refine X2 ?_ ?_|(refine Xd ?_ ?_<;>intro hcd<;>try exact Xx))
  .exact(qK a hq hcd).symm
  .simpa using pN a hq hcd
 .skip
  refine Gz ?_;exact(xi (Aw a hq)).symm
theorem Wa(f:FuncId)(c:PV)(p:Ms->Bool)(xs:List Ms)(a:xs.length<=9223372036854775807)(hf:∀x,aO prog f [.pv (bN x),.pv (.rptr c 0)] [] [] (.pv (B (p x)))):aL 186 (.sl (xs.map bN)) (.fn (.func f) [] [.rptr c 0]) (B (xs.any p)):=by
 refine Dp func186 λC hP hN=>?_;have b:=V9 _ _ _ _ a hf;refine GT trivial ?_
 all_goals (first|(simp_all[vu];done)|((try simp_all[vu])<;>(try omega)<;>grind))
def iT(js:List J):Int:=match(js.mapIdx (bS js)).find? (λe=>e !=0)with
 |some e=>e
 |none=>0
theorem pP(js:List J):iT js=match(js.mapIdx (bS js)).find? (λe=>e !=0)with
 |some e=>e
 |none=>0:=rfl
theorem zZ(b:i<js.length)(hq:∀k x,k<i->js[k]?=some x->bS js k x=0)(c:bS js i js[i]≠0):iT js=bS js i js[i]:=by
 rw[pP]
 have:(js.mapIdx (bS js)).find? (λe=>e !=0)=some (bS js i js[i]):=by
  rw[yB9];refine⟨by simpa using c,i,by simpa using b,by simp,λk d=>?_⟩
  have a:k<js.length:=by omega
  simp[hq k js[k] d (an a)]
 rw[this]
theorem vB(hq:∀(k:Nat) x,js[k]?=some x->bS js k x=0):iT js=0:=by
 rw[pP]
 have:(js.mapIdx (bS js)).find? (λe=>e !=0)=none:=by
  rw[yBc];intro e a;simp only[List.mem_mapIdx]at a;obtain⟨i,hi,rfl⟩:=a;simp[hq i js[i] (an hi)]
 rw[this]
theorem F8(b:i<js.length)(hq:∀k x,k<i->js[k]?=some x->bS js k x=0)(c:bS js i js[i]=0):∀k x,k<i+1->js[k]?=some x->bS js k x=0:=by
 intro k x d a;by_cases e:k=i
 .subst e;rw[an b]at a;injection a with a;subst a;exact c
 .exact hq k x (by omega) a
def aD(js:List J)(ms:List Ms):Int:=if js.length=0\/10<js.length then 801 else if iT js≠0 then iT js else if(decide (32<ms.length)||ms.any λm=>!fL js.length m)=true then 808 else 0
theorem Nq(js:List J)(ms:List Ms)(v:js.length<=9223372036854775807)(F:ms.length<=9223372036854775807):aV 108 (gH js ms) (Z (aD js ms)):=by
 by_cases o:js.length=0
 .have s:aD js ms=801:=by simp[aD,o]
  have p:js=[]:=yAA o;rw[s];subst p;refine Dp func108 λC hP hN=>?_;exact Gy
 have H:((js.length:Int)==0)=false:=by simp;intro h;exact o (by rw[h];rfl)
 by_cases E:10<js.length
 .have s:aD js ms=801:=by simp[aD,E]
  have q:(10:Int)<js.length:=by omega
  rw[s];refine Dp func108 λC hP hN=>?_;exact Gy
 have q:¬(10:Int)<js.length:=by omega
 have u:aD js ms=if iT js≠0 then iT js else if(decide (32<ms.length)||ms.any λm=>!fL js.length m)=true then 808 else 0:=by
  unfold aD;rw[L4 (by omega)]
 rw[u];generalize y:(if(decide (32<ms.length)||ms.any λm=>!fL js.length m)=true then(808:Int)else 0)=r;refine Dp func108 λC hP hN=>?_;refine Gz ?_;refine WP.loopN [] js.length (λi st=>st.t 1=.ptr 1 0/\st.h 1=some (.box [.pv (.sl (js.map bj)),.pv (.sl (ms.map bN))] true false)/\st.t 17=.pv (Z js.length)/\st.t 18=.pv (Z i)/\∀k x,k<i->js[k]?=some x->bS js k x=0) (by simp) ?_;rintro i st hi ⟨A,l,e,f,hq⟩;by_cases a:i<js.length
 .have B:=ai a v
  by_cases c:bS js i js[i]=0
  .have d:(bS js i js[i]!=0)=false:=by simp[c]
   have G:=RU js ms i v a;refine GT (zAb A l e f a B d c) ?_
   all_goals simpa using F8 a hq c
  .have d:(bS js i js[i]!=0)=true:=by simp[c]
   have hf:=zZ a hq c;have G:=RU js ms i v a;refine GT (zAb A l e f a B d c) ?_
   all_goals simp[hf,c]
 .have hf:iT js=0:=vB (λk x D=>hq k x (by have:=(th.1 D).1;omega) D)
  have z:=Wa 187 (gH js ms) (λm=>!fL js.length m) ms F (λm=>V8 js ms m);rw[hf];by_cases g:32<ms.length
  .have j:(32:Int)<ms.length:=by omega
   have n:r=808:=by rw[<-y];simp[g]
   exact Gy
  .have j:¬(32:Int)<ms.length:=by omega
   cases b:ms.any λm=>!fL js.length m with
   |true=>
    rw[b]at z
    have n:r=808:=by rw[<-y,b];simp
    exact Gy
   |false=>
    rw[b]at z
    have n:r=0:=by rw[<-y,b];simp[g]
    exact Gy
theorem Qp(h:i<xs.length)(hp:p xs[i]=true):xs.any p=true:=yBQ.2 ⟨_,yAq h,hp⟩
theorem RW(h:∀(i:Nat) x,xs[i]?=some x->p x=false):xs.any p=false:=by
 rw[yBH];intro x a;obtain⟨i,hi⟩:=yAD a;simp[h i x hi]
theorem sE(js:List J)(ms:List Ms)(E:js.length<=9223372036854775807)(H:ms.length<=9223372036854775807):aV 39 (gH js ms) (Z (aD js ms)):=by
 by_cases F:js.length=0
 .have D:aD js ms=801:=by simp[aD,F]
  have A:js=[]:=yAA F;rw[D];subst A;refine Dp func39 λC hP hN=>?_;exact Gy
 have K:¬(js.length:Int)<1:=by omega
 have L:¬js.length<1:=by omega
 by_cases G:10<js.length
 .have D:aD js ms=801:=by simp[aD,G]
  have B:(10:Int)<js.length:=by omega
  rw[D];refine Dp func39 λC hP hN=>?_;exact Gy
 have B:¬(10:Int)<js.length:=by omega
 have g:aD js ms=if iT js≠0 then iT js else if(decide (32<ms.length)||ms.any λm=>!fL js.length m)=true then 808 else 0:=by
  unfold aD;rw[L4 (by omega)]
 rw[g];generalize v:(if(decide (32<ms.length)||ms.any λm=>!fL js.length m)=true then(808:Int)else 0)=r;refine Dp func39 λC hP hN=>?_;refine Gz ?_;refine WP.loopN [] js.length (λi st=>st.t 1=.ptr 1 0/\st.h 1=some (.box [.pv (.sl (js.map bj)),.pv (.sl (ms.map bN))] true false)/\st.h 6=none/\st.t 3=.pv (Z i)/\∀k x,k<i->js[k]?=some x->bS js k x=0) (by simp) ?_;rintro i st hi ⟨e,b,c,g3,hq⟩;by_cases a:i<js.length
 .have n:=ai a E
  by_cases j:bS js i js[i]=0
  .have l:(bS js i js[i]!=0)=false:=by simp[j]
   have I:=UZ js i E a;refine GT (zAb e b c g3 a n l j) ?_
   all_goals simpa using F8 a hq j
  .have l:(bS js i js[i]!=0)=true:=by simp[j]
   have hf:=zZ a hq j;have I:=UZ js i E a;refine GT (zAb e b c g3 a n l j) ?_
   all_goals simp[hf,j]
 .have hf:iT js=0:=vB (λk x o=>hq k x (by have:=(th.1 o).1;omega) o)
  rw[hf];by_cases q:32<ms.length
  .have s:(32:Int)<ms.length:=by omega
   have f:r=808:=by rw[<-v];simp[q]
   exact Gy
  .have s:¬(32:Int)<ms.length:=by omega
   refine Gz ?_;refine WP.loopN [6] ms.length (λi st=>st.t 1=.ptr 1 0/\st.h 1=some (.box [.pv (.sl (js.map bj)),.pv (.sl (ms.map bN))] true false)/\st.h 6=none/\st.t 5=.pv (Z i)/\∀k x,k<i->ms[k]?=some x->(!fL js.length x)=false) (by simp[e,b,c]) ?_;clear e b c g3 hq;rintro i st hi ⟨e,b,c,z,hq⟩;by_cases a:i<ms.length
   .have n:=ai a H
    have o:=an a
    cases u:fL js.length ms[i]with
    |false=>
     have d:(ms.any λm=>!fL js.length m)=true:=Qp a (by simp[u])
     have f:r=808:=by rw[<-v,d];simp
     clear v d
     with_reducible repeat' (first|refine Sp.h ?_|((first|refine Ss.h ?_|refine Sc.h (xm _ _ _ _ (by decide) (by decide)) ?_|refine Sc.h (Px _ _ _) ?_|(refine Sb.h ?_ ?_ ?_<;>(try intro hgd)<;>try exact Xy))<;>simp -implicitDefEqProofs (maxSteps:=2000000) [hP,hN,e,b,c,z,a,n,f])|refine X2 ?_ ?_|(refine Xd ?_ ?_<;>intro hcd<;>try exact Xx))
     all_goals (exfalso;clear hq hP hN e b c z n f g hf;simp[fL]at *;grind)
    |true=>
     have y:=pN (p:=λm=>!fL js.length m) a hq (by simp[u]);clear v hq
     with_reducible repeat' (first|refine Sp.h ?_|((first|refine Ss.h ?_|refine Sc.h (xm _ _ _ _ (by decide) (by decide)) ?_|refine Sc.h (Px _ _ _) ?_|(refine Sb.h ?_ ?_ ?_<;>(try intro hgd)<;>try exact Xy))<;>simp -implicitDefEqProofs (maxSteps:=2000000) [hP,hN,e,b,c,z,a,n])|refine X2 ?_ ?_|(refine Xd ?_ ?_<;>intro hcd<;>try exact Xx))
     all_goals first|(simpa using y)|(exfalso;clear y hP hN e b c z n g hf;simp[fL]at *;grind)
   .have d:(ms.any λm=>!fL js.length m)=false:=RW (λk x o=>hq k x (by have:=(th.1 o).1;omega) o)
    have f:r=0:=by rw[<-v,d];simp[q]
    exact Gy
theorem rO(h:d<=20):(2:Int)^d.toNat<=1048576:=by
 have hp:∀n:Nat,n<=20->(2:Int)^n<=1048576:=by decide
 exact hp _ (by omega)
theorem lV:au p xs=true↔∀x∈xs,p x=true:=by simp[au]
theorem kw{β:Type}{f:α->β->Bool}{ys:List β}:ew f xs ys=true↔∀(i:Nat)(h:i<xs.length)(h':i<ys.length),f xs[i] ys[i]=true:=by
 unfold ew;rw[IV];constructor
 .intro h i hi a
  exact h (f xs[i] ys[i]) (by
   rw[yBl]
   exact⟨i,by simp;omega,by simp⟩)
 .intro h x b
  obtain⟨i,hi,rfl⟩:=yBl.1 b;simp only[List.length_zipWith]at hi;simpa using h i (by omega) (by omega)
section
variable {p q:List Int} {d i:Int}
end
def rP(a b:Int):Int:=if a.tmod b<0 then wr (wr (a.tdiv b)-1)else wr (a.tdiv b)
def yX(a b:Int):Int:=if 0<a.tmod b then wr (wr (a.tdiv b)+1)else wr (a.tdiv b)
theorem RX(a b:Int)(c:b≠0):aL 228 (Z a) (Z b) (Z (rP a b)):=by
 refine Dp func228 λC hP hN=>?_
 with_reducible repeat' (first|refine Sp.h ?_|((first|refine Ss.h ?_|(refine Sb.h ?_ ?_ ?_<;>(try intro hgd)<;>try exact Xy))<;>simp -implicitDefEqProofs (maxSteps:=2000000) [hP,hN,c])|refine X2 ?_ ?_|(refine Xd ?_ ?_<;>intro hcd<;>try exact Xx))
 all_goals (first|(simp_all[rP];done)|((try simp_all[rP])<;>(try omega)<;>grind))
theorem Wb(a b:Int)(c:b≠0):aL 211 (Z a) (Z b) (Z (yX a b)):=by
 refine Dp func211 λC hP hN=>?_
 with_reducible repeat' (first|refine Sp.h ?_|((first|refine Ss.h ?_|(refine Sb.h ?_ ?_ ?_<;>(try intro hgd)<;>try exact Xy))<;>simp -implicitDefEqProofs (maxSteps:=2000000) [hP,hN,c])|refine X2 ?_ ?_|(refine Xd ?_ ?_<;>intro hcd<;>try exact Xx))
 all_goals (first|(simp_all[yX];done)|((try simp_all[yX])<;>(try omega)<;>grind))
theorem JN(xs ys:List Int)(d:Int)(a:xs.length<=9223372036854775807)(b:ys.length<=9223372036854775807):jQ 256 (zs xs) (zs ys) (Z d) (B (nF xs ys d)):=by
 have e:nF xs ys d=(au fK xs&&au fK ys&&decide (xs.length=ys.length)&&decide (0<=d)&&decide (d<=20)):=by
  unfold nF;cases au fK xs<;>cases au fK ys<;>cases decide (xs.length=ys.length)<;>rfl
 rw[e];refine Dp func256 λC hP hN=>?_
 with_reducible repeat' (first|refine Sp.h ?_|((first|refine Ss.h ?_|refine Sc.h (RJ _ a) ?_|refine Sc.h (RJ _ b) ?_|(refine Sb.h ?_ ?_ ?_<;>(try intro hgd)<;>try exact Xy))<;>simp -implicitDefEqProofs (maxSteps:=2000000) [hP,hN])|refine X2 ?_ ?_|(refine Xd ?_ ?_<;>intro hcd<;>try exact Xx))
 all_goals (first|(simp_all;done)|((try simp_all)<;>(try omega)<;>grind))
def lW(a d f t:Int):Int×Int:=
 let s:=wr (a*wr (t-f));let e:=wr (wr (a+1)*wr (t-f))
 (wr (f+rP (min s e) (2^d.toNat)),wr (f+yX (max s e) (2^d.toNat)))
def cX(xs ys:List Int)(d i:Int):List (Int×Int)×Bool:=if nF xs ys d&&decide (0<=i)&&decide (i<2^d.toNat)then(List.zipWith (lW i d) xs ys,true)else([],false)
theorem Nr(xs ys:List Int)(d i:Int)(r:xs.length<=16777216)(u:ys.length<=16777216):yn 197 (zs xs) (zs ys) (Z d) (Z i) (.tup [iv (cX xs ys d i).1,B (cX xs ys d i).2]):=by
 cases a:nF xs ys d with
 |false=>
  refine Dp func197 λC hP hN=>?_
  with_reducible repeat' (first|refine Sp.h ?_|((first|refine Wd ?_|refine Ss.h ?_|refine Sc.h (JN _ _ _ (lR r) (lR u)) ?_|(refine Sb.h ?_ ?_ ?_<;>(try intro hgd)<;>try exact Xy))<;>simp -implicitDefEqProofs (maxSteps:=2000000) [hP,hN,a]<;>try refine Ya ?_)|refine X2 ?_ ?_|(refine Xd ?_ ?_<;>intro hcd<;>try exact Xx))
  all_goals simp[cX,a]
 |true=>
  obtain⟨I,_,_,l,hd⟩:=rH a
  have j:d<64:=by omega
  have v:IntKind.u64.wrap d=d:=by rw[IntKind.wrap_u64];omega
  have s:(2:Int)^d.toNat≠0:=by have:=Int.pow_pos (n:=(2:Int)) (m:=d.toNat) (by decide);omega
  by_cases hi:0<=i/\i<2^d.toNat
  .obtain⟨b,e⟩:=hi
   have hL:cX xs ys d i=(List.zipWith (lW i d) xs ys,true):=by simp[cX,a,b,e]
   rw[hL];refine Dp func197 λC hP hN=>?_
   with_reducible repeat' (first|refine Sp.h ?_|((first|refine Wh [11] ?_|refine Wi [11] ?_|refine Ss.h ?_|refine Sc.h (JN _ _ _ (lR r) (lR u)) ?_|(refine Sb.h ?_ ?_ ?_<;>(try intro hgd)<;>try exact Xy))<;>simp -implicitDefEqProofs (maxSteps:=2000000) [hP,hN,a,l,v,ue,vt j,uf l hd,Int.not_lt.2 b,Int.not_le.2 e]<;>try refine Ya ?_)|refine X2 ?_ ?_|(refine Xd ?_ ?_<;>intro hcd<;>try exact Xx))
   refine WP.loopN [79] xs.length (λk st=>st.t 0=.pv (zs xs)/\st.t 1=.pv (zs ys)/\st.t 3=.pv (Z i)/\st.t 10=.pv (Z (2^d.toNat))/\st.t 12=.pv (Z k)/\st.t 11=.arr 11 k/\st.h 80=none/\st.h 11=some (.row 99 2 ((List.zipWith (λx y=>aA (lW i d x y)) xs ys).take k) 0)) (by simp) ?_;rintro k st J ⟨A,D,g3,o,q,p,E,F⟩;by_cases c:k<xs.length
   .have H:=ai c (lR r)
    have g:k<ys.length:=by omega
    have z:min k (min xs.length ys.length)=k:=by omega
    have G:=E4 (f:=λx y=>aA (lW i d x y)) c g
    with_reducible repeat' (first|refine Sp.h ?_|((first|refine Wd ?_|refine Ss.h ?_|refine Sc.h (RX _ _ s) ?_|refine Sc.h (Wb _ _ s) ?_|(refine Sb.h ?_ ?_ ?_<;>(try intro hgd)<;>try exact Xy))<;>simp -implicitDefEqProofs (maxSteps:=2000000) [hP,hN,A,D,g3,o,q,p,E,F,c,g,H,z,show(k+1)*16<=140737488355328 by omega,show k<=9223372036854775806 by omega]<;>try refine Ya ?_)|refine X2 ?_ ?_|(refine Xd ?_ ?_<;>intro hcd<;>try exact Xx))
    all_goals (rw[<-G];simp[lW])
   .have z:min k (min xs.length ys.length)=k:=by omega
    with_reducible repeat' (first|refine Sp.h ?_|((first|refine Wd ?_|refine Ss.h ?_|(refine Sb.h ?_ ?_ ?_<;>(try intro hgd)<;>try exact Xy))<;>simp -implicitDefEqProofs (maxSteps:=2000000) [hP,hN,A,D,g3,o,q,p,E,F,c,z]<;>try refine Ya ?_)|refine X2 ?_ ?_|(refine Xd ?_ ?_<;>intro hcd<;>try exact Xx))
    exact xj (by simp;omega) c
  .have hL:cX xs ys d i=([],false):=by
    unfold cX;rw[L4];simp only[An,Is];omega
   rw[hL];by_cases b:i<0
   .skip
    refine Dp func197 λC hP hN=>?_
    with_reducible repeat' (first|refine Sp.h ?_|((first|refine Wd ?_|refine Ss.h ?_|refine Sc.h (JN _ _ _ (lR r) (lR u)) ?_|(refine Sb.h ?_ ?_ ?_<;>(try intro hgd)<;>try exact Xy))<;>simp -implicitDefEqProofs (maxSteps:=2000000) [hP,hN,a,l,v,ue,vt j,uf l hd,b]<;>try refine Ya ?_)|refine X2 ?_ ?_|(refine Xd ?_ ?_<;>intro hcd<;>try exact Xx))
   .have e:2^d.toNat<=i:=by omega
    refine Dp func197 λC hP hN=>?_
    with_reducible repeat' (first|refine Sp.h ?_|((first|refine Wd ?_|refine Ss.h ?_|refine Sc.h (JN _ _ _ (lR r) (lR u)) ?_|(refine Sb.h ?_ ?_ ?_<;>(try intro hgd)<;>try exact Xy))<;>simp -implicitDefEqProofs (maxSteps:=2000000) [hP,hN,a,l,v,ue,vt j,uf l hd,b,e]<;>try refine Ya ?_)|refine X2 ?_ ?_|(refine Xd ?_ ?_<;>intro hcd<;>try exact Xx))
theorem sG{k:Int}(c:0<b)(h1:k*b<=a)(d:a<(k+1)*b):a/b=k:=by
 have:=(yB4 c).2 h1;have:=(yB5 c).2 d;omega
theorem Ek(c:0<b)(h1:-4611686018427387904<=a)(d:a<=4611686018427387904):rP a b=a/b:=by
 have hq:=yB8 a b;have g:-b<a.tmod b:=yBW a c;have i:a.tmod b<b:=yBE a c;have f:=mq (a:=a) (N:=b) (B:=4611686018427387904) c h1 d;rw[Int.mul_comm]at hq;unfold rP;split
 .have e:a/b=a.tdiv b-1:=sG c (by rw[Int.sub_mul];omega) (by rw[show a.tdiv b-1+1=a.tdiv b by omega];omega)
  rw[aa (n:=a.tdiv b) (by omega) (by omega),aa (by omega) (by omega),e]
 .have e:a/b=a.tdiv b:=sG c (by omega) (by rw[Int.add_mul];omega)
  rw[aa (n:=a.tdiv b) (by omega) (by omega),e]
theorem Ns(c:0<b)(h1:-4611686018427387904<=a)(f:a<=4611686018427387904):yX a b=-(-a/b):=by
 have hq:=yB8 a b;have g:-b<a.tmod b:=yBW a c;have i:a.tmod b<b:=yBE a c;have d:=mq (a:=-a) (N:=b) (B:=4611686018427387904) c (by omega) (by omega);rw[Int.mul_comm]at hq;unfold yX;split
 .have e:-a/b=-a.tdiv b-1:=sG c (by rw[Int.sub_mul,yCb];omega) (by rw[show -a.tdiv b-1+1=-a.tdiv b by omega,yCb];omega)
  rw[aa (n:=a.tdiv b) (by omega) (by omega),aa (by omega) (by omega),e];omega
 .have e:-a/b=-a.tdiv b:=sG c (by rw[yCb];omega) (by rw[Int.add_mul,yCb];omega)
  rw[aa (n:=a.tdiv b) (by omega) (by omega),e];omega
theorem F9{i f:Int}(hi:0<=i)(c:i<=1048576)(hf:jT f)(e:jT t):lW i d f t=BL i d f t:=by
 rw[Eg hi c hf e];unfold jT at hf e;have j:wr (t-f)=t-f:=aa;have g:wr (i+1)=i+1:=aa;have b1:=sD (i:=i) (D:=t-f) (A:=1048577) (B:=4294967296) hi (by omega) (by omega) (by omega);have b2:=sD (i:=i+1) (D:=t-f) (A:=1048577) (B:=4294967296) (by omega) (by omega) (by omega) (by omega);have k:wr (i*(t-f))=i*(t-f):=aa;have l:wr ((i+1)*(t-f))=(i+1)*(t-f):=aa;simp only[lW,xk,j,g,k,l];generalize i*(t-f)=a at *;generalize(i+1)*(t-f)=b at *;have hN:(0:Int)<2^d.toNat:=lU _;rw[Ek hN (by omega) (by omega),Ns hN (by omega) (by omega)];have m:=mq (a:=min a b) (N:=2^d.toNat) (B:=1048577*4294967296) hN (by omega) (by omega);have n:=mq (a:=-max a b) (N:=2^d.toNat) (B:=1048577*4294967296) hN (by omega) (by omega);rw[aa (by omega) (by omega),aa (by omega) (by omega)];refine Prod.ext rfl ?_;simp only;omega
theorem vC{xs:List Int}(h:au fK xs=true):∀x∈xs,jT x:=by
 rw[lV]at h;intro x a;have:=h x a;simpa[fK,jT]using this
theorem El{α β γ:Type}{f g:α->β->γ}:∀{xs:List α}{ys:List β},(∀a∈xs,∀b∈ys,f a b=g a b)->List.zipWith f xs ys=List.zipWith g xs ys
 |[],_,_=>rfl
 |_::_,[],_=>rfl
 |a::xs,b::ys,h=>by
  simp only[List.zipWith_cons_cons];rw[h a (by simp) b (by simp),El (λa c b d=>h a (by simp[c]) b (by simp[d]))]
theorem xn(xs ys:List Int)(d i:Int):cX xs ys d i=kL xs ys d i:=by
 unfold cX kL;split
 .rename_i h
  simp only[An,Is]at h;obtain⟨_,f,g,j,hd⟩:=rH h.1.1;have k:=rO hd;refine Prod.ext ?_ rfl;exact El (λa e b c=>F9 h.1.2 (by omega) (vC f a e) (vC g b c))
 .rfl
theorem z7{x:Int×Int}(h:al x.1 x.2=true):-2147483648<=x.1/\x.1<=x.2/\x.2<=2147483648:=by
 simp only[al,An,Is]at h;omega
theorem RY(x:Int×Int):aV 164 (aA x) (Z (f7 x)):=by
 cases a:al x.1 x.2 with
 |false=>
  have b:f7 x=0:=by simp[f7,a]
  rw[b];refine Dp func164 λC hP hN=>?_;have d:=@lg;exact GS a
 |true=>
  have c:=z7 a
  have b:f7 x=rP (wr (x.1+x.2)) 2:=by
   rw[f7,a];simp only[yAn];rw[aa (by omega) (by omega),Ek (by decide) (by omega) (by omega),Int.fdiv_eq_ediv_of_nonneg _ (by decide)]
  rw[b];refine Dp func164 λC hP hN=>?_
  with_reducible repeat' (first|refine Sp.h ?_|((first|refine Ss.h ?_|refine Sc.h (lg _ _) ?_|refine Sc.h (RX _ _ (by decide)) ?_|(refine Sb.h ?_ ?_ ?_<;>(try intro hgd)<;>try exact Xy))<;>simp -implicitDefEqProofs (maxSteps:=2000000) [hP,hN,a])|refine X2 ?_ ?_|(refine Xd ?_ ?_<;>intro hcd<;>try exact Xx))
theorem Wc(xs:List (Int×Int))(c:xs.length<=16777216):aV 128 (iv xs) (zs (oT xs)):=by
 cases b:au vI xs with
 |false=>
  have d:oT xs=[]:=by simp[oT,b]
  rw[d];refine Dp func128 λC hP hN=>?_;have n:=gr _ (lR c);exact GS b
 |true=>
  have d:oT xs=xs.map f7:=by simp[oT,b]
  rw[d];refine Dp func128 λC hP hN=>?_;have n:=gr _ (lR c);refine rG [3] b ?_;refine WP.loopN [] xs.length (λi st=>st.t 0=.pv (iv xs)/\st.t 4=.pv (Z i)/\st.t 3=.arr 3 i/\st.h 3=some (.row 2 1 ((xs.map λx=>Z (f7 x)).take i) 0)) (by simp) ?_;rintro i st hi ⟨g,j,g3,k⟩;by_cases a:i<xs.length
  .have m:=ai a (lR c)
   have e:min i xs.length=i:=by omega
   have l:=wt (f:=λx=>Z (f7 x)) a
   with_reducible repeat' (first|refine Sp.h ?_|((first|refine Ss.h ?_|refine Sc.h (RY _) ?_|(refine Sb.h ?_ ?_ ?_<;>(try intro hgd)<;>try exact Xy))<;>simp -implicitDefEqProofs (maxSteps:=2000000) [hP,hN,g,j,g3,k,a,m,e,l,show(i+1)*8<=140737488355328 by omega,show i+1<=9223372036854775807 by omega])|refine X2 ?_ ?_|(refine Xd ?_ ?_<;>intro hcd<;>try exact Xx))
  .have e:min i xs.length=i:=by omega
   refine Gz ?_;exact xj (by simp) a
def lX(xs ys:List (Int×Int)):Bool:=au vI xs&&au vI ys&&decide (xs.length=ys.length)&&ew ig xs ys
theorem We(xs ys:List (Int×Int))(g:xs.length<=9223372036854775807)(k:ys.length<=9223372036854775807):aL 184 (iv xs) (iv ys) (B (lX xs ys)):=by
 cases f:au vI xs with
 |false=>
  have d:lX xs ys=false:=by simp[lX,f]
  rw[d];refine Dp func184 λC hP hN=>?_;have n:=gr _ g;have o:=gr _ k;exact GS f
 |true=>
  cases j:au vI ys with
  |false=>
   have d:lX xs ys=false:=by simp[lX,f,j]
   rw[d];refine Dp func184 λC hP hN=>?_;have n:=gr _ g;have o:=gr _ k;exact GS (gA f j)
  |true=>
   by_cases m:xs.length=ys.length
   .have c:((xs.length:Int)!=ys.length)=false:=by simp[m]
    have d:lX xs ys=ew ig xs ys:=by simp[lX,f,j,m]
    rw[d];refine Dp func184 λC hP hN=>?_;have n:=gr _ g;have o:=gr _ k;refine GT (be f j c) ?_;refine WP.loopN [6] xs.length (λi st=>st.t 0=.pv (iv xs)/\st.t 1=.pv (iv ys)/\st.t 5=.pv (Z i)/\st.h 6=none/\fS ig xs ys i=true) (by simp[fS]) ?_;rintro i st hi ⟨r,s,u,v,hq⟩;by_cases b:i<xs.length
    .have x:=ai b g
     have a:i<ys.length:=by omega
     have q:ig xs[i] ys[i]=false->ew ig xs ys=false:=ku b a;have hS:ig xs[i] ys[i]=true->fS ig xs ys (i+1)=true:=lS b a hq;have p:=VS xs[i].1 xs[i].2 ys[i].1 ys[i].2
     cases l:ig xs[i] ys[i]with
     |true=>
      have e:(al xs[i].1 xs[i].2&&al ys[i].1 ys[i].2&&decide (max xs[i].1 ys[i].1<=min xs[i].2 ys[i].2))=true:=l;rw[yAb e]at p;exact Gy
      all_goals simpa using hS l
     |false=>
      have e:(al xs[i].1 xs[i].2&&al ys[i].1 ys[i].2&&decide (max xs[i].1 ys[i].1<=min xs[i].2 ys[i].2))=false:=l;rw[L4 (by simp[e])]at p;exact Gy
      all_goals simp[q l]
    .have a:¬i<ys.length:=by omega
     refine Gz ?_
     all_goals simp[lT b hq]
   .have c:((xs.length:Int)!=ys.length)=true:=by simp;omega
    have d:lX xs ys=false:=by simp[lX,m]
    rw[d];refine Dp func184 λC hP hN=>?_;have n:=gr _ g;have o:=gr _ k;exact GS (be f j c)
theorem K5(xs ys:List (Int×Int)):lX xs ys=dH xs ys:=by
 unfold lX dH;by_cases c:xs.length=ys.length
 .cases b:ew ig xs ys with
  |false=>simp
  |true=>
   rw[kw]at b
   have v1:au vI xs=true:=by
    rw[lV];intro x a;obtain⟨i,hi,rfl⟩:=yBl.1 a;have:=b i hi (by omega);simp only[ig,An]at this;exact this.1.1
   have v2:au vI ys=true:=by
    rw[lV];intro x a;obtain⟨i,hi,rfl⟩:=yBl.1 a;have:=b i (by omega) hi;simp only[ig,An]at this;exact this.1.2
   simp[v1,v2,c]
 .simp[c]
theorem JO(xs ys:List (Int×Int)):nG xs ys=oV xs ys:=by
 unfold nG oV;by_cases c:xs.length=ys.length
 .cases b:ew eE xs ys with
  |false=>simp
  |true=>
   rw[kw]at b
   have v1:au vI xs=true:=by
    rw[lV];intro x a;obtain⟨i,hi,rfl⟩:=yBl.1 a;have:=b i hi (by omega);simp only[eE,An]at this;exact this.1.1.1
   have v2:au vI ys=true:=by
    rw[lV];intro x a;obtain⟨i,hi,rfl⟩:=yBl.1 a;have:=b i (by omega) hi;simp only[eE,An]at this;exact this.1.1.2
   simp[v1,v2,c]
 .simp[c]
theorem Ik(xs:List (Int×Int))(ys:List Int):Ax xs ys=aR xs ys:=by
 unfold Ax aR;by_cases a:xs.length=ys.length
 .cases b:ew mJ xs ys with
  |false=>simp
  |true=>
   rw[kw]at b
   have v1:au vI xs=true:=by
    rw[lV];intro x c;obtain⟨i,hi,rfl⟩:=yBl.1 c;have:=b i hi (by omega);simp only[mJ,An]at this;exact this.1.1
   simp[v1,a]
 .simp[a]
theorem YW(xs:List (Int×Int))(j:Int)(a:xs.length<=16777216)(b:au vI xs=false):aL 90 (iv xs) (Z j) (.tup [iv [],iv [],B false]):=by
 refine Dp func90 λC hP hN=>?_
 with_reducible repeat' (first|refine Sp.h ?_|((first|refine Wd ?_|refine Ss.h ?_|refine Sc.h (gr _ (lR a)) ?_|(refine Sb.h ?_ ?_ ?_<;>(try intro hgd)<;>try exact Xy))<;>simp -implicitDefEqProofs (maxSteps:=2000000) [hP,hN,b]<;>try refine Ya ?_)|refine X2 ?_ ?_|(refine Xd ?_ ?_<;>intro hcd<;>try exact Xx))
theorem YX(xs:List (Int×Int))(j:Int)(b:xs.length<=16777216)(c:au vI xs=true)(a:j<0):aL 90 (iv xs) (Z j) (.tup [iv [],iv [],B false]):=by
 refine Dp func90 λC hP hN=>?_
 with_reducible repeat' (first|refine Sp.h ?_|((first|refine Wd ?_|refine Ss.h ?_|refine Sc.h (gr _ (lR b)) ?_|(refine Sb.h ?_ ?_ ?_<;>(try intro hgd)<;>try exact Xy))<;>simp -implicitDefEqProofs (maxSteps:=2000000) [hP,hN,c,a]<;>try refine Ya ?_)|refine X2 ?_ ?_|(refine Xd ?_ ?_<;>intro hcd<;>try exact Xx))
theorem YY(xs:List (Int×Int))(n:Nat)(c:xs.length<=16777216)(d:au vI xs=true)(a:xs.length<=n):aL 90 (iv xs) (Z n) (.tup [iv [],iv [],B false]):=by
 have b:(xs.length:Int)<=(n:Int):=by omega
 refine Dp func90 λC hP hN=>?_
 with_reducible repeat' (first|refine Sp.h ?_|((first|refine Wd ?_|refine Ss.h ?_|refine Sc.h (gr _ (lR c)) ?_|(refine Sb.h ?_ ?_ ?_<;>(try intro hgd)<;>try exact Xy))<;>simp -implicitDefEqProofs (maxSteps:=2000000) [hP,hN,d,b,a]<;>try refine Ya ?_)|refine X2 ?_ ?_|(refine Xd ?_ ?_<;>intro hcd<;>try exact Xx))
theorem YZ(xs:List (Int×Int))(n:Nat)(c:xs.length<=16777216)(d:au vI xs=true)(a:n<xs.length)(e:i64.wrap (xs[n].2-xs[n].1)=xs[n].2-xs[n].1)(hs:xs[n].2-xs[n].1<2):aL 90 (iv xs) (Z n) (.tup [iv [],iv [],B false]):=by
 have b:¬(xs.length:Int)<=(n:Int):=by omega
 refine Dp func90 λC hP hN=>?_
 with_reducible repeat' (first|refine Sp.h ?_|((first|refine Wd ?_|refine Ss.h ?_|refine Sc.h (gr _ (lR c)) ?_|(refine Sb.h ?_ ?_ ?_<;>(try intro hgd)<;>try exact Xy))<;>simp -implicitDefEqProofs (maxSteps:=2000000) [hP,hN,d,a,e,hs,b,Nat.not_le.2 a]<;>try refine Ya ?_)|refine X2 ?_ ?_|(refine Xd ?_ ?_<;>intro hcd<;>try exact Xx))
theorem Y0(xs:List (Int×Int))(n:Nat)(d:xs.length<=16777216)(f:au vI xs=true)(a:n<xs.length)(g:i64.wrap (xs[n].2-xs[n].1)=xs[n].2-xs[n].1)(hs:¬xs[n].2-xs[n].1<2):aL 90 (iv xs) (Z n) (.tup [iv (xs.set n (xs[n].1,f7 xs[n])),iv (xs.set n (f7 xs[n],xs[n].2)),B true]):=by
 have b:¬(xs.length:Int)<=(n:Int):=by omega
 generalize e:f7 xs[n]=m;have c:=RY xs[n];rw[e]at c;refine Dp func90 λC hP hN=>?_
 with_reducible repeat' (first|refine Sp.h ?_|((first|refine Wd ?_|refine Ss.h ?_|refine Sc.h (gr _ (lR d)) ?_|refine Sc.h (c) ?_|(refine Sb.h ?_ ?_ ?_<;>(try intro hgd)<;>try exact Xy))<;>simp -implicitDefEqProofs (maxSteps:=2000000) [hP,hN,f,a,g,hs,b,Nat.not_le.2 a,show xs.length*16<=140737488355328 by omega,show xs.length<=9223372036854775807 by omega]<;>try refine Ya ?_)|refine X2 ?_ ?_|(refine Xd ?_ ?_<;>intro hcd<;>try exact Xx))
 all_goals simp[yBv]
theorem U0(xs:List (Int×Int))(j:Int)(g:xs.length<=16777216):aL 90 (iv xs) (Z j) (.tup [iv (br xs j),iv (bv xs j),B (aY xs j)]):=by
 cases e:au vI xs with
 |false=>
  have a:aY xs j=false:=by simp[aY,e]
  have b:br xs j=[]:=by simp[br,a]
  have c:bv xs j=[]:=by simp[bv,a]
  rw[a,b,c];exact YW xs j g e
 |true=>
  by_cases l:0<=j
  .obtain⟨n,rfl⟩:=yBn l
   by_cases d:n<xs.length
   .have f:=an d
    have i:al xs[n].1 xs[n].2=true:=lV.1 e _ (yAq d);have p:=z7 i
    have k:dG xs[n]=xs[n].2-xs[n].1:=by
     rw[dG,i];simp only[yAn];exact aa (by omega) (by omega)
    have o:i64.wrap (xs[n].2-xs[n].1)=xs[n].2-xs[n].1:=aa;by_cases m:xs[n].2-xs[n].1<2
    .have a:aY xs (n:Int)=false:=by simp[aY,e,f,k];omega
     have b:br xs (n:Int)=[]:=by simp[br,a]
     have c:bv xs (n:Int)=[]:=by simp[bv,a]
     rw[a,b,c];exact YZ xs n g e d o m
    .have a:aY xs (n:Int)=true:=by simp[aY,e,f,k];omega
     have b:br xs (n:Int)=xs.set n (xs[n].1,f7 xs[n]):=by simp[br,a,f]
     have c:bv xs (n:Int)=xs.set n (f7 xs[n],xs[n].2):=by simp[bv,a,f]
     rw[a,b,c];exact Y0 xs n g e d o m
   .have f:xs[n]?=none:=yAf (by omega)
    have a:aY xs (n:Int)=false:=by simp[aY,f]
    have b:br xs (n:Int)=[]:=by simp[br,a]
    have c:bv xs (n:Int)=[]:=by simp[bv,a]
    rw[a,b,c];exact YY xs n g e (Nat.not_lt.1 d)
  .have a:aY xs j=false:=by simp[aY,l]
   have b:br xs j=[]:=by simp[br,a]
   have c:bv xs j=[]:=by simp[bv,a]
   rw[a,b,c];exact YX xs j g e (by omega)
def jJ(js:List J)(b:List (Int×Int)):Nat->Int×Int
 |0=>(-1,0)
 |i+1=>match js[i]?,b[i]? with
  |some j,some x=>if 2<=dG x/\(jJ js b i).2<wr (j.w*dG x)then((i:Int),wr (j.w*dG x))else jJ js b i
  |_,_=>jJ js b i
def OW(x:AV)(a:Option bF):Option bF:=match x with
 |.pv (.val (.slice none 0 0))=>some (.pv (Z 0),[])
 |_=>a
@[simp] theorem Vn(a:Option bF):OW (.pv (.val (.slice none 0 0))) a=some (.pv (Z 0),[]):=rfl
theorem OX{g:Option (Nat×Bool)}(x:Operand):
 bf prog ⟨dst,.call ⟨.builtin .len,#[x],#[30]⟩,ty,pos,aft,g⟩ (λ_=>.pv (.val (.slice none 0 0)))=some (.pv (Z 0),[]):=by kernel_rfl
@[simp] theorem YK{g:Option (Nat×Bool)}(x:Operand):
 bf prog ⟨dst,.call ⟨.builtin .len,#[x],#[30]⟩,ty,pos,aft,g⟩ ρ=OW (ρ x) (gk prog ⟨dst,.call ⟨.builtin .len,#[x],#[30]⟩,ty,pos,aft,g⟩ ρ):=by
 unfold OW;split
 .rename_i b
  rw[<-OX (dst:=dst) (ty:=ty) (pos:=pos) (aft:=aft) (g:=g) x];refine rF (by intro _ _ h;cases h) ?_;intro y a;simp[Op.operands,Call.operands]at a;subst a;exact b
 .rfl
set_option maxRecDepth 100000 in
theorem P2(t:Tr)(hl:t.cells.length<=9223372036854775807):aV 73 (eo t) (.tup [.sl ((af t).map iv),B (am t)]):=by
 cases hs:gi t with
 |false=>
  have a6:=tu (t:=t) (by simp[cy,hs]);rw[a6.1,a6.2];by_cases q1:t.root.length<1
  .have a8:(t.root.length:Int)<1:=by omega
   refine Dp func73 λC hP hN=>?_;exact Gy
  have a8:¬(t.root.length:Int)<1:=by omega
  by_cases q2:10<t.root.length
  .have bk:(10:Int)<t.root.length:=by omega
   refine Dp func73 λC hP hN=>?_;exact Gy
  have bk:¬(10:Int)<t.root.length:=by omega
  by_cases h1:t.cells.length<1
  .have ad:(t.cells.length:Int)<1:=by omega
   refine Dp func73 λC hP hN=>?_;exact Gy
  have ad:¬(t.cells.length:Int)<1:=by omega
  by_cases h2:2048<t.cells.length
  .have ax:(2048:Int)<t.cells.length:=by omega
   refine Dp func73 λC hP hN=>?_;exact Gy
  have ax:¬(2048:Int)<t.cells.length:=by omega
  have h3:au vI t.root=false:=by
   cases h:au vI t.root with
   |false=>rfl
   |true=>simp[gi,dQ,h]at hs;omega
  refine Dp func73 λC hP hN=>?_;refine Gz ?_;refine WP.loopN [] t.root.length (λi st=>st.t 1=.ptr 1 0/\st.t 5=.pv (Z i)/\st.h 1=some (.box [.pv (iv t.root),.pv (.sl (t.cells.map bD))] true false)/\au vI (t.root.take i)=true) (by simp[au]) ?_;rintro i st hi ⟨r,g5,hb,hq⟩;by_cases a:i<t.root.length
  .have H:=ai a (by omega)
   have hS:vI t.root[i]=true->au vI (t.root.take (i+1))=true:=oQ a hq
   with_reducible repeat' (first|refine Sp.h ?_|((first|refine Wd ?_|refine Ss.h ?_|refine Sc.h (lg _ _) ?_|(refine Sb.h ?_ ?_ ?_<;>(try intro hgd)<;>try exact Xy))<;>simp -implicitDefEqProofs [hP,hN,r,g5,hb,a,H]<;>try refine Ya ?_)|refine X2 ?_ ?_|(refine Xd ?_ ?_<;>intro hcd<;>try exact Xx))
   all_goals (exact hS (by simpa using hcd))
  .have:=oR a hq
   rw[h3]at this;cases this
 |true=>
  obtain⟨z1,z2,z3,z4,z5⟩:=ba.1 hs
  have q1:¬t.root.length<1:=by omega
  have q2:¬10<t.root.length:=by omega
  have a8:¬(t.root.length:Int)<1:=by omega
  have bk:¬(10:Int)<t.root.length:=by omega
  have h1:¬t.cells.length<1:=by omega
  have h2:¬2048<t.cells.length:=by omega
  have ad:¬(t.cells.length:Int)<1:=by omega
  have ax:¬(2048:Int)<t.cells.length:=by omega
  have a2:=A2 z1;refine Dp func73 λC hP hN=>?_;refine Gz ?_;refine WP.loopN [] t.root.length (λi st=>st.t 1=.ptr 1 0/\st.t 4=.pv (Z t.cells.length)/\st.t 5=.pv (Z i)/\st.h 1=some (.box [.pv (iv t.root),.pv (.sl (t.cells.map bD))] true false)/\st.h 48=none/\st.h 8=none) (by simp) ?_;rintro i st hi ⟨r,D,g5,hb,e,g⟩;by_cases a:i<t.root.length
  .have H:=ai a (by omega)
   have hv:al t.root[i].1 t.root[i].2=true:=bE.1 z5 _ (yAq a);have cv:=lg t.root[i].1 t.root[i].2;rw[hv]at cv;exact Gy
  refine GT (zAc r D g5 hb e g a a2 (show(24:Int)*t.cells.length<=281474976710656 by omega) (gA (show(t.cells.length:Int)<=9223372036854775807 by omega) (show 0<t.cells.length by omega))) ?_;refine WP.loopN [8] t.cells.length (λi st=>∃L,BInv t i L/\st.t 1=.ptr 1 0/\st.t 4=.pv (Z t.cells.length)/\st.t 6=.arr 48 t.cells.length/\st.t 7=.pv (Z i)/\st.h 1=some (.box [.pv (iv t.root),.pv (.sl (t.cells.map bD))] true false)/\st.h 8=none/\st.h 48=some (.row 30 1 (L.map qp) 0)) (by exact⟨fE t,ye hs,by simp[r,D,g5,hb,e,g,a2]⟩) ?_;rintro i st hi ⟨L,O,r,D,M,N,f,g,e⟩;have j:=O.bok.len;by_cases a:i<t.cells.length
  .have H:=ai a hl
   have S:i<L.length:=by omega
   generalize E:t.cells[i]=c at *
   have n:t.cells[i]?=some c:=by rw[an a,E]
   have G:fD t.cells.length i c L=none->am t=false/\af t=[]:=λh=>tu (yf O a (by rw[E];exact h));have cl:=P3 c;have cf:=Vo c.v;have Q:=X7 c.v
   cases k:L[i]? with
   |none=>rw[an S]at k;cases k
   |some x=>
   cases x with
   |none=>
    have l:=aJ k S;obtain⟨J,K⟩:=G (by simp[fD,k]);rw[J,K];exact GS (zAe r D M N f g e a H k l @dD @dE n (gA E j))
   |some b=>
   have l:=aJ k S;obtain⟨ay,bq⟩:=O.bok.ok i b k
   have m:b≠[]:=by intro h;rw[h]at ay;simp at ay;omega
   have o:((b.length:Int)==0)=false:=by simp[m]
   cases p:bC c with
   |true=>
    rw[p]at cl
    cases hf:dt c.v with
    |true=>
     rw[hf]at cf;have T:=qa (L':=L) O a (by rw[E,iO (t:=t) k p,hf];rfl);refine GT (zAe r D M N f g e a H k l @dD @dE n (go E j o m)) ?_
     all_goals exact⟨L,T,rfl⟩
    |false=>
     rw[hf]at cf;obtain⟨J,K⟩:=G (by rw[iO (t:=t) k p,hf];rfl);rw[J,K];exact GS (zAe r D M N f g e a H k l @dD @dE n (go E j o m))
   |false=>
    rw[p]at cl
    cases F:i7 t.cells.length i c with
    |false=>
     obtain⟨J,K⟩:=G (mg k p (.inl F));rw[J,K];rcases Ak F with h|h|h|h|h|h
     all_goals try rw[h]at Q
     all_goals
      exact GS (zAe r D M N f g e a H k l @dD @dE n (it E j o m h))
    |true=>
     obtain⟨i1,i2,i3,i4,U,i6⟩:=dL.1 F;rw[i6]at Q;have P:=U0 b c.joint (by omega)
     have V:¬c.low<=i:=by omega
     have W:¬(t.cells.length:Int)<=c.low:=by omega
     have X:¬c.high<=i:=by omega
     have Y:¬(t.cells.length:Int)<=c.high:=by omega
     have k1:c.low.toNat<t.cells.length:=by omega
     have k2:c.high.toNat<t.cells.length:=by omega
     have k3:0<=c.low:=by omega
     have k4:0<=c.high:=by omega
     have k5:c.low.toNat<L.length:=by omega
     have k6:c.high.toNat<L.length:=by omega
     cases hh:aY b c.joint with
     |false=>
      obtain⟨J,K⟩:=G (mg k p (.inr (.inl hh)));rw[J,K];rw[hh]at P
      cases q:L[c.low.toNat]? with
      |none=>rw[an k5]at q;cases q
      |some xa=>
      have u:=aJ q k5
      cases s:L[c.high.toNat]? with
      |none=>rw[an k6]at s;cases s
      |some xz=>
      have I:=aJ s k6;rcases xa with _|d
      .rcases xz with _|d'
       .skip
        with_reducible repeat' (first|refine Sp.h ?_|((first|refine Wd ?_|refine Ss.h ?_|refine Sc.h (cl) ?_|refine Sc.h (Q) ?_|refine Sc.h (P) ?_|(refine Sb.h ?_ ?_ ?_<;>(try intro hgd)<;>try exact Xy))<;>simp -implicitDefEqProofs [hP,hN,r,D,M,N,f,g,e,a,H,k,l,dD,dE,n,E,j,o,m,V,W,X,Y,U,k1,k2,k3,k4,q,u,s,I]<;>try refine Ya ?_)|refine X2 ?_ ?_|(refine Xd ?_ ?_<;>intro hcd<;>try exact Xx))
       .obtain⟨A,_⟩:=O.bok.ok _ d' s
        have y:(0:Int)<d'.length:=by omega
        have z:0<d'.length:=by omega
        with_reducible repeat' (first|refine Sp.h ?_|((first|refine Wd ?_|refine Ss.h ?_|refine Sc.h (cl) ?_|refine Sc.h (Q) ?_|refine Sc.h (P) ?_|(refine Sb.h ?_ ?_ ?_<;>(try intro hgd)<;>try exact Xy))<;>simp -implicitDefEqProofs [hP,hN,r,D,M,N,f,g,e,a,H,k,l,dD,dE,n,E,j,o,m,V,W,X,Y,U,k1,k2,k3,k4,q,u,s,I,y,z]<;>try refine Ya ?_)|refine X2 ?_ ?_|(refine Xd ?_ ?_<;>intro hcd<;>try exact Xx))
      .obtain⟨A,_⟩:=O.bok.ok _ d q
       have y:(0:Int)<d.length:=by omega
       have z:0<d.length:=by omega
       with_reducible repeat' (first|refine Sp.h ?_|((first|refine Wd ?_|refine Ss.h ?_|refine Sc.h (cl) ?_|refine Sc.h (Q) ?_|refine Sc.h (P) ?_|(refine Sb.h ?_ ?_ ?_<;>(try intro hgd)<;>try exact Xy))<;>simp -implicitDefEqProofs [hP,hN,r,D,M,N,f,g,e,a,H,k,l,dD,dE,n,E,j,o,m,V,W,X,Y,U,k1,k2,k3,k4,q,u,s,I,y,z]<;>try refine Ya ?_)|refine X2 ?_ ?_|(refine Xd ?_ ?_<;>intro hcd<;>try exact Xx))
     |true=>
     rw[hh]at P;obtain⟨o1,_,o3,o4,_⟩:=kG.1 hh;have o5:=(th.1 o4).1
     have o6:¬c.joint<0:=by omega
     have o7:¬(t.root.length:Int)<=c.joint:=by omega
     cases q:L[c.low.toNat]? with
     |none=>rw[an k5]at q;cases q
     |some xa=>
     have u:=aJ q k5
     cases xa with
     |some d=>
      obtain⟨J,K⟩:=G (mg k p (.inr (.inr (.inl ⟨d,q⟩))));rw[J,K];obtain⟨A,_⟩:=O.bok.ok _ d q
      have R:d≠[]:=by intro h;rw[h]at A;simp at A;omega
      have y:(0:Int)<d.length:=by omega
      have z:0<d.length:=by omega
      with_reducible repeat' (first|refine Sp.h ?_|((first|refine Wd ?_|refine Ss.h ?_|refine Sc.h (cl) ?_|refine Sc.h (Q) ?_|refine Sc.h (P) ?_|(refine Sb.h ?_ ?_ ?_<;>(try intro hgd)<;>try exact Xy))<;>simp -implicitDefEqProofs [hP,hN,r,D,M,N,f,g,e,a,H,k,l,dD,dE,n,E,j,o,m,V,W,X,Y,U,o6,o7,k1,k2,k3,k4,q,u,y,R,z]<;>try refine Ya ?_)|refine X2 ?_ ?_|(refine Xd ?_ ?_<;>intro hcd<;>try exact Xx))
     |none=>
     cases s:L[c.high.toNat]? with
     |none=>rw[an k6]at s;cases s
     |some xz=>
     have I:=aJ s k6
     cases xz with
     |some d=>
      obtain⟨J,K⟩:=G (mg k p (.inr (.inr (.inr ⟨d,s⟩))));rw[J,K];obtain⟨A,_⟩:=O.bok.ok _ d s
      have R:d≠[]:=by intro h;rw[h]at A;simp at A;omega
      have y:(0:Int)<d.length:=by omega
      have z:0<d.length:=by omega
      with_reducible repeat' (first|refine Sp.h ?_|((first|refine Wd ?_|refine Ss.h ?_|refine Sc.h (cl) ?_|refine Sc.h (Q) ?_|refine Sc.h (P) ?_|(refine Sb.h ?_ ?_ ?_<;>(try intro hgd)<;>try exact Xy))<;>simp -implicitDefEqProofs [hP,hN,r,D,M,N,f,g,e,a,H,k,l,dD,dE,n,E,j,o,m,V,W,X,Y,U,o6,o7,k1,k2,k3,k4,q,u,s,I,y,R,z]<;>try refine Ya ?_)|refine X2 ?_ ?_|(refine Xd ?_ ?_<;>intro hcd<;>try exact Xx))
     |none=>
      have T:=qa O a (by rw[E];exact oG k p F hh q s)
      with_reducible repeat' (first|refine Sp.h ?_|((first|refine Wd ?_|refine Ss.h ?_|refine Sc.h (cl) ?_|refine Sc.h (Q) ?_|refine Sc.h (P) ?_|(refine Sb.h ?_ ?_ ?_<;>(try intro hgd)<;>try exact Xy))<;>simp -implicitDefEqProofs [hP,hN,r,D,M,N,f,g,e,a,H,k,l,dD,dE,n,E,j,o,m,V,W,X,Y,U,o6,o7,k1,k2,k3,k4,q,u,s,I]<;>try refine Ya ?_)|refine X2 ?_ ?_|(refine Xd ?_ ?_<;>intro hcd<;>try exact Xx))
      all_goals exact⟨_,T,set_row⟩
  .have a1:=yg O a
   have a5:=A3 a1
   have a7:am t=true:=by simp[am,a1]
   rw[a7,<-a5];exact GS (zAb r D M N f g e (gA a j))
abbrev zN(n:Nat):PV:=Z (n:Int)
abbrev ns(l:List Nat):PV:=.sl (l.map zN)
theorem TB(t:Tr)(a:t.cells.length<=9223372036854775807):aV 54 (eo t) (B (am t)):=by
 have b:=X3 t a;refine Dp func54 λC hP hN=>?_;exact GS trivial
theorem Vp(t:Tr)(a:t.cells.length<=9223372036854775807):aV 38 (eo t) (B (am t)):=by
 have b:=P2 t a;refine Dp func38 λC hP hN=>?_;exact GS trivial
theorem Vq(r:List (Int×Int)):aV 11 (iv r) (.tup [eo (gP r),B (dQ r)]):=by
 have a:aO prog 38 [.pv (.agg [iv r,.sl [.agg [Z (-1),Z (-1),Z (-1),Z 0,.sl [],Z 0,.sl [],.sl []]]])] [] [] (.pv (B (dQ r))):=by
  have:=Vp ⟨r,[bn bi]⟩ (by simp);rw[yj]at this;exact this
 cases h:dQ r with
 |true=>
  rw[h]at a;refine Dp func11 λC hP hN=>?_;refine GT trivial ?_
  all_goals simp[gP,h,bn,bi]
 |false=>
  rw[h]at a;refine Dp func11 λC hP hN=>?_;refine GT trivial ?_
  all_goals simp[gP,h]
theorem ZB(k:Int):aV 43 (Z k) (zC (mX k)):=by
 by_cases a:k=1
 .subst a
  refine Dp func43 λC hP hN=>?_;refine GT trivial ?_
  all_goals simp[mX]
 .by_cases b:k=2
  .subst b
   refine Dp func43 λC hP hN=>?_;refine GT trivial ?_
   all_goals simp[mX]
  .by_cases c:k=3
   .subst c
    refine Dp func43 λC hP hN=>?_;refine GT trivial ?_
    all_goals simp[mX]
   .skip
    refine Dp func43 λC hP hN=>?_;refine GT (be a b c) ?_
    all_goals simp[mX,a,b,c,bi]
theorem nT{t:Tr}{i j:Int}(h:cG t i j=false):bh t i j=t:=by simp[bh,h]
theorem mF{t:Tr}{i:Int}{v:Verd}(h:di t i v=false):dT t i v=t:=by simp[dT,h]
theorem TC(t:Tr)(i j:Int)(I:t.cells.length<=9223372036854775807):jQ 41 (eo t) (Z i) (Z j) (.tup [eo (bh t i j),B (cG t i j)]):=by
 have D:=P2 t I
 cases r:am t with
 |false=>
  have a:cG t i j=false:=by simp[cG,r]
  rw[nT a,a];rw[r]at D;refine Dp func41 λC hP hN=>?_;exact GS trivial
 |true=>
  rw[r]at D;have g:=ef r;have K:=ba.1 (bP r);by_cases q:i<0
  .have a:cG t i j=false:=by
    have:decide (0<=i)=false:=by simp;omega
    simp[cG,this]
   rw[nT a,a];refine Dp func41 λC hP hN=>?_;exact GS q
  .obtain⟨k,rfl⟩:=yBn (show 0<=i by omega)
   by_cases s:t.cells.length<=k
   .have a:cG t k j=false:=by
     have:decide ((k:Int)<t.cells.length)=false:=by simp;omega
     simp only[cG,this,yBm,yAG]
    rw[nT a,a];refine Dp func41 λC hP hN=>?_;exact GS (be q s g)
   .have m:k<t.cells.length:=by omega
    have d:k<(af t).length:=by omega
    generalize u:t.cells[k]=c at *
    have e:t.cells[k]?=some c:=by rw[an m,u]
    generalize p:(af t)[k]=b at *
    have f:(af t)[k]?=some b:=by rw[an d,p]
    obtain⟨G,H⟩:=iN f;have cl:=P3 c;have E:=U0 b j (by omega);have z:i64.wrap ((t.cells.length:Int)+2)=(t.cells.length:Int)+2:=aa;have A:i64.wrap ((t.cells.length:Int)+1)=(t.cells.length:Int)+1:=aa
    cases l:bC c with
    |false=>
     have a:cG t k j=false:=by simp[cG,bd,e,l]
     rw[nT a,a];rw[l]at cl;refine Dp func41 λC hP hN=>?_;exact GS (zAa q s g m d e u)
    |true=>
     rw[l]at cl;by_cases J:2048<t.cells.length+2
     .have a:cG t k j=false:=by
       have:decide (t.cells.length+2<=2048)=false:=by simp;omega
       simp only[cG,this,yBm,yAG]
      have n:(2048:Int)<t.cells.length+2:=by omega
      rw[nT a,a];refine Dp func41 λC hP hN=>?_;exact GS (zAb q s g m d e u (gA z n))
     .have n:¬(2048:Int)<t.cells.length+2:=by omega
      cases x:aY b j with
      |false=>
       have a:cG t k j=false:=by simp[cG,f,x]
       rw[nT a,a];rw[x]at E;refine Dp func41 λC hP hN=>?_;exact GS (zAc q s g m d e u p f (gA z n))
      |true=>
       have o:cG t k j=true:=by
        simp only[cG,r,bd,yAm,e,l,f,yAl,x,yBz,yAs,An,Is];omega
       have F:bh t k j=fv t k j c.v:=by simp[bh,o,er,e]
       rw[F,o];rw[x]at E;have y:=Ht l;refine Dp func41 λC hP hN=>?_;refine GT (zAe q s g m d e u p f z A n (show t.cells.length*112<=140737488355328 by omega) (show(t.cells.length+2)*112<=140737488355328 by omega) (gA (show t.cells.length+2<=9223372036854775807 by omega) (show t.cells.length<=9223372036854775807 by omega))) ?_
       all_goals (rw[y];simp[fv,bn,yBv,bi]<;>rfl)
theorem Vr(t:Tr)(i:Int)(v:Verd)(u:t.cells.length<=9223372036854775807):jQ 42 (eo t) (Z i) (zC v) (.tup [eo (dT t i v),B (di t i v)]):=by
 have q:=Vp t u
 cases o:am t with
 |false=>
  have a:di t i v=false:=by simp[di,o]
  rw[mF a,a];rw[o]at q;refine Dp func42 λC hP hN=>?_;exact GS trivial
 |true=>
  rw[o]at q;have A:=ba.1 (bP o);by_cases l:i<0
  .have a:di t i v=false:=by
    have:decide (0<=i)=false:=by simp;omega
    simp only[di,this,yBm,yAG]
   rw[mF a,a];refine Dp func42 λC hP hN=>?_;exact GS l
  .obtain⟨k,rfl⟩:=yBn (show 0<=i by omega)
   by_cases n:t.cells.length<=k
   .have a:di t k v=false:=by
     have:decide ((k:Int)<t.cells.length)=false:=by simp;omega
     simp only[di,this,yBm,yAG]
    rw[mF a,a];refine Dp func42 λC hP hN=>?_;exact GS (gA l n)
   .have d:k<t.cells.length:=by omega
    generalize m:t.cells[k]=c at *
    have b:t.cells[k]?=some c:=by rw[an d,m]
    have cl:=P3 c;have r:=Vo v
    cases e:bC c with
    |false=>
     have a:di t k v=false:=by simp[di,bd,b,e]
     rw[mF a,a];rw[e]at cl;refine Dp func42 λC hP hN=>?_;exact GS (it l n d b m)
    |true=>
     rw[e]at cl;by_cases p:c.v.kind=0
     .have f:(c.v.kind !=0)=false:=by simp[p]
      cases hf:dt v with
      |false=>
       have a:di t k v=false:=by simp[di,hf]
       rw[mF a,a];rw[hf]at r;refine Dp func42 λC hP hN=>?_;exact GS (so l n d b m f)
      |true=>
       rw[hf]at r
       have g:di t k v=true:=by
        simp[di,o,bd,b,e,hf,er,p,d,m]
       have s:dT t k v=dS t k v:=by simp[dT,g]
       rw[s,g];have j:=Ht e
       have x:c.joint=-1:=by rw[j];rfl
       have y:c.low=-1:=by rw[j];rfl
       have z:c.high=-1:=by rw[j];rfl
       refine Dp func42 λC hP hN=>?_;refine GT (zAb l n d b m f (show t.cells.length*112<=140737488355328 by omega) (show t.cells.length<=9223372036854775807 by omega)) ?_
       all_goals simp[dS,bn,yBv,x,y,z]
     .have f:(c.v.kind !=0)=true:=by simp[p]
      have a:di t k v=false:=by simp[di,er,b,p]
      rw[mF a,a];refine Dp func42 λC hP hN=>?_;exact GS (so l n d b m f)
theorem ZC(b:Bx)(l:List Int)(R:b.length<=1000)(J:au vI b=true):aL 68 (iv b) (zs l) (zs (oM b l)):=by
 have Q:=Ih l;have I:=Wc b (by omega)
 have z:oT b=b.map f7:=by simp[oT,J]
 rw[z]at I;refine Dp func68 λC hP hN=>?_;refine rG [6] @fV.eq_1 ?_;refine WP.loopN [] b.length (λi st=>st.t 0=.pv (iv b)/\st.t 5=.ptr 9 0/\st.t 6=.arr 6 i/\st.t 7=.pv (Z i)/\st.h 9=some (.box [.pv (zs l),.pv (Z (gq l i))] true false)/\st.h 6=some (.row 2 1 (((oM b l).map Z).take i) 0)/\st.h 65=none) (by simp[gq]) ?_;rintro i st hi ⟨u,v,x,y,f,e,a⟩
 have g:min i (oM b l).length=i:=by rw[rm];omega
 by_cases c:i<b.length
 .have B:=ai c (by omega)
  have S:=Tz l i;have U:=aP l (gq l i);have m:=OY (l:=l) c;have d:gq l (i+1)=yk l (gq l i):=rfl;have L:=bH.1 (bE.1 J _ (yAq c));have T:=ar l (gq l i) (k:=5) (by decide) (by decide);have K:=ar l (nn l (gq l i)) (k:=b[i].2-b[i].1+1) (by omega) (by omega);have p:=fX l (gq l i) 5 (by decide) (by omega);have P:=fX l (nn l (gq l i)) (b[i].2-b[i].1+1) (by omega) (by omega);have M:i64.wrap (b[i].2-b[i].1)=b[i].2-b[i].1:=aa;have N:i64.wrap (b[i].2-b[i].1+1)=b[i].2-b[i].1+1:=aa;have O:i64.wrap (b[i].1+nx l (nn l (gq l i)) (b[i].2-b[i].1+1))=b[i].1+nx l (nn l (gq l i)) (b[i].2-b[i].1+1):=aa
  have A:(i+1)*8<=140737488355328:=by omega
  have j:i+1<=9223372036854775807:=by omega
  by_cases q:nx l (gq l i) 5=0
  .have n:uL l (gq l i) b[i]=b[i].1:=by simp[uL,tv,q]
   have o:yk l (gq l i)=nn l (gq l i):=by simp[yk,tv,q]
   rw[n]at m;rw[o]at d;rw[q]at p
   with_reducible repeat' (first|refine Sp.h ?_|((first|refine Wd ?_|refine Ss.h ?_|refine Sc.h (p) ?_|(refine Sb.h ?_ ?_ ?_<;>(try intro hgd)<;>try exact Xy))<;>simp -implicitDefEqProofs (maxSteps:=2000000) [hP,hN,fV,u,v,x,y,f,e,a,c,B,g,A,j]<;>try refine Ya ?_)|refine X2 ?_ ?_|(refine Xd ?_ ?_<;>intro hcd<;>try exact Xx))
   all_goals exact⟨by rw[d],m⟩
  by_cases r:nx l (gq l i) 5=1
  .have n:uL l (gq l i) b[i]=b[i].2:=by simp[uL,tv,r]
   have o:yk l (gq l i)=nn l (gq l i):=by simp[yk,tv,r]
   rw[n]at m;rw[o]at d;rw[r]at p
   with_reducible repeat' (first|refine Sp.h ?_|((first|refine Wd ?_|refine Ss.h ?_|refine Sc.h (p) ?_|(refine Sb.h ?_ ?_ ?_<;>(try intro hgd)<;>try exact Xy))<;>simp -implicitDefEqProofs (maxSteps:=2000000) [hP,hN,fV,u,v,x,y,f,e,a,c,B,g,A,j]<;>try refine Ya ?_)|refine X2 ?_ ?_|(refine Xd ?_ ?_<;>intro hcd<;>try exact Xx))
   all_goals exact⟨by rw[d],m⟩
  by_cases s:nx l (gq l i) 5=2
  .have n:uL l (gq l i) b[i]=f7 b[i]:=by simp[uL,tv,s]
   have o:yk l (gq l i)=nn l (gq l i):=by simp[yk,tv,s]
   rw[n]at m;rw[o]at d;rw[s]at p
   with_reducible repeat' (first|refine Sp.h ?_|((first|refine Wd ?_|refine Ss.h ?_|refine Sc.h (p) ?_|refine Sc.h (I) ?_|(refine Sb.h ?_ ?_ ?_<;>(try intro hgd)<;>try exact Xy))<;>simp -implicitDefEqProofs (maxSteps:=2000000) [hP,hN,fV,u,v,x,y,f,e,a,c,B,g,A,j]<;>try refine Ya ?_)|refine X2 ?_ ?_|(refine Xd ?_ ?_<;>intro hcd<;>try exact Xx))
   all_goals exact⟨by rw[d],m⟩
  have n:uL l (gq l i) b[i]=b[i].1+nx l (nn l (gq l i)) (b[i].2-b[i].1+1):=by simp[uL,tv,q,r,s]
  have o:yk l (gq l i)=nn l (nn l (gq l i)):=by simp[yk,tv,q,r,s]
  have F:(nx l (gq l i) 5==0)=false:=by simp[q]
  have G:(nx l (gq l i) 5==1)=false:=by simp[r]
  have H:(nx l (gq l i) 5==2)=false:=by simp[s]
  rw[n]at m;rw[o]at d;refine GT (zAe @fV.eq_1 u v x y f e a c B g A j F (it G H M N O)) ?_
  all_goals exact⟨by rw[d],m⟩
 .have D:i=b.length:=by omega
  subst D;have E:((oM b l).map Z).take b.length=(oM b l).map Z:=yAu (by simp[rm]);refine GT (zAc u v x y f e a c g E) ?_
  all_goals simp[rm]
theorem Ks(f:Nat->α)(n:Nat):(List.range n).map f++[f n]=(List.range (n+1)).map f:=by simp[yBo]
def ud(j:J)(x:Int):Bool:=decide (j.lo<=x)&&decide (x<=j.hi)
def ic(j:J):Int×Int:=(j.lo,j.hi)
theorem VK(j:J):aV 114 (bj j) (aA (ic j)):=by
 refine Dp func114 λC hP hN=>?_;refine Gz ?_
 all_goals simp[ic]
def bb(js:List J)(ms:List Ms)(c:List Int):Bool:=decide (aD js ms=0)&&decide (js.length=c.length)&&ew ud js c
theorem KZ(js:List J)(ms:List Ms)(c:List Int)(r:js.length<=9223372036854775807)(u:ms.length<=9223372036854775807):aL 51 (gH js ms) (zs c) (B (bb js ms c)):=by
 by_cases e:aD js ms=0
 .have d:(aD js ms !=0)=false:=by simp[e]
  by_cases q:js.length=c.length
  .have f:((c.length:Int)!=js.length)=false:=by simp[q]
   have l:bb js ms c=ew ud js c:=by simp[bb,e,q]
   rw[l];refine Dp func51 λC hP hN=>?_
   with_reducible repeat' (first|refine Sp.h ?_|((first|refine Wd ?_|refine Ss.h ?_|refine Sc.h (sE js ms r u) ?_|(refine Sb.h ?_ ?_ ?_<;>(try intro hgd)<;>try exact Xy))<;>simp -implicitDefEqProofs (maxSteps:=2000000) [hP,hN,e,d,f]<;>try refine Ya ?_)|refine X2 ?_ ?_|(refine Xd ?_ ?_<;>intro hcd<;>try exact Xx))
   refine WP.loopN [] js.length (λi st=>st.t 1=.pv (zs c)/\st.t 2=.ptr 2 0/\st.h 2=some (.box [.pv (.sl (js.map bj)),.pv (.sl (ms.map bN))] true false)/\st.t 5=.pv (Z i)/\fS ud js c i=true) (by simp[fS,q]) ?_;rintro i st hi ⟨m,n,p,o,hq⟩;by_cases b:i<js.length
   .have v:=ai b r
    have a:i<c.length:=by omega
    have x:ud js[i] c[i]=false->ew ud js c=false:=ku b a;have hS:ud js[i] c[i]=true->fS ud js c (i+1)=true:=lS b a hq
    cases j:ud js[i] c[i]with
    |true=>
     have g:¬c[i]<js[i].lo/\¬js[i].hi<c[i]:=by simp[ud]at j;omega
     with_reducible repeat' (first|refine Sp.h ?_|((first|refine Wd ?_|refine Ss.h ?_|(refine Sb.h ?_ ?_ ?_<;>(try intro hgd)<;>try exact Xy))<;>simp -implicitDefEqProofs (maxSteps:=2000000) [hP,hN,m,n,p,o,b,a,v,g.1,g.2]<;>try refine Ya ?_)|refine X2 ?_ ?_|(refine Xd ?_ ?_<;>intro hcd<;>try exact Xx))
     all_goals simpa using hS j
    |false=>
     have g:c[i]<js[i].lo\/js[i].hi<c[i]:=by simp[ud]at j;omega
     by_cases k:c[i]<js[i].lo
     .skip
      with_reducible repeat' (first|refine Sp.h ?_|((first|refine Wd ?_|refine Ss.h ?_|(refine Sb.h ?_ ?_ ?_<;>(try intro hgd)<;>try exact Xy))<;>simp -implicitDefEqProofs (maxSteps:=2000000) [hP,hN,m,n,p,o,b,a,v,k]<;>try refine Ya ?_)|refine X2 ?_ ?_|(refine Xd ?_ ?_<;>intro hcd<;>try exact Xx))
      all_goals simp[x j]
     .have s:js[i].hi<c[i]:=by omega
      with_reducible repeat' (first|refine Sp.h ?_|((first|refine Wd ?_|refine Ss.h ?_|(refine Sb.h ?_ ?_ ?_<;>(try intro hgd)<;>try exact Xy))<;>simp -implicitDefEqProofs (maxSteps:=2000000) [hP,hN,m,n,p,o,b,a,v,k,s]<;>try refine Ya ?_)|refine X2 ?_ ?_|(refine Xd ?_ ?_<;>intro hcd<;>try exact Xx))
      all_goals simp[x j]
   .have a:¬i<c.length:=by omega
    with_reducible repeat' (first|refine Sp.h ?_|((first|refine Wd ?_|refine Ss.h ?_|(refine Sb.h ?_ ?_ ?_<;>(try intro hgd)<;>try exact Xy))<;>simp -implicitDefEqProofs (maxSteps:=2000000) [hP,hN,m,n,p,o,a]<;>try refine Ya ?_)|refine X2 ?_ ?_|(refine Xd ?_ ?_<;>intro hcd<;>try exact Xx))
    all_goals simp[lT b hq]
  .have f:((c.length:Int)!=js.length)=true:=by simp;omega
   have l:bb js ms c=false:=by simp[bb,q]
   rw[l];refine Dp func51 λC hP hN=>?_
   with_reducible repeat' (first|refine Sp.h ?_|((first|refine Wd ?_|refine Ss.h ?_|refine Sc.h (sE js ms r u) ?_|(refine Sb.h ?_ ?_ ?_<;>(try intro hgd)<;>try exact Xy))<;>simp -implicitDefEqProofs (maxSteps:=2000000) [hP,hN,e,d,f]<;>try refine Ya ?_)|refine X2 ?_ ?_|(refine Xd ?_ ?_<;>intro hcd<;>try exact Xx))
 .have l:bb js ms c=false:=by simp[bb,e]
  have d:(aD js ms !=0)=true:=by simp[e]
  rw[l];refine Dp func51 λC hP hN=>?_
  with_reducible repeat' (first|refine Sp.h ?_|((first|refine Wd ?_|refine Ss.h ?_|refine Sc.h (sE js ms r u) ?_|(refine Sb.h ?_ ?_ ?_<;>(try intro hgd)<;>try exact Xy))<;>simp -implicitDefEqProofs (maxSteps:=2000000) [hP,hN,e,d]<;>try refine Ya ?_)|refine X2 ?_ ?_|(refine Xd ?_ ?_<;>intro hcd<;>try exact Xx))
def aC(js:List J)(ms:List Ms):List (Int×Int):=if aD js ms=0 then js.map ic else[]
theorem mn{ms:List Ms}(h:aD js ms=0):0<js.length/\js.length<=10:=by
 unfold aD at h;split at h
 all_goals omega
theorem YR(js:List J)(ms:List Ms)(d:js.length<=9223372036854775807)(f:ms.length<=9223372036854775807):aV 56 (gH js ms) (iv (aC js ms)):=by
 by_cases a:aD js ms=0
 .have e:=mn a
  have i:=VY 114 ic js (by omega) VK
  have c:aC js ms=js.map ic:=by simp[aC,a]
  rw[c];generalize js.map ic=u at *;refine Dp func56 λC hP hN=>?_;have g:=Nq js ms d f;exact GS a
 .have c:aC js ms=[]:=by simp[aC,a]
  have b:(aD js ms !=0)=true:=by simp[a]
  rw[c];refine Dp func56 λC hP hN=>?_;have g:=Nq js ms d f;exact GS (gA a b)
theorem UU(js:List J)(ms:List Ms)(k:js.length<=9223372036854775807)(n:ms.length<=9223372036854775807):aV 12 (gH js ms) (iv (aC js ms)):=by
 by_cases a:aD js ms=0
 .have m:=mn a
  have b:(aD js ms !=0)=false:=by simp[a]
  have l:aC js ms=js.map ic:=by simp[aC,a]
  rw[l];refine Dp func12 λC hP hN=>?_;have u:=sE js ms k n;refine rG [3] (gA a b) ?_;refine WP.loopN [] js.length (λi st=>st.t 1=.ptr 1 0/\st.h 1=some (.box [.pv (.sl (js.map bj)),.pv (.sl (ms.map bN))] true false)/\st.t 4=.pv (Z i)/\st.t 3=.arr 3 i/\st.h 3=some (.row 99 2 ((js.map λj=>I j.lo j.hi).take i) 0)) (by simp) ?_;rintro i st hi ⟨p,e,q,g3,g⟩;by_cases c:i<js.length
  .have s:=ai c k
   have o:min i js.length=i:=by omega
   have r:=wt (f:=λj:J=>I j.lo j.hi) c
   with_reducible repeat' (first|refine Sp.h ?_|((first|refine Wd ?_|refine Ss.h ?_|(refine Sb.h ?_ ?_ ?_<;>(try intro hgd)<;>try exact Xy))<;>simp -implicitDefEqProofs (maxSteps:=2000000) [hP,hN,p,e,q,g3,g,c,s,o,r,show(i+1)*16<=140737488355328 by omega,show i+1<=9223372036854775807 by omega]<;>try refine Ya ?_)|refine X2 ?_ ?_|(refine Xd ?_ ?_<;>intro hcd<;>try exact Xx))
  .have o:min i js.length=i:=by omega
   refine Gz ?_;have d:List.take i (js.map λj=>I j.lo j.hi)=js.map λj=>I j.lo j.hi:=yAu (by simp;omega)
   first|exact d|(simp only[List.map_map];exact d)|(simp[ic];exact d)
 .have l:aC js ms=[]:=by simp[aC,a]
  have b:(aD js ms !=0)=true:=by simp[a]
  rw[l];refine Dp func12 λC hP hN=>?_;have u:=sE js ms k n;exact GS (gA a b)
def mo(js:List J)(ms:List Ms)(b:List (Int×Int)):Bool:=decide (aD js ms=0)&&decide (js.length=b.length)&&ew (λj x=>eE x (ic j)) js b
def BK(js:List J)(ms:List Ms)(b:List (Int×Int)):Bool:=decide (b.length=js.length)&&au vI b&&decide (aD js ms=0)
def nh(js:List J)(ms:List Ms)(b:List (Int×Int)):Int:=if BK js ms b then(jJ js b js.length).1 else -1
theorem Nb{b:List (Int×Int)}(h1:i<js.length)(a:i<b.length)(h:2<=dG b[i]/\(jJ js b i).2<wr (js[i].w*dG b[i])):jJ js b (i+1)=((i:Int),wr (js[i].w*dG b[i])):=by
 simp[jJ,h1,a,h]
theorem If{b:List (Int×Int)}(h1:i<js.length)(a:i<b.length)(h:¬(2<=dG b[i]/\(jJ js b i).2<wr (js[i].w*dG b[i]))):jJ js b (i+1)=jJ js b i:=by
 simp only[jJ,an h1,an a];rw[L4 h]
theorem VL(js:List J)(ms:List Ms)(b:List (Int×Int))(a:b.length<=9223372036854775807):aL 132 (gH js ms) (iv b) (B (decide (b.length=js.length)&&au vI b)):=by
 refine Dp func132 λC hP hN=>?_
 with_reducible repeat' (first|refine Sp.h ?_|((first|refine Ss.h ?_|refine Sc.h (gr _ a) ?_|(refine Sb.h ?_ ?_ ?_<;>(try intro hgd)<;>try exact Xy))<;>simp -implicitDefEqProofs (maxSteps:=2000000) [hP,hN])|refine X2 ?_ ?_|(refine Xd ?_ ?_<;>intro hcd<;>try exact Xx))
 all_goals (simp_all<;>omega)
theorem Nc(js:List J)(ms:List Ms)(b:List (Int×Int))(k:js.length<=9223372036854775807)(m:ms.length<=9223372036854775807)(x:b.length<=9223372036854775807):aL 107 (gH js ms) (iv b) (Z (nh js ms b)):=by
 have p:=VL js ms b x
 cases a:BK js ms b with
 |false=>
  have n:nh js ms b=-1:=by simp[nh,a]
  rw[n];by_cases g:aD js ms=0
  .have f:(aD js ms !=0)=false:=by simp[g]
   have c:(decide (b.length=js.length)&&au vI b)=false:=by simpa[BK,g]using a
   rw[c]at p;refine Dp func107 λC hP hN=>?_;have s:=sE js ms k m;exact GS (gA g f)
  .have f:(aD js ms !=0)=true:=by simp[g]
   refine Dp func107 λC hP hN=>?_;have s:=sE js ms k m;exact GS f
 |true=>
  have n:nh js ms b=(jJ js b js.length).1:=by simp[nh,a]
  rw[n];simp only[BK,An,Is]at a;obtain⟨⟨v,u⟩,g⟩:=a
  have c:(decide (b.length=js.length)&&au vI b)=true:=by simp[v,u]
  rw[c]at p;refine Dp func107 λC hP hN=>?_;have s:=sE js ms k m;refine GT g ?_;refine WP.loopN [] js.length (λi st=>st.t 1=.pv (iv b)/\st.t 2=.ptr 2 0/\st.h 2=some (.box [.pv (.sl (js.map bj)),.pv (.sl (ms.map bN))] true false)/\st.t 7=.pv (Z i)/\st.t 5=.pv (Z (jJ js b i).1)/\st.t 6=.pv (Z (jJ js b i).2)) (by simp[jJ]) ?_;rintro i st hi ⟨D,E,y,H,F,G⟩;by_cases e:i<js.length
  .have I:=ai e k
   have d:i<b.length:=by omega
   have o:al b[i].1 b[i].2=true:=lV.1 u _ (yAq d)
   have B:i64.wrap (b[i].2-b[i].1)=dG b[i]:=by rw[dG,o];rfl
   have z:dG b[i]*js[i].w=js[i].w*dG b[i]:=Int.mul_comm _ _;by_cases q:2<=dG b[i]
   .by_cases r:(jJ js b i).2<i64.wrap (js[i].w*dG b[i])
    .have j:=Nb e d ⟨q,r⟩
     exact Gy
     all_goals simp[j]
    .have j:=If e d (λh=>r h.2)
     exact Gy
     all_goals simp[j]
   .have j:=If e d (λh=>q h.1)
    exact Gy
    all_goals simp[j]
  .have l:i=js.length:=by omega
   subst l
   have A:¬js.length<b.length:=by omega
   exact Gy
abbrev Kv(cs:List Cel)(a:List Bx)(op:List Bool):PV:=.agg [.sl (cs.map bD),.sl (a.map iv),.sl (op.map B)]
def sj(k sort:Int)(o:Bool):Bool:=if sort=0 then k==1 else if sort=1 then(k==1||(k==0&&o))else if sort=2 then(k==1||(k==0&& !o))else k !=2
def nA(cs:List Cel)(op:List Bool)(sort:Int)(i:Nat):Bool:=match cs[i]? with
 |some c=>bC c&&sj c.v.kind sort (op[i]?.getD false)
 |none=>false
theorem Yg(cs:List Cel)(r:List Bx)(op:List Bool)(i:Nat)(sort:Int)(hi:i<cs.length)(z:op.length=cs.length):jQ 183 (Kv cs r op) (Z i) (Z sort) (B (nA cs op sort i)):=by
 generalize k:cs[i]=c at *
 have b:cs[i]?=some c:=by rw[an hi,k]
 have d:i<op.length:=by omega
 have e:op[i]?=some op[i]:=an d
 have s:nA cs op sort i=(bC c&&sj c.v.kind sort op[i]):=by simp[nA,b,e]
 rw[s];generalize m:op[i]=o at *;have cl:=P3 c
 cases l:bC c with
 |false=>
  rw[l]at cl;refine Dp func183 λC hP hN=>?_;exact Gy
 |true=>
  rw[l]at cl;by_cases n:sort=0
  .subst n
   refine Dp func183 λC hP hN=>?_;refine Gz ?_
   all_goals simp[sj]
  by_cases p:sort=1
  .subst p
   by_cases j:c.v.kind=1
   .have a:(c.v.kind==1)=true:=by simp[j]
    refine Dp func183 λC hP hN=>?_;refine GT (so hi b k d e a) ?_
    all_goals simp[sj,j]
   have a:(c.v.kind==1)=false:=by simp[j]
   by_cases g:c.v.kind=0
   .have f:(c.v.kind==0)=true:=by simp[g]
    refine Dp func183 λC hP hN=>?_
    with_reducible repeat' (first|refine Sp.h ?_|((first|refine Ss.h ?_|refine Sc.h (cl) ?_|(refine Sb.h ?_ ?_ ?_<;>(try intro hgd)<;>try exact Xy))<;>simp -implicitDefEqProofs (maxSteps:=2000000) [hP,hN,hi,b,k,d,e,a,f])|refine X2 ?_ ?_|(refine Xd ?_ ?_<;>intro hcd<;>try exact Xx))
    all_goals simp[sj,g,m]
   have f:(c.v.kind==0)=false:=by simp[g]
   refine Dp func183 λC hP hN=>?_;refine Gz ?_
   all_goals simp[sj,j,g]
  by_cases q:sort=2
  .subst q
   by_cases j:c.v.kind=1
   .have a:(c.v.kind==1)=true:=by simp[j]
    refine Dp func183 λC hP hN=>?_;refine GT (so hi b k d e a) ?_
    all_goals simp[sj,j]
   have a:(c.v.kind==1)=false:=by simp[j]
   by_cases g:c.v.kind=0
   .have f:(c.v.kind==0)=true:=by simp[g]
    refine Dp func183 λC hP hN=>?_
    with_reducible repeat' (first|refine Sp.h ?_|((first|refine Ss.h ?_|refine Sc.h (cl) ?_|(refine Sb.h ?_ ?_ ?_<;>(try intro hgd)<;>try exact Xy))<;>simp -implicitDefEqProofs (maxSteps:=2000000) [hP,hN,hi,b,k,d,e,a,f])|refine X2 ?_ ?_|(refine Xd ?_ ?_<;>intro hcd<;>try exact Xx))
    all_goals simp[sj,g,m]
   have f:(c.v.kind==0)=false:=by simp[g]
   refine Dp func183 λC hP hN=>?_;refine Gz ?_
   all_goals simp[sj,j,g]
  have u:(sort==0)=false:=by simp[n]
  have x:(sort==1)=false:=by simp[p]
  have y:(sort==2)=false:=by simp[q]
  refine Dp func183 λC hP hN=>?_;refine Gz ?_
  all_goals simp[sj,n,p,q]
def kh(a:List Bx)(i:Nat):Bx:=a[i]?.getD []
def mO(a:List Bx)(p:List Int)(i:Nat):Bool:=aR (kh a i) p
def oH(a:List Bx)(i j:Nat):Bool:=dH (kh a i) (kh a j)
theorem rn{n:Nat}{may has:Nat->Bool}{tch:Nat->Nat->Bool}(h:BInv2 n may has tch s)(hi:i<n):s.far[i]?=some (aK s.far i):=by
 have:i<s.far.length:=by rw[h.len];exact hi
 simp[aK,an this]
theorem P4(h:k<s.q.length):s.q[k]?=some (da s k):=by simp[da,an h]
theorem UF(h:k<s.q.length):da s k∈s.q:=In (P4 h)
theorem Yh(cs:List Cel)(v:List Bx)(op:List Bool)(p q:List Int)(sort:Int)(hn:cs.length<=2048)(hb:v.length=cs.length)(ho:op.length=cs.length)(el:∀b∈v,b.length<=9223372036854775807)(hp:p.length<=9223372036854775807)(hq:q.length<=9223372036854775807)(cv:∀i j,i<cs.length->j<cs.length->oH v i j=oH v j i):yn 106 (Kv cs v op) (zs p) (zs q) (Z sort) (.tup [ns (we cs.length (nA cs op sort) (mO v q) (mO v p) (oH v)),B (mh cs.length (nA cs op sort) (mO v q) (mO v p) (oH v))]):=by
 have M:∀i,i<cs.length->v[i]?=some (kh v i)/\(kh v i).length<=9223372036854775807:=λi hi=>by
  have F:i<v.length:=by omega
  have e:v[i]?=some (kh v i):=by simp[kh,an F]
  exact⟨e,el _ (In e)⟩
 have cm:=λi hi=>Yg cs v op i sort hi ho;have cw:=λ(i:Nat)(hi:i<cs.length)=>JK (kh v i) p (M i hi).2 hp;have cx:=λ(i:Nat)(hi:i<cs.length)=>JK (kh v i) q (M i hi).2 hq;have cz:=λ(i j:Nat)(hi:i<cs.length)(hj:j<cs.length)=>We (kh v i) (kh v j) (M i hi).2 (M j hj).2;simp only[Ik]at cw cx;simp only[K5]at cz;have c4:∀i,i<cs.length->aO prog 104 [.pv (iv (kh v i)),.pv (zs p)] [] [] (.pv (B (mO v p i))):=cw;have c5:∀i,i<cs.length->aO prog 104 [.pv (iv (kh v i)),.pv (zs q)] [] [] (.pv (B (mO v q i))):=cx;have cq:∀i j,i<cs.length->j<cs.length->aO prog 184 [.pv (iv (kh v i)),.pv (iv (kh v j))] [] [] (.pv (B (oH v i j))):=cz;clear cw cx cz;generalize nA cs op sort=may at *;generalize mO v p=hasF at *;generalize mO v q=has at *;generalize oH v=tch at *;generalize eF:cs.length=n at *
 have Y:∀i,i<n->i<v.length:=λi hi=>by omega
 have R:∀i(hi:i<n),v[i]'(Y i hi)=kh v i:=λi hi=>aJ (M i hi).1 (Y i hi);refine Dp func106 λC hP hN=>?_;refine rG [12] (go eF (show(8:Int)*n<=281474976710656 by omega) (show(n:Int)<=281474976710656 by omega) (show(n:Int)<=9223372036854775807 by omega)) ?_;refine WP.loopN [] n (λi st=>st.t 1=.pv (zs p)/\st.t 2=.pv (zs q)/\st.t 3=.pv (Z sort)/\st.t 4=.ptr 4 0/\st.t 10=.pv (Z n)/\st.t 11=.arr 25 n/\st.t 12=.arr 12 (bI n may has i).q.length/\st.t 13=.pv (Z i)/\st.h 4=some (.box [.pv (.sl (cs.map bD)),.pv (.sl (v.map iv)),.pv (.sl (op.map B))] true false)/\st.h 142=none/\st.h 12=some (.row 3 1 ((bI n may has i).q.map zN) 0)/\st.h 25=some (.row 3 1 ((bI n may has i).far.map Z) 0)) (by simp[bI]) ?_;rintro i st hi ⟨H,g2,g3,I,g,l,U,c7,o,c,J,d⟩;obtain⟨hI,eb⟩:=yl (n:=n) (may:=may) (has:=has) (tch:=tch) i hi;have ds:=hI.le;have c9:=hI.len;by_cases G:i<n
 .have hw:=ai G (by omega)
  have F:=Y i G;have K:=(M i G).1;have x:=R i G
  have f:bI n may has (i+1)=if may i&&has i then⟨(bI n may has i).far.set i 1,(bI n may has i).q++[i]⟩else bI n may has i:=rfl
  generalize bI n may has i=s at *;have c1:=cm i G;have c2:=c5 i G
  cases hm:may i with
  |false=>
   rw[hm]at c1;rw[hm,yAG,L4 (by simp)]at f;exact Gy
   all_goals simp[f]
  |true=>
   rw[hm]at c1
   cases hh:has i with
   |false=>
    rw[hh]at c2;rw[hm,hh,L4 (by simp)]at f;exact Gy
    all_goals simp[f]
   |true=>
    rw[hh]at c2;rw[hm,hh,yAb (by simp)]at f
    with_reducible repeat' (first|refine Sp.h ?_|((first|refine Wd ?_|refine Ss.h ?_|refine Sc.h (c1) ?_|refine Sc.h (c2) ?_|(refine Sb.h ?_ ?_ ?_<;>(try intro hgd)<;>try exact Xy))<;>simp -implicitDefEqProofs (maxSteps:=2000000) [hP,hN,H,g2,g3,I,g,l,U,c7,o,c,J,d,G,hw,F,K,x,c9,show(s.q.length+1)*8<=140737488355328 by omega,show s.q.length+1<=9223372036854775807 by omega]<;>try refine Ya ?_)|refine X2 ?_ ?_|(refine Xd ?_ ?_<;>intro hcd<;>try exact Xx))
    all_goals (simp[f,yBv])
 have ep:i=n:=by omega
 subst ep;refine Gz ?_;clear eb c9 ds hI;refine WP.loopN [] i (λk st=>st.t 1=.pv (zs p)/\st.t 2=.pv (zs q)/\st.t 3=.pv (Z sort)/\st.t 4=.ptr 4 0/\st.t 10=.pv (Z i)/\st.t 11=.arr 25 i/\st.t 12=.arr 12 (bK i may has tch k).q.length/\st.t 14=.pv (Z k)/\st.h 4=some (.box [.pv (.sl (cs.map bD)),.pv (.sl (v.map iv)),.pv (.sl (op.map B))] true false)/\st.h 142=none/\st.h 12=some (.row 3 1 ((bK i may has tch k).q.map zN) 0)/\st.h 25=some (.row 3 1 ((bK i may has tch k).far.map Z) 0)/\(k<=(bK i may has tch k).q.length)) (by simp[bK,H,g2,g3,I,g,l,U,o,c,J,d]) ?_;clear H g2 g3 I g l U c7 o c J d st hi G;rintro k st hk ⟨H,g2,g3,I,g,l,U,ch,o,c,J,d,fl⟩;have hI:=CN (n:=i) (may:=may) (has:=has) (tch:=tch) k;by_cases G:k<(bK i may has tch k).q.length
 .have ds:=hI.le
  have ez:k<i:=by omega
  have e4:i64.wrap ((k:Int)+1)=(k:Int)+1:=aa
  have e1:bK i may has tch (k+1)=bJ may tch (bK i may has tch k) k i:=by simp only[bK];rw[yAb G]
  rw[e1];generalize hS:bK i may has tch k=S at *
  with_reducible repeat' (first|refine Sp.h ?_|((first|refine Wd ?_|refine Ss.h ?_|(refine Sb.h ?_ ?_ ?_<;>(try intro hgd)<;>try exact Xy))<;>simp -implicitDefEqProofs (maxSteps:=2000000) [hP,hN,H,g2,g3,I,g,l,U,ch,o,c,J,d,G]<;>try refine Ya ?_)|refine X2 ?_ ?_|(refine Xd ?_ ?_<;>intro hcd<;>try exact Xx))
  refine WP.loopN [] i (λj st=>st.t 1=.pv (zs p)/\st.t 2=.pv (zs q)/\st.t 3=.pv (Z sort)/\st.t 4=.ptr 4 0/\st.t 10=.pv (Z i)/\st.t 11=.arr 25 i/\st.t 12=.arr 12 (bJ may tch S k j).q.length/\st.t 14=.pv (Z k)/\st.t 15=.pv (Z j)/\st.h 4=some (.box [.pv (.sl (cs.map bD)),.pv (.sl (v.map iv)),.pv (.sl (op.map B))] true false)/\st.h 142=none/\st.h 12=some (.row 3 1 ((bJ may tch S k j).q.map zN) 0)/\st.h 25=some (.row 3 1 ((bJ may tch S k j).far.map Z) 0)) (by simp[bJ,H,g2,g3,I,g,l,U,ch,o,c,J,d]) ?_;rintro j fy hj ⟨y1,y2,y3,y4,b9,ca,cb,cd,cf,cg,N,ax,ay⟩;obtain⟨hJ,ff,fi⟩:=CM hI G j hj;have e6:=hJ.le;have cj:=hJ.len;by_cases u:j<i
  .have O:=ai u (by omega)
   have f:bJ may tch S k (j+1)=if Hx may tch (bJ may tch S k j) k j then uM (bJ may tch S k j) k j else bJ may tch S k j:=rfl
   generalize bJ may tch S k j=T at *;have L:=rn hJ u
   have z:j<T.far.length:=by omega
   have E:=aJ L z
   have b8:k<T.q.length:=by omega
   have cV:=P4 b8;have cu:=aJ cV b8;have bk:=hJ.mem _ (UF b8);have ec:=bk.1;have cO:=rn hJ bk.1
   have b4:da T k<T.far.length:=by omega
   have ct:=aJ cO b4;have ck:Hx may tch T k j=((aK T.far j==0)&&may j&&tch j (da T k)):=rfl;have et:uM T k j=⟨T.far.set j (aK T.far (da T k)+1),T.q++[j]⟩:=rfl;have e9:=hJ.top (da T k);have e8:=hJ.nn (da T k);have e3:i64.wrap (aK T.far (da T k)+1)=aK T.far (da T k)+1:=aa;generalize aK T.far (da T k)=fk at *;generalize fm:da T k=Q at *;have c1:=cm j u;have c2:=cq j Q u bk.1;have F:=Y j u;have K:=(M j u).1;have x:=R j u;have b1:=Y Q bk.1;have b2:=(M Q bk.1).1;have W:=R Q bk.1;by_cases h0:aK T.far j=0
   .have a2:(aK T.far j==0)=true:=by simp[h0]
    cases hm:may j with
    |false=>
     rw[hm]at c1;rw[ck,hm,yBm,yAG,L4 (by simp)]at f;refine GT (zAe y1 y2 y3 y4 b9 ca cb cd cf cg N ax ay u (so O L E z cj a2)) ?_
     all_goals simp[f]
    |true=>
     rw[hm]at c1
     cases ht:tch j Q with
     |false=>
      rw[ht]at c2;rw[ck,ht,yBm,L4 (by simp)]at f;refine GT (zAe y1 y2 y3 y4 b9 ca cb cd cf cg N ax ay u (zAe O L E z cj a2 cV cu b8 F K x b1 b2 (go W cO ct b4))) ?_
      all_goals simp[f]
     |true=>
      rw[ht]at c2;rw[ck,ht,hm,a2,yAb (by simp),et]at f;refine GT (zAe y1 y2 y3 y4 b9 ca cb cd cf cg N ax ay u (zAe O L E z cj a2 cV cu b8 F K x b1 b2 (zAb W cO ct b4 ec e3 (show(T.q.length+1)*8<=140737488355328 by omega) (show T.q.length+1<=9223372036854775807 by omega)))) ?_
      all_goals (simp[f,yBv])
   .have a2:(aK T.far j==0)=false:=by simp[h0]
    rw[ck,a2,yAG,yAG,L4 (by simp)]at f;refine GT (zAe y1 y2 y3 y4 b9 ca cb cd cf cg N ax ay u (so O L E z cj a2)) ?_
    all_goals simp[f]
  .have cP:j=i:=by omega
   subst cP;refine GT (zAe y1 y2 y3 y4 b9 ca cb cd cf cg N ax ay u e4) ?_
   all_goals exact⟨ez,by omega⟩
 .have dB:bK i may has tch i=bK i may has tch k:=by
   have:=Jc G (i-k);rw[show k+(i-k)=i by omega]at this;exact this
  have cM:pH i may has hasF tch=aS (bK i may has tch k).far hasF i:=by unfold pH;rw[dB]
  have ek:we i may has hasF tch=if mh i may has hasF tch then(List.range (aK (bK i may has tch k).far (pH i may has hasF tch).toNat).toNat).map (pS i (bK i may has tch k).far tch (pH i may has hasF tch).toNat)else[]:=by unfold we;rw[dB]
  generalize hS:bK i may has tch k=S at *;have X:=hI.len;have e7:=hI.le
  with_reducible repeat' (first|refine Sp.h ?_|((first|refine Wd ?_|refine Ss.h ?_|(refine Sb.h ?_ ?_ ?_<;>(try intro hgd)<;>try exact Xy))<;>simp -implicitDefEqProofs (maxSteps:=2000000) [hP,hN,H,g2,g3,I,g,l,U,ch,o,c,J,d,G]<;>try refine Ya ?_)|refine X2 ?_ ?_|(refine Xd ?_ ?_<;>intro hcd<;>try exact Xx))
  refine WP.loopN [] i (λj st=>st.t 1=.pv (zs p)/\st.t 4=.ptr 4 0/\st.t 10=.pv (Z i)/\st.t 11=.arr 25 i/\st.h 4=some (.box [.pv (.sl (cs.map bD)),.pv (.sl (v.map iv)),.pv (.sl (op.map B))] true false)/\st.h 25=some (.row 3 1 (S.far.map Z) 0)/\st.t 16=.pv (Z (aS S.far hasF j))/\st.t 17=.pv (Z j)/\st.h 142=none) (by simp[aS,H,I,g,l,o,c,d]) ?_;clear H g2 g3 I g l U ch o c J d st;rintro j st hj ⟨H,I,g,l,o,d,D,a1,c⟩;have hA:=Hy (hasF:=hasF) (far:=S.far) j;by_cases u:j<i
  .have O:=ai u (by omega)
   have L:=rn hI u
   have z:j<S.far.length:=by omega
   have E:=aJ L z;have c2:=c4 j u;have F:=Y j u;have K:=(M j u).1;have x:=R j u
   have f:aS S.far hasF (j+1)=if decide (0<aK S.far j)&&hasF j&&(decide (aS S.far hasF j<0)||decide (aK S.far j<aK S.far (aS S.far hasF j).toNat))then(j:Int)else aS S.far hasF j:=rfl
   generalize aS S.far hasF j=A at *;by_cases h0:0<aK S.far j
   .cases hh:hasF j with
    |false=>
     rw[hh]at c2;rw[hh,yBm,yAG,L4 (by simp)]at f;refine GT (zAe H I g l o d D a1 c u O L E z (it X h0 F K x)) ?_
     all_goals simp[f]
    |true=>
     rw[hh]at c2;by_cases a8:A<0
     .rw[hh,yAb (by simp[h0,a8])]at f
      refine GT (zAe H I g l o d D a1 c u O L E z (so X h0 F K x a8)) ?_
      all_goals simp[f]
     .have c8:0<=A:=by omega
      have cB:A.toNat<i:=by omega
      have cD:A.toNat<S.far.length:=by omega
      have cN:=rn hI cB;have cr:=aJ cN cD;by_cases a7:aK S.far j<aK S.far A.toNat
      .rw[hh,yAb (by simp[h0,a7])]at f
       refine GT (zAe H I g l o d D a1 c u O L E z (zAd X h0 F K x a8 c8 cB cD cN cr a7)) ?_
       all_goals simp[f]
      .rw[hh,L4 (by simp[a7];omega)]at f
       refine GT (zAe H I g l o d D a1 c u O L E z (zAd X h0 F K x a8 c8 cB cD cN cr a7)) ?_
       all_goals simp[f]
   .rw[L4 (by simp[h0])]at f
    refine GT (zAe H I g l o d D a1 c u O L E z (gA X h0)) ?_
    all_goals simp[f]
  have cP:j=i:=by omega
  subst cP;rw[ek];unfold mh;rw[cM];generalize fb:aS S.far hasF j=A at *;by_cases a8:A<0
  .have eN:decide (0<=A)=false:=by simp;omega
   rw[eN,L4 (by simp)];exact Gy
  obtain⟨a,rfl⟩:=yBn (show 0<=A by omega)
  have ea:decide (0<=(a:Int))=true:=by simp
  rw[ea,yAb rfl,yAm]
  have ee:a<j:=by omega
  have cL:0<aK S.far a:=by have:=(hA.2.2 (by omega)).1;rwa [yAm]at this
  have ei:=hI.top a;have eW:=Fl hI cv ee cL;refine rG [142] (zAc H I g l o d D a1 c (gA u a8)) ?_;refine WP.loopN [] (aK S.far a-1).toNat (λr st=>st.t 1=.pv (zs p)/\st.t 4=.ptr 4 0/\st.t 10=.pv (Z j)/\st.t 11=.arr 25 j/\st.h 4=some (.box [.pv (.sl (cs.map bD)),.pv (.sl (v.map iv)),.pv (.sl (op.map B))] true false)/\st.h 25=some (.row 3 1 (S.far.map Z) 0)/\st.t 16=.pv (Z (pS j S.far tch a r))/\st.t 18=.arr 142 (r+1)/\st.h 142=some (.row 3 1 (((List.range (r+1)).map (pS j S.far tch a)).map zN) 0)) (by simp[pS,H,I,g,l,o,d,D]) ?_;clear H I g l o c d D a1 st;rintro r st hr ⟨H,I,g,l,o,d,D,V,c⟩;obtain⟨u1,u2⟩:=eW r (by omega);have e2:pS j S.far tch a (r+1)=Hz j S.far tch (pS j S.far tch a r):=rfl;have dA:(List.range (r+1)).map (pS j S.far tch a)++[pS j S.far tch a (r+1)]=(List.range (r+2)).map (pS j S.far tch a):=Ks _ (r+1);have cn:=rn hI u1
  have a5:pS j S.far tch a r<S.far.length:=by omega
  have b5:=aJ cn a5;by_cases ft:r<(aK S.far a-1).toNat
  .have dd:1<aK S.far (pS j S.far tch a r):=by omega
   obtain⟨x1,x2,x3,x4⟩:=HA hI cv u1 dd;have fx:i64.wrap ((j:Int)-1)=(j:Int)-1:=aa;rw[e2]at dA|-;generalize fj:pS j S.far tch a r=P at *;refine Gz ?_;refine WP.loopN [] j (λm st=>st.t 1=.pv (zs p)/\st.t 4=.ptr 4 0/\st.t 10=.pv (Z j)/\st.t 11=.arr 25 j/\st.h 4=some (.box [.pv (.sl (cs.map bD)),.pv (.sl (v.map iv)),.pv (.sl (op.map B))] true false)/\st.h 25=some (.row 3 1 (S.far.map Z) 0)/\st.t 16=.pv (Z P)/\st.t 18=.arr 142 (r+1)/\st.t 19=.pv (Z (nS j S.far tch P m))/\st.t 20=.pv (Z ((j:Int)-1-m))/\st.h 142=some (.row 3 1 (((List.range (r+1)).map (pS j S.far tch a)).map zN) 0)) (by simp[nS,H,I,g,l,o,d,D,V,c]) ?_;clear H I g l o c d D V st;rintro m st hm ⟨H,I,g,l,o,d,D,V,bq,b0,c⟩;by_cases cQ:m<j
   .obtain⟨y,hy⟩:∃y:Nat,y=j-1-m:=⟨_,rfl⟩
    have e5:(j:Int)-1-m=(y:Int):=by omega
    have ad:y<j:=by omega
    rw[e5]at b0
    have c0:i64.wrap ((y:Int)-1)=(j:Int)-1-((m:Int)+1):=by rw[show(j:Int)-1-((m:Int)+1)=(y:Int)-1 by omega];exact aa (by omega) (by omega)
    have f:nS j S.far tch P (m+1)=if nC S.far tch P y then(y:Int)else nS j S.far tch P m:=by simp only[nS];rw[<-hy]
    have cU:nC S.far tch P y=((aK S.far y==aK S.far P-1)&&tch y P):=rfl;have cp:=rn hI ad
    have a6:y<S.far.length:=by omega
    have b7:=aJ cp a6;have c3:i64.wrap (aK S.far P-1)=aK S.far P-1:=aa;have F:=Y y ad;have K:=(M y ad).1;have x:=R y ad;have b1:=Y P u1;have b2:=(M P u1).1;have W:=R P u1;have c2:=cq y P ad u1
    cases b3:(aK S.far y==aK S.far P-1)with
    |false=>
     rw[cU,b3,yAG,L4 (by simp)]at f;refine GT (zAe H I g l o d D V bq b0 c cQ ad c0 (zAc cp b7 a6 cn b5 a5 u1 X c3 b3)) ?_
     all_goals simp[f]
    |true=>
     cases ht:tch y P with
     |false=>
      rw[ht]at c2;rw[cU,ht,yBm,L4 (by simp)]at f;refine GT (zAe H I g l o d D V bq b0 c cQ ad c0 (zAe cp b7 a6 cn b5 a5 u1 X c3 b3 F K x b1 (gA b2 W))) ?_
      all_goals simp[f]
     |true=>
      rw[ht]at c2;rw[cU,ht,b3,yAb (by simp)]at f;refine GT (zAe H I g l o d D V bq b0 c cQ ad c0 (zAe cp b7 a6 cn b5 a5 u1 X c3 b3 F K x b1 (gA b2 W))) ?_
      all_goals simp[f]
   .have eA:m=j:=by omega
    subst eA
    have eB:¬(0:Int)<=(m:Int)-1-m:=by omega
    rw[x1]at bq;refine GT (zAd H I g l o d D V bq b0 c (be eB (show(r+1+1)*8<=140737488355328 by omega) (show r+1+1<=9223372036854775807 by omega))) ?_
    all_goals exact⟨by omega,by simpa using yBt (List.map zN) dA⟩
  .have e0:r+1=(aK S.far a).toNat:=by omega
   have dd:¬1<aK S.far (pS j S.far tch a r):=by omega
   rw[e0]at c V;exact Gy
theorem Mz{t:Tr}(l:am t=true):∀i j,i<t.cells.length->j<t.cells.length->oH (af t) i j=oH (af t) j i:=by
 have key:∀{a b:Bx},au vI a=true->au vI b=true->dH a b=true->dH b a=true:=by
  intro a b e f h;obtain⟨c,d⟩:=(nR e f).1 h;exact(nR f e).2 ⟨c.symm,λi x y m n=>(d i y x n m).symm⟩
 intro i j hi q;have k:=ef l
 have c:(af t)[i]?=some (kh (af t) i):=by simp[kh,an (by omega:i<(af t).length)]
 have d:(af t)[j]?=some (kh (af t) j):=by simp[kh,an (by omega:j<(af t).length)]
 have o:=key (iN c).2 (iN d).2;have p:=key (iN d).2 (iN c).2;simp only[oH]at *
 cases h:dH (kh (af t) i) (kh (af t) j)with
 |true=>rw[o h]
 |false=>
  cases g:dH (kh (af t) j) (kh (af t) i)with
  |true=>rw[p g]at h;cases h
  |false=>rfl
structure Spc where
 root:Bx
 cells:List Cel
 bx:List Bx
 near:List (List Nat)
 jn:List Int
 cc:Bool:=false
section
variable {n:Nat} {may has:Nat->Bool} {tch:Nat->Nat->Bool}
inductive Vis(may:Nat->Bool)(k:Nat)(s:BS):List Nat->BS->Prop
 |nil:Vis may k s [] s
 |hit {c s1 i} (h:Vis may k s c s1) (h0:aK s1.far i=0) (hm:may i=true):Vis may k s (c++[i]) (uM s1 k i)
 |miss {c s1 i} (h:Vis may k s c s1) (h0:aK s1.far i=0->may i=false):Vis may k s (c++[i]) s1
structure VI(n:Nat)(may has:Nat->Bool)(tch:Nat->Nat->Bool)(s:BS)(k:Nat)(c:List Nat)(s1:BS):Prop where
 inv:BInv2 n may has tch s1
 le:s.q.length<=s1.q.length
 qs:∀a,a<s.q.length->da s1 a=da s a
 keep:∀i,1<=aK s.far i->aK s1.far i=aK s.far i
 inq:∀i,1<=aK s1.far i->i∈s1.q
 qn:∀a,s.q.length<=a->a<s1.q.length->aK s1.far (da s1 a)=aK s.far (da s k)+1
 vis:∀i∈c,may i=true->1<=aK s1.far i
theorem IE{l:List Int}{a:Nat}(h:a<s.q.length):da ⟨l,s.q++[i]⟩ a=da s a:=by
 unfold da;rw[ZX h]
theorem Qy{l:List Int}:da ⟨l,s.q++[i]⟩ s.q.length=i:=by
 unfold da;rw[yAa (yAd _)];simp
theorem Qz{d:BS}{c:List Nat}(hs:BInv2 n may has tch s)(A:k<s.q.length)(hq:∀i,1<=aK s.far i->i∈s.q)(h:Vis may k s c d)(x:∀i∈c,i<n/\tch i (da s k)=true):VI n may has tch s k c d:=by
 induction h with
 |nil=>exact⟨hs,yAd _,λ_ _=>rfl,λ_ _=>rfl,hq,λa E H=>by omega,λi hi=>by cases hi⟩
 |@hit c d i h r F ih=>
  have I:=ih λj b=>x j (yBM _ b);obtain⟨hi,G⟩:=x i (by simp);have p:=I.qs k A
  have B:da s k∈s.q:=by
   unfold da;rw[an A];exact yAq _
  have y:=(hs.mem _ B)
  have m:aK d.far (da d k)=aK s.far (da s k):=by rw[p];exact I.keep _ y.2
  have z:i<d.far.length:=by rw[I.inv.len];exact hi
  have f:∀j,aK (uM d k i).far j=if j=i then aK s.far (da s k)+1 else aK d.far j:=λj=>by
   simp only[uM];rw[mE z,m]
  have o:∀j,1<=aK d.far j->j≠i:=λj b e=>by rw[e,r]at b;omega
  have l:da d k∈d.q:=by
   unfold da;rw[an (yAW A I.le)];exact yAq _
  refine⟨?_,?_,?_,?_,?_,?_,?_⟩
  .refine I.inv.put hi r (by rw[m];omega) F (by have:=I.inv.top (da d k);omega) (.inr ⟨da d k,(I.inv.mem _ l).1,by omega,(I.inv.mem _ l).2,by rw[p];exact G⟩)
  .simp only[uM,yAo,yA1];have:=I.le;omega
  .intro a u
   have:=I.le;rw[<-I.qs a u];exact IE (by omega)
  .intro j b
   have:=I.keep j b;rw[f,L4 (o j (by omega)),this]
  .intro j b
   rw[f]at b;simp only[uM,yAk,yAE];split at b
   .rename_i e;exact .inr e
   .exact .inl (I.inq j b)
  .intro a u v
   simp only[uM,yAo,yA1]at v;by_cases e:a<d.q.length
   .have D:da (uM d k i) a=da d a:=IE e
    have C:da d a∈d.q:=by
     unfold da;rw[an e];exact yAq _
    rw[D,f,L4 (o _ (I.inv.mem _ C).2)];exact I.qn a u e
   .have:a=d.q.length:=by omega
    subst this;rw[show da (uM d k i) d.q.length=i from Qy,f,yAb rfl]
  .intro j b g
   rw[f];split
   .omega
   .rename_i e
    rcases yAk.1 b with b|b
    .exact I.vis j b g
    .exact absurd (yAE.1 b) e
 |@miss c d i h r ih=>
  have I:=ih λj b=>x j (yBM _ b);refine⟨I.inv,I.le,I.qs,I.keep,I.inq,I.qn,λj b g=>?_⟩;rcases yAk.1 b with b|b
  .exact I.vis j b g
  .rw[yAE.1 b]at g|-
   have E:=I.inv.nn i;by_cases e:aK d.far i=0
   .rw[r e]at g;cases g
   .omega
structure BO(n:Nat)(may has:Nat->Bool)(tch:Nat->Nat->Bool)(s:BS)(k:Nat):Prop where
 inv:BInv2 n may has tch s
 inq:∀i,1<=aK s.far i->i∈s.q
 mono:∀a b,a<=b->b<s.q.length->aK s.far (da s a)<=aK s.far (da s b)
 top:∀b,b<s.q.length->k<s.q.length->aK s.far (da s b)<=aK s.far (da s k)+1
 start:∀i,i<n->may i=true->has i=true->aK s.far i=1
 done:∀a,a<k->a<s.q.length->∀i,i<n->may i=true->tch i (da s a)=true->1<=aK s.far i/\aK s.far i<=aK s.far (da s a)+1
theorem Si(h:i∈s.q):∃a,a<s.q.length/\da s a=i:=by
 obtain⟨a,b⟩:=yAD h;exact⟨a,(th.1 b).1,by simp[da,b]⟩
theorem JV{a:Nat}(h:a<s.q.length):da s a∈s.q:=by
 unfold da;rw[an h];exact yAq _
theorem BO.step{s f:BS}{k:Nat}{c:List Nat}(H:BO n may has tch s k)(m:k<s.q.length)(h:Vis may k s c f)(E:∀i∈c,i<n/\tch i (da s k)=true)(p:∀i,i<n->may i=true->tch i (da s k)=true->i∈c\/i=da s k):BO n may has tch f (k+1):=by
 have I:=Qz H.inv m H.inq h E;have G:=I.le
 have d:∀a,a<s.q.length->aK f.far (da f a)=aK s.far (da s a):=λa x=>by
  rw[I.qs a x];exact I.keep _ (H.inv.mem _ (JV x)).2
 have B:∀b,b<f.q.length->aK f.far (da f b)<=aK s.far (da s k)+1:=by
  intro b j;by_cases e:b<s.q.length
  .rw[d b e];exact H.top b e m
  .rw[I.qn b (by omega) j];omega
 have mono:∀a b,a<=b->b<f.q.length->aK f.far (da f a)<=aK f.far (da f b):=by
  intro a b y j;by_cases e:b<s.q.length
  .rw[d b e,d a (by omega)];exact H.mono a b y e
  .rw[I.qn b (by omega) j];exact B a (by omega)
 refine⟨I.inv,I.inq,mono,?_,?_,?_⟩
 .intro b j A
  have l:=mono k (k+1) (by omega) A;rw[d k m]at l;have:=B b j;omega
 .intro i hi r F
  have l:=H.start i hi r F;rw[I.keep i (by omega)];exact l
 .intro a x D i hi r u
  by_cases e:a<k
  .have g:a<s.q.length:=by omega
   rw[I.qs a g]at u;obtain⟨l,C⟩:=H.done a e g i hi r u;rw[I.keep i l,d a g];exact⟨l,C⟩
  .have e:a=k:=by omega
   subst e;rw[I.qs a m]at u;rw[d a m];rcases p i hi r u with v|v
   .have o:=I.vis i v r
    obtain⟨b,j,z⟩:=Si (I.inq i o);have:=B b j;rw[z]at this;exact⟨o,this⟩
   .have o:=(H.inv.mem _ (JV m)).2
    rw[v,I.keep _ o];exact⟨o,by omega⟩
theorem BO.stay(H:BO n may has tch s k)(e:¬k<s.q.length):BO n may has tch s (k+1):=
 ⟨H.inv,H.inq,H.mono,λb _ h=>by omega,H.start,λa d c=>H.done a (by omega) c⟩
theorem Ls:∀i,i<=n->(∀j,1<=aK (bI n may has i).far j->j∈(bI n may has i).q/\aK (bI n may has i).far j=1)/\∀j,j<i->may j=true->has j=true->aK (bI n may has i).far j=1
 |0,_=>by
  refine⟨λj a=>?_,λj a=>by omega⟩
  have m:aK (List.replicate n (0:Int)) j=0:=by simp only[aK,yAx];split<;>rfl
  simp only[bI,m]at a;omega
 |i+1,hi=>by
  obtain⟨k,l⟩:=Ls i (by omega);have c:=(yl (n:=n) (may:=may) (has:=has) (tch:=λ_ _=>true) i (by omega)).1
  have b:i<(bI n may has i).far.length:=by rw[c.len];omega
  simp only[bI];split
  .rename_i d
   simp only[An]at d;refine⟨λj a=>?_,λj a g f=>?_⟩
   .rw[mE b]at a|-
    split
    .rename_i e;exact⟨by simp[e],rfl⟩
    .rename_i e
     rw[L4 e]at a;exact⟨yBM _ (k j a).1,(k j a).2⟩
   .rw[mE b]
    split
    .rfl
    .exact l j (by omega) g f
  .rename_i d
   refine⟨k,λj a g f=>?_⟩;by_cases e:j=i
   .subst e;rw[g,f]at d;exact absurd rfl d
   .exact l j (by omega) g f
theorem BO.init:BO n may has tch (bI n may has n) 0:=by
 obtain⟨e,j⟩:=Ls (n:=n) (may:=may) (has:=has) n (yAd _);have c:=(yl (n:=n) (may:=may) (has:=has) (tch:=tch) n (yAd _)).1;have one:∀a,a<(bI n may has n).q.length->aK (bI n may has n).far (da (bI n may has n) a)=1:=λa f=>(e _ (c.mem _ (JV f)).2).2;refine⟨c,λi hi=>(e i hi).1,λa b k d=>?_,λb d g=>?_,λi hi m l=>j i hi m l,λa f=>by omega⟩
 .rw[one a (by omega),one b d];omega
 .rw[one b d,one 0 g];omega
structure FarOk(n:Nat)(may has:Nat->Bool)(tch:Nat->Nat->Bool)(far:List Int):Prop where
 len:far.length=n
 nn:∀i,0<=aK far i
 rng:∀i,1<=aK far i->i<n/\may i=true
 start:∀i,i<n->may i=true->has i=true->aK far i=1
 back:∀i,1<=aK far i->(aK far i=1/\has i=true)\/∃p,p<n/\aK far p=aK far i-1/\1<=aK far p/\tch i p=true
 clo:∀p i,1<=aK far p->i<n->may i=true->tch i p=true->1<=aK far i/\aK far i<=aK far p+1
theorem BO.fin(H:BO n may has tch s k)(e:s.q.length<=k):FarOk n may has tch s.far:=by
 refine⟨H.inv.len,H.inv.nn,λi hi=>⟨?_,H.inv.may' i hi⟩,H.start,H.inv.back,λp i hp hi c d=>?_⟩
 .exact(H.inv.mem i (H.inq i hi)).1
 .obtain⟨a,b,rfl⟩:=Si (H.inq p hp)
  exact H.done a (by omega) b i hi c d
theorem Lt{s:BS}{k:Nat}(hs:BInv2 n may has tch s)(c:k<s.q.length):∀i,i<=n->Vis may k s ((List.range i).filter λj=>tch j (da s k)) (bJ may tch s k i)
 |0,_=>.nil
 |i+1,hi=>by
  have ih:=Lt hs c i (by omega);have hq:=(CM hs c i (by omega)).2.2;rw[yBo,yBD];simp only[bJ]
  cases b:tch i (da s k)with
  |true=>
   rw[show List.filter (λj=>tch j (da s k)) [i]=[i] by simp[b]];split
   .rename_i a
    simp only[Hx,An,yAU]at a;exact .hit ih a.1.1 a.1.2
   .rename_i a
    refine .miss ih λd=>?_;rw[<-Bool.not_eq_true];intro e;exact a (by simp[Hx,d,e,hq,b])
  |false=>
   rw[show List.filter (λj=>tch j (da s k)) [i]=[] by simp[b],yBU];rw[L4 (by simp[Hx,hq,b])];exact ih
theorem Lu:∀k,BO n may has tch (bK n may has tch k) k
 |0=>BO.init
 |k+1=>by
  have ih:=Lu k;simp only[bK];split
  .rename_i a
   refine ih.step a (Lt ih.inv a n (yAd _)) (λi hi=>?_) (λi hi c b=>.inl ?_)
   .simp only[yA5,yAJ]at hi;exact hi
   .simp only[yA5,yAJ];exact⟨hi,b⟩
  .rename_i a;exact ih.stay a
theorem Sj:FarOk n may has tch (bK n may has tch n).far:=(Lu n).fin (CN n).le
variable (n may has)
variable {n may has}
end
theorem WP.of_st{C:Cx}{c:Code}{P:St->Prop}(h:P st/\∀st,P st->WP C c Q st):WP C c Q st:=h.2 st h.1
theorem WP.freeze{C:Cx}{c:Code}(s:Nat){e sz fz:Nat}{xs:List PV}(j:st.h k=some (.row e sz xs fz))(u:st.t s=.arr k xs.length)(h:WP C c Q ⟨aH st.t s (.pv (.sl xs)),aH st.h k (some (.row e sz xs xs.length))⟩):WP C c Q st:=by
 intro a w r;obtain⟨L,p,hN,i,f⟩:=r;obtain⟨g,o⟩:=u7 p j;refine h a w ⟨L,g.1,hN,i,λn=>?_⟩;have d:=(f n).mono g.2.1 g.2.2;show RepA w _ L _ (aH st.t s (.pv (.sl xs)) n) _;by_cases l:n=s
 .subst l
  rw[aE];have m:=f n;rw[u]at m
  cases m with
  |arr b q v=>
   rw[j]at b;injection b with b;injection b with _ _ a3 _;subst a3;rw[v rfl];exact .pv o
 .rw[bu l];exact d
theorem HH{P:Program}{o:Oper}{t t':TypeId}{x y:Operand}{a b c:Bool}(d:o.op=.binOp .neq t x y t')(e:ρ x=.pv (.val (.bool a)))(f:ρ y=.pv (.val (.bool b)))
 (j:P.eqGuardType P.depth t=false)(h:aj P (Op.equal t (.bool a) (.bool b))=some c):bf P o ρ=some (.pv (.val (.bool !c)),[]):=by
 refine dq (by rw[d];simp[Op.operands,e,f,dV]) ?_;unfold execOp;rw[d];simp only[(bg e).2,(bg f).2]
 have g:aj P (eqGuard .neq t x y (.bool a) (.bool b))=some ():=by
  unfold eqGuard;simp only[yBy,ZY,yAi,ae,jx,yAg,j,yCk,yAn];rfl
 have i:aj P (binOp .neq t (.bool a) (.bool b))=some (.bool !c):=by
  simp only[binOp,ae,h,yAg];rfl
 simp only[ae,g,i,yAg];rfl
theorem WP.nilsl{C:Cx}{c:Code}(s:Nat)(k:st.t s=.pv (.val (.slice none 0 0)))(h:WP C c Q ⟨aH st.t s (.pv (.sl [])),st.h⟩):WP C c Q st:=by
 intro a w j;obtain⟨L,g,hN,d,b⟩:=j;refine h a w ⟨L,g,hN,d,λn=>?_⟩;show RepA w _ L _ (aH st.t s (.pv (.sl [])) n) _;by_cases e:n=s
 .subst e
  rw[aE];have f:=b n;rw[k]at f
  cases f with
  |pv i=>rw[aX i];exact .pv (.sl0 none 0)
 .rw[bu e];exact b n
theorem mi{t:Tr}{L:OL}(h:cy t=some L){b:Bx}(c:L[i]?=some (some b)):ao t (i:Int)=b:=by
 rw[jF h]at c;rw[ZW,II]at c;obtain⟨x,d,a⟩:=c;injection a with a;subst a;simp[ao,d]
theorem pI{t:Tr}(D:am t=true){c:Cel}(v:t.cells[i]?=some c)(q:bC c=false):
 i7 t.cells.length i c=true/\aY (ao t (i:Int)) c.joint=true/\ao t c.low=br (ao t (i:Int)) c.joint/\ao t c.high=bv (ao t (i:Int)) c.joint:=by
 obtain⟨L,hL⟩:=yAy.1 D;have r:=(th.1 v).1
 have hP:=iM (P:=λk M=>BOk t k M/\(i<k->∃b,M[i]?=some (some b)/\i7 t.cells.length i c=true/\aY b c.joint=true/\M[c.low.toNat]?=some (some (br b c.joint))/\M[c.high.toNat]?=some (some (bv b c.joint)))) hL ⟨me (gX hL),by omega⟩ (by
  rintro k d M E l ⟨a,hp⟩ g;refine⟨mf a g,λB=>?_⟩;by_cases e:k=i
  .subst e
   rw[v]at l;injection l with l;subst l;obtain⟨b,y,⟨f,_⟩|⟨_,hi,z,C,A,rfl⟩⟩:=eX g
   .rw[q]at f;cases f
   .have p:=dL.1 hi
    refine⟨b,?_,hi,z,?_,?_⟩
    .rw[i8 a.len hi,L4 (by omega),L4 (by omega)];exact y
    .rw[i8 a.len hi,L4 (by omega),yAb rfl]
    .rw[i8 a.len hi,yAb rfl]
  .obtain⟨b,f,j,m,n,o⟩:=hp (by omega)
   exact⟨b,kH g f,j,m,kH g n,kH g o⟩)
 obtain⟨b,f,j,m,n,o⟩:=hP.2 r;have p:=dL.1 j;have x:=mi hL f;have s:=mi hL n;have u:=mi hL o;rw[Int.toNat_of_nonneg (by omega)]at s u;rw[x,s,u];exact⟨j,m,rfl,rfl⟩
theorem O0{t:Tr}(b:am t=true):ao t 0=t.root:=by
 obtain⟨L,hL⟩:=yAy.1 b;have hP:=iM (P:=λ_ M=>M[0]?=some (some t.root)) hL (by simp[fE]) (λk d M c _ hp a=>kH a hp);exact mi hL hP
theorem Kw{b:Bx}{j:Int}(h:aY b j=true){q:List Int}(hq:aR b q=true):∃c x,q[j.toNat]?=some c/\(br b j)[j.toNat]?=some x/\(c<=x.2->aR (br b j) q=true)/\(x.2<=c->aR (bv b j) q=true):=by
 obtain⟨x,p,A,v,l,n⟩:=ny h;have m:=(kG.1 h).2.1;obtain⟨s,u⟩:=k9 h;obtain⟨r,m1⟩:=(dU m).1 hq;have k:=(th.1 p).1;have f:q[j.toNat]?=some (q[j.toNat]'(by omega)):=an _;have o:=m1 j.toNat x _ p f;refine⟨_,(x.1,(x.1+x.2)/2),f,by rw[l];simp[k],λg=>?_,λg=>?_⟩
 .refine(dU s).2 ⟨by rw[l];simpa using r,λi y z a d=>?_⟩
  rw[l,yAe]at a;split at a
  .rename_i e;subst e
   simp[k]at a;subst a;rw[f]at d;injection d with d;subst d;exact⟨o.1,g⟩
  .exact m1 i y z a d
 .refine(dU u).2 ⟨by rw[n];simpa using r,λi y z a d=>?_⟩
  rw[n,yAe]at a;split at a
  .rename_i e;subst e
   simp[k]at a;subst a;rw[f]at d;injection d with d;subst d;exact⟨g,o.2⟩
  .exact m1 i y z a d
def jd(t:Tr)(i:Int):Bool:=am t&&decide (0<=i)&&decide (i<t.cells.length)
def gj(t:Tr)(i:Int):Bx:=if jd t i then ao t i else[]
theorem A5{t:Tr}{i:Int}(h:jd t i=false):gj t i=[]:=by simp[gj,h]
theorem Vs(t:Tr)(i:Int)(s:t.cells.length<=9223372036854775807):aL 29 (eo t) (Z i) (.tup [iv (gj t i),B (jd t i)]):=by
 have p:=P2 t s
 cases g:am t with
 |false=>
  have a:jd t i=false:=by simp[jd,g]
  rw[A5 a,a];rw[g]at p;refine Dp func29 λC hP hN=>?_;exact GS trivial
 |true=>
  rw[g]at p;have j:=ef g;by_cases l:i<0
  .have a:jd t i=false:=by
    have:decide (0<=i)=false:=by simp;omega
    simp only[jd,this,yBm,yAG]
   rw[A5 a,a];refine Dp func29 λC hP hN=>?_;exact GS l
  .obtain⟨k,rfl⟩:=yBn (show 0<=i by omega)
   by_cases q:t.cells.length<=k
   .have a:jd t k=false:=by
     have:decide ((k:Int)<t.cells.length)=false:=by simp;omega
     simp only[jd,this,yBm,yAG]
    rw[A5 a,a];refine Dp func29 λC hP hN=>?_;exact GS (be l q j)
   .have f:k<t.cells.length:=by omega
    have d:k<(af t).length:=by omega
    obtain⟨m,r,_⟩:=dF g (c:=(k:Int)) f;have b:(af t)[k]?=some (ao t k):=m;have n:=aJ b d
    have e:jd t k=true:=by simp[jd,g,f]
    have o:gj t k=ao t k:=by simp[gj,e]
    rw[o,e];refine Dp func29 λC hP hN=>?_;exact GS (zAa l q j f d b n)
def Jd(n:Nat)(v:Verd):Prop:=v.nor.length<=n/\v.left.length<=n/\v.right.length<=n
theorem ym[DecidableEq α](xs ys:List α):qL xs ys=decide (xs=ys):=by
 unfold qL;by_cases h:xs.length=ys.length
 .simp[h,Qh h]
 .have:xs≠ys:=λe=>h (by rw[e])
  simp[h,this]
theorem QX{P:Program}(D:Nat){t e:TypeId}(k:P.underlying t=some (.array 3 e))(hs:aj P (sizeOf e)=some 1)(i:∀x y:Int,aj P (Op.equalIn D e (.int .i64 x) (.int .i64 y))=some (x==y)){xs ys:Array Value}{d f g:Int}
 (p0:aj P (part e xs (0*1))=some (.int .i64 a))(l:aj P (part e xs (1*1))=some (.int .i64 b))(m:aj P (part e xs (2*1))=some (.int .i64 c))
 (n:aj P (part e ys (0*1))=some (.int .i64 d))(o:aj P (part e ys (1*1))=some (.int .i64 f))(p:aj P (part e ys (2*1))=some (.int .i64 g)):
 aj P (Op.equalIn (D+1) t (.agg xs) (.agg ys))=some (a==d&&b==f&&c==g):=by
 simp only[Op.equalIn,ae,jy k,yAg];simp only[hs,yAg,Std.Legacy.Range.forIn_eq_forIn_range',Std.Legacy.Range.size]
 have j:List.range' 0 ((3-0+1-1)/1) 1=[0,1,2]:=by decide
 rw[j];simp only[List.forIn_cons,List.forIn_nil,ae,p0,n,i,yAg];cases q:(a==d)
 .simp[dl]
 simp only[yBy,ZY,yAi,dl,yAg,ae,l,o,i];cases r:(b==f)
 .simp[dl]
 simp only[yBy,ZY,yAi,dl,yAg,ae,m,p,i];cases s:(c==g)
 all_goals simp[dl]
theorem Kp(a b e c d f:Int):aj prog (Op.equal 84 (.agg #[.int .i64 a,.int .i64 b,.int .i64 e]) (.agg #[.int .i64 c,.int .i64 d,.int .i64 f]))=some (a==c&&b==d&&e==f):=
 QX 9999 Tryz.underlying84 (by kernel_rfl) (λx y=>og (P:=prog) 9998 2 .i64 .i64 x y Tryz.underlying2) (by kernel_rfl) (by kernel_rfl) (by kernel_rfl) (by kernel_rfl) (by kernel_rfl) (by kernel_rfl)
def tm(x:AV):Option (Int×Int×Int):=match x with
 |.pv (.val (.agg d))=>match d.toList with
  |[.int .i64 a,.int .i64 b,.int .i64 c]=>some (a,b,c)
  |_=>none
 |_=>none
theorem mD{x:AV}(h:tm x=some (a,b,c)):x=.pv (aW (a,b,c)):=by
 unfold tm at h;split at h
 .split at h
  .rename_i e _ f g i d
   injection h with h;injection h with h1 h2;injection h2 with h2 h3;subst h1;subst h2;subst h3;rw[<-Array.toArray_toList (xs:=e),d]
  .cases h
 .cases h
def OJ(x y:AV)(g:Option bF):Option bF:=match tm x,tm y with
 |some (a,b,e),some (c,d,f)=>some (.pv (.val (.bool !(a==c&&b==d&&e==f))),[])
 |_,_=>g
@[simp] theorem Vm(a b e c d f:Int)(g:Option bF):OJ (.pv (.val (.agg #[.int .i64 a,.int .i64 b,.int .i64 e]))) (.pv (.val (.agg #[.int .i64 c,.int .i64 d,.int .i64 f]))) g=some (.pv (.val (.bool !(a==c&&b==d&&e==f))),[]):=rfl
@[simp] theorem Zz{g:Option (Nat×Bool)}(x y:Operand):
 bf prog ⟨dst,.binOp .neq 84 x y 84,ty,pos,aft,g⟩ ρ=OJ (ρ x) (ρ y) (gk prog ⟨dst,.binOp .neq 84 x y 84,ty,pos,aft,g⟩ ρ):=by
 unfold OJ;split
 .rename_i a b e c d f i j
  exact BI rfl (mD i) (mD j) (by kernel_rfl) (Kp a b e c d f)
 .rfl
def Kq(x y:AV)(g:Option bF):Option bF:=match tm x,tm y with
 |some (a,b,e),some (c,d,f)=>some (.pv (.val (.bool (a==c&&b==d&&e==f))),[])
 |_,_=>g
abbrev Iv:=Int×Int
def eQ(a:Int):Int:=min (max a (-2147483648)) 2147483648
def dC(a m:Int):Int:=-((-a)/m)
theorem cT(m n:Nat)(f:-(m:Int)<=a)(c:a<=m)(g:-(n:Int)<=b)(d:b<=n):-((m*n:Nat):Int)<=a*b/\a*b<=((m*n:Nat):Int):=by
 have e:(a*b).natAbs<=m*n:=by
  rw[Int.natAbs_mul];exact yBk (by omega) (by omega)
 omega
theorem Sn(a:Int)(m:Nat):a.fdiv (m:Int)=a/(m:Int):=Int.fdiv_eq_ediv_of_nonneg a (by omega)
theorem So(a:Int):a.fdiv 65536=a/65536:=Sn a 65536
theorem Sq(a:Int):a.fdiv 16384=a/16384:=Sn a 16384
theorem Sr(a:Int):a.fdiv 1073741824=a/1073741824:=Sn a 1073741824
theorem Su(a:Int)(g:-4611686018427387904<=a)(i:a<=4611686018427387904):aL 327 (Z a) (Z 16) (Z (dC a 65536)):=by
 have d:a.fdiv (2^min 16 i64.bits)=a/65536:=So a
 have e:i64.wrap (a/65536*2^min 16 i64.bits)=a/65536*65536:=by
  show i64.wrap (a/65536*65536)=_;exact aa (by omega) (by omega)
 have f:i64.wrap (a/65536+1)=a/65536+1:=aa;by_cases b:a/65536*65536=a
 .have hf:dC a 65536=a/65536:=by unfold dC;omega
  rw[hf];refine Dp func327 λC hP hN=>?_;exact Gy
 .have hf:dC a 65536=a/65536+1:=by unfold dC;omega
  rw[hf]
  have c:(a/65536*65536==a)=false:=by simpa using b
  refine Dp func327 λC hP hN=>?_;exact Gy
theorem Sv(a:Int):aL 255 (Z a) (Z 16) (Z (a/65536)):=by
 have b:a.fdiv (2^min 16 i64.bits)=a/65536:=So a;refine Dp func255 λC hP hN=>?_;exact Gy
theorem Wn(a:Int)(g:-4611686018427387904<=a)(i:a<=4611686018427387904):aL 327 (Z a) (Z 14) (Z (dC a 16384)):=by
 have d:a.fdiv (2^min 14 i64.bits)=a/16384:=Sq a
 have e:i64.wrap (a/16384*2^min 14 i64.bits)=a/16384*16384:=by
  show i64.wrap (a/16384*16384)=_;exact aa (by omega) (by omega)
 have f:i64.wrap (a/16384+1)=a/16384+1:=aa;by_cases b:a/16384*16384=a
 .have hf:dC a 16384=a/16384:=by unfold dC;omega
  rw[hf];refine Dp func327 λC hP hN=>?_;exact Gy
 .have hf:dC a 16384=a/16384+1:=by unfold dC;omega
  rw[hf]
  have c:(a/16384*16384==a)=false:=by simpa using b
  refine Dp func327 λC hP hN=>?_;exact Gy
theorem Wo(a:Int):aL 255 (Z a) (Z 14) (Z (a/16384)):=by
 have b:a.fdiv (2^min 14 i64.bits)=a/16384:=Sq a;refine Dp func255 λC hP hN=>?_;exact Gy
theorem Wp(a:Int)(g:-4611686018427387904<=a)(i:a<=4611686018427387904):aL 327 (Z a) (Z 30) (Z (dC a 1073741824)):=by
 have d:a.fdiv (2^min 30 i64.bits)=a/1073741824:=Sr a
 have e:i64.wrap (a/1073741824*2^min 30 i64.bits)=a/1073741824*1073741824:=by
  show i64.wrap (a/1073741824*1073741824)=_;exact aa (by omega) (by omega)
 have f:i64.wrap (a/1073741824+1)=a/1073741824+1:=aa;by_cases b:a/1073741824*1073741824=a
 .have hf:dC a 1073741824=a/1073741824:=by unfold dC;omega
  rw[hf];refine Dp func327 λC hP hN=>?_;exact Gy
 .have hf:dC a 1073741824=a/1073741824+1:=by unfold dC;omega
  rw[hf]
  have c:(a/1073741824*1073741824==a)=false:=by simpa using b
  refine Dp func327 λC hP hN=>?_;exact Gy
theorem Wq(a:Int):aL 255 (Z a) (Z 30) (Z (a/1073741824)):=by
 have b:a.fdiv (2^min 30 i64.bits)=a/1073741824:=Sr a;refine Dp func255 λC hP hN=>?_;exact Gy
def eK(x y:Iv):Iv:=if al x.1 x.2&&al y.1 y.2 then(eQ (x.1+y.1),eQ (x.2+y.2))else(0,0)
def fu(x:Iv):Iv:=if al x.1 x.2 then(-x.2,-x.1)else(0,0)
def dX(x y:Iv):Iv:=if al x.1 x.2&&al y.1 y.2 then
 (eQ (min (x.1*y.1) (min (x.1*y.2) (min (x.2*y.1) (x.2*y.2)))/65536),eQ (dC (max (x.1*y.1) (max (x.1*y.2) (max (x.2*y.1) (x.2*y.2)))) 65536))else(0,0)
def iW(x:Int):Iv:=(eQ x,eQ x)
theorem bm:al a b=true↔-2147483648<=a/\a<=b/\b<=2147483648:=by
 simp only[al,An,Is];constructor
 .rintro⟨⟨c,d⟩,e⟩;exact⟨c,d,e⟩
 .rintro⟨c,d,e⟩;exact⟨⟨c,d⟩,e⟩
theorem PM(a b:Int):aL 360 (Z a) (Z b) (I (eQ a) (eQ b)):=RF a b
theorem Dk(a:Int):aV 340 (Z a) (I (eQ a) (eQ a)):=VO a
theorem Dl:aL 357 (I a b) (I c d) (aA (eK (a,b) (c,d))):=by
 cases e:(al a b&&al c d)with
 |false=>
  have f:eK (a,b) (c,d)=(0,0):=by simp[eK,e]
  rw[f];refine Dp func357 λC hP hN=>?_;have k:=@Db;exact GS e
 |true=>
  have f:eK (a,b) (c,d)=(eQ (a+c),eQ (b+d)):=by simp only[eK,e,yAn]
  rw[f];have g:=e;rw[An,bm,bm]at g;have i:i64.wrap (a+c)=a+c:=aa;have j:i64.wrap (b+d)=b+d:=aa;refine Dp func357 λC hP hN=>?_
  with_reducible repeat' (first|refine Sp.h ?_|((first|refine Ss.h ?_|refine Sc.h (Db _ _ _ _) ?_|refine Sc.h (PM _ _) ?_|(refine Sb.h ?_ ?_ ?_<;>(try intro hgd)<;>try exact Xy))<;>simp -implicitDefEqProofs (maxSteps:=2000000) [hP,hN,e,i,j])|refine X2 ?_ ?_|(refine Xd ?_ ?_<;>intro hcd<;>try exact Xx))
theorem NQ:aV 386 (I a b) (aA (fu (a,b))):=by
 cases c:al a b with
 |false=>
  have d:fu (a,b)=(0,0):=by simp[fu,c]
  rw[d];refine Dp func386 λC hP hN=>?_;have f:=@jI;exact GS c
 |true=>
  have d:fu (a,b)=(-b,-a):=by simp only[fu,c,yAn]
  rw[d];have e:=c;rw[bm]at e;have g:i64.wrap (-b)=-b:=aa;have i:i64.wrap (-a)=-a:=aa;have j:i64.wrap (0-b)=-b:=(aa (n:=0-b) (by omega) (by omega)).trans (by omega);have k:i64.wrap (0-a)=-a:=(aa (n:=0-a) (by omega) (by omega)).trans (by omega);refine Dp func386 λC hP hN=>?_;have f:=@jI;exact GS (it c g i j k)
theorem Wr(a b:Int)(c:-4611686018427387904<=b)(d:b<=4611686018427387904):aL 370 (Z a) (Z b) (I (eQ (a/65536)) (eQ (dC b 65536))):=by
 refine Dp func370 λC hP hN=>?_
 with_reducible repeat' (first|refine Sp.h ?_|((first|refine Ss.h ?_|refine Sc.h (Sv _) ?_|refine Sc.h (Su _ c d) ?_|refine Sc.h (PM _ _) ?_|(refine Sb.h ?_ ?_ ?_<;>(try intro hgd)<;>try exact Xy))<;>simp -implicitDefEqProofs (maxSteps:=2000000) [hP,hN])|refine X2 ?_ ?_|(refine Xd ?_ ?_<;>intro hcd<;>try exact Xx))
@[simp] theorem ZR:i64.wrap 1=1:=by decide
@[simp] theorem ZS:i64.wrap 2=2:=by decide
@[simp] theorem ZT:i64.wrap 3=3:=by decide
@[simp] theorem ZU:i64.wrap 4=4:=by decide
theorem Ws(h:i<=4):i=0\/i=1\/i=2\/i=3\/i=4:=by omega
theorem Sw:aL 358 (I a b) (I c d) (aA (dX (a,b) (c,d))):=by
 cases j:(al a b&&al c d)with
 |false=>
  have p:dX (a,b) (c,d)=(0,0):=by simp[dX,j]
  rw[p];refine Dp func358 λC hP hN=>?_;have H:=@Db;exact GS j
 |true=>
  have q:=j;rw[An,bm,bm]at q;have m1:=cT (a:=a) (b:=c) 2147483648 2147483648 (by omega) (by omega) (by omega) (by omega);have m2:=cT (a:=a) (b:=d) 2147483648 2147483648 (by omega) (by omega) (by omega) (by omega);have F:=cT (a:=b) (b:=c) 2147483648 2147483648 (by omega) (by omega) (by omega) (by omega);have G:=cT (a:=b) (b:=d) 2147483648 2147483648 (by omega) (by omega) (by omega) (by omega);have y:i64.wrap (a*c)=a*c:=aa;have z:i64.wrap (a*d)=a*d:=aa;have A:i64.wrap (b*c)=b*c:=aa;have B:i64.wrap (b*d)=b*d:=aa
  have p:dX (a,b) (c,d)=(eQ (min (a*c) (min (a*d) (min (b*c) (b*d)))/65536),eQ (dC (max (a*c) (max (a*d) (max (b*c) (b*d)))) 65536)):=by simp only[dX,j,yAn]
  rw[p];generalize l:a*c=e at *;generalize m:a*d=f at *;generalize n:b*c=g at *;generalize o:b*d=k at *;have D:=Wr (min e (min f (min g k))) (max e (max f (max g k))) (by omega) (by omega);refine Dp func358 λC hP hN=>?_
  with_reducible repeat' (first|refine Sp.h ?_|((first|refine Wd ?_|refine Ss.h ?_|refine Sc.h (Db _ _ _ _) ?_|(refine Sb.h ?_ ?_ ?_<;>(try intro hgd)<;>try exact Xy))<;>simp -implicitDefEqProofs (maxSteps:=2000000) [hP,hN,j,y,z,A,B,l,m,n,o]<;>try refine Ya ?_)|refine X2 ?_ ?_|(refine Xd ?_ ?_<;>intro hcd<;>try exact Xx))
  refine WP.loopN [] 4 (λi st=>st.t 4=.ptr 4 0/\st.h 4=some (.box [.pv (Z 0),.pv (Z 0)] true false)/\st.t 40=.pv (.val (.agg #[.int .i64 e,.int .i64 f,.int .i64 g,.int .i64 k]))/\st.t 41=.pv (Z i)/\
   st.t 6=.pv (Z (if i<=1 then e else if i=2 then min e f else if i=3 then min e (min f g)else min e (min f (min g k))))/\st.t 7=.pv (Z (if i<=1 then e else if i=2 then max e f else if i=3 then max e (max f g)else max e (max f (max g k))))) (by simp) ?_
  rintro i st hi ⟨E,x,r,s,u,v⟩;rcases Ws hi with rfl|rfl|rfl|rfl|rfl
  all_goals (simp at u v)
  all_goals
   exact Gy
def eh(x:Int):Nat->Int
 |0=>1073741824
 |1=>x*6746518852/65536
 |k+2=>eh x (k+1)*(x*6746518852/65536)/1073741824
def ej(x:Int):Nat->Int
 |0=>1073741824
 |1=>dC (x*6746518853) 65536
 |k+2=>dC (ej x (k+1)*dC (x*6746518853) 65536) 1073741824
theorem pc{x:Int}(b:0<=x)(h1:x<=8192):∀k,0<=eh x k/\eh x k<=1073741824
 |0=>by simp[eh]
 |1=>by simp only[eh];omega
 |k+2=>by
  have h:=pc b h1 (k+1)
  have a:0<=x*6746518852/65536/\x*6746518852/65536<=1073741824:=by omega
  simp only[eh];generalize x*6746518852/65536=y at *;have c:=yA3 h.1 a.1;have d:=yCj h.2 a.2 a.1 (by decide:(0:Int)<=1073741824);omega
theorem pd{x:Int}(b:0<=x)(h1:x<=8192):∀k,0<=ej x k/\ej x k<=1073741824
 |0=>by simp[ej]
 |1=>by simp only[ej,dC];omega
 |k+2=>by
  have h:=pd b h1 (k+1)
  have a:0<=dC (x*6746518853) 65536/\dC (x*6746518853) 65536<=1073741824:=by unfold dC;omega
  simp only[ej];generalize dC (x*6746518853) 65536=y at *;have c:=yA3 h.1 a.1;have d:=yCj h.2 a.2 a.1 (by decide:(0:Int)<=1073741824);unfold dC;omega
theorem uA(b:0<=x)(h1:x<=8192)(j:Nat):0<=eh x j*eh x 1/\eh x j*eh x 1<=1152921504606846976:=by
 have h:=pc b h1 j;have a:=pc b h1 1;have c:=yA3 h.1 a.1;have d:=yCj h.2 a.2 a.1 (by decide:(0:Int)<=1073741824);omega
theorem pe(b:0<=x)(h1:x<=8192)(j:Nat):0<=ej x j*ej x 1/\ej x j*ej x 1<=1152921504606846976:=by
 have h:=pd b h1 j;have a:=pd b h1 1;have c:=yA3 h.1 a.1;have d:=yCj h.2 a.2 a.1 (by decide:(0:Int)<=1073741824);omega
def jg(f:Nat->Int)(n:Nat):List AV:=[.pv (Z (if 0<n then f 0 else 0)),.pv (Z (if 1<n then f 1 else 0)),.pv (Z (if 2<n then f 2 else 0)),.pv (Z (if 3<n then f 3 else 0)),.pv (Z (if 4<n then f 4 else 0)),.pv (Z (if 5<n then f 5 else 0)),
 .pv (Z (if 6<n then f 6 else 0)),.pv (Z (if 7<n then f 7 else 0)),.pv (Z (if 8<n then f 8 else 0)),.pv (Z (if 9<n then f 9 else 0)),.pv (Z (if 10<n then f 10 else 0))]
abbrev Fi(f:Nat->Int):PV:=.val (.agg #[.int .i64 (f 0),.int .i64 (f 1),.int .i64 (f 2),.int .i64 (f 3),.int .i64 (f 4),.int .i64 (f 5),.int .i64 (f 6),.int .i64 (f 7),.int .i64 (f 8),.int .i64 (f 9),.int .i64 (f 10)])
@[simp] theorem Z0:i64.wrap 5=5:=by decide
@[simp] theorem Z2:i64.wrap 6=6:=by decide
@[simp] theorem Z3:i64.wrap 7=7:=by decide
@[simp] theorem Z4:i64.wrap 8=8:=by decide
@[simp] theorem Z5:i64.wrap 9=9:=by decide
@[simp] theorem Zl:i64.wrap 10=10:=by decide
@[simp] theorem Zm:i64.wrap 11=11:=by decide
set_option maxRecDepth 4000 in
theorem SD(x:Int)(p:0<=x)(h1:x<=8192):aV 398 (Z x) (.tup [Fi (eh x),Fi (ej x)]):=by
 have y:i64.wrap (x*6746518852)=x*6746518852:=aa;have z:i64.wrap (x*6746518853)=x*6746518853:=aa;have u:aO prog 255 [.pv (Z (x*6746518852)),.pv (Z 16)] [] [] (.pv (Z (eh x 1))):=Sv _;have v:aO prog 327 [.pv (Z (x*6746518853)),.pv (Z 16)] [] [] (.pv (Z (ej x 1))):=Su _ (by omega) (by omega);have m1:∀j,i64.wrap (eh x j*eh x 1)=eh x j*eh x 1:=λj=>aa (by have:=uA p h1 j;omega) (by have:=uA p h1 j;omega);have m2:∀j,i64.wrap (ej x j*ej x 1)=ej x j*ej x 1:=λj=>aa (by have:=pe p h1 j;omega) (by have:=pe p h1 j;omega);have k:∀j,aO prog 255 [.pv (Z (eh x (j+1)*eh x 1)),.pv (Z 30)] [] [] (.pv (Z (eh x (j+2)))):=λj=>Wq _;have l:∀j,aO prog 327 [.pv (Z (ej x (j+1)*ej x 1)),.pv (Z 30)] [] [] (.pv (Z (ej x (j+2)))):=λj=>Wp _ (by have:=pe p h1 (j+1);omega) (by have:=pe p h1 (j+1);omega);have r:eh x 0=1073741824:=rfl;have s:ej x 0=1073741824:=rfl;generalize eh x=f at *;generalize ej x=g at *;refine Dp func398 λC hP hN=>?_;refine Gz ?_;refine WP.loopN [] 9 (λi st=>st.t 2=.ptr 2 0/\st.t 3=.ptr 3 0/\st.t 4=.ptr 4 0/\st.t 5=.ptr 5 0/\st.t 6=.pv (Z (i+2:Nat))/\st.h 2=some (.box (jg f 0) true false)/\st.h 3=some (.box (jg f 0) true false)/\st.h 4=some (.box (jg f (i+2)) true false)/\st.h 5=some (.box (jg g (i+2)) true false)) (by simp[jg,r,s]) ?_;rintro i st hi ⟨m,g3,n,o,e,a,b,c,d⟩
 have q:i=0\/i=1\/i=2\/i=3\/i=4\/i=5\/i=6\/i=7\/i=8\/i=9:=by omega
 rcases q with rfl|rfl|rfl|rfl|rfl|rfl|rfl|rfl|rfl|rfl
 all_goals (simp only[jg]at a b c d;simp at e a b c d)
 all_goals skip
 .skip
  with_reducible repeat' (first|refine Sp.h ?_|((first|refine Wd ?_|refine Ss.h ?_|refine Sc.h (k 0) ?_|refine Sc.h (l 0) ?_)<;>simp -implicitDefEqProofs [hP,hN,m,g3,n,o,e,a,b,c,d,m1,m2,jg]<;>try refine Ya ?_))
 .skip
  with_reducible repeat' (first|refine Sp.h ?_|((first|refine Wd ?_|refine Ss.h ?_|refine Sc.h (k 1) ?_|refine Sc.h (l 1) ?_)<;>simp -implicitDefEqProofs [hP,hN,m,g3,n,o,e,a,b,c,d,m1,m2,jg]<;>try refine Ya ?_))
 .skip
  with_reducible repeat' (first|refine Sp.h ?_|((first|refine Wd ?_|refine Ss.h ?_|refine Sc.h (k 2) ?_|refine Sc.h (l 2) ?_)<;>simp -implicitDefEqProofs [hP,hN,m,g3,n,o,e,a,b,c,d,m1,m2,jg]<;>try refine Ya ?_))
 .skip
  with_reducible repeat' (first|refine Sp.h ?_|((first|refine Wd ?_|refine Ss.h ?_|refine Sc.h (k 3) ?_|refine Sc.h (l 3) ?_)<;>simp -implicitDefEqProofs [hP,hN,m,g3,n,o,e,a,b,c,d,m1,m2,jg]<;>try refine Ya ?_))
 .skip
  with_reducible repeat' (first|refine Sp.h ?_|((first|refine Wd ?_|refine Ss.h ?_|refine Sc.h (k 4) ?_|refine Sc.h (l 4) ?_)<;>simp -implicitDefEqProofs [hP,hN,m,g3,n,o,e,a,b,c,d,m1,m2,jg]<;>try refine Ya ?_))
 .skip
  with_reducible repeat' (first|refine Sp.h ?_|((first|refine Wd ?_|refine Ss.h ?_|refine Sc.h (k 5) ?_|refine Sc.h (l 5) ?_)<;>simp -implicitDefEqProofs [hP,hN,m,g3,n,o,e,a,b,c,d,m1,m2,jg]<;>try refine Ya ?_))
 .skip
  with_reducible repeat' (first|refine Sp.h ?_|((first|refine Wd ?_|refine Ss.h ?_|refine Sc.h (k 6) ?_|refine Sc.h (l 6) ?_)<;>simp -implicitDefEqProofs [hP,hN,m,g3,n,o,e,a,b,c,d,m1,m2,jg]<;>try refine Ya ?_))
 .skip
  with_reducible repeat' (first|refine Sp.h ?_|((first|refine Wd ?_|refine Ss.h ?_|refine Sc.h (k 7) ?_|refine Sc.h (l 7) ?_)<;>simp -implicitDefEqProofs [hP,hN,m,g3,n,o,e,a,b,c,d,m1,m2,jg]<;>try refine Ya ?_))
 .skip
  with_reducible repeat' (first|refine Sp.h ?_|((first|refine Wd ?_|refine Ss.h ?_|refine Sc.h (k 8) ?_|refine Sc.h (l 8) ?_)<;>simp -implicitDefEqProofs [hP,hN,m,g3,n,o,e,a,b,c,d,m1,m2,jg]<;>try refine Ya ?_))
 .skip
  exact Gy
def mV(i:Nat):Int:=if i%2=0 then 1 else -1
def ou(xs:List Int):Nat->Int
 |0=>0
 |i+1=>ou xs i+mV i*(xs[i]?).getD 0
def eL(xs:List Int):Int:=ou xs xs.length
theorem IP(i:Nat)(x:Int):(mV i*x=x\/mV i*x=-x):=by unfold mV;split<;>simp
theorem GM(i:Nat):mV (i+1)=-mV i:=by unfold mV;split<;>split<;>omega
theorem vR{xs:List Int}(a:∀x∈xs,-1099511627776<=x/\x<=1099511627776):∀i:Nat,-((i:Int)*1099511627776)<=ou xs i/\ou xs i<=(i:Int)*1099511627776
 |0=>by simp[ou]
 |i+1=>by
  have h:=vR a i
  have c:-1099511627776<=(xs[i]?).getD 0/\(xs[i]?).getD 0<=1099511627776:=by
   cases b:xs[i]? with
   |none=>simp
   |some y=>exact a y (In b)
  have d:=IP i ((xs[i]?).getD 0);simp only[ou];omega
theorem J2(xs:List Int)(l:xs.length<=1000)(c:∀x∈xs,-1099511627776<=x/\x<=1099511627776):aV 399 (zs xs) (Z (eL xs)):=by
 refine Dp func399 λC hP hN=>?_;refine Gz ?_;refine WP.loopN [] xs.length (λi st=>st.t 3=.pv (Z (ou xs i))/\st.t 4=.pv (Z (mV i))/\st.t 7=.pv (zs xs)/\st.t 8=.pv (Z xs.length)/\st.t 9=.pv (Z i)) (by simp[ou,mV]) ?_;rintro i st hi ⟨g3,d,e,f,g⟩;by_cases a:i<xs.length
 .have n:=ai a (by omega)
  have b:xs[i]?=some xs[i]:=an a;have m:=c xs[i] (yAq a);have k:=vR c i;have j:=IP i xs[i];have o:i64.wrap (mV i*xs[i])=mV i*xs[i]:=aa;have p:i64.wrap (ou xs i+mV i*xs[i])=ou xs (i+1):=(aa (by omega) (by omega)).trans (by simp[ou,b])
  have q:i64.wrap (-mV i)=mV (i+1):=by
   rw[GM];unfold mV;split<;>decide
  have r:i64.wrap (0-mV i)=mV (i+1):=by
   rw[GM];unfold mV;split<;>decide
  exact Gy
 .skip
  refine Gz ?_
  all_goals (have:i=xs.length:=by omega
             subst this;rfl)
def av(n d:Int):Int:=(n+d-1)/d
theorem vS(n d:Int)(hn:0<=n)(b:n<=1099511627776)(hd:1<=d)(a:d<=1099511627776):aL 400 (Z n) (Z d) (Z (av n d)):=by
 have g:i64.wrap (n+d)=n+d:=aa;have i:i64.wrap (n+d-1)=n+d-1:=aa;have hq:(n+d-1).tdiv d=(n+d-1)/d:=yAp (by omega);have e:0<=(n+d-1)/d:=yBV (by omega) (by omega);have f:(n+d-1)/d<=n+d-1:=yCn _ (by omega);have j:i64.wrap ((n+d-1)/d)=(n+d-1)/d:=aa
 have c:d≠0:=by omega
 refine Dp func400 λC hP hN=>?_;refine Gz ?_
 all_goals rfl
def ov(lo hi:Int):Iv:=(max 0 (lo/16384),min 65536 (dC hi 16384))
theorem SE(lo hi:Int)(h1:-4611686018427387904<=hi)(a:hi<=4611686018427387904):aL 401 (Z lo) (Z hi) (aA (ov lo hi)):=by
 refine Dp func401 λC hP hN=>?_;have b:=@Wo;have c:=Wn _ h1 a;refine GT trivial ?_
 all_goals simp[ov]
def m9(f g:Nat->Int):List Int:=[f 1,av (g 3) 6,f 5/120,av (g 7) 5040]
def ly(f g:Nat->Int):List Int:=[g 1,f 3/6,av (g 5) 120,f 7/5040,av (g 9) 362880]
def qj(f g:Nat->Int):List Int:=[1073741824,av (g 2) 2,f 4/24,av (g 6) 720,f 8/40320,av (g 10) 3628800]
def ow(f g:Nat->Int):List Int:=[1073741824,f 2/2,av (g 4) 24,f 6/720,av (g 8) 40320]
def qP(x:Int):Iv:=ov (eL (m9 (eh x) (ej x))) (eL (ly (eh x) (ej x)))
def vT(x:Int):Iv:=ov (eL (qj (eh x) (ej x))) (eL (ow (eh x) (ej x)))
theorem ey{n:Int}(e:0<=n)(h1:n<=1073741824)(hd:1<=d)(a:d<=4000000):0<=av n d/\av n d<=1099511627776:=by
 unfold av;have b:0<=(n+d-1)/d:=yBV (by omega) (by omega);have c:(n+d-1)/d<=n+d-1:=yCn _ (by omega);omega
theorem GN(hf:∀j,0<=f j/\f j<=1073741824)(j:Nat)(d:Int):(f j).tdiv d=f j/d:=yAp (hf j).1
theorem rV(hf:∀j,0<=f j/\f j<=1073741824)(j:Nat)(hd:0<d):0<=f j/d/\f j/d<=1073741824:=by
 have h:=hf j;have a:0<=f j/d:=yBV (by omega) (by omega);have b:f j/d<=f j:=yCn _ (by omega);omega
theorem GO(hf:∀j,0<=f j/\f j<=1073741824)(j:Nat)(hd:0<d):i64.wrap (f j/d)=f j/d:=by
 have:=rV hf j hd;exact aa (by omega) (by omega)
theorem WJ(x:Int)(c:0<=x)(h1:x<=8192):aV 396 (Z x) (aA (qP x)):=by
 have q:=SD x c h1;have hf:=pc c h1;have a:=pd c h1;show aO _ _ _ _ _ (.pv (aA (ov (eL (m9 (eh x) (ej x))) (eL (ly (eh x) (ej x))))));generalize eh x=f at *;generalize ej x=g at *
 have i:∀y∈m9 f g,-1099511627776<=y/\y<=1099511627776:=by
  intro y b;have a1:=hf 1;have a2:=ey (d:=6) (a 3).1 (a 3).2 (by decide) (by decide);have a3:=rV hf 5 (d:=120) (by decide);have a4:=ey (d:=5040) (a 7).1 (a 7).2 (by decide) (by decide);simp only[m9,yAv,yAB,yAZ]at b;rcases b with rfl|rfl|rfl|rfl<;>omega
 have e:∀y∈ly f g,-1099511627776<=y/\y<=1099511627776:=by
  intro y b;have a1:=a 1;have a2:=ey (d:=120) (a 5).1 (a 5).2 (by decide) (by decide);have a3:=rV hf 3 (d:=6) (by decide);have a4:=ey (d:=362880) (a 9).1 (a 9).2 (by decide) (by decide);have a5:=rV hf 7 (d:=5040) (by decide);simp only[ly,yAv,yAB,yAZ]at b;rcases b with rfl|rfl|rfl|rfl|rfl<;>omega
 have b2:=vR e 5;have b3:-(((5:Nat):Int)*1099511627776)<=eL (ly f g)/\eL (ly f g)<=((5:Nat):Int)*1099511627776:=b2;have n:aO prog 399 [.pv (.sl [Z (f 1),Z (av (g 3) 6),Z (f 5/120),Z (av (g 7) 5040)])] [] [] (.pv (Z (eL (m9 f g)))):=J2 (m9 f g) (by simp[m9]) i;have o:aO prog 399 [.pv (.sl [Z (g 1),Z (f 3/6),Z (av (g 5) 120),Z (f 7/5040),Z (av (g 9) 362880)])] [] [] (.pv (Z (eL (ly f g)))):=J2 (ly f g) (by simp[ly]) e;have j:=vS (g 3) 6 (a 3).1 (by have:=a 3;omega) (by decide) (by decide);have l:=vS (g 7) 5040 (a 7).1 (by have:=a 7;omega) (by decide) (by decide);have k:=vS (g 5) 120 (a 5).1 (by have:=a 5;omega) (by decide) (by decide);have m:=vS (g 9) 362880 (a 9).1 (by have:=a 9;omega) (by decide) (by decide);have p:=SE (eL (m9 f g)) (eL (ly f g)) (by omega) (by omega);generalize eL (m9 f g)=lo at *;generalize eL (ly f g)=hi at *;have t1:=GN hf 5 120;have t2:=GN hf 3 6;have t3:=GN hf 7 5040;have r:=GO hf 5 (d:=120) (by decide);have s:=GO hf 3 (d:=6) (by decide);have u:=GO hf 7 (d:=5040) (by decide);refine Dp func396 λC hP hN=>?_;exact Gy
theorem WK(x:Int)(c:0<=x)(h1:x<=8192):aV 397 (Z x) (aA (vT x)):=by
 have q:=SD x c h1;have hf:=pc c h1;have a:=pd c h1;show aO _ _ _ _ _ (.pv (aA (ov (eL (qj (eh x) (ej x))) (eL (ow (eh x) (ej x))))));generalize eh x=f at *;generalize ej x=g at *
 have j:∀y∈qj f g,-1099511627776<=y/\y<=1099511627776:=by
  intro y b;have a2:=ey (d:=2) (a 2).1 (a 2).2 (by decide) (by decide);have a3:=rV hf 4 (d:=24) (by decide);have a4:=ey (d:=720) (a 6).1 (a 6).2 (by decide) (by decide);have a5:=rV hf 8 (d:=40320) (by decide);have a6:=ey (d:=3628800) (a 10).1 (a 10).2 (by decide) (by decide);simp only[qj,yAv,yAB,yAZ]at b;rcases b with rfl|rfl|rfl|rfl|rfl|rfl<;>omega
 have e:∀y∈ow f g,-1099511627776<=y/\y<=1099511627776:=by
  intro y b;have a2:=ey (d:=24) (a 4).1 (a 4).2 (by decide) (by decide);have a3:=rV hf 2 (d:=2) (by decide);have a4:=ey (d:=40320) (a 8).1 (a 8).2 (by decide) (by decide);have a5:=rV hf 6 (d:=720) (by decide);simp only[ow,yAv,yAB,yAZ]at b;rcases b with rfl|rfl|rfl|rfl|rfl<;>omega
 have b2:=vR e 5;have b3:-(((5:Nat):Int)*1099511627776)<=eL (ow f g)/\eL (ow f g)<=((5:Nat):Int)*1099511627776:=b2;have n:aO prog 399 [.pv (.sl [Z 1073741824,Z (av (g 2) 2),Z (f 4/24),Z (av (g 6) 720),Z (f 8/40320),Z (av (g 10) 3628800)])] [] [] (.pv (Z (eL (qj f g)))):=J2 (qj f g) (by simp[qj]) j;have o:aO prog 399 [.pv (.sl [Z 1073741824,Z (f 2/2),Z (av (g 4) 24),Z (f 6/720),Z (av (g 8) 40320)])] [] [] (.pv (Z (eL (ow f g)))):=J2 (ow f g) (by simp[ow]) e;have k:=vS (g 2) 2 (a 2).1 (by have:=a 2;omega) (by decide) (by decide);have c6:=vS (g 6) 720 (a 6).1 (by have:=a 6;omega) (by decide) (by decide);have i:=vS (g 10) 3628800 (a 10).1 (by have:=a 10;omega) (by decide) (by decide);have l:=vS (g 4) 24 (a 4).1 (by have:=a 4;omega) (by decide) (by decide);have m:=vS (g 8) 40320 (a 8).1 (by have:=a 8;omega) (by decide) (by decide);have p:=SE (eL (qj f g)) (eL (ow f g)) (by omega) (by omega);generalize eL (qj f g)=lo at *;generalize eL (ow f g)=hi at *;have t1:=GN hf 4 24;have t2:=GN hf 8 40320;have t3:=GN hf 2 2;have t4:=GN hf 6 720;have r:=GO hf 4 (d:=24) (by decide);have s:=GO hf 8 (d:=40320) (by decide);have u:=GO hf 2 (d:=2) (by decide);have v:=GO hf 6 (d:=720) (by decide);refine Dp func397 λC hP hN=>?_;exact Gy
def aT(r:Int):Iv:=if r<=8192 then qP r else vT (16384-r)
theorem SF(r:Int)(b:0<=r)(h1:r<=16384):aV 395 (Z r) (aA (aT r)):=by
 have c:i64.wrap (16384-r)=16384-r:=aa;by_cases h:r<=8192
 .have hf:aT r=qP r:=by simp[aT,h]
  have a:=WJ r b h;rw[hf];generalize qP r=y at *;refine Dp func395 λC hP hN=>?_;exact Gy
 .have hf:aT r=vT (16384-r):=by simp[aT,h]
  have a:=WK (16384-r) (by omega) (by omega);rw[hf];generalize vT (16384-r)=y at *;refine Dp func395 λC hP hN=>?_;exact Gy
theorem Ut(a:Int):wK .and .i64 a 65535=a%65536:=by
 unfold wK
 have d:(BitVec.ofInt 64 a &&& BitVec.ofInt 64 65535).toNat=(a%65536).toNat:=by
  rw[BitVec.toNat_and,BitVec.toNat_ofInt,BitVec.toNat_ofInt]
  have c:((65535:Int)%((2^64:Nat):Int)).toNat=2^16-1:=by decide
  rw[c,Nat.and_two_pow_sub_one_eq_mod];have e:0<=a%((2^64:Nat):Int):=yBb _ (by decide);have f:(a%((2^64:Nat):Int))%65536=a%65536:=Int.emod_emod_of_dvd a (by decide);omega
 show i64.wrap ((BitVec.ofInt 64 a &&& BitVec.ofInt 64 65535).toNat:Int)=_;rw[d,IntKind.wrap_i64];have:=yBb a (b:=65536) (by decide);have:=yBd a (b:=65536) (by decide);omega
theorem N3(a:Int):aV 394 (Z a) (Z (a%65536)):=by
 refine Dp func394 λC hP hN=>?_;exact GS @Ut
def nv(m:Int):Iv:=if m/16384=0 then aT (m%16384)else if m/16384=1 then aT (16384-m%16384)else if m/16384=2 then fu (aT (m%16384))else fu (aT (16384-m%16384))
def fc(a:Int):Iv:=nv (a%65536)
theorem SG(a:Int):aV 391 (Z a) (aA (fc a)):=by
 have l:=N3 a;show aO _ _ _ _ _ (.pv (aA (nv (a%65536))));have d:=yBb a (b:=65536) (by decide);have n:=yBd a (b:=65536) (by decide);generalize a%65536=m at *;have t1:m.tmod 16384=m%16384:=yCi d;have t2:m.tdiv 16384=m/16384:=yAp d;have e:i64.wrap (m/16384)=m/16384:=aa;have f:i64.wrap (m%16384)=m%16384:=aa;have g:i64.wrap (16384-m%16384)=16384-m%16384:=aa;have j:=SF (m%16384) (by omega) (by omega);have k:=SF (16384-m%16384) (by omega) (by omega)
 have key:m/16384=0\/m/16384=1\/m/16384=2\/m/16384=3:=by omega
 rcases key with c|c|c|c
 .have hf:nv m=aT (m%16384):=by simp[nv,c]
  rw[hf];generalize aT (m%16384)=y at *;refine Dp func391 λC hP hN=>?_;exact Gy
 .have hf:nv m=aT (16384-m%16384):=by simp[nv,c]
  rw[hf];generalize aT (16384-m%16384)=y at *;refine Dp func391 λC hP hN=>?_;exact Gy
 .have hf:nv m=fu (aT (m%16384)):=by simp[nv,c]
  rw[hf];generalize aT (m%16384)=y at *;refine Dp func391 λC hP hN=>?_;have i:=@NQ;exact GS (so t1 t2 e f g c)
 .have hf:nv m=fu (aT (16384-m%16384)):=by simp[nv,c]
  rw[hf];generalize aT (16384-m%16384)=y at *;refine Dp func391 λC hP hN=>?_;have i:=@NQ;exact GS (so t1 t2 e f g c)
def rW(a:Int):Iv:=fc (a%65536+16384)
theorem WL(a:Int):aV 390 (Z a) (aA (rW a)):=by
 have c:=N3 a;show aO _ _ _ _ _ (.pv (aA (fc (a%65536+16384))));have e:=yBb a (b:=65536) (by decide);have f:=yBd a (b:=65536) (by decide);generalize a%65536=m at *;have g:i64.wrap (m+16384)=m+16384:=aa;have d:=SG (m+16384);generalize fc (m+16384)=y at *;refine Dp func390 λC hP hN=>?_;exact Gy
def en(a:Iv)(t:Int):Bool:=al a.1 a.2&&decide (a.1<=a.1+(t-a.1)%65536)&&decide (a.1+(t-a.1)%65536<=a.2)
theorem SI(t:Int)(h1:-2147483648<=a)(f:a<=2147483648)(g:-2147483648<=t)(i:t<=2147483648):aL 393 (I a b) (Z t) (B (en (a,b) t)):=by
 have c:i64.wrap (t-a)=t-a:=aa;have k:=yBb (t-a) (b:=65536) (by decide);have l:=yBd (t-a) (b:=65536) (by decide);have d:i64.wrap (a+(t-a)%65536)=a+(t-a)%65536:=aa;have e:=N3 (t-a);refine Dp func393 λC hP hN=>?_;have j:=@RG;refine GT (gA c d) ?_
 all_goals (try simp[en])
def eU(a:Iv)(v:Int->Iv)(t b:Int):Iv:=if al a.1 a.2=false then(0,0)else if 65536<=a.2-a.1 then(-65536,65536)else
 let h:=bV (v a.1) (v a.2)
 let c:=if en a t then bV h (iW 65536)else h
 if en a b then bV c (iW (-65536))else c
theorem SJ(f:FuncId)(v:Int->Iv)(t u:Int)(hf:∀x,aO prog f [.pv (Z x)] [] [] (.pv (aA (v x))))(s:-2147483648<=t)(j:t<=2147483648)(y:-2147483648<=u)(k:u<=2147483648):yn 389 (I a b) (Fv f) (Z t) (Z u) (aA (eU (a,b) v t u)):=by
 cases c:al a b with
 |false=>
  have d:eU (a,b) v t u=(0,0):=by simp[eU,c]
  rw[d];refine Dp func389 λC hP hN=>?_;have m:=@jI;exact GS c
 |true=>
  have z:=bm.1 c;have n:i64.wrap (b-a)=b-a:=aa;have o:=SI (a:=a) (b:=b) t (by omega) (by omega) s j;have p:=SI (a:=a) (b:=b) u (by omega) (by omega) y k;have B:aO prog 340 [.pv (Z 65536)] [] [] (.pv (I 65536 65536)):=Dk 65536;have D:aO prog 340 [.pv (Z (-65536))] [] [] (.pv (I (-65536) (-65536))):=Dk (-65536);by_cases e:65536<=b-a
  .have d:eU (a,b) v t u=(-65536,65536):=by simp[eU,c,e]
   rw[d];refine Dp func389 λC hP hN=>?_;have m:=@jI;have A:=@Av;exact GS (be c n e)
  .have d:eU (a,b) v t u=(let h:=bV (v a) (v b);let l:=if en (a,b) t then bV h (65536,65536)else h;if en (a,b) u then bV l (-65536,-65536)else l):=by
    have q:iW 65536=(65536,65536):=by decide
    have r:iW (-65536)=(-65536,-65536):=by decide
    simp[eU,c,e,q,r]
   rw[d];cases g:en (a,b) t<;>cases i:en (a,b) u<;>rw[g]at o<;>rw[i]at p
   all_goals
    refine Dp func389 λC hP hN=>?_;have m:=@jI;have A:=@Av;have E:=@hf;have F:=@JI;exact GS (be c n e)
    all_goals (try simp)
def pi(a:Iv):Iv:=eU a fc 16384 49152
def pj(a:Iv):Iv:=eU a rW 0 32768
theorem WM:aV 385 (I a b) (aA (pi (a,b))):=by
 have c:=SJ (a:=a) (b:=b) 391 fc 16384 49152 SG (by decide) (by decide) (by decide) (by decide);refine Dp func385 λC hP hN=>?_;refine Gz ?_
 all_goals exact⟨rfl,rfl⟩
theorem WN:aV 384 (I a b) (aA (pj (a,b))):=by
 have c:=SJ (a:=a) (b:=b) 390 rW 0 32768 WL (by decide) (by decide) (by decide) (by decide);refine Dp func384 λC hP hN=>?_;refine Gz ?_
 all_goals exact⟨rfl,rfl⟩
abbrev aq:=Iv×Iv×Iv
abbrev kO:=aq×aq×aq
abbrev jP:=kO×aq
abbrev V6(x0 x1 x2 x3 x4 x5:Int):PV:=.val (.agg #[.int .i64 x0,.int .i64 x1,.int .i64 x2,.int .i64 x3,.int .i64 x4,.int .i64 x5])
abbrev GP(x0 x1 x2 x3 x4 x5 j k l m a b c d e f g i:Int):PV:=.val (.agg #[.int .i64 x0,.int .i64 x1,.int .i64 x2,.int .i64 x3,.int .i64 x4,.int .i64 x5,.int .i64 j,.int .i64 k,.int .i64 l,.int .i64 m,.int .i64 a,.int .i64 b,.int .i64 c,.int .i64 d,.int .i64 e,.int .i64 f,.int .i64 g,.int .i64 i])
abbrev Ae(x0 x1 x2 x3 x4 x5 p q r s a b c d e f g i j k l m n o:Int):PV:=.val (.agg #[.int .i64 x0,.int .i64 x1,.int .i64 x2,.int .i64 x3,.int .i64 x4,.int .i64 x5,.int .i64 p,.int .i64 q,.int .i64 r,.int .i64 s,.int .i64 a,.int .i64 b,.int .i64 c,.int .i64 d,.int .i64 e,.int .i64 f,.int .i64 g,.int .i64 i,.int .i64 j,.int .i64 k,.int .i64 l,.int .i64 m,.int .i64 n,.int .i64 o])
abbrev bL(v:aq):PV:=V6 v.1.1 v.1.2 v.2.1.1 v.2.1.2 v.2.2.1 v.2.2.2
abbrev zh(m:kO):PV:=GP m.1.1.1 m.1.1.2 m.1.2.1.1 m.1.2.1.2 m.1.2.2.1 m.1.2.2.2 m.2.1.1.1 m.2.1.1.2 m.2.1.2.1.1 m.2.1.2.1.2 m.2.1.2.2.1 m.2.1.2.2.2 m.2.2.1.1 m.2.2.1.2 m.2.2.2.1.1 m.2.2.2.1.2 m.2.2.2.2.1 m.2.2.2.2.2
abbrev bO(p:jP):PV:=Ae p.1.1.1.1 p.1.1.1.2 p.1.1.2.1.1 p.1.1.2.1.2 p.1.1.2.2.1 p.1.1.2.2.2 p.1.2.1.1.1 p.1.2.1.1.2 p.1.2.1.2.1.1 p.1.2.1.2.1.2 p.1.2.1.2.2.1 p.1.2.1.2.2.2 p.1.2.2.1.1 p.1.2.2.1.2 p.1.2.2.2.1.1 p.1.2.2.2.1.2 p.1.2.2.2.2.1 p.1.2.2.2.2.2 p.2.1.1 p.2.1.2 p.2.2.1.1 p.2.2.1.2 p.2.2.2.1 p.2.2.2.2
def g3(v:α×α×α):Nat->α
 |0=>v.1
 |1=>v.2.1
 |_=>v.2.2
@[simp] theorem aeP(v:α×α×α):g3 v 0=v.1:=rfl
@[simp] theorem aeQ(v:α×α×α):g3 v 1=v.2.1:=rfl
@[simp] theorem aeR(v:α×α×α):g3 v 2=v.2.2:=rfl
def iX(m v:aq):Nat->Iv
 |0=>(0,0)
 |n+1=>eK (iX m v n) (dX (g3 m n) (g3 v n))
def pm(a b:aq):aq:=(eK a.1 b.1,eK a.2.1 b.2.1,eK a.2.2 b.2.2)
def pX(m:kO)(v:aq):aq:=(iX m.1 v 3,iX m.2.1 v 3,iX m.2.2 v 3)
def vU(x:Int):Int:=min (max x (-65536)) 65536
def AN(x:Iv):Iv:=(vU x.1,vU x.2)
def eM(b:kO)(c:Nat):aq:=(g3 b.1 c,g3 b.2.1 c,g3 b.2.2 c)
def rX(a b:kO)(r c:Nat):Iv:=AN (iX (g3 a r) (eM b c) 3)
def vV(a b:kO):kO:=((rX a b 0 0,rX a b 0 1,rX a b 0 2),(rX a b 1 0,rX a b 1 1,rX a b 1 2),(rX a b 2 0,rX a b 2 1,rX a b 2 2))
def dm(v:Int×Int×Int):aq:=(iW v.1,iW v.2.1,iW v.2.2)
def kP:kO:=(((65536,65536),(0,0),(0,0)),((0,0),(65536,65536),(0,0)),((0,0),(0,0),(65536,65536)))
def aM:aq:=((0,0),(0,0),(0,0))
def eu(b:Int)(a:Iv):kO:=if al a.1 a.2 then
 (if b=0 then(((65536,65536),(0,0),(0,0)),((0,0),pj a,fu (pi a)),((0,0),pi a,pj a))
  else if b=1 then((pj a,(0,0),pi a),((0,0),(65536,65536),(0,0)),(fu (pi a),(0,0),pj a))
  else if b=2 then((pj a,fu (pi a),(0,0)),(pi a,pj a,(0,0)),((0,0),(0,0),(65536,65536)))
  else(aM,aM,aM))else(aM,aM,aM)
def dn(v:aq):jP:=(kP,v)
def gb(b:Int)(a:Iv):jP:=(eu b a,aM)
def mw(a b:jP):jP:=(vV a.1 b.1,pm a.2 (pX a.1 b.2))
def gE(p:jP)(v:aq):aq:=pm p.2 (pX p.1 v)
theorem gx(h:i<=3):i=0\/i=1\/i=2\/i=3:=by omega
def pick(b:Bool)(x:Iv):Iv:=if b then x else(0,0)
@[simp] theorem Zn(x:Iv):pick true x=x:=rfl
@[simp] theorem Zo(x:Iv):pick false x=(0,0):=rfl
def c6(v:aq)(i:Nat):List AV:=[.pv (Z (pick (decide (0<i)) (g3 v 0)).1),.pv (Z (pick (decide (0<i)) (g3 v 0)).2),.pv (Z (pick (decide (1<i)) (g3 v 1)).1),.pv (Z (pick (decide (1<i)) (g3 v 1)).2),.pv (Z (pick (decide (2<i)) (g3 v 2)).1),.pv (Z (pick (decide (2<i)) (g3 v 2)).2)]
theorem N4(x y z:Int):aV 322 (De x y z) (bL (dm (x,y,z))):=by
 have g:=λa=>Dk a;refine Dp func322 λC hP hN=>?_;refine Gz ?_;refine WP.loopN [] 3 (λi st=>st.t 1=.ptr 1 0/\st.t 2=.ptr 2 0/\st.t 3=.ptr 3 0/\st.t 5=.pv (Z i)/\st.h 1=some (.box [.pv (Z x),.pv (Z y),.pv (Z z)] true false)/\st.h 2=some (.box (c6 (dm (x,y,z)) 0) true false)/\st.h 3=some (.box (c6 (dm (x,y,z)) i) true false)) (by simp[c6]) ?_;rintro i st hi ⟨j,k,e,f,b,c,d⟩;rcases gx hi with rfl|rfl|rfl|rfl
 all_goals (simp[c6,dm,iW]at f b c d)
 all_goals
  have l:=@g;exact GS (zAc j k e f b c d @c6.eq_1 @dm.eq_1 @iW.eq_1)
theorem WO:aL 355 (V6 a0 a1 a2 a3 a4 a5) (V6 b0 b1 b2 b3 b4 b5) (bL (pm ((a0,a1),(a2,a3),(a4,a5)) ((b0,b1),(b2,b3),(b4,b5)))):=by
 refine Dp func355 λC hP hN=>?_;refine Gz ?_;refine WP.loopN [] 3 (λi st=>st.t 2=.ptr 2 0/\st.t 3=.ptr 3 0/\st.t 4=.ptr 4 0/\st.t 5=.ptr 5 0/\st.t 7=.pv (Z i)/\st.h 2=some (.box [.pv (Z a0),.pv (Z a1),.pv (Z a2),.pv (Z a3),.pv (Z a4),.pv (Z a5)] true false)/\st.h 3=some (.box [.pv (Z b0),.pv (Z b1),.pv (Z b2),.pv (Z b3),.pv (Z b4),.pv (Z b5)] true false)/\st.h 4=some (.box (c6 aM 0) true false)/\st.h 5=some (.box (c6 (pm ((a0,a1),(a2,a3),(a4,a5)) ((b0,b1),(b2,b3),(b4,b5))) i) true false)) (by simp[c6]) ?_;rintro i st hi ⟨g,e,j,k,f,a,b,c,d⟩;rcases gx hi with rfl|rfl|rfl|rfl
 all_goals (simp[c6,pm]at f a b c d)
 all_goals
  have l:=@Dl;exact GS (zAc g e j k f a b c d (gA @c6.eq_1 @pm.eq_1))
def cI(i:Nat):List AV:=[.pv (Z (if 0<i then 65536 else 0)),.pv (Z (if 0<i then 65536 else 0)),.pv (Z 0),.pv (Z 0),.pv (Z 0),.pv (Z 0),.pv (Z 0),.pv (Z 0),.pv (Z (if 1<i then 65536 else 0)),.pv (Z (if 1<i then 65536 else 0)),.pv (Z 0),.pv (Z 0),.pv (Z 0),.pv (Z 0),.pv (Z 0),.pv (Z 0),.pv (Z (if 2<i then 65536 else 0)),.pv (Z (if 2<i then 65536 else 0))]
theorem WQ:EW 339 (zh kP):=by
 have f:aO prog 340 [.pv (Z 65536)] [] [] (.pv (I 65536 65536)):=Dk 65536;refine Dp func339 λC hP hN=>?_;refine Gz ?_;refine WP.loopN [] 3 (λi st=>st.t 0=.ptr 0 0/\st.t 1=.ptr 1 0/\st.t 3=.pv (Z i)/\st.h 0=some (.box (cI 0) true false)/\st.h 1=some (.box (cI i) true false)) (by simp[cI]) ?_;rintro i st hi ⟨d,e,a,b,c⟩;rcases gx hi with rfl|rfl|rfl|rfl
 all_goals (simp[cI]at a b c)
 all_goals
  exact GS (zAa d e a b c @cI.eq_1 @kP.eq_1)
def rY(m:kO)(v:aq)(i k r:Nat):Iv:=if r<i then iX (g3 m r) v 3 else if r=i then iX (g3 m r) v k else(0,0)
def cA(m:kO)(v:aq)(i k:Nat):List AV:=[.pv (Z (rY m v i k 0).1),.pv (Z (rY m v i k 0).2),.pv (Z (rY m v i k 1).1),.pv (Z (rY m v i k 1).2),.pv (Z (rY m v i k 2).1),.pv (Z (rY m v i k 2).2)]
theorem WR:aL 356 (GP a0 a1 a2 a3 a4 a5 a6 a7 a8 a9 a10 a11 a12 a13 a14 a15 a16 a17) (V6 v0 v1 v2 v3 v4 v5) (bL (pX (((a0,a1),(a2,a3),(a4,a5)),((a6,a7),(a8,a9),(a10,a11)),((a12,a13),(a14,a15),(a16,a17))) ((v0,v1),(v2,v3),(v4,v5)))):=by
 obtain⟨A,r⟩:∃A:kO,A=(((a0,a1),(a2,a3),(a4,a5)),((a6,a7),(a8,a9),(a10,a11)),((a12,a13),(a14,a15),(a16,a17))):=⟨_,rfl⟩;obtain⟨D,s⟩:∃D:aq,D=((v0,v1),(v2,v3),(v4,v5)):=⟨_,rfl⟩;obtain⟨v,e⟩:∃l:List AV,l=[a0,a1,a2,a3,a4,a5,a6,a7,a8,a9,a10,a11,a12,a13,a14,a15,a16,a17].map λx=>.pv (Z x):=⟨_,rfl⟩;simp only[yBa,yCg]at e;rw[<-r,<-s];refine Dp func356 λC hP hN=>?_
 with_reducible repeat' (first|refine Sp.h ?_|((first|refine Wd ?_|refine Ss.h ?_|(refine Sb.h ?_ ?_ ?_<;>(try intro hgd)<;>try exact Xy))<;>simp -implicitDefEqProofs (maxSteps:=2000000) [hP,hN,e]<;>try refine Ya ?_)|refine X2 ?_ ?_|(refine Xd ?_ ?_<;>intro hcd<;>try exact Xx))
 refine WP.loopN [] 3 (λi st=>st.t 2=.ptr 2 0/\st.t 3=.ptr 3 0/\st.t 4=.ptr 4 0/\st.t 5=.ptr 5 0/\st.h 2=some (.box v true false)/\st.h 3=some (.box [.pv (Z v0),.pv (Z v1),.pv (Z v2),.pv (Z v3),.pv (Z v4),.pv (Z v5)] true false)/\st.h 4=some (.box (cA A D 0 0) true false)/\st.t 8=.pv (Z i)/\st.h 5=some (.box (cA A D i 0) true false)) (by simp[cA,rY,iX,e]) ?_;rintro i st hi ⟨n,f,o,p,a,g,b,m,c⟩;rw[e]at a;by_cases u:i=3
 .simp[cA,rY,u]at m b c
  with_reducible repeat' (first|refine Sp.h ?_|((first|refine Wd ?_|refine Ss.h ?_|(refine Sb.h ?_ ?_ ?_<;>(try intro hgd)<;>try exact Xy))<;>simp -implicitDefEqProofs (maxSteps:=2000000) [hP,hN,n,f,o,p,m,a,g,b,c,pX,u]<;>try refine Ya ?_)|refine X2 ?_ ?_|(refine Xd ?_ ?_<;>intro hcd<;>try exact Xx))
 have d:i=0\/i=1\/i=2:=by omega
 rcases d with d|d|d
 all_goals
  with_reducible repeat' (first|refine Sp.h ?_|((first|refine Wd ?_|refine Ss.h ?_|(refine Sb.h ?_ ?_ ?_<;>(try intro hgd)<;>try exact Xy))<;>simp -implicitDefEqProofs (maxSteps:=2000000) [hP,hN,n,f,o,p,m,a,g,b,c,d]<;>try refine Ya ?_)|refine X2 ?_ ?_|(refine Xd ?_ ?_<;>intro hcd<;>try exact Xx))
  refine WP.loopN [] 3 (λk st=>st.t 2=.ptr 2 0/\st.t 3=.ptr 3 0/\st.t 4=.ptr 4 0/\st.t 5=.ptr 5 0/\st.h 2=some (.box v true false)/\st.h 3=some (.box [.pv (Z v0),.pv (Z v1),.pv (Z v2),.pv (Z v3),.pv (Z v4),.pv (Z v5)] true false)/\st.h 4=some (.box (cA A D 0 0) true false)/\st.t 8=.pv (Z i)/\st.t 6=.pv (Z i)/\st.t 11=.pv (Z k)/\st.h 5=some (.box (cA A D i k) true false)) (by simp[cA,rY,iX,e,n,f,o,p,m,a,g,b,c,d]) ?_;clear n f o p m a g b c;rintro k st z ⟨n,f,o,p,a,g,b,m,y,q,c⟩;rw[e]at a;rcases gx z with j|j|j|j
  all_goals
   simp[cA,rY,iX,r,s,d,j]at q b c
   with_reducible repeat' (first|refine Sp.h ?_|((first|refine Wd ?_|refine Ss.h ?_|refine Sc.h (Sw) ?_|refine Sc.h (Dl) ?_|(refine Sb.h ?_ ?_ ?_<;>(try intro hgd)<;>try exact Xy))<;>simp -implicitDefEqProofs (maxSteps:=2000000) [hP,hN,n,f,o,p,y,m,q,a,g,b,c,e,cA,rY,iX,r,s,d,j]<;>try refine Ya ?_)|refine X2 ?_ ?_|(refine Xd ?_ ?_<;>intro hcd<;>try exact Xx))
theorem WT(x:Int):aV 359 (Z x) (Z (vU x)):=by
 refine Dp func359 λC hP hN=>?_
 with_reducible repeat' (first|refine Sp.h ?_|((first|refine Ss.h ?_|(refine Sb.h ?_ ?_ ?_<;>(try intro hgd)<;>try exact Xy))<;>simp -implicitDefEqProofs (maxSteps:=2000000) [hP,hN])|refine X2 ?_ ?_|(refine Xd ?_ ?_<;>intro hcd<;>try exact Xx))
 all_goals (try simp[vU])
def iK(a b:kO)(i k r c:Nat):Iv:=if r<i\/(r=i/\c<k)then rX a b r c else(0,0)
def cC(a b:kO)(i k:Nat):List AV:=[.pv (Z (iK a b i k 0 0).1),.pv (Z (iK a b i k 0 0).2),.pv (Z (iK a b i k 0 1).1),.pv (Z (iK a b i k 0 1).2),.pv (Z (iK a b i k 0 2).1),.pv (Z (iK a b i k 0 2).2),.pv (Z (iK a b i k 1 0).1),.pv (Z (iK a b i k 1 0).2),.pv (Z (iK a b i k 1 1).1),.pv (Z (iK a b i k 1 1).2),.pv (Z (iK a b i k 1 2).1),.pv (Z (iK a b i k 1 2).2),.pv (Z (iK a b i k 2 0).1),.pv (Z (iK a b i k 2 0).2),.pv (Z (iK a b i k 2 1).1),.pv (Z (iK a b i k 2 1).2),.pv (Z (iK a b i k 2 2).1),.pv (Z (iK a b i k 2 2).2)]
def ta(a lb:List AV)(A B:kO)(st:St):Prop:=st.t 2=.ptr 2 0/\st.t 3=.ptr 3 0/\st.t 4=.ptr 4 0/\st.t 5=.ptr 5 0/\st.h 2=some (.box a true false)/\st.h 3=some (.box lb true false)/\st.h 4=some (.box (cC A B 0 0) true false)
theorem WU{b6 O P Q F G H I J K L M:Int}:aL 338 (GP a0 a1 a2 a3 a4 a5 a6 a7 a8 a9 a10 a11 a12 a13 a14 a15 a16 a17) (GP b0 b1 b2 b3 b4 b5 b6 O P Q F G H I J K L M) (zh (vV (((a0,a1),(a2,a3),(a4,a5)),((a6,a7),(a8,a9),(a10,a11)),((a12,a13),(a14,a15),(a16,a17))) (((b0,b1),(b2,b3),(b4,b5)),((b6,O),(P,Q),(F,G)),((H,I),(J,K),(L,M))))):=by
 obtain⟨A,W⟩:∃A:kO,A=(((a0,a1),(a2,a3),(a4,a5)),((a6,a7),(a8,a9),(a10,a11)),((a12,a13),(a14,a15),(a16,a17))):=⟨_,rfl⟩;obtain⟨B,X⟩:∃B:kO,B=(((b0,b1),(b2,b3),(b4,b5)),((b6,O),(P,Q),(F,G)),((H,I),(J,K),(L,M))):=⟨_,rfl⟩;rw[<-W,<-X];obtain⟨S,p⟩:∃l:List AV,l=[a0,a1,a2,a3,a4,a5,a6,a7,a8,a9,a10,a11,a12,a13,a14,a15,a16,a17].map λx=>.pv (Z x):=⟨_,rfl⟩;obtain⟨lb,q⟩:∃l:List AV,l=[b0,b1,b2,b3,b4,b5,b6,O,P,Q,F,G,H,I,J,K,L,M].map λx=>.pv (Z x):=⟨_,rfl⟩;simp only[yBa,yCg]at p q;have hx:∀i k,AN (iX (g3 A i) (eM B k) 3)=rX A B i k:=λ_ _=>rfl;have d1:∀m v n,iX m v (n+1)=eK (iX m v n) (dX (g3 m n) (g3 v n)):=λ_ _ _=>rfl
 have ea:g3 (g3 A 0) 0=(a0,a1)/\g3 (g3 A 0) 1=(a2,a3)/\g3 (g3 A 0) 2=(a4,a5)/\g3 (g3 A 1) 0=(a6,a7)/\g3 (g3 A 1) 1=(a8,a9)/\g3 (g3 A 1) 2=(a10,a11)/\g3 (g3 A 2) 0=(a12,a13)/\g3 (g3 A 2) 1=(a14,a15)/\g3 (g3 A 2) 2=(a16,a17)/\g3 (eM B 0) 0=(b0,b1)/\g3 (eM B 1) 0=(b2,b3)/\g3 (eM B 2) 0=(b4,b5)/\g3 (eM B 0) 1=(b6,O)/\g3 (eM B 1) 1=(P,Q)/\g3 (eM B 2) 1=(F,G)/\g3 (eM B 0) 2=(H,I)/\g3 (eM B 1) 2=(J,K)/\g3 (eM B 2) 2=(L,M):=by
  rw[W,X]
  repeat' (first|rfl|constructor)
 refine Dp func338 λC hP hN=>?_
 with_reducible repeat' (first|refine Sp.h ?_|((first|refine Wd ?_|refine Ss.h ?_|(refine Sb.h ?_ ?_ ?_<;>(try intro hgd)<;>try exact Xy))<;>simp -implicitDefEqProofs (maxSteps:=2000000) [hP,hN,p,q]<;>try refine Ya ?_)|refine X2 ?_ ?_|(refine Xd ?_ ?_<;>intro hcd<;>try exact Xx))
 refine WP.loopN [8] 3 (λi st=>ta S lb A B st/\st.t 10=.pv (Z i)/\st.h 5=some (.box (cC A B i 0) true false)/\st.h 8=none) (by simp[ta,cC,iK,p,q]) ?_;rintro i st hi ⟨⟨z,o,D,E,a,b,c⟩,g,d,r⟩;rw[p]at a;rw[q]at b;by_cases V:i=3
 .simp[cC,iK,V]at g c d
  with_reducible repeat' (first|refine Sp.h ?_|((first|refine Wd ?_|refine Ss.h ?_|(refine Sb.h ?_ ?_ ?_<;>(try intro hgd)<;>try exact Xy))<;>simp -implicitDefEqProofs (maxSteps:=2000000) [hP,hN,z,o,D,E,g,a,b,c,d,r,vV,V]<;>try refine Ya ?_)|refine X2 ?_ ?_|(refine Xd ?_ ?_<;>intro hcd<;>try exact Xx))
 have f:i=0\/i=1\/i=2:=by omega
 rcases f with f|f|f
 all_goals
  with_reducible repeat' (first|refine Sp.h ?_|((first|refine Wd ?_|refine Ss.h ?_|(refine Sb.h ?_ ?_ ?_<;>(try intro hgd)<;>try exact Xy))<;>simp -implicitDefEqProofs (maxSteps:=2000000) [hP,hN,z,o,D,E,g,a,b,c,d,r,f]<;>try refine Ya ?_)|refine X2 ?_ ?_|(refine Xd ?_ ?_<;>intro hcd<;>try exact Xx))
  refine WP.loopN [8] 3 (λk st=>ta S lb A B st/\st.t 10=.pv (Z i)/\st.t 6=.pv (Z i)/\st.t 13=.pv (Z k)/\st.h 5=some (.box (cC A B i k) true false)/\st.h 8=none) (by simp[ta,cC,iK,p,q,z,o,D,E,g,a,b,c,d,f]) ?_;clear z o D E g a b c d r;rintro k st hk ⟨⟨z,o,D,E,a,b,c⟩,g,N,u,d,r⟩;rw[p]at a;rw[q]at b;by_cases Y:k=3
  .simp[cC,iK,f,Y]at u c d
   with_reducible repeat' (first|refine Sp.h ?_|((first|refine Wd ?_|refine Ss.h ?_|(refine Sb.h ?_ ?_ ?_<;>(try intro hgd)<;>try exact Xy))<;>simp -implicitDefEqProofs (maxSteps:=2000000) [hP,hN,z,o,D,E,N,g,u,a,b,c,d,r,ta,p,q,cC,iK,f,Y]<;>try refine Ya ?_)|refine X2 ?_ ?_|(refine Xd ?_ ?_<;>intro hcd<;>try exact Xx))
  have s:k=0\/k=1\/k=2:=by omega
  rcases s with s|s|s
  all_goals
   with_reducible repeat' (first|refine Sp.h ?_|((first|refine Wd ?_|refine Ss.h ?_|(refine Sb.h ?_ ?_ ?_<;>(try intro hgd)<;>try exact Xy))<;>simp -implicitDefEqProofs (maxSteps:=2000000) [hP,hN,z,o,D,E,N,g,u,a,b,c,d,r,f,s]<;>try refine Ya ?_)|refine X2 ?_ ?_|(refine Xd ?_ ?_<;>intro hcd<;>try exact Xx))
   refine WP.loopN [] 3 (λj st=>ta S lb A B st/\st.t 10=.pv (Z i)/\st.t 6=.pv (Z i)/\st.t 13=.pv (Z k)/\st.t 7=.pv (Z k)/\st.t 16=.pv (Z j)/\st.h 5=some (.box (cC A B i k) true false)/\st.t 8=.ptr 8 0/\st.h 8=some (.box [.pv (Z (iX (g3 A i) (eM B k) j).1),.pv (Z (iX (g3 A i) (eM B k) j).2)] true false)) (by simp[ta,cC,iK,iX,p,q,z,o,D,E,N,g,u,a,b,c,d,f,s]) ?_;clear z o D E N g u a b c d r;rintro j st hj ⟨⟨z,o,D,E,a,b,c⟩,g,N,u,T,R,d,U,r⟩;rw[p]at a;rw[q]at b;by_cases j3:j=3
   .subst j3
    have e:=hx i k;generalize iX (g3 A i) (eM B k) 3=cu at *;simp[cC,iK,f,s]at c d e
    with_reducible repeat' (first|refine Sp.h ?_|((first|refine Wd ?_|refine Ss.h ?_|refine Sc.h (WT _) ?_|(refine Sb.h ?_ ?_ ?_<;>(try intro hgd)<;>try exact Xy))<;>simp -implicitDefEqProofs (maxSteps:=2000000) [hP,hN,z,o,D,E,N,T,U,g,u,R,a,b,c,d,r,ta,p,q,cC,iK,<-e,AN,f,s]<;>try refine Ya ?_)|refine X2 ?_ ?_|(refine Xd ?_ ?_<;>intro hcd<;>try exact Xx))
   have y:j=0\/j=1\/j=2:=by omega
   have e:=d1 (g3 A i) (eM B k) j;generalize iX (g3 A i) (eM B k) (j+1)=nx at *;generalize iX (g3 A i) (eM B k) j=cu at *;rcases y with y|y|y
   all_goals
    simp only[f,s,y,ea]at e
    with_reducible repeat' (first|refine Sp.h ?_|((first|refine Wd ?_|refine Ss.h ?_|refine Sc.h (Sw) ?_|refine Sc.h (Dl) ?_|(refine Sb.h ?_ ?_ ?_<;>(try intro hgd)<;>try exact Xy))<;>simp -implicitDefEqProofs (maxSteps:=2000000) [hP,hN,z,o,D,E,N,T,U,g,u,R,a,b,c,d,r,e,f,s,y,ta,p,q,cC,iK]<;>try refine Ya ?_)|refine X2 ?_ ?_|(refine Xd ?_ ?_<;>intro hcd<;>try exact Xx))
@[simp] theorem Z6:i64.wrap 0=0:=by decide
theorem WV(x:Int):aL 381 (Z x) (I a b) (zh (eu x (a,b))):=by
 have m:aO prog 340 [.pv (Z 65536)] [] [] (.pv (I 65536 65536)):=Dk 65536;have n:aO prog 340 [.pv (Z 0)] [] [] (.pv (I 0 0)):=Dk 0
 cases c:al a b with
 |false=>
  have d:eu x (a,b)=(aM,aM,aM):=by simp[eu,c]
  rw[d];refine Dp func381 λC hP hN=>?_
  with_reducible repeat' (first|refine Sp.h ?_|((first|refine Ss.h ?_|refine Sc.h (jI _ _) ?_)<;>simp -implicitDefEqProofs [hP,hN,c,aM]))
 |true=>
  have l:=WM (a:=a) (b:=b);have cc:=WN (a:=a) (b:=b);generalize hS:pi (a,b)=S at *;generalize e:pj (a,b)=Q at *;have k:=NQ (a:=S.1) (b:=S.2);by_cases f:x=0
  .have d:eu x (a,b)=(((65536,65536),(0,0),(0,0)),((0,0),Q,fu S),((0,0),S,Q)):=by simp[eu,c,f,hS,e]
   rw[d];subst f;refine Dp func381 λC hP hN=>?_;have j:=@jI;exact GS c
  by_cases g:x=1
  .have d:eu x (a,b)=((Q,(0,0),S),((0,0),(65536,65536),(0,0)),(fu S,(0,0),Q)):=by simp[eu,c,g,hS,e]
   rw[d];subst g;refine Dp func381 λC hP hN=>?_;have j:=@jI;exact GS c
  by_cases i:x=2
  .have d:eu x (a,b)=((Q,fu S,(0,0)),(S,Q,(0,0)),((0,0),(0,0),(65536,65536))):=by simp[eu,c,i,hS,e]
   rw[d];subst i;refine Dp func381 λC hP hN=>?_;have j:=@jI;exact GS c
  .have d:eu x (a,b)=(aM,aM,aM):=by simp[eu,c,f,g,i]
   rw[d];refine Dp func381 λC hP hN=>?_
   with_reducible repeat' (first|refine Sp.h ?_|((first|refine Wd ?_|refine Ss.h ?_|refine Sc.h (jI _ _) ?_|refine Sc.h (l) ?_|refine Sc.h (cc) ?_|refine Sc.h (k) ?_|refine Sc.h (m) ?_|refine Sc.h (n) ?_|(refine Sb.h ?_ ?_ ?_<;>(try intro hgd)<;>try exact Xy))<;>simp -implicitDefEqProofs [hP,hN,c,f,g,i,aM]<;>try refine Ya ?_)|refine X2 ?_ ?_|(refine Xd ?_ ?_<;>intro hcd<;>try exact Xx))
theorem SK:EW 319 (bL aM):=by
 have a:aO prog 322 [.pv (De 0 0 0)] [] [] (.pv (bL aM)):=N4 0 0 0;refine Dp func319 λC hP hN=>?_;exact Gy
theorem GQ:aV 318 (V6 v0 v1 v2 v3 v4 v5) (bO (dn ((v0,v1),(v2,v3),(v4,v5)))):=by
 refine Dp func318 λC hP hN=>?_;have a:=@WQ;refine GT trivial ?_
 all_goals (try simp[dn])
def fO:jP:=(kP,aM)
theorem N5:EW 274 (bO fO):=by
 have a:aO prog 318 [.pv (bL aM)] [] [] (.pv (bO fO)):=GQ;refine Dp func274 λC hP hN=>?_;have b:=@SK;exact GS trivial
theorem WW(x:Int):aL 369 (Z x) (I a b) (bO (gb x (a,b))):=by
 have d:=WV (a:=a) (b:=b) x;have c:gb x (a,b)=(eu x (a,b),aM):=rfl;rw[c];generalize eu x (a,b)=m at *;refine Dp func369 λC hP hN=>?_;have e:=@SK;exact GS trivial
abbrev WX(p:PV):PV:=.fn (.func 354) [] [.rptr p 0]
theorem SL:aV 337 (Ae a0 a1 a2 a3 a4 a5 a6 a7 a8 a9 a10 a11 a12 a13 a14 a15 a16 a17 a18 a19 a20 a21 a22 a23) (WX (Ae a0 a1 a2 a3 a4 a5 a6 a7 a8 a9 a10 a11 a12 a13 a14 a15 a16 a17 a18 a19 a20 a21 a22 a23)):=by
 refine Dp func337 λC hP hN=>?_;exact Gy
theorem SM:aL 354 (V6 v0 v1 v2 v3 v4 v5) (.rptr (Ae a0 a1 a2 a3 a4 a5 a6 a7 a8 a9 a10 a11 a12 a13 a14 a15 a16 a17 a18 a19 a20 a21 a22 a23) 0) (bL (gE ((((a0,a1),(a2,a3),(a4,a5)),((a6,a7),(a8,a9),(a10,a11)),((a12,a13),(a14,a15),(a16,a17))),((a18,a19),(a20,a21),(a22,a23))) ((v0,v1),(v2,v3),(v4,v5)))):=by
 refine Dp func354 λC hP hN=>?_;have a:=@WR;have b:=@WO;refine GT trivial ?_
 all_goals (try simp[gE])
theorem WY:aL 321 (Ae a0 a1 a2 a3 a4 a5 a6 a7 a8 a9 a10 a11 a12 a13 a14 a15 a16 a17 a18 a19 a20 a21 a22 a23) (V6 v0 v1 v2 v3 v4 v5) (bL (gE ((((a0,a1),(a2,a3),(a4,a5)),((a6,a7),(a8,a9),(a10,a11)),((a12,a13),(a14,a15),(a16,a17))),((a18,a19),(a20,a21),(a22,a23))) ((v0,v1),(v2,v3),(v4,v5)))):=by
 refine Dp func321 λC hP hN=>?_;have a:=@SL;have b:=@SM;exact GS trivial
theorem xL{b6 p q r a b c d e f g i j k l m n o:Int}:aL 317 (Ae a0 a1 a2 a3 a4 a5 a6 a7 a8 a9 a10 a11 a12 a13 a14 a15 a16 a17 a18 a19 a20 a21 a22 a23) (Ae b0 b1 b2 b3 b4 b5 b6 p q r a b c d e f g i j k l m n o) (bO (mw ((((a0,a1),(a2,a3),(a4,a5)),((a6,a7),(a8,a9),(a10,a11)),((a12,a13),(a14,a15),(a16,a17))),((a18,a19),(a20,a21),(a22,a23))) ((((b0,b1),(b2,b3),(b4,b5)),((b6,p),(q,r),(a,b)),((c,d),(e,f),(g,i))),((j,k),(l,m),(n,o))))):=by
 refine Dp func317 λC hP hN=>?_;have s:=@SL;have u:=@SM;have v:=@WU;refine GT trivial ?_
 all_goals (try simp[mw,gE])
theorem N6(x:Int):aL 351 (Z x) (I a b) (bO (gb x (a,b))):=by
 have c:=WW (a:=a) (b:=b) x;generalize gb x (a,b)=m at *;refine Dp func351 λC hP hN=>?_;exact Gy
theorem WZ(x:Int):aL 353 (Z x) (I a b) (bO fO):=by
 refine Dp func353 λC hP hN=>?_;have c:=@N5;exact GS trivial
theorem W3:aL 352 (Z 0) (I a b) (bO (dn ((a,b),(0,0),(0,0)))):=by
 have c:=GQ (v0:=((a,b),(0,0),(0,0)).1.1) (v1:=((a,b),(0,0),(0,0)).1.2) (v2:=((a,b),(0,0),(0,0)).2.1.1) (v3:=((a,b),(0,0),(0,0)).2.1.2) (v4:=((a,b),(0,0),(0,0)).2.2.1) (v5:=((a,b),(0,0),(0,0)).2.2.2);refine Dp func352 λC hP hN=>?_;exact Gy
theorem W4:aL 352 (Z 1) (I a b) (bO (dn ((0,0),(a,b),(0,0)))):=by
 have c:=GQ (v0:=((0,0),(a,b),(0,0)).1.1) (v1:=((0,0),(a,b),(0,0)).1.2) (v2:=((0,0),(a,b),(0,0)).2.1.1) (v3:=((0,0),(a,b),(0,0)).2.1.2) (v4:=((0,0),(a,b),(0,0)).2.2.1) (v5:=((0,0),(a,b),(0,0)).2.2.2);refine Dp func352 λC hP hN=>?_;exact Gy
theorem W5:aL 352 (Z 2) (I a b) (bO (dn ((0,0),(0,0),(a,b)))):=by
 have c:=GQ (v0:=((0,0),(0,0),(a,b)).1.1) (v1:=((0,0),(0,0),(a,b)).1.2) (v2:=((0,0),(0,0),(a,b)).2.1.1) (v3:=((0,0),(0,0),(a,b)).2.1.2) (v4:=((0,0),(0,0),(a,b)).2.2.1) (v5:=((0,0),(0,0),(a,b)).2.2.2);refine Dp func352 λC hP hN=>?_;exact Gy
abbrev GR(f:FuncId)(k:Int):Value:=.func (.func f) #[.int .i64 k] #[]
@[simp] theorem W6:tZ prog 380 0=some (false,0,1):=by kernel_rfl
theorem W7:aV 336 (Z 0) (.val (.agg #[GR 353 0])):=by
 refine Dp func336 λC hP hN=>?_;exact Gy
theorem W8:aV 336 (Z 1) (.val (.agg #[GR 351 0])):=by
 refine Dp func336 λC hP hN=>?_;exact Gy
theorem W9:aV 336 (Z 2) (.val (.agg #[GR 351 1])):=by
 refine Dp func336 λC hP hN=>?_;exact Gy
theorem Xa:aV 336 (Z 3) (.val (.agg #[GR 351 2])):=by
 refine Dp func336 λC hP hN=>?_;exact Gy
theorem Xb:aV 336 (Z 4) (.val (.agg #[GR 352 0])):=by
 refine Dp func336 λC hP hN=>?_;exact Gy
theorem Xc:aV 336 (Z 5) (.val (.agg #[GR 352 1])):=by
 refine Dp func336 λC hP hN=>?_;exact Gy
theorem Xe:aV 336 (Z 6) (.val (.agg #[GR 352 2])):=by
 refine Dp func336 λC hP hN=>?_;exact Gy
def eV(k:Int)(v:Iv):jP:=if k=1 then gb 0 v else if k=2 then gb 1 v else if k=3 then gb 2 v else if k=4 then dn (v,(0,0),(0,0))else if k=5 then dn ((0,0),v,(0,0))else if k=6 then dn ((0,0),(0,0),v)else fO
def kQ(j:J)(v:Iv):jP:=mw (dn (dm (j.ox,j.oy,j.oz))) (eV j.kind v)
theorem Xf(j:J)(m:0<=j.kind)(n:j.kind<=6):aL 316 (bj j) (I a b) (bO (kQ j (a,b))):=by
 have l:=N4 j.ox j.oy j.oz;have k:kQ j (a,b)=mw (dn (dm (j.ox,j.oy,j.oz))) (eV j.kind (a,b)):=rfl;rw[k];generalize dm (j.ox,j.oy,j.oz)=pv at *;have i:=GQ (v0:=pv.1.1) (v1:=pv.1.2) (v2:=pv.2.1.1) (v3:=pv.2.1.2) (v4:=pv.2.2.1) (v5:=pv.2.2.2);have i:aO prog 318 [.pv (bL pv)] [] [] (.pv (bO (dn pv))):=i;generalize dn pv=sp at *
 have key:j.kind=0\/j.kind=1\/j.kind=2\/j.kind=3\/j.kind=4\/j.kind=5\/j.kind=6:=by omega
 rcases key with c|c|c|c|c|c|c
 .have d:eV j.kind (a,b)=fO:=by simp[eV,c]
  have e:=WZ (a:=a) (b:=b) 0;have f:=W7;rw[d];generalize fO=mp at *;refine Dp func316 λC hP hN=>?_;have g:=@xL;exact GS c
 .have d:eV j.kind (a,b)=gb 0 (a,b):=by simp[eV,c]
  have e:=N6 (a:=a) (b:=b) 0;have f:=W8;rw[d];generalize gb 0 (a,b)=mp at *;refine Dp func316 λC hP hN=>?_;have g:=@xL;exact GS c
 .have d:eV j.kind (a,b)=gb 1 (a,b):=by simp[eV,c]
  have e:=N6 (a:=a) (b:=b) 1;have f:=W9;rw[d];generalize gb 1 (a,b)=mp at *;refine Dp func316 λC hP hN=>?_;have g:=@xL;exact GS c
 .have d:eV j.kind (a,b)=gb 2 (a,b):=by simp[eV,c]
  have e:=N6 (a:=a) (b:=b) 2;have f:=Xa;rw[d];generalize gb 2 (a,b)=mp at *;refine Dp func316 λC hP hN=>?_;have g:=@xL;exact GS c
 .have d:eV j.kind (a,b)=dn ((a,b),(0,0),(0,0)):=by simp[eV,c]
  have e:=W3 (a:=a) (b:=b);have f:=Xb;rw[d];generalize dn ((a,b),(0,0),(0,0))=mp at *;refine Dp func316 λC hP hN=>?_;have g:=@xL;exact GS c
 .have d:eV j.kind (a,b)=dn ((0,0),(a,b),(0,0)):=by simp[eV,c]
  have e:=W4 (a:=a) (b:=b);have f:=Xc;rw[d];generalize dn ((0,0),(a,b),(0,0))=mp at *;refine Dp func316 λC hP hN=>?_;have g:=@xL;exact GS c
 .have d:eV j.kind (a,b)=dn ((0,0),(0,0),(a,b)):=by simp[eV,c]
  have e:=W5 (a:=a) (b:=b);have f:=Xe;rw[d];generalize dn ((0,0),(0,0),(a,b))=mp at *;refine Dp func316 λC hP hN=>?_;have g:=@xL;exact GS c
abbrev Vc:=Int×Int×Int
structure Sh where
 link:Int
 rad:Int
 pts:List Vc
structure Sce where
 js:List J
 ms:List Ms
 shs:List Sh
 sks:List (Int×Int)
variable {l:List Vc}{n v:Vc}
abbrev bU(s:Sh):PV:=.agg [Z s.link,Z s.rad,bA s.pts]
abbrev dZ(s:Sce):PV:=.agg [.sl (s.js.map bj),.sl (s.ms.map bN),.sl (s.shs.map bU),.sl (s.sks.map aA)]
def aG(m:Int)(v:Vc):Bool:=gR v.1 m&&gR v.2.1 m&&gR v.2.2 m
theorem dJ:aG m v=true↔gR v.1 m=true/\gR v.2.1 m=true/\gR v.2.2 m=true:=by
 simp only[aG,An];constructor
 .rintro⟨⟨a,b⟩,c⟩;exact⟨a,b,c⟩
 .rintro⟨a,b,c⟩;exact⟨⟨a,b⟩,c⟩
theorem bM:gR x m=true↔¬x< -m/\¬m<x:=by
 simp only[gR,An,Is];omega
theorem ql(hq:∀k x,k<i->xs[k]?=some x->p x=true)(h:¬i<xs.length):xs.all p=true:=by
 rw[IV];intro x b;obtain⟨k,a⟩:=yAD b;exact hq k x (by have:=(th.1 a).1;omega) a
theorem oA{v:α}(b:xs[i]?=some v)(hq:∀k x,k<i->xs[k]?=some x->p x=true)(hp:p v=true):∀k x,k<i+1->xs[k]?=some x->p x=true:=by
 intro k x c a;by_cases e:k=i
 .subst e;rw[b]at a;injection a with a;subst a;exact hp
 .exact hq k x (by omega) a
def gc(s:Sh):Bool:=decide (1<=s.rad)&&decide (s.rad<=1048576)&&decide (1<=s.pts.length)&&decide (s.pts.length<=8)&&s.pts.all (aG 4194304)
theorem Xg(s:Sh)(X:s.pts.length<=9223372036854775807):aV 320 (bU s) (B (gc s)):=by
 by_cases W:s.rad<1\/1048576<s.rad\/s.pts.length<1\/8<s.pts.length
 .have hf:gc s=false:=by
   cases u:gc s with
   |false=>rfl
   |true=>
    exfalso;unfold gc at u;simp only[An,Is]at u;obtain⟨⟨⟨⟨b1,b2⟩,b3⟩,b4⟩,_⟩:=u;omega
  rw[hf]
  have y:s.rad<1\/1048576<s.rad\/(s.pts.length:Int)<1\/(8:Int)<s.pts.length:=by omega
  rcases y with h|h|h|h
  all_goals
   refine Dp func320 λC hP hN=>?_;exact Gy
 have S:¬s.rad<1:=by omega
 have T:¬1048576<s.rad:=by omega
 have U:¬(s.pts.length:Int)<1:=by omega
 have V:¬(8:Int)<s.pts.length:=by omega
 have N:¬s.pts.length<1:=by omega
 have O:¬8<s.pts.length:=by omega
 have hf:gc s=s.pts.all (aG 4194304):=by
  have J:decide (1<=s.rad)=true:=by simp;omega
  have K:decide (s.rad<=1048576)=true:=by simp;omega
  have L:decide (1<=s.pts.length)=true:=by simp;omega
  have M:decide (s.pts.length<=8)=true:=by simp;omega
  simp only[gc,J,K,L,M,yAs]
 rw[hf];refine Dp func320 λC hP hN=>?_
 cases e:s.pts.all (aG 4194304)with
 |true=>
  refine Gz ?_;refine WP.loopN [4] s.pts.length (λi st=>True/\st.t 28=.pv (bA s.pts)/\st.t 29=.pv (Z s.pts.length)/\st.t 30=.pv (Z i)/\st.h 4=none) (by simp) ?_;rintro i st hi ⟨f,j,l,g,m⟩;by_cases d:i<s.pts.length
  .have r:=ai d (by omega)
   have Q:=dJ.1 (IV.1 e _ (yAq d));obtain⟨D,E,F⟩:=Q;rw[bM]at D E F;generalize n:s.pts[i]=v at *
   have H:s.pts[i]?=some v:=by rw[an d,n]
   refine Gz ?_;refine WP.loopN [] 3 (λk st=>True/\st.t 28=.pv (bA s.pts)/\st.t 29=.pv (Z s.pts.length)/\st.t 30=.pv (Z i)/\st.t 34=.pv (aW v)/\st.t 35=.pv (Z k)) (by simp[f,j,l,g]) ?_;clear f j l g m;rintro k st z ⟨f,j,l,g,gA,q⟩;rcases gx z with rfl|rfl|rfl|rfl
   all_goals
    exact Gy
  .skip
   exact Gy
 |false=>
  refine Gz ?_;refine WP.loopN [4] s.pts.length (λi st=>True/\st.t 28=.pv (bA s.pts)/\st.t 29=.pv (Z s.pts.length)/\st.t 30=.pv (Z i)/\st.h 4=none/\∀k x,k<i->s.pts[k]?=some x->aG 4194304 x=true) (by simp) ?_;rintro i st hi ⟨f,j,l,g,m,hq⟩;by_cases d:i<s.pts.length
  .have r:=ai d (by omega)
   generalize n:s.pts[i]=v at *
   have H:s.pts[i]?=some v:=by rw[an d,n]
   have A:=oA (p:=aG 4194304) H hq;refine Gz ?_;refine WP.loopN [] 3 (λk st=>True/\st.t 28=.pv (bA s.pts)/\st.t 29=.pv (Z s.pts.length)/\st.t 30=.pv (Z i)/\st.t 34=.pv (aW v)/\st.t 35=.pv (Z k)/\(0<k->gR v.1 4194304=true)/\(1<k->gR v.2.1 4194304=true)/\(2<k->gR v.2.2 4194304=true)) (by simp[f,j,l,g]) ?_;clear f j l g m hq;rintro k st z ⟨f,j,l,g,gA,q,G,I,R⟩;rcases gx z with rfl|rfl|rfl|rfl
   .skip
    with_reducible repeat' (first|refine Sp.h ?_|((first|refine Ss.h ?_|(refine Sb.h ?_ ?_ ?_<;>(try intro hgd)<;>try exact Xy))<;>simp -implicitDefEqProofs (maxSteps:=2000000) [hP,hN,f,j,l,g,gA,q,r])|refine X2 ?_ ?_|(refine Xd ?_ ?_<;>intro hcd<;>try exact Xx))
    all_goals (try (rw[bM];simp only[yAh,Is]at hgd hcd;omega))
   .skip
    with_reducible repeat' (first|refine Sp.h ?_|((first|refine Ss.h ?_|(refine Sb.h ?_ ?_ ?_<;>(try intro hgd)<;>try exact Xy))<;>simp -implicitDefEqProofs (maxSteps:=2000000) [hP,hN,f,j,l,g,gA,q,r])|refine X2 ?_ ?_|(refine Xd ?_ ?_<;>intro hcd<;>try exact Xx))
    all_goals (try (exact⟨G (by omega),by rw[bM];simp only[yAh,Is]at hgd hcd;omega⟩))
   .skip
    with_reducible repeat' (first|refine Sp.h ?_|((first|refine Ss.h ?_|(refine Sb.h ?_ ?_ ?_<;>(try intro hgd)<;>try exact Xy))<;>simp -implicitDefEqProofs (maxSteps:=2000000) [hP,hN,f,j,l,g,gA,q,r])|refine X2 ?_ ?_|(refine Xd ?_ ?_<;>intro hcd<;>try exact Xx))
    all_goals (try (exact⟨G (by omega),I (by omega),by rw[bM];simp only[yAh,Is]at hgd hcd;omega⟩))
   .have P:aG 4194304 v=true:=dJ.2 ⟨G (by omega),I (by omega),R (by omega)⟩
    have o:=A P;refine Gz ?_
    all_goals (try exact λk a b c=>o k (a,b,c))
  .have:=ql hq d
   rw[this]at e;cases e
abbrev aU(l:List aq):PV:=.sl (l.map bL)
def de(x:Iv):Bool:=!(decide (x.1< -268435456)||decide (x.2<x.1)||decide (268435456<x.2))
def dj(v:aq):Bool:=de v.1&&de v.2.1&&de v.2.2
def aw(l:List aq):Bool:=decide (1<=l.length)&&decide (l.length<=8)&&l.all dj
theorem eO{x:Iv}:de x=true↔¬x.1< -268435456/\¬x.2<x.1/\¬268435456<x.2:=by
 simp only[de,yAI,yBf,yAh];constructor
 .rintro⟨⟨a,b⟩,c⟩;exact⟨a,b,c⟩
 .rintro⟨a,b,c⟩;exact⟨⟨a,b⟩,c⟩
theorem fY{v:aq}:dj v=true↔de v.1=true/\de v.2.1=true/\de v.2.2=true:=by
 simp only[dj,An];constructor
 .rintro⟨⟨a,b⟩,c⟩;exact⟨a,b,c⟩
 .rintro⟨a,b,c⟩;exact⟨⟨a,b⟩,c⟩
theorem Xh(xs:List aq)(V:xs.length<=9223372036854775807):aV 225 (aU xs) (B (aw xs)):=by
 by_cases U:xs.length<1\/8<xs.length
 .have hf:aw xs=false:=by
   cases z:aw xs with
   |false=>rfl
   |true=>
    exfalso;unfold aw at z;simp only[An,Is]at z;obtain⟨⟨b1,b2⟩,_⟩:=z;omega
  rw[hf]
  have A:(xs.length:Int)<1\/(8:Int)<xs.length:=by omega
  rcases A with h|h
  all_goals
   refine Dp func225 λC hP hN=>?_;exact Gy
 .have S:¬(xs.length:Int)<1:=by omega
  have T:¬(8:Int)<xs.length:=by omega
  have N:¬xs.length<1:=by omega
  have O:¬8<xs.length:=by omega
  have hf:aw xs=xs.all dj:=by
   have L:decide (1<=xs.length)=true:=by simp;omega
   have M:decide (xs.length<=8)=true:=by simp;omega
   simp only[aw,L,M,yAs]
  rw[hf];refine Dp func225 λC hP hN=>?_
  cases l:xs.all dj with
  |true=>
   refine Gz ?_;refine WP.loopN [4,6] xs.length (λi st=>st.t 15=.pv (aU xs)/\st.t 16=.pv (Z xs.length)/\st.t 17=.pv (Z i)/\st.h 4=none/\st.h 6=none) (by simp) ?_;rintro i st hi ⟨n,o,m,q,g⟩;by_cases j:i<xs.length
   .have y:=ai j (by omega)
    have Q:=fY.1 (IV.1 l _ (yAq j));obtain⟨F,G,H⟩:=Q;rw[eO]at F G H;generalize r:xs[i]=v at *
    have J:xs[i]?=some v:=by rw[an j,r]
    refine Gz ?_;refine WP.loopN [6] 3 (λk st=>st.t 15=.pv (aU xs)/\st.t 16=.pv (Z xs.length)/\st.t 17=.pv (Z i)/\st.t 21=.pv (bL v)/\st.t 22=.pv (Z k)/\st.h 6=none) (by simp[n,o,m,g]) ?_;clear n o m q g;rintro k st D ⟨n,o,m,gA,u,g⟩;rcases gx D with rfl|rfl|rfl|rfl
    all_goals
     exact Gy
   .skip
    exact Gy
  |false=>
   refine Gz ?_;refine WP.loopN [4,6] xs.length (λi st=>st.t 15=.pv (aU xs)/\st.t 16=.pv (Z xs.length)/\st.t 17=.pv (Z i)/\st.h 4=none/\st.h 6=none/\∀k x,k<i->xs[k]?=some x->dj x=true) (by simp) ?_;rintro i st hi ⟨n,o,m,q,g,hq⟩;by_cases j:i<xs.length
   .have y:=ai j (by omega)
    generalize r:xs[i]=v at *
    have J:xs[i]?=some v:=by rw[an j,r]
    have E:=oA (p:=dj) J hq;refine Gz ?_;refine WP.loopN [6] 3 (λk st=>st.t 15=.pv (aU xs)/\st.t 16=.pv (Z xs.length)/\st.t 17=.pv (Z i)/\st.t 21=.pv (bL v)/\st.t 22=.pv (Z k)/\st.h 6=none/\(0<k->de v.1=true)/\(1<k->de v.2.1=true)/\(2<k->de v.2.2=true)) (by simp[n,o,m,g]) ?_;clear n o m q hq g;rintro k st D ⟨n,o,m,gA,u,g,I,K,R⟩;rcases gx D with rfl|rfl|rfl|rfl
    .skip
     with_reducible repeat' (first|refine Sp.h ?_|((first|refine Ss.h ?_|(refine Sb.h ?_ ?_ ?_<;>(try intro hgd)<;>try exact Xy))<;>simp -implicitDefEqProofs (maxSteps:=2000000) [hP,hN,n,o,m,gA,u,g,y])|refine X2 ?_ ?_|(refine Xd ?_ ?_<;>intro hcd<;>try exact Xx))
     all_goals (try (rw[eO];simp only[yAh,Is]at *;omega))
    .skip
     with_reducible repeat' (first|refine Sp.h ?_|((first|refine Ss.h ?_|(refine Sb.h ?_ ?_ ?_<;>(try intro hgd)<;>try exact Xy))<;>simp -implicitDefEqProofs (maxSteps:=2000000) [hP,hN,n,o,m,gA,u,g,y])|refine X2 ?_ ?_|(refine Xd ?_ ?_<;>intro hcd<;>try exact Xx))
     all_goals (try (exact⟨I (by omega),by rw[eO];simp only[yAh,Is]at *;omega⟩))
    .skip
     with_reducible repeat' (first|refine Sp.h ?_|((first|refine Ss.h ?_|(refine Sb.h ?_ ?_ ?_<;>(try intro hgd)<;>try exact Xy))<;>simp -implicitDefEqProofs (maxSteps:=2000000) [hP,hN,n,o,m,gA,u,g,y])|refine X2 ?_ ?_|(refine Xd ?_ ?_<;>intro hcd<;>try exact Xx))
     all_goals (try (exact⟨I (by omega),K (by omega),by rw[eO];simp only[yAh,Is]at *;omega⟩))
    .have P:dj v=true:=fY.2 ⟨I (by omega),K (by omega),R (by omega)⟩
     have s:=E P;refine Gz ?_
     all_goals (try exact λk a b c d e f=>s k ((a,b),(c,d),(e,f)))
   .have:=ql hq j
    rw[this]at l;cases l
theorem SN(r:Int):aV 294 (Z r) (B (bw r 0 1048576)):=by
 refine Dp func294 λC hP hN=>?_
 with_reducible repeat' (first|refine Sp.h ?_|((first|refine Ss.h ?_|(refine Sb.h ?_ ?_ ?_<;>(try intro hgd)<;>try exact Xy))<;>simp -implicitDefEqProofs (maxSteps:=2000000) [hP,hN])|refine X2 ?_ ?_|(refine Xd ?_ ?_<;>intro hcd<;>try exact Xx))
 all_goals (first|(simp_all[bw];done)|((try simp_all[bw])<;>(try omega)<;>grind))
def tP(x:Iv):Int:=if al x.1 x.2 then(x.1+x.2)/2 else 0
def my(v:aq):Vc:=(tP v.1,tP v.2.1,tP v.2.2)
def bc(l:List aq):List Vc:=if aw l then l.map my else[]
@[simp] theorem Zp:i64.wrap 16=16:=by decide
@[simp] theorem Zq:i64.wrap 24=24:=by decide
@[simp] theorem Zr:i64.wrap 32=32:=by decide
@[simp] theorem Zs:i64.wrap 40=40:=by decide
@[simp] theorem Zt:i64.wrap 48=48:=by decide
@[simp] theorem Zu:i64.wrap 8=8:=by decide
@[simp] theorem Zv:i64.wrap 56=56:=by decide
@[simp] theorem Z8:IntKind.u64.bits=64:=rfl
def tf(n:Nat):Nat->Nat->Nat
 |0,r=>r
 |k+1,r=>tf n k (if(r+2^k)*(r+2^k)<=n then r+2^k else r)
theorem AO{n:Nat}:∀(k r:Nat),r*r<=n->n<(r+2^k)*(r+2^k)->tf n k r*tf n k r<=n/\n<(tf n k r+1)*(tf n k r+1)
 |0,r,a,b=>⟨a,by simpa[tf]using b⟩
 |k+1,r,a,b=>by
  simp only[tf];split
  .rename_i h
   refine AO k _ h ?_;rw[yBx,<-Nat.two_mul,<-Nat.pow_succ'];exact b
  .rename_i h
   exact AO k r a (by omega)
def fh(n:Nat):Nat:=tf n 32 0
theorem r9{n:Nat}(h:n<18446744073709551616):fh n*fh n<=n/\n<(fh n+1)*(fh n+1):=AO 32 0 (yAT _) (by simpa using h)
theorem LQ{n a b:Nat}(h1:a*a<=n)(c:n<(a+1)*(a+1))(d:b*b<=n)(e:n<(b+1)*(b+1)):a=b:=by
 rcases yBG a b with h|h|h
 .have:=yBk (show a+1<=b from h) (show a+1<=b from h);omega
 .exact h
 .have:=yBk (show b+1<=a from h) (show b+1<=a from h);omega
theorem HX{n:Nat}(hn:n<4611686018427387904):fh n<2147483648:=by
 have h:=(r9 (n:=n) (by omega)).1;rcases Nat.lt_or_ge (fh n) 2147483648 with a|a
 .exact a
 .have:=yBk a a;omega
def pG(n:Nat):Nat:=if fh n*fh n<n then fh n+1 else fh n
def nz(v:Vc):Bool:=!(v.1==0&&v.2.1==0&&v.2.2==0)
def bB(v:Vc):Bool:=aG 16384 v&&nz v
def vY(v:Vc):Vc:=(v.1.tdiv 2,v.2.1.tdiv 2,v.2.2.tdiv 2)
def nc:Nat->Vc->Vc
 |0,v=>v
 |n+1,v=>if aG 16384 v then v else nc n (vY v)
def bT(v:Vc):Vc:=nc 64 v
def gT(b:Int)(v:Vc):Prop:=(-b<=v.1/\v.1<=b)/\(-b<=v.2.1/\v.2.1<=b)/\(-b<=v.2.2/\v.2.2<=b)
theorem J5(h:-(2*b)<=x/\x<=2*b):-b<=x.tdiv 2/\x.tdiv 2<=b:=by
 have c:0<=b:=by omega
 rcases yB3 0 x with a|a
 .rw[yAp a];omega
 .have e:x.tdiv 2=-((-x).tdiv 2):=by rw[Int.neg_tdiv,Int.neg_neg]
  rw[e,yAp (by omega)];omega
theorem Oa(h:gT (2*b) v):gT b (vY v):=⟨J5 h.1,J5 h.2.1,J5 h.2.2⟩
def oK(v:Vc):Nat:=(v.1*v.1+v.2.1*v.2.1+v.2.2*v.2.2).toNat
def eH(v:Vc):Int:=if bB v then(pG (oK v):Int)else 0
def oC(n:Int)(x:Iv):Int:=min (n*x.1) (n*x.2)
def oD(n:Int)(x:Iv):Int:=max (n*x.1) (n*x.2)
def d9(n:Vc)(v:aq):Int:=oC n.1 v.1+oC n.2.1 v.2.1+oC n.2.2 v.2.2
def ed(n:Vc)(v:aq):Int:=oD n.1 v.1+oD n.2.1 v.2.1+oD n.2.2 v.2.2
theorem J6{x:Iv}(h:de x=true):(-268435456<=x.1/\x.1<=268435456)/\(-268435456<=x.2/\x.2<=268435456):=by
 rw[eO]at h;omega
theorem zl(h:gR x 16384=true):-16384<=x/\x<=16384:=by rw[bM]at h;omega
theorem uD{n:Int}{x:Iv}(hn:gR n 16384=true)(c:de x=true):(-4398046511104<=n*x.1/\n*x.1<=4398046511104)/\(-4398046511104<=n*x.2/\n*x.2<=4398046511104)/\(-4398046511104<=oC n x/\oC n x<=4398046511104)/\(-4398046511104<=oD n x/\oD n x<=4398046511104):=by
 have d:=zl hn;have e:=J6 c;have m1:=cT (a:=n) (b:=x.1) 16384 268435456 (by omega) (by omega) (by omega) (by omega);have m2:=cT (a:=n) (b:=x.2) 16384 268435456 (by omega) (by omega) (by omega) (by omega);unfold oC oD;omega
def gu(val:aq->Int)(bet:Int->Int->Bool)(xs:List aq):Nat->Int×Nat
 |0=>(0,0)
 |i+1=>match xs[i]? with
  |some v=>if i=0\/bet (val v) (gu val bet xs i).1=true then(val v,i)else gu val bet xs i
  |none=>gu val bet xs i
def Ob(val:aq->Int)(bet:Int->Int->Bool)(xs:List aq):Int×Nat:=gu val bet xs xs.length
theorem ko{val:aq->Int}{xs:List aq}{v:aq}(h:xs[i]?=some v):gu val bet xs (i+1)=if i=0\/bet (val v) (gu val bet xs i).1=true then(val v,i)else gu val bet xs i:=by simp only[gu,h]
def gf(x y:Int):Bool:=decide (x<y)
def gg(x y:Int):Bool:=decide (y<x)
def iA(n:Vc)(xs:List aq):Int×Nat:=Ob (d9 n) gf xs
def iB(n:Vc)(xs:List aq):Int×Nat:=Ob (ed n) gg xs
theorem eP{xs:List aq}(h:aw xs=true):xs.all dj=true/\xs.length<=8/\1<=xs.length:=by
 simp only[aw,An,Is]at h;exact⟨h.2,h.1.2,h.1.1⟩
def Cl(a:List aq)(r:Int):Bool:=aw a&&decide (0<=r)&&decide (r<=1048576)
theorem AP{val:aq->Int}{bet:Int->Int->Bool}{xs:List aq}{m:Int}(a:0<=m)(h:∀v∈xs,-m<=val v/\val v<=m):∀i,-m<=(gu val bet xs i).1/\(gu val bet xs i).1<=m
 |0=>by simp[gu];omega
 |i+1=>by
  have ih:=AP (val:=val) (bet:=bet) a h i;simp only[gu];split
  .rename_i v b
   split
   .exact h v (In b)
   .exact ih
  .exact ih
theorem zm{v:aq}(hn:aG 16384 n=true)(a:dj v=true):(-13194139533312<=d9 n v/\d9 n v<=13194139533312)/\(-13194139533312<=ed n v/\ed n v<=13194139533312):=by
 rw[dJ]at hn;rw[fY]at a;obtain⟨b,c,d⟩:=hn;obtain⟨v1,v2,v3⟩:=a;have a1:=uD b v1;have a2:=uD c v2;have a3:=uD d v3;unfold d9 ed;omega
theorem LS{xs:List aq}(hn:aG 16384 n=true)(b:xs.all dj=true):-13194139533312<=(iA n xs).1/\(iA n xs).1<=13194139533312:=
 AP (by decide) (λv a=>(zm hn (IV.1 b v a)).1) _
theorem LT{xs:List aq}(hn:aG 16384 n=true)(b:xs.all dj=true):-13194139533312<=(iB n xs).1/\(iB n xs).1<=13194139533312:=
 AP (by decide) (λv a=>(zm hn (IV.1 b v a)).2) _
theorem GW(c:aG 16384 v=true):oK v<=805306368:=by
 rw[dJ,bM,bM,bM]at c;obtain⟨v1,v2,v3⟩:=v;simp only at c;have m1:=cT (a:=v1) (b:=v1) 16384 16384 (by omega) (by omega) (by omega) (by omega);have m2:=cT (a:=v2) (b:=v2) 16384 16384 (by omega) (by omega) (by omega) (by omega);have d:=cT (a:=v3) (b:=v3) 16384 16384 (by omega) (by omega) (by omega) (by omega);show(v1*v1+v2*v2+v3*v3).toNat<=_;omega
theorem AQ(v:Vc):0<=eH v/\eH v<=32768:=by
 unfold eH;split
 .rename_i a
  have b:aG 16384 v=true:=by simp only[bB,An]at a;exact a.1
  have c:=GW b;have d:=(r9 (n:=oK v) (by omega)).1
  have e:fh (oK v)<32768:=by
   rcases Nat.lt_or_ge (fh (oK v)) 32768 with h|h
   .exact h
   .have:=yBk h h;omega
  unfold pG;split<;>omega
 .omega
def mz(n:Vc)(a:List aq)(ra:Int)(b:List aq)(rb:Int):Int:=(iA n a).1-(iB n b).1-eH n*(ra+rb)
def k8(n:Vc)(a:List aq)(ra:Int)(b:List aq)(rb:Int):Bool:=Cl a ra&&Cl b rb&&bB n
def kE(n:Vc)(a:List aq)(ra:Int)(b:List aq)(rb:Int):Bool:=k8 n a ra b rb&&decide (0<mz n a ra b rb)
def bX(w:Int)(s x:Iv):Iv:=(s.1+w*x.1,s.2+w*x.2)
def nd(w:Int)(s x:aq):aq:=(bX w s.1 x.1,bX w s.2.1 x.2.1,bX w s.2.2 x.2.2)
def bo(l:List aq)(ws:List Int):Nat->aq
 |0=>aM
 |i+1=>match l[i]?,ws[i]? with
  |some x,some w=>nd w (bo l ws i) x
  |_,_=>bo l ws i
def aF(ws:List Int):Nat->Int
 |0=>0
 |i+1=>aF ws i+(ws[i]?).getD 0
def wB(w:Int):Bool:=!(decide (w<0)||decide (65536<w))
def dh(l:List aq)(ws:List Int):Bool:=aw l&&decide (ws.length=l.length)&&ws.all wB&& !(decide (aF ws ws.length<1)||decide (65536<aF ws ws.length))
abbrev fo(l:List aq)(ws:List Int):PV:=.tup (if dh l ws then[bL (bo l ws ws.length),Z (aF ws ws.length),B true]else[bL aM,Z 0,B false])
theorem ip{w:Int}{s x:Iv}{m:Nat}(d:0<=w/\w<=65536)(c:de x=true)(hs:(-((m:Int)*17592186044416)<=s.1/\s.1<=(m:Int)*17592186044416)/\(-((m:Int)*17592186044416)<=s.2/\s.2<=(m:Int)*17592186044416)):
 ((-17592186044416<=w*x.1/\w*x.1<=17592186044416)/\(-17592186044416<=w*x.2/\w*x.2<=17592186044416))/\(-(((m+1:Nat):Int)*17592186044416)<=(bX w s x).1/\(bX w s x).1<=((m+1:Nat):Int)*17592186044416)/\(-(((m+1:Nat):Int)*17592186044416)<=(bX w s x).2/\(bX w s x).2<=((m+1:Nat):Int)*17592186044416):=by
 rw[eO]at c;have m1:=cT (a:=w) (b:=x.1) 65536 268435456 (by omega) (by omega) (by omega) (by omega);have m2:=cT (a:=w) (b:=x.2) 65536 268435456 (by omega) (by omega) (by omega) (by omega);simp only[bX];omega
def Dy(m:Nat)(s:Iv):Prop:=(-((m:Int)*17592186044416)<=s.1/\s.1<=(m:Int)*17592186044416)/\(-((m:Int)*17592186044416)<=s.2/\s.2<=(m:Int)*17592186044416)
def sd(m:Nat)(s:aq):Prop:=Dy m s.1/\Dy m s.2.1/\Dy m s.2.2
theorem AR{l:List aq}{ws:List Int}(b:∀v∈l,dj v=true)(h:∀w∈ws,wB w=true):∀i:Nat,sd i (bo l ws i)
 |0=>by simp[bo,sd,Dy,aM]
 |i+1=>by
  have ih:=AR b h i;simp only[bo];split
  .rename_i x w e d
   have a:=b x (In e);have c:=h w (In d);rw[fY]at a;simp only[wB,yAI,yBf,yAh]at c;exact⟨(ip ⟨by omega,by omega⟩ a.1 ih.1).2,(ip ⟨by omega,by omega⟩ a.2.1 ih.2.1).2,(ip ⟨by omega,by omega⟩ a.2.2 ih.2.2).2⟩
  .obtain⟨⟨⟨a1,a2⟩,a3,a4⟩,⟨⟨b1,b2⟩,b3,b4⟩,⟨f,g⟩,j,k⟩:=ih
   refine⟨⟨⟨?_,?_⟩,?_,?_⟩,⟨⟨?_,?_⟩,?_,?_⟩,⟨?_,?_⟩,?_,?_⟩<;>omega
def lA(s x:aq)(w:Int)(k:Nat):List AV:=[.pv (Z (if 0<k then(bX w s.1 x.1).1 else s.1.1)),.pv (Z (if 0<k then(bX w s.1 x.1).2 else s.1.2)),.pv (Z (if 1<k then(bX w s.2.1 x.2.1).1 else s.2.1.1)),.pv (Z (if 1<k then(bX w s.2.1 x.2.1).2 else s.2.1.2)),.pv (Z (if 2<k then(bX w s.2.2 x.2.2).1 else s.2.2.1)),.pv (Z (if 2<k then(bX w s.2.2 x.2.2).2 else s.2.2.2))]
abbrev b6(s:aq):List AV:=[.pv (Z s.1.1),.pv (Z s.1.2),.pv (Z s.2.1.1),.pv (Z s.2.1.2),.pv (Z s.2.2.1),.pv (Z s.2.2.2)]
set_option maxRecDepth 4000 in
theorem SO(l:List aq)(ws:List Int)(hl:l.length<=9223372036854775807)(Y:ws.length<=9223372036854775807):aL 293 (aU l) (zs ws) (fo l ws):=by
 have cp:=Xh l hl;have hc:dh l ws=(aw l&&decide (ws.length=l.length)&&ws.all wB&& !(decide (aF ws ws.length<1)||decide (65536<aF ws ws.length))):=rfl;have z6:bL aM=V6 0 0 0 0 0 0:=rfl
 cases hp:aw l with
 |false=>
  have hf:dh l ws=false:=by rw[hc,hp];simp
  rw[hp]at cp
  have K:fo l ws=.tup [V6 0 0 0 0 0 0,Z 0,B false]:=by unfold fo;rw[hf];rfl
  rw[K];refine Dp func293 λC hP hN=>?_;exact Gy
 |true=>
 rw[hp]at cp;by_cases M:ws.length=l.length
 case neg=>
  have hf:dh l ws=false:=by rw[hc];simp[M]
  have H:((ws.length:Int)!=(l.length:Int))=true:=by simp;omega
  have bq:¬(ws.length:Int)=(l.length:Int):=by omega
  have K:fo l ws=.tup [V6 0 0 0 0 0 0,Z 0,B false]:=by unfold fo;rw[hf];rfl
  rw[K];refine Dp func293 λC hP hN=>?_;exact Gy
 have H:((ws.length:Int)!=(l.length:Int))=false:=by simp[M]
 simp only[aw,An,Is]at hp;obtain⟨⟨a5,a6⟩,V⟩:=hp;have W:=IV.1 V
 have U:dh l ws=(ws.all wB&& !(decide (aF ws ws.length<1)||decide (65536<aF ws ws.length))):=by
  have e1:aw l=true:=by simp only[aw,An,Is];exact⟨⟨a5,a6⟩,V⟩
  rw[hc,e1,yAF M];simp
 clear hc
 cases v:ws.all wB with
 |false=>
  have hf:dh l ws=false:=by rw[U,v];rfl
  have K:fo l ws=.tup [V6 0 0 0 0 0 0,Z 0,B false]:=by unfold fo;rw[hf];rfl
  rw[K];refine Dp func293 λC hP hN=>?_;refine GT H ?_;refine WP.loopN [12] ws.length (λi st=>st.t 0=.pv (aU l)/\st.t 4=.ptr 4 0/\st.h 4=some (.box (b6 aM) true false)/\st.t 7=.ptr 7 0/\st.h 7=some (.box (b6 (bo l ws i)) true false)/\st.t 8=.pv (Z (aF ws i))/\st.t 24=.pv (zs ws)/\st.t 25=.pv (Z ws.length)/\st.t 26=.pv (Z i)/\st.h 12=none/\(∀k x,k<i->ws[k]?=some x->wB x=true)/\sd i (bo l ws i)/\0<=aF ws i/\aF ws i<=(i:Int)*65536) (by simp[bo,aF,aM,sd,Dy]) ?_;rintro i st hi ⟨m,n,f,o,b,q,c,d,e,a,hq,O,a8,bk⟩;by_cases g:i<ws.length
  .have hw:=ai g Y
   generalize D:ws[i]=w at *
   have I:ws[i]?=some w:=by rw[an g,D]
   have y:i<l.length:=by omega
   generalize J:l[i]=x at *
   have P:l[i]?=some x:=by rw[an y,J]
   have a7:=oA (p:=wB) I hq
   cases z:wB w with
   |false=>
    have A:w<0\/65536<w:=by
     simp only[wB,Bool.not_eq_false',yAV,Is]at z;exact z
    rcases A with L|L
    .skip
     exact GS (zAd m n f o b q c d e a g (be I D L))
    .have E:¬w<0:=by omega
     exact GS (zAe m n f o b q c d e a g I D L E)
   |true=>
    have X:=a7 z
    have A:¬w<0/\¬65536<w:=by
     simp only[wB,yAI,yBf,yAh]at z;exact z
    obtain⟨L,E⟩:=A;have u:=W x (In P);rw[fY]at u
    have hS:bo l ws (i+1)=nd w (bo l ws i) x:=by simp only[bo,I,P]
    have Q:aF ws (i+1)=aF ws i+w:=by simp only[aF,I,yAl]
    obtain⟨r1,r2,r3⟩:=O;have a1:=ip (w:=w) (x:=x.1) ⟨by omega,by omega⟩ u.1 r1;have a2:=ip (w:=w) (x:=x.2.1) ⟨by omega,by omega⟩ u.2.1 r2;have a3:=ip (w:=w) (x:=x.2.2) ⟨by omega,by omega⟩ u.2.2 r3;have N:sd (i+1) (nd w (bo l ws i) x):=⟨a1.2,a2.2,a3.2⟩;generalize bo l ws i=S at *;generalize bo l ws (i+1)=S' at *;generalize aF ws i=T at *;generalize aF ws (i+1)=T' at *;subst hS;subst Q;have wT:i64.wrap (T+w)=T+w:=aa;have d1:(bX w S.1 x.1).1=S.1.1+w*x.1.1:=rfl;have d2:(bX w S.1 x.1).2=S.1.2+w*x.1.2:=rfl;have d3:(bX w S.2.1 x.2.1).1=S.2.1.1+w*x.2.1.1:=rfl;have d4:(bX w S.2.1 x.2.1).2=S.2.1.2+w*x.2.1.2:=rfl;have d5:(bX w S.2.2 x.2.2).1=S.2.2.1+w*x.2.2.1:=rfl;have d6:(bX w S.2.2 x.2.2).2=S.2.2.2+w*x.2.2.2:=rfl;have u1:i64.wrap (w*x.1.1)=w*x.1.1:=aa;have u2:i64.wrap (w*x.1.2)=w*x.1.2:=aa;have u3:i64.wrap (w*x.2.1.1)=w*x.2.1.1:=aa;have u4:i64.wrap (w*x.2.1.2)=w*x.2.1.2:=aa;have u5:i64.wrap (w*x.2.2.1)=w*x.2.2.1:=aa;have u6:i64.wrap (w*x.2.2.2)=w*x.2.2.2:=aa;have v1:i64.wrap (S.1.1+w*x.1.1)=(bX w S.1 x.1).1:=(aa (by rw[<-d1];omega) (by rw[<-d1];omega)).trans d1.symm;have v2:i64.wrap (S.1.2+w*x.1.2)=(bX w S.1 x.1).2:=(aa (by rw[<-d2];omega) (by rw[<-d2];omega)).trans d2.symm;have v3:i64.wrap (S.2.1.1+w*x.2.1.1)=(bX w S.2.1 x.2.1).1:=(aa (by rw[<-d3];omega) (by rw[<-d3];omega)).trans d3.symm;have v4:i64.wrap (S.2.1.2+w*x.2.1.2)=(bX w S.2.1 x.2.1).2:=(aa (by rw[<-d4];omega) (by rw[<-d4];omega)).trans d4.symm;have v5:i64.wrap (S.2.2.1+w*x.2.2.1)=(bX w S.2.2 x.2.2).1:=(aa (by rw[<-d5];omega) (by rw[<-d5];omega)).trans d5.symm;have v6:i64.wrap (S.2.2.2+w*x.2.2.2)=(bX w S.2.2 x.2.2).2:=(aa (by rw[<-d6];omega) (by rw[<-d6];omega)).trans d6.symm;have G:b6 (nd w S x)=lA S x w 3:=rfl;have F:b6 S=lA S x w 0:=rfl;rw[F]at b;rw[G];refine GT (zAe m n f o q c d e a g y I D P (it J L E wT b)) ?_;refine WP.loopN [12] 3 (λk st=>st.t 0=.pv (aU l)/\st.t 4=.ptr 4 0/\st.h 4=some (.box (b6 aM) true false)/\st.t 7=.ptr 7 0/\st.h 7=some (.box (lA S x w k) true false)/\st.t 8=.pv (Z (T+w))/\st.t 10=.pv (Z w)/\st.t 24=.pv (zs ws)/\st.t 25=.pv (Z ws.length)/\st.t 26=.pv (Z i)/\st.h 12=none/\st.t 44=.pv (bL x)/\st.t 45=.pv (Z k)) (by simp[m,n,f,o,q,c,d,e,a,b,lA]) ?_;clear m n f o b q c d e a hq;rintro k st hk ⟨m,n,f,o,b,q,r,c,d,e,a,s,j⟩;clear d1 d2 d3 d4 d5 d6 a1 a2 a3 r1 r2 r3;rcases gx hk with rfl|rfl|rfl|rfl
    all_goals (simp[lA]at b j)
    .skip
     exact GS (zAe m n f o q r c d e a s j b u1 (go u2 v1 v2 @lA.eq_1))
    .skip
     exact GS (zAe m n f o q r c d e a s j b u3 (go u4 v3 v4 @lA.eq_1))
    .skip
     exact GS (zAe m n f o q r c d e a s j b u5 (go u6 v5 v6 @lA.eq_1))
    .skip
     refine GT (zAe m n f o q r c d e a s j b hw (gA g @lA.eq_1)) ?_
     all_goals exact⟨X,N,by omega,by omega⟩
  .have:=ql hq g
   rw[this]at v;cases v
 |true=>
  refine Dp func293 λC hP hN=>?_;refine GT H ?_;refine WP.loopN [12] ws.length (λi st=>st.t 0=.pv (aU l)/\st.t 4=.ptr 4 0/\st.h 4=some (.box (b6 aM) true false)/\st.t 7=.ptr 7 0/\st.h 7=some (.box (b6 (bo l ws i)) true false)/\st.t 8=.pv (Z (aF ws i))/\st.t 24=.pv (zs ws)/\st.t 25=.pv (Z ws.length)/\st.t 26=.pv (Z i)/\st.h 12=none/\sd i (bo l ws i)/\0<=aF ws i/\aF ws i<=(i:Int)*65536) (by simp[bo,aF,aM,sd,Dy]) ?_;rintro i st hi ⟨m,n,f,o,b,q,c,d,e,a,O,a8,bk⟩;by_cases g:i<ws.length
  .have hw:=ai g Y
   generalize D:ws[i]=w at *
   have I:ws[i]?=some w:=by rw[an g,D]
   have y:i<l.length:=by omega
   generalize J:l[i]=x at *
   have P:l[i]?=some x:=by rw[an y,J]
   have z:=IV.1 v w (In I)
   have A:¬w<0/\¬65536<w:=by
    simp only[wB,yAI,yBf,yAh]at z;exact z
   obtain⟨L,E⟩:=A;have u:=W x (In P);rw[fY]at u
   have hS:bo l ws (i+1)=nd w (bo l ws i) x:=by simp only[bo,I,P]
   have Q:aF ws (i+1)=aF ws i+w:=by simp only[aF,I,yAl]
   obtain⟨r1,r2,r3⟩:=O;have a1:=ip (w:=w) (x:=x.1) ⟨by omega,by omega⟩ u.1 r1;have a2:=ip (w:=w) (x:=x.2.1) ⟨by omega,by omega⟩ u.2.1 r2;have a3:=ip (w:=w) (x:=x.2.2) ⟨by omega,by omega⟩ u.2.2 r3;have N:sd (i+1) (nd w (bo l ws i) x):=⟨a1.2,a2.2,a3.2⟩;generalize bo l ws i=S at *;generalize bo l ws (i+1)=S' at *;generalize aF ws i=T at *;generalize aF ws (i+1)=T' at *;subst hS;subst Q;have wT:i64.wrap (T+w)=T+w:=aa;have d1:(bX w S.1 x.1).1=S.1.1+w*x.1.1:=rfl;have d2:(bX w S.1 x.1).2=S.1.2+w*x.1.2:=rfl;have d3:(bX w S.2.1 x.2.1).1=S.2.1.1+w*x.2.1.1:=rfl;have d4:(bX w S.2.1 x.2.1).2=S.2.1.2+w*x.2.1.2:=rfl;have d5:(bX w S.2.2 x.2.2).1=S.2.2.1+w*x.2.2.1:=rfl;have d6:(bX w S.2.2 x.2.2).2=S.2.2.2+w*x.2.2.2:=rfl;have u1:i64.wrap (w*x.1.1)=w*x.1.1:=aa;have u2:i64.wrap (w*x.1.2)=w*x.1.2:=aa;have u3:i64.wrap (w*x.2.1.1)=w*x.2.1.1:=aa;have u4:i64.wrap (w*x.2.1.2)=w*x.2.1.2:=aa;have u5:i64.wrap (w*x.2.2.1)=w*x.2.2.1:=aa;have u6:i64.wrap (w*x.2.2.2)=w*x.2.2.2:=aa;have v1:i64.wrap (S.1.1+w*x.1.1)=(bX w S.1 x.1).1:=(aa (by rw[<-d1];omega) (by rw[<-d1];omega)).trans d1.symm;have v2:i64.wrap (S.1.2+w*x.1.2)=(bX w S.1 x.1).2:=(aa (by rw[<-d2];omega) (by rw[<-d2];omega)).trans d2.symm;have v3:i64.wrap (S.2.1.1+w*x.2.1.1)=(bX w S.2.1 x.2.1).1:=(aa (by rw[<-d3];omega) (by rw[<-d3];omega)).trans d3.symm;have v4:i64.wrap (S.2.1.2+w*x.2.1.2)=(bX w S.2.1 x.2.1).2:=(aa (by rw[<-d4];omega) (by rw[<-d4];omega)).trans d4.symm;have v5:i64.wrap (S.2.2.1+w*x.2.2.1)=(bX w S.2.2 x.2.2).1:=(aa (by rw[<-d5];omega) (by rw[<-d5];omega)).trans d5.symm;have v6:i64.wrap (S.2.2.2+w*x.2.2.2)=(bX w S.2.2 x.2.2).2:=(aa (by rw[<-d6];omega) (by rw[<-d6];omega)).trans d6.symm;have G:b6 (nd w S x)=lA S x w 3:=rfl;have F:b6 S=lA S x w 0:=rfl;rw[F]at b;rw[G];refine GT (zAe m n f o q c d e a g y I D P (it J L E wT b)) ?_;refine WP.loopN [12] 3 (λk st=>st.t 0=.pv (aU l)/\st.t 4=.ptr 4 0/\st.h 4=some (.box (b6 aM) true false)/\st.t 7=.ptr 7 0/\st.h 7=some (.box (lA S x w k) true false)/\st.t 8=.pv (Z (T+w))/\st.t 10=.pv (Z w)/\st.t 24=.pv (zs ws)/\st.t 25=.pv (Z ws.length)/\st.t 26=.pv (Z i)/\st.h 12=none/\st.t 44=.pv (bL x)/\st.t 45=.pv (Z k)) (by simp[m,n,f,o,q,c,d,e,a,b,lA]) ?_;clear m n f o b q c d e a;rintro k st hk ⟨m,n,f,o,b,q,r,c,d,e,a,s,j⟩;clear d1 d2 d3 d4 d5 d6 a1 a2 a3 r1 r2 r3;rcases gx hk with rfl|rfl|rfl|rfl
   all_goals (simp[lA]at b j)
   .skip
    exact GS (zAe m n f o q r c d e a s j b u1 (go u2 v1 v2 @lA.eq_1))
   .skip
    exact GS (zAe m n f o q r c d e a s j b u3 (go u4 v3 v4 @lA.eq_1))
   .skip
    exact GS (zAe m n f o q r c d e a s j b u5 (go u6 v5 v6 @lA.eq_1))
   .skip
    refine GT (zAe m n f o q r c d e a s j b hw (gA g @lA.eq_1)) ?_
    all_goals exact⟨N,by omega,by omega⟩
  .have ay:i=ws.length:=by omega
   subst ay
   have R:dh l ws=!(decide (aF ws ws.length<1)||decide (65536<aF ws ws.length)):=by rw[U,v];simp
   generalize ax:aF ws ws.length=T at *;generalize ad:bo l ws ws.length=S at *;by_cases Q:T<1\/65536<T
   .have hf:dh l ws=false:=by
     rw[R];rcases Q with h|h
     all_goals simp[h]
    have K:fo l ws=.tup [V6 0 0 0 0 0 0,Z 0,B false]:=by unfold fo;rw[hf];rfl
    rw[K];rcases Q with h|h
    .skip
     exact GS (zAc m n f o b q c d e (gA a h))
    .have h2:¬T<1:=by omega
     exact GS (zAd m n f o b q c d e a h h2)
   .have h1:¬T<1:=by omega
    have h2:¬65536<T:=by omega
    have hf:dh l ws=true:=by rw[R];simp[h1,h2]
    have K:fo l ws=.tup [bL S,Z T,B true]:=by unfold fo;rw[hf,ad,ax];rfl
    rw[K];exact GS (zAd m n f o b q c d e a h1 h2)
def jl(l:List Vc):Bool:=decide (1<=l.length)&&decide (l.length<=8)&&l.all (aG 268435456)
def bz(v w:Vc):Vc:=(v.1-w.1,v.2.1-w.2.1,v.2.2-w.2.2)
def dk(v w:Vc):Int:=v.1*w.1+v.2.1*w.2.1+v.2.2*w.2.2
theorem sP{w:Vc}{m n:Nat}(a:gT m v)(b:gT n w):(-((m*n:Nat):Int)<=v.1*w.1/\v.1*w.1<=((m*n:Nat):Int))/\(-((m*n:Nat):Int)<=v.2.1*w.2.1/\v.2.1*w.2.1<=((m*n:Nat):Int))/\(-((m*n:Nat):Int)<=v.2.2*w.2.2/\v.2.2*w.2.2<=((m*n:Nat):Int)):=
 ⟨cT m n a.1.1 a.1.2 b.1.1 b.1.2,cT m n a.2.1.1 a.2.1.2 b.2.1.1 b.2.1.2,cT m n a.2.2.1 a.2.2.2 b.2.2.1 b.2.2.2⟩
def eG(l:List Vc)(w:List Int):Nat->Vc
 |0=>(0,0,0)
 |i+1=>match l[i]?,w[i]? with
  |some p,some k=>((eG l w i).1+k*p.1,(eG l w i).2.1+k*p.2.1,(eG l w i).2.2+k*p.2.2)
  |_,_=>eG l w i
structure WgOk(w:List Int):Prop where
 pos:∀k∈w,0<=k
 tot:aF w w.length<=65536
theorem vK{k:Int}(h:w[i]?=some k):aF w (i+1)=aF w i+k:=by simp[aF,h]
theorem kj(h:∀k∈w,0<=k){j:Nat}(a:i<=j):aF w i<=aF w j:=by
 induction a with
 |refl=>exact yCc _
 |step c ih=>
  rename_i m
  cases b:w[m]? with
  |none=>simp only[aF,b,Option.getD_none];omega
  |some k=>
   have:=h k (In b);rw[vK b];omega
theorem GC(h:∀k∈w,0<=k)(i:Nat):0<=aF w i:=kj h (yAT i)
theorem xA{k:Int}(a:0<=k)(b:-m<=x/\x<=m):-(k*m)<=k*x/\k*x<=k*m:=by
 refine⟨?_,yA9 b.2 a⟩;have:=yA9 b.1 a;rw[Int.mul_neg]at this;exact this
theorem gO(h:aG 268435456 v=true):gT 268435456 v:=by
 rw[dJ,bM,bM,bM]at h;exact⟨⟨by omega,by omega⟩,⟨by omega,by omega⟩,⟨by omega,by omega⟩⟩
theorem EA{l:List Vc}{w:List Int}(g:l.all (aG 268435456)=true)(e:∀k∈w,0<=k):∀i:Nat,gT (aF w i*268435456) (eG l w i)
 |0=>by simp[eG,aF,gT]
 |i+1=>by
  have ih:=EA g e i;have m:=kj e (Nat.le_succ i);simp only[eG];split
  .rename_i p k hp f
   have j:=gO (IV.1 g p (In hp));have d:=e k (In f);rw[vK f];obtain⟨a,b,c⟩:=j;have s:=xA d a;have u:=xA d b;have v:=xA d c;obtain⟨o,q,r⟩:=ih;exact⟨⟨by simp only;omega,by simp only;omega⟩,⟨by simp only;omega,by simp only;omega⟩,⟨by simp only;omega,by simp only;omega⟩⟩
  .obtain⟨o,q,r⟩:=ih
   have n:aF w i<=aF w (i+1):=m;exact⟨⟨by omega,by omega⟩,⟨by omega,by omega⟩,⟨by omega,by omega⟩⟩
theorem oY(c:l.all (aG 268435456)=true)(a:WgOk w)(i:Nat)(hi:i<=w.length):gT 17592186044416 (eG l w i):=by
 have b:=EA c a.pos i;have d:=kj a.pos hi;have e:=a.tot;obtain⟨f,g,j⟩:=b;exact⟨⟨by omega,by omega⟩,⟨by omega,by omega⟩,⟨by omega,by omega⟩⟩
def vL(s p:Vc)(k:Int)(j:Nat):List AV:=[.pv (Z (if 0<j then s.1+k*p.1 else s.1)),.pv (Z (if 1<j then s.2.1+k*p.2.1 else s.2.1)),.pv (Z (if 2<j then s.2.2+k*p.2.2 else s.2.2))]
def fg(bet:Int->Int->Bool)(n p0:Vc)(l:List Vc):Nat->Int×Nat
 |0=>(dk n p0,0)
 |i+1=>match l[i]? with
  |some v=>if bet (dk n v) (fg bet n p0 l i).1=true then(dk n v,i)else fg bet n p0 l i
  |none=>fg bet n p0 l i
theorem vM{p0:Vc}(h:l[i]?=some v):fg bet n p0 l (i+1)=if bet (dk n v) (fg bet n p0 l i).1=true then(dk n v,i)else fg bet n p0 l i:=by simp only[fg,h]
theorem vN{bet:Int->Int->Bool}{n p0:Vc}{l:List Vc}(a:0<l.length):∀i,(fg bet n p0 l i).2<l.length
 |0=>a
 |i+1=>by
  have:=vN (bet:=bet) (n:=n) (p0:=p0) a i;simp only[fg];split
  .rename_i v b
   obtain⟨h,_⟩:=th.1 b;split
   .exact h
   .exact this
  .exact this
def em(bet:Int->Int->Bool)(n:Vc)(l:List Vc):Int×Nat:=fg bet n ((l[0]?).getD (0,0,0)) l l.length
def JY(x y z:AV)(d:Option bF):Option bF:=match x,y,z with
 |.pv (.val (.int .i64 a)),.pv (.val (.int .i64 b)),.pv (.val (.int .i64 c))=>some (.pv (Z (max a (max b c))),[])
 |_,_,_=>d
@[simp] theorem Un(a b c:Int)(d:Option bF):JY (.pv (.val (.int .i64 a))) (.pv (.val (.int .i64 b))) (.pv (.val (.int .i64 c))) d=some (.pv (Z (max a (max b c))),[]):=rfl
@[simp] theorem Zh{i:Array TypeId}{g:Option (Nat×Bool)}(x y z:Operand):
 bf prog ⟨dst,.call ⟨.builtin .max,#[x,y,z],i⟩,ty,pos,aft,g⟩ ρ=JY (ρ x) (ρ y) (ρ z) (gk prog ⟨dst,.call ⟨.builtin .max,#[x,y,z],i⟩,ty,pos,aft,g⟩ ρ):=by
 unfold JY;split
 .rename_i a b c d e f
  refine dq (by simp[Op.operands,Call.operands,d,e,f,dV]) ?_;unfold execOp;simp[resolve,invoke,builtin,Builtin.max_,d,e,f,pB,dV,Builtin.max2,ae,dl]
  try omega
 .rfl
def ga(x y:Int):Int:=max (max (max (max 0 x) (-x)) y) (-y)
theorem NS(x y:Int)(o:-4611686018427387904<=x/\x<=4611686018427387904)(p:-4611686018427387904<=y/\y<=4611686018427387904):aV 295 (.sl [Z x,Z y]) (Z (ga x y)):=by
 have g:i64.wrap (-x)=-x:=aa;have j:i64.wrap (-y)=-y:=aa;have k:i64.wrap (0-x)=-x:=(aa (n:=0-x) (by omega) (by omega)).trans (by omega);have l:i64.wrap (0-y)=-y:=(aa (n:=0-y) (by omega) (by omega)).trans (by omega)
 have f0:∀a b c:Int,max a (max b c)=max (max a b) c:=λ_ _ _=>by omega
 have f2:ga x y=max 0 (max x (max (-x) (max y (-y)))):=by unfold ga;omega
 rw[f2];refine Dp func295 λC hP hN=>?_;refine GT trivial ?_;refine WP.loopN [] 2 (λi st=>st.t 6=.pv (.sl [Z x,Z y])/\st.t 7=.pv (Z 2)/\st.t 8=.pv (Z i)/\st.t 3=.pv (Z (if i=0 then 0 else if i=1 then max 0 (max x (-x))else max 0 (max x (max (-x) (max y (-y))))))) (by simp) ?_;rintro i st hi ⟨e,f,d,g3⟩
 have m:i=0\/i=1\/i=2:=by omega
 rcases m with rfl|rfl|rfl
 all_goals (simp at g3 d)
 .skip
  with_reducible repeat' (first|refine Sp.h ?_|((first|refine Ss.h ?_|(refine Sb.h ?_ ?_ ?_<;>(try intro hgd)<;>try exact Xy))<;>simp -implicitDefEqProofs (maxSteps:=2000000) [hP,hN,e,f,d,g3,g,j,k,l])|refine X2 ?_ ?_|(refine Xd ?_ ?_<;>intro hcd<;>try exact Xx))
  all_goals (try (first|omega|(simp;omega)))
 .skip
  with_reducible repeat' (first|refine Sp.h ?_|((first|refine Ss.h ?_|(refine Sb.h ?_ ?_ ?_<;>(try intro hgd)<;>try exact Xy))<;>simp -implicitDefEqProofs (maxSteps:=2000000) [hP,hN,e,f,d,g3,g,j,k,l])|refine X2 ?_ ?_|(refine Xd ?_ ?_<;>intro hcd<;>try exact Xx))
  all_goals (try (first|omega|(simp;omega)))
 .skip
  with_reducible repeat' (first|refine Sp.h ?_|((first|refine Ss.h ?_|(refine Sb.h ?_ ?_ ?_<;>(try intro hgd)<;>try exact Xy))<;>simp -implicitDefEqProofs (maxSteps:=2000000) [hP,hN,e,f,d,g3])|refine X2 ?_ ?_|(refine Xd ?_ ?_<;>intro hcd<;>try exact Xx))
set_option maxRecDepth 100000 in
@[simp] theorem Wt:dR prog 292:=by
 have hf:=func292;have nt:=ntmps292;have rs:=results292;exact BJ
set_option maxRecDepth 100000 in
@[simp] theorem Wu:dR prog 226:=by
 have hf:=func226;have nt:=ntmps226;have rs:=results226;exact KY
def bt(u v:Iv)(tot:Int):Int:=(ga (u.1-v.2) (u.2-v.1)+tot-1)/tot
def iG(m:List Int)(reach:Int):Nat->Int
 |0=>reach*reach
 |k+1=>iG m reach k-(m[k]?).getD 0*(m[k]?).getD 0
def dN(U V:aq)(tot:Int):List Int:=[bt U.1 V.1 tot,bt U.2.1 V.2.1 tot,bt U.2.2 V.2.2 tot]
def nk(m:List Int)(reach:Int):Int:=if m.all (λx=>decide (x<=reach))then iG m reach 3 else -1
def jk(left right:List Int)(a:List aq)(ra:Int)(b:List aq)(rb:Int):Bool:=
 dh a left&&dh b right&&decide (aF left left.length=aF right right.length)&&bw ra 0 1048576&&bw rb 0 1048576
def ii(left right:List Int)(a:List aq)(ra:Int)(b:List aq)(rb:Int):Int:=
 if jk left right a ra b rb then nk (dN (bo a left left.length) (bo b right right.length) (aF left left.length)) (ra+rb)else 0
theorem vG{a:List aq}(h:dh a w=true):sd 8 (bo a w w.length):=by
 simp only[dh,aw,An,Is,IV]at h;obtain⟨⟨⟨⟨⟨i,j⟩,b⟩,k⟩,c⟩,l⟩:=h;obtain⟨⟨⟨a1,a2⟩,a3,a4⟩,⟨⟨b1,b2⟩,b3,b4⟩,⟨d,e⟩,f,g⟩:=AR b c w.length;refine⟨⟨⟨?_,?_⟩,?_,?_⟩,⟨⟨?_,?_⟩,?_,?_⟩,⟨?_,?_⟩,?_,?_⟩<;>omega
theorem vH{a:List aq}(h:dh a w=true):1<=aF w w.length/\aF w w.length<=65536:=by
 simp only[dh,An,yAI,yBf,yAh]at h;omega
theorem vJ{y:Int}(a:-m<=x/\x<=m)(b:-m<=y/\y<=m):0<=ga x y/\ga x y<=m:=by
 unfold ga;omega
theorem zd{h:Int}(a:0<=h)(h1:h<=4503599627370496)(t1:1<=t)(t2:t<=65536):0<=(h+t-1)/t/\(h+t-1)/t<=4503599627370496:=by
 refine⟨yBV (by omega) (by omega),?_⟩
 have:(h+t-1)/t<4503599627370496+1:=Int.ediv_lt_of_lt_mul (by omega) (by
  have b:(4503599627370496+1)*1<=(4503599627370496+1)*t:=by omega
  omega)
 omega
theorem oq(a:0<=x)(h1:x<=m):0<=x*x/\x*x<=m*m:=⟨yA3 a a,yCj h1 h1 a (by omega)⟩
set_option maxRecDepth 4000 in
theorem Wv(left right:List Int)(a:List aq)(ra:Int)(b:List aq)(rb:Int)(h1:left.length<=9223372036854775807)(h2:right.length<=9223372036854775807)(h3:a.length<=9223372036854775807)(h4:b.length<=9223372036854775807):MC 227 (zs left) (zs right) (aU a) (Z ra) (aU b) (Z rb) (.tup [Z (ii left right a ra b rb),B (jk left right a ra b rb)]):=by
 have ca:=SO a left h3 h1;have cb:=SO b right h4 h2;have K:=SN ra;have Y:=SN rb;have z6:bL aM=V6 0 0 0 0 0 0:=rfl;have e:jk left right a ra b rb=(dh a left&&dh b right&&decide (aF left left.length=aF right right.length)&&bw ra 0 1048576&&bw rb 0 1048576):=rfl
 have i:ii left right a ra b rb=if jk left right a ra b rb then nk (dN (bo a left left.length) (bo b right right.length) (aF left left.length)) (ra+rb)else 0:=rfl
 cases S:dh a left with
 |false=>
  rw[S]at e;simp only[yAG]at e;rw[e]at i;simp only[ZY,yAi]at i;rw[e,i];simp only[fo,S,ZY,yAi,z6]at ca;cases W:dh b right
  all_goals (simp only[fo,W,ZY,yAi,yAn,z6]at cb)
  .skip
   refine Dp func227 λC hP hN=>?_;exact Gy
  .skip
   generalize bo b right right.length=V at *;generalize aF right right.length=T2 at *;refine Dp func227 λC hP hN=>?_;exact Gy
 |true=>
 simp only[fo,S,yAn]at ca;generalize hU:bo a left left.length=U at *;generalize hT:aF left left.length=T at *
 cases W:dh b right with
 |false=>
  rw[S,W]at e;simp only[yAG,yBm]at e;rw[e]at i;simp only[ZY,yAi]at i;rw[e,i];simp only[fo,W,ZY,yAi,z6]at cb;refine Dp func227 λC hP hN=>?_;exact Gy
 |true=>
 simp only[fo,W,yAn]at cb;rw[S,W]at e;simp only[yAs]at e;generalize hV:bo b right right.length=V at *;generalize ay:aF right right.length=T2 at *;by_cases q:T=T2
 case neg=>
  have e1:(T !=T2)=true:=by simp[q]
  simp only[q,decide_false,yAG]at e;rw[e]at i;simp only[ZY,yAi]at i;rw[e,i];refine Dp func227 λC hP hN=>?_;exact Gy
 have e0:(T !=T2)=false:=by simp[q]
 simp only[q,yBJ,yAs]at e
 cases J:bw ra 0 1048576 with
 |false=>
  rw[J]at K e;simp only[yAG]at e;rw[e]at i;simp only[ZY,yAi]at i;rw[e,i];refine Dp func227 λC hP hN=>?_;exact Gy
 |true=>
 cases X:bw rb 0 1048576 with
 |false=>
  rw[J]at K e;rw[X]at Y e;simp only[yBm]at e;rw[e]at i;simp only[ZY,yAi]at i;rw[e,i];refine Dp func227 λC hP hN=>?_;exact Gy
 |true=>
 rw[J]at K e;rw[X]at Y e;simp only[yBj]at e;rw[e]at i;simp only[yAn]at i;rw[e]
 have a5:sd 8 U:=by rw[<-hU];exact vG S
 have a6:sd 8 V:=by rw[<-hV];exact vG W
 have o:=vH S;rw[hT]at o;subst q;clear hT ay;simp only[bw,An,Is]at J X;generalize bk:ra+rb=c at *;have b0:i64.wrap c=c:=aa;have bq:=oq (x:=c) (m:=2097152) (by omega) (by omega);have bs:i64.wrap (c*c)=c*c:=aa;rw[i];refine Dp func227 λC hP hN=>?_;refine Gz ?_;refine WP.loopN [] 3 (λk st=>st.t 14=.ptr 14 0/\st.h 14=some (.box (b6 U) true false)/\st.t 17=.ptr 17 0/\st.h 17=some (.box (b6 V) true false)/\st.t 18=.pv (Z T)/\st.t 15=.pv (Z T)/\st.t 20=.pv (Z c)/\st.t 12=.ptr 12 0/\st.h 12=some (.box [.pv (Z (iG (dN U V T) c k))] true false)/\st.t 13=.ptr 13 0/\st.h 13=some (.box [.pv (B false)] true false)/\st.t 66=.pv (Z k)/\(-(k*4398046511104:Int)<=iG (dN U V T) c k/\iG (dN U V T) c k<=4398046511104)/\∀j<k,∀x,(dN U V T)[j]?=some x->0<=x/\x<=c) ?_ ?_
 .simp[iG]
  omega
 rintro k st hk ⟨N,u,P,v,Q,O,R,L,r,M,s,rQ,a8,hpr⟩;obtain⟨⟨⟨a1,a2⟩,a3,a4⟩,⟨⟨b1,b2⟩,b3,b4⟩,⟨c1,c2⟩,c3,c4⟩:=a5;obtain⟨⟨⟨d1,d2⟩,d3,d4⟩,⟨⟨e1,e2⟩,e3,e4⟩,⟨f1,f2⟩,f3,f4⟩:=a6;rcases gx hk with rfl|rfl|rfl|rfl
 .have D:-281474976710656<=U.1.1-V.1.2/\U.1.1-V.1.2<=281474976710656:=by omega
  have z:-281474976710656<=U.1.2-V.1.1/\U.1.2-V.1.1<=281474976710656:=by omega
  have cf:=NS (U.1.1-V.1.2) (U.1.2-V.1.1) (by omega) (by omega);have y:=vJ D z;have ad:=zd y.1 (by omega) o.1 o.2;have hgd:bt U.1 V.1 T=(ga (U.1.1-V.1.2) (U.1.2-V.1.1)+T-1)/T:=rfl;have w1:i64.wrap (U.1.1-V.1.2)=U.1.1-V.1.2:=aa;have w2:i64.wrap (U.1.2-V.1.1)=U.1.2-V.1.1:=aa;generalize ga (U.1.1-V.1.2) (U.1.2-V.1.1)=f at *;have w3:i64.wrap (f+T)=f+T:=aa;have w4:i64.wrap (f+T-1)=f+T-1:=aa;have w5:(f+T-1).tdiv T=(f+T-1)/T:=yAp (by omega);have w6:i64.wrap ((f+T-1)/T)=(f+T-1)/T:=aa
  have w7:¬T=0:=by omega
  have w8:(T==0)=false:=by simp;omega
  by_cases F:c<bt U.1 V.1 T
  .have H:nk (dN U V T) c=-1:=by
    have G:¬bt U.1 V.1 T<=c:=by omega
    unfold nk dN;simp[G]
   rw[H];rw[hgd]at F;exact Gy
  .have n:=oq (x:=bt U.1 V.1 T) (m:=c) (by omega) (by omega)
   have p:iG (dN U V T) c (0+1)=iG (dN U V T) c 0-bt U.1 V.1 T*bt U.1 V.1 T:=by simp[iG,dN]
   have d:∀j<0+1,∀x,(dN U V T)[j]?=some x->0<=x/\x<=c:=λj hj x l=>by
    by_cases A:j<0
    .exact hpr j A x l
    .have:j=0:=by omega
     subst this
     have:x=bt U.1 V.1 T:=by simpa[dN]using l.symm
     omega
   generalize iG (dN U V T) c (0+1)=E' at *;generalize iG (dN U V T) c 0=E at *;subst p;rw[hgd]at F n;have w9:i64.wrap ((f+T-1)/T*((f+T-1)/T))=(f+T-1)/T*((f+T-1)/T):=aa;have I:i64.wrap (E-(f+T-1)/T*((f+T-1)/T))=E-bt U.1 V.1 T*bt U.1 V.1 T:=(aa (by omega) (by omega)).trans (by rw[hgd]);rw[<-hgd]at n
   have g:-(0+1:Nat)*4398046511104<=E-bt U.1 V.1 T*bt U.1 V.1 T/\E-bt U.1 V.1 T*bt U.1 V.1 T<=4398046511104:=by omega
   refine GT (zAe N u P v Q O R L r M s rQ w1 w2 (zAb w3 w4 w5 w6 w7 w8 w9 (gA I F))) ?_
   all_goals first|exact⟨g,d⟩|exact⟨g.1,g.2,d⟩|exact⟨by omega,λx l=>d 0 (by omega) x l⟩
 .have D:-281474976710656<=U.2.1.1-V.2.1.2/\U.2.1.1-V.2.1.2<=281474976710656:=by omega
  have z:-281474976710656<=U.2.1.2-V.2.1.1/\U.2.1.2-V.2.1.1<=281474976710656:=by omega
  have cf:=NS (U.2.1.1-V.2.1.2) (U.2.1.2-V.2.1.1) (by omega) (by omega);have y:=vJ D z;have ad:=zd y.1 (by omega) o.1 o.2;have hgd:bt U.2.1 V.2.1 T=(ga (U.2.1.1-V.2.1.2) (U.2.1.2-V.2.1.1)+T-1)/T:=rfl;have w1:i64.wrap (U.2.1.1-V.2.1.2)=U.2.1.1-V.2.1.2:=aa;have w2:i64.wrap (U.2.1.2-V.2.1.1)=U.2.1.2-V.2.1.1:=aa;generalize ga (U.2.1.1-V.2.1.2) (U.2.1.2-V.2.1.1)=f at *;have w3:i64.wrap (f+T)=f+T:=aa;have w4:i64.wrap (f+T-1)=f+T-1:=aa;have w5:(f+T-1).tdiv T=(f+T-1)/T:=yAp (by omega);have w6:i64.wrap ((f+T-1)/T)=(f+T-1)/T:=aa
  have w7:¬T=0:=by omega
  have w8:(T==0)=false:=by simp;omega
  by_cases F:c<bt U.2.1 V.2.1 T
  .have H:nk (dN U V T) c=-1:=by
    have G:¬bt U.2.1 V.2.1 T<=c:=by omega
    unfold nk dN;simp[G]
   rw[H];rw[hgd]at F;exact Gy
  .have n:=oq (x:=bt U.2.1 V.2.1 T) (m:=c) (by omega) (by omega)
   have p:iG (dN U V T) c (1+1)=iG (dN U V T) c 1-bt U.2.1 V.2.1 T*bt U.2.1 V.2.1 T:=by simp[iG,dN]
   have d:∀j<1+1,∀x,(dN U V T)[j]?=some x->0<=x/\x<=c:=λj hj x l=>by
    by_cases A:j<1
    .exact hpr j A x l
    .have:j=1:=by omega
     subst this
     have:x=bt U.2.1 V.2.1 T:=by simpa[dN]using l.symm
     omega
   generalize iG (dN U V T) c (1+1)=E' at *;generalize iG (dN U V T) c 1=E at *;subst p;rw[hgd]at F n;have w9:i64.wrap ((f+T-1)/T*((f+T-1)/T))=(f+T-1)/T*((f+T-1)/T):=aa;have I:i64.wrap (E-(f+T-1)/T*((f+T-1)/T))=E-bt U.2.1 V.2.1 T*bt U.2.1 V.2.1 T:=(aa (by omega) (by omega)).trans (by rw[hgd]);rw[<-hgd]at n
   have g:-(1+1:Nat)*4398046511104<=E-bt U.2.1 V.2.1 T*bt U.2.1 V.2.1 T/\E-bt U.2.1 V.2.1 T*bt U.2.1 V.2.1 T<=4398046511104:=by omega
   refine GT (zAe N u P v Q O R L r M s rQ w1 w2 (zAb w3 w4 w5 w6 w7 w8 w9 (gA I F))) ?_
   all_goals first|exact⟨g,d⟩|exact⟨g.1,g.2,d⟩|exact⟨by omega,λx l=>d 0 (by omega) x l⟩
 .have D:-281474976710656<=U.2.2.1-V.2.2.2/\U.2.2.1-V.2.2.2<=281474976710656:=by omega
  have z:-281474976710656<=U.2.2.2-V.2.2.1/\U.2.2.2-V.2.2.1<=281474976710656:=by omega
  have cf:=NS (U.2.2.1-V.2.2.2) (U.2.2.2-V.2.2.1) (by omega) (by omega);have y:=vJ D z;have ad:=zd y.1 (by omega) o.1 o.2;have hgd:bt U.2.2 V.2.2 T=(ga (U.2.2.1-V.2.2.2) (U.2.2.2-V.2.2.1)+T-1)/T:=rfl;have w1:i64.wrap (U.2.2.1-V.2.2.2)=U.2.2.1-V.2.2.2:=aa;have w2:i64.wrap (U.2.2.2-V.2.2.1)=U.2.2.2-V.2.2.1:=aa;generalize ga (U.2.2.1-V.2.2.2) (U.2.2.2-V.2.2.1)=f at *;have w3:i64.wrap (f+T)=f+T:=aa;have w4:i64.wrap (f+T-1)=f+T-1:=aa;have w5:(f+T-1).tdiv T=(f+T-1)/T:=yAp (by omega);have w6:i64.wrap ((f+T-1)/T)=(f+T-1)/T:=aa
  have w7:¬T=0:=by omega
  have w8:(T==0)=false:=by simp;omega
  by_cases F:c<bt U.2.2 V.2.2 T
  .have H:nk (dN U V T) c=-1:=by
    have G:¬bt U.2.2 V.2.2 T<=c:=by omega
    unfold nk dN;simp[G]
   rw[H];rw[hgd]at F;exact Gy
  .have n:=oq (x:=bt U.2.2 V.2.2 T) (m:=c) (by omega) (by omega)
   have p:iG (dN U V T) c (2+1)=iG (dN U V T) c 2-bt U.2.2 V.2.2 T*bt U.2.2 V.2.2 T:=by simp[iG,dN]
   have d:∀j<2+1,∀x,(dN U V T)[j]?=some x->0<=x/\x<=c:=λj hj x l=>by
    by_cases A:j<2
    .exact hpr j A x l
    .have:j=2:=by omega
     subst this
     have:x=bt U.2.2 V.2.2 T:=by simpa[dN]using l.symm
     omega
   generalize iG (dN U V T) c (2+1)=E' at *;generalize iG (dN U V T) c 2=E at *;subst p;rw[hgd]at F n;have w9:i64.wrap ((f+T-1)/T*((f+T-1)/T))=(f+T-1)/T*((f+T-1)/T):=aa;have I:i64.wrap (E-(f+T-1)/T*((f+T-1)/T))=E-bt U.2.2 V.2.2 T*bt U.2.2 V.2.2 T:=(aa (by omega) (by omega)).trans (by rw[hgd]);rw[<-hgd]at n
   have g:-(2+1:Nat)*4398046511104<=E-bt U.2.2 V.2.2 T*bt U.2.2 V.2.2 T/\E-bt U.2.2 V.2.2 T*bt U.2.2 V.2.2 T<=4398046511104:=by omega
   refine GT (zAe N u P v Q O R L r M s rQ w1 w2 (zAb w3 w4 w5 w6 w7 w8 w9 (gA I F))) ?_
   all_goals first|exact⟨g,d⟩|exact⟨g.1,g.2,d⟩|exact⟨by omega,λx l=>d 0 (by omega) x l⟩
 .have ax:nk (dN U V T) c=iG (dN U V T) c 3:=by
   have:(dN U V T).all (λx=>decide (x<=c))=true:=by
    rw[IV];intro x l;obtain⟨j,hj,l⟩:=yBl.1 l
    have a7:j<3:=by simpa[dN]using hj
    have:=hpr j a7 x (by rw[an hj,l]);simp;omega
   unfold nk;rw[this];rfl
  rw[ax];exact Gy
theorem Ww(left right:List Int)(a:List aq)(ra:Int)(b:List aq)(rb:Int)(h1:left.length<=9223372036854775807)(c:right.length<=9223372036854775807)(d:a.length<=9223372036854775807)(f:b.length<=9223372036854775807):MC 159 (zs left) (zs right) (aU a) (Z ra) (aU b) (Z rb) (B (jk left right a ra b rb&&decide (0<=ii left right a ra b rb))):=by
 have g:=Wv left right a ra b rb h1 c d f;generalize jk left right a ra b rb=k at *;generalize ii left right a ra b rb=e at *;cases k
 all_goals (by_cases h:0<=e)
 all_goals
  refine Dp func159 λC hP hN=>?_;exact Gy
def wx(x:Int):Int:=dC (max x (-x)) 65536*dC (max x (-x)) 65536
def ze(v:Vc)(rho:Int):Bool:=decide (wx v.1+wx v.2.1+wx v.2.2<=rho*rho)
theorem Dm(h:-35184372088832<=x/\x<=35184372088832):(0<=dC (max x (-x)) 65536/\dC (max x (-x)) 65536<=536870912)/\0<=wx x/\wx x<=288230376151711744:=by
 have a:0<=dC (max x (-x)) 65536/\dC (max x (-x)) 65536<=536870912:=by unfold dC;omega
 have b:=oq a.1 a.2;exact⟨a,b.1,by unfold wx;omega⟩
def pT(x s:Vc):Int:=if dk x (bz x s)<=0 then 0 else min 256 (dk x (bz x s)/max 1 (dk (bz x s) (bz x s)/256))
theorem AH{w:Vc}(c:gT a v)(d:gT b w):gT (a+b) (bz v w):=by
 obtain⟨v1,v2,v3⟩:=c;obtain⟨e,f,g⟩:=d;refine⟨?_,?_,?_⟩<;>(simp only[bz];omega)
theorem ot(x s:Vc):0<=pT x s/\pT x s<=256:=by
 unfold pT;split
 .omega
 .rename_i h
  have a:0<=dk x (bz x s)/max 1 (dk (bz x s) (bz x s)/256):=yBV (by omega) (by omega);omega
theorem pE(h:gT a v)(c:a<=b):gT b v:=by
 obtain⟨v1,v2,v3⟩:=h;exact⟨by omega,by omega,by omega⟩
theorem JZ(v:Vc):0<=dk v v:=by
 have h:∀x:Int,0<=x*x:=λx=>by
  rcases yB3 0 x with h|h
  .exact yA3 h h
  .have:=yA3 (show 0<=-x by omega) (show 0<=-x by omega)
   rw[Int.neg_mul_neg]at this;exact this
 have a:=h v.1;have b:=h v.2.1;have c:=h v.2.2;unfold dk;omega
def fC(w:List Int)(t:Int)(i:Nat):List Int:=w.mapIdx λj k=>if j<i then k-k*t/256 else k
def fT(w:List Int)(t:Int):Nat->Int
 |0=>0
 |i+1=>fT w t i+(w[i]?).getD 0*t/256
def mM(w:List Int)(q:Nat)(t:Int):List Int:=(fC w t w.length).set q (((fC w t w.length)[q]?).getD 0+fT w t w.length)
theorem pU(w:List Int)(t:Int)(i:Nat):(fC w t i).length=w.length:=by simp[fC]
theorem lZ(w:List Int)(t:Int)(i j:Nat):(fC w t i)[j]?=(w[j]?).map λk=>if j<i then k-k*t/256 else k:=by simp[fC,List.getElem?_mapIdx]
theorem Cc(w:List Int)(t:Int):fC w t 0=w:=by
 apply yAK;intro j;rw[lZ];cases w[j]?<;>simp
theorem Cd{k:Int}(a:w[i]?=some k):fC w t (i+1)=(fC w t i).set i (k-k*t/256):=by
 apply yAK;intro j;rw[yAe,lZ,lZ,pU];by_cases e:i=j
 .subst e
  obtain⟨h,_⟩:=th.1 a;rw[a];simp[h]
 .rw[L4 e]
  cases w[j]? with
  |none=>rfl
  |some x=>
   simp only[yAQ]
   congr 1
   by_cases h:j<i
   .rw[yAb h,yAb (by omega)]
   .rw[L4 h,L4 (by omega)]
theorem AI(w:List Int):∀i,aF w i=(w.take i).sum
 |0=>by simp[aF]
 |i+1=>by
  rw[List.take_succ]
  cases h:w[i]? with
  |none=>simp[aF,h,AI w i]
  |some k=>simp[aF,h,AI w i]
theorem AJ(w:List Int):aF w w.length=w.sum:=by rw[AI,yBP]
theorem Dn{y:Int}(h:w[q]?=some y):(w.set q x).sum=w.sum-y+x:=by
 induction w generalizing q with
 |nil=>simp at h
 |cons a r ih=>
  cases q with
  |zero=>simp at h;subst h;simp;omega
  |succ q=>simp at h;simp only[List.set_cons_succ,List.sum_cons,ih h];omega
theorem GD(w:List Int)(t:Int):∀i,i<=w.length->(fC w t i).sum=w.sum-fT w t i
 |0,_=>by simp[Cc,fT]
 |i+1,h=>by
  have a:w[i]?=some w[i]:=an (by omega)
  have b:(fC w t i)[i]?=some w[i]:=by rw[lZ,a];simp
  rw[Cd a,Dn b,GD w t i (by omega)];simp only[fT,a,yAl];omega
theorem QD(hq:q<w.length):(mM w q t).sum=w.sum:=by
 have b:=pU w t w.length;have a:(fC w t w.length)[q]?=some ((fC w t w.length)[q]'(by omega)):=an (by omega);unfold mM;rw[Dn a,GD w t _ (yAd _),a];simp only[yAl];omega
theorem vO{k:Int}(b:0<=k)(c:0<=t)(a:t<=256):0<=k*t/\k*t<=k*256/\0<=k*t/256/\k*t/256<=k:=by
 have d:0<=k*t:=yA3 b c;have e:k*t<=k*256:=yA9 a b;omega
theorem AK{w:List Int}{t:Int}(c:∀k∈w,0<=k)(b:0<=t)(a:t<=256):∀i,0<=fT w t i/\fT w t i<=aF w i
 |0=>by simp[fT,aF]
 |i+1=>by
  have ih:=AK c b a i
  cases h:w[i]? with
  |none=>simp[fT,aF,h];omega
  |some k=>
   have:=vO (c k (In h)) b a;simp only[fT,aF,h,yAl];omega
theorem Dq(w:List Int)(q:Nat)(t:Int):(mM w q t).length=w.length:=by simp[mM,pU]
theorem LE(g:WgOk w)(hq:q<w.length)(m:0<=t)(d:t<=256):WgOk (mM w q t):=by
 constructor
 .intro k l
  obtain⟨j,f,rfl⟩:=yBl.1 l
  have a:j<w.length:=by rw[Dq]at f;exact f
  have i:w[j]?=some w[j]:=an a;have hp:=vO (g.pos _ (yAq a)) m d
  have c:(fC w t w.length)[j]?=some (w[j]-w[j]*t/256):=by rw[lZ,i];simp[a]
  have o:=AK g.pos m d w.length;generalize n:(mM w q t)[j]=x
  have b:(mM w q t)[j]?=some x:=by rw[an f,n]
  clear n l;unfold mM at b;rw[yAe]at b;by_cases e:q=j
  .subst e
   rw[yAb rfl,yAb (by rw[pU];exact a),c]at b;simp only[yAl,Z9]at b;omega
  .rw[L4 e,c]at b
   simp only[Z9]at b;omega
 .rw[AJ,QD hq,<-AJ];exact g.tot
def dY(A:List Vc)(w:List Int)(a:List Vc)(v:List Int):Vc:=bz (eG A w A.length) (eG a v a.length)
def kl(t:Vc):Vc:=(t.1.tdiv 65536,t.2.1.tdiv 65536,t.2.2.tdiv 65536)
structure NSt where
 w:List Int
 v:List Int
 n:Vc
 r:Nat
inductive NEnd where
 |stop(kind:Int)(s:NSt)
 |step(s:NSt)
def uw(A a:List Vc)(rho:Int)(steps:Nat)(s:NSt):NEnd:=
 if ze (dY A s.w a s.v) rho=true then .stop 2 s
 else if nz (bT (kl (dY A s.w a s.v)))=false then .stop 0 ⟨s.w,s.v,bT (kl (dY A s.w a s.v)),s.r⟩
 else if eH (bT (kl (dY A s.w a s.v)))*rho<(em gf (bT (kl (dY A s.w a s.v))) A).1-(em gg (bT (kl (dY A s.w a s.v))) a).1 then .stop 1 ⟨s.w,s.v,bT (kl (dY A s.w a s.v)),s.r⟩
 else if s.r=steps then .stop 0 ⟨s.w,s.v,bT (kl (dY A s.w a s.v)),s.r⟩
 else if pT (kl (dY A s.w a s.v)) (bz ((A[(em gf (bT (kl (dY A s.w a s.v))) A).2]?).getD (0,0,0)) ((a[(em gg (bT (kl (dY A s.w a s.v))) a).2]?).getD (0,0,0)))=0 then .stop 0 ⟨s.w,s.v,bT (kl (dY A s.w a s.v)),s.r⟩
 else .step ⟨mM s.w (em gf (bT (kl (dY A s.w a s.v))) A).2 (pT (kl (dY A s.w a s.v)) (bz ((A[(em gf (bT (kl (dY A s.w a s.v))) A).2]?).getD (0,0,0)) ((a[(em gg (bT (kl (dY A s.w a s.v))) a).2]?).getD (0,0,0)))),mM s.v (em gg (bT (kl (dY A s.w a s.v))) a).2 (pT (kl (dY A s.w a s.v)) (bz ((A[(em gf (bT (kl (dY A s.w a s.v))) A).2]?).getD (0,0,0)) ((a[(em gg (bT (kl (dY A s.w a s.v))) a).2]?).getD (0,0,0)))),bT (kl (dY A s.w a s.v)),s.r+1⟩
def sQ(A b:List Vc)(rho:Int)(steps:Nat):Nat->NSt->Int×NSt
 |0,s=>(0,s)
 |f+1,s=>match uw A b rho steps s with
  |.stop k a=>(k,a)
  |.step a=>sQ A b rho steps f a
theorem Sx{t:Vc}(h:gT 35184372088832 t):gT 536870912 (kl t):=by
 have a:∀x:Int,-35184372088832<=x/\x<=35184372088832->-536870912<=x.tdiv 65536/\x.tdiv 65536<=536870912:=λx c=>by
  rcases yB3 0 x with b|b
  .rw[yAp b];omega
  .have e:x.tdiv 65536=-((-x).tdiv 65536):=by rw[Int.neg_tdiv,Int.neg_neg]
   rw[e,yAp (by omega)];omega
 exact⟨a _ h.1,a _ h.2.1,a _ h.2.2⟩
structure NsOk(A B':List Vc)(s:NSt):Prop where
 w:WgOk s.w
 v:WgOk s.v
 wl:s.w.length=A.length
 vl:s.v.length=B'.length
theorem oZ:jl l=true↔1<=l.length/\l.length<=8/\l.all (aG 268435456)=true:=by
 simp only[jl,An,Is,and_assoc]
theorem NT{A a:List Vc}{s:NSt}(b:jl A=true)(c:jl a=true)(hs:NsOk A a s):gT 35184372088832 (dY A s.w a s.v):=by
 rw[oZ]at b c;have d:=oY b.2.2 hs.w A.length (by rw[hs.wl];exact yAd _);have e:=oY c.2.2 hs.v a.length (by rw[hs.vl];exact yAd _);exact AH d e
theorem sR(a:1<=l.length):(em bet n l).2<l.length:=vN a _
theorem Ce:∀(k:Nat)(v:Vc),gT (16384*((2^k:Nat):Int)) v->aG 16384 (nc k v)=true
 |0,v,h=>by
  obtain⟨a,b,c⟩:=h;simp only[nc];rw[dJ,bM,bM,bM];simp only[Nat.pow_zero]at a b c;exact⟨by omega,by omega,by omega⟩
 |k+1,v,h=>by
  simp only[nc];split
  .assumption
  .refine Ce k _ (Oa ?_)
   have e:2*(16384*((2^k:Nat):Int))=16384*((2^(k+1):Nat):Int):=by rw[yCf];omega
   rw[e];exact h
theorem LF(v:Vc)(h:gT 1099511627776 v):aG 16384 (bT v)=true:=Ce 64 v (pE h (by decide))
theorem Cf{A b:List Vc}{rho:Int}{steps:Nat}{s:NSt}(c:jl A=true)(d:jl b=true)(hs:NsOk A b s):(∀k a,uw A b rho steps s=.stop k a->NsOk A b a)/\∀a,uw A b rho steps s=.step a->NsOk A b a:=by
 rw[oZ]at c d;unfold uw;refine⟨λk a h=>?_,λa h=>?_⟩
 .repeat' split at h
  all_goals first
   |(injection h with _ h;subst h;exact hs)
   |(injection h with _ h;subst h;exact⟨hs.w,hs.v,hs.wl,hs.vl⟩)
   |cases h
 .repeat' split at h
  all_goals first
   |cases h;done
   |(injection h with h
     subst h
     exact⟨LE hs.w (by rw[hs.wl];exact sR c.1) (ot _ _).1 (ot _ _).2,LE hs.v (by rw[hs.vl];exact sR d.1) (ot _ _).1 (ot _ _).2,by rw[Dq];exact hs.wl,by rw[Dq];exact hs.vl⟩)
theorem GE{A a:List Vc}{rho:Int}{steps:Nat}(c:jl A=true)(d:jl a=true):∀(f:Nat)(s:NSt),NsOk A a s->NsOk A a (sQ A a rho steps f s).2
 |0,s,b=>b
 |f+1,s,b=>by
  have h:=Cf (rho:=rho) (steps:=steps) c d b;simp only[sQ];split
  .rename_i k g e;exact h.1 _ _ e
  .rename_i g e;exact GE c d f g (h.2 _ e)
theorem sV{p:Vc}(hn:gT 16384 n)(hp:gT 268435456 p):-13194139533312<=dk n p/\dk n p<=13194139533312:=by
 obtain⟨a,b,c⟩:=sP (m:=16384) (n:=268435456) hn hp;unfold dk;omega
theorem EB{bet:Int->Int->Bool}{n p0:Vc}{l:List Vc}(hn:gT 16384 n)(hp:gT 268435456 p0)(a:l.all (aG 268435456)=true):∀i,-13194139533312<=(fg bet n p0 l i).1/\(fg bet n p0 l i).1<=13194139533312
 |0=>sV hn hp
 |i+1=>by
  have ih:=EB (bet:=bet) hn hp a i;simp only[fg];split
  .rename_i v b
   have:=sV hn (gO (IV.1 a v (In b)));split
   .exact this
   .exact ih
  .exact ih
theorem xD(h:aG 16384 v=true):gT 16384 v:=by
 rw[dJ,bM,bM,bM]at h;exact⟨⟨by omega,by omega⟩,⟨by omega,by omega⟩,⟨by omega,by omega⟩⟩
theorem Cg(hn:aG 16384 n=true)(a:l.all (aG 268435456)=true):-13194139533312<=(em bet n l).1/\(em bet n l).1<=13194139533312:=by
 refine EB (xD hn) ?_ a _
 cases h:l[0]? with
 |none=>simp[gT]
 |some p=>exact gO (IV.1 a p (In h))
def Ch(a b:List Vc):NSt:=⟨(List.replicate a.length 0).set 0 65536,(List.replicate b.length 0).set 0 65536,(0,0,0),0⟩
theorem PN{n:Nat}(h:1<=n):WgOk ((List.replicate n 0).set 0 65536):=by
 constructor
 .intro k a
  rcases yAR a with h|rfl
  .have:=List.eq_of_mem_replicate h;omega
  .decide
 .rw[AJ,Dn (y:=0) (by rw[yAx,yAb (by omega)])]
  have:(List.replicate n (0:Int)).sum=0:=by simp
  omega
theorem LG{a b:List Vc}(c:1<=a.length)(d:1<=b.length):NsOk a b (Ch a b):=⟨PN c,PN d,by simp[Ch],by simp[Ch]⟩
def vP(a b:List Vc)(rho steps:Int):Bool:=jl a&&jl b&&bw rho 0 2097152&&bw steps 0 64
def mu(a b:List Vc)(rho steps:Int):Int×NSt:=if vP a b rho steps then sQ a b rho steps.toNat (steps.toNat+1) (Ch a b)else(0,⟨[],[],(0,0,0),0⟩)
abbrev Uo(x:Int×NSt):PV:=.agg [Z x.1,Z x.2.n.1,Z x.2.n.2.1,Z x.2.n.2.2,zs x.2.w,zs x.2.v,Z x.2.r]
end Go.Ab
