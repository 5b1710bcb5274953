/- The contracts and facts that the laws of this seat need, in one text (CfB, Cf16w, Vm1, AbR, Ab29, Ab35, Ab36, Mk1, M8, M9, M10, M11, M12, M13, M14). -/
import Derived.Test.YtfpagjchfipjkaaGreatU5
import Derived.Laws.RangeString
import Derived.Laws.RangeAny
import Derived.LoopTactic
set_option linter.all false
set_option maxRecDepth 10000
set_option maxHeartbeats 16000000
namespace Go.Ab
open IntKind (i64)
open Go.Proofs.Tryz
open Go.Proofs
variable {C:Cx}{G G':List (Nat×Blk)}{P:Program}{Post:AV->Hp->Prop}{Q:Exit->St->Prop}{a d:Int}{aft:Array Edge}{args:List AV}{ats:Array TypeId}{b b' blk:Blk}{c:Code}{dst:Option Nat}{f:Operand}{g:Option (Nat×Bool)}{goals starts:List Int}{h h0:Hp}{hn:List Nat}{i id k k' n q v:Nat}{js:List J}{l:Loc}{m:eR}{o:Oper}{ops:Array Oper}{plan:List (List Int)}{post pre:List Oper}{res:PV}{rs:List ResultVar}{s:ByteArray}{st:St}{u:Value}{x:AV}{α:Type}{p:α->Bool}{xs:List α}
def nY(b:Nat):Bool:=decide (97<=b)&&decide (b<=122)
def nZ(b:Nat):Bool:=decide (48<=b)&&decide (b<=57)
def fZ(k b:Nat):Bool:=nY b||(decide (k≠0)&&(nZ b||decide (b=95)))
def eF(s:ByteArray):Bool:=(List.range s.size).all λi=>fZ i (s[i]!).toNat
def fh(s:ByteArray):Bool:=decide (1<=s.size)&&decide (s.size<=16)&& !(s.toList==[119,111,114,108,100])&&eF s
theorem jZ(h:i<s.size)(a:fZ i (s[i]'h).toNat=false):eF s=false:=by
 rw[eF,yAA];exact⟨i,by simpa using h,by rw[getElem!_pos s i h,a];simp⟩
theorem tJ(h:∀i(hi:i<s.size),fZ i (s[i]'hi).toNat=true):eF s=true:=by
 rw[eF,L4];intro i hi
 have a:i<s.size:=by simpa using hi
 rw[getElem!_pos s i a];exact h i a
theorem yu{pos c:Nat}{hp:pos<s.size}(d:(s[pos]'hp).toNat=c)(a:fZ pos c=true)(b:∀i(hi:i<s.size),i<pos->fZ i (s[i]'hi).toNat=true):∀i(hi:i<s.size),i<pos+1->fZ i (s[i]'hi).toNat=true:=by
 intro i hi h;by_cases e:i=pos
 .subst e;rw[d];exact a
 .exact b i hi (by omega)
set_option maxRecDepth 1000000 in
theorem Lh(s:ByteArray)(w:World)(h1:¬s.size=0)(q:¬s.size>16)(r:(s.toList==[119,111,114,108,100])=false):
 Calls prog 151 #[.string s] w λe w'=>e=.returned (.bool (eF s))/\(w'=w\/∃pos,w'=w.iter s pos):=by
 have u:((s.size:Int)==0)=false:=by simp;intro h;exact h1 (by simp[h])
 have v:¬((16:Int)<(s.size:Int)):=by omega
 go_enter func151,ntmps151
 go_wp2
 go_loopw [19] (λ_ w'=>∃pos,w'=w.iter s pos/\∀i(hi:i<s.size),i<pos->fZ i (s[i]'hi).toNat=true) (λ_ w'=>s.size-w'.iterPos w.heap.size)
 case atStart=>exact⟨0,rfl,λi hi h=>by omega⟩
 case round=>
  obtain⟨pos,rfl,f⟩:=hrel;by_cases hp:pos<s.size
  .by_cases m:(s[pos]'hp).toNat<128
   .have b:∀d,(Instr.next (.pointer (some ⟨w.heap.size,0,none⟩)) true d).run prog (w.iter s pos)=_:=λd=>run_next_ascii w s pos d hp m
    generalize g:(s[pos]'hp).toNat=c at b m
    have key:(97<=c/\c<=122)\/(¬97<=c/\pos=0)\/(97<=c/\¬c<=122/\pos=0)\/(¬97<=c/\¬pos=0/\48<=c/\c<=57)\/(¬97<=c/\¬pos=0/\¬48<=c)\/(¬97<=c/\¬pos=0/\¬c<=57/\c=95)\/(¬97<=c/\¬pos=0/\¬c<=57/\¬c=95)\/(97<=c/\¬c<=122/\¬pos=0):=by omega
    rcases key with⟨k1,k2⟩|⟨k1,k2⟩|⟨k1,k2,k3⟩|⟨k1,k2,k3,k4⟩|⟨k1,k2,k3⟩|⟨k1,k2,k3,k4⟩|⟨k1,k2,k3,k4⟩|⟨k1,k2,k3⟩
    .have m1:(97:Int)<=(c:Int):=by omega
     have m2:(c:Int)<=122:=by omega
     go_wp2
     go_roundw
     case rel=>exact⟨pos+1,rfl,yu g (by simp[fZ,nY,nZ];omega) f⟩
     case measure=>simp;omega
    .have m1:¬(97:Int)<=(c:Int):=by omega
     subst k2;have a:eF s=false:=jZ hp (by rw[g];simp[fZ,nY,nZ];omega)
     go_wp2
     go_ret
     exact⟨by first|rfl|(rw[a];rfl),.inr ⟨_,rfl⟩⟩
    .have m1:(97:Int)<=(c:Int):=by omega
     have m2:¬(c:Int)<=122:=by omega
     subst k3;have a:eF s=false:=jZ hp (by rw[g];simp[fZ,nY,nZ];omega)
     go_wp2
     go_ret
     exact⟨by first|rfl|(rw[a];rfl),.inr ⟨_,rfl⟩⟩
    .have m1:¬(97:Int)<=(c:Int):=by omega
     have m2:((pos:Int)==0)=false:=by simp;omega
     have j:(48:Int)<=(c:Int):=by omega
     have k:(c:Int)<=57:=by omega
     go_wp2
     go_roundw
     case rel=>exact⟨pos+1,rfl,yu g (by simp[fZ,nY,nZ];omega) f⟩
     case measure=>simp;omega
    .have m1:¬(97:Int)<=(c:Int):=by omega
     have m2:((pos:Int)==0)=false:=by simp;omega
     have j:¬(48:Int)<=(c:Int):=by omega
     have k:((c:Int)!=95)=true:=by simp;omega
     have a:eF s=false:=jZ hp (by rw[g];simp[fZ,nY,nZ];omega)
     go_wp2
     go_ret
     exact⟨by first|rfl|(rw[a];rfl),.inr ⟨_,rfl⟩⟩
    .have m1:¬(97:Int)<=(c:Int):=by omega
     have m2:((pos:Int)==0)=false:=by simp;omega
     have j:(48:Int)<=(c:Int):=by omega
     have l:¬(c:Int)<=57:=by omega
     have k:((c:Int)!=95)=false:=by simp;omega
     go_wp2
     go_roundw
     case rel=>exact⟨pos+1,rfl,yu g (by simp[fZ,nY,nZ];omega) f⟩
     case measure=>simp;omega
    .have m1:¬(97:Int)<=(c:Int):=by omega
     have m2:((pos:Int)==0)=false:=by simp;omega
     have j:(48:Int)<=(c:Int):=by omega
     have l:¬(c:Int)<=57:=by omega
     have k:((c:Int)!=95)=true:=by simp;omega
     have a:eF s=false:=jZ hp (by rw[g];simp[fZ,nY,nZ];omega)
     go_wp2
     go_ret
     exact⟨by first|rfl|(rw[a];rfl),.inr ⟨_,rfl⟩⟩
    .have m1:(97:Int)<=(c:Int):=by omega
     have p:¬(c:Int)<=122:=by omega
     have m2:((pos:Int)==0)=false:=by simp;omega
     have j:(48:Int)<=(c:Int):=by omega
     have l:¬(c:Int)<=57:=by omega
     have k:((c:Int)!=95)=true:=by simp;omega
     have a:eF s=false:=jZ hp (by rw[g];simp[fZ,nY,nZ];omega)
     go_wp2
     go_ret
     exact⟨by first|rfl|(rw[a];rfl),.inr ⟨_,rfl⟩⟩
   .have b:∀d,(Instr.next (.pointer (some ⟨w.heap.size,0,none⟩)) true d).run prog (w.iter s pos)=_:=λd=>run_next_any w s pos d hp
    have n:=(decode_high s pos hp (by omega)).1;generalize(Utf8.decode s pos).1=c at b n;generalize(Utf8.decode s pos).2=x at b;have a:eF s=false:=jZ hp (by simp[fZ,nY,nZ];omega)
    have m1:(97:Int)<=(c:Int):=by omega
    have p:¬(c:Int)<=122:=by omega
    have j:(48:Int)<=(c:Int):=by omega
    have l:¬(c:Int)<=57:=by omega
    have k:((c:Int)!=95)=true:=by simp;omega
    by_cases o:pos=0
    .subst o
     go_wp2
     go_ret
     exact⟨by first|rfl|(rw[a];rfl),.inr ⟨_,rfl⟩⟩
    .have m2:((pos:Int)==0)=false:=by simp;omega
     go_wp2
     go_ret
     exact⟨by first|rfl|(rw[a];rfl),.inr ⟨_,rfl⟩⟩
  .have b:∀d,(Instr.next (.pointer (some ⟨w.heap.size,0,none⟩)) true d).run prog (w.iter s pos)=_:=λd=>run_next_end w s pos d hp
   go_wp2
   go_ret
   exact⟨by rw[tJ (λi hi=>f i hi (by omega))];rfl,.inr ⟨_,rfl⟩⟩
set_option maxRecDepth 1000000 in
theorem JK(s:ByteArray)(w:World)(h:s.size=0\/s.size>16\/(s.toList==[119,111,114,108,100])=true):
 Calls prog 151 #[.string s] w λe w'=>e=.returned (.bool false)/\w'=w:=by
 by_cases h1:s.size=0
 .have b:((s.size:Int)==0)=true:=by simp[h1]
  go_enter func151,ntmps151
  go_wp2
  go_ret
  exact⟨rfl,rfl⟩
 .have b:((s.size:Int)==0)=false:=by simp;intro h;exact h1 (by simp[h])
  by_cases a:s.size>16
  .have c:((16:Int)<(s.size:Int)):=by omega
   go_enter func151,ntmps151
   go_wp2
   go_ret
   exact⟨rfl,rfl⟩
  .have c:¬((16:Int)<(s.size:Int)):=by omega
   have d:(s.toList==[119,111,114,108,100])=true:=by rcases h with h|h|h<;>first|exact absurd h h1|exact absurd h a|exact h
   go_enter func151,ntmps151
   go_wp2
   go_ret
   exact⟨rfl,rfl⟩
theorem zM(s:ByteArray):aW prog 151 [.pv (.val (.string s))] [] [] (.pv (B (fh s))):=by
 refine⟨by kernel_rfl,rfl,λw M g y z k q m f d=>?_⟩
 match y,f with
 |[v],_=>
  have u:Rep w M (.val (.string s)) v:=d 0 _ _ rfl rfl;cases u;have a:Ext (·∈g) w w:=Ext.refl _ _;have c:∀pos,Ext (·∈g) w (w.iter s pos):=λpos=>Ext.alloc _ _ _
  have j:g=[]:=by cases g with
   |nil=>rfl
   |cons b r=>simp at k
  subst j;by_cases h:s.size=0\/s.size>16\/(s.toList==[119,111,114,108,100])=true
  .have hf:fh s=false:=by
    unfold fh;rcases h with h|h|h
    .simp[h]
    .simp;omega
    .simp[h]
   refine(JK s w h).mono ?_;rintro e w' ⟨rfl,rfl⟩;exact⟨_,rfl,a,λi b n h=>by simp at h,by rw[hf];exact .val _⟩
  .have h1:¬s.size=0:=λe=>h (.inl e)
   have p:¬s.size>16:=λe=>h (.inr (.inl e))
   have l:(s.toList==[119,111,114,108,100])=false:=by
    cases hq:s.toList==[119,111,114,108,100]with
    |false=>rfl
    |true=>exact absurd (.inr (.inr hq)) h
   have hf:fh s=eF s:=by
    unfold fh;rw[l]
    have a1:decide (1<=s.size)=true:=by simp;omega
    have o:decide (s.size<=16)=true:=by simp;omega
    rw[a1,o];simp
   refine(Lh s w h1 p l).mono ?_;rintro e w' ⟨rfl,x⟩;rcases x with rfl|⟨pos,rfl⟩
   .exact⟨_,rfl,a,λi b n h=>by simp at h,by rw[hf];exact .val _⟩
   .exact⟨_,rfl,c pos,λi b n h=>by simp at h,by rw[hf];exact .val _⟩
theorem sV{i D A B:Int}(a:0<=i)(d:i<=A)(h1:-B<=D)(c:D<=B):-(A*B)<=i*D/\i*D<=A*B:=by
 have f:0<=B:=by omega
 have e:i*B<=A*B:=Int.mul_le_mul_of_nonneg_right d f;have g:i*D<=i*B:=yAe c a;have b:i*(-B)<=i*D:=yAe h1 a;rw[Int.mul_neg]at b;omega
theorem va(n:Nat):(0:Int)<2^n:=Int.pow_pos (by decide)
theorem JL(a:Int)(n:Nat):a.fdiv (2^n)=a/2^n:=Int.fdiv_eq_ediv_of_nonneg a (Int.le_of_lt (va n))
theorem lC{N B:Int}(hN:0<N)(h1:-B<=a)(b:a<=B):-B<=a/N/\a/N<=B:=by
 have c:0<=B:=by omega
 constructor
 .have:(-B)*N<=a:=by
   have:(-B)*N<=(-B)*1:=Int.mul_le_mul_of_nonpos_left (by omega) (by omega);omega
  exact(yA8 hN).2 this
 .have:a/N<B+1:=(yA9 hN).2 (by
   have:(B+1)*1<=(B+1)*N:=yAe (by omega) (by omega)
   omega)
  omega
def n5(x:Int):Prop:=-2147483648<=x/\x<=2147483648
def EP(N i f t:Int):Int×Int:=(f+min (i*(t-f)) ((i+1)*(t-f))/N,f-(-max (i*(t-f)) ((i+1)*(t-f)))/N)
theorem JM{i f t:Int}(hi:0<=i)(l:i<=1048576)(hf:n5 f)(m:n5 t):rO i d f t=EP (2^d.toNat) i f t:=by
 unfold n5 at hf m;have e:wr (t-f)=t-f:=aa;have c:wr (i+1)=i+1:=aa;have b1:=sV (i:=i) (D:=t-f) (A:=1048577) (B:=4294967296) hi (by omega) (by omega) (by omega);have n:=sV (i:=i+1) (D:=t-f) (A:=1048577) (B:=4294967296) (by omega) (by omega) (by omega) (by omega);have g:wr (i*(t-f))=i*(t-f):=aa;have j:wr ((i+1)*(t-f))=(i+1)*(t-f):=aa;simp only[rO,EP,e,c,g,j,JL];generalize i*(t-f)=a at *;generalize(i+1)*(t-f)=b at *;have k:wr (-max a b)=-max a b:=aa;rw[k];have c1:=lC (a:=min a b) (N:=2^d.toNat) (B:=1048577*4294967296) (va _) (by omega) (by omega);have o:=lC (a:=-max a b) (N:=2^d.toNat) (B:=1048577*4294967296) (va _) (by omega) (by omega);rw[aa (by omega) (by omega),aa (by omega) (by omega)]
def Li(x:AV)(fb:Option bG):Option bG:=match x with
 |.pv (.val (.string s))=>some (.pv (Z s.size),[])
 |_=>fb
@[simp] theorem Te(s:ByteArray)(fb:Option bG):Li (.pv (.val (.string s))) fb=some (.pv (Z s.size),[]):=rfl
theorem Og{ty:TypeId}{pos:String}(x:Operand)(s:ByteArray):
 aU prog ⟨dst,.call ⟨.builtin .len,#[x],#[9]⟩,ty,pos,aft,g⟩ (λ_=>.pv (.val (.string s)))=some (.pv (Z s.size),[]):=by kernel_rfl
@[simp] theorem Xk{ty:TypeId}{pos:String}{ρ:Operand->AV}(x:Operand):
 aU prog ⟨dst,.call ⟨.builtin .len,#[x],#[9]⟩,ty,pos,aft,g⟩ ρ=Li (ρ x) (jH prog ⟨dst,.call ⟨.builtin .len,#[x],#[9]⟩,ty,pos,aft,g⟩ ρ):=by
 unfold Li;split
 .rename_i s b
  rw[<-Og (dst:=dst) (ty:=ty) (pos:=pos) (aft:=aft) (g:=g) x s];refine nQ (by intro _ _ h;cases h) ?_;intro y a;simp[Op.operands,Call.operands]at a;subst a;exact b
 .rfl
theorem AW:(ByteArray.mk #[119,111,114,108,100]).toList=[119,111,114,108,100]:=by decide +kernel
theorem Lj(h:i<s.size):s[i]?=some (s[i]'h):=by simp[h]
theorem P5(s:ByteArray):aR 149 (.val (.string s)) (B (fh s)):=by
 by_cases h1:s.size<1
 .have hf:fh s=false:=by unfold fh;simp;omega
  have g:(s.size:Int)<1:=by omega
  rw[hf];refine Dp func149 λC hP hN=>?_;exact Gy
 have g:¬(s.size:Int)<1:=by omega
 by_cases r:16<s.size
 .have hf:fh s=false:=by unfold fh;simp;omega
  have j:(16:Int)<s.size:=by omega
  rw[hf];refine Dp func149 λC hP hN=>?_;exact Gy
 have j:¬(16:Int)<s.size:=by omega
 cases l:s.toList==[119,111,114,108,100]with
 |true=>
  have hf:fh s=false:=by unfold fh;simp[l]
  have m:(s.toList==(ByteArray.mk #[119,111,114,108,100]).toList)=true:=by rw[AW];exact l
  rw[hf];refine Dp func149 λC hP hN=>?_;exact Gy
 |false=>
  have hf:fh s=eF s:=by
   unfold fh;rw[l]
   have a1:decide (1<=s.size)=true:=by simp;omega
   have q:decide (s.size<=16)=true:=by simp;omega
   rw[a1,q];simp
  have m:(s.toList==(ByteArray.mk #[119,111,114,108,100]).toList)=false:=by rw[AW];exact l
  rw[hf];refine Dp func149 λC hP hN=>?_;refine Gz ?_;refine WP.loopN [] s.size (λi st=>st.t 0=.pv (.val (.string s))/\st.t 3=.pv (Z i)/\∀k(n:k<s.size),k<i->fZ k (s[k]'n).toNat=true) (by simp) ?_;rintro i st hi ⟨g0,g3,f⟩;by_cases c:i<s.size
  .have p:i64.wrap ((i:Int)+1)=(i:Int)+1:=by rw[IntKind.wrap_i64];omega
   have e:(i:Int)<s.size:=by omega
   have o:=Lj c;have d:fZ i (s[i]'c).toNat=false->eF s=false:=jZ c;have a:fZ i (s[i]'c).toNat=true->∀k(n:k<s.size),k<i+1->fZ k (s[k]'n).toNat=true:=λh=>yu rfl h f;generalize s[i]'c=b at d a o
   with_reducible repeat' (first|refine Sp.h ?_|((first|refine Ss.h ?_|(refine Sb.h ?_ ?_ ?_<;>(try intro hgd)<;>try exact Xy))<;>simp -implicitDefEqProofs (maxSteps:=2000000) [hP,hN,g0,g3,e,o,p])|refine X2 ?_ ?_|(refine Xd ?_ ?_<;>intro hcd<;>try exact Xx))
   all_goals clear p hP hN g0 g3 o f l m hf h1 g r j
   all_goals first|(refine d ?_;clear d a;simp[fZ,nY,nZ]at *;done)|(refine d ?_;clear d a;simp[fZ,nY,nZ]at *;omega)|(refine⟨c,a ?_⟩;clear d a;simp[fZ,nY,nZ]at *;done)|(refine⟨c,a ?_⟩;clear d a;simp[fZ,nY,nZ]at *;omega)
  .have e:¬(i:Int)<s.size:=by omega
   refine Gz ?_;exact tJ (λk n=>f k n (by omega))
def fA(x m:Int):Bool:=decide (-m<=x)&&decide (x<=m)
def fk(x y z m:Int):Bool:=fA x m&&fA y m&&fA z m
abbrev oa(x y z:Int):PV:=.val (.agg #[.int .i64 x,.int .i64 y,.int .i64 z])
theorem zj:i64.wrap 1=1:=by decide
theorem AY:i64.wrap 2=2:=by decide
theorem C6:i64.wrap 3=3:=by decide
theorem P6(h:i<=3):i=0\/i=1\/i=2\/i=3:=by omega
theorem Im(x y z:Int):aR 153 (oa x y z) (B (!fk x y z 4194304)):=by
 refine Dp func153 λC hP hN=>?_;refine Gz ?_;refine WP.loopN [] 3 (λi st=>st.t 5=.pv (oa x y z)/\st.t 6=.pv (Z i)/\(0<i->fA x 4194304=true)/\(1<i->fA y 4194304=true)/\(2<i->fA z 4194304=true)) (by simp) ?_;rintro i st hi ⟨h5,h6,a,b,c⟩;rcases P6 hi with rfl|rfl|rfl|rfl
 .skip
  with_reducible repeat' (first|refine Sp.h ?_|((first|refine Ss.h ?_|(refine Sb.h ?_ ?_ ?_<;>(try intro hgd)<;>try exact Xy))<;>simp -implicitDefEqProofs (maxSteps:=2000000) [hP,hN,h5,h6])|refine X2 ?_ ?_|(refine Xd ?_ ?_<;>intro hcd<;>try exact Xx))
  all_goals (simp[fk,fA,zj,AY,C6]at *;first|omega|grind)
 .skip
  with_reducible repeat' (first|refine Sp.h ?_|((first|refine Ss.h ?_|(refine Sb.h ?_ ?_ ?_<;>(try intro hgd)<;>try exact Xy))<;>simp -implicitDefEqProofs (maxSteps:=2000000) [hP,hN,h5,h6])|refine X2 ?_ ?_|(refine Xd ?_ ?_<;>intro hcd<;>try exact Xx))
  all_goals (simp[fk,fA,zj,AY,C6]at *;first|omega|grind)
 .skip
  with_reducible repeat' (first|refine Sp.h ?_|((first|refine Ss.h ?_|(refine Sb.h ?_ ?_ ?_<;>(try intro hgd)<;>try exact Xy))<;>simp -implicitDefEqProofs (maxSteps:=2000000) [hP,hN,h5,h6])|refine X2 ?_ ?_|(refine Xd ?_ ?_<;>intro hcd<;>try exact Xx))
  all_goals (simp[fk,fA,zj,AY,C6]at *;first|omega|grind)
 .skip
  refine Gz ?_
  all_goals (simp[fk,fA,zj,AY,C6]at *;first|omega|grind)
theorem wW(x y z m:Int)(f:0<=m)(e:m<4611686018427387904):aF 81 (oa x y z) (Z m) (B (fk x y z m)):=by
 have d:i64.wrap (0-m)=-m:=(aa (n:=0-m) (by omega) (by omega)).trans (by omega);have a:i64.wrap (-m)=-m:=aa;refine Dp func81 λC hP hN=>?_;refine Gz ?_;refine WP.loopN [] 3 (λi st=>st.t 1=.pv (Z m)/\st.t 2=.ptr 2 0/\st.h 2=some (.box [.pv (Z x),.pv (Z y),.pv (Z z)] true false)/\st.t 5=.pv (Z i)/\(0<i->fA x m=true)/\(1<i->fA y m=true)/\(2<i->fA z m=true)) (by simp) ?_;rintro i st hi ⟨h1,b,c,h5,g,j,k⟩;rcases P6 hi with rfl|rfl|rfl|rfl
 .skip
  with_reducible repeat' (first|refine Sp.h ?_|((first|refine Ss.h ?_|(refine Sb.h ?_ ?_ ?_<;>(try intro hgd)<;>try exact Xy))<;>simp -implicitDefEqProofs (maxSteps:=2000000) [hP,hN,h1,b,c,h5,d,a])|refine X2 ?_ ?_|(refine Xd ?_ ?_<;>intro hcd<;>try exact Xx))
  all_goals (simp[fk,fA,zj,AY,C6]at *;first|omega|grind)
 .skip
  with_reducible repeat' (first|refine Sp.h ?_|((first|refine Ss.h ?_|(refine Sb.h ?_ ?_ ?_<;>(try intro hgd)<;>try exact Xy))<;>simp -implicitDefEqProofs (maxSteps:=2000000) [hP,hN,h1,b,c,h5,d,a])|refine X2 ?_ ?_|(refine Xd ?_ ?_<;>intro hcd<;>try exact Xx))
  all_goals (simp[fk,fA,zj,AY,C6]at *;first|omega|grind)
 .skip
  with_reducible repeat' (first|refine Sp.h ?_|((first|refine Ss.h ?_|(refine Sb.h ?_ ?_ ?_<;>(try intro hgd)<;>try exact Xy))<;>simp -implicitDefEqProofs (maxSteps:=2000000) [hP,hN,h1,b,c,h5,d,a])|refine X2 ?_ ?_|(refine Xd ?_ ?_<;>intro hcd<;>try exact Xx))
  all_goals (simp[fk,fA,zj,AY,C6]at *;first|omega|grind)
 .skip
  refine Gz ?_
  all_goals (simp[fk,fA,zj,AY,C6]at *;first|omega|grind)
def aT(x a b:Int):Bool:=decide (a<=x)&&decide (x<=b)
theorem P7(x m:Int):aF 155 (Z x) (Z m) (B (aT x 1 m)):=by
 refine Dp func155 λC hP hN=>?_
 with_reducible repeat' (first|refine Sp.h ?_|((first|refine Ss.h ?_|(refine Sb.h ?_ ?_ ?_<;>(try intro hgd)<;>try exact Xy))<;>simp -implicitDefEqProofs (maxSteps:=2000000) [hP,hN])|refine X2 ?_ ?_|(refine Xd ?_ ?_<;>intro hcd<;>try exact Xx))
 all_goals (first|(simp_all[aT];done)|((try simp_all[aT])<;>(try omega)<;>grind))
theorem Nq(x a b:Int):gu 80 (Z x) (Z a) (Z b) (B (aT x a b)):=by
 refine Dp func80 λC hP hN=>?_
 with_reducible repeat' (first|refine Sp.h ?_|((first|refine Ss.h ?_|(refine Sb.h ?_ ?_ ?_<;>(try intro hgd)<;>try exact Xy))<;>simp -implicitDefEqProofs (maxSteps:=2000000) [hP,hN])|refine X2 ?_ ?_|(refine Xd ?_ ?_<;>intro hcd<;>try exact Xx))
 all_goals (first|(simp_all[aT];done)|((try simp_all[aT])<;>(try omega)<;>grind))
def AZ(k:Int):Int:=if k=1\/k=2\/k=3 then 524288 else if k=4\/k=5\/k=6 then 4194304 else 0
def dp(k:Int):Int:=if k=0 then 0 else if k=1\/k=2\/k=3 then 524288 else 4194304
theorem Uf(k:Int):aR 154 (Z k) (Z (AZ k)):=by
 refine Dp func154 λC hP hN=>?_
 with_reducible repeat' (first|refine Sp.h ?_|((first|refine Ss.h ?_|(refine Sb.h ?_ ?_ ?_<;>(try intro hgd)<;>try exact Xy))<;>simp -implicitDefEqProofs (maxSteps:=2000000) [hP,hN])|refine X2 ?_ ?_|(refine Xd ?_ ?_<;>intro hcd<;>try exact Xx))
 all_goals (simp[AZ]at *;first|omega|grind)
theorem P8(k:Int):aR 150 (Z k) (Z (dp k)):=by
 refine Dp func150 λC hP hN=>?_
 with_reducible repeat' (first|refine Sp.h ?_|((first|refine Ss.h ?_|(refine Sb.h ?_ ?_ ?_<;>(try intro hgd)<;>try exact Xy))<;>simp -implicitDefEqProofs (maxSteps:=2000000) [hP,hN])|refine X2 ?_ ?_|(refine Xd ?_ ?_<;>intro hcd<;>try exact Xx))
 all_goals (simp[dp]at *;first|omega|grind)
theorem GE{k:Int}(a:0<=k)(h6:k<=6):AZ k=dp k:=by
 have:k=0\/k=1\/k=2\/k=3\/k=4\/k=5\/k=6:=by omega
 rcases this with rfl|rfl|rfl|rfl|rfl|rfl|rfl<;>rfl
def ja(a b:ByteArray):Bool:=a.toList==b.toList
theorem Ug(js:List J)(ms:List Ms)(name:ByteArray)(e:js.length<=9223372036854775807):aF 152 (eK js ms) (.val (.string name)) (Z (lV (λj=>ja j.name name) js)):=by
 refine Dp func152 λC hP hN=>?_;refine Gz ?_;refine WP.loopN [] js.length (λi st=>st.t 1=.pv (.val (.string name))/\st.t 2=.ptr 2 0/\st.h 2=some (.box [.pv (.sl (js.map aO)),.pv (.sl (ms.map aX))] true false)/\st.t 8=.pv (Z js.length)/\st.t 9=.pv (Z i)/\∀j x,j<i->js[j]?=some x->ja x.name name=false) (by simp) ?_;rintro i st hi ⟨h1,b,d,h8,c,hq⟩;by_cases a:i<js.length
 .have f:=ab a e
  with_reducible repeat' (first|refine Sp.h ?_|((first|refine Ss.h ?_|(refine Sb.h ?_ ?_ ?_<;>(try intro hgd)<;>try exact Xy))<;>simp -implicitDefEqProofs (maxSteps:=2000000) [hP,hN,h1,b,d,h8,c,a,f])|refine X2 ?_ ?_|(refine Xd ?_ ?_<;>intro hcd<;>try exact Xx))
  .exact(lB a hq hcd).symm
  .simpa using kS a hq hcd
 .skip
  refine Gz ?_;exact(qb (rM a hq)).symm
def mW(js:List J)(i:Nat)(name:ByteArray):Bool:=(js.take i).any λj=>ja j.name name
theorem Lk(h:i<js.length):(lV (λj=>ja j.name js[i].name) js !=(i:Int))=mW js i js[i].name:=by
 have o:ja js[i].name js[i].name=true:=by simp[ja]
 cases hd:mW js i js[i].name with
 |false=>
  have:lV (λj=>ja j.name js[i].name) js=i:=lB h (λj x l g=>by
   rw[mW,yAL]at hd;have n:x∈js.take i:=An (by rw[Zy,Zd l];exact g)
   simpa using hd x n) o
  rw[this];simp
 |true=>
  rw[mW,yAT]at hd;obtain⟨x,g,hp⟩:=hd;obtain⟨k,b⟩:=ZF g;rw[Zy]at b;split at b
  .rename_i d
   simp only[bne_iff_ne,ne_eq];intro a;unfold lV at a
   cases hf:js.findIdx? (λj=>ja j.name js[i].name)with
   |none=>
    rw[hf]at a;simp at a
   |some m=>
    rw[hf]at a;have c:(m:Int)=(i:Int):=a
    have a:m=i:=by omega
    clear c;subst a;rw[yA2]at hf;obtain⟨p,_,f⟩:=hf;have e:=(th.1 b);have:=f k d;rw[e.2]at this;exact this hp
  .cases b
def bJ(js:List J)(i:Nat)(j:J):Int:=
 if(!fh j.name||mW js i j.name)=true then 802 else if j.kind<0\/6<j.kind then 803 else if j.parent< -1\/(i:Int)<=j.parent then 804 else if fk j.ox j.oy j.oz 4194304=false then 805
 else if j.hi<j.lo\/j.lo< -dp j.kind\/dp j.kind<j.hi then 806 else if(aT j.w 1 1024&&aT j.sp 1 1048576&&aT j.ac 1 1048576&&aT j.tq 1 1099511627776)=false then 807 else 0
theorem tK(k:Int):0<=dp k/\dp k<=4194304:=by unfold dp;repeat' split
                                             all_goals omega
theorem P9(js:List J)(ms:List Ms)(i:Nat)(x:js.length<=9223372036854775807)(hi:i<js.length):aF 106 (eK js ms) (Z i) (Z (bJ js i js[i])):=by
 have d:=an hi;have a:=Lk hi;have e:=Ug js ms js[i].name x;generalize b:js[i]=j at d a e|-;have y:=tK j.kind;have l:i64.wrap (0-dp j.kind)=-dp j.kind:=(aa (n:=0-dp j.kind) (by omega) (by omega)).trans (by omega);have c:i64.wrap (-dp j.kind)=-dp j.kind:=aa;generalize lV (λk=>ja k.name j.name) js=q at a e;refine Dp func106 λC hP hN=>?_
 cases hn:fh j.name with
 |false=>
  have s:=@zM;refine GT (go d b hn hi) ?_
  all_goals simp[bJ,hn]
 |true=>
  cases hd:mW js i j.name with
  |true=>
   rw[hd]at a;have s:=@zM;refine GT (it d b hn hi a) ?_
   all_goals simp[bJ,hn,hd]
  |false=>
   rw[hd]at a;by_cases g:j.kind<0\/6<j.kind
   .skip
    with_reducible repeat' (first|refine Sp.h ?_|((first|refine Ss.h ?_|refine Sc.h (zM _) ?_|refine Sc.h (e) ?_|(refine Sb.h ?_ ?_ ?_<;>(try intro hgd)<;>try exact Xy))<;>simp -implicitDefEqProofs (maxSteps:=2000000) [hP,hN,d,b,hn,hi,a])|refine X2 ?_ ?_|(refine Xd ?_ ?_<;>intro hcd<;>try exact Xx))
    all_goals (first|(simp[bJ,hn,hd,g];done)|(exfalso;simp at *;omega))
   .have m:AZ j.kind=dp j.kind:=GE (by omega) (by omega)
    have cl:=Uf j.kind;rw[m]at cl
    have k1:¬j.kind<0:=by omega
    have k2:¬6<j.kind:=by omega
    by_cases hp:j.parent< -1\/(i:Int)<=j.parent
    .skip
     with_reducible repeat' (first|refine Sp.h ?_|((first|refine Ss.h ?_|refine Sc.h (zM _) ?_|refine Sc.h (e) ?_|(refine Sb.h ?_ ?_ ?_<;>(try intro hgd)<;>try exact Xy))<;>simp -implicitDefEqProofs (maxSteps:=2000000) [hP,hN,d,b,hn,hi,a,k1,k2])|refine X2 ?_ ?_|(refine Xd ?_ ?_<;>intro hcd<;>try exact Xx))
     all_goals (first|(simp[bJ,hn,hd,g,hp];done)|(exfalso;simp at *;omega))
    .have o:¬j.parent< -1:=by omega
     have p:¬(i:Int)<=j.parent:=by omega
     cases f:fk j.ox j.oy j.oz 4194304 with
     |false=>
      have s:=@zM;have z:=@Im;refine GT (zAc d b hn hi a k1 k2 o p f) ?_
      all_goals (simp[bJ,hn,hd,g,hp,f])
     |true=>
      by_cases r:j.hi<j.lo\/j.lo< -dp j.kind\/dp j.kind<j.hi
      .skip
       with_reducible repeat' (first|refine Sp.h ?_|((first|refine Ss.h ?_|refine Sc.h (zM _) ?_|refine Sc.h (e) ?_|refine Sc.h (Im _ _ _) ?_|refine Sc.h (cl) ?_|(refine Sb.h ?_ ?_ ?_<;>(try intro hgd)<;>try exact Xy))<;>simp -implicitDefEqProofs (maxSteps:=2000000) [hP,hN,d,b,hn,hi,a,k1,k2,o,p,f,l,c])|refine X2 ?_ ?_|(refine Xd ?_ ?_<;>intro hcd<;>try exact Xx))
       all_goals (first|(simp[bJ,hn,hd,g,hp,f,r];done)|(exfalso;simp at *;omega))
      .have b1:¬j.hi<j.lo:=by omega
       have u:¬j.lo< -dp j.kind:=by omega
       have v:¬dp j.kind<j.hi:=by omega
       with_reducible repeat' (first|refine Sp.h ?_|((first|refine Ss.h ?_|refine Sc.h (zM _) ?_|refine Sc.h (e) ?_|refine Sc.h (Im _ _ _) ?_|refine Sc.h (cl) ?_|refine Sc.h (P7 _ _) ?_|(refine Sb.h ?_ ?_ ?_<;>(try intro hgd)<;>try exact Xy))<;>simp -implicitDefEqProofs (maxSteps:=2000000) [hP,hN,d,b,hn,hi,a,k1,k2,o,p,f,l,c,b1,u,v])|refine X2 ?_ ?_|(refine Xd ?_ ?_<;>intro hcd<;>try exact Xx))
       all_goals (rw[bJ,Y6 (by simp[hn,hd]),Y6 g,Y6 hp,Y6 (by simp[f]),Y6 r];simp_all)
abbrev Uh(j:J):List AV:=[.pv (.val (.string j.name)),.pv (Z j.kind),.pv (Z j.parent),.pv (Z j.ox),.pv (Z j.oy),.pv (Z j.oz),.pv (Z j.lo),.pv (Z j.hi),.pv (Z j.w),.pv (Z j.sp),.pv (Z j.ac),.pv (Z j.tq)]
theorem Oh{n:ByteArray}(a:k<i)(b:k<js.length)(h:ja js[k].name n=true):mW js i n=true:=by
 rw[mW,yAT];exact⟨js[k],An (i:=k) (by rw[Zy,Zd a];exact an b),h⟩
theorem Qa{n:ByteArray}(h:∀m x,m<i->js[m]?=some x->ja x.name n=false):mW js i n=false:=by
 rw[mW,yAL];intro x b;obtain⟨m,a⟩:=ZF b;rw[Zy]at a;split at a
 .rename_i h';simp[h m x h' a]
 .cases a
theorem Tf(js:List J)(i:Nat)(D:js.length<=9223372036854775807)(hi:i<js.length):aF 94 (.sl (js.map aO)) (Z i) (Z (bJ js i js[i])):=by
 have s:=an hi;generalize l:js[i]=j at s|-;have F:=tK j.kind;have g:i64.wrap (0-dp j.kind)=-dp j.kind:=(aa (n:=0-dp j.kind) (by omega) (by omega)).trans (by omega);have c:i64.wrap (-dp j.kind)=-dp j.kind:=aa;refine Dp func94 λC hP hN=>?_
 cases hn:fh j.name with
 |false=>
  have E:=@P5;refine GT (go s l hn hi) ?_
  all_goals simp[bJ,hn]
 |true=>
  have E:=@P5;refine GT (go s l hn hi) ?_;refine WP.loopN [] i (λk st=>st.t 0=.pv (.sl (js.map aO))/\st.t 1=.pv (Z i)/\st.t 5=.ptr 5 0/\st.h 5=some (.box (Uh j) true false)/\st.t 6=.pv (Z k)/\∀m x,m<k->js[m]?=some x->ja x.name j.name=false) (by simp) ?_;rintro k st d ⟨g0,g1,g5,a,f,hq⟩;by_cases q:k<i
  .have b:k<js.length:=by omega
   have G:=ab b D
   have z:(k:Int)<(i:Int):=by omega
   cases o:ja js[k].name j.name with
   |true=>
    have r:(js[k].name.toList==j.name.toList)=true:=o;have hd:=Oh q b o;refine Gz ?_
    all_goals simp[bJ,hn,hd]
   |false=>
    have r:(js[k].name.toList==j.name.toList)=false:=o;refine Gz ?_
    all_goals simpa using kS b hq o
  .have p:k=i:=by omega
   subst p;have hd:=Qa hq;by_cases d:j.kind<0\/6<j.kind
   .skip
    with_reducible repeat' (first|refine Sp.h ?_|((first|refine Wd ?_|refine Ss.h ?_|(refine Sb.h ?_ ?_ ?_<;>(try intro hgd)<;>try exact Xy))<;>simp -implicitDefEqProofs (maxSteps:=2000000) [hP,hN,g0,g1,g5,a,f]<;>try refine Ya ?_)|refine X2 ?_ ?_|(refine Xd ?_ ?_<;>intro hcd<;>try exact Xx))
    all_goals (first|(simp[bJ,hn,hd,d];done)|(exfalso;simp at *;omega))
   .have k1:¬j.kind<0:=by omega
    have k2:¬6<j.kind:=by omega
    by_cases hp:j.parent< -1\/(k:Int)<=j.parent
    .skip
     with_reducible repeat' (first|refine Sp.h ?_|((first|refine Wd ?_|refine Ss.h ?_|(refine Sb.h ?_ ?_ ?_<;>(try intro hgd)<;>try exact Xy))<;>simp -implicitDefEqProofs (maxSteps:=2000000) [hP,hN,g0,g1,g5,a,f,k1,k2]<;>try refine Ya ?_)|refine X2 ?_ ?_|(refine Xd ?_ ?_<;>intro hcd<;>try exact Xx))
     all_goals (first|(simp[bJ,hn,hd,d,hp];done)|(exfalso;simp at *;omega))
    .have u:¬j.parent< -1:=by omega
     have v:¬(k:Int)<=j.parent:=by omega
     cases e:fk j.ox j.oy j.oz 4194304 with
     |false=>
      with_reducible repeat' (first|refine Sp.h ?_|((first|refine Wd ?_|refine Ss.h ?_|refine Sc.h (wW _ _ _ _ (by decide) (by decide)) ?_|(refine Sb.h ?_ ?_ ?_<;>(try intro hgd)<;>try exact Xy))<;>simp -implicitDefEqProofs (maxSteps:=2000000) [hP,hN,g0,g1,g5,a,f,k1,k2,u,v,e]<;>try refine Ya ?_)|refine X2 ?_ ?_|(refine Xd ?_ ?_<;>intro hcd<;>try exact Xx))
      all_goals (simp[bJ,hn,hd,d,hp,e])
     |true=>
      by_cases y:j.hi<j.lo\/j.lo< -dp j.kind\/dp j.kind<j.hi
      .skip
       with_reducible repeat' (first|refine Sp.h ?_|((first|refine Wd ?_|refine Ss.h ?_|refine Sc.h (wW _ _ _ _ (by decide) (by decide)) ?_|refine Sc.h (P8 _) ?_|(refine Sb.h ?_ ?_ ?_<;>(try intro hgd)<;>try exact Xy))<;>simp -implicitDefEqProofs (maxSteps:=2000000) [hP,hN,g0,g1,g5,a,f,k1,k2,u,v,e,g,c]<;>try refine Ya ?_)|refine X2 ?_ ?_|(refine Xd ?_ ?_<;>intro hcd<;>try exact Xx))
       all_goals (first|(simp[bJ,hn,hd,d,hp,e,y];done)|(exfalso;simp at *;omega))
      .have b1:¬j.hi<j.lo:=by omega
       have A:¬j.lo< -dp j.kind:=by omega
       have B:¬dp j.kind<j.hi:=by omega
       with_reducible repeat' (first|refine Sp.h ?_|((first|refine Wd ?_|refine Ss.h ?_|refine Sc.h (wW _ _ _ _ (by decide) (by decide)) ?_|refine Sc.h (P8 _) ?_|refine Sc.h (Nq _ _ _) ?_|(refine Sb.h ?_ ?_ ?_<;>(try intro hgd)<;>try exact Xy))<;>simp -implicitDefEqProofs (maxSteps:=2000000) [hP,hN,g0,g1,g5,a,f,k1,k2,u,v,e,g,c,b1,A,B]<;>try refine Ya ?_)|refine X2 ?_ ?_|(refine Xd ?_ ?_<;>intro hcd<;>try exact Xx))
       all_goals (rw[bJ,Y6 (by simp[hn,hd]),Y6 d,Y6 hp,Y6 (by simp[e]),Y6 y];simp_all)
def dQ(n:Nat)(m:Ms):Bool:=decide (0<=m.link)&&decide (m.link<n)&&aT m.mass 1 65536&&fk m.px m.py m.pz 4194304
theorem Ui(js:List J)(ms:List Ms)(m:Ms):aF 109 (eK js ms) (aX m) (B (dQ js.length m)):=by
 refine Dp func109 λC hP hN=>?_
 with_reducible repeat' (first|refine Sp.h ?_|((first|refine Ss.h ?_|refine Sc.h (P7 _ _) ?_|refine Sc.h (Im _ _ _) ?_|(refine Sb.h ?_ ?_ ?_<;>(try intro hgd)<;>try exact Xy))<;>simp -implicitDefEqProofs (maxSteps:=2000000) [hP,hN])|refine X2 ?_ ?_|(refine Xd ?_ ?_<;>intro hcd<;>try exact Xx))
 all_goals (simp_all[dQ]<;>omega)
theorem Uj(js:List J)(ms:List Ms)(m:Ms):aF 108 (aX m) (.rptr (eK js ms) 0) (B (!dQ js.length m)):=by
 refine Dp func108 λC hP hN=>?_;have a:=@Ui;exact GS trivial
theorem Uk(f:FuncId)(c:PV)(p:Ms->Bool)(xs:List Ms)(b:xs.length<=9223372036854775807)(hf:∀x,aW prog f [.pv (aX x),.pv (.rptr c 0)] [] [] (.pv (B (p x)))):aF 156 (.sl (xs.map aX)) (.fn (.func f) [] [.rptr c 0]) (Z (lV p xs)):=by
 refine Dp func156 λC hP hN=>?_;refine Gz ?_;refine WP.loopN [] xs.length (λi st=>st.t 0=.pv (.sl (xs.map aX))/\st.t 1=.pv (.fn (.func f) [] [.rptr c 0])/\st.t 7=.pv (Z xs.length)/\st.t 8=.pv (Z i)/\∀j x,j<i->xs[j]?=some x->p x=false) (by simp) ?_;rintro i st hi ⟨h0,h1,h7,h8,hq⟩;by_cases a:i<xs.length
 .have d:=ab a b
  with_reducible repeat' (first|refine Sp.h ?_|((first|refine Ss.h ?_|refine Sc.h (hf _) ?_|(refine Sb.h ?_ ?_ ?_<;>(try intro hgd)<;>try exact Xy))<;>simp -implicitDefEqProofs (maxSteps:=2000000) [hP,hN,h0,h1,h7,h8,a,d])|refine X2 ?_ ?_|(refine Xd ?_ ?_<;>intro hcd<;>try exact Xx))
  .exact(lB a hq hcd).symm
  .simpa using kS a hq hcd
 .skip
  refine Gz ?_;exact(qb (rM a hq)).symm
theorem Ul(f:FuncId)(c:PV)(p:Ms->Bool)(xs:List Ms)(a:xs.length<=9223372036854775807)(hf:∀x,aW prog f [.pv (aX x),.pv (.rptr c 0)] [] [] (.pv (B (p x)))):aF 107 (.sl (xs.map aX)) (.fn (.func f) [] [.rptr c 0]) (B (xs.any p)):=by
 refine Dp func107 λC hP hN=>?_;have b:=Uk _ _ _ _ a hf;refine GT trivial ?_
 all_goals (first|(simp_all[kR];done)|((try simp_all[kR])<;>(try omega)<;>grind))
def jb(js:List J):Int:=match(js.mapIdx (bJ js)).find? (λe=>e !=0)with
 |some e=>e
 |none=>0
theorem sW(js:List J):jb js=match(js.mapIdx (bJ js)).find? (λe=>e !=0)with
 |some e=>e
 |none=>0:=rfl
theorem zk(b:i<js.length)(hq:∀k x,k<i->js[k]?=some x->bJ js k x=0)(c:bJ js i js[i]≠0):jb js=bJ js i js[i]:=by
 rw[sW]
 have:(js.mapIdx (bJ js)).find? (λe=>e !=0)=some (bJ js i js[i]):=by
  rw[yBd];refine⟨by simpa using c,i,by simpa using b,by simp,λk d=>?_⟩
  have a:k<js.length:=by omega
  simp[hq k js[k] d (an a)]
 rw[this]
theorem vb(hq:∀(k:Nat) x,js[k]?=some x->bJ js k x=0):jb js=0:=by
 rw[sW]
 have:(js.mapIdx (bJ js)).find? (λe=>e !=0)=none:=by
  rw[yAh];intro e a;simp only[List.mem_mapIdx]at a;obtain⟨i,hi,rfl⟩:=a;simp[hq i js[i] (an hi)]
 rw[this]
theorem EQ(b:i<js.length)(hq:∀k x,k<i->js[k]?=some x->bJ js k x=0)(c:bJ js i js[i]=0):∀k x,k<i+1->js[k]?=some x->bJ js k x=0:=by
 intro k x d a;by_cases e:k=i
 .subst e;rw[an b]at a;injection a with a;subst a;exact c
 .exact hq k x (by omega) a
def aP(js:List J)(ms:List Ms):Int:=if js.length=0\/10<js.length then 801 else if jb js≠0 then jb js else if(decide (32<ms.length)||ms.any λm=>!dQ js.length m)=true then 808 else 0
theorem C7(js:List J)(ms:List Ms)(u:js.length<=9223372036854775807)(B:ms.length<=9223372036854775807):aR 65 (eK js ms) (Z (aP js ms)):=by
 by_cases h0:js.length=0
 .have q:aP js ms=801:=by simp[aP,h0]
  have o:js=[]:=ZC h0;rw[q];subst o;refine Dp func65 λC hP hN=>?_;exact Gy
 have E:((js.length:Int)==0)=false:=by simp;intro h;exact h0 (by rw[h];rfl)
 by_cases h1:10<js.length
 .have q:aP js ms=801:=by simp[aP,h1]
  have p:(10:Int)<js.length:=by omega
  rw[q];refine Dp func65 λC hP hN=>?_;exact Gy
 have p:¬(10:Int)<js.length:=by omega
 have s:aP js ms=if jb js≠0 then jb js else if(decide (32<ms.length)||ms.any λm=>!dQ js.length m)=true then 808 else 0:=by
  unfold aP;rw[Y6 (by omega)]
 rw[s];generalize v:(if(decide (32<ms.length)||ms.any λm=>!dQ js.length m)=true then(808:Int)else 0)=r;refine Dp func65 λC hP hN=>?_;refine Gz ?_;refine WP.loopN [] js.length (λi st=>st.t 1=.ptr 1 0/\st.h 1=some (.box [.pv (.sl (js.map aO)),.pv (.sl (ms.map aX))] true false)/\st.t 17=.pv (Z js.length)/\st.t 18=.pv (Z i)/\∀k x,k<i->js[k]?=some x->bJ js k x=0) (by simp) ?_;rintro i st hi ⟨g1,l,e,f,hq⟩;by_cases a:i<js.length
 .have z:=ab a u
  by_cases c:bJ js i js[i]=0
  .have d:(bJ js i js[i]!=0)=false:=by simp[c]
   have D:=P9 js ms i u a;refine GT (zAb g1 l e f a z d c) ?_
   all_goals simpa using EQ a hq c
  .have d:(bJ js i js[i]!=0)=true:=by simp[c]
   have hf:=zk a hq c;have D:=P9 js ms i u a;refine GT (zAb g1 l e f a z d c) ?_
   all_goals simp[hf,c]
 .have hf:jb js=0:=vb (λk x A=>hq k x (by have:=(th.1 A).1;omega) A)
  have y:=Ul 108 (eK js ms) (λm=>!dQ js.length m) ms B (λm=>Uj js ms m);rw[hf];by_cases g:32<ms.length
  .have j:(32:Int)<ms.length:=by omega
   have n:r=808:=by rw[<-v];simp[g]
   exact Gy
  .have j:¬(32:Int)<ms.length:=by omega
   cases b:ms.any λm=>!dQ js.length m with
   |true=>
    rw[b]at y
    have n:r=808:=by rw[<-v,b];simp
    exact Gy
   |false=>
    rw[b]at y
    have n:r=0:=by rw[<-v,b];simp[g]
    exact Gy
theorem Oi(h:i<xs.length)(hp:p xs[i]=true):xs.any p=true:=yAT.2 ⟨_,Zs h,hp⟩
theorem Qb(h:∀(i:Nat) x,xs[i]?=some x->p x=false):xs.any p=false:=by
 rw[yAL];intro x a;obtain⟨i,hi⟩:=ZF a;simp[h i x hi]
theorem qF(js:List J)(ms:List Ms)(B:js.length<=9223372036854775807)(D:ms.length<=9223372036854775807):aR 52 (eK js ms) (Z (aP js ms)):=by
 by_cases h0:js.length=0
 .have A:aP js ms=801:=by simp[aP,h0]
  have y:js=[]:=ZC h0;rw[A];subst y;refine Dp func52 λC hP hN=>?_;exact Gy
 have F:¬(js.length:Int)<1:=by omega
 have n1:¬js.length<1:=by omega
 by_cases h1:10<js.length
 .have A:aP js ms=801:=by simp[aP,h1]
  have z:(10:Int)<js.length:=by omega
  rw[A];refine Dp func52 λC hP hN=>?_;exact Gy
 have z:¬(10:Int)<js.length:=by omega
 have f:aP js ms=if jb js≠0 then jb js else if(decide (32<ms.length)||ms.any λm=>!dQ js.length m)=true then 808 else 0:=by
  unfold aP;rw[Y6 (by omega)]
 rw[f];generalize u:(if(decide (32<ms.length)||ms.any λm=>!dQ js.length m)=true then(808:Int)else 0)=r;refine Dp func52 λC hP hN=>?_;refine Gz ?_;refine WP.loopN [] js.length (λi st=>st.t 1=.ptr 1 0/\st.h 1=some (.box [.pv (.sl (js.map aO)),.pv (.sl (ms.map aX))] true false)/\st.h 6=none/\st.t 3=.pv (Z i)/\∀k x,k<i->js[k]?=some x->bJ js k x=0) (by simp) ?_;rintro i st hi ⟨g1,b,c,g3,hq⟩;by_cases a:i<js.length
 .have l:=ab a B
  by_cases g:bJ js i js[i]=0
  .have j:(bJ js i js[i]!=0)=false:=by simp[g]
   have E:=Tf js i B a;refine GT (zAb g1 b c g3 a l j g) ?_
   all_goals simpa using EQ a hq g
  .have j:(bJ js i js[i]!=0)=true:=by simp[g]
   have hf:=zk a hq g;have E:=Tf js i B a;refine GT (zAb g1 b c g3 a l j g) ?_
   all_goals simp[hf,g]
 .have hf:jb js=0:=vb (λk x n=>hq k x (by have:=(th.1 n).1;omega) n)
  rw[hf];by_cases o:32<ms.length
  .have q:(32:Int)<ms.length:=by omega
   have e:r=808:=by rw[<-u];simp[o]
   exact Gy
  .have q:¬(32:Int)<ms.length:=by omega
   refine Gz ?_;refine WP.loopN [6] ms.length (λi st=>st.t 1=.ptr 1 0/\st.h 1=some (.box [.pv (.sl (js.map aO)),.pv (.sl (ms.map aX))] true false)/\st.h 6=none/\st.t 5=.pv (Z i)/\∀k x,k<i->ms[k]?=some x->(!dQ js.length x)=false) (by simp[g1,b,c]) ?_;clear g1 b c g3 hq;rintro i st hi ⟨g1,b,c,g5,hq⟩;by_cases a:i<ms.length
   .have l:=ab a D
    have n:=an a
    cases s:dQ js.length ms[i]with
    |false=>
     have d:(ms.any λm=>!dQ js.length m)=true:=Oi a (by simp[s])
     have e:r=808:=by rw[<-u,d];simp
     clear u d
     with_reducible repeat' (first|refine Sp.h ?_|((first|refine Ss.h ?_|refine Sc.h (wW _ _ _ _ (by decide) (by decide)) ?_|refine Sc.h (Nq _ _ _) ?_|(refine Sb.h ?_ ?_ ?_<;>(try intro hgd)<;>try exact Xy))<;>simp -implicitDefEqProofs (maxSteps:=2000000) [hP,hN,g1,b,c,g5,a,l,e])|refine X2 ?_ ?_|(refine Xd ?_ ?_<;>intro hcd<;>try exact Xx))
     all_goals (exfalso;clear hq hP hN g1 b c g5 l e f hf;simp[dQ]at *;grind)
    |true=>
     have v:=kS (p:=λm=>!dQ js.length m) a hq (by simp[s]);clear u hq
     with_reducible repeat' (first|refine Sp.h ?_|((first|refine Ss.h ?_|refine Sc.h (wW _ _ _ _ (by decide) (by decide)) ?_|refine Sc.h (Nq _ _ _) ?_|(refine Sb.h ?_ ?_ ?_<;>(try intro hgd)<;>try exact Xy))<;>simp -implicitDefEqProofs (maxSteps:=2000000) [hP,hN,g1,b,c,g5,a,l])|refine X2 ?_ ?_|(refine Xd ?_ ?_<;>intro hcd<;>try exact Xx))
     all_goals first|(simpa using v)|(exfalso;clear v hP hN g1 b c g5 l f hf;simp[dQ]at *;grind)
   .have d:(ms.any λm=>!dQ js.length m)=false:=Qb (λk x n=>hq k x (by have:=(th.1 n).1;omega) n)
    have e:r=0:=by rw[<-u,d];simp[o]
    exact Gy
theorem zN(h:d<=20):(2:Int)^d.toNat<=1048576:=by
 have hp:∀n:Nat,n<=20->(2:Int)^n<=1048576:=by decide
 exact hp _ (by omega)
theorem Ll:bF p xs=true↔∀x∈xs,p x=true:=by simp[bF]
theorem Lm{β:Type}{f:α->β->Bool}{ys:List β}:jI f xs ys=true↔∀(i:Nat)(h:i<xs.length)(h':i<ys.length),f xs[i] ys[i]=true:=by
 unfold jI;rw[L4];constructor
 .intro h i hi a
  exact h (f xs[i] ys[i]) (by
   rw[yAq]
   exact⟨i,by simp;omega,by simp⟩)
 .intro h x b
  obtain⟨i,hi,rfl⟩:=yAq.1 b;simp only[List.length_zipWith]at hi;simpa using h i (by omega) (by omega)
section
variable {p q:List Int} {d i:Int}
end
section
variable {a b:List (Int×Int)}
end
section
variable {b:List (Int×Int)} {k:Nat}
end
def vd(j:J)(a b:Int):Int:=wr (j.w*max (wr (b-a)) (wr (a-b)))
def jx(js:List J)(p q:List Int):Nat->Int
 |0=>0
 |i+1=>match js[i]?,p[i]?,q[i]? with
  |some j,some a,some b=>wr (jx js p q i+vd j a b)
  |_,_,_=>jx js p q i
def rS(js:List J)(ms:List Ms)(p q:List Int):Bool:=decide (p.length=js.length)&&decide (q.length=js.length)&&bF cJ p&&bF cJ q&&decide (aP js ms=0)
def ew(js:List J)(ms:List Ms)(p q:List Int):Int:=if rS js ms p q then jx js p q js.length else 0
theorem A1{p q:List Int}(h1:i<js.length)(a:i<p.length)(b:i<q.length):jx js p q (i+1)=wr (jx js p q i+vd js[i] p[i] q[i]):=by
 simp[jx,h1,a,b]
theorem Um(js:List J)(ms:List Ms)(p q:List Int)(f:js.length<=9223372036854775807)(j:ms.length<=9223372036854775807)(hp:p.length<=9223372036854775807)(hq:q.length<=9223372036854775807):gu 113 (eK js ms) (zs p) (zs q) (Z (ew js ms p q)):=by
 cases c:rS js ms p q with
 |false=>
  have n:ew js ms p q=0:=by simp[ew,c]
  rw[n];refine Dp func113 λC hP hN=>?_;by_cases d:p.length=js.length
  .by_cases e:q.length=js.length
   .have a:((p.length:Int)!=js.length)=false:=by simp[d]
    have b:((q.length:Int)!=js.length)=false:=by simp[e]
    have v:q.length=p.length:=by omega
    have u:(bF cJ p&&bF cJ q&&decide (aP js ms=0))=false:=by simpa[rS,d,e]using c
    have o:=tH _ hp;have r:=tH _ hq;have s:=C7 js ms f j;exact GS (it d e v a b)
    all_goals simp_all
   .have b:((q.length:Int)!=js.length)=true:=by simp;omega
    have o:=tH _ hp;have r:=tH _ hq;have s:=C7 js ms f j;exact GS (be d e b)
  .have a:((p.length:Int)!=js.length)=true:=by simp;omega
   have o:=tH _ hp;have r:=tH _ hq;have s:=C7 js ms f j;exact GS (gA d a)
 |true=>
  have n:ew js ms p q=jx js p q js.length:=by simp[ew,c]
  rw[n];simp only[rS,up,Is]at c;obtain⟨⟨⟨⟨d,e⟩,s1⟩,s2⟩,A⟩:=c
  have a:((p.length:Int)!=js.length)=false:=by simp[d]
  have b:((q.length:Int)!=js.length)=false:=by simp[e]
  refine Dp func113 λC hP hN=>?_;have o:=tH _ hp;have r:=tH _ hq;have s:=C7 js ms f j;refine GT (zAa d e a b s1 s2 A) ?_;refine WP.loopN [10] js.length (λi st=>st.t 1=.pv (zs p)/\st.t 2=.pv (zs q)/\st.t 40=.pv (.sl (js.map aO))/\st.t 41=.pv (Z js.length)/\st.t 42=.pv (Z i)/\st.t 8=.pv (Z (jx js p q i))/\st.h 10=none) (by simp[jx]) ?_;rintro i st hi ⟨g1,g2,x,y,z,D,E⟩;by_cases g:i<js.length
  .have F:=ab g f
   have l:i<p.length:=by omega
   have m:i<q.length:=by omega
   have B:=A1 g l m;refine Gz ?_
   all_goals simp[B,vd]
  .have k:i=js.length:=by omega
   subst k;exact Gy
theorem Qc(js:List J)(ms:List Ms)(p q:List Int)(j:js.length<=9223372036854775807)(k:ms.length<=9223372036854775807)(hp:p.length<=9223372036854775807)(hq:q.length<=9223372036854775807):gu 96 (eK js ms) (zs p) (zs q) (Z (ew js ms p q)):=by
 cases c:rS js ms p q with
 |false=>
  have x:ew js ms p q=0:=by simp[ew,c]
  rw[x];by_cases d:aP js ms=0
  .have a:(aP js ms !=0)=false:=by simp[d]
   refine Dp func96 λC hP hN=>?_
   cases s1:bF cJ p with
   |false=>
    have m:=nX _ hp;have n:=nX _ hq;have o:=qF js ms j k;exact GS (be a d s1)
   |true=>
    cases s2:bF cJ q with
    |false=>
     have m:=nX _ hp;have n:=nX _ hq;have o:=qF js ms j k;exact GS (go a d s1 s2)
    |true=>
     by_cases f:p.length=js.length
     .have r:¬q.length=js.length:=λe=>by simp[rS,f,e,s1,s2,d]at c
      have b:((p.length:Int)!=js.length)=false:=by simp[f]
      have g:((q.length:Int)!=p.length)=true:=by simp;omega
      have y:((q.length:Int)!=js.length)=true:=by simp;omega
      have m:=nX _ hp;have n:=nX _ hq;have o:=qF js ms j k;exact GS (zAb a d s1 s2 f b g y)
     .have b:((p.length:Int)!=js.length)=true:=by simp;omega
      have m:=nX _ hp;have n:=nX _ hq;have o:=qF js ms j k;exact GS (it a d s1 s2 b)
  .have a:(aP js ms !=0)=true:=by simp[d]
   refine Dp func96 λC hP hN=>?_;have m:=nX _ hp;have n:=nX _ hq;have o:=qF js ms j k;exact GS a
 |true=>
  have x:ew js ms p q=jx js p q js.length:=by simp[ew,c]
  rw[x];simp only[rS,up,Is]at c;obtain⟨⟨⟨⟨f,r⟩,s1⟩,s2⟩,d⟩:=c
  have b:((p.length:Int)!=js.length)=false:=by simp[f]
  have g:((q.length:Int)!=p.length)=false:=by simp[f,r]
  refine Dp func96 λC hP hN=>?_;have m:=nX _ hp;have n:=nX _ hq;have o:=qF js ms j k;refine GT (zAa f r b g s1 s2 d) ?_;refine WP.loopN [] js.length (λi st=>st.t 1=.pv (zs p)/\st.t 2=.pv (zs q)/\st.t 3=.ptr 3 0/\st.h 3=some (.box [.pv (.sl (js.map aO)),.pv (.sl (ms.map aX))] true false)/\st.t 8=.pv (Z i)/\st.t 7=.pv (Z (jx js p q i))) (by simp[jx]) ?_;rintro i st hi ⟨g1,g2,g3,E,D,B⟩;by_cases l:i<js.length
  .have F:=ab l j
   have u:i<p.length:=by omega
   have v:i<q.length:=by omega
   have A:=A1 l u v;refine Gz ?_
   all_goals simp[A,vd,Int.max_comm]
  .have s:i=js.length:=by omega
   subst s
   have z:¬js.length<p.length:=by omega
   exact Gy
def ud(a b:Int):Int:=if a.tmod b<0 then wr (wr (a.tdiv b)-1)else wr (a.tdiv b)
def yv(a b:Int):Int:=if 0<a.tmod b then wr (wr (a.tdiv b)+1)else wr (a.tdiv b)
theorem Xl(a b:Int)(c:b≠0):aF 83 (Z a) (Z b) (Z (ud a b)):=by
 refine Dp func83 λC hP hN=>?_
 with_reducible repeat' (first|refine Sp.h ?_|((first|refine Ss.h ?_|(refine Sb.h ?_ ?_ ?_<;>(try intro hgd)<;>try exact Xy))<;>simp -implicitDefEqProofs (maxSteps:=2000000) [hP,hN,c])|refine X2 ?_ ?_|(refine Xd ?_ ?_<;>intro hcd<;>try exact Xx))
 all_goals (first|(simp_all[ud];done)|((try simp_all[ud])<;>(try omega)<;>grind))
theorem Xm(a b:Int)(c:b≠0):aF 84 (Z a) (Z b) (Z (yv a b)):=by
 refine Dp func84 λC hP hN=>?_
 with_reducible repeat' (first|refine Sp.h ?_|((first|refine Ss.h ?_|(refine Sb.h ?_ ?_ ?_<;>(try intro hgd)<;>try exact Xy))<;>simp -implicitDefEqProofs (maxSteps:=2000000) [hP,hN,c])|refine X2 ?_ ?_|(refine Xd ?_ ?_<;>intro hcd<;>try exact Xx))
 all_goals (first|(simp_all[yv];done)|((try simp_all[yv])<;>(try omega)<;>grind))
theorem Nr(xs ys:List Int)(d:Int)(a:xs.length<=9223372036854775807)(b:ys.length<=9223372036854775807):gu 82 (zs xs) (zs ys) (Z d) (B (iY xs ys d)):=by
 have e:iY xs ys d=(bF cJ xs&&bF cJ ys&&decide (xs.length=ys.length)&&decide (0<=d)&&decide (d<=20)):=by
  unfold iY;cases bF cJ xs<;>cases bF cJ ys<;>cases decide (xs.length=ys.length)<;>rfl
 rw[e];refine Dp func82 λC hP hN=>?_
 with_reducible repeat' (first|refine Sp.h ?_|((first|refine Ss.h ?_|refine Sc.h (nX _ a) ?_|refine Sc.h (nX _ b) ?_|(refine Sb.h ?_ ?_ ?_<;>(try intro hgd)<;>try exact Xy))<;>simp -implicitDefEqProofs (maxSteps:=2000000) [hP,hN])|refine X2 ?_ ?_|(refine Xd ?_ ?_<;>intro hcd<;>try exact Xx))
 all_goals (first|(simp_all;done)|((try simp_all)<;>(try omega)<;>grind))
def kT(a d f t:Int):Int×Int:=
 let s:=wr (a*wr (t-f));let e:=wr (wr (a+1)*wr (t-f))
 (wr (f+ud (min s e) (2^d.toNat)),wr (f+yv (max s e) (2^d.toNat)))
def eT(xs ys:List Int)(d i:Int):List (Int×Int)×Bool:=if iY xs ys d&&decide (0<=i)&&decide (i<2^d.toNat)then(List.zipWith (kT i d) xs ys,true)else([],false)
theorem Xn(xs ys:List Int)(d i:Int)(q:xs.length<=16777216)(s:ys.length<=16777216):lR 43 (zs xs) (zs ys) (Z d) (Z i) (.tup [iv (eT xs ys d i).1,B (eT xs ys d i).2]):=by
 cases a:iY xs ys d with
 |false=>
  refine Dp func43 λC hP hN=>?_
  with_reducible repeat' (first|refine Sp.h ?_|((first|refine Wd ?_|refine Ss.h ?_|refine Sc.h (Nr _ _ _ (sT q) (sT s)) ?_|(refine Sb.h ?_ ?_ ?_<;>(try intro hgd)<;>try exact Xy))<;>simp -implicitDefEqProofs (maxSteps:=2000000) [hP,hN,a]<;>try refine Ya ?_)|refine X2 ?_ ?_|(refine Xd ?_ ?_<;>intro hcd<;>try exact Xx))
  all_goals simp[eT,a]
 |true=>
  obtain⟨F,_,_,h0,hd⟩:=rN a
  have j:d<64:=by omega
  have u:IntKind.u64.wrap d=d:=by rw[IntKind.wrap_u64];omega
  have r:(2:Int)^d.toNat≠0:=by have:=Int.pow_pos (n:=(2:Int)) (m:=d.toNat) (by decide);omega
  by_cases hi:0<=i/\i<2^d.toNat
  .obtain⟨b,e⟩:=hi
   have hL:eT xs ys d i=(List.zipWith (kT i d) xs ys,true):=by simp[eT,a,b,e]
   rw[hL];refine Dp func43 λC hP hN=>?_
   with_reducible repeat' (first|refine Sp.h ?_|((first|refine Wh [11] ?_|refine Wi [11] ?_|refine Ss.h ?_|refine Sc.h (Nr _ _ _ (sT q) (sT s)) ?_|(refine Sb.h ?_ ?_ ?_<;>(try intro hgd)<;>try exact Xy))<;>simp -implicitDefEqProofs (maxSteps:=2000000) [hP,hN,a,h0,u,ub,yr j,AQ h0 hd,Int.not_lt.2 b,Int.not_le.2 e]<;>try refine Ya ?_)|refine X2 ?_ ?_|(refine Xd ?_ ?_<;>intro hcd<;>try exact Xx))
   refine WP.loopN [79] xs.length (λk st=>st.t 0=.pv (zs xs)/\st.t 1=.pv (zs ys)/\st.t 3=.pv (Z i)/\st.t 10=.pv (Z (2^d.toNat))/\st.t 12=.pv (Z k)/\st.t 11=.arr 11 k/\st.h 80=none/\st.h 11=some (.row 170 2 ((List.zipWith (λx y=>aJ (kT i d x y)) xs ys).take k) 0)) (by simp) ?_;rintro k st G ⟨g0,g1,g3,l,p,o,z,A⟩;by_cases c:k<xs.length
   .have E:=ab c (sT q)
    have g:k<ys.length:=by omega
    have v:min k (min xs.length ys.length)=k:=by omega
    have D:=DJ (f:=λx y=>aJ (kT i d x y)) c g
    with_reducible repeat' (first|refine Sp.h ?_|((first|refine Wd ?_|refine Ss.h ?_|refine Sc.h (Xl _ _ r) ?_|refine Sc.h (Xm _ _ r) ?_|(refine Sb.h ?_ ?_ ?_<;>(try intro hgd)<;>try exact Xy))<;>simp -implicitDefEqProofs (maxSteps:=2000000) [hP,hN,g0,g1,g3,l,p,o,z,A,c,g,E,v,show(k+1)*16<=140737488355328 by omega,show k<=9223372036854775806 by omega]<;>try refine Ya ?_)|refine X2 ?_ ?_|(refine Xd ?_ ?_<;>intro hcd<;>try exact Xx))
    all_goals (rw[<-D];simp[kT])
   .have v:min k (min xs.length ys.length)=k:=by omega
    with_reducible repeat' (first|refine Sp.h ?_|((first|refine Wd ?_|refine Ss.h ?_|(refine Sb.h ?_ ?_ ?_<;>(try intro hgd)<;>try exact Xy))<;>simp -implicitDefEqProofs (maxSteps:=2000000) [hP,hN,g0,g1,g3,l,p,o,z,A,c,v]<;>try refine Ya ?_)|refine X2 ?_ ?_|(refine Xd ?_ ?_<;>intro hcd<;>try exact Xx))
    exact JH (by simp;omega) c
  .have hL:eT xs ys d i=([],false):=by
    unfold eT;rw[Y6];simp only[up,Is];omega
   rw[hL];by_cases b:i<0
   .skip
    refine Dp func43 λC hP hN=>?_
    with_reducible repeat' (first|refine Sp.h ?_|((first|refine Wd ?_|refine Ss.h ?_|refine Sc.h (Nr _ _ _ (sT q) (sT s)) ?_|(refine Sb.h ?_ ?_ ?_<;>(try intro hgd)<;>try exact Xy))<;>simp -implicitDefEqProofs (maxSteps:=2000000) [hP,hN,a,h0,u,ub,yr j,AQ h0 hd,b]<;>try refine Ya ?_)|refine X2 ?_ ?_|(refine Xd ?_ ?_<;>intro hcd<;>try exact Xx))
   .have e:2^d.toNat<=i:=by omega
    refine Dp func43 λC hP hN=>?_
    with_reducible repeat' (first|refine Sp.h ?_|((first|refine Wd ?_|refine Ss.h ?_|refine Sc.h (Nr _ _ _ (sT q) (sT s)) ?_|(refine Sb.h ?_ ?_ ?_<;>(try intro hgd)<;>try exact Xy))<;>simp -implicitDefEqProofs (maxSteps:=2000000) [hP,hN,a,h0,u,ub,yr j,AQ h0 hd,b,e]<;>try refine Ya ?_)|refine X2 ?_ ?_|(refine Xd ?_ ?_<;>intro hcd<;>try exact Xx))
theorem sX{b k:Int}(c:0<b)(h1:k*b<=a)(d:a<(k+1)*b):a/b=k:=by
 have:=(yA8 c).2 h1;have:=(yA9 c).2 d;omega
theorem JN{b:Int}(c:0<b)(h1:-4611686018427387904<=a)(d:a<=4611686018427387904):ud a b=a/b:=by
 have hq:=yBc a b;have g:-b<a.tmod b:=yA0 a c;have i:a.tmod b<b:=yAI a c;have f:=lC (a:=a) (N:=b) (B:=4611686018427387904) c h1 d;rw[Int.mul_comm]at hq;unfold ud;split
 .have e:a/b=a.tdiv b-1:=sX c (by rw[Int.sub_mul];omega) (by rw[show a.tdiv b-1+1=a.tdiv b by omega];omega)
  rw[aa (n:=a.tdiv b) (by omega) (by omega),aa (by omega) (by omega),e]
 .have e:a/b=a.tdiv b:=sX c (by omega) (by rw[Int.add_mul];omega)
  rw[aa (n:=a.tdiv b) (by omega) (by omega),e]
theorem Ln{b:Int}(c:0<b)(h1:-4611686018427387904<=a)(f:a<=4611686018427387904):yv a b=-(-a/b):=by
 have hq:=yBc a b;have g:-b<a.tmod b:=yA0 a c;have i:a.tmod b<b:=yAI a c;have d:=lC (a:=-a) (N:=b) (B:=4611686018427387904) c (by omega) (by omega);rw[Int.mul_comm]at hq;unfold yv;split
 .have e:-a/b=-a.tdiv b-1:=sX c (by rw[Int.sub_mul,yBf];omega) (by rw[show -a.tdiv b-1+1=-a.tdiv b by omega,yBf];omega)
  rw[aa (n:=a.tdiv b) (by omega) (by omega),aa (by omega) (by omega),e];omega
 .have e:-a/b=-a.tdiv b:=sX c (by rw[yBf];omega) (by rw[Int.add_mul,yBf];omega)
  rw[aa (n:=a.tdiv b) (by omega) (by omega),e];omega
theorem ER{i f t:Int}(hi:0<=i)(c:i<=1048576)(hf:n5 f)(e:n5 t):kT i d f t=rO i d f t:=by
 rw[JM hi c hf e];unfold n5 at hf e;have j:wr (t-f)=t-f:=aa;have g:wr (i+1)=i+1:=aa;have b1:=sV (i:=i) (D:=t-f) (A:=1048577) (B:=4294967296) hi (by omega) (by omega) (by omega);have m:=sV (i:=i+1) (D:=t-f) (A:=1048577) (B:=4294967296) (by omega) (by omega) (by omega) (by omega);have k:wr (i*(t-f))=i*(t-f):=aa;have l:wr ((i+1)*(t-f))=(i+1)*(t-f):=aa;simp only[kT,EP,j,g,k,l];generalize i*(t-f)=a at *;generalize(i+1)*(t-f)=b at *;have hN:(0:Int)<2^d.toNat:=va _;rw[JN hN (by omega) (by omega),Ln hN (by omega) (by omega)];have c1:=lC (a:=min a b) (N:=2^d.toNat) (B:=1048577*4294967296) hN (by omega) (by omega);have n:=lC (a:=-max a b) (N:=2^d.toNat) (B:=1048577*4294967296) hN (by omega) (by omega);rw[aa (by omega) (by omega),aa (by omega) (by omega)];refine Prod.ext rfl ?_;simp only;omega
theorem ES{xs:List Int}(h:bF cJ xs=true):∀x∈xs,n5 x:=by
 rw[Ll]at h;intro x a;have:=h x a;simpa[cJ,n5]using this
theorem C8{α β γ:Type}{f g:α->β->γ}:∀{xs:List α}{ys:List β},(∀a∈xs,∀b∈ys,f a b=g a b)->List.zipWith f xs ys=List.zipWith g xs ys
 |[],_,_=>rfl
 |_::_,[],_=>rfl
 |a::xs,b::ys,h=>by
  simp only[List.zipWith_cons_cons];rw[h a (by simp) b (by simp),C8 (λa c b d=>h a (by simp[c]) b (by simp[d]))]
theorem ET(xs ys:List Int)(d i:Int):eT xs ys d i=qc xs ys d i:=by
 unfold eT qc;split
 .rename_i h
  simp only[up,Is]at h;obtain⟨_,f,g,h0,hd⟩:=rN h.1.1;have j:=zN hd;refine Prod.ext ?_ rfl;exact C8 (λa e b c=>ER h.1.2 (by omega) (ES f a e) (ES g b c))
 .rfl
theorem TW(f:FuncId)(p:J->Int->Bool)(xs:List (J))(ys:List (Int))(n:xs.length<=9223372036854775807)(hf:∀a b,aW prog f [.pv (aO a),.pv (Z b)] [] [] (.pv (B (p a b)))):gu 157 (.sl (xs.map aO)) (.sl (ys.map Z)) (Fv f) (B (decide (xs.length=ys.length)&&jI p xs ys)):=by
 refine Dp func157 λC hP hN=>?_;by_cases k:xs.length=ys.length
 .skip
  refine Gz ?_;refine WP.loopN [8] xs.length (λi st=>st.t 0=.pv (.sl (xs.map aO))/\st.t 1=.pv (.sl (ys.map Z))/\st.t 2=.pv (Fv f)/\st.t 14=.pv (.sl (xs.map aO))/\st.t 15=.pv (Z xs.length)/\st.t 16=.pv (Z i)/\st.h 8=none/\qT p xs ys i=true) (by simp[qT,k]) ?_;rintro i st hi ⟨h0,h1,l,e,g,j,m,hq⟩;by_cases c:i<xs.length
  .have o:=ab c n
   have d:i<ys.length:=by omega
   have hF:p xs[i] ys[i]=false->jI p xs ys=false:=AR c d;have hS:p xs[i] ys[i]=true->qT p xs ys (i+1)=true:=C4 c d hq
   with_reducible repeat' (first|refine Sp.h ?_|((first|refine Wd ?_|refine Ss.h ?_|refine Sc.h (hf _ _) ?_|(refine Sb.h ?_ ?_ ?_<;>(try intro hgd)<;>try exact Xy))<;>simp -implicitDefEqProofs (maxSteps:=2000000) [hP,hN,h0,h1,l,e,g,j,m,c,d,o]<;>try refine Ya ?_)|refine X2 ?_ ?_|(refine Xd ?_ ?_<;>intro hcd<;>try exact Xx))
   all_goals first|exact hF (by simpa using hcd)|simpa using hS (by simpa using hcd)
  .skip
   refine Gz ?_
   all_goals simp[k,C5 c hq]
 .skip
  exact Gy
  all_goals simp[k]
def oS(j:J)(x:Int):Bool:=decide (j.lo<=x)&&decide (x<=j.hi)
theorem TX(j:J)(x:Int):aF 158 (aO j) (Z x) (B (oS j x)):=by
 refine Dp func158 λC hP hN=>?_
 with_reducible repeat' (first|refine Sp.h ?_|((first|refine Ss.h ?_|(refine Sb.h ?_ ?_ ?_<;>(try intro hgd)<;>try exact Xy))<;>simp -implicitDefEqProofs (maxSteps:=2000000) [hP,hN])|refine X2 ?_ ?_|(refine Xd ?_ ?_<;>intro hcd<;>try exact Xx))
 all_goals (simp_all[oS]<;>omega)
def aY(js:List J)(ms:List Ms)(c:List Int):Bool:=decide (aP js ms=0)&&decide (js.length=c.length)&&jI oS js c
theorem Ld(js:List J)(ms:List Ms)(c:List Int)(d:js.length<=9223372036854775807)(f:ms.length<=9223372036854775807):aF 110 (eK js ms) (zs c) (B (aY js ms c)):=by
 have i:=TW 158 oS js c d TX;by_cases a:aP js ms=0
 .have e:aY js ms c=(decide (js.length=c.length)&&jI oS js c):=by simp[aY,a]
  rw[e];generalize(decide (js.length=c.length)&&jI oS js c)=u at *;refine Dp func110 λC hP hN=>?_;have g:=C7 js ms d f;exact GS a
 .have e:aY js ms c=false:=by simp[aY,a]
  have b:(aP js ms==0)=false:=by simp[a]
  rw[e];refine Dp func110 λC hP hN=>?_;have g:=C7 js ms d f;exact GS (gA a b)
theorem Nn(js:List J)(ms:List Ms)(c:List Int)(o:js.length<=9223372036854775807)(q:ms.length<=9223372036854775807):aF 53 (eK js ms) (zs c) (B (aY js ms c)):=by
 by_cases e:aP js ms=0
 .have d:(aP js ms !=0)=false:=by simp[e]
  by_cases n:js.length=c.length
  .have f:((c.length:Int)!=js.length)=false:=by simp[n]
   have l:aY js ms c=jI oS js c:=by simp[aY,e,n]
   rw[l];refine Dp func53 λC hP hN=>?_
   with_reducible repeat' (first|refine Sp.h ?_|((first|refine Wd ?_|refine Ss.h ?_|refine Sc.h (qF js ms o q) ?_|(refine Sb.h ?_ ?_ ?_<;>(try intro hgd)<;>try exact Xy))<;>simp -implicitDefEqProofs (maxSteps:=2000000) [hP,hN,e,d,f]<;>try refine Ya ?_)|refine X2 ?_ ?_|(refine Xd ?_ ?_<;>intro hcd<;>try exact Xx))
   refine WP.loopN [] js.length (λi st=>st.t 1=.pv (zs c)/\st.t 2=.ptr 2 0/\st.h 2=some (.box [.pv (.sl (js.map aO)),.pv (.sl (ms.map aX))] true false)/\st.t 5=.pv (Z i)/\qT oS js c i=true) (by simp[qT,n]) ?_;rintro i st hi ⟨g1,g2,m,g5,hq⟩;by_cases b:i<js.length
   .have r:=ab b o
    have a:i<c.length:=by omega
    have hF:oS js[i] c[i]=false->jI oS js c=false:=AR b a;have hS:oS js[i] c[i]=true->qT oS js c (i+1)=true:=C4 b a hq
    cases j:oS js[i] c[i]with
    |true=>
     have g:¬c[i]<js[i].lo/\¬js[i].hi<c[i]:=by simp[oS]at j;omega
     with_reducible repeat' (first|refine Sp.h ?_|((first|refine Wd ?_|refine Ss.h ?_|(refine Sb.h ?_ ?_ ?_<;>(try intro hgd)<;>try exact Xy))<;>simp -implicitDefEqProofs (maxSteps:=2000000) [hP,hN,g1,g2,m,g5,b,a,r,g.1,g.2]<;>try refine Ya ?_)|refine X2 ?_ ?_|(refine Xd ?_ ?_<;>intro hcd<;>try exact Xx))
     all_goals simpa using hS j
    |false=>
     have g:c[i]<js[i].lo\/js[i].hi<c[i]:=by simp[oS]at j;omega
     by_cases k:c[i]<js[i].lo
     .skip
      with_reducible repeat' (first|refine Sp.h ?_|((first|refine Wd ?_|refine Ss.h ?_|(refine Sb.h ?_ ?_ ?_<;>(try intro hgd)<;>try exact Xy))<;>simp -implicitDefEqProofs (maxSteps:=2000000) [hP,hN,g1,g2,m,g5,b,a,r,k]<;>try refine Ya ?_)|refine X2 ?_ ?_|(refine Xd ?_ ?_<;>intro hcd<;>try exact Xx))
      all_goals simp[hF j]
     .have p:js[i].hi<c[i]:=by omega
      with_reducible repeat' (first|refine Sp.h ?_|((first|refine Wd ?_|refine Ss.h ?_|(refine Sb.h ?_ ?_ ?_<;>(try intro hgd)<;>try exact Xy))<;>simp -implicitDefEqProofs (maxSteps:=2000000) [hP,hN,g1,g2,m,g5,b,a,r,k,p]<;>try refine Ya ?_)|refine X2 ?_ ?_|(refine Xd ?_ ?_<;>intro hcd<;>try exact Xx))
      all_goals simp[hF j]
   .have a:¬i<c.length:=by omega
    with_reducible repeat' (first|refine Sp.h ?_|((first|refine Wd ?_|refine Ss.h ?_|(refine Sb.h ?_ ?_ ?_<;>(try intro hgd)<;>try exact Xy))<;>simp -implicitDefEqProofs (maxSteps:=2000000) [hP,hN,g1,g2,m,g5,a]<;>try refine Ya ?_)|refine X2 ?_ ?_|(refine Xd ?_ ?_<;>intro hcd<;>try exact Xx))
    all_goals simp[C5 b hq]
  .have f:((c.length:Int)!=js.length)=true:=by simp;omega
   have l:aY js ms c=false:=by simp[aY,n]
   rw[l];refine Dp func53 λC hP hN=>?_
   with_reducible repeat' (first|refine Sp.h ?_|((first|refine Wd ?_|refine Ss.h ?_|refine Sc.h (qF js ms o q) ?_|(refine Sb.h ?_ ?_ ?_<;>(try intro hgd)<;>try exact Xy))<;>simp -implicitDefEqProofs (maxSteps:=2000000) [hP,hN,e,d,f]<;>try refine Ya ?_)|refine X2 ?_ ?_|(refine Xd ?_ ?_<;>intro hcd<;>try exact Xx))
 .have l:aY js ms c=false:=by simp[aY,e]
  have d:(aP js ms !=0)=true:=by simp[e]
  rw[l];refine Dp func53 λC hP hN=>?_
  with_reducible repeat' (first|refine Sp.h ?_|((first|refine Wd ?_|refine Ss.h ?_|refine Sc.h (qF js ms o q) ?_|(refine Sb.h ?_ ?_ ?_<;>(try intro hgd)<;>try exact Xy))<;>simp -implicitDefEqProofs (maxSteps:=2000000) [hP,hN,e,d]<;>try refine Ya ?_)|refine X2 ?_ ?_|(refine Xd ?_ ?_<;>intro hcd<;>try exact Xx))
theorem Ij{ms:List Ms}(h:aP js ms=0):0<js.length/\js.length<=10:=by
 unfold aP at h;split at h
 all_goals omega
theorem KT{a b:List Int}(h:a.length=b.length)(hi:¬i<a.length)(hq:∀k,k<i->a[k]?=b[k]?):a=b:=by
 apply ZM;intro k;by_cases c:k<i
 .exact hq k c
 .rw[Zh (by omega),Zh (by omega)]
theorem Yy(a b:List Int)(m:a.length<=9223372036854775807)(p:b.length<=9223372036854775807):aF 95 (zs a) (zs b) (B (decide (a=b))):=by
 by_cases j:a.length=b.length
 case neg=>
  have hf:decide (a=b)=false:=Z9 λe=>j (by rw[e])
  have f:((a.length:Int)!=b.length)=true:=by simp;omega
  rw[hf];refine Dp func95 λC hP hN=>?_;exact Gy
 have f:((a.length:Int)!=b.length)=false:=by simp;omega
 refine Dp func95 λC hP hN=>?_;refine Gz ?_;refine WP.loopN [] a.length (λi st=>st.t 0=.pv (zs a)/\st.t 1=.pv (zs b)/\st.t 5=.pv (Z i)/\∀k,k<i->a[k]?=b[k]?) (by simp) ?_;rintro i st hi ⟨g0,g1,g5,hq⟩;by_cases c:i<a.length
 .have s:=ab c m
  have d:i<b.length:=by omega
  have n:a[i]?=some a[i]:=an c;have o:b[i]?=some b[i]:=an d;by_cases e:a[i]=b[i]
  .have g:∀k,k<i+1->a[k]?=b[k]?:=λk r=>by
    by_cases h:k=i
    .subst h;rw[n,o,e]
    .exact hq k (by omega)
   have l:(a[i]!=b[i])=false:=by simp[e]
   refine Gz ?_
   all_goals exact g
  .have hf:decide (a=b)=false:=Z9 λh=>e (by subst h;rfl)
   have l:(a[i]!=b[i])=true:=by simp[e]
   rw[hf];exact Gy
 .have q:=KT j c hq
  exact Gy
def DC(P:List (List Int))(q:List Int):Int:=lV (λx=>decide (x=q)) P
theorem TA(P:List (List Int))(q:List Int)(c:P.length<=9223372036854775807)(l:∀x∈P,x.length<=9223372036854775807)(hq:q.length<=9223372036854775807):aF 54 (.sl (P.map zs)) (zs q) (Z (DC P q)):=by
 have g:=λ(x:List Int)(h:x∈P)=>Yy x q (l x h) hq;refine Dp func54 λC hP hN=>?_;refine Gz ?_;refine WP.loopN [] P.length (λi st=>st.t 0=.pv (.sl (P.map zs))/\st.t 1=.pv (zs q)/\st.t 5=.pv (Z i)/\∀j x,j<i->P[j]?=some x->(λx=>decide (x=q)) x=false) (by simp) ?_;rintro i st hi ⟨g0,g1,g5,hq⟩;by_cases a:i<P.length
 .have m:=ab a c
  have n:P[i]?=some P[i]:=an a;have c1:=g _ (Zs a)
  cases b:decide (P[i]=q)with
  |true=>
   have e:DC P q=(i:Int):=lB a hq b;rw[b]at c1;rw[e];generalize f:P[i]=x at *;exact Gy
  |false=>
   have d:=kS (p:=λx=>decide (x=q)) a hq b;rw[b]at c1;generalize f:P[i]=x at *;refine Gz ?_
   all_goals exact λj x h1 k=>by simpa using d j x h1 k
 .have e:DC P q=-1:=qb (rM a hq)
  rw[e];exact Gy
def Aj(x y:Int):Int:=if x<y then -1 else if y<x then 1 else 0
theorem WO(x:Int):aR 160 (Z x) (B false):=by
 refine Dp func160 λC hP hN=>?_;exact Gy
 all_goals (first|(simp_all;done)|((try simp_all)<;>(try omega)<;>grind))
theorem RN(x y:Int):aF 117 (Z x) (Z y) (Z (Aj x y)):=by
 have c:=WO;unfold Aj;by_cases h1:x<y
 .rw[Zd h1]
  refine Dp func117 λC hP hN=>?_;have b:=@c;exact GS h1
 .rw[Y6 h1]
  by_cases a:y<x
  .rw[Zd a]
   refine Dp func117 λC hP hN=>?_;have b:=@c;exact GS (gA h1 a)
  .rw[Y6 a]
   refine Dp func117 λC hP hN=>?_;have b:=@c;exact GS (gA h1 a)
def NW(a b:Int):Int:=if a≠0 then a else b
theorem Yz(a b:Int):aR 116 (zs [a,b]) (Z (NW a b)):=by
 unfold NW;by_cases h1:a=0
 .subst h1
  rw[Y6 (by simp)];refine Dp func116 λC hP hN=>?_;refine Gz ?_;refine WP.loopN [] 2 (λi st=>st.t 3=.pv (Z 0)/\st.t 6=.pv (zs [0,b])/\st.t 7=.pv (Z 2)/\st.t 8=.pv (Z i)/\(2<=i->b=0)) (by simp) ?_;rintro i st hi ⟨g3,d,e,f,k⟩
  have:i=0\/i=1\/i=2:=by omega
  rcases this with rfl|rfl|rfl
  .skip
   exact GS (it g3 d e f @zj)
  .by_cases c:b=0
   .subst c
    exact GS (so g3 d e f @zj @AY)
   .have j:(b !=0)=true:=by simp[c]
    exact Gy
  .have c:=k (by omega)
   subst c;exact Gy
 .rw[Zd h1]
  have g:(a !=0)=true:=by simp[h1]
  refine Dp func116 λC hP hN=>?_;refine Gz ?_;refine WP.loopN [] 2 (λi st=>st.t 3=.pv (Z 0)/\st.t 6=.pv (zs [a,b])/\st.t 7=.pv (Z 2)/\st.t 8=.pv (Z i)/\i=0) (by simp) ?_;rintro i st hi ⟨g3,d,e,f,rfl⟩;exact Gy
def CK(a b:aB):Int:=NW (Aj a.u b.u) (Aj a.v b.v)
theorem YA(a b:aB):aF 68 (iV a) (iV b) (Z (CK a b)):=by
 have c1:=RN a.u b.u;have c:=RN a.v b.v;have d:=Yz (Aj a.u b.u) (Aj a.v b.v);unfold CK;refine Dp func68 λC hP hN=>?_;exact GS trivial
theorem Pv(a b:aB):(0<=CK a b)=¬(a.u<b.u\/(a.u=b.u/\a.v<b.v)):=by
 unfold CK NW Aj;apply propext
 repeat' split
 all_goals simp_all
 all_goals omega
def ln(n:Nat)(e:aB):Bool:=eY n e.u&&eY n e.v
theorem WQ(m:eR)(e:aB)(hn:m.np.length<=9223372036854775807):aF 112 (bf m) (iV e) (B (ln m.np.length e)):=by
 refine Dp func112 λC hP hN=>?_
 with_reducible repeat' (first|refine Sp.h ?_|((first|refine Ss.h ?_|(refine Sb.h ?_ ?_ ?_<;>(try intro hgd)<;>try exact Xy))<;>simp -implicitDefEqProofs [hP,hN])|refine X2 ?_ ?_|(refine Xd ?_ ?_<;>intro hcd<;>try exact Xx))
 all_goals (simp_all[ln,eY]<;>(intros;omega))
theorem YB(m:eR)(e:aB)(hn:m.np.length<=9223372036854775807):aF 57 (bf m) (iV e) (B (ln m.np.length e)):=by
 refine Dp func57 λC hP hN=>?_
 with_reducible repeat' (first|refine Sp.h ?_|((first|refine Ss.h ?_|(refine Sb.h ?_ ?_ ?_<;>(try intro hgd)<;>try exact Xy))<;>simp -implicitDefEqProofs [hP,hN])|refine X2 ?_ ?_|(refine Xd ?_ ?_<;>intro hcd<;>try exact Xx))
 all_goals (simp_all[ln,eY]<;>(intros;omega))
def vN(s:Int):Int:=if s=1 then 1 else if s=2 then 2 else 0
theorem WR(s:Int):aR 114 (Z s) (Z (vN s)):=by
 unfold vN;by_cases h1:s=1
 .rw[Zd h1]
  subst h1;refine Dp func114 λC hP hN=>?_;exact Gy
 .rw[Y6 h1]
  have b:(s==1)=false:=by simp[h1]
  by_cases a:s=2
  .rw[Zd a]
   subst a;refine Dp func114 λC hP hN=>?_;exact Gy
  .rw[Y6 a]
   have c:(s==2)=false:=by simp[a]
   refine Dp func114 λC hP hN=>?_;exact Gy
theorem YC(s:Int):aR 98 (Z s) (Z (vN s)):=by
 unfold vN;by_cases h1:s=1
 .rw[Zd h1]
  subst h1;refine Dp func98 λC hP hN=>?_;exact Gy
 .rw[Y6 h1]
  have b:(s==1)=false:=by simp[h1]
  by_cases a:s=2
  .rw[Zd a]
   subst a;refine Dp func98 λC hP hN=>?_;exact Gy
  .rw[Y6 a]
   have c:(s==2)=false:=by simp[a]
   refine Dp func98 λC hP hN=>?_;exact Gy
abbrev NX(r:R8):PV:=.agg [Z r.k1,.sl r.k2,Z r.k3,Z r.k4,.sl r.k5,Z r.k6,.sl r.k7,.sl r.k8]
def rf(r:R8):Bool:=decide (r.k1=0)&&decide (r.k2.length=0)&&decide (r.k3=0)&&decide (r.k4=0)&&decide (r.k5.length=0)&&decide (r.k6=0)&&decide (r.k7.length=0)&&decide (r.k8.length=0)
theorem WS(r:R8):aR 115 (NX r) (B (rf r)):=by
 obtain⟨k1,k2,k3,k4,k5,k6,k7,k8⟩:=r;unfold rf;simp only;refine Dp func115 λC hP hN=>?_
 with_reducible repeat' (first|refine Sp.h ?_|((first|refine Wd ?_|refine Ss.h ?_|(refine Sb.h ?_ ?_ ?_<;>(try intro hgd)<;>try exact Xy))<;>simp -implicitDefEqProofs [hP,hN]<;>try refine Ya ?_)|refine X2 ?_ ?_|(refine Xd ?_ ?_<;>intro hcd<;>try exact Xx))
 all_goals (first|(simp_all;done)|(simp_all;cases k8<;>simp;done)|(simp_all;cases k8<;>simp<;>omega))
theorem YD(r:R8):aR 99 (NX r) (B (rf r)):=by
 obtain⟨k1,k2,k3,k4,k5,k6,k7,k8⟩:=r;unfold rf;simp only;refine Dp func99 λC hP hN=>?_
 with_reducible repeat' (first|refine Sp.h ?_|((first|refine Ss.h ?_|(refine Sb.h ?_ ?_ ?_<;>(try intro hgd)<;>try exact Xy))<;>simp -implicitDefEqProofs [hP,hN])|refine X2 ?_ ?_|(refine Xd ?_ ?_<;>intro hcd<;>try exact Xx))
 all_goals (first|(simp_all;done)|(simp_all;cases k8<;>simp;done)|(simp_all;cases k8<;>simp<;>omega))
section
variable {C:Cx} {Q:Exit->St->Prop} {st:St}
theorem Oa{L:Nat->Loc}{w:World}(e:MemL C L h w){cs vc:List AV}{own:Bool}(d:h k=some (.box cs own false)){news:List Value}(m:aD w (ae C L h) L h vc news)(r:vc.length<=cs.length)(a:∀x∈news,x.oneCell'=true):
 ∃w',(storeCells ⟨(L k).b,0,none⟩ news).run C.P w=.ok () w'/\aH C L h w L (av h k (some (.box (br cs 0 vc) own false))) w':=by
 obtain⟨arr,i,j,l⟩:=e.bl k _ d;have u:news.length=vc.length:=m.1.symm
 have s:arr.size=cs.length:=by have:=l.1;simp at this;omega
 have g:=run_storeCells_at C.P (L k).b 0 i news 0 arr w j (by omega) a;refine⟨_,g,?_⟩
 have f:arr.toList.take (0+0)++news++arr.toList.drop (0+0+news.length)=br arr.toList 0 news:=by simp[br]
 rw[f];have n:∀b,b<w.heap.size->((Blk.box cs own false).live (L k)->b≠(L k).b)->(w.setRow (L k).b (br arr.toList 0 news).toArray).heap[b]?=w.heap[b]?:=λb _ q=>setRow_other w _ b _ (q trivial);have c:=e.touch_pk (blk':=.box (br cs 0 vc) own false) d n (λo v _ hf _=>by cases hf) (λo hf=>by cases hf) rfl yAn;refine e.touch d n (by simp) rfl rfl rfl (λo v _ hf _=>by cases hf) (λo hf=>by cases hf) rfl yAn (by have p:=e.own k _ d;cases own<;>exact p) ?_;exact⟨_,i,setRow_heap w _ arr _ i _ j,by simpa using(l.splice_ m 0).mono c.1 c.2⟩
theorem WP.copyArr{r s g:Oper}{t t1 t2:TypeId}{x y:Operand}{d1 d2 d3:Nat}(h1:r.op=.slice t x none none none)(f1:r.dst=some d1)(g1:r.guard=none)(h2:s.op=.move y)(f2:s.dst=some d2)(g2:s.guard=none)
 (h3:g.op=.call {callee:=.builtin .copy,args:=#[.tmp d1,.tmp d2],argTypes:=#[t1,t2]})(f3:g.dst=some d3)(g3:g.guard=none)(ak:y≠.tmp d1)(hd:d1≠d2)
 (hq:∃k z own d n el j,st.ev x=.ptr k 0/\st.h k=some (.box z own false)/\st.ev y=.pv (.sl d)/\d≠[]/\(∀y∈d,y.cells=[y]/\jl y=true)/\d.length<=n/\z.length=n/\C.P.underlying t=some (.array n el)/\C.P.underlying t1=some (.slice el)/\C.P.info? el=some j/\j.size=1/\d1<C.N/\d2<C.N/\d3<C.N/\
   Q .normal ⟨λq=>if q=d1\/q=d2\/q=d3 then .undef else st.t q,av st.h k (some (.box (d.map .pv++z.drop d.length) own false))⟩):WP C (.region id #[r,s,g] false) Q st:=by
 intro a w hs;obtain⟨k,z,own,d,n,el,j,ah,hk,ar,V,H,a6,b4,hu,Z,T,l,n1,n2,n3,hQ⟩:=hq;obtain⟨L,hm,hN,S,Y⟩:=hs;refine wp_region_list ?_;show wpList C.P #[r,s,g] _ [r,s,g] a w;have m:=bE Y x;rw[ah]at m
 have aj:a.eval x=.pointer (some ⟨(L k).b,0,none⟩):=by
  generalize a.eval x=u at m;cases m;rfl
 have a7:=bE Y y
 have E:d.all (pV 1)=true:=by
  rw[L4];intro y hy;obtain⟨c1,c2⟩:=H y hy;unfold pV;rw[c1,Z6,List.all_cons,c2];rfl
 obtain⟨A,c,a8,b3,hA⟩:=tE hm (λ_ _ h=>h) a7 (by rw[ar];rfl) E;have F:0<d.length:=List.length_pos_iff.2 V;obtain⟨b,o,rfl,news,R,e2,e3,e4⟩:=hA F;rw[yAF]at R;refine wpList_step (λK B=>?_);rw[eI g1,Zd rfl]
 have I:(execOp a.eval r).run C.P w=.ok (.value (.slice (some ⟨(L k).b,0,none⟩) n n)) w:=by
  unfold execOp;rw[h1]
  have b5:C.P.cellsOf el=1:=by simp[Program.cellsOf,T,l]
  have U:¬n=0:=by omega
  simp[Instr.sliceAt,run_underlying hu,aj,Instr.sureAddr,Instr.sliceBounds,sizeOf,typeInfo,program,Sem.run,T,l,U,fo]
 unfold Oper.wp;rw[I];refine B _ _ ?_;refine wpList_step (λK B=>?_);rw[eI g2,Zd rfl]
 have J:∀(ρ:Operand->Value),(execOp ρ s).run C.P w=.ok (.value (ρ y)) w:=λρ=>by
  unfold execOp;rw[h2];rfl
 unfold Oper.wp;rw[J];refine B _ _ ?_;refine wpList_step (λK B=>?_);rw[eI g3,Zd rfl];rw[f1,f2]
 have gy:((a.put (some d1) (.slice (some ⟨(L k).b,0,none⟩) n n))).eval y=.slice (some ⟨b,o,none⟩) d.length c:=by
  rw[<-a8]
  cases y with
  |tmp q=>
   show(a.put (some d1) _).tmps.getD q undef=a.tmps.getD q undef;rw[gW (by omega),Y6 (λe=>ak (by rw[e]))]
  |_=>rfl
 rw[gy]
 have bq:((a.put (some d1) (.slice (some ⟨(L k).b,0,none⟩) n n)).put (some d2) (.slice (some ⟨b,o,none⟩) d.length c)).eval (.tmp d1)=.slice (some ⟨(L k).b,0,none⟩) n n:=by
  show(Act.put _ _ _).tmps.getD d1 undef=_;rw[gW (by simp[Act.put];omega),Y6 hd,gW (by omega),Zd rfl]
 have b2:((a.put (some d1) (.slice (some ⟨(L k).b,0,none⟩) n n)).put (some d2) (.slice (some ⟨b,o,none⟩) d.length c)).eval (.tmp d2)=.slice (some ⟨b,o,none⟩) d.length c:=by
  show(Act.put _ _ _).tmps.getD d2 undef=_;rw[gW (by simp[Act.put];omega),Zd rfl]
 obtain⟨w',X,f⟩:=Oa hm hk (vc:=d.map .pv) (news:=news) ⟨by simp[R],λi p u hp ad=>by
  simp only[Y7,II]at hp;obtain⟨y9,G,rfl⟩:=hp;obtain⟨v,O,hr⟩:=e4 i y9 0 y9 G (by rw[(H y9 (An G)).1];rfl);rw[yAF,yA3,ad]at O;injection O with O;subst O
  exact .pv hr⟩ (by simp;omega) e3
 have hf:(Builtin.firstCells 1 d.length (.slice (some ⟨b,o,none⟩) d.length c)).run C.P w=.ok news.toArray w:=by
  have:=run_loadCells_list (P:=C.P) w ⟨b,o,none⟩ news (λq v hq=>by rw[fo];exact e2 q v hq);rw[R]at this;simpa[Builtin.firstCells]using this
 have M:(execOp ((a.put (some d1) (.slice (some ⟨(L k).b,0,none⟩) n n)).put (some d2) (.slice (some ⟨b,o,none⟩) d.length c)).eval g).run C.P w=.ok (.value (goInt d.length)) w':=by
  have D:Nat.min d.length n=d.length:=Nat.min_eq_left a6
  have:(Builtin.copy_ #[t1,t2] g.type #[.slice (some ⟨(L k).b,0,none⟩) n n,.slice (some ⟨b,o,none⟩) d.length c]).run C.P w=.ok (goInt d.length) w':=by
   simp only[Builtin.copy_,yAm,yAj,yA1,Sem.run_bind,run_underlying Z,Result.andThen_ok,Builtin.lenOf,Sem.run_pure,sizeOf,typeInfo,program,Sem.run,T,l,D,hf,X]
  generalize((a.put (some d1) (.slice (some ⟨(L k).b,0,none⟩) n n)).put (some d2) (.slice (some ⟨b,o,none⟩) d.length c)).eval=ρ at *;unfold execOp;rw[h3];simp[resolve,invoke,bq,b2,builtin,this]
 unfold Oper.wp;rw[M];refine B _ _ ?_;rw[f3];refine⟨_,?_,hQ⟩
 have W:br z 0 (d.map AV.pv)=d.map .pv++z.drop d.length:=by simp[br]
 rw[W]at f;refine⟨L,f.1,by simp[Act.put,hN],S,λq=>?_⟩;show RepA w' _ L _ (if q=d1\/q=d2\/q=d3 then .undef else st.t q) _;split
 .exact .undef _
 .rename_i hq
  rw[gW (by simp[Act.put];omega),Y6 (λe=>hq (.inr (.inr e))),gW (by simp[Act.put];omega),Y6 (λe=>hq (.inr (.inl e))),gW (by omega),Y6 (λe=>hq (.inl e))];exact(Y q).mono f.2.1 f.2.2
end
def lr(ren:Nat->Nat):AV->AV
 |.ptr k a=>.ptr (ren k) a
 |.arr k n=>.arr (ren k) n
 |x=>x
def BE(ren:Nat->Nat):AV->AV
 |.agg a=>.agg (a.map (lr ren))
 |x=>lr ren x
def mP(K:List Nat):AV->Bool
 |.pv _=>true
 |.ptr k _=>K.contains k
 |.arr k _=>K.contains k
 |_=>false
def GL(K:List Nat):AV->Bool
 |.agg a=>a.all (mP K)
 |x=>mP K x
def bm:List (Nat×Blk)->Hp
 |[]=>λ_=>none
 |(k,b)::r=>λq=>if q=k then some b else bm r q
def ii(ren:Nat->Nat)(own:Bool):Blk->Blk
 |.box a _ _=>.box (a.map (lr ren)) own false
 |b=>b
def jA(K:List Nat)(k:Nat):Blk->Bool
 |.box b own a=>b.all (mP K)&& !own&& !a&&decide (1000000<=k)&&decide (k<2000000)
 |.row _ _ _ a=>decide (a=0)&&decide (2000000<=k)
 |.mp _ _ _ _=>false
def uE:Blk->Blk->Bool
 |.box _ _ _,.box _ _ _=>true
 |.row e d xs _,.row c a b _=>e==c&&d==a&&xs.length==b.length
 |_,_=>false
theorem ey(h:bm G k=some b):(k,b)∈G:=by
 induction G with
 |nil=>cases h
 |cons x r ih=>
  grind [bm,List.mem_cons_self,List.mem_cons_of_mem]
theorem kF(hn:(G.map (·.1)).Nodup)(h:(k,b)∈G):bm G k=some b:=by
 induction G with
 |nil=>cases h
 |cons x r ih=>
  grind [bm,List.nodup_cons]
section
variable {w:World} {M M':Nat->Nat->Prop} {L L':Nat->Loc} {h h':Hp} {ren:Nat->Nat} {K:List Nat}
theorem sK(l:∀b o,M' b o->M b o)(i:∀k∈K,∀blk,h (ren k)=some blk->∃a,h' k=some a/\dh blk (L (ren k)) a (L' k))(f:mP K x=true)(g:RepA w M L h (lr ren x) u):RepA w M' L' h' x u:=by
 cases x with
 |pv p=>cases g with
  |pv m=>exact .pv (m.mono (Pres.sub l))
 |ptr k q=>
  cases g with
  |ptr d=>
   obtain⟨a,h1,c⟩:=i k (by simpa[mP]using f) _ d
   cases a with
   |row=>exact c.elim
   |mp=>exact c.elim
   |box v own j=>
    have c:(L' k).b=(L (ren k)).b:=c;rw[<-c];exact .ptr h1
 |arr k n=>
  cases g with
  |arr d hn y=>
   obtain⟨a,h1,c⟩:=i k (by simpa[mP]using f) _ d
   cases a with
   |box=>exact c.elim
   |mp=>exact c.elim
   |row e z xs j=>
    obtain⟨_,_,r,s⟩:=c;refine .arr h1 (by omega) (λe=>?_)
    grind
 |_=>cases f
theorem K0(c:∀b o,M' b o->M b o)(d:∀k∈K,∀blk,h (ren k)=some blk->∃a,h' k=some a/\dh blk (L (ren k)) a (L' k))(e:GL K x=true)(f:RepA w M L h (BE ren x) u):RepA w M' L' h' x u:=by
 cases x with
 |agg g=>
  cases f with
  |agg _ n l j=>
   refine .agg g n (by simpa using l) (λi p u hp m=>?_);exact sK c d (L4.1 e p (An hp)) (j i _ u (by simp[hp]) m)
 |_=>exact sK c d e f
theorem HW(l:∀b o,M' b o->M b o)(i:∀k∈K,∀blk,h' k=some blk->∃a,h (ren k)=some a/\dh blk (L' k) a (L (ren k)))(f:mP K x=true)(g:RepA w M L' h' x u):RepA w M' L h (lr ren x) u:=by
 cases x with
 |pv p=>cases g with
  |pv m=>exact .pv (m.mono (Pres.sub l))
 |ptr k q=>
  cases g with
  |ptr d=>
   obtain⟨a,h1,c⟩:=i k (by simpa[mP]using f) _ d
   cases a with
   |row=>exact c.elim
   |mp=>exact c.elim
   |box v own j=>
    have c:(L (ren k)).b=(L' k).b:=c;rw[<-c];exact .ptr h1
 |arr k n=>
  cases g with
  |arr d hn y=>
   obtain⟨a,h1,c⟩:=i k (by simpa[mP]using f) _ d
   cases a with
   |box=>exact c.elim
   |mp=>exact c.elim
   |row e z xs j=>
    obtain⟨_,_,r,s⟩:=c;refine .arr h1 (by omega) (λe=>?_)
    grind
 |_=>cases f
end
def DL(G:List (Nat×Blk))(L:Nat->Loc)(b:Nat):Prop:=∃k blk,bm G k=some blk/\blk.live (L k)/\b=(L k).b
structure OkG(G G':List (Nat×Blk)):Prop where
 keys:G'.map (·.1)=G.map (·.1)
 nodup:(G.map (·.1)).Nodup
 okin:∀k b,(k,b)∈G->jA (G.map (·.1)) k b=true
 okout:∀k b,(k,b)∈G'->jA (G.map (·.1)) k b=true
 same:∀k b b',bm G k=some b->bm G' k=some b'->uE b b'=true
def HX(P:Program)(f:FuncId)(args:List AV)(G c:List (Nat×Blk))(res:PV):Prop:=
 bS P f=true/\OkG G c/\∀(w:World)(M:Nat->Nat->Prop)(L:Nat->Loc)(d:List Value),(∀b o,M b o->b<w.heap.size)->
  (∀k blk,bm G k=some blk->blk.live (L k)->∀o,M (L k).b o)->
  (∀k k' blk a,k≠k'->bm G k=some blk->bm G k'=some a->blk.live (L k)->a.live (L k')->(L k).b≠(L k').b)->
  (∀k blk,bm G k=some blk->dk w M L (bm G) (L k) blk)->aD w M L (bm G) args d->
  Calls P f d.toArray w λe w'=>∃v,e=.returned v/\Ext (DL G L) w w'/\(∀k blk,bm c k=some blk->dk w' M L (bm c) (L k) blk)/\Rep w' M res v
def M7(args:List AV)(G:List (Nat×Blk)):St:=⟨λn=>(args[n]?).getD .undef,bm G⟩
def D1(P:Program)(rs:List ResultVar)(b:List (Nat×Blk))(res:PV)(st:St):Prop:=
 tY res=true/\(∃r,mf P st rs=some r/\∃W,frz st.h r=some (res,W))/\∀a∈b,st.h a.1=some a.2
def K1(P:Program)(rs:List ResultVar)(a:List (Nat×Blk))(res:PV):Exit->St->Prop
 |.normal,st=>D1 P rs a res st
 |.ret,st=>D1 P rs a res st
 |_,_=>False
@[simp] theorem RP:K1 P rs G' res .normal st=D1 P rs G' res st:=rfl
@[simp] theorem TC:K1 P rs G' res .ret st=D1 P rs G' res st:=rfl
theorem GM{f:FuncId}{fn:Func}(hf:P.funcs[f]?=some fn)(hb:fn.body=some c)(Y:bS P f=true)(cj:args.length<=fn.ntmps)(l:OkG G G')
 (h:∀C:Cx,C.P=P->C.N=fn.ntmps->WP C c (K1 P fn.results.toList G' res) (M7 args G)):HX P f args G G' res:=by
 refine⟨Y,l,λw M L U hM b7 R aj bq=>?_⟩;have okin:∀{k blk},bm G k=some blk->jA (G.map (·.1)) k blk=true:=λa=>l.okin _ _ (ey a);have okout:∀{k blk},bm G' k=some blk->jA (G.map (·.1)) k blk=true:=λa=>l.okout _ _ (ey a)
 have ar:(G'.map (·.1)).Nodup:=by rw[l.keys];exact l.nodup
 have B:∀{k blk},bm G k=some blk->∃d,bm G' k=some d:=by
  intro k blk a
  have E:k∈G'.map (·.1):=by rw[l.keys];exact Zv.2 ⟨_,ey a,rfl⟩
  obtain⟨⟨k',b'⟩,h1,z⟩:=Zv.1 E;simp only at z;subst z;exact⟨b',kF ar h1⟩
 have b3:∀{k blk},bm G' k=some blk->∃d,bm G k=some d:=by
  intro k blk a
  have E:k∈G.map (·.1):=by rw[<-l.keys];exact Zv.2 ⟨_,ey a,rfl⟩
  obtain⟨⟨k',b'⟩,h1,z⟩:=Zv.1 E;simp only at z;subst z;exact⟨b',kF l.nodup h1⟩
 let H:Nat->Prop:=λb=>∃k e I xs A,bm G k=some (.row e I xs A)/\(L k).isNil=false/\b=(L k).b
 let C:Cx:={P:=P,N:=fn.ntmps,M0:=λb o=>M b o/\¬H b,S:=DL G L,pb:=λk=>some (L k).b,pr:=λk=>if 2000000<=k then some (L k)else none,hpr:=(λk a=>by rw[Y6 (by omega)]),w0:=w}
 have ah:∀b o,ae C L (bm G) b o↔M b o:=by
  intro b o;constructor
  .rintro(h0|⟨k,blk,a,hl,cm,_⟩)
   all_goals grind
  .intro E
   by_cases hr:H b
   .obtain⟨k,e,I,xs,A,a,hn,rfl⟩:=hr
    refine .inr ⟨k,_,a,hn,rfl,?_⟩;have:=okin a;simp only[jA,up,Is]at this
    grind [Blk.frz]
   .exact .inl ⟨E,hr⟩
 have O:ae C L (bm G)=M:=by funext b o;exact propext (ah b o)
 have cg:=bq.1
 have a8:dM C (M7 args G) {tmps:=U.toArray++Array.replicate (fn.ntmps-U.toArray.size) undef,defers:=[]} w:=by
  refine⟨L,⟨Ext.refl _ _,λb o h0=>hM b o h0.1,?_,R,?_⟩,by show(U.toArray++Array.replicate (fn.ntmps-U.toArray.size) undef).size=fn.ntmps;simp;omega,jD.nil _,λn=>?_⟩
  .intro k blk a
   show dk w (ae C L (bm G)) L (bm G) (L k) blk;rw[O];exact aj k blk a
  .intro k blk a
   have s:=okin a
   cases blk with
   |mp=>cases s
   |box cs own A=>
    simp only[jA,up,ZK,Is]at s;obtain⟨⟨⟨⟨_,h1⟩,z⟩,h3⟩,h4⟩:=s;subst h1;subst z;refine⟨rfl,rfl,⟨k,_,a,trivial,rfl⟩,?_,λo=>⟨b7 k _ a trivial o,?_⟩⟩
    .exact(aj k _ a).lt trivial
    .rintro⟨k',e,I,xs,A,m,ca,he⟩
     by_cases e':k=k'
     .subst e';rw[show bm G k=_ from a]at m;cases m
     .exact R k k' _ _ e' a m trivial ca he
   |row e I xs A=>
    simp only[jA,up,Is]at s;show dw C k (L k) _;have hpr:C.pr k=some (L k):=Zd s.2;unfold dw;simp only;rw[hpr];exact⟨rfl,λhn=>⟨⟨k,_,a,hn,rfl⟩,λo h9=>h9.2 ⟨k,e,I,xs,A,a,hn,rfl⟩⟩⟩
  .show RepA w (ae C L (bm G)) L (bm G) ((args[n]?).getD .undef) _
   rw[O]
   cases hp:args[n]? with
   |none=>exact .undef _
   |some p=>
    have Z:n<U.length:=by rw[<-cg];exact(th.1 hp).1
    have ak:(U.toArray++Array.replicate (fn.ntmps-U.toArray.size) undef).getD n undef=U[n]:=by
     rw[Ze,ZJ (by simpa using Z)];simp[Z]
    simp only[ak];exact bq.2 n p _ hp (an Z)
 refine calls_of_wp_defers hf hb (wp_mono (h C rfl rfl _ w a8) ?_)
 have Q:∀(V:Act) w' g,dM C g V w'->D1 P fn.results.toList G' res g->jD P V.defers/\∃v,(results fn V.tmps).run P w'=.ok v w'/\
  ∃v',Ending.returned v=.returned v'/\Ext (DL G L) w w'/\(∀k blk,bm G' k=some blk->dk w' M L (bm G') (L k) blk)/\Rep w' M res v':=by
  rintro V w' g ⟨L',E,hN,b5,ht⟩ ⟨b8,⟨r,hr,W,hW⟩,cc⟩;obtain⟨u,cd,cf⟩:=nN (C:=C) E ht hr;have y:∀{k blk},bm G' k=some blk->g.h k=some blk:=λa=>cc _ (ey a)
  have J:∀{k e I xs A},bm G' k=some (.row e I xs A)->L' k=L k:=by
   intro k e I xs A a;have s:=okout a;simp only[jA,up,Is]at s;have D:=E.own k _ (y a);have hpr:C.pr k=some (L k):=Zd s.2;simp only[dw,hpr]at D;exact D.1
  have ad:∀{k cs own A},bm G' k=some (.box cs own A)->(L' k).b=(L k).b:=by
   intro k cs own A a;have s:=okout a;simp only[jA,up,ZK,Is]at s;obtain⟨⟨⟨⟨_,h1⟩,z⟩,h3⟩,h4⟩:=s;subst h1;subst z;have D:=(E.own k _ (y a)).2.1;injection D with D;exact D.symm
  have T:∀b o,M b o->ae C L' g.h b o:=by
   intro b o b9;by_cases a6:H b
   .obtain⟨k,e,I,xs,A,a,hn,rfl⟩:=a6
    obtain⟨d,m⟩:=B a;have hs:=l.same k _ _ a m
    cases d with
    |box=>cases hs
    |mp=>cases hs
    |row e' cn cp ck=>
     have s:=okout m;simp only[jA,up,Is]at s;refine .inr ⟨k,_,y m,?_,?_,?_⟩
     .show(L' k).isNil=false;rw[J m];exact hn
     .rw[J m]
     .rw[s.1];simp[Blk.frz]
   .exact .inl ⟨b9,a6⟩
  obtain⟨b1,b2,_⟩:=m8 E (bI.refl _) cf hW;refine⟨b5,u,cd,u,rfl,E.ext,?_,?_⟩
  .intro k blk a
   have X:=E.bl k blk (y a)
   cases blk with
   |mp=>cases okout a
   |row e I xs A=>
    rw[J a]at X;obtain⟨g1,g2,g3,g4,g5⟩:=X;refine⟨g1,g2,g3,g4,λhn=>?_⟩;obtain⟨a1,a2,arr,a3,a4,a5⟩:=g5 hn;exact⟨a1,a2,arr,a3,a4,λi x j p hx hj=>by obtain⟨u,hu,hr⟩:=a5 i x j p hx hj;exact⟨u,hu,hr.mono (Pres.sub T)⟩⟩
   |box cs own A=>
    obtain⟨arr,ty,e1,e2⟩:=X;rw[ad a]at e1;refine⟨arr,ty,e1,e2.1,λi p u hp hu=>?_⟩;have s:=okout a;simp only[jA,up]at s;have cb:=L4.1 s.1.1.1.1 p (An hp);have hx:=e2.2 i p u hp hu
    have e0:lr id p=p:=by cases p<;>rfl
    have ch:RepA w' (ae C L' g.h) L' g.h (lr id p) u:=by rw[e0];exact hx
    refine sK (ren:=id) (K:=G.map (·.1)) (M':=M) (L':=L) (h':=bm G') T (λq hq blk hb=>?_) cb ch
    .obtain⟨⟨q',b'⟩,h1,z⟩:=Zv.1 hq
     simp only at z;subst z;obtain⟨d,F⟩:=B (kF l.nodup h1);refine⟨d,F,?_⟩;have h9:=y F;have b4:g.h q'=some blk:=hb;rw[b4]at h9;injection h9 with h9;subst h9
     cases blk with
     |mp=>cases okout F
     |box=>exact(ad F).symm
     |row=>exact⟨rfl,rfl,Zf _,λ_=>(J F).symm⟩
  .exact tF b8 b2
 rintro e V w' ⟨g,a7,hq⟩
 cases e with
 |normal=>obtain⟨h1,v,z,h3⟩:=Q V w' g a7 hq;exact iD h1 z h3
 |ret=>obtain⟨h1,v,z,h3⟩:=Q V w' g a7 hq;exact iD h1 z h3
 |exit=>exact hq.elim
 |goto=>exact hq.elim
 |panic=>exact hq.elim
 |outgrown=>exact hq.elim
def mD(h:Hp)(q:Nat):Bool:=match h q with
 |some (.box _ own _)=>own
 |_=>false
def gZ(ren:Nat->Nat)(h:Hp)(b:List (Nat×Blk)):List (Nat×Blk):=b.map λa=>(ren a.1,ii ren (mD h (ren a.1)) a.2)
theorem Am{ren:Nat->Nat}{g:Nat×Blk->Blk}:∀(l:List (Nat×Blk))(h:Hp),(l.map λx=>ren x.1).Nodup->∀x∈l,ai h (l.map λx=>(ren x.1,g x)) (ren x.1)=some (g x)
 |[],_,_,x,a=>by cases a
 |y::l,h,hn,x,a=>by
  rw[yAf,yBh]at hn;rw[yAf];show ai (av h (ren y.1) (some (g y))) (l.map λx=>(ren x.1,g x)) (ren x.1)=_;rcases Zx.1 a with rfl|a
  .rw[kO,aG]
   intro d b;obtain⟨z,c,rfl⟩:=Zv.1 b;intro e;exact hn.1 (Zv.2 ⟨z,c,e⟩)
  .exact Am l _ hn.2 x a
theorem pR{ren:Nat->Nat}{own:Bool}:(ii ren own b).live l↔b.live l:=by cases b<;>exact yAn
theorem zy{ren:Nat->Nat}{own:Bool}{K:List Nat}{o:Nat}(h:jA K k b=true):¬(ii ren own b).frz o:=by
 cases b with
 |mp=>cases h
 |box d a c=>simp[ii,Blk.frz]
 |row e f xs c=>
  simp_all[jA,up,ii,Blk.frz]
structure Share(h:Hp)(ren:Nat->Nat)(G G':List (Nat×Blk)):Prop where
 ok:OkG G G'
 inj:(G.map λx=>ren x.1).Nodup
 have_:∀kb∈G,h (ren kb.1)=some (ii ren (mD h (ren kb.1)) kb.2)
section
variable {C:Cx} {L:Nat->Loc} {h:Hp} {w:World} {ren:Nat->Nat} {G G':List (Nat×Blk)}
theorem Share.ren_inj(hs:Share h ren G G')(l:bm G k=some b)(a:bm G k'=some b')(e:ren k=ren k'):k=k':=by
 obtain⟨i,hi⟩:=yAl.1 (ey l);obtain⟨j,g⟩:=yAl.1 (ey a)
 have h1:(G.map λx=>ren x.1)[i]?=some (ren k):=by simp[hi]
 have f:(G.map λx=>ren x.1)[j]?=some (ren k'):=by simp[g]
 obtain⟨m,c⟩:=th.1 h1;obtain⟨n,d⟩:=th.1 f;have:i=j:=(List.getElem_inj hs.inj).1 (c.trans (e.trans d.symm))
 grind
theorem Share.inout(hs:Share h ren G G')(c:bm G k=some blk):∃a,bm G' k=some a:=by
 have d:k∈G'.map (·.1):=by rw[hs.ok.keys];exact Zv.2 ⟨_,ey c,rfl⟩
 obtain⟨⟨k',b'⟩,h1,b⟩:=Zv.1 d;simp only at b;subst b;exact⟨b',kF (by rw[hs.ok.keys];exact hs.ok.nodup) h1⟩
theorem Share.outin(hs:Share h ren G G')(c:bm G' k=some blk):∃a,bm G k=some a:=by
 have d:k∈G.map (·.1):=by rw[<-hs.ok.keys];exact Zv.2 ⟨_,ey c,rfl⟩
 obtain⟨⟨k',b'⟩,h1,b⟩:=Zv.1 d;simp only at b;subst b;exact⟨b',kF hs.ok.nodup h1⟩
theorem Share.at_(hs:Share h ren G G')(a:bm G k=some blk):h (ren k)=some (ii ren (mD h (ren k)) blk):=hs.have_ _ (ey a)
theorem Share.new(hs:Share h ren G G')(b:bm G' k=some blk):ai h (gZ ren h G') (ren k)=some (ii ren (mD h (ren k)) blk):=by
 have hn:(G'.map λx=>ren x.1).Nodup:=by
  have e:(G'.map λx=>ren x.1)=(G.map λx=>ren x.1):=by
   have:=yAx (List.map ren) hs.ok.keys;simpa[List.map_map,Function.comp_def]using this
  rw[e];exact hs.inj
 exact Am (g:=λa=>ii ren (mD h (ren a.1)) a.2) G' h hn (k,blk) (ey b)
theorem Share.other(hs:Share h ren G G')(hq:∀k blk,bm G k=some blk->q≠ren k):ai h (gZ ren h G') q=h q:=by
 refine kO ?_;intro g a e;obtain⟨⟨k,b⟩,f,rfl⟩:=Zv.1 a;obtain⟨c,d⟩:=hs.outin (kF (by rw[hs.ok.keys];exact hs.ok.nodup) f)
 grind
theorem Share.cases(hs:Share h ren G G')(hq:ai h (gZ ren h G') q=some b):
 (∃k blk a,bm G k=some blk/\bm G' k=some a/\q=ren k/\b=ii ren (mD h (ren k)) a)\/((∀k blk,bm G k=some blk->q≠ren k)/\h q=some b):=by
 by_cases g:∃k blk,bm G k=some blk/\q=ren k
 .obtain⟨k,blk,c,rfl⟩:=g
  obtain⟨a,d⟩:=hs.inout c;rw[hs.new d]at hq;injection hq with hq
  grind
 .have f:∀k blk,bm G k=some blk->q≠ren k:=λk blk c e=>g ⟨k,blk,c,e⟩
  rw[hs.other f]at hq
  grind
theorem D2{ren:Nat->Nat}{own:Bool}(h:uE b b'=true):dh (ii ren own b) l (ii ren own b') l:=by
 cases b<;>cases b'<;>first|(cases h;done)|skip
 .exact rfl
 .simp only[uE,up,ZW]at h
  exact⟨h.1.1.symm,h.1.2.symm,Nat.le_of_eq h.2,λ_=>rfl⟩
theorem Share.okin(hs:Share h ren G G')(a:bm G k=some b):jA (G.map (·.1)) k b=true:=hs.ok.okin _ _ (ey a)
theorem Share.okout(hs:Share h ren G G')(a:bm G' k=some b):jA (G.map (·.1)) k b=true:=hs.ok.okout _ _ (ey a)
theorem Share.view(hs:Share h ren G G')(n:MemL C L h w)(d:bm G k=some blk):dk w (ae C L h) (λk=>L (ren k)) (bm G) (L (ren k)) blk:=by
 have a:=n.bl _ _ (hs.at_ d)
 cases blk with
 |mp=>cases hs.okin d
 |row e y xs m=>exact a
 |box v own m=>
  obtain⟨arr,s,l,f⟩:=a;have j:=hs.okin d;simp only[jA,up]at j;refine⟨arr,s,l,by simpa using f.1,λi p u hp r=>?_⟩;refine sK (ren:=ren) (K:=G.map (·.1)) (λb o h=>h) (λq hq b a=>?_) (L4.1 j.1.1.1.1 p (An hp)) (f.2 i _ u (by simp[hp]) r);obtain⟨⟨x,b'⟩,h1,g⟩:=Zv.1 hq;simp only at g;subst g;have c:=kF hs.ok.nodup h1;refine⟨b',c,?_⟩;rw[hs.at_ c]at a;injection a with a;subst a
  cases b' with
  |mp=>exact⟨rfl,rfl,rfl⟩
  |box=>exact rfl
  |row=>exact⟨rfl,rfl,Zf _,λ_=>rfl⟩
theorem MemL.shareStep(s:MemL C L h w)(hs:Share h ren G G'){w':World}(Q:Ext (DL G (λk=>L (ren k))) w w')
 (M:∀k blk,bm G' k=some blk->dk w' (ae C L h) (λk=>L (ren k)) (bm G') (L (ren k)) blk):aH C L h w L (ai h (gZ ren h G')) w':=by
 have v:∀b o,ae C L (ai h (gZ ren h G')) b o->ae C L h b o:=by
  rintro b o (h0|⟨q,blk,hq,l,I,hf⟩)
  .exact .inl h0
  .rcases hs.cases hq with⟨k,b1,r,a,c,rfl,rfl⟩|⟨_,f⟩
   .refine .inr ⟨ren k,_,hs.at_ a,?_,I,zy (hs.okin a)⟩
    have n:=hs.ok.same k _ _ a c
    cases b1<;>cases r<;>first|(cases n;done)|exact l
   .exact .inr ⟨q,blk,f,l,I,hf⟩
 have F:KC L h L (ai h (gZ ren h G')):=by
  intro q blk hq;by_cases T:∃k b,bm G k=some b/\q=ren k
  .obtain⟨k,b,a,rfl⟩:=T
   obtain⟨b',c⟩:=hs.inout a;rw[hs.at_ a]at hq;injection hq with hq;subst hq;exact⟨_,hs.new c,D2 (hs.ok.same k _ _ a c)⟩
  .exact⟨blk,by rw[hs.other (λk b a e=>T ⟨k,b,a,e⟩)];exact hq,bv _ _⟩
 have m:Pres w (ae C L h) w' (ae C L (ai h (gZ ren h G'))):=by
  refine Pres.ext Q (λb _ O o=>?_) λb o _ B=>v b o B;obtain⟨k,blk,a,l,rfl⟩:=O;exact .inr ⟨ren k,_,hs.at_ a,pR.2 l,rfl,zy (hs.okin a)⟩
 refine⟨⟨?_,s.m0,?_,?_,?_⟩,m,F⟩
 .refine s.ext.trans Q (λb N H=>?_)
  obtain⟨k,blk,a,l,rfl⟩:=H;have ad:(L (ren k)).b<C.w0.heap.size:=N;have d:=s.own _ _ (hs.at_ a)
  cases blk with
  |mp=>cases hs.okin a
  |box cs own J=>
   cases g:mD h (ren k)with
   |false=>rw[g]at d;exact d.2.2.1
   |true=>
    rw[g]at d;rcases d with B|B
    .omega
    .exact B.1
  |row e sz xs J=>
   rcases d.row l with B|B
   all_goals grind
 .intro q blk hq
  rcases hs.cases hq with⟨k,b1,r,a,c,rfl,rfl⟩|⟨A,f⟩
  .have E:=M k r c
   cases r with
   |mp=>cases hs.okout c
   |row e sz xs J=>
    obtain⟨g1,g2,g3,g4,g5⟩:=E;refine⟨g1,g2,g3,g4,λhn=>?_⟩;obtain⟨a1,X,arr,Y,Z,a5⟩:=g5 hn;exact⟨a1,X,arr,Y,Z,λi x j p R hj=>by obtain⟨u,P,hr⟩:=a5 i x j p R hj;exact⟨u,P,hr.mono (Pres.sub v)⟩⟩
   |box cs own J=>
    obtain⟨arr,ty,e1,S⟩:=E;have U:=hs.okout c;simp only[jA,up]at U;refine⟨arr,ty,e1,by simpa using S.1,λi p u hp P=>?_⟩;simp only[Y7,II]at hp;obtain⟨y,V,rfl⟩:=hp;refine HW (ren:=ren) (K:=G.map (·.1)) (L':=λk=>L (ren k)) (h':=bm G') v (λq hq b M=>?_) (L4.1 U.1.1.1.1 y (An V)) (S.2 i y u V P);refine⟨_,hs.new M,?_⟩
    cases b with
    |mp=>exact⟨rfl,rfl,rfl⟩
    |box=>exact rfl
    |row=>exact⟨rfl,rfl,Zf _,λ_=>rfl⟩
  .refine(s.bl q blk f).mono m F (λl=>Q.block _ ((s.bl q blk f).lt l) ?_)
   rintro⟨k,b,a,z,e⟩;exact s.sep q (ren k) _ _ (A k b a) f (hs.at_ a) l (pR.2 z) e
 .have D:∀q b,ai h (gZ ren h G') q=some b->b.live (L q)->∃b0,h q=some b0/\b0.live (L q):=by
   intro q b hq l;rcases hs.cases hq with⟨k,b1,r,a,c,rfl,rfl⟩|⟨_,f⟩
   .refine⟨_,hs.at_ a,?_⟩
    have n:=hs.ok.same k _ _ a c
    cases b1<;>cases r<;>first|(cases n;done)|exact l
   grind
  intro q W b1 r A hq f l z;obtain⟨c1,d1,f1⟩:=D q b1 hq l;obtain⟨c2,d2,f2⟩:=D W r f z;exact s.sep q W c1 c2 A d1 d2 f1 f2
 .intro q blk hq
  rcases hs.cases hq with⟨k,b1,r,a,c,rfl,rfl⟩|⟨_,f⟩
  .have d:=s.own _ _ (hs.at_ a)
   have n:=hs.ok.same k _ _ a c
   cases b1<;>cases r<;>first|(cases n;done)|skip
   .cases g:mD h (ren k)with
    |false=>rw[g]at d;exact d
    |true=>rw[g]at d;exact d
   .exact d
  .exact s.own q blk f
end
section
variable {C:Cx} {Q:Exit->St->Prop} {st:St}
def Ao(C:Cx)(Q:St->Prop)(f:Operand)(xs:List Operand)(d:Option Nat)(st:St):Prop:=
 ∃g args G G' res ren,bC (st.ev f)=some (g,[],[])/\HX C.P g args G G' res/\tY res=true/\xs.map st.ev=args.map (BE ren)/\args.all (GL (G.map (·.1)))=true/\(G.map λx=>ren x.1).Nodup/\
  (∀a∈G,st.h (ren a.1)=some (ii ren (mD st.h (ren a.1)) a.2))/\dI C.N d=true/\Q (st.put d (.pv res) (gZ ren st.h G'))
theorem WP.share{xs:List Operand}(J:ops.toList=pre++o::post)(ad:o.op=.call {callee:=.value f,args:=xs.toArray,argTypes:=ats})(hg:o.guard=none)
 (hq:bZ C.P hn C.N ops (Ao C (bZ C.P hn C.N ops (Q .normal) post) f xs o.dst) pre st):WP C (.region id ops false) Q st:=by
 intro a w hs;refine wp_region_list ?_;rw[J];refine fD (λD a1 w1 ak ah=>?_) hs hq;obtain⟨g,args,G,G',res,ren,R,⟨c,Z,hD⟩,X,j,I,E,y,S,hQ⟩:=ah;obtain⟨L,H,hN,T,ht⟩:=ak;have d:Share D.h ren G G':=⟨Z,E,y⟩;refine wpList_step (λK hK=>?_);rw[eI hg,Zd rfl];obtain⟨vs,us,U,a6,a7⟩:=jC (bE ht f) R;have a8:=a6.nil_inv;have ar:=a7.nil_inv;subst a8;subst ar
 have A:xs.length=args.length:=by have:=yAx List.length j;simpa using this
 have B:aD w1 (ae C L D.h) (λk=>L (ren k)) (bm G) args (xs.map a1.eval):=by
  refine⟨by simp[A],λi p u hp hu=>?_⟩;simp only[Y7,II]at hu;obtain⟨x,hx,rfl⟩:=hu;have he:=yAx (λl:List AV=>l[i]?) j;simp only[Y7,hx,hp,ZS,Za]at he;have O:=bE ht x;rw[he]at O;refine K0 (K:=G.map (·.1)) (λb o h=>h) (λq hq b r=>?_) (L4.1 I p (An hp)) O;obtain⟨⟨q',b'⟩,h1,h2⟩:=Zv.1 hq;simp only at h2;subst h2;have n:=kF d.ok.nodup h1;refine⟨b',n,?_⟩;rw[d.at_ n]at r;injection r with r;subst r
  cases b' with
  |mp=>exact⟨rfl,rfl,rfl⟩
  |box=>exact rfl
  |row=>exact⟨rfl,rfl,Zf _,λ_=>rfl⟩
 have m:=hD w1 (ae C L D.h) (λk=>L (ren k)) (xs.map a1.eval) (λb o h=>H.mlt h)
  (λk blk z V o=>.inr ⟨ren k,_,d.at_ z,pR.2 V,rfl,zy (d.okin z)⟩)
  (λk k' b b' Y z F V W=>H.sep (ren k) (ren k') _ _ (λe=>Y (d.ren_inj z F e)) (d.at_ z) (d.at_ F) (pR.2 V) (pR.2 W))
  (λk blk z=>d.view H z) B
 have M:(execOp a1.eval o).run C.P w1=.ok (.enter g (xs.map a1.eval).toArray) w1:=by
  unfold bS at c
  cases s:C.P.funcs[g]? with
  |none=>rw[s]at c;cases c
  |some fn=>
   rw[s]at c;simp only[up,ZK,yAb,ne_eq]at c
   have r:fn.body.isNone=false:=by cases b2:fn.body<;>simp_all
   unfold execOp;rw[ad];simp only[resolve,U,Deferred.ofValue,pure_bind,Sem.run_bind,Result.andThen_ok,invoke,callFunc,program,Sem.run,s];simp[c.2,r]
 unfold Oper.wp;rw[M];simp only[Oper.upon];refine m.mono ?_;rintro ee w' ⟨v,rfl,hx,r,O⟩;have hA:=H.shareStep d hx r;refine hK _ _ ?_;exact fW (λbq a' w' aj n=>⟨bq,aj,n⟩) (dM.put H hN T ht S hA (.pv (tF X O))) hQ
end
attribute [simp] BE lr GL mP bm ii jA uE gZ mD
def inK(k:Nat):Bool:=decide (290<=k)&&decide (k<1000000)
def bT(K:Nat->Bool):AV->Bool
 |.pv _=>true
 |.ptr k _=>K k
 |.arr k _=>K k
 |.eptr k _ _ _=>K k
 |.ext x=>K x.key
 |.undef=>true
 |_=>false
def jB(K:Nat->Bool):AV->Bool
 |.agg a=>a.all (bT K)
 |x=>bT K x
def eJ(K:Nat->Bool):AV->Bool
 |.agg b=>b.all (bT K)
 |.fn _ first a=>first.all (bT K)&&a.all (bT K)
 |.tup b=>b.all (jB K)
 |x=>bT K x
abbrev mZ:AV->Bool:=eJ inK
def fS:Blk->Bool
 |.box _ false _=>false
 |_=>true
def zC:Blk->Bool
 |.mp _ _ _ _=>false
 |_=>true
def tT(M:Nat->Nat->Prop)(L:Nat->Loc)(h:Hp)(b o:Nat):Prop:=M b o\/∃k blk,h k=some blk/\blk.live (L k)/\(L k).b=b/\¬blk.frz o
def iJ(h:Hp)(L:Nat->Loc)(b:Nat):Prop:=∃k blk,h k=some blk/\blk.live (L k)/\b=(L k).b
def dY(h:Hp)(L:Nat->Loc)(b:Nat):Prop:=∃k blk,h k=some blk/\fS blk=true/\blk.live (L k)/\b=(L k).b
structure LookH(h:Hp):Prop where
 keys:∀k blk,h k=some blk->inK k=true
 nf:∀k blk o,h k=some blk->¬blk.frz o
 nm:∀k blk,h k=some blk->zC blk=true
 cl:∀k cs o f,h k=some (.box cs o f)->∀x∈cs,mZ x=true
structure TrIn(w:World)(M:Nat->Nat->Prop)(L:Nat->Loc)(h:Hp):Prop where
 bl:∀k blk,h k=some blk->dk w (tT M L h) L h (L k) blk
 sep:∀k k' blk blk',k≠k'->h k=some blk->h k'=some blk'->blk.live (L k)->blk'.live (L k')->(L k).b≠(L k').b
 m1:∀k blk,h k=some blk->fS blk=true->blk.live (L k)->∀o,¬M (L k).b o
 m2:∀k cs f,h k=some (.box cs false f)->∀o,M (L k).b o
def mQ(P:Program)(f:FuncId)(args:List AV)(a:Hp)(c:AV->Hp->Prop):Prop:=
 bS P f=true/\∀(w:World)(M:Nat->Nat->Prop)(L:Nat->Loc)(j:List Value),(∀b o,M b o->b<w.heap.size)->TrIn w M L a->aD w (tT M L a) L a args j->
  Calls P f j.toArray w λe w'=>∃v r L' h',e=.returned v/\Ext (iJ a L) w w'/\LookH h'/\TrIn w' M L' h'/\RepA w' (tT M L' h') L' h' r v/\mZ r=true/\c r h'/\
   (∀k d f,a k=some (.box d false f)->∃g,h' k=some (.box g false false)/\(L' k).b=(L k).b)/\
   (∀k d f,h' k=some (.box d false f)->∃i f0,a k=some (.box i false f0))/\
   (∀k blk,h' k=some blk->fS blk=true->blk.live (L' k)->w.heap.size<=(L' k).b\/dY a L (L' k).b)
section
variable {w w':World} {M M':Nat->Nat->Prop} {L L':Nat->Loc} {h h':Hp}
theorem m7{K:Nat->Bool}(hp:Pres w M w' M')(z:∀k blk,K k=true->h k=some blk->∃a,h' k=some a/\dh blk (L k) a (L' k))(g:eJ K x=true)(F:RepA w M L h x u):RepA w' M' L' h' x u:=by
 have one:∀{x:AV}{u:Value},bT K x=true->RepA w M L h x u->RepA w' M' L' h' x u:=by
  intro x u g F
  cases F with
  |pv E=>exact .pv (E.mono hp)
  |@ptr k Q s own C j=>
   obtain⟨a,h1,d⟩:=z k _ g j
   cases a with
   |row=>exact d.elim
   |mp=>exact d.elim
   |box J G m=>have d:(L' k).b=(L k).b:=d;rw[<-d];exact .ptr h1
  |@arr k n e U C xs u j hn l=>
   obtain⟨a,h1,d⟩:=z k _ g j
   cases a with
   |box=>exact d.elim
   |mp=>exact d.elim
   |row S H r m=>
    obtain⟨_,I,T,B⟩:=d;refine .arr h1 (by omega) (λe=>?_)
    have:r.length=xs.length:=by omega
    rw[B this];exact l (by omega)
  |@eptr k n i Q e U C xs u j hn l=>
   obtain⟨a,h1,d⟩:=z k _ g j
   cases a with
   |box=>exact d.elim
   |mp=>exact d.elim
   |row S H r m=>
    obtain⟨_,I,T,B⟩:=d;refine .eptr h1 (by omega) (λe=>?_)
    have:r.length=xs.length:=by omega
    rw[B this,I];exact l (by omega)
  |ext q=>
   cases q with
   |@barr k n c s own C W j=>
    obtain⟨a,h1,d⟩:=z k _ g j
    cases a with
    |row=>exact d.elim
    |mp=>exact d.elim
    |box J G m=>have d:(L' k).b=(L k).b:=d;rw[<-d];exact .ext (.barr W h1)
   |@mp k n X es C j=>
    obtain⟨a,h1,d⟩:=z k _ g j
    cases a with
    |row=>exact d.elim
    |box=>exact d.elim
    |mp P Y V m=>have d:P=X/\Y=n/\(L' k).b=(L k).b:=d;rw[<-d.2.2];exact .ext (.mp h1)
   |@suf k o n t e U C xs u O j hn ht l=>
    obtain⟨a,h1,d⟩:=z k _ g j
    cases a with
    |box=>exact d.elim
    |mp=>exact d.elim
    |row S H r m=>
     obtain⟨_,I,T,B⟩:=d;refine .ext (.suf O h1 hn (by omega) (λe=>?_))
     have:r.length=xs.length:=by omega
     rw[B this,I];exact l (by omega)
  |undef=>exact .undef _
  |agg=>cases g
  |fn=>cases g
  |tup=>cases g
 have all:∀{s:List AV}{p:AV}{i:Nat},s.all (bT K)=true->s[i]?=some p->bT K p=true:=λh hp=>L4.1 h _ (An hp)
 have R:∀{x:AV}{u:Value},jB K x=true->RepA w M L h x u->RepA w' M' L' h' x u:=by
  intro x u g F
  cases F with
  |agg s y v D=>exact .agg s y v λi p u hp l=>one (all g hp) (D i p u hp l)
  |pv E=>exact one g (.pv E)
  |ptr j=>exact one g (.ptr j)
  |arr j hn l=>exact one g (.arr j hn l)
  |eptr j hn l=>exact one g (.eptr j hn l)
  |ext q=>exact one g (.ext q)
  |undef=>exact .undef _
  |fn=>cases g
  |tup=>cases g
 cases F with
 |agg s y v D=>exact .agg s y v λi p u hp l=>one (all g hp) (D i p u hp l)
 |fn f first A y Z v N h1 d=>
  simp only[eJ,up]at g
  exact .fn f first A y Z v N (λi p u hp l=>one (all g.1 hp) (h1 i p u hp l)) (λi p u hp l=>one (all g.2 hp) (d i p u hp l))
 |tup s y v D=>exact .tup s y v λi p u hp l=>R (L4.1 g _ (An hp)) (D i p u hp l)
 |pv E=>exact one g (.pv E)
 |ptr j=>exact one g (.ptr j)
 |arr j hn l=>exact one g (.arr j hn l)
 |eptr j hn l=>exact one g (.eptr j hn l)
 |ext q=>exact one g (.ext q)
 |undef=>exact .undef _
theorem dk.inK(hp:Pres w M w' M')(C:∀k blk,Go.Ab.inK k=true->h k=some blk->∃a,h' k=some a/\dh blk (L k) a (L' k))(A:∀d o f,blk=.box d o f->∀x∈d,mZ x=true)(r:blk.live l->w'.heap[l.b]?=w.heap[l.b]?)(q:dk w M L h l blk):dk w' M' L' h' l blk:=by
 cases blk with
 |box d own v=>
  obtain⟨arr,G,e,D,s⟩:=q;exact⟨arr,G,(r trivial).trans e,D,λi p u h1 g=>m7 hp C (A _ _ _ rfl p (An h1)) (s i p u h1 g)⟩
 |row H J xs v=>
  obtain⟨h1,g,y,z,h5⟩:=q;refine⟨h1,g,y,z,λhn=>?_⟩;obtain⟨h6,m,arr,e,h7,h8⟩:=h5 hn;refine⟨h6,m,arr,(r hn).trans e,h7,λi x j p F B=>?_⟩;obtain⟨u,E,s⟩:=h8 i x j p F B;exact⟨u,E,s.mono hp⟩
 |mp I n es v=>
  obtain⟨arr,c,e,h1⟩:=q;exact⟨arr,c,(r trivial).trans e,h1⟩
end
def qp(h:Hp):Hp:=λk=>if inK k=true then h k else none
theorem jQ(e:qp h k=some b):inK k=true/\h k=some b:=by
 unfold qp at e;split at e
 .rename_i hi;exact⟨hi,e⟩
 .cases e
def D3(args:List AV)(a:Hp):St:=⟨λn=>(args[n]?).getD .undef,a⟩
def uF(P:Program)(rs:List ResultVar)(d:Hp)(a:AV->Hp->Prop)(st:St):Prop:=
 ∃r,mf P st rs=some r/\mZ r=true/\LookH (qp st.h)/\a r (qp st.h)/\∀k c f,d k=some (.box c false f)->∃b,st.h k=some (.box b false false)
def HY(P:Program)(rs:List ResultVar)(b:Hp)(a:AV->Hp->Prop):Exit->St->Prop
 |.normal,st=>uF P rs b a st
 |.ret,st=>uF P rs b a st
 |_,_=>False
@[simp] theorem RQ:HY P rs h0 Post .normal st=uF P rs h0 Post st:=rfl
@[simp] theorem TD:HY P rs h0 Post .ret st=uF P rs h0 Post st:=rfl
theorem l9(j:k<2000000)(a:dw C k l blk)(g:fS blk=true)(f:zC blk=true)(d:blk.live l):C.w0.heap.size<=l.b\/(C.S l.b/\∀o,¬C.M0 l.b o):=by
 cases blk with
 |box i own c=>
  cases own with
  |false=>cases g
  |true=>exact a
 |row e m xs c=>exact a.row d
 |mp=>cases f
theorem pS(h:inK k=true):k<2000000:=by
 simp only[inK,up,Is]at h;omega
theorem NZ{f:FuncId}{fn:Func}(hf:P.funcs[f]?=some fn)(hb:fn.body=some c)(D:bS P f=true)(bq:args.length<=fn.ntmps)(g:LookH h0)
 (h:∀C:Cx,C.P=P->C.N=fn.ntmps->WP C c (HY P fn.results.toList h0 Post) (D3 args h0)):mQ P f args h0 Post:=by
 refine⟨D,λw M L y hM j Y=>?_⟩
 let C:Cx:={P:=P,N:=fn.ntmps,M0:=M,S:=iJ h0 L,pb:=λk=>match h0 k with|some (.box _ false _)=>some (L k).b|_=>none,w0:=w}
 have a8:=Y.1
 have V:dM C (D3 args h0) {tmps:=y.toArray++Array.replicate (fn.ntmps-y.toArray.size) undef,defers:=[]} w:=by
  refine⟨L,⟨Ext.refl _ _,hM,j.bl,j.sep,?_⟩,by show(y.toArray++Array.replicate (fn.ntmps-y.toArray.size) undef).size=fn.ntmps;simp;omega,jD.nil _,λn=>?_⟩
  .intro k blk a
   cases blk with
   |box i own Z=>
    cases own with
    |false=>
     have ak:Z=false:=by
      cases Z with
      |false=>rfl
      |true=>exact absurd rfl (g.nf k _ 0 a)
     refine⟨ak,?_,⟨k,_,a,trivial,rfl⟩,(j.bl k _ a).lt trivial,j.m2 k i Z a⟩;show(match h0 k with|some (.box _ false _)=>some (L k).b|_=>none)=some (L k).b;rw[show h0 k=_ from a]
    |true=>exact .inr ⟨⟨k,_,a,trivial,rfl⟩,j.m1 k _ a rfl trivial⟩
   |row e sz xs Z=>
    unfold dw;simp only[C.hpr k (pS (g.keys k _ a))];exact λhn=>.inr ⟨⟨k,_,a,hn,rfl⟩,j.m1 k _ a rfl hn⟩
   |mp=>exact absurd (g.nm k _ a) (by simp[zC])
  .show RepA w (ae C L h0) L h0 ((args[n]?).getD .undef) _
   cases hp:args[n]? with
   |none=>exact .undef _
   |some p=>
    have G:n<y.length:=by rw[<-a8];exact(th.1 hp).1
    have O:(y.toArray++Array.replicate (fn.ntmps-y.toArray.size) undef).getD n undef=y[n]:=by
     rw[Ze,ZJ (by simpa using G)];simp[G]
    simp only[O];exact Y.2 n p _ hp (an G)
 refine calls_of_wp_defers hf hb (wp_mono (h C rfl rfl _ w V) ?_)
 have s:∀(z:Act) w' d,dM C d z w'->uF P fn.results.toList h0 Post d->jD P z.defers/\∃v,(results fn z.tmps).run P w'=.ok v w'/\
  (∃v' r L' h',Ending.returned v=.returned v'/\Ext (iJ h0 L) w w'/\LookH h'/\TrIn w' M L' h'/\RepA w' (tT M L' h') L' h' r v'/\mZ r=true/\Post r h'/\
    (∀k i f,h0 k=some (.box i false f)->∃A,h' k=some (.box A false false)/\(L' k).b=(L k).b)/\
    (∀k i f,h' k=some (.box i false f)->∃l f0,h0 k=some (.box l false f0))/\
    (∀k blk,h' k=some blk->fS blk=true->blk.live (L' k)->w.heap.size<=(L' k).b\/dY h0 L (L' k).b)):=by
  rintro z w' d ⟨L',J,hN,ah,ht⟩ ⟨r,hr,R,F,I,T⟩;obtain⟨u,a6,a7⟩:=nN (C:=C) J ht hr
  have W:∀b o,tT M L' (qp d.h) b o->ae C L' d.h b o:=by
   rintro b o (q|⟨k,blk,a,E,ad,aj⟩)
   .exact .inl q
   .exact .inr ⟨k,blk,(jQ a).2,E,ad,aj⟩
  have hpr:=Pres.sub (w:=w') W;have Q:∀k blk,inK k=true->d.h k=some blk->∃m,qp d.h k=some m/\dh blk (L' k) m (L' k):=λk blk hi a=>⟨blk,by unfold qp;rw[Zd hi];exact a,bv _ _⟩
  have H:∀k i f,d.h k=some (.box i false f)->(∃l f0,h0 k=some (.box l false f0))/\(L' k).b=(L k).b/\f=false/\∀o,M (L' k).b o:=by
   intro k i f a;have ho:=J.own k _ a;have h1:(match h0 k with|some (.box _ false _)=>some (L k).b|_=>none)=some (L' k).b:=ho.2.1;split at h1
   .rename_i l f0 B
    injection h1 with h1;exact⟨⟨l,f0,B⟩,h1.symm,ho.1,ho.2.2.2.2⟩
   .cases h1
  have x:∀k blk,qp d.h k=some blk->fS blk=true->blk.live (L' k)->w.heap.size<=(L' k).b\/(iJ h0 L (L' k).b/\∀o,¬M (L' k).b o):=λk blk a X E=>
   l9 (C:=C) (pS (jQ a).1) (J.own k _ (jQ a).2) X (F.nm k _ a) E
  refine⟨ah,u,a6,u,r,L',qp d.h,rfl,J.ext,F,⟨?_,?_,?_,?_⟩,m7 hpr Q R a7,R,I,?_,?_,?_⟩
  .exact λk blk a=>(J.bl k blk (jQ a).2).inK hpr Q (λi o f e=>F.cl k i o f (by rw[a,e])) (λ_=>rfl)
  .exact λk k' b1 b2 ar h1 B=>J.sep k k' b1 b2 ar (jQ h1).2 (jQ B).2
  .intro k blk a X E o K
   rcases x k blk a X E with q|q
   .have:=hM _ _ K;omega
   .exact q.2 o K
  .exact λk i f a=>(H k i f (jQ a).2).2.2.2
  .intro k i f a
   obtain⟨A,h1⟩:=T k i f a;exact⟨A,by unfold qp;rw[Zd (g.keys k _ a)];exact h1,(H k _ _ h1).2.1⟩
  .exact λk i f a=>(H k i f (jQ a).2).1
  .intro k blk a X E
   rcases x k blk a X E with q|⟨⟨k0,b0,e1,e2,e3⟩,q⟩
   .exact .inl q
   .refine .inr ⟨k0,b0,e1,?_,e2,e3⟩
    cases b0 with
    |box l o0 f0=>
     cases o0 with
     |true=>rfl
     |false=>exact absurd (j.m2 k0 _ _ e1 0) (by rw[<-e3];exact q 0)
    |row=>rfl
    |mp=>rfl
 rintro e z w' ⟨d,U,hq⟩
 cases e with
 |normal=>obtain⟨h1,v,B,h3⟩:=s z w' d U hq;exact iD h1 B h3
 |ret=>obtain⟨h1,v,B,h3⟩:=s z w' d U hq;exact iD h1 B h3
 |exit=>exact hq.elim
 |goto=>exact hq.elim
 |panic=>exact hq.elim
 |outgrown=>exact hq.elim
def ij(o:Bool):Blk->Blk
 |.box a _ f=>.box a o f
 |b=>b
def gv(h:Hp)(k:Nat):Bool:=match h k with
 |some (.box _ o _)=>o
 |_=>true
def gC(h:Hp):Hp:=λk=>if inK k=true then(if k=290 then(h k).map (ij false)else h k)else none
def gV(k:Nat):Bool:=!inK k||k==290
def dS(x:AV):AV:=if eJ gV x=true then x else .undef
def nC:Blk->Blk
 |.box a o f=>.box (a.map dS) o f
 |b=>b
def gw(h h':Hp):Hp:=λk=>if inK k=true then(if k=290 then(h' k).map (ij (gv h k))else h' k)else(h k).map nC
theorem dv{o:Bool}:(ij o b).live l↔b.live l:=by cases b<;>exact yAn
theorem sL{o:Bool}:(ij o b).frz q↔b.frz q:=by cases b<;>exact yAn
theorem km:(nC b).live l↔b.live l:=by cases b<;>exact yAn
theorem HZ:(nC b).frz q↔b.frz q:=by cases b<;>exact yAn
theorem nD{o:Bool}{l':Loc}(h:dh b l b' l'):dh b l (ij o b') l':=by cases b<;>cases b'<;>exact h
theorem iB(e:gC h k=some b):inK k=true/\∃b0,h k=some b0/\(k=290->b=ij false b0)/\(k≠290->b=b0):=by
 unfold gC at e;split at e
 .rename_i hi
  split at e
  .rename_i h1
   simp only[II]at e;obtain⟨b0,a,rfl⟩:=e;exact⟨hi,b0,a,λ_=>rfl,λc=>absurd h1 c⟩
  .rename_i h1;exact⟨hi,b,e,λa=>absurd a h1,λ_=>rfl⟩
 .cases e
theorem xW(hi:inK k=true)(a:h k=some b):gC h k=some (if k=290 then ij false b else b):=by
 unfold gC;rw[Zd hi];split
 .rw[a];rfl
 .exact a
theorem D4{h':Hp}(hi:inK k=true)(a:h' k=some b):gw h h' k=some (if k=290 then ij (gv h k) b else b):=by
 unfold gw;rw[Zd hi];split
 .rw[a];rfl
 .exact a
theorem nE{h':Hp}(e:gw h h' k=some b):(inK k=true/\∃b0,h' k=some b0/\b=if k=290 then ij (gv h k) b0 else b0)\/(inK k=false/\∃b0,h k=some b0/\b=nC b0):=by
 unfold gw at e;split at e
 .rename_i hi
  split at e
  .rename_i h1
   simp only[II]at e;obtain⟨b0,a,rfl⟩:=e;exact .inl ⟨hi,b0,a,by rw[Zd h1]⟩
  .rename_i h1;exact .inl ⟨hi,b,e,by rw[Y6 h1]⟩
 .rename_i hi
  simp only[II]at e;obtain⟨b0,a,rfl⟩:=e;exact .inr ⟨by simpa using hi,b0,a,rfl⟩
structure InOk(h:Hp):Prop where
 nf:∀k blk o,inK k=true->h k=some blk->¬blk.frz o
 nm:∀k blk,inK k=true->h k=some blk->zC blk=true
 cl:∀k cs o f,inK k=true->h k=some (.box cs o f)->∀x∈cs,mZ x=true
 pin:∀k cs f,inK k=true->h k=some (.box cs false f)->k=290
 bx:∀blk,h 290=some blk->∃cs o f,blk=.box cs o f
section
variable {C:Cx} {L L':Nat->Loc} {h h':Hp} {w w':World}
theorem Ap(l:MemL C L h w)(hi:InOk h){b:Nat}(m:dY (gC h) L b):(C.w0.heap.size<=b\/(C.S b/\∀o,¬C.M0 b o))/\iJ h L b:=by
 obtain⟨k,blk,j,d,c,rfl⟩:=m;obtain⟨h1,b0,a,g,i⟩:=iB j;by_cases e:k=290
 .have:=g e
  subst this;subst e;obtain⟨n,o,f,rfl⟩:=hi.bx b0 a;cases d
 .have:=i e
  subst this;exact⟨l9 (pS h1) (l.own k _ a) d (hi.nm k _ h1 a) c,k,_,a,c,rfl⟩
theorem MemL.takeStep(J:MemL C L h w)(hi:InOk h)(hx:Ext (iJ (gC h) L) w w')(ar:LookH h')
 (ht:TrIn w' (λb o=>ae C L h b o/\¬dY (gC h) L b) L' h')
 (U:∀k A f,gC h k=some (.box A false f)->∃W,h' k=some (.box W false false)/\(L' k).b=(L k).b)
 (ah:∀k A f,h' k=some (.box A false f)->∃g f0,gC h k=some (.box g false f0))
 (hn:∀k blk,h' k=some blk->fS blk=true->blk.live (L' k)->w.heap.size<=(L' k).b\/dY (gC h) L (L' k).b):
 ∃z:Nat->Loc,(∀k,inK k=true->z k=L' k)/\MemL C z (gw h h') w'/\(∀{x:AV}{u:Value},RepA w (ae C L h) L h x u->RepA w' (ae C z (gw h h')) z (gw h h') (dS x) u)/\
  (∀{x:AV}{u:Value},mZ x=true->RepA w' (tT (λb o=>ae C L h b o/\¬dY (gC h) L b) L' h') L' h' x u->RepA w' (ae C z (gw h h')) z (gw h h') x u):=by
 let z:Nat->Loc:=λk=>if inK k=true then L' k else L k
 have m:∀k,inK k=true->z k=L' k:=λk s=>Zd s
 have E:∀k,inK k=false->z k=L k:=λk s=>by simp[z,s]
 have b7:=J.ext.size
 have P:∀b,iJ (gC h) L b->∃k blk,inK k=true/\h k=some blk/\blk.live (L k)/\b=(L k).b:=by
  rintro b ⟨k,blk,s,d,rfl⟩;obtain⟨h1,b0,G,H,M⟩:=iB s;refine⟨k,b0,h1,G,?_,rfl⟩;by_cases e:k=290
  .rw[H e]at d;exact dv.1 d
  .rw[M e]at d;exact d
 have Q:∀b,iJ (gC h) L b->∀o,ae C L h b o:=by
  intro b D o;obtain⟨k,blk,h1,G,H,rfl⟩:=P b D;exact .inr ⟨k,blk,G,H,rfl,hi.nf k blk o h1 G⟩
 have aj:∀b,dY (gC h) L b->iJ (gC h) L b:=by
  rintro b ⟨k,blk,h1,_,H,M⟩;exact⟨k,blk,h1,H,M⟩
 have ak:∀b o,ae C z (gw h h') b o->tT (λb o=>ae C L h b o/\¬dY (gC h) L b) L' h' b o:=by
  rintro b o (B|⟨k,blk,s,d,D,hf⟩)
  .refine .inl ⟨.inl B,λh8=>?_⟩
   rcases(Ap J hi h8).1 with h7|h7
   .have:=J.m0 _ _ B;omega
   .exact h7.2 o B
  .rcases nE s with⟨l,b0,h1,rfl⟩|⟨l,b0,h1,rfl⟩
   .rw[m k l]at d D
    refine .inr ⟨k,b0,h1,?_,D,?_⟩
    .split at d
     .exact dv.1 d
     .exact d
    .split at hf
     .exact λh8=>hf (sL.2 h8)
     .exact hf
   .rw[E k l]at d D
    refine .inl ⟨.inr ⟨k,b0,h1,km.1 d,D,λh8=>hf (HZ.2 h8)⟩,λh8=>?_⟩;obtain⟨k',a,G,H,M,h5⟩:=P b (aj b h8);refine J.sep k k' b0 a (λe=>?_) h1 H (km.1 d) M (by rw[D,<-h5]);rw[e,G]at l;cases l
 have Z:=Pres.sub (w:=w') ak
 have V:Pres w (ae C L h) w' (ae C z (gw h h')):=by
  have a7:∀b o,¬ae C L h b o->¬iJ (gC h) L b:=λb o B h8=>B (Q b h8 o)
  have N:∀b o,b<w.heap.size->ae C z (gw h h') b o->ae C L h b o:=by
   intro b o I B;rcases ak b o B with h8|⟨k,blk,s,d,D,hf⟩
   .exact h8.1
   .cases y:fS blk with
    |true=>
     rcases hn k blk s y d with h7|h7
     .omega
     .rw[D]at h7;exact Q b (aj b h7) o
    |false=>
     cases blk with
     |row=>cases y
     |mp=>cases y
     |box A o9 f9=>
      cases o9 with
      |true=>cases y
      |false=>
       obtain⟨g,f0,h7⟩:=ah k A f9 s;obtain⟨_,_,h6⟩:=U k g f0 h7;exact Q b ⟨k,_,h7,trivial,by rw[<-D,h6]⟩ o
  refine⟨λb o v hc R=>?_,λb arr c hc R=>?_⟩
  .have I:=xX hc
   exact⟨(hx.cell I (a7 b o R)).trans hc,λB=>R (N b o I B)⟩
  .have I:=ri hc
   exact⟨(hx.block b I (a7 b 0 R)).trans hc,λB=>R (N b 0 I B)⟩
 have ad:∀k blk,gV k=true->h k=some blk->∃a,gw h h' k=some a/\dh blk (L k) a (z k):=by
  intro k blk s h1
  cases r:inK k with
  |false=>
   refine⟨nC blk,by simp only[gw,r,Y9,Zk,h1,ZS],?_⟩;rw[E k r]
   cases blk with
   |box=>exact rfl
   |row=>exact⟨rfl,rfl,Zf _,λ_=>rfl⟩
   |mp=>exact⟨rfl,rfl,rfl⟩
  |true=>
   have e:k=290:=by simpa[gV,r]using s
   obtain⟨A,o,f,rfl⟩:=hi.bx blk (by rw[<-e];exact h1)
   have G:gC h k=some (.box A false f):=by rw[xW r h1,Zd e];rfl
   obtain⟨W,H,M⟩:=U k A f G;refine⟨_,D4 r H,?_⟩;rw[Zd e,m k r];exact M
 have Y:∀k blk,inK k=true->h' k=some blk->∃a,gw h h' k=some a/\dh blk (L' k) a (z k):=by
  intro k blk r h1;refine⟨_,D4 r h1,?_⟩;rw[m k r];split
  .exact nD (bv _ _)
  .exact bv _ _
 have O:∀{x:AV}{u:Value},RepA w (ae C L h) L h x u->RepA w' (ae C z (gw h h')) z (gw h h') (dS x) u:=by
  intro x u hr;unfold dS;split
  .rename_i T;exact m7 V ad T hr
  .exact .undef _
 refine⟨z,m,⟨?_,J.m0,?_,?_,?_⟩,O,λT hr=>m7 Z Y T hr⟩
 .refine J.ext.trans hx (λb I B=>?_)
  obtain⟨k,blk,h1,G,H,rfl⟩:=P b B;have T:=J.own k _ G
  cases y:fS blk with
  |true=>
   rcases l9 (pS h1) T y (hi.nm k _ h1 G) H with h7|h7
   .omega
   .exact h7.1
  |false=>
   cases blk with
   |row=>cases y
   |mp=>cases y
   |box A o9 f9=>
    cases o9 with
    |true=>cases y
    |false=>exact T.2.2.1
 .intro k blk s
  rcases nE s with⟨l,b0,h1,rfl⟩|⟨l,b0,h1,rfl⟩
  .rw[m k l]
   have D:=(ht.bl k b0 h1).inK Z Y (λA o f e=>ar.cl k A o f (by rw[h1,e])) (λ_=>rfl);split
   .cases b0<;>exact D
   .exact D
  .rw[E k l]
   have D:=J.bl k b0 h1
   have he:b0.live (L k)->w'.heap[(L k).b]?=w.heap[(L k).b]?:=by
    intro d;refine hx.block _ (D.lt d) (λB=>?_);obtain⟨k',a,G,H,M,h5⟩:=P _ B;exact J.sep k k' b0 a (λe=>by rw[e,G]at l;cases l) h1 H d M h5
   cases b0 with
   |box A own fz=>
    obtain⟨arr,ty,e,d,hr⟩:=D;refine⟨arr,ty,(he trivial).trans e,by simpa using d,λi p u hp y=>?_⟩;simp only[Y7,II]at hp;obtain⟨q,hq,rfl⟩:=hp;exact O (hr i q u hq y)
   |row et sz xs fz=>
    obtain⟨g1,g2,g3,g4,g5⟩:=D;refine⟨g1,g2,g3,g4,λX=>?_⟩;obtain⟨h6,a8,arr,e,h7,h8⟩:=g5 X;refine⟨h6,a8,arr,(he X).trans e,h7,λi x j p b4 hj=>?_⟩;obtain⟨u,y,hr⟩:=h8 i x j p b4 hj;exact⟨u,y,hr.mono V⟩
   |mp kd n es fz=>
    obtain⟨arr,c,e,g1⟩:=D;exact⟨arr,c,(he trivial).trans e,g1⟩
 .
  have new:∀k blk,inK k=true->h' k=some blk->blk.live (L' k)->w.heap.size<=(L' k).b\/iJ (gC h) L (L' k).b:=by
   intro k blk r s d
   cases y:fS blk with
   |true=>exact(hn k blk s y d).imp id (aj _)
   |false=>
    cases blk with
    |row=>cases y
    |mp=>cases y
    |box A o9 f9=>
     cases o9 with
     |true=>cases y
     |false=>
      obtain⟨g,f0,h7⟩:=ah k A f9 s;obtain⟨_,_,h6⟩:=U k g f0 h7;exact .inr ⟨k,_,h7,trivial,h6⟩
  have apart:∀k blk k' a,inK k=true->inK k'=false->h' k=some blk->h k'=some a->blk.live (L' k)->a.live (L k')->(L' k).b≠(L k').b:=by
   intro k blk k' a h1 G H M h5 h6 e;rcases new k blk h1 H h5 with h7|h7
   .have:=(J.bl k' a M).lt h6;omega
   .obtain⟨q,bq,g1,g2,g3,g4⟩:=P _ h7
    exact J.sep q k' bq a (λe9=>by rw[e9,G]at g1;cases g1) g2 M g3 h6 (by rw[<-g4,e])
  have lv:∀{k:Nat}{b0:Blk},(if k=290 then ij (gv h k) b0 else b0).live (L' k)->b0.live (L' k):=by
   intro k b0 d;split at d
   .exact dv.1 d
   .exact d
  intro k k' b1 b2 a6 s b3 d F;rcases nE s with⟨K,c1,d1,rfl⟩|⟨K,c1,d1,rfl⟩<;>rcases nE b3 with⟨i2,c2,d2,rfl⟩|⟨i2,c2,d2,rfl⟩
  .rw[m k K]at d|-
   rw[m k' i2]at F|-;exact ht.sep k k' c1 c2 a6 d1 d2 (lv d) (lv F)
  .rw[m k K]at d|-
   rw[E k' i2]at F|-;exact apart k c1 k' c2 K i2 d1 d2 (lv d) (km.1 F)
  .rw[E k K]at d|-
   rw[m k' i2]at F|-;exact λe=>apart k' c2 k c1 i2 K d2 d1 (lv F) (km.1 d) e.symm
  .rw[E k K]at d|-
   rw[E k' i2]at F|-;exact J.sep k k' c1 c2 a6 d1 d2 (km.1 d) (km.1 F)
 .
  intro k blk s;rcases nE s with⟨K,b0,d1,rfl⟩|⟨K,b0,d1,rfl⟩
  .rw[m k K]
   have fresh:fS b0=true->b0.live (L' k)->C.w0.heap.size<=(L' k).b\/(C.S (L' k).b/\∀o,¬C.M0 (L' k).b o):=by
    intro y d;rcases hn k b0 d1 y d with h7|h7
    .exact .inl (by omega)
    .exact(Ap J hi h7).1
   cases b0 with
   |mp=>exact absurd (ar.nm k _ d1) (by simp[zC])
   |row e sz xs fz=>
    have:dw C k (L' k) (.row e sz xs fz):=by
     unfold dw;simp only[C.hpr k (pS K)];exact λX=>fresh rfl X
    split<;>exact this
   |box A o9 f9=>
    cases o9 with
    |true=>
     have B:=fresh rfl trivial;split
     .rename_i e
      have h8:gC h k=none\/∃g f0,gC h k=some (.box g false f0):=by
       cases h7:h k with
       |none=>left;simp[gC,h7]
       |some b1=>
        right
        obtain⟨g,o0,f0,rfl⟩:=hi.bx b1 (by rw[<-e];exact h7);exact⟨g,f0,by rw[xW K h7,Zd e];rfl⟩
      rcases h8 with h8|⟨g,f0,h8⟩
      .have h7:h k=none:=by
        cases h7:h k with
        |none=>rfl
        |some b1=>rw[xW K h7]at h8;cases h8
       have:gv h k=true:=by simp[gv,h7]
       rw[this];exact B
      .obtain⟨W,h6,_⟩:=U k g f0 h8
       rw[d1]at h6;cases h6
     .exact B
    |false=>
     obtain⟨g,f0,h7⟩:=ah k A f9 d1;obtain⟨W,h6,h5⟩:=U k g f0 h7;rw[d1]at h6;injection h6 with h6;injection h6 with h6a _ h6b;obtain⟨_,b1,g2,g3,g4⟩:=iB h7
     have e:k=290:=by
      refine Classical.byContradiction λe=>e ?_;have:=g4 e;subst this;exact hi.pin k g f0 K g2
     rw[Zd e];obtain⟨b5,o1,f1,rfl⟩:=hi.bx b1 (by rw[<-e];exact g2);have T:=J.own k _ g2
     have:gv h k=o1:=by simp[gv,g2]
     rw[this];show dw C k (L' k) (.box A o1 f9)
     cases o1 with
     |true=>
      have T:C.w0.heap.size<=(L k).b\/(C.S (L k).b/\∀o,¬C.M0 (L k).b o):=T;show C.w0.heap.size<=(L' k).b\/(C.S (L' k).b/\∀o,¬C.M0 (L' k).b o);rw[h5];exact T
     |false=>
      obtain⟨a1,a2,a3,a4,a5⟩:=T;refine⟨h6b,?_,?_,?_,?_⟩
      .rw[h5];exact a2
      .rw[h5];exact a3
      .rw[h5];exact a4
      .rw[h5];exact a5
  .rw[E k K]
   have:=J.own k b0 d1
   cases b0 with
   |box A o f=>cases o<;>exact this
   |row=>exact this
   |mp=>exact this
def DM(C:Cx)(Q:St->Prop)(f:Operand)(xs:List Operand)(d:Option Nat)(st:St):Prop:=
 ∃g Post,bC (st.ev f)=some (g,[],[])/\InOk st.h/\mQ C.P g (xs.map st.ev) (gC st.h) Post/\(xs.map st.ev).all mZ=true/\dI C.N d=true/\
  ∀r h',LookH h'->mZ r=true->Post r h'->Q (St.put ⟨λn=>dS (st.t n),gw st.h h'⟩ d r [])
theorem WP.takeG{xs:List Operand}{K:St->Prop}(ad:∀st a w,dM C st a w->K st->∃A,dM C A a w/\bZ C.P hn C.N ops (Q .normal) post A)(Y:ops.toList=pre++o::post)(bq:o.op=.call {callee:=.value f,args:=xs.toArray,argTypes:=ats})(hg:o.guard=none)
 (hq:bZ C.P hn C.N ops (DM C K f xs o.dst) pre st):WP C (.region id ops false) Q st:=by
 intro a w hs;refine wp_region_list ?_;rw[Y];refine fD (λc a1 w1 ca b7=>?_) hs hq;obtain⟨g,Post,ah,hi,⟨d,hD⟩,X,aj,hQ⟩:=b7;obtain⟨L,U,hN,ak,ht⟩:=ca;refine wpList_step (λK hK=>?_);rw[eI hg,Zd rfl];obtain⟨vs,us,ar,cf,cg⟩:=jC (bE ht f) ah;have ch:=cf.nil_inv;have cd:=cg.nil_inv;subst ch;subst cd
 have cm:∀b,dY (gC c.h) L b->∀o,ae C L c.h b o:=by
  intro b R o;obtain⟨k,blk,h1,l,j,rfl⟩:=R;obtain⟨m,b0,g1,g2,g3⟩:=iB h1;by_cases e:k=290
  .rw[g2 e]at j;exact .inr ⟨k,b0,g1,dv.1 j,rfl,hi.nf k b0 o m g1⟩
  .rw[g3 e]at j;exact .inr ⟨k,b0,g1,j,rfl,hi.nf k b0 o m g1⟩
 have B:tT (λb o=>ae C L c.h b o/\¬dY (gC c.h) L b) L (gC c.h)=ae C L c.h:=by
  funext b o
  refine propext ⟨?_,λF=>?_⟩
  .rintro(F|⟨k,blk,h1,l,j,h4⟩)
   .exact F.1
   .obtain⟨m,b0,g1,g2,g3⟩:=iB h1
    by_cases e:k=290
    .rw[g2 e]at l;exact .inr ⟨k,b0,g1,dv.1 l,j,hi.nf k b0 o m g1⟩
    .rw[g3 e]at l;exact .inr ⟨k,b0,g1,l,j,hi.nf k b0 o m g1⟩
  .by_cases h8:dY (gC c.h) L b
   .obtain⟨k,blk,h1,l,j,h4⟩:=h8
    refine .inr ⟨k,blk,h1,j,h4.symm,?_⟩;obtain⟨m,b0,g1,g2,g3⟩:=iB h1;by_cases e:k=290
    .rw[g2 e];exact λh7=>hi.nf k b0 o m g1 (sL.1 h7)
    .rw[g3 e];exact hi.nf k b0 o m g1
   .exact .inl ⟨F,h8⟩
 have D:∀k blk,inK k=true->c.h k=some blk->∃q,gC c.h k=some q/\dh blk (L k) q (L k):=by
  intro k blk a6 h1;refine⟨_,xW a6 h1,?_⟩;split
  .exact nD (bv _ _)
  .exact bv _ _
 have a7:TrIn w1 (λb o=>ae C L c.h b o/\¬dY (gC c.h) L b) L (gC c.h):=by
  refine⟨?_,?_,?_,?_⟩
  .intro k blk hk
   rw[B];obtain⟨m,b0,g1,g2,g3⟩:=iB hk;have R:=(U.bl k b0 g1).inK (Pres.refl _ _) D (λcs o f e=>hi.cl k cs o f m (by rw[g1,e])) (λ_=>rfl);by_cases e:k=290
   .rw[g2 e];cases b0<;>exact R
   .rw[g3 e];exact R
  .intro k k' b1 b2 J h1 l hl z
   obtain⟨m,c1,g1,g2,g3⟩:=iB h1;obtain⟨i2,c2,e1,e2,e3⟩:=iB l;refine U.sep k k' c1 c2 J g1 e1 ?_ ?_
   .by_cases e:k=290
    .rw[g2 e]at hl;exact dv.1 hl
    .rw[g3 e]at hl;exact hl
   .by_cases e:k'=290
    .rw[e2 e]at z;exact dv.1 z
    .rw[e3 e]at z;exact z
  .exact λk blk h1 l j o F=>F.2 ⟨k,blk,h1,l,j,rfl⟩
  .intro k cs f hk o
   obtain⟨m,b0,g1,g2,g3⟩:=iB hk
   have S:b0.live (L k):=by
    by_cases e:k=290
    .have h8:=g2 e
     cases b0 with
     |box=>exact trivial
     |row=>cases h8
     |mp=>exact trivial
    .rw[<-g3 e];exact trivial
   refine⟨.inr ⟨k,b0,g1,S,rfl,hi.nf k b0 o m g1⟩,?_⟩;rintro⟨k',q,h1,l,j,h4⟩;obtain⟨i2,c2,e1,e2,e3⟩:=iB h1
   have J:k≠k':=by
    intro e;rw[<-e,hk]at h1;injection h1 with h1;rw[<-h1]at l;cases l
   refine U.sep k k' b0 c2 J g1 e1 S ?_ h4;by_cases e:k'=290
   .rw[e2 e]at j;exact dv.1 j
   .rw[e3 e]at j;exact j
 have O:aD w1 (tT (λb o=>ae C L c.h b o/\¬dY (gC c.h) L b) L (gC c.h)) L (gC c.h) (xs.map c.ev) (xs.map a1.eval):=by
  rw[B];refine⟨by simp,λi p u hp hu=>?_⟩;have a8:=L4.1 X p (An hp);simp only[Y7,II]at hp hu;obtain⟨x,hx,rfl⟩:=hp;obtain⟨y,hy,rfl⟩:=hu;rw[hx]at hy;injection hy with hy;subst hy;exact m7 (Pres.refl _ _) D a8 (bE ht x)
 have s:=hD w1 _ L (xs.map a1.eval) (λb o F=>U.mlt F.1) a7 O
 have Z:(execOp a1.eval o).run C.P w1=.ok (.enter g (xs.map a1.eval).toArray) w1:=by
  unfold bS at d
  cases H:C.P.funcs[g]? with
  |none=>rw[H]at d;cases d
  |some fn=>
   rw[H]at d;simp only[up,ZK,yAb,ne_eq]at d
   have R:fn.body.isNone=false:=by cases ck:fn.body<;>simp_all
   unfold execOp;rw[bq];simp only[resolve,ar,Deferred.ofValue,pure_bind,Sem.run_bind,Result.andThen_ok,invoke,callFunc,program,Sem.run,H];simp[d.2,R]
 unfold Oper.wp;rw[Z];simp only[Oper.upon];refine s.mono ?_;rintro ee w' ⟨v,r,L',h',rfl,hx,T,cc,hr,E,M,b3,b4,W⟩;obtain⟨L2,cj,V,I,G⟩:=U.takeStep hi hx T cc b3 b4 W;refine hK _ _ ?_;obtain⟨cn,cb,b8⟩:=ad _ _ _ (dM.put V hN ak (λn=>I (ht n)) aj (aH.refl V) (G E hr)) (hQ r h' T E M);exact fW (λA a' w' b9 b5=>⟨A,b9,b5⟩) cb b8
theorem WP.take{xs:List Operand}(a:ops.toList=pre++o::post)(b:o.op=.call {callee:=.value f,args:=xs.toArray,argTypes:=ats})(c:o.guard=none)
 (hq:bZ C.P hn C.N ops (DM C (bZ C.P hn C.N ops (Q .normal) post) f xs o.dst) pre st):WP C (.region id ops false) Q st:=WP.takeG (λst _ _ e d=>⟨st,e,d⟩) a b c hq
end
attribute [simp] eJ bT jB nC ij
def rk(d a q:Nat):Nat:=if q=d then a else q
def PE(d a:Nat):XV->XV
 |.barr k n c=>.barr (rk d a k) n c
 |.mp k=>.mp (rk d a k)
 |.suf k o n t=>.suf (rk d a k) o n t
def uG(d a:Nat):AV->AV
 |.pv p=>.pv p
 |.ptr k o=>.ptr (rk d a k) o
 |.arr k n=>.arr (rk d a k) n
 |.eptr k n i o=>.eptr (rk d a k) n i o
 |.ext x=>.ext (PE d a x)
 |_=>.undef
def D5(d c:Nat):AV->AV
 |.agg e=>.agg (e.map (uG d c))
 |.fn f a b=>.fn f (a.map (uG d c)) (b.map (uG d c))
 |.tup e=>.tup (e.map (uG d c))
 |x=>uG d c x
def qL(d c:Nat):Blk->Blk
 |.box a o f=>.box (a.map (D5 d c)) o f
 |b=>b
def mG(d a:Nat)(h:Hp):Hp:=λq=>if q=a then(h d).map (qL d a)else if q=d then none else(h q).map (qL d a)
theorem uH{d:Nat}:(qL d k' b).live l↔b.live l:=by cases b<;>exact yAn
theorem Jk{d:Nat}{o:Nat}:(qL d k' b).frz o↔b.frz o:=by cases b<;>exact yAn
theorem D6(d a:Nat)(b:Blk)(l:Loc):dh b l (qL d a b) l:=by
 cases b with
 |box=>exact rfl
 |row=>exact⟨rfl,rfl,Zf _,λ_=>rfl⟩
 |mp=>exact⟨rfl,rfl,rfl⟩
theorem Gn{w:World}{M M':Nat->Nat->Prop}{L v:Nat->Loc}{g:Hp}{d:Nat}(hp:Pres w M w M')(y:∀k blk,h k=some blk->∃a,g (rk d k' k)=some a/\dh blk (L k) a (v (rk d k' k)))(O:RepA w M L h x u):RepA w M' v g (D5 d k' x) u:=by
 have one:∀{x:AV}{u:Value},RepA w M L h x u->RepA w M' v g (uG d k' x) u:=by
  intro x u O
  cases O with
  |pv K=>exact .pv (K.mono hp)
  |@ptr k Q G own A j=>
   obtain⟨a,h1,g⟩:=y k _ j
   cases a with
   |row=>exact g.elim
   |mp=>exact g.elim
   |box H C m=>have g:(v (rk d k' k)).b=(L k).b:=g;rw[<-g];exact .ptr h1
  |@arr k n e U A xs u j hn l=>
   obtain⟨a,h1,g⟩:=y k _ j
   cases a with
   |box=>exact g.elim
   |mp=>exact g.elim
   |row S D r m=>
    obtain⟨_,F,T,z⟩:=g;refine .arr h1 (by omega) (λe=>?_)
    have:r.length=xs.length:=by omega
    rw[z this];exact l (by omega)
  |@eptr k n i Q e U A xs u j hn l=>
   obtain⟨a,h1,g⟩:=y k _ j
   cases a with
   |box=>exact g.elim
   |mp=>exact g.elim
   |row S D r m=>
    obtain⟨_,F,T,z⟩:=g;refine .eptr h1 (by omega) (λe=>?_)
    have:r.length=xs.length:=by omega
    rw[z this,F];exact l (by omega)
  |ext s=>
   cases s with
   |@barr k n c G own A W j=>
    obtain⟨a,h1,g⟩:=y k _ j
    cases a with
    |row=>exact g.elim
    |mp=>exact g.elim
    |box H C m=>have g:(v (rk d k' k)).b=(L k).b:=g;rw[<-g];exact .ext (.barr W h1)
   |@mp k n X es A j=>
    obtain⟨a,h1,g⟩:=y k _ j
    cases a with
    |row=>exact g.elim
    |box=>exact g.elim
    |mp P Y V m=>have g:P=X/\Y=n/\(v (rk d k' k)).b=(L k).b:=g;rw[<-g.2.2];exact .ext (.mp h1)
   |@suf k o n t e U A xs u N j hn ht l=>
    obtain⟨a,h1,g⟩:=y k _ j
    cases a with
    |box=>exact g.elim
    |mp=>exact g.elim
    |row S D r m=>
     obtain⟨_,F,T,z⟩:=g;refine .ext (.suf N h1 hn (by omega) (λe=>?_))
     have:r.length=xs.length:=by omega
     rw[z this,F];exact l (by omega)
  |undef=>exact .undef _
  |agg=>exact .undef _
  |fn=>exact .undef _
  |tup=>exact .undef _
 cases O with
 |agg G E B I=>
  refine .agg _ E (by simpa using B) λi p u hp l=>?_;simp only[Y7,II]at hp;obtain⟨q,hq,rfl⟩:=hp;exact one (I i q u hq l)
 |fn f first R E Z B J h1 g=>
  refine .fn f _ _ E Z (by simpa using B) (by simpa using J) (λi p u hp l=>?_) (λi p u hp l=>?_)
  .simp only[Y7,II]at hp
   obtain⟨q,hq,rfl⟩:=hp;exact one (h1 i q u hq l)
  .simp only[Y7,II]at hp
   obtain⟨q,hq,rfl⟩:=hp;exact one (g i q u hq l)
 |tup G E B I=>
  refine .tup _ E (by simpa using B) λi p u hp l=>?_;simp only[Y7,II]at hp;obtain⟨q,hq,rfl⟩:=hp;exact one (I i q u hq l)
 |pv K=>exact one (.pv K)
 |ptr j=>exact one (.ptr j)
 |arr j hn l=>exact one (.arr j hn l)
 |eptr j hn l=>exact one (.eptr j hn l)
 |ext s=>exact one (.ext s)
 |undef=>exact .undef _
theorem WP.ren(d g:Nat)(ad:d≠g)(y:st.h g=none)(S:g<2000000)(O:∀J f,st.h d≠some (.box J false f))
 (h:WP C c Q ⟨λn=>D5 d g (st.t n),mG d g st.h⟩):WP C c Q st:=by
 intro a w hs;obtain⟨L,M,hN,P,W⟩:=hs
 let D:Nat->Loc:=λq=>if q=g then L d else L q
 have m:∀{k blk},st.h k=some blk->D (rk d g k)=L k:=by
  intro k blk v;unfold rk;split
  .rename_i e;subst e;exact Zd rfl
  .rename_i e
   have:k≠g:=by intro s;rw[s,y]at v;cases v
   exact Y6 this
 have get:∀{q b},mG d g st.h q=some b->∃r b0,q=rk d g r/\st.h r=some b0/\b=qL d g b0:=by
  intro q b hq;unfold mG at hq;split at hq
  .rename_i e
   simp only[II]at hq;obtain⟨b0,h1,rfl⟩:=hq;exact⟨d,b0,by simp[rk,e],h1,rfl⟩
  .split at hq
   .cases hq
   .rename_i F s
    simp only[II]at hq;obtain⟨b0,h1,rfl⟩:=hq;exact⟨q,b0,by simp[rk,s],h1,rfl⟩
 have put:∀{k blk},st.h k=some blk->mG d g st.h (rk d g k)=some (qL d g blk):=by
  intro k blk v;unfold rk;split
  .rename_i e;subst e;simp[mG,v]
  .rename_i e
   have:k≠g:=by intro s;rw[s,y]at v;cases v
   simp[mG,this,e,v]
 have inj:∀{k k2 b I},st.h k=some b->st.h k2=some I->rk d g k=rk d g k2->k=k2:=by
  intro k k2 b I h1 Z e
  have n1:k≠g:=by intro s;rw[s,y]at h1;cases h1
  have n2:k2≠g:=by intro s;rw[s,y]at Z;cases Z
  unfold rk at e;split at e<;>split at e
  .rename_i F s;rw[F,s]
  .exact absurd e.symm n2
  .exact absurd e n1
  .exact e
 have hM:∀b o,ae C D (mG d g st.h) b o->ae C L st.h b o:=by
  rintro b o (h0|⟨q,b1,hq,E,H,hf⟩)
  .exact .inl h0
  .obtain⟨r,b0,rfl,h1,rfl⟩:=get hq
   rw[m h1]at E H;exact .inr ⟨r,b0,h1,uH.1 E,H,λh9=>hf (Jk.2 h9)⟩
 have hp:Pres w (ae C L st.h) w (ae C D (mG d g st.h)):=Pres.sub hM;have R:∀k blk,st.h k=some blk->∃A,mG d g st.h (rk d g k)=some A/\dh blk (L k) A (D (rk d g k)):=λk blk v=>⟨_,put v,by rw[m v];exact D6 _ _ _ _⟩;have B:∀{x u},RepA w (ae C L st.h) L st.h x u->RepA w (ae C D (mG d g st.h)) D (mG d g st.h) (D5 d g x) u:=λY=>Gn hp R Y;refine h a w ⟨D,⟨M.ext,M.m0,?_,?_,?_⟩,hN,P,λn=>B (W n)⟩
 .intro q b hq
  obtain⟨r,b0,rfl,h1,rfl⟩:=get hq;rw[m h1];have H:=M.bl r b0 h1
  cases b0 with
  |box J own G=>
   obtain⟨arr,ty,e,E,V⟩:=H;refine⟨arr,ty,e,by simpa using E,λi p u N X=>?_⟩;simp only[Y7,II]at N;obtain⟨z,hz,rfl⟩:=N;exact B (V i z u hz X)
  |row e sz xs G=>
   obtain⟨a1,a2,a3,a4,a5⟩:=H;refine⟨a1,a2,a3,a4,λhn=>?_⟩;obtain⟨b1,I,arr,b3,b4,b5⟩:=a5 hn;exact⟨b1,I,arr,b3,b4,λi x j p Y hj=>by obtain⟨u,X,V⟩:=b5 i x j p Y hj;exact⟨u,X,V.mono hp⟩⟩
  |mp kd n es G=>exact H
 .intro q q' b1 I U hq T E K
  obtain⟨p1,c1,rfl,d1,rfl⟩:=get hq;obtain⟨p2,c2,rfl,d2,rfl⟩:=get T;rw[m d1]at E|-;rw[m d2]at K|-;exact M.sep p1 p2 c1 c2 (λe=>U (by rw[e])) d1 d2 (uH.1 E) (uH.1 K)
 .intro q b hq
  obtain⟨r,b0,rfl,h1,rfl⟩:=get hq;rw[m h1];have l:=M.own r b0 h1;by_cases e:r=d
  .subst e
   have F:rk r g r=g:=by simp[rk]
   rw[F]
   cases b0 with
   |box J own G=>
    cases own with
    |false=>exact absurd h1 (O J G)
    |true=>exact l
   |row e sz xs G=>
    unfold dw qL;simp only[C.hpr g S];exact λhn=>l.row hn
   |mp=>exact l
  .have F:rk d g r=r:=by simp[rk,e]
   rw[F]
   cases b0 with
   |box J own G=>cases own<;>exact l
   |row=>exact l
   |mp=>exact l
theorem WP.nilRowsE(K:Nat->Bool)(E:Nat->Nat×Nat)(m:Nat){cs cs':List AV}{own fb:Bool}(g:st.h m=some (.box cs own fb))(A:∀q,K q=true->st.h q=none/\q<2000000/\0<(E q).2)
 (y:cs'.length=cs.length)(D:∀(i:Nat) x,cs'[i]?=some x->cs[i]?=some x\/(cs[i]?=some (.pv (.val (.slice none 0 0)))/\∃q,K q=true/\x=.arr q 0))
 (h:WP C c Q ⟨st.t,λq=>if K q=true then some (.row (E q).1 (E q).2 [] 0)else if q=m then some (.box cs' own fb)else st.h q⟩):WP C c Q st:=by
 intro a w W;obtain⟨L,s,hN,F,M⟩:=W
 let f:Nat->Loc:=λq=>if K q=true then⟨0,0,true⟩else L q
 let j:Hp:=λq=>if K q=true then some (.row (E q).1 (E q).2 [] 0)else if q=m then some (.box cs' own fb)else st.h q
 have U:K m=false:=by
  cases h1:K m with
  |false=>rfl
  |true=>rw[(A m h1).1]at g;cases g
 have hL:∀{q b},st.h q=some b->K q=false/\f q=L q:=by
  intro q b hq
  have:K q=false:=by
   cases h1:K q with
   |false=>rfl
   |true=>rw[(A q h1).1]at hq;cases hq
  exact⟨this,by simp[f,this]⟩
 have get:∀{q b},j q=some b->(K q=true/\b=.row (E q).1 (E q).2 [] 0)\/(K q=false/\q=m/\b=.box cs' own fb)\/(K q=false/\q≠m/\st.h q=some b):=by
  intro q b hq;simp only[j]at hq;split at hq
  .rename_i h1;injection hq with hq;exact .inl ⟨h1,hq.symm⟩
  .rename_i h1
   have h1:K q=false:=by simpa using h1
   split at hq
   .rename_i d;injection hq with hq;exact .inr (.inl ⟨h1,d,hq.symm⟩)
   .rename_i d;exact .inr (.inr ⟨h1,d,hq⟩)
 have T:∀b o,ae C f j b o->ae C L st.h b o:=by
  rintro b o (h0|⟨q,b1,hq,l,k,hf⟩)
  .exact .inl h0
  .rcases get hq with⟨h1,rfl⟩|⟨h1,rfl,rfl⟩|⟨h1,_,d⟩
   .simp[f,h1,Blk.live]at l
   .rw[(hL g).2]at k
    exact .inr ⟨q,_,g,trivial,k,hf⟩
   .rw[(hL d).2]at l k
    exact .inr ⟨q,b1,d,l,k,hf⟩
 have hp:Pres w (ae C L st.h) w (ae C f j):=Pres.sub T
 have r:KC L st.h f j:=by
  intro q b hq;obtain⟨h1,d⟩:=hL hq;rw[d];by_cases z:q=m
  .subst z
   rw[g]at hq;injection hq with hq;subst hq;exact⟨.box cs' own fb,by simp[j,h1],rfl⟩
  .exact⟨b,by simp[j,h1,z,hq],bv _ _⟩
 refine h a w ⟨f,⟨s.ext,s.m0,?_,?_,?_⟩,hN,F,λn=>(M n).mono hp r⟩
 .intro q b hq
  rcases get hq with⟨h1,rfl⟩|⟨h1,rfl,rfl⟩|⟨h1,_,d⟩
  .refine⟨(A q h1).2.2,Zf _,(λx Y=>by cases Y),λ_=>rfl,λhn=>?_⟩
   simp[f,h1]at hn
  .obtain⟨arr,Z,z,S,N⟩:=s.bl q _ g
   refine⟨arr,Z,by rw[(hL g).2];exact z,by rw[y];exact S,λi p u H P=>?_⟩;rcases D i p H with d|⟨d,B,O,rfl⟩
   .exact(N i p u d P).mono hp r
   .have X:=N i _ u d P
    cases X with
    |pv V=>
     rw[aK V];refine .arr (xs:=[]) (e:=(E B).1) (sz:=(E B).2) (fz:=0) (by simp[j,O]) (Zf _) (λ_=>?_);simp[f,O,Loc.slice]
  .rw[(hL d).2]
   exact(s.bl q b d).mono hp r (λ_=>rfl)
 .intro q B b1 b2 J hq I l G
  have v:∀{q b},j q=some b->b.live (f q)->∃b0,st.h q=some b0/\b0.live (L q)/\f q=L q:=by
   intro q b hq l;rcases get hq with⟨h1,rfl⟩|⟨h1,rfl,rfl⟩|⟨h1,_,d⟩
   .simp[f,h1,Blk.live]at l
   .exact⟨_,g,trivial,(hL g).2⟩
   .rw[(hL d).2]at l;exact⟨b,d,l,(hL d).2⟩
  obtain⟨c1,d1,f1,g1⟩:=v hq l;obtain⟨R,d2,f2,g2⟩:=v I G;rw[g1,g2];exact s.sep q B c1 R J d1 d2 f1 f2
 .intro q b hq
  rcases get hq with⟨h1,rfl⟩|⟨h1,rfl,rfl⟩|⟨h1,_,d⟩
  .refine dw.mkRow (A q h1).2.1 (λhn=>?_)
   simp[f,h1]at hn
  .have:=s.own q _ g
   rw[(hL g).2];cases own<;>exact this
  .rw[(hL d).2];exact s.own q b d
theorem WP.of_st{P:St->Prop}(h:P st/\∀st,P st->WP C c Q st):WP C c Q st:=h.2 st h.1
attribute [simp] D5 uG PE rk qL mG
abbrev Ym:PV:=.agg [Z 0,Z 0,.sl []]
def F6:R8:=⟨1,[Ym],0,0,[],0,[],[]⟩
def vK(u v:Nat)(c:Int):aB:=⟨u,v,c,1,F6⟩
theorem RK(t:fQ)(k:TmOk t):aR 21 (kA t) (B (fv t)):=by
 by_cases h0:(1<=t.maps.length/\t.maps.length<=4)/\t.conf.length<=4096
 .obtain⟨⟨h1,N⟩,O⟩:=h0
  have z:fv t=(t.maps.all dc&&t.conf.all (By t)):=by simp[fv,h1,N,O]
  have w1:¬(t.maps.length:Int)<1:=by omega
  have w2:¬4<(t.maps.length:Int):=by omega
  have R:¬4096<(t.conf.length:Int):=by omega
  have S:¬t.maps.length=0:=by omega
  rw[z];refine Dp func21 λC hP hN=>?_;refine Gz ?_;refine WP.loopN [4] t.maps.length (λi st=>st.t 1=.ptr 1 0/\st.h 1=some (.box [.pv (.sl (t.maps.map bf)),.pv (.sl (t.conf.map bR))] true false)/\st.t 24=.pv (.sl (t.maps.map bf))/\st.t 25=.pv (Z t.maps.length)/\st.t 26=.pv (Z i)/\st.h 4=none/\st.h 6=none/\vJ dc t.maps i) (by simp[Dt]) ?_;rintro i st hi ⟨g1,b1,v,x,y,F,b6,hq⟩;by_cases a:i<t.maps.length
  .have P:=ab a k.nl
   have D:t.maps[i]?=some t.maps[i]:=an a;have j:=FR a hq;have g:=FS (p:=dc) a;have b:=Zs a;have E:=Yf t.maps[i] (k.rest _ b) (k.pl _ b) (k.el _ b);generalize Q:t.maps[i]=e at *
   cases s:dc e with
   |true=>
    rw[s]at E;exact Gy
    all_goals exact j s
   |false=>
    rw[s]at E;rw[g s];exact Gy
  .have d:=HE a hq
   rw[d,Zu];refine Gz ?_;refine WP.loopN [6] t.conf.length (λi st=>st.t 1=.ptr 1 0/\st.h 1=some (.box [.pv (.sl (t.maps.map bf)),.pv (.sl (t.conf.map bR))] true false)/\st.t 35=.pv (.sl (t.conf.map bR))/\st.t 36=.pv (Z t.conf.length)/\st.t 37=.pv (Z i)/\st.h 6=none/\vJ (By t) t.conf i) (by simp[Dt,b1,g1,b6]) ?_;clear g1 b1 v x y F b6;rintro i st hi ⟨g1,b1,K,L,M,b6,hq⟩;by_cases a:i<t.conf.length
   .have P:=ab a k.cl
    have D:t.conf[i]?=some t.conf[i]:=an a;have j:=FR a hq;have g:=FS (p:=By t) a;have l:∀m∈t.maps,dc m=true:=L4.1 d;generalize Q:t.conf[i]=c at *;have u:=NR t c.1 k l;have G:=NR t c.2 k l;obtain⟨⟨c1,n,o⟩,⟨d1,d2,d3⟩⟩:=c;have f:By t (⟨c1,n,o⟩,⟨d1,d2,d3⟩)=(jr t ⟨c1,n,o⟩&&(jr t ⟨d1,d2,d3⟩&&c1 !=d1)):=rfl;generalize By t (⟨c1,n,o⟩,⟨d1,d2,d3⟩)=r at *;generalize t.conf.all (By t)=q at *;cases H:jr t ⟨c1,n,o⟩<;>cases I:jr t ⟨d1,d2,d3⟩<;>cases J:(c1==d1)
    all_goals
     simp only[H,I,bne,J,Zu,ZI,yAr,yAC,yBo,yAD]at u G f
     first|have A:=j f|rw[g f]
     skip
     exact Gy
    all_goals first|exact A|trace_state
   .rw[HE a hq]
    exact Gy
 .have z:fv t=false:=by
   cases h:fv t with
   |false=>rfl
   |true=>simp only[fv,up,Is]at h;exact absurd ⟨⟨h.1,h.2.1⟩,h.2.2.1⟩ h0
  rw[z];refine Dp func21 λC hP hN=>?_;exact Gy
  all_goals (exfalso;simp at *;omega)
def tx(plan:List (List Int))(tick k:Nat):Mov:=vM ((plan[k]?).getD []) k tick
def tA(p:Nat->Bool)(k:Nat):Prop:=∀j,j<k->p j=true
theorem ny(p:Nat->Bool):tA p 0:=λj h=>by omega
theorem nA{p:Nat->Bool}(h:tA p k)(hp:p k=true):tA p (k+1):=λj a=>by
 by_cases e:j=k
 .rw[e];exact hp
 .exact h j (by omega)
theorem qn{p:Nat->Bool}(h:tA p k)(b:¬k<n):(List.range n).all p=true:=by
 rw[L4];intro j a;rw[ZL]at a;exact h j (by omega)
theorem nB{p:Nat->Bool}(a:k<n)(hp:p k=false):(List.range n).all p=false:=by
 rw[yAA];exact⟨k,by simpa using a,by rw[hp];decide⟩
def wk(plan:List (List Int))(tick k:Nat):List PV:=(List.range k).map λj=>bQ (tx plan tick j)
theorem Pi(plan:List (List Int))(tick k:Nat):(wk plan tick k).length=k:=by simp[wk]
theorem RL(plan:List (List Int))(tick:Nat){j:Nat}(h:j<k):(wk plan tick k)[j]?=some (bQ (tx plan tick j)):=by simp[wk,h]
theorem MB(plan:List (List Int))(tick k:Nat):wk plan tick (k+1)=wk plan tick k++[bQ (tx plan tick k)]:=by simp[wk,yAs]
theorem Pj(t:fQ)(plan:List (List Int))(tick k:Nat):ig t plan tick k=(jr t (tx plan tick k)&&(List.range k).all λi=>!Bz t (tx plan tick k) (tx plan tick i)):=rfl
theorem Yk(t:fQ)(plan:List (List Int))(tick n:Nat)(ht:TmOk t)(hp:∀l∈plan,l.length=n)(h1:1<=n)(hn:n<=65)(a6:tick<max 1 (n-1))(b2:plan.length<=4):gu 47 (kA t) (.sl (plan.map zs)) (Z tick) (B ((List.range plan.length).all (ig t plan tick))):=by
 refine Dp func47 λC hP hN=>?_;refine ki [7] trivial ?_;refine WP.loopN [10,12] plan.length (λk st=>st.t 3=.ptr 3 0/\st.h 3=some (.box [.pv (.sl (t.maps.map bf)),.pv (.sl (t.conf.map bR))] true false)/\st.t 2=.pv (Z tick)/\st.t 13=.pv (.sl (plan.map zs))/\st.t 14=.pv (Z plan.length)/\st.t 15=.pv (Z k)/\st.t 7=.arr 7 k/\st.h 7=some (.row 87 3 (wk plan tick k) 0)/\st.h 10=none/\st.h 12=none/\tA (ig t plan tick) k) (by simp[ny,wk]) ?_;rintro k st hk ⟨g3,q,g2,d,e,f,u,s,b,c,hq⟩;by_cases g:k<plan.length
 .have hw:=ab g (by omega)
  have H:plan[k]?=some plan[k]:=an g;have a8:=hp _ (Zs g)
  have M:tx plan tick k=vM plan[k] k tick:=by rw[tx,H];rfl
  generalize hx:plan[k]=l at *;have R:i64.wrap ((tick:Int)+1)=(tick:Int)+1:=aa;have S:i64.wrap ((l.length:Int)-1)=(l.length:Int)-1:=aa
  have X:tick<l.length:=by omega
  have Y:min (tick+1) (l.length-1)<l.length:=by omega
  have m2:(if(l.length:Int)-1<(tick:Int)+1 then(l.length:Int)-1 else(tick:Int)+1)=((min (tick+1) (l.length-1):Nat):Int):=by split<;>omega
  have m4:min ((tick:Int)+1) ((l.length:Int)-1)=((min (tick+1) (l.length-1):Nat):Int):=by omega
  have m6:min ((l.length:Int)-1) ((tick:Int)+1)=((min (tick+1) (l.length-1):Nat):Int):=by omega
  have hm:vM l k tick=⟨k,l[tick],l[min (tick+1) (l.length-1)]⟩:=by
   simp only[vM,show min tick (l.length-1)=tick by omega,an X,an Y,Zn]
  rw[hm]at M;generalize min (tick+1) (l.length-1)=i2 at *;have a1:=l6 X;have a2:=l6 Y;generalize U:l[tick]=y at *;generalize V:l[i2]=z at *;have o:=Pj t plan tick k;have Q:=MB plan tick k;have a:=Pi plan tick k;have ah:∀j,j<k->(wk plan tick k)[j]?=some (bQ (tx plan tick j)):=λj hj=>RL plan tick hj;have ak:=nA hq;have N:=nB (p:=ig t plan tick) g;have cl:=Ye t ⟨k,y,z⟩ ht;have ad:=λj=>Yh t (tx plan tick j) ⟨k,y,z⟩ ht.cl;rw[M]at o Q;generalize wk plan tick (k+1)=ys at *;generalize wk plan tick k=xs at *;generalize(List.range plan.length).all (ig t plan tick)=r at *
  cases x:jr t ⟨k,y,z⟩with
  |false=>
   rw[x]at cl
   have G:ig t plan tick k=false:=by rw[o,x];rfl
   rw[N G];exact GS (zAe g3 q g2 d e f u s b c g hw hx H (zAd R S X Y m2 m4 m6 a1 a2 U V a))
  |true=>
   rw[x]at cl;rw[x,Zu]at o;refine GT (zAe g3 q g2 d e f u s b c g hw hx H (zAd R S X Y m2 m4 m6 a1 a2 U V a)) ?_;refine WP.loopN [12] k (λj st=>st.t 3=.ptr 3 0/\st.h 3=some (.box [.pv (.sl (t.maps.map bf)),.pv (.sl (t.conf.map bR))] true false)/\st.t 2=.pv (Z tick)/\st.t 13=.pv (.sl (plan.map zs))/\st.t 14=.pv (Z plan.length)/\st.t 15=.pv (Z k)/\st.t 7=.arr 7 k/\st.h 7=some (.row 87 3 xs 0)/\st.t 10=.ptr 10 0/\st.h 10=some (.box [.pv (Z k),.pv (Z y),.pv (Z z)] true false)/\st.h 12=none/\st.t 39=.arr 7 k/\st.t 40=.pv (Z k)/\st.t 41=.pv (Z j)/\tA (λi=>!Bz t ⟨k,y,z⟩ (tx plan tick i)) j) (by simp[ny,g3,q,g2,d,e,f,u,s,b,c,a]) ?_;clear g3 q g2 d e f u s b c;rintro j st hj ⟨g3,q,g2,d,e,f,u,s,A,b,c,D,E,F,P⟩;by_cases m:j<k
   .have T:=ab m (by omega)
    have I:=ah j m;have W:xs[j]'(by omega)=bQ (tx plan tick j):=(th.1 I).2;have O:=nA P;have L:=nB (p:=λi=>!Bz t ⟨k,y,z⟩ (tx plan tick i)) m;have cc:=ad j;rw[ME]at cc
    have K:j<xs.length:=by omega
    try simp only at O L
    generalize bq:tx plan tick j=mj at *;obtain⟨c1,c2,c3⟩:=mj
    cases v:Bz t ⟨k,y,z⟩ ⟨c1,c2,c3⟩with
    |true=>
     rw[v]at cc
     have G:ig t plan tick k=false:=by rw[o];exact L (by rw[v];rfl)
     rw[N G];exact GS (zAe g3 q g2 d e f u s A b c D E F (so m T I W K a))
    |false=>
     rw[v]at cc;refine GT (zAe g3 q g2 d e f u s A b c D E F (so m T I W K a)) ?_
     all_goals exact O (by rw[v];rfl)
   .have J:j=k:=by omega
    subst J
    have ar:ig t plan tick j=true:=by rw[o];exact qn P (by omega)
    have aj:=ak ar;have a7:ys=xs++[bQ ⟨j,y,z⟩]:=Q;refine GT (zAe g3 q g2 d e f u s A b c D E F (it hw a (show(j+1)*24<=140737488355328 by omega) (show j<=9223372036854775806 by omega) (show j+1<=9223372036854775807 by omega))) ?_
    all_goals exact⟨a7.symm,aj⟩
 .rw[qn hq g]
  exact GS (zAc g3 q g2 d e f u s b (gA c g))
structure PLk(plan:List (List Int)):Prop where
 nl:plan.length<=9223372036854775807
 el:∀l∈plan,l.length<=9223372036854775807
theorem Pk(t:fQ)(a goals:List Int)(plan:List (List Int)):MF t a goals plan=(fv t&&(decide (a.length=t.maps.length)&&(decide (goals.length=t.maps.length)&&(decide (plan.length=t.maps.length) &&
 (decide (1<=((plan[0]?).getD []).length)&&(decide (((plan[0]?).getD []).length<=65)&&((List.range plan.length).all (ji plan a goals ((plan[0]?).getD []).length) &&
   (List.range (max 1 (((plan[0]?).getD []).length-1))).all λtick=>(List.range plan.length).all (ig t plan tick)))))))):=rfl
theorem Pl{l:List Int}{b c:Int}(i:plan[k]?=some l)(g:l.length=n)(e:l[0]?=some a)(h1:l[n-1]?=some b)(hs:starts[k]?=some c)(f:goals[k]?=some d):ji plan starts goals n k=(a==c&&b==d):=by
 unfold ji;rw[i,Zn,g,e,h1,hs,f];simp
theorem MC{l:List Int}(b:plan[k]?=some l)(a:l.length≠n):ji plan starts goals n k=false:=by
 unfold ji;rw[b,Zn,Z9 a];rfl
theorem KD(h:(List.range plan.length).all (ji plan starts goals n)=true):∀l∈plan,l.length=n:=by
 intro l c;obtain⟨k,b⟩:=yAl.1 c;have a:=(th.1 b).1;have:=L4.1 h k (ZL.2 a);simp only[ji,b,Zn,up,Is]at this;exact this.1
theorem Pm{t:fQ}(h:fv t=true):1<=t.maps.length/\t.maps.length<=4:=by
 simp only[fv,up,Is]at h;exact⟨h.1,h.2.1⟩
theorem Yl(t:fQ)(a goals:List Int)(plan:List (List Int))(ht:TmOk t)(hp:PLk plan)(a7:a.length<=9223372036854775807)(ar:goals.length<=9223372036854775807):lR 20 (kA t) (zs a) (zs goals) (.sl (plan.map zs)) (B (MF t a goals plan)):=by
 have cc:=RK t ht;rw[Pk]
 cases W:fv t with
 |false=>
  rw[W]at cc;rw[ZI];refine Dp func20 λC hP hN=>?_;exact Gy
 |true=>
  rw[W]at cc;rw[Zu];obtain⟨k1,k2⟩:=Pm W;by_cases b:a.length=t.maps.length/\goals.length=t.maps.length/\plan.length=t.maps.length
  .obtain⟨l1,l2,S⟩:=b
   rw[ZH l1,ZH l2,ZH S,Zu,Zu,Zu]
   have g:0<plan.length:=by omega
   have N:plan[0]?=some plan[0]:=an g;have ak:=hp.el _ (Zs g);rw[N,Zn];obtain⟨n,hn⟩:∃n,plan[0].length=n:=⟨_,rfl⟩;rw[hn];generalize P:plan[0]=p0 at *;by_cases F:1<=n/\n<=65
   .obtain⟨n1,n2⟩:=F
    rw[ZH n1,ZH n2,Zu,Zu]
    have w1:¬(n:Int)<1:=by omega
    have w2:¬65<(n:Int):=by omega
    have w3:i64.wrap ((n:Int)-1)=((n-1:Nat):Int):=by rw[IntKind.wrap_i64];omega
    have w4:max ((n-1:Nat):Int) 1=((max 1 (n-1):Nat):Int):=by omega
    have w5:¬n=0:=by omega
    have w6:(if((1:Int))>((n-1:Nat):Int)then(1:Int)else((n-1:Nat):Int))=((max 1 (n-1):Nat):Int):=by split<;>omega
    have w7:max 1 ((n-1:Nat):Int)=((max 1 (n-1):Nat):Int):=by omega
    have w8:n-1<n:=by omega
    have w9:¬((n-1:Nat):Int)<0:=by omega
    have Y:max 1 (n-1)<=64:=by omega
    have a8:∀q,q<max 1 (n-1)->q<max 1 (n-1):=λ_ h=>h;obtain⟨Q,D⟩:∃Q,n-1=Q:=⟨_,rfl⟩;obtain⟨M,V⟩:∃M,max 1 (n-1)=M:=⟨_,rfl⟩;rw[V]at w4 w6 w7 Y;rw[D]at w3 w4 w6 w7 w8 w9;rw[V];obtain⟨EA,e⟩:∃x,x=(List.range plan.length).all (ji plan a goals n):=⟨_,rfl⟩;obtain⟨SA,s⟩:∃x,x=(List.range M).all λtick=>(List.range plan.length).all (ig t plan tick):=⟨_,rfl⟩;rw[<-e,<-s];refine Dp func20 λC hP hN=>?_;refine GT (zAc l1 l2 S N P hn g w1 w2 w5) ?_;refine WP.loopN [] plan.length (λk st=>st.t 4=.ptr 4 0/\st.h 4=some (.box [.pv (.sl (t.maps.map bf)),.pv (.sl (t.conf.map bR))] true false)/\st.t 1=.pv (zs a)/\st.t 2=.pv (zs goals)/\st.t 3=.pv (.sl (plan.map zs))/\st.t 10=.pv (Z n)/\st.t 48=.pv (.sl (plan.map zs))/\st.t 49=.pv (Z plan.length)/\st.t 50=.pv (Z k)/\tA (ji plan a goals n) k) (by simp[ny,S]) ?_;rintro k st hk ⟨g4,z,g1,g2,g3,j,m,o,r,hq⟩;by_cases c:k<plan.length
    .have R:=ab c hp.nl
     have y:plan[k]?=some plan[k]:=an c;have A:=nA hq;have d:=nB (p:=ji plan a goals n) c;generalize hx:plan[k]=l at *;by_cases u:l.length=n
     .have J:0<l.length:=by omega
      have K:Q<l.length:=by omega
      have a0:=l6 J;have a1:=l6 K
      have I:k<a.length:=by omega
      have H:k<goals.length:=by omega
      have a2:=l6 I;have a3:=l6 H
      have X:k<t.maps.length:=by omega
      have G:=Pl y u a0 (by rw[D];exact a1) a2 a3;generalize O:l[0]=x0 at *;generalize ad:l[Q]=x1 at *;generalize ah:a[k]=x2 at *;generalize aj:goals[k]=x3 at *;generalize ji plan a goals n k=ee at *;rw[<-e]at d;clear e s
      with_reducible repeat' (first|refine Sp.h ?_|((first|refine Wd ?_|refine Ss.h ?_|(refine Sb.h ?_ ?_ ?_<;>(try intro hgd)<;>try exact Xy))<;>simp -implicitDefEqProofs [hP,hN,g4,z,g1,g2,g3,j,m,o,r,c,R,hx,y,u,J,K,a0,a1,a2,a3,I,H,O,ad,ah,aj,w3,w8,w9,l1,l2,S,X]<;>try refine Ya ?_)|refine X2 ?_ ?_|(refine Xd ?_ ?_<;>intro hcd<;>try exact Xx))
      all_goals first|exact A (by rw[G];simp_all)|(rw[d (by rw[G];simp_all)];simp;done)|trace_state
     .rw[<-e]at d
      rw[d (MC y u)]
      with_reducible repeat' (first|refine Sp.h ?_|((first|refine Wd ?_|refine Ss.h ?_|(refine Sb.h ?_ ?_ ?_<;>(try intro hgd)<;>try exact Xy))<;>simp -implicitDefEqProofs [hP,hN,g4,z,g1,g2,g3,j,m,o,r,c,R,hx,y,u]<;>try refine Ya ?_)|refine X2 ?_ ?_|(refine Xd ?_ ?_<;>intro hcd<;>try exact Xx))
    .have f:=qn hq c
     have b:=KD f;rw[<-e]at f;rw[f,Zu];refine GT (zAd g4 z g1 g2 g3 j m o r c w3 (be w4 w6 w7)) ?_;refine WP.loopN [] M (λq st=>st.t 4=.ptr 4 0/\st.h 4=some (.box [.pv (.sl (t.maps.map bf)),.pv (.sl (t.conf.map bR))] true false)/\st.t 3=.pv (.sl (plan.map zs))/\st.t 84=.pv (Z M)/\st.t 85=.pv (Z q)/\tA (λtick=>(List.range plan.length).all (ig t plan tick)) q) (by simp[ny,g4,z,g3]) ?_;clear g4 z g1 g2 g3 j m o r;rintro q st a6 ⟨g4,z,g3,T,U,L⟩;by_cases i:q<M
     .have R:=ab i (by omega)
      have ct:=Yk t plan q n ht b n1 n2 (by rw[V];exact i) (by omega);have A:=nA L;have d:=nB (p:=λtick=>(List.range plan.length).all (ig t plan tick)) i;rw[<-s]at d
      cases v:(List.range plan.length).all (ig t plan q)with
      |true=>
       rw[v]at ct;refine GT (zAa g4 z g3 T U i R) ?_
       all_goals exact A v
      |false=>
       rw[v]at ct;rw[d v];exact Gy
     .have E:=qn L i
      rw[<-s]at E;rw[E];exact Gy
   .have hf:(decide (1<=n)&&(decide (n<=65)&&((List.range plan.length).all (ji plan a goals n)&&(List.range (max 1 (n-1))).all λtick=>(List.range plan.length).all (ig t plan tick))))=false:=by
     by_cases n1:1<=n
     .rw[ZH n1,Z9 (show¬n<=65 by omega)];rfl
     .rw[Z9 n1];rfl
    rw[hf];refine Dp func20 λC hP hN=>?_;exact Gy
    all_goals (exfalso;simp at *;omega)
  .have hf:(decide (a.length=t.maps.length)&&(decide (goals.length=t.maps.length)&&(decide (plan.length=t.maps.length)&&(decide (1<=((plan[0]?).getD []).length)&&(decide (((plan[0]?).getD []).length<=65)&&((List.range plan.length).all (ji plan a goals ((plan[0]?).getD []).length)&&(List.range (max 1 (((plan[0]?).getD []).length-1))).all λtick=>(List.range plan.length).all (ig t plan tick)))))))=false:=by
    rw[<-Bool.not_eq_true];intro h;simp only[up,Is]at h;exact b ⟨h.1,h.2.1,h.2.2.1⟩
   rw[hf];refine Dp func20 λC hP hN=>?_;exact Gy
   all_goals (exfalso;simp at *;omega)
theorem d7(m:eR):aR 7 (bf m) (B (decide ((m.np.length:Int)<=30)&&decide ((m.es.length:Int)<=60))):=by
 refine Dp func7 λC hP hN=>?_
 with_reducible repeat' (first|refine Sp.h ?_|((first|refine Ss.h ?_|(refine Sb.h ?_ ?_ ?_<;>(try intro hgd)<;>try exact Xy))<;>simp -implicitDefEqProofs (maxSteps:=2000000) [hP,hN])|refine X2 ?_ ?_|(refine Xd ?_ ?_<;>intro hcd<;>try exact Xx))
 all_goals (simp at hgd;try omega)
def xE(m:eR):Bool:=decide ((m.np.length:Int)<=30)&&decide ((m.es.length:Int)<=60)
abbrev Rw(r:R8):PV:=.agg [Z r.k1,.sl r.k2,Z r.k3,Z r.k4,.sl r.k5,Z r.k6,.sl r.k7,.sl r.k8]
theorem XT:aR 45 (Z 1) (Rw F6):=by
 refine Dp func45 λC hP hN=>?_;refine Gz ?_
 all_goals simp[F6]
def sF(o:Option aB)(v:Nat):List Int:=match o with
 |some e=>if e.s=1 then(if e.u=v then[e.v]else if e.v=v then[e.u]else[])else[]
 |none=>[]
def dP(es:List aB)(v:Nat):Nat->List Int
 |0=>[(v:Int)]
 |i+1=>dP es v i++sF es[i]? v
def jh(m:eR)(v:Nat):List Int:=(dP m.es v m.es.length).mergeSort λx y=>decide (x<=y)
def gi(lg:Nat->Nat->Bool)(n v:Nat):List Nat:=(List.range n).filter (lg v)
def FT(m:eR)(v u:Nat):Bool:=decide (v=u)||jP m.es (min (v:Int) u) (max (v:Int) u)
theorem HF{o:Option aB}{x:Int}:x∈sF o v↔∃e,o=some e/\e.s=1/\((e.u=v/\x=e.v)\/(e.u≠v/\e.v=v/\x=e.u)):=by
 cases o with
 |none=>simp[sF]
 |some e=>
  unfold sF;by_cases h1:e.s=1
  .by_cases a:e.u=v
   .simp[h1,a]
   .by_cases b:e.v=v
    all_goals simp[h1,a,b]
  .simp[h1]
theorem yN{es:List aB}{v:Nat}{x:Int}:∀{i:Nat},x∈dP es v i↔x=v\/∃j e,j<i/\es[j]?=some e/\e.s=1/\((e.u=v/\x=e.v)\/(e.u≠v/\e.v=v/\x=e.u))
 |0=>by simp[dP]
 |i+1=>by
  rw[dP,Zm,yN,HF];constructor
  .rintro((h|⟨j,e,b,h⟩)|⟨e,h⟩)
   .exact .inl h
   .exact .inr ⟨j,e,by omega,h⟩
   .exact .inr ⟨i,e,by omega,h⟩
  .rintro(h|⟨j,e,b,h⟩)
   .exact .inl (.inl h)
   .by_cases a:j=i
    .subst a;exact .inr ⟨e,h⟩
    .exact .inl (.inr ⟨j,e,by omega,h⟩)
theorem HG(o:Option aB)(v:Nat):(sF o v).length<=1:=by
 unfold sF;split
 .split
  .split
   .simp
   .split<;>simp
  .simp
 .simp
theorem yP(es:List aB)(v:Nat):∀i,1<=(dP es v i).length/\(dP es v i).length<=i+1
 |0=>by simp[dP]
 |i+1=>by
  have h:=yP es v i;have h1:=HG es[i]? v;rw[dP,Zq];omega
theorem Ko{es:List aB}{n:Nat}(o:eH n (-1) (-1) es=true){v:Nat}:∀{i:Nat},(dP es v i).Nodup
 |0=>by simp[dP]
 |i+1=>by
  have c:=ju o;rw[dP,List.nodup_append];refine⟨Ko o,?_,?_⟩
  .have:=HG es[i]? v
   match h:sF es[i]? v,this with
   |[],_=>simp
   |[_],_=>simp
  .intro a p b l d
   subst d;obtain⟨e,m,_,l⟩:=HF.1 l;have g:=(c.1 e (An m)).1;simp only[tS,up,Is]at g;rcases yN.1 p with h|⟨j,f,r,hf,_,q⟩
   .omega
   .have:=c.2 j i f e hf m r
    have k:=(c.1 f (An hf)).1;simp only[tS,up,Is]at k;omega
theorem Bl(f:dc m=true){u:Nat}(k:v<m.np.length):(u:Int)∈dP m.es v m.es.length↔u<m.np.length/\FT m v u=true:=by
 simp only[dc,up,Is]at f;have c:=ju f.2.2;rw[yN];simp only[FT,ZX,Is,jP,yAT,up,ZW];constructor
 .rintro(h|⟨j,e,d,i,n,h⟩)
  .have:u=v:=by omega
   subst this;exact⟨k,.inl rfl⟩
  .have b:=An i
   have a:=(c.1 e b).1;simp only[tS,up,Is]at a;refine⟨by omega,.inr ⟨e,b,?_⟩⟩;omega
 .rintro⟨o,h|⟨e,b,h1,l,g⟩⟩
  .subst h;exact .inl rfl
  .have a:=(c.1 e b).1
   simp only[tS,up,Is]at a;obtain⟨j,d⟩:=yAl.1 b;exact .inr ⟨j,e,(th.1 d).1,d,g,by omega⟩
theorem Bm(g:dc m=true)(n:v<m.np.length):jh m v=(gi (FT m) m.np.length v).map λu=>((u:Nat):Int):=by
 have d:=g;simp only[dc,up,Is]at d;have hp:(jh m v).Perm (dP m.es v m.es.length):=List.mergeSort_perm _ _
 have i:((gi (FT m) m.np.length v).map λu=>((u:Nat):Int)).Nodup:=by
  show List.Pairwise _ _;rw[List.pairwise_map]
  exact(List.pairwise_lt_range.filter _).imp λh e=>by omega
 refine List.Perm.eq_of_pairwise (le:=λa b=>decide (a<=b)=true) (λa b _ _ h1 k=>by simp only[Is]at h1 k;omega) ?_ ?_ ?_
 .exact List.pairwise_mergeSort (λa b c h1 k=>by simp only[Is]at *;omega) (λa b=>by simp only[ZX,Is];omega) _
 .rw[List.pairwise_map]
  refine(List.pairwise_lt_range.filter _).imp λh=>by simp only[Is];omega
 .refine hp.trans ((List.perm_ext_iff_of_nodup (Ko d.2.2) i).2 λa=>?_)
  simp only[Zv,gi,yAa,ZL];constructor
  .intro l
   have h0:0<=a:=by
    rcases yN.1 l with h|⟨j,e,_,o,_,h⟩
    .omega
    .have f:=((ju d.2.2).1 e (An o)).1
     simp only[tS,up,Is]at f;omega
   obtain⟨u,rfl⟩:∃u:Nat,a=u:=⟨a.toNat,by omega⟩;exact⟨u,(Bl g n).1 l,rfl⟩
  .rintro⟨u,h,rfl⟩
   exact(Bl g n).2 h
theorem OU{t:fQ}(a:t.maps[k]?=some m){u:Nat}(i:v<m.np.length)(g:u<m.np.length):qK t k v u=FT m v u:=by
 have f:=(th.1 a).1;obtain⟨b,c⟩:=xF a;have h1:eY t.maps.length (k:Int)=true:=dT.2 (by omega);have d:eY m.np.length (v:Int)=true:=dT.2 (by omega);have e:eY m.np.length (u:Int)=true:=dT.2 (by omega);simp only[qK,jr,Zo,b,c,h1,d,e,Zu,FT]
 congr 1
 rw[Bool.eq_iff_iff,ZW,Is];omega
theorem Kp{t:fQ}(a:t.maps[k]?=some m)(d:v<m.np.length):gi (FT m) m.np.length v=gi (qK t k) (l7 t k) v:=by
 obtain⟨b,_⟩:=xF a;rw[gi,gi,b];refine List.filter_congr λu c=>?_;rw[OU a d (ZL.1 c)]
end Go.Ab
