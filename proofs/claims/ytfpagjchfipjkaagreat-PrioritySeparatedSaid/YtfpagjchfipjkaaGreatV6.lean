/- The contracts and facts that the laws of this seat need, in one text (CfB, Cf16w, Vm1, AbR, Ab29, Ab35, Ab36, Mk1, M8, M9, M10, M11, M12, M13, M14). -/
import Derived.Test.YtfpagjchfipjkaaGreatV5
import Derived.Laws.RangeString
import Derived.Laws.RangeAny
import Derived.LoopTactic
set_option linter.all false
set_option maxRecDepth 10000
set_option maxHeartbeats 16000000
namespace Go.Ab
open IntKind (i64)
open Go.Proofs.Tryz
open Go.Proofs
variable {C:Cx}{G G':List (Nat×Blk)}{P:Program}{Post:AV->Hp->Prop}{Q:Exit->St->Prop}{a d:Int}{aft:Array Edge}{args:List AV}{ats:Array TypeId}{b b' blk:Blk}{c:Code}{dst:Option Nat}{f:Operand}{g:Option (Nat×Bool)}{goals starts:List Int}{h h0:Hp}{hn:List Nat}{i id k k' n q v:Nat}{js:List J}{l:Loc}{m:eU}{o:Oper}{ops:Array Oper}{plan:List (List Int)}{post pre:List Oper}{res:PV}{rs:List ResultVar}{s:ByteArray}{st:St}{u:Value}{x:AV}{α:Type}{p:α->Bool}{xs:List α}
def od(b:Nat):Bool:=decide (97<=b)&&decide (b<=122)
def oe(b:Nat):Bool:=decide (48<=b)&&decide (b<=57)
def gi(k b:Nat):Bool:=od b||(decide (k≠0)&&(oe b||decide (b=95)))
def eD(s:ByteArray):Bool:=(List.range s.size).all λi=>gi i (s[i]!).toNat
def fk(s:ByteArray):Bool:=decide (1<=s.size)&&decide (s.size<=16)&& !(s.toList==[119,111,114,108,100])&&eD s
theorem kc(h:i<s.size)(hb:gi i (s[i]'h).toNat=false):eD s=false:=by
 rw[eD,yAm];exact⟨i,by simpa using h,by rw[getElem!_pos s i h,hb];simp⟩
theorem tQ(h:∀i(hi:i<s.size),gi i (s[i]'hi).toNat=true):eD s=true:=by
 rw[eD,L4];intro i hi
 have a:i<s.size:=by simpa using hi
 rw[getElem!_pos s i a];exact h i a
theorem yv{pos c:Nat}{hp:pos<s.size}(hc:(s[pos]'hp).toNat=c)(a:gi pos c=true)(b:∀i(hi:i<s.size),i<pos->gi i (s[i]'hi).toNat=true):∀i(hi:i<s.size),i<pos+1->gi i (s[i]'hi).toNat=true:=by
 intro i hi h;by_cases e:i=pos
 .subst e;rw[hc];exact a
 .exact b i hi (by omega)
set_option maxRecDepth 1000000 in
theorem Ln(s:ByteArray)(w:World)(h1:¬s.size=0)(h2:¬s.size>16)(h3:(s.toList==[119,111,114,108,100])=false):
 Calls prog 151 #[.string s] w λe w'=>e=.returned (.bool (eD s))/\(w'=w\/∃pos,w'=w.iter s pos):=by
 have n:((s.size:Int)==0)=false:=by simp;intro h;exact h1 (by simp[h])
 have o:¬((16:Int)<(s.size:Int)):=by omega
 go_enter func151,ntmps151
 go_wp2
 go_loopw [19] (λ_ w'=>∃pos,w'=w.iter s pos/\∀i(hi:i<s.size),i<pos->gi i (s[i]'hi).toNat=true) (λ_ w'=>s.size-w'.iterPos w.heap.size)
 case atStart=>exact⟨0,rfl,λi hi h=>by omega⟩
 case round=>
  obtain⟨pos,rfl,d⟩:=hrel;by_cases hp:pos<s.size
  .by_cases ha:(s[pos]'hp).toNat<128
   .have a:∀b,(Instr.next (.pointer (some ⟨w.heap.size,0,none⟩)) true b).run prog (w.iter s pos)=_:=λb=>run_next_ascii w s pos b hp ha
    generalize hc:(s[pos]'hp).toNat=c at a ha
    have key:(97<=c/\c<=122)\/(¬97<=c/\pos=0)\/(97<=c/\¬c<=122/\pos=0)\/(¬97<=c/\¬pos=0/\48<=c/\c<=57)\/(¬97<=c/\¬pos=0/\¬48<=c)\/(¬97<=c/\¬pos=0/\¬c<=57/\c=95)\/(¬97<=c/\¬pos=0/\¬c<=57/\¬c=95)\/(97<=c/\¬c<=122/\¬pos=0):=by omega
    rcases key with⟨k1,k2⟩|⟨k1,k2⟩|⟨k1,k2,k3⟩|⟨k1,k2,k3,k4⟩|⟨k1,k2,k3⟩|⟨k1,k2,k3,k4⟩|⟨k1,k2,k3,k4⟩|⟨k1,k2,k3⟩
    .have m1:(97:Int)<=(c:Int):=by omega
     have m2:(c:Int)<=122:=by omega
     go_wp2
     go_roundw
     case rel=>exact⟨pos+1,rfl,yv hc (by simp[gi,od,oe];omega) d⟩
     case measure=>simp;omega
    .have m1:¬(97:Int)<=(c:Int):=by omega
     subst k2;have hb:eD s=false:=kc hp (by rw[hc];simp[gi,od,oe];omega)
     go_wp2
     go_ret
     exact⟨by first|rfl|(rw[hb];rfl),.inr ⟨_,rfl⟩⟩
    .have m1:(97:Int)<=(c:Int):=by omega
     have m2:¬(c:Int)<=122:=by omega
     subst k3;have hb:eD s=false:=kc hp (by rw[hc];simp[gi,od,oe];omega)
     go_wp2
     go_ret
     exact⟨by first|rfl|(rw[hb];rfl),.inr ⟨_,rfl⟩⟩
    .have m1:¬(97:Int)<=(c:Int):=by omega
     have m2:((pos:Int)==0)=false:=by simp;omega
     have f:(48:Int)<=(c:Int):=by omega
     have g:(c:Int)<=57:=by omega
     go_wp2
     go_roundw
     case rel=>exact⟨pos+1,rfl,yv hc (by simp[gi,od,oe];omega) d⟩
     case measure=>simp;omega
    .have m1:¬(97:Int)<=(c:Int):=by omega
     have m2:((pos:Int)==0)=false:=by simp;omega
     have f:¬(48:Int)<=(c:Int):=by omega
     have g:((c:Int)!=95)=true:=by simp;omega
     have hb:eD s=false:=kc hp (by rw[hc];simp[gi,od,oe];omega)
     go_wp2
     go_ret
     exact⟨by first|rfl|(rw[hb];rfl),.inr ⟨_,rfl⟩⟩
    .have m1:¬(97:Int)<=(c:Int):=by omega
     have m2:((pos:Int)==0)=false:=by simp;omega
     have f:(48:Int)<=(c:Int):=by omega
     have j:¬(c:Int)<=57:=by omega
     have g:((c:Int)!=95)=false:=by simp;omega
     go_wp2
     go_roundw
     case rel=>exact⟨pos+1,rfl,yv hc (by simp[gi,od,oe];omega) d⟩
     case measure=>simp;omega
    .have m1:¬(97:Int)<=(c:Int):=by omega
     have m2:((pos:Int)==0)=false:=by simp;omega
     have f:(48:Int)<=(c:Int):=by omega
     have j:¬(c:Int)<=57:=by omega
     have g:((c:Int)!=95)=true:=by simp;omega
     have hb:eD s=false:=kc hp (by rw[hc];simp[gi,od,oe];omega)
     go_wp2
     go_ret
     exact⟨by first|rfl|(rw[hb];rfl),.inr ⟨_,rfl⟩⟩
    .have m1:(97:Int)<=(c:Int):=by omega
     have m:¬(c:Int)<=122:=by omega
     have m2:((pos:Int)==0)=false:=by simp;omega
     have f:(48:Int)<=(c:Int):=by omega
     have j:¬(c:Int)<=57:=by omega
     have g:((c:Int)!=95)=true:=by simp;omega
     have hb:eD s=false:=kc hp (by rw[hc];simp[gi,od,oe];omega)
     go_wp2
     go_ret
     exact⟨by first|rfl|(rw[hb];rfl),.inr ⟨_,rfl⟩⟩
   .have a:∀b,(Instr.next (.pointer (some ⟨w.heap.size,0,none⟩)) true b).run prog (w.iter s pos)=_:=λb=>run_next_any w s pos b hp
    have k:=(decode_high s pos hp (by omega)).1;generalize(Utf8.decode s pos).1=c at a k;generalize(Utf8.decode s pos).2=p at a;have hb:eD s=false:=kc hp (by simp[gi,od,oe];omega)
    have m1:(97:Int)<=(c:Int):=by omega
    have m:¬(c:Int)<=122:=by omega
    have f:(48:Int)<=(c:Int):=by omega
    have j:¬(c:Int)<=57:=by omega
    have g:((c:Int)!=95)=true:=by simp;omega
    by_cases l:pos=0
    .subst l
     go_wp2
     go_ret
     exact⟨by first|rfl|(rw[hb];rfl),.inr ⟨_,rfl⟩⟩
    .have m2:((pos:Int)==0)=false:=by simp;omega
     go_wp2
     go_ret
     exact⟨by first|rfl|(rw[hb];rfl),.inr ⟨_,rfl⟩⟩
  .have a:∀b,(Instr.next (.pointer (some ⟨w.heap.size,0,none⟩)) true b).run prog (w.iter s pos)=_:=λb=>run_next_end w s pos b hp
   go_wp2
   go_ret
   exact⟨by rw[tQ (λi hi=>d i hi (by omega))];rfl,.inr ⟨_,rfl⟩⟩
set_option maxRecDepth 1000000 in
theorem J1(s:ByteArray)(w:World)(h:s.size=0\/s.size>16\/(s.toList==[119,111,114,108,100])=true):
 Calls prog 151 #[.string s] w λe w'=>e=.returned (.bool false)/\w'=w:=by
 by_cases h1:s.size=0
 .have a:((s.size:Int)==0)=true:=by simp[h1]
  go_enter func151,ntmps151
  go_wp2
  go_ret
  exact⟨rfl,rfl⟩
 .have a:((s.size:Int)==0)=false:=by simp;intro h;exact h1 (by simp[h])
  by_cases h2:s.size>16
  .have b:((16:Int)<(s.size:Int)):=by omega
   go_enter func151,ntmps151
   go_wp2
   go_ret
   exact⟨rfl,rfl⟩
  .have b:¬((16:Int)<(s.size:Int)):=by omega
   have h3:(s.toList==[119,111,114,108,100])=true:=by rcases h with h|h|h<;>first|exact absurd h h1|exact absurd h h2|exact h
   go_enter func151,ntmps151
   go_wp2
   go_ret
   exact⟨rfl,rfl⟩
theorem zV(s:ByteArray):aS prog 151 [.pv (.val (.string s))] [] [] (.pv (B (fk s))):=by
 refine⟨by kernel_rfl,rfl,λw M g u x k o l f d=>?_⟩
 match u,f with
 |[v],_=>
  have p:Rep w M (.val (.string s)) v:=d 0 _ _ rfl rfl;cases p;have a:Ext (·∈g) w w:=Ext.refl _ _;have c:∀pos,Ext (·∈g) w (w.iter s pos):=λpos=>Ext.alloc _ _ _
  have j:g=[]:=by cases g with
   |nil=>rfl
   |cons b r=>simp at k
  subst j;by_cases h:s.size=0\/s.size>16\/(s.toList==[119,111,114,108,100])=true
  .have hf:fk s=false:=by
    unfold fk;rcases h with h|h|h
    .simp[h]
    .simp;omega
    .simp[h]
   refine(J1 s w h).mono ?_;rintro e w' ⟨rfl,rfl⟩;exact⟨_,rfl,a,λi b m h=>by simp at h,by rw[hf];exact .val _⟩
  .have h1:¬s.size=0:=λe=>h (.inl e)
   have h2:¬s.size>16:=λe=>h (.inr (.inl e))
   have h3:(s.toList==[119,111,114,108,100])=false:=by
    cases hq:s.toList==[119,111,114,108,100]with
    |false=>rfl
    |true=>exact absurd (.inr (.inr hq)) h
   have hf:fk s=eD s:=by
    unfold fk;rw[h3]
    have a1:decide (1<=s.size)=true:=by simp;omega
    have n:decide (s.size<=16)=true:=by simp;omega
    rw[a1,n];simp
   refine(Ln s w h1 h2 h3).mono ?_;rintro e w' ⟨rfl,q⟩;rcases q with rfl|⟨pos,rfl⟩
   .exact⟨_,rfl,a,λi b m h=>by simp at h,by rw[hf];exact .val _⟩
   .exact⟨_,rfl,c pos,λi b m h=>by simp at h,by rw[hf];exact .val _⟩
theorem s9{i D A B:Int}(a:0<=i)(c:i<=A)(h1:-B<=D)(h2:D<=B):-(A*B)<=i*D/\i*D<=A*B:=by
 have e:0<=B:=by omega
 have d:i*B<=A*B:=Int.mul_le_mul_of_nonneg_right c e;have f:i*D<=i*B:=ZZ h2 a;have b:i*(-B)<=i*D:=ZZ h1 a;rw[Int.mul_neg]at b;omega
theorem vi(n:Nat):(0:Int)<2^n:=Int.pow_pos (by decide)
theorem J2(a:Int)(n:Nat):a.fdiv (2^n)=a/2^n:=Int.fdiv_eq_ediv_of_nonneg a (Int.le_of_lt (vi n))
theorem lF{N B:Int}(hN:0<N)(h1:-B<=a)(h2:a<=B):-B<=a/N/\a/N<=B:=by
 have b:0<=B:=by omega
 constructor
 .have:(-B)*N<=a:=by
   have:(-B)*N<=(-B)*1:=Int.mul_le_mul_of_nonpos_left (by omega) (by omega);omega
  exact(yAU hN).2 this
 .have:a/N<B+1:=(yAV hN).2 (by
   have:(B+1)*1<=(B+1)*N:=ZZ (by omega) (by omega)
   omega)
  omega
def og(x:Int):Prop:=-2147483648<=x/\x<=2147483648
def EX(N i f t:Int):Int×Int:=(f+min (i*(t-f)) ((i+1)*(t-f))/N,f-(-max (i*(t-f)) ((i+1)*(t-f)))/N)
theorem J3{i f t:Int}(hi:0<=i)(l:i<=1048576)(hf:og f)(m:og t):rV i d f t=EX (2^d.toNat) i f t:=by
 unfold og at hf m;have e:wr (t-f)=t-f:=aa;have c:wr (i+1)=i+1:=aa;have b1:=s9 (i:=i) (D:=t-f) (A:=1048577) (B:=4294967296) hi (by omega) (by omega) (by omega);have n:=s9 (i:=i+1) (D:=t-f) (A:=1048577) (B:=4294967296) (by omega) (by omega) (by omega) (by omega);have g:wr (i*(t-f))=i*(t-f):=aa;have j:wr ((i+1)*(t-f))=(i+1)*(t-f):=aa;simp only[rV,EX,e,c,g,j,J2];generalize i*(t-f)=a at *;generalize(i+1)*(t-f)=b at *;have k:wr (-max a b)=-max a b:=aa;rw[k];have c1:=lF (a:=min a b) (N:=2^d.toNat) (B:=1048577*4294967296) (vi _) (by omega) (by omega);have o:=lF (a:=-max a b) (N:=2^d.toNat) (B:=1048577*4294967296) (vi _) (by omega) (by omega);rw[aa (by omega) (by omega),aa (by omega) (by omega)]
def Lp(x:AV)(fb:Option bP):Option bP:=match x with
 |.pv (.val (.string s))=>some (.pv (Z s.size),[])
 |_=>fb
@[simp] theorem SX(s:ByteArray)(fb:Option bP):Lp (.pv (.val (.string s))) fb=some (.pv (Z s.size),[]):=rfl
theorem Oe{ty:TypeId}{pos:String}(x:Operand)(s:ByteArray):
 aV prog ⟨dst,.call ⟨.builtin .len,#[x],#[9]⟩,ty,pos,aft,g⟩ (λ_=>.pv (.val (.string s)))=some (.pv (Z s.size),[]):=by kernel_rfl
@[simp] theorem W6{ty:TypeId}{pos:String}{ρ:Operand->AV}(x:Operand):
 aV prog ⟨dst,.call ⟨.builtin .len,#[x],#[9]⟩,ty,pos,aft,g⟩ ρ=Lp (ρ x) (lD prog ⟨dst,.call ⟨.builtin .len,#[x],#[9]⟩,ty,pos,aft,g⟩ ρ):=by
 unfold Lp;split
 .rename_i s b
  rw[<-Oe (dst:=dst) (ty:=ty) (pos:=pos) (aft:=aft) (g:=g) x s];refine nU (by intro _ _ h;cases h) ?_;intro y a;simp[Op.operands,Call.operands]at a;subst a;exact b
 .rfl
theorem A8:(ByteArray.mk #[119,111,114,108,100]).toList=[119,111,114,108,100]:=by decide +kernel
theorem Lq(h:i<s.size):s[i]?=some (s[i]'h):=by simp[h]
theorem PU(s:ByteArray):aT 149 (.val (.string s)) (B (fk s)):=by
 by_cases h1:s.size<1
 .have hf:fk s=false:=by unfold fk;simp;omega
  have g:(s.size:Int)<1:=by omega
  rw[hf];refine Dp func149 λC hP hN=>?_;exact Gy
 have g:¬(s.size:Int)<1:=by omega
 by_cases h2:16<s.size
 .have hf:fk s=false:=by unfold fk;simp;omega
  have j:(16:Int)<s.size:=by omega
  rw[hf];refine Dp func149 λC hP hN=>?_;exact Gy
 have j:¬(16:Int)<s.size:=by omega
 cases h3:s.toList==[119,111,114,108,100]with
 |true=>
  have hf:fk s=false:=by unfold fk;simp[h3]
  have l:(s.toList==(ByteArray.mk #[119,111,114,108,100]).toList)=true:=by rw[A8];exact h3
  rw[hf];refine Dp func149 λC hP hN=>?_;exact Gy
 |false=>
  have hf:fk s=eD s:=by
   unfold fk;rw[h3]
   have a1:decide (1<=s.size)=true:=by simp;omega
   have o:decide (s.size<=16)=true:=by simp;omega
   rw[a1,o];simp
  have l:(s.toList==(ByteArray.mk #[119,111,114,108,100]).toList)=false:=by rw[A8];exact h3
  rw[hf];refine Dp func149 λC hP hN=>?_;refine Gz ?_;refine WP.loopN [] s.size (λi st=>st.t 0=.pv (.val (.string s))/\st.t 3=.pv (Z i)/\∀k(m:k<s.size),k<i->gi k (s[k]'m).toNat=true) (by simp) ?_;rintro i st hi ⟨g0,g3,f⟩;by_cases c:i<s.size
  .have n:i64.wrap ((i:Int)+1)=(i:Int)+1:=by rw[IntKind.wrap_i64];omega
   have e:(i:Int)<s.size:=by omega
   have hb:=Lq c;have d:gi i (s[i]'c).toNat=false->eD s=false:=kc c;have a:gi i (s[i]'c).toNat=true->∀k(m:k<s.size),k<i+1->gi k (s[k]'m).toNat=true:=λh=>yv rfl h f;generalize s[i]'c=b at d a hb
   with_reducible repeat' (first|refine Sp.h ?_|((first|refine Ss.h ?_|(refine Sb.h ?_ ?_ ?_<;>(try intro hgd)<;>try exact Xy))<;>simp -implicitDefEqProofs (maxSteps:=2000000) [hP,hN,g0,g3,e,hb,n])|refine X2 ?_ ?_|(refine Xd ?_ ?_<;>intro hcd<;>try exact Xx))
   all_goals clear n hP hN g0 g3 hb f h3 l hf h1 g h2 j
   all_goals first|(refine d ?_;clear d a;simp[gi,od,oe]at *;done)|(refine d ?_;clear d a;simp[gi,od,oe]at *;omega)|(refine⟨c,a ?_⟩;clear d a;simp[gi,od,oe]at *;done)|(refine⟨c,a ?_⟩;clear d a;simp[gi,od,oe]at *;omega)
  .have e:¬(i:Int)<s.size:=by omega
   refine Gz ?_;exact tQ (λk m=>f k m (by omega))
def fv(x m:Int):Bool:=decide (-m<=x)&&decide (x<=m)
def eO(x y z m:Int):Bool:=fv x m&&fv y m&&fv z m
abbrev ol(x y z:Int):PV:=.val (.agg #[.int .i64 x,.int .i64 y,.int .i64 z])
theorem zp:i64.wrap 1=1:=by decide
theorem A9:i64.wrap 2=2:=by decide
theorem De:i64.wrap 3=3:=by decide
theorem PW(h:i<=3):i=0\/i=1\/i=2\/i=3:=by omega
theorem IC(x y z:Int):aT 153 (ol x y z) (B (!eO x y z 4194304)):=by
 refine Dp func153 λC hP hN=>?_;refine Gz ?_;refine WP.loopN [] 3 (λi st=>st.t 5=.pv (ol x y z)/\st.t 6=.pv (Z i)/\(0<i->fv x 4194304=true)/\(1<i->fv y 4194304=true)/\(2<i->fv z 4194304=true)) (by simp) ?_;rintro i st hi ⟨h5,h6,a,b,c⟩;rcases PW hi with rfl|rfl|rfl|rfl
 .skip
  with_reducible repeat' (first|refine Sp.h ?_|((first|refine Ss.h ?_|(refine Sb.h ?_ ?_ ?_<;>(try intro hgd)<;>try exact Xy))<;>simp -implicitDefEqProofs (maxSteps:=2000000) [hP,hN,h5,h6])|refine X2 ?_ ?_|(refine Xd ?_ ?_<;>intro hcd<;>try exact Xx))
  all_goals (simp[eO,fv,zp,A9,De]at *;first|omega|grind)
 .skip
  with_reducible repeat' (first|refine Sp.h ?_|((first|refine Ss.h ?_|(refine Sb.h ?_ ?_ ?_<;>(try intro hgd)<;>try exact Xy))<;>simp -implicitDefEqProofs (maxSteps:=2000000) [hP,hN,h5,h6])|refine X2 ?_ ?_|(refine Xd ?_ ?_<;>intro hcd<;>try exact Xx))
  all_goals (simp[eO,fv,zp,A9,De]at *;first|omega|grind)
 .skip
  with_reducible repeat' (first|refine Sp.h ?_|((first|refine Ss.h ?_|(refine Sb.h ?_ ?_ ?_<;>(try intro hgd)<;>try exact Xy))<;>simp -implicitDefEqProofs (maxSteps:=2000000) [hP,hN,h5,h6])|refine X2 ?_ ?_|(refine Xd ?_ ?_<;>intro hcd<;>try exact Xx))
  all_goals (simp[eO,fv,zp,A9,De]at *;first|omega|grind)
 .skip
  refine Gz ?_
  all_goals (simp[eO,fv,zp,A9,De]at *;first|omega|grind)
theorem wZ(x y z m:Int)(d:0<=m)(c:m<4611686018427387904):aH 81 (ol x y z) (Z m) (B (eO x y z m)):=by
 have b:i64.wrap (0-m)=-m:=(aa (n:=0-m) (by omega) (by omega)).trans (by omega);have a:i64.wrap (-m)=-m:=aa;refine Dp func81 λC hP hN=>?_;refine Gz ?_;refine WP.loopN [] 3 (λi st=>st.t 1=.pv (Z m)/\st.t 2=.ptr 2 0/\st.h 2=some (.box [.pv (Z x),.pv (Z y),.pv (Z z)] true false)/\st.t 5=.pv (Z i)/\(0<i->fv x m=true)/\(1<i->fv y m=true)/\(2<i->fv z m=true)) (by simp) ?_;rintro i st hi ⟨h1,h2,hb,h5,e,f,g⟩;rcases PW hi with rfl|rfl|rfl|rfl
 .skip
  with_reducible repeat' (first|refine Sp.h ?_|((first|refine Ss.h ?_|(refine Sb.h ?_ ?_ ?_<;>(try intro hgd)<;>try exact Xy))<;>simp -implicitDefEqProofs (maxSteps:=2000000) [hP,hN,h1,h2,hb,h5,b,a])|refine X2 ?_ ?_|(refine Xd ?_ ?_<;>intro hcd<;>try exact Xx))
  all_goals (simp[eO,fv,zp,A9,De]at *;first|omega|grind)
 .skip
  with_reducible repeat' (first|refine Sp.h ?_|((first|refine Ss.h ?_|(refine Sb.h ?_ ?_ ?_<;>(try intro hgd)<;>try exact Xy))<;>simp -implicitDefEqProofs (maxSteps:=2000000) [hP,hN,h1,h2,hb,h5,b,a])|refine X2 ?_ ?_|(refine Xd ?_ ?_<;>intro hcd<;>try exact Xx))
  all_goals (simp[eO,fv,zp,A9,De]at *;first|omega|grind)
 .skip
  with_reducible repeat' (first|refine Sp.h ?_|((first|refine Ss.h ?_|(refine Sb.h ?_ ?_ ?_<;>(try intro hgd)<;>try exact Xy))<;>simp -implicitDefEqProofs (maxSteps:=2000000) [hP,hN,h1,h2,hb,h5,b,a])|refine X2 ?_ ?_|(refine Xd ?_ ?_<;>intro hcd<;>try exact Xx))
  all_goals (simp[eO,fv,zp,A9,De]at *;first|omega|grind)
 .skip
  refine Gz ?_
  all_goals (simp[eO,fv,zp,A9,De]at *;first|omega|grind)
def aP(x a b:Int):Bool:=decide (a<=x)&&decide (x<=b)
theorem PX(x m:Int):aH 155 (Z x) (Z m) (B (aP x 1 m)):=by
 refine Dp func155 λC hP hN=>?_
 with_reducible repeat' (first|refine Sp.h ?_|((first|refine Ss.h ?_|(refine Sb.h ?_ ?_ ?_<;>(try intro hgd)<;>try exact Xy))<;>simp -implicitDefEqProofs (maxSteps:=2000000) [hP,hN])|refine X2 ?_ ?_|(refine Xd ?_ ?_<;>intro hcd<;>try exact Xx))
 all_goals (first|(simp_all[aP];done)|((try simp_all[aP])<;>(try omega)<;>grind))
theorem Nq(x a b:Int):gz 80 (Z x) (Z a) (Z b) (B (aP x a b)):=by
 refine Dp func80 λC hP hN=>?_
 with_reducible repeat' (first|refine Sp.h ?_|((first|refine Ss.h ?_|(refine Sb.h ?_ ?_ ?_<;>(try intro hgd)<;>try exact Xy))<;>simp -implicitDefEqProofs (maxSteps:=2000000) [hP,hN])|refine X2 ?_ ?_|(refine Xd ?_ ?_<;>intro hcd<;>try exact Xx))
 all_goals (first|(simp_all[aP];done)|((try simp_all[aP])<;>(try omega)<;>grind))
def Ba(k:Int):Int:=if k=1\/k=2\/k=3 then 524288 else if k=4\/k=5\/k=6 then 4194304 else 0
def dp(k:Int):Int:=if k=0 then 0 else if k=1\/k=2\/k=3 then 524288 else 4194304
theorem T1(k:Int):aT 154 (Z k) (Z (Ba k)):=by
 refine Dp func154 λC hP hN=>?_
 with_reducible repeat' (first|refine Sp.h ?_|((first|refine Ss.h ?_|(refine Sb.h ?_ ?_ ?_<;>(try intro hgd)<;>try exact Xy))<;>simp -implicitDefEqProofs (maxSteps:=2000000) [hP,hN])|refine X2 ?_ ?_|(refine Xd ?_ ?_<;>intro hcd<;>try exact Xx))
 all_goals (simp[Ba]at *;first|omega|grind)
theorem PY(k:Int):aT 150 (Z k) (Z (dp k)):=by
 refine Dp func150 λC hP hN=>?_
 with_reducible repeat' (first|refine Sp.h ?_|((first|refine Ss.h ?_|(refine Sb.h ?_ ?_ ?_<;>(try intro hgd)<;>try exact Xy))<;>simp -implicitDefEqProofs (maxSteps:=2000000) [hP,hN])|refine X2 ?_ ?_|(refine Xd ?_ ?_<;>intro hcd<;>try exact Xx))
 all_goals (simp[dp]at *;first|omega|grind)
theorem GI{k:Int}(a:0<=k)(h6:k<=6):Ba k=dp k:=by
 have:k=0\/k=1\/k=2\/k=3\/k=4\/k=5\/k=6:=by omega
 rcases this with rfl|rfl|rfl|rfl|rfl|rfl|rfl<;>rfl
def jc(a b:ByteArray):Bool:=a.toList==b.toList
theorem T3(js:List J)(ms:List Ms)(name:ByteArray)(b:js.length<=9223372036854775807):aH 152 (eS js ms) (.val (.string name)) (Z (mW (λj=>jc j.name name) js)):=by
 refine Dp func152 λC hP hN=>?_;refine Gz ?_;refine WP.loopN [] js.length (λi st=>st.t 1=.pv (.val (.string name))/\st.t 2=.ptr 2 0/\st.h 2=some (.box [.pv (.sl (js.map aQ)),.pv (.sl (ms.map bb))] true false)/\st.t 8=.pv (Z js.length)/\st.t 9=.pv (Z i)/\∀j x,j<i->js[j]?=some x->jc x.name name=false) (by simp) ?_;rintro i st hi ⟨h1,h2,hb,h8,h9,hq⟩;by_cases a:i<js.length
 .have c:=ae a b
  with_reducible repeat' (first|refine Sp.h ?_|((first|refine Ss.h ?_|(refine Sb.h ?_ ?_ ?_<;>(try intro hgd)<;>try exact Xy))<;>simp -implicitDefEqProofs (maxSteps:=2000000) [hP,hN,h1,h2,hb,h8,h9,a,c])|refine X2 ?_ ?_|(refine Xd ?_ ?_<;>intro hcd<;>try exact Xx))
  .exact(lE a hq hcd).symm
  .simpa using kX a hq hcd
 .skip
  refine Gz ?_;exact(qi (rT a hq)).symm
def mX(js:List J)(i:Nat)(name:ByteArray):Bool:=(js.take i).any λj=>jc j.name name
theorem Lr(h:i<js.length):(mW (λj=>jc j.name js[i].name) js !=(i:Int))=mX js i js[i].name:=by
 have o:jc js[i].name js[i].name=true:=by simp[jc]
 cases hd:mX js i js[i].name with
 |false=>
  have:mW (λj=>jc j.name js[i].name) js=i:=lE h (λj x l g=>by
   rw[mX,yAx]at hd;have n:x∈js.take i:=An (by rw[Zj,YY l];exact g)
   simpa using hd x n) o
  rw[this];simp
 |true=>
  rw[mX,yAF]at hd;obtain⟨x,g,hp⟩:=hd;obtain⟨k,b⟩:=Zq g;rw[Zj]at b;split at b
  .rename_i d
   simp only[bne_iff_ne,ne_eq];intro a;unfold mW at a
   cases hf:js.findIdx? (λj=>jc j.name js[i].name)with
   |none=>
    rw[hf]at a;simp at a
   |some m=>
    rw[hf]at a;have c:(m:Int)=(i:Int):=a
    have a:m=i:=by omega
    clear c;subst a;rw[yAO]at hf;obtain⟨p,_,f⟩:=hf;have e:=(th.1 b);have:=f k d;rw[e.2]at this;exact this hp
  .cases b
def bI(js:List J)(i:Nat)(j:J):Int:=
 if(!fk j.name||mX js i j.name)=true then 802 else if j.kind<0\/6<j.kind then 803 else if j.parent< -1\/(i:Int)<=j.parent then 804 else if eO j.ox j.oy j.oz 4194304=false then 805
 else if j.hi<j.lo\/j.lo< -dp j.kind\/dp j.kind<j.hi then 806 else if(aP j.w 1 1024&&aP j.sp 1 1048576&&aP j.ac 1 1048576&&aP j.tq 1 1099511627776)=false then 807 else 0
theorem tR(k:Int):0<=dp k/\dp k<=4194304:=by unfold dp;repeat' split
                                             all_goals omega
theorem PZ(js:List J)(ms:List Ms)(i:Nat)(v:js.length<=9223372036854775807)(hi:i<js.length):aH 106 (eS js ms) (Z i) (Z (bI js i js[i])):=by
 have d:=an hi;have a:=Lr hi;have e:=T3 js ms js[i].name v;generalize b:js[i]=j at d a e|-;have x:=tR j.kind;have l:i64.wrap (0-dp j.kind)=-dp j.kind:=(aa (n:=0-dp j.kind) (by omega) (by omega)).trans (by omega);have c:i64.wrap (-dp j.kind)=-dp j.kind:=aa;generalize mW (λk=>jc k.name j.name) js=q at a e;refine Dp func106 λC hP hN=>?_
 cases hn:fk j.name with
 |false=>
  have r:=@zV;refine GT (go d b hn hi) ?_
  all_goals simp[bI,hn]
 |true=>
  cases hd:mX js i j.name with
  |true=>
   rw[hd]at a;have r:=@zV;refine GT (it d b hn hi a) ?_
   all_goals simp[bI,hn,hd]
  |false=>
   rw[hd]at a;by_cases g:j.kind<0\/6<j.kind
   .skip
    with_reducible repeat' (first|refine Sp.h ?_|((first|refine Ss.h ?_|refine Sc.h (zV _) ?_|refine Sc.h (e) ?_|(refine Sb.h ?_ ?_ ?_<;>(try intro hgd)<;>try exact Xy))<;>simp -implicitDefEqProofs (maxSteps:=2000000) [hP,hN,d,b,hn,hi,a])|refine X2 ?_ ?_|(refine Xd ?_ ?_<;>intro hcd<;>try exact Xx))
    all_goals (first|(simp[bI,hn,hd,g];done)|(exfalso;simp at *;omega))
   .have m:Ba j.kind=dp j.kind:=GI (by omega) (by omega)
    have cl:=T1 j.kind;rw[m]at cl
    have k1:¬j.kind<0:=by omega
    have k2:¬6<j.kind:=by omega
    by_cases hp:j.parent< -1\/(i:Int)<=j.parent
    .skip
     with_reducible repeat' (first|refine Sp.h ?_|((first|refine Ss.h ?_|refine Sc.h (zV _) ?_|refine Sc.h (e) ?_|(refine Sb.h ?_ ?_ ?_<;>(try intro hgd)<;>try exact Xy))<;>simp -implicitDefEqProofs (maxSteps:=2000000) [hP,hN,d,b,hn,hi,a,k1,k2])|refine X2 ?_ ?_|(refine Xd ?_ ?_<;>intro hcd<;>try exact Xx))
     all_goals (first|(simp[bI,hn,hd,g,hp];done)|(exfalso;simp at *;omega))
    .have o:¬j.parent< -1:=by omega
     have p:¬(i:Int)<=j.parent:=by omega
     cases f:eO j.ox j.oy j.oz 4194304 with
     |false=>
      have r:=@zV;have y:=@IC;refine GT (zAa d b hn hi a k1 k2 o p f) ?_
      all_goals (simp[bI,hn,hd,g,hp,f])
     |true=>
      by_cases hb:j.hi<j.lo\/j.lo< -dp j.kind\/dp j.kind<j.hi
      .skip
       with_reducible repeat' (first|refine Sp.h ?_|((first|refine Ss.h ?_|refine Sc.h (zV _) ?_|refine Sc.h (e) ?_|refine Sc.h (IC _ _ _) ?_|refine Sc.h (cl) ?_|(refine Sb.h ?_ ?_ ?_<;>(try intro hgd)<;>try exact Xy))<;>simp -implicitDefEqProofs (maxSteps:=2000000) [hP,hN,d,b,hn,hi,a,k1,k2,o,p,f,l,c])|refine X2 ?_ ?_|(refine Xd ?_ ?_<;>intro hcd<;>try exact Xx))
       all_goals (first|(simp[bI,hn,hd,g,hp,f,hb];done)|(exfalso;simp at *;omega))
      .have b1:¬j.hi<j.lo:=by omega
       have s:¬j.lo< -dp j.kind:=by omega
       have u:¬dp j.kind<j.hi:=by omega
       with_reducible repeat' (first|refine Sp.h ?_|((first|refine Ss.h ?_|refine Sc.h (zV _) ?_|refine Sc.h (e) ?_|refine Sc.h (IC _ _ _) ?_|refine Sc.h (cl) ?_|refine Sc.h (PX _ _) ?_|(refine Sb.h ?_ ?_ ?_<;>(try intro hgd)<;>try exact Xy))<;>simp -implicitDefEqProofs (maxSteps:=2000000) [hP,hN,d,b,hn,hi,a,k1,k2,o,p,f,l,c,b1,s,u])|refine X2 ?_ ?_|(refine Xd ?_ ?_<;>intro hcd<;>try exact Xx))
       all_goals (rw[bI,YR (by simp[hn,hd]),YR g,YR hp,YR (by simp[f]),YR hb];simp_all)
abbrev T4(j:J):List AV:=[.pv (.val (.string j.name)),.pv (Z j.kind),.pv (Z j.parent),.pv (Z j.ox),.pv (Z j.oy),.pv (Z j.oz),.pv (Z j.lo),.pv (Z j.hi),.pv (Z j.w),.pv (Z j.sp),.pv (Z j.ac),.pv (Z j.tq)]
theorem Of{n:ByteArray}(a:k<i)(b:k<js.length)(h:jc js[k].name n=true):mX js i n=true:=by
 rw[mX,yAF];exact⟨js[k],An (i:=k) (by rw[Zj,YY a];exact an b),h⟩
theorem P0{n:ByteArray}(h:∀m x,m<i->js[m]?=some x->jc x.name n=false):mX js i n=false:=by
 rw[mX,yAx];intro x b;obtain⟨m,a⟩:=Zq b;rw[Zj]at a;split at a
 .rename_i h';simp[h m x h' a]
 .cases a
theorem SY(js:List J)(i:Nat)(B:js.length<=9223372036854775807)(hi:i<js.length):aH 94 (.sl (js.map aQ)) (Z i) (Z (bI js i js[i])):=by
 have s:=an hi;generalize l:js[i]=j at s|-;have E:=tR j.kind;have g:i64.wrap (0-dp j.kind)=-dp j.kind:=(aa (n:=0-dp j.kind) (by omega) (by omega)).trans (by omega);have c:i64.wrap (-dp j.kind)=-dp j.kind:=aa;refine Dp func94 λC hP hN=>?_
 cases hn:fk j.name with
 |false=>
  have D:=@PU;refine GT (go s l hn hi) ?_
  all_goals simp[bI,hn]
 |true=>
  have D:=@PU;refine GT (go s l hn hi) ?_;refine WP.loopN [] i (λk st=>st.t 0=.pv (.sl (js.map aQ))/\st.t 1=.pv (Z i)/\st.t 5=.ptr 5 0/\st.h 5=some (.box (T4 j) true false)/\st.t 6=.pv (Z k)/\∀m x,m<k->js[m]?=some x->jc x.name j.name=false) (by simp) ?_;rintro k st d ⟨g0,g1,g5,a,f,hq⟩;by_cases q:k<i
  .have b:k<js.length:=by omega
   have F:=ae b B
   have y:(k:Int)<(i:Int):=by omega
   cases o:jc js[k].name j.name with
   |true=>
    have r:(js[k].name.toList==j.name.toList)=true:=o;have hd:=Of q b o;refine Gz ?_
    all_goals simp[bI,hn,hd]
   |false=>
    have r:(js[k].name.toList==j.name.toList)=false:=o;refine Gz ?_
    all_goals simpa using kX b hq o
  .have p:k=i:=by omega
   subst p;have hd:=P0 hq;by_cases d:j.kind<0\/6<j.kind
   .skip
    with_reducible repeat' (first|refine Sp.h ?_|((first|refine Wd ?_|refine Ss.h ?_|(refine Sb.h ?_ ?_ ?_<;>(try intro hgd)<;>try exact Xy))<;>simp -implicitDefEqProofs (maxSteps:=2000000) [hP,hN,g0,g1,g5,a,f]<;>try refine Ya ?_)|refine X2 ?_ ?_|(refine Xd ?_ ?_<;>intro hcd<;>try exact Xx))
    all_goals (first|(simp[bI,hn,hd,d];done)|(exfalso;simp at *;omega))
   .have k1:¬j.kind<0:=by omega
    have k2:¬6<j.kind:=by omega
    by_cases hp:j.parent< -1\/(k:Int)<=j.parent
    .skip
     with_reducible repeat' (first|refine Sp.h ?_|((first|refine Wd ?_|refine Ss.h ?_|(refine Sb.h ?_ ?_ ?_<;>(try intro hgd)<;>try exact Xy))<;>simp -implicitDefEqProofs (maxSteps:=2000000) [hP,hN,g0,g1,g5,a,f,k1,k2]<;>try refine Ya ?_)|refine X2 ?_ ?_|(refine Xd ?_ ?_<;>intro hcd<;>try exact Xx))
     all_goals (first|(simp[bI,hn,hd,d,hp];done)|(exfalso;simp at *;omega))
    .have u:¬j.parent< -1:=by omega
     have v:¬(k:Int)<=j.parent:=by omega
     cases e:eO j.ox j.oy j.oz 4194304 with
     |false=>
      with_reducible repeat' (first|refine Sp.h ?_|((first|refine Wd ?_|refine Ss.h ?_|refine Sc.h (wZ _ _ _ _ (by decide) (by decide)) ?_|(refine Sb.h ?_ ?_ ?_<;>(try intro hgd)<;>try exact Xy))<;>simp -implicitDefEqProofs (maxSteps:=2000000) [hP,hN,g0,g1,g5,a,f,k1,k2,u,v,e]<;>try refine Ya ?_)|refine X2 ?_ ?_|(refine Xd ?_ ?_<;>intro hcd<;>try exact Xx))
      all_goals (simp[bI,hn,hd,d,hp,e])
     |true=>
      by_cases hb:j.hi<j.lo\/j.lo< -dp j.kind\/dp j.kind<j.hi
      .skip
       with_reducible repeat' (first|refine Sp.h ?_|((first|refine Wd ?_|refine Ss.h ?_|refine Sc.h (wZ _ _ _ _ (by decide) (by decide)) ?_|refine Sc.h (PY _) ?_|(refine Sb.h ?_ ?_ ?_<;>(try intro hgd)<;>try exact Xy))<;>simp -implicitDefEqProofs (maxSteps:=2000000) [hP,hN,g0,g1,g5,a,f,k1,k2,u,v,e,g,c]<;>try refine Ya ?_)|refine X2 ?_ ?_|(refine Xd ?_ ?_<;>intro hcd<;>try exact Xx))
       all_goals (first|(simp[bI,hn,hd,d,hp,e,hb];done)|(exfalso;simp at *;omega))
      .have b1:¬j.hi<j.lo:=by omega
       have z:¬j.lo< -dp j.kind:=by omega
       have A:¬dp j.kind<j.hi:=by omega
       with_reducible repeat' (first|refine Sp.h ?_|((first|refine Wd ?_|refine Ss.h ?_|refine Sc.h (wZ _ _ _ _ (by decide) (by decide)) ?_|refine Sc.h (PY _) ?_|refine Sc.h (Nq _ _ _) ?_|(refine Sb.h ?_ ?_ ?_<;>(try intro hgd)<;>try exact Xy))<;>simp -implicitDefEqProofs (maxSteps:=2000000) [hP,hN,g0,g1,g5,a,f,k1,k2,u,v,e,g,c,b1,z,A]<;>try refine Ya ?_)|refine X2 ?_ ?_|(refine Xd ?_ ?_<;>intro hcd<;>try exact Xx))
       all_goals (rw[bI,YR (by simp[hn,hd]),YR d,YR hp,YR (by simp[e]),YR hb];simp_all)
def dS(n:Nat)(m:Ms):Bool:=decide (0<=m.link)&&decide (m.link<n)&&aP m.mass 1 65536&&eO m.px m.py m.pz 4194304
theorem T5(js:List J)(ms:List Ms)(m:Ms):aH 109 (eS js ms) (bb m) (B (dS js.length m)):=by
 refine Dp func109 λC hP hN=>?_
 with_reducible repeat' (first|refine Sp.h ?_|((first|refine Ss.h ?_|refine Sc.h (PX _ _) ?_|refine Sc.h (IC _ _ _) ?_|(refine Sb.h ?_ ?_ ?_<;>(try intro hgd)<;>try exact Xy))<;>simp -implicitDefEqProofs (maxSteps:=2000000) [hP,hN])|refine X2 ?_ ?_|(refine Xd ?_ ?_<;>intro hcd<;>try exact Xx))
 all_goals (simp_all[dS]<;>omega)
theorem T6(js:List J)(ms:List Ms)(m:Ms):aH 108 (bb m) (.rptr (eS js ms) 0) (B (!dS js.length m)):=by
 refine Dp func108 λC hP hN=>?_;have a:=@T5;exact GS trivial
theorem T7(f:FuncId)(c:PV)(p:Ms->Bool)(xs:List Ms)(b:xs.length<=9223372036854775807)(hf:∀x,aS prog f [.pv (bb x),.pv (.rptr c 0)] [] [] (.pv (B (p x)))):aH 156 (.sl (xs.map bb)) (.fn (.func f) [] [.rptr c 0]) (Z (mW p xs)):=by
 refine Dp func156 λC hP hN=>?_;refine Gz ?_;refine WP.loopN [] xs.length (λi st=>st.t 0=.pv (.sl (xs.map bb))/\st.t 1=.pv (.fn (.func f) [] [.rptr c 0])/\st.t 7=.pv (Z xs.length)/\st.t 8=.pv (Z i)/\∀j x,j<i->xs[j]?=some x->p x=false) (by simp) ?_;rintro i st hi ⟨h0,h1,h7,h8,hq⟩;by_cases a:i<xs.length
 .have d:=ae a b
  with_reducible repeat' (first|refine Sp.h ?_|((first|refine Ss.h ?_|refine Sc.h (hf _) ?_|(refine Sb.h ?_ ?_ ?_<;>(try intro hgd)<;>try exact Xy))<;>simp -implicitDefEqProofs (maxSteps:=2000000) [hP,hN,h0,h1,h7,h8,a,d])|refine X2 ?_ ?_|(refine Xd ?_ ?_<;>intro hcd<;>try exact Xx))
  .exact(lE a hq hcd).symm
  .simpa using kX a hq hcd
 .skip
  refine Gz ?_;exact(qi (rT a hq)).symm
theorem T8(f:FuncId)(c:PV)(p:Ms->Bool)(xs:List Ms)(a:xs.length<=9223372036854775807)(hf:∀x,aS prog f [.pv (bb x),.pv (.rptr c 0)] [] [] (.pv (B (p x)))):aH 107 (.sl (xs.map bb)) (.fn (.func f) [] [.rptr c 0]) (B (xs.any p)):=by
 refine Dp func107 λC hP hN=>?_;have b:=T7 _ _ _ _ a hf;refine GT trivial ?_
 all_goals (first|(simp_all[ph];done)|((try simp_all[ph])<;>(try omega)<;>grind))
def jd(js:List J):Int:=match(js.mapIdx (bI js)).find? (λe=>e !=0)with
 |some e=>e
 |none=>0
theorem ta(js:List J):jd js=match(js.mapIdx (bI js)).find? (λe=>e !=0)with
 |some e=>e
 |none=>0:=rfl
theorem zq(b:i<js.length)(hq:∀k x,k<i->js[k]?=some x->bI js k x=0)(c:bI js i js[i]≠0):jd js=bI js i js[i]:=by
 rw[ta]
 have:(js.mapIdx (bI js)).find? (λe=>e !=0)=some (bI js i js[i]):=by
  rw[yAZ];refine⟨by simpa using c,i,by simpa using b,by simp,λk d=>?_⟩
  have a:k<js.length:=by omega
  simp[hq k js[k] d (an a)]
 rw[this]
theorem vj(hq:∀(k:Nat) x,js[k]?=some x->bI js k x=0):jd js=0:=by
 rw[ta]
 have:(js.mapIdx (bI js)).find? (λe=>e !=0)=none:=by
  rw[Z2];intro e a;simp only[List.mem_mapIdx]at a;obtain⟨i,hi,rfl⟩:=a;simp[hq i js[i] (an hi)]
 rw[this]
theorem EY(b:i<js.length)(hq:∀k x,k<i->js[k]?=some x->bI js k x=0)(c:bI js i js[i]=0):∀k x,k<i+1->js[k]?=some x->bI js k x=0:=by
 intro k x d a;by_cases e:k=i
 .subst e;rw[an b]at a;injection a with a;subst a;exact c
 .exact hq k x (by omega) a
def aR(js:List J)(ms:List Ms):Int:=if js.length=0\/10<js.length then 801 else if jd js≠0 then jd js else if(decide (32<ms.length)||ms.any λm=>!dS js.length m)=true then 808 else 0
theorem Df(js:List J)(ms:List Ms)(s:js.length<=9223372036854775807)(A:ms.length<=9223372036854775807):aT 65 (eS js ms) (Z (aR js ms)):=by
 by_cases h0:js.length=0
 .have hc:aR js ms=801:=by simp[aR,h0]
  have o:js=[]:=Zn h0;rw[hc];subst o;refine Dp func65 λC hP hN=>?_;exact Gy
 have D:((js.length:Int)==0)=false:=by simp;intro h;exact h0 (by rw[h];rfl)
 by_cases h1:10<js.length
 .have hc:aR js ms=801:=by simp[aR,h1]
  have p:(10:Int)<js.length:=by omega
  rw[hc];refine Dp func65 λC hP hN=>?_;exact Gy
 have p:¬(10:Int)<js.length:=by omega
 have q:aR js ms=if jd js≠0 then jd js else if(decide (32<ms.length)||ms.any λm=>!dS js.length m)=true then 808 else 0:=by
  unfold aR;rw[YR (by omega)]
 rw[q];generalize u:(if(decide (32<ms.length)||ms.any λm=>!dS js.length m)=true then(808:Int)else 0)=r;refine Dp func65 λC hP hN=>?_;refine Gz ?_;refine WP.loopN [] js.length (λi st=>st.t 1=.ptr 1 0/\st.h 1=some (.box [.pv (.sl (js.map aQ)),.pv (.sl (ms.map bb))] true false)/\st.t 17=.pv (Z js.length)/\st.t 18=.pv (Z i)/\∀k x,k<i->js[k]?=some x->bI js k x=0) (by simp) ?_;rintro i st hi ⟨g1,l,e,f,hq⟩;by_cases a:i<js.length
 .have y:=ae a s
  by_cases c:bI js i js[i]=0
  .have d:(bI js i js[i]!=0)=false:=by simp[c]
   have B:=PZ js ms i s a;refine GT (s7 g1 l e f a y d c) ?_
   all_goals simpa using EY a hq c
  .have d:(bI js i js[i]!=0)=true:=by simp[c]
   have hf:=zq a hq c;have B:=PZ js ms i s a;refine GT (s7 g1 l e f a y d c) ?_
   all_goals simp[hf,c]
 .have hf:jd js=0:=vj (λk x z=>hq k x (by have:=(th.1 z).1;omega) z)
  have v:=T8 108 (eS js ms) (λm=>!dS js.length m) ms A (λm=>T6 js ms m);rw[hf];by_cases g:32<ms.length
  .have j:(32:Int)<ms.length:=by omega
   have n:r=808:=by rw[<-u];simp[g]
   exact Gy
  .have j:¬(32:Int)<ms.length:=by omega
   cases b:ms.any λm=>!dS js.length m with
   |true=>
    rw[b]at v
    have n:r=808:=by rw[<-u,b];simp
    exact Gy
   |false=>
    rw[b]at v
    have n:r=0:=by rw[<-u,b];simp[g]
    exact Gy
theorem Og(h:i<xs.length)(hp:p xs[i]=true):xs.any p=true:=yAF.2 ⟨_,Zd h,hp⟩
theorem P3(h:∀(i:Nat) x,xs[i]?=some x->p x=false):xs.any p=false:=by
 rw[yAx];intro x a;obtain⟨i,hi⟩:=Zq a;simp[h i x hi]
theorem rZ(js:List J)(ms:List Ms)(A:js.length<=9223372036854775807)(B:ms.length<=9223372036854775807):aT 52 (eS js ms) (Z (aR js ms)):=by
 by_cases h0:js.length=0
 .have hc:aR js ms=801:=by simp[aR,h0]
  have y:js=[]:=Zn h0;rw[hc];subst y;refine Dp func52 λC hP hN=>?_;exact Gy
 have E:¬(js.length:Int)<1:=by omega
 have n1:¬js.length<1:=by omega
 by_cases h1:10<js.length
 .have hc:aR js ms=801:=by simp[aR,h1]
  have z:(10:Int)<js.length:=by omega
  rw[hc];refine Dp func52 λC hP hN=>?_;exact Gy
 have z:¬(10:Int)<js.length:=by omega
 have f:aR js ms=if jd js≠0 then jd js else if(decide (32<ms.length)||ms.any λm=>!dS js.length m)=true then 808 else 0:=by
  unfold aR;rw[YR (by omega)]
 rw[f];generalize u:(if(decide (32<ms.length)||ms.any λm=>!dS js.length m)=true then(808:Int)else 0)=r;refine Dp func52 λC hP hN=>?_;refine Gz ?_;refine WP.loopN [] js.length (λi st=>st.t 1=.ptr 1 0/\st.h 1=some (.box [.pv (.sl (js.map aQ)),.pv (.sl (ms.map bb))] true false)/\st.h 6=none/\st.t 3=.pv (Z i)/\∀k x,k<i->js[k]?=some x->bI js k x=0) (by simp) ?_;rintro i st hi ⟨g1,b,c,g3,hq⟩;by_cases a:i<js.length
 .have l:=ae a A
  by_cases g:bI js i js[i]=0
  .have j:(bI js i js[i]!=0)=false:=by simp[g]
   have D:=SY js i A a;refine GT (s7 g1 b c g3 a l j g) ?_
   all_goals simpa using EY a hq g
  .have j:(bI js i js[i]!=0)=true:=by simp[g]
   have hf:=zq a hq g;have D:=SY js i A a;refine GT (s7 g1 b c g3 a l j g) ?_
   all_goals simp[hf,g]
 .have hf:jd js=0:=vj (λk x n=>hq k x (by have:=(th.1 n).1;omega) n)
  rw[hf];by_cases o:32<ms.length
  .have q:(32:Int)<ms.length:=by omega
   have e:r=808:=by rw[<-u];simp[o]
   exact Gy
  .have q:¬(32:Int)<ms.length:=by omega
   refine Gz ?_;refine WP.loopN [6] ms.length (λi st=>st.t 1=.ptr 1 0/\st.h 1=some (.box [.pv (.sl (js.map aQ)),.pv (.sl (ms.map bb))] true false)/\st.h 6=none/\st.t 5=.pv (Z i)/\∀k x,k<i->ms[k]?=some x->(!dS js.length x)=false) (by simp[g1,b,c]) ?_;clear g1 b c g3 hq;rintro i st hi ⟨g1,b,c,g5,hq⟩;by_cases a:i<ms.length
   .have l:=ae a B
    have n:=an a
    cases s:dS js.length ms[i]with
    |false=>
     have d:(ms.any λm=>!dS js.length m)=true:=Og a (by simp[s])
     have e:r=808:=by rw[<-u,d];simp
     clear u d
     with_reducible repeat' (first|refine Sp.h ?_|((first|refine Ss.h ?_|refine Sc.h (wZ _ _ _ _ (by decide) (by decide)) ?_|refine Sc.h (Nq _ _ _) ?_|(refine Sb.h ?_ ?_ ?_<;>(try intro hgd)<;>try exact Xy))<;>simp -implicitDefEqProofs (maxSteps:=2000000) [hP,hN,g1,b,c,g5,a,l,e])|refine X2 ?_ ?_|(refine Xd ?_ ?_<;>intro hcd<;>try exact Xx))
     all_goals (exfalso;clear hq hP hN g1 b c g5 l e f hf;simp[dS]at *;grind)
    |true=>
     have v:=kX (p:=λm=>!dS js.length m) a hq (by simp[s]);clear u hq
     with_reducible repeat' (first|refine Sp.h ?_|((first|refine Ss.h ?_|refine Sc.h (wZ _ _ _ _ (by decide) (by decide)) ?_|refine Sc.h (Nq _ _ _) ?_|(refine Sb.h ?_ ?_ ?_<;>(try intro hgd)<;>try exact Xy))<;>simp -implicitDefEqProofs (maxSteps:=2000000) [hP,hN,g1,b,c,g5,a,l])|refine X2 ?_ ?_|(refine Xd ?_ ?_<;>intro hcd<;>try exact Xx))
     all_goals first|(simpa using v)|(exfalso;clear v hP hN g1 b c g5 l f hf;simp[dS]at *;grind)
   .have d:(ms.any λm=>!dS js.length m)=false:=P3 (λk x n=>hq k x (by have:=(th.1 n).1;omega) n)
    have e:r=0:=by rw[<-u,d];simp[o]
    exact Gy
theorem zW(h:d<=20):(2:Int)^d.toNat<=1048576:=by
 have hp:∀n:Nat,n<=20->(2:Int)^n<=1048576:=by decide
 exact hp _ (by omega)
theorem Ls:bE p xs=true↔∀x∈xs,p x=true:=by simp[bE]
theorem Lt{β:Type}{f:α->β->Bool}{ys:List β}:jL f xs ys=true↔∀(i:Nat)(h:i<xs.length)(h':i<ys.length),f xs[i] ys[i]=true:=by
 unfold jL;rw[L4];constructor
 .intro h i hi a
  exact h (f xs[i] ys[i]) (by
   rw[yAb]
   exact⟨i,by simp;omega,by simp⟩)
 .intro h x b
  obtain⟨i,hi,rfl⟩:=yAb.1 b;simp only[List.length_zipWith]at hi;simpa using h i (by omega) (by omega)
section
variable {p q:List Int} {d i:Int}
end
section
variable {a b:List (Int×Int)}
end
section
variable {b:List (Int×Int)} {k:Nat}
end
def vk(j:J)(a b:Int):Int:=wr (j.w*max (wr (b-a)) (wr (a-b)))
def jD(js:List J)(p q:List Int):Nat->Int
 |0=>0
 |i+1=>match js[i]?,p[i]?,q[i]? with
  |some j,some a,some b=>wr (jD js p q i+vk j a b)
  |_,_,_=>jD js p q i
def r7(js:List J)(ms:List Ms)(p q:List Int):Bool:=decide (p.length=js.length)&&decide (q.length=js.length)&&bE cL p&&bE cL q&&decide (aR js ms=0)
def eV(js:List J)(ms:List Ms)(p q:List Int):Int:=if r7 js ms p q then jD js p q js.length else 0
theorem Bb{p q:List Int}(h1:i<js.length)(h2:i<p.length)(h3:i<q.length):jD js p q (i+1)=wr (jD js p q i+vk js[i] p[i] q[i]):=by
 simp[jD,h1,h2,h3]
theorem T9(js:List J)(ms:List Ms)(p q:List Int)(l:js.length<=9223372036854775807)(o:ms.length<=9223372036854775807)(hp:p.length<=9223372036854775807)(hq:q.length<=9223372036854775807):gz 113 (eS js ms) (zs p) (zs q) (Z (eV js ms p q)):=by
 cases c:r7 js ms p q with
 |false=>
  have s:eV js ms p q=0:=by simp[eV,c]
  rw[s];refine Dp func113 λC hP hN=>?_;by_cases d:p.length=js.length
  .by_cases e:q.length=js.length
   .have a:((p.length:Int)!=js.length)=false:=by simp[d]
    have b:((q.length:Int)!=js.length)=false:=by simp[e]
    have x:q.length=p.length:=by omega
    have v:(bE cL p&&bE cL q&&decide (aR js ms=0))=false:=by simpa[r7,d,e]using c
    with_reducible repeat' (first|refine Sp.h ?_|((first|refine Wd ?_|refine Ss.h ?_|refine Sc.h (tO _ hp) ?_|refine Sc.h (tO _ hq) ?_|refine Sc.h (Df js ms l o) ?_|(refine Sb.h ?_ ?_ ?_<;>(try intro hgd)<;>try exact Xy))<;>simp -implicitDefEqProofs (maxSteps:=2000000) [hP,hN,d,e,x,a,b]<;>try refine Ya ?_)|refine X2 ?_ ?_|(refine Xd ?_ ?_<;>intro hcd<;>try exact Xx))
    all_goals simp_all
   .have b:((q.length:Int)!=js.length)=true:=by simp;omega
    with_reducible repeat' (first|refine Sp.h ?_|((first|refine Wd ?_|refine Ss.h ?_|refine Sc.h (tO _ hp) ?_|refine Sc.h (tO _ hq) ?_|refine Sc.h (Df js ms l o) ?_|(refine Sb.h ?_ ?_ ?_<;>(try intro hgd)<;>try exact Xy))<;>simp -implicitDefEqProofs (maxSteps:=2000000) [hP,hN,d,e,b]<;>try refine Ya ?_)|refine X2 ?_ ?_|(refine Xd ?_ ?_<;>intro hcd<;>try exact Xx))
  .have a:((p.length:Int)!=js.length)=true:=by simp;omega
   with_reducible repeat' (first|refine Sp.h ?_|((first|refine Wd ?_|refine Ss.h ?_|refine Sc.h (tO _ hp) ?_|refine Sc.h (tO _ hq) ?_|refine Sc.h (Df js ms l o) ?_|(refine Sb.h ?_ ?_ ?_<;>(try intro hgd)<;>try exact Xy))<;>simp -implicitDefEqProofs (maxSteps:=2000000) [hP,hN,d,a]<;>try refine Ya ?_)|refine X2 ?_ ?_|(refine Xd ?_ ?_<;>intro hcd<;>try exact Xx))
 |true=>
  have s:eV js ms p q=jD js p q js.length:=by simp[eV,c]
  rw[s];simp only[r7,up,Is]at c;obtain⟨⟨⟨⟨d,e⟩,s1⟩,s2⟩,hc⟩:=c
  have a:((p.length:Int)!=js.length)=false:=by simp[d]
  have b:((q.length:Int)!=js.length)=false:=by simp[e]
  refine Dp func113 λC hP hN=>?_
  with_reducible repeat' (first|refine Sp.h ?_|((first|refine Wd ?_|refine Ss.h ?_|refine Sc.h (tO _ hp) ?_|refine Sc.h (tO _ hq) ?_|refine Sc.h (Df js ms l o) ?_|(refine Sb.h ?_ ?_ ?_<;>(try intro hgd)<;>try exact Xy))<;>simp -implicitDefEqProofs (maxSteps:=2000000) [hP,hN,d,e,a,b,s1,s2,hc]<;>try refine Ya ?_)|refine X2 ?_ ?_|(refine Xd ?_ ?_<;>intro hcd<;>try exact Xx))
  refine WP.loopN [10] js.length (λi st=>st.t 1=.pv (zs p)/\st.t 2=.pv (zs q)/\st.t 40=.pv (.sl (js.map aQ))/\st.t 41=.pv (Z js.length)/\st.t 42=.pv (Z i)/\st.t 8=.pv (Z (jD js p q i))/\st.h 10=none) (by simp[jD]) ?_;rintro i st hi ⟨g1,g2,g,j,k,u,hb⟩;by_cases f:i<js.length
  .have z:=ae f l
   have m:i<p.length:=by omega
   have n:i<q.length:=by omega
   have y:=Bb f m n
   with_reducible repeat' (first|refine Sp.h ?_|((first|refine Wd ?_|refine Ss.h ?_|(refine Sb.h ?_ ?_ ?_<;>(try intro hgd)<;>try exact Xy))<;>simp -implicitDefEqProofs (maxSteps:=2000000) [hP,hN,g1,g2,g,j,k,u,hb,f,m,n,z]<;>try refine Ya ?_)|refine X2 ?_ ?_|(refine Xd ?_ ?_<;>intro hcd<;>try exact Xx))
   all_goals simp[y,vk]
  .have r:i=js.length:=by omega
   subst r
   with_reducible repeat' (first|refine Sp.h ?_|((first|refine Wd ?_|refine Ss.h ?_|(refine Sb.h ?_ ?_ ?_<;>(try intro hgd)<;>try exact Xy))<;>simp -implicitDefEqProofs (maxSteps:=2000000) [hP,hN,g1,g2,g,j,k,u,hb]<;>try refine Ya ?_)|refine X2 ?_ ?_|(refine Xd ?_ ?_<;>intro hcd<;>try exact Xx))
theorem SZ(js:List J)(ms:List Ms)(p q:List Int)(g:js.length<=9223372036854775807)(k:ms.length<=9223372036854775807)(hp:p.length<=9223372036854775807)(hq:q.length<=9223372036854775807):gz 96 (eS js ms) (zs p) (zs q) (Z (eV js ms p q)):=by
 cases c:r7 js ms p q with
 |false=>
  have s:eV js ms p q=0:=by simp[eV,c]
  rw[s];by_cases hc:aR js ms=0
  .have a:(aR js ms !=0)=false:=by simp[hc]
   refine Dp func96 λC hP hN=>?_
   cases s1:bE cL p with
   |false=>
    with_reducible repeat' (first|refine Sp.h ?_|((first|refine Wd ?_|refine Ss.h ?_|refine Sc.h (oc _ hp) ?_|refine Sc.h (oc _ hq) ?_|refine Sc.h (rZ js ms g k) ?_|(refine Sb.h ?_ ?_ ?_<;>(try intro hgd)<;>try exact Xy))<;>simp -implicitDefEqProofs (maxSteps:=2000000) [hP,hN,a,hc,s1]<;>try refine Ya ?_)|refine X2 ?_ ?_|(refine Xd ?_ ?_<;>intro hcd<;>try exact Xx))
   |true=>
    cases s2:bE cL q with
    |false=>
     with_reducible repeat' (first|refine Sp.h ?_|((first|refine Wd ?_|refine Ss.h ?_|refine Sc.h (oc _ hp) ?_|refine Sc.h (oc _ hq) ?_|refine Sc.h (rZ js ms g k) ?_|(refine Sb.h ?_ ?_ ?_<;>(try intro hgd)<;>try exact Xy))<;>simp -implicitDefEqProofs (maxSteps:=2000000) [hP,hN,a,hc,s1,s2]<;>try refine Ya ?_)|refine X2 ?_ ?_|(refine Xd ?_ ?_<;>intro hcd<;>try exact Xx))
    |true=>
     by_cases d:p.length=js.length
     .have n:¬q.length=js.length:=λe=>by simp[r7,d,e,s1,s2,hc]at c
      have b:((p.length:Int)!=js.length)=false:=by simp[d]
      have f:((q.length:Int)!=p.length)=true:=by simp;omega
      have x:((q.length:Int)!=js.length)=true:=by simp;omega
      with_reducible repeat' (first|refine Sp.h ?_|((first|refine Wd ?_|refine Ss.h ?_|refine Sc.h (oc _ hp) ?_|refine Sc.h (oc _ hq) ?_|refine Sc.h (rZ js ms g k) ?_|(refine Sb.h ?_ ?_ ?_<;>(try intro hgd)<;>try exact Xy))<;>simp -implicitDefEqProofs (maxSteps:=2000000) [hP,hN,a,hc,s1,s2,d,b,f,x]<;>try refine Ya ?_)|refine X2 ?_ ?_|(refine Xd ?_ ?_<;>intro hcd<;>try exact Xx))
     .have b:((p.length:Int)!=js.length)=true:=by simp;omega
      with_reducible repeat' (first|refine Sp.h ?_|((first|refine Wd ?_|refine Ss.h ?_|refine Sc.h (oc _ hp) ?_|refine Sc.h (oc _ hq) ?_|refine Sc.h (rZ js ms g k) ?_|(refine Sb.h ?_ ?_ ?_<;>(try intro hgd)<;>try exact Xy))<;>simp -implicitDefEqProofs (maxSteps:=2000000) [hP,hN,a,hc,s1,s2,b]<;>try refine Ya ?_)|refine X2 ?_ ?_|(refine Xd ?_ ?_<;>intro hcd<;>try exact Xx))
  .have a:(aR js ms !=0)=true:=by simp[hc]
   refine Dp func96 λC hP hN=>?_
   with_reducible repeat' (first|refine Sp.h ?_|((first|refine Wd ?_|refine Ss.h ?_|refine Sc.h (oc _ hp) ?_|refine Sc.h (oc _ hq) ?_|refine Sc.h (rZ js ms g k) ?_|(refine Sb.h ?_ ?_ ?_<;>(try intro hgd)<;>try exact Xy))<;>simp -implicitDefEqProofs (maxSteps:=2000000) [hP,hN,a]<;>try refine Ya ?_)|refine X2 ?_ ?_|(refine Xd ?_ ?_<;>intro hcd<;>try exact Xx))
 |true=>
  have s:eV js ms p q=jD js p q js.length:=by simp[eV,c]
  rw[s];simp only[r7,up,Is]at c;obtain⟨⟨⟨⟨d,n⟩,s1⟩,s2⟩,hc⟩:=c
  have b:((p.length:Int)!=js.length)=false:=by simp[d]
  have f:((q.length:Int)!=p.length)=false:=by simp[d,n]
  refine Dp func96 λC hP hN=>?_
  with_reducible repeat' (first|refine Sp.h ?_|((first|refine Wd ?_|refine Ss.h ?_|refine Sc.h (oc _ hp) ?_|refine Sc.h (oc _ hq) ?_|refine Sc.h (rZ js ms g k) ?_|(refine Sb.h ?_ ?_ ?_<;>(try intro hgd)<;>try exact Xy))<;>simp -implicitDefEqProofs (maxSteps:=2000000) [hP,hN,d,n,b,f,s1,s2,hc]<;>try refine Ya ?_)|refine X2 ?_ ?_|(refine Xd ?_ ?_<;>intro hcd<;>try exact Xx))
  refine WP.loopN [] js.length (λi st=>st.t 1=.pv (zs p)/\st.t 2=.pv (zs q)/\st.t 3=.ptr 3 0/\st.h 3=some (.box [.pv (.sl (js.map aQ)),.pv (.sl (ms.map bb))] true false)/\st.t 8=.pv (Z i)/\st.t 7=.pv (Z (jD js p q i))) (by simp[jD]) ?_;rintro i st hi ⟨g1,g2,g3,hb,v,u⟩;by_cases j:i<js.length
  .have z:=ae j g
   have l:i<p.length:=by omega
   have m:i<q.length:=by omega
   have y:=Bb j l m
   with_reducible repeat' (first|refine Sp.h ?_|((first|refine Wd ?_|refine Ss.h ?_|(refine Sb.h ?_ ?_ ?_<;>(try intro hgd)<;>try exact Xy))<;>simp -implicitDefEqProofs (maxSteps:=2000000) [hP,hN,g1,g2,g3,hb,v,u,j,l,m,z]<;>try refine Ya ?_)|refine X2 ?_ ?_|(refine Xd ?_ ?_<;>intro hcd<;>try exact Xx))
   all_goals simp[y,vk,Int.max_comm]
  .have o:i=js.length:=by omega
   subst o
   have r:¬js.length<p.length:=by omega
   with_reducible repeat' (first|refine Sp.h ?_|((first|refine Wd ?_|refine Ss.h ?_|(refine Sb.h ?_ ?_ ?_<;>(try intro hgd)<;>try exact Xy))<;>simp -implicitDefEqProofs (maxSteps:=2000000) [hP,hN,g1,g2,g3,hb,v,u,d,r]<;>try refine Ya ?_)|refine X2 ?_ ?_|(refine Xd ?_ ?_<;>intro hcd<;>try exact Xx))
def uq(a b:Int):Int:=if a.tmod b<0 then wr (wr (a.tdiv b)-1)else wr (a.tdiv b)
def yw(a b:Int):Int:=if 0<a.tmod b then wr (wr (a.tdiv b)+1)else wr (a.tdiv b)
theorem W7(a b:Int)(hb:b≠0):aH 83 (Z a) (Z b) (Z (uq a b)):=by
 refine Dp func83 λC hP hN=>?_
 with_reducible repeat' (first|refine Sp.h ?_|((first|refine Ss.h ?_|(refine Sb.h ?_ ?_ ?_<;>(try intro hgd)<;>try exact Xy))<;>simp -implicitDefEqProofs (maxSteps:=2000000) [hP,hN,hb])|refine X2 ?_ ?_|(refine Xd ?_ ?_<;>intro hcd<;>try exact Xx))
 all_goals (first|(simp_all[uq];done)|((try simp_all[uq])<;>(try omega)<;>grind))
theorem W8(a b:Int)(hb:b≠0):aH 84 (Z a) (Z b) (Z (yw a b)):=by
 refine Dp func84 λC hP hN=>?_
 with_reducible repeat' (first|refine Sp.h ?_|((first|refine Ss.h ?_|(refine Sb.h ?_ ?_ ?_<;>(try intro hgd)<;>try exact Xy))<;>simp -implicitDefEqProofs (maxSteps:=2000000) [hP,hN,hb])|refine X2 ?_ ?_|(refine Xd ?_ ?_<;>intro hcd<;>try exact Xx))
 all_goals (first|(simp_all[yw];done)|((try simp_all[yw])<;>(try omega)<;>grind))
theorem Nr(xs ys:List Int)(d:Int)(a:xs.length<=9223372036854775807)(b:ys.length<=9223372036854775807):gz 82 (zs xs) (zs ys) (Z d) (B (i4 xs ys d)):=by
 have e:i4 xs ys d=(bE cL xs&&bE cL ys&&decide (xs.length=ys.length)&&decide (0<=d)&&decide (d<=20)):=by
  unfold i4;cases bE cL xs<;>cases bE cL ys<;>cases decide (xs.length=ys.length)<;>rfl
 rw[e];refine Dp func82 λC hP hN=>?_
 with_reducible repeat' (first|refine Sp.h ?_|((first|refine Ss.h ?_|refine Sc.h (oc _ a) ?_|refine Sc.h (oc _ b) ?_|(refine Sb.h ?_ ?_ ?_<;>(try intro hgd)<;>try exact Xy))<;>simp -implicitDefEqProofs (maxSteps:=2000000) [hP,hN])|refine X2 ?_ ?_|(refine Xd ?_ ?_<;>intro hcd<;>try exact Xx))
 all_goals (first|(simp_all;done)|((try simp_all)<;>(try omega)<;>grind))
def kY(a d f t:Int):Int×Int:=
 let s:=wr (a*wr (t-f));let e:=wr (wr (a+1)*wr (t-f))
 (wr (f+uq (min s e) (2^d.toNat)),wr (f+yw (max s e) (2^d.toNat)))
def eX(xs ys:List Int)(d i:Int):List (Int×Int)×Bool:=if i4 xs ys d&&decide (0<=i)&&decide (i<2^d.toNat)then(List.zipWith (kY i d) xs ys,true)else([],false)
theorem W9(xs ys:List Int)(d i:Int)(q:xs.length<=16777216)(s:ys.length<=16777216):mD 43 (zs xs) (zs ys) (Z d) (Z i) (.tup [iv (eX xs ys d i).1,B (eX xs ys d i).2]):=by
 cases a:i4 xs ys d with
 |false=>
  refine Dp func43 λC hP hN=>?_
  with_reducible repeat' (first|refine Sp.h ?_|((first|refine Wd ?_|refine Ss.h ?_|refine Sc.h (Nr _ _ _ (s8 q) (s8 s)) ?_|(refine Sb.h ?_ ?_ ?_<;>(try intro hgd)<;>try exact Xy))<;>simp -implicitDefEqProofs (maxSteps:=2000000) [hP,hN,a]<;>try refine Ya ?_)|refine X2 ?_ ?_|(refine Xd ?_ ?_<;>intro hcd<;>try exact Xx))
  all_goals simp[eX,a]
 |true=>
  obtain⟨E,_,_,h0,hd⟩:=rU a
  have j:d<64:=by omega
  have u:IntKind.u64.wrap d=d:=by rw[IntKind.wrap_u64];omega
  have r:(2:Int)^d.toNat≠0:=by have:=Int.pow_pos (n:=(2:Int)) (m:=d.toNat) (by decide);omega
  by_cases hi:0<=i/\i<2^d.toNat
  .obtain⟨b,e⟩:=hi
   have hL:eX xs ys d i=(List.zipWith (kY i d) xs ys,true):=by simp[eX,a,b,e]
   rw[hL];refine Dp func43 λC hP hN=>?_
   with_reducible repeat' (first|refine Sp.h ?_|((first|refine Wh [11] ?_|refine Wi [11] ?_|refine Ss.h ?_|refine Sc.h (Nr _ _ _ (s8 q) (s8 s)) ?_|(refine Sb.h ?_ ?_ ?_<;>(try intro hgd)<;>try exact Xy))<;>simp -implicitDefEqProofs (maxSteps:=2000000) [hP,hN,a,h0,u,uo,yu j,A3 h0 hd,Int.not_lt.2 b,Int.not_le.2 e]<;>try refine Ya ?_)|refine X2 ?_ ?_|(refine Xd ?_ ?_<;>intro hcd<;>try exact Xx))
   refine WP.loopN [79] xs.length (λk st=>st.t 0=.pv (zs xs)/\st.t 1=.pv (zs ys)/\st.t 3=.pv (Z i)/\st.t 10=.pv (Z (2^d.toNat))/\st.t 12=.pv (Z k)/\st.t 11=.arr 11 k/\st.h 80=none/\st.h 11=some (.row 170 2 ((List.zipWith (λx y=>aK (kY i d x y)) xs ys).take k) 0)) (by simp) ?_;rintro k st F ⟨g0,g1,g3,l,p,o,hb,z⟩;by_cases c:k<xs.length
   .have D:=ae c (s8 q)
    have g:k<ys.length:=by omega
    have v:min k (min xs.length ys.length)=k:=by omega
    have A:=DS (f:=λx y=>aK (kY i d x y)) c g
    with_reducible repeat' (first|refine Sp.h ?_|((first|refine Wd ?_|refine Ss.h ?_|refine Sc.h (W7 _ _ r) ?_|refine Sc.h (W8 _ _ r) ?_|(refine Sb.h ?_ ?_ ?_<;>(try intro hgd)<;>try exact Xy))<;>simp -implicitDefEqProofs (maxSteps:=2000000) [hP,hN,g0,g1,g3,l,p,o,hb,z,c,g,D,v,show(k+1)*16<=140737488355328 by omega,show k<=9223372036854775806 by omega]<;>try refine Ya ?_)|refine X2 ?_ ?_|(refine Xd ?_ ?_<;>intro hcd<;>try exact Xx))
    all_goals (rw[<-A];simp[kY])
   .have v:min k (min xs.length ys.length)=k:=by omega
    with_reducible repeat' (first|refine Sp.h ?_|((first|refine Wd ?_|refine Ss.h ?_|(refine Sb.h ?_ ?_ ?_<;>(try intro hgd)<;>try exact Xy))<;>simp -implicitDefEqProofs (maxSteps:=2000000) [hP,hN,g0,g1,g3,l,p,o,hb,z,c,v]<;>try refine Ya ?_)|refine X2 ?_ ?_|(refine Xd ?_ ?_<;>intro hcd<;>try exact Xx))
    exact J0 (by simp;omega) c
  .have hL:eX xs ys d i=([],false):=by
    unfold eX;rw[YR];simp only[up,Is];omega
   rw[hL];by_cases b:i<0
   .skip
    refine Dp func43 λC hP hN=>?_
    with_reducible repeat' (first|refine Sp.h ?_|((first|refine Wd ?_|refine Ss.h ?_|refine Sc.h (Nr _ _ _ (s8 q) (s8 s)) ?_|(refine Sb.h ?_ ?_ ?_<;>(try intro hgd)<;>try exact Xy))<;>simp -implicitDefEqProofs (maxSteps:=2000000) [hP,hN,a,h0,u,uo,yu j,A3 h0 hd,b]<;>try refine Ya ?_)|refine X2 ?_ ?_|(refine Xd ?_ ?_<;>intro hcd<;>try exact Xx))
   .have e:2^d.toNat<=i:=by omega
    refine Dp func43 λC hP hN=>?_
    with_reducible repeat' (first|refine Sp.h ?_|((first|refine Wd ?_|refine Ss.h ?_|refine Sc.h (Nr _ _ _ (s8 q) (s8 s)) ?_|(refine Sb.h ?_ ?_ ?_<;>(try intro hgd)<;>try exact Xy))<;>simp -implicitDefEqProofs (maxSteps:=2000000) [hP,hN,a,h0,u,uo,yu j,A3 h0 hd,b,e]<;>try refine Ya ?_)|refine X2 ?_ ?_|(refine Xd ?_ ?_<;>intro hcd<;>try exact Xx))
theorem tc{b k:Int}(hb:0<b)(h1:k*b<=a)(h2:a<(k+1)*b):a/b=k:=by
 have:=(yAU hb).2 h1;have:=(yAV hb).2 h2;omega
theorem J4{b:Int}(hb:0<b)(h1:-4611686018427387904<=a)(h2:a<=4611686018427387904):uq a b=a/b:=by
 have hq:=yAY a b;have h3:-b<a.tmod b:=yAM a hb;have h4:a.tmod b<b:=yAu a hb;have c:=lF (a:=a) (N:=b) (B:=4611686018427387904) hb h1 h2;rw[Int.mul_comm]at hq;unfold uq;split
 .have e:a/b=a.tdiv b-1:=tc hb (by rw[Int.sub_mul];omega) (by rw[show a.tdiv b-1+1=a.tdiv b by omega];omega)
  rw[aa (n:=a.tdiv b) (by omega) (by omega),aa (by omega) (by omega),e]
 .have e:a/b=a.tdiv b:=tc hb (by omega) (by rw[Int.add_mul];omega)
  rw[aa (n:=a.tdiv b) (by omega) (by omega),e]
theorem Lu{b:Int}(hb:0<b)(h1:-4611686018427387904<=a)(h2:a<=4611686018427387904):yw a b=-(-a/b):=by
 have hq:=yAY a b;have h3:-b<a.tmod b:=yAM a hb;have h4:a.tmod b<b:=yAu a hb;have c:=lF (a:=-a) (N:=b) (B:=4611686018427387904) hb (by omega) (by omega);rw[Int.mul_comm]at hq;unfold yw;split
 .have e:-a/b=-a.tdiv b-1:=tc hb (by rw[Int.sub_mul,yA1];omega) (by rw[show -a.tdiv b-1+1=-a.tdiv b by omega,yA1];omega)
  rw[aa (n:=a.tdiv b) (by omega) (by omega),aa (by omega) (by omega),e];omega
 .have e:-a/b=-a.tdiv b:=tc hb (by rw[yA1];omega) (by rw[Int.add_mul,yA1];omega)
  rw[aa (n:=a.tdiv b) (by omega) (by omega),e];omega
theorem EZ{i f t:Int}(hi:0<=i)(c:i<=1048576)(hf:og f)(e:og t):kY i d f t=rV i d f t:=by
 rw[J3 hi c hf e];unfold og at hf e;have j:wr (t-f)=t-f:=aa;have g:wr (i+1)=i+1:=aa;have b1:=s9 (i:=i) (D:=t-f) (A:=1048577) (B:=4294967296) hi (by omega) (by omega) (by omega);have m:=s9 (i:=i+1) (D:=t-f) (A:=1048577) (B:=4294967296) (by omega) (by omega) (by omega) (by omega);have k:wr (i*(t-f))=i*(t-f):=aa;have l:wr ((i+1)*(t-f))=(i+1)*(t-f):=aa;simp only[kY,EX,j,g,k,l];generalize i*(t-f)=a at *;generalize(i+1)*(t-f)=b at *;have hN:(0:Int)<2^d.toNat:=vi _;rw[J4 hN (by omega) (by omega),Lu hN (by omega) (by omega)];have c1:=lF (a:=min a b) (N:=2^d.toNat) (B:=1048577*4294967296) hN (by omega) (by omega);have n:=lF (a:=-max a b) (N:=2^d.toNat) (B:=1048577*4294967296) hN (by omega) (by omega);rw[aa (by omega) (by omega),aa (by omega) (by omega)];refine Prod.ext rfl ?_;simp only;omega
theorem E0{xs:List Int}(h:bE cL xs=true):∀x∈xs,og x:=by
 rw[Ls]at h;intro x a;have:=h x a;simpa[cL,og]using this
theorem Dg{α β γ:Type}{f g:α->β->γ}:∀{xs:List α}{ys:List β},(∀a∈xs,∀b∈ys,f a b=g a b)->List.zipWith f xs ys=List.zipWith g xs ys
 |[],_,_=>rfl
 |_::_,[],_=>rfl
 |a::xs,b::ys,h=>by
  simp only[List.zipWith_cons_cons];rw[h a (by simp) b (by simp),Dg (λa ha b hb=>h a (by simp[ha]) b (by simp[hb]))]
theorem E1(xs ys:List Int)(d i:Int):eX xs ys d i=qj xs ys d i:=by
 unfold eX qj;split
 .rename_i h
  simp only[up,Is]at h;obtain⟨_,e,f,h0,hd⟩:=rU h.1.1;have hb:=zW hd;refine Prod.ext ?_ rfl;exact Dg (λa ha b c=>EZ h.1.2 (by omega) (E0 e a ha) (E0 f b c))
 .rfl
theorem TG(f:FuncId)(p:J->Int->Bool)(xs:List (J))(ys:List (Int))(l:xs.length<=9223372036854775807)(hf:∀a b,aS prog f [.pv (aQ a),.pv (Z b)] [] [] (.pv (B (p a b)))):gz 157 (.sl (xs.map aQ)) (.sl (ys.map Z)) (Fv f) (B (decide (xs.length=ys.length)&&jL p xs ys)):=by
 refine Dp func157 λC hP hN=>?_;by_cases k:xs.length=ys.length
 .skip
  refine Gz ?_;refine WP.loopN [8] xs.length (λi st=>st.t 0=.pv (.sl (xs.map aQ))/\st.t 1=.pv (.sl (ys.map Z))/\st.t 2=.pv (Fv f)/\st.t 14=.pv (.sl (xs.map aQ))/\st.t 15=.pv (Z xs.length)/\st.t 16=.pv (Z i)/\st.h 8=none/\qZ p xs ys i=true) (by simp[qZ,k]) ?_;rintro i st hi ⟨h0,h1,h2,e,g,j,hb,hq⟩;by_cases c:i<xs.length
  .have m:=ae c l
   have d:i<ys.length:=by omega
   have hF:p xs[i] ys[i]=false->jL p xs ys=false:=A4 c d;have hS:p xs[i] ys[i]=true->qZ p xs ys (i+1)=true:=Dc c d hq
   with_reducible repeat' (first|refine Sp.h ?_|((first|refine Wd ?_|refine Ss.h ?_|refine Sc.h (hf _ _) ?_|(refine Sb.h ?_ ?_ ?_<;>(try intro hgd)<;>try exact Xy))<;>simp -implicitDefEqProofs (maxSteps:=2000000) [hP,hN,h0,h1,h2,e,g,j,hb,c,d,m]<;>try refine Ya ?_)|refine X2 ?_ ?_|(refine Xd ?_ ?_<;>intro hcd<;>try exact Xx))
   all_goals first|exact hF (by simpa using hcd)|simpa using hS (by simpa using hcd)
  .skip
   refine Gz ?_
   all_goals simp[k,Dd c hq]
 .skip
  exact Gy
  all_goals simp[k]
def oX(j:J)(x:Int):Bool:=decide (j.lo<=x)&&decide (x<=j.hi)
theorem TH(j:J)(x:Int):aH 158 (aQ j) (Z x) (B (oX j x)):=by
 refine Dp func158 λC hP hN=>?_
 with_reducible repeat' (first|refine Sp.h ?_|((first|refine Ss.h ?_|(refine Sb.h ?_ ?_ ?_<;>(try intro hgd)<;>try exact Xy))<;>simp -implicitDefEqProofs (maxSteps:=2000000) [hP,hN])|refine X2 ?_ ?_|(refine Xd ?_ ?_<;>intro hcd<;>try exact Xx))
 all_goals (simp_all[oX]<;>omega)
def aX(js:List J)(ms:List Ms)(c:List Int):Bool:=decide (aR js ms=0)&&decide (js.length=c.length)&&jL oX js c
theorem Lk(js:List J)(ms:List Ms)(c:List Int)(b:js.length<=9223372036854775807)(e:ms.length<=9223372036854775807):aH 110 (eS js ms) (zs c) (B (aX js ms c)):=by
 have g:=TG 158 oX js c b TH;by_cases hc:aR js ms=0
 .have d:aX js ms c=(decide (js.length=c.length)&&jL oX js c):=by simp[aX,hc]
  rw[d];generalize(decide (js.length=c.length)&&jL oX js c)=u at *;refine Dp func110 λC hP hN=>?_;have f:=Df js ms b e;exact GS hc
 .have d:aX js ms c=false:=by simp[aX,hc]
  have a:(aR js ms==0)=false:=by simp[hc]
  rw[d];refine Dp func110 λC hP hN=>?_;have f:=Df js ms b e;exact GS (gA hc a)
theorem PK(js:List J)(ms:List Ms)(c:List Int)(m:js.length<=9223372036854775807)(o:ms.length<=9223372036854775807):aH 53 (eS js ms) (zs c) (B (aX js ms c)):=by
 by_cases hc:aR js ms=0
 .have d:(aR js ms !=0)=false:=by simp[hc]
  by_cases l:js.length=c.length
  .have e:((c.length:Int)!=js.length)=false:=by simp[l]
   have k:aX js ms c=jL oX js c:=by simp[aX,hc,l]
   rw[k];refine Dp func53 λC hP hN=>?_
   with_reducible repeat' (first|refine Sp.h ?_|((first|refine Wd ?_|refine Ss.h ?_|refine Sc.h (rZ js ms m o) ?_|(refine Sb.h ?_ ?_ ?_<;>(try intro hgd)<;>try exact Xy))<;>simp -implicitDefEqProofs (maxSteps:=2000000) [hP,hN,hc,d,e]<;>try refine Ya ?_)|refine X2 ?_ ?_|(refine Xd ?_ ?_<;>intro hcd<;>try exact Xx))
   refine WP.loopN [] js.length (λi st=>st.t 1=.pv (zs c)/\st.t 2=.ptr 2 0/\st.h 2=some (.box [.pv (.sl (js.map aQ)),.pv (.sl (ms.map bb))] true false)/\st.t 5=.pv (Z i)/\qZ oX js c i=true) (by simp[qZ,l]) ?_;rintro i st hi ⟨g1,g2,hb,g5,hq⟩;by_cases b:i<js.length
   .have p:=ae b m
    have a:i<c.length:=by omega
    have hF:oX js[i] c[i]=false->jL oX js c=false:=A4 b a;have hS:oX js[i] c[i]=true->qZ oX js c (i+1)=true:=Dc b a hq
    cases g:oX js[i] c[i]with
    |true=>
     have f:¬c[i]<js[i].lo/\¬js[i].hi<c[i]:=by simp[oX]at g;omega
     with_reducible repeat' (first|refine Sp.h ?_|((first|refine Wd ?_|refine Ss.h ?_|(refine Sb.h ?_ ?_ ?_<;>(try intro hgd)<;>try exact Xy))<;>simp -implicitDefEqProofs (maxSteps:=2000000) [hP,hN,g1,g2,hb,g5,b,a,p,f.1,f.2]<;>try refine Ya ?_)|refine X2 ?_ ?_|(refine Xd ?_ ?_<;>intro hcd<;>try exact Xx))
     all_goals simpa using hS g
    |false=>
     have f:c[i]<js[i].lo\/js[i].hi<c[i]:=by simp[oX]at g;omega
     by_cases j:c[i]<js[i].lo
     .skip
      with_reducible repeat' (first|refine Sp.h ?_|((first|refine Wd ?_|refine Ss.h ?_|(refine Sb.h ?_ ?_ ?_<;>(try intro hgd)<;>try exact Xy))<;>simp -implicitDefEqProofs (maxSteps:=2000000) [hP,hN,g1,g2,hb,g5,b,a,p,j]<;>try refine Ya ?_)|refine X2 ?_ ?_|(refine Xd ?_ ?_<;>intro hcd<;>try exact Xx))
      all_goals simp[hF g]
     .have n:js[i].hi<c[i]:=by omega
      with_reducible repeat' (first|refine Sp.h ?_|((first|refine Wd ?_|refine Ss.h ?_|(refine Sb.h ?_ ?_ ?_<;>(try intro hgd)<;>try exact Xy))<;>simp -implicitDefEqProofs (maxSteps:=2000000) [hP,hN,g1,g2,hb,g5,b,a,p,j,n]<;>try refine Ya ?_)|refine X2 ?_ ?_|(refine Xd ?_ ?_<;>intro hcd<;>try exact Xx))
      all_goals simp[hF g]
   .have a:¬i<c.length:=by omega
    with_reducible repeat' (first|refine Sp.h ?_|((first|refine Wd ?_|refine Ss.h ?_|(refine Sb.h ?_ ?_ ?_<;>(try intro hgd)<;>try exact Xy))<;>simp -implicitDefEqProofs (maxSteps:=2000000) [hP,hN,g1,g2,hb,g5,a]<;>try refine Ya ?_)|refine X2 ?_ ?_|(refine Xd ?_ ?_<;>intro hcd<;>try exact Xx))
    all_goals simp[Dd b hq]
  .have e:((c.length:Int)!=js.length)=true:=by simp;omega
   have k:aX js ms c=false:=by simp[aX,l]
   rw[k];refine Dp func53 λC hP hN=>?_
   with_reducible repeat' (first|refine Sp.h ?_|((first|refine Wd ?_|refine Ss.h ?_|refine Sc.h (rZ js ms m o) ?_|(refine Sb.h ?_ ?_ ?_<;>(try intro hgd)<;>try exact Xy))<;>simp -implicitDefEqProofs (maxSteps:=2000000) [hP,hN,hc,d,e]<;>try refine Ya ?_)|refine X2 ?_ ?_|(refine Xd ?_ ?_<;>intro hcd<;>try exact Xx))
 .have k:aX js ms c=false:=by simp[aX,hc]
  have d:(aR js ms !=0)=true:=by simp[hc]
  rw[k];refine Dp func53 λC hP hN=>?_
  with_reducible repeat' (first|refine Sp.h ?_|((first|refine Wd ?_|refine Ss.h ?_|refine Sc.h (rZ js ms m o) ?_|(refine Sb.h ?_ ?_ ?_<;>(try intro hgd)<;>try exact Xy))<;>simp -implicitDefEqProofs (maxSteps:=2000000) [hP,hN,hc,d]<;>try refine Ya ?_)|refine X2 ?_ ?_|(refine Xd ?_ ?_<;>intro hcd<;>try exact Xx))
theorem Iz{ms:List Ms}(h:aR js ms=0):0<js.length/\js.length<=10:=by
 unfold aR at h;split at h
 all_goals omega
theorem K0{a b:List Int}(h:a.length=b.length)(hi:¬i<a.length)(hq:∀k,k<i->a[k]?=b[k]?):a=b:=by
 apply Zx;intro k;by_cases c:k<i
 .exact hq k c
 .rw[Y2 (by omega),Y2 (by omega)]
theorem Ym(a b:List Int)(ha:a.length<=9223372036854775807)(hb:b.length<=9223372036854775807):aH 95 (zs a) (zs b) (B (decide (a=b))):=by
 by_cases j:a.length=b.length
 case neg=>
  have hf:decide (a=b)=false:=ZU λe=>j (by rw[e])
  have f:((a.length:Int)!=b.length)=true:=by simp;omega
  rw[hf];refine Dp func95 λC hP hN=>?_;exact Gy
 have f:((a.length:Int)!=b.length)=false:=by simp;omega
 refine Dp func95 λC hP hN=>?_;refine Gz ?_;refine WP.loopN [] a.length (λi st=>st.t 0=.pv (zs a)/\st.t 1=.pv (zs b)/\st.t 5=.pv (Z i)/\∀k,k<i->a[k]?=b[k]?) (by simp) ?_;rintro i st hi ⟨g0,g1,g5,hq⟩;by_cases c:i<a.length
 .have q:=ae c ha
  have d:i<b.length:=by omega
  have m:a[i]?=some a[i]:=an c;have n:b[i]?=some b[i]:=an d;by_cases e:a[i]=b[i]
  .have g:∀k,k<i+1->a[k]?=b[k]?:=λk p=>by
    by_cases h:k=i
    .subst h;rw[m,n,e]
    .exact hq k (by omega)
   have l:(a[i]!=b[i])=false:=by simp[e]
   refine Gz ?_
   all_goals exact g
  .have hf:decide (a=b)=false:=ZU λh=>e (by subst h;rfl)
   have l:(a[i]!=b[i])=true:=by simp[e]
   rw[hf];exact Gy
 .have o:=K0 j c hq
  exact Gy
def K1(P:List (List Int))(q:List Int):Int:=mW (λx=>decide (x=q)) P
theorem Yn(P:List (List Int))(q:List Int)(b:P.length<=9223372036854775807)(g:∀x∈P,x.length<=9223372036854775807)(hq:q.length<=9223372036854775807):aH 54 (.sl (P.map zs)) (zs q) (Z (K1 P q)):=by
 have f:=λ(x:List Int)(h:x∈P)=>Ym x q (g x h) hq;refine Dp func54 λC hP hN=>?_;refine Gz ?_;refine WP.loopN [] P.length (λi st=>st.t 0=.pv (.sl (P.map zs))/\st.t 1=.pv (zs q)/\st.t 5=.pv (Z i)/\∀j x,j<i->P[j]?=some x->(λx=>decide (x=q)) x=false) (by simp) ?_;rintro i st hi ⟨g0,g1,g5,hq⟩;by_cases a:i<P.length
 .have k:=ae a b
  have l:P[i]?=some P[i]:=an a;have c1:=f _ (Zd a)
  cases hc:decide (P[i]=q)with
  |true=>
   have d:K1 P q=(i:Int):=lE a hq hc;rw[hc]at c1;rw[d];generalize e:P[i]=x at *;exact Gy
  |false=>
   have c:=kX (p:=λx=>decide (x=q)) a hq hc;rw[hc]at c1;generalize e:P[i]=x at *;refine Gz ?_
   all_goals exact λj x h1 h2=>by simpa using c j x h1 h2
 .have d:K1 P q=-1:=qi (rT a hq)
  rw[d];exact Gy
def Av(x y:Int):Int:=if x<y then -1 else if y<x then 1 else 0
theorem WC(x:Int):aT 160 (Z x) (B false):=by
 refine Dp func160 λC hP hN=>?_;exact Gy
 all_goals (first|(simp_all;done)|((try simp_all)<;>(try omega)<;>grind))
theorem RC(x y:Int):aH 117 (Z x) (Z y) (Z (Av x y)):=by
 have c:=WC;unfold Av;by_cases h1:x<y
 .rw[YY h1]
  refine Dp func117 λC hP hN=>?_;have a:=@c;exact GS h1
 .rw[YR h1]
  by_cases h2:y<x
  .rw[YY h2]
   refine Dp func117 λC hP hN=>?_;have a:=@c;exact GS (gA h1 h2)
  .rw[YR h2]
   refine Dp func117 λC hP hN=>?_;have a:=@c;exact GS (gA h1 h2)
def NW(a b:Int):Int:=if a≠0 then a else b
theorem Yo(a b:Int):aT 116 (zs [a,b]) (Z (NW a b)):=by
 unfold NW;by_cases h1:a=0
 .subst h1
  rw[YR (by simp)];refine Dp func116 λC hP hN=>?_;refine Gz ?_;refine WP.loopN [] 2 (λi st=>st.t 3=.pv (Z 0)/\st.t 6=.pv (zs [0,b])/\st.t 7=.pv (Z 2)/\st.t 8=.pv (Z i)/\(2<=i->b=0)) (by simp) ?_;rintro i st hi ⟨g3,c,d,e,hb⟩
  have:i=0\/i=1\/i=2:=by omega
  rcases this with rfl|rfl|rfl
  .skip
   exact GS (it g3 c d e @zp)
  .by_cases h2:b=0
   .subst h2
    exact GS (so g3 c d e @zp @A9)
   .have g:(b !=0)=true:=by simp[h2]
    exact Gy
  .have h2:=hb (by omega)
   subst h2;exact Gy
 .rw[YY h1]
  have f:(a !=0)=true:=by simp[h1]
  refine Dp func116 λC hP hN=>?_;refine Gz ?_;refine WP.loopN [] 2 (λi st=>st.t 3=.pv (Z 0)/\st.t 6=.pv (zs [a,b])/\st.t 7=.pv (Z 2)/\st.t 8=.pv (Z i)/\i=0) (by simp) ?_;rintro i st hi ⟨g3,c,d,e,rfl⟩;exact Gy
def CU(a b:aG):Int:=NW (Av a.u b.u) (Av a.v b.v)
theorem Yp(a b:aG):aH 68 (jy a) (jy b) (Z (CU a b)):=by
 have c1:=RC a.u b.u;have c:=RC a.v b.v;have d:=Yo (Av a.u b.u) (Av a.v b.v);unfold CU;refine Dp func68 λC hP hN=>?_;exact GS trivial
theorem Pm(a b:aG):(0<=CU a b)=¬(a.u<b.u\/(a.u=b.u/\a.v<b.v)):=by
 unfold CU NW Av;apply propext
 repeat' split
 all_goals simp_all
 all_goals omega
def pP(n:Nat)(e:aG):Bool:=gp n e.u&&gp n e.v
theorem WD(m:eU)(e:aG)(hn:m.np.length<=9223372036854775807):aH 112 (bp m) (jy e) (B (pP m.np.length e)):=by
 refine Dp func112 λC hP hN=>?_
 with_reducible repeat' (first|refine Sp.h ?_|((first|refine Ss.h ?_|(refine Sb.h ?_ ?_ ?_<;>(try intro hgd)<;>try exact Xy))<;>simp -implicitDefEqProofs (maxSteps:=2000000) [hP,hN])|refine X2 ?_ ?_|(refine Xd ?_ ?_<;>intro hcd<;>try exact Xx))
 all_goals (simp_all[pP,gp]<;>(intros;omega))
theorem Yq(m:eU)(e:aG)(hn:m.np.length<=9223372036854775807):aH 57 (bp m) (jy e) (B (pP m.np.length e)):=by
 refine Dp func57 λC hP hN=>?_
 with_reducible repeat' (first|refine Sp.h ?_|((first|refine Ss.h ?_|(refine Sb.h ?_ ?_ ?_<;>(try intro hgd)<;>try exact Xy))<;>simp -implicitDefEqProofs (maxSteps:=2000000) [hP,hN])|refine X2 ?_ ?_|(refine Xd ?_ ?_<;>intro hcd<;>try exact Xx))
 all_goals (simp_all[pP,gp]<;>(intros;omega))
def Gn(s:Int):Int:=if s=1 then 1 else if s=2 then 2 else 0
theorem WE(s:Int):aT 114 (Z s) (Z (Gn s)):=by
 unfold Gn;by_cases h1:s=1
 .rw[YY h1]
  subst h1;refine Dp func114 λC hP hN=>?_;exact Gy
 .rw[YR h1]
  have a:(s==1)=false:=by simp[h1]
  by_cases h2:s=2
  .rw[YY h2]
   subst h2;refine Dp func114 λC hP hN=>?_;exact Gy
  .rw[YR h2]
   have b:(s==2)=false:=by simp[h2]
   refine Dp func114 λC hP hN=>?_;exact Gy
abbrev SJ(r:R8):PV:=.agg [Z r.k1,.sl r.k2,Z r.k3,Z r.k4,.sl r.k5,Z r.k6,.sl r.k7,.sl r.k8]
def BP(r:R8):Bool:=decide (r.k1=0)&&decide (r.k2.length=0)&&decide (r.k3=0)&&decide (r.k4=0)&&decide (r.k5.length=0)&&decide (r.k6=0)&&decide (r.k7.length=0)&&decide (r.k8.length=0)
theorem WF(r:R8):aT 115 (SJ r) (B (BP r)):=by
 obtain⟨k1,k2,k3,k4,k5,k6,k7,k8⟩:=r;unfold BP;simp only;refine Dp func115 λC hP hN=>?_
 with_reducible repeat' (first|refine Sp.h ?_|((first|refine Wd ?_|refine Ss.h ?_|(refine Sb.h ?_ ?_ ?_<;>(try intro hgd)<;>try exact Xy))<;>simp -implicitDefEqProofs (maxSteps:=2000000) [hP,hN]<;>try refine Ya ?_)|refine X2 ?_ ?_|(refine Xd ?_ ?_<;>intro hcd<;>try exact Xx))
 all_goals (first|(simp_all;done)|(simp_all;cases k8<;>simp;done)|(simp_all;cases k8<;>simp<;>omega))
section
variable {C:Cx} {Q:Exit->St->Prop} {st:St}
theorem N9{L:Nat->Loc}{w:World}(e:MemL C L h w){cs vc:List AV}{own:Bool}(d:h k=some (.box cs own false)){news:List Value}(m:aC w (ab C L h) L h vc news)(p:vc.length<=cs.length)(a:∀x∈news,x.oneCell'=true):
 ∃w',(storeCells ⟨(L k).b,0,none⟩ news).run C.P w=.ok () w'/\aF C L h w L (av h k (some (.box (bo cs 0 vc) own false))) w':=by
 obtain⟨arr,i,j,l⟩:=e.bl k _ d;have r:news.length=vc.length:=m.1.symm
 have q:arr.size=cs.length:=by have:=l.1;simp at this;omega
 have g:=run_storeCells_at C.P (L k).b 0 i news 0 arr w j (by omega) a;refine⟨_,g,?_⟩
 have f:arr.toList.take (0+0)++news++arr.toList.drop (0+0+news.length)=bo arr.toList 0 news:=by simp[bo]
 rw[f];have n:∀b,b<w.heap.size->((Blk.box cs own false).live (L k)->b≠(L k).b)->(w.setRow (L k).b (bo arr.toList 0 news).toArray).heap[b]?=w.heap[b]?:=λb _ hb=>setRow_other w _ b _ (hb trivial);have c:=e.touch_pk (blk':=.box (bo cs 0 vc) own false) d n (λo v _ hf _=>by cases hf) (λo hf=>by cases hf) rfl Z8;refine e.touch d n (by simp) rfl rfl rfl (λo v _ hf _=>by cases hf) (λo hf=>by cases hf) rfl Z8 (by have h9:=e.own k _ d;cases own<;>exact h9) ?_;exact⟨_,i,setRow_heap w _ arr _ i _ j,by simpa using(l.splice_ m 0).mono c.1 c.2⟩
theorem WP.copyArr{r s g:Oper}{t t1 t2:TypeId}{x y:Operand}{d1 d2 d3:Nat}(h1:r.op=.slice t x none none none)(f1:r.dst=some d1)(g1:r.guard=none)(h2:s.op=.move y)(f2:s.dst=some d2)(g2:s.guard=none)
 (h3:g.op=.call {callee:=.builtin .copy,args:=#[.tmp d1,.tmp d2],argTypes:=#[t1,t2]})(f3:g.dst=some d3)(g3:g.guard=none)(ak:y≠.tmp d1)(hd:d1≠d2)
 (hq:∃k z own d n el j,st.ev x=.ptr k 0/\st.h k=some (.box z own false)/\st.ev y=.pv (.sl d)/\d≠[]/\(∀y∈d,y.cells=[y]/\jp y=true)/\d.length<=n/\z.length=n/\C.P.underlying t=some (.array n el)/\C.P.underlying t1=some (.slice el)/\C.P.info? el=some j/\j.size=1/\d1<C.N/\d2<C.N/\d3<C.N/\
   Q .normal ⟨λq=>if q=d1\/q=d2\/q=d3 then .undef else st.t q,av st.h k (some (.box (d.map .pv++z.drop d.length) own false))⟩):WP C (.region id #[r,s,g] false) Q st:=by
 intro a w hs;obtain⟨k,z,own,d,n,el,j,ah,hk,ar,V,H,a6,b4,hu,Z,T,l,n1,n2,n3,hQ⟩:=hq;obtain⟨L,hm,hN,S,Y⟩:=hs;refine wp_region_list ?_;show wpList C.P #[r,s,g] _ [r,s,g] a w;have m:=bB Y x;rw[ah]at m
 have aj:a.eval x=.pointer (some ⟨(L k).b,0,none⟩):=by
  generalize a.eval x=u at m;cases m;rfl
 have a7:=bB Y y
 have E:d.all (rH 1)=true:=by
  rw[L4];intro y hy;obtain⟨c1,c2⟩:=H y hy;unfold rH;rw[c1,ZR,List.all_cons,c2];rfl
 obtain⟨A,c,a8,b3,hA⟩:=tL hm (λ_ _ h=>h) a7 (by rw[ar];rfl) E;have F:0<d.length:=List.length_pos_iff.2 V;obtain⟨b,o,rfl,news,R,e2,e3,e4⟩:=hA F;rw[yAr]at R;refine wpList_step (λK B=>?_);rw[eI g1,YY rfl]
 have I:(execOp a.eval r).run C.P w=.ok (.value (.slice (some ⟨(L k).b,0,none⟩) n n)) w:=by
  unfold execOp;rw[h1]
  have b5:C.P.cellsOf el=1:=by simp[Program.cellsOf,T,l]
  have U:¬n=0:=by omega
  simp[Instr.sliceAt,run_underlying hu,aj,Instr.sureAddr,Instr.sliceBounds,sizeOf,typeInfo,program,Sem.run,T,l,U,fo]
 unfold Oper.wp;rw[I];refine B _ _ ?_;refine wpList_step (λK B=>?_);rw[eI g2,YY rfl]
 have J:∀(ρ:Operand->Value),(execOp ρ s).run C.P w=.ok (.value (ρ y)) w:=λρ=>by
  unfold execOp;rw[h2];rfl
 unfold Oper.wp;rw[J];refine B _ _ ?_;refine wpList_step (λK B=>?_);rw[eI g3,YY rfl];rw[f1,f2]
 have gy:((a.put (some d1) (.slice (some ⟨(L k).b,0,none⟩) n n))).eval y=.slice (some ⟨b,o,none⟩) d.length c:=by
  rw[<-a8]
  cases y with
  |tmp q=>
   show(a.put (some d1) _).tmps.getD q undef=a.tmps.getD q undef;rw[gZ (by omega),YR (λe=>ak (by rw[e]))]
  |_=>rfl
 rw[gy]
 have bq:((a.put (some d1) (.slice (some ⟨(L k).b,0,none⟩) n n)).put (some d2) (.slice (some ⟨b,o,none⟩) d.length c)).eval (.tmp d1)=.slice (some ⟨(L k).b,0,none⟩) n n:=by
  show(Act.put _ _ _).tmps.getD d1 undef=_;rw[gZ (by simp[Act.put];omega),YR hd,gZ (by omega),YY rfl]
 have b2:((a.put (some d1) (.slice (some ⟨(L k).b,0,none⟩) n n)).put (some d2) (.slice (some ⟨b,o,none⟩) d.length c)).eval (.tmp d2)=.slice (some ⟨b,o,none⟩) d.length c:=by
  show(Act.put _ _ _).tmps.getD d2 undef=_;rw[gZ (by simp[Act.put];omega),YY rfl]
 obtain⟨w',X,f⟩:=N9 hm hk (vc:=d.map .pv) (news:=news) ⟨by simp[R],λi p u hp ad=>by
  simp only[YS,II]at hp;obtain⟨y9,G,rfl⟩:=hp;obtain⟨v,O,hr⟩:=e4 i y9 0 y9 G (by rw[(H y9 (An G)).1];rfl);rw[yAr,yAP,ad]at O;injection O with O;subst O
  exact .pv hr⟩ (by simp;omega) e3
 have hf:(Builtin.firstCells 1 d.length (.slice (some ⟨b,o,none⟩) d.length c)).run C.P w=.ok news.toArray w:=by
  have:=run_loadCells_list (P:=C.P) w ⟨b,o,none⟩ news (λq v hq=>by rw[fo];exact e2 q v hq);rw[R]at this;simpa[Builtin.firstCells]using this
 have M:(execOp ((a.put (some d1) (.slice (some ⟨(L k).b,0,none⟩) n n)).put (some d2) (.slice (some ⟨b,o,none⟩) d.length c)).eval g).run C.P w=.ok (.value (goInt d.length)) w':=by
  have D:Nat.min d.length n=d.length:=Nat.min_eq_left a6
  have:(Builtin.copy_ #[t1,t2] g.type #[.slice (some ⟨(L k).b,0,none⟩) n n,.slice (some ⟨b,o,none⟩) d.length c]).run C.P w=.ok (goInt d.length) w':=by
   simp only[Builtin.copy_,Z7,Z4,yAN,Sem.run_bind,run_underlying Z,Result.andThen_ok,Builtin.lenOf,Sem.run_pure,sizeOf,typeInfo,program,Sem.run,T,l,D,hf,X]
  generalize((a.put (some d1) (.slice (some ⟨(L k).b,0,none⟩) n n)).put (some d2) (.slice (some ⟨b,o,none⟩) d.length c)).eval=ρ at *;unfold execOp;rw[h3];simp[resolve,invoke,bq,b2,builtin,this]
 unfold Oper.wp;rw[M];refine B _ _ ?_;rw[f3];refine⟨_,?_,hQ⟩
 have W:bo z 0 (d.map AV.pv)=d.map .pv++z.drop d.length:=by simp[bo]
 rw[W]at f;refine⟨L,f.1,by simp[Act.put,hN],S,λq=>?_⟩;show RepA w' _ L _ (if q=d1\/q=d2\/q=d3 then .undef else st.t q) _;split
 .exact .undef _
 .rename_i hq
  rw[gZ (by simp[Act.put];omega),YR (λe=>hq (.inr (.inr e))),gZ (by simp[Act.put];omega),YR (λe=>hq (.inr (.inl e))),gZ (by omega),YR (λe=>hq (.inl e))];exact(Y q).mono f.2.1 f.2.2
end
def lx(ren:Nat->Nat):AV->AV
 |.ptr k a=>.ptr (ren k) a
 |.arr k n=>.arr (ren k) n
 |x=>x
def BS(ren:Nat->Nat):AV->AV
 |.agg a=>.agg (a.map (lx ren))
 |x=>lx ren x
def mQ(K:List Nat):AV->Bool
 |.pv _=>true
 |.ptr k _=>K.contains k
 |.arr k _=>K.contains k
 |_=>false
def GR(K:List Nat):AV->Bool
 |.agg a=>a.all (mQ K)
 |x=>mQ K x
def bk:List (Nat×Blk)->Hp
 |[]=>λ_=>none
 |(k,b)::r=>λq=>if q=k then some b else bk r q
def im(ren:Nat->Nat)(own:Bool):Blk->Blk
 |.box a _ _=>.box (a.map (lx ren)) own false
 |b=>b
def jF(K:List Nat)(k:Nat):Blk->Bool
 |.box b own a=>b.all (mQ K)&& !own&& !a&&decide (1000000<=k)&&decide (k<2000000)
 |.row _ _ _ a=>decide (a=0)&&decide (2000000<=k)
 |.mp _ _ _ _=>false
def uK:Blk->Blk->Bool
 |.box _ _ _,.box _ _ _=>true
 |.row e d xs _,.row c a b _=>e==c&&d==a&&xs.length==b.length
 |_,_=>false
theorem ey(h:bk G k=some b):(k,b)∈G:=by
 induction G with
 |nil=>cases h
 |cons x r ih=>
  grind [bk,List.mem_cons_self,List.mem_cons_of_mem]
theorem kL(hn:(G.map (·.1)).Nodup)(h:(k,b)∈G):bk G k=some b:=by
 induction G with
 |nil=>cases h
 |cons x r ih=>
  grind [bk,List.nodup_cons]
section
variable {w:World} {M M':Nat->Nat->Prop} {L L':Nat->Loc} {h h':Hp} {ren:Nat->Nat} {K:List Nat}
theorem sR(i:∀b o,M' b o->M b o)(f:∀k∈K,∀blk,h (ren k)=some blk->∃a,h' k=some a/\dg blk (L (ren k)) a (L' k))(c:mQ K x=true)(d:RepA w M L h (lx ren x) u):RepA w M' L' h' x u:=by
 cases x with
 |pv p=>cases d with
  |pv j=>exact .pv (j.mono (Pres.sub i))
 |ptr k l=>
  cases d with
  |ptr hb=>
   obtain⟨a,h1,h2⟩:=f k (by simpa[mQ]using c) _ hb
   cases a with
   |row=>exact h2.elim
   |mp=>exact h2.elim
   |box r own g=>
    have h2:(L' k).b=(L (ren k)).b:=h2;rw[<-h2];exact .ptr h1
 |arr k n=>
  cases d with
  |arr hb hn s=>
   obtain⟨a,h1,h2⟩:=f k (by simpa[mQ]using c) _ hb
   cases a with
   |box=>exact h2.elim
   |mp=>exact h2.elim
   |row e v xs g=>
    obtain⟨_,_,m,q⟩:=h2;refine .arr h1 (by omega) (λe=>?_)
    grind
 |_=>cases c
theorem K7(c:∀b o,M' b o->M b o)(d:∀k∈K,∀blk,h (ren k)=some blk->∃a,h' k=some a/\dg blk (L (ren k)) a (L' k))(e:GR K x=true)(f:RepA w M L h (BS ren x) u):RepA w M' L' h' x u:=by
 cases x with
 |agg g=>
  cases f with
  |agg _ n l j=>
   refine .agg g n (by simpa using l) (λi p u hp m=>?_);exact sR c d (L4.1 e p (An hp)) (j i _ u (by simp[hp]) m)
 |_=>exact sR c d e f
theorem H8(i:∀b o,M' b o->M b o)(f:∀k∈K,∀blk,h' k=some blk->∃a,h (ren k)=some a/\dg blk (L' k) a (L (ren k)))(c:mQ K x=true)(d:RepA w M L' h' x u):RepA w M' L h (lx ren x) u:=by
 cases x with
 |pv p=>cases d with
  |pv j=>exact .pv (j.mono (Pres.sub i))
 |ptr k l=>
  cases d with
  |ptr hb=>
   obtain⟨a,h1,h2⟩:=f k (by simpa[mQ]using c) _ hb
   cases a with
   |row=>exact h2.elim
   |mp=>exact h2.elim
   |box r own g=>
    have h2:(L (ren k)).b=(L' k).b:=h2;rw[<-h2];exact .ptr h1
 |arr k n=>
  cases d with
  |arr hb hn s=>
   obtain⟨a,h1,h2⟩:=f k (by simpa[mQ]using c) _ hb
   cases a with
   |box=>exact h2.elim
   |mp=>exact h2.elim
   |row e v xs g=>
    obtain⟨_,_,m,q⟩:=h2;refine .arr h1 (by omega) (λe=>?_)
    grind
 |_=>cases c
end
def DU(G:List (Nat×Blk))(L:Nat->Loc)(b:Nat):Prop:=∃k blk,bk G k=some blk/\blk.live (L k)/\b=(L k).b
structure OkG(G G':List (Nat×Blk)):Prop where
 keys:G'.map (·.1)=G.map (·.1)
 nodup:(G.map (·.1)).Nodup
 okin:∀k b,(k,b)∈G->jF (G.map (·.1)) k b=true
 okout:∀k b,(k,b)∈G'->jF (G.map (·.1)) k b=true
 same:∀k b b',bk G k=some b->bk G' k=some b'->uK b b'=true
def H9(P:Program)(f:FuncId)(args:List AV)(G c:List (Nat×Blk))(res:PV):Prop:=
 bR P f=true/\OkG G c/\∀(w:World)(M:Nat->Nat->Prop)(L:Nat->Loc)(d:List Value),(∀b o,M b o->b<w.heap.size)->
  (∀k blk,bk G k=some blk->blk.live (L k)->∀o,M (L k).b o)->
  (∀k k' blk a,k≠k'->bk G k=some blk->bk G k'=some a->blk.live (L k)->a.live (L k')->(L k).b≠(L k').b)->
  (∀k blk,bk G k=some blk->dh w M L (bk G) (L k) blk)->aC w M L (bk G) args d->
  Calls P f d.toArray w λe w'=>∃v,e=.returned v/\Ext (DU G L) w w'/\(∀k blk,bk c k=some blk->dh w' M L (bk c) (L k) blk)/\Rep w' M res v
def M9(args:List AV)(G:List (Nat×Blk)):St:=⟨λn=>(args[n]?).getD .undef,bk G⟩
def D8(P:Program)(rs:List ResultVar)(b:List (Nat×Blk))(res:PV)(st:St):Prop:=
 uf res=true/\(∃r,mf P st rs=some r/\∃W,frz st.h r=some (res,W))/\∀a∈b,st.h a.1=some a.2
def K8(P:Program)(rs:List ResultVar)(a:List (Nat×Blk))(res:PV):Exit->St->Prop
 |.normal,st=>D8 P rs a res st
 |.ret,st=>D8 P rs a res st
 |_,_=>False
@[simp] theorem RE:K8 P rs G' res .normal st=D8 P rs G' res st:=rfl
@[simp] theorem To:K8 P rs G' res .ret st=D8 P rs G' res st:=rfl
theorem GW{f:FuncId}{fn:Func}(hf:P.funcs[f]?=some fn)(hb:fn.body=some c)(X:bR P f=true)(cj:args.length<=fn.ntmps)(l:OkG G G')
 (h:∀C:Cx,C.P=P->C.N=fn.ntmps->WP C c (K8 P fn.results.toList G' res) (M9 args G)):H9 P f args G G' res:=by
 refine⟨X,l,λw M L T hM b7 Q aj bq=>?_⟩;have okin:∀{k blk},bk G k=some blk->jF (G.map (·.1)) k blk=true:=λa=>l.okin _ _ (ey a);have okout:∀{k blk},bk G' k=some blk->jF (G.map (·.1)) k blk=true:=λa=>l.okout _ _ (ey a)
 have ar:(G'.map (·.1)).Nodup:=by rw[l.keys];exact l.nodup
 have A:∀{k blk},bk G k=some blk->∃d,bk G' k=some d:=by
  intro k blk a
  have D:k∈G'.map (·.1):=by rw[l.keys];exact Zg.2 ⟨_,ey a,rfl⟩
  obtain⟨⟨k',b'⟩,h1,h2⟩:=Zg.1 D;simp only at h2;subst h2;exact⟨b',kL ar h1⟩
 have b3:∀{k blk},bk G' k=some blk->∃d,bk G k=some d:=by
  intro k blk a
  have D:k∈G.map (·.1):=by rw[<-l.keys];exact Zg.2 ⟨_,ey a,rfl⟩
  obtain⟨⟨k',b'⟩,h1,h2⟩:=Zg.1 D;simp only at h2;subst h2;exact⟨b',kL l.nodup h1⟩
 let F:Nat->Prop:=λb=>∃k e H xs z,bk G k=some (.row e H xs z)/\(L k).isNil=false/\b=(L k).b
 let C:Cx:={P:=P,N:=fn.ntmps,M0:=λb o=>M b o/\¬F b,S:=DU G L,pb:=λk=>some (L k).b,pr:=λk=>if 2000000<=k then some (L k)else none,hpr:=(λk a=>by rw[YR (by omega)]),w0:=w}
 have ah:∀b o,ab C L (bk G) b o↔M b o:=by
  intro b o;constructor
  .rintro(h0|⟨k,blk,a,hl,cm,_⟩)
   all_goals grind
  .intro D
   by_cases Z:F b
   .obtain⟨k,e,H,xs,z,a,hn,rfl⟩:=Z
    refine .inr ⟨k,_,a,hn,rfl,?_⟩;have:=okin a;simp only[jF,up,Is]at this
    grind [Blk.frz]
   .exact .inl ⟨D,Z⟩
 have J:ab C L (bk G)=M:=by funext b o;exact propext (ah b o)
 have cg:=bq.1
 have a8:dH C (M9 args G) {tmps:=T.toArray++Array.replicate (fn.ntmps-T.toArray.size) undef,defers:=[]} w:=by
  refine⟨L,⟨Ext.refl _ _,λb o h0=>hM b o h0.1,?_,Q,?_⟩,by show(T.toArray++Array.replicate (fn.ntmps-T.toArray.size) undef).size=fn.ntmps;simp;omega,jI.nil _,λn=>?_⟩
  .intro k blk a
   show dh w (ab C L (bk G)) L (bk G) (L k) blk;rw[J];exact aj k blk a
  .intro k blk a
   have s:=okin a
   cases blk with
   |mp=>cases s
   |box cs own z=>
    simp only[jF,up,Zv,Is]at s;obtain⟨⟨⟨⟨_,h1⟩,h2⟩,h3⟩,h4⟩:=s;subst h1;subst h2;refine⟨rfl,rfl,⟨k,_,a,trivial,rfl⟩,?_,λo=>⟨b7 k _ a trivial o,?_⟩⟩
    .exact(aj k _ a).lt trivial
    .rintro⟨k',e,H,xs,z,m,ca,he⟩
     by_cases e':k=k'
     .subst e';rw[show bk G k=_ from a]at m;cases m
     .exact Q k k' _ _ e' a m trivial ca he
   |row e H xs z=>
    simp only[jF,up,Is]at s;show dy C k (L k) _;have hpr:C.pr k=some (L k):=YY s.2;unfold dy;simp only;rw[hpr];exact⟨rfl,λhn=>⟨⟨k,_,a,hn,rfl⟩,λo h9=>h9.2 ⟨k,e,H,xs,z,a,hn,rfl⟩⟩⟩
  .show RepA w (ab C L (bk G)) L (bk G) ((args[n]?).getD .undef) _
   rw[J]
   cases hp:args[n]? with
   |none=>exact .undef _
   |some p=>
    have Y:n<T.length:=by rw[<-cg];exact(th.1 hp).1
    have ak:(T.toArray++Array.replicate (fn.ntmps-T.toArray.size) undef).getD n undef=T[n]:=by
     rw[YZ,Zu (by simpa using Y)];simp[Y]
    simp only[ak];exact bq.2 n p _ hp (an Y)
 refine calls_of_wp_defers hf hb (wp_mono (h C rfl rfl _ w a8) ?_)
 have O:∀(U:Act) w' g,dH C g U w'->D8 P fn.results.toList G' res g->jI P U.defers/\∃v,(results fn U.tmps).run P w'=.ok v w'/\
  ∃v',Ending.returned v=.returned v'/\Ext (DU G L) w w'/\(∀k blk,bk G' k=some blk->dh w' M L (bk G') (L k) blk)/\Rep w' M res v':=by
  rintro U w' g ⟨L',D,hN,b5,ht⟩ ⟨b8,⟨r,Z,W,hW⟩,cc⟩;obtain⟨u,cd,cf⟩:=nR (C:=C) D ht Z;have y:∀{k blk},bk G' k=some blk->g.h k=some blk:=λa=>cc _ (ey a)
  have I:∀{k e H xs z},bk G' k=some (.row e H xs z)->L' k=L k:=by
   intro k e H xs z a;have s:=okout a;simp only[jF,up,Is]at s;have B:=D.own k _ (y a);have hpr:C.pr k=some (L k):=YY s.2;simp only[dy,hpr]at B;exact B.1
  have ad:∀{k cs own z},bk G' k=some (.box cs own z)->(L' k).b=(L k).b:=by
   intro k cs own z a;have s:=okout a;simp only[jF,up,Zv,Is]at s;obtain⟨⟨⟨⟨_,h1⟩,h2⟩,h3⟩,h4⟩:=s;subst h1;subst h2;have B:=(D.own k _ (y a)).2.1;injection B with B;exact B.symm
  have R:∀b o,M b o->ab C L' g.h b o:=by
   intro b o b9;by_cases a6:F b
   .obtain⟨k,e,H,xs,z,a,hn,rfl⟩:=a6
    obtain⟨d,m⟩:=A a;have hs:=l.same k _ _ a m
    cases d with
    |box=>cases hs
    |mp=>cases hs
    |row e' cn cp ck=>
     have s:=okout m;simp only[jF,up,Is]at s;refine .inr ⟨k,_,y m,?_,?_,?_⟩
     .show(L' k).isNil=false;rw[I m];exact hn
     .rw[I m]
     .rw[s.1];simp[Blk.frz]
   .exact .inl ⟨b9,a6⟩
  obtain⟨b1,b2,_⟩:=m9 D (bH.refl _) cf hW;refine⟨b5,u,cd,u,rfl,D.ext,?_,?_⟩
  .intro k blk a
   have V:=D.bl k blk (y a)
   cases blk with
   |mp=>cases okout a
   |row e H xs z=>
    rw[I a]at V;obtain⟨g1,g2,g3,g4,g5⟩:=V;refine⟨g1,g2,g3,g4,λhn=>?_⟩;obtain⟨a1,a2,arr,a3,a4,a5⟩:=g5 hn;exact⟨a1,a2,arr,a3,a4,λi x j p hx hj=>by obtain⟨u,hu,Z⟩:=a5 i x j p hx hj;exact⟨u,hu,Z.mono (Pres.sub R)⟩⟩
   |box cs own z=>
    obtain⟨arr,ty,e1,e2⟩:=V;rw[ad a]at e1;refine⟨arr,ty,e1,e2.1,λi p u hp hu=>?_⟩;have s:=okout a;simp only[jF,up]at s;have cb:=L4.1 s.1.1.1.1 p (An hp);have hx:=e2.2 i p u hp hu
    have e0:lx id p=p:=by cases p<;>rfl
    have ch:RepA w' (ab C L' g.h) L' g.h (lx id p) u:=by rw[e0];exact hx
    refine sR (ren:=id) (K:=G.map (·.1)) (M':=M) (L':=L) (h':=bk G') R (λq hq blk hb=>?_) cb ch
    .obtain⟨⟨q',b'⟩,h1,h2⟩:=Zg.1 hq
     simp only at h2;subst h2;obtain⟨d,E⟩:=A (kL l.nodup h1);refine⟨d,E,?_⟩;have h9:=y E;have b4:g.h q'=some blk:=hb;rw[b4]at h9;injection h9 with h9;subst h9
     cases blk with
     |mp=>cases okout E
     |box=>exact(ad E).symm
     |row=>exact⟨rfl,rfl,Y0 _,λ_=>(I E).symm⟩
  .exact tM b8 b2
 rintro e U w' ⟨g,a7,hq⟩
 cases e with
 |normal=>obtain⟨h1,v,h2,h3⟩:=O U w' g a7 hq;exact iH h1 h2 h3
 |ret=>obtain⟨h1,v,h2,h3⟩:=O U w' g a7 hq;exact iH h1 h2 h3
 |exit=>exact hq.elim
 |goto=>exact hq.elim
 |panic=>exact hq.elim
 |outgrown=>exact hq.elim
def mH(h:Hp)(q:Nat):Bool:=match h q with
 |some (.box _ own _)=>own
 |_=>false
def ig(ren:Nat->Nat)(h:Hp)(b:List (Nat×Blk)):List (Nat×Blk):=b.map λa=>(ren a.1,im ren (mH h (ren a.1)) a.2)
theorem Ay{ren:Nat->Nat}{g:Nat×Blk->Blk}:∀(l:List (Nat×Blk))(h:Hp),(l.map λx=>ren x.1).Nodup->∀x∈l,ag h (l.map λx=>(ren x.1,g x)) (ren x.1)=some (g x)
 |[],_,_,x,a=>by cases a
 |y::l,h,hn,x,a=>by
  rw[Z0,yA3]at hn;rw[Z0];show ag (av h (ren y.1) (some (g y))) (l.map λx=>(ren x.1,g x)) (ren x.1)=_;rcases Zi.1 a with rfl|a
  .rw[kU,aE]
   intro d b;obtain⟨z,c,rfl⟩:=Zg.1 b;intro e;exact hn.1 (Zg.2 ⟨z,c,e⟩)
  .exact Ay l _ hn.2 x a
theorem pZ{ren:Nat->Nat}{own:Bool}:(im ren own b).live l↔b.live l:=by cases b<;>exact Z8
theorem zJ{ren:Nat->Nat}{own:Bool}{K:List Nat}{o:Nat}(h:jF K k b=true):¬(im ren own b).frz o:=by
 cases b with
 |mp=>cases h
 |box d a c=>simp[im,Blk.frz]
 |row e f xs c=>
  simp_all[jF,up,im,Blk.frz]
structure Share(h:Hp)(ren:Nat->Nat)(G G':List (Nat×Blk)):Prop where
 ok:OkG G G'
 inj:(G.map λx=>ren x.1).Nodup
 have_:∀kb∈G,h (ren kb.1)=some (im ren (mH h (ren kb.1)) kb.2)
section
variable {C:Cx} {L:Nat->Loc} {h:Hp} {w:World} {ren:Nat->Nat} {G G':List (Nat×Blk)}
theorem Share.ren_inj(hs:Share h ren G G')(g:bk G k=some b)(a:bk G k'=some b')(e:ren k=ren k'):k=k':=by
 obtain⟨i,hi⟩:=Z6.1 (ey g);obtain⟨j,f⟩:=Z6.1 (ey a)
 have h1:(G.map λx=>ren x.1)[i]?=some (ren k):=by simp[hi]
 have h2:(G.map λx=>ren x.1)[j]?=some (ren k'):=by simp[f]
 obtain⟨l,c⟩:=th.1 h1;obtain⟨m,d⟩:=th.1 h2;have:i=j:=(List.getElem_inj hs.inj).1 (c.trans (e.trans d.symm))
 grind
theorem Share.inout(hs:Share h ren G G')(b:bk G k=some blk):∃a,bk G' k=some a:=by
 have c:k∈G'.map (·.1):=by rw[hs.ok.keys];exact Zg.2 ⟨_,ey b,rfl⟩
 obtain⟨⟨k',b'⟩,h1,h2⟩:=Zg.1 c;simp only at h2;subst h2;exact⟨b',kL (by rw[hs.ok.keys];exact hs.ok.nodup) h1⟩
theorem Share.outin(hs:Share h ren G G')(b:bk G' k=some blk):∃a,bk G k=some a:=by
 have c:k∈G.map (·.1):=by rw[<-hs.ok.keys];exact Zg.2 ⟨_,ey b,rfl⟩
 obtain⟨⟨k',b'⟩,h1,h2⟩:=Zg.1 c;simp only at h2;subst h2;exact⟨b',kL hs.ok.nodup h1⟩
theorem Share.at_(hs:Share h ren G G')(a:bk G k=some blk):h (ren k)=some (im ren (mH h (ren k)) blk):=hs.have_ _ (ey a)
theorem Share.new(hs:Share h ren G G')(b:bk G' k=some blk):ag h (ig ren h G') (ren k)=some (im ren (mH h (ren k)) blk):=by
 have hn:(G'.map λx=>ren x.1).Nodup:=by
  have e:(G'.map λx=>ren x.1)=(G.map λx=>ren x.1):=by
   have:=yAj (List.map ren) hs.ok.keys;simpa[List.map_map,Function.comp_def]using this
  rw[e];exact hs.inj
 exact Ay (g:=λa=>im ren (mH h (ren a.1)) a.2) G' h hn (k,blk) (ey b)
theorem Share.other(hs:Share h ren G G')(hq:∀k blk,bk G k=some blk->q≠ren k):ag h (ig ren h G') q=h q:=by
 refine kU ?_;intro g a e;obtain⟨⟨k,b⟩,f,rfl⟩:=Zg.1 a;obtain⟨c,d⟩:=hs.outin (kL (by rw[hs.ok.keys];exact hs.ok.nodup) f)
 grind
theorem Share.cases(hs:Share h ren G G')(hq:ag h (ig ren h G') q=some b):
 (∃k blk a,bk G k=some blk/\bk G' k=some a/\q=ren k/\b=im ren (mH h (ren k)) a)\/((∀k blk,bk G k=some blk->q≠ren k)/\h q=some b):=by
 by_cases hc:∃k blk,bk G k=some blk/\q=ren k
 .obtain⟨k,blk,c,rfl⟩:=hc
  obtain⟨a,d⟩:=hs.inout c;rw[hs.new d]at hq;injection hq with hq
  grind
 .have f:∀k blk,bk G k=some blk->q≠ren k:=λk blk c e=>hc ⟨k,blk,c,e⟩
  rw[hs.other f]at hq
  grind
theorem D9{ren:Nat->Nat}{own:Bool}(h:uK b b'=true):dg (im ren own b) l (im ren own b') l:=by
 cases b<;>cases b'<;>first|(cases h;done)|skip
 .exact rfl
 .simp only[uK,up,ZH]at h
  exact⟨h.1.1.symm,h.1.2.symm,Nat.le_of_eq h.2,λ_=>rfl⟩
theorem Share.okin(hs:Share h ren G G')(a:bk G k=some b):jF (G.map (·.1)) k b=true:=hs.ok.okin _ _ (ey a)
theorem Share.okout(hs:Share h ren G G')(a:bk G' k=some b):jF (G.map (·.1)) k b=true:=hs.ok.okout _ _ (ey a)
theorem Share.view(hs:Share h ren G G')(l:MemL C L h w)(c:bk G k=some blk):dh w (ab C L h) (λk=>L (ren k)) (bk G) (L (ren k)) blk:=by
 have hb:=l.bl _ _ (hs.at_ c)
 cases blk with
 |mp=>cases hs.okin c
 |row e v xs j=>exact hb
 |box r own j=>
  obtain⟨arr,n,g,d⟩:=hb;have f:=hs.okin c;simp only[jF,up]at f;refine⟨arr,n,g,by simpa using d.1,λi p u hp m=>?_⟩;refine sR (ren:=ren) (K:=G.map (·.1)) (λb o h=>h) (λq hq b hb=>?_) (L4.1 f.1.1.1.1 p (An hp)) (d.2 i _ u (by simp[hp]) m);obtain⟨⟨s,b'⟩,h1,h2⟩:=Zg.1 hq;simp only at h2;subst h2;have a:=kL hs.ok.nodup h1;refine⟨b',a,?_⟩;rw[hs.at_ a]at hb;injection hb with hb;subst hb
  cases b' with
  |mp=>exact⟨rfl,rfl,rfl⟩
  |box=>exact rfl
  |row=>exact⟨rfl,rfl,Y0 _,λ_=>rfl⟩
theorem MemL.shareStep(s:MemL C L h w)(hs:Share h ren G G'){w':World}(O:Ext (DU G (λk=>L (ren k))) w w')
 (hb:∀k blk,bk G' k=some blk->dh w' (ab C L h) (λk=>L (ren k)) (bk G') (L (ren k)) blk):aF C L h w L (ag h (ig ren h G')) w':=by
 have v:∀b o,ab C L (ag h (ig ren h G')) b o->ab C L h b o:=by
  rintro b o (h0|⟨q,blk,hq,l,H,hf⟩)
  .exact .inl h0
  .rcases hs.cases hq with⟨k,b1,r,a,c,rfl,rfl⟩|⟨_,f⟩
   .refine .inr ⟨ren k,_,hs.at_ a,?_,H,zJ (hs.okin a)⟩
    have n:=hs.ok.same k _ _ a c
    cases b1<;>cases r<;>first|(cases n;done)|exact l
   .exact .inr ⟨q,blk,f,l,H,hf⟩
 have E:KC L h L (ag h (ig ren h G')):=by
  intro q blk hq;by_cases hc:∃k b,bk G k=some b/\q=ren k
  .obtain⟨k,b,a,rfl⟩:=hc
   obtain⟨b',c⟩:=hs.inout a;rw[hs.at_ a]at hq;injection hq with hq;subst hq;exact⟨_,hs.new c,D9 (hs.ok.same k _ _ a c)⟩
  .exact⟨blk,by rw[hs.other (λk b a e=>hc ⟨k,b,a,e⟩)];exact hq,bt _ _⟩
 have m:Pres w (ab C L h) w' (ab C L (ag h (ig ren h G'))):=by
  refine Pres.ext O (λb _ M o=>?_) λb o _ h9=>v b o h9;obtain⟨k,blk,a,l,rfl⟩:=M;exact .inr ⟨ren k,_,hs.at_ a,pZ.2 l,rfl,zJ (hs.okin a)⟩
 refine⟨⟨?_,s.m0,?_,?_,?_⟩,m,E⟩
 .refine s.ext.trans O (λb J F=>?_)
  obtain⟨k,blk,a,l,rfl⟩:=F;have ad:(L (ren k)).b<C.w0.heap.size:=J;have d:=s.own _ _ (hs.at_ a)
  cases blk with
  |mp=>cases hs.okin a
  |box Z own I=>
   cases g:mH h (ren k)with
   |false=>rw[g]at d;exact d.2.2.1
   |true=>
    rw[g]at d;rcases d with h9|h9
    .omega
    .exact h9.1
  |row e sz xs I=>
   rcases d.row l with h9|h9
   all_goals grind
 .intro q blk hq
  rcases hs.cases hq with⟨k,b1,r,a,c,rfl,rfl⟩|⟨A,f⟩
  .have D:=hb k r c
   cases r with
   |mp=>cases hs.okout c
   |row e sz xs I=>
    obtain⟨g1,g2,g3,g4,g5⟩:=D;refine⟨g1,g2,g3,g4,λhn=>?_⟩;obtain⟨a1,U,arr,V,W,X⟩:=g5 hn;exact⟨a1,U,arr,V,W,λi x j p P hj=>by obtain⟨u,N,hr⟩:=X i x j p P hj;exact⟨u,N,hr.mono (Pres.sub v)⟩⟩
   |box Z own I=>
    obtain⟨arr,ty,e1,Q⟩:=D;have R:=hs.okout c;simp only[jF,up]at R;refine⟨arr,ty,e1,by simpa using Q.1,λi p u hp N=>?_⟩;simp only[YS,II]at hp;obtain⟨y,S,rfl⟩:=hp;refine H8 (ren:=ren) (K:=G.map (·.1)) (L':=λk=>L (ren k)) (h':=bk G') v (λq hq b hb=>?_) (L4.1 R.1.1.1.1 y (An S)) (Q.2 i y u S N);refine⟨_,hs.new hb,?_⟩
    cases b with
    |mp=>exact⟨rfl,rfl,rfl⟩
    |box=>exact rfl
    |row=>exact⟨rfl,rfl,Y0 _,λ_=>rfl⟩
  .refine(s.bl q blk f).mono m E (λl=>O.block _ ((s.bl q blk f).lt l) ?_)
   rintro⟨k,b,a,z,e⟩;exact s.sep q (ren k) _ _ (A k b a) f (hs.at_ a) l (pZ.2 z) e
 .have B:∀q b,ag h (ig ren h G') q=some b->b.live (L q)->∃b0,h q=some b0/\b0.live (L q):=by
   intro q b hq l;rcases hs.cases hq with⟨k,b1,r,a,c,rfl,rfl⟩|⟨_,f⟩
   .refine⟨_,hs.at_ a,?_⟩
    have n:=hs.ok.same k _ _ a c
    cases b1<;>cases r<;>first|(cases n;done)|exact l
   grind
  intro q T b1 r A hq f l z;obtain⟨c1,d1,f1⟩:=B q b1 hq l;obtain⟨Y,d2,f2⟩:=B T r f z;exact s.sep q T c1 Y A d1 d2 f1 f2
 .intro q blk hq
  rcases hs.cases hq with⟨k,b1,r,a,c,rfl,rfl⟩|⟨_,f⟩
  .have d:=s.own _ _ (hs.at_ a)
   have n:=hs.ok.same k _ _ a c
   cases b1<;>cases r<;>first|(cases n;done)|skip
   .cases g:mH h (ren k)with
    |false=>rw[g]at d;exact d
    |true=>rw[g]at d;exact d
   .exact d
  .exact s.own q blk f
end
section
variable {C:Cx} {Q:Exit->St->Prop} {st:St}
def Az(C:Cx)(Q:St->Prop)(f:Operand)(xs:List Operand)(d:Option Nat)(st:St):Prop:=
 ∃g args G G' res ren,bA (st.ev f)=some (g,[],[])/\H9 C.P g args G G' res/\uf res=true/\xs.map st.ev=args.map (BS ren)/\args.all (GR (G.map (·.1)))=true/\(G.map λx=>ren x.1).Nodup/\
  (∀a∈G,st.h (ren a.1)=some (im ren (mH st.h (ren a.1)) a.2))/\dJ C.N d=true/\Q (st.put d (.pv res) (ig ren st.h G'))
theorem WP.share{xs:List Operand}(I:ops.toList=pre++o::post)(Z:o.op=.call {callee:=.value f,args:=xs.toArray,argTypes:=ats})(hg:o.guard=none)
 (hq:cw C.P hn C.N ops (Az C (cw C.P hn C.N ops (Q .normal) post) f xs o.dst) pre st):WP C (.region id ops false) Q st:=by
 intro a w hs;refine wp_region_list ?_;rw[I];refine fh (λB a1 w1 aj ad=>?_) hs hq;obtain⟨g,args,G,G',res,ren,O,⟨c,Y,hD⟩,W,j,H,D,s,R,hQ⟩:=ad;obtain⟨L,F,hN,S,ht⟩:=aj;have d:Share B.h ren G G':=⟨Y,D,s⟩;refine wpList_step (λK hK=>?_);rw[eI hg,YY rfl];obtain⟨vs,us,T,ar,a6⟩:=jH (bB ht f) O;have a7:=ar.nil_inv;have ak:=a6.nil_inv;subst a7;subst ak
 have z:xs.length=args.length:=by have:=yAj List.length j;simpa using this
 have A:aC w1 (ab C L B.h) (λk=>L (ren k)) (bk G) args (xs.map a1.eval):=by
  refine⟨by simp[z],λi p u hp hu=>?_⟩;simp only[YS,II]at hu;obtain⟨x,hx,rfl⟩:=hu;have he:=yAj (λl:List AV=>l[i]?) j;simp only[YS,hx,hp,ZD,YV]at he;have M:=bB ht x;rw[he]at M;refine K7 (K:=G.map (·.1)) (λb o h=>h) (λq hq b hb=>?_) (L4.1 H p (An hp)) M;obtain⟨⟨q',b'⟩,h1,h2⟩:=Zg.1 hq;simp only at h2;subst h2;have n:=kL d.ok.nodup h1;refine⟨b',n,?_⟩;rw[d.at_ n]at hb;injection hb with hb;subst hb
  cases b' with
  |mp=>exact⟨rfl,rfl,rfl⟩
  |box=>exact rfl
  |row=>exact⟨rfl,rfl,Y0 _,λ_=>rfl⟩
 have m:=hD w1 (ab C L B.h) (λk=>L (ren k)) (xs.map a1.eval) (λb o h=>F.mlt h)
  (λk blk y U o=>.inr ⟨ren k,_,d.at_ y,pZ.2 U,rfl,zJ (d.okin y)⟩)
  (λk k' b b' X y E U V=>F.sep (ren k) (ren k') _ _ (λe=>X (d.ren_inj y E e)) (d.at_ y) (d.at_ E) (pZ.2 U) (pZ.2 V))
  (λk blk y=>d.view F y) A
 have J:(execOp a1.eval o).run C.P w1=.ok (.enter g (xs.map a1.eval).toArray) w1:=by
  unfold bR at c
  cases r:C.P.funcs[g]? with
  |none=>rw[r]at c;cases c
  |some fn=>
   rw[r]at c;simp only[up,Zv,ZW,ne_eq]at c
   have hb:fn.body.isNone=false:=by cases bq:fn.body<;>simp_all
   unfold execOp;rw[Z];simp only[resolve,T,Deferred.ofValue,pure_bind,Sem.run_bind,Result.andThen_ok,invoke,callFunc,program,Sem.run,r];simp[c.2,hb]
 unfold Oper.wp;rw[J];simp only[Oper.upon];refine m.mono ?_;rintro ee w' ⟨v,rfl,hx,hb,M⟩;have hA:=F.shareStep d hx hb;refine hK _ _ ?_;exact fu (λa8 a' w' ah n=>⟨a8,ah,n⟩) (dH.put F hN S ht R hA (.pv (tM W M))) hQ
end
attribute [simp] BS lx GR mQ bk im jF uK ig mH
def inK(k:Nat):Bool:=decide (290<=k)&&decide (k<1000000)
def bT(K:Nat->Bool):AV->Bool
 |.pv _=>true
 |.ptr k _=>K k
 |.arr k _=>K k
 |.eptr k _ _ _=>K k
 |.ext x=>K x.key
 |.undef=>true
 |_=>false
def jG(K:Nat->Bool):AV->Bool
 |.agg a=>a.all (bT K)
 |x=>bT K x
def eK(K:Nat->Bool):AV->Bool
 |.agg b=>b.all (bT K)
 |.fn _ first a=>first.all (bT K)&&a.all (bT K)
 |.tup b=>b.all (jG K)
 |x=>bT K x
abbrev m7:AV->Bool:=eK inK
def gb:Blk->Bool
 |.box _ false _=>false
 |_=>true
def zK:Blk->Bool
 |.mp _ _ _ _=>false
 |_=>true
def t8(M:Nat->Nat->Prop)(L:Nat->Loc)(h:Hp)(b o:Nat):Prop:=M b o\/∃k blk,h k=some blk/\blk.live (L k)/\(L k).b=b/\¬blk.frz o
def iO(h:Hp)(L:Nat->Loc)(b:Nat):Prop:=∃k blk,h k=some blk/\blk.live (L k)/\b=(L k).b
def ed(h:Hp)(L:Nat->Loc)(b:Nat):Prop:=∃k blk,h k=some blk/\gb blk=true/\blk.live (L k)/\b=(L k).b
structure LookH(h:Hp):Prop where
 keys:∀k blk,h k=some blk->inK k=true
 nf:∀k blk o,h k=some blk->¬blk.frz o
 nm:∀k blk,h k=some blk->zK blk=true
 cl:∀k cs o f,h k=some (.box cs o f)->∀x∈cs,m7 x=true
structure TrIn(w:World)(M:Nat->Nat->Prop)(L:Nat->Loc)(h:Hp):Prop where
 bl:∀k blk,h k=some blk->dh w (t8 M L h) L h (L k) blk
 sep:∀k k' blk blk',k≠k'->h k=some blk->h k'=some blk'->blk.live (L k)->blk'.live (L k')->(L k).b≠(L k').b
 m1:∀k blk,h k=some blk->gb blk=true->blk.live (L k)->∀o,¬M (L k).b o
 m2:∀k cs f,h k=some (.box cs false f)->∀o,M (L k).b o
def mR(P:Program)(f:FuncId)(args:List AV)(a:Hp)(c:AV->Hp->Prop):Prop:=
 bR P f=true/\∀(w:World)(M:Nat->Nat->Prop)(L:Nat->Loc)(j:List Value),(∀b o,M b o->b<w.heap.size)->TrIn w M L a->aC w (t8 M L a) L a args j->
  Calls P f j.toArray w λe w'=>∃v r L' h',e=.returned v/\Ext (iO a L) w w'/\LookH h'/\TrIn w' M L' h'/\RepA w' (t8 M L' h') L' h' r v/\m7 r=true/\c r h'/\
   (∀k d f,a k=some (.box d false f)->∃g,h' k=some (.box g false false)/\(L' k).b=(L k).b)/\
   (∀k d f,h' k=some (.box d false f)->∃i f0,a k=some (.box i false f0))/\
   (∀k blk,h' k=some blk->gb blk=true->blk.live (L' k)->w.heap.size<=(L' k).b\/ed a L (L' k).b)
section
variable {w w':World} {M M':Nat->Nat->Prop} {L L':Nat->Loc} {h h':Hp}
theorem m8{K:Nat->Bool}(hp:Pres w M w' M')(v:∀k blk,K k=true->h k=some blk->∃a,h' k=some a/\dg blk (L k) a (L' k))(d:eK K x=true)(D:RepA w M L h x u):RepA w' M' L' h' x u:=by
 have one:∀{x:AV}{u:Value},bT K x=true->RepA w M L h x u->RepA w' M' L' h' x u:=by
  intro x u d D
  cases D with
  |pv C=>exact .pv (C.mono hp)
  |@ptr k O q own A hb=>
   obtain⟨a,h1,h2⟩:=v k _ d hb
   cases a with
   |row=>exact h2.elim
   |mp=>exact h2.elim
   |box H E j=>have h2:(L' k).b=(L k).b:=h2;rw[<-h2];exact .ptr h1
  |@arr k n e S A xs u hb hn g=>
   obtain⟨a,h1,h2⟩:=v k _ d hb
   cases a with
   |box=>exact h2.elim
   |mp=>exact h2.elim
   |row Q F m j=>
    obtain⟨_,G,R,z⟩:=h2;refine .arr h1 (by omega) (λe=>?_)
    have:m.length=xs.length:=by omega
    rw[z this];exact g (by omega)
  |@eptr k n i O e S A xs u hb hn g=>
   obtain⟨a,h1,h2⟩:=v k _ d hb
   cases a with
   |box=>exact h2.elim
   |mp=>exact h2.elim
   |row Q F m j=>
    obtain⟨_,G,R,z⟩:=h2;refine .eptr h1 (by omega) (λe=>?_)
    have:m.length=xs.length:=by omega
    rw[z this,G];exact g (by omega)
  |ext l=>
   cases l with
   |@barr k n c q own A hc hb=>
    obtain⟨a,h1,h2⟩:=v k _ d hb
    cases a with
    |row=>exact h2.elim
    |mp=>exact h2.elim
    |box H E j=>have h2:(L' k).b=(L k).b:=h2;rw[<-h2];exact .ext (.barr hc h1)
   |@mp k n U es A hb=>
    obtain⟨a,h1,h2⟩:=v k _ d hb
    cases a with
    |row=>exact h2.elim
    |box=>exact h2.elim
    |mp N V T j=>have h2:N=U/\V=n/\(L' k).b=(L k).b:=h2;rw[<-h2.2.2];exact .ext (.mp h1)
   |@suf k o n t e S A xs u J hb hn X g=>
    obtain⟨a,h1,h2⟩:=v k _ d hb
    cases a with
    |box=>exact h2.elim
    |mp=>exact h2.elim
    |row Q F m j=>
     obtain⟨_,G,R,z⟩:=h2;refine .ext (.suf J h1 hn (by omega) (λe=>?_))
     have:m.length=xs.length:=by omega
     rw[z this,G];exact g (by omega)
  |undef=>exact .undef _
  |agg=>cases d
  |fn=>cases d
  |tup=>cases d
 have all:∀{q:List AV}{p:AV}{i:Nat},q.all (bT K)=true->q[i]?=some p->bT K p=true:=λh hp=>L4.1 h _ (An hp)
 have P:∀{x:AV}{u:Value},jG K x=true->RepA w M L h x u->RepA w' M' L' h' x u:=by
  intro x u d D
  cases D with
  |agg q s r B=>exact .agg q s r λi p u hp g=>one (all d hp) (B i p u hp g)
  |pv C=>exact one d (.pv C)
  |ptr hb=>exact one d (.ptr hb)
  |arr hb hn g=>exact one d (.arr hb hn g)
  |eptr hb hn g=>exact one d (.eptr hb hn g)
  |ext l=>exact one d (.ext l)
  |undef=>exact .undef _
  |fn=>cases d
  |tup=>cases d
 cases D with
 |agg q s r B=>exact .agg q s r λi p u hp g=>one (all d hp) (B i p u hp g)
 |fn f first y s W r I h1 h2=>
  simp only[eK,up]at d
  exact .fn f first y s W r I (λi p u hp g=>one (all d.1 hp) (h1 i p u hp g)) (λi p u hp g=>one (all d.2 hp) (h2 i p u hp g))
 |tup q s r B=>exact .tup q s r λi p u hp g=>P (L4.1 d _ (An hp)) (B i p u hp g)
 |pv C=>exact one d (.pv C)
 |ptr hb=>exact one d (.ptr hb)
 |arr hb hn g=>exact one d (.arr hb hn g)
 |eptr hb hn g=>exact one d (.eptr hb hn g)
 |ext l=>exact one d (.ext l)
 |undef=>exact .undef _
theorem dh.inK(hp:Pres w M w' M')(v:∀k blk,Go.Ab.inK k=true->h k=some blk->∃a,h' k=some a/\dg blk (L k) a (L' k))(hc:∀d o f,blk=.box d o f->∀x∈d,m7 x=true)(m:blk.live l->w'.heap[l.b]?=w.heap[l.b]?)(hb:dh w M L h l blk):dh w' M' L' h' l blk:=by
 cases blk with
 |box d own r=>
  obtain⟨arr,B,e,y,q⟩:=hb;exact⟨arr,B,(m trivial).trans e,y,λi p u h1 h2=>m8 hp v (hc _ _ _ rfl p (An h1)) (q i p u h1 h2)⟩
 |row C E xs r=>
  obtain⟨h1,h2,h3,h4,h5⟩:=hb;refine⟨h1,h2,h3,h4,λhn=>?_⟩;obtain⟨h6,g,arr,e,h7,h8⟩:=h5 hn;refine⟨h6,g,arr,(m hn).trans e,h7,λi x j p A s=>?_⟩;obtain⟨u,z,q⟩:=h8 i x j p A s;exact⟨u,z,q.mono hp⟩
 |mp D n es r=>
  obtain⟨arr,c,e,h1⟩:=hb;exact⟨arr,c,(m trivial).trans e,h1⟩
end
def qB(h:Hp):Hp:=λk=>if inK k=true then h k else none
theorem jV(e:qB h k=some b):inK k=true/\h k=some b:=by
 unfold qB at e;split at e
 .rename_i hi;exact⟨hi,e⟩
 .cases e
def Ea(args:List AV)(a:Hp):St:=⟨λn=>(args[n]?).getD .undef,a⟩
def uL(P:Program)(rs:List ResultVar)(d:Hp)(a:AV->Hp->Prop)(st:St):Prop:=
 ∃r,mf P st rs=some r/\m7 r=true/\LookH (qB st.h)/\a r (qB st.h)/\∀k c f,d k=some (.box c false f)->∃b,st.h k=some (.box b false false)
def Ia(P:Program)(rs:List ResultVar)(b:Hp)(a:AV->Hp->Prop):Exit->St->Prop
 |.normal,st=>uL P rs b a st
 |.ret,st=>uL P rs b a st
 |_,_=>False
@[simp] theorem RF:Ia P rs h0 Post .normal st=uL P rs h0 Post st:=rfl
@[simp] theorem Tp:Ia P rs h0 Post .ret st=uL P rs h0 Post st:=rfl
theorem l9(j:k<2000000)(a:dy C k l blk)(g:gb blk=true)(f:zK blk=true)(d:blk.live l):C.w0.heap.size<=l.b\/(C.S l.b/\∀o,¬C.M0 l.b o):=by
 cases blk with
 |box i own c=>
  cases own with
  |false=>cases g
  |true=>exact a
 |row e m xs c=>exact a.row d
 |mp=>cases f
theorem p9(h:inK k=true):k<2000000:=by
 simp only[inK,up,Is]at h;omega
theorem NY{f:FuncId}{fn:Func}(hf:P.funcs[f]?=some fn)(hb:fn.body=some c)(A:bR P f=true)(a7:args.length<=fn.ntmps)(g:LookH h0)
 (h:∀C:Cx,C.P=P->C.N=fn.ntmps->WP C c (Ia P fn.results.toList h0 Post) (Ea args h0)):mR P f args h0 Post:=by
 refine⟨A,λw M L x hM j W=>?_⟩
 let C:Cx:={P:=P,N:=fn.ntmps,M0:=M,S:=iO h0 L,pb:=λk=>match h0 k with|some (.box _ false _)=>some (L k).b|_=>none,w0:=w}
 have a6:=W.1
 have T:dH C (Ea args h0) {tmps:=x.toArray++Array.replicate (fn.ntmps-x.toArray.size) undef,defers:=[]} w:=by
  refine⟨L,⟨Ext.refl _ _,hM,j.bl,j.sep,?_⟩,by show(x.toArray++Array.replicate (fn.ntmps-x.toArray.size) undef).size=fn.ntmps;simp;omega,jI.nil _,λn=>?_⟩
  .intro k blk a
   cases blk with
   |box i own X=>
    cases own with
    |false=>
     have ah:X=false:=by
      cases X with
      |false=>rfl
      |true=>exact absurd rfl (g.nf k _ 0 a)
     refine⟨ah,?_,⟨k,_,a,trivial,rfl⟩,(j.bl k _ a).lt trivial,j.m2 k i X a⟩;show(match h0 k with|some (.box _ false _)=>some (L k).b|_=>none)=some (L k).b;rw[show h0 k=_ from a]
    |true=>exact .inr ⟨⟨k,_,a,trivial,rfl⟩,j.m1 k _ a rfl trivial⟩
   |row e sz xs X=>
    unfold dy;simp only[C.hpr k (p9 (g.keys k _ a))];exact λhn=>.inr ⟨⟨k,_,a,hn,rfl⟩,j.m1 k _ a rfl hn⟩
   |mp=>exact absurd (g.nm k _ a) (by simp[zK])
  .show RepA w (ab C L h0) L h0 ((args[n]?).getD .undef) _
   cases hp:args[n]? with
   |none=>exact .undef _
   |some p=>
    have E:n<x.length:=by rw[<-a6];exact(th.1 hp).1
    have J:(x.toArray++Array.replicate (fn.ntmps-x.toArray.size) undef).getD n undef=x[n]:=by
     rw[YZ,Zu (by simpa using E)];simp[E]
    simp only[J];exact W.2 n p _ hp (an E)
 refine calls_of_wp_defers hf hb (wp_mono (h C rfl rfl _ w T) ?_)
 have q:∀(y:Act) w' d,dH C d y w'->uL P fn.results.toList h0 Post d->jI P y.defers/\∃v,(results fn y.tmps).run P w'=.ok v w'/\
  (∃v' r L' h',Ending.returned v=.returned v'/\Ext (iO h0 L) w w'/\LookH h'/\TrIn w' M L' h'/\RepA w' (t8 M L' h') L' h' r v'/\m7 r=true/\Post r h'/\
    (∀k i f,h0 k=some (.box i false f)->∃z,h' k=some (.box z false false)/\(L' k).b=(L k).b)/\
    (∀k i f,h' k=some (.box i false f)->∃l f0,h0 k=some (.box l false f0))/\
    (∀k blk,h' k=some blk->gb blk=true->blk.live (L' k)->w.heap.size<=(L' k).b\/ed h0 L (L' k).b)):=by
  rintro y w' d ⟨L',H,hN,Z,ht⟩ ⟨r,hr,O,D,G,Q⟩;obtain⟨u,ak,ar⟩:=nR (C:=C) H ht hr
  have U:∀b o,t8 M L' (qB d.h) b o->ab C L' d.h b o:=by
   rintro b o (h9|⟨k,blk,a,B,Y,ad⟩)
   .exact .inl h9
   .exact .inr ⟨k,blk,(jV a).2,B,Y,ad⟩
  have hpr:=Pres.sub (w:=w') U;have K:∀k blk,inK k=true->d.h k=some blk->∃m,qB d.h k=some m/\dg blk (L' k) m (L' k):=λk blk hi a=>⟨blk,by unfold qB;rw[YY hi];exact a,bt _ _⟩
  have F:∀k i f,d.h k=some (.box i false f)->(∃l f0,h0 k=some (.box l false f0))/\(L' k).b=(L k).b/\f=false/\∀o,M (L' k).b o:=by
   intro k i f a;have ho:=H.own k _ a;have h1:(match h0 k with|some (.box _ false _)=>some (L k).b|_=>none)=some (L' k).b:=ho.2.1;split at h1
   .rename_i l f0 h2
    injection h1 with h1;exact⟨⟨l,f0,h2⟩,h1.symm,ho.1,ho.2.2.2.2⟩
   .cases h1
  have s:∀k blk,qB d.h k=some blk->gb blk=true->blk.live (L' k)->w.heap.size<=(L' k).b\/(iO h0 L (L' k).b/\∀o,¬M (L' k).b o):=λk blk a V B=>
   l9 (C:=C) (p9 (jV a).1) (H.own k _ (jV a).2) V (D.nm k _ a) B
  refine⟨Z,u,ak,u,r,L',qB d.h,rfl,H.ext,D,⟨?_,?_,?_,?_⟩,m8 hpr K O ar,O,G,?_,?_,?_⟩
  .exact λk blk a=>(H.bl k blk (jV a).2).inK hpr K (λi o f e=>D.cl k i o f (by rw[a,e])) (λ_=>rfl)
  .exact λk k' b1 b2 aj h1 h2=>H.sep k k' b1 b2 aj (jV h1).2 (jV h2).2
  .intro k blk a V B o I
   rcases s k blk a V B with h9|h9
   .have:=hM _ _ I;omega
   .exact h9.2 o I
  .exact λk i f a=>(F k i f (jV a).2).2.2.2
  .intro k i f a
   obtain⟨z,h1⟩:=Q k i f a;exact⟨z,by unfold qB;rw[YY (g.keys k _ a)];exact h1,(F k _ _ h1).2.1⟩
  .exact λk i f a=>(F k i f (jV a).2).1
  .intro k blk a V B
   rcases s k blk a V B with h9|⟨⟨k0,b0,e1,e2,e3⟩,h9⟩
   .exact .inl h9
   .refine .inr ⟨k0,b0,e1,?_,e2,e3⟩
    cases b0 with
    |box l o0 f0=>
     cases o0 with
     |true=>rfl
     |false=>exact absurd (j.m2 k0 _ _ e1 0) (by rw[<-e3];exact h9 0)
    |row=>rfl
    |mp=>rfl
 rintro e y w' ⟨d,R,hq⟩
 cases e with
 |normal=>obtain⟨h1,v,h2,h3⟩:=q y w' d R hq;exact iH h1 h2 h3
 |ret=>obtain⟨h1,v,h2,h3⟩:=q y w' d R hq;exact iH h1 h2 h3
 |exit=>exact hq.elim
 |goto=>exact hq.elim
 |panic=>exact hq.elim
 |outgrown=>exact hq.elim
def io(o:Bool):Blk->Blk
 |.box a _ f=>.box a o f
 |b=>b
def gB(h:Hp)(k:Nat):Bool:=match h k with
 |some (.box _ o _)=>o
 |_=>true
def gG(h:Hp):Hp:=λk=>if inK k=true then(if k=290 then(h k).map (io false)else h k)else none
def gY(k:Nat):Bool:=!inK k||k==290
def dU(x:AV):AV:=if eK gY x=true then x else .undef
def nG:Blk->Blk
 |.box a o f=>.box (a.map dU) o f
 |b=>b
def gC(h h':Hp):Hp:=λk=>if inK k=true then(if k=290 then(h' k).map (io (gB h k))else h' k)else(h k).map nG
theorem dx{o:Bool}:(io o b).live l↔b.live l:=by cases b<;>exact Z8
theorem sS{o:Bool}:(io o b).frz q↔b.frz q:=by cases b<;>exact Z8
theorem ku:(nG b).live l↔b.live l:=by cases b<;>exact Z8
theorem Ib:(nG b).frz q↔b.frz q:=by cases b<;>exact Z8
theorem nH{o:Bool}{l':Loc}(h:dg b l b' l'):dg b l (io o b') l':=by cases b<;>cases b'<;>exact h
theorem iF(e:gG h k=some b):inK k=true/\∃b0,h k=some b0/\(k=290->b=io false b0)/\(k≠290->b=b0):=by
 unfold gG at e;split at e
 .rename_i hi
  split at e
  .rename_i h1
   simp only[II]at e;obtain⟨b0,h2,rfl⟩:=e;exact⟨hi,b0,h2,λ_=>rfl,λh3=>absurd h1 h3⟩
  .rename_i h1;exact⟨hi,b,e,λh2=>absurd h2 h1,λ_=>rfl⟩
 .cases e
theorem xY(hi:inK k=true)(a:h k=some b):gG h k=some (if k=290 then io false b else b):=by
 unfold gG;rw[YY hi];split
 .rw[a];rfl
 .exact a
theorem Eb{h':Hp}(hi:inK k=true)(a:h' k=some b):gC h h' k=some (if k=290 then io (gB h k) b else b):=by
 unfold gC;rw[YY hi];split
 .rw[a];rfl
 .exact a
theorem nI{h':Hp}(e:gC h h' k=some b):(inK k=true/\∃b0,h' k=some b0/\b=if k=290 then io (gB h k) b0 else b0)\/(inK k=false/\∃b0,h k=some b0/\b=nG b0):=by
 unfold gC at e;split at e
 .rename_i hi
  split at e
  .rename_i h1
   simp only[II]at e;obtain⟨b0,h2,rfl⟩:=e;exact .inl ⟨hi,b0,h2,by rw[YY h1]⟩
  .rename_i h1;exact .inl ⟨hi,b,e,by rw[YR h1]⟩
 .rename_i hi
  simp only[II]at e;obtain⟨b0,h2,rfl⟩:=e;exact .inr ⟨by simpa using hi,b0,h2,rfl⟩
structure InOk(h:Hp):Prop where
 nf:∀k blk o,inK k=true->h k=some blk->¬blk.frz o
 nm:∀k blk,inK k=true->h k=some blk->zK blk=true
 cl:∀k cs o f,inK k=true->h k=some (.box cs o f)->∀x∈cs,m7 x=true
 pin:∀k cs f,inK k=true->h k=some (.box cs false f)->k=290
 bx:∀blk,h 290=some blk->∃cs o f,blk=.box cs o f
section
variable {C:Cx} {L L':Nat->Loc} {h h':Hp} {w w':World}
theorem AA(g:MemL C L h w)(hi:InOk h){b:Nat}(i:ed (gG h) L b):(C.w0.heap.size<=b\/(C.S b/\∀o,¬C.M0 b o))/\iO h L b:=by
 obtain⟨k,blk,d,c,a,rfl⟩:=i;obtain⟨h1,b0,h2,h3,h4⟩:=iF d;by_cases e:k=290
 .have:=h3 e
  subst this;subst e;obtain⟨j,o,f,rfl⟩:=hi.bx b0 h2;cases c
 .have:=h4 e
  subst this;exact⟨l9 (p9 h1) (g.own k _ h2) c (hi.nm k _ h1 h2) a,k,_,h2,a,rfl⟩
theorem MemL.takeStep(F:MemL C L h w)(hi:InOk h)(hx:Ext (iO (gG h) L) w w')(ah:LookH h')
 (ht:TrIn w' (λb o=>ab C L h b o/\¬ed (gG h) L b) L' h')
 (N:∀k A f,gG h k=some (.box A false f)->∃P,h' k=some (.box P false false)/\(L' k).b=(L k).b)
 (V:∀k A f,h' k=some (.box A false f)->∃g f0,gG h k=some (.box g false f0))
 (hn:∀k blk,h' k=some blk->gb blk=true->blk.live (L' k)->w.heap.size<=(L' k).b\/ed (gG h) L (L' k).b):
 ∃z:Nat->Loc,(∀k,inK k=true->z k=L' k)/\MemL C z (gC h h') w'/\(∀{x:AV}{u:Value},RepA w (ab C L h) L h x u->RepA w' (ab C z (gC h h')) z (gC h h') (dU x) u)/\
  (∀{x:AV}{u:Value},m7 x=true->RepA w' (t8 (λb o=>ab C L h b o/\¬ed (gG h) L b) L' h') L' h' x u->RepA w' (ab C z (gC h h')) z (gC h h') x u):=by
 let z:Nat->Loc:=λk=>if inK k=true then L' k else L k
 have m:∀k,inK k=true->z k=L' k:=λk s=>YY s
 have B:∀k,inK k=false->z k=L k:=λk s=>by simp[z,s]
 have b3:=F.ext.size
 have I:∀b,iO (gG h) L b->∃k blk,inK k=true/\h k=some blk/\blk.live (L k)/\b=(L k).b:=by
  rintro b ⟨k,blk,s,d,rfl⟩;obtain⟨h1,b0,h2,h3,h4⟩:=iF s;refine⟨k,b0,h1,h2,?_,rfl⟩;by_cases e:k=290
  .rw[h3 e]at d;exact dx.1 d
  .rw[h4 e]at d;exact d
 have J:∀b,iO (gG h) L b->∀o,ab C L h b o:=by
  intro b hb o;obtain⟨k,blk,h1,h2,h3,rfl⟩:=I b hb;exact .inr ⟨k,blk,h2,h3,rfl,hi.nf k blk o h1 h2⟩
 have X:∀b,ed (gG h) L b->iO (gG h) L b:=by
  rintro b ⟨k,blk,h1,_,h3,h4⟩;exact⟨k,blk,h1,h3,h4⟩
 have ad:∀b o,ab C z (gC h h') b o->t8 (λb o=>ab C L h b o/\¬ed (gG h) L b) L' h' b o:=by
  rintro b o (h9|⟨k,blk,s,d,hb,hf⟩)
  .refine .inl ⟨.inl h9,λh8=>?_⟩
   rcases(AA F hi h8).1 with h7|h7
   .have:=F.m0 _ _ h9;omega
   .exact h7.2 o h9
  .rcases nI s with⟨l,b0,h1,rfl⟩|⟨l,b0,h1,rfl⟩
   .rw[m k l]at d hb
    refine .inr ⟨k,b0,h1,?_,hb,?_⟩
    .split at d
     .exact dx.1 d
     .exact d
    .split at hf
     .exact λh8=>hf (sS.2 h8)
     .exact hf
   .rw[B k l]at d hb
    refine .inl ⟨.inr ⟨k,b0,h1,ku.1 d,hb,λh8=>hf (Ib.2 h8)⟩,λh8=>?_⟩;obtain⟨k',a,h2,h3,h4,h5⟩:=I b (X b h8);refine F.sep k k' b0 a (λe=>?_) h1 h3 (ku.1 d) h4 (by rw[hb,<-h5]);rw[e,h2]at l;cases l
 have T:=Pres.sub (w:=w') ad
 have O:Pres w (ab C L h) w' (ab C z (gC h h')):=by
  have ak:∀b o,¬ab C L h b o->¬iO (gG h) L b:=λb o h9 h8=>h9 (J b h8 o)
  have G:∀b o,b<w.heap.size->ab C z (gC h h') b o->ab C L h b o:=by
   intro b o E h9;rcases ad b o h9 with h8|⟨k,blk,s,d,hb,hf⟩
   .exact h8.1
   .cases y:gb blk with
    |true=>
     rcases hn k blk s y d with h7|h7
     .omega
     .rw[hb]at h7;exact J b (X b h7) o
    |false=>
     cases blk with
     |row=>cases y
     |mp=>cases y
     |box A Y f9=>
      cases Y with
      |true=>cases y
      |false=>
       obtain⟨g,f0,h7⟩:=V k A f9 s;obtain⟨_,_,h6⟩:=N k g f0 h7;exact J b ⟨k,_,h7,trivial,by rw[<-hb,h6]⟩ o
  refine⟨λb o v hc K=>?_,λb arr c hc K=>?_⟩
  .have E:=xZ hc
   exact⟨(hx.cell E (ak b o K)).trans hc,λh9=>K (G b o E h9)⟩
  .have E:=rt hc
   exact⟨(hx.block b E (ak b 0 K)).trans hc,λh9=>K (G b 0 E h9)⟩
 have U:∀k blk,gY k=true->h k=some blk->∃a,gC h h' k=some a/\dg blk (L k) a (z k):=by
  intro k blk s h1
  cases r:inK k with
  |false=>
   refine⟨nG blk,by simp only[gC,r,YU,Y5,h1,ZD],?_⟩;rw[B k r]
   cases blk with
   |box=>exact rfl
   |row=>exact⟨rfl,rfl,Y0 _,λ_=>rfl⟩
   |mp=>exact⟨rfl,rfl,rfl⟩
  |true=>
   have e:k=290:=by simpa[gY,r]using s
   obtain⟨A,o,f,rfl⟩:=hi.bx blk (by rw[<-e];exact h1)
   have h2:gG h k=some (.box A false f):=by rw[xY r h1,YY e];rfl
   obtain⟨P,h3,h4⟩:=N k A f h2;refine⟨_,Eb r h3,?_⟩;rw[YY e,m k r];exact h4
 have R:∀k blk,inK k=true->h' k=some blk->∃a,gC h h' k=some a/\dg blk (L' k) a (z k):=by
  intro k blk r h1;refine⟨_,Eb r h1,?_⟩;rw[m k r];split
  .exact nH (bt _ _)
  .exact bt _ _
 have H:∀{x:AV}{u:Value},RepA w (ab C L h) L h x u->RepA w' (ab C z (gC h h')) z (gC h h') (dU x) u:=by
  intro x u W;unfold dU;split
  .rename_i M;exact m8 O U M W
  .exact .undef _
 refine⟨z,m,⟨?_,F.m0,?_,?_,?_⟩,H,λM W=>m8 T R M W⟩
 .refine F.ext.trans hx (λb E h9=>?_)
  obtain⟨k,blk,h1,h2,h3,rfl⟩:=I b h9;have M:=F.own k _ h2
  cases y:gb blk with
  |true=>
   rcases l9 (p9 h1) M y (hi.nm k _ h1 h2) h3 with h7|h7
   .omega
   .exact h7.1
  |false=>
   cases blk with
   |row=>cases y
   |mp=>cases y
   |box A Y f9=>
    cases Y with
    |true=>cases y
    |false=>exact M.2.2.1
 .intro k blk s
  rcases nI s with⟨l,b0,h1,rfl⟩|⟨l,b0,h1,rfl⟩
  .rw[m k l]
   have hb:=(ht.bl k b0 h1).inK T R (λA o f e=>ah.cl k A o f (by rw[h1,e])) (λ_=>rfl);split
   .cases b0<;>exact hb
   .exact hb
  .rw[B k l]
   have hb:=F.bl k b0 h1
   have he:b0.live (L k)->w'.heap[(L k).b]?=w.heap[(L k).b]?:=by
    intro d;refine hx.block _ (hb.lt d) (λh9=>?_);obtain⟨k',a,h2,h3,h4,h5⟩:=I _ h9;exact F.sep k k' b0 a (λe=>by rw[e,h2]at l;cases l) h1 h3 d h4 h5
   cases b0 with
   |box A own fz=>
    obtain⟨arr,ty,e,d,W⟩:=hb;refine⟨arr,ty,(he trivial).trans e,by simpa using d,λi p u hp y=>?_⟩;simp only[YS,II]at hp;obtain⟨q,hq,rfl⟩:=hp;exact H (W i q u hq y)
   |row et sz xs fz=>
    obtain⟨g1,g2,g3,g4,g5⟩:=hb;refine⟨g1,g2,g3,g4,λQ=>?_⟩;obtain⟨h6,ar,arr,e,h7,h8⟩:=g5 Q;refine⟨h6,ar,arr,(he Q).trans e,h7,λi x j p a7 hj=>?_⟩;obtain⟨u,y,W⟩:=h8 i x j p a7 hj;exact⟨u,y,W.mono O⟩
   |mp kd n es fz=>
    obtain⟨arr,c,e,g1⟩:=hb;exact⟨arr,c,(he trivial).trans e,g1⟩
 .
  have new:∀k blk,inK k=true->h' k=some blk->blk.live (L' k)->w.heap.size<=(L' k).b\/iO (gG h) L (L' k).b:=by
   intro k blk r s d
   cases y:gb blk with
   |true=>exact(hn k blk s y d).imp id (X _)
   |false=>
    cases blk with
    |row=>cases y
    |mp=>cases y
    |box A Y f9=>
     cases Y with
     |true=>cases y
     |false=>
      obtain⟨g,f0,h7⟩:=V k A f9 s;obtain⟨_,_,h6⟩:=N k g f0 h7;exact .inr ⟨k,_,h7,trivial,h6⟩
  have apart:∀k blk k' a,inK k=true->inK k'=false->h' k=some blk->h k'=some a->blk.live (L' k)->a.live (L k')->(L' k).b≠(L k').b:=by
   intro k blk k' a h1 h2 h3 h4 h5 h6 e;rcases new k blk h1 h3 h5 with h7|h7
   .have:=(F.bl k' a h4).lt h6;omega
   .obtain⟨q,bq,g1,g2,g3,g4⟩:=I _ h7
    exact F.sep q k' bq a (λe9=>by rw[e9,h2]at g1;cases g1) g2 h4 g3 h6 (by rw[<-g4,e])
  have lv:∀{k:Nat}{b0:Blk},(if k=290 then io (gB h k) b0 else b0).live (L' k)->b0.live (L' k):=by
   intro k b0 d;split at d
   .exact dx.1 d
   .exact d
  intro k k' b1 b2 aj s a6 d D;rcases nI s with⟨i1,c1,d1,rfl⟩|⟨i1,c1,d1,rfl⟩<;>rcases nI a6 with⟨i2,Z,d2,rfl⟩|⟨i2,Z,d2,rfl⟩
  .rw[m k i1]at d|-
   rw[m k' i2]at D|-;exact ht.sep k k' c1 Z aj d1 d2 (lv d) (lv D)
  .rw[m k i1]at d|-
   rw[B k' i2]at D|-;exact apart k c1 k' Z i1 i2 d1 d2 (lv d) (ku.1 D)
  .rw[B k i1]at d|-
   rw[m k' i2]at D|-;exact λe=>apart k' Z k c1 i2 i1 d2 d1 (lv D) (ku.1 d) e.symm
  .rw[B k i1]at d|-
   rw[B k' i2]at D|-;exact F.sep k k' c1 Z aj d1 d2 (ku.1 d) (ku.1 D)
 .
  intro k blk s;rcases nI s with⟨i1,b0,d1,rfl⟩|⟨i1,b0,d1,rfl⟩
  .rw[m k i1]
   have fresh:gb b0=true->b0.live (L' k)->C.w0.heap.size<=(L' k).b\/(C.S (L' k).b/\∀o,¬C.M0 (L' k).b o):=by
    intro y d;rcases hn k b0 d1 y d with h7|h7
    .exact .inl (by omega)
    .exact(AA F hi h7).1
   cases b0 with
   |mp=>exact absurd (ah.nm k _ d1) (by simp[zK])
   |row e sz xs fz=>
    have:dy C k (L' k) (.row e sz xs fz):=by
     unfold dy;simp only[C.hpr k (p9 i1)];exact λQ=>fresh rfl Q
    split<;>exact this
   |box A Y f9=>
    cases Y with
    |true=>
     have h9:=fresh rfl trivial;split
     .rename_i e
      have h8:gG h k=none\/∃g f0,gG h k=some (.box g false f0):=by
       cases h7:h k with
       |none=>left;simp[gG,h7]
       |some b1=>
        right
        obtain⟨g,o0,f0,rfl⟩:=hi.bx b1 (by rw[<-e];exact h7);exact⟨g,f0,by rw[xY i1 h7,YY e];rfl⟩
      rcases h8 with h8|⟨g,f0,h8⟩
      .have h7:h k=none:=by
        cases h7:h k with
        |none=>rfl
        |some b1=>rw[xY i1 h7]at h8;cases h8
       have:gB h k=true:=by simp[gB,h7]
       rw[this];exact h9
      .obtain⟨P,h6,_⟩:=N k g f0 h8
       rw[d1]at h6;cases h6
     .exact h9
    |false=>
     obtain⟨g,f0,h7⟩:=V k A f9 d1;obtain⟨P,h6,h5⟩:=N k g f0 h7;rw[d1]at h6;injection h6 with h6;injection h6 with h6a _ h6b;obtain⟨_,b1,g2,g3,g4⟩:=iF h7
     have e:k=290:=by
      refine Classical.byContradiction λe=>e ?_;have:=g4 e;subst this;exact hi.pin k g f0 i1 g2
     rw[YY e];obtain⟨a8,o1,f1,rfl⟩:=hi.bx b1 (by rw[<-e];exact g2);have M:=F.own k _ g2
     have:gB h k=o1:=by simp[gB,g2]
     rw[this];show dy C k (L' k) (.box A o1 f9)
     cases o1 with
     |true=>
      have M:C.w0.heap.size<=(L k).b\/(C.S (L k).b/\∀o,¬C.M0 (L k).b o):=M;show C.w0.heap.size<=(L' k).b\/(C.S (L' k).b/\∀o,¬C.M0 (L' k).b o);rw[h5];exact M
     |false=>
      obtain⟨a1,a2,a3,a4,a5⟩:=M;refine⟨h6b,?_,?_,?_,?_⟩
      .rw[h5];exact a2
      .rw[h5];exact a3
      .rw[h5];exact a4
      .rw[h5];exact a5
  .rw[B k i1]
   have:=F.own k b0 d1
   cases b0 with
   |box A o f=>cases o<;>exact this
   |row=>exact this
   |mp=>exact this
def DV(C:Cx)(Q:St->Prop)(f:Operand)(xs:List Operand)(d:Option Nat)(st:St):Prop:=
 ∃g Post,bA (st.ev f)=some (g,[],[])/\InOk st.h/\mR C.P g (xs.map st.ev) (gG st.h) Post/\(xs.map st.ev).all m7=true/\dJ C.N d=true/\
  ∀r h',LookH h'->m7 r=true->Post r h'->Q (St.put ⟨λn=>dU (st.t n),gC st.h h'⟩ d r [])
theorem WP.takeG{xs:List Operand}{K:St->Prop}(ad:∀st a w,dH C st a w->K st->∃q,dH C q a w/\cw C.P hn C.N ops (Q .normal) post q)(T:ops.toList=pre++o::post)(bq:o.op=.call {callee:=.value f,args:=xs.toArray,argTypes:=ats})(hg:o.guard=none)
 (hq:cw C.P hn C.N ops (DV C K f xs o.dst) pre st):WP C (.region id ops false) Q st:=by
 intro a w hs;refine wp_region_list ?_;rw[T];refine fh (λc a1 w1 ca b7=>?_) hs hq;obtain⟨g,Post,ah,hi,⟨d,hD⟩,S,aj,hQ⟩:=b7;obtain⟨L,M,hN,ak,ht⟩:=ca;refine wpList_step (λK hK=>?_);rw[eI hg,YY rfl];obtain⟨vs,us,ar,cf,cg⟩:=jH (bB ht f) ah;have ch:=cf.nil_inv;have cd:=cg.nil_inv;subst ch;subst cd
 have cm:∀b,ed (gG c.h) L b->∀o,ab C L c.h b o:=by
  intro b hb o;obtain⟨k,blk,h1,h2,h3,rfl⟩:=hb;obtain⟨i1,b0,g1,g2,g3⟩:=iF h1;by_cases e:k=290
  .rw[g2 e]at h3;exact .inr ⟨k,b0,g1,dx.1 h3,rfl,hi.nf k b0 o i1 g1⟩
  .rw[g3 e]at h3;exact .inr ⟨k,b0,g1,h3,rfl,hi.nf k b0 o i1 g1⟩
 have s:t8 (λb o=>ab C L c.h b o/\¬ed (gG c.h) L b) L (gG c.h)=ab C L c.h:=by
  funext b o
  refine propext ⟨?_,λh9=>?_⟩
  .rintro(h9|⟨k,blk,h1,h2,h3,h4⟩)
   .exact h9.1
   .obtain⟨i1,b0,g1,g2,g3⟩:=iF h1
    by_cases e:k=290
    .rw[g2 e]at h2;exact .inr ⟨k,b0,g1,dx.1 h2,h3,hi.nf k b0 o i1 g1⟩
    .rw[g3 e]at h2;exact .inr ⟨k,b0,g1,h2,h3,hi.nf k b0 o i1 g1⟩
  .by_cases h8:ed (gG c.h) L b
   .obtain⟨k,blk,h1,h2,h3,h4⟩:=h8
    refine .inr ⟨k,blk,h1,h3,h4.symm,?_⟩;obtain⟨i1,b0,g1,g2,g3⟩:=iF h1;by_cases e:k=290
    .rw[g2 e];exact λh7=>hi.nf k b0 o i1 g1 (sS.1 h7)
    .rw[g3 e];exact hi.nf k b0 o i1 g1
   .exact .inl ⟨h9,h8⟩
 have z:∀k blk,inK k=true->c.h k=some blk->∃j,gG c.h k=some j/\dg blk (L k) j (L k):=by
  intro k blk a6 h1;refine⟨_,xY a6 h1,?_⟩;split
  .exact nH (bt _ _)
  .exact bt _ _
 have a7:TrIn w1 (λb o=>ab C L c.h b o/\¬ed (gG c.h) L b) L (gG c.h):=by
  refine⟨?_,?_,?_,?_⟩
  .intro k blk V
   rw[s];obtain⟨i1,b0,g1,g2,g3⟩:=iF V;have hb:=(M.bl k b0 g1).inK (Pres.refl _ _) z (λcs o f e=>hi.cl k cs o f i1 (by rw[g1,e])) (λ_=>rfl);by_cases e:k=290
   .rw[g2 e];cases b0<;>exact hb
   .rw[g3 e];exact hb
  .intro k k' b1 b2 F h1 h2 W m
   obtain⟨i1,c1,g1,g2,g3⟩:=iF h1;obtain⟨i2,Y,Z,e2,e3⟩:=iF h2;refine M.sep k k' c1 Y F g1 Z ?_ ?_
   .by_cases e:k=290
    .rw[g2 e]at W;exact dx.1 W
    .rw[g3 e]at W;exact W
   .by_cases e:k'=290
    .rw[e2 e]at m;exact dx.1 m
    .rw[e3 e]at m;exact m
  .exact λk blk h1 h2 h3 o h9=>h9.2 ⟨k,blk,h1,h2,h3,rfl⟩
  .intro k cs f V o
   obtain⟨i1,b0,g1,g2,g3⟩:=iF V
   have I:b0.live (L k):=by
    by_cases e:k=290
    .have h8:=g2 e
     cases b0 with
     |box=>exact trivial
     |row=>cases h8
     |mp=>exact trivial
    .rw[<-g3 e];exact trivial
   refine⟨.inr ⟨k,b0,g1,I,rfl,hi.nf k b0 o i1 g1⟩,?_⟩;rintro⟨k',j,h1,h2,h3,h4⟩;obtain⟨i2,Y,Z,e2,e3⟩:=iF h1
   have F:k≠k':=by
    intro e;rw[<-e,V]at h1;injection h1 with h1;rw[<-h1]at h2;cases h2
   refine M.sep k k' b0 Y F g1 Z I ?_ h4;by_cases e:k'=290
   .rw[e2 e]at h3;exact dx.1 h3
   .rw[e3 e]at h3;exact h3
 have H:aC w1 (t8 (λb o=>ab C L c.h b o/\¬ed (gG c.h) L b) L (gG c.h)) L (gG c.h) (xs.map c.ev) (xs.map a1.eval):=by
  rw[s];refine⟨by simp,λi p u hp hu=>?_⟩;have a8:=L4.1 S p (An hp);simp only[YS,II]at hp hu;obtain⟨x,hx,rfl⟩:=hp;obtain⟨y,X,rfl⟩:=hu;rw[hx]at X;injection X with X;subst X;exact m8 (Pres.refl _ _) z a8 (bB ht x)
 have l:=hD w1 _ L (xs.map a1.eval) (λb o h9=>M.mlt h9.1) a7 H
 have U:(execOp a1.eval o).run C.P w1=.ok (.enter g (xs.map a1.eval).toArray) w1:=by
  unfold bR at d
  cases D:C.P.funcs[g]? with
  |none=>rw[D]at d;cases d
  |some fn=>
   rw[D]at d;simp only[up,Zv,ZW,ne_eq]at d
   have hb:fn.body.isNone=false:=by cases ck:fn.body<;>simp_all
   unfold execOp;rw[bq];simp only[resolve,ar,Deferred.ofValue,pure_bind,Sem.run_bind,Result.andThen_ok,invoke,callFunc,program,Sem.run,D];simp[d.2,hb]
 unfold Oper.wp;rw[U];simp only[Oper.upon];refine l.mono ?_;rintro ee w' ⟨v,r,L',h',rfl,hx,J,cc,hr,A,G,b3,b4,R⟩;obtain⟨L2,cj,O,E,B⟩:=M.takeStep hi hx J cc b3 b4 R;refine hK _ _ ?_;obtain⟨cn,cb,b8⟩:=ad _ _ _ (dH.put O hN ak (λn=>E (ht n)) aj (aF.refl O) (B A hr)) (hQ r h' J A G);exact fu (λq a' w' b9 b5=>⟨q,b9,b5⟩) cb b8
theorem WP.take{xs:List Operand}(a:ops.toList=pre++o::post)(b:o.op=.call {callee:=.value f,args:=xs.toArray,argTypes:=ats})(c:o.guard=none)
 (hq:cw C.P hn C.N ops (DV C (cw C.P hn C.N ops (Q .normal) post) f xs o.dst) pre st):WP C (.region id ops false) Q st:=WP.takeG (λst _ _ e d=>⟨st,e,d⟩) a b c hq
end
attribute [simp] eK bT jG nG io
def rk(d a q:Nat):Nat:=if q=d then a else q
def Pr(d a:Nat):XV->XV
 |.barr k n c=>.barr (rk d a k) n c
 |.mp k=>.mp (rk d a k)
 |.suf k o n t=>.suf (rk d a k) o n t
def uM(d a:Nat):AV->AV
 |.pv p=>.pv p
 |.ptr k o=>.ptr (rk d a k) o
 |.arr k n=>.arr (rk d a k) n
 |.eptr k n i o=>.eptr (rk d a k) n i o
 |.ext x=>.ext (Pr d a x)
 |_=>.undef
def Ec(d c:Nat):AV->AV
 |.agg e=>.agg (e.map (uM d c))
 |.fn f a b=>.fn f (a.map (uM d c)) (b.map (uM d c))
 |.tup e=>.tup (e.map (uM d c))
 |x=>uM d c x
def qT(d c:Nat):Blk->Blk
 |.box a o f=>.box (a.map (Ec d c)) o f
 |b=>b
def mI(d a:Nat)(h:Hp):Hp:=λq=>if q=a then(h d).map (qT d a)else if q=d then none else(h q).map (qT d a)
theorem uN{d:Nat}:(qT d k' b).live l↔b.live l:=by cases b<;>exact Z8
theorem JE{d:Nat}{o:Nat}:(qT d k' b).frz o↔b.frz o:=by cases b<;>exact Z8
theorem Ed(d a:Nat)(b:Blk)(l:Loc):dg b l (qT d a b) l:=by
 cases b with
 |box=>exact rfl
 |row=>exact⟨rfl,rfl,Y0 _,λ_=>rfl⟩
 |mp=>exact⟨rfl,rfl,rfl⟩
theorem Gu{w:World}{M M':Nat->Nat->Prop}{L r:Nat->Loc}{h2:Hp}{d:Nat}(hp:Pres w M w M')(s:∀k blk,h k=some blk->∃a,h2 (rk d k' k)=some a/\dg blk (L k) a (r (rk d k' k)))(K:RepA w M L h x u):RepA w M' r h2 (Ec d k' x) u:=by
 have one:∀{x:AV}{u:Value},RepA w M L h x u->RepA w M' r h2 (uM d k' x) u:=by
  intro x u K
  cases K with
  |pv I=>exact .pv (I.mono hp)
  |@ptr k O E own y hb=>
   obtain⟨a,h1,h2⟩:=s k _ hb
   cases a with
   |row=>exact h2.elim
   |mp=>exact h2.elim
   |box F A j=>have h2:(r (rk d k' k)).b=(L k).b:=h2;rw[<-h2];exact .ptr h1
  |@arr k n e S y xs u hb hn g=>
   obtain⟨a,h1,h2⟩:=s k _ hb
   cases a with
   |box=>exact h2.elim
   |mp=>exact h2.elim
   |row Q B l j=>
    obtain⟨_,D,R,v⟩:=h2;refine .arr h1 (by omega) (λe=>?_)
    have:l.length=xs.length:=by omega
    rw[v this];exact g (by omega)
  |@eptr k n i O e S y xs u hb hn g=>
   obtain⟨a,h1,h2⟩:=s k _ hb
   cases a with
   |box=>exact h2.elim
   |mp=>exact h2.elim
   |row Q B l j=>
    obtain⟨_,D,R,v⟩:=h2;refine .eptr h1 (by omega) (λe=>?_)
    have:l.length=xs.length:=by omega
    rw[v this,D];exact g (by omega)
  |ext m=>
   cases m with
   |@barr k n c E own y hc hb=>
    obtain⟨a,h1,h2⟩:=s k _ hb
    cases a with
    |row=>exact h2.elim
    |mp=>exact h2.elim
    |box F A j=>have h2:(r (rk d k' k)).b=(L k).b:=h2;rw[<-h2];exact .ext (.barr hc h1)
   |@mp k n U es y hb=>
    obtain⟨a,h1,h2⟩:=s k _ hb
    cases a with
    |row=>exact h2.elim
    |box=>exact h2.elim
    |mp N V T j=>have h2:N=U/\V=n/\(r (rk d k' k)).b=(L k).b:=h2;rw[<-h2.2.2];exact .ext (.mp h1)
   |@suf k o n t e S y xs u J hb hn X g=>
    obtain⟨a,h1,h2⟩:=s k _ hb
    cases a with
    |box=>exact h2.elim
    |mp=>exact h2.elim
    |row Q B l j=>
     obtain⟨_,D,R,v⟩:=h2;refine .ext (.suf J h1 hn (by omega) (λe=>?_))
     have:l.length=xs.length:=by omega
     rw[v this,D];exact g (by omega)
  |undef=>exact .undef _
  |agg=>exact .undef _
  |fn=>exact .undef _
  |tup=>exact .undef _
 cases K with
 |agg E C z G=>
  refine .agg _ C (by simpa using z) λi p u hp g=>?_;simp only[YS,II]at hp;obtain⟨q,hq,rfl⟩:=hp;exact one (G i q u hq g)
 |fn f first P C W z H h1 h2=>
  refine .fn f _ _ C W (by simpa using z) (by simpa using H) (λi p u hp g=>?_) (λi p u hp g=>?_)
  .simp only[YS,II]at hp
   obtain⟨q,hq,rfl⟩:=hp;exact one (h1 i q u hq g)
  .simp only[YS,II]at hp
   obtain⟨q,hq,rfl⟩:=hp;exact one (h2 i q u hq g)
 |tup E C z G=>
  refine .tup _ C (by simpa using z) λi p u hp g=>?_;simp only[YS,II]at hp;obtain⟨q,hq,rfl⟩:=hp;exact one (G i q u hq g)
 |pv I=>exact one (.pv I)
 |ptr hb=>exact one (.ptr hb)
 |arr hb hn g=>exact one (.arr hb hn g)
 |eptr hb hn g=>exact one (.eptr hb hn g)
 |ext m=>exact one (.ext m)
 |undef=>exact .undef _
theorem WP.ren(d g:Nat)(ad:d≠g)(y:st.h g=none)(R:g<2000000)(N:∀I f,st.h d≠some (.box I false f))
 (h:WP C c Q ⟨λn=>Ec d g (st.t n),mI d g st.h⟩):WP C c Q st:=by
 intro a w hs;obtain⟨L,K,hN,O,V⟩:=hs
 let D:Nat->Loc:=λq=>if q=g then L d else L q
 have m:∀{k blk},st.h k=some blk->D (rk d g k)=L k:=by
  intro k blk v;unfold rk;split
  .rename_i e;subst e;exact YY rfl
  .rename_i e
   have:k≠g:=by intro s;rw[s,y]at v;cases v
   exact YR this
 have get:∀{q b},mI d g st.h q=some b->∃r b0,q=rk d g r/\st.h r=some b0/\b=qT d g b0:=by
  intro q b hq;unfold mI at hq;split at hq
  .rename_i e
   simp only[II]at hq;obtain⟨b0,h1,rfl⟩:=hq;exact⟨d,b0,by simp[rk,e],h1,rfl⟩
  .split at hq
   .cases hq
   .rename_i F s
    simp only[II]at hq;obtain⟨b0,h1,rfl⟩:=hq;exact⟨q,b0,by simp[rk,s],h1,rfl⟩
 have put:∀{k blk},st.h k=some blk->mI d g st.h (rk d g k)=some (qT d g blk):=by
  intro k blk v;unfold rk;split
  .rename_i e;subst e;simp[mI,v]
  .rename_i e
   have:k≠g:=by intro s;rw[s,y]at v;cases v
   simp[mI,this,e,v]
 have inj:∀{k k2 b H},st.h k=some b->st.h k2=some H->rk d g k=rk d g k2->k=k2:=by
  intro k k2 b H h1 h2 e
  have n1:k≠g:=by intro s;rw[s,y]at h1;cases h1
  have n2:k2≠g:=by intro s;rw[s,y]at h2;cases h2
  unfold rk at e;split at e<;>split at e
  .rename_i F s;rw[F,s]
  .exact absurd e.symm n2
  .exact absurd e n1
  .exact e
 have hM:∀b o,ab C D (mI d g st.h) b o->ab C L st.h b o:=by
  rintro b o (h0|⟨q,b1,hq,E,hb,hf⟩)
  .exact .inl h0
  .obtain⟨r,b0,rfl,h1,rfl⟩:=get hq
   rw[m h1]at E hb;exact .inr ⟨r,b0,h1,uN.1 E,hb,λh9=>hf (JE.2 h9)⟩
 have hp:Pres w (ab C L st.h) w (ab C D (mI d g st.h)):=Pres.sub hM;have P:∀k blk,st.h k=some blk->∃A,mI d g st.h (rk d g k)=some A/\dg blk (L k) A (D (rk d g k)):=λk blk v=>⟨_,put v,by rw[m v];exact Ed _ _ _ _⟩;have B:∀{x u},RepA w (ab C L st.h) L st.h x u->RepA w (ab C D (mI d g st.h)) D (mI d g st.h) (Ec d g x) u:=λX=>Gu hp P X;refine h a w ⟨D,⟨K.ext,K.m0,?_,?_,?_⟩,hN,O,λn=>B (V n)⟩
 .intro q b hq
  obtain⟨r,b0,rfl,h1,rfl⟩:=get hq;rw[m h1];have hb:=K.bl r b0 h1
  cases b0 with
  |box I own G=>
   obtain⟨arr,ty,e,E,U⟩:=hb;refine⟨arr,ty,e,by simpa using E,λi p u M W=>?_⟩;simp only[YS,II]at M;obtain⟨z,hz,rfl⟩:=M;exact B (U i z u hz W)
  |row e sz xs G=>
   obtain⟨a1,Y,Z,a4,a5⟩:=hb;refine⟨a1,Y,Z,a4,λhn=>?_⟩;obtain⟨b1,H,arr,b3,b4,b5⟩:=a5 hn;exact⟨b1,H,arr,b3,b4,λi x j p X hj=>by obtain⟨u,W,U⟩:=b5 i x j p X hj;exact⟨u,W,U.mono hp⟩⟩
  |mp kd n es G=>exact hb
 .intro q q' b1 H T hq S E J
  obtain⟨p1,c1,rfl,d1,rfl⟩:=get hq;obtain⟨p2,c2,rfl,d2,rfl⟩:=get S;rw[m d1]at E|-;rw[m d2]at J|-;exact K.sep p1 p2 c1 c2 (λe=>T (by rw[e])) d1 d2 (uN.1 E) (uN.1 J)
 .intro q b hq
  obtain⟨r,b0,rfl,h1,rfl⟩:=get hq;rw[m h1];have l:=K.own r b0 h1;by_cases e:r=d
  .subst e
   have F:rk r g r=g:=by simp[rk]
   rw[F]
   cases b0 with
   |box I own G=>
    cases own with
    |false=>exact absurd h1 (N I G)
    |true=>exact l
   |row e sz xs G=>
    unfold dy qT;simp only[C.hpr g R];exact λhn=>l.row hn
   |mp=>exact l
  .have F:rk d g r=r:=by simp[rk,e]
   rw[F]
   cases b0 with
   |box I own G=>cases own<;>exact l
   |row=>exact l
   |mp=>exact l
theorem WP.nilRowsE(K:Nat->Bool)(E:Nat->Nat×Nat)(j:Nat){cs cs':List AV}{own fb:Bool}(hb:st.h j=some (.box cs own fb))(v:∀q,K q=true->st.h q=none/\q<2000000/\0<(E q).2)
 (r:cs'.length=cs.length)(z:∀(i:Nat) x,cs'[i]?=some x->cs[i]?=some x\/(cs[i]?=some (.pv (.val (.slice none 0 0)))/\∃q,K q=true/\x=.arr q 0))
 (h:WP C c Q ⟨st.t,λq=>if K q=true then some (.row (E q).1 (E q).2 [] 0)else if q=j then some (.box cs' own fb)else st.h q⟩):WP C c Q st:=by
 intro a w S;obtain⟨L,l,hN,A,H⟩:=S
 let d:Nat->Loc:=λq=>if K q=true then⟨0,0,true⟩else L q
 let h2:Hp:=λq=>if K q=true then some (.row (E q).1 (E q).2 [] 0)else if q=j then some (.box cs' own fb)else st.h q
 have P:K j=false:=by
  cases h1:K j with
  |false=>rfl
  |true=>rw[(v j h1).1]at hb;cases hb
 have hL:∀{q b},st.h q=some b->K q=false/\d q=L q:=by
  intro q b hq
  have:K q=false:=by
   cases h1:K q with
   |false=>rfl
   |true=>rw[(v q h1).1]at hq;cases hq
  exact⟨this,by simp[d,this]⟩
 have get:∀{q b},h2 q=some b->(K q=true/\b=.row (E q).1 (E q).2 [] 0)\/(K q=false/\q=j/\b=.box cs' own fb)\/(K q=false/\q≠j/\st.h q=some b):=by
  intro q b hq;simp only[h2]at hq;split at hq
  .rename_i h1;injection hq with hq;exact .inl ⟨h1,hq.symm⟩
  .rename_i h1
   have h1:K q=false:=by simpa using h1
   split at hq
   .rename_i h3;injection hq with hq;exact .inr (.inl ⟨h1,h3,hq.symm⟩)
   .rename_i h3;exact .inr (.inr ⟨h1,h3,hq⟩)
 have O:∀b o,ab C d h2 b o->ab C L st.h b o:=by
  rintro b o (h0|⟨q,b1,hq,g,f,hf⟩)
  .exact .inl h0
  .rcases get hq with⟨h1,rfl⟩|⟨h1,rfl,rfl⟩|⟨h1,_,h3⟩
   .simp[d,h1,Blk.live]at g
   .rw[(hL hb).2]at f
    exact .inr ⟨q,_,hb,trivial,f,hf⟩
   .rw[(hL h3).2]at g f
    exact .inr ⟨q,b1,h3,g,f,hf⟩
 have hp:Pres w (ab C L st.h) w (ab C d h2):=Pres.sub O
 have k:KC L st.h d h2:=by
  intro q b hq;obtain⟨h1,h3⟩:=hL hq;rw[h3];by_cases s:q=j
  .subst s
   rw[hb]at hq;injection hq with hq;subst hq;exact⟨.box cs' own fb,by simp[h2,h1],rfl⟩
  .exact⟨b,by simp[h2,h1,s,hq],bt _ _⟩
 refine h a w ⟨d,⟨l.ext,l.m0,?_,?_,?_⟩,hN,A,λn=>(H n).mono hp k⟩
 .intro q b hq
  rcases get hq with⟨h1,rfl⟩|⟨h1,rfl,rfl⟩|⟨h1,_,h3⟩
  .refine⟨(v q h1).2.2,Y0 _,(λx U=>by cases U),λ_=>rfl,λhn=>?_⟩
   simp[d,h1]at hn
  .obtain⟨arr,V,s,N,I⟩:=l.bl q _ hb
   refine⟨arr,V,by rw[(hL hb).2];exact s,by rw[r];exact N,λi p u D J=>?_⟩;rcases z i p D with h3|⟨h3,y,h4,rfl⟩
   .exact(I i p u h3 J).mono hp k
   .have T:=I i _ u h3 J
    cases T with
    |pv R=>
     rw[aJ R];refine .arr (xs:=[]) (e:=(E y).1) (sz:=(E y).2) (fz:=0) (by simp[h2,h4]) (Y0 _) (λ_=>?_);simp[d,h4,Loc.slice]
  .rw[(hL h3).2]
   exact(l.bl q b h3).mono hp k (λ_=>rfl)
 .intro q y b1 W G hq F g B
  have m:∀{q b},h2 q=some b->b.live (d q)->∃b0,st.h q=some b0/\b0.live (L q)/\d q=L q:=by
   intro q b hq g;rcases get hq with⟨h1,rfl⟩|⟨h1,rfl,rfl⟩|⟨h1,_,h3⟩
   .simp[d,h1,Blk.live]at g
   .exact⟨_,hb,trivial,(hL hb).2⟩
   .rw[(hL h3).2]at g;exact⟨b,h3,g,(hL h3).2⟩
  obtain⟨c1,d1,f1,g1⟩:=m hq g;obtain⟨M,d2,f2,g2⟩:=m F B;rw[g1,g2];exact l.sep q y c1 M G d1 d2 f1 f2
 .intro q b hq
  rcases get hq with⟨h1,rfl⟩|⟨h1,rfl,rfl⟩|⟨h1,_,h3⟩
  .refine dy.mkRow (v q h1).2.1 (λhn=>?_)
   simp[d,h1]at hn
  .have:=l.own q _ hb
   rw[(hL hb).2];cases own<;>exact this
  .rw[(hL h3).2];exact l.own q b h3
theorem WP.of_st{P:St->Prop}(h:P st/\∀st,P st->WP C c Q st):WP C c Q st:=h.2 st h.1
attribute [simp] Ec uM Pr rk qT mI
abbrev X7:PV:=.agg [Z 0,Z 0,.sl []]
def Ga:R8:=⟨1,[X7],0,0,[],0,[],[]⟩
def vR(u v:Nat)(c:Int):aG:=⟨u,v,c,1,Ga⟩
def Jl(ms:List eU)(a:Int):eU:=(ms[a.toNat]?).getD ⟨[],[]⟩
def jS(l:List Int):Nat->Nat
 |0=>0
 |k+1=>nn l (jS l k)
theorem KT(l:List Int)(k:Nat):jS l k<=k:=by
 induction k with
 |zero=>exact Y0 _
 |succ k ih=>have:=rc l (jS l k);simp only[jS];omega
def zF(ms:List eU)(l:List Int)(n:Nat):List Int:=(List.range n).map λk=>nx l (jS l k) (Jl ms (k:Nat)).np.length
theorem CT(ms:List eU)(l:List Int)(n:Nat):(zF ms l n).length=n:=by simp[zF]
theorem MO(ms:List eU)(l:List Int)(n:Nat):zF ms l (n+1)=zF ms l n++[nx l (jS l n) (Jl ms (n:Nat)).np.length]:=by simp[zF,yAd]
def ie(l:List Int):Nat->List Int
 |0=>[]
 |i+1=>((ie l i++[(i:Int)]).set i (((ie l i++[(i:Int)])[(nx l (jS l i) ((i:Int)+1)).toNat]?).getD 0)).set (nx l (jS l i) ((i:Int)+1)).toNat i
theorem At(l:List Int):∀n,(ie l n).length=n
 |0=>rfl
 |n+1=>by simp[ie,At l n]
theorem Rx(t:eG)(k:TmOk t):aT 21 (lN t) (B (fy t)):=by
 by_cases h0:(1<=t.maps.length/\t.maps.length<=4)/\t.conf.length<=4096
 .obtain⟨⟨h1,h2⟩,h3⟩:=h0
  have hc:fy t=(t.maps.all dt&&t.conf.all (uI t)):=by simp[fy,h1,h2,h3]
  have w1:¬(t.maps.length:Int)<1:=by omega
  have w2:¬4<(t.maps.length:Int):=by omega
  have O:¬4096<(t.conf.length:Int):=by omega
  have P:¬t.maps.length=0:=by omega
  rw[hc];refine Dp func21 λC hP hN=>?_;refine Gz ?_;refine WP.loopN [4] t.maps.length (λi st=>st.t 1=.ptr 1 0/\st.h 1=some (.box [.pv (.sl (t.maps.map bp)),.pv (.sl (t.conf.map dG))] true false)/\st.t 24=.pv (.sl (t.maps.map bp))/\st.t 25=.pv (Z t.maps.length)/\st.t 26=.pv (Z i)/\st.h 4=none/\st.h 6=none/\vP dt t.maps i) (by simp[Dz]) ?_;rintro i st hi ⟨g1,b1,v,x,y,E,b6,hq⟩;by_cases a:i<t.maps.length
  .have M:=ae a k.nl
   have A:t.maps[i]?=some t.maps[i]:=an a;have j:=FU a hq;have g:=FV (p:=dt) a;have b:=Zd a;have D:=X0 t.maps[i] (k.rest _ b) (k.pl _ b) (k.el _ b);generalize N:t.maps[i]=e at *
   cases s:dt e with
   |true=>
    rw[s]at D;exact Gy
    all_goals exact j s
   |false=>
    rw[s]at D;rw[g s];exact Gy
  .have d:=HM a hq
   rw[d,Zf];refine Gz ?_;refine WP.loopN [6] t.conf.length (λi st=>st.t 1=.ptr 1 0/\st.h 1=some (.box [.pv (.sl (t.maps.map bp)),.pv (.sl (t.conf.map dG))] true false)/\st.t 35=.pv (.sl (t.conf.map dG))/\st.t 36=.pv (Z t.conf.length)/\st.t 37=.pv (Z i)/\st.h 6=none/\vP (uI t) t.conf i) (by simp[Dz,b1,g1,b6]) ?_;clear g1 b1 v x y E b6;rintro i st hi ⟨g1,b1,J,K,L,b6,hq⟩;by_cases a:i<t.conf.length
   .have M:=ae a k.cl
    have A:t.conf[i]?=some t.conf[i]:=an a;have j:=FU a hq;have g:=FV (p:=uI t) a;have l:∀m∈t.maps,dt m=true:=L4.1 d;generalize N:t.conf[i]=c at *;have u:=NT t c.1 k l;have F:=NT t c.2 k l;obtain⟨⟨c1,n,o⟩,⟨d1,d2,d3⟩⟩:=c;have f:uI t (⟨c1,n,o⟩,⟨d1,d2,d3⟩)=(gw t ⟨c1,n,o⟩&&(gw t ⟨d1,d2,d3⟩&&c1 !=d1)):=rfl;generalize uI t (⟨c1,n,o⟩,⟨d1,d2,d3⟩)=r at *;generalize t.conf.all (uI t)=q at *;cases G:gw t ⟨c1,n,o⟩<;>cases H:gw t ⟨d1,d2,d3⟩<;>cases I:(c1==d1)
    all_goals
     simp only[G,H,bne,I,Zf,Zt,yAc,yAo,yBa,yAp]at u F f
     first|have z:=j f|rw[g f]
     skip
     exact Gy
    all_goals first|exact z|trace_state
   .rw[HM a hq]
    exact Gy
 .have hc:fy t=false:=by
   cases h:fy t with
   |false=>rfl
   |true=>simp only[fy,up,Is]at h;exact absurd ⟨⟨h.1,h.2.1⟩,h.2.2.1⟩ h0
  rw[hc];refine Dp func21 λC hP hN=>?_;exact Gy
  all_goals (exfalso;simp at *;omega)
def tD(plan:List (List Int))(tick k:Nat):Mov:=fC ((plan[k]?).getD []) k tick
def tA(p:Nat->Bool)(k:Nat):Prop:=∀j,j<k->p j=true
theorem nA(p:Nat->Bool):tA p 0:=λj h=>by omega
theorem nB{p:Nat->Bool}(h:tA p k)(hp:p k=true):tA p (k+1):=λj a=>by
 by_cases e:j=k
 .rw[e];exact hp
 .exact h j (by omega)
theorem qw{p:Nat->Bool}(h:tA p k)(b:¬k<n):(List.range n).all p=true:=by
 rw[L4];intro j a;rw[Zw]at a;exact h j (by omega)
theorem nC{p:Nat->Bool}(a:k<n)(hp:p k=false):(List.range n).all p=false:=by
 rw[yAm];exact⟨k,by simpa using a,by rw[hp];decide⟩
def wt(plan:List (List Int))(tick k:Nat):List PV:=(List.range k).map λj=>dN (tD plan tick j)
theorem Pd(plan:List (List Int))(tick k:Nat):(wt plan tick k).length=k:=by simp[wt]
theorem Ry(plan:List (List Int))(tick:Nat){j:Nat}(h:j<k):(wt plan tick k)[j]?=some (dN (tD plan tick j)):=by simp[wt,h]
theorem MM(plan:List (List Int))(tick k:Nat):wt plan tick (k+1)=wt plan tick k++[dN (tD plan tick k)]:=by simp[wt,yAd]
theorem Pe(t:eG)(plan:List (List Int))(tick k:Nat):ga t plan tick k=(gw t (tD plan tick k)&&(List.range k).all λi=>!qR t (tD plan tick k) (tD plan tick i)):=rfl
theorem X5(t:eG)(plan:List (List Int))(tick n:Nat)(ht:TmOk t)(hp:∀l∈plan,l.length=n)(h1:1<=n)(hn:n<=65)(a6:tick<max 1 (n-1))(b2:plan.length<=4):gz 47 (lN t) (.sl (plan.map zs)) (Z tick) (B ((List.range plan.length).all (ga t plan tick))):=by
 refine Dp func47 λC hP hN=>?_;refine kp [7] trivial ?_;refine WP.loopN [10,12] plan.length (λk st=>st.t 3=.ptr 3 0/\st.h 3=some (.box [.pv (.sl (t.maps.map bp)),.pv (.sl (t.conf.map dG))] true false)/\st.t 2=.pv (Z tick)/\st.t 13=.pv (.sl (plan.map zs))/\st.t 14=.pv (Z plan.length)/\st.t 15=.pv (Z k)/\st.t 7=.arr 7 k/\st.h 7=some (.row 87 3 (wt plan tick k) 0)/\st.h 10=none/\st.h 12=none/\tA (ga t plan tick) k) (by simp[nA,wt]) ?_;rintro k st hk ⟨g3,q,g2,d,e,f,u,s,b,c,hq⟩;by_cases g:k<plan.length
 .have hw:=ae g (by omega)
  have G:plan[k]?=some plan[k]:=an g;have a8:=hp _ (Zd g)
  have L:tD plan tick k=fC plan[k] k tick:=by rw[tD,G];rfl
  generalize hx:plan[k]=l at *;have Q:i64.wrap ((tick:Int)+1)=(tick:Int)+1:=aa;have R:i64.wrap ((l.length:Int)-1)=(l.length:Int)-1:=aa
  have W:tick<l.length:=by omega
  have X:min (tick+1) (l.length-1)<l.length:=by omega
  have m2:(if(l.length:Int)-1<(tick:Int)+1 then(l.length:Int)-1 else(tick:Int)+1)=((min (tick+1) (l.length-1):Nat):Int):=by split<;>omega
  have m4:min ((tick:Int)+1) ((l.length:Int)-1)=((min (tick+1) (l.length-1):Nat):Int):=by omega
  have m6:min ((l.length:Int)-1) ((tick:Int)+1)=((min (tick+1) (l.length-1):Nat):Int):=by omega
  have hm:fC l k tick=⟨k,l[tick],l[min (tick+1) (l.length-1)]⟩:=by
   simp only[fC,show min tick (l.length-1)=tick by omega,an W,an X,Y8]
  rw[hm]at L;generalize min (tick+1) (l.length-1)=i2 at *;have a1:=l7 W;have a2:=l7 X;generalize T:l[tick]=x1 at *;generalize U:l[i2]=y at *;have o:=Pe t plan tick k;have P:=MM plan tick k;have a:=Pd plan tick k;have ah:∀j,j<k->(wt plan tick k)[j]?=some (dN (tD plan tick j)):=λj hj=>Ry plan tick hj;have ak:=nB hq;have M:=nC (p:=ga t plan tick) g;have cl:=XZ t ⟨k,x1,y⟩ ht;have ad:=λj=>X3 t (tD plan tick j) ⟨k,x1,y⟩ ht.cl;rw[L]at o P;generalize wt plan tick (k+1)=ys at *;generalize wt plan tick k=xs at *;generalize(List.range plan.length).all (ga t plan tick)=r at *
  cases x:gw t ⟨k,x1,y⟩with
  |false=>
   rw[x]at cl
   have F:ga t plan tick k=false:=by rw[o,x];rfl
   rw[M F];exact GS (zAc g3 q g2 d e f u s b c g hw hx G (zAb Q R W X m2 m4 m6 a1 a2 T U a))
  |true=>
   rw[x]at cl;rw[x,Zf]at o;refine GT (zAc g3 q g2 d e f u s b c g hw hx G (zAb Q R W X m2 m4 m6 a1 a2 T U a)) ?_;refine WP.loopN [12] k (λj st=>st.t 3=.ptr 3 0/\st.h 3=some (.box [.pv (.sl (t.maps.map bp)),.pv (.sl (t.conf.map dG))] true false)/\st.t 2=.pv (Z tick)/\st.t 13=.pv (.sl (plan.map zs))/\st.t 14=.pv (Z plan.length)/\st.t 15=.pv (Z k)/\st.t 7=.arr 7 k/\st.h 7=some (.row 87 3 xs 0)/\st.t 10=.ptr 10 0/\st.h 10=some (.box [.pv (Z k),.pv (Z x1),.pv (Z y)] true false)/\st.h 12=none/\st.t 39=.arr 7 k/\st.t 40=.pv (Z k)/\st.t 41=.pv (Z j)/\tA (λi=>!qR t ⟨k,x1,y⟩ (tD plan tick i)) j) (by simp[nA,g3,q,g2,d,e,f,u,s,b,c,a]) ?_;clear g3 q g2 d e f u s b c;rintro j st hj ⟨g3,q,g2,d,e,f,u,s,z,b,c,A,D,E,O⟩;by_cases m:j<k
   .have S:=ae m (by omega)
    have H:=ah j m;have V:xs[j]'(by omega)=dN (tD plan tick j):=(th.1 H).2;have N:=nB O;have K:=nC (p:=λi=>!qR t ⟨k,x1,y⟩ (tD plan tick i)) m;have Y:=ad j;rw[Gc]at Y
    have J:j<xs.length:=by omega
    try simp only at N K
    generalize bq:tD plan tick j=mj at *;obtain⟨c1,c2,c3⟩:=mj
    cases v:qR t ⟨k,x1,y⟩ ⟨c1,c2,c3⟩with
    |true=>
     rw[v]at Y
     have F:ga t plan tick k=false:=by rw[o];exact K (by rw[v];rfl)
     rw[M F];exact GS (zAc g3 q g2 d e f u s z b c A D E (so m S H V J a))
    |false=>
     rw[v]at Y;refine GT (zAc g3 q g2 d e f u s z b c A D E (so m S H V J a)) ?_
     all_goals exact N (by rw[v];rfl)
   .have I:j=k:=by omega
    subst I
    have ar:ga t plan tick j=true:=by rw[o];exact qw O (by omega)
    have aj:=ak ar;have a7:ys=xs++[dN ⟨j,x1,y⟩]:=P;refine GT (zAc g3 q g2 d e f u s z b c A D E (it hw a (show(j+1)*24<=140737488355328 by omega) (show j<=9223372036854775806 by omega) (show j+1<=9223372036854775807 by omega))) ?_
    all_goals exact⟨a7.symm,aj⟩
 .rw[qw hq g]
  exact GS (zAa g3 q g2 d e f u s b (gA c g))
structure PLk(plan:List (List Int)):Prop where
 nl:plan.length<=9223372036854775807
 el:∀l∈plan,l.length<=9223372036854775807
theorem Pf(t:eG)(a goals:List Int)(plan:List (List Int)):sO t a goals plan=(fy t&&(decide (a.length=t.maps.length)&&(decide (goals.length=t.maps.length)&&(decide (plan.length=t.maps.length) &&
 (decide (1<=((plan[0]?).getD []).length)&&(decide (((plan[0]?).getD []).length<=65)&&((List.range plan.length).all (il plan a goals ((plan[0]?).getD []).length) &&
   (List.range (max 1 (((plan[0]?).getD []).length-1))).all λtick=>(List.range plan.length).all (ga t plan tick)))))))):=rfl
theorem Pg{l:List Int}{b c:Int}(i:plan[k]?=some l)(g:l.length=n)(e:l[0]?=some a)(h1:l[n-1]?=some b)(hs:starts[k]?=some c)(f:goals[k]?=some d):il plan starts goals n k=(a==c&&b==d):=by
 unfold il;rw[i,Y8,g,e,h1,hs,f];simp
theorem MN{l:List Int}(b:plan[k]?=some l)(a:l.length≠n):il plan starts goals n k=false:=by
 unfold il;rw[b,Y8,ZU a];rfl
theorem KS(h:(List.range plan.length).all (il plan starts goals n)=true):∀l∈plan,l.length=n:=by
 intro l c;obtain⟨k,b⟩:=Z6.1 c;have a:=(th.1 b).1;have:=L4.1 h k (Zw.2 a);simp only[il,b,Y8,up,Is]at this;exact this.1
theorem HY{t:eG}(h:fy t=true):1<=t.maps.length/\t.maps.length<=4:=by
 simp only[fy,up,Is]at h;exact⟨h.1,h.2.1⟩
theorem X6(t:eG)(a goals:List Int)(plan:List (List Int))(ht:TmOk t)(hp:PLk plan)(a6:a.length<=9223372036854775807)(ak:goals.length<=9223372036854775807):mD 20 (lN t) (zs a) (zs goals) (.sl (plan.map zs)) (B (sO t a goals plan)):=by
 have cc:=Rx t ht;rw[Pf]
 cases hc:fy t with
 |false=>
  rw[hc]at cc;rw[Zt];refine Dp func20 λC hP hN=>?_;exact Gy
 |true=>
  rw[hc]at cc;rw[Zf];obtain⟨k1,k2⟩:=HY hc;by_cases b:a.length=t.maps.length/\goals.length=t.maps.length/\plan.length=t.maps.length
  .obtain⟨l1,l2,S⟩:=b
   rw[Zs l1,Zs l2,Zs S,Zf,Zf,Zf]
   have g:0<plan.length:=by omega
   have N:plan[0]?=some plan[0]:=an g;have aj:=hp.el _ (Zd g);rw[N,Y8];obtain⟨n,hn⟩:∃n,plan[0].length=n:=⟨_,rfl⟩;rw[hn];generalize P:plan[0]=p0 at *;by_cases F:1<=n/\n<=65
   .obtain⟨n1,n2⟩:=F
    rw[Zs n1,Zs n2,Zf,Zf]
    have w1:¬(n:Int)<1:=by omega
    have w2:¬65<(n:Int):=by omega
    have w3:i64.wrap ((n:Int)-1)=((n-1:Nat):Int):=by rw[IntKind.wrap_i64];omega
    have w4:max ((n-1:Nat):Int) 1=((max 1 (n-1):Nat):Int):=by omega
    have w5:¬n=0:=by omega
    have w6:(if((1:Int))>((n-1:Nat):Int)then(1:Int)else((n-1:Nat):Int))=((max 1 (n-1):Nat):Int):=by split<;>omega
    have w7:max 1 ((n-1:Nat):Int)=((max 1 (n-1):Nat):Int):=by omega
    have w8:n-1<n:=by omega
    have w9:¬((n-1:Nat):Int)<0:=by omega
    have X:max 1 (n-1)<=64:=by omega
    have a7:∀q,q<max 1 (n-1)->q<max 1 (n-1):=λ_ h=>h;obtain⟨Q,D⟩:∃Q,n-1=Q:=⟨_,rfl⟩;obtain⟨M,V⟩:∃M,max 1 (n-1)=M:=⟨_,rfl⟩;rw[V]at w4 w6 w7 X;rw[D]at w3 w4 w6 w7 w8 w9;rw[V];obtain⟨EA,e⟩:∃x,x=(List.range plan.length).all (il plan a goals n):=⟨_,rfl⟩;obtain⟨SA,s⟩:∃x,x=(List.range M).all λtick=>(List.range plan.length).all (ga t plan tick):=⟨_,rfl⟩;rw[<-e,<-s];refine Dp func20 λC hP hN=>?_;refine GT (zAa l1 l2 S N P hn g w1 w2 w5) ?_;refine WP.loopN [] plan.length (λk st=>st.t 4=.ptr 4 0/\st.h 4=some (.box [.pv (.sl (t.maps.map bp)),.pv (.sl (t.conf.map dG))] true false)/\st.t 1=.pv (zs a)/\st.t 2=.pv (zs goals)/\st.t 3=.pv (.sl (plan.map zs))/\st.t 10=.pv (Z n)/\st.t 48=.pv (.sl (plan.map zs))/\st.t 49=.pv (Z plan.length)/\st.t 50=.pv (Z k)/\tA (il plan a goals n) k) (by simp[nA,S]) ?_;rintro k st hk ⟨g4,z,g1,g2,g3,j,m,o,r,hq⟩;by_cases c:k<plan.length
    .have R:=ae c hp.nl
     have y:plan[k]?=some plan[k]:=an c;have A:=nB hq;have d:=nC (p:=il plan a goals n) c;generalize hx:plan[k]=l at *;by_cases u:l.length=n
     .have J:0<l.length:=by omega
      have K:Q<l.length:=by omega
      have a0:=l7 J;have a1:=l7 K
      have I:k<a.length:=by omega
      have H:k<goals.length:=by omega
      have a2:=l7 I;have a3:=l7 H
      have W:k<t.maps.length:=by omega
      have G:=Pg y u a0 (by rw[D];exact a1) a2 a3;generalize O:l[0]=x0 at *;generalize Y:l[Q]=x1 at *;generalize ad:a[k]=x2 at *;generalize ah:goals[k]=x3 at *;generalize il plan a goals n k=ee at *;rw[<-e]at d;clear e s
      with_reducible repeat' (first|refine Sp.h ?_|((first|refine Wd ?_|refine Ss.h ?_|(refine Sb.h ?_ ?_ ?_<;>(try intro hgd)<;>try exact Xy))<;>simp -implicitDefEqProofs (maxSteps:=2000000) [hP,hN,g4,z,g1,g2,g3,j,m,o,r,c,R,hx,y,u,J,K,a0,a1,a2,a3,I,H,O,Y,ad,ah,w3,w8,w9,l1,l2,S,W]<;>try refine Ya ?_)|refine X2 ?_ ?_|(refine Xd ?_ ?_<;>intro hcd<;>try exact Xx))
      all_goals first|exact A (by rw[G];simp_all)|(rw[d (by rw[G];simp_all)];simp;done)|trace_state
     .rw[<-e]at d
      rw[d (MN y u)]
      with_reducible repeat' (first|refine Sp.h ?_|((first|refine Wd ?_|refine Ss.h ?_|(refine Sb.h ?_ ?_ ?_<;>(try intro hgd)<;>try exact Xy))<;>simp -implicitDefEqProofs (maxSteps:=2000000) [hP,hN,g4,z,g1,g2,g3,j,m,o,r,c,R,hx,y,u]<;>try refine Ya ?_)|refine X2 ?_ ?_|(refine Xd ?_ ?_<;>intro hcd<;>try exact Xx))
    .have f:=qw hq c
     have b:=KS f;rw[<-e]at f;rw[f,Zf];refine GT (zAb g4 z g1 g2 g3 j m o r c w3 (be w4 w6 w7)) ?_;refine WP.loopN [] M (λq st=>st.t 4=.ptr 4 0/\st.h 4=some (.box [.pv (.sl (t.maps.map bp)),.pv (.sl (t.conf.map dG))] true false)/\st.t 3=.pv (.sl (plan.map zs))/\st.t 84=.pv (Z M)/\st.t 85=.pv (Z q)/\tA (λtick=>(List.range plan.length).all (ga t plan tick)) q) (by simp[nA,g4,z,g3]) ?_;clear g4 z g1 g2 g3 j m o r;rintro q st ar ⟨g4,z,g3,T,U,L⟩;by_cases i:q<M
     .have R:=ae i (by omega)
      have ct:=X5 t plan q n ht b n1 n2 (by rw[V];exact i) (by omega);have A:=nB L;have d:=nC (p:=λtick=>(List.range plan.length).all (ga t plan tick)) i;rw[<-s]at d
      cases v:(List.range plan.length).all (ga t plan q)with
      |true=>
       rw[v]at ct;refine GT (s6 g4 z g3 T U i R) ?_
       all_goals exact A v
      |false=>
       rw[v]at ct;rw[d v];exact Gy
     .have E:=qw L i
      rw[<-s]at E;rw[E];exact Gy
   .have hf:(decide (1<=n)&&(decide (n<=65)&&((List.range plan.length).all (il plan a goals n)&&(List.range (max 1 (n-1))).all λtick=>(List.range plan.length).all (ga t plan tick))))=false:=by
     by_cases n1:1<=n
     .rw[Zs n1,ZU (show¬n<=65 by omega)];rfl
     .rw[ZU n1];rfl
    rw[hf];refine Dp func20 λC hP hN=>?_;exact Gy
    all_goals (exfalso;simp at *;omega)
  .have hf:(decide (a.length=t.maps.length)&&(decide (goals.length=t.maps.length)&&(decide (plan.length=t.maps.length)&&(decide (1<=((plan[0]?).getD []).length)&&(decide (((plan[0]?).getD []).length<=65)&&((List.range plan.length).all (il plan a goals ((plan[0]?).getD []).length)&&(List.range (max 1 (((plan[0]?).getD []).length-1))).all λtick=>(List.range plan.length).all (ga t plan tick)))))))=false:=by
    rw[<-Bool.not_eq_true];intro h;simp only[up,Is]at h;exact b ⟨h.1,h.2.1,h.2.2.1⟩
   rw[hf];refine Dp func20 λC hP hN=>?_;exact Gy
   all_goals (exfalso;simp at *;omega)
abbrev Ri(r:R8):PV:=.agg [Z r.k1,.sl r.k2,Z r.k3,Z r.k4,.sl r.k5,Z r.k6,.sl r.k7,.sl r.k8]
theorem XH:aT 45 (Z 1) (Ri Ga):=by
 refine Dp func45 λC hP hN=>?_;refine Gz ?_
 all_goals simp[Ga]
theorem Tg(t:eG)(l:List Int)(j:TmOk t)(hn:t.maps.length<=1000)(hp:∀m∈t.maps,1<=m.np.length):aS prog 13 [.pv (lN t),.pv (zs l)] [] [] (.row 3 1 ((zF t.maps l t.maps.length).map Z)):=by
 have y:=PO l;refine Dp func13 λC hP hN=>?_;refine kp [6] @vh.eq_1 ?_;refine WP.loopN [] t.maps.length (λi st=>st.t 2=.ptr 2 0/\st.h 2=some (.box [.pv (.sl (t.maps.map bp)),.pv (.sl (t.conf.map dG))] true false)/\st.t 5=.ptr 9 0/\st.h 9=some (.box [.pv (zs l),.pv (Z (jS l i))] true false)/\st.t 7=.pv (Z i)/\st.t 6=.arr 6 i/\st.h 6=some (.row 3 1 ((zF t.maps l i).map Z) 0)) (by simp[jS,zF]) ?_;rintro i st hi ⟨g2,n,g5,o,r,p,b6⟩;have f:=CT t.maps l i;by_cases a:i<t.maps.length
 .have v:=ae a j.nl
  have c:t.maps[i]?=some t.maps[i]:=an a;have b:=Zd a;have s:=hp _ b;have u:=j.pl _ b;have k:=MO t.maps l i;have A:=KT l i
  have g:Jl t.maps ((i:Nat):Int)=t.maps[i]:=by simp[Jl,c]
  rw[g]at k;generalize x:t.maps[i]=m at *;have z:=EV l (jS l i) m.np.length (by omega) (by omega);have d:jS l (i+1)=nn l (jS l i):=rfl;generalize jS l (i+1)=B at *;generalize jS l i=q at *;refine GT (zAc @vh.eq_1 g2 n g5 o r p b6 a v x c f (show(i+1)*8<=140737488355328 by omega) (gA (show i<=9223372036854775806 by omega) (show i+1<=9223372036854775807 by omega))) ?_
  all_goals simp[d,k]
 .have e:i=t.maps.length:=by omega
  subst e;exact Gy
theorem XI(n:Nat)(l:List Int)(hn:n<=1000):aS prog 14 [.pv (Z n),.pv (zs l)] [] [] (.row 3 1 ((ie l n).map Z)):=by
 have G:=PO l;refine Dp func14 λC hP hN=>?_;refine kp [6] @vh.eq_1 ?_;refine WP.loopN [] n (λi st=>st.t 0=.pv (Z n)/\st.t 5=.ptr 10 0/\st.h 10=some (.box [.pv (zs l),.pv (Z (jS l i))] true false)/\st.t 7=.pv (Z i)/\st.t 6=.arr 6 i/\st.h 6=some (.row 3 1 ((ie l i).map Z) 0)) (by simp[jS,ie]) ?_;rintro i st hi ⟨g0,g5,p,D,B,b6⟩;have a:=At l i;by_cases e:i<n
 .have F:=ae e (by omega)
  have y:(i:Int)<(n:Int):=by omega
  have H:=KT l i;have I:=jr l (jS l i) (k:=(i:Int)+1) (by omega) (by omega);have A:=EV l (jS l i) ((i:Int)+1) (by omega) (by omega);obtain⟨k,E⟩:∃k:Nat,nx l (jS l i) ((i:Int)+1)=k:=⟨(nx l (jS l i) ((i:Int)+1)).toNat,by omega⟩;have r:jS l (i+1)=nn l (jS l i):=rfl;have b:ie l (i+1)=((ie l i++[(i:Int)]).set i (((ie l i++[(i:Int)])[(nx l (jS l i) ((i:Int)+1)).toNat]?).getD 0)).set (nx l (jS l i) ((i:Int)+1)).toNat i:=rfl;rw[E]at b A;rw[Y9]at b
  have u:k<i+1:=by omega
  have d:k<(ie l i++[(i:Int)]).length:=by simp[a];omega
  rw[an d,Y8]at b;obtain⟨x,z⟩:∃x,(ie l i++[(i:Int)])[k]=x:=⟨_,rfl⟩;rw[z]at b
  have m:((ie l i).map Z++[Z i])[k]?=some (Z x):=by
   have:(ie l i).map Z++[Z (i:Int)]=(ie l i++[(i:Int)]).map Z:=by simp
   rw[this,YS,an d,z];rfl
  have g:((ie l i).map Z++[Z (i:Int)])[i]?=some (Z (i:Int)):=by
   rw[YX (by simp[a])];simp[a]
  have c:(ie l (i+1)).map Z=(((ie l i).map Z++[Z (i:Int)]).set i (Z x)).set k (Z (i:Int)):=by
   rw[b,yAl,yAl];simp
  have v:((ie l i).map Z++[Z (i:Int)]).length=i+1:=by simp[a]
  have f:((ie l i).map Z++[Z (i:Int)]).set i (Z x)=(ie l i).map Z++[Z x]:=by rw[List.set_append_right _ _ (by simp[a])];simp[a]
  rw[f]at c;have o:∀h,((ie l i).map Z++[Z (i:Int)])[k]'h=Z x:=λh=>(th.1 m).2;have j:∀h,((ie l i).map Z++[Z (i:Int)])[i]'h=Z (i:Int):=λh=>(th.1 g).2;generalize(ie l (i+1)).map Z=K at *;generalize jS l (i+1)=J at *;generalize jS l i=q at *;refine GT (zAc @vh.eq_1 g0 g5 p D B b6 e y F a (show(i+1)*8<=140737488355328 by omega) (show i<=9223372036854775806 by omega) (show i+1<=9223372036854775807 by omega) (so u m g o j v)) ?_
  all_goals exact⟨by rw[r],c.symm⟩
 .have s:i=n:=by omega
  subst s;exact Gy
def sK(o:Option aG)(v:Nat):List Int:=match o with
 |some e=>if e.s=1 then(if e.u=v then[e.v]else if e.v=v then[e.u]else[])else[]
 |none=>[]
def dQ(es:List aG)(v:Nat):Nat->List Int
 |0=>[(v:Int)]
 |i+1=>dQ es v i++sK es[i]? v
def jl(m:eU)(v:Nat):List Int:=(dQ m.es v m.es.length).mergeSort λx y=>decide (x<=y)
def gn(lg:Nat->Nat->Bool)(n v:Nat):List Nat:=(List.range n).filter (lg v)
def DA(m:eU)(v u:Nat):Bool:=decide (v=u)||l8 m.es (min (v:Int) u) (max (v:Int) u)
theorem HN{o:Option aG}{x:Int}:x∈sK o v↔∃e,o=some e/\e.s=1/\((e.u=v/\x=e.v)\/(e.u≠v/\e.v=v/\x=e.u)):=by
 cases o with
 |none=>simp[sK]
 |some e=>
  unfold sK;by_cases h1:e.s=1
  .by_cases h2:e.u=v
   .simp[h1,h2]
   .by_cases h3:e.v=v
    all_goals simp[h1,h2,h3]
  .simp[h1]
theorem yR{es:List aG}{v:Nat}{x:Int}:∀{i:Nat},x∈dQ es v i↔x=v\/∃j e,j<i/\es[j]?=some e/\e.s=1/\((e.u=v/\x=e.v)\/(e.u≠v/\e.v=v/\x=e.u))
 |0=>by simp[dQ]
 |i+1=>by
  rw[dQ,Y7,yR,HN];constructor
  .rintro((h|⟨j,e,b,h⟩)|⟨e,h⟩)
   .exact .inl h
   .exact .inr ⟨j,e,by omega,h⟩
   .exact .inr ⟨i,e,by omega,h⟩
  .rintro(h|⟨j,e,b,h⟩)
   .exact .inl (.inl h)
   .by_cases a:j=i
    .subst a;exact .inr ⟨e,h⟩
    .exact .inl (.inr ⟨j,e,by omega,h⟩)
theorem HO(o:Option aG)(v:Nat):(sK o v).length<=1:=by
 unfold sK;split
 .split
  .split
   .simp
   .split<;>simp
  .simp
 .simp
theorem yS(es:List aG)(v:Nat):∀i,1<=(dQ es v i).length/\(dQ es v i).length<=i+1
 |0=>by simp[dQ]
 |i+1=>by
  have h:=yS es v i;have h1:=HO es[i]? v;rw[dQ,Zb];omega
theorem KH{es:List aG}{n:Nat}(m:eH n (-1) (-1) es=true){v:Nat}:∀{i:Nat},(dQ es v i).Nodup
 |0=>by simp[dQ]
 |i+1=>by
  have c:=jA m;rw[dQ,List.nodup_append];refine⟨KH m,?_,?_⟩
  .have:=HO es[i]? v
   match h:sK es[i]? v,this with
   |[],_=>simp
   |[_],_=>simp
  .intro a ha b hb d
   subst d;obtain⟨e,l,_,hb⟩:=HN.1 hb;have g:=(c.1 e (An l)).1;simp only[t6,up,Is]at g;rcases yR.1 ha with h|⟨j,f,p,hf,_,o⟩
   .omega
   .have:=c.2 j i f e hf l p
    have k:=(c.1 f (An hf)).1;simp only[t6,up,Is]at k;omega
theorem Bu(f:dt m=true){u:Nat}(i:v<m.np.length):(u:Int)∈dQ m.es v m.es.length↔u<m.np.length/\DA m v u=true:=by
 simp only[dt,up,Is]at f;have c:=jA f.2.2;rw[yR];simp only[DA,ZI,Is,l8,yAF,up,ZH];constructor
 .rintro(h|⟨j,e,d,g,k,h⟩)
  .have:u=v:=by omega
   subst this;exact⟨i,.inl rfl⟩
  .have b:=An g
   have a:=(c.1 e b).1;simp only[t6,up,Is]at a;refine⟨by omega,.inr ⟨e,b,?_⟩⟩;omega
 .rintro⟨l,h|⟨e,b,h1,h2,h3⟩⟩
  .subst h;exact .inl rfl
  .have a:=(c.1 e b).1
   simp only[t6,up,Is]at a;obtain⟨j,d⟩:=Z6.1 b;exact .inr ⟨j,e,(th.1 d).1,d,h3,by omega⟩
theorem Bv(g:dt m=true)(k:v<m.np.length):jl m v=(gn (DA m) m.np.length v).map λu=>((u:Nat):Int):=by
 have d:=g;simp only[dt,up,Is]at d;have hp:(jl m v).Perm (dQ m.es v m.es.length):=List.mergeSort_perm _ _
 have i:((gn (DA m) m.np.length v).map λu=>((u:Nat):Int)).Nodup:=by
  show List.Pairwise _ _;rw[List.pairwise_map]
  exact(List.pairwise_lt_range.filter _).imp λh e=>by omega
 refine List.Perm.eq_of_pairwise (le:=λa b=>decide (a<=b)=true) (λa b _ _ h1 h2=>by simp only[Is]at h1 h2;omega) ?_ ?_ ?_
 .exact List.pairwise_mergeSort (λa b c h1 h2=>by simp only[Is]at *;omega) (λa b=>by simp only[ZI,Is];omega) _
 .rw[List.pairwise_map]
  refine(List.pairwise_lt_range.filter _).imp λh=>by simp only[Is];omega
 .refine hp.trans ((List.perm_ext_iff_of_nodup (KH d.2.2) i).2 λa=>?_)
  simp only[Zg,gn,ZV,Zw];constructor
  .intro ha
   have h0:0<=a:=by
    rcases yR.1 ha with h|⟨j,e,_,l,_,h⟩
    .omega
    .have f:=((jA d.2.2).1 e (An l)).1
     simp only[t6,up,Is]at f;omega
   obtain⟨u,rfl⟩:∃u:Nat,a=u:=⟨a.toNat,by omega⟩;exact⟨u,(Bu g k).1 ha,rfl⟩
  .rintro⟨u,h,rfl⟩
   exact(Bu g k).2 h
theorem OP{t:eG}(a:t.maps[k]?=some m){u:Nat}(f:v<m.np.length)(e:u<m.np.length):sN t k v u=DA m v u:=by
 have d:=(th.1 a).1;obtain⟨b,c⟩:=BD a;have h1:gp t.maps.length (k:Int)=true:=dV.2 (by omega);have h2:gp m.np.length (v:Int)=true:=dV.2 (by omega);have h3:gp m.np.length (u:Int)=true:=dV.2 (by omega);simp only[sN,gw,Y9,b,c,h1,h2,h3,Zf,DA]
 congr 1
 rw[Bool.eq_iff_iff,ZH,Is];omega
theorem Rk{t:eG}(a:t.maps[k]?=some m)(d:v<m.np.length):gn (DA m) m.np.length v=gn (sN t k) (gU t k) v:=by
 obtain⟨b,_⟩:=BD a;rw[gn,gn,b];refine List.filter_congr λu c=>?_;rw[OP a d (Zw.1 c)]
end Go.Ab
