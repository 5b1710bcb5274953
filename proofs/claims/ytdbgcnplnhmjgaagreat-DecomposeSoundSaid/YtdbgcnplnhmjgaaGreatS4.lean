/- The contracts and facts that the laws of this seat need, in one text (Ty, CfA). -/
import Derived.Test.YtdbgcnplnhmjgaaGreatS3
import Derived.Test.YtdbgcnplnhmjgaaGreatProg
set_option linter.all false
set_option maxRecDepth 10000
set_option maxHeartbeats 16000000
namespace Go.Ab
open Go.Proofs
variable {i n:Nat}{k:Int}{α β:Type}{f:α->β->Bool}{p:α->Bool}{xs:List α}{ys:List β}
@[simp] theorem Yr:ao Tryz.prog 2=some ⟨1,(some (.int .i64 0)),.one⟩∧eh Tryz.prog 2=some .i64∧ao Tryz.prog 3=some ⟨1,(some (.int .i64 0)),.one⟩∧eh Tryz.prog 3=some .i64∧ao Tryz.prog 4=some ⟨1,(some (.bool false)),.one⟩∧ao Tryz.prog 5=some ⟨1,(some (.int .u8 0)),.one⟩∧eh Tryz.prog 5=some .u8∧ao Tryz.prog 9=some ⟨1,(some (.string ByteArray.empty)),.one⟩∧ik Tryz.prog 9=some none∧ao Tryz.prog 22=some ⟨1,(some (.slice none 0 0)),.slice 81 12 104 (some (.agg #[.string ByteArray.empty,.int .i64 0,.int .i64 0,.int .i64 0,.int .i64 0,.int .i64 0,.int .i64 0,.int .i64 0,.int .i64 0,.int .i64 0,.int .i64 0,.int .i64 0]))⟩∧ao Tryz.prog 23=some ⟨1,(some (.slice none 0 0)),.slice 122 5 40 (some (.agg #[.int .i64 0,.int .i64 0,.int .i64 0,.int .i64 0,.int .i64 0]))⟩∧ao Tryz.prog 25=some ⟨2,(some (.agg #[.slice none 0 0,.slice none 0 0])),.struct [(0,1),(1,1)]⟩∧ao Tryz.prog 26=some ⟨1,(some (.slice none 0 0)),.slice 70 3 40 (some (.agg #[.int .i64 0,.int .i64 0,.slice none 0 0]))⟩∧ao Tryz.prog 27=some ⟨1,(some (.slice none 0 0)),.slice 78 2 16 (some (.agg #[.int .i64 0,.int .i64 0]))⟩∧ao Tryz.prog 29=some ⟨4,(some (.agg #[.slice none 0 0,.slice none 0 0,.slice none 0 0,.slice none 0 0])),.struct [(0,2),(2,1),(3,1)]⟩∧ao Tryz.prog 30=some ⟨1,(some (.slice none 0 0)),.slice 2 1 8 (some (.int .i64 0))⟩:=by repeat' (first|kernel_rfl|refine ⟨by kernel_rfl,?_⟩)
@[simp] theorem OV:ao Tryz.prog 31=some ⟨1,(some (.slice none 0 0)),.slice 3 1 8 (some (.int .i64 0))⟩:=by kernel_rfl
@[simp] theorem XT:ao Tryz.prog 39=some ⟨1,(some (.slice none 0 0)),.slice 50 2 16 (some (.agg #[.int .i64 0,.int .i64 0]))⟩∧ao Tryz.prog 40=some ⟨1,(some (.slice none 0 0)),.slice 58 8 112 (some (.agg #[.int .i64 0,.int .i64 0,.int .i64 0,.int .i64 0,.slice none 0 0,.int .i64 0,.slice none 0 0,.slice none 0 0]))⟩∧ao Tryz.prog 42=some ⟨2,(some (.agg #[.slice none 0 0,.slice none 0 0])),.struct [(0,1),(1,1)]⟩∧ao Tryz.prog 45=some ⟨1,(some (.slice none 0 0)),.slice 39 1 24 (some (.slice none 0 0))⟩∧ao Tryz.prog 50=some ⟨2,(some (.agg #[.int .i64 0,.int .i64 0])),.struct [(0,1),(1,1)]⟩∧ao Tryz.prog 52=some ⟨1,(some (.slice none 0 0)),.slice 68 3 24 (some (.agg #[.int .i64 0,.int .i64 0,.int .i64 0]))⟩∧ao Tryz.prog 54=some ⟨3,(some (.agg #[.int .i64 0,.slice none 0 0,.slice none 0 0])),.struct [(0,1),(1,1),(2,1)]⟩∧ao Tryz.prog 56=some ⟨5,(some (.agg #[.int .i64 0,.slice none 0 0,.int .i64 0,.slice none 0 0,.slice none 0 0])),.struct [(0,1),(1,1),(2,3)]⟩∧ao Tryz.prog 58=some ⟨8,(some (.agg #[.int .i64 0,.int .i64 0,.int .i64 0,.int .i64 0,.slice none 0 0,.int .i64 0,.slice none 0 0,.slice none 0 0])),.struct [(0,1),(1,1),(2,1),(3,5)]⟩∧ao Tryz.prog 68=some ⟨3,(some (.agg #[.int .i64 0,.int .i64 0,.int .i64 0])),.array 3 1⟩∧ik Tryz.prog 68=some (some 3)∧ao Tryz.prog 70=some ⟨3,(some (.agg #[.int .i64 0,.int .i64 0,.slice none 0 0])),.struct [(0,1),(1,1),(2,1)]⟩∧ao Tryz.prog 78=some ⟨2,(some (.agg #[.int .i64 0,.int .i64 0])),.struct [(0,1),(1,1)]⟩∧ao Tryz.prog 81=some ⟨12,(some (.agg #[.string ByteArray.empty,.int .i64 0,.int .i64 0,.int .i64 0,.int .i64 0,.int .i64 0,.int .i64 0,.int .i64 0,.int .i64 0,.int .i64 0,.int .i64 0,.int .i64 0])),.struct [(0,1),(1,1),(2,1),(3,3),(6,1),(7,1),(8,1),(9,1),(10,1),(11,1)]⟩∧ao Tryz.prog 82=some ⟨1,(some (.int .i64 0)),.one⟩∧ao Tryz.prog 87=some ⟨1,(some (.pointer none)),.one⟩:=by repeat' (first|kernel_rfl|refine ⟨by kernel_rfl,?_⟩)
@[simp] theorem Tt:ao Tryz.prog 90=some ⟨1,(some (.slice none 0 0)),.slice 31 1 24 (some (.slice none 0 0))⟩:=by kernel_rfl
@[simp] theorem Yq:ao Tryz.prog 92=some ⟨5,(some (.agg #[.slice none 0 0,.slice none 0 0,.slice none 0 0,.slice none 0 0,.slice none 0 0])),.struct [(0,2),(2,1),(3,1),(4,1)]⟩∧ao Tryz.prog 119=some ⟨2,(some (.agg #[.slice none 0 0,.int .i64 0])),.struct [(0,1),(1,1)]⟩∧ao Tryz.prog 122=some ⟨5,(some (.agg #[.int .i64 0,.int .i64 0,.int .i64 0,.int .i64 0,.int .i64 0])),.struct [(0,1),(1,1),(2,3)]⟩∧ao Tryz.prog 139=some ⟨1,(some (.nilFunc)),.one⟩∧ao Tryz.prog 141=some ⟨4,(some (.agg #[.pointer none,.slice none 0 0,.slice none 0 0,.nilFunc])),.struct [(0,1),(1,1),(2,1),(3,1)]⟩∧ao Tryz.prog 147=some ⟨1,(some (.slice none 0 0)),.slice 200 2 16 (some (.agg #[.int .i64 0,.int .i64 0]))⟩∧ao Tryz.prog 148=some ⟨1,(some (.slice none 0 0)),.slice 153 1 24 (some (.slice none 0 0))⟩∧ao Tryz.prog 150=some ⟨3,(some (.agg #[.slice none 0 0,.slice none 0 0,.slice none 0 0])),.struct [(0,1),(1,1),(2,1)]⟩∧ao Tryz.prog 153=some ⟨1,(some (.slice none 0 0)),.slice 216 6 48 (some (.agg #[.int .i64 0,.int .i64 0,.int .i64 0,.int .i64 0,.int .i64 0,.int .i64 0]))⟩∧ao Tryz.prog 155=some ⟨4,(some (.agg #[.slice none 0 0,.slice none 0 0,.int .i64 0,.int .i64 0])),.struct [(0,1),(1,1),(2,1),(3,1)]⟩∧ao Tryz.prog 160=some ⟨7,(some (.agg #[.int .i64 0,.int .i64 0,.int .i64 0,.int .i64 0,.slice none 0 0,.slice none 0 0,.int .i64 0])),.struct [(0,1),(1,3),(4,1),(5,1),(6,1)]⟩∧ao Tryz.prog 166=some ⟨3,(some (.agg #[.int .i64 0,.slice none 0 0,.slice none 0 0])),.struct [(0,3)]⟩∧ao Tryz.prog 168=some ⟨1,(some (.agg #[.slice none 0 0])),.struct [(0,1)]⟩∧ao Tryz.prog 174=some ⟨1,(some (.slice none 0 0)),.slice 179 2 32 (some (.agg #[.slice none 0 0,.int .i64 0]))⟩∧ao Tryz.prog 179=some ⟨2,(some (.agg #[.slice none 0 0,.int .i64 0])),.struct [(0,1),(1,1)]⟩∧ao Tryz.prog 182=some ⟨8,(some (.agg #[.int .i64 0,.int .i64 0,.int .i64 0,.int .i64 0,.int .i64 0,.int .i64 0,.int .i64 0,.int .i64 0])),.array 8 1⟩∧ik Tryz.prog 182=some (some 8)∧ao Tryz.prog 200=some ⟨2,(some (.agg #[.int .i64 0,.int .i64 0])),.struct [(0,1),(1,1)]⟩∧ao Tryz.prog 206=some ⟨2,(some (.agg #[.slice none 0 0,.slice none 0 0])),.struct [(0,1),(1,1)]⟩∧ao Tryz.prog 209=some ⟨2,(some (.agg #[.slice none 0 0,.slice none 0 0])),.struct [(0,2)]⟩∧ao Tryz.prog 210=some ⟨2,(some (.agg #[.slice none 0 0,.slice none 0 0])),.struct [(0,2)]⟩∧ao Tryz.prog 212=some ⟨8,(some (.agg #[.slice none 0 0,.slice none 0 0,.slice none 0 0,.slice none 0 0,.int .i64 0,.int .i64 0,.int .i64 0,.int .i64 0])),.struct [(0,2),(2,2),(4,3),(7,1)]⟩∧ao Tryz.prog 215=some ⟨6,(some (.agg #[.int .i64 0,.int .i64 0,.int .i64 0,.int .i64 0,.int .i64 0,.int .i64 0])),.array 3 2⟩∧ao Tryz.prog 216=some ⟨6,(some (.agg #[.int .i64 0,.int .i64 0,.int .i64 0,.int .i64 0,.int .i64 0,.int .i64 0])),.array 3 2⟩∧ik Tryz.prog 216=none∧uN Tryz.prog 216=some (3,2)∧ao Tryz.prog 230=some ⟨1,(some (.nilFunc)),.one⟩∧ao Tryz.prog 242=some ⟨1,(some (.slice none 0 0)),.slice 247 24 192 (some (.agg #[.int .i64 0,.int .i64 0,.int .i64 0,.int .i64 0,.int .i64 0,.int .i64 0,.int .i64 0,.int .i64 0,.int .i64 0,.int .i64 0,.int .i64 0,.int .i64 0,.int .i64 0,.int .i64 0,.int .i64 0,.int .i64 0,.int .i64 0,.int .i64 0,.int .i64 0,.int .i64 0,.int .i64 0,.int .i64 0,.int .i64 0,.int .i64 0]))⟩∧ao Tryz.prog 245=some ⟨18,(some (.agg #[.int .i64 0,.int .i64 0,.int .i64 0,.int .i64 0,.int .i64 0,.int .i64 0,.int .i64 0,.int .i64 0,.int .i64 0,.int .i64 0,.int .i64 0,.int .i64 0,.int .i64 0,.int .i64 0,.int .i64 0,.int .i64 0,.int .i64 0,.int .i64 0])),.array 3 6⟩∧ao Tryz.prog 247=some ⟨24,(some (.agg #[.int .i64 0,.int .i64 0,.int .i64 0,.int .i64 0,.int .i64 0,.int .i64 0,.int .i64 0,.int .i64 0,.int .i64 0,.int .i64 0,.int .i64 0,.int .i64 0,.int .i64 0,.int .i64 0,.int .i64 0,.int .i64 0,.int .i64 0,.int .i64 0,.int .i64 0,.int .i64 0,.int .i64 0,.int .i64 0,.int .i64 0,.int .i64 0])),.struct [(0,18),(18,6)]⟩∧ao Tryz.prog 255=some ⟨2,(some (.agg #[.slice none 0 0,.int .i64 0])),.struct [(0,1),(1,1)]⟩∧ao Tryz.prog 257=some ⟨4,(some (.agg #[.slice none 0 0,.int .i64 0,.slice none 0 0,.int .i64 0])),.struct [(0,2),(2,2)]⟩∧ao Tryz.prog 299=some ⟨1,(some (.agg #[.nilFunc])),.struct [(0,1)]⟩∧ao Tryz.prog 313=some ⟨1,(some (.nilFunc)),.one⟩∧ao Tryz.prog 315=some ⟨2,(some (.agg #[.nilFunc,.nilFunc])),.struct [(0,1),(1,1)]⟩∧ao Tryz.prog 319=some ⟨1,(some (.int .u64 0)),.one⟩∧eh Tryz.prog 319=some .u64∧ao Tryz.prog 321=some ⟨4,(some (.agg #[.int .i64 0,.int .i64 0,.int .i64 0,.int .i64 0])),.array 4 1⟩∧ik Tryz.prog 321=some (some 4)∧ao Tryz.prog 326=some ⟨11,(some (.agg #[.int .i64 0,.int .i64 0,.int .i64 0,.int .i64 0,.int .i64 0,.int .i64 0,.int .i64 0,.int .i64 0,.int .i64 0,.int .i64 0,.int .i64 0])),.array 11 1⟩∧ao Tryz.prog 329=some ⟨11,(some (.agg #[.int .i64 0,.int .i64 0,.int .i64 0,.int .i64 0,.int .i64 0,.int .i64 0,.int .i64 0,.int .i64 0,.int .i64 0,.int .i64 0,.int .i64 0])),.array 11 1⟩:=by repeat' (first|kernel_rfl|refine ⟨by kernel_rfl,?_⟩)
abbrev I(lo hi:Int):PV:=.val (.agg #[.int .i64 lo,.int .i64 hi])
abbrev aR(x:Int×Int):PV:=I x.1 x.2
abbrev B(b:Bool):PV:=.val (.bool b)
abbrev Z(n:Int):PV:=.val (.int .i64 n)
abbrev wr(n:Int):Int:=IntKind.i64.wrap n
def ay(lo hi:Int):Bool:=decide (-2147483648<=lo)&&decide (lo<=hi)&&decide (hi<=2147483648)
theorem T0(a b c d:Int):aq Tryz.prog (Op.equal 50 (.agg #[.int .i64 a,.int .i64 b]) (.agg #[.int .i64 c,.int .i64 d]))=some (a==c&&b==d):=by
 have hf:(Tryz.prog.fieldsOf 50).toList=[(Tryz.prog.fieldsOf 50)[0]!,(Tryz.prog.fieldsOf 50)[1]!]:=by kernel_rfl
 show aq Tryz.prog (Op.equalIn (9999+1) 50 _ _)=_;rw[BM 9999 50 _ _ (by kernel_rfl) (by kernel_rfl),hf]
 have h:=xS (P:=Tryz.prog) (d:=9999) (xs:=#[.int .i64 a,.int .i64 b]) (ys:=#[.int .i64 c,.int .i64 d]) (f:=(Tryz.prog.fieldsOf 50)[0]!) (fs:=[(Tryz.prog.fieldsOf 50)[1]!]) (a:=.int .i64 a) (b:=.int .i64 c) (by decide +kernel) (by kernel_rfl) (by kernel_rfl) (wK 9998 _ .i64 .i64 a c (by kernel_rfl))
  (xS (by decide +kernel) (a:=.int .i64 b) (b:=.int .i64 d) (by kernel_rfl) (by kernel_rfl) (wK 9998 _ .i64 .i64 b d (by kernel_rfl)) HI)
 rw[h];simp
def jN(P:Program)(o:Oper)(ρ:Operand->AV):Option dl:=bR P o ρ
def xV(x:AV):Option (Int×Int):=match x with
 |.pv (.val (.agg vs))=>match vs.toList with
  |[.int .i64 a,.int .i64 b]=>some (a,b)
  |_=>none
 |_=>none
theorem rm{x:AV}{a b:Int}(h:xV x=some (a,b)):x=.pv (I a b):=by
 unfold xV at h;split at h
 .split at h
  .rename_i vs _ a' b' hv
   injection h with h;injection h with h1 h2;subst h1;subst h2;rw[<-Array.toArray_toList (xs:=vs),hv]
  .cases h
 .cases h
def Jo(x y:AV)(fb:Option dl):Option dl:=match xV x,xV y with
 |some (a,b),some (c,d)=>some (.pv (.val (.bool !(a==c&&b==d))),[])
 |_,_=>fb
@[simp] theorem P1(a b c d:Int)(fb:Option dl):Jo (.pv (.val (.agg #[.int .i64 a,.int .i64 b]))) (.pv (.val (.agg #[.int .i64 c,.int .i64 d]))) fb=some (.pv (.val (.bool !(a==c&&b==d))),[]):=rfl
@[simp] theorem Xp{dst:Option Nat}{ty:TypeId}{pos:String}{aft:Array Edge}{g:Option (Nat×Bool)}{ρ:Operand->AV}(x y:Operand):
 bR Tryz.prog ⟨dst,.binOp .neq 50 x y 50,ty,pos,aft,g⟩ ρ=Jo (ρ x) (ρ y) (jN Tryz.prog ⟨dst,.binOp .neq 50 x y 50,ty,pos,aft,g⟩ ρ):=by
 unfold Jo;split
 .rename_i a b c d hx hy
  exact Ao rfl (rm hx) (rm hy) (by kernel_rfl) (T0 a b c d)
 .rfl
theorem kg(lo hi:Int):ab Tryz.prog 143 [.pv (I lo hi)] [] [] (.pv (B (ay lo hi))):=by
 refine Dp Tryz.func143 ?_;intro C hP hN;simp only[Tryz.f143]at hN|-
 with_reducible repeat' (first|refine Sp.h ?_|((first|refine Ss.h ?_|(refine Sb.h ?_ ?_ ?_<;>(try intro hgd)<;>try exact Xy))<;>simp -implicitDefEqProofs (maxSteps:=2000000) [hP,hN])|refine X2 ?_ ?_|(refine Xd ?_ ?_<;>intro hcd<;>try exact Xx))
 all_goals (first|(simp_all[ay];done)|((try simp_all[ay])<;>(try omega)<;>grind))
theorem oW(lo hi:Int):ab Tryz.prog 39 [.pv (I lo hi)] [] [] (.pv (B (ay lo hi))):=by
 refine Dp Tryz.func39 ?_;intro C hP hN;simp only[Tryz.f39]at hN|-
 with_reducible repeat' (first|refine Sp.h ?_|((first|refine Ss.h ?_|(refine Sb.h ?_ ?_ ?_<;>(try intro hgd)<;>try exact Xy))<;>simp -implicitDefEqProofs (maxSteps:=2000000) [hP,hN])|refine X2 ?_ ?_|(refine Xd ?_ ?_<;>intro hcd<;>try exact Xx))
 all_goals (first|(simp_all[ay];done)|((try simp_all[ay])<;>(try omega)<;>grind))
theorem zf(a b c d:Int):ab Tryz.prog 176 [.pv (I a b),.pv (I c d)] [] [] (.pv (B (ay a b&&ay c d))):=by
 refine Dp Tryz.func176 ?_;intro C hP hN;simp only[Tryz.f176]at hN|-
 with_reducible repeat' (first|refine Sp.h ?_|((first|refine Ss.h ?_|refine Sc.h (kg _ _) ?_|(refine Sb.h ?_ ?_ ?_<;>(try intro hgd)<;>try exact Xy))<;>simp -implicitDefEqProofs (maxSteps:=2000000) [hP,hN])|refine X2 ?_ ?_|(refine Xd ?_ ?_<;>intro hcd<;>try exact Xx))
 all_goals (first|(simp_all;done)|((try simp_all)<;>(try omega)<;>grind))
theorem QI(a b c d:Int):ab Tryz.prog 129 [.pv (I a b),.pv (I c d)] [] [] (.pv (B (ay a b&&ay c d&&decide (c<=a)&&decide (b<=d)))):=by
 refine Dp Tryz.func129 ?_;intro C hP hN;simp only[Tryz.f129]at hN|-
 with_reducible repeat' (first|refine Sp.h ?_|((first|refine Ss.h ?_|refine Sc.h (zf _ _ _ _) ?_|(refine Sb.h ?_ ?_ ?_<;>(try intro hgd)<;>try exact Xy))<;>simp -implicitDefEqProofs (maxSteps:=2000000) [hP,hN])|refine X2 ?_ ?_|(refine Xd ?_ ?_<;>intro hcd<;>try exact Xx))
 all_goals (first|(simp_all;done)|((try simp_all)<;>(try omega)<;>grind))
def ow(n k:Int):Int:=if n.tmod k<0 then wr (n.tmod k+k)else n.tmod k
theorem M8(n k:Int)(hk:k≠0):ab Tryz.prog 10 [.pv (Z n),.pv (Z k)] [] [] (.pv (Z (ow n k))):=by
 refine Dp Tryz.func10 ?_;intro C hP hN;simp only[Tryz.f10]at hN|-
 with_reducible repeat' (first|refine Sp.h ?_|((first|refine Ss.h ?_|(refine Sb.h ?_ ?_ ?_<;>(try intro hgd)<;>try exact Xy))<;>simp -implicitDefEqProofs (maxSteps:=2000000) [hP,hN,hk])|refine X2 ?_ ?_|(refine Xd ?_ ?_<;>intro hcd<;>try exact Xx))
 all_goals (first|(simp_all[ow];done)|((try simp_all[ow])<;>(try omega)<;>grind))
@[simp] theorem TF(a b:Int):(if b<a then b else a)=min a b:=by split<;>omega
@[simp] theorem TG(a b:Int):(if a<b then b else a)=max a b:=by split<;>omega
theorem aa{n:Int}(h1:-9223372036854775808<=n:=by omega)(h2:n<9223372036854775808:=by omega):wr n=n:=by
 rw[wr,IntKind.wrap_i64];omega
theorem Pg(hk:k<64):min k.toNat 64=k.toNat:=by omega
theorem M9:IntKind.i64.bits=64:=rfl
theorem QK(a:Int):ab Tryz.prog 309 [.pv (Z a)] [] [] (.pv (Z (min (max a (-2147483648)) 2147483648))):=by
 refine Dp Tryz.func309 ?_;intro C hP hN;simp only[Tryz.f309]at hN|-;exact Gy
 all_goals (first|(simp_all;done)|((try simp_all)<;>(try omega)<;>grind))
theorem Na(a b:Int):ab Tryz.prog 298 [.pv (Z a),.pv (Z b)] [] [] (.pv (I (min (max a (-2147483648)) 2147483648) (min (max b (-2147483648)) 2147483648))):=by
 refine Dp Tryz.func298 ?_;intro C hP hN;simp only[Tryz.f298]at hN|-;have q1:=@QK;exact GS trivial
 all_goals (first|(simp_all;done)|((try simp_all)<;>(try omega)<;>grind))
theorem QL(a:Int):ab Tryz.prog 275 [.pv (Z a)] [] [] (.pv (I (min (max a (-2147483648)) 2147483648) (min (max a (-2147483648)) 2147483648))):=by
 refine Dp Tryz.func275 ?_;intro C hP hN;simp only[Tryz.f275]at hN|-;have q1:=@Na;exact GS trivial
 all_goals (first|(simp_all;done)|((try simp_all)<;>(try omega)<;>grind))
theorem QM(a k:Int)(h:0<=k)(hk:k<64):ab Tryz.prog 183 [.pv (Z a),.pv (Z k)] [] [] (.pv (Z (a.fdiv (2^k.toNat)))):=by
 refine Dp Tryz.func183 ?_;intro C hP hN;simp only[Tryz.f183]at hN|-;exact GS (gA h (gA @M9 (Pg hk)))
 all_goals (first|(simp_all;done)|((try simp_all)<;>(try omega)<;>grind))
def ii(x y:Int×Int):Int×Int:=if ay x.1 x.2&&ay y.1 y.2 then(min x.1 y.1,max x.2 y.2)else(0,0)
theorem Gr(a b c d:Int):ab Tryz.prog 335 [.pv (I a b),.pv (I c d)] [] [] (.pv (aR (ii (a,b) (c,d)))):=by
 refine Dp Tryz.func335 ?_;intro C hP hN;simp only[Tryz.f335]at hN|-
 with_reducible repeat' (first|refine Sp.h ?_|((first|refine Ss.h ?_|refine Sc.h (zf _ _ _ _) ?_|(refine Sb.h ?_ ?_ ?_<;>(try intro hgd)<;>try exact Xy))<;>simp -implicitDefEqProofs (maxSteps:=2000000) [hP,hN])|refine X2 ?_ ?_|(refine Xd ?_ ?_<;>intro hcd<;>try exact Xx))
 all_goals (first|(simp_all[ii];done)|((try simp_all[ii])<;>(try omega)<;>grind))
theorem Gs(a b c d:Int):ab Tryz.prog 326 [.pv (I a b),.pv (I c d)] [] [] (.pv (aR (ii (a,b) (c,d)))):=by
 refine Dp Tryz.func326 ?_;intro C hP hN;simp only[Tryz.f326]at hN|-
 with_reducible repeat' (first|refine Sp.h ?_|((first|refine Ss.h ?_|refine Sc.h (oW _ _) ?_|(refine Sb.h ?_ ?_ ?_<;>(try intro hgd)<;>try exact Xy))<;>simp -implicitDefEqProofs (maxSteps:=2000000) [hP,hN])|refine X2 ?_ ?_|(refine Xd ?_ ?_<;>intro hcd<;>try exact Xx))
 all_goals (first|(simp_all[ii];done)|((try simp_all[ii])<;>(try omega)<;>grind))
theorem wL(a b:Int):ab Tryz.prog 136 [.pv (I a b)] [] [] (.pv (Z (if ay a b then wr (b-a)else 0))):=by
 refine Dp Tryz.func136 ?_;intro C hP hN;simp only[Tryz.f136]at hN|-
 with_reducible repeat' (first|refine Sp.h ?_|((first|refine Ss.h ?_|refine Sc.h (kg _ _) ?_|(refine Sb.h ?_ ?_ ?_<;>(try intro hgd)<;>try exact Xy))<;>simp -implicitDefEqProofs (maxSteps:=2000000) [hP,hN])|refine X2 ?_ ?_|(refine Xd ?_ ?_<;>intro hcd<;>try exact Xx))
 all_goals (first|(simp_all;done)|((try simp_all)<;>(try omega)<;>grind))
theorem Nb(a b:Int):ab Tryz.prog 137 [.pv (I a b)] [] [] (.pv (Z (if ay a b then(wr (a+b)).fdiv 2 else 0))):=by
 refine Dp Tryz.func137 ?_;intro C hP hN;simp only[Tryz.f137]at hN|-
 with_reducible repeat' (first|refine Sp.h ?_|((first|refine Ss.h ?_|refine Sc.h (kg _ _) ?_|refine Sc.h (QM _ _ (by decide) (by decide)) ?_|(refine Sb.h ?_ ?_ ?_<;>(try intro hgd)<;>try exact Xy))<;>simp -implicitDefEqProofs (maxSteps:=2000000) [hP,hN])|refine X2 ?_ ?_|(refine Xd ?_ ?_<;>intro hcd<;>try exact Xx))
 all_goals (first|(simp_all;done)|((try simp_all)<;>(try omega)<;>grind))
theorem Nc(a b x:Int):ab Tryz.prog 189 [.pv (I a b),.pv (Z x)] [] [] (.pv (B (ay a b&&decide (a<=x)&&decide (x<=b)))):=by
 refine Dp Tryz.func189 ?_;intro C hP hN;simp only[Tryz.f189]at hN|-
 with_reducible repeat' (first|refine Sp.h ?_|((first|refine Ss.h ?_|refine Sc.h (kg _ _) ?_|(refine Sb.h ?_ ?_ ?_<;>(try intro hgd)<;>try exact Xy))<;>simp -implicitDefEqProofs (maxSteps:=2000000) [hP,hN])|refine X2 ?_ ?_|(refine Xd ?_ ?_<;>intro hcd<;>try exact Xx))
 all_goals (first|(simp_all;done)|((try simp_all)<;>(try omega)<;>grind))
theorem Nd(a b c d:Int):ab Tryz.prog 187 [.pv (I a b),.pv (I c d)] [] [] (.pv (.tup (if ay a b&&ay c d&&decide (max a c<=min b d)then[I (max a c) (min b d),B true]else[I 0 0,B false]))):=by
 refine Dp Tryz.func187 ?_;intro C hP hN;simp only[Tryz.f187]at hN|-
 with_reducible repeat' (first|refine Sp.h ?_|((first|refine Ss.h ?_|refine Sc.h (zf _ _ _ _) ?_|(refine Sb.h ?_ ?_ ?_<;>(try intro hgd)<;>try exact Xy))<;>simp -implicitDefEqProofs (maxSteps:=2000000) [hP,hN])|refine X2 ?_ ?_|(refine Xd ?_ ?_<;>intro hcd<;>try exact Xx))
 all_goals (first|(simp_all;done)|((try simp_all)<;>(try omega)<;>grind))
abbrev zs(xs:List Int):PV:=.sl (xs.map Z)
abbrev iv(xs:List (Int×Int)):PV:=.sl (xs.map aR)
abbrev Fv(f:FuncId):PV:=.val (.func (.func f) #[] #[])
theorem wM(h:n<=16777216):n<=9223372036854775807:=by omega
theorem al(h:i<n)(hn:n<=9223372036854775807):IntKind.i64.wrap ((i:Int)+1)=(i:Int)+1:=by rw[IntKind.wrap_i64];omega
def pc(p:α->Bool)(xs:List α):Int:=match xs.findIdx? p with
 |some i=>i
 |none=>-1
theorem rn(hlt:i<xs.length)(hq:∀j x,j<i->xs[j]?=some x->p x=false)(hp:p xs[i]=true):pc p xs=i:=by
 have:xs.findIdx? p=some i:=by
  rw[UV];refine⟨hlt,hp,λj hj=>?_⟩
  have hjl:j<xs.length:=by omega
  rw[hq j xs[j] hj (an hjl)];simp
 simp[pc,this]
theorem wN(hq:∀(j:Nat) x,xs[j]?=some x->p x=false):pc p xs=-1:=by
 have:xs.findIdx? p=none:=by
  rw[List.findIdx?_eq_none_iff];intro x hx;obtain⟨j,hj,rfl⟩:=PH.1 hx;exact hq j _ (an hj)
 simp[pc,this]
theorem uZ(p:α->Bool)(xs:List α):decide (0<=pc p xs)=xs.any p:=by
 unfold pc
 cases h:xs.findIdx? p with
 |none=>
  rw[List.findIdx?_eq_none_iff]at h
  have:xs.any p=false:=by
   rw[Te];intro x hx;rw[h x hx];simp
  simp[this]
 |some i=>
  rw[UV]at h;obtain⟨hl,hp,_⟩:=h;have:xs.any p=true:=T4.2 ⟨xs[i],Ky hl,hp⟩;simp[this]
theorem qf(hlt:i<xs.length)(hq:∀j x,j<i->xs[j]?=some x->p x=false)(hp:p xs[i]=false):∀j x,j<i+1->xs[j]?=some x->p x=false:=by
 intro j x hj hx;by_cases e:j=i
 .subst e;rw[an hlt]at hx;injection hx with hx;subst hx;exact hp
 .exact hq j x (by omega) hx
theorem zg(hlt:¬i<xs.length)(hq:∀j x,j<i->xs[j]?=some x->p x=false):∀(j:Nat) x,xs[j]?=some x->p x=false:=by
 intro j x hx;have:=(th.1 hx).1;exact hq j x (by omega) hx
theorem QP(f:FuncId)(p:Int×Int->Bool)(xs:List (Int×Int))(hl:xs.length<=9223372036854775807)(hf:∀x,ab Tryz.prog f [.pv (aR x)] [] [] (.pv (B (p x)))):ab Tryz.prog 242 [.pv (iv xs),.pv (Fv f)] [] [] (.pv (Z (pc p xs))):=by
 refine Dp Tryz.func242 ?_;intro C hP hN;simp only[Tryz.f242]at hN|-;refine Gz ?_;refine WP.loopN [] xs.length (λi st=>st.t 0=.pv (iv xs)∧st.t 1=.pv (Fv f)∧st.t 7=.pv (Z xs.length)∧st.t 8=.pv (Z i)∧∀j x,j<i->xs[j]?=some x->p x=false) (by simp) ?_;rintro i st hi ⟨h0,h1,h7,h8,hq⟩;by_cases hlt:i<xs.length
 .have hw:=al hlt hl
  with_reducible repeat' (first|refine Sp.h ?_|((first|refine Ss.h ?_|refine Sc.h (hf _) ?_|(refine Sb.h ?_ ?_ ?_<;>(try intro hgd)<;>try exact Xy))<;>simp -implicitDefEqProofs (maxSteps:=2000000) [hP,hN,h0,h1,h7,h8,hlt,hw])|refine X2 ?_ ?_|(refine Xd ?_ ?_<;>intro hcd<;>try exact Xx))
  .exact(rn hlt hq hcd).symm
  .simpa using qf hlt hq hcd
 .skip
  refine Gz ?_;exact(wN (zg hlt hq)).symm
theorem Nf(f:FuncId)(p:Int×Int->Bool)(xs:List (Int×Int))(hl:xs.length<=9223372036854775807)(hf:∀x,ab Tryz.prog f [.pv (aR x)] [] [] (.pv (B (p x)))):ab Tryz.prog 181 [.pv (iv xs),.pv (Fv f)] [] [] (.pv (B (xs.any p))):=by
 refine Dp Tryz.func181 ?_;intro C hP hN;simp only[Tryz.f181]at hN|-;have q1:=QP _ _ _ hl hf;refine GT trivial ?_
 all_goals (first|(simp_all[uZ];done)|((try simp_all[uZ])<;>(try omega)<;>grind))
def bo(p:α->Bool)(xs:List α):Bool:=xs.all p
theorem Fh(p:α->Bool)(xs:List α):(xs.any λx=>!p x)=!bo p xs:=by simp[bo,List.any_eq_not_all_not]
abbrev vI(x:Int×Int):Bool:=ay x.1 x.2
theorem QQ(x:Int×Int):ab Tryz.prog 182 [.pv (aR x)] [] [] (.pv (B (!ay x.1 x.2))):=by
 refine Dp Tryz.func182 ?_;intro C hP hN;simp only[Tryz.f182]at hN|-;have q1:=@kg;exact GS trivial
 all_goals (first|(simp_all;done)|((try simp_all)<;>(try omega)<;>grind))
theorem wO(xs:List (Int×Int))(hl:xs.length<=9223372036854775807):ab Tryz.prog 135 [.pv (iv xs)] [] [] (.pv (B (bo vI xs))):=by
 refine Dp Tryz.func135 ?_;intro C hP hN;simp only[Tryz.f135]at hN|-;have q1:=Nf _ _ _ hl QQ;exact GS (Fh vI xs)
 all_goals (first|(simp_all;done)|((try simp_all)<;>(try omega)<;>grind))
def HL(x:Int):Bool:=decide (-2147483648<=x)&&decide (x<=2147483648)
theorem Jp{T L:List PV}{v:PV}(hlen:L.length=T.length)(h:∀j,j<i->L[j]?=T[j]?)(hv:T[i]?=some v):∀j,j<i+1->(L.set i v)[j]?=T[j]?:=by
 intro j hj;have hi:i<T.length:=(th.1 hv).1;by_cases e:j=i
 .subst e;rw[hv,List.getElem?_set_self (by omega)]
 .rw[List.getElem?_set_ne (by omega)];exact h j (by omega)
theorem Jq{T L:List PV}(hlen:L.length=T.length)(h:∀j,j<i->L[j]?=T[j]?)(hi:T.length<=i):L=T:=by
 apply My;intro j;by_cases e:j<i
 .exact h j e
 .rw[Jr (by omega),Jr (by omega)]
theorem wP(hlt:i<xs.length)(hp:p xs[i]=false):bo p xs=false:=by
 rw[bo,QJ];exact⟨xs[i],Ky hlt,by simp[hp]⟩
theorem u0(hlt:i<xs.length)(h:bo p (xs.take i)=true)(hp:p xs[i]=true):bo p (xs.take (i+1))=true:=by
 unfold bo at *;rw[MF hlt,List.all_append,h];simp[hp]
theorem u7(hlt:¬i<xs.length)(h:bo p (xs.take i)=true):bo p xs=true:=by
 rwa [KL (by omega)]at h
theorem Cs{f:α->β}(hlt:i<xs.length):(xs.map f).take i++[f xs[i]]=(xs.map f).take (i+1):=by
 rw[MF (by simpa using hlt)];simp
theorem HM(hn:xs.length=n)(hi:¬i<n):xs.take i=xs:=KL (by omega)
def dV(f:α->β->Bool)(xs:List α)(ys:List β):Bool:=(List.zipWith f xs ys).all id
def eO(f:α->β->Bool)(xs:List α)(ys:List β)(i:Nat):Bool:=((List.zipWith f xs ys).take i).all id
theorem iB(hlt:i<xs.length)(hlt':i<ys.length)(hp:f xs[i] ys[i]=false):dV f xs ys=false:=
 wP (p:=id) (xs:=List.zipWith f xs ys) (i:=i) (by simp;omega) (by simpa using hp)
theorem jq(hlt:i<xs.length)(hlt':i<ys.length)(h:eO f xs ys i=true)(hp:f xs[i] ys[i]=true):eO f xs ys (i+1)=true:=
 u0 (p:=id) (xs:=List.zipWith f xs ys) (i:=i) (by simp;omega) h (by simpa using hp)
theorem jr(hlt:¬i<xs.length)(h:eO f xs ys i=true):dV f xs ys=true:=
 u7 (p:=id) (xs:=List.zipWith f xs ys) (i:=i) (by simp;omega) h
theorem iE(xs:List (Int×Int))(hl:xs.length<=9223372036854775807):ab Tryz.prog 100 [.pv (iv xs)] [] [] (.pv (B (bo vI xs))):=by
 refine Dp Tryz.func100 ?_;intro C hP hN;simp only[Tryz.f100]at hN|-;refine Gz ?_;refine WP.loopN [] xs.length (λi st=>st.t 0=.pv (iv xs)∧st.t 3=.pv (Z i)∧bo vI (xs.take i)=true) (by simp[bo]) ?_;rintro i st hi ⟨h0,h1,hq⟩;by_cases hlt:i<xs.length
 .have hw:=al hlt hl
  have hF:vI xs[i]=false->bo vI xs=false:=wP hlt;have hS:vI xs[i]=true->bo vI (xs.take (i+1))=true:=u0 hlt hq
  with_reducible repeat' (first|refine Sp.h ?_|((first|refine Ss.h ?_|refine Sc.h (oW _ _) ?_|(refine Sb.h ?_ ?_ ?_<;>(try intro hgd)<;>try exact Xy))<;>simp -implicitDefEqProofs (maxSteps:=2000000) [hP,hN,h0,h1,hlt,hw])|refine X2 ?_ ?_|(refine Xd ?_ ?_<;>intro hcd<;>try exact Xx))
  all_goals first|(rw[hF];simp_all[HL];try omega)|(rw[hS];simp_all[HL];try omega)
 .skip
  refine Gz ?_;simp[u7 hlt hq]
def ed(x y:Int×Int):Bool:=ay x.1 x.2&&ay y.1 y.2&&decide (y.1<=x.1)&&decide (x.2<=y.2)
def nD(x:Int×Int)(c:Int):Bool:=ay x.1 x.2&&decide (x.1<=c)&&decide (c<=x.2)
def qo[DecidableEq α](x y:α):Bool:=decide (x=y)
theorem Et[DecidableEq α]{ys:List α}(he:xs.length=ys.length):dV qo xs ys=decide (xs=ys):=by
 unfold dV
 induction xs generalizing ys with
 |nil=>cases ys<;>simp at he|-
 |cons x xs ih=>cases ys with
  |nil=>simp at he
  |cons y ys=>simp only[List.zipWith_cons_cons,List.all_cons,ih (by simpa using he)];simp[qo,Bool.decide_and]
def oR[DecidableEq α](xs ys:List α):Bool:=decide (xs.length=ys.length)&&dV qo xs ys
theorem Hv(xs:List (Int×Int))(ys:List (Int×Int))(hl:xs.length<=9223372036854775807)(hm:ys.length<=9223372036854775807):ab Tryz.prog 15 [.pv (iv xs),.pv (iv ys)] [] [] (.pv (B (oR xs ys))):=by
 refine Dp Tryz.func15 ?_;intro C hP hN;simp only[Tryz.f15]at hN|-;by_cases he:xs.length=ys.length
 .skip
  refine GT he ?_;refine WP.loopN [] xs.length (λi st=>st.t 0=.pv (iv xs)∧st.t 1=.pv (iv ys)∧st.t 5=.pv (Z i)∧eO qo xs ys i=true) (by simp[eO]) ?_;rintro i st hi ⟨h0,h1,h2,hq⟩;by_cases hlt:i<xs.length
  .have hw:=al hlt hl
   have hlt':i<ys.length:=by omega
   have hF:qo xs[i] ys[i]=false->dV qo xs ys=false:=iB hlt hlt';have hS:qo xs[i] ys[i]=true->eO qo xs ys (i+1)=true:=jq hlt hlt' hq
   with_reducible repeat' (first|refine Sp.h ?_|((first|refine Wd ?_|refine Ss.h ?_|(refine Sb.h ?_ ?_ ?_<;>(try intro hgd)<;>try exact Xy))<;>simp -implicitDefEqProofs (maxSteps:=2000000) [hP,hN,h0,h1,h2,hlt,hlt',hw]<;>try refine Ya ?_)|refine X2 ?_ ?_|(refine Xd ?_ ?_<;>intro hcd<;>try exact Xx))
   all_goals first|(rw[oR,hF (by simp only[qo]<;>grind)];simp;done)|(rw[hS (by simp only[qo]<;>grind)];done)
  .have hlt':¬i<ys.length:=by omega
   refine GT (gA h0 (gA h1 (gA h2 (gA hlt hlt')))) ?_
   all_goals simp[oR,he,jr hlt hq]
 .skip
  refine GT he ?_
  all_goals simp[oR,he]
def dO(x:Int×Int):Int:=if ay x.1 x.2 then wr (x.2-x.1)else 0
def jL(x:Int×Int):Int:=if ay x.1 x.2 then(wr (x.1+x.2)).fdiv 2 else 0
def bE(xs:List (Int×Int))(j:Int):Bool:=decide (0<=j)&&bo vI xs&&(match xs[j.toNat]? with|some x=>decide (2<=dO x)|none=>false)
def bg(xs:List (Int×Int))(j:Int):List (Int×Int):=if bE xs j then(match xs[j.toNat]? with|some x=>xs.set j.toNat (x.1,jL x)|none=>[])else[]
def bh(xs:List (Int×Int))(j:Int):List (Int×Int):=if bE xs j then(match xs[j.toNat]? with|some x=>xs.set j.toNat (jL x,x.2)|none=>[])else[]
theorem P2(xs:List (Int×Int))(j:Int)(hl:xs.length<=16777216):ab Tryz.prog 78 [.pv (iv xs),.pv (Z j)] [] [] (.pv (.tup [iv (bg xs j),iv (bh xs j),B (bE xs j)])):=by
 refine Dp Tryz.func78 ?_;intro C hP hN;simp only[Tryz.f78]at hN|-;by_cases hj:0<=j
 .obtain⟨n,rfl⟩:=PJ hj
  by_cases hlt:n<xs.length
  .cases hv:bo vI xs with
   |false=>
    have q1:=wO _ (wM hl);refine GT (gA hlt hv) ?_
    all_goals simp[bg,bh,bE,hv]
   |true=>
    have hx:=an hlt;generalize hxx:xs[n]=x at hx;by_cases hwd:dO x<2
    .have hwd':=hwd
     simp only[dO]at hwd';have q1:=wO _ (wM hl);have q2:=@wL;refine GT (gA hlt (gA hv (gA hx (gA hxx hwd')))) ?_
     all_goals simp[bg,bh,bE,hv,hx,Int.not_le.2 hwd]
    .have hwd':=hwd
     simp only[dO]at hwd';have q1:=wO _ (wM hl);have q2:=@wL;have q3:=@Nb;refine GT (gA hlt (gA hv (gA hx (gA hxx (gA hwd' (gA (show(16:Int)*xs.length<=281474976710656 by omega) (show(xs.length:Int)<=9223372036854775807 by omega))))))) ?_
     have hok:bE xs (n:Int)=true:=by simp[bE,hv,hx,Int.not_lt.1 hwd]
     have ht:List.take xs.length (List.map aR xs)=List.map aR xs:=KL (by simp);simp[bg,bh,hok,hx,ht,QH,jL]
  .skip
   have q1:=wO _ (wM hl);refine GT hlt ?_
   all_goals (have hx:xs[n]?=none:=Jr (by omega));simp[bg,bh,bE,hx]
 .skip
  have q1:=wO _ (wM hl);refine GT (gA hj (show j<0 by omega)) ?_
  all_goals simp[bg,bh,bE,hj]
def nx(l:List Int)(n:Nat)(k:Int):Int:=match l[n]? with
 |some x=>ow x k
 |none=>0
def nn(l:List Int)(n:Nat):Nat:=if n<l.length then n+1 else n
abbrev kh(l:List Int)(n:Nat):List PV:=[zs l,Z n]
theorem Nh(l:List Int):ab Tryz.prog 21 [.pv (zs l)] [] [] (.box (kh l 0)):=by
 refine Dp Tryz.func21 ?_;intro C hP hN;simp only[Tryz.f21]at hN|-;exact Gy
 all_goals (first|(simp_all;done)|((try simp_all)<;>(try omega)<;>grind))
theorem bz(l:List Int)(n:Nat):nn l n<=n+1:=by unfold nn;split<;>omega
theorem iy(l:List Int)(n:Nat)(k:Int)(hk:k≠0)(hn:n<1000000):ab Tryz.prog 23 [.bx 0,.pv (Z k)] [kh l n] [kh l (nn l n)] (.pv (Z (nx l n k))):=by
 have hw:IntKind.i64.wrap ((n:Int)+1)=(n:Int)+1:=by rw[IntKind.wrap_i64];omega
 have hw':IntKind.i64.wrap (n:Int)=n:=by rw[IntKind.wrap_i64];omega
 refine o8 Tryz.func23 rfl (by kernel_rfl) (by simp[Tryz.f23]) rfl (by intro i j h;rcases i with _|_|_|i<;>simp_all) ?_;intro C hP hN;simp only[Tryz.f23]at hN|-;by_cases hlt:n<l.length
 .skip
  with_reducible repeat' (first|refine Sp.h ?_|((first|refine Wd ?_|refine Ss.h ?_|refine Sc.h (M8 _ _ hk) ?_|(refine Sb.h ?_ ?_ ?_<;>(try intro hgd)<;>try exact Xy))<;>simp -implicitDefEqProofs (maxSteps:=2000000) [hP,hN,kh,hlt,hw,hw',Nat.not_le.2 hlt]<;>try refine Ya ?_)|refine X2 ?_ ?_|(refine Xd ?_ ?_<;>intro hcd<;>try exact Xx))
  simp[nn,nx,hlt]
 .skip
  refine Gz ?_;simp[nn,nx,hlt]
theorem qw(l:List Int)(n:Nat)(k:Int)(h0:0<k)(hk:k<1000000)(hn:n<1000000):ab Tryz.prog 25 [.bx 0,.pv (Z k)] [kh l n] [kh l (nn l n)] (.pv (Z (wr (nx l n (2*k+1)-k)))):=by
 have hw:IntKind.i64.wrap (2*k)=2*k:=by rw[IntKind.wrap_i64];omega
 have hw':IntKind.i64.wrap (2*k+1)=2*k+1:=by rw[IntKind.wrap_i64];omega
 refine o8 Tryz.func25 rfl (by kernel_rfl) (by simp[Tryz.f25]) rfl (by intro i j h;rcases i with _|_|_|i<;>simp_all) ?_;intro C hP hN;simp only[Tryz.f25]at hN|-;have q1:=iy l n (2*k+1) (by omega) hn;exact GS (gA @kh.eq_1 (gA hw hw'))
theorem dh(l:List Int)(n:Nat)(hk:0<k)(hk':k<4611686018427387904):0<=nx l n k∧nx l n k<k:=by
 unfold nx;split
 .rename_i x _
  have h1:-k<x.tmod k:=by have:=UR x hk;omega
  have h2:x.tmod k<k:=SQ x hk;unfold ow;split
  .rw[aa (by omega) (by omega)];omega
  .omega
 .omega
def uj(a:Int):Int:=if a=2 then 1 else if a=3 then 2 else if a=4 then 4 else if a=5 then 5 else if a=7 then 0 else 3
theorem Eu{c:Int}(h0:0<=c)(h8:c<8):∀h,([.int .i64 3,.int .i64 3,.int .i64 1,.int .i64 2,.int .i64 4,.int .i64 5,.int .i64 3,.int .i64 0]:List Value)[c.toNat]'h=.int .i64 (uj c):=by
 have:c=0∨c=1∨c=2∨c=3∨c=4∨c=5∨c=6∨c=7:=by omega
 rcases this with rfl|rfl|rfl|rfl|rfl|rfl|rfl|rfl<;>(intro h;rfl)
def zi(i:Nat):ByteArray:=⟨#[UInt8.ofNat (97+i)]⟩
abbrev As:Value:=.string ⟨#[97,98,99,100,101,102,103,104,105,106]⟩
def At(i:Nat):Operand->AV:=λx=>match x with
 |.tmp 3=>.pv (Z i)
 |.tmp 5=>.pv (Z ((i:Int)+1))
 |_=>.pv (.val As)
section
variable {dst:Option Nat} {ty:TypeId} {pos:String} {aft:Array Edge} {g:Option (Nat×Bool)} {ρ:Operand->AV}
theorem LW:bR Tryz.prog ⟨dst,.slice 9 (.const As) (some (.tmp 3)) (some (.tmp 5)) none,ty,pos,aft,g⟩ (At 0)=some (.pv (.val (.string (zi 0))),[]):=by kernel_rfl
theorem LX:bR Tryz.prog ⟨dst,.slice 9 (.const As) (some (.tmp 3)) (some (.tmp 5)) none,ty,pos,aft,g⟩ (At 1)=some (.pv (.val (.string (zi 1))),[]):=by kernel_rfl
theorem LY:bR Tryz.prog ⟨dst,.slice 9 (.const As) (some (.tmp 3)) (some (.tmp 5)) none,ty,pos,aft,g⟩ (At 2)=some (.pv (.val (.string (zi 2))),[]):=by kernel_rfl
theorem Ph(i:Nat)(h3:i<3)(hc:ρ (.const As)=.pv (.val As))(hx:ρ (.tmp 3)=.pv (Z i))(hy:ρ (.tmp 5)=.pv (Z ((i:Int)+1))):
 bR Tryz.prog ⟨dst,.slice 9 (.const As) (some (.tmp 3)) (some (.tmp 5)) none,ty,pos,aft,g⟩ ρ=some (.pv (.val (.string (zi i))),[]):=by
 have h:bR Tryz.prog ⟨dst,.slice 9 (.const As) (some (.tmp 3)) (some (.tmp 5)) none,ty,pos,aft,g⟩ ρ=bR Tryz.prog ⟨dst,.slice 9 (.const As) (some (.tmp 3)) (some (.tmp 5)) none,ty,pos,aft,g⟩ (At i):=by
  refine r7 (by intro _ _ h;cases h) ?_;intro x hx';simp[Op.operands]at hx';rcases hx' with rfl|rfl|rfl
  .exact hc
  .exact hx
  .exact hy
 rw[h]
 have:i=0∨i=1∨i=2:=by omega
 rcases this with rfl|rfl|rfl
 .exact LW
 .exact LX
 .exact LY
end
theorem Ni(i:Nat)(h3:i<3):ab Tryz.prog 56 [.pv (Z i)] [] [] (.pv (.val (.string (zi i)))):=by
 have hw:IntKind.i64.wrap ((i:Int)+1)=(i:Int)+1:=by rw[IntKind.wrap_i64];omega
 refine Dp Tryz.func56 ?_;intro C hP hN;simp only[Tryz.f56]at hN|-;refine GT hw ?_;rw[Ph i h3 rfl (by simp) (by simp)];simp[hP,hN];exact Gy
structure J where
 name:ByteArray
 kind:Int
 parent:Int
 ox:Int
 oy:Int
 oz:Int
 lo:Int
 hi:Int
 w:Int
 sp:Int
 ac:Int
 tq:Int
abbrev bC(j:J):PV:=.val (.agg #[.string j.name,.int .i64 j.kind,.int .i64 j.parent,.int .i64 j.ox,.int .i64 j.oy,.int .i64 j.oz,.int .i64 j.lo,.int .i64 j.hi,.int .i64 j.w,.int .i64 j.sp,.int .i64 j.ac,.int .i64 j.tq])
def lm(l:List Int)(n:Nat):Nat:=nn l (nn l (nn l (nn l n)))
def cV(l:List Int)(n i:Nat):Nat:=if 0<i then nn l (nn l (lm l n))else lm l n
def cW(l:List Int)(n:Nat):Int:=uj (nx l (nn l (nn l n)) 8)
def Au(l:List Int)(n i:Nat):Int:=if cW l n=0 then 0 else if cW l n=4∨cW l n=5 then wr (wr (-nx l (cV l n i) 3)*65536)else wr ((wr (wr (-nx l (cV l n i) 5)*65536)).tdiv 8)
def Av(l:List Int)(n i:Nat):Int:=if cW l n=0 then 0 else if cW l n=4∨cW l n=5 then wr (nx l (nn l (cV l n i)) 4*32768)else wr (wr ((wr (wr (1+nx l (nn l (cV l n i)) 4)*65536)).tdiv 8)+nx l (nn l (nn l (cV l n i))) 3)
def sV(l:List Int)(n i:Nat):Nat:=if cW l n=0 then cV l n i else if cW l n=4∨cW l n=5 then nn l (nn l (cV l n i))else nn l (nn l (nn l (cV l n i)))
def cM(l:List Int)(n i:Nat):J where
 name:=zi i
 kind:=cW l n
 parent:=if nx l (nn l (nn l (nn l n))) 4=1 then -1 else wr ((i:Int)-1)
 ox:=if 0<i then 131072 else 0
 oy:=if 0<i then wr (wr (nx l (lm l n) 5-2)*32768)else 0
 oz:=if 0<i then wr (wr (nx l (nn l (lm l n)) 3-1)*32768)else 0
 lo:=Au l n i
 hi:=Av l n i
 w:=wr (1+nx l n 4)
 sp:=65536
 ac:=wr (65536+nx l (nn l n) 3)
 tq:=327680
theorem G4(l:List Int)(n i:Nat)(h3:i<3)(hn:n<900000):ab Tryz.prog 57 [.bx 0,.pv (Z i)] [kh l n] [kh l (sV l n i)] (.pv (bC (cM l n i))):=by
 have hx:=dh l (nn l (nn l n)) (k:=8) (by decide) (by decide);have l1:=bz l n;have l2:=bz l (nn l n);have l3:=bz l (nn l (nn l n));have l4:=bz l (nn l (nn l (nn l n)));have l5:=bz l (nn l (nn l (nn l (nn l n))));have l6:=bz l (nn l (nn l (nn l (nn l (nn l n)))));have l7:=bz l (nn l (nn l (nn l (nn l (nn l (nn l n))))));have l8:=bz l (nn l (nn l (nn l (nn l (nn l (nn l (nn l n)))))));have l9:=bz l (nn l (nn l (nn l (nn l (nn l (nn l (nn l (nn l n))))))));have hix:=Eu hx.1 hx.2;refine o8 Tryz.func57 rfl (by kernel_rfl) (by simp[Tryz.f57]) rfl (by intro i j h;rcases i with _|_|_|i<;>simp_all) ?_;intro C hP hN;simp only[Tryz.f57]at hN|-
 with_reducible repeat' (first|refine Sp.h ?_|((first|refine Ss.h ?_|refine Sc.h (Ni i h3) ?_|refine Sc.h (iy l _ _ (by decide) (by omega)) ?_|refine Sc.h (qw l _ _ (by decide) (by decide) (by omega)) ?_|(refine Sb.h ?_ ?_ ?_<;>(try intro hgd)<;>try exact Xy))<;>simp -implicitDefEqProofs (maxSteps:=2000000) [hP,hN,kh,hix,hx.1,hx.2])|refine X2 ?_ ?_|(refine Xd ?_ ?_<;>intro hcd<;>try exact Xx))
 all_goals (clear hix hP hN l1 l2 l3 l4 l5 l6 l7 l8 l9 hx h3 hn;simp_all[cM,sV,Au,Av,cW,cV,lm])
structure Ms where
 link:Int
 mass:Int
 px:Int
 py:Int
 pz:Int
abbrev IT(m:Ms):PV:=.val (.agg #[.int .i64 m.link,.int .i64 m.mass,.int .i64 m.px,.int .i64 m.py,.int .i64 m.pz])
def k7(l:List Int)(m:Nat):Nat->Nat
 |0=>m
 |i+1=>sV l (k7 l m i) i
theorem Fl(l:List Int)(n i:Nat):cV l n i<=n+6:=by
 have l1:=bz l n;have l2:=bz l (nn l n);have l3:=bz l (nn l (nn l n));have l4:=bz l (nn l (nn l (nn l n)));have l5:=bz l (nn l (nn l (nn l (nn l n))));have l6:=bz l (nn l (nn l (nn l (nn l (nn l n)))));unfold cV lm;split<;>omega
theorem Ev(l:List Int)(n i:Nat):sV l n i<=n+9:=by
 have h:=Fl l n i;have l1:=bz l (cV l n i);have l2:=bz l (nn l (cV l n i));have l3:=bz l (nn l (nn l (cV l n i)));unfold sV;split
 .omega
 .split<;>omega
theorem vz(l:List Int)(m i:Nat):k7 l m i<=m+9*i:=by
 induction i with
 |zero=>simp[k7]
 |succ i ih=>have:=Ev l (k7 l m i) i;simp only[k7];omega
def rx(l:List Int)(m k:Nat):List J:=(List.range k).map λi=>cM l (k7 l m i) i
theorem Co(l:List Int)(m k:Nat):(rx l m (k+1)).map bC=(rx l m k).map bC++[bC (cM l (k7 l m k) k)]:=by simp[rx,PK]
theorem kj(l:List Int)(m k:Nat):(rx l m k).length=k:=by simp[rx]
def i8(l:List Int)(m:Nat):Nat->Nat
 |0=>m
 |i+1=>nn l (nn l (nn l (nn l (i8 l m i))))
theorem By(l:List Int)(m i:Nat):i8 l m i<=m+4*i:=by
 induction i with
 |zero=>simp[i8]
 |succ i ih=>
  have l1:=bz l (i8 l m i);have l2:=bz l (nn l (i8 l m i));have l3:=bz l (nn l (nn l (i8 l m i)));have l4:=bz l (nn l (nn l (nn l (i8 l m i))));simp only[i8];omega
def oX(l:List Int)(m:Nat)(n:Int):Ms where
 link:=nx l m n
 mass:=wr (1+nx l (nn l m) 9000)
 px:=wr (wr (nx l (nn l (nn l m)) 7-3)*32768)
 py:=0
 pz:=wr (wr (nx l (nn l (nn l (nn l m))) 5-2)*32768)
def rR(l:List Int)(m:Nat)(n:Int)(k:Nat):List Ms:=(List.range k).map λi=>oX l (i8 l m i) n
theorem CA(l:List Int)(m:Nat)(n:Int)(k:Nat):(rR l m n (k+1)).map IT=(rR l m n k).map IT++[IT (oX l (i8 l m k) n)]:=by simp[rR,PK]
theorem pm(l:List Int)(m:Nat)(n:Int)(k:Nat):(rR l m n k).length=k:=by simp[rR]
abbrev fT:AV:=.pv (.val (.slice none 0 0))
def rN(l:List Int)(n:Nat):Nat:=(1+nx l n 3).toNat
def rM(l:List Int)(n:Nat):Nat:=k7 l (nn l n) (rN l n)
def rK(l:List Int)(n:Nat):Nat:=(nx l (rM l n) 3).toNat
def cU(l:List Int)(n:Nat):List J:=rx l (nn l n) (rN l n)
def jo(l:List Int)(n:Nat):List Ms:=rR l (nn l (rM l n)) (rN l n) (rK l n)
def nG(l:List Int)(n:Nat):Nat:=i8 l (nn l (rM l n)) (rK l n)
theorem HN(l:List Int)(n:Nat)(hn:n<100000):ab Tryz.prog 22 [.bx 0] [kh l n] [kh l (nG l n)] (.pv (.agg [.sl ((cU l n).map bC),.sl ((jo l n).map IT)])):=by
 have hx:=dh l n (k:=3) (by decide) (by decide)
 have hw1:IntKind.i64.wrap (1+nx l n 3)=((rN l n:Nat):Int):=by rw[IntKind.wrap_i64,rN];omega
 have hrN:rN l n<=3∧0<rN l n:=by unfold rN;omega
 have hl1:=bz l n;refine o8 Tryz.func22 rfl (by kernel_rfl) (by simp[Tryz.f22]) rfl (by intro i j h;rcases i with _|_|_|i<;>simp_all) ?_;intro C hP hN;simp only[Tryz.f22]at hN|-
 with_reducible repeat' (first|refine Sp.h ?_|((first|refine Wd ?_|refine Ss.h ?_|refine Sc.h (iy l n 3 (by decide) (by omega)) ?_|(refine Sb.h ?_ ?_ ?_<;>(try intro hgd)<;>try exact Xy))<;>simp -implicitDefEqProofs (maxSteps:=2000000) [hP,hN,kh,hw1]<;>try refine Ya ?_)|refine X2 ?_ ?_|(refine Xd ?_ ?_<;>intro hcd<;>try exact Xx))
 refine WP.loopN [20] (rN l n) (λi st=>st.t 0=.ptr (pk 0) 0∧st.t 2=.ptr 2 0∧st.t 3=.ptr 3 0∧st.t 4=.pv (Z (rN l n))∧st.t 5=.pv (Z i)∧
  st.h (pk 0)=some (.box [.pv (zs l),.pv (Z (k7 l (nn l n) i))] false false)∧st.h 2=some (.box [fT,fT] true false)∧st.h 20=none∧st.h 45=none∧st.h 46=none∧
  ((i=0∧st.h 3=some (.box [fT,fT] true false)∧st.h 21=none)∨(0<i∧st.h 3=some (.box [.arr 21 i,fT] true false)∧st.h 21=some (.row 81 12 ((rx l (nn l n) i).map bC) 0)))) (by simp[k7]) ?_
 rintro i st hi ⟨h0,h2,h3,h4,h5,hp,hb2,hb20,hb45,hb46,hor⟩;by_cases hlt:i<rN l n
 .have hw:IntKind.i64.wrap ((i:Int)+1)=(i:Int)+1:=by rw[IntKind.wrap_i64];omega
  have hm:=vz l (nn l n) i;have hJ:=Co l (nn l n) i;have hS:k7 l (nn l n) (i+1)=sV l (k7 l (nn l n) i) i:=rfl;rcases hor with⟨hi0,hb3,hb21⟩|⟨hi0,hb3,hb21⟩
  .subst hi0
   with_reducible repeat' (first|refine Sp.h ?_|((first|refine Wd ?_|refine Ss.h ?_|refine Sc.h (G4 l _ 0 (by omega) (by omega)) ?_|(refine Sb.h ?_ ?_ ?_<;>(try intro hgd)<;>try exact Xy))<;>simp -implicitDefEqProofs (maxSteps:=2000000) [hP,hN,h0,h2,h3,h4,h5,hp,hb2,hb20,hb45,hb46,hb3,hb21,hlt,hw,hS]<;>try refine Ya ?_)|refine X2 ?_ ?_|(refine Xd ?_ ?_<;>intro hcd<;>try exact Xx))
   exact⟨by decide,by simp[rx]⟩
  .have hz:=kj l (nn l n) i
   with_reducible repeat' (first|refine Sp.h ?_|((first|refine Wd ?_|refine Ss.h ?_|refine Sc.h (G4 l _ i (by omega) (by omega)) ?_|(refine Sb.h ?_ ?_ ?_<;>(try intro hgd)<;>try exact Xy))<;>simp -implicitDefEqProofs (maxSteps:=2000000) [hP,hN,h0,h2,h3,h4,h5,hp,hb2,hb20,hb45,hb46,hb3,hb21,hlt,hw,hS,hz,show(i+1)*104<=140737488355328 by omega,show i<=9223372036854775806 by omega]<;>try refine Ya ?_)|refine X2 ?_ ?_|(refine Xd ?_ ?_<;>intro hcd<;>try exact Xx))
   simp[hJ]
 .have hir:i=rN l n:=by omega
  rcases hor with⟨hi0,_⟩|⟨hi0,hb3,hb21⟩
  .omega
  subst hir;have hm:=vz l (nn l n) (rN l n);have hx3:=dh l (rM l n) (k:=3) (by decide) (by decide)
  have hk:nx l (k7 l (nn l n) (rN l n)) 3=((rK l n:Nat):Int):=by show nx l (rM l n) 3=_;unfold rK;omega
  have hk3:rK l n<3:=by unfold rK;omega
  have hz:=kj l (nn l n) (rN l n);have hl2:=bz l (rM l n);have hmr:rM l n<=nn l n+9*rN l n:=hm
  with_reducible repeat' (first|refine Sp.h ?_|((first|refine Wd ?_|refine Ss.h ?_|refine Sc.h (iy l _ 3 (by decide) (by omega)) ?_|(refine Sb.h ?_ ?_ ?_<;>(try intro hgd)<;>try exact Xy))<;>simp -implicitDefEqProofs (maxSteps:=2000000) [hP,hN,h0,h2,h3,h4,h5,hp,hb2,hb20,hb45,hb46,hb3,hb21,hlt,hk]<;>try refine Ya ?_)|refine X2 ?_ ?_|(refine Xd ?_ ?_<;>intro hcd<;>try exact Xx))
  refine WP.loopN [] (rK l n) (λi st=>st.t 0=.ptr (pk 0) 0∧st.t 2=.ptr 2 0∧st.t 3=.ptr 3 0∧st.t 4=.pv (Z (rN l n))∧st.t 6=.pv (Z ((rK l n:Int)-i))∧
   st.h (pk 0)=some (.box [.pv (zs l),.pv (Z (i8 l (nn l (rM l n)) i))] false false)∧st.h 2=some (.box [fT,fT] true false)∧st.h 45=none∧st.h 21=some (.row 81 12 ((cU l n).map bC) 0)∧
   ((i=0∧st.h 3=some (.box [.arr 21 (rN l n),fT] true false)∧st.h 46=none)∨(0<i∧st.h 3=some (.box [.arr 21 (rN l n),.arr 46 i] true false)∧st.h 46=some (.row 122 5 ((rR l (nn l (rM l n)) (rN l n) i).map IT) 0)))) (by simp[h0,h2,h3,h4,hb2,hb45,hb46,hb3,hb21,i8,rM,cU]) ?_
  clear hb2 hb20 hb45 hb46 hb3 hb21 hp h0 h2 h3 h4 h5;rintro i st hi ⟨h0,h2,h3,h4,h6,hp,hb2,hb45,hb21,hor⟩;by_cases hlt:i<rK l n
  .have hw:IntKind.i64.wrap ((rK l n:Int)-i-1)=(rK l n:Int)-((i:Int)+1):=by rw[IntKind.wrap_i64];omega
   have hgt:(0:Int)<(rK l n:Int)-i:=by omega
   have hm2:=By l (nn l (rM l n)) i;have l1:=bz l (i8 l (nn l (rM l n)) i);have l2:=bz l (nn l (i8 l (nn l (rM l n)) i));have l3:=bz l (nn l (nn l (i8 l (nn l (rM l n)) i)));have hJ:=CA l (nn l (rM l n)) (rN l n) i;have hS:i8 l (nn l (rM l n)) (i+1)=nn l (nn l (nn l (nn l (i8 l (nn l (rM l n)) i)))):=rfl
   have hne:((rN l n:Nat):Int)≠0:=by omega
   rcases hor with⟨hi0,hb3,hb46⟩|⟨hi0,hb3,hb46⟩
   .subst hi0
    with_reducible repeat' (first|refine Sp.h ?_|((first|refine Wd ?_|refine Ss.h ?_|refine Sc.h (iy l _ _ hne (by omega)) ?_|refine Sc.h (iy l _ _ (by decide) (by omega)) ?_|refine Sc.h (qw l _ _ (by decide) (by decide) (by omega)) ?_|(refine Sb.h ?_ ?_ ?_<;>(try intro hgd)<;>try exact Xy))<;>simp -implicitDefEqProofs (maxSteps:=2000000) [hP,hN,h0,h2,h3,h4,h6,hp,hb2,hb45,hb46,hb3,hb21,hlt,hw,hgt,hS]<;>try refine Ya ?_)|refine X2 ?_ ?_|(refine Xd ?_ ?_<;>intro hcd<;>try exact Xx))
    exact⟨by rw[IntKind.wrap_i64];omega,by simp[rR,oX,i8]⟩
   .have hz:=pm l (nn l (rM l n)) (rN l n) i
    with_reducible repeat' (first|refine Sp.h ?_|((first|refine Wd ?_|refine Ss.h ?_|refine Sc.h (iy l _ _ hne (by omega)) ?_|refine Sc.h (iy l _ _ (by decide) (by omega)) ?_|refine Sc.h (qw l _ _ (by decide) (by decide) (by omega)) ?_|(refine Sb.h ?_ ?_ ?_<;>(try intro hgd)<;>try exact Xy))<;>simp -implicitDefEqProofs (maxSteps:=2000000) [hP,hN,h0,h2,h3,h4,h6,hp,hb2,hb45,hb46,hb3,hb21,hlt,hw,hgt,hS,hz,show(i+1)*40<=140737488355328 by omega,show i<=9223372036854775806 by omega]<;>try refine Ya ?_)|refine X2 ?_ ?_|(refine Xd ?_ ?_<;>intro hcd<;>try exact Xx))
    simp[hJ,oX]
  .have hir:i=rK l n:=by omega
   subst hir;have hzJ:(cU l n).length=rN l n:=kj l (nn l n) (rN l n);have hzM:=pm l (nn l (rM l n)) (rN l n) (rK l n);rcases hor with⟨hi0,hb3,hb46⟩|⟨hi0,hb3,hb46⟩
   .skip
    refine GT (gA h0 (gA h2 (gA h3 (gA h4 (gA h6 (gA hp (gA hb2 (gA hb45 (gA hb46 (gA hb3 (gA hb21 (gA hi0 hzJ)))))))))))) ?_
    all_goals simp[nG,jo,hi0,rR]
   .skip
    refine GT (gA h0 (gA h2 (gA h3 (gA h4 (gA h6 (gA hp (gA hb2 (gA hb45 (gA hb46 (gA hb3 (gA hb21 (gA hzJ hzM)))))))))))) ?_
    all_goals simp[nG,jo]
abbrev gF(js:List J)(ms:List Ms):PV:=.agg [.sl (js.map bC),.sl (ms.map IT)]
def CB(l:List Int)(m:Nat):Nat:=if nx l m 6=0 then nn l m else if nx l m 6=1 then nn l m else nn l (nn l m)
def uf(l:List Int):Nat->Nat
 |0=>0
 |i+1=>CB l (uf l i)
theorem Nk(l:List Int)(i:Nat):uf l i<=2*i:=by
 induction i with
 |zero=>simp[uf]
 |succ i ih=>
  have l1:=bz l (uf l i);have l2:=bz l (nn l (uf l i));simp only[uf,CB];split
  .omega
  .split<;>omega
def Ju(l:List Int)(m:Nat)(lo hi:Int):Int:=if nx l m 6=0 then lo else if nx l m 6=1 then hi else wr (lo+nx l (nn l m) (hi-lo+1))
def ki(l:List Int)(js:List J):List Int:=js.mapIdx λi j=>Ju l (uf l i) j.lo j.hi
def Aw(j:J):Prop:=-1000000<=j.lo∧j.lo<=j.hi∧j.hi<=1000000
theorem Jv{l:List Int}{js:List J}(hlt:i<js.length):((ki l js).map Z).take i++[Z (Ju l (uf l i) js[i].lo js[i].hi)]=((ki l js).map Z).take (i+1):=by
 rw[MF (by simpa[ki]using hlt)];simp[ki]
theorem Ld(l:List Int)(js:List J)(ms:List Ms)(hl:js.length<=1000)(hj:∀j∈js,Aw j):ab Tryz.prog 12 [.pv (gF js ms),.pv (zs l)] [] [] (.pv (zs (ki l js))):=by
 refine Dp Tryz.func12 ?_;intro C hP hN;simp only[Tryz.f12]at hN|-;have q1:=@Nh;refine ud [6] @kh.eq_1 ?_
 refine WP.loopN [] js.length (λi st=>st.t 2=.ptr 2 0∧st.t 5=.ptr 11 0∧st.t 6=.arr 6 i∧st.t 7=.pv (Z i)∧st.h 2=some (.box [.pv (.sl (js.map bC)),.pv (.sl (ms.map IT))] true false)∧
  st.h 11=some (.box [.pv (zs l),.pv (Z (uf l i))] true false)∧st.h 6=some (.row 2 1 (((ki l js).map Z).take i) 0)) (by simp[uf]) ?_
 rintro i st hi ⟨h2,h5,h6,h7,hb2,hb11,hb6⟩
 have hzT:min i (ki l js).length=i:=by simp[ki];omega
 by_cases hlt:i<js.length
 .have hw:IntKind.i64.wrap ((i:Int)+1)=(i:Int)+1:=by rw[IntKind.wrap_i64];omega
  have hm:=Nk l i;have l1:=bz l (uf l i);have hs:=Jv (l:=l) hlt;have hok:=hj js[i] (Ky hlt)
  have hw2:IntKind.i64.wrap (js[i].hi-js[i].lo)=js[i].hi-js[i].lo:=by unfold Aw at hok;rw[IntKind.wrap_i64];omega
  have hw3:IntKind.i64.wrap (js[i].hi-js[i].lo+1)=js[i].hi-js[i].lo+1:=by unfold Aw at hok;rw[IntKind.wrap_i64];omega
  have hS:uf l (i+1)=CB l (uf l i):=rfl
  have hne:js[i].hi-js[i].lo+1≠0:=by unfold Aw at hok;omega
  with_reducible repeat' (first|refine Sp.h ?_|((first|refine Wd ?_|refine Ss.h ?_|refine Sc.h (iy l _ 6 (by decide) (by omega)) ?_|refine Sc.h (iy l _ _ hne (by omega)) ?_|(refine Sb.h ?_ ?_ ?_<;>(try intro hgd)<;>try exact Xy))<;>simp -implicitDefEqProofs (maxSteps:=2000000) [hP,hN,h2,h5,h6,h7,hb2,hb11,hb6,hzT,hlt,hw,hw2,hw3,hS,show(i+1)*8<=140737488355328 by omega,show i<=9223372036854775806 by omega]<;>try refine Ya ?_)|refine X2 ?_ ?_|(refine Xd ?_ ?_<;>intro hcd<;>try exact Xx))
  all_goals (rw[<-hs];clear hs hj hb2 hb11 hb6 h2 h5 h6 h7 hP hN hw2 hw3 hw hS;simp_all[CB,Ju])
 .skip
  refine GT (gA h2 (gA h5 (gA h6 (gA h7 (gA hb2 (gA hb11 (gA hb6 (gA hzT hlt)))))))) ?_;exact HM (by simp[ki]) hlt
theorem wQ(l:List Int)(n i:Nat):Aw (cM l n i)∧(cM l n i).lo<=0∧0<=(cM l n i).hi:=by
 have h1:=dh l (cV l n i) (k:=3) (by decide) (by decide);have h2:=dh l (cV l n i) (k:=5) (by decide) (by decide);have h3:=dh l (nn l (cV l n i)) (k:=4) (by decide) (by decide);have h4:=dh l (nn l (nn l (cV l n i))) (k:=3) (by decide) (by decide)
 have hlo:-1000000<=Au l n i∧Au l n i<=0:=by
  unfold Au;generalize nx l (cV l n i) 3=a at *;generalize nx l (cV l n i) 5=b at *;split
  .omega
  .split
   .simp only[wr,IntKind.wrap_i64];omega
   .have:b=0∨b=1∨b=2∨b=3∨b=4:=by omega
    rcases this with rfl|rfl|rfl|rfl|rfl<;>decide
 have hhi:0<=Av l n i∧Av l n i<=1000000:=by
  unfold Av;generalize nx l (nn l (cV l n i)) 4=a at *;generalize nx l (nn l (nn l (cV l n i))) 3=b at *;split
  .omega
  .split
   .simp only[wr,IntKind.wrap_i64];omega
   .have ha:∀c:Int,0<=c->c<4->0<=wr ((wr (wr (1+c)*65536)).tdiv 8)∧wr ((wr (wr (1+c)*65536)).tdiv 8)<=32768:=by
     intro c h0 h4
     have:c=0∨c=1∨c=2∨c=3:=by omega
     rcases this with rfl|rfl|rfl|rfl<;>decide
    have:=ha a h3.1 h3.2;rw[aa (n:=wr ((wr (wr (1+a)*65536)).tdiv 8)+b) (by omega) (by omega)];omega
 simp only[Aw,cM];omega
theorem sf(l:List Int)(n:Nat):∀j∈cU l n,Aw j:=by
 intro j hj;simp only[cU,rx,KB]at hj;obtain⟨i,_,rfl⟩:=hj;exact(wQ l _ i).1
theorem pw(l:List Int)(n:Nat):(cU l n).length<=3∧0<(cU l n).length:=by
 have hx:=dh l n (k:=3) (by decide) (by decide);rw[cU,kj,rN];omega
theorem yD(x:Int)(hk:0<k)(hk':k<4611686018427387904):0<=ow x k∧ow x k<k:=by
 have:=dh [x] 0 hk hk';simpa[nx]using this
theorem Fk{P:Program}(d:Nat)(t:TypeId)(a b:Bool)(h:P.underlying t=some .bool):aq P (Op.equalIn (d+1) t (.bool a) (.bool b))=some (a==b):=by
 simp only[Op.equalIn,ak,jX h,Js];rfl
def CC(x y:AV):Option (Bool×Bool):=match x,y with
 |.pv (.val (.bool a)),.pv (.val (.bool b))=>some (a,b)
 |_,_=>none
def Jy(x y:AV)(fb:Option dl):Option dl:=match CC x y with
 |some (a,b)=>some (.pv (.val (.bool (a==b))),[])
 |none=>fb
@[simp] theorem P4(a b:Bool)(fb:Option dl):Jy (.pv (.val (.bool a))) (.pv (.val (.bool b))) fb=some (.pv (.val (.bool (a==b))),[]):=rfl
theorem QS(f:FuncId)(p:Int×Int->Int->Bool)(xs:List (Int×Int))(ys:List (Int))(hl:xs.length<=9223372036854775807)(hf:∀a b,ab Tryz.prog f [.pv (aR a),.pv (Z b)] [] [] (.pv (B (p a b)))):ab Tryz.prog 188 [.pv (.sl (xs.map aR)),.pv (.sl (ys.map Z)),.pv (Fv f)] [] [] (.pv (B (decide (xs.length=ys.length)&&dV p xs ys))):=by
 refine Dp Tryz.func188 ?_;intro C hP hN;simp only[Tryz.f188]at hN|-;by_cases he:xs.length=ys.length
 .skip
  refine Gz ?_;refine WP.loopN [8] xs.length (λi st=>st.t 0=.pv (.sl (xs.map aR))∧st.t 1=.pv (.sl (ys.map Z))∧st.t 2=.pv (Fv f)∧st.t 14=.pv (.sl (xs.map aR))∧st.t 15=.pv (Z xs.length)∧st.t 16=.pv (Z i)∧st.h 8=none∧eO p xs ys i=true) (by simp[eO,he]) ?_;rintro i st hi ⟨h0,h1,h2,h14,h15,h16,hb,hq⟩;by_cases hlt:i<xs.length
  .have hw:=al hlt hl
   have hlt':i<ys.length:=by omega
   have hF:p xs[i] ys[i]=false->dV p xs ys=false:=iB hlt hlt';have hS:p xs[i] ys[i]=true->eO p xs ys (i+1)=true:=jq hlt hlt' hq
   with_reducible repeat' (first|refine Sp.h ?_|((first|refine Wd ?_|refine Ss.h ?_|refine Sc.h (hf _ _) ?_|(refine Sb.h ?_ ?_ ?_<;>(try intro hgd)<;>try exact Xy))<;>simp -implicitDefEqProofs (maxSteps:=2000000) [hP,hN,h0,h1,h2,h14,h15,h16,hb,hlt,hlt',hw]<;>try refine Ya ?_)|refine X2 ?_ ?_|(refine Xd ?_ ?_<;>intro hcd<;>try exact Xx))
   all_goals first|exact hF (by simpa using hcd)|simpa using hS (by simpa using hcd)
  .skip
   refine Gz ?_
   all_goals simp[he,jr hlt hq]
 .skip
  exact Gy
  all_goals simp[he]
theorem QT(f:FuncId)(p:Int×Int->Int×Int->Bool)(xs:List (Int×Int))(ys:List (Int×Int))(hl:xs.length<=9223372036854775807)(hf:∀a b,ab Tryz.prog f [.pv (aR a),.pv (aR b)] [] [] (.pv (B (p a b)))):ab Tryz.prog 185 [.pv (.sl (xs.map aR)),.pv (.sl (ys.map aR)),.pv (Fv f)] [] [] (.pv (B (decide (xs.length=ys.length)&&dV p xs ys))):=by
 refine Dp Tryz.func185 ?_;intro C hP hN;simp only[Tryz.f185]at hN|-;by_cases he:xs.length=ys.length
 .skip
  refine Gz ?_;refine WP.loopN [8] xs.length (λi st=>st.t 0=.pv (.sl (xs.map aR))∧st.t 1=.pv (.sl (ys.map aR))∧st.t 2=.pv (Fv f)∧st.t 14=.pv (.sl (xs.map aR))∧st.t 15=.pv (Z xs.length)∧st.t 16=.pv (Z i)∧st.h 8=none∧eO p xs ys i=true) (by simp[eO,he]) ?_;rintro i st hi ⟨h0,h1,h2,h14,h15,h16,hb,hq⟩;by_cases hlt:i<xs.length
  .have hw:=al hlt hl
   have hlt':i<ys.length:=by omega
   have hF:p xs[i] ys[i]=false->dV p xs ys=false:=iB hlt hlt';have hS:p xs[i] ys[i]=true->eO p xs ys (i+1)=true:=jq hlt hlt' hq
   with_reducible repeat' (first|refine Sp.h ?_|((first|refine Wd ?_|refine Ss.h ?_|refine Sc.h (hf _ _) ?_|(refine Sb.h ?_ ?_ ?_<;>(try intro hgd)<;>try exact Xy))<;>simp -implicitDefEqProofs (maxSteps:=2000000) [hP,hN,h0,h1,h2,h14,h15,h16,hb,hlt,hlt',hw]<;>try refine Ya ?_)|refine X2 ?_ ?_|(refine Xd ?_ ?_<;>intro hcd<;>try exact Xx))
   all_goals first|exact hF (by simpa using hcd)|simpa using hS (by simpa using hcd)
  .skip
   refine Gz ?_
   all_goals simp[he,jr hlt hq]
 .skip
  exact Gy
  all_goals simp[he]
theorem T5(f:FuncId)(g:J->Int×Int)(xs:List (J))(hl:xs.length<=16777216)(hf:∀a,ab Tryz.prog f [.pv (bC a)] [] [] (.pv (aR (g a)))):ab Tryz.prog 71 [.pv (.sl (xs.map bC)),.pv (Fv f)] [] [] (.pv (.sl ((xs.map g).map aR))):=by
 refine Dp Tryz.func71 ?_;intro C hP hN;simp only[Tryz.f71]at hN|-;refine GT (gA hl (gA (show(16:Int)*xs.length<=281474976710656 by omega) (show(xs.length:Int)<=9223372036854775807 by omega))) ?_
 refine WP.loopN [7] xs.length (λi st=>st.t 0=.pv (.sl (xs.map bC))∧st.t 1=.pv (Fv f)∧st.t 5=.arr 10 xs.length∧st.t 11=.pv (.sl (xs.map bC))∧st.t 12=.pv (Z xs.length)∧st.t 13=.pv (Z i)∧st.h 7=none∧
  ∃L,st.h 10=some (.row 50 2 L 0)∧L.length=xs.length∧∀j,j<i->L[j]?=((xs.map g).map aR)[j]?) (by simp) ?_
 rintro i st hi ⟨h0,h1,h5,h11,h12,h13,hb,L,hL,hLl,hq⟩
 have hT:L.length=((xs.map g).map aR).length:=by simp[hLl]
 by_cases hlt:i<xs.length
 .have hw:=al hlt (wM hl)
  have hltL:i<L.length:=by omega
  with_reducible repeat' (first|refine Sp.h ?_|((first|refine Ss.h ?_|refine Sc.h (hf _) ?_|(refine Sb.h ?_ ?_ ?_<;>(try intro hgd)<;>try exact Xy))<;>simp -implicitDefEqProofs (maxSteps:=2000000) [hP,hN,h0,h1,h5,h11,h12,h13,hb,hL,hLl,hlt,hltL,hw])|refine X2 ?_ ?_|(refine Xd ?_ ?_<;>intro hcd<;>try exact Xx))
  simpa using Jp hT hq (v:=aR (g xs[i])) (by simp[hlt])
 .skip
  refine GT (gA h0 (gA h1 (gA h5 (gA h11 (gA h12 (gA h13 (gA hb (gA hL (gA hLl hlt))))))))) ?_;simpa using Jq hT hq (by simp;omega)
theorem QU(a:Int×Int)(b:Int):ab Tryz.prog 189 [.pv (aR a),.pv (Z b)] [] [] (.pv (B (nD a b))):=Nc a.1 a.2 b
theorem L5(a b:Int×Int):ab Tryz.prog 129 [.pv (aR a),.pv (aR b)] [] [] (.pv (B (ed a b))):=QI a.1 a.2 b.1 b.2
def lU(xs:List (Int×Int))(ys:List Int):Bool:=decide (xs.length=ys.length)&&dV nD xs ys
def iF(x y:Int×Int):Bool:=ay x.1 x.2&&ay y.1 y.2&&decide (max x.1 y.1<=min x.2 y.2)
def bp(xs ys:List (Int×Int)):Bool:=decide (xs.length=ys.length)&&dV iF xs ys
theorem Nl(xs:List (Int×Int))(ys:List Int)(hl:xs.length<=9223372036854775807):ab Tryz.prog 142 [.pv (iv xs),.pv (zs ys)] [] [] (.pv (B (lU xs ys))):=by
 refine Dp Tryz.func142 ?_;intro C hP hN;simp only[Tryz.f142]at hN|-
 with_reducible repeat' (first|refine Sp.h ?_|((first|refine Ss.h ?_|refine Sc.h (QS _ nD _ _ hl QU) ?_|(refine Sb.h ?_ ?_ ?_<;>(try intro hgd)<;>try exact Xy))<;>simp -implicitDefEqProofs (maxSteps:=2000000) [hP,hN])|refine X2 ?_ ?_|(refine Xd ?_ ?_<;>intro hcd<;>try exact Xx))
 all_goals (first|(simp_all[lU];done)|((try simp_all[lU])<;>(try omega)<;>grind))
theorem QV(x y:Int×Int):ab Tryz.prog 186 [.pv (aR x),.pv (aR y)] [] [] (.pv (B (iF x y))):=by
 refine Dp Tryz.func186 ?_;intro C hP hN;simp only[Tryz.f186]at hN|-
 cases h:iF x y with
 |true=>
  have h':(ay x.1 x.2&&ay y.1 y.2&&decide (max x.1 y.1<=min x.2 y.2))=true:=h;have q1:=@Nd;exact GS h'
 |false=>
  have h':(ay x.1 x.2&&ay y.1 y.2&&decide (max x.1 y.1<=min x.2 y.2))=false:=h;have q1:=@Nd;exact GS h'
theorem QW(xs ys:List (Int×Int))(hl:xs.length<=9223372036854775807):ab Tryz.prog 140 [.pv (iv xs),.pv (iv ys)] [] [] (.pv (B (bp xs ys))):=by
 refine Dp Tryz.func140 ?_;intro C hP hN;simp only[Tryz.f140]at hN|-
 with_reducible repeat' (first|refine Sp.h ?_|((first|refine Ss.h ?_|refine Sc.h (QT _ iF _ _ hl QV) ?_|(refine Sb.h ?_ ?_ ?_<;>(try intro hgd)<;>try exact Xy))<;>simp -implicitDefEqProofs (maxSteps:=2000000) [hP,hN])|refine X2 ?_ ?_|(refine Xd ?_ ?_<;>intro hcd<;>try exact Xx))
 all_goals (first|(simp_all[bp];done)|((try simp_all[bp])<;>(try omega)<;>grind))
end Go.Ab
