/- The contracts and facts that the laws of this seat need, in one text (Ty, CfA, M1, M2, M3, M4, M5, M6, M7). -/
import Derived.Test.YtfpagjchfipjkaaGreatU4
import Derived.Test.YtfpagjchfipjkaaGreatProg
set_option linter.all false
set_option maxRecDepth 10000
set_option maxHeartbeats 16000000
namespace Go.Ab
open IntKind (i64)
open Go.Proofs.Tryz
open Go.Proofs
variable {aft:Array Edge}{dst:Option Nat}{g:Option (Nat×Bool)}{i n:Nat}{k u0 v0:Int}{l:List Int}{m:Mov}{α β:Type}{ρ:Operand->AV}{f:α->β->Bool}{p:α->Bool}{xs:List α}{ys:List β}
abbrev BC(f:FuncId)(r:PV):Prop:=aW prog f [] [] [] (.pv r)
abbrev aR(f:FuncId)(a r:PV):Prop:=aW prog f [.pv a] [] [] (.pv r)
abbrev aF(f:FuncId)(a b r:PV):Prop:=aW prog f [.pv a,.pv b] [] [] (.pv r)
abbrev gu(f:FuncId)(a b c r:PV):Prop:=aW prog f [.pv a,.pv b,.pv c] [] [] (.pv r)
abbrev lR(f:FuncId)(a b c d r:PV):Prop:=aW prog f [.pv a,.pv b,.pv c,.pv d] [] [] (.pv r)
abbrev wo(f:FuncId)(a b c d e r:PV):Prop:=aW prog f [.pv a,.pv b,.pv c,.pv d,.pv e] [] [] (.pv r)
abbrev NV(f:FuncId)(a b c d e g r:PV):Prop:=aW prog f [.pv a,.pv b,.pv c,.pv d,.pv e,.pv g] [] [] (.pv r)
@[simp] theorem ti2:aA prog 2=some ⟨1,(some (.int .i64 0)),.one⟩/\gD prog 2=some .i64/\aA prog 3=some ⟨1,(some (.int .i64 0)),.one⟩/\gD prog 3=some .i64/\aA prog 4=some ⟨1,(some (.bool false)),.one⟩/\aA prog 5=some ⟨1,(some (.int .u8 0)),.one⟩/\gD prog 5=some .u8/\aA prog 9=some ⟨1,(some (.string ByteArray.empty)),.one⟩/\pW prog 9=some none/\gD prog 21=some .i32/\aA prog 22=some ⟨1,(some (.slice none 0 0)),.slice 35 4 96 (some (.agg #[.slice none 0 0,.slice none 0 0,.slice none 0 0,.slice none 0 0]))⟩/\aA prog 23=some ⟨1,(some (.slice none 0 0)),.slice 60 3 24 (some (.agg #[.int .i64 0,.int .i64 0,.int .i64 0]))⟩/\aA prog 24=some ⟨1,(some (.slice none 0 0)),.slice 40 2 48 (some (.agg #[.slice none 0 0,.slice none 0 0]))⟩/\aA prog 25=some ⟨1,(some (.slice none 0 0)),.slice 3 1 8 (some (.int .i64 0))⟩/\aA prog 28=some ⟨1,(some (.slice none 0 0)),.slice 108 12 104 (some (.agg #[.string ByteArray.empty,.int .i64 0,.int .i64 0,.int .i64 0,.int .i64 0,.int .i64 0,.int .i64 0,.int .i64 0,.int .i64 0,.int .i64 0,.int .i64 0,.int .i64 0]))⟩/\aA prog 29=some ⟨1,(some (.slice none 0 0)),.slice 110 5 40 (some (.agg #[.int .i64 0,.int .i64 0,.int .i64 0,.int .i64 0,.int .i64 0]))⟩/\aA prog 31=some ⟨2,(some (.agg #[.slice none 0 0,.slice none 0 0])),.struct [(0,1),(1,1)]⟩/\aA prog 32=some ⟨1,(some (.slice none 0 0)),.slice 81 3 40 (some (.agg #[.int .i64 0,.int .i64 0,.slice none 0 0]))⟩/\aA prog 33=some ⟨1,(some (.slice none 0 0)),.slice 113 2 16 (some (.agg #[.int .i64 0,.int .i64 0]))⟩/\aA prog 35=some ⟨4,(some (.agg #[.slice none 0 0,.slice none 0 0,.slice none 0 0,.slice none 0 0])),.struct [(0,2),(2,1),(3,1)]⟩/\aA prog 37=some ⟨1,(some (.slice none 0 0)),.slice 61 1 24 (some (.slice none 0 0))⟩/\aA prog 38=some ⟨1,(some (.slice none 0 0)),.slice 126 12 160 (some (.agg #[.int .i64 0,.int .i64 0,.int .i64 0,.int .i64 0,.int .i64 0,.slice none 0 0,.int .i64 0,.int .i64 0,.slice none 0 0,.int .i64 0,.slice none 0 0,.slice none 0 0]))⟩/\aA prog 40=some ⟨2,(some (.agg #[.slice none 0 0,.slice none 0 0])),.struct [(0,1),(1,1)]⟩/\aA prog 46=some ⟨1,(some (.slice none 0 0)),.slice 89 6 48 (some (.agg #[.int .i64 0,.int .i64 0,.int .i64 0,.int .i64 0,.int .i64 0,.int .i64 0]))⟩/\aA prog 50=some ⟨2,(some (.agg #[.slice none 0 0,.slice none 0 0])),.struct [(0,1),(1,1)]⟩/\aA prog 51=some ⟨1,(some (.slice none 0 0)),.slice 25 1 24 (some (.slice none 0 0))⟩/\aA prog 56=some ⟨1,(some (.int .i64 0)),.one⟩/\aA prog 60=some ⟨3,(some (.agg #[.int .i64 0,.int .i64 0,.int .i64 0])),.array 3 1⟩/\pW prog 60=some (some 3)/\aA prog 61=some ⟨1,(some (.slice none 0 0)),.slice 2 1 8 (some (.int .i64 0))⟩/\aA prog 63=some ⟨1,(some (.slice none 0 0)),.slice 65 3 40 (some (.agg #[.int .i64 0,.int .i64 0,.slice none 0 0]))⟩/\aA prog 65=some ⟨3,(some (.agg #[.int .i64 0,.int .i64 0,.slice none 0 0])),.struct [(0,1),(1,1),(2,1)]⟩/\aA prog 67=some ⟨3,(some (.agg #[.int .i64 0,.slice none 0 0,.slice none 0 0])),.struct [(0,1),(1,1),(2,1)]⟩/\aA prog 69=some ⟨8,(some (.agg #[.int .i64 0,.slice none 0 0,.int .i64 0,.int .i64 0,.slice none 0 0,.int .i64 0,.slice none 0 0,.slice none 0 0])),.struct [(0,1),(1,1),(2,3),(5,3)]⟩/\aA prog 81=some ⟨3,(some (.agg #[.int .i64 0,.int .i64 0,.slice none 0 0])),.struct [(0,1),(1,1),(2,1)]⟩/\aA prog 87=some ⟨3,(some (.agg #[.int .i64 0,.int .i64 0,.int .i64 0])),.struct [(0,1),(1,1),(2,1)]⟩/\aA prog 89=some ⟨6,(some (.agg #[.int .i64 0,.int .i64 0,.int .i64 0,.int .i64 0,.int .i64 0,.int .i64 0])),.struct [(0,3),(3,3)]⟩/\aA prog 92=some ⟨7,(some (.agg #[.slice none 0 0,.slice none 0 0,.slice none 0 0,.slice none 0 0,.int .i64 0,.slice none 0 0,.slice none 0 0])),.struct [(0,4),(4,1),(5,1),(6,1)]⟩/\aA prog 94=some ⟨1,(some (.slice none 0 0)),.slice 87 3 24 (some (.agg #[.int .i64 0,.int .i64 0,.int .i64 0]))⟩/\aA prog 99=some ⟨1,(some (.nilFunc)),.one⟩/\aA prog 102=some ⟨5,(some (.agg #[.slice none 0 0,.int .i64 0,.int .i64 0,.int .i64 0,.nilFunc])),.struct [(0,1),(1,1),(2,1),(3,1),(4,1)]⟩/\aA prog 108=some ⟨12,(some (.agg #[.string ByteArray.empty,.int .i64 0,.int .i64 0,.int .i64 0,.int .i64 0,.int .i64 0,.int .i64 0,.int .i64 0,.int .i64 0,.int .i64 0,.int .i64 0,.int .i64 0])),.struct [(0,1),(1,1),(2,1),(3,3),(6,1),(7,1),(8,1),(9,1),(10,1),(11,1)]⟩/\aA prog 110=some ⟨5,(some (.agg #[.int .i64 0,.int .i64 0,.int .i64 0,.int .i64 0,.int .i64 0])),.struct [(0,1),(1,1),(2,3)]⟩/\aA prog 113=some ⟨2,(some (.agg #[.int .i64 0,.int .i64 0])),.struct [(0,1),(1,1)]⟩/\aA prog 116=some ⟨3,(some (.agg #[.int .i64 0,.int .i64 0,.slice none 0 0])),.struct [(0,1),(1,1),(2,1)]⟩:=by repeat' (first|kernel_rfl|refine ⟨by kernel_rfl,?_⟩)
@[simp] theorem SW:aA prog 117=some ⟨1,(some (.slice none 0 0)),.slice 116 3 40 (some (.agg #[.int .i64 0,.int .i64 0,.slice none 0 0]))⟩:=by kernel_rfl
@[simp] theorem Zb:aA prog 118=some ⟨1,(some (.slice none 0 0)),.slice 170 2 16 (some (.agg #[.int .i64 0,.int .i64 0]))⟩/\aA prog 122=some ⟨5,(some (.agg #[.int .i64 0,.slice none 0 0,.int .i64 0,.slice none 0 0,.slice none 0 0])),.struct [(0,1),(1,1),(2,3)]⟩/\aA prog 126=some ⟨12,(some (.agg #[.int .i64 0,.int .i64 0,.int .i64 0,.int .i64 0,.int .i64 0,.slice none 0 0,.int .i64 0,.int .i64 0,.slice none 0 0,.int .i64 0,.slice none 0 0,.slice none 0 0])),.struct [(0,1),(1,1),(2,1),(3,1),(4,8)]⟩/\aA prog 132=some ⟨2,(some (.agg #[.slice none 0 0,.int .i64 0])),.struct [(0,1),(1,1)]⟩/\aA prog 143=some ⟨5,(some (.agg #[.string ByteArray.empty,.int .i64 0,.int .i64 0,.int .i64 0,.int .i64 0])),.struct [(0,1),(1,1),(2,3)]⟩/\aA prog 153=some ⟨1,(some (.slice none 0 0)),.slice 155 1 8 (some (.map none))⟩/\aA prog 155=some ⟨1,(some (.map none)),.one⟩/\zD prog 155=some (.i64,2,4)/\H2 prog 4=some (.bool false)/\aA prog 156=some ⟨2,(some (.agg #[.int .i64 0,.int .i64 0])),.array 2 1⟩/\aA prog 157=some ⟨1,(some (.slice none 0 0)),.slice 159 1 24 (some (.slice none 0 0))⟩/\aA prog 159=some ⟨1,(some (.slice none 0 0)),.slice 4 1 1 (some (.bool false))⟩/\aA prog 167=some ⟨1,(some (.int .u64 0)),.one⟩/\gD prog 167=some .u64/\aA prog 170=some ⟨2,(some (.agg #[.int .i64 0,.int .i64 0])),.struct [(0,1),(1,1)]⟩/\aA prog 171=some ⟨1,(some (.slice none 0 0)),.slice 178 2 32 (some (.agg #[.slice none 0 0,.int .i64 0]))⟩/\aA prog 176=some ⟨1,(some (.slice none 0 0)),.slice 230 6 48 (some (.agg #[.int .i64 0,.int .i64 0,.int .i64 0,.int .i64 0,.int .i64 0,.int .i64 0]))⟩/\aA prog 178=some ⟨2,(some (.agg #[.slice none 0 0,.int .i64 0])),.struct [(0,1),(1,1)]⟩/\aA prog 180=some ⟨7,(some (.agg #[.int .i64 0,.int .i64 0,.int .i64 0,.int .i64 0,.slice none 0 0,.slice none 0 0,.int .i64 0])),.struct [(0,1),(1,3),(4,1),(5,1),(6,1)]⟩/\zD prog 199=some (.i64,10,4)/\aA prog 200=some ⟨10,(some (.agg #[.int .i64 0,.int .i64 0,.int .i64 0,.int .i64 0,.int .i64 0,.int .i64 0,.int .i64 0,.int .i64 0,.int .i64 0,.int .i64 0])),.array 10 1⟩/\aA prog 211=some ⟨1,(some (.slice none 0 0)),.slice 176 1 24 (some (.slice none 0 0))⟩/\aA prog 213=some ⟨1,(some (.slice none 0 0)),.slice 215 2 16 (some (.agg #[.int .i64 0,.int .i64 0]))⟩/\aA prog 215=some ⟨2,(some (.agg #[.int .i64 0,.int .i64 0])),.struct [(0,1),(1,1)]⟩/\aA prog 229=some ⟨6,(some (.agg #[.int .i64 0,.int .i64 0,.int .i64 0,.int .i64 0,.int .i64 0,.int .i64 0])),.array 3 2⟩/\aA prog 230=some ⟨6,(some (.agg #[.int .i64 0,.int .i64 0,.int .i64 0,.int .i64 0,.int .i64 0,.int .i64 0])),.array 3 2⟩/\pW prog 230=none/\DQ prog 230=some (3,2)/\aA prog 239=some ⟨1,(some (.nilFunc)),.one⟩/\aA prog 247=some ⟨3,(some (.agg #[.slice none 0 0,.slice none 0 0,.slice none 0 0])),.struct [(0,1),(1,1),(2,1)]⟩/\aA prog 251=some ⟨4,(some (.agg #[.slice none 0 0,.slice none 0 0,.int .i64 0,.int .i64 0])),.struct [(0,1),(1,1),(2,1),(3,1)]⟩/\aA prog 256=some ⟨3,(some (.agg #[.int .i64 0,.slice none 0 0,.slice none 0 0])),.struct [(0,3)]⟩/\aA prog 258=some ⟨1,(some (.agg #[.slice none 0 0])),.struct [(0,1)]⟩/\aA prog 270=some ⟨1,(some (.int .u64 0)),.one⟩/\gD prog 270=some .u64/\aA prog 272=some ⟨1,(some (.slice none 0 0)),.slice 277 24 192 (some (.agg #[.int .i64 0,.int .i64 0,.int .i64 0,.int .i64 0,.int .i64 0,.int .i64 0,.int .i64 0,.int .i64 0,.int .i64 0,.int .i64 0,.int .i64 0,.int .i64 0,.int .i64 0,.int .i64 0,.int .i64 0,.int .i64 0,.int .i64 0,.int .i64 0,.int .i64 0,.int .i64 0,.int .i64 0,.int .i64 0,.int .i64 0,.int .i64 0]))⟩/\aA prog 275=some ⟨18,(some (.agg #[.int .i64 0,.int .i64 0,.int .i64 0,.int .i64 0,.int .i64 0,.int .i64 0,.int .i64 0,.int .i64 0,.int .i64 0,.int .i64 0,.int .i64 0,.int .i64 0,.int .i64 0,.int .i64 0,.int .i64 0,.int .i64 0,.int .i64 0,.int .i64 0])),.array 3 6⟩/\aA prog 277=some ⟨24,(some (.agg #[.int .i64 0,.int .i64 0,.int .i64 0,.int .i64 0,.int .i64 0,.int .i64 0,.int .i64 0,.int .i64 0,.int .i64 0,.int .i64 0,.int .i64 0,.int .i64 0,.int .i64 0,.int .i64 0,.int .i64 0,.int .i64 0,.int .i64 0,.int .i64 0,.int .i64 0,.int .i64 0,.int .i64 0,.int .i64 0,.int .i64 0,.int .i64 0])),.struct [(0,18),(18,6)]⟩/\aA prog 298=some ⟨2,(some (.agg #[.slice none 0 0,.slice none 0 0])),.struct [(0,1),(1,1)]⟩/\aA prog 301=some ⟨2,(some (.agg #[.slice none 0 0,.slice none 0 0])),.struct [(0,2)]⟩/\aA prog 302=some ⟨2,(some (.agg #[.slice none 0 0,.slice none 0 0])),.struct [(0,2)]⟩/\aA prog 304=some ⟨8,(some (.agg #[.slice none 0 0,.slice none 0 0,.slice none 0 0,.slice none 0 0,.int .i64 0,.int .i64 0,.int .i64 0,.int .i64 0])),.struct [(0,2),(2,2),(4,3),(7,1)]⟩/\aA prog 326=some ⟨2,(some (.agg #[.slice none 0 0,.int .i64 0])),.struct [(0,1),(1,1)]⟩/\aA prog 328=some ⟨4,(some (.agg #[.slice none 0 0,.int .i64 0,.slice none 0 0,.int .i64 0])),.struct [(0,2),(2,2)]⟩/\aA prog 359=some ⟨1,(some (.agg #[.nilFunc])),.struct [(0,1)]⟩/\aA prog 365=some ⟨1,(some (.nilFunc)),.one⟩/\aA prog 367=some ⟨2,(some (.agg #[.nilFunc,.nilFunc])),.struct [(0,1),(1,1)]⟩/\aA prog 372=some ⟨4,(some (.agg #[.int .i64 0,.int .i64 0,.int .i64 0,.int .i64 0])),.array 4 1⟩/\pW prog 372=some (some 4)/\aA prog 374=some ⟨11,(some (.agg #[.int .i64 0,.int .i64 0,.int .i64 0,.int .i64 0,.int .i64 0,.int .i64 0,.int .i64 0,.int .i64 0,.int .i64 0,.int .i64 0,.int .i64 0])),.array 11 1⟩/\aA prog 378=some ⟨11,(some (.agg #[.int .i64 0,.int .i64 0,.int .i64 0,.int .i64 0,.int .i64 0,.int .i64 0,.int .i64 0,.int .i64 0,.int .i64 0,.int .i64 0,.int .i64 0])),.array 11 1⟩:=by repeat' (first|kernel_rfl|refine ⟨by kernel_rfl,?_⟩)
abbrev I(lo hi:Int):PV:=.val (.agg #[.int .i64 lo,.int .i64 hi])
abbrev aJ(x:Int×Int):PV:=I x.1 x.2
abbrev B(b:Bool):PV:=.val (.bool b)
abbrev Z(n:Int):PV:=.val (.int .i64 n)
abbrev wr(n:Int):Int:=i64.wrap n
def aS(lo hi:Int):Bool:=decide (-2147483648<=lo)&&decide (lo<=hi)&&decide (hi<=2147483648)
theorem eqI(a b c d:Int):ag prog (Op.equal 170 (.agg #[.int .i64 a,.int .i64 b]) (.agg #[.int .i64 c,.int .i64 d]))=some (a==c&&b==d):=by
 have hf:(prog.fieldsOf 170).toList=[(prog.fieldsOf 170)[0]!,(prog.fieldsOf 170)[1]!]:=by kernel_rfl
 show ag prog (Op.equalIn (9999+1) 170 _ _)=_;rw[p9 9999 170 _ _ (by kernel_rfl) (by kernel_rfl),hf]
 have h:=iX (P:=prog) (d:=9999) (xs:=#[.int .i64 a,.int .i64 b]) (ys:=#[.int .i64 c,.int .i64 d]) (f:=(prog.fieldsOf 170)[0]!) (fs:=[(prog.fieldsOf 170)[1]!]) (a:=.int .i64 a) (b:=.int .i64 c) (by decide +kernel) (by kernel_rfl) (by kernel_rfl) (kQ 9998 _ .i64 .i64 a c (by kernel_rfl))
  (iX (by decide +kernel) (a:=.int .i64 b) (b:=.int .i64 d) (by kernel_rfl) (by kernel_rfl) (kQ 9998 _ .i64 .i64 b d (by kernel_rfl)) wR)
 rw[h];simp
def jH(P:Program)(o:Oper)(ρ:Operand->AV):Option bG:=aU P o ρ
def yq(x:AV):Option (Int×Int):=match x with
 |.pv (.val (.agg c))=>match c.toList with
  |[.int .i64 a,.int .i64 b]=>some (a,b)
  |_=>none
 |_=>none
theorem AP{x:AV}{a b:Int}(h:yq x=some (a,b)):x=.pv (I a b):=by
 unfold yq at h;split at h
 .split at h
  .rename_i d _ e f c
   injection h with h;injection h with h1 h2;subst h1;subst h2;rw[<-Array.toArray_toList (xs:=d),c]
  .cases h
 .cases h
def TY(x y:AV)(fb:Option bG):Option bG:=match yq x,yq y with
 |some (a,b),some (c,d)=>some (.pv (.val (.bool !(a==c&&b==d))),[])
 |_,_=>fb
@[simp] theorem Tb(a b c d:Int)(fb:Option bG):TY (.pv (.val (.agg #[.int .i64 a,.int .i64 b]))) (.pv (.val (.agg #[.int .i64 c,.int .i64 d]))) fb=some (.pv (.val (.bool !(a==c&&b==d))),[]):=rfl
theorem jY(lo hi:Int):aR 205 (I lo hi) (B (aS lo hi)):=by
 refine Dp func205 λC hP hN=>?_
 with_reducible repeat' (first|refine Sp.h ?_|((first|refine Ss.h ?_|(refine Sb.h ?_ ?_ ?_<;>(try intro hgd)<;>try exact Xy))<;>simp -implicitDefEqProofs (maxSteps:=2000000) [hP,hN])|refine X2 ?_ ?_|(refine Xd ?_ ?_<;>intro hcd<;>try exact Xx))
 all_goals (first|(simp_all[aS];done)|((try simp_all[aS])<;>(try omega)<;>grind))
theorem rL(lo hi:Int):aR 197 (I lo hi) (B (aS lo hi)):=by
 refine Dp func197 λC hP hN=>?_
 with_reducible repeat' (first|refine Sp.h ?_|((first|refine Ss.h ?_|(refine Sb.h ?_ ?_ ?_<;>(try intro hgd)<;>try exact Xy))<;>simp -implicitDefEqProofs (maxSteps:=2000000) [hP,hN])|refine X2 ?_ ?_|(refine Xd ?_ ?_<;>intro hcd<;>try exact Xx))
 all_goals (first|(simp_all[aS];done)|((try simp_all[aS])<;>(try omega)<;>grind))
theorem EL(a b c d:Int):aF 323 (I a b) (I c d) (B (aS a b&&aS c d)):=by
 refine Dp func323 λC hP hN=>?_
 with_reducible repeat' (first|refine Sp.h ?_|((first|refine Ss.h ?_|refine Sc.h (jY _ _) ?_|(refine Sb.h ?_ ?_ ?_<;>(try intro hgd)<;>try exact Xy))<;>simp -implicitDefEqProofs (maxSteps:=2000000) [hP,hN])|refine X2 ?_ ?_|(refine Xd ?_ ?_<;>intro hcd<;>try exact Xx))
 all_goals (first|(simp_all;done)|((try simp_all)<;>(try omega)<;>grind))
def mh(n k:Int):Int:=if n.tmod k<0 then wr (n.tmod k+k)else n.tmod k
theorem d9(n k:Int)(a:k≠0):aF 9 (Z n) (Z k) (Z (mh n k)):=by
 refine Dp func9 λC hP hN=>?_
 with_reducible repeat' (first|refine Sp.h ?_|((first|refine Ss.h ?_|(refine Sb.h ?_ ?_ ?_<;>(try intro hgd)<;>try exact Xy))<;>simp -implicitDefEqProofs (maxSteps:=2000000) [hP,hN,a])|refine X2 ?_ ?_|(refine Xd ?_ ?_<;>intro hcd<;>try exact Xx))
 all_goals (first|(simp_all[mh];done)|((try simp_all[mh])<;>(try omega)<;>grind))
@[simp] theorem W8(a b:Int):(if b<a then b else a)=min a b:=by split<;>omega
@[simp] theorem W9(a b:Int):(if a<b then b else a)=max a b:=by split<;>omega
theorem aa{n:Int}(h1:-9223372036854775808<=n:=by omega)(a:n<9223372036854775808:=by omega):wr n=n:=by
 rw[wr,IntKind.wrap_i64];omega
theorem yr(a:k<64):min k.toNat 64=k.toNat:=by omega
theorem ub:i64.bits=64:=rfl
theorem TZ(a:Int):aR 325 (Z a) (Z (min (max a (-2147483648)) 2147483648)):=by
 refine Dp func325 λC hP hN=>?_;exact Gy
 all_goals (first|(simp_all;done)|((try simp_all)<;>(try omega)<;>grind))
theorem PZ(a b:Int):aF 315 (Z a) (Z b) (I (min (max a (-2147483648)) 2147483648) (min (max b (-2147483648)) 2147483648)):=by
 refine Dp func315 λC hP hN=>?_;have c:=@TZ;exact GS trivial
 all_goals (first|(simp_all;done)|((try simp_all)<;>(try omega)<;>grind))
theorem tG(a:Int):aR 297 (Z a) (I (min (max a (-2147483648)) 2147483648) (min (max a (-2147483648)) 2147483648)):=by
 refine Dp func297 λC hP hN=>?_;have b:=@PZ;exact GS trivial
 all_goals (first|(simp_all;done)|((try simp_all)<;>(try omega)<;>grind))
theorem T0(a k:Int)(h:0<=k)(b:k<64):aF 255 (Z a) (Z k) (Z (a.fdiv (2^k.toNat))):=by
 refine Dp func255 λC hP hN=>?_;exact GS (be h @ub (yr b))
 all_goals (first|(simp_all;done)|((try simp_all)<;>(try omega)<;>grind))
theorem T1(a k:Int)(h:0<=k)(b:k<64):aF 164 (Z a) (Z k) (Z (a.fdiv (2^k.toNat))):=by
 refine Dp func164 λC hP hN=>?_;exact GS (be h @ub (yr b))
 all_goals (first|(simp_all;done)|((try simp_all)<;>(try omega)<;>grind))
def gb(x y:Int×Int):Int×Int:=if aS x.1 x.2&&aS y.1 y.2 then(min x.1 y.1,max x.2 y.2)else(0,0)
theorem Ik(a b c d:Int):aF 347 (I a b) (I c d) (aJ (gb (a,b) (c,d))):=by
 refine Dp func347 λC hP hN=>?_
 with_reducible repeat' (first|refine Sp.h ?_|((first|refine Ss.h ?_|refine Sc.h (EL _ _ _ _) ?_|(refine Sb.h ?_ ?_ ?_<;>(try intro hgd)<;>try exact Xy))<;>simp -implicitDefEqProofs (maxSteps:=2000000) [hP,hN])|refine X2 ?_ ?_|(refine Xd ?_ ?_<;>intro hcd<;>try exact Xx))
 all_goals (first|(simp_all[gb];done)|((try simp_all[gb])<;>(try omega)<;>grind))
theorem Il(a b c d:Int):aF 331 (I a b) (I c d) (aJ (gb (a,b) (c,d))):=by
 refine Dp func331 λC hP hN=>?_
 with_reducible repeat' (first|refine Sp.h ?_|((first|refine Ss.h ?_|refine Sc.h (rL _ _) ?_|(refine Sb.h ?_ ?_ ?_<;>(try intro hgd)<;>try exact Xy))<;>simp -implicitDefEqProofs (maxSteps:=2000000) [hP,hN])|refine X2 ?_ ?_|(refine Xd ?_ ?_<;>intro hcd<;>try exact Xx))
 all_goals (first|(simp_all[gb];done)|((try simp_all[gb])<;>(try omega)<;>grind))
theorem EM(a b:Int):aR 346 (I a b) (Z (if aS a b then wr (b-a)else 0)):=by
 refine Dp func346 λC hP hN=>?_
 with_reducible repeat' (first|refine Sp.h ?_|((first|refine Ss.h ?_|refine Sc.h (jY _ _) ?_|(refine Sb.h ?_ ?_ ?_<;>(try intro hgd)<;>try exact Xy))<;>simp -implicitDefEqProofs (maxSteps:=2000000) [hP,hN])|refine X2 ?_ ?_|(refine Xd ?_ ?_<;>intro hcd<;>try exact Xx))
 all_goals (first|(simp_all;done)|((try simp_all)<;>(try omega)<;>grind))
theorem T3(a b:Int):aR 215 (I a b) (Z (if aS a b then(wr (a+b)).fdiv 2 else 0)):=by
 refine Dp func215 λC hP hN=>?_
 with_reducible repeat' (first|refine Sp.h ?_|((first|refine Ss.h ?_|refine Sc.h (jY _ _) ?_|refine Sc.h (T0 _ _ (by decide) (by decide)) ?_|(refine Sb.h ?_ ?_ ?_<;>(try intro hgd)<;>try exact Xy))<;>simp -implicitDefEqProofs (maxSteps:=2000000) [hP,hN])|refine X2 ?_ ?_|(refine Xd ?_ ?_<;>intro hcd<;>try exact Xx))
 all_goals (first|(simp_all;done)|((try simp_all)<;>(try omega)<;>grind))
theorem T4(a b x:Int):aF 351 (I a b) (Z x) (B (aS a b&&decide (a<=x)&&decide (x<=b))):=by
 refine Dp func351 λC hP hN=>?_
 with_reducible repeat' (first|refine Sp.h ?_|((first|refine Ss.h ?_|refine Sc.h (jY _ _) ?_|(refine Sb.h ?_ ?_ ?_<;>(try intro hgd)<;>try exact Xy))<;>simp -implicitDefEqProofs (maxSteps:=2000000) [hP,hN])|refine X2 ?_ ?_|(refine Xd ?_ ?_<;>intro hcd<;>try exact Xx))
 all_goals (first|(simp_all;done)|((try simp_all)<;>(try omega)<;>grind))
abbrev zs(xs:List Int):PV:=.sl (xs.map Z)
abbrev iv(xs:List (Int×Int)):PV:=.sl (xs.map aJ)
abbrev Fv(f:FuncId):PV:=.val (.func (.func f) #[] #[])
theorem sT(h:n<=16777216):n<=9223372036854775807:=by omega
theorem ab(h:i<n)(hn:n<=9223372036854775807):i64.wrap ((i:Int)+1)=(i:Int)+1:=by rw[IntKind.wrap_i64];omega
def lV(p:α->Bool)(xs:List α):Int:=match xs.findIdx? p with
 |some i=>i
 |none=>-1
theorem lB(b:i<xs.length)(hq:∀j x,j<i->xs[j]?=some x->p x=false)(hp:p xs[i]=true):lV p xs=i:=by
 have:xs.findIdx? p=some i:=by
  rw[yA2];refine⟨b,hp,λj c=>?_⟩
  have a:j<xs.length:=by omega
  rw[hq j xs[j] c (an a)];simp
 simp[lV,this]
theorem qb(hq:∀(j:Nat) x,xs[j]?=some x->p x=false):lV p xs=-1:=by
 have:xs.findIdx? p=none:=by
  rw[List.findIdx?_eq_none_iff];intro x b;obtain⟨j,a,rfl⟩:=yAq.1 b;exact hq j _ (an a)
 simp[lV,this]
theorem kR(p:α->Bool)(xs:List α):decide (0<=lV p xs)=xs.any p:=by
 unfold lV
 cases h:xs.findIdx? p with
 |none=>
  rw[List.findIdx?_eq_none_iff]at h
  have:xs.any p=false:=by
   rw[yAL];intro x b;rw[h x b];simp
  simp[this]
 |some i=>
  rw[yA2]at h;obtain⟨a,hp,_⟩:=h;have:xs.any p=true:=yAT.2 ⟨xs[i],Zs a,hp⟩;simp[this]
theorem kS(b:i<xs.length)(hq:∀j x,j<i->xs[j]?=some x->p x=false)(hp:p xs[i]=false):∀j x,j<i+1->xs[j]?=some x->p x=false:=by
 intro j x c a;by_cases e:j=i
 .subst e;rw[an b]at a;injection a with a;subst a;exact hp
 .exact hq j x (by omega) a
theorem rM(b:¬i<xs.length)(hq:∀j x,j<i->xs[j]?=some x->p x=false):∀(j:Nat) x,xs[j]?=some x->p x=false:=by
 intro j x a;have:=(th.1 a).1;exact hq j x (by omega) a
theorem T5(f:FuncId)(p:Int×Int->Bool)(xs:List (Int×Int))(d:xs.length<=9223372036854775807)(hf:∀x,aW prog f [.pv (aJ x)] [] [] (.pv (B (p x)))):aF 292 (iv xs) (Fv f) (Z (lV p xs)):=by
 refine Dp func292 λC hP hN=>?_;refine Gz ?_;refine WP.loopN [] xs.length (λi b=>b.t 0=.pv (iv xs)/\b.t 1=.pv (Fv f)/\b.t 7=.pv (Z xs.length)/\b.t 8=.pv (Z i)/\∀j x,j<i->xs[j]?=some x->p x=false) (by simp) ?_;rintro i b hi ⟨c,h1,h7,h8,hq⟩;by_cases a:i<xs.length
 .have e:=ab a d
  with_reducible repeat' (first|refine Sp.h ?_|((first|refine Ss.h ?_|refine Sc.h (hf _) ?_|(refine Sb.h ?_ ?_ ?_<;>(try intro hgd)<;>try exact Xy))<;>simp -implicitDefEqProofs (maxSteps:=2000000) [hP,hN,c,h1,h7,h8,a,e])|refine X2 ?_ ?_|(refine Xd ?_ ?_<;>intro hcd<;>try exact Xx))
  .exact(lB a hq hcd).symm
  .simpa using kS a hq hcd
 .skip
  refine Gz ?_;exact(qb (rM a hq)).symm
theorem T6(f:FuncId)(p:Int->Bool)(xs:List (Int))(d:xs.length<=9223372036854775807)(hf:∀x,aW prog f [.pv (Z x)] [] [] (.pv (B (p x)))):aF 232 (zs xs) (Fv f) (Z (lV p xs)):=by
 refine Dp func232 λC hP hN=>?_;refine Gz ?_;refine WP.loopN [] xs.length (λi b=>b.t 0=.pv (zs xs)/\b.t 1=.pv (Fv f)/\b.t 7=.pv (Z xs.length)/\b.t 8=.pv (Z i)/\∀j x,j<i->xs[j]?=some x->p x=false) (by simp) ?_;rintro i b hi ⟨c,h1,h7,h8,hq⟩;by_cases a:i<xs.length
 .have e:=ab a d
  with_reducible repeat' (first|refine Sp.h ?_|((first|refine Ss.h ?_|refine Sc.h (hf _) ?_|(refine Sb.h ?_ ?_ ?_<;>(try intro hgd)<;>try exact Xy))<;>simp -implicitDefEqProofs (maxSteps:=2000000) [hP,hN,c,h1,h7,h8,a,e])|refine X2 ?_ ?_|(refine Xd ?_ ?_<;>intro hcd<;>try exact Xx))
  .exact(lB a hq hcd).symm
  .simpa using kS a hq hcd
 .skip
  refine Gz ?_;exact(qb (rM a hq)).symm
theorem T7(f:FuncId)(p:Int×Int->Bool)(xs:List (Int×Int))(a:xs.length<=9223372036854775807)(hf:∀x,aW prog f [.pv (aJ x)] [] [] (.pv (B (p x)))):aF 271 (iv xs) (Fv f) (B (xs.any p)):=by
 refine Dp func271 λC hP hN=>?_;have b:=T5 _ _ _ a hf;refine GT trivial ?_
 all_goals (first|(simp_all[kR];done)|((try simp_all[kR])<;>(try omega)<;>grind))
theorem T8(f:FuncId)(p:Int->Bool)(xs:List (Int))(a:xs.length<=9223372036854775807)(hf:∀x,aW prog f [.pv (Z x)] [] [] (.pv (B (p x)))):aF 203 (zs xs) (Fv f) (B (xs.any p)):=by
 refine Dp func203 λC hP hN=>?_;have b:=T6 _ _ _ a hf;refine GT trivial ?_
 all_goals (first|(simp_all[kR];done)|((try simp_all[kR])<;>(try omega)<;>grind))
def bF(p:α->Bool)(xs:List α):Bool:=xs.all p
theorem G5(p:α->Bool)(xs:List α):(xs.any λx=>!p x)=!bF p xs:=by simp[bF,List.any_eq_not_all_not]
abbrev vI(x:Int×Int):Bool:=aS x.1 x.2
def cJ(x:Int):Bool:=decide (-2147483648<=x)&&decide (x<=2147483648)
theorem T9(x:Int):aR 204 (Z x) (B (!cJ x)):=by
 refine Dp func204 λC hP hN=>?_
 with_reducible repeat' (first|refine Sp.h ?_|((first|refine Ss.h ?_|(refine Sb.h ?_ ?_ ?_<;>(try intro hgd)<;>try exact Xy))<;>simp -implicitDefEqProofs (maxSteps:=2000000) [hP,hN])|refine X2 ?_ ?_|(refine Xd ?_ ?_<;>intro hcd<;>try exact Xx))
 all_goals (first|(simp_all[cJ];done)|((try simp_all[cJ])<;>(try omega)<;>grind))
theorem tH(xs:List Int)(a:xs.length<=9223372036854775807):aR 159 (zs xs) (B (bF cJ xs)):=by
 refine Dp func159 λC hP hN=>?_;have b:=T8 _ _ _ a T9;exact GS (G5 cJ xs)
 all_goals (first|(simp_all;done)|((try simp_all)<;>(try omega)<;>grind))
def iY(xs ys:List Int)(d:Int):Bool:=decide (xs.length=ys.length)&&bF cJ xs&&bF cJ ys&&decide (0<=d)&&decide (d<=20)
theorem P0(xs ys:List Int)(d:Int)(a:xs.length<=9223372036854775807)(b:ys.length<=9223372036854775807):gu 161 (zs xs) (zs ys) (Z d) (B (iY xs ys d)):=by
 refine Dp func161 λC hP hN=>?_
 with_reducible repeat' (first|refine Sp.h ?_|((first|refine Ss.h ?_|refine Sc.h (tH _ a) ?_|refine Sc.h (tH _ b) ?_|(refine Sb.h ?_ ?_ ?_<;>(try intro hgd)<;>try exact Xy))<;>simp -implicitDefEqProofs (maxSteps:=2000000) [hP,hN])|refine X2 ?_ ?_|(refine Xd ?_ ?_<;>intro hcd<;>try exact Xx))
 all_goals (first|(simp_all[iY];done)|((try simp_all[iY])<;>(try omega)<;>grind))
theorem rN{xs ys:List Int}{d:Int}(h:iY xs ys d=true):xs.length=ys.length/\bF cJ xs=true/\bF cJ ys=true/\0<=d/\d<=20:=by
 simp only[iY,up,Is]at h;exact⟨h.1.1.1.1,h.1.1.1.2,h.1.1.2,h.1.2,h.2⟩
theorem AQ{d:Int}(a:0<=d)(hd:d<=20):i64.wrap (2^d.toNat)=2^d.toNat:=by
 have:∀n:Nat,n<=20->i64.wrap (2^n)=2^n:=by decide
 exact this d.toNat (by omega)
theorem Le{T L:List PV}{v:PV}(a:L.length=T.length)(h:∀j,j<i->L[j]?=T[j]?)(b:T[i]?=some v):∀j,j<i+1->(L.set i v)[j]?=T[j]?:=by
 intro j c;have hi:i<T.length:=(th.1 b).1;by_cases e:j=i
 .subst e;rw[b,List.getElem?_set_self (by omega)]
 .rw[List.getElem?_set_ne (by omega)];exact h j (by omega)
theorem Lf{T L:List PV}(a:L.length=T.length)(h:∀j,j<i->L[j]?=T[j]?)(hi:T.length<=i):L=T:=by
 apply ZM;intro j;by_cases e:j<i
 .exact h j e
 .rw[Zh (by omega),Zh (by omega)]
def rO(a d f t:Int):Int×Int:=
 let s:=wr (a*wr (t-f));let e:=wr (wr (a+1)*wr (t-f))
 (wr (f+(min s e).fdiv (2^d.toNat)),wr (f-(wr (-max s e)).fdiv (2^d.toNat)))
theorem Ua(f t i d:Int)(a:0<=d)(hd:d<64):lR 163 (Z f) (Z t) (.rptr (Z i) 0) (.rptr (Z d) 0) (aJ (rO i d f t)):=by
 refine Dp func163 λC hP hN=>?_
 with_reducible repeat' (first|refine Sp.h ?_|((first|refine Wd ?_|refine Ss.h ?_|refine Sc.h (T1 _ _ a hd) ?_|(refine Sb.h ?_ ?_ ?_<;>(try intro hgd)<;>try exact Xy))<;>simp -implicitDefEqProofs (maxSteps:=2000000) [hP,hN]<;>try refine Ya ?_)|refine X2 ?_ ?_|(refine Xd ?_ ?_<;>intro hcd<;>try exact Xx))
 all_goals (first|(simp_all[rO];done)|((try simp_all[rO])<;>(try omega)<;>grind))
theorem Ub(f:FuncId)(g:Int->Int->Int×Int)(u v:Int)(xs:List (Int))(ys:List (Int))(s:xs.length<=16777216)(x:xs.length=ys.length)(hf:∀a b,aW prog f [.pv (Z a),.pv (Z b),.pv (.rptr (Z u) 0),.pv (.rptr (Z v) 0)] [] [] (.pv (aJ (g a b)))):gu 162 (zs xs) (zs ys) (.fn (.func f) [] [.rptr (Z u) 0,.rptr (Z v) 0]) (iv (List.zipWith g xs ys)):=by
 refine Dp func162 λC hP hN=>?_;refine GT (be s (show(16:Int)*xs.length<=281474976710656 by omega) (show(xs.length:Int)<=9223372036854775807 by omega)) ?_
 refine WP.loopN [] xs.length (λi d=>d.t 0=.pv (zs xs)/\d.t 1=.pv (zs ys)/\d.t 2=.pv (.fn (.func f) [] [.rptr (Z u) 0,.rptr (Z v) 0])/\d.t 7=.arr 12 xs.length/\d.t 13=.pv (zs xs)/\d.t 14=.pv (Z xs.length)/\d.t 15=.pv (Z i)/\
  ∃L,d.h 12=some (.row 170 2 L 0)/\L.length=xs.length/\∀j,j<i->L[j]?=((List.zipWith g xs ys).map aJ)[j]?) (by simp) ?_
 rintro i d hi ⟨p,h1,q,h7,l,m,n,L,hL,k,hq⟩
 have r:L.length=((List.zipWith g xs ys).map aJ).length:=by simp[k,x]
 by_cases c:i<xs.length
 .have y:=ab c (sT s)
  have e:i<ys.length:=by omega
  have o:i<L.length:=by omega
  with_reducible repeat' (first|refine Sp.h ?_|((first|refine Ss.h ?_|refine Sc.h (hf _ _) ?_|(refine Sb.h ?_ ?_ ?_<;>(try intro hgd)<;>try exact Xy))<;>simp -implicitDefEqProofs (maxSteps:=2000000) [hP,hN,p,h1,q,h7,l,m,n,hL,k,c,e,o,y])|refine X2 ?_ ?_|(refine Xd ?_ ?_<;>intro hcd<;>try exact Xx))
  simpa using Le r hq (v:=aJ (g xs[i] ys[i])) (by simp[List.getElem?_zipWith,c,e])
 .skip
  refine GT (zAc p h1 q h7 l m n hL k c) ?_;simpa using Lf r hq (by simp;omega)
def qc(xs ys:List Int)(d i:Int):List (Int×Int)×Bool:=if iY xs ys d&&decide (0<=i)&&decide (i<2^d.toNat)then(List.zipWith (rO i d) xs ys,true)else([],false)
theorem Uc(xs ys:List Int)(d i:Int)(g:xs.length<=16777216)(j:ys.length<=16777216):lR 121 (zs xs) (zs ys) (Z d) (Z i) (.tup [iv (qc xs ys d i).1,B (qc xs ys d i).2]):=by
 refine Dp func121 λC hP hN=>?_
 cases c:iY xs ys d with
 |false=>
  with_reducible repeat' (first|refine Sp.h ?_|((first|refine Wd ?_|refine Ss.h ?_|refine Sc.h (P0 _ _ _ (sT g) (sT j)) ?_|(refine Sb.h ?_ ?_ ?_<;>(try intro hgd)<;>try exact Xy))<;>simp -implicitDefEqProofs (maxSteps:=2000000) [hP,hN,c]<;>try refine Ya ?_)|refine X2 ?_ ?_|(refine Xd ?_ ?_<;>intro hcd<;>try exact Xx))
  all_goals simp[qc,c]
 |true=>
  obtain⟨k,_,_,f,hd⟩:=rN c
  have e:d<64:=by omega
  with_reducible repeat' (first|refine Sp.h ?_|((first|refine Wd ?_|refine Ss.h ?_|refine Sc.h (P0 _ _ _ (sT g) (sT j)) ?_|refine Sc.h (Ub _ _ _ _ _ _ g k (λa b=>Ua a b _ _ f e)) ?_|(refine Sb.h ?_ ?_ ?_<;>(try intro hgd)<;>try exact Xy))<;>simp -implicitDefEqProofs (maxSteps:=2000000) [hP,hN,c,f,ub,yr e,AQ f hd]<;>try refine Ya ?_)|refine X2 ?_ ?_|(refine Xd ?_ ?_<;>intro hcd<;>try exact Xx))
  all_goals simp_all[qc]
  all_goals (try grind)
theorem wV(a:i<xs.length)(hp:p xs[i]=false):bF p xs=false:=by
 rw[bF,yAA];exact⟨xs[i],Zs a,by simp[hp]⟩
theorem zK(a:i<xs.length)(h:bF p (xs.take i)=true)(hp:p xs[i]=true):bF p (xs.take (i+1))=true:=by
 unfold bF at *;rw[ZR a,List.all_append,h];simp[hp]
theorem zL(a:¬i<xs.length)(h:bF p (xs.take i)=true):bF p xs=true:=by
 rwa [Zw (by omega)]at h
theorem DJ{γ:Type}{f:α->β->γ}(b:i<xs.length)(a:i<ys.length):(List.zipWith f xs ys).take i++[f xs[i] ys[i]]=(List.zipWith f xs ys).take (i+1):=by
 rw[ZR (by simp;omega)];simp
theorem JH(hn:xs.length=n)(hi:¬i<n):xs.take i=xs:=Zw (by omega)
def jI(f:α->β->Bool)(xs:List α)(ys:List β):Bool:=(List.zipWith f xs ys).all id
def qT(f:α->β->Bool)(xs:List α)(ys:List β)(i:Nat):Bool:=((List.zipWith f xs ys).take i).all id
theorem AR(b:i<xs.length)(a:i<ys.length)(hp:f xs[i] ys[i]=false):jI f xs ys=false:=
 wV (p:=id) (xs:=List.zipWith f xs ys) (i:=i) (by simp;omega) (by simpa using hp)
theorem C4(b:i<xs.length)(a:i<ys.length)(h:qT f xs ys i=true)(hp:f xs[i] ys[i]=true):qT f xs ys (i+1)=true:=
 zK (p:=id) (xs:=List.zipWith f xs ys) (i:=i) (by simp;omega) h (by simpa using hp)
theorem C5(a:¬i<xs.length)(h:qT f xs ys i=true):jI f xs ys=true:=
 zL (p:=id) (xs:=List.zipWith f xs ys) (i:=i) (by simp;omega) h
theorem Ud(xs:List (Int×Int))(d:xs.length<=9223372036854775807):aR 184 (iv xs) (B (bF vI xs)):=by
 refine Dp func184 λC hP hN=>?_;refine Gz ?_;refine WP.loopN [] xs.length (λi b=>b.t 0=.pv (iv xs)/\b.t 3=.pv (Z i)/\bF vI (xs.take i)=true) (by simp[bF]) ?_;rintro i b hi ⟨c,h1,hq⟩;by_cases a:i<xs.length
 .have e:=ab a d
  have hF:vI xs[i]=false->bF vI xs=false:=wV a;have hS:vI xs[i]=true->bF vI (xs.take (i+1))=true:=zK a hq
  with_reducible repeat' (first|refine Sp.h ?_|((first|refine Ss.h ?_|refine Sc.h (rL _ _) ?_|(refine Sb.h ?_ ?_ ?_<;>(try intro hgd)<;>try exact Xy))<;>simp -implicitDefEqProofs (maxSteps:=2000000) [hP,hN,c,h1,a,e])|refine X2 ?_ ?_|(refine Xd ?_ ?_<;>intro hcd<;>try exact Xx))
  all_goals first|(rw[hF];simp_all[cJ];try omega)|(rw[hS];simp_all[cJ];try omega)
 .skip
  refine Gz ?_;simp[zL a hq]
theorem nX(xs:List (Int))(d:xs.length<=9223372036854775807):aR 128 (zs xs) (B (bF cJ xs)):=by
 refine Dp func128 λC hP hN=>?_;refine Gz ?_;refine WP.loopN [] xs.length (λi b=>b.t 0=.pv (zs xs)/\b.t 3=.pv (Z i)/\bF cJ (xs.take i)=true) (by simp[bF]) ?_;rintro i b hi ⟨c,h1,hq⟩;by_cases a:i<xs.length
 .have e:=ab a d
  have hF:cJ xs[i]=false->bF cJ xs=false:=wV a;have hS:cJ xs[i]=true->bF cJ (xs.take (i+1))=true:=zK a hq
  with_reducible repeat' (first|refine Sp.h ?_|((first|refine Ss.h ?_|(refine Sb.h ?_ ?_ ?_<;>(try intro hgd)<;>try exact Xy))<;>simp -implicitDefEqProofs (maxSteps:=2000000) [hP,hN,c,h1,a,e])|refine X2 ?_ ?_|(refine Xd ?_ ?_<;>intro hcd<;>try exact Xx))
  all_goals first|(rw[hF];simp_all[cJ];try omega)|(rw[hS];simp_all[cJ];try omega)
 .skip
  refine Gz ?_;simp[zL a hq]
def Ue(x:Int×Int)(c:Int):Bool:=aS x.1 x.2&&decide (x.1<=c)&&decide (c<=x.2)
def AS(x:Int×Int):Int:=if aS x.1 x.2 then wr (x.2-x.1)else 0
def rP(x:Int×Int):Int:=if aS x.1 x.2 then(wr (x.1+x.2)).fdiv 2 else 0
def kp(xs:List (Int×Int))(j:Int):Bool:=decide (0<=j)&&bF vI xs&&(match xs[j.toNat]? with|some x=>decide (2<=AS x)|none=>false)
def rQ(xs:List (Int×Int))(j:Int):List (Int×Int):=if kp xs j then(match xs[j.toNat]? with|some x=>xs.set j.toNat (x.1,rP x)|none=>[])else[]
def rR(xs:List (Int×Int))(j:Int):List (Int×Int):=if kp xs j then(match xs[j.toNat]? with|some x=>xs.set j.toNat (rP x,x.2)|none=>[])else[]
def nx(l:List Int)(n:Nat)(k:Int):Int:=match l[n]? with
 |some x=>mh x k
 |none=>0
def nn(l:List Int)(n:Nat):Nat:=if n<l.length then n+1 else n
abbrev EN(l:List Int)(n:Nat):List PV:=[zs l,Z n]
theorem Xi(l:List Int):aW prog 22 [.pv (zs l)] [] [] (.box (EN l 0)):=by
 refine Dp func22 λC hP hN=>?_;exact Gy
 all_goals (first|(simp_all;done)|((try simp_all)<;>(try omega)<;>grind))
theorem sU(l:List Int)(n:Nat):nn l n<=n+1:=by unfold nn;split<;>omega
theorem JJ(l:List Int)(n:Nat)(k:Int)(c:k≠0)(hn:n<1000000):aW prog 23 [.bx 0,.pv (Z k)] [EN l n] [EN l (nn l n)] (.pv (Z (nx l n k))):=by
 have d:i64.wrap ((n:Int)+1)=(n:Int)+1:=by rw[IntKind.wrap_i64];omega
 have b:i64.wrap (n:Int)=n:=by rw[IntKind.wrap_i64];omega
 refine yk func23 rfl (by kernel_rfl) (by simp[f23]) rfl (by intro i j h;rcases i with _|_|_|i<;>simp_all) ?_;intro C hP hN;simp only[f23]at hN|-;by_cases a:n<l.length
 .skip
  with_reducible repeat' (first|refine Sp.h ?_|((first|refine Wd ?_|refine Ss.h ?_|refine Sc.h (d9 _ _ c) ?_|(refine Sb.h ?_ ?_ ?_<;>(try intro hgd)<;>try exact Xy))<;>simp -implicitDefEqProofs (maxSteps:=2000000) [hP,hN,EN,a,d,b,Nat.not_le.2 a]<;>try refine Ya ?_)|refine X2 ?_ ?_|(refine Xd ?_ ?_<;>intro hcd<;>try exact Xx))
  simp[nn,nx,a]
 .skip
  refine Gz ?_;simp[nn,nx,a]
theorem mV(l:List Int)(n:Nat)(a:0<k)(b:k<4611686018427387904):0<=nx l n k/\nx l n k<k:=by
 unfold nx;split
 .rename_i x _
  have h1:-k<x.tmod k:=by have:=yA0 x a;omega
  have c:x.tmod k<k:=yAI x a;unfold mh;split
  .rw[aa (by omega) (by omega)];omega
  .omega
 .omega
def bP(i:Nat):ByteArray:=⟨#[UInt8.ofNat (97+i)]⟩
abbrev AT:Value:=.string ⟨#[97,98,99,100,101,102,103,104,105,106]⟩
def AU(i:Nat):Operand->AV:=λx=>match x with
 |.tmp 3=>.pv (Z i)
 |.tmp 5=>.pv (Z ((i:Int)+1))
 |_=>.pv (.val AT)
section
variable {dst:Option Nat} {ty:TypeId} {pos:String} {aft:Array Edge} {g:Option (Nat×Bool)} {ρ:Operand->AV}
theorem Oc:aU prog ⟨dst,.slice 9 (.const AT) (some (.tmp 3)) (some (.tmp 5)) none,ty,pos,aft,g⟩ (AU 0)=some (.pv (.val (.string (bP 0))),[]):=by kernel_rfl
theorem Od:aU prog ⟨dst,.slice 9 (.const AT) (some (.tmp 3)) (some (.tmp 5)) none,ty,pos,aft,g⟩ (AU 1)=some (.pv (.val (.string (bP 1))),[]):=by kernel_rfl
theorem Oe:aU prog ⟨dst,.slice 9 (.const AT) (some (.tmp 3)) (some (.tmp 5)) none,ty,pos,aft,g⟩ (AU 2)=some (.pv (.val (.string (bP 2))),[]):=by kernel_rfl
theorem R7(i:Nat)(e:i<3)(b:ρ (.const AT)=.pv (.val AT))(c:ρ (.tmp 3)=.pv (Z i))(d:ρ (.tmp 5)=.pv (Z ((i:Int)+1))):
 aU prog ⟨dst,.slice 9 (.const AT) (some (.tmp 3)) (some (.tmp 5)) none,ty,pos,aft,g⟩ ρ=some (.pv (.val (.string (bP i))),[]):=by
 have h:aU prog ⟨dst,.slice 9 (.const AT) (some (.tmp 3)) (some (.tmp 5)) none,ty,pos,aft,g⟩ ρ=aU prog ⟨dst,.slice 9 (.const AT) (some (.tmp 3)) (some (.tmp 5)) none,ty,pos,aft,g⟩ (AU i):=by
  refine nQ (by intro _ _ h;cases h) ?_;intro x a;simp[Op.operands]at a;rcases a with rfl|rfl|rfl
  .exact b
  .exact c
  .exact d
 rw[h]
 have:i=0\/i=1\/i=2:=by omega
 rcases this with rfl|rfl|rfl
 .exact Oc
 .exact Od
 .exact Oe
end
theorem Tc(i:Nat)(a:i<3):aR 51 (Z i) (.val (.string (bP i))):=by
 have b:i64.wrap ((i:Int)+1)=(i:Int)+1:=by rw[IntKind.wrap_i64];omega
 refine Dp func51 λC hP hN=>?_;refine Gz ?_;rw[R7 i a rfl (by simp) (by simp)];simp[hP,hN];exact Gy
structure J where
 name:ByteArray
 kind:Int
 parent:Int
 ox:Int
 oy:Int
 oz:Int
 lo:Int
 hi:Int
 w:Int
 sp:Int
 ac:Int
 tq:Int
abbrev aO(j:J):PV:=.val (.agg #[.string j.name,.int .i64 j.kind,.int .i64 j.parent,.int .i64 j.ox,.int .i64 j.oy,.int .i64 j.oz,.int .i64 j.lo,.int .i64 j.hi,.int .i64 j.w,.int .i64 j.sp,.int .i64 j.ac,.int .i64 j.tq])
structure Ms where
 link:Int
 mass:Int
 px:Int
 py:Int
 pz:Int
abbrev aX(m:Ms):PV:=.val (.agg #[.int .i64 m.link,.int .i64 m.mass,.int .i64 m.px,.int .i64 m.py,.int .i64 m.pz])
abbrev fY:AV:=.pv (.val (.slice none 0 0))
abbrev eK(js:List J)(ms:List Ms):PV:=.agg [.sl (js.map aO),.sl (ms.map aX)]
theorem GD(x:Int)(b:0<k)(a:k<4611686018427387904):0<=mh x k/\mh x k<k:=by
 have:=mV [x] 0 b a;simpa[nx]using this
theorem Of{P:Program}(d:Nat)(t:TypeId)(a b:Bool)(h:P.underlying t=some .bool):ag P (Op.equalIn (d+1) t (.bool a) (.bool b))=some (a==b):=by
 simp only[Op.equalIn,af,i9 h,Zi];rfl
def Np(x y:AV):Option (Bool×Bool):=match x,y with
 |.pv (.val (.bool a)),.pv (.val (.bool b))=>some (a,b)
 |_,_=>none
def Lg(x y:AV)(fb:Option bG):Option bG:=match Np x y with
 |some (a,b)=>some (.pv (.val (.bool (a==b))),[])
 |none=>fb
@[simp] theorem Td(a b:Bool)(fb:Option bG):Lg (.pv (.val (.bool a))) (.pv (.val (.bool b))) fb=some (.pv (.val (.bool (a==b))),[]):=rfl
@[simp] theorem Xj{ty:TypeId}{pos:String}(x y:Operand):
 aU prog ⟨dst,.binOp .eql 4 x y 4,ty,pos,aft,g⟩ ρ=Lg (ρ x) (ρ y) (jH prog ⟨dst,.binOp .eql 4 x y 4,ty,pos,aft,g⟩ ρ):=by
 unfold Lg;split
 .rename_i a b h
  unfold Np at h;split at h
  .rename_i c d f i
   injection h with h;injection h with h1 e;subst h1;subst e;refine dF (by simp[Op.operands,f,i,er]) ?_;unfold execOp;simp only[(bt f).2,(bt i).2]
   have h1:ag prog (eqGuard .eql 4 x y (.bool c) (.bool d))=some ():=by kernel_rfl
   have e:ag prog (binOp .eql 4 (.bool c) (.bool d))=some (.bool (c==d)):=by
    simp only[binOp,af];rw[show ag prog (Op.equal 4 (.bool c) (.bool d))=some (c==d) from Of 9999 4 c d Tryz.underlying4];rfl
   simp only[af,h1,e,Zi];rfl
  .cases h
 .rfl
def P3(xs:List (Int×Int))(ys:List Int):Bool:=decide (xs.length=ys.length)&&jI Ue xs ys
def P4(x y:Int×Int):Bool:=aS x.1 x.2&&aS y.1 y.2&&decide (max x.1 y.1<=min x.2 y.2)
def EO(xs ys:List (Int×Int)):Bool:=decide (xs.length=ys.length)&&jI P4 xs ys
structure R8 where
 k1:Int
 k2:List PV
 k3:Int
 k4:Int
 k5:List PV
 k6:Int
 k7:List PV
 k8:List PV
abbrev aB:=Edg R8
variable {e:aB}{es:List aB}
abbrev eR:=Rmp R8 PV
abbrev fQ:=Tem R8 PV
abbrev iV(e:aB):PV:=.agg [Z e.u,Z e.v,Z e.c,Z e.s,Z e.rest.k1,.sl e.rest.k2,Z e.rest.k3,Z e.rest.k4,.sl e.rest.k5,Z e.rest.k6,.sl e.rest.k7,.sl e.rest.k8]
abbrev gp(es:List aB):PV:=.sl (es.map iV)
abbrev bf(m:eR):PV:=.agg [.sl m.np,gp m.es]
abbrev bQ(m:Mov):PV:=.val (.agg #[.int .i64 m.a,.int .i64 m.f,.int .i64 m.t])
abbrev bR(c:Mov×Mov):PV:=.val (.agg #[.int .i64 c.1.a,.int .i64 c.1.f,.int .i64 c.1.t,.int .i64 c.2.a,.int .i64 c.2.f,.int .i64 c.2.t])
abbrev kA(t:fQ):PV:=.agg [.sl (t.maps.map bf),.sl (t.conf.map bR)]
def uy(es:List aB):Prop:=∀e∈es,True
structure TmOk(t:fQ):Prop where
 rest:∀m∈t.maps,uy m.es
 nl:t.maps.length<=9223372036854775807
 cl:t.conf.length<=9223372036854775807
 pl:∀m∈t.maps,m.np.length<=9223372036854775807
 el:∀m∈t.maps,m.es.length<=9223372036854775807
section
variable {α:Type}
def oK(p:α->Bool)(xs:List α)(i:Nat):Prop:=(xs.take i).any p=false
def vJ(p:α->Bool)(xs:List α)(i:Nat):Prop:=(xs.take i).all p=true
theorem qm(p:α->Bool)(xs:List α):oK p xs 0:=by simp[oK]
theorem sE{p:α->Bool}{xs:List α}(a:i<xs.length)(hq:oK p xs i)(h:p xs[i]=false):oK p xs (i+1):=by
 unfold oK at *;rw[ZR a,List.any_append,hq];simp[h]
theorem Cv{p:α->Bool}{xs:List α}(a:i<xs.length)(h:p xs[i]=true):xs.any p=true:=yAT.2 ⟨_,Zs a,h⟩
theorem Cw{p:α->Bool}{xs:List α}(a:¬i<xs.length)(hq:oK p xs i):xs.any p=false:=by
 unfold oK at hq;rwa [Zw (by omega)]at hq
theorem Dt(p:α->Bool)(xs:List α):vJ p xs 0:=by simp[vJ]
theorem FR{p:α->Bool}{xs:List α}(a:i<xs.length)(hq:vJ p xs i)(h:p xs[i]=true):vJ p xs (i+1):=by
 unfold vJ at *;rw[ZR a,List.all_append,hq];simp[h]
theorem FS{p:α->Bool}{xs:List α}(a:i<xs.length)(h:p xs[i]=false):xs.all p=false:=yAA.2 ⟨_,Zs a,by simp[h]⟩
theorem HE{p:α->Bool}{xs:List α}(a:¬i<xs.length)(hq:vJ p xs i):xs.all p=true:=by
 unfold vJ at hq;rwa [Zw (by omega)]at hq
end
def pF(u v:Int)(e:aB):Bool:=e.u==u&&(e.v==v&&e.s==1)
theorem WD(es:List aB)(u v:Int)(k:uy es)(j:es.length<=9223372036854775807):gu 146 (gp es) (Z u) (Z v) (B (jP es u v)):=by
 refine Dp func146 λC hP hN=>?_;refine Gz ?_;refine WP.loopN [] es.length (λi b=>b.t 0=.pv (gp es)/\b.t 1=.pv (Z u)/\b.t 2=.pv (Z v)/\b.t 10=.pv (Z es.length)/\b.t 11=.pv (Z i)/\oK (pF u v) es i) (by simp[qm]) ?_;rintro i b hi ⟨g0,g1,g2,d,f,hq⟩;by_cases a:i<es.length
 .have o:=ab a j
  have hn:=sE a hq;have c:pF u v es[i]=true->jP es u v=true:=Cv a;have l:=k _ (Zs a);generalize m:es[i]=e at *
  have n:es[i]?=some e:=by rw[an a,m]
  have hp:pF u v e=(e.u==u&&(e.v==v&&e.s==1)):=rfl;rw[hp]at hn c;generalize jP es u v=r at *;exact Gy
  all_goals first|exact hn (by simp_all)|(rw[c (by simp_all)];done)
 .have g:jP es u v=false:=Cw a hq
  rw[g];exact Gy
def oN(u v:Int)(e:aB):Bool:=decide (u<e.u)||(e.u==u&&decide (v<=e.v))
abbrev RE(es:List aB)(u v:Int):List PV:=[.rptr (gp es) 0,.rptr (Z u) 0,.rptr (Z v) 0]
theorem X0(es:List aB)(u v:Int)(b:uy es)(i:Nat)(e:aB)(hi:es[i]?=some e):lR 93 (Z i) (.rptr (gp es) 0) (.rptr (Z u) 0) (.rptr (Z v) 0) (B (oN u v e)):=by
 have a:=(th.1 hi).1;have d:=(th.1 hi).2;have c:=b _ (An hi);have hp:oN u v e=(decide (u<e.u)||(e.u==u&&decide (v<=e.v))):=rfl;rw[hp];refine Dp func93 λC hP hN=>?_;exact Gy
 all_goals simp_all
theorem X1(es:List aB)(u v:Int)(k:Nat)(B:uy es)(hn:es.length<=4611686018427387904)(y:k<=es.length)(h1:∀q e,q<k->es[q]?=some e->oN u v e=false)(s:∀q e,k<=q->es[q]?=some e->oN u v e=true):aF 92 (Z es.length) (.fn (.func 93) [] (RE es u v)) (Z k):=by
 refine Dp func92 λC hP hN=>?_;refine Gz ?_;refine WP.loop [] (λg=>∃i j:Nat,i<=k/\k<=j/\j<=es.length/\g.t 1=.pv (.fn (.func 93) [] (RE es u v))/\g.t 5=.pv (Z i)/\g.t 6=.pv (Z j)) (λg=>match g.t 5,g.t 6 with|.pv (.val (.int _ a)),.pv (.val (.int _ b))=>(b-a).toNat|_,_=>0) (by exact⟨0,es.length,by simp[y]⟩) ?_;rintro g ⟨i,j,hi,x,l,g1,g5,D⟩;by_cases z:i<j
 .have w1:i64.wrap ((i:Int)+j)=(i:Int)+j:=aa
  have w2:IntKind.u64.wrap ((i:Int)+j)=(i:Int)+j:=by rw[IntKind.wrap_u64];omega
  have E:(((i:Int)+j).fdiv (2^min 1 IntKind.u64.bits))=(((i+j)/2:Nat):Int):=by rw[show min 1 IntKind.u64.bits=1 from rfl,Int.fdiv_eq_ediv_of_nonneg _ (by decide)];omega
  have F:i64.wrap ((((i+j)/2:Nat):Int))=(((i+j)/2:Nat):Int):=aa
  have G:i64.wrap ((((i+j)/2:Nat):Int)+1)=((((i+j)/2+1:Nat)):Int):=by rw[IntKind.wrap_i64];omega
  have A:i<=(i+j)/2/\(i+j)/2<j:=by omega
  generalize(i+j)/2=m at *;have f:es[m]?=some es[m]:=an (by omega);have p:=X0 es u v B m _ f
  have n:oN u v es[m]=true->k<=m:=by
   intro h;rcases Nat.lt_or_ge m k with d|d
   .rw[h1 m _ d f]at h;cases h
   .exact d
  have o:oN u v es[m]=false->m<k:=by
   intro h;rcases Nat.lt_or_ge m k with d|d
   .exact d
   .rw[s m _ d f]at h;cases h
  cases c:oN u v es[m]with
  |true=>
   rw[c]at p;have r:=n c;refine Gz ?_
   all_goals exact⟨⟨i,hi,m,r,by omega,rfl,rfl⟩,by omega⟩
  |false=>
   rw[c]at p;have r:=o c;refine Gz ?_
   all_goals exact⟨⟨m+1,by omega,j,x,l,by omega,rfl⟩,by omega⟩
 .have:i=k:=by omega
  subst this;exact Gy
theorem Mr{u v:Int}(f:eH n u0 v0 es=true){j:Nat}{b:aB}(hi:es[i]?=some e)(a:es[j]?=some b)(d:i<=j)(h:oN u v e=true):oN u v b=true:=by
 by_cases c:i=j
 .subst c;rw[hi]at a;injection a with a;subst a;exact h
 .have:=(ju f).2 i j e b hi a (by omega)
  simp only[oN,ZX,up,Is,ZW]at h|-;omega
theorem RF{u v:Int}(l:eH n u0 v0 es=true){k:Nat}(h1:∀q e,q<k->es[q]?=some e->oN u v e=false)(f:∀q e,k<=q->es[q]?=some e->oN u v e=true):
 (∀e,es[k]?=some e->jP es u v=pF u v e)/\(es[k]?=none->jP es u v=false):=by
 have d:∀e,pF u v e=true->oN u v e=true:=by
  intro e h;simp only[pF,up,ZW]at h;simp only[oN,h.1,h.2.1,beq_self_eq_true,Zu,ZX,Is]
  right;omega
 refine⟨λe a=>?_,λa=>?_⟩
 .rw[Bool.eq_iff_iff]
  constructor
  .intro h
   obtain⟨x,c,hp⟩:=yAT.1 (show es.any (pF u v)=true from h);obtain⟨q,hq⟩:=yAl.1 c;rcases yAK q k with b|b|b
   .have:=h1 q x b hq;rw[d x hp]at this;cases this
   .subst b;rw[a]at hq;injection hq with hq;subst hq;exact hp
   .have i:=f k e (Zf _) a
    have:=(ju l).2 k q e x a hq b;simp only[pF,up,ZW]at hp;simp only[oN,ZX,up,Is,ZW]at i;omega
  .intro h;exact yAT.2 ⟨e,An a,h⟩
 .cases g:jP es u v with
  |false=>rfl
  |true=>
   obtain⟨x,c,hp⟩:=yAT.1 (show es.any (pF u v)=true from g);obtain⟨q,hq⟩:=yAl.1 c;have j:=(th.1 hq).1;have:=List.getElem?_eq_none_iff.1 a;have:=h1 q x (by omega) hq;rw[d x hp]at this;cases this
theorem Ks(d:eH n u0 v0 es=true)(u v:Int):∃k,k<=es.length/\(∀q e,q<k->es[q]?=some e->oN u v e=false)/\∀q e,k<=q->es[q]?=some e->oN u v e=true:=by
 refine⟨es.findIdx (oN u v),List.findIdx_le_length,λq e hq a=>?_,λq e hq a=>?_⟩
 .have:=List.not_of_lt_findIdx hq
  have h:=(th.1 a).2;simpa[h]using this
 .have c:=(th.1 a).1
  have b:es.findIdx (oN u v)<es.length:=by omega
  exact Mr d (an b) a hq List.findIdx_getElem
theorem X3(es:List aB)(n:Nat)(u v:Int)(d:uy es)(o:es.length<=8192)(f:eH n (-1) (-1) es=true):gu 50 (gp es) (Z u) (Z v) (B (jP es u v)):=by
 obtain⟨k,g,h1,c⟩:=Ks f u v;have m:=X1 es u v k d (by omega) g h1 c;obtain⟨j,l⟩:=RF f h1 c;refine Dp func50 λC hP hN=>?_;by_cases a:k<es.length
 .have b:es[k]?=some es[k]:=an a
  have i:=d _ (Zs a);rw[j _ b];generalize p:es[k]=e at *;have hp:pF u v e=(e.u==u&&(e.v==v&&e.s==1)):=rfl;rw[hp];exact Gy
  all_goals simp_all
 .rw[l (Zh (by omega))]
  exact Gy
theorem xF{t:fQ}{k:Nat}{m:eR}(h:t.maps[k]?=some m):l7 t k=m.np.length/\MD t k=m.es:=by simp[l7,MD,h]
theorem CC{t:fQ}{x:eR}(g:0<=m.a)(b:t.maps[m.a.toNat]?=some x):jr t m=(eY x.np.length m.f&&(eY x.np.length m.t&&(m.f==m.t||jP x.es (min m.f m.t) (max m.f m.t)))):=by
 have e:=(th.1 b).1;obtain⟨c,d⟩:=xF b
 have:eY t.maps.length m.a=true:=by rw[dT];omega
 rw[jr,c,d,this,Zu]
theorem Ah{t:fQ}(h:¬(0<=m.a/\m.a<t.maps.length)):jr t m=false:=by
 have:eY t.maps.length m.a=false:=by
  cases b:eY t.maps.length m.a with
  |false=>rfl
  |true=>exact absurd (dT.1 b) h
 rw[jr,this,ZI]
theorem Yd(t:fQ)(m:Mov)(j:TmOk t)[Inhabited Nat]:gu 49 (kA t) (bQ m) (.val (.func (.func 146) #[] #[])) (B (jr t m)):=by
 by_cases k:0<=m.a/\m.a<t.maps.length
 .obtain⟨d,p⟩:=k
  have c:m.a.toNat<t.maps.length:=by omega
  have y:t.maps[m.a.toNat]?=some t.maps[m.a.toNat]:=an c;have b:=Zs c;have r:=j.pl _ b;have e:=j.el _ b;have i:=j.rest _ b;have o:=WD t.maps[m.a.toNat].es (min m.f m.t) (max m.f m.t) i e;rw[CC d y];generalize z:t.maps[m.a.toNat]=x at *
  have u:¬m.a<0:=by omega
  have v:¬(t.maps.length:Int)<=m.a:=by omega
  by_cases g:eY x.np.length m.f=true/\eY x.np.length m.t=true
  .obtain⟨l,n⟩:=g
   rw[l,n,Zu,Zu];rw[dT]at l n
   have D:¬m.f<0:=by omega
   have E:¬(x.np.length:Int)<=m.f:=by omega
   have F:¬m.t<0:=by omega
   have G:¬(x.np.length:Int)<=m.t:=by omega
   generalize jP x.es (min m.f m.t) (max m.f m.t)=q at *;refine Dp func49 λC hP hN=>?_;exact Gy
   all_goals simp_all
  .have hq:(eY x.np.length m.f&&(eY x.np.length m.t&&(m.f==m.t||jP x.es (min m.f m.t) (max m.f m.t))))=false:=by
    cases h1:eY x.np.length m.f<;>cases A:eY x.np.length m.t<;>simp_all
   rw[hq]
   have s:¬((0<=m.f/\m.f<x.np.length)/\(0<=m.t/\m.t<x.np.length)):=by rw[<-dT,<-dT];exact g
   clear o hq g;refine Dp func49 λC hP hN=>?_;exact Gy
   all_goals (exfalso;simp at *;omega)
 .rw[Ah k]
  refine Dp func49 λC hP hN=>?_;exact Gy
  all_goals (exfalso;simp at *;omega)
theorem NR(t:fQ)(m:Mov)(j:TmOk t)(y:∀m∈t.maps,dc m=true):gu 49 (kA t) (bQ m) (.val (.func (.func 50) #[] #[])) (B (jr t m)):=by
 by_cases l:0<=m.a/\m.a<t.maps.length
 .obtain⟨d,r⟩:=l
  have c:m.a.toNat<t.maps.length:=by omega
  have D:t.maps[m.a.toNat]?=some t.maps[m.a.toNat]:=an c;have b:=Zs c;have u:=j.pl _ b;have s:=j.el _ b;have i:=j.rest _ b;obtain⟨e,k⟩:t.maps[m.a.toNat].es.length<=8192/\eH t.maps[m.a.toNat].np.length (-1) (-1) t.maps[m.a.toNat].es=true:=(by have:=y _ b;simp only[dc,up,Is]at this;exact⟨this.2.1,this.2.2⟩);have p:=X3 t.maps[m.a.toNat].es _ (min m.f m.t) (max m.f m.t) i e k;rw[CC d D];generalize E:t.maps[m.a.toNat]=x at *
  have z:¬m.a<0:=by omega
  have A:¬(t.maps.length:Int)<=m.a:=by omega
  by_cases g:eY x.np.length m.f=true/\eY x.np.length m.t=true
  .obtain⟨n,o⟩:=g
   rw[n,o,Zu,Zu];rw[dT]at n o
   have G:¬m.f<0:=by omega
   have H:¬(x.np.length:Int)<=m.f:=by omega
   have I:¬m.t<0:=by omega
   have J:¬(x.np.length:Int)<=m.t:=by omega
   generalize jP x.es (min m.f m.t) (max m.f m.t)=q at *;refine Dp func49 λC hP hN=>?_;exact Gy
   all_goals simp_all
  .have hq:(eY x.np.length m.f&&(eY x.np.length m.t&&(m.f==m.t||jP x.es (min m.f m.t) (max m.f m.t))))=false:=by
    cases h1:eY x.np.length m.f<;>cases F:eY x.np.length m.t<;>simp_all
   rw[hq]
   have v:¬((0<=m.f/\m.f<x.np.length)/\(0<=m.t/\m.t<x.np.length)):=by rw[<-dT,<-dT];exact g
   clear p hq g;refine Dp func49 λC hP hN=>?_;exact Gy
   all_goals (exfalso;simp at *;omega)
 .rw[Ah l]
  refine Dp func49 λC hP hN=>?_;exact Gy
  all_goals (exfalso;simp at *;omega)
theorem Ye(t:fQ)(m:Mov)(a:TmOk t):aF 90 (kA t) (bQ m) (B (jr t m)):=by
 have cl:=Yd t m a;refine Dp func90 λC hP hN=>?_;exact Gy
theorem WH(t:fQ)(m:Mov)(o:TmOk t):aF 100 (kA t) (bQ m) (B (jr t m)):=by
 by_cases q:0<=m.a/\m.a<t.maps.length
 .obtain⟨j,E⟩:=q
  have g:m.a.toNat<t.maps.length:=by omega
  have K:t.maps[m.a.toNat]?=some t.maps[m.a.toNat]:=an g;have c:=Zs g;have G:=o.pl _ c;have k:=o.el _ c;have n:=o.rest _ c;rw[CC j K];generalize M:t.maps[m.a.toNat]=x at *
  have I:¬m.a<0:=by omega
  have J:¬(t.maps.length:Int)<=m.a:=by omega
  by_cases l:eY x.np.length m.f=true/\eY x.np.length m.t=true
  .obtain⟨A,D⟩:=l
   rw[A,D,Zu,Zu];rw[dT]at A D
   have S:¬m.f<0:=by omega
   have T:¬(x.np.length:Int)<=m.f:=by omega
   have U:¬m.t<0:=by omega
   have V:¬(x.np.length:Int)<=m.t:=by omega
   refine Dp func100 λC hP hN=>?_;refine Gz ?_;refine WP.loopN [] x.es.length (λi d=>d.t 3=.ptr 3 0/\d.h 3=some (.box [.pv (Z m.a),.pv (Z m.f),.pv (Z m.t)] true false)/\d.t 5=.ptr 5 0/\d.h 5=some (.box [.pv (.sl x.np),.pv (gp x.es)] true false)/\d.t 6=.pv (Z i)/\oK (pF (min m.f m.t) (max m.f m.t)) x.es i) (by simp[qm]) ?_;rintro i d hi ⟨g3,N,g5,O,P,hq⟩;by_cases b:i<x.es.length
   .have R:=ab b k
    have hn:=sE b hq;have y:pF (min m.f m.t) (max m.f m.t) x.es[i]=true->jP x.es (min m.f m.t) (max m.f m.t)=true:=Cv b;have z:=n _ (Zs b);generalize p:x.es[i]=e at *
    have L:x.es[i]?=some e:=by rw[an b,p]
    have hp:pF (min m.f m.t) (max m.f m.t) e=(e.u==min m.f m.t&&(e.v==max m.f m.t&&e.s==1)):=rfl;rw[hp]at hn y;generalize jP x.es (min m.f m.t) (max m.f m.t)=r at *;exact Gy
    all_goals first|exact hn (by simp_all)|(rw[y (by simp_all)];simp;done)|simp_all
   .have F:jP x.es (min m.f m.t) (max m.f m.t)=false:=Cw b hq
    rw[F];exact Gy
    all_goals simp_all
  .have hq:(eY x.np.length m.f&&(eY x.np.length m.t&&(m.f==m.t||jP x.es (min m.f m.t) (max m.f m.t))))=false:=by
    cases h1:eY x.np.length m.f<;>cases Q:eY x.np.length m.t<;>simp_all
   rw[hq]
   have H:¬((0<=m.f/\m.f<x.np.length)/\(0<=m.t/\m.t<x.np.length)):=by rw[<-dT,<-dT];exact l
   clear hq l;refine Dp func100 λC hP hN=>?_;exact Gy
   all_goals (exfalso;simp at *;omega)
 .rw[Ah q]
  refine Dp func100 λC hP hN=>?_;exact Gy
  all_goals (exfalso;simp at *;omega)
def wj(n:Nat)(a:Int×Int)(e:aB):Bool:=tS n e&& !(decide (e.u<a.1)||(e.u==a.1&&decide (e.v<=a.2)))
def gq(es:List aB)(i:Nat):Int×Int:=match i with
 |0=>(-1,-1)
 |i+1=>match es[i]? with
  |some e=>(e.u,e.v)
  |none=>(-1,-1)
theorem xH(n:Nat):∀(es:List aB)(p:Int×Int),eH n p.1 p.2 es=true↔∀i e,es[i]?=some e->wj n (match i with|0=>p|i+1=>gq es (i+1)) e=true
 |[],p=>by simp[eH]
 |a::r,p=>by
  have ih:=xH n r (a.u,a.v);simp only at ih;rw[eH,up,up,ih];constructor
  .rintro⟨h1,d,f⟩ i e b
   cases i with
   |zero=>
    simp only[yAj,Za]at b;subst b;simp only[wj,up];exact⟨h1,d⟩
   |succ i=>
    simp only[yA1]at b;have:=f i e b
    cases i with
    |zero=>simpa[gq]using this
    |succ i=>simpa[gq]using this
  .intro h
   have c:=h 0 a rfl;simp only[wj,up]at c;refine⟨c.1,c.2,λi e b=>?_⟩;have:=h (i+1) e (by simpa using b)
   cases i with
   |zero=>simpa[gq]using this
   |succ i=>simpa[gq]using this
def Bu(n:Nat)(es:List aB)(i:Nat):Prop:=∀j e,j<i->es[j]?=some e->wj n (gq es j) e=true
theorem I1(n:Nat)(es:List aB):Bu n es 0:=λj e h=>by omega
theorem I2(h:Bu n es i)(c:es[i]?=some e)(hp:wj n (gq es i) e=true):Bu n es (i+1):=by
 intro j x d a;by_cases b:j=i
 .subst b;rw[c]at a;injection a with a;subst a;exact hp
 .exact h j x (by omega) a
theorem Dy(h:Bu n es i)(hi:¬i<es.length):eH n (-1) (-1) es=true:=by
 rw[show eH n (-1) (-1) es=eH n ((-1,-1):Int×Int).1 ((-1,-1):Int×Int).2 es from rfl,xH];intro j e a;have b:=(th.1 a).1;have:=h j e (by omega) a;cases j<;>exact this
theorem Bv(c:es[i]?=some e)(hp:wj n (gq es i) e=false):eH n (-1) (-1) es=false:=by
 cases a:eH n (-1) (-1) es with
 |false=>rfl
 |true=>
  rw[show eH n (-1) (-1) es=eH n ((-1,-1):Int×Int).1 ((-1,-1):Int×Int).2 es from rfl,xH]at a;have:=a i e c
  have b:wj n (gq es i) e=true:=by cases i<;>exact this
  rw[b]at hp;cases hp
theorem Pg(n:Nat)(u v:Int)(e:aB):wj n (u,v) e=(decide (0<=e.u)&&(decide (e.u<e.v)&&(decide (e.v<n)&&(decide (0<=e.c)&&decide (e.c<=1099511627776))))&& !(decide (e.u<u)||(e.u==u&&decide (e.v<=v)))):=rfl
theorem xI(a:es[i]?=some e):gq es (i+1)=(e.u,e.v):=by simp[gq,a]
theorem Yf(m:eR)(y:uy m.es)(hn:m.np.length<=9223372036854775807)(u:m.es.length<=9223372036854775807):aR 48 (bf m) (B (dc m)):=by
 by_cases q:m.np.length<=1024/\m.es.length<=8192
 .have hd:dc m=eH m.np.length (-1) (-1) m.es:=by simp[dc,q]
  have w1:¬(1024:Int)<m.np.length:=by omega
  have w2:¬(8192:Int)<m.es.length:=by omega
  rw[hd];refine Dp func48 λC hP hN=>?_;refine Gz ?_;refine WP.loopN [6] m.es.length (λi c=>c.t 1=.ptr 1 0/\c.h 1=some (.box [.pv (.sl m.np),.pv (gp m.es)] true false)/\c.t 3=.pv (Z (gq m.es i).1)/\c.t 4=.pv (Z (gq m.es i).2)/\c.t 18=.pv (gp m.es)/\c.t 19=.pv (Z m.es.length)/\c.t 20=.pv (Z i)/\c.h 6=none/\Bu m.np.length m.es i) (by simp[gq,I1]) ?_;rintro i c hi ⟨g1,b1,g3,g4,g,j,k,b6,hq⟩;by_cases a:i<m.es.length
  .have v:=ab a u
   have b:m.es[i]?=some m.es[i]:=an a;generalize x:m.es[i]=e at *;have f:=I2 hq b;have d:=Bv (n:=m.np.length) b;have l:=xI b;obtain⟨⟨u0,v0⟩,o⟩:∃p,gq m.es i=p:=⟨_,rfl⟩;rw[o]at g3 g4 f d;rw[Pg]at f d;generalize eH m.np.length (-1) (-1) m.es=r at *
   with_reducible repeat' (first|refine Sp.h ?_|((first|refine Wd ?_|refine Ss.h ?_|(refine Sb.h ?_ ?_ ?_<;>(try intro hgd)<;>try exact Xy))<;>simp -implicitDefEqProofs [hP,hN,g1,b1,g3,g4,g,j,k,b6,a,v,x,b]<;>try refine Ya ?_)|refine X2 ?_ ?_|(refine Xd ?_ ?_<;>intro hcd<;>try exact Xx))
   all_goals first|(rw[d (by simp_all;try omega)];done)|(refine⟨by rw[l],by rw[l],f (by simp_all;try omega)⟩;done)|skip
  .have s:=Dy hq a
   rw[s]
   with_reducible repeat' (first|refine Sp.h ?_|((first|refine Ss.h ?_)<;>simp -implicitDefEqProofs [hP,hN,g1,b1,g3,g4,g,j,k,b6,a]))
 .have hd:dc m=false:=by
   cases h:dc m with
   |false=>rfl
   |true=>simp only[dc,up,Is]at h;exact absurd ⟨h.1,h.2.1⟩ q
  rw[hd];refine Dp func48 λC hP hN=>?_;exact Gy
  all_goals (exfalso;simp at *;omega)
section
variable {α:Type}
def oP(p:α->Bool)(xs:List α):Int:=if xs.any p=true then(xs.findIdx p:Int)else -1
theorem CD{p:α->Bool}{xs:List α}(a:i<xs.length)(hq:oK p xs i)(h:p xs[i]=true):oP p xs=i:=by
 unfold oP;rw[Zd (Cv a h)]
 have:xs.findIdx p=i:=(List.findIdx_eq a).2 ⟨h,λj c=>by
  have b:=yAL.1 hq xs[j] (by rw[List.mem_take_iff_getElem];exact⟨j,by omega,rfl⟩)
  simpa using b⟩
 rw[this]
theorem CE{p:α->Bool}{xs:List α}(a:¬i<xs.length)(hq:oK p xs i):oP p xs=-1:=by
 unfold oP;rw[Y6 (by rw[Cw a hq];decide)]
theorem CF(p:α->Bool)(xs:List α):decide (0<=oP p xs)=xs.any p:=by
 unfold oP;split
 .rename_i h;rw[h];simp
 .rename_i h;rw[Bool.not_eq_true]at h;rw[h];rfl
end
theorem WI(p:Mov×Mov->Bool)(xs:List (Mov×Mov))(g:FuncId)(x1 x2:PV)(j:xs.length<=9223372036854775807)(e:∀c∈xs,aW prog g [.pv (bR c),.pv (.rptr x1 0),.pv (.rptr x2 0)] [] [] (.pv (B (p c)))):aF 200 (.sl (xs.map bR)) (.fn (.func g) [] [.rptr x1 0,.rptr x2 0]) (Z (oP p xs)):=by
 refine Dp func200 λC hP hN=>?_;refine Gz ?_;refine WP.loopN [] xs.length (λi d=>d.t 0=.pv (.sl (xs.map bR))/\d.t 1=.pv (.fn (.func g) [] [.rptr x1 0,.rptr x2 0])/\d.t 7=.pv (Z xs.length)/\d.t 8=.pv (Z i)/\oK p xs i) (by simp[qm]) ?_;rintro i d hi ⟨g0,g1,m,n,hq⟩;by_cases a:i<xs.length
 .have o:=ab a j
  have hn:=sE a hq;have f:=CD a hq;have b:=e _ (Zs a);generalize k:xs[i]=c at *
  have l:xs[i]?=some c:=by rw[an a,k]
  generalize oP p xs=r at *
  cases hp:p c with
  |true=>
   rw[hp]at b;rw[f hp];exact Gy
  |false=>
   rw[hp]at b;exact Gy
   all_goals exact hn hp
 .rw[CE a hq]
  exact Gy
theorem WJ(p:Mov×Mov->Bool)(xs:List (Mov×Mov))(g:FuncId)(x1 x2:PV)(b:xs.length<=9223372036854775807)(a:∀c∈xs,aW prog g [.pv (bR c),.pv (.rptr x1 0),.pv (.rptr x2 0)] [] [] (.pv (B (p c)))):aF 147 (.sl (xs.map bR)) (.fn (.func g) [] [.rptr x1 0,.rptr x2 0]) (B (xs.any p)):=by
 have d:=WI p xs g x1 x2 b a;rw[<-CF];refine Dp func147 λC hP hN=>?_;exact Gy
theorem SP(a b c d e f:Int):ag prog (Op.equal 87 (.agg #[.int .i64 a,.int .i64 b,.int .i64 c]) (.agg #[.int .i64 d,.int .i64 e,.int .i64 f]))=some (a==d&&(b==e&&c==f)):=by
 have hf:(prog.fieldsOf 87).toList=[(prog.fieldsOf 87)[0]!,(prog.fieldsOf 87)[1]!,(prog.fieldsOf 87)[2]!]:=by kernel_rfl
 show ag prog (Op.equalIn (9999+1) 87 _ _)=_;rw[p9 9999 87 _ _ (by kernel_rfl) (by kernel_rfl),hf]
 have h:=iX (P:=prog) (d:=9999) (xs:=#[.int .i64 a,.int .i64 b,.int .i64 c]) (ys:=#[.int .i64 d,.int .i64 e,.int .i64 f]) (f:=(prog.fieldsOf 87)[0]!) (fs:=[(prog.fieldsOf 87)[1]!,(prog.fieldsOf 87)[2]!]) (a:=.int .i64 a) (b:=.int .i64 d) (by decide +kernel) (by kernel_rfl) (by kernel_rfl) (kQ 9998 _ .i64 .i64 a d (by kernel_rfl))
  (iX (by decide +kernel) (a:=.int .i64 b) (b:=.int .i64 e) (by kernel_rfl) (by kernel_rfl) (kQ 9998 _ .i64 .i64 b e (by kernel_rfl)) (iX (by decide +kernel) (a:=.int .i64 c) (b:=.int .i64 f) (by kernel_rfl) (by kernel_rfl) (kQ 9998 _ .i64 .i64 c f (by kernel_rfl)) wR))
 rw[h];simp
def I3(x:AV):Option Mov:=match x with
 |.pv (.val (.agg d))=>match d.toList with
  |[.int .i64 a,.int .i64 b,.int .i64 c]=>some ⟨a,b,c⟩
  |_=>none
 |_=>none
theorem Dz{x:AV}(h:I3 x=some m):x=.pv (bQ m):=by
 unfold I3 at h;split at h
 .split at h
  .rename_i b _ c d e a
   injection h with h;subst h;rw[<-Array.toArray_toList (xs:=b),a]
  .cases h
 .cases h
theorem Ph(a b:Mov):(a==b)=(a.a==b.a&&(a.f==b.f&&a.t==b.t)):=by
 obtain⟨a1,c,d⟩:=a;obtain⟨b1,e,g⟩:=b;rw[Bool.eq_iff_iff];simp
def My(x y:AV)(fb:Option bG):Option bG:=match I3 x,I3 y with
 |some a,some b=>some (.pv (.val (.bool (a==b))),[])
 |_,_=>fb
@[simp] theorem Tz(a b c d e f:Int)(fb:Option bG):My (.pv (.val (.agg #[.int .i64 a,.int .i64 b,.int .i64 c]))) (.pv (.val (.agg #[.int .i64 d,.int .i64 e,.int .i64 f]))) fb=some (.pv (.val (.bool ((⟨a,b,c⟩:Mov)==⟨d,e,f⟩))),[]):=rfl
@[simp] theorem Yg{ty:TypeId}{pos:String}(x y:Operand):
 aU prog ⟨dst,.binOp .eql 87 x y 87,ty,pos,aft,g⟩ ρ=My (ρ x) (ρ y) (jH prog ⟨dst,.binOp .eql 87 x y 87,ty,pos,aft,g⟩ ρ):=by
 unfold My;split
 .rename_i a b c d
  rw[Ph];exact uZ rfl (Dz c) (Dz d) (by kernel_rfl) (SP a.a a.f a.t b.a b.f b.t)
 .rfl
set_option maxRecDepth 20000 in
theorem WK(a b:Mov)(c:Mov×Mov):gu 148 (bR c) (.rptr (bQ a) 0) (.rptr (bQ b) 0) (B (KI a b c)):=by
 obtain⟨a1,d,e⟩:=a;obtain⟨b1,f,g⟩:=b;obtain⟨⟨c1,i,j⟩,⟨d1,d2,d3⟩⟩:=c;refine Dp func148 λC hP hN=>?_;unfold KI;generalize k:((⟨c1,i,j⟩:Mov)==⟨a1,d,e⟩)=o;generalize l:((⟨d1,d2,d3⟩:Mov)==⟨b1,f,g⟩)=p;generalize m:((⟨c1,i,j⟩:Mov)==⟨b1,f,g⟩)=q;generalize n:((⟨d1,d2,d3⟩:Mov)==⟨a1,d,e⟩)=r;cases o<;>cases p<;>cases q<;>cases r
 all_goals skip
 with_reducible repeat' (first|refine Sp.h ?_|((first|refine Ss.h ?_|(refine Sb.h ?_ ?_ ?_<;>(try intro hgd)<;>try exact Xy))<;>simp -implicitDefEqProofs (maxSteps:=2000000) [hP,hN,k,l,m,n])|refine X2 ?_ ?_|(refine Xd ?_ ?_<;>intro hcd<;>try exact Xx))
theorem Yh(t:fQ)(a b:Mov)(d:t.conf.length<=9223372036854775807):gu 91 (kA t) (bQ a) (bQ b) (B (Bz t a b)):=by
 have e:=WJ (KI a b) t.conf 148 (bQ a) (bQ b) d (λc _=>WK a b c);refine Dp func91 λC hP hN=>?_;refine Gz ?_
 all_goals rfl
theorem l6(h:i<l.length):l[i]?=some l[i]:=an h
def CG(l:List Int)(i:Nat):Prop:=i<l.length/\sI l i=lf l
theorem I4(h:0<l.length):CG l (l.length-1):=⟨by omega,rfl⟩
theorem Kw(h:CG l (i+1))(e:l[i]?=l[i+1]?):CG l i:=⟨by have:=h.1;omega,by rw[<-h.2,sI,Zd e]⟩
theorem Mz(h:CG l (i+1))(e:l[i]?≠l[i+1]?):lf l=i+1:=by rw[<-h.2,sI,Y6 e]
theorem Kx(h:CG l 0):lf l=0:=by rw[<-h.2];rfl
theorem Yi(l:List Int)(z:l.length<=9223372036854775807):aR 38 (zs l) (Z (lf l)):=by
 by_cases g:0<l.length
 .have v:i64.wrap ((l.length:Int)-1)=((l.length-1:Nat):Int):=by rw[IntKind.wrap_i64];omega
  have o:(if(0:Int)>((l.length-1:Nat):Int)then(0:Int)else((l.length-1:Nat):Int))=((l.length-1:Nat):Int):=by split<;>omega
  have p:¬((l.length-1:Nat):Int)<0:=by omega
  have q:max ((l.length-1:Nat):Int) 0=((l.length-1:Nat):Int):=by omega
  have s:max 0 ((l.length-1:Nat):Int)=((l.length-1:Nat):Int):=by omega
  have u:=I4 g;generalize l.length-1=n at *;refine Dp func38 λC hP hN=>?_;refine Gz ?_;refine WP.loop [] (λb=>∃i:Nat,b.t 0=.pv (zs l)/\b.t 3=.pv (Z i)/\CG l i) (λb=>match b.t 3 with|.pv (.val (.int _ a))=>a.toNat|_=>0) (by exact⟨n,by simp[u]⟩) ?_;rintro b ⟨i,g0,g3,hq⟩;have hi:=hq.1
  cases i with
  |zero=>
   rw[Kx hq];exact Gy
  |succ i=>
   have h1:i<l.length:=by omega
   have a1:=l6 h1;have e:=l6 hi;have hn:=Kw hq;have f:=Mz hq;obtain⟨j,m⟩:∃j,i+1=j:=⟨_,rfl⟩;simp only[m]at *
   have w1:i64.wrap ((j:Int)-1)=(i:Int):=by rw[IntKind.wrap_i64];omega
   have w2:¬(j:Int)<0:=by omega
   have x:0<(j:Int):=by omega
   have y:0<j:=by omega
   generalize c:l[i]=A at *;generalize d:l[j]=B at *;rw[a1,e]at hn f;generalize lf l=r at *
   with_reducible repeat' (first|refine Sp.h ?_|((first|refine Wd ?_|refine Ss.h ?_|(refine Sb.h ?_ ?_ ?_<;>(try intro hgd)<;>try exact Xy))<;>simp -implicitDefEqProofs [hP,hN,g0,g3,a1,e,w1,w2,x,y,h1,hi,c,d]<;>try refine Ya ?_)|refine X2 ?_ ?_|(refine Xd ?_ ?_<;>intro hcd<;>try exact Xx))
   all_goals first|exact⟨⟨i,rfl,hn (by simp_all)⟩,by omega⟩|(rw[f (by simp_all)];done)
 .have k:l=[]:=ZC (by omega)
  subst k;refine Dp func38 λC hP hN=>?_
  with_reducible repeat' (first|refine Sp.h ?_|((first|refine Wd ?_|refine Ss.h ?_|(refine Sb.h ?_ ?_ ?_<;>(try intro hgd)<;>try exact Xy))<;>simp -implicitDefEqProofs [hP,hN,show i64.wrap (0-1)=-1 by decide,show i64.wrap (-1)=-1 by decide,show max (-1:Int) 0=0 by decide]<;>try refine Ya ?_)|refine X2 ?_ ?_|(refine Xd ?_ ?_<;>intro hcd<;>try exact Xx))
  refine WP.loop [] (λb=>b.t 0=.pv (zs [])/\b.t 3=.pv (Z (0))) (λ_=>0) (by simp) ?_;rintro b ⟨g0,g3⟩;refine GT (gA g0 g3) ?_
  all_goals rfl
def yT(e:aB):Bool:=decide (0<=e.c)&&decide (e.c<=1099511627776)
def xJ(n:Nat)(a:Int×Int)(e:aB):Bool:=decide (0<=e.u)&&(decide (e.u<e.v)&&(decide (e.v<n)&& !(decide (e.u<a.1)||(e.u==a.1&&decide (e.v<=a.2)))))
theorem I5(n:Nat)(a:Int×Int)(e:aB):wj n a e=(yT e&&xJ n a e):=by
 unfold wj yT xJ tS;cases decide (0<=e.u)<;>cases decide (e.u<e.v)<;>cases decide (e.v<n)<;>cases decide (0<=e.c)<;>cases decide (e.c<=1099511627776)<;>simp
def CI(n:Nat)(es:List aB)(i:Nat):Prop:=∀j e,j<i->es[j]?=some e->xJ n (gq es j) e=true
theorem Ky(n:Nat)(es:List aB):CI n es 0:=λj e h=>by omega
theorem Kz(h:CI n es i)(c:es[i]?=some e)(hp:xJ n (gq es i) e=true):CI n es (i+1):=by
 intro j x d a;by_cases b:j=i
 .subst b;rw[c]at a;injection a with a;subst a;exact hp
 .exact h j x (by omega) a
def jq(n:Nat)(es:List aB):Bool:=(List.range es.length).all λi=>match es[i]? with
 |some e=>xJ n (gq es i) e
 |none=>true
theorem pH:jq n es=true↔CI n es es.length:=by
 simp only[jq,L4,ZL];constructor
 .intro h j e b a
  have:=h j b;rw[a]at this;exact this
 .intro h i hi
  rw[an hi];exact h i _ hi (an hi)
theorem KA(a:es[i]?=some e)(hp:xJ n (gq es i) e=false):jq n es=false:=by
 cases h:jq n es with
 |false=>rfl
 |true=>
  have:=pH.1 h i e (th.1 a).1 a;rw[this]at hp;cases hp
theorem MA(n:Nat)(es:List aB):eH n (-1) (-1) es=(es.all yT&&jq n es):=by
 rw[Bool.eq_iff_iff,up,L4,pH];constructor
 .intro h
  have h1:∀i e,es[i]?=some e->wj n (gq es i) e=true:=by
   intro i e a
   cases c:wj n (gq es i) e with
   |true=>rfl
   |false=>have:=Bv a c;rw[h]at this;cases this
  refine⟨λe a=>?_,λj e _ a=>?_⟩
  .obtain⟨i,hi⟩:=yAl.1 a
   have:=h1 i e hi;rw[I5,up]at this;exact this.1
  .have:=h1 j e a
   rw[I5,up]at this;exact this.2
 .rintro⟨h1,b⟩
  refine Dy (i:=es.length) (λj e d a=>?_) (by omega);rw[I5,up];exact⟨h1 e (An a),b j e d a⟩
def sH(m:eR):Bool:=jq m.np.length m.es&&(decide (m.np.length<=1024)&&decide (m.es.length<=8192))
theorem KB(m:eR):dc m=(m.es.all yT&&sH m):=by
 unfold dc sH;rw[MA];cases decide (m.np.length<=1024)<;>cases decide (m.es.length<=8192)<;>cases m.es.all yT<;>cases jq m.np.length m.es<;>rfl
theorem Yj(m:eR)(hn:m.np.length<=9223372036854775807)(S:m.es.length<=9223372036854775807):aR 97 (bf m) (B (sH m)):=by
 refine Dp func97 λC hP hN=>?_;refine Gz ?_;refine WP.loopN [4] m.es.length (λi x=>x.t 1=.ptr 1 0/\x.h 1=some (.box [.pv (.sl m.np),.pv (gp m.es)] true false)/\x.t 3=.pv (Z i)/\x.h 4=none/\CI m.np.length m.es i) (by simp[Ky]) ?_;rintro i x hi ⟨g1,b1,g3,J,hq⟩;by_cases p:i<m.es.length
 .have K:=ab p S
  have q:m.es[i]?=some m.es[i]:=an p;have s:∀y,xJ m.np.length y m.es[i]=(decide (0<=m.es[i].u)&&(decide (m.es[i].u<m.es[i].v)&&(decide (m.es[i].v<m.np.length)&& !(decide (m.es[i].u<y.1)||(m.es[i].u==y.1&&decide (m.es[i].v<=y.2)))))):=λy=>rfl;generalize L:m.es[i]=e at *;have b:=Kz hq q;have a:=KA (n:=m.np.length) q
  have j:∀u v,gq m.es i=(u,v)->0<=e.u->e.u<e.v->e.v<m.np.length->¬(e.u<u\/(e.u=u/\e.v<=v))->CI m.np.length m.es (i+1):=by
   intro u v o h1 N O P;refine b ?_
   have h5:(decide (e.u<u)||(e.u==u&&decide (e.v<=v)))=false:=by
    rw[<-Bool.not_eq_true];intro l;simp only[ZX,up,Is,ZW]at l;exact P l
   rw[o,s,ZH h1,ZH N,ZH O];show(true&&(true&&(true&& !(decide (e.u<u)||(e.u==u&&decide (e.v<=v))))))=true;rw[h5];rfl
  have d:∀u v,gq m.es i=(u,v)->¬(0<=e.u/\e.u<e.v/\e.v<m.np.length/\¬(e.u<u\/(e.u=u/\e.v<=v)))->jq m.np.length m.es=false:=by
   intro u v o h1;refine a ?_;rw[o,s,<-Bool.not_eq_true];intro l;refine h1 ?_;simp only[up,Is,ZK,yAk,Zj,Bool.and_eq_false_iff,yAb,ne_eq]at l;obtain⟨l,h10,h11,z,A⟩:=l;refine⟨l,h10,h11,?_⟩;rintro(h|⟨h,M⟩)
   .exact z h
   .exact A.elim (λg=>g h) (λg=>g M)
  clear b a s
  have D:(i=0/\gq m.es i=(-1,-1))\/∃k f,i=k+1/\m.es[k]?=some f/\gq m.es i=(f.u,f.v):=by
   cases i with
   |zero=>exact .inl ⟨rfl,rfl⟩
   |succ k=>
    have F:m.es[k]?=some (m.es[k]'(by omega)):=an (by omega);exact .inr ⟨k,_,rfl,F,xI F⟩
  have c:sH m=(jq m.np.length m.es&&(decide (m.np.length<=1024)&&decide (m.es.length<=8192))):=rfl;generalize jq m.np.length m.es=r at *;rcases D with⟨T,o⟩|⟨k,f,F,hf,o⟩
  .have b:=j _ _ o
   have a:=d _ _ o;clear j d
   have R:(i:Int)=0:=by omega
   have I:¬(0:Int)<(i:Int):=by omega
   with_reducible repeat' (first|refine Sp.h ?_|((first|refine Wd ?_|refine Ss.h ?_|(refine Sb.h ?_ ?_ ?_<;>(try intro hgd)<;>try exact Xy))<;>simp -implicitDefEqProofs [hP,hN,g1,b1,g3,J,p,K,L,q,I]<;>try refine Ya ?_)|refine X2 ?_ ?_|(refine Xd ?_ ?_<;>intro hcd<;>try exact Xx))
   all_goals first|(have l:=a (by clear hP hN c b a;simp at *;omega);simp[c,l];done)|(exact b (by clear hP hN c b a;simp at *;omega) (by clear hP hN c b a;simp at *;omega) (by clear hP hN c b a;simp at *;omega) (by clear hP hN c b a;simp at *;omega))|skip
   all_goals trace_state
  .have b:=j _ _ o
   have a:=d _ _ o;clear j d
   have I:(0:Int)<(i:Int):=by omega
   have G:k<m.es.length:=by omega
   have E:m.es[k]=f:=(th.1 hf).2
   have H:i64.wrap ((i:Int)-1)=(k:Int):=by rw[IntKind.wrap_i64];omega
   with_reducible repeat' (first|refine Sp.h ?_|((first|refine Wd ?_|refine Ss.h ?_|(refine Sb.h ?_ ?_ ?_<;>(try intro hgd)<;>try exact Xy))<;>simp -implicitDefEqProofs [hP,hN,g1,b1,g3,J,p,K,L,q,I,H,G,hf,E]<;>try refine Ya ?_)|refine X2 ?_ ?_|(refine Xd ?_ ?_<;>intro hcd<;>try exact Xx))
   all_goals first|(have l:=a (by clear hP hN c b a;simp at *;omega);simp[c,l];done)|(exact b (by clear hP hN c b a;simp at *;omega) (by clear hP hN c b a;simp at *;omega) (by clear hP hN c b a;simp at *;omega) (by clear hP hN c b a;simp at *;omega))|skip
   all_goals trace_state
 .have Q:jq m.np.length m.es=true:=pH.2 (by have:i=m.es.length:=by omega
                                            rw[<-this];exact hq)
  have c:sH m=(decide ((m.np.length:Int)<=1024)&&decide ((m.es.length:Int)<=8192)):=by
   unfold sH;rw[Q,Zu]
   congr 1<;>(rw[decide_eq_decide];omega)
  rw[c];exact Gy
  all_goals (simp at hgd;omega)
end Go.Ab
