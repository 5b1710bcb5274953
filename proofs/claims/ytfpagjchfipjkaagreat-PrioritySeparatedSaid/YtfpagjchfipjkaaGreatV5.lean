/- The contracts and facts that the laws of this seat need, in one text (Ty, CfA, M1, M2, M3, M4, M5, M6, M7). -/
import Derived.Test.YtfpagjchfipjkaaGreatV4
import Derived.Test.YtfpagjchfipjkaaGreatProg
set_option linter.all false
set_option maxRecDepth 10000
namespace Go.Ab
open IntKind (i64)
open Go.Proofs.Tryz
open Go.Proofs
variable {i n:Nat}{k u0 v0:Int}{l:List Int}{m:Mov}{α β:Type}{f:α->β->Bool}{p:α->Bool}{xs:List α}{ys:List β}
abbrev BO(f:FuncId)(r:PV):Prop:=aS prog f [] [] [] (.pv r)
abbrev aT(f:FuncId)(a r:PV):Prop:=aS prog f [.pv a] [] [] (.pv r)
abbrev aH(f:FuncId)(a b r:PV):Prop:=aS prog f [.pv a,.pv b] [] [] (.pv r)
abbrev gz(f:FuncId)(a b c r:PV):Prop:=aS prog f [.pv a,.pv b,.pv c] [] [] (.pv r)
abbrev mD(f:FuncId)(a b c d r:PV):Prop:=aS prog f [.pv a,.pv b,.pv c,.pv d] [] [] (.pv r)
abbrev xW(f:FuncId)(a b c d e r:PV):Prop:=aS prog f [.pv a,.pv b,.pv c,.pv d,.pv e] [] [] (.pv r)
abbrev NV(f:FuncId)(a b c d e g r:PV):Prop:=aS prog f [.pv a,.pv b,.pv c,.pv d,.pv e,.pv g] [] [] (.pv r)
abbrev Yl(f:FuncId)(a b c d e g h r:PV):Prop:=aS prog f [.pv a,.pv b,.pv c,.pv d,.pv e,.pv g,.pv h] [] [] (.pv r)
@[simp] theorem ti2:az prog 2=some ⟨1,(some (.int .i64 0)),.one⟩/\gH prog 2=some .i64/\az prog 3=some ⟨1,(some (.int .i64 0)),.one⟩/\gH prog 3=some .i64/\az prog 4=some ⟨1,(some (.bool false)),.one⟩/\az prog 5=some ⟨1,(some (.int .u8 0)),.one⟩/\gH prog 5=some .u8/\az prog 9=some ⟨1,(some (.string ByteArray.empty)),.one⟩/\qd prog 9=some none/\gH prog 21=some .i32/\az prog 22=some ⟨1,(some (.slice none 0 0)),.slice 35 4 96 (some (.agg #[.slice none 0 0,.slice none 0 0,.slice none 0 0,.slice none 0 0]))⟩/\az prog 23=some ⟨1,(some (.slice none 0 0)),.slice 60 3 24 (some (.agg #[.int .i64 0,.int .i64 0,.int .i64 0]))⟩/\az prog 24=some ⟨1,(some (.slice none 0 0)),.slice 40 2 48 (some (.agg #[.slice none 0 0,.slice none 0 0]))⟩/\az prog 25=some ⟨1,(some (.slice none 0 0)),.slice 3 1 8 (some (.int .i64 0))⟩/\az prog 28=some ⟨1,(some (.slice none 0 0)),.slice 108 12 104 (some (.agg #[.string ByteArray.empty,.int .i64 0,.int .i64 0,.int .i64 0,.int .i64 0,.int .i64 0,.int .i64 0,.int .i64 0,.int .i64 0,.int .i64 0,.int .i64 0,.int .i64 0]))⟩/\az prog 29=some ⟨1,(some (.slice none 0 0)),.slice 110 5 40 (some (.agg #[.int .i64 0,.int .i64 0,.int .i64 0,.int .i64 0,.int .i64 0]))⟩/\az prog 31=some ⟨2,(some (.agg #[.slice none 0 0,.slice none 0 0])),.struct [(0,1),(1,1)]⟩/\az prog 32=some ⟨1,(some (.slice none 0 0)),.slice 81 3 40 (some (.agg #[.int .i64 0,.int .i64 0,.slice none 0 0]))⟩/\az prog 33=some ⟨1,(some (.slice none 0 0)),.slice 113 2 16 (some (.agg #[.int .i64 0,.int .i64 0]))⟩/\az prog 35=some ⟨4,(some (.agg #[.slice none 0 0,.slice none 0 0,.slice none 0 0,.slice none 0 0])),.struct [(0,2),(2,1),(3,1)]⟩/\az prog 37=some ⟨1,(some (.slice none 0 0)),.slice 61 1 24 (some (.slice none 0 0))⟩/\az prog 38=some ⟨1,(some (.slice none 0 0)),.slice 126 12 160 (some (.agg #[.int .i64 0,.int .i64 0,.int .i64 0,.int .i64 0,.int .i64 0,.slice none 0 0,.int .i64 0,.int .i64 0,.slice none 0 0,.int .i64 0,.slice none 0 0,.slice none 0 0]))⟩/\az prog 40=some ⟨2,(some (.agg #[.slice none 0 0,.slice none 0 0])),.struct [(0,1),(1,1)]⟩/\az prog 46=some ⟨1,(some (.slice none 0 0)),.slice 89 6 48 (some (.agg #[.int .i64 0,.int .i64 0,.int .i64 0,.int .i64 0,.int .i64 0,.int .i64 0]))⟩/\az prog 50=some ⟨2,(some (.agg #[.slice none 0 0,.slice none 0 0])),.struct [(0,1),(1,1)]⟩/\az prog 51=some ⟨1,(some (.slice none 0 0)),.slice 25 1 24 (some (.slice none 0 0))⟩/\az prog 56=some ⟨1,(some (.int .i64 0)),.one⟩/\az prog 60=some ⟨3,(some (.agg #[.int .i64 0,.int .i64 0,.int .i64 0])),.array 3 1⟩/\qd prog 60=some (some 3)/\az prog 61=some ⟨1,(some (.slice none 0 0)),.slice 2 1 8 (some (.int .i64 0))⟩/\az prog 63=some ⟨1,(some (.slice none 0 0)),.slice 65 3 40 (some (.agg #[.int .i64 0,.int .i64 0,.slice none 0 0]))⟩/\az prog 65=some ⟨3,(some (.agg #[.int .i64 0,.int .i64 0,.slice none 0 0])),.struct [(0,1),(1,1),(2,1)]⟩/\az prog 67=some ⟨3,(some (.agg #[.int .i64 0,.slice none 0 0,.slice none 0 0])),.struct [(0,1),(1,1),(2,1)]⟩/\az prog 69=some ⟨8,(some (.agg #[.int .i64 0,.slice none 0 0,.int .i64 0,.int .i64 0,.slice none 0 0,.int .i64 0,.slice none 0 0,.slice none 0 0])),.struct [(0,1),(1,1),(2,3),(5,3)]⟩/\az prog 81=some ⟨3,(some (.agg #[.int .i64 0,.int .i64 0,.slice none 0 0])),.struct [(0,1),(1,1),(2,1)]⟩/\az prog 87=some ⟨3,(some (.agg #[.int .i64 0,.int .i64 0,.int .i64 0])),.struct [(0,1),(1,1),(2,1)]⟩/\az prog 89=some ⟨6,(some (.agg #[.int .i64 0,.int .i64 0,.int .i64 0,.int .i64 0,.int .i64 0,.int .i64 0])),.struct [(0,3),(3,3)]⟩/\az prog 92=some ⟨7,(some (.agg #[.slice none 0 0,.slice none 0 0,.slice none 0 0,.slice none 0 0,.int .i64 0,.slice none 0 0,.slice none 0 0])),.struct [(0,4),(4,1),(5,1),(6,1)]⟩/\az prog 94=some ⟨1,(some (.slice none 0 0)),.slice 87 3 24 (some (.agg #[.int .i64 0,.int .i64 0,.int .i64 0]))⟩/\az prog 99=some ⟨1,(some (.nilFunc)),.one⟩/\az prog 102=some ⟨5,(some (.agg #[.slice none 0 0,.int .i64 0,.int .i64 0,.int .i64 0,.nilFunc])),.struct [(0,1),(1,1),(2,1),(3,1),(4,1)]⟩/\az prog 108=some ⟨12,(some (.agg #[.string ByteArray.empty,.int .i64 0,.int .i64 0,.int .i64 0,.int .i64 0,.int .i64 0,.int .i64 0,.int .i64 0,.int .i64 0,.int .i64 0,.int .i64 0,.int .i64 0])),.struct [(0,1),(1,1),(2,1),(3,3),(6,1),(7,1),(8,1),(9,1),(10,1),(11,1)]⟩/\az prog 110=some ⟨5,(some (.agg #[.int .i64 0,.int .i64 0,.int .i64 0,.int .i64 0,.int .i64 0])),.struct [(0,1),(1,1),(2,3)]⟩/\az prog 113=some ⟨2,(some (.agg #[.int .i64 0,.int .i64 0])),.struct [(0,1),(1,1)]⟩/\az prog 116=some ⟨3,(some (.agg #[.int .i64 0,.int .i64 0,.slice none 0 0])),.struct [(0,1),(1,1),(2,1)]⟩:=by repeat' (first|kernel_rfl|refine ⟨by kernel_rfl,?_⟩)
@[simp] theorem SI:az prog 117=some ⟨1,(some (.slice none 0 0)),.slice 116 3 40 (some (.agg #[.int .i64 0,.int .i64 0,.slice none 0 0]))⟩:=by kernel_rfl
@[simp] theorem YW:az prog 118=some ⟨1,(some (.slice none 0 0)),.slice 170 2 16 (some (.agg #[.int .i64 0,.int .i64 0]))⟩/\az prog 122=some ⟨5,(some (.agg #[.int .i64 0,.slice none 0 0,.int .i64 0,.slice none 0 0,.slice none 0 0])),.struct [(0,1),(1,1),(2,3)]⟩/\az prog 126=some ⟨12,(some (.agg #[.int .i64 0,.int .i64 0,.int .i64 0,.int .i64 0,.int .i64 0,.slice none 0 0,.int .i64 0,.int .i64 0,.slice none 0 0,.int .i64 0,.slice none 0 0,.slice none 0 0])),.struct [(0,1),(1,1),(2,1),(3,1),(4,8)]⟩/\az prog 132=some ⟨2,(some (.agg #[.slice none 0 0,.int .i64 0])),.struct [(0,1),(1,1)]⟩/\az prog 143=some ⟨5,(some (.agg #[.string ByteArray.empty,.int .i64 0,.int .i64 0,.int .i64 0,.int .i64 0])),.struct [(0,1),(1,1),(2,3)]⟩/\az prog 153=some ⟨1,(some (.slice none 0 0)),.slice 155 1 8 (some (.map none))⟩/\az prog 155=some ⟨1,(some (.map none)),.one⟩/\zL prog 155=some (.i64,2,4)/\Id prog 4=some (.bool false)/\az prog 156=some ⟨2,(some (.agg #[.int .i64 0,.int .i64 0])),.array 2 1⟩/\az prog 157=some ⟨1,(some (.slice none 0 0)),.slice 159 1 24 (some (.slice none 0 0))⟩/\az prog 159=some ⟨1,(some (.slice none 0 0)),.slice 4 1 1 (some (.bool false))⟩/\az prog 167=some ⟨1,(some (.int .u64 0)),.one⟩/\gH prog 167=some .u64/\az prog 170=some ⟨2,(some (.agg #[.int .i64 0,.int .i64 0])),.struct [(0,1),(1,1)]⟩/\az prog 171=some ⟨1,(some (.slice none 0 0)),.slice 178 2 32 (some (.agg #[.slice none 0 0,.int .i64 0]))⟩/\az prog 176=some ⟨1,(some (.slice none 0 0)),.slice 230 6 48 (some (.agg #[.int .i64 0,.int .i64 0,.int .i64 0,.int .i64 0,.int .i64 0,.int .i64 0]))⟩/\az prog 178=some ⟨2,(some (.agg #[.slice none 0 0,.int .i64 0])),.struct [(0,1),(1,1)]⟩/\az prog 180=some ⟨7,(some (.agg #[.int .i64 0,.int .i64 0,.int .i64 0,.int .i64 0,.slice none 0 0,.slice none 0 0,.int .i64 0])),.struct [(0,1),(1,3),(4,1),(5,1),(6,1)]⟩/\zL prog 199=some (.i64,10,4)/\az prog 200=some ⟨10,(some (.agg #[.int .i64 0,.int .i64 0,.int .i64 0,.int .i64 0,.int .i64 0,.int .i64 0,.int .i64 0,.int .i64 0,.int .i64 0,.int .i64 0])),.array 10 1⟩/\az prog 211=some ⟨1,(some (.slice none 0 0)),.slice 176 1 24 (some (.slice none 0 0))⟩/\az prog 213=some ⟨1,(some (.slice none 0 0)),.slice 215 2 16 (some (.agg #[.int .i64 0,.int .i64 0]))⟩/\az prog 215=some ⟨2,(some (.agg #[.int .i64 0,.int .i64 0])),.struct [(0,1),(1,1)]⟩/\az prog 229=some ⟨6,(some (.agg #[.int .i64 0,.int .i64 0,.int .i64 0,.int .i64 0,.int .i64 0,.int .i64 0])),.array 3 2⟩/\az prog 230=some ⟨6,(some (.agg #[.int .i64 0,.int .i64 0,.int .i64 0,.int .i64 0,.int .i64 0,.int .i64 0])),.array 3 2⟩/\qd prog 230=none/\DZ prog 230=some (3,2)/\az prog 239=some ⟨1,(some (.nilFunc)),.one⟩/\az prog 247=some ⟨3,(some (.agg #[.slice none 0 0,.slice none 0 0,.slice none 0 0])),.struct [(0,1),(1,1),(2,1)]⟩/\az prog 251=some ⟨4,(some (.agg #[.slice none 0 0,.slice none 0 0,.int .i64 0,.int .i64 0])),.struct [(0,1),(1,1),(2,1),(3,1)]⟩/\az prog 256=some ⟨3,(some (.agg #[.int .i64 0,.slice none 0 0,.slice none 0 0])),.struct [(0,3)]⟩/\az prog 258=some ⟨1,(some (.agg #[.slice none 0 0])),.struct [(0,1)]⟩/\az prog 270=some ⟨1,(some (.int .u64 0)),.one⟩/\gH prog 270=some .u64/\az prog 272=some ⟨1,(some (.slice none 0 0)),.slice 277 24 192 (some (.agg #[.int .i64 0,.int .i64 0,.int .i64 0,.int .i64 0,.int .i64 0,.int .i64 0,.int .i64 0,.int .i64 0,.int .i64 0,.int .i64 0,.int .i64 0,.int .i64 0,.int .i64 0,.int .i64 0,.int .i64 0,.int .i64 0,.int .i64 0,.int .i64 0,.int .i64 0,.int .i64 0,.int .i64 0,.int .i64 0,.int .i64 0,.int .i64 0]))⟩/\az prog 275=some ⟨18,(some (.agg #[.int .i64 0,.int .i64 0,.int .i64 0,.int .i64 0,.int .i64 0,.int .i64 0,.int .i64 0,.int .i64 0,.int .i64 0,.int .i64 0,.int .i64 0,.int .i64 0,.int .i64 0,.int .i64 0,.int .i64 0,.int .i64 0,.int .i64 0,.int .i64 0])),.array 3 6⟩/\az prog 277=some ⟨24,(some (.agg #[.int .i64 0,.int .i64 0,.int .i64 0,.int .i64 0,.int .i64 0,.int .i64 0,.int .i64 0,.int .i64 0,.int .i64 0,.int .i64 0,.int .i64 0,.int .i64 0,.int .i64 0,.int .i64 0,.int .i64 0,.int .i64 0,.int .i64 0,.int .i64 0,.int .i64 0,.int .i64 0,.int .i64 0,.int .i64 0,.int .i64 0,.int .i64 0])),.struct [(0,18),(18,6)]⟩/\az prog 298=some ⟨2,(some (.agg #[.slice none 0 0,.slice none 0 0])),.struct [(0,1),(1,1)]⟩/\az prog 301=some ⟨2,(some (.agg #[.slice none 0 0,.slice none 0 0])),.struct [(0,2)]⟩/\az prog 302=some ⟨2,(some (.agg #[.slice none 0 0,.slice none 0 0])),.struct [(0,2)]⟩/\az prog 304=some ⟨8,(some (.agg #[.slice none 0 0,.slice none 0 0,.slice none 0 0,.slice none 0 0,.int .i64 0,.int .i64 0,.int .i64 0,.int .i64 0])),.struct [(0,2),(2,2),(4,3),(7,1)]⟩/\az prog 326=some ⟨2,(some (.agg #[.slice none 0 0,.int .i64 0])),.struct [(0,1),(1,1)]⟩/\az prog 328=some ⟨4,(some (.agg #[.slice none 0 0,.int .i64 0,.slice none 0 0,.int .i64 0])),.struct [(0,2),(2,2)]⟩/\az prog 359=some ⟨1,(some (.agg #[.nilFunc])),.struct [(0,1)]⟩/\az prog 365=some ⟨1,(some (.nilFunc)),.one⟩/\az prog 367=some ⟨2,(some (.agg #[.nilFunc,.nilFunc])),.struct [(0,1),(1,1)]⟩/\az prog 372=some ⟨4,(some (.agg #[.int .i64 0,.int .i64 0,.int .i64 0,.int .i64 0])),.array 4 1⟩/\qd prog 372=some (some 4)/\az prog 374=some ⟨11,(some (.agg #[.int .i64 0,.int .i64 0,.int .i64 0,.int .i64 0,.int .i64 0,.int .i64 0,.int .i64 0,.int .i64 0,.int .i64 0,.int .i64 0,.int .i64 0])),.array 11 1⟩/\az prog 378=some ⟨11,(some (.agg #[.int .i64 0,.int .i64 0,.int .i64 0,.int .i64 0,.int .i64 0,.int .i64 0,.int .i64 0,.int .i64 0,.int .i64 0,.int .i64 0,.int .i64 0])),.array 11 1⟩:=by repeat' (first|kernel_rfl|refine ⟨by kernel_rfl,?_⟩)
abbrev I(lo hi:Int):PV:=.val (.agg #[.int .i64 lo,.int .i64 hi])
abbrev aK(x:Int×Int):PV:=I x.1 x.2
abbrev B(b:Bool):PV:=.val (.bool b)
abbrev Z(n:Int):PV:=.val (.int .i64 n)
abbrev wr(n:Int):Int:=i64.wrap n
def aO(lo hi:Int):Bool:=decide (-2147483648<=lo)&&decide (lo<=hi)&&decide (hi<=2147483648)
theorem eqI(a b c d:Int):al prog (Op.equal 170 (.agg #[.int .i64 a,.int .i64 b]) (.agg #[.int .i64 c,.int .i64 d]))=some (a==c&&b==d):=by
 have hf:(prog.fieldsOf 170).toList=[(prog.fieldsOf 170)[0]!,(prog.fieldsOf 170)[1]!]:=by kernel_rfl
 show al prog (Op.equalIn (9999+1) 170 _ _)=_;rw[wW 9999 170 _ _ (by kernel_rfl) (by kernel_rfl),hf]
 have h:=pd (P:=prog) (d:=9999) (xs:=#[.int .i64 a,.int .i64 b]) (ys:=#[.int .i64 c,.int .i64 d]) (f:=(prog.fieldsOf 170)[0]!) (fs:=[(prog.fieldsOf 170)[1]!]) (a:=.int .i64 a) (b:=.int .i64 c) (by decide +kernel) (by kernel_rfl) (by kernel_rfl) (qh 9998 _ .i64 .i64 a c (by kernel_rfl))
  (pd (by decide +kernel) (a:=.int .i64 b) (b:=.int .i64 d) (by kernel_rfl) (by kernel_rfl) (qh 9998 _ .i64 .i64 b d (by kernel_rfl)) EO)
 rw[h];simp
def lD(P:Program)(o:Oper)(ρ:Operand->AV):Option bP:=aV P o ρ
def yr(x:AV):Option (Int×Int):=match x with
 |.pv (.val (.agg c))=>match c.toList with
  |[.int .i64 a,.int .i64 b]=>some (a,b)
  |_=>none
 |_=>none
theorem A2{x:AV}{a b:Int}(h:yr x=some (a,b)):x=.pv (I a b):=by
 unfold yr at h;split at h
 .split at h
  .rename_i d _ e f c
   injection h with h;injection h with h1 h2;subst h1;subst h2;rw[<-Array.toArray_toList (xs:=d),c]
  .cases h
 .cases h
def TJ(x y:AV)(fb:Option bP):Option bP:=match yr x,yr y with
 |some (a,b),some (c,d)=>some (.pv (.val (.bool !(a==c&&b==d))),[])
 |_,_=>fb
@[simp] theorem SU(a b c d:Int)(fb:Option bP):TJ (.pv (.val (.agg #[.int .i64 a,.int .i64 b]))) (.pv (.val (.agg #[.int .i64 c,.int .i64 d]))) fb=some (.pv (.val (.bool !(a==c&&b==d))),[]):=rfl
theorem j9(lo hi:Int):aT 205 (I lo hi) (B (aO lo hi)):=by
 refine Dp func205 λC hP hN=>?_
 with_reducible repeat' (first|refine Sp.h ?_|((first|refine Ss.h ?_|(refine Sb.h ?_ ?_ ?_<;>(try intro hgd)<;>try exact Xy))<;>simp -implicitDefEqProofs (maxSteps:=2000000) [hP,hN])|refine X2 ?_ ?_|(refine Xd ?_ ?_<;>intro hcd<;>try exact Xx))
 all_goals (first|(simp_all[aO];done)|((try simp_all[aO])<;>(try omega)<;>grind))
theorem rS(lo hi:Int):aT 197 (I lo hi) (B (aO lo hi)):=by
 refine Dp func197 λC hP hN=>?_
 with_reducible repeat' (first|refine Sp.h ?_|((first|refine Ss.h ?_|(refine Sb.h ?_ ?_ ?_<;>(try intro hgd)<;>try exact Xy))<;>simp -implicitDefEqProofs (maxSteps:=2000000) [hP,hN])|refine X2 ?_ ?_|(refine Xd ?_ ?_<;>intro hcd<;>try exact Xx))
 all_goals (first|(simp_all[aO];done)|((try simp_all[aO])<;>(try omega)<;>grind))
theorem ET(a b c d:Int):aH 323 (I a b) (I c d) (B (aO a b&&aO c d)):=by
 refine Dp func323 λC hP hN=>?_
 with_reducible repeat' (first|refine Sp.h ?_|((first|refine Ss.h ?_|refine Sc.h (j9 _ _) ?_|(refine Sb.h ?_ ?_ ?_<;>(try intro hgd)<;>try exact Xy))<;>simp -implicitDefEqProofs (maxSteps:=2000000) [hP,hN])|refine X2 ?_ ?_|(refine Xd ?_ ?_<;>intro hcd<;>try exact Xx))
 all_goals (first|(simp_all;done)|((try simp_all)<;>(try omega)<;>grind))
def kW(n k:Int):Int:=if n.tmod k<0 then wr (n.tmod k+k)else n.tmod k
theorem d9(n k:Int)(a:k≠0):aH 9 (Z n) (Z k) (Z (kW n k)):=by
 refine Dp func9 λC hP hN=>?_
 with_reducible repeat' (first|refine Sp.h ?_|((first|refine Ss.h ?_|(refine Sb.h ?_ ?_ ?_<;>(try intro hgd)<;>try exact Xy))<;>simp -implicitDefEqProofs (maxSteps:=2000000) [hP,hN,a])|refine X2 ?_ ?_|(refine Xd ?_ ?_<;>intro hcd<;>try exact Xx))
 all_goals (first|(simp_all[kW];done)|((try simp_all[kW])<;>(try omega)<;>grind))
@[simp] theorem WT(a b:Int):(if b<a then b else a)=min a b:=by split<;>omega
@[simp] theorem WU(a b:Int):(if a<b then b else a)=max a b:=by split<;>omega
theorem aa{n:Int}(h1:-9223372036854775808<=n:=by omega)(h2:n<9223372036854775808:=by omega):wr n=n:=by
 rw[wr,IntKind.wrap_i64];omega
theorem yu(a:k<64):min k.toNat 64=k.toNat:=by omega
theorem uo:i64.bits=64:=rfl
theorem TL(a:Int):aT 325 (Z a) (Z (min (max a (-2147483648)) 2147483648)):=by
 refine Dp func325 λC hP hN=>?_;exact Gy
 all_goals (first|(simp_all;done)|((try simp_all)<;>(try omega)<;>grind))
theorem PL(a b:Int):aH 315 (Z a) (Z b) (I (min (max a (-2147483648)) 2147483648) (min (max b (-2147483648)) 2147483648)):=by
 refine Dp func315 λC hP hN=>?_;have c:=@TL;exact GS trivial
 all_goals (first|(simp_all;done)|((try simp_all)<;>(try omega)<;>grind))
theorem tN(a:Int):aT 297 (Z a) (I (min (max a (-2147483648)) 2147483648) (min (max a (-2147483648)) 2147483648)):=by
 refine Dp func297 λC hP hN=>?_;have b:=@PL;exact GS trivial
 all_goals (first|(simp_all;done)|((try simp_all)<;>(try omega)<;>grind))
theorem TM(a k:Int)(h:0<=k)(b:k<64):aH 255 (Z a) (Z k) (Z (a.fdiv (2^k.toNat))):=by
 refine Dp func255 λC hP hN=>?_;exact GS (be h @uo (yu b))
 all_goals (first|(simp_all;done)|((try simp_all)<;>(try omega)<;>grind))
theorem TN(a k:Int)(h:0<=k)(b:k<64):aH 164 (Z a) (Z k) (Z (a.fdiv (2^k.toNat))):=by
 refine Dp func164 λC hP hN=>?_
 with_reducible repeat' (first|refine Sp.h ?_|((first|refine Ss.h ?_|(refine Sb.h ?_ ?_ ?_<;>(try intro hgd)<;>try exact Xy))<;>simp -implicitDefEqProofs (maxSteps:=2000000) [hP,hN,h,uo,yu b])|refine X2 ?_ ?_|(refine Xd ?_ ?_<;>intro hcd<;>try exact Xx))
 all_goals (first|(simp_all;done)|((try simp_all)<;>(try omega)<;>grind))
def gj(x y:Int×Int):Int×Int:=if aO x.1 x.2&&aO y.1 y.2 then(min x.1 y.1,max x.2 y.2)else(0,0)
theorem IA(a b c d:Int):aH 347 (I a b) (I c d) (aK (gj (a,b) (c,d))):=by
 refine Dp func347 λC hP hN=>?_
 with_reducible repeat' (first|refine Sp.h ?_|((first|refine Ss.h ?_|refine Sc.h (ET _ _ _ _) ?_|(refine Sb.h ?_ ?_ ?_<;>(try intro hgd)<;>try exact Xy))<;>simp -implicitDefEqProofs (maxSteps:=2000000) [hP,hN])|refine X2 ?_ ?_|(refine Xd ?_ ?_<;>intro hcd<;>try exact Xx))
 all_goals (first|(simp_all[gj];done)|((try simp_all[gj])<;>(try omega)<;>grind))
theorem IB(a b c d:Int):aH 331 (I a b) (I c d) (aK (gj (a,b) (c,d))):=by
 refine Dp func331 λC hP hN=>?_
 with_reducible repeat' (first|refine Sp.h ?_|((first|refine Ss.h ?_|refine Sc.h (rS _ _) ?_|(refine Sb.h ?_ ?_ ?_<;>(try intro hgd)<;>try exact Xy))<;>simp -implicitDefEqProofs (maxSteps:=2000000) [hP,hN])|refine X2 ?_ ?_|(refine Xd ?_ ?_<;>intro hcd<;>try exact Xx))
 all_goals (first|(simp_all[gj];done)|((try simp_all[gj])<;>(try omega)<;>grind))
theorem EU(a b:Int):aT 346 (I a b) (Z (if aO a b then wr (b-a)else 0)):=by
 refine Dp func346 λC hP hN=>?_
 with_reducible repeat' (first|refine Sp.h ?_|((first|refine Ss.h ?_|refine Sc.h (j9 _ _) ?_|(refine Sb.h ?_ ?_ ?_<;>(try intro hgd)<;>try exact Xy))<;>simp -implicitDefEqProofs (maxSteps:=2000000) [hP,hN])|refine X2 ?_ ?_|(refine Xd ?_ ?_<;>intro hcd<;>try exact Xx))
 all_goals (first|(simp_all;done)|((try simp_all)<;>(try omega)<;>grind))
theorem TO(a b:Int):aT 215 (I a b) (Z (if aO a b then(wr (a+b)).fdiv 2 else 0)):=by
 refine Dp func215 λC hP hN=>?_
 with_reducible repeat' (first|refine Sp.h ?_|((first|refine Ss.h ?_|refine Sc.h (j9 _ _) ?_|refine Sc.h (TM _ _ (by decide) (by decide)) ?_|(refine Sb.h ?_ ?_ ?_<;>(try intro hgd)<;>try exact Xy))<;>simp -implicitDefEqProofs (maxSteps:=2000000) [hP,hN])|refine X2 ?_ ?_|(refine Xd ?_ ?_<;>intro hcd<;>try exact Xx))
 all_goals (first|(simp_all;done)|((try simp_all)<;>(try omega)<;>grind))
theorem TP(a b x:Int):aH 351 (I a b) (Z x) (B (aO a b&&decide (a<=x)&&decide (x<=b))):=by
 refine Dp func351 λC hP hN=>?_
 with_reducible repeat' (first|refine Sp.h ?_|((first|refine Ss.h ?_|refine Sc.h (j9 _ _) ?_|(refine Sb.h ?_ ?_ ?_<;>(try intro hgd)<;>try exact Xy))<;>simp -implicitDefEqProofs (maxSteps:=2000000) [hP,hN])|refine X2 ?_ ?_|(refine Xd ?_ ?_<;>intro hcd<;>try exact Xx))
 all_goals (first|(simp_all;done)|((try simp_all)<;>(try omega)<;>grind))
abbrev zs(xs:List Int):PV:=.sl (xs.map Z)
abbrev iv(xs:List (Int×Int)):PV:=.sl (xs.map aK)
abbrev Fv(f:FuncId):PV:=.val (.func (.func f) #[] #[])
theorem s8(h:n<=16777216):n<=9223372036854775807:=by omega
theorem ae(h:i<n)(hn:n<=9223372036854775807):i64.wrap ((i:Int)+1)=(i:Int)+1:=by rw[IntKind.wrap_i64];omega
def mW(p:α->Bool)(xs:List α):Int:=match xs.findIdx? p with
 |some i=>i
 |none=>-1
theorem lE(b:i<xs.length)(hq:∀j x,j<i->xs[j]?=some x->p x=false)(hp:p xs[i]=true):mW p xs=i:=by
 have:xs.findIdx? p=some i:=by
  rw[yAO];refine⟨b,hp,λj c=>?_⟩
  have a:j<xs.length:=by omega
  rw[hq j xs[j] c (an a)];simp
 simp[mW,this]
theorem qi(hq:∀(j:Nat) x,xs[j]?=some x->p x=false):mW p xs=-1:=by
 have:xs.findIdx? p=none:=by
  rw[List.findIdx?_eq_none_iff];intro x b;obtain⟨j,a,rfl⟩:=yAb.1 b;exact hq j _ (an a)
 simp[mW,this]
theorem ph(p:α->Bool)(xs:List α):decide (0<=mW p xs)=xs.any p:=by
 unfold mW
 cases h:xs.findIdx? p with
 |none=>
  rw[List.findIdx?_eq_none_iff]at h
  have:xs.any p=false:=by
   rw[yAx];intro x b;rw[h x b];simp
  simp[this]
 |some i=>
  rw[yAO]at h;obtain⟨a,hp,_⟩:=h;have:xs.any p=true:=yAF.2 ⟨xs[i],Zd a,hp⟩;simp[this]
theorem kX(b:i<xs.length)(hq:∀j x,j<i->xs[j]?=some x->p x=false)(hp:p xs[i]=false):∀j x,j<i+1->xs[j]?=some x->p x=false:=by
 intro j x c a;by_cases e:j=i
 .subst e;rw[an b]at a;injection a with a;subst a;exact hp
 .exact hq j x (by omega) a
theorem rT(b:¬i<xs.length)(hq:∀j x,j<i->xs[j]?=some x->p x=false):∀(j:Nat) x,xs[j]?=some x->p x=false:=by
 intro j x a;have:=(th.1 a).1;exact hq j x (by omega) a
theorem TQ(f:FuncId)(p:Int×Int->Bool)(xs:List (Int×Int))(c:xs.length<=9223372036854775807)(hf:∀x,aS prog f [.pv (aK x)] [] [] (.pv (B (p x)))):aH 292 (iv xs) (Fv f) (Z (mW p xs)):=by
 refine Dp func292 λC hP hN=>?_;refine Gz ?_;refine WP.loopN [] xs.length (λi st=>st.t 0=.pv (iv xs)/\st.t 1=.pv (Fv f)/\st.t 7=.pv (Z xs.length)/\st.t 8=.pv (Z i)/\∀j x,j<i->xs[j]?=some x->p x=false) (by simp) ?_;rintro i st hi ⟨b,h1,h7,h8,hq⟩;by_cases a:i<xs.length
 .have d:=ae a c
  with_reducible repeat' (first|refine Sp.h ?_|((first|refine Ss.h ?_|refine Sc.h (hf _) ?_|(refine Sb.h ?_ ?_ ?_<;>(try intro hgd)<;>try exact Xy))<;>simp -implicitDefEqProofs (maxSteps:=2000000) [hP,hN,b,h1,h7,h8,a,d])|refine X2 ?_ ?_|(refine Xd ?_ ?_<;>intro hcd<;>try exact Xx))
  .exact(lE a hq hcd).symm
  .simpa using kX a hq hcd
 .skip
  refine Gz ?_;exact(qi (rT a hq)).symm
theorem TR(f:FuncId)(p:Int->Bool)(xs:List (Int))(c:xs.length<=9223372036854775807)(hf:∀x,aS prog f [.pv (Z x)] [] [] (.pv (B (p x)))):aH 232 (zs xs) (Fv f) (Z (mW p xs)):=by
 refine Dp func232 λC hP hN=>?_
 with_reducible repeat' (first|refine Sp.h ?_|((first|refine Ss.h ?_|(refine Sb.h ?_ ?_ ?_<;>(try intro hgd)<;>try exact Xy))<;>simp -implicitDefEqProofs (maxSteps:=2000000) [hP,hN])|refine X2 ?_ ?_|(refine Xd ?_ ?_<;>intro hcd<;>try exact Xx))
 refine WP.loopN [] xs.length (λi st=>st.t 0=.pv (zs xs)/\st.t 1=.pv (Fv f)/\st.t 7=.pv (Z xs.length)/\st.t 8=.pv (Z i)/\∀j x,j<i->xs[j]?=some x->p x=false) (by simp) ?_;rintro i st hi ⟨b,h1,h7,h8,hq⟩;by_cases a:i<xs.length
 .have d:=ae a c
  with_reducible repeat' (first|refine Sp.h ?_|((first|refine Ss.h ?_|refine Sc.h (hf _) ?_|(refine Sb.h ?_ ?_ ?_<;>(try intro hgd)<;>try exact Xy))<;>simp -implicitDefEqProofs (maxSteps:=2000000) [hP,hN,b,h1,h7,h8,a,d])|refine X2 ?_ ?_|(refine Xd ?_ ?_<;>intro hcd<;>try exact Xx))
  .exact(lE a hq hcd).symm
  .simpa using kX a hq hcd
 .skip
  with_reducible repeat' (first|refine Sp.h ?_|((first|refine Ss.h ?_|(refine Sb.h ?_ ?_ ?_<;>(try intro hgd)<;>try exact Xy))<;>simp -implicitDefEqProofs (maxSteps:=2000000) [hP,hN,b,h1,h7,h8,a])|refine X2 ?_ ?_|(refine Xd ?_ ?_<;>intro hcd<;>try exact Xx))
  exact(qi (rT a hq)).symm
theorem TS(f:FuncId)(p:Int×Int->Bool)(xs:List (Int×Int))(a:xs.length<=9223372036854775807)(hf:∀x,aS prog f [.pv (aK x)] [] [] (.pv (B (p x)))):aH 271 (iv xs) (Fv f) (B (xs.any p)):=by
 refine Dp func271 λC hP hN=>?_;have b:=TQ _ _ _ a hf;refine GT trivial ?_
 all_goals (first|(simp_all[ph];done)|((try simp_all[ph])<;>(try omega)<;>grind))
theorem TT(f:FuncId)(p:Int->Bool)(xs:List (Int))(a:xs.length<=9223372036854775807)(hf:∀x,aS prog f [.pv (Z x)] [] [] (.pv (B (p x)))):aH 203 (zs xs) (Fv f) (B (xs.any p)):=by
 refine Dp func203 λC hP hN=>?_
 with_reducible repeat' (first|refine Sp.h ?_|((first|refine Ss.h ?_|refine Sc.h (TR _ _ _ a hf) ?_|(refine Sb.h ?_ ?_ ?_<;>(try intro hgd)<;>try exact Xy))<;>simp -implicitDefEqProofs (maxSteps:=2000000) [hP,hN])|refine X2 ?_ ?_|(refine Xd ?_ ?_<;>intro hcd<;>try exact Xx))
 all_goals (first|(simp_all[ph];done)|((try simp_all[ph])<;>(try omega)<;>grind))
def bE(p:α->Bool)(xs:List α):Bool:=xs.all p
theorem Ha(p:α->Bool)(xs:List α):(xs.any λx=>!p x)=!bE p xs:=by simp[bE,List.any_eq_not_all_not]
abbrev vI(x:Int×Int):Bool:=aO x.1 x.2
def cL(x:Int):Bool:=decide (-2147483648<=x)&&decide (x<=2147483648)
theorem TU(x:Int):aT 204 (Z x) (B (!cL x)):=by
 refine Dp func204 λC hP hN=>?_
 with_reducible repeat' (first|refine Sp.h ?_|((first|refine Ss.h ?_|(refine Sb.h ?_ ?_ ?_<;>(try intro hgd)<;>try exact Xy))<;>simp -implicitDefEqProofs (maxSteps:=2000000) [hP,hN])|refine X2 ?_ ?_|(refine Xd ?_ ?_<;>intro hcd<;>try exact Xx))
 all_goals (first|(simp_all[cL];done)|((try simp_all[cL])<;>(try omega)<;>grind))
theorem tO(xs:List Int)(a:xs.length<=9223372036854775807):aT 159 (zs xs) (B (bE cL xs)):=by
 refine Dp func159 λC hP hN=>?_
 with_reducible repeat' (first|refine Sp.h ?_|((first|refine Ss.h ?_|refine Sc.h (TT _ _ _ a TU) ?_|(refine Sb.h ?_ ?_ ?_<;>(try intro hgd)<;>try exact Xy))<;>simp -implicitDefEqProofs (maxSteps:=2000000) [hP,hN,Ha cL xs])|refine X2 ?_ ?_|(refine Xd ?_ ?_<;>intro hcd<;>try exact Xx))
 all_goals (first|(simp_all;done)|((try simp_all)<;>(try omega)<;>grind))
def i4(xs ys:List Int)(d:Int):Bool:=decide (xs.length=ys.length)&&bE cL xs&&bE cL ys&&decide (0<=d)&&decide (d<=20)
theorem PN(xs ys:List Int)(d:Int)(a:xs.length<=9223372036854775807)(b:ys.length<=9223372036854775807):gz 161 (zs xs) (zs ys) (Z d) (B (i4 xs ys d)):=by
 refine Dp func161 λC hP hN=>?_
 with_reducible repeat' (first|refine Sp.h ?_|((first|refine Ss.h ?_|refine Sc.h (tO _ a) ?_|refine Sc.h (tO _ b) ?_|(refine Sb.h ?_ ?_ ?_<;>(try intro hgd)<;>try exact Xy))<;>simp -implicitDefEqProofs (maxSteps:=2000000) [hP,hN])|refine X2 ?_ ?_|(refine Xd ?_ ?_<;>intro hcd<;>try exact Xx))
 all_goals (first|(simp_all[i4];done)|((try simp_all[i4])<;>(try omega)<;>grind))
theorem rU{xs ys:List Int}{d:Int}(h:i4 xs ys d=true):xs.length=ys.length/\bE cL xs=true/\bE cL ys=true/\0<=d/\d<=20:=by
 simp only[i4,up,Is]at h;exact⟨h.1.1.1.1,h.1.1.1.2,h.1.1.2,h.1.2,h.2⟩
theorem A3{d:Int}(a:0<=d)(hd:d<=20):i64.wrap (2^d.toNat)=2^d.toNat:=by
 have:∀n:Nat,n<=20->i64.wrap (2^n)=2^n:=by decide
 exact this d.toNat (by omega)
theorem Ll{T L:List PV}{v:PV}(a:L.length=T.length)(h:∀j,j<i->L[j]?=T[j]?)(b:T[i]?=some v):∀j,j<i+1->(L.set i v)[j]?=T[j]?:=by
 intro j c;have hi:i<T.length:=(th.1 b).1;by_cases e:j=i
 .subst e;rw[b,List.getElem?_set_self (by omega)]
 .rw[List.getElem?_set_ne (by omega)];exact h j (by omega)
theorem Lm{T L:List PV}(a:L.length=T.length)(h:∀j,j<i->L[j]?=T[j]?)(hi:T.length<=i):L=T:=by
 apply Zx;intro j;by_cases e:j<i
 .exact h j e
 .rw[Y2 (by omega),Y2 (by omega)]
def rV(a d f t:Int):Int×Int:=
 let s:=wr (a*wr (t-f));let e:=wr (wr (a+1)*wr (t-f))
 (wr (f+(min s e).fdiv (2^d.toNat)),wr (f-(wr (-max s e)).fdiv (2^d.toNat)))
theorem TV(f t i d:Int)(a:0<=d)(hd:d<64):mD 163 (Z f) (Z t) (.rptr (Z i) 0) (.rptr (Z d) 0) (aK (rV i d f t)):=by
 refine Dp func163 λC hP hN=>?_
 with_reducible repeat' (first|refine Sp.h ?_|((first|refine Wd ?_|refine Ss.h ?_|refine Sc.h (TN _ _ a hd) ?_|(refine Sb.h ?_ ?_ ?_<;>(try intro hgd)<;>try exact Xy))<;>simp -implicitDefEqProofs (maxSteps:=2000000) [hP,hN]<;>try refine Ya ?_)|refine X2 ?_ ?_|(refine Xd ?_ ?_<;>intro hcd<;>try exact Xx))
 all_goals (first|(simp_all[rV];done)|((try simp_all[rV])<;>(try omega)<;>grind))
theorem TW(f:FuncId)(g:Int->Int->Int×Int)(u v:Int)(xs:List (Int))(ys:List (Int))(q:xs.length<=16777216)(r:xs.length=ys.length)(hf:∀a b,aS prog f [.pv (Z a),.pv (Z b),.pv (.rptr (Z u) 0),.pv (.rptr (Z v) 0)] [] [] (.pv (aK (g a b)))):gz 162 (zs xs) (zs ys) (.fn (.func f) [] [.rptr (Z u) 0,.rptr (Z v) 0]) (iv (List.zipWith g xs ys)):=by
 refine Dp func162 λC hP hN=>?_
 with_reducible repeat' (first|refine Sp.h ?_|((first|refine Ss.h ?_|(refine Sb.h ?_ ?_ ?_<;>(try intro hgd)<;>try exact Xy))<;>simp -implicitDefEqProofs (maxSteps:=2000000) [hP,hN,q,show(16:Int)*xs.length<=281474976710656 by omega,show(xs.length:Int)<=9223372036854775807 by omega])|refine X2 ?_ ?_|(refine Xd ?_ ?_<;>intro hcd<;>try exact Xx))
 refine WP.loopN [] xs.length (λi st=>st.t 0=.pv (zs xs)/\st.t 1=.pv (zs ys)/\st.t 2=.pv (.fn (.func f) [] [.rptr (Z u) 0,.rptr (Z v) 0])/\st.t 7=.arr 12 xs.length/\st.t 13=.pv (zs xs)/\st.t 14=.pv (Z xs.length)/\st.t 15=.pv (Z i)/\
  ∃L,st.h 12=some (.row 170 2 L 0)/\L.length=xs.length/\∀j,j<i->L[j]?=((List.zipWith g xs ys).map aK)[j]?) (by simp) ?_
 rintro i st hi ⟨o,h1,h2,h7,k,l,m,L,hL,e,hq⟩
 have p:L.length=((List.zipWith g xs ys).map aK).length:=by simp[e,r]
 by_cases c:i<xs.length
 .have s:=ae c (s8 q)
  have d:i<ys.length:=by omega
  have n:i<L.length:=by omega
  with_reducible repeat' (first|refine Sp.h ?_|((first|refine Ss.h ?_|refine Sc.h (hf _ _) ?_|(refine Sb.h ?_ ?_ ?_<;>(try intro hgd)<;>try exact Xy))<;>simp -implicitDefEqProofs (maxSteps:=2000000) [hP,hN,o,h1,h2,h7,k,l,m,hL,e,c,d,n,s])|refine X2 ?_ ?_|(refine Xd ?_ ?_<;>intro hcd<;>try exact Xx))
  simpa using Ll p hq (v:=aK (g xs[i] ys[i])) (by simp[List.getElem?_zipWith,c,d])
 .skip
  with_reducible repeat' (first|refine Sp.h ?_|((first|refine Ss.h ?_|(refine Sb.h ?_ ?_ ?_<;>(try intro hgd)<;>try exact Xy))<;>simp -implicitDefEqProofs (maxSteps:=2000000) [hP,hN,o,h1,h2,h7,k,l,m,hL,e,c])|refine X2 ?_ ?_|(refine Xd ?_ ?_<;>intro hcd<;>try exact Xx))
  simpa using Lm p hq (by simp;omega)
def qj(xs ys:List Int)(d i:Int):List (Int×Int)×Bool:=if i4 xs ys d&&decide (0<=i)&&decide (i<2^d.toNat)then(List.zipWith (rV i d) xs ys,true)else([],false)
theorem TX(xs ys:List Int)(d i:Int)(g:xs.length<=16777216)(j:ys.length<=16777216):mD 121 (zs xs) (zs ys) (Z d) (Z i) (.tup [iv (qj xs ys d i).1,B (qj xs ys d i).2]):=by
 refine Dp func121 λC hP hN=>?_
 cases c:i4 xs ys d with
 |false=>
  with_reducible repeat' (first|refine Sp.h ?_|((first|refine Wd ?_|refine Ss.h ?_|refine Sc.h (PN _ _ _ (s8 g) (s8 j)) ?_|(refine Sb.h ?_ ?_ ?_<;>(try intro hgd)<;>try exact Xy))<;>simp -implicitDefEqProofs (maxSteps:=2000000) [hP,hN,c]<;>try refine Ya ?_)|refine X2 ?_ ?_|(refine Xd ?_ ?_<;>intro hcd<;>try exact Xx))
  all_goals simp[qj,c]
 |true=>
  obtain⟨k,_,_,f,hd⟩:=rU c
  have e:d<64:=by omega
  with_reducible repeat' (first|refine Sp.h ?_|((first|refine Wd ?_|refine Ss.h ?_|refine Sc.h (PN _ _ _ (s8 g) (s8 j)) ?_|refine Sc.h (TW _ _ _ _ _ _ g k (λa b=>TV a b _ _ f e)) ?_|(refine Sb.h ?_ ?_ ?_<;>(try intro hgd)<;>try exact Xy))<;>simp -implicitDefEqProofs (maxSteps:=2000000) [hP,hN,c,f,uo,yu e,A3 f hd]<;>try refine Ya ?_)|refine X2 ?_ ?_|(refine Xd ?_ ?_<;>intro hcd<;>try exact Xx))
  all_goals simp_all[qj]
  all_goals (try grind)
theorem wY(a:i<xs.length)(hp:p xs[i]=false):bE p xs=false:=by
 rw[bE,yAm];exact⟨xs[i],Zd a,by simp[hp]⟩
theorem zT(a:i<xs.length)(h:bE p (xs.take i)=true)(hp:p xs[i]=true):bE p (xs.take (i+1))=true:=by
 unfold bE at *;rw[ZC a,List.all_append,h];simp[hp]
theorem zU(a:¬i<xs.length)(h:bE p (xs.take i)=true):bE p xs=true:=by
 rwa [Zh (by omega)]at h
theorem DS{γ:Type}{f:α->β->γ}(b:i<xs.length)(a:i<ys.length):(List.zipWith f xs ys).take i++[f xs[i] ys[i]]=(List.zipWith f xs ys).take (i+1):=by
 rw[ZC (by simp;omega)];simp
theorem J0(hn:xs.length=n)(hi:¬i<n):xs.take i=xs:=Zh (by omega)
def jL(f:α->β->Bool)(xs:List α)(ys:List β):Bool:=(List.zipWith f xs ys).all id
def qZ(f:α->β->Bool)(xs:List α)(ys:List β)(i:Nat):Bool:=((List.zipWith f xs ys).take i).all id
theorem A4(b:i<xs.length)(a:i<ys.length)(hp:f xs[i] ys[i]=false):jL f xs ys=false:=
 wY (p:=id) (xs:=List.zipWith f xs ys) (i:=i) (by simp;omega) (by simpa using hp)
theorem Dc(b:i<xs.length)(a:i<ys.length)(h:qZ f xs ys i=true)(hp:f xs[i] ys[i]=true):qZ f xs ys (i+1)=true:=
 zT (p:=id) (xs:=List.zipWith f xs ys) (i:=i) (by simp;omega) h (by simpa using hp)
theorem Dd(a:¬i<xs.length)(h:qZ f xs ys i=true):jL f xs ys=true:=
 zU (p:=id) (xs:=List.zipWith f xs ys) (i:=i) (by simp;omega) h
theorem TY(xs:List (Int×Int))(c:xs.length<=9223372036854775807):aT 184 (iv xs) (B (bE vI xs)):=by
 refine Dp func184 λC hP hN=>?_;refine Gz ?_;refine WP.loopN [] xs.length (λi st=>st.t 0=.pv (iv xs)/\st.t 3=.pv (Z i)/\bE vI (xs.take i)=true) (by simp[bE]) ?_;rintro i st hi ⟨b,h1,hq⟩;by_cases a:i<xs.length
 .have d:=ae a c
  have hF:vI xs[i]=false->bE vI xs=false:=wY a;have hS:vI xs[i]=true->bE vI (xs.take (i+1))=true:=zT a hq
  with_reducible repeat' (first|refine Sp.h ?_|((first|refine Ss.h ?_|refine Sc.h (rS _ _) ?_|(refine Sb.h ?_ ?_ ?_<;>(try intro hgd)<;>try exact Xy))<;>simp -implicitDefEqProofs (maxSteps:=2000000) [hP,hN,b,h1,a,d])|refine X2 ?_ ?_|(refine Xd ?_ ?_<;>intro hcd<;>try exact Xx))
  all_goals first|(rw[hF];simp_all[cL];try omega)|(rw[hS];simp_all[cL];try omega)
 .skip
  refine Gz ?_;simp[zU a hq]
theorem oc(xs:List (Int))(c:xs.length<=9223372036854775807):aT 128 (zs xs) (B (bE cL xs)):=by
 refine Dp func128 λC hP hN=>?_
 with_reducible repeat' (first|refine Sp.h ?_|((first|refine Ss.h ?_|(refine Sb.h ?_ ?_ ?_<;>(try intro hgd)<;>try exact Xy))<;>simp -implicitDefEqProofs (maxSteps:=2000000) [hP,hN])|refine X2 ?_ ?_|(refine Xd ?_ ?_<;>intro hcd<;>try exact Xx))
 refine WP.loopN [] xs.length (λi st=>st.t 0=.pv (zs xs)/\st.t 3=.pv (Z i)/\bE cL (xs.take i)=true) (by simp[bE]) ?_;rintro i st hi ⟨b,h1,hq⟩;by_cases a:i<xs.length
 .have d:=ae a c
  have hF:cL xs[i]=false->bE cL xs=false:=wY a;have hS:cL xs[i]=true->bE cL (xs.take (i+1))=true:=zT a hq
  with_reducible repeat' (first|refine Sp.h ?_|((first|refine Ss.h ?_|(refine Sb.h ?_ ?_ ?_<;>(try intro hgd)<;>try exact Xy))<;>simp -implicitDefEqProofs (maxSteps:=2000000) [hP,hN,b,h1,a,d])|refine X2 ?_ ?_|(refine Xd ?_ ?_<;>intro hcd<;>try exact Xx))
  all_goals first|(rw[hF];simp_all[cL];try omega)|(rw[hS];simp_all[cL];try omega)
 .skip
  with_reducible repeat' (first|refine Sp.h ?_|((first|refine Ss.h ?_|(refine Sb.h ?_ ?_ ?_<;>(try intro hgd)<;>try exact Xy))<;>simp -implicitDefEqProofs (maxSteps:=2000000) [hP,hN,b,h1,a])|refine X2 ?_ ?_|(refine Xd ?_ ?_<;>intro hcd<;>try exact Xx))
  simp[zU a hq]
def TZ(x:Int×Int)(c:Int):Bool:=aO x.1 x.2&&decide (x.1<=c)&&decide (c<=x.2)
def A5(x:Int×Int):Int:=if aO x.1 x.2 then wr (x.2-x.1)else 0
def rW(x:Int×Int):Int:=if aO x.1 x.2 then(wr (x.1+x.2)).fdiv 2 else 0
def ky(xs:List (Int×Int))(j:Int):Bool:=decide (0<=j)&&bE vI xs&&(match xs[j.toNat]? with|some x=>decide (2<=A5 x)|none=>false)
def rX(xs:List (Int×Int))(j:Int):List (Int×Int):=if ky xs j then(match xs[j.toNat]? with|some x=>xs.set j.toNat (x.1,rW x)|none=>[])else[]
def rY(xs:List (Int×Int))(j:Int):List (Int×Int):=if ky xs j then(match xs[j.toNat]? with|some x=>xs.set j.toNat (rW x,x.2)|none=>[])else[]
def nx(l:List Int)(n:Nat)(k:Int):Int:=match l[n]? with
 |some x=>kW x k
 |none=>0
def nn(l:List Int)(n:Nat):Nat:=if n<l.length then n+1 else n
abbrev vh(l:List Int)(n:Nat):List PV:=[zs l,Z n]
theorem PO(l:List Int):aS prog 22 [.pv (zs l)] [] [] (.box (vh l 0)):=by
 refine Dp func22 λC hP hN=>?_;exact Gy
 all_goals (first|(simp_all;done)|((try simp_all)<;>(try omega)<;>grind))
theorem rc(l:List Int)(n:Nat):nn l n<=n+1:=by unfold nn;split<;>omega
theorem EV(l:List Int)(n:Nat)(k:Int)(c:k≠0)(hn:n<1000000):aS prog 23 [.bx 0,.pv (Z k)] [vh l n] [vh l (nn l n)] (.pv (Z (nx l n k))):=by
 have d:i64.wrap ((n:Int)+1)=(n:Int)+1:=by rw[IntKind.wrap_i64];omega
 have b:i64.wrap (n:Int)=n:=by rw[IntKind.wrap_i64];omega
 refine yn func23 rfl (by kernel_rfl) (by simp[f23]) rfl (by intro i j h;rcases i with _|_|_|i<;>simp_all) ?_;intro C hP hN;simp only[f23]at hN|-;by_cases a:n<l.length
 .skip
  with_reducible repeat' (first|refine Sp.h ?_|((first|refine Wd ?_|refine Ss.h ?_|refine Sc.h (d9 _ _ c) ?_|(refine Sb.h ?_ ?_ ?_<;>(try intro hgd)<;>try exact Xy))<;>simp -implicitDefEqProofs (maxSteps:=2000000) [hP,hN,vh,a,d,b,Nat.not_le.2 a]<;>try refine Ya ?_)|refine X2 ?_ ?_|(refine Xd ?_ ?_<;>intro hcd<;>try exact Xx))
  simp[nn,nx,a]
 .skip
  refine Gz ?_;simp[nn,nx,a]
theorem jr(l:List Int)(n:Nat)(a:0<k)(b:k<4611686018427387904):0<=nx l n k/\nx l n k<k:=by
 unfold nx;split
 .rename_i x _
  have h1:-k<x.tmod k:=by have:=yAM x a;omega
  have h2:x.tmod k<k:=yAu x a;unfold kW;split
  .rw[aa (by omega) (by omega)];omega
  .omega
 .omega
def bQ(i:Nat):ByteArray:=⟨#[UInt8.ofNat (97+i)]⟩
abbrev A6:Value:=.string ⟨#[97,98,99,100,101,102,103,104,105,106]⟩
def A7(i:Nat):Operand->AV:=λx=>match x with
 |.tmp 3=>.pv (Z i)
 |.tmp 5=>.pv (Z ((i:Int)+1))
 |_=>.pv (.val A6)
section
variable {dst:Option Nat} {ty:TypeId} {pos:String} {aft:Array Edge} {g:Option (Nat×Bool)} {ρ:Operand->AV}
theorem Ob:aV prog ⟨dst,.slice 9 (.const A6) (some (.tmp 3)) (some (.tmp 5)) none,ty,pos,aft,g⟩ (A7 0)=some (.pv (.val (.string (bQ 0))),[]):=by kernel_rfl
theorem Oc:aV prog ⟨dst,.slice 9 (.const A6) (some (.tmp 3)) (some (.tmp 5)) none,ty,pos,aft,g⟩ (A7 1)=some (.pv (.val (.string (bQ 1))),[]):=by kernel_rfl
theorem Od:aV prog ⟨dst,.slice 9 (.const A6) (some (.tmp 3)) (some (.tmp 5)) none,ty,pos,aft,g⟩ (A7 2)=some (.pv (.val (.string (bQ 2))),[]):=by kernel_rfl
theorem RT(i:Nat)(h3:i<3)(hc:ρ (.const A6)=.pv (.val A6))(b:ρ (.tmp 3)=.pv (Z i))(c:ρ (.tmp 5)=.pv (Z ((i:Int)+1))):
 aV prog ⟨dst,.slice 9 (.const A6) (some (.tmp 3)) (some (.tmp 5)) none,ty,pos,aft,g⟩ ρ=some (.pv (.val (.string (bQ i))),[]):=by
 have h:aV prog ⟨dst,.slice 9 (.const A6) (some (.tmp 3)) (some (.tmp 5)) none,ty,pos,aft,g⟩ ρ=aV prog ⟨dst,.slice 9 (.const A6) (some (.tmp 3)) (some (.tmp 5)) none,ty,pos,aft,g⟩ (A7 i):=by
  refine nU (by intro _ _ h;cases h) ?_;intro x a;simp[Op.operands]at a;rcases a with rfl|rfl|rfl
  .exact hc
  .exact b
  .exact c
 rw[h]
 have:i=0\/i=1\/i=2:=by omega
 rcases this with rfl|rfl|rfl
 .exact Ob
 .exact Oc
 .exact Od
end
theorem SV(i:Nat)(h3:i<3):aT 51 (Z i) (.val (.string (bQ i))):=by
 have a:i64.wrap ((i:Int)+1)=(i:Int)+1:=by rw[IntKind.wrap_i64];omega
 refine Dp func51 λC hP hN=>?_;refine GT a ?_;rw[RT i h3 rfl (by simp) (by simp)];simp[hP,hN];exact Gy
structure J where
 name:ByteArray
 kind:Int
 parent:Int
 ox:Int
 oy:Int
 oz:Int
 lo:Int
 hi:Int
 w:Int
 sp:Int
 ac:Int
 tq:Int
abbrev aQ(j:J):PV:=.val (.agg #[.string j.name,.int .i64 j.kind,.int .i64 j.parent,.int .i64 j.ox,.int .i64 j.oy,.int .i64 j.oz,.int .i64 j.lo,.int .i64 j.hi,.int .i64 j.w,.int .i64 j.sp,.int .i64 j.ac,.int .i64 j.tq])
structure Ms where
 link:Int
 mass:Int
 px:Int
 py:Int
 pz:Int
abbrev bb(m:Ms):PV:=.val (.agg #[.int .i64 m.link,.int .i64 m.mass,.int .i64 m.px,.int .i64 m.py,.int .i64 m.pz])
abbrev gh:AV:=.pv (.val (.slice none 0 0))
abbrev eS(js:List J)(ms:List Ms):PV:=.agg [.sl (js.map aQ),.sl (ms.map bb)]
theorem tP(x:Int)(b:0<k)(a:k<4611686018427387904):0<=kW x k/\kW x k<k:=by
 have:=jr [x] 0 b a;simpa[nx]using this
theorem WV{P:Program}(d:Nat)(t:TypeId)(a b:Bool)(h:P.underlying t=some .bool):al P (Op.equalIn (d+1) t (.bool a) (.bool b))=some (a==b):=by
 simp only[Op.equalIn,af,jb h,Y3];rfl
def RU(x y:AV):Option (Bool×Bool):=match x,y with
 |.pv (.val (.bool a)),.pv (.val (.bool b))=>some (a,b)
 |_,_=>none
def T0(x y:AV)(fb:Option bP):Option bP:=match RU x y with
 |some (a,b)=>some (.pv (.val (.bool (a==b))),[])
 |none=>fb
@[simp] theorem SW(a b:Bool)(fb:Option bP):T0 (.pv (.val (.bool a))) (.pv (.val (.bool b))) fb=some (.pv (.val (.bool (a==b))),[]):=rfl
def PP(xs:List (Int×Int))(ys:List Int):Bool:=decide (xs.length=ys.length)&&jL TZ xs ys
def PQ(x y:Int×Int):Bool:=aO x.1 x.2&&aO y.1 y.2&&decide (max x.1 y.1<=min x.2 y.2)
def EW(xs ys:List (Int×Int)):Bool:=decide (xs.length=ys.length)&&jL PQ xs ys
structure R8 where
 k1:Int
 k2:List PV
 k3:Int
 k4:Int
 k5:List PV
 k6:Int
 k7:List PV
 k8:List PV
abbrev aG:=Edg R8
variable {e:aG}{es:List aG}
abbrev eU:=Rmp R8 PV
abbrev eG:=Tem R8 PV
abbrev jy(e:aG):PV:=.agg [Z e.u,Z e.v,Z e.c,Z e.s,Z e.rest.k1,.sl e.rest.k2,Z e.rest.k3,Z e.rest.k4,.sl e.rest.k5,Z e.rest.k6,.sl e.rest.k7,.sl e.rest.k8]
abbrev iN(es:List aG):PV:=.sl (es.map jy)
abbrev bp(m:eU):PV:=.agg [.sl m.np,iN m.es]
abbrev dN(m:Mov):PV:=.val (.agg #[.int .i64 m.a,.int .i64 m.f,.int .i64 m.t])
abbrev dG(c:Mov×Mov):PV:=.val (.agg #[.int .i64 c.1.a,.int .i64 c.1.f,.int .i64 c.1.t,.int .i64 c.2.a,.int .i64 c.2.f,.int .i64 c.2.t])
abbrev lN(t:eG):PV:=.agg [.sl (t.maps.map bp),.sl (t.conf.map dG)]
def uF(es:List aG):Prop:=∀e∈es,True
structure TmOk(t:eG):Prop where
 rest:∀m∈t.maps,uF m.es
 nl:t.maps.length<=9223372036854775807
 cl:t.conf.length<=9223372036854775807
 pl:∀m∈t.maps,m.np.length<=9223372036854775807
 el:∀m∈t.maps,m.es.length<=9223372036854775807
section
variable {α:Type}
def pM(p:α->Bool)(xs:List α)(i:Nat):Prop:=(xs.take i).any p=false
def vP(p:α->Bool)(xs:List α)(i:Nat):Prop:=(xs.take i).all p=true
theorem tB(p:α->Bool)(xs:List α):pM p xs 0:=by simp[pM]
theorem vQ{p:α->Bool}{xs:List α}(a:i<xs.length)(hq:pM p xs i)(h:p xs[i]=false):pM p xs (i+1):=by
 unfold pM at *;rw[ZC a,List.any_append,hq];simp[h]
theorem HK{p:α->Bool}{xs:List α}(a:i<xs.length)(h:p xs[i]=true):xs.any p=true:=yAF.2 ⟨_,Zd a,h⟩
theorem HL{p:α->Bool}{xs:List α}(a:¬i<xs.length)(hq:pM p xs i):xs.any p=false:=by
 unfold pM at hq;rwa [Zh (by omega)]at hq
theorem Dz(p:α->Bool)(xs:List α):vP p xs 0:=by simp[vP]
theorem FU{p:α->Bool}{xs:List α}(a:i<xs.length)(hq:vP p xs i)(h:p xs[i]=true):vP p xs (i+1):=by
 unfold vP at *;rw[ZC a,List.all_append,hq];simp[h]
theorem FV{p:α->Bool}{xs:List α}(a:i<xs.length)(h:p xs[i]=false):xs.all p=false:=yAm.2 ⟨_,Zd a,by simp[h]⟩
theorem HM{p:α->Bool}{xs:List α}(a:¬i<xs.length)(hq:vP p xs i):xs.all p=true:=by
 unfold vP at hq;rwa [Zh (by omega)]at hq
end
def tZ(u v:Int)(e:aG):Bool:=e.u==u&&(e.v==v&&e.s==1)
theorem Ws(es:List aG)(u v:Int)(j:uF es)(g:es.length<=9223372036854775807):gz 146 (iN es) (Z u) (Z v) (B (l8 es u v)):=by
 refine Dp func146 λC hP hN=>?_;refine Gz ?_;refine WP.loopN [] es.length (λi st=>st.t 0=.pv (iN es)/\st.t 1=.pv (Z u)/\st.t 2=.pv (Z v)/\st.t 10=.pv (Z es.length)/\st.t 11=.pv (Z i)/\pM (tZ u v) es i) (by simp[tB]) ?_;rintro i st hi ⟨g0,g1,g2,c,d,hq⟩;by_cases a:i<es.length
 .have n:=ae a g
  have hn:=vQ a hq;have b:tZ u v es[i]=true->l8 es u v=true:=HK a;have k:=j _ (Zd a);generalize l:es[i]=e at *
  have m:es[i]?=some e:=by rw[an a,l]
  have hp:tZ u v e=(e.u==u&&(e.v==v&&e.s==1)):=rfl;rw[hp]at hn b;generalize l8 es u v=r at *;exact Gy
  all_goals first|exact hn (by simp_all)|(rw[b (by simp_all)];done)
 .have f:l8 es u v=false:=HL a hq
  rw[f];exact Gy
def oO(u v:Int)(e:aG):Bool:=decide (u<e.u)||(e.u==u&&decide (v<=e.v))
abbrev Rr(es:List aG)(u v:Int):List PV:=[.rptr (iN es) 0,.rptr (Z u) 0,.rptr (Z v) 0]
theorem XO(es:List aG)(u v:Int)(b:uF es)(i:Nat)(e:aG)(hi:es[i]?=some e):mD 93 (Z i) (.rptr (iN es) 0) (.rptr (Z u) 0) (.rptr (Z v) 0) (B (oO u v e)):=by
 have a:=(th.1 hi).1;have d:=(th.1 hi).2;have c:=b _ (An hi);have hp:oO u v e=(decide (u<e.u)||(e.u==u&&decide (v<=e.v))):=rfl;rw[hp];refine Dp func93 λC hP hN=>?_;exact Gy
 all_goals simp_all
theorem XP(es:List aG)(u v:Int)(k:Nat)(x:uF es)(hn:es.length<=4611686018427387904)(p:k<=es.length)(h1:∀q e,q<k->es[q]?=some e->oO u v e=false)(h2:∀q e,k<=q->es[q]?=some e->oO u v e=true):aH 92 (Z es.length) (.fn (.func 93) [] (Rr es u v)) (Z k):=by
 refine Dp func92 λC hP hN=>?_;refine Gz ?_;refine WP.loop [] (λst=>∃i j:Nat,i<=k/\k<=j/\j<=es.length/\st.t 1=.pv (.fn (.func 93) [] (Rr es u v))/\st.t 5=.pv (Z i)/\st.t 6=.pv (Z j)) (λst=>match st.t 5,st.t 6 with|.pv (.val (.int _ a)),.pv (.val (.int _ b))=>(b-a).toNat|_,_=>0) (by exact⟨0,es.length,by simp[p]⟩) ?_;rintro st ⟨i,j,hi,o,f,g1,g5,y⟩;by_cases r:i<j
 .have w1:i64.wrap ((i:Int)+j)=(i:Int)+j:=aa
  have w2:IntKind.u64.wrap ((i:Int)+j)=(i:Int)+j:=by rw[IntKind.wrap_u64];omega
  have z:(((i:Int)+j).fdiv (2^min 1 IntKind.u64.bits))=(((i+j)/2:Nat):Int):=by rw[show min 1 IntKind.u64.bits=1 from rfl,Int.fdiv_eq_ediv_of_nonneg _ (by decide)];omega
  have A:i64.wrap ((((i+j)/2:Nat):Int))=(((i+j)/2:Nat):Int):=aa
  have B:i64.wrap ((((i+j)/2:Nat):Int)+1)=((((i+j)/2+1:Nat)):Int):=by rw[IntKind.wrap_i64];omega
  have s:i<=(i+j)/2/\(i+j)/2<j:=by omega
  generalize(i+j)/2=m at *;have d:es[m]?=some es[m]:=an (by omega);have n:=XO es u v x m _ d
  have g:oO u v es[m]=true->k<=m:=by
   intro h;rcases Nat.lt_or_ge m k with h3|h3
   .rw[h1 m _ h3 d]at h;cases h
   .exact h3
  have l:oO u v es[m]=false->m<k:=by
   intro h;rcases Nat.lt_or_ge m k with h3|h3
   .exact h3
   .rw[h2 m _ h3 d]at h;cases h
  cases c:oO u v es[m]with
  |true=>
   rw[c]at n;have h9:=g c;refine Gz ?_
   all_goals exact⟨⟨i,hi,m,h9,by omega,rfl,rfl⟩,by omega⟩
  |false=>
   rw[c]at n;have h9:=l c;refine Gz ?_
   all_goals exact⟨⟨m+1,by omega,j,o,f,by omega,rfl⟩,by omega⟩
 .have:i=k:=by omega
  subst this;exact Gy
theorem MC{u v:Int}(f:eH n u0 v0 es=true){j:Nat}{b:aG}(hi:es[i]?=some e)(a:es[j]?=some b)(d:i<=j)(h:oO u v e=true):oO u v b=true:=by
 by_cases c:i=j
 .subst c;rw[hi]at a;injection a with a;subst a;exact h
 .have:=(jA f).2 i j e b hi a (by omega)
  simp only[oO,ZI,up,Is,ZH]at h|-;omega
theorem Rs{u v:Int}(g:eH n u0 v0 es=true){k:Nat}(h1:∀q e,q<k->es[q]?=some e->oO u v e=false)(h2:∀q e,k<=q->es[q]?=some e->oO u v e=true):
 (∀e,es[k]?=some e->l8 es u v=tZ u v e)/\(es[k]?=none->l8 es u v=false):=by
 have c:∀e,tZ u v e=true->oO u v e=true:=by
  intro e h;simp only[tZ,up,ZH]at h;simp only[oO,h.1,h.2.1,beq_self_eq_true,Zf,ZI,Is]
  right;omega
 refine⟨λe a=>?_,λa=>?_⟩
 .rw[Bool.eq_iff_iff]
  constructor
  .intro h
   obtain⟨x,b,hp⟩:=yAF.1 (show es.any (tZ u v)=true from h);obtain⟨q,hq⟩:=Z6.1 b;rcases yAw q k with h3|h3|h3
   .have:=h1 q x h3 hq;rw[c x hp]at this;cases this
   .subst h3;rw[a]at hq;injection hq with hq;subst hq;exact hp
   .have d:=h2 k e (Y0 _) a
    have:=(jA g).2 k q e x a hq h3;simp only[tZ,up,ZH]at hp;simp only[oO,ZI,up,Is,ZH]at d;omega
  .intro h;exact yAF.2 ⟨e,An a,h⟩
 .cases hb:l8 es u v with
  |false=>rfl
  |true=>
   obtain⟨x,b,hp⟩:=yAF.1 (show es.any (tZ u v)=true from hb);obtain⟨q,hq⟩:=Z6.1 b;have f:=(th.1 hq).1;have:=List.getElem?_eq_none_iff.1 a;have:=h1 q x (by omega) hq;rw[c x hp]at this;cases this
theorem KK(d:eH n u0 v0 es=true)(u v:Int):∃k,k<=es.length/\(∀q e,q<k->es[q]?=some e->oO u v e=false)/\∀q e,k<=q->es[q]?=some e->oO u v e=true:=by
 refine⟨es.findIdx (oO u v),List.findIdx_le_length,λq e hq a=>?_,λq e hq a=>?_⟩
 .have:=List.not_of_lt_findIdx hq
  have h:=(th.1 a).2;simpa[h]using this
 .have c:=(th.1 a).1
  have b:es.findIdx (oO u v)<es.length:=by omega
  exact MC d (an b) a hq List.findIdx_getElem
theorem XQ(es:List aG)(n:Nat)(u v:Int)(c:uF es)(m:es.length<=8192)(d:eH n (-1) (-1) es=true):gz 50 (iN es) (Z u) (Z v) (B (l8 es u v)):=by
 obtain⟨k,f,h1,h2⟩:=KK d u v;have l:=XP es u v k c (by omega) f h1 h2;obtain⟨i,j⟩:=Rs d h1 h2;refine Dp func50 λC hP hN=>?_;by_cases a:k<es.length
 .have b:es[k]?=some es[k]:=an a
  have g:=c _ (Zd a);rw[i _ b];generalize o:es[k]=e at *;have hp:tZ u v e=(e.u==u&&(e.v==v&&e.s==1)):=rfl;rw[hp];exact Gy
  all_goals simp_all
 .rw[j (Y2 (by omega))]
  exact Gy
theorem BD{t:eG}{k:Nat}{m:eU}(h:t.maps[k]?=some m):gU t k=m.np.length/\Jo t k=m.es:=by simp[gU,Jo,h]
theorem HX{t:eG}{x:eU}(g:0<=m.a)(b:t.maps[m.a.toNat]?=some x):gw t m=(gp x.np.length m.f&&(gp x.np.length m.t&&(m.f==m.t||l8 x.es (min m.f m.t) (max m.f m.t)))):=by
 have e:=(th.1 b).1;obtain⟨c,d⟩:=BD b
 have:gp t.maps.length m.a=true:=by rw[dV];omega
 rw[gw,c,d,this,Zf]
theorem F8{t:eG}(h:¬(0<=m.a/\m.a<t.maps.length)):gw t m=false:=by
 have:gp t.maps.length m.a=false:=by
  cases h9:gp t.maps.length m.a with
  |false=>rfl
  |true=>exact absurd (dV.1 h9) h
 rw[gw,this,Zt]
theorem XY(t:eG)(m:Mov)(j:TmOk t)[Inhabited Nat]:gz 49 (lN t) (dN m) (.val (.func (.func 146) #[] #[])) (B (gw t m)):=by
 by_cases ha:0<=m.a/\m.a<t.maps.length
 .obtain⟨d,o⟩:=ha
  have c:m.a.toNat<t.maps.length:=by omega
  have v:t.maps[m.a.toNat]?=some t.maps[m.a.toNat]:=an c;have b:=Zd c;have p:=j.pl _ b;have e:=j.el _ b;have i:=j.rest _ b;have n:=Ws t.maps[m.a.toNat].es (min m.f m.t) (max m.f m.t) i e;rw[HX d v];generalize y:t.maps[m.a.toNat]=x at *
  have s:¬m.a<0:=by omega
  have u:¬(t.maps.length:Int)<=m.a:=by omega
  by_cases g:gp x.np.length m.f=true/\gp x.np.length m.t=true
  .obtain⟨k,l⟩:=g
   rw[k,l,Zf,Zf];rw[dV]at k l
   have z:¬m.f<0:=by omega
   have A:¬(x.np.length:Int)<=m.f:=by omega
   have D:¬m.t<0:=by omega
   have E:¬(x.np.length:Int)<=m.t:=by omega
   generalize l8 x.es (min m.f m.t) (max m.f m.t)=q at *;refine Dp func49 λC hP hN=>?_;exact Gy
   all_goals simp_all
  .have hq:(gp x.np.length m.f&&(gp x.np.length m.t&&(m.f==m.t||l8 x.es (min m.f m.t) (max m.f m.t))))=false:=by
    cases h1:gp x.np.length m.f<;>cases h2:gp x.np.length m.t<;>simp_all
   rw[hq]
   have r:¬((0<=m.f/\m.f<x.np.length)/\(0<=m.t/\m.t<x.np.length)):=by rw[<-dV,<-dV];exact g
   clear n hq g;refine Dp func49 λC hP hN=>?_;exact Gy
   all_goals (exfalso;simp at *;omega)
 .rw[F8 ha]
  refine Dp func49 λC hP hN=>?_;exact Gy
  all_goals (exfalso;simp at *;omega)
theorem NT(t:eG)(m:Mov)(j:TmOk t)(v:∀m∈t.maps,dt m=true):gz 49 (lN t) (dN m) (.val (.func (.func 50) #[] #[])) (B (gw t m)):=by
 by_cases ha:0<=m.a/\m.a<t.maps.length
 .obtain⟨d,p⟩:=ha
  have c:m.a.toNat<t.maps.length:=by omega
  have A:t.maps[m.a.toNat]?=some t.maps[m.a.toNat]:=an c;have b:=Zd c;have s:=j.pl _ b;have r:=j.el _ b;have i:=j.rest _ b;obtain⟨e,k⟩:t.maps[m.a.toNat].es.length<=8192/\eH t.maps[m.a.toNat].np.length (-1) (-1) t.maps[m.a.toNat].es=true:=(by have:=v _ b;simp only[dt,up,Is]at this;exact⟨this.2.1,this.2.2⟩);have o:=XQ t.maps[m.a.toNat].es _ (min m.f m.t) (max m.f m.t) i e k;rw[HX d A];generalize D:t.maps[m.a.toNat]=x at *
  have y:¬m.a<0:=by omega
  have z:¬(t.maps.length:Int)<=m.a:=by omega
  by_cases g:gp x.np.length m.f=true/\gp x.np.length m.t=true
  .obtain⟨l,n⟩:=g
   rw[l,n,Zf,Zf];rw[dV]at l n
   have E:¬m.f<0:=by omega
   have F:¬(x.np.length:Int)<=m.f:=by omega
   have G:¬m.t<0:=by omega
   have H:¬(x.np.length:Int)<=m.t:=by omega
   generalize l8 x.es (min m.f m.t) (max m.f m.t)=q at *;refine Dp func49 λC hP hN=>?_;exact Gy
   all_goals simp_all
  .have hq:(gp x.np.length m.f&&(gp x.np.length m.t&&(m.f==m.t||l8 x.es (min m.f m.t) (max m.f m.t))))=false:=by
    cases h1:gp x.np.length m.f<;>cases h2:gp x.np.length m.t<;>simp_all
   rw[hq]
   have u:¬((0<=m.f/\m.f<x.np.length)/\(0<=m.t/\m.t<x.np.length)):=by rw[<-dV,<-dV];exact g
   clear o hq g;refine Dp func49 λC hP hN=>?_;exact Gy
   all_goals (exfalso;simp at *;omega)
 .rw[F8 ha]
  refine Dp func49 λC hP hN=>?_;exact Gy
  all_goals (exfalso;simp at *;omega)
theorem XZ(t:eG)(m:Mov)(a:TmOk t):aH 90 (lN t) (dN m) (B (gw t m)):=by
 have cl:=XY t m a;refine Dp func90 λC hP hN=>?_;exact Gy
def wq(n:Nat)(a:Int×Int)(e:aG):Bool:=t6 n e&& !(decide (e.u<a.1)||(e.u==a.1&&decide (e.v<=a.2)))
def jz(es:List aG)(i:Nat):Int×Int:=match i with
 |0=>(-1,-1)
 |i+1=>match es[i]? with
  |some e=>(e.u,e.v)
  |none=>(-1,-1)
theorem xM(n:Nat):∀(es:List aG)(p:Int×Int),eH n p.1 p.2 es=true↔∀i e,es[i]?=some e->wq n (match i with|0=>p|i+1=>jz es (i+1)) e=true
 |[],p=>by simp[eH]
 |a::r,p=>by
  have ih:=xM n r (a.u,a.v);simp only at ih;rw[eH,up,up,ih];constructor
  .rintro⟨h1,h2,h3⟩ i e b
   cases i with
   |zero=>
    simp only[Z4,YV]at b;subst b;simp only[wq,up];exact⟨h1,h2⟩
   |succ i=>
    simp only[yAN]at b;have:=h3 i e b
    cases i with
    |zero=>simpa[jz]using this
    |succ i=>simpa[jz]using this
  .intro h
   have c:=h 0 a rfl;simp only[wq,up]at c;refine⟨c.1,c.2,λi e b=>?_⟩;have:=h (i+1) e (by simpa using b)
   cases i with
   |zero=>simpa[jz]using this
   |succ i=>simpa[jz]using this
def BE(n:Nat)(es:List aG)(i:Nat):Prop:=∀j e,j<i->es[j]?=some e->wq n (jz es j) e=true
theorem Jg(n:Nat)(es:List aG):BE n es 0:=λj e h=>by omega
theorem Jh(h:BE n es i)(c:es[i]?=some e)(hp:wq n (jz es i) e=true):BE n es (i+1):=by
 intro j x d a;by_cases b:j=i
 .subst b;rw[c]at a;injection a with a;subst a;exact hp
 .exact h j x (by omega) a
theorem DF(h:BE n es i)(hi:¬i<es.length):eH n (-1) (-1) es=true:=by
 rw[show eH n (-1) (-1) es=eH n ((-1,-1):Int×Int).1 ((-1,-1):Int×Int).2 es from rfl,xM];intro j e a;have b:=(th.1 a).1;have:=h j e (by omega) a;cases j<;>exact this
theorem BF(c:es[i]?=some e)(hp:wq n (jz es i) e=false):eH n (-1) (-1) es=false:=by
 cases a:eH n (-1) (-1) es with
 |false=>rfl
 |true=>
  rw[show eH n (-1) (-1) es=eH n ((-1,-1):Int×Int).1 ((-1,-1):Int×Int).2 es from rfl,xM]at a;have:=a i e c
  have b:wq n (jz es i) e=true:=by cases i<;>exact this
  rw[b]at hp;cases hp
theorem O8(n:Nat)(u v:Int)(e:aG):wq n (u,v) e=(decide (0<=e.u)&&(decide (e.u<e.v)&&(decide (e.v<n)&&(decide (0<=e.c)&&decide (e.c<=1099511627776))))&& !(decide (e.u<u)||(e.u==u&&decide (e.v<=v)))):=rfl
theorem DG(a:es[i]?=some e):jz es (i+1)=(e.u,e.v):=by simp[jz,a]
theorem X0(m:eU)(x:uF m.es)(hn:m.np.length<=9223372036854775807)(s:m.es.length<=9223372036854775807):aT 48 (bp m) (B (dt m)):=by
 by_cases o:m.np.length<=1024/\m.es.length<=8192
 .have hd:dt m=eH m.np.length (-1) (-1) m.es:=by simp[dt,o]
  have w1:¬(1024:Int)<m.np.length:=by omega
  have w2:¬(8192:Int)<m.es.length:=by omega
  rw[hd];refine Dp func48 λC hP hN=>?_;refine Gz ?_;refine WP.loopN [6] m.es.length (λi st=>st.t 1=.ptr 1 0/\st.h 1=some (.box [.pv (.sl m.np),.pv (iN m.es)] true false)/\st.t 3=.pv (Z (jz m.es i).1)/\st.t 4=.pv (Z (jz m.es i).2)/\st.t 18=.pv (iN m.es)/\st.t 19=.pv (Z m.es.length)/\st.t 20=.pv (Z i)/\st.h 6=none/\BE m.np.length m.es i) (by simp[jz,Jg]) ?_;rintro i st hi ⟨g1,b1,g3,g4,f,g,j,b6,hq⟩;by_cases a:i<m.es.length
  .have u:=ae a s
   have b:m.es[i]?=some m.es[i]:=an a;generalize v:m.es[i]=e at *;have d:=Jh hq b;have c:=BF (n:=m.np.length) b;have k:=DG b;obtain⟨⟨u0,v0⟩,l⟩:∃p,jz m.es i=p:=⟨_,rfl⟩;rw[l]at g3 g4 d c;rw[O8]at d c;generalize eH m.np.length (-1) (-1) m.es=r at *
   with_reducible repeat' (first|refine Sp.h ?_|((first|refine Wd ?_|refine Ss.h ?_|(refine Sb.h ?_ ?_ ?_<;>(try intro hgd)<;>try exact Xy))<;>simp -implicitDefEqProofs (maxSteps:=2000000) [hP,hN,g1,b1,g3,g4,f,g,j,b6,a,u,v,b]<;>try refine Ya ?_)|refine X2 ?_ ?_|(refine Xd ?_ ?_<;>intro hcd<;>try exact Xx))
   all_goals first|(rw[c (by simp_all;try omega)];done)|(refine⟨by rw[k],by rw[k],d (by simp_all;try omega)⟩;done)|skip
  .have q:=DF hq a
   rw[q]
   with_reducible repeat' (first|refine Sp.h ?_|((first|refine Wd ?_|refine Ss.h ?_|(refine Sb.h ?_ ?_ ?_<;>(try intro hgd)<;>try exact Xy))<;>simp -implicitDefEqProofs (maxSteps:=2000000) [hP,hN,g1,b1,g3,g4,f,g,j,b6,a]<;>try refine Ya ?_)|refine X2 ?_ ?_|(refine Xd ?_ ?_<;>intro hcd<;>try exact Xx))
 .have hd:dt m=false:=by
   cases h:dt m with
   |false=>rfl
   |true=>simp only[dt,up,Is]at h;exact absurd ⟨h.1,h.2.1⟩ o
  rw[hd];refine Dp func48 λC hP hN=>?_;exact Gy
  all_goals (exfalso;simp at *;omega)
section
variable {α:Type}
def oQ(p:α->Bool)(xs:List α):Int:=if xs.any p=true then(xs.findIdx p:Int)else -1
theorem CO{p:α->Bool}{xs:List α}(a:i<xs.length)(hq:pM p xs i)(h:p xs[i]=true):oQ p xs=i:=by
 unfold oQ;rw[YY (HK a h)]
 have:xs.findIdx p=i:=(List.findIdx_eq a).2 ⟨h,λj b=>by
  have h9:=yAx.1 hq xs[j] (by rw[List.mem_take_iff_getElem];exact⟨j,by omega,rfl⟩)
  simpa using h9⟩
 rw[this]
theorem CP{p:α->Bool}{xs:List α}(a:¬i<xs.length)(hq:pM p xs i):oQ p xs=-1:=by
 unfold oQ;rw[YR (by rw[HL a hq];decide)]
theorem CQ(p:α->Bool)(xs:List α):decide (0<=oQ p xs)=xs.any p:=by
 unfold oQ;split
 .rename_i h;rw[h];simp
 .rename_i h;rw[Bool.not_eq_true]at h;rw[h];rfl
end
theorem Ww(p:Mov×Mov->Bool)(xs:List (Mov×Mov))(g:FuncId)(x1 x2:PV)(f:xs.length<=9223372036854775807)(d:∀c∈xs,aS prog g [.pv (dG c),.pv (.rptr x1 0),.pv (.rptr x2 0)] [] [] (.pv (B (p c)))):aH 200 (.sl (xs.map dG)) (.fn (.func g) [] [.rptr x1 0,.rptr x2 0]) (Z (oQ p xs)):=by
 refine Dp func200 λC hP hN=>?_;refine Gz ?_;refine WP.loopN [] xs.length (λi st=>st.t 0=.pv (.sl (xs.map dG))/\st.t 1=.pv (.fn (.func g) [] [.rptr x1 0,.rptr x2 0])/\st.t 7=.pv (Z xs.length)/\st.t 8=.pv (Z i)/\pM p xs i) (by simp[tB]) ?_;rintro i st hi ⟨g0,g1,l,m,hq⟩;by_cases a:i<xs.length
 .have n:=ae a f
  have hn:=vQ a hq;have e:=CO a hq;have b:=d _ (Zd a);generalize j:xs[i]=c at *
  have k:xs[i]?=some c:=by rw[an a,j]
  generalize oQ p xs=r at *
  cases hp:p c with
  |true=>
   rw[hp]at b;rw[e hp];exact Gy
  |false=>
   rw[hp]at b;exact Gy
   all_goals exact hn hp
 .rw[CP a hq]
  exact Gy
theorem Wx(p:Mov×Mov->Bool)(xs:List (Mov×Mov))(g:FuncId)(x1 x2:PV)(b:xs.length<=9223372036854775807)(a:∀c∈xs,aS prog g [.pv (dG c),.pv (.rptr x1 0),.pv (.rptr x2 0)] [] [] (.pv (B (p c)))):aH 147 (.sl (xs.map dG)) (.fn (.func g) [] [.rptr x1 0,.rptr x2 0]) (B (xs.any p)):=by
 have d:=Ww p xs g x1 x2 b a;rw[<-CQ];refine Dp func147 λC hP hN=>?_;exact Gy
theorem SD(a b c d e f:Int):al prog (Op.equal 87 (.agg #[.int .i64 a,.int .i64 b,.int .i64 c]) (.agg #[.int .i64 d,.int .i64 e,.int .i64 f]))=some (a==d&&(b==e&&c==f)):=by
 have hf:(prog.fieldsOf 87).toList=[(prog.fieldsOf 87)[0]!,(prog.fieldsOf 87)[1]!,(prog.fieldsOf 87)[2]!]:=by kernel_rfl
 show al prog (Op.equalIn (9999+1) 87 _ _)=_;rw[wW 9999 87 _ _ (by kernel_rfl) (by kernel_rfl),hf]
 have h:=pd (P:=prog) (d:=9999) (xs:=#[.int .i64 a,.int .i64 b,.int .i64 c]) (ys:=#[.int .i64 d,.int .i64 e,.int .i64 f]) (f:=(prog.fieldsOf 87)[0]!) (fs:=[(prog.fieldsOf 87)[1]!,(prog.fieldsOf 87)[2]!]) (a:=.int .i64 a) (b:=.int .i64 d) (by decide +kernel) (by kernel_rfl) (by kernel_rfl) (qh 9998 _ .i64 .i64 a d (by kernel_rfl))
  (pd (by decide +kernel) (a:=.int .i64 b) (b:=.int .i64 e) (by kernel_rfl) (by kernel_rfl) (qh 9998 _ .i64 .i64 b e (by kernel_rfl)) (pd (by decide +kernel) (a:=.int .i64 c) (b:=.int .i64 f) (by kernel_rfl) (by kernel_rfl) (qh 9998 _ .i64 .i64 c f (by kernel_rfl)) EO))
 rw[h];simp
def Ji(x:AV):Option Mov:=match x with
 |.pv (.val (.agg d))=>match d.toList with
  |[.int .i64 a,.int .i64 b,.int .i64 c]=>some ⟨a,b,c⟩
  |_=>none
 |_=>none
theorem DH{x:AV}(h:Ji x=some m):x=.pv (dN m):=by
 unfold Ji at h;split at h
 .split at h
  .rename_i b _ c d e a
   injection h with h;subst h;rw[<-Array.toArray_toList (xs:=b),a]
  .cases h
 .cases h
theorem O9(a b:Mov):(a==b)=(a.a==b.a&&(a.f==b.f&&a.t==b.t)):=by
 obtain⟨a1,c,d⟩:=a;obtain⟨b1,e,g⟩:=b;rw[Bool.eq_iff_iff];simp
def MI(x y:AV)(fb:Option bP):Option bP:=match Ji x,Ji y with
 |some a,some b=>some (.pv (.val (.bool (a==b))),[])
 |_,_=>fb
@[simp] theorem Tm(a b c d e f:Int)(fb:Option bP):MI (.pv (.val (.agg #[.int .i64 a,.int .i64 b,.int .i64 c]))) (.pv (.val (.agg #[.int .i64 d,.int .i64 e,.int .i64 f]))) fb=some (.pv (.val (.bool ((⟨a,b,c⟩:Mov)==⟨d,e,f⟩))),[]):=rfl
@[simp] theorem X1{dst:Option Nat}{ty:TypeId}{pos:String}{aft:Array Edge}{g:Option (Nat×Bool)}{ρ:Operand->AV}(x y:Operand):
 aV prog ⟨dst,.binOp .eql 87 x y 87,ty,pos,aft,g⟩ ρ=MI (ρ x) (ρ y) (lD prog ⟨dst,.binOp .eql 87 x y 87,ty,pos,aft,g⟩ ρ):=by
 unfold MI;split
 .rename_i a b c d
  rw[O9];exact ve rfl (DH c) (DH d) (by kernel_rfl) (SD a.a a.f a.t b.a b.f b.t)
 .rfl
set_option maxRecDepth 20000 in
theorem Wy(a b:Mov)(c:Mov×Mov):gz 148 (dG c) (.rptr (dN a) 0) (.rptr (dN b) 0) (B (zH a b c)):=by
 obtain⟨a1,d,e⟩:=a;obtain⟨b1,f,g⟩:=b;obtain⟨⟨c1,i,j⟩,⟨d1,d2,d3⟩⟩:=c;refine Dp func148 λC hP hN=>?_;unfold zH;generalize k:((⟨c1,i,j⟩:Mov)==⟨a1,d,e⟩)=o;generalize l:((⟨d1,d2,d3⟩:Mov)==⟨b1,f,g⟩)=p;generalize m:((⟨c1,i,j⟩:Mov)==⟨b1,f,g⟩)=q;generalize n:((⟨d1,d2,d3⟩:Mov)==⟨a1,d,e⟩)=r;cases o<;>cases p<;>cases q<;>cases r
 all_goals skip
 with_reducible repeat' (first|refine Sp.h ?_|((first|refine Ss.h ?_|(refine Sb.h ?_ ?_ ?_<;>(try intro hgd)<;>try exact Xy))<;>simp -implicitDefEqProofs (maxSteps:=2000000) [hP,hN,k,l,m,n])|refine X2 ?_ ?_|(refine Xd ?_ ?_<;>intro hcd<;>try exact Xx))
theorem X3(t:eG)(a b:Mov)(d:t.conf.length<=9223372036854775807):gz 91 (lN t) (dN a) (dN b) (B (qR t a b)):=by
 have e:=Wx (zH a b) t.conf 148 (dN a) (dN b) d (λc _=>Wy a b c);refine Dp func91 λC hP hN=>?_;refine Gz ?_
 all_goals rfl
theorem l7(h:i<l.length):l[i]?=some l[i]:=an h
def CR(l:List Int)(i:Nat):Prop:=i<l.length/\oT l i=fY l
theorem Jj(h:0<l.length):CR l (l.length-1):=⟨by omega,rfl⟩
theorem KP(h:CR l (i+1))(e:l[i]?=l[i+1]?):CR l i:=⟨by have:=h.1;omega,by rw[<-h.2,oT,YY e]⟩
theorem MJ(h:CR l (i+1))(e:l[i]?≠l[i+1]?):fY l=i+1:=by rw[<-h.2,oT,YR e]
theorem KQ(h:CR l 0):fY l=0:=by rw[<-h.2];rfl
theorem X4(l:List Int)(x:l.length<=9223372036854775807):aT 38 (zs l) (Z (fY l)):=by
 by_cases f:0<l.length
 .have s:i64.wrap ((l.length:Int)-1)=((l.length-1:Nat):Int):=by rw[IntKind.wrap_i64];omega
  have k:(if(0:Int)>((l.length-1:Nat):Int)then(0:Int)else((l.length-1:Nat):Int))=((l.length-1:Nat):Int):=by split<;>omega
  have m:¬((l.length-1:Nat):Int)<0:=by omega
  have o:max ((l.length-1:Nat):Int) 0=((l.length-1:Nat):Int):=by omega
  have p:max 0 ((l.length-1:Nat):Int)=((l.length-1:Nat):Int):=by omega
  have q:=Jj f;generalize l.length-1=n at *;refine Dp func38 λC hP hN=>?_;refine Gz ?_;refine WP.loop [] (λst=>∃i:Nat,st.t 0=.pv (zs l)/\st.t 3=.pv (Z i)/\CR l i) (λst=>match st.t 3 with|.pv (.val (.int _ a))=>a.toNat|_=>0) (by exact⟨n,by simp[q]⟩) ?_;rintro st ⟨i,g0,g3,hq⟩;have hi:=hq.1
  cases i with
  |zero=>
   rw[KQ hq];exact Gy
  |succ i=>
   have h1:i<l.length:=by omega
   have a1:=l7 h1;have d:=l7 hi;have hn:=KP hq;have e:=MJ hq;obtain⟨j,g⟩:∃j,i+1=j:=⟨_,rfl⟩;simp only[g]at *
   have w1:i64.wrap ((j:Int)-1)=(i:Int):=by rw[IntKind.wrap_i64];omega
   have w2:¬(j:Int)<0:=by omega
   have u:0<(j:Int):=by omega
   have v:0<j:=by omega
   generalize b:l[i]=x1 at *;generalize c:l[j]=y at *;rw[a1,d]at hn e;generalize fY l=r at *
   with_reducible repeat' (first|refine Sp.h ?_|((first|refine Wd ?_|refine Ss.h ?_|(refine Sb.h ?_ ?_ ?_<;>(try intro hgd)<;>try exact Xy))<;>simp -implicitDefEqProofs (maxSteps:=2000000) [hP,hN,g0,g3,a1,d,w1,w2,u,v,h1,hi,b,c]<;>try refine Ya ?_)|refine X2 ?_ ?_|(refine Xd ?_ ?_<;>intro hcd<;>try exact Xx))
   all_goals first|exact⟨⟨i,rfl,hn (by simp_all)⟩,by omega⟩|(rw[e (by simp_all)];done)
 .have h9:l=[]:=Zn (by omega)
  subst h9;refine Dp func38 λC hP hN=>?_
  with_reducible repeat' (first|refine Sp.h ?_|((first|refine Wd ?_|refine Ss.h ?_|(refine Sb.h ?_ ?_ ?_<;>(try intro hgd)<;>try exact Xy))<;>simp -implicitDefEqProofs (maxSteps:=2000000) [hP,hN,show i64.wrap (0-1)=-1 by decide,show i64.wrap (-1)=-1 by decide,show max (-1:Int) 0=0 by decide]<;>try refine Ya ?_)|refine X2 ?_ ?_|(refine Xd ?_ ?_<;>intro hcd<;>try exact Xx))
  refine WP.loop [] (λst=>st.t 0=.pv (zs [])/\st.t 3=.pv (Z (0))) (λ_=>0) (by simp) ?_;rintro st ⟨g0,g3⟩;refine GT (gA g0 g3) ?_
  all_goals rfl
def yW(e:aG):Bool:=decide (0<=e.c)&&decide (e.c<=1099511627776)
def F9(n:Nat)(a:Int×Int)(e:aG):Bool:=decide (0<=e.u)&&(decide (e.u<e.v)&&(decide (e.v<n)&& !(decide (e.u<a.1)||(e.u==a.1&&decide (e.v<=a.2)))))
theorem Jk(n:Nat)(a:Int×Int)(e:aG):wq n a e=(yW e&&F9 n a e):=by
 unfold wq yW F9 t6;cases decide (0<=e.u)<;>cases decide (e.u<e.v)<;>cases decide (e.v<n)<;>cases decide (0<=e.c)<;>cases decide (e.c<=1099511627776)<;>simp
def Wz(n:Nat)(es:List aG)(i:Nat):Prop:=∀j e,j<i->es[j]?=some e->F9 n (jz es j) e=true
def sM(n:Nat)(es:List aG):Bool:=(List.range es.length).all λi=>match es[i]? with
 |some e=>F9 n (jz es i) e
 |none=>true
theorem As:sM n es=true↔Wz n es es.length:=by
 simp only[sM,L4,Zw];constructor
 .intro h j e b a
  have:=h j b;rw[a]at this;exact this
 .intro h i hi
  rw[an hi];exact h i _ hi (an hi)
theorem MK(n:Nat)(es:List aG):eH n (-1) (-1) es=(es.all yW&&sM n es):=by
 rw[Bool.eq_iff_iff,up,L4,As];constructor
 .intro h
  have h1:∀i e,es[i]?=some e->wq n (jz es i) e=true:=by
   intro i e a
   cases hb:wq n (jz es i) e with
   |true=>rfl
   |false=>have:=BF a hb;rw[h]at this;cases this
  refine⟨λe a=>?_,λj e _ a=>?_⟩
  .obtain⟨i,hi⟩:=Z6.1 a
   have:=h1 i e hi;rw[Jk,up]at this;exact this.1
  .have:=h1 j e a
   rw[Jk,up]at this;exact this.2
 .rintro⟨h1,h2⟩
  refine DF (i:=es.length) (λj e b a=>?_) (by omega);rw[Jk,up];exact⟨h1 e (An a),h2 j e b a⟩
def ML(m:eU):Bool:=sM m.np.length m.es&&(decide (m.np.length<=1024)&&decide (m.es.length<=8192))
theorem KR(m:eU):dt m=(m.es.all yW&&ML m):=by
 unfold dt ML;rw[MK];cases decide (m.np.length<=1024)<;>cases decide (m.es.length<=8192)<;>cases m.es.all yW<;>cases sM m.np.length m.es<;>rfl
end Go.Ab
