/- The contracts and facts that the laws of this seat need, in one text (AbI). -/
import Derived.Test.YtfpagjchfipjkaaGreatU2
import Derived.Sort.OwnSortedInts
set_option linter.all false
set_option maxRecDepth 10000
namespace Go.Ab
open IntKind (i64)
open Go.Sort
abbrev fH(zs:List Int):List PV:=zs.map λz=>.val (.int .i64 z)
section
variable {C:Cx} {L:Nat->Loc} {h:Hp} {w:World}
theorem G3(m:MemL C L h w){k e:Nat}{zs:List Int}(l:h k=some (.row e 1 (fH zs) 0))(o:zs≠[]):(L k).isNil=false/\∃arr,w.heap[(L k).b]?=some (.cells arr e (0,0))/\arr.size=(L k).cap/\zs.length<=(L k).cap/\(L k).cap<=maxLen/\arr.toList.take zs.length=zs.map (Value.int .i64):=by
 rcases oY m l with⟨_,j⟩|⟨h1,c,a,arr,g,d,h5⟩
 .exact absurd (List.map_eq_nil_iff.1 j) o
 .rw[ZB]at c
  rw[yAF]at d;refine⟨h1,arr,g,d,c,a,?_⟩;apply ZM;intro i;by_cases hi:i<zs.length
  .rw[List.getElem?_take_of_lt hi,ZU]
   obtain⟨u,f,n⟩:=h5 i (.val (.int .i64 zs[i])) 0 (.val (.int .i64 zs[i])) (by simp[hi]) (by simp[PV.cells,Value.cells]);rw[yAF,yA3]at f;rw[f,aK n];simp[hi]
  .rw[Zh (by rw[ZP];omega),Zh (by simp;omega)]
theorem MemL.sorted(s:MemL C L h w){k e n:Nat}{os:Array Obj}{zs zs':List Int}(q:h k=some (.row e 1 (fH zs) 0))(G:zs≠[])(E:zs'.length=zs.length):
 aH C L h w L (av h k (some (.row e 1 (fH zs') 0))) (Sort.grow (putRow (Value.int .i64) (Sort.ahead w n) (L k).b 0 zs'.toArray) os):=by
 obtain⟨hn,arr,A,B,h5,f,h6⟩:=G3 s q G;obtain⟨g1,g2,g3,g4,g5⟩:=grownBy_sortedI (w:=w) (g:=(L k).b) (n:=n) (os:=os) zs'.toArray;have D:=heap_sortedI (n:=n) (os:=os) zs'.toArray A
 refine s.touch q (λb r u=>g5 b r (λe=>u hn (ZQ e))) g4 g1 g2 g3 (λo v _ hf _=>by simp[Blk.frz]at hf) (λo hf=>by simp[Blk.frz]at hf)
  ⟨rfl,rfl,by simp[E],λ_=>rfl⟩ yAn (by have c:=s.own k _ q;exact c) ⟨Nat.one_pos,ZV _,?_,?_,λ_=>⟨by simp only[ZB];omega,f,_,D,?_,?_⟩⟩
 .intro x d;obtain⟨z,_,rfl⟩:=Zv.1 d;rfl
 .intro c;rw[hn]at c;cases c
 .simp[putCells,B]
 .intro i x j p d l
  simp only[fH,Y7,II]at d;obtain⟨z,a,rfl⟩:=d;have hi:=(th.1 a).1
  have m:j=0/\p=.val (.int .i64 z):=by
   cases j with
   |zero=>simp[PV.cells,Value.cells]at l;exact⟨rfl,l.symm⟩
   |succ j=>simp[PV.cells,Value.cells]at l
  obtain⟨rfl,rfl⟩:=m;refine⟨.int .i64 z,?_,.val _⟩
  have F:i<arr.size:=by omega
  have y:zs'[i]=z:=(th.1 a).2;simp[putCells,F,hi,y]
end
end Go.Ab
