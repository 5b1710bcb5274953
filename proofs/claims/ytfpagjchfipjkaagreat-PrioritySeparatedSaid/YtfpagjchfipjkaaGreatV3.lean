/- The contracts and facts that the laws of this seat need, in one text (AbI). -/
import Derived.Test.YtfpagjchfipjkaaGreatV2
import Derived.Sort.OwnSortedInts
set_option linter.all false
set_option maxRecDepth 10000
namespace Go.Ab
open IntKind (i64)
open Go.Sort
abbrev fI(zs:List Int):List PV:=zs.map λz=>.val (.int .i64 z)
section
variable {C:Cx} {L:Nat->Loc} {h:Hp} {w:World}
theorem G8(f:MemL C L h w){k e:Nat}{zs:List Int}(d:h k=some (.row e 1 (fI zs) 0))(j:zs≠[]):(L k).isNil=false/\∃arr,w.heap[(L k).b]?=some (.cells arr e (0,0))/\arr.size=(L k).cap/\zs.length<=(L k).cap/\(L k).cap<=maxLen/\arr.toList.take zs.length=zs.map (Value.int .i64):=by
 rcases o6 f d with⟨_,h9⟩|⟨h1,h2,a,arr,h3,h4,h5⟩
 .exact absurd (List.map_eq_nil_iff.1 h9) j
 .rw[Zm]at h2
  rw[yAr]at h4;refine⟨h1,arr,h3,h4,h2,a,?_⟩;apply Zx;intro i;by_cases hi:i<zs.length
  .rw[List.getElem?_take_of_lt hi,ZF]
   obtain⟨u,c,g⟩:=h5 i (.val (.int .i64 zs[i])) 0 (.val (.int .i64 zs[i])) (by simp[hi]) (by simp[PV.cells,Value.cells]);rw[yAr,yAP]at c;rw[c,aJ g];simp[hi]
  .rw[Y2 (by rw[ZA];omega),Y2 (by simp;omega)]
theorem MemL.sorted(r:MemL C L h w){k e n:Nat}{os:Array Obj}{zs zs':List Int}(m:h k=some (.row e 1 (fI zs) 0))(B:zs≠[])(y:zs'.length=zs.length):
 aF C L h w L (av h k (some (.row e 1 (fI zs') 0))) (Sort.grow (putRow (Value.int .i64) (Sort.ahead w n) (L k).b 0 zs'.toArray) os):=by
 obtain⟨hn,arr,h3,h4,h5,d,h6⟩:=G8 r m B;obtain⟨g1,g2,g3,g4,g5⟩:=grownBy_sortedI (w:=w) (g:=(L k).b) (n:=n) (os:=os) zs'.toArray;have hb:=heap_sortedI (n:=n) (os:=os) zs'.toArray h3
 refine r.touch m (λb q s=>g5 b q (λe=>s hn (ZB e))) g4 g1 g2 g3 (λo v _ hf _=>by simp[Blk.frz]at hf) (λo hf=>by simp[Blk.frz]at hf)
  ⟨rfl,rfl,by simp[y],λ_=>rfl⟩ Z8 (by have h9:=r.own k _ m;exact h9) ⟨Nat.one_pos,ZG _,?_,?_,λ_=>⟨by simp only[Zm];omega,d,_,hb,?_,?_⟩⟩
 .intro x c;obtain⟨z,_,rfl⟩:=Zg.1 c;rfl
 .intro h9;rw[hn]at h9;cases h9
 .simp[putCells,h4]
 .intro i x j p c f
  simp only[fI,YS,II]at c;obtain⟨z,a,rfl⟩:=c;have hi:=(th.1 a).1
  have l:j=0/\p=.val (.int .i64 z):=by
   cases j with
   |zero=>simp[PV.cells,Value.cells]at f;exact⟨rfl,f.symm⟩
   |succ j=>simp[PV.cells,Value.cells]at f
  obtain⟨rfl,rfl⟩:=l;refine⟨.int .i64 z,?_,.val _⟩
  have A:i<arr.size:=by omega
  have u:zs'[i]=z:=(th.1 a).2;simp[putCells,A,hi,u]
end
end Go.Ab
