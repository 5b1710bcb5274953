/- The contracts and facts that the laws of this seat need, in one text (Jn1, Cn3, Jn2, Ed1, AbP, Xr0, Ed2, Ed3, AbF, AbU, Cn4, Cn1, Cn5, Sq1, Cr5, K18, XrA, KR1, KR2, KR3, KR4, KR5, KR6, KR7, KR8, KR9, KR10, KR11, KR12, KR13, KR14). -/
import Derived.Test.YtfpagjchfipjkaaGreatV9
import Derived.Laws.Strings
set_option linter.all false
set_option maxRecDepth 10000
set_option maxHeartbeats 16000000
namespace Go.Ab
open IntKind (i64)
open Go.Proofs.Tryz
open Go.Proofs
variable {A s t:Sce}{D a a0 a1 a10 a11 a12 a13 a14 a15 a16 a17 a2 a3 a4 a5 a6 a7 a8 a9 b b0 b1 b2 b3 b4 b5 d v0 v1 v2 v3 v4 v5:Int}{K:St->Prop}{P:Program}{Pa Pb:List (List Int)}{Post:AV->Hp->Prop}{Q:Exit->St->Prop}{aft:Array Edge}{ats ts:Array TypeId}{bs:List Vc}{dst:Option Nat}{f:Operand}{g:Option (Nat×Bool)}{h:Hp}{hn:List Nat}{i id j k m n u v:Nat}{js:List J}{l:List Sce}{l':Array Bool}{o:Oper}{ops:Array Oper}{out out':List Pc}{p q ws:List Int}{pos:String}{post pre:List Oper}{r r':EdR}{rs:List ResultVar}{st:St}{ty:TypeId}{us:List Mov}{x y:Vc}{xs:List Operand}{α:Type}{ρ:Operand->AV}
def qm(b v:Vc):Vc:=(wr (v.1+b.1),wr (v.2.1+b.2.1),wr (v.2.2+b.2.2))
def kZ(n l:Int):Int:=if l=-1 then l else l+n
def gg(k n:Nat)(b:Vc)(j:J):J:={j with
 name:=bQ k++j.name
 parent:=kZ n j.parent
 ox:=if j.parent=-1 then wr (j.ox+b.1)else j.ox
 oy:=if j.parent=-1 then wr (j.oy+b.2.1)else j.oy
 oz:=if j.parent=-1 then wr (j.oz+b.2.2)else j.oz}
def oY(n:Nat)(m:Ms):Ms:={m with link:=m.link+n}
def jM(n:Nat)(b:Vc)(h:Sh):Sh:=⟨kZ n h.link,h.rad,if h.link=-1 then h.pts.map (qm b)else h.pts⟩
def ov(n:Nat)(x:Int×Int):Int×Int:=(kZ n x.1,kZ n x.2)
def fD(k:Nat)(A s:Sce)(b:Vc):Sce:=⟨A.js++s.js.map (gg k A.js.length b),A.ms++s.ms.map (oY A.js.length),A.shs++s.shs.map (jM A.js.length b),A.sks++s.sks.map (ov A.js.length)⟩
def bM(l:List Sce)(bs:List Vc):Nat->Sce
 |0=>⟨[],[],[],[]⟩
 |k+1=>match l[k]?,bs[k]? with
  |some s,some b=>fD k (bM l bs k) s b
  |_,_=>bM l bs k
def fL(l:List Int):Int:=match l.find? (λe=>e !=0)with
 |some e=>e
 |none=>0
def gx(l:List Sce)(bs:List Vc):Int:=if l.length<1\/4<l.length\/bs.length≠l.length then 3501 else if fL (l.map ao)≠0 then fL (l.map ao)else if ao (bM l bs l.length)=0 then 0 else 3502
def gl(l:List Sce)(bs:List Vc):Sce:=if gx l bs=0 then bM l bs l.length else⟨[],[],[],[]⟩
theorem tU{l:List Int}(h:fL l=0):∀e∈l,e=0:=by
 intro e a;unfold fL at h
 cases hf:l.find? (λe=>e !=0)with
 |none=>
  have:=Z2.1 hf e a;simpa using this
 |some x=>
  rw[hf]at h;have:=yAv hf;simp at h this;exact absurd h this
theorem Bj{l:List Int}(h:∀e∈l,e=0):fL l=0:=by
 unfold fL;rw[Z2.2 (λe a=>by simp[h e a])]
theorem fN{j:J}:bI js i j=0↔fk j.name=true/\mX js i j.name=false/\(0<=j.kind/\j.kind<=6)/\(-1<=j.parent/\j.parent<i)/\eO j.ox j.oy j.oz 4194304=true/\¬(j.hi<j.lo\/j.lo< -dp j.kind\/dp j.kind<j.hi)/\(aP j.w 1 1024&&aP j.sp 1 1048576&&aP j.ac 1 1048576&&aP j.tq 1 1099511627776)=true:=by
 unfold bI;constructor
 .intro h
  split at h;·cases h
  rename_i h1
  split at h;·cases h
  rename_i h2
  split at h;·cases h
  rename_i h3
  split at h;·cases h
  rename_i h4
  split at h;·cases h
  rename_i h5
  split at h;·cases h
  rename_i h6;simp only[ZI,Zv,not_or,Bool.not_eq_true,Bool.not_eq_false]at h1 h4 h6;exact⟨h1.1,h1.2,by omega,by omega,h4,h5,h6⟩
 .rintro⟨h1,h2,h3,h4,h5,h6,h7⟩
  rw[YR (by simp[h1,h2]),YR (by omega),YR (by omega),YR (by simp[h5]),YR h6,YR (by simp[h7])]
structure ScOk(s:Sce):Prop where
 n1:1<=s.js.length
 n2:s.js.length<=10
 j:∀(i:Nat) j,s.js[i]?=some j->bI s.js i j=0
 m1:s.ms.length<=32
 m:∀x∈s.ms,dS s.js.length x=true
 h1:s.shs.length<=24
 h:∀x∈s.shs,bz s.js.length x=0
 k1:s.sks.length<=64
 k:∀x∈s.sks,gF s.js.length x=true
theorem xr(o:ScOk s):ao s=0:=by
 have h1:jd s.js=0:=vj o.j;have h2:gu s.js.length s.shs=0:=sD λk x a=>o.h x (An a)
 have h3:(s.ms.any λm=>!dS s.js.length m)=false:=by
  rw[yAx];intro x a;simp[o.m x a]
 have h4:aR s.js s.ms=0:=by
  unfold aR;have:=o.n1;have:=o.n2;have:=o.m1;rw[YR (by omega),YR (by simp[h1]),YR (by rw[h3];simp;omega)]
 unfold ao;have:=o.h1;have:=o.k1;rw[YR (by simp[h4]),YR (by omega),YR (by simp[h2]),YR (by omega),YY (L4.2 o.k)]
theorem k9(h:ao s=0):ScOk s:=by
 unfold ao at h
 split at h;·rename_i h9;exact absurd h h9
 rename_i a1
 split at h;·cases h
 rename_i a2
 split at h;·rename_i h9;exact absurd h h9
 rename_i a3
 split at h;·cases h
 rename_i a4;split at h
 case isFalse=>cases h
 rename_i a5;have b:=Decidable.not_not.1 a1;unfold aR at b
 split at b;·cases b
 rename_i b1
 split at b;·rename_i h9;exact absurd b h9
 rename_i b2
 split at b;·cases b
 rename_i b3;simp only[ZI,Is,not_or,Bool.not_eq_true]at b3;refine⟨by omega,by omega,λi j f=>?_,by omega,λx a=>?_,by omega,λx a=>?_,by omega,L4.1 a5⟩
 .have d:=Decidable.not_not.1 b2
  have c:=tU (l:=s.js.mapIdx (bI s.js)) d;exact c _ (by rw[List.mem_mapIdx];obtain⟨hi,e⟩:=th.1 f;exact⟨i,hi,by rw[e]⟩)
 .have:=yAx.1 b3.2 x a
  simpa using this
 .have c:=tU (l:=s.shs.map (bz s.js.length)) (Decidable.not_not.1 a3)
  exact c _ (List.mem_map_of_mem a)
theorem Bk(h:gx l bs=0):1<=l.length/\l.length<=4/\bs.length=l.length/\(∀s∈l,ao s=0)/\ao (bM l bs l.length)=0:=by
 unfold gx at h
 split at h;·cases h
 rename_i h1
 split at h;·rename_i h9;exact absurd h h9
 rename_i h2;split at h
 case isFalse=>cases h
 rename_i h3;refine⟨by omega,by omega,by omega,λs a=>?_,h3⟩;exact tU (Decidable.not_not.1 h2) _ (List.mem_map_of_mem a)
theorem Bl(k:Nat)(s:ByteArray):(bQ k++s).toList=UInt8.ofNat (97+k)::s.toList:=by
 rw[ByteArray.toList_eq,ByteArray.toList_eq,ByteArray.data_append];simp[bQ]
theorem Hl{c:Nat}(e:k<4)(d:c<4)(s t:ByteArray):jc (bQ k++s) (bQ c++t)=(decide (k=c)&&jc s t):=by
 have h:(UInt8.ofNat (97+k)==UInt8.ofNat (97+c))=decide (k=c):=by
  have:∀a b:_root_.Fin 4,(UInt8.ofNat (97+a.1)==UInt8.ofNat (97+b.1))=decide (a.1=b.1):=by decide
  exact this ⟨k,e⟩ ⟨c,d⟩
 simp only[jc,Bl,List.cons_beq_cons,h]
theorem Ot{b:Nat}(h:gi i b=true):gi (i+1) b=true:=by
 simp only[gi,ZI,up]at *;rcases h with h|h
 .exact .inl h
 .exact .inr ⟨by simp,h.2⟩
theorem Fh(d:k<4){s:ByteArray}(h:fk s=true):fk (bQ k++s)=decide (s.size<=15):=by
 have c:(bQ k++s).size=1+s.size:=by rw[ByteArray.size_append];rfl
 simp only[fk,up,Is]at h;obtain⟨⟨⟨h1,h2⟩,h3⟩,h4⟩:=h
 have e:eD (bQ k++s)=true:=by
  refine tQ λi hi=>?_;rcases i with _|i
  .rw[ByteArray.getElem_append_left (by rw[show(bQ k).size=1 from rfl];omega)]
   have:∀a:_root_.Fin 4,gi 0 (UInt8.ofNat (97+a.1)).toNat=true:=by decide
   exact this ⟨k,d⟩
  .rw[ByteArray.getElem_append_right (by rw[show(bQ k).size=1 from rfl];omega)]
   simp only[show(bQ k).size=1 from rfl,Nat.add_sub_cancel];refine Ot ?_;simp only[eD,L4,Zw]at h4
   have b:i<s.size:=by omega
   have:=h4 i b
   rwa [getElem!_pos s i b]at this
 have f:((bQ k++s).toList==[119,111,114,108,100])=false:=by
  rw[Bl,List.cons_beq_cons]
  have:∀a:_root_.Fin 4,(UInt8.ofNat (97+a.1)==119)=false:=by decide
  rw[this ⟨k,d⟩];rfl
 simp only[fk,c,e,f];rw[Bool.eq_iff_iff];simp;omega
theorem vp{b:Vc}(h:l[k]?=some s)(h':bs[k]?=some b):bM l bs (k+1)=fD k (bM l bs k) s b:=by
 rw[bM,h,h']
structure Part(a:Nat)(x:Vc)(s A:Sce):Prop where
 pj:∃n0:Nat,(∀j∈s.js,gg a n0 x j∈A.js)/\∀h∈s.shs,jM n0 x h∈A.shs
 lj:s.js.length<=A.js.length
 lm:s.ms.length<=A.ms.length
 lh:s.shs.length<=A.shs.length
 lk:s.sks.length<=A.sks.length
theorem Kk{a:Nat}(h:Part a x s (bM l bs k)):Part a x s (bM l bs (k+1)):=by
 rw[bM];split
 .obtain⟨⟨d,h1,h2⟩,h3,h4,h5,h6⟩:=h
  refine⟨⟨d,λj b=>yAB _ (h1 j b),λy c=>yAB _ (h2 y c)⟩,?_,?_,?_,?_⟩<;>simp only[fD,Zb]<;>omega
 .exact h
theorem yD{l:List Sce}{bs:List Vc}{a:Nat}{x:Vc}{s:Sce}(h:l[a]?=some s)(h':bs[a]?=some x):∀k,a<k->Part a x s (bM l bs k)
 |0,c=>by omega
 |k+1,c=>by
  by_cases e:a=k
  .subst e
   rw[vp h h'];refine⟨⟨(bM l bs a).js.length,λj b=>List.mem_append_right _ (List.mem_map_of_mem b),λy d=>List.mem_append_right _ (List.mem_map_of_mem d)⟩,?_,?_,?_,?_⟩<;>simp[fD]
  .exact Kk (yD h h' k (by omega))
theorem Hm{l:List Sce}{bs:List Vc}{a b:Nat}{x y:Vc}{s t:Sce}(hs:l[a]?=some s)(f:bs[a]?=some x)(d:l[b]?=some t)(g:bs[b]?=some y)(c:a<b):∀k,b<k->s.js.length+t.js.length<=(bM l bs k).js.length/\s.ms.length+t.ms.length<=(bM l bs k).ms.length/\s.shs.length+t.shs.length<=(bM l bs k).shs.length/\s.sks.length+t.sks.length<=(bM l bs k).sks.length
 |0,i=>by omega
 |k+1,i=>by
  by_cases e:b=k
  .subst e
   have p:=yD hs f b c;have:=p.lj;have:=p.lm;have:=p.lh;have:=p.lk;rw[vp d g];simp only[fD,Zb,Zm];omega
  .have:=Hm hs f d g c k (by omega)
   rw[bM];split
   .simp only[fD,Zb];omega
   .exact this
theorem LS{a n0:Nat}{j:J}(ha:a<4)(b:fk j.name=true)(h:bI js i (gg a n0 x j)=0):j.name.size<=15/\eO (gg a n0 x j).ox (gg a n0 x j).oy (gg a n0 x j).oz 4194304=true:=by
 obtain⟨h1,_,_,_,h5,_⟩:=fN.1 h;rw[show(gg a n0 x j).name=bQ a++j.name from rfl,Fh ha b]at h1;exact⟨by simpa using h1,h5⟩
theorem Nz{a:Nat}(hs:ScOk s)(c:ScOk A)(ha:a<4)(p:Part a x s A):∀(i:Nat) j,s.js[i]?=some j->j.name.size<=15/\eO (gg 0 0 x j).ox (gg 0 0 x j).oy (gg 0 0 x j).oz 4194304=true:=by
 intro i j b;obtain⟨n0,h1,_⟩:=p.pj;obtain⟨q,hq⟩:=Zq (h1 j (An b));have h9:=LS (n0:=n0) ha (fN.1 (hs.j i j b)).1 (c.j q _ hq);exact h9
theorem NA{a:Nat}(hs:ScOk s)(e:ScOk A)(p:Part a x s A)(f:n+s.js.length<=m):∀h∈s.shs,bz m (jM n x h)=0:=by
 intro h d;obtain⟨g,_,h2⟩:=p.pj;have c:=hs.h h d;have b:=e.h _ (h2 h d);unfold bz at c b|-;split at c
 case isFalse=>cases c
 rename_i g1;split at b
 case isFalse=>cases b
 rename_i g2;split at b
 case isFalse=>cases b
 rename_i g3;simp only[up,Is]at g1 g2;rw[YY,YY]
 .exact g3
 .simp only[up,Is]
  refine⟨⟨⟨⟨?_,g2.1.1.1.2⟩,g2.1.1.2⟩,g2.1.2⟩,g2.2⟩;have:=g1.1.1.1.1;simp only[bJ,up,Is]at this|-;simp only[jM,kZ];split<;>omega
theorem yE{l:Int}(h:bJ k l=true)(a:n+k<=m):bJ m (kZ n l)=true:=by
 simp only[bJ,up,Is]at *;simp only[kZ];split<;>omega
theorem Hn{x:Ms}(h:dS k x=true)(a:n+k<=m):dS m (oY n x)=true:=by
 simp only[dS,oY,up,Is]at *;obtain⟨⟨⟨h1,h2⟩,h3⟩,h4⟩:=h;exact⟨⟨⟨Zs (by omega),Zs (by omega)⟩,h3⟩,h4⟩
theorem Ho(a:k<4){nm:ByteArray}:((js.map (gg k n x)).take i).any (λj=>jc j.name (bQ k++nm))=mX js i nm:=by
 unfold mX;rw[<-List.map_take,List.any_map]
 congr 1
 funext j
 simp only[Function.comp];rw[show(gg k n x j).name=bQ k++j.name from rfl,Hl a a];simp
theorem Hq(R:gx l bs=0){a b:Nat}(hs:l[a]?=some s)(K:bs[a]?=some x)(o:l[b]?=some t)(L:bs[b]?=some y)(I:a<b):gx [s,t] [x,y]=0:=by
 obtain⟨g1,g2,g3,g4,g5⟩:=Bk R;have n:b<l.length:=(th.1 o).1;have os:=k9 (g4 s (An hs));have p:=k9 (g4 t (An o));have g:=k9 g5;have M:=yD hs K l.length (by omega);have N:=yD o L l.length n;obtain⟨n1,n2,T,U⟩:=Hm hs K o L I l.length n;generalize bM l bs l.length=A at *
 have hP:bM [s,t] [x,y] 2=⟨s.js.map (gg 0 0 x)++t.js.map (gg 1 s.js.length y),s.ms.map (oY 0)++t.ms.map (oY s.js.length),s.shs.map (jM 0 x)++t.shs.map (jM s.js.length y),s.sks.map (ov 0)++t.sks.map (ov s.js.length)⟩:=by
  simp[bM,fD]
 have Q:fL ([s,t].map ao)=0:=Bj (by
  intro e J;simp at J;rcases J with rfl|rfl
  .exact g4 s (An hs)
  .exact g4 t (An o))
 unfold gx;rw[YR (by simp),YR (by rw[Q];simp)];rw[YY];show ao (bM [s,t] [x,y] 2)=0;rw[hP];have S:=g.n2;have:=g.m1;have:=g.h1;have:=g.k1;have:=os.n1;refine xr ⟨?_,?_,λi j c=>?_,?_,λm B=>?_,?_,λh u=>?_,?_,λk z=>?_⟩
 .simp only[Zb,Zm];omega
 .simp only[Zb,Zm];omega
 .simp only at c|-
  rw[List.getElem?_append]at c;simp only[Zm]at c;split at c
  .rename_i hi
   rw[YS]at c
   cases d:s.js[i]? with
   |none=>rw[d]at c;cases c
   |some v=>
    rw[d]at c;injection c with c;subst c;obtain⟨c1,C⟩:=Nz os g (by omega) M i v d;obtain⟨D,E,F,O,P,G,H⟩:=fN.1 (os.j i v d);refine fN.2 ⟨?_,?_,F,?_,C,G,H⟩
    .rw[show(gg 0 0 x v).name=bQ 0++v.name from rfl,Fh (by omega) D];simpa using c1
    .unfold mX
     rw[List.take_append_of_le_length (by simp;omega)];exact(Ho (by omega)).trans E
    .simp only[gg,kZ];split<;>omega
  .rename_i hi
   rw[YS]at c
   cases d:t.js[i-s.js.length]? with
   |none=>rw[d]at c;cases c
   |some v=>
    rw[d]at c;injection c with c;subst c;obtain⟨c1,C⟩:=Nz p g (by omega) N _ v d;obtain⟨D,E,F,O,P,G,H⟩:=fN.1 (p.j _ v d);refine fN.2 ⟨?_,?_,F,?_,C,G,H⟩
    .rw[show(gg 1 s.js.length y v).name=bQ 1++v.name from rfl,Fh (by omega) D];simpa using c1
    .unfold mX
     rw[List.take_append,List.any_append,Z5];refine⟨?_,?_⟩
     .rw[yAx]
      intro q hq;have hq:=yAA hq;obtain⟨r,_,rfl⟩:=Zg.1 hq;rw[show(gg 0 0 x r).name=bQ 0++r.name from rfl,show(gg 1 s.js.length y v).name=bQ 1++v.name from rfl,Hl (by omega) (by omega)];simp
     .rw[Zm]
      exact(Ho (by omega)).trans E
    .simp only[gg,kZ];split<;>omega
 .simp only[Zb,Zm];omega
 .simp only[Zb,Zm]
  rcases Y7.1 B with B|B<;>obtain⟨r,f,rfl⟩:=Zg.1 B
  .exact Hn (os.m r f) (by omega)
  .exact Hn (p.m r f) (by omega)
 .simp only[Zb,Zm];omega
 .simp only[Zb,Zm]
  rcases Y7.1 u with u|u<;>obtain⟨r,f,rfl⟩:=Zg.1 u
  .exact NA os g M (by omega) r f
  .exact NA p g N (by omega) r f
 .simp only[Zb,Zm];omega
 .simp only[Zb,Zm]
  rcases Y7.1 z with z|z<;>obtain⟨r,f,rfl⟩:=Zg.1 z
  .have:=os.k r f
   simp only[gF,up]at this|-;exact⟨yE this.1 (by omega),yE this.2 (by omega)⟩
  .have:=p.k r f
   simp only[gF,up]at this|-;exact⟨yE this.1 (by omega),yE this.2 (by omega)⟩
theorem Xc(h:ao s=0):aR s.js s.ms=0:=Decidable.byContradiction λhn=>by
 unfold ao at h;rw[YY hn]at h;exact hn h
structure NearJ(j:J)(a:Int):Prop where
 lo:-4194304<=a
 hi:a<=4194304
 w1:1<=j.w
 w2:j.w<=1024
theorem Lz{j:J}(h:NearJ j a)(h':NearJ j b):0<=vk j a b/\vk j a b<=8589934592:=by
 obtain⟨a1,a2,w1,w2⟩:=h;obtain⟨b1,b2,_,_⟩:=h';unfold vk;rw[aa (n:=b-a) (by omega) (by omega),aa (n:=a-b) (by omega) (by omega)]
 have m0:0<=max (b-a) (a-b):=by omega
 have m1:max (b-a) (a-b)<=8388608:=by omega
 generalize max (b-a) (a-b)=z at *;have c:0<=j.w*z:=ZT (by omega) m0;have d:j.w*z<=1024*8388608:=yA9 w2 m1 m0 (by decide);rw[aa (n:=j.w*z) (by omega) (by omega)];omega
theorem E6{js:List J}{p q:List Int}(hp:∀(i:Nat) j a,js[i]?=some j->p[i]?=some a->NearJ j a)(hq:∀(i:Nat) j a,js[i]?=some j->q[i]?=some a->NearJ j a):∀i,i<=10->0<=jD js p q i/\jD js p q i<=8589934592*i
 |0,_=>by simp[jD]
 |i+1,hi=>by
  have ih:=E6 hp hq i (by omega);rw[jD];split
  .rename_i j a b c d e
   have:=Lz (hp i j a c d) (hq i j b c e);rw[aa (by omega) (by omega)];omega
  .omega
theorem zw(o:ScOk s){x:List Int}(h:aX s.js s.ms x=true):∀(i:Nat) j a,s.js[i]?=some j->x[i]?=some a->NearJ j a:=by
 intro i j a e ha;simp only[aX,up,Is]at h;obtain⟨hi,d⟩:=th.1 e;obtain⟨c,b⟩:=th.1 ha;have h1:=Lt.1 h.2 i hi c;rw[d,b]at h1;simp only[oX,up,Is]at h1;obtain⟨_,_,_,_,_,h6,h7⟩:=fN.1 (o.j i j e);have f:=tR j.kind;simp only[up,aP,Is]at h7;exact⟨by omega,by omega,by omega,by omega⟩
theorem Oj(o:ScOk s){x y:List Int}(a:aX s.js s.ms x=true)(b:aX s.js s.ms y=true):0<=eV s.js s.ms x y/\eV s.js s.ms x y<=1099511627776:=by
 unfold eV;split
 .have:=E6 (zw o a) (zw o b) s.js.length o.n2
  have:=o.n2;omega
 .omega
theorem r8{ms:List Ms}{P:List (List Int)}{es:List aG}(h:nE js ms P es=true):P.length<=1024/\es.length<=8192/\DN js ms P=true/\sM P.length es=true/\∀e∈es,jB js ms P e=true:=by
 unfold nE at h;simp only[up,Is]at h;obtain⟨_,h1,h2,h3,h4,h5⟩:=h;exact⟨h1,h2,h3,h4,L4.1 h5⟩
theorem He(b:ao s=0){P:List (List Int)}{es:List aG}(h:nE s.js s.ms P es=true):dt ⟨P.map zs,es⟩=true:=by
 obtain⟨h1,h2,h3,h4,h5⟩:=r8 h;have o:=k9 b;rw[KR,up];refine⟨L4.2 λe c=>?_,?_⟩
 .have h6:=h5 e c
  have h7:=(vV h6).1;simp only[jB,up,Is]at h6;simp only[pP,gp,up,Is]at h7
  have a:∀u:Int,0<=u->u<P.length->bF P u∈P:=λu f d=>by
   have:u.toNat<P.length:=by omega
   rw[bF,an this];exact Zd _
  have hd:=Oj o (ro h3 _ (a e.u (by omega) (by omega))) (ro h3 _ (a e.v (by omega) (by omega)));rw[<-h6.2.2.1]at hd;simp only[yW,up,Is];exact hd
 .unfold ML
  simp only[Zm,h4,Zs h1,Zs h2,Z9]
theorem LC{β:Type}{f:α->β->Bool}{a b:List α}{c d:List β}(h:a.length=c.length):jL f (a++b) (c++d)=(jL f a c&&jL f b d):=by
 unfold jL;rw[List.zipWith_append h,List.all_append]
theorem Cg{k n:Nat}{x:Vc}:∀{js:List J}{p:List Int},jL oX (js.map (gg k n x)) p=jL oX js p
 |[],_=>rfl
 |j::js,[]=>rfl
 |j::js,a::p=>by
  have ih:=Cg (k:=k) (n:=n) (x:=x) (js:=js) (p:=p);unfold jL at ih|-;simp only[Z0,List.zipWith_cons_cons,List.all_cons,ih];rfl
theorem E7(h:gx [s,t] [x,y]=0):ao (gl [s,t] [x,y])=0/\(gl [s,t] [x,y]).js=s.js.map (gg 0 0 x)++t.js.map (gg 1 s.js.length y):=by
 have h5:=(Bk h).2.2.2.2;unfold gl;rw[YY h];refine⟨h5,?_⟩;simp[bM,fD]
theorem xg(h:gx [s,t] [x,y]=0)(hp:aX s.js s.ms p=true)(hq:aX t.js t.ms q=true):aX (gl [s,t] [x,y]).js (gl [s,t] [x,y]).ms (p++q)=true:=by
 obtain⟨h1,h2⟩:=E7 h;have h3:=Xc h1;simp only[aX,up,Is]at hp hq|-;refine⟨⟨h3,?_⟩,?_⟩
 .rw[h2];simp only[Zb,Zm];omega
 .rw[h2,LC (by rw[Zm];exact hp.1.2),Cg,Cg,hp.2,hq.2];rfl
abbrev sf(k n:Nat)(b:Vc):PV:=.val (.agg #[.string (bQ k),.int .i64 n,.int .i64 b.1,.int .i64 b.2.1,.int .i64 b.2.2])
theorem Fi(k n:Nat)(b:Vc)(l:Int)(a:i64.wrap (l+n)=l+n):aH 104 (sf k n b) (Z l) (Z (kZ n l)):=by
 by_cases h:l=-1
 .rw[show kZ n l=l from YY h]
  refine Dp func104 λC hP hN=>?_;exact Gy
 .rw[show kZ n l=l+n from YR h]
  have h':(l==-1)=false:=by simp[h]
  refine Dp func104 λC hP hN=>?_;exact Gy
theorem NB(n:Nat)(l:Int)(a:i64.wrap (l+n)=l+n):aH 40 (Z l) (Z (n:Int)) (Z (kZ n l)):=by
 by_cases h:l=-1
 .rw[show kZ n l=l from YY h]
  refine Dp func40 λC hP hN=>?_;exact Gy
 .rw[show kZ n l=l+n from YR h]
  have h':(l==-1)=false:=by simp[h]
  refine Dp func40 λC hP hN=>?_;exact Gy
theorem RY(h:i<=3):i=0\/i=1\/i=2\/i=3:=by omega
theorem Qf(k n:Nat)(b v:Vc)(l:Int):gz 103 (sf k n b) (ai v) (Z l) (ai (if l=-1 then qm b v else v)):=by
 by_cases h:l=-1
 .rw[YY h]
  refine Dp func103 λC hP hN=>?_;refine Gz ?_;refine WP.loopN [] 3 (λi st=>st.t 4=.ptr 4 0/\st.h 4=some (.box [.pv (Z (if 0<i then wr (v.1+b.1)else v.1)),.pv (Z (if 1<i then wr (v.2.1+b.2.1)else v.2.1)),.pv (Z (if 2<i then wr (v.2.2+b.2.2)else v.2.2))] true false)/\st.t 6=.ptr 6 0/\st.h 6=some (.box [.pv (Z 0),.pv (Z 0),.pv (Z 0)] true false)/\st.t 12=.pv (ai b)/\st.t 13=.pv (Z i)) (by simp) ?_;rintro i st hi ⟨g4,b4,d,b6,a,c⟩;rcases RY hi with rfl|rfl|rfl|rfl
  all_goals
   simp only[show¬0<0 by decide,show 0<1 by decide,show¬1<1 by decide,show¬1<0 by decide,show¬2<0 by decide,show¬2<1 by decide,show¬2<2 by decide,show 0<2 by decide,show 1<2 by decide,show 0<3 by decide,show 1<3 by decide,show 2<3 by decide,Za,Y5]at b4;exact GS (zAa g4 b4 d b6 a c @qm.eq_1 @Se @Sf @Sg)
 .rw[YR h]
  have h':(l==-1)=false:=by simp[h]
  refine Dp func103 λC hP hN=>?_;exact Gy
def sq(xs:List PV)(f:α->PV)(l:List α)(i:Nat):List PV:=xs++(l.take i).map f
section
variable {α:Type} {xs:List PV} {f:α->PV} {l:List α}
theorem lG:sq xs f l 0=xs:=by simp[sq]
theorem ow(h:i<=l.length):(sq xs f l i).length=xs.length+i:=by simp[sq];omega
theorem lH{a:α}(h:l[i]?=some a):sq xs f l (i+1)=sq xs f l i++[f a]:=by
 obtain⟨hi,b⟩:=th.1 h;simp[sq,ZC hi,b]
theorem oB:sq xs f l l.length=xs++l.map f:=by simp[sq]
end
theorem S7(h:Sh)(l:Int)(b:Vc)(hp:h.pts.length<=1000):gz 41 (ba h) (Z l) (ai b) (ba ⟨l,h.rad,h.pts.map (qm b)⟩):=by
 have hL:=λ(i:Nat)(hi:i<=h.pts.length)=>ow (xs:=[]) (f:=λv=>ai (qm b v)) hi;have hS:=λ(i:Nat)(a:Vc)(ha:h.pts[i]?=some a)=>lH (xs:=[]) (f:=λv=>ai (qm b v)) ha
 have q:sq [] (λv=>ai (qm b v)) h.pts h.pts.length=(h.pts.map (qm b)).map ai:=by rw[oB];simp
 have A:sq [] (λv=>ai (qm b v)) h.pts 0=[]:=lG;show gz _ _ _ _ (.agg [Z l,Z h.rad,.sl ((h.pts.map (qm b)).map ai)]);rw[<-q];generalize sq [] (λv=>ai (qm b v)) h.pts=S at *;obtain⟨B,g,d⟩:=h;simp only[yAI,ZS]at hp hL hS q;refine Dp func41 λC hP hN=>?_
 with_reducible iterate 4 any_goals (first|refine Sp.h ?_|((first|refine Ss.h ?_|(refine Sb.h ?_ ?_ ?_<;>(try intro hgd)<;>try exact Xy))<;>simp -implicitDefEqProofs (maxSteps:=2000000) [hP,hN])|refine X2 ?_ ?_|(refine Xd ?_ ?_<;>intro hcd<;>try exact Xx))
 refine WP.nilRowsE (λk=>decide (k=45)) (λ_=>(60,3)) 7 (cs:=[.pv (Z l),.pv (Z g),.pv (.val (.slice none 0 0))]) (cs':=[.pv (Z l),.pv (Z g),.arr 45 0]) (own:=true) (fb:=false) (by simp) ?_ rfl ?_ ?_
 .intro k o
  have o:=of_decide_eq_true o;subst o;simp
 .intro i x e
  rcases i with _|_|_|i<;>simp at e<;>subst e<;>simp
 refine Gz ?_;refine WP.loopN [9] d.length (λi st=>st.t 3=.ptr 3 0/\st.h 3=some (.box [.pv (Z B),.pv (Z g),.pv (aB d)] true false)/\st.t 5=.ptr 5 0/\st.h 5=some (.box [.pv (Z b.1),.pv (Z b.2.1),.pv (Z b.2.2)] true false)/\st.t 6=.ptr 6 0/\st.h 6=some (.box [.pv (Z 0),.pv (Z 0),.pv (.val (.slice none 0 0))] true false)/\st.t 7=.ptr 7 0/\st.h 7=some (.box [.pv (Z l),.pv (Z g),.arr 45 i] true false)/\st.h 45=some (.row 60 3 (S i) 0)/\st.t 8=.pv (Z i)/\st.h 9=none) (by simp[A]) ?_;rintro i st hi ⟨g3,b3,g5,b5,u,b6,y,r,j,z,s⟩;have m:=hL i hi;by_cases c:i<d.length
 .have D:=ae c (by omega)
  have e:d[i]?=some d[i]:=an c;generalize p:d[i]=v at *;have h1:=hS i v e
  have E:(i+1)*24<=140737488355328:=by omega
  have F:i+1<=9223372036854775807:=by omega
  exact GS (zAc g3 b3 g5 b5 u b6 y r j z s m c D (so e p E F h1 @qm.eq_1))
 .have n:i=d.length:=by omega
  subst n;exact Gy
def wj(ls:List (List Int))(i:Nat):List Int:=(ls.take i).flatten
theorem Fj{ls:List (List Int)}{x:List Int}(h:ls[i]?=some x):wj ls (i+1)=wj ls i++x:=by
 obtain⟨hi,a⟩:=th.1 h;simp[wj,ZC hi,a]
theorem Kl(ls:List (List Int))(i:Nat):(wj ls i).length<=ls.flatten.length:=by
 have:ls.flatten=wj ls i++(ls.drop i).flatten:=by rw[wj,<-List.flatten_append,ZQ]
 rw[this,Zb];omega
theorem Hr(ls:List (List Int)):wj ls ls.length=ls.flatten:=by rw[wj,yAE]
theorem Uq(ls:List (List Int))(hn:ls.length<=1000000)(l:ls.flatten.length<=1000000):aT 118 (.sl (ls.map zs)) (zs ls.flatten):=by
 have hS:=λ(i:Nat)(x:List Int)(h:ls[i]?=some x)=>Fj h;have hL:=Kl ls;have g:=Hr ls;have f:wj ls 0=[]:=rfl;rw[<-g];generalize wj ls=S at *;refine Dp func118 λC hP hN=>?_;refine kp [3] trivial ?_;refine WP.loopN [] ls.length (λi st=>st.t 6=.pv (.sl (ls.map zs))/\st.t 7=.pv (Z ls.length)/\st.t 8=.pv (Z i)/\st.t 3=.arr 3 (S i).length/\st.h 3=some (.row 2 1 ((S i).map Z) 0)) (by simp[f]) ?_;rintro i st hi ⟨c,d,e,g3,b3⟩;by_cases a:i<ls.length
 .have m:=ae a (by omega)
  have j:ls[i]?=some ls[i]:=an a;generalize k:ls[i]=x at *;have h1:=hS i x j;have h2:=hL (i+1);rw[h1,Zb]at h2
  have n:((S i).length+x.length)*8<=140737488355328:=by omega
  have o:(S i).length+x.length<=9223372036854775807:=by omega
  exact Gy
 .have b:i=ls.length:=by omega
  refine GT (so c d e g3 b3 a) ?_
  all_goals (subst b;simp)
theorem S8(ls:List (List Int))(hn:ls.length<=1000000)(g:ls.flatten.length<=1000000):aT 16 (.sl (ls.map zs)) (zs ls.flatten):=by
 have hS:=λ(i:Nat)(x:List Int)(h:ls[i]?=some x)=>Fj h;have hL:=Kl ls;have d:=Hr ls;have c:wj ls 0=[]:=rfl;rw[<-d];generalize wj ls=S at *;refine Dp func16 λC hP hN=>?_;refine kp [3] trivial ?_;refine WP.loopN [] ls.length (λi st=>st.t 0=.pv (.sl (ls.map zs))/\st.t 4=.pv (Z i)/\st.t 3=.arr 3 (S i).length/\st.h 3=some (.row 2 1 ((S i).map Z) 0)) (by simp[c]) ?_;rintro i st hi ⟨g0,g4,g3,b3⟩;by_cases a:i<ls.length
 .have j:=ae a (by omega)
  have e:ls[i]?=some ls[i]:=an a;generalize f:ls[i]=x at *;have h1:=hS i x e;have h2:=hL (i+1);rw[h1,Zb]at h2
  have k:((S i).length+x.length)*8<=140737488355328:=by omega
  have l:(S i).length+x.length<=9223372036854775807:=by omega
  exact Gy
 .have b:i=ls.length:=by omega
  refine GT (it g0 g4 g3 b3 a) ?_
  all_goals (subst b;simp)
theorem S9(ls:List (List Int))(hn:ls.length<=1000000)(a:ls.flatten.length<=1000000):aT 69 (.sl (ls.map zs)) (zs ls.flatten):=by
 refine Dp func69 λC hP hN=>?_;have b:=Uq ls hn a;exact GS trivial
 all_goals (first|(simp_all;done)|((try simp_all)<;>(try omega)<;>grind))
def ou(s:Sce)(p q:List Int)(D:Int):Nat->Pc->List Pc->List Pc×Option EdR
 |0,_,out=>(out,some jm)
 |f+1,x,out=>if 4096<=out.length then(out,some ⟨0,[],x.1,x.2.1,⟨0,[],[]⟩⟩)else
  if(cW s (de p q x) x.2.2).kind=1 then(out++[(x.1,x.2.1,(cW s (de p q x) x.2.2).ns)],none)else
  if(cW s (de p q x) x.2.2).kind=2 then(out,some ⟨2,[],x.1,x.2.1,(cW s (de p q x) x.2.2).w⟩)else
  if x.1<D then match ou s p q D f (x.1+1,2*x.2.1,(cW s (de p q x) x.2.2).ns) out with
   |(o,none)=>ou s p q D f (x.1+1,2*x.2.1+1,(cW s (de p q x) x.2.2).ns) o
   |r=>r
  else(out,some ⟨0,[],x.1,x.2.1,⟨0,[],[]⟩⟩)
theorem Cm{s:Sce}{p q:List Int}{D:Int}:∀(f:Nat)(x:Pc)(out:List Pc),out.length<=4096->(ou s p q D f x out).1.length<=4096
 |0,_,_,h=>h
 |f+1,x,out,h=>by
  unfold ou
  split;·exact h
  rename_i h1
  split;·simp only[Zb,ZR];omega
  split;·exact h
  split
  case isFalse=>exact h
  have h2:=Cm (s:=s) (p:=p) (q:=q) (D:=D) f (x.1+1,2*x.2.1,(cW s (de p q x) x.2.2).ns) out h;split
  .rename_i o e
   rw[e]at h2;exact Cm f _ o h2
  .exact h2
theorem Cn{s:Sce}{p q:List Int}{D:Int}:∀(f:Nat)(x:Pc)(out:List Pc)(r:EdR),(ou s p q D f x out).2=some r->r.pcs=[]/\(r.kind≠2->r.w.a=[]/\r.w.b=[])
 |0,_,_,r,h=>by
  injection h with h;subst h;exact⟨rfl,λ_=>⟨rfl,rfl⟩⟩
 |f+1,x,out,r,h=>by
  unfold ou at h;split at h
  .injection h with h;subst h;exact⟨rfl,λ_=>⟨rfl,rfl⟩⟩
  split at h
  .cases h
  split at h
  .injection h with h;subst h;exact⟨rfl,λh9=>absurd rfl h9⟩
  split at h
  case isFalse=>injection h with h;subst h;exact⟨rfl,λ_=>⟨rfl,rfl⟩⟩
  split at h
  all_goals exact Cn f _ _ r h
theorem oW.half{D:Nat}{x:Pc}(h:oW D x)(hd:x.1<D){ns:List Vc}(hn:ns.length<=576):oW D (x.1+1,2*x.2.1,ns)/\oW D (x.1+1,2*x.2.1+1,ns):=by
 obtain⟨a,b,c,d,_⟩:=h
 have hp:(2:Int)^(x.1+1).toNat=2*2^x.1.toNat:=by rw[show(x.1+1).toNat=x.1.toNat+1 by omega,Int.pow_succ];omega
 exact⟨⟨by simp only;omega,by simp only;omega,by simp only;omega,by simp only;omega,hn⟩,⟨by simp only;omega,by simp only;omega,by simp only;omega,by simp only;omega,hn⟩⟩
theorem Ff{s:Sce}{p q:List Int}{D:Nat}:∀(f:Nat)(x:Pc)(todo out:List Pc)(F:Nat),oW D x->D+1<=f+x.1.toNat->kK D (todo++[x])+1<=F->∃g,kK D todo+1<=g/\qA s p q D F (todo++[x]) out=(match ou s p q D f x out with
 |(o,none)=>qA s p q D g todo o
 |(_,some r)=>r)
 |0,x,todo,out,F,a,hf,_=>by have:=a.2.1;omega
 |f+1,x,todo,out,F,a,hf,hF=>by
  have B:kK D (todo++[x])=kK D todo+DO D x:=by rw[BR];simp[kK]
  have hp:=Gr a;obtain⟨b,rfl⟩:∃m,F=m+1:=⟨F-1,by omega⟩
  have d:qA s p q D (b+1) (todo++[x]) out=if 4096<=out.length then⟨0,[],x.1,x.2.1,⟨0,[],[]⟩⟩else
   if(cW s (de p q x) x.2.2).kind=1 then qA s p q D b todo (out++[(x.1,x.2.1,(cW s (de p q x) x.2.2).ns)])else
   if(cW s (de p q x) x.2.2).kind=2 then⟨2,[],x.1,x.2.1,(cW s (de p q x) x.2.2).w⟩else
   if x.1=D then⟨0,[],x.1,x.2.1,⟨0,[],[]⟩⟩else
   qA s p q D b (todo++[(x.1+1,2*x.2.1+1,(cW s (de p q x) x.2.2).ns),(x.1+1,2*x.2.1,(cW s (de p q x) x.2.2).ns)]) out:=by
   simp only[qA,List.getLast?_append,List.getLast?_singleton,Option.some_or,List.dropLast_concat]
  rw[d,ou];by_cases c1:4096<=out.length
  .exact⟨_,Y0 _,by simp only[YY c1]⟩
  simp only[YR c1];by_cases i:(cW s (de p q x) x.2.2).kind=1
  .exact⟨b,by omega,by simp only[YY i]⟩
  simp only[YR i];by_cases j:(cW s (de p q x) x.2.2).kind=2
  .exact⟨_,Y0 _,by simp only[YY j]⟩
  simp only[YR j];by_cases k:x.1=D
  .exact⟨_,Y0 _,by simp only[YY k,YR (show¬x.1<(D:Int) by omega)]⟩
  have c:x.1<(D:Int):=by have:=a.2.1;omega
  simp only[YR k,YY c];have u:(cW s (de p q x) x.2.2).ns.length<=576:=(Ae s (de p q x) x.2.2).1;have A:=a.1;generalize v:(cW s (de p q x) x.2.2).ns=ns at *;obtain⟨y,z⟩:=a.half c u;have l:=Gs (todo:=todo++[x]) (x:=x) (by simp) a (by omega) (2*x.2.1+1) (2*x.2.1) ns ns;rw[List.dropLast_concat]at l
  have e:todo++[(x.1+1,2*x.2.1+1,ns),(x.1+1,2*x.2.1,ns)]=(todo++[(x.1+1,2*x.2.1+1,ns)])++[(x.1+1,2*x.2.1,ns)]:=by simp
  rw[e]at l|-;obtain⟨n,g1,g2⟩:=Ff (s:=s) (p:=p) (q:=q) f (x.1+1,2*x.2.1,ns) (todo++[(x.1+1,2*x.2.1+1,ns)]) out b y (by simp only;omega) (by omega);rw[g2];rcases ou s p q D f (x.1+1,2*x.2.1,ns) out with⟨o,_|r⟩
  .exact Ff f (x.1+1,2*x.2.1+1,ns) todo o n z (by simp only;omega) g1
  .exact⟨_,Y0 _,rfl⟩
def Qb(s:Sce)(p q:List Int)(D:Nat):EdR:=match ou s p q D (D+1) (0,0,[]) []with
 |(o,none)=>⟨1,o,0,0,⟨0,[],[]⟩⟩
 |(_,some r)=>r
theorem Qc{D:Nat}(h:Jy s p q=true)(b:D<=20):Qb s p q D=nF s p q D:=by
 have c:oW D (0,0,[]):=⟨by simp,by simp,by simp,by simp,by simp⟩
 obtain⟨a,h1,h2⟩:=Ff (s:=s) (p:=p) (q:=q) (D:=D) (D+1) (0,0,[]) [] [] (2^(D+1)) c (by simp) (by
  have:1<=2^(D+1):=Nat.one_le_two_pow
  simp[kK,DO];omega)
 unfold nF Qb;rw[YY (by simp[h,b])];rw[List.nil_append]at h2;rw[h2];rcases ou s p q D (D+1) (0,0,[]) []with⟨o,_|r⟩
 .obtain⟨d,rfl⟩:∃m,a=m+1:=⟨a-1,by omega⟩
  rfl
 .rfl
variable {pk:Nat->Bool}
def dZ(pk:Nat->Bool)(h:Hp):Hp:=λk=>if inK k=true then(if pk k=true then(h k).map (io false)else h k)else none
def iR(pk:Nat->Bool)(k:Nat):Bool:=!inK k||pk k
def eC(pk:Nat->Bool)(x:AV):AV:=if eK (iR pk) x=true then x else .undef
def nh(pk:Nat->Bool):Blk->Blk
 |.box a o f=>.box (a.map (eC pk)) o f
 |b=>b
def ek(pk:Nat->Bool)(h h':Hp):Hp:=λk=>if inK k=true then(if pk k=true then(h' k).map (io (gB h k))else h' k)else(h k).map (nh pk)
theorem jK{b:Blk}{l:Loc}:((nh pk) b).live l↔b.live l:=by cases b<;>exact Z8
theorem GH{b:Blk}{q:Nat}:((nh pk) b).frz q↔b.frz q:=by cases b<;>exact Z8
theorem gP{b:Blk}(e:(dZ pk) h k=some b):inK k=true/\∃b0,h k=some b0/\(pk k=true->b=io false b0)/\(¬pk k=true->b=b0):=by
 unfold dZ at e;split at e
 .rename_i hi
  split at e
  .rename_i h1
   simp only[II]at e;obtain⟨b0,h2,rfl⟩:=e;exact⟨hi,b0,h2,λ_=>rfl,λh3=>absurd h1 h3⟩
  .rename_i h1;exact⟨hi,b,e,λh2=>absurd h2 h1,λ_=>rfl⟩
 .cases e
theorem vg{b:Blk}(hi:inK k=true)(a:h k=some b):(dZ pk) h k=some (if pk k=true then io false b else b):=by
 unfold dZ;rw[YY hi];split
 .rw[a];rfl
 .exact a
theorem C9{h':Hp}{b:Blk}(hi:inK k=true)(a:h' k=some b):(ek pk) h h' k=some (if pk k=true then io (gB h k) b else b):=by
 unfold ek;rw[YY hi];split
 .rw[a];rfl
 .exact a
theorem mg{h':Hp}{b:Blk}(e:(ek pk) h h' k=some b):(inK k=true/\∃b0,h' k=some b0/\b=if pk k=true then io (gB h k) b0 else b0)\/(inK k=false/\∃b0,h k=some b0/\b=(nh pk) b0):=by
 unfold ek at e;split at e
 .rename_i hi
  split at e
  .rename_i h1
   simp only[II]at e;obtain⟨b0,h2,rfl⟩:=e;exact .inl ⟨hi,b0,h2,by rw[YY h1]⟩
  .rename_i h1;exact .inl ⟨hi,b,e,by rw[YR h1]⟩
 .rename_i hi
  simp only[II]at e;obtain⟨b0,h2,rfl⟩:=e;exact .inr ⟨by simpa using hi,b0,h2,rfl⟩
structure InOkP(pk:Nat->Bool)(h:Hp):Prop where
 nf:∀k blk o,inK k=true->h k=some blk->¬blk.frz o
 nm:∀k blk,inK k=true->h k=some blk->zK blk=true
 cl:∀k cs o f,inK k=true->h k=some (.box cs o f)->∀x∈cs,m7 x=true
 pin:∀k cs f,inK k=true->h k=some (.box cs false f)->pk k=true
 bx:∀k blk,pk k=true->h k=some blk->∃cs o f,blk=.box cs o f
section
variable {C:Cx} {L L':Nat->Loc} {h h':Hp} {w w':World}
theorem zo(i:MemL C L h w)(hi:(InOkP pk) h){b:Nat}(j:ed ((dZ pk) h) L b):(C.w0.heap.size<=b\/(C.S b/\∀o,¬C.M0 b o))/\iO h L b:=by
 obtain⟨k,d,g,c,a,rfl⟩:=j;obtain⟨h1,b0,h2,h3,h4⟩:=gP g;by_cases e:pk k=true
 .have:=h3 e
  subst this;obtain⟨l,o,f,rfl⟩:=hi.bx k b0 e h2;cases c
 .have:=h4 e
  subst this;exact⟨l9 (p9 h1) (i.own k _ h2) c (hi.nm k _ h1 h2) a,k,_,h2,a,rfl⟩
theorem MemL.takeStepP(H:MemL C L h w)(hi:(InOkP pk) h)(hx:Ext (iO ((dZ pk) h) L) w w')(ah:LookH h')
 (ht:TrIn w' (λb o=>ab C L h b o/\¬ed ((dZ pk) h) L b) L' h')
 (P:∀k D f,(dZ pk) h k=some (.box D false f)->∃R,h' k=some (.box R false false)/\(L' k).b=(L k).b)
 (X:∀k D f,h' k=some (.box D false f)->∃l f0,(dZ pk) h k=some (.box l false f0))
 (hn:∀k a,h' k=some a->gb a=true->a.live (L' k)->w.heap.size<=(L' k).b\/ed ((dZ pk) h) L (L' k).b):
 ∃B:Nat->Loc,(∀k,inK k=true->B k=L' k)/\MemL C B ((ek pk) h h') w'/\(∀{x:AV}{u:Value},RepA w (ab C L h) L h x u->RepA w' (ab C B ((ek pk) h h')) B ((ek pk) h h') ((eC pk) x) u)/\
  (∀{x:AV}{u:Value},m7 x=true->RepA w' (t8 (λb o=>ab C L h b o/\¬ed ((dZ pk) h) L b) L' h') L' h' x u->RepA w' (ab C B ((ek pk) h h')) B ((ek pk) h h') x u):=by
 let B:Nat->Loc:=λk=>if inK k=true then L' k else L k
 have r:∀k,inK k=true->B k=L' k:=λk y=>YY y
 have E:∀k,inK k=false->B k=L k:=λk y=>by simp[B,y]
 have b3:=H.ext.size
 have K:∀b,iO ((dZ pk) h) L b->∃k a,inK k=true/\h k=some a/\a.live (L k)/\b=(L k).b:=by
  rintro b ⟨k,a,y,g,rfl⟩;obtain⟨h1,b0,h2,h3,h4⟩:=gP y;refine⟨k,b0,h1,h2,?_,rfl⟩;by_cases e:pk k=true
  .rw[h3 e]at g;exact dx.1 g
  .rw[h4 e]at g;exact g
 have M:∀b,iO ((dZ pk) h) L b->∀o,ab C L h b o:=by
  intro b hb o;obtain⟨k,a,h1,h2,h3,rfl⟩:=K b hb;exact .inr ⟨k,a,h2,h3,rfl,hi.nf k a o h1 h2⟩
 have Z:∀b,ed ((dZ pk) h) L b->iO ((dZ pk) h) L b:=by
  rintro b ⟨k,a,h1,_,h3,h4⟩;exact⟨k,a,h1,h3,h4⟩
 have ad:∀b o,ab C B ((ek pk) h h') b o->t8 (λb o=>ab C L h b o/\¬ed ((dZ pk) h) L b) L' h' b o:=by
  rintro b o (h9|⟨k,a,y,g,hb,hf⟩)
  .refine .inl ⟨.inl h9,λh8=>?_⟩
   rcases(zo H hi h8).1 with h7|h7
   .have:=H.m0 _ _ h9;omega
   .exact h7.2 o h9
  .rcases mg y with⟨m,b0,h1,rfl⟩|⟨m,b0,h1,rfl⟩
   .rw[r k m]at g hb
    refine .inr ⟨k,b0,h1,?_,hb,?_⟩
    .split at g
     .exact dx.1 g
     .exact g
    .split at hf
     .exact λh8=>hf (sS.2 h8)
     .exact hf
   .rw[E k m]at g hb
    refine .inl ⟨.inr ⟨k,b0,h1,jK.1 g,hb,λh8=>hf (GH.2 h8)⟩,λh8=>?_⟩;obtain⟨A,d,h2,h3,h4,h5⟩:=K b (Z b h8);refine H.sep k A b0 d (λe=>?_) h1 h3 (jK.1 g) h4 (by rw[hb,<-h5]);rw[e,h2]at m;cases m
 have V:=Pres.sub (w:=w') ad
 have Q:Pres w (ab C L h) w' (ab C B ((ek pk) h h')):=by
  have ak:∀b o,¬ab C L h b o->¬iO ((dZ pk) h) L b:=λb o h9 h8=>h9 (M b h8 o)
  have I:∀b o,b<w.heap.size->ab C B ((ek pk) h h') b o->ab C L h b o:=by
   intro b o G h9;rcases ad b o h9 with h8|⟨k,a,y,g,hb,hf⟩
   .exact h8.1
   .cases z:gb a with
    |true=>
     rcases hn k a y z g with h7|h7
     .omega
     .rw[hb]at h7;exact M b (Z b h7) o
    |false=>
     cases a with
     |row=>cases z
     |mp=>cases z
     |box D o9 f9=>
      cases o9 with
      |true=>cases z
      |false=>
       obtain⟨l,f0,h7⟩:=X k D f9 y;obtain⟨_,_,h6⟩:=P k l f0 h7;exact M b ⟨k,_,h7,trivial,by rw[<-hb,h6]⟩ o
  refine⟨λb o v hc N=>?_,λb arr c hc N=>?_⟩
  .have G:=xZ hc
   exact⟨(hx.cell G (ak b o N)).trans hc,λh9=>N (I b o G h9)⟩
  .have G:=rt hc
   exact⟨(hx.block b G (ak b 0 N)).trans hc,λh9=>N (I b 0 G h9)⟩
 have W:∀k a,(iR pk) k=true->h k=some a->∃d,(ek pk) h h' k=some d/\dg a (L k) d (B k):=by
  intro k a y h1
  cases s:inK k with
  |false=>
   refine⟨(nh pk) a,by simp only[ek,s,YU,Y5,h1,ZD],?_⟩;rw[E k s]
   cases a with
   |box=>exact rfl
   |row=>exact⟨rfl,rfl,Y0 _,λ_=>rfl⟩
   |mp=>exact⟨rfl,rfl,rfl⟩
  |true=>
   have e:pk k=true:=by simpa[iR,s]using y
   obtain⟨D,o,f,rfl⟩:=hi.bx k a e h1
   have h2:(dZ pk) h k=some (.box D false f):=by rw[vg s h1,YY e];rfl
   obtain⟨R,h3,h4⟩:=P k D f h2;refine⟨_,C9 s h3,?_⟩;rw[YY e,r k s];exact h4
 have U:∀k a,inK k=true->h' k=some a->∃d,(ek pk) h h' k=some d/\dg a (L' k) d (B k):=by
  intro k a s h1;refine⟨_,C9 s h1,?_⟩;rw[r k s];split
  .exact nH (bt _ _)
  .exact bt _ _
 have J:∀{x:AV}{u:Value},RepA w (ab C L h) L h x u->RepA w' (ab C B ((ek pk) h h')) B ((ek pk) h h') ((eC pk) x) u:=by
  intro x u Y;unfold eC;split
  .rename_i O;exact m8 Q W O Y
  .exact .undef _
 refine⟨B,r,⟨?_,H.m0,?_,?_,?_⟩,J,λO Y=>m8 V U O Y⟩
 .refine H.ext.trans hx (λb G h9=>?_)
  obtain⟨k,a,h1,h2,h3,rfl⟩:=K b h9;have O:=H.own k _ h2
  cases z:gb a with
  |true=>
   rcases l9 (p9 h1) O z (hi.nm k _ h1 h2) h3 with h7|h7
   .omega
   .exact h7.1
  |false=>
   cases a with
   |row=>cases z
   |mp=>cases z
   |box D o9 f9=>
    cases o9 with
    |true=>cases z
    |false=>exact O.2.2.1
 .intro k a y
  rcases mg y with⟨m,b0,h1,rfl⟩|⟨m,b0,h1,rfl⟩
  .rw[r k m]
   have hb:=(ht.bl k b0 h1).inK V U (λD o f e=>ah.cl k D o f (by rw[h1,e])) (λ_=>rfl);split
   .cases b0<;>exact hb
   .exact hb
  .rw[E k m]
   have hb:=H.bl k b0 h1
   have he:b0.live (L k)->w'.heap[(L k).b]?=w.heap[(L k).b]?:=by
    intro g;refine hx.block _ (hb.lt g) (λh9=>?_);obtain⟨A,d,h2,h3,h4,h5⟩:=K _ h9;exact H.sep k A b0 d (λe=>by rw[e,h2]at m;cases m) h1 h3 g h4 h5
   cases b0 with
   |box D own fz=>
    obtain⟨arr,ty,e,g,Y⟩:=hb;refine⟨arr,ty,(he trivial).trans e,by simpa using g,λi p u hp z=>?_⟩;simp only[YS,II]at hp;obtain⟨q,hq,rfl⟩:=hp;exact J (Y i q u hq z)
   |row et sz xs fz=>
    obtain⟨g1,g2,g3,g4,g5⟩:=hb;refine⟨g1,g2,g3,g4,λT=>?_⟩;obtain⟨h6,ar,arr,e,h7,h8⟩:=g5 T;refine⟨h6,ar,arr,(he T).trans e,h7,λi x j p a7 hj=>?_⟩;obtain⟨u,z,Y⟩:=h8 i x j p a7 hj;exact⟨u,z,Y.mono Q⟩
   |mp kd n es fz=>
    obtain⟨arr,c,e,g1⟩:=hb;exact⟨arr,c,(he trivial).trans e,g1⟩
 .
  have new:∀k a,inK k=true->h' k=some a->a.live (L' k)->w.heap.size<=(L' k).b\/iO ((dZ pk) h) L (L' k).b:=by
   intro k a s y g
   cases z:gb a with
   |true=>exact(hn k a y z g).imp id (Z _)
   |false=>
    cases a with
    |row=>cases z
    |mp=>cases z
    |box D o9 f9=>
     cases o9 with
     |true=>cases z
     |false=>
      obtain⟨l,f0,h7⟩:=X k D f9 y;obtain⟨_,_,h6⟩:=P k l f0 h7;exact .inr ⟨k,_,h7,trivial,h6⟩
  have apart:∀k a A d,inK k=true->inK A=false->h' k=some a->h A=some d->a.live (L' k)->d.live (L A)->(L' k).b≠(L A).b:=by
   intro k a A d h1 h2 h3 h4 h5 h6 e;rcases new k a h1 h3 h5 with h7|h7
   .have:=(H.bl A d h4).lt h6;omega
   .obtain⟨q,bq,g1,g2,g3,g4⟩:=K _ h7
    exact H.sep q A bq d (λe9=>by rw[e9,h2]at g1;cases g1) g2 h4 g3 h6 (by rw[<-g4,e])
  have lv:∀{k:Nat}{b0:Blk},(if pk k=true then io (gB h k) b0 else b0).live (L' k)->b0.live (L' k):=by
   intro k b0 g;split at g
   .exact dx.1 g
   .exact g
  intro k A b1 b2 aj y a6 g F;rcases mg y with⟨i1,c1,d1,rfl⟩|⟨i1,c1,d1,rfl⟩<;>rcases mg a6 with⟨i2,c2,d2,rfl⟩|⟨i2,c2,d2,rfl⟩
  .rw[r k i1]at g|-
   rw[r A i2]at F|-;exact ht.sep k A c1 c2 aj d1 d2 (lv g) (lv F)
  .rw[r k i1]at g|-
   rw[E A i2]at F|-;exact apart k c1 A c2 i1 i2 d1 d2 (lv g) (jK.1 F)
  .rw[E k i1]at g|-
   rw[r A i2]at F|-;exact λe=>apart A c2 k c1 i2 i1 d2 d1 (lv F) (jK.1 g) e.symm
  .rw[E k i1]at g|-
   rw[E A i2]at F|-;exact H.sep k A c1 c2 aj d1 d2 (jK.1 g) (jK.1 F)
 .
  intro k a y;rcases mg y with⟨i1,b0,d1,rfl⟩|⟨i1,b0,d1,rfl⟩
  .rw[r k i1]
   have fresh:gb b0=true->b0.live (L' k)->C.w0.heap.size<=(L' k).b\/(C.S (L' k).b/\∀o,¬C.M0 (L' k).b o):=by
    intro z g;rcases hn k b0 d1 z g with h7|h7
    .exact .inl (by omega)
    .exact(zo H hi h7).1
   cases b0 with
   |mp=>exact absurd (ah.nm k _ d1) (by simp[zK])
   |row e sz xs fz=>
    have:dy C k (L' k) (.row e sz xs fz):=by
     unfold dy;simp only[C.hpr k (p9 i1)];exact λT=>fresh rfl T
    split<;>exact this
   |box D o9 f9=>
    cases o9 with
    |true=>
     have h9:=fresh rfl trivial;split
     .rename_i e
      have h8:(dZ pk) h k=none\/∃l f0,(dZ pk) h k=some (.box l false f0):=by
       cases h7:h k with
       |none=>left;simp[dZ,h7]
       |some b1=>
        right
        obtain⟨l,o0,f0,rfl⟩:=hi.bx k b1 e h7;exact⟨l,f0,by rw[vg i1 h7,YY e];rfl⟩
      rcases h8 with h8|⟨l,f0,h8⟩
      .have h7:h k=none:=by
        cases h7:h k with
        |none=>rfl
        |some b1=>rw[vg i1 h7]at h8;cases h8
       have:gB h k=true:=by simp[gB,h7]
       rw[this];exact h9
      .obtain⟨R,h6,_⟩:=P k l f0 h8
       rw[d1]at h6;cases h6
     .exact h9
    |false=>
     obtain⟨l,f0,h7⟩:=X k D f9 d1;obtain⟨R,h6,h5⟩:=P k l f0 h7;rw[d1]at h6;injection h6 with h6;injection h6 with h6a _ h6b;obtain⟨_,b1,g2,g3,g4⟩:=gP h7
     have e:pk k=true:=by
      refine Classical.byContradiction λe=>e ?_;have:=g4 e;subst this;exact hi.pin k l f0 i1 g2
     rw[YY e];obtain⟨a8,o1,f1,rfl⟩:=hi.bx k b1 e g2;have O:=H.own k _ g2
     have:gB h k=o1:=by simp[gB,g2]
     rw[this];show dy C k (L' k) (.box D o1 f9)
     cases o1 with
     |true=>
      have O:C.w0.heap.size<=(L k).b\/(C.S (L k).b/\∀o,¬C.M0 (L k).b o):=O;show C.w0.heap.size<=(L' k).b\/(C.S (L' k).b/\∀o,¬C.M0 (L' k).b o);rw[h5];exact O
     |false=>
      obtain⟨a1,a2,a3,a4,a5⟩:=O;refine⟨h6b,?_,?_,?_,?_⟩
      .rw[h5];exact a2
      .rw[h5];exact a3
      .rw[h5];exact a4
      .rw[h5];exact a5
  .rw[E k i1]
   have:=H.own k b0 d1
   cases b0 with
   |box D o f=>cases o<;>exact this
   |row=>exact this
   |mp=>exact this
def nZ(pk:Nat->Bool)(C:Cx)(Q:St->Prop)(f:Operand)(xs:List Operand)(d:Option Nat)(st:St):Prop:=
 ∃g a Post,bA (st.ev f)=some (g,[],a)/\(InOkP pk) st.h/\mR C.P g (xs.map st.ev++a) ((dZ pk) st.h) Post/\(xs.map st.ev++a).all m7=true/\dJ C.N d=true/\
  ∀r h',LookH h'->m7 r=true->Post r h'->Q (St.put ⟨λn=>(eC pk) (st.t n),(ek pk) st.h h'⟩ d r [])
theorem qY{Q':Exit->Act->World->Prop}{c:St}{a1:Act}{w1:World}(ad:∀st a w,dH C st a w->K st->wpList C.P ops Q' post a w)(a8:o.op=.call {callee:=.value f,args:=xs.toArray,argTypes:=ats})(hg:dR ops c.t o.guard=some true)
 (b5:dH C c a1 w1)(b4:(nZ pk) C K f xs o.dst c):wpList C.P ops Q' (o::post) a1 w1:=by
 obtain⟨g,M,Post,ah,hi,⟨d,hD⟩,T,aj,hQ⟩:=b4;obtain⟨L,Q,hN,ak,Y⟩:=b5;refine wpList_step (λK hK=>?_);rw[dl Y hg,YY rfl];obtain⟨vs,us,ar,b8,b9⟩:=jH (bB Y f) ah;have ca:=b8.nil_inv;subst ca
 have cd:∀b,ed ((dZ pk) c.h) L b->∀o,ab C L c.h b o:=by
  intro b hb o;obtain⟨k,j,h1,h2,h3,rfl⟩:=hb;obtain⟨i1,b0,g1,g2,g3⟩:=gP h1;by_cases e:pk k=true
  .rw[g2 e]at h3;exact .inr ⟨k,b0,g1,dx.1 h3,rfl,hi.nf k b0 o i1 g1⟩
  .rw[g3 e]at h3;exact .inr ⟨k,b0,g1,h3,rfl,hi.nf k b0 o i1 g1⟩
 have s:t8 (λb o=>ab C L c.h b o/\¬ed ((dZ pk) c.h) L b) L ((dZ pk) c.h)=ab C L c.h:=by
  funext b o
  refine propext ⟨?_,λh9=>?_⟩
  .rintro(h9|⟨k,j,h1,h2,h3,h4⟩)
   .exact h9.1
   .obtain⟨i1,b0,g1,g2,g3⟩:=gP h1
    by_cases e:pk k=true
    .rw[g2 e]at h2;exact .inr ⟨k,b0,g1,dx.1 h2,h3,hi.nf k b0 o i1 g1⟩
    .rw[g3 e]at h2;exact .inr ⟨k,b0,g1,h2,h3,hi.nf k b0 o i1 g1⟩
  .by_cases h8:ed ((dZ pk) c.h) L b
   .obtain⟨k,j,h1,h2,h3,h4⟩:=h8
    refine .inr ⟨k,j,h1,h3,h4.symm,?_⟩;obtain⟨i1,b0,g1,g2,g3⟩:=gP h1;by_cases e:pk k=true
    .rw[g2 e];exact λh7=>hi.nf k b0 o i1 g1 (sS.1 h7)
    .rw[g3 e];exact hi.nf k b0 o i1 g1
   .exact .inl ⟨h9,h8⟩
 have A:∀k j,inK k=true->c.h k=some j->∃l,(dZ pk) c.h k=some l/\dg j (L k) l (L k):=by
  intro k j a6 h1;refine⟨_,vg a6 h1,?_⟩;split
  .exact nH (bt _ _)
  .exact bt _ _
 have a7:TrIn w1 (λb o=>ab C L c.h b o/\¬ed ((dZ pk) c.h) L b) L ((dZ pk) c.h):=by
  refine⟨?_,?_,?_,?_⟩
  .intro k j W
   rw[s];obtain⟨i1,b0,g1,g2,g3⟩:=gP W;have hb:=(Q.bl k b0 g1).inK (Pres.refl _ _) A (λcs o f e=>hi.cl k cs o f i1 (by rw[g1,e])) (λ_=>rfl);by_cases e:pk k=true
   .rw[g2 e];cases b0<;>exact hb
   .rw[g3 e];exact hb
  .intro k J b1 b2 G h1 h2 X q
   obtain⟨i1,c1,g1,g2,g3⟩:=gP h1;obtain⟨i2,c2,e1,e2,e3⟩:=gP h2;refine Q.sep k J c1 c2 G g1 e1 ?_ ?_
   .by_cases e:pk k=true
    .rw[g2 e]at X;exact dx.1 X
    .rw[g3 e]at X;exact X
   .by_cases e:pk J=true
    .rw[e2 e]at q;exact dx.1 q
    .rw[e3 e]at q;exact q
  .exact λk j h1 h2 h3 o h9=>h9.2 ⟨k,j,h1,h2,h3,rfl⟩
  .intro k cs f W o
   obtain⟨i1,b0,g1,g2,g3⟩:=gP W
   have N:b0.live (L k):=by
    by_cases e:pk k=true
    .have h8:=g2 e
     cases b0 with
     |box=>exact trivial
     |row=>cases h8
     |mp=>exact trivial
    .rw[<-g3 e];exact trivial
   refine⟨.inr ⟨k,b0,g1,N,rfl,hi.nf k b0 o i1 g1⟩,?_⟩;rintro⟨J,l,h1,h2,h3,h4⟩;obtain⟨i2,c2,e1,e2,e3⟩:=gP h1
   have G:k≠J:=by
    intro e;rw[<-e,W]at h1;injection h1 with h1;rw[<-h1]at h2;cases h2
   refine Q.sep k J b0 c2 G g1 e1 N ?_ h4;by_cases e:pk J=true
   .rw[e2 e]at h3;exact dx.1 h3
   .rw[e3 e]at h3;exact h3
 have I:aC w1 (t8 (λb o=>ab C L c.h b o/\¬ed ((dZ pk) c.h) L b) L ((dZ pk) c.h)) L ((dZ pk) c.h) (xs.map c.ev++M) (xs.map a1.eval++us):=by
  rw[s]
  have V:aC w1 (ab C L c.h) L c.h (xs.map c.ev) (xs.map a1.eval):=by
   refine⟨by simp,λi p u hp Z=>?_⟩;simp only[YS,II]at hp Z;obtain⟨x,V,rfl⟩:=hp;obtain⟨y,hy,rfl⟩:=Z;rw[V]at hy;injection hy with hy;subst hy;exact bB Y x
  have z:=V.append b9;exact⟨z.1,λi p u hp Z=>m8 (Pres.refl _ _) A (L4.1 T p (An hp)) (z.2 i p u hp Z)⟩
 have m:=hD w1 _ L (xs.map a1.eval++us) (λb o h9=>Q.mlt h9.1) a7 I
 have U:(execOp a1.eval o).run C.P w1=.ok (.enter g (xs.map a1.eval++us).toArray) w1:=by
  unfold bR at d
  cases E:C.P.funcs[g]? with
  |none=>rw[E]at d;cases d
  |some fn=>
   rw[E]at d;simp only[up,Zv,ZW,ne_eq]at d
   have hb:fn.body.isNone=false:=by cases cc:fn.body<;>simp_all
   unfold execOp;rw[a8];simp only[resolve,ar,Deferred.ofValue,pure_bind,Sem.run_bind,Result.andThen_ok,invoke,callFunc,program,Sem.run,E];simp[d.2,hb]
 unfold Oper.wp;rw[U];simp only[Oper.upon];refine m.mono ?_;rintro ee w' ⟨v,r,L',h',rfl,V,O,b7,hr,B,H,bq,b3,S⟩;obtain⟨L2,cb,R,F,D⟩:=Q.takeStepP hi V O b7 bq b3 S;refine hK _ _ ?_;exact ad _ _ _ (dH.put R hN ak (λn=>F (Y n)) aj (aF.refl R) (D B hr)) (hQ r h' O B H)
theorem WP.takeGP(d:∀st a w,dH C st a w->K st->∃b,dH C b a w/\cw C.P hn C.N ops (Q .normal) post b)(c:ops.toList=pre++o::post)(e:o.op=.call {callee:=.value f,args:=xs.toArray,argTypes:=ats})(n:o.guard=none)
 (hq:cw C.P hn C.N ops ((nZ pk) C K f xs o.dst) pre st):WP C (.region id ops false) Q st:=by
 intro a w p;refine wp_region_list ?_;rw[c];refine fh (λq a1 w1 l i=>?_) p hq;refine qY (K:=K) (λst a w h1 h2=>?_) e (by rw[n];rfl) l i;obtain⟨r,m,j⟩:=d st a w h1 h2;exact fu (λb s w' k g=>⟨b,k,g⟩) m j
theorem WP.takeP2(n m:Nat){p:Oper}{f2:Operand}{q:List Operand}{e:Array TypeId}(E:ops.toList[n]?=some o)(g:ops.toList[n+1+m]?=some p)(u:o.op=.call {callee:=.value f,args:=xs.toArray,argTypes:=ats})(k:p.op=.call {callee:=.value f2,args:=q.toArray,argTypes:=e})(J:o.guard=none)
 (hq:cw C.P hn C.N ops ((nZ pk) C (cw C.P hn C.N ops (λst=>(dR ops st.t p.guard=some true/\(nZ pk) C (cw C.P hn C.N ops (Q .normal) (ops.toList.drop (n+1+m+1))) f2 q p.dst st)\/cw C.P hn C.N ops (Q .normal) (ops.toList.drop (n+1+m)) st) ((ops.toList.drop (n+1)).take m)) f xs o.dst) (ops.toList.take n) st):WP C (.region id ops false) Q st:=by
 intro a w K;refine wp_region_list ?_
 have G:ops.toList=ops.toList.take n++o::((ops.toList.drop (n+1)).take m++ops.toList.drop (n+1+m)):=by
  have s:=(th.1 E).1;have r:=(th.1 E).2
  have I:(ops.toList.drop (n+1)).take m++ops.toList.drop (n+1+m)=ops.toList.drop (n+1):=by
   rw[<-List.drop_drop (i:=m) (j:=n+1),ZQ]
  rw[I,<-r,yAf,ZQ]
 have H:ops.toList.drop (n+1+m)=p::ops.toList.drop (n+1+m+1):=by
  have s:=(th.1 g).1;have r:=(th.1 g).2;rw[<-r,yAf]
 rw[G];refine fh (λL a1 w1 A v=>?_) K hq;refine qY (λM a2 w2 B x=>?_) u (by rw[J];rfl) A v;refine fh (λO a3 S l y=>?_) B x;rcases y with⟨h1,h2⟩|h1
 .rw[H]
  exact qY (λR a4 T D z=>fu (λd F w' c b=>⟨d,c,b⟩) D z) k h1 l h2
 .exact fu (λd F w' c b=>⟨d,c,b⟩) l h1
theorem WP.takeP(a:ops.toList=pre++o::post)(b:o.op=.call {callee:=.value f,args:=xs.toArray,argTypes:=ats})(c:o.guard=none)
 (hq:cw C.P hn C.N ops ((nZ pk) C (cw C.P hn C.N ops (Q .normal) post) f xs o.dst) pre st):WP C (.region id ops false) Q st:=WP.takeGP (λst _ _ e d=>⟨st,e,d⟩) a b c hq
end
attribute [simp] nh
abbrev jn(x:Pc):PV:=.agg [Z x.1,Z x.2.1,aB x.2.2]
abbrev NX(r:EdR):PV:=.agg [Z r.kind,.sl (r.pcs.map jn),Z r.d,Z r.i,.sl [],Z r.w.pair,zs r.w.a,zs r.w.b]
@[simp] theorem YE:az prog 204=some ⟨1,(some (.nilFunc)),.one⟩:=by kernel_rfl
abbrev tn:AV:=.pv (.val (.slice none 0 0))
def mi(k:Nat):Bool:=decide (291<=k)&&decide (k<=297)
def ij:List AV:=[.ptr 291 0,.ptr 292 0,.ptr 293 0,.ptr 294 0,.ptr 295 0,.ptr 296 0,.ptr 297 0]
def tT(r:EdR):List AV:=[.pv (Z r.kind),tn,.pv (Z r.d),.pv (Z r.i),tn,.pv (Z r.w.pair),if r.kind=2 then .pv (zs r.w.a)else tn,if r.kind=2 then .pv (zs r.w.b)else tn]
def dT(own:Bool)(s:Sce)(p q:List Int)(D:Int)(out:List Pc)(r:EdR):Hp:=λk=>
 if k=291 then some (.box [.arr 298 out.length] own false)
 else if k=292 then some (.box (tT r) own false)
 else if k=293 then some (.box [.pv (zs p)] own false)
 else if k=294 then some (.box [.pv (zs q)] own false)
 else if k=295 then some (.box [.pv (.sl (s.js.map aQ)),.pv (.sl (s.ms.map bb)),.pv (.sl (s.shs.map ba)),.pv (.sl (s.sks.map aK))] own false)
 else if k=296 then some (.box [.pv (Z D)] own false)
 else if k=297 then some (.box [.fn (.func 120) [] ij] own false)
 else if k=298 then some (.row 65 3 (out.map jn) 0)
 else none
theorem On(r:EdR):∀x∈tT r,m7 x=true:=by
 intro x a;simp only[tT,Zi,Zo,ZP]at a
 rcases a with rfl|rfl|rfl|rfl|rfl|rfl|rfl|rfl<;>first|rfl|(split<;>rfl)
theorem se{own:Bool}{b:Blk}(h:dT own s p q D out r k=some b):(mi k=true/\∃c,b=.box c own false/\∀x∈c,m7 x=true)\/(k=298/\b=.row 65 3 (out.map jn) 0):=by
 unfold dT at h;split at h
 .rename_i e;subst e;injection h with h;exact .inl ⟨rfl,_,h.symm,by intro x a;simp at a;subst a;rfl⟩
 split at h
 .rename_i e;subst e;injection h with h;exact .inl ⟨rfl,_,h.symm,On r⟩
 split at h
 .rename_i e;subst e;injection h with h;exact .inl ⟨rfl,_,h.symm,by intro x a;simp at a;subst a;rfl⟩
 split at h
 .rename_i e;subst e;injection h with h;exact .inl ⟨rfl,_,h.symm,by intro x a;simp at a;subst a;rfl⟩
 split at h
 .rename_i e;subst e;injection h with h;exact .inl ⟨rfl,_,h.symm,by intro x a;simp at a;rcases a with rfl|rfl|rfl|rfl<;>rfl⟩
 split at h
 .rename_i e;subst e;injection h with h;exact .inl ⟨rfl,_,h.symm,by intro x a;simp at a;subst a;rfl⟩
 split at h
 .rename_i e;subst e;injection h with h;exact .inl ⟨rfl,_,h.symm,by intro x a;simp at a;subst a;rfl⟩
 split at h
 .rename_i e;subst e;injection h with h;exact .inr ⟨rfl,h.symm⟩
 .cases h
theorem Ki(h:mi k=true):inK k=true:=by
 simp only[mi,inK,up,Is]at *;omega
theorem Kj{own:Bool}{b:Blk}(h:dT own s p q D out r k=some b):inK k=true:=by
 rcases se h with⟨h1,_⟩|⟨rfl,_⟩
 .exact Ki h1
 .rfl
theorem z8(own:Bool)(s:Sce)(p q:List Int)(D:Int)(out:List Pc)(r:EdR):LookH (dT own s p q D out r):=by
 refine⟨λk b h=>Kj h,λk b o h=>?_,λk b h=>?_,λk a o f h=>?_⟩
 .rcases se h with⟨_,a,rfl,_⟩|⟨_,rfl⟩
  .intro h9;cases h9
  .intro h9;simp[Blk.frz]at h9
 .rcases se h with⟨_,a,rfl,_⟩|⟨_,rfl⟩<;>rfl
 .rcases se h with⟨_,c,h1,h2⟩|⟨_,h1⟩
  .injection h1 with h1;subst h1;exact h2
  .cases h1
theorem Hk{own:Bool}:dT false s p q D out r k=if mi k=true then(dT own s p q D out r k).map (io false)else dT own s p q D out r k:=by
 by_cases h:mi k=true
 .rw[YY h]
  simp only[mi,up,Is]at h
  have:k=291\/k=292\/k=293\/k=294\/k=295\/k=296\/k=297:=by omega
  rcases this with rfl|rfl|rfl|rfl|rfl|rfl|rfl<;>rfl
 .rw[YR h]
  have:k≠291/\k≠292/\k≠293/\k≠294/\k≠295/\k≠296/\k≠297:=by
   refine⟨?_,?_,?_,?_,?_,?_,?_⟩<;>(rintro rfl;exact h rfl)
  obtain⟨a,b,c,d,e,f,g⟩:=this;simp only[dT,YR a,YR b,YR c,YR d,YR e,YR f,YR g]
theorem Qd{own:Bool}(c:∀k,inK k=true->h k=dT own s p q D out r k):dZ mi h=dT false s p q D out r:=by
 funext k
 unfold dZ;by_cases a:inK k=true
 .rw[YY a,c k a,Hk (own:=own)]
 .rw[YR a]
  cases d:dT false s p q D out r k with
  |none=>rfl
  |some b=>exact absurd (Kj d) a
theorem Oo{own:Bool}(c:∀k,inK k=true->h k=dT own s p q D out r k)(b:inK k=true):ek mi h (dT false s p q D out' r') k=dT own s p q D out' r' k:=by
 unfold ek;rw[YY b];by_cases a:mi k=true
 .rw[YY a]
  have d:gB h k=gB (dT own s p q D out r) k:=by unfold gB;rw[c k b]
  rw[d];simp only[mi,up,Is]at a
  have:k=291\/k=292\/k=293\/k=294\/k=295\/k=296\/k=297:=by omega
  rcases this with rfl|rfl|rfl|rfl|rfl|rfl|rfl<;>rfl
 .rw[YR a,Hk (own:=own),YR a]
theorem Fg{own:Bool}{C:Cx}{Q:St->Prop}{d:Option Nat}{g:FuncId}{args:List PV}{b:Bool}(i:bA (st.ev f)=some (g,[],ij))(c:xs.map st.ev=args.map .pv)(hd:dJ C.N d=true)
 (e:∀k,inK k=true->st.h k=dT own s p q D out r k)
 (m:mR C.P g (args.map .pv++ij) (dT false s p q D out r) (λl h'=>l=.pv (B b)/\h'=dT false s p q D out' r'))
 (h:∀h',(∀k,inK k=true->h' k=dT own s p q D out' r' k)->(∀k,inK k=false->h' k=(st.h k).map (nh mi))->Q (St.put ⟨λn=>eC mi (st.t n),h'⟩ d (.pv (B b)) [])):nZ mi C Q f xs d st:=by
 have hL:=z8 own s p q D out r;refine⟨g,ij,_,i,⟨λk b o a hb=>hL.nf k b o (by rw[<-e k a];exact hb),λk b a hb=>hL.nm k b (by rw[<-e k a];exact hb),λk j o f a hb=>hL.cl k j o f (by rw[<-e k a];exact hb),λk j f a hb=>?_,λk b a hb=>?_⟩,by rw[c,Qd e];exact m,?_,hd,λl h' _ _ hp=>?_⟩
 .rw[e k a]at hb
  rcases se hb with⟨h1,_⟩|⟨_,h1⟩
  .exact h1
  .cases h1
 .rw[e k (Ki a)]at hb
  rcases se hb with⟨_,j,rfl,_⟩|⟨rfl,_⟩
  .exact⟨_,_,_,rfl⟩
  .cases a
 .rw[c,List.all_append,up]
  exact⟨by rw[L4];intro x u;obtain⟨y,_,rfl⟩:=Zg.1 u;rfl,rfl⟩
 .obtain⟨rfl,rfl⟩:=hp
  exact h _ (λk a=>Oo e a) (λk a=>by unfold ek;rw[YR (by rw[a];decide)])
theorem Co{own:Bool}(h:k≠292):dT own s p q D out r k=dT own s p q D out r' k:=by
 unfold dT;rw[YR h,YR h]
theorem Oq{own:Bool}(h:k≠291)(h':k≠298):dT own s p q D out r k=dT own s p q D out' r k:=by
 unfold dT;rw[YR h,YR h,YR h',YR h']
theorem Qe{b:Bool}(d:mf P st rs=some (.pv (B b)))(a:∀k,inK k=true->st.h k=dT false s p q D out' r' k):uL P rs (dT false s p q D out r) (λe h'=>e=.pv (B b)/\h'=dT false s p q D out' r') st:=by
 refine BT d rfl a (z8 _ _ _ _ _ _ _) ⟨rfl,rfl⟩ (λk g f c=>?_);rcases se c with⟨h1,_⟩|⟨_,h1⟩
 .simp only[mi,up,Is]at h1
  have:k=291\/k=292\/k=293\/k=294\/k=295\/k=296\/k=297:=by omega
  rcases this with rfl|rfl|rfl|rfl|rfl|rfl|rfl<;>exact⟨_,rfl⟩
 .cases h1
theorem S6(s:Sce)(p q:List Int)(D:Nat)(hs:ScL s)(Y:p.length<=16777216)(ad:q.length<=16777216)(hD:D<=20):∀(f:Nat)(x:Pc)(out:List Pc),oW D x->D+1<=f+x.1.toNat->out.length<=4096->
 mR prog 120 (([Z x.1,Z x.2.1,aB x.2.2]:List PV).map .pv++ij) (dT false s p q D out jm) (λr9 h'=>r9=.pv (B (ou s p q D f x out).2.isNone)/\h'=dT false s p q D (ou s p q D f x out).1 ((ou s p q D f x out).2.getD jm))
 |0,x,out,hx,hf,_=>by have:=hx.2.1;omega
 |f+1,x,out,hx,hf,ho=>by
  have cp:=TX p q x.1 x.2.1 Y ad
  have M:de p q x=(qj p q x.1 x.2.1).1:=by rw[de,E1]
  have U:=UP s (de p q x) x.2.2 hs (by have:(de p q x).length<=p.length:=(by unfold de eX;split<;>simp;omega);omega) (by have:=hx.2.2.2.2;omega);have v:=Ae s (de p q x) x.2.2;have IH:=λ(y:Pc)(o:List Pc)(h1:oW D y)(h2:D+1<=f+y.1.toNat)(h3:o.length<=4096)=>S6 s p q D hs Y ad hD f y o h1 h2 h3;rw[ou];have A:dT false s p q D out jm 291=some (.box [.arr 298 out.length] false false):=rfl;have E:dT false s p q D out jm 292=some (.box [.pv (Z 0),tn,.pv (Z 0),.pv (Z 0),tn,.pv (Z 0),tn,tn] false false):=rfl;have F:dT false s p q D out jm 293=some (.box [.pv (zs p)] false false):=rfl;have G:dT false s p q D out jm 294=some (.box [.pv (zs q)] false false):=rfl;have H:dT false s p q D out jm 295=some (.box [.pv (.sl (s.js.map aQ)),.pv (.sl (s.ms.map bb)),.pv (.sl (s.shs.map ba)),.pv (.sl (s.sks.map aK))] false false):=rfl;have I:dT false s p q D out jm 296=some (.box [.pv (Z (D:Int))] false false):=rfl;have J:dT false s p q D out jm 297=some (.box [.fn (.func 120) [] ij] false false):=rfl;have K:dT false s p q D out jm 298=some (.row 65 3 (out.map jn) 0):=rfl;have W:dT false s p q D out jm 14=none:=rfl;have X:dT false s p q D out jm 17=none:=rfl;have j:=λ(b:Bool)(o':List Pc)(r':EdR)(rs:List ResultVar)(st:St)=>Qe (P:=prog) (rs:=rs) (st:=st) (s:=s) (p:=p) (q:=q) (D:=D) (out:=out) (out':=o') (r:=jm) (r':=r') (b:=b);have a6:∀k,dT false s p q D out jm k=dT false s p q D out jm k:=λ_=>rfl;obtain⟨m,l,xn⟩:=x;simp only at cp U M v hf;refine Nb func120 (z8 _ _ _ _ _ _ _) λC hP hN=>?_;generalize n:dT false s p q D out jm=H0 at *;simp only[Ea,ij,Z0,yA6,List.cons_append,List.nil_append]at *;by_cases c1:4096<=out.length
  .rw[YY c1]
   have L:(4096:Int)<=out.length:=by omega
   refine Gz ?_;refine j false out _ _ _ (by simp) ?_;intro k i
   have a:k≠14:=by rintro rfl;cases i
   have c:k≠17:=by rintro rfl;cases i
   by_cases e:k=292
   .subst e;simp[dT,tT]
   .rw[<-Co (r:=jm) e,n];simp[a,e]
  rw[YR c1]
  have L:¬(4096:Int)<=out.length:=by omega
  rw[M]at U v|-;clear M;generalize qj p q m l=R at *;obtain⟨bx,fl⟩:=R;simp only at cp U v|-;generalize cW s bx xn=V at *;obtain⟨kd,ns,⟨pr,wA,wF⟩⟩:=V;simp only at U v|-
  have q1:(out.length+1)*40<=140737488355328:=by omega
  have q2:out.length+1<=9223372036854775807:=by omega
  by_cases k1:kd=1
  .subst k1
   rw[YY rfl];refine Gz ?_;refine j true _ _ _ _ (by simp) ?_;intro k i
   have a:k≠14:=by rintro rfl;cases i
   have c:k≠17:=by rintro rfl;cases i
   by_cases e:k=291
   .subst e;simp[dT]
   by_cases e':k=298
   .subst e';simp[dT]
   .simp only[Option.getD_none];rw[<-Oq (out:=out) e e',n];simp[a,c,e,e']
  rw[YR k1]
  have ah:(kd==1)=false:=by simp[k1]
  by_cases k2:kd=2
  .subst k2
   rw[YY rfl];refine Gz ?_;refine j false out _ _ _ (by simp) ?_;intro k i
   have a:k≠14:=by rintro rfl;cases i
   have c:k≠17:=by rintro rfl;cases i
   by_cases e:k=292
   .subst e;simp[dT,tT]
   .rw[<-Co (r:=jm) e,n];simp[a,c,e]
  rw[YR k2]
  have aj:(kd==2)=false:=by simp[k2]
  by_cases k3:m<(D:Int)
  case neg=>
   rw[YR k3];refine Gz ?_;refine j false out _ _ _ (by simp) ?_;intro k i
   have a:k≠14:=by rintro rfl;cases i
   have c:k≠17:=by rintro rfl;cases i
   by_cases e:k=292
   .subst e;simp[dT,tT]
   .rw[<-Co (r:=jm) e,n];simp[a,c,e]
  rw[YY k3];have Q:=hx.half k3 v.1;obtain⟨p0,p1,p2,p3,-⟩:=hx;simp only at p0 p1 p2 p3
  have a7:l<1048576:=by
   have:=zW (d:=m) (by omega);omega
  have w1:i64.wrap (m+1)=m+1:=aa;have w2:i64.wrap (2*l)=2*l:=aa;have w3:i64.wrap (2*l+1)=2*l+1:=aa;have S:=IH (m+1,2*l,ns) out Q.1 (by simp only;omega) ho;have ak:=λ(o:List Pc)(h:o.length<=4096)=>IH (m+1,2*l+1,ns) o Q.2 (by simp only;omega) h;have u:=Cm (s:=s) (p:=p) (q:=q) (D:=D) f (m+1,2*l,ns) out ho;clear IH Q
  with_reducible repeat' (first|refine Sp.h ?_|((with_unfolding_all refine WP.takeP2 (pk:=mi) (hn:=[]) (f:=.tmp 62) (f2:=.tmp 71) 7 9 rfl rfl rfl rfl rfl ?_);simp -implicitDefEqProofs (maxSteps:=2000000) [hP,hN,A,E,F,G,H,I,J,K,W,X,c1,L,ah,aj,k3,w1,w2])|((first|refine Ss.h ?_|refine Sc.h (cp) ?_|refine Sc.h (U) ?_|(refine Sb.h ?_ ?_ ?_<;>(try intro hgd)<;>try exact Xy))<;>simp -implicitDefEqProofs (maxSteps:=2000000) [hP,hN,A,E,F,G,H,I,J,K,W,X,c1,L,ah,aj,k3,w1,w2])|refine X2 ?_ ?_|(refine Xd ?_ ?_<;>intro hcd<;>try exact Xx))
  refine Fg (own:=false) (g:=120) (args:=[Z (m+1),Z (2*l),aB ns]) (out:=out) (r:=jm) (by simp[St.ev,bA,ij]) (by simp[St.ev]) (by simp[dJ,hN]) ?_ (by rw[hP];exact S) ?_
  .intro k i
   have a:k≠14:=by rintro rfl;cases i
   have c:k≠17:=by rintro rfl;cases i
   rw[n];simp[a,c]
  intro h' N O;clear S;have z:=O 17 rfl;simp[eC,eK,bT]at z;generalize ou s p q D f (m+1,2*l,ns) out=R1 at *;obtain⟨o1,_|r1⟩:=R1
  .simp only[Option.getD_none,Option.isNone_none]at N u|-
   have tN:h' 297=some (.box [.fn (.func 120) [] ij] false false):=N 297 rfl;simp -implicitDefEqProofs (maxSteps:=2000000) [hP,hN,eC,eK,bT,jG,iR,mi,inK,z,tN,w1,w2,w3,ij];refine .inl ⟨by first|rfl|simp[dR],?_⟩;have T:=ak o1 u;refine Fg (own:=false) (g:=120) (args:=[Z (m+1),Z (2*l+1),aB ns]) (out:=o1) (r:=jm) (by simp[St.ev,bA,ij]) (by simp[St.ev]) (by simp[dJ,hN]) (λk i=>N k i) (by rw[hP];exact T) ?_;clear z tN N O T;intro h2 ar O;generalize ou s p q D f (m+1,2*l+1,ns) o1=R2 at *;obtain⟨o2,r2⟩:=R2;simp -implicitDefEqProofs (maxSteps:=2000000) [hP,hN,eC,eK,bT,jG,iR,mi,inK];refine Gz ?_;exact j _ _ _ _ _ (by simp) ar
  .simp only[Y8,Option.isNone_some]at N u|-
   have tN:h' 297=some (.box [.fn (.func 120) [] ij] false false):=N 297 rfl;simp -implicitDefEqProofs (maxSteps:=2000000) [hP,hN,eC,eK,bT,jG,iR,mi,inK,z,tN,w1,w2,w3,ij];refine .inr ?_;refine Gz ?_;exact j _ _ _ _ _ (by simp) N
theorem mR.norm{f:FuncId}{ps:List PV}{cs:List AV}{c:Hp}(d:mR P f ((ps.map Go.Ab.norm).map .pv++cs) c Post):mR P f (ps.map .pv++cs) c Post:=by
 refine⟨d.1,λw M L k g b a=>d.2 w M L k g b ⟨by simpa using a.1,λi p u hp e=>?_⟩⟩;rw[List.getElem?_append]at hp;simp only[Zm]at hp;split at hp
 .rename_i hi
  rw[YS,YS,an hi]at hp;injection hp with hp;subst hp;have h9:=a.2 i (.pv ps[i]) u (by rw[YT (by simpa using hi)];simp) e
  cases h9 with
  |pv j=>exact .pv (Eo j)
 .rename_i hi
  exact a.2 i p u (by rw[YX (by simp;omega)];simpa using hp) e
set_option maxRecDepth 100000 in
@[simp] theorem Up:gW prog 119:=by
 have hf:=func119;have nt:=ntmps119;have rs:=results119;exact PI
theorem Xk(s:Sce)(p q:List Int)(D:Nat)(hs:ScL s)(l:ao s=0)(hp:aX s.js s.ms p=true)(hq:aX s.js s.ms q=true)(z:p.length<=16777216)(A:q.length<=16777216)(F:D<=20):mD 70 (aW s) (zs p) (zs q) (Z (D:Int)) (NX (nF s p q D)):=by
 rw[<-Qc (by simp[Jy,l,hp,hq]) F];have cs:=HA s hs;have B:=Lk s.js s.ms p hs.js hs.ms;have E:=Lk s.js s.ms q hs.js hs.ms;rw[l]at cs;rw[hp]at B;rw[hq]at E
 have m:¬(D:Int)<0:=by omega
 have n:¬(20:Int)<D:=by omega
 have H:=S6 s p q D hs z A F (D+1) (0,0,[]) [] ⟨by simp,by simp,by simp,by simp,by simp⟩ (by simp) (by simp)
 have G:Qb s p q D=match ou s p q D (D+1) (0,0,[]) []with
  |(o,none)=>⟨1,o,0,0,⟨0,[],[]⟩⟩
  |(_,some r)=>r:=rfl
 rw[G];have u:=λr=>Cn (s:=s) (p:=p) (q:=q) (D:=D) (D+1) (0,0,[]) [] r;clear G l hp hq;generalize ou s p q D (D+1) (0,0,[]) []=R at *;obtain⟨js,ms,J,sks⟩:=s;simp only at B E;refine Dp func70 λC hP hN=>?_
 with_reducible iterate 24 any_goals (first|refine Sp.h ?_|((first|refine Ss.h ?_|refine Sc.h (cs) ?_|refine Sc.h (B) ?_|refine Sc.h (E) ?_|(refine Sb.h ?_ ?_ ?_<;>(try intro hgd)<;>try exact Xy))<;>simp -implicitDefEqProofs (maxSteps:=2000000) [hP,hN,m,n])|refine X2 ?_ ?_|(refine Xd ?_ ?_<;>intro hcd<;>try exact Xx))
 refine WP.ren 4 295 (by decide) (by simp) (by decide) (by simp) ?_;refine WP.ren 5 293 (by decide) (by simp) (by decide) (by simp) ?_;refine WP.ren 6 294 (by decide) (by simp) (by decide) (by simp) ?_;refine WP.ren 7 296 (by decide) (by simp) (by decide) (by simp) ?_;refine WP.ren 8 292 (by decide) (by simp) (by decide) (by simp) ?_;refine WP.ren 9 291 (by decide) (by simp) (by decide) (by simp) ?_;refine WP.ren 10 297 (by decide) (by simp) (by decide) (by simp) ?_;refine WP.nilRowsE (λk=>decide (k=298)) (λ_=>(65,3)) 291 (cs:=[.pv (.val (.slice none 0 0))]) (cs':=[.arr 298 0]) (own:=true) (fb:=false) (by simp) ?_ rfl ?_ ?_
 .intro k b
  have b:=of_decide_eq_true b;subst b;simp
 .intro i x I
  rcases i with _|i<;>simp at I<;>subst I<;>simp
 refine WP.of_st (P:=λst=>st.t 8=.ptr 292 0/\st.t 9=.ptr 291 0/\st.t 10=.ptr 297 0/\∀k,inK k=true->st.h k=dT true ⟨js,ms,J,sks⟩ p q D [] jm k) ⟨?_,?_⟩
 .refine⟨by simp,by simp,by simp,λk b=>?_⟩
  by_cases e:k<=298
  .simp only[inK,up,Is]at b
   have:k=290\/k=291\/k=292\/k=293\/k=294\/k=295\/k=296\/k=297\/k=298:=by omega
   rcases this with rfl|rfl|rfl|rfl|rfl|rfl|rfl|rfl|rfl<;>simp[dT,tT,jm,ij]
  .simp[dT,o8,show¬k=291 by omega,show¬k=292 by omega,show¬k=293 by omega,show¬k=294 by omega,show¬k=295 by omega,show¬k=296 by omega,show¬k=297 by omega,show¬k=298 by omega,show¬k=4 by omega,show¬k=5 by omega,show¬k=6 by omega,show¬k=7 by omega,show¬k=8 by omega,show¬k=9 by omega,show¬k=10 by omega]
 rintro st ⟨c,d,a,v⟩;have tN:st.h 297=some (.box [.fn (.func 120) [] ij] true false):=v 297 rfl
 with_reducible repeat' (first|refine Sp.h ?_|((with_unfolding_all refine WP.takeP (pk:=mi) (hn:=[]) (f:=.tmp 38) (pre:=[_]) (post:=[]) rfl rfl rfl ?_);simp -implicitDefEqProofs (maxSteps:=2000000) [hP,hN,c,d,a,tN])|((first|refine Ss.h ?_|(refine Sb.h ?_ ?_ ?_<;>(try intro hgd)<;>try exact Xy))<;>simp -implicitDefEqProofs (maxSteps:=2000000) [hP,hN,c,d,a,tN])|refine X2 ?_ ?_|(refine Xd ?_ ?_<;>intro hcd<;>try exact Xx))
 refine Fg (own:=true) (g:=120) (args:=[Z 0,Z 0,.val (.slice none 0 0)]) (out:=[]) (r:=jm) (by simp[St.ev,bA,ij]) (by simp[St.ev]) (by simp[dJ,hN]) v (by rw[hP];exact mR.norm (ps:=[Z 0,Z 0,.val (.slice none 0 0)]) H) ?_;intro h' j y;have f291:h' 291=some (.box [.arr 298 R.1.length] true false):=j 291 rfl;have f292:h' 292=some (.box (tT (R.2.getD jm)) true false):=j 292 rfl;have f298:h' 298=some (.row 65 3 (R.1.map jn) 0):=j 298 rfl;clear j y H tN v;obtain⟨o,_|r⟩:=R
 .simp only[Option.getD_none,Option.isNone_none,tT,jm]at f291 f292 f298|-
  simp -implicitDefEqProofs (maxSteps:=2000000) [hP,hN,eC,eK,bT,jG,iR,mi,inK,c,d,a,f291,f292,f298];exact Gy
 .simp only[Y8,Option.isNone_some,tT]at f291 f292 f298|-
  simp -implicitDefEqProofs (maxSteps:=2000000) [hP,hN,eC,eK,bT,jG,iR,mi,inK,c,d,a,f291,f292,f298];by_cases b:r.kind=2
  .simp only[YY b]at f292
   exact Gy
   all_goals exact(u r rfl).1
  .simp only[YR b]at f292
   exact Gy
   all_goals exact⟨(u r rfl).1,(u r rfl).2 b⟩
section
variable {C:Cx} {Q:Exit->St->Prop} {st:St}
theorem zn{t:TypeId}{x:Operand}{f off sz:Nat}{σ:Operand->Value}{cs:Array Value}{v:Value}(c:o.op=.field t x f)(a:ly P t f=some (false,off,sz))(g:σ x=.agg cs)(e:cs[off]?=some v):al P (execOp σ o)=some (.value v):=by
 unfold ly at a;split at a
 .rename_i l d
  split at a
  .rename_i k b
   split at a
   .rename_i i j ha m
    injection a with a;injection a with hk1 a;injection a with hk2 hk3;subst hk1;subst hk2;subst hk3;unfold execOp;rw[c];simp only[g]
    have h1:al P (Instr.field t (.agg cs) f)=some v:=by
     unfold Instr.field;rw[af,cG d,Y3];simp only[b,asAgg,pure_bind];exact mU ha e
    rw[af,h1];rfl
   .cases a
  .cases a
 .cases a
def PG(C:Cx)(hn:List Nat)(ops:Array Oper)(Q:St->Prop)(t:TypeId)(f:Nat)(x:Operand)(d:Option Nat)(post:List Oper)(st:St):Prop:=
 ∃off b a v,ly C.P t f=some (false,off,b)/\st.ev x=.pv (.agg a)/\a[off]?=some (.val v)/\dJ C.N d=true/\cw C.P hn C.N ops Q post (st.put d (.pv (.val v)) [])
theorem WP.fldAt(n:Nat){t:TypeId}{x:Operand}{f:Nat}(D:ops.toList[n]?=some o)(k:o.op=.field t x f)(J:o.guard=none)
 (hq:cw C.P hn C.N ops (PG C hn ops (Q .normal) t f x o.dst (ops.toList.drop (n+1))) (ops.toList.take n) st):WP C (.region id ops false) Q st:=by
 intro a w S;refine wp_region_list ?_;have R:=(th.1 D).1;have I:=(th.1 D).2;rw[show ops.toList=ops.toList.take n++o::ops.toList.drop (n+1) by rw[<-I,yAf,ZQ]];refine fh (λA a1 w1 q m=>?_) S hq;obtain⟨off,V,U,v,M,y,G,i,b⟩:=m;obtain⟨L,B,hN,j,F⟩:=q;refine wpList_step (λK H=>?_);rw[eI J,YY rfl];have e:=bB F x;rw[y]at e
 obtain⟨g,r,s⟩:∃g:Array Value,a1.eval x=.agg g/\g[off]?=some v:=by
  cases e with
  |pv E=>
   generalize a1.eval x=u at E
   cases E with
   |agg _ g O h=>
    have c:off<g.length:=by rw[<-O];exact(th.1 G).1
    have h9:=h off _ _ G (an c);refine⟨_,rfl,?_⟩;rw[<-aJ h9];simp[c]
 have d:=eJ (zn (σ:=a1.eval) k M r s) w1;unfold Oper.wp;rw[d];refine H _ _ ?_;refine fu (λz T w' p l=>⟨z,p,l⟩) (st:=A.put o.dst (.pv (.val v)) []) ?_ b;exact dH.put B hN j F i (.refl B) (.pv (.val v))
end
def wX(off:Nat)(o:Oper):Oper:={o with after:=(o.after.filter λe=>decide (off<=e.on)).map λe=>{e with on:=e.on-off}}
def gD(l:List Oper)(off m:Nat):Array Oper:=(((l.drop off).take m).map (wX off)).toArray
def Lj(X:Act->World->Prop)(Q:Exit->Act->World->Prop):Exit->Act->World->Prop
 |.normal=>X
 |.exit i=>Q (.exit i)
 |.goto i=>Q (.goto i)
 |.ret=>Q .ret
 |.panic c=>Q (.panic c)
 |.outgrown=>Q .outgrown
def Nm(ops:Array Oper)(n:Nat):Bool:=
 let a:=gO ops.toList []
 ((List.range n).all λi=>(a.getD n 0).testBit i)&&((List.range ops.size).all λt=>decide (t<=n)||(a.getD t 0).testBit n)&&ops.toList.all λo=>o.guard.isNone
section
variable {P:Program} {ops:Array Oper} {Q:Exit->Act->World->Prop}
theorem Nn{off:Nat}{a:Act}{w:World}{K d:Act->World->Prop}{X:Act->World->Prop}(h:∀a w,K a w->d a w)(b:(wX off o).wp P a w K (Lj X Q)):o.wp P a w d Q:=by
 unfold Oper.wp at *;rw[show execOp a.eval (wX off o)=execOp a.eval o from rfl]at b;generalize(execOp a.eval o).run P w=r at *
 cases r with
 |ok n w'=>
  cases n<;>simp only[Oper.upon]at b|-<;>
   first
    |exact h _ _ b
    |exact Calls.mono b (λe f c=>by cases e<;>first|exact h _ _ c|exact c)
    |exact Rows.mono b (λ_ _ c=>h _ _ c)
 |halt x w'=>cases x<;>simp only[Oper.upon]at b|-<;>exact b
structure SegR(ops:Array Oper)(off m:Nat)(listed' listed:Array Bool):Prop where
 s1:listed.size=ops.size
 s2:listed'.size=m
 pre:∀i,i<off->listed.getD i false=true
 mid:∀i,i<m->listed.getD (off+i) false=listed'.getD i false
 tail:∀t,off+m<=t->t<ops.size->listed.getD t false=false
 closed:∀i j,iI ops i j->listed.getD j false=true->listed.getD i false=true
theorem ni{l:Array Bool}(h:i<l.size)(b c:Bool):l.getD i b=l.getD i c:=by simp[h]
variable {off m:Nat}
theorem A1(a:off+m<=ops.size)(hi:i<m):∃o,ops[off+i]?=some o/\(gD ops.toList off m)[i]?=some (wX off o):=by
 have h:off+i<ops.size:=by omega
 refine⟨ops[off+i],Zy h,?_⟩;simp[gD,Zj,hi,h]
theorem rR(a:off+m<=ops.size):(gD ops.toList off m).size=m:=by
 simp[gD];omega
theorem JX(a:off+m<=ops.size)(h:iI (gD ops.toList off m) i j):j<m:=by
 obtain⟨o,b,_⟩:=h;have:=(Zp.1 b).1
 rwa [rR a]at this
theorem JY(c:off+m<=ops.size)(h:iI (gD ops.toList off m) i j):iI ops (off+i) (off+j):=by
 have f:=JX c h;obtain⟨o,g,e,b,hb,a⟩:=h;obtain⟨k,h1,h2⟩:=A1 (ops:=ops) c f;rw[g]at h2;injection h2 with h2;subst h2;simp only[wX,Array.toList_map,Array.toList_filter,Zg,ZV,Is]at b;obtain⟨d,⟨a1,a2⟩,rfl⟩:=b;exact⟨k,h1,d,a1,hb,by simp only at a;omega⟩
theorem PJ(c:off+m<=ops.size){q:Nat}(b:j<m)(hq:off<=q)(h:iI ops q (off+j)):iI (gD ops.toList off m) (q-off) j:=by
 obtain⟨o,d,e,a,hb,f⟩:=h;obtain⟨g,h1,h2⟩:=A1 (ops:=ops) c b;rw[d]at h1;injection h1 with h1;subst h1;refine⟨_,h2,{e with on:=e.on-off},?_,hb,by simp only;omega⟩;simp only[wX,Array.toList_map,Array.toList_filter,Zg,ZV,Is];exact⟨e,⟨a,by omega⟩,rfl⟩
theorem Da(a:fH ops=true)(c:off+m<=ops.size){l:Array Bool}(R:SegR ops off m l' l)(hi:i<m):i∈Region.ready .any (gD ops.toList off m) l'↔off+i∈Region.ready .any ops l:=by
 rw[bW,bW,rR c]
 have d:aA l' i=aA l (off+i):=by
  unfold aA;rw[ni (by rw[R.s2];exact hi) true false,ni (l:=l) (by rw[R.s1];omega) true false,R.mid i hi]
 rw[d];constructor
 .rintro⟨_,h2,h3⟩
  refine⟨by omega,h2,λq hq=>?_⟩;by_cases e:q<off
  .exact R.pre q e
  .have b:=iu a hq
   have h4:=h3 _ (PJ c hi (by omega) hq);rw[<-R.mid (q-off) (by omega)]at h4
   rwa [show off+(q-off)=q by omega]at h4
 .rintro⟨_,h2,h3⟩
  refine⟨hi,h2,λq hq=>?_⟩;have h4:=JY c hq;have b:=iu a h4;rw[<-R.mid q (by omega)];exact h3 _ h4
theorem SegR.set(d:off+m<=ops.size){l:Array Bool}(R:SegR ops off m l' l)(hi:i<m)(c:off+i∈Region.ready .any ops l):SegR ops off m (l'.setIfInBounds i true) (l.setIfInBounds (off+i) true):=by
 have b:=(bW.1 c).2.2;refine⟨by simp[R.s1],by simp[R.s2],λk a=>getD_set_true (R.pre k a),λk a=>?_,λt h1 h2=>?_,λp q hd hq=>?_⟩
 .by_cases e:i=k
  .subst e
   have a1:i<l'.size:=by rw[R.s2];exact a
   have a2:off+i<l.size:=by rw[R.s1];omega
   simp[a1,a2]
  .rw[getD_set_ne false (by omega),getD_set_ne false e];exact R.mid k a
 .rw[getD_set_ne false (by omega)];exact R.tail t h1 h2
 .by_cases e:off+i=q
  .subst e;exact getD_set_true (b p hd)
  .rw[getD_set_ne false e]at hq
   exact getD_set_true (R.closed p q hd hq)
theorem G9(a:fH ops=true)(c:off+m<=ops.size){l:Array Bool}(R:SegR ops off m l' l)(e:Region.ready .any (gD ops.toList off m) l'=[]):∀j,j<m->l'.getD j false=true:=by
 intro j
 induction j using Nat.strongRecOn with
 |_ j ih=>
  intro b
  cases d:l'.getD j false with
  |true=>rfl
  |false=>
   have:j∈Region.ready .any (gD ops.toList off m) l':=bW.2 ⟨by rw[rR c];exact b,by unfold aA;rw[ni (by rw[R.s2];exact b) true false];exact d,λq hq=>by
    have:=iu a (JY c hq)
    exact ih q (by omega) (by omega)⟩
   rw[e]at this;cases this
theorem Db(b:fH ops=true)(C:∀o∈ops.toList,o.guard=none)(e:off+m<=ops.size)
 (g:∀l' l,SegR ops off m l' l->(∃i,i<m/\l'.getD i false=false)->∀t,off+m<=t->t∉Region.ready .any ops l){X:Act->World->Prop}
 (x:∀l' l a w,SegR ops off m l' l->(∀i,i<m->l'.getD i false=true)->X a w->∀F,ops.size-(off+m)<=F->wpAny P .any ops Q F l a w):
 ∀(f:Nat)(l' l:Array Bool)(a:Act)(w:World),SegR ops off m l' l->wpAny P .any (gD ops.toList off m) (Lj X Q) f l' a w->∀F,f+(ops.size-(off+m))<=F->wpAny P .any ops Q F l a w:=by
 intro f
 induction f with
 |zero=>
  intro l' l a w R h F hF;exact x l' l a w R (G9 b e R h.1) h.2 F (by omega)
 |succ f ih=>
  intro l' l a w R h F hF;by_cases q:Region.ready .any (gD ops.toList off m) l'=[]
  .exact x l' l a w R (G9 b e R q) (h.1 q) F (by omega)
  obtain⟨y,d⟩:=List.exists_mem_of_ne_nil _ q
  have c:y<m:=by have:=(bW.1 d).1;rwa [rR e]at this
  have u:∃i,i<m/\l'.getD i false=false:=⟨y,c,by
   have:=(bW.1 d).2.1;unfold aA at this
   rwa [ni (by rw[R.s2];exact c) true false]at this⟩
  obtain⟨n,rfl⟩:∃n,F=n+1:=⟨F-1,by omega⟩;refine⟨λB=>?_,λi hi=>?_⟩
  .have:=(Da b e R c).1 d
   rw[B]at this;cases this
  .have r:=bW.1 hi
   have h1:¬i<off:=λh9=>by
    have:=R.pre i h9;have h8:=r.2.1;unfold aA at h8;rw[ni (by rw[R.s1];omega) true false,this]at h8;cases h8
   have h2:¬off+m<=i:=λh9=>g l' l R u i h9 hi;obtain⟨k,rfl⟩:∃k,i=off+k:=⟨i-off,by omega⟩
   have p:k<m:=by omega
   have s:=(Da b e R p).2 hi;obtain⟨o,v,A⟩:=A1 (ops:=ops) e p;have j:o.guard=none:=C o (by rw[Array.mem_toList_iff];exact Array.mem_of_getElem? v);have h3:=h.2 k s;unfold wpOp at h3|-;rw[A]at h3;rw[v];simp only at h3|-;rw[eI (o:=wX off o) j,YY rfl]at h3;rw[eI j,YY rfl];refine h3.imp (Nn λz w' h4=>ih _ _ z w' (R.set e p hi) h4 n (by omega)) ?_;rintro⟨a1,a2,a3,a4⟩;exact⟨a1,a2,a3,a4⟩
end
section
variable {C:Cx} {ops:Array Oper} {st:St} {hn:List Nat} {off m:Nat}
theorem Oa(c:∀o∈ops.toList,o.guard=none)(d:o∈ops.toList){b:Array Oper}{f:Ef}(h:qg C.P hn C.N ops o st f):qg C.P hn C.N b (wX off o) st f:=by
 have a:=c o d;obtain⟨h1,h2,h3⟩:=h;refine⟨h1,h2,?_⟩;rcases h3 with⟨a1,a2,a3,a4⟩|⟨a1,_⟩
 .refine .inl ⟨?_,a2,a3,a4⟩
  show dR b st.t o.guard=some true;rw[a];rfl
 .rw[a]at a1;cases a1
theorem ES(d:fH (gD ops.toList off m)=true)(l:off+m<=ops.size)(v:∀o∈ops.toList,o.guard=none)(h:jX C.P hn C.N ops (λg st=>gX (gO (gD ops.toList off m).toList []) g=true/\K st) ((ops.toList.drop off).take m) [] st)
 {a:Act}{w:World}(hs:dH C st a w){Q':Exit->Act->World->Prop}(u:∀st a w,dH C st a w->K st->Q' .normal a w):wpAny C.P .any (gD ops.toList off m) Q' m (Array.replicate m false) a w:=by
 obtain⟨fs,h1,h2,h3,h4⟩:=yq h;have b:=rR (ops:=ops) l
 have x:fs.length=m:=by rw[h1];simp;omega
 refine EJ (hn:=hn) (fs:=fs) (st:=st) d (by rw[x,b]) (λi o f q hf=>?_) (by simpa using h3) (λa w hs=>u _ _ _ hs h4) _ _ _ _ (by simp[b]) ?_ ?_ ?_
 .have hi:i<m:=by have:=(Zp.1 q).1;omega
  obtain⟨r,p,e⟩:=A1 (ops:=ops) l hi;rw[q]at e;injection e with e;subst e
  have s:((ops.toList.drop off).take m)[i]?=some r:=by simp[Zj,hi,p]
  exact Oa v (by rw[Array.mem_toList_iff];exact Array.mem_of_getElem? p) (h2 i r f s hf)
 .refine yAs (yAX _ _) (by simp[b])
 .intro i j hd c
  have k:=JX l hd;unfold aA at c;rw[YZ,yAG,YY k]at c;cases c
 .have:dX fs (gD ops.toList off m).size st (aA (Array.replicate m false))=st:=by
   rw[b]
   have hf:∀j,j<m->aA (Array.replicate m false) j=false:=by
    intro j c;unfold aA;rw[YZ,yAG,YY c];rfl
   have y:∀{V:Type}(wr:Nat->Option V)(x0:V),gM m wr x0 (aA (Array.replicate m false))=x0:=by
    intro V wr x0;rw[dm (ls':=λ_=>false) (λj c _=>hf j c)]
    have:∀n,gM n wr x0 (λ_=>false)=x0:=by
     intro n;induction n with
     |zero=>rfl
     |succ n ih=>rw[i9];simp[ih]
    exact this _
   cases st;unfold dX;simp[y]
  rw[this];exact hs
theorem WP.drawTake(pk:Nat->Bool)(n:Nat)(ho:ops.toList[n]?=some o)(b7:o.op=.call {callee:=.value f,args:=xs.toArray,argTypes:=ats})(b5:C.P.follows .mixedOrders=true)
 (b:fH ops=true)(y:Nm ops n=true)(b8:fH (gD ops.toList 0 n)=true)(W:fH (gD ops.toList (n+1) (ops.toList.length-(n+1)))=true)
 (h:jX C.P hn C.N ops (λacc u=>gX (gO (gD ops.toList 0 n).toList []) acc=true/\nZ pk C (λx=>jX C.P hn C.N ops (λacc st=>gX (gO (gD ops.toList (n+1) (ops.toList.length-(n+1))).toList []) acc=true/\Q .normal st) (ops.toList.drop (n+1)) [] x) f xs o.dst u) (ops.toList.take n) [] st):WP C (.region id ops true) Q st:=by
 intro a w U
 have s:n<ops.size:=by have:=(th.1 ho).1;simpa using this
 have O:ops[n]?=some o:=by simpa using ho
 have ca:ops.toList.length=ops.size:=ZX;rw[ca]at W h;simp only[Nm,up]at y;obtain⟨⟨aj,ak⟩,ar⟩:=y
 have z:∀o∈ops.toList,o.guard=none:=λo ho=>by
  have:=L4.1 ar o ho;simpa using this
 have ah:∀i,i<n->Pre ops i n:=λi hi=>nS (l:=ops.toList) (acc:=[]) (λj=>by simp) (λi j h=>by simp at h) i n (L4.1 aj i (Zw.2 hi))
 have A:∀t,n<t->t<ops.size->Pre ops n t:=λt h1 h2=>nS (l:=ops.toList) (acc:=[]) (λj=>by simp) (λi j h=>by simp at h) n t (by
  have:=L4.1 ak t (Zw.2 h2);simp only[ZI,Is]at this
  exact this.resolve_left (by omega))
 have c:∀{m:Nat}{l' l:Array Bool},SegR ops 0 m l' l->∀{i t:Nat},Pre ops i t->t∈Region.ready .any ops l->l.getD i false=true:=by
  intro m l' l R i t hp G;have hd:=(bW.1 G).2.2
  cases hp with
  |one h=>exact hd _ h
  |step h1 h2=>exact nX (ls:=λi=>l.getD i false) (λi j a7 hj=>R.closed i j a7 hj) h1 (hd _ h2)
 refine wp_region_any b5 ?_
 have V:dH C st a {w with drawn:=w.drawn+1}:=by
  obtain⟨L,hm,hN,a6,v⟩:=U;have z:=hm.grow (Ext.drew (λ_=>False) w);exact⟨L,z.1,hN,a6,λn=>(v n).mono z.2 (KC.refl _ _)⟩
 generalize{w with drawn:=w.drawn+1}=w0 at V
 have d:∀k j:Nat,(Array.replicate k false).getD j false=false:=λk j=>by
  rcases Nat.lt_or_ge j k with h|h<;>simp[h]
 refine Db (off:=0) (m:=n) b z (by omega) (λl' l R ad t v G=>?_) (X:=λa w=>∃u,dH C u a w/\nZ pk C (λx=>jX C.P hn C.N ops (λacc st=>gX (gO (gD ops.toList (n+1) (ops.size-(n+1))).toList []) acc=true/\Q .normal st) (ops.toList.drop (n+1)) [] x) f xs o.dst u) ?_ n (Array.replicate n false) (Array.replicate ops.size false) a w0 ?_ ?_ ops.size (by omega)
 .obtain⟨i,hi,K⟩:=ad
  rw[ZS]at v;have cc:=(bW.1 G).1;by_cases e:t=n
  .subst e
   have:=c R (ah i hi) G;have h9:=R.mid i hi;rw[ZS]at h9;rw[<-h9,this]at K;cases K
  .have:=c R (A t (by omega) cc) G
   rw[R.tail n (by omega) s]at this;cases this
 .rintro l' l a1 w1 R I ⟨u,Z,cb⟩ F hF
  obtain⟨H,rfl⟩:∃H,F=H+1:=⟨F-1,by omega⟩
  have r:∀i,i<n->l.getD i false=true:=λi hi=>by
   have:=R.mid i hi;rw[ZS,I i hi]at this;exact this
  have M:=R.tail n (by omega) s;have T:n∈Region.ready .any ops l:=bW.2 ⟨s,by unfold aA;rw[ni (by rw[R.s1];exact s) true false];exact M,λq hq=>r q (iu b hq)⟩;refine⟨λh0=>(by rw[h0]at T;cases T),λi hi=>?_⟩;have J:=bW.1 hi
  have a8:i=n:=by
   rcases yAw i n with h9|h9|h9
   .have h8:=J.2.1
    unfold aA at h8;rw[ni (by rw[R.s1];omega) true false,r i h9]at h8;cases h8
   .exact h9
   .have:=c R (A i h9 J.1) hi
    rw[M]at this;cases this
  subst a8;have E:=z o (by rw[Array.mem_toList_iff];exact Array.mem_of_getElem? O);have B:=qY (pk:=pk) (ops:=ops) (post:=[]) (Q':=Lj (λa w=>wpAny C.P .any ops (λe a w=>∃g,dH C g a w/\Q e g) H (l.setIfInBounds i true) a w) (λe a w=>∃g,dH C g a w/\Q e g)) (λx a2 w2 b9 bq=>?_) b7 (by rw[E];rfl) Z cb
  .unfold wpOp
   rw[O];simp only[eI E,Za];unfold wpList at B;rw[eI E,YY rfl]at B;exact B.imp (Nn (off:=0) λa' w' h4=>h4) λ⟨b1,b2,b3,b4⟩=>⟨b1,b2,b3,b4⟩
  .show wpAny C.P .any ops _ H (l.setIfInBounds i true) a2 w2
   have Y:(l.setIfInBounds i true).getD i false=true:=by
    have:i<l.size:=by rw[R.s1];exact s
    simp[this]
   refine Db (off:=i+1) (m:=ops.size-(i+1)) b z (by omega) (λl' l R ad t v G=>by have:=(bW.1 G).1;omega) (X:=λa w=>∃g,dH C g a w/\Q .normal g) (λcd l2 a w R2 D hx F hF=>?_) (ops.size-(i+1)) (Array.replicate _ false) _ a2 w2 ?_ (ES W (by omega) z (by rw[Zh (by simp)];exact bq) b9 λst a w U hq=>⟨st,U,hq⟩) H (by omega)
   .have S:Region.ready .any ops l2=[]:=List.eq_nil_iff_forall_not_mem.2 λt v=>by
     have h8:=bW.1 v;have h9:=h8.2.1;unfold aA at h9;rw[ni (by rw[R2.s1];exact h8.1) true false]at h9;by_cases e:t<i+1
     .rw[R2.pre t e]at h9;cases h9
     .have h7:=R2.mid (t-(i+1)) (by omega)
      rw[show i+1+(t-(i+1))=t by omega,D _ (by omega),h9]at h7;cases h7
    cases F with
    |zero=>exact⟨S,hx⟩
    |succ F=>exact⟨λ_=>hx,λt v=>(by rw[S]at v;cases v)⟩
   .refine⟨by simp[R.s1],by simp,λk hk=>?_,λk hk=>?_,λt h1 h2=>by omega,λp q hd hq=>?_⟩
    .by_cases e:k=i
     .subst e;exact Y
     .exact getD_set_true (r k (by omega))
    .rw[getD_set_ne false (by omega),R.tail _ (by omega) (by omega),d]
    .by_cases e:i=q
     .subst e;exact getD_set_true (r p (iu b hd))
     .rw[getD_set_ne false e]at hq;exact getD_set_true (R.closed p q hd hq)
 .exact⟨by simp,by simp,λi hi=>by omega,λi hi=>by rw[d,d],λt _ _=>d _ _,λi j _ hj=>by rw[d]at hj;cases hj⟩
 .exact ES b8 (by omega) z (by rw[yA7];exact h) V λst a w U hk=>⟨st,U,hk⟩
end
abbrev Cf:=Mov×Mov
def rf(A:Sce)(D:Nat)(Pa Pb:List (List Int))(x y:Mov):Bool:=decide ((nF A (bF Pa x.f++bF Pb y.f) (bF Pa x.t++bF Pb y.t) D).kind≠1)
def kB(A:Sce)(D:Nat)(Pa Pb:List (List Int))(x:Mov)(bs:List Mov):List Cf:=(bs.filter (rf A D Pa Pb x)).map λy=>(x,y)
def iy(A:Sce)(D:Nat)(Pa Pb:List (List Int))(us bs:List Mov):List Cf:=us.flatMap λx=>kB A D Pa Pb x bs
theorem Be{D:Nat}{x y:Mov}{bs:List Mov}(h:bs[j]?=some y):kB A D Pa Pb x (bs.take (j+1))=if rf A D Pa Pb x y=true then kB A D Pa Pb x (bs.take j)++[(x,y)]else kB A D Pa Pb x (bs.take j):=by
 obtain⟨b,a⟩:=th.1 h;unfold kB;rw[ZC b,yAt,yAH,a];by_cases h:rf A D Pa Pb x y=true
 .rw[YY h];simp[h]
 .rw[YR h];simp[h]
theorem ID{D:Nat}{x:Mov}{bs:List Mov}(h:us[i]?=some x):iy A D Pa Pb (us.take (i+1)) bs=iy A D Pa Pb (us.take i) bs++kB A D Pa Pb x bs:=by
 obtain⟨hi,a⟩:=th.1 h;unfold iy;rw[ZC hi,List.flatMap_append,a];simp
theorem IE{D:Nat}{x:Mov}{bs:List Mov}(j:Nat):(kB A D Pa Pb x (bs.take j)).length<=(kB A D Pa Pb x bs).length:=by
 unfold kB;rw[Zm,Zm];exact((List.take_sublist j bs).filter _).length_le
theorem IF{D:Nat}{bs:List Mov}(i:Nat):(iy A D Pa Pb (us.take i) bs).length<=(iy A D Pa Pb us bs).length:=by
 have h:iy A D Pa Pb us bs=iy A D Pa Pb (us.take i) bs++iy A D Pa Pb (us.drop i) bs:=by
  unfold iy;rw[<-List.flatMap_append,ZQ]
 rw[h,Zb];omega
def lR(L:List Cf):Hp:=λk=>if k=291 then some (.row 89 6 (L.map dG) 0)else none
theorem sc{L:List Cf}{b:Blk}(h:lR L k=some b):k=291/\b=.row 89 6 (L.map dG) 0:=by
 unfold lR at h;split at h
 .rename_i e;injection h with h;exact⟨e,h.symm⟩
 .cases h
theorem zY(L:List Cf):LookH (lR L):=by
 refine⟨λk b h=>?_,λk b o h=>?_,λk b h=>?_,λk a o f h=>?_⟩
 .obtain⟨rfl,_⟩:=sc h;rfl
 .obtain⟨_,rfl⟩:=sc h;intro h9;simp[Blk.frz]at h9
 .obtain⟨_,rfl⟩:=sc h;rfl
 .obtain⟨_,h1⟩:=sc h;cases h1
theorem tf{L:List Cf}(h:k≠291):lR L k=none:=YR h
theorem P5{L:List Cf}(c:∀k,inK k=true->h k=lR L k):dZ (λ_=>false) h=lR L:=by
 funext k
 unfold dZ;by_cases a:inK k=true
 .rw[YY a,c k a];rfl
 .rw[YR a]
  cases d:lR L k with
  |none=>rfl
  |some b=>obtain⟨rfl,_⟩:=sc d;exact absurd rfl a
theorem Ok{L:List Cf}(a:inK k=true):ek (λ_=>false) h (lR L) k=lR L k:=by
 unfold ek;rw[YY a];rfl
theorem P6{C:Cx}{Q:St->Prop}{d:Option Nat}{L:List Cf}{g:FuncId}{args:List AV}{e:AV->List Cf->Prop}(j:bA (st.ev f)=some (g,[],[]))(c:xs.map st.ev=args)(l:args.all m7=true)(hd:dJ C.N d=true)(i:∀k,inK k=true->st.h k=lR L k)
 (p:mR C.P g args (lR L) (λr h'=>∃L',h'=lR L'/\e r L'))
 (h:∀r h' L',e r L'->(∀k,inK k=true->h' k=lR L' k)->(∀k,inK k=false->h' k=(st.h k).map (nh λ_=>false))->Q (St.put ⟨λn=>eC (λ_=>false) (st.t n),h'⟩ d r [])):nZ (λ_=>false) C Q f xs d st:=by
 have hL:=zY L;refine⟨_,[],_,j,⟨λk b o a hb=>hL.nf k b o (by rw[<-i k a];exact hb),λk b a hb=>hL.nm k b (by rw[<-i k a];exact hb),λk m o f a hb=>hL.cl k m o f (by rw[<-i k a];exact hb),λk m f a hb=>?_,λk b a=>by cases a⟩,by rw[yAJ,c,P5 i];exact p,by rw[yAJ,c];exact l,hd,λr h' _ _ hp=>?_⟩
 .rw[i k a]at hb
  obtain⟨_,h1⟩:=sc hb;cases h1
 .obtain⟨L',rfl,hp⟩:=hp
  exact h r _ L' hp (λk a=>Ok a) (λk a=>by unfold ek;rw[YR (by rw[a];decide)])
theorem J8{b L:List Cf}{r:AV}(h1:st.h 291=some (.row 89 6 (L.map dG) 0))(h2:∀k,inK k=true->k≠291->st.h k=none)(d:mf P st rs=some r)(c:m7 r=true)(hp:Post r (lR L)):uL P rs (lR b) Post st:=by
 refine BT (H:=lR L) d c (λk a=>?_) (zY _) hp (λk g f a=>?_)
 .by_cases e:k=291
  .subst e;exact h1
  .rw[h2 k a e,tf e]
 .obtain⟨_,h9⟩:=sc a;cases h9
def CH(L:List Cf)(st:St):Prop:=st.h 291=some (.row 89 6 (L.map dG) 0)/\st.h 290=none/\∀k,291<k->st.h k=none
theorem Hf(a:st.h 290=none)(h1:∀k,291<k->st.h k=none):∀k,inK k=true->k≠291->st.h k=none:=by
 intro k b c;simp only[inK,up,Is]at b;by_cases e:k=290
 .subst e;exact a
 .exact h1 k (by omega)
def LD(a:List Cf)(T:List Cf)(r:AV)(L:List Cf):Prop:=((a++T).length<=4096/\L=a++T/\r=.tup [.arr 291 (a++T).length,.pv (B true)])\/(4096<(a++T).length/\r=.tup [.pv (.val (.slice none 0 0)),.pv (B false)])
abbrev Nu(s:Sce)(D:Nat)(Pa Pb:List (List Int)):PV:=.agg [.sl (s.js.map aQ),.sl (s.ms.map bb),.sl (s.shs.map ba),.sl (s.sks.map aK),Z (D:Int),.sl (Pa.map zs),.sl (Pb.map zs)]
structure MvIn(P:List (List Int))(m:Mov):Prop where
 a0:0<=m.f
 a1:m.f<P.length
 b0:0<=m.t
 b1:m.t<P.length
theorem P7:ly prog 69 0=some (false,0,1):=by kernel_rfl
theorem Ua(A:Sce)(D:Nat)(Pa Pb:List (List Int))(us bs:List Mov)(K:List Cf)(hA:ScL A)(h0:ao A=0)(hD:D<=20)(b9:K.length<=4096)(cp:us.length<=16777216)(cq:bs.length<=16777216)
 (ha:∀x∈us,MvIn Pa x)(hb:∀y∈bs,MvIn Pb y)(hin:∀p∈Pa,∀q∈Pb,aX A.js A.ms (p++q)=true):
 mR prog 31 [.pv (Nu A D Pa Pb),.arr 291 K.length,.pv (.sl (us.map dN)),.pv (.sl (bs.map dN))] (lR K) (λr h'=>∃L',h'=lR L'/\LD K (iy A D Pa Pb us bs) r L'):=by
 obtain⟨S,hS⟩:∃S:Nat->List Cf,S=λi=>K++iy A D Pa Pb (us.take i) bs:=⟨_,rfl⟩
 have s0:S 0=K:=by rw[hS];simp[iy]
 have s1:S us.length=K++iy A D Pa Pb us bs:=by rw[hS];simp only;rw[yAE]
 have s2:∀i x,us[i]?=some x->S (i+1)=S i++kB A D Pa Pb x bs:=λi x h=>by rw[hS];simp only;rw[ID h,ZY]
 have s3:∀i,(S i).length<=(S us.length).length:=λi=>by
  rw[hS];simp only[Zb,yAE];have:=IF (A:=A) (D:=D) (Pa:=Pa) (Pb:=Pb) (us:=us) (bs:=bs) i;omega
 rw[show LD K (iy A D Pa Pb us bs)=λr L=>((S us.length).length<=4096/\L=S us.length/\r=.tup [.arr 291 (S us.length).length,.pv (B true)])\/(4096<(S us.length).length/\r=.tup [.pv (.val (.slice none 0 0)),.pv (B false)]) by rw[s1];rfl]
 have e1:lR K 291=some (.row 89 6 ((S 0).map dG) 0):=by rw[s0];rfl
 have e2:∀k,k≠291->lR K k=none:=λk h=>tf h;have f4:=e2 4 (by decide);have f11:=e2 11 (by decide);have f13:=e2 13 (by decide);clear hS s1;refine Nb func31 (zY _) λC hP hN=>?_;simp only[Ea];refine Gz ?_;refine WP.loopN [11,13] us.length (λi st=>CH (S i) st/\st.t 1=.arr 291 (S i).length/\st.t 4=.ptr 4 0/\st.h 4=some (.box [.pv (.sl (A.js.map aQ)),.pv (.sl (A.ms.map bb)),.pv (.sl (A.shs.map ba)),.pv (.sl (A.sks.map aK)),.pv (Z (D:Int)),.pv (.sl (Pa.map zs)),.pv (.sl (Pb.map zs))] true false)/\st.t 3=.pv (.sl (bs.map dN))/\st.t 16=.pv (.sl (us.map dN))/\st.t 17=.pv (Z us.length)/\st.t 18=.pv (Z i)/\st.h 11=none/\st.h 13=none/\(S i).length<=4096) ?_ ?_
 .refine⟨⟨by simp[e1],by simp[e2],λq hq=>?_⟩,by simp[f11,f13,s0,b9]⟩
  simp[show¬q=4 by omega,e2 q (by omega)]
 clear e1 e2 f4 f11 f13;rintro i st hi ⟨⟨c,d,T⟩,g1,g4,b4,g3,g,l,n,ak,s,e⟩;by_cases J:i<us.length
 case neg=>
  have cc:i=us.length:=by omega
  subst cc;refine GT (zAb c d g1 g4 b4 g3 g l n ak s J) ?_;exact J8 (L:=S us.length) c (Hf d T) rfl rfl ⟨_,rfl,.inl ⟨e,rfl,rfl⟩⟩
 have hw:=ae J (by omega);have hx:us[i]?=some us[i]:=an J;have ca:=ha _ (Zd J);have t2:=s2 i _ hx;have t3:=s3 (i+1);generalize cj:us[i]=x at *;obtain⟨R,hR⟩:∃R:Nat->List Cf,R=λj=>S i++kB A D Pa Pb x (bs.take j):=⟨_,rfl⟩
 have r0:R 0=S i:=by rw[hR];simp[kB]
 have r1:R bs.length=S (i+1):=by rw[hR,t2];simp only;rw[yAE]
 have r2:∀j y,bs[j]?=some y->rf A D Pa Pb x y=true->R (j+1)=R j++[(x,y)]:=λj y h h'=>by rw[hR];simp only;rw[Be h,YY h',ZY]
 have r3:∀j y,bs[j]?=some y->rf A D Pa Pb x y=false->R (j+1)=R j:=λj y h h'=>by rw[hR];simp only;rw[Be h,YR (by rw[h'];decide)]
 have r4:∀j,(R j).length<=(S us.length).length:=λj=>by
  refine yAs ?_ t3;rw[hR,t2];simp only[Zb];have:=IE (A:=A) (D:=D) (Pa:=Pa) (Pb:=Pb) (x:=x) (bs:=bs) j;omega
 clear hR t2 t3;obtain⟨xa,xf,xt⟩:=x;obtain⟨a0,a1,b0,b1⟩:=ca;simp only at a0 a1 b0 b1;obtain⟨u,rfl⟩:∃u:Nat,xf=u:=⟨xf.toNat,by omega⟩;obtain⟨v,rfl⟩:∃v:Nat,xt=v:=⟨xt.toNat,by omega⟩
 have O:u<Pa.length:=by omega
 have P:v<Pa.length:=by omega
 clear a0 a1 b0 b1;have ah:Pa[u]?=some Pa[u]:=an O;have aj:Pa[v]?=some Pa[v]:=an P;have cd:=hin _ (Zd O);have cf:=hin _ (Zd P)
 have b3:bF Pa (u:Int)=Pa[u]:=by rw[bF,Y9,ah];rfl
 have b5:bF Pa (v:Int)=Pa[v]:=by rw[bF,Y9,aj];rfl
 have a8:∀y:Mov,rf A D Pa Pb ⟨xa,u,v⟩ y=decide ((nF A (Pa[u]++bF Pb y.f) (Pa[v]++bF Pb y.t) D).kind≠1):=λy=>by unfold rf;rw[b3,b5]
 clear b3 b5;generalize W:Pa[u]=pu at *;generalize X:Pa[v]=pv at *;refine GT (zAb c d g1 g4 b4 g3 g l n ak s (be J hx cj)) ?_;refine WP.loopN [13] bs.length (λj st=>CH (R j) st/\st.t 1=.arr 291 (R j).length/\st.t 4=.ptr 4 0/\st.h 4=some (.box [.pv (.sl (A.js.map aQ)),.pv (.sl (A.ms.map bb)),.pv (.sl (A.shs.map ba)),.pv (.sl (A.sks.map aK)),.pv (Z (D:Int)),.pv (.sl (Pa.map zs)),.pv (.sl (Pb.map zs))] true false)/\st.t 3=.pv (.sl (bs.map dN))/\st.t 16=.pv (.sl (us.map dN))/\st.t 17=.pv (Z us.length)/\st.t 18=.pv (Z i)/\st.t 11=.ptr 11 0/\st.h 11=some (.box [.pv (Z xa),.pv (Z u),.pv (Z v)] true false)/\st.t 22=.pv (.sl (bs.map dN))/\st.t 23=.pv (Z bs.length)/\st.t 24=.pv (Z j)/\st.h 13=none/\(R j).length<=4096) ?_ ?_
 .refine⟨⟨by simp[c,r0],by simp[d],λq hq=>?_⟩,by simp[*]⟩
  simp[show¬q=11 by omega,T q hq]
 clear c d T g1 g4 b4 g3 g l n ak s e st;rintro j st hj ⟨⟨c,d,T⟩,g1,g4,b4,g3,g,l,n,F,E,G,H,I,s,e⟩;by_cases o:j<bs.length
 case neg=>
  have cg:j=bs.length:=by omega
  subst cg;rw[r1]at c g1 e;refine GT (zAc c d g1 g4 b4 g3 g l n F E G H I (it s o hw @CH.eq_1 e)) ?_
  all_goals (intro q hq;repeat rw[YR (by omega)]);simp[T q hq]
 have Q:=ae o (by omega);have hy:bs[j]?=some bs[j]:=an o;have cb:=hb _ (Zd o);have q2:=r2 j _ hy;have q3:=r3 j _ hy;have q4:=r4 (j+1);rw[a8]at q2 q3;generalize b7:bs[j]=y at *;obtain⟨ya,yf,yt⟩:=y
 obtain⟨a0,a1,b0,b1⟩:=cb
 simp only at a0 a1 b0 b1 q2 q3;obtain⟨k,rfl⟩:∃k:Nat,yf=k:=⟨yf.toNat,by omega⟩;obtain⟨m,rfl⟩:∃m:Nat,yt=m:=⟨yt.toNat,by omega⟩
 have M:k<Pb.length:=by omega
 have N:m<Pb.length:=by omega
 clear a0 a1 b0 b1;have Y:Pb[k]?=some Pb[k]:=an M;have ad:Pb[m]?=some Pb[m]:=an N;have a6:=cd _ (Zd M);have a7:=cf _ (Zd N)
 have bq:bF Pb (k:Int)=Pb[k]:=by rw[bF,Y9,Y];rfl
 have b2:bF Pb (m:Int)=Pb[m]:=by rw[bF,Y9,ad];rfl
 rw[bq,b2]at q2 q3;clear bq b2;generalize U:Pb[k]=z at *;generalize V:Pb[m]=pm at *;have l1:=(lQ a6).2.2;have l2:=(lQ a7).2.2;have cE:=Xk A (pu++z) (pv++pm) D hA h0 a6 a7 (by omega) (by omega) hD
 have c1:aT 69 (.sl [zs pu,zs z]) (zs (pu++z)):=by
  have h9:=S9 [pu,z] (by simp) (by simp only[List.flatten_cons,List.flatten_nil,yAJ];omega);simpa only[Z0,yA6,List.flatten_cons,List.flatten_nil,yAJ]using h9
 have c2:aT 69 (.sl [zs pv,zs pm]) (zs (pv++pm)):=by
  have h9:=S9 [pv,pm] (by simp) (by simp only[List.flatten_cons,List.flatten_nil,yAJ];omega);simpa only[Z0,yA6,List.flatten_cons,List.flatten_nil,yAJ]using h9
 generalize nF A (pu++z) (pv++pm) D=r at *;obtain⟨rk,ck,cm,cn,ar⟩:=r;simp only at q2 q3;generalize pu++z=w1 at *;generalize pv++pm=w2 at *
 with_reducible repeat' (first|refine Sp.h ?_|((with_unfolding_all refine WP.fldAt (hn:=[]) 7 rfl rfl rfl ?_);simp -implicitDefEqProofs (maxSteps:=2000000) [hP,hN,c,d,g1,g4,b4,g3,g,l,n,F,E,G,H,I,s,o,Q,hy,b7,O,P,ah,aj,W,X,M,N,Y,ad,U,V,e,CH])|((first|refine Wd ?_|refine Ss.h ?_|refine Sc.h (c1) ?_|refine Sc.h (c2) ?_|refine Sc.h (cE) ?_|(refine Sb.h ?_ ?_ ?_<;>(try intro hgd)<;>try exact Xy))<;>simp -implicitDefEqProofs (maxSteps:=2000000) [hP,hN,c,d,g1,g4,b4,g3,g,l,n,F,E,G,H,I,s,o,Q,hy,b7,O,P,ah,aj,W,X,M,N,Y,ad,U,V,e,CH]<;>try refine Ya ?_)|refine X2 ?_ ?_|(refine Xd ?_ ?_<;>intro hcd<;>try exact Xx))
 refine⟨0,1,[Z rk,.sl (ck.map jn),Z cm,Z cn,.sl [],Z ar.pair,zs ar.a,zs ar.b],.int .i64 rk,by rw[hP];exact P7,by simp,rfl,by rw[hN];kernel_rfl,?_⟩;by_cases hk:rk=1
 .have q5:=q3 (by simp[hk])
  subst hk;rw[<-q5]at c g1 e;simp -implicitDefEqProofs (maxSteps:=2000000) [hP,hN];refine GT (zAc c d g1 g4 b4 g3 g l n F E G H I (go o Q e @CH.eq_1)) ?_
  all_goals (intro q hq;repeat rw[YR (by omega)]);simp[T q hq]
 have q5:=q2 (by simp[hk])
 have ch:(rk==1)=false:=by simp[hk]
 simp -implicitDefEqProofs (maxSteps:=2000000) [hP,hN];by_cases h4:4096<=(R j).length
 .have q6:4096<(S us.length).length:=by rw[q5,Zb]at q4;simp at q4;omega
  have b8:(4096:Int)<=(R j).length:=by omega
  refine GT (zAc c d g1 g4 b4 g3 g l n F E G H I (s6 o Q e @CH.eq_1 ch h4 b8)) ?_;exact J8 (L:=R j) (by simp[c]) (Hf (by simp[d]) λq hq=>by simp[show¬q=13 by omega,T q hq]) rfl rfl ⟨_,rfl,.inr ⟨q6,rfl⟩⟩
 have q7:((R j).length+1)*48<=140737488355328:=by omega
 have q8:(R j).length+1<=9223372036854775807:=by omega
 have q9:(R j).length+1<=4096:=by omega
 refine Gz ?_
 all_goals (intro q hq;intros;repeat rw[YR (by omega)]);simp[T q hq]
def E5(m:eU)(a v:Nat):List Mov:=(jl m v).map λu=>⟨a,v,u⟩
def vm(m:eU)(a i:Nat):List Mov:=(List.range i).flatMap (E5 m a)
def ke(m:eU)(a:Nat):List Mov:=vm m a m.np.length
theorem Dh(m:eU)(a i:Nat):vm m a (i+1)=vm m a i++E5 m a i:=by
 unfold vm;rw[yAd,List.flatMap_append];simp
theorem Oi{m:eU}{a:Nat}{u:Int}(h:(jl m v)[j]?=some u):((jl m v).take (j+1)).map (λu=>(⟨a,v,u⟩:Mov))=((jl m v).take j).map (λu=>(⟨a,v,u⟩:Mov))++[⟨a,v,u⟩]:=by
 obtain⟨c,b⟩:=th.1 h;rw[ZC c,yAH,b];rfl
theorem J7(m:eU)(a:Nat):vm m a 0=[]:=rfl
theorem Hd{m:eU}(b:dt m=true)(a:v<m.np.length):(jl m v).length<=m.np.length:=by
 rw[Bv b a,Zm];refine yAs (yAX _ _) (by simp)
theorem zX{m:eU}(b:dt m=true)(a:Nat):∀i,i<=m.np.length->(vm m a i).length<=i*m.np.length
 |0,_=>by simp[vm]
 |i+1,h=>by
  have ih:=zX b a i (by omega);have:=Hd b (v:=i) (by omega);rw[Dh,Zb,E5,Zm,Nat.succ_mul];omega
theorem S0(a:Nat)(m:eU)(b:dt m=true)(ha:a<=4096):aH 32 (Z a) (bp m) (.sl ((ke m a).map dN)):=by
 have f:=b;simp only[dt,up,Is]at f;have B:m.np.length<=1024:=f.1;have c1:=Th m b;obtain⟨ns,c⟩:∃ns,ns=(List.range m.np.length).map λv=>zs (jl m v):=⟨_,rfl⟩;rw[<-c]at c1
 have r:ns.length=m.np.length:=by rw[c];simp
 have d:∀v,v<m.np.length->ns[v]?=some (zs (jl m v)):=by intro v D;rw[c];simp[D]
 have s:=λv(D:v<m.np.length)=>Hd b D;have q:=λi(hi:i<=m.np.length)=>zX b a i hi;have Q:=J7 m a;have G:=Dh m a;unfold ke;generalize M:vm m a=T at *;clear M c f b;refine Dp func32 λC hP hN=>?_;refine kp [5] r ?_;refine WP.loopN [] m.np.length (λi st=>st.t 0=.pv (Z a)/\st.t 3=.ptr 3 0/\st.h 3=some (.box [.pv (.sl m.np),.pv (iN m.es)] true false)/\st.t 5=.arr 5 (T i).length/\st.h 5=some (.row 87 3 ((T i).map dN) 0)/\st.t 11=.pv (.sl ns)/\st.t 12=.pv (Z m.np.length)/\st.t 13=.pv (Z i)) (by simp[Q]) ?_;rintro i st hi ⟨g0,g3,b3,g5,b5,k,l,n⟩;by_cases e:i<m.np.length
 case neg=>
  have x:i=m.np.length:=by omega
  subst x;exact Gy
 have Y:=ae e (by omega);have H:=d i e;have N:=s i e;have z:=q (i+1) (by omega);have A:(i+1)*m.np.length<=1024*1024:=yAa (by omega) B
 have p:i<ns.length:=by omega
 obtain⟨S,hS⟩:∃S:Nat->List Mov,S=λj=>T i++((jl m i).take j).map λu=>⟨a,i,u⟩:=⟨_,rfl⟩
 have R:S 0=T i:=by rw[hS];simp
 have s1:∀j u,(jl m i)[j]?=some u->S (j+1)=S j++[⟨a,i,u⟩]:=by intro j u h;rw[hS];simp only;rw[Oi h,ZY]
 have s2:S (jl m i).length=T (i+1):=by rw[hS,G i];simp only;rw[yAE];rfl
 have U:∀j,(S j).length<=1048576:=by
  intro j
  have h4:(S j).length<=(S (jl m i).length).length:=by
   rw[hS];simp only[Zb,Zm,ZA];omega
  rw[s2]at h4;omega
 clear hS G q s d z A;generalize jl m i=X at *
 have P:ns[i]=zs X:=by rw[an p]at H;exact ZB H
 refine Gz ?_;refine WP.loopN [] X.length (λj st=>st.t 0=.pv (Z a)/\st.t 3=.ptr 3 0/\st.h 3=some (.box [.pv (.sl m.np),.pv (iN m.es)] true false)/\st.t 5=.arr 5 (S j).length/\st.h 5=some (.row 87 3 ((S j).map dN) 0)/\st.t 11=.pv (.sl ns)/\st.t 12=.pv (Z m.np.length)/\st.t 13=.pv (Z i)/\st.t 6=.pv (Z i)/\st.t 18=.pv (zs X)/\st.t 19=.pv (Z X.length)/\st.t 20=.pv (Z j)) (by simp[R, *]) ?_;clear g0 g3 b3 g5 b5 k l n st;rintro j st W ⟨g0,g3,b3,g5,b5,k,l,n,V,J,K,L⟩;by_cases o:j<X.length
 case neg=>
  have y:j=X.length:=by omega
  subst y;rw[s2]at g5 b5;exact Gy
 have O:=ae o (by omega);have E:X[j]?=some X[j]:=an o;have s4:=s1 j X[j] E;have s5:=U j;generalize I:X[j]=u at *;generalize F:S j=g at *
 have q1:(g.length+1)*24<=140737488355328:=by omega
 have q2:g.length+1<=9223372036854775807:=by omega
 exact Gy
abbrev fJ:=List (List Int)×List aG
variable {qs:List fJ}
def bX(q:fJ):eU:=⟨q.1.map zs,q.2⟩
abbrev vn(qs:List fJ):PV:=.sl (qs.map λq=>bp (bX q))
def J9(l:List Sce)(qs:List fJ)(i:Nat):Bool:=match l[i]?,qs[i]? with
 |some s,some q=>nE s.js s.ms q.1 q.2
 |_,_=>true
def wi(l:List Sce)(bs:List Vc)(qs:List fJ)(D a b:Nat):List Cf:=match l[a]?,l[b]?,bs[a]?,bs[b]?,qs[a]?,qs[b]? with
 |some s,some t,some x,some y,some m,some n=>iy (gl [s,t] [x,y]) D m.1 n.1 (ke (bX m) a) (ke (bX n) b)
 |_,_,_,_,_,_=>[]
theorem Ka{D a b:Nat}{m n:fJ}(h1:l[a]?=some s)(h2:l[b]?=some t)(h3:bs[a]?=some x)(h4:bs[b]?=some y)(h5:qs[a]?=some m)(h6:qs[b]?=some n):wi l bs qs D a b=iy (gl [s,t] [x,y]) D m.1 n.1 (ke (bX m) a) (ke (bX n) b):=by
 unfold wi;rw[h1,h2,h3,h4,h5,h6]
def xh(f:Nat->Nat->List Cf)(a j:Nat):List Cf:=(List.range j).flatMap λk=>f a (a+1+k)
def zx(f:Nat->Nat->List Cf)(n i:Nat):List Cf:=(List.range i).flatMap λa=>xh f a (n-(a+1))
theorem LE(f:Nat->Nat->List Cf)(a j:Nat):xh f a (j+1)=xh f a j++f a (a+1+j):=by
 unfold xh;rw[yAd,List.flatMap_append];simp
theorem LF(f:Nat->Nat->List Cf)(n i:Nat):zx f n (i+1)=zx f n i++xh f i (n-(i+1)):=by
 unfold zx;rw[yAd,List.flatMap_append];simp
theorem Di(g:Nat->List α)(h:i<=j):((List.range i).flatMap g).length<=((List.range j).flatMap g).length:=by
 obtain⟨d,rfl⟩:=Nat.exists_eq_add_of_le h;rw[List.range_add,List.flatMap_append,Zb];omega
theorem LG(f:Nat->Nat->List Cf)(a:Nat)(h:i<=j):(xh f a i).length<=(xh f a j).length:=Di _ h
theorem LH(f:Nat->Nat->List Cf)(n:Nat)(h:i<=j):(zx f n i).length<=(zx f n j).length:=Di _ h
def oo(l:List Sce)(bs:List Vc)(qs:List fJ)(D:Int):Bool:=decide (gx l bs=0)&&(decide (qs.length=l.length)&&(decide (0<=D)&&(decide (D<=20)&&(List.range l.length).all (J9 l qs))))
def qK(l:List Sce)(bs:List Vc)(qs:List fJ)(D:Nat):List Cf:=zx (wi l bs qs D) l.length l.length
def E8(l:List Sce)(bs:List Vc)(qs:List fJ)(D:Int):PV:=if oo l bs qs D=true/\(qK l bs qs D.toNat).length<=4096 then .tup [.sl ((qK l bs qs D.toNat).map dG),B true]else .tup [.sl [],B false]
theorem xj(h:oo l bs qs D=false):E8 l bs qs D=.tup [.sl [],B false]:=by
 unfold E8;rw[YR (by rw[h];simp)]
theorem LI{q:fJ}(hs:l[i]?=some s)(hq:qs[i]?=some q)(h:nE s.js s.ms q.1 q.2=false):oo l bs qs D=false:=by
 have h1:(List.range l.length).all (J9 l qs)=false:=by
  rw[<-Bool.not_eq_true];intro h9;have:=L4.1 h9 i (Zw.2 (th.1 hs).1);unfold J9 at this;rw[hs,hq]at this;simp only at this;rw[h]at this;cases this
 unfold oo;rw[h1];simp
def Kb(l:List Sce)(qs:List fJ)(i:Nat):Prop:=∀j s q,j<i->l[j]?=some s->qs[j]?=some q->nE s.js s.ms q.1 q.2=true
theorem Hg(h1:gx l bs=0)(h2:qs.length=l.length)(h3:0<=D)(h4:D<=20)(h5:Kb l qs l.length):oo l bs qs D=true:=by
 have h6:(List.range l.length).all (J9 l qs)=true:=L4.2 λi hi=>by
  unfold J9;split
  .rename_i s q a b;exact h5 i s q (Zw.1 hi) a b
  .rfl
 unfold oo;rw[h6,Zs h1,Zs h2,Zs h3,Zs h4];rfl
theorem LJ{q:fJ}(h:Kb l qs i)(hs:l[i]?=some s)(hq:qs[i]?=some q)(a:nE s.js s.ms q.1 q.2=true):Kb l qs (i+1):=by
 intro j c b d h1 h2;by_cases e:j=i
 .subst e;rw[hs]at h1;rw[hq]at h2;injection h1 with h1;injection h2 with h2;subst h1 h2;exact a
 .exact h j c b (by omega) h1 h2
theorem Bf{q:fJ}(f:dt (bX q)=true)(a:Nat):∀x∈ke (bX q) a,MvIn q.1 x:=by
 intro x b;unfold ke vm at b;obtain⟨v,c,b⟩:=List.mem_flatMap.1 b;have c:=Zw.1 c;unfold E5 at b;obtain⟨u,e,rfl⟩:=Zg.1 b;rw[Bv f c]at e;obtain⟨w,d,rfl⟩:=Zg.1 e;have h1:=Zw.1 (ZV.1 d).1
 have g:(bX q).np.length=q.1.length:=by simp[bX]
 exact⟨by simp only;omega,by simp only;omega,by simp only;omega,by simp only;omega⟩
theorem yy{q:fJ}(b:dt (bX q)=true)(a:Nat):(ke (bX q) a).length<=q.1.length*q.1.length:=by
 have:=zX b a (bX q).np.length (Y0 _);unfold ke
 have e:(bX q).np.length=q.1.length:=by simp[bX]
 rw[e]at this|-;exact this
theorem H2{l:List fJ}{c:List Cf}{q:fJ}(b:l[u]?=some q)(d:dt (bX q)=true){f g:Int}(h:gw (⟨l.map bX,c⟩:eG) ⟨u,f,g⟩=true):(⟨u,f,g⟩:Mov)∈ke (bX q) u:=by
 simp only[gw,gp,up,Is,gU,Jo,Y9,YS,b,ZD,Y8]at h;obtain⟨_,⟨f0,f1⟩,⟨g0,g1⟩,h⟩:=h;obtain⟨f,rfl⟩:∃n:Nat,f=n:=⟨f.toNat,by omega⟩;obtain⟨g,rfl⟩:∃n:Nat,g=n:=⟨g.toNat,by omega⟩
 have hf:f<(bX q).np.length:=by omega
 have a:g<(bX q).np.length:=by omega
 refine List.mem_flatMap.2 ⟨f,Zw.2 hf,?_⟩;unfold E5;refine Zg.2 ⟨(g:Int),?_,rfl⟩;rw[Bv d hf];refine Zg.2 ⟨g,ZV.2 ⟨Zw.2 a,?_⟩,rfl⟩;unfold DA;rw[ZI]at h|-;refine h.imp (λh=>?_) (λh=>h);simp at h|-;exact_mod_cast h
theorem Rz{D:Nat}{x y:Mov}{b c:Vc}{m n:fJ}(a:u<v)(f:v<l.length)(h1:l[u]?=some s)(h2:l[v]?=some t)(h3:bs[u]?=some b)(h4:bs[v]?=some c)(h5:qs[u]?=some m)(h6:qs[v]?=some n)(d:x∈ke (bX m) u)(e:y∈ke (bX n) v)(h:rf (gl [s,t] [b,c]) D m.1 n.1 x y=true):(x,y)∈qK l bs qs D:=by
 unfold qK zx;refine List.mem_flatMap.2 ⟨u,Zw.2 (by omega),?_⟩;unfold xh;refine List.mem_flatMap.2 ⟨v-(u+1),Zw.2 (by omega),?_⟩;rw[show u+1+(v-(u+1))=v by omega,Ka h1 h2 h3 h4 h5 h6];refine List.mem_flatMap.2 ⟨x,d,?_⟩;exact Zg.2 ⟨y,ZV.2 ⟨e,h⟩,rfl⟩
theorem Gg{t:eG}{a b:List Int}{p:List (List Int)}(h:sO t a b p=true)(d:k<p.length)(c:j<max 1 (((p[0]?).getD []).length-1)):ga t p j k=true:=by
 simp only[sO,up]at h;obtain⟨_,_,_,_,_,_,_,h⟩:=h;exact L4.1 (L4.1 h j (Zw.2 c)) k (Zw.2 d)
theorem uJ{t:eG}{a b:List Int}{p:List (List Int)}(h:sO t a b p=true)(c:k<p.length):((p[k]?).getD []).length=((p[0]?).getD []).length:=by
 simp only[sO,up]at h;obtain⟨_,_,_,_,_,_,h,_⟩:=h;have:=L4.1 h k (Zw.2 c);simp only[il,up,Is]at this;exact this.1
theorem MQ{D:Nat}{a b:List Int}{p:List (List Int)}{m n:fJ}{lu lv:List Int}{f g c d:Int}
 (A:∀(i:Nat) q,qs[i]?=some q->dt (bX q)=true)(K:qs.length=l.length)
 (h:sO (⟨qs.map bX,qK l bs qs D⟩:eG) a b p=true)(hp:p.length=l.length)(o:u<v)(L:v<l.length)
 (h1:l[u]?=some s)(h2:l[v]?=some t)(h3:bs[u]?=some x)(h4:bs[v]?=some y)(h5:qs[u]?=some m)(h6:qs[v]?=some n)
 (F:p[u]?=some lu)(pv:p[v]?=some lv)(N:j+1<lu.length)(G:lu[j]?=some f)(H:lu[j+1]?=some g)(I:lv[j]?=some c)(J:lv[j+1]?=some d):
 (nF (gl [s,t] [x,y]) (bF m.1 f++bF n.1 c) (bF m.1 g++bF n.1 d) D).kind=1/\MvIn m.1 ⟨u,f,g⟩/\MvIn n.1 ⟨v,c,d⟩:=by
 have r:=uJ h (k:=u) (by omega);have z:=uJ h (k:=v) (by omega);rw[F]at r;rw[pv]at z;simp only[Y8]at r z
 have e:j<max 1 (((p[0]?).getD []).length-1):=by omega
 have C:=Gg h (k:=u) (by omega) e;have B:=Gg h (k:=v) (by omega) e
 have E:fC ((p[u]?).getD []) u j=⟨u,f,g⟩:=by
  unfold fC;rw[F,Y8,show min j (lu.length-1)=j by omega,show min (j+1) (lu.length-1)=j+1 by omega,G,H];rfl
 have M:fC ((p[v]?).getD []) v j=⟨v,c,d⟩:=by
  unfold fC;rw[pv,Y8,show min j (lv.length-1)=j by omega,show min (j+1) (lv.length-1)=j+1 by omega,I,J];rfl
 unfold ga at C B;rw[E,up]at C;rw[M,up]at B;have k1:=H2 h5 (A u m h5) C.1;have k2:=H2 h6 (A v n h6) B.1;have k3:=L4.1 B.2 u (Zw.2 o);rw[E]at k3;refine⟨?_,Bf (A u m h5) u _ k1,Bf (A v n h6) v _ k2⟩;by_cases hc:(nF (gl [s,t] [x,y]) (bF m.1 f++bF n.1 c) (bF m.1 g++bF n.1 d) D).kind=1
 .exact hc
 .have k4:=Rz (bs:=bs) (qs:=qs) (D:=D) o L h1 h2 h3 h4 h5 h6 k1 k2 (by unfold rf;exact Zs hc)
  have k5:qR (⟨qs.map bX,qK l bs qs D⟩:eG) ⟨v,c,d⟩ ⟨u,f,g⟩=true:=by
   unfold qR;refine yAF.2 ⟨_,k4,?_⟩;unfold zH;simp
  rw[k5]at k3;cases k3
theorem Pl{D:Nat}(z:l.length<=3)(e:∀(i:Nat) q,qs[i]?=some q->dt (bX q)=true/\q.1.length<=3):(qK l bs qs D).length<=4096:=by
 have hp:∀a b,(wi l bs qs D a b).length<=81:=λa b=>by
  unfold wi;split
  .rename_i s t x y m n p r u v f j
   obtain⟨w1,k1⟩:=e a m f;obtain⟨w2,k2⟩:=e b n j;have h1:=yy w1 a;have h2:=yy w2 b;have h3:m.1.length*m.1.length<=3*3:=yAa k1 k1;have h4:n.1.length*n.1.length<=3*3:=yAa k2 k2
   have h5:∀(us c:List Mov) A,(iy A D m.1 n.1 us c).length<=us.length*c.length:=λus c A=>by
    unfold iy
    induction us with
    |nil=>simp
    |cons x us ih=>
     rw[List.flatMap_cons,Zb,yAq,Nat.succ_mul]
     have:(kB A D m.1 n.1 x c).length<=c.length:=by unfold kB;rw[Zm];exact yAX _ _
     omega
   exact yAs (h5 _ _ _) (yAs (yAa (show _<=9 by omega) (show _<=9 by omega)) (by decide))
  .simp
 have d:∀(g:Nat->List Cf)(B n:Nat),(∀k,(g k).length<=B)->((List.range n).flatMap g).length<=n*B:=λg B n o=>by
  induction n with
  |zero=>simp
  |succ n ih=>rw[yAd,List.flatMap_append,Zb,Nat.succ_mul,List.flatMap_cons,List.flatMap_nil,yAJ];have:=o n;omega
 unfold qK zx;refine yAs (d _ 243 _ λa=>?_) (by omega);unfold xh;exact yAs (d _ 81 _ λk=>hp _ _) (by omega)
def Fc:EdR:=⟨1,[(0,0,[])],0,0,⟨0,[],[]⟩⟩
def bY(r:Int):Sce:=⟨ii 12 1,[],[⟨0,r,[(0,0,0)]⟩],[]⟩
def nj:Bool->List (List Int)
 |true=>[[0],[6],[12]]
 |false=>[[0],[12]]
def mh:Bool->Nat->List aG
 |false,0=>[lX 0 1 12]
 |false,_=>[vR 0 1 12]
 |true,0=>[lX 0 1 6,lX 1 2 6]
 |true,1=>[vR 0 1 6,lX 1 2 6]
 |true,_=>[vR 0 1 6,vR 1 2 6]
def xp(b:Bool):fJ:=(nj b,mh b 2)
theorem Uc:xm (ii 12 1) [] (nj false) 1 2=mh false 0:=by kernel_rfl
theorem Ud:xm (ii 12 1) [] (nj true) 1 3=mh true 0:=by kernel_rfl
theorem Ue:aR (ii 12 1) []=0:=by kernel_rfl
theorem IK(b:Bool):∀x∈nj b,aX (ii 12 1) [] x=true:=by cases b<;>decide +kernel
theorem LP:ao (bY 1)=0:=by kernel_rfl
theorem LQ:ao (bY 2)=0:=by kernel_rfl
theorem Uf:nF (bY 1) [0] [12] 2=Fc:=by kernel_rfl
theorem Ug:nF (bY 2) [0] [12] 2=Fc:=by kernel_rfl
theorem Uh:nF (bY 1) [0] [6] 2=Fc:=by kernel_rfl
theorem Ui:nF (bY 2) [0] [6] 2=Fc:=by kernel_rfl
theorem Uj:nF (bY 1) [6] [12] 2=Fc:=by kernel_rfl
theorem Uk:nF (bY 2) [6] [12] 2=Fc:=by kernel_rfl
theorem Ul:nE (ii 12 1) [] (nj false) (mh false 2)=true:=by decide +kernel
theorem Um:nE (ii 12 1) [] (nj true) (mh true 2)=true:=by decide +kernel
structure CrB(b:Vc):Prop where
 x0:0<=b.1
 x1:b.1<=24
 y0:0<=b.2.1
 y1:b.2.1<=6
 z0:b.2.2=0
theorem xq{b:Vc}(h:CrB b):eO (wr (0+b.1)) (wr (0+b.2.1)) (wr (0+b.2.2)) 4194304=true:=by
 obtain⟨h1,h2,h3,h4,h5⟩:=h;obtain⟨x,y,z⟩:=b;simp only at *;subst h5
 have w1:wr (0+x)=x:=by unfold wr;rw[IntKind.wrap_i64];omega
 have w2:wr (0+y)=y:=by unfold wr;rw[IntKind.wrap_i64];omega
 have a:wr (0+0)=0:=by decide
 rw[w1,w2,a];simp[eO,fv];omega
theorem Un{b c:Int}{b0 b1:Vc}(d:b=1\/b=2)(h1:c=1\/c=2)(g:CrB b0)(k1:CrB b1):gx [bY b,bY c] [b0,b1]=0:=by
 have k:=xq g;have n1:=xq k1
 have f:ao (bM [bY b,bY c] [b0,b1] 2)=0:=by
  refine xr ⟨by simp[bM,fD,bY,ii],by simp[bM,fD,bY,ii],λi j a=>?_,by simp[bM,fD,bY],by simp[bM,fD,bY],by simp[bM,fD,bY],λx e=>?_,by simp[bM,fD,bY],by simp[bM,fD,bY]⟩
  .rcases i with _|_|i
   .have a:some _=some j:=a
    injection a with a;subst a;exact fN.2 ⟨by kernel_rfl,by kernel_rfl,of_decide_eq_true (by kernel_rfl),of_decide_eq_true (by kernel_rfl),k,of_decide_eq_true (by kernel_rfl),by kernel_rfl⟩
   .have a:some _=some j:=a
    injection a with a;subst a;exact fN.2 ⟨by kernel_rfl,by kernel_rfl,of_decide_eq_true (by kernel_rfl),of_decide_eq_true (by kernel_rfl),n1,of_decide_eq_true (by kernel_rfl),by kernel_rfl⟩
   .have a:none=some j:=a
    cases a
  .simp[bM,fD,bY]at e
   rcases d with rfl|rfl<;>rcases h1 with rfl|rfl<;>rcases e with rfl|rfl<;>kernel_rfl
 unfold gx;rw[YR (by simp),YR (by rcases d with rfl|rfl<;>rcases h1 with rfl|rfl<;>simp[fL,LP,LQ])];exact YY f
theorem Uo{b c d:Int}{b0 b1 e:Vc}(f:b=1\/b=2)(h1:c=1\/c=2)(h2:d=1\/d=2)(l:CrB b0)(k1:CrB b1)(k2:CrB e):gx [bY b,bY c,bY d] [b0,b1,e]=0:=by
 have m:=xq l;have n1:=xq k1;have n2:=xq k2
 have k:ao (bM [bY b,bY c,bY d] [b0,b1,e] 3)=0:=by
  refine xr ⟨by simp[bM,fD,bY,ii],by simp[bM,fD,bY,ii],λi j a=>?_,by simp[bM,fD,bY],by simp[bM,fD,bY],by simp[bM,fD,bY],λx g=>?_,by simp[bM,fD,bY],by simp[bM,fD,bY]⟩
  .rcases i with _|_|_|i
   .have a:some _=some j:=a
    injection a with a;subst a;exact fN.2 ⟨by kernel_rfl,by kernel_rfl,of_decide_eq_true (by kernel_rfl),of_decide_eq_true (by kernel_rfl),m,of_decide_eq_true (by kernel_rfl),by kernel_rfl⟩
   .have a:some _=some j:=a
    injection a with a;subst a;exact fN.2 ⟨by kernel_rfl,by kernel_rfl,of_decide_eq_true (by kernel_rfl),of_decide_eq_true (by kernel_rfl),n1,of_decide_eq_true (by kernel_rfl),by kernel_rfl⟩
   .have a:some _=some j:=a
    injection a with a;subst a;exact fN.2 ⟨by kernel_rfl,by kernel_rfl,of_decide_eq_true (by kernel_rfl),of_decide_eq_true (by kernel_rfl),n2,of_decide_eq_true (by kernel_rfl),by kernel_rfl⟩
   .have a:none=some j:=a
    cases a
  .simp[bM,fD,bY]at g
   rcases f with rfl|rfl<;>rcases h1 with rfl|rfl<;>rcases h2 with rfl|rfl<;>rcases g with rfl|rfl|rfl<;>kernel_rfl
 unfold gx;rw[YR (by simp),YR (by rcases f with rfl|rfl<;>rcases h1 with rfl|rfl<;>rcases h2 with rfl|rfl<;>simp[fL,LP,LQ])];exact YY k
def fK(l:List Int):Nat->Nat
 |0=>nn l 0
 |i+1=>nn l (nn l (nn l (nn l (fK l i))))
def tl(l:List Int)(i:Nat):Int:=1+nx l (fK l i) 2
def Kf(l:List Int)(i:Nat):Bool:=decide (nx l (nn l (fK l i)) 2=1)
def Nx(l:List Int)(i:Nat):Vc:=(3*nx l (nn l (nn l (fK l i))) 9,2*nx l (nn l (nn l (nn l (fK l i)))) 4,0)
def bS(l:List Int):Nat:=(2+nx l 0 2).toNat
def kC(l:List Int)(k:Nat):List Sce:=(List.range k).map λi=>bY (tl l i)
def iY(l:List Int)(k:Nat):List Vc:=(List.range k).map (Nx l)
def gQ(l:List Int)(k:Nat):List fJ:=(List.range k).map λi=>xp (Kf l i)
theorem Kg(l:List Int):∀i,fK l i<=1+4*i
 |0=>by have:=rc l 0;simp only[fK];omega
 |i+1=>by
  have h:=Kg l i;have a:=rc l (fK l i);have b:=rc l (nn l (fK l i));have c:=rc l (nn l (nn l (fK l i)));have d:=rc l (nn l (nn l (nn l (fK l i))));simp only[fK];omega
theorem pi(l:List Int)(i:Nat):tl l i=1\/tl l i=2:=by
 have:=jr l (fK l i) (k:=2) (by decide) (by decide);unfold tl;omega
theorem Fd(l:List Int):(bS l=2\/bS l=3)/\(bS l:Int)=2+nx l 0 2:=by
 have:=jr l 0 (k:=2) (by decide) (by decide);unfold bS;omega
theorem Bh(l:List Int)(i:Nat):CrB (Nx l i):=by
 have h1:=jr l (nn l (nn l (fK l i))) (k:=9) (by decide) (by decide);have h2:=jr l (nn l (nn l (nn l (fK l i)))) (k:=4) (by decide) (by decide);unfold Nx;exact⟨by simp only;omega,by simp only;omega,by simp only;omega,by simp only;omega,rfl⟩
theorem yA(l:List Int)(k:Nat):(kC l k).length=k:=by simp[kC]
theorem z7(l:List Int)(k:Nat):(iY l k).length=k:=by simp[iY]
theorem vo(l:List Int)(k:Nat):(gQ l k).length=k:=by simp[gQ]
theorem RW(b:Bool):nE (ii 12 1) [] (xp b).1 (xp b).2=true:=by
 cases b
 .exact Ul
 .exact Um
theorem Bi(r:Int):ScL (bY r):=⟨by simp[bY,ii],by simp[bY],by simp[bY],by simp[bY],λh a=>by simp[bY]at a;subst a;simp⟩
theorem Ny(l:List Int)(k:Nat):∀s∈kC l k,ScL s:=by
 intro s a;obtain⟨i,_,rfl⟩:=Zg.1 a;exact Bi _
theorem Cl(b:Bool):(xp b).1.length<=3/\1<=(xp b).1.length/\(xp b).2.length<=2/\∀x∈(xp b).1,x.length=1:=by
 cases b<;>simp[xp,nj,mh]
theorem Fe(l:List Int)(k:Nat):∀q∈gQ l k,∃b,q=xp b:=by
 intro q hq;obtain⟨i,_,rfl⟩:=Zg.1 hq;exact⟨_,rfl⟩
theorem S5(l:List Int):gx (kC l (bS l)) (iY l (bS l))=0:=by
 rcases(Fd l).1 with h|h<;>rw[h]
 .exact Un (pi l 0) (pi l 1) (Bh l 0) (Bh l 1)
 .exact Uo (pi l 0) (pi l 1) (pi l 2) (Bh l 0) (Bh l 1) (Bh l 2)
theorem P9(l:List Int):oo (kC l (bS l)) (iY l (bS l)) (gQ l (bS l)) 3=true:=by
 refine Hg (S5 l) (by rw[yA,vo]) (by decide) (by decide) λj s q c a hq=>?_;have h1:=An a;obtain⟨i,_,rfl⟩:=Zg.1 h1;obtain⟨b,rfl⟩:=Fe l _ q (An hq);exact RW b
theorem Dq(js:List J)(ms:List Ms)(l:Int)(a:js.length<=9223372036854775807):aH 79 (eS js ms) (Z l) (B (bJ js.length l)):=by
 refine Dp func79 λC hP hN=>?_
 with_reducible repeat' (first|refine Sp.h ?_|((first|refine Ss.h ?_|(refine Sb.h ?_ ?_ ?_<;>(try intro hgd)<;>try exact Xy))<;>simp -implicitDefEqProofs (maxSteps:=2000000) [hP,hN])|refine X2 ?_ ?_|(refine Xd ?_ ?_<;>intro hcd<;>try exact Xx))
 all_goals (simp only[bJ,Is,Y4]at *;first|done|(simp;intros;omega)|(simp;omega)|omega)
theorem UQ(a b:Bool):al prog (Op.equal 4 (.bool a) (.bool b))=some (a==b):=by cases a<;>cases b<;>kernel_rfl
def NK(x:AV):Option Bool:=match x with
 |.pv (.val (.bool a))=>some a
 |_=>none
theorem Fx{x:AV}{a:Bool}(h:NK x=some a):x=.pv (B a):=by
 unfold NK at h;split at h
 .injection h with h;subst h;rfl
 .cases h
def IW(x y:AV)(fb:Option bP):Option bP:=match NK x,NK y with
 |some a,some b=>some (.pv (.val (.bool !(a==b))),[])
 |_,_=>fb
@[simp] theorem Sr(a b:Bool)(fb:Option bP):IW (.pv (.val (.bool a))) (.pv (.val (.bool b))) fb=some (.pv (.val (.bool !(a==b))),[]):=rfl
@[simp] theorem YI(x y:Operand):
 aV prog ⟨dst,.binOp .neq 4 x y 4,ty,pos,aft,g⟩ ρ=IW (ρ x) (ρ y) (lD prog ⟨dst,.binOp .neq 4 x y 4,ty,pos,aft,g⟩ ρ):=by
 unfold IW;split
 .rename_i a b c d
  exact Gt rfl (Fx c) (Fx d) (by kernel_rfl) (UQ a b)
 .rfl
def kj(xs:List Int)(x:Int):Bool:=xs.any (λy=>y==x)
theorem Qv(xs:List Int)(x:Int)(l:xs.length<=9223372036854775807):aH 268 (zs xs) (Z x) (B (kj xs x)):=by
 have hd:kj xs x=xs.any (λy=>y==x):=rfl;rw[hd];refine Dp func268 λC hP hN=>?_;refine Gz ?_;refine WP.loopN [] xs.length (λi st=>st.t 0=.pv (zs xs)/\st.t 1=.pv (Z x)/\st.t 5=.pv (Z i)/\∀k y,k<i->xs[k]?=some y->(y==x)=false) (by simp) ?_;rintro i st hi ⟨g0,g1,g5,hq⟩;by_cases a:i<xs.length
 .have m:=ae a l
  generalize d:xs[i]=v at *
  have e:xs[i]?=some v:=by rw[an a,d]
  have c:=I0 (p:=λy=>y==x) e hq;have g:=Mf (p:=λy=>y==x) e
  cases hc:(v==x)with
  |true=>
   have f:=g hc;exact Gy
  |false=>
   have b:=c hc;refine Gz ?_
   all_goals (intro k y j f;simpa using b k y j f)
 .have hn:=Mg hq a
  exact Gy
def tW(js:List J)(k:Int):Int:=((js[k.toNat]?).map J.parent).getD (-1)
def fx(js:List J):Nat->Int->List Int
 |0,_=>[]
 |f+1,k=>if k=-1 then[]else fx js f (tW js k)++[k]
theorem yI(b:sE js){k:Int}(c:0<=k)(h1:k<js.length):∃j,js[k.toNat]?=some j/\tW js k=j.parent/\-1<=j.parent/\j.parent<k:=by
 have a:js[k.toNat]?=some (js[k.toNat]'(by omega)):=an _;have:=b _ _ a;unfold Cw at this;refine⟨_,a,by simp[tW,a],by omega,by omega⟩
theorem Fy{js:List J}(d:sE js):∀(f:Nat)(k:Int),-1<=k->k<js.length->(k+1).toNat<=f->fx js (f+1) k=fx js f k
 |0,k,e,h1,hf=>by
  have:k=-1:=by omega
  subst this;simp[fx]
 |f+1,k,e,h1,hf=>by
  by_cases c:k=-1
  .subst c;simp[fx]
  .obtain⟨j,_,hp,a,b⟩:=yI d (by omega) h1
   rw[fx,YR c,Fy d f (tW js k) (by omega) (by omega) (by omega),fx,YR c]
theorem Fz(c:sE js)(e:js.length<=10){k:Int}(d:0<=k)(h1:k<js.length):fx js 11 k=fx js 11 (tW js k)++[k]:=by
 obtain⟨j,_,hp,a,b⟩:=yI c d h1;rw[fx,YR (by omega),Fy c 10 (tW js k) (by omega) (by omega) (by omega)]
theorem Cv{js:List J}:∀(f:Nat)(k:Int),(fx js f k).length<=f
 |0,k=>by simp[fx]
 |f+1,k=>by
  have:=Cv (js:=js) f (tW js k);rw[fx];split
  .simp
  .simp;omega
theorem Qw(js:List J)(ms:List Ms)(l:Int)(E:js.length<=10)(F:ms.length<=9223372036854775807)(u:aR js ms=0)(y:bJ js.length l=true):aH 267 (eS js ms) (Z l) (zs (fx js 11 l)):=by
 have B:=rZ js ms (by omega) F;have z:=Dq js ms l (by omega);rw[u]at B;rw[y]at z;obtain⟨x,_,_⟩:=tw u;simp only[bJ,up,Is]at y;refine Dp func267 λC hP hN=>?_;refine Gz ?_;refine WP.nilsl 5 (by simp) ?_;refine WP.loopN [26] (l+1).toNat (λi st=>∃(A:List Int)(k:Int),st.t 2=.ptr 2 0/\st.h 2=some (.box [.pv (.sl (js.map aQ)),.pv (.sl (ms.map bb))] true false)/\st.t 5=.pv (zs A)/\st.t 6=.pv (Z k)/\st.h 26=none/\st.h 28=none/\fx js 11 k++A=fx js 11 l/\-1<=k/\k<js.length/\(k+1).toNat+i<=(l+1).toNat/\A.length<=i) ⟨[],l,by simp;omega⟩ ?_;rintro i st hi ⟨A,k,g2,f,g5,s,b,c,p,I,k1,K,D⟩;by_cases a:k=-1
 .subst a
  have q:A=fx js 11 l:=by rw[<-p];simp[fx]
  subst q;exact Gy
 .obtain⟨j,m,hp,G,pb⟩:=yI x (by omega) k1
  have d:(k != -1)=true:=by simp[a]
  obtain⟨n,rfl⟩:∃n:Nat,k=n:=⟨k.toNat,by omega⟩
  have g:n<js.length:=by omega
  have o:∀h,js[n]'h=j:=λh=>by rw[Y9,an h]at m;exact ZB m
  rw[Y9]at m;have r:=Fz x E (k:=n) (by omega) k1;rw[r,ZY,hp]at p
  have v:A.length<=9:=by omega
  have H:(A.map Z).length=A.length:=by simp
  with_reducible iterate 8 any_goals (first|refine Sp.h ?_|((first|refine Wh [26] ?_|refine Ss.h ?_|(refine Sb.h ?_ ?_ ?_<;>(try intro hgd)<;>try exact Xy))<;>simp -implicitDefEqProofs (maxSteps:=2000000) [hP,hN,g2,f,g5,s,b,c,a,d,m,o,g,show(1+A.length)*8<=140737488355328 by omega,show(A.length+1)*8<=140737488355328 by omega,show 1+A.length<=9223372036854775807 by omega,show A.length+1<=9223372036854775807 by omega])|refine X2 ?_ ?_|(refine Xd ?_ ?_<;>intro hcd<;>try exact Xx))
  refine WP.freeze 5 (k:=26) (e:=3) (sz:=1) (fz:=0) (xs:=((n:Int)::A).map Z) (by simp) (by simp;omega) ?_;refine GT (zAa g2 f g5 s b c a d m (gA o g)) ?_;exact⟨by omega,(n:Int)::A,by simp,by simpa using p,G,by omega,by omega,by simp;omega⟩
def Kt(js:List J)(a b:Int)(k:Nat):Bool:=kj (fx js 11 a) k !=kj (fx js 11 b) k
def qN(js:List J)(a b:Int)(n:Nat):List Int:=((List.range n).filter (Kt js a b)).map Int.ofNat
theorem L5(js:List J)(a b:Int)(n:Nat):qN js a b (n+1)=qN js a b n++(if Kt js a b n=true then[(n:Int)]else[]):=by
 simp only[qN,yAd,yAt,yAH]
 congr 1
 cases h:Kt js a b n<;>simp[h]
theorem Hw(js:List J)(a b:Int)(n:Nat):(qN js a b n).length<=n:=by
 simp only[qN,Zm];exact yAs (yAX _ _) (by simp)
theorem UR(js:List J)(ms:List Ms)(a b:Int)(q:js.length<=10)(m:ms.length<=9223372036854775807)(k:aR js ms=0)(ha:bJ js.length a=true)(hb:bJ js.length b=true):gz 229 (eS js ms) (Z a) (Z b) (zs (qN js a b js.length)):=by
 have x:=rZ js ms (by omega) m;have u:=Dq js ms a (by omega);have v:=Dq js ms b (by omega);have y:=Qw js ms a q m k ha;have z:=Qw js ms b q m k hb;have B:=Cv (js:=js) 11 a;have D:=Cv (js:=js) 11 b;rw[k]at x;rw[ha]at u;rw[hb]at v;refine Dp func229 λC hP hN=>?_;refine kp [9] trivial ?_;refine WP.loopN [] js.length (λi st=>st.t 3=.ptr 3 0/\st.h 3=some (.box [.pv (.sl (js.map aQ)),.pv (.sl (ms.map bb))] true false)/\st.t 7=.pv (zs (fx js 11 a))/\st.t 8=.pv (zs (fx js 11 b))/\st.t 10=.pv (Z i)/\st.t 9=.arr 9 (qN js a b i).length/\st.h 9=some (.row 3 1 ((qN js a b i).map Z) 0)) (by simp[qN]) ?_;rintro i st hi ⟨g3,f,n,o,e,p,g⟩;by_cases d:i<js.length
 .have r:=ae d (by omega)
  have hS:=L5 js a b i;have hL:=Hw js a b i;have hd:Kt js a b i=(kj (fx js 11 a) i !=kj (fx js 11 b) i):=rfl;have c1:=Qv (fx js 11 a) i (by omega);have j:=Qv (fx js 11 b) i (by omega)
  have c:(i:Int)<(js.length:Int):=by omega
  generalize fx js 11 a=A at *;generalize fx js 11 b=s at *;cases h1:kj A i<;>cases h2:kj s i<;>rw[h1]at c1 hd<;>rw[h2]at j hd<;>rw[hd]at hS<;>simp only[bne_self_eq_false,YU,Y5,yAJ,show(true !=false)=true from rfl,show(false !=true)=true from rfl,Za]at hS
  all_goals (generalize qN js a b i=P at *;rw[hS])
  .skip
   exact Gy
  .skip
   with_reducible repeat' (first|refine Sp.h ?_|((first|refine Wd ?_|refine Ss.h ?_|refine Sc.h (c1) ?_|refine Sc.h (j) ?_|(refine Sb.h ?_ ?_ ?_<;>(try intro hgd)<;>try exact Xy))<;>simp -implicitDefEqProofs (maxSteps:=2000000) [hP,hN,g3,f,n,o,e,p,g,d,c,r,show(P.length+1)*8<=140737488355328 by omega,show P.length<=9223372036854775806 by omega]<;>try refine Ya ?_)|refine X2 ?_ ?_|(refine Xd ?_ ?_<;>intro hcd<;>try exact Xx))
  .skip
   with_reducible repeat' (first|refine Sp.h ?_|((first|refine Wd ?_|refine Ss.h ?_|refine Sc.h (c1) ?_|refine Sc.h (j) ?_|(refine Sb.h ?_ ?_ ?_<;>(try intro hgd)<;>try exact Xy))<;>simp -implicitDefEqProofs (maxSteps:=2000000) [hP,hN,g3,f,n,o,e,p,g,d,c,r,show(P.length+1)*8<=140737488355328 by omega,show P.length<=9223372036854775806 by omega]<;>try refine Ya ?_)|refine X2 ?_ ?_|(refine Xd ?_ ?_<;>intro hcd<;>try exact Xx))
  .skip
   exact Gy
 .have l:i=js.length:=by omega
  subst l;exact Gy
def qp(js:List J)(k:Nat):Bool:=match js[k]? with
 |some j=>decide (j.lo<j.hi)
 |none=>false
def wm(js:List J)(a b:Int):Bool:=(qN js a b js.length).all λk=>!qp js k.toNat
theorem US(js:List J)(ms:List Ms)(a b:Int)(H:js.length<=10)(y:ms.length<=9223372036854775807)(u:aR js ms=0)(ha:bJ js.length a=true)(hb:bJ js.length b=true):gz 188 (eS js ms) (Z a) (Z b) (B (wm js a b)):=by
 have D:=rZ js ms (by omega) y;have z:=Dq js ms a (by omega);have A:=Dq js ms b (by omega);have M:=UR js ms a b H y u ha hb;have N:=Hw js a b js.length;rw[u]at D;rw[ha]at z;rw[hb]at A;have hd:wm js a b=(qN js a b js.length).all λk=>!qp js k.toNat:=rfl
 have f:∀x∈qN js a b js.length,∃n:Nat,x=n/\n<js.length:=λx d=>by
  simp only[qN,Zg,ZV,Zw]at d;obtain⟨n,hn,rfl⟩:=d;exact⟨n,rfl,hn.1⟩
 rw[hd];generalize qN js a b js.length=P at *;refine Dp func188 λC hP hN=>?_;refine Gz ?_;refine WP.loopN [] P.length (λi st=>st.t 3=.ptr 3 0/\st.h 3=some (.box [.pv (.sl (js.map aQ)),.pv (.sl (ms.map bb))] true false)/\st.t 7=.pv (zs P)/\st.t 8=.pv (Z i)/\∀k x,k<i->P[k]?=some x->(!qp js x.toNat)=true) (by simp) ?_;rintro i st hi ⟨g3,E,I,K,hq⟩;by_cases c:i<P.length
 .have L:=ae c (by omega)
  obtain⟨n,s,o⟩:=f P[i] (Zd c);generalize r:P[i]=v at *
  have d:P[i]?=some v:=by rw[an c,r]
  have q:=mZ (p:=λk=>!qp js k.toNat) d hq;subst s;obtain⟨j,m⟩:∃j,js[n]?=some j:=⟨_,an o⟩
  have F:∀h,js[n]'h=j:=λh=>by rw[an h]at m;exact ZB m
  have g:qp js n=decide (j.lo<j.hi):=by simp[qp,m]
  by_cases hc:j.lo<j.hi
  .have e:(P.all λk=>!qp js k.toNat)=false:=by
    rw[yAm];exact⟨_,An d,by simp[g,hc]⟩
   exact Gy
  .have l:=q (by simp[g,hc])
   refine Gz ?_
   all_goals (intro k x G d;simpa using l k x G d)
 .have e:(P.all λk=>!qp js k.toNat)=true:=pJ hq c
  exact Gy
theorem UT(s:Sce)(a b:Int)(A:s.sks.length<=9223372036854775807):gz 189 (aW s) (Z a) (Z b) (B (jP s a b)):=by
 have o:jP s a b=s.sks.any (xD a b):=rfl;rw[o];refine Dp func189 λC hP hN=>?_;refine Gz ?_;refine WP.loopN [8] s.sks.length (λi st=>st.t 3=.ptr 3 0/\st.h 3=some (.box [.pv (.sl (s.js.map aQ)),.pv (.sl (s.ms.map bb)),.pv (.sl (s.shs.map ba)),.pv (.sl (s.sks.map aK))] true false)/\st.t 1=.pv (Z a)/\st.t 2=.pv (Z b)/\st.t 7=.pv (Z i)/\st.h 8=none/\∀k x,k<i->s.sks[k]?=some x->xD a b x=false) (by simp) ?_;rintro i st hi ⟨g3,m,g1,g2,z,n,hq⟩;by_cases c:i<s.sks.length
 .have D:=ae c A
  have d:(i:Int)<(s.sks.length:Int):=by omega
  generalize j:s.sks[i]=v at *
  have f:s.sks[i]?=some v:=by rw[an c,j]
  have e:=I0 (p:=xD a b) f hq;have l:=Mf (p:=xD a b) f;have hp:xD a b v=((v.1==a&&v.2==b)||(v.1==b&&v.2==a)):=rfl;cases c1:(v.1==a)<;>cases q:(v.2==b)<;>cases r:(v.1==b)<;>cases y:(v.2==a)<;>rw[c1,q,r,y]at hp<;>simp only[Z9,yAc,Zt,Bool.or_false,Bool.false_or,Bool.or_self,Bool.or_true,Bool.true_or]at hp
  all_goals (first|(have g:=e hp;clear e l)|(have F:=l hp;clear e l))
  all_goals
   with_reducible repeat' (first|refine Sp.h ?_|((first|refine Ss.h ?_|(refine Sb.h ?_ ?_ ?_<;>(try intro hgd)<;>try exact Xy))<;>simp -implicitDefEqProofs (maxSteps:=2000000) [hP,hN,g3,m,g1,g2,z,n,c,d,D,f,j,c1,q,r,y])|refine X2 ?_ ?_|(refine Xd ?_ ?_<;>intro hcd<;>try exact Xx))
  all_goals (first|exact λk u v E f=>g k (u,v) (by omega) f|exact⟨_,_,An f,hp⟩)
 .have:=Mg hq c
  have d:¬(i:Int)<(s.sks.length:Int):=by omega
  exact Gy
theorem Hx(s:Sce)(hs:ScL s):aT 39 (aW s) (Z (ao s)):=by
 have V:=rZ s.js s.ms hs.js hs.ms;obtain⟨P,l2,l3,l4,l5⟩:=hs;by_cases G:aR s.js s.ms=0
 case neg=>
  have hf:ao s=aR s.js s.ms:=by simp[ao,G]
  have X:(aR s.js s.ms !=0)=true:=by simp[G]
  rw[hf];generalize aR s.js s.ms=r at *;refine Dp func39 λC hP hN=>?_;exact Gy
 rw[G]at V;by_cases h1:24<s.shs.length
 .have hf:ao s=901:=by simp[ao,G,h1]
  have M:(24:Int)<s.shs.length:=by omega
  rw[hf];refine Dp func39 λC hP hN=>?_;exact Gy
 have M:¬(24:Int)<s.shs.length:=by omega
 have hf:ao s=if gu s.js.length s.shs≠0 then gu s.js.length s.shs else if 64<s.sks.length then 903 else if s.sks.all (gF s.js.length)=true then 0 else 903:=by simp only[ao,G,h1,Y5,ne_eq,yAi]
 rw[hf];refine Dp func39 λC hP hN=>?_;refine Gz ?_;refine WP.loopN [5] s.shs.length (λi st=>st.t 1=.ptr 1 0/\st.h 1=some (.box [.pv (.sl (s.js.map aQ)),.pv (.sl (s.ms.map bb)),.pv (.sl (s.shs.map ba)),.pv (.sl (s.sks.map aK))] true false)/\st.t 4=.pv (Z i)/\st.h 5=none/\∀k x,k<i->s.shs[k]?=some x->bz s.js.length x=0) (by simp) ?_;rintro i st hi ⟨g1,o,g4,D,hq⟩;by_cases g:i<s.shs.length
 .have T:=ae g l3
  have l:(i:Int)<(s.shs.length:Int):=by omega
  have q:=wo (n:=s.js.length) g hq;have y:=λhe=>mZ (p:=λx=>bz s.js.length x==0) (an g) (λk x B u=>by simp[hq k x B u]) he;generalize A:s.shs[i]=v at *
  have u:s.shs[i]?=some v:=by rw[an g,A]
  have S:=Dq s.js s.ms v.link P;have R:=Nq v.rad 1 1048576;have lv:=l5 v (An u)
  cases B:bJ s.js.length v.link with
  |false=>
   have e:bz s.js.length v=902:=by simp[bz,B]
   have d:=q (by rw[e];decide);rw[e]at d;rw[B]at S;exact Gy
   all_goals simp[d]
  |true=>
   rw[B]at S
   cases J:aP v.rad 1 1048576 with
   |false=>
    have e:bz s.js.length v=902:=by
     unfold bz;rw[YR];simp only[aP]at J;simp only[up,Is];simp at J;omega
    have d:=q (by rw[e];decide);rw[e]at d;rw[J]at R;exact Gy
    all_goals simp[d]
   |true=>
    rw[J]at R;by_cases h3:(v.pts.length:Int)<1
    .have e:bz s.js.length v=902:=by
      unfold bz;rw[YR];simp only[up,Is];omega
     have d:=q (by rw[e];decide);rw[e]at d;exact Gy
     all_goals simp[d]
    by_cases h4:(8:Int)<v.pts.length
    .have e:bz s.js.length v=902:=by
      unfold bz;rw[YR];simp only[up,Is];omega
     have d:=q (by rw[e];decide);rw[e]at d;exact Gy
     all_goals simp[d]
    have Y:¬v.pts.length<1:=by omega
    have ad:¬8<v.pts.length:=by omega
    have e:bz s.js.length v=if v.pts.all (ax 4194304)=true then 0 else 805:=by
     unfold bz;rw[YY];simp only[aP,up,Is]at J|-;exact⟨⟨⟨⟨B,by omega⟩,by omega⟩,by omega⟩,by omega⟩
    rw[e]at q y;refine Gz ?_;refine WP.loopN [] v.pts.length (λk st=>st.t 1=.ptr 1 0/\st.h 1=some (.box [.pv (.sl (s.js.map aQ)),.pv (.sl (s.ms.map bb)),.pv (.sl (s.shs.map ba)),.pv (.sl (s.sks.map aK))] true false)/\st.t 4=.pv (Z i)/\st.t 5=.ptr 5 0/\st.h 5=some (.box [.pv (Z v.link),.pv (Z v.rad),.pv (aB v.pts)] true false)/\st.t 6=.pv (Z k)/\∀j x,j<k->v.pts[j]?=some x->ax 4194304 x=true) (by simp[g1,o,g4]) ?_;clear g1 o g4 D;rintro k st aj ⟨g1,o,g4,g5,D,g6,hn⟩;by_cases E:k<v.pts.length
    .have ak:=ae E lv
     have I:(k:Int)<(v.pts.length:Int):=by omega
     generalize O:v.pts[k]=p at *
     have U:v.pts[k]?=some p:=by rw[an E,O]
     have L:=wZ p.1 p.2.1 p.2.2 4194304 (by decide) (by decide);have N:ax 4194304 p=eO p.1 p.2.1 p.2.2 4194304:=rfl;rw[<-N]at L;have K:=mZ (p:=ax 4194304) U hn
     cases hc:ax 4194304 p with
     |true=>
      rw[hc]at L;have m:=K hc;refine Gz ?_
      all_goals (intro j a b c hj F;exact m j (a,b,c) (by omega) F)
     |false=>
      rw[hc]at L
      have f:v.pts.all (ax 4194304)=false:=by
       rw[yAm];exact⟨p,An U,by simp[hc]⟩
      rw[f]at q;have d:=q (by decide);simp only[YU,Y5]at d;exact Gy
      all_goals simp[d]
    .have f:v.pts.all (ax 4194304)=true:=pJ hn E
     have I:¬(k:Int)<(v.pts.length:Int):=by omega
     rw[f]at y
     have m:∀k x,k<i+1->s.shs[k]?=some x->bz s.js.length x=0:=λk x B u=>by simpa using y (by simp) k x B u
     refine Gz ?_
     all_goals exact m
 .have hz:gu s.js.length s.shs=0:=sD (λk x u=>hq k x (by have:=(th.1 u).1;omega) u)
  have l:¬(i:Int)<(s.shs.length:Int):=by omega
  rw[hz];by_cases ah:64<s.sks.length
  .have H:(64:Int)<s.sks.length:=by omega
   exact Gy
  .have H:¬(64:Int)<s.sks.length:=by omega
   refine Gz ?_;refine WP.loopN [] s.sks.length (λi st=>st.t 1=.ptr 1 0/\st.h 1=some (.box [.pv (.sl (s.js.map aQ)),.pv (.sl (s.ms.map bb)),.pv (.sl (s.shs.map ba)),.pv (.sl (s.sks.map aK))] true false)/\st.t 7=.pv (Z i)/\∀k x,k<i->s.sks[k]?=some x->gF s.js.length x=true) (by simp[g1,o]) ?_;clear g1 o g4 D hq g l;rintro i st hi ⟨g1,o,W,hq⟩;by_cases g:i<s.sks.length
   .have T:=ae g l4
    have l:(i:Int)<(s.sks.length:Int):=by omega
    generalize A:s.sks[i]=v at *
    have u:s.sks[i]?=some v:=by rw[an g,A]
    have y:=mZ (p:=gF s.js.length) u hq;have hp:gF s.js.length v=(bJ s.js.length v.1&&bJ s.js.length v.2):=rfl;have c1:=Dq s.js s.ms v.1 P;have Q:=Dq s.js s.ms v.2 P
    cases hc:gF s.js.length v with
    |true=>
     have z:=hp;rw[hc]at z;simp only[Bool.true_eq,up]at z;rw[z.1]at c1;rw[z.2]at Q;have m:=y hc;refine Gz ?_
     all_goals (intro j a b hj F;exact m j (a,b) (by omega) F)
    |false=>
     have f:s.sks.all (gF s.js.length)=false:=by
      rw[yAm];exact⟨v,An u,by simp[hc]⟩
     rw[f];rw[hc]at hp
     cases k1:bJ s.js.length v.1<;>cases k2:bJ s.js.length v.2<;>rw[k1]at c1 hp<;>rw[k2]at Q hp<;>try (exact absurd hp (by decide))
     all_goals
      exact GS (s7 g1 o W g l T u A)
   .have f:s.sks.all (gF s.js.length)=true:=pJ hq g
    have l:¬(i:Int)<(s.sks.length:Int):=by omega
    rw[f];exact Gy
theorem Yu(s:Sce)(p q:List Int)(hs:ScL s)(c:ao s=0)(hp:aX s.js s.ms p=true)(hq:aX s.js s.ms q=true):gz 42 (aW s) (zs p) (zs q) (B true):=by
 have b:=Hx s hs;have c1:=PK s.js s.ms p hs.js hs.ms;have a:=PK s.js s.ms q hs.js hs.ms;rw[c]at b;rw[hp]at c1;rw[hq]at a;obtain⟨js,ms,d,sks⟩:=s;simp only at c1 a;refine Dp func42 λC hP hN=>?_
 with_reducible repeat' (first|refine Sp.h ?_|((first|refine Ss.h ?_|refine Sc.h (b) ?_|refine Sc.h (c1) ?_|refine Sc.h (a) ?_|(refine Sb.h ?_ ?_ ?_<;>(try intro hgd)<;>try exact Xy))<;>simp -implicitDefEqProofs (maxSteps:=2000000) [hP,hN])|refine X2 ?_ ?_|(refine Xd ?_ ?_<;>intro hcd<;>try exact Xx))
theorem M6(p q:List Int)(x:Pc):(de p q x).length<=p.length:=by
 unfold de eX;split
 .simp;omega
 .simp
def HE(a b:Int):Int:=if a.tmod b<0 then wr (wr (a.tdiv b)-1)else wr (a.tdiv b)
def KA(a b:Int):Int:=if 0<a.tmod b then wr (wr (a.tdiv b)+1)else wr (a.tdiv b)
theorem HF(a b:Int)(hb:b≠0):aH 83 (Z a) (Z b) (Z (HE a b)):=by
 refine Dp func83 λC hP hN=>?_
 with_reducible repeat' (first|refine Sp.h ?_|((first|refine Ss.h ?_|(refine Sb.h ?_ ?_ ?_<;>(try intro hgd)<;>try exact Xy))<;>simp -implicitDefEqProofs (maxSteps:=2000000) [hP,hN,hb])|refine X2 ?_ ?_|(refine Xd ?_ ?_<;>intro hcd<;>try exact Xx))
 all_goals (first|(simp_all[HE];done)|((try simp_all[HE])<;>(try omega)<;>grind))
theorem FO(a b:Int)(hb:b≠0):aH 84 (Z a) (Z b) (Z (KA a b)):=by
 refine Dp func84 λC hP hN=>?_
 with_reducible repeat' (first|refine Sp.h ?_|((first|refine Ss.h ?_|(refine Sb.h ?_ ?_ ?_<;>(try intro hgd)<;>try exact Xy))<;>simp -implicitDefEqProofs (maxSteps:=2000000) [hP,hN,hb])|refine X2 ?_ ?_|(refine Xd ?_ ?_<;>intro hcd<;>try exact Xx))
 all_goals (first|(simp_all[KA];done)|((try simp_all[KA])<;>(try omega)<;>grind))
theorem uD{k:Int}(hb:0<b)(h1:k*b<=a)(h2:a<(k+1)*b):a/b=k:=by
 have:=(yAU hb).2 h1;have:=(yAV hb).2 h2;omega
theorem HG{B:Int}(hb:0<b)(c:0<=B)(h1:-B<=a)(h2:a<=B):-B<=a/b/\a/b<=B:=by
 constructor
 .refine(yAU hb).2 ?_
  have:B*1<=B*b:=ZZ (by omega) c;rw[yA1];omega
 .have h3:a/b<B+1:=(yAV hb).2 (by
   have:(B+1)*1<=(B+1)*b:=ZZ (by omega) (by omega)
   omega)
  omega
theorem uE(hb:0<b)(h1:-4611686018427387904<=a)(h2:a<=4611686018427387904):HE a b=a/b:=by
 have hq:=yAY a b;have h3:-b<a.tmod b:=yAM a hb;have h4:a.tmod b<b:=yAu a hb;have c:=HG (a:=a) (b:=b) (B:=4611686018427387904) hb (by decide) h1 h2;rw[Int.mul_comm]at hq;unfold HE;split
 .have e:a/b=a.tdiv b-1:=uD hb (by rw[Int.sub_mul];omega) (by rw[show a.tdiv b-1+1=a.tdiv b by omega];omega)
  rw[aa (n:=a.tdiv b) (by omega) (by omega),aa (by omega) (by omega),e]
 .have e:a/b=a.tdiv b:=uD hb (by omega) (by rw[Int.add_mul];omega)
  rw[aa (n:=a.tdiv b) (by omega) (by omega),e]
theorem sJ(hb:0<b)(h1:-4611686018427387904<=a)(h2:a<=4611686018427387904):KA a b=da a b:=by
 have hq:=yAY a b;have h3:-b<a.tmod b:=yAM a hb;have h4:a.tmod b<b:=yAu a hb;have c:=HG (a:=-a) (b:=b) (B:=4611686018427387904) hb (by decide) (by omega) (by omega);rw[Int.mul_comm]at hq;unfold KA da;split
 .have e:-a/b=-a.tdiv b-1:=uD hb (by rw[Int.sub_mul,yA1];omega) (by rw[show -a.tdiv b-1+1=-a.tdiv b by omega,yA1];omega)
  rw[aa (n:=a.tdiv b) (by omega) (by omega),aa (by omega) (by omega),e];omega
 .have e:-a/b=-a.tdiv b:=uD hb (by rw[yA1];omega) (by rw[Int.add_mul,yA1];omega)
  rw[aa (n:=a.tdiv b) (by omega) (by omega),e];omega
theorem QS(x:Int×Int):aT 144 (aK x) (Z (rW x)):=by
 cases a:aO x.1 x.2 with
 |false=>
  have b:rW x=0:=by simp[rW,a]
  rw[b];refine Dp func144 λC hP hN=>?_;have c:=@rS;exact GS a
 |true=>
  have hb:=dY.1 a
  have b:rW x=HE (wr (x.1+x.2)) 2:=by
   rw[rW,a];simp only[Za];rw[aa (by omega) (by omega),uE (by decide) (by omega) (by omega),Int.fdiv_eq_ediv_of_nonneg _ (by decide)]
  rw[b];refine Dp func144 λC hP hN=>?_
  with_reducible repeat' (first|refine Sp.h ?_|((first|refine Ss.h ?_|refine Sc.h (rS _ _) ?_|refine Sc.h (HF _ _ (by decide)) ?_|(refine Sb.h ?_ ?_ ?_<;>(try intro hgd)<;>try exact Xy))<;>simp -implicitDefEqProofs (maxSteps:=2000000) [hP,hN,a])|refine X2 ?_ ?_|(refine Xd ?_ ?_<;>intro hcd<;>try exact Xx))
def I6(x y z u:AV)(fb:Option bP):Option bP:=match x,y,z,u with
 |.pv (.val (.int .i64 a)),.pv (.val (.int .i64 b)),.pv (.val (.int .i64 c)),.pv (.val (.int .i64 d))=>some (.pv (Z (max a (max b (max c d)))),[])
 |_,_,_,_=>fb
@[simp] theorem Sx(a b c d:Int)(fb:Option bP):I6 (.pv (.val (.int .i64 a))) (.pv (.val (.int .i64 b))) (.pv (.val (.int .i64 c))) (.pv (.val (.int .i64 d))) fb=some (.pv (Z (max a (max b (max c d)))),[]):=rfl
@[simp] theorem XE(x y z u:Operand):
 aV prog ⟨dst,.call ⟨.builtin .max,#[x,y,z,u],ts⟩,ty,pos,aft,g⟩ ρ=I6 (ρ x) (ρ y) (ρ z) (ρ u) (lD prog ⟨dst,.call ⟨.builtin .max,#[x,y,z,u],ts⟩,ty,pos,aft,g⟩ ρ):=by
 unfold I6;split
 .rename_i a b c d f i j e
  refine dW (by simp[Op.operands,Call.operands,f,i,j,e,eN]) ?_;unfold execOp;simp[resolve,invoke,builtin,Builtin.max_,f,i,j,e,qU,eN,Builtin.max2,af,cK]
  try omega
 .rfl
def I7(x y z u:AV)(fb:Option bP):Option bP:=match x,y,z,u with
 |.pv (.val (.int .i64 a)),.pv (.val (.int .i64 b)),.pv (.val (.int .i64 c)),.pv (.val (.int .i64 d))=>some (.pv (Z (min a (min b (min c d)))),[])
 |_,_,_,_=>fb
@[simp] theorem Sy(a b c d:Int)(fb:Option bP):I7 (.pv (.val (.int .i64 a))) (.pv (.val (.int .i64 b))) (.pv (.val (.int .i64 c))) (.pv (.val (.int .i64 d))) fb=some (.pv (Z (min a (min b (min c d)))),[]):=rfl
@[simp] theorem XF(x y z u:Operand):
 aV prog ⟨dst,.call ⟨.builtin .min,#[x,y,z,u],ts⟩,ty,pos,aft,g⟩ ρ=I7 (ρ x) (ρ y) (ρ z) (ρ u) (lD prog ⟨dst,.call ⟨.builtin .min,#[x,y,z,u],ts⟩,ty,pos,aft,g⟩ ρ):=by
 unfold I7;split
 .rename_i a b c d f i j e
  refine dW (by simp[Op.operands,Call.operands,f,i,j,e,eN]) ?_;unfold execOp;simp[resolve,invoke,builtin,Builtin.min_,f,i,j,e,qU,eN,Builtin.min2,af,cK]
  try omega
 .rfl
theorem Mq(a:Int):aT 290 (Z a) (Z (fe a)):=by
 refine Dp func290 λC hP hN=>?_;refine Gz ?_
 all_goals (try simp[fe])<;>(try omega)
theorem NO(a b:Int):aH 305 (Z a) (Z b) (I (fe a) (fe b)):=by
 have c1:=Mq a;have c:=Mq b;refine Dp func305 λC hP hN=>?_;exact Gy
 all_goals (try simp[fe])<;>(try omega)
theorem FS(a:Int):aT 266 (Z a) (I (fe a) (fe a)):=by
 have c1:=Mq a;refine Dp func266 λC hP hN=>?_;exact Gy
 all_goals (try simp[fe])<;>(try omega)
theorem FT{c:Int}:aH 288 (I a b) (I c d) (aK (ff (a,b) (c,d))):=by
 have v1:=rS a b;have v2:=rS c d;cases h1:aO a b<;>cases h2:aO c d<;>rw[h1]at v1<;>rw[h2]at v2
 case true.true=>
  have e:ff (a,b) (c,d)=(fe (a+c),fe (b+d)):=by simp only[ff,h1,h2,Z9,Za]
  rw[e];rw[dY]at h1 h2;have w1:i64.wrap (a+c)=a+c:=aa;have w2:i64.wrap (b+d)=b+d:=aa;refine Dp func288 λC hP hN=>?_
  with_reducible repeat' (first|refine Sp.h ?_|((first|refine Ss.h ?_|refine Sc.h (v1) ?_|refine Sc.h (v2) ?_|refine Sc.h (NO _ _) ?_)<;>simp -implicitDefEqProofs [hP,hN,w1,w2]))
 all_goals (
  have e:ff (a,b) (c,d)=(0,0):=by simp[ff,h1,h2]
  rw[e])
 all_goals
  refine Dp func288 λC hP hN=>?_;exact Gy
theorem Mr:aT 304 (I a b) (aK (hC (a,b))):=by
 have v1:=rS a b;cases h1:aO a b<;>rw[h1]at v1
 .have c:hC (a,b)=(0,0):=by simp[hC,h1]
  rw[c];refine Dp func304 λC hP hN=>?_;exact Gy
 .have c:hC (a,b)=(-b,-a):=by simp only[hC,h1,Za]
  rw[c];rw[dY]at h1;have w1:i64.wrap (0-a)=-a:=(aa (n:=0-a) (by omega) (by omega)).trans (by omega);have w2:i64.wrap (0-b)=-b:=(aa (n:=0-b) (by omega) (by omega)).trans (by omega);have d:i64.wrap (-a)=-a:=aa;have e:i64.wrap (-b)=-b:=aa;refine Dp func304 λC hP hN=>?_;exact Gy
theorem I8{c:Int}:aH 289 (I a b) (I c d) (aK (ew (a,b) (c,d))):=by
 have v1:=rS a b;have v2:=rS c d;cases h1:aO a b<;>cases h2:aO c d<;>rw[h1]at v1<;>rw[h2]at v2
 case true.true=>
  have i:=dY.1 h1;have j:=dY.1 h2;have m:=bi (a:=a) (b:=c) 2147483648 2147483648 (by omega) (by omega) (by omega) (by omega);have n:=bi (a:=a) (b:=d) 2147483648 2147483648 (by omega) (by omega) (by omega) (by omega);have o:=bi (a:=b) (b:=c) 2147483648 2147483648 (by omega) (by omega) (by omega) (by omega);have p:=bi (a:=b) (b:=d) 2147483648 2147483648 (by omega) (by omega) (by omega) (by omega);have w1:i64.wrap (a*c)=a*c:=aa;have w2:i64.wrap (a*d)=a*d:=aa;have k:i64.wrap (b*c)=b*c:=aa;have l:i64.wrap (b*d)=b*d:=aa;have g:=HF (min (a*c) (min (a*d) (min (b*c) (b*d)))) 65536 (by decide);have f:=FO (max (a*c) (max (a*d) (max (b*c) (b*d)))) 65536 (by decide);rw[uE (by decide) (by omega) (by omega)]at g;rw[sJ (by decide) (by omega) (by omega)]at f
  have e:ew (a,b) (c,d)=(fe (min (a*c) (min (a*d) (min (b*c) (b*d)))/65536),fe (da (max (a*c) (max (a*d) (max (b*c) (b*d)))) 65536)):=by simp only[ew,h1,h2,Z9,Za]
  rw[e];refine Dp func289 λC hP hN=>?_
  with_reducible repeat' (first|refine Sp.h ?_|((first|refine Wd ?_|refine Ss.h ?_|refine Sc.h (v1) ?_|refine Sc.h (v2) ?_|refine Sc.h (g) ?_|refine Sc.h (f) ?_|refine Sc.h (NO _ _) ?_)<;>simp -implicitDefEqProofs [hP,hN,w1,w2,k,l]<;>try refine Ya ?_))
 all_goals (
  have e:ew (a,b) (c,d)=(0,0):=by simp[ew,h1,h2]
  rw[e])
 all_goals
  refine Dp func289 λC hP hN=>?_;exact Gy
theorem Mt(a:Int):aT 333 (Z a) (Z (a%65536)):=by
 have h1:a.tmod 65536=a-65536*a.tdiv 65536:=by have:=yAY a 65536;omega
 have h2:-65536<a.tmod 65536:=yAM a (by decide);have h3:a.tmod 65536<65536:=yAu a (by decide);have w1:i64.wrap (a.tmod 65536+65536)=a.tmod 65536+65536:=aa
 have e:(a.tmod 65536+65536).tmod 65536=a%65536:=by
  rw[yA8 (by omega)];omega
 refine Dp func333 λC hP hN=>?_;exact GS (gA w1 e)
theorem Q3(x:Int)(r:0<=x)(h1:x<=8192):aT 341 (Z x) (.tup [D4 (λk=>if k=0 then 0 else em x k),D4 (λk=>if k=0 then 0 else en x k)]):=by
 have w1:i64.wrap (x*6746518852)=x*6746518852:=aa;have w2:i64.wrap (x*6746518853)=x*6746518853:=aa
 have c1:aS prog 83 [.pv (Z (x*6746518852)),.pv (Z 65536)] [] [] (.pv (Z (em x 1))):=by
  have:=HF (x*6746518852) 65536 (by decide);rw[uE (by decide) (by omega) (by omega)]at this;exact this
 have Q:aS prog 84 [.pv (Z (x*6746518853)),.pv (Z 65536)] [] [] (.pv (Z (en x 1))):=by
  have:=FO (x*6746518853) 65536 (by decide);rw[sJ (by decide) (by omega) (by omega)]at this;exact this
 have m1:∀j,i64.wrap (em x j*em x 1)=em x j*em x 1:=λj=>aa (by have:=uz r h1 j;omega) (by have:=uz r h1 j;omega);have m2:∀j,i64.wrap (en x j*en x 1)=en x j*en x 1:=λj=>aa (by have:=pG r h1 j;omega) (by have:=pG r h1 j;omega)
 have O:∀j,aS prog 83 [.pv (Z (em x (j+1)*em x 1)),.pv (Z 1073741824)] [] [] (.pv (Z (em x (j+2)))):=λj=>by
  have:=HF (em x (j+1)*em x 1) 1073741824 (by decide);have S:=uz r h1 (j+1);rw[uE (by decide) (by omega) (by omega)]at this;exact this
 have P:∀j,aS prog 84 [.pv (Z (en x (j+1)*en x 1)),.pv (Z 1073741824)] [] [] (.pv (Z (en x (j+2)))):=λj=>by
  have:=FO (en x (j+1)*en x 1) 1073741824 (by decide);have S:=pG r h1 (j+1);rw[sJ (by decide) (by omega) (by omega)]at this;exact this
 generalize hf:em x=f at *;generalize R:en x=g at *
 obtain⟨e,p⟩:∃e:Nat->Int,e=λk=>if k=0 then 0 else f k:=⟨_,rfl⟩
 obtain⟨l,q⟩:∃l:Nat->Int,l=λk=>if k=0 then 0 else g k:=⟨_,rfl⟩
 rw[<-p,<-q]
 have n:e 0=0:=by rw[p];rfl
 have o:l 0=0:=by rw[q];rfl
 have s1:∀k,f (k+1)=e (k+1):=λk=>by rw[p];simp
 have s2:∀k,g (k+1)=l (k+1):=λk=>by rw[q];simp
 rw[show f 1=e 1 from s1 0]at c1 m1 O;rw[show g 1=l 1 from s2 0]at Q m2 P
 have n1:∀j,i64.wrap (e (j+1)*e 1)=e (j+1)*e 1:=λj=>by rw[<-s1 j];exact m1 _
 have n2:∀j,i64.wrap (l (j+1)*l 1)=l (j+1)*l 1:=λj=>by rw[<-s2 j];exact m2 _
 have d3:∀j,aS prog 83 [.pv (Z (e (j+1)*e 1)),.pv (Z 1073741824)] [] [] (.pv (Z (e (j+2)))):=λj=>by have:=O j;rw[s1 j,s1 (j+1)]at this;exact this
 have d4:∀j,aS prog 84 [.pv (Z (l (j+1)*l 1)),.pv (Z 1073741824)] [] [] (.pv (Z (l (j+2)))):=λj=>by have:=P j;rw[s2 j,s2 (j+1)]at this;exact this
 have s:=n1 0;have u:=n1 1;have v:=n1 2;have y:=n1 3;have z:=n1 4;have A:=n1 5;have B:=n1 6;have D:=n1 7;have E:=n1 8;have F:=n2 0;have G:=n2 1;have H:=n2 2;have I:=n2 3;have J:=n2 4;have K:=n2 5;have L:=n2 6;have M:=n2 7;have N:=n2 8;simp only[Nat.reduceAdd]at s u v y z A B D E F G H I J K L M N;clear n1 n2 m1 m2 O P s1 s2 hf R p q;refine Dp func341 λC hP hN=>?_;refine Gz ?_;refine WP.loopN [] 9 (λi st=>st.t 2=.ptr 2 0/\st.t 3=.ptr 3 0/\st.t 4=.ptr 4 0/\st.t 5=.ptr 5 0/\st.t 6=.pv (Z (i+2:Nat))/\st.h 2=some (.box (iV e 0) true false)/\st.h 3=some (.box (iV e 0) true false)/\st.h 4=some (.box (iV e (i+2)) true false)/\st.h 5=some (.box (iV l (i+2)) true false)) (by simp[iV,n,o]) ?_;rintro i st hi ⟨g2,g3,g4,g5,m,a,b,c,d⟩
 have hc:i=0\/i=1\/i=2\/i=3\/i=4\/i=5\/i=6\/i=7\/i=8\/i=9:=by omega
 rcases hc with rfl|rfl|rfl|rfl|rfl|rfl|rfl|rfl|rfl|rfl
 all_goals (simp only[iV]at a b c d;simp at m a b c d)
 .skip
  with_reducible repeat' (first|refine Sp.h ?_|((first|refine Wd ?_|refine Ss.h ?_|refine Sc.h (d3 0) ?_|refine Sc.h (d4 0) ?_)<;>simp -implicitDefEqProofs [hP,hN,g2,g3,g4,g5,m,a,b,c,d,n,o,s,F,iV]<;>try refine Ya ?_))
 .skip
  with_reducible repeat' (first|refine Sp.h ?_|((first|refine Wd ?_|refine Ss.h ?_|refine Sc.h (d3 1) ?_|refine Sc.h (d4 1) ?_)<;>simp -implicitDefEqProofs [hP,hN,g2,g3,g4,g5,m,a,b,c,d,n,o,u,G,iV]<;>try refine Ya ?_))
 .skip
  with_reducible repeat' (first|refine Sp.h ?_|((first|refine Wd ?_|refine Ss.h ?_|refine Sc.h (d3 2) ?_|refine Sc.h (d4 2) ?_)<;>simp -implicitDefEqProofs [hP,hN,g2,g3,g4,g5,m,a,b,c,d,n,o,v,H,iV]<;>try refine Ya ?_))
 .skip
  with_reducible repeat' (first|refine Sp.h ?_|((first|refine Wd ?_|refine Ss.h ?_|refine Sc.h (d3 3) ?_|refine Sc.h (d4 3) ?_)<;>simp -implicitDefEqProofs [hP,hN,g2,g3,g4,g5,m,a,b,c,d,n,o,y,I,iV]<;>try refine Ya ?_))
 .skip
  with_reducible repeat' (first|refine Sp.h ?_|((first|refine Wd ?_|refine Ss.h ?_|refine Sc.h (d3 4) ?_|refine Sc.h (d4 4) ?_)<;>simp -implicitDefEqProofs [hP,hN,g2,g3,g4,g5,m,a,b,c,d,n,o,z,J,iV]<;>try refine Ya ?_))
 .skip
  with_reducible repeat' (first|refine Sp.h ?_|((first|refine Wd ?_|refine Ss.h ?_|refine Sc.h (d3 5) ?_|refine Sc.h (d4 5) ?_)<;>simp -implicitDefEqProofs [hP,hN,g2,g3,g4,g5,m,a,b,c,d,n,o,A,K,iV]<;>try refine Ya ?_))
 .skip
  with_reducible repeat' (first|refine Sp.h ?_|((first|refine Wd ?_|refine Ss.h ?_|refine Sc.h (d3 6) ?_|refine Sc.h (d4 6) ?_)<;>simp -implicitDefEqProofs [hP,hN,g2,g3,g4,g5,m,a,b,c,d,n,o,B,L,iV]<;>try refine Ya ?_))
 .skip
  with_reducible repeat' (first|refine Sp.h ?_|((first|refine Wd ?_|refine Ss.h ?_|refine Sc.h (d3 7) ?_|refine Sc.h (d4 7) ?_)<;>simp -implicitDefEqProofs [hP,hN,g2,g3,g4,g5,m,a,b,c,d,n,o,D,M,iV]<;>try refine Ya ?_))
 .skip
  with_reducible repeat' (first|refine Sp.h ?_|((first|refine Wd ?_|refine Ss.h ?_|refine Sc.h (d3 8) ?_|refine Sc.h (d4 8) ?_)<;>simp -implicitDefEqProofs [hP,hN,g2,g3,g4,g5,m,a,b,c,d,n,o,E,N,iV]<;>try refine Ya ?_))
 .skip
  exact Gy
theorem Q4(lo hi:Int)(h1:-4611686018427387904<=hi)(h2:hi<=4611686018427387904)(h3:-4611686018427387904<=lo)(h4:lo<=4611686018427387904):aH 342 (Z lo) (Z hi) (aK (tX lo hi)):=by
 have c1:=HF lo 16384 (by decide);have a:=FO hi 16384 (by decide);rw[uE (by decide) h3 h4]at c1;rw[sJ (by decide) h1 h2]at a;have b:tX lo hi=(max 0 (lo/16384),min 65536 (da hi 16384)):=rfl;rw[b];generalize lo/16384=u at *;generalize da hi 16384=v at *;refine Dp func342 λC hP hN=>?_;exact Gy
 all_goals (try simp)<;>(try omega)
theorem HI{n:Int}(hd:0<d):da n d=aM n d:=by
 unfold da aM;have e:=Int.mul_ediv_add_emod (n+d-1) d;have a:=Z1 (n+d-1) (show d≠0 by omega);have b:=Z3 (n+d-1) hd
 have:-n/d=-((n+d-1)/d):=by
  refine uD hd ?_ ?_
  .rw[yA1,Int.mul_comm];omega
  .rw[Int.add_mul,yA1,Int.mul_comm];omega
 omega
theorem cR{g:Nat->Int}(b:∀j,0<=g j/\g j<=1073741824)(j:Nat)(d:Int)(a:0<d):aS prog 84 [.pv (Z (g j)),.pv (Z d)] [] [] (.pv (Z (aM (g j) d))):=by
 have:=FO (g j) d (by omega);have h:=b j;rw[sJ a (by omega) (by omega),HI a]at this;exact this
theorem fR{f:Nat->Int}(hf:∀j,0<=f j/\f j<=1073741824)(j:Nat)(d:Int)(a:0<d):aS prog 83 [.pv (Z (f j)),.pv (Z d)] [] [] (.pv (Z (f j/d))):=by
 have:=HF (f j) d (by omega);have h:=hf j;rw[uE a (by omega) (by omega)]at this;exact this
theorem VZ(x:Int)(b:0<=x)(h1:x<=8192):aT 336 (Z x) (aK (vH x)):=by
 have m:=Q3 x b h1;have hf:=pE b h1;have a:=pF b h1;have c:vH x=tX (eF (oG (em x) (en x))) (eF (lK (em x) (en x))):=rfl;rw[c];generalize em x=f at *;generalize en x=g at *;simp only[oG,lK,VT,QR];have A:=hf 1;have u:=d7 (a 3).1 (a 3).2 (d:=6) (by decide) (by decide);have e:=cR a 3 6 (by decide);have r:=sx hf 5 (d:=120) (by decide);have o:=fR hf 5 120 (by decide);have y:=d7 (a 7).1 (a 7).2 (d:=5040) (by decide) (by decide);have j:=cR a 7 5040 (by decide);have v1:=a 1;have q:=sx hf 3 (d:=6) (by decide);have n:=fR hf 3 6 (by decide);have v:=d7 (a 5).1 (a 5).2 (d:=120) (by decide) (by decide);have i:=cR a 5 120 (by decide);have s:=sx hf 7 (d:=5040) (by decide);have p:=fR hf 7 5040 (by decide);have z:=d7 (a 9).1 (a 9).2 (d:=362880) (by decide) (by decide);have k:=cR a 9 362880 (by decide);have w0:i64.wrap (f 1-aM (g 3) 6)=f 1-aM (g 3) 6:=aa;have w1:i64.wrap (f 1-aM (g 3) 6+f 5/120)=f 1-aM (g 3) 6+f 5/120:=aa;have w2:i64.wrap (f 1-aM (g 3) 6+f 5/120-aM (g 7) 5040)=f 1-aM (g 3) 6+f 5/120-aM (g 7) 5040:=aa;have B:i64.wrap (g 1-f 3/6)=g 1-f 3/6:=aa;have D:i64.wrap (g 1-f 3/6+aM (g 5) 120)=g 1-f 3/6+aM (g 5) 120:=aa;have E:i64.wrap (g 1-f 3/6+aM (g 5) 120-f 7/5040)=g 1-f 3/6+aM (g 5) 120-f 7/5040:=aa;have F:i64.wrap (g 1-f 3/6+aM (g 5) 120-f 7/5040+aM (g 9) 362880)=g 1-f 3/6+aM (g 5) 120-f 7/5040+aM (g 9) 362880:=aa;have l:=Q4 (f 1-aM (g 3) 6+f 5/120-aM (g 7) 5040) (g 1-f 3/6+aM (g 5) 120-f 7/5040+aM (g 9) 362880) (by omega) (by omega) (by omega) (by omega);refine Dp func336 λC hP hN=>?_;exact Gy
theorem V0(x:Int)(b:0<=x)(h1:x<=8192):aT 337 (Z x) (aK (Ag x)):=by
 have n:=Q3 x b h1;have hf:=pE b h1;have a:=pF b h1;have e:Ag x=tX (eF (ss (em x) (en x))) (eF (pH (em x) (en x))):=rfl;rw[e];generalize em x=f at *;generalize en x=g at *;simp only[ss,pH,QR,VU];have z:=d7 (a 2).1 (a 2).2 (d:=2) (by decide) (by decide);have j:=cR a 2 2 (by decide);have u:=sx hf 4 (d:=24) (by decide);have p:=fR hf 4 24 (by decide);have B:=d7 (a 6).1 (a 6).2 (d:=720) (by decide) (by decide);have c6:=cR a 6 720 (by decide);have y:=sx hf 8 (d:=40320) (by decide);have r:=fR hf 8 40320 (by decide);have i:=d7 (a 10).1 (a 10).2 (d:=3628800) (by decide) (by decide);have c:=cR a 10 3628800 (by decide);have s:=sx hf 2 (d:=2) (by decide);have o:=fR hf 2 2 (by decide);have A:=d7 (a 4).1 (a 4).2 (d:=24) (by decide) (by decide);have k:=cR a 4 24 (by decide);have v:=sx hf 6 (d:=720) (by decide);have q:=fR hf 6 720 (by decide);have D:=d7 (a 8).1 (a 8).2 (d:=40320) (by decide) (by decide);have l:=cR a 8 40320 (by decide);have w0:i64.wrap (1073741824-aM (g 2) 2)=1073741824-aM (g 2) 2:=aa;have w1:i64.wrap (1073741824-aM (g 2) 2+f 4/24)=1073741824-aM (g 2) 2+f 4/24:=aa;have w2:i64.wrap (1073741824-aM (g 2) 2+f 4/24-aM (g 6) 720)=1073741824-aM (g 2) 2+f 4/24-aM (g 6) 720:=aa;have E:i64.wrap (1073741824-aM (g 2) 2+f 4/24-aM (g 6) 720+f 8/40320)=1073741824-aM (g 2) 2+f 4/24-aM (g 6) 720+f 8/40320:=aa;have F:i64.wrap (1073741824-aM (g 2) 2+f 4/24-aM (g 6) 720+f 8/40320-aM (g 10) 3628800)=1073741824-aM (g 2) 2+f 4/24-aM (g 6) 720+f 8/40320-aM (g 10) 3628800:=aa;have G:i64.wrap (1073741824-f 2/2)=1073741824-f 2/2:=aa;have H:i64.wrap (1073741824-f 2/2+aM (g 4) 24)=1073741824-f 2/2+aM (g 4) 24:=aa;have I:i64.wrap (1073741824-f 2/2+aM (g 4) 24-f 6/720)=1073741824-f 2/2+aM (g 4) 24-f 6/720:=aa;have J:i64.wrap (1073741824-f 2/2+aM (g 4) 24-f 6/720+aM (g 8) 40320)=1073741824-f 2/2+aM (g 4) 24-f 6/720+aM (g 8) 40320:=aa;have m:=Q4 (1073741824-aM (g 2) 2+f 4/24-aM (g 6) 720+f 8/40320-aM (g 10) 3628800) (1073741824-f 2/2+aM (g 4) 24-f 6/720+aM (g 8) 40320) (by omega) (by omega) (by omega) (by omega);refine Dp func337 λC hP hN=>?_;exact Gy
theorem Q5(r:Int)(b:0<=r)(h1:r<=16384):aT 334 (Z r) (aK (eo r)):=by
 by_cases h:r<=8192
 .have a:eo r=vH r:=by simp[eo,h]
  rw[a];have c:=VZ r b h;refine Dp func334 λC hP hN=>?_;exact Gy
 .have a:eo r=Ag (16384-r):=by simp[eo,h]
  rw[a];have c:=V0 (16384-r) (by omega) (by omega);have w:i64.wrap (16384-r)=16384-r:=aa;refine Dp func334 λC hP hN=>?_;exact Gy
theorem Mu(a:Int):aT 321 (Z a) (aK (pI a)):=by
 have b:pI a=qI (a%65536):=rfl;have f:=Mt a;have m0:0<=a%65536:=Z1 _ (by decide);have m1:a%65536<65536:=Z3 _ (by decide);rw[b];generalize a%65536=m at *;have j:m.tdiv 16384=m/16384:=Zc m0;have k:m.tmod 16384=m%16384:=yA8 m0;have w1:i64.wrap (m/16384)=m/16384:=aa;have c:0<=m%16384:=Z1 _ (by decide);have l:m%16384<16384:=Z3 _ (by decide);have d:=Q5 (m%16384) c (by omega);have e:=Q5 (16384-m%16384) (by omega) (by omega);have w2:i64.wrap (16384-m%16384)=16384-m%16384:=aa
 have hq:m/16384=0\/m/16384=1\/m/16384=2\/m/16384=3:=by omega
 unfold qI;generalize eo (m%16384)=u at *;generalize eo (16384-m%16384)=v at *;have g:aS prog 304 [.pv (aK u)] [] [] (.pv (aK (hC u))):=Mr;have i:aS prog 304 [.pv (aK v)] [] [] (.pv (aK (hC v))):=Mr;rcases hq with hq|hq|hq|hq<;>rw[hq]
 all_goals
  refine Dp func321 λC hP hN=>?_;exact Gy
theorem Q6(a:Int):aT 320 (Z a) (aK (vJ a)):=by
 have c:=Mt a;have m0:0<=a%65536:=Z1 _ (by decide);have m1:a%65536<65536:=Z3 _ (by decide);have d:=Mu (a%65536+16384);have w:i64.wrap (a%65536+16384)=a%65536+16384:=aa;have b:vJ a=pI (a%65536+16384):=rfl;rw[b];refine Dp func320 λC hP hN=>?_;exact Gy
def qv(a:Iv)(t:Int):Bool:=decide (a.1+(t-a.1)%65536<=a.2)
theorem Q7(t:Int)(h1:-2147483648<=a)(h2:a<=2147483648)(h3:-2147483648<=t)(h4:t<=2147483648):aH 332 (I a b) (Z t) (B (qv (a,b) t)):=by
 have c:=Mt (t-a);have m0:0<=(t-a)%65536:=Z1 _ (by decide);have m1:(t-a)%65536<65536:=Z3 _ (by decide);have w1:i64.wrap (t-a)=t-a:=aa;have w2:i64.wrap (a+(t-a)%65536)=a+(t-a)%65536:=aa;refine Dp func332 λC hP hN=>?_;refine Gz ?_
 all_goals rfl
theorem Dx{a:Iv}{t:Int}(ha:aO a.1 a.2=true):mr a t=qv a t:=by
 have m0:0<=(t-a.1)%65536:=Z1 _ (by decide);simp only[mr,qv,ha,Zf];rw[Zs (show a.1<=a.1+(t-a.1)%65536 by omega),Zf]
theorem Q8(v:Int->Iv)(t u:Int)(m:-2147483648<=t)(f:t<=2147483648)(n:-2147483648<=u)(g:u<=2147483648):xW 319 (I a b) (aK (v a)) (aK (v b)) (Z t) (Z u) (aK (iT (a,b) v t u)):=by
 have i:=rS a b
 cases c:aO a b with
 |false=>
  rw[c]at i
  have d:iT (a,b) v t u=(0,0):=by simp[iT,c]
  rw[d];refine Dp func319 λC hP hN=>?_;exact Gy
 |true=>
  rw[c]at i;have e:=dY.1 c;have w:i64.wrap (b-a)=b-a:=aa;have k:=Q7 (b:=b) t e.1 (by omega) m f;have l:=Q7 (b:=b) u e.1 (by omega) n g;by_cases j:65536<=b-a
  .have d:iT (a,b) v t u=(-65536,65536):=by simp only[iT,c];rw[YR (by simp),YY j]
   rw[d];refine Dp func319 λC hP hN=>?_;exact Gy
  .have d:iT (a,b) v t u=(if qv (a,b) u then gj (if qv (a,b) t then gj (gj (v a) (v b)) (qo 65536)else gj (v a) (v b)) (qo (-65536))else(if qv (a,b) t then gj (gj (v a) (v b)) (qo 65536)else gj (v a) (v b))):=by
    simp only[iT,c];rw[YR (by simp),YR j,Dx c,Dx c]
   rw[d];have c1:=IB (v a).1 (v a).2 (v b).1 (v b).2;have q:=FS 65536;have r:=FS (-65536);have o:qo 65536=(fe 65536,fe 65536):=rfl;have p:qo (-65536)=(fe (-65536),fe (-65536)):=rfl;rw[o,p];generalize fe 65536=k1 at *;generalize fe (-65536)=k2 at *;generalize y:gj (v a) (v b)=H at *;have s:=IB H.1 H.2 k1 k1;have x:=IB H.1 H.2 k2 k2;have c6:=IB (gj H (k1,k1)).1 (gj H (k1,k1)).2 k2 k2;cases m1:qv (a,b) t<;>cases m2:qv (a,b) u<;>rw[m1]at k<;>rw[m2]at l<;>simp only[YU,Y5,Za]
   all_goals
    refine Dp func319 λC hP hN=>?_;exact Gy
theorem V4:aT 303 (I a b) (aK (sy (a,b))):=by
 have h:sy (a,b)=iT (a,b) pI 16384 49152:=rfl;rw[h];have c:=Q8 (a:=a) (b:=b) pI 16384 49152 (by decide) (by decide) (by decide) (by decide);have c1:=Mu a;have d:=Mu b;generalize pI a=u at *;generalize pI b=v at *;refine Dp func303 λC hP hN=>?_;exact Gy
theorem V5:aT 302 (I a b) (aK (sA (a,b))):=by
 have h:sA (a,b)=iT (a,b) vJ 0 32768:=rfl;rw[h];have c:=Q8 (a:=a) (b:=b) vJ 0 32768 (by decide) (by decide) (by decide) (by decide);have c1:=Q6 a;have d:=Q6 b;generalize vJ a=u at *;generalize vJ b=v at *;refine Dp func302 λC hP hN=>?_;exact Gy
theorem KG{x:Iv}(h:aO x.1 x.2=true):ff (0,0) x=x:=by
 have h':=dY.1 h;simp only[ff,h,show aO 0 0=true from rfl,Z9,Za,fe]
 ext<;>(try simp only[])<;>omega
theorem I9(x y:Iv):aO (ew x y).1 (ew x y).2=true:=by
 unfold ew;split
 .rw[dY];simp only[fe,da];omega
 .rfl
theorem yP(m v:aq):jx m v 3=ff (ff (ew m.1 v.1) (ew m.2.1 v.2.1)) (ew m.2.2 v.2.2):=by
 show ff (ff (ff (0,0) (ew m.1 v.1)) (ew m.2.1 v.2.1)) (ew m.2.2 v.2.2)=_;rw[KG (I9 _ _)]
theorem NP:fe 65536=65536:=by decide
theorem Q9(x y z:Int):aT 228 (ol x y z) (bh (dq (x,y,z))):=by
 have hp:dq (x,y,z)=((fe x,fe x),(fe y,fe y),(fe z,fe z)):=rfl;rw[hp];refine Dp func228 λC hP hN=>?_;have a:=@FS;exact GS trivial
theorem Ra:aH 264 (V6 a0 a1 a2 a3 a4 a5) (V6 b0 b1 b2 b3 b4 b5) (bh (sB ((a0,a1),(a2,a3),(a4,a5)) ((b0,b1),(b2,b3),(b4,b5)))):=by
 refine Dp func264 λC hP hN=>?_;have a:=@FT;refine GT trivial ?_
 all_goals (try simp[sB])
theorem Rb:BO 225 (yJ mt):=by
 have c1:=FS 65536;rw[NP]at c1;refine Dp func225 λC hP hN=>?_;refine Gz ?_
 all_goals (try simp[mt])
theorem V7(x:Int):aH 287 (Z x) (I a b) (yJ (eQ x (a,b))):=by
 have i:=FS 65536;rw[NP]at i;have g:=rS a b
 cases e:aO a b with
 |false=>
  rw[e]at g
  have c:eQ x (a,b)=(aY,aY,aY):=by simp[eQ,e]
  rw[c];refine Dp func287 λC hP hN=>?_
  with_reducible repeat' (first|refine Sp.h ?_|((first|refine Ss.h ?_|refine Sc.h (g) ?_)<;>simp -implicitDefEqProofs [hP,hN,aY]))
 |true=>
  rw[e]at g;have l:=V4 (a:=a) (b:=b);have j:=V5 (a:=a) (b:=b);generalize hS:sy (a,b)=S at *;generalize d:sA (a,b)=Q at *;have k:=Mr (a:=S.1) (b:=S.2);by_cases f:x=0
  .have c:eQ x (a,b)=(((65536,65536),(0,0),(0,0)),((0,0),Q,hC S),((0,0),S,Q)):=by simp[eQ,e,f,hS,d]
   rw[c];subst f;refine Dp func287 λC hP hN=>?_;exact Gy
  by_cases h1:x=1
  .have c:eQ x (a,b)=((Q,(0,0),S),((0,0),(65536,65536),(0,0)),(hC S,(0,0),Q)):=by simp[eQ,e,h1,hS,d]
   rw[c];subst h1;refine Dp func287 λC hP hN=>?_;exact Gy
  by_cases h2:x=2
  .have c:eQ x (a,b)=((Q,hC S,(0,0)),(S,Q,(0,0)),((0,0),(0,0),(65536,65536))):=by simp[eQ,e,h2,hS,d]
   rw[c];subst h2;refine Dp func287 λC hP hN=>?_;exact Gy
  have c:eQ x (a,b)=(aY,aY,aY):=by simp[eQ,e,f,h1,h2]
  rw[c]
  have m:(x==0)=false:=by simp[f]
  have n:(x==1)=false:=by simp[h1]
  have o:(x==2)=false:=by simp[h2]
  refine Dp func287 λC hP hN=>?_
  with_reducible repeat' (first|refine Sp.h ?_|((first|refine Wd ?_|refine Ss.h ?_|refine Sc.h (g) ?_|refine Sc.h (l) ?_|refine Sc.h (j) ?_|refine Sc.h (k) ?_|refine Sc.h (i) ?_)<;>simp -implicitDefEqProofs [hP,hN,aY,m,n,o,f,h1,h2]<;>try refine Ya ?_))
theorem Rc:aH 265 (FF a0 a1 a2 a3 a4 a5 a6 a7 a8 a9 a10 a11 a12 a13 a14 a15 a16 a17) (V6 v0 v1 v2 v3 v4 v5) (bh (uA (((a0,a1),(a2,a3),(a4,a5)),((a6,a7),(a8,a9),(a10,a11)),((a12,a13),(a14,a15),(a16,a17))) ((v0,v1),(v2,v3),(v4,v5)))):=by
 obtain⟨D,f⟩:∃D:aq,D=uA (((a0,a1),(a2,a3),(a4,a5)),((a6,a7),(a8,a9),(a10,a11)),((a12,a13),(a14,a15),(a16,a17))) ((v0,v1),(v2,v3),(v4,v5)):=⟨_,rfl⟩
 have j:ff (ff (ew (a0,a1) (v0,v1)) (ew (a2,a3) (v2,v3))) (ew (a4,a5) (v4,v5))=D.1:=by rw[f];exact(yP ((a0,a1),(a2,a3),(a4,a5)) ((v0,v1),(v2,v3),(v4,v5))).symm
 have k:ff (ff (ew (a6,a7) (v0,v1)) (ew (a8,a9) (v2,v3))) (ew (a10,a11) (v4,v5))=D.2.1:=by rw[f];exact(yP ((a6,a7),(a8,a9),(a10,a11)) ((v0,v1),(v2,v3),(v4,v5))).symm
 have l:ff (ff (ew (a12,a13) (v0,v1)) (ew (a14,a15) (v2,v3))) (ew (a16,a17) (v4,v5))=D.2.2:=by rw[f];exact(yP ((a12,a13),(a14,a15),(a16,a17)) ((v0,v1),(v2,v3),(v4,v5))).symm
 rw[<-f];clear f;refine Dp func265 λC hP hN=>?_;refine Gz ?_;refine WP.loopN [] 3 (λi st=>st.t 2=.ptr 2 0/\st.t 3=.ptr 3 0/\st.t 4=.ptr 4 0/\st.t 5=.ptr 5 0/\st.h 2=some (.box [.pv (Z a0),.pv (Z a1),.pv (Z a2),.pv (Z a3),.pv (Z a4),.pv (Z a5),.pv (Z a6),.pv (Z a7),.pv (Z a8),.pv (Z a9),.pv (Z a10),.pv (Z a11),.pv (Z a12),.pv (Z a13),.pv (Z a14),.pv (Z a15),.pv (Z a16),.pv (Z a17)] true false)/\st.h 3=some (.box [.pv (Z v0),.pv (Z v1),.pv (Z v2),.pv (Z v3),.pv (Z v4),.pv (Z v5)] true false)/\st.h 4=some (.box (c6 D 0) true false)/\st.t 6=.pv (Z i)/\st.h 5=some (.box (c6 D i) true false)) (by simp[c6]) ?_;rintro i st hi ⟨g2,c,g4,g5,d,e,a,g,b⟩;rcases dC hi with rfl|rfl|rfl|rfl
 all_goals (simp[c6]at g a b)
 .skip
  with_reducible repeat' (first|refine Sp.h ?_|((first|refine Wd ?_|refine Ss.h ?_|refine Sc.h (I8) ?_|refine Sc.h (FT) ?_)<;>simp -implicitDefEqProofs [hP,hN,g2,c,g4,g5,g,d,e,a,b,j,c6]<;>try refine Ya ?_))
 .skip
  with_reducible repeat' (first|refine Sp.h ?_|((first|refine Wd ?_|refine Ss.h ?_|refine Sc.h (I8) ?_|refine Sc.h (FT) ?_)<;>simp -implicitDefEqProofs [hP,hN,g2,c,g4,g5,g,d,e,a,b,k,c6]<;>try refine Ya ?_))
 .skip
  with_reducible repeat' (first|refine Sp.h ?_|((first|refine Wd ?_|refine Ss.h ?_|refine Sc.h (I8) ?_|refine Sc.h (FT) ?_)<;>simp -implicitDefEqProofs [hP,hN,g2,c,g4,g5,g,d,e,a,b,l,c6]<;>try refine Ya ?_))
 .skip
  exact Gy
theorem Rd(x:Int):max (-65536) (min x 65536)=xz x:=by unfold xz;omega
theorem V8{b6 F G H p q r s u v y z:Int}:aH 263 (FF a0 a1 a2 a3 a4 a5 a6 a7 a8 a9 a10 a11 a12 a13 a14 a15 a16 a17) (FF b0 b1 b2 b3 b4 b5 b6 F G H p q r s u v y z) (yJ (Bq (((a0,a1),(a2,a3),(a4,a5)),((a6,a7),(a8,a9),(a10,a11)),((a12,a13),(a14,a15),(a16,a17))) (((b0,b1),(b2,b3),(b4,b5)),((b6,F),(G,H),(p,q)),((r,s),(u,v),(y,z))))):=by
 obtain⟨A,I⟩:∃A:oH,A=(((a0,a1),(a2,a3),(a4,a5)),((a6,a7),(a8,a9),(a10,a11)),((a12,a13),(a14,a15),(a16,a17))):=⟨_,rfl⟩;obtain⟨B,J⟩:∃B:oH,B=(((b0,b1),(b2,b3),(b4,b5)),((b6,F),(G,H),(p,q)),((r,s),(u,v),(y,z))):=⟨_,rfl⟩;rw[<-I,<-J];obtain⟨M,j⟩:∃l:List AV,l=[a0,a1,a2,a3,a4,a5,a6,a7,a8,a9,a10,a11,a12,a13,a14,a15,a16,a17].map λx=>.pv (Z x):=⟨_,rfl⟩;obtain⟨N,m⟩:∃l:List AV,l=[b0,b1,b2,b3,b4,b5,b6,F,G,H,p,q,r,s,u,v,y,z].map λx=>.pv (Z x):=⟨_,rfl⟩;simp only[Z0,yA6]at j m
 have O:g3 (g3 A 0) 0=(a0,a1)/\g3 (g3 A 0) 1=(a2,a3)/\g3 (g3 A 0) 2=(a4,a5)/\g3 (g3 A 1) 0=(a6,a7)/\g3 (g3 A 1) 1=(a8,a9)/\g3 (g3 A 1) 2=(a10,a11)/\g3 (g3 A 2) 0=(a12,a13)/\g3 (g3 A 2) 1=(a14,a15)/\g3 (g3 A 2) 2=(a16,a17)/\g3 (eT B 0) 0=(b0,b1)/\g3 (eT B 1) 0=(b2,b3)/\g3 (eT B 2) 0=(b4,b5)/\g3 (eT B 0) 1=(b6,F)/\g3 (eT B 1) 1=(G,H)/\g3 (eT B 2) 1=(p,q)/\g3 (eT B 0) 2=(r,s)/\g3 (eT B 1) 2=(u,v)/\g3 (eT B 2) 2=(y,z):=by
  rw[I,J]
  repeat' (first|rfl|constructor)
 have f:∀i k,xz (ff (ff (ew (g3 (g3 A i) 0) (g3 (eT B k) 0)) (ew (g3 (g3 A i) 1) (g3 (eT B k) 1))) (ew (g3 (g3 A i) 2) (g3 (eT B k) 2))).1=(uB A B i k).1/\xz (ff (ff (ew (g3 (g3 A i) 0) (g3 (eT B k) 0)) (ew (g3 (g3 A i) 1) (g3 (eT B k) 1))) (ew (g3 (g3 A i) 2) (g3 (eT B k) 2))).2=(uB A B i k).2:=λi k=>by
  have e:=yAj IY (yP (g3 A i) (eT B k));exact⟨(yAj Prod.fst e).symm,(yAj Prod.snd e).symm⟩
 clear I J;refine Dp func263 λC hP hN=>?_
 with_reducible repeat' (first|refine Sp.h ?_|((first|refine Wd ?_|refine Ss.h ?_|(refine Sb.h ?_ ?_ ?_<;>(try intro hgd)<;>try exact Xy))<;>simp -implicitDefEqProofs (maxSteps:=2000000) [hP,hN,j,m]<;>try refine Ya ?_)|refine X2 ?_ ?_|(refine Xd ?_ ?_<;>intro hcd<;>try exact Xx))
 refine WP.loopN [8] 3 (λi st=>tu M N A B st/\st.t 6=.pv (Z i)/\st.h 5=some (.box (cC A B i 0) true false)/\st.h 8=none) (by simp[tu,cC,iD,j,m]) ?_;rintro i st hi ⟨⟨g2,n,g4,g5,b,c,d⟩,E,g,D⟩;rw[j]at b;rw[m]at c;by_cases h3:i=3
 .simp[cC,iD,h3]at E d g
  with_reducible repeat' (first|refine Sp.h ?_|((first|refine Wd ?_|refine Ss.h ?_|(refine Sb.h ?_ ?_ ?_<;>(try intro hgd)<;>try exact Xy))<;>simp -implicitDefEqProofs (maxSteps:=2000000) [hP,hN,g2,n,g4,g5,E,b,c,d,g,D,Bq,h3]<;>try refine Ya ?_)|refine X2 ?_ ?_|(refine Xd ?_ ?_<;>intro hcd<;>try exact Xx))
 have a:i=0\/i=1\/i=2:=by omega
 rcases a with a|a|a
 all_goals
  with_reducible repeat' (first|refine Sp.h ?_|((first|refine Wd ?_|refine Ss.h ?_|(refine Sb.h ?_ ?_ ?_<;>(try intro hgd)<;>try exact Xy))<;>simp -implicitDefEqProofs (maxSteps:=2000000) [hP,hN,g2,n,g4,g5,E,b,c,d,g,D,a]<;>try refine Ya ?_)|refine X2 ?_ ?_|(refine Xd ?_ ?_<;>intro hcd<;>try exact Xx))
  refine WP.loopN [8] 3 (λk st=>tu M N A B st/\st.t 6=.pv (Z i)/\st.t 7=.pv (Z k)/\st.h 5=some (.box (cC A B i k) true false)/\st.h 8=none) (by simp[tu,cC,iD,j,m,g2,n,g4,g5,E,b,c,d,g,a]) ?_;clear g2 n g4 g5 E b c d g D;rintro k st P ⟨⟨g2,n,g4,g5,b,c,d⟩,E,L,g,D⟩;rw[j]at b;rw[m]at c;have K:=f i k;rcases dC P with o|o|o|o
  all_goals
   simp only[a,o,O]at K;simp[cC,iD,a,o]at L d g
   with_reducible repeat' (first|refine Sp.h ?_|((first|refine Wd ?_|refine Ss.h ?_|refine Sc.h (I8) ?_|refine Sc.h (FT) ?_|(refine Sb.h ?_ ?_ ?_<;>(try intro hgd)<;>try exact Xy))<;>simp -implicitDefEqProofs (maxSteps:=2000000) [hP,hN,g2,n,g4,g5,E,L,b,c,d,g,D,tu,j,m,cC,iD,Rd,K,a,o]<;>try refine Ya ?_)|refine X2 ?_ ?_|(refine Xd ?_ ?_<;>intro hcd<;>try exact Xx))
theorem Mv:BO 186 (bw gm):=by
 refine Dp func186 λC hP hN=>?_;have a:=@Rb;refine GT trivial ?_
 all_goals (try simp[gm,aY,mt])
theorem Ja:aT 262 (V6 v0 v1 v2 v3 v4 v5) (bw (dr ((v0,v1),(v2,v3),(v4,v5)))):=by
 refine Dp func262 λC hP hN=>?_;have a:=@Rb;refine GT trivial ?_
 all_goals (try simp[dr])
theorem Mw(x:Int):aH 261 (Z x) (I a b) (bw (gE x (a,b))):=by
 have d:=V7 (a:=a) (b:=b) x;have c:gE x (a,b)=(eQ x (a,b),aY):=rfl;rw[c];generalize eQ x (a,b)=m at *;refine Dp func261 λC hP hN=>?_;refine Gz ?_
 all_goals (try simp[aY])
theorem V9{a b c d e f:Int}:aH 227 (zy a0 a1 a2 a3 a4 a5 a6 a7 a8 a9 a10 a11 a12 a13 a14 a15 a16 a17 a b c d e f) (V6 v0 v1 v2 v3 v4 v5) (bh (ik ((((a0,a1),(a2,a3),(a4,a5)),((a6,a7),(a8,a9),(a10,a11)),((a12,a13),(a14,a15),(a16,a17))),((a,b),(c,d),(e,f))) ((v0,v1),(v2,v3),(v4,v5)))):=by
 refine Dp func227 λC hP hN=>?_;have g:=@Rc;have i:=@Ra;refine GT trivial ?_
 all_goals (try simp[ik])
theorem xI{a b c d e f b6 x y z g i j k l m n o p q r s u v:Int}:aH 224 (zy a0 a1 a2 a3 a4 a5 a6 a7 a8 a9 a10 a11 a12 a13 a14 a15 a16 a17 a b c d e f) (zy b0 b1 b2 b3 b4 b5 b6 x y z g i j k l m n o p q r s u v) (bw (oJ ((((a0,a1),(a2,a3),(a4,a5)),((a6,a7),(a8,a9),(a10,a11)),((a12,a13),(a14,a15),(a16,a17))),((a,b),(c,d),(e,f))) ((((b0,b1),(b2,b3),(b4,b5)),((b6,x),(y,z),(g,i)),((j,k),(l,m),(n,o))),((p,q),(r,s),(u,v))))):=by
 refine Dp func224 λC hP hN=>?_;have A:=@Rc;have B:=@Ra;have D:=@V8;refine GT trivial ?_
 all_goals (try simp[oJ,ik])
theorem Wa(j:J)(o:0<=j.kind)(h6:j.kind<=6):aH 223 (aQ j) (I a b) (bw (mw j (a,b))):=by
 have n:=Q9 j.ox j.oy j.oz;have l:=Mv;have m:mw j (a,b)=oJ (dr (dq (j.ox,j.oy,j.oz))) (fp j.kind (a,b)):=rfl;rw[m];generalize dq (j.ox,j.oy,j.oz)=pv at *;have k:=Ja (v0:=pv.1.1) (v1:=pv.1.2) (v2:=pv.2.1.1) (v3:=pv.2.1.2) (v4:=pv.2.2.1) (v5:=pv.2.2.2);have k:aS prog 262 [.pv (bh pv)] [] [] (.pv (bw (dr pv))):=k;generalize dr pv=sp at *;generalize i:gm=g at *
 have key:j.kind=0\/j.kind=1\/j.kind=2\/j.kind=3\/j.kind=4\/j.kind=5\/j.kind=6:=by omega
 rcases key with c|c|c|c|c|c|c
 .have d:fp j.kind (a,b)=g:=by simp[fp,c,i]
  have e:=l;rw[d];generalize g=mp at *;refine Dp func223 λC hP hN=>?_;have f:=@xI;exact GS c
 .have d:fp j.kind (a,b)=gE 0 (a,b):=by simp[fp,c]
  have e:=Mw (a:=a) (b:=b) 0;rw[d];generalize gE 0 (a,b)=mp at *;refine Dp func223 λC hP hN=>?_;have f:=@xI;exact GS c
 .have d:fp j.kind (a,b)=gE 1 (a,b):=by simp[fp,c]
  have e:=Mw (a:=a) (b:=b) 1;rw[d];generalize gE 1 (a,b)=mp at *;refine Dp func223 λC hP hN=>?_;have f:=@xI;exact GS c
 .have d:fp j.kind (a,b)=gE 2 (a,b):=by simp[fp,c]
  have e:=Mw (a:=a) (b:=b) 2;rw[d];generalize gE 2 (a,b)=mp at *;refine Dp func223 λC hP hN=>?_;have f:=@xI;exact GS c
 .have d:fp j.kind (a,b)=dr ((a,b),(0,0),(0,0)):=by simp[fp,c]
  have e:=Ja (v0:=((a,b),(0,0),(0,0)).1.1) (v1:=((a,b),(0,0),(0,0)).1.2) (v2:=((a,b),(0,0),(0,0)).2.1.1) (v3:=((a,b),(0,0),(0,0)).2.1.2) (v4:=((a,b),(0,0),(0,0)).2.2.1) (v5:=((a,b),(0,0),(0,0)).2.2.2);rw[d];generalize dr ((a,b),(0,0),(0,0))=mp at *;refine Dp func223 λC hP hN=>?_;have f:=@xI;exact GS c
 .have d:fp j.kind (a,b)=dr ((0,0),(a,b),(0,0)):=by simp[fp,c]
  have e:=Ja (v0:=((0,0),(a,b),(0,0)).1.1) (v1:=((0,0),(a,b),(0,0)).1.2) (v2:=((0,0),(a,b),(0,0)).2.1.1) (v3:=((0,0),(a,b),(0,0)).2.1.2) (v4:=((0,0),(a,b),(0,0)).2.2.1) (v5:=((0,0),(a,b),(0,0)).2.2.2);rw[d];generalize dr ((0,0),(a,b),(0,0))=mp at *;refine Dp func223 λC hP hN=>?_;have f:=@xI;exact GS c
 .have d:fp j.kind (a,b)=dr ((0,0),(0,0),(a,b)):=by simp[fp,c]
  have e:=Ja (v0:=((0,0),(0,0),(a,b)).1.1) (v1:=((0,0),(0,0),(a,b)).1.2) (v2:=((0,0),(0,0),(a,b)).2.1.1) (v3:=((0,0),(0,0),(a,b)).2.1.2) (v4:=((0,0),(0,0),(a,b)).2.2.1) (v5:=((0,0),(0,0),(a,b)).2.2.2);rw[d];generalize dr ((0,0),(0,0),(a,b))=mp at *;refine Dp func223 λC hP hN=>?_;have f:=@xI;exact GS c
theorem Wb(s:Sh)(A:s.pts.length<=9223372036854775807):aT 226 (ba s) (B (fO s)):=by
 have hd:fO s=(decide (1<=s.rad)&&decide (s.rad<=1048576)&&decide (1<=s.pts.length)&&decide (s.pts.length<=8)&&s.pts.all (ax 4194304)):=rfl;by_cases y:s.rad<1\/1048576<s.rad\/(s.pts.length:Int)<1\/(8:Int)<s.pts.length
 .have hf:fO s=false:=by
   cases h:fO s with
   |false=>rfl
   |true=>
    rw[hd]at h;simp only[up,Is]at h;omega
  rw[hf];rcases y with h1|h1|h1|h1
  all_goals
   refine Dp func226 λC hP hN=>?_;exact Gy
 have h1:¬s.rad<1:=by omega
 have h2:¬1048576<s.rad:=by omega
 have h3:¬(s.pts.length:Int)<1:=by omega
 have h4:¬(8:Int)<s.pts.length:=by omega
 have r:¬s.pts.length<1:=by omega
 have u:¬8<s.pts.length:=by omega
 have hf:fO s=s.pts.all (ax 4194304):=by
  rw[hd,Zs (by omega),Zs (by omega),Zs (by omega),Zs (by omega)];rfl
 rw[hf];refine Dp func226 λC hP hN=>?_;refine Gz ?_;refine WP.loopN [] s.pts.length (λk st=>st.t 1=.ptr 1 0/\st.h 1=some (.box [.pv (Z s.link),.pv (Z s.rad),.pv (aB s.pts)] true false)/\st.t 3=.pv (Z k)/\∀j x,j<k->s.pts[j]?=some x->ax 4194304 x=true) (by simp) ?_;rintro k st z ⟨g1,v,g3,hn⟩;by_cases d:k<s.pts.length
 .have D:=ae d A
  have f:(k:Int)<(s.pts.length:Int):=by omega
  generalize o:s.pts[k]=p at *
  have q:s.pts[k]?=some p:=by rw[an d,o]
  have l:=wZ p.1 p.2.1 p.2.2 4194304 (by decide) (by decide);have m:ax 4194304 p=eO p.1 p.2.1 p.2.2 4194304:=rfl;rw[<-m]at l;have i:=mZ (p:=ax 4194304) q hn
  cases hc:ax 4194304 p with
  |true=>
   rw[hc]at l;have g:=i hc;refine Gz ?_
   all_goals (intro j a b c E n;exact g j (a,b,c) (by omega) n)
  |false=>
   rw[hc]at l
   have e:s.pts.all (ax 4194304)=false:=by
    rw[yAm];exact⟨p,An q,by simp[hc]⟩
   exact Gy
 .have e:s.pts.all (ax 4194304)=true:=pJ hn d
  have f:¬(k:Int)<(s.pts.length:Int):=by omega
  exact Gy
theorem Wc(h:Sh)(p:oI)(hs:fO h=true):aH 187 (ba h) (bw p) (aD (dE h p)):=by
 have h8:h.pts.length<=8:=by
  simp only[fO,up,Is]at hs;omega
 have r:=Wb h (by omega);rw[hs]at r;have c:dE h p=h.pts.map λq=>ik p (dq q):=rfl;have o:∀v:aq,aS prog 227 [.pv (bw p),.pv (bh v)] [] [] (.pv (bh (ik p v))):=λv=>V9;have s:∀q:Vc,aS prog 228 [.pv (ai q)] [] [] (.pv (bh (dq q))):=λq=>Q9 q.1 q.2.1 q.2.2;have k:(bw p).cells=[Z p.1.1.1.1,Z p.1.1.1.2,Z p.1.1.2.1.1,Z p.1.1.2.1.2,Z p.1.1.2.2.1,Z p.1.1.2.2.2,Z p.1.2.1.1.1,Z p.1.2.1.1.2,Z p.1.2.1.2.1.1,Z p.1.2.1.2.1.2,Z p.1.2.1.2.2.1,Z p.1.2.1.2.2.2,Z p.1.2.2.1.1,Z p.1.2.2.1.2,Z p.1.2.2.2.1.1,Z p.1.2.2.2.1.2,Z p.1.2.2.2.2.1,Z p.1.2.2.2.2.2,Z p.2.1.1,Z p.2.1.2,Z p.2.2.1.1,Z p.2.2.1.2,Z p.2.2.2.1,Z p.2.2.2.2]:=rfl;refine Dp func187 λC hP hN=>?_;refine kp [5] trivial ?_;refine WP.loopN [] h.pts.length (λi st=>st.t 2=.ptr 2 0/\st.t 3=.ptr 3 0/\st.h 2=some (.box [.pv (Z h.link),.pv (Z h.rad),.pv (aB h.pts)] true false)/\st.h 3=some (.box ((bw p).cells.map .pv) true false)/\st.t 6=.pv (Z i)/\st.t 5=.arr 5 i/\st.h 5=some (.row 230 6 (((dE h p).map bh).take i) 0)) (by simp) ?_;rintro i st hi ⟨g2,g3,g,d,m,g5,e⟩
 have l:min i (dE h p).length=i:=by rw[c,Zm];omega
 by_cases b:i<h.pts.length
 .have y:=ae b (by omega)
  have a:(i:Int)<(h.pts.length:Int):=by omega
  generalize j:h.pts[i]=q at *
  have n:h.pts[i]?=some q:=by rw[an b,j]
  have hS:((dE h p).map bh).take (i+1)=((dE h p).map bh).take i++[bh (ik p (dq q))]:=by
   rw[List.take_succ,YS,c,YS,n];rfl
  have u:=s q;have x:=o (dq q);rw[hS]
  have hL:(((dE h p).map bh).take i).length=i:=by simp[l]
  generalize((dE h p).map bh).take i=R at *;generalize ik p (dq q)=z at *;generalize dq q=w at *;rw[k]at d
  with_reducible repeat' (first|refine Sp.h ?_|((first|refine Wd ?_|refine Ss.h ?_|refine Sc.h (u) ?_|refine Sc.h (x) ?_|(refine Sb.h ?_ ?_ ?_<;>(try intro hgd)<;>try exact Xy))<;>simp -implicitDefEqProofs (maxSteps:=2000000) [hP,hN,g2,g3,g,d,m,g5,e,b,a,n,j,y,hL,show(i+1)*48<=140737488355328 by omega,show i<=9223372036854775806 by omega]<;>try refine Ya ?_)|refine X2 ?_ ?_|(refine Xd ?_ ?_<;>intro hcd<;>try exact Xx))
 .have a:¬(i:Int)<(h.pts.length:Int):=by omega
  have f:((dE h p).map bh).take i=(dE h p).map bh:=Zh (by rw[Zm,c,Zm];omega);rw[f]at e
  have hL:(dE h p).length=i:=by rw[c,Zm];omega
  with_reducible repeat' (first|refine Sp.h ?_|((first|refine Wd ?_|refine Ss.h ?_|(refine Sb.h ?_ ?_ ?_<;>(try intro hgd)<;>try exact Xy))<;>simp -implicitDefEqProofs (maxSteps:=2000000) [hP,hN,g2,g3,g,d,m,g5,e,b,a,hL]<;>try refine Ya ?_)|refine X2 ?_ ?_|(refine Xd ?_ ?_<;>intro hcd<;>try exact Xx))
theorem Jb{x:Iv}(h:dc x=false):x.1< -268435456\/x.2<x.1\/268435456<x.2:=by
 by_cases hc:x.1< -268435456\/x.2<x.1\/268435456<x.2
 .exact hc
 .have:dc x=true:=by rw[fg];omega
  rw[h]at this;cases this
theorem Dy{x0 x1 x2 x3 x4 x5:Int}:aT 196 (V6 x0 x1 x2 x3 x4 x5) (B (bK ((x0,x1),(x2,x3),(x4,x5)))):=by
 have hd:bK ((x0,x1),(x2,x3),(x4,x5))=(dc (x0,x1)&&dc (x2,x3)&&dc (x4,x5)):=rfl;rw[hd];obtain⟨m,b⟩:∃m:Nat,m=(if dc (x0,x1)then(if dc (x2,x3)then(if dc (x4,x5)then 3 else 2)else 1)else 0):=⟨_,rfl⟩;refine Dp func196 λC hP hN=>?_;refine Gz ?_;refine WP.loopN [] 3 (λk st=>st.t 1=.ptr 1 0/\st.h 1=some (.box [.pv (Z x0),.pv (Z x1),.pv (Z x2),.pv (Z x3),.pv (Z x4),.pv (Z x5)] true false)/\st.t 3=.pv (Z k)/\k<=m) (by simp) ?_;rintro k st e ⟨g1,d,g3,f⟩;cases c:dc (x0,x1)<;>rw[c]at b
 .simp only[YU,Y5]at b
  have:k=0:=by omega
  subst this;have a:=Jb c;simp only at a;rcases a with q|q|q
  all_goals
   exact Gy
 simp only[Za]at b;have g:=fg.1 c;simp only at g;cases h1:dc (x2,x3)<;>rw[h1]at b
 .simp only[YU,Y5]at b
  have hc:k=0\/k=1:=by omega
  rcases hc with rfl|rfl
  .skip
   exact Gy
   all_goals omega
  .have a:=Jb h1
   simp only at a;rcases a with q|q|q
   all_goals
    exact Gy
 simp only[Za]at b;have i1:=fg.1 h1;simp only at i1;cases h2:dc (x4,x5)<;>rw[h2]at b
 .simp only[YU,Y5]at b
  have hc:k=0\/k=1\/k=2:=by omega
  rcases hc with rfl|rfl|rfl
  .skip
   exact Gy
   all_goals omega
  .skip
   exact Gy
   all_goals omega
  .have a:=Jb h2
   simp only at a;rcases a with q|q|q
   all_goals
    exact Gy
 simp only[Za]at b;have i2:=fg.1 h2;simp only at i2;rcases dC e with rfl|rfl|rfl|rfl
 .skip
  exact Gy
  all_goals omega
 .skip
  exact Gy
  all_goals omega
 .skip
  exact Gy
  all_goals omega
 .skip
  exact Gy
theorem Re(v:aq):aT 196 (bh v) (B (bK v)):=Dy
theorem xJ(xs:List aq)(J:xs.length<=9223372036854775807):aT 143 (aD xs) (B (au xs)):=by
 by_cases h8:xs.length<=8
 .have E:∀i:Nat,i<xs.length->i64.wrap ((i:Int)+1)=(i:Int)+1:=λi h=>aa (by omega) (by omega)
  refine Dp func143 λC hP hN=>?_;refine Gz ?_;refine WP.loopN [] xs.length (λi st=>st.t 0=.pv (aD xs)/\st.t 3=.pv (Z i)/\∀k x,k<i->xs[k]?=some x->bK x=true) (by simp) ?_;rintro i st hi ⟨g0,g3,hq⟩;by_cases g:i<xs.length
  .have H:=E i g
   have m:(i:Int)<(xs.length:Int):=by omega
   have z:(i:Int)<=8:=by omega
   have q:i<=8:=by omega
   generalize n:xs[i]=v at *
   have F:xs[i]?=some v:=by rw[an g,n]
   have s:=Re v;have D:=mZ (p:=bK) F hq
   cases hc:bK v with
   |true=>
    rw[hc]at s;have r:=D hc;refine Gz ?_
    all_goals exact λk a b c d e f I G=>r k ((a,b),(c,d),(e,f)) (by omega) G
   |false=>
    rw[hc]at s
    have j:xs.all bK=false:=by
     rw[yAm];exact⟨v,An F,by simp[hc]⟩
    have l:au xs=false:=by simp[au,j]
    rw[l];exact Gy
  .have j:xs.all bK=true:=pJ hq g
   have m:¬(i:Int)<(xs.length:Int):=by omega
   have l:au xs=decide (1<=xs.length):=by
    rw[au,j,Zs h8,yAp,yAp]
   rw[l];by_cases h1:1<=xs.length
   .have o:(1:Int)<=(xs.length:Int):=by omega
    have u:(xs.length:Int)<=8:=by omega
    exact Gy
   .have o:¬(1:Int)<=(xs.length:Int):=by omega
    exact Gy
 .have l:au xs=false:=by
   cases h:au xs with
   |false=>rfl
   |true=>simp only[au,up,Is]at h;omega
  rw[l];refine Dp func143 λC hP hN=>?_;refine Gz ?_;refine WP.loopN [] 9 (λi st=>st.t 0=.pv (aD xs)/\st.t 3=.pv (Z i)) (by simp) ?_;rintro i st hi ⟨g0,g3⟩
  have g:i<xs.length\/i=9:=by omega
  by_cases z:i<=8
  .have g:i<xs.length:=by omega
   have H:i64.wrap ((i:Int)+1)=(i:Int)+1:=aa
   have m:(i:Int)<(xs.length:Int):=by omega
   have q:(i:Int)<=8:=by omega
   generalize n:xs[i]=v at *
   have F:xs[i]?=some v:=by rw[an g,n]
   have s:=Re v;cases hc:bK v<;>rw[hc]at s
   .skip
    exact Gy
   .skip
    refine Gz ?_
    all_goals omega
  .have A:i=9:=by omega
   subst A
   have u:¬(xs.length:Int)<=8:=by omega
   have o:(1:Int)<=(xs.length:Int):=by omega
   have h1:1<=xs.length:=by omega
   by_cases h9:(9:Int)<(xs.length:Int)
   .have y:9<xs.length:=by omega
    exact Gy
   .have y:¬9<xs.length:=by omega
    exact Gy
theorem Rf(x:Iv):rW x=l6 x:=by
 unfold rW l6;split
 .rename_i h
  have h:=dY.1 h;rw[aa (by omega) (by omega),Int.fdiv_eq_ediv_of_nonneg _ (by decide)]
 .rfl
theorem HJ(xs:List aq)(m:xs.length<=9223372036854775807):aT 88 (aD xs) (aB (aw xs)):=by
 have k:=xJ xs m
 cases hp:au xs with
 |false=>
  rw[hp]at k
  have hc:aw xs=[]:=by simp[aw,hp]
  rw[hc];refine Dp func88 λC hP hN=>?_;exact Gy
 |true=>
  rw[hp]at k
  have h8:xs.length<=8:=by
   simp only[au,up,Is]at hp;omega
  have hc:aw xs=xs.map i6:=by simp[aw,hp]
  rw[hc];refine Dp func88 λC hP hN=>?_;refine kp [3] trivial ?_;refine WP.loopN [] xs.length (λi st=>st.t 0=.pv (aD xs)/\st.t 4=.pv (Z i)/\st.t 3=.arr 3 i/\st.h 3=some (.row 60 3 (((xs.map i6).map ai).take i) 0)) (by simp) ?_;rintro i st hi ⟨g0,g4,g3,d⟩
  have f:min i xs.length=i:=by omega
  by_cases c:i<xs.length
  .have n:=ae c (by omega)
   have a:(i:Int)<(xs.length:Int):=by omega
   generalize e:xs[i]=v at *
   have l:xs[i]?=some v:=by rw[an c,e]
   have g:=QS v.1;have c1:=QS v.2.1;have j:=QS v.2.2;rw[Rf]at g c1 j
   have hS:((xs.map i6).map ai).take (i+1)=((xs.map i6).map ai).take i++[ai (l6 v.1,l6 v.2.1,l6 v.2.2)]:=by
    rw[List.take_succ,YS,YS,l];rfl
   rw[hS]
   have hL:(((xs.map i6).map ai).take i).length=i:=by simp[f]
   generalize((xs.map i6).map ai).take i=R at *
   with_reducible repeat' (first|refine Sp.h ?_|((first|refine Wd ?_|refine Ss.h ?_|refine Sc.h (g) ?_|refine Sc.h (c1) ?_|refine Sc.h (j) ?_|(refine Sb.h ?_ ?_ ?_<;>(try intro hgd)<;>try exact Xy))<;>simp -implicitDefEqProofs (maxSteps:=2000000) [hP,hN,g0,g4,g3,d,c,a,l,e,n,hL,show(i+1)*24<=140737488355328 by omega,show i<=9223372036854775806 by omega]<;>try refine Ya ?_)|refine X2 ?_ ?_|(refine Xd ?_ ?_<;>intro hcd<;>try exact Xx))
  .have a:¬(i:Int)<(xs.length:Int):=by omega
   have b:((xs.map i6).map ai).take i=(xs.map i6).map ai:=Zh (by simp;omega);rw[b]at d
   have hL:xs.length=i:=by omega
   exact Gy
theorem Rg(js:List J)(ms:List Ms)(bx:List Iv)(c:js.length<=9223372036854775807)(a:bx.length<=9223372036854775807):aH 129 (eS js ms) (iv bx) (B (jQ js bx)):=by
 have hd:jQ js bx=(decide (bx.length=js.length)&&bE vI bx):=rfl;have b:=TY bx a;by_cases h:bx.length=js.length
 .rw[hd,Zs h,Zf]
  have h':((bx.length:Int)==(js.length:Int))=true:=by simp[h]
  generalize bE vI bx=r at *;refine Dp func129 λC hP hN=>?_;exact Gy
 .rw[hd,ZU h,Zt]
  have h':((bx.length:Int)==(js.length:Int))=false:=by simp;omega
  refine Dp func129 λC hP hN=>?_;exact Gy
set_option maxRecDepth 4000 in
theorem We(js:List J)(ms:List Ms)(bx:List Iv)(hm:ms.length<=9223372036854775807)(X:aR js ms=0)(E:jQ js bx=true):aH 185 (eS js ms) (iv bx) (.sl ((gS js bx).map bw)):=by
 obtain⟨Y,hl,_⟩:=tw X;have hb:=(vM.1 E).1;have cr:=rZ js ms (by omega) hm;have cb:=Rg js ms bx (by omega) (by omega);rw[X]at cr;rw[E]at cb;have L:(gS js bx).length=js.length:=km hb _ (Y0 _);have M:=λi j v(h1:js[i]?=some j)(h2:bx[i]?=some v)=>FJ hb h1 h2 (Y i j h1);generalize gS js bx=l at *;generalize z:l.map bw=e at *
 have ad:e.length=js.length:=by rw[<-z];simpa using L
 have B:∀k p,l[k]?=some p->e[k]?=some (bw p):=λk p h=>by rw[<-z,YS,h];rfl
 refine Dp func185 λC hP hN=>?_;refine kp [5] trivial ?_;refine WP.loopN [7] bx.length (λi st=>st.t 2=.ptr 2 0/\st.h 2=some (.box [.pv (.sl (js.map aQ)),.pv (.sl (ms.map bb))] true false)/\st.t 1=.pv (iv bx)/\st.t 6=.pv (Z i)/\st.h 7=none/\st.t 5=.arr 5 i/\st.h 5=some (.row 277 24 (e.take i) 0)) (by simp) ?_;rintro i st hi ⟨g2,m,g1,K,n,g5,f⟩
 have g:(e.take i).length=i:=by simp;omega
 by_cases c:i<bx.length
 .have hw:=ae c (by omega)
  have s:i<js.length:=by omega
  have d:(i:Int)<(bx.length:Int):=by omega
  generalize y:js[i]=j at *
  have I:js[i]?=some j:=by rw[an s,y]
  generalize u:bx[i]=v at *
  have U:bx[i]?=some v:=by rw[an c,u]
  obtain⟨⟨O,P⟩,ah,aj⟩:=Y i j I;have cj:=Wa (a:=v.1) (b:=v.2) j O P;have ha:=M i j v I U;generalize hq:mw j (v.1,v.2)=q at *
  have key:∀x,l[i]?=some x->e.take (i+1)=e.take i++[bw x]:=λx V=>by
   rw[List.take_succ,B i x V];rfl
  by_cases H:j.parent=-1
  .rw[YY H]at ha
   have k1:=key q ha;rw[k1]
   have o:(j.parent != -1)=false:=by simp[H]
   generalize e.take i=R at *;exact GS (zAc g2 m g1 K n g5 f g s c d hw I y (it U u o (show(i+1)*192<=140737488355328 by omega) (show i<=9223372036854775806 by omega)))
  .rw[YR H]at ha
   obtain⟨p,hp⟩:∃p:Nat,j.parent=p:=⟨j.parent.toNat,by omega⟩
   have o:(j.parent != -1)=true:=by simp[H]
   have Q:(0:Int)<=j.parent:=by omega
   have G:j.parent.toNat=p:=by omega
   have F:p<i:=by omega
   have T:p<l.length:=by omega
   have A:l[p]?=some l[p]:=an T;rw[G,A,Y8]at ha
   have D:(e.take i)[p]?=some (bw l[p]):=by rw[Zj,YY F];exact B p _ A
   have N:=qq D;generalize l[p]=W at *;have k1:=key _ ha;rw[k1];have cc:aS prog 224 [.pv (bw W),.pv (bw q)] [] [] (.pv (bw (oJ W q))):=xI;generalize oJ W q=ak at *;generalize e.take i=R at *
   have S:p<R.length:=by omega
   exact GS (zAc g2 m g1 K n g5 f g s c d hw I y (zAa U u o Q G F D N S (gA (show(i+1)*192<=140737488355328 by omega) (show i<=9223372036854775806 by omega))))
 .have r:e.take i=e:=Zh (by omega)
  have d:¬(i:Int)<(bx.length:Int):=by omega
  rw[r]at f g;exact GS (zAa g2 m g1 K n g5 f c d g)
set_option maxRecDepth 4000 in
theorem Wf(s:Sce)(bx:List Iv)(hs:ScL s)(y:ao s=0)(m:jQ s.js bx=true):aH 130 (aW s) (iv bx) (.sl ((eR s bx).map aD)):=by
 have U:=Hx s hs;rw[y]at U
 have hr:aR s.js s.ms=0:=by
  unfold ao at y;split at y
  .rename_i h;exact absurd y h
  .rename_i h;simpa using h
 obtain⟨v1,v2,v3,v4,v5,v6,v7⟩:=nu y;have J:=(vM.1 m).1;have T:=Rg s.js s.ms bx hs.js (by omega);have cl:=We s.js s.ms bx hs.ms hr m;rw[m]at T;have V:(gS s.js bx).length=s.js.length:=km J _ (Y0 _);have B:eR s bx=s.shs.map λh=>dE h (gT (gS s.js bx) h):=rfl;rw[B];generalize gS s.js bx=b at *;generalize g:(s.shs.map λh=>dE h (gT b h)).map aD=d
 have W:d.length=s.shs.length:=by rw[<-g];simp
 have A:∀k h,s.shs[k]?=some h->d[k]?=some (aD (dE h (gT b h))):=λk q X=>by rw[<-g,YS,YS,X];rfl
 refine Dp func130 λC hP hN=>?_;refine kp [6] trivial ?_;refine WP.loopN [8] s.shs.length (λi st=>st.t 2=.ptr 2 0/\st.h 2=some (.box [.pv (.sl (s.js.map aQ)),.pv (.sl (s.ms.map bb)),.pv (.sl (s.shs.map ba)),.pv (.sl (s.sks.map aK))] true false)/\st.t 5=.pv (.sl (b.map bw))/\st.t 7=.pv (Z i)/\st.h 8=none/\st.t 6=.arr 6 i/\st.h 6=some (.row 176 1 (d.take i) 0)) (by simp) ?_;rintro i st hi ⟨g2,j,g5,I,l,H,e⟩
 have f:(d.take i).length=i:=by simp;omega
 by_cases c:i<s.shs.length
 .have Q:=ae c (by omega)
  have a:(i:Int)<(s.shs.length:Int):=by omega
  generalize v:s.shs[i]=h at *
  have E:s.shs[i]?=some h:=by rw[an c,v]
  have Y:=An E;obtain⟨K,N⟩:=v6 h Y;simp only[bJ,up,Is]at K;have P:=λp=>Wc h p N
  have k2:d.take (i+1)=d.take i++[aD (dE h (gT b h))]:=by rw[List.take_succ,A i h E];rfl
  rw[k2];clear A g B;by_cases x:h.link=-1
  .have n:(h.link==-1)=true:=by simp[x]
   have o:(h.link != -1)=false:=by simp[x]
   have u:gT b h=gm:=by simp[gT,x]
   rw[u];have F:=P gm;have G:=Mv;generalize dE h gm=pl at *;generalize gm=O at *;generalize d.take i=R at *;exact GS (zAc g2 j g5 I l H e f c a Q E v n (be o (show(i+1)*24<=140737488355328 by omega) (show i<=9223372036854775806 by omega)))
  .have n:(h.link==-1)=false:=by simp[x]
   have o:(h.link != -1)=true:=by simp[x]
   have L:(0:Int)<=h.link:=by omega
   obtain⟨p,hp⟩:∃p:Nat,h.link.toNat=p:=⟨_,rfl⟩
   have D:p<b.length:=by omega
   have z:b[p]?=some b[p]:=an D
   have u:gT b h=b[p]:=by simp only[gT,YR x,hp,z,Y8]
   rw[u];generalize M:b[p]=S at *;have F:=P S;have G:=Mv;generalize dE h S=pl at *;generalize gm=O at *;generalize d.take i=R at *;exact GS (zAc g2 j g5 I l H e f c a Q E v n (s7 o L hp D z M (show(i+1)*24<=140737488355328 by omega) (show i<=9223372036854775806 by omega)))
 .have r:d.take i=d:=Zh (by omega)
  have a:¬(i:Int)<(s.shs.length:Int):=by omega
  rw[r]at e f;exact GS (zAa g2 j g5 I l H e c a f)
theorem Wg(n:Nat)(hn:n<4611686018427387904):aT 231 (Z n) (Z (cZ n)):=by
 by_cases y:n=0
 .subst y
  have E:cZ 0=0:=by decide +kernel
  rw[E];refine Dp func231 λC hP hN=>?_;exact Gy
 have B:¬(n:Int)<1:=by omega
 have r:¬n<1:=by omega
 have o:=sH (n:=n) (by omega);refine Dp func231 λC hP hN=>?_;refine Gz ?_;refine WP.loopN [] 32 (λi st=>∃lo hi:Nat,st.t 0=.pv (Z n)/\st.t 3=.pv (Z lo)/\st.t 4=.pv (Z hi)/\1<=lo/\lo<hi/\hi<=4294967296/\lo*lo<=n/\n<hi*hi/\hi-lo<=2^(32-i)) ⟨1,4294967296,by simp;omega⟩ ?_;rintro i st hi ⟨lo,a,g0,g3,g4,b1,b2,b3,b4,b5,b6⟩;have w1:i64.wrap ((a:Int)-(lo:Int))=((a-lo:Nat):Int):=(aa (by omega) (by omega)).trans (by omega);by_cases hc:1<a-lo
 .have f:i<32:=by
   by_cases h:i<32
   .exact h
   .have:i=32:=by omega
    subst this;simp at b6;omega
  have hp:2^(32-i)=2*2^(31-i):=by
   rw[show 32-i=(31-i)+1 by omega,yA5];omega
  rw[hp]at b6;obtain⟨m,F⟩:∃m:Nat,m=lo+(a-lo)/2:=⟨_,rfl⟩
  have k:(1:Int)<((a-lo:Nat):Int):=by omega
  obtain⟨hf,A⟩:∃hf:Nat,hf=(a-lo)/2:=⟨_,rfl⟩
  have w2:i64.wrap ((((a-lo:Nat):Int)).tdiv 2)=(hf:Int):=by
   rw[Zc (by omega)];exact(aa (by omega) (by omega)).trans (by omega)
  have s:i64.wrap ((lo:Int)+(hf:Int))=(m:Int):=(aa (by omega) (by omega)).trans (by omega)
  have l:0<m:=by omega
  have g:¬(m:Int)=0:=by omega
  have c:¬m=0:=by omega
  obtain⟨j,d⟩:∃j:Nat,j=n/m:=⟨_,rfl⟩
  have D:j<=n:=by rw[d];exact Nat.div_le_self n m
  have u:i64.wrap ((n:Int).tdiv (m:Int))=(j:Int):=by
   rw[Zc (by omega),<-Int.natCast_ediv,<-d];exact aa (by omega) (by omega)
  have v:i64.wrap (((a-lo:Nat):Int)/2)=(hf:Int):=(aa (by omega) (by omega)).trans (by omega)
  have x:i64.wrap ((n:Int)/(m:Int))=(j:Int):=by
   rw[<-Int.natCast_ediv,<-d];exact aa (by omega) (by omega)
  by_cases e:m<=j
  .have q:m*m<=n:=(yAW l).1 (d▸e)
   have b:(m:Int)<=(j:Int):=by omega
   with_reducible repeat' (first|refine Sp.h ?_|((first|refine Ss.h ?_|(refine Sb.h ?_ ?_ ?_<;>(try intro hgd)<;>try exact Xy))<;>simp -implicitDefEqProofs (maxSteps:=2000000) [hP,hN,g0,g3,g4,w1,w2,s,u,v,x,hc,k,g,c,e,b])|refine X2 ?_ ?_|(refine Xd ?_ ?_<;>intro hcd<;>try exact Xx))
   exact⟨f,m,rfl,a,rfl,by omega,by omega,by omega,by omega,by omega,by omega⟩
  .have q:n<m*m:=by
    rcases Nat.lt_or_ge n (m*m)with h|h
    .exact h
    .exact absurd (d▸(yAW l).2 h) e
   have b:¬(m:Int)<=(j:Int):=by omega
   with_reducible repeat' (first|refine Sp.h ?_|((first|refine Ss.h ?_|(refine Sb.h ?_ ?_ ?_<;>(try intro hgd)<;>try exact Xy))<;>simp -implicitDefEqProofs (maxSteps:=2000000) [hP,hN,g0,g3,g4,w1,w2,s,u,v,x,hc,k,g,c,e,b])|refine X2 ?_ ?_|(refine Xd ?_ ?_<;>intro hcd<;>try exact Xx))
   exact⟨f,lo,rfl,m,rfl,by omega,by omega,by omega,by omega,by omega,by omega⟩
 .have p:a=lo+1:=by omega
  subst p;have z:lo=cZ n:=Dt b4 b5 o.1 o.2
  have k:¬(1:Int)<((lo+1-lo:Nat):Int):=by omega
  exact Gy
  all_goals simp[z]
theorem Wj(n:Nat)(hn:n<4611686018427387904):aT 195 (Z n) (Z (tz n)):=by
 have e:=Wg n hn;have d:=sH (n:=n) (by omega);have c:=tY hn
 have hd:tz n=if cZ n*cZ n<n then cZ n+1 else cZ n:=rfl
 have w1:i64.wrap ((cZ n:Int)*(cZ n:Int))=((cZ n*cZ n:Nat):Int):=by
  rw[<-Int.natCast_mul];exact aa (by omega) (by omega)
 have w2:i64.wrap ((cZ n:Int)+1)=((cZ n+1:Nat):Int):=(aa (by omega) (by omega)).trans (by omega);rw[hd];generalize cZ n=r at *;by_cases f:0<n
 .have a:(0:Int)<(n:Int):=by omega
  by_cases hc:r*r<n
  .have b:((r*r:Nat):Int)<(n:Int):=by omega
   rw[YY hc];refine Dp func195 λC hP hN=>?_;exact Gy
  .have b:¬((r*r:Nat):Int)<(n:Int):=by omega
   rw[YR hc];refine Dp func195 λC hP hN=>?_;exact Gy
 .have a:¬(0:Int)<(n:Int):=by omega
  rw[YR (by omega)];refine Dp func195 λC hP hN=>?_;exact Gy
theorem Rh(v:Vc):aT 141 (ai v) (Z (eY v)):=by
 have d:=Cu v;rw[uw]at d
 cases c:aI v with
 |false=>
  rw[c]at d
  have e:eY v=0:=by simp[eY,c]
  rw[e];refine Dp func141 λC hP hN=>?_;exact Gy
 |true=>
  rw[c]at d
  have hn:ax 16384 v=true:=by simp only[aI,up]at c;exact c.1
  have g:=Ky hn
  have e:eY v=(tz (xE v):Int):=by simp[eY,c]
  have f:=Wj (xE v) (by omega);have h1:=yN (br.1 hn).1;have h2:=yN (br.1 hn).2.1;have h3:=yN (br.1 hn).2.2;have l:=bi (a:=v.1) (b:=v.1) 16384 16384 (by omega) (by omega) (by omega) (by omega);have m:=bi (a:=v.2.1) (b:=v.2.1) 16384 16384 (by omega) (by omega) (by omega) (by omega);have n:=bi (a:=v.2.2) (b:=v.2.2) 16384 16384 (by omega) (by omega) (by omega) (by omega);have i:=IV v.1;have j:=IV v.2.1;have k:=IV v.2.2;have w1:i64.wrap (v.1*v.1)=v.1*v.1:=aa;have w2:i64.wrap (v.2.1*v.2.1)=v.2.1*v.2.1:=aa;have o:i64.wrap (v.2.2*v.2.2)=v.2.2*v.2.2:=aa;have p:i64.wrap (v.1*v.1+v.2.1*v.2.1)=v.1*v.1+v.2.1*v.2.1:=aa;have q:i64.wrap (v.1*v.1+v.2.1*v.2.1+v.2.2*v.2.2)=(xE v:Int):=(aa (by omega) (by omega)).trans (by unfold xE;omega);rw[e];refine Dp func141 λC hP hN=>?_;exact Gy
theorem NQ{n0 n1 n2 x0 x1 x2 x3 x4 x5:Int}(e:aI (n0,n1,n2)=true)(f:bK ((x0,x1),(x2,x3),(x4,x5))=true):aH 291 (ai (n0,n1,n2)) (V6 x0 x1 x2 x3 x4 x5) (.tup [Z (fQ (n0,n1,n2) ((x0,x1),(x2,x3),(x4,x5))),Z (fS (n0,n1,n2) ((x0,x1),(x2,x3),(x4,x5)))]):=by
 have l:=Cu (n0,n1,n2);rw[uw,e]at l;have g:=Dy (x0:=x0) (x1:=x1) (x2:=x2) (x3:=x3) (x4:=x4) (x5:=x5);rw[f]at g
 have hn:ax 16384 (n0,n1,n2)=true:=by simp only[aI,up]at e;exact e.1
 have i:=br.1 hn;have j:=fF.1 f;have m0:=oL i.1 j.1;have m1:=oL i.2.1 j.2.1;have m2:=oL i.2.2 j.2.2;simp only[qO,qQ]at m0 m1 m2;have d:fQ (n0,n1,n2) ((x0,x1),(x2,x3),(x4,x5))=min (n0*x0) (n0*x1)+min (n1*x2) (n1*x3)+min (n2*x4) (n2*x5):=rfl;have c:fS (n0,n1,n2) ((x0,x1),(x2,x3),(x4,x5))=max (n0*x0) (n0*x1)+max (n1*x2) (n1*x3)+max (n2*x4) (n2*x5):=rfl;rw[d,c];have w:∀y:Int,-100000000000000<=y->y<=100000000000000->i64.wrap y=y:=λy a b=>aa (by omega) (by omega);have a0:=w (n0*x0) (by omega) (by omega);have a1:=w (n0*x1) (by omega) (by omega);have a2:=w (n1*x2) (by omega) (by omega);have a3:=w (n1*x3) (by omega) (by omega);have a4:=w (n2*x4) (by omega) (by omega);have a5:=w (n2*x5) (by omega) (by omega)
 have u:∀a b:Int,(if b<a then b else a)=min a b:=λa b=>by omega
 have s:∀a b:Int,(if a<b then b else a)=max a b:=λa b=>by omega
 have b0:=w (min (n0*x0) (n0*x1)) (by omega) (by omega);have b1:=w (min (n0*x0) (n0*x1)+min (n1*x2) (n1*x3)) (by omega) (by omega);have b2:=w (min (n0*x0) (n0*x1)+min (n1*x2) (n1*x3)+min (n2*x4) (n2*x5)) (by omega) (by omega);have d0:=w (max (n0*x0) (n0*x1)) (by omega) (by omega);have d1:=w (max (n0*x0) (n0*x1)+max (n1*x2) (n1*x3)) (by omega) (by omega);have d2:=w (max (n0*x0) (n0*x1)+max (n1*x2) (n1*x3)+max (n2*x4) (n2*x5)) (by omega) (by omega);refine Dp func291 λC hP hN=>?_;refine Gz ?_;refine WP.loopN [] 3 (λk st=>st.t 2=.ptr 2 0/\st.t 3=.ptr 3 0/\st.h 2=some (.box [.pv (Z n0),.pv (Z n1),.pv (Z n2)] true false)/\st.h 3=some (.box [.pv (Z x0),.pv (Z x1),.pv (Z x2),.pv (Z x3),.pv (Z x4),.pv (Z x5)] true false)/\st.t 8=.pv (Z k)/\st.t 6=.pv (Z (if k=0 then 0 else if k=1 then min (n0*x0) (n0*x1)else if k=2 then min (n0*x0) (n0*x1)+min (n1*x2) (n1*x3)else min (n0*x0) (n0*x1)+min (n1*x2) (n1*x3)+min (n2*x4) (n2*x5)))/\st.t 7=.pv (Z (if k=0 then 0 else if k=1 then max (n0*x0) (n0*x1)else if k=2 then max (n0*x0) (n0*x1)+max (n1*x2) (n1*x3)else max (n0*x0) (n0*x1)+max (n1*x2) (n1*x3)+max (n2*x4) (n2*x5)))) (by simp) ?_;rintro k st r ⟨g2,g3,p,q,o,m,n⟩;rcases dC r with rfl|rfl|rfl|rfl
 all_goals (simp at m n o)
 all_goals
  exact Gy
theorem Wk(n:Vc)(xs:List aq)(u:xs.length<=9223372036854775807):aH 269 (ai n) (aD xs) (.tup (if aI n&&au xs then[Z (fU n xs).1,Z (fU n xs).2,B true]else[Z 0,Z 0,B false])):=by
 have e:=Cu n;rw[uw]at e;have d:=xJ xs u
 cases k:aI n with
 |false=>
  rw[k]at e;cases hp:au xs<;>rw[hp]at d
  all_goals
   refine Dp func269 λC hP hN=>?_;exact Gy
 |true=>
 rw[k]at e
 cases hp:au xs with
 |false=>
  rw[hp]at d;refine Dp func269 λC hP hN=>?_;exact Gy
 |true=>
 rw[hp]at d;obtain⟨a,h8,_⟩:=bm hp;have hd:fU n xs=gv (fQ n) dO xs xs.length:=rfl;rw[hd];refine Dp func269 λC hP hN=>?_;refine Gz ?_;refine WP.loopN [] xs.length (λi st=>st.t 2=.ptr 2 0/\st.h 2=some (.box [.pv (Z n.1),.pv (Z n.2.1),.pv (Z n.2.2)] true false)/\st.t 1=.pv (aD xs)/\st.t 9=.pv (Z i)/\st.t 7=.pv (Z (gv (fQ n) dO xs i).1)/\st.t 8=.pv (Z (gv (fQ n) dO xs i).2)) (by simp[gv]) ?_;rintro i st hi ⟨g2,s,g1,A,y,z⟩;by_cases b:i<xs.length
 .have D:=ae b (by omega)
  have c:(i:Int)<(xs.length:Int):=by omega
  generalize l:xs[i]=v at *
  have p:xs[i]?=some v:=by rw[an b,l]
  have g:bK v=true:=L4.1 a v (An p);have x:aS prog 291 [.pv (ai n),.pv (bh v)] [] [] (.pv (.tup [Z (fQ n v),Z (fS n v)])):=NQ k g;have j:=xF (val:=fQ n) (bet:=dO) p;rw[j];by_cases o:i=0
  .subst o
   exact Gy
  .have r:((i:Int)==0)=false:=by simp;omega
   generalize hq:gv (fQ n) dO xs i=q at *;obtain⟨m,E⟩:=q;by_cases hc:fQ n v<m
   .have hb:dO (fQ n v) m=true:=by simp only[dO,Is];exact hc
    simp only[hb,or_true,Za]at j|-;exact Gy
   .have hb:dO (fQ n v) m=false:=by simp only[dO,Y4];exact hc
    simp only[hb,o,YU,or_self,Y5]at j|-;exact Gy
 .have c:¬(i:Int)<(xs.length:Int):=by omega
  have f:i=xs.length:=by omega
  subst f;exact Gy
theorem Wn(n:Vc)(xs:List aq)(u:xs.length<=9223372036854775807):aH 270 (ai n) (aD xs) (.tup (if aI n&&au xs then[Z (fW n xs).1,Z (fW n xs).2,B true]else[Z 0,Z 0,B false])):=by
 have e:=Cu n;rw[uw]at e;have d:=xJ xs u
 cases k:aI n with
 |false=>
  rw[k]at e;cases hp:au xs<;>rw[hp]at d
  all_goals
   refine Dp func270 λC hP hN=>?_;exact Gy
 |true=>
 rw[k]at e
 cases hp:au xs with
 |false=>
  rw[hp]at d;refine Dp func270 λC hP hN=>?_;exact Gy
 |true=>
 rw[hp]at d;obtain⟨a,h8,_⟩:=bm hp;have hd:fW n xs=gv (fS n) dP xs xs.length:=rfl;rw[hd];refine Dp func270 λC hP hN=>?_;refine Gz ?_;refine WP.loopN [] xs.length (λi st=>st.t 2=.ptr 2 0/\st.h 2=some (.box [.pv (Z n.1),.pv (Z n.2.1),.pv (Z n.2.2)] true false)/\st.t 1=.pv (aD xs)/\st.t 9=.pv (Z i)/\st.t 7=.pv (Z (gv (fS n) dP xs i).1)/\st.t 8=.pv (Z (gv (fS n) dP xs i).2)) (by simp[gv]) ?_;rintro i st hi ⟨g2,s,g1,A,y,z⟩;by_cases b:i<xs.length
 .have D:=ae b (by omega)
  have c:(i:Int)<(xs.length:Int):=by omega
  generalize l:xs[i]=v at *
  have p:xs[i]?=some v:=by rw[an b,l]
  have g:bK v=true:=L4.1 a v (An p);have x:aS prog 291 [.pv (ai n),.pv (bh v)] [] [] (.pv (.tup [Z (fQ n v),Z (fS n v)])):=NQ k g;have j:=xF (val:=fS n) (bet:=dP) p;rw[j];by_cases o:i=0
  .subst o
   exact Gy
  .have r:((i:Int)==0)=false:=by simp;omega
   generalize hq:gv (fS n) dP xs i=q at *;obtain⟨m,E⟩:=q;by_cases hc:m<fS n v
   .have hb:dP (fS n v) m=true:=by simp only[dP,Is];exact hc
    simp only[hb,or_true,Za]at j|-;exact Gy
   .have hb:dP (fS n v) m=false:=by simp only[dP,Y4];exact hc
    simp only[hb,o,YU,or_self,Y5]at j|-;exact Gy
 .have c:¬(i:Int)<(xs.length:Int):=by omega
  have f:i=xs.length:=by omega
  subst f;exact Gy
theorem CI(r:Int):aT 190 (Z r) (B (aP r 0 1048576)):=by
 refine Dp func190 λC hP hN=>?_
 with_reducible repeat' (first|refine Sp.h ?_|((first|refine Ss.h ?_|(refine Sb.h ?_ ?_ ?_<;>(try intro hgd)<;>try exact Xy))<;>simp -implicitDefEqProofs (maxSteps:=2000000) [hP,hN])|refine X2 ?_ ?_|(refine Xd ?_ ?_<;>intro hcd<;>try exact Xx))
 all_goals (first|(simp_all[aP];done)|((try simp_all[aP])<;>(try omega)<;>grind))
theorem Wo(n:Vc)(a:List aq)(c:Int)(b:List aq)(d:Int)(s:a.length<=9223372036854775807)(m:b.length<=9223372036854775807):xW 230 (ai n) (aD a) (Z c) (aD b) (Z d) (.tup (if kz n a c b d then[Z (lM n a c b d),B true]else[Z 0,B false])):=by
 have c1:=Wk n a s;have l:=Wn n b m;have o:=CI c;have p:=CI d;have r:=Rh n
 have k:kz n a c b d=(au a&&aP c 0 1048576&&(au b&&aP d 0 1048576)&&aI n):=by
  simp only[kz,pX,aP,Bool.and_assoc]
 have u:=vO n;have q:lM n a c b d=(fU n a).1-(fW n b).1-eY n*(c+d):=rfl;cases j:aI n<;>cases e:au a<;>cases f:au b<;>cases g:aP c 0 1048576<;>cases i:aP d 0 1048576
 case true.true.true.true.true=>
  rw[j,e,f,g,i]at k;rw[j,e]at c1;rw[j,f]at l;rw[g]at o;rw[i]at p
  have hn:ax 16384 n=true:=by simp only[aI,up]at j;exact j.1
  have v:=Du (n:=n) hn (bm e).1;have A:=Dv (n:=n) hn (bm f).1;simp only[aP,up,Is]at g i;have D:=bi (a:=eY n) (b:=c+d) 32768 2097152 (by omega) (by omega) (by omega) (by omega);have w1:i64.wrap (c+d)=c+d:=aa;have w2:i64.wrap (eY n*(c+d))=eY n*(c+d):=aa;have E:i64.wrap ((fU n a).1-(fW n b).1)=(fU n a).1-(fW n b).1:=aa;have F:i64.wrap ((fU n a).1-(fW n b).1-eY n*(c+d))=(fU n a).1-(fW n b).1-eY n*(c+d):=aa;rw[k,q];simp only[Z9,Za]at c1 l|-;generalize fU n a=x at *;generalize fW n b=y at *;generalize eY n=z at *;refine Dp func230 λC hP hN=>?_;exact Gy
 all_goals (
  rw[j,e,f,g,i]at k;rw[j,e]at c1;rw[j,f]at l;rw[g]at o;rw[i]at p;rw[k];simp only[Z9,yAc,Zt,Zf,yAp,Za,YU,Y5]at c1 l|-;clear k q u r;generalize fU n a=x at *
  generalize fW n b=y at *)
 all_goals
  refine Dp func230 λC hP hN=>?_;exact Gy
theorem Wp(n:Vc)(a:List aq)(c:Int)(b:List aq)(d:Int)(g:a.length<=9223372036854775807)(e:b.length<=9223372036854775807):xW 194 (ai n) (aD a) (Z c) (aD b) (Z d) (B (iZ n a c b d)):=by
 have f:=Wo n a c b d g e;have i:iZ n a c b d=(kz n a c b d&&decide (0<lM n a c b d)):=rfl;rw[i];generalize lM n a c b d=m at *;cases hb:kz n a c b d<;>rw[hb]at f<;>simp only[YU,Y5,Za,Zt,Zf]at f|-
 all_goals
  refine Dp func194 λC hP hN=>?_;exact Gy
theorem Wq(l:List Vc)(a:List aq)(d:Int)(b:List aq)(e:Int)(s:l.length<=9223372036854775807)(F:a.length<=9223372036854775807)(r:b.length<=9223372036854775807):xW 133 (aB l) (aD a) (Z d) (aD b) (Z e) (.tup (match l.findIdx? (λn=>iZ n a d b e)with|some i=>[Z i,B true]|none=>[Z 0,B false])):=by
 refine Dp func133 λC hP hN=>?_;refine Gz ?_;refine WP.loopN [] l.length (λi st=>st.t 0=.pv (aB l)/\st.t 1=.pv (aD a)/\st.t 2=.pv (Z d)/\st.t 3=.pv (aD b)/\st.t 4=.pv (Z e)/\st.t 12=.pv (Z i)/\∀k x,k<i->l[k]?=some x->iZ x a d b e=false) (by simp) ?_;rintro i st hi ⟨g0,g1,g2,g3,g4,D,hq⟩;by_cases f:i<l.length
 .have G:=ae f s
  have g:(i:Int)<(l.length:Int):=by omega
  generalize o:l[i]=v at *
  have y:l[i]?=some v:=by rw[an f,o]
  have A:=Wp v a d b e F r;have u:=I0 (p:=λn=>iZ n a d b e) y hq
  cases hc:iZ v a d b e with
  |true=>
   rw[hc]at A
   have hf:l.findIdx? (λn=>iZ n a d b e)=some i:=by
    rw[yAO];refine⟨f,by rw[o];exact hc,λj E=>?_⟩;have:=hq j l[j] E (an (by omega));simp[this]
   rw[hf];exact Gy
  |false=>
   rw[hc]at A;have m:=u hc;refine Gz ?_
   all_goals exact λk a b c q z=>m k (a,b,c) (by omega) z
 .have g:¬(i:Int)<(l.length:Int):=by omega
  have hf:l.findIdx? (λn=>iZ n a d b e)=none:=by
   rw[List.findIdx?_eq_none_iff];intro x y;obtain⟨k,q⟩:=Zq y;exact hq k x (by have:=(th.1 q).1;omega) q
  rw[hf];exact Gy
theorem Wr:BO 193 (aB kg):=by
 refine Dp func193 λC hP hN=>?_;exact Gy
theorem Mj(v w:Vc)(a:er 1152921504606846976 v)(b:er 1152921504606846976 w):aH 135 (ai v) (ai w) (ai (aL v w)):=by
 have w1:i64.wrap (v.1-w.1)=v.1-w.1:=aa (by have:=a.1;have:=b.1;omega) (by have:=a.1;have:=b.1;omega);have w2:i64.wrap (v.2.1-w.2.1)=v.2.1-w.2.1:=aa (by have:=a.2.1;have:=b.2.1;omega) (by have:=a.2.1;have:=b.2.1;omega);have d:i64.wrap (v.2.2-w.2.2)=v.2.2-w.2.2:=aa (by have:=a.2.2;have:=b.2.2;omega) (by have:=a.2.2;have:=b.2.2;omega);have c:aL v w=(v.1-w.1,v.2.1-w.2.1,v.2.2-w.2.2):=rfl;rw[c];refine Dp func135 λC hP hN=>?_;exact Gy
theorem CE(v w:Vc)(m n:Nat)(c:er m v)(d:er n w)(a:3*(m*n)<=9223372036854775807):aH 140 (ai v) (ai w) (Z (bf v w)):=by
 have h:=ld c d;have w1:i64.wrap (v.1*w.1)=v.1*w.1:=aa;have w2:i64.wrap (v.2.1*w.2.1)=v.2.1*w.2.1:=aa;have e:i64.wrap (v.2.2*w.2.2)=v.2.2*w.2.2:=aa;have f:i64.wrap (v.1*w.1+v.2.1*w.2.1)=v.1*w.1+v.2.1*w.2.1:=aa;have g:i64.wrap (v.1*w.1+v.2.1*w.2.1+v.2.2*w.2.2)=v.1*w.1+v.2.1*w.2.1+v.2.2*w.2.2:=aa;have b:bf v w=v.1*w.1+v.2.1*w.2.1+v.2.2*w.2.2:=rfl;rw[b];refine Dp func140 λC hP hN=>?_;exact Gy
theorem QT(l:List Vc)(H:l.length<=9223372036854775807):aT 134 (aB l) (B (eP l)):=by
 by_cases h8:l.length<=8
 .skip
  refine Dp func134 λC hP hN=>?_;refine Gz ?_;refine WP.loopN [] l.length (λi st=>st.t 0=.pv (aB l)/\st.t 3=.pv (Z i)/\∀k x,k<i->l[k]?=some x->ax 268435456 x=true) (by simp) ?_;rintro i st hi ⟨g0,g3,hq⟩;by_cases f:i<l.length
  .have F:i64.wrap ((i:Int)+1)=(i:Int)+1:=aa
   have g:(i:Int)<(l.length:Int):=by omega
   have s:(i:Int)<=8:=by omega
   have o:i<=8:=by omega
   generalize j:l[i]=v at *
   have A:l[i]?=some v:=by rw[an f,j]
   have m:=wZ v.1 v.2.1 v.2.2 268435456 (by decide) (by decide);have y:ax 268435456 v=eO v.1 v.2.1 v.2.2 268435456:=rfl;rw[<-y]at m;have z:=mZ (p:=ax 268435456) A hq
   cases hc:ax 268435456 v with
   |true=>
    rw[hc]at m;have q:=z hc;refine Gz ?_
    all_goals exact λk a b c G D=>q k (a,b,c) (by omega) D
   |false=>
    rw[hc]at m
    have d:l.all (ax 268435456)=false:=by
     rw[yAm];exact⟨v,An A,by simp[hc]⟩
    have e:eP l=false:=by simp[eP,d]
    rw[e];exact Gy
  .have d:l.all (ax 268435456)=true:=pJ hq f
   have g:¬(i:Int)<(l.length:Int):=by omega
   have e:eP l=decide (1<=l.length):=by
    rw[eP,d,Zs h8,yAp,yAp]
   rw[e];by_cases h1:1<=l.length
   .have n:(1:Int)<=(l.length:Int):=by omega
    have r:(l.length:Int)<=8:=by omega
    exact Gy
   .have n:¬(1:Int)<=(l.length:Int):=by omega
    exact Gy
 .have e:eP l=false:=by
   cases h:eP l with
   |false=>rfl
   |true=>simp only[eP,up,Is]at h;omega
  rw[e];refine Dp func134 λC hP hN=>?_;refine Gz ?_;refine WP.loopN [] 9 (λi st=>st.t 0=.pv (aB l)/\st.t 3=.pv (Z i)) (by simp) ?_;rintro i st hi ⟨g0,g3⟩;by_cases s:i<=8
  .have f:i<l.length:=by omega
   have F:i64.wrap ((i:Int)+1)=(i:Int)+1:=aa
   have g:(i:Int)<(l.length:Int):=by omega
   have o:(i:Int)<=8:=by omega
   generalize j:l[i]=v at *
   have A:l[i]?=some v:=by rw[an f,j]
   have m:=wZ v.1 v.2.1 v.2.2 268435456 (by decide) (by decide);cases hc:eO v.1 v.2.1 v.2.2 268435456<;>rw[hc]at m
   .skip
    exact Gy
   .skip
    refine Gz ?_
    all_goals omega
  .have u:i=9:=by omega
   subst u
   have r:¬(l.length:Int)<=8:=by omega
   have n:(1:Int)<=(l.length:Int):=by omega
   have h1:1<=l.length:=by omega
   by_cases h9:9<l.length
   .have E:(9:Int)<(l.length:Int):=by omega
    exact Gy
   .skip
    exact Gy
theorem VV(v:Vc)(rho:Int)(d:er 35184372088832 v)(y:0<=rho/\rho<=2097152):aH 137 (ai v) (Z rho) (B (po v rho)):=by
 have m:=rE d.1;have o:=rE d.2.1;have p:=rE d.2.2;have u:=bi (a:=rho) (b:=rho) 2097152 2097152 (by omega) (by omega) (by omega) (by omega);have w0:i64.wrap (rho*rho)=rho*rho:=aa;have f:∀x:Int,-35184372088832<=x->x<=35184372088832->i64.wrap (-x)=-x/\i64.wrap (0-x)=-x:=λx a b=>⟨aa (by omega) (by omega),(aa (n:=0-x) (by omega) (by omega)).trans (by omega)⟩;have m0:=f v.1 d.1.1 d.1.2;have m1:=f v.2.1 d.2.1.1 d.2.1.2;have m2:=f v.2.2 d.2.2.1 d.2.2.2
 have e:∀x:Int,-35184372088832<=x->x<=35184372088832->aS prog 84 [.pv (Z (max x (-x))),.pv (Z 65536)] [] [] (.pv (Z (da (max x (-x)) 65536))):=λx a b=>by
  have:=FO (max x (-x)) 65536 (by decide);rw[sJ (by decide) (by omega) (by omega)]at this;exact this
 have q:=e v.1 d.1.1 d.1.2;have c1:=e v.2.1 d.2.1.1 d.2.1.2;have r:=e v.2.2 d.2.2.1 d.2.2.2
 have s:∀a b:Int,(if a<b then b else a)=max a b:=λa b=>by omega
 have hd:po v rho=decide (mo v.1+mo v.2.1+mo v.2.2<=rho*rho):=rfl;have g:mo v.1=da (max v.1 (-v.1)) 65536*da (max v.1 (-v.1)) 65536:=rfl;have s1:mo v.2.1=da (max v.2.1 (-v.2.1)) 65536*da (max v.2.1 (-v.2.1)) 65536:=rfl;have s2:mo v.2.2=da (max v.2.2 (-v.2.2)) 65536*da (max v.2.2 (-v.2.2)) 65536:=rfl;rw[hd];generalize da (max v.1 (-v.1)) 65536=c at *;generalize da (max v.2.1 (-v.2.1)) 65536=k1 at *;generalize da (max v.2.2 (-v.2.2)) 65536=k2 at *;rw[g,s1,s2];rw[g]at m;rw[s1]at o;rw[s2]at p;have w1:i64.wrap (c*c)=c*c:=aa;have w2:i64.wrap (k1*k1)=k1*k1:=aa;have z:i64.wrap (k2*k2)=k2*k2:=aa;have A:i64.wrap (c*c+k1*k1)=c*c+k1*k1:=aa;have D:i64.wrap (c*c+k1*k1+k2*k2)=c*c+k1*k1+k2*k2:=aa;refine Dp func137 λC hP hN=>?_;refine Gz ?_;refine WP.loopN [] 3 (λk st=>st.t 2=.ptr 2 0/\st.h 2=some (.box [.pv (Z v.1),.pv (Z v.2.1),.pv (Z v.2.2)] true false)/\st.t 1=.pv (Z rho)/\st.t 6=.pv (Z k)/\st.t 5=.pv (Z (if k=0 then 0 else if k=1 then c*c else if k=2 then c*c+k1*k1 else c*c+k1*k1+k2*k2))) (by simp) ?_;rintro k st l ⟨g2,j,g1,i,g5⟩;rcases dC l with rfl|rfl|rfl|rfl
 all_goals (simp at g5 i)
 all_goals
  exact Gy
theorem QU(l:List Vc)(ws:List Int)(h8:l.length<=8)(G:ws.length=l.length)(y:l.all (ax 268435456)=true)(q:WgOk ws):aH 136 (aB l) (zs ws) (ai (bO l ws l.length)):=by
 refine Dp func136 λC hP hN=>?_;refine Gz ?_;refine WP.loopN [] l.length (λi st=>st.t 0=.pv (aB l)/\st.t 1=.pv (zs ws)/\st.t 4=.ptr 4 0/\st.h 4=some (.box [.pv (Z 0),.pv (Z 0),.pv (Z 0)] true false)/\st.t 5=.ptr 5 0/\st.h 5=some (.box [.pv (Z (bO l ws i).1),.pv (Z (bO l ws i).2.1),.pv (Z (bO l ws i).2.2)] true false)/\st.t 6=.pv (Z i)) (by simp[bO]) ?_;rintro i st hi ⟨g0,g1,g4,f,g5,c,o⟩;by_cases g:i<l.length
 .have H:=ae g (by omega)
  have d:(i:Int)<(l.length:Int):=by omega
  have e:i<ws.length:=by omega
  generalize m:l[i]=p at *
  have u:l[i]?=some p:=by rw[an g,m]
  generalize n:ws[i]=k at *
  have r:ws[i]?=some k:=by rw[an e,n]
  have J:=jv y q i (by omega);have K:=jv y q (i+1) (by omega);have E:=q.pos k (An r)
  have F:k<=65536:=by
   have a1:=mY r;have a2:=sg q.pos i;have a3:=gR q.pos (show i+1<=ws.length by omega);have a4:=q.tot;omega
  have hp:=dD (L4.1 y p (An u))
  have hS:bO l ws (i+1)=((bO l ws i).1+k*p.1,(bO l ws i).2.1+k*p.2.1,(bO l ws i).2.2+k*p.2.2):=by simp only[bO,u,r]
  have m1:=bi (a:=k) (b:=p.1) 65536 268435456 (by omega) (by omega) hp.1.1 hp.1.2;have m2:=bi (a:=k) (b:=p.2.1) 65536 268435456 (by omega) (by omega) hp.2.1.1 hp.2.1.2;have I:=bi (a:=k) (b:=p.2.2) 65536 268435456 (by omega) (by omega) hp.2.2.1 hp.2.2.2;generalize bO l ws i=S at *;generalize bO l ws (i+1)=O at *;subst hS;obtain⟨z,A,B⟩:=K;simp only at z A B;have L:i64.wrap (k*p.1)=k*p.1:=aa;have M:i64.wrap (k*p.2.1)=k*p.2.1:=aa;have N:i64.wrap (k*p.2.2)=k*p.2.2:=aa;have v1:i64.wrap (S.1+k*p.1)=S.1+k*p.1:=aa;have v2:i64.wrap (S.2.1+k*p.2.1)=S.2.1+k*p.2.1:=aa;have v3:i64.wrap (S.2.2+k*p.2.2)=S.2.2+k*p.2.2:=aa;clear J z A B m1 m2 I hp;have s:[AV.pv (Z S.1),AV.pv (Z S.2.1),AV.pv (Z S.2.2)]=kD S p k 0:=rfl;rw[s]at c;refine Gz ?_;refine WP.loopN [] 3 (λj st=>st.t 0=.pv (aB l)/\st.t 1=.pv (zs ws)/\st.t 4=.ptr 4 0/\st.h 4=some (.box [.pv (Z 0),.pv (Z 0),.pv (Z 0)] true false)/\st.t 5=.ptr 5 0/\st.h 5=some (.box (kD S p k j) true false)/\st.t 6=.pv (Z i)/\st.t 7=.pv (Z j)) (by simp[g0,g1,g4,f,g5,o,c,kD]) ?_;clear g0 g1 g4 f g5 o c;rintro j st D ⟨g0,g1,g4,f,g5,c,o,v⟩;rcases dC D with rfl|rfl|rfl|rfl
  all_goals (simp[kD]at c v)
  .skip
   with_reducible repeat' (first|refine Sp.h ?_|((first|refine Wd ?_|refine Ss.h ?_)<;>simp -implicitDefEqProofs [hP,hN,g0,g1,g4,f,g5,c,o,v,u,m,r,n,g,d,e,L,v1,kD]<;>try refine Ya ?_))
  .skip
   with_reducible repeat' (first|refine Sp.h ?_|((first|refine Wd ?_|refine Ss.h ?_)<;>simp -implicitDefEqProofs [hP,hN,g0,g1,g4,f,g5,c,o,v,u,m,r,n,g,d,e,M,v2,kD]<;>try refine Ya ?_))
  .skip
   with_reducible repeat' (first|refine Sp.h ?_|((first|refine Wd ?_|refine Ss.h ?_)<;>simp -implicitDefEqProofs [hP,hN,g0,g1,g4,f,g5,c,o,v,u,m,r,n,g,d,e,N,v3,kD]<;>try refine Ya ?_))
  .skip
   exact Gy
 .have x:i=l.length:=by omega
  have d:¬(i:Int)<(l.length:Int):=by omega
  subst x;exact Gy
theorem Dw(l:List Int)(i:Nat)(y:Int):(List.map Z l).set i (PV.val (Value.int i64 y))=List.map Z (l.set i y):=by simp
theorem QV(w:List Int)(t:Int)(q:Nat)(h8:w.length<=8)(c:WgOk w)(hq:q<w.length)(A:0<=t)(n:t<=256):gz 142 (zs w) (Z t) (Z q) (zs (jN w q t)):=by
 have J:jN w q t=(dz w t w.length).set q (((dz w t w.length)[q]?).getD 0+dA w t w.length):=rfl
 have d:∀k∈w,0<=k/\k<=65536:=λk l=>by
  obtain⟨i,hi⟩:=Zq l;have a1:=mY hi;have a2:=sg c.pos i;have a3:=gR c.pos (show i+1<=w.length by have:=(th.1 hi).1;omega);have a4:=c.tot;exact⟨c.pos k l,by omega⟩
 have a:=pB c.pos A n
 have f1:w.length*8<=140737488355328:=by omega
 have f2:w.length<=9223372036854775807:=by omega
 refine Dp func142 λC hP hN=>?_;refine GT (gA f1 f2) ?_;refine WP.loopN [] w.length (λi st=>st.t 1=.pv (Z t)/\st.t 2=.pv (Z q)/\st.t 7=.arr 12 w.length/\st.h 12=some (.row 2 1 ((dz w t i).map Z) 0)/\st.t 8=.pv (Z (dA w t i))/\st.t 9=.pv (Z i)) (by simp[vx,dA]) ?_;rintro i st hi ⟨g1,g2,F,hb,G,H⟩;have j:=nk w t i;have M:=a i
 have N:aN w i<=65536:=by
  have:=gR c.pos (show i<=w.length by omega);have:=c.tot;omega
 by_cases m:i<w.length
 .have B:=ae m (by omega)
  have b:(i:Int)<(w.length:Int):=by omega
  generalize D:w[i]=k at *
  have o:w[i]?=some k:=by rw[an m,D]
  have l:=d k (An o);have hp:=pA l.1 A n
  have g:(dz w t i)[i]?=some k:=by rw[jg,o];simp
  have p:=vy (t:=t) o
  have x:dA w t (i+1)=dA w t i+k*t/256:=by simp[dA,o]
  have v:=a (i+1)
  have I:aN w (i+1)<=65536:=by
   have:=gR c.pos (show i+1<=w.length by omega);have:=c.tot;omega
  rw[p];rw[x]at v|-;have y:(List.map Z (dz w t i)).set i (PV.val (Value.int i64 (k-k*t/256)))=List.map Z ((dz w t i).set i (k-k*t/256)):=Dw _ _ _;generalize dz w t i=K at *
  have f:∀h,K[i]'h=k:=λh=>by rw[an h]at g;exact ZB g
  have w1:i64.wrap (k*t)=k*t:=aa;have w2:(k*t).tdiv 256=k*t/256:=Zc (by omega);have P:i64.wrap (k*t/256)=k*t/256:=aa;have Q:i64.wrap (k-k*t/256)=k-k*t/256:=aa;have E:i64.wrap (dA w t i+k*t/256)=dA w t i+k*t/256:=aa;generalize dA w t i=L at *
  with_reducible repeat' (first|refine Sp.h ?_|((first|refine Ss.h ?_)<;>simp -implicitDefEqProofs [hP,hN,g1,g2,F,hb,G,H,m,b,g,f,j,w1,w2,P,Q,E,B,y,-List.map_set]))
 .have r:i=w.length:=by omega
  have b:¬(i:Int)<(w.length:Int):=by omega
  subst r
  have z:(q:Int)<(w.length:Int):=by omega
  obtain⟨u,e⟩:∃u,(dz w t w.length)[q]?=some u:=⟨_,an (by rw[j];exact hq)⟩
  have O:0<=u/\u<=65536:=by
   rw[jg]at e;obtain⟨k,l⟩:∃k,w[q]?=some k:=⟨_,an hq⟩;rw[l]at e;simp only[ZD,YV]at e;have s:=d k (An l);have hp:=pA s.1 A n;split at e<;>omega
  rw[J,e];have y:(List.map Z (dz w t w.length)).set q (PV.val (Value.int i64 (u+dA w t w.length)))=List.map Z ((dz w t w.length).set q (u+dA w t w.length)):=Dw _ _ _;have E:i64.wrap (u+dA w t w.length)=u+dA w t w.length:=aa;generalize dz w t w.length=K at *
  have f:∀h,K[q]'h=u:=λh=>by rw[an h]at e;exact ZB e
  generalize dA w t w.length=L at *
  with_reducible repeat' (first|refine Sp.h ?_|((first|refine Ss.h ?_)<;>simp -implicitDefEqProofs [hP,hN,g1,g2,F,hb,G,H,b,hq,z,e,f,j,E,y,-List.map_set]))
theorem Sw(x:Int)(a:Nat):(x.tdiv (a:Int)).tdiv 2=x.tdiv ((a*2:Nat):Int):=by
 have h:∀n:Nat,((n:Int).tdiv (a:Int)).tdiv 2=(n:Int).tdiv ((a*2:Nat):Int):=λn=>by
  have e:∀p q:Nat,(p:Int).tdiv (q:Int)=((p/q:Nat):Int):=λp q=>by rw[Zc (by omega),Int.natCast_ediv]
  rw[e n a,show(2:Int)=((2:Nat):Int) from rfl,e,e,Nat.div_div_eq_div_mul]
 rcases yAT 0 x with b|b
 .have:=h x.toNat
  rw[Int.toNat_of_nonneg b]at this;exact this
 .have:=h (-x).toNat
  rw[Int.toNat_of_nonneg (by omega)]at this;rw[Int.neg_tdiv,Int.neg_tdiv,Int.neg_tdiv]at this;omega
def jk(i:Nat)(v:Vc):Vc:=(v.1.tdiv ((2^i:Nat):Int),v.2.1.tdiv ((2^i:Nat):Int),v.2.2.tdiv ((2^i:Nat):Int))
theorem Mk(v:Vc):jk 0 v=v:=by simp[jk]
theorem Ml(i:Nat)(v:Vc):lL (jk i v)=jk (i+1) v:=by
 simp only[lL,jk,Sw,yA5]
theorem Br{v:Vc}:∀(i:Nat),i<=64->(∀j,j<i->ax 16384 (jk j v)=false)->kn 64 v=kn (64-i) (jk i v)
 |0,_,_=>by rw[Mk]
 |i+1,hi,h=>by
  rw[Br i (by omega) (λj a=>h j (by omega)),show 64-i=(64-(i+1))+1 by omega,kn,YR (by rw[h i (by omega)];simp),Ml]
theorem GP{v:Vc}(h:ax 16384 v=true):kn n v=v:=by
 cases n with
 |zero=>rfl
 |succ n=>rw[kn,YY h]
theorem KB{v:Vc}(hi:i<=64)(h:∀j,j<i->ax 16384 (jk j v)=false)(hn:ax 16384 (jk i v)=true):aZ v=jk i v:=by
 unfold aZ;rw[Br i hi h,GP hn]
theorem OI{v:Vc}(h:ax 16384 v=false):nz (lL v)=true:=by
 have hn:¬(ax 16384 v=true):=by rw[h];simp
 rw[br,aU,aU,aU]at hn
 cases d:nz (lL v)with
 |true=>rfl
 |false=>
  exfalso;simp only[nz,lL,Bool.not_eq_false',up,ZH]at d;obtain⟨⟨e,f⟩,g⟩:=d
  have t:∀x:Int,x.tdiv 2=0->-2<x/\x<2:=λx i=>by
   have:=yAY x 2;have:=yAM x (show(0:Int)<2 by decide);have:=yAu x (show(0:Int)<2 by decide);omega
  have a:=t _ e;have b:=t _ f;have c:=t _ g;omega
theorem FP:∀(n:Nat)(v:Vc),nz v=true->nz (kn n v)=true
 |0,v,h=>h
 |n+1,v,h=>by
  rw[kn];split
  .exact h
  .rename_i hn
   exact FP n _ (OI (by simpa using hn))
theorem OJ{v:Vc}(h:er 1099511627776 v):ax 16384 (jk 26 v)=true:=by
 have t:∀x:Int,-1099511627776<=x->x<=1099511627776->-16384<=x.tdiv ((2^26:Nat):Int)/\x.tdiv ((2^26:Nat):Int)<=16384:=λx a b=>by
  have e:=yAY x ((2^26:Nat):Int);have d:=yAM x (show(0:Int)<((2^26:Nat):Int) by decide);have f:=yAu x (show(0:Int)<((2^26:Nat):Int) by decide)
  have g:((2^26:Nat):Int)=67108864:=by decide
  rw[g]at e d f|-;omega
 have a:=t _ h.1.1 h.1.2;have b:=t _ h.2.1.1 h.2.1.2;have c:=t _ h.2.2.1 h.2.2.2;rw[br,aU,aU,aU];simp only[jk];omega
@[simp] theorem WW(x y:Operand):
 aV prog ⟨dst,.binOp .eql 60 x y 60,ty,pos,aft,g⟩ ρ=Jc (ρ x) (ρ y) (lD prog ⟨dst,.binOp .eql 60 x y 60,ty,pos,aft,g⟩ ρ):=by
 unfold Jc;split
 .rename_i a b e c d f i j
  exact ve rfl (rn i) (rn j) (by kernel_rfl) (NR a b e c d f)
 .rfl
@[simp] theorem RK(a b e c d f:Int)(fb:Option bP):Jc (.pv (.val (.agg #[.int .i64 a,.int .i64 b,.int .i64 e]))) (.pv (.val (.agg #[.int .i64 c,.int .i64 d,.int .i64 f]))) fb=some (.pv (.val (.bool (a==c&&b==d&&e==f))),[]):=rfl
theorem QW(v:Vc)(h:er 1099511627776 v):aT 138 (ai v) (.tup [ai (aZ v),B (nz (aZ v))]):=by
 cases y:nz v with
 |false=>
  have m:(v.1==0&&v.2.1==0&&v.2.2==0)=true:=by simpa[nz]using y
  have F:v=(0,0,0):=by
   simp only[up,ZH]at m;obtain⟨⟨a,b⟩,c⟩:=m;exact Prod.ext a (Prod.ext b c)
  subst F
  have hn:aZ (0,0,0)=(0,0,0):=by decide +kernel
  rw[hn,y];refine Dp func138 λC hP hN=>?_;exact Gy
 |true=>
  have m:(v.1==0&&v.2.1==0&&v.2.2==0)=false:=by
   have:=y;simp only[nz,Zv]at this;exact this
  have D:nz (aZ v)=true:=FP 64 v y;rw[D];have M:∀i,i<=26->(2^i:Nat)<=67108864:=λi hi=>Nat.pow_le_pow_right (by decide) hi;have L:∀i,0<(2^i:Nat):=λi=>Nat.pow_pos (by decide);refine Dp func138 λC hP hN=>?_;refine Gz ?_;refine WP.loopN [5] 26 (λi st=>st.t 1=.ptr 1 0/\st.h 1=some (.box [.pv (Z v.1),.pv (Z v.2.1),.pv (Z v.2.2)] true false)/\st.t 2=.ptr 2 0/\st.h 2=some (.box [.pv (Z 0),.pv (Z 0),.pv (Z 0)] true false)/\st.t 4=.pv (Z ((2^i:Nat):Int))/\st.h 5=none/\∀j,j<i->ax 16384 (jk j v)=false) (by simp) ?_;rintro i st hi ⟨g1,p,g2,q,g4,r,hq⟩;have ha:=M i hi;have hb:=L i
  have s:¬((2^i:Nat):Int)=0:=by omega
  have d:¬(2^i:Nat)=0:=by omega
  have n:=wZ (jk i v).1 (jk i v).2.1 (jk i v).2.2 16384 (by decide) (by decide);have A:ax 16384 (jk i v)=eO (jk i v).1 (jk i v).2.1 (jk i v).2.2 16384:=rfl;rw[<-A]at n;have g:(jk i v).1=v.1.tdiv ((2^i:Nat):Int):=rfl;have k:(jk i v).2.1=v.2.1.tdiv ((2^i:Nat):Int):=rfl;have l:(jk i v).2.2=v.2.2.tdiv ((2^i:Nat):Int):=rfl
  have G:∀x:Int,-1099511627776<=x->x<=1099511627776->i64.wrap (x.tdiv ((2^i:Nat):Int))=x.tdiv ((2^i:Nat):Int):=λx a b=>by
   have e:=Int.natAbs_tdiv_le_natAbs x ((2^i:Nat):Int);exact aa (by omega) (by omega)
  have t1:=G _ h.1.1 h.1.2;have t2:=G _ h.2.1.1 h.2.1.2;have t3:=G _ h.2.2.1 h.2.2.2;rw[<-g]at t1;rw[<-k]at t2;rw[<-l]at t3;have K:(2^(i+1):Nat)=2^i*2:=yA5 2 i;have O:i64.wrap (((2^i:Nat):Int)*2)=((2^(i+1):Nat):Int):=(aa (by omega) (by omega)).trans (by omega);have z:=λhn=>KB (v:=v) (i:=i) (by omega) hq hn
  have o:ax 16384 (jk i v)=false->i<26:=λhf=>by
   by_cases f:i<26
   .exact f
   .have:i=26:=by omega
    subst this;rw[OJ h]at hf;cases hf
  have E:ax 16384 (jk i v)=false->∀j,j<i+1->ax 16384 (jk j v)=false:=λhf j Q=>by
   by_cases e:j=i
   .subst e;exact hf
   .exact hq j (by omega)
  generalize P:jk i v=H at *;generalize I:(2^(i+1):Nat)=N at *;generalize(2^i:Nat)=R at *
  cases hc:ax 16384 H with
  |true=>
   rw[hc]at n;have J:=z hc;rw[J]
   with_reducible repeat' (first|refine Sp.h ?_|((first|refine Wd ?_|refine Ss.h ?_|refine Sc.h (n) ?_)<;>simp -implicitDefEqProofs [hP,hN,g1,p,g2,q,g4,r,s,d,<-g,<-k,<-l,t1,t2,t3]<;>try refine Ya ?_))
  |false=>
   rw[hc]at n;have f:=o hc;have u:=E hc
   with_reducible repeat' (first|refine Sp.h ?_|((first|refine Wd ?_|refine Ss.h ?_|refine Sc.h (n) ?_|(refine Sb.h ?_ ?_ ?_<;>(try intro hgd)<;>try exact Xy))<;>simp -implicitDefEqProofs [hP,hN,g1,p,g2,q,g4,r,s,d,<-g,<-k,<-l,t1,t2,t3,O]<;>try refine Ya ?_)|refine X2 ?_ ?_|(refine Xd ?_ ?_<;>intro hcd<;>try exact Xx))
   all_goals exact⟨f,u⟩
theorem qu{bet:Int->Int->Bool}{n p0:Vc}{l:List Vc}(b:l[0]?=some p0):∀i,∃p,l[(cJ bet n p0 l i).2]?=some p/\(cJ bet n p0 l i).1=bf n p
 |0=>⟨p0,b,rfl⟩
 |i+1=>by
  obtain⟨p,hp,c⟩:=qu (bet:=bet) (n:=n) b i
  cases a:l[i]? with
  |none=>simp only[cJ,a];exact⟨p,hp,c⟩
  |some v=>
   rw[oD a];split
   .exact⟨v,a,rfl⟩
   .exact⟨p,hp,c⟩
theorem QX(n:Vc)(l:List Vc)(hn:ax 16384 n=true)(h1:1<=l.length)(h8:l.length<=8)(S:l.all (ax 268435456)=true):gz 139 (ai n) (aB l) (Z 1) (Z (bN dO n l).2):=by
 obtain⟨p0,e⟩:∃p0,l[0]?=some p0:=⟨_,an (by omega)⟩
 have hb:bN dO n l=cJ dO n p0 l l.length:=by simp[bN,e]
 have u:=qu (bet:=dO) (n:=n) e;have o:=vw (bet:=dO) (n:=n) (p0:=p0) (l:=l) (by omega);have s:=xv hn
 have b:∀p∈l,aS prog 140 [.pv (ai n),.pv (ai p)] [] [] (.pv (Z (bf n p)))/\-13194139533312<=bf n p/\bf n p<=13194139533312:=λp hp=>by
  have hq:=dD (L4.1 S p hp);exact⟨CE n p 16384 268435456 s hq (by decide),tp s hq⟩
 rw[hb];refine Dp func139 λC hP hN=>?_;refine Gz ?_;refine WP.loopN [] (l.length-1) (λi st=>st.t 3=.ptr 3 0/\st.h 3=some (.box [.pv (Z n.1),.pv (Z n.2.1),.pv (Z n.2.2)] true false)/\st.t 1=.pv (aB l)/\st.t 2=.pv (Z 1)/\st.t 8=.pv (Z ((i+1:Nat):Int))/\st.t 7=.pv (Z (cJ dO n p0 l (i+1)).2)) (by simp[cJ,e,dO]) ?_;rintro i st hi ⟨g3,g,g1,g2,B,A⟩;obtain⟨m,T⟩:∃m,m=i+1:=⟨_,rfl⟩
 have E:i+1+1=m+1:=by omega
 rw[<-T]at B A;rw[E];by_cases d:m<l.length
 .have H:i64.wrap ((m:Int)+1)=((m+1:Nat):Int):=(aa (by omega) (by omega)).trans (by omega)
  have a:(m:Int)<(l.length:Int):=by omega
  have j:i<l.length-1:=by omega
  obtain⟨p,hp,F⟩:=u m;have k:=o m;generalize f:l[m]=v at *
  have z:l[m]?=some v:=by rw[an d,f]
  obtain⟨d1,O,P⟩:=b v (An z);obtain⟨d2,Q,R⟩:=b p (An hp);have U:=oD (bet:=dO) (n:=n) (p0:=p0) z;rw[U,F];generalize G:(cJ dO n p0 l m).2=q at *
  have r:∀h,l[q]'h=p:=λh=>by rw[an h]at hp;exact ZB hp
  generalize bf n v=x at *;generalize bf n p=y at *;have w1:i64.wrap x=x:=aa;have w2:i64.wrap y=y:=aa;have I:i64.wrap (-x)=-x:=aa;have J:i64.wrap (-y)=-y:=aa;have K:i64.wrap (-1*x)=-x:=(aa (by omega) (by omega)).trans (by omega);have L:i64.wrap (-1*y)=-y:=(aa (by omega) (by omega)).trans (by omega);have M:i64.wrap (1*x)=x:=(aa (by omega) (by omega)).trans (by omega);have N:i64.wrap (1*y)=y:=(aa (by omega) (by omega)).trans (by omega);by_cases hc:x<y
  .have c:dO x y=true:=by simp only[dO,Is];omega
   rw[c];simp only[Za];exact GS (zAc g3 g g1 g2 B A d a H z f hp r k (zAa j w1 w2 I J K L M N hc))
  .have c:dO x y=false:=by simp only[dO,Y4];omega
   rw[c];simp only[YU,Y5];refine GT (zAc g3 g g1 g2 B A d a H z f hp r k (zAa j w1 w2 I J K L M N hc)) ?_
   all_goals rw[G]
 .have D:m=l.length:=by omega
  have a:¬(m:Int)<(l.length:Int):=by omega
  subst D;exact Gy
theorem QZ(n:Vc)(l:List Vc)(hn:ax 16384 n=true)(h1:1<=l.length)(h8:l.length<=8)(S:l.all (ax 268435456)=true):gz 139 (ai n) (aB l) (Z (-1)) (Z (bN dP n l).2):=by
 obtain⟨p0,e⟩:∃p0,l[0]?=some p0:=⟨_,an (by omega)⟩
 have hb:bN dP n l=cJ dP n p0 l l.length:=by simp[bN,e]
 have u:=qu (bet:=dP) (n:=n) e;have o:=vw (bet:=dP) (n:=n) (p0:=p0) (l:=l) (by omega);have s:=xv hn
 have b:∀p∈l,aS prog 140 [.pv (ai n),.pv (ai p)] [] [] (.pv (Z (bf n p)))/\-13194139533312<=bf n p/\bf n p<=13194139533312:=λp hp=>by
  have hq:=dD (L4.1 S p hp);exact⟨CE n p 16384 268435456 s hq (by decide),tp s hq⟩
 rw[hb];refine Dp func139 λC hP hN=>?_;refine Gz ?_;refine WP.loopN [] (l.length-1) (λi st=>st.t 3=.ptr 3 0/\st.h 3=some (.box [.pv (Z n.1),.pv (Z n.2.1),.pv (Z n.2.2)] true false)/\st.t 1=.pv (aB l)/\st.t 2=.pv (Z (-1))/\st.t 8=.pv (Z ((i+1:Nat):Int))/\st.t 7=.pv (Z (cJ dP n p0 l (i+1)).2)) (by simp[cJ,e,dP]) ?_;rintro i st hi ⟨g3,g,g1,g2,B,A⟩;obtain⟨m,T⟩:∃m,m=i+1:=⟨_,rfl⟩
 have E:i+1+1=m+1:=by omega
 rw[<-T]at B A;rw[E];by_cases d:m<l.length
 .have H:i64.wrap ((m:Int)+1)=((m+1:Nat):Int):=(aa (by omega) (by omega)).trans (by omega)
  have a:(m:Int)<(l.length:Int):=by omega
  have j:i<l.length-1:=by omega
  obtain⟨p,hp,F⟩:=u m;have k:=o m;generalize f:l[m]=v at *
  have z:l[m]?=some v:=by rw[an d,f]
  obtain⟨d1,O,P⟩:=b v (An z);obtain⟨d2,Q,R⟩:=b p (An hp);have U:=oD (bet:=dP) (n:=n) (p0:=p0) z;rw[U,F];generalize G:(cJ dP n p0 l m).2=q at *
  have r:∀h,l[q]'h=p:=λh=>by rw[an h]at hp;exact ZB hp
  generalize bf n v=x at *;generalize bf n p=y at *;have w1:i64.wrap x=x:=aa;have w2:i64.wrap y=y:=aa;have I:i64.wrap (-x)=-x:=aa;have J:i64.wrap (-y)=-y:=aa;have K:i64.wrap (-1*x)=-x:=(aa (by omega) (by omega)).trans (by omega);have L:i64.wrap (-1*y)=-y:=(aa (by omega) (by omega)).trans (by omega);have M:i64.wrap (1*x)=x:=(aa (by omega) (by omega)).trans (by omega);have N:i64.wrap (1*y)=y:=(aa (by omega) (by omega)).trans (by omega);by_cases hc:y<x
  .have c:dP x y=true:=by simp only[dP,Is];omega
   rw[c];simp only[Za];exact GS (zAc g3 g g1 g2 B A d a H z f hp r k (zAa j w1 w2 I J K L M N hc))
  .have c:dP x y=false:=by simp only[dP,Y4];omega
   rw[c];simp only[YU,Y5];refine GT (zAc g3 g g1 g2 B A d a H z f hp r k (zAa j w1 w2 I J K L M N hc)) ?_
   all_goals rw[G]
 .have D:m=l.length:=by omega
  have a:¬(m:Int)<(l.length:Int):=by omega
  subst D;exact Gy
theorem OK(h:∀w∈ws,0<=w):∀{i j:Nat},i<=j->aN ws i<=aN ws j:=λa=>gR h a
theorem KD{w:Int}:wB w=true↔0<=w/\w<=65536:=by
 simp only[wB,Zv,Z5,Y4];omega
theorem Mm{l:List aq}(hp:au l=true)(a:ws.length=l.length):dv l ws=true↔(∀w∈ws,0<=w/\w<=65536)/\1<=aN ws ws.length/\aN ws ws.length<=65536:=by
 simp only[dv,hp,a,yAz,Zf,up,L4,KD,Zv,Z5,Y4];rw[<-a];constructor
 all_goals rintro⟨h1,h2⟩;exact⟨h1,by omega,by omega⟩
set_option maxRecDepth 4000 in
theorem Q0(l:List aq)(ws:List Int)(hl:l.length<=9223372036854775807)(U:ws.length<=9223372036854775807):aH 198 (aD l) (zs ws) (eZ l ws):=by
 have V:=xJ l hl;have z6:bh aY=V6 0 0 0 0 0 0:=rfl
 have o:dv l ws=false->eZ l ws=.tup [V6 0 0 0 0 0 0,Z 0,B false]:=λhf=>by unfold eZ;rw[hf];rfl
 cases hp:au l with
 |false=>
  rw[hp]at V;rw[o (by simp[dv,hp])];refine Dp func198 λC hP hN=>?_;exact Gy
 |true=>
 rw[hp]at V;by_cases s:ws.length=l.length
 case neg=>
  have K:((ws.length:Int)!=(l.length:Int))=true:=by simp;omega
  have X:¬(ws.length:Int)=(l.length:Int):=by omega
  rw[o (by simp[dv,s])];refine Dp func198 λC hP hN=>?_;exact Gy
 have K:((ws.length:Int)!=(l.length:Int))=false:=by simp[s]
 have n:=Mm hp s;have L:=hp;simp only[au,up,Is]at L;obtain⟨⟨ad,ah⟩,Q⟩:=L;have H:=L4.1 Q;refine Dp func198 λC hP hN=>?_;refine Gz ?_;refine WP.loopN [] ws.length (λi st=>st.t 0=.pv (aD l)/\st.t 1=.pv (zs ws)/\st.t 4=.ptr 4 0/\st.h 4=some (.box (b6 aY) true false)/\st.t 7=.pv (Z (aN ws i))/\st.t 8=.pv (Z i)/\st.h 9=none/\(∀k w,k<i->ws[k]?=some w->0<=w/\w<=65536)/\0<=aN ws i/\aN ws i<=65536) (by simp[aN,aY]) ?_;rintro i st hi ⟨g0,g1,g4,b,q,W,a,hq,t0,t1⟩;by_cases c:i<ws.length
 .have y:=ae c U
  have f:(i:Int)<(ws.length:Int):=by omega
  generalize j:ws[i]=w at *
  have r:ws[i]?=some w:=by rw[an c,j]
  have hT:aN ws (i+1)=aN ws i+w:=by simp only[aN,r,Y8]
  have wS:i64.wrap (65536-aN ws i)=65536-aN ws i:=aa;have d:=n.1;have G:=OK (ws:=ws);by_cases h9:w<0
  .rw[o (by
    cases hc:dv l ws with
    |false=>rfl
    |true=>have:=((n.1 hc).1 w (An r));omega)]
   exact Gy
  .by_cases h10:65536-aN ws i<w
   .rw[o (by
     cases hc:dv l ws with
     |false=>rfl
     |true=>
      obtain⟨c1,c2,c3⟩:=n.1 hc;have:=G (λw y=>(c1 w y).1) (show i+1<=ws.length by omega)
      omega)]
    exact Gy
   .have wT:i64.wrap (aN ws i+w)=aN ws i+w:=aa
    have R:∀k u,k<i+1->ws[k]?=some u->0<=u/\u<=65536:=λk u J M=>by
     by_cases e:k=i
     .subst e;rw[r]at M;injection M with M;subst M;omega
     .exact hq k u (by omega) M
    have t2:0<=aN ws i+w/\aN ws i+w<=65536:=by omega
    rw[hT];generalize aN ws i=T at *;refine GT (zAc g0 g1 g4 b q W a c f r j h9 wS h10 (gA wT y)) ?_
    all_goals exact⟨R,t2⟩
 .have F:i=ws.length:=by omega
  have f:¬(i:Int)<(ws.length:Int):=by omega
  have d:∀w∈ws,0<=w/\w<=65536:=λw y=>by
   obtain⟨k,J⟩:=Zq y;exact hq k w (by have:=(th.1 J).1;omega) J
  subst F;by_cases h1:aN ws ws.length<1
  .rw[o (by
    cases hc:dv l ws with
    |false=>rfl
    |true=>have:=n.1 hc;omega)]
   exact Gy
  .have P:dv l ws=true:=n.2 ⟨d,by omega,by omega⟩
   have hR:eZ l ws=.tup [bh (cY l ws ws.length),Z (aN ws ws.length),B true]:=by unfold eZ;rw[P];rfl
   rw[hR];have N:∀w∈ws,wB w=true:=λw y=>KD.2 (d w y);have D:=Am H N;have A:st.h 4=some (.box [.pv (Z 0),.pv (Z 0),.pv (Z 0),.pv (Z 0),.pv (Z 0),.pv (Z 0)] true false):=b;clear b n o hq z6;generalize aN ws ws.length=T at *;refine Gz ?_;refine WP.loopN [] l.length (λi st=>st.t 0=.pv (aD l)/\st.t 1=.pv (zs ws)/\st.t 4=.ptr 4 0/\st.h 4=some (.box [.pv (Z 0),.pv (Z 0),.pv (Z 0),.pv (Z 0),.pv (Z 0),.pv (Z 0)] true false)/\st.t 7=.pv (Z T)/\st.t 9=.ptr 9 0/\st.h 9=some (.box (b6 (cY l ws i)) true false)/\st.t 10=.pv (Z i)) (by simp[cY,aY,g0,g1,g4,A,q]) ?_;clear g0 g1 g4 A q W a f c hi;rintro i st hi ⟨g0,g1,g4,b,q,E,a,g⟩;by_cases c:i<l.length
   .have y:=ae c (by omega)
    have f:(i:Int)<(l.length:Int):=by omega
    have m:i<ws.length:=by omega
    generalize j:ws[i]=w at *
    have r:ws[i]?=some w:=by rw[an m,j]
    generalize z:l[i]=x at *
    have O:l[i]?=some x:=by rw[an c,z]
    have I:=d w (An r);have v:=H x (An O);rw[fF]at v
    have hS:cY l ws (i+1)=rl w (cY l ws i) x:=by simp only[cY,r,O]
    obtain⟨Y,r2,r3⟩:=D i;have a1:=ic (w:=w) (x:=x.1) I v.1 Y;have a2:=ic (w:=w) (x:=x.2.1) I v.2.1 r2;have a3:=ic (w:=w) (x:=x.2.2) I v.2.2 r3;clear D d N H;generalize cY l ws i=S at *;generalize cY l ws (i+1)=S' at *;subst hS;have d1:(bZ w S.1 x.1).1=S.1.1+w*x.1.1:=rfl;have d2:(bZ w S.1 x.1).2=S.1.2+w*x.1.2:=rfl;have d3:(bZ w S.2.1 x.2.1).1=S.2.1.1+w*x.2.1.1:=rfl;have d4:(bZ w S.2.1 x.2.1).2=S.2.1.2+w*x.2.1.2:=rfl;have d5:(bZ w S.2.2 x.2.2).1=S.2.2.1+w*x.2.2.1:=rfl;have d6:(bZ w S.2.2 x.2.2).2=S.2.2.2+w*x.2.2.2:=rfl;rw[d1,d2]at a1;rw[d3,d4]at a2;rw[d5,d6]at a3;have u1:i64.wrap (w*x.1.1)=w*x.1.1:=aa;have u2:i64.wrap (w*x.1.2)=w*x.1.2:=aa;have u3:i64.wrap (w*x.2.1.1)=w*x.2.1.1:=aa;have u4:i64.wrap (w*x.2.1.2)=w*x.2.1.2:=aa;have u5:i64.wrap (w*x.2.2.1)=w*x.2.2.1:=aa;have u6:i64.wrap (w*x.2.2.2)=w*x.2.2.2:=aa;have v1:i64.wrap (S.1.1+w*x.1.1)=S.1.1+w*x.1.1:=aa;have v2:i64.wrap (S.1.2+w*x.1.2)=S.1.2+w*x.1.2:=aa;have v3:i64.wrap (S.2.1.1+w*x.2.1.1)=S.2.1.1+w*x.2.1.1:=aa;have v4:i64.wrap (S.2.1.2+w*x.2.1.2)=S.2.1.2+w*x.2.1.2:=aa;have v5:i64.wrap (S.2.2.1+w*x.2.2.1)=S.2.2.1+w*x.2.2.1:=aa;have v6:i64.wrap (S.2.2.2+w*x.2.2.2)=S.2.2.2+w*x.2.2.2:=aa;clear a1 a2 a3 Y r2 r3 d1 d2 d3 d4 d5 d6;refine Gz ?_;refine WP.loopN [] 3 (λk st=>st.t 0=.pv (aD l)/\st.t 1=.pv (zs ws)/\st.t 4=.ptr 4 0/\st.h 4=some (.box [.pv (Z 0),.pv (Z 0),.pv (Z 0),.pv (Z 0),.pv (Z 0),.pv (Z 0)] true false)/\st.t 7=.pv (Z T)/\st.t 9=.ptr 9 0/\st.h 9=some (.box (kG S x w k) true false)/\st.t 10=.pv (Z i)/\st.t 11=.pv (Z k)) (by simp[g0,g1,g4,b,q,E,a,g,kG]) ?_;clear g0 g1 g4 b q E a g;rintro k st J ⟨g0,g1,g4,b,q,E,a,g,p⟩;rcases dC J with rfl|rfl|rfl|rfl
    all_goals (simp[kG,bZ]at a p)
    .skip
     with_reducible repeat' (first|refine Sp.h ?_|((first|refine Wd ?_|refine Ss.h ?_|(refine Sb.h ?_ ?_ ?_<;>(try intro hgd)<;>try exact Xy))<;>simp -implicitDefEqProofs (maxSteps:=2000000) [hP,hN,g0,g1,g4,b,q,E,a,g,p,r,j,O,z,c,m,u1,u2,v1,v2,kG,bZ]<;>try refine Ya ?_)|refine X2 ?_ ?_|(refine Xd ?_ ?_<;>intro hcd<;>try exact Xx))
    .skip
     with_reducible repeat' (first|refine Sp.h ?_|((first|refine Wd ?_|refine Ss.h ?_|(refine Sb.h ?_ ?_ ?_<;>(try intro hgd)<;>try exact Xy))<;>simp -implicitDefEqProofs (maxSteps:=2000000) [hP,hN,g0,g1,g4,b,q,E,a,g,p,r,j,O,z,c,m,u3,u4,v3,v4,kG,bZ]<;>try refine Ya ?_)|refine X2 ?_ ?_|(refine Xd ?_ ?_<;>intro hcd<;>try exact Xx))
    .skip
     with_reducible repeat' (first|refine Sp.h ?_|((first|refine Wd ?_|refine Ss.h ?_|(refine Sb.h ?_ ?_ ?_<;>(try intro hgd)<;>try exact Xy))<;>simp -implicitDefEqProofs (maxSteps:=2000000) [hP,hN,g0,g1,g4,b,q,E,a,g,p,r,j,O,z,c,m,u5,u6,v5,v6,kG,bZ]<;>try refine Ya ?_)|refine X2 ?_ ?_|(refine Xd ?_ ?_<;>intro hcd<;>try exact Xx))
    .skip
     with_reducible repeat' (first|refine Sp.h ?_|((first|refine Wd ?_|refine Ss.h ?_|(refine Sb.h ?_ ?_ ?_<;>(try intro hgd)<;>try exact Xy))<;>simp -implicitDefEqProofs (maxSteps:=2000000) [hP,hN,g0,g1,g4,b,q,E,a,g,p,c,y,rl,bZ]<;>try refine Ya ?_)|refine X2 ?_ ?_|(refine Xd ?_ ?_<;>intro hcd<;>try exact Xx))
   .have F:i=l.length:=by omega
    have f:¬(i:Int)<(l.length:Int):=by omega
    subst F;rw[<-s]at a;exact Gy
theorem CF(x:Int)(h1:-4611686018427387904<=x)(h2:x<=4611686018427387904):aT 199 (Z x) (Z (max x (-x))):=by
 have w1:i64.wrap (-x)=-x:=aa;have w2:i64.wrap (0-x)=-x:=(aa (n:=0-x) (by omega) (by omega)).trans (by omega)
 have c:∀a b:Int,(if a<b then b else a)=max a b:=λa b=>by omega
 refine Dp func199 λC hP hN=>?_;exact Gy
theorem Mn(x y z r:Int):pn [x,y,z] r=if x<=r/\y<=r/\z<=r then r*r-x*x-y*y-z*z else -1:=by
 unfold pn
 have:[x,y,z].all (λx=>decide (x<=r))=decide (x<=r/\y<=r/\z<=r):=by simp[Bool.and_assoc]
 rw[this];simp[iJ]
theorem Mo{u v:Iv}{T:Int}(a:1<=T/\T<=65536)(h1:-281474976710656<=u.1-v.2/\u.1-v.2<=281474976710656)(h2:-281474976710656<=u.2-v.1/\u.2-v.1<=281474976710656):
 aS prog 84 [.pv (Z (max (u.1-v.2) (max (-(u.1-v.2)) (max (u.2-v.1) (-(u.2-v.1)))))),.pv (Z T)] [] [] (.pv (Z (bU u v T)))/\0<=bU u v T:=by
 have hf:max (u.1-v.2) (max (-(u.1-v.2)) (max (u.2-v.1) (-(u.2-v.1))))=lZ (u.1-v.2) (u.2-v.1):=by unfold lZ;omega
 have b:=vu h1 h2;have:=FO (lZ (u.1-v.2) (u.2-v.1)) T (by omega);rw[sJ (by omega) (by omega) (by omega),HI (by omega)]at this;rw[hf];exact⟨this,(yF b.1 (by omega) a.1 a.2).1⟩
set_option maxRecDepth 4000 in
theorem VW(left right:List Int)(a:List aq)(i:Int)(b:List aq)(j:Int)(h1:left.length<=9223372036854775807)(h2:right.length<=9223372036854775807)(h3:a.length<=9223372036854775807)(h4:b.length<=9223372036854775807):NV 145 (zs left) (zs right) (aD a) (Z i) (aD b) (Z j) (.tup [Z (lc left right a i b j),B (oC left right a i b j)]):=by
 have ca:=Q0 a left h3 h1;have Y:=Q0 b right h4 h2;have H:=CI i;have M:=CI j;have W:bh aY=V6 0 0 0 0 0 0:=rfl;have e:oC left right a i b j=(dv a left&&dv b right&&decide (aN left left.length=aN right right.length)&&aP i 0 1048576&&aP j 0 1048576):=rfl
 have hX:lc left right a i b j=if oC left right a i b j then pn (dM (cY a left left.length) (cY b right right.length) (aN left left.length)) (i+j)else 0:=rfl
 rw[hX]
 cases I:dv a left with
 |false=>
  rw[I]at e;simp only[Zt]at e;rw[e];simp only[YU,Y5];simp only[eZ,I,YU,Y5,W]at ca;cases G:dv b right
  all_goals (simp only[eZ,G,YU,Y5,Za,W]at Y)
  .skip
   refine Dp func145 λC hP hN=>?_;exact Gy
  .skip
   generalize cY b right right.length=V at *;generalize aN right right.length=X at *;refine Dp func145 λC hP hN=>?_;exact Gy
 |true=>
 simp only[eZ,I,Za]at ca
 cases G:dv b right with
 |false=>
  rw[G]at e;simp only[Zt,yAc]at e;rw[e];simp only[YU,Y5];simp only[eZ,G,YU,Y5,W]at Y;generalize cY a left left.length=U at *;generalize aN left left.length=T at *;refine Dp func145 λC hP hN=>?_;exact Gy
 |true=>
 simp only[eZ,G,Za]at Y;have D:=vt I;have E:=vt G;have J:=Fp I;rw[I,G]at e;simp only[Zf]at e;clear hX I G W;generalize cY a left left.length=U at *;generalize cY b right right.length=V at *;generalize aN left left.length=T at *;generalize aN right right.length=X at *;by_cases hT:T=X
 case neg=>
  have a7:(T !=X)=true:=by simp[hT]
  rw[ZU hT]at e;simp only[Zt]at e;rw[e];simp only[YU,Y5];clear D E;refine Dp func145 λC hP hN=>?_;exact Gy
 subst hT;simp only[yAz,Zf]at e
 cases o:aP i 0 1048576 with
 |false=>
  rw[o]at e H;simp only[Zt]at e;rw[e];simp only[YU,Y5];clear D E;refine Dp func145 λC hP hN=>?_;exact Gy
 |true=>
 cases F:aP j 0 1048576 with
 |false=>
  rw[F]at e M;rw[o]at H;simp only[yAc]at e;rw[e];simp only[YU,Y5];clear D E;refine Dp func145 λC hP hN=>?_;exact Gy
 |true=>
 rw[o,F]at e;rw[o]at H;rw[F]at M;simp only[Z9]at e;rw[e];simp only[Za];simp only[aP,up,Is]at o F;obtain⟨c,N⟩:∃c,c=i+j:=⟨_,rfl⟩;have p:i64.wrap (i+j)=c:=(aa (by omega) (by omega)).trans N.symm;rw[<-N];have a8:=mm (x:=c) (m:=2097152) (by omega) (by omega);have a6:i64.wrap (c*c)=c*c:=aa;obtain⟨⟨⟨a1,a2⟩,a3,a4⟩,⟨⟨b1,b2⟩,b3,b4⟩,⟨c1,c2⟩,c3,c4⟩:=D;obtain⟨⟨⟨d1,d2⟩,d3,d4⟩,⟨⟨e1,e2⟩,e3,e4⟩,⟨f1,f2⟩,f3,f4⟩:=E;have k0:=Mo (u:=U.1) (v:=V.1) J (by omega) (by omega);have k1:=Mo (u:=U.2.1) (v:=V.2.1) J (by omega) (by omega);have k2:=Mo (u:=U.2.2) (v:=V.2.2) J (by omega) (by omega)
 have S:∀a b:Int,(if a<b then b else a)=max a b:=λa b=>by omega
 have Q:i64.wrap (U.1.1-V.1.2)=U.1.1-V.1.2:=aa;have R:i64.wrap (U.1.2-V.1.1)=U.1.2-V.1.1:=aa;have ah:i64.wrap (U.2.1.1-V.2.1.2)=U.2.1.1-V.2.1.2:=aa;have aj:i64.wrap (U.2.1.2-V.2.1.1)=U.2.1.2-V.2.1.1:=aa;have ak:i64.wrap (U.2.2.1-V.2.2.2)=U.2.2.1-V.2.2.2:=aa;have ar:i64.wrap (U.2.2.2-V.2.2.1)=U.2.2.2-V.2.2.1:=aa;have b5:=CF (U.1.1-V.1.2) (by omega) (by omega);have b7:=CF (U.1.2-V.1.1) (by omega) (by omega);have b8:=CF (U.2.1.1-V.2.1.2) (by omega) (by omega);have b9:=CF (U.2.1.2-V.2.1.1) (by omega) (by omega);have cc:=CF (U.2.2.1-V.2.2.2) (by omega) (by omega);have cd:=CF (U.2.2.2-V.2.2.1) (by omega) (by omega);clear a1 a2 a3 a4 b1 b2 b3 b4 c1 c2 c3 c4 d1 d2 d3 d4 e1 e2 e3 e4 f1 f2 f3 f4;have hg:dM U V T=[bU U.1 V.1 T,bU U.2.1 V.2.1 T,bU U.2.2 V.2.2 T]:=rfl;rw[hg,Mn];generalize bU U.1 V.1 T=x at *;generalize bU U.2.1 V.2.1 T=y at *;generalize bU U.2.2 V.2.2 T=z at *;obtain⟨k0,x0⟩:=k0;obtain⟨k1,y0⟩:=k1;obtain⟨k2,z0⟩:=k2
 have qx:x<=c->0<=x*x/\x*x<=4398046511104:=λh=>by have:=mm (x:=x) (m:=2097152) x0 (by omega);omega
 have qy:y<=c->0<=y*y/\y*y<=4398046511104:=λh=>by have:=mm (x:=y) (m:=2097152) y0 (by omega);omega
 have qz:z<=c->0<=z*z/\z*z<=4398046511104:=λh=>by have:=mm (x:=z) (m:=2097152) z0 (by omega);omega
 refine Dp func145 λC hP hN=>?_;refine GT (gA p a6) ?_;refine WP.loopN [] 3 (λk st=>st.t 3=.pv (Z i)/\st.t 5=.pv (Z j)/\st.t 14=.ptr 14 0/\st.h 14=some (.box [.pv (Z U.1.1),.pv (Z U.1.2),.pv (Z U.2.1.1),.pv (Z U.2.1.2),.pv (Z U.2.2.1),.pv (Z U.2.2.2)] true false)/\st.t 17=.ptr 17 0/\st.h 17=some (.box [.pv (Z V.1.1),.pv (Z V.1.2),.pv (Z V.2.1.1),.pv (Z V.2.1.2),.pv (Z V.2.2.1),.pv (Z V.2.2.2)] true false)/\st.t 15=.pv (Z T)/\st.t 21=.pv (Z k)/\st.t 20=.pv (Z (if k=0 then c*c else if k=1 then c*c-x*x else if k=2 then c*c-x*x-y*y else c*c-x*x-y*y-z*z))/\(0<k->x<=c)/\(1<k->y<=c)/\(2<k->z<=c)) (by simp) ?_;rintro k st hk ⟨g3,g5,r,f,A,g,s,n,l,p0,p1,p2⟩;rcases dC hk with rfl|rfl|rfl|rfl
 all_goals (simp at l n)
 .by_cases L:c<x
  .have d:(if x<=c/\y<=c/\z<=c then c*c-x*x-y*y-z*z else -1)=-1:=YR (by omega)
   rw[d];exact GS (zAb g3 g5 r f A g s l n S Q (be R p L))
  .have q:=qx (by omega)
   have O:i64.wrap (x*x)=x*x:=aa;have P:i64.wrap (c*c-x*x)=c*c-x*x:=aa;refine GT (zAc g3 g5 r f A g s l n S Q R p L (gA O P)) ?_
   all_goals omega
 .have K:=p0 (by omega)
  have q':=qx K;by_cases L:c<y
  .have d:(if x<=c/\y<=c/\z<=c then c*c-x*x-y*y-z*z else -1)=-1:=YR (by omega)
   rw[d];exact Gy
  .have q:=qy (by omega)
   have O:i64.wrap (y*y)=y*y:=aa;have P:i64.wrap (c*c-x*x-y*y)=c*c-x*x-y*y:=aa;refine GT (zAc g3 g5 r f A g s l n S ah aj p L (gA O P)) ?_
   all_goals omega
 .have K:=p0 (by omega)
  have ad:=p1 (by omega);have q':=qx K;have bq:=qy ad;by_cases L:c<z
  .have d:(if x<=c/\y<=c/\z<=c then c*c-x*x-y*y-z*z else -1)=-1:=YR (by omega)
   rw[d];exact Gy
  .have q:=qz (by omega)
   have O:i64.wrap (z*z)=z*z:=aa;have P:i64.wrap (c*c-x*x-y*y-z*z)=c*c-x*x-y*y-z*z:=aa;refine GT (zAc g3 g5 r f A g s l n S ak ar p L (gA O P)) ?_
   all_goals omega
 .have d:(if x<=c/\y<=c/\z<=c then c*c-x*x-y*y-z*z else -1)=c*c-x*x-y*y-z*z:=YY ⟨p0 (by omega),p1 (by omega),p2 (by omega)⟩
  rw[d];exact Gy
theorem XA(left right:List Int)(a:List aq)(c:Int)(b:List aq)(d:Int)(h1:left.length<=9223372036854775807)(h2:right.length<=9223372036854775807)(h3:a.length<=9223372036854775807)(h4:b.length<=9223372036854775807):NV 89 (zs left) (zs right) (aD a) (Z c) (aD b) (Z d) (B (oC left right a c b d&&decide (0<=lc left right a c b d))):=by
 have f:=VW left right a c b d h1 h2 h3 h4;generalize lc left right a c b d=e at *;cases hb:oC left right a c b d<;>rw[hb]at f
 all_goals
  refine Dp func89 λC hP hN=>?_;exact Gy
end Go.Ab
