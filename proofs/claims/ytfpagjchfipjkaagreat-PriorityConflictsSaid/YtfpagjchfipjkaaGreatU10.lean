/- The contracts and facts that the laws of this seat need, in one text (Jn1, Cn3, Jn2, Ed1, AbP, Xr0, Ed2, Ed3, AbF, AbU, Cn4, Cn1, Cn5, Sq1, Cr5, K18, XrA, KR1, KR2, KR3, KR4, KR5, KR6, KR7, KR8, KR9, KR10, KR11, KR12, KR13, KR14). -/
import Derived.Test.YtfpagjchfipjkaaGreatU9
import Derived.Laws.Strings
set_option linter.all false
set_option maxRecDepth 10000
set_option maxHeartbeats 16000000
namespace Go.Ab
open IntKind (i64)
open Go.Proofs.Tryz
open Go.Proofs
variable {A s t:Sce}{D a a0 a1 a10 a11 a12 a13 a14 a15 a16 a17 a2 a3 a4 a5 a6 a7 a8 a9 b b0 b1 b2 b3 b4 b5 d v0 v1 v2 v3 v4 v5:Int}{K:St->Prop}{P:Program}{Pa Pb:List (List Int)}{Post:AV->Hp->Prop}{Q:Exit->St->Prop}{aft:Array Edge}{ats ts:Array TypeId}{bs:List Vc}{dst:Option Nat}{f:Operand}{g:Option (Nat×Bool)}{h:Hp}{hn:List Nat}{i id j k m n:Nat}{js:List J}{l:List Sce}{l':Array Bool}{o:Oper}{ops:Array Oper}{out out':List Pc}{p q ws:List Int}{pos:String}{post pre:List Oper}{r r':EdR}{rs:List ResultVar}{st:St}{ty:TypeId}{us:List Mov}{v x y:Vc}{xs:List Operand}{α:Type}{ρ:Operand->AV}
def qd(b v:Vc):Vc:=(wr (v.1+b.1),wr (v.2.1+b.2.1),wr (v.2.2+b.2.2))
def kU(n l:Int):Int:=if l=-1 then l else l+n
def fX(k n:Nat)(b:Vc)(j:J):J:={j with
 name:=bP k++j.name
 parent:=kU n j.parent
 ox:=if j.parent=-1 then wr (j.ox+b.1)else j.ox
 oy:=if j.parent=-1 then wr (j.oy+b.2.1)else j.oy
 oz:=if j.parent=-1 then wr (j.oz+b.2.2)else j.oz}
def oU(n:Nat)(m:Ms):Ms:={m with link:=m.link+n}
def jJ(n:Nat)(b:Vc)(h:Sh):Sh:=⟨kU n h.link,h.rad,if h.link=-1 then h.pts.map (qd b)else h.pts⟩
def oo(n:Nat)(x:Int×Int):Int×Int:=(kU n x.1,kU n x.2)
def oq(k:Nat)(A s:Sce)(b:Vc):Sce:=⟨A.js++s.js.map (fX k A.js.length b),A.ms++s.ms.map (oU A.js.length),A.shs++s.shs.map (jJ A.js.length b),A.sks++s.sks.map (oo A.js.length)⟩
def dG(l:List Sce)(bs:List Vc):Nat->Sce
 |0=>⟨[],[],[],[]⟩
 |k+1=>match l[k]?,bs[k]? with
  |some s,some b=>oq k (dG l bs k) s b
  |_,_=>dG l bs k
def gJ(l:List Int):Int:=match l.find? (λe=>e !=0)with
 |some e=>e
 |none=>0
def ic(l:List Sce)(bs:List Vc):Int:=if l.length<1\/4<l.length\/bs.length≠l.length then 3501 else if gJ (l.map ao)≠0 then gJ (l.map ao)else if ao (dG l bs l.length)=0 then 0 else 3502
def iy(l:List Sce)(bs:List Vc):Sce:=if ic l bs=0 then dG l bs l.length else⟨[],[],[],[]⟩
theorem tN{l:List Int}(h:gJ l=0):∀e∈l,e=0:=by
 intro e a;unfold gJ at h
 cases hf:l.find? (λe=>e !=0)with
 |none=>
  have:=yAh.1 hf e a;simpa using this
 |some x=>
  rw[hf]at h;have:=yAJ hf;simp at h this;exact absurd h this
theorem Bb{l:List Int}(h:∀e∈l,e=0):gJ l=0:=by
 unfold gJ;rw[yAh.2 (λe a=>by simp[h e a])]
theorem j5{j:J}:bJ js i j=0↔fh j.name=true/\mW js i j.name=false/\(0<=j.kind/\j.kind<=6)/\(-1<=j.parent/\j.parent<i)/\fk j.ox j.oy j.oz 4194304=true/\¬(j.hi<j.lo\/j.lo< -dp j.kind\/dp j.kind<j.hi)/\(aT j.w 1 1024&&aT j.sp 1 1048576&&aT j.ac 1 1048576&&aT j.tq 1 1099511627776)=true:=by
 unfold bJ;constructor
 .intro h
  split at h;·cases h
  rename_i h1
  split at h;·cases h
  rename_i b
  split at h;·cases h
  rename_i c
  split at h;·cases h
  rename_i a
  split at h;·cases h
  rename_i h5
  split at h;·cases h
  rename_i h6;simp only[ZX,ZK,not_or,Bool.not_eq_true,Bool.not_eq_false]at h1 a h6;exact⟨h1.1,h1.2,by omega,by omega,a,h5,h6⟩
 .rintro⟨h1,b,c,a,h5,h6,h7⟩
  rw[Y6 (by simp[h1,b]),Y6 (by omega),Y6 (by omega),Y6 (by simp[h5]),Y6 h6,Y6 (by simp[h7])]
structure ScOk(s:Sce):Prop where
 n1:1<=s.js.length
 n2:s.js.length<=10
 j:∀(i:Nat) j,s.js[i]?=some j->bJ s.js i j=0
 m1:s.ms.length<=32
 m:∀x∈s.ms,dQ s.js.length x=true
 h1:s.shs.length<=24
 h:∀x∈s.shs,bB s.js.length x=0
 k1:s.sks.length<=64
 k:∀x∈s.sks,gB s.js.length x=true
theorem J1(o:ScOk s):ao s=0:=by
 have h1:jb s.js=0:=vb o.j;have b:gm s.js.length s.shs=0:=ss λk x a=>o.h x (An a)
 have c:(s.ms.any λm=>!dQ s.js.length m)=false:=by
  rw[yAL];intro x a;simp[o.m x a]
 have d:aP s.js s.ms=0:=by
  unfold aP;have:=o.n1;have:=o.n2;have:=o.m1;rw[Y6 (by omega),Y6 (by simp[h1]),Y6 (by rw[c];simp;omega)]
 unfold ao;have:=o.h1;have:=o.k1;rw[Y6 (by simp[d]),Y6 (by omega),Y6 (by simp[b]),Y6 (by omega),Zd (L4.2 o.k)]
theorem kV(h:ao s=0):ScOk s:=by
 unfold ao at h
 split at h;·rename_i a;exact absurd h a
 rename_i a1
 split at h;·cases h
 rename_i a2
 split at h;·rename_i a;exact absurd h a
 rename_i a3
 split at h;·cases h
 rename_i a4;split at h
 case isFalse=>cases h
 rename_i a5;have b:=Decidable.not_not.1 a1;unfold aP at b
 split at b;·cases b
 rename_i b1
 split at b;·rename_i a;exact absurd b a
 rename_i b2
 split at b;·cases b
 rename_i b3;simp only[ZX,Is,not_or,Bool.not_eq_true]at b3;refine⟨by omega,by omega,λi j g=>?_,by omega,λx c=>?_,by omega,λx c=>?_,by omega,L4.1 a5⟩
 .have e:=Decidable.not_not.1 b2
  have d:=tN (l:=s.js.mapIdx (bJ s.js)) e;exact d _ (by rw[List.mem_mapIdx];obtain⟨hi,f⟩:=th.1 g;exact⟨i,hi,by rw[f]⟩)
 .have:=yAL.1 b3.2 x c
  simpa using this
 .have d:=tN (l:=s.shs.map (bB s.js.length)) (Decidable.not_not.1 a3)
  exact d _ (List.mem_map_of_mem c)
theorem Bc(h:ic l bs=0):1<=l.length/\l.length<=4/\bs.length=l.length/\(∀s∈l,ao s=0)/\ao (dG l bs l.length)=0:=by
 unfold ic at h
 split at h;·cases h
 rename_i h1
 split at h;·rename_i c;exact absurd h c
 rename_i a;split at h
 case isFalse=>cases h
 rename_i b;refine⟨by omega,by omega,by omega,λs d=>?_,b⟩;exact tN (Decidable.not_not.1 a) _ (List.mem_map_of_mem d)
theorem Bd(k:Nat)(s:ByteArray):(bP k++s).toList=UInt8.ofNat (97+k)::s.toList:=by
 rw[ByteArray.toList_eq,ByteArray.toList_eq,ByteArray.data_append];simp[bP]
theorem Hf{c:Nat}(e:k<4)(d:c<4)(s t:ByteArray):ja (bP k++s) (bP c++t)=(decide (k=c)&&ja s t):=by
 have h:(UInt8.ofNat (97+k)==UInt8.ofNat (97+c))=decide (k=c):=by
  have:∀a b:_root_.Fin 4,(UInt8.ofNat (97+a.1)==UInt8.ofNat (97+b.1))=decide (a.1=b.1):=by decide
  exact this ⟨k,e⟩ ⟨c,d⟩
 simp only[ja,Bd,List.cons_beq_cons,h]
theorem Oy{b:Nat}(h:fZ i b=true):fZ (i+1) b=true:=by
 simp only[fZ,ZX,up]at *;rcases h with h|h
 .exact .inl h
 .exact .inr ⟨by simp,h.2⟩
theorem Fe(e:k<4){s:ByteArray}(h:fh s=true):fh (bP k++s)=decide (s.size<=15):=by
 have c:(bP k++s).size=1+s.size:=by rw[ByteArray.size_append];rfl
 simp only[fh,up,Is]at h;obtain⟨⟨⟨h1,j⟩,l⟩,d⟩:=h
 have f:eF (bP k++s)=true:=by
  refine tJ λi hi=>?_;rcases i with _|i
  .rw[ByteArray.getElem_append_left (by rw[show(bP k).size=1 from rfl];omega)]
   have:∀a:_root_.Fin 4,fZ 0 (UInt8.ofNat (97+a.1)).toNat=true:=by decide
   exact this ⟨k,e⟩
  .rw[ByteArray.getElem_append_right (by rw[show(bP k).size=1 from rfl];omega)]
   simp only[show(bP k).size=1 from rfl,Nat.add_sub_cancel];refine Oy ?_;simp only[eF,L4,ZL]at d
   have b:i<s.size:=by omega
   have:=d i b
   rwa [getElem!_pos s i b]at this
 have g:((bP k++s).toList==[119,111,114,108,100])=false:=by
  rw[Bd,List.cons_beq_cons]
  have:∀a:_root_.Fin 4,(UInt8.ofNat (97+a.1)==119)=false:=by decide
  rw[this ⟨k,e⟩];rfl
 simp only[fh,c,f,g];rw[Bool.eq_iff_iff];simp;omega
theorem vf{b:Vc}(h:l[k]?=some s)(h':bs[k]?=some b):dG l bs (k+1)=oq k (dG l bs k) s b:=by
 rw[dG,h,h']
structure Part(a:Nat)(x:Vc)(s A:Sce):Prop where
 pj:∃n0:Nat,(∀j∈s.js,fX a n0 x j∈A.js)/\∀h∈s.shs,jJ n0 x h∈A.shs
 lj:s.js.length<=A.js.length
 lm:s.ms.length<=A.ms.length
 lh:s.shs.length<=A.shs.length
 lk:s.sks.length<=A.sks.length
theorem J2{a:Nat}(h:Part a x s (dG l bs k)):Part a x s (dG l bs (k+1)):=by
 rw[dG];split
 .obtain⟨⟨e,h1,b⟩,f,g,h5,h6⟩:=h
  refine⟨⟨e,λj c=>yAP _ (h1 j c),λy d=>yAP _ (b y d)⟩,?_,?_,?_,?_⟩<;>simp only[oq,Zq]<;>omega
 .exact h
theorem yy{l:List Sce}{bs:List Vc}{a:Nat}{x:Vc}{s:Sce}(h:l[a]?=some s)(h':bs[a]?=some x):∀k,a<k->Part a x s (dG l bs k)
 |0,c=>by omega
 |k+1,c=>by
  by_cases e:a=k
  .subst e
   rw[vf h h'];refine⟨⟨(dG l bs a).js.length,λj b=>List.mem_append_right _ (List.mem_map_of_mem b),λy d=>List.mem_append_right _ (List.mem_map_of_mem d)⟩,?_,?_,?_,?_⟩<;>simp[oq]
  .exact J2 (yy h h' k (by omega))
theorem Hg{l:List Sce}{bs:List Vc}{a b:Nat}{x y:Vc}{s t:Sce}(hs:l[a]?=some s)(f:bs[a]?=some x)(d:l[b]?=some t)(g:bs[b]?=some y)(c:a<b):∀k,b<k->s.js.length+t.js.length<=(dG l bs k).js.length/\s.ms.length+t.ms.length<=(dG l bs k).ms.length/\s.shs.length+t.shs.length<=(dG l bs k).shs.length/\s.sks.length+t.sks.length<=(dG l bs k).sks.length
 |0,i=>by omega
 |k+1,i=>by
  by_cases e:b=k
  .subst e
   have p:=yy hs f b c;have:=p.lj;have:=p.lm;have:=p.lh;have:=p.lk;rw[vf d g];simp only[oq,Zq,ZB];omega
  .have:=Hg hs f d g c k (by omega)
   rw[dG];split
   .simp only[oq,Zq];omega
   .exact this
theorem LG{a n0:Nat}{j:J}(b:a<4)(c:fh j.name=true)(h:bJ js i (fX a n0 x j)=0):j.name.size<=15/\fk (fX a n0 x j).ox (fX a n0 x j).oy (fX a n0 x j).oz 4194304=true:=by
 obtain⟨h1,_,_,_,h5,_⟩:=j5.1 h;rw[show(fX a n0 x j).name=bP a++j.name from rfl,Fe b c]at h1;exact⟨by simpa using h1,h5⟩
theorem Nx{a:Nat}(hs:ScOk s)(d:ScOk A)(e:a<4)(p:Part a x s A):∀(i:Nat) j,s.js[i]?=some j->j.name.size<=15/\fk (fX 0 0 x j).ox (fX 0 0 x j).oy (fX 0 0 x j).oz 4194304=true:=by
 intro i j b;obtain⟨n0,h1,_⟩:=p.pj;obtain⟨q,hq⟩:=ZF (h1 j (An b));have c:=LG (n0:=n0) e (j5.1 (hs.j i j b)).1 (d.j q _ hq);exact c
theorem Ny{a:Nat}(hs:ScOk s)(f:ScOk A)(p:Part a x s A)(g:n+s.js.length<=m):∀h∈s.shs,bB m (jJ n x h)=0:=by
 intro h d;obtain⟨i,_,e⟩:=p.pj;have c:=hs.h h d;have b:=f.h _ (e h d);unfold bB at c b|-;split at c
 case isFalse=>cases c
 rename_i g1;split at b
 case isFalse=>cases b
 rename_i g2;split at b
 case isFalse=>cases b
 rename_i g3;simp only[up,Is]at g1 g2;rw[Zd,Zd]
 .exact g3
 .simp only[up,Is]
  refine⟨⟨⟨⟨?_,g2.1.1.1.2⟩,g2.1.1.2⟩,g2.1.2⟩,g2.2⟩;have:=g1.1.1.1.1;simp only[bK,up,Is]at this|-;simp only[jJ,kU];split<;>omega
theorem yz{l:Int}(h:bK k l=true)(a:n+k<=m):bK m (kU n l)=true:=by
 simp only[bK,up,Is]at *;simp only[kU];split<;>omega
theorem Hh{x:Ms}(h:dQ k x=true)(d:n+k<=m):dQ m (oU n x)=true:=by
 simp only[dQ,oU,up,Is]at *;obtain⟨⟨⟨h1,c⟩,a⟩,b⟩:=h;exact⟨⟨⟨ZH (by omega),ZH (by omega)⟩,a⟩,b⟩
theorem Hi(a:k<4){nm:ByteArray}:((js.map (fX k n x)).take i).any (λj=>ja j.name (bP k++nm))=mW js i nm:=by
 unfold mW;rw[<-List.map_take,List.any_map]
 congr 1
 funext j
 simp only[Function.comp];rw[show(fX k n x j).name=bP k++j.name from rfl,Hf a a];simp
theorem Hj(R:ic l bs=0){a b:Nat}(hs:l[a]?=some s)(K:bs[a]?=some x)(o:l[b]?=some t)(L:bs[b]?=some y)(I:a<b):ic [s,t] [x,y]=0:=by
 obtain⟨g1,g2,g3,g4,g5⟩:=Bc R;have n:b<l.length:=(th.1 o).1;have os:=kV (g4 s (An hs));have p:=kV (g4 t (An o));have g:=kV g5;have M:=yy hs K l.length (by omega);have N:=yy o L l.length n;obtain⟨n1,n2,T,U⟩:=Hg hs K o L I l.length n;generalize dG l bs l.length=A at *
 have hP:dG [s,t] [x,y] 2=⟨s.js.map (fX 0 0 x)++t.js.map (fX 1 s.js.length y),s.ms.map (oU 0)++t.ms.map (oU s.js.length),s.shs.map (jJ 0 x)++t.shs.map (jJ s.js.length y),s.sks.map (oo 0)++t.sks.map (oo s.js.length)⟩:=by
  simp[dG,oq]
 have Q:gJ ([s,t].map ao)=0:=Bb (by
  intro e J;simp at J;rcases J with rfl|rfl
  .exact g4 s (An hs)
  .exact g4 t (An o))
 unfold ic;rw[Y6 (by simp),Y6 (by rw[Q];simp)];rw[Zd];show ao (dG [s,t] [x,y] 2)=0;rw[hP];have S:=g.n2;have:=g.m1;have:=g.h1;have:=g.k1;have:=os.n1;refine J1 ⟨?_,?_,λi j c=>?_,?_,λm B=>?_,?_,λh u=>?_,?_,λk z=>?_⟩
 .simp only[Zq,ZB];omega
 .simp only[Zq,ZB];omega
 .simp only at c|-
  rw[List.getElem?_append]at c;simp only[ZB]at c;split at c
  .rename_i hi
   rw[Y7]at c
   cases d:s.js[i]? with
   |none=>rw[d]at c;cases c
   |some v=>
    rw[d]at c;injection c with c;subst c;obtain⟨c1,C⟩:=Nx os g (by omega) M i v d;obtain⟨D,E,F,O,P,G,H⟩:=j5.1 (os.j i v d);refine j5.2 ⟨?_,?_,F,?_,C,G,H⟩
    .rw[show(fX 0 0 x v).name=bP 0++v.name from rfl,Fe (by omega) D];simpa using c1
    .unfold mW
     rw[List.take_append_of_le_length (by simp;omega)];exact(Hi (by omega)).trans E
    .simp only[fX,kU];split<;>omega
  .rename_i hi
   rw[Y7]at c
   cases d:t.js[i-s.js.length]? with
   |none=>rw[d]at c;cases c
   |some v=>
    rw[d]at c;injection c with c;subst c;obtain⟨c1,C⟩:=Nx p g (by omega) N _ v d;obtain⟨D,E,F,O,P,G,H⟩:=j5.1 (p.j _ v d);refine j5.2 ⟨?_,?_,F,?_,C,G,H⟩
    .rw[show(fX 1 s.js.length y v).name=bP 1++v.name from rfl,Fe (by omega) D];simpa using c1
    .unfold mW
     rw[List.take_append,List.any_append,yAk];refine⟨?_,?_⟩
     .rw[yAL]
      intro q hq;have hq:=yAO hq;obtain⟨r,_,rfl⟩:=Zv.1 hq;rw[show(fX 0 0 x r).name=bP 0++r.name from rfl,show(fX 1 s.js.length y v).name=bP 1++v.name from rfl,Hf (by omega) (by omega)];simp
     .rw[ZB]
      exact(Hi (by omega)).trans E
    .simp only[fX,kU];split<;>omega
 .simp only[Zq,ZB];omega
 .simp only[Zq,ZB]
  rcases Zm.1 B with B|B<;>obtain⟨r,f,rfl⟩:=Zv.1 B
  .exact Hh (os.m r f) (by omega)
  .exact Hh (p.m r f) (by omega)
 .simp only[Zq,ZB];omega
 .simp only[Zq,ZB]
  rcases Zm.1 u with u|u<;>obtain⟨r,f,rfl⟩:=Zv.1 u
  .exact Ny os g M (by omega) r f
  .exact Ny p g N (by omega) r f
 .simp only[Zq,ZB];omega
 .simp only[Zq,ZB]
  rcases Zm.1 z with z|z<;>obtain⟨r,f,rfl⟩:=Zv.1 z
  .have:=os.k r f
   simp only[gB,up]at this|-;exact⟨yz this.1 (by omega),yz this.2 (by omega)⟩
  .have:=p.k r f
   simp only[gB,up]at this|-;exact⟨yz this.1 (by omega),yz this.2 (by omega)⟩
theorem Xp(h:ao s=0):aP s.js s.ms=0:=Decidable.byContradiction λhn=>by
 unfold ao at h;rw[Zd hn]at h;exact hn h
structure NearJ(j:J)(a:Int):Prop where
 lo:-4194304<=a
 hi:a<=4194304
 w1:1<=j.w
 w2:j.w<=1024
theorem Lu{j:J}(h:NearJ j a)(h':NearJ j b):0<=vd j a b/\vd j a b<=8589934592:=by
 obtain⟨a1,a2,w1,w2⟩:=h;obtain⟨b1,b2,_,_⟩:=h';unfold vd;rw[aa (n:=b-a) (by omega) (by omega),aa (n:=a-b) (by omega) (by omega)]
 have m0:0<=max (b-a) (a-b):=by omega
 have m1:max (b-a) (a-b)<=8388608:=by omega
 generalize max (b-a) (a-b)=z at *;have c:0<=j.w*z:=Z8 (by omega) m0;have d:j.w*z<=1024*8388608:=yBn w2 m1 m0 (by decide);rw[aa (n:=j.w*z) (by omega) (by omega)];omega
theorem EX{js:List J}{p q:List Int}(hp:∀(i:Nat) j a,js[i]?=some j->p[i]?=some a->NearJ j a)(hq:∀(i:Nat) j a,js[i]?=some j->q[i]?=some a->NearJ j a):∀i,i<=10->0<=jx js p q i/\jx js p q i<=8589934592*i
 |0,_=>by simp[jx]
 |i+1,hi=>by
  have ih:=EX hp hq i (by omega);rw[jx];split
  .rename_i j a b c d e
   have:=Lu (hp i j a c d) (hq i j b c e);rw[aa (by omega) (by omega)];omega
  .omega
theorem zm(o:ScOk s){x:List Int}(h:aY s.js s.ms x=true):∀(i:Nat) j a,s.js[i]?=some j->x[i]?=some a->NearJ j a:=by
 intro i j a e f;simp only[aY,up,Is]at h;obtain⟨hi,d⟩:=th.1 e;obtain⟨c,b⟩:=th.1 f;have h1:=Lm.1 h.2 i hi c;rw[d,b]at h1;simp only[oS,up,Is]at h1;obtain⟨_,_,_,_,_,h6,h7⟩:=j5.1 (o.j i j e);have g:=tK j.kind;simp only[up,aT,Is]at h7;exact⟨by omega,by omega,by omega,by omega⟩
theorem On(o:ScOk s){x y:List Int}(a:aY s.js s.ms x=true)(b:aY s.js s.ms y=true):0<=ew s.js s.ms x y/\ew s.js s.ms x y<=1099511627776:=by
 unfold ew;split
 .have:=EX (zm o a) (zm o b) s.js.length o.n2
  have:=o.n2;omega
 .omega
theorem j0{ms:List Ms}{P:List (List Int)}{es:List aB}(h:lq js ms P es=true):P.length<=1024/\es.length<=8192/\uD js ms P=true/\jq P.length es=true/\∀e∈es,fy js ms P e=true:=by
 unfold lq at h;simp only[up,Is]at h;obtain⟨_,h1,a,b,c,h5⟩:=h;exact⟨h1,a,b,c,L4.1 h5⟩
theorem uf(c:ao s=0){P:List (List Int)}{es:List aB}(h:lq s.js s.ms P es=true):dc ⟨P.map zs,es⟩=true:=by
 obtain⟨h1,d,a,f,h5⟩:=j0 h;have o:=kV c;rw[KB,up];refine⟨L4.2 λe g=>?_,?_⟩
 .have h6:=h5 e g
  have h7:=(vP h6).1;simp only[fy,up,Is]at h6;simp only[ln,eY,up,Is]at h7
  have b:∀u:Int,0<=u->u<P.length->cO P u∈P:=λu j i=>by
   have:u.toNat<P.length:=by omega
   rw[cO,an this];exact Zs _
  have hd:=On o (lN a _ (b e.u (by omega) (by omega))) (lN a _ (b e.v (by omega) (by omega)));rw[<-h6.2.2.1]at hd;simp only[yT,up,Is];exact hd
 .unfold sH
  simp only[ZB,f,ZH h1,ZH d,yAo]
theorem Lv{β:Type}{f:α->β->Bool}{a b:List α}{c d:List β}(h:a.length=c.length):jI f (a++b) (c++d)=(jI f a c&&jI f b d):=by
 unfold jI;rw[List.zipWith_append h,List.all_append]
theorem B0{k n:Nat}{x:Vc}:∀{js:List J}{p:List Int},jI oS (js.map (fX k n x)) p=jI oS js p
 |[],_=>rfl
 |j::js,[]=>rfl
 |j::js,a::p=>by
  have ih:=B0 (k:=k) (n:=n) (x:=x) (js:=js) (p:=p);unfold jI at ih|-;simp only[yAf,List.zipWith_cons_cons,List.all_cons,ih];rfl
theorem EY(h:ic [s,t] [x,y]=0):ao (iy [s,t] [x,y])=0/\(iy [s,t] [x,y]).js=s.js.map (fX 0 0 x)++t.js.map (fX 1 s.js.length y):=by
 have h5:=(Bc h).2.2.2.2;unfold iy;rw[Zd h];refine⟨h5,?_⟩;simp[dG,oq]
theorem Db(h:ic [s,t] [x,y]=0)(hp:aY s.js s.ms p=true)(hq:aY t.js t.ms q=true):aY (iy [s,t] [x,y]).js (iy [s,t] [x,y]).ms (p++q)=true:=by
 obtain⟨h1,a⟩:=EY h;have b:=Xp h1;simp only[aY,up,Is]at hp hq|-;refine⟨⟨b,?_⟩,?_⟩
 .rw[a];simp only[Zq,ZB];omega
 .rw[a,Lv (by rw[ZB];exact hp.1.2),B0,B0,hp.2,hq.2];rfl
abbrev rZ(k n:Nat)(b:Vc):PV:=.val (.agg #[.string (bP k),.int .i64 n,.int .i64 b.1,.int .i64 b.2.1,.int .i64 b.2.2])
theorem Ff(k n:Nat)(b:Vc)(l:Int)(a:i64.wrap (l+n)=l+n):aF 104 (rZ k n b) (Z l) (Z (kU n l)):=by
 by_cases h:l=-1
 .rw[show kU n l=l from Zd h]
  refine Dp func104 λC hP hN=>?_;exact Gy
 .rw[show kU n l=l+n from Y6 h]
  have h':(l==-1)=false:=by simp[h]
  refine Dp func104 λC hP hN=>?_;exact Gy
theorem Nz(n:Nat)(l:Int)(a:i64.wrap (l+n)=l+n):aF 40 (Z l) (Z (n:Int)) (Z (kU n l)):=by
 by_cases h:l=-1
 .rw[show kU n l=l from Zd h]
  refine Dp func40 λC hP hN=>?_;exact Gy
 .rw[show kU n l=l+n from Y6 h]
  have h':(l==-1)=false:=by simp[h]
  refine Dp func40 λC hP hN=>?_;exact Gy
theorem Se(h:i<=3):i=0\/i=1\/i=2\/i=3:=by omega
theorem Qr(k n:Nat)(b v:Vc)(l:Int):gu 103 (rZ k n b) (al v) (Z l) (al (if l=-1 then qd b v else v)):=by
 by_cases h:l=-1
 .rw[Zd h]
  refine Dp func103 λC hP hN=>?_;refine Gz ?_;refine WP.loopN [] 3 (λi st=>st.t 4=.ptr 4 0/\st.h 4=some (.box [.pv (Z (if 0<i then wr (v.1+b.1)else v.1)),.pv (Z (if 1<i then wr (v.2.1+b.2.1)else v.2.1)),.pv (Z (if 2<i then wr (v.2.2+b.2.2)else v.2.2))] true false)/\st.t 6=.ptr 6 0/\st.h 6=some (.box [.pv (Z 0),.pv (Z 0),.pv (Z 0)] true false)/\st.t 12=.pv (al b)/\st.t 13=.pv (Z i)) (by simp) ?_;rintro i st hi ⟨g4,b4,d,b6,a,c⟩;rcases Se hi with rfl|rfl|rfl|rfl
  all_goals
   simp only[show¬0<0 by decide,show 0<1 by decide,show¬1<1 by decide,show¬1<0 by decide,show¬2<0 by decide,show¬2<1 by decide,show¬2<2 by decide,show 0<2 by decide,show 1<2 by decide,show 0<3 by decide,show 1<3 by decide,show 2<3 by decide,Zp,Zk]at b4;exact GS (zAc g4 b4 d b6 a c @qd.eq_1 @Sr @Su @Sv)
 .rw[Y6 h]
  have h':(l==-1)=false:=by simp[h]
  refine Dp func103 λC hP hN=>?_;exact Gy
def sq(xs:List PV)(f:α->PV)(l:List α)(i:Nat):List PV:=xs++(l.take i).map f
section
variable {α:Type} {xs:List PV} {f:α->PV} {l:List α}
theorem lD:sq xs f l 0=xs:=by simp[sq]
theorem ou(h:i<=l.length):(sq xs f l i).length=xs.length+i:=by simp[sq];omega
theorem lE{a:α}(h:l[i]?=some a):sq xs f l (i+1)=sq xs f l i++[f a]:=by
 obtain⟨hi,b⟩:=th.1 h;simp[sq,ZR hi,b]
theorem ov:sq xs f l l.length=xs++l.map f:=by simp[sq]
end
theorem Tk(h:Sh)(l:Int)(b:Vc)(hp:h.pts.length<=1000):gu 41 (aZ h) (Z l) (al b) (aZ ⟨l,h.rad,h.pts.map (qd b)⟩):=by
 have hL:=λ(i:Nat)(hi:i<=h.pts.length)=>ou (xs:=[]) (f:=λv=>al (qd b v)) hi;have hS:=λ(i:Nat)(a:Vc)(B:h.pts[i]?=some a)=>lE (xs:=[]) (f:=λv=>al (qd b v)) B
 have q:sq [] (λv=>al (qd b v)) h.pts h.pts.length=(h.pts.map (qd b)).map al:=by rw[ov];simp
 have A:sq [] (λv=>al (qd b v)) h.pts 0=[]:=lD;show gu _ _ _ _ (.agg [Z l,Z h.rad,.sl ((h.pts.map (qd b)).map al)]);rw[<-q];generalize sq [] (λv=>al (qd b v)) h.pts=S at *;obtain⟨D,g,d⟩:=h;simp only[yAW,Z7]at hp hL hS q;refine Dp func41 λC hP hN=>?_
 with_reducible iterate 4 any_goals (first|refine Sp.h ?_|((first|refine Ss.h ?_|(refine Sb.h ?_ ?_ ?_<;>(try intro hgd)<;>try exact Xy))<;>simp -implicitDefEqProofs (maxSteps:=2000000) [hP,hN])|refine X2 ?_ ?_|(refine Xd ?_ ?_<;>intro hcd<;>try exact Xx))
 refine WP.nilRowsE (λk=>decide (k=45)) (λ_=>(60,3)) 7 (cs:=[.pv (Z l),.pv (Z g),.pv (.val (.slice none 0 0))]) (cs':=[.pv (Z l),.pv (Z g),.arr 45 0]) (own:=true) (fb:=false) (by simp) ?_ rfl ?_ ?_
 .intro k o
  have o:=of_decide_eq_true o;subst o;simp
 .intro i x e
  rcases i with _|_|_|i<;>simp at e<;>subst e<;>simp
 refine Gz ?_;refine WP.loopN [9] d.length (λi st=>st.t 3=.ptr 3 0/\st.h 3=some (.box [.pv (Z D),.pv (Z g),.pv (aw d)] true false)/\st.t 5=.ptr 5 0/\st.h 5=some (.box [.pv (Z b.1),.pv (Z b.2.1),.pv (Z b.2.2)] true false)/\st.t 6=.ptr 6 0/\st.h 6=some (.box [.pv (Z 0),.pv (Z 0),.pv (.val (.slice none 0 0))] true false)/\st.t 7=.ptr 7 0/\st.h 7=some (.box [.pv (Z l),.pv (Z g),.arr 45 i] true false)/\st.h 45=some (.row 60 3 (S i) 0)/\st.t 8=.pv (Z i)/\st.h 9=none) (by simp[A]) ?_;rintro i st hi ⟨g3,b3,g5,b5,u,b6,y,r,j,z,s⟩;have m:=hL i hi;by_cases c:i<d.length
 .have E:=ab c (by omega)
  have e:d[i]?=some d[i]:=an c;generalize p:d[i]=v at *;have h1:=hS i v e
  have F:(i+1)*24<=140737488355328:=by omega
  have G:i+1<=9223372036854775807:=by omega
  exact GS (zAe g3 b3 g5 b5 u b6 y r j z s m c E (so e p F G h1 @qd.eq_1))
 .have n:i=d.length:=by omega
  subst n;exact Gy
def we(ls:List (List Int))(i:Nat):List Int:=(ls.take i).flatten
theorem Fg{ls:List (List Int)}{x:List Int}(h:ls[i]?=some x):we ls (i+1)=we ls i++x:=by
 obtain⟨hi,a⟩:=th.1 h;simp[we,ZR hi,a]
theorem J3(ls:List (List Int))(i:Nat):(we ls i).length<=ls.flatten.length:=by
 have:ls.flatten=we ls i++(ls.drop i).flatten:=by rw[we,<-List.flatten_append,Z5]
 rw[this,Zq];omega
theorem Hk(ls:List (List Int)):we ls ls.length=ls.flatten:=by rw[we,yAS]
theorem UB(ls:List (List Int))(hn:ls.length<=1000000)(m:ls.flatten.length<=1000000):aR 118 (.sl (ls.map zs)) (zs ls.flatten):=by
 have hS:=λ(i:Nat)(x:List Int)(h:ls[i]?=some x)=>Fg h;have hL:=J3 ls;have j:=Hk ls;have f:we ls 0=[]:=rfl;rw[<-j];generalize we ls=S at *;refine Dp func118 λC hP hN=>?_;refine ki [3] trivial ?_;refine WP.loopN [] ls.length (λi st=>st.t 6=.pv (.sl (ls.map zs))/\st.t 7=.pv (Z ls.length)/\st.t 8=.pv (Z i)/\st.t 3=.arr 3 (S i).length/\st.h 3=some (.row 2 1 ((S i).map Z) 0)) (by simp[f]) ?_;rintro i st hi ⟨c,d,e,g3,b3⟩;by_cases a:i<ls.length
 .have n:=ab a (by omega)
  have k:ls[i]?=some ls[i]:=an a;generalize l:ls[i]=x at *;have h1:=hS i x k;have g:=hL (i+1);rw[h1,Zq]at g
  have o:((S i).length+x.length)*8<=140737488355328:=by omega
  have p:(S i).length+x.length<=9223372036854775807:=by omega
  exact Gy
 .have b:i=ls.length:=by omega
  refine GT (so c d e g3 b3 a) ?_
  all_goals (subst b;simp)
theorem Tl(ls:List (List Int))(hn:ls.length<=1000000)(j:ls.flatten.length<=1000000):aR 16 (.sl (ls.map zs)) (zs ls.flatten):=by
 have hS:=λ(i:Nat)(x:List Int)(h:ls[i]?=some x)=>Fg h;have hL:=J3 ls;have e:=Hk ls;have c:we ls 0=[]:=rfl;rw[<-e];generalize we ls=S at *;refine Dp func16 λC hP hN=>?_;refine ki [3] trivial ?_;refine WP.loopN [] ls.length (λi st=>st.t 0=.pv (.sl (ls.map zs))/\st.t 4=.pv (Z i)/\st.t 3=.arr 3 (S i).length/\st.h 3=some (.row 2 1 ((S i).map Z) 0)) (by simp[c]) ?_;rintro i st hi ⟨g0,g4,g3,b3⟩;by_cases a:i<ls.length
 .have k:=ab a (by omega)
  have f:ls[i]?=some ls[i]:=an a;generalize g:ls[i]=x at *;have h1:=hS i x f;have d:=hL (i+1);rw[h1,Zq]at d
  have l:((S i).length+x.length)*8<=140737488355328:=by omega
  have m:(S i).length+x.length<=9223372036854775807:=by omega
  exact Gy
 .have b:i=ls.length:=by omega
  refine GT (it g0 g4 g3 b3 a) ?_
  all_goals (subst b;simp)
theorem Tm(ls:List (List Int))(hn:ls.length<=1000000)(a:ls.flatten.length<=1000000):aR 69 (.sl (ls.map zs)) (zs ls.flatten):=by
 refine Dp func69 λC hP hN=>?_;have b:=UB ls hn a;exact GS trivial
 all_goals (first|(simp_all;done)|((try simp_all)<;>(try omega)<;>grind))
def ol(s:Sce)(p q:List Int)(D:Int):Nat->Pc->List Pc->List Pc×Option EdR
 |0,_,out=>(out,some jj)
 |f+1,x,out=>if 4096<=out.length then(out,some ⟨0,[],x.1,x.2.1,⟨0,[],[]⟩⟩)else
  if(cK s (de p q x) x.2.2).kind=1 then(out++[(x.1,x.2.1,(cK s (de p q x) x.2.2).ns)],none)else
  if(cK s (de p q x) x.2.2).kind=2 then(out,some ⟨2,[],x.1,x.2.1,(cK s (de p q x) x.2.2).w⟩)else
  if x.1<D then match ol s p q D f (x.1+1,2*x.2.1,(cK s (de p q x) x.2.2).ns) out with
   |(o,none)=>ol s p q D f (x.1+1,2*x.2.1+1,(cK s (de p q x) x.2.2).ns) o
   |r=>r
  else(out,some ⟨0,[],x.1,x.2.1,⟨0,[],[]⟩⟩)
theorem B9{s:Sce}{p q:List Int}{D:Int}:∀(f:Nat)(x:Pc)(out:List Pc),out.length<=4096->(ol s p q D f x out).1.length<=4096
 |0,_,_,h=>h
 |f+1,x,out,h=>by
  unfold ol
  split;·exact h
  rename_i h1
  split;·simp only[Zq,Z6];omega
  split;·exact h
  split
  case isFalse=>exact h
  have a:=B9 (s:=s) (p:=p) (q:=q) (D:=D) f (x.1+1,2*x.2.1,(cK s (de p q x) x.2.2).ns) out h;split
  .rename_i o e
   rw[e]at a;exact B9 f _ o a
  .exact a
theorem Ca{s:Sce}{p q:List Int}{D:Int}:∀(f:Nat)(x:Pc)(out:List Pc)(r:EdR),(ol s p q D f x out).2=some r->r.pcs=[]/\(r.kind≠2->r.w.a=[]/\r.w.b=[])
 |0,_,_,r,h=>by
  injection h with h;subst h;exact⟨rfl,λ_=>⟨rfl,rfl⟩⟩
 |f+1,x,out,r,h=>by
  unfold ol at h;split at h
  .injection h with h;subst h;exact⟨rfl,λ_=>⟨rfl,rfl⟩⟩
  split at h
  .cases h
  split at h
  .injection h with h;subst h;exact⟨rfl,λc=>absurd rfl c⟩
  split at h
  case isFalse=>injection h with h;subst h;exact⟨rfl,λ_=>⟨rfl,rfl⟩⟩
  split at h
  all_goals exact Ca f _ _ r h
theorem oR.half{D:Nat}{x:Pc}(h:oR D x)(hd:x.1<D){ns:List Vc}(hn:ns.length<=576):oR D (x.1+1,2*x.2.1,ns)/\oR D (x.1+1,2*x.2.1+1,ns):=by
 obtain⟨a,b,c,d,_⟩:=h
 have hp:(2:Int)^(x.1+1).toNat=2*2^x.1.toNat:=by rw[show(x.1+1).toNat=x.1.toNat+1 by omega,Int.pow_succ];omega
 exact⟨⟨by simp only;omega,by simp only;omega,by simp only;omega,by simp only;omega,hn⟩,⟨by simp only;omega,by simp only;omega,by simp only;omega,by simp only;omega,hn⟩⟩
theorem Fc{s:Sce}{p q:List Int}{D:Nat}:∀(f:Nat)(x:Pc)(todo out:List Pc)(F:Nat),oR D x->D+1<=f+x.1.toNat->kE D (todo++[x])+1<=F->∃g,kE D todo+1<=g/\qo s p q D F (todo++[x]) out=(match ol s p q D f x out with
 |(o,none)=>qo s p q D g todo o
 |(_,some r)=>r)
 |0,x,todo,out,F,a,hf,_=>by have:=a.2.1;omega
 |f+1,x,todo,out,F,a,hf,hF=>by
  have B:kE D (todo++[x])=kE D todo+DF D x:=by rw[BD];simp[kE]
  have hp:=Gk a;obtain⟨b,rfl⟩:∃m,F=m+1:=⟨F-1,by omega⟩
  have d:qo s p q D (b+1) (todo++[x]) out=if 4096<=out.length then⟨0,[],x.1,x.2.1,⟨0,[],[]⟩⟩else
   if(cK s (de p q x) x.2.2).kind=1 then qo s p q D b todo (out++[(x.1,x.2.1,(cK s (de p q x) x.2.2).ns)])else
   if(cK s (de p q x) x.2.2).kind=2 then⟨2,[],x.1,x.2.1,(cK s (de p q x) x.2.2).w⟩else
   if x.1=D then⟨0,[],x.1,x.2.1,⟨0,[],[]⟩⟩else
   qo s p q D b (todo++[(x.1+1,2*x.2.1+1,(cK s (de p q x) x.2.2).ns),(x.1+1,2*x.2.1,(cK s (de p q x) x.2.2).ns)]) out:=by
   simp only[qo,List.getLast?_append,List.getLast?_singleton,Option.some_or,List.dropLast_concat]
  rw[d,ol];by_cases c1:4096<=out.length
  .exact⟨_,Zf _,by simp only[Zd c1]⟩
  simp only[Y6 c1];by_cases i:(cK s (de p q x) x.2.2).kind=1
  .exact⟨b,by omega,by simp only[Zd i]⟩
  simp only[Y6 i];by_cases j:(cK s (de p q x) x.2.2).kind=2
  .exact⟨_,Zf _,by simp only[Zd j]⟩
  simp only[Y6 j];by_cases k:x.1=D
  .exact⟨_,Zf _,by simp only[Zd k,Y6 (show¬x.1<(D:Int) by omega)]⟩
  have c:x.1<(D:Int):=by have:=a.2.1;omega
  simp only[Y6 k,Zd c];have u:(cK s (de p q x) x.2.2).ns.length<=576:=(zV s (de p q x) x.2.2).1;have A:=a.1;generalize v:(cK s (de p q x) x.2.2).ns=ns at *;obtain⟨y,z⟩:=a.half c u;have l:=Gl (todo:=todo++[x]) (x:=x) (by simp) a (by omega) (2*x.2.1+1) (2*x.2.1) ns ns;rw[List.dropLast_concat]at l
  have e:todo++[(x.1+1,2*x.2.1+1,ns),(x.1+1,2*x.2.1,ns)]=(todo++[(x.1+1,2*x.2.1+1,ns)])++[(x.1+1,2*x.2.1,ns)]:=by simp
  rw[e]at l|-;obtain⟨n,g1,g2⟩:=Fc (s:=s) (p:=p) (q:=q) f (x.1+1,2*x.2.1,ns) (todo++[(x.1+1,2*x.2.1+1,ns)]) out b y (by simp only;omega) (by omega);rw[g2];rcases ol s p q D f (x.1+1,2*x.2.1,ns) out with⟨o,_|r⟩
  .exact Fc f (x.1+1,2*x.2.1+1,ns) todo o n z (by simp only;omega) g1
  .exact⟨_,Zf _,rfl⟩
def Qn(s:Sce)(p q:List Int)(D:Nat):EdR:=match ol s p q D (D+1) (0,0,[]) []with
 |(o,none)=>⟨1,o,0,0,⟨0,[],[]⟩⟩
 |(_,some r)=>r
theorem Qo{D:Nat}(h:Je s p q=true)(c:D<=20):Qn s p q D=oW s p q D:=by
 have d:oR D (0,0,[]):=⟨by simp,by simp,by simp,by simp,by simp⟩
 obtain⟨a,h1,b⟩:=Fc (s:=s) (p:=p) (q:=q) (D:=D) (D+1) (0,0,[]) [] [] (2^(D+1)) d (by simp) (by
  have:1<=2^(D+1):=Nat.one_le_two_pow
  simp[kE,DF];omega)
 unfold oW Qn;rw[Zd (by simp[h,c])];rw[List.nil_append]at b;rw[b];rcases ol s p q D (D+1) (0,0,[]) []with⟨o,_|r⟩
 .obtain⟨e,rfl⟩:∃m,a=m+1:=⟨a-1,by omega⟩
  rfl
 .rfl
variable {pk:Nat->Bool}
def dW(pk:Nat->Bool)(h:Hp):Hp:=λk=>if inK k=true then(if pk k=true then(h k).map (ij false)else h k)else none
def iN(pk:Nat->Bool)(k:Nat):Bool:=!inK k||pk k
def eD(pk:Nat->Bool)(x:AV):AV:=if eJ (iN pk) x=true then x else .undef
def ng(pk:Nat->Bool):Blk->Blk
 |.box a o f=>.box (a.map (eD pk)) o f
 |b=>b
def ed(pk:Nat->Bool)(h h':Hp):Hp:=λk=>if inK k=true then(if pk k=true then(h' k).map (ij (gv h k))else h' k)else(h k).map (ng pk)
theorem jG{b:Blk}{l:Loc}:((ng pk) b).live l↔b.live l:=by cases b<;>exact yAn
theorem GC{b:Blk}{q:Nat}:((ng pk) b).frz q↔b.frz q:=by cases b<;>exact yAn
theorem gH{b:Blk}(e:(dW pk) h k=some b):inK k=true/\∃b0,h k=some b0/\(pk k=true->b=ij false b0)/\(¬pk k=true->b=b0):=by
 unfold dW at e;split at e
 .rename_i hi
  split at e
  .rename_i h1
   simp only[II]at e;obtain⟨b0,a,rfl⟩:=e;exact⟨hi,b0,a,λ_=>rfl,λc=>absurd h1 c⟩
  .rename_i h1;exact⟨hi,b,e,λa=>absurd a h1,λ_=>rfl⟩
 .cases e
theorem u9{b:Blk}(hi:inK k=true)(a:h k=some b):(dW pk) h k=some (if pk k=true then ij false b else b):=by
 unfold dW;rw[Zd hi];split
 .rw[a];rfl
 .exact a
theorem CY{h':Hp}{b:Blk}(hi:inK k=true)(a:h' k=some b):(ed pk) h h' k=some (if pk k=true then ij (gv h k) b else b):=by
 unfold ed;rw[Zd hi];split
 .rw[a];rfl
 .exact a
theorem mg{h':Hp}{b:Blk}(e:(ed pk) h h' k=some b):(inK k=true/\∃b0,h' k=some b0/\b=if pk k=true then ij (gv h k) b0 else b0)\/(inK k=false/\∃b0,h k=some b0/\b=(ng pk) b0):=by
 unfold ed at e;split at e
 .rename_i hi
  split at e
  .rename_i h1
   simp only[II]at e;obtain⟨b0,a,rfl⟩:=e;exact .inl ⟨hi,b0,a,by rw[Zd h1]⟩
  .rename_i h1;exact .inl ⟨hi,b,e,by rw[Y6 h1]⟩
 .rename_i hi
  simp only[II]at e;obtain⟨b0,a,rfl⟩:=e;exact .inr ⟨by simpa using hi,b0,a,rfl⟩
structure InOkP(pk:Nat->Bool)(h:Hp):Prop where
 nf:∀k blk o,inK k=true->h k=some blk->¬blk.frz o
 nm:∀k blk,inK k=true->h k=some blk->zC blk=true
 cl:∀k cs o f,inK k=true->h k=some (.box cs o f)->∀x∈cs,mZ x=true
 pin:∀k cs f,inK k=true->h k=some (.box cs false f)->pk k=true
 bx:∀k blk,pk k=true->h k=some blk->∃cs o f,blk=.box cs o f
section
variable {C:Cx} {L L':Nat->Loc} {h h':Hp} {w w':World}
theorem zi(m:MemL C L h w)(hi:(InOkP pk) h){b:Nat}(n:dY ((dW pk) h) L b):(C.w0.heap.size<=b\/(C.S b/\∀o,¬C.M0 b o))/\iJ h L b:=by
 obtain⟨k,g,l,d,c,rfl⟩:=n;obtain⟨h1,b0,a,i,j⟩:=gH l;by_cases e:pk k=true
 .have:=i e
  subst this;obtain⟨p,o,f,rfl⟩:=hi.bx k b0 e a;cases d
 .have:=j e
  subst this;exact⟨l9 (pS h1) (m.own k _ a) d (hi.nm k _ h1 a) c,k,_,a,c,rfl⟩
theorem MemL.takeStepP(M:MemL C L h w)(hi:(InOkP pk) h)(hx:Ext (iJ ((dW pk) h) L) w w')(a7:LookH h')
 (ht:TrIn w' (λb o=>ae C L h b o/\¬dY ((dW pk) h) L b) L' h')
 (W:∀k D f,(dW pk) h k=some (.box D false f)->∃Y,h' k=some (.box Y false false)/\(L' k).b=(L k).b)
 (ak:∀k D f,h' k=some (.box D false f)->∃l f0,(dW pk) h k=some (.box l false f0))
 (hn:∀k a,h' k=some a->fS a=true->a.live (L' k)->w.heap.size<=(L' k).b\/dY ((dW pk) h) L (L' k).b):
 ∃B:Nat->Loc,(∀k,inK k=true->B k=L' k)/\MemL C B ((ed pk) h h') w'/\(∀{x:AV}{u:Value},RepA w (ae C L h) L h x u->RepA w' (ae C B ((ed pk) h h')) B ((ed pk) h h') ((eD pk) x) u)/\
  (∀{x:AV}{u:Value},mZ x=true->RepA w' (tT (λb o=>ae C L h b o/\¬dY ((dW pk) h) L b) L' h') L' h' x u->RepA w' (ae C B ((ed pk) h h')) B ((ed pk) h h') x u):=by
 let B:Nat->Loc:=λk=>if inK k=true then L' k else L k
 have r:∀k,inK k=true->B k=L' k:=λk y=>Zd y
 have G:∀k,inK k=false->B k=L k:=λk y=>by simp[B,y]
 have b9:=M.ext.size
 have R:∀b,iJ ((dW pk) h) L b->∃k a,inK k=true/\h k=some a/\a.live (L k)/\b=(L k).b:=by
  rintro b ⟨k,a,y,g,rfl⟩;obtain⟨h1,b0,I,J,O⟩:=gH y;refine⟨k,b0,h1,I,?_,rfl⟩;by_cases e:pk k=true
  .rw[J e]at g;exact dv.1 g
  .rw[O e]at g;exact g
 have T:∀b,iJ ((dW pk) h) L b->∀o,ae C L h b o:=by
  intro b F o;obtain⟨k,a,h1,I,J,rfl⟩:=R b F;exact .inr ⟨k,a,I,J,rfl,hi.nf k a o h1 I⟩
 have ar:∀b,dY ((dW pk) h) L b->iJ ((dW pk) h) L b:=by
  rintro b ⟨k,a,h1,_,J,O⟩;exact⟨k,a,h1,J,O⟩
 have a6:∀b o,ae C B ((ed pk) h h') b o->tT (λb o=>ae C L h b o/\¬dY ((dW pk) h) L b) L' h' b o:=by
  rintro b o (E|⟨k,a,y,g,F,hf⟩)
  .refine .inl ⟨.inl E,λh8=>?_⟩
   rcases(zi M hi h8).1 with h7|h7
   .have:=M.m0 _ _ E;omega
   .exact h7.2 o E
  .rcases mg y with⟨m,b0,h1,rfl⟩|⟨m,b0,h1,rfl⟩
   .rw[r k m]at g F
    refine .inr ⟨k,b0,h1,?_,F,?_⟩
    .split at g
     .exact dv.1 g
     .exact g
    .split at hf
     .exact λh8=>hf (sL.2 h8)
     .exact hf
   .rw[G k m]at g F
    refine .inl ⟨.inr ⟨k,b0,h1,jG.1 g,F,λh8=>hf (GC.2 h8)⟩,λh8=>?_⟩;obtain⟨A,d,I,J,O,h5⟩:=R b (ar b h8);refine M.sep k A b0 d (λe=>?_) h1 J (jG.1 g) O (by rw[F,<-h5]);rw[e,I]at m;cases m
 have ah:=Pres.sub (w:=w') a6
 have X:Pres w (ae C L h) w' (ae C B ((ed pk) h h')):=by
  have b3:∀b o,¬ae C L h b o->¬iJ ((dW pk) h) L b:=λb o E h8=>E (T b h8 o)
  have P:∀b o,b<w.heap.size->ae C B ((ed pk) h h') b o->ae C L h b o:=by
   intro b o K E;rcases a6 b o E with h8|⟨k,a,y,g,F,hf⟩
   .exact h8.1
   .cases z:fS a with
    |true=>
     rcases hn k a y z g with h7|h7
     .omega
     .rw[F]at h7;exact T b (ar b h7) o
    |false=>
     cases a with
     |row=>cases z
     |mp=>cases z
     |box D o9 f9=>
      cases o9 with
      |true=>cases z
      |false=>
       obtain⟨l,f0,h7⟩:=ak k D f9 y;obtain⟨_,_,h6⟩:=W k l f0 h7;exact T b ⟨k,_,h7,trivial,by rw[<-F,h6]⟩ o
  refine⟨λb o v hc U=>?_,λb arr c hc U=>?_⟩
  .have K:=xX hc
   exact⟨(hx.cell K (b3 b o U)).trans hc,λE=>U (P b o K E)⟩
  .have K:=ri hc
   exact⟨(hx.block b K (b3 b 0 U)).trans hc,λE=>U (P b 0 K E)⟩
 have aj:∀k a,(iN pk) k=true->h k=some a->∃d,(ed pk) h h' k=some d/\dh a (L k) d (B k):=by
  intro k a y h1
  cases s:inK k with
  |false=>
   refine⟨(ng pk) a,by simp only[ed,s,Y9,Zk,h1,ZS],?_⟩;rw[G k s]
   cases a with
   |box=>exact rfl
   |row=>exact⟨rfl,rfl,Zf _,λ_=>rfl⟩
   |mp=>exact⟨rfl,rfl,rfl⟩
  |true=>
   have e:pk k=true:=by simpa[iN,s]using y
   obtain⟨D,o,f,rfl⟩:=hi.bx k a e h1
   have I:(dW pk) h k=some (.box D false f):=by rw[u9 s h1,Zd e];rfl
   obtain⟨Y,J,O⟩:=W k D f I;refine⟨_,CY s J,?_⟩;rw[Zd e,r k s];exact O
 have ad:∀k a,inK k=true->h' k=some a->∃d,(ed pk) h h' k=some d/\dh a (L' k) d (B k):=by
  intro k a s h1;refine⟨_,CY s h1,?_⟩;rw[r k s];split
  .exact nD (bv _ _)
  .exact bv _ _
 have Q:∀{x:AV}{u:Value},RepA w (ae C L h) L h x u->RepA w' (ae C B ((ed pk) h h')) B ((ed pk) h h') ((eD pk) x) u:=by
  intro x u hr;unfold eD;split
  .rename_i V;exact m7 X aj V hr
  .exact .undef _
 refine⟨B,r,⟨?_,M.m0,?_,?_,?_⟩,Q,λV hr=>m7 ah ad V hr⟩
 .refine M.ext.trans hx (λb K E=>?_)
  obtain⟨k,a,h1,I,J,rfl⟩:=R b E;have V:=M.own k _ I
  cases z:fS a with
  |true=>
   rcases l9 (pS h1) V z (hi.nm k _ h1 I) J with h7|h7
   .omega
   .exact h7.1
  |false=>
   cases a with
   |row=>cases z
   |mp=>cases z
   |box D o9 f9=>
    cases o9 with
    |true=>cases z
    |false=>exact V.2.2.1
 .intro k a y
  rcases mg y with⟨m,b0,h1,rfl⟩|⟨m,b0,h1,rfl⟩
  .rw[r k m]
   have F:=(ht.bl k b0 h1).inK ah ad (λD o f e=>a7.cl k D o f (by rw[h1,e])) (λ_=>rfl);split
   .cases b0<;>exact F
   .exact F
  .rw[G k m]
   have F:=M.bl k b0 h1
   have he:b0.live (L k)->w'.heap[(L k).b]?=w.heap[(L k).b]?:=by
    intro g;refine hx.block _ (F.lt g) (λE=>?_);obtain⟨A,d,I,J,O,h5⟩:=R _ E;exact M.sep k A b0 d (λe=>by rw[e,I]at m;cases m) h1 J g O h5
   cases b0 with
   |box D own fz=>
    obtain⟨arr,ty,e,g,hr⟩:=F;refine⟨arr,ty,(he trivial).trans e,by simpa using g,λi p u hp z=>?_⟩;simp only[Y7,II]at hp;obtain⟨q,hq,rfl⟩:=hp;exact Q (hr i q u hq z)
   |row et sz xs fz=>
    obtain⟨g1,g2,g3,g4,g5⟩:=F;refine⟨g1,g2,g3,g4,λZ=>?_⟩;obtain⟨h6,b4,arr,e,h7,h8⟩:=g5 Z;refine⟨h6,b4,arr,(he Z).trans e,h7,λi x j p b7 hj=>?_⟩;obtain⟨u,z,hr⟩:=h8 i x j p b7 hj;exact⟨u,z,hr.mono X⟩
   |mp kd n es fz=>
    obtain⟨arr,c,e,g1⟩:=F;exact⟨arr,c,(he trivial).trans e,g1⟩
 .
  have new:∀k a,inK k=true->h' k=some a->a.live (L' k)->w.heap.size<=(L' k).b\/iJ ((dW pk) h) L (L' k).b:=by
   intro k a s y g
   cases z:fS a with
   |true=>exact(hn k a y z g).imp id (ar _)
   |false=>
    cases a with
    |row=>cases z
    |mp=>cases z
    |box D o9 f9=>
     cases o9 with
     |true=>cases z
     |false=>
      obtain⟨l,f0,h7⟩:=ak k D f9 y;obtain⟨_,_,h6⟩:=W k l f0 h7;exact .inr ⟨k,_,h7,trivial,h6⟩
  have apart:∀k a A d,inK k=true->inK A=false->h' k=some a->h A=some d->a.live (L' k)->d.live (L A)->(L' k).b≠(L A).b:=by
   intro k a A d h1 I J O h5 h6 e;rcases new k a h1 J h5 with h7|h7
   .have:=(M.bl A d O).lt h6;omega
   .obtain⟨q,bq,g1,g2,g3,g4⟩:=R _ h7
    exact M.sep q A bq d (λe9=>by rw[e9,I]at g1;cases g1) g2 O g3 h6 (by rw[<-g4,e])
  have lv:∀{k:Nat}{b0:Blk},(if pk k=true then ij (gv h k) b0 else b0).live (L' k)->b0.live (L' k):=by
   intro k b0 g;split at g
   .exact dv.1 g
   .exact g
  intro k A b1 b2 a8 y b5 g H;rcases mg y with⟨N,c1,d1,rfl⟩|⟨N,c1,d1,rfl⟩<;>rcases mg b5 with⟨i2,c2,d2,rfl⟩|⟨i2,c2,d2,rfl⟩
  .rw[r k N]at g|-
   rw[r A i2]at H|-;exact ht.sep k A c1 c2 a8 d1 d2 (lv g) (lv H)
  .rw[r k N]at g|-
   rw[G A i2]at H|-;exact apart k c1 A c2 N i2 d1 d2 (lv g) (jG.1 H)
  .rw[G k N]at g|-
   rw[r A i2]at H|-;exact λe=>apart A c2 k c1 i2 N d2 d1 (lv H) (jG.1 g) e.symm
  .rw[G k N]at g|-
   rw[G A i2]at H|-;exact M.sep k A c1 c2 a8 d1 d2 (jG.1 g) (jG.1 H)
 .
  intro k a y;rcases mg y with⟨N,b0,d1,rfl⟩|⟨N,b0,d1,rfl⟩
  .rw[r k N]
   have fresh:fS b0=true->b0.live (L' k)->C.w0.heap.size<=(L' k).b\/(C.S (L' k).b/\∀o,¬C.M0 (L' k).b o):=by
    intro z g;rcases hn k b0 d1 z g with h7|h7
    .exact .inl (by omega)
    .exact(zi M hi h7).1
   cases b0 with
   |mp=>exact absurd (a7.nm k _ d1) (by simp[zC])
   |row e sz xs fz=>
    have:dw C k (L' k) (.row e sz xs fz):=by
     unfold dw;simp only[C.hpr k (pS N)];exact λZ=>fresh rfl Z
    split<;>exact this
   |box D o9 f9=>
    cases o9 with
    |true=>
     have E:=fresh rfl trivial;split
     .rename_i e
      have h8:(dW pk) h k=none\/∃l f0,(dW pk) h k=some (.box l false f0):=by
       cases h7:h k with
       |none=>left;simp[dW,h7]
       |some b1=>
        right
        obtain⟨l,o0,f0,rfl⟩:=hi.bx k b1 e h7;exact⟨l,f0,by rw[u9 N h7,Zd e];rfl⟩
      rcases h8 with h8|⟨l,f0,h8⟩
      .have h7:h k=none:=by
        cases h7:h k with
        |none=>rfl
        |some b1=>rw[u9 N h7]at h8;cases h8
       have:gv h k=true:=by simp[gv,h7]
       rw[this];exact E
      .obtain⟨Y,h6,_⟩:=W k l f0 h8
       rw[d1]at h6;cases h6
     .exact E
    |false=>
     obtain⟨l,f0,h7⟩:=ak k D f9 d1;obtain⟨Y,h6,h5⟩:=W k l f0 h7;rw[d1]at h6;injection h6 with h6;injection h6 with h6a _ h6b;obtain⟨_,b1,g2,g3,g4⟩:=gH h7
     have e:pk k=true:=by
      refine Classical.byContradiction λe=>e ?_;have:=g4 e;subst this;exact hi.pin k l f0 N g2
     rw[Zd e];obtain⟨b8,o1,f1,rfl⟩:=hi.bx k b1 e g2;have V:=M.own k _ g2
     have:gv h k=o1:=by simp[gv,g2]
     rw[this];show dw C k (L' k) (.box D o1 f9)
     cases o1 with
     |true=>
      have V:C.w0.heap.size<=(L k).b\/(C.S (L k).b/\∀o,¬C.M0 (L k).b o):=V;show C.w0.heap.size<=(L' k).b\/(C.S (L' k).b/\∀o,¬C.M0 (L' k).b o);rw[h5];exact V
     |false=>
      obtain⟨a1,a2,a3,a4,a5⟩:=V;refine⟨h6b,?_,?_,?_,?_⟩
      .rw[h5];exact a2
      .rw[h5];exact a3
      .rw[h5];exact a4
      .rw[h5];exact a5
  .rw[G k N]
   have:=M.own k b0 d1
   cases b0 with
   |box D o f=>cases o<;>exact this
   |row=>exact this
   |mp=>exact this
def nV(pk:Nat->Bool)(C:Cx)(Q:St->Prop)(f:Operand)(xs:List Operand)(d:Option Nat)(st:St):Prop:=
 ∃g a Post,bC (st.ev f)=some (g,[],a)/\(InOkP pk) st.h/\mQ C.P g (xs.map st.ev++a) ((dW pk) st.h) Post/\(xs.map st.ev++a).all mZ=true/\dI C.N d=true/\
  ∀r h',LookH h'->mZ r=true->Post r h'->Q (St.put ⟨λn=>(eD pk) (st.t n),(ed pk) st.h h'⟩ d r [])
theorem qR{Q':Exit->Act->World->Prop}{c:St}{a1:Act}{w1:World}(ad:∀st a w,dM C st a w->K st->wpList C.P ops Q' post a w)(a8:o.op=.call {callee:=.value f,args:=xs.toArray,argTypes:=ats})(hg:eC ops c.t o.guard=some true)
 (b5:dM C c a1 w1)(b4:(nV pk) C K f xs o.dst c):wpList C.P ops Q' (o::post) a1 w1:=by
 obtain⟨g,S,Post,ah,hi,⟨d,hD⟩,Y,aj,hQ⟩:=b4;obtain⟨L,V,hN,ak,ht⟩:=b5;refine wpList_step (λK hK=>?_);rw[dB ht hg,Zd rfl];obtain⟨vs,us,ar,b8,b9⟩:=jC (bE ht f) ah;have ca:=b8.nil_inv;subst ca
 have cd:∀b,dY ((dW pk) c.h) L b->∀o,ae C L c.h b o:=by
  intro b Q o;obtain⟨k,j,h1,m,l,rfl⟩:=Q;obtain⟨q,b0,g1,g2,g3⟩:=gH h1;by_cases e:pk k=true
  .rw[g2 e]at l;exact .inr ⟨k,b0,g1,dv.1 l,rfl,hi.nf k b0 o q g1⟩
  .rw[g3 e]at l;exact .inr ⟨k,b0,g1,l,rfl,hi.nf k b0 o q g1⟩
 have B:tT (λb o=>ae C L c.h b o/\¬dY ((dW pk) c.h) L b) L ((dW pk) c.h)=ae C L c.h:=by
  funext b o
  refine propext ⟨?_,λG=>?_⟩
  .rintro(G|⟨k,j,h1,m,l,h4⟩)
   .exact G.1
   .obtain⟨q,b0,g1,g2,g3⟩:=gH h1
    by_cases e:pk k=true
    .rw[g2 e]at m;exact .inr ⟨k,b0,g1,dv.1 m,l,hi.nf k b0 o q g1⟩
    .rw[g3 e]at m;exact .inr ⟨k,b0,g1,m,l,hi.nf k b0 o q g1⟩
  .by_cases h8:dY ((dW pk) c.h) L b
   .obtain⟨k,j,h1,m,l,h4⟩:=h8
    refine .inr ⟨k,j,h1,l,h4.symm,?_⟩;obtain⟨q,b0,g1,g2,g3⟩:=gH h1;by_cases e:pk k=true
    .rw[g2 e];exact λh7=>hi.nf k b0 o q g1 (sL.1 h7)
    .rw[g3 e];exact hi.nf k b0 o q g1
   .exact .inl ⟨G,h8⟩
 have E:∀k j,inK k=true->c.h k=some j->∃s,(dW pk) c.h k=some s/\dh j (L k) s (L k):=by
  intro k j a6 h1;refine⟨_,u9 a6 h1,?_⟩;split
  .exact nD (bv _ _)
  .exact bv _ _
 have a7:TrIn w1 (λb o=>ae C L c.h b o/\¬dY ((dW pk) c.h) L b) L ((dW pk) c.h):=by
  refine⟨?_,?_,?_,?_⟩
  .intro k j hk
   rw[B];obtain⟨q,b0,g1,g2,g3⟩:=gH hk;have Q:=(V.bl k b0 g1).inK (Pres.refl _ _) E (λcs o f e=>hi.cl k cs o f q (by rw[g1,e])) (λ_=>rfl);by_cases e:pk k=true
   .rw[g2 e];cases b0<;>exact Q
   .rw[g3 e];exact Q
  .intro k R b1 b2 M h1 m hl A
   obtain⟨q,c1,g1,g2,g3⟩:=gH h1;obtain⟨i2,c2,e1,e2,e3⟩:=gH m;refine V.sep k R c1 c2 M g1 e1 ?_ ?_
   .by_cases e:pk k=true
    .rw[g2 e]at hl;exact dv.1 hl
    .rw[g3 e]at hl;exact hl
   .by_cases e:pk R=true
    .rw[e2 e]at A;exact dv.1 A
    .rw[e3 e]at A;exact A
  .exact λk j h1 m l o G=>G.2 ⟨k,j,h1,m,l,rfl⟩
  .intro k cs f hk o
   obtain⟨q,b0,g1,g2,g3⟩:=gH hk
   have T:b0.live (L k):=by
    by_cases e:pk k=true
    .have h8:=g2 e
     cases b0 with
     |box=>exact trivial
     |row=>cases h8
     |mp=>exact trivial
    .rw[<-g3 e];exact trivial
   refine⟨.inr ⟨k,b0,g1,T,rfl,hi.nf k b0 o q g1⟩,?_⟩;rintro⟨R,s,h1,m,l,h4⟩;obtain⟨i2,c2,e1,e2,e3⟩:=gH h1
   have M:k≠R:=by
    intro e;rw[<-e,hk]at h1;injection h1 with h1;rw[<-h1]at m;cases m
   refine V.sep k R b0 c2 M g1 e1 T ?_ h4;by_cases e:pk R=true
   .rw[e2 e]at l;exact dv.1 l
   .rw[e3 e]at l;exact l
 have O:aD w1 (tT (λb o=>ae C L c.h b o/\¬dY ((dW pk) c.h) L b) L ((dW pk) c.h)) L ((dW pk) c.h) (xs.map c.ev++S) (xs.map a1.eval++us):=by
  rw[B]
  have hx:aD w1 (ae C L c.h) L c.h (xs.map c.ev) (xs.map a1.eval):=by
   refine⟨by simp,λi p u hp hu=>?_⟩;simp only[Y7,II]at hp hu;obtain⟨x,hx,rfl⟩:=hp;obtain⟨y,hy,rfl⟩:=hu;rw[hx]at hy;injection hy with hy;subst hy;exact bE ht x
  have D:=hx.append b9;exact⟨D.1,λi p u hp hu=>m7 (Pres.refl _ _) E (L4.1 Y p (An hp)) (D.2 i p u hp hu)⟩
 have z:=hD w1 _ L (xs.map a1.eval++us) (λb o G=>V.mlt G.1) a7 O
 have Z:(execOp a1.eval o).run C.P w1=.ok (.enter g (xs.map a1.eval++us).toArray) w1:=by
  unfold bS at d
  cases I:C.P.funcs[g]? with
  |none=>rw[I]at d;cases d
  |some fn=>
   rw[I]at d;simp only[up,ZK,yAb,ne_eq]at d
   have Q:fn.body.isNone=false:=by cases cc:fn.body<;>simp_all
   unfold execOp;rw[a8];simp only[resolve,ar,Deferred.ofValue,pure_bind,Sem.run_bind,Result.andThen_ok,invoke,callFunc,program,Sem.run,I];simp[d.2,Q]
 unfold Oper.wp;rw[Z];simp only[Oper.upon];refine z.mono ?_;rintro ee w' ⟨v,r,L',h',rfl,hx,U,b7,hr,F,N,bq,b3,X⟩;obtain⟨L2,cb,W,J,H⟩:=V.takeStepP hi hx U b7 bq b3 X;refine hK _ _ ?_;exact ad _ _ _ (dM.put W hN ak (λn=>J (ht n)) aj (aH.refl W) (H F hr)) (hQ r h' U F N)
theorem WP.takeGP(d:∀st a w,dM C st a w->K st->∃b,dM C b a w/\bZ C.P hn C.N ops (Q .normal) post b)(c:ops.toList=pre++o::post)(e:o.op=.call {callee:=.value f,args:=xs.toArray,argTypes:=ats})(p:o.guard=none)
 (hq:bZ C.P hn C.N ops ((nV pk) C K f xs o.dst) pre st):WP C (.region id ops false) Q st:=by
 intro a w q;refine wp_region_list ?_;rw[c];refine fD (λr a1 w1 l i=>?_) q hq;refine qR (K:=K) (λst a w h1 n=>?_) e (by rw[p];rfl) l i;obtain⟨s,m,j⟩:=d st a w h1 n;exact fW (λb u w' k g=>⟨b,k,g⟩) m j
theorem WP.takeP2(n m:Nat){p:Oper}{f2:Operand}{q:List Operand}{e:Array TypeId}(E:ops.toList[n]?=some o)(g:ops.toList[n+1+m]?=some p)(u:o.op=.call {callee:=.value f,args:=xs.toArray,argTypes:=ats})(k:p.op=.call {callee:=.value f2,args:=q.toArray,argTypes:=e})(K:o.guard=none)
 (hq:bZ C.P hn C.N ops ((nV pk) C (bZ C.P hn C.N ops (λst=>(eC ops st.t p.guard=some true/\(nV pk) C (bZ C.P hn C.N ops (Q .normal) (ops.toList.drop (n+1+m+1))) f2 q p.dst st)\/bZ C.P hn C.N ops (Q .normal) (ops.toList.drop (n+1+m)) st) ((ops.toList.drop (n+1)).take m)) f xs o.dst) (ops.toList.take n) st):WP C (.region id ops false) Q st:=by
 intro a w L;refine wp_region_list ?_
 have G:ops.toList=ops.toList.take n++o::((ops.toList.drop (n+1)).take m++ops.toList.drop (n+1+m)):=by
  have s:=(th.1 E).1;have r:=(th.1 E).2
  have I:(ops.toList.drop (n+1)).take m++ops.toList.drop (n+1+m)=ops.toList.drop (n+1):=by
   rw[<-List.drop_drop (i:=m) (j:=n+1),Z5]
  rw[I,<-r,yAu,Z5]
 have H:ops.toList.drop (n+1+m)=p::ops.toList.drop (n+1+m+1):=by
  have s:=(th.1 g).1;have r:=(th.1 g).2;rw[<-r,yAu]
 rw[G];refine fD (λM a1 w1 A v=>?_) L hq;refine qR (λO a2 w2 B x=>?_) u (by rw[K];rfl) A v;refine fD (λR a3 T l y=>?_) B x;rcases y with⟨h1,J⟩|h1
 .rw[H]
  exact qR (λS a4 U D z=>fW (λd F w' c b=>⟨d,c,b⟩) D z) k h1 l J
 .exact fW (λd F w' c b=>⟨d,c,b⟩) l h1
theorem WP.takeP(a:ops.toList=pre++o::post)(b:o.op=.call {callee:=.value f,args:=xs.toArray,argTypes:=ats})(c:o.guard=none)
 (hq:bZ C.P hn C.N ops ((nV pk) C (bZ C.P hn C.N ops (Q .normal) post) f xs o.dst) pre st):WP C (.region id ops false) Q st:=WP.takeGP (λst _ _ e d=>⟨st,e,d⟩) a b c hq
end
attribute [simp] ng
abbrev jz(x:Pc):PV:=.agg [Z x.1,Z x.2.1,aw x.2.2]
abbrev NY(r:EdR):PV:=.agg [Z r.kind,.sl (r.pcs.map jz),Z r.d,Z r.i,.sl [],Z r.w.pair,zs r.w.a,zs r.w.b]
@[simp] theorem YS:aA prog 204=some ⟨1,(some (.nilFunc)),.one⟩:=by kernel_rfl
abbrev tg:AV:=.pv (.val (.slice none 0 0))
def mm(k:Nat):Bool:=decide (291<=k)&&decide (k<=297)
def hC:List AV:=[.ptr 291 0,.ptr 292 0,.ptr 293 0,.ptr 294 0,.ptr 295 0,.ptr 296 0,.ptr 297 0]
def tM(r:EdR):List AV:=[.pv (Z r.kind),tg,.pv (Z r.d),.pv (Z r.i),tg,.pv (Z r.w.pair),if r.kind=2 then .pv (zs r.w.a)else tg,if r.kind=2 then .pv (zs r.w.b)else tg]
def dR(own:Bool)(s:Sce)(p q:List Int)(D:Int)(out:List Pc)(r:EdR):Hp:=λk=>
 if k=291 then some (.box [.arr 298 out.length] own false)
 else if k=292 then some (.box (tM r) own false)
 else if k=293 then some (.box [.pv (zs p)] own false)
 else if k=294 then some (.box [.pv (zs q)] own false)
 else if k=295 then some (.box [.pv (.sl (s.js.map aO)),.pv (.sl (s.ms.map aX)),.pv (.sl (s.shs.map aZ)),.pv (.sl (s.sks.map aJ))] own false)
 else if k=296 then some (.box [.pv (Z D)] own false)
 else if k=297 then some (.box [.fn (.func 120) [] hC] own false)
 else if k=298 then some (.row 65 3 (out.map jz) 0)
 else none
theorem Ov(r:EdR):∀x∈tM r,mZ x=true:=by
 intro x a;simp only[tM,Zx,ZD,Z4]at a
 rcases a with rfl|rfl|rfl|rfl|rfl|rfl|rfl|rfl<;>first|rfl|(split<;>rfl)
theorem rY{own:Bool}{b:Blk}(h:dR own s p q D out r k=some b):(mm k=true/\∃c,b=.box c own false/\∀x∈c,mZ x=true)\/(k=298/\b=.row 65 3 (out.map jz) 0):=by
 unfold dR at h;split at h
 .rename_i e;subst e;injection h with h;exact .inl ⟨rfl,_,h.symm,by intro x a;simp at a;subst a;rfl⟩
 split at h
 .rename_i e;subst e;injection h with h;exact .inl ⟨rfl,_,h.symm,Ov r⟩
 split at h
 .rename_i e;subst e;injection h with h;exact .inl ⟨rfl,_,h.symm,by intro x a;simp at a;subst a;rfl⟩
 split at h
 .rename_i e;subst e;injection h with h;exact .inl ⟨rfl,_,h.symm,by intro x a;simp at a;subst a;rfl⟩
 split at h
 .rename_i e;subst e;injection h with h;exact .inl ⟨rfl,_,h.symm,by intro x a;simp at a;rcases a with rfl|rfl|rfl|rfl<;>rfl⟩
 split at h
 .rename_i e;subst e;injection h with h;exact .inl ⟨rfl,_,h.symm,by intro x a;simp at a;subst a;rfl⟩
 split at h
 .rename_i e;subst e;injection h with h;exact .inl ⟨rfl,_,h.symm,by intro x a;simp at a;subst a;rfl⟩
 split at h
 .rename_i e;subst e;injection h with h;exact .inr ⟨rfl,h.symm⟩
 .cases h
theorem JZ(h:mm k=true):inK k=true:=by
 simp only[mm,inK,up,Is]at *;omega
theorem J0{own:Bool}{b:Blk}(h:dR own s p q D out r k=some b):inK k=true:=by
 rcases rY h with⟨h1,_⟩|⟨rfl,_⟩
 .exact JZ h1
 .rfl
theorem zR(own:Bool)(s:Sce)(p q:List Int)(D:Int)(out:List Pc)(r:EdR):LookH (dR own s p q D out r):=by
 refine⟨λk b h=>J0 h,λk b o h=>?_,λk b h=>?_,λk c o f h=>?_⟩
 .rcases rY h with⟨_,c,rfl,_⟩|⟨_,rfl⟩
  .intro a;cases a
  .intro a;simp[Blk.frz]at a
 .rcases rY h with⟨_,c,rfl,_⟩|⟨_,rfl⟩<;>rfl
 .rcases rY h with⟨_,d,h1,e⟩|⟨_,h1⟩
  .injection h1 with h1;subst h1;exact e
  .cases h1
theorem He{own:Bool}:dR false s p q D out r k=if mm k=true then(dR own s p q D out r k).map (ij false)else dR own s p q D out r k:=by
 by_cases h:mm k=true
 .rw[Zd h]
  simp only[mm,up,Is]at h
  have:k=291\/k=292\/k=293\/k=294\/k=295\/k=296\/k=297:=by omega
  rcases this with rfl|rfl|rfl|rfl|rfl|rfl|rfl<;>rfl
 .rw[Y6 h]
  have:k≠291/\k≠292/\k≠293/\k≠294/\k≠295/\k≠296/\k≠297:=by
   refine⟨?_,?_,?_,?_,?_,?_,?_⟩<;>(rintro rfl;exact h rfl)
  obtain⟨a,b,c,d,e,f,g⟩:=this;simp only[dR,Y6 a,Y6 b,Y6 c,Y6 d,Y6 e,Y6 f,Y6 g]
theorem Qp{own:Bool}(c:∀k,inK k=true->h k=dR own s p q D out r k):dW mm h=dR false s p q D out r:=by
 funext k
 unfold dW;by_cases a:inK k=true
 .rw[Zd a,c k a,He (own:=own)]
 .rw[Y6 a]
  cases d:dR false s p q D out r k with
  |none=>rfl
  |some b=>exact absurd (J0 d) a
theorem Ow{own:Bool}(c:∀k,inK k=true->h k=dR own s p q D out r k)(b:inK k=true):ed mm h (dR false s p q D out' r') k=dR own s p q D out' r' k:=by
 unfold ed;rw[Zd b];by_cases a:mm k=true
 .rw[Zd a]
  have d:gv h k=gv (dR own s p q D out r) k:=by unfold gv;rw[c k b]
  rw[d];simp only[mm,up,Is]at a
  have:k=291\/k=292\/k=293\/k=294\/k=295\/k=296\/k=297:=by omega
  rcases this with rfl|rfl|rfl|rfl|rfl|rfl|rfl<;>rfl
 .rw[Y6 a,He (own:=own),Y6 a]
theorem Fd{own:Bool}{C:Cx}{Q:St->Prop}{d:Option Nat}{g:FuncId}{args:List PV}{b:Bool}(j:bC (st.ev f)=some (g,[],hC))(c:xs.map st.ev=args.map .pv)(hd:dI C.N d=true)
 (i:∀k,inK k=true->st.h k=dR own s p q D out r k)
 (u:mQ C.P g (args.map .pv++hC) (dR false s p q D out r) (λm h'=>m=.pv (B b)/\h'=dR false s p q D out' r'))
 (h:∀h',(∀k,inK k=true->h' k=dR own s p q D out' r' k)->(∀k,inK k=false->h' k=(st.h k).map (ng mm))->Q (St.put ⟨λn=>eD mm (st.t n),h'⟩ d (.pv (B b)) [])):nV mm C Q f xs d st:=by
 have hL:=zR own s p q D out r;refine⟨g,hC,_,j,⟨λk b o a e=>hL.nf k b o (by rw[<-i k a];exact e),λk b a e=>hL.nm k b (by rw[<-i k a];exact e),λk l o f a e=>hL.cl k l o f (by rw[<-i k a];exact e),λk l f a e=>?_,λk b a e=>?_⟩,by rw[c,Qp i];exact u,?_,hd,λm h' _ _ hp=>?_⟩
 .rw[i k a]at e
  rcases rY e with⟨h1,_⟩|⟨_,h1⟩
  .exact h1
  .cases h1
 .rw[i k (JZ a)]at e
  rcases rY e with⟨_,l,rfl,_⟩|⟨rfl,_⟩
  .exact⟨_,_,_,rfl⟩
  .cases a
 .rw[c,List.all_append,up]
  exact⟨by rw[L4];intro x v;obtain⟨y,_,rfl⟩:=Zv.1 v;rfl,rfl⟩
 .obtain⟨rfl,rfl⟩:=hp
  exact h _ (λk a=>Ow i a) (λk a=>by unfold ed;rw[Y6 (by rw[a];decide)])
theorem Cb{own:Bool}(h:k≠292):dR own s p q D out r k=dR own s p q D out r' k:=by
 unfold dR;rw[Y6 h,Y6 h]
theorem Ox{own:Bool}(h:k≠291)(h':k≠298):dR own s p q D out r k=dR own s p q D out' r k:=by
 unfold dR;rw[Y6 h,Y6 h,Y6 h',Y6 h']
theorem Qq{b:Bool}(d:mf P st rs=some (.pv (B b)))(a:∀k,inK k=true->st.h k=dR false s p q D out' r' k):uF P rs (dR false s p q D out r) (λe h'=>e=.pv (B b)/\h'=dR false s p q D out' r') st:=by
 refine BF d rfl a (zR _ _ _ _ _ _ _) ⟨rfl,rfl⟩ (λk g f c=>?_);rcases rY c with⟨h1,_⟩|⟨_,h1⟩
 .simp only[mm,up,Is]at h1
  have:k=291\/k=292\/k=293\/k=294\/k=295\/k=296\/k=297:=by omega
  rcases this with rfl|rfl|rfl|rfl|rfl|rfl|rfl<;>exact⟨_,rfl⟩
 .cases h1
theorem Tj(s:Sce)(p q:List Int)(D:Nat)(hs:ScL s)(Y:p.length<=16777216)(ad:q.length<=16777216)(hD:D<=20):∀(f:Nat)(x:Pc)(out:List Pc),oR D x->D+1<=f+x.1.toNat->out.length<=4096->
 mQ prog 120 (([Z x.1,Z x.2.1,aw x.2.2]:List PV).map .pv++hC) (dR false s p q D out jj) (λr9 h'=>r9=.pv (B (ol s p q D f x out).2.isNone)/\h'=dR false s p q D (ol s p q D f x out).1 ((ol s p q D f x out).2.getD jj))
 |0,x,out,hx,hf,_=>by have:=hx.2.1;omega
 |f+1,x,out,hx,hf,ho=>by
  have cp:=Uc p q x.1 x.2.1 Y ad
  have M:de p q x=(qc p q x.1 x.2.1).1:=by rw[de,ET]
  have U:=U0 s (de p q x) x.2.2 hs (by have:(de p q x).length<=p.length:=(by unfold de eT;split<;>simp;omega);omega) (by have:=hx.2.2.2.2;omega);have v:=zV s (de p q x) x.2.2;have IH:=λ(y:Pc)(o:List Pc)(h1:oR D y)(h2:D+1<=f+y.1.toNat)(h3:o.length<=4096)=>Tj s p q D hs Y ad hD f y o h1 h2 h3;rw[ol];have A:dR false s p q D out jj 291=some (.box [.arr 298 out.length] false false):=rfl;have E:dR false s p q D out jj 292=some (.box [.pv (Z 0),tg,.pv (Z 0),.pv (Z 0),tg,.pv (Z 0),tg,tg] false false):=rfl;have F:dR false s p q D out jj 293=some (.box [.pv (zs p)] false false):=rfl;have G:dR false s p q D out jj 294=some (.box [.pv (zs q)] false false):=rfl;have H:dR false s p q D out jj 295=some (.box [.pv (.sl (s.js.map aO)),.pv (.sl (s.ms.map aX)),.pv (.sl (s.shs.map aZ)),.pv (.sl (s.sks.map aJ))] false false):=rfl;have I:dR false s p q D out jj 296=some (.box [.pv (Z (D:Int))] false false):=rfl;have J:dR false s p q D out jj 297=some (.box [.fn (.func 120) [] hC] false false):=rfl;have K:dR false s p q D out jj 298=some (.row 65 3 (out.map jz) 0):=rfl;have W:dR false s p q D out jj 14=none:=rfl;have X:dR false s p q D out jj 17=none:=rfl;have j:=λ(b:Bool)(o':List Pc)(r':EdR)(rs:List ResultVar)(st:St)=>Qq (P:=prog) (rs:=rs) (st:=st) (s:=s) (p:=p) (q:=q) (D:=D) (out:=out) (out':=o') (r:=jj) (r':=r') (b:=b);have a6:∀k,dR false s p q D out jj k=dR false s p q D out jj k:=λ_=>rfl;obtain⟨m,l,xn⟩:=x;simp only at cp U M v hf;refine M9 func120 (zR _ _ _ _ _ _ _) λC hP hN=>?_;generalize n:dR false s p q D out jj=H0 at *;simp only[D3,hC,yAf,yBk,List.cons_append,List.nil_append]at *;by_cases c1:4096<=out.length
  .rw[Zd c1]
   have L:(4096:Int)<=out.length:=by omega
   refine Gz ?_;refine j false out _ _ _ (by simp) ?_;intro k i
   have a:k≠14:=by rintro rfl;cases i
   have c:k≠17:=by rintro rfl;cases i
   by_cases e:k=292
   .subst e;simp[dR,tM]
   .rw[<-Cb (r:=jj) e,n];simp[a,e]
  rw[Y6 c1]
  have L:¬(4096:Int)<=out.length:=by omega
  rw[M]at U v|-;clear M;generalize qc p q m l=R at *;obtain⟨bx,fl⟩:=R;simp only at cp U v|-;generalize cK s bx xn=V at *;obtain⟨kd,ns,⟨pr,wA,wF⟩⟩:=V;simp only at U v|-
  have q1:(out.length+1)*40<=140737488355328:=by omega
  have q2:out.length+1<=9223372036854775807:=by omega
  by_cases k1:kd=1
  .subst k1
   rw[Zd rfl];refine Gz ?_;refine j true _ _ _ _ (by simp) ?_;intro k i
   have a:k≠14:=by rintro rfl;cases i
   have c:k≠17:=by rintro rfl;cases i
   by_cases e:k=291
   .subst e;simp[dR]
   by_cases e':k=298
   .subst e';simp[dR]
   .simp only[Option.getD_none];rw[<-Ox (out:=out) e e',n];simp[a,c,e,e']
  rw[Y6 k1]
  have ah:(kd==1)=false:=by simp[k1]
  by_cases k2:kd=2
  .subst k2
   rw[Zd rfl];refine Gz ?_;refine j false out _ _ _ (by simp) ?_;intro k i
   have a:k≠14:=by rintro rfl;cases i
   have c:k≠17:=by rintro rfl;cases i
   by_cases e:k=292
   .subst e;simp[dR,tM]
   .rw[<-Cb (r:=jj) e,n];simp[a,c,e]
  rw[Y6 k2]
  have aj:(kd==2)=false:=by simp[k2]
  by_cases k3:m<(D:Int)
  case neg=>
   rw[Y6 k3];refine Gz ?_;refine j false out _ _ _ (by simp) ?_;intro k i
   have a:k≠14:=by rintro rfl;cases i
   have c:k≠17:=by rintro rfl;cases i
   by_cases e:k=292
   .subst e;simp[dR,tM]
   .rw[<-Cb (r:=jj) e,n];simp[a,c,e]
  rw[Zd k3];have Q:=hx.half k3 v.1;obtain⟨p0,p1,p2,p3,-⟩:=hx;simp only at p0 p1 p2 p3
  have a7:l<1048576:=by
   have:=zN (d:=m) (by omega);omega
  have w1:i64.wrap (m+1)=m+1:=aa;have w2:i64.wrap (2*l)=2*l:=aa;have w3:i64.wrap (2*l+1)=2*l+1:=aa;have S:=IH (m+1,2*l,ns) out Q.1 (by simp only;omega) ho;have ak:=λ(o:List Pc)(h:o.length<=4096)=>IH (m+1,2*l+1,ns) o Q.2 (by simp only;omega) h;have u:=B9 (s:=s) (p:=p) (q:=q) (D:=D) f (m+1,2*l,ns) out ho;clear IH Q
  with_reducible repeat' (first|refine Sp.h ?_|((with_unfolding_all refine WP.takeP2 (pk:=mm) (hn:=[]) (f:=.tmp 62) (f2:=.tmp 71) 7 9 rfl rfl rfl rfl rfl ?_);simp -implicitDefEqProofs [hP,hN,A,E,F,G,H,I,J,K,W,X,c1,L,ah,aj,k3,w1,w2])|((first|refine Ss.h ?_|refine Sc.h (cp) ?_|refine Sc.h (U) ?_|(refine Sb.h ?_ ?_ ?_<;>(try intro hgd)<;>try exact Xy))<;>simp -implicitDefEqProofs [hP,hN,A,E,F,G,H,I,J,K,W,X,c1,L,ah,aj,k3,w1,w2])|refine X2 ?_ ?_|(refine Xd ?_ ?_<;>intro hcd<;>try exact Xx))
  refine Fd (own:=false) (g:=120) (args:=[Z (m+1),Z (2*l),aw ns]) (out:=out) (r:=jj) (by simp[St.ev,bC,hC]) (by simp[St.ev]) (by simp[dI,hN]) ?_ (by rw[hP];exact S) ?_
  .intro k i
   have a:k≠14:=by rintro rfl;cases i
   have c:k≠17:=by rintro rfl;cases i
   rw[n];simp[a,c]
  intro h' N O;clear S;have z:=O 17 rfl;simp[eD,eJ,bT]at z;generalize ol s p q D f (m+1,2*l,ns) out=R1 at *;obtain⟨o1,_|r1⟩:=R1
  .simp only[Option.getD_none,Option.isNone_none]at N u|-
   have tG:h' 297=some (.box [.fn (.func 120) [] hC] false false):=N 297 rfl;simp -implicitDefEqProofs (maxSteps:=2000000) [hP,hN,eD,eJ,bT,jB,iN,mm,inK,z,tG,w1,w2,w3,hC];refine .inl ⟨by first|rfl|simp[eC],?_⟩;have T:=ak o1 u;refine Fd (own:=false) (g:=120) (args:=[Z (m+1),Z (2*l+1),aw ns]) (out:=o1) (r:=jj) (by simp[St.ev,bC,hC]) (by simp[St.ev]) (by simp[dI,hN]) (λk i=>N k i) (by rw[hP];exact T) ?_;clear z tG N O T;intro h2 ar O;generalize ol s p q D f (m+1,2*l+1,ns) o1=R2 at *;obtain⟨o2,r2⟩:=R2;simp -implicitDefEqProofs (maxSteps:=2000000) [hP,hN,eD,eJ,bT,jB,iN,mm,inK];refine Gz ?_;exact j _ _ _ _ _ (by simp) ar
  .simp only[Zn,Option.isNone_some]at N u|-
   have tG:h' 297=some (.box [.fn (.func 120) [] hC] false false):=N 297 rfl;simp -implicitDefEqProofs (maxSteps:=2000000) [hP,hN,eD,eJ,bT,jB,iN,mm,inK,z,tG,w1,w2,w3,hC];refine .inr ?_;refine Gz ?_;exact j _ _ _ _ _ (by simp) N
theorem mQ.norm{f:FuncId}{ps:List PV}{cs:List AV}{c:Hp}(d:mQ P f ((ps.map Go.Ab.norm).map .pv++cs) c Post):mQ P f (ps.map .pv++cs) c Post:=by
 refine⟨d.1,λw M L l j b a=>d.2 w M L l j b ⟨by simpa using a.1,λi p u hp e=>?_⟩⟩;rw[List.getElem?_append]at hp;simp only[ZB]at hp;split at hp
 .rename_i hi
  rw[Y7,Y7,an hi]at hp;injection hp with hp;subst hp;have g:=a.2 i (.pv ps[i]) u (by rw[Y8 (by simpa using hi)];simp) e
  cases g with
  |pv k=>exact .pv (Eg k)
 .rename_i hi
  exact a.2 i p u (by rw[Zc (by simp;omega)];simpa using hp) e
set_option maxRecDepth 100000 in
@[simp] theorem UA:gR prog 119:=by
 have hf:=func119;have nt:=ntmps119;have rs:=results119;exact PX
theorem Xz(s:Sce)(p q:List Int)(D:Nat)(hs:ScL s)(l:ao s=0)(hp:aY s.js s.ms p=true)(hq:aY s.js s.ms q=true)(z:p.length<=16777216)(A:q.length<=16777216)(F:D<=20):lR 70 (aN s) (zs p) (zs q) (Z (D:Int)) (NY (oW s p q D)):=by
 rw[<-Qo (by simp[Je,l,hp,hq]) F];have cs:=Ht s hs;have B:=Ld s.js s.ms p hs.js hs.ms;have E:=Ld s.js s.ms q hs.js hs.ms;rw[l]at cs;rw[hp]at B;rw[hq]at E
 have m:¬(D:Int)<0:=by omega
 have n:¬(20:Int)<D:=by omega
 have H:=Tj s p q D hs z A F (D+1) (0,0,[]) [] ⟨by simp,by simp,by simp,by simp,by simp⟩ (by simp) (by simp)
 have G:Qn s p q D=match ol s p q D (D+1) (0,0,[]) []with
  |(o,none)=>⟨1,o,0,0,⟨0,[],[]⟩⟩
  |(_,some r)=>r:=rfl
 rw[G];have u:=λr=>Ca (s:=s) (p:=p) (q:=q) (D:=D) (D+1) (0,0,[]) [] r;clear G l hp hq;generalize ol s p q D (D+1) (0,0,[]) []=R at *;obtain⟨js,ms,J,sks⟩:=s;simp only at B E;refine Dp func70 λC hP hN=>?_
 with_reducible iterate 24 any_goals (first|refine Sp.h ?_|((first|refine Ss.h ?_|refine Sc.h (cs) ?_|refine Sc.h (B) ?_|refine Sc.h (E) ?_)<;>simp -implicitDefEqProofs [hP,hN,m,n]))
 refine WP.ren 4 295 (by decide) (by simp) (by decide) (by simp) ?_;refine WP.ren 5 293 (by decide) (by simp) (by decide) (by simp) ?_;refine WP.ren 6 294 (by decide) (by simp) (by decide) (by simp) ?_;refine WP.ren 7 296 (by decide) (by simp) (by decide) (by simp) ?_;refine WP.ren 8 292 (by decide) (by simp) (by decide) (by simp) ?_;refine WP.ren 9 291 (by decide) (by simp) (by decide) (by simp) ?_;refine WP.ren 10 297 (by decide) (by simp) (by decide) (by simp) ?_;refine WP.nilRowsE (λk=>decide (k=298)) (λ_=>(65,3)) 291 (cs:=[.pv (.val (.slice none 0 0))]) (cs':=[.arr 298 0]) (own:=true) (fb:=false) (by simp) ?_ rfl ?_ ?_
 .intro k b
  have b:=of_decide_eq_true b;subst b;simp
 .intro i x I
  rcases i with _|i<;>simp at I<;>subst I<;>simp
 refine WP.of_st (P:=λst=>st.t 8=.ptr 292 0/\st.t 9=.ptr 291 0/\st.t 10=.ptr 297 0/\∀k,inK k=true->st.h k=dR true ⟨js,ms,J,sks⟩ p q D [] jj k) ⟨?_,?_⟩
 .refine⟨by simp,by simp,by simp,λk b=>?_⟩
  by_cases e:k<=298
  .simp only[inK,up,Is]at b
   have:k=290\/k=291\/k=292\/k=293\/k=294\/k=295\/k=296\/k=297\/k=298:=by omega
   rcases this with rfl|rfl|rfl|rfl|rfl|rfl|rfl|rfl|rfl<;>simp[dR,tM,jj,hC]
  .simp[dR,o6,show¬k=291 by omega,show¬k=292 by omega,show¬k=293 by omega,show¬k=294 by omega,show¬k=295 by omega,show¬k=296 by omega,show¬k=297 by omega,show¬k=298 by omega,show¬k=4 by omega,show¬k=5 by omega,show¬k=6 by omega,show¬k=7 by omega,show¬k=8 by omega,show¬k=9 by omega,show¬k=10 by omega]
 rintro st ⟨c,d,a,v⟩;have tG:st.h 297=some (.box [.fn (.func 120) [] hC] true false):=v 297 rfl
 with_reducible repeat' (first|refine Sp.h ?_|((with_unfolding_all refine WP.takeP (pk:=mm) (hn:=[]) (f:=.tmp 38) (pre:=[_]) (post:=[]) rfl rfl rfl ?_);simp -implicitDefEqProofs [hP,hN,c,d,a,tG])|((first|refine Ss.h ?_|(refine Sb.h ?_ ?_ ?_<;>(try intro hgd)<;>try exact Xy))<;>simp -implicitDefEqProofs [hP,hN,c,d,a,tG])|refine X2 ?_ ?_|(refine Xd ?_ ?_<;>intro hcd<;>try exact Xx))
 refine Fd (own:=true) (g:=120) (args:=[Z 0,Z 0,.val (.slice none 0 0)]) (out:=[]) (r:=jj) (by simp[St.ev,bC,hC]) (by simp[St.ev]) (by simp[dI,hN]) v (by rw[hP];exact mQ.norm (ps:=[Z 0,Z 0,.val (.slice none 0 0)]) H) ?_;intro h' j y;have f291:h' 291=some (.box [.arr 298 R.1.length] true false):=j 291 rfl;have f292:h' 292=some (.box (tM (R.2.getD jj)) true false):=j 292 rfl;have f298:h' 298=some (.row 65 3 (R.1.map jz) 0):=j 298 rfl;clear j y H tG v;obtain⟨o,_|r⟩:=R
 .simp only[Option.getD_none,Option.isNone_none,tM,jj]at f291 f292 f298|-
  simp -implicitDefEqProofs (maxSteps:=2000000) [hP,hN,eD,eJ,bT,jB,iN,mm,inK,c,d,a,f291,f292,f298];exact Gy
 .simp only[Zn,Option.isNone_some,tM]at f291 f292 f298|-
  simp -implicitDefEqProofs (maxSteps:=2000000) [hP,hN,eD,eJ,bT,jB,iN,mm,inK,c,d,a,f291,f292,f298];by_cases b:r.kind=2
  .simp only[Zd b]at f292
   exact Gy
   all_goals exact(u r rfl).1
  .simp only[Y6 b]at f292
   exact Gy
   all_goals exact⟨(u r rfl).1,(u r rfl).2 b⟩
section
variable {C:Cx} {Q:Exit->St->Prop} {st:St}
theorem GB{t:TypeId}{x:Operand}{f off sz:Nat}{σ:Operand->Value}{cs:Array Value}{v:Value}(d:o.op=.field t x f)(a:lw P t f=some (false,off,sz))(i:σ x=.agg cs)(g:cs[off]?=some v):ag P (execOp σ o)=some (.value v):=by
 unfold lw at a;split at a
 .rename_i m e
  split at a
  .rename_i l b
   split at a
   .rename_i k j c n
    injection a with a;injection a with hk1 a;injection a with hk2 hk3;subst hk1;subst hk2;subst hk3;unfold execOp;rw[d];simp only[i]
    have h1:ag P (Instr.field t (.agg cs) f)=some v:=by
     unfold Instr.field;rw[af,cw e,Zi];simp only[b,asAgg,pure_bind];exact mT c g
    rw[af,h1];rfl
   .cases a
  .cases a
 .cases a
def TU(C:Cx)(hn:List Nat)(ops:Array Oper)(Q:St->Prop)(t:TypeId)(f:Nat)(x:Operand)(d:Option Nat)(post:List Oper)(st:St):Prop:=
 ∃off b a v,lw C.P t f=some (false,off,b)/\st.ev x=.pv (.agg a)/\a[off]?=some (.val v)/\dI C.N d=true/\bZ C.P hn C.N ops Q post (st.put d (.pv (.val v)) [])
theorem WP.fldAt(n:Nat){t:TypeId}{x:Operand}{f:Nat}(D:ops.toList[n]?=some o)(k:o.op=.field t x f)(M:o.guard=none)
 (hq:bZ C.P hn C.N ops (TU C hn ops (Q .normal) t f x o.dst (ops.toList.drop (n+1))) (ops.toList.take n) st):WP C (.region id ops false) Q st:=by
 intro a w T;refine wp_region_list ?_;have S:=(th.1 D).1;have J:=(th.1 D).2;rw[show ops.toList=ops.toList.take n++o::ops.toList.drop (n+1) by rw[<-J,yAu,Z5]];refine fD (λA a1 w1 q m=>?_) T hq;obtain⟨off,W,V,v,O,y,G,i,b⟩:=m;obtain⟨L,B,hN,j,F⟩:=q;refine wpList_step (λK I=>?_);rw[eI M,Zd rfl];have e:=bE F x;rw[y]at e
 obtain⟨g,r,s⟩:∃g:Array Value,a1.eval x=.agg g/\g[off]?=some v:=by
  cases e with
  |pv E=>
   generalize a1.eval x=u at E
   cases E with
   |agg _ g R h=>
    have c:off<g.length:=by rw[<-R];exact(th.1 G).1
    have H:=h off _ _ G (an c);refine⟨_,rfl,?_⟩;rw[<-aK H];simp[c]
 have d:=eZ (GB (σ:=a1.eval) k O r s) w1;unfold Oper.wp;rw[d];refine I _ _ ?_;refine fW (λz U w' p l=>⟨z,p,l⟩) (st:=A.put o.dst (.pv (.val v)) []) ?_ b;exact dM.put B hN j F i (.refl B) (.pv (.val v))
end
def wU(off:Nat)(o:Oper):Oper:={o with after:=(o.after.filter λe=>decide (off<=e.on)).map λe=>{e with on:=e.on-off}}
def gx(l:List Oper)(off m:Nat):Array Oper:=(((l.drop off).take m).map (wU off)).toArray
def Lc(X:Act->World->Prop)(Q:Exit->Act->World->Prop):Exit->Act->World->Prop
 |.normal=>X
 |.exit i=>Q (.exit i)
 |.goto i=>Q (.goto i)
 |.ret=>Q .ret
 |.panic c=>Q (.panic c)
 |.outgrown=>Q .outgrown
def Nk(ops:Array Oper)(n:Nat):Bool:=
 let a:=gG ops.toList []
 ((List.range n).all λi=>(a.getD n 0).testBit i)&&((List.range ops.size).all λt=>decide (t<=n)||(a.getD t 0).testBit n)&&ops.toList.all λo=>o.guard.isNone
section
variable {P:Program} {ops:Array Oper} {Q:Exit->Act->World->Prop}
theorem Nl{off:Nat}{a:Act}{w:World}{K d:Act->World->Prop}{X:Act->World->Prop}(h:∀a w,K a w->d a w)(b:(wU off o).wp P a w K (Lc X Q)):o.wp P a w d Q:=by
 unfold Oper.wp at *;rw[show execOp a.eval (wU off o)=execOp a.eval o from rfl]at b;generalize(execOp a.eval o).run P w=r at *
 cases r with
 |ok n w'=>
  cases n<;>simp only[Oper.upon]at b|-<;>
   first
    |exact h _ _ b
    |exact Calls.mono b (λe f c=>by cases e<;>first|exact h _ _ c|exact c)
    |exact Rows.mono b (λ_ _ c=>h _ _ c)
 |halt x w'=>cases x<;>simp only[Oper.upon]at b|-<;>exact b
structure SegR(ops:Array Oper)(off m:Nat)(listed' listed:Array Bool):Prop where
 s1:listed.size=ops.size
 s2:listed'.size=m
 pre:∀i,i<off->listed.getD i false=true
 mid:∀i,i<m->listed.getD (off+i) false=listed'.getD i false
 tail:∀t,off+m<=t->t<ops.size->listed.getD t false=false
 closed:∀i j,iE ops i j->listed.getD j false=true->listed.getD i false=true
theorem nh{l:Array Bool}(h:i<l.size)(b c:Bool):l.getD i b=l.getD i c:=by simp[h]
variable {off m:Nat}
theorem AO(a:off+m<=ops.size)(hi:i<m):∃o,ops[off+i]?=some o/\(gx ops.toList off m)[i]?=some (wU off o):=by
 have h:off+i<ops.size:=by omega
 refine⟨ops[off+i],ZN h,?_⟩;simp[gx,Zy,hi,h]
theorem rK(a:off+m<=ops.size):(gx ops.toList off m).size=m:=by
 simp[gx];omega
theorem JE(a:off+m<=ops.size)(h:iE (gx ops.toList off m) i j):j<m:=by
 obtain⟨o,b,_⟩:=h;have:=(ZE.1 b).1
 rwa [rK a]at this
theorem JF(d:off+m<=ops.size)(h:iE (gx ops.toList off m) i j):iE ops (off+i) (off+j):=by
 have k:=JE d h;obtain⟨o,l,e,c,g,b⟩:=h;obtain⟨n,h1,a⟩:=AO (ops:=ops) d k;rw[l]at a;injection a with a;subst a;simp only[wU,Array.toList_map,Array.toList_filter,Zv,yAa,Is]at c;obtain⟨f,⟨a1,a2⟩,rfl⟩:=c;exact⟨n,h1,f,a1,g,by simp only at b;omega⟩
theorem PY(f:off+m<=ops.size){q:Nat}(d:j<m)(hq:off<=q)(h:iE ops q (off+j)):iE (gx ops.toList off m) (q-off) j:=by
 obtain⟨o,g,e,c,b,i⟩:=h;obtain⟨k,h1,a⟩:=AO (ops:=ops) f d;rw[g]at h1;injection h1 with h1;subst h1;refine⟨_,a,{e with on:=e.on-off},?_,b,by simp only;omega⟩;simp only[wU,Array.toList_map,Array.toList_filter,Zv,yAa,Is];exact⟨e,⟨c,by omega⟩,rfl⟩
theorem CZ(a:fG ops=true)(f:off+m<=ops.size){l:Array Bool}(R:SegR ops off m l' l)(hi:i<m):i∈Region.ready .any (gx ops.toList off m) l'↔off+i∈Region.ready .any ops l:=by
 rw[bW,bW,rK f]
 have g:aC l' i=aC l (off+i):=by
  unfold aC;rw[nh (by rw[R.s2];exact hi) true false,nh (l:=l) (by rw[R.s1];omega) true false,R.mid i hi]
 rw[g];constructor
 .rintro⟨_,c,d⟩
  refine⟨by omega,c,λq hq=>?_⟩;by_cases j:q<off
  .exact R.pre q j
  .have e:=il a hq
   have b:=d _ (PY f hi (by omega) hq);rw[<-R.mid (q-off) (by omega)]at b
   rwa [show off+(q-off)=q by omega]at b
 .rintro⟨_,c,d⟩
  refine⟨hi,c,λq hq=>?_⟩;have b:=JF f hq;have e:=il a b;rw[<-R.mid q (by omega)];exact d _ b
theorem SegR.set(f:off+m<=ops.size){l:Array Bool}(R:SegR ops off m l' l)(hi:i<m)(d:off+i∈Region.ready .any ops l):SegR ops off m (l'.setIfInBounds i true) (l.setIfInBounds (off+i) true):=by
 have b:=(bW.1 d).2.2;refine⟨by simp[R.s1],by simp[R.s2],λk a=>getD_set_true (R.pre k a),λk a=>?_,λt h1 c=>?_,λp q hd hq=>?_⟩
 .by_cases e:i=k
  .subst e
   have a1:i<l'.size:=by rw[R.s2];exact a
   have a2:off+i<l.size:=by rw[R.s1];omega
   simp[a1,a2]
  .rw[getD_set_ne false (by omega),getD_set_ne false e];exact R.mid k a
 .rw[getD_set_ne false (by omega)];exact R.tail t h1 c
 .by_cases e:off+i=q
  .subst e;exact getD_set_true (b p hd)
  .rw[getD_set_ne false e]at hq
   exact getD_set_true (R.closed p q hd hq)
theorem G4(a:fG ops=true)(c:off+m<=ops.size){l:Array Bool}(R:SegR ops off m l' l)(e:Region.ready .any (gx ops.toList off m) l'=[]):∀j,j<m->l'.getD j false=true:=by
 intro j
 induction j using Nat.strongRecOn with
 |_ j ih=>
  intro b
  cases d:l'.getD j false with
  |true=>rfl
  |false=>
   have:j∈Region.ready .any (gx ops.toList off m) l':=bW.2 ⟨by rw[rK c];exact b,by unfold aC;rw[nh (by rw[R.s2];exact b) true false];exact d,λq hq=>by
    have:=il a (JF c hq)
    exact ih q (by omega) (by omega)⟩
   rw[e]at this;cases this
theorem C3(b:fG ops=true)(G:∀o∈ops.toList,o.guard=none)(e:off+m<=ops.size)
 (j:∀l' l,SegR ops off m l' l->(∃i,i<m/\l'.getD i false=false)->∀t,off+m<=t->t∉Region.ready .any ops l){X:Act->World->Prop}
 (z:∀l' l a w,SegR ops off m l' l->(∀i,i<m->l'.getD i false=true)->X a w->∀F,ops.size-(off+m)<=F->wpAny P .any ops Q F l a w):
 ∀(f:Nat)(l' l:Array Bool)(a:Act)(w:World),SegR ops off m l' l->wpAny P .any (gx ops.toList off m) (Lc X Q) f l' a w->∀F,f+(ops.size-(off+m))<=F->wpAny P .any ops Q F l a w:=by
 intro f
 induction f with
 |zero=>
  intro l' l a w R h F hF;exact z l' l a w R (G4 b e R h.1) h.2 F (by omega)
 |succ f ih=>
  intro l' l a w R h F hF;by_cases s:Region.ready .any (gx ops.toList off m) l'=[]
  .exact z l' l a w R (G4 b e R s) (h.1 s) F (by omega)
  obtain⟨A,d⟩:=List.exists_mem_of_ne_nil _ s
  have c:A<m:=by have:=(bW.1 d).1;rwa [rK e]at this
  have x:∃i,i<m/\l'.getD i false=false:=⟨A,c,by
   have:=(bW.1 d).2.1;unfold aC at this
   rwa [nh (by rw[R.s2];exact c) true false]at this⟩
  obtain⟨p,rfl⟩:∃p,F=p+1:=⟨F-1,by omega⟩;refine⟨λD=>?_,λi hi=>?_⟩
  .have:=(CZ b e R c).1 d
   rw[D]at this;cases this
  .have u:=bW.1 hi
   have h1:¬i<off:=λq=>by
    have:=R.pre i q;have h8:=u.2.1;unfold aC at h8;rw[nh (by rw[R.s1];omega) true false,this]at h8;cases h8
   have H:¬off+m<=i:=λq=>j l' l R x i q hi;obtain⟨k,rfl⟩:∃k,i=off+k:=⟨i-off,by omega⟩
   have r:k<m:=by omega
   have v:=(CZ b e R r).2 hi;obtain⟨o,y,C⟩:=AO (ops:=ops) e r;have n:o.guard=none:=G o (by rw[Array.mem_toList_iff];exact Array.mem_of_getElem? y);have g:=h.2 k v;unfold wpOp at g|-;rw[C]at g;rw[y];simp only at g|-;rw[eI (o:=wU off o) n,Zd rfl]at g;rw[eI n,Zd rfl];refine g.imp (Nl λB w' E=>ih _ _ B w' (R.set e r hi) E p (by omega)) ?_;rintro⟨a1,a2,a3,a4⟩;exact⟨a1,a2,a3,a4⟩
end
section
variable {C:Cx} {ops:Array Oper} {st:St} {hn:List Nat} {off m:Nat}
theorem Ob(e:∀o∈ops.toList,o.guard=none)(g:o∈ops.toList){b:Array Oper}{f:Ef}(h:pZ C.P hn C.N ops o st f):pZ C.P hn C.N b (wU off o) st f:=by
 have a:=e o g;obtain⟨h1,c,d⟩:=h;refine⟨h1,c,?_⟩;rcases d with⟨a1,a2,a3,a4⟩|⟨a1,_⟩
 .refine .inl ⟨?_,a2,a3,a4⟩
  show eC b st.t o.guard=some true;rw[a];rfl
 .rw[a]at a1;cases a1
theorem EK(d:fG (gx ops.toList off m)=true)(p:off+m<=ops.size)(A:∀o∈ops.toList,o.guard=none)(h:jS C.P hn C.N ops (λk st=>gS (gG (gx ops.toList off m).toList []) k=true/\K st) ((ops.toList.drop off).take m) [] st)
 {a:Act}{w:World}(hs:dM C st a w){Q':Exit->Act->World->Prop}(z:∀st a w,dM C st a w->K st->Q' .normal a w):wpAny C.P .any (gx ops.toList off m) Q' m (Array.replicate m false) a w:=by
 obtain⟨fs,h1,v,x,y⟩:=yp h;have b:=rK (ops:=ops) p
 have B:fs.length=m:=by rw[h1];simp;omega
 refine EC (hn:=hn) (fs:=fs) (st:=st) d (by rw[B,b]) (λi o f r hf=>?_) (by simpa using x) (λa w hs=>z _ _ _ hs y) _ _ _ _ (by simp[b]) ?_ ?_ ?_
 .have hi:i<m:=by have:=(ZE.1 r).1;omega
  obtain⟨s,q,g⟩:=AO (ops:=ops) p hi;rw[r]at g;injection g with g;subst g
  have u:((ops.toList.drop off).take m)[i]?=some s:=by simp[Zy,hi,q]
  exact Ob A (by rw[Array.mem_toList_iff];exact Array.mem_of_getElem? q) (v i s f u hf)
 .refine yAG (yBb _ _) (by simp[b])
 .intro i j hd c
  have l:=JE p hd;unfold aC at c;rw[Ze,yAU,Zd l]at c;cases c
 .have:dU fs (gx ops.toList off m).size st (aC (Array.replicate m false))=st:=by
   rw[b]
   have hf:∀j,j<m->aC (Array.replicate m false) j=false:=by
    intro j c;unfold aC;rw[Ze,yAU,Zd c];rfl
   have D:∀{V:Type}(wr:Nat->Option V)(e:V),gF m wr e (aC (Array.replicate m false))=e:=by
    intro V wr e;rw[dm (ls':=λ_=>false) (λj c _=>hf j c)]
    have:∀n,gF n wr e (λ_=>false)=e:=by
     intro n;induction n with
     |zero=>rfl
     |succ n ih=>rw[i7];simp[ih]
    exact this _
   cases st;unfold dU;simp[D]
  rw[this];exact hs
theorem WP.drawTake(pk:Nat->Bool)(n:Nat)(ho:ops.toList[n]?=some o)(b8:o.op=.call {callee:=.value f,args:=xs.toArray,argTypes:=ats})(b7:C.P.follows .mixedOrders=true)
 (b:fG ops=true)(z:Nk ops n=true)(b9:fG (gx ops.toList 0 n)=true)(Y:fG (gx ops.toList (n+1) (ops.toList.length-(n+1)))=true)
 (h:jS C.P hn C.N ops (λacc v=>gS (gG (gx ops.toList 0 n).toList []) acc=true/\nV pk C (λy=>jS C.P hn C.N ops (λacc st=>gS (gG (gx ops.toList (n+1) (ops.toList.length-(n+1))).toList []) acc=true/\Q .normal st) (ops.toList.drop (n+1)) [] y) f xs o.dst v) (ops.toList.take n) [] st):WP C (.region id ops true) Q st:=by
 intro a w V
 have u:n<ops.size:=by have:=(th.1 ho).1;simpa using this
 have S:ops[n]?=some o:=by simpa using ho
 have cb:ops.toList.length=ops.size:=yAc;rw[cb]at Y h;simp only[Nk,up]at z;obtain⟨⟨ak,ar⟩,a6⟩:=z
 have A:∀o∈ops.toList,o.guard=none:=λo ho=>by
  have:=L4.1 a6 o ho;simpa using this
 have aj:∀i,i<n->Pre ops i n:=λi hi=>nO (l:=ops.toList) (acc:=[]) (λj=>by simp) (λi j h=>by simp at h) i n (L4.1 ak i (ZL.2 hi))
 have B:∀t,n<t->t<ops.size->Pre ops n t:=λt h1 h2=>nO (l:=ops.toList) (acc:=[]) (λj=>by simp) (λi j h=>by simp at h) n t (by
  have:=L4.1 ar t (ZL.2 h2);simp only[ZX,Is]at this
  exact this.resolve_left (by omega))
 have c:∀{m:Nat}{l' l:Array Bool},SegR ops 0 m l' l->∀{i t:Nat},Pre ops i t->t∈Region.ready .any ops l->l.getD i false=true:=by
  intro m l' l R i t hp H;have hd:=(bW.1 H).2.2
  cases hp with
  |one h=>exact hd _ h
  |step h1 h2=>exact nT (ls:=λi=>l.getD i false) (λi j a8 hj=>R.closed i j a8 hj) h1 (hd _ h2)
 refine wp_region_any b7 ?_
 have W:dM C st a {w with drawn:=w.drawn+1}:=by
  obtain⟨L,hm,hN,a7,x⟩:=V;have A:=hm.grow (Ext.drew (λ_=>False) w);exact⟨L,A.1,hN,a7,λn=>(x n).mono A.2 (KC.refl _ _)⟩
 generalize{w with drawn:=w.drawn+1}=w0 at W
 have d:∀k j:Nat,(Array.replicate k false).getD j false=false:=λk j=>by
  rcases Nat.lt_or_ge j k with h|h<;>simp[h]
 refine C3 (off:=0) (m:=n) b A (by omega) (λl' l R ah t x H=>?_) (X:=λa w=>∃v,dM C v a w/\nV pk C (λy=>jS C.P hn C.N ops (λacc st=>gS (gG (gx ops.toList (n+1) (ops.size-(n+1))).toList []) acc=true/\Q .normal st) (ops.toList.drop (n+1)) [] y) f xs o.dst v) ?_ n (Array.replicate n false) (Array.replicate ops.size false) a w0 ?_ ?_ ops.size (by omega)
 .obtain⟨i,hi,M⟩:=ah
  rw[Z7]at x;have cd:=(bW.1 H).1;by_cases e:t=n
  .subst e
   have:=c R (aj i hi) H;have r:=R.mid i hi;rw[Z7]at r;rw[<-r,this]at M;cases M
  .have:=c R (B t (by omega) cd) H
   rw[R.tail n (by omega) u]at this;cases this
 .rintro l' l a1 w1 R J ⟨v,ad,cc⟩ F hF
  obtain⟨I,rfl⟩:∃I,F=I+1:=⟨F-1,by omega⟩
  have s:∀i,i<n->l.getD i false=true:=λi hi=>by
   have:=R.mid i hi;rw[Z7,J i hi]at this;exact this
  have O:=R.tail n (by omega) u;have U:n∈Region.ready .any ops l:=bW.2 ⟨u,by unfold aC;rw[nh (by rw[R.s1];exact u) true false];exact O,λq hq=>s q (il b hq)⟩;refine⟨λh0=>(by rw[h0]at U;cases U),λi hi=>?_⟩;have K:=bW.1 hi
  have bq:i=n:=by
   rcases yAK i n with r|r|r
   .have h8:=K.2.1
    unfold aC at h8;rw[nh (by rw[R.s1];omega) true false,s i r]at h8;cases h8
   .exact r
   .have:=c R (B i r K.1) hi
    rw[O]at this;cases this
  subst bq;have G:=A o (by rw[Array.mem_toList_iff];exact Array.mem_of_getElem? S);have D:=qR (pk:=pk) (ops:=ops) (post:=[]) (Q':=Lc (λa w=>wpAny C.P .any ops (λe a w=>∃g,dM C g a w/\Q e g) I (l.setIfInBounds i true) a w) (λe a w=>∃g,dM C g a w/\Q e g)) (λy a2 w2 ca b5=>?_) b8 (by rw[G];rfl) ad cc
  .unfold wpOp
   rw[S];simp only[eI G,Zp];unfold wpList at D;rw[eI G,Zd rfl]at D;exact D.imp (Nl (off:=0) λa' w' h4=>h4) λ⟨b1,b2,b3,b4⟩=>⟨b1,b2,b3,b4⟩
  .show wpAny C.P .any ops _ I (l.setIfInBounds i true) a2 w2
   have Z:(l.setIfInBounds i true).getD i false=true:=by
    have:i<l.size:=by rw[R.s1];exact u
    simp[this]
   refine C3 (off:=i+1) (m:=ops.size-(i+1)) b A (by omega) (λl' l R ah t x H=>by have:=(bW.1 H).1;omega) (X:=λa w=>∃g,dM C g a w/\Q .normal g) (λcf l2 a w R2 E hx F hF=>?_) (ops.size-(i+1)) (Array.replicate _ false) _ a2 w2 ?_ (EK Y (by omega) A (by rw[Zw (by simp)];exact b5) ca λst a w V hq=>⟨st,V,hq⟩) I (by omega)
   .have T:Region.ready .any ops l2=[]:=List.eq_nil_iff_forall_not_mem.2 λt x=>by
     have h8:=bW.1 x;have r:=h8.2.1;unfold aC at r;rw[nh (by rw[R2.s1];exact h8.1) true false]at r;by_cases e:t<i+1
     .rw[R2.pre t e]at r;cases r
     .have h7:=R2.mid (t-(i+1)) (by omega)
      rw[show i+1+(t-(i+1))=t by omega,E _ (by omega),r]at h7;cases h7
    cases F with
    |zero=>exact⟨T,hx⟩
    |succ F=>exact⟨λ_=>hx,λt x=>(by rw[T]at x;cases x)⟩
   .refine⟨by simp[R.s1],by simp,λk hk=>?_,λk hk=>?_,λt h1 h2=>by omega,λp q hd hq=>?_⟩
    .by_cases e:k=i
     .subst e;exact Z
     .exact getD_set_true (s k (by omega))
    .rw[getD_set_ne false (by omega),R.tail _ (by omega) (by omega),d]
    .by_cases e:i=q
     .subst e;exact getD_set_true (s p (il b hd))
     .rw[getD_set_ne false e]at hq;exact getD_set_true (R.closed p q hd hq)
 .exact⟨by simp,by simp,λi hi=>by omega,λi hi=>by rw[d,d],λt _ _=>d _ _,λi j _ hj=>by rw[d]at hj;cases hj⟩
 .exact EK b9 (by omega) A (by rw[yBl];exact h) W λst a w V hk=>⟨st,V,hk⟩
end
abbrev Cf:=Mov×Mov
def oc(A:Sce)(D:Nat)(Pa Pb:List (List Int))(x y:Mov):Bool:=decide ((oW A (cO Pa x.f++cO Pb y.f) (cO Pa x.t++cO Pb y.t) D).kind≠1)
def jy(A:Sce)(D:Nat)(Pa Pb:List (List Int))(x:Mov)(bs:List Mov):List Cf:=(bs.filter (oc A D Pa Pb x)).map λy=>(x,y)
def gT(A:Sce)(D:Nat)(Pa Pb:List (List Int))(us bs:List Mov):List Cf:=us.flatMap λx=>jy A D Pa Pb x bs
theorem qU{D:Nat}{x y:Mov}{bs:List Mov}(h:bs[j]?=some y):jy A D Pa Pb x (bs.take (j+1))=if oc A D Pa Pb x y=true then jy A D Pa Pb x (bs.take j)++[(x,y)]else jy A D Pa Pb x (bs.take j):=by
 obtain⟨b,a⟩:=th.1 h;unfold jy;rw[ZR b,yAH,yAV,a];by_cases h:oc A D Pa Pb x y=true
 .rw[Zd h];simp[h]
 .rw[Y6 h];simp[h]
theorem A3{D:Nat}{x:Mov}{bs:List Mov}(h:us[i]?=some x):gT A D Pa Pb (us.take (i+1)) bs=gT A D Pa Pb (us.take i) bs++jy A D Pa Pb x bs:=by
 obtain⟨hi,a⟩:=th.1 h;unfold gT;rw[ZR hi,List.flatMap_append,a];simp
theorem A4{D:Nat}{x:Mov}{bs:List Mov}(j:Nat):(jy A D Pa Pb x (bs.take j)).length<=(jy A D Pa Pb x bs).length:=by
 unfold jy;rw[ZB,ZB];exact((List.take_sublist j bs).filter _).length_le
theorem A5{D:Nat}{bs:List Mov}(i:Nat):(gT A D Pa Pb (us.take i) bs).length<=(gT A D Pa Pb us bs).length:=by
 have h:gT A D Pa Pb us bs=gT A D Pa Pb (us.take i) bs++gT A D Pa Pb (us.drop i) bs:=by
  unfold gT;rw[<-List.flatMap_append,Z5]
 rw[h,Zq];omega
def lO(L:List Cf):Hp:=λk=>if k=291 then some (.row 89 6 (L.map bR) 0)else none
theorem rV{L:List Cf}{b:Blk}(h:lO L k=some b):k=291/\b=.row 89 6 (L.map bR) 0:=by
 unfold lO at h;split at h
 .rename_i e;injection h with h;exact⟨e,h.symm⟩
 .cases h
theorem zO(L:List Cf):LookH (lO L):=by
 refine⟨λk b h=>?_,λk b o h=>?_,λk b h=>?_,λk c o f h=>?_⟩
 .obtain⟨rfl,_⟩:=rV h;rfl
 .obtain⟨_,rfl⟩:=rV h;intro a;simp[Blk.frz]at a
 .obtain⟨_,rfl⟩:=rV h;rfl
 .obtain⟨_,h1⟩:=rV h;cases h1
theorem ta{L:List Cf}(h:k≠291):lO L k=none:=Y6 h
theorem Qe{L:List Cf}(c:∀k,inK k=true->h k=lO L k):dW (λ_=>false) h=lO L:=by
 funext k
 unfold dW;by_cases a:inK k=true
 .rw[Zd a,c k a];rfl
 .rw[Y6 a]
  cases d:lO L k with
  |none=>rfl
  |some b=>obtain⟨rfl,_⟩:=rV d;exact absurd rfl a
theorem Oo{L:List Cf}(a:inK k=true):ed (λ_=>false) h (lO L) k=lO L k:=by
 unfold ed;rw[Zd a];rfl
theorem Qf{C:Cx}{Q:St->Prop}{d:Option Nat}{L:List Cf}{g:FuncId}{args:List AV}{e:AV->List Cf->Prop}(l:bC (st.ev f)=some (g,[],[]))(c:xs.map st.ev=args)(m:args.all mZ=true)(hd:dI C.N d=true)(j:∀k,inK k=true->st.h k=lO L k)
 (q:mQ C.P g args (lO L) (λr h'=>∃L',h'=lO L'/\e r L'))
 (h:∀r h' L',e r L'->(∀k,inK k=true->h' k=lO L' k)->(∀k,inK k=false->h' k=(st.h k).map (ng λ_=>false))->Q (St.put ⟨λn=>eD (λ_=>false) (st.t n),h'⟩ d r [])):nV (λ_=>false) C Q f xs d st:=by
 have hL:=zO L;refine⟨_,[],_,l,⟨λk b o a i=>hL.nf k b o (by rw[<-j k a];exact i),λk b a i=>hL.nm k b (by rw[<-j k a];exact i),λk p o f a i=>hL.cl k p o f (by rw[<-j k a];exact i),λk p f a i=>?_,λk b a=>by cases a⟩,by rw[yAX,c,Qe j];exact q,by rw[yAX,c];exact m,hd,λr h' _ _ hp=>?_⟩
 .rw[j k a]at i
  obtain⟨_,h1⟩:=rV i;cases h1
 .obtain⟨L',rfl,hp⟩:=hp
  exact h r _ L' hp (λk a=>Oo a) (λk a=>by unfold ed;rw[Y6 (by rw[a];decide)])
theorem JP{b L:List Cf}{r:AV}(h1:st.h 291=some (.row 89 6 (L.map bR) 0))(c:∀k,inK k=true->k≠291->st.h k=none)(i:mf P st rs=some r)(g:mZ r=true)(hp:Post r (lO L)):uF P rs (lO b) Post st:=by
 refine BF (H:=lO L) i g (λk a=>?_) (zO _) hp (λk j f a=>?_)
 .by_cases e:k=291
  .subst e;exact h1
  .rw[c k a e,ta e]
 .obtain⟨_,d⟩:=rV a;cases d
def CH(L:List Cf)(st:St):Prop:=st.h 291=some (.row 89 6 (L.map bR) 0)/\st.h 290=none/\∀k,291<k->st.h k=none
theorem G8(a:st.h 290=none)(h1:∀k,291<k->st.h k=none):∀k,inK k=true->k≠291->st.h k=none:=by
 intro k b c;simp only[inK,up,Is]at b;by_cases e:k=290
 .subst e;exact a
 .exact h1 k (by omega)
def Lx(a:List Cf)(T:List Cf)(r:AV)(L:List Cf):Prop:=((a++T).length<=4096/\L=a++T/\r=.tup [.arr 291 (a++T).length,.pv (B true)])\/(4096<(a++T).length/\r=.tup [.pv (.val (.slice none 0 0)),.pv (B false)])
abbrev Nu(s:Sce)(D:Nat)(Pa Pb:List (List Int)):PV:=.agg [.sl (s.js.map aO),.sl (s.ms.map aX),.sl (s.shs.map aZ),.sl (s.sks.map aJ),Z (D:Int),.sl (Pa.map zs),.sl (Pb.map zs)]
structure MvIn(P:List (List Int))(m:Mov):Prop where
 a0:0<=m.f
 a1:m.f<P.length
 b0:0<=m.t
 b1:m.t<P.length
theorem Qg:lw prog 69 0=some (false,0,1):=by kernel_rfl
theorem Un(A:Sce)(D:Nat)(Pa Pb:List (List Int))(us bs:List Mov)(K:List Cf)(hA:ScL A)(h0:ao A=0)(hD:D<=20)(b9:K.length<=4096)(cp:us.length<=16777216)(cq:bs.length<=16777216)
 (ha:∀x∈us,MvIn Pa x)(hb:∀y∈bs,MvIn Pb y)(hin:∀p∈Pa,∀q∈Pb,aY A.js A.ms (p++q)=true):
 mQ prog 31 [.pv (Nu A D Pa Pb),.arr 291 K.length,.pv (.sl (us.map bQ)),.pv (.sl (bs.map bQ))] (lO K) (λr h'=>∃L',h'=lO L'/\Lx K (gT A D Pa Pb us bs) r L'):=by
 obtain⟨S,hS⟩:∃S:Nat->List Cf,S=λi=>K++gT A D Pa Pb (us.take i) bs:=⟨_,rfl⟩
 have s0:S 0=K:=by rw[hS];simp[gT]
 have s1:S us.length=K++gT A D Pa Pb us bs:=by rw[hS];simp only;rw[yAS]
 have s2:∀i x,us[i]?=some x->S (i+1)=S i++jy A D Pa Pb x bs:=λi x h=>by rw[hS];simp only;rw[A3 h,yAd]
 have s3:∀i,(S i).length<=(S us.length).length:=λi=>by
  rw[hS];simp only[Zq,yAS];have:=A5 (A:=A) (D:=D) (Pa:=Pa) (Pb:=Pb) (us:=us) (bs:=bs) i;omega
 rw[show Lx K (gT A D Pa Pb us bs)=λr L=>((S us.length).length<=4096/\L=S us.length/\r=.tup [.arr 291 (S us.length).length,.pv (B true)])\/(4096<(S us.length).length/\r=.tup [.pv (.val (.slice none 0 0)),.pv (B false)]) by rw[s1];rfl]
 have e1:lO K 291=some (.row 89 6 ((S 0).map bR) 0):=by rw[s0];rfl
 have e2:∀k,k≠291->lO K k=none:=λk h=>ta h;have f4:=e2 4 (by decide);have f11:=e2 11 (by decide);have f13:=e2 13 (by decide);clear hS s1;refine M9 func31 (zO _) λC hP hN=>?_;simp only[D3];refine Gz ?_;refine WP.loopN [11,13] us.length (λi st=>CH (S i) st/\st.t 1=.arr 291 (S i).length/\st.t 4=.ptr 4 0/\st.h 4=some (.box [.pv (.sl (A.js.map aO)),.pv (.sl (A.ms.map aX)),.pv (.sl (A.shs.map aZ)),.pv (.sl (A.sks.map aJ)),.pv (Z (D:Int)),.pv (.sl (Pa.map zs)),.pv (.sl (Pb.map zs))] true false)/\st.t 3=.pv (.sl (bs.map bQ))/\st.t 16=.pv (.sl (us.map bQ))/\st.t 17=.pv (Z us.length)/\st.t 18=.pv (Z i)/\st.h 11=none/\st.h 13=none/\(S i).length<=4096) ?_ ?_
 .refine⟨⟨by simp[e1],by simp[e2],λq hq=>?_⟩,by simp[f11,f13,s0,b9]⟩
  simp[show¬q=4 by omega,e2 q (by omega)]
 clear e1 e2 f4 f11 f13;rintro i st hi ⟨⟨c,d,T⟩,g1,g4,b4,g3,g,l,n,ak,s,e⟩;by_cases J:i<us.length
 case neg=>
  have cc:i=us.length:=by omega
  subst cc;refine GT (zAd c d g1 g4 b4 g3 g l n ak s J) ?_;exact JP (L:=S us.length) c (G8 d T) rfl rfl ⟨_,rfl,.inl ⟨e,rfl,rfl⟩⟩
 have hw:=ab J (by omega);have hx:us[i]?=some us[i]:=an J;have ca:=ha _ (Zs J);have t2:=s2 i _ hx;have t3:=s3 (i+1);generalize cj:us[i]=x at *;obtain⟨R,hR⟩:∃R:Nat->List Cf,R=λj=>S i++jy A D Pa Pb x (bs.take j):=⟨_,rfl⟩
 have r0:R 0=S i:=by rw[hR];simp[jy]
 have r1:R bs.length=S (i+1):=by rw[hR,t2];simp only;rw[yAS]
 have r2:∀j y,bs[j]?=some y->oc A D Pa Pb x y=true->R (j+1)=R j++[(x,y)]:=λj y h h'=>by rw[hR];simp only;rw[qU h,Zd h',yAd]
 have r3:∀j y,bs[j]?=some y->oc A D Pa Pb x y=false->R (j+1)=R j:=λj y h h'=>by rw[hR];simp only;rw[qU h,Y6 (by rw[h'];decide)]
 have r4:∀j,(R j).length<=(S us.length).length:=λj=>by
  refine yAG ?_ t3;rw[hR,t2];simp only[Zq];have:=A4 (A:=A) (D:=D) (Pa:=Pa) (Pb:=Pb) (x:=x) (bs:=bs) j;omega
 clear hR t2 t3;obtain⟨xa,xf,xt⟩:=x;obtain⟨a0,a1,b0,b1⟩:=ca;simp only at a0 a1 b0 b1;obtain⟨u,rfl⟩:∃u:Nat,xf=u:=⟨xf.toNat,by omega⟩;obtain⟨v,rfl⟩:∃v:Nat,xt=v:=⟨xt.toNat,by omega⟩
 have O:u<Pa.length:=by omega
 have P:v<Pa.length:=by omega
 clear a0 a1 b0 b1;have ah:Pa[u]?=some Pa[u]:=an O;have aj:Pa[v]?=some Pa[v]:=an P;have cd:=hin _ (Zs O);have cf:=hin _ (Zs P)
 have b3:cO Pa (u:Int)=Pa[u]:=by rw[cO,Zo,ah];rfl
 have b5:cO Pa (v:Int)=Pa[v]:=by rw[cO,Zo,aj];rfl
 have a8:∀y:Mov,oc A D Pa Pb ⟨xa,u,v⟩ y=decide ((oW A (Pa[u]++cO Pb y.f) (Pa[v]++cO Pb y.t) D).kind≠1):=λy=>by unfold oc;rw[b3,b5]
 clear b3 b5;generalize W:Pa[u]=pu at *;generalize X:Pa[v]=pv at *;refine GT (zAd c d g1 g4 b4 g3 g l n ak s (be J hx cj)) ?_;refine WP.loopN [13] bs.length (λj st=>CH (R j) st/\st.t 1=.arr 291 (R j).length/\st.t 4=.ptr 4 0/\st.h 4=some (.box [.pv (.sl (A.js.map aO)),.pv (.sl (A.ms.map aX)),.pv (.sl (A.shs.map aZ)),.pv (.sl (A.sks.map aJ)),.pv (Z (D:Int)),.pv (.sl (Pa.map zs)),.pv (.sl (Pb.map zs))] true false)/\st.t 3=.pv (.sl (bs.map bQ))/\st.t 16=.pv (.sl (us.map bQ))/\st.t 17=.pv (Z us.length)/\st.t 18=.pv (Z i)/\st.t 11=.ptr 11 0/\st.h 11=some (.box [.pv (Z xa),.pv (Z u),.pv (Z v)] true false)/\st.t 22=.pv (.sl (bs.map bQ))/\st.t 23=.pv (Z bs.length)/\st.t 24=.pv (Z j)/\st.h 13=none/\(R j).length<=4096) ?_ ?_
 .refine⟨⟨by simp[c,r0],by simp[d],λq hq=>?_⟩,by simp[*]⟩
  simp[show¬q=11 by omega,T q hq]
 clear c d T g1 g4 b4 g3 g l n ak s e st;rintro j st hj ⟨⟨c,d,T⟩,g1,g4,b4,g3,g,l,n,F,E,G,H,I,s,e⟩;by_cases o:j<bs.length
 case neg=>
  have cg:j=bs.length:=by omega
  subst cg;rw[r1]at c g1 e;refine GT (zAe c d g1 g4 b4 g3 g l n F E G H I (it s o hw @CH.eq_1 e)) ?_
  all_goals (intro q hq;repeat rw[Y6 (by omega)]);simp[T q hq]
 have Q:=ab o (by omega);have hy:bs[j]?=some bs[j]:=an o;have cb:=hb _ (Zs o);have q2:=r2 j _ hy;have q3:=r3 j _ hy;have q4:=r4 (j+1);rw[a8]at q2 q3;generalize b7:bs[j]=y at *;obtain⟨ya,yf,yt⟩:=y
 obtain⟨a0,a1,b0,b1⟩:=cb
 simp only at a0 a1 b0 b1 q2 q3;obtain⟨k,rfl⟩:∃k:Nat,yf=k:=⟨yf.toNat,by omega⟩;obtain⟨m,rfl⟩:∃m:Nat,yt=m:=⟨yt.toNat,by omega⟩
 have M:k<Pb.length:=by omega
 have N:m<Pb.length:=by omega
 clear a0 a1 b0 b1;have Y:Pb[k]?=some Pb[k]:=an M;have ad:Pb[m]?=some Pb[m]:=an N;have a6:=cd _ (Zs M);have a7:=cf _ (Zs N)
 have bq:cO Pb (k:Int)=Pb[k]:=by rw[cO,Zo,Y];rfl
 have b2:cO Pb (m:Int)=Pb[m]:=by rw[cO,Zo,ad];rfl
 rw[bq,b2]at q2 q3;clear bq b2;generalize U:Pb[k]=z at *;generalize V:Pb[m]=pm at *;have l1:=(lM a6).2.2;have l2:=(lM a7).2.2;have cE:=Xz A (pu++z) (pv++pm) D hA h0 a6 a7 (by omega) (by omega) hD
 have c1:aR 69 (.sl [zs pu,zs z]) (zs (pu++z)):=by
  have h9:=Tm [pu,z] (by simp) (by simp only[List.flatten_cons,List.flatten_nil,yAX];omega);simpa only[yAf,yBk,List.flatten_cons,List.flatten_nil,yAX]using h9
 have c2:aR 69 (.sl [zs pv,zs pm]) (zs (pv++pm)):=by
  have h9:=Tm [pv,pm] (by simp) (by simp only[List.flatten_cons,List.flatten_nil,yAX];omega);simpa only[yAf,yBk,List.flatten_cons,List.flatten_nil,yAX]using h9
 generalize oW A (pu++z) (pv++pm) D=r at *;obtain⟨rk,ck,cm,cn,ar⟩:=r;simp only at q2 q3;generalize pu++z=w1 at *;generalize pv++pm=w2 at *
 with_reducible repeat' (first|refine Sp.h ?_|((with_unfolding_all refine WP.fldAt (hn:=[]) 7 rfl rfl rfl ?_);simp -implicitDefEqProofs (maxSteps:=2000000) [hP,hN,c,d,g1,g4,b4,g3,g,l,n,F,E,G,H,I,s,o,Q,hy,b7,O,P,ah,aj,W,X,M,N,Y,ad,U,V,e,CH])|((first|refine Wd ?_|refine Ss.h ?_|refine Sc.h (c1) ?_|refine Sc.h (c2) ?_|refine Sc.h (cE) ?_|(refine Sb.h ?_ ?_ ?_<;>(try intro hgd)<;>try exact Xy))<;>simp -implicitDefEqProofs (maxSteps:=2000000) [hP,hN,c,d,g1,g4,b4,g3,g,l,n,F,E,G,H,I,s,o,Q,hy,b7,O,P,ah,aj,W,X,M,N,Y,ad,U,V,e,CH]<;>try refine Ya ?_)|refine X2 ?_ ?_|(refine Xd ?_ ?_<;>intro hcd<;>try exact Xx))
 refine⟨0,1,[Z rk,.sl (ck.map jz),Z cm,Z cn,.sl [],Z ar.pair,zs ar.a,zs ar.b],.int .i64 rk,by rw[hP];exact Qg,by simp,rfl,by rw[hN];kernel_rfl,?_⟩;by_cases hk:rk=1
 .have q5:=q3 (by simp[hk])
  subst hk;rw[<-q5]at c g1 e;simp -implicitDefEqProofs (maxSteps:=2000000) [hP,hN];refine GT (zAe c d g1 g4 b4 g3 g l n F E G H I (go o Q e @CH.eq_1)) ?_
  all_goals (intro q hq;repeat rw[Y6 (by omega)]);simp[T q hq]
 have q5:=q2 (by simp[hk])
 have ch:(rk==1)=false:=by simp[hk]
 simp -implicitDefEqProofs (maxSteps:=2000000) [hP,hN];by_cases h4:4096<=(R j).length
 .have q6:4096<(S us.length).length:=by rw[q5,Zq]at q4;simp at q4;omega
  have b8:(4096:Int)<=(R j).length:=by omega
  refine GT (zAe c d g1 g4 b4 g3 g l n F E G H I (zAa o Q e @CH.eq_1 ch h4 b8)) ?_;exact JP (L:=R j) (by simp[c]) (G8 (by simp[d]) λq hq=>by simp[show¬q=13 by omega,T q hq]) rfl rfl ⟨_,rfl,.inr ⟨q6,rfl⟩⟩
 have q7:((R j).length+1)*48<=140737488355328:=by omega
 have q8:(R j).length+1<=9223372036854775807:=by omega
 have q9:(R j).length+1<=4096:=by omega
 refine Gz ?_
 all_goals (intro q hq;intros;repeat rw[Y6 (by omega)]);simp[T q hq]
def BZ(m:eR)(a v:Nat):List Mov:=(jh m v).map λu=>⟨a,v,u⟩
def qA(m:eR)(a i:Nat):List Mov:=(List.range i).flatMap (BZ m a)
def io(m:eR)(a:Nat):List Mov:=qA m a m.np.length
theorem wZ(m:eR)(a i:Nat):qA m a (i+1)=qA m a i++BZ m a i:=by
 unfold qA;rw[yAs,List.flatMap_append];simp
theorem Ok{m:eR}{a v:Nat}{u:Int}(h:(jh m v)[j]?=some u):((jh m v).take (j+1)).map (λu=>(⟨a,v,u⟩:Mov))=((jh m v).take j).map (λu=>(⟨a,v,u⟩:Mov))++[⟨a,v,u⟩]:=by
 obtain⟨c,b⟩:=th.1 h;rw[ZR c,yAV,b];rfl
theorem Da(m:eR)(a:Nat):qA m a 0=[]:=rfl
theorem G7{m:eR}(b:dc m=true){v:Nat}(a:v<m.np.length):(jh m v).length<=m.np.length:=by
 rw[Bm b a,ZB];refine yAG (yBb _ _) (by simp)
theorem ve{m:eR}(b:dc m=true)(a:Nat):∀i,i<=m.np.length->(qA m a i).length<=i*m.np.length
 |0,_=>by simp[qA]
 |i+1,h=>by
  have ih:=ve b a i (by omega);have:=G7 b (v:=i) (by omega);rw[wZ,Zq,BZ,ZB,Nat.succ_mul];omega
theorem Tg(a:Nat)(m:eR)(b:dc m=true)(Y:a<=4096):aF 32 (Z a) (bf m) (.sl ((io m a).map bQ)):=by
 have f:=b;simp only[dc,up,Is]at f;have B:m.np.length<=1024:=f.1;have c1:=Tv m b;obtain⟨ns,c⟩:∃ns,ns=(List.range m.np.length).map λv=>zs (jh m v):=⟨_,rfl⟩;rw[<-c]at c1
 have r:ns.length=m.np.length:=by rw[c];simp
 have d:∀v,v<m.np.length->ns[v]?=some (zs (jh m v)):=by intro v D;rw[c];simp[D]
 have s:=λv(D:v<m.np.length)=>G7 b D;have q:=λi(hi:i<=m.np.length)=>ve b a i hi;have R:=Da m a;have G:=wZ m a;unfold io;generalize N:qA m a=T at *;clear N c f b;refine Dp func32 λC hP hN=>?_;refine ki [5] r ?_;refine WP.loopN [] m.np.length (λi st=>st.t 0=.pv (Z a)/\st.t 3=.ptr 3 0/\st.h 3=some (.box [.pv (.sl m.np),.pv (gp m.es)] true false)/\st.t 5=.arr 5 (T i).length/\st.h 5=some (.row 87 3 ((T i).map bQ) 0)/\st.t 11=.pv (.sl ns)/\st.t 12=.pv (Z m.np.length)/\st.t 13=.pv (Z i)) (by simp[R]) ?_;rintro i st hi ⟨g0,g3,b3,g5,b5,k,l,n⟩;by_cases e:i<m.np.length
 case neg=>
  have x:i=m.np.length:=by omega
  subst x;exact Gy
 have hw:=ab e (by omega);have H:=d i e;have O:=s i e;have z:=q (i+1) (by omega);have A:(i+1)*m.np.length<=1024*1024:=yAp (by omega) B
 have p:i<ns.length:=by omega
 obtain⟨S,hS⟩:∃S:Nat->List Mov,S=λj=>T i++((jh m i).take j).map λu=>⟨a,i,u⟩:=⟨_,rfl⟩
 have U:S 0=T i:=by rw[hS];simp
 have s1:∀j u,(jh m i)[j]?=some u->S (j+1)=S j++[⟨a,i,u⟩]:=by intro j u h;rw[hS];simp only;rw[Ok h,yAd]
 have s2:S (jh m i).length=T (i+1):=by rw[hS,G i];simp only;rw[yAS];rfl
 have V:∀j,(S j).length<=1048576:=by
  intro j
  have M:(S j).length<=(S (jh m i).length).length:=by
   rw[hS];simp only[Zq,ZB,ZP];omega
  rw[s2]at M;omega
 clear hS G q s d z A;generalize jh m i=X at *
 have Q:ns[i]=zs X:=by rw[an p]at H;exact ZQ H
 refine Gz ?_;refine WP.loopN [] X.length (λj st=>st.t 0=.pv (Z a)/\st.t 3=.ptr 3 0/\st.h 3=some (.box [.pv (.sl m.np),.pv (gp m.es)] true false)/\st.t 5=.arr 5 (S j).length/\st.h 5=some (.row 87 3 ((S j).map bQ) 0)/\st.t 11=.pv (.sl ns)/\st.t 12=.pv (Z m.np.length)/\st.t 13=.pv (Z i)/\st.t 6=.pv (Z i)/\st.t 18=.pv (zs X)/\st.t 19=.pv (Z X.length)/\st.t 20=.pv (Z j)) (by simp[U, *]) ?_;clear g0 g3 b3 g5 b5 k l n st;rintro j st hj ⟨g0,g3,b3,g5,b5,k,l,n,W,J,K,L⟩;by_cases o:j<X.length
 case neg=>
  have y:j=X.length:=by omega
  subst y;rw[s2]at g5 b5;exact Gy
 have P:=ab o (by omega);have E:X[j]?=some X[j]:=an o;have s4:=s1 j X[j] E;have s5:=V j;generalize I:X[j]=u at *;generalize F:S j=g at *
 have q1:(g.length+1)*24<=140737488355328:=by omega
 have q2:g.length+1<=9223372036854775807:=by omega
 exact Gy
abbrev ga:=List (List Int)×List aB
variable {qs:List ga}
def bn(q:ga):eR:=⟨q.1.map zs,q.2⟩
abbrev gl(a:List ga):PV:=.sl (a.map λq=>bf (bn q))
def JQ(l:List Sce)(a:List ga)(i:Nat):Bool:=match l[i]?,a[i]? with
 |some s,some q=>lq s.js s.ms q.1 q.2
 |_,_=>true
def ni(l:List Sce)(bs:List Vc)(c:List ga)(D a b:Nat):List Cf:=match l[a]?,l[b]?,bs[a]?,bs[b]?,c[a]?,c[b]? with
 |some s,some t,some x,some y,some m,some n=>gT (iy [s,t] [x,y]) D m.1 n.1 (io (bn m) a) (io (bn n) b)
 |_,_,_,_,_,_=>[]
theorem JR{D a b:Nat}{m n:ga}(h1:l[a]?=some s)(c:l[b]?=some t)(d:bs[a]?=some x)(e:bs[b]?=some y)(h5:qs[a]?=some m)(h6:qs[b]?=some n):ni l bs qs D a b=gT (iy [s,t] [x,y]) D m.1 n.1 (io (bn m) a) (io (bn n) b):=by
 unfold ni;rw[h1,c,d,e,h5,h6]
def v8(f:Nat->Nat->List Cf)(a j:Nat):List Cf:=(List.range j).flatMap λk=>f a (a+1+k)
def xc(f:Nat->Nat->List Cf)(n i:Nat):List Cf:=(List.range i).flatMap λa=>v8 f a (n-(a+1))
theorem EZ(f:Nat->Nat->List Cf)(a j:Nat):v8 f a (j+1)=v8 f a j++f a (a+1+j):=by
 unfold v8;rw[yAs,List.flatMap_append];simp
theorem E0(f:Nat->Nat->List Cf)(n i:Nat):xc f n (i+1)=xc f n i++v8 f i (n-(i+1)):=by
 unfold xc;rw[yAs,List.flatMap_append];simp
theorem Dc(g:Nat->List α)(h:i<=j):((List.range i).flatMap g).length<=((List.range j).flatMap g).length:=by
 obtain⟨d,rfl⟩:=Nat.exists_eq_add_of_le h;rw[List.range_add,List.flatMap_append,Zq];omega
theorem E1(f:Nat->Nat->List Cf)(a:Nat)(h:i<=j):(v8 f a i).length<=(v8 f a j).length:=Dc _ h
theorem E2(f:Nat->Nat->List Cf)(n:Nat)(h:i<=j):(xc f n i).length<=(xc f n j).length:=Dc _ h
def j4(l:List Sce)(bs:List Vc)(a:List ga)(D:Int):Bool:=decide (ic l bs=0)&&(decide (a.length=l.length)&&(decide (0<=D)&&(decide (D<=20)&&(List.range l.length).all (JQ l a))))
def xe(l:List Sce)(bs:List Vc)(a:List ga)(D:Nat):List Cf:=xc (ni l bs a D) l.length l.length
def A6(l:List Sce)(bs:List Vc)(a:List ga)(D:Int):PV:=if j4 l bs a D=true/\(xe l bs a D.toNat).length<=4096 then .tup [.sl ((xe l bs a D.toNat).map bR),B true]else .tup [.sl [],B false]
theorem mi(h:j4 l bs qs D=false):A6 l bs qs D=.tup [.sl [],B false]:=by
 unfold A6;rw[Y6 (by rw[h];simp)]
theorem E3{q:ga}(hs:l[i]?=some s)(hq:qs[i]?=some q)(h:lq s.js s.ms q.1 q.2=false):j4 l bs qs D=false:=by
 have h1:(List.range l.length).all (JQ l qs)=false:=by
  rw[<-Bool.not_eq_true];intro a;have:=L4.1 a i (ZL.2 (th.1 hs).1);unfold JQ at this;rw[hs,hq]at this;simp only at this;rw[h]at this;cases this
 unfold j4;rw[h1];simp
def E4(l:List Sce)(a:List ga)(i:Nat):Prop:=∀j s q,j<i->l[j]?=some s->a[j]?=some q->lq s.js s.ms q.1 q.2=true
theorem G9(h1:ic l bs=0)(c:qs.length=l.length)(d:0<=D)(e:D<=20)(h5:E4 l qs l.length):j4 l bs qs D=true:=by
 have h6:(List.range l.length).all (JQ l qs)=true:=L4.2 λi hi=>by
  unfold JQ;split
  .rename_i s q a b;exact h5 i s q (ZL.1 hi) a b
  .rfl
 unfold j4;rw[h6,ZH h1,ZH c,ZH d,ZH e];rfl
theorem E5{q:ga}(h:E4 l qs i)(hs:l[i]?=some s)(hq:qs[i]?=some q)(b:lq s.js s.ms q.1 q.2=true):E4 l qs (i+1):=by
 intro j d c f h1 a;by_cases e:j=i
 .subst e;rw[hs]at h1;rw[hq]at a;injection h1 with h1;injection a with a;subst h1 a;exact b
 .exact h j d c (by omega) h1 a
theorem A7{q:ga}(f:dc (bn q)=true)(a:Nat):∀x∈io (bn q) a,MvIn q.1 x:=by
 intro x b;unfold io qA at b;obtain⟨v,c,b⟩:=List.mem_flatMap.1 b;have c:=ZL.1 c;unfold BZ at b;obtain⟨u,e,rfl⟩:=Zv.1 b;rw[Bm f c]at e;obtain⟨w,d,rfl⟩:=Zv.1 e;have h1:=ZL.1 (yAa.1 d).1
 have g:(bn q).np.length=q.1.length:=by simp[bn]
 exact⟨by simp only;omega,by simp only;omega,by simp only;omega,by simp only;omega⟩
theorem rx{q:ga}(b:dc (bn q)=true)(a:Nat):(io (bn q) a).length<=q.1.length*q.1.length:=by
 have:=ve b a (bn q).np.length (Zf _);unfold io
 have e:(bn q).np.length=q.1.length:=by simp[bn]
 rw[e]at this|-;exact this
def E9:EdR:=⟨1,[(0,0,[])],0,0,⟨0,[],[]⟩⟩
def iF(r:Int):Sce:=⟨kj 12 1,[],[⟨0,r,[(0,0,0)]⟩],[]⟩
def oT:Bool->List (List Int)
 |true=>[[0],[6],[12]]
 |false=>[[0],[12]]
def oe:Bool->Nat->List aB
 |false,0=>[lW 0 1 12]
 |false,_=>[vK 0 1 12]
 |true,0=>[lW 0 1 6,lW 1 2 6]
 |true,1=>[vK 0 1 6,lW 1 2 6]
 |true,_=>[vK 0 1 6,vK 1 2 6]
def A9(b:Bool):ga:=(oT b,oe b 2)
theorem Up:xh (kj 12 1) [] (oT false) 1 2=oe false 0:=by kernel_rfl
theorem Uq:xh (kj 12 1) [] (oT true) 1 3=oe true 0:=by kernel_rfl
theorem Ur:aP (kj 12 1) []=0:=by kernel_rfl
theorem Qk(b:Bool):∀x∈oT b,aY (kj 12 1) [] x=true:=by cases b<;>decide +kernel
theorem Us:ao (iF 1)=0:=by kernel_rfl
theorem Ut:ao (iF 2)=0:=by kernel_rfl
theorem Uu:oW (iF 1) [0] [12] 2=E9:=by kernel_rfl
theorem Uv:oW (iF 2) [0] [12] 2=E9:=by kernel_rfl
theorem Uw:oW (iF 1) [0] [6] 2=E9:=by kernel_rfl
theorem Ux:oW (iF 2) [0] [6] 2=E9:=by kernel_rfl
theorem Uy:oW (iF 1) [6] [12] 2=E9:=by kernel_rfl
theorem Uz:oW (iF 2) [6] [12] 2=E9:=by kernel_rfl
def gg(l:List Int):Nat->Nat
 |0=>nn l 0
 |i+1=>nn l (nn l (nn l (nn l (gg l i))))
def tf(l:List Int)(i:Nat):Int:=1+nx l (gg l i) 2
def JV(l:List Int)(i:Nat):Bool:=decide (nx l (nn l (gg l i)) 2=1)
def Ti(l:List Int)(i:Nat):Vc:=(3*nx l (nn l (nn l (gg l i))) 9,2*nx l (nn l (nn l (nn l (gg l i)))) 4,0)
def og(l:List Int):Nat:=(2+nx l 0 2).toNat
def wc(l:List Int)(k:Nat):List Sce:=(List.range k).map λi=>iF (tf l i)
def rX(l:List Int)(k:Nat):List Vc:=(List.range k).map (Ti l)
def o8(l:List Int)(k:Nat):List ga:=(List.range k).map λi=>A9 (JV l i)
theorem JW(l:List Int):∀i,gg l i<=1+4*i
 |0=>by have:=sU l 0;simp only[gg];omega
 |i+1=>by
  have h:=JW l i;have a:=sU l (gg l i);have b:=sU l (nn l (gg l i));have c:=sU l (nn l (nn l (gg l i)));have d:=sU l (nn l (nn l (nn l (gg l i))));simp only[gg];omega
theorem LE(l:List Int)(i:Nat):tf l i=1\/tf l i=2:=by
 have:=mV l (gg l i) (k:=2) (by decide) (by decide);unfold tf;omega
theorem JX(l:List Int):(og l=2\/og l=3)/\(og l:Int)=2+nx l 0 2:=by
 have:=mV l 0 (k:=2) (by decide) (by decide);unfold og;omega
theorem Hd(l:List Int)(k:Nat):(wc l k).length=k:=by simp[wc]
theorem Fa(l:List Int)(k:Nat):(rX l k).length=k:=by simp[rX]
theorem Fb(l:List Int)(k:Nat):(o8 l k).length=k:=by simp[o8]
theorem Ba(r:Int):ScL (iF r):=⟨by simp[iF,kj],by simp[iF],by simp[iF],by simp[iF],λh a=>by simp[iF]at a;subst a;simp⟩
theorem Sa(l:List Int)(k:Nat):∀s∈wc l k,ScL s:=by
 intro s a;obtain⟨i,_,rfl⟩:=Zv.1 a;exact Ba _
theorem Oq(b:Bool):(A9 b).1.length<=3/\1<=(A9 b).1.length/\(A9 b).2.length<=2/\∀x∈(A9 b).1,x.length=1:=by
 cases b<;>simp[A9,oT,oe]
theorem Ql(l:List Int)(k:Nat):∀q∈o8 l k,∃b,q=A9 b:=by
 intro q hq;obtain⟨i,_,rfl⟩:=Zv.1 hq;exact⟨_,rfl⟩
theorem Dj(js:List J)(ms:List Ms)(l:Int)(a:js.length<=9223372036854775807):aF 79 (eK js ms) (Z l) (B (bK js.length l)):=by
 refine Dp func79 λC hP hN=>?_
 with_reducible repeat' (first|refine Sp.h ?_|((first|refine Ss.h ?_|(refine Sb.h ?_ ?_ ?_<;>(try intro hgd)<;>try exact Xy))<;>simp -implicitDefEqProofs (maxSteps:=2000000) [hP,hN])|refine X2 ?_ ?_|(refine Xd ?_ ?_<;>intro hcd<;>try exact Xx))
 all_goals (simp only[bK,Is,Zj]at *;first|done|(simp;intros;omega)|(simp;omega)|omega)
theorem U1(a b:Bool):ag prog (Op.equal 4 (.bool a) (.bool b))=some (a==b):=by cases a<;>cases b<;>kernel_rfl
def NI(x:AV):Option Bool:=match x with
 |.pv (.val (.bool a))=>some a
 |_=>none
theorem Ft{x:AV}{a:Bool}(h:NI x=some a):x=.pv (B a):=by
 unfold NI at h;split at h
 .injection h with h;subst h;rfl
 .cases h
def IE(x y:AV)(fb:Option bG):Option bG:=match NI x,NI y with
 |some a,some b=>some (.pv (.val (.bool !(a==b))),[])
 |_,_=>fb
@[simp] theorem SF(a b:Bool)(fb:Option bG):IE (.pv (.val (.bool a))) (.pv (.val (.bool b))) fb=some (.pv (.val (.bool !(a==b))),[]):=rfl
@[simp] theorem YW(x y:Operand):
 aU prog ⟨dst,.binOp .neq 4 x y 4,ty,pos,aft,g⟩ ρ=IE (ρ x) (ρ y) (jH prog ⟨dst,.binOp .neq 4 x y 4,ty,pos,aft,g⟩ ρ):=by
 unfold IE;split
 .rename_i a b c d
  exact Gm rfl (Ft c) (Ft d) (by kernel_rfl) (U1 a b)
 .rfl
def kc(xs:List Int)(x:Int):Bool:=xs.any (λy=>y==x)
theorem QH(xs:List Int)(x:Int)(m:xs.length<=9223372036854775807):aF 268 (zs xs) (Z x) (B (kc xs x)):=by
 have hd:kc xs x=xs.any (λy=>y==x):=rfl;rw[hd];refine Dp func268 λC hP hN=>?_;refine Gz ?_;refine WP.loopN [] xs.length (λi st=>st.t 0=.pv (zs xs)/\st.t 1=.pv (Z x)/\st.t 5=.pv (Z i)/\∀k y,k<i->xs[k]?=some y->(y==x)=false) (by simp) ?_;rintro i st hi ⟨g0,g1,g5,hq⟩;by_cases a:i<xs.length
 .have n:=ab a m
  generalize d:xs[i]=v at *
  have f:xs[i]?=some v:=by rw[an a,d]
  have c:=IK (p:=λy=>y==x) f hq;have j:=L5 (p:=λy=>y==x) f
  cases e:(v==x)with
  |true=>
   have g:=j e;exact Gy
  |false=>
   have b:=c e;refine Gz ?_
   all_goals (intro k y l g;simpa using b k y l g)
 .have hn:=L6 hq a
  exact Gy
def tP(js:List J)(k:Int):Int:=((js[k.toNat]?).map J.parent).getD (-1)
def fu(js:List J):Nat->Int->List Int
 |0,_=>[]
 |f+1,k=>if k=-1 then[]else fu js f (tP js k)++[k]
theorem yE(b:sx js){k:Int}(c:0<=k)(h1:k<js.length):∃j,js[k.toNat]?=some j/\tP js k=j.parent/\-1<=j.parent/\j.parent<k:=by
 have a:js[k.toNat]?=some (js[k.toNat]'(by omega)):=an _;have:=b _ _ a;unfold Ck at this;refine⟨_,a,by simp[tP,a],by omega,by omega⟩
theorem Fu{js:List J}(d:sx js):∀(f:Nat)(k:Int),-1<=k->k<js.length->(k+1).toNat<=f->fu js (f+1) k=fu js f k
 |0,k,e,h1,hf=>by
  have:k=-1:=by omega
  subst this;simp[fu]
 |f+1,k,e,h1,hf=>by
  by_cases c:k=-1
  .subst c;simp[fu]
  .obtain⟨j,_,hp,a,b⟩:=yE d (by omega) h1
   rw[fu,Y6 c,Fu d f (tP js k) (by omega) (by omega) (by omega),fu,Y6 c]
theorem Fw(c:sx js)(e:js.length<=10){k:Int}(d:0<=k)(h1:k<js.length):fu js 11 k=fu js 11 (tP js k)++[k]:=by
 obtain⟨j,_,hp,a,b⟩:=yE c d h1;rw[fu,Y6 (by omega),Fu c 10 (tP js k) (by omega) (by omega) (by omega)]
theorem Cj{js:List J}:∀(f:Nat)(k:Int),(fu js f k).length<=f
 |0,k=>by simp[fu]
 |f+1,k=>by
  have:=Cj (js:=js) f (tP js k);rw[fu];split
  .simp
  .simp;omega
theorem QI(js:List J)(ms:List Ms)(l:Int)(E:js.length<=10)(F:ms.length<=9223372036854775807)(u:aP js ms=0)(y:bK js.length l=true):aF 267 (eK js ms) (Z l) (zs (fu js 11 l)):=by
 have B:=qF js ms (by omega) F;have z:=Dj js ms l (by omega);rw[u]at B;rw[y]at z;obtain⟨x,_,_⟩:=tp u;simp only[bK,up,Is]at y;refine Dp func267 λC hP hN=>?_;refine Gz ?_;refine WP.nilsl 5 (by simp) ?_;refine WP.loopN [26] (l+1).toNat (λi st=>∃(A:List Int)(k:Int),st.t 2=.ptr 2 0/\st.h 2=some (.box [.pv (.sl (js.map aO)),.pv (.sl (ms.map aX))] true false)/\st.t 5=.pv (zs A)/\st.t 6=.pv (Z k)/\st.h 26=none/\st.h 28=none/\fu js 11 k++A=fu js 11 l/\-1<=k/\k<js.length/\(k+1).toNat+i<=(l+1).toNat/\A.length<=i) ⟨[],l,by simp;omega⟩ ?_;rintro i st hi ⟨A,k,g2,f,g5,s,b,c,p,I,k1,K,D⟩;by_cases a:k=-1
 .subst a
  have q:A=fu js 11 l:=by rw[<-p];simp[fu]
  subst q;exact Gy
 .obtain⟨j,m,hp,G,pb⟩:=yE x (by omega) k1
  have d:(k != -1)=true:=by simp[a]
  obtain⟨n,rfl⟩:∃n:Nat,k=n:=⟨k.toNat,by omega⟩
  have g:n<js.length:=by omega
  have o:∀h,js[n]'h=j:=λh=>by rw[Zo,an h]at m;exact ZQ m
  rw[Zo]at m;have r:=Fw x E (k:=n) (by omega) k1;rw[r,yAd,hp]at p
  have v:A.length<=9:=by omega
  have H:(A.map Z).length=A.length:=by simp
  with_reducible iterate 8 any_goals (first|refine Sp.h ?_|((first|refine Wh [26] ?_|refine Ss.h ?_|(refine Sb.h ?_ ?_ ?_<;>(try intro hgd)<;>try exact Xy))<;>simp -implicitDefEqProofs (maxSteps:=2000000) [hP,hN,g2,f,g5,s,b,c,a,d,m,o,g,show(1+A.length)*8<=140737488355328 by omega,show(A.length+1)*8<=140737488355328 by omega,show 1+A.length<=9223372036854775807 by omega,show A.length+1<=9223372036854775807 by omega])|refine X2 ?_ ?_|(refine Xd ?_ ?_<;>intro hcd<;>try exact Xx))
  refine WP.freeze 5 (k:=26) (e:=3) (sz:=1) (fz:=0) (xs:=((n:Int)::A).map Z) (by simp) (by simp;omega) ?_;refine GT (zAc g2 f g5 s b c a d m (gA o g)) ?_;exact⟨by omega,(n:Int)::A,by simp,by simpa using p,G,by omega,by omega,by simp;omega⟩
def Kb(js:List J)(a b:Int)(k:Nat):Bool:=kc (fu js 11 a) k !=kc (fu js 11 b) k
def qH(js:List J)(a b:Int)(n:Nat):List Int:=((List.range n).filter (Kb js a b)).map Int.ofNat
theorem LQ(js:List J)(a b:Int)(n:Nat):qH js a b (n+1)=qH js a b n++(if Kb js a b n=true then[(n:Int)]else[]):=by
 simp only[qH,yAs,yAH,yAV]
 congr 1
 cases h:Kb js a b n<;>simp[h]
theorem Ho(js:List J)(a b:Int)(n:Nat):(qH js a b n).length<=n:=by
 simp only[qH,ZB];exact yAG (yBb _ _) (by simp)
theorem U2(js:List J)(ms:List Ms)(a b:Int)(s:js.length<=10)(m:ms.length<=9223372036854775807)(k:aP js ms=0)(q:bK js.length a=true)(r:bK js.length b=true):gu 229 (eK js ms) (Z a) (Z b) (zs (qH js a b js.length)):=by
 have z:=qF js ms (by omega) m;have x:=Dj js ms a (by omega);have y:=Dj js ms b (by omega);have D:=QI js ms a s m k q;have E:=QI js ms b s m k r;have F:=Cj (js:=js) 11 a;have G:=Cj (js:=js) 11 b;rw[k]at z;rw[q]at x;rw[r]at y;refine Dp func229 λC hP hN=>?_;refine ki [9] trivial ?_;refine WP.loopN [] js.length (λi st=>st.t 3=.ptr 3 0/\st.h 3=some (.box [.pv (.sl (js.map aO)),.pv (.sl (ms.map aX))] true false)/\st.t 7=.pv (zs (fu js 11 a))/\st.t 8=.pv (zs (fu js 11 b))/\st.t 10=.pv (Z i)/\st.t 9=.arr 9 (qH js a b i).length/\st.h 9=some (.row 3 1 ((qH js a b i).map Z) 0)) (by simp[qH]) ?_;rintro i st hi ⟨g3,f,n,o,e,p,g⟩;by_cases d:i<js.length
 .have u:=ab d (by omega)
  have hS:=LQ js a b i;have hL:=Ho js a b i;have hd:Kb js a b i=(kc (fu js 11 a) i !=kc (fu js 11 b) i):=rfl;have c1:=QH (fu js 11 a) i (by omega);have j:=QH (fu js 11 b) i (by omega)
  have c:(i:Int)<(js.length:Int):=by omega
  generalize fu js 11 a=A at *;generalize fu js 11 b=v at *;cases h1:kc A i<;>cases B:kc v i<;>rw[h1]at c1 hd<;>rw[B]at j hd<;>rw[hd]at hS<;>simp only[bne_self_eq_false,Y9,Zk,yAX,show(true !=false)=true from rfl,show(false !=true)=true from rfl,Zp]at hS
  all_goals (generalize qH js a b i=P at *;rw[hS])
  .skip
   exact Gy
  .skip
   with_reducible repeat' (first|refine Sp.h ?_|((first|refine Wd ?_|refine Ss.h ?_|refine Sc.h (c1) ?_|refine Sc.h (j) ?_|(refine Sb.h ?_ ?_ ?_<;>(try intro hgd)<;>try exact Xy))<;>simp -implicitDefEqProofs (maxSteps:=2000000) [hP,hN,g3,f,n,o,e,p,g,d,c,u,show(P.length+1)*8<=140737488355328 by omega,show P.length<=9223372036854775806 by omega]<;>try refine Ya ?_)|refine X2 ?_ ?_|(refine Xd ?_ ?_<;>intro hcd<;>try exact Xx))
  .skip
   with_reducible repeat' (first|refine Sp.h ?_|((first|refine Wd ?_|refine Ss.h ?_|refine Sc.h (c1) ?_|refine Sc.h (j) ?_|(refine Sb.h ?_ ?_ ?_<;>(try intro hgd)<;>try exact Xy))<;>simp -implicitDefEqProofs (maxSteps:=2000000) [hP,hN,g3,f,n,o,e,p,g,d,c,u,show(P.length+1)*8<=140737488355328 by omega,show P.length<=9223372036854775806 by omega]<;>try refine Ya ?_)|refine X2 ?_ ?_|(refine Xd ?_ ?_<;>intro hcd<;>try exact Xx))
  .skip
   exact Gy
 .have l:i=js.length:=by omega
  subst l;exact Gy
def qg(js:List J)(k:Nat):Bool:=match js[k]? with
 |some j=>decide (j.lo<j.hi)
 |none=>false
def wh(js:List J)(a b:Int):Bool:=(qH js a b js.length).all λk=>!qg js k.toNat
theorem U3(js:List J)(ms:List Ms)(a b:Int)(L:js.length<=10)(D:ms.length<=9223372036854775807)(u:aP js ms=0)(y:bK js.length a=true)(z:bK js.length b=true):gu 188 (eK js ms) (Z a) (Z b) (B (wh js a b)):=by
 have G:=qF js ms (by omega) D;have E:=Dj js ms a (by omega);have F:=Dj js ms b (by omega);have Q:=U2 js ms a b L D u y z;have R:=Ho js a b js.length;rw[u]at G;rw[y]at E;rw[z]at F;have hd:wh js a b=(qH js a b js.length).all λk=>!qg js k.toNat:=rfl
 have f:∀x∈qH js a b js.length,∃n:Nat,x=n/\n<js.length:=λx d=>by
  simp only[qH,Zv,yAa,ZL]at d;obtain⟨n,hn,rfl⟩:=d;exact⟨n,rfl,hn.1⟩
 rw[hd];generalize qH js a b js.length=P at *;refine Dp func188 λC hP hN=>?_;refine Gz ?_;refine WP.loopN [] P.length (λi st=>st.t 3=.ptr 3 0/\st.h 3=some (.box [.pv (.sl (js.map aO)),.pv (.sl (ms.map aX))] true false)/\st.t 7=.pv (zs P)/\st.t 8=.pv (Z i)/\∀k x,k<i->P[k]?=some x->(!qg js x.toNat)=true) (by simp) ?_;rintro i st hi ⟨g3,H,M,N,hq⟩;by_cases c:i<P.length
 .have O:=ab c (by omega)
  obtain⟨n,s,o⟩:=f P[i] (Zs c);generalize r:P[i]=v at *
  have d:P[i]?=some v:=by rw[an c,r]
  have q:=mY (p:=λk=>!qg js k.toNat) d hq;subst s;obtain⟨j,m⟩:∃j,js[n]?=some j:=⟨_,an o⟩
  have I:∀h,js[n]'h=j:=λh=>by rw[an h]at m;exact ZQ m
  have g:qg js n=decide (j.lo<j.hi):=by simp[qg,m]
  by_cases A:j.lo<j.hi
  .have e:(P.all λk=>!qg js k.toNat)=false:=by
    rw[yAA];exact⟨_,An d,by simp[g,A]⟩
   exact Gy
  .have l:=q (by simp[g,A])
   refine Gz ?_
   all_goals (intro k x K d;simpa using l k x K d)
 .have e:(P.all λk=>!qg js k.toNat)=true:=pD hq c
  exact Gy
theorem U4(s:Sce)(a b:Int)(A:s.sks.length<=9223372036854775807):gu 189 (aN s) (Z a) (Z b) (B (jM s a b)):=by
 have o:jM s a b=s.sks.any (xv a b):=rfl;rw[o];refine Dp func189 λC hP hN=>?_;refine Gz ?_;refine WP.loopN [8] s.sks.length (λi st=>st.t 3=.ptr 3 0/\st.h 3=some (.box [.pv (.sl (s.js.map aO)),.pv (.sl (s.ms.map aX)),.pv (.sl (s.shs.map aZ)),.pv (.sl (s.sks.map aJ))] true false)/\st.t 1=.pv (Z a)/\st.t 2=.pv (Z b)/\st.t 7=.pv (Z i)/\st.h 8=none/\∀k x,k<i->s.sks[k]?=some x->xv a b x=false) (by simp) ?_;rintro i st hi ⟨g3,m,g1,g2,z,n,hq⟩;by_cases c:i<s.sks.length
 .have D:=ab c A
  have d:(i:Int)<(s.sks.length:Int):=by omega
  generalize j:s.sks[i]=v at *
  have f:s.sks[i]?=some v:=by rw[an c,j]
  have e:=IK (p:=xv a b) f hq;have l:=L5 (p:=xv a b) f;have hp:xv a b v=((v.1==a&&v.2==b)||(v.1==b&&v.2==a)):=rfl;cases c1:(v.1==a)<;>cases q:(v.2==b)<;>cases r:(v.1==b)<;>cases y:(v.2==a)<;>rw[c1,q,r,y]at hp<;>simp only[yAo,yAr,ZI,Bool.or_false,Bool.false_or,Bool.or_self,Bool.or_true,Bool.true_or]at hp
  all_goals (first|(have g:=e hp;clear e l)|(have F:=l hp;clear e l))
  all_goals
   with_reducible repeat' (first|refine Sp.h ?_|((first|refine Ss.h ?_|(refine Sb.h ?_ ?_ ?_<;>(try intro hgd)<;>try exact Xy))<;>simp -implicitDefEqProofs (maxSteps:=2000000) [hP,hN,g3,m,g1,g2,z,n,c,d,D,f,j,c1,q,r,y])|refine X2 ?_ ?_|(refine Xd ?_ ?_<;>intro hcd<;>try exact Xx))
  all_goals (first|exact λk u v E f=>g k (u,v) (by omega) f|exact⟨_,_,An f,hp⟩)
 .have:=L6 hq c
  have d:¬(i:Int)<(s.sks.length:Int):=by omega
  exact Gy
theorem Hq(s:Sce)(hs:ScL s):aR 39 (aN s) (Z (ao s)):=by
 have W:=qF s.js s.ms hs.js hs.ms;obtain⟨Q,l2,l3,l4,l5⟩:=hs;by_cases H:aP s.js s.ms=0
 case neg=>
  have hf:ao s=aP s.js s.ms:=by simp[ao,H]
  have Y:(aP s.js s.ms !=0)=true:=by simp[H]
  rw[hf];generalize aP s.js s.ms=r at *;refine Dp func39 λC hP hN=>?_;exact Gy
 rw[H]at W;by_cases h1:24<s.shs.length
 .have hf:ao s=901:=by simp[ao,H,h1]
  have N:(24:Int)<s.shs.length:=by omega
  rw[hf];refine Dp func39 λC hP hN=>?_;exact Gy
 have N:¬(24:Int)<s.shs.length:=by omega
 have hf:ao s=if gm s.js.length s.shs≠0 then gm s.js.length s.shs else if 64<s.sks.length then 903 else if s.sks.all (gB s.js.length)=true then 0 else 903:=by simp only[ao,H,h1,Zk,ne_eq,yAw]
 rw[hf];refine Dp func39 λC hP hN=>?_;refine Gz ?_;refine WP.loopN [5] s.shs.length (λi st=>st.t 1=.ptr 1 0/\st.h 1=some (.box [.pv (.sl (s.js.map aO)),.pv (.sl (s.ms.map aX)),.pv (.sl (s.shs.map aZ)),.pv (.sl (s.sks.map aJ))] true false)/\st.t 4=.pv (Z i)/\st.h 5=none/\∀k x,k<i->s.shs[k]?=some x->bB s.js.length x=0) (by simp) ?_;rintro i st hi ⟨g1,o,g4,E,hq⟩;by_cases g:i<s.shs.length
 .have U:=ab g l3
  have l:(i:Int)<(s.shs.length:Int):=by omega
  have q:=wi (n:=s.js.length) g hq;have y:=λhe=>mY (p:=λx=>bB s.js.length x==0) (an g) (λk x D u=>by simp[hq k x D u]) he;generalize B:s.shs[i]=v at *
  have u:s.shs[i]?=some v:=by rw[an g,B]
  have T:=Dj s.js s.ms v.link Q;have S:=Nq v.rad 1 1048576;have lv:=l5 v (An u)
  cases D:bK s.js.length v.link with
  |false=>
   have e:bB s.js.length v=902:=by simp[bB,D]
   have d:=q (by rw[e];decide);rw[e]at d;rw[D]at T;exact Gy
   all_goals simp[d]
  |true=>
   rw[D]at T
   cases K:aT v.rad 1 1048576 with
   |false=>
    have e:bB s.js.length v=902:=by
     unfold bB;rw[Y6];simp only[aT]at K;simp only[up,Is];simp at K;omega
    have d:=q (by rw[e];decide);rw[e]at d;rw[K]at S;exact Gy
    all_goals simp[d]
   |true=>
    rw[K]at S;by_cases h3:(v.pts.length:Int)<1
    .have e:bB s.js.length v=902:=by
      unfold bB;rw[Y6];simp only[up,Is];omega
     have d:=q (by rw[e];decide);rw[e]at d;exact Gy
     all_goals simp[d]
    by_cases h4:(8:Int)<v.pts.length
    .have e:bB s.js.length v=902:=by
      unfold bB;rw[Y6];simp only[up,Is];omega
     have d:=q (by rw[e];decide);rw[e]at d;exact Gy
     all_goals simp[d]
    have ad:¬v.pts.length<1:=by omega
    have ah:¬8<v.pts.length:=by omega
    have e:bB s.js.length v=if v.pts.all (ay 4194304)=true then 0 else 805:=by
     unfold bB;rw[Zd];simp only[aT,up,Is]at K|-;exact⟨⟨⟨⟨D,by omega⟩,by omega⟩,by omega⟩,by omega⟩
    rw[e]at q y;refine Gz ?_;refine WP.loopN [] v.pts.length (λk st=>st.t 1=.ptr 1 0/\st.h 1=some (.box [.pv (.sl (s.js.map aO)),.pv (.sl (s.ms.map aX)),.pv (.sl (s.shs.map aZ)),.pv (.sl (s.sks.map aJ))] true false)/\st.t 4=.pv (Z i)/\st.t 5=.ptr 5 0/\st.h 5=some (.box [.pv (Z v.link),.pv (Z v.rad),.pv (aw v.pts)] true false)/\st.t 6=.pv (Z k)/\∀j x,j<k->v.pts[j]?=some x->ay 4194304 x=true) (by simp[g1,o,g4]) ?_;clear g1 o g4 E;rintro k st ak ⟨g1,o,g4,g5,E,g6,hn⟩;by_cases F:k<v.pts.length
    .have ar:=ab F lv
     have J:(k:Int)<(v.pts.length:Int):=by omega
     generalize P:v.pts[k]=p at *
     have V:v.pts[k]?=some p:=by rw[an F,P]
     have M:=wW p.1 p.2.1 p.2.2 4194304 (by decide) (by decide);have O:ay 4194304 p=fk p.1 p.2.1 p.2.2 4194304:=rfl;rw[<-O]at M;have L:=mY (p:=ay 4194304) V hn
     cases z:ay 4194304 p with
     |true=>
      rw[z]at M;have m:=L z;refine Gz ?_
      all_goals (intro j a b c hj G;exact m j (a,b,c) (by omega) G)
     |false=>
      rw[z]at M
      have f:v.pts.all (ay 4194304)=false:=by
       rw[yAA];exact⟨p,An V,by simp[z]⟩
      rw[f]at q;have d:=q (by decide);simp only[Y9,Zk]at d;exact Gy
      all_goals simp[d]
    .have f:v.pts.all (ay 4194304)=true:=pD hn F
     have J:¬(k:Int)<(v.pts.length:Int):=by omega
     rw[f]at y
     have m:∀k x,k<i+1->s.shs[k]?=some x->bB s.js.length x=0:=λk x D u=>by simpa using y (by simp) k x D u
     refine Gz ?_
     all_goals exact m
 .have hz:gm s.js.length s.shs=0:=ss (λk x u=>hq k x (by have:=(th.1 u).1;omega) u)
  have l:¬(i:Int)<(s.shs.length:Int):=by omega
  rw[hz];by_cases aj:64<s.sks.length
  .have I:(64:Int)<s.sks.length:=by omega
   exact Gy
  .have I:¬(64:Int)<s.sks.length:=by omega
   refine Gz ?_;refine WP.loopN [] s.sks.length (λi st=>st.t 1=.ptr 1 0/\st.h 1=some (.box [.pv (.sl (s.js.map aO)),.pv (.sl (s.ms.map aX)),.pv (.sl (s.shs.map aZ)),.pv (.sl (s.sks.map aJ))] true false)/\st.t 7=.pv (Z i)/\∀k x,k<i->s.sks[k]?=some x->gB s.js.length x=true) (by simp[g1,o]) ?_;clear g1 o g4 E hq g l;rintro i st hi ⟨g1,o,X,hq⟩;by_cases g:i<s.sks.length
   .have U:=ab g l4
    have l:(i:Int)<(s.sks.length:Int):=by omega
    generalize B:s.sks[i]=v at *
    have u:s.sks[i]?=some v:=by rw[an g,B]
    have y:=mY (p:=gB s.js.length) u hq;have hp:gB s.js.length v=(bK s.js.length v.1&&bK s.js.length v.2):=rfl;have c1:=Dj s.js s.ms v.1 Q;have R:=Dj s.js s.ms v.2 Q
    cases z:gB s.js.length v with
    |true=>
     have A:=hp;rw[z]at A;simp only[Bool.true_eq,up]at A;rw[A.1]at c1;rw[A.2]at R;have m:=y z;refine Gz ?_
     all_goals (intro j a b hj G;exact m j (a,b) (by omega) G)
    |false=>
     have f:s.sks.all (gB s.js.length)=false:=by
      rw[yAA];exact⟨v,An u,by simp[z]⟩
     rw[f];rw[z]at hp
     cases k1:bK s.js.length v.1<;>cases k2:bK s.js.length v.2<;>rw[k1]at c1 hp<;>rw[k2]at R hp<;>try (exact absurd hp (by decide))
     all_goals
      exact GS (zAb g1 o X g l U u B)
   .have f:s.sks.all (gB s.js.length)=true:=pD hq g
    have l:¬(i:Int)<(s.sks.length:Int):=by omega
    rw[f];exact Gy
theorem YI(s:Sce)(p q:List Int)(hs:ScL s)(c:ao s=0)(hp:aY s.js s.ms p=true)(hq:aY s.js s.ms q=true):gu 42 (aN s) (zs p) (zs q) (B true):=by
 have b:=Hq s hs;have c1:=Nn s.js s.ms p hs.js hs.ms;have a:=Nn s.js s.ms q hs.js hs.ms;rw[c]at b;rw[hp]at c1;rw[hq]at a;obtain⟨js,ms,d,sks⟩:=s;simp only at c1 a;refine Dp func42 λC hP hN=>?_
 with_reducible repeat' (first|refine Sp.h ?_|((first|refine Ss.h ?_|refine Sc.h (b) ?_|refine Sc.h (c1) ?_|refine Sc.h (a) ?_|(refine Sb.h ?_ ?_ ?_<;>(try intro hgd)<;>try exact Xy))<;>simp -implicitDefEqProofs (maxSteps:=2000000) [hP,hN])|refine X2 ?_ ?_|(refine Xd ?_ ?_<;>intro hcd<;>try exact Xx))
theorem M4(p q:List Int)(x:Pc):(de p q x).length<=p.length:=by
 unfold de eT;split
 .simp;omega
 .simp
def Hy(a b:Int):Int:=if a.tmod b<0 then wr (wr (a.tdiv b)-1)else wr (a.tdiv b)
def Ki(a b:Int):Int:=if 0<a.tmod b then wr (wr (a.tdiv b)+1)else wr (a.tdiv b)
theorem Hz(a b:Int)(c:b≠0):aF 83 (Z a) (Z b) (Z (Hy a b)):=by
 refine Dp func83 λC hP hN=>?_
 with_reducible repeat' (first|refine Sp.h ?_|((first|refine Ss.h ?_|(refine Sb.h ?_ ?_ ?_<;>(try intro hgd)<;>try exact Xy))<;>simp -implicitDefEqProofs (maxSteps:=2000000) [hP,hN,c])|refine X2 ?_ ?_|(refine Xd ?_ ?_<;>intro hcd<;>try exact Xx))
 all_goals (first|(simp_all[Hy];done)|((try simp_all[Hy])<;>(try omega)<;>grind))
theorem FK(a b:Int)(c:b≠0):aF 84 (Z a) (Z b) (Z (Ki a b)):=by
 refine Dp func84 λC hP hN=>?_
 with_reducible repeat' (first|refine Sp.h ?_|((first|refine Ss.h ?_|(refine Sb.h ?_ ?_ ?_<;>(try intro hgd)<;>try exact Xy))<;>simp -implicitDefEqProofs (maxSteps:=2000000) [hP,hN,c])|refine X2 ?_ ?_|(refine Xd ?_ ?_<;>intro hcd<;>try exact Xx))
 all_goals (first|(simp_all[Ki];done)|((try simp_all[Ki])<;>(try omega)<;>grind))
theorem ut{k:Int}(c:0<b)(h1:k*b<=a)(d:a<(k+1)*b):a/b=k:=by
 have:=(yA8 c).2 h1;have:=(yA9 c).2 d;omega
theorem HA{B:Int}(c:0<b)(d:0<=B)(h1:-B<=a)(e:a<=B):-B<=a/b/\a/b<=B:=by
 constructor
 .refine(yA8 c).2 ?_
  have:B*1<=B*b:=yAe (by omega) d;rw[yBf];omega
 .have f:a/b<B+1:=(yA9 c).2 (by
   have:(B+1)*1<=(B+1)*b:=yAe (by omega) (by omega)
   omega)
  omega
theorem uw(c:0<b)(h1:-4611686018427387904<=a)(d:a<=4611686018427387904):Hy a b=a/b:=by
 have hq:=yBc a b;have g:-b<a.tmod b:=yA0 a c;have i:a.tmod b<b:=yAI a c;have f:=HA (a:=a) (b:=b) (B:=4611686018427387904) c (by decide) h1 d;rw[Int.mul_comm]at hq;unfold Hy;split
 .have e:a/b=a.tdiv b-1:=ut c (by rw[Int.sub_mul];omega) (by rw[show a.tdiv b-1+1=a.tdiv b by omega];omega)
  rw[aa (n:=a.tdiv b) (by omega) (by omega),aa (by omega) (by omega),e]
 .have e:a/b=a.tdiv b:=ut c (by omega) (by rw[Int.add_mul];omega)
  rw[aa (n:=a.tdiv b) (by omega) (by omega),e]
theorem sD(c:0<b)(h1:-4611686018427387904<=a)(f:a<=4611686018427387904):Ki a b=cZ a b:=by
 have hq:=yBc a b;have g:-b<a.tmod b:=yA0 a c;have i:a.tmod b<b:=yAI a c;have d:=HA (a:=-a) (b:=b) (B:=4611686018427387904) c (by decide) (by omega) (by omega);rw[Int.mul_comm]at hq;unfold Ki cZ;split
 .have e:-a/b=-a.tdiv b-1:=ut c (by rw[Int.sub_mul,yBf];omega) (by rw[show -a.tdiv b-1+1=-a.tdiv b by omega,yBf];omega)
  rw[aa (n:=a.tdiv b) (by omega) (by omega),aa (by omega) (by omega),e];omega
 .have e:-a/b=-a.tdiv b:=ut c (by rw[yBf];omega) (by rw[Int.add_mul,yBf];omega)
  rw[aa (n:=a.tdiv b) (by omega) (by omega),e];omega
theorem Q5(x:Int×Int):aR 144 (aJ x) (Z (rP x)):=by
 cases a:aS x.1 x.2 with
 |false=>
  have b:rP x=0:=by simp[rP,a]
  rw[b];refine Dp func144 λC hP hN=>?_;have d:=@rL;exact GS a
 |true=>
  have c:=dV.1 a
  have b:rP x=Hy (wr (x.1+x.2)) 2:=by
   rw[rP,a];simp only[Zp];rw[aa (by omega) (by omega),uw (by decide) (by omega) (by omega),Int.fdiv_eq_ediv_of_nonneg _ (by decide)]
  rw[b];refine Dp func144 λC hP hN=>?_
  with_reducible repeat' (first|refine Sp.h ?_|((first|refine Ss.h ?_|refine Sc.h (rL _ _) ?_|refine Sc.h (Hz _ _ (by decide)) ?_|(refine Sb.h ?_ ?_ ?_<;>(try intro hgd)<;>try exact Xy))<;>simp -implicitDefEqProofs (maxSteps:=2000000) [hP,hN,a])|refine X2 ?_ ?_|(refine Xd ?_ ?_<;>intro hcd<;>try exact Xx))
def IR(x y z u:AV)(fb:Option bG):Option bG:=match x,y,z,u with
 |.pv (.val (.int .i64 a)),.pv (.val (.int .i64 b)),.pv (.val (.int .i64 c)),.pv (.val (.int .i64 d))=>some (.pv (Z (max a (max b (max c d)))),[])
 |_,_,_,_=>fb
@[simp] theorem SK(a b c d:Int)(fb:Option bG):IR (.pv (.val (.int .i64 a))) (.pv (.val (.int .i64 b))) (.pv (.val (.int .i64 c))) (.pv (.val (.int .i64 d))) fb=some (.pv (Z (max a (max b (max c d)))),[]):=rfl
@[simp] theorem XQ(x y z u:Operand):
 aU prog ⟨dst,.call ⟨.builtin .max,#[x,y,z,u],ts⟩,ty,pos,aft,g⟩ ρ=IR (ρ x) (ρ y) (ρ z) (ρ u) (jH prog ⟨dst,.call ⟨.builtin .max,#[x,y,z,u],ts⟩,ty,pos,aft,g⟩ ρ):=by
 unfold IR;split
 .rename_i a b c d f i j e
  refine dF (by simp[Op.operands,Call.operands,f,i,j,e,er]) ?_;unfold execOp;simp[resolve,invoke,builtin,Builtin.max_,f,i,j,e,qM,er,Builtin.max2,af,cH]
  try omega
 .rfl
def IS(x y z u:AV)(fb:Option bG):Option bG:=match x,y,z,u with
 |.pv (.val (.int .i64 a)),.pv (.val (.int .i64 b)),.pv (.val (.int .i64 c)),.pv (.val (.int .i64 d))=>some (.pv (Z (min a (min b (min c d)))),[])
 |_,_,_,_=>fb
@[simp] theorem SL(a b c d:Int)(fb:Option bG):IS (.pv (.val (.int .i64 a))) (.pv (.val (.int .i64 b))) (.pv (.val (.int .i64 c))) (.pv (.val (.int .i64 d))) fb=some (.pv (Z (min a (min b (min c d)))),[]):=rfl
@[simp] theorem XR(x y z u:Operand):
 aU prog ⟨dst,.call ⟨.builtin .min,#[x,y,z,u],ts⟩,ty,pos,aft,g⟩ ρ=IS (ρ x) (ρ y) (ρ z) (ρ u) (jH prog ⟨dst,.call ⟨.builtin .min,#[x,y,z,u],ts⟩,ty,pos,aft,g⟩ ρ):=by
 unfold IS;split
 .rename_i a b c d f i j e
  refine dF (by simp[Op.operands,Call.operands,f,i,j,e,er]) ?_;unfold execOp;simp[resolve,invoke,builtin,Builtin.min_,f,i,j,e,qM,er,Builtin.min2,af,cH]
  try omega
 .rfl
theorem Mg(a:Int):aR 290 (Z a) (Z (fe a)):=by
 refine Dp func290 λC hP hN=>?_;refine Gz ?_
 all_goals (try simp[fe])<;>(try omega)
theorem NL(a b:Int):aF 305 (Z a) (Z b) (I (fe a) (fe b)):=by
 have c1:=Mg a;have c:=Mg b;refine Dp func305 λC hP hN=>?_;exact Gy
 all_goals (try simp[fe])<;>(try omega)
theorem FP(a:Int):aR 266 (Z a) (I (fe a) (fe a)):=by
 have c1:=Mg a;refine Dp func266 λC hP hN=>?_;exact Gy
 all_goals (try simp[fe])<;>(try omega)
theorem FQ{c:Int}:aF 288 (I a b) (I c d) (aJ (ff (a,b) (c,d))):=by
 have v1:=rL a b;have v2:=rL c d;cases h1:aS a b<;>cases e:aS c d<;>rw[h1]at v1<;>rw[e]at v2
 case true.true=>
  have f:ff (a,b) (c,d)=(fe (a+c),fe (b+d)):=by simp only[ff,h1,e,yAo,Zp]
  rw[f];rw[dV]at h1 e;have w1:i64.wrap (a+c)=a+c:=aa;have w2:i64.wrap (b+d)=b+d:=aa;refine Dp func288 λC hP hN=>?_
  with_reducible repeat' (first|refine Sp.h ?_|((first|refine Ss.h ?_|refine Sc.h (v1) ?_|refine Sc.h (v2) ?_|refine Sc.h (NL _ _) ?_)<;>simp -implicitDefEqProofs [hP,hN,w1,w2]))
 all_goals (
  have f:ff (a,b) (c,d)=(0,0):=by simp[ff,h1,e]
  rw[f])
 all_goals
  refine Dp func288 λC hP hN=>?_;exact Gy
theorem Mh:aR 304 (I a b) (aJ (gX (a,b))):=by
 have v1:=rL a b;cases h1:aS a b<;>rw[h1]at v1
 .have c:gX (a,b)=(0,0):=by simp[gX,h1]
  rw[c];refine Dp func304 λC hP hN=>?_;exact Gy
 .have c:gX (a,b)=(-b,-a):=by simp only[gX,h1,Zp]
  rw[c];rw[dV]at h1;have w1:i64.wrap (0-a)=-a:=(aa (n:=0-a) (by omega) (by omega)).trans (by omega);have w2:i64.wrap (0-b)=-b:=(aa (n:=0-b) (by omega) (by omega)).trans (by omega);have d:i64.wrap (-a)=-a:=aa;have e:i64.wrap (-b)=-b:=aa;refine Dp func304 λC hP hN=>?_;exact Gy
theorem IT{c:Int}:aF 289 (I a b) (I c d) (aJ (en (a,b) (c,d))):=by
 have v1:=rL a b;have v2:=rL c d;cases h1:aS a b<;>cases e:aS c d<;>rw[h1]at v1<;>rw[e]at v2
 case true.true=>
  have j:=dV.1 h1;have k:=dV.1 e;have n:=bj (a:=a) (b:=c) 2147483648 2147483648 (by omega) (by omega) (by omega) (by omega);have o:=bj (a:=a) (b:=d) 2147483648 2147483648 (by omega) (by omega) (by omega) (by omega);have p:=bj (a:=b) (b:=c) 2147483648 2147483648 (by omega) (by omega) (by omega) (by omega);have q:=bj (a:=b) (b:=d) 2147483648 2147483648 (by omega) (by omega) (by omega) (by omega);have w1:i64.wrap (a*c)=a*c:=aa;have w2:i64.wrap (a*d)=a*d:=aa;have l:i64.wrap (b*c)=b*c:=aa;have m:i64.wrap (b*d)=b*d:=aa;have i:=Hz (min (a*c) (min (a*d) (min (b*c) (b*d)))) 65536 (by decide);have g:=FK (max (a*c) (max (a*d) (max (b*c) (b*d)))) 65536 (by decide);rw[uw (by decide) (by omega) (by omega)]at i;rw[sD (by decide) (by omega) (by omega)]at g
  have f:en (a,b) (c,d)=(fe (min (a*c) (min (a*d) (min (b*c) (b*d)))/65536),fe (cZ (max (a*c) (max (a*d) (max (b*c) (b*d)))) 65536)):=by simp only[en,h1,e,yAo,Zp]
  rw[f];refine Dp func289 λC hP hN=>?_
  with_reducible repeat' (first|refine Sp.h ?_|((first|refine Wd ?_|refine Ss.h ?_|refine Sc.h (v1) ?_|refine Sc.h (v2) ?_|refine Sc.h (i) ?_|refine Sc.h (g) ?_|refine Sc.h (NL _ _) ?_)<;>simp -implicitDefEqProofs [hP,hN,w1,w2,l,m]<;>try refine Ya ?_))
 all_goals (
  have f:en (a,b) (c,d)=(0,0):=by simp[en,h1,e]
  rw[f])
 all_goals
  refine Dp func289 λC hP hN=>?_;exact Gy
theorem Mi(a:Int):aR 333 (Z a) (Z (a%65536)):=by
 have h1:a.tmod 65536=a-65536*a.tdiv 65536:=by have:=yBc a 65536;omega
 have b:-65536<a.tmod 65536:=yA0 a (by decide);have c:a.tmod 65536<65536:=yAI a (by decide);have w1:i64.wrap (a.tmod 65536+65536)=a.tmod 65536+65536:=aa
 have e:(a.tmod 65536+65536).tmod 65536=a%65536:=by
  rw[yBm (by omega)];omega
 refine Dp func333 λC hP hN=>?_;exact GS (gA w1 e)
theorem Rf(x:Int)(r:0<=x)(h1:x<=8192):aR 341 (Z x) (.tup [DV (λk=>if k=0 then 0 else eg x k),DV (λk=>if k=0 then 0 else eh x k)]):=by
 have w1:i64.wrap (x*6746518852)=x*6746518852:=aa;have w2:i64.wrap (x*6746518853)=x*6746518853:=aa
 have c1:aW prog 83 [.pv (Z (x*6746518852)),.pv (Z 65536)] [] [] (.pv (Z (eg x 1))):=by
  have:=Hz (x*6746518852) 65536 (by decide);rw[uw (by decide) (by omega) (by omega)]at this;exact this
 have Q:aW prog 84 [.pv (Z (x*6746518853)),.pv (Z 65536)] [] [] (.pv (Z (eh x 1))):=by
  have:=FK (x*6746518853) 65536 (by decide);rw[sD (by decide) (by omega) (by omega)]at this;exact this
 have m1:∀j,i64.wrap (eg x j*eg x 1)=eg x j*eg x 1:=λj=>aa (by have:=um r h1 j;omega) (by have:=um r h1 j;omega);have m2:∀j,i64.wrap (eh x j*eh x 1)=eh x j*eh x 1:=λj=>aa (by have:=pA r h1 j;omega) (by have:=pA r h1 j;omega)
 have O:∀j,aW prog 83 [.pv (Z (eg x (j+1)*eg x 1)),.pv (Z 1073741824)] [] [] (.pv (Z (eg x (j+2)))):=λj=>by
  have:=Hz (eg x (j+1)*eg x 1) 1073741824 (by decide);have T:=um r h1 (j+1);rw[uw (by decide) (by omega) (by omega)]at this;exact this
 have P:∀j,aW prog 84 [.pv (Z (eh x (j+1)*eh x 1)),.pv (Z 1073741824)] [] [] (.pv (Z (eh x (j+2)))):=λj=>by
  have:=FK (eh x (j+1)*eh x 1) 1073741824 (by decide);have T:=pA r h1 (j+1);rw[sD (by decide) (by omega) (by omega)]at this;exact this
 generalize hf:eg x=f at *;generalize S:eh x=g at *
 obtain⟨e,p⟩:∃e:Nat->Int,e=λk=>if k=0 then 0 else f k:=⟨_,rfl⟩
 obtain⟨l,q⟩:∃l:Nat->Int,l=λk=>if k=0 then 0 else g k:=⟨_,rfl⟩
 rw[<-p,<-q]
 have n:e 0=0:=by rw[p];rfl
 have o:l 0=0:=by rw[q];rfl
 have s1:∀k,f (k+1)=e (k+1):=λk=>by rw[p];simp
 have s2:∀k,g (k+1)=l (k+1):=λk=>by rw[q];simp
 rw[show f 1=e 1 from s1 0]at c1 m1 O;rw[show g 1=l 1 from s2 0]at Q m2 P
 have n1:∀j,i64.wrap (e (j+1)*e 1)=e (j+1)*e 1:=λj=>by rw[<-s1 j];exact m1 _
 have n2:∀j,i64.wrap (l (j+1)*l 1)=l (j+1)*l 1:=λj=>by rw[<-s2 j];exact m2 _
 have d3:∀j,aW prog 83 [.pv (Z (e (j+1)*e 1)),.pv (Z 1073741824)] [] [] (.pv (Z (e (j+2)))):=λj=>by have:=O j;rw[s1 j,s1 (j+1)]at this;exact this
 have d4:∀j,aW prog 84 [.pv (Z (l (j+1)*l 1)),.pv (Z 1073741824)] [] [] (.pv (Z (l (j+2)))):=λj=>by have:=P j;rw[s2 j,s2 (j+1)]at this;exact this
 have s:=n1 0;have u:=n1 1;have v:=n1 2;have y:=n1 3;have z:=n1 4;have A:=n1 5;have B:=n1 6;have D:=n1 7;have E:=n1 8;have F:=n2 0;have G:=n2 1;have H:=n2 2;have I:=n2 3;have J:=n2 4;have K:=n2 5;have L:=n2 6;have M:=n2 7;have N:=n2 8;simp only[Nat.reduceAdd]at s u v y z A B D E F G H I J K L M N;clear n1 n2 m1 m2 O P s1 s2 hf S p q;refine Dp func341 λC hP hN=>?_;refine Gz ?_;refine WP.loopN [] 9 (λi st=>st.t 2=.ptr 2 0/\st.t 3=.ptr 3 0/\st.t 4=.ptr 4 0/\st.t 5=.ptr 5 0/\st.t 6=.pv (Z (i+2:Nat))/\st.h 2=some (.box (iR e 0) true false)/\st.h 3=some (.box (iR e 0) true false)/\st.h 4=some (.box (iR e (i+2)) true false)/\st.h 5=some (.box (iR l (i+2)) true false)) (by simp[iR,n,o]) ?_;rintro i st hi ⟨g2,g3,g4,g5,m,a,b,c,d⟩
 have R:i=0\/i=1\/i=2\/i=3\/i=4\/i=5\/i=6\/i=7\/i=8\/i=9:=by omega
 rcases R with rfl|rfl|rfl|rfl|rfl|rfl|rfl|rfl|rfl|rfl
 all_goals (simp only[iR]at a b c d;simp at m a b c d)
 .skip
  with_reducible repeat' (first|refine Sp.h ?_|((first|refine Wd ?_|refine Ss.h ?_|refine Sc.h (d3 0) ?_|refine Sc.h (d4 0) ?_)<;>simp -implicitDefEqProofs [hP,hN,g2,g3,g4,g5,m,a,b,c,d,n,o,s,F,iR]<;>try refine Ya ?_))
 .skip
  with_reducible repeat' (first|refine Sp.h ?_|((first|refine Wd ?_|refine Ss.h ?_|refine Sc.h (d3 1) ?_|refine Sc.h (d4 1) ?_)<;>simp -implicitDefEqProofs [hP,hN,g2,g3,g4,g5,m,a,b,c,d,n,o,u,G,iR]<;>try refine Ya ?_))
 .skip
  with_reducible repeat' (first|refine Sp.h ?_|((first|refine Wd ?_|refine Ss.h ?_|refine Sc.h (d3 2) ?_|refine Sc.h (d4 2) ?_)<;>simp -implicitDefEqProofs [hP,hN,g2,g3,g4,g5,m,a,b,c,d,n,o,v,H,iR]<;>try refine Ya ?_))
 .skip
  with_reducible repeat' (first|refine Sp.h ?_|((first|refine Wd ?_|refine Ss.h ?_|refine Sc.h (d3 3) ?_|refine Sc.h (d4 3) ?_)<;>simp -implicitDefEqProofs [hP,hN,g2,g3,g4,g5,m,a,b,c,d,n,o,y,I,iR]<;>try refine Ya ?_))
 .skip
  with_reducible repeat' (first|refine Sp.h ?_|((first|refine Wd ?_|refine Ss.h ?_|refine Sc.h (d3 4) ?_|refine Sc.h (d4 4) ?_)<;>simp -implicitDefEqProofs [hP,hN,g2,g3,g4,g5,m,a,b,c,d,n,o,z,J,iR]<;>try refine Ya ?_))
 .skip
  with_reducible repeat' (first|refine Sp.h ?_|((first|refine Wd ?_|refine Ss.h ?_|refine Sc.h (d3 5) ?_|refine Sc.h (d4 5) ?_)<;>simp -implicitDefEqProofs [hP,hN,g2,g3,g4,g5,m,a,b,c,d,n,o,A,K,iR]<;>try refine Ya ?_))
 .skip
  with_reducible repeat' (first|refine Sp.h ?_|((first|refine Wd ?_|refine Ss.h ?_|refine Sc.h (d3 6) ?_|refine Sc.h (d4 6) ?_)<;>simp -implicitDefEqProofs [hP,hN,g2,g3,g4,g5,m,a,b,c,d,n,o,B,L,iR]<;>try refine Ya ?_))
 .skip
  with_reducible repeat' (first|refine Sp.h ?_|((first|refine Wd ?_|refine Ss.h ?_|refine Sc.h (d3 7) ?_|refine Sc.h (d4 7) ?_)<;>simp -implicitDefEqProofs [hP,hN,g2,g3,g4,g5,m,a,b,c,d,n,o,D,M,iR]<;>try refine Ya ?_))
 .skip
  with_reducible repeat' (first|refine Sp.h ?_|((first|refine Wd ?_|refine Ss.h ?_|refine Sc.h (d3 8) ?_|refine Sc.h (d4 8) ?_)<;>simp -implicitDefEqProofs [hP,hN,g2,g3,g4,g5,m,a,b,c,d,n,o,E,N,iR]<;>try refine Ya ?_))
 .skip
  exact Gy
theorem Rg(lo hi:Int)(h1:-4611686018427387904<=hi)(b:hi<=4611686018427387904)(c:-4611686018427387904<=lo)(d:lo<=4611686018427387904):aF 342 (Z lo) (Z hi) (aJ (tQ lo hi)):=by
 have c1:=Hz lo 16384 (by decide);have a:=FK hi 16384 (by decide);rw[uw (by decide) c d]at c1;rw[sD (by decide) h1 b]at a;have e:tQ lo hi=(max 0 (lo/16384),min 65536 (cZ hi 16384)):=rfl;rw[e];generalize lo/16384=u at *;generalize cZ hi 16384=v at *;refine Dp func342 λC hP hN=>?_;exact Gy
 all_goals (try simp)<;>(try omega)
theorem HC{n:Int}(hd:0<d):cZ n d=aM n d:=by
 unfold cZ aM;have e:=Int.mul_ediv_add_emod (n+d-1) d;have a:=yAg (n+d-1) (show d≠0 by omega);have b:=yAi (n+d-1) hd
 have:-n/d=-((n+d-1)/d):=by
  refine ut hd ?_ ?_
  .rw[yBf,Int.mul_comm];omega
  .rw[Int.add_mul,yBf,Int.mul_comm];omega
 omega
theorem cR{g:Nat->Int}(b:∀j,0<=g j/\g j<=1073741824)(j:Nat)(d:Int)(a:0<d):aW prog 84 [.pv (Z (g j)),.pv (Z d)] [] [] (.pv (Z (aM (g j) d))):=by
 have:=FK (g j) d (by omega);have h:=b j;rw[sD a (by omega) (by omega),HC a]at this;exact this
theorem fR{f:Nat->Int}(hf:∀j,0<=f j/\f j<=1073741824)(j:Nat)(d:Int)(a:0<d):aW prog 83 [.pv (Z (f j)),.pv (Z d)] [] [] (.pv (Z (f j/d))):=by
 have:=Hz (f j) d (by omega);have h:=hf j;rw[uw a (by omega) (by omega)]at this;exact this
theorem Wf(x:Int)(b:0<=x)(h1:x<=8192):aR 336 (Z x) (aJ (vA x)):=by
 have m:=Rf x b h1;have hf:=pn b h1;have a:=po b h1;have c:vA x=tQ (eG (oE (eg x) (eh x))) (eG (lH (eg x) (eh x))):=rfl;rw[c];generalize eg x=f at *;generalize eh x=g at *;simp only[oE,lH,V8,Q4];have A:=hf 1;have u:=dX (a 3).1 (a 3).2 (d:=6) (by decide) (by decide);have e:=cR a 3 6 (by decide);have r:=sg hf 5 (d:=120) (by decide);have o:=fR hf 5 120 (by decide);have y:=dX (a 7).1 (a 7).2 (d:=5040) (by decide) (by decide);have j:=cR a 7 5040 (by decide);have v1:=a 1;have q:=sg hf 3 (d:=6) (by decide);have n:=fR hf 3 6 (by decide);have v:=dX (a 5).1 (a 5).2 (d:=120) (by decide) (by decide);have i:=cR a 5 120 (by decide);have s:=sg hf 7 (d:=5040) (by decide);have p:=fR hf 7 5040 (by decide);have z:=dX (a 9).1 (a 9).2 (d:=362880) (by decide) (by decide);have k:=cR a 9 362880 (by decide);have w0:i64.wrap (f 1-aM (g 3) 6)=f 1-aM (g 3) 6:=aa;have w1:i64.wrap (f 1-aM (g 3) 6+f 5/120)=f 1-aM (g 3) 6+f 5/120:=aa;have w2:i64.wrap (f 1-aM (g 3) 6+f 5/120-aM (g 7) 5040)=f 1-aM (g 3) 6+f 5/120-aM (g 7) 5040:=aa;have B:i64.wrap (g 1-f 3/6)=g 1-f 3/6:=aa;have D:i64.wrap (g 1-f 3/6+aM (g 5) 120)=g 1-f 3/6+aM (g 5) 120:=aa;have E:i64.wrap (g 1-f 3/6+aM (g 5) 120-f 7/5040)=g 1-f 3/6+aM (g 5) 120-f 7/5040:=aa;have F:i64.wrap (g 1-f 3/6+aM (g 5) 120-f 7/5040+aM (g 9) 362880)=g 1-f 3/6+aM (g 5) 120-f 7/5040+aM (g 9) 362880:=aa;have l:=Rg (f 1-aM (g 3) 6+f 5/120-aM (g 7) 5040) (g 1-f 3/6+aM (g 5) 120-f 7/5040+aM (g 9) 362880) (by omega) (by omega) (by omega) (by omega);refine Dp func336 λC hP hN=>?_;exact Gy
theorem Wg(x:Int)(b:0<=x)(h1:x<=8192):aR 337 (Z x) (aJ (zX x)):=by
 have n:=Rf x b h1;have hf:=pn b h1;have a:=po b h1;have e:zX x=tQ (eG (sf (eg x) (eh x))) (eG (pB (eg x) (eh x))):=rfl;rw[e];generalize eg x=f at *;generalize eh x=g at *;simp only[sf,pB,Q4,V9];have z:=dX (a 2).1 (a 2).2 (d:=2) (by decide) (by decide);have j:=cR a 2 2 (by decide);have u:=sg hf 4 (d:=24) (by decide);have p:=fR hf 4 24 (by decide);have B:=dX (a 6).1 (a 6).2 (d:=720) (by decide) (by decide);have c6:=cR a 6 720 (by decide);have y:=sg hf 8 (d:=40320) (by decide);have r:=fR hf 8 40320 (by decide);have i:=dX (a 10).1 (a 10).2 (d:=3628800) (by decide) (by decide);have c:=cR a 10 3628800 (by decide);have s:=sg hf 2 (d:=2) (by decide);have o:=fR hf 2 2 (by decide);have A:=dX (a 4).1 (a 4).2 (d:=24) (by decide) (by decide);have k:=cR a 4 24 (by decide);have v:=sg hf 6 (d:=720) (by decide);have q:=fR hf 6 720 (by decide);have D:=dX (a 8).1 (a 8).2 (d:=40320) (by decide) (by decide);have l:=cR a 8 40320 (by decide);have w0:i64.wrap (1073741824-aM (g 2) 2)=1073741824-aM (g 2) 2:=aa;have w1:i64.wrap (1073741824-aM (g 2) 2+f 4/24)=1073741824-aM (g 2) 2+f 4/24:=aa;have w2:i64.wrap (1073741824-aM (g 2) 2+f 4/24-aM (g 6) 720)=1073741824-aM (g 2) 2+f 4/24-aM (g 6) 720:=aa;have E:i64.wrap (1073741824-aM (g 2) 2+f 4/24-aM (g 6) 720+f 8/40320)=1073741824-aM (g 2) 2+f 4/24-aM (g 6) 720+f 8/40320:=aa;have F:i64.wrap (1073741824-aM (g 2) 2+f 4/24-aM (g 6) 720+f 8/40320-aM (g 10) 3628800)=1073741824-aM (g 2) 2+f 4/24-aM (g 6) 720+f 8/40320-aM (g 10) 3628800:=aa;have G:i64.wrap (1073741824-f 2/2)=1073741824-f 2/2:=aa;have H:i64.wrap (1073741824-f 2/2+aM (g 4) 24)=1073741824-f 2/2+aM (g 4) 24:=aa;have I:i64.wrap (1073741824-f 2/2+aM (g 4) 24-f 6/720)=1073741824-f 2/2+aM (g 4) 24-f 6/720:=aa;have J:i64.wrap (1073741824-f 2/2+aM (g 4) 24-f 6/720+aM (g 8) 40320)=1073741824-f 2/2+aM (g 4) 24-f 6/720+aM (g 8) 40320:=aa;have m:=Rg (1073741824-aM (g 2) 2+f 4/24-aM (g 6) 720+f 8/40320-aM (g 10) 3628800) (1073741824-f 2/2+aM (g 4) 24-f 6/720+aM (g 8) 40320) (by omega) (by omega) (by omega) (by omega);refine Dp func337 λC hP hN=>?_;exact Gy
theorem Rh(r:Int)(b:0<=r)(h1:r<=16384):aR 334 (Z r) (aJ (ek r)):=by
 by_cases h:r<=8192
 .have a:ek r=vA r:=by simp[ek,h]
  rw[a];have c:=Wf r b h;refine Dp func334 λC hP hN=>?_;exact Gy
 .have a:ek r=zX (16384-r):=by simp[ek,h]
  rw[a];have c:=Wg (16384-r) (by omega) (by omega);have w:i64.wrap (16384-r)=16384-r:=aa;refine Dp func334 λC hP hN=>?_;exact Gy
theorem Mj(a:Int):aR 321 (Z a) (aJ (pC a)):=by
 have b:pC a=qC (a%65536):=rfl;have f:=Mi a;have m0:0<=a%65536:=yAg _ (by decide);have m1:a%65536<65536:=yAi _ (by decide);rw[b];generalize a%65536=m at *;have j:m.tdiv 16384=m/16384:=Zr m0;have k:m.tmod 16384=m%16384:=yBm m0;have w1:i64.wrap (m/16384)=m/16384:=aa;have c:0<=m%16384:=yAg _ (by decide);have l:m%16384<16384:=yAi _ (by decide);have d:=Rh (m%16384) c (by omega);have e:=Rh (16384-m%16384) (by omega) (by omega);have w2:i64.wrap (16384-m%16384)=16384-m%16384:=aa
 have hq:m/16384=0\/m/16384=1\/m/16384=2\/m/16384=3:=by omega
 unfold qC;generalize ek (m%16384)=u at *;generalize ek (16384-m%16384)=v at *;have g:aW prog 304 [.pv (aJ u)] [] [] (.pv (aJ (gX u))):=Mh;have i:aW prog 304 [.pv (aJ v)] [] [] (.pv (aJ (gX v))):=Mh;rcases hq with hq|hq|hq|hq<;>rw[hq]
 all_goals
  refine Dp func321 λC hP hN=>?_;exact Gy
theorem Ri(a:Int):aR 320 (Z a) (aJ (vB a)):=by
 have c:=Mi a;have m0:0<=a%65536:=yAg _ (by decide);have m1:a%65536<65536:=yAi _ (by decide);have d:=Mj (a%65536+16384);have w:i64.wrap (a%65536+16384)=a%65536+16384:=aa;have b:vB a=pC (a%65536+16384):=rfl;rw[b];refine Dp func320 λC hP hN=>?_;exact Gy
def qj(a:Iv)(t:Int):Bool:=decide (a.1+(t-a.1)%65536<=a.2)
theorem Rk(t:Int)(h1:-2147483648<=a)(d:a<=2147483648)(e:-2147483648<=t)(f:t<=2147483648):aF 332 (I a b) (Z t) (B (qj (a,b) t)):=by
 have c:=Mi (t-a);have m0:0<=(t-a)%65536:=yAg _ (by decide);have m1:(t-a)%65536<65536:=yAi _ (by decide);have w1:i64.wrap (t-a)=t-a:=aa;have w2:i64.wrap (a+(t-a)%65536)=a+(t-a)%65536:=aa;refine Dp func332 λC hP hN=>?_;refine Gz ?_
 all_goals rfl
theorem Dr{a:Iv}{t:Int}(b:aS a.1 a.2=true):mt a t=qj a t:=by
 have m0:0<=(t-a.1)%65536:=yAg _ (by decide);simp only[mt,qj,b,Zu];rw[ZH (show a.1<=a.1+(t-a.1)%65536 by omega),Zu]
theorem Rl(v:Int->Iv)(t u:Int)(m:-2147483648<=t)(f:t<=2147483648)(n:-2147483648<=u)(g:u<=2147483648):wo 319 (I a b) (aJ (v a)) (aJ (v b)) (Z t) (Z u) (aJ (iQ (a,b) v t u)):=by
 have i:=rL a b
 cases c:aS a b with
 |false=>
  rw[c]at i
  have d:iQ (a,b) v t u=(0,0):=by simp[iQ,c]
  rw[d];refine Dp func319 λC hP hN=>?_;exact Gy
 |true=>
  rw[c]at i;have e:=dV.1 c;have w:i64.wrap (b-a)=b-a:=aa;have k:=Rk (b:=b) t e.1 (by omega) m f;have l:=Rk (b:=b) u e.1 (by omega) n g;by_cases j:65536<=b-a
  .have d:iQ (a,b) v t u=(-65536,65536):=by simp only[iQ,c];rw[Y6 (by simp),Zd j]
   rw[d];refine Dp func319 λC hP hN=>?_;exact Gy
  .have d:iQ (a,b) v t u=(if qj (a,b) u then gb (if qj (a,b) t then gb (gb (v a) (v b)) (qf 65536)else gb (v a) (v b)) (qf (-65536))else(if qj (a,b) t then gb (gb (v a) (v b)) (qf 65536)else gb (v a) (v b))):=by
    simp only[iQ,c];rw[Y6 (by simp),Y6 j,Dr c,Dr c]
   rw[d];have c1:=Il (v a).1 (v a).2 (v b).1 (v b).2;have q:=FP 65536;have r:=FP (-65536);have o:qf 65536=(fe 65536,fe 65536):=rfl;have p:qf (-65536)=(fe (-65536),fe (-65536)):=rfl;rw[o,p];generalize fe 65536=k1 at *;generalize fe (-65536)=k2 at *;generalize y:gb (v a) (v b)=H at *;have s:=Il H.1 H.2 k1 k1;have x:=Il H.1 H.2 k2 k2;have c6:=Il (gb H (k1,k1)).1 (gb H (k1,k1)).2 k2 k2;cases m1:qj (a,b) t<;>cases m2:qj (a,b) u<;>rw[m1]at k<;>rw[m2]at l<;>simp only[Y9,Zk,Zp]
   all_goals
    refine Dp func319 λC hP hN=>?_;exact Gy
theorem Wj:aR 303 (I a b) (aJ (sh (a,b))):=by
 have h:sh (a,b)=iQ (a,b) pC 16384 49152:=rfl;rw[h];have c:=Rl (a:=a) (b:=b) pC 16384 49152 (by decide) (by decide) (by decide) (by decide);have c1:=Mj a;have d:=Mj b;generalize pC a=u at *;generalize pC b=v at *;refine Dp func303 λC hP hN=>?_;exact Gy
theorem Wk:aR 302 (I a b) (aJ (si (a,b))):=by
 have h:si (a,b)=iQ (a,b) vB 0 32768:=rfl;rw[h];have c:=Rl (a:=a) (b:=b) vB 0 32768 (by decide) (by decide) (by decide) (by decide);have c1:=Ri a;have d:=Ri b;generalize vB a=u at *;generalize vB b=v at *;refine Dp func302 λC hP hN=>?_;exact Gy
theorem Kn{x:Iv}(h:aS x.1 x.2=true):ff (0,0) x=x:=by
 have h':=dV.1 h;simp only[ff,h,show aS 0 0=true from rfl,yAo,Zp,fe]
 ext<;>(try simp only[])<;>omega
theorem IU(x y:Iv):aS (en x y).1 (en x y).2=true:=by
 unfold en;split
 .rw[dV];simp only[fe,cZ];omega
 .rfl
theorem yL(m v:aq):jp m v 3=ff (ff (en m.1 v.1) (en m.2.1 v.2.1)) (en m.2.2 v.2.2):=by
 show ff (ff (ff (0,0) (en m.1 v.1)) (en m.2.1 v.2.1)) (en m.2.2 v.2.2)=_;rw[Kn (IU _ _)]
theorem NM:fe 65536=65536:=by decide
theorem Rm(x y z:Int):aR 228 (oa x y z) (bi (dq (x,y,z))):=by
 have hp:dq (x,y,z)=((fe x,fe x),(fe y,fe y),(fe z,fe z)):=rfl;rw[hp];refine Dp func228 λC hP hN=>?_;have a:=@FP;exact GS trivial
theorem Ro:aF 264 (V6 a0 a1 a2 a3 a4 a5) (V6 b0 b1 b2 b3 b4 b5) (bi (sj ((a0,a1),(a2,a3),(a4,a5)) ((b0,b1),(b2,b3),(b4,b5)))):=by
 refine Dp func264 λC hP hN=>?_;have a:=@FQ;refine GT trivial ?_
 all_goals (try simp[sj])
theorem Rp:BC 225 (yF mu):=by
 have c1:=FP 65536;rw[NM]at c1;refine Dp func225 λC hP hN=>?_;refine Gz ?_
 all_goals (try simp[mu])
theorem Wn(x:Int):aF 287 (Z x) (I a b) (yF (eO x (a,b))):=by
 have j:=FP 65536;rw[NM]at j;have i:=rL a b
 cases e:aS a b with
 |false=>
  rw[e]at i
  have c:eO x (a,b)=(ba,ba,ba):=by simp[eO,e]
  rw[c];refine Dp func287 λC hP hN=>?_
  with_reducible repeat' (first|refine Sp.h ?_|((first|refine Ss.h ?_|refine Sc.h (i) ?_)<;>simp -implicitDefEqProofs [hP,hN,ba]))
 |true=>
  rw[e]at i;have m:=Wj (a:=a) (b:=b);have k:=Wk (a:=a) (b:=b);generalize hS:sh (a,b)=S at *;generalize d:si (a,b)=Q at *;have l:=Mh (a:=S.1) (b:=S.2);by_cases f:x=0
  .have c:eO x (a,b)=(((65536,65536),(0,0),(0,0)),((0,0),Q,gX S),((0,0),S,Q)):=by simp[eO,e,f,hS,d]
   rw[c];subst f;refine Dp func287 λC hP hN=>?_;exact Gy
  by_cases h1:x=1
  .have c:eO x (a,b)=((Q,(0,0),S),((0,0),(65536,65536),(0,0)),(gX S,(0,0),Q)):=by simp[eO,e,h1,hS,d]
   rw[c];subst h1;refine Dp func287 λC hP hN=>?_;exact Gy
  by_cases g:x=2
  .have c:eO x (a,b)=((Q,gX S,(0,0)),(S,Q,(0,0)),((0,0),(0,0),(65536,65536))):=by simp[eO,e,g,hS,d]
   rw[c];subst g;refine Dp func287 λC hP hN=>?_;exact Gy
  have c:eO x (a,b)=(ba,ba,ba):=by simp[eO,e,f,h1,g]
  rw[c]
  have n:(x==0)=false:=by simp[f]
  have o:(x==1)=false:=by simp[h1]
  have p:(x==2)=false:=by simp[g]
  refine Dp func287 λC hP hN=>?_
  with_reducible repeat' (first|refine Sp.h ?_|((first|refine Wd ?_|refine Ss.h ?_|refine Sc.h (i) ?_|refine Sc.h (m) ?_|refine Sc.h (k) ?_|refine Sc.h (l) ?_|refine Sc.h (j) ?_)<;>simp -implicitDefEqProofs [hP,hN,ba,n,o,p,f,h1,g]<;>try refine Ya ?_))
theorem Rq:aF 265 (FC a0 a1 a2 a3 a4 a5 a6 a7 a8 a9 a10 a11 a12 a13 a14 a15 a16 a17) (V6 v0 v1 v2 v3 v4 v5) (bi (un (((a0,a1),(a2,a3),(a4,a5)),((a6,a7),(a8,a9),(a10,a11)),((a12,a13),(a14,a15),(a16,a17))) ((v0,v1),(v2,v3),(v4,v5)))):=by
 obtain⟨D,f⟩:∃D:aq,D=un (((a0,a1),(a2,a3),(a4,a5)),((a6,a7),(a8,a9),(a10,a11)),((a12,a13),(a14,a15),(a16,a17))) ((v0,v1),(v2,v3),(v4,v5)):=⟨_,rfl⟩
 have j:ff (ff (en (a0,a1) (v0,v1)) (en (a2,a3) (v2,v3))) (en (a4,a5) (v4,v5))=D.1:=by rw[f];exact(yL ((a0,a1),(a2,a3),(a4,a5)) ((v0,v1),(v2,v3),(v4,v5))).symm
 have k:ff (ff (en (a6,a7) (v0,v1)) (en (a8,a9) (v2,v3))) (en (a10,a11) (v4,v5))=D.2.1:=by rw[f];exact(yL ((a6,a7),(a8,a9),(a10,a11)) ((v0,v1),(v2,v3),(v4,v5))).symm
 have l:ff (ff (en (a12,a13) (v0,v1)) (en (a14,a15) (v2,v3))) (en (a16,a17) (v4,v5))=D.2.2:=by rw[f];exact(yL ((a12,a13),(a14,a15),(a16,a17)) ((v0,v1),(v2,v3),(v4,v5))).symm
 rw[<-f];clear f;refine Dp func265 λC hP hN=>?_;refine Gz ?_;refine WP.loopN [] 3 (λi st=>st.t 2=.ptr 2 0/\st.t 3=.ptr 3 0/\st.t 4=.ptr 4 0/\st.t 5=.ptr 5 0/\st.h 2=some (.box [.pv (Z a0),.pv (Z a1),.pv (Z a2),.pv (Z a3),.pv (Z a4),.pv (Z a5),.pv (Z a6),.pv (Z a7),.pv (Z a8),.pv (Z a9),.pv (Z a10),.pv (Z a11),.pv (Z a12),.pv (Z a13),.pv (Z a14),.pv (Z a15),.pv (Z a16),.pv (Z a17)] true false)/\st.h 3=some (.box [.pv (Z v0),.pv (Z v1),.pv (Z v2),.pv (Z v3),.pv (Z v4),.pv (Z v5)] true false)/\st.h 4=some (.box (c6 D 0) true false)/\st.t 6=.pv (Z i)/\st.h 5=some (.box (c6 D i) true false)) (by simp[c6]) ?_;rintro i st hi ⟨g2,c,g4,g5,d,e,a,g,b⟩;rcases dA hi with rfl|rfl|rfl|rfl
 all_goals (simp[c6]at g a b)
 .skip
  with_reducible repeat' (first|refine Sp.h ?_|((first|refine Wd ?_|refine Ss.h ?_|refine Sc.h (IT) ?_|refine Sc.h (FQ) ?_)<;>simp -implicitDefEqProofs [hP,hN,g2,c,g4,g5,g,d,e,a,b,j,c6]<;>try refine Ya ?_))
 .skip
  with_reducible repeat' (first|refine Sp.h ?_|((first|refine Wd ?_|refine Ss.h ?_|refine Sc.h (IT) ?_|refine Sc.h (FQ) ?_)<;>simp -implicitDefEqProofs [hP,hN,g2,c,g4,g5,g,d,e,a,b,k,c6]<;>try refine Ya ?_))
 .skip
  with_reducible repeat' (first|refine Sp.h ?_|((first|refine Wd ?_|refine Ss.h ?_|refine Sc.h (IT) ?_|refine Sc.h (FQ) ?_)<;>simp -implicitDefEqProofs [hP,hN,g2,c,g4,g5,g,d,e,a,b,l,c6]<;>try refine Ya ?_))
 .skip
  exact Gy
theorem Rr(x:Int):max (-65536) (min x 65536)=xr x:=by unfold xr;omega
theorem Wo{b6 F G H p q r s u v y z:Int}:aF 263 (FC a0 a1 a2 a3 a4 a5 a6 a7 a8 a9 a10 a11 a12 a13 a14 a15 a16 a17) (FC b0 b1 b2 b3 b4 b5 b6 F G H p q r s u v y z) (yF (Bi (((a0,a1),(a2,a3),(a4,a5)),((a6,a7),(a8,a9),(a10,a11)),((a12,a13),(a14,a15),(a16,a17))) (((b0,b1),(b2,b3),(b4,b5)),((b6,F),(G,H),(p,q)),((r,s),(u,v),(y,z))))):=by
 obtain⟨A,I⟩:∃A:oF,A=(((a0,a1),(a2,a3),(a4,a5)),((a6,a7),(a8,a9),(a10,a11)),((a12,a13),(a14,a15),(a16,a17))):=⟨_,rfl⟩;obtain⟨B,J⟩:∃B:oF,B=(((b0,b1),(b2,b3),(b4,b5)),((b6,F),(G,H),(p,q)),((r,s),(u,v),(y,z))):=⟨_,rfl⟩;rw[<-I,<-J];obtain⟨N,j⟩:∃l:List AV,l=[a0,a1,a2,a3,a4,a5,a6,a7,a8,a9,a10,a11,a12,a13,a14,a15,a16,a17].map λx=>.pv (Z x):=⟨_,rfl⟩;obtain⟨O,m⟩:∃l:List AV,l=[b0,b1,b2,b3,b4,b5,b6,F,G,H,p,q,r,s,u,v,y,z].map λx=>.pv (Z x):=⟨_,rfl⟩;simp only[yAf,yBk]at j m
 have P:g3 (g3 A 0) 0=(a0,a1)/\g3 (g3 A 0) 1=(a2,a3)/\g3 (g3 A 0) 2=(a4,a5)/\g3 (g3 A 1) 0=(a6,a7)/\g3 (g3 A 1) 1=(a8,a9)/\g3 (g3 A 1) 2=(a10,a11)/\g3 (g3 A 2) 0=(a12,a13)/\g3 (g3 A 2) 1=(a14,a15)/\g3 (g3 A 2) 2=(a16,a17)/\g3 (eQ B 0) 0=(b0,b1)/\g3 (eQ B 1) 0=(b2,b3)/\g3 (eQ B 2) 0=(b4,b5)/\g3 (eQ B 0) 1=(b6,F)/\g3 (eQ B 1) 1=(G,H)/\g3 (eQ B 2) 1=(p,q)/\g3 (eQ B 0) 2=(r,s)/\g3 (eQ B 1) 2=(u,v)/\g3 (eQ B 2) 2=(y,z):=by
  rw[I,J]
  repeat' (first|rfl|constructor)
 have f:∀i k,xr (ff (ff (en (g3 (g3 A i) 0) (g3 (eQ B k) 0)) (en (g3 (g3 A i) 1) (g3 (eQ B k) 1))) (en (g3 (g3 A i) 2) (g3 (eQ B k) 2))).1=(uo A B i k).1/\xr (ff (ff (en (g3 (g3 A i) 0) (g3 (eQ B k) 0)) (en (g3 (g3 A i) 1) (g3 (eQ B k) 1))) (en (g3 (g3 A i) 2) (g3 (eQ B k) 2))).2=(uo A B i k).2:=λi k=>by
  have e:=yAx IG (yL (g3 A i) (eQ B k));exact⟨(yAx Prod.fst e).symm,(yAx Prod.snd e).symm⟩
 clear I J;refine Dp func263 λC hP hN=>?_
 with_reducible repeat' (first|refine Sp.h ?_|((first|refine Wd ?_|refine Ss.h ?_|(refine Sb.h ?_ ?_ ?_<;>(try intro hgd)<;>try exact Xy))<;>simp -implicitDefEqProofs (maxSteps:=2000000) [hP,hN,j,m]<;>try refine Ya ?_)|refine X2 ?_ ?_|(refine Xd ?_ ?_<;>intro hcd<;>try exact Xx))
 refine WP.loopN [8] 3 (λi st=>tn N O A B st/\st.t 6=.pv (Z i)/\st.h 5=some (.box (cC A B i 0) true false)/\st.h 8=none) (by simp[tn,cC,iz,j,m]) ?_;rintro i st hi ⟨⟨g2,n,g4,g5,b,c,d⟩,E,g,D⟩;rw[j]at b;rw[m]at c;by_cases M:i=3
 .simp[cC,iz,M]at E d g
  with_reducible repeat' (first|refine Sp.h ?_|((first|refine Wd ?_|refine Ss.h ?_|(refine Sb.h ?_ ?_ ?_<;>(try intro hgd)<;>try exact Xy))<;>simp -implicitDefEqProofs (maxSteps:=2000000) [hP,hN,g2,n,g4,g5,E,b,c,d,g,D,Bi,M]<;>try refine Ya ?_)|refine X2 ?_ ?_|(refine Xd ?_ ?_<;>intro hcd<;>try exact Xx))
 have a:i=0\/i=1\/i=2:=by omega
 rcases a with a|a|a
 all_goals
  with_reducible repeat' (first|refine Sp.h ?_|((first|refine Wd ?_|refine Ss.h ?_|(refine Sb.h ?_ ?_ ?_<;>(try intro hgd)<;>try exact Xy))<;>simp -implicitDefEqProofs (maxSteps:=2000000) [hP,hN,g2,n,g4,g5,E,b,c,d,g,D,a]<;>try refine Ya ?_)|refine X2 ?_ ?_|(refine Xd ?_ ?_<;>intro hcd<;>try exact Xx))
  refine WP.loopN [8] 3 (λk st=>tn N O A B st/\st.t 6=.pv (Z i)/\st.t 7=.pv (Z k)/\st.h 5=some (.box (cC A B i k) true false)/\st.h 8=none) (by simp[tn,cC,iz,j,m,g2,n,g4,g5,E,b,c,d,g,a]) ?_;clear g2 n g4 g5 E b c d g D;rintro k st Q ⟨⟨g2,n,g4,g5,b,c,d⟩,E,L,g,D⟩;rw[j]at b;rw[m]at c;have K:=f i k;rcases dA Q with o|o|o|o
  all_goals
   simp only[a,o,P]at K;simp[cC,iz,a,o]at L d g
   with_reducible repeat' (first|refine Sp.h ?_|((first|refine Wd ?_|refine Ss.h ?_|refine Sc.h (IT) ?_|refine Sc.h (FQ) ?_|(refine Sb.h ?_ ?_ ?_<;>(try intro hgd)<;>try exact Xy))<;>simp -implicitDefEqProofs (maxSteps:=2000000) [hP,hN,g2,n,g4,g5,E,L,b,c,d,g,D,tn,j,m,cC,iz,Rr,K,a,o]<;>try refine Ya ?_)|refine X2 ?_ ?_|(refine Xd ?_ ?_<;>intro hcd<;>try exact Xx))
theorem Mk:BC 186 (bA gh):=by
 refine Dp func186 λC hP hN=>?_;have a:=@Rp;refine GT trivial ?_
 all_goals (try simp[gh,ba,mu])
theorem IV:aR 262 (V6 v0 v1 v2 v3 v4 v5) (bA (dr ((v0,v1),(v2,v3),(v4,v5)))):=by
 refine Dp func262 λC hP hN=>?_;have a:=@Rp;refine GT trivial ?_
 all_goals (try simp[dr])
theorem Ml(x:Int):aF 261 (Z x) (I a b) (bA (gz x (a,b))):=by
 have d:=Wn (a:=a) (b:=b) x;have c:gz x (a,b)=(eO x (a,b),ba):=rfl;rw[c];generalize eO x (a,b)=m at *;refine Dp func261 λC hP hN=>?_;refine Gz ?_
 all_goals (try simp[ba])
theorem Wp{a b c d e f:Int}:aF 227 (zn a0 a1 a2 a3 a4 a5 a6 a7 a8 a9 a10 a11 a12 a13 a14 a15 a16 a17 a b c d e f) (V6 v0 v1 v2 v3 v4 v5) (bi (ie ((((a0,a1),(a2,a3),(a4,a5)),((a6,a7),(a8,a9),(a10,a11)),((a12,a13),(a14,a15),(a16,a17))),((a,b),(c,d),(e,f))) ((v0,v1),(v2,v3),(v4,v5)))):=by
 refine Dp func227 λC hP hN=>?_;have g:=@Rq;have i:=@Ro;refine GT trivial ?_
 all_goals (try simp[ie])
theorem xA{a b c d e f b6 x y z g i j k l m n o p q r s u v:Int}:aF 224 (zn a0 a1 a2 a3 a4 a5 a6 a7 a8 a9 a10 a11 a12 a13 a14 a15 a16 a17 a b c d e f) (zn b0 b1 b2 b3 b4 b5 b6 x y z g i j k l m n o p q r s u v) (bA (oH ((((a0,a1),(a2,a3),(a4,a5)),((a6,a7),(a8,a9),(a10,a11)),((a12,a13),(a14,a15),(a16,a17))),((a,b),(c,d),(e,f))) ((((b0,b1),(b2,b3),(b4,b5)),((b6,x),(y,z),(g,i)),((j,k),(l,m),(n,o))),((p,q),(r,s),(u,v))))):=by
 refine Dp func224 λC hP hN=>?_;have A:=@Rq;have B:=@Ro;have D:=@Wo;refine GT trivial ?_
 all_goals (try simp[oH,ie])
theorem Wq(j:J)(o:0<=j.kind)(h6:j.kind<=6):aF 223 (aO j) (I a b) (bA (mv j (a,b))):=by
 have n:=Rm j.ox j.oy j.oz;have l:=Mk;have m:mv j (a,b)=oH (dr (dq (j.ox,j.oy,j.oz))) (fp j.kind (a,b)):=rfl;rw[m];generalize dq (j.ox,j.oy,j.oz)=pv at *;have k:=IV (v0:=pv.1.1) (v1:=pv.1.2) (v2:=pv.2.1.1) (v3:=pv.2.1.2) (v4:=pv.2.2.1) (v5:=pv.2.2.2);have k:aW prog 262 [.pv (bi pv)] [] [] (.pv (bA (dr pv))):=k;generalize dr pv=sp at *;generalize i:gh=g at *
 have key:j.kind=0\/j.kind=1\/j.kind=2\/j.kind=3\/j.kind=4\/j.kind=5\/j.kind=6:=by omega
 rcases key with c|c|c|c|c|c|c
 .have d:fp j.kind (a,b)=g:=by simp[fp,c,i]
  have e:=l;rw[d];generalize g=mp at *;refine Dp func223 λC hP hN=>?_;have f:=@xA;exact GS c
 .have d:fp j.kind (a,b)=gz 0 (a,b):=by simp[fp,c]
  have e:=Ml (a:=a) (b:=b) 0;rw[d];generalize gz 0 (a,b)=mp at *;refine Dp func223 λC hP hN=>?_;have f:=@xA;exact GS c
 .have d:fp j.kind (a,b)=gz 1 (a,b):=by simp[fp,c]
  have e:=Ml (a:=a) (b:=b) 1;rw[d];generalize gz 1 (a,b)=mp at *;refine Dp func223 λC hP hN=>?_;have f:=@xA;exact GS c
 .have d:fp j.kind (a,b)=gz 2 (a,b):=by simp[fp,c]
  have e:=Ml (a:=a) (b:=b) 2;rw[d];generalize gz 2 (a,b)=mp at *;refine Dp func223 λC hP hN=>?_;have f:=@xA;exact GS c
 .have d:fp j.kind (a,b)=dr ((a,b),(0,0),(0,0)):=by simp[fp,c]
  have e:=IV (v0:=((a,b),(0,0),(0,0)).1.1) (v1:=((a,b),(0,0),(0,0)).1.2) (v2:=((a,b),(0,0),(0,0)).2.1.1) (v3:=((a,b),(0,0),(0,0)).2.1.2) (v4:=((a,b),(0,0),(0,0)).2.2.1) (v5:=((a,b),(0,0),(0,0)).2.2.2);rw[d];generalize dr ((a,b),(0,0),(0,0))=mp at *;refine Dp func223 λC hP hN=>?_;have f:=@xA;exact GS c
 .have d:fp j.kind (a,b)=dr ((0,0),(a,b),(0,0)):=by simp[fp,c]
  have e:=IV (v0:=((0,0),(a,b),(0,0)).1.1) (v1:=((0,0),(a,b),(0,0)).1.2) (v2:=((0,0),(a,b),(0,0)).2.1.1) (v3:=((0,0),(a,b),(0,0)).2.1.2) (v4:=((0,0),(a,b),(0,0)).2.2.1) (v5:=((0,0),(a,b),(0,0)).2.2.2);rw[d];generalize dr ((0,0),(a,b),(0,0))=mp at *;refine Dp func223 λC hP hN=>?_;have f:=@xA;exact GS c
 .have d:fp j.kind (a,b)=dr ((0,0),(0,0),(a,b)):=by simp[fp,c]
  have e:=IV (v0:=((0,0),(0,0),(a,b)).1.1) (v1:=((0,0),(0,0),(a,b)).1.2) (v2:=((0,0),(0,0),(a,b)).2.1.1) (v3:=((0,0),(0,0),(a,b)).2.1.2) (v4:=((0,0),(0,0),(a,b)).2.2.1) (v5:=((0,0),(0,0),(a,b)).2.2.2);rw[d];generalize dr ((0,0),(0,0),(a,b))=mp at *;refine Dp func223 λC hP hN=>?_;have f:=@xA;exact GS c
theorem Wr(s:Sh)(D:s.pts.length<=9223372036854775807):aR 226 (aZ s) (B (fJ s)):=by
 have hd:fJ s=(decide (1<=s.rad)&&decide (s.rad<=1048576)&&decide (1<=s.pts.length)&&decide (s.pts.length<=8)&&s.pts.all (ay 4194304)):=rfl;by_cases z:s.rad<1\/1048576<s.rad\/(s.pts.length:Int)<1\/(8:Int)<s.pts.length
 .have hf:fJ s=false:=by
   cases h:fJ s with
   |false=>rfl
   |true=>
    rw[hd]at h;simp only[up,Is]at h;omega
  rw[hf];rcases z with h1|h1|h1|h1
  all_goals
   refine Dp func226 λC hP hN=>?_;exact Gy
 have h1:¬s.rad<1:=by omega
 have F:¬1048576<s.rad:=by omega
 have G:¬(s.pts.length:Int)<1:=by omega
 have H:¬(8:Int)<s.pts.length:=by omega
 have u:¬s.pts.length<1:=by omega
 have v:¬8<s.pts.length:=by omega
 have hf:fJ s=s.pts.all (ay 4194304):=by
  rw[hd,ZH (by omega),ZH (by omega),ZH (by omega),ZH (by omega)];rfl
 rw[hf];refine Dp func226 λC hP hN=>?_;refine Gz ?_;refine WP.loopN [] s.pts.length (λk st=>st.t 1=.ptr 1 0/\st.h 1=some (.box [.pv (Z s.link),.pv (Z s.rad),.pv (aw s.pts)] true false)/\st.t 3=.pv (Z k)/\∀j x,j<k->s.pts[j]?=some x->ay 4194304 x=true) (by simp) ?_;rintro k st A ⟨g1,y,g3,hn⟩;by_cases d:k<s.pts.length
 .have E:=ab d D
  have f:(k:Int)<(s.pts.length:Int):=by omega
  generalize q:s.pts[k]=p at *
  have r:s.pts[k]?=some p:=by rw[an d,q]
  have m:=wW p.1 p.2.1 p.2.2 4194304 (by decide) (by decide);have n:ay 4194304 p=fk p.1 p.2.1 p.2.2 4194304:=rfl;rw[<-n]at m;have i:=mY (p:=ay 4194304) r hn
  cases l:ay 4194304 p with
  |true=>
   rw[l]at m;have g:=i l;refine Gz ?_
   all_goals (intro j a b c I o;exact g j (a,b,c) (by omega) o)
  |false=>
   rw[l]at m
   have e:s.pts.all (ay 4194304)=false:=by
    rw[yAA];exact⟨p,An r,by simp[l]⟩
   exact Gy
 .have e:s.pts.all (ay 4194304)=true:=pD hn d
  have f:¬(k:Int)<(s.pts.length:Int):=by omega
  exact Gy
theorem Ws(h:Sh)(p:oG)(hs:fJ h=true):aF 187 (aZ h) (bA p) (aE (dD h p)):=by
 have h8:h.pts.length<=8:=by
  simp only[fJ,up,Is]at hs;omega
 have r:=Wr h (by omega);rw[hs]at r;have c:dD h p=h.pts.map λq=>ie p (dq q):=rfl;have o:∀v:aq,aW prog 227 [.pv (bA p),.pv (bi v)] [] [] (.pv (bi (ie p v))):=λv=>Wp;have s:∀q:Vc,aW prog 228 [.pv (al q)] [] [] (.pv (bi (dq q))):=λq=>Rm q.1 q.2.1 q.2.2;have k:(bA p).cells=[Z p.1.1.1.1,Z p.1.1.1.2,Z p.1.1.2.1.1,Z p.1.1.2.1.2,Z p.1.1.2.2.1,Z p.1.1.2.2.2,Z p.1.2.1.1.1,Z p.1.2.1.1.2,Z p.1.2.1.2.1.1,Z p.1.2.1.2.1.2,Z p.1.2.1.2.2.1,Z p.1.2.1.2.2.2,Z p.1.2.2.1.1,Z p.1.2.2.1.2,Z p.1.2.2.2.1.1,Z p.1.2.2.2.1.2,Z p.1.2.2.2.2.1,Z p.1.2.2.2.2.2,Z p.2.1.1,Z p.2.1.2,Z p.2.2.1.1,Z p.2.2.1.2,Z p.2.2.2.1,Z p.2.2.2.2]:=rfl;refine Dp func187 λC hP hN=>?_;refine ki [5] trivial ?_;refine WP.loopN [] h.pts.length (λi st=>st.t 2=.ptr 2 0/\st.t 3=.ptr 3 0/\st.h 2=some (.box [.pv (Z h.link),.pv (Z h.rad),.pv (aw h.pts)] true false)/\st.h 3=some (.box ((bA p).cells.map .pv) true false)/\st.t 6=.pv (Z i)/\st.t 5=.arr 5 i/\st.h 5=some (.row 230 6 (((dD h p).map bi).take i) 0)) (by simp) ?_;rintro i st hi ⟨g2,g3,g,d,m,g5,e⟩
 have l:min i (dD h p).length=i:=by rw[c,ZB];omega
 by_cases b:i<h.pts.length
 .have y:=ab b (by omega)
  have a:(i:Int)<(h.pts.length:Int):=by omega
  generalize j:h.pts[i]=q at *
  have n:h.pts[i]?=some q:=by rw[an b,j]
  have hS:((dD h p).map bi).take (i+1)=((dD h p).map bi).take i++[bi (ie p (dq q))]:=by
   rw[List.take_succ,Y7,c,Y7,n];rfl
  have u:=s q;have x:=o (dq q);rw[hS]
  have hL:(((dD h p).map bi).take i).length=i:=by simp[l]
  generalize((dD h p).map bi).take i=R at *;generalize ie p (dq q)=z at *;generalize dq q=w at *;rw[k]at d
  with_reducible repeat' (first|refine Sp.h ?_|((first|refine Wd ?_|refine Ss.h ?_|refine Sc.h (u) ?_|refine Sc.h (x) ?_|(refine Sb.h ?_ ?_ ?_<;>(try intro hgd)<;>try exact Xy))<;>simp -implicitDefEqProofs (maxSteps:=2000000) [hP,hN,g2,g3,g,d,m,g5,e,b,a,n,j,y,hL,show(i+1)*48<=140737488355328 by omega,show i<=9223372036854775806 by omega]<;>try refine Ya ?_)|refine X2 ?_ ?_|(refine Xd ?_ ?_<;>intro hcd<;>try exact Xx))
 .have a:¬(i:Int)<(h.pts.length:Int):=by omega
  have f:((dD h p).map bi).take i=(dD h p).map bi:=Zw (by rw[ZB,c,ZB];omega);rw[f]at e
  have hL:(dD h p).length=i:=by rw[c,ZB];omega
  with_reducible repeat' (first|refine Sp.h ?_|((first|refine Wd ?_|refine Ss.h ?_|(refine Sb.h ?_ ?_ ?_<;>(try intro hgd)<;>try exact Xy))<;>simp -implicitDefEqProofs (maxSteps:=2000000) [hP,hN,g2,g3,g,d,m,g5,e,b,a,hL]<;>try refine Ya ?_)|refine X2 ?_ ?_|(refine Xd ?_ ?_<;>intro hcd<;>try exact Xx))
theorem IW{x:Iv}(h:db x=false):x.1< -268435456\/x.2<x.1\/268435456<x.2:=by
 by_cases a:x.1< -268435456\/x.2<x.1\/268435456<x.2
 .exact a
 .have:db x=true:=by rw[fg];omega
  rw[h]at this;cases this
theorem Ds{x0 x1 x2 x3 x4 x5:Int}:aR 196 (V6 x0 x1 x2 x3 x4 x5) (B (bL ((x0,x1),(x2,x3),(x4,x5)))):=by
 have hd:bL ((x0,x1),(x2,x3),(x4,x5))=(db (x0,x1)&&db (x2,x3)&&db (x4,x5)):=rfl;rw[hd];obtain⟨m,b⟩:∃m:Nat,m=(if db (x0,x1)then(if db (x2,x3)then(if db (x4,x5)then 3 else 2)else 1)else 0):=⟨_,rfl⟩;refine Dp func196 λC hP hN=>?_;refine Gz ?_;refine WP.loopN [] 3 (λk st=>st.t 1=.ptr 1 0/\st.h 1=some (.box [.pv (Z x0),.pv (Z x1),.pv (Z x2),.pv (Z x3),.pv (Z x4),.pv (Z x5)] true false)/\st.t 3=.pv (Z k)/\k<=m) (by simp) ?_;rintro k st g ⟨g1,f,g3,i⟩;cases c:db (x0,x1)<;>rw[c]at b
 .simp only[Y9,Zk]at b
  have:k=0:=by omega
  subst this;have a:=IW c;simp only at a;rcases a with q|q|q
  all_goals
   exact Gy
 simp only[Zp]at b;have j:=fg.1 c;simp only at j;cases h1:db (x2,x3)<;>rw[h1]at b
 .simp only[Y9,Zk]at b
  have e:k=0\/k=1:=by omega
  rcases e with rfl|rfl
  .skip
   exact Gy
   all_goals omega
  .have a:=IW h1
   simp only at a;rcases a with q|q|q
   all_goals
    exact Gy
 simp only[Zp]at b;have l:=fg.1 h1;simp only at l;cases d:db (x4,x5)<;>rw[d]at b
 .simp only[Y9,Zk]at b
  have e:k=0\/k=1\/k=2:=by omega
  rcases e with rfl|rfl|rfl
  .skip
   exact Gy
   all_goals omega
  .skip
   exact Gy
   all_goals omega
  .have a:=IW d
   simp only at a;rcases a with q|q|q
   all_goals
    exact Gy
 simp only[Zp]at b;have n:=fg.1 d;simp only at n;rcases dA g with rfl|rfl|rfl|rfl
 .skip
  exact Gy
  all_goals omega
 .skip
  exact Gy
  all_goals omega
 .skip
  exact Gy
  all_goals omega
 .skip
  exact Gy
theorem Rs(v:aq):aR 196 (bi v) (B (bL v)):=Ds
theorem xD(xs:List aq)(L:xs.length<=9223372036854775807):aR 143 (aE xs) (B (au xs)):=by
 by_cases h8:xs.length<=8
 .have F:∀i:Nat,i<xs.length->i64.wrap ((i:Int)+1)=(i:Int)+1:=λi h=>aa (by omega) (by omega)
  refine Dp func143 λC hP hN=>?_;refine Gz ?_;refine WP.loopN [] xs.length (λi st=>st.t 0=.pv (aE xs)/\st.t 3=.pv (Z i)/\∀k x,k<i->xs[k]?=some x->bL x=true) (by simp) ?_;rintro i st hi ⟨g0,g3,hq⟩;by_cases g:i<xs.length
  .have I:=F i g
   have m:(i:Int)<(xs.length:Int):=by omega
   have A:(i:Int)<=8:=by omega
   have r:i<=8:=by omega
   generalize n:xs[i]=v at *
   have G:xs[i]?=some v:=by rw[an g,n]
   have u:=Rs v;have E:=mY (p:=bL) G hq
   cases o:bL v with
   |true=>
    rw[o]at u;have s:=E o;refine Gz ?_
    all_goals exact λk a b c d e f K H=>s k ((a,b),(c,d),(e,f)) (by omega) H
   |false=>
    rw[o]at u
    have j:xs.all bL=false:=by
     rw[yAA];exact⟨v,An G,by simp[o]⟩
    have l:au xs=false:=by simp[au,j]
    rw[l];exact Gy
  .have j:xs.all bL=true:=pD hq g
   have m:¬(i:Int)<(xs.length:Int):=by omega
   have l:au xs=decide (1<=xs.length):=by
    rw[au,j,ZH h8,yAD,yAD]
   rw[l];by_cases h1:1<=xs.length
   .have q:(1:Int)<=(xs.length:Int):=by omega
    have y:(xs.length:Int)<=8:=by omega
    exact Gy
   .have q:¬(1:Int)<=(xs.length:Int):=by omega
    exact Gy
 .have l:au xs=false:=by
   cases h:au xs with
   |false=>rfl
   |true=>simp only[au,up,Is]at h;omega
  rw[l];refine Dp func143 λC hP hN=>?_;refine Gz ?_;refine WP.loopN [] 9 (λi st=>st.t 0=.pv (aE xs)/\st.t 3=.pv (Z i)) (by simp) ?_;rintro i st hi ⟨g0,g3⟩
  have g:i<xs.length\/i=9:=by omega
  by_cases A:i<=8
  .have g:i<xs.length:=by omega
   have I:i64.wrap ((i:Int)+1)=(i:Int)+1:=aa
   have m:(i:Int)<(xs.length:Int):=by omega
   have r:(i:Int)<=8:=by omega
   generalize n:xs[i]=v at *
   have G:xs[i]?=some v:=by rw[an g,n]
   have u:=Rs v;cases o:bL v<;>rw[o]at u
   .skip
    exact Gy
   .skip
    refine Gz ?_
    all_goals omega
  .have D:i=9:=by omega
   subst D
   have y:¬(xs.length:Int)<=8:=by omega
   have q:(1:Int)<=(xs.length:Int):=by omega
   have h1:1<=xs.length:=by omega
   by_cases J:(9:Int)<(xs.length:Int)
   .have z:9<xs.length:=by omega
    exact Gy
   .have z:¬9<xs.length:=by omega
    exact Gy
theorem Rt(x:Iv):rP x=lZ x:=by
 unfold rP lZ;split
 .rename_i h
  have h:=dV.1 h;rw[aa (by omega) (by omega),Int.fdiv_eq_ediv_of_nonneg _ (by decide)]
 .rfl
theorem HD(xs:List aq)(n:xs.length<=9223372036854775807):aR 88 (aE xs) (aw (ax xs)):=by
 have l:=xD xs n
 cases hp:au xs with
 |false=>
  rw[hp]at l
  have f:ax xs=[]:=by simp[ax,hp]
  rw[f];refine Dp func88 λC hP hN=>?_;exact Gy
 |true=>
  rw[hp]at l
  have h8:xs.length<=8:=by
   simp only[au,up,Is]at hp;omega
  have f:ax xs=xs.map i4:=by simp[ax,hp]
  rw[f];refine Dp func88 λC hP hN=>?_;refine ki [3] trivial ?_;refine WP.loopN [] xs.length (λi st=>st.t 0=.pv (aE xs)/\st.t 4=.pv (Z i)/\st.t 3=.arr 3 i/\st.h 3=some (.row 60 3 (((xs.map i4).map al).take i) 0)) (by simp) ?_;rintro i st hi ⟨g0,g4,g3,d⟩
  have g:min i xs.length=i:=by omega
  by_cases c:i<xs.length
  .have o:=ab c (by omega)
   have a:(i:Int)<(xs.length:Int):=by omega
   generalize e:xs[i]=v at *
   have m:xs[i]?=some v:=by rw[an c,e]
   have j:=Q5 v.1;have c1:=Q5 v.2.1;have k:=Q5 v.2.2;rw[Rt]at j c1 k
   have hS:((xs.map i4).map al).take (i+1)=((xs.map i4).map al).take i++[al (lZ v.1,lZ v.2.1,lZ v.2.2)]:=by
    rw[List.take_succ,Y7,Y7,m];rfl
   rw[hS]
   have hL:(((xs.map i4).map al).take i).length=i:=by simp[g]
   generalize((xs.map i4).map al).take i=R at *
   with_reducible repeat' (first|refine Sp.h ?_|((first|refine Wd ?_|refine Ss.h ?_|refine Sc.h (j) ?_|refine Sc.h (c1) ?_|refine Sc.h (k) ?_|(refine Sb.h ?_ ?_ ?_<;>(try intro hgd)<;>try exact Xy))<;>simp -implicitDefEqProofs (maxSteps:=2000000) [hP,hN,g0,g4,g3,d,c,a,m,e,o,hL,show(i+1)*24<=140737488355328 by omega,show i<=9223372036854775806 by omega]<;>try refine Ya ?_)|refine X2 ?_ ?_|(refine Xd ?_ ?_<;>intro hcd<;>try exact Xx))
  .have a:¬(i:Int)<(xs.length:Int):=by omega
   have b:((xs.map i4).map al).take i=(xs.map i4).map al:=Zw (by simp;omega);rw[b]at d
   have hL:xs.length=i:=by omega
   exact Gy
theorem Ru(js:List J)(ms:List Ms)(bx:List Iv)(c:js.length<=9223372036854775807)(a:bx.length<=9223372036854775807):aF 129 (eK js ms) (iv bx) (B (jN js bx)):=by
 have hd:jN js bx=(decide (bx.length=js.length)&&bF vI bx):=rfl;have b:=Ud bx a;by_cases h:bx.length=js.length
 .rw[hd,ZH h,Zu]
  have h':((bx.length:Int)==(js.length:Int))=true:=by simp[h]
  generalize bF vI bx=r at *;refine Dp func129 λC hP hN=>?_;exact Gy
 .rw[hd,Z9 h,ZI]
  have h':((bx.length:Int)==(js.length:Int))=false:=by simp;omega
  refine Dp func129 λC hP hN=>?_;exact Gy
set_option maxRecDepth 4000 in
theorem Wt(js:List J)(ms:List Ms)(bx:List Iv)(hm:ms.length<=9223372036854775807)(Y:aP js ms=0)(F:jN js bx=true):aF 185 (eK js ms) (iv bx) (.sl ((gO js bx).map bA)):=by
 obtain⟨hj,hl,_⟩:=tp Y;have hb:=(vF.1 F).1;have cr:=qF js ms (by omega) hm;have cb:=Ru js ms bx (by omega) (by omega);rw[Y]at cr;rw[F]at cb;have M:(gO js bx).length=js.length:=kf hb _ (Zf _);have N:=λi j v(h1:js[i]?=some j)(h2:bx[i]?=some v)=>FG hb h1 h2 (hj i j h1);generalize gO js bx=l at *;generalize z:l.map bA=e at *
 have ad:e.length=js.length:=by rw[<-z];simpa using M
 have B:∀k p,l[k]?=some p->e[k]?=some (bA p):=λk p h=>by rw[<-z,Y7,h];rfl
 refine Dp func185 λC hP hN=>?_;refine ki [5] trivial ?_;refine WP.loopN [7] bx.length (λi st=>st.t 2=.ptr 2 0/\st.h 2=some (.box [.pv (.sl (js.map aO)),.pv (.sl (ms.map aX))] true false)/\st.t 1=.pv (iv bx)/\st.t 6=.pv (Z i)/\st.h 7=none/\st.t 5=.arr 5 i/\st.h 5=some (.row 277 24 (e.take i) 0)) (by simp) ?_;rintro i st hi ⟨g2,m,g1,L,n,g5,f⟩
 have g:(e.take i).length=i:=by simp;omega
 by_cases c:i<bx.length
 .have hw:=ab c (by omega)
  have s:i<js.length:=by omega
  have d:(i:Int)<(bx.length:Int):=by omega
  generalize y:js[i]=j at *
  have K:js[i]?=some j:=by rw[an s,y]
  generalize u:bx[i]=v at *
  have V:bx[i]?=some v:=by rw[an c,u]
  obtain⟨⟨P,Q⟩,ah,aj⟩:=hj i j K;have cj:=Wq (a:=v.1) (b:=v.2) j P Q;have E:=N i j v K V;generalize hq:mv j (v.1,v.2)=q at *
  have key:∀x,l[i]?=some x->e.take (i+1)=e.take i++[bA x]:=λx W=>by
   rw[List.take_succ,B i x W];rfl
  by_cases I:j.parent=-1
  .rw[Zd I]at E
   have k1:=key q E;rw[k1]
   have o:(j.parent != -1)=false:=by simp[I]
   generalize e.take i=R at *;exact GS (zAe g2 m g1 L n g5 f g s c d hw K y (it V u o (show(i+1)*192<=140737488355328 by omega) (show i<=9223372036854775806 by omega)))
  .rw[Y6 I]at E
   obtain⟨p,hp⟩:∃p:Nat,j.parent=p:=⟨j.parent.toNat,by omega⟩
   have o:(j.parent != -1)=true:=by simp[I]
   have S:(0:Int)<=j.parent:=by omega
   have H:j.parent.toNat=p:=by omega
   have G:p<i:=by omega
   have U:p<l.length:=by omega
   have A:l[p]?=some l[p]:=an U;rw[H,A,Zn]at E
   have D:(e.take i)[p]?=some (bA l[p]):=by rw[Zy,Zd G];exact B p _ A
   have O:=qh D;generalize l[p]=X at *;have k1:=key _ E;rw[k1];have cc:aW prog 224 [.pv (bA X),.pv (bA q)] [] [] (.pv (bA (oH X q))):=xA;generalize oH X q=ak at *;generalize e.take i=R at *
   have T:p<R.length:=by omega
   exact GS (zAe g2 m g1 L n g5 f g s c d hw K y (zAc V u o S H G D O T (gA (show(i+1)*192<=140737488355328 by omega) (show i<=9223372036854775806 by omega))))
 .have r:e.take i=e:=Zw (by omega)
  have d:¬(i:Int)<(bx.length:Int):=by omega
  rw[r]at f g;exact GS (zAc g2 m g1 L n g5 f c d g)
set_option maxRecDepth 4000 in
theorem Wu(s:Sce)(bx:List Iv)(hs:ScL s)(y:ao s=0)(m:jN s.js bx=true):aF 130 (aN s) (iv bx) (.sl ((eP s bx).map aE)):=by
 have U:=Hq s hs;rw[y]at U
 have hr:aP s.js s.ms=0:=by
  unfold ao at y;split at y
  .rename_i h;exact absurd y h
  .rename_i h;simpa using h
 obtain⟨v1,v2,v3,v4,v5,v6,v7⟩:=nq y;have J:=(vF.1 m).1;have T:=Ru s.js s.ms bx hs.js (by omega);have cl:=Wt s.js s.ms bx hs.ms hr m;rw[m]at T;have V:(gO s.js bx).length=s.js.length:=kf J _ (Zf _);have B:eP s bx=s.shs.map λh=>dD h (gP (gO s.js bx) h):=rfl;rw[B];generalize gO s.js bx=b at *;generalize g:(s.shs.map λh=>dD h (gP b h)).map aE=d
 have W:d.length=s.shs.length:=by rw[<-g];simp
 have A:∀k h,s.shs[k]?=some h->d[k]?=some (aE (dD h (gP b h))):=λk q X=>by rw[<-g,Y7,Y7,X];rfl
 refine Dp func130 λC hP hN=>?_;refine ki [6] trivial ?_;refine WP.loopN [8] s.shs.length (λi st=>st.t 2=.ptr 2 0/\st.h 2=some (.box [.pv (.sl (s.js.map aO)),.pv (.sl (s.ms.map aX)),.pv (.sl (s.shs.map aZ)),.pv (.sl (s.sks.map aJ))] true false)/\st.t 5=.pv (.sl (b.map bA))/\st.t 7=.pv (Z i)/\st.h 8=none/\st.t 6=.arr 6 i/\st.h 6=some (.row 176 1 (d.take i) 0)) (by simp) ?_;rintro i st hi ⟨g2,j,g5,I,l,H,e⟩
 have f:(d.take i).length=i:=by simp;omega
 by_cases c:i<s.shs.length
 .have Q:=ab c (by omega)
  have a:(i:Int)<(s.shs.length:Int):=by omega
  generalize v:s.shs[i]=h at *
  have E:s.shs[i]?=some h:=by rw[an c,v]
  have Y:=An E;obtain⟨K,N⟩:=v6 h Y;simp only[bK,up,Is]at K;have P:=λp=>Ws h p N
  have k2:d.take (i+1)=d.take i++[aE (dD h (gP b h))]:=by rw[List.take_succ,A i h E];rfl
  rw[k2];clear A g B;by_cases x:h.link=-1
  .have n:(h.link==-1)=true:=by simp[x]
   have o:(h.link != -1)=false:=by simp[x]
   have u:gP b h=gh:=by simp[gP,x]
   rw[u];have F:=P gh;have G:=Mk;generalize dD h gh=pl at *;generalize gh=O at *;generalize d.take i=R at *;exact GS (zAe g2 j g5 I l H e f c a Q E v n (be o (show(i+1)*24<=140737488355328 by omega) (show i<=9223372036854775806 by omega)))
  .have n:(h.link==-1)=false:=by simp[x]
   have o:(h.link != -1)=true:=by simp[x]
   have L:(0:Int)<=h.link:=by omega
   obtain⟨p,hp⟩:∃p:Nat,h.link.toNat=p:=⟨_,rfl⟩
   have D:p<b.length:=by omega
   have z:b[p]?=some b[p]:=an D
   have u:gP b h=b[p]:=by simp only[gP,Y6 x,hp,z,Zn]
   rw[u];generalize M:b[p]=S at *;have F:=P S;have G:=Mk;generalize dD h S=pl at *;generalize gh=O at *;generalize d.take i=R at *;exact GS (zAe g2 j g5 I l H e f c a Q E v n (zAb o L hp D z M (show(i+1)*24<=140737488355328 by omega) (show i<=9223372036854775806 by omega)))
 .have r:d.take i=d:=Zw (by omega)
  have a:¬(i:Int)<(s.shs.length:Int):=by omega
  rw[r]at e f;exact GS (zAc g2 j g5 I l H e c a f)
theorem Wv(n:Nat)(hn:n<4611686018427387904):aR 231 (Z n) (Z (cY n)):=by
 by_cases z:n=0
 .subst z
  have F:cY 0=0:=by decide +kernel
  rw[F];refine Dp func231 λC hP hN=>?_;exact Gy
 have D:¬(n:Int)<1:=by omega
 have s:¬n<1:=by omega
 have o:=sB (n:=n) (by omega);refine Dp func231 λC hP hN=>?_;refine Gz ?_;refine WP.loopN [] 32 (λi st=>∃lo hi:Nat,st.t 0=.pv (Z n)/\st.t 3=.pv (Z lo)/\st.t 4=.pv (Z hi)/\1<=lo/\lo<hi/\hi<=4294967296/\lo*lo<=n/\n<hi*hi/\hi-lo<=2^(32-i)) ⟨1,4294967296,by simp;omega⟩ ?_;rintro i st hi ⟨lo,a,g0,g3,g4,b1,b2,b3,b4,b5,b6⟩;have w1:i64.wrap ((a:Int)-(lo:Int))=((a-lo:Nat):Int):=(aa (by omega) (by omega)).trans (by omega);by_cases r:1<a-lo
 .have f:i<32:=by
   by_cases h:i<32
   .exact h
   .have:i=32:=by omega
    subst this;simp at b6;omega
  have hp:2^(32-i)=2*2^(31-i):=by
   rw[show 32-i=(31-i)+1 by omega,yBj];omega
  rw[hp]at b6;obtain⟨m,G⟩:∃m:Nat,m=lo+(a-lo)/2:=⟨_,rfl⟩
  have k:(1:Int)<((a-lo:Nat):Int):=by omega
  obtain⟨hf,B⟩:∃hf:Nat,hf=(a-lo)/2:=⟨_,rfl⟩
  have w2:i64.wrap ((((a-lo:Nat):Int)).tdiv 2)=(hf:Int):=by
   rw[Zr (by omega)];exact(aa (by omega) (by omega)).trans (by omega)
  have u:i64.wrap ((lo:Int)+(hf:Int))=(m:Int):=(aa (by omega) (by omega)).trans (by omega)
  have l:0<m:=by omega
  have g:¬(m:Int)=0:=by omega
  have c:¬m=0:=by omega
  obtain⟨j,d⟩:∃j:Nat,j=n/m:=⟨_,rfl⟩
  have E:j<=n:=by rw[d];exact Nat.div_le_self n m
  have v:i64.wrap ((n:Int).tdiv (m:Int))=(j:Int):=by
   rw[Zr (by omega),<-Int.natCast_ediv,<-d];exact aa (by omega) (by omega)
  have x:i64.wrap (((a-lo:Nat):Int)/2)=(hf:Int):=(aa (by omega) (by omega)).trans (by omega)
  have y:i64.wrap ((n:Int)/(m:Int))=(j:Int):=by
   rw[<-Int.natCast_ediv,<-d];exact aa (by omega) (by omega)
  by_cases e:m<=j
  .have q:m*m<=n:=(yBa l).1 (d▸e)
   have b:(m:Int)<=(j:Int):=by omega
   with_reducible repeat' (first|refine Sp.h ?_|((first|refine Ss.h ?_|(refine Sb.h ?_ ?_ ?_<;>(try intro hgd)<;>try exact Xy))<;>simp -implicitDefEqProofs (maxSteps:=2000000) [hP,hN,g0,g3,g4,w1,w2,u,v,x,y,r,k,g,c,e,b])|refine X2 ?_ ?_|(refine Xd ?_ ?_<;>intro hcd<;>try exact Xx))
   exact⟨f,m,rfl,a,rfl,by omega,by omega,by omega,by omega,by omega,by omega⟩
  .have q:n<m*m:=by
    rcases Nat.lt_or_ge n (m*m)with h|h
    .exact h
    .exact absurd (d▸(yBa l).2 h) e
   have b:¬(m:Int)<=(j:Int):=by omega
   with_reducible repeat' (first|refine Sp.h ?_|((first|refine Ss.h ?_|(refine Sb.h ?_ ?_ ?_<;>(try intro hgd)<;>try exact Xy))<;>simp -implicitDefEqProofs (maxSteps:=2000000) [hP,hN,g0,g3,g4,w1,w2,u,v,x,y,r,k,g,c,e,b])|refine X2 ?_ ?_|(refine Xd ?_ ?_<;>intro hcd<;>try exact Xx))
   exact⟨f,lo,rfl,m,rfl,by omega,by omega,by omega,by omega,by omega,by omega⟩
 .have p:a=lo+1:=by omega
  subst p;have A:lo=cY n:=Dm b4 b5 o.1 o.2
  have k:¬(1:Int)<((lo+1-lo:Nat):Int):=by omega
  exact Gy
  all_goals simp[A]
theorem Ww(n:Nat)(hn:n<4611686018427387904):aR 195 (Z n) (Z (tu n)):=by
 have f:=Wv n hn;have e:=sB (n:=n) (by omega);have d:=tR hn
 have hd:tu n=if cY n*cY n<n then cY n+1 else cY n:=rfl
 have w1:i64.wrap ((cY n:Int)*(cY n:Int))=((cY n*cY n:Nat):Int):=by
  rw[<-Int.natCast_mul];exact aa (by omega) (by omega)
 have w2:i64.wrap ((cY n:Int)+1)=((cY n+1:Nat):Int):=(aa (by omega) (by omega)).trans (by omega);rw[hd];generalize cY n=r at *;by_cases g:0<n
 .have a:(0:Int)<(n:Int):=by omega
  by_cases c:r*r<n
  .have b:((r*r:Nat):Int)<(n:Int):=by omega
   rw[Zd c];refine Dp func195 λC hP hN=>?_;exact Gy
  .have b:¬((r*r:Nat):Int)<(n:Int):=by omega
   rw[Y6 c];refine Dp func195 λC hP hN=>?_;exact Gy
 .have a:¬(0:Int)<(n:Int):=by omega
  rw[Y6 (by omega)];refine Dp func195 λC hP hN=>?_;exact Gy
theorem Rv(v:Vc):aR 141 (al v) (Z (eV v)):=by
 have d:=Ci v;rw[uj]at d
 cases c:aI v with
 |false=>
  rw[c]at d
  have e:eV v=0:=by simp[eV,c]
  rw[e];refine Dp func141 λC hP hN=>?_;exact Gy
 |true=>
  rw[c]at d
  have hn:ay 16384 v=true:=by simp only[aI,up]at c;exact c.1
  have j:=Kg hn
  have e:eV v=(tu (xx v):Int):=by simp[eV,c]
  have f:=Ww (xx v) (by omega);have h1:=yJ (bu.1 hn).1;have g:=yJ (bu.1 hn).2.1;have i:=yJ (bu.1 hn).2.2;have n:=bj (a:=v.1) (b:=v.1) 16384 16384 (by omega) (by omega) (by omega) (by omega);have o:=bj (a:=v.2.1) (b:=v.2.1) 16384 16384 (by omega) (by omega) (by omega) (by omega);have p:=bj (a:=v.2.2) (b:=v.2.2) 16384 16384 (by omega) (by omega) (by omega) (by omega);have k:=ID v.1;have l:=ID v.2.1;have m:=ID v.2.2;have w1:i64.wrap (v.1*v.1)=v.1*v.1:=aa;have w2:i64.wrap (v.2.1*v.2.1)=v.2.1*v.2.1:=aa;have q:i64.wrap (v.2.2*v.2.2)=v.2.2*v.2.2:=aa;have r:i64.wrap (v.1*v.1+v.2.1*v.2.1)=v.1*v.1+v.2.1*v.2.1:=aa;have s:i64.wrap (v.1*v.1+v.2.1*v.2.1+v.2.2*v.2.2)=(xx v:Int):=(aa (by omega) (by omega)).trans (by unfold xx;omega);rw[e];refine Dp func141 λC hP hN=>?_;exact Gy
theorem NO{n0 n1 n2 x0 x1 x2 x3 x4 x5:Int}(e:aI (n0,n1,n2)=true)(f:bL ((x0,x1),(x2,x3),(x4,x5))=true):aF 291 (al (n0,n1,n2)) (V6 x0 x1 x2 x3 x4 x5) (.tup [Z (fL (n0,n1,n2) ((x0,x1),(x2,x3),(x4,x5))),Z (fN (n0,n1,n2) ((x0,x1),(x2,x3),(x4,x5)))]):=by
 have l:=Ci (n0,n1,n2);rw[uj,e]at l;have g:=Ds (x0:=x0) (x1:=x1) (x2:=x2) (x3:=x3) (x4:=x4) (x5:=x5);rw[f]at g
 have hn:ay 16384 (n0,n1,n2)=true:=by simp only[aI,up]at e;exact e.1
 have i:=bu.1 hn;have j:=fC.1 f;have m0:=oJ i.1 j.1;have m1:=oJ i.2.1 j.2.1;have m2:=oJ i.2.2 j.2.2;simp only[qI,qJ]at m0 m1 m2;have d:fL (n0,n1,n2) ((x0,x1),(x2,x3),(x4,x5))=min (n0*x0) (n0*x1)+min (n1*x2) (n1*x3)+min (n2*x4) (n2*x5):=rfl;have c:fN (n0,n1,n2) ((x0,x1),(x2,x3),(x4,x5))=max (n0*x0) (n0*x1)+max (n1*x2) (n1*x3)+max (n2*x4) (n2*x5):=rfl;rw[d,c];have w:∀y:Int,-100000000000000<=y->y<=100000000000000->i64.wrap y=y:=λy a b=>aa (by omega) (by omega);have a0:=w (n0*x0) (by omega) (by omega);have a1:=w (n0*x1) (by omega) (by omega);have a2:=w (n1*x2) (by omega) (by omega);have a3:=w (n1*x3) (by omega) (by omega);have a4:=w (n2*x4) (by omega) (by omega);have a5:=w (n2*x5) (by omega) (by omega)
 have u:∀a b:Int,(if b<a then b else a)=min a b:=λa b=>by omega
 have s:∀a b:Int,(if a<b then b else a)=max a b:=λa b=>by omega
 have b0:=w (min (n0*x0) (n0*x1)) (by omega) (by omega);have b1:=w (min (n0*x0) (n0*x1)+min (n1*x2) (n1*x3)) (by omega) (by omega);have b2:=w (min (n0*x0) (n0*x1)+min (n1*x2) (n1*x3)+min (n2*x4) (n2*x5)) (by omega) (by omega);have d0:=w (max (n0*x0) (n0*x1)) (by omega) (by omega);have d1:=w (max (n0*x0) (n0*x1)+max (n1*x2) (n1*x3)) (by omega) (by omega);have d2:=w (max (n0*x0) (n0*x1)+max (n1*x2) (n1*x3)+max (n2*x4) (n2*x5)) (by omega) (by omega);refine Dp func291 λC hP hN=>?_;refine Gz ?_;refine WP.loopN [] 3 (λk st=>st.t 2=.ptr 2 0/\st.t 3=.ptr 3 0/\st.h 2=some (.box [.pv (Z n0),.pv (Z n1),.pv (Z n2)] true false)/\st.h 3=some (.box [.pv (Z x0),.pv (Z x1),.pv (Z x2),.pv (Z x3),.pv (Z x4),.pv (Z x5)] true false)/\st.t 8=.pv (Z k)/\st.t 6=.pv (Z (if k=0 then 0 else if k=1 then min (n0*x0) (n0*x1)else if k=2 then min (n0*x0) (n0*x1)+min (n1*x2) (n1*x3)else min (n0*x0) (n0*x1)+min (n1*x2) (n1*x3)+min (n2*x4) (n2*x5)))/\st.t 7=.pv (Z (if k=0 then 0 else if k=1 then max (n0*x0) (n0*x1)else if k=2 then max (n0*x0) (n0*x1)+max (n1*x2) (n1*x3)else max (n0*x0) (n0*x1)+max (n1*x2) (n1*x3)+max (n2*x4) (n2*x5)))) (by simp) ?_;rintro k st r ⟨g2,g3,p,q,o,m,n⟩;rcases dA r with rfl|rfl|rfl|rfl
 all_goals (simp at m n o)
 all_goals
  exact Gy
theorem Wx(n:Vc)(xs:List aq)(y:xs.length<=9223372036854775807):aF 269 (al n) (aE xs) (.tup (if aI n&&au xs then[Z (fO n xs).1,Z (fO n xs).2,B true]else[Z 0,Z 0,B false])):=by
 have e:=Ci n;rw[uj]at e;have d:=xD xs y
 cases l:aI n with
 |false=>
  rw[l]at e;cases hp:au xs<;>rw[hp]at d
  all_goals
   refine Dp func269 λC hP hN=>?_;exact Gy
 |true=>
 rw[l]at e
 cases hp:au xs with
 |false=>
  rw[hp]at d;refine Dp func269 λC hP hN=>?_;exact Gy
 |true=>
 rw[hp]at d;obtain⟨a,h8,_⟩:=bo hp;have hd:fO n xs=gn (fL n) dN xs xs.length:=rfl;rw[hd];refine Dp func269 λC hP hN=>?_;refine Gz ?_;refine WP.loopN [] xs.length (λi st=>st.t 2=.ptr 2 0/\st.h 2=some (.box [.pv (Z n.1),.pv (Z n.2.1),.pv (Z n.2.2)] true false)/\st.t 1=.pv (aE xs)/\st.t 9=.pv (Z i)/\st.t 7=.pv (Z (gn (fL n) dN xs i).1)/\st.t 8=.pv (Z (gn (fL n) dN xs i).2)) (by simp[gn]) ?_;rintro i st hi ⟨g2,x,g1,E,A,D⟩;by_cases b:i<xs.length
 .have F:=ab b (by omega)
  have c:(i:Int)<(xs.length:Int):=by omega
  generalize m:xs[i]=v at *
  have s:xs[i]?=some v:=by rw[an b,m]
  have j:bL v=true:=L4.1 a v (An s);have z:aW prog 291 [.pv (al n),.pv (bi v)] [] [] (.pv (.tup [Z (fL n v),Z (fN n v)])):=NO l j;have k:=xy (val:=fL n) (bet:=dN) s;rw[k];by_cases p:i=0
  .subst p
   exact Gy
  .have u:((i:Int)==0)=false:=by simp;omega
   generalize hq:gn (fL n) dN xs i=q at *;obtain⟨o,G⟩:=q;by_cases r:fL n v<o
   .have f:dN (fL n v) o=true:=by simp only[dN,Is];exact r
    simp only[f,or_true,Zp]at k|-;exact Gy
   .have f:dN (fL n v) o=false:=by simp only[dN,Zj];exact r
    simp only[f,p,Y9,or_self,Zk]at k|-;exact Gy
 .have c:¬(i:Int)<(xs.length:Int):=by omega
  have g:i=xs.length:=by omega
  subst g;exact Gy
theorem Wy(n:Vc)(xs:List aq)(y:xs.length<=9223372036854775807):aF 270 (al n) (aE xs) (.tup (if aI n&&au xs then[Z (fP n xs).1,Z (fP n xs).2,B true]else[Z 0,Z 0,B false])):=by
 have e:=Ci n;rw[uj]at e;have d:=xD xs y
 cases l:aI n with
 |false=>
  rw[l]at e;cases hp:au xs<;>rw[hp]at d
  all_goals
   refine Dp func270 λC hP hN=>?_;exact Gy
 |true=>
 rw[l]at e
 cases hp:au xs with
 |false=>
  rw[hp]at d;refine Dp func270 λC hP hN=>?_;exact Gy
 |true=>
 rw[hp]at d;obtain⟨a,h8,_⟩:=bo hp;have hd:fP n xs=gn (fN n) dO xs xs.length:=rfl;rw[hd];refine Dp func270 λC hP hN=>?_;refine Gz ?_;refine WP.loopN [] xs.length (λi st=>st.t 2=.ptr 2 0/\st.h 2=some (.box [.pv (Z n.1),.pv (Z n.2.1),.pv (Z n.2.2)] true false)/\st.t 1=.pv (aE xs)/\st.t 9=.pv (Z i)/\st.t 7=.pv (Z (gn (fN n) dO xs i).1)/\st.t 8=.pv (Z (gn (fN n) dO xs i).2)) (by simp[gn]) ?_;rintro i st hi ⟨g2,x,g1,E,A,D⟩;by_cases b:i<xs.length
 .have F:=ab b (by omega)
  have c:(i:Int)<(xs.length:Int):=by omega
  generalize m:xs[i]=v at *
  have s:xs[i]?=some v:=by rw[an b,m]
  have j:bL v=true:=L4.1 a v (An s);have z:aW prog 291 [.pv (al n),.pv (bi v)] [] [] (.pv (.tup [Z (fL n v),Z (fN n v)])):=NO l j;have k:=xy (val:=fN n) (bet:=dO) s;rw[k];by_cases p:i=0
  .subst p
   exact Gy
  .have u:((i:Int)==0)=false:=by simp;omega
   generalize hq:gn (fN n) dO xs i=q at *;obtain⟨o,G⟩:=q;by_cases r:o<fN n v
   .have f:dO (fN n v) o=true:=by simp only[dO,Is];exact r
    simp only[f,or_true,Zp]at k|-;exact Gy
   .have f:dO (fN n v) o=false:=by simp only[dO,Zj];exact r
    simp only[f,p,Y9,or_self,Zk]at k|-;exact Gy
 .have c:¬(i:Int)<(xs.length:Int):=by omega
  have g:i=xs.length:=by omega
  subst g;exact Gy
theorem Cu(r:Int):aR 190 (Z r) (B (aT r 0 1048576)):=by
 refine Dp func190 λC hP hN=>?_
 with_reducible repeat' (first|refine Sp.h ?_|((first|refine Ss.h ?_|(refine Sb.h ?_ ?_ ?_<;>(try intro hgd)<;>try exact Xy))<;>simp -implicitDefEqProofs (maxSteps:=2000000) [hP,hN])|refine X2 ?_ ?_|(refine Xd ?_ ?_<;>intro hcd<;>try exact Xx))
 all_goals (first|(simp_all[aT];done)|((try simp_all[aT])<;>(try omega)<;>grind))
theorem Wz(n:Vc)(a:List aq)(c:Int)(b:List aq)(d:Int)(s:a.length<=9223372036854775807)(m:b.length<=9223372036854775807):wo 230 (al n) (aE a) (Z c) (aE b) (Z d) (.tup (if kr n a c b d then[Z (lJ n a c b d),B true]else[Z 0,B false])):=by
 have c1:=Wx n a s;have l:=Wy n b m;have o:=Cu c;have p:=Cu d;have r:=Rv n
 have k:kr n a c b d=(au a&&aT c 0 1048576&&(au b&&aT d 0 1048576)&&aI n):=by
  simp only[kr,pQ,aT,Bool.and_assoc]
 have u:=vH n;have q:lJ n a c b d=(fO n a).1-(fP n b).1-eV n*(c+d):=rfl;cases j:aI n<;>cases e:au a<;>cases f:au b<;>cases g:aT c 0 1048576<;>cases i:aT d 0 1048576
 case true.true.true.true.true=>
  rw[j,e,f,g,i]at k;rw[j,e]at c1;rw[j,f]at l;rw[g]at o;rw[i]at p
  have hn:ay 16384 n=true:=by simp only[aI,up]at j;exact j.1
  have v:=Dn (n:=n) hn (bo e).1;have A:=Do (n:=n) hn (bo f).1;simp only[aT,up,Is]at g i;have D:=bj (a:=eV n) (b:=c+d) 32768 2097152 (by omega) (by omega) (by omega) (by omega);have w1:i64.wrap (c+d)=c+d:=aa;have w2:i64.wrap (eV n*(c+d))=eV n*(c+d):=aa;have E:i64.wrap ((fO n a).1-(fP n b).1)=(fO n a).1-(fP n b).1:=aa;have F:i64.wrap ((fO n a).1-(fP n b).1-eV n*(c+d))=(fO n a).1-(fP n b).1-eV n*(c+d):=aa;rw[k,q];simp only[yAo,Zp]at c1 l|-;generalize fO n a=x at *;generalize fP n b=y at *;generalize eV n=z at *;refine Dp func230 λC hP hN=>?_;exact Gy
 all_goals (
  rw[j,e,f,g,i]at k;rw[j,e]at c1;rw[j,f]at l;rw[g]at o;rw[i]at p;rw[k];simp only[yAo,yAr,ZI,Zu,yAD,Zp,Y9,Zk]at c1 l|-;clear k q u r;generalize fO n a=x at *
  generalize fP n b=y at *)
 all_goals
  refine Dp func230 λC hP hN=>?_;exact Gy
theorem WA(n:Vc)(a:List aq)(c:Int)(b:List aq)(d:Int)(i:a.length<=9223372036854775807)(e:b.length<=9223372036854775807):wo 194 (al n) (aE a) (Z c) (aE b) (Z d) (B (iU n a c b d)):=by
 have f:=Wz n a c b d i e;have j:iU n a c b d=(kr n a c b d&&decide (0<lJ n a c b d)):=rfl;rw[j];generalize lJ n a c b d=m at *;cases g:kr n a c b d<;>rw[g]at f<;>simp only[Y9,Zk,Zp,ZI,Zu]at f|-
 all_goals
  refine Dp func194 λC hP hN=>?_;exact Gy
theorem WB(l:List Vc)(a:List aq)(d:Int)(b:List aq)(e:Int)(u:l.length<=9223372036854775807)(G:a.length<=9223372036854775807)(s:b.length<=9223372036854775807):wo 133 (aw l) (aE a) (Z d) (aE b) (Z e) (.tup (match l.findIdx? (λn=>iU n a d b e)with|some i=>[Z i,B true]|none=>[Z 0,B false])):=by
 refine Dp func133 λC hP hN=>?_;refine Gz ?_;refine WP.loopN [] l.length (λi st=>st.t 0=.pv (aw l)/\st.t 1=.pv (aE a)/\st.t 2=.pv (Z d)/\st.t 3=.pv (aE b)/\st.t 4=.pv (Z e)/\st.t 12=.pv (Z i)/\∀k x,k<i->l[k]?=some x->iU x a d b e=false) (by simp) ?_;rintro i st hi ⟨g0,g1,g2,g3,g4,E,hq⟩;by_cases f:i<l.length
 .have H:=ab f u
  have g:(i:Int)<(l.length:Int):=by omega
  generalize o:l[i]=v at *
  have z:l[i]?=some v:=by rw[an f,o]
  have D:=WA v a d b e G s;have y:=IK (p:=λn=>iU n a d b e) z hq
  cases q:iU v a d b e with
  |true=>
   rw[q]at D
   have hf:l.findIdx? (λn=>iU n a d b e)=some i:=by
    rw[yA2];refine⟨f,by rw[o];exact q,λj F=>?_⟩;have:=hq j l[j] F (an (by omega));simp[this]
   rw[hf];exact Gy
  |false=>
   rw[q]at D;have m:=y q;refine Gz ?_
   all_goals exact λk a b c r A=>m k (a,b,c) (by omega) A
 .have g:¬(i:Int)<(l.length:Int):=by omega
  have hf:l.findIdx? (λn=>iU n a d b e)=none:=by
   rw[List.findIdx?_eq_none_iff];intro x z;obtain⟨k,r⟩:=ZF z;exact hq k x (by have:=(th.1 r).1;omega) r
  rw[hf];exact Gy
theorem WC:BC 193 (aw j7):=by
 refine Dp func193 λC hP hN=>?_;exact Gy
theorem L9(v w:Vc)(a:em 1152921504606846976 v)(b:em 1152921504606846976 w):aF 135 (al v) (al w) (al (aL v w)):=by
 have w1:i64.wrap (v.1-w.1)=v.1-w.1:=aa (by have:=a.1;have:=b.1;omega) (by have:=a.1;have:=b.1;omega);have w2:i64.wrap (v.2.1-w.2.1)=v.2.1-w.2.1:=aa (by have:=a.2.1;have:=b.2.1;omega) (by have:=a.2.1;have:=b.2.1;omega);have d:i64.wrap (v.2.2-w.2.2)=v.2.2-w.2.2:=aa (by have:=a.2.2;have:=b.2.2;omega) (by have:=a.2.2;have:=b.2.2;omega);have c:aL v w=(v.1-w.1,v.2.1-w.2.1,v.2.2-w.2.2):=rfl;rw[c];refine Dp func135 λC hP hN=>?_;exact Gy
theorem Cr(v w:Vc)(m n:Nat)(c:em m v)(d:em n w)(a:3*(m*n)<=9223372036854775807):aF 140 (al v) (al w) (Z (bg v w)):=by
 have h:=kX c d;have w1:i64.wrap (v.1*w.1)=v.1*w.1:=aa;have w2:i64.wrap (v.2.1*w.2.1)=v.2.1*w.2.1:=aa;have e:i64.wrap (v.2.2*w.2.2)=v.2.2*w.2.2:=aa;have f:i64.wrap (v.1*w.1+v.2.1*w.2.1)=v.1*w.1+v.2.1*w.2.1:=aa;have g:i64.wrap (v.1*w.1+v.2.1*w.2.1+v.2.2*w.2.2)=v.1*w.1+v.2.1*w.2.1+v.2.2*w.2.2:=aa;have b:bg v w=v.1*w.1+v.2.1*w.2.1+v.2.2*w.2.2:=rfl;rw[b];refine Dp func140 λC hP hN=>?_;exact Gy
theorem Q6(l:List Vc)(J:l.length<=9223372036854775807):aR 134 (aw l) (B (eN l)):=by
 by_cases h8:l.length<=8
 .skip
  refine Dp func134 λC hP hN=>?_;refine Gz ?_;refine WP.loopN [] l.length (λi st=>st.t 0=.pv (aw l)/\st.t 3=.pv (Z i)/\∀k x,k<i->l[k]?=some x->ay 268435456 x=true) (by simp) ?_;rintro i st hi ⟨g0,g3,hq⟩;by_cases f:i<l.length
  .have G:i64.wrap ((i:Int)+1)=(i:Int)+1:=aa
   have g:(i:Int)<(l.length:Int):=by omega
   have u:(i:Int)<=8:=by omega
   have q:i<=8:=by omega
   generalize j:l[i]=v at *
   have D:l[i]?=some v:=by rw[an f,j]
   have n:=wW v.1 v.2.1 v.2.2 268435456 (by decide) (by decide);have z:ay 268435456 v=fk v.1 v.2.1 v.2.2 268435456:=rfl;rw[<-z]at n;have A:=mY (p:=ay 268435456) D hq
   cases m:ay 268435456 v with
   |true=>
    rw[m]at n;have r:=A m;refine Gz ?_
    all_goals exact λk a b c I E=>r k (a,b,c) (by omega) E
   |false=>
    rw[m]at n
    have d:l.all (ay 268435456)=false:=by
     rw[yAA];exact⟨v,An D,by simp[m]⟩
    have e:eN l=false:=by simp[eN,d]
    rw[e];exact Gy
  .have d:l.all (ay 268435456)=true:=pD hq f
   have g:¬(i:Int)<(l.length:Int):=by omega
   have e:eN l=decide (1<=l.length):=by
    rw[eN,d,ZH h8,yAD,yAD]
   rw[e];by_cases h1:1<=l.length
   .have o:(1:Int)<=(l.length:Int):=by omega
    have s:(l.length:Int)<=8:=by omega
    exact Gy
   .have o:¬(1:Int)<=(l.length:Int):=by omega
    exact Gy
 .have e:eN l=false:=by
   cases h:eN l with
   |false=>rfl
   |true=>simp only[eN,up,Is]at h;omega
  rw[e];refine Dp func134 λC hP hN=>?_;refine Gz ?_;refine WP.loopN [] 9 (λi st=>st.t 0=.pv (aw l)/\st.t 3=.pv (Z i)) (by simp) ?_;rintro i st hi ⟨g0,g3⟩;by_cases u:i<=8
  .have f:i<l.length:=by omega
   have G:i64.wrap ((i:Int)+1)=(i:Int)+1:=aa
   have g:(i:Int)<(l.length:Int):=by omega
   have q:(i:Int)<=8:=by omega
   generalize j:l[i]=v at *
   have D:l[i]?=some v:=by rw[an f,j]
   have n:=wW v.1 v.2.1 v.2.2 268435456 (by decide) (by decide);cases m:fk v.1 v.2.1 v.2.2 268435456<;>rw[m]at n
   .skip
    exact Gy
   .skip
    refine Gz ?_
    all_goals omega
  .have y:i=9:=by omega
   subst y
   have s:¬(l.length:Int)<=8:=by omega
   have o:(1:Int)<=(l.length:Int):=by omega
   have h1:1<=l.length:=by omega
   by_cases H:9<l.length
   .have F:(9:Int)<(l.length:Int):=by omega
    exact Gy
   .skip
    exact Gy
theorem Wa(v:Vc)(rho:Int)(d:em 35184372088832 v)(y:0<=rho/\rho<=2097152):aF 137 (al v) (Z rho) (B (pd v rho)):=by
 have m:=ry d.1;have o:=ry d.2.1;have p:=ry d.2.2;have u:=bj (a:=rho) (b:=rho) 2097152 2097152 (by omega) (by omega) (by omega) (by omega);have w0:i64.wrap (rho*rho)=rho*rho:=aa;have f:∀x:Int,-35184372088832<=x->x<=35184372088832->i64.wrap (-x)=-x/\i64.wrap (0-x)=-x:=λx a b=>⟨aa (by omega) (by omega),(aa (n:=0-x) (by omega) (by omega)).trans (by omega)⟩;have m0:=f v.1 d.1.1 d.1.2;have m1:=f v.2.1 d.2.1.1 d.2.1.2;have m2:=f v.2.2 d.2.2.1 d.2.2.2
 have e:∀x:Int,-35184372088832<=x->x<=35184372088832->aW prog 84 [.pv (Z (max x (-x))),.pv (Z 65536)] [] [] (.pv (Z (cZ (max x (-x)) 65536))):=λx a b=>by
  have:=FK (max x (-x)) 65536 (by decide);rw[sD (by decide) (by omega) (by omega)]at this;exact this
 have q:=e v.1 d.1.1 d.1.2;have c1:=e v.2.1 d.2.1.1 d.2.1.2;have r:=e v.2.2 d.2.2.1 d.2.2.2
 have s:∀a b:Int,(if a<b then b else a)=max a b:=λa b=>by omega
 have hd:pd v rho=decide (mq v.1+mq v.2.1+mq v.2.2<=rho*rho):=rfl;have g:mq v.1=cZ (max v.1 (-v.1)) 65536*cZ (max v.1 (-v.1)) 65536:=rfl;have s1:mq v.2.1=cZ (max v.2.1 (-v.2.1)) 65536*cZ (max v.2.1 (-v.2.1)) 65536:=rfl;have s2:mq v.2.2=cZ (max v.2.2 (-v.2.2)) 65536*cZ (max v.2.2 (-v.2.2)) 65536:=rfl;rw[hd];generalize cZ (max v.1 (-v.1)) 65536=c at *;generalize cZ (max v.2.1 (-v.2.1)) 65536=k1 at *;generalize cZ (max v.2.2 (-v.2.2)) 65536=k2 at *;rw[g,s1,s2];rw[g]at m;rw[s1]at o;rw[s2]at p;have w1:i64.wrap (c*c)=c*c:=aa;have w2:i64.wrap (k1*k1)=k1*k1:=aa;have z:i64.wrap (k2*k2)=k2*k2:=aa;have A:i64.wrap (c*c+k1*k1)=c*c+k1*k1:=aa;have D:i64.wrap (c*c+k1*k1+k2*k2)=c*c+k1*k1+k2*k2:=aa;refine Dp func137 λC hP hN=>?_;refine Gz ?_;refine WP.loopN [] 3 (λk st=>st.t 2=.ptr 2 0/\st.h 2=some (.box [.pv (Z v.1),.pv (Z v.2.1),.pv (Z v.2.2)] true false)/\st.t 1=.pv (Z rho)/\st.t 6=.pv (Z k)/\st.t 5=.pv (Z (if k=0 then 0 else if k=1 then c*c else if k=2 then c*c+k1*k1 else c*c+k1*k1+k2*k2))) (by simp) ?_;rintro k st l ⟨g2,j,g1,i,g5⟩;rcases dA l with rfl|rfl|rfl|rfl
 all_goals (simp at g5 i)
 all_goals
  exact Gy
theorem Q7(l:List Vc)(ws:List Int)(h8:l.length<=8)(G:ws.length=l.length)(y:l.all (ay 268435456)=true)(q:WgOk ws):aF 136 (aw l) (zs ws) (al (bO l ws l.length)):=by
 refine Dp func136 λC hP hN=>?_;refine Gz ?_;refine WP.loopN [] l.length (λi st=>st.t 0=.pv (aw l)/\st.t 1=.pv (zs ws)/\st.t 4=.ptr 4 0/\st.h 4=some (.box [.pv (Z 0),.pv (Z 0),.pv (Z 0)] true false)/\st.t 5=.ptr 5 0/\st.h 5=some (.box [.pv (Z (bO l ws i).1),.pv (Z (bO l ws i).2.1),.pv (Z (bO l ws i).2.2)] true false)/\st.t 6=.pv (Z i)) (by simp[bO]) ?_;rintro i st hi ⟨g0,g1,g4,f,g5,c,o⟩;by_cases g:i<l.length
 .have H:=ab g (by omega)
  have d:(i:Int)<(l.length:Int):=by omega
  have e:i<ws.length:=by omega
  generalize m:l[i]=p at *
  have u:l[i]?=some p:=by rw[an g,m]
  generalize n:ws[i]=k at *
  have r:ws[i]?=some k:=by rw[an e,n]
  have J:=jn y q i (by omega);have K:=jn y q (i+1) (by omega);have E:=q.pos k (An r)
  have F:k<=65536:=by
   have a1:=mX r;have a2:=r7 q.pos i;have a3:=gM q.pos (show i+1<=ws.length by omega);have a4:=q.tot;omega
  have hp:=dC (L4.1 y p (An u))
  have hS:bO l ws (i+1)=((bO l ws i).1+k*p.1,(bO l ws i).2.1+k*p.2.1,(bO l ws i).2.2+k*p.2.2):=by simp only[bO,u,r]
  have m1:=bj (a:=k) (b:=p.1) 65536 268435456 (by omega) (by omega) hp.1.1 hp.1.2;have m2:=bj (a:=k) (b:=p.2.1) 65536 268435456 (by omega) (by omega) hp.2.1.1 hp.2.1.2;have I:=bj (a:=k) (b:=p.2.2) 65536 268435456 (by omega) (by omega) hp.2.2.1 hp.2.2.2;generalize bO l ws i=S at *;generalize bO l ws (i+1)=O at *;subst hS;obtain⟨z,A,B⟩:=K;simp only at z A B;have L:i64.wrap (k*p.1)=k*p.1:=aa;have M:i64.wrap (k*p.2.1)=k*p.2.1:=aa;have N:i64.wrap (k*p.2.2)=k*p.2.2:=aa;have v1:i64.wrap (S.1+k*p.1)=S.1+k*p.1:=aa;have v2:i64.wrap (S.2.1+k*p.2.1)=S.2.1+k*p.2.1:=aa;have v3:i64.wrap (S.2.2+k*p.2.2)=S.2.2+k*p.2.2:=aa;clear J z A B m1 m2 I hp;have s:[AV.pv (Z S.1),AV.pv (Z S.2.1),AV.pv (Z S.2.2)]=kw S p k 0:=rfl;rw[s]at c;refine Gz ?_;refine WP.loopN [] 3 (λj st=>st.t 0=.pv (aw l)/\st.t 1=.pv (zs ws)/\st.t 4=.ptr 4 0/\st.h 4=some (.box [.pv (Z 0),.pv (Z 0),.pv (Z 0)] true false)/\st.t 5=.ptr 5 0/\st.h 5=some (.box (kw S p k j) true false)/\st.t 6=.pv (Z i)/\st.t 7=.pv (Z j)) (by simp[g0,g1,g4,f,g5,o,c,kw]) ?_;clear g0 g1 g4 f g5 o c;rintro j st D ⟨g0,g1,g4,f,g5,c,o,v⟩;rcases dA D with rfl|rfl|rfl|rfl
  all_goals (simp[kw]at c v)
  .skip
   with_reducible repeat' (first|refine Sp.h ?_|((first|refine Wd ?_|refine Ss.h ?_)<;>simp -implicitDefEqProofs [hP,hN,g0,g1,g4,f,g5,c,o,v,u,m,r,n,g,d,e,L,v1,kw]<;>try refine Ya ?_))
  .skip
   with_reducible repeat' (first|refine Sp.h ?_|((first|refine Wd ?_|refine Ss.h ?_)<;>simp -implicitDefEqProofs [hP,hN,g0,g1,g4,f,g5,c,o,v,u,m,r,n,g,d,e,M,v2,kw]<;>try refine Ya ?_))
  .skip
   with_reducible repeat' (first|refine Sp.h ?_|((first|refine Wd ?_|refine Ss.h ?_)<;>simp -implicitDefEqProofs [hP,hN,g0,g1,g4,f,g5,c,o,v,u,m,r,n,g,d,e,N,v3,kw]<;>try refine Ya ?_))
  .skip
   exact Gy
 .have x:i=l.length:=by omega
  have d:¬(i:Int)<(l.length:Int):=by omega
  subst x;exact Gy
theorem Dq(l:List Int)(i:Nat)(y:Int):(List.map Z l).set i (PV.val (Value.int i64 y))=List.map Z (l.set i y):=by simp
theorem Q8(w:List Int)(t:Int)(q:Nat)(h8:w.length<=8)(c:WgOk w)(hq:q<w.length)(A:0<=t)(n:t<=256):gu 142 (zs w) (Z t) (Z q) (zs (jK w q t)):=by
 have M:jK w q t=(dx w t w.length).set q (((dx w t w.length)[q]?).getD 0+dy w t w.length):=rfl
 have d:∀k∈w,0<=k/\k<=65536:=λk l=>by
  obtain⟨i,hi⟩:=ZF l;have a1:=mX hi;have a2:=r7 c.pos i;have a3:=gM c.pos (show i+1<=w.length by have:=(th.1 hi).1;omega);have a4:=c.tot;exact⟨c.pos k l,by omega⟩
 have a:=pg c.pos A n
 have f1:w.length*8<=140737488355328:=by omega
 have f2:w.length<=9223372036854775807:=by omega
 refine Dp func142 λC hP hN=>?_;refine GT (gA f1 f2) ?_;refine WP.loopN [] w.length (λi st=>st.t 1=.pv (Z t)/\st.t 2=.pv (Z q)/\st.t 7=.arr 12 w.length/\st.h 12=some (.row 2 1 ((dx w t i).map Z) 0)/\st.t 8=.pv (Z (dy w t i))/\st.t 9=.pv (Z i)) (by simp[vm,dy]) ?_;rintro i st hi ⟨g1,g2,F,I,G,H⟩;have j:=nj w t i;have N:=a i
 have O:aQ w i<=65536:=by
  have:=gM c.pos (show i<=w.length by omega);have:=c.tot;omega
 by_cases m:i<w.length
 .have B:=ab m (by omega)
  have b:(i:Int)<(w.length:Int):=by omega
  generalize D:w[i]=k at *
  have o:w[i]?=some k:=by rw[an m,D]
  have l:=d k (An o);have hp:=pf l.1 A n
  have g:(dx w t i)[i]?=some k:=by rw[jd,o];simp
  have p:=vn (t:=t) o
  have x:dy w t (i+1)=dy w t i+k*t/256:=by simp[dy,o]
  have v:=a (i+1)
  have J:aQ w (i+1)<=65536:=by
   have:=gM c.pos (show i+1<=w.length by omega);have:=c.tot;omega
  rw[p];rw[x]at v|-;have y:(List.map Z (dx w t i)).set i (PV.val (Value.int i64 (k-k*t/256)))=List.map Z ((dx w t i).set i (k-k*t/256)):=Dq _ _ _;generalize dx w t i=K at *
  have f:∀h,K[i]'h=k:=λh=>by rw[an h]at g;exact ZQ g
  have w1:i64.wrap (k*t)=k*t:=aa;have w2:(k*t).tdiv 256=k*t/256:=Zr (by omega);have Q:i64.wrap (k*t/256)=k*t/256:=aa;have R:i64.wrap (k-k*t/256)=k-k*t/256:=aa;have E:i64.wrap (dy w t i+k*t/256)=dy w t i+k*t/256:=aa;generalize dy w t i=L at *
  with_reducible repeat' (first|refine Sp.h ?_|((first|refine Ss.h ?_)<;>simp -implicitDefEqProofs [hP,hN,g1,g2,F,I,G,H,m,b,g,f,j,w1,w2,Q,R,E,B,y,-List.map_set]))
 .have r:i=w.length:=by omega
  have b:¬(i:Int)<(w.length:Int):=by omega
  subst r
  have z:(q:Int)<(w.length:Int):=by omega
  obtain⟨u,e⟩:∃u,(dx w t w.length)[q]?=some u:=⟨_,an (by rw[j];exact hq)⟩
  have P:0<=u/\u<=65536:=by
   rw[jd]at e;obtain⟨k,l⟩:∃k,w[q]?=some k:=⟨_,an hq⟩;rw[l]at e;simp only[ZS,Za]at e;have s:=d k (An l);have hp:=pf s.1 A n;split at e<;>omega
  rw[M,e];have y:(List.map Z (dx w t w.length)).set q (PV.val (Value.int i64 (u+dy w t w.length)))=List.map Z ((dx w t w.length).set q (u+dy w t w.length)):=Dq _ _ _;have E:i64.wrap (u+dy w t w.length)=u+dy w t w.length:=aa;generalize dx w t w.length=K at *
  have f:∀h,K[q]'h=u:=λh=>by rw[an h]at e;exact ZQ e
  generalize dy w t w.length=L at *
  with_reducible repeat' (first|refine Sp.h ?_|((first|refine Ss.h ?_)<;>simp -implicitDefEqProofs [hP,hN,g1,g2,F,I,G,H,b,hq,z,e,f,j,E,y,-List.map_set]))
theorem SJ(x:Int)(a:Nat):(x.tdiv (a:Int)).tdiv 2=x.tdiv ((a*2:Nat):Int):=by
 have h:∀n:Nat,((n:Int).tdiv (a:Int)).tdiv 2=(n:Int).tdiv ((a*2:Nat):Int):=λn=>by
  have e:∀p q:Nat,(p:Int).tdiv (q:Int)=((p/q:Nat):Int):=λp q=>by rw[Zr (by omega),Int.natCast_ediv]
  rw[e n a,show(2:Int)=((2:Nat):Int) from rfl,e,e,Nat.div_div_eq_div_mul]
 rcases yA7 0 x with b|b
 .have:=h x.toNat
  rw[Int.toNat_of_nonneg b]at this;exact this
 .have:=h (-x).toNat
  rw[Int.toNat_of_nonneg (by omega)]at this;rw[Int.neg_tdiv,Int.neg_tdiv,Int.neg_tdiv]at this;omega
def jg(i:Nat)(v:Vc):Vc:=(v.1.tdiv ((2^i:Nat):Int),v.2.1.tdiv ((2^i:Nat):Int),v.2.2.tdiv ((2^i:Nat):Int))
theorem Ma(v:Vc):jg 0 v=v:=by simp[jg]
theorem Mb(i:Nat)(v:Vc):lI (jg i v)=jg (i+1) v:=by
 simp only[lI,jg,SJ,yBj]
theorem Bj{v:Vc}:∀(i:Nat),i<=64->(∀j,j<i->ay 16384 (jg j v)=false)->kg 64 v=kg (64-i) (jg i v)
 |0,_,_=>by rw[Ma]
 |i+1,hi,h=>by
  rw[Bj i (by omega) (λj a=>h j (by omega)),show 64-i=(64-(i+1))+1 by omega,kg,Y6 (by rw[h i (by omega)];simp),Mb]
theorem GJ(h:ay 16384 v=true):kg n v=v:=by
 cases n with
 |zero=>rfl
 |succ n=>rw[kg,Zd h]
theorem Kj(hi:i<=64)(h:∀j,j<i->ay 16384 (jg j v)=false)(hn:ay 16384 (jg i v)=true):bb v=jg i v:=by
 unfold bb;rw[Bj i hi h,GJ hn]
theorem OO(h:ay 16384 v=false):nz (lI v)=true:=by
 have hn:¬(ay 16384 v=true):=by rw[h];simp
 rw[bu,aV,aV,aV]at hn
 cases d:nz (lI v)with
 |true=>rfl
 |false=>
  exfalso;simp only[nz,lI,Bool.not_eq_false',up,ZW]at d;obtain⟨⟨e,f⟩,g⟩:=d
  have t:∀x:Int,x.tdiv 2=0->-2<x/\x<2:=λx i=>by
   have:=yBc x 2;have:=yA0 x (show(0:Int)<2 by decide);have:=yAI x (show(0:Int)<2 by decide);omega
  have a:=t _ e;have b:=t _ f;have c:=t _ g;omega
theorem FL:∀(n:Nat)(v:Vc),nz v=true->nz (kg n v)=true
 |0,v,h=>h
 |n+1,v,h=>by
  rw[kg];split
  .exact h
  .rename_i hn
   exact FL n _ (OO (by simpa using hn))
theorem OP(h:em 1099511627776 v):ay 16384 (jg 26 v)=true:=by
 have t:∀x:Int,-1099511627776<=x->x<=1099511627776->-16384<=x.tdiv ((2^26:Nat):Int)/\x.tdiv ((2^26:Nat):Int)<=16384:=λx a b=>by
  have e:=yBc x ((2^26:Nat):Int);have d:=yA0 x (show(0:Int)<((2^26:Nat):Int) by decide);have f:=yAI x (show(0:Int)<((2^26:Nat):Int) by decide)
  have g:((2^26:Nat):Int)=67108864:=by decide
  rw[g]at e d f|-;omega
 have a:=t _ h.1.1 h.1.2;have b:=t _ h.2.1.1 h.2.1.2;have c:=t _ h.2.2.1 h.2.2.2;rw[bu,aV,aV,aV];simp only[jg];omega
@[simp] theorem Xa(x y:Operand):
 aU prog ⟨dst,.binOp .eql 60 x y 60,ty,pos,aft,g⟩ ρ=IX (ρ x) (ρ y) (jH prog ⟨dst,.binOp .eql 60 x y 60,ty,pos,aft,g⟩ ρ):=by
 unfold IX;split
 .rename_i a b e c d f i j
  exact uZ rfl (rc i) (rc j) (by kernel_rfl) (NP a b e c d f)
 .rfl
@[simp] theorem RX(a b e c d f:Int)(fb:Option bG):IX (.pv (.val (.agg #[.int .i64 a,.int .i64 b,.int .i64 e]))) (.pv (.val (.agg #[.int .i64 c,.int .i64 d,.int .i64 f]))) fb=some (.pv (.val (.bool (a==c&&b==d&&e==f))),[]):=rfl
theorem Q9(v:Vc)(h:em 1099511627776 v):aR 138 (al v) (.tup [al (bb v),B (nz (bb v))]):=by
 cases z:nz v with
 |false=>
  have m:(v.1==0&&v.2.1==0&&v.2.2==0)=true:=by simpa[nz]using z
  have G:v=(0,0,0):=by
   simp only[up,ZW]at m;obtain⟨⟨a,b⟩,c⟩:=m;exact Prod.ext a (Prod.ext b c)
  subst G
  have hn:bb (0,0,0)=(0,0,0):=by decide +kernel
  rw[hn,z];refine Dp func138 λC hP hN=>?_;exact Gy
 |true=>
  have m:(v.1==0&&v.2.1==0&&v.2.2==0)=false:=by
   have:=z;simp only[nz,ZK]at this;exact this
  have E:nz (bb v)=true:=FL 64 v z;rw[E];have N:∀i,i<=26->(2^i:Nat)<=67108864:=λi hi=>Nat.pow_le_pow_right (by decide) hi;have M:∀i,0<(2^i:Nat):=λi=>Nat.pow_pos (by decide);refine Dp func138 λC hP hN=>?_;refine Gz ?_;refine WP.loopN [5] 26 (λi st=>st.t 1=.ptr 1 0/\st.h 1=some (.box [.pv (Z v.1),.pv (Z v.2.1),.pv (Z v.2.2)] true false)/\st.t 2=.ptr 2 0/\st.h 2=some (.box [.pv (Z 0),.pv (Z 0),.pv (Z 0)] true false)/\st.t 4=.pv (Z ((2^i:Nat):Int))/\st.h 5=none/\∀j,j<i->ay 16384 (jg j v)=false) (by simp) ?_;rintro i st hi ⟨g1,p,g2,q,g4,r,hq⟩;have R:=N i hi;have S:=M i
  have u:¬((2^i:Nat):Int)=0:=by omega
  have d:¬(2^i:Nat)=0:=by omega
  have n:=wW (jg i v).1 (jg i v).2.1 (jg i v).2.2 16384 (by decide) (by decide);have D:ay 16384 (jg i v)=fk (jg i v).1 (jg i v).2.1 (jg i v).2.2 16384:=rfl;rw[<-D]at n;have g:(jg i v).1=v.1.tdiv ((2^i:Nat):Int):=rfl;have k:(jg i v).2.1=v.2.1.tdiv ((2^i:Nat):Int):=rfl;have l:(jg i v).2.2=v.2.2.tdiv ((2^i:Nat):Int):=rfl
  have H:∀x:Int,-1099511627776<=x->x<=1099511627776->i64.wrap (x.tdiv ((2^i:Nat):Int))=x.tdiv ((2^i:Nat):Int):=λx a b=>by
   have e:=Int.natAbs_tdiv_le_natAbs x ((2^i:Nat):Int);exact aa (by omega) (by omega)
  have t1:=H _ h.1.1 h.1.2;have t2:=H _ h.2.1.1 h.2.1.2;have t3:=H _ h.2.2.1 h.2.2.2;rw[<-g]at t1;rw[<-k]at t2;rw[<-l]at t3;have L:(2^(i+1):Nat)=2^i*2:=yBj 2 i;have P:i64.wrap (((2^i:Nat):Int)*2)=((2^(i+1):Nat):Int):=(aa (by omega) (by omega)).trans (by omega);have A:=λhn=>Kj (v:=v) (i:=i) (by omega) hq hn
  have o:ay 16384 (jg i v)=false->i<26:=λhf=>by
   by_cases f:i<26
   .exact f
   .have:i=26:=by omega
    subst this;rw[OP h]at hf;cases hf
  have F:ay 16384 (jg i v)=false->∀j,j<i+1->ay 16384 (jg j v)=false:=λhf j T=>by
   by_cases e:j=i
   .subst e;exact hf
   .exact hq j (by omega)
  generalize Q:jg i v=I at *;generalize J:(2^(i+1):Nat)=O at *;generalize(2^i:Nat)=U at *
  cases s:ay 16384 I with
  |true=>
   rw[s]at n;have K:=A s;rw[K]
   with_reducible repeat' (first|refine Sp.h ?_|((first|refine Wd ?_|refine Ss.h ?_|refine Sc.h (n) ?_)<;>simp -implicitDefEqProofs [hP,hN,g1,p,g2,q,g4,r,u,d,<-g,<-k,<-l,t1,t2,t3]<;>try refine Ya ?_))
  |false=>
   rw[s]at n;have f:=o s;have y:=F s
   with_reducible repeat' (first|refine Sp.h ?_|((first|refine Wd ?_|refine Ss.h ?_|refine Sc.h (n) ?_|(refine Sb.h ?_ ?_ ?_<;>(try intro hgd)<;>try exact Xy))<;>simp -implicitDefEqProofs [hP,hN,g1,p,g2,q,g4,r,u,d,<-g,<-k,<-l,t1,t2,t3,P]<;>try refine Ya ?_)|refine X2 ?_ ?_|(refine Xd ?_ ?_<;>intro hcd<;>try exact Xx))
   all_goals exact⟨f,y⟩
theorem qi{bet:Int->Int->Bool}{n p0:Vc}{l:List Vc}(b:l[0]?=some p0):∀i,∃p,l[(cG bet n p0 l i).2]?=some p/\(cG bet n p0 l i).1=bg n p
 |0=>⟨p0,b,rfl⟩
 |i+1=>by
  obtain⟨p,hp,c⟩:=qi (bet:=bet) (n:=n) b i
  cases a:l[i]? with
  |none=>simp only[cG,a];exact⟨p,hp,c⟩
  |some v=>
   rw[oB a];split
   .exact⟨v,a,rfl⟩
   .exact⟨p,hp,c⟩
theorem Ra(n:Vc)(l:List Vc)(hn:ay 16384 n=true)(h1:1<=l.length)(h8:l.length<=8)(U:l.all (ay 268435456)=true):gu 139 (al n) (aw l) (Z 1) (Z (bN dN n l).2):=by
 obtain⟨p0,e⟩:∃p0,l[0]?=some p0:=⟨_,an (by omega)⟩
 have T:bN dN n l=cG dN n p0 l l.length:=by simp[bN,e]
 have u:=qi (bet:=dN) (n:=n) e;have o:=vk (bet:=dN) (n:=n) (p0:=p0) (l:=l) (by omega);have s:=xk hn
 have b:∀p∈l,aW prog 140 [.pv (al n),.pv (al p)] [] [] (.pv (Z (bg n p)))/\-13194139533312<=bg n p/\bg n p<=13194139533312:=λp hp=>by
  have hq:=dC (L4.1 U p hp);exact⟨Cr n p 16384 268435456 s hq (by decide),tj s hq⟩
 rw[T];refine Dp func139 λC hP hN=>?_;refine Gz ?_;refine WP.loopN [] (l.length-1) (λi st=>st.t 3=.ptr 3 0/\st.h 3=some (.box [.pv (Z n.1),.pv (Z n.2.1),.pv (Z n.2.2)] true false)/\st.t 1=.pv (aw l)/\st.t 2=.pv (Z 1)/\st.t 8=.pv (Z ((i+1:Nat):Int))/\st.t 7=.pv (Z (cG dN n p0 l (i+1)).2)) (by simp[cG,e,dN]) ?_;rintro i st hi ⟨g3,g,g1,g2,B,A⟩;obtain⟨m,V⟩:∃m,m=i+1:=⟨_,rfl⟩
 have E:i+1+1=m+1:=by omega
 rw[<-V]at B A;rw[E];by_cases d:m<l.length
 .have I:i64.wrap ((m:Int)+1)=((m+1:Nat):Int):=(aa (by omega) (by omega)).trans (by omega)
  have a:(m:Int)<(l.length:Int):=by omega
  have j:i<l.length-1:=by omega
  obtain⟨p,hp,F⟩:=u m;have k:=o m;generalize f:l[m]=v at *
  have z:l[m]?=some v:=by rw[an d,f]
  obtain⟨d1,P,Q⟩:=b v (An z);obtain⟨d2,R,S⟩:=b p (An hp);have W:=oB (bet:=dN) (n:=n) (p0:=p0) z;rw[W,F];generalize G:(cG dN n p0 l m).2=q at *
  have r:∀h,l[q]'h=p:=λh=>by rw[an h]at hp;exact ZQ hp
  generalize bg n v=x at *;generalize bg n p=y at *;have w1:i64.wrap x=x:=aa;have w2:i64.wrap y=y:=aa;have J:i64.wrap (-x)=-x:=aa;have K:i64.wrap (-y)=-y:=aa;have L:i64.wrap (-1*x)=-x:=(aa (by omega) (by omega)).trans (by omega);have M:i64.wrap (-1*y)=-y:=(aa (by omega) (by omega)).trans (by omega);have N:i64.wrap (1*x)=x:=(aa (by omega) (by omega)).trans (by omega);have O:i64.wrap (1*y)=y:=(aa (by omega) (by omega)).trans (by omega);by_cases H:x<y
  .have c:dN x y=true:=by simp only[dN,Is];omega
   rw[c];simp only[Zp];exact GS (zAe g3 g g1 g2 B A d a I z f hp r k (zAc j w1 w2 J K L M N O H))
  .have c:dN x y=false:=by simp only[dN,Zj];omega
   rw[c];simp only[Y9,Zk];refine GT (zAe g3 g g1 g2 B A d a I z f hp r k (zAc j w1 w2 J K L M N O H)) ?_
   all_goals rw[G]
 .have D:m=l.length:=by omega
  have a:¬(m:Int)<(l.length:Int):=by omega
  subst D;exact Gy
theorem Rb(n:Vc)(l:List Vc)(hn:ay 16384 n=true)(h1:1<=l.length)(h8:l.length<=8)(U:l.all (ay 268435456)=true):gu 139 (al n) (aw l) (Z (-1)) (Z (bN dO n l).2):=by
 obtain⟨p0,e⟩:∃p0,l[0]?=some p0:=⟨_,an (by omega)⟩
 have T:bN dO n l=cG dO n p0 l l.length:=by simp[bN,e]
 have u:=qi (bet:=dO) (n:=n) e;have o:=vk (bet:=dO) (n:=n) (p0:=p0) (l:=l) (by omega);have s:=xk hn
 have b:∀p∈l,aW prog 140 [.pv (al n),.pv (al p)] [] [] (.pv (Z (bg n p)))/\-13194139533312<=bg n p/\bg n p<=13194139533312:=λp hp=>by
  have hq:=dC (L4.1 U p hp);exact⟨Cr n p 16384 268435456 s hq (by decide),tj s hq⟩
 rw[T];refine Dp func139 λC hP hN=>?_;refine Gz ?_;refine WP.loopN [] (l.length-1) (λi st=>st.t 3=.ptr 3 0/\st.h 3=some (.box [.pv (Z n.1),.pv (Z n.2.1),.pv (Z n.2.2)] true false)/\st.t 1=.pv (aw l)/\st.t 2=.pv (Z (-1))/\st.t 8=.pv (Z ((i+1:Nat):Int))/\st.t 7=.pv (Z (cG dO n p0 l (i+1)).2)) (by simp[cG,e,dO]) ?_;rintro i st hi ⟨g3,g,g1,g2,B,A⟩;obtain⟨m,V⟩:∃m,m=i+1:=⟨_,rfl⟩
 have E:i+1+1=m+1:=by omega
 rw[<-V]at B A;rw[E];by_cases d:m<l.length
 .have I:i64.wrap ((m:Int)+1)=((m+1:Nat):Int):=(aa (by omega) (by omega)).trans (by omega)
  have a:(m:Int)<(l.length:Int):=by omega
  have j:i<l.length-1:=by omega
  obtain⟨p,hp,F⟩:=u m;have k:=o m;generalize f:l[m]=v at *
  have z:l[m]?=some v:=by rw[an d,f]
  obtain⟨d1,P,Q⟩:=b v (An z);obtain⟨d2,R,S⟩:=b p (An hp);have W:=oB (bet:=dO) (n:=n) (p0:=p0) z;rw[W,F];generalize G:(cG dO n p0 l m).2=q at *
  have r:∀h,l[q]'h=p:=λh=>by rw[an h]at hp;exact ZQ hp
  generalize bg n v=x at *;generalize bg n p=y at *;have w1:i64.wrap x=x:=aa;have w2:i64.wrap y=y:=aa;have J:i64.wrap (-x)=-x:=aa;have K:i64.wrap (-y)=-y:=aa;have L:i64.wrap (-1*x)=-x:=(aa (by omega) (by omega)).trans (by omega);have M:i64.wrap (-1*y)=-y:=(aa (by omega) (by omega)).trans (by omega);have N:i64.wrap (1*x)=x:=(aa (by omega) (by omega)).trans (by omega);have O:i64.wrap (1*y)=y:=(aa (by omega) (by omega)).trans (by omega);by_cases H:y<x
  .have c:dO x y=true:=by simp only[dO,Is];omega
   rw[c];simp only[Zp];exact GS (zAe g3 g g1 g2 B A d a I z f hp r k (zAc j w1 w2 J K L M N O H))
  .have c:dO x y=false:=by simp only[dO,Zj];omega
   rw[c];simp only[Y9,Zk];refine GT (zAe g3 g g1 g2 B A d a I z f hp r k (zAc j w1 w2 J K L M N O H)) ?_
   all_goals rw[G]
 .have D:m=l.length:=by omega
  have a:¬(m:Int)<(l.length:Int):=by omega
  subst D;exact Gy
theorem OQ(h:∀w∈ws,0<=w):∀{i j:Nat},i<=j->aQ ws i<=aQ ws j:=λa=>gM h a
theorem Kk{w:Int}:wB w=true↔0<=w/\w<=65536:=by
 simp only[wB,ZK,yAk,Zj];omega
theorem Mc{l:List aq}(hp:au l=true)(a:ws.length=l.length):dt l ws=true↔(∀w∈ws,0<=w/\w<=65536)/\1<=aQ ws ws.length/\aQ ws ws.length<=65536:=by
 simp only[dt,hp,a,yAN,Zu,up,L4,Kk,ZK,yAk,Zj];rw[<-a];constructor
 all_goals rintro⟨h1,b⟩;exact⟨h1,by omega,by omega⟩
set_option maxRecDepth 4000 in
theorem Rc(l:List aq)(ws:List Int)(hl:l.length<=9223372036854775807)(V:ws.length<=9223372036854775807):aF 198 (aE l) (zs ws) (eX l ws):=by
 have W:=xD l hl;have z6:bi ba=V6 0 0 0 0 0 0:=rfl
 have o:dt l ws=false->eX l ws=.tup [V6 0 0 0 0 0 0,Z 0,B false]:=λhf=>by unfold eX;rw[hf];rfl
 cases hp:au l with
 |false=>
  rw[hp]at W;rw[o (by simp[dt,hp])];refine Dp func198 λC hP hN=>?_;exact Gy
 |true=>
 rw[hp]at W;by_cases s:ws.length=l.length
 case neg=>
  have L:((ws.length:Int)!=(l.length:Int))=true:=by simp;omega
  have Y:¬(ws.length:Int)=(l.length:Int):=by omega
  rw[o (by simp[dt,s])];refine Dp func198 λC hP hN=>?_;exact Gy
 have L:((ws.length:Int)!=(l.length:Int))=false:=by simp[s]
 have n:=Mc hp s;have M:=hp;simp only[au,up,Is]at M;obtain⟨⟨ad,ah⟩,R⟩:=M;have H:=L4.1 R;refine Dp func198 λC hP hN=>?_;refine Gz ?_;refine WP.loopN [] ws.length (λi st=>st.t 0=.pv (aE l)/\st.t 1=.pv (zs ws)/\st.t 4=.ptr 4 0/\st.h 4=some (.box (b6 ba) true false)/\st.t 7=.pv (Z (aQ ws i))/\st.t 8=.pv (Z i)/\st.h 9=none/\(∀k w,k<i->ws[k]?=some w->0<=w/\w<=65536)/\0<=aQ ws i/\aQ ws i<=65536) (by simp[aQ,ba]) ?_;rintro i st hi ⟨g0,g1,g4,b,q,X,a,hq,t0,t1⟩;by_cases c:i<ws.length
 .have y:=ab c V
  have f:(i:Int)<(ws.length:Int):=by omega
  generalize j:ws[i]=w at *
  have r:ws[i]?=some w:=by rw[an c,j]
  have hT:aQ ws (i+1)=aQ ws i+w:=by simp only[aQ,r,Zn]
  have wS:i64.wrap (65536-aQ ws i)=65536-aQ ws i:=aa;have d:=n.1;have G:=OQ (ws:=ws);by_cases h9:w<0
  .rw[o (by
    cases J:dt l ws with
    |false=>rfl
    |true=>have:=((n.1 J).1 w (An r));omega)]
   exact Gy
  .by_cases h10:65536-aQ ws i<w
   .rw[o (by
     cases J:dt l ws with
     |false=>rfl
     |true=>
      obtain⟨c1,c2,c3⟩:=n.1 J;have:=G (λw y=>(c1 w y).1) (show i+1<=ws.length by omega)
      omega)]
    exact Gy
   .have wT:i64.wrap (aQ ws i+w)=aQ ws i+w:=aa
    have U:∀k u,k<i+1->ws[k]?=some u->0<=u/\u<=65536:=λk u K N=>by
     by_cases e:k=i
     .subst e;rw[r]at N;injection N with N;subst N;omega
     .exact hq k u (by omega) N
    have t2:0<=aQ ws i+w/\aQ ws i+w<=65536:=by omega
    rw[hT];generalize aQ ws i=T at *;refine GT (zAe g0 g1 g4 b q X a c f r j h9 wS h10 (gA wT y)) ?_
    all_goals exact⟨U,t2⟩
 .have F:i=ws.length:=by omega
  have f:¬(i:Int)<(ws.length:Int):=by omega
  have d:∀w∈ws,0<=w/\w<=65536:=λw y=>by
   obtain⟨k,K⟩:=ZF y;exact hq k w (by have:=(th.1 K).1;omega) K
  subst F;by_cases h1:aQ ws ws.length<1
  .rw[o (by
    cases J:dt l ws with
    |false=>rfl
    |true=>have:=n.1 J;omega)]
   exact Gy
  .have Q:dt l ws=true:=n.2 ⟨d,by omega,by omega⟩
   have hR:eX l ws=.tup [bi (cL l ws ws.length),Z (aQ ws ws.length),B true]:=by unfold eX;rw[Q];rfl
   rw[hR];have O:∀w∈ws,wB w=true:=λw y=>Kk.2 (d w y);have D:=Ac H O;have A:st.h 4=some (.box [.pv (Z 0),.pv (Z 0),.pv (Z 0),.pv (Z 0),.pv (Z 0),.pv (Z 0)] true false):=b;clear b n o hq z6;generalize aQ ws ws.length=T at *;refine Gz ?_;refine WP.loopN [] l.length (λi st=>st.t 0=.pv (aE l)/\st.t 1=.pv (zs ws)/\st.t 4=.ptr 4 0/\st.h 4=some (.box [.pv (Z 0),.pv (Z 0),.pv (Z 0),.pv (Z 0),.pv (Z 0),.pv (Z 0)] true false)/\st.t 7=.pv (Z T)/\st.t 9=.ptr 9 0/\st.h 9=some (.box (b6 (cL l ws i)) true false)/\st.t 10=.pv (Z i)) (by simp[cL,ba,g0,g1,g4,A,q]) ?_;clear g0 g1 g4 A q X a f c hi;rintro i st hi ⟨g0,g1,g4,b,q,E,a,g⟩;by_cases c:i<l.length
   .have y:=ab c (by omega)
    have f:(i:Int)<(l.length:Int):=by omega
    have m:i<ws.length:=by omega
    generalize j:ws[i]=w at *
    have r:ws[i]?=some w:=by rw[an m,j]
    generalize z:l[i]=x at *
    have P:l[i]?=some x:=by rw[an c,z]
    have I:=d w (An r);have v:=H x (An P);rw[fC]at v
    have hS:cL l ws (i+1)=qY w (cL l ws i) x:=by simp only[cL,r,P]
    obtain⟨r1,r2,r3⟩:=D i;have a1:=gY (w:=w) (x:=x.1) I v.1 r1;have a2:=gY (w:=w) (x:=x.2.1) I v.2.1 r2;have a3:=gY (w:=w) (x:=x.2.2) I v.2.2 r3;clear D d O H;generalize cL l ws i=S at *;generalize cL l ws (i+1)=S' at *;subst hS;have d1:(bX w S.1 x.1).1=S.1.1+w*x.1.1:=rfl;have d2:(bX w S.1 x.1).2=S.1.2+w*x.1.2:=rfl;have d3:(bX w S.2.1 x.2.1).1=S.2.1.1+w*x.2.1.1:=rfl;have d4:(bX w S.2.1 x.2.1).2=S.2.1.2+w*x.2.1.2:=rfl;have d5:(bX w S.2.2 x.2.2).1=S.2.2.1+w*x.2.2.1:=rfl;have d6:(bX w S.2.2 x.2.2).2=S.2.2.2+w*x.2.2.2:=rfl;rw[d1,d2]at a1;rw[d3,d4]at a2;rw[d5,d6]at a3;have u1:i64.wrap (w*x.1.1)=w*x.1.1:=aa;have u2:i64.wrap (w*x.1.2)=w*x.1.2:=aa;have u3:i64.wrap (w*x.2.1.1)=w*x.2.1.1:=aa;have u4:i64.wrap (w*x.2.1.2)=w*x.2.1.2:=aa;have u5:i64.wrap (w*x.2.2.1)=w*x.2.2.1:=aa;have u6:i64.wrap (w*x.2.2.2)=w*x.2.2.2:=aa;have v1:i64.wrap (S.1.1+w*x.1.1)=S.1.1+w*x.1.1:=aa;have v2:i64.wrap (S.1.2+w*x.1.2)=S.1.2+w*x.1.2:=aa;have v3:i64.wrap (S.2.1.1+w*x.2.1.1)=S.2.1.1+w*x.2.1.1:=aa;have v4:i64.wrap (S.2.1.2+w*x.2.1.2)=S.2.1.2+w*x.2.1.2:=aa;have v5:i64.wrap (S.2.2.1+w*x.2.2.1)=S.2.2.1+w*x.2.2.1:=aa;have v6:i64.wrap (S.2.2.2+w*x.2.2.2)=S.2.2.2+w*x.2.2.2:=aa;clear a1 a2 a3 r1 r2 r3 d1 d2 d3 d4 d5 d6;refine Gz ?_;refine WP.loopN [] 3 (λk st=>st.t 0=.pv (aE l)/\st.t 1=.pv (zs ws)/\st.t 4=.ptr 4 0/\st.h 4=some (.box [.pv (Z 0),.pv (Z 0),.pv (Z 0),.pv (Z 0),.pv (Z 0),.pv (Z 0)] true false)/\st.t 7=.pv (Z T)/\st.t 9=.ptr 9 0/\st.h 9=some (.box (kz S x w k) true false)/\st.t 10=.pv (Z i)/\st.t 11=.pv (Z k)) (by simp[g0,g1,g4,b,q,E,a,g,kz]) ?_;clear g0 g1 g4 b q E a g;rintro k st K ⟨g0,g1,g4,b,q,E,a,g,p⟩;rcases dA K with rfl|rfl|rfl|rfl
    all_goals (simp[kz,bX]at a p)
    .skip
     with_reducible repeat' (first|refine Sp.h ?_|((first|refine Wd ?_|refine Ss.h ?_|(refine Sb.h ?_ ?_ ?_<;>(try intro hgd)<;>try exact Xy))<;>simp -implicitDefEqProofs (maxSteps:=2000000) [hP,hN,g0,g1,g4,b,q,E,a,g,p,r,j,P,z,c,m,u1,u2,v1,v2,kz,bX]<;>try refine Ya ?_)|refine X2 ?_ ?_|(refine Xd ?_ ?_<;>intro hcd<;>try exact Xx))
    .skip
     with_reducible repeat' (first|refine Sp.h ?_|((first|refine Wd ?_|refine Ss.h ?_|(refine Sb.h ?_ ?_ ?_<;>(try intro hgd)<;>try exact Xy))<;>simp -implicitDefEqProofs (maxSteps:=2000000) [hP,hN,g0,g1,g4,b,q,E,a,g,p,r,j,P,z,c,m,u3,u4,v3,v4,kz,bX]<;>try refine Ya ?_)|refine X2 ?_ ?_|(refine Xd ?_ ?_<;>intro hcd<;>try exact Xx))
    .skip
     with_reducible repeat' (first|refine Sp.h ?_|((first|refine Wd ?_|refine Ss.h ?_|(refine Sb.h ?_ ?_ ?_<;>(try intro hgd)<;>try exact Xy))<;>simp -implicitDefEqProofs (maxSteps:=2000000) [hP,hN,g0,g1,g4,b,q,E,a,g,p,r,j,P,z,c,m,u5,u6,v5,v6,kz,bX]<;>try refine Ya ?_)|refine X2 ?_ ?_|(refine Xd ?_ ?_<;>intro hcd<;>try exact Xx))
    .skip
     with_reducible repeat' (first|refine Sp.h ?_|((first|refine Wd ?_|refine Ss.h ?_|(refine Sb.h ?_ ?_ ?_<;>(try intro hgd)<;>try exact Xy))<;>simp -implicitDefEqProofs (maxSteps:=2000000) [hP,hN,g0,g1,g4,b,q,E,a,g,p,c,y,qY,bX]<;>try refine Ya ?_)|refine X2 ?_ ?_|(refine Xd ?_ ?_<;>intro hcd<;>try exact Xx))
   .have F:i=l.length:=by omega
    have f:¬(i:Int)<(l.length:Int):=by omega
    subst F;rw[<-s]at a;exact Gy
theorem Cs(x:Int)(h1:-4611686018427387904<=x)(d:x<=4611686018427387904):aR 199 (Z x) (Z (max x (-x))):=by
 have w1:i64.wrap (-x)=-x:=aa;have w2:i64.wrap (0-x)=-x:=(aa (n:=0-x) (by omega) (by omega)).trans (by omega)
 have c:∀a b:Int,(if a<b then b else a)=max a b:=λa b=>by omega
 refine Dp func199 λC hP hN=>?_;exact Gy
theorem Md(x y z r:Int):pc [x,y,z] r=if x<=r/\y<=r/\z<=r then r*r-x*x-y*y-z*z else -1:=by
 unfold pc
 have:[x,y,z].all (λx=>decide (x<=r))=decide (x<=r/\y<=r/\z<=r):=by simp[Bool.and_assoc]
 rw[this];simp[iG]
theorem Me{u v:Iv}{T:Int}(a:1<=T/\T<=65536)(h1:-281474976710656<=u.1-v.2/\u.1-v.2<=281474976710656)(b:-281474976710656<=u.2-v.1/\u.2-v.1<=281474976710656):
 aW prog 84 [.pv (Z (max (u.1-v.2) (max (-(u.1-v.2)) (max (u.2-v.1) (-(u.2-v.1)))))),.pv (Z T)] [] [] (.pv (Z (bU u v T)))/\0<=bU u v T:=by
 have hf:max (u.1-v.2) (max (-(u.1-v.2)) (max (u.2-v.1) (-(u.2-v.1))))=lY (u.1-v.2) (u.2-v.1):=by unfold lY;omega
 have c:=vj h1 b;have:=FK (lY (u.1-v.2) (u.2-v.1)) T (by omega);rw[sD (by omega) (by omega) (by omega),HC (by omega)]at this;rw[hf];exact⟨this,(yA c.1 (by omega) a.1 a.2).1⟩
set_option maxRecDepth 4000 in
theorem Wb(left right:List Int)(a:List aq)(i:Int)(b:List aq)(j:Int)(h1:left.length<=9223372036854775807)(h2:right.length<=9223372036854775807)(h3:a.length<=9223372036854775807)(h4:b.length<=9223372036854775807):NV 145 (zs left) (zs right) (aE a) (Z i) (aE b) (Z j) (.tup [Z (kW left right a i b j),B (ow left right a i b j)]):=by
 have ca:=Rc a left h3 h1;have Y:=Rc b right h4 h2;have H:=Cu i;have M:=Cu j;have W:bi ba=V6 0 0 0 0 0 0:=rfl;have e:ow left right a i b j=(dt a left&&dt b right&&decide (aQ left left.length=aQ right right.length)&&aT i 0 1048576&&aT j 0 1048576):=rfl
 have hX:kW left right a i b j=if ow left right a i b j then pc (dL (cL a left left.length) (cL b right right.length) (aQ left left.length)) (i+j)else 0:=rfl
 rw[hX]
 cases I:dt a left with
 |false=>
  rw[I]at e;simp only[ZI]at e;rw[e];simp only[Y9,Zk];simp only[eX,I,Y9,Zk,W]at ca;cases G:dt b right
  all_goals (simp only[eX,G,Y9,Zk,Zp,W]at Y)
  .skip
   refine Dp func145 λC hP hN=>?_;exact Gy
  .skip
   generalize cL b right right.length=V at *;generalize aQ right right.length=X at *;refine Dp func145 λC hP hN=>?_;exact Gy
 |true=>
 simp only[eX,I,Zp]at ca
 cases G:dt b right with
 |false=>
  rw[G]at e;simp only[ZI,yAr]at e;rw[e];simp only[Y9,Zk];simp only[eX,G,Y9,Zk,W]at Y;generalize cL a left left.length=U at *;generalize aQ left left.length=T at *;refine Dp func145 λC hP hN=>?_;exact Gy
 |true=>
 simp only[eX,G,Zp]at Y;have D:=vi I;have E:=vi G;have J:=Fl I;rw[I,G]at e;simp only[Zu]at e;clear hX I G W;generalize cL a left left.length=U at *;generalize cL b right right.length=V at *;generalize aQ left left.length=T at *;generalize aQ right right.length=X at *;by_cases hT:T=X
 case neg=>
  have a7:(T !=X)=true:=by simp[hT]
  rw[Z9 hT]at e;simp only[ZI]at e;rw[e];simp only[Y9,Zk];clear D E;refine Dp func145 λC hP hN=>?_;exact Gy
 subst hT;simp only[yAN,Zu]at e
 cases o:aT i 0 1048576 with
 |false=>
  rw[o]at e H;simp only[ZI]at e;rw[e];simp only[Y9,Zk];clear D E;refine Dp func145 λC hP hN=>?_;exact Gy
 |true=>
 cases F:aT j 0 1048576 with
 |false=>
  rw[F]at e M;rw[o]at H;simp only[yAr]at e;rw[e];simp only[Y9,Zk];clear D E;refine Dp func145 λC hP hN=>?_;exact Gy
 |true=>
 rw[o,F]at e;rw[o]at H;rw[F]at M;simp only[yAo]at e;rw[e];simp only[Zp];simp only[aT,up,Is]at o F;obtain⟨c,N⟩:∃c,c=i+j:=⟨_,rfl⟩;have p:i64.wrap (i+j)=c:=(aa (by omega) (by omega)).trans N.symm;rw[<-N];have a8:=mo (x:=c) (m:=2097152) (by omega) (by omega);have a6:i64.wrap (c*c)=c*c:=aa;obtain⟨⟨⟨a1,a2⟩,a3,a4⟩,⟨⟨b1,b2⟩,b3,b4⟩,⟨c1,c2⟩,c3,c4⟩:=D;obtain⟨⟨⟨d1,d2⟩,d3,d4⟩,⟨⟨e1,e2⟩,e3,e4⟩,⟨f1,f2⟩,f3,f4⟩:=E;have k0:=Me (u:=U.1) (v:=V.1) J (by omega) (by omega);have k1:=Me (u:=U.2.1) (v:=V.2.1) J (by omega) (by omega);have k2:=Me (u:=U.2.2) (v:=V.2.2) J (by omega) (by omega)
 have S:∀a b:Int,(if a<b then b else a)=max a b:=λa b=>by omega
 have Q:i64.wrap (U.1.1-V.1.2)=U.1.1-V.1.2:=aa;have R:i64.wrap (U.1.2-V.1.1)=U.1.2-V.1.1:=aa;have ah:i64.wrap (U.2.1.1-V.2.1.2)=U.2.1.1-V.2.1.2:=aa;have aj:i64.wrap (U.2.1.2-V.2.1.1)=U.2.1.2-V.2.1.1:=aa;have ak:i64.wrap (U.2.2.1-V.2.2.2)=U.2.2.1-V.2.2.2:=aa;have ar:i64.wrap (U.2.2.2-V.2.2.1)=U.2.2.2-V.2.2.1:=aa;have b5:=Cs (U.1.1-V.1.2) (by omega) (by omega);have b7:=Cs (U.1.2-V.1.1) (by omega) (by omega);have b8:=Cs (U.2.1.1-V.2.1.2) (by omega) (by omega);have b9:=Cs (U.2.1.2-V.2.1.1) (by omega) (by omega);have cc:=Cs (U.2.2.1-V.2.2.2) (by omega) (by omega);have cd:=Cs (U.2.2.2-V.2.2.1) (by omega) (by omega);clear a1 a2 a3 a4 b1 b2 b3 b4 c1 c2 c3 c4 d1 d2 d3 d4 e1 e2 e3 e4 f1 f2 f3 f4;have hg:dL U V T=[bU U.1 V.1 T,bU U.2.1 V.2.1 T,bU U.2.2 V.2.2 T]:=rfl;rw[hg,Md];generalize bU U.1 V.1 T=x at *;generalize bU U.2.1 V.2.1 T=y at *;generalize bU U.2.2 V.2.2 T=z at *;obtain⟨k0,x0⟩:=k0;obtain⟨k1,y0⟩:=k1;obtain⟨k2,z0⟩:=k2
 have qx:x<=c->0<=x*x/\x*x<=4398046511104:=λh=>by have:=mo (x:=x) (m:=2097152) x0 (by omega);omega
 have qy:y<=c->0<=y*y/\y*y<=4398046511104:=λh=>by have:=mo (x:=y) (m:=2097152) y0 (by omega);omega
 have qz:z<=c->0<=z*z/\z*z<=4398046511104:=λh=>by have:=mo (x:=z) (m:=2097152) z0 (by omega);omega
 refine Dp func145 λC hP hN=>?_;refine GT (gA p a6) ?_;refine WP.loopN [] 3 (λk st=>st.t 3=.pv (Z i)/\st.t 5=.pv (Z j)/\st.t 14=.ptr 14 0/\st.h 14=some (.box [.pv (Z U.1.1),.pv (Z U.1.2),.pv (Z U.2.1.1),.pv (Z U.2.1.2),.pv (Z U.2.2.1),.pv (Z U.2.2.2)] true false)/\st.t 17=.ptr 17 0/\st.h 17=some (.box [.pv (Z V.1.1),.pv (Z V.1.2),.pv (Z V.2.1.1),.pv (Z V.2.1.2),.pv (Z V.2.2.1),.pv (Z V.2.2.2)] true false)/\st.t 15=.pv (Z T)/\st.t 21=.pv (Z k)/\st.t 20=.pv (Z (if k=0 then c*c else if k=1 then c*c-x*x else if k=2 then c*c-x*x-y*y else c*c-x*x-y*y-z*z))/\(0<k->x<=c)/\(1<k->y<=c)/\(2<k->z<=c)) (by simp) ?_;rintro k st hk ⟨g3,g5,r,f,A,g,s,n,l,p0,p1,p2⟩;rcases dA hk with rfl|rfl|rfl|rfl
 all_goals (simp at l n)
 .by_cases L:c<x
  .have d:(if x<=c/\y<=c/\z<=c then c*c-x*x-y*y-z*z else -1)=-1:=Y6 (by omega)
   rw[d];exact GS (zAd g3 g5 r f A g s l n S Q (be R p L))
  .have q:=qx (by omega)
   have O:i64.wrap (x*x)=x*x:=aa;have P:i64.wrap (c*c-x*x)=c*c-x*x:=aa;refine GT (zAe g3 g5 r f A g s l n S Q R p L (gA O P)) ?_
   all_goals omega
 .have K:=p0 (by omega)
  have q':=qx K;by_cases L:c<y
  .have d:(if x<=c/\y<=c/\z<=c then c*c-x*x-y*y-z*z else -1)=-1:=Y6 (by omega)
   rw[d];exact Gy
  .have q:=qy (by omega)
   have O:i64.wrap (y*y)=y*y:=aa;have P:i64.wrap (c*c-x*x-y*y)=c*c-x*x-y*y:=aa;refine GT (zAe g3 g5 r f A g s l n S ah aj p L (gA O P)) ?_
   all_goals omega
 .have K:=p0 (by omega)
  have ad:=p1 (by omega);have q':=qx K;have bq:=qy ad;by_cases L:c<z
  .have d:(if x<=c/\y<=c/\z<=c then c*c-x*x-y*y-z*z else -1)=-1:=Y6 (by omega)
   rw[d];exact Gy
  .have q:=qz (by omega)
   have O:i64.wrap (z*z)=z*z:=aa;have P:i64.wrap (c*c-x*x-y*y-z*z)=c*c-x*x-y*y-z*z:=aa;refine GT (zAe g3 g5 r f A g s l n S ak ar p L (gA O P)) ?_
   all_goals omega
 .have d:(if x<=c/\y<=c/\z<=c then c*c-x*x-y*y-z*z else -1)=c*c-x*x-y*y-z*z:=Zd ⟨p0 (by omega),p1 (by omega),p2 (by omega)⟩
  rw[d];exact Gy
theorem XM(left right:List Int)(a:List aq)(c:Int)(b:List aq)(d:Int)(h1:left.length<=9223372036854775807)(g:right.length<=9223372036854775807)(i:a.length<=9223372036854775807)(j:b.length<=9223372036854775807):NV 89 (zs left) (zs right) (aE a) (Z c) (aE b) (Z d) (B (ow left right a c b d&&decide (0<=kW left right a c b d))):=by
 have f:=Wb left right a c b d h1 g i j;generalize kW left right a c b d=e at *;cases k:ow left right a c b d<;>rw[k]at f
 all_goals
  refine Dp func89 λC hP hN=>?_;exact Gy
end Go.Ab
