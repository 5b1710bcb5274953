/- The contracts and facts that the laws of this seat need, in one text (Rd, Ab26, Ab29, Ab35, Ab36). -/
import Derived.Test.YtidomjacfogjlaaGreatU4
import Derived.Test.YtidomjacfogjlaaGreatRows
set_option linter.all false
set_option maxRecDepth 10000
namespace Go.Ab
open IntKind (i64)
open Go.Proofs.Tryz
open Go.Proofs Go.Proofs.YtidomjacfogjlaaGreat
theorem own:ownKnob prog.godebug=none:=by kernel_rfl
theorem kids:Kids prog (·< prog.types.size):=kids_rows (by kernel_rfl) (by kernel_rfl)
theorem full:∀t e,t<prog.types.size->prog.underlying t=some (.slice e)->0<prog.cellsOf e:=slices_full_of prog (by kernel_rfl)
mutual
theorem Lc{H:Type}:∀d:DataW H,fB d<=Rows.uptoBulk d
 |.lit (.string _)=>by simp[fB,Rows.uptoBulk]
 |.lit (.bool _)=>by simp[fB,Rows.uptoBulk]
 |.lit (.int _ _)=>by simp[fB,Rows.uptoBulk]
 |.lit (.float _ _)=>by simp[fB,Rows.uptoBulk]
 |.lit .nil=>by simp[fB,Rows.uptoBulk]
 |.nil=>by simp[fB,Rows.uptoBulk]
 |.ptr _=>by simp[fB,Rows.uptoBulk]
 |.slice b sp=>by have:=rz b;have:=rz sp;simp only[fB,Rows.uptoBulk];omega
 |.agg a=>by have:=rz a;simp only[fB,Rows.uptoBulk];omega
 |.iface _ _=>by simp[fB,Rows.uptoBulk]
 |.map _=>by simp[fB,Rows.uptoBulk]
 |.held _=>by simp[fB,Rows.uptoBulk]
theorem rz{H:Type}:∀a:List (DataW H),iP a<=Rows.uptoBulkAll a
 |[]=>by simp[iP,Rows.uptoBulkAll]
 |d::a=>by have:=Lc d;have:=rz a;simp only[iP,Rows.uptoBulkAll];omega
end
theorem AH{H:Type}(l r:List (DataW H)):Rows.uptoBulkAll (l++r)=Rows.uptoBulkAll l+Rows.uptoBulkAll r:=by
 induction l with
 |nil=>simp[Rows.uptoBulkAll]
 |cons x l ih=>simp only[List.cons_append,Rows.uptoBulkAll,ih];omega
theorem zK{H:Type}{ds a:List (DataW H)}(b:Rows.uptoSmall H (ds++a)=true):iP ds<=1048576:=by
 have h:Rows.uptoBulkAll (ds++a)<=1048576:=of_decide_eq_true b;rw[AH]at h;have:=rz ds;omega
section
variable {H:Type}
theorem ta:iQ H prog 3 (λi=>.val (.int .i64 i)) (λi=>i64.min<=i/\i<=i64.max) (λ_=>1):=A5 Tryz.underlying3
theorem wO:iQ H prog 34 (λl:List Int=>.sl (l.map λi=>.val (.int .i64 i))) (λl=>l.length<=9223372036854775807/\∀a∈l,i64.min<=a/\a<=i64.max) (λl=>(l.map λ_=>1).sum+1):=ge Tryz.underlying34 ta
theorem Jm:iQ H prog 2 (λi=>.val (.int .i64 i)) (λi=>i64.min<=i/\i<=i64.max) (λ_=>1):=A5 Tryz.underlying2
theorem Bn:iQ H prog 49 (λl:List Int=>.sl (l.map λi=>.val (.int .i64 i))) (λl=>l.length<=9223372036854775807/\∀a∈l,i64.min<=a/\a<=i64.max) (λl=>(l.map λ_=>1).sum+1):=ge Tryz.underlying49 Jm
theorem Oj:iQ H prog 99 aC (λx=>(i64.min<=x.1/\x.1<=i64.max)/\i64.min<=x.2/\x.2<=i64.max) (λ_=>1):=by
 intro d h;obtain⟨i,rfl,e,c⟩:=gm Tryz.underlying99 h;obtain⟨a,b,rfl⟩:=FC e;obtain⟨x,rfl,f⟩:=dW (H:=H) Tryz.underlying2 (c 0 _ _ rfl rfl);obtain⟨y,rfl,g⟩:=dW (H:=H) Tryz.underlying2 (c 1 _ _ rfl rfl);exact⟨(x,y),by simp[eS,n9,fo,fF,dD],⟨f,g⟩,by simp[fB]⟩
theorem Ns:iQ H prog 30 (λl:List (Int×Int)=>.sl (l.map aC)) (λl=>l.length<=9223372036854775807/\∀x∈l,(i64.min<=x.1/\x.1<=i64.max)/\i64.min<=x.2/\x.2<=i64.max) (λl=>(l.map λ_=>1).sum+1):=ge Tryz.underlying30 Oj
theorem Jn:iQ H prog 97 bu (λ_=>True) (λ_=>1):=by
 intro d h;obtain⟨z,rfl,b,a⟩:=gm Tryz.underlying97 h;obtain⟨a0,q,r,a3,a4,s,u,v,x,y,rfl⟩:=N1 b;obtain⟨g,rfl⟩:=FB (H:=H) Tryz.underlying9 (a 0 _ _ rfl rfl);obtain⟨i,rfl,_⟩:=dW (H:=H) Tryz.underlying3 (a 1 _ _ rfl rfl);obtain⟨j,rfl,_⟩:=dW (H:=H) Tryz.underlying3 (a 2 _ _ rfl rfl);obtain⟨c,e,f,rfl⟩:=wC (H:=H) Tryz.underlying84 Tryz.underlying2 (d:=a3) (a 3 _ _ rfl rfl);obtain⟨k,rfl,_⟩:=dW (H:=H) Tryz.underlying2 (a 4 _ _ rfl rfl);obtain⟨l,rfl,_⟩:=dW (H:=H) Tryz.underlying2 (a 5 _ _ rfl rfl);obtain⟨m,rfl,_⟩:=dW (H:=H) Tryz.underlying2 (a 6 _ _ rfl rfl);obtain⟨n,rfl,_⟩:=dW (H:=H) Tryz.underlying2 (a 7 _ _ rfl rfl);obtain⟨o,rfl,_⟩:=dW (H:=H) Tryz.underlying2 (a 8 _ _ rfl rfl);obtain⟨p,rfl,_⟩:=dW (H:=H) Tryz.underlying2 (a 9 _ _ rfl rfl);exact⟨⟨⟨g.toArray⟩,i,j,c,e,f,k,l,m,n,o,p⟩,by simp[eS,n9,fo,fF,dD],trivial,by simp[fB]⟩
theorem Ld:iQ H prog 163 cG (λ_=>True) (λ_=>1):=by
 intro d h;obtain⟨l,rfl,c,a⟩:=gm Tryz.underlying163 h;obtain⟨a0,k,b,rfl⟩:=Ai c;obtain⟨i,rfl,_⟩:=dW (H:=H) Tryz.underlying3 (a 0 _ _ rfl rfl);obtain⟨j,rfl,_⟩:=dW (H:=H) Tryz.underlying2 (a 1 _ _ rfl rfl);obtain⟨e,f,g,rfl⟩:=wC (H:=H) Tryz.underlying84 Tryz.underlying2 (d:=b) (a 2 _ _ rfl rfl);exact⟨⟨i,j,e,f,g⟩,by simp[eS,n9,fo,fF,dD],trivial,by simp[fB]⟩
end
end Go.Ab
namespace Go.Ab
open IntKind (i64)
open Go.Proofs.Tryz
variable {C:Cx}{G G':List (Nat×Blk)}{M M':Nat->Nat->Prop}{P:Program}{Post:AV->Hp->Prop}{Q:Exit->St->Prop}{args:List AV}{ats:Array TypeId}{b b' blk:Blk}{c:Code}{d id k k' q:Nat}{f:Operand}{h h0:Hp}{hn ks:List Nat}{l:Loc}{o:Oper}{ops:Array Oper}{post pre:List Oper}{res:PV}{rs:List ResultVar}{st:St}{u:Value}{x:AV}{xs:List Operand}
theorem iG{C:Cx}{hn:List Nat}{ops:Array Oper}{Q:St->Prop}{Q':Exit->Act->World->Prop}{rest:List Oper}(j:∀st a w,gk C st a w->Q st->wpList C.P ops Q' rest a w):
 ∀{l:List Oper}{st:St}{a:Act}{w:World},gk C st a w->dK C.P hn C.N ops Q l st->wpList C.P ops Q' (l++rest) a w
 |[],st,a,w,r,e=>j st a w r e
 |o::l,st,a,w,r,e=>by
  obtain⟨L,k,hN,f,i⟩:=r;rw[dK.eq_2]at e;obtain⟨hd,e⟩:=e;rw[List.cons_append];refine wpList_step (λK n=>?_);split at e
  .rename_i p
   rw[ey i (oO p),T8 rfl];exact wo k hN f i hd e (λm u w' q c=>n _ _ (iG j c q))
  .rename_i d b s p
   rw[ey i (mf p)];unfold wW at e;simp only at e;split at e
   .rename_i g
    subst g;rw[T8 (by simp)];exact wo k hN f i hd e (λm u w' q c=>n _ _ (iG j c q))
   .rename_i g
    rw[TQ (by simpa using g)];exact n _ _ (iG j (gk.put k hN f i hd (W:=[]) (aI.refl k) (.pv (.val _))) e)
  .exact e.elim
theorem pV{w a:World}{L:Nat->Loc}(hp:Pres w M a M')(b:RepA w M L h x u):
 RepA a M' L (λk=>if ks.contains k=true then none else(h k).map (bw ks)) (au ks x) u:=
 (AU b).mono hp Ek
def rekey(h:Hp)(ks:List Nat)(k:Nat)(blk:Blk):Hp:=λq=>if q=k then some blk else if ks.contains q=true then none else(h q).map (bw ks)
def St.rekey(st:St)(ks:List Nat)(k:Nat)(blk:Blk):St:=⟨λn=>au ks (st.t n),Go.Ab.rekey st.h ks k blk⟩
theorem rE(hq:rekey h ks k blk q=some b):(q=k/\b=blk)\/(q≠k/\q∉ks/\∃a,h q=some a/\b=bw ks a):=by
 unfold rekey at hq;split at hq
 .rename_i e;injection hq with hq;exact .inl ⟨e,hq.symm⟩
 .rename_i e
  split at hq
  .cases hq
  .rename_i f
   simp only[No]at hq;obtain⟨a,c,d⟩:=hq;exact .inr ⟨e,by simpa using f,a,c,d.symm⟩
theorem tf(b:Blk)(l:Loc):(bw ks b).live l=b.live l:=by cases b<;>rfl
theorem AL(b:Blk)(o:Nat):(bw ks b).frz o=b.frz o:=by cases b<;>rfl
theorem AM(h:eY C k l b):eY C k l (bw ks b):=by
 cases b with
 |box a own c=>cases own<;>exact h
 |row=>exact h
 |mp=>exact h
section
variable {C:Cx} {L:Nat->Loc} {h:Hp} {w:World}
theorem MemL.retake(l:MemL C L h w){e sz m:Nat}{xs:List PV}(A:h k=some (.row e sz xs 0)):
 MemL C L (rekey h [k] k (.row e sz (xs.take m) 0)) w/\∀x u,RepA w (ab C L h) L h x u->RepA w (ab C L (rekey h [k] k (.row e sz (xs.take m) 0))) L (rekey h [k] k (.row e sz (xs.take m) 0)) (au [k] x) u:=by
 have hM:∀b o,ab C L (rekey h [k] k (.row e sz (xs.take m) 0)) b o->ab C L h b o:=by
  rintro b o (h0|⟨q,blk,hq,d,P,hf⟩)
  .exact .inl h0
  .rcases rE hq with⟨rfl,rfl⟩|⟨_,_,a,g,rfl⟩
   .exact .inr ⟨q,_,A,d,P,hf⟩
   .rw[tf]at d;rw[AL]at hf
    exact .inr ⟨q,a,g,d,P,hf⟩
 have hp:=Pres.sub (w:=w) hM
 have F:KC L (λq=>if[k].contains q=true then none else(h q).map (bw [k])) L (rekey h [k] k (.row e sz (xs.take m) 0)):=by
  intro q blk hq;simp only at hq;split at hq
  .cases hq
  .rename_i Q
   have r:q≠k:=by simpa using Q
   refine⟨blk,?_,cX _ _⟩;simp only[rekey,TQ r,TQ Q];exact hq
 have f:∀x u,RepA w (ab C L h) L h x u->RepA w (ab C L (rekey h [k] k (.row e sz (xs.take m) 0))) L (rekey h [k] k (.row e sz (xs.take m) 0)) (au [k] x) u:=
  λx u c=>(pV (ks:=[k]) hp c).mono (Pres.refl _ _) F
 refine⟨⟨l.ext,l.m0,?_,?_,?_⟩,f⟩
 .intro q blk hq
  rcases rE hq with⟨rfl,rfl⟩|⟨_,_,a,g,rfl⟩
  .obtain⟨g1,g2,g3,g4,g5⟩:=l.bl q _ A
   refine⟨g1,UR _,λx c=>g3 x (VS c),λhn=>by rw[g4 hn];simp,λhn=>?_⟩;obtain⟨J,B,arr,a3,a4,D⟩:=g5 hn;refine⟨by rw[UL];omega,B,arr,a3,a4,λi x j p c E=>?_⟩;rw[Uu]at c;split at c
   .obtain⟨u,z,I⟩:=D i x j p c E
    exact⟨u,z,I.mono hp⟩
   .cases c
  .have:=l.bl q a g
   cases a with
   |box cs own O=>
    obtain⟨arr,ty,Y,N⟩:=this;refine⟨arr,ty,Y,by simpa using N.1,λi p u v z=>?_⟩;simp only[TR,No]at v;obtain⟨y,hy,rfl⟩:=v;exact f _ _ (N.2 i y u hy z)
   |row e' ad ys O=>
    obtain⟨J,B,a3,a4,D⟩:=this;refine⟨J,B,a3,a4,λhn=>?_⟩;obtain⟨K,M,arr,R,S,T⟩:=D hn;exact⟨K,M,arr,R,S,λi x j p c E=>by obtain⟨u,z,I⟩:=T i x j p c E;exact⟨u,z,I.mono hp⟩⟩
   |mp kd n es O=>exact this
 .intro q q' K M r hq H d G
  have s:∀{q b},rekey h [k] k (.row e sz (xs.take m) 0) q=some b->b.live (L q)->∃a,h q=some a/\a.live (L q):=by
   intro q b hq d;rcases rE hq with⟨rfl,rfl⟩|⟨_,_,a,g,rfl⟩
   .exact⟨_,A,d⟩
   .rw[tf]at d;exact⟨a,g,d⟩
  obtain⟨U,W,Z⟩:=s hq d;obtain⟨V,X,f2⟩:=s H G;exact l.sep q q' U V r W X Z f2
 .intro q blk hq
  rcases rE hq with⟨rfl,rfl⟩|⟨_,_,a,g,rfl⟩
  .have h9:=l.own q _ A;exact h9
  .exact AM (l.own q a g)
end
section
variable {C:Cx} {Q:Exit->St->Prop} {st:St}
theorem kG{a:Act}(b:o.guard=none):Region.wanted o (yielded ops a.tmps)=true:=by
 unfold Region.wanted;rw[b]
end
attribute [simp] St.rekey rekey
def lD(ren:Nat->Nat):AV->AV
 |.ptr k a=>.ptr (ren k) a
 |.arr k n=>.arr (ren k) n
 |x=>x
def zR(ren:Nat->Nat):AV->AV
 |.agg a=>.agg (a.map (lD ren))
 |x=>lD ren x
def mK(K:List Nat):AV->Bool
 |.pv _=>true
 |.ptr k _=>K.contains k
 |.arr k _=>K.contains k
 |_=>false
def Ec(K:List Nat):AV->Bool
 |.agg a=>a.all (mK K)
 |x=>mK K x
def bN:List (Nat×Blk)->Hp
 |[]=>λ_=>none
 |(k,b)::r=>λq=>if q=k then some b else bN r q
def iH(ren:Nat->Nat)(own:Bool):Blk->Blk
 |.box a _ _=>.box (a.map (lD ren)) own false
 |b=>b
def jU(K:List Nat)(k:Nat):Blk->Bool
 |.box b own a=>b.all (mK K)&& !own&& !a&&decide (1000000<=k)&&decide (k<2000000)
 |.row _ _ _ a=>decide (a=0)&&decide (2000000<=k)
 |.mp _ _ _ _=>false
def tg:Blk->Blk->Bool
 |.box _ _ _,.box _ _ _=>true
 |.row e d xs _,.row c a b _=>e==c&&d==a&&xs.length==b.length
 |_,_=>false
theorem fk(h:bN G k=some b):(k,b)∈G:=by
 induction G with
 |nil=>cases h
 |cons x r ih=>
  grind [bN,List.mem_cons_self,List.mem_cons_of_mem]
theorem kZ(hn:(G.map (·.1)).Nodup)(h:(k,b)∈G):bN G k=some b:=by
 induction G with
 |nil=>cases h
 |cons x r ih=>
  grind [bN,List.nodup_cons]
section
variable {w:World} {M M':Nat->Nat->Prop} {L L':Nat->Loc} {h h':Hp} {ren:Nat->Nat} {K:List Nat}
theorem rF(m:∀b o,M' b o->M b o)(j:∀k∈K,∀blk,h (ren k)=some blk->∃a,h' k=some a/\dZ blk (L (ren k)) a (L' k))(g:mK K x=true)(i:RepA w M L h (lD ren x) u):RepA w M' L' h' x u:=by
 cases x with
 |pv p=>cases i with
  |pv q=>exact .pv (q.mono (Pres.sub m))
 |ptr k r=>
  cases i with
  |ptr f=>
   obtain⟨a,d,c⟩:=j k (by simpa[mK]using g) _ f
   cases a with
   |row=>exact c.elim
   |mp=>exact c.elim
   |box v own l=>
    have c:(L' k).b=(L (ren k)).b:=c;rw[<-c];exact .ptr d
 |arr k n=>
  cases i with
  |arr f hn y=>
   obtain⟨a,d,c⟩:=j k (by simpa[mK]using g) _ f
   cases a with
   |box=>exact c.elim
   |mp=>exact c.elim
   |row e z xs l=>
    obtain⟨_,_,s,a3⟩:=c;refine .arr d (by omega) (λe=>?_)
    grind
 |_=>cases g
theorem HP(c:∀b o,M' b o->M b o)(d:∀k∈K,∀blk,h (ren k)=some blk->∃a,h' k=some a/\dZ blk (L (ren k)) a (L' k))(e:Ec K x=true)(f:RepA w M L h (zR ren x) u):RepA w M' L' h' x u:=by
 cases x with
 |agg g=>
  cases f with
  |agg _ vs l j=>
   refine .agg g vs (by simpa using l) (λi p u hp m=>?_);exact rF c d (TP.1 e p (Is hp)) (j i _ u (by simp[hp]) m)
 |_=>exact rF c d e f
theorem E7(m:∀b o,M' b o->M b o)(j:∀k∈K,∀blk,h' k=some blk->∃a,h (ren k)=some a/\dZ blk (L' k) a (L (ren k)))(g:mK K x=true)(i:RepA w M L' h' x u):RepA w M' L h (lD ren x) u:=by
 cases x with
 |pv p=>cases i with
  |pv q=>exact .pv (q.mono (Pres.sub m))
 |ptr k r=>
  cases i with
  |ptr f=>
   obtain⟨a,d,c⟩:=j k (by simpa[mK]using g) _ f
   cases a with
   |row=>exact c.elim
   |mp=>exact c.elim
   |box v own l=>
    have c:(L (ren k)).b=(L' k).b:=c;rw[<-c];exact .ptr d
 |arr k n=>
  cases i with
  |arr f hn y=>
   obtain⟨a,d,c⟩:=j k (by simpa[mK]using g) _ f
   cases a with
   |box=>exact c.elim
   |mp=>exact c.elim
   |row e z xs l=>
    obtain⟨_,_,s,a3⟩:=c;refine .arr d (by omega) (λe=>?_)
    grind
 |_=>cases g
end
def BH(G:List (Nat×Blk))(L:Nat->Loc)(b:Nat):Prop:=∃k blk,bN G k=some blk/\blk.live (L k)/\b=(L k).b
structure OkG(G G':List (Nat×Blk)):Prop where
 keys:G'.map (·.1)=G.map (·.1)
 nodup:(G.map (·.1)).Nodup
 okin:∀k b,(k,b)∈G->jU (G.map (·.1)) k b=true
 okout:∀k b,(k,b)∈G'->jU (G.map (·.1)) k b=true
 same:∀k b b',bN G k=some b->bN G' k=some b'->tg b b'=true
def E8(P:Program)(f:FuncId)(args:List AV)(G c:List (Nat×Blk))(res:PV):Prop:=
 da P f=true/\OkG G c/\∀(w:World)(M:Nat->Nat->Prop)(L:Nat->Loc)(vs:List Value),(∀b o,M b o->b<w.heap.size)->
  (∀k blk,bN G k=some blk->blk.live (L k)->∀o,M (L k).b o)->
  (∀k k' blk a,k≠k'->bN G k=some blk->bN G k'=some a->blk.live (L k)->a.live (L k')->(L k).b≠(L k').b)->
  (∀k blk,bN G k=some blk->dJ w M L (bN G) (L k) blk)->aA w M L (bN G) args vs->
  Calls P f vs.toArray w λe w'=>∃v,e=.returned v/\Ext (BH G L) w w'/\(∀k blk,bN c k=some blk->dJ w' M L (bN c) (L k) blk)/\Rep w' M res v
def JK(args:List AV)(G:List (Nat×Blk)):St:=⟨λn=>(args[n]?).getD .undef,bN G⟩
def BR(P:Program)(rs:List ResultVar)(b:List (Nat×Blk))(res:PV)(st:St):Prop:=
 qA res=true/\(∃r,mh P st rs=some r/\∃W,frz st.h r=some (res,W))/\∀a∈b,st.h a.1=some a.2
def HQ(P:Program)(rs:List ResultVar)(a:List (Nat×Blk))(res:PV):Exit->St->Prop
 |.normal,st=>BR P rs a res st
 |.ret,st=>BR P rs a res st
 |_,_=>False
@[simp] theorem NH:HQ P rs G' res .normal st=BR P rs G' res st:=rfl
@[simp] theorem OX:HQ P rs G' res .ret st=BR P rs G' res st:=rfl
theorem Ed{f:FuncId}{fn:Func}(hf:P.funcs[f]?=some fn)(hb:fn.body=some c)(Y:da P f=true)(cf:args.length<=fn.ntmps)(l:OkG G G')
 (h:∀C:Cx,C.P=P->C.N=fn.ntmps->WP C c (HQ P fn.results.toList G' res) (JK args G)):E8 P f args G G' res:=by
 refine⟨Y,l,λw M L vs hM b0 T a6 bc=>?_⟩;have okin:∀{k blk},bN G k=some blk->jU (G.map (·.1)) k blk=true:=λa=>l.okin _ _ (fk a);have okout:∀{k blk},bN G' k=some blk->jU (G.map (·.1)) k blk=true:=λa=>l.okout _ _ (fk a)
 have a8:(G'.map (·.1)).Nodup:=by rw[l.keys];exact l.nodup
 have B:∀{k blk},bN G k=some blk->∃d,bN G' k=some d:=by
  intro k blk a
  have F:k∈G'.map (·.1):=by rw[l.keys];exact Ur.2 ⟨_,fk a,rfl⟩
  obtain⟨⟨k',b'⟩,D,z⟩:=Ur.1 F;simp only at z;subst z;exact⟨b',kZ a8 D⟩
 have bq:∀{k blk},bN G' k=some blk->∃d,bN G k=some d:=by
  intro k blk a
  have F:k∈G.map (·.1):=by rw[<-l.keys];exact Ur.2 ⟨_,fk a,rfl⟩
  obtain⟨⟨k',b'⟩,D,z⟩:=Ur.1 F;simp only at z;subst z;exact⟨b',kZ l.nodup D⟩
 let I:Nat->Prop:=λb=>∃k e J xs A,bN G k=some (.row e J xs A)/\(L k).isNil=false/\b=(L k).b
 let C:Cx:={P:=P,N:=fn.ntmps,M0:=λb o=>M b o/\¬I b,S:=BH G L,pb:=λk=>some (L k).b,pr:=λk=>if 2000000<=k then some (L k)else none,hpr:=(λk a=>by rw[TQ (by omega)]),w0:=w}
 have ar:∀b o,ab C L (bN G) b o↔M b o:=by
  intro b o;constructor
  .rintro(h0|⟨k,blk,a,hl,ch,_⟩)
   all_goals grind
  .intro F
   by_cases hr:I b
   .obtain⟨k,e,J,xs,A,a,hn,rfl⟩:=hr
    refine .inr ⟨k,_,a,hn,rfl,?_⟩;have:=okin a;simp only[jU,An,L4]at this
    grind [Blk.frz]
   .exact .inl ⟨F,hr⟩
 have Q:ab C L (bN G)=M:=by funext b o;exact propext (ar b o)
 have cb:=bc.1
 have bb:gk C (JK args G) {tmps:=vs.toArray++Array.replicate (fn.ntmps-vs.toArray.size) undef,defers:=[]} w:=by
  refine⟨L,⟨Ext.refl _ _,λb o h0=>hM b o h0.1,?_,T,?_⟩,by show(vs.toArray++Array.replicate (fn.ntmps-vs.toArray.size) undef).size=fn.ntmps;simp;omega,jW.nil _,λn=>?_⟩
  .intro k blk a
   show dJ w (ab C L (bN G)) L (bN G) (L k) blk;rw[Q];exact a6 k blk a
  .intro k blk a
   have s:=okin a
   cases blk with
   |mp=>cases s
   |box cs own A=>
    simp only[jU,An,UG,L4]at s;obtain⟨⟨⟨⟨_,D⟩,z⟩,h3⟩,h4⟩:=s;subst D;subst z;refine⟨rfl,rfl,⟨k,_,a,trivial,rfl⟩,?_,λo=>⟨b0 k _ a trivial o,?_⟩⟩
    .exact(a6 k _ a).lt trivial
    .rintro⟨k',e,J,xs,A,m,b5,he⟩
     by_cases e':k=k'
     .subst e';rw[show bN G k=_ from a]at m;cases m
     .exact T k k' _ _ e' a m trivial b5 he
   |row e J xs A=>
    simp only[jU,An,L4]at s;show eY C k (L k) _;have hpr:C.pr k=some (L k):=T8 s.2;unfold eY;simp only;rw[hpr];exact⟨rfl,λhn=>⟨⟨k,_,a,hn,rfl⟩,λo h9=>h9.2 ⟨k,e,J,xs,A,a,hn,rfl⟩⟩⟩
  .show RepA w (ab C L (bN G)) L (bN G) ((args[n]?).getD .undef) _
   rw[Q]
   cases hp:args[n]? with
   |none=>exact .undef _
   |some p=>
    have Z:n<vs.length:=by rw[<-cb];exact(th.1 hp).1
    have a7:(vs.toArray++Array.replicate (fn.ntmps-vs.toArray.size) undef).getD n undef=vs[n]:=by
     rw[T9,UF (by simpa using Z)];simp[Z]
    simp only[a7];exact bc.2 n p _ hp (an Z)
 refine calls_of_wp_defers hf hb (wp_mono (h C rfl rfl _ w bb) ?_)
 have R:∀(V:Act) w' g,gk C g V w'->BR P fn.results.toList G' res g->jW P V.defers/\∃v,(results fn V.tmps).run P w'=.ok v w'/\
  ∃v',Ending.returned v=.returned v'/\Ext (BH G L) w w'/\(∀k blk,bN G' k=some blk->dJ w' M L (bN G') (L k) blk)/\Rep w' M res v':=by
  rintro V w' g ⟨L',F,hN,bH,ht⟩ ⟨b3,⟨r,hr,W,hW⟩,b8⟩;obtain⟨u,b9,ca⟩:=nA (C:=C) F ht hr;have y:∀{k blk},bN G' k=some blk->g.h k=some blk:=λa=>b8 _ (fk a)
  have O:∀{k e J xs A},bN G' k=some (.row e J xs A)->L' k=L k:=by
   intro k e J xs A a;have s:=okout a;simp only[jU,An,L4]at s;have E:=F.own k _ (y a);have hpr:C.pr k=some (L k):=T8 s.2;simp only[eY,hpr]at E;exact E.1
  have ad:∀{k cs own A},bN G' k=some (.box cs own A)->(L' k).b=(L k).b:=by
   intro k cs own A a;have s:=okout a;simp only[jU,An,UG,L4]at s;obtain⟨⟨⟨⟨_,D⟩,z⟩,h3⟩,h4⟩:=s;subst D;subst z;have E:=(F.own k _ (y a)).2.1;injection E with E;exact E.symm
  have U:∀b o,M b o->ab C L' g.h b o:=by
   intro b o b4;by_cases a9:I b
   .obtain⟨k,e,J,xs,A,a,hn,rfl⟩:=a9
    obtain⟨d,m⟩:=B a;have hs:=l.same k _ _ a m
    cases d with
    |box=>cases hs
    |mp=>cases hs
    |row e' cj ck cg=>
     have s:=okout m;simp only[jU,An,L4]at s;refine .inr ⟨k,_,y m,?_,?_,?_⟩
     .show(L' k).isNil=false;rw[O m];exact hn
     .rw[O m]
     .rw[s.1];simp[Blk.frz]
   .exact .inl ⟨b4,a9⟩
  obtain⟨b1,b2,_⟩:=mT F (cY.refl _) ca hW;refine⟨bH,u,b9,u,rfl,F.ext,?_,?_⟩
  .intro k blk a
   have X:=F.bl k blk (y a)
   cases blk with
   |mp=>cases okout a
   |row e J xs A=>
    rw[O a]at X;obtain⟨g1,g2,g3,g4,g5⟩:=X;refine⟨g1,g2,g3,g4,λhn=>?_⟩;obtain⟨a1,a2,arr,a3,a4,a5⟩:=g5 hn;exact⟨a1,a2,arr,a3,a4,λi x j p hx hj=>by obtain⟨u,hu,hr⟩:=a5 i x j p hx hj;exact⟨u,hu,hr.mono (Pres.sub U)⟩⟩
   |box cs own A=>
    obtain⟨arr,ty,e1,e2⟩:=X;rw[ad a]at e1;refine⟨arr,ty,e1,e2.1,λi p u hp hu=>?_⟩;have s:=okout a;simp only[jU,An]at s;have b7:=TP.1 s.1.1.1.1 p (Is hp);have hx:=e2.2 i p u hp hu
    have e0:lD id p=p:=by cases p<;>rfl
    have cd:RepA w' (ab C L' g.h) L' g.h (lD id p) u:=by rw[e0];exact hx
    refine rF (ren:=id) (K:=G.map (·.1)) (M':=M) (L':=L) (h':=bN G') U (λq hq blk hb=>?_) b7 cd
    .obtain⟨⟨q',b'⟩,D,z⟩:=Ur.1 hq
     simp only at z;subst z;obtain⟨d,H⟩:=B (kZ l.nodup D);refine⟨d,H,?_⟩;have h9:=y H;have bs:g.h q'=some blk:=hb;rw[bs]at h9;injection h9 with h9;subst h9
     cases blk with
     |mp=>cases okout H
     |box=>exact(ad H).symm
     |row=>exact⟨rfl,rfl,Ua _,λ_=>(O H).symm⟩
  .exact oQ b3 b2
 rintro e V w' ⟨g,ba,hq⟩
 cases e with
 |normal=>obtain⟨D,v,z,h3⟩:=R V w' g ba hq;exact ja D z h3
 |ret=>obtain⟨D,v,z,h3⟩:=R V w' g ba hq;exact ja D z h3
 |exit=>exact hq.elim
 |goto=>exact hq.elim
 |panic=>exact hq.elim
 |outgrown=>exact hq.elim
def mC(h:Hp)(q:Nat):Bool:=match h q with
 |some (.box _ own _)=>own
 |_=>false
def iD(ren:Nat->Nat)(h:Hp)(b:List (Nat×Blk)):List (Nat×Blk):=b.map λa=>(ren a.1,iH ren (mC h (ren a.1)) a.2)
theorem yH{ren:Nat->Nat}{g:Nat×Blk->Blk}:∀(l:List (Nat×Blk))(h:Hp),(l.map λx=>ren x.1).Nodup->∀x∈l,ai h (l.map λx=>(ren x.1,g x)) (ren x.1)=some (g x)
 |[],_,_,x,a=>by cases a
 |y::l,h,hn,x,a=>by
  rw[U9,Wz]at hn;rw[U9];show ai (ae h (ren y.1) (some (g y))) (l.map λx=>(ren x.1,g x)) (ren x.1)=_;rcases Ut.1 a with rfl|a
  .rw[lj,aF]
   intro d b;obtain⟨z,c,rfl⟩:=Ur.1 b;intro e;exact hn.1 (Ur.2 ⟨z,c,e⟩)
  .exact yH l _ hn.2 x a
theorem oY{ren:Nat->Nat}{own:Bool}:(iH ren own b).live l↔b.live l:=by cases b<;>exact Vk
theorem xH{ren:Nat->Nat}{own:Bool}{K:List Nat}{o:Nat}(h:jU K k b=true):¬(iH ren own b).frz o:=by
 cases b with
 |mp=>cases h
 |box d a c=>simp[iH,Blk.frz]
 |row e f xs c=>
  simp_all[jU,An,iH,Blk.frz]
structure Share(h:Hp)(ren:Nat->Nat)(G G':List (Nat×Blk)):Prop where
 ok:OkG G G'
 inj:(G.map λx=>ren x.1).Nodup
 have_:∀kb∈G,h (ren kb.1)=some (iH ren (mC h (ren kb.1)) kb.2)
section
variable {C:Cx} {L:Nat->Loc} {h:Hp} {w:World} {ren:Nat->Nat} {G G':List (Nat×Blk)}
theorem Share.ren_inj(n:Share h ren G G')(m:bN G k=some b)(a:bN G k'=some b')(e:ren k=ren k'):k=k':=by
 obtain⟨i,hi⟩:=Vh.1 (fk m);obtain⟨j,l⟩:=Vh.1 (fk a)
 have f:(G.map λx=>ren x.1)[i]?=some (ren k):=by simp[hi]
 have g:(G.map λx=>ren x.1)[j]?=some (ren k'):=by simp[l]
 obtain⟨o,c⟩:=th.1 f;obtain⟨p,d⟩:=th.1 g;have:i=j:=(List.getElem_inj n.inj).1 (c.trans (e.trans d.symm))
 grind
theorem Share.inout(b:Share h ren G G')(e:bN G k=some blk):∃a,bN G' k=some a:=by
 have f:k∈G'.map (·.1):=by rw[b.ok.keys];exact Ur.2 ⟨_,fk e,rfl⟩
 obtain⟨⟨k',b'⟩,d,c⟩:=Ur.1 f;simp only at c;subst c;exact⟨b',kZ (by rw[b.ok.keys];exact b.ok.nodup) d⟩
theorem Share.outin(c:Share h ren G G')(e:bN G' k=some blk):∃a,bN G k=some a:=by
 have f:k∈G.map (·.1):=by rw[<-c.ok.keys];exact Ur.2 ⟨_,fk e,rfl⟩
 obtain⟨⟨k',b'⟩,d,b⟩:=Ur.1 f;simp only at b;subst b;exact⟨b',kZ c.ok.nodup d⟩
theorem Share.at_(b:Share h ren G G')(a:bN G k=some blk):h (ren k)=some (iH ren (mC h (ren k)) blk):=b.have_ _ (fk a)
theorem Share.new(a:Share h ren G G')(c:bN G' k=some blk):ai h (iD ren h G') (ren k)=some (iH ren (mC h (ren k)) blk):=by
 have hn:(G'.map λx=>ren x.1).Nodup:=by
  have e:(G'.map λx=>ren x.1)=(G.map λx=>ren x.1):=by
   have:=Vw (List.map ren) a.ok.keys;simpa[List.map_map,Function.comp_def]using this
  rw[e];exact a.inj
 exact yH (g:=λb=>iH ren (mC h (ren b.1)) b.2) G' h hn (k,blk) (fk c)
theorem Share.other(c:Share h ren G G')(hq:∀k blk,bN G k=some blk->q≠ren k):ai h (iD ren h G') q=h q:=by
 refine lj ?_;intro i a e;obtain⟨⟨k,b⟩,g,rfl⟩:=Ur.1 a;obtain⟨d,f⟩:=c.outin (kZ (by rw[c.ok.keys];exact c.ok.nodup) g)
 grind
theorem Share.cases(g:Share h ren G G')(hq:ai h (iD ren h G') q=some b):
 (∃k blk a,bN G k=some blk/\bN G' k=some a/\q=ren k/\b=iH ren (mC h (ren k)) a)\/((∀k blk,bN G k=some blk->q≠ren k)/\h q=some b):=by
 by_cases i:∃k blk,bN G k=some blk/\q=ren k
 .obtain⟨k,blk,c,rfl⟩:=i
  obtain⟨a,d⟩:=g.inout c;rw[g.new d]at hq;injection hq with hq
  grind
 .have f:∀k blk,bN G k=some blk->q≠ren k:=λk blk c e=>i ⟨k,blk,c,e⟩
  rw[g.other f]at hq
  grind
theorem BT{ren:Nat->Nat}{own:Bool}(h:tg b b'=true):dZ (iH ren own b) l (iH ren own b') l:=by
 cases b<;>cases b'<;>first|(cases h;done)|skip
 .exact rfl
 .simp only[tg,An,US]at h
  exact⟨h.1.1.symm,h.1.2.symm,Nat.le_of_eq h.2,λ_=>rfl⟩
theorem Share.okin(c:Share h ren G G')(a:bN G k=some b):jU (G.map (·.1)) k b=true:=c.ok.okin _ _ (fk a)
theorem Share.okout(c:Share h ren G G')(a:bN G' k=some b):jU (G.map (·.1)) k b=true:=c.ok.okout _ _ (fk a)
theorem Share.view(d:Share h ren G G')(s:MemL C L h w)(f:bN G k=some blk):dJ w (ab C L h) (λk=>L (ren k)) (bN G) (L (ren k)) blk:=by
 have a:=s.bl _ _ (d.at_ f)
 cases blk with
 |mp=>cases d.okin f
 |row e A xs n=>exact a
 |box y own n=>
  obtain⟨arr,x,m,g⟩:=a;have l:=d.okin f;simp only[jU,An]at l;refine⟨arr,x,m,by simpa using g.1,λi p u hp v=>?_⟩;refine rF (ren:=ren) (K:=G.map (·.1)) (λb o h=>h) (λq hq b a=>?_) (TP.1 l.1.1.1.1 p (Is hp)) (g.2 i _ u (by simp[hp]) v);obtain⟨⟨z,b'⟩,r,j⟩:=Ur.1 hq;simp only at j;subst j;have c:=kZ d.ok.nodup r;refine⟨b',c,?_⟩;rw[d.at_ c]at a;injection a with a;subst a
  cases b' with
  |mp=>exact⟨rfl,rfl,rfl⟩
  |box=>exact rfl
  |row=>exact⟨rfl,rfl,Ua _,λ_=>rfl⟩
theorem MemL.shareStep(v:MemL C L h w)(d:Share h ren G G'){N:World}(T:Ext (BH G (λk=>L (ren k))) w N)
 (P:∀k blk,bN G' k=some blk->dJ N (ab C L h) (λk=>L (ren k)) (bN G') (L (ren k)) blk):aI C L h w L (ai h (iD ren h G')) N:=by
 have A:∀b o,ab C L (ai h (iD ren h G')) b o->ab C L h b o:=by
  rintro b o (h0|⟨q,blk,hq,m,M,hf⟩)
  .exact .inl h0
  .rcases d.cases hq with⟨k,z,s,a,c,rfl,rfl⟩|⟨_,g⟩
   .refine .inr ⟨ren k,_,d.at_ a,?_,M,xH (d.okin a)⟩
    have r:=d.ok.same k _ _ a c
    cases z<;>cases s<;>first|(cases r;done)|exact m
   .exact .inr ⟨q,blk,g,m,M,hf⟩
 have I:KC L h L (ai h (iD ren h G')):=by
  intro q blk hq;by_cases X:∃k b,bN G k=some b/\q=ren k
  .obtain⟨k,b,a,rfl⟩:=X
   obtain⟨b',c⟩:=d.inout a;rw[d.at_ a]at hq;injection hq with hq;subst hq;exact⟨_,d.new c,BT (d.ok.same k _ _ a c)⟩
  .exact⟨blk,by rw[d.other (λk b a e=>X ⟨k,b,a,e⟩)];exact hq,cX _ _⟩
 have n:Pres w (ab C L h) N (ab C L (ai h (iD ren h G'))):=by
  refine Pres.ext T (λb _ R o=>?_) λb o _ E=>A b o E;obtain⟨k,blk,a,m,rfl⟩:=R;exact .inr ⟨ren k,_,d.at_ a,oY.2 m,rfl,xH (d.okin a)⟩
 refine⟨⟨?_,v.m0,?_,?_,?_⟩,n,I⟩
 .refine v.ext.trans T (λb Q J=>?_)
  obtain⟨k,blk,a,m,rfl⟩:=J;have ad:(L (ren k)).b<C.w0.heap.size:=Q;have f:=v.own _ _ (d.at_ a)
  cases blk with
  |mp=>cases d.okin a
  |box cs own O=>
   cases l:mC h (ren k)with
   |false=>rw[l]at f;exact f.2.2.1
   |true=>
    rw[l]at f;rcases f with E|E
    .omega
    .exact E.1
  |row e sz xs O=>
   rcases f.row m with E|E
   all_goals grind
 .intro q blk hq
  rcases d.cases hq with⟨k,z,s,a,c,rfl,rfl⟩|⟨D,g⟩
  .have H:=P k s c
   cases s with
   |mp=>cases d.okout c
   |row e sz xs O=>
    obtain⟨g1,g2,g3,g4,g5⟩:=H;refine⟨g1,g2,g3,g4,λhn=>?_⟩;obtain⟨a1,a2,arr,a3,a4,a5⟩:=g5 hn;exact⟨a1,a2,arr,a3,a4,λi x j p U hj=>by obtain⟨u,S,hr⟩:=a5 i x j p U hj;exact⟨u,S,hr.mono (Pres.sub A)⟩⟩
   |box cs own O=>
    obtain⟨arr,ty,e1,W⟩:=H;have Y:=d.okout c;simp only[jU,An]at Y;refine⟨arr,ty,e1,by simpa using W.1,λi p u hp S=>?_⟩;simp only[TR,No]at hp;obtain⟨y,Z,rfl⟩:=hp;refine E7 (ren:=ren) (K:=G.map (·.1)) (L':=λk=>L (ren k)) (h':=bN G') A (λq hq b P=>?_) (TP.1 Y.1.1.1.1 y (Is Z)) (W.2 i y u Z S);refine⟨_,d.new P,?_⟩
    cases b with
    |mp=>exact⟨rfl,rfl,rfl⟩
    |box=>exact rfl
    |row=>exact⟨rfl,rfl,Ua _,λ_=>rfl⟩
  .refine(v.bl q blk g).mono n I (λm=>T.block _ ((v.bl q blk g).lt m) ?_)
   rintro⟨k,b,a,B,e⟩;exact v.sep q (ren k) _ _ (D k b a) g (d.at_ a) m (oY.2 B) e
 .have F:∀q b,ai h (iD ren h G') q=some b->b.live (L q)->∃V,h q=some V/\V.live (L q):=by
   intro q b hq m;rcases d.cases hq with⟨k,z,s,a,c,rfl,rfl⟩|⟨_,g⟩
   .refine⟨_,d.at_ a,?_⟩
    have r:=d.ok.same k _ _ a c
    cases z<;>cases s<;>first|(cases r;done)|exact m
   grind
  intro q q' z s D hq g m B;obtain⟨c1,d1,f1⟩:=F q z hq m;obtain⟨c2,d2,f2⟩:=F q' s g B;exact v.sep q q' c1 c2 D d1 d2 f1 f2
 .intro q blk hq
  rcases d.cases hq with⟨k,z,s,a,c,rfl,rfl⟩|⟨_,g⟩
  .have f:=v.own _ _ (d.at_ a)
   have r:=d.ok.same k _ _ a c
   cases z<;>cases s<;>first|(cases r;done)|skip
   .cases l:mC h (ren k)with
    |false=>rw[l]at f;exact f
    |true=>rw[l]at f;exact f
   .exact f
  .exact v.own q blk g
end
section
variable {C:Cx} {Q:Exit->St->Prop} {st:St}
def yI(C:Cx)(Q:St->Prop)(f:Operand)(xs:List Operand)(d:Option Nat)(st:St):Prop:=
 ∃g args G G' res ren,bX (st.ev f)=some (g,[],[])/\E8 C.P g args G G' res/\qA res=true/\xs.map st.ev=args.map (zR ren)/\args.all (Ec (G.map (·.1)))=true/\(G.map λx=>ren x.1).Nodup/\
  (∀a∈G,st.h (ren a.1)=some (iH ren (mC st.h (ren a.1)) a.2))/\dm C.N d=true/\Q (st.put d (.pv res) (iD ren st.h G'))
theorem WP.share(J:ops.toList=pre++o::post)(a2:o.op=.call {callee:=.value f,args:=xs.toArray,argTypes:=ats})(hg:o.guard=none)
 (hq:dK C.P hn C.N ops (yI C (dK C.P hn C.N ops (Q .normal) post) f xs o.dst) pre st):WP C (.region id ops false) Q st:=by
 intro a w hs;refine wp_region_list ?_;rw[J];refine iG (λD O S a7 a5=>?_) hs hq;obtain⟨g,args,G,G',res,ren,T,⟨c,ar,hD⟩,Z,j,I,E,y,U,hQ⟩:=a5;obtain⟨L,H,hN,V,ht⟩:=a7;have d:Share D.h ren G G':=⟨ar,E,y⟩;refine wpList_step (λK hK=>?_);rw[kG hg,T8 rfl];obtain⟨vs,us,W,a9,ba⟩:=iX (db ht f) T;have bb:=a9.nil_inv;have a8:=ba.nil_inv;subst bb;subst a8
 have A:xs.length=args.length:=by have:=Vw List.length j;simpa using this
 have B:aA S (ab C L D.h) (λk=>L (ren k)) (bN G) args (xs.map O.eval):=by
  refine⟨by simp[A],λi p u hp hu=>?_⟩;simp only[TR,No]at hu;obtain⟨x,hx,rfl⟩:=hu;have he:=Vw (λl:List AV=>l[i]?) j;simp only[TR,hx,hp,UO,T6]at he;have R:=db ht x;rw[he]at R;refine HP (K:=G.map (·.1)) (λb o h=>h) (λq hq b r=>?_) (TP.1 I p (Is hp)) R;obtain⟨⟨q',b'⟩,h1,h2⟩:=Ur.1 hq;simp only at h2;subst h2;have n:=kZ d.ok.nodup h1;refine⟨b',n,?_⟩;rw[d.at_ n]at r;injection r with r;subst r
  cases b' with
  |mp=>exact⟨rfl,rfl,rfl⟩
  |box=>exact rfl
  |row=>exact⟨rfl,rfl,Ua _,λ_=>rfl⟩
 have m:=hD S (ab C L D.h) (λk=>L (ren k)) (xs.map O.eval) (λb o h=>H.mlt h)
  (λk blk z X o=>.inr ⟨ren k,_,d.at_ z,oY.2 X,rfl,xH (d.okin z)⟩)
  (λk k' b b' ad z F X Y=>H.sep (ren k) (ren k') _ _ (λe=>ad (d.ren_inj z F e)) (d.at_ z) (d.at_ F) (oY.2 X) (oY.2 Y))
  (λk blk z=>d.view H z) B
 have M:(execOp O.eval o).run C.P S=.ok (.enter g (xs.map O.eval).toArray) S:=by
  unfold da at c
  cases s:C.P.funcs[g]? with
  |none=>rw[s]at c;cases c
  |some fn=>
   rw[s]at c;simp only[An,UG,U4,ne_eq]at c
   have r:fn.body.isNone=false:=by cases bq:fn.body<;>simp_all
   unfold execOp;rw[a2];simp only[resolve,W,Deferred.ofValue,pure_bind,Sem.run_bind,Result.andThen_ok,invoke,callFunc,program,Sem.run,s];simp[c.2,r]
 unfold Oper.wp;rw[M];simp only[Oper.upon];refine m.mono ?_;rintro ee w' ⟨v,rfl,hx,r,R⟩;have hA:=H.shareStep d hx r;refine hK _ _ ?_;exact iU (λbc a' w' a6 n=>⟨bc,a6,n⟩) (gk.put H hN V ht U hA (.pv (oQ Z R))) hQ
end
attribute [simp] zR lD Ec mK bN iH jU tg iD mC
def inK(k:Nat):Bool:=decide (290<=k)&&decide (k<1000000)
def iw(K:Nat->Bool):AV->Bool
 |.pv _=>true
 |.ptr k _=>K k
 |.arr k _=>K k
 |.eptr k _ _ _=>K k
 |.ext x=>K x.key
 |.undef=>true
 |_=>false
def tj(K:Nat->Bool):AV->Bool
 |.agg a=>a.all (iw K)
 |x=>iw K x
def mR(K:Nat->Bool):AV->Bool
 |.agg b=>b.all (iw K)
 |.fn _ first a=>first.all (iw K)&&a.all (iw K)
 |.tup b=>b.all (tj K)
 |x=>iw K x
abbrev qI:AV->Bool:=mR inK
def jV:Blk->Bool
 |.box _ false _=>false
 |_=>true
def BU:Blk->Bool
 |.mp _ _ _ _=>false
 |_=>true
def uz(M:Nat->Nat->Prop)(L:Nat->Loc)(h:Hp)(b o:Nat):Prop:=M b o\/∃k blk,h k=some blk/\blk.live (L k)/\(L k).b=b/\¬blk.frz o
def mD(h:Hp)(L:Nat->Loc)(b:Nat):Prop:=∃k blk,h k=some blk/\blk.live (L k)/\b=(L k).b
def jv(h:Hp)(L:Nat->Loc)(b:Nat):Prop:=∃k blk,h k=some blk/\jV blk=true/\blk.live (L k)/\b=(L k).b
structure LookH(h:Hp):Prop where
 keys:∀k blk,h k=some blk->inK k=true
 nf:∀k blk o,h k=some blk->¬blk.frz o
 nm:∀k blk,h k=some blk->BU blk=true
 cl:∀k cs o f,h k=some (.box cs o f)->∀x∈cs,qI x=true
structure TrIn(w:World)(M:Nat->Nat->Prop)(L:Nat->Loc)(h:Hp):Prop where
 bl:∀k blk,h k=some blk->dJ w (uz M L h) L h (L k) blk
 sep:∀k k' blk blk',k≠k'->h k=some blk->h k'=some blk'->blk.live (L k)->blk'.live (L k')->(L k).b≠(L k').b
 m1:∀k blk,h k=some blk->jV blk=true->blk.live (L k)->∀o,¬M (L k).b o
 m2:∀k cs f,h k=some (.box cs false f)->∀o,M (L k).b o
def nh(P:Program)(f:FuncId)(args:List AV)(a:Hp)(c:AV->Hp->Prop):Prop:=
 da P f=true/\∀(w:World)(M:Nat->Nat->Prop)(L:Nat->Loc)(vs:List Value),(∀b o,M b o->b<w.heap.size)->TrIn w M L a->aA w (uz M L a) L a args vs->
  Calls P f vs.toArray w λe w'=>∃v r L' h',e=.returned v/\Ext (mD a L) w w'/\LookH h'/\TrIn w' M L' h'/\RepA w' (uz M L' h') L' h' r v/\qI r=true/\c r h'/\
   (∀k d f,a k=some (.box d false f)->∃g,h' k=some (.box g false false)/\(L' k).b=(L k).b)/\
   (∀k d f,h' k=some (.box d false f)->∃i j,a k=some (.box i false j))/\
   (∀k blk,h' k=some blk->jV blk=true->blk.live (L' k)->w.heap.size<=(L' k).b\/jv a L (L' k).b)
section
variable {w w':World} {M M':Nat->Nat->Prop} {L L':Nat->Loc} {h h':Hp}
theorem sE{K:Nat->Bool}(hp:Pres w M w' M')(z:∀k blk,K k=true->h k=some blk->∃a,h' k=some a/\dZ blk (L k) a (L' k))(g:mR K x=true)(F:RepA w M L h x u):RepA w' M' L' h' x u:=by
 have one:∀{x:AV}{u:Value},iw K x=true->RepA w M L h x u->RepA w' M' L' h' x u:=by
  intro x u g F
  cases F with
  |pv E=>exact .pv (E.mono hp)
  |@ptr k Q v own C j=>
   obtain⟨a,m,d⟩:=z k _ g j
   cases a with
   |row=>exact d.elim
   |mp=>exact d.elim
   |box J G q=>have d:(L' k).b=(L k).b:=d;rw[<-d];exact .ptr m
  |@arr k n e U C xs u j hn l=>
   obtain⟨a,m,d⟩:=z k _ g j
   cases a with
   |box=>exact d.elim
   |mp=>exact d.elim
   |row S H s q=>
    obtain⟨_,I,T,B⟩:=d;refine .arr m (by omega) (λe=>?_)
    have:s.length=xs.length:=by omega
    rw[B this];exact l (by omega)
  |@eptr k n i Q e U C xs u j hn l=>
   obtain⟨a,m,d⟩:=z k _ g j
   cases a with
   |box=>exact d.elim
   |mp=>exact d.elim
   |row S H s q=>
    obtain⟨_,I,T,B⟩:=d;refine .eptr m (by omega) (λe=>?_)
    have:s.length=xs.length:=by omega
    rw[B this,I];exact l (by omega)
  |ext r=>
   cases r with
   |@barr k n c v own C W j=>
    obtain⟨a,m,d⟩:=z k _ g j
    cases a with
    |row=>exact d.elim
    |mp=>exact d.elim
    |box J G q=>have d:(L' k).b=(L k).b:=d;rw[<-d];exact .ext (.barr W m)
   |@mp k n X es C j=>
    obtain⟨a,m,d⟩:=z k _ g j
    cases a with
    |row=>exact d.elim
    |box=>exact d.elim
    |mp P Y V q=>have d:P=X/\Y=n/\(L' k).b=(L k).b:=d;rw[<-d.2.2];exact .ext (.mp m)
   |@suf k o n t e U C xs u O j hn ht l=>
    obtain⟨a,m,d⟩:=z k _ g j
    cases a with
    |box=>exact d.elim
    |mp=>exact d.elim
    |row S H s q=>
     obtain⟨_,I,T,B⟩:=d;refine .ext (.suf O m hn (by omega) (λe=>?_))
     have:s.length=xs.length:=by omega
     rw[B this,I];exact l (by omega)
  |undef=>exact .undef _
  |agg=>cases g
  |fn=>cases g
  |tup=>cases g
 have all:∀{v:List AV}{p:AV}{i:Nat},v.all (iw K)=true->v[i]?=some p->iw K p=true:=λh hp=>TP.1 h _ (Is hp)
 have R:∀{x:AV}{u:Value},tj K x=true->RepA w M L h x u->RepA w' M' L' h' x u:=by
  intro x u g F
  cases F with
  |agg v vs y D=>exact .agg v vs y λi p u hp l=>one (all g hp) (D i p u hp l)
  |pv E=>exact one g (.pv E)
  |ptr j=>exact one g (.ptr j)
  |arr j hn l=>exact one g (.arr j hn l)
  |eptr j hn l=>exact one g (.eptr j hn l)
  |ext r=>exact one g (.ext r)
  |undef=>exact .undef _
  |fn=>cases g
  |tup=>cases g
 cases F with
 |agg v vs y D=>exact .agg v vs y λi p u hp l=>one (all g hp) (D i p u hp l)
 |fn f first A vs Z y N m d=>
  simp only[mR,An]at g
  exact .fn f first A vs Z y N (λi p u hp l=>one (all g.1 hp) (m i p u hp l)) (λi p u hp l=>one (all g.2 hp) (d i p u hp l))
 |tup v vs y D=>exact .tup v vs y λi p u hp l=>R (TP.1 g _ (Is hp)) (D i p u hp l)
 |pv E=>exact one g (.pv E)
 |ptr j=>exact one g (.ptr j)
 |arr j hn l=>exact one g (.arr j hn l)
 |eptr j hn l=>exact one g (.eptr j hn l)
 |ext r=>exact one g (.ext r)
 |undef=>exact .undef _
theorem dJ.inK(hp:Pres w M w' M')(D:∀k blk,Go.Ab.inK k=true->h k=some blk->∃a,h' k=some a/\dZ blk (L k) a (L' k))(B:∀g o f,blk=.box g o f->∀x∈g,qI x=true)(s:blk.live l->w'.heap[l.b]?=w.heap[l.b]?)(r:dJ w M L h l blk):dJ w' M' L' h' l blk:=by
 cases blk with
 |box g own y=>
  obtain⟨arr,H,e,E,v⟩:=r;exact⟨arr,H,(s trivial).trans e,E,λi p u d m=>sE hp D (B _ _ _ rfl p (Is d)) (v i p u d m)⟩
 |row J N xs y=>
  obtain⟨d,m,z,A,h5⟩:=r;refine⟨d,m,z,A,λhn=>?_⟩;obtain⟨h6,q,arr,e,h7,h8⟩:=h5 hn;refine⟨h6,q,arr,(s hn).trans e,h7,λi x j p G C=>?_⟩;obtain⟨u,F,v⟩:=h8 i x j p G C;exact⟨u,F,v.mono hp⟩
 |mp K n I y=>
  obtain⟨arr,c,e,d⟩:=r;exact⟨arr,c,(s trivial).trans e,d⟩
end
def pD(h:Hp):Hp:=λk=>if inK k=true then h k else none
theorem ke(e:pD h k=some b):inK k=true/\h k=some b:=by
 unfold pD at e;split at e
 .rename_i hi;exact⟨hi,e⟩
 .cases e
def sF(args:List AV)(a:Hp):St:=⟨λn=>(args[n]?).getD .undef,a⟩
def xI(P:Program)(rs:List ResultVar)(d:Hp)(a:AV->Hp->Prop)(st:St):Prop:=
 ∃r,mh P st rs=some r/\qI r=true/\LookH (pD st.h)/\a r (pD st.h)/\∀k c f,d k=some (.box c false f)->∃b,st.h k=some (.box b false false)
def E9(P:Program)(rs:List ResultVar)(b:Hp)(a:AV->Hp->Prop):Exit->St->Prop
 |.normal,st=>xI P rs b a st
 |.ret,st=>xI P rs b a st
 |_,_=>False
@[simp] theorem NI:E9 P rs h0 Post .normal st=xI P rs h0 Post st:=rfl
@[simp] theorem OY:E9 P rs h0 Post .ret st=xI P rs h0 Post st:=rfl
theorem se(j:k<2000000)(a:eY C k l blk)(g:jV blk=true)(f:BU blk=true)(d:blk.live l):C.w0.heap.size<=l.b\/(C.S l.b/\∀o,¬C.M0 l.b o):=by
 cases blk with
 |box i own c=>
  cases own with
  |false=>cases g
  |true=>exact a
 |row e m xs c=>exact a.row d
 |mp=>cases f
theorem uO(h:inK k=true):k<2000000:=by
 simp only[inK,An,L4]at h;omega
theorem Kq{f:FuncId}{fn:Func}(hf:P.funcs[f]?=some fn)(hb:fn.body=some c)(D:da P f=true)(a9:args.length<=fn.ntmps)(g:LookH h0)
 (h:∀C:Cx,C.P=P->C.N=fn.ntmps->WP C c (E9 P fn.results.toList h0 Post) (sF args h0)):nh P f args h0 Post:=by
 refine⟨D,λw M L vs hM j Z=>?_⟩
 let C:Cx:={P:=P,N:=fn.ntmps,M0:=M,S:=mD h0 L,pb:=λk=>match h0 k with|some (.box _ false _)=>some (L k).b|_=>none,w0:=w}
 have a8:=Z.1
 have W:gk C (sF args h0) {tmps:=vs.toArray++Array.replicate (fn.ntmps-vs.toArray.size) undef,defers:=[]} w:=by
  refine⟨L,⟨Ext.refl _ _,hM,j.bl,j.sep,?_⟩,by show(vs.toArray++Array.replicate (fn.ntmps-vs.toArray.size) undef).size=fn.ntmps;simp;omega,jW.nil _,λn=>?_⟩
  .intro k blk a
   cases blk with
   |box i own fz=>
    cases own with
    |false=>
     have a2:fz=false:=by
      cases fz with
      |false=>rfl
      |true=>exact absurd rfl (g.nf k _ 0 a)
     refine⟨a2,?_,⟨k,_,a,trivial,rfl⟩,(j.bl k _ a).lt trivial,j.m2 k i fz a⟩;show(match h0 k with|some (.box _ false _)=>some (L k).b|_=>none)=some (L k).b;rw[show h0 k=_ from a]
    |true=>exact .inr ⟨⟨k,_,a,trivial,rfl⟩,j.m1 k _ a rfl trivial⟩
   |row e sz xs fz=>
    unfold eY;simp only[C.hpr k (uO (g.keys k _ a))];exact λhn=>.inr ⟨⟨k,_,a,hn,rfl⟩,j.m1 k _ a rfl hn⟩
   |mp=>exact absurd (g.nm k _ a) (by simp[BU])
  .show RepA w (ab C L h0) L h0 ((args[n]?).getD .undef) _
   cases hp:args[n]? with
   |none=>exact .undef _
   |some p=>
    have G:n<vs.length:=by rw[<-a8];exact(th.1 hp).1
    have Q:(vs.toArray++Array.replicate (fn.ntmps-vs.toArray.size) undef).getD n undef=vs[n]:=by
     rw[T9,UF (by simpa using G)];simp[G]
    simp only[Q];exact Z.2 n p _ hp (an G)
 refine calls_of_wp_defers hf hb (wp_mono (h C rfl rfl _ w W) ?_)
 have x:∀(z:Act) w' d,gk C d z w'->xI P fn.results.toList h0 Post d->jW P z.defers/\∃v,(results fn z.tmps).run P w'=.ok v w'/\
  (∃v' r L' h',Ending.returned v=.returned v'/\Ext (mD h0 L) w w'/\LookH h'/\TrIn w' M L' h'/\RepA w' (uz M L' h') L' h' r v'/\qI r=true/\Post r h'/\
    (∀k i f,h0 k=some (.box i false f)->∃A,h' k=some (.box A false false)/\(L' k).b=(L k).b)/\
    (∀k i f,h' k=some (.box i false f)->∃m J,h0 k=some (.box m false J))/\
    (∀k blk,h' k=some blk->jV blk=true->blk.live (L' k)->w.heap.size<=(L' k).b\/jv h0 L (L' k).b)):=by
  rintro z w' d ⟨L',K,hN,ar,ht⟩ ⟨r,hr,T,F,I,U⟩;obtain⟨u,a6,a7⟩:=nA (C:=C) K ht hr
  have X:∀b o,uz M L' (pD d.h) b o->ab C L' d.h b o:=by
   rintro b o (s|⟨k,blk,a,E,ad,a1⟩)
   .exact .inl s
   .exact .inr ⟨k,blk,(ke a).2,E,ad,a1⟩
  have hpr:=Pres.sub (w:=w') X;have R:∀k blk,inK k=true->d.h k=some blk->∃q,pD d.h k=some q/\dZ blk (L' k) q (L' k):=λk blk hi a=>⟨blk,by unfold pD;rw[T8 hi];exact a,cX _ _⟩
  have H:∀k i f,d.h k=some (.box i false f)->(∃m J,h0 k=some (.box m false J))/\(L' k).b=(L k).b/\f=false/\∀o,M (L' k).b o:=by
   intro k i f a;have ho:=K.own k _ a;have l:(match h0 k with|some (.box _ false _)=>some (L k).b|_=>none)=some (L' k).b:=ho.2.1;split at l
   .rename_i m J B
    injection l with l;exact⟨⟨m,J,B⟩,l.symm,ho.1,ho.2.2.2.2⟩
   .cases l
  have y:∀k blk,pD d.h k=some blk->jV blk=true->blk.live (L' k)->w.heap.size<=(L' k).b\/(mD h0 L (L' k).b/\∀o,¬M (L' k).b o):=λk blk a Y E=>
   se (C:=C) (uO (ke a).1) (K.own k _ (ke a).2) Y (F.nm k _ a) E
  refine⟨ar,u,a6,u,r,L',pD d.h,rfl,K.ext,F,⟨?_,?_,?_,?_⟩,sE hpr R T a7,T,I,?_,?_,?_⟩
  .exact λk blk a=>(K.bl k blk (ke a).2).inK hpr R (λi o f e=>F.cl k i o f (by rw[a,e])) (λ_=>rfl)
  .exact λk k' b1 b2 a5 l B=>K.sep k k' b1 b2 a5 (ke l).2 (ke B).2
  .intro k blk a Y E o O
   rcases y k blk a Y E with s|s
   .have:=hM _ _ O;omega
   .exact s.2 o O
  .exact λk i f a=>(H k i f (ke a).2).2.2.2
  .intro k i f a
   obtain⟨A,l⟩:=U k i f a;exact⟨A,by unfold pD;rw[T8 (g.keys k _ a)];exact l,(H k _ _ l).2.1⟩
  .exact λk i f a=>(H k i f (ke a).2).1
  .intro k blk a Y E
   rcases y k blk a Y E with s|⟨⟨k0,b0,e1,e2,e3⟩,s⟩
   .exact .inl s
   .refine .inr ⟨k0,b0,e1,?_,e2,e3⟩
    cases b0 with
    |box m o0 J=>
     cases o0 with
     |true=>rfl
     |false=>exact absurd (j.m2 k0 _ _ e1 0) (by rw[<-e3];exact s 0)
    |row=>rfl
    |mp=>rfl
 rintro e z w' ⟨d,V,hq⟩
 cases e with
 |normal=>obtain⟨l,v,B,h3⟩:=x z w' d V hq;exact ja l B h3
 |ret=>obtain⟨l,v,B,h3⟩:=x z w' d V hq;exact ja l B h3
 |exit=>exact hq.elim
 |goto=>exact hq.elim
 |panic=>exact hq.elim
 |outgrown=>exact hq.elim
def ni(o:Bool):Blk->Blk
 |.box a _ f=>.box a o f
 |b=>b
def mE(h:Hp)(k:Nat):Bool:=match h k with
 |some (.box _ o _)=>o
 |_=>true
def gi(h:Hp):Hp:=λk=>if inK k=true then(if k=290 then(h k).map (ni false)else h k)else none
def k8(k:Nat):Bool:=!inK k||k==290
def gb(x:AV):AV:=if mR k8 x=true then x else .undef
def iZ:Blk->Blk
 |.box a o f=>.box (a.map gb) o f
 |b=>b
def fD(h h':Hp):Hp:=λk=>if inK k=true then(if k=290 then(h' k).map (ni (mE h k))else h' k)else(h k).map iZ
theorem jw{o:Bool}:(ni o b).live l↔b.live l:=by cases b<;>exact Vk
theorem AN{o:Bool}:(ni o b).frz q↔b.frz q:=by cases b<;>exact Vk
theorem kH:(iZ b).live l↔b.live l:=by cases b<;>exact Vk
theorem Fa:(iZ b).frz q↔b.frz q:=by cases b<;>exact Vk
theorem uP{o:Bool}{l':Loc}(h:dZ b l b' l'):dZ b l (ni o b') l':=by cases b<;>cases b'<;>exact h
theorem i7(e:gi h k=some b):inK k=true/\∃a,h k=some a/\(k=290->b=ni false a)/\(k≠290->b=a):=by
 unfold gi at e;split at e
 .rename_i hi
  split at e
  .rename_i c
   simp only[No]at e;obtain⟨a,d,rfl⟩:=e;exact⟨hi,a,d,λ_=>rfl,λf=>absurd c f⟩
  .rename_i c;exact⟨hi,b,e,λd=>absurd d c,λ_=>rfl⟩
 .cases e
theorem vX(hi:inK k=true)(a:h k=some b):gi h k=some (if k=290 then ni false b else b):=by
 unfold gi;rw[T8 hi];split
 .rw[a];rfl
 .exact a
theorem BV{h':Hp}(hi:inK k=true)(a:h' k=some b):fD h h' k=some (if k=290 then ni (mE h k) b else b):=by
 unfold fD;rw[T8 hi];split
 .rw[a];rfl
 .exact a
theorem nj{h':Hp}(e:fD h h' k=some b):(inK k=true/\∃a,h' k=some a/\b=if k=290 then ni (mE h k) a else a)\/(inK k=false/\∃a,h k=some a/\b=iZ a):=by
 unfold fD at e;split at e
 .rename_i hi
  split at e
  .rename_i c
   simp only[No]at e;obtain⟨a,d,rfl⟩:=e;exact .inl ⟨hi,a,d,by rw[T8 c]⟩
  .rename_i c;exact .inl ⟨hi,b,e,by rw[TQ c]⟩
 .rename_i hi
  simp only[No]at e;obtain⟨a,d,rfl⟩:=e;exact .inr ⟨by simpa using hi,a,d,rfl⟩
structure InOk(h:Hp):Prop where
 nf:∀k blk o,inK k=true->h k=some blk->¬blk.frz o
 nm:∀k blk,inK k=true->h k=some blk->BU blk=true
 cl:∀k cs o f,inK k=true->h k=some (.box cs o f)->∀x∈cs,qI x=true
 pin:∀k cs f,inK k=true->h k=some (.box cs false f)->k=290
 bx:∀blk,h 290=some blk->∃cs o f,blk=.box cs o f
section
variable {C:Cx} {L L':Nat->Loc} {h h':Hp} {w w':World}
theorem yJ(n:MemL C L h w)(hi:InOk h){b:Nat}(p:jv (gi h) L b):(C.w0.heap.size<=b\/(C.S b/\∀o,¬C.M0 b o))/\mD h L b:=by
 obtain⟨k,blk,m,g,d,rfl⟩:=p;obtain⟨c,i,a,j,l⟩:=i7 m;by_cases e:k=290
 .have:=j e
  subst this;subst e;obtain⟨q,o,f,rfl⟩:=hi.bx i a;cases g
 .have:=l e
  subst this;exact⟨se (uO c) (n.own k _ a) g (hi.nm k _ c a) d,k,_,a,d,rfl⟩
theorem MemL.takeStep(M:MemL C L h w)(hi:InOk h)(hx:Ext (mD (gi h) L) w w')(bc:LookH h')
 (ht:TrIn w' (λb o=>ab C L h b o/\¬jv (gi h) L b) L' h')
 (Y:∀k D f,gi h k=some (.box D false f)->∃ad,h' k=some (.box ad false false)/\(L' k).b=(L k).b)
 (a9:∀k D f,h' k=some (.box D false f)->∃g O,gi h k=some (.box g false O))
 (hn:∀k blk,h' k=some blk->jV blk=true->blk.live (L' k)->w.heap.size<=(L' k).b\/jv (gi h) L (L' k).b):
 ∃B:Nat->Loc,(∀k,inK k=true->B k=L' k)/\MemL C B (fD h h') w'/\(∀{x:AV}{u:Value},RepA w (ab C L h) L h x u->RepA w' (ab C B (fD h h')) B (fD h h') (gb x) u)/\
  (∀{x:AV}{u:Value},qI x=true->RepA w' (uz (λb o=>ab C L h b o/\¬jv (gi h) L b) L' h') L' h' x u->RepA w' (ab C B (fD h h')) B (fD h h') x u):=by
 let B:Nat->Loc:=λk=>if inK k=true then L' k else L k
 have s:∀k,inK k=true->B k=L' k:=λk z=>T8 z
 have G:∀k,inK k=false->B k=L k:=λk z=>by simp[B,z]
 have b8:=M.ext.size
 have U:∀b,mD (gi h) L b->∃k blk,inK k=true/\h k=some blk/\blk.live (L k)/\b=(L k).b:=by
  rintro b ⟨k,blk,z,d,rfl⟩;obtain⟨m,l,I,J,Q⟩:=i7 z;refine⟨k,l,m,I,?_,rfl⟩;by_cases e:k=290
  .rw[J e]at d;exact jw.1 d
  .rw[Q e]at d;exact d
 have V:∀b,mD (gi h) L b->∀o,ab C L h b o:=by
  intro b F o;obtain⟨k,blk,m,I,J,rfl⟩:=U b F;exact .inr ⟨k,blk,I,J,rfl,hi.nf k blk o m I⟩
 have ba:∀b,jv (gi h) L b->mD (gi h) L b:=by
  rintro b ⟨k,blk,m,_,J,Q⟩;exact⟨k,blk,m,J,Q⟩
 have bb:∀b o,ab C B (fD h h') b o->uz (λb o=>ab C L h b o/\¬jv (gi h) L b) L' h' b o:=by
  rintro b o (E|⟨k,blk,z,d,F,hf⟩)
  .refine .inl ⟨.inl E,λh8=>?_⟩
   rcases(yJ M hi h8).1 with h7|h7
   .have:=M.m0 _ _ E;omega
   .exact h7.2 o E
  .rcases nj z with⟨r,l,m,rfl⟩|⟨r,l,m,rfl⟩
   .rw[s k r]at d F
    refine .inr ⟨k,l,m,?_,F,?_⟩
    .split at d
     .exact jw.1 d
     .exact d
    .split at hf
     .exact λh8=>hf (AN.2 h8)
     .exact hf
   .rw[G k r]at d F
    refine .inl ⟨.inr ⟨k,l,m,kH.1 d,F,λh8=>hf (Fa.2 h8)⟩,λh8=>?_⟩;obtain⟨k',a,I,J,Q,h5⟩:=U b (ba b h8);refine M.sep k k' l a (λe=>?_) m J (kH.1 d) Q (by rw[F,<-h5]);rw[e,I]at r;cases r
 have a7:=Pres.sub (w:=w') bb
 have Z:Pres w (ab C L h) w' (ab C B (fD h h')):=by
  have bH:∀b o,¬ab C L h b o->¬mD (gi h) L b:=λb o E h8=>E (V b h8 o)
  have R:∀b o,b<w.heap.size->ab C B (fD h h') b o->ab C L h b o:=by
   intro b o K E;rcases bb b o E with h8|⟨k,blk,z,d,F,hf⟩
   .exact h8.1
   .cases A:jV blk with
    |true=>
     rcases hn k blk z A d with h7|h7
     .omega
     .rw[F]at h7;exact V b (ba b h7) o
    |false=>
     cases blk with
     |row=>cases A
     |mp=>cases A
     |box D o9 f9=>
      cases o9 with
      |true=>cases A
      |false=>
       obtain⟨g,O,h7⟩:=a9 k D f9 z;obtain⟨_,_,h6⟩:=Y k g O h7;exact V b ⟨k,_,h7,trivial,by rw[<-F,h6]⟩ o
  refine⟨λb o v hc W=>?_,λb arr c hc W=>?_⟩
  .have K:=zS hc
   exact⟨(hx.cell K (bH b o W)).trans hc,λE=>W (R b o K E)⟩
  .have K:=vZ hc
   exact⟨(hx.block b K (bH b 0 W)).trans hc,λE=>W (R b 0 K E)⟩
 have a8:∀k blk,k8 k=true->h k=some blk->∃a,fD h h' k=some a/\dZ blk (L k) a (B k):=by
  intro k blk z m
  cases y:inK k with
  |false=>
   refine⟨iZ blk,by simp only[fD,y,T5,Uf,m,UO],?_⟩;rw[G k y]
   cases blk with
   |box=>exact rfl
   |row=>exact⟨rfl,rfl,Ua _,λ_=>rfl⟩
   |mp=>exact⟨rfl,rfl,rfl⟩
  |true=>
   have e:k=290:=by simpa[k8,y]using z
   obtain⟨D,o,f,rfl⟩:=hi.bx blk (by rw[<-e];exact m)
   have I:gi h k=some (.box D false f):=by rw[vX y m,T8 e];rfl
   obtain⟨ad,J,Q⟩:=Y k D f I;refine⟨_,BV y J,?_⟩;rw[T8 e,s k y];exact Q
 have a6:∀k blk,inK k=true->h' k=some blk->∃a,fD h h' k=some a/\dZ blk (L' k) a (B k):=by
  intro k blk y m;refine⟨_,BV y m,?_⟩;rw[s k y];split
  .exact uP (cX _ _)
  .exact cX _ _
 have T:∀{x:AV}{u:Value},RepA w (ab C L h) L h x u->RepA w' (ab C B (fD h h')) B (fD h h') (gb x) u:=by
  intro x u hr;unfold gb;split
  .rename_i X;exact sE Z a8 X hr
  .exact .undef _
 refine⟨B,s,⟨?_,M.m0,?_,?_,?_⟩,T,λX hr=>sE a7 a6 X hr⟩
 .refine M.ext.trans hx (λb K E=>?_)
  obtain⟨k,blk,m,I,J,rfl⟩:=U b E;have X:=M.own k _ I
  cases A:jV blk with
  |true=>
   rcases se (uO m) X A (hi.nm k _ m I) J with h7|h7
   .omega
   .exact h7.1
  |false=>
   cases blk with
   |row=>cases A
   |mp=>cases A
   |box D o9 f9=>
    cases o9 with
    |true=>cases A
    |false=>exact X.2.2.1
 .intro k blk z
  rcases nj z with⟨r,l,m,rfl⟩|⟨r,l,m,rfl⟩
  .rw[s k r]
   have F:=(ht.bl k l m).inK a7 a6 (λD o f e=>bc.cl k D o f (by rw[m,e])) (λ_=>rfl);split
   .cases l<;>exact F
   .exact F
  .rw[G k r]
   have F:=M.bl k l m
   have he:l.live (L k)->w'.heap[(L k).b]?=w.heap[(L k).b]?:=by
    intro d;refine hx.block _ (F.lt d) (λE=>?_);obtain⟨k',a,I,J,Q,h5⟩:=U _ E;exact M.sep k k' l a (λe=>by rw[e,I]at r;cases r) m J d Q h5
   cases l with
   |box D own fz=>
    obtain⟨arr,ty,e,d,hr⟩:=F;refine⟨arr,ty,(he trivial).trans e,by simpa using d,λi p u hp A=>?_⟩;simp only[TR,No]at hp;obtain⟨q,hq,rfl⟩:=hp;exact T (hr i q u hq A)
   |row et sz xs fz=>
    obtain⟨g1,g2,g3,g4,g5⟩:=F;refine⟨g1,g2,g3,g4,λar=>?_⟩;obtain⟨h6,b3,arr,e,h7,h8⟩:=g5 ar;refine⟨h6,b3,arr,(he ar).trans e,h7,λi x j p b5 hj=>?_⟩;obtain⟨u,A,hr⟩:=h8 i x j p b5 hj;exact⟨u,A,hr.mono Z⟩
   |mp kd n es fz=>
    obtain⟨arr,c,e,g1⟩:=F;exact⟨arr,c,(he trivial).trans e,g1⟩
 .
  have new:∀k blk,inK k=true->h' k=some blk->blk.live (L' k)->w.heap.size<=(L' k).b\/mD (gi h) L (L' k).b:=by
   intro k blk y z d
   cases A:jV blk with
   |true=>exact(hn k blk z A d).imp id (ba _)
   |false=>
    cases blk with
    |row=>cases A
    |mp=>cases A
    |box D o9 f9=>
     cases o9 with
     |true=>cases A
     |false=>
      obtain⟨g,O,h7⟩:=a9 k D f9 z;obtain⟨_,_,h6⟩:=Y k g O h7;exact .inr ⟨k,_,h7,trivial,h6⟩
  have apart:∀k blk k' a,inK k=true->inK k'=false->h' k=some blk->h k'=some a->blk.live (L' k)->a.live (L k')->(L' k).b≠(L k').b:=by
   intro k blk k' a m I J Q h5 h6 e;rcases new k blk m J h5 with h7|h7
   .have:=(M.bl k' a Q).lt h6;omega
   .obtain⟨q,bq,g1,g2,g3,g4⟩:=U _ h7
    exact M.sep q k' bq a (λe9=>by rw[e9,I]at g1;cases g1) g2 Q g3 h6 (by rw[<-g4,e])
  have lv:∀{k:Nat}{l:Blk},(if k=290 then ni (mE h k) l else l).live (L' k)->l.live (L' k):=by
   intro k l d;split at d
   .exact jw.1 d
   .exact d
  intro k k' b1 b2 bs z b4 d H;rcases nj z with⟨N,c1,P,rfl⟩|⟨N,c1,P,rfl⟩<;>rcases nj b4 with⟨i2,c2,d2,rfl⟩|⟨i2,c2,d2,rfl⟩
  .rw[s k N]at d|-
   rw[s k' i2]at H|-;exact ht.sep k k' c1 c2 bs P d2 (lv d) (lv H)
  .rw[s k N]at d|-
   rw[G k' i2]at H|-;exact apart k c1 k' c2 N i2 P d2 (lv d) (kH.1 H)
  .rw[G k N]at d|-
   rw[s k' i2]at H|-;exact λe=>apart k' c2 k c1 i2 N d2 P (lv H) (kH.1 d) e.symm
  .rw[G k N]at d|-
   rw[G k' i2]at H|-;exact M.sep k k' c1 c2 bs P d2 (kH.1 d) (kH.1 H)
 .
  intro k blk z;rcases nj z with⟨N,l,P,rfl⟩|⟨N,l,P,rfl⟩
  .rw[s k N]
   have fresh:jV l=true->l.live (L' k)->C.w0.heap.size<=(L' k).b\/(C.S (L' k).b/\∀o,¬C.M0 (L' k).b o):=by
    intro A d;rcases hn k l P A d with h7|h7
    .exact .inl (by omega)
    .exact(yJ M hi h7).1
   cases l with
   |mp=>exact absurd (bc.nm k _ P) (by simp[BU])
   |row e sz xs fz=>
    have:eY C k (L' k) (.row e sz xs fz):=by
     unfold eY;simp only[C.hpr k (uO N)];exact λar=>fresh rfl ar
    split<;>exact this
   |box D o9 f9=>
    cases o9 with
    |true=>
     have E:=fresh rfl trivial;split
     .rename_i e
      have h8:gi h k=none\/∃g O,gi h k=some (.box g false O):=by
       cases h7:h k with
       |none=>left;simp[gi,h7]
       |some b1=>
        right
        obtain⟨g,o0,O,rfl⟩:=hi.bx b1 (by rw[<-e];exact h7);exact⟨g,O,by rw[vX N h7,T8 e];rfl⟩
      rcases h8 with h8|⟨g,O,h8⟩
      .have h7:h k=none:=by
        cases h7:h k with
        |none=>rfl
        |some b1=>rw[vX N h7]at h8;cases h8
       have:mE h k=true:=by simp[mE,h7]
       rw[this];exact E
      .obtain⟨ad,h6,_⟩:=Y k g O h8
       rw[P]at h6;cases h6
     .exact E
    |false=>
     obtain⟨g,O,h7⟩:=a9 k D f9 P;obtain⟨ad,h6,h5⟩:=Y k g O h7;rw[P]at h6;injection h6 with h6;injection h6 with h6a _ h6b;obtain⟨_,b1,g2,g3,g4⟩:=i7 h7
     have e:k=290:=by
      refine Classical.byContradiction λe=>e ?_;have:=g4 e;subst this;exact hi.pin k g O N g2
     rw[T8 e];obtain⟨b7,o1,f1,rfl⟩:=hi.bx b1 (by rw[<-e];exact g2);have X:=M.own k _ g2
     have:mE h k=o1:=by simp[mE,g2]
     rw[this];show eY C k (L' k) (.box D o1 f9)
     cases o1 with
     |true=>
      have X:C.w0.heap.size<=(L k).b\/(C.S (L k).b/\∀o,¬C.M0 (L k).b o):=X;show C.w0.heap.size<=(L' k).b\/(C.S (L' k).b/\∀o,¬C.M0 (L' k).b o);rw[h5];exact X
     |false=>
      obtain⟨a1,a2,a3,a4,a5⟩:=X;refine⟨h6b,?_,?_,?_,?_⟩
      .rw[h5];exact a2
      .rw[h5];exact a3
      .rw[h5];exact a4
      .rw[h5];exact a5
  .rw[G k N]
   have:=M.own k l P
   cases l with
   |box D o f=>cases o<;>exact this
   |row=>exact this
   |mp=>exact this
def tl(C:Cx)(Q:St->Prop)(f:Operand)(xs:List Operand)(d:Option Nat)(st:St):Prop:=
 ∃g Post,bX (st.ev f)=some (g,[],[])/\InOk st.h/\nh C.P g (xs.map st.ev) (gi st.h) Post/\(xs.map st.ev).all qI=true/\dm C.N d=true/\
  ∀r h',LookH h'->qI r=true->Post r h'->Q (St.put ⟨λn=>gb (st.t n),fD st.h h'⟩ d r [])
theorem WP.takeG{K:St->Prop}(a2:∀st a w,gk C st a w->K st->∃D,gk C D a w/\dK C.P hn C.N ops (Q .normal) post D)(ad:ops.toList=pre++o::post)(bc:o.op=.call {callee:=.value f,args:=xs.toArray,argTypes:=ats})(hg:o.guard=none)
 (hq:dK C.P hn C.N ops (tl C K f xs o.dst) pre st):WP C (.region id ops false) Q st:=by
 intro a w hs;refine wp_region_list ?_;rw[ad];refine iG (λc a1 w1 b7 b3=>?_) hs hq;obtain⟨g,Post,a5,hi,⟨d,hD⟩,Z,a6,hQ⟩:=b3;obtain⟨L,W,hN,a7,ht⟩:=b7;refine wpList_step (λK hK=>?_);rw[kG hg,T8 rfl];obtain⟨vs,us,a8,cb,cd⟩:=iX (db ht f) a5;have cf:=cb.nil_inv;have ca:=cd.nil_inv;subst cf;subst ca
 have cj:∀b,jv (gi c.h) L b->∀o,ab C L c.h b o:=by
  intro b T o;obtain⟨k,blk,l,q,m,rfl⟩:=T;obtain⟨s,j,g1,g2,g3⟩:=i7 l;by_cases e:k=290
  .rw[g2 e]at m;exact .inr ⟨k,j,g1,jw.1 m,rfl,hi.nf k j o s g1⟩
  .rw[g3 e]at m;exact .inr ⟨k,j,g1,m,rfl,hi.nf k j o s g1⟩
 have E:uz (λb o=>ab C L c.h b o/\¬jv (gi c.h) L b) L (gi c.h)=ab C L c.h:=by
  funext b o
  refine propext ⟨?_,λH=>?_⟩
  .rintro(H|⟨k,blk,l,q,m,h4⟩)
   .exact H.1
   .obtain⟨s,j,g1,g2,g3⟩:=i7 l
    by_cases e:k=290
    .rw[g2 e]at q;exact .inr ⟨k,j,g1,jw.1 q,m,hi.nf k j o s g1⟩
    .rw[g3 e]at q;exact .inr ⟨k,j,g1,q,m,hi.nf k j o s g1⟩
  .by_cases h8:jv (gi c.h) L b
   .obtain⟨k,blk,l,q,m,h4⟩:=h8
    refine .inr ⟨k,blk,l,m,h4.symm,?_⟩;obtain⟨s,j,g1,g2,g3⟩:=i7 l;by_cases e:k=290
    .rw[g2 e];exact λh7=>hi.nf k j o s g1 (AN.1 h7)
    .rw[g3 e];exact hi.nf k j o s g1
   .exact .inl ⟨H,h8⟩
 have F:∀k blk,inK k=true->c.h k=some blk->∃z,gi c.h k=some z/\dZ blk (L k) z (L k):=by
  intro k blk a9 l;refine⟨_,vX a9 l,?_⟩;split
  .exact uP (cX _ _)
  .exact cX _ _
 have ba:TrIn w1 (λb o=>ab C L c.h b o/\¬jv (gi c.h) L b) L (gi c.h):=by
  refine⟨?_,?_,?_,?_⟩
  .intro k blk hk
   rw[E];obtain⟨s,j,g1,g2,g3⟩:=i7 hk;have T:=(W.bl k j g1).inK (Pres.refl _ _) F (λcs o f e=>hi.cl k cs o f s (by rw[g1,e])) (λ_=>rfl);by_cases e:k=290
   .rw[g2 e];cases j<;>exact T
   .rw[g3 e];exact T
  .intro k k' b1 b2 O l q hl B
   obtain⟨s,c1,g1,g2,g3⟩:=i7 l;obtain⟨i2,c2,e1,e2,e3⟩:=i7 q;refine W.sep k k' c1 c2 O g1 e1 ?_ ?_
   .by_cases e:k=290
    .rw[g2 e]at hl;exact jw.1 hl
    .rw[g3 e]at hl;exact hl
   .by_cases e:k'=290
    .rw[e2 e]at B;exact jw.1 B
    .rw[e3 e]at B;exact B
  .exact λk blk l q m o H=>H.2 ⟨k,blk,l,q,m,rfl⟩
  .intro k cs f hk o
   obtain⟨s,j,g1,g2,g3⟩:=i7 hk
   have U:j.live (L k):=by
    by_cases e:k=290
    .have h8:=g2 e
     cases j with
     |box=>exact trivial
     |row=>cases h8
     |mp=>exact trivial
    .rw[<-g3 e];exact trivial
   refine⟨.inr ⟨k,j,g1,U,rfl,hi.nf k j o s g1⟩,?_⟩;rintro⟨k',z,l,q,m,h4⟩;obtain⟨i2,c2,e1,e2,e3⟩:=i7 l
   have O:k≠k':=by
    intro e;rw[<-e,hk]at l;injection l with l;rw[<-l]at q;cases q
   refine W.sep k k' j c2 O g1 e1 U ?_ h4;by_cases e:k'=290
   .rw[e2 e]at m;exact jw.1 m
   .rw[e3 e]at m;exact m
 have S:aA w1 (uz (λb o=>ab C L c.h b o/\¬jv (gi c.h) L b) L (gi c.h)) L (gi c.h) (xs.map c.ev) (xs.map a1.eval):=by
  rw[E];refine⟨by simp,λi p u hp hu=>?_⟩;have bb:=TP.1 Z p (Is hp);simp only[TR,No]at hp hu;obtain⟨x,hx,rfl⟩:=hp;obtain⟨y,hy,rfl⟩:=hu;rw[hx]at hy;injection hy with hy;subst hy;exact sE (Pres.refl _ _) F bb (db ht x)
 have A:=hD w1 _ L (xs.map a1.eval) (λb o H=>W.mlt H.1) ba S
 have ar:(execOp a1.eval o).run C.P w1=.ok (.enter g (xs.map a1.eval).toArray) w1:=by
  unfold da at d
  cases J:C.P.funcs[g]? with
  |none=>rw[J]at d;cases d
  |some fn=>
   rw[J]at d;simp only[An,UG,U4,ne_eq]at d
   have T:fn.body.isNone=false:=by cases ch:fn.body<;>simp_all
   unfold execOp;rw[bc];simp only[resolve,a8,Deferred.ofValue,pure_bind,Sem.run_bind,Result.andThen_ok,invoke,callFunc,program,Sem.run,J];simp[d.2,T]
 unfold Oper.wp;rw[ar];simp only[Oper.upon];refine A.mono ?_;rintro ee w' ⟨v,r,L',h',rfl,hx,V,b9,hr,G,R,bq,bs,Y⟩;obtain⟨L2,cg,X,M,I⟩:=W.takeStep hi hx V b9 bq bs Y;refine hK _ _ ?_;obtain⟨ck,b8,b4⟩:=a2 _ _ _ (gk.put X hN a7 (λn=>M (ht n)) a6 (aI.refl X) (I G hr)) (hQ r h' V G R);exact iU (λD a' w' b5 bH=>⟨D,b5,bH⟩) b8 b4
theorem WP.take(a:ops.toList=pre++o::post)(b:o.op=.call {callee:=.value f,args:=xs.toArray,argTypes:=ats})(c:o.guard=none)
 (hq:dK C.P hn C.N ops (tl C (dK C.P hn C.N ops (Q .normal) post) f xs o.dst) pre st):WP C (.region id ops false) Q st:=WP.takeG (λst _ _ e d=>⟨st,e,d⟩) a b c hq
end
attribute [simp] mR iw tj iZ ni
def rk(d a q:Nat):Nat:=if q=d then a else q
def i8(d a:Nat):XV->XV
 |.barr k n c=>.barr (rk d a k) n c
 |.mp k=>.mp (rk d a k)
 |.suf k o n t=>.suf (rk d a k) o n t
def aZ(d a:Nat):AV->AV
 |.pv p=>.pv p
 |.ptr k o=>.ptr (rk d a k) o
 |.arr k n=>.arr (rk d a k) n
 |.eptr k n i o=>.eptr (rk d a k) n i o
 |.ext x=>.ext (i8 d a x)
 |_=>.undef
def bD(d c:Nat):AV->AV
 |.agg e=>.agg (e.map (aZ d c))
 |.fn f a b=>.fn f (a.map (aZ d c)) (b.map (aZ d c))
 |.tup e=>.tup (e.map (aZ d c))
 |x=>aZ d c x
def cW(d c:Nat):Blk->Blk
 |.box a o f=>.box (a.map (bD d c)) o f
 |b=>b
def bo(d a:Nat)(h:Hp):Hp:=λq=>if q=a then(h d).map (cW d a)else if q=d then none else(h q).map (cW d a)
theorem tn:(cW d k' b).live l↔b.live l:=by cases b<;>exact Vk
theorem Gq{o:Nat}:(cW d k' b).frz o↔b.frz o:=by cases b<;>exact Vk
theorem BW(d a:Nat)(b:Blk)(l:Loc):dZ b l (cW d a b) l:=by
 cases b with
 |box=>exact rfl
 |row=>exact⟨rfl,rfl,Ua _,λ_=>rfl⟩
 |mp=>exact⟨rfl,rfl,rfl⟩
theorem DP{w:World}{L y:Nat->Loc}{g:Hp}(hp:Pres w M w M')(z:∀k blk,h k=some blk->∃a,g (rk d k' k)=some a/\dZ blk (L k) a (y (rk d k' k)))(O:RepA w M L h x u):RepA w M' y g (bD d k' x) u:=by
 have one:∀{x:AV}{u:Value},RepA w M L h x u->RepA w M' y g (aZ d k' x) u:=by
  intro x u O
  cases O with
  |pv K=>exact .pv (K.mono hp)
  |@ptr k Q G own B j=>
   obtain⟨a,m,g⟩:=z k _ j
   cases a with
   |row=>exact g.elim
   |mp=>exact g.elim
   |box H D r=>have g:(y (rk d k' k)).b=(L k).b:=g;rw[<-g];exact .ptr m
  |@arr k n e U B xs u j hn l=>
   obtain⟨a,m,g⟩:=z k _ j
   cases a with
   |box=>exact g.elim
   |mp=>exact g.elim
   |row S E s r=>
    obtain⟨_,F,T,A⟩:=g;refine .arr m (by omega) (λe=>?_)
    have:s.length=xs.length:=by omega
    rw[A this];exact l (by omega)
  |@eptr k n i Q e U B xs u j hn l=>
   obtain⟨a,m,g⟩:=z k _ j
   cases a with
   |box=>exact g.elim
   |mp=>exact g.elim
   |row S E s r=>
    obtain⟨_,F,T,A⟩:=g;refine .eptr m (by omega) (λe=>?_)
    have:s.length=xs.length:=by omega
    rw[A this,F];exact l (by omega)
  |ext v=>
   cases v with
   |@barr k n c G own B W j=>
    obtain⟨a,m,g⟩:=z k _ j
    cases a with
    |row=>exact g.elim
    |mp=>exact g.elim
    |box H D r=>have g:(y (rk d k' k)).b=(L k).b:=g;rw[<-g];exact .ext (.barr W m)
   |@mp k n X es B j=>
    obtain⟨a,m,g⟩:=z k _ j
    cases a with
    |row=>exact g.elim
    |box=>exact g.elim
    |mp P Y V r=>have g:P=X/\Y=n/\(y (rk d k' k)).b=(L k).b:=g;rw[<-g.2.2];exact .ext (.mp m)
   |@suf k o n t e U B xs u N j hn ht l=>
    obtain⟨a,m,g⟩:=z k _ j
    cases a with
    |box=>exact g.elim
    |mp=>exact g.elim
    |row S E s r=>
     obtain⟨_,F,T,A⟩:=g;refine .ext (.suf N m hn (by omega) (λe=>?_))
     have:s.length=xs.length:=by omega
     rw[A this,F];exact l (by omega)
  |undef=>exact .undef _
  |agg=>exact .undef _
  |fn=>exact .undef _
  |tup=>exact .undef _
 cases O with
 |agg G vs C I=>
  refine .agg _ vs (by simpa using C) λi p u hp l=>?_;simp only[TR,No]at hp;obtain⟨q,hq,rfl⟩:=hp;exact one (I i q u hq l)
 |fn f first R vs Z C J m g=>
  refine .fn f _ _ vs Z (by simpa using C) (by simpa using J) (λi p u hp l=>?_) (λi p u hp l=>?_)
  .simp only[TR,No]at hp
   obtain⟨q,hq,rfl⟩:=hp;exact one (m i q u hq l)
  .simp only[TR,No]at hp
   obtain⟨q,hq,rfl⟩:=hp;exact one (g i q u hq l)
 |tup G vs C I=>
  refine .tup _ vs (by simpa using C) λi p u hp l=>?_;simp only[TR,No]at hp;obtain⟨q,hq,rfl⟩:=hp;exact one (I i q u hq l)
 |pv K=>exact one (.pv K)
 |ptr j=>exact one (.ptr j)
 |arr j hn l=>exact one (.arr j hn l)
 |eptr j hn l=>exact one (.eptr j hn l)
 |ext v=>exact one (.ext v)
 |undef=>exact .undef _
theorem WP.ren(d g:Nat)(ar:d≠g)(B:st.h g=none)(W:g<2000000)(T:∀M f,st.h d≠some (.box M false f))
 (h:WP C c Q ⟨λn=>bD d g (st.t n),bo d g st.h⟩):WP C c Q st:=by
 intro a w hs;obtain⟨L,O,hN,U,ad⟩:=hs
 let F:Nat->Loc:=λq=>if q=g then L d else L q
 have s:∀{k blk},st.h k=some blk->F (rk d g k)=L k:=by
  intro k blk A;unfold rk;split
  .rename_i e;subst e;exact T8 rfl
  .rename_i e
   have:k≠g:=by intro y;rw[y,B]at A;cases A
   exact TQ this
 have get:∀{q b},bo d g st.h q=some b->∃v r,q=rk d g v/\st.h v=some r/\b=cW d g r:=by
  intro q b hq;unfold bo at hq;split at hq
  .rename_i e
   simp only[No]at hq;obtain⟨r,m,rfl⟩:=hq;exact⟨d,r,by simp[rk,e],m,rfl⟩
  .split at hq
   .cases hq
   .rename_i H y
    simp only[No]at hq;obtain⟨r,m,rfl⟩:=hq;exact⟨q,r,by simp[rk,y],m,rfl⟩
 have put:∀{k blk},st.h k=some blk->bo d g st.h (rk d g k)=some (cW d g blk):=by
  intro k blk A;unfold rk;split
  .rename_i e;subst e;simp[bo,A]
  .rename_i e
   have:k≠g:=by intro y;rw[y,B]at A;cases A
   simp[bo,this,e,A]
 have inj:∀{k R b K},st.h k=some b->st.h R=some K->rk d g k=rk d g R->k=R:=by
  intro k R b K m h2 e
  have n1:k≠g:=by intro y;rw[y,B]at m;cases m
  have n2:R≠g:=by intro y;rw[y,B]at h2;cases h2
  unfold rk at e;split at e<;>split at e
  .rename_i H y;rw[H,y]
  .exact absurd e.symm n2
  .exact absurd e n1
  .exact e
 have hM:∀b o,ab C F (bo d g st.h) b o->ab C L st.h b o:=by
  rintro b o (h0|⟨q,S,hq,G,J,hf⟩)
  .exact .inl h0
  .obtain⟨v,r,rfl,m,rfl⟩:=get hq
   rw[s m]at G J;exact .inr ⟨v,r,m,tn.1 G,J,λh9=>hf (Gq.2 h9)⟩
 have hp:Pres w (ab C L st.h) w (ab C F (bo d g st.h)):=Pres.sub hM;have V:∀k blk,st.h k=some blk->∃D,bo d g st.h (rk d g k)=some D/\dZ blk (L k) D (F (rk d g k)):=λk blk A=>⟨_,put A,by rw[s A];exact BW _ _ _ _⟩;have E:∀{x u},RepA w (ab C L st.h) L st.h x u->RepA w (ab C F (bo d g st.h)) F (bo d g st.h) (bD d g x) u:=λhx=>DP hp V hx;refine h a w ⟨F,⟨O.ext,O.m0,?_,?_,?_⟩,hN,U,λn=>E (ad n)⟩
 .intro q b hq
  obtain⟨v,r,rfl,m,rfl⟩:=get hq;rw[s m];have J:=O.bl v r m
  cases r with
  |box M own I=>
   obtain⟨arr,ty,e,G,Z⟩:=J;refine⟨arr,ty,e,by simpa using G,λi p u P hu=>?_⟩;simp only[TR,No]at P;obtain⟨z,hz,rfl⟩:=P;exact E (Z i z u hz hu)
  |row e sz xs I=>
   obtain⟨a1,a2,a3,a4,a5⟩:=J;refine⟨a1,a2,a3,a4,λhn=>?_⟩;obtain⟨S,K,arr,b3,b4,b5⟩:=a5 hn;exact⟨S,K,arr,b3,b4,λi x j p hx hj=>by obtain⟨u,hu,Z⟩:=b5 i x j p hx hj;exact⟨u,hu,Z.mono hp⟩⟩
  |mp kd n es I=>exact J
 .intro q q' S K Y hq X G N
  obtain⟨p1,c1,rfl,d1,rfl⟩:=get hq;obtain⟨p2,c2,rfl,d2,rfl⟩:=get X;rw[s d1]at G|-;rw[s d2]at N|-;exact O.sep p1 p2 c1 c2 (λe=>Y (by rw[e])) d1 d2 (tn.1 G) (tn.1 N)
 .intro q b hq
  obtain⟨v,r,rfl,m,rfl⟩:=get hq;rw[s m];have l:=O.own v r m;by_cases e:v=d
  .subst e
   have H:rk v g v=g:=by simp[rk]
   rw[H]
   cases r with
   |box M own I=>
    cases own with
    |false=>exact absurd m (T M I)
    |true=>exact l
   |row e sz xs I=>
    unfold eY cW;simp only[C.hpr g W];exact λhn=>l.row hn
   |mp=>exact l
  .have H:rk d g v=v:=by simp[rk,e]
   rw[H]
   cases r with
   |box M own I=>cases own<;>exact l
   |row=>exact l
   |mp=>exact l
theorem WP.nilRows(K:Nat->Bool)(e r:Nat){cs cs':List AV}{own fb:Bool}(j:st.h r=some (.box cs own fb))(B:∀q,K q=true->st.h q=none/\q<2000000)
 (z:cs'.length=cs.length)(D:∀(i:Nat) x,cs'[i]?=some x->cs[i]?=some x\/(cs[i]?=some (.pv (.val (.slice none 0 0)))/\∃q,K q=true/\x=.arr q 0))
 (h:WP C c Q ⟨st.t,λq=>if K q=true then some (.row e 1 [] 0)else if q=r then some (.box cs' own fb)else st.h q⟩):WP C c Q st:=by
 intro a w hs;obtain⟨L,v,hN,E,J⟩:=hs
 let g:Nat->Loc:=λq=>if K q=true then⟨0,0,true⟩else L q
 let k:Hp:=λq=>if K q=true then some (.row e 1 [] 0)else if q=r then some (.box cs' own fb)else st.h q
 have ad:K r=false:=by
  cases d:K r with
  |false=>rfl
  |true=>rw[(B r d).1]at j;cases j
 have hL:∀{q b},st.h q=some b->K q=false/\g q=L q:=by
  intro q b hq
  have:K q=false:=by
   cases d:K q with
   |false=>rfl
   |true=>rw[(B q d).1]at hq;cases hq
  exact⟨this,by simp[g,this]⟩
 have get:∀{q b},k q=some b->(K q=true/\b=.row e 1 [] 0)\/(K q=false/\q=r/\b=.box cs' own fb)\/(K q=false/\q≠r/\st.h q=some b):=by
  intro q b hq;simp only[k]at hq;split at hq
  .rename_i d;injection hq with hq;exact .inl ⟨d,hq.symm⟩
  .rename_i d
   have d:K q=false:=by simpa using d
   split at hq
   .rename_i f;injection hq with hq;exact .inr (.inl ⟨d,f,hq.symm⟩)
   .rename_i f;exact .inr (.inr ⟨d,f,hq⟩)
 have hM:∀b o,ab C g k b o->ab C L st.h b o:=by
  rintro b o (h0|⟨q,N,hq,m,l,hf⟩)
  .exact .inl h0
  .rcases get hq with⟨d,rfl⟩|⟨d,rfl,rfl⟩|⟨d,_,f⟩
   .simp[g,d,Blk.live]at m
   .rw[(hL j).2]at l
    exact .inr ⟨q,_,j,trivial,l,hf⟩
   .rw[(hL f).2]at m l
    exact .inr ⟨q,N,f,m,l,hf⟩
 have hp:Pres w (ab C L st.h) w (ab C g k):=Pres.sub hM
 have s:KC L st.h g k:=by
  intro q b hq;obtain⟨d,f⟩:=hL hq;rw[f];by_cases A:q=r
  .subst A
   rw[j]at hq;injection hq with hq;subst hq;exact⟨.box cs' own fb,by simp[k,d],rfl⟩
  .exact⟨b,by simp[k,d,A,hq],cX _ _⟩
 refine h a w ⟨g,⟨v.ext,v.m0,?_,?_,?_⟩,hN,E,λn=>(J n).mono hp s⟩
 .intro q b hq
  rcases get hq with⟨d,rfl⟩|⟨d,rfl,rfl⟩|⟨d,_,f⟩
  .refine⟨Nat.one_pos,Ua _,(λx hx=>by cases hx),λ_=>rfl,λhn=>?_⟩
   simp[g,d]at hn
  .obtain⟨arr,ty,A,X,O⟩:=v.bl q _ j
   refine⟨arr,ty,by rw[(hL j).2];exact A,by rw[z];exact X,λi p u G R=>?_⟩;rcases D i p G with f|⟨f,S,P,rfl⟩
   .exact(O i p u f R).mono hp s
   .have hv:=O i _ u f R
    cases hv with
    |pv hr=>
     rw[aM hr];refine .arr (xs:=[]) (e:=e) (sz:=1) (fz:=0) (by simp[k,P]) (Ua _) (λ_=>?_);simp[g,P,Loc.slice]
  .rw[(hL f).2]
   exact(v.bl q b f).mono hp s (λ_=>rfl)
 .intro q S N b2 I hq H m F
  have y:∀{q b},k q=some b->b.live (g q)->∃M,st.h q=some M/\M.live (L q)/\g q=L q:=by
   intro q b hq m;rcases get hq with⟨d,rfl⟩|⟨d,rfl,rfl⟩|⟨d,_,f⟩
   .simp[g,d,Blk.live]at m
   .exact⟨_,j,trivial,(hL j).2⟩
   .rw[(hL f).2]at m;exact⟨b,f,m,(hL f).2⟩
  obtain⟨T,V,Y,g1⟩:=y hq m;obtain⟨U,W,Z,g2⟩:=y H F;rw[g1,g2];exact v.sep q S T U I V W Y Z
 .intro q b hq
  rcases get hq with⟨d,rfl⟩|⟨d,rfl,rfl⟩|⟨d,_,f⟩
  .refine eY.mkRow (B q d).2 (λhn=>?_)
   simp[g,d]at hn
  .have:=v.own q _ j
   rw[(hL j).2];cases own<;>exact this
  .rw[(hL f).2];exact v.own q b f
attribute [simp] bD aZ i8 rk cW bo
end Go.Ab
