/- The contracts and facts that the laws of this seat need, in one text (Rd, RdP, RdS, RdC). -/
import Derived.Test.YtfpagjchfipjkaaGreatU12
import Derived.Test.YtfpagjchfipjkaaGreatRows
set_option linter.all false
set_option maxRecDepth 10000
namespace Go.Ab
open IntKind (i64)
open Go.Proofs.Tryz
open Go.Proofs Go.Proofs.YtfpagjchfipjkaaGreat
variable {t te:TypeId}
theorem own:ownKnob prog.godebug=none:=by kernel_rfl
theorem kids:Kids prog (·< prog.types.size):=kids_rows (by kernel_rfl) (by kernel_rfl)
theorem full:∀t e,t<prog.types.size->prog.underlying t=some (.slice e)->0<prog.cellsOf e:=slices_full_of prog (by kernel_rfl)
section
variable {H:Type}
theorem KL:iO H prog 3 (λi=>.val (.int .i64 i)) (λi=>i64.min<=i/\i<=i64.max) (λ_=>1):=C9 Tryz.underlying3
theorem Pp:iO H prog 25 (λl:List Int=>.sl (l.map λi=>.val (.int .i64 i))) (λl=>l.length<=9223372036854775807/\∀a∈l,i64.min<=a/\a<=i64.max) (λl=>(l.map λ_=>1).sum+1):=fc Tryz.underlying25 KL
theorem MH:iO H prog 2 (λi=>.val (.int .i64 i)) (λi=>i64.min<=i/\i<=i64.max) (λ_=>1):=C9 Tryz.underlying2
theorem KM:iO H prog 61 (λl:List Int=>.sl (l.map λi=>.val (.int .i64 i))) (λl=>l.length<=9223372036854775807/\∀a∈l,i64.min<=a/\a<=i64.max) (λl=>(l.map λ_=>1).sum+1):=fc Tryz.underlying61 MH
theorem MI:iO H prog 108 aO (λ_=>True) (λ_=>1):=by
 intro d h;obtain⟨z,rfl,h1,a⟩:=fI Tryz.underlying108 h;obtain⟨a0,a1,q,b,r,s,u,v,x,y,rfl⟩:=R9 h1;obtain⟨g,rfl⟩:=Io (H:=H) Tryz.underlying9 (a 0 _ _ rfl rfl);obtain⟨i,rfl,_⟩:=df (H:=H) Tryz.underlying3 (a 1 _ _ rfl rfl);obtain⟨j,rfl,_⟩:=df (H:=H) Tryz.underlying3 (a 2 _ _ rfl rfl);obtain⟨c,e,f,rfl⟩:=BY (H:=H) Tryz.underlying60 Tryz.underlying2 (d:=b) (a 3 _ _ rfl rfl);obtain⟨k,rfl,_⟩:=df (H:=H) Tryz.underlying2 (a 4 _ _ rfl rfl);obtain⟨l,rfl,_⟩:=df (H:=H) Tryz.underlying2 (a 5 _ _ rfl rfl);obtain⟨m,rfl,_⟩:=df (H:=H) Tryz.underlying2 (a 6 _ _ rfl rfl);obtain⟨n,rfl,_⟩:=df (H:=H) Tryz.underlying2 (a 7 _ _ rfl rfl);obtain⟨o,rfl,_⟩:=df (H:=H) Tryz.underlying2 (a 8 _ _ rfl rfl);obtain⟨p,rfl,_⟩:=df (H:=H) Tryz.underlying2 (a 9 _ _ rfl rfl);exact⟨⟨⟨g.toArray⟩,i,j,c,e,f,k,l,m,n,o,p⟩,by simp[eo,sY,eU,fE,cW],trivial,by simp[rT]⟩
theorem Pq:iO H prog 110 aX (λ_=>True) (λ_=>1):=by
 intro d h;obtain⟨j,rfl,h1,a⟩:=fI Tryz.underlying110 h;obtain⟨a0,a1,b,rfl⟩:=BX h1;obtain⟨g,rfl,_⟩:=df (H:=H) Tryz.underlying3 (a 0 _ _ rfl rfl);obtain⟨i,rfl,_⟩:=df (H:=H) Tryz.underlying2 (a 1 _ _ rfl rfl);obtain⟨c,e,f,rfl⟩:=BY (H:=H) Tryz.underlying60 Tryz.underlying2 (d:=b) (a 2 _ _ rfl rfl);exact⟨⟨g,i,c,e,f⟩,by simp[eo,sY,eU,fE,cW],trivial,by simp[rT]⟩
end
section
variable {H:Type}
theorem yV{d:DataW H}{l:List PV}(a:prog.underlying t=some (.slice te))(hf:kv prog t d)(h:eo d=.sl l):eU d=[.sl l]:=by
 obtain⟨n,hf⟩:=hf
 cases n with
 |zero=>exact hf.elim
 |succ n=>
  simp only[f8,a]at hf;rcases hf with rfl|⟨es,sp,rfl,_⟩
  all_goals simp only[eo]at h;simp[eU,<-h]
theorem BA{d:DataW H}(b:prog.underlying t=some (.slice te))(hf:kv prog t d):∃l,eU d=[.sl l]:=by
 have a:=hf;obtain⟨n,hf⟩:=hf
 cases n with
 |zero=>exact hf.elim
 |succ n=>
  simp only[f8,b]at hf;rcases hf with rfl|⟨es,sp,rfl,_⟩
  all_goals exact⟨_,yV b a (by simp only[eo];rfl)⟩
theorem SU{α:Type}{l:List α}(h:l.length=4):∃a b c d,l=[a,b,c,d]:=by
 match l,h with
 |[a,b,c,d],_=>exact⟨a,b,c,d,rfl⟩
theorem SV{α:Type}{l:List α}(h:l.length=5):∃a b c d e,l=[a,b,c,d,e]:=by
 match l,h with
 |[a,b,c,d,e],_=>exact⟨a,b,c,d,e,rfl⟩
theorem Ps:iO H prog 126 iV (λ_=>True) (λ_=>0):=by
 intro d h;obtain⟨z,rfl,h1,a⟩:=fI Tryz.underlying126 h;obtain⟨a0,a1,x,y,f,rfl⟩:=SV h1;obtain⟨u,rfl,_⟩:=df (H:=H) Tryz.underlying3 (a 0 _ _ rfl rfl);obtain⟨v,rfl,_⟩:=df (H:=H) Tryz.underlying3 (a 1 _ _ rfl rfl);obtain⟨c,rfl,_⟩:=df (H:=H) Tryz.underlying2 (a 2 _ _ rfl rfl);obtain⟨s,rfl,_⟩:=df (H:=H) Tryz.underlying3 (a 3 _ _ rfl rfl);have g4:kv prog 69 f:=a 4 _ _ rfl rfl;obtain⟨es,rfl,w1,w2⟩:=fI Tryz.underlying69 g4;obtain⟨b0,b1,g,i,rfl⟩:=SU w1;obtain⟨k1,rfl,_⟩:=df (H:=H) Tryz.underlying3 (w2 0 _ _ rfl rfl);obtain⟨k2,j⟩:=BA (H:=H) Tryz.underlying63 (show kv prog 63 b1 from w2 1 _ _ rfl rfl);obtain⟨A,rfl,n,b⟩:=fI Tryz.underlying65 (show kv prog 65 g from w2 2 _ _ rfl rfl);obtain⟨B,C,o,rfl⟩:=BX n;obtain⟨k3,rfl,_⟩:=df (H:=H) Tryz.underlying3 (b 0 _ _ rfl rfl);obtain⟨k4,rfl,_⟩:=df (H:=H) Tryz.underlying2 (b 1 _ _ rfl rfl);obtain⟨k5,k⟩:=BA (H:=H) Tryz.underlying23 (show kv prog 23 o from b 2 _ _ rfl rfl);obtain⟨D,rfl,p,e⟩:=fI Tryz.underlying67 (show kv prog 67 i from w2 3 _ _ rfl rfl);obtain⟨E,q,r,rfl⟩:=BX p;obtain⟨k6,rfl,_⟩:=df (H:=H) Tryz.underlying3 (e 0 _ _ rfl rfl);obtain⟨k7,l⟩:=BA (H:=H) Tryz.underlying61 (show kv prog 61 q from e 1 _ _ rfl rfl);obtain⟨k8,m⟩:=BA (H:=H) Tryz.underlying61 (show kv prog 61 r from e 2 _ _ rfl rfl);exact⟨⟨u,v,c,s,⟨k1,k2,k3,k4,k5,k6,k7,k8⟩⟩,by simp[eo,sY,eU,j,k,l,m,fE,cW],trivial,ZV _⟩
end
section
variable {H:Type}
theorem uC{d:DataW H}{l:List PV}(a:prog.underlying t=some (.slice te))(hf:kv prog t d)(h:eo d=.sl l):eU d=[.sl l]:=by
 obtain⟨n,hf⟩:=hf
 cases n with
 |zero=>exact hf.elim
 |succ n=>
  simp only[f8,a]at hf;rcases hf with rfl|⟨es,sp,rfl,_⟩
  all_goals simp only[eo]at h;simp[eU,<-h]
theorem Pt:iO H prog 60 al (λ_=>True) (λ_=>1):=by
 intro d h;obtain⟨x,y,z,rfl⟩:=BY (H:=H) Tryz.underlying60 Tryz.underlying2 (d:=d) h;exact⟨(x,y,z),by simp[eo,sY,eU,fE,cW],trivial,by simp[rT]⟩
theorem HQ:iO H prog 23 aw (λl=>l.length<=9223372036854775807) (λl=>l.length):=by
 intro d h;obtain⟨l,e,q,s⟩:=fc (H:=H) Tryz.underlying23 Pt d h;have n1:=ue (λ_:Int×Int×Int=>1) (λ_=>Zf _) l;simp only at s;refine⟨l,e,q.1,?_⟩;simp only;omega
theorem MK:iO H prog 81 aZ (λs=>s.pts.length<=9223372036854775807) (λs=>s.pts.length+1):=by
 intro d h;obtain⟨c,rfl,h1,a⟩:=fI Tryz.underlying81 h;obtain⟨a0,a1,b,rfl⟩:=BX h1;obtain⟨k,rfl,_⟩:=df (H:=H) Tryz.underlying3 (a 0 _ _ rfl rfl);obtain⟨r,rfl,_⟩:=df (H:=H) Tryz.underlying2 (a 1 _ _ rfl rfl);have f1:kv prog 23 b:=a 2 _ _ rfl rfl;obtain⟨l,e,q,s⟩:=HQ (H:=H) b f1;have c1:=uC Tryz.underlying23 f1 e;refine⟨⟨k,r,l⟩,by simp[eo,sY,eU,c1,fE,cW],q,?_⟩;simp only[rT,s9]at *;omega
theorem Pu:iO H prog 113 aJ (λ_=>True) (λ_=>1):=by
 intro d h;obtain⟨e,rfl,h1,c⟩:=fI Tryz.underlying113 h;obtain⟨a,b,rfl⟩:=Ls h1;obtain⟨x,rfl,_⟩:=df (H:=H) Tryz.underlying3 (c 0 _ _ rfl rfl);obtain⟨y,rfl,_⟩:=df (H:=H) Tryz.underlying3 (c 1 _ _ rfl rfl);exact⟨(x,y),by simp[eo,sY,eU,fE,cW],trivial,by simp[rT]⟩
theorem ML:iO H prog 35 aN ScL (λs=>s.js.length+s.shs.length+s.sks.length):=by
 intro d h;obtain⟨p,rfl,h1,a⟩:=fI Tryz.underlying35 h;obtain⟨a0,a1,b,rfl⟩:=BX h1;have f0:kv prog 31 a0:=a 0 _ _ rfl rfl;have f1:kv prog 32 a1:=a 1 _ _ rfl rfl;have f2:kv prog 33 b:=a 2 _ _ rfl rfl;obtain⟨x,rfl,w1,w2⟩:=fI Tryz.underlying31 f0;obtain⟨b0,b1,rfl⟩:=Ls w1;have g0:kv prog 28 b0:=w2 0 _ _ rfl rfl;have g1:kv prog 29 b1:=w2 1 _ _ rfl rfl;obtain⟨js,i,m,s1⟩:=fc (H:=H) Tryz.underlying28 MI b0 g0;obtain⟨ms,j,n,s2⟩:=fc (H:=H) Tryz.underlying29 Pq b1 g1;obtain⟨shs,k,c,u⟩:=fc (H:=H) Tryz.underlying32 MK a1 f1;obtain⟨sks,l,o,v⟩:=fc (H:=H) Tryz.underlying33 Pu b f2;have c1:=uC Tryz.underlying28 g0 i;have e:=uC Tryz.underlying29 g1 j;have f:=uC Tryz.underlying32 f1 k;have g:=uC Tryz.underlying33 f2 l;have n1:=ue (λ_:J=>1) (λ_=>Zf _) js;have q:=ue (λs:Sh=>s.pts.length+1) (λ_=>by omega) shs;have r:=ue (λ_:Int×Int=>1) (λ_=>Zf _) sks;refine⟨⟨js,ms,shs,sks⟩,by simp[eo,sY,eU,c1,e,f,g,fE,cW],⟨m.1,n.1,c.1,o.1,c.2⟩,?_⟩;simp only[rT,s9]at *;omega
end
section
variable {H:Type}
theorem KN:iO H prog 22 (λl:List Sce=>.sl (l.map aN)) (λl=>l.length<=9223372036854775807/\∀s∈l,ScL s) (λ_=>0):=by
 intro d h;obtain⟨l,e,q,_⟩:=fc (H:=H) Tryz.underlying22 ML d h;exact⟨l,e,q,ZV _⟩
theorem Pr:iO H prog 40 (λq:ga=>bf (bn q)) (λq=>q.1.length<=9223372036854775807/\q.2.length<=9223372036854775807/\∀x∈q.1,x.length<=9223372036854775807) (λ_=>0):=by
 intro d h;obtain⟨k,rfl,h1,a⟩:=fI Tryz.underlying40 h;obtain⟨a0,a1,rfl⟩:=Ls h1;have g0:kv prog 37 a0:=a 0 _ _ rfl rfl;have g1:kv prog 38 a1:=a 1 _ _ rfl rfl;obtain⟨i,e,b,_⟩:=fc (H:=H) Tryz.underlying37 KM a0 g0;obtain⟨es,f,j,_⟩:=fc (H:=H) Tryz.underlying38 Ps a1 g1;have c1:=yV Tryz.underlying37 g0 e;have c:=yV Tryz.underlying38 g1 f;exact⟨⟨i,es⟩,by simp[eo,sY,eU,c1,c,fE,cW,bn],⟨b.1,j.1,λx g=>(b.2 x g).1⟩,ZV _⟩
theorem MJ:iO H prog 24 (λl:List ga=>gl l) (λl=>l.length<=9223372036854775807/\∀q∈l,q.1.length<=9223372036854775807/\q.2.length<=9223372036854775807/\∀x∈q.1,x.length<=9223372036854775807) (λ_=>0):=by
 intro d h;obtain⟨l,e,q,_⟩:=fc (H:=H) Tryz.underlying24 Pr d h;exact⟨l,e,q,ZV _⟩
end
end Go.Ab
