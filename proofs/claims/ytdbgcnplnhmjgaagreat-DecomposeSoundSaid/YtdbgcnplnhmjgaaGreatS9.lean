/- The contracts and facts that the laws of this seat need, in one text (Ab31, K12b, K12c, K13, K13b, K13c, Tv, K13d, DeP, DcM, Dc8, K13e, K14, K14b, Dc10, Dc11, AbX). -/
import Derived.Test.YtdbgcnplnhmjgaaGreatS8
set_option linter.all false
set_option maxRecDepth 10000
set_option maxHeartbeats 16000000
namespace Go.Ab
variable {PR:List (Nat×Nat)}{PT:List (List ax)}{SH:List Sh}{js:List J}{ms:List Ms}{s:Sce}{w:Int}
def wk(C:Cx)(ds:List Deferred)(st:St)(a:Act)(w:World):Prop:=∃L,MemL C L st.h w∧a.tmps.size=C.N∧a.defers=ds∧∀n,RepA w (af C L st.h) L st.h (st.t n) (a.tmps.getD n undef)
theorem wk.put{C:Cx}{ds:List Deferred}{L:Nat->Loc}{st:St}{a:Act}{w:World}(hm:MemL C L st.h w)(hN:a.tmps.size=C.N)(hdf:a.defers=ds)(ht:∀n,RepA w (af C L st.h) L st.h (st.t n) (a.tmps.getD n undef))
 {d:Option Nat}(hd:dD C.N d=true){v:AV}{W:List (Nat×Blk)}{u:Value}{w':World}{L':Nat->Loc}(hA:aP C L st.h w L' (am st.h W) w')(hv:RepA w' (af C L' (am st.h W)) L' (am st.h W) v u):
 wk C ds (st.put d v W) (a.put d u) w':=by
 obtain⟨h1,h2,h3⟩:=ir.put (a:=a) ⟨hm,hN,ht⟩ hd hA hv;exact⟨L',h1,h2,(kT _ _ _).trans hdf,h3⟩
section
variable {C:Cx} {hn:List Nat} {ops:Array Oper} {fs:List Ef} {st:St} {ds:List Deferred}
theorem Hk(hslot:kB ops=true)(hlen:fs.length=ops.size)(hstep:∀(i:Nat) o f,ops[i]?=some o->fs[i]?=some f->ot C.P hn C.N ops o (run (fs.take i) st) f)
 (hkey:jV (UT ops.toList []) (fs.map λf=>(f.W.map (·.1),f.K))=true){Q':Exit->Act->World->Prop}(hQ:∀a w,wk C ds (run fs st) a w->Q' .normal a w):
 ∀(fuel:Nat)(listed:Array Bool)(a:Act)(w:World),listed.size=ops.size->((List.range ops.size).filter λj=>!aQ listed j).length<=fuel->(∀i j,oo ops i j->aQ listed j=true->aQ listed i=true)->
  wk C ds (fK fs ops.size st (aQ listed)) a w->wpAny C.P .any ops Q' fuel listed a w:=by
 have hall:∀listed:Array Bool,Region.ready .any ops listed=[]->listed.size=ops.size->∀j,j<ops.size->aQ listed j=true:=by
  intro listed hr hsz j
  induction j using Nat.strongRecOn with
  |_ j ih=>
   intro hj
   cases hl:aQ listed j with
   |true=>rfl
   |false=>
    have:j∈Region.ready .any ops listed:=mj.2 ⟨hj,hl,λq hq=>by
     have hqj:=rj hslot hq;have:=ih q hqj (by omega);unfold aQ at this;rw[IV]at this|-;rw[MA (by omega)]at this|-
     simpa using this⟩
    rw[hr]at this;cases this
 have hend:∀(listed:Array Bool) a w,Region.ready .any ops listed=[]->listed.size=ops.size->wk C ds (fK fs ops.size st (aQ listed)) a w->Q' .normal a w:=by
  intro listed a w hr hsz hsim;apply hQ;have hl:=hall listed hr hsz
  have:fK fs ops.size st (aQ listed)=run fs st:=by
   have ht:run fs st=run (fs.take ops.size) st:=by rw[KL (by omega)]
   rw[ht]
   have h1:(fK fs ops.size st (aQ listed)).t=(run (fs.take ops.size) st).t:=by
    funext r;rw[ou fs st _ (by omega)];exact PF (λj hj _=>hl j hj)
   have h2:(fK fs ops.size st (aQ listed)).h=(run (fs.take ops.size) st).h:=by
    funext r;rw[ov fs st _ (by omega)];exact PF (λj hj _=>hl j hj)
   cases hA:fK fs ops.size st (aQ listed);cases hB:run (fs.take ops.size) st;rw[hA,hB]at h1 h2;simp at h1 h2;rw[h1,h2]
  rw[<-this];exact hsim
 intro fuel
 induction fuel with
 |zero=>
  intro listed a w hsz hcnt hcl hsim
  have hemp:Region.ready .any ops listed=[]:=by
   cases hr:Region.ready .any ops listed with
   |nil=>rfl
   |cons i r=>
    have hi:i∈Region.ready .any ops listed:=by rw[hr];simp
    obtain⟨h1,h2,_⟩:=mj.1 hi;have:i∈(List.range ops.size).filter λj=>!aQ listed j:=Ol.2 ⟨Mx.2 h1,by simp[h2]⟩;have hnil:((List.range ops.size).filter λj=>!aQ listed j)=[]:=LC (by omega);rw[hnil]at this;cases this
  exact⟨hemp,hend listed a w hemp hsz hsim⟩
 |succ fuel ih=>
  intro listed a w hsz hcnt hcl hsim;refine⟨λhr=>hend listed a w hr hsz hsim,λi hi=>?_⟩;obtain⟨hin,hli,hdir⟩:=mj.1 hi;have ho:ops[i]?=some ops[i]:=MA hin;have hf:fs[i]?=some (fs[i]'(by omega)):=an _;generalize ops[i]=o at ho;generalize fs[i]'(by omega)=f at hf;obtain⟨hdst,hfd,hcase⟩:=hstep i o f ho hf
  have hbefore:∀q,Pre ops q i->aQ listed q=true:=by
   intro q hq
   have hd:∀q,oo ops q i->aQ listed q=true:=by
    intro q hq;have hqi:=rj hslot hq;have:=hdir q hq;unfold aQ;rw[IV]at this|-;rw[MA (by omega)]at this|-;simpa using this
   cases hq with
   |one h=>exact hd q h
   |step h h'=>exact ri hcl h (hd _ h')
  have hafter:∀q,Pre ops i q->aQ listed q=false:=by
   intro q hq
   cases hlq:aQ listed q with
   |false=>rfl
   |true=>rw[ri hcl hq hlq]at hli;cases hli
  have hdj:∀j r,(sR fs r j).isSome=true->∃oj fj,ops[j]?=some oj∧fs[j]?=some fj∧oj.dst=some r:=by
   intro j r hj;unfold sR at hj;split at hj
   .rename_i fj hfj
    split at hj
    .rename_i hd
     have hjn:j<ops.size:=by rw[<-hlen];exact(th.1 hfj).1
     have hoj:ops[j]?=some ops[j]:=MA hjn;obtain⟨_,h2,_⟩:=hstep j _ fj hoj hfj;exact⟨_,fj,hoj,hfj,by rw[<-h2];exact hd⟩
    .cases hj
   .cases hj
  have hkj:∀j k,(sS fs k j).isSome=true->∃fj,fs[j]?=some fj∧k∈fj.W.map (·.1):=by
   intro j k hj;unfold sS at hj;split at hj
   .rename_i fj hfj;exact⟨fj,hfj,wJ hj⟩
   .cases hj
  have haccat:∀(j:Nat)(fj:Ef),fs[j]?=some fj->(fs.map λf=>(f.W.map (·.1),f.K))[j]?=some (fj.W.map (·.1),fj.K):=λj fj h=>by simp[h]
  have hagT:∀r∈qe ops o,(fK fs ops.size st (aQ listed)).t r=(run (fs.take i) st).t r:=by
   intro r hr;rw[ou fs st i (by omega),<-rf (n:=ops.size) (by omega)];refine PF (λj hj hw=>?_);obtain⟨oj,fj,hoj,hfj,hd⟩:=hdj j r hw;rcases Tc j i with hlt|rfl|hgt
   .rw[hbefore j (mi hslot hlt hoj ho (by simp[lT,hd,hr]))];simp[hlt]
   .rw[hli];simp
   .rw[hafter j (mi hslot hgt ho hoj (by simp[lT,hd,hr]))]
    have:¬j<i:=by omega
    simp[this]
  have hagH:∀k∈f.K,(fK fs ops.size st (aQ listed)).h k=(run (fs.take i) st).h k:=by
   intro k hk;rw[ov fs st i (by omega),<-rf (n:=ops.size) (by omega)];refine PF (λj hj hw=>?_);obtain⟨fj,hfj,hd⟩:=hkj j k hw;rcases Tc j i with hlt|rfl|hgt
   .rw[hbefore j (nQ hkey hlt (haccat j fj hfj) (haccat i f hf) ⟨k,.inl ⟨hd,hk⟩⟩)];simp[hlt]
   .rw[hli];simp
   .rw[hafter j (nQ hkey hgt (haccat i f hf) (haccat j fj hfj) ⟨k,.inr ⟨hd,hk⟩⟩)]
    have:¬j<i:=by omega
    simp[this]
  have hWK:∀k,k∈f.W.map (·.1)->k∈f.K:=by
   intro k hk;obtain⟨kb,hkb,rfl⟩:=KB.1 hk;rcases hcase with⟨_,_,_,hall⟩|⟨_,_,hW,_⟩
   .have:=Ij.1 hall kb hkb;simpa using this
   .rw[hW]at hkb;cases hkb
  have mI:fK fs ops.size st (aQ (listed.setIfInBounds i true))=(fK fs ops.size st (aQ listed)).put f.d f.v f.W:=by
   have hls:∀j,j<ops.size->aQ (listed.setIfInBounds i true) j=(aQ listed j||j==i):=by
    intro j hj;unfold aQ;by_cases e:j=i
    .subst e;simp[IV,hsz,hj]
    .have h1:(j==i)=false:=by simpa using e
     rw[h1,Bool.or_false,IV,IV,NE (by omega)]
   have h1:(fK fs ops.size st (aQ (listed.setIfInBounds i true))).t=((fK fs ops.size st (aQ listed)).put f.d f.v f.W).t:=by
    funext r
    show jd ops.size (sR fs r) (st.t r) (aQ (listed.setIfInBounds i true))=_;rw[PF (λj hj _=>hls j hj),pW hin ?_]
    .have hw:sR fs r i=if f.d=some r then some f.v else none:=by simp[sR,hf]
     rw[hw]
     cases hd:f.d with
     |none=>simp[St.put,fK]
     |some d=>
      simp only[St.put,ai,IL];by_cases e:d=r
      .subst e;simp
      .rw[Ik e,Ik (λh=>e h.symm)];rfl
    .intro hwi j hij hj hwj
     obtain⟨oi,fi,hoi,hfi,hdi⟩:=hdj i r hwi;obtain⟨oj,fj,hoj,hfj,hd⟩:=hdj j r hwj;rw[ho]at hoi;injection hoi with hoi;subst hoi;exact hafter j (mi hslot hij ho hoj (by simp[lT,hdi,hd]))
   have h2:(fK fs ops.size st (aQ (listed.setIfInBounds i true))).h=((fK fs ops.size st (aQ listed)).put f.d f.v f.W).h:=by
    funext k
    show jd ops.size (sS fs k) (st.h k) (aQ (listed.setIfInBounds i true))=_;rw[PF (λj hj _=>hls j hj),pW hin ?_]
    .have hw:sS fs k i=jG f.W k:=by simp[sS,hf]
     rw[hw];simp only[St.put];exact(pX k f.W (fK fs ops.size st (aQ listed)).h).symm
    .intro hwi j hij hj hwj
     obtain⟨fi,hfi,hdi⟩:=hkj i k hwi;obtain⟨fj,hfj,hd⟩:=hkj j k hwj;rw[hf]at hfi;injection hfi with hfi;subst hfi;exact hafter j (nQ hkey hij (haccat i f hf) (haccat j fj hfj) ⟨k,.inr ⟨hd,hWK k hdi⟩⟩)
   cases hA:fK fs ops.size st (aQ (listed.setIfInBounds i true));cases hB:(fK fs ops.size st (aQ listed)).put f.d f.v f.W;rw[hA,hB]at h1 h2;simp at h1 h2;rw[h1,h2]
  have hnext:∀a' w',wk C ds ((fK fs ops.size st (aQ listed)).put f.d f.v f.W) a' w'->wpAny C.P .any ops Q' fuel (listed.setIfInBounds i true) a' w':=by
   intro a' w' hs';refine ih (listed.setIfInBounds i true) a' w' (by simp[hsz]) ?_ ?_ (by rw[mI];exact hs')
   .have hle:((List.range ops.size).filter λj=>!aQ (listed.setIfInBounds i true) j).length<((List.range ops.size).filter λj=>!aQ listed j).length:=by
     have heq:((List.range ops.size).filter λj=>!aQ (listed.setIfInBounds i true) j)=((List.range ops.size).filter λj=>!aQ listed j).filter λj=>!(j==i):=by
      rw[List.filter_filter];refine List.filter_congr (λj hj=>?_);have hj':=Mx.1 hj;unfold aQ;by_cases e:j=i
      .subst e;simp[IV,hsz,hj']
      .have h1:(j==i)=false:=by simpa using e
       rw[h1,IV,IV,NE (by omega)];simp
     rw[heq];refine List.length_filter_lt_length_iff_exists.2 ⟨i,Ol.2 ⟨Mx.2 hin,by simp[hli]⟩,by simp⟩
    omega
   .intro q j hd hj
    have hset:∀m,aQ (listed.setIfInBounds i true) m=true↔(aQ listed m=true∨m=i):=by
     intro m;unfold aQ;by_cases e:m=i
     .subst e;simp[IV,hsz,hin]
     .rw[IV,IV,NE (by omega)];simp[e]
    rw[hset]at hj|-;rcases hj with hj|rfl
    .exact .inl (hcl q j hd hj)
    .exact .inl (hbefore q (.one hd))
  obtain⟨L,hm,hN,hdf,ht⟩:=hsim
  have hgd:gb ops (fK fs ops.size st (aQ listed)).t o.guard=gb ops (run (fs.take i) st).t o.guard:=by
   unfold gb;split
   .rfl
   .rename_i j want hg
    split
    .rename_i d hd
     rw[hagT d (by simp[qe,hg,hd])]
    .rfl
  unfold wpOp;rw[ho];simp only;rcases hcase with⟨hg,hK,hev,hallk⟩|⟨hg,hv,hW,_⟩
  .rw[eX ht (hgd.trans hg)]
   rw[IR rfl];refine .inl ?_
   have hops:∀x∈o.op.operands,(run (fs.take i) st).ev x=(fK fs ops.size st (aQ listed)).ev x:=by
    intro x hx
    cases x with
    |tmp t=>
     refine(hagT t ?_).symm;simp only[qe,De,JS,List.mem_filterMap];exact .inl ⟨.tmp t,by simpa using hx,rfl⟩
    |_=>rfl
   have hres:cK f.K (run (fs.take i) st).h=cK f.K (fK fs ops.size st (aQ listed)).h:=by
    funext k
    unfold cK;split
    .rename_i hk;exact(hagH k (by simpa using hk)).symm
    .rfl
   rw[hres]at hev;refine mh.congr hops hev C L _ w a rfl hm ?_ ?_ (λx _=>dx ht x) _ _ (λu w' L' hA hv=>?_)
   .intro k b hk;unfold cK at hk;split at hk
    .exact hk
    .cases hk
   .intro d hd
    unfold cK;rw[IR (hK d hd)];refine⟨rfl,?_⟩;have hd9:=hdst;rw[hd]at hd9;simp only[dD,An,HX]at hd9;exact hd9.2
   .refine hnext _ _ ?_
    rw[hfd];exact wk.put hm hN hdf ht hdst hA hv
  .rw[eX ht (hgd.trans hg)]
   simp only[IA,JE];refine hnext _ _ ?_;rw[hfd,hv,hW];exact wk.put hm hN hdf ht hdst (W:=[]) (aP.refl hm) (.pv (.val _))
variable {P:Program} {E:YEnv P} {Q:QY} {i:Nat} {s:Bool}
theorem cY.draw{id:Nat}{y:Code}(hmx:P.follows .mixedOrders=true)(hslot:kB ops=true)
 (h:lD P hn E.N ops (λacc st=>jV (UT ops.toList []) acc=true∧cY E C y Q st i s) ops.toList [] st):cY E C (.seq (.region id ops true) y) Q st i s:=by
 intro hP hN hS hJ n L a w hs hd;subst hP;rw[<-hN]at h;obtain⟨fs,h1,h2,h3,h4⟩:=ua h;refine wpIn_seq (wpIn_wide.2 ?_);refine wp_region_any hmx (Hk (ds:=[]) (fs:=fs) (st:=st) hslot (by rw[h1];simp) (λi o f ho hf=>h2 i o f (by simpa using ho) hf) (by simpa using h3) (λa w hs=>?_) _ _ _ _ (by simp) ?_ ?_ ?_)
 .obtain⟨L',hm',hN',hdd,ht'⟩:=hs
  exact h4 rfl hN hS hJ n L' a w ⟨hm',hN',ht'⟩ hdd
 .refine SN (VG _ _) (by simp)
 .intro i j hd hj
  have hjn:j<ops.size:=by obtain⟨o,ho,_⟩:=hd;exact(LU.1 ho).1
  unfold aQ at hj;rw[IV,Un,IR hjn]at hj;cases hj
 .have:fK fs ops.size st (aQ (Array.replicate ops.size false))=st:=by
   have hf:∀j,j<ops.size->aQ (Array.replicate ops.size false) j=false:=by
    intro j hj;unfold aQ;rw[IV,Un,IR hj];rfl
   have hz:∀{V:Type}(wr:Nat->Option V)(x0:V),jd ops.size wr x0 (aQ (Array.replicate ops.size false))=x0:=by
    intro V wr x0;rw[PF (ls':=λ_=>false) (λj hj _=>hf j hj)]
    have:∀n,jd n wr x0 (λ_=>false)=x0:=by
     intro n;induction n with
     |zero=>rfl
     |succ n ih=>rw[kL];simp[ih]
    exact this _
   cases st;unfold fK;simp[hz]
  rw[this];have hg:=hs.1.grow (Ext.drew (λ_=>False) w);exact⟨L,hg.1,hs.2.1,hd,λn=>(hs.2.2 n).mono hg.2 (KC.refl _ _)⟩
end
open Go.Proofs
abbrev sr(a:List ax)(ra:Int)(b:List ax)(rb:Int)(hints:List Vc):List PV:=[.rptr (aL a) 0,.rptr (aL b) 0,.rptr (Z ra) 0,.rptr (Z rb) 0,.rptr (aU hints) 0]
theorem Ru(a:List ax)(ra:Int)(b:List ax)(rb:Int)(hints:List Vc):ab Tryz.prog 147 [.pv (aL a),.pv (Z ra),.pv (aL b),.pv (Z rb),.pv (aU hints)] [] [] (.pv (.fn (.func 196) [] (sr a ra b rb hints))):=by
 refine Dp Tryz.func147 ?_;intro C hP hN;simp only[Tryz.f147]at hN|-;exact Gy
def vw(a:List ax)(ra:Int)(b:List ax)(rb:Int):Bool:=aB a&&aB b&&bA ra 0 1048576&&bA rb 0 1048576
def nj(a:List ax)(ra:Int)(b:List ax)(rb:Int):Vc:=(jI (aD a) (aD b) (ra+rb) 64).2.n
def nk(a:List ax)(ra:Int)(b:List ax)(rb:Int)(hints:List Vc):List Vc:=
 if vw a ra b rb then hints.filter aW++((if mu a b then[k9 a b]else[])++(k8++(if aW (nj a ra b rb)then[nj a ra b rb]else[])))else[]
theorem EU{α:Type}{p:α->Bool}{l:List α}{k:Nat}{v:α}(hv:l[k]?=some v):(l.filter p)=(l.take k).filter p++(if p v then[v]else[])++(l.drop (k+1)).filter p:=by
 obtain⟨h,hv⟩:=th.1 hv
 have e:l=l.take k++v::l.drop (k+1):=by rw[<-hv,PZ];exact(NI k l).symm
 conv=>lhs;rw[e]
 rw[SO,List.filter_cons];split<;>simp
structure CandT(l:Nat)(a:List ax)(ra:Int)(b:List ax)(rb:Int)(hints:List Vc)(t:Nat->AV):Prop where
 g0:t 0=.pv (.val (.func (.yield l) #[] #[]))
 g1:t 1=.pv (.rptr (aL a) 0)
 g2:t 2=.pv (.rptr (aL b) 0)
 g3:t 3=.pv (.rptr (Z ra) 0)
 g4:t 4=.pv (.rptr (Z rb) 0)
 g5:t 5=.pv (.rptr (aU hints) 0)
def AJ{P:Program}(E:YEnv P)(a:List ax)(ra:Int)(b:List ax)(rb:Int)(hints:List Vc)(n:Nat):QY:=λe t i s=>match e with
 |.normal=>s=false∧i=n∧CandT E.l a ra b rb hints t
 |.ret=>s=true∧i<E.xs.length
 |_=>False
theorem Rv(a:List ax)(ra:Int)(b:List ax)(rb:Int)(hints:List Vc)(ha:a.length<=9223372036854775807)(hb:b.length<=9223372036854775807)(hl:hints.length<=9223372036854775807):Ct Tryz.prog 196 (sr a ra b rb hints) ((nk a ra b rb hints).map au):=by
 refine I6 (c:=(Tryz.f196.body).getD .skip) Tryz.func196 rfl (by kernel_rfl) rfl (by simp[Tryz.f196]) ?_;intro E hEN hxs;simp only[Tryz.f196,JX]at hEN|-;rw[<-hxs];have hG:CandT E.l a ra b rb hints (tI E.l (sr a ra b rb hints)):=⟨rfl,rfl,rfl,rfl,rfl,rfl⟩;generalize tI E.l (sr a ra b rb hints)=t at *;obtain⟨g0,g1,g2,g3,g4,g5⟩:=hG;have hF:=gZ;have ca:=vJ a ha;have cb:=vJ b hb;have cra:=Oa ra;have crb:=Oa rb
 have hcl:nk a ra b rb hints=if vw a ra b rb then hints.filter aW++((if mu a b then[k9 a b]else[])++(k8++(if aW (nj a ra b rb)then[nj a ra b rb]else[])))else[]:=rfl
 have hcb:vw a ra b rb=(aB a&&aB b&&bA ra 0 1048576&&bA rb 0 1048576):=rfl
 cases hok:vw a ra b rb with
 |false=>
  rw[hok]at hcl hcb;simp only[IA,JE]at hcl
  have hx0:E.xs.length=0:=by rw[hxs,hcl];rfl
  refine cE.seq ?_;refine cE.walk λC hP hN=>?_;rw[hEN]at hN;cases hpa:aB a
  .rw[hpa]at ca
   refine GV (gA g0 (gA g1 (gA g2 (gA g3 (gA g4 g5))))) ?_
   all_goals exact⟨.inr rfl,by simp[hx0]⟩
  rw[hpa]at ca hcb;cases hpb:aB b
  .rw[hpb]at cb
   refine GV (gA g0 (gA g1 (gA g2 (gA g3 (gA g4 g5))))) ?_
   all_goals exact⟨.inr rfl,by simp[hx0]⟩
  rw[hpb]at cb hcb;cases hra:bA ra 0 1048576
  .rw[hra]at cra
   refine GV (gA g0 (gA g1 (gA g2 (gA g3 (gA g4 g5))))) ?_
   all_goals exact⟨.inr rfl,by simp[hx0]⟩
  rw[hra]at cra hcb
  have hrb:bA rb 0 1048576=false:=by simpa using hcb.symm
  rw[hrb]at crb;refine GV (gA g0 (gA g1 (gA g2 (gA g3 (gA g4 g5))))) ?_
  all_goals exact⟨.inr rfl,by simp[hx0]⟩
 |true=>
 have hk:=hok;rw[hcb]at hk;simp only[An]at hk;obtain⟨⟨⟨hpa,hpb⟩,hra⟩,hrb⟩:=hk;rw[hpa]at ca;rw[hpb]at cb;rw[hra]at cra;rw[hrb]at crb;rw[hok]at hcl;simp only[J4]at hcl;rw[hcl]at hxs;clear hcl hcb;refine cE.seq (cE.mono (Q:=AJ E a ra b rb hints 0) ?_ ?_)
 .refine cE.walk λC hP hN=>?_
  rw[hEN]at hN;refine GV (gA g0 (gA g1 (gA g2 (gA g3 (gA g4 g5))))) ?_
  all_goals exact⟨rfl,rfl,by constructor<;>simp[bV,ai,g0,g1,g2,g3,g4,g5]⟩
 clear g0 g1 g2 g3 g4 g5;rintro e t i s h
 cases e with
 |ret=>exact⟨.inr rfl,by obtain⟨rfl,h⟩:=h;exact h⟩
 |normal=>
  obtain⟨rfl,rfl,hG⟩:=h;show cE E _ _ _ _ _;refine cE.seq (cE.mono (Q:=AJ E a ra b rb hints (hints.filter aW).length) ?_ ?_)
  .obtain⟨g0,g1,g2,g3,g4,g5⟩:=hG
   refine cE.seq ?_;refine cE.walk λC hP hN=>?_;rw[hEN]at hN;refine GV (gA g0 (gA g1 (gA g2 (gA g3 (gA g4 g5))))) ?_;show cE E _ _ _ _ _;refine cE.block ?_;refine cE.loopN hints.length (λk t i s=>s=false∧i=((hints.take k).filter aW).length∧CandT E.l a ra b rb hints t∧t 32=.pv (aU hints)∧t 33=.pv (Z hints.length)∧t 34=.pv (Z k)) ?_ ?_
   .refine⟨rfl,rfl,?_,?_⟩
    .constructor<;>simp[bV,ai,g0,g1,g2,g3,g4,g5]
    .simp[bV,ai]
   clear g0 g1 g2 g3 g4 g5;rintro k t i s hk ⟨rfl,rfl,⟨g0,g1,g2,g3,g4,g5⟩,g32,g33,g34⟩;refine cE.blocks λC hP hN=>?_;rw[hEN]at hN;by_cases hlt:k<hints.length
   .have hwr:=al hlt hl
    generalize hxe:hints[k]=v at *
    have hx:hints[k]?=some v:=by rw[an hlt,hxe]
    have cu:=Ek v;have hft:=EU (p:=aW) hx
    have htk:hints.take (k+1)=hints.take k++[v]:=by rw[U5,hx];rfl
    refine cY.seq ?_;refine GV (gA g0 (gA g1 (gA g2 (gA g3 (gA g4 (gA g5 (gA g32 (gA g33 (gA g34 hlt))))))))) ?_;show cY E C _ _ _ _ _;refine cY.seq ?_;refine GV (gA g0 (gA g1 (gA g2 (gA g3 (gA g4 (gA g5 (gA g32 (gA g33 (gA g34 hlt))))))))) ?_;refine ag.skip ?_;show cY E C _ _ _ _ _;refine cY.seqY (cY.block ?_);refine cY.seq ?_;refine GV (gA g0 (gA g1 (gA g2 (gA g3 (gA g4 (gA g5 (gA g32 (gA g33 (gA g34 (gA hlt (gA hx hxe))))))))))) ?_;show cY E C _ _ _ _ _
    cases hu:aW v with
    |true=>
     rw[hu]at cu
     have hi:E.xs[((hints.take k).filter aW).length]?=some (au v):=by
      rw[hxs,hft,hu];simp
     refine cY.seqY (cY.yield (hn:=[]) (d:=43) (f:=41) (x:=42) (pre:=[_,_,_,_,_]) (post:=[_,_]) rfl (by kernel_rfl) rfl rfl rfl rfl (by rw[hEN];decide) ?_);rw[hEN];simp -implicitDefEqProofs (maxSteps:=2000000) [g0,g1,g2,g3,g4,g5,g32,g33,g34,hlt,hx,hxe];refine bS cu ?_;simp -implicitDefEqProofs (maxSteps:=2000000) [g0,g1,g2,g3,g4,g5,g32,g33,g34,hlt,hx,hxe,bV];refine⟨by simp[gb,bV,ai],hi,?_,?_⟩
     .show cE E _ _ _ _ _
      refine cE.cond (b:=true) (by simp[bV,ai]) (λ_=>cE.ret ?_) (λh=>by cases h);exact⟨rfl,(th.1 hi).1⟩
     .show cE E _ _ _ _ _
      refine cE.cond (b:=false) (by simp[bV,ai]) (λh=>by cases h) (λ_=>cE.skip ?_);show cE E _ _ _ _ _;clear hP hN;refine cE.walk λC hP hN=>?_;rw[hEN]at hN
      repeat' (first
       |with_reducible refine ag.seq ?_
       |(with_reducible ((first|refine ag.region hF (hn:=[]) (by kernel_rfl) ?_|refine ag.cond' ?_);simp -implicitDefEqProofs (maxSteps:=2000000) [hP,hN,g0,g1,g2,g3,g4,g5,g32,g33,g34,hlt,hx,hxe,hwr,bV]))
       |(with_reducible refine bB (by simp[g0,g1,g2,g3,g4,g5,g32,g33,g34,hlt,hx,hxe,hwr,bV]) (λhgd=>?_) (λhgd=>?_)<;>first|(exfalso;simp at hgd;done)|(exfalso;simp at hgd;omega)|simp -implicitDefEqProofs (maxSteps:=2000000) [hP,hN,g0,g1,g2,g3,g4,g5,g32,g33,g34,hlt,hx,hxe,hwr,bV])
       |with_reducible refine aV ?_ ?_
       |(with_reducible refine aI (λhcd=>?_) (λhcd=>?_)<;>(try (exfalso;clear hP hN;simp_all;done))<;>(try (exfalso;simp at *;omega)))
       |with_reducible refine ag.block ?_
       |(with_reducible ((first|refine ag.skip ?_|refine ag.exit ?_|refine ag.ret ?_);simp[g0,g1,g2,g3,g4,g5,g32,g33,g34,hlt,hx,hxe,hwr,bV])))
      repeat' (refine And.intro ?_ ?_)
      all_goals first|rfl|(rw[htk,SO];simp[hu];done)|(simp[hu,htk,bV,ai,g32,g33,hwr];done)|(constructor<;>simp[bV,ai,g0,g1,g2,g3,g4,g5])
    |false=>
     rw[hu]at cu;refine cY.walk ?_;refine GV (gA g0 (gA g1 (gA g2 (gA g3 (gA g4 (gA g5 (gA g32 (gA g33 (gA g34 (gA hlt (gA hx hxe))))))))))) ?_;show cE E _ _ _ _ _;clear hP hN;refine cE.walk λC hP hN=>?_;rw[hEN]at hN
     repeat' (first
      |with_reducible refine ag.seq ?_
      |(with_reducible ((first|refine ag.region hF (hn:=[]) (by kernel_rfl) ?_|refine ag.cond' ?_);simp -implicitDefEqProofs (maxSteps:=2000000) [hP,hN,g0,g1,g2,g3,g4,g5,g32,g33,g34,hlt,hx,hxe,hwr,bV]))
      |(with_reducible refine bB (by simp[g0,g1,g2,g3,g4,g5,g32,g33,g34,hlt,hx,hxe,hwr,bV]) (λhgd=>?_) (λhgd=>?_)<;>first|(exfalso;simp at hgd;done)|(exfalso;simp at hgd;omega)|simp -implicitDefEqProofs (maxSteps:=2000000) [hP,hN,g0,g1,g2,g3,g4,g5,g32,g33,g34,hlt,hx,hxe,hwr,bV])
      |with_reducible refine aV ?_ ?_
      |(with_reducible refine aI (λhcd=>?_) (λhcd=>?_)<;>(try (exfalso;clear hP hN;simp_all;done))<;>(try (exfalso;simp at *;omega)))
      |with_reducible refine ag.block ?_
      |(with_reducible ((first|refine ag.skip ?_|refine ag.exit ?_|refine ag.ret ?_);simp[g0,g1,g2,g3,g4,g5,g32,g33,g34,hlt,hx,hxe,hwr,bV])))
     repeat' (refine And.intro ?_ ?_)
     all_goals first|rfl|(rw[htk,SO];simp[hu];done)|(simp[hu,htk,bV,ai,g32,g33,hwr];done)|(constructor<;>simp[bV,ai,g0,g1,g2,g3,g4,g5])
   .have hin:k=hints.length:=by omega
    subst hin;refine cY.walk ?_;refine GV (gA g0 (gA g1 (gA g2 (gA g3 (gA g4 (gA g5 (gA g32 (gA g33 g34)))))))) ?_;exact⟨rfl,rfl,by constructor<;>simp[bV,ai,g0,g1,g2,g3,g4,g5]⟩
  clear hG;rintro e t i s h
  cases e with
  |ret=>exact⟨.inr rfl,by obtain⟨rfl,h⟩:=h;exact h⟩
  |normal=>
   obtain⟨rfl,rfl,hG⟩:=h;show cE E _ _ _ _ _;generalize hn1:(hints.filter aW).length=n1 at *;refine cE.seq (cE.mono (Q:=AJ E a ra b rb hints (n1+(if mu a b then[k9 a b]else[]).length)) ?_ ?_)
   .obtain⟨g0,g1,g2,g3,g4,g5⟩:=hG
    refine cE.blocks λC hP hN=>?_;rw[hEN]at hN;have cm:=Rt a b ha hb;refine cY.seq ?_
    cases hmb:mu a b with
    |false=>
     rw[hmb]at cm;refine GV (gA g0 (gA g1 (gA g2 (gA g3 (gA g4 g5))))) ?_;show cY E C _ _ _ _ _;refine cY.walk ?_;refine GV (gA g0 (gA g1 (gA g2 (gA g3 (gA g4 g5))))) ?_;exact⟨rfl,by simp,by constructor<;>simp[bV,ai,g0,g1,g2,g3,g4,g5]⟩
    |true=>
     rw[hmb]at cm
     have hi:E.xs[n1]?=some (au (k9 a b)):=by rw[hxs,hmb,<-hn1];simp
     generalize k9 a b=v at *;refine GV (gA g0 (gA g1 (gA g2 (gA g3 (gA g4 g5))))) ?_;show cY E C _ _ _ _ _;refine cY.seqY (cY.yield (hn:=[]) (d:=57) (f:=55) (x:=56) (pre:=[_,_,_,_]) (post:=[_,_]) rfl (by kernel_rfl) rfl rfl rfl rfl (by rw[hEN];decide) ?_);rw[hEN];simp -implicitDefEqProofs (maxSteps:=2000000) [g0,g1,g2,g3,g4,g5,bV];refine⟨by simp[gb,bV,ai],hi,?_,?_⟩
     .show cE E _ _ _ _ _
      refine cE.cond (b:=true) (by simp[bV,ai]) (λ_=>cE.ret ?_) (λh=>by cases h);exact⟨rfl,(th.1 hi).1⟩
     .show cE E _ _ _ _ _
      refine cE.cond (b:=false) (by simp[bV,ai]) (λh=>by cases h) (λ_=>cE.skip ?_);exact⟨rfl,rfl,by constructor<;>simp[bV,ai,g0,g1,g2,g3,g4,g5]⟩
   clear hG;rintro e t i s h
   cases e with
   |ret=>exact⟨.inr rfl,by obtain⟨rfl,h⟩:=h;exact h⟩
   |normal=>
    obtain⟨rfl,rfl,hG⟩:=h;show cE E _ _ _ _ _;generalize hml:(if mu a b then[k9 a b]else[])=ml at *;generalize hn2:n1+ml.length=n2 at *;refine cE.seq (cE.mono (Q:=AJ E a ra b rb hints (n2+6)) ?_ ?_)
    .obtain⟨g0,g1,g2,g3,g4,g5⟩:=hG
     have cax:=Rs;refine cE.seq ?_;refine cE.walk λC hP hN=>?_;rw[hEN]at hN;refine GV (gA g0 (gA g1 (gA g2 (gA g3 (gA g4 g5))))) ?_;show cE E _ _ _ _ _;refine cE.block ?_;refine cE.loopN 6 (λk t i s=>s=false∧i=n2+k∧CandT E.l a ra b rb hints t∧t 60=.pv (aU k8)∧t 61=.pv (Z 6)∧t 62=.pv (Z k)) ?_ ?_
     .refine⟨rfl,rfl,?_,?_⟩
      .constructor<;>simp[bV,ai,g0,g1,g2,g3,g4,g5]
      .simp[bV,ai]
     clear g0 g1 g2 g3 g4 g5;rintro k t i s hk ⟨rfl,rfl,⟨g0,g1,g2,g3,g4,g5⟩,g60,g61,g62⟩;refine cE.blocks λC hP hN=>?_;rw[hEN]at hN;by_cases hlt:k<6
     .have hwr:IntKind.i64.wrap ((k:Int)+1)=(k:Int)+1:=aa
      have hltI:(k:Int)<6:=by omega
      have hltL:k<k8.length:=hlt;generalize hxe:k8[k]=v at *
      have hx:k8[k]?=some v:=by rw[an hltL,hxe]
      have hi:E.xs[n2+k]?=some (au v):=by
       rw[hxs,<-hn2,<-hn1,Is,IN (by omega),IN (by omega),show(hints.filter aW).length+ml.length+k-(hints.filter aW).length-ml.length=k by omega,Iz hltL,hx];rfl
      generalize k8=AX at *;refine cY.seq ?_;refine GV (gA g0 (gA g1 (gA g2 (gA g3 (gA g4 (gA g5 (gA g60 (gA g61 (gA g62 (gA hlt hltI)))))))))) ?_;show cY E C _ _ _ _ _;refine cY.seq ?_;refine GV (gA g0 (gA g1 (gA g2 (gA g3 (gA g4 (gA g5 (gA g60 (gA g61 (gA g62 (gA hlt hltI)))))))))) ?_;refine ag.skip ?_;show cY E C _ _ _ _ _;refine cY.seqY (cY.block ?_);refine cY.seq ?_;refine GV (gA g0 (gA g1 (gA g2 (gA g3 (gA g4 (gA g5 (gA g60 (gA g61 (gA g62 (gA hlt (gA hltI (gA hltL (gA hx hxe))))))))))))) ?_;show cY E C _ _ _ _ _;refine cY.seqY (cY.yield (hn:=[]) (d:=68) (f:=66) (x:=67) (pre:=[_,_]) (post:=[_]) rfl (by kernel_rfl) rfl rfl rfl rfl (by rw[hEN];decide) ?_);rw[hEN];simp -implicitDefEqProofs (maxSteps:=2000000) [g0,g1,g2,g3,g4,g5,g60,g61,g62,hltL,hx,hxe,bV];refine⟨by simp[gb,bV,ai],hi,?_,?_⟩
      .show cE E _ _ _ _ _
       refine cE.cond (b:=true) (by simp[bV,ai]) (λ_=>cE.ret ?_) (λh=>by cases h);exact⟨rfl,(th.1 hi).1⟩
      .show cE E _ _ _ _ _
       refine cE.cond (b:=false) (by simp[bV,ai]) (λh=>by cases h) (λ_=>cE.skip ?_);show cE E _ _ _ _ _;clear hP hN;refine cE.walk λC hP hN=>?_;rw[hEN]at hN
       repeat' (first
        |with_reducible refine ag.seq ?_
        |(with_reducible ((first|refine ag.region hF (hn:=[]) (by kernel_rfl) ?_|refine ag.cond' ?_);simp -implicitDefEqProofs (maxSteps:=2000000) [hP,hN,g0,g1,g2,g3,g4,g5,g60,g61,g62,hwr,bV]))
        |(with_reducible refine bB (by simp[g0,g1,g2,g3,g4,g5,g60,g61,g62,hwr,bV]) (λhgd=>?_) (λhgd=>?_)<;>first|(exfalso;simp at hgd;done)|(exfalso;simp at hgd;omega)|simp -implicitDefEqProofs (maxSteps:=2000000) [hP,hN,g0,g1,g2,g3,g4,g5,g60,g61,g62,hwr,bV])
        |with_reducible refine aV ?_ ?_
        |(with_reducible refine aI (λhcd=>?_) (λhcd=>?_)<;>(try (exfalso;clear hP hN;simp_all;done))<;>(try (exfalso;simp at *;omega)))
        |with_reducible refine ag.block ?_
        |(with_reducible ((first|refine ag.skip ?_|refine ag.exit ?_|refine ag.ret ?_);simp[g0,g1,g2,g3,g4,g5,g60,g61,g62,hwr,bV])))
       repeat' (refine And.intro ?_ ?_)
       all_goals first|rfl|(simp[bV,ai,g60,g61,hwr];done)|(constructor<;>simp[bV,ai,g0,g1,g2,g3,g4,g5])
     .have hin:k=6:=by omega
      subst hin;refine cY.walk ?_;refine GV (gA g0 (gA g1 (gA g2 (gA g3 (gA g4 (gA g5 (gA g60 (gA g61 g62)))))))) ?_;exact⟨rfl,rfl,by constructor<;>simp[bV,ai,g0,g1,g2,g3,g4,g5]⟩
    clear hG;rintro e t i s h
    cases e with
    |ret=>exact⟨.inr rfl,by obtain⟨rfl,h⟩:=h;exact h⟩
    |normal=>
     obtain⟨rfl,rfl,⟨g0,g1,g2,g3,g4,g5⟩⟩:=h;show cE E _ _ _ _ _;refine cE.blocks λC hP hN=>?_;rw[hEN]at hN;have c1:=FS a ha;have c2:=FS b hb;have hla:=(cL hpa).2.1;have hlb:=(cL hpb).2.1;have hca:=gH hpa;have hcb:=gH hpb;simp only[bA,An,HX]at hra hrb;have hw:IntKind.i64.wrap (ra+rb)=ra+rb:=aa;have c3:=Qc (aD a) (aD b) (ra+rb) 64 (by omega) (by omega);have hnn:(jI (aD a) (aD b) (ra+rb) 64).2.n=nj a ra b rb:=rfl;generalize jI (aD a) (aD b) (ra+rb) 64=R at *;rw[<-hnn]at hxs;refine cY.draw (hn:=[]) (by kernel_rfl) (by kernel_rfl) ?_;rw[hEN];simp -implicitDefEqProofs (maxSteps:=2000000) [g0,g1,g2,g3,g4,g5];refine uW c1 ?_;simp -implicitDefEqProofs (maxSteps:=2000000) [g0,g1,g2,g3,g4,g5];refine uW c2 ?_;simp -implicitDefEqProofs (maxSteps:=2000000) [g0,g1,g2,g3,g4,g5,hw];refine uW c3 ?_;simp -implicitDefEqProofs (maxSteps:=2000000) [g0,g1,g2,g3,g4,g5,hw];refine⟨by kernel_rfl,?_⟩;have cu:=Ek R.2.n;refine cY.seq ?_
     cases hu:aW R.2.n with
     |false=>
      rw[hu]at cu
      have hL:n2+6=E.xs.length:=by
       rw[hxs,hu,Lf,Kk,Kk,Kk,hn1];simp only[IA,JE,Rq,Up];omega
      refine GV (gA g0 (gA g1 (gA g2 (gA g3 (gA g4 g5))))) ?_;show cY E C _ _ _ _ _;refine cY.walk ?_;refine GV (gA g0 (gA g1 (gA g2 (gA g3 (gA g4 g5))))) ?_
      all_goals exact hL
     |true=>
      rw[hu]at cu
      have hL:n2+6+1=E.xs.length:=by
       rw[hxs,hu,Lf,Kk,Kk,Kk,hn1];simp only[J4,Rq,Up];omega
      have hi:E.xs[n2+6]?=some (au R.2.n):=by
       rw[hxs,hu,<-hn2,<-hn1,Is,IN (by omega),IN (by omega),show(hints.filter aW).length+ml.length+6-(hints.filter aW).length-ml.length=6 by omega,IN (by decide)];rfl
      refine GV (gA g0 (gA g1 (gA g2 (gA g3 (gA g4 g5))))) ?_;show cY E C _ _ _ _ _;refine cY.cond (m:=81) (b:=true) (by simp) (λ_=>?_) (λh=>by cases h);refine cY.yield (hn:=[]) (d:=85) (f:=82) (x:=84) (pre:=[_,_,_]) (post:=[]) rfl (by kernel_rfl) rfl rfl rfl rfl (by rw[hEN];decide) ?_;rw[hEN];simp -implicitDefEqProofs (maxSteps:=2000000) [g0,g1,g2,g3,g4,g5,bV];exact⟨rfl,hi,by omega,hL⟩
    |_=>exact h.elim
   |_=>exact h.elim
  |_=>exact h.elim
 |_=>exact h.elim
set_option maxRecDepth 100000 in
theorem GO:xT Tryz.prog 146:=by
 refine⟨by kernel_rfl,λn args w=>?_⟩;refine callsDIn_of_wpSIn Tryz.func146 rfl trivial λc₀ cs hu=>?_;apply wpSIn_seq;apply wpSIn_region
 have hk:∀k,k<Tryz.f146.ntmps->k<args.size+(Tryz.f146.ntmps-args.size):=by intro k h;omega
 rw[Tryz.ntmps146]at hk;have h0:=hk 0 (by decide);have h1:=hk 1 (by decide);have h2:=hk 2 (by decide);have h3:=hk 3 (by decide);simp[wpOpsSIn,go_sem,recoverD,hu,Tryz.ntmps146,Exit.thenS,h0,h1,h2,h3];refine wpSIn_cond (t:=false) (by simp[Act.eval,h0,h1,h2,h3]) ?_;simp only[IA,JE];refine wpSIn_of_wpIn rfl (wpIn_skip ?_);cases c₀
 simp_all[bodyPostS,results,Tryz.results146]
def lc(a:List ax)(ra:Int)(b:List ax)(rb:Int)(hints:List Vc):Vc×Bool:=match(nk a ra b rb hints).find? (λn=>jM n a ra b rb)with
 |some n=>(n,true)
 |none=>((0,0,0),false)
theorem B6{α:Type}{p:α->Bool}{l:List α}(h:∀j x,j<l.length->l[j]?=some x->p x=false):l.find? p=none:=by
 rw[OJ];intro x hx;obtain⟨j,hj,rfl⟩:=PH.1 hx;rw[h j _ hj (an hj)];simp
theorem tu{α:Type}{p:α->Bool}:∀{l:List α}{i:Nat}{v:α},l[i]?=some v->p v=true->(∀j x,j<i->l[j]?=some x->p x=false)->l.find? p=some v
 |[],i,v,h,_,_=>by simp at h
 |y::l,0,v,h,hp,_=>by simp at h;subst h;simp[hp]
 |y::l,i+1,v,h,hp,hq=>by
  have h0:=hq 0 y (by omega) rfl;rw[List.find?_cons,h0];exact tu (by simpa using h) hp λj x hj hx=>hq (j+1) x (by omega) (by simpa using hx)
abbrev GP:List Nat:=[5,6,7,8,10,11]
abbrev Ps(a:List ax)(ra:Int)(b:List ax)(rb:Int):Nat->List PV:=λk=>if k=5 then[aL a]else if k=6 then[Z ra]else if k=7 then[aL b]else if k=8 then[Z rb]else if k=10 then[Z 0,Z 0,Z 0]else[B false]
structure FindI(a:List ax)(ra:Int)(b:List ax)(rb:Int)(n:Vc)(k:Bool)(h:Hp):Prop where
 h5:h 5=some (.box [.pv (aL a)] false false)
 h6:h 6=some (.box [.pv (Z ra)] false false)
 h7:h 7=some (.box [.pv (aL b)] false false)
 h8:h 8=some (.box [.pv (Z rb)] false false)
 h10:h 10=some (.box [.pv (Z n.1),.pv (Z n.2.1),.pv (Z n.2.2)] false false)
 h11:h 11=some (.box [.pv (B k)] false false)
theorem FindI.all{a:List ax}{ra:Int}{b:List ax}{rb:Int}{n:Vc}{k:Bool}{h:Hp}(H:FindI a ra b rb n k h){j:Nat}(hj:j∈GP):∃cs,h j=some (.box cs false false):=by
 simp only[KM,LF,NH]at hj;rcases hj with rfl|rfl|rfl|rfl|rfl|rfl
 .exact⟨_,H.h5⟩
 .exact⟨_,H.h6⟩
 .exact⟨_,H.h7⟩
 .exact⟨_,H.h8⟩
 .exact⟨_,H.h10⟩
 .exact⟨_,H.h11⟩
def Lp(a:List ax)(ra:Int)(b:List ax)(rb:Int)(CL:List Vc)(i:Nat):Prop:=∀j x,j<i->CL[j]?=some x->jM x a ra b rb=false
def Pt(a:List ax)(ra:Int)(b:List ax)(rb:Int)(CL:List Vc)(i:Nat)(h:Hp):Prop:=∃n,CL[i]?=some n∧jM n a ra b rb=true∧FindI a ra b rb n true h∧Lp a ra b rb CL i
set_option maxRecDepth 100000 in
theorem Uy(a:List ax)(ra:Int)(b:List ax)(rb:Int)(hints:List Vc)(ha:a.length<=9223372036854775807)(hb:b.length<=9223372036854775807)(hl:hints.length<=9223372036854775807):ab Tryz.prog 95 [.pv (aL a),.pv (Z ra),.pv (aL b),.pv (Z rb),.pv (aU hints)] [] [] (.pv (.tup [au (lc a ra b rb hints).1,B (lc a ra b rb hints).2])):=by
 have hfr:lc a ra b rb hints=match(nk a ra b rb hints).find? (λn=>jM n a ra b rb)with
  |some n=>(n,true)
  |none=>((0,0,0),false):=rfl
 have hit:=Rv a ra b rb hints ha hb hl;generalize nk a ra b rb hints=CL at *;refine Fe (args:=[aL a,Z ra,aL b,Z rb,aU hints]) Tryz.func95 rfl (by kernel_rfl) (by simp[Tryz.f95]) ?_;intro C hP hN hCS;simp only[Tryz.f95]at hN|-;have hF:=gZ;refine oV.seq hCS ?_;refine GV trivial ?_;refine oV.defer (pre:=[_]) (hn:=[]) (g:=146) rfl (λo ho c' hc'=>by simp at ho;subst ho;cases hc') rfl rfl rfl rfl rfl (by rw[hP];exact GO) ?_;simp -implicitDefEqProofs [hP,hN];refine oV.rangeS (kd:=[12]) hCS (gf:=196) (caps:=sr a ra b rb hints) (xs:=CL.map au) (by rw[hP];exact hit) (by rw[hN];decide) (ks:=GP) (hin:=Ps a ra b rb) (t:=λm=>if m∈GP then .ptr m 0 else .undef) ?_ (λi h=>FindI a ra b rb (0,0,0) false h∧h 12=none∧Lp a ra b rb CL i) (λi h=>Pt a ra b rb CL i h) ?_ ?_ ?_ ?_ (by kernel_rfl) (hn:=[]) ?_ ?_
 .skip
  have q1:=Ru a ra b rb hints;refine GV trivial ?_;refine⟨⟨rfl,rfl,rfl,rfl,rfl,rfl⟩,λm=>?_⟩;by_cases hm:m=5∨m=6∨m=7∨m=8∨m=10∨m=11
  .rcases hm with rfl|rfl|rfl|rfl|rfl|rfl<;>simp
  .simp only[Ik hm];simp
   omega
 .refine⟨by constructor<;>rfl,rfl,λj x hj=>by omega⟩
 .rintro i h k hk ⟨hi,_⟩
  exact hi.all hk
 .rintro i h k hk ⟨n,_,_,hi,_⟩
  exact hi.all hk
 .intro C1 C2 l i x h hP1 hN1 hP2 hN2 hx ⟨hI,q12,hq⟩
  rw[Is,Ii]at hx;obtain⟨v,hx,rfl⟩:=hx;have hF:=Aq l;have hP0:=hP;have hN0:=hN;clear hP hN;have hP:=hP1.trans hP0;have hN:=hN1.trans hN0;have hPb:=hP2.trans hP0;have hNb:=hN2.trans hN0;obtain⟨q5,q6,q7,q8,q10,q11⟩:=hI;have cs:=SF v a ra b rb ha hb
  cases hsp:jM v a ra b rb with
  |true=>
   rw[hsp]at cs
   repeat' (first
    |with_reducible refine ag.seq ?_
    |(with_reducible ((first|refine ag.region hF (hn:=[]) (by kernel_rfl) ?_|refine bS (cs) ?_|refine ag.cond' ?_);simp -implicitDefEqProofs (maxSteps:=2000000) [hP,hN,hPb,hNb,m9,q5,q6,q7,q8,q10,q11,q12]))
    |(with_reducible refine bB (by simp[hPb,hNb,m9,q5,q6,q7,q8,q10,q11,q12]) (λhgd=>?_) (λhgd=>?_)<;>first|(exfalso;simp at hgd;done)|(exfalso;simp at hgd;omega)|simp -implicitDefEqProofs (maxSteps:=2000000) [hP,hN,hPb,hNb,m9,q5,q6,q7,q8,q10,q11,q12])
    |with_reducible refine aV ?_ ?_
    |(with_reducible refine aI (λhcd=>?_) (λhcd=>?_)<;>(try (exfalso;clear hP hN;simp_all;done))<;>(try (exfalso;simp at *;omega)))
    |with_reducible refine ag.block ?_
    |(with_reducible ((first|refine ag.skip ?_|refine ag.exit ?_|refine ag.ret ?_);simp[hPb,hNb,m9,q5,q6,q7,q8,q10,q11,q12])))
   exact⟨v,hx,hsp,by constructor<;>simp[q5,q6,q7,q8,q10,q11],hq⟩
  |false=>
   rw[hsp]at cs
   repeat' (first
    |with_reducible refine ag.seq ?_
    |(with_reducible ((first|refine ag.region hF (hn:=[]) (by kernel_rfl) ?_|refine bS (cs) ?_|refine ag.cond' ?_);simp -implicitDefEqProofs (maxSteps:=2000000) [hP,hN,hPb,hNb,m9,q5,q6,q7,q8,q10,q11,q12]))
    |(with_reducible refine bB (by simp[hPb,hNb,m9,q5,q6,q7,q8,q10,q11,q12]) (λhgd=>?_) (λhgd=>?_)<;>first|(exfalso;simp at hgd;done)|(exfalso;simp at hgd;omega)|simp -implicitDefEqProofs (maxSteps:=2000000) [hP,hN,hPb,hNb,m9,q5,q6,q7,q8,q10,q11,q12])
    |with_reducible refine aV ?_ ?_
    |(with_reducible refine aI (λhcd=>?_) (λhcd=>?_)<;>(try (exfalso;clear hP hN;simp_all;done))<;>(try (exfalso;simp at *;omega)))
    |with_reducible refine ag.block ?_
    |(with_reducible ((first|refine ag.skip ?_|refine ag.exit ?_|refine ag.ret ?_);simp[hPb,hNb,m9,q5,q6,q7,q8,q10,q11,q12])))
   refine⟨by constructor<;>simp[St.kill,bQ,aC,q5,q6,q7,q8,q10,q11],by simp[St.kill],λj x hj hx'=>?_⟩;by_cases e:j=i
   .subst e;rw[hx]at hx';injection hx' with hx';subst hx';exact hsp
   .exact hq j x (by omega) hx'
 .rintro h ⟨⟨q5,q6,q7,q8,q10,q11⟩,q12,hq⟩
  rw[Lf]at hq;have hn:CL.find? (λn=>jM n a ra b rb)=none:=B6 hq;rw[hn]at hfr;rw[hfr];simp -implicitDefEqProofs [hP,hN,q5,q6,q7,q8,q10,q11]
 .rintro i h hi ⟨n,hn1,hn2,⟨q5,q6,q7,q8,q10,q11⟩,hq⟩
  rw[tu hn1 hn2 hq]at hfr;rw[hfr];simp -implicitDefEqProofs [hP,hN,q5,q6,q7,q8,q10,q11]
abbrev GQ(SH:List Sh)(PR:List (Nat×Nat))(PT:List (List ax)):PV:=.agg [.sl (SH.map cT),.sl (PR.map ru),.sl (PT.map aL)]
abbrev Pu(a b:List ax)(ra rb:Int):PV:=.agg [aL a,aL b,Z ra,Z rb]
def dT(PT:List (List ax))(i:Nat):List ax:=(PT[i]?).getD []
def dF(SH:List Sh)(i:Nat):Int:=((SH[i]?).map Sh.rad).getD 0
structure BdOk(SH:List Sh)(PR:List (Nat×Nat))(PT:List (List ax)):Prop where
 len:PT.length=SH.length
 prs:∀p∈PR,p.1<SH.length∧p.2<SH.length
 Ax:SH.length<=24
 few:PR.length<=576
 pts:∀l∈PT,l.length<=8
theorem Uz(SH:List Sh)(PR:List (Nat×Nat))(PT:List (List ax))(hb:BdOk SH PR PT)(k:Nat)(p:Nat×Nat)(hp:PR[k]?=some p):ab Tryz.prog 94 [.pv (GQ SH PR PT),.pv (Z k)] [] [] (.pv (Pu (dT PT p.1) (dT PT p.2) (dF SH p.1) (dF SH p.2))):=by
 obtain⟨hlt,hpe⟩:=th.1 hp;obtain⟨i,j⟩:=p;have hpr:=hb.prs _ (HW hp);simp only at hpr;have hl:=hb.len;have hxk:∀h,PR[k]'h=(i,j):=λ_=>hpe
 have i1:i<PT.length:=by omega
 have j1:j<PT.length:=by omega
 obtain⟨a,ha⟩:∃x,PT[i]?=some x:=⟨_,an i1⟩;obtain⟨b,hb'⟩:∃x,PT[j]?=some x:=⟨_,an j1⟩;obtain⟨u,hu⟩:∃x,SH[i]?=some x:=⟨_,an hpr.1⟩;obtain⟨v,hv⟩:∃x,SH[j]?=some x:=⟨_,an hpr.2⟩
 have hxa:∀h,PT[i]'h=a:=λh=>by rw[an h]at ha;exact ME ha
 have hxb:∀h,PT[j]'h=b:=λh=>by rw[an h]at hb';exact ME hb'
 have hxu:∀h,SH[i]'h=u:=λh=>by rw[an h]at hu;exact ME hu
 have hxv:∀h,SH[j]'h=v:=λh=>by rw[an h]at hv;exact ME hv
 have e1:dT PT i=a:=by simp[dT,ha]
 have e2:dT PT j=b:=by simp[dT,hb']
 have e3:dF SH i=u.rad:=by simp[dF,hu]
 have e4:dF SH j=v.rad:=by simp[dF,hv]
 rw[e1,e2,e3,e4];obtain⟨h1,h2⟩:=hpr;refine Dp Tryz.func94 ?_;intro C hP hN;simp only[Tryz.f94]at hN|-;exact Gy
def gx(s:Sce)(bx:List Iv):Bool:=decide (gv s=0)&&kG s.js bx
theorem GR{p:Nat×Nat}(h:p∈dL s):p.1<p.2∧p.2<s.shs.length∧gS s p.1 p.2=true:=by
 have hI:∀i k,k<=s.shs.length->p∈lI s i k->p.1<p.2∧p.2<s.shs.length∧gS s p.1 p.2=true:=by
  intro i k
  induction k with
  |zero=>intro _ h;cases h
  |succ k ih=>
   intro hk h;rw[lI,JS]at h;rcases h with h|h
   .exact ih (by omega) h
   .split at h
    .rename_i hc
     rw[LZ]at h;subst h;exact⟨hc.1,by omega,hc.2⟩
    .cases h
 have hN:∀i,p∈j8 s i->p.1<p.2∧p.2<s.shs.length∧gS s p.1 p.2=true:=by
  intro i
  induction i with
  |zero=>intro h;cases h
  |succ i ih=>
   intro h;rw[j8,JS]at h;rcases h with h|h
   .exact ih h
   .exact hI i _ (IX _) h
 unfold dL at h;split at h
 .exact hN _ h
 .cases h
theorem GU{bx:List Iv}(h:gx s bx=true):BdOk s.shs (dL s) (fX s bx):=by
 simp only[gx,An,HX]at h;obtain⟨v1,v2,v3,v4,v5,v6,v7⟩:=nZ h.1;have hl:=yh s s.shs.length;have hm:s.shs.length*s.shs.length<=24*24:=PG v4 v4;refine⟨by simp[fX],λp hp=>?_,v4,?_,λl hl=>?_⟩
 .have:=GR hp;omega
 .unfold dL;rw[IR h.1];omega
 .obtain⟨x,hx,rfl⟩:=KB.1 hl
  have:=(v6 x hx).2;simp only[gR,An,HX]at this;simp only[fc,Lf];omega
def Lq(bx:List Iv)(i:Nat):Prop:=∀k x,k<i->bx[k]?=some x->vI x=true
theorem UA(s:Sce)(bx:List Iv)(hs:ScL s)(hbl:bx.length<=9223372036854775807):ab Tryz.prog 93 [.pv (eT s),.pv (iv bx)] [] [] (.pv (.tup (if gx s bx then[GQ s.shs (dL s) (fX s bx),B true]else[GQ [] [] [],B false]))):=by
 have hd:gx s bx=(decide (gv s=0)&&(decide (bx.length=s.js.length)&&bx.all vI)):=rfl;have cc:=Eh s hs;have hjl:=hs.js;by_cases h0:gv s=0
 case neg=>
  have h0':(gv s !=0)=true:=by simp[h0]
  rw[Ok h0,Mi]at hd;rw[hd];refine Dp Tryz.func93 ?_;intro C hP hN;simp only[Tryz.f93]at hN|-;exact Gy
 have h0':(gv s !=0)=false:=by simp[h0]
 by_cases h1:bx.length=s.js.length
 case neg=>
  have h1':((bx.length:Int)!=(s.js.length:Int))=true:=by simp;omega
  have h1'':¬(bx.length:Int)=(s.js.length:Int):=by omega
  rw[Ok h1,Mi,PI]at hd;rw[hd];refine Dp Tryz.func93 ?_;intro C hP hN;simp only[Tryz.f93]at hN|-;exact Gy
 have h1':((bx.length:Int)!=(s.js.length:Int))=false:=by simp[h1]
 have hI:kG s.js bx=bx.all vI:=by
  show(decide (bx.length=s.js.length)&&bx.all vI)=_;rw[L4 h1,KA]
 rw[L4 h0,L4 h1,KA,KA]at hd;rw[hd];have cP:=Sk s bx hs h0;rw[hI]at cP;have cR:=Se s hs;generalize fX s bx=PT at *;generalize dL s=PR at *;refine Dp Tryz.func93 ?_;intro C hP hN;simp only[Tryz.f93]at hN|-;refine Gz ?_;refine WP.loopN [7] bx.length (λi st=>st.t 1=.pv (iv bx)∧st.t 2=.ptr 2 0∧st.h 2=some (.box [.pv (.sl (s.js.map bC)),.pv (.sl (s.ms.map IT)),.pv (.sl (s.shs.map cT)),.pv (.sl (s.sks.map aR))] true false)∧st.t 4=.ptr 4 0∧st.h 4=some (.box [.pv (.val (.slice none 0 0)),.pv (.val (.slice none 0 0)),.pv (.val (.slice none 0 0))] true false)∧st.t 21=.pv (iv bx)∧st.t 22=.pv (Z bx.length)∧st.t 23=.pv (Z i)∧st.h 7=none∧Lq bx i) ?_ ?_
 .simp[h1]
  exact λk x hk=>by omega
 rintro i st hi ⟨g1,g2,hb2,g4,hb4,g21,g22,g23,hb7,hq⟩;by_cases hlt:i<bx.length
 .have hwr:=al hlt hbl
  generalize hxe:bx[i]=v at *
  have hx:bx[i]?=some v:=by rw[an hlt,hxe]
  have cv:=kg v.1 v.2;have hvI:vI v=ay v.1 v.2:=rfl;have hst:=nJ (p:=vI) hx hq
  cases hvb:ay v.1 v.2 with
  |true=>
   rw[hvb]at cv;have hst':Lq bx (i+1):=hst hvb;refine GT (gA g1 (gA g2 (gA hb2 (gA g4 (gA hb4 (gA g21 (gA g22 (gA g23 (gA hb7 (gA hlt (gA hx (gA hxe hwr)))))))))))) ?_
   all_goals exact hst'
  |false=>
   rw[hvb]at cv
   have hall:bx.all vI=false:=by
    cases h:bx.all vI with
    |false=>rfl
    |true=>rw[Ij]at h;have:=h v (HW hx);rw[hvI,hvb]at this;cases this
   rw[hall];exact Gy
 .have hin:i=bx.length:=by omega
  subst hin;have hall:bx.all vI=true:=pI hq hlt;have cP:=cP hall;rw[hall];exact Gy
def J2(SH:List Sh)(PT:List (List ax))(n:Vc)(p:Nat×Nat):Bool:=jM n (dT PT p.1) (dF SH p.1) (dT PT p.2) (dF SH p.2)
def Pv(SH:List Sh)(PR:List (Nat×Nat))(PT:List (List ax))(ns:List Vc)(i:Nat):Prop:=∀k n p,k<i->ns[k]?=some n->PR[k]?=some p->J2 SH PT n p=true
def yd(SH:List Sh)(PR:List (Nat×Nat))(PT:List (List ax))(ns:List Vc):Bool:=decide (ns.length=PR.length)&&(ns.zip PR).all λx=>J2 SH PT x.1 x.2
theorem Iy{ns:List Vc}(hl:ns.length=PR.length)(h:Pv SH PR PT ns ns.length):yd SH PR PT ns=true:=by
 simp only[yd,An,HX,Ij];refine⟨hl,λx hx=>?_⟩;obtain⟨k,hk,rfl⟩:=PH.1 hx;rw[List.length_zip]at hk;rw[List.getElem_zip];exact h k _ _ (by omega) (an (by omega)) (an (by omega))
theorem B0{ns:List Vc}{k:Nat}{n:Vc}{p:Nat×Nat}(hn:ns[k]?=some n)(hp:PR[k]?=some p)(h:J2 SH PT n p=false):yd SH PR PT ns=false:=by
 cases ha:yd SH PR PT ns with
 |false=>rfl
 |true=>
  simp only[yd,An,Ij]at ha
  have:(n,p)∈ns.zip PR:=by
   refine HW (i:=k) ?_;rw[List.getElem?_zip_eq_some];exact⟨hn,hp⟩
  have:=ha.2 _ this;rw[h]at this;cases this
theorem qg(hb:BdOk SH PR PT)(i:Nat):(dT PT i).length<=9223372036854775807:=by
 unfold dT
 cases h:PT[i]? with
 |none=>simp
 |some l=>have:=hb.pts l (HW h);simp;omega
def ss(SH:List Sh)(PT:List (List ax))(x y:List Int)(p:Nat×Nat):Bool:=oH x y (dT PT p.1) (dF SH p.1) (dT PT p.2) (dF SH p.2)&&decide (0<=lX x y (dT PT p.1) (dF SH p.1) (dT PT p.2) (dF SH p.2))
structure Wit where
 pair:Int
 a:List Int
 b:List Int
abbrev Pw(w:Wit):PV:=.agg [Z w.pair,zs w.a,zs w.b]
def J3(SH:List Sh)(PR:List (Nat×Nat))(PT:List (List ax))(w:Wit):Bool:=decide (0<=w.pair)&&match PR[w.pair.toNat]? with
 |some p=>ss SH PT w.a w.b p
 |none=>false
set_option maxRecDepth 100000 in
@[simp] theorem TM:fJ Tryz.prog 92:=by
 have hf:=Tryz.func92;have nt:=Tryz.ntmps92;have rs:=Tryz.results92;exact Lb
@[simp] theorem Vp:t6 Tryz.prog 168=true:=by kernel_rfl
@[simp] theorem Vq:t6 Tryz.prog 166=true:=by kernel_rfl
structure Vd where
 kind:Int
 ns:List Vc
 w:Wit
abbrev AK(v:Vd):PV:=.agg [Z v.kind,aU v.ns,Z v.w.pair,zs v.w.a,zs v.w.b]
abbrev Px(ns:List Vc):PV:=.ifc 168 (.agg [aU ns])
abbrev Py(w:Wit):PV:=.ifc 166 (Pw w)
theorem vS(ns:List Vc):ab Tryz.prog 99 [.pv (Px ns)] [] [] (.pv (AK ⟨1,ns,⟨0,[],[]⟩⟩)):=by
 refine Dp Tryz.func99 ?_;intro C hP hN;simp only[Tryz.f99]at hN|-;exact Gy
theorem vC(w:Wit):ab Tryz.prog 99 [.pv (Py w)] [] [] (.pv (AK ⟨2,[],w⟩)):=by
 refine Dp Tryz.func99 ?_;intro C hP hN;simp only[Tryz.f99]at hN|-;exact Gy
def DZ(s:Sce)(bx:List Iv)(ns:List Vc):Bool:=gx s bx&&yd s.shs (dL s) (fX s bx) ns
def D0(s:Sce)(bx:List Iv)(w:Wit):Bool:=gx s bx&&J3 s.shs (dL s) (fX s bx) w
def kA(s:Sce)(bx:List Iv)(v:Vd):Bool:=
 if v.kind=1∧v.w.pair=0∧v.w.a.length=0∧v.w.b.length=0 then DZ s bx v.ns
 else if v.kind=2∧v.ns.length=0 then D0 s bx v.w else false
def aZ(v:Vd):Verd:=⟨v.kind,v.ns,v.w.pair,v.w.a,v.w.b⟩
def r5(v:Verd):Vd:=⟨v.kind,v.nor,⟨v.pair,v.left,v.right⟩⟩
def kD(hints:List Vc)(k:Nat):List Vc:=(hints.drop k).take 1
def qU(SH:List Sh)(PT:List (List ax))(hints:List Vc)(k:Nat)(p:Nat×Nat):Vc×Bool:=lc (dT PT p.1) (dF SH p.1) (dT PT p.2) (dF SH p.2) (kD hints k)
def qM(SH:List Sh)(PT:List (List ax))(p:Nat×Nat):Int×NSt:=jI (aD (dT PT p.1)) (aD (dT PT p.2)) (dF SH p.1+dF SH p.2) 64
def eg(SH:List Sh)(PR:List (Nat×Nat))(PT:List (List ax))(hints:List Vc):List Vc:=PR.mapIdx λk p=>(qU SH PT hints k p).1
def jE(SH:List Sh)(PR:List (Nat×Nat))(PT:List (List ax))(hints:List Vc):Nat->Nat->Bool->Vd
 |0,_,ap=>if ap then⟨1,eg SH PR PT hints,⟨0,[],[]⟩⟩else⟨0,eg SH PR PT hints,⟨0,[],[]⟩⟩
 |f+1,k,ap=>match PR[k]? with
  |some p=>if(qU SH PT hints k p).2=true then jE SH PR PT hints f (k+1) ap
   else if ss SH PT (qM SH PT p).2.w (qM SH PT p).2.v p=true then⟨2,[],⟨k,(qM SH PT p).2.w,(qM SH PT p).2.v⟩⟩
   else jE SH PR PT hints f (k+1) false
  |none=>if ap then⟨1,eg SH PR PT hints,⟨0,[],[]⟩⟩else⟨0,eg SH PR PT hints,⟨0,[],[]⟩⟩
def bM(s:Sce)(bx:List Iv)(hints:List Vc):Vd:=if gx s bx then jE s.shs (dL s) (fX s bx) hints (dL s).length 0 true else⟨0,[],⟨0,[],[]⟩⟩
theorem FH{bx:List Iv}(h:gx s bx=true)(i:Nat):0<=dF s.shs i∧dF s.shs i<=1048576:=by
 simp only[gx,An,HX]at h;obtain⟨_,_,_,_,_,v6,_⟩:=nZ h.1;unfold dF
 cases hx:s.shs[i]? with
 |none=>simp
 |some u=>
  have:=(v6 u (HW hx)).2;simp only[gR,An,HX]at this;simp only[MG,JX];omega
theorem oJ{l:List ax}(h:l.length<=8):(aD l).length<=8:=by unfold aD;split<;>simp<;>omega
theorem vA(hb:BdOk SH PR PT)(i:Nat):(dT PT i).length<=8:=by
 unfold dT
 cases h:PT[i]? with
 |none=>simp
 |some l=>exact hb.pts l (HW h)
theorem Mo{a:List ax}{ra:Int}{b:List ax}{rb:Int}{h:List Vc}(hf:(lc a ra b rb h).2=false):(lc a ra b rb h).1=(0,0,0):=by
 unfold lc at hf|-;split
 .rename_i n e;rw[e]at hf;cases hf
 .rfl
theorem xc(a b:List Vc)(rho st:Int):(jI a b rho st).2.w.length<=8∧(jI a b rho st).2.v.length<=8:=by
 unfold jI;split
 .rename_i h
  simp only[rt,An]at h;have ia:=ku.1 h.1.1.1;have ib:=ku.1 h.1.1.2;have:=vt (rho:=rho) (steps:=st.toNat) h.1.1.1 h.1.1.2 (st.toNat+1) (tr a b) (DY ia.1 ib.1);rw[this.wl,this.vl];exact⟨ia.2.1,ib.2.1⟩
 .simp
theorem Bk(l:List Vc):(l.map au).all (qR 3)=true:=by
 rw[Ij];intro x hx;obtain⟨v,_,rfl⟩:=KB.1 hx;rfl
theorem D1(hints:List Vc)(i:Nat)(z:Option Value)(e n:Nat)(y:Option Value):mf {size:=n,zero:=z,kind:=TK.slice e 3 24 y} (.pv (aU hints)) (some (.pv (.val (.int .i64 (if hints.length<i then(hints.length:Int)else(i:Int)))))) (some (.pv (.val (.int .i64 (min ((i:Int)+1) (hints.length:Int))))))=some (.pv (aU (kD hints i))):=by
 have h1:0<=(if hints.length<i then(hints.length:Int)else(i:Int)):=by split<;>omega
 have h2:0<=min ((i:Int)+1) (hints.length:Int):=by omega
 have h3:(if hints.length<i then(hints.length:Int)else(i:Int)).toNat=min i hints.length:=by split<;>omega
 have h4:(min ((i:Int)+1) (hints.length:Int)).toNat=min (i+1) hints.length:=by omega
 simp only[mf,IR h1,IR h2,h3,h4,Lf];rw[IR ⟨by omega,by omega,by decide,Bk hints⟩]
 congr 3
 rw[<-List.map_take,<-V0]
 congr 1
 unfold kD;by_cases h:i<hints.length
 .rw[show min i hints.length=i by omega,show min (i+1) hints.length=i+1 by omega,List.drop_take,show i+1-i=1 by omega]
 .rw[show min i hints.length=hints.length by omega,show min (i+1) hints.length=hints.length by omega,T3,List.drop_length,VB (by omega)];rfl
theorem Qd(s:Sce)(bx:List Iv)(hints:List Vc)(hs:ScL s)(hbl:bx.length<=9223372036854775807)(hh:hints.length<=9223372036854775807):ab Tryz.prog 38 [.pv (eT s),.pv (iv bx),.pv (aU hints)] [] [] (.pv (AK (bM s bx hints))):=by
 have cp:=UA s bx hs hbl
 have hd:bM s bx hints=if gx s bx then jE s.shs (dL s) (fX s bx) hints (dL s).length 0 true else⟨0,[],⟨0,[],[]⟩⟩:=rfl
 cases hp:gx s bx with
 |false=>
  rw[hp]at cp hd;simp only[IA,JE]at hd;rw[hd];refine Dp Tryz.func38 ?_;intro C hP hN;simp only[Tryz.f38]at hN|-;exact Gy
 |true=>
 rw[hp]at cp hd;simp only[J4]at hd;have hb:=GU hp;have hrd:=FH hp;rw[hd];generalize dL s=PR at *;generalize fX s bx=PT at *;generalize s.shs=SH at *;have hfew:=hb.few;generalize hgo:jE SH PR PT hints PR.length 0 true=RES at *;generalize hLM:(eg SH PR PT hints).map au=LM
 have hML:LM.length=PR.length:=by rw[<-hLM];simp[eg]
 have hMk:∀k p,PR[k]?=some p->LM[k]?=some (au (qU SH PT hints k p).1):=λk q hk=>by rw[<-hLM,eg,Is,List.getElem?_mapIdx,hk];rfl
 refine Dp Tryz.func38 ?_;intro C hP hN;simp only[Tryz.f38]at hN|-;refine GT (gA (show(24:Int)*(PR.length:Int)<=281474976710656 by omega) (show(PR.length:Int)<=9223372036854775807 by omega)) ?_;refine WP.loopN [12,14,16] PR.length (λi st=>∃R:List PV,∃ap:Bool,jE SH PR PT hints (PR.length-i) i ap=RES∧st.t 2=.pv (aU hints)∧st.t 6=.ptr 6 0∧st.h 6=some (.box [.pv (Z 0),.pv (.val (.slice none 0 0)),.pv (Z 0),.pv (.val (.slice none 0 0)),.pv (.val (.slice none 0 0))] true false)∧st.t 7=.ptr 7 0∧st.h 7=some (.box [.pv (.sl (SH.map cT)),.pv (.sl (PR.map ru)),.pv (.sl (PT.map aL))] true false)∧st.t 9=.arr 30 PR.length∧st.t 10=.pv (B ap)∧st.t 33=.pv (Z PR.length)∧st.t 34=.pv (Z i)∧st.h 12=none∧st.h 14=none∧st.h 16=none∧st.h 30=some (.row 68 3 R 0)∧R.length=PR.length∧(∀k,i<=k->k<PR.length->R[k]?=some (oE 0 0 0))∧∀k,k<i->R[k]?=LM[k]?) ?_ ?_
 .refine⟨List.replicate PR.length (oE 0 0 0),true,hgo,?_⟩
  simp
  try (intro k hk;first|exact hk|simp[Lc,hk])
 rintro i st hi ⟨R,ap,hgo,g2,g6,hb6,g7,hb7,g9,g10,g33,g34,hb12,hb14,hb16,hb30,hRl,hRz,hR⟩;by_cases hlt:i<PR.length
 .have hwr:=al hlt (by omega)
  obtain⟨p,hp⟩:∃p,PR[i]?=some p:=⟨_,an hlt⟩;have hRi:=hRz i (IX _) hlt;have hgi:=qv hRi
  have hiR:i<R.length:=by omega
  have cc:=Uz SH PR PT hb i p hp;have r1:=hrd p.1;have r2:=hrd p.2;have l1:=vA hb p.1;have l2:=vA hb p.2;have cf:=Uy (dT PT p.1) (dF SH p.1) (dT PT p.2) (dF SH p.2) (kD hints i) (by omega) (by omega) (by simp[kD];omega);have hfd:qU SH PT hints i p=lc (dT PT p.1) (dF SH p.1) (dT PT p.2) (dF SH p.2) (kD hints i):=rfl;rw[<-hfd]at cf;rw[show PR.length-i=(PR.length-i-1)+1 by omega]at hgo;simp only[jE,hp]at hgo;have hMi:=hMk i p hp
  have k2:∀k,k<i+1->(R.set i (au (qU SH PT hints i p).1))[k]?=LM[k]?:=λk h1=>by
   rw[I0];by_cases e:i=k
   .subst e;rw[IR rfl,IR hiR,hMi]
   .rw[Ik e];exact hR k (by omega)
  have k1:∀y k,i+1<=k->k<PR.length->(R.set i y)[k]?=some (oE 0 0 0):=λy k h1 h2=>by
   rw[I0,Ik (by omega)];exact hRz k (by omega) h2
  have k2':(qU SH PT hints i p).2=false->∀k,k<i+1->R[k]?=LM[k]?:=λhf k h1=>by
   by_cases e:k=i
   .subst e;rw[hRi,hMi]
    have:(qU SH PT hints k p).1=(0,0,0):=Mo hf;rw[this]
   .exact hR k (by omega)
  have k1':∀k,i+1<=k->k<PR.length->R[k]?=some (oE 0 0 0):=λk h1 h2=>hRz k (by omega) h2;generalize qU SH PT hints i p=F at *;clear hMk hLM hML
  cases hF2:F.2 with
  |true=>
   rw[hF2]at cf hgo;simp only[J4]at hgo;refine GT (gA g2 (gA g6 (gA hb6 (gA g7 (gA hb7 (gA g9 (gA g10 (gA g33 (gA g34 (gA hb12 (gA hb14 (gA hb16 (gA hb30 (gA hRl (gA hlt (gA hwr (gA hRi (gA hgi @D1)))))))))))))))))) ?_;rw[show PR.length-i-1=PR.length-(i+1) by omega]at hgo;refine⟨R.set i (au F.1),?_⟩;cases ap
   .exact .inl ⟨hgo,rfl,rfl,by simp[hRl],k1 _,k2⟩
   .exact .inr ⟨hgo,rfl,rfl,by simp[hRl],k1 _,k2⟩
  |false=>
   rw[hF2]at cf hgo;simp only[IA,JE]at hgo;have k2':=k2' hF2;have c1:=FS (dT PT p.1) (by omega);have c2:=FS (dT PT p.2) (by omega);have z1:=oJ l1;have z2:=oJ l2;have c3:=Qc (aD (dT PT p.1)) (aD (dT PT p.2)) (dF SH p.1+dF SH p.2) 64 (by omega) (by omega);have hNd:qM SH PT p=jI (aD (dT PT p.1)) (aD (dT PT p.2)) (dF SH p.1+dF SH p.2) 64:=rfl;have hln:=xc (aD (dT PT p.1)) (aD (dT PT p.2)) (dF SH p.1+dF SH p.2) 64;rw[<-hNd]at c3 hln;have hw:IntKind.i64.wrap (dF SH p.1+dF SH p.2)=dF SH p.1+dF SH p.2:=aa;generalize qM SH PT p=NN at *;have co:=Ux NN.2.w NN.2.v (dT PT p.1) (dF SH p.1) (dT PT p.2) (dF SH p.2) (by omega) (by omega) (by omega) (by omega);have hod:ss SH PT NN.2.w NN.2.v p=(oH NN.2.w NN.2.v (dT PT p.1) (dF SH p.1) (dT PT p.2) (dF SH p.2)&&decide (0<=lX NN.2.w NN.2.v (dT PT p.1) (dF SH p.1) (dT PT p.2) (dF SH p.2))):=rfl;rw[<-hod]at co
   cases hov:ss SH PT NN.2.w NN.2.v p with
   |true=>
    rw[hov]at co hgo;simp only[J4]at hgo;subst hgo;have cv:=vC ⟨i,NN.2.w,NN.2.v⟩;exact GS (gA g2 (gA g6 (gA hb6 (gA g7 (gA hb7 (gA g9 (gA g10 (gA g33 (gA g34 (gA hb12 (gA hb14 (gA hb16 (gA hb30 (gA hRl (gA hlt (gA hwr (gA hRi (gA hgi (gA @D1 hw)))))))))))))))))))
   |false=>
    rw[hov]at co hgo;simp only[IA,JE]at hgo;rw[show PR.length-i-1=PR.length-(i+1) by omega]at hgo;refine GT (gA g2 (gA g6 (gA hb6 (gA g7 (gA hb7 (gA g9 (gA g10 (gA g33 (gA g34 (gA hb12 (gA hb14 (gA hb16 (gA hb30 (gA hRl (gA hlt (gA hwr (gA hRi (gA hgi (gA @D1 hw))))))))))))))))))) ?_;exact⟨hgo,k1',k2'⟩
 .have hin:i=PR.length:=by omega
  subst hin
  have hRC:R=LM:=by
   apply My;intro k;by_cases hk:k<PR.length
   .exact hR k hk
   .rw[Jr (by omega),Jr (by omega)]
  subst hRC;rw[T1]at hgo;simp only[jE]at hgo;have cv:=vS (eg SH PR PT hints)
  have hBL:(eg SH PR PT hints).length=PR.length:=by simp[eg]
  cases ap with
  |true=>
   simp only[J4]at hgo;subst hgo;rw[<-hLM]at hb30;exact GS (gA g2 (gA g6 (gA hb6 (gA g7 (gA hb7 (gA g9 (gA g10 (gA g33 (gA g34 (gA hb12 (gA hb14 (gA hb16 (gA hb30 (gA hML hBL))))))))))))))
  |false=>
   simp only[IA,JE]at hgo;subst hgo;rw[<-hLM]at hb30;exact Gy
theorem DO(js:List J)(b:Bx):∀i,(iH js b i).1=-1∨∃j:Nat,(iH js b i).1=(j:Int)∧j<i∧∃x,b[j]?=some x∧2<=dO x
 |0=>.inl rfl
 |i+1=>by
  have ih:=DO js b i;have up:(∃j:Nat,(iH js b i).1=(j:Int)∧j<i∧∃x,b[j]?=some x∧2<=dO x)->∃j:Nat,(iH js b i).1=(j:Int)∧j<i+1∧∃x,b[j]?=some x∧2<=dO x:=λ⟨j,h1,h2,h3⟩=>⟨j,h1,by omega,h3⟩;simp only[iH];split
  .rename_i jj x h1 h2
   split
   .rename_i h;exact .inr ⟨i,rfl,by omega,x,h2,h.1⟩
   .exact ih.imp id up
  .exact ih.imp id up
theorem Im{x:Int×Int}(h:ay x.1 x.2=true):dO x=x.2-x.1:=by
 have:=fq.1 h;rw[dO,h];simp only[J4];exact aa (by omega) (by omega)
theorem vg(js:List J)(ms:List Ms)(b:Bx):ge js ms b=-1∨∃j:Nat,ge js ms b=(j:Int)∧j<b.length∧b.length=js.length∧bo vI b=true∧∃x,b[j]?=some x∧2<=x.2-x.1:=by
 unfold ge;split
 .rename_i h
  simp only[sU,An,HX]at h;rcases DO js b js.length with e|⟨j,h1,h2,x,h3,h4⟩
  .exact .inl e
  .have hv:ay x.1 x.2=true:=fB.1 h.1.2 _ (HW h3)
   rw[Im hv]at h4;exact .inr ⟨j,h1,by omega,h.1.1,h.1.2,x,h3,h4⟩
 .exact .inl rfl
def gD(js:List J)(ms:List Ms)(w:Int)(b:Bx):Bool:=decide (0<=ge js ms b)&&match b[(ge js ms b).toNat]? with
 |some x=>decide (w<x.2-x.1)
 |none=>false
def iT(js:List J)(ms:List Ms)(w:Int)(t:Tr):List Bool:=(aj t).map (gD js ms w)
def lF(t:Tr)(op:List Bool)(p q:List Int)(sort:Int):Bool:=dz t.cells.length (oU t.cells op sort) (aM (aj t) q) (aM (aj t) p) (fZ (aj t))
def jg(t:Tr)(op:List Bool)(p q:List Int)(sort:Int):List Nat:=eV t.cells.length (oU t.cells op sort) (aM (aj t) q) (aM (aj t) p) (fZ (aj t))
def Ba(js:List J)(ms:List Ms)(t:Tr)(p q:List Int)(w:Int):Bool:=decide (aT js ms=0)&&decide (t.root.length=js.length)&&decide (1<=w)&&lU t.root p&&lU t.root q
def BW(t:Tr)(op:List Bool)(k:Nat):Bool:=decide ((eM t k).kind=0)&&(op[k]?.getD false)
def Bb(js:List J)(ms:List Ms)(t:Tr)(op:List Bool)(c:List Nat):Int×Int×Int:=match c.find? (BW t op)with
 |some k=>((k:Int),ge js ms (bj t (k:Int)),3)
 |none=>(-1,-1,0)
def FK(js:List J)(ms:List Ms)(t:Tr)(op:List Bool)(p q:List Int):Int×Int×Int:=
 if lF t op p q 0=true then(-1,-1,1)else if lF t op p q 3=false then(-1,-1,2)
 else if lF t op p q 1=true then Bb js ms t op (jg t op p q 1)else if lF t op p q 2=true then(-1,-1,5)else Bb js ms t op (jg t op p q 3)
def lV(js:List J)(ms:List Ms)(t:Tr)(p q:List Int)(w:Int):Int×Int×Int:=if Ba js ms t p q w&&aX t then FK js ms t (iT js ms w t) p q else(-1,-1,0)
def sj(s:Sce)(t:Tr)(i:Int):Bool:=decide (gv s=0)&&fh t i&&gY s.js s.ms (dB t i)
def km(s:Sce)(t:Tr)(i:Int):Verd:=aZ (bM s (dB t i) (eM t i.toNat).nor)
def kw(s:Sce)(t:Tr)(i:Int):Bool:=sj s t i&&dc t i (km s t i)
def gQ(s:Sce)(t:Tr)(i:Int):Tr:=if sj s t i then cJ t i (km s t i)else t
def mV(s:Sce)(t:Tr)(i j:Int):Tr:=gQ s (db t i j) t.cells.length
def wX(s:Sce)(t:Tr)(i j:Int):Bool:=dI t i j&&kw s (db t i j) t.cells.length&&kw s (mV s t i j) (t.cells.length+1)
def qm(s:Sce)(t:Tr)(i j:Int):Tr:=if wX s t i j then gQ s (mV s t i j) (t.cells.length+1)else t
def mF(s:Sce)(p q:List Int)(w cells:Int):Nat->Tr->Tr×Int
 |0,t=>(t,0)
 |f+1,t=>if(lV s.js s.ms t p q w).2.2=3 then if cells-2<t.cells.length then(t,4)else mF s p q w cells f (qm s t (lV s.js s.ms t p q w).1 (lV s.js s.ms t p q w).2.1)
  else(t,(lV s.js s.ms t p q w).2.2)
def nT(s:Sce)(p q:List Int)(w cells:Int):Bool:=decide (gv s=0)&&cG s.js s.ms p&&cG s.js s.ms q&&decide (1<=w)&&decide (1<=cells)&&decide (cells<=2048)
def tf(s:Sce):Tr:=gQ s (iw (ah s.js s.ms)) 0
def oA(s:Sce)(p q:List Int)(w cells:Int):Tr×Int:=if nT s p q w cells then mF s p q w cells 2048 (tf s)else(⟨[],[]⟩,0)
section
variable {n:Nat} {may may' has:Nat->Bool} {tch:Nat->Nat->Bool} (h:∀i,i<n->may i=may' i)
include h
theorem Ic:∀i,i<=n->bI n may has i=bI n may' has i
 |0,_=>rfl
 |i+1,hi=>by simp only[bI];rw[Ic i (by omega),h i (by omega)]
theorem Id(s:BS)(k:Nat):∀i,i<=n->bJ may tch s k i=bJ may' tch s k i
 |0,_=>rfl
 |i+1,hi=>by
  simp only[bJ]
  have e:yU may tch (bJ may' tch s k i) k i=yU may' tch (bJ may' tch s k i) k i:=by unfold yU;rw[h i (by omega)]
  rw[Id s k i (by omega),e]
theorem DE:∀k,bK n may has tch k=bK n may' has tch k
 |0=>by simp only[bK];exact Ic h n (IX _)
 |k+1=>by simp only[bK];rw[DE k,Id h _ _ n (IX _)]
theorem ve{hasF:Nat->Bool}:dz n may has hasF tch=dz n may' has hasF tch∧eV n may has hasF tch=eV n may' has hasF tch:=by
 have e1:mE n may has hasF tch=mE n may' has hasF tch:=by unfold mE;rw[DE h]
 have e2:dz n may has hasF tch=dz n may' has hasF tch:=by unfold dz;rw[e1]
 refine⟨e2,?_⟩;unfold eV;rw[e1,e2,DE h]
end
theorem Gw(k j:Int)(o:Bool)(h:(j != -1)=o):oF k j=pL k 1 o:=by unfold oF;rw[h];rfl
theorem Gx(k j:Int)(o:Bool)(h:(j != -1)=o):tO k j=pL k 2 o:=by
 have:(j==-1)=!o:=by rw[<-h];simp[bne]
 unfold tO;rw[this];rfl
def iJ(js:List J)(ms:List Ms)(w:Int)(b:Bx):Int:=if gD js ms w b then ge js ms b else -1
def FI(js:List J)(ms:List Ms)(w:Int)(t:Tr):List Int:=(aj t).map (iJ js ms w)
theorem DF{b:Bx}:(iJ js ms w b != -1)=gD js ms w b:=by
 unfold iJ
 cases h:gD js ms w b with
 |false=>simp
 |true=>
  have:0<=ge js ms b:=by
   unfold gD at h;simp only[An,HX]at h;exact h.1
  simp;omega
theorem EX{t:Tr}{i:Nat}(hv:aX t=true)(hi:i<t.cells.length):(FI js ms w t)[i]?=some (iJ js ms w (gz (aj t) i))∧(iT js ms w t)[i]?=some (gD js ms w (gz (aj t) i)):=by
 have hb:(aj t)[i]?=some (gz (aj t) i):=by
  have:=fI hv;simp[gz,an (by omega:i<(aj t).length)]
 simp[FI,iT,hb]
theorem sY{α:Type}{p q:α->Bool}:∀{l:List α},(∀x∈l,p x=q x)->l.find? p=l.find? q
 |[],_=>rfl
 |a::l,h=>by
  simp only[List.find?_cons];rw[h a (by simp),sY λx hx=>h x (by simp[hx])]
theorem ND{b:Bx}(h:ge js ms b=-1):gD js ms w b=false:=by simp[gD,h]
theorem Mf{b:Bx}{j:Nat}{x:Int×Int}(h:ge js ms b=(j:Int))(hx:b[j]?=some x):gD js ms w b=decide (w<x.2-x.1):=by
 have hj:(0:Int)<=(j:Int):=by omega
 unfold gD;rw[h,JY,hx,L4 hj,KA]
theorem Qa(js:List J)(ms:List Ms)(b:Bx)(w:Int)(hjl:js.length<=9223372036854775807)(hml:ms.length<=9223372036854775807)(hbl:b.length<=9223372036854775807):ab Tryz.prog 35 [.pv (gF js ms),.pv (iv b),.pv (Z w)] [] [] (.pv (Z (iJ js ms w b))):=by
 have cw:=TZ js ms b hjl hml hbl;rcases vg js ms b with hj|⟨j,hj,hjl2,_,hv,x,hx,hw2⟩
 .have e:iJ js ms w b=-1:=by unfold iJ;rw[ND hj];rfl
  rw[e];rw[hj]at cw;refine Dp Tryz.func35 ?_;intro C hP hN;simp only[Tryz.f35]at hN|-;exact Gy
 .have e:iJ js ms w b=if w<x.2-x.1 then(j:Int)else -1:=by
   unfold iJ;rw[Mf hj hx,hj];by_cases h:w<x.2-x.1<;>simp[h]
  rw[e];rw[hj]at cw;have hxe:∀h,b[j]'h=x:=λh=>iR hx h;have hvx:=fq.1 (fB.1 hv _ (HW hx));have hwx:IntKind.i64.wrap (x.2-x.1)=x.2-x.1:=aa
  have hj1:¬(j:Int)=-1:=by omega
  by_cases h:w<x.2-x.1
  .have h':¬x.2-x.1<=w:=by omega
   rw[IR h];refine Dp Tryz.func35 ?_;intro C hP hN;simp only[Tryz.f35]at hN|-;exact Gy
  .have h':x.2-x.1<=w:=by omega
   rw[Ik h];refine Dp Tryz.func35 ?_;intro C hP hN;simp only[Tryz.f35]at hN|-;exact Gy
theorem Kl(x:Int):0<=x*x:=by
 rcases VC 0 x with h|h
 .exact NV h h
 .have:=NV (show 0<=-x by omega) (show 0<=-x by omega)
  rw[Int.neg_mul_neg]at this;exact this
def D4(l:List Int)(m:Nat)(c:Vc):Vc:=(wr (c.1+wr (wr (nx l m 7-3)*32768)),wr (c.2.1+wr (wr (nx l (nn l m) 5-2)*32768)),wr (c.2.2+wr (wr (nx l (nn l (nn l m)) 5-2)*32768)))
def kP(l:List Int)(m:Nat):Nat->Nat
 |0=>m
 |i+1=>nn l (nn l (nn l (kP l m i)))
theorem xw(l:List Int)(m:Nat):∀i,kP l m i<=m+3*i
 |0=>IX _
 |i+1=>by
  have h:=xw l m i;have l1:=bz l (kP l m i);have l2:=bz l (nn l (kP l m i));have l3:=bz l (nn l (nn l (kP l m i)));simp only[kP];omega
def sn(l:List Int)(m:Nat)(c:Vc)(k:Nat):List Vc:=c::(List.range k).map λi=>D4 l (kP l m i) c
theorem DN(l:List Int)(m:Nat)(c:Vc)(k:Nat):(sn l m c (k+1)).map au=(sn l m c k).map au++[au (D4 l (kP l m k) c)]:=by simp[sn,PK]
theorem AN(l:List Int)(m:Nat)(c:Vc)(k:Nat):(sn l m c k).length=k+1:=by simp[sn]
def j9(l:List Int)(n:Nat):Nat:=(nx l n 4).toNat
def oB(l:List Int)(n:Nat)(c:Vc):List Vc:=sn l (nn l n) c (j9 l n)
def s8(l:List Int)(n:Nat):Nat:=kP l (nn l n) (j9 l n)
theorem Hb(l:List Int)(n:Nat)(c:Vc)(hn:n<100000):ab Tryz.prog 24 [.bx 0,.pv (au c)] [kh l n] [kh l (s8 l n)] (.pv (aU (oB l n c))):=by
 have hx:=dh l n (k:=4) (by decide) (by decide)
 have hk:nx l n 4=((j9 l n:Nat):Int):=by unfold j9;omega
 have hk3:j9 l n<4:=by unfold j9;omega
 have hl1:=bz l n;refine o8 Tryz.func24 rfl (by kernel_rfl) (by simp[Tryz.f24]) rfl (by intro i j h;rcases i with _|_|_|i<;>simp_all) ?_;intro C hP hN;simp only[Tryz.f24]at hN|-
 with_reducible repeat' (first|refine Sp.h ?_|((first|refine Wh [8] ?_|refine Wi [8] ?_|refine Ss.h ?_|refine Sc.h (iy l n 4 (by decide) (by omega)) ?_|(refine Sb.h ?_ ?_ ?_<;>(try intro hgd)<;>try exact Xy))<;>simp -implicitDefEqProofs (maxSteps:=2000000) [hP,hN,kh,hk]<;>try refine Ya ?_)|refine X2 ?_ ?_|(refine Xd ?_ ?_<;>intro hcd<;>try exact Xx))
 refine WP.loopN [] (j9 l n) (λi st=>st.t 0=.ptr (pk 0) 0∧st.t 3=.ptr 3 0∧st.h 3=some (.box [.pv (Z c.1),.pv (Z c.2.1),.pv (Z c.2.2)] true false)∧st.t 6=.pv (Z ((j9 l n:Int)-i))∧
  st.h (pk 0)=some (.box [.pv (zs l),.pv (Z (kP l (nn l n) i))] false false)∧st.t 5=.arr 8 (i+1)∧st.h 8=some (.row 68 3 ((sn l (nn l n) c i).map au) 0)) (by simp[kP,sn]) ?_
 rintro i st hi ⟨h0,h3,hb3,h6,hp,h5,hb8⟩;have hz:=AN l (nn l n) c i;by_cases hlt:i<j9 l n
 .have hw:IntKind.i64.wrap ((j9 l n:Int)-i-1)=(j9 l n:Int)-((i:Int)+1):=by rw[IntKind.wrap_i64];omega
  have hgt:(0:Int)<(j9 l n:Int)-i:=by omega
  have hm2:=xw l (nn l n) i;have l1:=bz l (kP l (nn l n) i);have l2:=bz l (nn l (kP l (nn l n) i));have hJ:=DN l (nn l n) c i;have hS:kP l (nn l n) (i+1)=nn l (nn l (nn l (kP l (nn l n) i))):=rfl
  with_reducible repeat' (first|refine Sp.h ?_|((first|refine Wd ?_|refine Ss.h ?_|refine Sc.h (qw l _ _ (by decide) (by decide) (by omega)) ?_|(refine Sb.h ?_ ?_ ?_<;>(try intro hgd)<;>try exact Xy))<;>simp -implicitDefEqProofs (maxSteps:=2000000) [hP,hN,h0,h3,hb3,h5,h6,hp,hb8,hlt,hw,hgt,hS,hz,show(i+1+1)*24<=140737488355328 by omega,show i<=9223372036854775805 by omega]<;>try refine Ya ?_)|refine X2 ?_ ?_|(refine Xd ?_ ?_<;>intro hcd<;>try exact Xx))
  all_goals simp[hJ,D4]
 .have hir:i=j9 l n:=by omega
  subst hir;refine Gz ?_
  all_goals simp[s8,oB]
theorem B1(l:List Int)(n:Nat):s8 l n<=n+10:=by
 have h1:=bz l n;have hx:=dh l n (k:=4) (by decide) (by decide)
 have hk3:j9 l n<4:=by unfold j9;omega
 have h2:=xw l (nn l n) (j9 l n);unfold s8;omega
theorem Fi(l:List Int):nG l 0<=60:=by
 have h1:=bz l 0;have hx:=dh l 0 (k:=3) (by decide) (by decide)
 have hrN:rN l 0<=3:=by unfold rN;omega
 have h2:=vz l (nn l 0) (rN l 0);have h3:=bz l (rM l 0);have hx3:=dh l (rM l 0) (k:=3) (by decide) (by decide)
 have hrK:rK l 0<3:=by unfold rK;omega
 have h4:=By l (nn l (rM l 0)) (rK l 0);have h5:rM l 0=k7 l (nn l 0) (rN l 0):=rfl;unfold nG;omega
def Hg(l:List Int)(m:Nat)(i:Nat):Sh:=⟨i,wr ((wr (wr (1+nx l m 3)*65536)).tdiv 8),oB l (nn l (nn l m)) (wr (nx l (nn l m) 4*32768),0,0)⟩
def cQ(l:List Int)(n:Nat):Nat->List Sh×Nat
 |0=>([],n)
 |i+1=>if nx l (cQ l n i).2 5<4 then((cQ l n i).1++[Hg l (nn l (cQ l n i).2) i],s8 l (nn l (nn l (nn l (cQ l n i).2))))else((cQ l n i).1,nn l (cQ l n i).2)
theorem su(l:List Int)(n:Nat):∀i,(cQ l n i).2<=n+13*i∧(cQ l n i).1.length<=i
 |0=>by simp[cQ]
 |i+1=>by
  have ih:=su l n i;have a1:=bz l (cQ l n i).2;have a2:=bz l (nn l (cQ l n i).2);have a3:=bz l (nn l (nn l (cQ l n i).2));have a4:=B1 l (nn l (nn l (nn l (cQ l n i).2)));simp only[cQ];split
  .simp only[Kk,Rq,Up];omega
  .simp only;omega
def B2(l:List Int)(m:Nat):Sh:=⟨-1,wr ((wr (wr (1+nx l (nn l (nn l (nn l m))) 4)*65536)).tdiv 8),oB l (nn l (nn l (nn l (nn l m)))) (wr (wr (nx l m 19-9)*32768),wr (wr (nx l (nn l m) 19-9)*32768),wr (wr (nx l (nn l (nn l m)) 5-2)*32768))⟩
def fk(l:List Int)(xs:List Sh)(n:Nat):Nat->List Sh×Nat
 |0=>(xs,n)
 |i+1=>((fk l xs n i).1++[B2 l (fk l xs n i).2],s8 l (nn l (nn l (nn l (nn l (fk l xs n i).2)))))
theorem sv(l:List Int)(xs:List Sh)(n:Nat):∀i,(fk l xs n i).2<=n+14*i∧(fk l xs n i).1.length=xs.length+i
 |0=>by simp[fk]
 |i+1=>by
  have ih:=sv l xs n i;have a1:=bz l (fk l xs n i).2;have a2:=bz l (nn l (fk l xs n i).2);have a3:=bz l (nn l (nn l (fk l xs n i).2));have a4:=bz l (nn l (nn l (nn l (fk l xs n i).2)));have a5:=B1 l (nn l (nn l (nn l (nn l (fk l xs n i).2))));simp only[fk,Kk,Rq,Up];omega
def mH(l:List Int)(n:Nat):Nat:=(1+nx l n 3).toNat
def mA(l:List Int):List Sh×Nat:=cQ l (nG l 0) (rN l 0)
def mB(l:List Int):List Sh×Nat:=fk l (mA l).1 (nn l (mA l).2) (mH l (mA l).2)
def gi(l:List Int):Sce:=⟨cU l 0,jo l 0,(mB l).1,if nx l (mB l).2 5=1 then[(-1,nx l (nn l (mB l).2) (rN l 0))]else[]⟩
def HO(l:List Int)(xs:List Sh)(h:Hp):Prop:=∃W:AV,h 4=some (.box [.pv (.sl ((cU l 0).map bC)),.pv (.sl ((jo l 0).map IT)),W,fT] true false)∧((xs=[]∧W=fT∧h 71=none)∨(xs≠[]∧W=.arr 40 xs.length∧h 40=some (.row 70 3 (xs.map cT) 0))∨(xs≠[]∧W=.arr 71 xs.length∧h 71=some (.row 70 3 (xs.map cT) 0)))
theorem d8(l:List Int):ab Tryz.prog 8 [.pv (zs l)] [] [] (.pv (eT (gi l))):=by
 have hx:=dh l 0 (k:=3) (by decide) (by decide)
 have hrN:rN l 0<=3∧0<rN l 0:=by unfold rN;omega
 have hzJ:(cU l 0).length=rN l 0:=kj l (nn l 0) (rN l 0);have hre:=Fi l;have cr:=HN l 0 (by decide);generalize hn0:nG l 0=n0 at *;refine Dp Tryz.func8 ?_;intro C hP hN;simp only[Tryz.f8]at hN|-;have q1:=@Nh;refine GT @kh.eq_1 ?_
 refine WP.loopN [] (rN l 0) (λi st=>st.t 3=.ptr 9 0∧st.h 9=some (.box [.pv (zs l),.pv (Z (cQ l n0 i).2)] true false)∧st.t 2=.ptr 2 0∧st.h 2=some (.box [fT,fT,fT,fT] true false)∧st.t 4=.ptr 4 0∧st.t 5=.pv (Z i)∧st.h 71=none∧st.h 86=none∧st.h 7=none∧
  (((cQ l n0 i).1=[]∧st.h 4=some (.box [.pv (.sl ((cU l 0).map bC)),.pv (.sl ((jo l 0).map IT)),fT,fT] true false)∧st.h 40=none)∨((cQ l n0 i).1≠[]∧st.h 4=some (.box [.pv (.sl ((cU l 0).map bC)),.pv (.sl ((jo l 0).map IT)),.arr 40 (cQ l n0 i).1.length,fT] true false)∧st.h 40=some (.row 70 3 ((cQ l n0 i).1.map cT) 0)))) (by simp[cQ]) ?_
 rintro i st hi ⟨g3,hb9,g2,hb2,g4,g5,hb71,hb86,hb7,hor⟩;have hle:=su l n0 i;by_cases hlt:i<rN l 0
 .have hwr:=al hlt (by omega)
  have hS:cQ l n0 (i+1)=if nx l (cQ l n0 i).2 5<4 then((cQ l n0 i).1++[Hg l (nn l (cQ l n0 i).2) i],s8 l (nn l (nn l (nn l (cQ l n0 i).2))))else((cQ l n0 i).1,nn l (cQ l n0 i).2):=rfl
  generalize cQ l n0 (i+1)=S' at *;generalize cQ l n0 i=S at *;obtain⟨xs,m⟩:=S;simp only at hle hS hb9 hor;have a1:=bz l m;have a2:=bz l (nn l m);have a3:=bz l (nn l (nn l m));have cp:=Hb l (nn l (nn l (nn l m))) (wr (nx l (nn l (nn l m)) 4*32768),0,0) (by omega);by_cases h5:nx l m 5<4
  .rw[IR h5]at hS
   subst hS;rcases hor with⟨hxs,hb4,hb40⟩|⟨hxs,hb4,hb40⟩
   .subst hxs
    with_reducible repeat' (first|refine Sp.h ?_|((first|refine Wd ?_|refine Ss.h ?_|refine Sc.h (iy l _ 5 (by decide) (by omega)) ?_|refine Sc.h (iy l _ 3 (by decide) (by omega)) ?_|refine Sc.h (iy l _ 4 (by decide) (by omega)) ?_|refine Sc.h (cp) ?_|(refine Sb.h ?_ ?_ ?_<;>(try intro hgd)<;>try exact Xy))<;>simp -implicitDefEqProofs [hP,hN,g3,hb9,g2,hb2,g4,g5,hb71,hb86,hb7,hb4,hb40,hlt,hwr,hzJ,h5]<;>try refine Ya ?_)|refine X2 ?_ ?_|(refine Xd ?_ ?_<;>intro hcd<;>try exact Xx))
    all_goals exact⟨rfl,rfl,rfl⟩
   .skip
    with_reducible repeat' (first|refine Sp.h ?_|((first|refine Wd ?_|refine Ss.h ?_|refine Sc.h (iy l _ 5 (by decide) (by omega)) ?_|refine Sc.h (iy l _ 3 (by decide) (by omega)) ?_|refine Sc.h (iy l _ 4 (by decide) (by omega)) ?_|refine Sc.h (cp) ?_|(refine Sb.h ?_ ?_ ?_<;>(try intro hgd)<;>try exact Xy))<;>simp -implicitDefEqProofs [hP,hN,g3,hb9,g2,hb2,g4,g5,hb71,hb86,hb7,hb4,hb40,hlt,hwr,hzJ,h5,show(xs.length+1)*40<=140737488355328 by omega,show xs.length<=9223372036854775806 by omega]<;>try refine Ya ?_)|refine X2 ?_ ?_|(refine Xd ?_ ?_<;>intro hcd<;>try exact Xx))
    all_goals exact⟨rfl,rfl,rfl⟩
  .rw[Ik h5]at hS
   subst hS;rcases hor with⟨hxs,hb4,hb40⟩|⟨hxs,hb4,hb40⟩
   all_goals
    with_reducible repeat' (first|refine Sp.h ?_|((first|refine Wd ?_|refine Ss.h ?_|refine Sc.h (iy l _ 5 (by decide) (by omega)) ?_|(refine Sb.h ?_ ?_ ?_<;>(try intro hgd)<;>try exact Xy))<;>simp -implicitDefEqProofs [hP,hN,g3,hb9,g2,hb2,g4,g5,hb71,hb86,hb7,hb4,hb40,hlt,hwr,hzJ,h5]<;>try refine Ya ?_)|refine X2 ?_ ?_|(refine Xd ?_ ?_<;>intro hcd<;>try exact Xx))
    all_goals exact hxs
 .have hir:i=rN l 0:=by omega
  subst hir
  have hmA:cQ l n0 (rN l 0)=mA l:=by unfold mA;rw[hn0]
  rw[hmA]at hle hb9 hor;have hK:nx l (mA l).2 3<3∧0<=nx l (mA l).2 3:=⟨(dh l _ (by decide) (by decide)).2,(dh l _ (by decide) (by decide)).1⟩
  have hKe:IntKind.i64.wrap (1+nx l (mA l).2 3)=((mH l (mA l).2:Nat):Int):=by rw[IntKind.wrap_i64];unfold mH;omega
  have hK3:mH l (mA l).2<=3∧1<=mH l (mA l).2:=by unfold mH;omega
  have hsk:gi l=⟨cU l 0,jo l 0,(mB l).1,if nx l (mB l).2 5=1 then[(-1,nx l (nn l (mB l).2) (rN l 0))]else[]⟩:=rfl;rw[hsk];have hmB:mB l=fk l (mA l).1 (nn l (mA l).2) (mH l (mA l).2):=rfl;have hnA:=bz l (mA l).2;rw[hmB];generalize mA l=A at *;clear hmA hsk hmB;generalize mH l A.2=K at *
  obtain⟨W,hb4,hW⟩:∃W:AV,st.h 4=some (.box [.pv (.sl ((cU l 0).map bC)),.pv (.sl ((jo l 0).map IT)),W,fT] true false)∧((A.1=[]∧W=fT∧st.h 71=none)∨(A.1≠[]∧W=.arr 40 A.1.length∧st.h 40=some (.row 70 3 (A.1.map cT) 0))∨(A.1≠[]∧W=.arr 71 A.1.length∧st.h 71=some (.row 70 3 (A.1.map cT) 0))):=by
   rcases hor with⟨a,b,c⟩|⟨a,b,c⟩
   .exact⟨_,b,.inl ⟨a,rfl,hb71⟩⟩
   .exact⟨_,b,.inr (.inl ⟨a,rfl,c⟩)⟩
  clear hor
  with_reducible repeat' (first|refine Sp.h ?_|((first|refine Wd ?_|refine Ss.h ?_|refine Sc.h (iy l _ 3 (by decide) (by omega)) ?_|(refine Sb.h ?_ ?_ ?_<;>(try intro hgd)<;>try exact Xy))<;>simp -implicitDefEqProofs [hP,hN,g3,hb9,g2,hb2,g4,g5,hb4,hb86,hb7,hzJ,hKe]<;>try refine Ya ?_)|refine X2 ?_ ?_|(refine Xd ?_ ?_<;>intro hcd<;>try exact Xx))
  have hz0:fk l A.1 (nn l A.2) 0=(A.1,nn l A.2):=rfl;refine WP.loopN [7] K (λi st=>st.t 3=.ptr 9 0∧st.h 9=some (.box [.pv (zs l),.pv (Z (fk l A.1 (nn l A.2) i).2)] true false)∧st.t 2=.ptr 2 0∧st.h 2=some (.box [fT,fT,fT,fT] true false)∧st.t 4=.ptr 4 0∧st.t 6=.pv (Z ((K:Int)-i))∧st.h 86=none∧st.h 7=none∧HO l (fk l A.1 (nn l A.2) i).1 st.h) ?_ ?_
  .refine⟨by simp[g3],by simp[hz0],by simp[g2],by simp[hb2],by simp[g4],by simp,by simp[hb86],by simp[hb7],?_⟩
   rw[hz0];rcases hW with⟨a,rfl,b⟩|⟨a,rfl,b⟩|⟨a,rfl,b⟩
   .exact⟨fT,by simp[hb4],.inl ⟨a,rfl,by simp[b]⟩⟩
   .exact⟨.arr 40 A.1.length,by simp[hb4],.inr (.inl ⟨a,rfl,by simp[b]⟩)⟩
   .exact⟨.arr 71 A.1.length,by simp[hb4],.inr (.inr ⟨a,rfl,by simp[b]⟩)⟩
  clear g3 hb9 g2 hb2 g4 g5 hb86 hb7 hb4 hb71 hW;rintro i st hi ⟨g3,hb9,g2,hb2,g4,g6,hb86,hb7,W,hb4,hW⟩;have hleO:=sv l A.1 (nn l A.2) i;by_cases hlt:i<K
  .have hwr:IntKind.i64.wrap ((K:Int)-i-1)=(K:Int)-((i:Int)+1):=by rw[IntKind.wrap_i64];omega
   have hgt:(0:Int)<(K:Int)-i:=by omega
   have hS:fk l A.1 (nn l A.2) (i+1)=((fk l A.1 (nn l A.2) i).1++[B2 l (fk l A.1 (nn l A.2) i).2],s8 l (nn l (nn l (nn l (nn l (fk l A.1 (nn l A.2) i).2))))):=rfl;generalize fk l A.1 (nn l A.2) (i+1)=S' at *;generalize fk l A.1 (nn l A.2) i=S at *;subst hS;obtain⟨xs,m⟩:=S;simp only at hleO hb9 hW|-;have a1:=bz l m;have a2:=bz l (nn l m);have a3:=bz l (nn l (nn l m));have a4:=bz l (nn l (nn l (nn l m)));have cp:=Hb l (nn l (nn l (nn l (nn l m)))) (wr (wr (nx l m 19-9)*32768),wr (wr (nx l (nn l m) 19-9)*32768),wr (wr (nx l (nn l (nn l m)) 5-2)*32768)) (by omega);rcases hW with⟨hxs,hW,hb71⟩|⟨hxs,hW,hb40⟩|⟨hxs,hW,hb71⟩
   .subst hW;subst hxs
    with_reducible repeat' (first|refine Sp.h ?_|((first|refine Wd ?_|refine Ss.h ?_|refine Sc.h (qw l _ 9 (by decide) (by decide) (by omega)) ?_|refine Sc.h (qw l _ 2 (by decide) (by decide) (by omega)) ?_|refine Sc.h (iy l _ 4 (by decide) (by omega)) ?_|refine Sc.h (cp) ?_|(refine Sb.h ?_ ?_ ?_<;>(try intro hgd)<;>try exact Xy))<;>simp -implicitDefEqProofs [hP,hN,g3,hb9,g2,hb2,g4,g6,hb86,hb7,hb4,hb71,hwr,hgt]<;>try refine Ya ?_)|refine X2 ?_ ?_|(refine Xd ?_ ?_<;>intro hcd<;>try exact Xx))
    refine⟨hlt,.arr 71 [B2 l m].length,by simp[St.kill,bQ,aC],.inr (.inr ⟨by simp,rfl,?_⟩)⟩;simp[St.kill,bQ,aC]
    all_goals exact⟨rfl,rfl,rfl⟩
   .subst hW
    with_reducible repeat' (first|refine Sp.h ?_|((first|refine Wd ?_|refine Ss.h ?_|refine Sc.h (qw l _ 9 (by decide) (by decide) (by omega)) ?_|refine Sc.h (qw l _ 2 (by decide) (by decide) (by omega)) ?_|refine Sc.h (iy l _ 4 (by decide) (by omega)) ?_|refine Sc.h (cp) ?_|(refine Sb.h ?_ ?_ ?_<;>(try intro hgd)<;>try exact Xy))<;>simp -implicitDefEqProofs [hP,hN,g3,hb9,g2,hb2,g4,g6,hb86,hb7,hb4,hb40,hwr,hgt,show(xs.length+1)*40<=140737488355328 by omega,show xs.length<=9223372036854775806 by omega]<;>try refine Ya ?_)|refine X2 ?_ ?_|(refine Xd ?_ ?_<;>intro hcd<;>try exact Xx))
    refine⟨hlt,.arr 40 (xs++[B2 l m]).length,by simp[St.kill,bQ,aC],.inr (.inl ⟨by simp,rfl,?_⟩)⟩;simp[St.kill,bQ,aC]
    all_goals exact⟨rfl,rfl,rfl⟩
   .subst hW
    with_reducible repeat' (first|refine Sp.h ?_|((first|refine Wd ?_|refine Ss.h ?_|refine Sc.h (qw l _ 9 (by decide) (by decide) (by omega)) ?_|refine Sc.h (qw l _ 2 (by decide) (by decide) (by omega)) ?_|refine Sc.h (iy l _ 4 (by decide) (by omega)) ?_|refine Sc.h (cp) ?_|(refine Sb.h ?_ ?_ ?_<;>(try intro hgd)<;>try exact Xy))<;>simp -implicitDefEqProofs [hP,hN,g3,hb9,g2,hb2,g4,g6,hb86,hb7,hb4,hb71,hwr,hgt,show(xs.length+1)*40<=140737488355328 by omega,show xs.length<=9223372036854775806 by omega]<;>try refine Ya ?_)|refine X2 ?_ ?_|(refine Xd ?_ ?_<;>intro hcd<;>try exact Xx))
    refine⟨hlt,.arr 71 (xs++[B2 l m]).length,by simp[St.kill,bQ,aC],.inr (.inr ⟨by simp,rfl,?_⟩)⟩;simp[St.kill,bQ,aC]
    all_goals exact⟨rfl,rfl,rfl⟩
  .have hir:i=K:=by omega
   subst hir;generalize fk l A.1 (nn l A.2) i=S at *;obtain⟨xs,m⟩:=S;simp only at hleO hb9 hW|-;have a1:=bz l m
   have hne:((rN l 0:Nat):Int)≠0:=by omega
   have hxs:xs≠[]:=by
    rintro rfl;have:=hleO.2;simp at this;omega
   by_cases h5:nx l m 5=1
   .have h5':(nx l m 5==1)=true:=by simp[h5]
    rw[IR h5];rcases hW with⟨hx,hW,hb71⟩|⟨_,hW,hb40⟩|⟨_,hW,hb71⟩
    .exact absurd hx hxs
    .subst hW
     with_reducible repeat' (first|refine Sp.h ?_|((first|refine Wd ?_|refine Ss.h ?_|refine Sc.h (iy l _ 5 (by decide) (by omega)) ?_|refine Sc.h (iy l _ _ hne (by omega)) ?_)<;>simp -implicitDefEqProofs [hP,hN,g3,hb9,g2,hb2,g4,g6,hb86,hb7,hb4,hb40,h5,h5',hzJ]<;>try refine Ya ?_))
    .subst hW
     with_reducible repeat' (first|refine Sp.h ?_|((first|refine Wd ?_|refine Ss.h ?_|refine Sc.h (iy l _ 5 (by decide) (by omega)) ?_|refine Sc.h (iy l _ _ hne (by omega)) ?_)<;>simp -implicitDefEqProofs [hP,hN,g3,hb9,g2,hb2,g4,g6,hb86,hb7,hb4,hb71,h5,h5',hzJ]<;>try refine Ya ?_))
   .have h5':(nx l m 5==1)=false:=by simp[h5]
    rw[Ik h5];rcases hW with⟨hx,hW,hb71⟩|⟨_,hW,hb40⟩|⟨_,hW,hb71⟩
    .exact absurd hx hxs
    .subst hW
     with_reducible repeat' (first|refine Sp.h ?_|((first|refine Ss.h ?_|refine Sc.h (iy l _ 5 (by decide) (by omega)) ?_)<;>simp -implicitDefEqProofs [hP,hN,g3,hb9,g2,hb2,g4,g6,hb86,hb7,hb4,hb40,h5,h5',hzJ]))
    .subst hW
     with_reducible repeat' (first|refine Sp.h ?_|((first|refine Ss.h ?_|refine Sc.h (iy l _ 5 (by decide) (by omega)) ?_)<;>simp -implicitDefEqProofs [hP,hN,g3,hb9,g2,hb2,g4,g6,hb86,hb7,hb4,hb71,h5,h5',hzJ]))
theorem Uc(t:Tr)(v:Verd)(ht:TSm t)(hvv:tD 16777216 v)(hyes:dc t 0 v=true):n9 Tryz.prog 77 ([fe t,Z 0,nu v].map .pv) mG (λr h'=>r=.tup [.agg ([iv t.root].map .pv++[.arr 291 ((cJ t 0 v).cells.map bD).length]),.pv (B true)]∧h'=fS 58 8 ((cJ t 0 v).cells.map bD)):=by
 have hT:cJ t 0 v=dv t 0 v:=by unfold cJ;rw[IR hyes];rfl
 have hparts:=hyes;simp only[dc,An,HX]at hparts;obtain⟨⟨⟨⟨⟨hv,_⟩,h0⟩,hlf⟩,h3⟩,hf⟩:=hparts
 have hlt:0<t.cells.length:=by omega
 have hl:=ht.cells;have cb:=Qm t (by omega);rw[hv]at cb
 have hne:t.cells≠[]:=by intro e;rw[e]at hlt;simp at hlt
 have cc:=KP t ht hne;generalize hc:t.cells[0]=c at *
 have hci:t.cells[0]?=some c:=by rw[an hlt,hc]
 have hlf:dZ c=true:=by simpa[eE,hci]using hlf
 have h3:c.v.kind=0:=by simpa[eM,hci]using h3
 have cl:=KH c;have cf:=OQ v;have cv:=OU v hvv;rw[hlf]at cl;rw[hf]at cf
 have h3':(c.v.kind !=0)=false:=by simp[h3]
 have hcl:=zH hlf
 have q1:c.joint=-1:=by rw[hcl];rfl
 have q2:c.low=-1:=by rw[hcl];rfl
 have q3:c.high=-1:=by rw[hcl];rfl
 clear hcl
 have hlen:((dv t 0 v).cells.map bD).length=t.cells.length:=by simp[dv]
 rw[hT,hlen]
 have hrow:(t.cells.map bD).set 0 (bD (aH v))=(dv t 0 v).cells.map bD:=by simp[dv,QH]
 clear hyes ht hvv hl
 have hlt2:¬(t.cells.length:Int)<=0:=by omega
 refine Hm Tryz.func77 CM ?_;intro C hP hN;simp only[Tryz.f77]at hN|-
 with_reducible iterate 7 any_goals (first|refine Sp.h ?_|((first|refine Wd ?_|refine Ss.h ?_|refine Sc.h (cc) ?_|(refine Sb.h ?_ ?_ ?_<;>(try intro hgd)<;>try exact Xy))<;>simp -implicitDefEqProofs (maxSteps:=2000000) [hP,hN,tV,mG,hlt,hci,hc,h3']<;>try refine Yc ?_)|refine X2 ?_ ?_|(refine Xd ?_ ?_<;>intro hcd<;>try exact Xx))
 refine Hq 10 291 (e:=58) (sz:=8) (fz:=0) (xs:=t.cells.map bD) (by simp[ai,mG]) (by simp[ai,mG]) (by omega) (by omega) ?_
 refine WP.of_st (P:=λst=>st.t 1=.pv (Z 0)∧st.t 3=.ptr 3 0∧st.t 5=.ptr 5 0∧st.t 6=.ptr 6 0∧st.t 7=.ptr 7 0∧st.h 3=some (.box [.pv (iv t.root),.pv (.sl (t.cells.map bD))] true false)∧st.h 5=some (.box [.pv (Z v.kind),.pv (aU v.nor),.pv (Z v.pair),.pv (zs v.left),.pv (zs v.right)] true false)∧st.h 6=some (.box [.pv (iv t.root),.arr 291 t.cells.length] true false)∧st.h 7=some (.box [.pv (B false)] true false)∧st.h 291=some (.row 58 8 (t.cells.map bD) 0)∧∀k,290<=k->k≠291->st.h k=none)
  ⟨⟨by simp[bX,bt,ai],by simp[bX,bt,rk,ai],by simp[bX,bt,rk,ai],by simp[bX,bt,rk,ai],by simp[bX,bt,rk,ai],by simp[bN,dp,bX,bt,rk,ai],by simp[bN,dp,bX,bt,rk,ai],by simp[bN,dp,bX,bt,rk,ai],by simp[bN,dp,bX,bt,rk,ai],by simp[bN,dp,ai],λk h1 h2=>?_⟩,?_⟩
 .simp[bN,ai,mG,h2,show¬k=3 by omega,show¬k=5 by omega,show¬k=6 by omega,show¬k=7 by omega,show¬k=10 by omega]
 rintro st ⟨g1,g3,g5,g6,g7,b3,b5,b6,b7,b291,bhi⟩
 with_reducible repeat' (first|refine Sp.h ?_|((first|refine Wd ?_|refine Ss.h ?_|refine Sc.h (cb) ?_|refine Sc.h (cl) ?_|refine Sc.h (cf) ?_|refine Sc.h (cv) ?_|(refine Sb.h ?_ ?_ ?_<;>(try intro hgd)<;>try exact Xy))<;>simp -implicitDefEqProofs (maxSteps:=2000000) [hP,hN,g1,g3,g5,g6,g7,b3,b5,b6,b7,b291,hlt,hlt2,hne,hci,hc,h3']<;>try refine Yc ?_)|refine X2 ?_ ?_|(refine Xd ?_ ?_<;>intro hcd<;>try exact Xx))
 have hk:291≠6:=by omega
 refine xx (H:=fS 58 8 ((dv t 0 v).cells.map bD)) (r:=.tup [.agg [.pv (iv t.root),.arr 291 t.cells.length],.pv (B true)]) (by simp[mS,ly,g6,g7]) rfl (λk hk=>?_) ⟨λk b hb=>?_,λk b o hb=>?_,λk b hb=>?_,λk cs o f hb=>?_⟩ ⟨rfl,rfl⟩ (λk cs f hk=>by cases hk)
 .simp only[inK,An,HX]at hk
  by_cases e:k=291
  .subst e
   simp only[fS,J4,<-hrow];simp[ai,q1,q2,q3,aH]
  .simp[fS,ai,e,show¬k=6 by omega,show¬k=7 by omega]
   exact bhi k hk.1 e
 .obtain⟨rfl,_⟩:=gh hb;rfl
 .obtain⟨_,rfl⟩:=gh hb;simp[Blk.frz]
 .obtain⟨_,rfl⟩:=gh hb;rfl
 .obtain⟨_,h9⟩:=gh hb;cases h9
set_option maxRecDepth 100000 in
@[simp] theorem TH:fJ Tryz.prog 73:=by
 have hf:=Tryz.func73;have nt:=Tryz.ntmps73;have rs:=Tryz.results73;exact BN
theorem Ud(sc:Sce)(t:Tr)(c:Cel)(hs:ScL sc)(ht:TSm t)(h0:gv sc=0)(hb:fh t 0=true)(hi:gY sc.js sc.ms (dB t 0)=true)(hc:t.cells[0]?=some c)(hbl:(dB t 0).length<=9223372036854775807)(hnl:c.v.nor.length<=9223372036854775807)
 (hvv:tD 16777216 (aZ (bM sc (dB t 0) c.v.nor)))(hyes:dc t 0 (aZ (bM sc (dB t 0) c.v.nor))=true):
 n9 Tryz.prog 33 ([eT sc,fe t,Z 0].map .pv) mG (λr h'=>r=.tup [.agg ([iv t.root].map .pv++[.arr 291 ((cJ t 0 (aZ (bM sc (dB t 0) c.v.nor))).cells.map bD).length]),.pv (B true)]∧h'=fS 58 8 ((cJ t 0 (aZ (bM sc (dB t 0) c.v.nor))).cells.map bD)):=by
 have cS:=Uc t _ ht hvv hyes;have cs:=Eh sc hs;have ci:=TY sc.js sc.ms (dB t 0) hs.js hs.ms;have co:=U4 t 0 (by have:=ht.cells;omega);have cB:=Qd sc (dB t 0) c.v.nor hs hbl hnl;rw[h0]at cs;rw[hi]at ci;rw[hb]at co;have hlt:0<t.cells.length:=(th.1 hc).1;have hc':∀h,t.cells[0]'h=c:=λh=>iR hc h
 have hYl:((cJ t 0 (aZ (bM sc (dB t 0) c.v.nor))).cells.map bD).length=t.cells.length:=by
  unfold cJ;rw[IR hyes];simp[dv]
 have hlt2:¬(t.cells.length:Int)<=0:=by omega
 have hne:t.cells≠[]:=by intro e;rw[e]at hlt;simp at hlt
 have henc:nu (aZ (bM sc (dB t 0) c.v.nor))=AK (bM sc (dB t 0) c.v.nor):=rfl;rw[henc]at cS;clear henc hyes hvv hi hbl hnl ht;generalize(cJ t 0 (aZ (bM sc (dB t 0) c.v.nor))).cells.map bD=Y at *;generalize bM sc (dB t 0) c.v.nor=V at *;generalize dB t 0=bx at *;refine Hm Tryz.func33 CM ?_;intro C hP hN;simp only[Tryz.f33]at hN|-
 with_reducible repeat' (first|refine Sp.h ?_|((with_unfolding_all refine WP.drawX (hn:=[]) 12 rfl (by rw[hP];kernel_rfl) (by kernel_rfl) ?_);simp -implicitDefEqProofs (maxSteps:=2000000) [hP,hN,tV,mG,hlt,hlt2,hne,hc,hc'])|((first|refine Wd ?_|refine Ss.h ?_|refine Sc.h (cs) ?_|refine Sc.h (ci) ?_|refine Sc.h (co) ?_|refine Sc.h (cB) ?_|(refine Sb.h ?_ ?_ ?_<;>(try intro hgd)<;>try exact Xy))<;>simp -implicitDefEqProofs (maxSteps:=2000000) [hP,hN,tV,mG,hlt,hlt2,hne,hc,hc']<;>try refine Yc ?_)|refine X2 ?_ ?_|(refine Xd ?_ ?_<;>intro hcd<;>try exact Xx))
 refine⟨_,Ho (f:=.func 77) (xs:=[.tmp 33,.tmp 34,.tmp 44]) (g:=77) (d:=45) rfl rfl rfl (by simp[dD]) (by simp[ai,mG]) rfl (by simp[St.ev]) cS,?_⟩;simp -implicitDefEqProofs (maxSteps:=2000000) [hP,hN,hlt,hc,hc',mG];refine Ya ?_;refine Hq 45 291 (e:=58) (sz:=8) (fz:=0) (xs:=Y) (by simp[ai,mG]) (by simp[ai,mG]) (by omega) (by omega) ?_
 refine WP.of_st (P:=λst=>st.t 6=.ptr 6 0∧st.t 7=.ptr 7 0∧st.h 6=some (.box [.pv (iv t.root),.arr 291 Y.length] true false)∧st.h 7=some (.box [.pv (B true)] true false)∧st.h 291=some (.row 58 8 Y 0)∧∀k,290<=k->k≠291->st.h k=none)
  ⟨⟨by simp[bX,bt,rk,ai],by simp[bX,bt,rk,ai],by simp[bN,dp,bX,bt,rk,ai],by simp[bN,dp,bX,bt,rk,ai],by simp[bN,dp,ai],λk h1 h2=>?_⟩,?_⟩
 .simp[bN,ai,mG,h2,show¬k=3 by omega,show¬k=4 by omega,show¬k=6 by omega,show¬k=7 by omega,show¬k=45 by omega]
 rintro st ⟨g6,g7,b6,b7,b291,bhi⟩
 with_reducible repeat' (first|refine Sp.h ?_|((first|refine Wd ?_|refine Ss.h ?_|(refine Sb.h ?_ ?_ ?_<;>(try intro hgd)<;>try exact Xy))<;>simp -implicitDefEqProofs (maxSteps:=2000000) [hP,hN,g6,g7,b6,b7,b291]<;>try refine Yc ?_)|refine X2 ?_ ?_|(refine Xd ?_ ?_<;>intro hcd<;>try exact Xx))
 rw[hYl];refine xx (H:=fS 58 8 Y) (r:=.tup [.agg [.pv (iv t.root),.arr 291 t.cells.length],.pv (B true)]) (by simp[mS,ly,g6,g7,b6,b7,hYl]) rfl (λk hk=>?_) ⟨λk b hb=>?_,λk b o hb=>?_,λk b hb=>?_,λk cs o f hb=>?_⟩ ⟨rfl,rfl⟩ (λk cs f hk=>by cases hk)
 .simp only[inK,An,HX]at hk
  by_cases e:k=291
  .subst e;simp[fS,b291]
  .simp[fS,e]
   exact bhi k hk.1 e
 .obtain⟨rfl,_⟩:=gh hb;rfl
 .obtain⟨_,rfl⟩:=gh hb;simp[Blk.frz]
 .obtain⟨_,rfl⟩:=gh hb;rfl
 .obtain⟨_,h9⟩:=gh hb;cases h9
end Go.Ab
