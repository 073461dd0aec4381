/- Part of the proof that the law TopFull holds for every input. -/
import Derived.Test.YtcfinjcapeemeaaGreatDoorFQ11
set_option linter.all false
set_option maxRecDepth 100000
set_option maxHeartbeats 4000000
namespace Go.Proofs.YtcfinjcapeemeaaGreatDoor.S
open Go Go.RowKit IntKind Go.Proofs.Tryz
theorem QX{α:Type} [Inhabited α]{l:List α}{i:Nat}{v:α}(h:i<l.length)(j:Nat):aa (l.set ((i:Int)).toNat v) j=if j=i then v else aa l j:=by
 show((l.set i v)[((j:Int)).toNat]?).getD default=_;rw[awa,List.getElem?_set];by_cases a:i=j
 ·simp_all
 ·rw[au6 a,au6 (λh=>a h.symm)];rfl
theorem fi{α:Type} [Inhabited α]{l:List α}{i:Nat}{v:α}(h:i<l.length){j:Nat}(a:j≠i):aa (l.set ((i:Int)).toNat v) j=aa l j:=(QX h j).trans (au6 a)
theorem js{α:Type} [Inhabited α]{l:List α}{i:Nat}{v:α}(h:i<l.length):aa (l.set ((i:Int)).toNat v) i=v:=(QX h i).trans (ava rfl)
def aW(m:ak)(r:aI):ak:=(ef (r,m)).2
theorem agx{b:ab}{s:bO}{m:ak}{r:aI}{n:Int}(h:(kP (b,s,m,r,n)).2.2.2=0):cJ (b,m)=true/\iW (b,r)=true:=by
 grind [kP,eY,cJ]
structure AU (l:List aI) (t t':aq):Prop where
 eq: ∃aX bud,t'=(t.1,(l.foldl aW t.2.1.1,aX,t.2.1.2.2),t.2.2.1,t.2.2.2.1,bud,0,t.2.2.2.2.2.2)
 aU:aT t.1 t.2.1.1->aT t.1 (l.foldl aW t.2.1.1)
theorem HC{l:List aI}{t:aq}(s:t.1.2.2.2.2.2.2.2.length<=maxLen)(u:l.length<=maxLen)(f:(dH (l,t)).2.2.2.2.2.2.1=0):AU l t (dH (l,t)).2:=by
 have w:=na (step:=gL) (k:=(l,l.length)) (I:=λy=> ∃i:Nat,y.1=i/\i<=l.length/\(y.2.2.2.2.2.2.1=0->AU (l.take i) t y.2)) (mu:=λy=>(l.length-y.1).toNat)
  (Q:=λo y=>match o with|some r=>r.2.2.2.2.2.2.1=0->AU l t r.2|none=>y.2.2.2.2.2.2.1=0->AU l t y.2) (λy x=>by
   obtain⟨i,h0,h1,h2⟩:=x;obtain⟨M,y⟩:=y;simp only at h0;subst h0;unfold gL;by_cases g:(i:Int)<l.length
   ·simp only[g,avn,auw]
    cases hf:(y.2.2.2.2.2.1 !=0)with
    |true=>rw[axq]at hf;rw[auw];exact λh=>absurd h hf
    |false=>
     rw[au8]at hf;have z:=h2 hf;have hi:i<l.length:=by omega
     have e:=cA (auz i) g u;rw[aur,e];refine⟨⟨i+1,rfl,hi,λf=> ?_⟩,dg g⟩;obtain⟨⟨aX,A,a⟩,C⟩:=z;have a:y=(t.1,((l.take i).foldl aW t.2.1.1,aX,t.2.1.2.2),t.2.2.1,t.2.2.2.1,A,0,t.2.2.2.2.2.2):=a;have J:=OI f;have j:=agx f;have ht:l.take (i+1)=l.take i++ [aa l i]:=by rw[bH l i hi];exact av3 hi
     have m:y.1=t.1:=by rw[a]
     have L:y.2.1.1=(l.take i).foldl aW t.2.1.1:=by rw[a]
     refine⟨⟨(kP (y.1,y.2.1.2.1,y.2.1.1,aa l i,y.2.2.2.2.1)).1,(kP (y.1,y.2.1.2.1,y.2.1.1,aa l i,y.2.2.2.2.1)).2.2.1,?_⟩,λhm=> ?_⟩
     ·refine awf m (awf (awf (J.trans ?_) (awf rfl ?_)) (awf ?_ (awf ?_ (awf rfl (awf f ?_)))))
      ·rw[ht,awn,L];rfl
      ·show y.2.1.2.2=_;rw[a]
      ·show y.2.2.1=_;rw[a]
      ·show y.2.2.2.1=_;rw[a]
      ·show y.2.2.2.2.2.2=_;rw[a]
     ·rw[ht,awn]
      rw[m]at j;exact mc (C hm) ((su s _).1 j.2).2
   ·simp only[g,av4,aur]
    have:i=l.length:=by omega
    rw[this,axy]at h2;exact h2) (Nat.succ (iZ (l,l.length) (0,t))) (0,t) ⟨0,rfl,awc _,λh=>⟨⟨_,_,by
     refine awf rfl (awf rfl (awf rfl (awf rfl (awf rfl (awf h rfl)))))⟩,λhm=>hm⟩⟩ (by unfold iZ;simp)
 revert f
 unfold dH vk vy;simp only;revert w
 cases bj gL (l,l.length) (Nat.succ (iZ (l,l.length) (0,t))) (0,t)with
 |some r=>intro h;exact h
 |none=>intro h;exact h
structure RdE (x:aq) (ct:List bE) (ld:List Int) (tk fa:Int):Prop where
 l1:ct.length=x.1.2.2.2.2.2.2.2.length
 l2:ld.length=x.1.2.2.2.2.2.2.2.length
 br:x.2.2.2.1=true->fa=x.2.1.2.2.2.2.2.2.2.2.2.1/\ ∀j:Nat,j<x.1.2.2.2.2.2.2.2.length->aa ct (j:Int)=(kM (x.1.2.1,aa x.2.1.2.2.1 (j:Int),(aa x.2.2.1.2.2 (j:Int)).1)).1/\aa ld (j:Int)=sY (x.1,aa x.2.1.2.2.2.2.2.1 (j:Int),(aa x.2.2.1.2.2 (j:Int)).2.2.2)
 bad:x.2.2.2.1=false->fa=hV x.2.1.2.2.2.2.2.2.2.2.2.1/\ct=x.2.1.2.2.1/\ld=x.2.1.2.2.2.2.2.1
 tk:tk=hV x.2.1.2.2.2.2.2.2.2.2.1
theorem T7{x:aq}(h:cF x): ∃ct ld tk s,(gi x).2=(x.1,(x.2.1.1,x.2.1.2.1,ct,x.2.1.2.2.2.1,x.2.1.2.2.2.2.1,ld,x.2.1.2.2.2.2.2.2.1,x.2.1.2.2.2.2.2.2.2.1,tk,s,x.2.1.2.2.2.2.2.2.2.2.2.2),x.2.2)/\RdE x ct ld tk s:=by
 unfold gi;cases hg:x.2.2.2.1 with
 |false=>
  exact⟨_,_,_,_,rfl,h.c1,h.c4,λh=>(by rw[hg]at h;cases h),λ_=>⟨rfl,rfl,rfl⟩,rfl⟩
 |true=>
  have g:=h.eK hg;have w:=h.n8;generalize a:x.1.2.2.2.2.2.2.2.length=n at*;have t:=fO (step:=uD) (k:=(x.2.2.1.2.2,x.2.2.1.2.2.length)) (n:=n)
   (λi y=>y.1=i/\ ∃ct ld,y.2=(x.1,(x.2.1.1,x.2.1.2.1,ct,x.2.1.2.2.2.1,x.2.1.2.2.2.2.1,ld,x.2.1.2.2.2.2.2.2.1,x.2.1.2.2.2.2.2.2.2.1,hV x.2.1.2.2.2.2.2.2.2.2.1,x.2.1.2.2.2.2.2.2.2.2.2.1,x.2.1.2.2.2.2.2.2.2.2.2.2),x.2.2)/\ct.length=n/\ld.length=n/\
    ∀j:Nat,(i<=j->aa ct j=aa x.2.1.2.2.1 j/\aa ld j=aa x.2.1.2.2.2.2.2.1 j)/\(j<i->aa ct j=(kM (x.1.2.1,aa x.2.1.2.2.1 j,(aa x.2.2.1.2.2 j).1)).1/\aa ld j=sY (x.1,aa x.2.1.2.2.2.2.2.1 j,(aa x.2.2.1.2.2 j).2.2.2)))
   (λi y hi m=>by
    obtain⟨u,y⟩:=y;obtain⟨h0,ct,ld,h1,h2,h3,h4⟩:=m;subst h0 h1;unfold uD;have l:(i:Int)<x.2.2.1.2.2.length:=by rw[g];omega
    simp only[l,auw];refine⟨_,rfl,cA (auz i) l (by rw[g];unfold maxLen;omega),_,_,rfl,(auu ..).trans h2,(auu ..).trans h3,λj=>⟨λf=> ?_,λf=> ?_⟩⟩
    ·have q:=(h4 j).1 (by omega)
     exact⟨(fi (by rw[h2];exact hi) (by omega)).trans q.1,(fi (by rw[h3];exact hi) (by omega)).trans q.2⟩
    ·by_cases o:j=i
     ·subst o
      have q:=(h4 j).1 (au2 _);refine⟨(js (by rw[h2];exact hi)).trans ?_,(js (by rw[h3];exact hi)).trans ?_⟩
      ·rw[q.1]
      ·rw[q.2]
     ·have q:=(h4 j).2 (by omega)
      exact⟨(fi (by rw[h2];exact hi) o).trans q.1,(fi (by rw[h3];exact hi) o).trans q.2⟩)
   (λy m=>by
    obtain⟨u,y⟩:=y;obtain⟨h0,_⟩:=m;subst h0;unfold uD;have l: ¬ ((n:Int)<x.2.2.1.2.2.length):=by rw[g];omega
    simp only[l,av4,aur]) (Nat.succ (CD (x.2.2.1.2.2,x.2.2.1.2.2.length) (0,x.1,(x.2.1.1,x.2.1.2.1,x.2.1.2.2.1,x.2.1.2.2.2.1,x.2.1.2.2.2.2.1,x.2.1.2.2.2.2.2.1,x.2.1.2.2.2.2.2.2.1,x.2.1.2.2.2.2.2.2.2.1,hV x.2.1.2.2.2.2.2.2.2.2.1,x.2.1.2.2.2.2.2.2.2.2.2),x.2.2))) (0,x.1,(x.2.1.1,x.2.1.2.1,x.2.1.2.2.1,x.2.1.2.2.2.1,x.2.1.2.2.2.2.1,x.2.1.2.2.2.2.2.1,x.2.1.2.2.2.2.2.2.1,x.2.1.2.2.2.2.2.2.2.1,hV x.2.1.2.2.2.2.2.2.2.2.1,x.2.1.2.2.2.2.2.2.2.2.2),x.2.2) (by unfold CD;simp[g]) ⟨rfl,_,_,rfl,h.c1.trans a,h.c4.trans a,λj=>⟨λ_=>⟨rfl,rfl⟩,λf=>absurd f (by omega)⟩⟩
  obtain⟨⟨_,ct,ld,h1,h2,h3,h4⟩,_⟩:=t;exact⟨ct,ld,_,_,h1,h2.trans a.symm,h3.trans a.symm,λ_=>⟨rfl,λj f=>(h4 j).2 (a▸f)⟩,λhb=>(by rw[hg]at hb;cases hb),rfl⟩
theorem SZ{x:aq}(h:ei x):ei (gi x).2:=by
 obtain⟨ct,ld,tk,f,a,hr⟩:=T7 h.tocF;rw[a];refine⟨⟨h.n8,?_,hr.l1,h.c2,h.c3,hr.l2,h.c5,h.c6,h.c7,h.c8,h.p1,h.p2,h.p3,h.ph,h.eK,h.cmd,h.iY⟩,h.aU,h.exp,h.lit⟩;cases hg:x.2.2.2.1 with
 |false=>show∀d∈ct,jj d.1;rw[(hr.bad hg).2.1];exact h.cf
 |true=>
  refine lp.2 λi hi=> ?_
  have hi:i<ct.length:=hi;rw[hr.l1]at hi;show jj (aa ct (i:Int)).1;rw[((hr.br hg).2 i hi).1];exact H3 (lp.1 h.cf i (by rw[h.c1];exact hi)) _
def qC(x:aq)(j:Int):bT:=bif !x.2.2.2.1 then(Az (x.1,j,aa x.2.1.2.2.2.1 j)).1 else(Ao (x.1,j,aa x.2.1.2.2.2.1 j,lX (x.1.1,(aa x.2.1.2.2.1 j).1))).1
def nZ(x:aq)(j:Int):af:=bif !x.2.2.2.1 then aa x.2.2.2.2.2.2.2.1 j else kS (x.1.1,lX (x.1.1,(aa x.2.1.2.2.1 j).1))
def oV(x:aq)(aB:List bT)(ea:List Bool)(a:List (af)):aq:=
 (x.1,(x.2.1.1,x.2.1.2.1,x.2.1.2.2.1,aB,x.2.1.2.2.2.2),x.2.2.1,x.2.2.2.1,x.2.2.2.2.1,x.2.2.2.2.2.1,ea,a,x.2.2.2.2.2.2.2.2)
structure wY (x:aq) (fl:List aI) (aB:List bT) (ea:List Bool) (sh:List (af)) (i:Nat):Prop where
 l1:aB.length=x.1.2.2.2.2.2.2.2.length
 l2:ea.length=x.1.2.2.2.2.2.2.2.length
 l3:sh.length=x.1.2.2.2.2.2.2.2.length
 tH: ∀r∈fl,∃j:Nat,j<x.1.2.2.2.2.2.2.2.length/\r=(5,0,0,(j:Int),1)
 fn:fl.length<=i
 aN: ∀j:Nat,i<=j->aa aB (j:Int)=aa x.2.1.2.2.2.1 (j:Int)/\aa sh (j:Int)=aa x.2.2.2.2.2.2.2.1 (j:Int)
 new: ∀j:Nat,j<i->aa aB (j:Int)=qC x j/\aa sh (j:Int)=nZ x j/\aa ea (j:Int)=true
theorem wY.step{x:aq}{fl:List aI}{aB:List bT}{ea:List Bool}{a:List (af)}{i:Nat}(h:wY x fl aB ea a i)(hi:i<x.1.2.2.2.2.2.2.2.length){k:List aI}(l:k=fl\/k=fl++ [(5,0,0,(i:Int),1)]){v:bT}(s:v=qC x i)
  {f:List (af)} (hs:f=bif !x.2.2.2.1 then a else a.set ((i:Int)).toNat (nZ x i)):
  wY x k (aB.set ((i:Int)).toNat v) (ea.set ((i:Int)).toNat true) f (i+1):=by
 subst s;have hb:i<aB.length:=by rw[h.l1];exact hi
 have hl:i<ea.length:=by rw[h.l2];exact hi
 have t:i<a.length:=by rw[h.l3];exact hi
 have m: ∀j:Nat,j≠i->aa f (j:Int)=aa a (j:Int):=λj o=>by
  grind [fi]
 have u:aa f (i:Int)=nZ x i:=by
  rw[hs];cases hg:(!x.2.2.2.1)with
  |true=>unfold nZ;rw[hg,auw,auw];exact(h.aN i (au2 _)).2
  |false=>exact js t
 refine⟨(auu ..).trans h.l1,(auu ..).trans h.l2,?_,?_,?_,λj o=> ?_,λj o=> ?_⟩
 ·rw[hs]
  cases(!x.2.2.2.1)with
  |true=>exact h.l3
  |false=>exact(auu ..).trans h.l3
 ·rcases l with rfl|rfl
  ·exact h.tH
  ·intro r hr
   rcases List.mem_append.1 hr with h1|h1
   ·exact h.tH r h1
   ·exact⟨i,hi,List.mem_singleton.1 h1⟩
 ·rcases l with rfl|rfl
  ·exact aAb h.fn
  ·rw[au1];exact Nat.succ_le_succ h.fn
 ·have q:=h.aN j (by omega)
  exact⟨(fi hb (by omega)).trans q.1,(m j (by omega)).trans q.2⟩
 ·by_cases g:j=i
  ·subst g
   exact⟨js hb,u,js hl⟩
  ·have q:=h.new j (by omega)
   exact⟨(fi hb g).trans q.1,(m j g).trans q.2.1,(fi hl g).trans q.2.2⟩
theorem PI{x:aq}(h:cF x): ∃fl aB ea a,DS (x.2.1.1.1,(x.2.1.1.1.length:Int)) ([],(0:Int),x)=(fl,(x.1.2.2.2.2.2.2.2.length:Int),oV x aB ea a)/\wY x fl aB ea a x.1.2.2.2.2.2.2.2.length:=by
 have m:=h.p1;have u:=h.n8;unfold DS;have o:=fO (step:=uT) (k:=(x.2.1.1.1,(x.2.1.1.1.length:Int))) (n:=x.1.2.2.2.2.2.2.2.length)
  (λi y=> ∃fl aB ea a,y=(fl,(i:Int),oV x aB ea a)/\wY x fl aB ea a i)
  (λi y hi l=>by
   obtain⟨fl,aB,ea,a,rfl,g⟩:=l;have f:(i:Int)<(x.2.1.1.1.length:Int):=by omega
   have hw:gF (aa x.2.1.1.1 (i:Int))=true:=by
    rw[(gM h.ph ⟨auz i,f⟩:aa x.2.1.1.1 (i:Int)=0)];rfl
   have e:=cA (auz i) f (by grind [maxLen]);unfold uT;simp only[f,avn,auw,hw,e];have s:pq ((i:Int),oV x aB ea a)=((),oV x (aB.set ((i:Int)).toNat (qC x i)) (ea.set ((i:Int)).toNat true) (bif !x.2.2.2.1 then a else a.set ((i:Int)).toNat (nZ x i))):=by
    unfold pq qC nZ oV;rw[<- (g.aN i (au2 _)).1];cases x.2.2.2.1<;>rfl
   rw[s];cases(aa (oV x (aB.set ((i:Int)).toNat (qC x i)) (ea.set ((i:Int)).toNat true) (bif !x.2.2.2.1 then a else a.set ((i:Int)).toNat (nZ x i))).2.1.2.2.2.1 (i:Int)).2.2.2.2.2&& !aa (oV x (aB.set ((i:Int)).toNat (qC x i)) (ea.set ((i:Int)).toNat true) (bif !x.2.2.2.1 then a else a.set ((i:Int)).toNat (nZ x i))).2.1.1.2.1 (i:Int)with
   |true=>exact⟨_,rfl,_,_,_,_,rfl,g.step hi (.inr rfl) rfl rfl⟩
   |false=>exact⟨_,rfl,_,_,_,_,rfl,g.step hi (.inl rfl) rfl rfl⟩)
  (λy l=>by
   obtain⟨fl,aB,ea,a,rfl,g⟩:=l;unfold uT;have f: ¬ ((x.1.2.2.2.2.2.2.2.length:Int)<(x.2.1.1.1.length:Int)):=by rw[m];omega
   simp only[f,av4,aur]) (Nat.succ (CK (x.2.1.1.1,(x.2.1.1.1.length:Int)) ([],(0:Int),x))) ([],(0:Int),x) (by unfold CK;simp[m])
   ⟨[],_,_,_,rfl,h.c2,h.c5,h.c6,λr hr=>(by cases hr),awc _,λj _=>⟨rfl,rfl⟩,λj t=>absurd t (by omega)⟩
 exact o.1
theorem Ij: ∀{l:List aI} {m:ak},(∀r∈l,r.1=5)-> ∃f,l.foldl aW m=(m.1,f,m.2.2)/\f.length=m.2.1.length
 | [],m,_=>⟨_,rfl,rfl⟩
 |r::l,m,h=>by
  have h1:aW m r=(m.1,aJ aw m.2.1 r.2.2.2.1 (r.2.2.2.2==1),m.2.2):=xD (h r List.mem_cons_self);obtain⟨f,h2,h3⟩:=Ij (m:=aW m r) λa hr=>h a (awh _ hr)
  refine⟨f,?_,h3.trans ?_⟩
  ·simp_all
  ·rw[h1];exact auu ..
theorem SA{x:aq}(h:cF x)(i:(fF x).2.2.2.2.2.2.1=0): ∃fl aB ea a g aX k,wY x fl aB ea a x.1.2.2.2.2.2.2.2.length/\g.length=x.2.1.1.2.1.length/\fl.foldl aW x.2.1.1=(x.2.1.1.1,g,x.2.1.1.2.2)/\
  (fF x).2=(x.1,((x.2.1.1.1,g,x.2.1.1.2.2),aX,x.2.1.2.2.1,aB,x.2.1.2.2.2.2),x.2.2.1,x.2.2.2.1,k,0,ea,a,x.2.2.2.2.2.2.2.2)/\(aT x.1 x.2.1.1->aT x.1 (x.2.1.1.1,g,x.2.1.1.2.2)):=by
 obtain⟨fl,aB,ea,a,s,o⟩:=PI h;unfold fF at i⊢;rw[s]at i⊢;have u:fl.length<=maxLen:=auq o.fn (auq h.n8 (by decide));obtain⟨⟨aX,k,hw⟩,hi⟩:=HC (t:=oV x aB ea a) (auq h.n8 (by decide)) u i;obtain⟨f,h1,h2⟩:=Ij (l:=fl) (m:=x.2.1.1) λr hr=>by obtain⟨j,_,rfl⟩:=o.tH r hr;rfl
 refine⟨fl,aB,ea,a,f,aX,k,o,h2,h1,?_,λhm=> ?_⟩
 ·rw[hw,<- h1];rfl
 ·rw[<- h1];exact hi hm
theorem V6{m a:ak}{e:List Int}(h:a.2.2.2.length=m.2.2.2.length):km (a,e)=km (m,e):=by
 simp_all [km]
theorem TL{x:aq}(h:ei x)(f:(fF x).2.2.2.2.2.2.1=0):ei (fF x).2:=by
 obtain⟨fl,aB,ea,i,j,aX,k,a,h2,h1,g,hi⟩:=SA h.tocF f;rw[g];exact⟨⟨h.n8,h.cf,h.c1,a.l1,h.c3,h.c4,a.l2,a.l3,h.c7,h.c8,h.p1,h2.trans h.p2,h.p3,h.ph,h.eK,h.cmd,h.iY⟩,hi h.aU,(V6 rfl).trans h.exp,h.lit⟩
theorem afB(t:aq):dH ([],t)=((),t):=by
 rfl
def tO(x:aq)(e:Int)(j:Int):Bool:=((e==0)&&(x.2.2.1.2.1.1==8))&&(x.2.2.1.2.1.2==j)
def EF:iE:=((0,0),(0,0,0,false,0),(0,0,0),0,0,0,false)
def Gg(x:aq)(aB:List bT)(aL:List iE)(a:List Bool):aq:=
 (x.1,(x.2.1.1,x.2.1.2.1,x.2.1.2.2.1,aB,aL,x.2.1.2.2.2.2.2),x.2.2.1,x.2.2.2.1,x.2.2.2.2.1,x.2.2.2.2.2.1,x.2.2.2.2.2.2.1,x.2.2.2.2.2.2.2.1,a,x.2.2.2.2.2.2.2.2.2)
structure Gh (x:aq) (e:Int) (aB:List bT) (aL:List iE) (rst:List Bool) (i:Nat):Prop where
 l1:aB.length=x.1.2.2.2.2.2.2.2.length
 l2:aL.length=x.1.2.2.2.2.2.2.2.length
 l3:rst.length=x.1.2.2.2.2.2.2.2.length
 aN: ∀j:Nat,i<=j->aa aB (j:Int)=aa x.2.1.2.2.2.1 (j:Int)/\aa aL (j:Int)=aa x.2.1.2.2.2.2.1 (j:Int)/\aa rst (j:Int)=aa x.2.2.2.2.2.2.2.2.1 (j:Int)
 new: ∀j:Nat,j<i->aa aB (j:Int)=(bif tO x e j then(we (x.1,(j:Int),aa x.2.1.2.2.2.1 (j:Int))).1 else aa x.2.1.2.2.2.1 (j:Int))/\aa aL (j:Int)=(bif tO x e j then EF else aa x.2.1.2.2.2.2.1 (j:Int))/\aa rst (j:Int)=(bif tO x e j then true else aa x.2.2.2.2.2.2.2.2.1 (j:Int))
theorem ajw{x:aq}{e:Int}{m0:ak}(h:cF x)(h0:m0.1=x.2.1.1.1): ∃aB aL f,C8 (e,x.2.1.1.1,x.2.1.1.1.length,m0,x.2.2.1.2.1) (0,x)=((x.1.2.2.2.2.2.2.2.length:Int),Gg x aB aL f)/\Gh x e aB aL f x.1.2.2.2.2.2.2.2.length:=by
 have o:=h.p1;have J:=h.n8;have z:=fO (step:=uy) (k:=(e,x.2.1.1.1,x.2.1.1.1.length,m0,x.2.2.1.2.1)) (n:=x.1.2.2.2.2.2.2.2.length)
  (λi y=> ∃aB aL f,y=((i:Int),Gg x aB aL f)/\Gh x e aB aL f i)
  (λi y hi s=>by
   obtain⟨aB,aL,f,rfl,a⟩:=s;have l:(i:Int)<x.2.1.1.1.length:=by rw[o];omega
   have A:=gM h.ph ⟨auz i,l⟩;have C:Fg (aa m0.1 i,aa x.2.1.1.1 i)=true:=by rw[h0,A];rfl
   have I:=cA (auz i) l (by rw[o];unfold maxLen;omega);have b1:i<aB.length:=by rw[a.l1];exact hi
   have t:i<aL.length:=by rw[a.l2];exact hi
   have u:i<f.length:=by rw[a.l3];exact hi
   have q:=a.aN i (au2 _);unfold uy;simp only[l,avn,auw,C,avw,aur,I];cases hr:((e==0)&&(x.2.2.1.2.1.1==8))&&(x.2.2.1.2.1.2==i)with
   |true=>
    refine⟨_,rfl,aB.set ((i:Int)).toNat (we (x.1,i,aa aB i)).1,aL.set ((i:Int)).toNat EF,f.set ((i:Int)).toNat true,rfl,(auu ..).trans a.l1,(auu ..).trans a.l2,(auu ..).trans a.l3,λj m=> ?_,λj m=> ?_⟩
    ·have p:=a.aN j (by omega)
     exact⟨(fi b1 (by omega)).trans p.1,(fi t (by omega)).trans p.2.1,(fi u (by omega)).trans p.2.2⟩
    ·by_cases g:j=i
     ·subst g
      have w:tO x e j=true:=hr;rw[w,auw,auw,auw,<- q.1];exact⟨js b1,js t,js u⟩
     ·have p:=a.new j (by omega)
      exact⟨(fi b1 g).trans p.1,(fi t g).trans p.2.1,(fi u g).trans p.2.2⟩
   |false=>
    refine⟨_,rfl,aB,aL,f,rfl,a.l1,a.l2,a.l3,λj m=>a.aN j (by omega),λj m=> ?_⟩;by_cases g:j=i
    ·subst g
     have w:tO x e j=false:=hr;rw[w,aur,aur,aur];exact q
    ·exact a.new j (by omega))
  (λy s=>by
   obtain⟨aB,aL,f,rfl,a⟩:=s;unfold uy;have l: ¬ (x.1.2.2.2.2.2.2.2.length<(x.2.1.1.1.length:Int)):=by rw[o];omega
   simp only[l,av4,aur]) (Nat.succ (B9 (e,x.2.1.1.1,x.2.1.1.1.length,m0,x.2.2.1.2.1) (0,x))) (0,x) (by unfold B9;simp[o])
   ⟨_,_,_,rfl,h.c2,h.c3,h.c7,λj _=>⟨rfl,rfl,rfl⟩,λj m=>absurd m (by omega)⟩
 exact z.1
def mK(x:aq)(a:List Bool)(aX:bO)(f st:Int):aq:=
 (x.1,((x.2.1.1.1,a,x.2.1.1.2.2),aX,x.2.1.2.2),x.2.2.1,x.2.2.2.1,f,0,x.2.2.2.2.2.2.1,x.2.2.2.2.2.2.2.1,x.2.2.2.2.2.2.2.2.1,x.2.2.2.2.2.2.2.2.2.1,x.2.2.2.2.2.2.2.2.2.2.1,x.2.2.2.2.2.2.2.2.2.2.2.1,x.2.2.2.2.2.2.2.2.2.2.2.2.1,st,x.2.2.2.2.2.2.2.2.2.2.2.2.2.2)
theorem OZ{x:aq}(h:cF x)(y:x.2.2.2.1=true)(i:(fA x).2.2.2.2.2.2.1=0): ∃g a aX f st aB aL k,a.length=x.2.1.1.2.1.length/\(g= []\/g= [(5,0,0,x.2.2.1.2.1.2,0)])/\g.foldl aW x.2.1.1=(x.2.1.1.1,a,x.2.1.1.2.2)/\st=(iB (x.1,x.2.1.1,x.2.2.1.2.1,(iA x).1)).2/\Gh (mK x a aX f st) st aB aL k x.1.2.2.2.2.2.2.2.length/\
  (ib x).2=Gg (mK x a aX f st) aB aL k/\(aT x.1 x.2.1.1->aT x.1 (x.2.1.1.1,a,x.2.1.1.2.2))/\(fA x).2=mK x a aX f st:=by
 have z:=h.cmd y;have s:=Hd (b:=x.1) (m:=x.2.1.1) (c:=x.2.2.1.2.1) (l:=(iA x).1) z;generalize u:(iB (x.1,x.2.1.1,x.2.2.1.2.1,(iA x).1)).2=st at*;generalize A:(iB (x.1,x.2.1.1,x.2.2.1.2.1,(iA x).1)).1=g at*;have C: ∀r∈g,r.1=5:=by
  grind
 have I:g.length<=maxLen:=by
  rcases s with rfl|rfl
  ·exact awc _
  ·exact(by decide:1<=maxLen)
 obtain⟨a,h1,h2⟩:=Ij (m:=x.2.1.1) C;have key:(fA x).2.2.2.2.2.2.1=0-> ∃aX f,(fA x).2=mK x a aX f st/\(aT x.1 x.2.1.1->aT x.1 (x.2.1.1.1,a,x.2.1.1.2.2)):=λj=>by
  unfold fA at j⊢;rw[u,A]at j⊢;obtain⟨⟨aX,f,hw⟩,hi⟩:=HC (t:=(x.1,x.2.1,x.2.2.1,x.2.2.2.1,x.2.2.2.2.1,x.2.2.2.2.2.1,x.2.2.2.2.2.2.1,x.2.2.2.2.2.2.2.1,x.2.2.2.2.2.2.2.2.1,x.2.2.2.2.2.2.2.2.2.1,x.2.2.2.2.2.2.2.2.2.2.1,x.2.2.2.2.2.2.2.2.2.2.2.1,x.2.2.2.2.2.2.2.2.2.2.2.2.1,st,x.2.2.2.2.2.2.2.2.2.2.2.2.2.2)) (auq h.n8 (by decide)) I j;refine⟨aX,f,?_,λhm=> ?_⟩
  ·rw[hw];unfold mK;rw[<- h1]
  ·rw[<- h1];exact hi hm
 have w: ∀(c:List Bool),(fA x).2.2.2.2.2.2.1=0->dH (lQ ((fA x).2.1,(fA x).2.2.1.1,c),(fA x).2)=((),(fA x).2):=λc j=>by
  obtain⟨aX,f,o,_⟩:=key j;have:lQ ((fA x).2.1,(fA x).2.2.1.1,c)= []:=by
   rw[o];exact Qg h.ph h.n0
  rw[this];exact afB _
 obtain⟨aX,f,o,hi⟩:=key i;have J:cF (mK x a aX f st):=⟨h.n8,h.cf,h.c1,h.c2,h.c3,h.c4,h.c5,h.c6,h.c7,h.c8,h.p1,h2.trans h.p2,h.p3,h.ph,h.eK,h.cmd,h.iY⟩;obtain⟨aB,aL,k,L,M⟩:=ajw (x:=mK x a aX f st) (e:=st) (m0:=x.2.1.1) J rfl;refine⟨g,a,aX,f,st,aB,aL,k,h2,s,h1,rfl,M,?_,hi,o⟩;unfold ib VT Vs;rw[w _ i,w _ i,u,show((fA x).2.2.2.2.2.2.1==(0:Int))=true by rw[i];rfl,show((fA x).2.2.2.2.2.2.1 !=(0:Int))=false by rw[i];rfl];simp only[auw,aur];rw[o];have N:=av2 Prod.snd L;cases(x.2.2.1.2.1.1 !=(0:Int))<;>exact N
theorem Ow{x:aq}(h:cF x)(j:x.2.2.2.1=true)(k:(ib x).2.2.2.2.2.2.1=0): ∃f a aX g st aB aL i,a.length=x.2.1.1.2.1.length/\(f= []\/f= [(5,0,0,x.2.2.1.2.1.2,0)])/\f.foldl aW x.2.1.1=(x.2.1.1.1,a,x.2.1.1.2.2)/\st=(iB (x.1,x.2.1.1,x.2.2.1.2.1,(iA x).1)).2/\Gh (mK x a aX g st) st aB aL i x.1.2.2.2.2.2.2.2.length/\
  (ib x).2=Gg (mK x a aX g st) aB aL i/\(aT x.1 x.2.1.1->aT x.1 (x.2.1.1.1,a,x.2.1.1.2.2)):=by
 have l:(fA x).2.2.2.2.2.2.1=0:=by
  revert k
  unfold ib;cases hq:((fA x).2.2.2.2.2.2.1==0)with
  |true=>simp_all
  |false=>
   have m:((fA x).2.2.2.2.2.2.1 !=0)=true:=by simp_all
   simp only[aur,m,auw];simp_all
 obtain⟨f,a,aX,g,st,aB,aL,i,o,s,t,u,w,y,z,_⟩:=OZ h j l;exact⟨f,a,aX,g,st,aB,aL,i,o,s,t,u,w,y,z⟩
theorem Vz{x:aq}(h:ei x)(a:(ie x).2.2.2.2.2.2.1=0):ei (ie x).2:=by
 unfold ie at a⊢;cases hg:x.2.2.2.1 with
 |false=>exact h
 |true=>
  rw[hg,auw]at a;obtain⟨f,g,aX,i,st,aB,aL,j,h1,h2,h3,h4,h5,h6,h7⟩:=Ow h.tocF hg a;rw[h6];exact⟨⟨h.n8,h.cf,h.c1,h5.l1,h5.l2,h.c4,h.c5,h.c6,h5.l3,h.c8,h.p1,h1.trans h.p2,h.p3,h.ph,h.eK,h.cmd,h.iY⟩,h7 h.aU,(V6 rfl).trans h.exp,h.lit⟩
def jf(s:af)(r:aI):af:=bif r.1==2 then fc (s,fo (r.2.1,r.2.2.1))else s
def Ai(t:aq)(s:af):aq:=(t.1,t.2.1,t.2.2.1,t.2.2.2.1,t.2.2.2.2.1,t.2.2.2.2.2.1,t.2.2.2.2.2.2.1,t.2.2.2.2.2.2.2.1,t.2.2.2.2.2.2.2.2.1,t.2.2.2.2.2.2.2.2.2.1,s,t.2.2.2.2.2.2.2.2.2.2.2)
abbrev jk:=((af)×Bool)×(af)×Bool×Int×ir
def Fk(t:aq)(c:List jk):aq:=(t.1,t.2.1,t.2.2.1,t.2.2.2.1,t.2.2.2.2.1,t.2.2.2.2.2.1,t.2.2.2.2.2.2.1,t.2.2.2.2.2.2.2.1,t.2.2.2.2.2.2.2.2.1,t.2.2.2.2.2.2.2.2.2.1,t.2.2.2.2.2.2.2.2.2.2.1,t.2.2.2.2.2.2.2.2.2.2.2.1,t.2.2.2.2.2.2.2.2.2.2.2.2.1,t.2.2.2.2.2.2.2.2.2.2.2.2.2.1,c)
theorem asw{l:List aI}{t:aq}(hl:l.length<=maxLen):qo (l,(l.length:Int)) ((0:Int),t)=((l.length:Int),Ai t (l.foldl jf t.2.2.2.2.2.2.2.2.2.2.1)):=by
 unfold qo;have g:=fO (step:=nr) (k:=(l,(l.length:Int))) (n:=l.length) (λi y=>y=((i:Int),Ai t ((l.take i).foldl jf t.2.2.2.2.2.2.2.2.2.2.1)))
  (λi y hi a=>by
   subst a;have f:(i:Int)<(l.length:Int):=by omega
   have h:=cA (auz i) f hl;have ht:l.take (i+1)=l.take i++ [aa l (i:Int)]:=by rw[bH l i hi];exact av3 hi
   unfold nr;simp only[f,avn,auw,h];cases hk:((aa l (i:Int)).1==(2:Int))with
   |true=>
    refine⟨_,rfl,?_⟩;rw[ht,awn,awb,List.foldl_nil,jf,hk,auw];rfl
   |false=>
    refine⟨_,rfl,?_⟩;rw[ht,awn,awb,List.foldl_nil,jf,hk,aur];rfl)
  (λy a=>by
   subst a;unfold nr;simp only[ay4,av4,aur]) (Nat.succ (Cx (l,(l.length:Int)) ((0:Int),t))) ((0:Int),t) (by unfold Cx;simp) rfl
 rw[g.1,axy]
structure A2 (n:Nat) (oc:List jk) (lit:List (af)) (gong:List Bool) (c:List jk) (i:Nat):Prop where
 len:c.length=n
 aN: ∀j:Nat,i<=j->aa c (j:Int)=aa oc (j:Int)
 new: ∀j:Nat,j<i->aa c (j:Int)=((aa oc (j:Int)).1,aa lit (j:Int),aa gong (j:Int),(aa oc (j:Int)).2.2.2)
theorem anN{r:List aI×ak×List Int×(List (af)×List Bool×af)×af}{t:aq}{n:Nat}(m:t.2.2.2.2.2.2.2.2.2.2.2.2.2.2.length=n)(hl:n<=8): ∃c,yM (t.2.2.2.2.2.2.2.2.2.2.2.2.2.2.length,r) (0,t)=((n:Int),Fk t c)/\A2 n t.2.2.2.2.2.2.2.2.2.2.2.2.2.2 r.2.2.2.1.1 r.2.2.2.1.2.1 c n:=by
 have o:=fO (step:=uz) (k:=(t.2.2.2.2.2.2.2.2.2.2.2.2.2.2.length,r)) (n:=n) (λi y=> ∃c,y=((i:Int),Fk t c)/\A2 n t.2.2.2.2.2.2.2.2.2.2.2.2.2.2 r.2.2.2.1.1 r.2.2.2.1.2.1 c i)
  (λi y hi g=>by
   obtain⟨c,rfl,a⟩:=g;have f:(i:Int)<t.2.2.2.2.2.2.2.2.2.2.2.2.2.2.length:=by omega
   have s:=cA (auz i) f (by unfold maxLen;omega);have b1:i<c.length:=by rw[a.len];exact hi
   unfold uz;simp only[f,s];refine⟨_,rfl,(c.set ((i:Int)).toNat _).set ((i:Int)).toNat _,rfl,(auu ..).trans ((auu ..).trans a.len),λj h=> ?_,λj h=> ?_⟩
   ·exact(fi (by rw[auu];exact b1) (by omega)).trans ((fi b1 (by omega)).trans (a.aN j (by omega)))
   ·by_cases l:j=i
    ·subst l
     refine(js (by rw[auu];exact b1)).trans ?_;have e:=js (v:=((aa c j).1,aa r.2.2.2.1.1 j,(aa c j).2.2)) b1;rw[<- a.aN j (au2 _)];have u:=av2 (λz:jk=>z.1) e;have w:=av2 (λz:jk=>z.2.1) e;have x:=av2 (λz:jk=>z.2.2.2) e;exact awf u (awf w (awf rfl x))
    ·exact(fi (by rw[auu];exact b1) l).trans ((fi b1 l).trans (a.new j (by omega))))
  (λy g=>by
   obtain⟨c,rfl,a⟩:=g;unfold uz;have f: ¬ ((n:Int)<t.2.2.2.2.2.2.2.2.2.2.2.2.2.2.length):=by omega
   simp only[f,av4,aur]) (Nat.succ (B5 (t.2.2.2.2.2.2.2.2.2.2.2.2.2.2.length,r) (0,t))) (0,t) (by unfold B5;simp[m]) ⟨_,rfl,m,λj _=>rfl,λj h=>absurd h (by omega)⟩
 exact o.1
theorem BD: ∀(l:List aI) (x:bY),(l.foldl cj x).1.2.1=l.foldl aW x.1.2.1
 | [],_=>rfl
 |r::l,x=>by rw[awb,awb,BD l];rfl
theorem Ql(m:bY)(e:az){i:ak}(h:m.1.2.1=m.1.1.foldl aW i):(dm m e).1.2.1=(dm m e).1.1.foldl aW i:=by
 unfold dm;cases fP (m.2,m.1.2.1)with
 |true=>show aW m.1.2.1 _=(m.1.1++ [_]).foldl aW i;simp_all
 |false=>exact h
theorem HN{i:ak}: ∀(l:List az) (m:bY),m.1.2.1=m.1.1.foldl aW i->(l.foldl dm m).1.2.1=(l.foldl dm m).1.1.foldl aW i
 | [],_,h=>h
 |e::l,m,h=>HN l _ (Ql m e h)
theorem Hh{i:ak}(l:List aI)(x:bY)(h:x.1.2.1=x.1.1.foldl aW i):(l.foldl cj x).1.2.1=(l.foldl cj x).1.1.foldl aW i:=by
 rw[BD,lj,awn,h]
theorem PC(b:ab)(m:ak)(e:List Int)(v:List aZ)(l:List bd)(press:bd)(br:Bool):(ix b m e v l press br).1.2.1=(ix b m e v l press br).1.1.foldl aW m:=by
 refine Hh _ _ ?_;unfold cg;cases br with
 |false=>rfl
 |true=>grind [HN,Hh]
abbrev qY:=List aI×ak×List Int×(List (af)×List Bool×af)×af
def kV(r:qY):Bool:= !((r.2.2.2.2.1==0)&&(r.2.2.2.2.2==0))
def qQ(r:qY)(w:aq):aq:=
 (w.1,(w.2.1.1,w.2.1.2.1,w.2.1.2.2.1,w.2.1.2.2.2.1,w.2.1.2.2.2.2.1,w.2.1.2.2.2.2.2.1,r.2.2.1,r.2.2.2.1.1,w.2.1.2.2.2.2.2.2.2.2.1,w.2.1.2.2.2.2.2.2.2.2.2.1,bif kV r then hV w.2.1.2.2.2.2.2.2.2.2.2.2 else w.2.1.2.2.2.2.2.2.2.2.2.2),w.2.2.1,w.2.2.2.1,w.2.2.2.2.1,w.2.2.2.2.2.1,w.2.2.2.2.2.2.1,w.2.2.2.2.2.2.2.1,w.2.2.2.2.2.2.2.2.1,w.2.2.2.2.2.2.2.2.2.1,w.2.2.2.2.2.2.2.2.2.2.1,w.2.2.2.2.2.2.2.2.2.2.2.1,!((r.2.2.2.2.1==0)&&(r.2.2.2.2.2==0)),w.2.2.2.2.2.2.2.2.2.2.2.2.2)
theorem QY{x:aq}{r:qY}(hr:lH (x.1,x.2.1.1,x.2.1.2.2.2.2.2.2.1,(eC x).1,x.2.1.2.2.2.2.2.2.2.1,x.2.2.1.1,x.2.2.2.1)=(r,0)):
  (iQ x).2=(yM (((qo (r.1,r.1.length) (0,qQ r (dH (r.1,x)).2)).2.2.2.2.2.2.2.2.2.2.2.2.2.2.2.length:Int),r) (0,(qo (r.1,r.1.length) (0,qQ r (dH (r.1,x)).2)).2)).2:=by
 unfold iQ vF vL;rw[hr];show(bif kV r then _ else _:Unit×aq).2=_;unfold qQ;cases kV r<;>rfl
theorem R4{r:qY}{w:aq}{n:Nat}(f:r.1.length<=maxLen)(g:w.2.2.2.2.2.2.2.2.2.2.2.2.2.2.length=n)(h:n<=8): ∃a,(yM (((qo (r.1,r.1.length) (0,qQ r w)).2.2.2.2.2.2.2.2.2.2.2.2.2.2.2.length:Int),r) (0,(qo (r.1,r.1.length) (0,qQ r w)).2)).2=Fk (Ai (qQ r w) (r.1.foldl jf w.2.2.2.2.2.2.2.2.2.2.1)) a/\A2 n w.2.2.2.2.2.2.2.2.2.2.2.2.2.2 r.2.2.2.1.1 r.2.2.2.1.2.1 a n:=by
 rw[asw f];obtain⟨a,h1,h2⟩:=anN (t:=Ai (qQ r w) (r.1.foldl jf w.2.2.2.2.2.2.2.2.2.2.1)) g h;exact⟨a,av2 Prod.snd h1,h2⟩
def Ak(x:aq)(r:qY)(aX:bO)(a:Int)(f:List jk):aq:=
 (x.1,(r.2.1,aX,x.2.1.2.2.1,x.2.1.2.2.2.1,x.2.1.2.2.2.2.1,x.2.1.2.2.2.2.2.1,r.2.2.1,r.2.2.2.1.1,x.2.1.2.2.2.2.2.2.2.2.1,x.2.1.2.2.2.2.2.2.2.2.2.1,bif kV r then hV x.2.1.2.2.2.2.2.2.2.2.2.2 else x.2.1.2.2.2.2.2.2.2.2.2.2),x.2.2.1,x.2.2.2.1,a,0,x.2.2.2.2.2.2.1,x.2.2.2.2.2.2.2.1,x.2.2.2.2.2.2.2.2.1,x.2.2.2.2.2.2.2.2.2.1,r.1.foldl jf x.2.2.2.2.2.2.2.2.2.2.1,x.2.2.2.2.2.2.2.2.2.2.2.1,kV r,x.2.2.2.2.2.2.2.2.2.2.2.2.2.1,f)
theorem akO{x w:aq}{r:qY}{aX:bO}{a:Int}{f:List jk}(hw:w=(x.1,(r.1.foldl aW x.2.1.1,aX,x.2.1.2.2),x.2.2.1,x.2.2.2.1,a,0,x.2.2.2.2.2.2))(hi:r.2.1=r.1.foldl aW x.2.1.1):Fk (Ai (qQ r w) (r.1.foldl jf w.2.2.2.2.2.2.2.2.2.2.1)) f=Ak x r aX a f:=by
 subst hw;unfold Ak;rw[hi];rfl
theorem alL{x:aq}{r:qY}(h:ei x)(o:r.1.length<=maxLen)(hi:r.2.1=r.1.foldl aW x.2.1.1)(hr:lH (x.1,x.2.1.1,x.2.1.2.2.2.2.2.2.1,(eC x).1,x.2.1.2.2.2.2.2.2.2.1,x.2.2.1.1,x.2.2.2.1)=(r,0))(l:(iQ x).2.2.2.2.2.2.1=0):
  ∃aX f a,(iQ x).2=Ak x r aX f a/\A2 x.1.2.2.2.2.2.2.2.length x.2.2.2.2.2.2.2.2.2.2.2.2.2.2 r.2.2.2.1.1 r.2.2.2.1.2.1 a x.1.2.2.2.2.2.2.2.length/\aT x.1 r.2.1:=by
 have g:=QY hr;have u:x.1.2.2.2.2.2.2.2.length<=maxLen:=auq h.n8 (by decide);have i:=(av2 List.length (xy r.1 x)).trans h.c8;have j: ∀w:aq,w=(dH (r.1,x)).2->(w.2.2.2.2.2.1=0->AU r.1 x w):=λw hw l=>by simp_all [HC]
 have k:=xy r.1 x;revert g i j k
 generalize(dH (r.1,x)).2=w;intro g i j k;obtain⟨a,h1,h2⟩:=R4 o i h.n8;have m:=g.trans h1;have s:=(av2 (λt:aq=>t.2.2.2.2.2.1) m).symm.trans l;obtain⟨⟨aX,f,hw⟩,hm⟩:=j w rfl s;refine⟨aX,f,a,m.trans (akO hw hi),k▸h2,?_⟩;rw[hi];exact hm h.aU
def fG(x:aq):bY:=ix x.1 x.2.1.1 x.2.1.2.2.2.2.2.2.1 (eC x).1 x.2.1.2.2.2.2.2.2.2.1 x.2.2.1.1 x.2.2.2.1
def NC(x:aq):List Int:=(gQ (x.1,(cg x.1 x.2.1.1 x.2.1.2.2.2.2.2.2.1 (eC x).1 x.2.1.2.2.2.2.2.2.2.1 x.2.2.1.1 x.2.2.2.1).1.2.1,(cg x.1 x.2.1.1 x.2.1.2.2.2.2.2.2.1 (eC x).1 x.2.1.2.2.2.2.2.2.2.1 x.2.2.1.1 x.2.2.2.1).1.2.2.1,(eC x).1)).1.2.1
def eS(x:aq):qY:=((fG x).1.1,(fG x).1.2.1,NC x,(fG x).1.2.2.2)
theorem N5{x:aq}(h:ei x)(g:(iQ x).2.2.2.2.2.2.1=0): ∃aX i a,(iQ x).2=Ak x (eS x) aX i a/\A2 x.1.2.2.2.2.2.2.2.length x.2.2.2.2.2.2.2.2.2.2.2.2.2.2 (eS x).2.2.2.1.1 (eS x).2.2.2.1.2.1 a x.1.2.2.2.2.2.2.2.length/\
  aT x.1 (eS x).2.1:=by
 have f:=Cy x.2.2.1.1 x.2.2.2.1 h.aU h.exp (mf x) h.lit;exact alL h (auq f.len (by decide)) (PC _ _ _ _ _ _ _) f.eq g
theorem Ph{P:aI->Prop}(h1: ∀f d,P (1,f,d,0,0)): ∀(l:List az) (m:bY),(∀r∈m.1.1,P r)-> ∀r∈(l.foldl dm m).1.1,P r
 | [],_,h=>h
 |e::l,m,h=>by
  refine Ph h1 l (dm m e) λr hr=> ?_
  unfold dm at hr;revert hr
  cases fP (m.2,m.1.2.1)with
  |true=>
   intro hr;rcases List.mem_append.1 (show r∈m.1.1++ [(1,e.1,e.2.1,0,0)]from hr)with h2|h2
   all_goals simp_all
  |false=>simp_all
theorem Ie{b:ab}{m:ak}{e:List Int}{v:List aZ}{l:List (af)}(press:af)(br:Bool)(hm:aT b m)(i:km (m,e)=true)(a:v.length=b.2.2.2.2.2.2.2.length):
  du [] (cg b m e v l press br)/\(cg b m e v l press br).2=b/\ ∀r∈(cg b m e v l press br).1.1,r.1=1\/r.1=2:=by
 have f:=Hu (m:=m) (e:=e) (by rw[i];rfl);unfold cg;cases br with
 |true=>
  rw[auw];obtain⟨j,k⟩:=ui hm a;have o:du (cC (b,m,v)) (([],m,e,(dI (b,v,l)).1,0,0),b):=⟨hm,f,j⟩;obtain⟨w,s,t⟩:=rP o (auq k (by decide));have u:du [] (List.foldl cj ((([]:List aI),m,e,(dI (b,v,l)).1,0,0),b) (cC (b,m,v))):=s.with (λr hr=>by cases hr);obtain⟨x,g,h⟩:=DU u press (bR m);rw[t]at g h;refine⟨g,h,Ph (P:=λr=>r.1=1\/r.1=2) (λ_ _=> .inl rfl) _ _ λr hr=> ?_⟩;rw[lj,yj hm a,awv]at hr;grind
 |false=>exact⟨⟨hm,f,λr hr=>(by cases hr)⟩,rfl,λr hr=>(by cases hr)⟩
theorem ahb{x:aq}(h:ei x): ∀r∈(fG x).1.1,r.1=1\/r.1=2\/r.1=3\/r.1=7:=by
 obtain⟨h1,h2,h3⟩:=Ie (l:=x.2.1.2.2.2.2.2.2.2.1) x.2.2.1.1 x.2.2.2.1 h.aU h.exp (mf x);intro r hr;unfold fG ix at hr;rw[lj]at hr;have a:=(rM (x:=(cg x.1 x.2.1.1 x.2.1.2.2.2.2.2.2.1 (eC x).1 x.2.1.2.2.2.2.2.2.2.1 x.2.2.1.1 x.2.2.2.1).1.2.2.1) (v:=(eC x).1) h1.aU).1;grind
theorem Ue: ∀{l:List aI} {m:ak},(∀r∈l,r.1≠4)->(l.foldl aW m).1=m.1
 | [],_,_=>rfl
 |r::l,m,h=>by
  rw[awb,Ue λa hr=>h a (awh _ hr)];exact PS (h r List.mem_cons_self)
theorem U4{x:aq}(h:ei x):(eS x).2.1.1=x.2.1.1.1:=by
 show(fG x).1.2.1.1=_;have e:(fG x).1.2.1=(fG x).1.1.foldl aW x.2.1.1:=PC _ _ _ _ _ _ _;rw[e];exact Ue λr hr=>by grind [ahb]
theorem Rx{x:aq}(h:ei x)(a:(iQ x).2.2.2.2.2.2.1=0):cF (iQ x).2:=by
 obtain⟨aX,j,k,f,h1,h3⟩:=N5 h a;have g:=U4 h;rw[f];exact⟨h.n8,h.cf,h.c1,h.c2,h.c3,h.c4,h.c5,h.c6,h.c7,h1.len,h3.l1,h3.l2,h3.l3,λp i=>h.ph p (g▸i),h.eK,h.cmd,h.iY⟩
section
open Go.Shelf Go.Lib
section
variable {P:Program} {G:Gd} {L:List (hM)} {T:Ty} {n:Nat} {w0 w w':World} {X0 X:Nat->Nat->Prop} {b:Nat} {mR0 mR:Map}
def Gx(L:List (hM))(T:Ty)(n:Nat)(pre:Option (T.den->Prop))(F:T.den->Ty.unit.den×T.den):Cv:=
 { p:=T,ax:= [],mask:= [.p],sz:= [n],ro:=false,vi:=L,q:=T,r:=Ty.unit,ao:=ah.none,vo:=L,pre:=pre,F:=F}
structure iH (G:Gd) (L:List (hM)) (T:Ty) (n:Nat) (w0:World) (X0:Nat->Nat->Prop) (b:Nat) (mR0:Map) (w:World) (y:T.den) (X:Nat->Nat->Prop) (mR:Map) (pc:List Value):Prop where
 hH:G.H w
 hX: ∀b p,X b p->b<w.heap.size/\ ¬ G.gl b
 hb: ∀q,X b q
 hl: ∀b',bD mR b'-> ∀q,X b' q
 kY:kC w [b] [n] pc
 rows:RowsIn X w [b] (nmV bn L) (enc T y) pc mR
 i1: ∀b',bD mR b'->bD mR0 b'\/w0.heap.size<=b'
 i2: ∀b' q,X0 b' q/\ ¬ bD mR0 b'->X b' q
 bp:eB (λb'=>b'=b\/bD mR0 b') w0 w
def qS(L:List (hM))(T:Ty)(n:Nat)(w0:World)(X0:Nat->Nat->Prop)(b:Nat)(mR0:Map)(w:World)(y:T.den):Prop:=
 ∀f,nodup (vnames (nmV f L))=true-> ∃(pc:List Value) (mR:Map),kC w [b] [n] pc/\RowsIn (λa q=>(X0 a q/\ ¬ bD mR0 a)\/bD mR a) w [b] (nmV f L) (enc T y) pc mR/\ ∀a,bD mR a->bD mR0 a\/w0.heap.size<=a
theorem Fu{pc:List Value}(h:kC w [b] [n] pc): ∃(us:Array Value) (T:TypeId),w.heap[b]? =some (.cells us T (0,0))/\us.size=n/\pc=us.toList:=by
 obtain⟨us,T,a,h1,h2,h3,h4⟩:=h;have:a= []:=h4;simp_all
theorem iH.start{x:T.den}{pc:List Value}(hH:G.H w)(hX: ∀b p,X b p->b<w.heap.size/\ ¬ G.gl b)(hb: ∀q,X b q)(hl: ∀a,bD mR a-> ∀q,X a q)(f:kC w [b] [n] pc)(hr:RowsIn X w [b] (nmV bn L) (enc T x) pc mR):
 iH G L T n w X b mR w x X mR pc:=⟨hH,hX,hb,hl,f,hr,λ_ h=> .inl h,λ_ _ h=>h.1,rV⟩
theorem iH.grow{y:T.den}{pc:List Value}(h:iH G L T n w0 X0 b mR0 w y X mR pc)(f:Below w.heap.size w w'):iH G L T n w0 X0 b mR0 w' y X mR pc:=by
 have a:eB (λ_=>False) w w':=uu f;have g:dG X w w':=a.keeps (λ_ h=>h.elim);have i:di w X X:=λ_ _ _ h=>h
 have l:=(h.hX b 0 (h.hb 0)).1;obtain⟨us,m,h1,h2,h3⟩:=Fu h.kY;refine⟨G.mono ⟨a.os,a.tape,a.size,λb hb=>⟨G.low h.hH hb,a.block b (G.low h.hH hb) (λh=>h)⟩⟩ h.hH,λb p j=>⟨au5 (h.hX b p j).1 a.size,(h.hX b p j).2⟩,h.hb,h.hl,⟨us,m,[],by rw[a.block b l (λh=>h)];omega,h2,by simp_all,rfl⟩,?_,h.i1,h.i2,?_⟩
 ·exact⟨h.rows.bK,λk bx o=>(h.rows.box k bx o).eA g i (dz.refl _) λb p h1 h2=>⟨h1,a.block b (h.rows.live k b p h1 h2).2.2 (λh=>h)⟩,h.rows.cells.mono (CR.mono g i (λ_ _ _ h=>h)),h.rows.inj,λk b p h1 h2=>⟨(h.rows.live k b p h1 h2).1,(h.rows.live k b p h1 h2).2.1,au5 (h.rows.live k b p h1 h2).2.2 a.size⟩⟩
 ·exact h.bp.trans (uu f)
theorem iH.call{y:T.den}{pc:List Value}{f:FuncId}{pre:Option (T.den->Prop)}{F:T.den->Ty.unit.den×T.den}(h:iH G L T n w0 X0 b mR0 w y X mR pc)(C: ∀b q,X0 b q->b<w0.heap.size)
  (Q:gG P G f (Gx L T n pre F)) (I:nodup (vnames (nmV bn L))=true) (S: ∀q,pre=some q->q y):
  Calls P f #[.pointer (some ⟨b,0,none⟩)] w λe w'=>e= .returned (.tuple #[])/\(∃(X':Nat->Nat->Prop) (l:Map) (i:List Value),iH G L T n w0 X0 b mR0 w' (F y).2 X' l i)/\qS L T n w0 X0 b mR0 w' (F y).2:=by
 have h0:=Q y w X #[.pointer (some ⟨b,0,none⟩)] [] [] pc [b] mR h.hH h.hX S (by simp) (λa g q=>by rw[av8]at g;subst g;exact h.hb q) h.hl ⟨b,[],rfl,rfl,rfl,rfl⟩ (by trivial) h.kY h.rows;refine h0.mono λe w' U=> ?_
 obtain⟨v,J,V,Y,j,A⟩:=U;have Z:v= .tuple #[]:=Y;subst Z;have l1:pc.length=T.n:=(h.rows.cells.length.symm.trans CM).trans (lu T y);obtain⟨us,TT,h1,h2,h3⟩:=Fu h.kY;have h8:J= []:=by
  obtain⟨i,l,⟨t,u,x⟩⟩:=A bn I;obtain⟨b2,b3,b4,h9,a3⟩:=Fu (show kC w' [b] [n] i from t);have l2:(J++i).length=T.n:=by
   have:=(u.cells.length.symm.trans CM).trans (lu (.pair Ty.unit T) (F y));rw[this];show 0+T.n=T.n;exact avs _
  rw[au1]at l2;have a1:pc.length=n:=by rw[h3,avd,h2]
  have a2:i.length=n:=by rw[a3,avd,h9]
  exact avt (by omega)
 subst h8;have s:w0.heap.size<=w.heap.size:=h.bp.size;refine⟨V,?_,λM a4=> ?_⟩;rotate_left
 ·obtain⟨i,l,⟨t,u,x⟩⟩:=A M a4
  refine⟨i,l,t,?_,λa g=> ?_⟩
  ·refine RowsIn.mono (show RowsIn (λa q=>(X a q/\ ¬ bD mR a)\/bD l a) w' [b] (nmV M L) (enc T (F y).2) i l from u) λa q _ o=> ?_
   rcases o with o|o
   ·refine .inl ⟨h.i2 a q o,λh6=> ?_⟩
    rcases h.i1 a h6 with h7|h7
    ·exact o.2 h7
    ·have:=C a q o.1;omega
   ·exact .inr o
  ·rcases x a g with h4|h4
   ·exact h.i1 a h4
   ·exact .inr (auq s h4)
 obtain⟨i,l,⟨t,u,x⟩⟩:=A bn I;refine⟨λa q=>(X a q/\ ¬ bD mR a)\/bD l a,l,i,?_⟩;have a5:kC w' [b] [n] i:=t;have N:RowsIn (λa q=>(X a q/\ ¬ bD mR a)\/bD l a) w' [b] (nmV bn L) (enc T (F y).2) i l:=u;have a6: ∀a,((Gx L T n pre F).ro=false/\a∈ [b])\/bD mR a-> ∀q,X a q:=λa g=>by
  rcases g with⟨_,h4⟩|h4
  ·rw[av8]at h4;subst h4;exact h.hb
  ·exact h.hl a h4
 have a7: ¬ bD mR b:=λ⟨k,p,h4,h5⟩=>(h.rows.live k b p h4 h5).2.1 (List.mem_singleton.mpr rfl)
 refine⟨G.mono ⟨j.os,j.tape,j.size,λa g=>⟨G.low h.hH g,j.block a (G.low h.hH g) (λh4=>(h.hX a 0 (a6 a h4 0)).2 g)⟩⟩ h.hH,?_,λq=> .inl ⟨h.hb q,a7⟩,λa g q=> .inr g,a5,N,?_,?_,?_⟩
 ·rintro a p (⟨h4,_⟩|h4)
  ·exact⟨au5 (h.hX a p h4).1 j.size,(h.hX a p h4).2⟩
  ·obtain⟨k,q,h5,h6⟩:=h4
   refine⟨(N.live k a q h5 h6).2.2,λO=> ?_⟩;rcases x a ⟨k,q,h5,h6⟩with h7|h7
   ·exact(h.hX a 0 (h.hl a h7 0)).2 O
   ·have:=G.low h.hH O;omega
 ·intro a g
  rcases x a g with h4|h4
  ·exact h.i1 a h4
  ·exact .inr (auq s h4)
 ·rintro a q ⟨h4,h5⟩
  refine .inl ⟨h.i2 a q ⟨h4,h5⟩,λh6=> ?_⟩;rcases h.i1 a h6 with h7|h7
  ·exact h5 h7
  ·have:=C a q h4;omega
 ·have hL: ∀k,k<w0.heap.size-> ¬ (k=b\/bD mR0 k)-> ¬ (((Gx L T n pre F).ro=false/\k∈ [b])\/bD mR k):=λk m z h4=>by
   rcases h4 with⟨_,h5⟩|h5
   ·exact z (.inl (List.mem_singleton.mp h5))
   ·rcases h.i1 k h5 with h6|h6
    ·exact z (.inr h6)
    ·omega
  exact⟨j.os.trans h.bp.os,j.tape.trans h.bp.tape,j.output.trans h.bp.output,auq s j.size,λk m z=>(j.block k (au5 m s) (hL k m z)).trans (h.bp.block k m z),λk m=>(j.shape k (au5 m s)).trans (h.bp.shape k m),λk p m=>(j.frozen k p (au5 m s)).trans (h.bp.frozen k p m)⟩
theorem qS.fin{y:T.den}{x:T.den}{pre:Option (T.den->Prop)}{F:T.den->Ty.unit.den×T.den}(h:qS L T n w0 X0 b mR0 w y)(f:(F x).2=y):
  ∀a,nodup (vnames (nmV a L))=true-> ∃(pc:List Value) (mR:Map),pf (Gx L T n pre F) x X0 [b] mR0 a w0 w [] pc mR:=by
 subst f;intro a g;obtain⟨pc,mR,h1,h2,h3⟩:=h a g;exact⟨pc,mR,h1,h2,h3⟩
theorem iH.again{y:T.den}{pc:List Value}(h:iH G L T n w0 X0 b mR0 w y X mR pc):iH G L T n w X b mR w y X mR pc:=iH.start h.hH h.hX h.hb h.hl h.kY h.rows
theorem qS.aN{a:World}{y:T.den}(i:w0.heap.size<=a.heap.size)(h:qS L T n a X0 b mR0 w y):qS L T n w0 X0 b mR0 w y:=λf g=>by
 obtain⟨pc,mR,h1,h2,h3⟩:=h f g;grind
theorem iH.dA{y:T.den}{pc:List Value}(h:iH G L T n w0 X0 b mR0 w y X mR pc){s:Nat}(hs:s<w0.heap.size)(a: ∀q,¬ X0 s q)(hb: ∀q,X0 b q)(hl: ∀f,bD mR0 f-> ∀q,X0 f q):w.heap[s]? =w0.heap[s]? :=
 h.bp.block s hs λg=>g.elim (λh1=>a 0 (h1▸hb 0)) (λh1=>a 0 (hl s h1 0))
theorem iH.cell{y:T.den}{pc:List Value}(h:iH G L T n w0 X0 b mR0 w y X mR pc){i:Nat}{k:IntKind}{v:Int}(a:(vxC (nmV bn L) 0 (enc T y))[i]? =some (.int k v)):w.cell? ⟨b,i,none⟩=some (.int k v):=by
 obtain⟨u,h1,h2⟩:=h.rows.cells.get i _ a;obtain⟨us,f,h3,h4,h5⟩:=Fu h.kY;have h6:=h2;subst h6;unfold World.cell?;simp_all
theorem cell_of{W:World}{s i:Nat}{us:Array Value}{a:TypeId}{z:aR}{v:Value}(h:W.heap[s]? =some (.cells us a z))(f:us[i]? =some v):W.cell? ⟨s,i,none⟩=some v:=by
 unfold World.cell?;simp_all
end
end
section
open Go.Shelf Go.Lib
def kp(x:aq):Unit×aq:=
 let a:=(gi x).2
 bif a.2.2.2.2.2.1 !=0 then((),a)else
 let c:=(fF a).2
 bif c.2.2.2.2.2.1 !=0 then((),c)else
 let d:=(ie c).2
 bif d.2.2.2.2.2.1 !=0 then((),d)else
 let e:=(iQ d).2
 bif e.2.2.2.2.2.1 !=0 then((),e)else
 ((),(tF e).2)
def Yp(x:aq):Prop:=ei x
def kg:Cv:={ p:=dj,ax:= [],mask:= [.p],sz:= [43],ro:=false,vi:= [(15,true,70),(16,true,142),(17,true,153),(18,true,158),(32,true,4),(33,true,51),(34,true,4),(42,true,85)],q:=dj,r:=Ty.unit,ao:=ah.none,vo:= [(15,true,70),(16,true,142),(17,true,153),(18,true,158),(32,true,4),(33,true,51),(34,true,4),(42,true,85)],pre:=some Yp,F:=kp}
theorem aqy{args:Array Value}{f:List Value}{bs:List Nat}(h:mv [.p] args.toList f bs): ∃b,args= #[.pointer (some ⟨b,0,none⟩)]/\f= []/\bs= [b]:=by
 revert h
 cases hl:args.toList with
 |nil=>intro h;exact h.elim
 |cons a r=>
  rintro⟨b,bs',h1,h2,h3⟩
  cases r with
  |nil=>exact⟨b,ay9 (by simp_all),h3.1,by rw[h2,h3.2]⟩
  |cons _ _=>exact h3.elim
theorem as7:gG prog bC 90 kg:=by
 intro x w X args va cs pc bs j hH hX V c9 Y m Z h8 h9 a1;have l:ei x:=V _ rfl;obtain⟨b,rfl,rfl,rfl⟩:=aqy Z;have a2:cs= []:=h8;subst a2;have mixed:prog.follows .mixedOrders=true:=by kernel_rfl
 go_enter func90,ntmps90
 go_wp2_with fail
 obtain⟨f,o⟩: ∃f,f=w.alloc (.cells #[Value.func (Fn.func 127) #[Value.pointer (some ⟨b,0,none⟩)] #[],Value.func (Fn.func 128) #[Value.pointer (some ⟨b,0,none⟩)] #[],Value.func (Fn.func 129) #[Value.pointer (some ⟨b,0,none⟩)] #[],Value.func (Fn.func 130) #[Value.pointer (some ⟨b,0,none⟩)] #[],Value.func (Fn.func 131) #[Value.pointer (some ⟨b,0,none⟩)] #[]] 1):=⟨_,rfl⟩
 rw[<- o];have N:Below w.heap.size w f:=by rw[o];exact(aw6 _ _).alloc (au2 _) _
 have s:f.heap[w.heap.size]? =some (.cells #[Value.func (Fn.func 127) #[Value.pointer (some ⟨b,0,none⟩)] #[],Value.func (Fn.func 128) #[Value.pointer (some ⟨b,0,none⟩)] #[],Value.func (Fn.func 129) #[Value.pointer (some ⟨b,0,none⟩)] #[],Value.func (Fn.func 130) #[Value.pointer (some ⟨b,0,none⟩)] #[],Value.func (Fn.func 131) #[Value.pointer (some ⟨b,0,none⟩)] #[]] 1 (0,0)):=by
  rw[o];show(w.heap.push _)[w.heap.size]? =_;rw[ayz]
 have t:w.heap.size<f.heap.size:=by rw[o];show w.heap.size<(w.heap.push _).size;rw[Array.size_push];exact aAk _
 clear o;have u: ∀q,X b q:=Y b (by simp)
 have h0:=((iH.start (L:=kg.vi) (T:=kg.p) (n:=43) hH hX u m h9 a1).grow N).again;have z: ∀b q,X b q->b<f.heap.size:=λb' q l=>(h0.hX b' q l).1
 have C: ∀q,¬ X w.heap.size q:=λq l=>Nat.lt_irrefl _ (hX _ _ l).1
 have A:nodup (vnames (nmV bn kg.vi))=true:=by decide
 have d0:=cell_of (i:=0) s rfl;have fin: ∀(w':World) (y:aq),(∃(X':Nat->Nat->Prop) (I:Map) (J:List Value),iH bC kg.vi kg.p 43 f X b j w' y X' I J)->qS kg.vi kg.p 43 f X b j w' y->(kp x).2=y->
   ∃v O,Ending.returned (.tuple #[])= .returned v/\zh kg.ao O v/\eB (λP=>kg.ro=false/\P∈ [b]\/bD j P) w w'/\ ∀Q,nodup (vnames (nmV Q kg.vo))=true-> ∃J I,pf kg x X [b] j Q w w' O J I:=by
  rintro w' y ⟨X',I,J,hC⟩ hE hF
  refine⟨_,[],rfl,rfl,?_,qS.fin (hE.aN (aBu t)) hF⟩;have g:=hC.bp;have hL: ∀k,¬ (kg.ro=false/\k∈ [b]\/bD j k)-> ¬ (k=b\/bD j k):=λk M h=>M (h.imp (λh=>⟨rfl,by rw[h];exact List.mem_singleton.2 rfl⟩) id)
  exact(uu N).trans ⟨g.os,g.tape,g.output,g.size,λk hk M=>g.block k hk (hL k M),g.shape,g.frozen⟩
 have bz: ∀{a:Int},(a !=0)=false->a=0:=λh=>by rw[au8]at h;exact h
 refine wp_loop_rounds 6 ?_;rw[aAx];go_wp2_with (go_at_call 127;refine(h0.call z (pre:=some Vd) ZS A (λq h=>by cases h;exact l.tocF)).mono ?_;rintro e w1 ⟨rfl,⟨X1,d6,d7,h1⟩,b2⟩;have d9:=h1.cell (i:=31) (k:= .i64) (v:=(gi x).2.2.2.2.2.2.1) rfl;have e0:=cell_of (i:=1) ((h1.dA t C u m).trans s) rfl)
 ·rename_i f1
  (try simp only[Exit.inBlock,Exit.then])
  refine ax6 (azz rfl _ _ _) rfl ?_;refine fin w1 _ ⟨_,_,_,h1⟩ b2 ?_;unfold kp;simp only[f1,auw,aur]
 rename_i f1;have t1:=SZ l;rw[aAx];go_wp2_with (go_at_call 128;refine(h1.call z (pre:=some Vt) YJ A (λq h=>by cases h;exact t1.tocF)).mono ?_;rintro e w2 ⟨rfl,⟨X2,e2,e3,h2⟩,b4⟩;have e4:=h2.cell (i:=31) (k:= .i64) (v:=(fF (gi x).2).2.2.2.2.2.2.1) rfl;have e5:=cell_of (i:=2) ((h2.dA t C u m).trans s) rfl)
 ·rename_i f2
  (try simp only[Exit.inBlock,Exit.then])
  refine ax6 (azz rfl _ _ _) rfl ?_;refine fin w2 _ ⟨_,_,_,h2⟩ b4 ?_;unfold kp;simp only[f1,f2,auw,aur]
 rename_i f2;have t2:=TL t1 (bz f2);rw[aAx];go_wp2_with (go_at_call 129;refine(h2.call z (pre:=some Vc) WK A (λq h=>by cases h;exact t2.tocF)).mono ?_;rintro e w3 ⟨rfl,⟨X3,e7,e8,h3⟩,b6⟩;have e9:=h3.cell (i:=31) (k:= .i64) (v:=(ie (fF (gi x).2).2).2.2.2.2.2.2.1) rfl;have f0:=cell_of (i:=3) ((h3.dA t C u m).trans s) rfl)
 ·rename_i f3
  (try simp only[Exit.inBlock,Exit.then])
  refine ax6 (azz rfl _ _ _) rfl ?_;refine fin w3 _ ⟨_,_,_,h3⟩ b6 ?_;unfold kp;simp only[f1,f2,f3,auw,aur]
 rename_i f3;have t3:=Vz t2 (bz f3);rw[aAx];go_wp2_with (go_at_call 130;refine(h3.call z (pre:=some UN) YP A (λq h=>by cases h;exact t3)).mono ?_;rintro e w4 ⟨rfl,⟨X4,f6,f7,h4⟩,b9⟩;have f8:=h4.cell (i:=31) (k:= .i64) (v:=(iQ (ie (fF (gi x).2).2).2).2.2.2.2.2.2.1) rfl;have f9:=cell_of (i:=4) ((h4.dA t C u m).trans s) rfl)
 ·rename_i f4
  (try simp only[Exit.inBlock,Exit.then])
  refine ax6 (azz rfl _ _ _) rfl ?_;refine fin w4 _ ⟨_,_,_,h4⟩ b9 ?_;unfold kp;simp only[f1,f2,f3,f4,auw,aur]
 rename_i f4;have t4:=Rx t3 (bz f4);rw[aAx];go_wp2_with (go_at_call 131;refine(h4.call z (pre:=some Up) Y9 A (λq h=>by cases h;exact t4)).mono ?_;rintro e S ⟨rfl,⟨X5,g1,g2,h5⟩,U⟩;have g3:=h5.cell (i:=31) (k:= .i64) (v:=(tF (iQ (ie (fF (gi x).2).2).2).2).2.2.2.2.2.2.1) rfl;skip)
 ·(try simp only[Exit.inBlock,Exit.then])
  refine ax6 (azz rfl _ _ _) rfl ?_;refine fin S _ ⟨_,_,_,h5⟩ U ?_;unfold kp;simp only[f1,f2,f3,f4,aur]
 rw[aAx];go_wp2_with fail
 (try simp only[Exit.inBlock,Exit.then])
 refine bodyPost_end (azz rfl _ _ _) rfl ?_;refine fin S _ ⟨_,_,_,h5⟩ U ?_;unfold kp;simp only[f1,f2,f3,f4,aur]
def at5(nw:Bool):List (Nat×Zc):=(90,.pv kg)::(Y6 nw)
theorem Ca(nw:Bool):gj (at5 nw):=rF as7 ⟨_,func90,by kernel_rfl,by kernel_rfl⟩ (af7 nw)
end
theorem im{α:Type} [Inhabited α]{l:List α}{i:Int}(h0:0<=i)(h1:i<l.length):aa l i∈l:=by
 rw[Uf l i h0 h1];simp_all
theorem Ig{l:List Int}{g:Nat}(hl:l.length<=maxLen):mJ (l,some g)=true↔ ∃x∈l,sU g x=true:=by
 have s:=na (step:=uW) (k:=(l,some g,l.length)) (I:=λx=>0<=x/\x<=l.length/\ ∀j:Nat,j<x->sU g (aa l j)=false) (mu:=λx=>(l.length-x).toNat)
  (Q:=λo x=>match o with|some r=>0<=r/\ ∃x∈l,sU g x=true|none=> ∀j:Nat,j<l.length->sU g (aa l j)=false) (λx f=>by
   obtain⟨h0,h1,h2⟩:=f;unfold uW;by_cases a:x<l.length
   ·simp only[a]
    cases hf:sU g (aa l x)with
    |true=>simp only[axv,hf];exact⟨h0,_,im h0 a,hf⟩
    |false=>
     simp only[axv,hf];rw[cA h0 a hl];refine⟨⟨cE h0,by omega,λj m=> ?_⟩,dg a⟩;by_cases t:j=x
     ·rw[t];exact hf
     ·exact h2 j (by omega)
   ·simp only[a]
    exact λj m=>h2 j (by omega)) (Nat.succ (yH (l,some g,l.length) 0)) 0 ⟨au4 _,auz _,λj m=>absurd m (by omega)⟩ (by unfold yH;simp)
 unfold mJ MI U9;revert s
 cases bj uW (l,some g,l.length) (Nat.succ (yH (l,some g,l.length) 0)) 0 with
 |some r=>intro h;exact⟨λ_=>h.2,λ_=>axr h.1⟩
 |none=>
  intro h;refine⟨λh2=>(by simp[dJ]at h2),λ⟨x,f,hf⟩=> ?_⟩;obtain⟨i,hi,rfl⟩:=av0 f;have:=h i hi;rw[bH l i hi]at this;exact absurd (hf.symm.trans this) (by decide)
theorem adx{α:Type}(a b c:α): [a,b,c].length<=maxLen:=(by decide:3<=maxLen)
theorem Cs{n:Int}:Ah n=true↔ ¬ (0<=n/\n<=1000000):=by
 grind [Ah]
theorem Bt{l:List Int}(hl:l.length<=maxLen):pG l=true↔ ∀x∈l,0<=x/\x<=1000000:=by
 unfold pG;rw[avm,<- aw0,Ig hl];refine⟨λh x a=>ayw λf=>h ⟨x,a,?_⟩,λh ⟨x,a,g⟩=> ?_⟩
 ·exact Cs.2 f
 ·exact Cs.1 (show Ah x=true from g) (h x a)
theorem agF{m:ak}{e:List Int}(hl:e.length<=maxLen):km (m,e)=true↔e.length=m.2.2.2.length/\ ∀x∈e,0<=x/\x<=1000000:=by
 unfold km;rw[au0,awt,axf,avm,<- aw0,Ig hl];refine and_congr Iff.rfl ⟨λh x a=>ayw λf=>h ⟨x,a,?_⟩,λh ⟨x,a,g⟩=> ?_⟩
 ·exact Cs.2 f
 ·exact Cs.1 (show MK x=true from g) (h x a)
theorem aiF{l:List bE}{n:Int}{b:ab}(hl:l.length<=maxLen):(GA (l,n,b)).1=true↔(l.length:Int)=n/\ ∀i:Nat,i<l.length->mb (b.2.1,aa l (i:Int))=true:=by
 unfold GA aar;simp only;cases hc:((l.length:Int) !=n)with
 |true=>
  rw[axq]at hc;rw[auw];exact⟨λh=>(by cases h),λh=>absurd h.1 hc⟩
 |false=>
  rw[au8]at hc;rw[aur,scan (N:=l.length) (r:=(false,())) (br:=λi:Nat=>mb (b.2.1,aa l (i:Int))) hl (λi hi=>by
   have a:(i:Int)<(l.length:Int):=by omega
   unfold zi;simp only[a,avn,auw];show(bif(!(mb (b.2.1,aa l (i:Int))))then _ else _)=_;cases mb (b.2.1,aa l (i:Int))<;>rfl) (by unfold zi;simp only[ay4,av4,aur]) (by unfold DR;simp)]
  by_cases h: ∀i:Nat,i<l.length->mb (b.2.1,aa l (i:Int))=true
  ·rw[ava h];exact⟨λ_=>⟨hc,h⟩,λ_=>rfl⟩
  ·rw[au6 h];exact⟨λh2=>(by cases h2),λh2=>absurd h2.2 h⟩
theorem aiv{l:List bT}{n:Int}{b:ab}(hl:l.length<=maxLen):(F2 (l,n,b)).1=true↔l.length=n/\ ∀i:Nat,i<l.length->fI (b,i,aa l i)=true:=by
 unfold F2 aak;cases hc:(l.length !=n)with
 |true=>
  simp_all
 |false=>
  rw[au8]at hc;rw[aur,scan (r:=(false,())) (br:=λi:Nat=>fI (b,i,aa l i)) hl (λi hi=>by
   have a:(i:Int)<l.length:=by omega
   unfold zm;simp only[a,auw];show(bif(!(fI (b,i,aa l i)))then _ else _)=_;simp_all) (by simp_all [zm]) (by grind [Dz])]
  by_cases h: ∀i:Nat,i<l.length->fI (b,i,aa l i)=true
  ·rw[ava h];exact⟨λ_=>⟨hc,h⟩,λ_=>rfl⟩
  ·rw[au6 h];exact⟨λh2=>(by cases h2),λh2=>absurd h2.2 h⟩
theorem ahJ{l:List iE}{n:Int}{b:ab}(hl:l.length<=maxLen):(F1 (l,n,b)).1=true↔l.length=n/\ ∀i:Nat,i<l.length->jO (b,aa l i)=true:=by
 unfold F1 ZX;simp only;cases hc:(l.length !=n)with
 |true=>
  simp_all
 |false=>
  rw[au8]at hc;rw[aur,scan (r:=(false,())) (br:=λi:Nat=>jO (b,aa l i)) hl (λi hi=>by
   have a:(i:Int)<l.length:=by omega
   unfold zM;simp only[a,avn,auw];show(bif(!(jO (b,aa l i)))then _ else _)=_;simp_all) (by simp_all [zM]) (by grind [Ec])]
  by_cases h: ∀i:Nat,i<l.length->jO (b,aa l i)=true
  ·rw[ava h];exact⟨λ_=>⟨hc,h⟩,λ_=>rfl⟩
  ·rw[au6 h];exact⟨λh2=>(by cases h2),λh2=>absurd h2.2 h⟩
theorem aj2{l:List Int}{n:Int}(hl:l.length<=maxLen):Gt (l,n,some 66)=true↔l.length=n/\ ∀i:Nat,i<l.length->mN (i,aa l i)=true:=by
 unfold Gt YB;cases hc:(l.length !=n)with
 |true=>
  simp_all
 |false=>
  rw[au8]at hc;rw[aur,scan (r:=false) (br:=λi:Nat=>mN (i,aa l i)) hl (λi hi=>by
   have a:(i:Int)<l.length:=by omega
   unfold zB;simp only[a];show(bif(!(mN (i,aa l i)))then _ else _)=_;simp_all) (by simp_all [zB]) (by grind [J2])]
  by_cases h: ∀i:Nat,i<l.length->mN (i,aa l i)=true
  ·rw[ava h];exact⟨λ_=>⟨hc,h⟩,λ_=>rfl⟩
  ·rw[au6 h];exact⟨λh2=>(by cases h2),λh2=>absurd h2.2 h⟩
structure jE (b:ab) (m:bg):Prop where
 aU:aT b m.1
 room:18*((b.2.2.2.2.2.2.2.length:Int)+(m.1.2.2.2.length:Int))+6<=b.2.2.1
 aX:cV (b.2.2.1,m.2.1)=true
 ex:m.2.2.2.2.2.2.1.length=m.1.2.2.2.length/\ ∀x∈m.2.2.2.2.2.2.1,0<=x/\x<=1000000
 kX:(0<=m.2.2.2.2.2.2.2.2.1/\m.2.2.2.2.2.2.2.2.1<=1000000)/\(0<=m.2.2.2.2.2.2.2.2.2.1/\m.2.2.2.2.2.2.2.2.2.1<=1000000)/\0<=m.2.2.2.2.2.2.2.2.2.2/\m.2.2.2.2.2.2.2.2.2.2<=1000000
 ct:m.2.2.1.length=b.2.2.2.2.2.2.2.length/\ ∀i:Nat,i<m.2.2.1.length->mb (b.2.1,aa m.2.2.1 (i:Int))=true
 aB:m.2.2.2.1.length=b.2.2.2.2.2.2.2.length/\ ∀i:Nat,i<m.2.2.2.1.length->fI (b,(i:Int),aa m.2.2.2.1 (i:Int))=true
 new:m.2.2.2.2.1.length=b.2.2.2.2.2.2.2.length/\ ∀i:Nat,i<m.2.2.2.2.1.length->jO (b,aa m.2.2.2.2.1 (i:Int))=true
 ld:m.2.2.2.2.2.1.length=b.2.2.2.2.2.2.2.length/\ ∀i:Nat,i<m.2.2.2.2.2.1.length->mN ((i:Int),aa m.2.2.2.2.2.1 (i:Int))=true
 lit:m.2.2.2.2.2.2.2.1.length=b.2.2.2.2.2.2.2.length
structure aa2 (b:ab) (m:bg):Prop where
 h0:b.2.2.2.2.2.2.2.length<=maxLen
 h1:m.1.1.length<=maxLen
 h2:m.1.2.2.2.length<=maxLen
 h3:m.2.2.1.length<=maxLen
 h4:m.2.2.2.1.length<=maxLen
 h5:m.2.2.2.2.1.length<=maxLen
 h6:m.2.2.2.2.2.1.length<=maxLen
 h7:m.2.2.2.2.2.2.1.length<=maxLen
theorem Ih{b:ab}{m:ak}(h0:b.2.2.2.2.2.2.2.length<=maxLen)(h1:m.1.length<=maxLen)(h2:m.2.2.2.length<=maxLen):pC (b,m)=true↔aT b m/\18*(b.2.2.2.2.2.2.2.length+m.2.2.2.length)+6<=b.2.2.1:=by
 unfold pC;rw[au0,mZ h0 h1 h2];refine and_congr_right λhm=> ?_
 have a:=hm.bB.cn.2;have f:=hm.len;grind [aA]
theorem Og{b:ab}{m:bg}(h:aa2 b m):rh (b,m)=true↔jE b m:=by
 unfold rh;cases hc:((((!(pC (b,m.1)))||(!(cV (b.2.2.1,m.2.1))))||(m.2.2.2.2.2.2.1.length !=(m.1.2.2.2.length:Int)))||(!(pG m.2.2.2.2.2.2.1)))||(!(pG [m.2.2.2.2.2.2.2.2.1,m.2.2.2.2.2.2.2.2.2.1,m.2.2.2.2.2.2.2.2.2.2]))with
 |true=>
  refine⟨λh=>(by cases h),λq=>absurd hc ?_⟩;rw[aw0,(Ih h.h0 h.h1 h.h2).2 ⟨q.aU,q.room⟩,q.aX,(Bt h.h7).2 q.ex.2,(Bt (adx _ _ _)).2 (by simpa using⟨q.kX.1,q.kX.2.1,q.kX.2.2⟩),q.ex.1];simp
 |false=>
  rw[aur];simp only[auv,ave,au8,axf]at hc;obtain⟨⟨⟨⟨f,i⟩,j⟩,g⟩,a⟩:=hc;have f:=(Ih h.h0 h.h1 h.h2).1 f;have g:=(Bt h.h7).1 g;have a:=(Bt (adx _ _ _)).1 a;simp only[au0,aiF h.h3,aiv h.h4,ahJ h.h5,aj2 h.h6,awt,axf];refine⟨λ⟨⟨⟨⟨k,l⟩,o⟩,s⟩,t⟩=>⟨f.1,f.2,i,⟨j,g⟩,⟨a _ (by simp),a _ (by simp),a _ (by simp)⟩,k,l,o,s,t⟩,λr=>⟨⟨⟨⟨r.ct,r.aB⟩,r.new⟩,r.ld⟩,r.lit⟩⟩
theorem ah6{α:Type} [Inhabited α]{l:List α}{i:Nat}(h:i<l.length):l.set ((i:Int)).toNat (aa l i)=l:=by
 rw[awa,bH l i h];simp_all
theorem Um{m:bg}(hl:m.2.2.2.1.length<=maxLen):xk m=m:=by
 have g:=fO (step:=vj) (k:=m.2.2.2.1.length) (n:=m.2.2.2.1.length) (λi y=>y=((i:Int),m))
  (λi y hi a=>by
   subst a;have f:(i:Int)<m.2.2.2.1.length:=by omega
   have h:=cA (auz i) f hl;unfold vj;simp only[f,h];refine⟨_,rfl,?_⟩;have e:=ah6 hi;exact awf rfl (awf rfl (awf rfl (awf rfl (awf e rfl)))))
  (λy a=>by
   simp_all [vj]) (Nat.succ (Eg m.2.2.2.1.length (0,m))) (0,m) (by simp_all [Eg]) rfl
 exact av2 Prod.snd g.1
theorem Hr{b:ab}{s:ByteArray}(h:(ju b s).2=0):aK b/\gB b (ju b s).1=true:=by
 unfold ju at h⊢;by_cases a:fU b s (14+19*dD b) 165=0
 ·rw[ava a]at h⊢
  have g:=ayw λg=>by rw[DV g]at a;exact absurd a (by decide)
  by_cases f:jb b ((av s).drop 2)=true
  ·rw[ava f]
   have i:cr ((av s).drop 2):=λx j=>jY s x (awx j)
   rw[PN b i,au0]at f;exact⟨g,f.1⟩
  ·rw[au6 f]at h
   exact absurd h (by decide:(31:Int)≠0)
 ·rw[au6 a]at h
  exact absurd h a
def iC(b:ab)(s:ByteArray):Prop:=(gX (b,s)).2=0->(gX (b,s)).1.2.1.1=0\/(gX (b,s)).1.2.1.1=8
def lJ(b:ab)(m:bg)(s:ByteArray)(n:Int):aq:=
 (b,m,(gX (b,s)).1,((gX (b,s)).2==0),n,0,aC aw b.2.2.2.2.2.2.2.length,aC aS b.2.2.2.2.2.2.2.length,aC aw b.2.2.2.2.2.2.2.length,(0,0),(0,0),false,false,0,aC gS b.2.2.2.2.2.2.2.length)
structure nT (m:bg):Prop where
 ph: ∀p∈m.1.1,p=0
 cf: ∀d∈m.2.2.1,jj d.1
theorem ahH{b:ab}{x:bA}(h:gB b x=true):0<=x.2.1.2/\x.2.1.2<b.2.2.2.2.2.2.2.length:=by
 grind [gB,fV]
theorem jE.tk{b:ab}{m:bg}(h:jE b m)(f:nT m)(hl:b.2.2.2.2.2.2.2.length<=maxLen)(g:m.2.2.2.2.2.2.1.length<=maxLen){s:ByteArray}(i:iC b s)(n:Int):ei (lJ b m s n):=by
 have hr:((gX (b,s)).2==0)=true->gB b (gX (b,s)).1=true:=λa=>by
  simp_all [rz,Hr]
 exact⟨⟨h.aU.bB.cn.2,f.cf,h.ct.1,h.aB.1,h.new.1,h.ld.1,eu _,eu _,eu _,eu _,h.aU.l1,h.aU.l2,h.aU.l3,f.ph,λa=>HR (hr a),λa=>i (MV a),λa=>ahH (hr a)⟩,h.aU,(agF g).2 h.ex,h.lit⟩
theorem mkc{n:Nat}(h:n<=8):(0<=(n:Int)/\n=(n:Int)/\(n:Int)*1<=140737488355328/\(n:Int)<=4611686018427387903)/\(0<=(n:Int)/\n=(n:Int)/\(n:Int)*8<=140737488355328/\(n:Int)<=4611686018427387903)/\(0<=(n:Int)/\n=(n:Int)/\(n:Int)*48<=140737488355328/\(n:Int)<=4611686018427387903):=by omega
theorem lO{n m:Nat}(h:n=m)(a:m<=8):n<=100000:=by omega
theorem jE.n8{b:ab}{m:bg}(h:jE b m):b.2.2.2.2.2.2.2.length<=8:=h.aU.bB.cn.2
theorem jE.nl{b:ab}{m:bg}(h:jE b m):b.2.2.2.2.2.2.2.length<=maxLen:=auq h.n8 (by decide)
theorem jE.Gj{b:ab}{m:bg}(h:jE b m):m.2.2.2.2.2.2.1.length<=64:=by rw[h.ex.1];exact h.aU.len
theorem jE.lens{b:ab}{m:bg}(h:jE b m)(j: ∀d∈m.2.2.2.1,d.2.2.2.1.length<=maxLen):LL m:=by
 have a:=h.n8;refine⟨⟨lO h.aU.l1 a,lO h.aU.l2 a,lO h.aU.l3 a,auq h.aU.len (by decide)⟩,lO h.ct.1 a,⟨lO h.aB.1 a,λd f=> ?_⟩,lO h.new.1 a,lO h.ld.1 a,auq h.Gj (by decide),lO h.lit a⟩;obtain⟨i,hi,rfl⟩:=av0 f;have g:=h.aB.2 i hi;rw[bH _ i hi,xF h.nl (j _ f)]at g;exact auq g.len (by decide)
theorem aiW{b:ab}{m:bg}(f:Fit aD b)(a:Fit fE m):aa2 b m/\ ∀d∈m.2.2.2.1,d.2.2.2.1.length<=maxLen:=
 ⟨⟨f.2.2.2.2.2.2.2.1,a.1.1.1,a.1.2.2.2.1,a.2.2.1.1,a.2.2.2.1.1,a.2.2.2.2.1.1,a.2.2.2.2.2.1.1,a.2.2.2.2.2.2.1.1⟩,λd g=>(a.2.2.2.1.2 d g).2.2.2.1.1⟩
theorem ah0{b:ab}{m:bg}{s:ByteArray}{n:Int}(f:Fit aD b)(g:Fit fE m)(i:nT m)(j:iC b s)(h:((!(rh (b,m)))||(decide (n<0)))=false):LL m/\jE b (xk m)/\nT (xk m)/\iC b s:=by
 obtain⟨f1,f2⟩:=aiW f g;rw[auv,ave]at h;have a:=(Og f1).1 h.1;rw[Um f1.h4];exact⟨a.lens f2,a,i,j⟩
def XG(x:ab×bg×eb):=letI a:=x.1.2.2.2.2.2.2.2.length;letI b:=x.2.1.2.2;letI c:=(0,0);letI d:=gX (x.1,x.2.2.1);kp (x.1,(x.2.1.1,x.2.1.2.1,(wZ b.1).1,(rl b.2.1).1,(wX b.2.2.1).1,(wU b.2.2.2.1).1,b.2.2.2.2),d.1,d.2==0,x.2.2.2,0,aC aw a,aC aS a,aC aw a,c,c,false,false,0,aC gS a)
def xf(x:ab×bg×eb):bg×la×Int:=letI a:=XG x;letI b:=a.2.2.2.2.2.2;letI c:=(0,0);bif b.1 !=0 then((([],[],[],[]),a.2.2.1.2.1,[],[],[],[],[],[],0,0,0),(c,c,false,false,0,[]),b.1)else(a.2.2.1,b.2.2.2.2,0)
def ZQ(x:ab×bg×eb):Prop:=jE x.1 x.2.1/\nT x.2.1/\iC x.1 x.2.2.1
def aaW:Ct:=⟨Ty.pair aD (Ty.pair fE (Ty.pair cY ae)),[some 8,some 16,none,none],Ty.pair fE (Ty.pair E7 bX),ah.tup [some 16,some 8,none],some ZQ,none,xf⟩
theorem atY:ar 43 aaW:=au (dN (Ca true) mi dh Q3 []) func43 [] l0 (sp λx fx h=>sl (letI a:=(x.1.2.2.2.2.2.2.2.length:Int);letI b:=0<=a/\a=a/\a*1<=140737488355328/\a<=4611686018427387903;letI c:=x.2.1.2.2;letI d:=(x.1,x.2.2.1);letI e:=(0,0);letI f:=c.2.2;Wq d/\(b/\((0<=a/\a=a/\a*8<=140737488355328/\a<=4611686018427387903)/\(b/\((0<=a/\a=a/\a*48<=140737488355328/\a<=4611686018427387903)/\(Lo c.1/\Li c.2.1/\LJ f.1/\L2 f.2.1/\Yp (x.1,(x.2.1.1,x.2.1.2.1,(wZ c.1).1,(rl c.2.1).1,(wX f.1).1,(wU f.2.1).1,f.2.2),(gX d).1,(gX d).2==0,x.2.2.2,0,aC aw a,aC aS a,aC aw a,e,e,false,false,0,aC gS a))))))) (by
 try dsimp only[Ty.den]at*
 obtain⟨h1,h2,h3⟩:jE x.1 x.2.1/\nT x.2.1/\iC x.1 x.2.2.1:=h;have m:=mkc h1.n8;exact⟨trivial,m.1,m.2.1,m.1,m.2.2,lO h1.ct.1 h1.n8,lO h1.aB.1 h1.n8,lO h1.new.1 h1.n8,lO h1.ld.1 h1.n8,h1.tk h2 h1.nl (auq h1.Gj (by decide)) h3 x.2.2.2⟩))
def abQ:=(43,aaW)::Wv
theorem RU:cu abQ:=gc atY func43 (Q3)
def jm(x:ab×bg×eb):bg×la×Int:=bif !rh (x.1,x.2.1)||x.2.2.2<0 then((([],[],[],[]),((ByteArray.empty,ByteArray.empty),0),[],[],[],[],[],[],0,0,0),((0,0),(0,0),false,false,0,[]),1)else xf (x.1,xk x.2.1,x.2.2)
def Ad(x:ab×bg×eb):Prop:=nT x.2.1/\iC x.1 x.2.2.1
def acY:Ct:=⟨Ty.pair aD (Ty.pair fE (Ty.pair cY ae)),[some 8,some 16,none,none],Ty.pair fE (Ty.pair E7 bX),ah.tup [some 16,some 8,none],some Ad,none,jm⟩
theorem atW:ar 12 acY:=au (dN (Ca true) mi dh RU []) func12 [] l0 (sp λx fx h=>sl ((!rh (x.1,x.2.1)||x.2.2.2<0)=false->Ym x.2.1/\ZQ (x.1,xk x.2.1,x.2.2)) (by
 try dsimp only[Ty.den]at*
 obtain⟨h1,h2⟩:nT x.2.1/\iC x.1 x.2.2.1:=h;exact λhc=>ah0 fx.1 fx.2.1 h1 h2 hc))
def acH:List (Nat×Ct):=(12,acY)::abQ
theorem Tv:cu acH:=gc atW func12 (RU)
theorem vH{room h n:Int}{s:bO}(hs:cV (room,s)=true)(a:h=0\/h=1)(f:0<=n):nV (room,s,h,n)=0:=by
 unfold nV;grind
theorem aiP{room h n:Int}{s:bO}(hs:cV (room,s)=true)(a:h=0\/h=1)(t:1<=n)(hm:n<=1048576): ∃f,tq (room,s,h,n)=(f,n-1,0)/\cV (room,f)=true/\(aa [f.1.1,f.1.2] h).size=0:=by
 have g:=vH hs a (n:=n) (by omega);obtain⟨i,j,k,l,m⟩:=(gK _ _).1 hs;have o:(n==0)=false:=by grind
 have hw:i64.wrap (n-1)=n-1:=aA (by omega) (by omega);unfold tq FJ;simp only[g,o,hw];refine⟨_,rfl,(gK _ _).2 ⟨i,j,?_,?_,m⟩,?_⟩
 ·rcases a with rfl|rfl
  ·exact(by omega:0<=room)
  ·exact k
 ·rcases a with rfl|rfl
  ·exact l
  ·exact(by omega:0<=room)
 ·rcases a with rfl|rfl<;>rfl
theorem agm{room h n:Int}{s:bO}(hs:cV (room,s)=true)(a:h=0\/h=1)(o:1<=n)(hm:n<=1048576): ∃f,tf (room,s,h,n)=(f,n-1,0)/\cV (room,f)=true:=by
 have g:=vH hs a (n:=n) (by omega);obtain⟨i,j,k,l,t⟩:=(gK _ _).1 hs;have m:(n==0)=false:=by grind
 have hw:i64.wrap (n-1)=n-1:=aA (by omega) (by omega);unfold tf EH;simp only[g,m,hw];exact⟨_,rfl,(gK _ _).2 ⟨i,j,k,l,a⟩⟩
theorem Pc{room h n:Int}{s:bO}{d:ByteArray}(hs:cV (room,s)=true)(f:h=0\/h=1)(g:d.size<=room - ((aa [s.1.1,s.1.2] h).size:Int))(i:d.size<=n)(hm:n<=1048576):
  ∃a,oa (room,s,h,d,n)=(a,n-d.size,0)/\cV (room,a)=true:=by
 have j:=vH hs f (n:=n) (by omega);obtain⟨k,l,m,o,t⟩:=(gK _ _).1 hs;have hw:i64.wrap (room - ((aa [s.1.1,s.1.2] h).size:Int))=room - ((aa [s.1.1,s.1.2] h).size:Int):=aA (by omega) (by omega);have u:i64.wrap (n-d.size)=n-d.size:=aA (by omega) (by omega);have h1:decide (d.size>room - ((aa [s.1.1,s.1.2] h).size:Int))=false:=by simp_all
 have h2:decide (n<d.size)=false:=by simp_all
 unfold oa;grind [dq,gK,mX]
theorem Ox{b:ab}: ∀{l:List aI} {s:ByteArray},(snapS b l s).size<=s.size+6*l.length
 | [],s=>by simp[snapS]
 |r::l,s=>by
  have h1:=Ox (b:=b) (l:=l) (s:=bw (av s++av (iR (b,r)).1));grind [snapS,B4,jq,lx]
theorem Hi{b:ab}{s:bO}{m:ak}{n:Int}(hs:cV (b.2.2.1,s)=true)(hm:aT b m)(hr:18*((b.2.2.2.2.2.2.2.length:Int)+(m.2.2.2.length:Int))<=b.2.2.1)(y:b.2.2.1+2<=n)(j:n<=1048576):
  ∃g a,kT (b,s,m,n)=(g,a,0)/\n - (b.2.2.1+2)<=a/\a<=n/\cV (b.2.2.1,g)=true:=by
 obtain⟨z,A,C,I,J⟩:=(gK _ _).1 hs;have k:b.2.2.2.2.2.2.2.length<=maxLen:=auq hm.bB.cn.2 (by decide);have h:m.1.length<=maxLen:=by rw[hm.l1];omega
 have i:m.2.2.2.length<=maxLen:=auq hm.len (by decide);have hi:cJ (b,m)=true:=(mZ k h i).2 hm;have L:=G6 (b:=b) h i;have M:=Ox (b:=b) (l:=ff (b,m)) (s:=ByteArray.mk #[]);have N:((snapS b (ff (b,m)) (ByteArray.mk #[])).size:Int)<=b.2.2.1:=by
  have h0:(ByteArray.mk #[]).size=0:=rfl;have O:=hm.l1;omega
 have hw:i64.wrap ((1:Int)-s.2)=1-s.2:=aA (by omega) (by omega);have f:(1:Int)-s.2=0\/(1:Int)-s.2=1:=by omega
 have o:decide (n<(0:Int))=false:=by grind
 unfold kT;simp only[hs,hi,o,avw,ax7,aur,hw];obtain⟨P,t,u,Q⟩:=aiP hs f (n:=n) (by omega) j;rw[t];simp only[axh,auw];obtain⟨S,w,x⟩:=Pc (d:=snapS b (ff (b,m)) (ByteArray.mk #[])) u f (n:=n-1) (by omega) (by omega) (by omega);rw[w];simp only[axh,auw];obtain⟨T,c1,c2⟩:=agm x f (n:=n-1 - ((snapS b (ff (b,m)) (ByteArray.mk #[])).size:Int)) (by omega) (by omega);grind
theorem P0{b:ab}{m:ak}(hm:aT b m):fP (b,m)=true↔18*(b.2.2.2.2.2.2.2.length+m.2.2.2.length+1)+6<=b.2.2.1:=by
 have a:=hm.bB.cn.2;have i:=hm.len;have f:b.2.2.2.2.2.2.2.length<=maxLen:=auq a (by decide);have g:m.1.length<=maxLen:=by rw[hm.l1];omega
 have h:m.2.2.2.length<=maxLen:=auq hm.len (by decide);have hi:=(mZ f g h).2 hm;unfold fP;grind [aA]
theorem Vb{α:Type}(l:List α)(i:Int):(iU l i).length<=l.length:=by
 grind [iU]
theorem aiX{b:ab}{m:ak}{r:aI}(hr:bW b r):(aW m r).2.2.2.length<=m.2.2.2.length+1/\((r.1=1->(bt (m,r.2.1,r.2.2.1)).2=true)->(aW m r).2.2.2.length<=m.2.2.2.length):=by
 unfold aW;rcases hr with⟨h1|h1,a,h3,h4⟩|⟨h1,a,h3,h4,h5⟩|⟨h1,a,h3,h4,h5,h6⟩|⟨h1,h2,h3,h4,h5,h6,h7⟩|⟨h1|h1,h2,h3,h4,h5,h6,h7⟩
 ·rw[ry h1]
  cases hf:(bt (m,r.2.1,r.2.2.1)).2 with
  |true=>exact⟨azv _,λ_=>au2 _⟩
  |false=>exact⟨ayd (Jy m.2.2.2 (bt (m,r.2.1,r.2.2.1)).1 [(r.2.1,r.2.2.1,-1,0,false)] rfl),λh=>absurd (h h1) (by decide)⟩
 ·rw[xB h1]
  cases(bt (m,r.2.1,r.2.2.1)).2 with
  |true=>exact⟨aAb (Vb _ _),λ_=>Vb _ _⟩
  |false=>exact⟨azv _,λ_=>au2 _⟩
 ·rw[xz h1]
  cases(bt (m,r.2.1,r.2.2.1)).2 with
  |true=>exact⟨aAb (ayd (auu ..)),λ_=>ayd (auu ..)⟩
  |false=>exact⟨azv _,λ_=>au2 _⟩
 ·rw[xC h1]
  cases(bt (m,r.2.1,r.2.2.1)).2 with
  |true=>exact⟨aAb (ayd ((auu ..).trans (auu ..))),λ_=>ayd ((auu ..).trans (auu ..))⟩
  |false=>exact⟨azv _,λ_=>au2 _⟩
 ·rw[Bo h1];exact⟨azv _,λ_=>au2 _⟩
 ·rw[xD h1];exact⟨azv _,λ_=>au2 _⟩
 ·rw[Bv h1];exact⟨azv _,λ_=>au2 _⟩
def wk(b:ab)(m:ak)(r:aI):Prop:=r.1=1->(bt (m,r.2.1,r.2.2.1)).2=true\/fP (b,m)=true
structure Pow (b:ab) (s:bO) (m:ak):Prop where
 aX:cV (b.2.2.1,s)=true
 aU:aT b m
 room:18*((b.2.2.2.2.2.2.2.length:Int)+(m.2.2.2.length:Int))+6<=b.2.2.1
theorem GU{b:ab}{s:bO}{m:ak}{r:aI}{n:Int}(h:Pow b s m)(hr:bW b r)(o:wk b m r)(z:b.2.2.1+2<=n)(t:n<=1048576):
  ∃a f,kP (b,s,m,r,n)=(a,aW m r,f,0)/\n - (b.2.2.1+2)<=f/\f<=n/\Pow b a (aW m r):=by
 obtain⟨P,Q,S,T,g⟩:=(gK _ _).1 h.aX;have u:b.2.2.2.2.2.2.2.length<=maxLen:=auq h.aU.bB.cn.2 (by decide);have A:m.1.length<=maxLen:=by rw[h.aU.l1];omega
 have C:m.2.2.2.length<=maxLen:=auq h.aU.len (by decide);have hi:=(mZ u A C).2 h.aU;have I:=(su u r).2 ⟨h.aU.bB,hr⟩;have J:eY (b,m,r)=(aW m r,0):=by
  unfold eY;simp only[hi,I,avw,ax7,aur];rfl
 have i:aT b (aW m r):=mc h.aU hr;have hl:=aiX (m:=m) hr;have w:18*(b.2.2.2.2.2.2.2.length+((aW m r).2.2.2.length:Int))+6<=b.2.2.1:=by
  have h0:=h.room;by_cases x:r.1=1->(bt (m,r.2.1,r.2.2.1)).2=true
  ·grind
  ·have h1:=ayw λh1=>x λh2=>absurd h2 h1
   have h2:=λh2=>x λ_=>h2
   have h3:=(P0 h.aU).1 ((o h1).resolve_left h2);have:=hl.1;omega
 have L:decide (n<0)=false:=by rw[aut];omega
 have M:(((r.1==1)&&(!((bt (m,r.2.1,r.2.2.1)).2)))&&(!(fP (b,m))))=false:=by
  by_cases h1:r.1=1
  ·rcases o h1 with h2|h2<;>rw[h2]<;>simp
  ·rw[beq_eq_false_iff_ne.2 h1];rfl
 have y:(aa [s.1.1,s.1.2] s.2)=dt s:=by
  unfold dt;rcases g with h5|h5<;>rw[h5]<;>rfl
 have U:((dt s).size:Int)<=b.2.2.1:=by
  rw[<- y];rcases g with h5|h5<;>rw[h5]<;>assumption
 have V:=B4 (b,r);have hw:i64.wrap (b.2.2.1 - ((dt s).size:Int))=b.2.2.1 - ((dt s).size:Int):=aA (by omega) (by omega);unfold kP;simp only[J,h.aX,L,awm,avw,ax7,aur,M,hw];by_cases j:((iR (b,r)).1.size:Int)<=b.2.2.1 - ((dt s).size:Int)
 ·obtain⟨a,k,l⟩:=Pc h.aX g (by rw[y];exact j) (by have:=h.room;omega) t
  rw[axr j,auw,k];simp only[axh,auw];exact⟨_,_,rfl,by have:=h.room;omega,by omega,l,i,w⟩
 ·obtain⟨a,f,k,l,N,O⟩:=Hi h.aX i (by omega) z t
  rw[axg j,aur,k];simp only[axh,auw];exact⟨_,_,rfl,l,N,O,i,w⟩
def RegRs(b:ab):ak->List aI->Prop
 |_,[]=>True
 |m,r::l=>bW b r/\wk b m r/\RegRs b (aW m r) l
theorem ae2{l:List aI}{t:aq}(h:Pow t.1 t.2.1.2.1 t.2.1.1)(j:t.2.2.2.2.2.1=0)(m:RegRs t.1 t.2.1.1 l)(hl:l.length<=maxLen)(M:(t.1.2.2.1+2)*l.length<=t.2.2.2.2.1)(N:t.2.2.2.2.1<=1048576):
  ∃aX a,dH (l,t)=((),t.1,(l.foldl aW t.2.1.1,aX,t.2.1.2.2),t.2.2.1,t.2.2.2.1,a,0,t.2.2.2.2.2.2)/\t.2.2.2.2.1 - (t.1.2.2.1+2)*l.length<=a/\a<=t.2.2.2.2.1/\Pow t.1 aX (l.foldl aW t.2.1.1):=by
 have O:=((gK _ _).1 h.aX).1;have o:=fO (step:=gL) (k:=(l,l.length)) (n:=l.length)
  (λi y=> ∃aX a,y=((i:Int),t.1,((l.take i).foldl aW t.2.1.1,aX,t.2.1.2.2),t.2.2.1,t.2.2.2.1,a,0,t.2.2.2.2.2.2)/\t.2.2.2.2.1 - (t.1.2.2.1+2)*i<=a/\a<=t.2.2.2.2.1/\Pow t.1 aX ((l.take i).foldl aW t.2.1.1)/\RegRs t.1 ((l.take i).foldl aW t.2.1.1) (l.drop i))
  (λi y hi f=>by
   obtain⟨aX,a,rfl,h1,h2,h3,h4⟩:=f;have g:(i:Int)<l.length:=by omega
   have s:=cA (auz i) g hl;have ht:l.take (i+1)=l.take i++ [aa l i]:=by rw[bH l i hi];exact av3 hi
   have u:l.drop i=aa l i::l.drop (i+1):=by rw[bH l i hi];exact av5 hi
   rw[u]at h4;obtain⟨w,x,z⟩:=h4;have hb:(t.1.2.2.1+2)*(i+1)<=(t.1.2.2.1+2)*l.length:=ay7 (by omega) (by omega);have A:(t.1.2.2.1+2)*(i+1)=(t.1.2.2.1+2)*i+(t.1.2.2.1+2):=by rw[Int.mul_add,Int.mul_one]
   obtain⟨C,I,J,P,Q,L⟩:=GU h3 w x (n:=a) (by omega) (by omega);unfold gL;simp only[g,avn,auw,aur,s,J];refine⟨_,rfl,C,I,?_,?_,by omega,?_,?_⟩
   ·rw[ht,awn];rfl
   ·rw[aBk,Int.natCast_one,A];omega
   ·rw[ht,awn];exact L
   ·rw[ht,awn];exact z)
  (λy f=>by
   obtain⟨aX,a,rfl,_⟩:=f;unfold gL;simp only[ay4,av4,aur]) (Nat.succ (iZ (l,l.length) (0,t))) (0,t) (by unfold iZ;simp)
  ⟨t.2.1.2.1,t.2.2.2.2.1,awf rfl (awf rfl (awf rfl (awf rfl (awf rfl (awf rfl (awf j rfl)))))),by simp,au4 _,h,m⟩
 obtain⟨⟨aX,a,e,h1,h2,h3,_⟩,hr⟩:=o;rw[axy]at e h3;refine⟨aX,a,?_,h1,h2,h3⟩;unfold dH vk vy;simp only;rw[hr,e];rfl
def mE:bO:=((ByteArray.empty,ByteArray.empty),0)
def fR(n:Nat):ak:=(aC ae n,aC aw n,aC aw n,[])
def td(n:Nat)(s:bO):bg:=(fR n,s,aC fQ n,List.replicate n (qB ()),aC iN n,aC jB n,[],aC aS n,0,0,0)
theorem Oy{b:ab}(a:aK b)(hl:b.2.2.2.2.2.2.2.length<=maxLen):gk b=(fR b.2.2.2.2.2.2.2.length,()):=by
 unfold gk;rw[Ka hl a];rfl
theorem afS{b:ab}(a:aK b)(hl:b.2.2.2.2.2.2.2.length<=maxLen):pD (b,mE)=fR b.2.2.2.2.2.2.2.length:=by
 unfold pD;have h:(fM ((b,mE).1,dt (b,mE).2)).1= []:=rfl;rw[h,Oy a hl];rfl
theorem yZ{b:ab}(a:aK b):aT b (fR b.2.2.2.2.2.2.2.length):=by
 refine⟨a,eu _,eu _,eu _,λp f=> ?_,λe g=>(by cases g),List.Pairwise.nil⟩;have:p=0:=aw3 f;omega
theorem ahj{b:ab}{s:bO}(a:aK b)(hs:cV (b.2.2.1,s)=true)(hr:18*b.2.2.2.2.2.2.2.length+6<=b.2.2.1):F0 (b,fR b.2.2.2.2.2.2.2.length,s)=(td b.2.2.2.2.2.2.2.length s,0):=by
 have g:=a.cn.2;have hl:b.2.2.2.2.2.2.2.length<=maxLen:=auq g (by decide);have h:=(Ih hl (by rw[(yZ a).l1];omega) (awc _)).2 ⟨yZ a,by show 18*(_+(0:Int))+6<=_;omega⟩;unfold F0 zS YM VC;simp only[h,hs,avw,ax7,aur];generalize b.2.2.2.2.2.2.2.length=n at*;have j:=fO (step:=qn) (k:=n) (n:=n) (λi y=>y=((i:Int),fR n,s,aC fQ n,List.replicate i (qB ()),aC iN n,aC jB n,[],aC aS n,0,0,0))
  (λi y hi f=>by
   subst f;have l:i<(n:Int):=by omega
   have m:=cA (auz i) l hl;simp_all [qn,avn,auw,List.replicate_succ'])
  (λy f=>by
   simp_all [qn]) (Nat.succ (zl n (0,wL (fR n),s,aC fQ n,[],aC iN n,aC jB n,[],aC aS n,0,0,0)))
  (0,wL (fR n),s,aC fQ n,[],aC iN n,aC jB n,[],aC aS n,0,0,0) (by simp_all [zl]) rfl
 rw[j.1];rfl
theorem start_eq{b:ab}(a:aK b)(hr:18*(b.2.2.2.2.2.2.2.length:Int)+6<=b.2.2.1)(h:b.2.2.1<=65536): ∃s,F8 b=(td b.2.2.2.2.2.2.2.length s,0)/\cV (b.2.2.1,s)=true/\s=(kT (b,mE,fR b.2.2.2.2.2.2.2.length,1048576)).1:=by
 have i:b.2.2.2.2.2.2.2.length<=8:=a.cn.2;have hl:b.2.2.2.2.2.2.2.length<=maxLen:=auq i (by decide);have hs:cV (b.2.2.1,mE)=true:=(gK _ _).2 ⟨by omega,h,by show((0:Nat):Int)<=_;omega,by show((0:Nat):Int)<=_;omega,.inl rfl⟩;obtain⟨f,g,h1,h2,h3,h4⟩:=Hi hs (yZ a) (by show 18*(_+((0:Nat):Int))<=_;omega) (by omega) (au4 _);have j:=afS a hl;have k:pJ (b,mE,(1048576:Int))=(f,fR b.2.2.2.2.2.2.2.length,g,0):=by
  simp_all [pJ]
 have l:Ga (b,mE,(1048576:Int))=(td b.2.2.2.2.2.2.2.length f,g,0):=by
  simp_all [Ga,awm,aur,ahj]
 refine⟨f,?_,h4,by rw[h1]⟩;unfold F8;rw[Ka hl a];grind [ByteArray.empty,mE]
theorem Qq(n:Nat)(s:bO):nT (td n s):=by
 refine⟨λp a=>aw3 a,λd f=> ?_⟩;have:=aw3 f;rw[this];exact⟨au4 _,(by decide:(0:Int)<=4294967295)⟩
def oj(m:ak)(i:Nat):List aI:= [(4,0,0,i,aa m.1 i),(5,0,0,i,jF (aa m.2.1 i)),(6,0,0,i,jF (aa m.2.2.1 i))]
def wS(e:az):List aI:= [(1,e.1,e.2.1,0,0),(3,e.1,e.2.1,e.2.2.1,0),(7,e.1,e.2.1,jF e.2.2.2.2,e.2.2.2.1)]
theorem Tu{b:ab}{m:ak}(hm:aT b m):ff (b,m)=(List.range m.1.length).flatMap (oj m)++m.2.2.2.flatMap wS:=by
 have h1:=hm.fit.2.1;have h2:=hm.fit.2.2;unfold ff;simp only[hm.is,avw,aur];unfold IH Dy;have g:=fO (step:=kG) (k:=((m.1.length:Int),m)) (n:=m.1.length) (λi y=>y.1=(i:Int)/\y.2=(List.range i).flatMap (oj m))
  (λi y hi a=>by
   obtain⟨f,y⟩:=y;obtain⟨rfl,h⟩:f=(i:Int)/\y=(List.range i).flatMap (oj m):=a;have j:(i:Int)<(m.1.length:Int):=by omega
   have l:=cA (auz i) j h1;unfold kG;simp only[j,avn,auw,l];refine⟨_,rfl,rfl,?_⟩;unfold BZ;simp only[vX,h,axt,axo,avb];rfl)
  (λy a=>by
   obtain⟨f,y⟩:=y;obtain⟨rfl,h⟩:f=(m.1.length:Int)/\_:=a;unfold kG;simp only[ay4,av4,aur]) (Nat.succ (mj ((m.1.length:Int),m) ((0:Int),[]))) ((0:Int),[]) (by unfold mj;simp) ⟨rfl,rfl⟩
 have g:=g.1.2;revert g
 generalize(endOf kG ((m.1.length:Int),m) (Nat.succ (mj ((m.1.length:Int),m) ((0:Int),[]))) ((0:Int),[])).2=l0;intro g;have o:=fO (step:=oB) (k:=(m.2.2.2,(m.2.2.2.length:Int))) (n:=m.2.2.2.length) (λi y=>y.1=(i:Int)/\y.2=l0++(m.2.2.2.take i).flatMap wS)
  (λi y hi a=>by
   obtain⟨f,y⟩:=y;obtain⟨rfl,h⟩:f=(i:Int)/\y=l0++(m.2.2.2.take i).flatMap wS:=a;have j:(i:Int)<(m.2.2.2.length:Int):=by omega
   have l:=cA (auz i) j h2;unfold oB;simp only[j,avn,auw,l];refine⟨_,rfl,rfl,?_⟩;unfold BL;have ht:m.2.2.2.take (i+1)=m.2.2.2.take i++ [aa m.2.2.2 (i:Int)]:=by rw[bH _ i hi];exact av3 hi
   simp only[vW,h,ht,axo,avb];rfl)
  (λy a=>by
   obtain⟨f,y⟩:=y;obtain⟨rfl,h⟩:f=(m.2.2.2.length:Int)/\_:=a;unfold oB;simp only[ay4,av4,aur]) (Nat.succ (rO (m.2.2.2,(m.2.2.2.length:Int)) ((0:Int),l0))) ((0:Int),l0) (by unfold rO;simp) ⟨rfl,by simp⟩
 have:=o.1.2;rw[axy]at this;exact this.trans (by rw[g])
theorem H5{α:Type} [Inhabited α]{l m:List α}(hl:l.length=m.length)(h: ∀j:Nat,j<m.length->aa l j=aa m j):l=m:=
 ay6 hl λj h1 h2=>by simp_all [bH]
structure Me (m:ak) (i:Nat) (y:ak):Prop where
 l1:y.1.length=m.1.length
 l2:y.2.1.length=m.2.1.length
 l3:y.2.2.1.length=m.2.2.1.length
 e:y.2.2.2= []
 q: ∀j:Nat,j<i->aa y.1 (j:Int)=aa m.1 (j:Int)/\aa y.2.1 (j:Int)=aa m.2.1 (j:Int)/\aa y.2.2.1 (j:Int)=aa m.2.2.1 (j:Int)
theorem V3(v:Bool):(jF v==1)=v:=by cases v<;>rfl
theorem ae8{m:ak}{n i:Nat}{y:ak}(h1:m.1.length=n)(h2:m.2.1.length=n)(h3:m.2.2.1.length=n)(hi:i<n)(h:Me m i y):Me m (i+1) ((oj m i).foldl aW y):=by
 have e:(oj m i).foldl aW y=(aJ ae y.1 i (aa m.1 i),aJ aw y.2.1 i (aa m.2.1 i),aJ aw y.2.2.1 i (aa m.2.2.1 i),y.2.2.2):=by
  simp_all [oj,aW,Bv,xD,Bo,V3]
 rw[e];have f:i<y.1.length:=by rw[h.l1,h1];omega
 have g:i<y.2.1.length:=by rw[h.l2,h2];omega
 have k:i<y.2.2.1.length:=by rw[h.l3,h3];omega
 refine⟨(auu ..).trans h.l1,(auu ..).trans h.l2,(auu ..).trans h.l3,h.e,λj l=> ?_⟩;unfold aJ;by_cases a:j=i
 ·grind [js]
 ·have q:=h.q j (by omega)
  exact⟨(fi f a).trans q.1,(fi g a).trans q.2.1,(fi k a).trans q.2.2⟩
theorem afj{m:ak}{n:Nat}(h1:m.1.length=n)(h2:m.2.1.length=n)(h3:m.2.2.1.length=n):((List.range n).flatMap (oj m)).foldl aW (fR n)=(m.1,m.2.1,m.2.2.1,[]):=by
 have key: ∀i,i<=n->Me m i (((List.range i).flatMap (oj m)).foldl aW (fR n)):=λi=>by
  induction i with
  |zero=>exact λ_=>⟨(eu _).trans h1.symm,(eu _).trans h2.symm,(eu _).trans h3.symm,rfl,λj a=>absurd a (Nat.not_lt_zero j)⟩
  |succ i f=>
   grind [List.range_succ,ae8]
 have h:=key n (au2 n);generalize((List.range n).flatMap (oj m)).foldl aW (fR n)=y at h;obtain⟨g,k,l,o⟩:=y;have s:=H5 h.l1 λj a=>(h.q j (by omega)).1
 have t:=H5 h.l2 λj a=>(h.q j (by omega)).2.1
 have u:=H5 h.l3 λj a=>(h.q j (by omega)).2.2
 have w:=h.e;simp_all
theorem HS{α:Type} [Inhabited α](L:List α)(x:α):aa (L++ [x]) L.length=x:=by
 simp_all [bH]
theorem Q4{α:Type}(L:List α)(x y:α):(L++ [x]).set L.length y=L++ [y]:=by simp
theorem amS{L:List az}{t:Int}(h: ∀e∈L,ek e<t):mM ek L t L.length:=⟨au2 _,λq a=>h _ (by rw[bH L q a];simp_all),λq h1 h2=>absurd h2 (by omega)⟩
theorem aka{L:List az}{x:az}{t:Int}(h: ∀e∈L,ek e<t)(a:ek x=t):mM ek (L++ [x]) t L.length:=by
 refine⟨by simp,λq f=> ?_,λq h1 h2=> ?_⟩;all_goals grind [aa]
theorem agc{b:ab}{a:List Int}{c d:List Bool}{L:List az}{e:az}(hm:aT b (a,c,d,L))(k:lT b e)(hl: ∀x∈L,ek x<ek e):(wS e).foldl aW (a,c,d,L)=(a,c,d,L++ [e]):=by
 have t:=k.1.dir;obtain⟨g,i,j,l,m⟩:=e;have u: ∀x:az,x.1=g->x.2.1=i->ek x=ck g i:=λx h1 h2=>by unfold ek;rw[h1,h2]
 have hl: ∀x∈L,ek x<ck g i:=hl
 obtain⟨p,p1,p2,p3⟩:=nu hm (f:=g) t;have o:p=L.length:=p1.uniq (amS hl);have z:(bt ((a,c,d,L),g,i)).2=false:=by
  cases hf:(bt ((a,c,d,L),g,i)).2 with
  |false=>rfl
  |true=>have:=(p3.1 hf).1;exact absurd this (by show¬ p<L.length;omega)
 have w:aW (a,c,d,L) (1,g,i,0,0)=(a,c,d,L++ [(g,i,-1,0,false)]):=by
  unfold aW;rw[ry rfl];show(a,c,d,bif(bt ((a,c,d,L),g,i)).2 then L else iz L (bt ((a,c,d,L),g,i)).1 [(g,i,-1,0,false)])=_;rw[z,aur,p2,o];simp[iz]
 have s:aT b (a,c,d,L++ [(g,i,-1,0,false)]):=by
  rw[<- w];exact mc hm (.inl ⟨.inl rfl,k.1,rfl,rfl⟩)
 have nx: ∀(x:az),x.1=g->x.2.1=i->aT b (a,c,d,L++ [x])->(bt ((a,c,d,L++ [x]),g,i))=((L.length:Int),true):=λx h1 h2 A=>by
  obtain⟨p,p1,p2,p3⟩:=nu A (f:=g) t;have o:p=L.length:=p1.uniq (aka hl (u x h1 h2));subst o;refine awf p2 (p3.2 ⟨by simp,?_⟩);show ek (aa (L++ [x]) (L.length:Int))=_;rw[HS];exact u x h1 h2
 have y:aW (a,c,d,L++ [(g,i,-1,0,false)]) (3,g,i,j,0)=(a,c,d,L++ [(g,i,j,0,false)]):=by
  unfold aW;rw[xz rfl];show(a,c,d,bif(bt ((a,c,d,L++ [(g,i,-1,0,false)]),g,i)).2 then _ else _)=_;rw[nx _ rfl rfl s,auw];unfold vI;simp only[aJ];rw[nx _ rfl rfl s];simp only[HS,awa,Q4]
 have m2:aT b (a,c,d,L++ [(g,i,j,0,false)]):=by
  rw[<- y];exact mc s (.inr (.inl ⟨rfl,k.1,k.2.1,by have:=k.2.2.1;show j<=_;have h:j<(b.2.2.2.2.2.2.2.length:Int):=this;omega,rfl⟩))
 have C:aW (a,c,d,L++ [(g,i,j,0,false)]) (7,g,i,jF m,l)=(a,c,d,L++ [(g,i,j,l,m)]):=by
  unfold aW;rw[xC rfl];show(a,c,d,bif(bt ((a,c,d,L++ [(g,i,j,0,false)]),g,i)).2 then _ else _)=_;rw[nx _ rfl rfl m2,auw];unfold oL oQ;simp only[aJ];rw[nx _ rfl rfl m2];simp only[HS,awa,Q4,V3]
 show aW (aW (aW (a,c,d,L) (1,g,i,0,0)) (3,g,i,j,0)) (7,g,i,jF m,l)=_;rw[w,y,C]
theorem agy{b:ab}{m:ak}(hm:aT b m): ∀i,i<=m.2.2.2.length->((m.2.2.2.take i).flatMap wS).foldl aW (m.1,m.2.1,m.2.2.1,[])=(m.1,m.2.1,m.2.2.1,m.2.2.2.take i):=λi=>by
 induction i with
 |zero=>intro _;rfl
 |succ i f=>
  intro hi;have a:i<m.2.2.2.length:=by omega
  have ht:m.2.2.2.take (i+1)=m.2.2.2.take i++ [m.2.2.2[i]]:=av3 a;rw[ht,axo,awn,f (by omega)];have h1:aT b (m.1,m.2.1,m.2.2.1,m.2.2.2.take i):=hm.with (λe g=>hm.ft e (awg g)) (aAh (List.take_sublist i m.2.2.2) hm.fg);have:=agc h1 (hm.ft _ (axn a)) (λx h=>by
   obtain⟨q,j,rfl⟩:=av0 h;rw[avp]at j;rw[aAa];exact List.pairwise_iff_getElem.1 hm.fg q i (by omega) a (by omega))
  simpa using this
theorem afh{b:ab}{m:ak}(hm:aT b m):(ff (b,m)).foldl aW (fR b.2.2.2.2.2.2.2.length)=m:=by
 rw[Tu hm,awn,hm.l1,afj hm.l1 hm.l2 hm.l3];have:=agy hm m.2.2.2.length (au2 _);simp_all
theorem uE(v:Bool):0<=jF v/\jF v<=1:=by cases v<;>decide
theorem Hp{b:ab}{m:ak}(hm:aT b m): ∀r∈ff (b,m),bW b r:=by
 rw[Tu hm];intro r hr;rcases List.mem_append.1 hr with hr|hr
 ·obtain⟨i,hi,hr⟩:=List.mem_flatMap.1 hr
  have hi:=List.mem_range.1 hi;have a:(i:Int)<=b.2.2.2.2.2.2.2.length-1:=by rw[hm.l1]at hi;omega
  unfold oj at hr;simp only[avv,axw,aA1]at hr;rcases hr with rfl|rfl|rfl
  ·have:=hm.ph _ (im (auz i) (by omega))
   exact .inr (.inr (.inr (.inl ⟨rfl,rfl,rfl,auz i,a,this.1,this.2⟩)))
  ·exact .inr (.inr (.inr (.inr ⟨.inl rfl,rfl,rfl,auz i,a,(uE _).1,(uE _).2⟩)))
  ·exact .inr (.inr (.inr (.inr ⟨.inr rfl,rfl,rfl,auz i,a,(uE _).1,(uE _).2⟩)))
 ·obtain⟨e,f,hr⟩:=List.mem_flatMap.1 hr
  have h:=hm.ft e f;unfold wS at hr;simp only[avv,axw,aA1]at hr;rcases hr with rfl|rfl|rfl
  ·exact .inl ⟨.inl rfl,h.1,rfl,rfl⟩
  ·exact .inr (.inl ⟨rfl,h.1,h.2.1,by have:=h.2.2.1;show e.2.2.1<=_;omega,rfl⟩)
  ·exact .inr (.inr (.inl ⟨rfl,h.1,(uE _).1,(uE _).2,h.2.2.2.1,h.2.2.2.2⟩))
theorem MG(x:Int):0<=u8.wrap x/\u8.wrap x<=255:=by grind [IntKind.wrap_u8]
def qz(r:aI):List Int:= [u8.wrap r.1,u8.wrap r.2.1,u8.wrap r.2.2.1,u8.wrap (i64.wrap (r.2.2.2.1+2)),u8.wrap r.2.2.2.2]
theorem Im(r:aI): ∀x∈qz r,0<=x/\x<=255:=by
 simp_all [qz,MG]
theorem agI{x:af}(h:0<=x.1/\x.1<=255):0<=(Kh () x).1/\(Kh () x).1<=255:=by
 refine iq (I:=λy:af=>0<=y.1/\y.1<=255) (λy k' z f a=> ?_) (λy k' z f a=> ?_) _ _ h
 ·revert a
  unfold yR;cases decide (y.2<8)with
  |true=>intro a;cases a;exact MG _
  |false=>intro a;cases a
 ·revert a
  unfold yR;cases decide (y.2<8)with
  |true=>intro a;cases a
  |false=>intro a;cases a;exact f
theorem TP(s:ByteArray):0<=nU s/\nU s<=255:=by
 refine iq (I:=λy:af=>0<=y.1/\y.1<=255) (λy k' z f a=> ?_) (λy k' z f a=> ?_) _ _ ⟨au4 0,(by decide:(0:Int)<=255)⟩
 ·revert a
  unfold yO;cases decide (y.2<(s,s.size).2)with
  |true=>intro a;cases a;exact agI (MG _)
  |false=>intro a;cases a
 ·revert a
  unfold yO;cases decide (y.2<(s,s.size).2)with
  |true=>intro a;cases a
  |false=>intro a;cases a;exact f
def eQr(r:aI):List Int:=qz r++ [nU (bw (qz r))]
theorem pUq(r:aI):(eQr r).length=6:=rfl
theorem aiq(r:aI): ∀x∈eQr r,0<=x/\x<=255:=by
 intro x a;rcases List.mem_append.1 a with a|a
 ·exact Im r x a
 simp_all [TP]
theorem J4{b:ab}(a:aK b){r:aI}(hr:bW b r):iW (b,r)=true:=(su (auq a.cn.2 (by decide)) r).2 ⟨a,hr⟩
theorem Rq{b:ab}(a:aK b){r:aI}(hr:bW b r):av (iR (b,r)).1=eQr r:=by
 unfold iR;rw[J4 a hr];show av (bw (qz r))++av (bw [nU (bw (qz r))])=_;rw[nk _ (Im r),nk _ (λx f=>by simp_all [TP])];rfl
theorem ahs{b:ab}(a:aK b){r:aI}(hr:bW b r):(0<=r.1/\r.1<=255)/\(0<=r.2.1/\r.2.1<=255)/\(0<=r.2.2.1/\r.2.2.1<=255)/\(-2<=r.2.2.2.1/\r.2.2.2.1<=200)/\0<=r.2.2.2.2/\r.2.2.2.2<=255:=by
 have h1:=a.fl;have h2:b.2.2.2.2.2.2.2.length<=8:=a.cn.2;unfold bW cL at hr;omega
theorem agR{b:ab}(f:aK b){r:aI}(hr:bW b r){s:ByteArray}(hs:av s=eQr r):nO (b,s)=(r,0):=by
 have hl:b.2.2.2.2.2.2.2.length<=maxLen:=auq f.cn.2 (by decide);have l:ca b=0:=by rw[kB b hl];exact(jS b).2 f
 have m:s.size=6:=by rw[<- lx,hs];rfl
 have o:s.extract (Int.toNat 0) (Int.toNat 5)=bw (qz r):=yQ (by rw[pM,hs,nk _ (Im r)];rfl);have a: ∀i:Int,aO s i=(eQr r).getD i.toNat 0:=λi=>by rw[yp,hs]
 obtain⟨g,h,j,C,k⟩:=ahs f hr;have w: ∀x:Int,0<=x->x<=255->i64.wrap (u8.wrap x)=x:=λx h1 h2=>by
  have:u8.wrap x=x:=by rw[av1];omega
  rw[this];exact aA (by omega) (by omega)
 have a0:i64.wrap (aO s 0)=r.1:=by rw[a];exact w _ g.1 g.2
 have t:i64.wrap (aO s 1)=r.2.1:=by rw[a];exact w _ h.1 h.2
 have u:i64.wrap (aO s 2)=r.2.2.1:=by rw[a];exact w _ j.1 j.2
 have y:i64.wrap (i64.wrap (aO s 3)-2)=r.2.2.2.1:=by
  rw[a];show i64.wrap (i64.wrap (u8.wrap (i64.wrap (r.2.2.2.1+2)))-2)=_;rw[aA (x:=r.2.2.2.1+2) (by omega) (by omega),w _ (by omega) (by omega),aA (by omega) (by omega)];omega
 have z:i64.wrap (aO s 4)=r.2.2.2.2:=by rw[a];exact w _ k.1 k.2
 have A:aO s 5=nU (bw (qz r)):=by rw[a];rfl
 unfold nO Kv;simp only[l,m,o,a0,t,u,y,z,A,J4 f hr];simp
def cat:List aI->List Int
 | []=> []
 |r::l=>eQr r++cat l
theorem Di: ∀l:List aI,(cat l).length=6*l.length
 | []=>rfl
 |r::l=>by
  have:=Di l;grind [cat,pUq]
theorem TQ: ∀l m:List aI,cat (l++m)=cat l++cat m
 | [],m=>rfl
 |r::l,m=>by
  show eQr r++cat (l++m)=(eQr r++cat l)++cat m;rw[TQ l m,avb]
theorem VD: ∀(l:List aI) (i:Nat) (h:i<l.length) (t:List Int),((cat l++t).take (6*i+6)).drop (6*i)=eQr l[i]
 |r::l,0,_,t=>by
  show((eQr r++cat l++t).take 6).drop 0=eQr r;rw[awq,avb,aw7 (by rw[pUq];omega),avr (by rw[pUq];omega)]
 |r::l,i+1,h,t=>by
  have a:i<l.length:=by simpa using h
  have:=VD l i a t;show((eQr r++cat l++t).take (6*(i+1)+6)).drop (6*(i+1))=eQr l[i];rw[avb,show 6*(i+1)+6=(eQr r).length+(6*i+6)by rw[pUq];omega,show 6*(i+1)=(eQr r).length+6*i by rw[pUq];omega,List.take_length_add_append,<- awo,azn];exact this
theorem ah7{b:ab}(f:aK b){l:List aI}(hr: ∀r∈l,bW b r){s:ByteArray}{t:List Int}(hs:av s=cat l++t)(ht:t.length<6)(j:s.size<=1000000):fM (b,s)=(l,6*(l.length:Int)):=by
 have m:s.size=6*l.length+t.length:=by grind [lx,List.length_append,Di]
 unfold fM Vh;have o:=fO (step:=kF) (k:=(s,b)) (n:=l.length) (λi y=>y=(l.take i,6*(i:Int)))
  (λi y hi a=>by
   subst a;have e:i64.wrap (6*(i:Int)+6)=6*(i:Int)+6:=aA (by omega) (by omega);have g:nO (b,s.extract (Int.toNat (6*(i:Int))) (Int.toNat (6*(i:Int)+6)))=(l[i],0):=by
    refine agR f (hr _ (axn hi)) ?_;rw[pM,hs,show Int.toNat (6*(i:Int)+6)=6*i+6 by omega,show Int.toNat (6*(i:Int))=6*i by omega];simp_all [VD]
   have h:6*(i:Int)+6<=(s.size:Int):=by omega
   unfold kF;simp only[e,h,avn,auw,g,awm,aur];grind [List.take_succ_eq_append_getElem,Prod.ext])
  (λy a=>by
   subst a;have e:i64.wrap (6*(l.length:Int)+6)=6*(l.length:Int)+6:=aA (by omega) (by omega);grind [kF]) (Nat.succ (qd (s,b) ([],0))) ([],0) (by grind [qd]) rfl
 simp_all
theorem Hq{b:ab}(f:aK b): ∀(l:List aI) (s:ByteArray),(∀r∈l,bW b r)->av (snapS b l s)=av s++cat l
 | [],s,_=>(aws _).symm
 |r::l,s,h=>by
  show av (snapS b l (bw (av s++av (iR (b,r)).1)))=av s++(eQr r++cat l);rw[Hq f l _ λq g=>h q (by simp_all),Rq f (h r (by simp)),nk,avb];intro x a;rcases List.mem_append.1 a with a|a
  ·exact si s x a
  ·exact aiq r x a
def ma(b:ab)(s:bO)(m:ak):Prop:= ∃l,(∀r∈l,bW b r)/\av (dt s)=cat l/\l.foldl aW (fR b.2.2.2.2.2.2.2.length)=m
theorem ad8{b:ab}(a:aK b){l:List aI}(hr: ∀r∈l,bW b r){s:bO}{t:List Int}(hs:av (dt s)=cat l++t)(ht:t.length<6)(u:(dt s).size<=65536):pD (b,s)=l.foldl aW (fR b.2.2.2.2.2.2.2.length):=by
 have h:b.2.2.2.2.2.2.2.length<=maxLen:=auq a.cn.2 (by decide);have j:l.length<=20000:=by
  have:=av2 List.length hs;rw[lx,au1,Di]at this;omega
 unfold pD;simp only[ah7 a hr hs ht (by omega),Oy a h];unfold YN;have m:=fO (step:=nD) (k:=(l,(l.length:Int))) (n:=l.length) (λi y=>y=((i:Int),(l.take i).foldl aW (fR b.2.2.2.2.2.2.2.length)))
  (λi y hi f=>by
   subst f;have g:(i:Int)<(l.length:Int):=by omega
   have o:=cA (auz i) g (auq j (by decide));unfold nD;simp only[g,avn,auw,o];refine⟨_,rfl,?_⟩;rw[av3 hi,awn,bH l i hi];rfl)
  (λy f=>by
   subst f;unfold nD;simp only[ay4,av4,aur]) (Nat.succ (vD (l,(l.length:Int)) ((0:Int),fR b.2.2.2.2.2.2.2.length))) ((0:Int),fR b.2.2.2.2.2.2.2.length) (by unfold vD;simp) rfl
 have:=m.1;rw[axy]at this;exact av2 Prod.snd this
theorem Pl{room:Int}{s:bO}(hs:cV (room,s)=true):((dt s).size:Int)<=room:=by
 grind [dt,gK]
theorem ma.replay{b:ab}{s:bO}{m:ak}(h:ma b s m)(a:aK b)(hs:cV (b.2.2.1,s)=true):pD (b,s)=m:=by
 obtain⟨l,h1,h2,h3⟩:=h;have h4:=Pl hs;have h5:=((gK _ _).1 hs).2.1;rw[ad8 a h1 (t:= []) (by simp_all) (by decide) (by omega),h3]
theorem ajB{s:bO}(h:s.2=0\/s.2=1):dt s=aa [s.1.1,s.1.2] s.2:=by
 unfold dt;rcases h with h5|h5<;>rw[h5]<;>rfl
def put(s:bO)(h:Int)(d:ByteArray):bO:=((bif h==0 then d else s.1.1,bif h==1 then d else s.1.2),s.2)
def half(s:bO)(h:Int):ByteArray:=aa [s.1.1,s.1.2] h
theorem afy{room h n:Int}{s:bO}(hs:cV (room,s)=true)(a:h=0\/h=1)(i:1<=n)(hm:n<=1048576):tq (room,s,h,n)=(put s h (ByteArray.mk #[]),n-1,0):=by
 have f:=vH hs a (n:=n) (by omega);have g:(n==0)=false:=by grind
 have hw:i64.wrap (n-1)=n-1:=aA (by omega) (by omega);unfold tq FJ;simp only[f,g,hw];rcases a with rfl|rfl<;>rfl
theorem aeB{room h n:Int}{s:bO}(hs:cV (room,s)=true)(a:h=0\/h=1)(i:1<=n)(hm:n<=1048576):tf (room,s,h,n)=((s.1,h),n-1,0):=by
 have f:=vH hs a (n:=n) (by omega);have g:(n==0)=false:=by grind
 have hw:i64.wrap (n-1)=n-1:=aA (by omega) (by omega);unfold tf EH;simp only[f,g,hw];rcases a with rfl|rfl<;>rfl
theorem Pr{room h n:Int}{s:bO}{d:ByteArray}(hs:cV (room,s)=true)(a:h=0\/h=1)(i:d.size<=room - ((half s h).size:Int))(j:d.size<=n)(hm:n<=1048576):
  oa (room,s,h,d,n)=(put s h (dq (half s h) d),n-d.size,0):=by
 unfold half at*;have f:=vH hs a (n:=n) (by omega);obtain⟨k,l,m,o,t⟩:=(gK _ _).1 hs;have hw:i64.wrap (room - ((aa [s.1.1,s.1.2] h).size:Int))=room - ((aa [s.1.1,s.1.2] h).size:Int):=aA (by omega) (by omega);have g:i64.wrap (n-d.size)=n-d.size:=aA (by omega) (by omega);have h1:decide (d.size>room - ((aa [s.1.1,s.1.2] h).size:Int))=false:=by simp_all
 have h2:decide (n<d.size)=false:=by simp_all
 unfold oa;simp only[f,hw,h1,h2,g];rcases a with rfl|rfl<;>rfl
theorem UH{room h:Int}{s:bO}{d:ByteArray}(hs:cV (room,s)=true)(i:d.size<=room):cV (room,put s h d)=true:=by
 obtain⟨a,f,j,k,g⟩:=(gK _ _).1 hs;refine(gK _ _).2 ⟨a,f,?_,?_,g⟩
 ·show((bif h==0 then d else s.1.1).size:Int)<=room
  cases(h==0)<;>assumption
 ·show((bif h==1 then d else s.1.2).size:Int)<=room
  cases(h==1)<;>assumption
theorem Qk{s:bO}{h:Int}{d:ByteArray}(a:h=0\/h=1):half (put s h d) h=d:=by rcases a with rfl|rfl<;>rfl
theorem ad2{b:ab}{s:bO}{m:ak}{n:Int}(hs:cV (b.2.2.1,s)=true)(hm:aT b m)(hr:18*((b.2.2.2.2.2.2.2.length:Int)+(m.2.2.2.length:Int))<=b.2.2.1)(t:b.2.2.1+2<=n)(f:n<=1048576):dt (kT (b,s,m,n)).1=snapS b (ff (b,m)) (ByteArray.mk #[]):=by
 obtain⟨u,w,x,y,z⟩:=(gK _ _).1 hs;have g:=hm.fit.2.1;have i:=hm.fit.2.2;have A:=G6 (b:=b) g i;have j:av (snapS b (ff (b,m)) (ByteArray.mk #[]))=cat (ff (b,m)):=Hq hm.bB (ff (b,m)) (ByteArray.mk #[]) (Hp hm);have k:((snapS b (ff (b,m)) (ByteArray.mk #[])).size:Int)<=b.2.2.1:=by
  have h0:=av2 List.length j;rw[lx,Di]at h0;have C:=hm.l1;omega
 have hi:=hm.is;have hw:i64.wrap ((1:Int)-s.2)=1-s.2:=aA (by omega) (by omega);have a:(1:Int)-s.2=0\/(1:Int)-s.2=1:=by omega
 have l:decide (n<(0:Int))=false:=by grind
 unfold kT;simp only[hs,hi,l,avw,ax7,aur,hw];generalize snapS b (ff (b,m)) (ByteArray.mk #[])=d at*;generalize(1:Int)-s.2=h at*;have h0:((ByteArray.mk #[]).size:Int)=0:=rfl;have i1:cV (b.2.2.1,put s h (ByteArray.mk #[]))=true:=UH hs (by omega);have o:dq (ByteArray.mk #[]) d=d:=yQ (by rw[IZ];rfl);have i2:cV (b.2.2.1,put (put s h (ByteArray.mk #[])) h d)=true:=UH i1 k;rw[afy hs a (by omega) f];simp only[axh,auw];rw[Pr i1 a (by simp_all [Qk]) (by omega) (by omega),Qk a,o];simp only[axh,auw];rw[aeB i2 a (by omega) (by omega)];rcases a with rfl|rfl<;>rfl
theorem Oa{b:ab}{s:bO}{m:ak}{n:Int}(hs:cV (b.2.2.1,s)=true)(hm:aT b m)(hr:18*(b.2.2.2.2.2.2.2.length+m.2.2.2.length)<=b.2.2.1)(a:b.2.2.1+2<=n)(f:n<=1048576):ma b (kT (b,s,m,n)).1 m:=
 ⟨ff (b,m),Hp hm,by rw[ad2 hs hm hr a f];exact Hq hm.bB (ff (b,m)) (ByteArray.mk #[]) (Hp hm),afh hm⟩
theorem aeC{b:ab}{s:bO}{m:ak}{r:aI}{n:Int}(h:Pow b s m)(z:ma b s m)(hr:bW b r)(j:wk b m r)(g:b.2.2.1+2<=n)(f:n<=1048576):ma b (kP (b,s,m,r,n)).1 (aW m r):=by
 obtain⟨s0,n0,f1,f2,f3,f4⟩:=GU h hr j g f;obtain⟨N,O,P,Q,i⟩:=(gK _ _).1 h.aX;have o:=h.aU.bB;have A:=J4 o hr;have C:eY (b,m,r)=(aW m r,0):=by
  unfold eY;simp only[h.aU.is,A,avw,ax7,aur];rfl
 have I:decide (n<(0:Int))=false:=by grind
 have J:(((r.1==(1:Int))&&(!((bt (m,r.2.1,r.2.2.1)).2)))&&(!(fP (b,m))))=false:=by
  by_cases h1:r.1=1
  ·rcases j h1 with h2|h2<;>rw[h2]<;>simp
  simp_all
 have S:=Pl h.aX;have T:=B4 (b,r);have L:=Rq o hr;have hw:i64.wrap (b.2.2.1 - ((dt s).size:Int))=b.2.2.1 - ((dt s).size:Int):=aA (by omega) (by omega);have U:=f4.room;have t:=f4.aU;unfold kP;simp only[C,h.aX,I,awm,avw,ax7,aur,J,hw];have M:=ajB i;by_cases w:((iR (b,r)).1.size:Int)<=b.2.2.1 - ((dt s).size:Int)
 ·rw[axr w,auw,Pr h.aX i (by simp_all [half]) (by omega) f]
  simp only[axh,auw];obtain⟨l,l1,l2,l3⟩:=z;refine⟨l++ [r],λq a=> ?_,?_,by rw[awn,l3];rfl⟩
  ·rcases List.mem_append.1 a with a|a
   ·exact l1 q a
   ·rw[av8]at a;subst a;exact hr
  ·have e:dt (put s s.2 (dq (half s s.2) (iR (b,r)).1))=dq (dt s) (iR (b,r)).1:=by
    rw[M];obtain⟨⟨u,v⟩,k⟩:=s;rcases i with h5|h5
    ·have h5:k=0:=h5
     subst h5;rfl
    ·have h5:k=1:=h5
     subst h5;rfl
   rw[e,IZ,l2,L,TQ];show cat l++eQr r=cat l++(eQr r++ []);rw[aws]
 ·have x:=Oa h.aX t (by omega) g f
  obtain⟨V,Y,y,Z,w3,w4⟩:=Hi h.aX t (by omega) g f;rw[y]at x;rw[axg w,aur,y];simp only[axh,auw];exact x
theorem aft{l:List aI}{t:aq}(h:Pow t.1 t.2.1.2.1 t.2.1.1)(u:ma t.1 t.2.1.2.1 t.2.1.1)(w:t.2.2.2.2.2.1=0)(x:RegRs t.1 t.2.1.1 l)(hl:l.length<=maxLen)(O:(t.1.2.2.1+2)*l.length<=t.2.2.2.2.1)(P:t.2.2.2.2.1<=1048576):
  ma t.1 (dH (l,t)).2.2.1.2.1 (dH (l,t)).2.2.1.1:=by
 have Q:=((gK _ _).1 h.aX).1;have z:=fO (step:=gL) (k:=(l,l.length)) (n:=l.length)
  (λi y=> ∃aX a,y=((i:Int),t.1,((l.take i).foldl aW t.2.1.1,aX,t.2.1.2.2),t.2.2.1,t.2.2.2.1,a,0,t.2.2.2.2.2.2)/\t.2.2.2.2.1 - (t.1.2.2.1+2)*i<=a/\a<=t.2.2.2.2.1/\Pow t.1 aX ((l.take i).foldl aW t.2.1.1)/\RegRs t.1 ((l.take i).foldl aW t.2.1.1) (l.drop i)/\ma t.1 aX ((l.take i).foldl aW t.2.1.1))
  (λi y hi f=>by
   obtain⟨aX,a,rfl,h1,h2,h3,h4,h5⟩:=f;have g:(i:Int)<l.length:=by omega
   have A:=cA (auz i) g hl;have ht:l.take (i+1)=l.take i++ [aa l i]:=by rw[bH l i hi];exact av3 hi
   have C:l.drop i=aa l i::l.drop (i+1):=by rw[bH l i hi];exact av5 hi
   rw[C]at h4;obtain⟨j,m,I⟩:=h4;have hb:(t.1.2.2.1+2)*(i+1)<=(t.1.2.2.1+2)*l.length:=ay7 (by omega) (by omega);have J:(t.1.2.2.1+2)*(i+1)=(t.1.2.2.1+2)*i+(t.1.2.2.1+2):=by rw[Int.mul_add,Int.mul_one]
   obtain⟨L,M,o,S,T,N⟩:=GU h3 j m (n:=a) (by omega) (by omega);have s:=aeC h3 h5 j m (n:=a) (by omega) (by omega);rw[o]at s;unfold gL;simp only[g,avn,auw,aur,A,o];refine⟨_,rfl,L,M,?_,?_,by omega,?_,?_,?_⟩
   ·rw[ht,awn];rfl
   ·rw[aBk,Int.natCast_one,J];omega
   ·rw[ht,awn];exact N
   ·rw[ht,awn];exact I
   ·rw[ht,awn];exact s)
  (λy f=>by
   obtain⟨aX,a,rfl,_⟩:=f;unfold gL;simp only[ay4,av4,aur]) (Nat.succ (iZ (l,l.length) (0,t))) (0,t) (by unfold iZ;simp)
  ⟨t.2.1.2.1,t.2.2.2.2.1,awf rfl (awf rfl (awf rfl (awf rfl (awf rfl (awf rfl (awf w rfl)))))),by simp,au4 _,h,x,u⟩
 obtain⟨⟨aX,a,e,h1,h2,h3,_,h5⟩,hr⟩:=z;unfold dH vk vy;simp only;rw[hr,e];exact h5
theorem Pq{b:ab}{s:bO}(a:aK b)(f:18*b.2.2.2.2.2.2.2.length<=b.2.2.1)(hr:b.2.2.1<=678)(hs:s=(kT (b,mE,fR b.2.2.2.2.2.2.2.length,1048576)).1):ma b s (fR b.2.2.2.2.2.2.2.length):=by
 have g:1<=b.2.2.2.2.2.2.2.length:=a.cn.1;have h0:cV (b.2.2.1,mE)=true:=(gK _ _).2 ⟨by omega,by omega,by show 0<=_;omega,by show 0<=_;omega,.inl rfl⟩;rw[hs];exact Oa h0 (yZ a) (by show 18*(_+0)<=_;omega) (by omega) (au4 _)
theorem IF{α:Type}{l:List α}{p:α->Prop}(h: ∀a∈l,p a){i:Nat}{v:α}(f:p v): ∀a∈l.set i v,p a:=λa g=>by
 grind
def oT(b:ab)(c:List gE):ab:=(b.1,b.2.1,b.2.2.1,b.2.2.2.1,b.2.2.2.2.1,b.2.2.2.2.2.1,b.2.2.2.2.2.2.1,c)
theorem al2{fl d:Int}{c:gE}(h:ez fl c=true)(a:1<=d/\d<=10000):ez fl (d,c.2)=true:=by
 simp_all [ez,fW]
theorem amT{fl q s:Int}{c:gE}(h:ez fl c=true)(a:1<=q/\q<=10000)(hs:0<=s/\s<=10000):ez fl (c.1,c.2.1,q,s,c.2.2.2.2)=true:=by
 simp_all [ez,fW]
theorem amU{x:af}(h:(0<=x.1/\x.1<=255)/\0<=x.2/\x.2<=255): ∃c,tJ x=oT (ji x) c/\c.length=(ji x).2.2.2.2.2.2.2.length/\ ∀a∈c,ez (ji x).1 a=true:=by
 have j:=(Gy h).1;have l:(ji x).2.2.2.2.2.2.2.length<=8:=j.cn.2;unfold tJ Z9;generalize ji x=b at*;have m:=fO (step:=qj) (k:=x.2) (n:=b.2.2.2.2.2.2.2.length) (λi y=> ∃c,y=((i:Int),oT b c)/\c.length=b.2.2.2.2.2.2.2.length/\ ∀a∈c,ez b.1 a=true)
  (λi y hi g=>by
   obtain⟨c,rfl,h1,h2⟩:=g;have f:(i:Int)<((oT b c).2.2.2.2.2.2.2.length:Int):=by show(i:Int)<(c.length:Int);omega
   have o:=cA (auz i) f (by show c.length<=maxLen;rw[h1];exact auq l (by decide));unfold qj;simp only[f,avn,auw,o];refine⟨_,rfl,c.set ((i:Int)).toNat (i64.wrap ((1:Int)+i64.wrap (Int.tmod x.2 16)),(aa c (i:Int)).2),rfl,(auu ..).trans h1,IF h2 (al2 (h2 _ (im (auz i) f)) ?_)⟩;have ht:Int.tmod x.2 16=x.2 % 16:=avq h.2.1;rw[ht,aA (x:=x.2 % 16) (by omega) (by omega),aA (by omega) (by omega)];omega)
  (λy g=>by
   obtain⟨c,rfl,h1,h2⟩:=g;unfold qj;have f: ¬ ((b.2.2.2.2.2.2.2.length:Int)<((oT b c).2.2.2.2.2.2.2.length:Int)):=by show¬ (_<(c.length:Int));omega
   simp only[f,av4,aur]) (Nat.succ (sI x.2 ((0:Int),b))) ((0:Int),b) (by unfold sI;simp) ⟨_,rfl,rfl,j.eU⟩
 obtain⟨c,h1,h2,h3⟩:=m.1;exact⟨c,av2 Prod.snd h1,h2,h3⟩
theorem sA{x:ay}(h:(0<=x.1/\x.1<=255)/\(0<=x.2.1/\x.2.1<=255)/\0<=x.2.2/\x.2.2<=255):aK (F7 x)/\(F7 x).1<=6/\(F7 x).2.2.1<=678/\18*((F7 x).2.2.2.2.2.2.2.length:Int)+24<=(F7 x).2.2.1:=by
 have o:=Gy (x:=(x.1,x.2.1)) ⟨h.1,h.2.1⟩;obtain⟨g,t,l0,u⟩:=amU (x:=(x.1,x.2.1)) ⟨h.1,h.2.1⟩;have l:=o.1;have h6:=o.2;have w:(ji (x.1,x.2.1)).2.2.2.2.2.2.2.length<=8:=l.cn.2;unfold F7 acF aaZ;rw[t];generalize ji (x.1,x.2.1)=b at*;have A:Int.tmod x.2.2 3=x.2.2 % 3:=avq h.2.2.1;have C:Int.tdiv x.2.2 3=x.2.2/3:=axj h.2.2.1;have I:i64.wrap (1+i64.wrap (Int.tmod x.2.2 3))=1+x.2.2 % 3:=by
  rw[A,aA (x:=x.2.2 % 3) (by omega) (by omega),aA (by omega) (by omega)]
 have J:i64.wrap (i64.wrap (i64.wrap (18*((oT b g).2.2.2.2.2.2.2.length:Int))+24)+i64.wrap ((6:Int)*i64.wrap (u8.wrap (Int.tdiv x.2.2 3))))=18*b.2.2.2.2.2.2.2.length+24+6*(x.2.2/3):=by
  have L:((oT b g).2.2.2.2.2.2.2.length:Int)=b.2.2.2.2.2.2.2.length:=by show(g.length:Int)=_;omega
  have M:u8.wrap (x.2.2/3)=x.2.2/3:=by rw[av1];omega
  rw[L,C,M,aA (x:=x.2.2/3) (by omega) (by omega),aA (x:=6*(x.2.2/3)) (by omega) (by omega),aA (x:=18*b.2.2.2.2.2.2.2.length) (by omega) (by omega),aA (x:=18*b.2.2.2.2.2.2.2.length+24) (by omega) (by omega),aA (by omega) (by omega)]
 rw[I,J];have N:=fO (step:=vP) (k:=x) (n:=b.2.2.2.2.2.2.2.length) (λi y=> ∃c,y=((i:Int),b.1,1+x.2.2 % 3,18*b.2.2.2.2.2.2.2.length+24+6*(x.2.2/3),b.2.2.2.1,b.2.2.2.2.1,b.2.2.2.2.2.1,b.2.2.2.2.2.2.1,c)/\c.length=b.2.2.2.2.2.2.2.length/\ ∀a∈c,ez b.1 a=true)
  (λi y hi m=>by
   obtain⟨c,rfl,h1,h2⟩:=m;have j:(i:Int)<c.length:=by omega
   have O:=cA (auz i) j (by rw[h1];exact auq w (by decide));have b1:i<c.length:=by omega
   have P:Int.tmod x.2.2 4=x.2.2 % 4:=avq h.2.2.1;have Q:Int.tmod x.2.1 5=x.2.1 % 5:=avq h.2.1.1;have S:i64.wrap ((1:Int)+i64.wrap (Int.tmod x.2.2 4))=1+x.2.2 % 4:=by
    rw[P,aA (x:=x.2.2 % 4) (by omega) (by omega),aA (by omega) (by omega)]
   have v2:i64.wrap (Int.tmod x.2.1 5)=x.2.1 % 5:=by rw[Q,aA (by omega) (by omega)]
   unfold vP Kc;simp only[j,avn,auw,O,S,v2];have e:=js (v:=((aa c (i:Int)).1,(aa c (i:Int)).2.1,1+x.2.2 % 4,(aa c (i:Int)).2.2.2)) b1;have T:=amT (q:=1+x.2.2 % 4) (s:=x.2.1 % 5) (h2 _ (im (auz i) j)) (by omega) (by omega);have U:ez b.1 ((aa c (i:Int)).1,(aa c (i:Int)).2.1,1+x.2.2 % 4,(aa c (i:Int)).2.2.2)=true:=by
    have q:=h2 _ (im (auz i) j);unfold ez fW at q⊢;simp only[au0,adv]at q⊢;omega
   refine⟨_,rfl,_,rfl,(auu ..).trans ((auu ..).trans h1),IF (IF h2 U) ?_⟩;have V:=av2 (λz:gE=>z.1) e;have Y:=av2 (λz:gE=>z.2.1) e;have Z:=av2 (λz:gE=>z.2.2.1) e;have e4:=av2 (λz:gE=>z.2.2.2.2) e;have key:((aa (c.set ((i:Int)).toNat ((aa c (i:Int)).1,(aa c (i:Int)).2.1,1+x.2.2 % 4,(aa c (i:Int)).2.2.2)) (i:Int)).1,(aa (c.set ((i:Int)).toNat ((aa c (i:Int)).1,(aa c (i:Int)).2.1,1+x.2.2 % 4,(aa c (i:Int)).2.2.2)) (i:Int)).2.1,(aa (c.set ((i:Int)).toNat ((aa c (i:Int)).1,(aa c (i:Int)).2.1,1+x.2.2 % 4,(aa c (i:Int)).2.2.2)) (i:Int)).2.2.1,x.2.1 % 5,(aa (c.set ((i:Int)).toNat ((aa c (i:Int)).1,(aa c (i:Int)).2.1,1+x.2.2 % 4,(aa c (i:Int)).2.2.2)) (i:Int)).2.2.2.2)=((aa c (i:Int)).1,(aa c (i:Int)).2.1,1+x.2.2 % 4,x.2.1 % 5,(aa c (i:Int)).2.2.2.2):=awf V (awf Y (awf Z (awf rfl e4)));exact(av2 (ez b.1) key).trans T)
  (λy m=>by
   obtain⟨c,rfl,h1,h2⟩:=m;unfold vP;have j: ¬ (b.2.2.2.2.2.2.2.length<(c.length:Int)):=by omega
   simp only[j,av4,aur]) (Nat.succ (zX x ((0:Int),b.1,1+x.2.2 % 3,18*b.2.2.2.2.2.2.2.length+24+6*(x.2.2/3),(oT b g).2.2.2))) ((0:Int),b.1,1+x.2.2 % 3,18*b.2.2.2.2.2.2.2.length+24+6*(x.2.2/3),(oT b g).2.2.2) (by unfold zX oT;simp[l0]) ⟨g,rfl,l0,u⟩
 obtain⟨c,h1,h2,h3⟩:=N.1;have a1:=av2 Prod.snd h1;have a2: ∀f:ab,f=(b.1,1+x.2.2 % 3,18*b.2.2.2.2.2.2.2.length+24+6*(x.2.2/3),b.2.2.2.1,b.2.2.2.2.1,b.2.2.2.2.2.1,b.2.2.2.2.2.2.1,c)->aK f/\f.1<=6/\f.2.2.1<=678/\18*f.2.2.2.2.2.2.2.length+24<=f.2.2.1:=by
  rintro f rfl
  have a3:=h2;have a4:1<=b.2.2.2.2.2.2.2.length:=l.cn.1;refine⟨⟨l.fl,⟨by show 1<=c.length;omega,by show c.length<=8;omega⟩,by show 1<=1+x.2.2 % 3/\1+x.2.2 % 3<=16;omega,l.Ms,h3,l.Ew,?_⟩,h6,?_,?_⟩
  ·show 18*c.length+24<=18*b.2.2.2.2.2.2.2.length+24+6*(x.2.2/3)/\18*b.2.2.2.2.2.2.2.length+24+6*(x.2.2/3)<=65536
   omega
  ·show 18*b.2.2.2.2.2.2.2.length+24+6*(x.2.2/3)<=678;omega
  ·show 18*c.length+24<=18*b.2.2.2.2.2.2.2.length+24+6*(x.2.2/3);omega
 exact a2 _ a1
theorem yC{x:ay}(h:(0<=x.1/\x.1<=255)/\(0<=x.2.1/\x.2.1<=255)/\0<=x.2.2/\x.2.2<=255): ∃s,F8 (F7 x)=(td (F7 x).2.2.2.2.2.2.2.length s,0)/\cV ((F7 x).2.2.1,s)=true/\s=(kT ((F7 x),mE,fR (F7 x).2.2.2.2.2.2.2.length,1048576)).1:=by
 grind [sA,start_eq]
theorem agn{b:ab}(a:aK b):(gX (b,ByteArray.mk #[])).2≠0:=by
 have hl:b.2.2.2.2.2.2.2.length<=maxLen:=auq a.cn.2 (by decide);rw[rz b hl];unfold ju;have h:fU b (ByteArray.mk #[]) (14+19*dD b) 165≠0:=by
  unfold fU;rw[au6 (by simp_all),ava (by show(0:Int)≠14+19*b.2.2.2.2.2.2.2.length;omega)];decide
 simp_all
theorem aqG{x:ay}(h:(0<=x.1/\x.1<=255)/\(0<=x.2.1/\x.2.1<=255)/\0<=x.2.2/\x.2.2<=255):nT (F8 (F7 x)).1:=by
 grind [yC,Qq]
theorem af5{b:ab}(a:aK b):iC b (ByteArray.mk #[]):=λh=>absurd h (agn a)
theorem aiA{x:ay}(h:kO x)(n:Int):kO x/\Ad (F7 x,(F8 (F7 x)).1,ByteArray.mk #[],n):=by
 refine⟨h,?_⟩;unfold Ad;dsimp only;exact⟨aqG h,af5 (sA h).1⟩
def NF(x:Unit):=letI a:=F7 (2,40,90);letI b:=F8 a;b.2==0&&(jm (a,b.1,ByteArray.mk #[],1048576)).2.2==0&&(jm (a,b.1,ByteArray.mk #[],1048576)).1.2.2.2.2.2.2.2.2.1==1&&(jm (a,b.1,ByteArray.mk #[],1048576)).1.2.2.2.2.2.2.2.2.2.1==1&&(jm (a,b.1,ByteArray.mk #[],1048576)).2.1.2.2.1&&((jm (a,b.1,ByteArray.mk #[],1048576)).2.1.2.2.2.2.2.length:Int)==1
def ac9:Ct:=⟨Ty.unit,[],aw,ah.one none,none,none,NF⟩
theorem arM:ar 19 ac9:=au (dN (Ca true) mi dh Tv []) func19 [] l0 (λx fx _=>sl (letI a:=(2,40,90);kO a/\Ad (F7 a,(F8 (F7 a)).1,ByteArray.mk #[],1048576)) (by
 try dsimp only[Ty.den]at*
 exact aiA (x:=((2:Int),(40:Int),(90:Int))) ⟨⟨by decide,by decide⟩,⟨by decide,by decide⟩,by decide,by decide⟩ 1048576))
def atq:List (Nat×Ct):=(19,ac9)::acH
theorem akM:cu atq:=gc arM func19 (Tv)
structure gW (i:Nat) (oc oc':List jk):Prop where
 len:oc'.length=oc.length
 ne: ∀j:Nat,j≠i->aa oc' (j:Int)=aa oc (j:Int)
 fw:(aa oc' (i:Int)).2.1=(aa oc (i:Int)).2.1
theorem gW.refl{i:Nat}{a:List jk}:gW i a a:=⟨rfl,λ_ _=>rfl,rfl⟩
theorem gW.set{i:Nat}{a f:List jk}(hi:i<a.length)(h:gW i a f){v:jk}(k:v.2.1=(aa f i).2.1):gW i a (f.set ((i:Int)).toNat v):=
 have b:=by rw[h.len];omega
 ⟨(auu ..).trans h.len,λj g=>(fi b g).trans (h.ne j g),(av2 (λz:jk=>z.2.1) (js b)).trans (k.trans h.fw)⟩
def pz(x:aq)(j:Int):bT:=bif gF (aa x.2.1.1.1 j)&& !aa x.2.1.1.2.1 j then(mB (x.1,j,aa x.2.1.2.2.2.1 j,mI (x.1,x.2.1.1,j))).1 else aa x.2.1.2.2.2.1 j
def lM(x:aq)(aB:List bT)(a:List jk):aq:=
 (x.1,(x.2.1.1,x.2.1.2.1,x.2.1.2.2.1,aB,x.2.1.2.2.2.2),x.2.2.1,x.2.2.2.1,x.2.2.2.2.1,x.2.2.2.2.2.1,x.2.2.2.2.2.2.1,x.2.2.2.2.2.2.2.1,x.2.2.2.2.2.2.2.2.1,bR x.2.1.1,x.2.2.2.2.2.2.2.2.2.2.1,(!x.2.2.2.1),x.2.2.2.2.2.2.2.2.2.2.2.2.1,x.2.2.2.2.2.2.2.2.2.2.2.2.2.1,a)
structure AX (x:aq) (aB:List bT) (oc:List jk) (i:Nat):Prop where
 l1:aB.length=x.1.2.2.2.2.2.2.2.length
 l2:oc.length=x.1.2.2.2.2.2.2.2.length
 aN: ∀j:Nat,i<=j->aa aB (j:Int)=aa x.2.1.2.2.2.1 (j:Int)
 new: ∀j:Nat,j<i->aa aB (j:Int)=pz x j
 fw: ∀j:Nat,(aa oc (j:Int)).2.1=(aa x.2.2.2.2.2.2.2.2.2.2.2.2.2.2 (j:Int)).2.1
theorem AX.step{x:aq}{aB k:List bT}{m l:List jk}{i:Nat}(h:AX x aB m i)(hi:i<x.1.2.2.2.2.2.2.2.length)(f:gW i m l)(hb:k=aB/\pz x i=aa x.2.1.2.2.2.1 i\/k=aB.set ((i:Int)).toNat (pz x i)):AX x k l (i+1):=by
 have b:i<aB.length:=by rw[h.l1];omega
 have hl: ∀j:Nat,(aa l j).2.1=(aa x.2.2.2.2.2.2.2.2.2.2.2.2.2.2 j).2.1:=λj=>by
  by_cases a:j=i
  ·subst a;exact f.fw.trans (h.fw j)
  ·rw[f.ne j a];exact h.fw j
 rcases hb with⟨rfl,o⟩|rfl
 ·refine⟨h.l1,f.len.trans h.l2,λj a=>h.aN j (by omega),λj a=> ?_,hl⟩
  by_cases g:j=i
  ·subst g;rw[o];exact h.aN j (au2 _)
  ·exact h.new j (by omega)
 ·refine⟨(auu ..).trans h.l1,f.len.trans h.l2,λj a=>(fi b (by omega)).trans (h.aN j (by omega)),λj a=> ?_,hl⟩
  by_cases g:j=i
  ·subst g;exact js b
  ·exact(fi b g).trans (h.new j (by omega))
theorem afR{x:aq}(h:cF x): ∃aB a,(tF x).2=lM x aB a/\AX x aB a x.1.2.2.2.2.2.2.2.length:=by
 have m:=h.p1;have M:=h.n8;unfold tF UP V2;have A:=fO (step:=uQ) (k:=(x.2.1.1.1,(x.2.1.1.1.length:Int))) (n:=x.1.2.2.2.2.2.2.2.length)
  (λi y=> ∃aB a,y=((i:Int),lM x aB a)/\AX x aB a i)
  (λi y hi s=>by
   obtain⟨aB,a,rfl,g⟩:=s;have o:(i:Int)<(x.2.1.1.1.length:Int):=by rw[m];omega
   have u:=cA (auz i) o (by rw[m];unfold maxLen;omega);have f:i<a.length:=by rw[g.l2];exact hi
   unfold uQ;simp only[o,avn,auw];have C:aa aB (i:Int)=aa x.2.1.2.2.2.1 (i:Int):=g.aN i (au2 _);cases hw:(gF (aa x.2.1.1.1 (i:Int))&&(!aa x.2.1.1.2.1 (i:Int)))with
   |true=>
    have t:(gF (aa x.2.1.1.1 (i:Int))&&(!aa (lM x aB a).2.1.1.2.1 (i:Int)))=true:=hw;have l:(mB (x.1,(i:Int),aa aB (i:Int),mI (x.1,x.2.1.1,(i:Int)))).1=pz x i:=by unfold pz;rw[hw,auw,C]
    have I:gW i a (uw (x.2.1.1.1,(x.2.1.1.1.length:Int)) ((i:Int),lM x aB a)):=gW.set f gW.refl rfl;have w:gW i a (ng (x.2.1.1.1,(x.2.1.1.1.length:Int)) ((i:Int),lM x aB a)):=by
     exact gW.set f (gW.set f I (by rfl)) (by rfl)
    rw[t,auw,u];cases(aa (lM x aB a).2.2.2.2.2.2.2.2.1 (i:Int)|| !AL (aa x.2.1.1.1 (i:Int),(aa (ng (x.2.1.1.1,(x.2.1.1.1.length:Int)) ((i:Int),lM x aB a)) (i:Int)).2.2.2.1))with
    |true=>exact⟨_,rfl,aB.set ((i:Int)).toNat (mB (x.1,(i:Int),aa aB (i:Int),mI (x.1,x.2.1.1,(i:Int)))).1,_,rfl,g.step hi (gW.set f w rfl) (.inr (by rw[l]))⟩
    |false=>exact⟨_,rfl,aB.set ((i:Int)).toNat (mB (x.1,(i:Int),aa aB (i:Int),mI (x.1,x.2.1.1,(i:Int)))).1,_,rfl,g.step hi w (.inr (by rw[l]))⟩
   |false=>
    have t:(gF (aa x.2.1.1.1 (i:Int))&&(!aa (lM x aB a).2.1.1.2.1 (i:Int)))=false:=hw;have l:pz x i=aa x.2.1.2.2.2.1 (i:Int):=by unfold pz;rw[hw,aur]
    have J:gW i a (BV (x.2.1.1.1,(x.2.1.1.1.length:Int)) ((i:Int),lM x aB a)):=gW.set f (gW.set f gW.refl (by rfl)) (by rfl);have z:gW i a (ni (x.2.1.1.1,(x.2.1.1.1.length:Int)) ((i:Int),lM x aB a)):=gW.set f J rfl;rw[t,aur,u];cases(aa (lM x aB a).2.2.2.2.2.2.2.2.1 (i:Int)|| !AL (aa x.2.1.1.1 (i:Int),(aa (ni (x.2.1.1.1,(x.2.1.1.1.length:Int)) ((i:Int),lM x aB a)) (i:Int)).2.2.2.1))with
    |true=>exact⟨_,rfl,aB,_,rfl,g.step hi (gW.set f z rfl) (.inl ⟨rfl,l⟩)⟩
    |false=>exact⟨_,rfl,aB,_,rfl,g.step hi z (.inl ⟨rfl,l⟩)⟩)
  (λy s=>by
   obtain⟨aB,a,rfl,g⟩:=s;unfold uQ;have o: ¬ ((x.1.2.2.2.2.2.2.2.length:Int)<(x.2.1.1.1.length:Int)):=by rw[m];omega
   simp only[o,av4,aur]) (Nat.succ (CL (x.2.1.1.1,(x.2.1.1.1.length:Int)) ((0:Int),x.1,x.2.1,x.2.2.1,x.2.2.2.1,x.2.2.2.2.1,x.2.2.2.2.2.1,x.2.2.2.2.2.2.1,x.2.2.2.2.2.2.2.1,x.2.2.2.2.2.2.2.2.1,(bR x.2.1.1),x.2.2.2.2.2.2.2.2.2.2.1,(!x.2.2.2.1),x.2.2.2.2.2.2.2.2.2.2.2.2))) ((0:Int),x.1,x.2.1,x.2.2.1,x.2.2.2.1,x.2.2.2.2.1,x.2.2.2.2.2.1,x.2.2.2.2.2.2.1,x.2.2.2.2.2.2.2.1,x.2.2.2.2.2.2.2.2.1,(bR x.2.1.1),x.2.2.2.2.2.2.2.2.2.2.1,(!x.2.2.2.1),x.2.2.2.2.2.2.2.2.2.2.2.2) (by unfold CL;simp[m])
   ⟨_,_,rfl,h.c2,h.c8,λj _=>rfl,λj L=>absurd L (by omega),λj=>rfl⟩
 obtain⟨aB,a,h1,h2⟩:=A.1;exact⟨aB,a,av2 Prod.snd h1,h2⟩
theorem alE{b:ab}{s:ByteArray}(a:aK b)(h:(ju b s).2=0->(ju b s).1.2.1.1=0\/(ju b s).1.2.1.1=8):iC b s:=by
 have hl:b.2.2.2.2.2.2.2.length<=maxLen:=auq a.cn.2 (by decide);simp_all [iC,rz]
theorem aoD{b:ab}(a:aK b)(s:ByteArray):AY (b,s)=ju b s:=aep b (auq a.cn.2 (by decide)) s
structure aun (x:aq):Prop where
 d1:ei (gi x).2
 z2:(fF (gi x).2).2.2.2.2.2.2.1=0
 d2:ei (fF (gi x).2).2
 z3:(ie (fF (gi x).2).2).2.2.2.2.2.2.1=0
 d3:ei (ie (fF (gi x).2).2).2
 z4:(iQ (ie (fF (gi x).2).2).2).2.2.2.2.2.2.1=0
 d4:cF (iQ (ie (fF (gi x).2).2).2).2
 eq:(kp x).2=(tF (iQ (ie (fF (gi x).2).2).2).2).2
theorem Fs{a:Int}(h:a=0):(a !=0)=false:=by simp_all
def runT(b:ab)(m:bg)(s:ByteArray)(n:Int):aq:=(kp (lJ b m s n)).2
theorem amY(b:ab)(m:bg)(s:ByteArray)(n:Int):(runT b m s n).2.2.2.2.2.1=0->xf (b,m,s,n)=((runT b m s n).2.1,(runT b m s n).2.2.2.2.2.2.2.2.2,0):=λh=>by
 unfold xf XG;have e:(kp ((b,m,s,n).1,((b,m,s,n).2.1.1,(b,m,s,n).2.1.2.1,(wZ (b,m,s,n).2.1.2.2.1).1,(rl (b,m,s,n).2.1.2.2.2.1).1,(wX (b,m,s,n).2.1.2.2.2.2.1).1,(wU (b,m,s,n).2.1.2.2.2.2.2.1).1,(b,m,s,n).2.1.2.2.2.2.2.2),(gX ((b,m,s,n).1,(b,m,s,n).2.2.1)).1,((gX ((b,m,s,n).1,(b,m,s,n).2.2.1)).2==0),(b,m,s,n).2.2.2,0,(aC aw ((b,m,s,n).1.2.2.2.2.2.2.2.length:Int)),(aC aS ((b,m,s,n).1.2.2.2.2.2.2.2.length:Int)),(aC aw ((b,m,s,n).1.2.2.2.2.2.2.2.length:Int)),(0,0),(0,0),false,false,0,(aC gS ((b,m,s,n).1.2.2.2.2.2.2.2.length:Int)))).2=runT b m s n:=rfl;simp_all
theorem alo{b:ab}{m:bg}{s:ByteArray}{n:Int}(a:rh (b,m)=true)(hl:m.2.2.2.1.length<=maxLen)(g:0<=n):jm (b,m,s,n)=xf (b,m,s,n):=by
 unfold jm;have f:decide (n<0)=false:=by simp_all
 simp only[a,f,avw,ax7,aur];rw[Um hl]
theorem aiY(i:Int):0<=i64.wrap (aa jK i):=by
 have a: ∀y∈jK,0<=y/\y<=31:=by decide
 have h:0<=aa jK i/\aa jK i<=31:=by
  unfold aa;by_cases hi:i.toNat<jK.length;all_goals simp_all
 rw[aA (by omega) (by omega)];exact h.1
theorem aai(x:Int):0<=ra x:=by
 unfold ra;cases(x==(0:Int))with
 |true=>simp_all
 |false=>rw[aur];exact aiY _
theorem aio(a c:Bool):0<=A0 (a,c,0,1,2,3)/\A0 (a,c,0,1,2,3)<=3:=by
 cases a<;>cases c<;>decide+kernel
theorem agd{n:Int}(h:2<=n)(x:Int): -1<=AW (n,x)/\AW (n,x)<n:=by
 have ht:=aai x;unfold AW;grind
theorem afc{n:Int}(h:2<=n/\n<=32)(c:eQ):mT (n,lX (n,c))=true:=by
 simp_all [mT,lX,AV,agd,aio]
theorem Rw{n:Int}{o:ay}(h:mT (n,o)=true):(-1<=o.1/\o.1<=n-1)/\(0<=o.2.1/\o.2.1<=3)/\0<=o.2.2/\o.2.2<=3:=by
 grind [mT]
structure AgP (l:List iD) (limit:Int) (r:List iD×Bool):Prop where
 late:r.2=true->r.1= []
 all: ∀d∈r.1,∃d0∈l,d.1=d0.1/\d.2.1=d0.2.1/\d.2.2=d0.2.2+1/\d.2.2<=limit
 fg:eM dk l->eM dk r.1
theorem ajd{l:List iD}{limit:Int}{c:af}(hl:l.length<=maxLen)(t: ∀d∈l,0<=d.2.2/\d.2.2<=10000):AgP l limit (tw (l,limit,c)):=by
 have u:=na (step:=so) (k:=(limit,l,l.length,c)) (I:=λx=> ∃i:Nat,x.2=i/\i<=l.length/\ ∃g,g.Sublist (l.take i)/\x.1=g.map (λd:iD=>(d.1,d.2.1,d.2.2+1))/\ ∀d∈x.1,d.2.2<=limit) (mu:=λx=>(l.length-x.2).toNat)
  (Q:=λo x=>match o with|some r=>r=([],true)|none=>AgP l limit (x.1,false)) (λx w=>by
   obtain⟨m,xi⟩:=x;obtain⟨i,h0,h1,g,h2,h3,h4⟩:=w;simp only at h0 h3 h4;subst h0;unfold so;by_cases f:(i:Int)<l.length
   ·have hi:i<l.length:=by omega
    have e:=cA (auz i) f hl;have ht:l.take (i+1)=l.take i++ [aa l i]:=by rw[bH l i hi];exact av3 hi
    have hm:=t _ (im (auz i) f);have hw:i64.wrap ((aa l i).2.2+1)=(aa l i).2.2+1:=aA (by omega) (by omega);simp only[f,avn,auw,hw,e];by_cases s:(aa l i).2.2+1>limit
    ·simp only[s,avn,auw]
    ·simp only[s,av4,aur]
     cases(!dO (c,(aa l i).1,(aa l i).2.1))with
     |true=>
      refine⟨⟨i+1,rfl,hi,g++ [aa l i],by rw[ht];exact h2.append (aBb _),?_,λd a=> ?_⟩,dg f⟩
      ·rw[ayl,<- h3];rfl
      ·rcases List.mem_append.1 (show d∈m++ [((aa l i).1,(aa l i).2.1,(aa l i).2.2+1)]from a)with h5|h5
       ·exact h4 d h5
       ·rw[List.mem_singleton.1 h5];show(aa l i).2.2+1<=limit;omega
     |false=>exact⟨⟨i+1,rfl,hi,g,by rw[ht];exact h2.trans (List.sublist_append_left _ _),h3,h4⟩,dg f⟩
   ·simp only[f,av4,aur]
    refine⟨λh=>(by cases h),λd a=> ?_,λhs=> ?_⟩
    ·have j:=a
     have h5:=h4 d j;rw[h3]at j;obtain⟨d0,h6,rfl⟩:=List.mem_map.1 j;exact⟨d0,awg (h2.subset h6),rfl,rfl,rfl,h5⟩
    ·show eM dk m
     rw[h3];unfold eM;rw[List.pairwise_map];exact(aAh (h2.trans (List.take_sublist _ _)) hs)) (Nat.succ (sd (limit,l,l.length,c) ([],0))) ([],0) ⟨0,rfl,awc _,[],aBb _,rfl,λd a=>(by cases a)⟩ (by unfold sd;simp)
 unfold tw We UA;simp only;revert u
 cases bj so (limit,l,l.length,c) (Nat.succ (sd (limit,l,l.length,c) ([],0))) ([],0)with
 |some r=>
  intro h;have h:=h;subst h;exact⟨λ_=>rfl,λd a=>(by cases a),λ_=>List.Pairwise.nil⟩
 |none=>intro h;exact h
theorem aht{fl:Int}{c:gE}(h:ez fl c=true):1<=c.1/\c.1<=10000:=by
 simp_all [ez,fW]
theorem dZ.dl{b:ab}{c:Int}{s:bT}(h:dZ b c s):1<=(aa b.2.2.2.2.2.2.2 c).1/\(aa b.2.2.2.2.2.2.2 c).1<=10000:=aht (h.bB.eU _ (im h.eU.1 h.eU.2))
theorem dZ.AE{b:ab}{c:Int}{s:bT}(h:dZ b c s)(f:af){fl d g st:Int}(j: -1<=fl/\fl<=b.1-1)(a:0<=d/\d<=3)(hr:0<=g/\g<=3)(hs:0<=st/\st<=1000000):
  dZ b c (fl,d,g,(tw (s.2.2.2.1,(aa b.2.2.2.2.2.2.2 c).1,f)).1,st,(tw (s.2.2.2.1,(aa b.2.2.2.2.2.2.2 c).1,f)).2):=by
 have k:=h.dl;have i:=ajd (limit:=(aa b.2.2.2.2.2.2.2 c).1) (c:=f) (auq h.len (by decide)) (λd a=>by have:=(h.Ff d a).2;omega);refine⟨h.bB,h.eU,j,a,hr,hs,i.late,λd a=> ?_,i.fg h.fg⟩;obtain⟨d0,h0,l,m,o,t⟩:=i.all d a;have q:=h.Ff d0 h0;grind
theorem vt{b:ab}{c:Int}{s:bT}(hl:b.2.2.2.2.2.2.2.length<=maxLen)(h:dZ b c s):fI (b,c,s)=true:=(xF hl (auq h.len (by decide))).2 h
theorem aie{b:ab}{c:Int}{s:bT}(hl:b.2.2.2.2.2.2.2.length<=maxLen)(h:dZ b c s):dZ b c (Az (b,c,s)).1:=by
 unfold Az;simp only[vt hl h];exact h.AE (0,0) h.fl h.dir h.Mv (by decide)
theorem ae6{b:ab}{c:Int}{s:bT}{o:ay}(hl:b.2.2.2.2.2.2.2.length<=maxLen)(h:dZ b c s)(g:mT (b.1,o)=true):dZ b c (Ao (b,c,s,o)).1:=by
 obtain⟨o1,a,f⟩:=Rw g;have hs:=h.still;have hw:i64.wrap (s.2.2.2.2.1+1)=s.2.2.2.2.1+1:=aA (by omega) (by omega);unfold Ao;simp only[vt hl h,g];cases(((decide (o.1>=0))&&(o.2.2==2))&&(o.2.1==0))with
 |true=>
  cases(decide (o.1>=0))with
  |true=>exact h.AE _ o1 a f (by omega)
  |false=>exact h.AE _ h.fl a f (by omega)
 |false=>
  cases(decide (o.1>=0))with
  |true=>exact h.AE _ o1 a f (by decide)
  |false=>exact h.AE _ h.fl a f (by decide)
theorem afi{b:ab}{c:Int}{s:bT}(hl:b.2.2.2.2.2.2.2.length<=maxLen)(h:dZ b c s):dZ b c (we (b,c,s)).1:=by
 unfold we;simp only[vt hl h];exact⟨h.bB,h.eU,h.fl,h.dir,h.Mv,⟨au4 0,(by decide:(0:Int)<=1000000)⟩,λh=>(by cases h),λd a=>(by cases a),List.Pairwise.nil⟩
theorem ais{l:List iD}{y:iD}(hl:l.length<=1000000)(hs:eM dk l)(f: ∀d∈l,d.2.1=1\/d.2.1=2)(h:y.2.1=1\/y.2.1=2): ∃a:Nat,mM dk l (ck y.1 y.2.1) a/\(lN (l,y,some 107)).1=(a:Int)/\((lN (l,y,some 107)).2=true↔a<l.length/\dk (aa l (a:Int))=ck y.1 y.2.1):=by
 have f: ∀q:Nat,q<l.length->(aa l (q:Int)).2.1=1\/(aa l (q:Int)).2.1=2:=λq g=>lp.1 f q g
 obtain⟨a,h1,h2,h3,h4⟩:=bsearch (st:=sv) (k:=(l,some 107,y)) (l:=l) (key:=dk) (t:=ck y.1 y.2.1) (less:=λe=>decide (FG 107 (e,y)<0)) hl hs (λi j=>rfl) (λq g=>by
  rw[adv];exact(nm (f q g) h).1) (Nat.succ (sq (l,some 107,y) ((0:Int),(l.length:Int)))) 0 l.length (by omega) (au2 _) (by simp_all [sq]) (λq g=>by omega) (λq g w=>by omega)
 have o:(Dt (l,some 107,y) ((0:Int),(l.length:Int))).1=(a:Int):=h2;refine⟨a,⟨h1,h3,h4⟩,o,?_⟩;unfold lN;simp only;rw[o,au0,adv,awt];constructor
 ·rintro⟨s,m⟩
  have u:a<l.length:=by omega
  exact⟨u,(nm (f a u) h).2.1 m⟩
 ·rintro⟨s,m⟩
  exact⟨by omega,(nm (f a s) h).2.2 m⟩
theorem aey{b:ab}(g:aK b)(p:af): ∀e∈my (dv (p,dB b)),cL b.1 e.1 e.2.1:=λe a=>by
 obtain⟨f,h,d,i,hm,rfl⟩:=rK.1 a;simp_all [ur,yg]
structure wW (b:ab) (c:Int) (l:List iD):Prop where
 all: ∀d∈l,cL b.1 d.1 d.2.1/\0<=d.2.2/\d.2.2<=(aa b.2.2.2.2.2.2.2 c).1
 fg:eM dk l
theorem wW.len{b:ab}{c:Int}{l:List iD}(a:aK b)(h:wW b c l):l.length<=64:=K6 h.fg λe f=>((h.all e f).1.key a.fl.2).2
theorem wW.ins{b:ab}{c:Int}{l:List iD}(j:aK b)(o:0<=(aa b.2.2.2.2.2.2.2 c).1)(h:wW b c l){f d:Int}(k:cL b.1 f d)
  (i:(!(lN (l,(f,d,0),some 107)).2)=true):wW b c (iz l (lN (l,(f,d,0),some 107)).1 [(f,d,0)]):=by
 obtain⟨a,h1,h2,h3⟩:=ais (y:=(f,d,0)) (auq (h.len j) (by decide)) h.fg (λd m=>(h.all d m).1.dir) k.dir;rw[h2];rw[avm,<- aw0,h3]at i;refine⟨λx g=> ?_,R8 h.fg h1 rfl i⟩;rcases uS.1 g with g|g
 ·simp_all
 ·exact h.all x g
theorem afk{b:ab}{c:Int}{s:bT}{p:af}(hl:b.2.2.2.2.2.2.2.length<=maxLen)(h:dZ b c s):dZ b c (mB (b,c,s,p)).1:=by
 have f:=h.bB;have C:=h.dl;have o:bc (aC gz (s.2.2.2.1.length:Int)) s.2.2.2.1=s.2.2.2.1:=by
  unfold bc;rw[eu,axy,azb (by rw[eu];exact au2 _),aws]
 unfold mB Uz UY;simp only[vt hl h,avw,aur,o];have t:=aey f p;have u:(my (dv (p,dB b))).length<=maxLen:=auq (Qs _) (by decide);generalize my (dv (p,dB b))=cl at*;have w:=fO (step:=uX) (k:=(cl,(cl.length:Int))) (n:=cl.length) (λi y=> ∃l,y=((i:Int),s.1,s.2.1,s.2.2.1,l,s.2.2.2.2)/\wW b c l)
  (λi y hi g=>by
   obtain⟨l,rfl,a⟩:=g;have j:(i:Int)<(cl.length:Int):=by omega
   have x:=cA (auz i) j u;have z:=t _ (im (auz i) j);unfold uX;simp only[j,avn,auw,x];cases hn:(!(lN (l,((aa cl (i:Int)).1,(aa cl (i:Int)).2.1,(0:Int)),some 107)).2)with
   |true=>exact⟨_,rfl,_,rfl,a.ins f (by omega) z hn⟩
   |false=>exact⟨_,rfl,_,rfl,a⟩)
  (λy g=>by
   obtain⟨l,rfl,a⟩:=g;unfold uX;simp only[ay4,av4,aur]) (Nat.succ (C3 (cl,(cl.length:Int)) ((0:Int),s.1,s.2.1,s.2.2.1,s.2.2.2.1,s.2.2.2.2))) ((0:Int),s.1,s.2.1,s.2.2.1,s.2.2.2.1,s.2.2.2.2) (by unfold C3;simp) ⟨_,rfl,h.Ff,h.fg⟩
 obtain⟨l,A,a⟩:=w.1;rw[A];refine⟨f,h.eU,h.fl,h.dir,h.Mv,h.still,λm=> ?_,a.all,a.fg⟩;have m:(s.2.2.2.2.2&&((l.length:Int)==(0:Int)))=true:=m;rw[au0,awt]at m;have h0:l.length=0:=by omega
 exact avt h0
abbrev jJ:=eQ
theorem i36{i:Int}(h0:0<=i)(h:i<36):i=0\/i=1\/i=2\/i=3\/i=4\/i=5\/i=6\/i=7\/i=8\/i=9\/i=10\/i=11\/i=12\/i=13\/i=14\/i=15\/i=16\/i=17\/i=18\/i=19\/i=20\/i=21\/i=22\/i=23\/i=24\/i=25\/i=26\/i=27\/i=28\/i=29\/i=30\/i=31\/i=32\/i=33\/i=34\/i=35:=by omega
theorem bb{c:Bool}{a w t:Int}:(bif c then a else(bif c then w else t))=(bif c then a else t):=by grind
theorem aqe(t:wQ)(i w v:Int):up (up t i w) i v=up t i v:=by
 simp_all [up,bb]
theorem ZR(t:wQ)(i v:Int){j:Int}(h0:0<=j)(h:j<36):aa (tl (up t i v)) j=bif i==j then v else aa (tl t) j:=by
 rcases i36 h0 h with rfl|rfl|rfl|rfl|rfl|rfl|rfl|rfl|rfl|rfl|rfl|rfl|rfl|rfl|rfl|rfl|rfl|rfl|rfl|rfl|rfl|rfl|rfl|rfl|rfl|rfl|rfl|rfl|rfl|rfl|rfl|rfl|rfl|rfl|rfl|rfl<;>rfl
theorem ajY(t:wQ)(v:Int){i:Int}(h0:0<=i)(h:i<36):aa (tl (up t i v)) i=v:=by
 simp_all [ZR]
theorem get_eq(c:jJ){i:Int}(h0:0<=i)(h:i<36):tK (c,i)=gT (c,i):=by
 rcases i36 h0 h with rfl|rfl|rfl|rfl|rfl|rfl|rfl|rfl|rfl|rfl|rfl|rfl|rfl|rfl|rfl|rfl|rfl|rfl|rfl|rfl|rfl|rfl|rfl|rfl|rfl|rfl|rfl|rfl|rfl|rfl|rfl|rfl|rfl|rfl|rfl|rfl<;>rfl
theorem aj0(x m:Int):FH (KA x m) m=FH x m:=W.ext (qD _ _) (qD _ _) λi hi=>by
 rw[<- nB (qD _ _) hi,<- nB (qD _ _) hi,EG,EG,JI _ _ hi];grind
theorem amp(c:jJ)(a:Bool){i:Int}(h0:0<=i)(h:i<36):Gq (c,i,a)=pA (c,i,a):=by
 by_cases f:i<32
 ·have g:(i==32)=false:=by grind
  have j:(i==33)=false:=by rw[awu];omega
  have k:(i==34)=false:=by rw[awu];omega
  have l:(i==35)=false:=by rw[awu];omega
  have m:=axr h0;have o:=axr f;have hw:u64.wrap i=i:=by rw[avu];omega
  unfold Gq pA;simp only[g,j,k,l,m,o,hw,axs];cases a with
  |true=>
   exact awf (aj0 c.1 _).symm rfl
  |false=>
   simp only[aur]
 ·have s:i=32\/i=33\/i=34\/i=35:=by omega
  rcases s with rfl|rfl|rfl|rfl<;>rfl
def qx(n:Int)(c:jJ)(i:Int)(d:bE):bE:=
 bif gT (c,i)==gT (d.1,i)then(d.1,up d.2 i 0)
 else bif i64.wrap (aa (tl d.2) i+1)==n then(pA (d.1,i,gT (c,i)),up d.2 i 0)
 else(d.1,up d.2 i (i64.wrap (aa (tl d.2) i+1)))
def debI(n:Int)(c:jJ)(s:bE):Nat->bE
 |0=>s|i+1=>qx n c i (debI n c s i)
theorem Uy(k:Int×jJ)(x:Int×bE):rU k x=bif decide (x.1<36)then(bif gT (k.2,x.1)==gT (x.2.1,x.1)then .next k (i64.wrap (x.1+1),x.2.1,up x.2.2 x.1 0)
 else bif aa (tl (up x.2.2 x.1 (i64.wrap (aa (tl x.2.2) x.1+1)))) x.1==k.1 then .next k (i64.wrap (x.1+1),pA (x.2.1,x.1,gT (k.2,x.1)),up (up x.2.2 x.1 (i64.wrap (aa (tl x.2.2) x.1+1))) x.1 0)
 else .next k (i64.wrap (x.1+1),x.2.1,up x.2.2 x.1 (i64.wrap (aa (tl x.2.2) x.1+1))))else .brk k x:=rfl
theorem UW(k:Int×jJ)(x:Int×bE):KE k x=bif decide (x.1<36)then(bif tK (k.2,x.1)==tK (x.2.1,x.1)then .next k (i64.wrap (x.1+1),x.2.1,up x.2.2 x.1 0)
 else bif i64.wrap (aa (tl x.2.2) x.1+1)==k.1 then .next k (i64.wrap (x.1+1),Gq (x.2.1,x.1,tK (k.2,x.1)),up x.2.2 x.1 0)
 else .next k (i64.wrap (x.1+1),x.2.1,up x.2.2 x.1 (i64.wrap (aa (tl x.2.2) x.1+1))))else .brk k x:=rfl
theorem anp(n:Int)(c:jJ)(s:bE):wF (n,s,c)=debI n c s 36:=by
 unfold wF Vj;have g:=fO (step:=rU) (k:=(n,c)) (n:=36) (λi y=>y=((i:Int),debI n c s i))
  (λi y hi a=>by
   subst a;have f:(i:Int)<36:=by omega
   have h0:0<=(i:Int):=auz i;have h:i64.wrap ((i:Int)+1)=((i+1:Nat):Int):=aA (by omega) (by omega);rw[Uy,axr f,auw,ajY _ _ h0 f,aqe,h];show∃j,(bif _ then _ else _)=_/\_=(_,qx n c (i:Int) (debI n c s i))
   unfold qx;cases(gT (c,(i:Int))==gT ((debI n c s i).1,(i:Int)))with
   |true=>exact⟨_,rfl,rfl⟩
   |false=>
    rw[aur,aur];cases(i64.wrap (aa (tl (debI n c s i).2) (i:Int)+1)==n)with
    |true=>exact⟨_,rfl,rfl⟩
    |false=>exact⟨_,rfl,rfl⟩)
  (λy a=>by
   subst a;rw[Uy];rfl) (Nat.succ (uJ (n,c) ((0:Int),s))) ((0:Int),s) (by unfold uJ;simp) rfl
 exact av2 Prod.snd g.1
theorem ans(n:Int)(c:jJ)(s:bE):(KX (n,c) ((0:Int),s)).2=debI n c s 36:=by
 unfold KX;have g:=fO (step:=KE) (k:=(n,c)) (n:=36) (λi y=>y=((i:Int),debI n c s i))
  (λi y hi f=>by
   subst f;have a:(i:Int)<36:=by omega
   have h0:0<=(i:Int):=auz i;have h:i64.wrap ((i:Int)+1)=((i+1:Nat):Int):=aA (by omega) (by omega);rw[UW,axr a,auw,get_eq c h0 a,get_eq (debI n c s i).1 h0 a,amp _ _ h0 a,h];show∃j,(bif _ then _ else _)=_/\_=(_,qx n c (i:Int) (debI n c s i))
   unfold qx;cases(gT (c,(i:Int))==gT ((debI n c s i).1,(i:Int)))with
   |true=>exact⟨_,rfl,rfl⟩
   |false=>
    rw[aur,aur];cases(i64.wrap (aa (tl (debI n c s i).2) (i:Int)+1)==n)with
    |true=>exact⟨_,rfl,rfl⟩
    |false=>exact⟨_,rfl,rfl⟩)
  (λy f=>by
   subst f;rw[UW];rfl) (Nat.succ (KF (n,c) ((0:Int),s))) ((0:Int),s) (by unfold KF;simp) rfl
 exact av2 Prod.snd g.1
structure gD (n:Int) (d:bE):Prop where
 kr:1<=n/\n<=16
 all: ∀j:Nat,j<36->0<=aa (tl d.2) (j:Int)/\aa (tl d.2) (j:Int)<n
theorem yV(n:Int)(d:bE):mb (n,d)=true↔gD n d:=by
 unfold mb ZU;simp only;cases hn:((decide (n<(1:Int)))||(decide (n>(16:Int))))with
 |true=>
  rw[av9,adv,adv]at hn;rw[auw];exact⟨λh=>(by cases h),λh=>by have:=h.kr;omega⟩
 |false=>
  rw[auv,aut,aut]at hn;rw[aur,scan (N:=36) (r:=false) (br:=λi:Nat=> !((decide (aa (tl d.2) (i:Int)<0))||(decide (aa (tl d.2) (i:Int)>=n)))) (by decide) (λi hi=>by
   grind [DP,decide,aa,tl]) (by rfl) (by simp_all [DW])]
  by_cases h: ∀i:Nat,i<36->(!((decide (aa (tl d.2) (i:Int)<0))||(decide (aa (tl d.2) (i:Int)>=n))))=true
  ·rw[ava h]
   refine⟨λ_=>⟨by omega,λj a=> ?_⟩,λ_=>rfl⟩;have:=h j a;rw[avm,auv,aut,aut]at this;omega
  ·rw[au6 h]
   refine⟨λh2=>(by cases h2),λh2=>absurd (λi hi=> ?_) h⟩;have:=h2.all i hi;rw[avm,auv,aut,aut];omega
theorem ag1(n:Int)(d:bE):Nw (n,d)=true↔gD n d:=by
 unfold Nw Yh;simp only;cases hn:((decide (n<(1:Int)))||(decide (n>(16:Int))))with
 |true=>
  rw[av9,adv,adv]at hn;rw[auw];exact⟨λh=>(by cases h),λh=>by have:=h.kr;omega⟩
 |false=>
  rw[auv,aut,aut]at hn;rw[aur,scan (N:=36) (r:=false) (br:=λi:Nat=> !((decide (aa (tl d.2) (i:Int)<0))||(decide (aa (tl d.2) (i:Int)>=n)))) (by decide) (λi hi=>by
   grind [Uu,decide,aa,tl]) (by rfl) (by simp_all [Us])]
  by_cases h: ∀i:Nat,i<36->(!((decide (aa (tl d.2) (i:Int)<0))||(decide (aa (tl d.2) (i:Int)>=n))))=true
  ·rw[ava h]
   refine⟨λ_=>⟨by omega,λj a=> ?_⟩,λ_=>rfl⟩;have:=h j a;rw[avm,auv,aut,aut]at this;omega
  ·rw[au6 h]
   refine⟨λh2=>(by cases h2),λh2=>absurd (λi hi=> ?_) h⟩;have:=h2.all i hi;rw[avm,auv,aut,aut];omega
theorem KT{n:Int}{d:bE}{e:jJ}{i v:Int}(h:gD n d)(a:0<=v/\v<n):gD n (e,up d.2 i v):=by
 refine⟨h.kr,λj f=> ?_⟩;rw[ZR _ _ _ (auz j) (by omega)];cases(i==j)with
 |true=>exact a
 |false=>exact h.all j f
theorem Rh{n:Int}{c:jJ}{s:bE}(h:gD n s): ∀i:Nat,i<=36->gD n (debI n c s i)
 |0,_=>h
 |i+1,hi=>by
  have a:=Rh (c:=c) h i (by omega);have f:=a.all i (by omega);have g:=h.kr;have hw:i64.wrap (aa (tl (debI n c s i).2) (i:Int)+1)=aa (tl (debI n c s i).2) (i:Int)+1:=aA (by omega) (by omega);show gD n (qx n c (i:Int) (debI n c s i));unfold qx;rw[hw];cases(gT (c,(i:Int))==gT ((debI n c s i).1,(i:Int)))with
  |true=>exact KT a (by omega)
  |false=>
   rw[aur];cases hq:(aa (tl (debI n c s i).2) (i:Int)+1==n)with
   |true=>exact KT a (by omega)
   |false=>rw[awu]at hq;exact KT a (by omega)
theorem IA{n:Int}{c:jJ}{s:bE}(h:gD n s):kM (n,s,c)=(debI n c s 36,0):=by
 grind [kM,yV,anp]
theorem ahm{n:Int}{c:jJ}{s:bE}(h:gD n s):Gi (n,s,c)=(debI n c s 36,0):=by
 grind [Gi,ag1,ans]
theorem ahe{n:Int}{c:jJ}{s:bE}(h:gD n s):gD n (kM (n,s,c)).1:=by
 simp_all [IA,Rh]
theorem amn(x:Int):0<=u8.wrap x/\u8.wrap x<=255:=by grind [IntKind.wrap_u8]
theorem IJ(x:Int):0<=qW x/\qW x<=255:=by
 unfold qW;generalize a:u8.wrap _=y;have h:=a▸amn _;grind [aA]
theorem akx(x:Int):0<=Ay x/\Ay x<=300:=by
 have key: ∀(s:ByteArray) (i c:Int),0<=c->c<=24->0<=i64.wrap (c+i64.wrap (aO s i))/\i64.wrap (c+i64.wrap (aO s i))<=300:=λs i c h1 h2=>by
  have h:=ou s i;grind [aA]
 have a:i64.wrap (16+8)=24:=aA (by omega) (by omega);have f:i64.wrap (0+8)=8:=aA (by omega) (by omega);unfold Ay;simp only[cond];repeat' split
 all_goals first|(simp only;simp_all)|exact key _ _ _ (by omega) (by omega)
theorem alp(i:Int):i64.wrap (aa jK i)<=31:=by
 have a: ∀y∈jK,0<=y/\y<=31:=by decide
 have h:0<=aa jK i/\aa jK i<=31:=by
  unfold aa;by_cases hi:i.toNat<jK.length;all_goals simp_all
 rw[aA (by omega) (by omega)];exact h.2
theorem aqN(x:Int):ra x<=300:=by
 unfold ra;simp only[cond];split
 ·decide
 ·exact aw1 (alp _) (by decide)
theorem JG(l:List Int)(a f:Int)(hl:l.length<=2)(h: ∀y∈l,-1<=y/\y<=300)(m: -1<=a/\a<=300)(w: -1<=f/\f<=300):0<=(mF (l,a,f)).1/\(mF (l,a,f)).1<=1000:=by
 unfold mF Vu;simp only;generalize x:l++ [f]=L;have z:L.length<=3:=by grind
 have o: ∀y∈L,-1<=y/\y<=300:=λy g=>by
  grind
 have A:=fO (step:=uG) (k:=(L,(L.length:Int))) (n:=L.length) (λi y=>y.2.2=(i:Int)/\(0<=y.1/\y.1<=301*(i:Int))/\ -1<=y.2.1/\y.2.1<=300)
  (λi y hi g=>by
   obtain⟨C,I,J⟩:=y;obtain⟨h3,⟨h1,s⟩,h2,t⟩:=g;simp only at h1 s h2 t h3;subst h3;have j:(i:Int)<(L.length:Int):=by omega
   have u:=cA (auz i) j (by grind [maxLen]);have hm:=o _ (im (auz i) j);unfold uG;simp only[j,avn,auw,u];grind [aa,Max.max,aA])
  (λy g=>by
   simp_all [uG]) (Nat.succ (yK (L,(L.length:Int)) ((0:Int),a,(0:Int)))) ((0:Int),a,(0:Int)) (by unfold yK;simp) ⟨rfl,⟨au4 _,by simp⟩,m⟩
 omega
theorem Q7{n a d:Int}{s:ay}{f e:Int}(w:n<=32):tj (n,a,d,s,f,e)<=1000:=by
 have j: ∀x,-1<=zx x/\zx x<=300:=λx=>by
  unfold zx;have h1:=aai;have h2:=aqN
  exact⟨aw1 (by decide) (h1 _),h2 _⟩
 have k: ∀x,-1<=i64.wrap (sE x-1)/\i64.wrap (sE x-1)<=300:=λx=>by
  have h:0<=sE x/\sE x<=300:=by unfold sE;exact akx _
  rw[aA (by omega) (by omega)];omega
 unfold tj;cases hc:((((((!(nP (n,a,d,s,f,e).1))||(decide ((n,a,d,s,f,e).2.1<(0:Int))))||(decide ((n,a,d,s,f,e).2.1>=(n,a,d,s,f,e).1)))||(decide ((n,a,d,s,f,e).2.2.1<(0:Int))))||(decide ((n,a,d,s,f,e).2.2.1>(2:Int))))||(!(wN ((n,a,d,s,f,e).1,(n,a,d,s,f,e).2.2.2.2))))with
 |true=>rw[auw];decide
 |false=>
  rw[aur];simp only[auv,ave,aut]at hc;obtain⟨⟨⟨⟨⟨h1,h2⟩,h3⟩,h4⟩,h5⟩,h6⟩:=hc;have h1:(decide (n>=2)&&decide (n<=32))=true:=h1;simp only[au0,adv]at h1;have l: -1<=a/\a<=300:=by
   have h2: ¬ a<0:=h2;have h3: ¬ a>=n:=h3;omega
  have m: -1<=f/\f<=300:=by
   unfold wN at h6;simp only[av9,au0,adv]at h6;rw[aA (x:=n-1) (by omega) (by omega)]at h6;omega
  have w0:=(JG [] a f (by simp) (λy g=>by cases g) l m).2;have o: ∀y,(-1<=y/\y<=300)->(mF ([y],a,f)).1<=1000:=λy g=>(JG [y] a f (by simp) (λz i=>by rw[av8]at i;subst i;exact g) l m).2
  have t: ∀y z,(-1<=y/\y<=300)->(-1<=z/\z<=300)->(mF ([y,z],a,f)).1<=1000:=λy z g i=>(JG [y,z] a f (by simp) (λu hu=>by
   rcases List.mem_cons.1 hu with rfl|hu
   ·exact g
   ·rw[av8]at hu;subst hu;exact i) l m).2
  simp only[cond];repeat' split
  ·exact w0
  ·exact o _ (k _)
  ·exact o _ (j _)
  ·exact t _ _ (k _) (j _)
  ·exact t _ _ (j _) (k _)
theorem ags(x:kd):0<=wJ x/\wJ x<=1000:=by
 unfold wJ;cases nP x.1 with
 |false=>simp_all
 |true=>
  have h1:=IJ (kh x).1;have h2:0<=AB (kh x).2/\AB (kh x).2<=510:=by
   unfold AB;have h1:=IJ (kh x).2.1;have h2:=IJ (kh x).2.2;grind [aA]
  grind [aA]
theorem Tl{fl:Int}{c:gE}(h:ez fl c=true):(0<=c.2.2.2.1/\c.2.2.2.1<=10000)/\(0<=c.2.2.2.2.1/\c.2.2.2.2.1<=10000)/\(0<=c.2.2.2.2.2.1/\c.2.2.2.2.2.1<=10000)/\0<=c.2.2.2.2.2.2.1/\c.2.2.2.2.2.2.1<=10000:=by
 grind [ez,fW]
theorem aiN{p st ct tr a:Int}(f:0<=p/\p<=1000)(h1:0<=st/\st<=10000)(h2:0<=ct/\ct<=1000)(h3:0<=tr/\tr<=10000)(h4:0<=a/\a<=10000):
  0<=min (i64.wrap (i64.wrap (p*st)+i64.wrap (ct*i64.wrap (i64.wrap (2*tr)+a)))) 1000000:=by
 have g:=aA6 f.1 h1.1;have h:=Int.mul_le_mul f.2 h1.2 h1.1 (by decide);have i:0<=ct*(2*tr+a):=aA6 h2.1 (by omega);have j:ct*(2*tr+a)<=1000*30000:=Int.mul_le_mul h2.2 (by omega) (by omega) (by decide);grind [aA]
theorem ajx{b:ab}(g:aK b)(hl:b.2.2.2.2.2.2.2.length<=maxLen){c:Int}{v:aZ}{f d:Int}:0<=wi (b,c,v,f,d)/\wi (b,c,v,f,d)<=1000000:=by
 have h:=g.fl.2;have key: ∀p,p<=1000->(decide (p<0)=false)-> ∀cs:kd,0<=c->c<(b.2.2.2.2.2.2.2.length:Int)->
   0<=min (i64.wrap (i64.wrap (p*(aa b.2.2.2.2.2.2.2 c).2.2.2.2.1)+i64.wrap (wJ cs*i64.wrap (i64.wrap (2*(aa b.2.2.2.2.2.2.2 c).2.2.2.2.2.1)+(aa b.2.2.2.2.2.2.2 c).2.2.2.2.2.2.1)))) (1000000:Int):=λp i h0 cs j c1=>by
  rw[aut]at h0;have ht:=Tl (g.eU _ (im j c1));exact aiN ⟨by omega,i⟩ ht.2.1 (ags cs) ht.2.2.1 ht.2.2.2
 unfold wi;simp only;cases hc:(((ca b !=(0:Int))||decide (c<(0:Int)))||decide (c>=(b.2.2.2.2.2.2.2.length:Int)))with
 |true=>rw[auw];decide
 |false=>
  rw[aur];simp only[auv,aut]at hc;simp only[cond];repeat' split
  ·decide
  ·rename_i a;exact⟨key _ (Q7 h) a _ (by omega) (by omega),Int.min_le_right _ _⟩
  ·decide
  ·rename_i a;exact⟨key _ (Q7 h) a _ (by omega) (by omega),Int.min_le_right _ _⟩
theorem yD{α:Type}{p:α->Prop}{l:List α}{i:Nat}{v:α}(h: ∀a∈l,p a)(f:p v): ∀a∈l.set i v,p a:=λa g=>by
 grind
theorem afP{e t:Int}(a:0<=e/\e<=1000000)(ht:0<=t/\t<=10000):0<=min (i64.wrap (e+t)) 1000000/\min (i64.wrap (e+t)) 1000000<=1000000:=by
 grind [aA]
theorem agU{b:ab}{m:ak}{x:List Int}{v:List aZ}(hm:aT b m)(j:x.length=m.2.2.2.length)(hr: ∀y∈x,0<=y/\y<=1000000)(l:v.length=b.2.2.2.2.2.2.2.length):
  (gQ (b,m,x,v)).1.2.1.length=m.2.2.2.length/\ ∀y∈(gQ (b,m,x,v)).1.2.1,0<=y/\y<=1000000:=by
 have w:b.2.2.2.2.2.2.2.length<=8:=hm.bB.cn.2;have hl:b.2.2.2.2.2.2.2.length<=maxLen:=auq w (by decide);have A:x.length<=maxLen:=by rw[j];exact hm.fit.2.2
 have o:((((!(cJ ((b,m,x,v).1,(b,m,x,v).2.1)))||(((b,m,x,v).2.2.1.length:Int) !=((b,m,x,v).2.1.2.2.2.length:Int)))||(((b,m,x,v).2.2.2.length:Int) !=((b,m,x,v).1.2.2.2.2.2.2.2.length:Int)))||(mJ ((b,m,x,v).2.2.1,(some 261))))=false:=by
  have h4:mJ (x,(some 261))=false:=by
   rw[<- aw0,Ig A];rintro⟨y,g,i⟩
   have i:FA y=true:=i;have:=hr y g;unfold FA at i;rw[av9,adv,adv]at i;omega
  show(((!(cJ (b,m)))||((x.length:Int) !=(m.2.2.2.length:Int)))||((v.length:Int) !=(b.2.2.2.2.2.2.2.length:Int))||(mJ (x,(some 261))))=false;rw[hm.is,j,l,h4];simp
 have C:=I6 hm.fit.1 hm.fit.2.1 hm.fit.2.2 o;unfold gQ;rw[o,aur];have s:=iq (step:=nv) (k:=(x,v,m.2.2.2,(m.2.2.2.length:Int),b,b,v)) (I:=λy=>og (x,v,m.2.2.2,(m.2.2.2.length:Int),b,b,v) y/\ ∀u∈y.2.1,0<=u/\u<=1000000) (λy k' z g a=>by
   obtain⟨h1,h3⟩:=g;unfold nv at a;revert a
   by_cases h:y.2.2<(m.2.2.2.length:Int)
   ·have e:=cA h1.i0 h hm.fit.2.2
    have t:0<=y.2.2/\y.2.2<(x.length:Int):=⟨h1.i0,by rw[j];exact h⟩;have P:=hr _ (im t.1 t.2);have h5:0<=max (i64.wrap (aa x y.2.2-1)) 0/\max (i64.wrap (aa x y.2.2-1)) 0<=1000000:=by
     rw[aA (by omega) (by omega)];omega
    simp only[h,avn,auw,e];cases hb:(((gC ((b,v),aa m.2.2.2 y.2.2,aa x y.2.2)).2.2.1 !=(aa m.2.2.2 y.2.2).2.2.1)&&(decide ((gC ((b,v),aa m.2.2.2 y.2.2,aa x y.2.2)).2.2.1>=(0:Int))))with
    |true=>
     simp only[auw];intro a;cases a;have J:=ND hb;have L:=h1.eU h (q:=aa x y.2.2);have M:(gC ((b,v),aa m.2.2.2 y.2.2,aa x y.2.2)).2.2.1<(b.2.2.2.2.2.2.2.length:Int):=by
      have:=L.2;rw[<- l];exact this
     have ht:=Tl (hm.bB.eU _ (im J M));refine⟨⟨cE h1.i0,h1.n,h1.qU,h1.e,(auu ..).trans ((auu ..).trans h1.x1),h1.v,h1.p,h1.cl,wA h1.r (sV _),h1.vm⟩,?_⟩;have N:=ajx hm.bB hl (c:=(gC ((b,v),aa m.2.2.2 y.2.2,aa x y.2.2)).2.2.1) (v:=aa v (gC ((b,v),aa m.2.2.2 y.2.2,aa x y.2.2)).2.2.1) (f:=(aa m.2.2.2 y.2.2).1) (d:=(aa m.2.2.2 y.2.2).2.1);refine yD (yD h3 h5) ?_;exact afP N ht.1
    |false=>
     simp only[aur];intro a;cases a;exact⟨⟨cE h1.i0,h1.n,h1.qU,h1.e,(auu ..).trans h1.x1,h1.v,h1.p,h1.cl,wA h1.r (sV _),h1.vm⟩,yD h3 h5⟩
   ·simp only[h,av4,aur]
    intro a;cases a) (λy k' z g a=>by
   unfold nv at a;revert a
   simp only[cond];repeat' split
   all_goals(intro a;first|(cases a;done)|(cases a;exact g))) (Nat.succ (yB (x,v,m.2.2.2,(m.2.2.2.length:Int),b,b,v) ([],aC ae (x.length:Int),0))) ([],aC ae (x.length:Int),0) ⟨C.2,λu O=>by rw[aw3 O];exact⟨au4 0,(by decide:(0:Int)<=1000000)⟩⟩
 exact⟨s.1.x1,s.2⟩
theorem ahF(b:ab)(l:Int)(f:Nat)(h:0<=l/\l<=4):0<=sY (b,l,f)/\sY (b,l,f)<=4:=by
 have a: ∀y,0<=wC y/\wC y<=4:=λy=>by
  unfold wC;grind
 unfold sY;grind
theorem Ic{n:Int}(h:0<=n/\n<=1000000):0<=hV n/\hV n<=1000000:=by
 grind [hV,aA]
theorem GN{b:ab}: ∀(l1:List aI) (m:ak) (l2:List aI),RegRs b m (l1++l2)↔RegRs b m l1/\RegRs b (l1.foldl aW m) l2
 | [],m,l2=>by simp[RegRs]
 |r::l1,m,l2=>by
  rw[awz,awb];show bW b r/\wk b m r/\RegRs b (aW m r) (l1++l2)↔(bW b r/\wk b m r/\RegRs b (aW m r) l1)/\_;rw[GN l1 (aW m r) l2,aBw,aBw]
theorem B7{b:ab}: ∀{l:List aI} {m:ak},(∀r∈l,bW b r/\r.1≠1)->RegRs b m l
 | [],m,_=>trivial
 |r::l,m,h=>⟨(h r (by simp)).1,λh1=>absurd h1 (h r (by simp)).2,B7 λr hr=>h r (by simp_all)⟩
structure iI (x:aq) (n:Int):Prop where
 pow:Pow x.1 x.2.1.2.1 x.2.1.1
 ok:x.2.2.2.2.2.1=0
 lo:n<=x.2.2.2.2.1
 hi:x.2.2.2.2.1<=1048576
 rm:0<=x.1.2.2.1
 jr:ma x.1 x.2.1.2.1 x.2.1.1
theorem H0{l:List aI}{t:aq}{n:Int}(h:iI t ((t.1.2.2.1+2)*l.length+n))(g:0<=n)(a:RegRs t.1 t.2.1.1 l)(hl:l.length<=maxLen):iI (dH (l,t)).2 n/\(dH (l,t)).2.1=t.1:=by
 obtain⟨aX,i,hw,h1,h2,h3⟩:=ae2 h.pow h.ok a hl (aw1 (by omega) h.lo) h.hi;have f:=aft h.pow h.jr h.ok a hl (aw1 (by omega) h.lo) h.hi;rw[hw]at f⊢;exact⟨⟨h3,rfl,by have:=h.lo;grind,aw1 h2 h.hi,h.rm,f⟩,rfl⟩
theorem iI.less{x:aq}{n m:Int}(h:iI x n)(hm:m<=n):iI x m:=⟨h.pow,h.ok,aw1 hm h.lo,h.hi,h.rm,h.jr⟩
theorem GP{r:Int}(h:0<=r){a k:Nat}(f:a<=k):(r+2)*a<=(r+2)*k:=ay7 (by omega) (by omega)
theorem aky{x:aq}{n:Int}(h:cF x)(i:0<=n)(a:iI x ((x.1.2.2.1+2)*(8:Nat)+n)):iI (fF x).2 n:=by
 obtain⟨fl,aB,ea,k,l,f⟩:=PI h;unfold fF;rw[l];have g:fl.length<=8:=auq f.fn h.n8;have hm:=GP a.rm g;have m:iI (oV x aB ea k) ((x.1.2.2.1+2)*(fl.length:Int)+n):=⟨a.pow,a.ok,aw1 (by omega) a.lo,a.hi,a.rm,a.jr⟩;refine(H0 m i (B7 λr hr=> ?_) (auq g (by decide))).1;obtain⟨j,o,rfl⟩:=f.tH r hr;exact⟨.inr (.inr (.inr (.inr ⟨.inl rfl,rfl,rfl,auz j,by show(j:Int)<=(x.1.2.2.2.2.2.2.2.length:Int)-1;omega,(by decide:(0:Int)<=1),(by decide:(1:Int)<=1)⟩))),(by decide:(5:Int)≠1)⟩
theorem amB{x:aq}{n:Int}(h:ei x)(k:0<=n)(a:iI x ((x.1.2.2.1+2)*(1:Nat)+n)):iI (ie x).2 n:=by
 have z:0<=(x.1.2.2.1+2)*((1:Nat):Int):=aA6 (by have:=a.rm;omega) (by omega);unfold ie;cases hg:x.2.2.2.1 with
 |false=>exact a.less (by omega)
 |true=>
  have o:=h.cmd hg;have s:=h.iY hg;have i:=Hd (b:=x.1) (m:=x.2.1.1) (c:=x.2.2.1.2.1) (l:=(iA x).1) o;have f:iI (fA x).2 n:=by
   unfold fA;generalize(iB (x.1,x.2.1.1,x.2.2.1.2.1,(iA x).1)).2=st;generalize(iB (x.1,x.2.1.1,x.2.2.1.2.1,(iA x).1)).1=g at i;have j:g.length<=1:=by rcases i with rfl|rfl<;>simp
   have hm:=GP a.rm j;have u:(x.1.2.2.1+2)*(g.length:Int)+n<=x.2.2.2.2.1:=by have:=a.lo;omega
   refine(H0 (t:=(x.1,x.2.1,x.2.2.1,x.2.2.2.1,x.2.2.2.2.1,x.2.2.2.2.2.1,x.2.2.2.2.2.2.1,x.2.2.2.2.2.2.2.1,x.2.2.2.2.2.2.2.2.1,x.2.2.2.2.2.2.2.2.2.1,x.2.2.2.2.2.2.2.2.2.2.1,x.2.2.2.2.2.2.2.2.2.2.2.1,x.2.2.2.2.2.2.2.2.2.2.2.2.1,st,x.2.2.2.2.2.2.2.2.2.2.2.2.2.2)) (l:=g) ⟨a.pow,a.ok,u,a.hi,a.rm,a.jr⟩ k (B7 λr hr=> ?_) (auq j (by decide))).1;rcases i with rfl|rfl
   ·cases hr
   ·rw[av8]at hr
    subst hr;exact⟨.inr (.inr (.inr (.inr ⟨.inl rfl,rfl,rfl,s.1,by show x.2.2.1.2.1.2<=(x.1.2.2.2.2.2.2.2.length:Int)-1;omega,au4 _,(by decide:(0:Int)<=1)⟩))),(by decide:(5:Int)≠1)⟩
  obtain⟨g,A,aX,C,st,aB,aL,I,J,L,M,N,O,w,P,y⟩:=OZ h.tocF hg f.ok;rw[y]at f;rw[auw];show iI (ib x).2 n;rw[w];exact⟨f.pow,f.ok,f.lo,f.hi,f.rm,f.jr⟩
theorem ago{b:ab}{m:ak}{e:az}(h:fP (b,m)=true):wk b m (1,e.1,e.2.1,0,0):=λ_=> .inr h
theorem akV{b:ab}{i:ak}(m:bY)(e:az)(hm:m.2=b)(a:cL b.1 e.1 e.2.1)(hi:m.1.2.1=m.1.1.foldl aW i)(h:RegRs b i m.1.1):RegRs b i (dm m e).1.1:=by
 unfold dm;cases hr:fP (m.2,m.1.2.1)with
 |false=>simp_all
 |true=>
  show RegRs b i (m.1.1++ [(1,e.1,e.2.1,0,0)]);rw[GN];refine⟨h,S2 a,?_,trivial⟩;simp_all [ago]
theorem P1{b:ab}{i:ak}: ∀(l:List az) (m:bY),m.2=b->(∀e∈l,cL b.1 e.1 e.2.1)->m.1.2.1=m.1.1.foldl aW i->RegRs b i m.1.1->RegRs b i (l.foldl dm m).1.1
 | [],m,_,_,_,h=>h
 |e::l,m,hm,a,hi,h=>by
  refine P1 l (dm m e) ?_ (λx f=>a x (by simp_all)) (Ql m e hi) (akV m e hm (a e (by simp)) hi h);unfold dm;cases fP (m.2,m.1.2.1)<;>exact hm
theorem Qe{b:ab}{i:ak}(l:List aI)(x:bY)(hi:x.1.2.1=x.1.1.foldl aW i)(h:RegRs b i x.1.1)(hl: ∀r∈l,bW b r/\r.1≠1):RegRs b i (l.foldl cj x).1.1:=by
 grind [lj,GN,B7]
theorem aif{b:ab}{m:ak}{e:List Int}{v:List aZ}{l:List bd}(press:bd)(br:Bool)(hm:aT b m)(g:km (m,e)=true)(f:v.length=b.2.2.2.2.2.2.2.length):RegRs b m (ix b m e v l press br).1.1:=by
 obtain⟨h1,h2,_⟩:=Ie (l:=l) press br hm g f;have h0:RegRs b m (cg b m e v l press br).1.1/\(cg b m e v l press br).1.2.1=(cg b m e v l press br).1.1.foldl aW m:=by
  unfold cg;cases br with
  |false=>exact⟨trivial,rfl⟩
  |true=>
   rw[auw];have hs:=ui (v:=v) hm f;have i: ∀r∈cC (b,m,v),bW b r/\r.1≠1:=λr hr=>by
    refine⟨hs.1 r hr,?_⟩;rw[yj hm f]at hr;obtain⟨u,_,rfl⟩:=List.mem_map.1 hr;exact(by decide:(2:Int)≠1)
   have hi:((cC (b,m,v)).foldl cj (([],m,e,(dI (b,v,l)).1,0,0),b)).1.2.1=((cC (b,m,v)).foldl cj (([],m,e,(dI (b,v,l)).1,0,0),b)).1.1.foldl aW m:=Hh _ _ rfl;have hb:((cC (b,m,v)).foldl cj (([],m,e,(dI (b,v,l)).1,0,0),b)).2=b:=by
    have: ∀(l:List aI) (x:bY),(l.foldl cj x).2=x.2:=λl=>by
     induction l with
     |nil=>intro x;rfl
     |cons a l j=>intro x;rw[awb,j];rfl
    exact this _ _
   exact⟨P1 _ _ hb (xS hm.bB press _) hi (Qe _ _ rfl trivial i),HN _ _ hi⟩
 unfold ix;refine Qe _ _ h0.2 h0.1 (λr hr=> ?_);have hi:aT b (cg b m e v l press br).1.2.1:=by have:=h1.aU;rw[h2]at this;exact this
 have:=(rM (b:=b) (m:=(cg b m e v l press br).1.2.1) (x:=(cg b m e v l press br).1.2.2.1) (v:=v) hi).1 r hr;exact⟨this.1,by rcases this.2 with h|h<;>rw[h]<;>decide⟩
theorem akj{x:aq}{n:Int}(h:ei x)(m:0<=n)(g:iI x ((x.1.2.2.1+2)*(1000:Nat)+n)):iI (iQ x).2 n:=by
 have i:=Cy x.2.2.1.1 x.2.2.2.1 h.aU h.exp (mf x) h.lit;have o:=aif (l:=x.2.1.2.2.2.2.2.2.2.1) x.2.2.1.1 x.2.2.2.1 h.aU h.exp (mf x);have a:=QY (r:=eS x) i.eq;have j:(eS x).1.length<=1000:=i.len;have k:(eS x).1.length<=maxLen:=auq j (by decide);have hm:=GP g.rm j;have hw:=H0 (l:=(eS x).1) (g.less (by omega)) m o k;have f:=(av2 List.length (xy (eS x).1 x)).trans h.c8;revert a f hw
 generalize(dH ((eS x).1,x)).2=w;intro a hw f;obtain⟨s,h1,h2⟩:=R4 k f h.n8;rw[a.trans h1];cases kV (eS x)<;>exact⟨hw.1.pow,hw.1.ok,hw.1.lo,hw.1.hi,hw.1.rm,hw.1.jr⟩
theorem Ru{b:ab}(a:aK b)(hl:b.2.2.2.2.2.2.2.length<=maxLen):jO (b,EF)=true:=by
 have f:ca b=0:=by simp_all [kB,jS]
 have h1:FK (0,0)=true:=by decide
 have h2:FT (0,0,0,false,0)=true:=by decide
 have h3:AN (b.1,0,0,0)=true:=by
  have g:=a.fl;grind [AN]
 simp_all [jO,EF]
structure iy (b:ab) (m:bg):Prop extends jE b m where
 bs: ∀i:Nat,i<m.2.2.2.1.length->dZ b (i:Int) (aa m.2.2.2.1 (i:Int))
 ea:nT m
 jr:ma b m.2.1 m.1
theorem Dw{α:Type} [Inhabited α]{n i:Nat}{a:α}{l:List α}(hl:l=List.replicate n a)(h:i<n):aa l i=a:=by
 grind [im]
theorem ab5{b:ab}(a:aK b):gD b.2.1 fQ.dflt:=by
 refine⟨a.GB,λj f=> ?_⟩;have h0: ∀y∈tl (fQ.dflt).2,y=0:=by decide
 have g:=h0 _ (im (auz j) (by show j<(36:Int);omega));have:=a.GB;omega
theorem atk{b:ab}(a:aK b){i:Nat}(hi:i<b.2.2.2.2.2.2.2.length):dZ b i (qB ()):=
 ⟨a,⟨auz i,by omega⟩,⟨au4 _,by have:=a.fl.1;show(-1:Int)<=b.1-1;omega⟩,(by decide:(0:Int)<=0/\(0:Int)<=3),(by decide:(0:Int)<=0/\(0:Int)<=3),(by decide:(0:Int)<=0/\(0:Int)<=1000000),λ_=>rfl,λd f=>(by cases f),List.Pairwise.nil⟩
theorem TY{b:ab}{s:bO}(a:aK b)(hl:b.2.2.2.2.2.2.2.length<=maxLen)(hs:cV (b.2.2.1,s)=true)(hr:18*b.2.2.2.2.2.2.2.length+6<=b.2.2.1)(g:ma b s (fR b.2.2.2.2.2.2.2.length)):iy b (td b.2.2.2.2.2.2.2.length s):=by
 have f: ∀i:Nat,i<b.2.2.2.2.2.2.2.length->dZ b i (aa (List.replicate b.2.2.2.2.2.2.2.length (qB ())) i):=λi hi=>by
  simp_all [bH,atk]
 refine⟨⟨yZ a,by show 18*(_+0)+6<=_;omega,hs,⟨rfl,λy h=>by cases h⟩,⟨⟨au4 0,(by decide:(0:Int)<=1000000)⟩,⟨au4 0,(by decide:(0:Int)<=1000000)⟩,au4 0,(by decide:(0:Int)<=1000000)⟩,⟨eu _,λi hi=> ?_⟩,⟨awj ..,λi hi=> ?_⟩,⟨eu _,λi hi=> ?_⟩,⟨eu _,λi hi=> ?_⟩,eu _⟩,λi hi=> ?_,Qq _ _,g⟩
 ·have hi:i<b.2.2.2.2.2.2.2.length:=by rw[<- eu b.2.2.2.2.2.2.2.length];exact hi
  exact(yV _ _).2 ((av2 (gD b.2.1) (Dw rfl hi)).mpr (ab5 a))
 ·have hi:i<b.2.2.2.2.2.2.2.length:=by rw[<- awj (n:=b.2.2.2.2.2.2.2.length)];exact hi
  exact vt hl (f i hi)
 ·have hi:i<b.2.2.2.2.2.2.2.length:=by rw[<- eu b.2.2.2.2.2.2.2.length];exact hi
  exact(av2 (λc=>jO (b,c)) (Dw rfl hi)).trans (Ru a hl)
 ·have hi:i<b.2.2.2.2.2.2.2.length:=by rw[<- eu b.2.2.2.2.2.2.2.length];exact hi
  exact(av2 (λc=>mN (i,c)) (Dw rfl hi)).trans rfl
 ·have hi:i<b.2.2.2.2.2.2.2.length:=by rw[<- awj (n:=b.2.2.2.2.2.2.2.length)];exact hi
  exact f i hi
def mQ(l:List Int):Prop:= ∀y∈l,0<=y/\y<=1000000
theorem Qa{m:ak}{e:List Int}{r:aI}(h:mQ e):mQ (qK m e r):=by
 unfold qK;cases((r.1==2)&&(eI (m,r.2.1,r.2.2.1)).2)with
 |true=>exact λy a=>h y (S0 a)
 |false=>
  cases((r.1==1)&&(!(eI (m,r.2.1,r.2.2.1)).2))with
  |true=>
   intro y a;rcases uS.1 a with h1|h1
   ·simp_all
   ·exact h y h1
  |false=>simp_all
theorem PH: ∀(l:List aI) (x:bY),mQ x.1.2.2.1->mQ (l.foldl cj x).1.2.2.1
 | [],x,h=>h
 |r::l,x,h=>PH l (cj x r) (Qa h)
theorem Pn: ∀(l:List az) (x:bY),mQ x.1.2.2.1->mQ (l.foldl dm x).1.2.2.1
 | [],x,h=>h
 |e::l,x,h=>Pn l (dm x e) (by
  unfold dm;cases fP (x.2,x.1.2.1)with
  |true=>exact Qa (r:=(1,e.1,e.2.1,0,0)) h
  |false=>exact h)
theorem Oz: ∀(l:List aI) (x:bY),(∀r∈l,r.1=3\/r.1=7)->(l.foldl cj x).1.2.2.1=x.1.2.2.1
 | [],x,_=>rfl
 |r::l,x,h=>by
  rw[awb,Oz l _ λq a=>h q (by simp_all)];show qK x.1.2.1 x.1.2.2.1 r=_;grind [qK]
theorem aml{x:aq}(h:ei x)(g:mQ x.2.1.2.2.2.2.2.2.1):(NC x).length=(eS x).2.1.2.2.2.length/\mQ (NC x):=by
 have i:=Cy x.2.2.1.1 x.2.2.2.1 h.aU h.exp (mf x) h.lit;obtain⟨h1,h2,_⟩:=Ie (l:=x.2.1.2.2.2.2.2.2.2.1) x.2.2.1.1 x.2.2.2.1 h.aU h.exp (mf x);have hi:aT x.1 (cg x.1 x.2.1.1 x.2.1.2.2.2.2.2.2.1 (eC x).1 x.2.1.2.2.2.2.2.2.2.1 x.2.2.1.1 x.2.2.2.1).1.2.1:=by have:=h1.aU;simp_all
 have j:mQ (cg x.1 x.2.1.1 x.2.1.2.2.2.2.2.2.1 (eC x).1 x.2.1.2.2.2.2.2.2.2.1 x.2.2.1.1 x.2.2.2.1).1.2.2.1:=by
  unfold cg;cases x.2.2.2.1 with
  |true=>simp_all [auw,Pn,PH]
  |false=>exact g
 have a:=agU (v:=(eC x).1) hi h1.exp j (mf x);refine⟨a.1.trans ?_,a.2⟩;have f:(fG x).1.2.2.1.length=(fG x).1.2.1.2.2.2.length:=i.ro.exp;have k:(fG x).1.2.2.1=(cg x.1 x.2.1.1 x.2.1.2.2.2.2.2.2.1 (eC x).1 x.2.1.2.2.2.2.2.2.2.1 x.2.2.1.1 x.2.2.2.1).1.2.2.1:=Oz _ _ λr hr=>(rM hi).1 r hr|>.2
 rw[k]at f;exact h1.exp.symm.trans f
structure EM (b:ab) (m:bg) (s:ByteArray) (x:aq) (m':bg) (out:la):Prop where
 eq:xf (b,m,s,1048576)=(m',out,0)
 pI:iy b m'
 xd:ei x
 xb:x.1=b
 xg:x.2.2.2.1=((gX (b,s)).2==(0:Int))
 xi:x.2.2.1=(gX (b,s)).1
 xe:x.2.1.1.2.2.2=m.1.2.2.2
 xc:m'.2.2.1=x.2.1.2.2.1
 br:x.2.2.2.1=true-> ∀j:Nat,j<b.2.2.2.2.2.2.2.length->aa x.2.1.2.2.1 (j:Int)=(kM (b.2.1,aa m.2.2.1 (j:Int),(aa x.2.2.1.2.2 (j:Int)).1)).1/\aa x.2.2.2.2.2.2.2.1 (j:Int)=kS (b.1,lX (b.1,(aa x.2.1.2.2.1 (j:Int)).1))/\aa x.2.2.2.2.2.2.1 (j:Int)=true
 bad:x.2.2.2.1=false->x.2.1.2.2.1=m.2.2.1
 fw:out.2.2.2.2.2.length=b.2.2.2.2.2.2.2.length/\ ∀j:Nat,j<b.2.2.2.2.2.2.2.length->(aa out.2.2.2.2.2 (j:Int)).2.1=aa (eS x).2.2.2.1.1 (j:Int)
 ML:out.1=bR (eS x).2.1
 aU:m'.1=(eS x).2.1
 pK:out.2.1=(eS x).1.foldl jf (0,0)
 auo:out.2.2.1= !x.2.2.2.1
 full:out.2.2.2.1=kV (eS x)
theorem amx{x:aq}(hl:x.1.2.2.2.2.2.2.2.length<=maxLen){j:Nat}(h:dZ x.1 j (aa x.2.1.2.2.2.1 j)):dZ x.1 j (qC x j):=by
 unfold qC;cases x.2.2.2.1 with
 |true=>exact ae6 hl h (afc h.bB.fl _)
 |false=>exact aie hl h
theorem alU{x:aq}(hl:x.1.2.2.2.2.2.2.2.length<=maxLen){j:Nat}(h:dZ x.1 j (aa x.2.1.2.2.2.1 j)):dZ x.1 j (pz x j):=by
 grind [pz,afk]
structure asY (b:ab) (m:bg) (s:ByteArray) (x:aq):Prop where
 xd:ei x
 xb:x.1=b
 xg:x.2.2.2.1=((gX (b,s)).2==(0:Int))
 xi:x.2.2.1=(gX (b,s)).1
 xe:x.2.1.1.2.2.2=m.1.2.2.2
 br:x.2.2.2.1=true-> ∀j:Nat,j<b.2.2.2.2.2.2.2.length->aa x.2.1.2.2.1 (j:Int)=(kM (b.2.1,aa m.2.2.1 (j:Int),(aa x.2.2.1.2.2 (j:Int)).1)).1/\aa x.2.2.2.2.2.2.2.1 (j:Int)=kS (b.1,lX (b.1,(aa x.2.1.2.2.1 (j:Int)).1))/\aa x.2.2.2.2.2.2.1 (j:Int)=true
 bad:x.2.2.2.1=false->x.2.1.2.2.1=m.2.2.1
 aB: ∀j:Nat,j<b.2.2.2.2.2.2.2.length->dZ b (j:Int) (aa x.2.1.2.2.2.1 (j:Int))
 new: ∀j:Nat,j<b.2.2.2.2.2.2.2.length->jO (b,aa x.2.1.2.2.2.2.1 (j:Int))=true
 ld: ∀j:Nat,j<b.2.2.2.2.2.2.2.length->0<=aa x.2.1.2.2.2.2.2.1 (j:Int)/\aa x.2.1.2.2.2.2.2.1 (j:Int)<=4
 ct: ∀j:Nat,j<b.2.2.2.2.2.2.2.length->gD b.2.1 (aa x.2.1.2.2.1 (j:Int))
 ex:mQ x.2.1.2.2.2.2.2.2.1
 kX:(0<=x.2.1.2.2.2.2.2.2.2.2.1/\x.2.1.2.2.2.2.2.2.2.2.1<=1000000)/\(0<=x.2.1.2.2.2.2.2.2.2.2.2.1/\x.2.1.2.2.2.2.2.2.2.2.2.1<=1000000)/\0<=x.2.1.2.2.2.2.2.2.2.2.2.2/\x.2.1.2.2.2.2.2.2.2.2.2.2<=1000000
 pK:x.2.2.2.2.2.2.2.2.2.2.1=(0,0)
theorem aiy{b:ab}{m:bg}{s:ByteArray}(g:iy b m)(hl:b.2.2.2.2.2.2.2.length<=maxLen)(h:ei (lJ b m s 1048576)):
  ∃x,(gi (lJ b m s 1048576)).2=x/\ei x/\x.1=b/\x.2.2=(lJ b m s 1048576).2.2/\x.2.1.1=m.1/\x.2.1.2.1=m.2.1/\x.2.1.2.2.2.1=m.2.2.2.1/\x.2.1.2.2.2.2.1=m.2.2.2.2.1/\x.2.1.2.2.2.2.2.2.1=m.2.2.2.2.2.2.1/\
   (x.2.2.2.1=true-> ∀j:Nat,j<b.2.2.2.2.2.2.2.length->aa x.2.1.2.2.1 (j:Int)=(kM (b.2.1,aa m.2.2.1 (j:Int),(aa x.2.2.1.2.2 (j:Int)).1)).1)/\(x.2.2.2.1=false->x.2.1.2.2.1=m.2.2.1)/\
   (∀j:Nat,j<b.2.2.2.2.2.2.2.length->0<=aa x.2.1.2.2.2.2.2.1 (j:Int)/\aa x.2.1.2.2.2.2.2.1 (j:Int)<=4)/\(∀j:Nat,j<b.2.2.2.2.2.2.2.length->gD b.2.1 (aa x.2.1.2.2.1 (j:Int)))/\
   (0<=x.2.1.2.2.2.2.2.2.2.2.1/\x.2.1.2.2.2.2.2.2.2.2.1<=1000000)/\(0<=x.2.1.2.2.2.2.2.2.2.2.2.1/\x.2.1.2.2.2.2.2.2.2.2.2.1<=1000000)/\x.2.1.2.2.2.2.2.2.2.2.2.2=m.2.2.2.2.2.2.2.2.2.2:=by
 obtain⟨ct,ld,tk,i,o,hr⟩:=T7 h.tocF;refine⟨_,rfl,SZ h,?_⟩;have k: ∀j:Nat,j<b.2.2.2.2.2.2.2.length->gD b.2.1 (aa m.2.2.1 (j:Int)):=λj a=>(yV _ _).1 (g.ct.2 j (by rw[g.ct.1];exact a))
 have l: ∀j:Nat,j<b.2.2.2.2.2.2.2.length->0<=aa m.2.2.2.2.2.1 (j:Int)/\aa m.2.2.2.2.2.1 (j:Int)<=4:=λj a=>by
  have:=g.ld.2 j (by rw[g.ld.1];exact a);unfold mN at this;simpa only[au0,adv]using this
 rw[o];refine⟨rfl,rfl,rfl,rfl,rfl,rfl,rfl,λf j a=>((hr.br f).2 j a).1,λf=>(hr.bad f).2.1,λj a=> ?_,λj a=> ?_,?_,?_,rfl⟩
 ·show 0<=aa ld (j:Int)/\aa ld (j:Int)<=4
  cases f:(lJ b m s 1048576).2.2.2.1 with
  |true=>rw[((hr.br f).2 j a).2];exact ahF _ _ _ (l j a)
  |false=>rw[(hr.bad f).2.2];exact l j a
 ·show gD b.2.1 (aa ct (j:Int))
  cases f:(lJ b m s 1048576).2.2.2.1 with
  |true=>rw[((hr.br f).2 j a).1];exact ahe (k j a)
  |false=>rw[(hr.bad f).2.1];exact k j a
 ·show 0<=tk/\tk<=1000000
  rw[hr.tk];exact Ic g.kX.1
 ·show 0<=i/\i<=1000000
  cases f:(lJ b m s 1048576).2.2.2.1 with
  |true=>rw[(hr.br f).1];exact g.kX.2.1
  |false=>rw[(hr.bad f).1];exact Ic g.kX.2.1
theorem amk{r:Int}(h0:0<=r)(h:r<=678):(r+2)*((8:Nat):Int)+((r+2)*((1:Nat):Int)+((r+2)*((1000:Nat):Int)+0))<=1048576:=by omega
theorem agY{b:ab}{m:bg}{x:aq}(hl:b.2.2.2.2.2.2.2.length<=maxLen)(f:ei x)(hb:x.1=b)(g:(fF x).2.2.2.2.2.2.1=0)(i: ∀j:Nat,j<b.2.2.2.2.2.2.2.length->dZ b (j:Int) (aa x.2.1.2.2.2.1 (j:Int))):
  ∃y,(fF x).2=y/\ei y/\y.1=b/\y.2.2.1=x.2.2.1/\y.2.2.2.1=x.2.2.2.1/\y.2.1.1.2.2.2=x.2.1.1.2.2.2/\y.2.1.2.2.1=x.2.1.2.2.1/\y.2.1.2.2.2.2=x.2.1.2.2.2.2/\y.2.2.2.2.2.2.2.2.2=x.2.2.2.2.2.2.2.2.2/\
   (∀j:Nat,j<b.2.2.2.2.2.2.2.length->dZ b (j:Int) (aa y.2.1.2.2.2.1 (j:Int)))/\(∀j:Nat,j<b.2.2.2.2.2.2.2.length->aa y.2.2.2.2.2.2.2.1 (j:Int)=nZ x (j:Int)/\aa y.2.2.2.2.2.2.1 (j:Int)=true):=by
 subst hb;obtain⟨fl,aB,ea,k,l,aX,o,h,_,_,e,_⟩:=SA f.tocF g;refine⟨_,rfl,TL f g,?_⟩;rw[e];exact⟨rfl,rfl,rfl,rfl,rfl,rfl,rfl,λj a=>by show dZ x.1 (j:Int) (aa aB (j:Int));rw[(h.new j a).1];exact amx hl (i j a),λj a=>(h.new j a).2⟩
theorem ajQ{b:ab}{x:aq}(hl:b.2.2.2.2.2.2.2.length<=maxLen)(g:ei x)(hb:x.1=b)(f:(ie x).2.2.2.2.2.2.1=0)(h: ∀j:Nat,j<b.2.2.2.2.2.2.2.length->dZ b (j:Int) (aa x.2.1.2.2.2.1 (j:Int)))(i: ∀j:Nat,j<b.2.2.2.2.2.2.2.length->jO (b,aa x.2.1.2.2.2.2.1 (j:Int))=true):
  ∃y,(ie x).2=y/\ei y/\y.1=b/\y.2.2.1=x.2.2.1/\y.2.2.2.1=x.2.2.2.1/\y.2.1.1.2.2.2=x.2.1.1.2.2.2/\y.2.1.2.2.1=x.2.1.2.2.1/\y.2.1.2.2.2.2.2=x.2.1.2.2.2.2.2/\y.2.2.2.2.2.2.1=x.2.2.2.2.2.2.1/\y.2.2.2.2.2.2.2.1=x.2.2.2.2.2.2.2.1/\y.2.2.2.2.2.2.2.2.2.2.1=x.2.2.2.2.2.2.2.2.2.2.1/\
   (∀j:Nat,j<b.2.2.2.2.2.2.2.length->dZ b (j:Int) (aa y.2.1.2.2.2.1 (j:Int)))/\(∀j:Nat,j<b.2.2.2.2.2.2.2.length->jO (b,aa y.2.1.2.2.2.2.1 (j:Int))=true):=by
 subst hb;refine⟨_,rfl,Vz g f,?_⟩;unfold ie at f⊢;cases hg:x.2.2.2.1 with
 |false=>exact⟨rfl,rfl,hg,rfl,rfl,rfl,rfl,rfl,rfl,h,i⟩
 |true=>
  rw[hg,auw]at f;rw[auw];obtain⟨o,k,aX,l,st,aB,aL,s,_,_,_,_,m,e,_⟩:=Ow g.tocF hg f;show(ib x).2.1=_/\(ib x).2.2.2.1=_/\(ib x).2.2.2.2.1=_/\(ib x).2.2.1.1.2.2.2=_/\(ib x).2.2.1.2.2.1=_/\(ib x).2.2.1.2.2.2.2.2=_/\(ib x).2.2.2.2.2.2.2.1=_/\(ib x).2.2.2.2.2.2.2.2.1=_/\(ib x).2.2.2.2.2.2.2.2.2.2.2.1=_/\(∀j:Nat,_->dZ _ _ (aa (ib x).2.2.1.2.2.2.1 (j:Int)))/\ ∀j:Nat,_->jO (_,aa (ib x).2.2.1.2.2.2.2.1 (j:Int))=true
  rw[e];refine⟨rfl,rfl,hg,rfl,rfl,rfl,rfl,rfl,rfl,λj a=> ?_,λj a=> ?_⟩
  ·show dZ x.1 (j:Int) (aa aB (j:Int))
   rw[(m.new j a).1];cases tO (mK x k aX l st) st (j:Int)with
   |true=>exact afi hl (h j a)
   |false=>exact h j a
  ·show jO (x.1,aa aL (j:Int))=true
   rw[(m.new j a).2.1];cases tO (mK x k aX l st) st (j:Int)with
   |true=>exact Ru g.aU.bB hl
   |false=>exact i j a
theorem alz{b:ab}{m:bg}{s:ByteArray}(a:iy b m)(hl:b.2.2.2.2.2.2.2.length<=maxLen)(hr:b.2.2.1<=678)(P:iC b s):
  ∃x,asY b m s x/\iI x ((b.2.2.1+2)*((1000:Nat):Int)+0)/\(ie (fF (gi (lJ b m s 1048576)).2).2).2=x/\
   ((gi (lJ b m s 1048576)).2.2.2.2.2.2.1=0/\(fF (gi (lJ b m s 1048576)).2).2.2.2.2.2.2.1=0/\x.2.2.2.2.2.1=0):=by
 have Q:=a.tojE.tk a.ea hl (auq a.Gj (by decide)) P 1048576;have S:=a.aU.bB;have w:0<=b.2.2.1:=by have:=S.room.1;omega
 have T:=amk w hr;have d0:=by omega
 have U:0<=(b.2.2.1+2)*(1000:Int)+0:=by omega
 obtain⟨x1,l,d1,b1,i1,o,y,V,n1,Y,Z,h8,h9,a1,a2,a3,a4⟩:=aiy a hl Q;have z:iI x1 ((x1.1.2.2.1+2)*(8:Int)+((b.2.2.1+2)*(1:Int)+((b.2.2.1+2)*(1000:Int)+0))):=by
  refine⟨?_,?_,?_,?_,?_,?_⟩
  ·rw[b1,o,y];exact⟨a.aX,a.aU,a.room⟩
  ·rw[i1];rfl
  ·rw[b1,i1];exact T
  ·rw[i1];exact au4 _
  ·rw[b1];exact w
  ·rw[b1,o,y];exact a.jr
 have g:=aky d1.tocF (by omega) z;have z2:=g.ok;obtain⟨A,C,d2,I,i2,g2,e2,c2,J,o2,a9,L⟩:=agY (m:=m) hl d1 b1 z2 (λj f=>by rw[V];exact a.bs j (by rw[a.aB.1];exact f));rw[C]at g;have g:iI A ((A.1.2.2.1+2)*(1:Int)+((b.2.2.1+2)*(1000:Int)+0)):=by rw[I];exact g
 have i:=amB d2 U g;have z3:=i.ok;obtain⟨M,N,d3,b3,i3,g3,e3,c3,k3,l3,s3,v3,kR,c9⟩:=ajQ hl d2 I z3 a9 (λj f=>by rw[J,n1];exact a.new.2 j (by rw[a.new.1];exact f));rw[N]at i;refine⟨M,?_,i,by rw[l,C,N],by rw[l];exact z.ok,by rw[l];exact z2,i.ok⟩;have k:=g3.trans g2;have t:=c3.trans c2;have O:=i3.trans i2;have u:M.2.1.2.2.2.2.2=x1.2.1.2.2.2.2.2:=by rw[k3,J]
 refine⟨d3,b3,by rw[k,i1];rfl,by rw[O,i1];rfl,by rw[e3,e2,o],λh j f=> ?_,λh=>by rw[t];exact h8 (k▸h),kR,c9,λj f=>by rw[u];exact h9 j f,λj f=>by rw[t];exact a1 j f,?_,?_,?_⟩
 ·rw[t,O,l3,s3]
  refine⟨Z (k▸h) j f,?_,(L j f).2⟩;rw[(L j f).1];unfold nZ;have h1:=k▸h;rw[h1,b1];rfl
 ·rw[u];show mQ x1.2.1.2.2.2.2.2.2.1;rw[Y];exact a.ex.2
 ·rw[u]
  exact⟨a2,a3,by rw[a4];exact a.kX.2.2⟩
 ·rw[v3,o2,i1];rfl
theorem akm{x:aq}(h:ei x):(eS x).2.2.2.1.1.length=x.1.2.2.2.2.2.2.2.length:=
 (O1 x.2.2.1.1 x.2.2.2.1 h.aU.bB (mf x) h.lit).1
theorem ap2{b:ab}{m:bg}{s:ByteArray}(y:iy b m)(hl:b.2.2.2.2.2.2.2.length<=maxLen)(hr:b.2.2.1<=678)(z:iC b s):
  ∃x A out,EM b m s x A out:=by
 obtain⟨x,a,k,C,I,z2,z3⟩:=alz y hl hr z;have k:iI x ((x.1.2.2.1+2)*(1000:Int)+0):=by rw[a.xb];omega
 have i:=akj a.xd (au4 0) k;have z4:=i.ok;have d4:=Rx a.xd z4;have g:(kp (lJ b m s 1048576)).2=(tF (iQ x).2).2:=by
  unfold kp;simp only;rw[Fs I,aur,Fs z2,aur,C,Fs z3,aur,Fs z4,aur]
 obtain⟨aX,J,l,L,M,hi⟩:=N5 a.xd z4;obtain⟨aB,N,o,h⟩:=afR d4;rw[L]at i d4 o h g;rw[o]at g;have hb:=a.xb;have t:=aml a.xd a.ex;have O:=akm a.xd;have P:=i.pow.room;have Q:=U4 a.xd;subst hb;refine⟨x,_,_,amY x.1 m s 1048576 (by unfold runT;rw[g];rfl),?_,a.xd,rfl,a.xg,a.xi,a.xe,by unfold runT;rw[g];rfl,a.br,a.bad,?_,by unfold runT;rw[g];rfl,by unfold runT;rw[g];rfl,?_,by unfold runT;rw[g];rfl,by unfold runT;rw[g];rfl⟩
 ·unfold runT
  rw[g];have u:aB.length=x.1.2.2.2.2.2.2.2.length:=h.l1;have w: ∀j:Nat,j<x.1.2.2.2.2.2.2.2.length->dZ x.1 j (aa aB j):=λj f=>by
   rw[h.new j f];exact alU (x:=Ak x (eS x) aX J l) hl (a.aB j f)
  refine⟨⟨hi,P,i.pow.aX,⟨t.1,t.2⟩,⟨a.kX.1,a.kX.2.1,?_⟩,⟨a.xd.c1,λj f=>(yV _ _).2 (a.ct j (by rw[<- a.xd.c1];exact f))⟩,⟨h.l1,λj f=>vt hl (w j (by rw[<- u];exact f))⟩,⟨a.xd.c3,λj f=>a.new j (by rw[<- a.xd.c3];exact f)⟩,⟨a.xd.c4,λj f=> ?_⟩,O⟩,λj f=>w j (by rw[<- u];exact f),⟨?_,a.xd.cf⟩,i.jr⟩
  ·show 0<=(bif kV (eS x)then hV x.2.1.2.2.2.2.2.2.2.2.2.2 else x.2.1.2.2.2.2.2.2.2.2.2.2)/\(bif kV (eS x)then hV x.2.1.2.2.2.2.2.2.2.2.2.2 else x.2.1.2.2.2.2.2.2.2.2.2.2)<=1000000
   cases kV (eS x)with
   |true=>exact Ic a.kX.2.2
   |false=>exact a.kX.2.2
  ·have:=a.ld j (by rw[<- a.xd.c4];exact f)
   show mN (j,aa x.2.1.2.2.2.2.2.1 j)=true;unfold mN;rw[au0,adv,adv];exact this
  ·show∀p∈(eS x).2.1.1,p=0
   rw[Q];exact a.xd.ph
 ·unfold runT
  rw[g];refine⟨h.l2,λj f=> ?_⟩;show(aa N j).2.1=_;rw[h.fw j];show(aa l j).2.1=_;rw[M.new j f]
 ·unfold runT
  rw[g];show(eS x).1.foldl jf x.2.2.2.2.2.2.2.2.2.2.1=_;rw[a.pK]
theorem Jp{α:Type} [Inhabited α]{l:List α}{i:Int}{v:α}(h0:0<=i)(h1:i<l.length):aa (l.set i.toNat v) i=v:=by
 grind [js]
theorem OK{α:Type} [Inhabited α]{l:List α}{i j:Int}{v:α}(h0:0<=i)(h1:i<l.length)(a:0<=j)(f:j≠i):aa (l.set i.toNat v) j=aa l j:=by
 grind [Int.eq_ofNat_of_zero_le,fi]
theorem iy.isM{b:ab}{m:bg}(h:iy b m):rh (b,m)=true:=by
 have a:=h.aU.bB.cn.2;have f:=h.Gj;have hi:=h.aU.len;refine(Og ⟨?_,?_,?_,?_,?_,?_,?_,?_⟩).2 h.tojE
 ·exact auq a (by decide)
 ·rw[h.aU.l1];exact auq a (by decide)
 ·exact auq hi (by decide)
 ·rw[h.ct.1];exact auq a (by decide)
 ·rw[h.aB.1];exact auq a (by decide)
 ·rw[h.new.1];exact auq a (by decide)
 ·rw[h.ld.1];exact auq a (by decide)
 ·exact auq f (by decide)
theorem V7{b:ab}{m:bg}{s:ByteArray}(a:iy b m)(hr:b.2.2.1<=678)(i:iC b s): ∃x f out,jm (b,m,s,1048576)=(f,out,0)/\EM b m s x f out:=by
 have g:=a.aU.bB.cn.2;obtain⟨x,f,out,h⟩:=ap2 a (auq g (by decide)) hr i;exact⟨x,f,out,(alo a.isM (by rw[a.aB.1];exact auq g (by decide)) (by decide)).trans h.eq,h⟩
theorem Rd{b:ab}{m:bg}{s:ByteArray}(a:iy b m)(hr:b.2.2.1<=678)(f:iC b s):iy b (jm (b,m,s,1048576)).1:=by
 obtain⟨x,g,out,h1,h2⟩:=V7 a hr f;rw[h1];exact h2.pI
structure tV (k:Int×ab×bA×la) (x:List bE×ay):Prop where
 i0:0<=x.2.1
 n8:k.2.1.2.2.2.2.2.2.2.length<=8
 cl:x.1.length=k.2.1.2.2.2.2.2.2.2.length
 fl: ∀d∈x.1,jj d.1
 db: ∀d∈x.1,gD k.2.1.2.1 d
 eK:k.1=0->k.2.2.1.2.2.length=k.2.1.2.2.2.2.2.2.2.length
 out:k.2.2.2.2.2.2.2.2.length=k.2.1.2.2.2.2.2.2.2.length
structure lZ (k:ab) (x:List ByteArray×List bE×Int×bg×af):Prop where
 i0:0<=x.2.2.1
 bB:aK k
 rm:k.2.2.1<=678
 fl:x.1.length<=1000
 cl:x.2.1.length=k.2.2.2.2.2.2.2.length
 cf: ∀d∈x.2.1,jj d.1
 db: ∀d∈x.2.1,gD k.2.1 d
 pI:iy k x.2.2.2.1
theorem rI{i:Int}{n m:Nat}(h0:0<=i)(h:i<n)(hl:m=n):0<=i/\i<m:=by omega
theorem tV.next{k:Int×ab×bA×la}{x:List bE×ay}(h:tV k x){l:List bE}(hl:l=x.1\/ ∃d,l=x.1.set x.2.1.toNat d/\jj d.1/\gD k.2.1.2.1 d){c:af}:tV k (l,x.2.1+1,c):=by
 refine⟨cE h.i0,h.n8,?_,?_,?_,h.eK,h.out⟩
 ·rcases hl with rfl|⟨d,rfl,_⟩
  ·exact h.cl
  ·exact(auu ..).trans h.cl
 ·rcases hl with rfl|⟨d,rfl,a,_⟩
  ·exact h.fl
  ·exact yD h.fl a
 ·rcases hl with rfl|⟨d,rfl,_,a⟩
  ·exact h.db
  ·exact yD h.db a
theorem lZ.eK{k:ab}{x:List ByteArray×List bE×Int×bg×af}(h:lZ k x){s:ByteArray}(a:(AY (k,s)).2=0):(AY (k,s)).1.2.2.length=k.2.2.2.2.2.2.2.length:=by
 rw[aoD h.bB]at a⊢;exact HR (Hr a).2
theorem lZ.inner{k:ab}{x:List ByteArray×List bE×Int×bg×af}(h:lZ k x){e:Int}{eK:bA}{out:la}(hi:e=0->eK.2.2.length=k.2.2.2.2.2.2.2.length){c d:Bool}(a:((c||d)||((out.2.2.2.2.2.length:Int) !=k.2.2.2.2.2.2.2.length))=false):tV (e,k,eK,out) (x.2.1,0,0,0):=by
 rw[auv,au8,axf]at a;exact⟨au4 0,h.bB.cn.2,h.cl,h.cf,h.db,hi,a.2⟩
theorem lZ.next{k:ab}{x:List ByteArray×List bE×Int×bg×af}(h:lZ k x){l:List ByteArray}{s:ByteArray}(hl:l=x.1\/ ∃v,l=x.1.set x.2.2.1.toNat v)(i:iC k s){f:Int×ab×bA×la}{y:List bE×ay}(a:tV f y)(g:f.2.1=k){c:af}:
  lZ k (l,y.1,x.2.2.1+1,(jm (k,x.2.2.2.1,s,1048576)).1,c):=by
 refine⟨cE h.i0,h.bB,h.rm,?_,by rw[<- g];exact a.cl,a.fl,by rw[<- g];exact a.db,Rd h.pI h.rm i⟩;rcases hl with rfl|⟨v,rfl⟩
 ·exact h.fl
 ·rw[auu];exact h.fl
theorem atM{n:Int}{s:bE}(h:jj s.1)(a:gD n s)(c:jJ):jj (Gi (n,s,c)).1.1:=by
 grind [ahm,IA,H3]
theorem aqC{n:Nat}(h:n<=8):0<=(n:Int)/\n=(n:Int)/\(n:Int)*296<=140737488355328/\(n:Int)<=4611686018427387903:=by omega
theorem tV.gI{k:Int×ab×bA×la}{x:List bE×ay}(h:tV k x)(a:x.2.1<k.2.1.2.2.2.2.2.2.2.length){c:jJ}:jj (aa (x.1.set x.2.1.toNat (Gi (k.2.1.2.1,aa x.1 x.2.1,c)).1) x.2.1).1:=by
 have hr:=rI h.i0 a h.cl;have hm:=im hr.1 hr.2;rw[Jp hr.1 hr.2];exact atM (h.fl _ hm) (h.db _ hm) c
theorem lZ.start{x:ay}{l:List ByteArray}(h:kO x)(hl:l.length<=1000):
  lZ (F7 x) (l,aC fQ ((F7 x).2.2.2.2.2.2.2.length:Int),0,(F8 (F7 x)).1,0,0):=by
 obtain⟨a,_,hr,j⟩:=sA h;obtain⟨s,hs,g,i⟩:=yC h;rw[hs];generalize F7 x=b at a hr j g i;have k:=a.cn.2;refine⟨au4 0,a,hr,hl,eu _,λd f=> ?_,λd f=> ?_,TY a (auq k (by decide)) g (by omega) (Pq a (by omega) hr i)⟩
 ·rw[aw3 f]
  exact⟨au4 0,(by decide:(0:Int)<=4294967295)⟩
 ·rw[aw3 f]
  exact ab5 a
theorem aiT{b:ab}(hl:b.2.2.2.2.2.2.2.length<=maxLen):Fit aD b:=⟨trivial,trivial,trivial,trivial,trivial,trivial,trivial,hl,λ_ _=>⟨trivial,trivial,trivial,trivial,trivial,trivial,trivial,trivial,trivial⟩⟩
theorem aev{b:ab}{l:List Int}(g:aK b)(hl:l.length<=maxLen)(a:cr l):(F9 (b,l,120)).length<=1000:=by
 have h:=g.cn.2;have i:Fit (Ty.pair Ap (Ty.pair ae aD)) (l,120,b):=⟨⟨hl,λ_ _=>trivial⟩,trivial,aiT (auq h (by decide))⟩;have j:=iq (step:=z8) (I:=λy=>KV (l,120,b) y) (λy k' z a f=>by
  have hs:=apD (l,120,b) y i a;rw[f]at hs;exact hs.2.1) (λy k' z a f=>by
  unfold z8 at f;grind) (Nat.succ (LB (l,120,b) ([],0))) ([],0) ⟨au4 0,au4 0,(by decide:(0:Int)<=120),(by decide:(120:Int)<=1000),a,g⟩
 have h2:=j.2.2.1;unfold F9 acx;grind
theorem amv{b:ab}{l:List Int}{n:Int}(h1:aK b)(h2:cr l)(h3:0<=n/\n<=1000):aaP (b,l,n):=⟨h1,h2,h3⟩
theorem lZ.safe{x:(ay)×List Int}(h1:kO x.1)(h2:cr x.2)(hl:x.2.length<=maxLen):
  (aaP ((F7 x.1),x.2,120))/\((0<=(((F7 x.1).2.2.2.2.2.2.2).length:Int)/\(((F7 x.1).2.2.2.2.2.2.2).length:Int)=(((F7 x.1).2.2.2.2.2.2.2).length:Int)/\(((F7 x.1).2.2.2.2.2.2.2).length:Int)*296<=140737488355328/\(((F7 x.1).2.2.2.2.2.2.2).length:Int)<=4611686018427387903)/\(lZ (F7 x.1) ((F9 ((F7 x.1),x.2,120)),(aC fQ (((F7 x.1).2.2.2.2.2.2.2).length:Int)),0,(F8 (F7 x.1)).1,0,0))):=by
 have a:=(sA h1).1;exact⟨amv a h2 ⟨by decide,by decide⟩,aqC a.cn.2,lZ.start h1 (aev a hl h2)⟩
def Key(l:List az)(f d:Int):Prop:= ∃e∈l,e.1=f/\e.2.1=d
theorem akY{l:List az}{f d:Int}:Key l f d↔(f,d)∈l.map (λe=>(e.1,e.2.1)):=by
 rw[aA4];constructor
 ·rintro⟨e,a,rfl,rfl⟩;grind
 ·rintro⟨e,a,h⟩;cases h;exact⟨e,a,rfl,rfl⟩
theorem RZ{l:List az}{i:Nat}{v:az}(a:i<l.length->v.1=(aa l i).1/\v.2.1=(aa l i).2.1){f d:Int}:Key (l.set i v) f d↔Key l f d:=by
 have e:(l.set i v).map (λe=>(e.1,e.2.1))=l.map (λe=>(e.1,e.2.1)):=by
  grind [List.ext_getElem,List.length_map,bH]
 simp_all [akY]
theorem Qv{l:List az}{t:Int}{a:Nat}(hs:eM ek l)(h:mM ek l t a)(f:a<l.length)(g:ek (aa l a)=t){e:az}:e∈iU l a↔e∈l/\ek e≠t:=by
 unfold iU;rw[awa,aww];constructor
 ·rintro(he|he)
  ·obtain⟨q,i,rfl⟩:=av0 he
   rw[avp]at i;refine⟨awg he,?_⟩;rw[aAa,<- bH l q (by omega)];have:=h.lt q (by omega);omega
  ·obtain⟨q,i,rfl⟩:=av0 he
   rw[avo]at i;refine⟨awx he,?_⟩;rw[aBa,<- g,bH l a f];have:=List.pairwise_iff_getElem.1 hs a (a+1+q) f (by omega) (by omega);omega
 ·rintro⟨he,j⟩
  rw[<- awi a l,aww]at he;rcases he with he|he
  ·exact .inl he
  ·rw[av5 f,avv]at he
   rcases he with rfl|he
   ·rw[bH l a f]at g;exact absurd g j
   ·exact .inr he
theorem T4{b:ab}{m:ak}{r:aI}(hm:aT b m)(h:r.1=1)(a:r.2.2.1=1\/r.2.2.1=2){f d:Int}:Key (aW m r).2.2.2 f d↔Key m.2.2.2 f d\/(r.2.1=f/\r.2.2.1=d):=by
 unfold aW;rw[ry h];have g:=Ib hm (f:=r.2.1) a;cases hc:(bt (m,r.2.1,r.2.2.1)).2 with
 |true=>
  constructor
  ·simp_all
  ·rintro(h|⟨rfl,rfl⟩)
   ·exact h
   ·exact g.1 hc
 |false=>
  constructor
  ·rintro⟨e,he,h1,h2⟩
   rcases uS.1 he with he|he
   ·rw[av8]at he;subst he;exact .inr ⟨h1,h2⟩
   ·exact .inl ⟨e,he,h1,h2⟩
  ·rintro(⟨e,he,h1,h2⟩|⟨h1,h2⟩)
   ·exact⟨e,uS.2 (.inr he),h1,h2⟩
   ·exact⟨_,uS.2 (.inl (by rw[av8])),h1,h2⟩
theorem ajm{b:ab}{m:ak}{r:aI}(hm:aT b m)(h:r.1=2)(i:r.2.2.1=1\/r.2.2.1=2){f d:Int}:Key (aW m r).2.2.2 f d↔Key m.2.2.2 f d/\ ¬ (r.2.1=f/\r.2.2.1=d):=by
 unfold aW;rw[xB h];obtain⟨a,h1,h2,h3⟩:=nu hm i;have l:=Ib hm (f:=r.2.1) i;cases hc:(bt (m,r.2.1,r.2.2.1)).2 with
 |true=>
  rw[auw,h2];have q:=h3.1 hc;constructor
  ·rintro⟨e,j,rfl,rfl⟩
   have:=(Qv hm.fg h1 q.1 q.2).1 j;exact⟨⟨e,this.1,rfl,rfl⟩,λk=>this.2 ((zE (hm.ft e this.1).1.dir i).2 ⟨k.1.symm,k.2.symm⟩)⟩
  ·rintro⟨⟨e,j,rfl,rfl⟩,k⟩
   exact⟨e,(Qv hm.fg h1 q.1 q.2).2 ⟨j,λg=>k (by have:=(zE (hm.ft e j).1.dir i).1 g;exact⟨this.1.symm,this.2.symm⟩)⟩,rfl,rfl⟩
 |false=>
  refine⟨λg=>⟨g,?_⟩,λg=>g.1⟩;rintro⟨rfl,rfl⟩
  rw[l.2 g]at hc;cases hc
theorem ajV{b:ab}{m:ak}{r:aI}(hm:aT b m)(h:r.1=3\/r.1=7)(g:r.2.2.1=1\/r.2.2.1=2){f d:Int}:Key (aW m r).2.2.2 f d↔Key m.2.2.2 f d:=by
 unfold aW;obtain⟨a,h1,h2,h3⟩:=nu hm g;rcases h with h|h
 ·rw[xz h]
  cases hc:(bt (m,r.2.1,r.2.2.1)).2 with
  |true=>
   refine RZ ?_;exact λ_=>⟨rfl,rfl⟩
  |false=>rfl
 ·rw[xC h]
  cases hc:(bt (m,r.2.1,r.2.2.1)).2 with
  |true=>
   have i:=(h3.1 hc).1;have j:oL (r,m)=m.2.2.2.set a ((aa m.2.2.2 a).1,(aa m.2.2.2 a).2.1,(aa m.2.2.2 a).2.2.1,r.2.2.2.2,(r.2.2.2.1==1)):=by
    unfold oL oQ;simp only[h2,aJ,awa,Rc i,aBm]
   rw[j];refine RZ ?_;exact λ_=>⟨rfl,rfl⟩
  |false=>rfl
theorem KP{b:ab}{r:aI}(hr:bW b r)(h:r.1=1\/r.1=2\/r.1=3\/r.1=7):cL b.1 r.2.1 r.2.2.1:=by
 rcases hr with⟨_,a,_⟩|⟨_,a,_⟩|⟨_,a,_⟩|⟨h1,_⟩|⟨h1,_⟩
 all_goals omega
theorem Iv{b:ab}{f d:Int}: ∀(l:List aI) (m:ak),aT b m->(∀r∈l,bW b r/\r.1=2)->aT b (l.foldl aW m)/\(Key (l.foldl aW m).2.2.2 f d↔Key m.2.2.2 f d/\ ¬ ∃r∈l,r.2.1=f/\r.2.2.1=d)
 | [],m,hm,_=>⟨hm,λh=>⟨h,by rintro⟨_,h,_⟩;cases h⟩,λh=>h.1⟩
 |r::l,m,hm,hl=>by
  have hr:=hl r (by simp);have hi:aT b (aW m r):=mc hm hr.1;obtain⟨h1,h2⟩:=Iv (f:=f) (d:=d) l (aW m r) hi (λr hr=>hl r (by simp[hr]));rw[awb];refine⟨h1,?_⟩;rw[h2,ajm hm hr.2 (KP hr.1 (.inr (.inl hr.2))).dir];constructor
  ·rintro⟨⟨a,b⟩,c⟩
   refine⟨a,?_⟩;rintro⟨q,g,h⟩
   rcases List.mem_cons.1 g with rfl|g
   ·exact b h
   ·exact c ⟨q,g,h⟩
  ·rintro⟨a,c⟩
   exact⟨⟨a,λh=>c ⟨r,by simp,h⟩⟩,λ⟨q,g,h⟩=>c ⟨q,by simp[g],h⟩⟩
theorem QZ{b:ab}{f d:Int}: ∀(l:List aI) (m:ak),aT b m->(∀r∈l,bW b r/\(r.1=3\/r.1=7))->(Key (l.foldl aW m).2.2.2 f d↔Key m.2.2.2 f d)
 | [],m,hm,_=>Iff.rfl
 |r::l,m,hm,hl=>by
  have hr:=hl r (by simp);have hi:=mc hm hr.1;rw[awb,QZ l (aW m r) hi (λr hr=>hl r (by simp_all))];exact ajV hm hr.2 (KP hr.1 (.inr (.inr hr.2))).dir
structure RgP (x y:bY) (L:List az):Prop where
 b:y.2=x.2
 aU:aT x.2 y.1.2.1
 tH: ∃R,y.1.1=x.1.1++R/\ ∀r∈R,r.1=1
 up: ∀f d,Key x.1.2.1.2.2.2 f d->Key y.1.2.1.2.2.2 f d
 dn: ∀f d,Key y.1.2.1.2.2.2 f d->Key x.1.2.1.2.2.2 f d\/ ∃e∈L,e.1=f/\e.2.1=d
 wr:WC x.1.2.2.2.2->WC y.1.2.2.2.2
 ru: ∀f:Nat,f<32-> ∀d,d=1\/d=2->bk x.1.2.2.2.2 f d=true->bk y.1.2.2.2.2 f d=true
 all: ∀f:Nat,f<32-> ∀d,(∃e∈L,e.1=(f:Int)/\e.2.1=d)->Key y.1.2.1.2.2.2 (f:Int) d\/bk y.1.2.2.2.2 f d=true
theorem Aq: ∀(L:List az) (x:bY),aT x.2 x.1.2.1->(∀e∈L,cL x.2.1 e.1 e.2.1)->RgP x (L.foldl dm x) L
 | [],x,k,_=>⟨rfl,k,⟨[],by simp,by simp⟩,λ_ _ h=>h,λ_ _ h=> .inl h,λh=>h,λ_ _ _ _ h=>h,λ_ _ _ ⟨_,h,_⟩=>by cases h⟩
 |e::L,x,k,l=>by
  have o:=l e (by simp);have j:=o.dir;rw[awb];unfold dm at*;cases hr:fP (x.2,x.1.2.1)with
  |true=>
   rw[auw];have t:bW x.2 (1,e.1,e.2.1,0,0):= .inl ⟨.inl rfl,o,rfl,rfl⟩;have hi:=mc k t;have m: ∀f d,Key (aW x.1.2.1 (1,e.1,e.2.1,0,0)).2.2.2 f d↔Key x.1.2.1.2.2.2 f d\/(e.1=f/\e.2.1=d):=λf d=>T4 k rfl j
   have a:=Aq L (cj x (1,e.1,e.2.1,0,0)) hi (λe s=>l e (by simp_all));refine⟨a.b,a.aU,?_,λf d h=>a.up f d ((m f d).2 (.inl h)),λf d h=> ?_,a.wr,a.ru,λf i d h=> ?_⟩
   ·obtain⟨R,h1,h2⟩:=a.tH
    refine⟨_::R,h1.trans (avb ..),λr hr=> ?_⟩;rcases List.mem_cons.1 hr with rfl|hr
    ·rfl
    ·exact h2 r hr
   ·rcases a.dn f d h with h|⟨q,g,h⟩
    ·rcases(m f d).1 h with h|h
     ·exact .inl h
     ·exact .inr ⟨e,by simp,h⟩
    ·exact .inr ⟨q,by simp[g],h⟩
   ·obtain⟨q,g,h1,h2⟩:=h
    rcases List.mem_cons.1 g with rfl|g
    ·exact .inl (a.up _ _ ((m _ _).2 (.inr ⟨h1,h2⟩)))
    ·exact a.all f i d ⟨q,g,h1,h2⟩
  |false=>
   rw[aur];have a:=Aq L ((x.1.1,x.1.2.1,x.1.2.2.1,x.1.2.2.2.1,fc (x.1.2.2.2.2,fo (e.1,e.2.1))),x.2) k (λe s=>l e (by simp[s]));refine⟨a.b,a.aU,a.tH,a.up,λf d h=> ?_,λ_=>a.wr (Ik _),λf i d j h=>a.ru f i d j ?_,λf i d h=> ?_⟩
   ·rcases a.dn f d h with h|⟨q,g,h⟩
    ·exact .inl h
    ·exact .inr ⟨q,by simp[g],h⟩
   ·rw[uo _ _ i j,h];rfl
   ·obtain⟨q,g,h1,h2⟩:=h
    rcases List.mem_cons.1 g with rfl|g
    ·subst h2
     refine .inr (a.ru f i _ j ?_);rw[uo _ _ i j,h1,Dc i i j j];simp
    ·exact a.all f i d ⟨q,g,h1,h2⟩
theorem zY{b:ab}(a:aK b){f d:Int}(h:cL b.1 f d): ∃n:Nat,n<32/\f=n:=by
 have:=a.fl;unfold cL at h;exact⟨f.toNat,by omega,by omega⟩
theorem Bq{α:Type}(g:α->bd): ∀(l:List α) (c:bd) {f:Nat} {d:Int},f<32->d=1\/d=2->(bk (l.foldl (λc e=>fc (c,g e)) c) f d=true↔bk c f d=true\/ ∃e∈l,bk (g e) f d=true)
 | [],c,f,d,_,_=>⟨λh=> .inl h,λh=>h.elim id (λ⟨_,h,_⟩=>by cases h)⟩
 |e::l,c,f,d,a,i=>by
  rw[awb,Bq g l _ a i,uo _ _ a i,av9];grind
theorem agz{α:Type}(g:α->bd)(l:List α)(c:bd)(h:WC c):WC (l.foldl (λc e=>fc (c,g e)) c):=by
 induction l generalizing c with
 |nil=>exact h
 |cons a l f=>grind [Ik]
theorem of_eq{l:List az}(hl:l.length<=maxLen):Ft l=l.foldl (λc e=>fc (c,fo (e.1,e.2.1))) (0,0):=by
 have:=xL (step:=uI) (k:=(l,l.length)) l (λc e=>fc (c,fo (e.1,e.2.1))) (λ_=>True) hl (λc i hi _=>by
  simp_all [uI,bH]) (λc _=>by simp_all [uI]) (0,0) trivial (fuel:=Nat.succ (yY (l,l.length) (0,0,0))) (by simp_all [yY])
 simp_all [Ft,UQ]
theorem Jw{b:ab}(h:aK b){e d:Int}{g:Int}(a:cL b.1 g e){f:Nat}(i:f<32)(j:d=1\/d=2):bk (fo (g,e)) f d=true↔g=f/\e=d:=by
 obtain⟨n,k,rfl⟩:=zY h a;rw[Dc i k j a.dir];grind
theorem mg{b:ab}{m:ak}(hm:aT b m){f:Nat}{d:Int}(g:f<32)(i:d=1\/d=2):bk (bR m) f d=true↔Key m.2.2.2 f d:=by
 unfold bR;rw[of_eq (auq hm.len (by decide)),Bq _ _ _ g i,jo];constructor
 ·rintro(h|⟨e,a,h⟩)
  ·cases h
  ·exact⟨e,a,(Jw hm.bB (hm.ft e a).1 g i).1 h⟩
 ·rintro⟨e,a,h⟩
  exact .inr ⟨e,a,(Jw hm.bB (hm.ft e a).1 g i).2 h⟩
theorem xX{b:ab}{m:ak}(hm:aT b m):WC (bR m):=by
 unfold bR;rw[of_eq (auq hm.len (by decide))];exact agz _ _ _ sn
theorem S7{b:ab}(j:aK b){f:Nat}{d:Int}(g:f<32)(i:d=1\/d=2): ∀(l:List aI) (c:bd),(∀r∈l,r.1=2->cL b.1 r.2.1 r.2.2.1)->(bk (l.foldl jf c) f d=true↔bk c f d=true\/ ∃r∈l,r.1=2/\r.2.1=f/\r.2.2.1=d)
 | [],c,_=>⟨λh=> .inl h,λh=>h.elim id (λ⟨_,h,_⟩=>by cases h)⟩
 |r::l,c,hl=>by
  rw[awb,S7 j g i l _ (λr hr=>hl r (by simp_all))];unfold jf;cases h2:(r.1==2)with
  |true=>
   rw[awt]at h2;rw[auw,uo _ _ g i,av9,Jw j (hl r (by simp) h2) g i];grind
  |false=>
   rw[awu]at h2;constructor
   ·rintro(h|⟨q,a,h⟩)
    ·exact .inl h
    ·exact .inr ⟨q,by simp[a],h⟩
   ·rintro(h|⟨q,a,h⟩)
    ·exact .inl h
    ·rcases List.mem_cons.1 a with rfl|a
     ·exact absurd h.1 h2
     ·exact .inr ⟨q,a,h⟩
theorem Wm: ∀(l:List aI) (c:bd),WC c->WC (l.foldl jf c)
 | [],c,h=>h
 |r::l,c,h=>by
  refine Wm l _ ?_;grind [jf,Ik]
def acS(c:Nat->bd):Nat->bd
 |0=>(0,0)
 |n+1=>fc (acS c n,dS (c n,acS c n))
theorem Pv{c a:Nat->bd}: ∀{n:Nat},(∀j,j<n->c j=a j)->acS c n=acS a n
 |0,_=>rfl
 |n+1,h=>by
  unfold acS;rw[Pv (λj f=>h j (by omega)),h n (by omega)]
theorem Ju(c:Nat->bd){f:Nat}{d:Int}(a:f<32)(g:d=1\/d=2): ∀n,bk (acS c n) f d=true↔ ∃j,j<n/\bk (c j) f d=true
 |0=>by
  show bk (0,0) f d=true↔_;simp_all [jo]
 |n+1=>by
  show bk (fc (acS c n,dS (c n,acS c n))) f d=true↔_;have h:=Ju c a g n;rw[uo _ _ a g,um _ _ a g];grind
theorem afW{α:Type} [Inhabited α]{l:List α}{a:α}{j:Nat}(h:j<l.length):aa (l++ [a]) j=aa l j:=by
 grind [bH]
theorem afV{α:Type} [Inhabited α]{l:List α}{a:α}{j:Nat}(h:l.length=j):aa (l++ [a]) j=a:=by
 simp_all [bH]
theorem ahS{b:ab}{v:List aZ}{l:List bd}(g:aK b)(u:v.length=b.2.2.2.2.2.2.2.length)(hl:l.length=b.2.2.2.2.2.2.2.length){j:Nat}(a:j<v.length):
  aa (dI (b,v,l)).1.1 j=dS (iS (b,aa v j),acS (λj=>iS (b,aa v j)) j):=by
 have L:b.2.2.2.2.2.2.2.length<=8:=g.cn.2;have w:=(kB b (by unfold maxLen;show b.2.2.2.2.2.2.2.length<=_;omega)).trans ((jS b).2 g);unfold dI;have x:((v.length:Int) !=b.2.2.2.2.2.2.2.length)=false:=by rw[u];exact awm _
 have z:((l.length:Int) !=b.2.2.2.2.2.2.2.length)=false:=by rw[hl];exact awm _
 rw[w,x,z];have A:=na (step:=oH) (k:=(l,v,v.length,b)) (I:=λy=> ∃i:Nat,y.1=i/\i<=v.length/\y.2.1.length=i/\(∀j,j<i->aa y.2.1 j=dS (iS (b,aa v j),acS (λj=>iS (b,aa v j)) j))/\y.2.2.2=acS (λj=>iS (b,aa v j)) i) (mu:=λy=>(v.length-y.1).toNat)
  (Q:=λo y=> ∀j,j<v.length->aa y.2.1 j=dS (iS (b,aa v j),acS (λj=>iS (b,aa v j)) j)) (λy C=>by
   obtain⟨i,h,M,m,s,t⟩:=C;unfold oH;by_cases f:y.1<v.length
   ·have e:=cA (by omega) f (show v.length<=maxLen by unfold maxLen;omega)
    simp only[f,e];refine⟨⟨i+1,by omega,by omega,by rw[au1,m];rfl,λj a=> ?_,?_⟩,dg f⟩
    ·by_cases J:j<i
     ·rw[afW (by omega)];exact s j J
     ·have e:j=i:=by omega
      subst e;rw[afV m,h,t]
    ·rw[h,t];rfl
   ·simp only[f,aur]
    exact λj a=>s j (by omega)) (Nat.succ (oF (l,v,v.length,b) (0,[],[],0,0))) (0,[],[],0,0) ⟨0,rfl,awc _,rfl,λj a=>by omega,rfl⟩ (by unfold oF;simp)
 exact A j a
theorem aki{x:aq}(h:cF x){j:Nat}(a:j<x.1.2.2.2.2.2.2.2.length):mG (x.2.1.1,j)=true:=by
 have h1:=h.p1;have h2:=h.p2;have h3:=h.p3;have h0:=h.ph _ (im (i:=j) (by omega) (by omega));unfold mG qP;simp_all
theorem ahn(b:ab)(m:bg)(j:Int)(q:gw):(wq (b,m,j,q)).2.1=mG (m.1,j):=by
 unfold wq;grind
theorem O4{x:aq}(h:cF x)(m:x.2.2.2.1=true)(s: ∀j:Nat,j<x.1.2.2.2.2.2.2.2.length->aa x.2.2.2.2.2.2.1 j=true){j:Nat}(a:j<x.1.2.2.2.2.2.2.2.length):
  (aa (eC x).1 j).2.1=true/\(aa (eC x).1 j).2.2.2.2.2.2.2.1=aa x.2.2.2.2.2.2.2.1 j:=by
 have C:=h.n8;have t:((aC eO x.1.2.2.2.2.2.2.2.length).length:Int)=x.1.2.2.2.2.2.2.2.length:=by rw[eu]
 unfold eC;rw[t];have u:=na (step:=pZ) (k:=(x.1.2.2.2.2.2.2.2.length,x)) (I:=λy=> ∃i:Nat,y.2=i/\i<=x.1.2.2.2.2.2.2.2.length/\y.1.length=x.1.2.2.2.2.2.2.2.length/\ ∀j:Nat,j<i->(aa y.1 j).2.1=true/\(aa y.1 j).2.2.2.2.2.2.2.1=aa x.2.2.2.2.2.2.2.1 j) (mu:=λy=>(x.1.2.2.2.2.2.2.2.length-y.2).toNat)
  (Q:=λo y=> ∀j:Nat,j<x.1.2.2.2.2.2.2.2.length->(aa y.1 j).2.1=true/\(aa y.1 j).2.2.2.2.2.2.2.1=aa x.2.2.2.2.2.2.2.1 j) (λy w=>by
   obtain⟨i,g,J,z,l⟩:=w;unfold pZ;by_cases f:y.2<x.1.2.2.2.2.2.2.2.length
   ·have e:=cA (by omega) f (show x.1.2.2.2.2.2.2.2.length<=maxLen by unfold maxLen;omega)
    have hi:i<x.1.2.2.2.2.2.2.2.length:=by omega
    simp only[f,e,m,aur];rw[g,s i hi,auw];refine⟨⟨i+1,by simp,by omega,?_,λj a=> ?_⟩,by rw[<- g];exact dg f⟩
    ·exact(auu ..).trans ((auu ..).trans z)
    ·unfold QN
     by_cases A:j<i
     ·simp only[aJ]
      rw[OK (by omega) (by rw[auu];omega) (by omega) (by omega),OK (by omega) (by omega) (by omega) (by omega)];exact l j A
     ·have e:j=i:=by omega
      subst e;simp only[aJ,g];rw[Jp (by omega) (by rw[auu];omega)];refine⟨?_,rfl⟩;show(aa (y.1.set ((j:Int)).toNat _) j).2.1=true;rw[Jp (by omega) (by omega),ahn];exact aki h hi
   ·simp only[f,aur]
    exact λj a=>l j (by omega)) (Nat.succ (yN (x.1.2.2.2.2.2.2.2.length,x) ((aC eO x.1.2.2.2.2.2.2.2.length),0))) ((aC eO x.1.2.2.2.2.2.2.2.length),0) ⟨0,rfl,awc _,eu _,λj a=>by omega⟩ (by unfold yN;simp)
 exact u j a
theorem Cg{b:ab}(a:aK b){s:bd}(hs:WC s)(h: ∀f:Nat,f<32-> ∀d,d=1\/d=2->bk s f d=true->cL b.1 f d):dv (s,dB b)=s:=
 WC.ext (TC _) hs λf g d i=>by
  grind [ur,yg]
theorem OA{b:ab}(a:aK b)(o:ay):dv (kS (b.1,o),dB b)=kS (b.1,o):=by
 have m:=a.fl;unfold kS;cases hc:((!mT (b.1,o)||(o.2.2 !=1))||decide (o.1<0))with
 |true=>simp_all [Cg,sn,jo]
 |false=>
  rw[aur];simp only[auv,ave,aut]at hc;obtain⟨⟨l,_⟩,h0⟩:=hc;have hr:=(Rw l).1;have hw:i64.wrap (b.1-1)=b.1-1:=aA (by omega) (by omega);rw[hw];obtain⟨g,k⟩:=awe (show 0<=o.1 by omega);cases h1:((o.2.1==1)&&decide (o.1<b.1-1))with
  |true=>
   rw[auw];rw[au0,adv]at h1;refine Cg a ⟨sM _,W.zero⟩ λf i d j h=> ?_
   rw[k]at h h1;rcases j with rfl|rfl
   ·rw[Fj,Eb (by omega) i,adv]at h
    exact .inl ⟨rfl,by omega,by omega⟩
   ·rw[FM,uC]at h;cases h
  |false=>
   rw[aur];cases h2:((o.2.1==2)&&decide (o.1>0))with
   |true=>
    rw[auw];rw[au0,adv]at h2;refine Cg a ⟨W.zero,sM _⟩ λf i d j h=> ?_
    rw[k]at h h2;rcases j with rfl|rfl
    ·rw[Fj,uC]at h;cases h
    ·rw[FM,Eb (by omega) i,adv]at h
     exact .inr ⟨rfl,by omega,by omega⟩
   |false=>rw[aur];exact Cg a sn λf i d j h=>by rw[jo]at h;cases h
end Go.Proofs.YtcfinjcapeemeaaGreatDoor.S
