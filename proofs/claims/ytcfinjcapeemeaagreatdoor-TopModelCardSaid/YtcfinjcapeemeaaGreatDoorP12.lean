/- Part of the proof that the law TopModel holds for every input. -/
import Derived.Test.YtcfinjcapeemeaaGreatDoorP11
set_option linter.all false
set_option maxRecDepth 100000
set_option maxHeartbeats 4000000
namespace Go.Proofs.YtcfinjcapeemeaaGreatDoor.S
open Go Go.RowKit IntKind Go.Proofs.Tryz
theorem QU{α:Type} [Inhabited α]{l:List α}{i:Nat}{v:α}(h:i<l.length)(j:Nat):aa (l.set ((i:Int)).toNat v) j=if j=i then v else aa l j:=by
 show((l.set i v)[((j:Int)).toNat]?).getD default=_;rw[awt,List.getElem?_set];by_cases a:i=j
 ·simp_all
 ·rw[avb a,avb (λh=>a h.symm)];rfl
theorem fR{α:Type} [Inhabited α]{l:List α}{i:Nat}{v:α}(h:i<l.length){j:Nat}(a:j≠i):aa (l.set ((i:Int)).toNat v) j=aa l j:=(QU h j).trans (avb a)
theorem jU{α:Type} [Inhabited α]{l:List α}{i:Nat}{v:α}(h:i<l.length):aa (l.set ((i:Int)).toNat v) i=v:=(QU h i).trans (avf rfl)
def bE(m:aq)(r:aT):aq:=(ej (r,m)).2
theorem afh{b:ae}{s:dr}{m:aq}{r:aT}{n:Int}(h:(mn (b,s,m,r,n)).2.2.2=0):cL (b,m)=true/\jc (b,r)=true:=by
 grind [mn,fy,cL]
structure A1 (l:List aT) (t t':au):Prop where
 eq: ∃bl bud,t'=(t.1,(l.foldl bE t.2.1.1,bl,t.2.1.2.2),t.2.2.1,t.2.2.2.1,bud,0,t.2.2.2.2.2.2)
 ba:bk t.1 t.2.1.1->bk t.1 (l.foldl bE t.2.1.1)
theorem HJ{l:List aT}{t:au}(s:t.1.2.2.2.2.2.2.2.length<=maxLen)(u:l.length<=maxLen)(f:(ed (l,t)).2.2.2.2.2.2.1=0):A1 l t (ed (l,t)).2:=by
 have w:=kX (step:=iJ) (k:=(l,l.length)) (I:=λy=> ∃i:Nat,y.1=i/\i<=l.length/\(y.2.2.2.2.2.2.1=0->A1 (l.take i) t y.2)) (mu:=λy=>(l.length-y.1).toNat)
  (Q:=λo y=>match o with|some r=>r.2.2.2.2.2.2.1=0->A1 l t r.2|none=>y.2.2.2.2.2.2.1=0->A1 l t y.2) (λy x=>by
   obtain⟨i,h0,h1,h2⟩:=x;obtain⟨M,y⟩:=y;simp only at h0;subst h0;unfold iJ;by_cases g:(i:Int)<l.length
   ·simp only[g,avz,au3]
    cases hf:(y.2.2.2.2.2.1 !=0)with
    |true=>rw[axp]at hf;rw[au3];exact λh=>absurd h hf
    |false=>
     rw[avc]at hf;have z:=h2 hf;have hi:i<l.length:=by omega
     have e:=cC (au9 i) g u;rw[auw,e];refine⟨⟨i+1,rfl,hi,λf=> ?_⟩,cI g⟩;obtain⟨⟨bl,A,a⟩,C⟩:=z;have a:y=(t.1,((l.take i).foldl bE t.2.1.1,bl,t.2.1.2.2),t.2.2.1,t.2.2.2.1,A,0,t.2.2.2.2.2.2):=a;have J:=Oy f;have j:=afh f;have ht:l.take (i+1)=l.take i++ [aa l i]:=by rw[cc l i hi];exact axc hi
     have m:y.1=t.1:=by rw[a]
     have L:y.2.1.1=(l.take i).foldl bE t.2.1.1:=by rw[a]
     refine⟨⟨(mn (y.1,y.2.1.2.1,y.2.1.1,aa l i,y.2.2.2.2.1)).1,(mn (y.1,y.2.1.2.1,y.2.1.1,aa l i,y.2.2.2.2.1)).2.2.1,?_⟩,λhm=> ?_⟩
     ·refine aww m (aww (aww (J.trans ?_) (aww rfl ?_)) (aww ?_ (aww ?_ (aww rfl (aww f ?_)))))
      ·rw[ht,axq,L];rfl
      ·show y.2.1.2.2=_;rw[a]
      ·show y.2.2.1=_;rw[a]
      ·show y.2.2.2.1=_;rw[a]
      ·show y.2.2.2.2.2.2=_;rw[a]
     ·rw[ht,axq]
      rw[m]at j;exact pz (C hm) ((uq s _).1 j.2).2
   ·simp only[g,awe,auw]
    have:i=l.length:=by omega
    rw[this,ayk]at h2;exact h2) (Nat.succ (jS (l,l.length) (0,t))) (0,t) ⟨0,rfl,awb _,λh=>⟨⟨_,_,by
     refine aww rfl (aww rfl (aww rfl (aww rfl (aww rfl (aww h rfl)))))⟩,λhm=>hm⟩⟩ (by unfold jS;simp)
 revert f
 unfold ed yV yO;simp only;revert w
 cases bd iJ (l,l.length) (Nat.succ (jS (l,l.length) (0,t))) (0,t)with
 |some r=>intro h;exact h
 |none=>intro h;exact h
structure RdE (x:au) (ct:List bg) (ld:List Int) (tk fa:Int):Prop where
 l1:ct.length=x.1.2.2.2.2.2.2.2.length
 l2:ld.length=x.1.2.2.2.2.2.2.2.length
 bA:x.2.2.2.1=true->fa=x.2.1.2.2.2.2.2.2.2.2.2.1/\ ∀j:Nat,j<x.1.2.2.2.2.2.2.2.length->aa ct (j:Int)=(kO (x.1.2.1,aa x.2.1.2.2.1 (j:Int),(aa x.2.2.1.2.2 (j:Int)).1)).1/\aa ld (j:Int)=ti (x.1,aa x.2.1.2.2.2.2.2.1 (j:Int),(aa x.2.2.1.2.2 (j:Int)).2.2.2)
 bad:x.2.2.2.1=false->fa=ib x.2.1.2.2.2.2.2.2.2.2.2.1/\ct=x.2.1.2.2.1/\ld=x.2.1.2.2.2.2.2.1
 tk:tk=ib x.2.1.2.2.2.2.2.2.2.2.1
theorem SU{x:au}(h:cD x): ∃ct ld tk s,(gd x).2=(x.1,(x.2.1.1,x.2.1.2.1,ct,x.2.1.2.2.2.1,x.2.1.2.2.2.2.1,ld,x.2.1.2.2.2.2.2.2.1,x.2.1.2.2.2.2.2.2.2.1,tk,s,x.2.1.2.2.2.2.2.2.2.2.2.2),x.2.2)/\RdE x ct ld tk s:=by
 unfold gd;cases hg:x.2.2.2.1 with
 |false=>
  exact⟨_,_,_,_,rfl,h.c1,h.c4,λh=>(by rw[hg]at h;cases h),λ_=>⟨rfl,rfl,rfl⟩,rfl⟩
 |true=>
  have g:=h.bf hg;have w:=h.n8;generalize a:x.1.2.2.2.2.2.2.2.length=n at*;have t:=iQ (step:=uK) (k:=(x.2.2.1.2.2,x.2.2.1.2.2.length)) (n:=n)
   (λi y=>y.1=i/\ ∃ct ld,y.2=(x.1,(x.2.1.1,x.2.1.2.1,ct,x.2.1.2.2.2.1,x.2.1.2.2.2.2.1,ld,x.2.1.2.2.2.2.2.2.1,x.2.1.2.2.2.2.2.2.2.1,ib x.2.1.2.2.2.2.2.2.2.2.1,x.2.1.2.2.2.2.2.2.2.2.2.1,x.2.1.2.2.2.2.2.2.2.2.2.2),x.2.2)/\ct.length=n/\ld.length=n/\
    ∀j:Nat,(i<=j->aa ct j=aa x.2.1.2.2.1 j/\aa ld j=aa x.2.1.2.2.2.2.2.1 j)/\(j<i->aa ct j=(kO (x.1.2.1,aa x.2.1.2.2.1 j,(aa x.2.2.1.2.2 j).1)).1/\aa ld j=ti (x.1,aa x.2.1.2.2.2.2.2.1 j,(aa x.2.2.1.2.2 j).2.2.2)))
   (λi y hi m=>by
    obtain⟨u,y⟩:=y;obtain⟨h0,ct,ld,h1,h2,h3,h4⟩:=m;subst h0 h1;unfold uK;have l:(i:Int)<x.2.2.1.2.2.length:=by rw[g];omega
    simp only[l,au3];refine⟨_,rfl,cC (au9 i) l (by rw[g];unfold maxLen;omega),_,_,rfl,(auz ..).trans h2,(auz ..).trans h3,λj=>⟨λf=> ?_,λf=> ?_⟩⟩
    ·have q:=(h4 j).1 (by omega)
     exact⟨(fR (by rw[h2];exact hi) (by omega)).trans q.1,(fR (by rw[h3];exact hi) (by omega)).trans q.2⟩
    ·by_cases o:j=i
     ·subst o
      have q:=(h4 j).1 (au7 _);refine⟨(jU (by rw[h2];exact hi)).trans ?_,(jU (by rw[h3];exact hi)).trans ?_⟩
      ·rw[q.1]
      ·rw[q.2]
     ·have q:=(h4 j).2 (by omega)
      exact⟨(fR (by rw[h2];exact hi) o).trans q.1,(fR (by rw[h3];exact hi) o).trans q.2⟩)
   (λy m=>by
    obtain⟨u,y⟩:=y;obtain⟨h0,_⟩:=m;subst h0;unfold uK;have l: ¬ ((n:Int)<x.2.2.1.2.2.length):=by rw[g];omega
    simp only[l,awe,auw]) (Nat.succ (Dd (x.2.2.1.2.2,x.2.2.1.2.2.length) (0,x.1,(x.2.1.1,x.2.1.2.1,x.2.1.2.2.1,x.2.1.2.2.2.1,x.2.1.2.2.2.2.1,x.2.1.2.2.2.2.2.1,x.2.1.2.2.2.2.2.2.1,x.2.1.2.2.2.2.2.2.2.1,ib x.2.1.2.2.2.2.2.2.2.2.1,x.2.1.2.2.2.2.2.2.2.2.2),x.2.2))) (0,x.1,(x.2.1.1,x.2.1.2.1,x.2.1.2.2.1,x.2.1.2.2.2.1,x.2.1.2.2.2.2.1,x.2.1.2.2.2.2.2.1,x.2.1.2.2.2.2.2.2.1,x.2.1.2.2.2.2.2.2.2.1,ib x.2.1.2.2.2.2.2.2.2.2.1,x.2.1.2.2.2.2.2.2.2.2.2),x.2.2) (by unfold Dd;simp[g]) ⟨rfl,_,_,rfl,h.c1.trans a,h.c4.trans a,λj=>⟨λ_=>⟨rfl,rfl⟩,λf=>absurd f (by omega)⟩⟩
  obtain⟨⟨_,ct,ld,h1,h2,h3,h4⟩,_⟩:=t;exact⟨ct,ld,_,_,h1,h2.trans a.symm,h3.trans a.symm,λ_=>⟨rfl,λj f=>(h4 j).2 (a▸f)⟩,λhb=>(by rw[hg]at hb;cases hb),rfl⟩
theorem Ri{x:au}(h:en x):en (gd x).2:=by
 obtain⟨ct,ld,tk,f,a,hr⟩:=SU h.tocD;rw[a];refine⟨⟨h.n8,?_,hr.l1,h.c2,h.c3,hr.l2,h.c5,h.c6,h.c7,h.c8,h.p1,h.p2,h.p3,h.ph,h.bf,h.cmd,h.iU⟩,h.ba,h.exp,h.lit⟩;cases hg:x.2.2.2.1 with
 |false=>show∀d∈ct,jh d.1;rw[(hr.bad hg).2.1];exact h.cf
 |true=>
  refine kz.2 λi hi=> ?_
  have hi:i<ct.length:=hi;rw[hr.l1]at hi;show jh (aa ct (i:Int)).1;rw[((hr.bA hg).2 i hi).1];exact Io (kz.1 h.cf i (by rw[h.c1];exact hi)) _
def qH(x:au)(j:Int):bT:=bif !x.2.2.2.1 then(Aj (x.1,j,aa x.2.1.2.2.2.1 j)).1 else(Ac (x.1,j,aa x.2.1.2.2.2.1 j,lQ (x.1.1,(aa x.2.1.2.2.1 j).1))).1
def nP(x:au)(j:Int):af:=bif !x.2.2.2.1 then aa x.2.2.2.2.2.2.2.1 j else kP (x.1.1,lQ (x.1.1,(aa x.2.1.2.2.1 j).1))
def oI(x:au)(aA:List bT)(dN:List Bool)(a:List (af)):au:=
 (x.1,(x.2.1.1,x.2.1.2.1,x.2.1.2.2.1,aA,x.2.1.2.2.2.2),x.2.2.1,x.2.2.2.1,x.2.2.2.2.1,x.2.2.2.2.2.1,dN,a,x.2.2.2.2.2.2.2.2)
structure wE (x:au) (fl:List aT) (aA:List bT) (dN:List Bool) (sh:List (af)) (i:Nat):Prop where
 l1:aA.length=x.1.2.2.2.2.2.2.2.length
 l2:dN.length=x.1.2.2.2.2.2.2.2.length
 l3:sh.length=x.1.2.2.2.2.2.2.2.length
 tz: ∀r∈fl,∃j:Nat,j<x.1.2.2.2.2.2.2.2.length/\r=(5,0,0,(j:Int),1)
 fn:fl.length<=i
 aN: ∀j:Nat,i<=j->aa aA (j:Int)=aa x.2.1.2.2.2.1 (j:Int)/\aa sh (j:Int)=aa x.2.2.2.2.2.2.2.1 (j:Int)
 new: ∀j:Nat,j<i->aa aA (j:Int)=qH x j/\aa sh (j:Int)=nP x j/\aa dN (j:Int)=true
theorem wE.step{x:au}{fl:List aT}{aA:List bT}{dN:List Bool}{a:List (af)}{i:Nat}(h:wE x fl aA dN a i)(hi:i<x.1.2.2.2.2.2.2.2.length){k:List aT}(l:k=fl\/k=fl++ [(5,0,0,(i:Int),1)]){v:bT}(s:v=qH x i)
  {f:List (af)} (hs:f=bif !x.2.2.2.1 then a else a.set ((i:Int)).toNat (nP x i)):
  wE x k (aA.set ((i:Int)).toNat v) (dN.set ((i:Int)).toNat true) f (i+1):=by
 subst s;have hb:i<aA.length:=by rw[h.l1];exact hi
 have hl:i<dN.length:=by rw[h.l2];exact hi
 have t:i<a.length:=by rw[h.l3];exact hi
 have m: ∀j:Nat,j≠i->aa f (j:Int)=aa a (j:Int):=λj o=>by
  grind [fR]
 have u:aa f (i:Int)=nP x i:=by
  rw[hs];cases hg:(!x.2.2.2.1)with
  |true=>unfold nP;rw[hg,au3,au3];exact(h.aN i (au7 _)).2
  |false=>exact jU t
 refine⟨(auz ..).trans h.l1,(auz ..).trans h.l2,?_,?_,?_,λj o=> ?_,λj o=> ?_⟩
 ·rw[hs]
  cases(!x.2.2.2.1)with
  |true=>exact h.l3
  |false=>exact(auz ..).trans h.l3
 ·rcases l with rfl|rfl
  ·exact h.tz
  ·intro r hr
   rcases List.mem_append.1 hr with h1|h1
   ·exact h.tz r h1
   ·exact⟨i,hi,List.mem_singleton.1 h1⟩
 ·rcases l with rfl|rfl
  ·exact az7 h.fn
  ·rw[au5];exact Nat.succ_le_succ h.fn
 ·have q:=h.aN j (by omega)
  exact⟨(fR hb (by omega)).trans q.1,(m j (by omega)).trans q.2⟩
 ·by_cases g:j=i
  ·subst g
   exact⟨jU hb,u,jU hl⟩
  ·have q:=h.new j (by omega)
   exact⟨(fR hb g).trans q.1,(m j g).trans q.2.1,(fR hl g).trans q.2.2⟩
theorem OY{x:au}(h:cD x): ∃fl aA dN a,DQ (x.2.1.1.1,(x.2.1.1.1.length:Int)) ([],(0:Int),x)=(fl,(x.1.2.2.2.2.2.2.2.length:Int),oI x aA dN a)/\wE x fl aA dN a x.1.2.2.2.2.2.2.2.length:=by
 have m:=h.p1;have u:=h.n8;unfold DQ;have o:=iQ (step:=uy) (k:=(x.2.1.1.1,(x.2.1.1.1.length:Int))) (n:=x.1.2.2.2.2.2.2.2.length)
  (λi y=> ∃fl aA dN a,y=(fl,(i:Int),oI x aA dN a)/\wE x fl aA dN a i)
  (λi y hi l=>by
   obtain⟨fl,aA,dN,a,rfl,g⟩:=l;have f:(i:Int)<(x.2.1.1.1.length:Int):=by omega
   have hw:gB (aa x.2.1.1.1 (i:Int))=true:=by
    rw[(gI h.ph ⟨au9 i,f⟩:aa x.2.1.1.1 (i:Int)=0)];rfl
   have e:=cC (au9 i) f (by grind [maxLen]);unfold uy;simp only[f,avz,au3,hw,e];have s:oQ ((i:Int),oI x aA dN a)=((),oI x (aA.set ((i:Int)).toNat (qH x i)) (dN.set ((i:Int)).toNat true) (bif !x.2.2.2.1 then a else a.set ((i:Int)).toNat (nP x i))):=by
    unfold oQ qH nP oI;rw[<- (g.aN i (au7 _)).1];cases x.2.2.2.1<;>rfl
   rw[s];cases(aa (oI x (aA.set ((i:Int)).toNat (qH x i)) (dN.set ((i:Int)).toNat true) (bif !x.2.2.2.1 then a else a.set ((i:Int)).toNat (nP x i))).2.1.2.2.2.1 (i:Int)).2.2.2.2.2&& !aa (oI x (aA.set ((i:Int)).toNat (qH x i)) (dN.set ((i:Int)).toNat true) (bif !x.2.2.2.1 then a else a.set ((i:Int)).toNat (nP x i))).2.1.1.2.1 (i:Int)with
   |true=>exact⟨_,rfl,_,_,_,_,rfl,g.step hi (.inr rfl) rfl rfl⟩
   |false=>exact⟨_,rfl,_,_,_,_,rfl,g.step hi (.inl rfl) rfl rfl⟩)
  (λy l=>by
   obtain⟨fl,aA,dN,a,rfl,g⟩:=l;unfold uy;have f: ¬ ((x.1.2.2.2.2.2.2.2.length:Int)<(x.2.1.1.1.length:Int)):=by rw[m];omega
   simp only[f,awe,auw]) (Nat.succ (C0 (x.2.1.1.1,(x.2.1.1.1.length:Int)) ([],(0:Int),x))) ([],(0:Int),x) (by unfold C0;simp[m])
   ⟨[],_,_,_,rfl,h.c2,h.c5,h.c6,λr hr=>(by cases hr),awb _,λj _=>⟨rfl,rfl⟩,λj t=>absurd t (by omega)⟩
 exact o.1
theorem H8: ∀{l:List aT} {m:aq},(∀r∈l,r.1=5)-> ∃f,l.foldl bE m=(m.1,f,m.2.2)/\f.length=m.2.1.length
 | [],m,_=>⟨_,rfl,rfl⟩
 |r::l,m,h=>by
  have h1:bE m r=(m.1,aH aw m.2.1 r.2.2.2.1 (r.2.2.2.2==1),m.2.2):=Bd (h r List.mem_cons_self);obtain⟨f,h2,h3⟩:=H8 (m:=bE m r) λa hr=>h a (awg _ hr)
  refine⟨f,?_,h3.trans ?_⟩
  ·simp_all
  ·rw[h1];exact auz ..
theorem RV{x:au}(h:cD x)(i:(fA x).2.2.2.2.2.2.1=0): ∃fl aA dN a g bl k,wE x fl aA dN a x.1.2.2.2.2.2.2.2.length/\g.length=x.2.1.1.2.1.length/\fl.foldl bE x.2.1.1=(x.2.1.1.1,g,x.2.1.1.2.2)/\
  (fA x).2=(x.1,((x.2.1.1.1,g,x.2.1.1.2.2),bl,x.2.1.2.2.1,aA,x.2.1.2.2.2.2),x.2.2.1,x.2.2.2.1,k,0,dN,a,x.2.2.2.2.2.2.2.2)/\(bk x.1 x.2.1.1->bk x.1 (x.2.1.1.1,g,x.2.1.1.2.2)):=by
 obtain⟨fl,aA,dN,a,s,o⟩:=OY h;unfold fA at i⊢;rw[s]at i⊢;have u:fl.length<=maxLen:=auv o.fn (auv h.n8 (by decide));obtain⟨⟨bl,k,hw⟩,hi⟩:=HJ (t:=oI x aA dN a) (auv h.n8 (by decide)) u i;obtain⟨f,h1,h2⟩:=H8 (l:=fl) (m:=x.2.1.1) λr hr=>by obtain⟨j,_,rfl⟩:=o.tz r hr;rfl
 refine⟨fl,aA,dN,a,f,bl,k,o,h2,h1,?_,λhm=> ?_⟩
 ·rw[hw,<- h1];rfl
 ·rw[<- h1];exact hi hm
theorem U6{m a:aq}{e:List Int}(h:a.2.2.2.length=m.2.2.2.length):kh (a,e)=kh (m,e):=by
 simp_all [kh]
theorem Q8{x:au}(h:en x)(f:(fA x).2.2.2.2.2.2.1=0):en (fA x).2:=by
 obtain⟨fl,aA,dN,i,j,bl,k,a,h2,h1,g,hi⟩:=RV h.tocD f;rw[g];exact⟨⟨h.n8,h.cf,h.c1,a.l1,h.c3,h.c4,a.l2,a.l3,h.c7,h.c8,h.p1,h2.trans h.p2,h.p3,h.ph,h.bf,h.cmd,h.iU⟩,hi h.ba,(U6 rfl).trans h.exp,h.lit⟩
theorem afz(t:au):ed ([],t)=((),t):=by
 rfl
def tF(x:au)(e:Int)(j:Int):Bool:=((e==0)&&(x.2.2.1.2.1.1==8))&&(x.2.2.1.2.1.2==j)
def E2:iA:=((0,0),(0,0,0,false,0),(0,0,0),0,0,0,false)
def Gk(x:au)(aA:List bT)(aK:List iA)(a:List Bool):au:=
 (x.1,(x.2.1.1,x.2.1.2.1,x.2.1.2.2.1,aA,aK,x.2.1.2.2.2.2.2),x.2.2.1,x.2.2.2.1,x.2.2.2.2.1,x.2.2.2.2.2.1,x.2.2.2.2.2.2.1,x.2.2.2.2.2.2.2.1,a,x.2.2.2.2.2.2.2.2.2)
structure Gp (x:au) (e:Int) (aA:List bT) (aK:List iA) (rst:List Bool) (i:Nat):Prop where
 l1:aA.length=x.1.2.2.2.2.2.2.2.length
 l2:aK.length=x.1.2.2.2.2.2.2.2.length
 l3:rst.length=x.1.2.2.2.2.2.2.2.length
 aN: ∀j:Nat,i<=j->aa aA (j:Int)=aa x.2.1.2.2.2.1 (j:Int)/\aa aK (j:Int)=aa x.2.1.2.2.2.2.1 (j:Int)/\aa rst (j:Int)=aa x.2.2.2.2.2.2.2.2.1 (j:Int)
 new: ∀j:Nat,j<i->aa aA (j:Int)=(bif tF x e j then(wo (x.1,(j:Int),aa x.2.1.2.2.2.1 (j:Int))).1 else aa x.2.1.2.2.2.1 (j:Int))/\aa aK (j:Int)=(bif tF x e j then E2 else aa x.2.1.2.2.2.2.1 (j:Int))/\aa rst (j:Int)=(bif tF x e j then true else aa x.2.2.2.2.2.2.2.2.1 (j:Int))
theorem ajS{x:au}{e:Int}{m0:aq}(h:cD x)(h0:m0.1=x.2.1.1.1): ∃aA aK f,C4 (e,x.2.1.1.1,x.2.1.1.1.length,m0,x.2.2.1.2.1) (0,x)=((x.1.2.2.2.2.2.2.2.length:Int),Gk x aA aK f)/\Gp x e aA aK f x.1.2.2.2.2.2.2.2.length:=by
 have o:=h.p1;have J:=h.n8;have z:=iQ (step:=uf) (k:=(e,x.2.1.1.1,x.2.1.1.1.length,m0,x.2.2.1.2.1)) (n:=x.1.2.2.2.2.2.2.2.length)
  (λi y=> ∃aA aK f,y=((i:Int),Gk x aA aK f)/\Gp x e aA aK f i)
  (λi y hi s=>by
   obtain⟨aA,aK,f,rfl,a⟩:=s;have l:(i:Int)<x.2.1.1.1.length:=by rw[o];omega
   have A:=gI h.ph ⟨au9 i,l⟩;have C:FN (aa m0.1 i,aa x.2.1.1.1 i)=true:=by rw[h0,A];rfl
   have I:=cC (au9 i) l (by rw[o];unfold maxLen;omega);have b1:i<aA.length:=by rw[a.l1];exact hi
   have t:i<aK.length:=by rw[a.l2];exact hi
   have u:i<f.length:=by rw[a.l3];exact hi
   have q:=a.aN i (au7 _);unfold uf;simp only[l,avz,au3,C,awa,auw,I];cases hr:((e==0)&&(x.2.2.1.2.1.1==8))&&(x.2.2.1.2.1.2==i)with
   |true=>
    refine⟨_,rfl,aA.set ((i:Int)).toNat (wo (x.1,i,aa aA i)).1,aK.set ((i:Int)).toNat E2,f.set ((i:Int)).toNat true,rfl,(auz ..).trans a.l1,(auz ..).trans a.l2,(auz ..).trans a.l3,λj m=> ?_,λj m=> ?_⟩
    ·have p:=a.aN j (by omega)
     exact⟨(fR b1 (by omega)).trans p.1,(fR t (by omega)).trans p.2.1,(fR u (by omega)).trans p.2.2⟩
    ·by_cases g:j=i
     ·subst g
      have w:tF x e j=true:=hr;rw[w,au3,au3,au3,<- q.1];exact⟨jU b1,jU t,jU u⟩
     ·have p:=a.new j (by omega)
      exact⟨(fR b1 g).trans p.1,(fR t g).trans p.2.1,(fR u g).trans p.2.2⟩
   |false=>
    refine⟨_,rfl,aA,aK,f,rfl,a.l1,a.l2,a.l3,λj m=>a.aN j (by omega),λj m=> ?_⟩;by_cases g:j=i
    ·subst g
     have w:tF x e j=false:=hr;rw[w,auw,auw,auw];exact q
    ·exact a.new j (by omega))
  (λy s=>by
   obtain⟨aA,aK,f,rfl,a⟩:=s;unfold uf;have l: ¬ (x.1.2.2.2.2.2.2.2.length<(x.2.1.1.1.length:Int)):=by rw[o];omega
   simp only[l,awe,auw]) (Nat.succ (B7 (e,x.2.1.1.1,x.2.1.1.1.length,m0,x.2.2.1.2.1) (0,x))) (0,x) (by unfold B7;simp[o])
   ⟨_,_,_,rfl,h.c2,h.c3,h.c7,λj _=>⟨rfl,rfl,rfl⟩,λj m=>absurd m (by omega)⟩
 exact z.1
def ml(x:au)(a:List Bool)(bl:dr)(f st:Int):au:=
 (x.1,((x.2.1.1.1,a,x.2.1.1.2.2),bl,x.2.1.2.2),x.2.2.1,x.2.2.2.1,f,0,x.2.2.2.2.2.2.1,x.2.2.2.2.2.2.2.1,x.2.2.2.2.2.2.2.2.1,x.2.2.2.2.2.2.2.2.2.1,x.2.2.2.2.2.2.2.2.2.2.1,x.2.2.2.2.2.2.2.2.2.2.2.1,x.2.2.2.2.2.2.2.2.2.2.2.2.1,st,x.2.2.2.2.2.2.2.2.2.2.2.2.2.2)
theorem OZ{x:au}(h:cD x)(y:x.2.2.2.1=true)(i:(fm x).2.2.2.2.2.2.1=0): ∃g a bl f st aA aK k,a.length=x.2.1.1.2.1.length/\(g= []\/g= [(5,0,0,x.2.2.1.2.1.2,0)])/\g.foldl bE x.2.1.1=(x.2.1.1.1,a,x.2.1.1.2.2)/\st=(iz (x.1,x.2.1.1,x.2.2.1.2.1,(iy x).1)).2/\Gp (ml x a bl f st) st aA aK k x.1.2.2.2.2.2.2.2.length/\
  (ig x).2=Gk (ml x a bl f st) aA aK k/\(bk x.1 x.2.1.1->bk x.1 (x.2.1.1.1,a,x.2.1.1.2.2))/\(fm x).2=ml x a bl f st:=by
 have z:=h.cmd y;have s:=G9 (b:=x.1) (m:=x.2.1.1) (c:=x.2.2.1.2.1) (l:=(iy x).1) z;generalize u:(iz (x.1,x.2.1.1,x.2.2.1.2.1,(iy x).1)).2=st at*;generalize A:(iz (x.1,x.2.1.1,x.2.2.1.2.1,(iy x).1)).1=g at*;have C: ∀r∈g,r.1=5:=by
  grind
 have I:g.length<=maxLen:=by
  rcases s with rfl|rfl
  ·exact awb _
  ·exact(by decide:1<=maxLen)
 obtain⟨a,h1,h2⟩:=H8 (m:=x.2.1.1) C;have key:(fm x).2.2.2.2.2.2.1=0-> ∃bl f,(fm x).2=ml x a bl f st/\(bk x.1 x.2.1.1->bk x.1 (x.2.1.1.1,a,x.2.1.1.2.2)):=λj=>by
  unfold fm at j⊢;rw[u,A]at j⊢;obtain⟨⟨bl,f,hw⟩,hi⟩:=HJ (t:=(x.1,x.2.1,x.2.2.1,x.2.2.2.1,x.2.2.2.2.1,x.2.2.2.2.2.1,x.2.2.2.2.2.2.1,x.2.2.2.2.2.2.2.1,x.2.2.2.2.2.2.2.2.1,x.2.2.2.2.2.2.2.2.2.1,x.2.2.2.2.2.2.2.2.2.2.1,x.2.2.2.2.2.2.2.2.2.2.2.1,x.2.2.2.2.2.2.2.2.2.2.2.2.1,st,x.2.2.2.2.2.2.2.2.2.2.2.2.2.2)) (auv h.n8 (by decide)) I j;refine⟨bl,f,?_,λhm=> ?_⟩
  ·rw[hw];unfold ml;rw[<- h1]
  ·rw[<- h1];exact hi hm
 have w: ∀(c:List Bool),(fm x).2.2.2.2.2.2.1=0->ed (lE ((fm x).2.1,(fm x).2.2.1.1,c),(fm x).2)=((),(fm x).2):=λc j=>by
  obtain⟨bl,f,o,_⟩:=key j;have:lE ((fm x).2.1,(fm x).2.2.1.1,c)= []:=by
   rw[o];exact Qd h.ph h.n0
  rw[this];exact afz _
 obtain⟨bl,f,o,hi⟩:=key i;have J:cD (ml x a bl f st):=⟨h.n8,h.cf,h.c1,h.c2,h.c3,h.c4,h.c5,h.c6,h.c7,h.c8,h.p1,h2.trans h.p2,h.p3,h.ph,h.bf,h.cmd,h.iU⟩;obtain⟨aA,aK,k,L,M⟩:=ajS (x:=ml x a bl f st) (e:=st) (m0:=x.2.1.1) J rfl;refine⟨g,a,bl,f,st,aA,aK,k,h2,s,h1,rfl,M,?_,hi,o⟩;unfold ig Va Us;rw[w _ i,w _ i,u,show((fm x).2.2.2.2.2.2.1==(0:Int))=true by rw[i];rfl,show((fm x).2.2.2.2.2.2.1 !=(0:Int))=false by rw[i];rfl];simp only[au3,auw];rw[o];have N:=av7 Prod.snd L;cases(x.2.2.1.2.1.1 !=(0:Int))<;>exact N
theorem OU{x:au}(h:cD x)(j:x.2.2.2.1=true)(k:(ig x).2.2.2.2.2.2.1=0): ∃f a bl g st aA aK i,a.length=x.2.1.1.2.1.length/\(f= []\/f= [(5,0,0,x.2.2.1.2.1.2,0)])/\f.foldl bE x.2.1.1=(x.2.1.1.1,a,x.2.1.1.2.2)/\st=(iz (x.1,x.2.1.1,x.2.2.1.2.1,(iy x).1)).2/\Gp (ml x a bl g st) st aA aK i x.1.2.2.2.2.2.2.2.length/\
  (ig x).2=Gk (ml x a bl g st) aA aK i/\(bk x.1 x.2.1.1->bk x.1 (x.2.1.1.1,a,x.2.1.1.2.2)):=by
 have l:(fm x).2.2.2.2.2.2.1=0:=by
  revert k
  unfold ig;cases hq:((fm x).2.2.2.2.2.2.1==0)with
  |true=>simp_all
  |false=>
   have m:((fm x).2.2.2.2.2.2.1 !=0)=true:=by simp_all
   simp only[auw,m,au3];simp_all
 obtain⟨f,a,bl,g,st,aA,aK,i,o,s,t,u,w,y,z,_⟩:=OZ h j l;exact⟨f,a,bl,g,st,aA,aK,i,o,s,t,u,w,y,z⟩
theorem VC{x:au}(h:en x)(a:(ij x).2.2.2.2.2.2.1=0):en (ij x).2:=by
 unfold ij at a⊢;cases hg:x.2.2.2.1 with
 |false=>exact h
 |true=>
  rw[hg,au3]at a;obtain⟨f,g,bl,i,st,aA,aK,j,h1,h2,h3,h4,h5,h6,h7⟩:=OU h.tocD hg a;rw[h6];exact⟨⟨h.n8,h.cf,h.c1,h5.l1,h5.l2,h.c4,h.c5,h.c6,h5.l3,h.c8,h.p1,h1.trans h.p2,h.p3,h.ph,h.bf,h.cmd,h.iU⟩,h7 h.ba,(U6 rfl).trans h.exp,h.lit⟩
def gz(s:af)(r:aT):af:=bif r.1==2 then gi (s,ia (r.2.1,r.2.2.1))else s
def AG(t:au)(s:af):au:=(t.1,t.2.1,t.2.2.1,t.2.2.2.1,t.2.2.2.2.1,t.2.2.2.2.2.1,t.2.2.2.2.2.2.1,t.2.2.2.2.2.2.2.1,t.2.2.2.2.2.2.2.2.1,t.2.2.2.2.2.2.2.2.2.1,s,t.2.2.2.2.2.2.2.2.2.2.2)
abbrev jj:=((af)×Bool)×(af)×Bool×Int×iu
def FG(t:au)(c:List jj):au:=(t.1,t.2.1,t.2.2.1,t.2.2.2.1,t.2.2.2.2.1,t.2.2.2.2.2.1,t.2.2.2.2.2.2.1,t.2.2.2.2.2.2.2.1,t.2.2.2.2.2.2.2.2.1,t.2.2.2.2.2.2.2.2.2.1,t.2.2.2.2.2.2.2.2.2.2.1,t.2.2.2.2.2.2.2.2.2.2.2.1,t.2.2.2.2.2.2.2.2.2.2.2.2.1,t.2.2.2.2.2.2.2.2.2.2.2.2.2.1,c)
theorem atS{l:List aT}{t:au}(hl:l.length<=maxLen):qh (l,(l.length:Int)) ((0:Int),t)=((l.length:Int),AG t (l.foldl gz t.2.2.2.2.2.2.2.2.2.2.1)):=by
 unfold qh;have g:=iQ (step:=ng) (k:=(l,(l.length:Int))) (n:=l.length) (λi y=>y=((i:Int),AG t ((l.take i).foldl gz t.2.2.2.2.2.2.2.2.2.2.1)))
  (λi y hi a=>by
   subst a;have f:(i:Int)<(l.length:Int):=by omega
   have h:=cC (au9 i) f hl;have ht:l.take (i+1)=l.take i++ [aa l (i:Int)]:=by rw[cc l i hi];exact axc hi
   unfold ng;simp only[f,avz,au3,h];cases hk:((aa l (i:Int)).1==(2:Int))with
   |true=>
    refine⟨_,rfl,?_⟩;rw[ht,axq,awd,List.foldl_nil,gz,hk,au3];rfl
   |false=>
    refine⟨_,rfl,?_⟩;rw[ht,axq,awd,List.foldl_nil,gz,hk,auw];rfl)
  (λy a=>by
   subst a;unfold ng;simp only[aBg,awe,auw]) (Nat.succ (Dl (l,(l.length:Int)) ((0:Int),t))) ((0:Int),t) (by unfold Dl;simp) rfl
 rw[g.1,ayk]
structure AV (n:Nat) (oc:List jj) (lit:List (af)) (gong:List Bool) (c:List jj) (i:Nat):Prop where
 len:c.length=n
 aN: ∀j:Nat,i<=j->aa c (j:Int)=aa oc (j:Int)
 new: ∀j:Nat,j<i->aa c (j:Int)=((aa oc (j:Int)).1,aa lit (j:Int),aa gong (j:Int),(aa oc (j:Int)).2.2.2)
theorem anx{r:List aT×aq×List Int×(List (af)×List Bool×af)×af}{t:au}{n:Nat}(m:t.2.2.2.2.2.2.2.2.2.2.2.2.2.2.length=n)(hl:n<=8): ∃c,yk (t.2.2.2.2.2.2.2.2.2.2.2.2.2.2.length,r) (0,t)=((n:Int),FG t c)/\AV n t.2.2.2.2.2.2.2.2.2.2.2.2.2.2 r.2.2.2.1.1 r.2.2.2.1.2.1 c n:=by
 have o:=iQ (step:=tY) (k:=(t.2.2.2.2.2.2.2.2.2.2.2.2.2.2.length,r)) (n:=n) (λi y=> ∃c,y=((i:Int),FG t c)/\AV n t.2.2.2.2.2.2.2.2.2.2.2.2.2.2 r.2.2.2.1.1 r.2.2.2.1.2.1 c i)
  (λi y hi g=>by
   obtain⟨c,rfl,a⟩:=g;have f:(i:Int)<t.2.2.2.2.2.2.2.2.2.2.2.2.2.2.length:=by omega
   have s:=cC (au9 i) f (by unfold maxLen;omega);have b1:i<c.length:=by rw[a.len];exact hi
   unfold tY;simp only[f,s];refine⟨_,rfl,(c.set ((i:Int)).toNat _).set ((i:Int)).toNat _,rfl,(auz ..).trans ((auz ..).trans a.len),λj h=> ?_,λj h=> ?_⟩
   ·exact(fR (by rw[auz];exact b1) (by omega)).trans ((fR b1 (by omega)).trans (a.aN j (by omega)))
   ·by_cases l:j=i
    ·subst l
     refine(jU (by rw[auz];exact b1)).trans ?_;have e:=jU (v:=((aa c j).1,aa r.2.2.2.1.1 j,(aa c j).2.2)) b1;rw[<- a.aN j (au7 _)];have u:=av7 (λz:jj=>z.1) e;have w:=av7 (λz:jj=>z.2.1) e;have x:=av7 (λz:jj=>z.2.2.2) e;exact aww u (aww w (aww rfl x))
    ·exact(fR (by rw[auz];exact b1) l).trans ((fR b1 l).trans (a.new j (by omega))))
  (λy g=>by
   obtain⟨c,rfl,a⟩:=g;unfold tY;have f: ¬ ((n:Int)<t.2.2.2.2.2.2.2.2.2.2.2.2.2.2.length):=by omega
   simp only[f,awe,auw]) (Nat.succ (BU (t.2.2.2.2.2.2.2.2.2.2.2.2.2.2.length,r) (0,t))) (0,t) (by unfold BU;simp[m]) ⟨_,rfl,m,λj _=>rfl,λj h=>absurd h (by omega)⟩
 exact o.1
theorem BQ: ∀(l:List aT) (x:bY),(l.foldl cF x).1.2.1=l.foldl bE x.1.2.1
 | [],_=>rfl
 |r::l,x=>by rw[awd,awd,BQ l];rfl
theorem P9(m:bY)(e:aC){i:aq}(h:m.1.2.1=m.1.1.foldl bE i):(eg m e).1.2.1=(eg m e).1.1.foldl bE i:=by
 unfold eg;cases gS (m.2,m.1.2.1)with
 |true=>show bE m.1.2.1 _=(m.1.1++ [_]).foldl bE i;simp_all
 |false=>exact h
theorem Hq{i:aq}: ∀(l:List aC) (m:bY),m.1.2.1=m.1.1.foldl bE i->(l.foldl eg m).1.2.1=(l.foldl eg m).1.1.foldl bE i
 | [],_,h=>h
 |e::l,m,h=>Hq l _ (P9 m e h)
theorem Hj{i:aq}(l:List aT)(x:bY)(h:x.1.2.1=x.1.1.foldl bE i):(l.foldl cF x).1.2.1=(l.foldl cF x).1.1.foldl bE i:=by
 rw[BQ,ku,axq,h]
theorem O9(b:ae)(m:aq)(e:List Int)(v:List aX)(l:List bw)(press:bw)(bA:Bool):(fI b m e v l press bA).1.2.1=(fI b m e v l press bA).1.1.foldl bE m:=by
 refine Hj _ _ ?_;unfold cG;cases bA with
 |false=>rfl
 |true=>grind [Hq,Hj]
abbrev qT:=List aT×aq×List Int×(List (af)×List Bool×af)×af
def mI(r:qT):Bool:= !((r.2.2.2.2.1==0)&&(r.2.2.2.2.2==0))
def qn(r:qT)(w:au):au:=
 (w.1,(w.2.1.1,w.2.1.2.1,w.2.1.2.2.1,w.2.1.2.2.2.1,w.2.1.2.2.2.2.1,w.2.1.2.2.2.2.2.1,r.2.2.1,r.2.2.2.1.1,w.2.1.2.2.2.2.2.2.2.2.1,w.2.1.2.2.2.2.2.2.2.2.2.1,bif mI r then ib w.2.1.2.2.2.2.2.2.2.2.2.2 else w.2.1.2.2.2.2.2.2.2.2.2.2),w.2.2.1,w.2.2.2.1,w.2.2.2.2.1,w.2.2.2.2.2.1,w.2.2.2.2.2.2.1,w.2.2.2.2.2.2.2.1,w.2.2.2.2.2.2.2.2.1,w.2.2.2.2.2.2.2.2.2.1,w.2.2.2.2.2.2.2.2.2.2.1,w.2.2.2.2.2.2.2.2.2.2.2.1,!((r.2.2.2.2.1==0)&&(r.2.2.2.2.2==0)),w.2.2.2.2.2.2.2.2.2.2.2.2.2)
theorem PR{x:au}{r:qT}(hr:lG (x.1,x.2.1.1,x.2.1.2.2.2.2.2.2.1,(eN x).1,x.2.1.2.2.2.2.2.2.2.1,x.2.2.1.1,x.2.2.2.1)=(r,0)):
  (iS x).2=(yk (((qh (r.1,r.1.length) (0,qn r (ed (r.1,x)).2)).2.2.2.2.2.2.2.2.2.2.2.2.2.2.2.length:Int),r) (0,(qh (r.1,r.1.length) (0,qn r (ed (r.1,x)).2)).2)).2:=by
 unfold iS vk vv;rw[hr];show(bif mI r then _ else _:Unit×au).2=_;unfold qn;cases mI r<;>rfl
theorem Ro{r:qT}{w:au}{n:Nat}(f:r.1.length<=maxLen)(g:w.2.2.2.2.2.2.2.2.2.2.2.2.2.2.length=n)(h:n<=8): ∃a,(yk (((qh (r.1,r.1.length) (0,qn r w)).2.2.2.2.2.2.2.2.2.2.2.2.2.2.2.length:Int),r) (0,(qh (r.1,r.1.length) (0,qn r w)).2)).2=FG (AG (qn r w) (r.1.foldl gz w.2.2.2.2.2.2.2.2.2.2.1)) a/\AV n w.2.2.2.2.2.2.2.2.2.2.2.2.2.2 r.2.2.2.1.1 r.2.2.2.1.2.1 a n:=by
 rw[atS f];obtain⟨a,h1,h2⟩:=anx (t:=AG (qn r w) (r.1.foldl gz w.2.2.2.2.2.2.2.2.2.2.1)) g h;exact⟨a,av7 Prod.snd h1,h2⟩
def AO(x:au)(r:qT)(bl:dr)(a:Int)(f:List jj):au:=
 (x.1,(r.2.1,bl,x.2.1.2.2.1,x.2.1.2.2.2.1,x.2.1.2.2.2.2.1,x.2.1.2.2.2.2.2.1,r.2.2.1,r.2.2.2.1.1,x.2.1.2.2.2.2.2.2.2.2.1,x.2.1.2.2.2.2.2.2.2.2.2.1,bif mI r then ib x.2.1.2.2.2.2.2.2.2.2.2.2 else x.2.1.2.2.2.2.2.2.2.2.2.2),x.2.2.1,x.2.2.2.1,a,0,x.2.2.2.2.2.2.1,x.2.2.2.2.2.2.2.1,x.2.2.2.2.2.2.2.2.1,x.2.2.2.2.2.2.2.2.2.1,r.1.foldl gz x.2.2.2.2.2.2.2.2.2.2.1,x.2.2.2.2.2.2.2.2.2.2.2.1,mI r,x.2.2.2.2.2.2.2.2.2.2.2.2.2.1,f)
theorem ajJ{x w:au}{r:qT}{bl:dr}{a:Int}{f:List jj}(hw:w=(x.1,(r.1.foldl bE x.2.1.1,bl,x.2.1.2.2),x.2.2.1,x.2.2.2.1,a,0,x.2.2.2.2.2.2))(hi:r.2.1=r.1.foldl bE x.2.1.1):FG (AG (qn r w) (r.1.foldl gz w.2.2.2.2.2.2.2.2.2.2.1)) f=AO x r bl a f:=by
 subst hw;unfold AO;rw[hi];rfl
theorem amc{x:au}{r:qT}(h:en x)(o:r.1.length<=maxLen)(hi:r.2.1=r.1.foldl bE x.2.1.1)(hr:lG (x.1,x.2.1.1,x.2.1.2.2.2.2.2.2.1,(eN x).1,x.2.1.2.2.2.2.2.2.2.1,x.2.2.1.1,x.2.2.2.1)=(r,0))(l:(iS x).2.2.2.2.2.2.1=0):
  ∃bl f a,(iS x).2=AO x r bl f a/\AV x.1.2.2.2.2.2.2.2.length x.2.2.2.2.2.2.2.2.2.2.2.2.2.2 r.2.2.2.1.1 r.2.2.2.1.2.1 a x.1.2.2.2.2.2.2.2.length/\bk x.1 r.2.1:=by
 have g:=PR hr;have u:x.1.2.2.2.2.2.2.2.length<=maxLen:=auv h.n8 (by decide);have i:=(av7 List.length (xl r.1 x)).trans h.c8;have j: ∀w:au,w=(ed (r.1,x)).2->(w.2.2.2.2.2.1=0->A1 r.1 x w):=λw hw l=>by simp_all [HJ]
 have k:=xl r.1 x;revert g i j k
 generalize(ed (r.1,x)).2=w;intro g i j k;obtain⟨a,h1,h2⟩:=Ro o i h.n8;have m:=g.trans h1;have s:=(av7 (λt:au=>t.2.2.2.2.2.1) m).symm.trans l;obtain⟨⟨bl,f,hw⟩,hm⟩:=j w rfl s;refine⟨bl,f,a,m.trans (ajJ hw hi),k▸h2,?_⟩;rw[hi];exact hm h.ba
def gV(x:au):bY:=fI x.1 x.2.1.1 x.2.1.2.2.2.2.2.2.1 (eN x).1 x.2.1.2.2.2.2.2.2.2.1 x.2.2.1.1 x.2.2.2.1
def NF(x:au):List Int:=(gP (x.1,(cG x.1 x.2.1.1 x.2.1.2.2.2.2.2.2.1 (eN x).1 x.2.1.2.2.2.2.2.2.2.1 x.2.2.1.1 x.2.2.2.1).1.2.1,(cG x.1 x.2.1.1 x.2.1.2.2.2.2.2.2.1 (eN x).1 x.2.1.2.2.2.2.2.2.2.1 x.2.2.1.1 x.2.2.2.1).1.2.2.1,(eN x).1)).1.2.1
def fj(x:au):qT:=((gV x).1.1,(gV x).1.2.1,NF x,(gV x).1.2.2.2)
theorem Oc{x:au}(h:en x)(g:(iS x).2.2.2.2.2.2.1=0): ∃bl i a,(iS x).2=AO x (fj x) bl i a/\AV x.1.2.2.2.2.2.2.2.length x.2.2.2.2.2.2.2.2.2.2.2.2.2.2 (fj x).2.2.2.1.1 (fj x).2.2.2.1.2.1 a x.1.2.2.2.2.2.2.2.length/\
  bk x.1 (fj x).2.1:=by
 have f:=CZ x.2.2.1.1 x.2.2.2.1 h.ba h.exp (lW x) h.lit;exact amc h (auv f.len (by decide)) (O9 _ _ _ _ _ _ _) f.eq g
theorem Py{P:aT->Prop}(h1: ∀f d,P (1,f,d,0,0)): ∀(l:List aC) (m:bY),(∀r∈m.1.1,P r)-> ∀r∈(l.foldl eg m).1.1,P r
 | [],_,h=>h
 |e::l,m,h=>by
  refine Py h1 l (eg m e) λr hr=> ?_
  unfold eg at hr;revert hr
  cases gS (m.2,m.1.2.1)with
  |true=>
   intro hr;rcases List.mem_append.1 (show r∈m.1.1++ [(1,e.1,e.2.1,0,0)]from hr)with h2|h2
   all_goals simp_all
  |false=>simp_all
theorem HL{b:ae}{m:aq}{e:List Int}{v:List aX}{l:List (af)}(press:af)(bA:Bool)(hm:bk b m)(i:kh (m,e)=true)(a:v.length=b.2.2.2.2.2.2.2.length):
  dt [] (cG b m e v l press bA)/\(cG b m e v l press bA).2=b/\ ∀r∈(cG b m e v l press bA).1.1,r.1=1\/r.1=2:=by
 have f:=HF (m:=m) (e:=e) (by rw[i];rfl);unfold cG;cases bA with
 |true=>
  rw[au3];obtain⟨j,k⟩:=tU hm a;have o:dt (cu (b,m,v)) (([],m,e,(ec (b,v,l)).1,0,0),b):=⟨hm,f,j⟩;obtain⟨w,s,t⟩:=rE o (auv k (by decide));have u:dt [] (List.foldl cF ((([]:List aT),m,e,(ec (b,v,l)).1,0,0),b) (cu (b,m,v))):=s.with (λr hr=>by cases hr);obtain⟨x,g,h⟩:=DU u press (cd m);rw[t]at g h;refine⟨g,h,Py (P:=λr=>r.1=1\/r.1=2) (λ_ _=> .inl rfl) _ _ λr hr=> ?_⟩;rw[ku,B8 hm a,awr]at hr;grind
 |false=>exact⟨⟨hm,f,λr hr=>(by cases hr)⟩,rfl,λr hr=>(by cases hr)⟩
theorem aha{x:au}(h:en x): ∀r∈(gV x).1.1,r.1=1\/r.1=2\/r.1=3\/r.1=7:=by
 obtain⟨h1,h2,h3⟩:=HL (l:=x.2.1.2.2.2.2.2.2.2.1) x.2.2.1.1 x.2.2.2.1 h.ba h.exp (lW x);intro r hr;unfold gV fI at hr;rw[ku]at hr;have a:=(pE (x:=(cG x.1 x.2.1.1 x.2.1.2.2.2.2.2.2.1 (eN x).1 x.2.1.2.2.2.2.2.2.2.1 x.2.2.1.1 x.2.2.2.1).1.2.2.1) (v:=(eN x).1) h1.ba).1;grind
theorem RT: ∀{l:List aT} {m:aq},(∀r∈l,r.1≠4)->(l.foldl bE m).1=m.1
 | [],_,_=>rfl
 |r::l,m,h=>by
  rw[awd,RT λa hr=>h a (awg _ hr)];exact PL (h r List.mem_cons_self)
theorem UG{x:au}(h:en x):(fj x).2.1.1=x.2.1.1.1:=by
 show(gV x).1.2.1.1=_;have e:(gV x).1.2.1=(gV x).1.1.foldl bE x.2.1.1:=O9 _ _ _ _ _ _ _;rw[e];exact RT λr hr=>by grind [aha]
theorem Ta{x:au}(h:en x)(a:(iS x).2.2.2.2.2.2.1=0):cD (iS x).2:=by
 obtain⟨bl,j,k,f,h1,h3⟩:=Oc h a;have g:=UG h;rw[f];exact⟨h.n8,h.cf,h.c1,h.c2,h.c3,h.c4,h.c5,h.c6,h.c7,h1.len,h3.l1,h3.l2,h3.l3,λp i=>h.ph p (g▸i),h.bf,h.cmd,h.iU⟩
section
open Go.Shelf Go.Lib
section
variable {P:Program} {G:Gd} {L:List (gZ)} {T:Ty} {n:Nat} {w0 w w':World} {X0 X:Nat->Nat->Prop} {b:Nat} {mR0 mR:Map}
def Gg(L:List (gZ))(T:Ty)(n:Nat)(pre:Option (T.den->Prop))(F:T.den->Ty.unit.den×T.den):Cv:=
 { p:=T,ay:= [],mask:= [.p],sz:= [n],ro:=false,vi:=L,q:=T,r:=Ty.unit,ar:=ah.none,vo:=L,pre:=pre,F:=F}
structure iE (G:Gd) (L:List (gZ)) (T:Ty) (n:Nat) (w0:World) (X0:Nat->Nat->Prop) (b:Nat) (mR0:Map) (w:World) (y:T.den) (X:Nat->Nat->Prop) (mR:Map) (pc:List Value):Prop where
 hH:G.H w
 hX: ∀b p,X b p->b<w.heap.size/\ ¬ G.gl b
 hb: ∀q,X b q
 hl: ∀b',bF mR b'-> ∀q,X b' q
 kQ:kB w [b] [n] pc
 rows:RowsIn X w [b] (nmV bo L) (enc T y) pc mR
 i1: ∀b',bF mR b'->bF mR0 b'\/w0.heap.size<=b'
 i2: ∀b' q,X0 b' q/\ ¬ bF mR0 b'->X b' q
 bp:eH (λb'=>b'=b\/bF mR0 b') w0 w
def qU(L:List (gZ))(T:Ty)(n:Nat)(w0:World)(X0:Nat->Nat->Prop)(b:Nat)(mR0:Map)(w:World)(y:T.den):Prop:=
 ∀f,nodup (vnames (nmV f L))=true-> ∃(pc:List Value) (mR:Map),kB w [b] [n] pc/\RowsIn (λa q=>(X0 a q/\ ¬ bF mR0 a)\/bF mR a) w [b] (nmV f L) (enc T y) pc mR/\ ∀a,bF mR a->bF mR0 a\/w0.heap.size<=a
theorem FZ{pc:List Value}(h:kB w [b] [n] pc): ∃(us:Array Value) (T:TypeId),w.heap[b]? =some (.cells us T (0,0))/\us.size=n/\pc=us.toList:=by
 obtain⟨us,T,a,h1,h2,h3,h4⟩:=h;have:a= []:=h4;simp_all
theorem iE.start{x:T.den}{pc:List Value}(hH:G.H w)(hX: ∀b p,X b p->b<w.heap.size/\ ¬ G.gl b)(hb: ∀q,X b q)(hl: ∀a,bF mR a-> ∀q,X a q)(f:kB w [b] [n] pc)(hr:RowsIn X w [b] (nmV bo L) (enc T x) pc mR):
 iE G L T n w X b mR w x X mR pc:=⟨hH,hX,hb,hl,f,hr,λ_ h=> .inl h,λ_ _ h=>h.1,rW⟩
theorem iE.grow{y:T.den}{pc:List Value}(h:iE G L T n w0 X0 b mR0 w y X mR pc)(f:Below w.heap.size w w'):iE G L T n w0 X0 b mR0 w' y X mR pc:=by
 have a:eH (λ_=>False) w w':=uc f;have g:dD X w w':=a.keeps (λ_ h=>h.elim);have i:di w X X:=λ_ _ _ h=>h
 have l:=(h.hX b 0 (h.hb 0)).1;obtain⟨us,m,h1,h2,h3⟩:=FZ h.kQ;refine⟨G.mono ⟨a.os,a.tape,a.size,λb hb=>⟨G.low h.hH hb,a.block b (G.low h.hH hb) (λh=>h)⟩⟩ h.hH,λb p j=>⟨ava (h.hX b p j).1 a.size,(h.hX b p j).2⟩,h.hb,h.hl,⟨us,m,[],by rw[a.block b l (λh=>h)];omega,h2,by simp_all,rfl⟩,?_,h.i1,h.i2,?_⟩
 ·exact⟨h.rows.bL,λk bx o=>(h.rows.box k bx o).eG g i (dw.refl _) λb p h1 h2=>⟨h1,a.block b (h.rows.live k b p h1 h2).2.2 (λh=>h)⟩,h.rows.cells.mono (CR.mono g i (λ_ _ _ h=>h)),h.rows.inj,λk b p h1 h2=>⟨(h.rows.live k b p h1 h2).1,(h.rows.live k b p h1 h2).2.1,ava (h.rows.live k b p h1 h2).2.2 a.size⟩⟩
 ·exact h.bp.trans (uc f)
theorem iE.call{y:T.den}{pc:List Value}{f:FuncId}{pre:Option (T.den->Prop)}{F:T.den->Ty.unit.den×T.den}(h:iE G L T n w0 X0 b mR0 w y X mR pc)(C: ∀b q,X0 b q->b<w0.heap.size)
  (Q:gE P G f (Gg L T n pre F)) (I:nodup (vnames (nmV bo L))=true) (S: ∀q,pre=some q->q y):
  Calls P f #[.pointer (some ⟨b,0,none⟩)] w λe w'=>e= .returned (.tuple #[])/\(∃(X':Nat->Nat->Prop) (l:Map) (i:List Value),iE G L T n w0 X0 b mR0 w' (F y).2 X' l i)/\qU L T n w0 X0 b mR0 w' (F y).2:=by
 have h0:=Q y w X #[.pointer (some ⟨b,0,none⟩)] [] [] pc [b] mR h.hH h.hX S (by simp) (λa g q=>by rw[awl]at g;subst g;exact h.hb q) h.hl ⟨b,[],rfl,rfl,rfl,rfl⟩ (by trivial) h.kQ h.rows;refine h0.mono λe w' U=> ?_
 obtain⟨v,J,V,Y,j,A⟩:=U;have Z:v= .tuple #[]:=Y;subst Z;have l1:pc.length=T.n:=(h.rows.cells.length.symm.trans Du).trans (la T y);obtain⟨us,TT,h1,h2,h3⟩:=FZ h.kQ;have h8:J= []:=by
  obtain⟨i,l,⟨t,u,x⟩⟩:=A bo I;obtain⟨b2,b3,b4,h9,a3⟩:=FZ (show kB w' [b] [n] i from t);have l2:(J++i).length=T.n:=by
   have:=(u.cells.length.symm.trans Du).trans (la (.pair Ty.unit T) (F y));rw[this];show 0+T.n=T.n;exact avw _
  rw[au5]at l2;have a1:pc.length=n:=by rw[h3,avg,h2]
  have a2:i.length=n:=by rw[a3,avg,h9]
  exact avx (by omega)
 subst h8;have s:w0.heap.size<=w.heap.size:=h.bp.size;refine⟨V,?_,λM a4=> ?_⟩;rotate_left
 ·obtain⟨i,l,⟨t,u,x⟩⟩:=A M a4
  refine⟨i,l,t,?_,λa g=> ?_⟩
  ·refine RowsIn.mono (show RowsIn (λa q=>(X a q/\ ¬ bF mR a)\/bF l a) w' [b] (nmV M L) (enc T (F y).2) i l from u) λa q _ o=> ?_
   rcases o with o|o
   ·refine .inl ⟨h.i2 a q o,λh6=> ?_⟩
    rcases h.i1 a h6 with h7|h7
    ·exact o.2 h7
    ·have:=C a q o.1;omega
   ·exact .inr o
  ·rcases x a g with h4|h4
   ·exact h.i1 a h4
   ·exact .inr (auv s h4)
 obtain⟨i,l,⟨t,u,x⟩⟩:=A bo I;refine⟨λa q=>(X a q/\ ¬ bF mR a)\/bF l a,l,i,?_⟩;have a5:kB w' [b] [n] i:=t;have N:RowsIn (λa q=>(X a q/\ ¬ bF mR a)\/bF l a) w' [b] (nmV bo L) (enc T (F y).2) i l:=u;have a6: ∀a,((Gg L T n pre F).ro=false/\a∈ [b])\/bF mR a-> ∀q,X a q:=λa g=>by
  rcases g with⟨_,h4⟩|h4
  ·rw[awl]at h4;subst h4;exact h.hb
  ·exact h.hl a h4
 have a7: ¬ bF mR b:=λ⟨k,p,h4,h5⟩=>(h.rows.live k b p h4 h5).2.1 (List.mem_singleton.mpr rfl)
 refine⟨G.mono ⟨j.os,j.tape,j.size,λa g=>⟨G.low h.hH g,j.block a (G.low h.hH g) (λh4=>(h.hX a 0 (a6 a h4 0)).2 g)⟩⟩ h.hH,?_,λq=> .inl ⟨h.hb q,a7⟩,λa g q=> .inr g,a5,N,?_,?_,?_⟩
 ·rintro a p (⟨h4,_⟩|h4)
  ·exact⟨ava (h.hX a p h4).1 j.size,(h.hX a p h4).2⟩
  ·obtain⟨k,q,h5,h6⟩:=h4
   refine⟨(N.live k a q h5 h6).2.2,λO=> ?_⟩;rcases x a ⟨k,q,h5,h6⟩with h7|h7
   ·exact(h.hX a 0 (h.hl a h7 0)).2 O
   ·have:=G.low h.hH O;omega
 ·intro a g
  rcases x a g with h4|h4
  ·exact h.i1 a h4
  ·exact .inr (auv s h4)
 ·rintro a q ⟨h4,h5⟩
  refine .inl ⟨h.i2 a q ⟨h4,h5⟩,λh6=> ?_⟩;rcases h.i1 a h6 with h7|h7
  ·exact h5 h7
  ·have:=C a q h4;omega
 ·have hL: ∀k,k<w0.heap.size-> ¬ (k=b\/bF mR0 k)-> ¬ (((Gg L T n pre F).ro=false/\k∈ [b])\/bF mR k):=λk m z h4=>by
   rcases h4 with⟨_,h5⟩|h5
   ·exact z (.inl (List.mem_singleton.mp h5))
   ·rcases h.i1 k h5 with h6|h6
    ·exact z (.inr h6)
    ·omega
  exact⟨j.os.trans h.bp.os,j.tape.trans h.bp.tape,j.output.trans h.bp.output,auv s j.size,λk m z=>(j.block k (ava m s) (hL k m z)).trans (h.bp.block k m z),λk m=>(j.shape k (ava m s)).trans (h.bp.shape k m),λk p m=>(j.frozen k p (ava m s)).trans (h.bp.frozen k p m)⟩
theorem qU.fin{y:T.den}{x:T.den}{pre:Option (T.den->Prop)}{F:T.den->Ty.unit.den×T.den}(h:qU L T n w0 X0 b mR0 w y)(f:(F x).2=y):
  ∀a,nodup (vnames (nmV a L))=true-> ∃(pc:List Value) (mR:Map),oT (Gg L T n pre F) x X0 [b] mR0 a w0 w [] pc mR:=by
 subst f;intro a g;obtain⟨pc,mR,h1,h2,h3⟩:=h a g;exact⟨pc,mR,h1,h2,h3⟩
theorem iE.again{y:T.den}{pc:List Value}(h:iE G L T n w0 X0 b mR0 w y X mR pc):iE G L T n w X b mR w y X mR pc:=iE.start h.hH h.hX h.hb h.hl h.kQ h.rows
theorem qU.aN{a:World}{y:T.den}(i:w0.heap.size<=a.heap.size)(h:qU L T n a X0 b mR0 w y):qU L T n w0 X0 b mR0 w y:=λf g=>by
 obtain⟨pc,mR,h1,h2,h3⟩:=h f g;grind
theorem iE.dH{y:T.den}{pc:List Value}(h:iE G L T n w0 X0 b mR0 w y X mR pc){s:Nat}(hs:s<w0.heap.size)(a: ∀q,¬ X0 s q)(hb: ∀q,X0 b q)(hl: ∀f,bF mR0 f-> ∀q,X0 f q):w.heap[s]? =w0.heap[s]? :=
 h.bp.block s hs λg=>g.elim (λh1=>a 0 (h1▸hb 0)) (λh1=>a 0 (hl s h1 0))
theorem iE.cell{y:T.den}{pc:List Value}(h:iE G L T n w0 X0 b mR0 w y X mR pc){i:Nat}{k:IntKind}{v:Int}(a:(vxC (nmV bo L) 0 (enc T y))[i]? =some (.int k v)):w.cell? ⟨b,i,none⟩=some (.int k v):=by
 obtain⟨u,h1,h2⟩:=h.rows.cells.get i _ a;obtain⟨us,f,h3,h4,h5⟩:=FZ h.kQ;have h6:=h2;subst h6;unfold World.cell?;simp_all
theorem cell_of{W:World}{s i:Nat}{us:Array Value}{a:TypeId}{z:aS}{v:Value}(h:W.heap[s]? =some (.cells us a z))(f:us[i]? =some v):W.cell? ⟨s,i,none⟩=some v:=by
 unfold World.cell?;simp_all
end
end
section
open Go.Shelf Go.Lib
def ko(x:au):Unit×au:=
 let a:=(gd x).2
 bif a.2.2.2.2.2.1 !=0 then((),a)else
 let c:=(fA a).2
 bif c.2.2.2.2.2.1 !=0 then((),c)else
 let d:=(ij c).2
 bif d.2.2.2.2.2.1 !=0 then((),d)else
 let e:=(iS d).2
 bif e.2.2.2.2.2.1 !=0 then((),e)else
 ((),(sY e).2)
def Wv(x:au):Prop:=en x
def kg:Cv:={ p:=dj,ay:= [],mask:= [.p],sz:= [43],ro:=false,vi:= [(15,true,70),(16,true,142),(17,true,153),(18,true,158),(32,true,4),(33,true,51),(34,true,4),(42,true,85)],q:=dj,r:=Ty.unit,ar:=ah.none,vo:= [(15,true,70),(16,true,142),(17,true,153),(18,true,158),(32,true,4),(33,true,51),(34,true,4),(42,true,85)],pre:=some Wv,F:=ko}
theorem apj{args:Array Value}{f:List Value}{bs:List Nat}(h:mg [.p] args.toList f bs): ∃b,args= #[.pointer (some ⟨b,0,none⟩)]/\f= []/\bs= [b]:=by
 revert h
 cases hl:args.toList with
 |nil=>intro h;exact h.elim
 |cons a r=>
  rintro⟨b,bs',h1,h2,h3⟩
  cases r with
  |nil=>exact⟨b,ay2 (by simp_all),h3.1,by rw[h2,h3.2]⟩
  |cons _ _=>exact h3.elim
theorem asy:gE prog bD 90 kg:=by
 intro x w X args va cs pc bs j hH hX V c9 Y m Z h8 h9 a1;have l:en x:=V _ rfl;obtain⟨b,rfl,rfl,rfl⟩:=apj Z;have a2:cs= []:=h8;subst a2;have mixed:prog.follows .mixedOrders=true:=by kernel_rfl
 go_enter func90,ntmps90
 go_wp2_with fail
 obtain⟨f,o⟩: ∃f,f=w.alloc (.cells #[Value.func (Fn.func 127) #[Value.pointer (some ⟨b,0,none⟩)] #[],Value.func (Fn.func 128) #[Value.pointer (some ⟨b,0,none⟩)] #[],Value.func (Fn.func 129) #[Value.pointer (some ⟨b,0,none⟩)] #[],Value.func (Fn.func 130) #[Value.pointer (some ⟨b,0,none⟩)] #[],Value.func (Fn.func 131) #[Value.pointer (some ⟨b,0,none⟩)] #[]] 1):=⟨_,rfl⟩
 rw[<- o];have N:Below w.heap.size w f:=by rw[o];exact(aw6 _ _).alloc (au7 _) _
 have s:f.heap[w.heap.size]? =some (.cells #[Value.func (Fn.func 127) #[Value.pointer (some ⟨b,0,none⟩)] #[],Value.func (Fn.func 128) #[Value.pointer (some ⟨b,0,none⟩)] #[],Value.func (Fn.func 129) #[Value.pointer (some ⟨b,0,none⟩)] #[],Value.func (Fn.func 130) #[Value.pointer (some ⟨b,0,none⟩)] #[],Value.func (Fn.func 131) #[Value.pointer (some ⟨b,0,none⟩)] #[]] 1 (0,0)):=by
  rw[o];show(w.heap.push _)[w.heap.size]? =_;rw[ayr]
 have t:w.heap.size<f.heap.size:=by rw[o];show w.heap.size<(w.heap.push _).size;rw[Array.size_push];exact aAh _
 clear o;have u: ∀q,X b q:=Y b (by simp)
 have h0:=((iE.start (L:=kg.vi) (T:=kg.p) (n:=43) hH hX u m h9 a1).grow N).again;have z: ∀b q,X b q->b<f.heap.size:=λb' q l=>(h0.hX b' q l).1
 have C: ∀q,¬ X w.heap.size q:=λq l=>Nat.lt_irrefl _ (hX _ _ l).1
 have A:nodup (vnames (nmV bo kg.vi))=true:=by decide
 have d0:=cell_of (i:=0) s rfl;have fin: ∀(w':World) (y:au),(∃(X':Nat->Nat->Prop) (I:Map) (J:List Value),iE bD kg.vi kg.p 43 f X b j w' y X' I J)->qU kg.vi kg.p 43 f X b j w' y->(ko x).2=y->
   ∃v O,Ending.returned (.tuple #[])= .returned v/\zd kg.ar O v/\eH (λP=>kg.ro=false/\P∈ [b]\/bF j P) w w'/\ ∀Q,nodup (vnames (nmV Q kg.vo))=true-> ∃J I,oT kg x X [b] j Q w w' O J I:=by
  rintro w' y ⟨X',I,J,hC⟩ hE hF
  refine⟨_,[],rfl,rfl,?_,qU.fin (hE.aN (aBu t)) hF⟩;have g:=hC.bp;have hL: ∀k,¬ (kg.ro=false/\k∈ [b]\/bF j k)-> ¬ (k=b\/bF j k):=λk M h=>M (h.imp (λh=>⟨rfl,by rw[h];exact List.mem_singleton.2 rfl⟩) id)
  exact(uc N).trans ⟨g.os,g.tape,g.output,g.size,λk hk M=>g.block k hk (hL k M),g.shape,g.frozen⟩
 have bz: ∀{a:Int},(a !=0)=false->a=0:=λh=>by rw[avc]at h;exact h
 refine wp_loop_rounds 6 ?_;rw[aAx];go_wp2_with (go_at_call 127;refine(h0.call z (pre:=some VL) Xs A (λq h=>by cases h;exact l.tocD)).mono ?_;rintro e w1 ⟨rfl,⟨X1,d6,d7,h1⟩,b2⟩;have d9:=h1.cell (i:=31) (k:= .i64) (v:=(gd x).2.2.2.2.2.2.1) rfl;have e0:=cell_of (i:=1) ((h1.dH t C u m).trans s) rfl)
 ·rename_i f1
  (try simp only[Exit.inBlock,Exit.then])
  refine ax3 (azx rfl _ _ _) rfl ?_;refine fin w1 _ ⟨_,_,_,h1⟩ b2 ?_;unfold ko;simp only[f1,au3,auw]
 rename_i f1;have t1:=Ri l;rw[aAx];go_wp2_with (go_at_call 128;refine(h1.call z (pre:=some U2) XE A (λq h=>by cases h;exact t1.tocD)).mono ?_;rintro e w2 ⟨rfl,⟨X2,e2,e3,h2⟩,b4⟩;have e4:=h2.cell (i:=31) (k:= .i64) (v:=(fA (gd x).2).2.2.2.2.2.2.1) rfl;have e5:=cell_of (i:=2) ((h2.dH t C u m).trans s) rfl)
 ·rename_i f2
  (try simp only[Exit.inBlock,Exit.then])
  refine ax3 (azx rfl _ _ _) rfl ?_;refine fin w2 _ ⟨_,_,_,h2⟩ b4 ?_;unfold ko;simp only[f1,f2,au3,auw]
 rename_i f2;have t2:=Q8 t1 (bz f2);rw[aAx];go_wp2_with (go_at_call 129;refine(h2.call z (pre:=some VE) Zd A (λq h=>by cases h;exact t2.tocD)).mono ?_;rintro e w3 ⟨rfl,⟨X3,e7,e8,h3⟩,b6⟩;have e9:=h3.cell (i:=31) (k:= .i64) (v:=(ij (fA (gd x).2).2).2.2.2.2.2.2.1) rfl;have f0:=cell_of (i:=3) ((h3.dH t C u m).trans s) rfl)
 ·rename_i f3
  (try simp only[Exit.inBlock,Exit.then])
  refine ax3 (azx rfl _ _ _) rfl ?_;refine fin w3 _ ⟨_,_,_,h3⟩ b6 ?_;unfold ko;simp only[f1,f2,f3,au3,auw]
 rename_i f3;have t3:=VC t2 (bz f3);rw[aAx];go_wp2_with (go_at_call 130;refine(h3.call z (pre:=some UZ) ZH A (λq h=>by cases h;exact t3)).mono ?_;rintro e w4 ⟨rfl,⟨X4,f6,f7,h4⟩,b9⟩;have f8:=h4.cell (i:=31) (k:= .i64) (v:=(iS (ij (fA (gd x).2).2).2).2.2.2.2.2.2.1) rfl;have f9:=cell_of (i:=4) ((h4.dH t C u m).trans s) rfl)
 ·rename_i f4
  (try simp only[Exit.inBlock,Exit.then])
  refine ax3 (azx rfl _ _ _) rfl ?_;refine fin w4 _ ⟨_,_,_,h4⟩ b9 ?_;unfold ko;simp only[f1,f2,f3,f4,au3,auw]
 rename_i f4;have t4:=Ta t3 (bz f4);rw[aAx];go_wp2_with (go_at_call 131;refine(h4.call z (pre:=some UA) Yk A (λq h=>by cases h;exact t4)).mono ?_;rintro e S ⟨rfl,⟨X5,g1,g2,h5⟩,U⟩;have g3:=h5.cell (i:=31) (k:= .i64) (v:=(sY (iS (ij (fA (gd x).2).2).2).2).2.2.2.2.2.2.1) rfl;skip)
 ·(try simp only[Exit.inBlock,Exit.then])
  refine ax3 (azx rfl _ _ _) rfl ?_;refine fin S _ ⟨_,_,_,h5⟩ U ?_;unfold ko;simp only[f1,f2,f3,f4,auw]
 rw[aAx];go_wp2_with fail
 (try simp only[Exit.inBlock,Exit.then])
 refine bodyPost_end (azx rfl _ _ _) rfl ?_;refine fin S _ ⟨_,_,_,h5⟩ U ?_;unfold ko;simp only[f1,f2,f3,f4,auw]
def asg(nw:Bool):List (Nat×Zc):=(90,.pv kg)::(Yx nw)
theorem B4(nw:Bool):ga (asg nw):=rz asy ⟨_,func90,by kernel_rfl,by kernel_rfl⟩ (ae8 nw)
end
theorem iW{α:Type} [Inhabited α]{l:List α}{i:Int}(h0:0<=i)(h1:i<l.length):aa l i∈l:=by
 rw[SF l i h0 h1];simp_all
theorem HM{l:List Int}{g:Nat}(hl:l.length<=maxLen):mm (l,some g)=true↔ ∃x∈l,sA g x=true:=by
 have s:=kX (step:=uo) (k:=(l,some g,l.length)) (I:=λx=>0<=x/\x<=l.length/\ ∀j:Nat,j<x->sA g (aa l j)=false) (mu:=λx=>(l.length-x).toNat)
  (Q:=λo x=>match o with|some r=>0<=r/\ ∃x∈l,sA g x=true|none=> ∀j:Nat,j<l.length->sA g (aa l j)=false) (λx f=>by
   obtain⟨h0,h1,h2⟩:=f;unfold uo;by_cases a:x<l.length
   ·simp only[a]
    cases hf:sA g (aa l x)with
    |true=>simp only[axu,hf];exact⟨h0,_,iW h0 a,hf⟩
    |false=>
     simp only[axu,hf];rw[cC h0 a hl];refine⟨⟨cH h0,by omega,λj m=> ?_⟩,cI a⟩;by_cases t:j=x
     ·rw[t];exact hf
     ·exact h2 j (by omega)
   ·simp only[a]
    exact λj m=>h2 j (by omega)) (Nat.succ (yl (l,some g,l.length) 0)) 0 ⟨au8 _,au9 _,λj m=>absurd m (by omega)⟩ (by unfold yl;simp)
 unfold mm Mr U1;revert s
 cases bd uo (l,some g,l.length) (Nat.succ (yl (l,some g,l.length) 0)) 0 with
 |some r=>intro h;exact⟨λ_=>h.2,λ_=>ax1 h.1⟩
 |none=>
  intro h;refine⟨λh2=>(by simp[dq]at h2),λ⟨x,f,hf⟩=> ?_⟩;obtain⟨i,hi,rfl⟩:=awc f;have:=h i hi;rw[cc l i hi]at this;exact absurd (hf.symm.trans this) (by decide)
theorem ac6{α:Type}(a b c:α): [a,b,c].length<=maxLen:=(by decide:3<=maxLen)
theorem CC{n:Int}:z7 n=true↔ ¬ (0<=n/\n<=1000000):=by
 grind [z7]
theorem Bn{l:List Int}(hl:l.length<=maxLen):px l=true↔ ∀x∈l,0<=x/\x<=1000000:=by
 unfold px;rw[avr,<- axf,HM hl];refine⟨λh x a=>ayp λf=>h ⟨x,a,?_⟩,λh ⟨x,a,g⟩=> ?_⟩
 ·exact CC.2 f
 ·exact CC.1 (show z7 x=true from g) (h x a)
theorem afN{m:aq}{e:List Int}(hl:e.length<=maxLen):kh (m,e)=true↔e.length=m.2.2.2.length/\ ∀x∈e,0<=x/\x<=1000000:=by
 unfold kh;rw[au4,aw0,axe,avr,<- axf,HM hl];refine and_congr Iff.rfl ⟨λh x a=>ayp λf=>h ⟨x,a,?_⟩,λh ⟨x,a,g⟩=> ?_⟩
 ·exact CC.2 f
 ·exact CC.1 (show MM x=true from g) (h x a)
theorem aik{l:List bg}{n:Int}{b:ae}(hl:l.length<=maxLen):(Gi (l,n,b)).1=true↔(l.length:Int)=n/\ ∀i:Nat,i<l.length->lN (b.2.1,aa l (i:Int))=true:=by
 unfold Gi Wn;simp only;cases hc:((l.length:Int) !=n)with
 |true=>
  rw[axp]at hc;rw[au3];exact⟨λh=>(by cases h),λh=>absurd h.1 hc⟩
 |false=>
  rw[avc]at hc;rw[auw,scan (N:=l.length) (r:=(false,())) (bA:=λi:Nat=>lN (b.2.1,aa l (i:Int))) hl (λi hi=>by
   have a:(i:Int)<(l.length:Int):=by omega
   unfold yL;simp only[a,avz,au3];show(bif(!(lN (b.2.1,aa l (i:Int))))then _ else _)=_;cases lN (b.2.1,aa l (i:Int))<;>rfl) (by unfold yL;simp only[aBg,awe,auw]) (by unfold DW;simp)]
  by_cases h: ∀i:Nat,i<l.length->lN (b.2.1,aa l (i:Int))=true
  ·rw[avf h];exact⟨λ_=>⟨hc,h⟩,λ_=>rfl⟩
  ·rw[avb h];exact⟨λh2=>(by cases h2),λh2=>absurd h2.2 h⟩
theorem ah8{l:List bT}{n:Int}{b:ae}(hl:l.length<=maxLen):(Gs (l,n,b)).1=true↔l.length=n/\ ∀i:Nat,i<l.length->fC (b,i,aa l i)=true:=by
 unfold Gs Xw;cases hc:(l.length !=n)with
 |true=>
  simp_all
 |false=>
  rw[avc]at hc;rw[auw,scan (r:=(false,())) (bA:=λi:Nat=>fC (b,i,aa l i)) hl (λi hi=>by
   have a:(i:Int)<l.length:=by omega
   unfold zw;simp only[a,au3];show(bif(!(fC (b,i,aa l i)))then _ else _)=_;simp_all) (by simp_all [zw]) (by grind [DE])]
  by_cases h: ∀i:Nat,i<l.length->fC (b,i,aa l i)=true
  ·rw[avf h];exact⟨λ_=>⟨hc,h⟩,λ_=>rfl⟩
  ·rw[avb h];exact⟨λh2=>(by cases h2),λh2=>absurd h2.2 h⟩
theorem ahK{l:List iA}{n:Int}{b:ae}(hl:l.length<=maxLen):(Gm (l,n,b)).1=true↔l.length=n/\ ∀i:Nat,i<l.length->jL (b,aa l i)=true:=by
 unfold Gm WW;simp only;cases hc:(l.length !=n)with
 |true=>
  simp_all
 |false=>
  rw[avc]at hc;rw[auw,scan (r:=(false,())) (bA:=λi:Nat=>jL (b,aa l i)) hl (λi hi=>by
   have a:(i:Int)<l.length:=by omega
   unfold zx;simp only[a,avz,au3];show(bif(!(jL (b,aa l i)))then _ else _)=_;simp_all) (by simp_all [zx]) (by grind [D5])]
  by_cases h: ∀i:Nat,i<l.length->jL (b,aa l i)=true
  ·rw[avf h];exact⟨λ_=>⟨hc,h⟩,λ_=>rfl⟩
  ·rw[avb h];exact⟨λh2=>(by cases h2),λh2=>absurd h2.2 h⟩
theorem aja{l:List Int}{n:Int}(hl:l.length<=maxLen):Gt (l,n,some 66)=true↔l.length=n/\ ∀i:Nat,i<l.length->mE (i,aa l i)=true:=by
 unfold Gt Wu;cases hc:(l.length !=n)with
 |true=>
  simp_all
 |false=>
  rw[avc]at hc;rw[auw,scan (r:=false) (bA:=λi:Nat=>mE (i,aa l i)) hl (λi hi=>by
   have a:(i:Int)<l.length:=by omega
   unfold zy;simp only[a];show(bif(!(mE (i,aa l i)))then _ else _)=_;simp_all) (by simp_all [zy]) (by grind [JU])]
  by_cases h: ∀i:Nat,i<l.length->mE (i,aa l i)=true
  ·rw[avf h];exact⟨λ_=>⟨hc,h⟩,λ_=>rfl⟩
  ·rw[avb h];exact⟨λh2=>(by cases h2),λh2=>absurd h2.2 h⟩
structure jD (b:ae) (m:aW):Prop where
 ba:bk b m.1
 room:18*((b.2.2.2.2.2.2.2.length:Int)+(m.1.2.2.2.length:Int))+6<=b.2.2.1
 bl:eA (b.2.2.1,m.2.1)=true
 ex:m.2.2.2.2.2.2.1.length=m.1.2.2.2.length/\ ∀x∈m.2.2.2.2.2.2.1,0<=x/\x<=1000000
 lT:(0<=m.2.2.2.2.2.2.2.2.1/\m.2.2.2.2.2.2.2.2.1<=1000000)/\(0<=m.2.2.2.2.2.2.2.2.2.1/\m.2.2.2.2.2.2.2.2.2.1<=1000000)/\0<=m.2.2.2.2.2.2.2.2.2.2/\m.2.2.2.2.2.2.2.2.2.2<=1000000
 ct:m.2.2.1.length=b.2.2.2.2.2.2.2.length/\ ∀i:Nat,i<m.2.2.1.length->lN (b.2.1,aa m.2.2.1 (i:Int))=true
 aA:m.2.2.2.1.length=b.2.2.2.2.2.2.2.length/\ ∀i:Nat,i<m.2.2.2.1.length->fC (b,(i:Int),aa m.2.2.2.1 (i:Int))=true
 new:m.2.2.2.2.1.length=b.2.2.2.2.2.2.2.length/\ ∀i:Nat,i<m.2.2.2.2.1.length->jL (b,aa m.2.2.2.2.1 (i:Int))=true
 ld:m.2.2.2.2.2.1.length=b.2.2.2.2.2.2.2.length/\ ∀i:Nat,i<m.2.2.2.2.2.1.length->mE ((i:Int),aa m.2.2.2.2.2.1 (i:Int))=true
 lit:m.2.2.2.2.2.2.2.1.length=b.2.2.2.2.2.2.2.length
structure abV (b:ae) (m:aW):Prop where
 h0:b.2.2.2.2.2.2.2.length<=maxLen
 h1:m.1.1.length<=maxLen
 h2:m.1.2.2.2.length<=maxLen
 h3:m.2.2.1.length<=maxLen
 h4:m.2.2.2.1.length<=maxLen
 h5:m.2.2.2.2.1.length<=maxLen
 h6:m.2.2.2.2.2.1.length<=maxLen
 h7:m.2.2.2.2.2.2.1.length<=maxLen
theorem HR{b:ae}{m:aq}(h0:b.2.2.2.2.2.2.2.length<=maxLen)(h1:m.1.length<=maxLen)(h2:m.2.2.2.length<=maxLen):pj (b,m)=true↔bk b m/\18*(b.2.2.2.2.2.2.2.length+m.2.2.2.length)+6<=b.2.2.1:=by
 unfold pj;rw[au4,mS h0 h1 h2];refine and_congr_right λhm=> ?_
 have a:=hm.bG.cn.2;have f:=hm.len;grind [aB]
theorem Oe{b:ae}{m:aW}(h:abV b m):qM (b,m)=true↔jD b m:=by
 unfold qM;cases hc:((((!(pj (b,m.1)))||(!(eA (b.2.2.1,m.2.1))))||(m.2.2.2.2.2.2.1.length !=(m.1.2.2.2.length:Int)))||(!(px m.2.2.2.2.2.2.1)))||(!(px [m.2.2.2.2.2.2.2.2.1,m.2.2.2.2.2.2.2.2.2.1,m.2.2.2.2.2.2.2.2.2.2]))with
 |true=>
  refine⟨λh=>(by cases h),λq=>absurd hc ?_⟩;rw[axf,(HR h.h0 h.h1 h.h2).2 ⟨q.ba,q.room⟩,q.bl,(Bn h.h7).2 q.ex.2,(Bn (ac6 _ _ _)).2 (by simpa using⟨q.lT.1,q.lT.2.1,q.lT.2.2⟩),q.ex.1];simp
 |false=>
  rw[auw];simp only[au1,avi,avc,axe]at hc;obtain⟨⟨⟨⟨f,i⟩,j⟩,g⟩,a⟩:=hc;have f:=(HR h.h0 h.h1 h.h2).1 f;have g:=(Bn h.h7).1 g;have a:=(Bn (ac6 _ _ _)).1 a;simp only[au4,aik h.h3,ah8 h.h4,ahK h.h5,aja h.h6,aw0,axe];refine⟨λ⟨⟨⟨⟨k,l⟩,o⟩,s⟩,t⟩=>⟨f.1,f.2,i,⟨j,g⟩,⟨a _ (by simp),a _ (by simp),a _ (by simp)⟩,k,l,o,s,t⟩,λr=>⟨⟨⟨⟨r.ct,r.aA⟩,r.new⟩,r.ld⟩,r.lit⟩⟩
theorem aif{α:Type} [Inhabited α]{l:List α}{i:Nat}(h:i<l.length):l.set ((i:Int)).toNat (aa l i)=l:=by
 rw[awt,cc l i h];simp_all
theorem Um{m:aW}(hl:m.2.2.2.1.length<=maxLen):wV m=m:=by
 have g:=iQ (step:=vd) (k:=m.2.2.2.1.length) (n:=m.2.2.2.1.length) (λi y=>y=((i:Int),m))
  (λi y hi a=>by
   subst a;have f:(i:Int)<m.2.2.2.1.length:=by omega
   have h:=cC (au9 i) f hl;unfold vd;simp only[f,h];refine⟨_,rfl,?_⟩;have e:=aif hi;exact aww rfl (aww rfl (aww rfl (aww rfl (aww e rfl)))))
  (λy a=>by
   simp_all [vd]) (Nat.succ (Dy m.2.2.2.1.length (0,m))) (0,m) (by simp_all [Dy]) rfl
 exact av7 Prod.snd g.1
theorem xI{b:ae}{s:ByteArray}(h:(dV b s).2=0):aR b/\gC b (dV b s).1=true:=by
 unfold dV at h⊢;by_cases a:fD b s (14+19*dz b) 165=0
 ·rw[avf a]at h⊢
  have g:=ayp λg=>by rw[Ev g]at a;exact absurd a (by decide)
  by_cases f:iK b ((av s).drop 2)=true
  ·rw[avf f]
   have i:bV ((av s).drop 2):=λx j=>jq s x (aws j)
   rw[Pk b i,au4]at f;exact⟨g,f.1⟩
  ·rw[avb f]at h
   exact absurd h (by decide:(31:Int)≠0)
 ·rw[avb a]at h
  exact absurd h a
def gT(b:ae)(s:ByteArray):Prop:=(fO (b,s)).2=0->(fO (b,s)).1.2.1.1=0\/(fO (b,s)).1.2.1.1=8
def lI(b:ae)(m:aW)(s:ByteArray)(n:Int):au:=
 (b,m,(fO (b,s)).1,((fO (b,s)).2==0),n,0,aE aw b.2.2.2.2.2.2.2.length,aE aU b.2.2.2.2.2.2.2.length,aE aw b.2.2.2.2.2.2.2.length,(0,0),(0,0),false,false,0,aE gM b.2.2.2.2.2.2.2.length)
structure nF (m:aW):Prop where
 ph: ∀p∈m.1.1,p=0
 cf: ∀d∈m.2.2.1,jh d.1
theorem aiq{b:ae}{x:bm}(h:gC b x=true):0<=x.2.1.2/\x.2.1.2<b.2.2.2.2.2.2.2.length:=by
 grind [gC,jl]
theorem jD.tk{b:ae}{m:aW}(h:jD b m)(f:nF m)(hl:b.2.2.2.2.2.2.2.length<=maxLen)(g:m.2.2.2.2.2.2.1.length<=maxLen){s:ByteArray}(i:gT b s)(n:Int):en (lI b m s n):=by
 have hr:((fO (b,s)).2==0)=true->gC b (fO (b,s)).1=true:=λa=>by
  simp_all [rl,xI]
 exact⟨⟨h.ba.bG.cn.2,f.cf,h.ct.1,h.aA.1,h.new.1,h.ld.1,ff _,ff _,ff _,ff _,h.ba.l1,h.ba.l2,h.ba.l3,f.ph,λa=>xY (hr a),λa=>i (vY a),λa=>aiq (hr a)⟩,h.ba,(afN g).2 h.ex,h.lit⟩
theorem mkc{n:Nat}(h:n<=8):(0<=(n:Int)/\n=(n:Int)/\(n:Int)*1<=140737488355328/\(n:Int)<=4611686018427387903)/\(0<=(n:Int)/\n=(n:Int)/\(n:Int)*8<=140737488355328/\(n:Int)<=4611686018427387903)/\(0<=(n:Int)/\n=(n:Int)/\(n:Int)*48<=140737488355328/\(n:Int)<=4611686018427387903):=by omega
theorem lK{n m:Nat}(h:n=m)(a:m<=8):n<=100000:=by omega
theorem jD.n8{b:ae}{m:aW}(h:jD b m):b.2.2.2.2.2.2.2.length<=8:=h.ba.bG.cn.2
theorem jD.nl{b:ae}{m:aW}(h:jD b m):b.2.2.2.2.2.2.2.length<=maxLen:=auv h.n8 (by decide)
theorem jD.Gl{b:ae}{m:aW}(h:jD b m):m.2.2.2.2.2.2.1.length<=64:=by rw[h.ex.1];exact h.ba.len
theorem jD.lens{b:ae}{m:aW}(h:jD b m)(j: ∀d∈m.2.2.2.1,d.2.2.2.1.length<=maxLen):L1 m:=by
 have a:=h.n8;refine⟨⟨lK h.ba.l1 a,lK h.ba.l2 a,lK h.ba.l3 a,auv h.ba.len (by decide)⟩,lK h.ct.1 a,⟨lK h.aA.1 a,λd f=> ?_⟩,lK h.new.1 a,lK h.ld.1 a,auv h.Gl (by decide),lK h.lit a⟩;obtain⟨i,hi,rfl⟩:=awc f;have g:=h.aA.2 i hi;rw[cc _ i hi,xp h.nl (j _ f)]at g;exact auv g.len (by decide)
theorem akx{b:ae}{m:aW}(f:Fit az b)(a:Fit fB m):abV b m/\ ∀d∈m.2.2.2.1,d.2.2.2.1.length<=maxLen:=
 ⟨⟨f.2.2.2.2.2.2.2.1,a.1.1.1,a.1.2.2.2.1,a.2.2.1.1,a.2.2.2.1.1,a.2.2.2.2.1.1,a.2.2.2.2.2.1.1,a.2.2.2.2.2.2.1.1⟩,λd g=>(a.2.2.2.1.2 d g).2.2.2.1.1⟩
theorem aij{b:ae}{m:aW}{s:ByteArray}{n:Int}(f:Fit az b)(g:Fit fB m)(i:nF m)(j:gT b s)(h:((!(qM (b,m)))||(decide (n<0)))=false):L1 m/\jD b (wV m)/\nF (wV m)/\gT b s:=by
 obtain⟨f1,f2⟩:=akx f g;rw[au1,avi]at h;have a:=(Oe f1).1 h.1;rw[Um f1.h4];exact⟨a.lens f2,a,i,j⟩
def YS(x:ae×aW×dW):=letI a:=x.1.2.2.2.2.2.2.2.length;letI b:=x.2.1.2.2;letI c:=(0,0);letI d:=fO (x.1,x.2.2.1);ko (x.1,(x.2.1.1,x.2.1.2.1,(wH b.1).1,(qY b.2.1).1,(wR b.2.2.1).1,(wS b.2.2.2.1).1,b.2.2.2.2),d.1,d.2==0,x.2.2.2,0,aE aw a,aE aU a,aE aw a,c,c,false,false,0,aE gM a)
def wO(x:ae×aW×dW):aW×fM×Int:=letI a:=YS x;letI b:=a.2.2.2.2.2.2;letI c:=(0,0);bif b.1 !=0 then((([],[],[],[]),a.2.2.1.2.1,[],[],[],[],[],[],0,0,0),(c,c,false,false,0,[]),b.1)else(a.2.2.1,b.2.2.2.2,0)
def XT(x:ae×aW×dW):Prop:=jD x.1 x.2.1/\nF x.2.1/\gT x.1 x.2.2.1
def acV:Ct:=⟨Ty.pair az (Ty.pair fB (Ty.pair bK ab)),[some 8,some 16,none,none],Ty.pair fB (Ty.pair Ad bI),ah.tup [some 16,some 8,none],some XT,none,wO⟩
theorem arH:an 43 acV:=ao (dB (B4 true) lY cY Qy []) func43 [] l0 (sp λx fx h=>sl (letI a:=(x.1.2.2.2.2.2.2.2.length:Int);letI b:=0<=a/\a=a/\a*1<=140737488355328/\a<=4611686018427387903;letI c:=x.2.1.2.2;letI d:=(x.1,x.2.2.1);letI e:=(0,0);letI f:=c.2.2;XF d/\(b/\((0<=a/\a=a/\a*8<=140737488355328/\a<=4611686018427387903)/\(b/\((0<=a/\a=a/\a*48<=140737488355328/\a<=4611686018427387903)/\(Lj c.1/\Lb c.2.1/\KO f.1/\KV f.2.1/\Wv (x.1,(x.2.1.1,x.2.1.2.1,(wH c.1).1,(qY c.2.1).1,(wR f.1).1,(wS f.2.1).1,f.2.2),(fO d).1,(fO d).2==0,x.2.2.2,0,aE aw a,aE aU a,aE aw a,e,e,false,false,0,aE gM a))))))) (by
 try dsimp only[Ty.den]at*
 obtain⟨h1,h2,h3⟩:jD x.1 x.2.1/\nF x.2.1/\gT x.1 x.2.2.1:=h;have m:=mkc h1.n8;exact⟨trivial,m.1,m.2.1,m.1,m.2.2,lK h1.ct.1 h1.n8,lK h1.aA.1 h1.n8,lK h1.new.1 h1.n8,lK h1.ld.1 h1.n8,h1.tk h2 h1.nl (auv h1.Gl (by decide)) h3 x.2.2.2⟩))
def aao:=(43,acV)::Zi
theorem Sn:cr aao:=gc arH func43 (Qy)
def gG(x:ae×aW×dW):aW×fM×Int:=bif !qM (x.1,x.2.1)||x.2.2.2<0 then((([],[],[],[]),((ByteArray.empty,ByteArray.empty),0),[],[],[],[],[],[],0,0,0),((0,0),(0,0),false,false,0,[]),1)else wO (x.1,wV x.2.1,x.2.2)
def vO(x:ae×aW×dW):Prop:=nF x.2.1/\gT x.1 x.2.2.1
def adp:Ct:=⟨Ty.pair az (Ty.pair fB (Ty.pair bK ab)),[some 8,some 16,none,none],Ty.pair fB (Ty.pair Ad bI),ah.tup [some 16,some 8,none],some vO,none,gG⟩
theorem arF:an 12 adp:=ao (dB (B4 true) lY cY Sn []) func12 [] l0 (sp λx fx h=>sl ((!qM (x.1,x.2.1)||x.2.2.2<0)=false->YY x.2.1/\XT (x.1,wV x.2.1,x.2.2)) (by
 try dsimp only[Ty.den]at*
 obtain⟨h1,h2⟩:nF x.2.1/\gT x.1 x.2.2.1:=h;exact λhc=>aij fx.1 fx.2.1 h1 h2 hc))
def ab2:List (Nat×Ct):=(12,adp)::aao
theorem TI:cr ab2:=gc arF func12 (Sn)
theorem KG{room h n:Int}{s:dr}(hs:eA (room,s)=true)(a:h=0\/h=1)(f:0<=n):nH (room,s,h,n)=0:=by
 unfold nH;grind
theorem ahp{room h n:Int}{s:dr}(hs:eA (room,s)=true)(a:h=0\/h=1)(t:1<=n)(hm:n<=1048576): ∃f,Ao (room,s,h,n)=(f,n-1,0)/\eA (room,f)=true/\(aa [f.1.1,f.1.2] h).size=0:=by
 have g:=KG hs a (n:=n) (by omega);obtain⟨i,j,k,l,m⟩:=(mN _ _).1 hs;have o:(n==0)=false:=by grind
 have hw:i64.wrap (n-1)=n-1:=aB (by omega) (by omega);unfold Ao MT;simp only[g,o,hw];refine⟨_,rfl,(mN _ _).2 ⟨i,j,?_,?_,m⟩,?_⟩
 ·rcases a with rfl|rfl
  ·exact(by omega:0<=room)
  ·exact k
 ·rcases a with rfl|rfl
  ·exact l
  ·exact(by omega:0<=room)
 ·rcases a with rfl|rfl<;>rfl
theorem afa{room h n:Int}{s:dr}(hs:eA (room,s)=true)(a:h=0\/h=1)(o:1<=n)(hm:n<=1048576): ∃f,Af (room,s,h,n)=(f,n-1,0)/\eA (room,f)=true:=by
 have g:=KG hs a (n:=n) (by omega);obtain⟨i,j,k,l,t⟩:=(mN _ _).1 hs;have m:(n==0)=false:=by grind
 have hw:i64.wrap (n-1)=n-1:=aB (by omega) (by omega);unfold Af L2;simp only[g,m,hw];exact⟨_,rfl,(mN _ _).2 ⟨i,j,k,l,a⟩⟩
theorem PN{room h n:Int}{s:dr}{d:ByteArray}(hs:eA (room,s)=true)(f:h=0\/h=1)(g:d.size<=room - ((aa [s.1.1,s.1.2] h).size:Int))(i:d.size<=n)(hm:n<=1048576):
  ∃a,qo (room,s,h,d,n)=(a,n-d.size,0)/\eA (room,a)=true:=by
 have j:=KG hs f (n:=n) (by omega);obtain⟨k,l,m,o,t⟩:=(mN _ _).1 hs;have hw:i64.wrap (room - ((aa [s.1.1,s.1.2] h).size:Int))=room - ((aa [s.1.1,s.1.2] h).size:Int):=aB (by omega) (by omega);have u:i64.wrap (n-d.size)=n-d.size:=aB (by omega) (by omega);have h1:decide (d.size>room - ((aa [s.1.1,s.1.2] h).size:Int))=false:=by simp_all
 have h2:decide (n<d.size)=false:=by simp_all
 unfold qo;grind [dA,mN,mO]
theorem OM{b:ae}: ∀{l:List aT} {s:ByteArray},(snapS b l s).size<=s.size+6*l.length
 | [],s=>by simp[snapS]
 |r::l,s=>by
  have h1:=OM (b:=b) (l:=l) (s:=bP (av s++av (my (b,r)).1));grind [snapS,Ii,jm,pL]
theorem Oo{b:ae}{s:dr}{m:aq}{n:Int}(hs:eA (b.2.2.1,s)=true)(hm:bk b m)(hr:18*((b.2.2.2.2.2.2.2.length:Int)+(m.2.2.2.length:Int))<=b.2.2.1)(y:b.2.2.1+2<=n)(j:n<=1048576):
  ∃g a,tE (b,s,m,n)=(g,a,0)/\n - (b.2.2.1+2)<=a/\a<=n/\eA (b.2.2.1,g)=true:=by
 obtain⟨z,A,C,I,J⟩:=(mN _ _).1 hs;have k:b.2.2.2.2.2.2.2.length<=maxLen:=auv hm.bG.cn.2 (by decide);have h:m.1.length<=maxLen:=by rw[hm.l1];omega
 have i:m.2.2.2.length<=maxLen:=auv hm.len (by decide);have hi:cL (b,m)=true:=(mS k h i).2 hm;have L:=N4 (b:=b) h i;have M:=OM (b:=b) (l:=kf (b,m)) (s:=ByteArray.mk #[]);have N:((snapS b (kf (b,m)) (ByteArray.mk #[])).size:Int)<=b.2.2.1:=by
  have h0:(ByteArray.mk #[]).size=0:=rfl;have O:=hm.l1;omega
 have hw:i64.wrap ((1:Int)-s.2)=1-s.2:=aB (by omega) (by omega);have f:(1:Int)-s.2=0\/(1:Int)-s.2=1:=by omega
 have o:decide (n<(0:Int))=false:=by grind
 unfold tE;simp only[hs,hi,o,awa,azf,auw,hw];obtain⟨P,t,u,Q⟩:=ahp hs f (n:=n) (by omega) j;rw[t];simp only[ay1,au3];obtain⟨S,w,x⟩:=PN (d:=snapS b (kf (b,m)) (ByteArray.mk #[])) u f (n:=n-1) (by omega) (by omega) (by omega);rw[w];simp only[ay1,au3];obtain⟨T,c1,c2⟩:=afa x f (n:=n-1 - ((snapS b (kf (b,m)) (ByteArray.mk #[])).size:Int)) (by omega) (by omega);grind
theorem ahd{b:ae}{m:aq}(hm:bk b m):gS (b,m)=true↔18*(b.2.2.2.2.2.2.2.length+m.2.2.2.length+1)+6<=b.2.2.1:=by
 have a:=hm.bG.cn.2;have i:=hm.len;have f:b.2.2.2.2.2.2.2.length<=maxLen:=auv a (by decide);have g:m.1.length<=maxLen:=by rw[hm.l1];omega
 have h:m.2.2.2.length<=maxLen:=auv hm.len (by decide);have hi:=(mS f g h).2 hm;unfold gS;grind [aB]
theorem UE{α:Type}(l:List α)(i:Int):(iR l i).length<=l.length:=by
 grind [iR]
theorem akF{b:ae}{m:aq}{r:aT}(hr:dh b r):(bE m r).2.2.2.length<=m.2.2.2.length+1/\((r.1=1->(bN (m,r.2.1,r.2.2.1)).2=true)->(bE m r).2.2.2.length<=m.2.2.2.length):=by
 unfold bE;rcases hr with⟨h1|h1,a,h3,h4⟩|⟨h1,a,h3,h4,h5⟩|⟨h1,a,h3,h4,h5,h6⟩|⟨h1,h2,h3,h4,h5,h6,h7⟩|⟨h1|h1,h2,h3,h4,h5,h6,h7⟩
 ·rw[xo h1]
  cases hf:(bN (m,r.2.1,r.2.2.1)).2 with
  |true=>exact⟨azt _,λ_=>au7 _⟩
  |false=>exact⟨ax4 (Jm m.2.2.2 (bN (m,r.2.1,r.2.2.1)).1 [(r.2.1,r.2.2.1,-1,0,false)] rfl),λh=>absurd (h h1) (by decide)⟩
 ·rw[xr h1]
  cases(bN (m,r.2.1,r.2.2.1)).2 with
  |true=>exact⟨az7 (UE _ _),λ_=>UE _ _⟩
  |false=>exact⟨azt _,λ_=>au7 _⟩
 ·rw[Bg h1]
  cases(bN (m,r.2.1,r.2.2.1)).2 with
  |true=>exact⟨az7 (ax4 (auz ..)),λ_=>ax4 (auz ..)⟩
  |false=>exact⟨azt _,λ_=>au7 _⟩
 ·rw[Bj h1]
  cases(bN (m,r.2.1,r.2.2.1)).2 with
  |true=>exact⟨az7 (ax4 ((auz ..).trans (auz ..))),λ_=>ax4 ((auz ..).trans (auz ..))⟩
  |false=>exact⟨azt _,λ_=>au7 _⟩
 ·rw[G6 h1];exact⟨azt _,λ_=>au7 _⟩
 ·rw[Bd h1];exact⟨azt _,λ_=>au7 _⟩
 ·rw[G8 h1];exact⟨azt _,λ_=>au7 _⟩
def An(b:ae)(m:aq)(r:aT):Prop:=r.1=1->(bN (m,r.2.1,r.2.2.1)).2=true\/gS (b,m)=true
structure Pow (b:ae) (s:dr) (m:aq):Prop where
 bl:eA (b.2.2.1,s)=true
 ba:bk b m
 room:18*((b.2.2.2.2.2.2.2.length:Int)+(m.2.2.2.length:Int))+6<=b.2.2.1
theorem adX{b:ae}{s:dr}{m:aq}{r:aT}{n:Int}(h:Pow b s m)(hr:dh b r)(o:An b m r)(z:b.2.2.1+2<=n)(t:n<=1048576):
  ∃a f,mn (b,s,m,r,n)=(a,bE m r,f,0)/\n - (b.2.2.1+2)<=f/\f<=n/\Pow b a (bE m r):=by
 obtain⟨P,Q,S,T,g⟩:=(mN _ _).1 h.bl;have u:b.2.2.2.2.2.2.2.length<=maxLen:=auv h.ba.bG.cn.2 (by decide);have A:m.1.length<=maxLen:=by rw[h.ba.l1];omega
 have C:m.2.2.2.length<=maxLen:=auv h.ba.len (by decide);have hi:=(mS u A C).2 h.ba;have I:=(uq u r).2 ⟨h.ba.bG,hr⟩;have J:fy (b,m,r)=(bE m r,0):=by
  unfold fy;simp only[hi,I,awa,azf,auw];rfl
 have i:bk b (bE m r):=pz h.ba hr;have hl:=akF (m:=m) hr;have w:18*(b.2.2.2.2.2.2.2.length+((bE m r).2.2.2.length:Int))+6<=b.2.2.1:=by
  have h0:=h.room;by_cases x:r.1=1->(bN (m,r.2.1,r.2.2.1)).2=true
  ·grind
  ·have h1:=ayp λh1=>x λh2=>absurd h2 h1
   have h2:=λh2=>x λ_=>h2
   have h3:=(ahd h.ba).1 ((o h1).resolve_left h2);have:=hl.1;omega
 have L:decide (n<0)=false:=by rw[au0];omega
 have M:(((r.1==1)&&(!((bN (m,r.2.1,r.2.2.1)).2)))&&(!(gS (b,m))))=false:=by
  by_cases h1:r.1=1
  ·rcases o h1 with h2|h2<;>rw[h2]<;>simp
  ·rw[beq_eq_false_iff_ne.2 h1];rfl
 have y:(aa [s.1.1,s.1.2] s.2)=fc s:=by
  unfold fc;rcases g with h5|h5<;>rw[h5]<;>rfl
 have U:((fc s).size:Int)<=b.2.2.1:=by
  rw[<- y];rcases g with h5|h5<;>rw[h5]<;>assumption
 have V:=Ii (b,r);have hw:i64.wrap (b.2.2.1 - ((fc s).size:Int))=b.2.2.1 - ((fc s).size:Int):=aB (by omega) (by omega);unfold mn;simp only[J,h.bl,L,axh,awa,azf,auw,M,hw];by_cases j:((my (b,r)).1.size:Int)<=b.2.2.1 - ((fc s).size:Int)
 ·obtain⟨a,k,l⟩:=PN h.bl g (by rw[y];exact j) (by have:=h.room;omega) t
  rw[ax1 j,au3,k];simp only[ay1,au3];exact⟨_,_,rfl,by have:=h.room;omega,by omega,l,i,w⟩
 ·obtain⟨a,f,k,l,N,O⟩:=Oo h.bl i (by omega) z t
  rw[axt j,auw,k];simp only[ay1,au3];exact⟨_,_,rfl,l,N,O,i,w⟩
def RegRs(b:ae):aq->List aT->Prop
 |_,[]=>True
 |m,r::l=>dh b r/\An b m r/\RegRs b (bE m r) l
theorem ae2{l:List aT}{t:au}(h:Pow t.1 t.2.1.2.1 t.2.1.1)(j:t.2.2.2.2.2.1=0)(m:RegRs t.1 t.2.1.1 l)(hl:l.length<=maxLen)(M:(t.1.2.2.1+2)*l.length<=t.2.2.2.2.1)(N:t.2.2.2.2.1<=1048576):
  ∃bl a,ed (l,t)=((),t.1,(l.foldl bE t.2.1.1,bl,t.2.1.2.2),t.2.2.1,t.2.2.2.1,a,0,t.2.2.2.2.2.2)/\t.2.2.2.2.1 - (t.1.2.2.1+2)*l.length<=a/\a<=t.2.2.2.2.1/\Pow t.1 bl (l.foldl bE t.2.1.1):=by
 have O:=((mN _ _).1 h.bl).1;have o:=iQ (step:=iJ) (k:=(l,l.length)) (n:=l.length)
  (λi y=> ∃bl a,y=((i:Int),t.1,((l.take i).foldl bE t.2.1.1,bl,t.2.1.2.2),t.2.2.1,t.2.2.2.1,a,0,t.2.2.2.2.2.2)/\t.2.2.2.2.1 - (t.1.2.2.1+2)*i<=a/\a<=t.2.2.2.2.1/\Pow t.1 bl ((l.take i).foldl bE t.2.1.1)/\RegRs t.1 ((l.take i).foldl bE t.2.1.1) (l.drop i))
  (λi y hi f=>by
   obtain⟨bl,a,rfl,h1,h2,h3,h4⟩:=f;have g:(i:Int)<l.length:=by omega
   have s:=cC (au9 i) g hl;have ht:l.take (i+1)=l.take i++ [aa l i]:=by rw[cc l i hi];exact axc hi
   have u:l.drop i=aa l i::l.drop (i+1):=by rw[cc l i hi];exact av8 hi
   rw[u]at h4;obtain⟨w,x,z⟩:=h4;have hb:(t.1.2.2.1+2)*(i+1)<=(t.1.2.2.1+2)*l.length:=aAi (by omega) (by omega);have A:(t.1.2.2.1+2)*(i+1)=(t.1.2.2.1+2)*i+(t.1.2.2.1+2):=by rw[Int.mul_add,Int.mul_one]
   obtain⟨C,I,J,P,Q,L⟩:=adX h3 w x (n:=a) (by omega) (by omega);unfold iJ;simp only[g,avz,au3,auw,s,J];refine⟨_,rfl,C,I,?_,?_,by omega,?_,?_⟩
   ·rw[ht,axq];rfl
   ·rw[Int.natCast_add,Int.natCast_one,A];omega
   ·rw[ht,axq];exact L
   ·rw[ht,axq];exact z)
  (λy f=>by
   obtain⟨bl,a,rfl,_⟩:=f;unfold iJ;simp only[aBg,awe,auw]) (Nat.succ (jS (l,l.length) (0,t))) (0,t) (by unfold jS;simp)
  ⟨t.2.1.2.1,t.2.2.2.2.1,aww rfl (aww rfl (aww rfl (aww rfl (aww rfl (aww rfl (aww j rfl)))))),by simp,au8 _,h,m⟩
 obtain⟨⟨bl,a,e,h1,h2,h3,_⟩,hr⟩:=o;rw[ayk]at e h3;refine⟨bl,a,?_,h1,h2,h3⟩;unfold ed yV yO;simp only;rw[hr,e];rfl
def sV:dr:=((ByteArray.empty,ByteArray.empty),0)
def oW(n:Nat):aq:=(aE ab n,aE aw n,aE aw n,[])
def wk(n:Nat)(s:dr):aW:=(oW n,s,aE du n,List.replicate n (qI ()),aE iM n,aE jw n,[],aE aU n,0,0,0)
theorem aeH{b:ae}(a:aR b)(hl:b.2.2.2.2.2.2.2.length<=maxLen):fZ b=(oW b.2.2.2.2.2.2.2.length,()):=by
 unfold fZ;rw[KF hl a];rfl
theorem afM{b:ae}(a:aR b)(hl:b.2.2.2.2.2.2.2.length<=maxLen):wN (b,sV)=oW b.2.2.2.2.2.2.2.length:=by
 unfold wN;have h:(gA ((b,sV).1,fc (b,sV).2)).1= []:=rfl;rw[h,aeH a hl];rfl
theorem Dv{b:ae}(a:aR b):bk b (oW b.2.2.2.2.2.2.2.length):=by
 refine⟨a,ff _,ff _,ff _,λp f=> ?_,λe g=>(by cases g),List.Pairwise.nil⟩;have:p=0:=axr f;omega
theorem ahj{b:ae}{s:dr}(a:aR b)(hs:eA (b.2.2.1,s)=true)(hr:18*b.2.2.2.2.2.2.2.length+6<=b.2.2.1):Gf (b,oW b.2.2.2.2.2.2.2.length,s)=(wk b.2.2.2.2.2.2.2.length s,0):=by
 have g:=a.cn.2;have hl:b.2.2.2.2.2.2.2.length<=maxLen:=auv g (by decide);have h:=(HR hl (by rw[(Dv a).l1];omega) (awb _)).2 ⟨Dv a,by show 18*(_+(0:Int))+6<=_;omega⟩;unfold Gf zB YJ UN;simp only[h,hs,awa,azf,auw];generalize b.2.2.2.2.2.2.2.length=n at*;have j:=iQ (step:=qb) (k:=n) (n:=n) (λi y=>y=((i:Int),oW n,s,aE du n,List.replicate i (qI ()),aE iM n,aE jw n,[],aE aU n,0,0,0))
  (λi y hi f=>by
   subst f;have l:i<(n:Int):=by omega
   have m:=cC (au9 i) l hl;simp_all [qb,avz,au3,List.replicate_succ'])
  (λy f=>by
   simp_all [qb]) (Nat.succ (zq n (0,wv (oW n),s,aE du n,[],aE iM n,aE jw n,[],aE aU n,0,0,0)))
  (0,wv (oW n),s,aE du n,[],aE iM n,aE jw n,[],aE aU n,0,0,0) (by simp_all [zq]) rfl
 rw[j.1];rfl
theorem start_eq{b:ae}(a:aR b)(hr:18*(b.2.2.2.2.2.2.2.length:Int)+6<=b.2.2.1)(h:b.2.2.1<=65536): ∃s,F8 b=(wk b.2.2.2.2.2.2.2.length s,0)/\eA (b.2.2.1,s)=true:=by
 have i:b.2.2.2.2.2.2.2.length<=8:=a.cn.2;have hl:b.2.2.2.2.2.2.2.length<=maxLen:=auv i (by decide);have hs:eA (b.2.2.1,sV)=true:=(mN _ _).2 ⟨by omega,h,by show((0:Nat):Int)<=_;omega,by show((0:Nat):Int)<=_;omega,.inl rfl⟩;obtain⟨f,g,h1,h2,h3,h4⟩:=Oo hs (Dv a) (by show 18*(_+((0:Nat):Int))<=_;omega) (by omega) (au8 _);have j:=afM a hl;have k:pq (b,sV,(1048576:Int))=(f,oW b.2.2.2.2.2.2.2.length,g,0):=by
  simp_all [pq]
 have l:Ga (b,sV,(1048576:Int))=(wk b.2.2.2.2.2.2.2.length f,g,0):=by
  simp_all [Ga,axh,auw,ahj]
 refine⟨f,?_,h4⟩;unfold F8;rw[KF hl a];grind [ByteArray.empty,sV]
theorem QM(n:Nat)(s:dr):nF (wk n s):=by
 refine⟨λp a=>axr a,λd f=> ?_⟩;have:=axr f;rw[this];exact⟨au8 _,(by decide:(0:Int)<=4294967295)⟩
theorem Ie{α:Type}{l:List α}{p:α->Prop}(h: ∀a∈l,p a){i:Nat}{v:α}(f:p v): ∀a∈l.set i v,p a:=λa g=>by
 grind
def oE(b:ae)(c:List gy):ae:=(b.1,b.2.1,b.2.2.1,b.2.2.2.1,b.2.2.2.2.1,b.2.2.2.2.2.1,b.2.2.2.2.2.2.1,c)
theorem alC{fl d:Int}{c:gy}(h:eF fl c=true)(a:1<=d/\d<=10000):eF fl (d,c.2)=true:=by
 simp_all [eF,fL]
theorem ak3{fl q s:Int}{c:gy}(h:eF fl c=true)(a:1<=q/\q<=10000)(hs:0<=s/\s<=10000):eF fl (c.1,c.2.1,q,s,c.2.2.2.2)=true:=by
 simp_all [eF,fL]
theorem alh{x:af}(h:(0<=x.1/\x.1<=255)/\0<=x.2/\x.2<=255): ∃c,tG x=oE (jk x) c/\c.length=(jk x).2.2.2.2.2.2.2.length/\ ∀a∈c,eF (jk x).1 a=true:=by
 have j:=(Gv h).1;have l:(jk x).2.2.2.2.2.2.2.length<=8:=j.cn.2;unfold tG Wm;generalize jk x=b at*;have m:=iQ (step:=qi) (k:=x.2) (n:=b.2.2.2.2.2.2.2.length) (λi y=> ∃c,y=((i:Int),oE b c)/\c.length=b.2.2.2.2.2.2.2.length/\ ∀a∈c,eF b.1 a=true)
  (λi y hi g=>by
   obtain⟨c,rfl,h1,h2⟩:=g;have f:(i:Int)<((oE b c).2.2.2.2.2.2.2.length:Int):=by show(i:Int)<(c.length:Int);omega
   have o:=cC (au9 i) f (by show c.length<=maxLen;rw[h1];exact auv l (by decide));unfold qi;simp only[f,avz,au3,o];refine⟨_,rfl,c.set ((i:Int)).toNat (i64.wrap ((1:Int)+i64.wrap (Int.tmod x.2 16)),(aa c (i:Int)).2),rfl,(auz ..).trans h1,Ie h2 (alC (h2 _ (iW (au9 i) f)) ?_)⟩;have ht:Int.tmod x.2 16=x.2 % 16:=avu h.2.1;rw[ht,aB (x:=x.2 % 16) (by omega) (by omega),aB (by omega) (by omega)];omega)
  (λy g=>by
   obtain⟨c,rfl,h1,h2⟩:=g;unfold qi;have f: ¬ ((b.2.2.2.2.2.2.2.length:Int)<((oE b c).2.2.2.2.2.2.2.length:Int)):=by show¬ (_<(c.length:Int));omega
   simp only[f,awe,auw]) (Nat.succ (sn x.2 ((0:Int),b))) ((0:Int),b) (by unfold sn;simp) ⟨_,rfl,rfl,j.eU⟩
 obtain⟨c,h1,h2,h3⟩:=m.1;exact⟨c,av7 Prod.snd h1,h2,h3⟩
theorem zf{x:ax}(h:(0<=x.1/\x.1<=255)/\(0<=x.2.1/\x.2.1<=255)/\0<=x.2.2/\x.2.2<=255):aR (F7 x)/\(F7 x).1<=6/\(F7 x).2.2.1<=678/\18*((F7 x).2.2.2.2.2.2.2.length:Int)+24<=(F7 x).2.2.1:=by
 have o:=Gv (x:=(x.1,x.2.1)) ⟨h.1,h.2.1⟩;obtain⟨g,t,l0,u⟩:=alh (x:=(x.1,x.2.1)) ⟨h.1,h.2.1⟩;have l:=o.1;have h6:=o.2;have w:(jk (x.1,x.2.1)).2.2.2.2.2.2.2.length<=8:=l.cn.2;unfold F7 aa1 adq;rw[t];generalize jk (x.1,x.2.1)=b at*;have A:Int.tmod x.2.2 3=x.2.2 % 3:=avu h.2.2.1;have C:Int.tdiv x.2.2 3=x.2.2/3:=axi h.2.2.1;have I:i64.wrap (1+i64.wrap (Int.tmod x.2.2 3))=1+x.2.2 % 3:=by
  rw[A,aB (x:=x.2.2 % 3) (by omega) (by omega),aB (by omega) (by omega)]
 have J:i64.wrap (i64.wrap (i64.wrap (18*((oE b g).2.2.2.2.2.2.2.length:Int))+24)+i64.wrap ((6:Int)*i64.wrap (u8.wrap (Int.tdiv x.2.2 3))))=18*b.2.2.2.2.2.2.2.length+24+6*(x.2.2/3):=by
  have L:((oE b g).2.2.2.2.2.2.2.length:Int)=b.2.2.2.2.2.2.2.length:=by show(g.length:Int)=_;omega
  have M:u8.wrap (x.2.2/3)=x.2.2/3:=by rw[av6];omega
  rw[L,C,M,aB (x:=x.2.2/3) (by omega) (by omega),aB (x:=6*(x.2.2/3)) (by omega) (by omega),aB (x:=18*b.2.2.2.2.2.2.2.length) (by omega) (by omega),aB (x:=18*b.2.2.2.2.2.2.2.length+24) (by omega) (by omega),aB (by omega) (by omega)]
 rw[I,J];have N:=iQ (step:=vH) (k:=x) (n:=b.2.2.2.2.2.2.2.length) (λi y=> ∃c,y=((i:Int),b.1,1+x.2.2 % 3,18*b.2.2.2.2.2.2.2.length+24+6*(x.2.2/3),b.2.2.2.1,b.2.2.2.2.1,b.2.2.2.2.2.1,b.2.2.2.2.2.2.1,c)/\c.length=b.2.2.2.2.2.2.2.length/\ ∀a∈c,eF b.1 a=true)
  (λi y hi m=>by
   obtain⟨c,rfl,h1,h2⟩:=m;have j:(i:Int)<c.length:=by omega
   have O:=cC (au9 i) j (by rw[h1];exact auv w (by decide));have b1:i<c.length:=by omega
   have P:Int.tmod x.2.2 4=x.2.2 % 4:=avu h.2.2.1;have Q:Int.tmod x.2.1 5=x.2.1 % 5:=avu h.2.1.1;have S:i64.wrap ((1:Int)+i64.wrap (Int.tmod x.2.2 4))=1+x.2.2 % 4:=by
    rw[P,aB (x:=x.2.2 % 4) (by omega) (by omega),aB (by omega) (by omega)]
   have v2:i64.wrap (Int.tmod x.2.1 5)=x.2.1 % 5:=by rw[Q,aB (by omega) (by omega)]
   unfold vH Kh;simp only[j,avz,au3,O,S,v2];have e:=jU (v:=((aa c (i:Int)).1,(aa c (i:Int)).2.1,1+x.2.2 % 4,(aa c (i:Int)).2.2.2)) b1;have T:=ak3 (q:=1+x.2.2 % 4) (s:=x.2.1 % 5) (h2 _ (iW (au9 i) j)) (by omega) (by omega);have U:eF b.1 ((aa c (i:Int)).1,(aa c (i:Int)).2.1,1+x.2.2 % 4,(aa c (i:Int)).2.2.2)=true:=by
    have q:=h2 _ (iW (au9 i) j);unfold eF fL at q⊢;simp only[au4,adv]at q⊢;omega
   refine⟨_,rfl,_,rfl,(auz ..).trans ((auz ..).trans h1),Ie (Ie h2 U) ?_⟩;have V:=av7 (λz:gy=>z.1) e;have Y:=av7 (λz:gy=>z.2.1) e;have Z:=av7 (λz:gy=>z.2.2.1) e;have e4:=av7 (λz:gy=>z.2.2.2.2) e;have key:((aa (c.set ((i:Int)).toNat ((aa c (i:Int)).1,(aa c (i:Int)).2.1,1+x.2.2 % 4,(aa c (i:Int)).2.2.2)) (i:Int)).1,(aa (c.set ((i:Int)).toNat ((aa c (i:Int)).1,(aa c (i:Int)).2.1,1+x.2.2 % 4,(aa c (i:Int)).2.2.2)) (i:Int)).2.1,(aa (c.set ((i:Int)).toNat ((aa c (i:Int)).1,(aa c (i:Int)).2.1,1+x.2.2 % 4,(aa c (i:Int)).2.2.2)) (i:Int)).2.2.1,x.2.1 % 5,(aa (c.set ((i:Int)).toNat ((aa c (i:Int)).1,(aa c (i:Int)).2.1,1+x.2.2 % 4,(aa c (i:Int)).2.2.2)) (i:Int)).2.2.2.2)=((aa c (i:Int)).1,(aa c (i:Int)).2.1,1+x.2.2 % 4,x.2.1 % 5,(aa c (i:Int)).2.2.2.2):=aww V (aww Y (aww Z (aww rfl e4)));exact(av7 (eF b.1) key).trans T)
  (λy m=>by
   obtain⟨c,rfl,h1,h2⟩:=m;unfold vH;have j: ¬ (b.2.2.2.2.2.2.2.length<(c.length:Int)):=by omega
   simp only[j,awe,auw]) (Nat.succ (zU x ((0:Int),b.1,1+x.2.2 % 3,18*b.2.2.2.2.2.2.2.length+24+6*(x.2.2/3),(oE b g).2.2.2))) ((0:Int),b.1,1+x.2.2 % 3,18*b.2.2.2.2.2.2.2.length+24+6*(x.2.2/3),(oE b g).2.2.2) (by unfold zU oE;simp[l0]) ⟨g,rfl,l0,u⟩
 obtain⟨c,h1,h2,h3⟩:=N.1;have a1:=av7 Prod.snd h1;have a2: ∀f:ae,f=(b.1,1+x.2.2 % 3,18*b.2.2.2.2.2.2.2.length+24+6*(x.2.2/3),b.2.2.2.1,b.2.2.2.2.1,b.2.2.2.2.2.1,b.2.2.2.2.2.2.1,c)->aR f/\f.1<=6/\f.2.2.1<=678/\18*f.2.2.2.2.2.2.2.length+24<=f.2.2.1:=by
  rintro f rfl
  have a3:=h2;have a4:1<=b.2.2.2.2.2.2.2.length:=l.cn.1;refine⟨⟨l.fl,⟨by show 1<=c.length;omega,by show c.length<=8;omega⟩,by show 1<=1+x.2.2 % 3/\1+x.2.2 % 3<=16;omega,l.Mu,h3,l.EN,?_⟩,h6,?_,?_⟩
  ·show 18*c.length+24<=18*b.2.2.2.2.2.2.2.length+24+6*(x.2.2/3)/\18*b.2.2.2.2.2.2.2.length+24+6*(x.2.2/3)<=65536
   omega
  ·show 18*b.2.2.2.2.2.2.2.length+24+6*(x.2.2/3)<=678;omega
  ·show 18*c.length+24<=18*b.2.2.2.2.2.2.2.length+24+6*(x.2.2/3);omega
 exact a2 _ a1
theorem Jr{x:ax}(h:(0<=x.1/\x.1<=255)/\(0<=x.2.1/\x.2.1<=255)/\0<=x.2.2/\x.2.2<=255): ∃s,F8 (F7 x)=(wk (F7 x).2.2.2.2.2.2.2.length s,0)/\eA ((F7 x).2.2.1,s)=true:=by
 grind [zf,start_eq]
theorem afj{b:ae}(a:aR b):(fO (b,ByteArray.mk #[])).2≠0:=by
 have hl:b.2.2.2.2.2.2.2.length<=maxLen:=auv a.cn.2 (by decide);rw[rl b hl];unfold dV;have h:fD b (ByteArray.mk #[]) (14+19*dz b) 165≠0:=by
  unfold fD;rw[avb (by simp_all),avf (by show(0:Int)≠14+19*b.2.2.2.2.2.2.2.length;omega)];decide
 simp_all
theorem apl{x:ax}(h:(0<=x.1/\x.1<=255)/\(0<=x.2.1/\x.2.1<=255)/\0<=x.2.2/\x.2.2<=255):nF (F8 (F7 x)).1:=by
 grind [Jr,QM]
theorem agm{b:ae}(a:aR b):gT b (ByteArray.mk #[]):=λh=>absurd h (afj a)
theorem agC{x:ax}(h:pe x)(n:Int):pe x/\vO (F7 x,(F8 (F7 x)).1,ByteArray.mk #[],n):=by
 refine⟨h,?_⟩;unfold vO;dsimp only;exact⟨apl h,agm (zf h).1⟩
def NA(x:Unit):=letI a:=F7 (2,40,90);letI b:=F8 a;b.2==0&&(gG (a,b.1,ByteArray.mk #[],1048576)).2.2==0&&(gG (a,b.1,ByteArray.mk #[],1048576)).1.2.2.2.2.2.2.2.2.1==1&&(gG (a,b.1,ByteArray.mk #[],1048576)).1.2.2.2.2.2.2.2.2.2.1==1&&(gG (a,b.1,ByteArray.mk #[],1048576)).2.1.2.2.1&&((gG (a,b.1,ByteArray.mk #[],1048576)).2.1.2.2.2.2.2.length:Int)==1
def aau:Ct:=⟨Ty.unit,[],aw,ah.one none,none,none,NA⟩
theorem ar4:an 19 aau:=ao (dB (B4 true) lY cY TI []) func19 [] l0 (λx fx _=>sl (letI a:=(2,40,90);pe a/\vO (F7 a,(F8 (F7 a)).1,ByteArray.mk #[],1048576)) (by
 try dsimp only[Ty.den]at*
 exact agC (x:=((2:Int),(40:Int),(90:Int))) ⟨⟨by decide,by decide⟩,⟨by decide,by decide⟩,by decide,by decide⟩ 1048576))
def ati:List (Nat×Ct):=(19,aau)::ab2
theorem aiG:cr ati:=gc ar4 func19 (TI)
structure gU (i:Nat) (oc oc':List jj):Prop where
 len:oc'.length=oc.length
 ne: ∀j:Nat,j≠i->aa oc' (j:Int)=aa oc (j:Int)
 ey:(aa oc' (i:Int)).2.1=(aa oc (i:Int)).2.1
theorem gU.refl{i:Nat}{a:List jj}:gU i a a:=⟨rfl,λ_ _=>rfl,rfl⟩
theorem gU.set{i:Nat}{a f:List jj}(hi:i<a.length)(h:gU i a f){v:jj}(k:v.2.1=(aa f i).2.1):gU i a (f.set ((i:Int)).toNat v):=
 have b:=by rw[h.len];omega
 ⟨(auz ..).trans h.len,λj g=>(fR b g).trans (h.ne j g),(av7 (λz:jj=>z.2.1) (jU b)).trans (k.trans h.ey)⟩
def oU(x:au)(j:Int):bT:=bif gB (aa x.2.1.1.1 j)&& !aa x.2.1.1.2.1 j then(mq (x.1,j,aa x.2.1.2.2.2.1 j,mo (x.1,x.2.1.1,j))).1 else aa x.2.1.2.2.2.1 j
def lH(x:au)(aA:List bT)(a:List jj):au:=
 (x.1,(x.2.1.1,x.2.1.2.1,x.2.1.2.2.1,aA,x.2.1.2.2.2.2),x.2.2.1,x.2.2.2.1,x.2.2.2.2.1,x.2.2.2.2.2.1,x.2.2.2.2.2.2.1,x.2.2.2.2.2.2.2.1,x.2.2.2.2.2.2.2.2.1,cd x.2.1.1,x.2.2.2.2.2.2.2.2.2.2.1,(!x.2.2.2.1),x.2.2.2.2.2.2.2.2.2.2.2.2.1,x.2.2.2.2.2.2.2.2.2.2.2.2.2.1,a)
structure A2 (x:au) (aA:List bT) (oc:List jj) (i:Nat):Prop where
 l1:aA.length=x.1.2.2.2.2.2.2.2.length
 l2:oc.length=x.1.2.2.2.2.2.2.2.length
 aN: ∀j:Nat,i<=j->aa aA (j:Int)=aa x.2.1.2.2.2.1 (j:Int)
 new: ∀j:Nat,j<i->aa aA (j:Int)=oU x j
 ey: ∀j:Nat,(aa oc (j:Int)).2.1=(aa x.2.2.2.2.2.2.2.2.2.2.2.2.2.2 (j:Int)).2.1
theorem A2.step{x:au}{aA k:List bT}{m l:List jj}{i:Nat}(h:A2 x aA m i)(hi:i<x.1.2.2.2.2.2.2.2.length)(f:gU i m l)(hb:k=aA/\oU x i=aa x.2.1.2.2.2.1 i\/k=aA.set ((i:Int)).toNat (oU x i)):A2 x k l (i+1):=by
 have b:i<aA.length:=by rw[h.l1];omega
 have hl: ∀j:Nat,(aa l j).2.1=(aa x.2.2.2.2.2.2.2.2.2.2.2.2.2.2 j).2.1:=λj=>by
  by_cases a:j=i
  ·subst a;exact f.ey.trans (h.ey j)
  ·rw[f.ne j a];exact h.ey j
 rcases hb with⟨rfl,o⟩|rfl
 ·refine⟨h.l1,f.len.trans h.l2,λj a=>h.aN j (by omega),λj a=> ?_,hl⟩
  by_cases g:j=i
  ·subst g;rw[o];exact h.aN j (au7 _)
  ·exact h.new j (by omega)
 ·refine⟨(auz ..).trans h.l1,f.len.trans h.l2,λj a=>(fR b (by omega)).trans (h.aN j (by omega)),λj a=> ?_,hl⟩
  by_cases g:j=i
  ·subst g;exact jU b
  ·exact(fR b g).trans (h.new j (by omega))
theorem agl{x:au}(h:cD x): ∃aA a,(sY x).2=lH x aA a/\A2 x aA a x.1.2.2.2.2.2.2.2.length:=by
 have m:=h.p1;have M:=h.n8;unfold sY Vn Ub;have A:=iQ (step:=uV) (k:=(x.2.1.1.1,(x.2.1.1.1.length:Int))) (n:=x.1.2.2.2.2.2.2.2.length)
  (λi y=> ∃aA a,y=((i:Int),lH x aA a)/\A2 x aA a i)
  (λi y hi s=>by
   obtain⟨aA,a,rfl,g⟩:=s;have o:(i:Int)<(x.2.1.1.1.length:Int):=by rw[m];omega
   have u:=cC (au9 i) o (by rw[m];unfold maxLen;omega);have f:i<a.length:=by rw[g.l2];exact hi
   unfold uV;simp only[o,avz,au3];have C:aa aA (i:Int)=aa x.2.1.2.2.2.1 (i:Int):=g.aN i (au7 _);cases hw:(gB (aa x.2.1.1.1 (i:Int))&&(!aa x.2.1.1.2.1 (i:Int)))with
   |true=>
    have t:(gB (aa x.2.1.1.1 (i:Int))&&(!aa (lH x aA a).2.1.1.2.1 (i:Int)))=true:=hw;have l:(mq (x.1,(i:Int),aa aA (i:Int),mo (x.1,x.2.1.1,(i:Int)))).1=oU x i:=by unfold oU;rw[hw,au3,C]
    have I:gU i a (tZ (x.2.1.1.1,(x.2.1.1.1.length:Int)) ((i:Int),lH x aA a)):=gU.set f gU.refl rfl;have w:gU i a (mZ (x.2.1.1.1,(x.2.1.1.1.length:Int)) ((i:Int),lH x aA a)):=by
     exact gU.set f (gU.set f I (by rfl)) (by rfl)
    rw[t,au3,u];cases(aa (lH x aA a).2.2.2.2.2.2.2.2.1 (i:Int)|| !Ab (aa x.2.1.1.1 (i:Int),(aa (mZ (x.2.1.1.1,(x.2.1.1.1.length:Int)) ((i:Int),lH x aA a)) (i:Int)).2.2.2.1))with
    |true=>exact⟨_,rfl,aA.set ((i:Int)).toNat (mq (x.1,(i:Int),aa aA (i:Int),mo (x.1,x.2.1.1,(i:Int)))).1,_,rfl,g.step hi (gU.set f w rfl) (.inr (by rw[l]))⟩
    |false=>exact⟨_,rfl,aA.set ((i:Int)).toNat (mq (x.1,(i:Int),aa aA (i:Int),mo (x.1,x.2.1.1,(i:Int)))).1,_,rfl,g.step hi w (.inr (by rw[l]))⟩
   |false=>
    have t:(gB (aa x.2.1.1.1 (i:Int))&&(!aa (lH x aA a).2.1.1.2.1 (i:Int)))=false:=hw;have l:oU x i=aa x.2.1.2.2.2.1 (i:Int):=by unfold oU;rw[hw,auw]
    have J:gU i a (BW (x.2.1.1.1,(x.2.1.1.1.length:Int)) ((i:Int),lH x aA a)):=gU.set f (gU.set f gU.refl (by rfl)) (by rfl);have z:gU i a (mW (x.2.1.1.1,(x.2.1.1.1.length:Int)) ((i:Int),lH x aA a)):=gU.set f J rfl;rw[t,auw,u];cases(aa (lH x aA a).2.2.2.2.2.2.2.2.1 (i:Int)|| !Ab (aa x.2.1.1.1 (i:Int),(aa (mW (x.2.1.1.1,(x.2.1.1.1.length:Int)) ((i:Int),lH x aA a)) (i:Int)).2.2.2.1))with
    |true=>exact⟨_,rfl,aA,_,rfl,g.step hi (gU.set f z rfl) (.inl ⟨rfl,l⟩)⟩
    |false=>exact⟨_,rfl,aA,_,rfl,g.step hi z (.inl ⟨rfl,l⟩)⟩)
  (λy s=>by
   obtain⟨aA,a,rfl,g⟩:=s;unfold uV;have o: ¬ ((x.1.2.2.2.2.2.2.2.length:Int)<(x.2.1.1.1.length:Int)):=by rw[m];omega
   simp only[o,awe,auw]) (Nat.succ (CY (x.2.1.1.1,(x.2.1.1.1.length:Int)) ((0:Int),x.1,x.2.1,x.2.2.1,x.2.2.2.1,x.2.2.2.2.1,x.2.2.2.2.2.1,x.2.2.2.2.2.2.1,x.2.2.2.2.2.2.2.1,x.2.2.2.2.2.2.2.2.1,(cd x.2.1.1),x.2.2.2.2.2.2.2.2.2.2.1,(!x.2.2.2.1),x.2.2.2.2.2.2.2.2.2.2.2.2))) ((0:Int),x.1,x.2.1,x.2.2.1,x.2.2.2.1,x.2.2.2.2.1,x.2.2.2.2.2.1,x.2.2.2.2.2.2.1,x.2.2.2.2.2.2.2.1,x.2.2.2.2.2.2.2.2.1,(cd x.2.1.1),x.2.2.2.2.2.2.2.2.2.2.1,(!x.2.2.2.1),x.2.2.2.2.2.2.2.2.2.2.2.2) (by unfold CY;simp[m])
   ⟨_,_,rfl,h.c2,h.c8,λj _=>rfl,λj L=>absurd L (by omega),λj=>rfl⟩
 obtain⟨aA,a,h1,h2⟩:=A.1;exact⟨aA,a,av7 Prod.snd h1,h2⟩
theorem agy{l:List Int}(h:bV l):(vle (l.take 8)).toNat<2^64:=by
 obtain⟨h1,h2⟩:=Dm _ (B0 h 8);have h3:(l.take 8).length<=8:=by grind
 have h4:(256:Int)^(l.take 8).length<=256^8:=by
  generalize(l.take 8).length=m at h3;have:m=0\/m=1\/m=2\/m=3\/m=4\/m=5\/m=6\/m=7\/m=8:=by omega
  grind
 omega
theorem ail{l:List Int}(h:bV l):AB (fG l):=
 ⟨⟨mb h 0,mb h 7⟩,gY h 5,gY h 6,agy (iX h 11)⟩
theorem agL{b:ae}{s:ByteArray}(h:(dV b s).2=0):(ie (dV b s).1.1.1/\ie (dV b s).1.1.2)/\ ∀c∈(dV b s).1.2.2,AB c:=by
 unfold dV at h⊢;by_cases a:fD b s (14+19*dz b) 165=0
 ·rw[avf a]at h⊢
  by_cases g:iK b ((av s).drop 2)=true
  ·rw[avf g]
   have f:bV ((av s).drop 2):=λx j=>jq s x (aws j)
   refine⟨⟨mb f 0,mb f 4⟩,λc k=> ?_⟩;obtain⟨i,_,rfl⟩:=List.mem_map.1 k;exact ail (iX f _)
  ·rw[avb g]at h
   exact absurd h (by decide:(31:Int)≠0)
 ·rw[avb a]at h
  exact absurd h a
theorem Vv{b:ae}{s:ByteArray}(h:(dV b s).2=0):(eP (b,(dV b s).1.1,((0:Int),(0:Int)),(dV b s).1.2.2)).2=0/\dV b (eP (b,(dV b s).1.1,((0:Int),(0:Int)),(dV b s).1.2.2)).1=(((dV b s).1.1,((0:Int),(0:Int)),(dV b s).1.2.2),0):=by
 obtain⟨f,a⟩:=xI h;obtain⟨k,g⟩:=agL h;generalize(dV b s).1=x at*;have l:b.2.2.2.2.2.2.2.length<=8:=f.cn.2;have hl:b.2.2.2.2.2.2.2.length<=maxLen:=auv l (by decide);have i:=xY a;have i:x.2.2.length=b.2.2.2.2.2.2.2.length:=i;have j:gC b (x.1,((0:Int),(0:Int)),x.2.2)=true:=by
  unfold gC jl at a⊢;simp only[au4,adv]at a⊢;obtain⟨⟨⟨⟨⟨h1,h2⟩,h3⟩,h4⟩,h5⟩,h6⟩:=a;exact⟨⟨⟨⟨⟨h1,by decide⟩,by omega⟩,by decide⟩,h5⟩,h6⟩
 rw[Ko b hl (x.1,((0:Int),(0:Int)),x.2.2) (by show x.2.2.length<=30;omega) (λc m=>(g c m).1)];have e:jT b (x.1,((0:Int),(0:Int)),x.2.2)=(fp (bP (gJ (dz b) (x.1,((0:Int),(0:Int)),x.2.2))),0):=by
  unfold jT;simp only[f,j,avz,Bool.and_self,au3]
 rw[e];exact⟨rfl,agd f j k g⟩
theorem VI{b:ae}{s:ByteArray}(a:aR b)(h:(dV b s).2=0->(dV b s).1.2.1.1=0\/(dV b s).1.2.1.1=8):gT b s:=by
 have hl:b.2.2.2.2.2.2.2.length<=maxLen:=auv a.cn.2 (by decide);simp_all [gT,rl]
theorem sE{b:ae}(a:aR b)(s:ByteArray):cJ (b,s)=dV b s:=aeX b (auv a.cn.2 (by decide)) s
theorem aj2{b:ae}{s:ByteArray}(a:aR b)(h:(dV b s).2=0):gT b (eP (b,(dV b s).1.1,(0,0),(dV b s).1.2.2)).1:=
 VI a λ_=> .inl (by rw[(Vv h).2])
theorem ajm{b:ae}{s:ByteArray}(a:aR b)(h:(((dV b s).2==0)&&((dV b s).1.2.1.1 !=8))=false):gT b s:=
 VI a λh0=> .inr (by simp_all)
structure aut (x:au):Prop where
 d1:en (gd x).2
 z2:(fA (gd x).2).2.2.2.2.2.2.1=0
 d2:en (fA (gd x).2).2
 z3:(ij (fA (gd x).2).2).2.2.2.2.2.2.1=0
 d3:en (ij (fA (gd x).2).2).2
 z4:(iS (ij (fA (gd x).2).2).2).2.2.2.2.2.2.1=0
 d4:cD (iS (ij (fA (gd x).2).2).2).2
 eq:(ko x).2=(sY (iS (ij (fA (gd x).2).2).2).2).2
theorem Ft{a:Int}(h:a=0):(a !=0)=false:=by simp_all
def runT(b:ae)(m:aW)(s:ByteArray)(n:Int):au:=(ko (lI b m s n)).2
theorem alJ(b:ae)(m:aW)(s:ByteArray)(n:Int):(runT b m s n).2.2.2.2.2.1=0->wO (b,m,s,n)=((runT b m s n).2.1,(runT b m s n).2.2.2.2.2.2.2.2.2,0):=λh=>by
 unfold wO YS;have e:(ko ((b,m,s,n).1,((b,m,s,n).2.1.1,(b,m,s,n).2.1.2.1,(wH (b,m,s,n).2.1.2.2.1).1,(qY (b,m,s,n).2.1.2.2.2.1).1,(wR (b,m,s,n).2.1.2.2.2.2.1).1,(wS (b,m,s,n).2.1.2.2.2.2.2.1).1,(b,m,s,n).2.1.2.2.2.2.2.2),(fO ((b,m,s,n).1,(b,m,s,n).2.2.1)).1,((fO ((b,m,s,n).1,(b,m,s,n).2.2.1)).2==0),(b,m,s,n).2.2.2,0,(aE aw ((b,m,s,n).1.2.2.2.2.2.2.2.length:Int)),(aE aU ((b,m,s,n).1.2.2.2.2.2.2.2.length:Int)),(aE aw ((b,m,s,n).1.2.2.2.2.2.2.2.length:Int)),(0,0),(0,0),false,false,0,(aE gM ((b,m,s,n).1.2.2.2.2.2.2.2.length:Int)))).2=runT b m s n:=rfl;simp_all
theorem alL{b:ae}{m:aW}{s:ByteArray}{n:Int}(a:qM (b,m)=true)(hl:m.2.2.2.1.length<=maxLen)(g:0<=n):gG (b,m,s,n)=wO (b,m,s,n):=by
 unfold gG;have f:decide (n<0)=false:=by simp_all
 simp only[a,f,awa,azf,auw];rw[Um hl]
theorem akr(i:Int):0<=i64.wrap (aa jA i):=by
 have a: ∀y∈jA,0<=y/\y<=31:=by decide
 have h:0<=aa jA i/\aa jA i<=31:=by
  unfold aa;by_cases hi:i.toNat<jA.length;all_goals simp_all
 rw[aB (by omega) (by omega)];exact h.1
theorem XS(x:Int):0<=qV x:=by
 unfold qV;cases(x==(0:Int))with
 |true=>simp_all
 |false=>rw[auw];exact akr _
theorem ahB(a c:Bool):0<=A3 (a,c,0,1,2,3)/\A3 (a,c,0,1,2,3)<=3:=by
 cases a<;>cases c<;>decide+kernel
theorem agq{n:Int}(h:2<=n)(x:Int): -1<=A0 (n,x)/\A0 (n,x)<n:=by
 have ht:=XS x;unfold A0;grind
theorem aew{n:Int}(h:2<=n/\n<=32)(c:eT):mK (n,lQ (n,c))=true:=by
 simp_all [mK,lQ,AY,agq,ahB]
theorem TQ{n:Int}{o:ax}(h:mK (n,o)=true):(-1<=o.1/\o.1<=n-1)/\(0<=o.2.1/\o.2.1<=3)/\0<=o.2.2/\o.2.2<=3:=by
 grind [mK]
structure AgP (l:List iB) (limit:Int) (r:List iB×Bool):Prop where
 late:r.2=true->r.1= []
 all: ∀d∈r.1,∃d0∈l,d.1=d0.1/\d.2.1=d0.2.1/\d.2.2=d0.2.2+1/\d.2.2<=limit
 fP:fN dk l->fN dk r.1
theorem ajc{l:List iB}{limit:Int}{c:af}(hl:l.length<=maxLen)(t: ∀d∈l,0<=d.2.2/\d.2.2<=10000):AgP l limit (sQ (l,limit,c)):=by
 have u:=kX (step:=rU) (k:=(limit,l,l.length,c)) (I:=λx=> ∃i:Nat,x.2=i/\i<=l.length/\ ∃g,g.Sublist (l.take i)/\x.1=g.map (λd:iB=>(d.1,d.2.1,d.2.2+1))/\ ∀d∈x.1,d.2.2<=limit) (mu:=λx=>(l.length-x.2).toNat)
  (Q:=λo x=>match o with|some r=>r=([],true)|none=>AgP l limit (x.1,false)) (λx w=>by
   obtain⟨m,xi⟩:=x;obtain⟨i,h0,h1,g,h2,h3,h4⟩:=w;simp only at h0 h3 h4;subst h0;unfold rU;by_cases f:(i:Int)<l.length
   ·have hi:i<l.length:=by omega
    have e:=cC (au9 i) f hl;have ht:l.take (i+1)=l.take i++ [aa l i]:=by rw[cc l i hi];exact axc hi
    have hm:=t _ (iW (au9 i) f);have hw:i64.wrap ((aa l i).2.2+1)=(aa l i).2.2+1:=aB (by omega) (by omega);simp only[f,avz,au3,hw,e];by_cases s:(aa l i).2.2+1>limit
    ·simp only[s,avz,au3]
    ·simp only[s,awe,auw]
     cases(!gg (c,(aa l i).1,(aa l i).2.1))with
     |true=>
      refine⟨⟨i+1,rfl,hi,g++ [aa l i],by rw[ht];exact h2.append (aBa _),?_,λd a=> ?_⟩,cI f⟩
      ·rw[ax2,<- h3];rfl
      ·rcases List.mem_append.1 (show d∈m++ [((aa l i).1,(aa l i).2.1,(aa l i).2.2+1)]from a)with h5|h5
       ·exact h4 d h5
       ·rw[List.mem_singleton.1 h5];show(aa l i).2.2+1<=limit;omega
     |false=>exact⟨⟨i+1,rfl,hi,g,by rw[ht];exact h2.trans (List.sublist_append_left _ _),h3,h4⟩,cI f⟩
   ·simp only[f,awe,auw]
    refine⟨λh=>(by cases h),λd a=> ?_,λhs=> ?_⟩
    ·have j:=a
     have h5:=h4 d j;rw[h3]at j;obtain⟨d0,h6,rfl⟩:=List.mem_map.1 j;exact⟨d0,awn (h2.subset h6),rfl,rfl,rfl,h5⟩
    ·show fN dk m
     rw[h3];unfold fN;rw[List.pairwise_map];exact(List.Pairwise.sublist (h2.trans (List.take_sublist _ _)) hs)) (Nat.succ (rJ (limit,l,l.length,c) ([],0))) ([],0) ⟨0,rfl,awb _,[],aBa _,rfl,λd a=>(by cases a)⟩ (by unfold rJ;simp)
 unfold sQ VB VK;simp only;revert u
 cases bd rU (limit,l,l.length,c) (Nat.succ (rJ (limit,l,l.length,c) ([],0))) ([],0)with
 |some r=>
  intro h;have h:=h;subst h;exact⟨λ_=>rfl,λd a=>(by cases a),λ_=>List.Pairwise.nil⟩
 |none=>intro h;exact h
theorem ah4{fl:Int}{c:gy}(h:eF fl c=true):1<=c.1/\c.1<=10000:=by
 simp_all [eF,fL]
theorem eb.dl{b:ae}{c:Int}{s:bT}(h:eb b c s):1<=(aa b.2.2.2.2.2.2.2 c).1/\(aa b.2.2.2.2.2.2.2 c).1<=10000:=ah4 (h.bG.eU _ (iW h.eU.1 h.eU.2))
theorem eb.Ar{b:ae}{c:Int}{s:bT}(h:eb b c s)(f:af){fl d g st:Int}(j: -1<=fl/\fl<=b.1-1)(a:0<=d/\d<=3)(hr:0<=g/\g<=3)(hs:0<=st/\st<=1000000):
  eb b c (fl,d,g,(sQ (s.2.2.2.1,(aa b.2.2.2.2.2.2.2 c).1,f)).1,st,(sQ (s.2.2.2.1,(aa b.2.2.2.2.2.2.2 c).1,f)).2):=by
 have k:=h.dl;have i:=ajc (limit:=(aa b.2.2.2.2.2.2.2 c).1) (c:=f) (auv h.len (by decide)) (λd a=>by have:=(h.FI d a).2;omega);refine⟨h.bG,h.eU,j,a,hr,hs,i.late,λd a=> ?_,i.fP h.fP⟩;obtain⟨d0,h0,l,m,o,t⟩:=i.all d a;have q:=h.FI d0 h0;grind
theorem uZ{b:ae}{c:Int}{s:bT}(hl:b.2.2.2.2.2.2.2.length<=maxLen)(h:eb b c s):fC (b,c,s)=true:=(xp hl (auv h.len (by decide))).2 h
theorem ahk{b:ae}{c:Int}{s:bT}(hl:b.2.2.2.2.2.2.2.length<=maxLen)(h:eb b c s):eb b c (Aj (b,c,s)).1:=by
 unfold Aj;simp only[uZ hl h];exact h.Ar (0,0) h.fl h.dir h.Nf (by decide)
theorem aek{b:ae}{c:Int}{s:bT}{o:ax}(hl:b.2.2.2.2.2.2.2.length<=maxLen)(h:eb b c s)(g:mK (b.1,o)=true):eb b c (Ac (b,c,s,o)).1:=by
 obtain⟨o1,a,f⟩:=TQ g;have hs:=h.still;have hw:i64.wrap (s.2.2.2.2.1+1)=s.2.2.2.2.1+1:=aB (by omega) (by omega);unfold Ac;simp only[uZ hl h,g];cases(((decide (o.1>=0))&&(o.2.2==2))&&(o.2.1==0))with
 |true=>
  cases(decide (o.1>=0))with
  |true=>exact h.Ar _ o1 a f (by omega)
  |false=>exact h.Ar _ h.fl a f (by omega)
 |false=>
  cases(decide (o.1>=0))with
  |true=>exact h.Ar _ o1 a f (by decide)
  |false=>exact h.Ar _ h.fl a f (by decide)
theorem ae6{b:ae}{c:Int}{s:bT}(hl:b.2.2.2.2.2.2.2.length<=maxLen)(h:eb b c s):eb b c (wo (b,c,s)).1:=by
 unfold wo;simp only[uZ hl h];exact⟨h.bG,h.eU,h.fl,h.dir,h.Nf,⟨au8 0,(by decide:(0:Int)<=1000000)⟩,λh=>(by cases h),λd a=>(by cases a),List.Pairwise.nil⟩
theorem agJ{l:List iB}{y:iB}(hl:l.length<=1000000)(hs:fN dk l)(f: ∀d∈l,d.2.1=1\/d.2.1=2)(h:y.2.1=1\/y.2.1=2): ∃a:Nat,wK dk l (ck y.1 y.2.1) a/\(lF (l,y,some 107)).1=(a:Int)/\((lF (l,y,some 107)).2=true↔a<l.length/\dk (aa l (a:Int))=ck y.1 y.2.1):=by
 have f: ∀q:Nat,q<l.length->(aa l (q:Int)).2.1=1\/(aa l (q:Int)).2.1=2:=λq g=>kz.1 f q g
 obtain⟨a,h1,h2,h3,h4⟩:=bsearch (st:=rR) (k:=(l,some 107,y)) (l:=l) (key:=dk) (t:=ck y.1 y.2.1) (less:=λe=>decide (FL 107 (e,y)<0)) hl hs (λi j=>rfl) (λq g=>by
  rw[adv];exact(nh (f q g) h).1) (Nat.succ (rT (l,some 107,y) ((0:Int),(l.length:Int)))) 0 l.length (by omega) (au7 _) (by simp_all [rT]) (λq g=>by omega) (λq g w=>by omega)
 have o:(Ec (l,some 107,y) ((0:Int),(l.length:Int))).1=(a:Int):=h2;refine⟨a,⟨h1,h3,h4⟩,o,?_⟩;unfold lF;simp only;rw[o,au4,adv,aw0];constructor
 ·rintro⟨s,m⟩
  have u:a<l.length:=by omega
  exact⟨u,(nh (f a u) h).2.1 m⟩
 ·rintro⟨s,m⟩
  exact⟨by omega,(nh (f a s) h).2.2 m⟩
theorem aeF{b:ae}(g:aR b)(p:af): ∀e∈mz (dG (p,dS b)),da b.1 e.1 e.2.1:=λe a=>by
 obtain⟨f,h,d,i,hm,rfl⟩:=BN.1 a;simp_all [xN,Cr]
structure wG (b:ae) (c:Int) (l:List iB):Prop where
 all: ∀d∈l,da b.1 d.1 d.2.1/\0<=d.2.2/\d.2.2<=(aa b.2.2.2.2.2.2.2 c).1
 fP:fN dk l
theorem wG.len{b:ae}{c:Int}{l:List iB}(a:aR b)(h:wG b c l):l.length<=64:=KS h.fP λe f=>((h.all e f).1.key a.fl.2).2
theorem wG.ins{b:ae}{c:Int}{l:List iB}(j:aR b)(o:0<=(aa b.2.2.2.2.2.2.2 c).1)(h:wG b c l){f d:Int}(k:da b.1 f d)
  (i:(!(lF (l,(f,d,0),some 107)).2)=true):wG b c (jK l (lF (l,(f,d,0),some 107)).1 [(f,d,0)]):=by
 obtain⟨a,h1,h2,h3⟩:=agJ (y:=(f,d,0)) (auv (h.len j) (by decide)) h.fP (λd m=>(h.all d m).1.dir) k.dir;rw[h2];rw[avr,<- axf,h3]at i;refine⟨λx g=> ?_,Th h.fP h1 rfl i⟩;rcases uA.1 g with g|g
 ·simp_all
 ·exact h.all x g
theorem afO{b:ae}{c:Int}{s:bT}{p:af}(hl:b.2.2.2.2.2.2.2.length<=maxLen)(h:eb b c s):eb b c (mq (b,c,s,p)).1:=by
 have f:=h.bG;have C:=h.dl;have o:aP (aE gx (s.2.2.2.1.length:Int)) s.2.2.2.1=s.2.2.2.1:=by
  unfold aP;rw[ff,ayk,ay4 (by rw[ff];exact au7 _),awu]
 unfold mq UD Vw;simp only[uZ hl h,awa,auw,o];have t:=aeF f p;have u:(mz (dG (p,dS b))).length<=maxLen:=auv (P5 _) (by decide);generalize mz (dG (p,dS b))=cl at*;have w:=iQ (step:=uk) (k:=(cl,(cl.length:Int))) (n:=cl.length) (λi y=> ∃l,y=((i:Int),s.1,s.2.1,s.2.2.1,l,s.2.2.2.2)/\wG b c l)
  (λi y hi g=>by
   obtain⟨l,rfl,a⟩:=g;have j:(i:Int)<(cl.length:Int):=by omega
   have x:=cC (au9 i) j u;have z:=t _ (iW (au9 i) j);unfold uk;simp only[j,avz,au3,x];cases hn:(!(lF (l,((aa cl (i:Int)).1,(aa cl (i:Int)).2.1,(0:Int)),some 107)).2)with
   |true=>exact⟨_,rfl,_,rfl,a.ins f (by omega) z hn⟩
   |false=>exact⟨_,rfl,_,rfl,a⟩)
  (λy g=>by
   obtain⟨l,rfl,a⟩:=g;unfold uk;simp only[aBg,awe,auw]) (Nat.succ (CM (cl,(cl.length:Int)) ((0:Int),s.1,s.2.1,s.2.2.1,s.2.2.2.1,s.2.2.2.2))) ((0:Int),s.1,s.2.1,s.2.2.1,s.2.2.2.1,s.2.2.2.2) (by unfold CM;simp) ⟨_,rfl,h.FI,h.fP⟩
 obtain⟨l,A,a⟩:=w.1;rw[A];refine⟨f,h.eU,h.fl,h.dir,h.Nf,h.still,λm=> ?_,a.all,a.fP⟩;have m:(s.2.2.2.2.2&&((l.length:Int)==(0:Int)))=true:=m;rw[au4,aw0]at m;have h0:l.length=0:=by omega
 exact avx h0
abbrev iN:=eT
theorem i36{i:Int}(h0:0<=i)(h:i<36):i=0\/i=1\/i=2\/i=3\/i=4\/i=5\/i=6\/i=7\/i=8\/i=9\/i=10\/i=11\/i=12\/i=13\/i=14\/i=15\/i=16\/i=17\/i=18\/i=19\/i=20\/i=21\/i=22\/i=23\/i=24\/i=25\/i=26\/i=27\/i=28\/i=29\/i=30\/i=31\/i=32\/i=33\/i=34\/i=35:=by omega
theorem bb{c:Bool}{a w t:Int}:(bif c then a else(bif c then w else t))=(bif c then a else t):=by grind
theorem anF(t:wT)(i w v:Int):up (up t i w) i v=up t i v:=by
 simp_all [up,bb]
theorem Zp(t:wT)(i v:Int){j:Int}(h0:0<=j)(h:j<36):aa (tl (up t i v)) j=bif i==j then v else aa (tl t) j:=by
 rcases i36 h0 h with rfl|rfl|rfl|rfl|rfl|rfl|rfl|rfl|rfl|rfl|rfl|rfl|rfl|rfl|rfl|rfl|rfl|rfl|rfl|rfl|rfl|rfl|rfl|rfl|rfl|rfl|rfl|rfl|rfl|rfl|rfl|rfl|rfl|rfl|rfl|rfl<;>rfl
theorem ajr(t:wT)(v:Int){i:Int}(h0:0<=i)(h:i<36):aa (tl (up t i v)) i=v:=by
 simp_all [Zp]
theorem get_eq(c:iN){i:Int}(h0:0<=i)(h:i<36):nS (c,i)=gK (c,i):=by
 rcases i36 h0 h with rfl|rfl|rfl|rfl|rfl|rfl|rfl|rfl|rfl|rfl|rfl|rfl|rfl|rfl|rfl|rfl|rfl|rfl|rfl|rfl|rfl|rfl|rfl|rfl|rfl|rfl|rfl|rfl|rfl|rfl|rfl|rfl|rfl|rfl|rfl|rfl<;>rfl
theorem ajC(x m:Int):FX (KC x m) m=FX x m:=W.ext (qG _ _) (qG _ _) λi hi=>by
 rw[<- pZ (qG _ _) hi,<- pZ (qG _ _) hi,E0,E0,Jy _ _ hi];grind
theorem ala(c:iN)(a:Bool){i:Int}(h0:0<=i)(h:i<36):AX (c,i,a)=oM (c,i,a):=by
 by_cases f:i<32
 ·have g:(i==32)=false:=by grind
  have j:(i==33)=false:=by rw[awm];omega
  have k:(i==34)=false:=by rw[awm];omega
  have l:(i==35)=false:=by rw[awm];omega
  have m:=ax1 h0;have o:=ax1 f;have hw:u64.wrap i=i:=by rw[avy];omega
  unfold AX oM;simp only[g,j,k,l,m,o,hw,axs];cases a with
  |true=>
   exact aww (ajC c.1 _).symm rfl
  |false=>
   simp only[auw]
 ·have s:i=32\/i=33\/i=34\/i=35:=by omega
  rcases s with rfl|rfl|rfl|rfl<;>rfl
def sK(n:Int)(c:iN)(i:Int)(d:bg):bg:=
 bif gK (c,i)==gK (d.1,i)then(d.1,up d.2 i 0)
 else bif i64.wrap (aa (tl d.2) i+1)==n then(oM (d.1,i,gK (c,i)),up d.2 i 0)
 else(d.1,up d.2 i (i64.wrap (aa (tl d.2) i+1)))
def gQ(n:Int)(c:iN)(s:bg):Nat->bg
 |0=>s|i+1=>sK n c i (gQ n c s i)
theorem Uz(k:Int×iN)(x:Int×bg):rO k x=bif decide (x.1<36)then(bif gK (k.2,x.1)==gK (x.2.1,x.1)then .next k (i64.wrap (x.1+1),x.2.1,up x.2.2 x.1 0)
 else bif aa (tl (up x.2.2 x.1 (i64.wrap (aa (tl x.2.2) x.1+1)))) x.1==k.1 then .next k (i64.wrap (x.1+1),oM (x.2.1,x.1,gK (k.2,x.1)),up (up x.2.2 x.1 (i64.wrap (aa (tl x.2.2) x.1+1))) x.1 0)
 else .next k (i64.wrap (x.1+1),x.2.1,up x.2.2 x.1 (i64.wrap (aa (tl x.2.2) x.1+1))))else .brk k x:=rfl
theorem Vo(k:Int×iN)(x:Int×bg):za k x=bif decide (x.1<36)then(bif nS (k.2,x.1)==nS (x.2.1,x.1)then .next k (i64.wrap (x.1+1),x.2.1,up x.2.2 x.1 0)
 else bif i64.wrap (aa (tl x.2.2) x.1+1)==k.1 then .next k (i64.wrap (x.1+1),AX (x.2.1,x.1,nS (k.2,x.1)),up x.2.2 x.1 0)
 else .next k (i64.wrap (x.1+1),x.2.1,up x.2.2 x.1 (i64.wrap (aa (tl x.2.2) x.1+1))))else .brk k x:=rfl
theorem art(n:Int)(c:iN)(s:bg):we (n,s,c)=gQ n c s 36:=by
 unfold we VU;have g:=iQ (step:=rO) (k:=(n,c)) (n:=36) (λi y=>y=((i:Int),gQ n c s i))
  (λi y hi a=>by
   subst a;have f:(i:Int)<36:=by omega
   have h0:0<=(i:Int):=au9 i;have h:i64.wrap ((i:Int)+1)=((i+1:Nat):Int):=aB (by omega) (by omega);rw[Uz,ax1 f,au3,ajr _ _ h0 f,anF,h];show∃j,(bif _ then _ else _)=_/\_=(_,sK n c (i:Int) (gQ n c s i))
   unfold sK;cases(gK (c,(i:Int))==gK ((gQ n c s i).1,(i:Int)))with
   |true=>exact⟨_,rfl,rfl⟩
   |false=>
    rw[auw,auw];cases(i64.wrap (aa (tl (gQ n c s i).2) (i:Int)+1)==n)with
    |true=>exact⟨_,rfl,rfl⟩
    |false=>exact⟨_,rfl,rfl⟩)
  (λy a=>by
   subst a;rw[Uz];rfl) (Nat.succ (uT (n,c) ((0:Int),s))) ((0:Int),s) (by unfold uT;simp) rfl
 exact av7 Prod.snd g.1
theorem aon(n:Int)(c:iN)(s:bg):(LA (n,c) ((0:Int),s)).2=gQ n c s 36:=by
 unfold LA;have g:=iQ (step:=za) (k:=(n,c)) (n:=36) (λi y=>y=((i:Int),gQ n c s i))
  (λi y hi f=>by
   subst f;have a:(i:Int)<36:=by omega
   have h0:0<=(i:Int):=au9 i;have h:i64.wrap ((i:Int)+1)=((i+1:Nat):Int):=aB (by omega) (by omega);rw[Vo,ax1 a,au3,get_eq c h0 a,get_eq (gQ n c s i).1 h0 a,ala _ _ h0 a,h];show∃j,(bif _ then _ else _)=_/\_=(_,sK n c (i:Int) (gQ n c s i))
   unfold sK;cases(gK (c,(i:Int))==gK ((gQ n c s i).1,(i:Int)))with
   |true=>exact⟨_,rfl,rfl⟩
   |false=>
    rw[auw,auw];cases(i64.wrap (aa (tl (gQ n c s i).2) (i:Int)+1)==n)with
    |true=>exact⟨_,rfl,rfl⟩
    |false=>exact⟨_,rfl,rfl⟩)
  (λy f=>by
   subst f;rw[Vo];rfl) (Nat.succ (yP (n,c) ((0:Int),s))) ((0:Int),s) (by unfold yP;simp) rfl
 exact av7 Prod.snd g.1
structure fw (n:Int) (d:bg):Prop where
 kq:1<=n/\n<=16
 all: ∀j:Nat,j<36->0<=aa (tl d.2) (j:Int)/\aa (tl d.2) (j:Int)<n
theorem uF(n:Int)(d:bg):lN (n,d)=true↔fw n d:=by
 unfold lN Zh;simp only;cases hn:((decide (n<(1:Int)))||(decide (n>(16:Int))))with
 |true=>
  rw[av9,adv,adv]at hn;rw[au3];exact⟨λh=>(by cases h),λh=>by have:=h.kq;omega⟩
 |false=>
  rw[au1,au0,au0]at hn;rw[auw,scan (N:=36) (r:=false) (bA:=λi:Nat=> !((decide (aa (tl d.2) (i:Int)<0))||(decide (aa (tl d.2) (i:Int)>=n)))) (by decide) (λi hi=>by
   grind [Ei,decide,aa,tl]) (by rfl) (by simp_all [DT])]
  by_cases h: ∀i:Nat,i<36->(!((decide (aa (tl d.2) (i:Int)<0))||(decide (aa (tl d.2) (i:Int)>=n))))=true
  ·rw[avf h]
   refine⟨λ_=>⟨by omega,λj a=> ?_⟩,λ_=>rfl⟩;have:=h j a;rw[avr,au1,au0,au0]at this;omega
  ·rw[avb h]
   refine⟨λh2=>(by cases h2),λh2=>absurd (λi hi=> ?_) h⟩;have:=h2.all i hi;rw[avr,au1,au0,au0];omega
theorem ag5(n:Int)(d:bg):AP (n,d)=true↔fw n d:=by
 unfold AP Yu;simp only;cases hn:((decide (n<(1:Int)))||(decide (n>(16:Int))))with
 |true=>
  rw[av9,adv,adv]at hn;rw[au3];exact⟨λh=>(by cases h),λh=>by have:=h.kq;omega⟩
 |false=>
  rw[au1,au0,au0]at hn;rw[auw,scan (N:=36) (r:=false) (bA:=λi:Nat=> !((decide (aa (tl d.2) (i:Int)<0))||(decide (aa (tl d.2) (i:Int)>=n)))) (by decide) (λi hi=>by
   grind [DO,decide,aa,tl]) (by rfl) (by simp_all [En])]
  by_cases h: ∀i:Nat,i<36->(!((decide (aa (tl d.2) (i:Int)<0))||(decide (aa (tl d.2) (i:Int)>=n))))=true
  ·rw[avf h]
   refine⟨λ_=>⟨by omega,λj a=> ?_⟩,λ_=>rfl⟩;have:=h j a;rw[avr,au1,au0,au0]at this;omega
  ·rw[avb h]
   refine⟨λh2=>(by cases h2),λh2=>absurd (λi hi=> ?_) h⟩;have:=h2.all i hi;rw[avr,au1,au0,au0];omega
theorem KE{n:Int}{d:bg}{e:iN}{i v:Int}(h:fw n d)(a:0<=v/\v<n):fw n (e,up d.2 i v):=by
 refine⟨h.kq,λj f=> ?_⟩;rw[Zp _ _ _ (au9 j) (by omega)];cases(i==j)with
 |true=>exact a
 |false=>exact h.all j f
theorem Q9{n:Int}{c:iN}{s:bg}(h:fw n s): ∀i:Nat,i<=36->fw n (gQ n c s i)
 |0,_=>h
 |i+1,hi=>by
  have a:=Q9 (c:=c) h i (by omega);have f:=a.all i (by omega);have g:=h.kq;have hw:i64.wrap (aa (tl (gQ n c s i).2) (i:Int)+1)=aa (tl (gQ n c s i).2) (i:Int)+1:=aB (by omega) (by omega);show fw n (sK n c (i:Int) (gQ n c s i));unfold sK;rw[hw];cases(gK (c,(i:Int))==gK ((gQ n c s i).1,(i:Int)))with
  |true=>exact KE a (by omega)
  |false=>
   rw[auw];cases hq:(aa (tl (gQ n c s i).2) (i:Int)+1==n)with
   |true=>exact KE a (by omega)
   |false=>rw[awm]at hq;exact KE a (by omega)
theorem B1{n:Int}{c:iN}{s:bg}(h:fw n s):kO (n,s,c)=(gQ n c s 36,0):=by
 grind [kO,uF,art]
theorem It{n:Int}{c:iN}{s:bg}(h:fw n s):lS (n,s,c)=(gQ n c s 36,0):=by
 grind [lS,ag5,aon]
theorem P0{n:Int}{c:iN}{s:bg}(h:fw n s):fw n (kO (n,s,c)).1:=by
 simp_all [B1,Q9]
theorem alc(x:Int):0<=u8.wrap x/\u8.wrap x<=255:=by grind [IntKind.wrap_u8]
theorem IH(x:Int):0<=ra x/\ra x<=255:=by
 unfold ra;generalize a:u8.wrap _=y;have h:=a▸alc _;grind [aB]
theorem aiK(x:Int):0<=Ae x/\Ae x<=300:=by
 have key: ∀(s:ByteArray) (i c:Int),0<=c->c<=24->0<=i64.wrap (c+i64.wrap (aL s i))/\i64.wrap (c+i64.wrap (aL s i))<=300:=λs i c h1 h2=>by
  have h:=lX s i;grind [aB]
 have a:i64.wrap (16+8)=24:=aB (by omega) (by omega);have f:i64.wrap (0+8)=8:=aB (by omega) (by omega);unfold Ae;simp only[cond];repeat' split
 all_goals first|(simp only;simp_all)|exact key _ _ _ (by omega) (by omega)
theorem alK(i:Int):i64.wrap (aa jA i)<=31:=by
 have a: ∀y∈jA,0<=y/\y<=31:=by decide
 have h:0<=aa jA i/\aa jA i<=31:=by
  unfold aa;by_cases hi:i.toNat<jA.length;all_goals simp_all
 rw[aB (by omega) (by omega)];exact h.2
theorem aor(x:Int):qV x<=300:=by
 unfold qV;simp only[cond];split
 ·decide
 ·exact aw2 (alK _) (by decide)
theorem Js(l:List Int)(a f:Int)(hl:l.length<=2)(h: ∀y∈l,-1<=y/\y<=300)(m: -1<=a/\a<=300)(w: -1<=f/\f<=300):0<=(mv (l,a,f)).1/\(mv (l,a,f)).1<=1000:=by
 unfold mv VV;simp only;generalize x:l++ [f]=L;have z:L.length<=3:=by grind
 have o: ∀y∈L,-1<=y/\y<=300:=λy g=>by
  grind
 have A:=iQ (step:=um) (k:=(L,(L.length:Int))) (n:=L.length) (λi y=>y.2.2=(i:Int)/\(0<=y.1/\y.1<=301*(i:Int))/\ -1<=y.2.1/\y.2.1<=300)
  (λi y hi g=>by
   obtain⟨C,I,J⟩:=y;obtain⟨h3,⟨h1,s⟩,h2,t⟩:=g;simp only at h1 s h2 t h3;subst h3;have j:(i:Int)<(L.length:Int):=by omega
   have u:=cC (au9 i) j (by grind [maxLen]);have hm:=o _ (iW (au9 i) j);unfold um;simp only[j,avz,au3,u];grind [aa,Max.max,aB])
  (λy g=>by
   simp_all [um]) (Nat.succ (yI (L,(L.length:Int)) ((0:Int),a,(0:Int)))) ((0:Int),a,(0:Int)) (by unfold yI;simp) ⟨rfl,⟨au8 _,by simp⟩,m⟩
 omega
theorem QK{n a d:Int}{s:ax}{f e:Int}(w:n<=32):sZ (n,a,d,s,f,e)<=1000:=by
 have j: ∀x,-1<=zr x/\zr x<=300:=λx=>by
  unfold zr;have h1:=XS;have h2:=aor
  exact⟨aw2 (by decide) (h1 _),h2 _⟩
 have k: ∀x,-1<=i64.wrap (sg x-1)/\i64.wrap (sg x-1)<=300:=λx=>by
  have h:0<=sg x/\sg x<=300:=by unfold sg;exact aiK _
  rw[aB (by omega) (by omega)];omega
 unfold sZ;cases hc:((((((!(nK (n,a,d,s,f,e).1))||(decide ((n,a,d,s,f,e).2.1<(0:Int))))||(decide ((n,a,d,s,f,e).2.1>=(n,a,d,s,f,e).1)))||(decide ((n,a,d,s,f,e).2.2.1<(0:Int))))||(decide ((n,a,d,s,f,e).2.2.1>(2:Int))))||(!(vT ((n,a,d,s,f,e).1,(n,a,d,s,f,e).2.2.2.2))))with
 |true=>rw[au3];decide
 |false=>
  rw[auw];simp only[au1,avi,au0]at hc;obtain⟨⟨⟨⟨⟨h1,h2⟩,h3⟩,h4⟩,h5⟩,h6⟩:=hc;have h1:(decide (n>=2)&&decide (n<=32))=true:=h1;simp only[au4,adv]at h1;have l: -1<=a/\a<=300:=by
   have h2: ¬ a<0:=h2;have h3: ¬ a>=n:=h3;omega
  have m: -1<=f/\f<=300:=by
   unfold vT at h6;simp only[av9,au4,adv]at h6;rw[aB (x:=n-1) (by omega) (by omega)]at h6;omega
  have w0:=(Js [] a f (by simp) (λy g=>by cases g) l m).2;have o: ∀y,(-1<=y/\y<=300)->(mv ([y],a,f)).1<=1000:=λy g=>(Js [y] a f (by simp) (λz i=>by rw[awl]at i;subst i;exact g) l m).2
  have t: ∀y z,(-1<=y/\y<=300)->(-1<=z/\z<=300)->(mv ([y,z],a,f)).1<=1000:=λy z g i=>(Js [y,z] a f (by simp) (λu hu=>by
   rcases List.mem_cons.1 hu with rfl|hu
   ·exact g
   ·rw[awl]at hu;subst hu;exact i) l m).2
  simp only[cond];repeat' split
  ·exact w0
  ·exact o _ (k _)
  ·exact o _ (j _)
  ·exact t _ _ (k _) (j _)
  ·exact t _ _ (j _) (k _)
theorem afD(x:jX):0<=wa x/\wa x<=1000:=by
 unfold wa;cases nK x.1 with
 |false=>simp_all
 |true=>
  have h1:=IH (kd x).1;have h2:0<=AK (kd x).2/\AK (kd x).2<=510:=by
   unfold AK;have h1:=IH (kd x).2.1;have h2:=IH (kd x).2.2;grind [aB]
  grind [aB]
theorem Tj{fl:Int}{c:gy}(h:eF fl c=true):(0<=c.2.2.2.1/\c.2.2.2.1<=10000)/\(0<=c.2.2.2.2.1/\c.2.2.2.2.1<=10000)/\(0<=c.2.2.2.2.2.1/\c.2.2.2.2.2.1<=10000)/\0<=c.2.2.2.2.2.2.1/\c.2.2.2.2.2.2.1<=10000:=by
 grind [eF,fL]
theorem agI{p st ct tr a:Int}(f:0<=p/\p<=1000)(h1:0<=st/\st<=10000)(h2:0<=ct/\ct<=1000)(h3:0<=tr/\tr<=10000)(h4:0<=a/\a<=10000):
  0<=min (i64.wrap (i64.wrap (p*st)+i64.wrap (ct*i64.wrap (i64.wrap (2*tr)+a)))) 1000000:=by
 have g:=aA4 f.1 h1.1;have h:=Int.mul_le_mul f.2 h1.2 h1.1 (by decide);have i:0<=ct*(2*tr+a):=aA4 h2.1 (by omega);have j:ct*(2*tr+a)<=1000*30000:=Int.mul_le_mul h2.2 (by omega) (by omega) (by decide);grind [aB]
theorem ajQ{b:ae}(g:aR b)(hl:b.2.2.2.2.2.2.2.length<=maxLen){c:Int}{v:aX}{f d:Int}:0<=wB (b,c,v,f,d)/\wB (b,c,v,f,d)<=1000000:=by
 have h:=g.fl.2;have key: ∀p,p<=1000->(decide (p<0)=false)-> ∀cs:jX,0<=c->c<(b.2.2.2.2.2.2.2.length:Int)->
   0<=min (i64.wrap (i64.wrap (p*(aa b.2.2.2.2.2.2.2 c).2.2.2.2.1)+i64.wrap (wa cs*i64.wrap (i64.wrap (2*(aa b.2.2.2.2.2.2.2 c).2.2.2.2.2.1)+(aa b.2.2.2.2.2.2.2 c).2.2.2.2.2.2.1)))) (1000000:Int):=λp i h0 cs j c1=>by
  rw[au0]at h0;have ht:=Tj (g.eU _ (iW j c1));exact agI ⟨by omega,i⟩ ht.2.1 (afD cs) ht.2.2.1 ht.2.2.2
 unfold wB;simp only;cases hc:(((bZ b !=(0:Int))||decide (c<(0:Int)))||decide (c>=(b.2.2.2.2.2.2.2.length:Int)))with
 |true=>rw[au3];decide
 |false=>
  rw[auw];simp only[au1,au0]at hc;simp only[cond];repeat' split
  ·decide
  ·rename_i a;exact⟨key _ (QK h) a _ (by omega) (by omega),Int.min_le_right _ _⟩
  ·decide
  ·rename_i a;exact⟨key _ (QK h) a _ (by omega) (by omega),Int.min_le_right _ _⟩
theorem yx{α:Type}{p:α->Prop}{l:List α}{i:Nat}{v:α}(h: ∀a∈l,p a)(f:p v): ∀a∈l.set i v,p a:=λa g=>by
 grind
theorem agc{e t:Int}(a:0<=e/\e<=1000000)(ht:0<=t/\t<=10000):0<=min (i64.wrap (e+t)) 1000000/\min (i64.wrap (e+t)) 1000000<=1000000:=by
 grind [aB]
theorem aic{b:ae}{m:aq}{x:List Int}{v:List aX}(hm:bk b m)(j:x.length=m.2.2.2.length)(hr: ∀y∈x,0<=y/\y<=1000000)(l:v.length=b.2.2.2.2.2.2.2.length):
  (gP (b,m,x,v)).1.2.1.length=m.2.2.2.length/\ ∀y∈(gP (b,m,x,v)).1.2.1,0<=y/\y<=1000000:=by
 have w:b.2.2.2.2.2.2.2.length<=8:=hm.bG.cn.2;have hl:b.2.2.2.2.2.2.2.length<=maxLen:=auv w (by decide);have A:x.length<=maxLen:=by rw[j];exact hm.fit.2.2
 have o:((((!(cL ((b,m,x,v).1,(b,m,x,v).2.1)))||(((b,m,x,v).2.2.1.length:Int) !=((b,m,x,v).2.1.2.2.2.length:Int)))||(((b,m,x,v).2.2.2.length:Int) !=((b,m,x,v).1.2.2.2.2.2.2.2.length:Int)))||(mm ((b,m,x,v).2.2.1,(some 261))))=false:=by
  have h4:mm (x,(some 261))=false:=by
   rw[<- axf,HM A];rintro⟨y,g,i⟩
   have i:Fu y=true:=i;have:=hr y g;unfold Fu at i;rw[av9,adv,adv]at i;omega
  show(((!(cL (b,m)))||((x.length:Int) !=(m.2.2.2.length:Int)))||((v.length:Int) !=(b.2.2.2.2.2.2.2.length:Int))||(mm (x,(some 261))))=false;rw[hm.is,j,l,h4];simp
 have C:=Jd hm.fit.1 hm.fit.2.1 hm.fit.2.2 o;unfold gP;rw[o,auw];have s:=ir (step:=nd) (k:=(x,v,m.2.2.2,(m.2.2.2.length:Int),b,b,v)) (I:=λy=>nT (x,v,m.2.2.2,(m.2.2.2.length:Int),b,b,v) y/\ ∀u∈y.2.1,0<=u/\u<=1000000) (λy k' z g a=>by
   obtain⟨h1,h3⟩:=g;unfold nd at a;revert a
   by_cases h:y.2.2<(m.2.2.2.length:Int)
   ·have e:=cC h1.i0 h hm.fit.2.2
    have t:0<=y.2.2/\y.2.2<(x.length:Int):=⟨h1.i0,by rw[j];exact h⟩;have P:=hr _ (iW t.1 t.2);have h5:0<=max (i64.wrap (aa x y.2.2-1)) 0/\max (i64.wrap (aa x y.2.2-1)) 0<=1000000:=by
     rw[aB (by omega) (by omega)];omega
    simp only[h,avz,au3,e];cases hb:(((gD ((b,v),aa m.2.2.2 y.2.2,aa x y.2.2)).2.2.1 !=(aa m.2.2.2 y.2.2).2.2.1)&&(decide ((gD ((b,v),aa m.2.2.2 y.2.2,aa x y.2.2)).2.2.1>=(0:Int))))with
    |true=>
     simp only[au3];intro a;cases a;have J:=NB hb;have L:=h1.eU h (q:=aa x y.2.2);have M:(gD ((b,v),aa m.2.2.2 y.2.2,aa x y.2.2)).2.2.1<(b.2.2.2.2.2.2.2.length:Int):=by
      have:=L.2;rw[<- l];exact this
     have ht:=Tj (hm.bG.eU _ (iW J M));refine⟨⟨cH h1.i0,h1.n,h1.qL,h1.e,(auz ..).trans ((auz ..).trans h1.x1),h1.v,h1.p,h1.cl,vV h1.r (sH _),h1.vm⟩,?_⟩;have N:=ajQ hm.bG hl (c:=(gD ((b,v),aa m.2.2.2 y.2.2,aa x y.2.2)).2.2.1) (v:=aa v (gD ((b,v),aa m.2.2.2 y.2.2,aa x y.2.2)).2.2.1) (f:=(aa m.2.2.2 y.2.2).1) (d:=(aa m.2.2.2 y.2.2).2.1);refine yx (yx h3 h5) ?_;exact agc N ht.1
    |false=>
     simp only[auw];intro a;cases a;exact⟨⟨cH h1.i0,h1.n,h1.qL,h1.e,(auz ..).trans h1.x1,h1.v,h1.p,h1.cl,vV h1.r (sH _),h1.vm⟩,yx h3 h5⟩
   ·simp only[h,awe,auw]
    intro a;cases a) (λy k' z g a=>by
   unfold nd at a;revert a
   simp only[cond];repeat' split
   all_goals(intro a;first|(cases a;done)|(cases a;exact g))) (Nat.succ (yo (x,v,m.2.2.2,(m.2.2.2.length:Int),b,b,v) ([],aE ab (x.length:Int),0))) ([],aE ab (x.length:Int),0) ⟨C.2,λu O=>by rw[axr O];exact⟨au8 0,(by decide:(0:Int)<=1000000)⟩⟩
 exact⟨s.1.x1,s.2⟩
theorem ahJ(b:ae)(l:Int)(f:Nat)(h:0<=l/\l<=4):0<=ti (b,l,f)/\ti (b,l,f)<=4:=by
 have a: ∀y,0<=vU y/\vU y<=4:=λy=>by
  unfold vU;grind
 unfold ti;grind
theorem Iq{n:Int}(h:0<=n/\n<=1000000):0<=ib n/\ib n<=1000000:=by
 grind [ib,aB]
theorem GI{b:ae}: ∀(l1:List aT) (m:aq) (l2:List aT),RegRs b m (l1++l2)↔RegRs b m l1/\RegRs b (l1.foldl bE m) l2
 | [],m,l2=>by simp[RegRs]
 |r::l1,m,l2=>by
  rw[awz,awd];show dh b r/\An b m r/\RegRs b (bE m r) (l1++l2)↔(dh b r/\An b m r/\RegRs b (bE m r) l1)/\_;rw[GI l1 (bE m r) l2,aBv,aBv]
theorem BY{b:ae}: ∀{l:List aT} {m:aq},(∀r∈l,dh b r/\r.1≠1)->RegRs b m l
 | [],m,_=>trivial
 |r::l,m,h=>⟨(h r (by simp)).1,λh1=>absurd h1 (h r (by simp)).2,BY λr hr=>h r (by simp_all)⟩
structure iD (x:au) (n:Int):Prop where
 pow:Pow x.1 x.2.1.2.1 x.2.1.1
 ok:x.2.2.2.2.2.1=0
 lo:n<=x.2.2.2.2.1
 hi:x.2.2.2.2.1<=1048576
 rm:0<=x.1.2.2.1
theorem H4{l:List aT}{t:au}{n:Int}(h:iD t ((t.1.2.2.1+2)*l.length+n))(f:0<=n)(a:RegRs t.1 t.2.1.1 l)(hl:l.length<=maxLen):iD (ed (l,t)).2 n/\(ed (l,t)).2.1=t.1:=by
 obtain⟨bl,g,hw,h1,h2,h3⟩:=ae2 h.pow h.ok a hl (aw2 (by omega) h.lo) h.hi;rw[hw];exact⟨⟨h3,rfl,by have:=h.lo;grind,aw2 h2 h.hi,h.rm⟩,rfl⟩
theorem iD.less{x:au}{n m:Int}(h:iD x n)(hm:m<=n):iD x m:=⟨h.pow,h.ok,aw2 hm h.lo,h.hi,h.rm⟩
theorem GU{r:Int}(h:0<=r){a k:Nat}(f:a<=k):(r+2)*a<=(r+2)*k:=aAi (by omega) (by omega)
theorem aj0{x:au}{n:Int}(h:cD x)(i:0<=n)(a:iD x ((x.1.2.2.1+2)*(8:Nat)+n)):iD (fA x).2 n:=by
 obtain⟨fl,aA,dN,k,l,f⟩:=OY h;unfold fA;rw[l];have g:fl.length<=8:=auv f.fn h.n8;have hm:=GU a.rm g;have m:iD (oI x aA dN k) ((x.1.2.2.1+2)*(fl.length:Int)+n):=⟨a.pow,a.ok,aw2 (by omega) a.lo,a.hi,a.rm⟩;refine(H4 m i (BY λr hr=> ?_) (auv g (by decide))).1;obtain⟨j,o,rfl⟩:=f.tz r hr;exact⟨.inr (.inr (.inr (.inr ⟨.inl rfl,rfl,rfl,au9 j,by show(j:Int)<=(x.1.2.2.2.2.2.2.2.length:Int)-1;omega,(by decide:(0:Int)<=1),(by decide:(1:Int)<=1)⟩))),(by decide:(5:Int)≠1)⟩
theorem amq{x:au}{n:Int}(h:en x)(k:0<=n)(a:iD x ((x.1.2.2.1+2)*(1:Nat)+n)):iD (ij x).2 n:=by
 have z:0<=(x.1.2.2.1+2)*((1:Nat):Int):=aA4 (by have:=a.rm;omega) (by omega);unfold ij;cases hg:x.2.2.2.1 with
 |false=>exact a.less (by omega)
 |true=>
  have o:=h.cmd hg;have s:=h.iU hg;have i:=G9 (b:=x.1) (m:=x.2.1.1) (c:=x.2.2.1.2.1) (l:=(iy x).1) o;have f:iD (fm x).2 n:=by
   unfold fm;generalize(iz (x.1,x.2.1.1,x.2.2.1.2.1,(iy x).1)).2=st;generalize(iz (x.1,x.2.1.1,x.2.2.1.2.1,(iy x).1)).1=g at i;have j:g.length<=1:=by rcases i with rfl|rfl<;>simp
   have hm:=GU a.rm j;have u:(x.1.2.2.1+2)*(g.length:Int)+n<=x.2.2.2.2.1:=by have:=a.lo;omega
   refine(H4 (t:=(x.1,x.2.1,x.2.2.1,x.2.2.2.1,x.2.2.2.2.1,x.2.2.2.2.2.1,x.2.2.2.2.2.2.1,x.2.2.2.2.2.2.2.1,x.2.2.2.2.2.2.2.2.1,x.2.2.2.2.2.2.2.2.2.1,x.2.2.2.2.2.2.2.2.2.2.1,x.2.2.2.2.2.2.2.2.2.2.2.1,x.2.2.2.2.2.2.2.2.2.2.2.2.1,st,x.2.2.2.2.2.2.2.2.2.2.2.2.2.2)) (l:=g) ⟨a.pow,a.ok,u,a.hi,a.rm⟩ k (BY λr hr=> ?_) (auv j (by decide))).1;rcases i with rfl|rfl
   ·cases hr
   ·rw[awl]at hr
    subst hr;exact⟨.inr (.inr (.inr (.inr ⟨.inl rfl,rfl,rfl,s.1,by show x.2.2.1.2.1.2<=(x.1.2.2.2.2.2.2.2.length:Int)-1;omega,au8 _,(by decide:(0:Int)<=1)⟩))),(by decide:(5:Int)≠1)⟩
  obtain⟨g,A,bl,C,st,aA,aK,I,J,L,M,N,O,w,P,y⟩:=OZ h.tocD hg f.ok;rw[y]at f;rw[au3];show iD (ig x).2 n;rw[w];exact⟨f.pow,f.ok,f.lo,f.hi,f.rm⟩
theorem agt{b:ae}{m:aq}{e:aC}(h:gS (b,m)=true):An b m (1,e.1,e.2.1,0,0):=λ_=> .inr h
theorem ajo{b:ae}{i:aq}(m:bY)(e:aC)(hm:m.2=b)(a:da b.1 e.1 e.2.1)(hi:m.1.2.1=m.1.1.foldl bE i)(h:RegRs b i m.1.1):RegRs b i (eg m e).1.1:=by
 unfold eg;cases hr:gS (m.2,m.1.2.1)with
 |false=>simp_all
 |true=>
  show RegRs b i (m.1.1++ [(1,e.1,e.2.1,0,0)]);rw[GI];refine⟨h,Rs a,?_,trivial⟩;simp_all [agt]
theorem P7{b:ae}{i:aq}: ∀(l:List aC) (m:bY),m.2=b->(∀e∈l,da b.1 e.1 e.2.1)->m.1.2.1=m.1.1.foldl bE i->RegRs b i m.1.1->RegRs b i (l.foldl eg m).1.1
 | [],m,_,_,_,h=>h
 |e::l,m,hm,a,hi,h=>by
  refine P7 l (eg m e) ?_ (λx f=>a x (by simp_all)) (P9 m e hi) (ajo m e hm (a e (by simp)) hi h);unfold eg;cases gS (m.2,m.1.2.1)<;>exact hm
theorem P2{b:ae}{i:aq}(l:List aT)(x:bY)(hi:x.1.2.1=x.1.1.foldl bE i)(h:RegRs b i x.1.1)(hl: ∀r∈l,dh b r/\r.1≠1):RegRs b i (l.foldl cF x).1.1:=by
 grind [ku,GI,BY]
theorem ah3{b:ae}{m:aq}{e:List Int}{v:List aX}{l:List bw}(press:bw)(bA:Bool)(hm:bk b m)(g:kh (m,e)=true)(f:v.length=b.2.2.2.2.2.2.2.length):RegRs b m (fI b m e v l press bA).1.1:=by
 obtain⟨h1,h2,_⟩:=HL (l:=l) press bA hm g f;have h0:RegRs b m (cG b m e v l press bA).1.1/\(cG b m e v l press bA).1.2.1=(cG b m e v l press bA).1.1.foldl bE m:=by
  unfold cG;cases bA with
  |false=>exact⟨trivial,rfl⟩
  |true=>
   rw[au3];have hs:=tU (v:=v) hm f;have i: ∀r∈cu (b,m,v),dh b r/\r.1≠1:=λr hr=>by
    refine⟨hs.1 r hr,?_⟩;rw[B8 hm f]at hr;obtain⟨u,_,rfl⟩:=List.mem_map.1 hr;exact(by decide:(2:Int)≠1)
   have hi:((cu (b,m,v)).foldl cF (([],m,e,(ec (b,v,l)).1,0,0),b)).1.2.1=((cu (b,m,v)).foldl cF (([],m,e,(ec (b,v,l)).1,0,0),b)).1.1.foldl bE m:=Hj _ _ rfl;have hb:((cu (b,m,v)).foldl cF (([],m,e,(ec (b,v,l)).1,0,0),b)).2=b:=by
    have: ∀(l:List aT) (x:bY),(l.foldl cF x).2=x.2:=λl=>by
     induction l with
     |nil=>intro x;rfl
     |cons a l j=>intro x;rw[awd,j];rfl
    exact this _ _
   exact⟨P7 _ _ hb (BH hm.bG press _) hi (P2 _ _ rfl trivial i),Hq _ _ hi⟩
 unfold fI;refine P2 _ _ h0.2 h0.1 (λr hr=> ?_);have hi:bk b (cG b m e v l press bA).1.2.1:=by have:=h1.ba;rw[h2]at this;exact this
 have:=(pE (b:=b) (m:=(cG b m e v l press bA).1.2.1) (x:=(cG b m e v l press bA).1.2.2.1) (v:=v) hi).1 r hr;exact⟨this.1,by rcases this.2 with h|h<;>rw[h]<;>decide⟩
theorem akw{x:au}{n:Int}(h:en x)(m:0<=n)(g:iD x ((x.1.2.2.1+2)*(1000:Nat)+n)):iD (iS x).2 n:=by
 have i:=CZ x.2.2.1.1 x.2.2.2.1 h.ba h.exp (lW x) h.lit;have o:=ah3 (l:=x.2.1.2.2.2.2.2.2.2.1) x.2.2.1.1 x.2.2.2.1 h.ba h.exp (lW x);have a:=PR (r:=fj x) i.eq;have j:(fj x).1.length<=1000:=i.len;have k:(fj x).1.length<=maxLen:=auv j (by decide);have hm:=GU g.rm j;have hw:=H4 (l:=(fj x).1) (g.less (by omega)) m o k;have f:=(av7 List.length (xl (fj x).1 x)).trans h.c8;revert a f hw
 generalize(ed ((fj x).1,x)).2=w;intro a hw f;obtain⟨s,h1,h2⟩:=Ro k f h.n8;rw[a.trans h1];cases mI (fj x)<;>exact⟨hw.1.pow,hw.1.ok,hw.1.lo,hw.1.hi,hw.1.rm⟩
theorem RE{b:ae}(a:aR b)(hl:b.2.2.2.2.2.2.2.length<=maxLen):jL (b,E2)=true:=by
 have f:bZ b=0:=by simp_all [kZ,jP]
 have h1:FO (0,0)=true:=by decide
 have h2:Fi (0,0,0,false,0)=true:=by decide
 have h3:AI (b.1,0,0,0)=true:=by
  have g:=a.fl;grind [AI]
 simp_all [jL,E2]
structure ix (b:ae) (m:aW):Prop extends jD b m where
 bs: ∀i:Nat,i<m.2.2.2.1.length->eb b (i:Int) (aa m.2.2.2.1 (i:Int))
 dN:nF m
theorem DM{α:Type} [Inhabited α]{n i:Nat}{a:α}{l:List α}(hl:l=List.replicate n a)(h:i<n):aa l i=a:=by
 grind [iW]
theorem abd{b:ae}(a:aR b):fw b.2.1 du.dflt:=by
 refine⟨a.Gj,λj f=> ?_⟩;have h0: ∀y∈tl (du.dflt).2,y=0:=by decide
 have g:=h0 _ (iW (au9 j) (by show j<(36:Int);omega));have:=a.Gj;omega
theorem atT{b:ae}(a:aR b){i:Nat}(hi:i<b.2.2.2.2.2.2.2.length):eb b i (qI ()):=
 ⟨a,⟨au9 i,by omega⟩,⟨au8 _,by have:=a.fl.1;show(-1:Int)<=b.1-1;omega⟩,(by decide:(0:Int)<=0/\(0:Int)<=3),(by decide:(0:Int)<=0/\(0:Int)<=3),(by decide:(0:Int)<=0/\(0:Int)<=1000000),λ_=>rfl,λd f=>(by cases f),List.Pairwise.nil⟩
theorem ai4{b:ae}{s:dr}(a:aR b)(hl:b.2.2.2.2.2.2.2.length<=maxLen)(hs:eA (b.2.2.1,s)=true)(hr:18*b.2.2.2.2.2.2.2.length+6<=b.2.2.1):ix b (wk b.2.2.2.2.2.2.2.length s):=by
 have f: ∀i:Nat,i<b.2.2.2.2.2.2.2.length->eb b i (aa (List.replicate b.2.2.2.2.2.2.2.length (qI ())) i):=λi hi=>by
  simp_all [cc,atT]
 refine⟨⟨Dv a,by show 18*(_+0)+6<=_;omega,hs,⟨rfl,λy g=>by cases g⟩,⟨⟨au8 0,(by decide:(0:Int)<=1000000)⟩,⟨au8 0,(by decide:(0:Int)<=1000000)⟩,au8 0,(by decide:(0:Int)<=1000000)⟩,⟨ff _,λi hi=> ?_⟩,⟨awi ..,λi hi=> ?_⟩,⟨ff _,λi hi=> ?_⟩,⟨ff _,λi hi=> ?_⟩,ff _⟩,λi hi=> ?_,QM _ _⟩
 ·have hi:i<b.2.2.2.2.2.2.2.length:=by rw[<- ff b.2.2.2.2.2.2.2.length];exact hi
  exact(uF _ _).2 ((av7 (fw b.2.1) (DM rfl hi)).mpr (abd a))
 ·have hi:i<b.2.2.2.2.2.2.2.length:=by rw[<- awi (n:=b.2.2.2.2.2.2.2.length)];exact hi
  exact uZ hl (f i hi)
 ·have hi:i<b.2.2.2.2.2.2.2.length:=by rw[<- ff b.2.2.2.2.2.2.2.length];exact hi
  exact(av7 (λc=>jL (b,c)) (DM rfl hi)).trans (RE a hl)
 ·have hi:i<b.2.2.2.2.2.2.2.length:=by rw[<- ff b.2.2.2.2.2.2.2.length];exact hi
  exact(av7 (λc=>mE (i,c)) (DM rfl hi)).trans rfl
 ·have hi:i<b.2.2.2.2.2.2.2.length:=by rw[<- awi (n:=b.2.2.2.2.2.2.2.length)];exact hi
  exact f i hi
def mH(l:List Int):Prop:= ∀y∈l,0<=y/\y<=1000000
theorem Qe{m:aq}{e:List Int}{r:aT}(h:mH e):mH (qB m e r):=by
 unfold qB;cases((r.1==2)&&(eO (m,r.2.1,r.2.2.1)).2)with
 |true=>exact λy a=>h y (TG a)
 |false=>
  cases((r.1==1)&&(!(eO (m,r.2.1,r.2.2.1)).2))with
  |true=>
   intro y a;rcases uA.1 a with h1|h1
   ·simp_all
   ·exact h y h1
  |false=>simp_all
theorem Pm: ∀(l:List aT) (x:bY),mH x.1.2.2.1->mH (l.foldl cF x).1.2.2.1
 | [],x,h=>h
 |r::l,x,h=>Pm l (cF x r) (Qe h)
theorem Pb: ∀(l:List aC) (x:bY),mH x.1.2.2.1->mH (l.foldl eg x).1.2.2.1
 | [],x,h=>h
 |e::l,x,h=>Pb l (eg x e) (by
  unfold eg;cases gS (x.2,x.1.2.1)with
  |true=>exact Qe (r:=(1,e.1,e.2.1,0,0)) h
  |false=>exact h)
theorem OL: ∀(l:List aT) (x:bY),(∀r∈l,r.1=3\/r.1=7)->(l.foldl cF x).1.2.2.1=x.1.2.2.1
 | [],x,_=>rfl
 |r::l,x,h=>by
  rw[awd,OL l _ λq a=>h q (by simp_all)];show qB x.1.2.1 x.1.2.2.1 r=_;grind [qB]
theorem ak5{x:au}(h:en x)(g:mH x.2.1.2.2.2.2.2.2.1):(NF x).length=(fj x).2.1.2.2.2.length/\mH (NF x):=by
 have i:=CZ x.2.2.1.1 x.2.2.2.1 h.ba h.exp (lW x) h.lit;obtain⟨h1,h2,_⟩:=HL (l:=x.2.1.2.2.2.2.2.2.2.1) x.2.2.1.1 x.2.2.2.1 h.ba h.exp (lW x);have hi:bk x.1 (cG x.1 x.2.1.1 x.2.1.2.2.2.2.2.2.1 (eN x).1 x.2.1.2.2.2.2.2.2.2.1 x.2.2.1.1 x.2.2.2.1).1.2.1:=by have:=h1.ba;simp_all
 have j:mH (cG x.1 x.2.1.1 x.2.1.2.2.2.2.2.2.1 (eN x).1 x.2.1.2.2.2.2.2.2.2.1 x.2.2.1.1 x.2.2.2.1).1.2.2.1:=by
  unfold cG;cases x.2.2.2.1 with
  |true=>simp_all [au3,Pb,Pm]
  |false=>exact g
 have a:=aic (v:=(eN x).1) hi h1.exp j (lW x);refine⟨a.1.trans ?_,a.2⟩;have f:(gV x).1.2.2.1.length=(gV x).1.2.1.2.2.2.length:=i.ro.exp;have k:(gV x).1.2.2.1=(cG x.1 x.2.1.1 x.2.1.2.2.2.2.2.2.1 (eN x).1 x.2.1.2.2.2.2.2.2.2.1 x.2.2.1.1 x.2.2.2.1).1.2.2.1:=OL _ _ λr hr=>(pE hi).1 r hr|>.2
 rw[k]at f;exact h1.exp.symm.trans f
structure zG (b:ae) (m:aW) (s:ByteArray) (x:au) (m':aW) (out:fM):Prop where
 eq:wO (b,m,s,1048576)=(m',out,0)
 pr:ix b m'
 xd:en x
 xb:x.1=b
 xg:x.2.2.2.1=((fO (b,s)).2==(0:Int))
 xi:x.2.2.1=(fO (b,s)).1
 xe:x.2.1.1.2.2.2=m.1.2.2.2
 xc:m'.2.2.1=x.2.1.2.2.1
 bA:x.2.2.2.1=true-> ∀j:Nat,j<b.2.2.2.2.2.2.2.length->aa x.2.1.2.2.1 (j:Int)=(kO (b.2.1,aa m.2.2.1 (j:Int),(aa x.2.2.1.2.2 (j:Int)).1)).1/\aa x.2.2.2.2.2.2.2.1 (j:Int)=kP (b.1,lQ (b.1,(aa x.2.1.2.2.1 (j:Int)).1))/\aa x.2.2.2.2.2.2.1 (j:Int)=true
 bad:x.2.2.2.1=false->x.2.1.2.2.1=m.2.2.1
 ey:out.2.2.2.2.2.length=b.2.2.2.2.2.2.2.length/\ ∀j:Nat,j<b.2.2.2.2.2.2.2.length->(aa out.2.2.2.2.2 (j:Int)).2.1=aa (fj x).2.2.2.1.1 (j:Int)
 FH:out.1=cd (fj x).2.1
 ba:m'.1=(fj x).2.1
 nQ:out.2.1=(fj x).1.foldl gz (0,0)
 asC:out.2.2.1= !x.2.2.2.1
 full:out.2.2.2.1=mI (fj x)
theorem alT{x:au}(hl:x.1.2.2.2.2.2.2.2.length<=maxLen){j:Nat}(h:eb x.1 j (aa x.2.1.2.2.2.1 j)):eb x.1 j (qH x j):=by
 unfold qH;cases x.2.2.2.1 with
 |true=>exact aek hl h (aew h.bG.fl _)
 |false=>exact ahk hl h
theorem amt{x:au}(hl:x.1.2.2.2.2.2.2.2.length<=maxLen){j:Nat}(h:eb x.1 j (aa x.2.1.2.2.2.1 j)):eb x.1 j (oU x j):=by
 grind [oU,afO]
structure ar6 (b:ae) (m:aW) (s:ByteArray) (x:au):Prop where
 xd:en x
 xb:x.1=b
 xg:x.2.2.2.1=((fO (b,s)).2==(0:Int))
 xi:x.2.2.1=(fO (b,s)).1
 xe:x.2.1.1.2.2.2=m.1.2.2.2
 bA:x.2.2.2.1=true-> ∀j:Nat,j<b.2.2.2.2.2.2.2.length->aa x.2.1.2.2.1 (j:Int)=(kO (b.2.1,aa m.2.2.1 (j:Int),(aa x.2.2.1.2.2 (j:Int)).1)).1/\aa x.2.2.2.2.2.2.2.1 (j:Int)=kP (b.1,lQ (b.1,(aa x.2.1.2.2.1 (j:Int)).1))/\aa x.2.2.2.2.2.2.1 (j:Int)=true
 bad:x.2.2.2.1=false->x.2.1.2.2.1=m.2.2.1
 aA: ∀j:Nat,j<b.2.2.2.2.2.2.2.length->eb b (j:Int) (aa x.2.1.2.2.2.1 (j:Int))
 new: ∀j:Nat,j<b.2.2.2.2.2.2.2.length->jL (b,aa x.2.1.2.2.2.2.1 (j:Int))=true
 ld: ∀j:Nat,j<b.2.2.2.2.2.2.2.length->0<=aa x.2.1.2.2.2.2.2.1 (j:Int)/\aa x.2.1.2.2.2.2.2.1 (j:Int)<=4
 ct: ∀j:Nat,j<b.2.2.2.2.2.2.2.length->fw b.2.1 (aa x.2.1.2.2.1 (j:Int))
 ex:mH x.2.1.2.2.2.2.2.2.1
 lT:(0<=x.2.1.2.2.2.2.2.2.2.2.1/\x.2.1.2.2.2.2.2.2.2.2.1<=1000000)/\(0<=x.2.1.2.2.2.2.2.2.2.2.2.1/\x.2.1.2.2.2.2.2.2.2.2.2.1<=1000000)/\0<=x.2.1.2.2.2.2.2.2.2.2.2.2/\x.2.1.2.2.2.2.2.2.2.2.2.2<=1000000
 nQ:x.2.2.2.2.2.2.2.2.2.2.1=(0,0)
theorem aho{b:ae}{m:aW}{s:ByteArray}(g:ix b m)(hl:b.2.2.2.2.2.2.2.length<=maxLen)(h:en (lI b m s 1048576)):
  ∃x,(gd (lI b m s 1048576)).2=x/\en x/\x.1=b/\x.2.2=(lI b m s 1048576).2.2/\x.2.1.1=m.1/\x.2.1.2.1=m.2.1/\x.2.1.2.2.2.1=m.2.2.2.1/\x.2.1.2.2.2.2.1=m.2.2.2.2.1/\x.2.1.2.2.2.2.2.2.1=m.2.2.2.2.2.2.1/\
   (x.2.2.2.1=true-> ∀j:Nat,j<b.2.2.2.2.2.2.2.length->aa x.2.1.2.2.1 (j:Int)=(kO (b.2.1,aa m.2.2.1 (j:Int),(aa x.2.2.1.2.2 (j:Int)).1)).1)/\(x.2.2.2.1=false->x.2.1.2.2.1=m.2.2.1)/\
   (∀j:Nat,j<b.2.2.2.2.2.2.2.length->0<=aa x.2.1.2.2.2.2.2.1 (j:Int)/\aa x.2.1.2.2.2.2.2.1 (j:Int)<=4)/\(∀j:Nat,j<b.2.2.2.2.2.2.2.length->fw b.2.1 (aa x.2.1.2.2.1 (j:Int)))/\
   (0<=x.2.1.2.2.2.2.2.2.2.2.1/\x.2.1.2.2.2.2.2.2.2.2.1<=1000000)/\(0<=x.2.1.2.2.2.2.2.2.2.2.2.1/\x.2.1.2.2.2.2.2.2.2.2.2.1<=1000000)/\x.2.1.2.2.2.2.2.2.2.2.2.2=m.2.2.2.2.2.2.2.2.2.2:=by
 obtain⟨ct,ld,tk,i,o,hr⟩:=SU h.tocD;refine⟨_,rfl,Ri h,?_⟩;have k: ∀j:Nat,j<b.2.2.2.2.2.2.2.length->fw b.2.1 (aa m.2.2.1 (j:Int)):=λj a=>(uF _ _).1 (g.ct.2 j (by rw[g.ct.1];exact a))
 have l: ∀j:Nat,j<b.2.2.2.2.2.2.2.length->0<=aa m.2.2.2.2.2.1 (j:Int)/\aa m.2.2.2.2.2.1 (j:Int)<=4:=λj a=>by
  have:=g.ld.2 j (by rw[g.ld.1];exact a);unfold mE at this;simpa only[au4,adv]using this
 rw[o];refine⟨rfl,rfl,rfl,rfl,rfl,rfl,rfl,λf j a=>((hr.bA f).2 j a).1,λf=>(hr.bad f).2.1,λj a=> ?_,λj a=> ?_,?_,?_,rfl⟩
 ·show 0<=aa ld (j:Int)/\aa ld (j:Int)<=4
  cases f:(lI b m s 1048576).2.2.2.1 with
  |true=>rw[((hr.bA f).2 j a).2];exact ahJ _ _ _ (l j a)
  |false=>rw[(hr.bad f).2.2];exact l j a
 ·show fw b.2.1 (aa ct (j:Int))
  cases f:(lI b m s 1048576).2.2.2.1 with
  |true=>rw[((hr.bA f).2 j a).1];exact P0 (k j a)
  |false=>rw[(hr.bad f).2.1];exact k j a
 ·show 0<=tk/\tk<=1000000
  rw[hr.tk];exact Iq g.lT.1
 ·show 0<=i/\i<=1000000
  cases f:(lI b m s 1048576).2.2.2.1 with
  |true=>rw[(hr.bA f).1];exact g.lT.2.1
  |false=>rw[(hr.bad f).1];exact Iq g.lT.2.1
theorem amD{r:Int}(h0:0<=r)(h:r<=678):(r+2)*((8:Nat):Int)+((r+2)*((1:Nat):Int)+((r+2)*((1000:Nat):Int)+0))<=1048576:=by omega
theorem agu{b:ae}{m:aW}{x:au}(hl:b.2.2.2.2.2.2.2.length<=maxLen)(f:en x)(hb:x.1=b)(g:(fA x).2.2.2.2.2.2.1=0)(i: ∀j:Nat,j<b.2.2.2.2.2.2.2.length->eb b (j:Int) (aa x.2.1.2.2.2.1 (j:Int))):
  ∃y,(fA x).2=y/\en y/\y.1=b/\y.2.2.1=x.2.2.1/\y.2.2.2.1=x.2.2.2.1/\y.2.1.1.2.2.2=x.2.1.1.2.2.2/\y.2.1.2.2.1=x.2.1.2.2.1/\y.2.1.2.2.2.2=x.2.1.2.2.2.2/\y.2.2.2.2.2.2.2.2.2=x.2.2.2.2.2.2.2.2.2/\
   (∀j:Nat,j<b.2.2.2.2.2.2.2.length->eb b (j:Int) (aa y.2.1.2.2.2.1 (j:Int)))/\(∀j:Nat,j<b.2.2.2.2.2.2.2.length->aa y.2.2.2.2.2.2.2.1 (j:Int)=nP x (j:Int)/\aa y.2.2.2.2.2.2.1 (j:Int)=true):=by
 subst hb;obtain⟨fl,aA,dN,k,l,bl,o,h,_,_,e,_⟩:=RV f.tocD g;refine⟨_,rfl,Q8 f g,?_⟩;rw[e];exact⟨rfl,rfl,rfl,rfl,rfl,rfl,rfl,λj a=>by show eb x.1 (j:Int) (aa aA (j:Int));rw[(h.new j a).1];exact alT hl (i j a),λj a=>(h.new j a).2⟩
theorem aiZ{b:ae}{x:au}(hl:b.2.2.2.2.2.2.2.length<=maxLen)(g:en x)(hb:x.1=b)(f:(ij x).2.2.2.2.2.2.1=0)(h: ∀j:Nat,j<b.2.2.2.2.2.2.2.length->eb b (j:Int) (aa x.2.1.2.2.2.1 (j:Int)))(i: ∀j:Nat,j<b.2.2.2.2.2.2.2.length->jL (b,aa x.2.1.2.2.2.2.1 (j:Int))=true):
  ∃y,(ij x).2=y/\en y/\y.1=b/\y.2.2.1=x.2.2.1/\y.2.2.2.1=x.2.2.2.1/\y.2.1.1.2.2.2=x.2.1.1.2.2.2/\y.2.1.2.2.1=x.2.1.2.2.1/\y.2.1.2.2.2.2.2=x.2.1.2.2.2.2.2/\y.2.2.2.2.2.2.1=x.2.2.2.2.2.2.1/\y.2.2.2.2.2.2.2.1=x.2.2.2.2.2.2.2.1/\y.2.2.2.2.2.2.2.2.2.2.1=x.2.2.2.2.2.2.2.2.2.2.1/\
   (∀j:Nat,j<b.2.2.2.2.2.2.2.length->eb b (j:Int) (aa y.2.1.2.2.2.1 (j:Int)))/\(∀j:Nat,j<b.2.2.2.2.2.2.2.length->jL (b,aa y.2.1.2.2.2.2.1 (j:Int))=true):=by
 subst hb;refine⟨_,rfl,VC g f,?_⟩;unfold ij at f⊢;cases hg:x.2.2.2.1 with
 |false=>exact⟨rfl,rfl,hg,rfl,rfl,rfl,rfl,rfl,rfl,h,i⟩
 |true=>
  rw[hg,au3]at f;rw[au3];obtain⟨o,k,bl,l,st,aA,aK,s,_,_,_,_,m,e,_⟩:=OU g.tocD hg f;show(ig x).2.1=_/\(ig x).2.2.2.1=_/\(ig x).2.2.2.2.1=_/\(ig x).2.2.1.1.2.2.2=_/\(ig x).2.2.1.2.2.1=_/\(ig x).2.2.1.2.2.2.2.2=_/\(ig x).2.2.2.2.2.2.2.1=_/\(ig x).2.2.2.2.2.2.2.2.1=_/\(ig x).2.2.2.2.2.2.2.2.2.2.2.1=_/\(∀j:Nat,_->eb _ _ (aa (ig x).2.2.1.2.2.2.1 (j:Int)))/\ ∀j:Nat,_->jL (_,aa (ig x).2.2.1.2.2.2.2.1 (j:Int))=true
  rw[e];refine⟨rfl,rfl,hg,rfl,rfl,rfl,rfl,rfl,rfl,λj a=> ?_,λj a=> ?_⟩
  ·show eb x.1 (j:Int) (aa aA (j:Int))
   rw[(m.new j a).1];cases tF (ml x k bl l st) st (j:Int)with
   |true=>exact ae6 hl (h j a)
   |false=>exact h j a
  ·show jL (x.1,aa aK (j:Int))=true
   rw[(m.new j a).2.1];cases tF (ml x k bl l st) st (j:Int)with
   |true=>exact RE g.ba.bG hl
   |false=>exact i j a
theorem alX{b:ae}{m:aW}{s:ByteArray}(a:ix b m)(hl:b.2.2.2.2.2.2.2.length<=maxLen)(hr:b.2.2.1<=678)(O:gT b s):
  ∃x,ar6 b m s x/\iD x ((b.2.2.1+2)*((1000:Nat):Int)+0)/\(ij (fA (gd (lI b m s 1048576)).2).2).2=x/\
   ((gd (lI b m s 1048576)).2.2.2.2.2.2.1=0/\(fA (gd (lI b m s 1048576)).2).2.2.2.2.2.2.1=0/\x.2.2.2.2.2.1=0):=by
 have P:=a.tojD.tk a.dN hl (auv a.Gl (by decide)) O 1048576;have Q:=a.ba.bG;have u:0<=b.2.2.1:=by have:=Q.room.1;omega
 have S:=amD u hr;have d0:=by omega
 have T:0<=(b.2.2.1+2)*(1000:Int)+0:=by omega
 obtain⟨x1,l,d1,b1,i1,w,U,V,n1,Y,Z,h8,h9,a1,a2,a3,a4⟩:=aho a hl P;have y:iD x1 ((x1.1.2.2.1+2)*(8:Int)+((b.2.2.1+2)*(1:Int)+((b.2.2.1+2)*(1000:Int)+0))):=by
  refine⟨?_,?_,?_,?_,?_⟩
  ·rw[b1,w,U];exact⟨a.bl,a.ba,a.room⟩
  ·rw[i1];rfl
  ·rw[b1,i1];exact S
  ·rw[i1];exact au8 _
  ·rw[b1];exact u
 have g:=aj0 d1.tocD (by omega) y;have z2:=g.ok;obtain⟨z,A,d2,C,i2,g2,e2,c2,I,o2,a9,J⟩:=agu (m:=m) hl d1 b1 z2 (λj f=>by rw[V];exact a.bs j (by rw[a.aA.1];exact f));rw[A]at g;have g:iD z ((z.1.2.2.1+2)*(1:Int)+((b.2.2.1+2)*(1000:Int)+0)):=by rw[C];exact g
 have i:=amq d2 T g;have z3:=i.ok;obtain⟨L,M,d3,b3,i3,g3,e3,c3,k3,l3,s3,v3,kN,c9⟩:=aiZ hl d2 C z3 a9 (λj f=>by rw[I,n1];exact a.new.2 j (by rw[a.new.1];exact f));rw[M]at i;refine⟨L,?_,i,by rw[l,A,M],by rw[l];exact y.ok,by rw[l];exact z2,i.ok⟩;have k:=g3.trans g2;have o:=c3.trans c2;have N:=i3.trans i2;have t:L.2.1.2.2.2.2.2=x1.2.1.2.2.2.2.2:=by rw[k3,I]
 refine⟨d3,b3,by rw[k,i1];rfl,by rw[N,i1];rfl,by rw[e3,e2,w],λh j f=> ?_,λh=>by rw[o];exact h8 (k▸h),kN,c9,λj f=>by rw[t];exact h9 j f,λj f=>by rw[o];exact a1 j f,?_,?_,?_⟩
 ·rw[o,N,l3,s3]
  refine⟨Z (k▸h) j f,?_,(J j f).2⟩;rw[(J j f).1];unfold nP;have h1:=k▸h;rw[h1,b1];rfl
 ·rw[t];show mH x1.2.1.2.2.2.2.2.2.1;rw[Y];exact a.ex.2
 ·rw[t]
  exact⟨a2,a3,by rw[a4];exact a.lT.2.2⟩
 ·rw[v3,o2,i1];rfl
theorem ajA{x:au}(h:en x):(fj x).2.2.2.1.1.length=x.1.2.2.2.2.2.2.2.length:=
 (PG x.2.2.1.1 x.2.2.2.1 h.ba.bG (lW x) h.lit).1
theorem an0{b:ae}{m:aW}{s:ByteArray}(y:ix b m)(hl:b.2.2.2.2.2.2.2.length<=maxLen)(hr:b.2.2.1<=678)(z:gT b s):
  ∃x A out,zG b m s x A out:=by
 obtain⟨x,a,k,C,I,z2,z3⟩:=alX y hl hr z;have k:iD x ((x.1.2.2.1+2)*(1000:Int)+0):=by rw[a.xb];omega
 have i:=akw a.xd (au8 0) k;have z4:=i.ok;have d4:=Ta a.xd z4;have g:(ko (lI b m s 1048576)).2=(sY (iS x).2).2:=by
  unfold ko;simp only;rw[Ft I,auw,Ft z2,auw,C,Ft z3,auw,Ft z4,auw]
 obtain⟨bl,J,l,L,M,hi⟩:=Oc a.xd z4;obtain⟨aA,N,o,h⟩:=agl d4;rw[L]at i d4 o h g;rw[o]at g;have hb:=a.xb;have t:=ak5 a.xd a.ex;have O:=ajA a.xd;have P:=i.pow.room;have Q:=UG a.xd;subst hb;refine⟨x,_,_,alJ x.1 m s 1048576 (by unfold runT;rw[g];rfl),?_,a.xd,rfl,a.xg,a.xi,a.xe,by unfold runT;rw[g];rfl,a.bA,a.bad,?_,by unfold runT;rw[g];rfl,by unfold runT;rw[g];rfl,?_,by unfold runT;rw[g];rfl,by unfold runT;rw[g];rfl⟩
 ·unfold runT
  rw[g];have u:aA.length=x.1.2.2.2.2.2.2.2.length:=h.l1;have w: ∀j:Nat,j<x.1.2.2.2.2.2.2.2.length->eb x.1 j (aa aA j):=λj f=>by
   rw[h.new j f];exact amt (x:=AO x (fj x) bl J l) hl (a.aA j f)
  refine⟨⟨hi,P,i.pow.bl,⟨t.1,t.2⟩,⟨a.lT.1,a.lT.2.1,?_⟩,⟨a.xd.c1,λj f=>(uF _ _).2 (a.ct j (by rw[<- a.xd.c1];exact f))⟩,⟨h.l1,λj f=>uZ hl (w j (by rw[<- u];exact f))⟩,⟨a.xd.c3,λj f=>a.new j (by rw[<- a.xd.c3];exact f)⟩,⟨a.xd.c4,λj f=> ?_⟩,O⟩,λj f=>w j (by rw[<- u];exact f),⟨?_,a.xd.cf⟩⟩
  ·show 0<=(bif mI (fj x)then ib x.2.1.2.2.2.2.2.2.2.2.2.2 else x.2.1.2.2.2.2.2.2.2.2.2.2)/\(bif mI (fj x)then ib x.2.1.2.2.2.2.2.2.2.2.2.2 else x.2.1.2.2.2.2.2.2.2.2.2.2)<=1000000
   cases mI (fj x)with
   |true=>exact Iq a.lT.2.2
   |false=>exact a.lT.2.2
  ·have:=a.ld j (by rw[<- a.xd.c4];exact f)
   show mE (j,aa x.2.1.2.2.2.2.2.1 j)=true;unfold mE;rw[au4,adv,adv];exact this
  ·show∀p∈(fj x).2.1.1,p=0
   rw[Q];exact a.xd.ph
 ·unfold runT
  rw[g];refine⟨h.l2,λj f=> ?_⟩;show(aa N j).2.1=_;rw[h.ey j];show(aa l j).2.1=_;rw[M.new j f]
 ·unfold runT
  rw[g];show(fj x).1.foldl gz x.2.2.2.2.2.2.2.2.2.2.1=_;rw[a.nQ]
theorem uI{α:Type} [Inhabited α]{l:List α}{i:Int}{v:α}(h0:0<=i)(h1:i<l.length):aa (l.set i.toNat v) i=v:=by
 grind [jU]
theorem Bt{α:Type} [Inhabited α]{l:List α}{i j:Int}{v:α}(h0:0<=i)(h1:i<l.length)(a:0<=j)(f:j≠i):aa (l.set i.toNat v) j=aa l j:=by
 grind [Int.eq_ofNat_of_zero_le,fR]
theorem ix.isM{b:ae}{m:aW}(h:ix b m):qM (b,m)=true:=by
 have a:=h.ba.bG.cn.2;have f:=h.Gl;have hi:=h.ba.len;refine(Oe ⟨?_,?_,?_,?_,?_,?_,?_,?_⟩).2 h.tojD
 ·exact auv a (by decide)
 ·rw[h.ba.l1];exact auv a (by decide)
 ·exact auv hi (by decide)
 ·rw[h.ct.1];exact auv a (by decide)
 ·rw[h.aA.1];exact auv a (by decide)
 ·rw[h.new.1];exact auv a (by decide)
 ·rw[h.ld.1];exact auv a (by decide)
 ·exact auv f (by decide)
theorem Ug{b:ae}{m:aW}{s:ByteArray}(a:ix b m)(hr:b.2.2.1<=678)(i:gT b s): ∃x f out,gG (b,m,s,1048576)=(f,out,0)/\zG b m s x f out:=by
 have g:=a.ba.bG.cn.2;obtain⟨x,f,out,h⟩:=an0 a (auv g (by decide)) hr i;exact⟨x,f,out,(alL a.isM (by rw[a.aA.1];exact auv g (by decide)) (by decide)).trans h.eq,h⟩
theorem agR{b:ae}{m:aW}{s:ByteArray}(a:ix b m)(hr:b.2.2.1<=678)(f:gT b s):ix b (gG (b,m,s,1048576)).1:=by
 obtain⟨x,g,out,h1,h2⟩:=Ug a hr f;rw[h1];exact h2.pr
structure iV (k:Int×ae×bm×fM) (x:List bg×ax):Prop where
 i0:0<=x.2.1
 n8:k.2.1.2.2.2.2.2.2.2.length<=8
 cl:x.1.length=k.2.1.2.2.2.2.2.2.2.length
 fl: ∀d∈x.1,jh d.1
 db: ∀d∈x.1,fw k.2.1.2.1 d
 bf:k.1=0->k.2.2.1.2.2.length=k.2.1.2.2.2.2.2.2.2.length
 out:k.2.2.2.2.2.2.2.2.length=k.2.1.2.2.2.2.2.2.2.length
structure fK (k:ae) (x:List ByteArray×List bg×Int×aW×af):Prop where
 i0:0<=x.2.2.1
 bG:aR k
 rm:k.2.2.1<=678
 fl:x.1.length<=1000
 cl:x.2.1.length=k.2.2.2.2.2.2.2.length
 cf: ∀d∈x.2.1,jh d.1
 db: ∀d∈x.2.1,fw k.2.1 d
 pr:ix k x.2.2.2.1
theorem rI{i:Int}{n m:Nat}(h0:0<=i)(h:i<n)(hl:m=n):0<=i/\i<m:=by omega
theorem iV.next{k:Int×ae×bm×fM}{x:List bg×ax}(h:iV k x){l:List bg}(hl:l=x.1\/ ∃d,l=x.1.set x.2.1.toNat d/\jh d.1/\fw k.2.1.2.1 d){c:af}:iV k (l,x.2.1+1,c):=by
 refine⟨cH h.i0,h.n8,?_,?_,?_,h.bf,h.out⟩
 ·rcases hl with rfl|⟨d,rfl,_⟩
  ·exact h.cl
  ·exact(auz ..).trans h.cl
 ·rcases hl with rfl|⟨d,rfl,a,_⟩
  ·exact h.fl
  ·exact yx h.fl a
 ·rcases hl with rfl|⟨d,rfl,_,a⟩
  ·exact h.db
  ·exact yx h.db a
theorem fK.MC{k:ae}{x:List ByteArray×List bg×Int×aW×af}(h:fK k x){i:Int}(h0:0<=i)(h1:i<x.1.length)(a:(((cJ (k,aa x.1 i)).2==0)&&((cJ (k,aa x.1 i)).1.2.1.1 !=8))=true):
  gT k (aa (x.1.set i.toNat (eP (k,(cJ (k,aa x.1 i)).1.1,(0,0),(cJ (k,aa x.1 i)).1.2.2)).1) i)/\(cJ (k,aa x.1 i)).1.2.2.length<=30:=by
 rw[uI h0 h1,sE h.bG];rw[sE h.bG]at a;rw[au4]at a;have f:=vY a.1;refine⟨aj2 h.bG f,?_⟩;have g:=h.bG.cn.2;have:=xY (xI f).2;grind
theorem fK.MO{k:ae}{x:List ByteArray×List bg×Int×aW×af}(h:fK k x){i:Int}(a:(((cJ (k,aa x.1 i)).2==0)&&((cJ (k,aa x.1 i)).1.2.1.1 !=8))=false):gT k (aa x.1 i):=by
 rw[sE h.bG]at a;exact ajm h.bG a
theorem fK.bf{k:ae}{x:List ByteArray×List bg×Int×aW×af}(h:fK k x){s:ByteArray}(a:(cJ (k,s)).2=0):(cJ (k,s)).1.2.2.length=k.2.2.2.2.2.2.2.length:=by
 rw[sE h.bG]at a⊢;exact xY (xI a).2
theorem fK.inner{k:ae}{x:List ByteArray×List bg×Int×aW×af}(h:fK k x){e:Int}{bf:bm}{out:fM}(hi:e=0->bf.2.2.length=k.2.2.2.2.2.2.2.length){c d:Bool}(a:((c||d)||((out.2.2.2.2.2.length:Int) !=k.2.2.2.2.2.2.2.length))=false):iV (e,k,bf,out) (x.2.1,0,0,0):=by
 rw[au1,avc,axe]at a;exact⟨au8 0,h.bG.cn.2,h.cl,h.cf,h.db,hi,a.2⟩
theorem fK.next{k:ae}{x:List ByteArray×List bg×Int×aW×af}(h:fK k x){l:List ByteArray}{s:ByteArray}(hl:l=x.1\/ ∃v,l=x.1.set x.2.2.1.toNat v)(i:gT k s){f:Int×ae×bm×fM}{y:List bg×ax}(a:iV f y)(g:f.2.1=k){c:af}:
  fK k (l,y.1,x.2.2.1+1,(gG (k,x.2.2.2.1,s,1048576)).1,c):=by
 refine⟨cH h.i0,h.bG,h.rm,?_,by rw[<- g];exact a.cl,a.fl,by rw[<- g];exact a.db,agR h.pr h.rm i⟩;rcases hl with rfl|⟨v,rfl⟩
 ·exact h.fl
 ·rw[auz];exact h.fl
theorem aax{n:Int}{s:bg}(h:jh s.1)(a:fw n s)(c:iN):jh (lS (n,s,c)).1.1:=by
 grind [It,B1,Io]
theorem wL{α:Type}{l m:List α}{i:Int}(h:l=m\/ ∃v,l=m.set i.toNat v)(a:i<m.length):(l.length - (i+1)).toNat<(m.length-i).toNat:=by
 grind
theorem aoD{n:Nat}(h:n<=8):0<=(n:Int)/\n=(n:Int)/\(n:Int)*296<=140737488355328/\(n:Int)<=4611686018427387903:=by omega
theorem ag8{n:Int}{s:bg}(a:fw n s)(c:iN):fw n (lS (n,s,c)).1:=by
 grind [It,B1,P0]
theorem iV.V6{k:Int×ae×bm×fM}{x:List bg×ax}(h:iV k x)(a:x.2.1<k.2.1.2.2.2.2.2.2.2.length){c:iN}{d:af}:iV k (x.1.set x.2.1.toNat (lS (k.2.1.2.1,aa x.1 x.2.1,c)).1,x.2.1+1,d):=by
 have hr:=rI h.i0 a h.cl;have hm:=iW hr.1 hr.2;exact h.next (.inr ⟨_,rfl,aax (h.fl _ hm) (h.db _ hm) c,ag8 (h.db _ hm) c⟩)
theorem iV.iF{k:Int×ae×bm×fM}{x:List bg×ax}(h:iV k x)(a:x.2.1<k.2.1.2.2.2.2.2.2.2.length){c:iN}:jh (aa (x.1.set x.2.1.toNat (lS (k.2.1.2.1,aa x.1 x.2.1,c)).1) x.2.1).1:=by
 have hr:=rI h.i0 a h.cl;have hm:=iW hr.1 hr.2;rw[uI hr.1 hr.2];exact aax (h.fl _ hm) (h.db _ hm) c
theorem fK.start{x:ax}{l:List ByteArray}(h:pe x)(hl:l.length<=1000):
  fK (F7 x) (l,aE du ((F7 x).2.2.2.2.2.2.2.length:Int),0,(F8 (F7 x)).1,0,0):=by
 obtain⟨a,_,hr,i⟩:=zf h;obtain⟨s,hs,g⟩:=Jr h;rw[hs];generalize F7 x=b at a hr i g;have j:=a.cn.2;refine⟨au8 0,a,hr,hl,ff _,λd f=> ?_,λd f=> ?_,ai4 a (auv j (by decide)) g (by omega)⟩
 ·rw[axr f]
  exact⟨au8 0,(by decide:(0:Int)<=4294967295)⟩
 ·rw[axr f]
  exact abd a
theorem ajU{b:ae}(hl:b.2.2.2.2.2.2.2.length<=maxLen):Fit az b:=⟨trivial,trivial,trivial,trivial,trivial,trivial,trivial,hl,λ_ _=>⟨trivial,trivial,trivial,trivial,trivial,trivial,trivial,trivial,trivial⟩⟩
theorem OQ{b:ae}{l:List Int}(g:aR b)(hl:l.length<=maxLen)(a:bV l):(F9 (b,l,120)).length<=1000:=by
 have h:=g.cn.2;have i:Fit (Ty.pair qx (Ty.pair ab az)) (l,120,b):=⟨⟨hl,λ_ _=>trivial⟩,trivial,ajU (auv h (by decide))⟩;have j:=ir (step:=vK) (I:=λy=>zY (l,120,b) y) (λy k' z a f=>by
  have hs:=Wj (l,120,b) y i a;rw[f]at hs;exact hs.2.1) (λy k' z a f=>by
  unfold vK at f;grind) (Nat.succ (E1 (l,120,b) ([],0))) ([],0) ⟨au8 0,au8 0,(by decide:(0:Int)<=120),(by decide:(120:Int)<=1000),a,g⟩
 have h2:=j.2.2.1;unfold F9 acR;grind
theorem alw{b:ae}{l:List Int}{n:Int}(h1:aR b)(h2:bV l)(h3:0<=n/\n<=1000):Fm (b,l,n):=⟨h1,h2,h3⟩
theorem fK.safe{x:(ax)×List Int}(h1:pe x.1)(h2:bV x.2)(hl:x.2.length<=maxLen):
  (Fm ((F7 x.1),x.2,120))/\((0<=(((F7 x.1).2.2.2.2.2.2.2).length:Int)/\(((F7 x.1).2.2.2.2.2.2.2).length:Int)=(((F7 x.1).2.2.2.2.2.2.2).length:Int)/\(((F7 x.1).2.2.2.2.2.2.2).length:Int)*296<=140737488355328/\(((F7 x.1).2.2.2.2.2.2.2).length:Int)<=4611686018427387903)/\(fK (F7 x.1) ((F9 ((F7 x.1),x.2,120)),(aE du (((F7 x.1).2.2.2.2.2.2.2).length:Int)),0,(F8 (F7 x.1)).1,0,0))):=by
 have a:=(zf h1).1;exact⟨alw a h2 ⟨by decide,by decide⟩,aoD a.cn.2,fK.start h1 (OQ a hl h2)⟩
def KA(k:(Int×(ae)×(bm)×fM))(x:((List (bg))×ax)):Prop:=iV k x
def pX(k:Int×ae×bm×fM)(x:(List bg)×ax):=(k.2.1.2.2.2.2.2.2.2.length-x.2.1).toNat
def ln(k:Int×ae×bm×fM)(x:(List bg)×ax):ak (Int×ae×bm×fM) ((List bg)×ax) Bool:=letI e:=x.2.1;letI b:=aH du x.1 e (lS (k.2.1.2.1,aa x.1 e,(aa k.2.2.1.2.2 e).1)).1;letI a:=dM (kP (k.2.1.1,lQ (k.2.1.1,(aa b e).1)),x.2.2);letI c:=aa k.2.2.2.2.2.2.2.2 e;letI d:=i64.wrap (e+1);bif e<k.2.1.2.2.2.2.2.2.2.length then bif k.1==0 then bif !(c.2.1.1==a.1&&c.2.1.2==a.2)then .ret false else .next k (b,d,iq (x.2.2,a))else bif !(c.2.1.1==0&&c.2.1.2==0)then .ret false else .next k (x.1,d,iq (x.2.2,0,0))else .brk k x
def fo k x:=endOf ln k (Nat.succ (pX k x)) x
def vJ k x:=bd ln k (Nat.succ (pX k x)) x
def Yq(k:(ae))(x:((List ByteArray)×(List (bg))×Int×(aW)×af)):Prop:=fK k x
def Lu(k:ae)(x:(List ByteArray)×(List bg)×Int×aW×af):=(x.1.length-x.2.2.1).toNat
def amk(k:ae)(x:(List ByteArray)×(List bg)×Int×aW×af):=letI a:=cJ (k,aa x.1 x.2.2.1);letI b:=(0,0);fo (a.2,k,(a.1.1,b,a.1.2.2),(gG (k,x.2.2.2.1,aa (aH bK x.1 x.2.2.1 (eP (k,a.1.1,b,a.1.2.2)).1) x.2.2.1,1048576)).2.1) (x.2.1,0,0,0)
def amo(k:ae)(x:(List ByteArray)×(List bg)×Int×aW×af):=letI b:=x.2.2;letI a:=cJ (k,aa x.1 b.1);eB (dM (a.1.1,b.2.2),(gG (k,b.2.1,aa (aH bK x.1 b.1 (eP (k,a.1.1,(0,0),a.1.2.2)).1) b.1,1048576)).2.1.1)
def amr(k:ae)(x:(List ByteArray)×(List bg)×Int×aW×af):=letI a:=aa x.1 x.2.2.1;dM (x.2.2.2.2,eB (x.2.2.2.2,(fo ((cJ (k,a)).2,k,(cJ (k,a)).1,(gG (k,x.2.2.2.1,a,1048576)).2.1) (x.2.1,0,0,0)).2.2))
def vP(k:ae)(x:(List ByteArray)×(List bg)×Int×aW×af):ak ae ((List ByteArray)×(List bg)×Int×aW×af) Bool:=letI i:=amr k x;letI j:=(x.2.1,0,0,0);letI o:=x.2.2;letI b:=gG (k,o.2.1,aa x.1 o.1,1048576);letI c:=cJ (k,aa x.1 o.1);letI g:=i64.wrap (o.1+1);letI h:=dM (c.1.1,o.2.2);letI m:=b.2.1;letI n:=iq (i,eB (h,m.1));letI r:=c.2==0;letI s:=amk k x;letI l:=eB (o.2.2,s.2.2);letI d:=dM (o.2.2,l);letI p:=iq (d,amo k x);letI t:=(k.2.2.2.2.2.2.2.length:Int);letI u:=iq (d,h);letI v:=iq (i,h);letI w:=(0,0);letI f:=aH bK x.1 o.1 (eP (k,c.1.1,w,c.1.2.2)).1;letI a:=gG (k,o.2.1,aa f o.1,1048576);letI q:=a.2.1;letI z:=c.2 !=0;letI A:=(c.2,k,c.1,m);letI e:=fo A j;letI y:=eB (o.2.2,e.2.2);bif o.1<x.1.length then bif r&&c.1.2.1.1 !=8 then bif a.2.2 !=0||q.2.2.1 !=z||q.2.2.2.2.2.length !=t then .ret false else dq (vJ (c.2,k,(c.1.1,w,c.1.2.2),q) j) .ret (bif !(q.2.1.1==l.1&&q.2.1.2==l.2)then .ret false else bif r then bif q.2.2.2.1 then bif !(q.1.1==p.1&&q.1.2==p.2)then .ret false else .next k (f,s.1,g,a.1,p)else bif !(q.1.1==u.1&&q.1.2==u.2)then .ret false else .next k (f,s.1,g,a.1,u)else bif !(q.1.1==d.1&&q.1.2==d.2)then .ret false else .next k (f,s.1,g,a.1,d))else bif b.2.2 !=0||m.2.2.1 !=z||m.2.2.2.2.2.length !=t then .ret false else dq (vJ A j) .ret (bif !(m.2.1.1==y.1&&m.2.1.2==y.2)then .ret false else bif r then bif m.2.2.2.1 then bif !(m.1.1==n.1&&m.1.2==n.2)then .ret false else .next k (x.1,e.1,g,b.1,n)else bif !(m.1.1==v.1&&m.1.2==v.2)then .ret false else .next k (x.1,e.1,g,b.1,v)else bif !(m.1.1==i.1&&m.1.2==i.2)then .ret false else .next k (x.1,e.1,g,b.1,i))else .brk k x
def aba k x:=bd vP k (Nat.succ (Lu k x)) x
def F3(x:(ax)×List Int):=letI a:=F7 x.1;bif(F8 a).2 !=0 then false else dq (aba a (F9 (a,x.2,120),aE du a.2.2.2.2.2.2.2.length,0,(F8 a).1,0,0)) (λy=>y) (NA ())
def MK(x:(ax)×List Int):Prop:=pe x.1/\bV x.2
def tt:Ct:=⟨Ty.pair Ax qx,[some 3,none],aw,ah.one none,some MK,none,F3⟩
def Ka:LS aw.den:=aD (Ty.pair bI (Ty.pair az (Ty.pair dQ Ad))) (Ty.pair qp (Ty.pair ab aU)) [(13,none)] [(5,8),(12,5),(15,8)] [(9,none),(18,none)] [(17,2)] [(0,102000,true,70)] [51] [(5,5),(12,12),(15,15),(17,17)] 2 true KA ln pX
def YA:LS aw.den:=aD az (Ty.pair oX (Ty.pair qp (Ty.pair ab (Ty.pair fB aU)))) [] [(5,8)] [(8,none),(9,none),(11,none)] [(6,16),(10,2)] [(0,100900,true,9),(1,100901,true,70)] [] [(5,5),(6,6),(10,10)] 0 true Yq vP Lu
def MP(z:List (Nat×List Nat)):=dB (B4 true) lY cY aiG z
theorem amU:bu f3 tt [0,0] Ka:=lA (MP []) [] l0 (λk x fk fx h=>sl (letI b:=x.2.1;letI a:=aH du x.1 b (lS (k.2.1.2.1,aa x.1 b,(aa k.2.2.1.2.2 b).1)).1;letI c:=0<=b/\b<(k.2.2.2.2.2.2.2.2.length:Int);letI d:=0<=b/\b<(x.1.length:Int);letI e:=k.1==0;decide (b<(k.2.1.2.2.2.2.2.2.2.length:Int))=true->((e=true->(d/\((0<=b/\b<(k.2.2.1.2.2.length:Int))/\(d/\((0<=b/\b<a.length)/\EI (k.2.1.1,(aa a b).1)/\c)))))/\(e=false->c))) (by
 try dsimp only[Ty.den]at*
 have h:iV k x:=h;intro hc;rw[adv]at hc;have r:=rI h.i0 hc h.cl;have ro:=rI h.i0 hc h.out;refine⟨λhk=> ?_,λ_=>ro⟩;have ri:=rI h.i0 hc (h.bf (vY hk));exact⟨r,ri,r,rI h.i0 hc ((auz ..).trans h.cl),h.iF hc,ro⟩)) λk x fk h=>by
 try dsimp only[Ty.den]at*
 have h:iV k x:=h;unfold ln;refine aJ.cnd (λhc=> ?_) (λ_=>rfl);rw[adv]at hc;have e:=sL h.i0 hc (by have:=h.n8;omega);rw[e];refine aJ.cnd (λ_=>aJ.cnd (λ_=>rfl) (λ_=>⟨rfl,h.V6 hc,cI hc⟩)) (λ_=>aJ.cnd (λ_=>rfl) (λ_=>⟨rfl,h.next (.inl rfl),cI hc⟩))
theorem anE:bu f3 tt [0] YA:=lA (MP []) [(20,Ka)] (lc amU l0) (λk x fk fx h=>sl (letI f:=x.2.2.1;letI b:=cJ (k,aa x.1 f);letI c:=(k,x.2.2.2.1,aa x.1 f,1048576);letI g:=(b.2==0)&&(b.1.2.1.1 !=8);letI h:=(x.2.1,0,0,0);letI i:=(k.2.2.2.2.2.2.2.length:Int);letI l:=(0,0);letI e:=(k,b.1.1,l,b.1.2.2);letI j:=aH bK x.1 f (eP e).1;letI a:=(k,x.2.2.2.1,aa j f,1048576);letI m:=(x.1.length:Int);letI d:=0<=f/\f<m;letI n:=gG a;letI o:=gG c;letI p:=b.2 !=0;decide (f<m)=true->(d/\((g=true->(zX e/\(d/\((0<=f/\f<(j.length:Int))/\(vO a/\((((n.2.2 !=0)||(n.2.1.2.2.1 !=p))||((n.2.1.2.2.2.2.2.length:Int) !=i))=false->KA (b.2,k,(b.1.1,l,b.1.2.2),n.2.1) h))))))/\(g=false->(d/\(vO c/\((((o.2.2 !=0)||o.2.1.2.2.1 !=p)||o.2.1.2.2.2.2.2.length !=i)=false->KA (b.2,k,b.1,o.2.1) h))))))) (by
 try dsimp only[Ty.den]at*
 have h:fK k x:=h;intro hc;rw[adv]at hc;have r:=gR h.i0 hc;refine⟨r,λhg=> ?_,λhg=> ?_⟩
 ·have q:=h.MC r.1 r.2 hg
  exact⟨q.2,r,rI h.i0 hc (auz ..),⟨h.pr.dN,q.1⟩,λhq=>h.inner (λhz=>h.bf hz) hq⟩
 ·exact⟨r,⟨h.pr.dN,h.MO hg⟩,λhq=>h.inner (λhz=>h.bf hz) hq⟩)) λk x fk h=>by
 try dsimp only[Ty.den]at*
 have h:fK k x:=h;have key: ∀(kk:Int×ae×bm×fM) (y0:List bg×ax),iV kk y0->iV kk (fo kk y0):=λkk y0 h0=>ir (step:=ln) (k:=kk) (I:=λy=>iV kk y) (λy k' z h hz=>by
   have hs:aJ true (λk x=>iV k x) pX kk y (ln kk y):=by
    unfold ln;refine aJ.cnd (λhc=> ?_) (λ_=>rfl);rw[adv]at hc;have e:=sL h.i0 hc (by have:=h.n8;omega);rw[e];refine aJ.cnd (λ_=>aJ.cnd (λ_=>rfl) (λ_=>⟨rfl,h.V6 hc,cI hc⟩)) (λ_=>aJ.cnd (λ_=>rfl) (λ_=>⟨rfl,h.next (.inl rfl),cI hc⟩))
   rw[hz]at hs;exact hs.2.1) (λy k' z h hz=>by
   revert hz
   unfold ln;cases(decide (y.2.1<((kk.2.1.2.2.2.2.2.2.2).length:Int)))with
   |true=>
    rw[au3];cases(kk.1==(0:Int))with
    |true=>rw[au3];simp only[cond];split<;>(intro hz;cases hz)
    |false=>rw[auw];simp only[cond];split<;>(intro hz;cases hz)
   |false=>rw[auw];intro hz;cases hz;exact h) _ y0 h0
 unfold vP;refine aJ.cnd (λhc=> ?_) (λ_=>rfl);rw[adv]at hc;have r:=gR h.i0 hc;have e:=cC r.1 r.2 (auv h.fl (by decide));rw[e];refine aJ.cnd (λhg=>aJ.cnd (λ_=>rfl) (λhq=>aJ.opt (λ_=>aJ.cnd (λ_=>rfl) (λ_=> ?_)))) (λhg=>aJ.cnd (λ_=>rfl) (λhq=>aJ.opt (λ_=>aJ.cnd (λ_=>rfl) (λ_=> ?_))))
 ·have q:=h.MC r.1 r.2 hg
  have hG:=key _ _ (h.inner (e:=(cJ (k,aa x.1 x.2.2.1)).2) (bf:=((cJ (k,aa x.1 x.2.2.1)).1.1,((0:Int),(0:Int)),(cJ (k,aa x.1 x.2.2.1)).1.2.2)) (λhz=>h.bf hz) hq);exact aJ.cnd (λ_=>aJ.cnd (λ_=>aJ.cnd (λ_=>rfl) (λ_=>⟨rfl,h.next (.inr ⟨_,rfl⟩) q.1 hG rfl,wL (.inr ⟨_,rfl⟩) hc⟩)) (λ_=>aJ.cnd (λ_=>rfl) (λ_=>⟨rfl,h.next (.inr ⟨_,rfl⟩) q.1 hG rfl,wL (.inr ⟨_,rfl⟩) hc⟩))) (λ_=>aJ.cnd (λ_=>rfl) (λ_=>⟨rfl,h.next (.inr ⟨_,rfl⟩) q.1 hG rfl,wL (.inr ⟨_,rfl⟩) hc⟩))
 ·have q:=h.MO hg
  have hG:=key _ _ (h.inner (e:=(cJ (k,aa x.1 x.2.2.1)).2) (bf:=(cJ (k,aa x.1 x.2.2.1)).1) (λhz=>h.bf hz) hq);exact aJ.cnd (λ_=>aJ.cnd (λ_=>aJ.cnd (λ_=>rfl) (λ_=>⟨rfl,h.next (.inl rfl) q hG rfl,wL (.inl rfl) hc⟩)) (λ_=>aJ.cnd (λ_=>rfl) (λ_=>⟨rfl,h.next (.inl rfl) q hG rfl,wL (.inl rfl) hc⟩))) (λ_=>aJ.cnd (λ_=>rfl) (λ_=>⟨rfl,h.next (.inl rfl) q hG rfl,wL (.inl rfl) hc⟩))
theorem ok3:an 3 tt:=ao (MP []) func3 [(20,Ka),(9,YA)] (lc anE l0) (sp λx fx h=>sl (letI b:=F7 x.1;letI a:=(b.2.2.2.2.2.2.2.length:Int);letI c:=(b,x.2,120);pe x.1/\(((F8 b).2 !=0)=false->Fm c/\(0<=a/\a=a/\a*296<=140737488355328/\a<=4611686018427387903)/\Yq b (F9 c,aE du a,0,(F8 b).1,0,0))) (by
 try dsimp only[Ty.den]at*
 obtain⟨f1,f2⟩:=fx;obtain⟨h1,h2⟩:pe x.1/\bV x.2:=h;exact⟨h1,λ_=>fK.safe h1 h2 f2.1⟩))
def Key(l:List aC)(f d:Int):Prop:= ∃e∈l,e.1=f/\e.2.1=d
theorem aje{l:List aC}{f d:Int}:Key l f d↔(f,d)∈l.map (λe=>(e.1,e.2.1)):=by
 rw[List.mem_map];constructor
 ·rintro⟨e,a,rfl,rfl⟩;grind
 ·rintro⟨e,a,h⟩;cases h;exact⟨e,a,rfl,rfl⟩
theorem SC{l:List aC}{i:Nat}{v:aC}(a:i<l.length->v.1=(aa l i).1/\v.2.1=(aa l i).2.1){f d:Int}:Key (l.set i v) f d↔Key l f d:=by
 have e:(l.set i v).map (λe=>(e.1,e.2.1))=l.map (λe=>(e.1,e.2.1)):=by
  grind [List.ext_getElem,List.length_map,cc]
 simp_all [aje]
theorem Qw{l:List aC}{t:Int}{a:Nat}(hs:fN ek l)(h:wK ek l t a)(f:a<l.length)(g:ek (aa l a)=t){e:aC}:e∈iR l a↔e∈l/\ek e≠t:=by
 unfold iR;rw[awt,awv];constructor
 ·rintro(he|he)
  ·obtain⟨q,i,rfl⟩:=awc he
   rw[avt]at i;refine⟨awn he,?_⟩;rw[aA7,<- cc l q (by omega)];have:=h.lt q (by omega);omega
  ·obtain⟨q,i,rfl⟩:=awc he
   rw[avs]at i;refine⟨aws he,?_⟩;rw[aA9,<- g,cc l a f];have:=List.pairwise_iff_getElem.1 hs a (a+1+q) f (by omega) (by omega);omega
 ·rintro⟨he,j⟩
  rw[<- awh a l,awv]at he;rcases he with he|he
  ·exact .inl he
  ·rw[av8 f,av3]at he
   rcases he with rfl|he
   ·rw[cc l a f]at g;exact absurd g j
   ·exact .inr he
theorem aiW{b:ae}{m:aq}{r:aT}(hm:bk b m)(h:r.1=1)(a:r.2.2.1=1\/r.2.2.1=2){f d:Int}:Key (bE m r).2.2.2 f d↔Key m.2.2.2 f d\/(r.2.1=f/\r.2.2.1=d):=by
 unfold bE;rw[xo h];have g:=P6 hm (f:=r.2.1) a;cases hc:(bN (m,r.2.1,r.2.2.1)).2 with
 |true=>
  constructor
  ·simp_all
  ·rintro(h|⟨rfl,rfl⟩)
   ·exact h
   ·exact g.1 hc
 |false=>
  constructor
  ·rintro⟨e,he,h1,h2⟩
   rcases uA.1 he with he|he
   ·rw[awl]at he;subst he;exact .inr ⟨h1,h2⟩
   ·exact .inl ⟨e,he,h1,h2⟩
  ·rintro(⟨e,he,h1,h2⟩|⟨h1,h2⟩)
   ·exact⟨e,uA.2 (.inr he),h1,h2⟩
   ·exact⟨_,uA.2 (.inl (by rw[awl])),h1,h2⟩
theorem aiC{b:ae}{m:aq}{r:aT}(hm:bk b m)(h:r.1=2)(i:r.2.2.1=1\/r.2.2.1=2){f d:Int}:Key (bE m r).2.2.2 f d↔Key m.2.2.2 f d/\ ¬ (r.2.1=f/\r.2.2.1=d):=by
 unfold bE;rw[xr h];obtain⟨a,h1,h2,h3⟩:=pQ hm i;have l:=P6 hm (f:=r.2.1) i;cases hc:(bN (m,r.2.1,r.2.2.1)).2 with
 |true=>
  rw[au3,h2];have q:=h3.1 hc;constructor
  ·rintro⟨e,j,rfl,rfl⟩
   have:=(Qw hm.fP h1 q.1 q.2).1 j;exact⟨⟨e,this.1,rfl,rfl⟩,λk=>this.2 ((zp (hm.gO e this.1).1.dir i).2 ⟨k.1.symm,k.2.symm⟩)⟩
  ·rintro⟨⟨e,j,rfl,rfl⟩,k⟩
   exact⟨e,(Qw hm.fP h1 q.1 q.2).2 ⟨j,λg=>k (by have:=(zp (hm.gO e j).1.dir i).1 g;exact⟨this.1.symm,this.2.symm⟩)⟩,rfl,rfl⟩
 |false=>
  refine⟨λg=>⟨g,?_⟩,λg=>g.1⟩;rintro⟨rfl,rfl⟩
  rw[l.2 g]at hc;cases hc
theorem akE{b:ae}{m:aq}{r:aT}(hm:bk b m)(h:r.1=3\/r.1=7)(g:r.2.2.1=1\/r.2.2.1=2){f d:Int}:Key (bE m r).2.2.2 f d↔Key m.2.2.2 f d:=by
 unfold bE;obtain⟨a,h1,h2,h3⟩:=pQ hm g;rcases h with h|h
 ·rw[Bg h]
  cases hc:(bN (m,r.2.1,r.2.2.1)).2 with
  |true=>
   refine SC ?_;exact λ_=>⟨rfl,rfl⟩
  |false=>rfl
 ·rw[Bj h]
  cases hc:(bN (m,r.2.1,r.2.2.1)).2 with
  |true=>
   have i:=(h3.1 hc).1;have j:qg (r,m)=m.2.2.2.set a ((aa m.2.2.2 a).1,(aa m.2.2.2 a).2.1,(aa m.2.2.2 a).2.2.1,r.2.2.2.2,(r.2.2.2.1==1)):=by
    unfold qg qa;simp only[h2,aH,awt,QH i,aBl]
   rw[j];refine SC ?_;exact λ_=>⟨rfl,rfl⟩
  |false=>rfl
theorem J4{b:ae}{r:aT}(hr:dh b r)(h:r.1=1\/r.1=2\/r.1=3\/r.1=7):da b.1 r.2.1 r.2.2.1:=by
 rcases hr with⟨_,a,_⟩|⟨_,a,_⟩|⟨_,a,_⟩|⟨h1,_⟩|⟨h1,_⟩
 all_goals omega
theorem Ik{b:ae}{f d:Int}: ∀(l:List aT) (m:aq),bk b m->(∀r∈l,dh b r/\r.1=2)->bk b (l.foldl bE m)/\(Key (l.foldl bE m).2.2.2 f d↔Key m.2.2.2 f d/\ ¬ ∃r∈l,r.2.1=f/\r.2.2.1=d)
 | [],m,hm,_=>⟨hm,λh=>⟨h,by rintro⟨_,h,_⟩;cases h⟩,λh=>h.1⟩
 |r::l,m,hm,hl=>by
  have hr:=hl r (by simp);have hi:bk b (bE m r):=pz hm hr.1;obtain⟨h1,h2⟩:=Ik (f:=f) (d:=d) l (bE m r) hi (λr hr=>hl r (by simp[hr]));rw[awd];refine⟨h1,?_⟩;rw[h2,aiC hm hr.2 (J4 hr.1 (.inr (.inl hr.2))).dir];constructor
  ·rintro⟨⟨a,b⟩,c⟩
   refine⟨a,?_⟩;rintro⟨q,g,h⟩
   rcases List.mem_cons.1 g with rfl|g
   ·exact b h
   ·exact c ⟨q,g,h⟩
  ·rintro⟨a,c⟩
   exact⟨⟨a,λh=>c ⟨r,by simp,h⟩⟩,λ⟨q,g,h⟩=>c ⟨q,by simp[g],h⟩⟩
theorem QS{b:ae}{f d:Int}: ∀(l:List aT) (m:aq),bk b m->(∀r∈l,dh b r/\(r.1=3\/r.1=7))->(Key (l.foldl bE m).2.2.2 f d↔Key m.2.2.2 f d)
 | [],m,hm,_=>Iff.rfl
 |r::l,m,hm,hl=>by
  have hr:=hl r (by simp);have hi:=pz hm hr.1;rw[awd,QS l (bE m r) hi (λr hr=>hl r (by simp_all))];exact akE hm hr.2 (J4 hr.1 (.inr (.inr hr.2))).dir
structure RgP (x y:bY) (L:List aC):Prop where
 b:y.2=x.2
 ba:bk x.2 y.1.2.1
 tz: ∃R,y.1.1=x.1.1++R/\ ∀r∈R,r.1=1
 up: ∀f d,Key x.1.2.1.2.2.2 f d->Key y.1.2.1.2.2.2 f d
 dn: ∀f d,Key y.1.2.1.2.2.2 f d->Key x.1.2.1.2.2.2 f d\/ ∃e∈L,e.1=f/\e.2.1=d
 wr:WC x.1.2.2.2.2->WC y.1.2.2.2.2
 ru: ∀f:Nat,f<32-> ∀d,d=1\/d=2->bn x.1.2.2.2.2 f d=true->bn y.1.2.2.2.2 f d=true
 all: ∀f:Nat,f<32-> ∀d,(∃e∈L,e.1=(f:Int)/\e.2.1=d)->Key y.1.2.1.2.2.2 (f:Int) d\/bn y.1.2.2.2.2 f d=true
theorem Na: ∀(L:List aC) (x:bY),bk x.2 x.1.2.1->(∀e∈L,da x.2.1 e.1 e.2.1)->RgP x (L.foldl eg x) L
 | [],x,k,_=>⟨rfl,k,⟨[],by simp,by simp⟩,λ_ _ h=>h,λ_ _ h=> .inl h,λh=>h,λ_ _ _ _ h=>h,λ_ _ _ ⟨_,h,_⟩=>by cases h⟩
 |e::L,x,k,l=>by
  have o:=l e (by simp);have j:=o.dir;rw[awd];unfold eg at*;cases hr:gS (x.2,x.1.2.1)with
  |true=>
   rw[au3];have t:dh x.2 (1,e.1,e.2.1,0,0):= .inl ⟨.inl rfl,o,rfl,rfl⟩;have hi:=pz k t;have m: ∀f d,Key (bE x.1.2.1 (1,e.1,e.2.1,0,0)).2.2.2 f d↔Key x.1.2.1.2.2.2 f d\/(e.1=f/\e.2.1=d):=λf d=>aiW k rfl j
   have a:=Na L (cF x (1,e.1,e.2.1,0,0)) hi (λe s=>l e (by simp_all));refine⟨a.b,a.ba,?_,λf d h=>a.up f d ((m f d).2 (.inl h)),λf d h=> ?_,a.wr,a.ru,λf i d h=> ?_⟩
   ·obtain⟨R,h1,h2⟩:=a.tz
    refine⟨_::R,h1.trans (avn ..),λr hr=> ?_⟩;rcases List.mem_cons.1 hr with rfl|hr
    ·rfl
    ·exact h2 r hr
   ·rcases a.dn f d h with h|⟨q,g,h⟩
    ·rcases(m f d).1 h with h|h
     ·exact .inl h
     ·exact .inr ⟨e,by simp,h⟩
    ·exact .inr ⟨q,by simp[g],h⟩
   ·obtain⟨q,g,h1,h2⟩:=h
    rcases List.mem_cons.1 g with rfl|g
    ·exact .inl (a.up _ _ ((m _ _).2 (.inr ⟨h1,h2⟩)))
    ·exact a.all f i d ⟨q,g,h1,h2⟩
  |false=>
   rw[auw];have a:=Na L ((x.1.1,x.1.2.1,x.1.2.2.1,x.1.2.2.2.1,gi (x.1.2.2.2.2,ia (e.1,e.2.1))),x.2) k (λe s=>l e (by simp[s]));refine⟨a.b,a.ba,a.tz,a.up,λf d h=> ?_,λ_=>a.wr (H5 _),λf i d j h=>a.ru f i d j ?_,λf i d h=> ?_⟩
   ·rcases a.dn f d h with h|⟨q,g,h⟩
    ·exact .inl h
    ·exact .inr ⟨q,by simp[g],h⟩
   ·rw[xE _ _ i j,h];rfl
   ·obtain⟨q,g,h1,h2⟩:=h
    rcases List.mem_cons.1 g with rfl|g
    ·subst h2
     refine .inr (a.ru f i _ j ?_);rw[xE _ _ i j,h1,I6 i i j j];simp
    ·exact a.all f i d ⟨q,g,h1,h2⟩
theorem aoY{b:ae}(a:aR b){f d:Int}(h:da b.1 f d): ∃n:Nat,n<32/\f=n:=by
 have:=a.fl;unfold da at h;exact⟨f.toNat,by omega,by omega⟩
theorem Ha{α:Type}(g:α->bw): ∀(l:List α) (c:bw) {f:Nat} {d:Int},f<32->d=1\/d=2->(bn (l.foldl (λc e=>gi (c,g e)) c) f d=true↔bn c f d=true\/ ∃e∈l,bn (g e) f d=true)
 | [],c,f,d,_,_=>⟨λh=> .inl h,λh=>h.elim id (λ⟨_,h,_⟩=>by cases h)⟩
 |e::l,c,f,d,a,i=>by
  rw[awd,Ha g l _ a i,xE _ _ a i,av9];grind
theorem afi{α:Type}(g:α->bw)(l:List α)(c:bw)(h:WC c):WC (l.foldl (λc e=>gi (c,g e)) c):=by
 induction l generalizing c with
 |nil=>exact h
 |cons a l f=>grind [H5]
theorem of_eq{l:List aC}(hl:l.length<=maxLen):Fs l=l.foldl (λc e=>gi (c,ia (e.1,e.2.1))) (0,0):=by
 have:=BO (step:=uR) (k:=(l,l.length)) l (λc e=>gi (c,ia (e.1,e.2.1))) (λ_=>True) hl (λc i hi _=>by
  simp_all [uR,cc]) (λc _=>by simp_all [uR]) (0,0) trivial (fuel:=Nat.succ (yp (l,l.length) (0,0,0))) (by simp_all [yp])
 simp_all [Fs,VJ]
theorem Jc{b:ae}(h:aR b){e d:Int}{g:Int}(a:da b.1 g e){f:Nat}(i:f<32)(j:d=1\/d=2):bn (ia (g,e)) f d=true↔g=f/\e=d:=by
 obtain⟨n,k,rfl⟩:=aoY h a;rw[I6 i k j a.dir];grind
theorem tT{b:ae}{m:aq}(hm:bk b m){f:Nat}{d:Int}(g:f<32)(i:d=1\/d=2):bn (cd m) f d=true↔Key m.2.2.2 f d:=by
 unfold cd;rw[of_eq (auv hm.len (by decide)),Ha _ _ _ g i,mX];constructor
 ·rintro(h|⟨e,a,h⟩)
  ·cases h
  ·exact⟨e,a,(Jc hm.bG (hm.gO e a).1 g i).1 h⟩
 ·rintro⟨e,a,h⟩
  exact .inr ⟨e,a,(Jc hm.bG (hm.gO e a).1 g i).2 h⟩
theorem Cq{b:ae}{m:aq}(hm:bk b m):WC (cd m):=by
 unfold cd;rw[of_eq (auv hm.len (by decide))];exact afi _ _ _ yi
theorem R4{b:ae}(j:aR b){f:Nat}{d:Int}(g:f<32)(i:d=1\/d=2): ∀(l:List aT) (c:bw),(∀r∈l,r.1=2->da b.1 r.2.1 r.2.2.1)->(bn (l.foldl gz c) f d=true↔bn c f d=true\/ ∃r∈l,r.1=2/\r.2.1=f/\r.2.2.1=d)
 | [],c,_=>⟨λh=> .inl h,λh=>h.elim id (λ⟨_,h,_⟩=>by cases h)⟩
 |r::l,c,hl=>by
  rw[awd,R4 j g i l _ (λr hr=>hl r (by simp_all))];unfold gz;cases h2:(r.1==2)with
  |true=>
   rw[aw0]at h2;rw[au3,xE _ _ g i,av9,Jc j (hl r (by simp) h2) g i];grind
  |false=>
   rw[awm]at h2;constructor
   ·rintro(h|⟨q,a,h⟩)
    ·exact .inl h
    ·exact .inr ⟨q,by simp[a],h⟩
   ·rintro(h|⟨q,a,h⟩)
    ·exact .inl h
    ·rcases List.mem_cons.1 a with rfl|a
     ·exact absurd h.1 h2
     ·exact .inr ⟨q,a,h⟩
theorem Vm: ∀(l:List aT) (c:bw),WC c->WC (l.foldl gz c)
 | [],c,h=>h
 |r::l,c,h=>by
  refine Vm l _ ?_;grind [gz,H5]
def acS(c:Nat->bw):Nat->bw
 |0=>(0,0)
 |n+1=>gi (acS c n,ew (c n,acS c n))
theorem Pg{c a:Nat->bw}: ∀{n:Nat},(∀j,j<n->c j=a j)->acS c n=acS a n
 |0,_=>rfl
 |n+1,h=>by
  unfold acS;rw[Pg (λj f=>h j (by omega)),h n (by omega)]
theorem Q7(c:Nat->bw){f:Nat}{d:Int}(a:f<32)(g:d=1\/d=2): ∀n,bn (acS c n) f d=true↔ ∃j,j<n/\bn (c j) f d=true
 |0=>by
  show bn (0,0) f d=true↔_;simp_all [mX]
 |n+1=>by
  show bn (gi (acS c n,ew (c n,acS c n))) f d=true↔_;have h:=Q7 c a g n;rw[xE _ _ a g,BA _ _ a g];grind
theorem agn{α:Type} [Inhabited α]{l:List α}{a:α}{j:Nat}(h:j<l.length):aa (l++ [a]) j=aa l j:=by
 grind [cc]
theorem afK{α:Type} [Inhabited α]{l:List α}{a:α}{j:Nat}(h:l.length=j):aa (l++ [a]) j=a:=by
 simp_all [cc]
theorem aiu{b:ae}{v:List aX}{l:List bw}(g:aR b)(u:v.length=b.2.2.2.2.2.2.2.length)(hl:l.length=b.2.2.2.2.2.2.2.length){j:Nat}(a:j<v.length):
  aa (ec (b,v,l)).1.1 j=ew (jH (b,aa v j),acS (λj=>jH (b,aa v j)) j):=by
 have L:b.2.2.2.2.2.2.2.length<=8:=g.cn.2;have w:=(kZ b (by unfold maxLen;show b.2.2.2.2.2.2.2.length<=_;omega)).trans ((jP b).2 g);unfold ec;have x:((v.length:Int) !=b.2.2.2.2.2.2.2.length)=false:=by rw[u];exact axh _
 have z:((l.length:Int) !=b.2.2.2.2.2.2.2.length)=false:=by rw[hl];exact axh _
 rw[w,x,z];have A:=kX (step:=og) (k:=(l,v,v.length,b)) (I:=λy=> ∃i:Nat,y.1=i/\i<=v.length/\y.2.1.length=i/\(∀j,j<i->aa y.2.1 j=ew (jH (b,aa v j),acS (λj=>jH (b,aa v j)) j))/\y.2.2.2=acS (λj=>jH (b,aa v j)) i) (mu:=λy=>(v.length-y.1).toNat)
  (Q:=λo y=> ∀j,j<v.length->aa y.2.1 j=ew (jH (b,aa v j),acS (λj=>jH (b,aa v j)) j)) (λy C=>by
   obtain⟨i,h,M,m,s,t⟩:=C;unfold og;by_cases f:y.1<v.length
   ·have e:=cC (by omega) f (show v.length<=maxLen by unfold maxLen;omega)
    simp only[f,e];refine⟨⟨i+1,by omega,by omega,by rw[au5,m];rfl,λj a=> ?_,?_⟩,cI f⟩
    ·by_cases J:j<i
     ·rw[agn (by omega)];exact s j J
     ·have e:j=i:=by omega
      subst e;rw[afK m,h,t]
    ·rw[h,t];rfl
   ·simp only[f,auw]
    exact λj a=>s j (by omega)) (Nat.succ (om (l,v,v.length,b) (0,[],[],0,0))) (0,[],[],0,0) ⟨0,rfl,awb _,rfl,λj a=>by omega,rfl⟩ (by unfold om;simp)
 exact A j a
theorem ai5{x:au}(h:cD x){j:Nat}(a:j<x.1.2.2.2.2.2.2.2.length):mA (x.2.1.1,j)=true:=by
 have h1:=h.p1;have h2:=h.p2;have h3:=h.p3;have h0:=h.ph _ (iW (i:=j) (by omega) (by omega));unfold mA qz;simp_all
theorem ahR(b:ae)(m:aW)(j:Int)(q:gq):(vZ (b,m,j,q)).2.1=mA (m.1,j):=by
 unfold vZ;grind
theorem afY{x:au}(h:cD x)(m:x.2.2.2.1=true)(s: ∀j:Nat,j<x.1.2.2.2.2.2.2.2.length->aa x.2.2.2.2.2.2.1 j=true){j:Nat}(a:j<x.1.2.2.2.2.2.2.2.length):
  (aa (eN x).1 j).2.1=true/\(aa (eN x).1 j).2.2.2.2.2.2.2.1=aa x.2.2.2.2.2.2.2.1 j:=by
 have C:=h.n8;have t:((aE eR x.1.2.2.2.2.2.2.2.length).length:Int)=x.1.2.2.2.2.2.2.2.length:=by rw[ff]
 unfold eN;rw[t];have u:=kX (step:=pS) (k:=(x.1.2.2.2.2.2.2.2.length,x)) (I:=λy=> ∃i:Nat,y.2=i/\i<=x.1.2.2.2.2.2.2.2.length/\y.1.length=x.1.2.2.2.2.2.2.2.length/\ ∀j:Nat,j<i->(aa y.1 j).2.1=true/\(aa y.1 j).2.2.2.2.2.2.2.1=aa x.2.2.2.2.2.2.2.1 j) (mu:=λy=>(x.1.2.2.2.2.2.2.2.length-y.2).toNat)
  (Q:=λo y=> ∀j:Nat,j<x.1.2.2.2.2.2.2.2.length->(aa y.1 j).2.1=true/\(aa y.1 j).2.2.2.2.2.2.2.1=aa x.2.2.2.2.2.2.2.1 j) (λy w=>by
   obtain⟨i,g,J,z,l⟩:=w;unfold pS;by_cases f:y.2<x.1.2.2.2.2.2.2.2.length
   ·have e:=cC (by omega) f (show x.1.2.2.2.2.2.2.2.length<=maxLen by unfold maxLen;omega)
    have hi:i<x.1.2.2.2.2.2.2.2.length:=by omega
    simp only[f,e,m,auw];rw[g,s i hi,au3];refine⟨⟨i+1,by simp,by omega,?_,λj a=> ?_⟩,by rw[<- g];exact cI f⟩
    ·exact(auz ..).trans ((auz ..).trans z)
    ·unfold QG
     by_cases A:j<i
     ·simp only[aH]
      rw[Bt (by omega) (by rw[auz];omega) (by omega) (by omega),Bt (by omega) (by omega) (by omega) (by omega)];exact l j A
     ·have e:j=i:=by omega
      subst e;simp only[aH,g];rw[uI (by omega) (by rw[auz];omega)];refine⟨?_,rfl⟩;show(aa (y.1.set ((j:Int)).toNat _) j).2.1=true;rw[uI (by omega) (by omega),ahR];exact ai5 h hi
   ·simp only[f,auw]
    exact λj a=>l j (by omega)) (Nat.succ (yf (x.1.2.2.2.2.2.2.2.length,x) ((aE eR x.1.2.2.2.2.2.2.2.length),0))) ((aE eR x.1.2.2.2.2.2.2.2.length),0) ⟨0,rfl,awb _,ff _,λj a=>by omega⟩ (by unfold yf;simp)
 exact u j a
theorem B5{b:ae}(a:aR b){s:bw}(hs:WC s)(h: ∀f:Nat,f<32-> ∀d,d=1\/d=2->bn s f d=true->da b.1 f d):dG (s,dS b)=s:=
 WC.ext (Sa _) hs λf g d i=>by
  grind [xN,Cr]
theorem ae0{b:ae}(a:aR b)(o:ax):dG (kP (b.1,o),dS b)=kP (b.1,o):=by
 have m:=a.fl;unfold kP;cases hc:((!mK (b.1,o)||(o.2.2 !=1))||decide (o.1<0))with
 |true=>simp_all [B5,yi,mX]
 |false=>
  rw[auw];simp only[au1,avi,au0]at hc;obtain⟨⟨l,_⟩,h0⟩:=hc;have hr:=(TQ l).1;have hw:i64.wrap (b.1-1)=b.1-1:=aB (by omega) (by omega);rw[hw];obtain⟨g,k⟩:=aw1 (show 0<=o.1 by omega);cases h1:((o.2.1==1)&&decide (o.1<b.1-1))with
  |true=>
   rw[au3];rw[au4,adv]at h1;refine B5 a ⟨sv _,W.zero⟩ λf i d j h=> ?_
   rw[k]at h h1;rcases j with rfl|rfl
   ·rw[Nv,DX (by omega) i,adv]at h
    exact .inl ⟨rfl,by omega,by omega⟩
   ·rw[Nw,uG]at h;cases h
  |false=>
   rw[auw];cases h2:((o.2.1==2)&&decide (o.1>0))with
   |true=>
    rw[au3];rw[au4,adv]at h2;refine B5 a ⟨W.zero,sv _⟩ λf i d j h=> ?_
    rw[k]at h h2;rcases j with rfl|rfl
    ·rw[Nv,uG]at h;cases h
    ·rw[Nw,DX (by omega) i,adv]at h
     exact .inr ⟨rfl,by omega,by omega⟩
   |false=>rw[auw];exact B5 a yi λf i d j h=>by rw[mX]at h;cases h
theorem aeJ{b:ae}(a:aR b){c:bw}(h:kF b c=true){f:Nat}(g:f<32){d:Int}(i:d=1\/d=2)(hm:bn c f d=true):da b.1 f d:=by
 have k:=a.cn.2;unfold kF qP at h;rw[au4,aw0,aw0]at h;have e:ew (c,AQ b)=(0,0):=aww h.1 h.2;have j:=mX f d;rw[<- e,BA _ _ g i,hm,HN b (auv k (by decide)),avf a,axs,avi]at j;exact(PF a.fl g i).1 j
structure RdP (b:ae) (m:aq) (sh press:bw) (r:bY):Prop where
 ba:bk b r.1.2.1
 nQ: ∀f:Nat,f<32-> ∀d,d=1\/d=2->(bn (r.1.1.foldl gz (0,0)) f d=true↔Key m.2.2.2 (f:Int) d/\bn sh f d=true)
 up: ∀f:Nat,f<32-> ∀d,d=1\/d=2->Key m.2.2.2 (f:Int) d->bn sh f d=false->Key r.1.2.1.2.2.2 (f:Int) d
 dn: ∀f:Nat,f<32-> ∀d,d=1\/d=2->Key r.1.2.1.2.2.2 (f:Int) d->(Key m.2.2.2 (f:Int) d/\bn sh f d=false)\/(bn press f d=true/\ ¬ Key m.2.2.2 (f:Int) d)
 all:r.1.2.2.2.2=(0,0)-> ∀f:Nat,f<32-> ∀d,d=1\/d=2->bn press f d=true-> ¬ Key m.2.2.2 (f:Int) d->Key r.1.2.1.2.2.2 (f:Int) d
theorem Qp{b:ae}{v:List aX}{y:bY}{x:List Int}(hi:bk b y.1.2.1):bk b ((gP (b,y.1.2.1,x,v)).1.1.foldl cF y).1.2.1/\ ∀f d,Key ((gP (b,y.1.2.1,x,v)).1.1.foldl cF y).1.2.1.2.2.2 f d↔Key y.1.2.1.2.2.2 f d:=by
 have g:=(pE (x:=x) (v:=v) hi).1;rw[BQ];refine⟨?_,λf d=>QS _ _ hi g⟩;have: ∀(l:List aT) (m:aq),bk b m->(∀r∈l,dh b r)->bk b (l.foldl bE m):=λl=>by
  induction l with
  |nil=>simp_all
  |cons a l h=>intro m hm hl;exact h _ (pz hm (hl a (by simp))) (λr hr=>hl r (by simp_all))
 simp_all
theorem aeV{b:ae}{m:aq}{e:List Int}{v:List aX}{l:List bw}{press:bw}(hm:bk b m)(A:v.length=b.2.2.2.2.2.2.2.length)(P: ∀f:Nat,f<32-> ∀d,d=1\/d=2->bn press f d=true->da b.1 (f:Int) d):
  RdP b m (kH b v) press (fI b m e v l press true):=by
 have t:=hm.bG;have hs:=tU hm A;have Q:=B8 hm A;have h2: ∀r∈cu (b,m,v),dh b r/\r.1=2:=λr hr=>by
  grind
 have C: ∀f:Nat,f<32-> ∀d,d=1\/d=2->((∃r∈cu (b,m,v),r.2.1=(f:Int)/\r.2.2.1=d)↔Key m.2.2.2 (f:Int) d/\bn (kH b v) f d=true):=λf i d j=>by
  rw[Q];constructor
  ·rintro⟨r,hr,h1,h2⟩
   obtain⟨u,k,rfl⟩:=List.mem_map.1 hr;rw[List.mem_filter]at k;have h1:u.1=(f:Int):=h1;have h2:u.2.1=d:=h2;have:=k.2;rw[h1,h2,uU _ i j]at this;exact⟨⟨u,k.1,h1,h2⟩,this⟩
  ·rintro⟨⟨u,k,h1,h2⟩,h⟩
   exact⟨_,List.mem_map.2 ⟨u,List.mem_filter.2 ⟨k,by rw[h1,h2,uU _ i j];exact h⟩,rfl⟩,h1,h2⟩
 unfold fI;have ht:cG b m e v l press true=(hU (ew (dG (press,dS b),cd m))).foldl eg ((cu (b,m,v)).foldl cF (([],m,e,(ec (b,v,l)).1,0,0),b)):=rfl;have w:((cu (b,m,v)).foldl cF (([],m,e,(ec (b,v,l)).1,0,0),b)).1.1=cu (b,m,v):=by rw[ku];rfl
 have y:((cu (b,m,v)).foldl cF (([],m,e,(ec (b,v,l)).1,0,0),b)).1.2.1=(cu (b,m,v)).foldl bE m:=BQ _ _;have S:((cu (b,m,v)).foldl cF (([],m,e,(ec (b,v,l)).1,0,0),b)).1.2.2.2.2=(0,0):=by rw[rB]
 have o:((cu (b,m,v)).foldl cF (([],m,e,(ec (b,v,l)).1,0,0),b)).2=b:=by
  have: ∀(l:List aT) (x:bY),(l.foldl cF x).2=x.2:=λl=>by
   induction l with
   |nil=>intro x;rfl
   |cons a l T=>intro x;rw[awd,T];rfl
  exact this _ _
 generalize(cu (b,m,v)).foldl cF (([],m,e,(ec (b,v,l)).1,0,0),b)=x1 at ht w y S o;have U:bk b x1.1.2.1:=by rw[y];exact(Ik (f:=0) (d:=0) _ _ hm h2).1
 have I: ∀f:Nat,f<32-> ∀d,d=1\/d=2->(Key x1.1.2.1.2.2.2 (f:Int) d↔Key m.2.2.2 (f:Int) d/\bn (kH b v) f d=false):=λf i d j=>by
  rw[y,(Ik _ _ hm h2).2,C f i d j];cases bn (kH b v) f d<;>simp
 have J: ∀f:Nat,f<32-> ∀d,d=1\/d=2->((∃e∈hU (ew (dG (press,dS b),cd m)),e.1=(f:Int)/\e.2.1=d)↔bn press f d=true/\ ¬ Key m.2.2.2 (f:Int) d):=λf i d j=>by
  have V:bn (ew (dG (press,dS b),cd m)) f d=true↔bn press f d=true/\ ¬ Key m.2.2.2 (f:Int) d:=by
   rw[BA _ _ i j,xN _ _ i j,au4,au4,Cr t i j,avr,<- tT hm i j,axf];exact⟨λh=>⟨h.1.1,h.2⟩,λh=>⟨⟨h.1,P f i d j h.1⟩,h.2⟩⟩
  rw[<- V];constructor
  ·rintro⟨u,k,h1,h2⟩
   obtain⟨g,hg,c,hc,Y,rfl⟩:=BN.1 k;have h1:(g:Int)=(f:Int):=h1;have h2:c=d:=h2;have:g=f:=by omega
   subst this h2;exact Y
  ·intro h
   exact⟨_,BN.2 ⟨f,i,d,j,h,rfl⟩,rfl,rfl⟩
 have L:=Na (hU (ew (dG (press,dS b),cd m))) x1 (by rw[o];exact U) (by rw[o];exact BH t press _);rw[<- ht]at L;obtain⟨yb,z,⟨R,M,Z⟩,yu,yd,yw,a7,ya⟩:=L;rw[o]at z;have s:=Qp (v:=v) (x:=(cG b m e v l press true).1.2.2.1) z;have a2:=(pE (x:=(cG b m e v l press true).1.2.2.1) (v:=v) z).1;refine⟨s.1,λf i d j=> ?_,λf i d j h1 h2=>(s.2 _ _).2 (yu _ _ ((I f i d j).2 ⟨h1,h2⟩)),λf i d j h=> ?_,λN f i d j h1 h2=>(s.2 _ _).2 ?_⟩
 ·have O: ∀r∈((gP (b,(cG b m e v l press true).1.2.1,(cG b m e v l press true).1.2.2.1,v)).1.1.foldl cF (cG b m e v l press true)).1.1,r.1=2->r∈cu (b,m,v):=λr hr h2=>by
   rw[ku,M,w]at hr;rcases List.mem_append.1 hr with hr|hr
   ·rcases List.mem_append.1 hr with hr|hr
    ·exact hr
    ·have:=Z r hr;omega
   ·have:=(a2 r hr).2;omega
  rw[R4 t i j _ _ (λr hr h2=>J4 (hs.1 r (O r hr h2)) (.inr (.inl h2))),mX,<- C f i d j];constructor
  ·rintro(h|⟨r,hr,h2,h⟩)
   ·cases h
   ·exact⟨r,O r hr h2,h⟩
  ·rintro⟨r,hr,h⟩
   refine .inr ⟨r,?_,(h2 r hr).2,h⟩;rw[ku,M,w];simp[hr]
 ·rcases yd _ _ ((s.2 _ _).1 h)with h|h
  ·exact .inl ((I f i d j).1 h)
  ·exact .inr ((J f i d j).1 h)
 ·rw[rB]at N
  rcases ya f i d ((J f i d j).2 ⟨h1,h2⟩)with h|h
  ·exact h
  ·rw[N,mX]at h;cases h
theorem afH{b:ae}{m:aq}{e:List Int}{v:List aX}{l:List bw}{press:bw}(hm:bk b m):(fI b m e v l press false).1.1.foldl gz (0,0)=(0,0)/\(∀f d,Key (fI b m e v l press false).1.2.1.2.2.2 f d↔Key m.2.2.2 f d)/\bk b (fI b m e v l press false).1.2.1:=by
 unfold fI;have hi:bk b (cG b m e v l press false).1.2.1:=hm;have g:=Qp (v:=v) (x:=(cG b m e v l press false).1.2.2.1) hi;have i:=(pE (b:=b) (m:=(cG b m e v l press false).1.2.1) (x:=(cG b m e v l press false).1.2.2.1) (v:=v) hi).1;refine⟨?_,g.2,g.1⟩;rw[ku];show([]++_:List aT).foldl gz (0,0)=(0,0);rw[awr];have: ∀(l:List aT),(∀r∈l,r.1=3\/r.1=7)->l.foldl gz (0,0)=(0,0):=λl=>by
  induction l with
  |nil=>intro _;rfl
  |cons a l j=>
   intro h;rw[awd];have k:(a.1==2)=false:=by rw[awm];have:=h a (by simp);omega
   have:gz (0,0) a=(0,0):=by unfold gz;rw[k];rfl
   rw[this];exact j λr hr=>h r (by simp[hr])
 exact this _ λr hr=>(i r hr).2
def cO(b:ae)(l:List bg)(j:Nat):bw:=kP (b.1,lQ (b.1,(aa l j).1))
theorem aec{b:ae}{m:aq}{e:List Int}{v:List aX}{l:List bw}{press:bw}:(fI b m e v l press true).1.2.2.2.1=(ec (b,v,l)).1:=by
 simp_all [fI,cG,rB,Il]
theorem aeZ{b:ae}{m:aq}{e:List Int}{v:List aX}{l:List bw}{press:bw}:(fI b m e v l press false).1.2.2.2.1=tf v.length:=by
 unfold fI;rw[rB];rfl
theorem ag0{b:ae}{m:aW}{s:ByteArray}{x:au}{f:aW}{out:fM}(h:zG b m s x f out)(g:x.2.2.2.1=true):gC b x.2.2.1=true:=by
 have hb:=h.xb;have a:b.2.2.2.2.2.2.2.length<=8:=by have:=h.xd.n8;simp_all
 rw[h.xg,rl b (auv a (by decide)) s]at g;rw[h.xi,rl b (auv a (by decide)) s];simp_all [xI]
theorem aul{k k' s p full:Bool}(up:k=true->s=false->k'=true)(dn:k'=true->(k=true/\s=false)\/(p=true/\ ¬ k=true))(all:full=false->p=true-> ¬ k=true->k'=true):
  k'=((k&& !(k&&s))||bif full then((p&& !k)&&k')else(p&& !k)):=by
 cases k<;>cases k'<;>cases s<;>cases p<;>cases full<;>simp_all
structure aa3 (b:ae) (m m':aW) (bf:bm) (out:fM):Prop where
 ct: ∀j:Nat,j<b.2.2.2.2.2.2.2.length->aa m'.2.2.1 (j:Int)=(kO (b.2.1,aa m.2.2.1 (j:Int),(aa bf.2.2 (j:Int)).1)).1
 ey: ∀j:Nat,j<b.2.2.2.2.2.2.2.length->(aa out.2.2.2.2.2 (j:Int)).2.1=dM (cO b m'.2.2.1 j,acS (cO b m'.2.2.1) j)
 nQ:out.2.1=eB (cd m.1,acS (cO b m'.2.2.1) b.2.2.2.2.2.2.2.length)
 NI:out.1=iq (dM (cd m.1,eB (cd m.1,acS (cO b m'.2.2.1) b.2.2.2.2.2.2.2.length)),bif out.2.2.2.1 then eB (dM (bf.1,cd m.1),out.1)else dM (bf.1,cd m.1))
theorem ahY{b:ae}{m:aW}{s:ByteArray}{x:au}{y:aW}{out:fM}(h:zG b m s x y out)(z:x.2.2.2.1=true):aa3 b m y x.2.2.1 out:=by
 have C:=ag0 h z;have I:=h.bA z;have hi:=h.xd.ba;have hb:=h.xb;have O:=h.xd.lit;subst hb;have J:=hi.bG;have t:=lW x;have M:cd x.2.1.1=cd m.1:=by unfold cd;rw[h.xe]
 have A: ∀j:Nat,j<x.1.2.2.2.2.2.2.2.length->jH (x.1,aa (eN x).1 j)=cO x.1 y.2.2.1 j:=λj o=>by
  have q:=afY h.xd.tocD z (λj o=>(I j o).2.2) o;unfold jH cO;simp only;rw[q.1,q.2,(I j o).2.1,h.xc];exact ae0 J _
 have P: ∀f:Nat,f<32-> ∀d,d=1\/d=2->bn x.2.2.1.1 f d=true->da x.1.1 f d:=λf g d k hm=>by
  unfold gC at C;simp only[au4]at C;exact aeJ J C.1.1.1.1.1 g k hm
 have hr:gV x=fI x.1 x.2.1.1 x.2.1.2.2.2.2.2.2.1 (eN x).1 x.2.1.2.2.2.2.2.2.2.1 x.2.2.1.1 true:=by unfold gV;rw[z]
 have u:=aeV (e:=x.2.1.2.2.2.2.2.2.1) (l:=x.2.1.2.2.2.2.2.2.2.1) hi t P;rw[<- hr]at u;have N: ∀f:Nat,f<32-> ∀d,d=1\/d=2->bn (kH x.1 (eN x).1) f d=bn (acS (cO x.1 y.2.2.1) x.1.2.2.2.2.2.2.2.length) f d:=λf g d k=>by
  rw[aAu,Q7 _ g k];unfold kH;rw[Ha _ _ _ g k,mX];constructor
  ·rintro(h|⟨e,Q,h⟩)
   ·cases h
   ·obtain⟨j,o,rfl⟩:=awc Q
    rw[<- cc _ j o,A j (t▸o)]at h;exact⟨j,t▸o,h⟩
  ·rintro⟨j,o,h⟩
   refine .inr ⟨_,ayj (t.symm▸o:j<(eN x).1.length),?_⟩;rw[<- cc _ j (t.symm▸o),A j o];exact h
 refine⟨λj o=>by rw[h.xc];exact(I j o).1,λj o=> ?_,?_,?_⟩
 ·rw[h.ey.2 j o]
  show aa (gV x).1.2.2.2.1.1 j=_;rw[hr,aec,aiu J t O (by rw[t];exact o),A j o,Pg (λi T=>A i (by omega))];rfl
 ·rw[h.nQ,<- M]
  show(gV x).1.1.foldl gz (0,0)=_;refine WC.ext (Vm _ _ yi) (P8 _) λf g d k=> ?_
  rw[BD _ _ g k,aAu,u.nQ f g d k,au4,tT hi g k,N f g d k]
 ·have hw:WC out.1:=by rw[h.FH];exact Cq u.ba
  refine WC.ext hw (af8 _) λf g d k=> ?_
  have w:=tT hi g k;have L:bn out.1 f d=true↔Key (gV x).1.2.1.2.2.2 f d:=by rw[h.FH];exact tT u.ba g k
  rw[M]at w;have S:bn (bif out.2.2.2.1 then eB (dM (x.2.2.1.1,cd m.1),out.1)else dM (x.2.2.1.1,cd m.1)) f d=bif out.2.2.2.1 then((bn x.2.2.1.1 f d&& !bn (cd m.1) f d)&&bn out.1 f d)else(bn x.2.2.1.1 f d&& !bn (cd m.1) f d):=by
   cases out.2.2.2.1 with
   |true=>rw[au3,au3,BD _ _ g k,Bm _ _ g k]
   |false=>rw[auw,auw,Bm _ _ g k]
  rw[aeB _ _ g k,S,Bm _ _ g k,BD _ _ g k,<- N f g d k];refine aul (λa b=>L.2 (u.up f g d k (w.1 a) b)) (λa=> ?_) (λa b c=>L.2 (u.all ?_ f g d k b (λq=>c (w.2 q))))
  ·rcases u.dn f g d k (L.1 a)with q|q
   ·exact .inl ⟨w.2 q.1,q.2⟩
   ·exact .inr ⟨q.1,λc=>q.2 (w.1 c)⟩
  ·rw[h.full]at a
   unfold mI at a;rw[avi,au4,aw0,aw0]at a;exact aww a.1 a.2
structure ack (b:ae) (m m':aW) (out:fM):Prop where
 ct:m'.2.2.1=m.2.2.1
 ey: ∀j:Nat,j<b.2.2.2.2.2.2.2.length->(aa out.2.2.2.2.2 (j:Int)).2.1=(0,0)
 nQ:out.2.1=(0,0)
 NI:out.1=cd m.1
theorem akG{b:ae}{m:aW}{s:ByteArray}{x:au}{g:aW}{out:fM}(h:zG b m s x g out)(t:x.2.2.2.1=false):ack b m g out:=by
 have hi:=h.xd.ba;have hb:=h.xb;subst hb;have u:=lW x;have hr:gV x=fI x.1 x.2.1.1 x.2.1.2.2.2.2.2.2.1 (eN x).1 x.2.1.2.2.2.2.2.2.2.1 x.2.2.1.1 false:=by simp_all [gV]
 have a:=afH (e:=x.2.1.2.2.2.2.2.2.1) (v:=(eN x).1) (l:=x.2.1.2.2.2.2.2.2.2.1) (press:=x.2.2.1.1) hi;rw[<- hr]at a;have w:cd x.2.1.1=cd m.1:=by unfold cd;rw[h.xe]
 refine⟨h.xc.trans (h.bad t),λj i=> ?_,h.nQ.trans a.1,?_⟩
 ·rw[h.ey.2 j i]
  show aa (gV x).1.2.2.2.1.1 j=_;rw[hr,aeZ,u];exact DM rfl i
 ·rw[h.FH,<- w]
  show cd (gV x).1.2.1=_;refine WC.ext (Cq a.2.2) (Cq hi) λf k d o=> ?_
  rw[aAu,tT a.2.2 k o,tT hi k o];exact a.2.1 _ _
end Go.Proofs.YtcfinjcapeemeaaGreatDoor.S
