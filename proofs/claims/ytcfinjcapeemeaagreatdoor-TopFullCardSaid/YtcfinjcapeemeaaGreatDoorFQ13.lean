/- Part of the proof that the law TopFull holds for every input. -/
import Derived.Test.YtcfinjcapeemeaaGreatDoorFQ12
set_option linter.all false
set_option maxRecDepth 100000
set_option maxHeartbeats 4000000
namespace Go.Proofs.YtcfinjcapeemeaaGreatDoor.S
open Go Go.RowKit IntKind Go.Proofs.Tryz
theorem aeU{b:ab}(a:aK b){c:bd}(h:iu b c=true){f:Nat}(g:f<32){d:Int}(i:d=1\/d=2)(hm:bk c f d=true):cL b.1 f d:=by
 have k:=a.cn.2;unfold iu pE at h;rw[au0,awt,awt]at h;have e:dS (c,eL b)=(0,0):=awf h.1 h.2;have j:=jo f d;rw[<- e,um _ _ g i,hm,Cj b (auq k (by decide)),ava a,axs,ave]at j;exact(HD a.fl g i).1 j
structure RdP (b:ab) (m:ak) (sh press:bd) (r:bY):Prop where
 aU:aT b r.1.2.1
 pK: ∀f:Nat,f<32-> ∀d,d=1\/d=2->(bk (r.1.1.foldl jf (0,0)) f d=true↔Key m.2.2.2 (f:Int) d/\bk sh f d=true)
 up: ∀f:Nat,f<32-> ∀d,d=1\/d=2->Key m.2.2.2 (f:Int) d->bk sh f d=false->Key r.1.2.1.2.2.2 (f:Int) d
 dn: ∀f:Nat,f<32-> ∀d,d=1\/d=2->Key r.1.2.1.2.2.2 (f:Int) d->(Key m.2.2.2 (f:Int) d/\bk sh f d=false)\/(bk press f d=true/\ ¬ Key m.2.2.2 (f:Int) d)
 all:r.1.2.2.2.2=(0,0)-> ∀f:Nat,f<32-> ∀d,d=1\/d=2->bk press f d=true-> ¬ Key m.2.2.2 (f:Int) d->Key r.1.2.1.2.2.2 (f:Int) d
theorem PU{b:ab}{v:List aZ}{y:bY}{x:List Int}(hi:aT b y.1.2.1):aT b ((gQ (b,y.1.2.1,x,v)).1.1.foldl cj y).1.2.1/\ ∀f d,Key ((gQ (b,y.1.2.1,x,v)).1.1.foldl cj y).1.2.1.2.2.2 f d↔Key y.1.2.1.2.2.2 f d:=by
 have g:=(rM (x:=x) (v:=v) hi).1;rw[BD];refine⟨?_,λf d=>QZ _ _ hi g⟩;have: ∀(l:List aI) (m:ak),aT b m->(∀r∈l,bW b r)->aT b (l.foldl aW m):=λl=>by
  induction l with
  |nil=>simp_all
  |cons a l h=>intro m hm hl;exact h _ (mc hm (hl a (by simp))) (λr hr=>hl r (by simp_all))
 simp_all
theorem ae9{b:ab}{m:ak}{e:List Int}{v:List aZ}{l:List bd}{press:bd}(hm:aT b m)(A:v.length=b.2.2.2.2.2.2.2.length)(P: ∀f:Nat,f<32-> ∀d,d=1\/d=2->bk press f d=true->cL b.1 (f:Int) d):
  RdP b m (iM b v) press (ix b m e v l press true):=by
 have t:=hm.bB;have hs:=ui hm A;have Q:=yj hm A;have h2: ∀r∈cC (b,m,v),bW b r/\r.1=2:=λr hr=>by
  grind
 have C: ∀f:Nat,f<32-> ∀d,d=1\/d=2->((∃r∈cC (b,m,v),r.2.1=(f:Int)/\r.2.2.1=d)↔Key m.2.2.2 (f:Int) d/\bk (iM b v) f d=true):=λf i d j=>by
  rw[Q];constructor
  ·rintro⟨r,hr,h1,h2⟩
   obtain⟨u,k,rfl⟩:=List.mem_map.1 hr;rw[List.mem_filter]at k;have h1:u.1=(f:Int):=h1;have h2:u.2.1=d:=h2;have:=k.2;rw[h1,h2,qh _ i j]at this;exact⟨⟨u,k.1,h1,h2⟩,this⟩
  ·rintro⟨⟨u,k,h1,h2⟩,h⟩
   exact⟨_,List.mem_map.2 ⟨u,List.mem_filter.2 ⟨k,by rw[h1,h2,qh _ i j];exact h⟩,rfl⟩,h1,h2⟩
 unfold ix;have ht:cg b m e v l press true=(eR (dS (dv (press,dB b),bR m))).foldl dm ((cC (b,m,v)).foldl cj (([],m,e,(dI (b,v,l)).1,0,0),b)):=rfl;have w:((cC (b,m,v)).foldl cj (([],m,e,(dI (b,v,l)).1,0,0),b)).1.1=cC (b,m,v):=by rw[lj];rfl
 have y:((cC (b,m,v)).foldl cj (([],m,e,(dI (b,v,l)).1,0,0),b)).1.2.1=(cC (b,m,v)).foldl aW m:=BD _ _;have S:((cC (b,m,v)).foldl cj (([],m,e,(dI (b,v,l)).1,0,0),b)).1.2.2.2.2=(0,0):=by rw[rJ]
 have o:((cC (b,m,v)).foldl cj (([],m,e,(dI (b,v,l)).1,0,0),b)).2=b:=by
  have: ∀(l:List aI) (x:bY),(l.foldl cj x).2=x.2:=λl=>by
   induction l with
   |nil=>intro x;rfl
   |cons a l T=>intro x;rw[awb,T];rfl
  exact this _ _
 generalize(cC (b,m,v)).foldl cj (([],m,e,(dI (b,v,l)).1,0,0),b)=x1 at ht w y S o;have U:aT b x1.1.2.1:=by rw[y];exact(Iv (f:=0) (d:=0) _ _ hm h2).1
 have I: ∀f:Nat,f<32-> ∀d,d=1\/d=2->(Key x1.1.2.1.2.2.2 (f:Int) d↔Key m.2.2.2 (f:Int) d/\bk (iM b v) f d=false):=λf i d j=>by
  rw[y,(Iv _ _ hm h2).2,C f i d j];cases bk (iM b v) f d<;>simp
 have J: ∀f:Nat,f<32-> ∀d,d=1\/d=2->((∃e∈eR (dS (dv (press,dB b),bR m)),e.1=(f:Int)/\e.2.1=d)↔bk press f d=true/\ ¬ Key m.2.2.2 (f:Int) d):=λf i d j=>by
  have V:bk (dS (dv (press,dB b),bR m)) f d=true↔bk press f d=true/\ ¬ Key m.2.2.2 (f:Int) d:=by
   rw[um _ _ i j,ur _ _ i j,au0,au0,yg t i j,avm,<- mg hm i j,aw0];exact⟨λh=>⟨h.1.1,h.2⟩,λh=>⟨⟨h.1,P f i d j h.1⟩,h.2⟩⟩
  rw[<- V];constructor
  ·rintro⟨u,k,h1,h2⟩
   obtain⟨g,hg,c,hc,Y,rfl⟩:=rK.1 k;have h1:(g:Int)=(f:Int):=h1;have h2:c=d:=h2;have:g=f:=by omega
   subst this h2;exact Y
  ·intro h
   exact⟨_,rK.2 ⟨f,i,d,j,h,rfl⟩,rfl,rfl⟩
 have L:=Aq (eR (dS (dv (press,dB b),bR m))) x1 (by rw[o];exact U) (by rw[o];exact xS t press _);rw[<- ht]at L;obtain⟨yb,z,⟨R,M,Z⟩,yu,yd,yw,a7,ya⟩:=L;rw[o]at z;have s:=PU (v:=v) (x:=(cg b m e v l press true).1.2.2.1) z;have a2:=(rM (x:=(cg b m e v l press true).1.2.2.1) (v:=v) z).1;refine⟨s.1,λf i d j=> ?_,λf i d j h1 h2=>(s.2 _ _).2 (yu _ _ ((I f i d j).2 ⟨h1,h2⟩)),λf i d j h=> ?_,λN f i d j h1 h2=>(s.2 _ _).2 ?_⟩
 ·have O: ∀r∈((gQ (b,(cg b m e v l press true).1.2.1,(cg b m e v l press true).1.2.2.1,v)).1.1.foldl cj (cg b m e v l press true)).1.1,r.1=2->r∈cC (b,m,v):=λr hr h2=>by
   rw[lj,M,w]at hr;rcases List.mem_append.1 hr with hr|hr
   ·rcases List.mem_append.1 hr with hr|hr
    ·exact hr
    ·have:=Z r hr;omega
   ·have:=(a2 r hr).2;omega
  rw[S7 t i j _ _ (λr hr h2=>KP (hs.1 r (O r hr h2)) (.inr (.inl h2))),jo,<- C f i d j];constructor
  ·rintro(h|⟨r,hr,h2,h⟩)
   ·cases h
   ·exact⟨r,O r hr h2,h⟩
  ·rintro⟨r,hr,h⟩
   refine .inr ⟨r,?_,(h2 r hr).2,h⟩;rw[lj,M,w];simp[hr]
 ·rcases yd _ _ ((s.2 _ _).1 h)with h|h
  ·exact .inl ((I f i d j).1 h)
  ·exact .inr ((J f i d j).1 h)
 ·rw[rJ]at N
  rcases ya f i d ((J f i d j).2 ⟨h1,h2⟩)with h|h
  ·exact h
  ·rw[N,jo]at h;cases h
def cO(b:ab)(l:List bE)(j:Nat):bd:=kS (b.1,lX (b.1,(aa l j).1))
theorem ad1{b:ab}{m:ak}{e:List Int}{v:List aZ}{l:List bd}{press:bd}:(ix b m e v l press true).1.2.2.2.1=(dI (b,v,l)).1:=by
 simp_all [ix,cg,rJ,H6]
theorem aiO{b:ab}{m:bg}{s:ByteArray}{x:aq}{f:bg}{out:la}(h:EM b m s x f out)(g:x.2.2.2.1=true):gB b x.2.2.1=true:=by
 have hb:=h.xb;have a:b.2.2.2.2.2.2.2.length<=8:=by have:=h.xd.n8;simp_all
 rw[h.xg,rz b (auq a (by decide)) s]at g;rw[h.xi,rz b (auq a (by decide)) s];simp_all [Hr]
theorem asP{k k' s p full:Bool}(up:k=true->s=false->k'=true)(dn:k'=true->(k=true/\s=false)\/(p=true/\ ¬ k=true))(all:full=false->p=true-> ¬ k=true->k'=true):
  k'=((k&& !(k&&s))||bif full then((p&& !k)&&k')else(p&& !k)):=by
 cases k<;>cases k'<;>cases s<;>cases p<;>cases full<;>simp_all
structure asF (b:ab) (m m':bg) (eK:bA) (out:la):Prop where
 ct: ∀j:Nat,j<b.2.2.2.2.2.2.2.length->aa m'.2.2.1 (j:Int)=(kM (b.2.1,aa m.2.2.1 (j:Int),(aa eK.2.2 (j:Int)).1)).1
 fw: ∀j:Nat,j<b.2.2.2.2.2.2.2.length->(aa out.2.2.2.2.2 (j:Int)).2.1=fh (cO b m'.2.2.1 j,acS (cO b m'.2.2.1) j)
 pK:out.2.1=fy (bR m.1,acS (cO b m'.2.2.1) b.2.2.2.2.2.2.2.length)
 lmp:out.1=A1 (fh (bR m.1,fy (bR m.1,acS (cO b m'.2.2.1) b.2.2.2.2.2.2.2.length)),bif out.2.2.2.1 then fy (fh (eK.1,bR m.1),out.1)else fh (eK.1,bR m.1))
theorem ain{b:ab}{m:bg}{s:ByteArray}{x:aq}{y:bg}{out:la}(h:EM b m s x y out)(z:x.2.2.2.1=true):asF b m y x.2.2.1 out:=by
 have C:=aiO h z;have I:=h.br z;have hi:=h.xd.aU;have hb:=h.xb;have O:=h.xd.lit;subst hb;have J:=hi.bB;have t:=mf x;have M:bR x.2.1.1=bR m.1:=by unfold bR;rw[h.xe]
 have A: ∀j:Nat,j<x.1.2.2.2.2.2.2.2.length->iS (x.1,aa (eC x).1 j)=cO x.1 y.2.2.1 j:=λj o=>by
  have q:=O4 h.xd.tocF z (λj o=>(I j o).2.2) o;unfold iS cO;simp only;rw[q.1,q.2,(I j o).2.1,h.xc];exact OA J _
 have P: ∀f:Nat,f<32-> ∀d,d=1\/d=2->bk x.2.2.1.1 f d=true->cL x.1.1 f d:=λf g d k hm=>by
  unfold gB at C;simp only[au0]at C;exact aeU J C.1.1.1.1.1 g k hm
 have hr:fG x=ix x.1 x.2.1.1 x.2.1.2.2.2.2.2.2.1 (eC x).1 x.2.1.2.2.2.2.2.2.2.1 x.2.2.1.1 true:=by unfold fG;rw[z]
 have u:=ae9 (e:=x.2.1.2.2.2.2.2.2.1) (l:=x.2.1.2.2.2.2.2.2.2.1) hi t P;rw[<- hr]at u;have N: ∀f:Nat,f<32-> ∀d,d=1\/d=2->bk (iM x.1 (eC x).1) f d=bk (acS (cO x.1 y.2.2.1) x.1.2.2.2.2.2.2.2.length) f d:=λf g d k=>by
  rw[az4,Ju _ g k];unfold iM;rw[Bq _ _ _ g k,jo];constructor
  ·rintro(h|⟨e,Q,h⟩)
   ·cases h
   ·obtain⟨j,o,rfl⟩:=av0 Q
    rw[<- bH _ j o,A j (t▸o)]at h;exact⟨j,t▸o,h⟩
  ·rintro⟨j,o,h⟩
   refine .inr ⟨_,axn (t.symm▸o:j<(eC x).1.length),?_⟩;rw[<- bH _ j (t.symm▸o),A j o];exact h
 refine⟨λj o=>by rw[h.xc];exact(I j o).1,λj o=> ?_,?_,?_⟩
 ·rw[h.fw.2 j o]
  show aa (fG x).1.2.2.2.1.1 j=_;rw[hr,ad1,ahS J t O (by rw[t];exact o),A j o,Pv (λi T=>A i (by omega))];rfl
 ·rw[h.pK,<- M]
  show(fG x).1.1.foldl jf (0,0)=_;refine WC.ext (Wm _ _ sn) (xZ _) λf g d k=> ?_
  rw[uk _ _ g k,az4,u.pK f g d k,au0,mg hi g k,N f g d k]
 ·have hw:WC out.1:=by rw[h.ML];exact xX u.aU
  refine WC.ext hw (af3 _) λf g d k=> ?_
  have w:=mg hi g k;have L:bk out.1 f d=true↔Key (fG x).1.2.1.2.2.2 f d:=by rw[h.ML];exact mg u.aU g k
  rw[M]at w;have S:bk (bif out.2.2.2.1 then fy (fh (x.2.2.1.1,bR m.1),out.1)else fh (x.2.2.1.1,bR m.1)) f d=bif out.2.2.2.1 then((bk x.2.2.1.1 f d&& !bk (bR m.1) f d)&&bk out.1 f d)else(bk x.2.2.1.1 f d&& !bk (bR m.1) f d):=by
   cases out.2.2.2.1 with
   |true=>rw[auw,auw,uk _ _ g k,tX _ _ g k]
   |false=>rw[aur,aur,tX _ _ g k]
  rw[aet _ _ g k,S,tX _ _ g k,uk _ _ g k,<- N f g d k];refine asP (λa b=>L.2 (u.up f g d k (w.1 a) b)) (λa=> ?_) (λa b c=>L.2 (u.all ?_ f g d k b (λq=>c (w.2 q))))
  ·rcases u.dn f g d k (L.1 a)with q|q
   ·exact .inl ⟨w.2 q.1,q.2⟩
   ·exact .inr ⟨q.1,λc=>q.2 (w.1 c)⟩
  ·rw[h.full]at a
   unfold kV at a;rw[ave,au0,awt,awt]at a;exact awf a.1 a.2
structure aum (b:ab) (m m':bg) (out:la):Prop where
 ct:m'.2.2.1=m.2.2.1
 fw: ∀j:Nat,j<b.2.2.2.2.2.2.2.length->(aa out.2.2.2.2.2 (j:Int)).2.1=(0,0)
 pK:out.2.1=(0,0)
 lmp:out.1=bR m.1
theorem Tz: ∀(k m:List Int),k.Pairwise (· < ·)->m.Pairwise (· < ·)->(∀x,x∈k↔x∈m)->k=m
 | [],[],_,_,_=>rfl
 | [],y::m,_,_,h=>by have:=(h y).2 (by simp);simp_all
 |x::k,[],_,_,h=>by have:=(h x).1 (by simp);simp_all
 |x::k,y::m,g,hm,h=>by
  have h1:=List.pairwise_cons.1 g;have h2:=List.pairwise_cons.1 hm;have e:x=y:=by
   rcases List.mem_cons.1 ((h x).1 (by simp))with a|a
   ·exact a
   ·rcases List.mem_cons.1 ((h y).2 (by simp))with b|b
    ·exact b.symm
    ·have:=h1.1 y b;have:=h2.1 x a;omega
  subst e;rw[Tz k m h1.2 h2.2 λz=>⟨λf=> ?_,λf=> ?_⟩]
  ·have:=h1.1 z f
   rcases List.mem_cons.1 ((h z).1 (by simp[f]))with a|a
   ·omega
   ·exact a
  ·have:=h2.1 z f
   rcases List.mem_cons.1 ((h z).2 (by simp[f]))with a|a
   ·omega
   ·exact a
theorem Pb(c:bd):eM ek (eR c):=by
 have key: ∀k:Nat,eM ek ((List.range k).flatMap λf:Nat=>(bif dO (c,f,1)then[((f:Int),1,(-1:Int),0,false)]else[])++(bif dO (c,f,2)then[((f:Int),2,(-1:Int),0,false)]else[]))/\ ∀e∈((List.range k).flatMap λf:Nat=>(bif dO (c,f,1)then[((f:Int),1,(-1:Int),0,false)]else[])++(bif dO (c,f,2)then[((f:Int),2,(-1:Int),0,false)]else[])),ek e<=2*k:=λk=>by
  induction k with
  |zero=>exact⟨List.Pairwise.nil,λe he=>by cases he⟩
  |succ k g=>
   rw[axt,axo,ayf,List.flatMap_nil,aws];generalize((List.range k).flatMap λf:Nat=>(bif dO (c,f,1)then[((f:Int),1,(-1:Int),0,false)]else[])++(bif dO (c,f,2)then[((f:Int),(2:Int),(-1:Int),(0:Int),false)]else[]))=A at g;obtain⟨h1,h2⟩:=g;have h:ek (k,1,(-1:Int),0,false)=2*k+1:=rfl;have i:ek (k,2,(-1:Int),0,false)=2*k+2:=rfl;have j: ∀B:List az,eM ek B->(∀e∈B,2*k<ek e/\ek e<=2*k+2)->eM ek (A++B)/\ ∀e∈A++B,ek e<=2*((k+1:Nat):Int):=λB l hb=>by
    refine⟨List.pairwise_append.2 ⟨h1,l,λx m y a=> ?_⟩,λe he=> ?_⟩
    ·have:=h2 x m;have:=hb y a;omega
    ·rcases List.mem_append.1 he with he|he
     ·have:=h2 e he;omega
     ·have:=hb e he;omega
   refine j _ ?_ ?_
   ·cases dO (c,k,1)<;>cases dO (c,k,2)
    ·exact List.Pairwise.nil
    ·exact az5 ..
    ·exact az5 ..
    ·refine List.pairwise_cons.2 ⟨λy a=> ?_,az5 ..⟩
     have a:y∈ [((k:Int),2,(-1:Int),0,false)]:=a;rw[av8]at a;subst a;rw[h,i];omega
   ·intro e he
    rcases List.mem_append.1 he with he|he
    ·revert he
     cases dO (c,k,1)with
     |true=>rw[auw];intro he;rw[av8]at he;subst he;rw[h];omega
     |false=>rw[aur];intro he;cases he
    ·revert he
     cases dO (c,k,2)with
     |true=>rw[auw];intro he;rw[av8]at he;subst he;rw[i];omega
     |false=>rw[aur];intro he;cases he
 exact(key 32).1
theorem CI{b:ab}{m:ak}(hm:aT b m):m.2.2.2.length=(eR (bR m)).length:=by
 have h:=Tz _ _ (List.pairwise_map.2 hm.fg) (List.pairwise_map.2 (Pb _)) λx=>by
  rw[aA4,aA4];constructor
  ·rintro⟨e,a,rfl⟩
   have i:=(hm.ft e a).1;obtain⟨f,g,h1⟩:=zY hm.bB i;exact⟨_,rK.2 ⟨f,g,e.2.1,i.dir,(mg hm g i.dir).2 ⟨e,a,h1,rfl⟩,rfl⟩,by unfold ek;rw[h1]⟩
  ·rintro⟨e,a,rfl⟩
   obtain⟨f,g,d,j,k,rfl⟩:=rK.1 a;obtain⟨e,a,h1,h2⟩:=(mg hm g j).1 k;exact⟨e,a,by unfold ek;rw[h1,h2]⟩
 have:=av2 List.length h;rwa [ax5,ax5]at this
def fq(b:ab):Int:=(b.2.2.1-6)/18-b.2.2.2.2.2.2.2.length
theorem Qn{b:ab}{m:ak}(hm:aT b m):fP (b,m)=true↔m.2.2.2.length+1<=fq b:=by
 grind [fq,P0]
theorem ajS{b:ab}{m:ak}(hm:aT b m){f d:Int}(a:d=1\/d=2)(h: ¬ Key m.2.2.2 f d):(aW m (1,f,d,0,0)).2.2.2.length=m.2.2.2.length+1:=by
 unfold aW;rw[ry rfl];have g:(bt (m,f,d)).2=false:=by
  rw[<- aw0,Ib hm a];exact h
 grind [iz]
theorem Jb: ∀(L:List az) (x:bY),aT x.2 x.1.2.1->(∀e∈L,cL x.2.1 e.1 e.2.1)->eM ek L->(∀e∈L,¬ Key x.1.2.1.2.2.2 e.1 e.2.1)->x.1.2.1.2.2.2.length<=fq x.2->
  ((L.foldl dm x).1.2.1.2.2.2.length:Int)=min (fq x.2) (x.1.2.1.2.2.2.length+L.length)/\(x.1.2.1.2.2.2.length+L.length<=fq x.2->(L.foldl dm x).1.2.2.2.2=x.1.2.2.2.2)/\(fq x.2<x.1.2.1.2.2.2.length+L.length->(L.foldl dm x).1.2.2.2.2≠(0,0))
 | [],x,a,_,_,_,hr=>by
  refine⟨?_,λ_=>rfl,λh=> ?_⟩
  ·show x.1.2.1.2.2.2.length=min (fq x.2) (_+0);omega
  ·rw[avk]at h;omega
 |e::L,x,a,u,hs,l,hr=>by
  have m:=u e (by simp);have i:=m.dir;have o:=List.pairwise_cons.1 hs;have s: ∀q∈L,cL x.2.1 q.1 q.2.1:=λq g=>u q (by simp[g])
  rw[awb,avi];cases hR:fP (x.2,x.1.2.1)with
  |true=>
   have y:=(Qn a).1 hR;have t:dm x e=cj x (1,e.1,e.2.1,0,0):=by unfold dm;rw[hR,auw]
   have z:bW x.2 (1,e.1,e.2.1,0,0):= .inl ⟨.inl rfl,m,rfl,rfl⟩;have hi:=mc a z;have C:=ajS a i (l e (by simp));rw[t];have j:=Jb L (cj x (1,e.1,e.2.1,0,0)) hi s o.2 (λq g=>by
    show¬ Key (aW x.1.2.1 (1,e.1,e.2.1,0,0)).2.2.2 q.1 q.2.1;rw[T4 a rfl i];rintro(h|⟨h1,h2⟩)
    ·exact l q (by simp[g]) h
    ·have h1:=h1
     have h2:=h2;have:=o.1 q g;unfold ek at this;rw[h1,h2]at this;omega) (by show((aW x.1.2.1 (1,e.1,e.2.1,0,0)).2.2.2.length:Int)<=fq x.2;omega)
   have g:((cj x (1,e.1,e.2.1,0,0)).1.2.1.2.2.2.length:Int)=x.1.2.1.2.2.2.length+1:=by
    show((aW x.1.2.1 (1,e.1,e.2.1,0,0)).2.2.2.length:Int)=_;omega
   have hb:(cj x (1,e.1,e.2.1,0,0)).2=x.2:=rfl;rw[hb]at j;refine⟨by omega,λh=>j.2.1 (by omega),λh=>j.2.2 (by omega)⟩
  |false=>
   have y: ¬ x.1.2.1.2.2.2.length+1<=fq x.2:=λh=>by rw[(Qn a).2 h]at hR;cases hR
   have t:dm x e=((x.1.1,x.1.2.1,x.1.2.2.1,x.1.2.2.2.1,fc (x.1.2.2.2.2,fo (e.1,e.2.1))),x.2):=by unfold dm;rw[hR,aur]
   rw[t];have j:=Jb L ((x.1.1,x.1.2.1,x.1.2.2.1,x.1.2.2.2.1,fc (x.1.2.2.2.2,fo (e.1,e.2.1))),x.2) a s o.2 (λq g=>l q (by simp[g])) hr;refine⟨by rw[j.1];show min (fq x.2) (x.1.2.1.2.2.2.length+_)=_;omega,λh=>by omega,λ_ A=> ?_⟩;obtain⟨f,k,h1⟩:=zY a.bB m;have w:=(Aq L ((x.1.1,x.1.2.1,x.1.2.2.1,x.1.2.2.2.1,fc (x.1.2.2.2.2,fo (e.1,e.2.1))),x.2) a s).ru f k e.2.1 i (by
    rw[uo _ _ k i,h1,Dc k k i i];simp)
   rw[A,jo]at w;cases w
theorem aiJ{c:bd}(a:WC c){f:Nat}{d:Int}(g:f<32)(h:d=1\/d=2):nX (c,f,d)=bk c f d:=by
 obtain⟨u,v⟩:=c;have hw:u64.wrap f=f:=N7 (by omega) (by omega);have h1:nX ((u,v),f,d)=(((d==1)&&(oU (qt u f) 1==1))||((d==2)&&(oU (qt v f) 1==1))):=by
  grind [nX]
 rw[h1,St a.1,St a.2];rcases h with rfl|rfl
 ·rw[Fj,nB a.1 g];simp
 ·rw[FM,nB a.2 g];simp
theorem rl6(f:Int)(c:bd)(o:List az):(YW (f,c) (o,1)).1=o++((bif nX (c,f,1)then[(f,1,(-1:Int),0,false)]else[])++(bif nX (c,f,2)then[(f,2,(-1:Int),0,false)]else[])):=by
 have a: ∀o:List az,ml (f,c) (o,1)= .next (f,c) (o++(bif nX (c,f,1)then[(f,1,(-1:Int),0,false)]else[]),2):=λo=>by
  have w:i64.wrap (1+1)=2:=by decide
  grind [ml]
 have g: ∀o:List az,ml (f,c) (o,2)= .next (f,c) (o++(bif nX (c,f,2)then[(f,2,(-1:Int),0,false)]else[]),3):=λo=>by
  have w:i64.wrap (2+1)=3:=by decide
  grind [ml]
 have h: ∀o:List az,ml (f,c) (o,3)= .brk (f,c) (o,3):=λo=>rfl
 show(endOf ml (f,c) 3 (o,1)).1=_;simp_all [endOf]
theorem ah4{c:bd}(g:WC c):F4 c=eR c:=by
 unfold F4 XY eR;have h:=fO (step:=zu) (k:=c) (n:=32) (λi y=>y=((List.range i).flatMap (λf:Nat=>(bif dO (c,f,1)then[((f:Int),1,(-1:Int),0,false)]else[])++(bif dO (c,f,2)then[((f:Int),2,(-1:Int),0,false)]else[])),(i:Int)))
  (λi y hi a=>by
   have j:(i:Int)<32:=by omega
   have l:i64.wrap (i+1)=((i+1:Nat):Int):=aA (by omega) (by omega);simp_all [zu,rl6,axt,aiJ,qh])
  (λy a=>by subst a;rfl) (Nat.succ (Ek c ([],0))) ([],0) (by unfold Ek;decide) rfl
 simp_all
theorem Hv{c:bd}(a:WC c):fH c=((eR c).length:Int):=by
 simp_all [fH,ah4]
theorem ale{b:ab}{m:ak}(hm:aT b m):ik m.2.2.2=bR m:=by
 have hl:=hm.fit.2.2;unfold bR;rw[of_eq hl];unfold ik Yk;have h1: ∀e∈m.2.2.2,Gv (e.1,e.2.1)=fo (e.1,e.2.1):=λe a=>by
  grind [decide,Gv,fo,zY,N7]
 have:=xL (step:=vz) (k:=m.2.2.2) m.2.2.2 (λc e=>fc (c,fo (e.1,e.2.1))) (λ_=>True) hl (λc i hi _=>by
   refine⟨?_,trivial⟩;unfold vz;simp only[show((i:Int)<m.2.2.2.length)from by omega,avn,auw,bH m.2.2.2 i hi,h1 _ (axn hi)];rfl) (λc _=>by simp_all [vz]) (0,0) trivial (fuel:=Nat.succ (zf m.2.2.2 ((0:Int),(0:Int),(0:Int)))) (by simp_all [zf])
 simp_all
theorem ald{b:ab}(a:aK b):eL b=mr b.1:=by
 rw[Cj b (auq a.cn.2 (by decide)),ava a]
theorem N6{b:ab}(k:aK b)(p:bd):iu b (fy (p,eL b))=true:=by
 have h: ∀c:bd,WC c->(∀f,f<32-> ∀d,d=1\/d=2->bk c f d=true->bk (eL b) f d=true)->iu b c=true:=λc l h=>by
  have e:fh (c,eL b)=(0,0):=WC.ext (BH _) sn λf a d g=>by
   grind [tX,jo]
  have i:=av2 Prod.fst e;have j:=av2 Prod.snd e;unfold iu pE;rw[au0,awt,awt];exact⟨i,j⟩
 exact h _ (xZ _) λf a d g hm=>by
  simp_all [uk]
abbrev FO:eG:=iP.dflt
theorem aiS{b:ab}(a:aK b):nt b FO=true:=by
 have h:=a.fl;have h1:gI b 0=true:=by simp_all [gI]
 have h2:fV 0 0 (b.1-1)=true:=by grind [fV]
 show(gI b 0&&gI b 0&&fV 0 0 (b.1-1)&&fV 0 0 2)=true;rw[h1,h2];rfl
theorem VB:FE FO:=⟨⟨⟨au4 0,(by decide:(0:Int)<=4294967295)⟩,au4 0,(by decide:(0:Int)<=4294967295)⟩,⟨au4 0,(by decide:(0:Int)<=255)⟩,⟨au4 0,(by decide:(0:Int)<=255)⟩,(by decide:0<2^64)⟩
def iF(b:ab)(p:bd):bA:=(p,(0,0),aC iP b.2.2.2.2.2.2.2.length)
theorem N2{b:ab}(a:aK b){p:bd}(hw:WC p)(j:iu b p=true):ju b (gV (b,iF b p)).1=(iF b p,0):=by
 have k:b.2.2.2.2.2.2.2.length<=8:=a.cn.2;have h1:=a.cn.1;have hl:b.2.2.2.2.2.2.2.length<=maxLen:=auq k (by decide);have g:(iF b p).2.2.length=b.2.2.2.2.2.2.2.length:=eu _;have f: ∀c∈(iF b p).2.2,c=FO:=λc f=>aw3 f
 have i:gB b (iF b p)=true:=by
  have l:(iF b p).2.2.all (nt b)=true:=List.all_eq_true.2 λc h=>by rw[f c h];exact aiS a
  have hr:fV 0 0 ((b.2.2.2.2.2.2.2.length:Int)-1)=true:=by
   unfold fV;rw[au0,adv,adv];have:1<=b.2.2.2.2.2.2.2.length:=h1;omega
  unfold gB;rw[l,g];show(iu b p&&fV 0 0 8&&fV 0 0 ((b.2.2.2.2.2.2.2.length:Int)-1)&&_&&_&&true)=true;rw[j,hr];simp;exact⟨by decide,.inr rfl⟩
 rw[KQ b hl (iF b p) (by rw[g];omega) (λc h=>by rw[f c h];exact VB.1)];have e:jW b (iF b p)=(fB (bw (gO (dD b) (iF b p))),0):=by
  unfold jW;simp only[a,i,avn,aBs,auw]
 rw[e];exact af2 a i ⟨⟨hw.1.1,by have:=hw.1.2;show p.1<=4294967295;omega⟩,hw.2.1,by have:=hw.2.2;show p.2<=4294967295;omega⟩ (λc h=>by rw[f c h];exact VB)
def rp(l:List bE):Prop:= ∀d∈l,d.1=(0,false,false,false,false)
theorem Q1{n:Int}{s:bE}(h:s.1=(0,false,false,false,false)): ∀i,(debI n (0,false,false,false,false) s i).1=(0,false,false,false,false)
 |0=>h
 |i+1=>by
  have a:=Q1 (n:=n) h i;simp_all [debI,qx]
theorem afl(n:Int):kS (n,lX (n,(0,false,false,false,false)))=(0,0):=by
 unfold kS;have h:(lX (n,(0,false,false,false,false))).2.2=0:=rfl;simp_all
structure kt (k:List bd×Int×ab) (x:Int×bg):Prop where
 i0:0<=x.1
 bB:aK k.2.2
 rm:k.2.2.2.2.1<=678
 ln:k.1.length<=60
 pI:iy k.2.2 x.2
theorem asA{n:Nat}(h:n<=8):0<=(n:Int)/\n=(n:Int)/\(n:Int)*56<=140737488355328/\(n:Int)<=4611686018427387903:=by omega
theorem alA{e:Ty}{n:Nat}(h:n<=8):(aC e n).length<=30:=by grind [eu]
theorem PL{b:ab}(a:aK b)(p:bd):iC b (gV (b,iF b (fy (p,eL b)))).1:=
 alE a λ_=> .inl (by rw[N2 a (xZ _) (N6 a p)];rfl)
theorem aeV{b:ab}{m:bg}(h:iy b m):m.2.1.1.1.size<=500000/\m.2.1.1.2.size<=500000:=by
 obtain⟨a,f,g,i,j⟩:=(gK _ _).1 h.aX;omega
theorem arw{x:ay}(h:kO x):iy (F7 x) (F8 (F7 x)).1:=by
 obtain⟨a,_,hr,i⟩:=sA h;obtain⟨s,hs,f,g⟩:=yC h;rw[hs];exact TY a (auq a.cn.2 (by decide)) f (by omega) (Pq a (by omega) hr g)
theorem kt.start{x:ay}{l:List bd}{n:Int}(h:kO x){c:Bool}(hl:(c||decide ((l.length:Int)>60))=false):kt (l,n,F7 x) (0,(F8 (F7 x)).1):=by
 obtain⟨a,_,hr,f⟩:=sA h;rw[auv,aut]at hl;have hm:=arw h;have g:l.length<=60:=by omega
 generalize F7 x=b at a hr f hm;generalize(F8 b).1=m at hm;exact⟨au4 0,a,hr,g,hm⟩
theorem kt.cmd{k:List bd×Int×ab}{x:Int×bg}(h:kt k x)(p:bd):iC k.2.2 (gV (k.2.2,iF k.2.2 (fy (p,eL k.2.2)))).1:=PL h.bB p
theorem kt.nx{k:List bd×Int×ab}{x:Int×bg}(h:kt k x)(p:bd):iy k.2.2 (jm (k.2.2,x.2,(gV (k.2.2,iF k.2.2 (fy (p,eL k.2.2)))).1,1048576)).1:=Rd h.pI h.rm (h.cmd p)
def aaa(k:(List bd)×Int×ab)(x:Int×bg):Prop:=kt k x
def ED(k:(List bd)×Int×ab)(x:Int×bg):=(k.1.length-x.1).toNat
def sO(k:(List bd)×Int×ab)(x:Int×bg):an ((List bd)×Int×ab) (Int×bg) Bool:=letI b:=k.2.2;letI p:=fy (aa k.1 x.1,eL b);letI w:=ik x.2.1.2.2.2;letI T:=jm (b,x.2,(gV (b,p,(0,0),aC iP b.2.2.2.2.2.2.2.length)).1,1048576);letI o:=T.2.1;letI m:=fh (w,o.1);letI s:=i64.wrap (fH w+fH (fh (p,w)));bif x.1<k.1.length then bif T.2.2 !=0|| !(o.2.1.1==0&&o.2.1.2==0)then .ret false else bif !(m.1==0&&m.2==0)||fH o.1 !=Min.min k.2.1 s||o.2.2.2.1 !=(s>k.2.1)|| !Gu (b,T.1)then .ret false else .next k (i64.wrap (x.1+1),T.1)else .brk k x
def acD k x:=bj sO k (Nat.succ (ED k x)) x
def F5(x:(ay)×List bd):=letI b:=F7 x.1;letI m:=F8 b;letI r:=NF ();bif m.2 !=0||(x.2.length:Int)>60 then m.2==0&&r else dJ (acD (x.2,i64.wrap (i64.wrap (Int.tdiv (i64.wrap (b.2.2.1-6)) (18:Int))-b.2.2.2.2.2.2.2.length),b) (0,m.1)) (λy=>y) r
def Mo(x:(ay)×List bd):Prop:=kO x.1
def wP:Ct:=⟨Ty.pair Aj mD,[some 3,none],aw,ah.one none,some Mo,none,F5⟩
def Zb:LS aw.den:=aH (Ty.pair mD (Ty.pair ae aD)) (Ty.pair ae fE) [(1,none),(8,none)] [(5,8)] [(9,none)] [(6,16)] [] [] [(5,5),(6,6)] 0 true aaa sO ED
def abj(z:List (Nat×List Nat)):=dN (Ca true) mi dh akM z
theorem anS:bF f5 wP [0] Zb:=lA (abj []) [] l0 (λk x fk fx h=>sl (letI b:=k.2.2;letI p:=fy (aa k.1 x.1,eL b);letI n:=(b.2.2.2.2.2.2.2.length:Int);letI i:=(b,p,(0,0),aC iP n);letI w:=ik x.2.1.2.2.2;letI t:=(b,x.2,(gV i).1,1048576);letI T:=jm t;letI o:=T.2.1;letI m:=fh (w,o.1);letI s:=i64.wrap (fH w+fH (fh (p,w)));letI r:=0<=x.1/\x.1<(k.1.length:Int);decide (x.1<(k.1.length:Int))=true->r/\(0<=n/\n=n/\n*56<=140737488355328/\n<=4611686018427387903)/\Mf i/\Ad t/\((T.2.2 !=0|| !(o.2.1.1==0&&o.2.1.2==0))=false->r/\((!(m.1==0&&m.2==0)||fH o.1 !=Min.min k.2.1 s||o.2.2.2.1 !=(s>k.2.1))=false->WJ (b,T.1)))) (by
 try dsimp only[Ty.den]at*
 have h:kt k x:=h;intro hc;rw[adv]at hc;have r:=ig h.i0 hc;exact⟨r,asA h.bB.cn.2,alA h.bB.cn.2,⟨h.pI.ea,h.cmd _⟩,λ_=>⟨r,λ_=>aeV (h.nx _)⟩⟩)) λk x fk h=>by
 try dsimp only[Ty.den]at*
 have h:kt k x:=h;unfold sO;refine bf.cnd (λhc=> ?_) (λ_=>rfl);rw[adv]at hc;have e:=cA h.i0 hc (auq h.ln (by decide));rw[e];exact bf.cnd (λ_=>rfl) (λ_=>bf.cnd (λ_=>rfl) (λ_=>⟨rfl,⟨cE h.i0,h.bB,h.rm,h.ln,h.nx _⟩,dg hc⟩))
theorem ok5:ar 5 wP:=au (abj []) func5 [(7,Zb)] (lc anS l0) (sp λx fx h=>sl (letI b:=F7 x.1;letI m:=F8 b;kO x.1/\((m.2 !=0||(x.2.length:Int)>60)=false->(18:Int)≠0/\aaa (x.2,i64.wrap (i64.wrap (Int.tdiv (i64.wrap (b.2.2.1-6)) (18:Int))-b.2.2.2.2.2.2.2.length),b) (0,m.1))) (by
 try dsimp only[Ty.den]at*
 have h:kO x.1:=h;exact⟨h,λhc=>⟨by decide,kt.start h hc⟩⟩))
theorem agt(m:ak):Gk (m,m)=true:=by
 have h1: ∀l:List Int,Fz (l,l)=true:=λl=>by
  have hr:VZ (l,l,l.length) 0=none:=ret_none (λ_=>True) (λy _=>by
   grind [Dr]) _ _ trivial
  unfold Fz;simp only[awm,hr];rfl
 have h2: ∀l:List Bool,Ag (l,l)=true:=λl=>by
  have hr:UB (l,l,l.length) 0=none:=ret_none (λ_=>True) (λy _=>by
   grind [CE]) _ _ trivial
  unfold Ag;simp only[awm,hr];rfl
 have h3: ∀l:List az,Fh (l,l)=true:=λl=>by
  have hr:Vq (l,l,l.length) 0=none:=ret_none (λ_=>True) (λy _=>by
   grind [Cr]) _ _ trivial
  unfold Fh;simp only[awm,hr];rfl
 simp_all [Gk]
theorem aeW{b:ab}{m:bg}(h:iy b m):Gu (b,m)=true:=by
 unfold Gu;simp only;rw[h.jr.replay h.aU.bB h.aX];exact agt _
theorem agC{b:ab}(a:aK b)(p l:bd):fh (fy (p,eL b),l)=dS (dv (fy (p,eL b),dB b),l):=WC.ext (BH _) (ahf _) λf g d i=>by
 have h:bk (dB b) f d=bk (eL b) f d:=by
  rw[az4,yg a g i,ald a,HD a.fl g i]
 grind [tX,um,ur,uk]
structure apA (b:ab) (m:bg) (p:bd) (T:bg×la×Int):Prop where
 ok:T.2.2=0
 pK:T.2.1.2.1=(0,0)
 dA:fh (ik m.1.2.2.2,T.2.1.1)=(0,0)
 kX:fH T.2.1.1=min (fq b) (fH (ik m.1.2.2.2)+fH (fh (fy (p,eL b),ik m.1.2.2.2)))
 full:T.2.1.2.2.2.1=decide (fH (ik m.1.2.2.2)+fH (fh (fy (p,eL b),ik m.1.2.2.2))>fq b)
 c64:0<=fH (ik m.1.2.2.2)+fH (fh (fy (p,eL b),ik m.1.2.2.2))/\fH (ik m.1.2.2.2)+fH (fh (fy (p,eL b),ik m.1.2.2.2))<=1000
 pI:iy b T.1
 qui:rp T.1.2.2.1
theorem ae7{b:ab}{m:ak}{e:List Int}{v:List aZ}{l:List bd}{press:bd}(hm:aT b m)(z:v.length=b.2.2.2.2.2.2.2.length)(A: ∀f:Nat,f<32-> ∀d,d=1\/d=2->bk (iM b v) f d=false)(hr:18*((b.2.2.2.2.2.2.2.length:Int)+(m.2.2.2.length:Int))+6<=b.2.2.1):
  let L:=eR (dS (dv (press,dB b),bR m))
  let y:=ix b m e v l press true
  aT b y.1.2.1/\(y.1.2.1.2.2.2.length:Int)=min (fq b) ((m.2.2.2.length:Int)+(L.length:Int))/\((m.2.2.2.length:Int)+(L.length:Int)<=fq b->y.1.2.2.2.2=(0,0))/\(fq b<(m.2.2.2.length:Int)+(L.length:Int)->y.1.2.2.2.2≠(0,0))/\(∀f d,Key m.2.2.2 f d->Key y.1.2.1.2.2.2 f d):=by
 intro L y;have o:=hm.bB;have hs:cC (b,m,v)= []:=by
  rw[yj hm z];have:m.2.2.2.filter (λe=>dO (iM b v,e.1,e.2.1))= []:=List.filter_eq_nil_iff.2 λq j=>by
   have k:=(hm.ft q j).1;obtain⟨f,a,h1⟩:=zY o k;rw[h1,qh _ a k.dir,A f a _ k.dir];exact Bool.false_ne_true
  rw[this];rfl
 have ht:cg b m e v l press true=L.foldl dm (([],m,e,(dI (b,v,l)).1,0,0),b):=by
  unfold cg;rw[auw,hs];rfl
 have s:=xS o press (bR m);have C: ∀q∈L,¬ Key m.2.2.2 q.1 q.2.1:=λq j I=>by
  obtain⟨f,a,d,g,t,rfl⟩:=rK.1 j;rw[um _ _ a g,au0,avm]at t;have:=(mg hm a g).2 I;rw[t.2]at this;cases this
 have J:(m.2.2.2.length:Int)<=fq b:=by unfold fq;omega
 have h1:=Jb L (([],m,e,(dI (b,v,l)).1,0,0),b) hm s (Pb _) C J;have h2:=Aq L (([],m,e,(dI (b,v,l)).1,0,0),b) hm s;rw[<- ht]at h1 h2;have hi:aT b (cg b m e v l press true).1.2.1:=h2.aU;have u:=PU (v:=v) (x:=(cg b m e v l press true).1.2.2.1) hi;have i:aT b y.1.2.1:=u.1;have w: ∀f d,Key y.1.2.1.2.2.2 f d↔Key (cg b m e v l press true).1.2.1.2.2.2 f d:=u.2
 have M:bR y.1.2.1=bR (cg b m e v l press true).1.2.1:=WC.ext (xX i) (xX hi) λf a d g=>by
  rw[az4,mg i a g,mg hi a g];exact w _ _
 have N:y.1.2.1.2.2.2.length=(cg b m e v l press true).1.2.1.2.2.2.length:=by rw[CI i,CI hi,M]
 have O:y.1.2.2.2=(cg b m e v l press true).1.2.2.2:=rJ _ _;rw[N,O];exact⟨i,h1.1,h1.2.1,h1.2.2,λf d h=>(w f d).2 (h2.up f d h)⟩
theorem ad4{b:ab}{m:bg}(k:iy b m)(hr:b.2.2.1<=678)(hq:rp m.2.2.1)(p:bd):apA b m p (jm (b,m,(gV (b,iF b (fy (p,eL b)))).1,1048576)):=by
 have u:=k.aU.bB;have O:b.2.2.2.2.2.2.2.length<=maxLen:=auq u.cn.2 (by decide);have P:=N2 u (xZ (p,eL b)) (N6 u p);have h9:=agC u p;generalize A:fy (p,eL b)=o at*;obtain⟨x,w,out,h1,h⟩:=V7 k hr (by grind [PL]:iC b (gV (b,iF b o)).1);rw[h1];have y:x.2.2.2.1=true:=by rw[h.xg,rz b O,P];rfl
 have Q:x.2.2.1=iF b o:=by rw[h.xi,rz b O,P]
 have S:=ain h y;have T:=h.br y;have hi:=h.xd.aU;have hb:=h.xb;have C:=k.ct;subst hb;have hB:=hi.bB;have U:=mf x;have I:=h.pI;have V:rp w.2.2.1:=λd a=>by
  obtain⟨j,g,rfl⟩:=av0 a;have s:j<x.1.2.2.2.2.2.2.2.length:=by rw[<- I.ct.1];exact g
  rw[<- bH _ j g,S.ct j s,Q];have t:(aa (iF x.1 o).2.2 j).1=(0,false,false,false,false):=by
   have:aa (iF x.1 o).2.2 j=FO:=Dw rfl s;rw[this];rfl
  rw[t,IA ((yV _ _).1 (C.2 j (by rw[C.1];exact s)))];exact Q1 (hq _ (im (auz j) (by rw[C.1];omega))) 36
 have Y: ∀j:Nat,j<x.1.2.2.2.2.2.2.2.length->cO x.1 w.2.2.1 j=(0,0):=λj g=>by
  unfold cO;rw[V _ (im (auz j) (by rw[I.ct.1];omega))];exact afl _
 have a2: ∀f:Nat,f<32-> ∀d,d=1\/d=2->bk (acS (cO x.1 w.2.2.1) x.1.2.2.2.2.2.2.2.length) f d=false:=λf i d a=>by
  rw[<- aw0,Ju _ i a];rintro⟨j,g,hm⟩
  rw[Y j g,jo]at hm;cases hm
 have a3: ∀f:Nat,f<32-> ∀d,d=1\/d=2->bk (iM x.1 (eC x).1) f d=false:=λf i d a=>by
  rw[<- aw0];unfold iM;rw[Bq _ _ _ i a,jo];rintro(hm|⟨e,he,hm⟩)
  ·cases hm
  ·obtain⟨j,g,rfl⟩:=av0 he
   have s:=U▸g;rw[<- bH _ j g]at hm;have q:=O4 h.xd.tocF y (λj g=>(T j g).2.2) s;have:iS (x.1,aa (eC x).1 j)=cO x.1 w.2.2.1 j:=by
    unfold iS cO;simp only;rw[q.1,q.2,(T j s).2.1,h.xc];exact OA hB _
   rw[this,Y j s,jo]at hm;cases hm
 have a5:fG x=ix x.1 x.2.1.1 x.2.1.2.2.2.2.2.2.1 (eC x).1 x.2.1.2.2.2.2.2.2.2.1 x.2.2.1.1 true:=by unfold fG;rw[y]
 have J:=h.xe;have a6:bR x.2.1.1=bR m.1:=by unfold bR;rw[J]
 have z:=ae7 (e:=x.2.1.2.2.2.2.2.2.1) (l:=x.2.1.2.2.2.2.2.2.2.1) (press:=x.2.2.1.1) hi U a3 (by rw[J];exact k.room);simp only at z;rw[<- a5]at z;have a7:x.2.2.1.1=o:=by rw[Q];rfl
 rw[a7,a6,<- h9,J]at z;obtain⟨f1,f2,f3,f4,f5⟩:=z;have L:=ale k.aU;have M:fH (ik m.1.2.2.2)=m.1.2.2.2.length:=by rw[L,Hv (xX k.aU),<- CI k.aU]
 have N:fH (fh (o,ik m.1.2.2.2))=((eR (fh (o,bR m.1))).length:Int):=by rw[L,Hv (BH _)]
 have Z:out.1=bR (fG x).1.2.1:=h.ML;have a9:fH out.1=((fG x).1.2.1.2.2.2.length:Int):=by rw[Z,Hv (xX f1),<- CI f1]
 have b5:=uf (fh (o,bR m.1));have b6:=k.aU.len;refine⟨rfl,?_,?_,?_,?_,?_,I,V⟩
 ·show out.2.1=(0,0)
  rw[S.pK];exact WC.ext (xZ _) sn λf i d a=>by rw[uk _ _ i a,a2 f i d a,jo,ayc]
 ·show fh (ik m.1.2.2.2,out.1)=(0,0)
  rw[L,Z];refine WC.ext (BH _) sn λf i d a=> ?_
  rw[tX _ _ i a,jo];cases hk:bk (bR m.1) f d with
  |false=>rfl
  |true=>
   have k1:=(mg k.aU i a).1 hk;rw[(mg f1 i a).2 (f5 _ _ k1)];rfl
 ·show fH out.1=_
  rw[A,a9,M,N];exact f2
 ·show out.2.2.2.1=_
  rw[A,M,N,h.full];show kV (eS x)=_;have b2:kV (eS x)= !(((fG x).1.2.2.2.2.1==0)&&((fG x).1.2.2.2.2.2==0)):=rfl;rw[b2];by_cases hc:m.1.2.2.2.length+((eR (fh (o,bR m.1))).length:Int)<=fq x.1
  ·rw[f3 hc,axg (by omega)]
   rfl
  ·have hn:=f4 (by omega)
   rw[axr (by omega)];cases t:(((fG x).1.2.2.2.2.1==0)&&((fG x).1.2.2.2.2.2==0))with
   |false=>rfl
   |true=>
    rw[au0,awt,awt]at t;exact absurd (awf t.1 t.2) hn
 ·rw[A,M,N]
  omega
theorem asr{b:ab}(a:18*b.2.2.2.2.2.2.2.length+24<=b.2.2.1)(hr:b.2.2.1<=678):i64.wrap ((i64.wrap (Int.tdiv (i64.wrap (b.2.2.1-6)) (18:Int)))-b.2.2.2.2.2.2.2.length)=fq b:=by
 grind [fq,aA]
theorem af9{k:List bd×Int×ab}{x:Int×bg}(h:kt k x)(y:k.2.1=fq k.2.2)(z:rp x.2.2.2.1)(g:x.1<(k.1.length:Int)):
  ∃a,sO k x= .next k (x.1+1,a)/\kt k (x.1+1,a)/\rp a.2.2.1:=by
 have i:=ad4 h.pI h.rm z (aa k.1 x.1);have j:=h.nx (aa k.1 x.1);have e:=cA h.i0 g (auq h.ln (by decide));have A:iF k.2.2 (fy (aa k.1 x.1,eL k.2.2))=(fy (aa k.1 x.1,eL k.2.2),((0:Int),(0:Int)),aC iP (k.2.2.2.2.2.2.2.2.2.length:Int)):=rfl;rw[A]at i j;unfold sO;generalize jm (k.2.2,x.2,(gV (k.2.2,fy (aa k.1 x.1,eL k.2.2),((0:Int),(0:Int)),aC iP (k.2.2.2.2.2.2.2.2.2.length:Int))).1,(1048576:Int))=T at*;obtain⟨l,m,o,s,t,I,f,u⟩:=i;have hw:i64.wrap (fH (ik x.2.1.2.2.2)+fH (fh (fy (aa k.1 x.1,eL k.2.2),ik x.2.1.2.2.2)))=_:=aA (by omega) (by omega);have w:=aeW f;obtain⟨C,J,L⟩:=T;simp only at l m o s t f u j w;simp only[hw,e,g,avn,auw,l,m,o,s,t,y,w,awm,axh,aBs,avw,ax7,aur];exact⟨C,rfl,⟨cE h.i0,h.bB,h.rm,h.ln,f⟩,u⟩
theorem ajn:NF ()=true:=by kernel_rfl
theorem atz(n:Nat)(s:bO):rp (td n s).2.2.1:=λd a=>by
 have:=aw3 a;rw[this];rfl
theorem anZ{x:ay}(h:kO x):rp (F8 (F7 x)).1.2.2.1:=by
 obtain⟨s,hs,_⟩:=yC h;simp_all [atz]
theorem ao4(x:(ay)×List bd)(h:Mo x)(hl:x.2.length<=maxLen):F5 x=true:=by
 have h:=h;obtain⟨C,_,hr,i⟩:=sA h;obtain⟨s,hs,_⟩:=yC h;have j:(F8 (F7 x.1)).2=0:=by rw[hs]
 have k:=anZ h;have t:=λa=>kt.start (l:=x.2) (n:=fq (F7 x.1)) h (c:=false) a
 unfold F5;rw[j,ajn,asr i hr];generalize F7 x.1=b at*;cases a:decide ((x.2.length:Int)>60)with
 |true=>rfl
 |false=>
  have h0:=t (by rw[a];rfl);generalize(F8 b).1=m at*;have u:=na (step:=sO) (I:=λy=>kt (x.2,fq b,b) y/\rp y.2.2.2.1) (mu:=λy=>(x.2.length-y.1).toNat) (Q:=λo y=>o=none) (λy g=>by
   by_cases f:y.1<x.2.length
   ·obtain⟨J,w,z,A⟩:=af9 g.1 rfl g.2 f
    rw[w];exact⟨⟨z,A⟩,dg f⟩
   ·unfold sO
    rw[show decide (y.1<x.2.length)=false from axg f,aur]) (Nat.succ (ED (x.2,fq b,b) (0,m))) (0,m) ⟨h0,k⟩ (by unfold ED;exact aAk _)
  rw[show acD (x.2,fq b,b) (0,m)=none from u];rfl
section
open Go.ChangeShapes Go.WideShapes Go.ChangeAt Go.Deep
def Dq(w:World)(C:Nat)(E:List Value->Prop)(v:Value):Prop:=
 v= .slice none 0 0\/ ∃(a:Addr) (len cap:Nat),v= .slice (some a) len cap/\len<=cap/\cap<=maxLen/\
  ∀i,i<len-> ∃cs:List Value,cs.length=C/\E cs/\a.spot=none/\a.block<w.heap.size/\ ∀j,j<C->w.cell? ⟨a.block,a.off+(i*C+j),none⟩=some (cs.getD j undef)
section
variable {H:Type} {enc:TypeId×Value->H} {P:Program} {w:World} {base:Nat} {spare:Nat->Bool} {held:Bool}
theorem adT{r:Reach}{a:Nat}{t:TypeId}{v:Value}{n:Nat}{e:TypeId}(ht:P.underlying t=some (.array n e))(h:Value.okWide P w r a t v): ∃cs,v= .agg cs/\cs.size=P.cellsOf t:=by
 simp only[Value.okWide,ht]at h;obtain⟨cs,h1,h2,_⟩:=h;exact⟨cs,h1,h2⟩
theorem adI{t:TypeId}{fs:Array Field}{fuel:Nat}{cs:List Value}{x:DataW H×List MemPlace}(ht:P.underlying t=some (.struct fs))(h:DataW.trod enc P w base spare held fuel t cs=some x):
  cs.length=P.cellsOf t/\ ∃n,∀(i:Nat) (f:Field),fs[i]? =some f-> ∃y,DataW.trod enc P w base spare held n f.type ((cs.drop f.offset).take (P.cellsOf f.type))=some y:=by
 obtain⟨xs,n,_,_,hl,g,j⟩:=DataW.trod_struct ht h;refine⟨hl,n,λi f a=> ?_⟩;have hi:i<xs.length:=by rw[g];exact(Array.getElem?_eq_some_iff.1 a).1
 exact⟨xs[i],(j i f a).trans (avc hi)⟩
theorem ad0{t e:TypeId}{m fuel:Nat}{cs:List Value}{x:DataW H×List MemPlace}(ht:P.underlying t=some (.array m e))(h:DataW.trod enc P w base spare held fuel t cs=some x):
  cs.length=P.cellsOf t/\ ∃n,∀(i:Nat),i<m-> ∃y,DataW.trod enc P w base spare held n e ((cs.drop (i*P.cellsOf e)).take (P.cellsOf e))=some y:=by
 obtain⟨xs,n,_,_,hl,g,a⟩:=DataW.trod_array ht h;refine⟨hl,n,λi hi=> ?_⟩;have f:i<xs.length:=by omega
 exact⟨xs[i],(a i hi).trans (avc f)⟩
theorem ahW{t e:TypeId}{C fuel:Nat}{cs:List Value}{x:DataW H×List MemPlace}(E:List Value->Prop)(ht:P.underlying t=some (.slice e))(g:P.cellsOf e=C)(A:0<C)
  (I: ∀(n:Nat) (cs':List Value) y,DataW.trod enc P w base spare held n e cs'=some y->E cs') (h:DataW.trod enc P w base spare held fuel t cs=some x): ∃v,cs= [v]/\Dq w C E v:=by
 rcases open_slice ht h with⟨rfl,_⟩|⟨a,len,cap,m,n,D,S,rfl,_,hl,hm,k,_,l⟩
 ·exact⟨_,rfl,.inl rfl⟩
 ·refine⟨_,rfl,.inr ⟨a,len,cap,rfl,hl,hm,λi hi=> ?_⟩⟩
  obtain⟨cs',h1,h2⟩:=l i (by rw[k];split<;>omega);rw[g]at h1;obtain⟨_,J,L⟩:=World.cells?_some h1;obtain⟨T,u,_⟩:=l 0 (by rw[k];split<;>omega);rw[g]at u;obtain⟨_,U,M⟩:=World.cells?_some u;have f:=M 0 A;rw[avc (by omega)]at f;have N:(a.add (0*C)).add 0=a:=by simp[Addr.add]
  rw[N]at f;have hs:a.spot=none:=World.cell?_spot f;have hb:a.block<w.heap.size:=aBd w a f;refine⟨cs',J,I n cs' _ h2,hs,hb,λj O=> ?_⟩;have z:=L j O;rw[avc (by omega)]at z;rw[au9,avc (by omega),axv];rw[<- z];congr 1
  obtain⟨b,o,s⟩:=a;simp only at hs;subst hs;unfold Addr.add;by_cases h0:i*C=0<;>by_cases Q:j=0<;>simp[h0,Q,az0]
end
end
section
open Go.ChangeShapes Go.WideShapes Go.ChangeAt Go.Deep
theorem Iz:prog.cellsOf 5=1:=by kernel_rfl
def asx(cs:List Value):Prop:= ∃(a0:Int),cs= [.int .u8 a0]/\(Lit.int .u8 a0).wf=true
theorem JL{H:Type}{enc:TypeId×Value->H}{w:World}{base:Nat}{a:Nat->Bool}{f:Bool}{fuel:Nat}{cs:List Value}{x:DataW H×List MemPlace}(h:DataW.trod enc prog w base a f fuel 5 cs=some x):asx cs:=by
 obtain⟨n,rfl,_,hw⟩:=DataW.trod_int underlying5 h;exact⟨n,rfl,hw⟩
theorem agi:prog.cellsOf 22=3:=by kernel_rfl
def aoV(cs:List Value):Prop:= ∃(a0:Int) (a:Int) (f:Int),cs= [.int .u8 a0,.int .u8 a,.int .u8 f]/\(Lit.int .u8 a0).wf=true/\(Lit.int .u8 a).wf=true/\(Lit.int .u8 f).wf=true
theorem ahO{H:Type}{enc:TypeId×Value->H}{w:World}{base:Nat}{m:Nat->Bool}{o:Bool}{fuel:Nat}{cs:List Value}{x:DataW H×List MemPlace}(h:DataW.trod enc prog w base m o fuel 22 cs=some x):aoV cs:=by
 obtain⟨hl,n,a⟩:=ad0 underlying22 h;rw[agi]at hl;match cs,hl with
 | [c0,c1,c2],_=>
  obtain⟨z,f⟩:=a 0 (by decide);simp only[ayy,ax2,ayp,Iz,axb,azg,Nat.reduceMul,awq,ayk,ayj,ay8]at f;obtain⟨a0,g,w0⟩:=JL f;simp only[aym,aAp]at g;subst g;obtain⟨A,i⟩:=a 1 (by decide);simp only[ayy,ax2,ayp,Iz,axb,azg,Nat.reduceMul,awq,ayk,ayj,ay8]at i;obtain⟨s,j,t⟩:=JL i;simp only[aym,aAp]at j;subst j;obtain⟨C,k⟩:=a 2 (by decide);simp only[ayy,ax2,ayp,Iz,axb,azg,Nat.reduceMul,awq,ayk,ayj,ay8]at k;obtain⟨u,l,y⟩:=JL k;simp only[aym,aAp]at l;subst l;exact⟨a0,s,u,rfl,w0,t,y⟩
theorem O8:prog.cellsOf 49=1:=by kernel_rfl
def ap7(cs:List Value):Prop:= ∃(a0:Int),cs= [.int .u32 a0]/\(Lit.int .u32 a0).wf=true
theorem QB{H:Type}{enc:TypeId×Value->H}{w:World}{base:Nat}{a:Nat->Bool}{f:Bool}{fuel:Nat}{cs:List Value}{x:DataW H×List MemPlace}(h:DataW.trod enc prog w base a f fuel 49 cs=some x):ap7 cs:=by
 obtain⟨n,rfl,_,hw⟩:=DataW.trod_int underlying49 h;exact⟨n,rfl,hw⟩
theorem Pf:prog.cellsOf 51=2:=by kernel_rfl
def z7(cs:List Value):Prop:= ∃(a0:Int) (a:Int),cs= [.int .u32 a0,.int .u32 a]/\(Lit.int .u32 a0).wf=true/\(Lit.int .u32 a).wf=true
theorem agP{H:Type}{enc:TypeId×Value->H}{w:World}{base:Nat}{k:Nat->Bool}{l:Bool}{fuel:Nat}{cs:List Value}{x:DataW H×List MemPlace}(h:DataW.trod enc prog w base k l fuel 51 cs=some x):z7 cs:=by
 obtain⟨hl,n,a⟩:=adI underlying51 h;rw[Pf]at hl;match cs,hl with
 | [c0,c1],_=>
  obtain⟨s,f⟩:=a 0 _ rfl;simp only[ayy,ax2,ayp,O8,axb,azg,Nat.reduceMul,awq,ayk,ayj,ay8]at f;obtain⟨a0,g,w0⟩:=QB f;simp only[aym,aAp]at g;subst g;obtain⟨t,i⟩:=a 1 _ rfl;simp only[ayy,ax2,ayp,O8,axb,azg,Nat.reduceMul,awq,ayk,ayj,ay8]at i;obtain⟨m,j,o⟩:=QB i;simp only[aym,aAp]at j;subst j;exact⟨a0,m,rfl,w0,o⟩
theorem aix{H:Type}{enc:TypeId×Value->H}{w:World}{base:Nat}{a:Nat->Bool}{f:Bool}{fuel:Nat}{cs:List Value}{x:DataW H×List MemPlace}(h:DataW.trod enc prog w base a f fuel 41 cs=some x): ∃(a0:Value),cs= [a0]/\Dq w 2 z7 a0:=by
 exact ahW z7 underlying41 Pf (by decide) (λ_ _ _ h=>agP h) h
end
def pH:(t:Ty)->t.den->Prop
 | .int k,x=>(Lit.int k x).wf=true| .flt k,x=>(Lit.float k x).wf=true| .str,s=>s.size<=maxLen
 | .pair a b,x=>pH a x.1/\pH b x.2| .sl e,l=>l.length<=maxLen/\ ∀x∈l,pH e x|_,_=>True
theorem aen(a:Ty)(l:List a.den):castL a a l=some l:=by
 unfold castL;have:tyeq a a=true:=by
  induction a with
  |int k=>cases k<;>rfl
  |flt k=>cases k<;>rfl
  |pair x y f g=>
   simp only[tyeq];rw[f ([]:List x.den)];exact g ([]:List y.den)
  |sl x i=>simp only[tyeq];exact i []
  |_=>rfl
 split
 ·rfl
 ·rename_i h;rw[this]at h;cases h
theorem ah9(k:IntKind):oi k k=true:=by cases k<;>rfl
theorem aih(k:FloatKind):tL k k=true:=by cases k<;>rfl
theorem ajP: ∀(t:Ty) (x:t.den),dec t (enc t x)=some x:=by
 intro t;induction t with
 |pair a b f g=>
  intro x;simp only[enc,dec,bI];have h1:=lu a x.1;rw[aw7 (by omega),avr (by omega),aya (by omega),ax1 (by omega),awv,f,g]
 |int k=>intro x;simp only[enc,dec,ah9,cnd]
 |flt k=>intro x;simp only[enc,dec,aih,cnd]
 |sl e h=>intro l;simp only[enc,dec];exact aen e l
 |_=>intro x;rfl
theorem WW{w:World}{X:Nat->Nat->Prop}{t:Ty}{x:t.den}{vs:List Value}(h:aE (λ_=>none) X w (enc t x) vs):TR w X t x vs:=gZ (ajP t x) h
theorem ag7{w:World}{C:Nat}{E:List Value->Prop}{e:Ty}(o:C=e.n)(s: ∀cs,E cs-> ∃x:e.den,TR w (λ_ _=>False) e x cs/\pH e x){v:Value}(h:Dq w C E v):
  ∃l:List e.den,LR w (λ_ _=>False) e.n (TR w (λ_ _=>False) e) l v/\l.length<=maxLen/\ ∀x∈l,pH e x:=by
 subst o;rcases h with rfl|⟨ad,len,cap,rfl,t,u,g⟩
 ·exact⟨[],.inl ⟨rfl,rfl⟩,awc _,λx a=>by cases a⟩
 ·have k: ∀i:Fin len,∃x:e.den,(∃cs:List Value,cs.length=e.n/\(∀j,j<e.n->w.cell? ⟨ad.block,ad.off+(i.1*e.n+j),none⟩=some (cs.getD j undef))/\TR w (λ_ _=>False) e x cs)/\pH e x:=by
   intro i;obtain⟨cs,h1,h2,_,_,h5⟩:=g i.1 i.2;obtain⟨x,h6,h7⟩:=s cs h2;exact⟨x,⟨cs,h1,h5,h6⟩,h7⟩
  let f:Fin len->e.den:=λi=>Classical.choose (k i)
  have m: ∀i,_:=λi=>Classical.choose_spec (k i)
  refine⟨List.ofFn f,.inr ⟨ad,cap,by rw[azr],by rw[azr];exact t,u,λy=> ?_,λi hi=> ?_,λp _ _ h=>h⟩,by rw[azr];omega,λx a=> ?_⟩
  ·have:0<len:=by
    have:=List.length_pos_iff.2 y;rwa [azr]at this
   obtain⟨_,_,_,h3,_⟩:=g 0 this;exact h3
  ·rw[azr]at hi
   obtain⟨cs,h1,h2,h3⟩:=(m ⟨i,hi⟩).1;refine⟨cs,h1,h2,?_⟩;rw[List.getElem_ofFn];exact h3
  ·obtain⟨i,rfl⟩:=(List.mem_ofFn.1 a)
   exact(m i).2
theorem af4{f:FuncId}{p:Ty}{ax:List (Option Nat)}{pre:Option (p.den->Prop)}{F:p.den->Bool}(h:dY prog bC f { p:=p,ax:=ax,r:= .bool,ao:= .one none,pre:=pre,fresh:=none,F:=F})
  (x:p.den) (w:World) (args:Array Value) (cs:List Value) (hH:bC.H w) (a: ∀q,pre=some q->q x) (g:ec ax args.toList cs) (i:TR w (λ_ _=>False) p x cs) (j:F x=true):
  Calls prog f args w λe w'=>e= .returned (.bool true)/\Below w.heap.size w w':=by
 refine(h x w (λ_ _=>False) args cs hH (λ_ _ h=>h.elim) a g i).mono λe w' ⟨v,k,hb,cs',h1,_,h2⟩=>⟨?_,hb⟩
 rw[k];have h1:cs'= [.bool (F x)]:=h1;rw[h1,j]at h2;obtain⟨l,h3,h4⟩:=h2;cases h3;rfl
theorem amo{w:World}(cs:List Value)(h:z7 cs): ∃x:aS.den,TR w (λ_ _=>False) aS x cs/\pH aS x:=by
 obtain⟨a0,a,rfl,w0,f⟩:=h;exact⟨(a0,a),WW ⟨rfl,rfl,trivial⟩,⟨w0,f⟩⟩
theorem RD(x:wP.p.den)(h:pH wP.p x): ∀q,wP.pre=some q->q x:=by
 intro q f;cases f;simp only[wP,pH,Lit.wf,au0,adv]at h;simp only[Mo,kO,cr];try simp only[show u8.min=0 from rfl,show u8.max=255 from rfl,show u16.min=0 from rfl,show u16.max=65535 from rfl,show u32.min=0 from rfl,show u32.max=4294967295 from rfl,show u64.min=0 from rfl,show u64.max=18446744073709551615 from rfl,show i64.min= -9223372036854775808 from rfl,show i64.max=9223372036854775807 from rfl]at h
 repeat' (first|exact trivial|apply And.intro)
 all_goals first|omega|(intro v a;first|exact h.2.2.2 v a|exact h.2.2 v a|exact h.2 v a|exact h.1.2 v a|exact h.2.1.2 v a|exact h.2.2.1.2 v a|exact h.2.2.2.2 v a)
theorem adO(a:Int)(f:Int)(g:Int)(h:Value)(w:World)(k:(Lit.int .u8 a).wf=true)(l:(Lit.int .u8 f).wf=true)(m:(Lit.int .u8 g).wf=true)(o:Dq w 2 z7 h)(s:bC.H w):
  Calls prog 5 #[.agg #[.int .u8 a,.int .u8 f,.int .u8 g],h] w λe w'=>e= .returned (.bool true)/\Below w.heap.size w w':=by
 obtain⟨i,t,j⟩:=ag7 (e:=aS) rfl amo o;exact af4 ok5 ((a,f,g),i) w _ [.int .u8 a,.int .u8 f,.int .u8 g,h] s (RD _ ⟨⟨k,l,m⟩,j⟩) ⟨[.int .u8 a,.int .u8 f,.int .u8 g],_,rfl,rfl,rfl,⟨_,rfl,rfl⟩⟩ (WW ⟨rfl,rfl,rfl,⟨t,trivial⟩,trivial⟩) (ao4 ((a,f,g),i) (RD ((a,f,g),i) ⟨⟨k,l,m⟩,j⟩ _ rfl) j.1)
end Go.Proofs.YtcfinjcapeemeaaGreatDoor.S
