/- Part of the proof that the law TopFull holds for every input. -/
import Derived.Test.YtcfinjcapeemeaaGreatDoorFQ9
set_option linter.all false
set_option maxRecDepth 100000
set_option maxHeartbeats 4000000
namespace Go.Proofs.YtcfinjcapeemeaaGreatDoor.S
open Go Go.RowKit IntKind Go.Proofs.Tryz
def eR(c:af):List az:=
 (List.range 32).flatMap λf:Nat=>(bif dO (c,f,1)then[((f:Int),(1:Int),(-1:Int),(0:Int),false)]else[])++(bif dO (c,f,2)then[((f:Int),(2:Int),(-1:Int),(0:Int),false)]else[])
def Ns(x:af):az:=(x.1,x.2,-1,0,false)
theorem atI(has:Int->Int->Bool)(k:Nat):lsP has (2*(k+1))=lsP has (2*k)++((bif has k 1 then[((k:Int),1)]else[])++(bif has k 2 then[((k:Int),2)]else[])):=by
 grind [lsP]
theorem Pe(c:af): ∀k:Nat,(lsP (λf d=>dO (c,f,d)) (2*k)).map Ns=(List.range k).flatMap λf:Nat=>(bif dO (c,f,1)then[((f:Int),(1:Int),(-1:Int),(0:Int),false)]else[])++(bif dO (c,f,2)then[((f:Int),(2:Int),(-1:Int),(0:Int),false)]else[])
 |0=>rfl
 |k+1=>by
  rw[atI,ayl,Pe c k,axt,axo,ayf,List.flatMap_nil,aws,ayl];congr 2<;>(cases dO _<;>rfl)
theorem aeR{w:World}{X:Nat->Nat->Prop}{x:af}{args:Array Value}{cs:List Value}(f:ec [some 2] args.toList cs)(g:TR w X aS x cs):args= #[.agg #[.int .u32 x.1,.int .u32 x.2]]:=by
 obtain⟨i,v2,rfl,h1,h2⟩:=g;subst h1;subst h2;revert f
 cases hl:args.toList with
 |nil=>intro h;exact h.elim
 |cons a r=>
  rintro⟨j,cs',h1,h2,h3,h4⟩
  cases r with
  |nil=>
   have h4:cs'= []:=h4;grind
  |cons _ _=>exact h4.elim
theorem agV{G:Gd}(g:dY prog G 153 EA)(x:af)(f d:Int)(w:World)(h:G.H w):Calls prog 153 #[.agg #[.int .u32 x.1,.int .u32 x.2],.int .i64 f,.int .i64 d] w λe w'=>e= .returned (.bool (dO (x,f,d)))/\Below w.heap.size w w':=by
 refine(g (x,f,d) w (λ_ _=>False) _ [.int .u32 x.1,.int .u32 x.2,.int .i64 f,.int .i64 d] h (λ_ _ h=>h.elim) (λq h=>by cases h) (show ec [some 2,none,none] [.agg #[.int .u32 x.1,.int .u32 x.2],.int .i64 f,.int .i64 d] _ from⟨[.int .u32 x.1,.int .u32 x.2],[.int .i64 f,.int .i64 d],rfl,rfl,rfl,[.int .i64 d],rfl,[],rfl,rfl⟩) ⟨[.int .u32 x.1,.int .u32 x.2],[.int .i64 f,.int .i64 d],rfl,⟨_,_,rfl,rfl,rfl⟩,⟨_,_,rfl,rfl,rfl⟩⟩).mono ?_;rintro e w' ⟨v,rfl,j,cs,a,_,i⟩
 have a:cs= [.bool (dO (x,f,d))]:=a;obtain⟨cs',h1,h2⟩:=i;simp_all
theorem QM: ∀(L:List (af)) (i j:Nat) (hi:i<L.length) (_:j<5),(L.flatMap ka)[i*5+j]? =(ka L[i])[j]?
 |x::L,0,j,_,a=>by
  rw[ayf,aw9 (by show 0*5+j<5;omega)];simp
 |x::L,i+1,j,hi,a=>by
  have e:(i+1)*5+j=(ka x).length+(i*5+j):=by show _=5+_;omega
  rw[ayf,e,ayq (aBj _ _),Nat.add_sub_cancel_left];exact QM L i j (by simp_all) a
theorem ake{W:World}{X:Nat->Nat->Prop}{b:Nat}{v:Value}{L:List (af)}(hX: ∀c p,X c p->c<b)(h:W.ownsRow b 93 5 v L.length (L.flatMap ka)):LR W X 5 (TR W X dT) (L.map Ns) v:=by
 obtain⟨_,⟨rfl,h0⟩|⟨g,cap,f,rfl,hb,k,h1,h2,h3,h4⟩⟩:=h
 ·exact .inl ⟨by simp_all,rfl⟩
 ·refine .inr ⟨⟨g,0,none⟩,cap,by simp_all,by simp_all,h2,λ_=>rfl,λi hi=> ?_,λp _ _ l=>absurd (hX g p l) (by omega)⟩
  rw[ax5]at hi;refine⟨ka L[i],rfl,λj a=> ?_,?_⟩
  ·have h5:=QM L i j hi a
   have h6:j<(ka L[i]).length:=a;rw[<- h4,List.getElem?_take_of_lt (by omega),avc h6]at h5;have:W.cell? ⟨g,0+(i*5+j),none⟩=f.toList[i*5+j]? :=by simp[World.cell?,k]
   rw[this,h5,au9,avc h6];rfl
  ·rw[List.getElem_map]
   exact⟨_,_,rfl,rfl,_,_,rfl,rfl,_,_,rfl,rfl,_,_,rfl,rfl,rfl⟩
theorem amI{G:Gd}(a:dY prog G 153 EA):dY prog G 154 { p:=aS,ax:= [some 2],r:=da,ao:=(ah.one (none)),pre:=none,fresh:=none,F:=λx=>eR x}:=by
 intro x w X args cs hH hX _ g i;obtain rfl:=aeR g i;refine(ahN x.1 x.2 (λf d=>dO (x,f,d)) rfl (λf d w h=>agV a x f d w h) w hH (λm o h1 h2=> ?_)).mono ?_
 ·exact G.mono ⟨h2.os,h2.tape,h2.size,λb hb=>⟨G.low h1 hb,h2.block b (G.low hH hb)⟩⟩ h1
 ·rintro e s ⟨v,rfl,j,_,k⟩
  have l:=by
   have:=ake (λc p h=>au5 (hX c p h).1 (aBj w.heap.size 3)) j;rwa [show(lsP (λf d=>dO (x,f,d)) 64).map Ns=eR x from Pe x 32]at this
  exact⟨v,rfl,k,[v],⟨v,rfl,l⟩,λT h=>(by cases h),[],rfl,rfl⟩
theorem scan{K ρ:Type}{st:K->Int->an K Int ρ}{k:K}{N:Nat}{r:ρ}{br:Nat->Bool}(a:N<=maxLen)
  (h: ∀i:Nat,i<N->st k i=bif br i then .next k (i64.wrap (i+1))else .ret r) (hb:st k N= .brk k N) {fuel:Nat} (f:N<fuel):
  bj st k fuel 0=if∀i,i<N->br i=true then none else some r:=by
 rw[show 0=((0:Nat):Int)from rfl];rw[ret_row (λi=>(i:Int)) (λi=>if br i=true then none else some r) N (λi hi=>by
  cases hg:br i with
  |true=>exact⟨k,by rw[h i hi,hg,auw,pQ hi a]⟩
  |false=>simp_all) hb f]
 by_cases hg: ∀i,i<N->br i=true
 ·simp_all
 ·rw[au6 hg]
  cases hq:(List.range N).findSome? (λi=>if br i=true then none else some r)with
  |none=>
   rw[List.findSome?_eq_none_iff]at hq;refine absurd (λi hi=> ?_) hg;have:=hq i (List.mem_range.2 hi);split at this
   ·assumption
   ·cases this
  |some q=>
   obtain⟨i,_,hi⟩:=az6 hq;split at hi
   ·cases hi
   ·exact hi.symm▸rfl
theorem or2(a b:Int):qA [a,b]=if a=0 then b else a:=by
 unfold qA UR;have hm:Nat.succ (Db (0,[a,b],(([a,b].length:Nat):Int)) 0)=3:=rfl;have f:vd (0,[a,b],(([a,b].length:Nat):Int)) 0=bif a !=0 then .ret a else .next (0,[a,b],(([a,b].length:Nat):Int)) 1:=rfl
 have g:vd (0,[a,b],(([a,b].length:Nat):Int)) 1=bif b !=0 then .ret b else .next (0,[a,b],(([a,b].length:Nat):Int)) 2:=rfl
 grind [vd,bj,dJ]
theorem alH(a b:Int):kN (a,b)=if a<b then -1 else if a>b then 1 else 0:=by
 grind [kN,As]
theorem lex_lt(a b c d:Int):qA [kN (a,b),kN (c,d)]=(if a<b then -1 else if a>b then 1 else if c<d then -1 else if c>d then 1 else 0):=by
 grind [or2,alH]
def ck(f d:Int):Int:=2*f+d
theorem nm{a b c d:Int}(f:c=1\/c=2)(g:d=1\/d=2):(qA [kN (a,b),kN (c,d)]<0↔ck a c<ck b d)/\(qA [kN (a,b),kN (c,d)]=0↔ck a c=ck b d):=by
 grind [ck,lex_lt]
def eM{α:Type}(k:α->Int)(l:List α):Prop:=l.Pairwise (λa b=>k a<k b)
theorem Ck{α:Type} [Inhabited α]{k:α->Int}{l:List α}:eM k l↔ ∀i:Nat,0<i->i<l.length->k (aa l (i-1))<k (aa l i):=by
 constructor
 ·intro h i h0 hi
  have e:(i-1)=((i-1:Nat):Int):=by omega
  rw[e,bH l (i-1) (by omega),bH l i hi];exact List.pairwise_iff_getElem.1 h (i-1) i (by omega) hi (by omega)
 ·intro h
  refine List.pairwise_iff_getElem.2 λi j hi a f=> ?_
  obtain⟨d,rfl⟩: ∃d,j=i+1+d:=⟨j - (i+1),by omega⟩
  clear f;induction d with
  |zero=>
   have:=h (i+1) (by omega) a;rw[show(((i+1:Nat):Int)-1)=i by omega,bH l i hi,bH l (i+1) a]at this;exact this
  |succ d g=>
   have h1:=g (by omega);have:=h (i+1+(d+1)) (by omega) a;rw[show(((i+1+(d+1):Nat):Int)-1)=((i+1+d:Nat):Int)by omega,bH l (i+1+d) (by omega),bH l _ a]at this;exact Int.lt_trans h1 this
theorem RK{α:Type}{k:α->Int}: ∀{l:List α} {a:Int},eM k l->(∀x∈l,a<=k x/\k x<=64)->l.length<=if l= []then 0 else 65-a
 | [],_,_,_=>by simp
 |x::l,a,h,hb=>by
  have h1:=hb x (by simp);have g:=RK (List.Pairwise.of_cons h) (λy f=>⟨(List.pairwise_cons.1 h).1 y f,(hb y (by simp_all)).2⟩);grind
theorem K6{α:Type}{k:α->Int}{l:List α}(h:eM k l)(hb: ∀x∈l,1<=k x/\k x<=64):l.length<=64:=by
 have:=RK h hb;omega
def cL(fl f d:Int):Prop:=d=1/\0<=f/\f<=fl-2\/d=2/\1<=f/\f<=fl-1
theorem Bn{b:ab}(hl:b.2.2.2.2.2.2.2.length<=maxLen)(f d:Int):nY (b,f,d)=true↔aK b/\cL b.1 f d:=by
 unfold nY;rw[au0,awt,kB b hl,jS];constructor
 ·rintro⟨a,h⟩
  refine⟨a,?_⟩;have h1:=a.fl;unfold Fl at h;simp only[xA]at h;rw[aA (by omega) (by omega),aA (by omega) (by omega)]at h;simp only[av9,au0,awt,adv]at h;unfold cL;omega
 ·rintro⟨a,h⟩
  refine⟨a,?_⟩;have h1:=a.fl;unfold Fl;simp only[xA];rw[aA (by omega) (by omega),aA (by omega) (by omega)];simp only[av9,au0,awt,adv];unfold cL at h;omega
theorem cL.key{fl f d:Int}(h:cL fl f d)(a:fl<=32):(d=1\/d=2)/\1<=ck f d/\ck f d<=64:=by grind [cL,ck]
def ek(e:az):Int:=ck e.1 e.2.1
def lT(b:ab)(e:az):Prop:=cL b.1 e.1 e.2.1/\ -2<=e.2.2.1/\e.2.2.1<b.2.2.2.2.2.2.2.length/\0<=e.2.2.2.1/\e.2.2.2.1<=255
theorem O0{b:ab}(a:aK b)(hl:b.2.2.2.2.2.2.2.length<=maxLen)(e:az):lK (b,e)=true↔lT b e:=by
 simp_all [lK,lT,Bn,aBw]
structure aT (b:ab) (m:ak):Prop where
 bB:aK b
 l1:m.1.length=b.2.2.2.2.2.2.2.length
 l2:m.2.1.length=b.2.2.2.2.2.2.2.length
 l3:m.2.2.1.length=b.2.2.2.2.2.2.2.length
 ph: ∀p∈m.1,0<=p/\p<=4
 ft: ∀e∈m.2.2.2,lT b e
 fg:eM ek m.2.2.2
theorem lp{α:Type} [Inhabited α]{l:List α}{p:α->Prop}:(∀a∈l,p a)↔ ∀i:Nat,i<l.length->p (aa l i):=by
 grind [bH,List.getElem_of_mem]
theorem mZ{b:ab}{m:ak}(hl:b.2.2.2.2.2.2.2.length<=maxLen)(h1:m.1.length<=maxLen)(h2:m.2.2.2.length<=maxLen):cJ (b,m)=true↔aT b m:=by
 have s:D3 (m.1,(m.1.length:Int)) 0=if∀i:Nat,i<m.1.length->(!(decide (aa m.1 (i:Int)<0)||decide (aa m.1 (i:Int)>4)))=true then none else some false:=
  scan h1 (λi hi=>by
   unfold rX;grind) (by simp_all [rX]) (by simp_all [C2])
 have t:Ua (m.2.2.2,(m.2.2.2.length:Int),b,m) 0=if∀i:Nat,i<m.2.2.2.length->(!((!(lK (b,aa m.2.2.2 (i:Int))))||(decide ((i:Int)>0)&&decide (lL (aa m.2.2.2 (i64.wrap ((i:Int)-1)),aa m.2.2.2 (i:Int))>=0))))=true then none else some false:=
  scan h2 (λi hi=>by
   unfold nf;grind) (by simp_all [nf]) (by simp_all [B2])
 have u:ca b=0↔aK b:=by rw[kB b hl,jS]
 have key:cJ (b,m)=true↔(ca b=0/\m.1.length=b.2.2.2.2.2.2.2.length/\m.2.1.length=b.2.2.2.2.2.2.2.length/\m.2.2.1.length=b.2.2.2.2.2.2.2.length)/\(∀i:Nat,i<m.1.length->(!(decide (aa m.1 (i:Int)<0)||decide (aa m.1 (i:Int)>4)))=true)/\
   (∀i:Nat,i<m.2.2.2.length->(!((!(lK (b,aa m.2.2.2 (i:Int))))||(decide ((i:Int)>0)&&decide (lL (aa m.2.2.2 (i64.wrap ((i:Int)-1)),aa m.2.2.2 (i:Int))>=0))))=true):=by
  unfold cJ;simp only;rw[s,t];cases hc:((((ca b) !=(0:Int))||((m.1.length:Int) !=(b.2.2.2.2.2.2.2.length:Int))||((m.2.1.length:Int) !=(b.2.2.2.2.2.2.2.length:Int)))||((m.2.2.1.length:Int) !=(b.2.2.2.2.2.2.2.length:Int)))with
  |true=>
   grind
  |false=>
   rw[aur];simp only[auv,au8,axf]at hc;obtain⟨⟨⟨w,g⟩,j⟩,k⟩:=hc;by_cases p1: ∀i:Nat,i<m.1.length->(!(decide (aa m.1 (i:Int)<0)||decide (aa m.1 (i:Int)>4)))=true
   ·rw[ava p1]
    by_cases p2: ∀i:Nat,i<m.2.2.2.length->(!((!(lK (b,aa m.2.2.2 (i:Int))))||(decide ((i:Int)>0)&&decide (lL (aa m.2.2.2 (i64.wrap ((i:Int)-1)),aa m.2.2.2 (i:Int))>=0))))=true
    ·rw[ava p2];exact⟨λ_=>⟨⟨w,g,j,k⟩,p1,p2⟩,λ_=>rfl⟩
    ·rw[au6 p2];exact⟨λh=>(by cases h),λh=>absurd h.2.2 p2⟩
   ·rw[au6 p1];exact⟨λh=>(by cases h),λh=>absurd h.2.1 p1⟩
 rw[key,u];constructor
 ·rintro⟨⟨a,g,j,k⟩,p1,p2⟩
  have f:=λi hi=>by
   have:=p2 i hi;rw[avm,auv,ave]at this;exact(O0 a hl _).1 this.1
  refine⟨a,g,j,k,lp.2 λi hi=> ?_,lp.2 f,Ck.2 λi h0 hi=> ?_⟩
  ·have:=p1 i hi
   simp only[avm,auv,aut]at this;omega
  ·have:=p2 i hi
   rw[avm,auv]at this;have h3:=this.2;rw[aA (by omega) (by unfold maxLen at h2;omega),show decide ((i:Int)>0)=true from by simp;omega,axs,aut]at h3;have o:=((f i hi).1.key a.fl.2).1;have l:=((f (i-1) (by omega)).1.key a.fl.2).1;rw[show((i-1:Nat):Int)=(i:Int)-1 by omega]at l;exact(nm l o).1.1 (by
    have h4:=h3;unfold lL at h4;simp only at h4;omega)
 ·rintro⟨a,g,j,k,p1,p2,p3⟩
  have f:=lp.1 p2;refine⟨⟨a,g,j,k⟩,λi hi=> ?_,λi hi=> ?_⟩
  ·have:=lp.1 p1 i hi
   simp only[avm,auv,aut];omega
  ·rw[avm,auv,ave]
   refine⟨(O0 a hl _).2 (f i hi),?_⟩;by_cases h0:(i:Int)>0
   ·rw[aA (by omega) (by unfold maxLen at h2;omega)]
    have o:=((f i hi).1.key a.fl.2).1;have l:=((f (i-1) (by omega)).1.key a.fl.2).1;rw[show((i-1:Nat):Int)=(i:Int)-1 by omega]at l;have h4:=(nm l o).1.2 (Ck.1 p3 i (by omega) hi);rw[avz,aut (p:=lL _>=0)];right;unfold lL;simp only;omega
   ·rw[show decide ((i:Int)>0)=false from axg h0]
    rfl
theorem aT.len{b:ab}{m:ak}(h:aT b m):m.2.2.2.length<=64:=K6 h.fg λe a=>((h.ft e a).1.key h.bB.fl.2).2
theorem fO{K X ρ:Type}{step:K->X->an K X ρ}{k:K}{n:Nat}(I:Nat->X->Prop)(hs: ∀i x,i<n->I i x-> ∃a,step k x= .next k a/\I (i+1) a)(g: ∀x,I n x->step k x= .brk k x):
  ∀(m:Nat) (x:X),n<m->I 0 x->I n (endOf step k m x)/\bj step k m x=none:=by
 have key: ∀(m i:Nat) (x:X),i<=n->n-i<m->I i x->I n (endOf step k m x)/\bj step k m x=none:=by
  intro m;induction m with
  |zero=>omega
  |succ m h=>
   grind [endOf,bj]
 exact λm x hm f=>key m 0 x (awc _) (by omega) f
def snapS(b:ab):List (aP)->ByteArray->ByteArray
 | [],s=>s|r::l,s=>snapS b l (bw (av s++av (iR (b,r)).1))
abbrev aI:=aP
theorem B4(x:ab×aI):(iR x).1.size<=6:=by
 unfold iR;cases iW x with
 |true=>simp
 |false=>simp
theorem G6{b:ab}{m:ak}(h1:m.1.length<=maxLen)(h2:m.2.2.2.length<=maxLen):(ff (b,m)).length<=3*(m.1.length+m.2.2.2.length):=by
 unfold ff;simp only;cases cJ (b,m)with
 |false=>exact awc _
 |true=>
  simp only[avw,aur];unfold IH Dy;have a:=fO (step:=kG) (k:=((m.1.length:Int),m)) (n:=m.1.length) (λi y=>y.1=(i:Int)/\y.2.length=3*i)
   (λi y hi f=>by
    obtain⟨j,y⟩:=y;obtain⟨rfl,h⟩:j=(i:Int)/\y.length=3*i:=f;have g:(i:Int)<(m.1.length:Int):=by omega
    have l:=cA (auz i) g h1;unfold kG;simp only[g,avn,auw,l];refine⟨_,rfl,rfl,?_⟩;unfold BZ;simp only[vX,au1,avi,avk,h];omega)
   (λy f=>by
    simp_all [kG]) (Nat.succ (mj ((m.1.length:Int),m) ((0:Int),[]))) ((0:Int),[]) (by unfold mj;simp) ⟨rfl,rfl⟩
  have a:=a.1.2;revert a
  generalize(endOf kG ((m.1.length:Int),m) (Nat.succ (mj ((m.1.length:Int),m) ((0:Int),[]))) ((0:Int),[])).2=l0;intro a;have o:=fO (step:=oB) (k:=(m.2.2.2,(m.2.2.2.length:Int))) (n:=m.2.2.2.length) (λi y=>y.1=(i:Int)/\y.2.length=3*m.1.length+3*i)
   (λi y hi f=>by
    obtain⟨j,y⟩:=y;obtain⟨rfl,h⟩:j=(i:Int)/\y.length=3*m.1.length+3*i:=f;have g:(i:Int)<(m.2.2.2.length:Int):=by omega
    have l:=cA (auz i) g h2;unfold oB;simp only[g,avn,auw,l];grind [BL,vW,List.length_append,List.length_cons,List.length_nil])
   (λy f=>by
    simp_all [oB]) (Nat.succ (rO (m.2.2.2,(m.2.2.2.length:Int)) ((0:Int),l0))) ((0:Int),l0) (by unfold rO;simp) ⟨rfl,by simpa using a⟩
  omega
theorem OL(b:ab)(r:aI): ∀(l:List aI) (s:ByteArray),snapS b (l++ [r]) s=bw (av (snapS b l s)++av (iR (b,r)).1)
 | [],s=>rfl
 |a::l,s=>OL b r l _
theorem GJ(s:ByteArray):Lib.strCells s=(av s).map (Value.int .u8):=by
 simp_all [Lib.strCells,av]
theorem afs{w:World}{X:Nat->Nat->Prop}{b:ab}{cs:List Value}(h:TR w X aD b cs): ∃v,cs= [.int .i64 b.1,.int .i64 b.2.1,.int .i64 b.2.2.1,.int .i64 b.2.2.2.1,.float .f64 b.2.2.2.2.1,.float .f64 b.2.2.2.2.2.1,.float .f64 b.2.2.2.2.2.2.1,v]:=by
 obtain⟨_,_,rfl,h0,_,_,rfl,h1,_,_,rfl,h2,_,_,rfl,h3,_,_,rfl,h4,_,_,rfl,h5,_,_,rfl,h6,v,rfl,_⟩:=h;simp_all [TR]
theorem afv{w:World}{X:Nat->Nat->Prop}{m:ak}{cs:List Value}(h:TR w X bN m cs): ∃m0 a m2 m3,cs= [m0,a,m2,m3]:=by
 obtain⟨_,_,rfl,⟨m0,rfl,_⟩,_,_,rfl,⟨a,rfl,_⟩,_,_,rfl,⟨m2,rfl,_⟩,m3,rfl,_⟩:=h;simp_all
theorem rH{w:World}{X:Nat->Nat->Prop}{s:bO}{cs:List Value}:TR w X eo s cs↔cs= [.string s.1.1,.string s.1.2,.int .i64 s.2]:=by
 simp_all [TR]
theorem adL{bs f g:List Value}{v:Value}{args:Array Value}{cs:List Value}(o:ec [some 8,some 3,some 4,none] args.toList cs)(s:cs=bs++(f++(g++ [v])))(hb:bs.length=8)(hs:f.length=3)(hm:g.length=4):args= #[.agg bs.toArray,.agg f.toArray,.agg g.toArray,v]:=by
 revert o
 rcases hl:args.toList with _|⟨J,_|⟨L,_|⟨M,_|⟨N,_|⟨O,r⟩⟩⟩⟩⟩
 ·intro h;exact h.elim
 ·rintro⟨a,cs',_,_,_,h⟩;exact h.elim
 ·rintro⟨a,cs',_,_,_,i,j,_,_,_,h⟩;exact h.elim
 ·rintro⟨a,cs',_,_,_,i,j,_,_,_,k,l,_,_,_,h⟩;exact h.elim
 ·rintro⟨a,cs',t,n1,m,i,j,u,w,x,k,l,y,z,A,C,I,h⟩
  have h:=h;rw[s]at m;obtain⟨d1,p1⟩:=axl m (by rw[hb,n1]);rw[x]at p1;obtain⟨d2,p2⟩:=axl p1 (by rw[hs,w]);rw[A]at p2;obtain⟨d3,p3⟩:=axl p2 (by rw[hm,z]);rw[I]at p3;cases p3;rw[d1,d2,d3];exact ay9 (by rw[hl,t,u,y])
 ·rintro⟨a,cs',_,_,_,i,j,_,_,_,k,l,_,_,_,C,_,h⟩;exact h.elim
theorem ai8{n0:Nat}{W:World}{X:Nat->Nat->Prop}{l:List aI}{v:Value}(ht:LR W X 5 (TR W X jC) l v)(g:ke n0 213 W (.bh jC .no l) v):nR n0 W v l:=by
 rcases ht with⟨h1,h2⟩|⟨a,cap,rfl,h2,h3,h4,h5⟩
 ·exact .inl ⟨h2,h1⟩
 ·rcases g with h|⟨b,n,A,us,h,hb,⟨z,f,k⟩,hs,_⟩|⟨h,_⟩
  ·cases h
  ·cases h
   have m:z=(0,0):=by
    rcases k with h|⟨_,h⟩
    ·exact h
    ·cases h
   subst m;refine .inr ⟨b,cap,us,rfl,hb,f,λi hi=> ?_⟩;obtain⟨vs,C,o,s⟩:=h5.1 i hi;obtain⟨_,_,rfl,w0,_,_,rfl,t,_,_,rfl,u,_,_,rfl,w,x⟩:=s;subst w0 t u w x;have key:=λj y=>by
    have:=o j y;rw[show 0+(i*5+j)=i*5+j from avs _,avj f]at this;exact this
   exact⟨key 0 (by decide),key 1 (by decide),key 2 (by decide),key 3 (by decide),key 4 (by decide)⟩
  ·exact absurd h (by decide)
theorem J8{n0:Nat}{fr:Option Nat}{W:World}{X:Nat->Nat->Prop}{y:bO×af}{v:Value}(h:pj n0 fr W X (ah.tup [some 3,none,none]) (Ty.pair eo (Ty.pair ae bX)) y v):v=rf y:=by
 obtain⟨cs,⟨_,_,rfl,h1,_,_,rfl,h2,h3⟩,_,vs,rfl,a⟩:=h;rw[rH]at h1;subst h1 h2 h3;rcases vs with _|⟨k,_|⟨l,_|⟨m,_|⟨o,r⟩⟩⟩⟩
 ·exact a.elim
 ·obtain⟨_,_,_,_,_,h⟩:=a;exact h.elim
 ·obtain⟨_,_,_,_,_,_,_,h⟩:=a;exact h.elim
 ·obtain⟨s,cs',f,n1,g,t,i,u,j,h⟩:=a
  have h:=h;obtain⟨d1,p1⟩:=axl g (by rw[n1];rfl);rw[i,j]at p1;cases p1;rw[f,<- d1];rfl
 ·obtain⟨_,_,_,_,_,_,_,_,_,h⟩:=a;exact h.elim
theorem al5{n0:Nat}{W:World}{X:Nat->Nat->Prop}{y:bO×af}:pj n0 none W X (ah.tup [some 3,none,none]) (Ty.pair eo (Ty.pair ae bX)) y (rf y):=
 ⟨[.string y.1.1.1,.string y.1.1.2,.int .i64 y.1.2,.int .i64 y.2.1,.int .i64 y.2.2],⟨[.string y.1.1.1,.string y.1.1.2,.int .i64 y.1.2],_,rfl,rH.2 rfl,[.int .i64 y.2.1],[.int .i64 y.2.2],rfl,rfl,rfl⟩,λT h=>(by cases h),[.agg #[.string y.1.1.1,.string y.1.1.2,.int .i64 y.1.2],.int .i64 y.2.1,.int .i64 y.2.2],rfl,[.string y.1.1.1,.string y.1.1.2,.int .i64 y.1.2],[.int .i64 y.2.1,.int .i64 y.2.2],rfl,rfl,rfl,[.int .i64 y.2.2],rfl,[],rfl,rfl⟩
theorem Pd{a h n:Int}{s:bO}:ec [none,some 3,none,none] [.int .i64 a,.agg #[.string s.1.1,.string s.1.2,.int .i64 s.2],.int .i64 h,.int .i64 n] [.int .i64 a,.string s.1.1,.string s.1.2,.int .i64 s.2,.int .i64 h,.int .i64 n]:=
 ⟨[.string s.1.1,.string s.1.2,.int .i64 s.2,.int .i64 h,.int .i64 n],rfl,[.string s.1.1,.string s.1.2,.int .i64 s.2],[.int .i64 h,.int .i64 n],rfl,rfl,rfl,[.int .i64 n],rfl,[],rfl,rfl⟩
theorem agk{G:Gd}(Q:dY prog G 54 MB)(S:dY prog G 102 zT)(T:dY prog G 132 zW)(U:dY prog G 133 Lk)
  (V:dY prog G 135 Ls) (Y:dY prog G 136 Mc) (Z:dY prog G 138 Lq):
  dY prog G 99 { p:=(Ty.pair aD (Ty.pair eo (Ty.pair bN ae))),ax:= [some 8,some 3,some 4,none],r:=(Ty.pair eo (Ty.pair ae bX)),ao:=(ah.tup [some 3,none,none]),pre:=none,fresh:=none,F:=λ(x:ab×bO×ak×Int)=>
   bif((!(cV (x.1.2.2.1,x.2.1)))||(decide (x.2.2.2<0)))||(!(cJ (x.1,x.2.2.1)))then
    (((ByteArray.mk #[],ByteArray.mk #[]),(0:Int)),(0:Int),(1:Int))
   else
    let h:=i64.wrap (1-x.2.1.2)
    let a:=tq (x.1.2.2.1,x.2.1,h,x.2.2.2)
    let c:=bif(a.2.2==0)then oa (x.1.2.2.1,a.1,h,snapS x.1 (ff (x.1,x.2.2.1)) (ByteArray.mk #[]),a.2.1)else a
    bif(c.2.2==0)then tf (x.1.2.2.1,c.1,h,c.2.1)else c}:=by
 intro x w X args cs hH hX _ h8 h9;obtain⟨b,s,m,n⟩:=x;obtain⟨bs,_,rfl,tb,ss,_,rfl,ts,ms,vn,rfl,I,tn⟩:=h9;obtain⟨v,rfl⟩:=afs tb;have a6:=rH.1 ts;obtain⟨m0,y,m2,m3,rfl⟩:=afv I;have a7:=tn;subst a6 a7;obtain rfl:=adL h8 rfl rfl rfl rfl;have fb:=lz tb;have C:=lz I;have o: ∀W,Below w.heap.size w W->G.H W:=λW f=>G.mono ⟨f.os,f.tape,f.size,λb hb=>⟨G.low hH hb,f.block b (G.low hH hb)⟩⟩ hH
 have t: ∀W,Below w.heap.size w W-> ∀b p,X b p->b<W.heap.size/\ ¬ G.gl b:=λW f b p h=>⟨au5 (hX b p h).1 f.size,(hX b p h).2⟩
 have J: ∀W,Below w.heap.size w W->TR W X aD b _:=λW f=>TR.mono (mV f) fJ _ _ _ tb
 have M: ∀W,Below w.heap.size w W->TR W X bN m _:=λW f=>TR.mono (mV f) fJ _ _ _ I
 have N:cJ (b,m)=true->m.1.length<=8/\m.2.2.2.length<=64:=λh=>by
  have hm:=(mZ fb.2.2.2.2.2.2.2.1 C.1.1 C.2.2.2.1).1 h;exact⟨hm.l1▸hm.bB.cn.2,hm.len⟩
 have hE:cJ (b,m)=true->VJ (b,m):=λh=>auq (N h).2 (by decide)
 have O:(ff (b,m)).length<=1000:=by
  cases h:cJ (b,m)with
  |true=>
   have h1:=G6 (b:=b) (m:=m) C.1.1 C.2.2.2.1;have h2:=N h;omega
  |false=>
   unfold ff;simp only[h,ayb,auw];exact awc _
 generalize P:ff (b,m)=L at O;have hw:=adM
  (acc:=λi=>snapS b (L.take i) (ByteArray.mk #[]))
  (λW f=>by
   refine(Q (b.2.2.1,s) W X _ [.int .i64 b.2.2.1,.string s.1.1,.string s.1.2,.int .i64 s.2] (o W f) (t W f) (λq h=>by cases h) (show ec [none,some 3] [.int .i64 b.2.2.1,.agg #[.string s.1.1,.string s.1.2,.int .i64 s.2]] _ from⟨[.string s.1.1,.string s.1.2,.int .i64 s.2],rfl,[.string s.1.1,.string s.1.2,.int .i64 s.2],[],rfl,rfl,rfl,rfl⟩) ⟨[.int .i64 b.2.2.1],_,rfl,rfl,rH.2 rfl⟩).mono ?_;rintro e k ⟨u,rfl,g,cs,j,_,l⟩
   have j:=j;subst j;obtain⟨cs',h1,h2⟩:=l;cases h1;exact⟨rfl,g⟩)
  (λW f=>by
   refine(S (b,m) W X _ _ (o W f) (t W f) (λq h=>by cases h) (show ec [some 8,some 4] [.agg #[.int .i64 b.1,.int .i64 b.2.1,.int .i64 b.2.2.1,.int .i64 b.2.2.2.1,.float .f64 b.2.2.2.2.1,.float .f64 b.2.2.2.2.2.1,.float .f64 b.2.2.2.2.2.2.1,v],.agg #[m0,y,m2,m3]] _ from⟨[.int .i64 b.1,.int .i64 b.2.1,.int .i64 b.2.2.1,.int .i64 b.2.2.2.1,.float .f64 b.2.2.2.2.1,.float .f64 b.2.2.2.2.2.1,.float .f64 b.2.2.2.2.2.2.1,v],[m0,y,m2,m3],rfl,rfl,rfl,[m0,y,m2,m3],[],rfl,rfl,rfl,rfl⟩) ⟨_,_,rfl,J W f,M W f⟩).mono ?_;rintro e k ⟨u,rfl,g,cs,j,_,l⟩
   have j:=j;subst j;obtain⟨cs',h1,h2⟩:=l;cases h1;exact⟨rfl,g⟩)
  O
  (λhi W f=>by
   refine(T (b,m) W X _ _ (o W f) (t W f) (λq h=>by cases h;exact hE hi) (show ec [some 8,some 4] [.agg #[.int .i64 b.1,.int .i64 b.2.1,.int .i64 b.2.2.1,.int .i64 b.2.2.2.1,.float .f64 b.2.2.2.2.1,.float .f64 b.2.2.2.2.2.1,.float .f64 b.2.2.2.2.2.2.1,v],.agg #[m0,y,m2,m3]] _ from⟨[.int .i64 b.1,.int .i64 b.2.1,.int .i64 b.2.2.1,.int .i64 b.2.2.2.1,.float .f64 b.2.2.2.2.1,.float .f64 b.2.2.2.2.2.1,.float .f64 b.2.2.2.2.2.2.1,v],[m0,y,m2,m3],rfl,rfl,rfl,[m0,y,m2,m3],[],rfl,rfl,rfl,rfl⟩) ⟨_,_,rfl,J W f,M W f⟩).mono ?_;rintro e k ⟨u,rfl,g,cs,⟨v',rfl,j⟩,z,l⟩
   obtain⟨cs',h1,h2⟩:=l;cases h1;have z:=(z _ rfl).1;have j:LR k X 5 (TR k X jC) (ff (b,m)) u:=j;have z:ke W.heap.size 213 k (.bh jC .no (ff (b,m))) u:=z;rw[P]at j z;exact⟨_,rfl,g,ai8 j z⟩)
  (λr=>B4 (b,r))
  (λr W f=>by
   refine(U (b,r) W X _ _ (o W f) (t W f) (λq h=>by cases h) (show ec [some 8,some 5] [.agg #[.int .i64 b.1,.int .i64 b.2.1,.int .i64 b.2.2.1,.int .i64 b.2.2.2.1,.float .f64 b.2.2.2.2.1,.float .f64 b.2.2.2.2.2.1,.float .f64 b.2.2.2.2.2.2.1,v],.agg #[.int .i64 r.1,.int .i64 r.2.1,.int .i64 r.2.2.1,.int .i64 r.2.2.2.1,.int .i64 r.2.2.2.2]] _ from⟨[.int .i64 b.1,.int .i64 b.2.1,.int .i64 b.2.2.1,.int .i64 b.2.2.2.1,.float .f64 b.2.2.2.2.1,.float .f64 b.2.2.2.2.2.1,.float .f64 b.2.2.2.2.2.2.1,v],[.int .i64 r.1,.int .i64 r.2.1,.int .i64 r.2.2.1,.int .i64 r.2.2.2.1,.int .i64 r.2.2.2.2],rfl,rfl,rfl,[.int .i64 r.1,.int .i64 r.2.1,.int .i64 r.2.2.1,.int .i64 r.2.2.2.1,.int .i64 r.2.2.2.2],[],rfl,rfl,rfl,rfl⟩) ⟨_,_,rfl,J W f,_,_,rfl,rfl,_,_,rfl,rfl,_,_,rfl,rfl,_,_,rfl,rfl,rfl⟩).mono ?_;rintro e k ⟨u,rfl,g,cs,⟨_,_,rfl,h1,h2⟩,_,vs,rfl,l⟩
   simp only[TR]at h1 h2;subst h1 h2;rcases vs with _|⟨a1,_|⟨a2,_|⟨a3,r⟩⟩⟩
   ·exact l.elim
   ·obtain⟨_,_,h⟩:=l;exact h.elim
   ·obtain⟨c1,q1,c2,q2,h⟩:=l
    have h:=h;subst h;cases q1;cases q2;exact⟨rfl,g⟩
   ·obtain⟨_,_,_,_,h⟩:=l;exact h.elim)
  (λh W f=>by
   refine(V (b.2.2.1,s,h,n) W X _ _ (o W f) (t W f) (λq h=>by cases h) Pd ⟨[.int .i64 b.2.2.1],_,rfl,rfl,[.string s.1.1,.string s.1.2,.int .i64 s.2],_,rfl,rH.2 rfl,[.int .i64 h],[.int .i64 n],rfl,rfl,rfl⟩).mono ?_;rintro e k ⟨u,rfl,g,A⟩
   exact⟨av2 Ending.returned (J8 A),g⟩)
  (λs h d n W f=>by
   refine(Y (b.2.2.1,s,h,d,n) W X _ _ (o W f) (t W f) (λq h=>by cases h) (show ec [none,some 3,none,none,none] [.int .i64 b.2.2.1,.agg #[.string s.1.1,.string s.1.2,.int .i64 s.2],.int .i64 h,.string d,.int .i64 n] _ from⟨[.string s.1.1,.string s.1.2,.int .i64 s.2,.int .i64 h,.string d,.int .i64 n],rfl,[.string s.1.1,.string s.1.2,.int .i64 s.2],[.int .i64 h,.string d,.int .i64 n],rfl,rfl,rfl,[.string d,.int .i64 n],rfl,[.int .i64 n],rfl,[],rfl,rfl⟩) ⟨[.int .i64 b.2.2.1],_,rfl,rfl,[.string s.1.1,.string s.1.2,.int .i64 s.2],_,rfl,rH.2 rfl,[.int .i64 h],_,rfl,rfl,[.string d],[.int .i64 n],rfl,rfl,rfl⟩).mono ?_;rintro e k ⟨u,rfl,g,A⟩
   exact⟨av2 Ending.returned (J8 A),g⟩)
  (λs h n W f=>by
   refine(Z (b.2.2.1,s,h,n) W X _ _ (o W f) (t W f) (λq h=>by cases h) Pd ⟨[.int .i64 b.2.2.1],_,rfl,rfl,[.string s.1.1,.string s.1.2,.int .i64 s.2],_,rfl,rH.2 rfl,[.int .i64 h],[.int .i64 n],rfl,rfl,rfl⟩).mono ?_;rintro e k ⟨u,rfl,g,A⟩
   exact⟨av2 Ending.returned (J8 A),g⟩)
  rfl
  (λi hi=>by
   rw[av3 hi,OL,GJ,nk _ (λx hx=>(List.mem_append.1 hx).elim (si _ x) (si _ x)),ayl,<- GJ,<- GJ])
 refine hw.mono ?_;rintro e k ⟨g,rfl⟩
 refine⟨_,rfl,g,?_⟩;dsimp only;rw[P];simp only[axy];exact al5
def iz{α:Type}(l:List α)(i:Int)(v:List α):List α:=l.take i.toNat++v++l.drop i.toNat
def iU{α:Type}(l:List α)(i:Int):List α:=l.take i.toNat++l.drop (i.toNat+1)
abbrev iD:=ay
def Fp(x:List (az)×Int×List (az)):List (az)×Unit:=(iz x.1 x.2.1 x.2.2,())
def Kr(x:List (az)×Int×List (az)):Prop:=0<=x.2.1/\x.2.1<=x.1.length/\x.2.2.length=1/\x.1.length<=100000
def FR(x:List (az)×af):List (az)×Unit:=(iU x.1 x.2.1,())
def J6(x:List (az)×af):Prop:=0<=x.2.1/\x.2.1<x.1.length/\x.2.2=x.2.1+1/\x.1.length<=100000
def acP(x:List (iD)×Int×List (iD)):List (iD)×Unit:=(iz x.1 x.2.1 x.2.2,())
def V8(x:List (iD)×Int×List (iD)):Prop:=0<=x.2.1/\x.2.1<=x.1.length/\x.2.2.length=1/\x.1.length<=100000
def MY(x:List (Int)×Int×List (Int)):List (Int)×Unit:=(iz x.1 x.2.1 x.2.2,())
def Ko(x:List (Int)×Int×List (Int)):Prop:=0<=x.2.1/\x.2.1<=x.1.length/\x.2.2.length=1/\x.1.length<=100000
def M4(x:List (Int)×af):List (Int)×Unit:=(iU x.1 x.2.1,())
def Ke(x:List (Int)×af):Prop:=0<=x.2.1/\x.2.1<x.1.length/\x.2.2=x.2.1+1/\x.1.length<=100000
def my(c:af):List az:=eR c
def kT(x:ab×bO×ak×Int):bO×af:=
 bif((!(cV (x.1.2.2.1,x.2.1)))||(decide (x.2.2.2<0)))||(!(cJ (x.1,x.2.2.1)))then
  (((ByteArray.mk #[],ByteArray.mk #[]),0),0,1)
 else
  let h:=i64.wrap (1-x.2.1.2)
  let a:=tq (x.1.2.2.1,x.2.1,h,x.2.2.2)
  let c:=bif(a.2.2==0)then oa (x.1.2.2.1,a.1,h,snapS x.1 (ff (x.1,x.2.2.1)) (ByteArray.mk #[]),a.2.1)else a
  bif(c.2.2==0)then tf (x.1.2.2.1,c.1,h,c.2.1)else c
def WS:Cv:={ p:=(Ty.pair da (Ty.pair ae da)),ax:= [none,none,none],mask:= [.v,.v,.v],sz:= [],ro:=false,vi:= [(0,true,93)],q:=Ty.unit,r:=da,ao:=(ah.one (none)),vo:= [(0,true,93)],pre:=some Kr,F:=Fp}
theorem aoa:gG prog bC 149 WS:=alr
def Y1:Cv:={ p:=(Ty.pair da (Ty.pair ae ae)),ax:= [none,none,none],mask:= [.v,.v,.v],sz:= [],ro:=false,vi:= [(0,true,93)],q:=Ty.unit,r:=da,ao:=(ah.one (none)),vo:= [(0,true,93)],pre:=some J6,F:=FR}
theorem art:gG prog bC 150 Y1:=amO
def ZT:Cv:={ p:=(Ty.pair gd (Ty.pair ae gd)),ax:= [none,none,none],mask:= [.v,.v,.v],sz:= [],ro:=false,vi:= [(0,true,191)],q:=Ty.unit,r:=gd,ao:=(ah.one (none)),vo:= [(0,true,191)],pre:=some V8,F:=acP}
theorem aoM:gG prog bC 159 ZT:=alO
def ZB:Cv:={ p:=(Ty.pair cX (Ty.pair ae cX)),ax:= [none,none,none],mask:= [.v,.v,.v],sz:= [],ro:=false,vi:= [(0,true,3)],q:=Ty.unit,r:=cX,ao:=(ah.one (none)),vo:= [(0,true,3)],pre:=some Ko,F:=MY}
theorem anI:gG prog bC 260 ZB:=alk
def Yo:Cv:={ p:=(Ty.pair cX (Ty.pair ae ae)),ax:= [none,none,none],mask:= [.v,.v,.v],sz:= [],ro:=false,vi:= [(0,true,3)],q:=Ty.unit,r:=cX,ao:=(ah.one (none)),vo:= [(0,true,3)],pre:=some Ke,F:=M4}
theorem apj:gG prog bC 259 Yo:=amJ
def Ys:Ct:={ p:=aS,ax:= [some 2],r:=da,ao:=(ah.one (none)),pre:=none,fresh:=none,F:=my}
theorem ap1:dY prog bC 154 Ys:=amI Z0
def aaQ:Ct:={ p:=(Ty.pair aD (Ty.pair eo (Ty.pair bN ae))),ax:= [some 8,some 3,some 4,none],r:=(Ty.pair eo (Ty.pair ae bX)),ao:=(ah.tup [some 3,none,none]),pre:=none,fresh:=none,F:=kT}
theorem atf:dY prog bC 99 aaQ:=agk abu Zj YC XP ZA ZV Zl
def abr(nw:Bool):List (Nat×Zc):=(149,.pv WS)::(150,.pv Y1)::(159,.pv ZT)::(260,.pv ZB)::(259,.pv Yo)::(acM nw)
theorem It(nw:Bool):gj (abr nw):=rF aoa ⟨_,func149,by kernel_rfl,by kernel_rfl⟩ (rF art ⟨_,func150,by kernel_rfl,by kernel_rfl⟩ (rF aoM ⟨_,func159,by kernel_rfl,by kernel_rfl⟩ (rF anI ⟨_,func260,by kernel_rfl,by kernel_rfl⟩ (rF apj ⟨_,func259,by kernel_rfl,by kernel_rfl⟩ (Qu nw)))))
def aa0:List (Nat×Ct):=(154,Ys)::(99,aaQ)::abB
theorem JD:cu aa0:=BQ ap1 ⟨_,func154,by kernel_rfl,by kernel_rfl⟩ (BQ atf ⟨_,func99,by kernel_rfl,by kernel_rfl⟩ (ajg))
def vB(k:Int)(x:Int×ab):Prop:=0<=x.1/\x.2.1≠0/\x.2.2.2.2.2.2.2.2.length<=100
def D5(k:Int)(x:Int×ab):=(x.2.2.2.2.2.2.2.2.length-x.1).toNat
def CW(k:Int)(x:Int×ab):=letI b:=x.2.2.2.2.2.2.2.2;letI a:=aa b x.1;aJ gg b x.1 (a.1,a.2.1,a.2.2.1,a.2.2.2.1,i64.wrap (1+i64.wrap (Int.tmod k (3:Int))),a.2.2.2.2.2)
def CA(k:Int)(x:Int×ab):=letI a:=aa (CW k x) x.1;aJ gg (CW k x) x.1 (a.1,a.2.1,a.2.2.1,a.2.2.2.1,a.2.2.2.2.1,i64.wrap (1+i64.wrap (Int.tmod (u8.wrap (Int.tdiv k (3:Int))) (3:Int))),a.2.2.2.2.2.2)
def CJ(k:Int)(x:Int×ab):=letI a:=aa (CA k x) x.1;letI b:=a.2.2.2;aJ gg (CA k x) x.1 (a.1,a.2.1,a.2.2.1,b.1,b.2.1,b.2.2.1,i64.wrap (1+i64.wrap (Int.tmod (u8.wrap (Int.tdiv k (9:Int))) (3:Int))),b.2.2.2.2)
def Dk(k:Int)(x:Int×ab):=letI a:=aa (CJ k x) x.1;letI b:=a.2.2.2.2;aJ gg (CJ k x) x.1 (a.1,a.2.1,a.2.2.1,a.2.2.2.1,b.1,b.2.1,b.2.2.1,i64.wrap (b.2.2.1+i64.wrap (Int.tmod (u8.wrap (Int.tdiv k (27:Int))) (5:Int))),b.2.2.2.2)
def yF(k:Int)(x:Int×ab):=letI a:=aa (Dk k x) x.1;letI b:=a.2.2.2;aJ gg (Dk k x) x.1 (a.1,a.2.1,a.2.2.1,b.1,b.2.1,b.2.2.1,b.2.2.2.1,b.2.2.2.2.1,Int.tmod (i64.wrap (x.1+i64.wrap k)) x.2.1)
def sC(k:Int)(x:Int×ab):an Int (Int×ab) ab:=letI a:=x.2.2.2.2;bif x.1<a.2.2.2.2.length then .next k (i64.wrap (x.1+1),x.2.1,x.2.2.1,x.2.2.2.1,a.1,a.2.1,a.2.2.1,a.2.2.2.1,yF k x)else .brk k x
def LW k x:=endOf sC k (Nat.succ (D5 k x)) x
def ji(x:af):ab:=letI a:=LW x.2 (0,FW (i64.wrap (2+i64.wrap (Int.tmod x.1 (5:Int))),i64.wrap (1+i64.wrap (Int.tmod (u8.wrap (Int.tdiv x.1 (5:Int))) (3:Int)))));(a.2.1,a.2.2.1,a.2.2.2.1,i64.wrap (1+i64.wrap (Int.tmod x.2 (7:Int))),a.2.2.2.2.2)
def Lt(x:af):Prop:=(0<=x.1/\x.1<=255)/\0<=x.2/\x.2<=255
def gk(x:ab):ak×Unit:=letI a:=x.2.2.2.2.2.2.2.length;bif ca x !=0 then(([],[],[],[]),())else((aC ae a,aC aw a,aC aw a,[]),())
def Kv(x:ab×ByteArray):=iW (x.1,i64.wrap (aO x.2 0),i64.wrap (aO x.2 1),i64.wrap (aO x.2 2),i64.wrap (i64.wrap (aO x.2 3)-2),i64.wrap (aO x.2 4))
def nO(x:ab×ByteArray):(aP)×Int:=letI a:=(0,0,0,0,0);bif ca x.1 !=0 then(a,1)else bif(x.2.size:Int) !=6 then(a,4)else bif nU (ByteArray.extract x.2 (Int.toNat 0) (Int.toNat 5)) !=aO x.2 5 then(a,5)else bif !Kv x then(a,9)else((i64.wrap (aO x.2 0),i64.wrap (aO x.2 1),i64.wrap (aO x.2 2),i64.wrap (i64.wrap (aO x.2 3)-2),i64.wrap (aO x.2 4)),0)
def FU(g:Nat)(x:az×az):=cnd (Nat.beq g 140) (lL x) (Ty.dflt ae)
def uV(k:(List az)×(Option Nat)×az)(x:af):Prop:=0<=x.1/\x.1<=x.2/\x.2<=k.1.length/\k.1.length<=1000000/\k.2.1=some 140
def sg(k:((List (az))×(Option Nat)×az))(x:(af)):Nat:=(x.2-x.1).toNat
def rZ(k:(List az)×(Option Nat)×az)(x:af):an ((List az)×(Option Nat)×az) (af) (ir):=letI a:=i64.wrap (Int.fdiv (u64.wrap (i64.wrap (x.1+x.2))) (2^min (1:Int).toNat u64.bits));bif x.1<x.2 then bif FU (Option.getD k.2.1 0) (aa k.1 a,k.2.2)<0 then .next k (i64.wrap (a+1),x.2)else .next k (x.1,a)else .brk k x
def DT k x:=endOf rZ k (Nat.succ (sg k x)) x
def FN(x:(List az)×az×Option Nat):=letI b:=x.1.length;letI a:=DT (x.1,x.2.2,x.2.1) (0,b);(a.1,a.1<b&&FU (Option.getD x.2.2 0) (aa x.1 a.1,x.2.1)==0)
def Kz(x:(List az)×az×Option Nat):Prop:=x.1.length<=1000000/\x.2.2=some 140
def pC(x:ab×ak):=cJ x&&i64.wrap (i64.wrap (18*i64.wrap (x.1.2.2.2.2.2.2.2.length+x.2.2.2.2.length))+6)<=x.1.2.2.1
def kZ(x:List Int):=(([]:List Int)++x,())
def sR(x:List Int):Prop:=x.length<=100000
def mO(x:List Bool):=(([]:List Bool)++x,())
def oR(x:List Bool):Prop:=x.length<=100000
def xh(x:List az):=(([]:List az)++x,())
def zU(x:List (az)):Prop:=x.length<=100000
def qB(x:Unit):bT:=(-1,0,0,[],0,false)
def alR(k:ab×lE)(x:Int×bA):=(k.1.2.2.2.2.2.2.2.length-x.1).toNat
def akX(k:ab×lE)(x:Int×bA):=x.2.2.2++ [((u32.wrap (u8.wrap ((BitVec.ofInt u8.bits (aa [k.2.1,k.2.2.1,k.2.2.2.1,k.2.2.2.2.1,k.2.2.2.2.2.1,k.2.2.2.2.2.2] (i64.wrap (2+Int.tmod x.1 (4:Int))))&&&BitVec.ofInt u8.bits 7).toNat)),Int.tmod (u8.wrap (Int.tdiv (aa [k.2.1,k.2.2.1,k.2.2.2.1,k.2.2.2.2.1,k.2.2.2.2.2.1,k.2.2.2.2.2.2] (i64.wrap (3+Int.tmod x.1 (3:Int)))) (8:Int))) (4:Int)==1,Int.tmod (u8.wrap (Int.tdiv (aa [k.2.1,k.2.2.1,k.2.2.2.1,k.2.2.2.2.1,k.2.2.2.2.2.1,k.2.2.2.2.2.2] (i64.wrap (3+Int.tmod x.1 (3:Int)))) (8:Int))) (4:Int)==2,Int.tmod (u8.wrap (Int.tdiv (aa [k.2.1,k.2.2.1,k.2.2.2.1,k.2.2.2.2.1,k.2.2.2.2.2.1,k.2.2.2.2.2.2] (i64.wrap (3+Int.tmod x.1 (3:Int)))) (32:Int))) (3:Int)==1,Int.tmod (u8.wrap (Int.tdiv (aa [k.2.1,k.2.2.1,k.2.2.2.1,k.2.2.2.2.1,k.2.2.2.2.2.1,k.2.2.2.2.2.2] (i64.wrap (3+Int.tmod x.1 (3:Int)))) (32:Int))) (3:Int)==2),(i64.wrap (Int.tmod (aa [k.2.1,k.2.2.1,k.2.2.2.1,k.2.2.2.2.1,k.2.2.2.2.2.1,k.2.2.2.2.2.2] (i64.wrap (2+Int.tmod x.1 (4:Int)))) (8:Int)),decide (Int.tmod (aa [k.2.1,k.2.2.1,k.2.2.2.1,k.2.2.2.2.1,k.2.2.2.2.2.1,k.2.2.2.2.2.2] (i64.wrap (2+Int.tmod x.1 (4:Int)))) (5:Int)>0),i64.wrap (Int.tmod (u8.wrap (Int.tdiv (aa [k.2.1,k.2.2.1,k.2.2.2.1,k.2.2.2.2.1,k.2.2.2.2.2.1,k.2.2.2.2.2.2] (i64.wrap (2+Int.tmod x.1 (4:Int)))) (8:Int))) (3:Int)),Int.tmod (aa [k.2.1,k.2.2.1,k.2.2.2.1,k.2.2.2.2.1,k.2.2.2.2.2.1,k.2.2.2.2.2.2] (i64.wrap (2+Int.tmod x.1 (4:Int)))) (7:Int)==0),u32.wrap (u8.wrap ((BitVec.ofInt u8.bits (u8.wrap ((BitVec.ofInt u8.bits (aa [k.2.1,k.2.2.1,k.2.2.2.1,k.2.2.2.2.1,k.2.2.2.2.2.1,k.2.2.2.2.2.2] (i64.wrap (3+Int.tmod x.1 (3:Int))))&&&BitVec.ofInt u8.bits (aa [k.2.1,k.2.2.1,k.2.2.2.1,k.2.2.2.2.1,k.2.2.2.2.2.1,k.2.2.2.2.2.2] (i64.wrap (2+Int.tmod x.1 (4:Int))))).toNat))&&&BitVec.ofInt u8.bits 7).toNat)),(FloatKind.f64.format.div (FloatKind.f64.nearest (Int.tmod (aa [k.2.1,k.2.2.1,k.2.2.2.1,k.2.2.2.2.1,k.2.2.2.2.2.1,k.2.2.2.2.2.2] (i64.wrap (2+Int.tmod x.1 (4:Int)))) (16:Int))) 4622945017495814144).getD 0)]
def akp(k:ab×lE)(x:Int×bA):=x.2.2.2++ [((u32.wrap (1*2^min (u64.wrap (Int.tmod (aa [k.2.1,k.2.2.1,k.2.2.2.1,k.2.2.2.2.1,k.2.2.2.2.2.1,k.2.2.2.2.2.2] (i64.wrap (3+Int.tmod x.1 (3:Int)))) (8:Int))).toNat u32.bits),Int.tmod (u8.wrap (Int.tdiv (aa [k.2.1,k.2.2.1,k.2.2.2.1,k.2.2.2.2.1,k.2.2.2.2.2.1,k.2.2.2.2.2.2] (i64.wrap (3+Int.tmod x.1 (3:Int)))) (8:Int))) (4:Int)==1,Int.tmod (u8.wrap (Int.tdiv (aa [k.2.1,k.2.2.1,k.2.2.2.1,k.2.2.2.2.1,k.2.2.2.2.2.1,k.2.2.2.2.2.2] (i64.wrap (3+Int.tmod x.1 (3:Int)))) (8:Int))) (4:Int)==2,Int.tmod (u8.wrap (Int.tdiv (aa [k.2.1,k.2.2.1,k.2.2.2.1,k.2.2.2.2.1,k.2.2.2.2.2.1,k.2.2.2.2.2.2] (i64.wrap (3+Int.tmod x.1 (3:Int)))) (32:Int))) (3:Int)==1,Int.tmod (u8.wrap (Int.tdiv (aa [k.2.1,k.2.2.1,k.2.2.2.1,k.2.2.2.2.1,k.2.2.2.2.2.1,k.2.2.2.2.2.2] (i64.wrap (3+Int.tmod x.1 (3:Int)))) (32:Int))) (3:Int)==2),(i64.wrap (Int.tmod (aa [k.2.1,k.2.2.1,k.2.2.2.1,k.2.2.2.2.1,k.2.2.2.2.2.1,k.2.2.2.2.2.2] (i64.wrap (2+Int.tmod x.1 (4:Int)))) (8:Int)),decide (Int.tmod (aa [k.2.1,k.2.2.1,k.2.2.2.1,k.2.2.2.2.1,k.2.2.2.2.2.1,k.2.2.2.2.2.2] (i64.wrap (2+Int.tmod x.1 (4:Int)))) (5:Int)>0),i64.wrap (Int.tmod (u8.wrap (Int.tdiv (aa [k.2.1,k.2.2.1,k.2.2.2.1,k.2.2.2.2.1,k.2.2.2.2.2.1,k.2.2.2.2.2.2] (i64.wrap (2+Int.tmod x.1 (4:Int)))) (8:Int))) (3:Int)),Int.tmod (aa [k.2.1,k.2.2.1,k.2.2.2.1,k.2.2.2.2.1,k.2.2.2.2.2.1,k.2.2.2.2.2.2] (i64.wrap (2+Int.tmod x.1 (4:Int)))) (7:Int)==0),u32.wrap (u8.wrap ((BitVec.ofInt u8.bits (u8.wrap ((BitVec.ofInt u8.bits (aa [k.2.1,k.2.2.1,k.2.2.2.1,k.2.2.2.2.1,k.2.2.2.2.2.1,k.2.2.2.2.2.2] (i64.wrap (3+Int.tmod x.1 (3:Int))))&&&BitVec.ofInt u8.bits (aa [k.2.1,k.2.2.1,k.2.2.2.1,k.2.2.2.2.1,k.2.2.2.2.2.1,k.2.2.2.2.2.2] (i64.wrap (2+Int.tmod x.1 (4:Int))))).toNat))&&&BitVec.ofInt u8.bits 7).toNat)),(FloatKind.f64.format.div (FloatKind.f64.nearest (Int.tmod (aa [k.2.1,k.2.2.1,k.2.2.2.1,k.2.2.2.2.1,k.2.2.2.2.2.1,k.2.2.2.2.2.2] (i64.wrap (2+Int.tmod x.1 (4:Int)))) (16:Int))) 4622945017495814144).getD 0)]
def alf(k:ab×lE)(x:Int×bA):an (ab×lE) (Int×bA) bA:=letI a:=i64.wrap (x.1+1);letI b:=k.2.2.2;bif x.1<k.1.2.2.2.2.2.2.2.length then bif Int.tmod (aa [k.2.1,k.2.2.1,b.1,b.2.1,b.2.2.1,b.2.2.2] (i64.wrap (3+Int.tmod x.1 (3:Int)))) (11:Int)==7 then .next k (a,x.2.1,x.2.2.1,akX k x)else .next k (a,x.2.1,x.2.2.1,akp k x)else .brk k x
def E0 k x:=endOf alf k (Nat.succ (alR k x)) x
def aqL(x:ab×lE):=E0 x (0,(u32.wrap (u8.wrap ((BitVec.ofInt u8.bits (Int.fdiv x.2.1 (2^min (3:Int).toNat u8.bits))&&&BitVec.ofInt u8.bits x.2.2.1).toNat)),u32.wrap (u8.wrap ((BitVec.ofInt u8.bits (Int.fdiv x.2.2.1 (2^min (2:Int).toNat u8.bits))&&&BitVec.ofInt u8.bits x.2.1).toNat))),(Int.tmod (i64.wrap (u8.wrap (Int.tdiv x.2.2.2.1 (4:Int)))) (9:Int),i64.wrap x.2.2.2.2.1),[])
def aqp(x:ab×lE):=E0 x (0,(u32.wrap (u8.wrap ((BitVec.ofInt u8.bits (Int.fdiv x.2.1 (2^min (3:Int).toNat u8.bits))&&&BitVec.ofInt u8.bits x.2.2.1).toNat)),u32.wrap (u8.wrap ((BitVec.ofInt u8.bits (Int.fdiv x.2.2.1 (2^min (2:Int).toNat u8.bits))&&&BitVec.ofInt u8.bits x.2.1).toNat))),(0,0),[])
def xj(x:ab×lE):=letI a:=Int.tmod x.2.2.2.1 (4:Int)==0;letI b:=(0,0);bif Int.tmod x.2.1 (3:Int)==0 then bif a then om (x.1,(aqL x).2)else om (x.1,(aqp x).2)else bif a then om (x.1,(E0 x (0,b,(Int.tmod (i64.wrap (u8.wrap (Int.tdiv x.2.2.2.1 (4:Int)))) (9:Int),i64.wrap x.2.2.2.2.1),[])).2)else om (x.1,(E0 x (0,b,b,[])).2)
def Ah(x:Int):=x<0||x>1000000
def MK(x:Int):=x<0||x>1000000
def FA(x:Int):=x<0||x>1000000
def DG(k:(Int×sQ))(x:(Int)):Prop:=(0:Int)<=x
def DW(k:Int×sQ)(x:Int):=(36-x).toNat
def DP(k:Int×sQ)(x:Int):=letI e:=k.2.2.2.2;letI c:=e.2.2.2.2.2;letI f:=c.2.2.2.2;letI b:=f.2.2.2.2.2;letI g:=b.2.2.2.2;letI d:=g.2.2.2.2.2;letI h:=d.2.2.2.2;letI a:=aa [k.2.1,k.2.2.1,k.2.2.2.1,e.1,e.2.1,e.2.2.1,e.2.2.2.1,e.2.2.2.2.1,c.1,c.2.1,c.2.2.1,c.2.2.2.1,f.1,f.2.1,f.2.2.1,f.2.2.2.1,f.2.2.2.2.1,b.1,b.2.1,b.2.2.1,b.2.2.2.1,g.1,g.2.1,g.2.2.1,g.2.2.2.1,g.2.2.2.2.1,d.1,d.2.1,d.2.2.1,d.2.2.2.1,h.1,h.2.1,h.2.2.1,h.2.2.2.1,h.2.2.2.2.1,h.2.2.2.2.2] x;bif x<36 then bif a<0||a>=k.1 then an.ret false else an.next k (i64.wrap (x+1))else an.brk k x
def ZU k x:=bj DP k (Nat.succ (DW k x)) x
def mb(x:Int×bE):=bif x.1<1||x.1>16 then false else dJ (ZU (x.1,x.2.2) 0) (λy=>y) true
def gR(x:ay):=x.1>=x.2.1&&x.1<=x.2.2
def pe(x:(ay)×ay):=qA [kN (x.1.1,x.2.1),kN (x.1.2.1,x.2.2.1)]
def FK(x:af):=x.1>=0&&x.1<=2&&x.2>=0&&x.2<=7
def FP(x:Int):=x>=0&&x<=1000000
def adq(x:ay):=letI a:=i64.wrap (x.2.1+aa [0,1,-1] x.2.2);bif x.2.2 !=1&&x.2.2 !=2 then(0,false)else(a,a>=0&&a<x.1)
def mN(x:af):=x.2>=0&&x.2<=4
def Zu(x:List bE):=([]:List bE)++x
def wZ(x:List bE):=(Zu x,())
def Lo(x:List (bE)):Prop:=x.length<=100000
def wX(x:List iE):=(([]:List iE)++x,())
def LJ(x:List (iE)):Prop:=x.length<=100000
def wU(x:List Int):=(([]:List Int)++x,())
def L2(x:List Int):Prop:=x.length<=100000
def NA(x:List (af)):=(([]:List (af))++x,())
def WY(x:List (af)):Prop:=x.length<=100000
def rl(x:List bT):(List bT)×Unit:=(([]:List (Int×Int×Int×List (ay)×ir))++x,())
def Li(x:List (bT)):Prop:=x.length<=100000
def F95(x:List (ay)):=([]:List (ay))++x
def Xz(x:List (ay)):Prop:=x.length<=100000
def hV(x:Int):=min (i64.wrap (x+1)) 1000000
def gT(x:(eQ)×Int):=bif x.2==32 then x.1.2.1 else bif x.2==33 then x.1.2.2.1 else bif x.2==34 then x.1.2.2.2.1 else bif x.2==35 then x.1.2.2.2.2 else x.2>=0&&x.2<32&&u32.wrap ((BitVec.ofInt u32.bits (Int.fdiv x.1.1 (2^min x.2.toNat u32.bits))&&&BitVec.ofInt u32.bits 1).toNat)==1
def pA(x:(eQ)×ir):=letI c:=x.1.2;letI d:=x.2.1;letI b:=u32.wrap (1*2^min d.toNat u32.bits);letI e:=x.1.1;letI a:=u32.wrap ((BitVec.ofInt u32.bits e&&& ~~~BitVec.ofInt u32.bits b).toNat);letI f:=x.2.2;bif d==32 then(e,f,c.2)else bif d==33 then(e,c.1,f,c.2.2)else bif d==34 then(e,c.1,c.2.1,f,c.2.2.2)else bif d==35 then(e,c.1,c.2.1,c.2.2.1,f)else bif d>=0&&d<32 then bif f then(u32.wrap ((BitVec.ofInt u32.bits a|||BitVec.ofInt u32.bits b).toNat),c)else(a,c)else x.1
def wC(x:ab×Nat):Int:=letI a:=FloatKind.f64.format.order x.2 0;letI b:=x.1.2.2.2.2;bif !(a==some Ordering.gt||a==some Ordering.eq)then 0 else bif FloatKind.f64.format.order x.2 b.1==some Ordering.lt then 1 else bif FloatKind.f64.format.order x.2 b.2.1==some Ordering.lt then 2 else bif FloatKind.f64.format.order x.2 b.2.2.1==some Ordering.lt then 3 else 4
def gF(x:Int):=x==0||x==1
def C6(k:Int×(List (ay))×ay)(x:(List (ay))×Int):Prop:=0<=x.2/\k.2.2.1=k.2.1.length/\x.1.length<=x.2/\k.2.2.1<=1000
def sd(k:Int×(List (ay))×ay)(x:(List (ay))×Int):=(k.2.2.1-x.2).toNat
def so(k:Int×(List (ay))×ay)(x:(List (ay))×Int):an (Int×(List (ay))×ay) ((List (ay))×Int) ((List (ay))×Bool):=letI a:=aa k.2.1 x.2;letI b:=i64.wrap (a.2.2+1);letI c:=i64.wrap (x.2+1);bif x.2<k.2.2.1 then bif b>k.1 then .ret ([],true)else bif !dO (k.2.2.2,a.1,a.2.1)then .next k (x.1++ [(a.1,a.2.1,b)],c)else .next k (x.1,c)else .brk k x
def UA k x:=endOf so k (Nat.succ (sd k x)) x
def We k x:=bj so k (Nat.succ (sd k x)) x
def tw(x:(List (ay))×ay):=letI a:=(x.2.1,x.1,(x.1.length:Int),x.2.2);dJ (We a ([],0)) (λy=>y) ((UA a ([],0)).1,false)
def Ef(x:(List (ay))×ay):Prop:=x.1.length<=1000
def ra(x:Int):=bif x==0 then 32 else i64.wrap (aa jK (Int.fdiv (u32.wrap (u32.wrap ((BitVec.ofInt u32.bits x&&&BitVec.ofInt u32.bits (u32.wrap (0-x))).toNat)*125613361)) (2^min (27:Int).toNat u32.bits)))
def vT(x:Int):Prop:=0<=x/\x<=4294967295
def AV(x:Int):=x>=2&&x<=32
def qW(x:Int):=i64.wrap (u8.wrap (u8.wrap (u8.wrap (aO Lib.pop8tab (Int.fdiv x (2^min (24:Int).toNat u32.bits))+aO Lib.pop8tab (u32.wrap ((BitVec.ofInt u32.bits (Int.fdiv x (2^min (16:Int).toNat u32.bits))&&&BitVec.ofInt u32.bits 255).toNat)))+aO Lib.pop8tab (u32.wrap ((BitVec.ofInt u32.bits (Int.fdiv x (2^min (8:Int).toNat u32.bits))&&&BitVec.ofInt u32.bits 255).toNat)))+aO Lib.pop8tab (u32.wrap ((BitVec.ofInt u32.bits x&&&BitVec.ofInt u32.bits 255).toNat))))
def oS(x:Int):Prop:=0<=x/\x<=4294967295
def A0(x:Bool×Bool×kd):=letI a:=x.2.2.2;letI b:=i64.wrap (0+1);letI c:=x.2.2.1;bif x.1 then bif x.2.1 then aa [c,a.1,a.2.1,a.2.2] (i64.wrap (b+2))else aa [c,a.1,a.2.1,a.2.2] b else bif x.2.1 then aa [c,a.1,a.2.1,a.2.2] (i64.wrap (0+2))else aa [c,a.1,a.2.1,a.2.2] 0
def qE(x:Int):=x==3||x==4
def FV(x:Int×Int×aq):Unit×aq:=Ty.dflt (Ty.pair Ty.unit dj)
def J7(x:Int×Int×aq):Prop:=False
def fP(x:ab×ak):=cJ x&&i64.wrap (i64.wrap (18*i64.wrap (i64.wrap (x.1.2.2.2.2.2.2.2.length+x.2.2.2.2.length)+1))+6)<=x.1.2.2.1
def abX(x:(ab)×(iE)×gw):Bool:=Ty.dflt aw
def Ki(x:(ab)×(iE)×gw):Prop:=False
def je(x:(ak×ir)×Int):=aa x.1.1.1 x.1.2.1==x.2
def mm(x:(ak×ir)×Int):Prop:=0<=x.1.2.1/\x.1.2.1<x.1.1.1.length
def CF(k:(List Int)×Int×ak)(x:Int):Prop:=0<=x/\k.2.1=k.1.length/\k.2.2.2.2.1.length=k.1.length
def IX(k:((List Int)×Int×ak))(x:(Int)):Nat:=(k.2.1-x).toNat
def JB(k:(List Int)×Int×ak)(x:Int):=letI a:=aa k.1 x;bif x<k.2.1 then bif a==1||a==2||a==3||aa k.2.2.2.2.1 x then an.ret false else an.next k (i64.wrap (x+1))else an.brk k x
def amQ k x:=bj JB k (Nat.succ (IX k x)) x
def MJ(x:ak):=dJ (amQ (x.1,x.1.length,x) 0) (λy=>y) true
def zw(x:ak):Prop:=x.1.length=x.2.2.1.length
def wK(x:(ak×ir)×Int):=(([(4,0,0,x.1.2.1,x.2)]:List (aP)),())
def AS(x:Bool×Int×List (aP)):=bif !x.1 then(([],x.2.1),())else((x.2.2,0),())
def C7(k:Int×(List az)×Int)(x:Int):Prop:=0<=x/\k.2.2=k.2.1.length
def Jt(k:(Int×(List (az))×Int))(x:(Int)):Nat:=(k.2.2-x).toNat
def Jh(k:Int×(List az)×Int)(x:Int):=bif x<k.2.2 then bif(aa k.2.1 x).2.2.1==k.1 then an.ret true else an.next k (i64.wrap (x+1))else an.brk k x
def alS k x:=bj Jh k (Nat.succ (Jt k x)) x
def Mt(x:ak×Int):=dJ (alS (x.2,x.1.2.2.2,x.1.2.2.2.length) 0) (λy=>y) false
def Fg(x:af):=x.1==x.2||x.1==1&&x.2==0||x.1==0&&x.2==1||x.1==3&&x.2==4
def qP(x:ak×Int):=x.2>=0&&x.2<min (min (x.1.1.length:Int) x.1.2.1.length) x.1.2.2.1.length
def fc(x:(af)×af):=(u32.wrap ((BitVec.ofInt u32.bits x.1.1|||BitVec.ofInt u32.bits x.2.1).toNat),u32.wrap ((BitVec.ofInt u32.bits x.1.2|||BitVec.ofInt u32.bits x.2.2).toNat))
def aay(x:(ab)×(iE)×gw):af:=Ty.dflt aS
def KI(x:(ab)×(iE)×gw):Prop:=False
def iS(x:ab×aZ):=bif !x.2.2.1 then(0,0)else dv (x.2.2.2.2.2.2.2.2.1,dB x.1)
def dS(x:(af)×af):=(u32.wrap ((BitVec.ofInt u32.bits x.1.1&&& ~~~BitVec.ofInt u32.bits x.2.1).toNat),u32.wrap ((BitVec.ofInt u32.bits x.1.2&&& ~~~BitVec.ofInt u32.bits x.2.2).toNat))
def wg(x:Int):(List (af))×(List Bool)×af:=(aC aS x,aC aw x,0,0)
def Kx(x:Int):Prop:=0<=x/\x<=8
def qL(x:az×af):=(x.1.1>x.2.1||x.1.1==x.2.1&&x.1.2.1>=x.2.2,x.2)
def nP(x:Int):=x>=2&&x<=32
def wN(x:ay):=x.2.2==1&&x.2.1>=0&&x.2.1<i64.wrap (x.1-1)||x.2.2==2&&x.2.1>0&&x.2.1<x.1
def amX(x:kd):=letI a:=u32.wrap (u32.wrap (1*2^min x.1.toNat u32.bits)-1);dv (x.2.2,Int.fdiv a (2^min (1:Int).toNat u32.bits),u32.wrap ((BitVec.ofInt u32.bits a&&& ~~~BitVec.ofInt u32.bits 1).toNat))
def kh(x:kd):=(u32.wrap ((BitVec.ofInt u32.bits x.2.1&&&BitVec.ofInt u32.bits (u32.wrap (u32.wrap (1*2^min x.1.toNat u32.bits)-1))).toNat),amX x)
def vr(x:kd):Prop:=0<=x.1
def Ay(x:Int):=letI a:=Int.fdiv x (2^min (16:Int).toNat u32.bits);letI b:=2^min (8:Int).toNat u32.bits;bif x>=65536 then bif a>=256 then i64.wrap (i64.wrap (16+8)+i64.wrap (aO Lib.len8tab (u8.wrap (Int.fdiv a b))))else i64.wrap (16+i64.wrap (aO Lib.len8tab (u8.wrap a)))else bif x>=256 then i64.wrap (i64.wrap (0+8)+i64.wrap (aO Lib.len8tab (u8.wrap (Int.fdiv x b))))else i64.wrap (0+i64.wrap (aO Lib.len8tab (u8.wrap x)))
def DA(x:Int):Prop:=0<=x/\x<=4294967295
def Dg(k:(List Int)×Int)(x:ay):Prop:=0<=x.2.2/\k.2=k.1.length
def yK(k:(List Int)×Int)(x:ay):=(k.2-x.2.2).toNat
def uG(k:(List Int)×Int)(x:ay):an ((List Int)×Int) (ay) Unit:=letI a:=aa k.1 x.2.2;bif x.2.2<k.2 then .next k (i64.wrap (x.1+max (i64.wrap (a-x.2.1)) (i64.wrap (x.2.1-a))),a,i64.wrap (x.2.2+1))else .brk k x
def Vu k x:=endOf uG k (Nat.succ (yK k x)) x
def mF(x:(List Int)×af):=letI a:=x.1++ [x.2.2];((Vu (a,a.length) (0,x.2.1,0)).1,x.2)
def ql(x:(List Int)×af):Prop:=x.1.length<=2
def AQ(x:aZ):=letI a:=x.2.2.2.2.2.2.1;a==3||a==4
def Fc(x:(af)×af):=letI a:=x.1.1==x.2.1;bif a&&x.1.2==x.2.2 then false else x.1.1<x.2.1||a&&x.1.2<x.2.2
def tz(x:az×az):List (aP):=letI b:=x.2.2;letI a:=(3,x.2.1,b.1,b.2.1,0);letI e:=x.1.2.2.1 !=b.2.1;letI f:=b.2.2;letI c:=(7,x.2.1,b.1,1,f.1);letI d:=(7,x.2.1,b.1,0,f.1);bif x.1.2.2.2.1 !=f.1||x.1.2.2.2.2 !=f.2 then bif f.2 then bif e then[c]++ [a]else[c]else bif e then[d]++ [a]else[d]else bif e then[a]else[]
def Mr(x:Int):=x==0||x==1
def AL(x:af):=x.2==0||x.1==3||x.1==4
def Us(k:Int×bE)(x:Int):=(36-x).toNat
def Uu(k:Int×bE)(x:Int):=letI f:=k.2.2.2.2;letI d:=f.2.2.2.2.2;letI g:=d.2.2.2.2;letI b:=g.2.2.2.2.2;letI h:=b.2.2.2.2;letI c:=h.2.2.2.2.2;letI e:=c.2.2.2.2.2;letI a:=aa [k.2.2.1,k.2.2.2.1,f.1,f.2.1,f.2.2.1,f.2.2.2.1,f.2.2.2.2.1,d.1,d.2.1,d.2.2.1,d.2.2.2.1,g.1,g.2.1,g.2.2.1,g.2.2.2.1,g.2.2.2.2.1,b.1,b.2.1,b.2.2.1,b.2.2.2.1,h.1,h.2.1,h.2.2.1,h.2.2.2.1,h.2.2.2.2.1,c.1,c.2.1,c.2.2.1,c.2.2.2.1,c.2.2.2.2.1,e.1,e.2.1,e.2.2.1,e.2.2.2.1,e.2.2.2.2.1,e.2.2.2.2.2] x;bif x<36 then bif a<0||a>=k.1 then an.ret false else an.next k (i64.wrap (x+1))else an.brk k x
def Yh k x:=bj Uu k (Nat.succ (Us k x)) x
def Nw(x:Int×bE):=bif x.1<1||x.1>16 then false else dJ (Yh x 0) (λy=>y) true
def tK(x:(eQ)×Int):=bif x.2<0||x.2>35 then false else bif x.2<32 then u32.wrap ((BitVec.ofInt u32.bits (Int.fdiv x.1.1 (2^min (u64.wrap x.2).toNat u32.bits))&&&BitVec.ofInt u32.bits 1).toNat)==1 else aa [x.1.2.1,x.1.2.2.1,x.1.2.2.2.1,x.1.2.2.2.2] (i64.wrap (x.2-32))
def Gq(x:(eQ)×ir):=letI c:=x.1.2;letI d:=x.2.1;letI a:=u32.wrap (1*2^min (u64.wrap d).toNat u32.bits);letI b:=d>=0&&d<32;letI e:=x.1.1;letI f:=x.2.2;bif b&&f then(u32.wrap ((BitVec.ofInt u32.bits e|||BitVec.ofInt u32.bits a).toNat),c)else bif b then(u32.wrap ((BitVec.ofInt u32.bits e&&& ~~~BitVec.ofInt u32.bits a).toNat),c)else bif d==32 then(e,f,c.2)else bif d==33 then(e,c.1,f,c.2.2)else bif d==34 then(e,c.1,c.2.1,f,c.2.2.2)else bif d==35 then(e,c.1,c.2.1,c.2.2.1,f)else x.1
def fh(x:(af)×af):=(u32.wrap ((BitVec.ofInt u32.bits x.1.1&&& ~~~BitVec.ofInt u32.bits x.2.1).toNat),u32.wrap ((BitVec.ofInt u32.bits x.1.2&&& ~~~BitVec.ofInt u32.bits x.2.2).toNat))
def A1(x:(af)×af):=(u32.wrap ((BitVec.ofInt u32.bits x.1.1|||BitVec.ofInt u32.bits x.2.1).toNat),u32.wrap ((BitVec.ofInt u32.bits x.1.2|||BitVec.ofInt u32.bits x.2.2).toNat))
def fy(x:(af)×af):=(u32.wrap ((BitVec.ofInt u32.bits x.1.1&&&BitVec.ofInt u32.bits x.2.1).toNat),u32.wrap ((BitVec.ofInt u32.bits x.1.2&&&BitVec.ofInt u32.bits x.2.2).toNat))
def Gv(x:af):=letI a:=u32.wrap (1*2^min (u64.wrap x.1).toNat u32.bits);letI b:=(0,0);bif x.1<0||x.1>31 then b else bif x.2==1 then(a,0)else bif x.2==2 then(0,a)else b
def nX(x:(af)×af):=letI a:=2^min (u64.wrap x.2.1).toNat u32.bits;bif x.2.1<0||x.2.1>31 then false else x.2.2==1&&u32.wrap ((BitVec.ofInt u32.bits (Int.fdiv x.1.1 a)&&&BitVec.ofInt u32.bits 1).toNat)==1||x.2.2==2&&u32.wrap ((BitVec.ofInt u32.bits (Int.fdiv x.1.2 a)&&&BitVec.ofInt u32.bits 1).toNat)==1
def Dm(k:(List Int)×(List Int)×Int)(x:Int):Prop:=0<=x/\k.2.2=k.1.length/\k.1.length=k.2.1.length
def Jn(k:((List Int)×(List Int)×Int))(x:(Int)):Nat:=(k.2.2-x).toNat
def Dr(k:(List Int)×(List Int)×Int)(x:Int):=bif x<k.2.2 then bif aa k.1 x !=aa k.2.1 x then an.ret false else an.next k (i64.wrap (x+1))else an.brk k x
def VZ k x:=bj Dr k (Nat.succ (Jn k x)) x
def Fz(x:(List Int)×List Int):=letI a:=(x.1.length:Int);bif a !=x.2.length then false else dJ (VZ (x.1,x.2,a) 0) (λy=>y) true
def CZ(k:(List Bool)×(List Bool)×Int)(x:Int):Prop:=0<=x/\k.2.2=k.1.length/\k.1.length=k.2.1.length
def I4(k:((List Bool)×(List Bool)×Int))(x:(Int)):Nat:=(k.2.2-x).toNat
def CE(k:(List Bool)×(List Bool)×Int)(x:Int):=bif x<k.2.2 then bif aa k.1 x !=aa k.2.1 x then an.ret false else an.next k (i64.wrap (x+1))else an.brk k x
def UB k x:=bj CE k (Nat.succ (I4 k x)) x
def Ag(x:(List Bool)×List Bool):=letI a:=(x.1.length:Int);bif a !=x.2.length then false else dJ (UB (x.1,x.2,a) 0) (λy=>y) true
def De(k:(List az)×(List az)×Int)(x:Int):Prop:=0<=x/\k.2.2=k.1.length/\k.1.length=k.2.1.length
def JK(k:((List (az))×(List (az))×Int))(x:(Int)):Nat:=(k.2.2-x).toNat
def Cr(k:(List az)×(List az)×Int)(x:Int):=letI a:=aa k.2.1 x;letI b:=aa k.1 x;bif x<k.2.2 then bif !(b.1==a.1&&(b.2.1==a.2.1&&(b.2.2.1==a.2.2.1&&(b.2.2.2.1==a.2.2.2.1&&b.2.2.2.2==a.2.2.2.2))))then an.ret false else an.next k (i64.wrap (x+1))else an.brk k x
def Vq k x:=bj Cr k (Nat.succ (JK k x)) x
def Fh(x:(List az)×List az):=letI a:=(x.1.length:Int);bif a !=x.2.length then false else dJ (Vq (x.1,x.2,a) 0) (λy=>y) true
def Nl:Ct:=⟨Ty.pair bG bG,[none,none],aD,ah.one (some 8),some Lt,some 106,ji⟩
def Le:Cv:=⟨aD,[some 8],[.v],[],false,[],Ty.unit,bN,ah.one (some 4),[(0,true,3),(1,true,4),(2,true,4),(3,true,93)],none,gk,false⟩
def Yl:Ct:=⟨Ty.pair aD cY,[some 8,none],Ty.pair jC bX,ah.tup [some 5,none],none,none,nO⟩
def LD:Ct:=⟨Ty.pair da (Ty.pair dT Af),[none,some 5,none],Ty.pair ae aw,ah.tup [none,none],some Kz,none,FN⟩
def abS:Ct:=⟨Ty.pair aD bN,[some 8,some 4],aw,ah.one none,none,none,pC⟩
def MN:Cv:=⟨cX,[none],[.v],[],false,[],Ty.unit,cX,ah.one none,[(0,true,3)],some sR,kZ,false⟩
def Nk:Cv:=⟨gm,[none],[.v],[],false,[],Ty.unit,gm,ah.one none,[(0,true,4)],some oR,mO,false⟩
def MW:Cv:=⟨da,[none],[.v],[],false,[],Ty.unit,da,ah.one none,[(0,true,93)],some zU,xh,false⟩
def Xk:Ct:=⟨Ty.unit,[],eH,ah.one (some 6),none,none,qB⟩
def Y4:Ct:=⟨ae,[none],aw,ah.one none,none,none,Ah⟩
def Y5:Ct:=⟨ae,[none],aw,ah.one none,none,none,MK⟩
def WA:Ct:=⟨ae,[none],aw,ah.one none,none,none,FA⟩
def M1:Ct:=⟨Ty.pair ae fQ,[none,some 41],aw,ah.one none,none,none,mb⟩
def Xv:Ct:=⟨Ty.pair ae (Ty.pair ae ae),[none,none,none],aw,ah.one none,none,none,gR⟩
def Zr:Ct:=⟨Ty.pair gz gz,[some 3,some 3],ae,ah.one none,none,none,pe⟩
def XS:Ct:=⟨KZ,[some 2],aw,ah.one none,none,none,FK⟩
def XQ:Ct:=⟨ae,[none],aw,ah.one none,none,none,FP⟩
def Z5:Ct:=⟨Ty.pair ae (Ty.pair ae ae),[none,none,none],Ty.pair ae aw,ah.tup [none,none],none,none,adq⟩
def ab6:Ct:=⟨Ty.pair ae jB,[none,some 1],aw,ah.one none,none,none,mN⟩
def MC:Cv:=⟨wB,[none],[.v],[],false,[],Ty.unit,wB,ah.one none,[(0,true,70)],some Lo,wZ,false⟩
def Nn:Cv:=⟨wm,[none],[.v],[],false,[],Ty.unit,wm,ah.one none,[(0,true,153)],some LJ,wX,false⟩
def Ng:Cv:=⟨An,[none],[.v],[],false,[],Ty.unit,An,ah.one none,[(0,true,158)],some L2,wU,false⟩
def Np:Cv:=⟨mD,[none],[.v],[],false,[],Ty.unit,mD,ah.one none,[(0,true,51)],some WY,NA,false⟩
def MM:Cv:=⟨wx,[none],[.v],[],false,[],Ty.unit,wx,ah.one none,[(0,true,142)],some Li,rl,false⟩
def ac0:Ct:=⟨gd,[none],gd,ah.one none,some Xz,none,F95⟩
def ZM:Ct:=⟨ae,[none],ae,ah.one none,none,none,hV⟩
def YR:Ct:=⟨Ty.pair mC ae,[some 5,none],aw,ah.one none,none,none,gT⟩
def ZY:Ct:=⟨Ty.pair mC (Ty.pair ae aw),[some 5,none,none],mC,ah.one (some 5),none,none,pA⟩
def Zk:Ct:=⟨Ty.pair aD sZ,[some 8,none],ae,ah.one none,none,none,wC⟩
def ZO:Ct:=⟨ae,[none],aw,ah.one none,none,none,gF⟩
def L0:Ct:=⟨Ty.pair gd (Ty.pair ae aS),[none,none,some 2],Ty.pair gd aw,ah.tup [none,none],some Ef,some 191,tw⟩
def aaA:Ct:=⟨kn,[none],ae,ah.one none,some vT,none,ra⟩
def acI:Ct:=⟨ae,[none],aw,ah.one none,none,none,AV⟩
def aaH:Ct:=⟨kn,[none],ae,ah.one none,some oS,none,qW⟩
def acp:Ct:=⟨Ty.pair aw (Ty.pair aw Lb),[none,none,some 4],ae,ah.one none,none,none,A0⟩
def Yn:Ct:=⟨ae,[none],aw,ah.one none,none,none,qE⟩
def Ll:Cv:=⟨Ty.pair ae (Ty.pair ae dj),[none,none],[.p,.v,.v],[43],false,[(17,true,70),(18,true,142),(19,true,153),(20,true,158),(34,true,4),(35,true,51),(36,true,4),(44,true,85)],dj,Ty.unit,ah.none,[(15,true,70),(16,true,142),(17,true,153),(18,true,158),(32,true,4),(33,true,51),(34,true,4),(42,true,85)],some J7,FV,false⟩
def Yd:Ct:=⟨Ty.pair aD bN,[some 8,some 4],aw,ah.one none,none,none,fP⟩
def YL:Ct:=⟨Ty.pair aD (Ty.pair iN sX),[some 8,some 14,some 4],aw,ah.one none,some Ki,none,abX⟩
def aab:Ct:=⟨Ty.pair EW ae,[some 6,none],aw,ah.one none,some mm,none,je⟩
def K8:Ct:=⟨bN,[some 4],aw,ah.one none,some zw,none,MJ⟩
def L9:Cv:=⟨Ty.pair EW ae,[some 6,none],[.v,.v],[],false,[],Ty.unit,dF,ah.one none,[(0,true,213)],none,wK,false⟩
def Lh:Cv:=⟨Ty.pair aw (Ty.pair bX dF),[none,none,none],[.v,.v,.v],[],false,[(2,true,213)],Ty.unit,Ty.pair dF bX,ah.tup [none,none],[(0,true,213)],none,AS,false⟩
def Mh:Ct:=⟨Ty.pair bN ae,[some 4,none],aw,ah.one none,none,none,Mt⟩
def Yx:Ct:=⟨Ty.pair ae ae,[none,none],aw,ah.one none,none,none,Fg⟩
def XL:Ct:=⟨Ty.pair bN ae,[some 4,none],aw,ah.one none,none,none,qP⟩
def Ya:Ct:=⟨Ty.pair aS aS,[some 2,some 2],aS,ah.one (some 2),none,none,fc⟩
def XB:Ct:=⟨Ty.pair aD (Ty.pair iN sX),[some 8,some 14,some 4],aS,ah.one (some 2),some KI,none,aay⟩
def Yq:Ct:=⟨Ty.pair aD eO,[some 8,some 12],aS,ah.one (some 2),none,none,iS⟩
def XZ:Ct:=⟨Ty.pair aS aS,[some 2,some 2],aS,ah.one (some 2),none,none,dS⟩
def Z1:Ct:=⟨ae,[none],vU,ah.one (some 4),some Kx,none,wg⟩
def Zz:Cp:=letI a:=Ty.pair ae ae;⟨Ty.pair dT a,[some 5],[false,true,true],[1,1],true,false,a,aw,ah.one none,none,qL,none,undef⟩
def Zp:Ct:=⟨ae,[none],aw,ah.one none,none,none,nP⟩
def Wz:Ct:=⟨Ty.pair ae (Ty.pair ae ae),[none,none,none],aw,ah.one none,none,none,wN⟩
def XH:Ct:=⟨Ty.pair ae sW,[none,some 3],sW,ah.one (some 3),some vr,none,kh⟩
def Yz:Ct:=⟨kn,[none],ae,ah.one none,some DA,none,Ay⟩
def ZF:Cp:=letI a:=Ty.pair ae ae;⟨Ty.pair cX a,[none],[false,true,true],[1,1],true,true,a,ae,ah.one none,some ql,mF,none,undef⟩
def ZG:Ct:=⟨eO,[some 12],aw,ah.one none,none,none,AQ⟩
def Yb:Ct:=⟨Ty.pair wa wa,[some 2,some 2],aw,ah.one none,none,none,Fc⟩
def XV:Ct:=⟨Ty.pair dT dT,[some 5,some 5],dF,ah.one none,none,some 213,tz⟩
def WX:Ct:=⟨ae,[none],aw,ah.one none,none,none,Mr⟩
def WL:Ct:=⟨Ty.pair ae ae,[none,none],aw,ah.one none,none,none,AL⟩
def aba:Ct:=⟨Ty.pair aS aS,[some 2,some 2],aS,ah.one (some 2),none,none,fh⟩
def acn:Ct:=⟨Ty.pair aS aS,[some 2,some 2],aS,ah.one (some 2),none,none,A1⟩
def acQ:Ct:=⟨Ty.pair aS aS,[some 2,some 2],aS,ah.one (some 2),none,none,fy⟩
def aby:Ct:=⟨Ty.pair ae ae,[none,none],aS,ah.one (some 2),none,none,Gv⟩
def WR:Ct:=⟨Ty.pair aS (Ty.pair ae ae),[some 2,none,none],aw,ah.one none,none,none,nX⟩
def K5:Ct:=⟨Ty.pair cX cX,[none,none],aw,ah.one none,none,none,Fz⟩
def L8:Ct:=⟨Ty.pair gm gm,[none,none],aw,ah.one none,none,none,Ag⟩
def K7:Ct:=⟨Ty.pair da da,[none,none],aw,ah.one none,none,none,Fh⟩
def U6:LS aD.den:=aH bG (Ty.pair ae aD) [(1,none)] [] [(6,none)] [(5,8)] [(8,100308,true,106)] [] [(5,5)] 0 false vB sC D5
def bm(z:List (Nat×List Nat)):=dN (It true) ym dh JD z
theorem alM:bF f74 Nl [0] U6:=have E:=ai @vB.eq_1 SN;lA (bm []) [] l0 (λk x fk fx h=>sm (letI a:=(3:Int)≠0;letI b:=(x.2.2.2.2.2.2.2.2.length:Int);decide (x.1<b)=true->((0<=x.1/\x.1<b)/\(a/\(a/\a/\(9:Int)≠0/\a/\(27:Int)≠0/\(5:Int)≠0/\x.2.1≠0))))) λk x fk h=>by
 try dsimp only[Ty.den]at*
 unfold vB at h;unfold sC;have hlen:(yF k x).length=x.2.2.2.2.2.2.2.2.length:=by
  simp only[yF,Dk,CJ,CA,CW,aJ,auu]
 refine bf.cnd (λhc=> ?_) (λhc=> ?_)
 ·rw[adv]at hc
  refine⟨rfl,?_,?_⟩
  ·unfold vB
   simp only;rw[aA (x:=x.1+1) (by omega) (by omega)];exact⟨by omega,h.2.1,by rw[hlen];exact h.2.2⟩
  ·unfold D5
   simp only;rw[hlen,aA (x:=x.1+1) (by omega) (by omega)];omega
 ·exact rfl
theorem asm:ar 74 Nl:=au (bm []) func74 [(3,U6)] (lc alM l0) (sp λx fx h=>sf (letI a:=(i64.wrap ((2:Int)+i64.wrap (Int.tmod x.1 (5:Int))),i64.wrap ((1:Int)+i64.wrap (Int.tmod (u8.wrap (Int.tdiv x.1 (5:Int))) (3:Int))));letI b:=(5:Int)≠0;b/\b/\(3:Int)≠0/\Ei a/\vB x.2 (0,FW a)/\(7:Int)≠0/\True) (by
 try dsimp only[Ty.den]at*
 unfold Lt at h;have h1:i64.wrap ((2:Int)+(i64.wrap (Int.tmod x.1 (5:Int))))=2+x.1 % 5:=by simp only[uq,avf];omega
 have h2:i64.wrap ((1:Int)+(i64.wrap (Int.tmod (u8.wrap (Int.tdiv x.1 (5:Int))) (3:Int))))=((1+x.1/5 % 3).toNat:Int):=by simp only[uq,Is,avf,av1];omega
 rw[h1,h2,PO _ _ (by omega) (by omega)];refine⟨by omega,by omega,by omega,?_,?_,by omega,trivial⟩
 ·unfold Ei;simp only;omega
 ·unfold vB
  refine⟨by simp,?_,?_⟩
  ·show(2+x.1 % 5:Int)≠0;omega
  ·show(lr (2+x.1 % 5) (1+x.1/5 % 3).toNat).aL.length<=100
   rw[aeA];omega))
theorem an4:dP 116 Le:=dV (bm []) func116 [] l0 (λx fx _=>sl (letI a:=(x.2.2.2.2.2.2.2.length:Int);letI b:=0<=a/\a=a/\a*1<=140737488355328/\a<=4611686018427387903;(ca x !=0)=false->(0<=a/\a=a/\a*8<=140737488355328/\a<=4611686018427387903)/\b/\b) (by
 try dsimp only[Ty.den]at*
 intro h1;have h8:=Xg fx.2.2.2.2.2.2.2.1 h1;exact⟨nK h8 8 ⟨by decide,by decide⟩,nK h8 1 ⟨by decide,by decide⟩,nK h8 1 ⟨by decide,by decide⟩⟩))
theorem aq0:ar 147 Yl:=have E:=ai @vu.eq_1 SN;au (bm []) func147 [] l0 (λx fx _=>sl (letI a:=(x.2.size:Int);letI b:=ByteArray.extract x.2 (Int.toNat (0:Int)) (Int.toNat (5:Int));(ca x.1 !=(0:Int))=false->((a !=(6:Int))=false->((0<=(0:Int)/\(0:Int)<=(5:Int)/\(5:Int)<=a)/\(vu b/\((0<=(5:Int)/\(5:Int)<a)/\((nU b !=aO x.2 (5:Int))=false->((0<=(0:Int)/\(0:Int)<a)/\((0<=(1:Int)/\(1:Int)<a)/\((0<=(2:Int)/\(2:Int)<a)/\((0<=(3:Int)/\3<a)/\0<=(4:Int)/\4<a)))))))))))
def Vr:Fv:={p:=Ty.pair dT dT,ax:= [some 5,some 5],r:=ae,ao:=ah.one none,fs:= [140],F:=FU}
theorem ail:qR (some Vr):=BJ (λg hg=>by
 simp only[Vr,avv,axw,aA1]at hg;rcases hg with rfl
 ·exact⟨Xb,_,func140,by kernel_rfl,by kernel_rfl⟩)
def Ug:LS (Ty.pair ae aw).den:=aH (Ty.pair da (Ty.pair Af dT)) (Ty.pair ae ae) [(0,none),(2,none)] [(4,5)] [(9,none),(10,none)] [] [] [] [(4,4)] 0 false uV rZ sg
theorem Jo(k:(Ty.pair da (Ty.pair Af dT)).den)(x:(Ty.pair ae ae).den)(fk:Fit (Ty.pair da (Ty.pair Af dT)) k)(h:uV k x):bf false uV sg k x (rZ k x):=by
 try dsimp only[Ty.den]at*
 obtain⟨h0,h1,h2,h3,h4⟩:=h;unfold rZ;refine bf.cnd (λhc=> ?_) (λ_=>rfl);rw[adv]at hc;have e:=zt h0 h1 (aw1 h2 (oP h3));have r:=CB h0 hc h2;rw[e,aA (x:=(x.1+x.2)/2+1) (by omega) (by omega)];refine bf.cnd (λ_=>⟨rfl,⟨?_,?_,h2,h3,h4⟩,?_⟩) (λ_=>⟨rfl,⟨h0,?_,?_,h3,h4⟩,?_⟩)
 ·exact abt h0 hc
 ·exact abR h0 hc
 ·exact acK h0 hc
 ·exact aaR h0 hc
 ·exact aw1 (aBv (Vl h0 hc)) h2
 ·exact abc h0 hc
def X9(z:List (Nat×List Nat)):=dN (It true) ym ail JD z
theorem aiV:bF f197 LD [0] Ug:=lA (X9 []) [] l0 (λk x fk fx h=>sl (letI a:=i64.wrap (Int.fdiv (u64.wrap (i64.wrap (x.1+x.2))) (2^min (1:Int).toNat u64.bits));decide (x.1<x.2)=true->0<=(1:Int)/\(0<=a/\a<k.1.length)/\(∃g,k.2.1=some g/\g∈ [140])) (by
 try dsimp only[Ty.den]at*
 obtain⟨h0,h1,h2,h3,h4⟩:=h;intro hc;rw[adv]at hc;have e:=zt h0 h1 (aw1 h2 (oP h3));rw[e];exact⟨by decide,CB h0 hc h2,_,h4,by simp⟩)) Jo
theorem aoQ:ar 197 LD:=au (X9 []) func197 [(3,Ug)] (lc aiV l0) (sp λx fx h=>sl (letI b:=x.1.length;letI c:=(x.1,x.2.2,x.2.1);letI a:=DT c (0,b);letI d:=decide (a.1<b);uV c (0,b)/\(d=true->0<=a.1/\a.1<b)/\(d=true-> ∃g,x.2.2=some g/\g∈ [140])) (by
 try dsimp only[Ty.den]at*
 obtain⟨h0,h1⟩:=h;have hin:uV (x.1,x.2.2,x.2.1) ((0:Int),((x.1).length:Int)):=⟨au4 _,auz _,au4 _,h0,h1⟩;have hI:=oE (λy hy=>Jo (x.1,x.2.2,x.2.1) y ⟨fx.1,fx.2.2,fx.2.1⟩ hy) (λy k' z hz=>by
  unfold rZ at hz;revert hz
  cases decide (y.1<y.2)with
  |true=>rw[auw];unfold cond;split<;>intro hz<;>cases hz
  |false=>intro hz;cases hz;rfl) (Nat.succ (sg (x.1,x.2.2,x.2.1) ((0:Int),((x.1).length:Int)))) _ hin
 have g0:0<=(DT (x.1,x.2.2,x.2.1) ((0:Int),((x.1).length:Int))).1:=hI.1;refine⟨hin,λhc=> ?_,λ_=>⟨_,h1,by simp⟩⟩;rw[adv]at hc;exact⟨g0,hc⟩))
theorem asl:ar 53 abS:=au (bm []) func53 [] l0 (λ_ _ _=>tr)
theorem asu:dP 91 MN:=dV (bm [(999999,[5])]) func91 [] l0 (sp λx fx h=>sl ((x= []->True/\([],())=(([]:List Int)++x,()))/\(List.length (([]:List Int):List Int)+List.length (x:List Int))*8<=140737488355328/\List.length (([]:List Int):List Int)+List.length (x:List Int)<=4611686018427387903) (by
 try dsimp only[Ty.den]at*
 have h:x.length<=100000:=h;exact oC h))
theorem atX:dP 92 Nk:=dV (bm [(999999,[5])]) func92 [] l0 (sp λx fx h=>sl (letI a:=(x:List Bool);(x= []->True/\([],())=(([]:List Bool)++x,()))/\(List.length (([]:List Bool):List Bool)+List.length a)*1<=140737488355328/\List.length (([]:List Bool):List Bool)+List.length a<=4611686018427387903) (by
 try dsimp only[Ty.den]at*
 have h:x.length<=100000:=h;exact oC h))
theorem as0:dP 93 MW:=dV (bm [(999999,[5])]) func93 [] l0 (sp λx fx h=>sl (letI a:=az;(x= []->True/\([],())=(([]:List a)++x,()))/\(List.length (([]:List a):List a)+List.length (x:List a))*40<=140737488355328/\List.length (([]:List a):List a)+List.length (x:List a)<=4611686018427387903) (by
 try dsimp only[Ty.den]at*
 have h:x.length<=100000:=h;exact oC h))
theorem anK:ar 101 Xk:=au (bm []) func101 [] l0 (λ_ _ _=>tr)
theorem Xm:ar 104 Y4:=au (bm []) func104 [] l0 (λ_ _ _=>tr)
theorem Za:ar 257 Y5:=au (bm []) func257 [] l0 (λ_ _ _=>tr)
theorem Xi:ar 261 WA:=au (bm []) func261 [] l0 (λ_ _ _=>tr)
def V0:LS aw.den:=aH (Ty.pair ae MS) ae [(0,none),(14,some 36)] [] [(15,none)] [] [] [] [] 0 true DG DP DW
theorem amt:bF f58 M1 [0] V0:=have E:=ai @DG.eq_1<|ai @DW.eq_1<|ai @DP.eq_1 SN;lA (bm []) [] l0 (λk x fk fx h=>sm (decide (x<36)=true->0<=x/\x<36))
theorem atU:ar 58 M1:=have E:=ai @DG.eq_1 SN;au (bm []) func58 [(4,V0)] (lc amt l0) (λx fx _=>sl ((x.1<1||x.1>16)=false->DG (x.1,x.2.2) 0))
theorem apf:ar 105 Xv:=au (bm []) func105 [] l0 (λ_ _ _=>tr)
theorem Wp:ar 107 Zr:=au (bm []) func107 [] l0 (λ_ _ _=>tr)
theorem apu:ar 108 XS:=au (bm []) func108 [] l0 (λ_ _ _=>tr)
theorem aqE:ar 145 XQ:=au (bm []) func145 [] l0 (λ_ _ _=>tr)
theorem apb:ar 146 Z5:=have E:=SN;au (bm []) func146 [] l0 (λx fx _=>sl ((x.2.2 !=1&&x.2.2 !=2)=false->0<=x.2.2/\x.2.2<3))
theorem abK:ar 66 ab6:=au (bm []) func66 [] l0 (λ_ _ _=>tr)
theorem atA:dP 86 MC:=dV (bm [(999999,[5])]) func86 [] l0 (sp λx fx h=>sl (letI a:=bE;(x= []->True/\([],())=(Zu x,()))/\(List.length (([]:List a):List a)+List.length (x:List a))*296<=140737488355328/\List.length (([]:List a):List a)+List.length (x:List a)<=4611686018427387903) (by
 try dsimp only[Ty.den]at*
 have h:x.length<=100000:=h;exact oC h))
theorem asv:dP 88 Nn:=dV (bm [(999999,[5])]) func88 [] l0 (sp λx fx h=>sl (letI a:=iE;(x= []->True/\([],())=(([]:List a)++x,()))/\(List.length (([]:List a):List a)+List.length (x:List a))*112<=140737488355328/\List.length (([]:List a):List a)+List.length (x:List a)<=4611686018427387903) (by
 try dsimp only[Ty.den]at*
 have h:x.length<=100000:=h;exact oC h))
theorem arT:dP 89 Ng:=dV (bm [(999999,[5])]) func89 [] l0 (sp λx fx h=>sl ((x= []->True/\([],())=(([]:List Int)++x,()))/\(List.length (([]:List Int):List Int)+List.length (x:List Int))*8<=140737488355328/\List.length (([]:List Int):List Int)+List.length (x:List Int)<=4611686018427387903) (by
 try dsimp only[Ty.den]at*
 have h:x.length<=100000:=h;exact oC h))
theorem ar3:dP 94 Np:=dV (bm [(999999,[5])]) func94 [] l0 (sp λx fx h=>sl (letI a:=af;(x= []->True/\([],())=(([]:List a)++x,()))/\(List.length (([]:List a):List a)+List.length (x:List a))*8<=140737488355328/\List.length (([]:List a):List a)+List.length (x:List a)<=4611686018427387903) (by
 try dsimp only[Ty.den]at*
 have h:x.length<=100000:=h;exact oC h))
theorem arI:dP 87 MM:=dV (bm [(999999,[5])]) func87 [] l0 (sp λx fx h=>sl (letI a:=Int×Int×Int×List (ay)×ir;(x= []->True/\([],())=(([]:List a)++x,()))/\(List.length (([]:List a):List a)+List.length (x:List a))*64<=140737488355328/\List.length (([]:List a):List a)+List.length (x:List a)<=4611686018427387903) (by
 try dsimp only[Ty.den]at*
 have h:x.length<=100000:=h;exact oC h))
theorem arY:ar 95 ac0:=au (bm [(999999,[5])]) func95 [] l0 (sp λx fx h=>sl (letI a:=ay;(x= []->True/\ []=([]:List a)++x)/\(List.length (([]:List a):List a)+List.length (x:List a))*24<=140737488355328/\List.length (([]:List a):List a)+List.length (x:List a)<=4611686018427387903) (by
 try dsimp only[Ty.den]at*
 have h:x.length<=100000:=h;exact af8 h))
theorem arE:ar 168 ZM:=au (bm []) func168 [] l0 (λ_ _ _=>tr)
theorem anA:ar 238 YR:=have E:=SN;au (bm []) func238 [] l0 (λx fx _=>sl ((x.2==32)=false->(x.2==33)=false->(x.2==34)=false->(x.2==35)=false->(x.2>=0&&x.2<32)=true->0<=x.2))
theorem anG:ar 239 ZY:=have E:=SN;au (bm []) func239 [] l0 (λx fx _=>sl (letI a:=x.2.1;(a==32)=false->(a==33)=false->(a==34)=false->(a==35)=false->(a>=0&&a<32)=true->0<=a/\(x.2.2=true->0<=a)))
theorem an3:ar 207 Zk:=au (bm []) func207 [] l0 (λ_ _ _=>tr)
theorem aoO:ar 171 ZO:=au (bm []) func171 [] l0 (λ_ _ _=>tr)
def Tf:LS (Ty.pair gd aw).den:=aH (Ty.pair ae (Ty.pair gd (Ty.pair ae aS))) (Ty.pair gd ae) [(1,none),(11,none),(12,none)] [(5,2)] [(8,none),(13,none)] [] [(0,100300,true,191)] [] [(5,5)] 0 true C6 so sd
theorem ajR:bF f240 L0 [0] Tf:=have E:=ai @C6.eq_1<|ai @sd.eq_1<|ai @so.eq_1 SN;lA (bm []) [] l0 (λk x fk fx h=>sm (letI b:=aa k.2.1 x.2;letI c:=i64.wrap (b.2.2+1);letI d:=ay;letI a:=([(b.1,b.2.1,c)]:List d);decide (x.2<k.2.2.1)=true->(0<=x.2/\x.2<k.2.1.length)/\(decide (c>k.1)=false->(!dO (k.2.2.2,b.1,b.2.1))=true->(List.length (x.1:List d)+List.length a)*24<=140737488355328/\List.length (x.1:List d)+List.length a<=4611686018427387903)))
theorem an6:ar 240 L0:=have E:=ai @C6.eq_1<|ai @Ef.eq_1 SN;au (bm []) func240 [(3,Tf)] (lc ajR l0) (sp λx fx h=>sl (C6 (x.2.1,x.1,x.1.length,x.2.2) ([],0)))
theorem ata:ar 97 aaA:=au (bm []) func97 [] l0 (sp λx fx h=>sf (letI a:=Int.fdiv (u32.wrap (u32.wrap ((BitVec.ofInt u32.bits x&&&BitVec.ofInt u32.bits (u32.wrap (0-x))).toNat)*125613361)) (2^min (27:Int).toNat u32.bits);letI b:=x==0;(b=true->True)/\(b=false->0<=(27:Int)/\(0<=a/\a<32)/\True)) (by
 try dsimp only[Ty.den]at*
 simp only[vT]at h;refine⟨λ_=>trivial,λ_=>⟨by omega,?_,trivial⟩⟩;rw[d27,aw8];omega))
theorem arL:ar 96 acI:=au (bm []) func96 [] l0 (λ_ _ _=>tr)
theorem atw:ar 98 aaH:=au (bm []) func98 [] l0 (sp λx fx h=>sf (letI a:=u32.wrap ((BitVec.ofInt u32.bits (Int.fdiv x (2^min (16:Int).toNat u32.bits))&&&BitVec.ofInt u32.bits (255:Int)).toNat:Int);letI b:=u32.wrap ((BitVec.ofInt u32.bits (Int.fdiv x (2^min (8:Int).toNat u32.bits))&&&BitVec.ofInt u32.bits (255:Int)).toNat:Int);letI c:=u32.wrap ((BitVec.ofInt u32.bits x&&&BitVec.ofInt u32.bits 255).toNat:Int);letI d:=Lib.pop8tab.size;letI e:=Int.fdiv x (2^min (24:Int).toNat u32.bits);0<=(24:Int)/\(0<=e/\e<d)/\0<=(16:Int)/\(0<=a/\a<d)/\0<=(8:Int)/\(0<=b/\b<d)/\(0<=c/\c<d)/\True) (by
 try dsimp only[Ty.den]at*
 simp only[oS]at h;have hs:((Lib.pop8tab).size:Int)=256:=by rw[ahg];rfl
 rw[hs,d24,d16,d8,My _ (by omega) (by omega),My _ (by omega) (by omega),My _ (by omega) (by omega)];refine⟨by omega,⟨by omega,by omega⟩,by omega,⟨by omega,by omega⟩,by omega,⟨by omega,by omega⟩,⟨by omega,by omega⟩,trivial⟩))
theorem aua:ar 50 acp:=have E:=SN;au (bm []) func50 [] l0 (λx fx _=>sl (letI a:=i64.wrap 0+1;letI b:=i64.wrap 0+2;letI c:=i64.wrap a+2;(x.1=true->(x.2.1=true->0<=c/\c<4)/\(x.2.1=false->0<=a/\a<4))/\(x.1=false->(x.2.1=true->0<=b/\b<4)/\(x.2.1=false->0<=(0:Int)/\(0:Int)<4))))
theorem an9:ar 173 Yn:=au (bm []) func173 [] l0 (λ_ _ _=>tr)
theorem ap6:gG prog bC 174 Ll:=akl (q:=J7) rfl (λ_ h=>h)
theorem apc:ar 249 Yd:=au (bm []) func249 [] l0 (λ_ _ _=>tr)
theorem apB:dY prog bC 252 YL:=Th (q:=Ki) rfl (λ_ h=>h)
theorem aqO:ar 279 aab:=have E:=ai @mm.eq_1 SN;au (bm []) func279 [] l0 (sp λx fx h=>sl (0<=x.1.2.1/\x.1.2.1<x.1.1.1.length))
def Sw:LS aw.den:=aH (Ty.pair cX (Ty.pair ae bN)) ae [(6,none),(7,none)] [(1,4)] [(8,none)] [] [] [] [(1,1)] 0 true CF JB IX
theorem aiQ:bF f281 K8 [0] Sw:=have E:=ai @CF.eq_1<|ai @IX.eq_1<|ai @JB.eq_1 SN;lA (bm []) [] l0 (λk x fk fx h=>sm (letI a:=aa k.1 x;decide (x<k.2.1)=true->(0<=x/\x<k.1.length)/\((a==1||a==2||a==3)=false->0<=x/\x<k.2.2.2.2.1.length)))
theorem anR:ar 281 K8:=have E:=ai @CF.eq_1<|ai @zw.eq_1 SN;au (bm []) func281 [(2,Sw)] (lc aiQ l0) (sp λx fx h=>sl (CF (x.1,x.1.length,x) 0))
theorem anV:dP 282 L9:=dV (bm [(999999,[9])]) func282 [] l0 (λ_ _ _=>tr)
theorem aon:dP 280 Lh:=dV (bm []) func280 [] l0 (λ_ _ _=>tr)
def Rz:LS aw.den:=aH (Ty.pair ae (Ty.pair da ae)) ae [(1,none),(8,none),(9,none)] [] [(10,none)] [] [] [] [] 0 true C7 Jh Jt
theorem ajs:bF f254 Mh [0] Rz:=have E:=ai @C7.eq_1<|ai @Jt.eq_1<|ai @Jh.eq_1 SN;lA (bm []) [] l0 (λk x fk fx h=>sm (decide (x<k.2.2)=true->0<=x/\x<k.2.1.length))
theorem aqd:ar 254 Mh:=have E:=ai @C7.eq_1 SN;au (bm []) func254 [(2,Rz)] (lc ajs l0) (λx fx _=>sl (C7 (x.2,x.1.2.2.2,x.1.2.2.2.length) 0))
theorem apH:ar 216 Yx:=au (bm []) func216 [] l0 (λ_ _ _=>tr)
theorem aqa:ar 265 XL:=au (bm []) func265 [] l0 (λ_ _ _=>tr)
theorem aoG:ar 179 Ya:=au (bm []) func179 [] l0 (λ_ _ _=>tr)
theorem aoH:dY prog bC 268 XB:=Th (q:=KI) rfl (λ_ h=>h)
theorem an2:ar 256 Yq:=au (bm []) func256 [] l0 (λ_ _ _=>tr)
theorem aq2:ar 255 XZ:=au (bm []) func255 [] l0 (λ_ _ _=>tr)
theorem anP:ar 221 Z1:=have E:=ai @Kx.eq_1 SN;au (bm []) func221 [] l0 (sp λx fx h=>sl ((0<=x/\x=x/\x*8<=140737488355328/\x<=4611686018427387903)/\0<=x/\x=x/\x*1<=140737488355328/\x<=4611686018427387903))
theorem anx:jP 284 Zz:=rj (bm []) func284 [] l0 (λ_ _ _=>tr)
theorem apN:ar 300 Zp:=au (bm []) func300 [] l0 (λ_ _ _=>tr)
theorem aru:ar 301 Wz:=au (bm []) func301 [] l0 (λ_ _ _=>tr)
theorem apx:ar 302 XH:=have E:=ai @vr.eq_1 SN;au (bm []) func302 [] l0 (sp λx fx h=>sl ((0<=x.1)/\(0<=(1:Int))))
theorem arq:ar 303 Yz:=au (bm []) func303 [] l0 (sp λx fx h=>sf (letI a:=Int.fdiv x (2^min (16:Int).toNat u32.bits);letI b:=2^min (8:Int).toNat u32.bits;letI c:=Lib.len8tab.size;letI d:=u8.wrap (Int.fdiv a b);letI e:=u8.wrap (Int.fdiv x b);letI f:=decide (x>=65536);letI g:=decide (a>=256);letI h:=decide (x>=256);letI i:=u8.wrap a;letI j:=u8.wrap x;letI l:=0<=(8:Int);(f=true->0<=(16:Int)/\(g=true->l/\(0<=d/\d<c)/\True)/\(g=false->(0<=i/\i<c)/\True))/\(f=false->(h=true->l/\(0<=e/\e<c)/\True)/\(h=false->(0<=j/\j<c)/\True))) (by
 try dsimp only[Ty.den]at*
 simp only[DA]at h;have hs:((Lib.len8tab).size:Int)=256:=by rw[ahA];rfl
 simp only[hs,d16,d8,av1,adv,aut];repeat' (first|exact trivial|apply And.intro|intro _)
 all_goals omega))
def SM:=aH (Ty.pair cX ae) (Ty.pair ae (Ty.pair ae ae)) [(13,none),(14,none)] [] [(5,none),(6,none),(15,none)] [] [] [13] [] 0 false Dg uG yK
theorem aj8:tM f304 [0] SM:=have E:=ai @Dg.eq_1<|ai @yK.eq_1<|ai @uG.eq_1 SN;lP (bm []) [] l0 (λk x fk fx h=>sm (decide (x.2.2<k.2)=true->0<=x.2.2/\x.2.2<k.1.length))
theorem aph:jP 304 ZF:=have E:=ai @Dg.eq_1<|ai @ql.eq_1 SN;rj (bm []) func304 [(3,SM)] (lc aj8 l0) (afT λx h=>sl (letI a:=([x.2.2]:List Int);letI b:=(x.1:List Int);letI c:=x.1++ [x.2.2];((List.length b+List.length a)*8<=140737488355328/\List.length b+List.length a<=4611686018427387903)/\Dg (c,c.length) (0,x.2.1,0)))
theorem aqP:ar 299 ZG:=au (bm []) func299 [] l0 (λ_ _ _=>tr)
theorem ap5:ar 298 Yb:=au (bm []) func298 [] l0 (λ_ _ _=>tr)
theorem aqH:ar 263 XV:=have E:=SN;au (bm []) func263 [] l0 (λx fx _=>sl (letI a:=aP;letI e:=x.2.2.2;letI b:=([(3,x.2.1,x.2.2.1,e.1,0)]:List a);letI c:=([(7,x.2.1,x.2.2.1,1,e.2.1)]:List a);letI d:=([(7,x.2.1,x.2.2.1,0,e.2.1)]:List a);letI f:=((x.1.2.2.2.1 !=e.2.1)||(x.1.2.2.2.2 !=e.2.2));letI g:=x.1.2.2.1 !=e.1;(f=true->((e.2.2=true->(((List.length ([]:List a)+List.length c)*40<=140737488355328/\List.length ([]:List a)+List.length c<=4611686018427387903)/\(g=true->(List.length c+List.length b)*40<=140737488355328/\List.length c+List.length b<=4611686018427387903)))/\(e.2.2=false->(List.length ([]:List a)+List.length d*40<=140737488355328/\List.length ([]:List a)+List.length d<=4611686018427387903)/\(g=true->(List.length d+List.length b)*40<=140737488355328/\List.length d+List.length b<=4611686018427387903))))/\(f=false->g=true->List.length ([]:List a)+List.length b*40<=140737488355328/\List.length ([]:List a)+List.length b<=4611686018427387903)))
theorem am5:ar 231 WX:=au (bm []) func231 [] l0 (λ_ _ _=>tr)
theorem apa:ar 185 WL:=au (bm []) func185 [] l0 (λ_ _ _=>tr)
theorem as3:ar 14 aba:=au (bm []) func14 [] l0 (λ_ _ _=>tr)
theorem asO:ar 17 acn:=au (bm []) func17 [] l0 (λ_ _ _=>tr)
theorem atN:ar 18 acQ:=au (bm []) func18 [] l0 (λ_ _ _=>tr)
theorem atH:ar 67 aby:=have E:=SN;au (bm []) func67 [] l0 (λx fx _=>sl (letI a:=0<=u64.wrap x.1;letI b:=x.2==1;(x.1<0||x.1>31)=false->(b=true->a)/\(b=false->(x.2==2)=true->a)))
theorem apQ:ar 112 WR:=have E:=SN;au (bm []) func112 [] l0 (λx fx _=>sl (letI a:=u64.wrap x.2.1;letI b:=x.2.2==1;(x.2.1<0||x.2.1>31)=false->(b=true->0<=a)/\((b&&u32.wrap ((BitVec.ofInt u32.bits (Int.fdiv x.1.1 (2^min a.toNat u32.bits))&&&BitVec.ofInt u32.bits 1).toNat)==1)=false->(x.2.2==2)=true->0<=a)))
def RT:LS aw.den:=aH (Ty.pair cX (Ty.pair cX ae)) ae [(0,none),(1,none),(12,none)] [] [(13,none)] [] [] [] [] 0 true Dm Dr Jn
theorem ajp:bF f113 K5 [0] RT:=have E:=ai @Dm.eq_1<|ai @Jn.eq_1<|ai @Dr.eq_1 SN;lA (bm []) [] l0 (λk x fk fx h=>sm (decide (x<k.2.2)=true->(0<=x/\x<k.1.length)/\0<=x/\x<k.2.1.length))
theorem aoA:ar 113 K5:=have E:=ai @Dm.eq_1 SN;au (bm []) func113 [(4,RT)] (lc ajp l0) (λx fx _=>sl (letI a:=(x.1.length:Int);(a !=x.2.length)=false->Dm (x.1,x.2,a) 0))
def SU:LS aw.den:=aH (Ty.pair gm (Ty.pair gm ae)) ae [(0,none),(1,none),(12,none)] [] [(13,none)] [] [] [] [] 0 true CZ CE I4
theorem aja:bF f114 L8 [0] SU:=have E:=ai @CZ.eq_1<|ai @I4.eq_1<|ai @CE.eq_1 SN;lA (bm []) [] l0 (λk x fk fx h=>sm (decide (x<k.2.2)=true->(0<=x/\x<k.1.length)/\0<=x/\x<k.2.1.length))
theorem aqU:ar 114 L8:=have E:=ai @CZ.eq_1 SN;au (bm []) func114 [(4,SU)] (lc aja l0) (λx fx _=>sl (letI a:=(x.1.length:Int);(a !=x.2.length)=false->CZ (x.1,x.2,a) 0))
def RJ:LS aw.den:=aH (Ty.pair da (Ty.pair da ae)) ae [(0,none),(1,none),(12,none)] [] [(13,none)] [] [] [] [] 0 true De Cr JK
theorem ajZ:bF f115 K7 [0] RJ:=have E:=ai @De.eq_1<|ai @JK.eq_1<|ai @Cr.eq_1 SN;lA (bm []) [] l0 (λk x fk fx h=>sm (decide (x<k.2.2)=true->(0<=x/\x<k.1.length)/\0<=x/\x<k.2.1.length))
theorem aov:ar 115 K7:=have E:=ai @De.eq_1 SN;au (bm []) func115 [(4,RJ)] (lc ajZ l0) (λx fx _=>sl (letI a:=(x.1.length:Int);(a !=x.2.length)=false->De (x.1,x.2,a) 0))
def adm(nw:Bool):=(116,.pv Le)::(91,.pv MN)::(92,.pv Nk)::(93,.pv MW)::(86,.pv MC)::(88,.pv Nn)::(89,.pv Ng)::(94,.pv Np)::(87,.pv MM)::(174,.pv Ll)::(282,.pv L9)::(280,.pv Lh)::abr nw
theorem yl(nw:Bool):gj (adm nw):=zc (z:= .pv Le) an4 func116 (zc (z:= .pv MN) asu func91 (zc (z:= .pv Nk) atX func92 (zc (z:= .pv MW) as0 func93 (zc (z:= .pv MC) atA func86 (zc (z:= .pv Nn) asv func88 (zc (z:= .pv Ng) arT func89 (zc (z:= .pv Np) ar3 func94 (zc (z:= .pv MM) arI func87 (zc (z:= .pv Ll) ap6 func174 (zc (z:= .pv L9) anV func282 (zc (z:= .pv Lh) aon func280 ((It nw)))))))))))))
def acj:=(284,Zz)::(304,ZF)::aa8
theorem yi:ia acj:=pc anx func284 (pc aph func304 (ym))
def aaN:=(74,Nl)::(147,Yl)::(197,LD)::(53,abS)::(101,Xk)::(104,Y4)::(257,Y5)::(261,WA)::(58,M1)::(105,Xv)::(107,Zr)::(108,XS)::(145,XQ)::(146,Z5)::(66,ab6)::(95,ac0)::(168,ZM)::(238,YR)::(239,ZY)::(207,Zk)::(171,ZO)::(240,L0)::(97,aaA)::(96,acI)::(98,aaH)::(50,acp)::(173,Yn)::(249,Yd)::(252,YL)::(279,aab)::(281,K8)::(254,Mh)::(216,Yx)::(265,XL)::(179,Ya)::(268,XB)::(256,Yq)::(255,XZ)::(221,Z1)::(300,Zp)::(301,Wz)::(302,XH)::(303,Yz)::(299,ZG)::(298,Yb)::(263,XV)::(231,WX)::(185,WL)::(14,aba)::(17,acn)::(18,acQ)::(67,aby)::(112,WR)::(113,K5)::(114,L8)::(115,K7)::aa0
theorem yI:cu aaN:=gc asm func74 (gc aq0 func147 (gc aoQ func197 (gc asl func53 (gc anK func101 ((gc Xm func104 (gc Za func257 (gc Xi func261 (gc atU func58 (gc apf func105 (gc Wp func107 (gc apu func108 (gc aqE func145 (gc apb func146 (gc abK func66 (gc arY func95 (gc arE func168 (gc anA func238 (gc anG func239 (gc an3 func207 (gc aoO func171 (gc an6 func240 (gc ata func97 (gc arL func96 (gc atw func98 (gc aua func50 (gc an9 func173 (gc apc func249 (gc apB func252 (gc aqO func279 (gc anR func281 (gc aqd func254 (gc apH func216 (gc aqa func265 (gc aoG func179 (gc aoH func268 (gc an2 func256 (gc aq2 func255 (gc anP func221 (gc apN func300 (gc aru func301 (gc apx func302 (gc arq func303 (gc aqP func299 (gc ap5 func298 (gc aqH func263 (gc am5 func231 (gc apa func185 ((((gc as3 func14 (gc asO func17 (gc atN func18 (gc atH func67 (gc apQ func112 (gc aoA func113 (gc aqU func114 (gc aov func115 (JD))))))))))))))))))))))))))))))))))))))))))))))))))))))))))))
section
section
variable {b:ab} (hB:aK b)
include hB
theorem A5:nc b<=8/\1<=nc b:=⟨hB.cn.2,hB.cn.1⟩
theorem lB:b.aL.length<=maxLen:=by have h1:=hB.cn.2;grind [maxLen]
theorem aes(x:bA):(om (b,x)).2.2.length=nc b:=by
 rw[Hz _ (A5 hB).1];exact G2 _ _
theorem adN(x:bA):gV (b,om (b,x))=(fB (bw (gO (dD b) (zV b x))),0):=by
 have a:=amL hB (lB hB) x;rw[Hz _ (A5 hB).1,KQ _ (lB hB) _ (by rw[<- Hz _ (A5 hB).1,aes hB];grind [A5]) a.2];grind [jW]
theorem aed(x:bA):(gV (b,om (b,x))).1.size=14+19*nc b:=by
 rw[adN hB,He,jq,xK];show 12+19*(uN _ _).length+2=_;grind [G2]
theorem aeH(y:lE): ∃z,xj (b,y)=om (b,z):=by
 unfold xj;cases(Int.tmod (b,y).2.1 3)==0<;>cases(Int.tmod (b,y).2.2.2.1 4)==0<;>exact⟨_,rfl⟩
theorem aec(y:lE):(gV (b,xj (b,y))).1.size=14+19*nc b:=by
 obtain⟨z,h⟩:=aeH hB y;rw[h,aed hB]
end
theorem iX{l:List Int}(h:cr l)(i:Int):B6 (aa (bc ([0,0,0,0,0,0]:List Int) l) 0,aa (bc ([0,0,0,0,0,0]:List Int) l) 1,aa (bc ([0,0,0,0,0,0]:List Int) l) 2,aa (bc ([0,0,0,0,0,0]:List Int) l) 3,aa (bc ([0,0,0,0,0,0]:List Int) l) 4,aa (bc ([0,0,0,0,0,0]:List Int) l) 5):=by
 have hb:cr (bc ([0,0,0,0,0,0]:List Int) l):=by
  intro x a;unfold bc at a;rcases List.mem_append.1 a with a|a
  ·exact h x (awg a)
  grind
 have k: ∀j:Int,0<=aa (bc ([0,0,0,0,0,0]:List Int) l) j/\aa (bc ([0,0,0,0,0,0]:List Int) l) j<=255:=λj=>iK hb j.toNat
 exact⟨k 0,k 1,k 2,k 3,k 4,k 5⟩
theorem fr3{i n m:Int}(h0:0<=i)(h1:i<=n)(h2:n<=m)(h3:m<=1000):i64.wrap (6*i)=6*i:=aA (by omega) (by omega)
theorem ast{α:Type}{l m:List α}{n:Int}(h:n<=l.length):n<=((l++m).length:Int):=by grind
theorem ass{α:Type}(l:List α)(a:α):l.length+1<=((l++ [a]).length:Int):=by simp
theorem ar1{i n m:Int}(h0:0<=i)(h1:i<=n)(h2:n<=m)(h3:m<=1000):i64.wrap (i+1)=i+1:=aA (by omega) (by omega)
theorem cE{i:Int}(h0:0<=i):0<=i+1:=by omega
theorem auf{i n m:Int}(h0:0<=i)(h1:i<=n)(h2:n<m)(h3:m<=1000):(1001 - (i+1)).toNat<(1001-i).toNat:=by omega
theorem fr4:(0:Int)<=4:=by decide
theorem fr5{n m:Nat}(h:n=14+19*m):1<=n:=by omega
theorem fr6{n m:Nat}(h:n=14+19*m)(a:m<=8):n<=1000:=by omega
theorem fr7{j:Int}(h0:0<=j)(h1:j<=4):(5 - (j+1)).toNat<(5-j).toNat:=by omega
theorem fr8{α:Type}{l m:List α}{n:Int}(h:l.length<n)(hm:m.length=1:=by rfl):((l++m).length:Int)<=n:=by grind
theorem fr9{j t:Int}(h0:0<=j)(h1:j<=t)(h2:t<=3):i64.wrap (j+1)=j+1/\0<=j+1/\j+1<=4:=⟨aA (by omega) (by omega),by omega,by omega⟩
theorem af6{l:List Int}(h:cr l)(a b:Int):cr (bM l a b):=λx f=>h x (awg (awx f))
end
def pR(fl t:Int)(i:Nat):gE:=(100,2,6,5,1+t % 3,1+t/3 % 3,1+t/9 % 3,1+t/9 % 3+t/27 % 5,(i+t) % fl)
def iL(fl t:Int)(n i:Nat):List gE:=(List.range n).map (λj=>if j<i then pR fl t j else ud fl j)
theorem CX(fl t:Int)(n i:Nat):(iL fl t n i).length=n:=by simp[iL]
def jI(fl t:Int)(n i:Nat):ab:=(fl,1,4000,30,4591870180066957722,4605380978949069210,4607632778762754458,iL fl t n i)
def zA(fl t:Int)(n:Nat):ab:=(fl,1,4000,1+t % 7,4591870180066957722,4605380978949069210,4607632778762754458,(List.range n).map (pR fl t))
theorem ah5(l:List gE)(i:Nat)(v:gE)(h:i<l.length):aa (aJ gg l i v) i=v:=by
 show aa (l.set i v) i=v;rw[bH _ _ (by simp_all),List.getElem_set_self]
theorem afJ(l:List gE)(i:Nat)(v w:gE):aJ gg (aJ gg l i v) i w=aJ gg l i w:=by
 show(l.set i v).set i w=l.set i w;simp_all
theorem ai3(fl t:Int)(n i:Nat)(h:i<n):aa (iL fl t n i) i=ud fl i:=by
 simp_all [iL,bH]
theorem akI(fl t:Int)(n i:Nat):aJ gg (iL fl t n i) i (pR fl t i)=iL fl t n (i+1):=by
 show(iL fl t n i).set i (pR fl t i)=_;apply ay6;all_goals grind [iL]
theorem ahU{x:af}(h:(0<=x.1/\x.1<=255)/\0<=x.2/\x.2<=255):
  ji x=zA (2+x.1 % 5) x.2 (1+x.1/5 % 3).toNat:=by
 obtain⟨a,t⟩:=x;simp only at h;have h1:i64.wrap (2+(i64.wrap (Int.tmod a 5)))=2+a % 5:=by grind [uq,IntKind.wrap_i64]
 have h2:i64.wrap (1+(i64.wrap (Int.tmod (u8.wrap (Int.tdiv a 5)) 3)))=((1+a/5 % 3).toNat:Int):=by grind [uq,Is,IntKind.wrap_i64,IntKind.wrap_u8]
 have h7:i64.wrap (1+(i64.wrap (Int.tmod t 7)))=1+t % 7:=by grind [uq,IntKind.wrap_i64]
 unfold ji;simp only;rw[h1,h2,h7,PO _ _ (by omega) (by omega)];generalize s:2+a % 5=fl;generalize u:(1+a/5 % 3).toNat=n;have w:=by omega
 have y:=by omega
 have m0:lr fl n=jI fl t n 0:=by simp[lr,jI,iL]
 have d0:Int.tmod t 3=t % 3:=avq h.2.1;have d3:u8.wrap (Int.tdiv t 3)=t/3:=by grind [Int.tdiv_eq_ediv_of_nonneg,IntKind.wrap_u8]
 have d9:u8.wrap (Int.tdiv t 9)=t/9:=by grind [Int.tdiv_eq_ediv_of_nonneg,IntKind.wrap_u8]
 have d27:u8.wrap (Int.tdiv t 27)=t/27:=by rw[axj h.2.1,av1];omega
 have m3:Int.tmod (t/3) 3=t/3 % 3:=avq (by omega);have k:Int.tmod (t/9) 3=t/9 % 3:=avq (by omega);have l:Int.tmod (t/27) 5=t/27 % 5:=avq (by omega);have c1:i64.wrap (1+(i64.wrap (Int.tmod t 3)))=1+t % 3:=by rw[d0];simp only[avf];omega
 have c2:i64.wrap (1+(i64.wrap (Int.tmod (u8.wrap (Int.tdiv t 3)) 3)))=1+t/3 % 3:=by rw[d3,m3];simp only[avf];omega
 have c3:i64.wrap (1+(i64.wrap (Int.tmod (u8.wrap (Int.tdiv t 9)) 3)))=1+t/9 % 3:=by rw[d9,k];simp only[avf];omega
 have c4:i64.wrap ((1+t/9 % 3)+(i64.wrap (Int.tmod (u8.wrap (Int.tdiv t 27)) 5)))=1+t/9 % 3+t/27 % 5:=by rw[d27,l];simp only[avf];omega
 have m: ∀i:Nat,i<n->yF t (i,jI fl t n i)=iL fl t n (i+1):=by
  intro i hi;have c5:Int.tmod (i64.wrap (i+i64.wrap t)) fl=(i+t) % fl:=by
   have f:i64.wrap t=t:=by simp only[avf];omega
   have g:i64.wrap (i+t)=i+t:=by simp only[avf];omega
   rw[f,g,avq (by omega)]
  have hl:i<(iL fl t n i).length:=by rw[CX];exact hi
  have z: ∀v,i<(aJ gg (iL fl t n i) i v).length:=by intro v;show i<(List.set _ _ _).length;rw[auu];exact hl
  simp only[yF,Dk,CJ,CA,CW,jI];rw[ai3 _ _ _ _ hi];simp only[afJ,ah5 _ _ _ hl,c1,c2,c3,c4,c5,ud];exact akI fl t n i
 have hs: ∀i,i<n-> ∃k',sC t ((λi:Nat=>((i:Int),jI fl t n i)) i)= .next k' ((λi:Nat=>((i:Int),jI fl t n i)) (i+1)):=by
  intro i hi;refine⟨t,?_⟩;have f:decide (i<((jI fl t n i).2.2.2.2.2.2.2.length:Int))=true:=by
   show decide (i<((iL fl t n i).length:Int))=true;rw[CX];simp;omega
  simp only[sC,f,auw,pQ hi (show n<=maxLen by simp[maxLen];omega)];rw[m i hi];simp only[jI]
 have hb:sC t ((λi:Nat=>((i:Int),jI fl t n i)) n)= .brk t ((n:Int),jI fl t n n):=by
  have f:decide ((n:Int)<((jI fl t n n).2.2.2.2.2.2.2.length:Int))=false:=by
   show decide ((n:Int)<((iL fl t n n).length:Int))=false;rw[CX];simp
  simp only[sC,f,aur]
 have key:LW t (0,jI fl t n 0)=((n:Int),jI fl t n n):=by
  unfold LW;exact(lh _ n hs hb (by simp[D5,jI,CX])).1
 rw[m0,key];have g:iL fl t n n=(List.range n).map (pR fl t):=by
  unfold iL;apply azt;intro j o;rw[ava (List.mem_range.mp o)]
 simp only[jI,zA,g]
theorem O9(fl t:Int)(n:Nat):(zA fl t n).aL.length=n:=by
 show((List.range n).map (pR fl t)).length=n;simp_all
theorem afY(fl t:Int)(n:Nat)(h:2<=fl/\fl<=32)(f:1<=n/\n<=8)(ht:0<=t/\t<=255):aK (zA fl t n) where
 fl:=h
 cn:=by simp_all [O9]
 GB:=by show 1<=1/\1<=16;decide
 Ms:=by show 1<=1+t % 7/\1+t % 7<=10000;omega
 eU:=by
  intro c a;have a:c∈(List.range n).map (pR fl t):=a;rw[aA4]at a;obtain⟨i,hi,rfl⟩:=a;have h1:0<=(i+t) % fl:=aAu _ (by omega);have h2:(i+t) % fl<fl:=aA2 _ (by omega);grind [ez,pR,fW,zA]
 Ew:=by kernel_rfl
 room:=by rw[O9];show 18*(n:Int)+24<=4000/\4000<=65536;omega
theorem Gy{x:af}(h:(0<=x.1/\x.1<=255)/\0<=x.2/\x.2<=255):aK (ji x)/\(ji x).1<=6:=by
 rw[ahU h];exact⟨afY _ _ _ (by omega) (by omega) (by omega),by show 2+x.1 % 5<=6;omega⟩
def sF(k:Int)(x:Int×ab):Prop:=0<=x.1/\x.2.2.2.2.2.2.2.2.length<=8
def sI(k:Int)(x:Int×ab):=(x.2.2.2.2.2.2.2.2.length-x.1).toNat
def qj(k:Int)(x:Int×ab):an Int (Int×ab) ab:=letI a:=x.2.2.2.2.2;bif x.1<a.2.2.2.length then .next k (i64.wrap (x.1+1),x.2.1,x.2.2.1,x.2.2.2.1,x.2.2.2.2.1,a.1,a.2.1,a.2.2.1,aJ gg a.2.2.2 x.1 (i64.wrap (1+i64.wrap (Int.tmod k (16:Int))),(aa a.2.2.2 x.1).2))else .brk k x
def Z9 k x:=endOf qj k (Nat.succ (sI k x)) x
def tJ(x:af):=(Z9 x.2 (0,ji x)).2
def XX(x:af):Prop:=(0<=x.1/\x.1<=255)/\0<=x.2/\x.2<=255
def uL(k:ByteArray×ab)(x:(List (aP))×Int):Prop:=0<=x.2/\x.2<=k.1.size/\k.1.size<=1000000000/\6*x.1.length=x.2
def qd(k:ByteArray×ab)(x:(List (aP))×Int):=(k.1.size-x.2).toNat
def kF(k:ByteArray×ab)(x:(List (aP))×Int):an (ByteArray×ab) ((List (aP))×Int) ((List (aP))×Int):=letI a:=i64.wrap (x.2+6);letI b:=nO (k.2,ByteArray.extract k.1 (Int.toNat x.2) (Int.toNat a));bif a<=k.1.size then bif b.2 !=0 then .brk k x else .next k (x.1++ [b.1],a)else .brk k x
def Vh k x:=endOf kF k (Nat.succ (qd k x)) x
def fM(x:ab×ByteArray):=Vh (x.2,x.1) ([],0)
def JV(x:ab×ByteArray):Prop:=x.2.size<=1000000000
def bt(x:ak×af):=FN (x.1.2.2.2,(x.2.1,x.2.2,0,0,false),some 140)
def zr(x:ak×af):Prop:=x.1.2.2.2.length<=1000000
def wL(x:ak):ak:=((kZ x.1).1,(mO x.2.1).1,(mO x.2.2.1).1,(xh x.2.2.2).1)
def Vf(x:ak):Prop:=x.1.length<=100000/\x.2.1.length<=100000/\x.2.2.1.length<=100000/\x.2.2.2.length<=100000
def Yi(k:Et)(x:(List ByteArray)×eb):Prop:=0<=x.2.2/\x.2.2<=4/\1<=x.2.1.size/\x.2.1.size<=1000/\x.1.length<=k.1/\k.1<=1000/\B6 k.2
def E1(k:(Et))(x:((List ByteArray)×eb)):Nat:=(5-x.2.2).toNat
def mo(k:Et)(x:(List ByteArray)×eb):an (Et) ((List ByteArray)×eb) (List ByteArray):=letI a:=dq (ByteArray.extract x.2.1 (Int.toNat 0) (Int.toNat (i64.wrap (x.2.1.size-1)))) (ByteArray.mk #[63]);letI b:=i64.wrap (x.2.2+1);bif x.2.2<=i64.wrap (Int.tmod k.2.2.2.2.2.2 (4:Int))&&x.1.length<k.1 then bif Int.tmod k.2.2.2.2.2.1 (23:Int)==5 then .next k (x.1++ [a],a,b)else .next k (x.1++ [x.2.1],x.2.1,b)else .brk k x
def wb k x:=endOf mo k (Nat.succ (E1 k x)) x
def KV(k:(List Int)×Int×ab)(x:(List ByteArray)×Int):Prop:=letI a:=x.1.length;0<=x.2/\x.2<=a/\a<=k.2.1/\k.2.1<=1000/\cr k.1/\aK k.2.2
def LB(k:((List Int)×Int×ab))(x:((List ByteArray)×Int)):Nat:=(1001-x.2).toNat
def Vy(k:(List Int)×Int×ab)(x:(List ByteArray)×Int):=letI a:=bc ([0,0,0,0,0,0]:List Int) (bM k.1 (i64.wrap (6*x.2)) k.1.length);xj (k.2.2,aa a 0,aa a 1,aa a 2,aa a 3,aa a 4,aa a 5)
def Ku(k:(List Int)×Int×ab)(x:(List ByteArray)×Int):=letI a:=bc ([0,0,0,0,0,0]:List Int) (bM k.1 (i64.wrap (6*x.2)) k.1.length);wb (k.2.1,aa a 0,aa a 1,aa a 2,aa a 3,aa a 4,aa a 5) (x.1,(gV (k.2.2,Vy k x)).1,0)
def z8(k:(List Int)×Int×ab)(x:(List ByteArray)×Int):an ((List Int)×Int×ab) ((List ByteArray)×Int) (List ByteArray):=bif i64.wrap (6*x.2)<k.1.length&&x.1.length<k.2.1 then .next k ((Ku k x).1,i64.wrap (x.2+1))else .brk k x
def acx k x:=endOf z8 k (Nat.succ (LB k x)) x
def F9(x:ab×(List Int)×Int):=(acx (x.2.1,x.2.2,x.1) ([],0)).1
def aaP(x:ab×(List Int)×Int):Prop:=aK x.1/\cr x.2.1/\0<=x.2.2/\x.2.2<=1000
def sU(g:Nat)(x:Int):=cnd (Nat.beq g 104) (Ah x) (cnd (Nat.beq g 257) (MK x) (cnd (Nat.beq g 261) (FA x) (Ty.dflt aw)))
def Sf(k:(List Int)×(Option Nat)×Int)(x:Int):Prop:=0<=x/\k.2.2=k.1.length/\ ∃g,k.2.1=some g/\g∈ [104,257,261]
def yH(k:((List Int)×(Option Nat)×Int))(x:(Int)):Nat:=(k.2.2-x).toNat
def uW(k:(List Int)×(Option Nat)×Int)(x:Int):=bif x<k.2.2 then bif sU (Option.getD k.2.1 0) (aa k.1 x)then an.ret x else an.next k (i64.wrap (x+1))else an.brk k x
def U9 k x:=bj uW k (Nat.succ (yH k x)) x
def MI(x:(List Int)×Option Nat):=dJ (U9 (x.1,x.2,x.1.length) 0) (λy=>y) (-1)
def VL(x:(List Int)×Option Nat):Prop:= ∃g,x.2=some g/\g∈ [104,257,261]
def F57(x:Int×bE×ab):=(mb (x.2.2.2.1,x.2.1),x.2.2)
def Eh(k:Int×(List (ay))×Int×ab×bT)(x:Int):Prop:=0<=x/\k.2.2.1=k.2.1.length/\0<=k.1/\k.1<k.2.2.2.1.2.2.2.2.2.2.2.length/\k.2.1.length=k.2.2.2.2.2.2.2.1.length
def DO(k:Int×(List (ay))×Int×ab×bT)(x:Int):=(k.2.2.1-x).toNat
def zo(k:Int×(List (ay))×Int×ab×bT)(x:Int):=letI a:=aa k.2.1 x;bif x<k.2.2.1 then bif !nY (k.2.2.2.1,a.1,a.2.1)|| !gR (a.2.2,0,(aa k.2.2.2.1.2.2.2.2.2.2.2 k.1).1)||x>0&&pe (aa k.2.2.2.2.2.2.2.1 (i64.wrap (x-1)),a)>=0 then an.ret false else an.next k (i64.wrap (x+1))else an.brk k x
def Y3 k x:=bj zo k (Nat.succ (DO k x)) x
def fI(x:ab×Int×bT):=letI a:=x.2.2.2.2;letI b:=(a.2.1.length:Int);bif ca x.1 !=0|| !gR (x.2.1,0,i64.wrap (x.1.2.2.2.2.2.2.2.length-1))|| !gR (x.2.2.1,-1,i64.wrap (x.1.1-1))|| !gR (x.2.2.2.1,0,3)|| !gR (a.1,0,3)|| !gR (a.2.2.1,0,1000000)||a.2.2.2&&b>0 then false else dJ (Y3 (x.2.1,a.2.1,b,x.1,x.2.2) 0) (λy=>y) true
def FT(x:Ev):=bif x.1==0 then x.1==0&&(x.2.1==0&&(x.2.2.1==0&&(x.2.2.2.1==false&&x.2.2.2.2==0)))else x.1>=0&&x.1<=3&&FP x.2.1&&FP x.2.2.1&&FP x.2.2.2.2
def AN(x:kd):=letI a:=x.2.2;bif x.1<2||x.1>32||a.1<0||a.1>1000000||a.2<0||a.2>=x.1 then false else bif x.2.1==0 then a.2==0 else(adq (x.1,a.2,x.2.1)).2
def acq(g:Nat)(x:af):=cnd (Nat.beq g 66) (mN x) (Ty.dflt aw)
def U1(k:(Option Nat)×(List Int)×Int)(x:Int):Prop:=0<=x/\k.2.2=k.2.1.length/\k.1=some 66
def J2(k:((Option Nat)×(List Int)×Int))(x:(Int)):Nat:=(k.2.2-x).toNat
def zB(k:(Option Nat)×(List Int)×Int)(x:Int):=bif x<k.2.2 then bif !acq (Option.getD k.1 0) (x,aa k.2.1 x)then an.ret false else an.next k (i64.wrap (x+1))else an.brk k x
def YB k x:=bj zB k (Nat.succ (J2 k x)) x
def Gt(x:(List Int)×Int×Option Nat):=letI a:=x.1.length;bif a !=x.2.1 then false else dJ (YB (x.2.2,x.1,a) 0) (λy=>y) true
def KY(x:(List Int)×Int×Option Nat):Prop:=x.2.2=some 66
def VK(k:Int)(x:Int×bg):Prop:=0<=x.1/\k=x.2.2.2.2.1.length/\k<=100000/\ ∀d∈x.2.2.2.2.1,d.2.2.2.1.length<=100000
def Eg(k:(Int))(x:(Int×bg)):Nat:=(k-x.1).toNat
def vj(k:Int)(x:Int×bg):an Int (Int×bg) bg:=letI b:=x.2.2.2;letI a:=aa b.2.1 x.1;bif x.1<k then .next k (i64.wrap (x.1+1),x.2.1,x.2.2.1,b.1,aJ eH b.2.1 x.1 (a.1,a.2.1,a.2.2.1,F95 a.2.2.2.1,a.2.2.2.2),b.2.2)else .brk k x
def aqW k x:=endOf vj k (Nat.succ (Eg k x)) x
def apL(x:bg):=letI a:=x.2.2.2;aqW ((rl a.1).1.length) (0,((kZ x.1.1).1,(mO x.1.2.1).1,(mO x.1.2.2.1).1,(xh x.1.2.2.2).1),x.2.1,(wZ x.2.2.1).1,(rl a.1).1,(wX a.2.1).1,(wU a.2.2.1).1,(kZ a.2.2.2.1).1,(NA a.2.2.2.2.1).1,a.2.2.2.2.2)
def xk(x:bg):bg:=
 (apL x).2
def Ym(x:bg):Prop:=LL x
def Cn(k:(nG))(x:(Int×bE)):Prop:=(0:Int)<=x.1
def uJ(k:nG)(x:Int×bE):=(36-x.1).toNat
def rU(k:nG)(x:Int×bE):an (nG) (Int×bE) bE:=letI b:=x.1+1;letI c:=x.2.2;letI a:=i64.wrap (aa (tl c) x.1+1);bif x.1<36 then bif gT (k.2,x.1)==gT (x.2.1,x.1)then .next k (i64.wrap b,x.2.1,up c x.1 0)else bif aa (tl (up c x.1 a)) x.1==k.1 then .next k (i64.wrap b,pA (x.2.1,x.1,gT (k.2,x.1)),up (up c x.1 a) x.1 0)else .next k (i64.wrap b,x.2.1,up c x.1 a)else .brk k x
def Vj k x:=endOf rU k (Nat.succ (uJ k x)) x
def wF(x:Int×bE×eQ):=(Vj (x.1,x.2.2) (0,x.2.1)).2
def sY(x:ab×kH):=letI a:=FloatKind.f64.format.order x.2.2 ((FloatKind.f64.format.sub x.1.2.2.2.2.2.2.1 4589168020290535424).getD 0);letI b:=FloatKind.f64.format.order x.2.2 ((FloatKind.f64.format.sub x.1.2.2.2.2.2.1 4589168020290535424).getD 0);letI c:=wC (x.1,x.2.2);letI d:=x.2.1;bif ca x.1 !=0 then 0 else bif c !=0&&c<d then bif d==3 then bif b==some Ordering.gt||b==some Ordering.eq then d else c else bif d==4 then bif a==some Ordering.gt||a==some Ordering.eq then d else c else c else c
def AW(x:af):=bif AV x.1&&qW x.2==1&&ra x.2<x.1 then ra x.2 else -1
def ES(x:af):Prop:=0<=x.2/\x.2<=4294967295
def mT(x:kd):=AV x.1&&x.2.1>= -1&&x.2.1<x.1&&x.2.2.1>=0&&x.2.2.1<=3&&x.2.2.2>=0&&x.2.2.2<=3
def AH(x:ak):ak×Unit:=(((kZ x.1).1,(mO x.2.1).1,(mO x.2.2.1).1,(xh x.2.2.2).1),())
def D2(x:ak):Prop:=x.1.length<=100000/\x.2.1.length<=100000/\x.2.2.1.length<=100000/\x.2.2.2.length<=100000
def Nj(x:(ak×ir)×Int):=letI a:=aP;letI g:=(x.1,3);letI i:=(x.1,2);letI m:=AS (x.1.2.2,262,(wK i).1);letI o:=x.1.2.1;letI e:=(([(6,0,0,o,0)]:List a),0);letI f:=(([(5,0,0,o,0)]:List a),0);letI p:=x.2==4&&je i;letI q:=x.2==5&&je g;letI r:=x.2==6&&je g;letI s:=(x.1,4);letI t:=((wK g).1,0);letI u:=x.1.1;letI b:=AS (MJ u,261,([(6,0,0,o,1)]:List a));letI h:=AS (!aa u.2.1 o,262,(wK s).1);letI j:=x.2==8&&aa u.2.1 o;letI v:=x.2==2;letI w:=(x.1,0);letI n:=((wK w).1,0);letI y:=(x.1,1);letI l:=v&&je y;letI z:=aa u.2.2.1 o;letI c:=x.2==7&&je s&& !z;letI d:=v&&je s&&z;bif x.2==1&&je w then(AS (MJ u,261,(wK y).1)).1 else bif l then bif l then n else bif d then e else bif p then t else bif q then m.1 else bif r then h.1 else bif c then b.1 else bif j then f else([],260)else bif x.2==3&&je i then n else bif d then e else bif p then t else bif q then m.1 else bif r then h.1 else bif c then b.1 else bif j then f else([],260)
def Kt(x:(ak×ir)×Int):Prop:=letI a:=x.1.1;0<=x.1.2.1/\x.1.2.1<a.1.length/\a.2.1.length=a.1.length/\a.2.2.1.length=a.1.length
def I9(k:(List Bool)×(List Int)×Int×ak)(x:(List (aP))×Int):Prop:=0<=x.2/\k.2.2.1=k.2.1.length/\k.2.2.1<=8/\k.2.2.2.2.2.1.length=k.2.1.length/\k.2.2.2.2.1.length=k.2.1.length/\k.1.length=k.2.1.length/\x.1.length<=3*x.2
def CV(k:(List Bool)×(List Int)×Int×ak)(x:(List (aP))×Int):=(k.2.2.1-x.2).toNat
def uM(k:(List Bool)×(List Int)×Int×ak)(x:(List (aP))×Int):an ((List Bool)×(List Int)×Int×ak) ((List (aP))×Int) (List (aP)):=letI a:=x.1++ [(4,0,0,x.2,2)];letI b:=i64.wrap (x.2+1);letI d:=a++ [(6,0,0,x.2,0)];letI e:=(5,0,0,x.2,0);letI f:=aa k.2.2.2.2.1 x.2;letI g:=aa k.2.1 x.2;letI c:=g==4&&aa k.2.2.2.2.2.1 x.2;bif x.2<k.2.2.1 then bif !aa k.1 x.2||g !=1&& !c||Mt (k.2.2.2,x.2)then .next k (x.1,b)else bif c then bif f then .next k (d++ [e],b)else .next k (d,b)else bif f then .next k (a++ [e],b)else .next k (a,b)else .brk k x
def alh k x:=endOf uM k (Nat.succ (CV k x)) x
def lQ(x:ab×ak×List Bool):=bif !cJ (x.1,x.2.1)||(x.2.2.length:Int) !=x.1.2.2.2.2.2.2.2.length then[]else(alh (x.2.2,x.2.1.1,x.2.1.1.length,x.2.1) ([],0)).1
def mG(x:ak×Int):=letI a:=aa x.1.1 x.2;bif !qP x then false else a==0||a==1||a==4
def AK(x:ak×Int):=letI a:=aa x.1.1 x.2;qP x&&(a==0||a==4)&& !aa x.1.2.1 x.2&& !aa x.1.2.2.1 x.2
def Dn(k:(List (ay))×Int)(x:ay):Prop:=0<=x.1/\k.2=k.1.length
def JS(k:((List (ay))×Int))(x:(ay)):Nat:=(k.2-x.1).toNat
def I7(k:(List (ay))×Int)(x:ay):an ((List (ay))×Int) (ay) (af):=bif x.1<k.2 then .next k (i64.wrap (x.1+1),fc (x.2,fo ((aa k.1 x.1).1,(aa k.1 x.1).2.1)))else .brk k x
def am1 k x:=endOf I7 k (Nat.succ (JS k x)) x
def aaB(x:List (ay)):=(am1 (x,x.length) (0,0,0)).2
def Dp(k:(List aZ)×Int×(List az)×Int)(x:ay):Prop:=0<=x.1/\k.2.2.2=k.2.2.1.length/\0<=k.2.1/\k.2.1<k.1.length
def IU(k:(List aZ)×Int×(List az)×Int)(x:ay):=(k.2.2.2-x.1).toNat
def JM(k:(List aZ)×Int×(List az)×Int)(x:ay):an ((List aZ)×Int×(List az)×Int) (ay) (af):=letI a:=aa k.2.2.1 x.1;letI b:=i64.wrap (x.1+1);bif x.1<k.2.2.2 then bif a.2.2.1==k.2.1||a.2.2.1== -2&&(aa k.1 k.2.1).1 then .next k (b,fc (x.2,fo (a.1,a.2.1)))else .next k (b,x.2)else .brk k x
def aln k x:=endOf JM k (Nat.succ (IU k x)) x
def ace(x:ab×ak×(List aZ)×Int):=letI a:=(x.1.2.2.2.2.2.2.2.length:Int);letI b:=x.2.2;bif !cJ (x.1,x.2.1)||b.1.length !=a||b.2<0||b.2>=a then(0,0)else(aln (b.1,b.2,x.2.1.2.2.2,x.2.1.2.2.2.length) (0,0,0)).2
def II(k:(List (af))×(List aZ)×Int×ab)(x:Int×(List (af))×(List Bool)×af):Prop:=0<=x.1/\k.2.2.1=k.2.1.length/\k.2.2.1<=8/\k.1.length=k.2.1.length/\x.2.1.length=x.1/\x.2.2.1.length=x.1
def oF(k:(List (af))×(List aZ)×Int×ab)(x:Int×(List (af))×(List Bool)×af):=(k.2.2.1-x.1).toNat
def oH(k:(List (af))×(List aZ)×Int×ab)(x:Int×(List (af))×(List Bool)×af):an ((List (af))×(List aZ)×Int×ab) (Int×(List (af))×(List Bool)×af) (((List (af))×(List Bool)×af)×Int):=letI a:=dS (iS (k.2.2.2,aa k.2.1 x.1),x.2.2.2);letI b:=dS (a,aa k.1 x.1);bif x.1<k.2.2.1 then .next k (i64.wrap (x.1+1),x.2.1++ [a],x.2.2.1++ [!(b.1==0&&b.2==0)],fc (x.2.2.2,a))else .brk k x
def alq k x:=endOf oH k (Nat.succ (oF k x)) x
def dI(x:ab×(List aZ)×List (af)):((List (af))×(List Bool)×af)×Int:=letI a:=(x.1.2.2.2.2.2.2.2.length:Int);letI b:=x.2.1.length;bif ca x.1 !=0||b !=a||x.2.2.length !=a then(([],[],0,0),1)else((alq (x.2.2,x.2.1,b,x.1) (0,[],[],0,0)).2,0)
def wv(x:ak):ak:=((kZ x.1).1,(mO x.2.1).1,(mO x.2.2.1).1,(xh x.2.2.2).1)
def Vx(x:ak):Prop:=x.1.length<=100000/\x.2.1.length<=100000/\x.2.2.1.length<=100000/\x.2.2.2.length<=100000
def Dh(k:(List aZ)×Int×ab)(x:ay):Prop:=0<=x.1/\k.2.1=k.1.length
def yz(k:(List aZ)×Int×ab)(x:ay):=(k.2.1-x.1).toNat
def vf(k:(List aZ)×Int×ab)(x:ay):an ((List aZ)×Int×ab) (ay) (List (aP)):=bif x.1<k.2.1 then .next k (i64.wrap (x.1+1),fc (x.2,iS (k.2.2,aa k.1 x.1)))else .brk k x
def D9 k x:=endOf vf k (Nat.succ (yz k x)) x
def Cf(k:(List az)×ay)(x:(List (aP))×Int):Prop:=0<=x.2/\k.2.1=k.1.length/\x.1.length<=x.2/\k.2.1<=1000
def xW(k:(List az)×ay)(x:(List (aP))×Int):=(k.2.1-x.2).toNat
def uB(k:(List az)×ay)(x:(List (aP))×Int):an ((List az)×ay) ((List (aP))×Int) (List (aP)):=letI a:=aa k.1 x.2;letI b:=i64.wrap (x.2+1);bif x.2<k.2.1 then bif dO (k.2.2,a.1,a.2.1)then .next k (x.1++ [(2,a.1,a.2.1,0,0)],b)else .next k (x.1,b)else .brk k x
def R5 k x:=endOf uB k (Nat.succ (xW k x)) x
def cC(x:ab×ak×List aZ):=letI a:=(x.2.2.length:Int);bif !cJ (x.1,x.2.1)||a !=x.1.2.2.2.2.2.2.2.length then[]else(R5 (x.2.1.2.2.2,x.2.1.2.2.2.length,(D9 (x.2.2,a,x.1) (0,0,0)).2) ([],0)).1
def Kp(x:ab×ak×List aZ):Prop:=x.2.1.2.2.2.length<=1000
def Cq(k:(List az)×ay)(x:Int):Prop:=0<=x/\k.2.1=k.1.length
def CO(k:((List (az))×ay))(x:(Int)):Nat:=(k.2.1-x).toNat
def np(k:(List az)×ay)(x:Int):=bif x<k.2.1 then bif(qL (aa k.1 x,k.2.2)).1 then an.ret (x,())else an.next k (i64.wrap (x+1))else an.brk k x
def KR k x:=bj np k (Nat.succ (CO k x)) x
def oY(x:(List az)×af):=dJ (KR (x.1,x.1.length,x.2) 0) (λy=>y) (-1,())
def CT(k:(List az)×Int)(x:ay):Prop:=0<=x.1/\k.2=k.1.length
def yY(k:((List (az))×Int))(x:(ay)):Nat:=(k.2-x.1).toNat
def uI(k:(List az)×Int)(x:ay):an ((List az)×Int) (ay) (af):=bif x.1<k.2 then .next k (i64.wrap (x.1+1),fc (x.2,fo ((aa k.1 x.1).1,(aa k.1 x.1).2.1)))else .brk k x
def UQ k x:=endOf uI k (Nat.succ (yY k x)) x
def Ft(x:List az):=(UQ (x,x.length) (0,0,0)).2
def zx(x:Int×Int×Int×(ay)×af):=letI a:=kh (x.1,x.2.2.2.1);ra (u32.wrap ((BitVec.ofInt u32.bits (u32.wrap ((BitVec.ofInt u32.bits (u32.wrap ((BitVec.ofInt u32.bits (u32.wrap ((BitVec.ofInt u32.bits a.1|||BitVec.ofInt u32.bits a.2.1).toNat))|||BitVec.ofInt u32.bits a.2.2).toNat))|||BitVec.ofInt u32.bits (u32.wrap (1*2^min x.2.1.toNat u32.bits))).toNat))|||BitVec.ofInt u32.bits (u32.wrap (1*2^min x.2.2.2.2.1.toNat u32.bits))).toNat))
def sE(x:Int×Int×Int×(ay)×af):=letI a:=kh (x.1,x.2.2.2.1);Ay (u32.wrap ((BitVec.ofInt u32.bits (u32.wrap ((BitVec.ofInt u32.bits (u32.wrap ((BitVec.ofInt u32.bits (u32.wrap ((BitVec.ofInt u32.bits a.1|||BitVec.ofInt u32.bits a.2.1).toNat))|||BitVec.ofInt u32.bits a.2.2).toNat))|||BitVec.ofInt u32.bits (u32.wrap (1*2^min x.2.1.toNat u32.bits))).toNat))|||BitVec.ofInt u32.bits (u32.wrap (1*2^min x.2.2.2.2.1.toNat u32.bits))).toNat))
def tj(x:Int×Int×Int×(ay)×af):=letI a:=i64.wrap (sE x-1);letI b:=x.2.2;letI c:=b.2.2;letI d:=b.1==1;letI e:=x.2.1;letI f:=zx x;bif !nP x.1||e<0||e>=x.1||b.1<0||b.1>2|| !wN (x.1,c)then -1 else bif b.1==0||b.1==c.2&&(d&&c.1>=e||b.1==2&&c.1<=e)then(mF ([],e,c.1)).1 else bif b.1 !=c.2&&d then(mF ([a],e,c.1)).1 else bif b.1 !=c.2 then(mF ([f],e,c.1)).1 else bif d then(mF ([a,f],e,c.1)).1 else(mF ([f,a],e,c.1)).1
def AB(x:af):=i64.wrap (qW x.1+qW x.2)
def DF(x:af):Prop:=(0<=x.1/\x.1<=4294967295)/\0<=x.2/\x.2<=4294967295
def FG(g:Nat)(x:(ay)×ay):=cnd (Nat.beq g 107) (pe x) (Ty.dflt ae)
def uU(k:(List (ay))×(Option Nat)×ay)(x:af):Prop:=0<=x.1/\x.1<=x.2/\x.2<=k.1.length/\k.1.length<=1000000/\k.2.1=some 107
def sq(k:((List (ay))×(Option Nat)×ay))(x:(af)):Nat:=(x.2-x.1).toNat
def sv(k:(List (ay))×(Option Nat)×ay)(x:af):an ((List (ay))×(Option Nat)×ay) (af) (ir):=letI a:=i64.wrap (Int.fdiv (u64.wrap (i64.wrap (x.1+x.2))) (2^min (1:Int).toNat u64.bits));bif x.1<x.2 then bif FG (Option.getD k.2.1 0) (aa k.1 a,k.2.2)<0 then .next k (i64.wrap (a+1),x.2)else .next k (x.1,a)else .brk k x
def Dt k x:=endOf sv k (Nat.succ (sq k x)) x
def lN(x:(List (ay))×(ay)×Option Nat):=letI b:=x.1.length;letI a:=Dt (x.1,x.2.2,x.2.1) (0,b);(a.1,a.1<b&&FG (Option.getD x.2.2 0) (aa x.1 a.1,x.2.1)==0)
def U0(x:(List (ay))×(ay)×Option Nat):Prop:=x.1.length<=1000000/\x.2.2=some 107
def KF(k:nG)(x:Int×bE):=(36-x.1).toNat
def KE(k:nG)(x:Int×bE):an (nG) (Int×bE) (bE×Int):=letI a:=aa (tl x.2.2) x.1+1;letI b:=x.1+1;bif x.1<36 then bif tK (k.2,x.1)==tK (x.2.1,x.1)then .next k (i64.wrap b,x.2.1,up x.2.2 x.1 0)else bif i64.wrap a==k.1 then .next k (i64.wrap b,Gq (x.2.1,x.1,tK (k.2,x.1)),up x.2.2 x.1 0)else .next k (i64.wrap b,x.2.1,up x.2.2 x.1 (i64.wrap a))else .brk k x
def KX k x:=endOf KE k (Nat.succ (KF k x)) x
def Gi(x:Int×bE×eQ):bE×Int:=bif !Nw (x.1,x.2.1)then(((0,false,false,false,false),0,0,0,0,0,0,0,0,0,0,0,0,0,0,0,0,0,0,0,0,0,0,0,0,0,0,0,0,0,0,0,0,0,0,0,0),1)else((KX (x.1,x.2.2) (0,x.2.1)).2,0)
def DM(k:(List (az)))(x:(ay)):Prop:=(0:Int)<=x.1
def zf(k:List az)(x:ay):=(k.length-x.1).toNat
def vz(k:List az)(x:ay):an (List az) (ay) (af):=bif x.1<k.length then .next k (i64.wrap (x.1+1),A1 (x.2,Gv ((aa k x.1).1,(aa k x.1).2.1)))else .brk k x
def Yk k x:=endOf vz k (Nat.succ (zf k x)) x
def ik(x:List az):=(Yk x (0,0,0)).2
def oN(k:ay)(x:(List az)×Int):Prop:=1<=x.2/\x.1.length<=2*k.1+x.2-1/\0<=k.1/\k.1<=32/\x.2<=3
def zb(k:ay)(x:(List az)×Int):=(2-x.2+1).toNat
def ml(k:ay)(x:(List az)×Int):an (ay) ((List az)×Int) (List az):=letI a:=i64.wrap (x.2+1);bif x.2<=2 then bif nX (k.2,k.1,x.2)then .next k (x.1++ [(k.1,x.2,-1,0,false)],a)else .next k (x.1,a)else .brk k x
def YW k x:=endOf ml k (Nat.succ (zb k x)) x
def DQ(k:af)(x:(List az)×Int):Prop:=0<=x.2/\x.1.length<=2*x.2
def Ek(k:af)(x:(List az)×Int):=(32-x.2).toNat
def zu(k:af)(x:(List az)×Int):an (af) ((List az)×Int) (List az):=bif x.2<32 then .next k ((YW (x.2,k) (x.1,1)).1,i64.wrap (x.2+1))else .brk k x
def XY k x:=endOf zu k (Nat.succ (Ek k x)) x
def F4(x:af):=(XY x ([],0)).1
def Gk(x:ak×ak):=Fz (x.1.1,x.2.1)&&Ag (x.1.2.1,x.2.2.1)&&Ag (x.1.2.2.1,x.2.2.2.1)&&Fh (x.1.2.2.2,x.2.2.2.2)
def MU:Ct:=⟨Ty.pair bG bG,[none,none],aD,ah.one (some 8),some XX,some 106,tJ⟩
def K2:Ct:=⟨Ty.pair aD cY,[some 8,none],Ty.pair dF ae,ah.tup [none,none],some JV,some 213,fM⟩
def Y8:Ct:=⟨Ty.pair bN (Ty.pair ae ae),[some 4,none,none],Ty.pair ae aw,ah.tup [none,none],some zr,none,bt⟩
def Z3:Ct:=⟨bN,[some 4],bN,ah.one (some 4),some Vf,none,wL⟩
def Mk:Ct:=⟨Ty.pair cX Es,[none,none],ae,ah.one none,some VL,none,MI⟩
def acO:Cp:=⟨Ty.pair ae (Ty.pair fQ aD),[none,some 41],[false,false,true],[8],true,false,aD,aw,ah.one none,none,F57,none,undef⟩
def ME:Ct:=⟨Ty.pair aD (Ty.pair ae eH),[some 8,none,some 6],aw,ah.one none,none,none,fI⟩
def WG:Ct:=⟨E5,[some 5],aw,ah.one none,none,none,FT⟩
def YA:Ct:=⟨Ty.pair ae LC,[none,some 3],aw,ah.one none,none,none,AN⟩
def MX:Ct:=⟨Ty.pair An (Ty.pair ae Lw),[none,none,none],aw,ah.one none,some KY,none,Gt⟩
def M6:Ct:=⟨fE,[some 16],fE,ah.one (some 16),some Ym,none,xk⟩
def Ma:Ct:=⟨Ty.pair ae (Ty.pair fQ mC),[none,some 41,some 5],fQ,ah.one (some 41),none,none,wF⟩
def W4:Ct:=⟨Ty.pair aD (Ty.pair jB sZ),[some 8,some 1,none],jB,ah.one (some 1),none,none,sY⟩
def ab2:Ct:=⟨Ty.pair ae kn,[none,none],ae,ah.one none,some ES,none,AW⟩
def abD:Ct:=⟨Ty.pair ae jg,[none,some 3],aw,ah.one none,none,none,mT⟩
def LY:Cv:=⟨bN,[some 4],[.v],[],false,[],Ty.unit,bN,ah.one (some 4),[(0,true,3),(1,true,4),(2,true,4),(3,true,93)],some D2,AH,false⟩
def WE:Ct:=⟨Ty.pair EW ae,[some 6,none],Ty.pair dF bX,ah.tup [none,none],some Kt,some 213,Nj⟩
def Lj:Ct:=⟨Ty.pair aD (Ty.pair bN gm),[some 8,some 4,none],dF,ah.one none,none,none,lQ⟩
def YQ:Ct:=⟨Ty.pair bN ae,[some 4,none],aw,ah.one none,none,none,mG⟩
def Yt:Ct:=⟨Ty.pair bN ae,[some 4,none],aw,ah.one none,none,none,AK⟩
def La:Ct:=⟨gd,[none],aS,ah.one (some 2),none,none,aaB⟩
def L3:Ct:=⟨Ty.pair aD (Ty.pair bN (Ty.pair gx ae)),[some 8,some 4,none,none],aS,ah.one (some 2),none,none,ace⟩
def Lv:Ct:=⟨Ty.pair aD (Ty.pair gx mD),[some 8,none,none],Ty.pair vU bX,ah.tup [some 4,none],none,none,dI⟩
def Xo:Ct:=⟨bN,[some 4],bN,ah.one (some 4),some Vx,none,wv⟩
def EU:Ct:=⟨Ty.pair aD (Ty.pair bN gx),[some 8,some 4,none],dF,ah.one none,some Kp,none,cC⟩
def EJ:Cv:=⟨Ty.pair da (Ty.pair ae ae),[none],[.v,.c 284 2],[1,1],true,[],Ty.unit,ae,ah.one none,[],none,oY,false⟩
def Lx:Ct:=⟨da,[none],aS,ah.one (some 2),none,none,Ft⟩
def Yu:Ct:=⟨Ty.pair ae (Ty.pair ae (Ty.pair ae (Ty.pair sW (Ty.pair ae ae)))),[none,none,none,some 3,none,none],ae,ah.one none,none,none,tj⟩
def WI:Ct:=⟨aS,[some 2],ae,ah.one none,some DF,none,AB⟩
def K4:Ct:=⟨Ty.pair gd (Ty.pair gz zO),[none,some 3,none],Ty.pair ae aw,ah.tup [none,none],some U0,none,lN⟩
def Ni:Ct:=⟨da,[none],aS,ah.one (some 2),none,none,ik⟩
def E8:Ct:=⟨aS,[some 2],da,ah.one none,none,some 93,F4⟩
def adw:Ct:=⟨Ty.pair bN bN,[some 4,some 4],aw,ah.one none,none,none,Gk⟩
def U8:LS aD.den:=aH bG (Ty.pair ae aD) [(1,none)] [] [(6,none)] [(5,8)] [(8,100308,true,106)] [] [(5,5)] 0 false sF qj sI
theorem VF(k:bG.den)(x:(Ty.pair ae aD).den)(fk:Fit bG k)(h:sF k x):bf false sF sI k x (qj k x):=by
 try dsimp only[Ty.den]at*
 simp only[sF,Fit,maxLen]at h fk;unfold qj
 (repeat' (first|exact rfl|(refine bf.cnd (λhc=> ?_) (λhc=> ?_)<;>(try simp only[avf,av1,aw8,avu,au8,axf,aJ,bc,bM,aC,au1,avi,avk,auu,awj,avp,avo,adv,aut,av9,au0,auv,avz,avm,ave,aw0,aye,awt,awu,axq,ne_eq]at hc))|refine bf.opt (λ_=> ?_)))<;>(first|exact rfl|(refine⟨rfl,?_,?_⟩<;>simp only[sF,sI,jq,mX,extract_size,lx,Jv,avf,av1,aw8,avu,BY,BW,au8,axf,aJ,bc,bM,aC,au1,avi,avk,auu,awj,avp,avo,adv,aut,av9,au0,auv,avz,avm,ave,aw0,aye,awt,awu,axq,ne_eq]<;>first|omega|(and_intros<;>first|omega|exact h.1|exact h.2|exact h.2.1|exact h.2.2|exact h.2.2.1|exact h.2.2.2|exact h.2.2.2.1|exact h.2.2.2.2|exact h.2.2.2.2.1|exact h.2.2.2.2.2|exact h.2.2.2.2.2.1|exact h.2.2.2.2.2.2)))
def cH(z:List (Nat×List Nat)):=dN (yl true) yi dh yI z
theorem al4:bF f28 MU [0] U8:=have E:=ai @sF.eq_1 SN;lA (cH []) [] l0 (λk x fk fx h=>sm (letI a:=x.2.2.2.2.2.2.2.2.length;decide (x.1<a)=true->(16:Int)≠0/\0<=x.1/\x.1<a)) VF
theorem asg:ar 28 MU:=au (cH []) func28 [(3,U8)] (lc al4 l0) (sp λx fx h=>sl (Lt x/\sF x.2 (0,ji x)) (by
 try dsimp only[Ty.den]at*
 have h15:=Gy h;exact⟨h,au4 _,h15.1.cn.2⟩))
def SE:LS (Ty.pair dF ae).den:=aH (Ty.pair cY aD) (Ty.pair dF ae) [(1,none)] [(2,8)] [(6,none),(7,none)] [] [(0,100300,true,213)] [] [(2,2)] 0 false uL kF qd
theorem aj7:bF f117 K2 [0] SE:=have E:=ai @uL.eq_1 SN;lA (cH []) [] l0 (λk x fk fx h=>sm (letI b:=i64.wrap (x.2+6);letI a:=nO (k.2,ByteArray.extract k.1 (Int.toNat x.2) (Int.toNat b));letI c:=aP;letI d:=k.1.size;letI e:=([a.1]:List c);decide (b<=d)=true->(0<=x.2/\x.2<=b/\b<=d)/\((a.2 !=0)=false->(List.length (x.1:List c)+List.length e)*40<=140737488355328/\List.length (x.1:List c)+List.length e<=4611686018427387903))) λk x fk h=>by
 try dsimp only[Ty.den]at*
 unfold uL at h;unfold kF;refine bf.cnd (λhc=> ?_) (λ_=>rfl);rw[adv]at hc;have e:i64.wrap (x.2+6)=x.2+6:=aA (by omega) (by omega);rw[e]at hc⊢;refine bf.cnd (λ_=>rfl) (λ_=>⟨rfl,?_,?_⟩)
 ·unfold uL
  simp only[au1,avi,avk];omega
 ·unfold qd
  simp only;omega
theorem apn:ar 117 K2:=have E:=ai @uL.eq_1<|ai @JV.eq_1 SN;au (cH []) func117 [(3,SE)] (lc aj7 l0) (sp λx fx h=>sl (uL (x.2,x.1) ([],0)))
theorem apS:ar 148 Y8:=have E:=ai @zr.eq_1<|ai @Kz.eq_1 SN;au (cH []) func148 [] l0 (sp λx fx h=>sl (Kz (x.1.2.2.2,(x.2.1,x.2.2,0,0,false),some 140)))
theorem anT:ar 100 Z3:=au (cH []) func100 [] l0 (sp λx fx h=>sl (sR x.1/\oR x.2.1/\oR x.2.2.1/\zU x.2.2.2) (by
 exact h))
theorem anH(k:(Ty.pair ae Eu).den)(x:(Ty.pair M9 (Ty.pair cY ae)).den)(fk:Fit (Ty.pair ae Eu) k)(h:Yi k x):bf false Yi E1 k x (mo k x):=by
 try dsimp only[Ty.den]at*
 obtain⟨h0,h1,h2,h3,h4,h5,h6⟩:=h;unfold mo;refine bf.cnd (λhc=> ?_) (λ_=>rfl);rw[au0,adv,adv]at hc;obtain⟨c1,c2⟩:=hc;obtain⟨r1,r2,r3⟩:=fr9 h0 c1 (tm4 h6.2.2.2.2.2).2;rw[r1];refine bf.cnd (λ_=>⟨rfl,⟨r2,r3,?_,?_,fr8 c2,h5,h6⟩,?_⟩) (λ_=>⟨rfl,⟨r2,r3,h2,h3,fr8 c2,h5,h6⟩,?_⟩)
 ·simp only[aa4 h2 h3];exact h2
 ·simp only[aa4 h2 h3];exact h3
 ·exact fr7 h0 h1
 ·exact fr7 h0 h1
theorem apD(k:(Ty.pair Ap (Ty.pair ae aD)).den)(x:(Ty.pair M9 ae).den)(fk:Fit (Ty.pair Ap (Ty.pair ae aD)) k)(h:KV k x):bf false KV LB k x (z8 k x):=by
 try dsimp only[Ty.den]at*
 obtain⟨h0,h1,h3,h4,h5,h6⟩:=h;unfold z8;refine bf.cnd (λhc=> ?_) (λ_=>rfl);rw[au0,adv,adv]at hc;obtain⟨c1,c2⟩:=hc;have r1:=fr3 h0 h1 h3 h4;have key: ∀(iX:lE) (s:ByteArray),B6 iX->1<=s.size->s.size<=1000->((x.1.length:Int)+1<=((wb (k.2.1,iX) (x.1,s,(0:Int))).1.length:Int))/\((wb (k.2.1,iX) (x.1,s,(0:Int))).1.length:Int)<=k.2.1:=λiX s hs s1 s2=>by
  have hb: ∀(y:List ByteArray×eb) k' z,mo (k.2.1,iX) y= .brk k' z->z=y:=λy k' z hz=>by
   unfold mo at hz;revert hz
   unfold cond;split
   ·split<;>intro hz<;>cases hz
   ·intro hz;cases hz;rfl
  have hI:=oE (λy hy=>anH (k.2.1,iX) y ⟨trivial,trivial,trivial,trivial,trivial,trivial,trivial⟩ hy) hb (Nat.succ (E1 (k.2.1,iX) (x.1,s,(0:Int)))) (x.1,s,(0:Int)) ⟨au4 _,fr4,s1,s2,h3,h4,hs⟩;refine⟨?_,hI.2.2.2.2.1⟩;have hone: ∃s',mo (k.2.1,iX) (x.1,s,(0:Int))= .next (k.2.1,iX) (x.1++ [s'],s',(1:Int)):=by
   have hc:((decide ((0:Int)<=(i64.wrap (Int.tmod iX.2.2.2.2.2 (4:Int)))))&&(decide (((x.1).length:Int)<k.2.1)))=true:=by
    rw[au0,adv,adv];exact⟨(tm4 hs.2.2.2.2.2).1,c2⟩
   unfold mo;simp only[hc,auw];cases(Int.tmod iX.2.2.2.2.1 (23:Int))==(5:Int)
   ·exact⟨_,rfl⟩
   ·exact⟨_,rfl⟩
  obtain⟨s',hone⟩:=hone;have fC:wb (k.2.1,iX) (x.1,s,(0:Int))=endOf mo (k.2.1,iX) (E1 (k.2.1,iX) (x.1,s,(0:Int))) (x.1++ [s'],s',(1:Int)):=by
   unfold wb;show endOf mo _ (Nat.succ _) _=_;rw[endOf,hone]
  rw[fC];exact iq (step:=mo) (k:=(k.2.1,iX)) (I:=λy=>(x.1.length:Int)+1<=(y.1.length:Int)) (λy k' z hy hz=>by
   unfold mo at hz;revert hz
   unfold cond;split
   ·split<;>intro hz<;>cases hz<;>exact ast hy
   ·intro hz;cases hz) (λy k' z hy hz=>by rw[hb y k' z hz];exact hy) _ _ (ass x.1 s')
 have hs:B6 ((aa (bc ([(0:Int),(0:Int),(0:Int),(0:Int),(0:Int),(0:Int)]:List Int) (bM k.1 (6*x.2) (k.1.length:Int))) (0:Int)),(aa (bc ([(0:Int),(0:Int),(0:Int),(0:Int),(0:Int),(0:Int)]:List Int) (bM k.1 (6*x.2) (k.1.length:Int))) (1:Int)),(aa (bc ([(0:Int),(0:Int),(0:Int),(0:Int),(0:Int),(0:Int)]:List Int) (bM k.1 (6*x.2) (k.1.length:Int))) (2:Int)),(aa (bc ([(0:Int),(0:Int),(0:Int),(0:Int),(0:Int),(0:Int)]:List Int) (bM k.1 (6*x.2) (k.1.length:Int))) (3:Int)),(aa (bc ([(0:Int),(0:Int),(0:Int),(0:Int),(0:Int),(0:Int)]:List Int) (bM k.1 (6*x.2) (k.1.length:Int))) (4:Int)),(aa (bc ([(0:Int),(0:Int),(0:Int),(0:Int),(0:Int),(0:Int)]:List Int) (bM k.1 (6*x.2) (k.1.length:Int))) (5:Int))):=iX (af6 h5 (6*x.2) (k.1.length:Int)) 0;have hz:=aec h6 ((aa (bc ([(0:Int),(0:Int),(0:Int),(0:Int),(0:Int),(0:Int)]:List Int) (bM k.1 (6*x.2) (k.1.length:Int))) (0:Int)),(aa (bc ([(0:Int),(0:Int),(0:Int),(0:Int),(0:Int),(0:Int)]:List Int) (bM k.1 (6*x.2) (k.1.length:Int))) (1:Int)),(aa (bc ([(0:Int),(0:Int),(0:Int),(0:Int),(0:Int),(0:Int)]:List Int) (bM k.1 (6*x.2) (k.1.length:Int))) (2:Int)),(aa (bc ([(0:Int),(0:Int),(0:Int),(0:Int),(0:Int),(0:Int)]:List Int) (bM k.1 (6*x.2) (k.1.length:Int))) (3:Int)),(aa (bc ([(0:Int),(0:Int),(0:Int),(0:Int),(0:Int),(0:Int)]:List Int) (bM k.1 (6*x.2) (k.1.length:Int))) (4:Int)),(aa (bc ([(0:Int),(0:Int),(0:Int),(0:Int),(0:Int),(0:Int)]:List Int) (bM k.1 (6*x.2) (k.1.length:Int))) (5:Int)));have h8:=(A5 h6).1;have hk:=key ((aa (bc ([(0:Int),(0:Int),(0:Int),(0:Int),(0:Int),(0:Int)]:List Int) (bM k.1 (6*x.2) (k.1.length:Int))) (0:Int)),(aa (bc ([(0:Int),(0:Int),(0:Int),(0:Int),(0:Int),(0:Int)]:List Int) (bM k.1 (6*x.2) (k.1.length:Int))) (1:Int)),(aa (bc ([(0:Int),(0:Int),(0:Int),(0:Int),(0:Int),(0:Int)]:List Int) (bM k.1 (6*x.2) (k.1.length:Int))) (2:Int)),(aa (bc ([(0:Int),(0:Int),(0:Int),(0:Int),(0:Int),(0:Int)]:List Int) (bM k.1 (6*x.2) (k.1.length:Int))) (3:Int)),(aa (bc ([(0:Int),(0:Int),(0:Int),(0:Int),(0:Int),(0:Int)]:List Int) (bM k.1 (6*x.2) (k.1.length:Int))) (4:Int)),(aa (bc ([(0:Int),(0:Int),(0:Int),(0:Int),(0:Int),(0:Int)]:List Int) (bM k.1 (6*x.2) (k.1.length:Int))) (5:Int))) (gV (k.2.2,xj (k.2.2,(aa (bc ([(0:Int),(0:Int),(0:Int),(0:Int),(0:Int),(0:Int)]:List Int) (bM k.1 (6*x.2) (k.1.length:Int))) (0:Int)),(aa (bc ([(0:Int),(0:Int),(0:Int),(0:Int),(0:Int),(0:Int)]:List Int) (bM k.1 (6*x.2) (k.1.length:Int))) (1:Int)),(aa (bc ([(0:Int),(0:Int),(0:Int),(0:Int),(0:Int),(0:Int)]:List Int) (bM k.1 (6*x.2) (k.1.length:Int))) (2:Int)),(aa (bc ([(0:Int),(0:Int),(0:Int),(0:Int),(0:Int),(0:Int)]:List Int) (bM k.1 (6*x.2) (k.1.length:Int))) (3:Int)),(aa (bc ([(0:Int),(0:Int),(0:Int),(0:Int),(0:Int),(0:Int)]:List Int) (bM k.1 (6*x.2) (k.1.length:Int))) (4:Int)),(aa (bc ([(0:Int),(0:Int),(0:Int),(0:Int),(0:Int),(0:Int)]:List Int) (bM k.1 (6*x.2) (k.1.length:Int))) (5:Int))))).1 hs (fr5 hz) (fr6 hz h8);have hK:Ku k x=wb (k.2.1,(aa (bc ([(0:Int),(0:Int),(0:Int),(0:Int),(0:Int),(0:Int)]:List Int) (bM k.1 (6*x.2) (k.1.length:Int))) (0:Int)),(aa (bc ([(0:Int),(0:Int),(0:Int),(0:Int),(0:Int),(0:Int)]:List Int) (bM k.1 (6*x.2) (k.1.length:Int))) (1:Int)),(aa (bc ([(0:Int),(0:Int),(0:Int),(0:Int),(0:Int),(0:Int)]:List Int) (bM k.1 (6*x.2) (k.1.length:Int))) (2:Int)),(aa (bc ([(0:Int),(0:Int),(0:Int),(0:Int),(0:Int),(0:Int)]:List Int) (bM k.1 (6*x.2) (k.1.length:Int))) (3:Int)),(aa (bc ([(0:Int),(0:Int),(0:Int),(0:Int),(0:Int),(0:Int)]:List Int) (bM k.1 (6*x.2) (k.1.length:Int))) (4:Int)),(aa (bc ([(0:Int),(0:Int),(0:Int),(0:Int),(0:Int),(0:Int)]:List Int) (bM k.1 (6*x.2) (k.1.length:Int))) (5:Int))) (x.1,(gV (k.2.2,xj (k.2.2,(aa (bc ([(0:Int),(0:Int),(0:Int),(0:Int),(0:Int),(0:Int)]:List Int) (bM k.1 (6*x.2) (k.1.length:Int))) (0:Int)),(aa (bc ([(0:Int),(0:Int),(0:Int),(0:Int),(0:Int),(0:Int)]:List Int) (bM k.1 (6*x.2) (k.1.length:Int))) (1:Int)),(aa (bc ([(0:Int),(0:Int),(0:Int),(0:Int),(0:Int),(0:Int)]:List Int) (bM k.1 (6*x.2) (k.1.length:Int))) (2:Int)),(aa (bc ([(0:Int),(0:Int),(0:Int),(0:Int),(0:Int),(0:Int)]:List Int) (bM k.1 (6*x.2) (k.1.length:Int))) (3:Int)),(aa (bc ([(0:Int),(0:Int),(0:Int),(0:Int),(0:Int),(0:Int)]:List Int) (bM k.1 (6*x.2) (k.1.length:Int))) (4:Int)),(aa (bc ([(0:Int),(0:Int),(0:Int),(0:Int),(0:Int),(0:Int)]:List Int) (bM k.1 (6*x.2) (k.1.length:Int))) (5:Int))))).1,(0:Int)):=by
  unfold Ku Vy;rw[r1]
 rw[hK];have e:i64.wrap (x.2+1)=x.2+1:=ar1 h0 h1 h3 h4;rw[e];exact⟨rfl,⟨cE h0,aw1 (Int.add_le_add_right h1 1) hk.1,hk.2,h4,h5,h6⟩,auf h0 h1 c2 h4⟩
def S5:Fv:={p:=ae,ax:= [none],r:=aw,ao:=ah.one none,fs:= [104,257,261],F:=sU}
theorem afD:qR (some S5):=BJ (λg hg=>by
 simp only[S5,avv,axw,aA1]at hg;rcases hg with rfl|rfl|rfl
 ·exact⟨Xm,_,func104,by kernel_rfl,by kernel_rfl⟩
 ·exact⟨Za,_,func257,by kernel_rfl,by kernel_rfl⟩
 ·exact⟨Xi,_,func261,by kernel_rfl,by kernel_rfl⟩)
def TF:LS ae.den:=aH (Ty.pair cX (Ty.pair Es ae)) ae [(0,none),(1,none),(7,none)] [] [(8,none)] [] [] [] [] 0 true Sf uW yH
def Yv(z:List (Nat×List Nat)):=dN (yl true) yi afD yI z
theorem aj3:bF f141 Mk [0] TF:=lA (Yv []) [] l0 (λk x fk fx h=>sl (decide (x<k.2.2)=true->(0<=x/\x<k.1.length)/\(∃g,k.2.1=some g/\g∈ [104,257,261])) (by
 try dsimp only[Ty.den]at*
 obtain⟨h0,h1,h2⟩:=h;intro hc;rw[adv]at hc;exact⟨⟨h0,h1▸hc⟩,h2⟩)) λk x fk h=>by
 try dsimp only[Ty.den]at*
 obtain⟨h0,h1,h2⟩:=h;unfold uW;refine bf.cnd (λhc=> ?_) (λ_=>rfl);rw[adv]at hc;have e:=cA h0 (h1▸hc) fk.1.1;repeat' (first|exact rfl|refine bf.cnd (λ_=> ?_) (λ_=> ?_))
 all_goals(rw[e];exact⟨rfl,⟨cE h0,h1,h2⟩,dg hc⟩)
theorem am4:ar 141 Mk:=au (Yv []) func141 [(2,TF)] (lc aj3 l0) (sp λx fx h=>sl (Sf (x.1,x.2,x.1.length) 0) (by
 try dsimp only[Ty.den]at*
 exact⟨au4 _,rfl,h⟩))
theorem atV:jP 57 acO:=rj (cH []) func57 [] l0 (λ_ _ _=>tr)
def UI:LS aw.den:=aH (Ty.pair ae (Ty.pair gd (Ty.pair ae (Ty.pair aD eH)))) ae [(1,none),(59,none),(60,none)] [(3,8),(5,6)] [(61,none)] [] [] [] [(3,3),(5,5)] 0 true Eh zo DO
theorem al9:bF f61 ME [0] UI:=have E:=ai @Eh.eq_1<|ai @DO.eq_1<|ai @zo.eq_1 SN;lA (cH []) [] l0 (λk x fk fx h=>sm (letI b:=i64.wrap (x-1);letI c:=aa k.2.1 x;letI a:= !(nY (k.2.2.2.1,c.1,c.2.1));letI d:=k.2.2.2.1.2.2.2.2.2.2.2;decide (x<k.2.2.1)=true->((0<=x/\x<(k.2.1.length:Int))/\((a=false->0<=k.1/\k.1<(d.length:Int))/\((a|| !gR (c.2.2,0,(aa d k.1).1))=false->decide (x>0)=true->0<=b/\b<k.2.2.2.2.2.2.2.1.length)))))
theorem ato:ar 61 ME:=have E:=ai @Eh.eq_1<|ai @gR.eq_1 SN;au (cH []) func61 [(4,UI)] (lc al9 l0) (λx fx _=>sl (letI a:=x.2.2.2.2;letI b:=(a.2.1.length:Int);(((((((ca x.1 !=0)||(!gR (x.2.1,0,i64.wrap (x.1.2.2.2.2.2.2.2.length-1))))|| !gR (x.2.2.1,-1,i64.wrap (x.1.1-1)))|| !gR (x.2.2.2.1,0,3))|| !gR (a.1,0,3))|| !gR (a.2.2.1,0,1000000))||a.2.2.2&&b>0)=false->Eh (x.2.1,a.2.1,b,x.1,x.2.2) 0))
theorem aqj:ar 109 WG:=au (cH []) func109 [] l0 (λ_ _ _=>tr)
theorem am9:ar 110 YA:=au (cH []) func110 [] l0 (λ_ _ _=>tr)
def Vv:Fv:={p:=Ty.pair ae jB,ax:= [none,some 1],r:=aw,ao:=ah.one none,fs:= [66],F:=acq}
theorem aik:qR (some Vv):=BJ (λg hg=>by
 simp only[Vv,avv,axw,aA1]at hg;rcases hg with rfl
 ·exact⟨abK,_,func66,by kernel_rfl,by kernel_rfl⟩)
def UF:LS aw.den:=aH (Ty.pair Lw (Ty.pair An ae)) ae [(2,none),(13,none),(14,none)] [] [(15,none)] [] [] [] [] 0 true U1 zB J2
def ZE(z:List (Nat×List Nat)):=dN (yl true) yi aik yI z
theorem amA:bF f65 MX [0] UF:=lA (ZE []) [] l0 (λk x fk fx h=>sl (decide (x<k.2.2)=true->(0<=x/\x<k.2.1.length)/\(∃g,k.1=some g/\g∈ [66])) (by
 try dsimp only[Ty.den]at*
 obtain⟨h0,h1,h2⟩:=h;intro hc;rw[adv]at hc;exact⟨⟨h0,h1▸hc⟩,_,h2,by simp⟩)) λk x fk h=>by
 try dsimp only[Ty.den]at*
 obtain⟨h0,h1,h2⟩:=h;unfold zB;refine bf.cnd (λhc=> ?_) (λ_=>rfl);rw[adv]at hc;have e:=cA h0 (h1▸hc) fk.2.1.1;repeat' (first|exact rfl|refine bf.cnd (λ_=> ?_) (λ_=> ?_))
 all_goals(rw[e];exact⟨rfl,⟨cE h0,h1,h2⟩,dg hc⟩)
theorem asG:ar 65 MX:=au (ZE []) func65 [(4,UF)] (lc amA l0) (sp λx fx h=>sl (letI a:=x.1.length;(a !=x.2.1)=false->U1 (x.2.2,x.1,a) 0) (by
 try dsimp only[Ty.den]at*
 intro _;exact⟨au4 _,rfl,h⟩))
def Wg:LS fE.den:=aH ae (Ty.pair ae fE) [(54,none)] [] [(55,none)] [(1,16)] [(1,100501,true,3),(2,100502,true,4),(3,100503,true,4),(4,100504,true,93),(8,100508,true,70),(9,100509,true,142),(10,100510,true,153),(11,100511,true,158),(12,100512,true,3),(13,100513,true,51)] [] [(1,1)] 0 false VK vj Eg
theorem alj:bF f44 M6 [0] Wg:=lA (cH []) [] l0 (λk x fk fx h=>sl (letI a:=0<=x.1/\x.1<x.2.2.2.2.1.length;decide (x.1<k)=true->a/\Xz (aa x.2.2.2.2.1 x.1).2.2.2.1/\a) (by
 try dsimp only[Ty.den]at*
 obtain⟨h0,h1,h2,h3⟩:=h;intro hc;rw[adv]at hc;have r:=ig h0 (h1▸hc);exact⟨r,gM h3 r,r⟩)) λk x fk h=>by
 try dsimp only[Ty.den]at*
 obtain⟨h0,h1,h2,h3⟩:=h;unfold vj;refine bf.cnd (λhc=> ?_) (λ_=>rfl);rw[adv]at hc;have e:=AM h0 hc h2;have r:=ig h0 (h1▸hc);rw[e];refine⟨rfl,⟨cE h0,?_,h2,?_⟩,dg hc⟩
 ·simp only[aJ,auu];exact h1
 ·simp only[aJ]
  exact Tp (p:=λd:bT=>d.2.2.2.1.length<=100000) h3 (gM (p:=λd:bT=>d.2.2.2.1.length<=100000) h3 r)
theorem atd:ar 44 M6:=au (cH []) func44 [(5,Wg)] (lc alj l0) (sp λx fx h=>sl (letI a:=x.2.2.2;letI b:=a.2.2;letI c:=x.1.2;sR x.1.1/\(oR c.1/\(oR c.2.1/\(zU c.2.2/\(Lo x.2.2.1/\(LJ a.2.1/\(L2 b.1/\sR b.2.1/\WY b.2.2.1/\Li a.1/\VK ((rl a.1).1.length) (0,((kZ x.1.1).1,(mO c.1).1,(mO c.2.1).1,(xh c.2.2).1),x.2.1,(wZ x.2.2.1).1,(rl a.1).1,(wX a.2.1).1,(wU b.1).1,(kZ b.2.1).1,(NA b.2.2.1).1,b.2.2.2)))))))) (by
 try dsimp only[Ty.den]at*
 obtain⟨⟨i1,i2,i3,i4⟩,c,⟨b1,b2⟩,d,e,f,g⟩:=h;exact⟨i1,i2,i3,i4,c,d,e,f,g,b1,au4 _,rfl,oP b1,b2⟩))
def TU:LS fQ.den:=aH (Ty.pair ae mC) (Ty.pair ae fQ) [(0,none)] [(5,5)] [(9,none)] [(4,41)] [] [] [(4,4),(5,5)] 0 false Cn rU uJ
theorem ajE:bF f206 Ma [0] TU:=have E:=ai @Cn.eq_1<|ai @uJ.eq_1<|ai @rU.eq_1 SN;lA (cH []) [] l0 (λk x fk fx h=>sm (letI a:=0<=x.1/\x.1<36;letI b:=gT (k.2,x.1)==gT (x.2.1,x.1);decide (x.1<36)=true->((b=true->a)/\(b=false->(a/\a/\a/\((aa (tl (up x.2.2 x.1 (i64.wrap (aa (tl x.2.2) x.1+1)))) x.1==k.1)=true->a))))))
theorem ano:ar 206 Ma:=have E:=ai @Cn.eq_1 SN;au (cH []) func206 [(2,TU)] (lc ajE l0) (λx fx _=>sl (Cn (x.1,x.2.2) (0,x.2.1)))
theorem aoo:ar 170 W4:=au (cH []) func170 [] l0 (λx fx _=>sf (letI d:=FloatKind.f64.format.sub x.1.2.2.2.2.2.2.1 (4589168020290535424:Nat);letI a:=FloatKind.f64.format.order x.2.2 (d.getD 0);letI e:=FloatKind.f64.format.sub x.1.2.2.2.2.2.1 (4589168020290535424:Nat);letI b:=FloatKind.f64.format.order x.2.2 (e.getD 0);letI f:=b==some Ordering.gt||b==some Ordering.eq;letI g:=a==some Ordering.gt||a==some Ordering.eq;letI h:=ca x.1 !=0;letI i:=x.2.1==3;letI j:=x.2.1==4;letI l:=wC (x.1,x.2.2);letI c:=l !=0&&l<x.2.1;(h=true->True)/\(h=false->(c=true->(i=true->e.isSome=true/\(f=true->True)/\(f=false->True))/\(i=false->(j=true->d.isSome=true/\(g=true->True)/\(g=false->True))/\(j=false->True)))/\(c=false->True))) (by
 try dsimp only[Ty.den]at*
 refine⟨λ_=>trivial,λhv=> ?_⟩;have hb:=am0 (oD (Iy fx.1) (by simpa using hv)).Ew;obtain⟨z1,e1,_⟩:=VQ hb.fu OR;obtain⟨z2,e2,_⟩:=VQ hb.ov OR;have e1':(FloatKind.f64.format.sub x.1.2.2.2.2.2.1 4589168020290535424).isSome=true:=by rw[show FloatKind.f64.format.sub x.1.2.2.2.2.2.1 4589168020290535424=some z1 from e1];rfl
 have e2':(FloatKind.f64.format.sub x.1.2.2.2.2.2.2.1 4589168020290535424).isSome=true:=by rw[show FloatKind.f64.format.sub x.1.2.2.2.2.2.2.1 4589168020290535424=some z2 from e2];rfl
 simp only[e1',e2',implies_true,aAp,azc]))
theorem arW:ar 49 ab2:=have E:=ai @ES.eq_1<|ai @vT.eq_1<|ai @oS.eq_1 SN;au (cH []) func49 [] l0 (sp λx fx h=>sl (vT x.2/\(AV x.1=true->oS x.2)))
theorem at3:ar 48 abD:=au (cH []) func48 [] l0 (λ_ _ _=>tr)
theorem anr:dP 250 LY:=dV (cH []) func250 [] l0 (sp λx fx h=>sl (sR x.1/\oR x.2.1/\oR x.2.2.1/\zU x.2.2.2) (by
 exact h))
theorem ang:ar 253 WE:=have E:=ai @Kt.eq_1<|ai @mm.eq_1<|ai @zw.eq_1 SN;au (cH [(999999,[59,118,136])]) func253 [] l0 (sp λx fx h=>sl (letI d:=(x.1,3);letI e:=x.2==2;letI g:=(x.1,2);letI h:=(x.1,4);letI i:=x.1.2.1;letI j:=x.2==6;letI m:=x.1.1;letI l:=(m.2.1.length:Int);letI n:=x.2==1;letI o:=x.2==3;letI p:=x.2==4;letI q:=x.2==5;letI r:=x.2==7;letI s:=(x.1,0);letI f:=n&&je s;letI t:=(x.1,1);letI b:=e&&je t;letI u:=aa m.2.2.1 i;letI c:=(r&&je h)&&(!u);letI v:=je d;letI a:=(e=true->mm h)/\(((e&&je h)&&u)=false->((p=true->mm g)/\((p&&je g)=false->((q=true->mm d)/\((q&&v)=false->((j=true->mm d)/\(((j&&v)=true->(0<=i/\i<l))/\((j&&v)=false->((r=true->mm h)/\((c=true->zw m)/\(c=false->((x.2==8)=true->0<=i/\i<l))))))))))));(0<=i/\i<(m.2.2.1.length:Int))/\((n=true->mm s)/\((f=true->zw m)/\(f=false->((e=true->mm t)/\((b=true->(b=false->a))/\(b=false->((o=true->mm g)/\((o&&je g)=false->a))))))))))
def SK:LS dF.den:=aH (Ty.pair gm (Ty.pair cX (Ty.pair ae bN))) (Ty.pair dF ae) [(2,none),(24,none),(25,none)] [(4,4)] [(7,none),(26,none)] [] [(0,100500,true,213)] [] [(4,4)] 0 false I9 uM CV
theorem akk:bF f215 Lj [0] SK:=have E:=ai @I9.eq_1<|ai @CV.eq_1<|ai @uM.eq_1 SN;lA (cH []) [] l0 (λk x fk fx h=>sm (letI a:=aP;letI b:=(4,0,0,x.2,2);letI c:=([(5,0,0,x.2,0)]:List a);letI d:=(6,0,0,x.2,0);letI f:=((x.1++ [b]):List a);letI h:=k.2.2.2.2;letI g:=0<=x.2/\x.2<(h.1.length:Int);letI i:=(((x.1++ [b])++ [d]):List a);letI j:=aa k.2.1 x.2;letI l:=j==4;letI e:=l&&aa h.2.1 x.2;decide (x.2<k.2.2.1)=true->((0<=x.2/\x.2<(k.2.1.length:Int))/\((l=true->0<=x.2/\x.2<(h.2.1.length:Int))/\((0<=x.2/\x.2<(k.1.length:Int))/\((((!(aa k.1 x.2))||((j !=1)&&(!e)))||Mt (k.2.2.2,x.2))=false->(((List.length (x.1:List a)+List.length ([b]:List a))*40<=140737488355328/\List.length (x.1:List a)+List.length ([b]:List a)<=4611686018427387903)/\((e=true->(((List.length f+List.length ([d]:List a))*40<=140737488355328/\List.length f+List.length ([d]:List a)<=4611686018427387903)/\(g/\(aa h.1 x.2=true->((List.length i+List.length c)*40<=140737488355328/\List.length i+List.length c<=4611686018427387903)))))/\(e=false->g/\(aa h.1 x.2=true->(List.length f+List.length c)*40<=140737488355328/\List.length f+List.length c<=4611686018427387903))))))))))
theorem aqQ:ar 215 Lj:=au (cH []) func215 [(5,SK)] (lc akk l0) (λx fx _=>sl ((!cJ (x.1,x.2.1)||(x.2.2.length:Int) !=x.1.2.2.2.2.2.2.2.length)=false->I9 (x.2.2,x.2.1.1,x.2.1.1.length,x.2.1) ([],0)) (by
 try dsimp only[Ty.den]at*
 intro hc;rw[auv,au8]at hc;obtain⟨_,h1,h2,h3,h4⟩:=Br fx.1.2.2.2.2.2.2.2.1 hc.1;exact⟨au4 _,rfl,anb h1 h2 h3 h4 hc.2⟩))
theorem apM:ar 226 YQ:=have E:=ai @qP.eq_1 SN;au (cH []) func226 [] l0 (λx fx _=>sl ((!qP x)=false->0<=x.2/\x.2<x.1.1.length))
theorem anW:ar 266 Yt:=have E:=ai @qP.eq_1 SN;au (cH []) func266 [] l0 (λx fx _=>sl (letI b:=aa x.1.1 x.2;letI c:=x.1.1.length;letI d:=b==0;letI e:=qP x;letI a:=e&&(d||b==4);(e=true->0<=x.2/\x.2<c)/\(e=true->d=false->0<=x.2/\x.2<c)/\(a=true->0<=x.2/\x.2<x.1.2.1.length)/\((a&& !aa x.1.2.1 x.2)=true->0<=x.2/\x.2<x.1.2.2.1.length)))
def R1:LS aS.den:=aH (Ty.pair gd ae) (Ty.pair ae aS) [(6,none),(7,none)] [] [(8,none)] [(3,2)] [] [] [(3,3)] 0 false Dn I7 JS
theorem aiR:bF f267 La [0] R1:=have E:=ai @Dn.eq_1<|ai @JS.eq_1<|ai @I7.eq_1 SN;lA (cH []) [] l0 (λk x fk fx h=>sm (decide (x.1<k.2)=true->0<=x.1/\x.1<k.1.length))
theorem apo:ar 267 La:=have E:=ai @Dn.eq_1 SN;au (cH []) func267 [(3,R1)] (lc aiR l0) (λx fx _=>sl (Dn (x,x.length) (0,0,0)))
def Sv:LS aS.den:=aH (Ty.pair gx (Ty.pair ae (Ty.pair da ae))) (Ty.pair ae aS) [(2,none),(3,none),(37,none),(38,none)] [] [(39,none)] [(9,2)] [] [] [(9,9)] 0 false Dp JM IU
theorem akN:bF f229 L3 [0] Sv:=have E:=ai @Dp.eq_1<|ai @IU.eq_1<|ai @JM.eq_1 SN;lA (cH []) [] l0 (λk x fk fx h=>sm (letI a:=aa k.2.2.1 x.1;decide (x.1<k.2.2.2)=true->(0<=x.1/\x.1<k.2.2.1.length)/\((a.2.2.1==k.2.1)=false->(a.2.2.1== -2)=true->0<=k.2.1/\k.2.1<k.1.length)))
theorem aob:ar 229 L3:=have E:=ai @Dp.eq_1 SN;au (cH []) func229 [(5,Sv)] (lc akN l0) (λx fx _=>sl (letI a:=(x.1.2.2.2.2.2.2.2.length:Int);letI b:=x.2.2;(!cJ (x.1,x.2.1)||b.1.length !=a||b.2<0||b.2>=a)=false->Dp (b.1,b.2,x.2.1.2.2.2,x.2.1.2.2.2.length) (0,0,0)))
def TW:LS (Ty.pair vU bX).den:=aH (Ty.pair mD (Ty.pair gx (Ty.pair ae aD))) (Ty.pair ae vU) [(2,none),(32,none),(33,none)] [(3,8)] [(34,none)] [(8,4)] [(1,100501,true,51),(2,100502,true,4)] [] [(3,3),(8,8)] 0 false II oH oF
theorem akW:bF f218 Lv [0] TW:=have E:=ai @II.eq_1<|ai @oF.eq_1<|ai @oH.eq_1 SN;lA (cH []) [] l0 (λk x fk fx h=>sm (letI a:=dS (iS (k.2.2.2,aa k.2.1 x.1),x.2.2.2);letI c:=af;letI d:=dS (a,aa k.1 x.1);letI b:=([!((d.1==0)&&(d.2==0))]:List Bool);letI e:=(x.2.2.1:List Bool);letI f:=(x.2.1:List c);decide (x.1<k.2.2.1)=true->((0<=x.1/\x.1<(k.2.1.length:Int))/\((List.length f+List.length ([a]:List c))*8<=140737488355328/\List.length f+List.length ([a]:List c)<=4611686018427387903)/\(0<=x.1/\x.1<k.1.length)/\(List.length e+List.length b)*1<=140737488355328/\List.length e+List.length b<=4611686018427387903)))
theorem apw:ar 218 Lv:=au (cH []) func218 [(5,TW)] (lc akW l0) (λx fx _=>sl (letI a:=(x.1.2.2.2.2.2.2.2.length:Int);letI b:=x.2.1.length;(ca x.1 !=0||b !=a||x.2.2.length !=a)=false->II (x.2.2,x.2.1,b,x.1) (0,[],[],0,0)) (by
 try dsimp only[Ty.den]at*
 intro hc;rw[auv,auv,au8 (b:=((x.1.2.2.2.2.2.2.2).length:Int)),au8 (b:=((x.1.2.2.2.2.2.2.2).length:Int))]at hc;obtain⟨⟨h1,h2⟩,h3⟩:=hc;have h8:=Xg fx.1.2.2.2.2.2.2.2.1 h1;exact⟨au4 _,rfl,alP h2 h3 h8⟩))
theorem apk:ar 220 Xo:=au (cH []) func220 [] l0 (sp λx fx h=>sl (sR x.1/\oR x.2.1/\oR x.2.2.1/\zU x.2.2.2) (by
 exact h))
def JQ:LS dF.den:=aH (Ty.pair gx (Ty.pair ae aD)) (Ty.pair ae aS) [(25,none),(26,none)] [(3,8)] [(27,none)] [(7,2)] [] [] [(3,3),(7,7)] 0 false Dh vf yz
def PZ:LS dF.den:=aH (Ty.pair da (Ty.pair ae aS)) (Ty.pair dF ae) [(38,none),(39,none)] [(7,2)] [(10,none),(40,none)] [] [(0,101100,true,213)] [] [(7,7)] 2 false Cf uB xW
theorem ak9:bF f223 EU [0] JQ:=have E:=ai @Dh.eq_1<|ai @yz.eq_1<|ai @vf.eq_1 SN;lA (cH []) [] l0 (λk x fk fx h=>sm (decide (x.1<k.2.1)=true->0<=x.1/\x.1<k.1.length))
theorem agK:bF f223 EU [1] PZ:=have E:=ai @Cf.eq_1<|ai @xW.eq_1<|ai @uB.eq_1 SN;lA (cH []) [(5,JQ)] l0 (λk x fk fx h=>sm (letI b:=aP;letI c:=aa k.1 x.2;letI a:=([(2,c.1,c.2.1,0,0)]:List b);decide (x.2<k.2.1)=true->(0<=x.2/\x.2<k.1.length)/\(dO (k.2.2,c.1,c.2.1)=true->(List.length (x.1:List b)+List.length a)*40<=140737488355328/\List.length (x.1:List b)+List.length a<=4611686018427387903)))
theorem apz:ar 223 EU:=have E:=ai @Dh.eq_1<|ai @Cf.eq_1<|ai @Kp.eq_1 SN;au (cH []) func223 [(5,JQ),(11,PZ)] (lc ak9 (lc agK l0)) (sp λx fx h=>sl (letI a:=(x.2.2.length:Int);letI b:=(0,0,0);letI c:=(x.2.2,a,x.1);(!cJ (x.1,x.2.1)||a !=x.1.2.2.2.2.2.2.2.length)=false->Dh c b/\Cf (x.2.1.2.2.2,x.2.1.2.2.2.length,(D9 c b).2) ([],0)))
def Uh:LS (Ty.pair ae Ty.unit).den:=aH (Ty.pair da (Ty.pair ae (Ty.pair ae ae))) ae [(0,none),(7,none)] [(2000,1),(2001,1)] [(8,none)] [] [] [] [] 0 true Cq np CO [(1,284,[2000,2001])]
theorem ajL:gU f283 EJ [0] Uh:=have E:=ai @Cq.eq_1<|ai @CO.eq_1<|ai @np.eq_1 SN;lV (cH []) [] l0 (λk x fk fx h=>sm (decide (x<k.2.1)=true->0<=x/\x<k.1.length))
theorem aoZ:dP 283 EJ:=have E:=ai @Cq.eq_1 SN;dV (cH []) func283 [(2,Uh)] (lc ajL l0) (λx fx _=>sl (Cq (x.1,x.1.length,x.2) 0))
def To:LS aS.den:=aH (Ty.pair da ae) (Ty.pair ae aS) [(6,none),(7,none)] [] [(8,none)] [(3,2)] [] [] [(3,3)] 0 false CT uI yY
theorem aju:bF f228 Lx [0] To:=have E:=ai @CT.eq_1<|ai @yY.eq_1<|ai @uI.eq_1 SN;lA (cH []) [] l0 (λk x fk fx h=>sm (decide (x.1<k.2)=true->0<=x.1/\x.1<k.1.length))
theorem ant:ar 228 Lx:=have E:=ai @CT.eq_1 SN;au (cH []) func228 [(3,To)] (lc aju l0) (λx fx _=>sl (CT (x,x.length) (0,0,0)))
theorem anu:ar 289 Yu:=au (cH []) func289 [] l0 (λx fx _=>sf (letI d:=x.2.2;letI e:=i64.wrap (sE x-1);letI f:=d.1==1;letI g:=d.2.2;letI h:=x.2.1;letI b:=((d.1==0)||((d.1==g.2)&&((f&&decide (g.1>=h))||((d.1==2)&&decide (g.1<=h)))));letI c:=((((((!(nP x.1))||decide (h<0))||decide (h>=x.1))||decide (d.1<0))||decide (d.1>2))||(!(wN (x.1,g))));letI i:=kh (x.1,d.2.1);letI a:=u32.wrap ((BitVec.ofInt u32.bits (u32.wrap ((BitVec.ofInt u32.bits (u32.wrap ((BitVec.ofInt u32.bits (u32.wrap ((BitVec.ofInt u32.bits i.1|||BitVec.ofInt u32.bits i.2.1).toNat:Int))|||BitVec.ofInt u32.bits i.2.2).toNat:Int))|||BitVec.ofInt u32.bits (u32.wrap (1*2^min h.toNat u32.bits))).toNat:Int))|||BitVec.ofInt u32.bits (u32.wrap (1*2^min g.1.toNat u32.bits))).toNat:Int);letI j:=d.1 !=g.2;letI l:=zx x;(c=true->True)/\(c=false->(vr (x.1,d.2.1)/\((0<=h)/\((0<=g.1)/\(vT a/\(DA a/\((b=true->(ql ([],h,g.1)/\True))/\(b=false->(((j&&f)=true->(ql ([e],h,g.1)/\True))/\((j&&f)=false->(j=true->ql ([l],h,g.1)/\True)/\(j=false->(f=true->ql ([e,l],h,g.1)/\True)/\(f=false->ql ([l,e],h,g.1)/\True))))))))))))) (by
 try dsimp only[Ty.den]at*
 simp only[ql,vT,DA,vr,nP,wN,av9,auv,ave,au0,adv,aut]at*;repeat' (first|exact trivial|apply And.intro|intro _)
 all_goals first|omega|exact W.lo (sM _)|exact W.hi (sM _)|(simp only[avi,avk];omega)))
theorem apO:ar 305 WI:=have E:=ai @DF.eq_1<|ai @oS.eq_1 SN;au (cH []) func305 [] l0 (sp λx fx h=>sl (oS x.1/\oS x.2))
def U2:Fv:={p:=Ty.pair gz gz,ax:= [some 3,some 3],r:=ae,ao:=ah.one none,fs:= [107],F:=FG}
theorem ahT:qR (some U2):=BJ (λg hg=>by
 simp only[U2,avv,axw,aA1]at hg;rcases hg with rfl
 ·exact⟨Wp,_,func107,by kernel_rfl,by kernel_rfl⟩)
def Uc:LS (Ty.pair ae aw).den:=aH (Ty.pair gd (Ty.pair zO gz)) (Ty.pair ae ae) [(0,none),(2,none)] [(4,3)] [(9,none),(10,none)] [] [] [] [(4,4)] 0 false uU sv sq
theorem Jl(k:(Ty.pair gd (Ty.pair zO gz)).den)(x:(Ty.pair ae ae).den)(fk:Fit (Ty.pair gd (Ty.pair zO gz)) k)(h:uU k x):bf false uU sq k x (sv k x):=by
 try dsimp only[Ty.den]at*
 obtain⟨h0,h1,h2,h3,h4⟩:=h;unfold sv;refine bf.cnd (λhc=> ?_) (λ_=>rfl);rw[adv]at hc;have e:=zt h0 h1 (aw1 h2 (oP h3));have r:=CB h0 hc h2;rw[e,aA (x:=(x.1+x.2)/2+1) (by omega) (by omega)];refine bf.cnd (λ_=>⟨rfl,⟨?_,?_,h2,h3,h4⟩,?_⟩) (λ_=>⟨rfl,⟨h0,?_,?_,h3,h4⟩,?_⟩)
 ·exact abt h0 hc
 ·exact abR h0 hc
 ·exact acK h0 hc
 ·exact aaR h0 hc
 ·exact aw1 (aBv (Vl h0 hc)) h2
 ·exact abc h0 hc
def Zy(z:List (Nat×List Nat)):=dN (yl true) yi ahT yI z
theorem alc:bF f157 K4 [0] Uc:=lA (Zy []) [] l0 (λk x fk fx h=>sl (letI a:=i64.wrap (Int.fdiv (u64.wrap (i64.wrap (x.1+x.2))) (2^min (1:Int).toNat u64.bits));decide (x.1<x.2)=true->0<=(1:Int)/\(0<=a/\a<k.1.length)/\(∃g,k.2.1=some g/\g∈ [107])) (by
 try dsimp only[Ty.den]at*
 obtain⟨h0,h1,h2,h3,h4⟩:=h;intro hc;rw[adv]at hc;have e:=zt h0 h1 (aw1 h2 (oP h3));rw[e];exact⟨by decide,CB h0 hc h2,_,h4,by simp⟩)) Jl
theorem ara:ar 157 K4:=au (Zy []) func157 [(3,Uc)] (lc alc l0) (sp λx fx h=>sl (letI b:=x.1.length;letI c:=(x.1,x.2.2,x.2.1);letI a:=Dt c (0,b);letI d:=decide (a.1<b);uU c (0,b)/\(d=true->0<=a.1/\a.1<b)/\(d=true-> ∃g,x.2.2=some g/\g∈ [107])) (by
 try dsimp only[Ty.den]at*
 obtain⟨h0,h1⟩:=h;have hin:uU (x.1,x.2.2,x.2.1) ((0:Int),((x.1).length:Int)):=⟨au4 _,auz _,au4 _,h0,h1⟩;have hI:=oE (λy hy=>Jl (x.1,x.2.2,x.2.1) y ⟨fx.1,fx.2.2,fx.2.1⟩ hy) (λy k' z hz=>by
  unfold sv at hz;revert hz
  cases decide (y.1<y.2)with
  |true=>rw[auw];unfold cond;split<;>intro hz<;>cases hz
  |false=>intro hz;cases hz;rfl) (Nat.succ (sq (x.1,x.2.2,x.2.1) ((0:Int),((x.1).length:Int)))) _ hin
 have g0:0<=(Dt (x.1,x.2.2,x.2.1) ((0:Int),((x.1).length:Int))).1:=hI.1;refine⟨hin,λhc=> ?_,λ_=>⟨_,h1,by simp⟩⟩;rw[adv]at hc;exact⟨g0,hc⟩))
def Uk:LS aS.den:=aH da (Ty.pair ae aS) [(0,none)] [] [(4,none)] [(3,2)] [] [] [(3,3)] 0 false DM vz zf
theorem amc:bF f22 Ni [0] Uk:=have E:=ai @DM.eq_1<|ai @zf.eq_1<|ai @vz.eq_1 SN;lA (cH []) [] l0 (λk x fk fx h=>sm (letI b:=k.length;letI a:=0<=x.1/\x.1<b;decide (x.1<b)=true->a/\a))
theorem arN:ar 22 Ni:=have E:=ai @DM.eq_1 SN;au (cH []) func22 [(3,Uk)] (lc amc l0) (λx fx _=>sl (DM x (0,0,0)))
def Km:LS da.den:=aH (Ty.pair ae aS) (Ty.pair da ae) [(4,none)] [(1,2)] [(3,none),(5,none)] [] [(0,100600,true,93)] [] [(1,1)] 2 false oN ml zb
def VI:LS da.den:=aH aS (Ty.pair da ae) [] [(1,2)] [(3,none),(4,none)] [] [(0,100300,true,93)] [] [(1,1)] 0 false DQ zu Ek
theorem Ut(k:(Ty.pair ae aS).den)(x:(Ty.pair da ae).den)(fk:Fit (Ty.pair ae aS) k)(h:oN k x):bf false oN zb k x (ml k x):=by
 try dsimp only[Ty.den]at*
 simp only[oN,Fit,maxLen]at h fk;unfold ml
 (repeat' (first|exact rfl|(refine bf.cnd (λhc=> ?_) (λhc=> ?_)<;>(try simp only[avf,av1,aw8,avu,au8,axf,aJ,bc,bM,aC,au1,avi,avk,auu,awj,avp,avo,adv,aut,av9,au0,auv,avz,avm,ave,aw0,aye,awt,awu,axq,ne_eq]at hc))|refine bf.opt (λ_=> ?_)))<;>(first|exact rfl|(refine⟨rfl,?_,?_⟩<;>simp only[oN,zb,jq,mX,extract_size,lx,Jv,avf,av1,aw8,avu,BY,BW,au8,axf,aJ,bc,bM,aC,au1,avi,avk,auu,awj,avp,avo,adv,aut,av9,au0,auv,avz,avm,ave,aw0,aye,awt,awu,axq,ne_eq]<;>first|omega|(and_intros<;>first|omega|exact h.1|exact h.2|exact h.2.1|exact h.2.2|exact h.2.2.1|exact h.2.2.2|exact h.2.2.2.1|exact h.2.2.2.2|exact h.2.2.2.2.1|exact h.2.2.2.2.2|exact h.2.2.2.2.2.1|exact h.2.2.2.2.2.2)))
theorem amf:bF f70 E8 [0,0] Km:=have E:=ai @oN.eq_1 SN;lA (cH []) [] l0 (λk x fk fx h=>sm (letI a:=([(k.1,x.2,-1,0,false)]:List az);letI b:=(x.1:List az);decide (x.2<=2)=true->nX (k.2,k.1,x.2)=true->(List.length b+List.length a)*40<=140737488355328/\List.length b+List.length a<=4611686018427387903)) Ut
theorem alw:bF f70 E8 [0] VI:=have E:=ai @DQ.eq_1<|ai @oN.eq_1 SN;lA (cH []) [(6,Km)] (lc amf l0) (λk x fk fx h=>sm (decide (x.2<32)=true->oN (x.2,k) (x.1,1))) λk x fk h=>by
 try dsimp only[Ty.den]at*
 obtain⟨h0,h1⟩:=h;unfold zu;refine bf.cnd (λhc=> ?_) (λ_=>rfl);rw[adv]at hc;have e:=AM h0 hc (by decide);have hI:=oE (λy hy=>Ut (x.2,k) y ⟨trivial,fk⟩ hy) (λy k' z hz=>by
  unfold ml at hz;revert hz
  unfold cond;split
  ·split<;>intro hz<;>cases hz
  ·intro hz;cases hz;rfl) (Nat.succ (zb (x.2,k) (x.1,(1:Int)))) (x.1,(1:Int)) ⟨au4 _,arG h1 h0 hc⟩
 rw[e];exact⟨rfl,⟨cE h0,ao9 hI.2.1 hI.2.2.2.2⟩,dg hc⟩
theorem asp:ar 70 E8:=have E:=ai @oN.eq_1<|ai @DQ.eq_1 SN;au (cH []) func70 [(6,Km),(3,VI)] (lc alw l0) (λx fx _=>sl (DQ x ([],0)))
theorem at1:ar 71 adw:=au (cH []) func71 [] l0 (λ_ _ _=>tr)
def aaV(nw:Bool):=(250,.pv LY)::(283,.pv EJ)::adm nw
theorem PX(nw:Bool):gj (aaV nw):=zc (z:= .pv LY) anr func250 (zc (z:= .pv EJ) aoZ func283 ((yl nw)))
def abg:List (Nat×Cp):=(57,acO)::acj
theorem Q5:ia abg:=pc atV func57 (yi)
def aaI:=(28,MU)::(117,K2)::(148,Y8)::(100,Z3)::(141,Mk)::(61,ME)::(109,WG)::(110,YA)::(65,MX)::(44,M6)::(206,Ma)::(170,W4)::(49,ab2)::(48,abD)::(253,WE)::(215,Lj)::(226,YQ)::(266,Yt)::(267,La)::(229,L3)::(218,Lv)::(220,Xo)::(223,EU)::(228,Lx)::(289,Yu)::(305,WI)::(157,K4)::(22,Ni)::(70,E8)::(71,adw)::aaN
theorem Rs:cu aaI:=gc asg func28 (gc apn func117 (gc apS func148 (gc anT func100 ((gc am4 func141 (gc ato func61 (gc aqj func109 (gc am9 func110 (gc asG func65 (gc atd func44 (gc ano func206 (gc aoo func170 (gc arW func49 (gc at3 func48 (gc ang func253 (gc aqQ func215 (gc apM func226 (gc anW func266 (gc apo func267 (gc aob func229 (gc apw func218 (gc apk func220 (gc apz func223 (gc ant func228 (gc anu func289 (gc apO func305 (gc ara func157 ((gc arN func22 (gc asp func70 (gc at1 func71 (yI))))))))))))))))))))))))))))))))
theorem aia{l:List az}(h:l.length<=1000000):Fit da l:=⟨by grind [maxLen],λ_ _=>⟨trivial,trivial,trivial,trivial,trivial⟩⟩
theorem ahK{m:ak}{f d:Int}(hl:m.2.2.2.length<=1000000):0<=(bt (m,f,d)).1/\(bt (m,f,d)).1<=m.2.2.2.length/\((bt (m,f,d)).2=true->(bt (m,f,d)).1<m.2.2.2.length):=by
 have a:uV (m.2.2.2,some 140,(f,d,0,0,false)) (0,m.2.2.2.length):=⟨au4 _,auz _,au4 _,hl,rfl⟩;have g:=oE (λy i=>Jo (m.2.2.2,some 140,(f,d,0,0,false)) y ⟨aia hl,trivial,trivial,trivial,trivial,trivial,trivial⟩ i) (λy k' z j=>by
  unfold rZ at j;grind) (Nat.succ (sg (m.2.2.2,some 140,(f,d,0,0,false)) (0,m.2.2.2.length))) _ a
 obtain⟨h0,h1,h2,_,_⟩:=g;refine⟨h0,aw1 h1 h2,λh=> ?_⟩;simp_all [bt,FN]
theorem ajW{l:List az}{c:af}(hl:l.length<=1000000):(oY (l,c)).1= -1\/0<=(oY (l,c)).1/\(oY (l,c)).1<l.length:=by
 have key: ∀(n:Nat) (x:Int),0<=x->(∀r,bj np (l,l.length,c) n x=some r->0<=r.1/\r.1<l.length):=by
  intro n;induction n with
  |zero=>intro x _ r hr;cases hr
  |succ n f=>
   intro x h0 r hr;by_cases a:x<l.length
   ·have hs:np (l,l.length,c) x=bif(qL (aa l x,c)).1 then an.ret (x,())else an.next (l,(l.length:Int),c) (i64.wrap (x+1)):=by
     unfold np;simp only[a,avn,auw]
    rw[bj,hs]at hr;cases hq:(qL (aa l x,c)).1 with
    |true=>rw[hq,auw]at hr;cases hr;exact⟨h0,a⟩
    |false=>
     rw[hq,aur,cA h0 a (by simp only[maxLen];omega)]at hr;exact f (x+1) (by omega) r hr
   ·have hs:np (l,l.length,c) x=an.brk (l,(l.length:Int),c) x:=by
     unfold np;simp only[a,av4,aur]
    rw[bj,hs]at hr;cases hr
 unfold oY;cases h:KR ((l,c).1,((l,c).1.length:Int),(l,c).2) 0 with
 |none=>exact .inl rfl
 |some r=>exact .inr (key _ 0 (au4 _) r h)
theorem N4{b:ab}{c:Int}{s:bT}(hl:b.2.2.2.2.2.2.2.length<=maxLen)(h:fI (b,c,s)=true):aK b/\0<=c/\c<b.2.2.2.2.2.2.2.length:=by
 unfold fI at h;revert h
 unfold cond;split
 ·simp_all
 ·rename_i a
  intro _;simp only[auv,au8,ave]at a;obtain⟨⟨⟨⟨⟨⟨h1,h2⟩,_⟩,_⟩,_⟩,_⟩,_⟩:=a;have f:=oD hl h1;have g:=f.cn;unfold gR at h2;simp only[au0,adv]at h2;rw[aA (by omega) (by have:b.2.2.2.2.2.2.2.length<=8:=g.2;omega)]at h2;exact⟨f,by omega,by omega⟩
theorem ak4{x:af}(h:(0<=x.1/\x.1<=255)/\0<=x.2/\x.2<=255):(tJ x).2.2.2.2.2.2.2.length<=8:=by
 have a:=Gy h;have f:=oE (λy g=>VF x.2 y trivial g) (λy k' z i=>by
  unfold qj at i;grind) (Nat.succ (sI x.2 (0,ji x))) (0,ji x) ⟨au4 _,a.1.cn.2⟩
 exact f.2
theorem alT{n m f c:Nat}{l:Nat}{a:Int}(i1:n=l)(i2:m=l)(g:f=l)(h:c=(l:Int))(h0: ¬ a<0)(h1: ¬ a>=l):(0<=a/\a<c)/\(0<=a/\a<n/\m=n/\f=n):=by
 omega
theorem apy{n:Nat}{e:Ty}(h:n<=8):((aC e n).length:Int)<=8:=by grind [aC]
theorem alX{a n:Int}(h:a= -1\/0<=a/\a<n)(f: ¬ a<0):0<=a/\a<n:=by omega
def MD(x:(aP)×ak):Prop:=
 x.2.2.2.2.length<=90000/\((x.1.1==4)=true->0<=x.1.2.2.2.1/\x.1.2.2.2.1<x.2.1.length)/\((x.1.1==5)=true->0<=x.1.2.2.2.1/\x.1.2.2.2.1<x.2.2.1.length)/\((x.1.1==6)=true->0<=x.1.2.2.2.1/\x.1.2.2.2.1<x.2.2.2.1.length)
theorem aha{l:List iD}(h:l.length<=1000000):Fit gd l:=⟨by grind [maxLen],λ_ _=>⟨trivial,trivial,trivial⟩⟩
theorem agr{l:List iD}{y:iD}(hl:l.length<=1000000):0<=(lN (l,y,some 107)).1/\(lN (l,y,some 107)).1<=l.length:=by
 have a:uU (l,some 107,y) (0,l.length):=⟨au4 _,auz _,au4 _,hl,rfl⟩;have f:=oE (λz g=>Jl (l,some 107,y) z ⟨aha hl,trivial,trivial,trivial,trivial⟩ g) (λy k' z h=>by
  unfold sv at h;grind) (Nat.succ (sq (l,some 107,y) (0,l.length))) _ a
 obtain⟨h0,h1,h2,_,_⟩:=f;exact⟨h0,aw1 h1 h2⟩
theorem uf(c:af):(eR c).length<=64:=by
 unfold eR;have key: ∀l:List Nat,(l.flatMap λf:Nat=>(bif dO (c,f,1)then[((f:Int),1,(-1:Int),0,false)]else[])++(bif dO (c,f,2)then[((f:Int),(2:Int),(-1:Int),(0:Int),false)]else[])).length<=2*l.length:=by
  intro l;induction l with
  |nil=>simp
  |cons a l g=>
   grind
 grind
theorem alV{n:Nat}(h:n<=1000):0<=(n:Int)/\n=(n:Int)/\(n:Int)*24<=140737488355328/\(n:Int)<=4611686018427387903:=by omega
theorem atr{e:Ty}{l:List e.den}(h:l.length<=1000):((bc (aC e l.length) l).length:Int)<=1000+0:=by grind [bc,aC]
theorem aue{i n:Int}{m:Nat}(a:i<n)(h2:n<=64)(h3:m<=1000+i):m<=1064:=by omega
theorem atZ{i:Int}{m:Nat}(h3:m<=1000+i):m<=1000+(i+1):=by omega
theorem atg{i:Int}{m n:Nat}(a:n=m+1)(h3:m<=1000+i):n<=1000+(i+1):=by omega
theorem Jy{α:Type}(l:List α)(i:Int)(v:List α)(a:v.length=1):(iz l i v).length=l.length+1:=by
 grind [iz]
theorem O6{k:List az×Int×ab×ak}(a:k.2.1=k.1.length)(hl:k.1.length<=maxLen): ∀(n:Nat) (x:Int),0<=x->(k.2.1-x).toNat<n->dJ (bj nf k n x) (λy=>y) true=true->
  ∀j,x<=j->j<k.2.1->lK (k.2.2.1,aa k.1 j)=true/\(j>0->lL (aa k.2.2.2.2.2.2 (j-1),aa k.1 j)<0)
 |0,_,_,f,_,_,_,_=>by omega
 |n+1,x,h0,f,h,j,l,g=>by
  have i:x<k.2.1:=by omega
  have e:=cA h0 (a▸i) hl;have m:0<x->i64.wrap (x-1)=x-1:=λo=>by
   grind [maxLen,aA]
  cases hc:((!(lK (k.2.2.1,(aa k.1 x))))||((decide (x>0))&&(decide ((lL ((aa k.2.2.2.2.2.2 (i64.wrap (x-1))),(aa k.1 x)))>=0))))with
  |true=>
   have hs:nf k x=an.ret false:=by
    grind [nf]
   rw[bj,hs]at h;cases h
  |false=>
   have hs:nf k x=an.next k (x+1):=by
    grind [nf]
   rw[bj,hs]at h;by_cases s:j=x
   ·simp_all
   ·exact O6 a hl n (x+1) (by omega) (by omega) h j (by omega) g
theorem aem{x:ab×ak}(hl:x.1.2.2.2.2.2.2.2.length<=maxLen)(f:x.2.2.2.2.length<=maxLen)(h:cJ x=true):
  ∀j:Int,0<=j->j<x.2.2.2.2.length->lK (x.1,aa x.2.2.2.2 j)=true/\(j>0->lL (aa x.2.2.2.2 (j-1),aa x.2.2.2.2 j)<0):=by
 unfold cJ at h;revert h
 unfold cond;split
 ·simp_all
 ·intro h
  cases h5:D3 (x.2.1,x.2.1.length) 0 with
  |some r=>
   rw[h5]at h;have hr:=by
    have key: ∀(n:Nat) (y:Int),bj rX (x.2.1,x.2.1.length) n y=some r->r=false:=by
     intro n;induction n with
     |zero=>intro y a;cases a
     |succ n g=>
      intro y a;rw[bj]at a;unfold rX at a;revert a
      cases decide (y<(x.2.1,x.2.1.length).2)with
      |false=>intro a;cases a
      |true=>
       cases(decide (aa (x.2.1,x.2.1.length).1 y<0)||decide (aa (x.2.1,x.2.1.length).1 y>4))with
       |true=>intro a;cases a;rfl
       |false=>intro a;exact g _ a
    exact key _ _ h5
   rw[hr]at h;cases h
  |none=>
   rw[h5]at h;intro j h0 i;exact O6 rfl f _ 0 (au4 _) (aAk _) h j h0 i
def Vp(l:List az)(n:Nat):Prop:= ∀j:Int,0<=j->j<l.length->(-2:Int)<=(aa l j).2.2.1/\(aa l j).2.2.1<n
theorem ag8{x:ab×ak}(hl:x.1.2.2.2.2.2.2.2.length<=maxLen)(a:x.2.2.2.2.length<=maxLen)(h:cJ x=true):Vp x.2.2.2.2 x.1.2.2.2.2.2.2.2.length:=λj h0 h1=>by
 have:=(aem hl a h j h0 h1).1;simp_all [lK]
theorem J1{α:Type}{l m:List α}{i n:Int}(h:l.length=i)(a:i<n)(f:n<=100000)(hm:m.length=1:=by rfl){b c d:Nat}(hb:b<=1000:=by decide)(g:c=140737488355328:=by rfl)(j:d=4611686018427387903:=by rfl):(l.length+m.length)*b<=c/\l.length+m.length<=d:=by
 have:l.length+m.length<=100001:=by omega
 refine⟨?_,by omega⟩;calc (l.length+m.length)*b<=100001*1000:=aza this hb
  _<=c:=by omega
def dk(e:iD):Int:=ck e.1 e.2.1
structure dZ (b:ab) (c:Int) (s:bT):Prop where
 bB:aK b
 eU:0<=c/\c<(b.2.2.2.2.2.2.2.length:Int)
 fl: -1<=s.1/\s.1<=b.1-1
 dir:0<=s.2.1/\s.2.1<=3
 Mv:0<=s.2.2.1/\s.2.2.1<=3
 still:0<=s.2.2.2.2.1/\s.2.2.2.2.1<=1000000
 late:s.2.2.2.2.2=true->s.2.2.2.1= []
 Ff: ∀d∈s.2.2.2.1,cL b.1 d.1 d.2.1/\0<=d.2.2/\d.2.2<=(aa b.2.2.2.2.2.2.2 c).1
 fg:eM dk s.2.2.2.1
theorem within_iff(a b c:Int):gR (a,b,c)=true↔b<=a/\a<=c:=by
 simp_all [gR]
theorem xF{b:ab}{c:Int}{s:bT}(hl:b.2.2.2.2.2.2.2.length<=maxLen)(h2:s.2.2.2.1.length<=maxLen):fI (b,c,s)=true↔dZ b c s:=by
 have m:Y3 (c,s.2.2.2.1,s.2.2.2.1.length,b,s) 0=if∀i:Nat,i<s.2.2.2.1.length->(!(((!(nY (b,(aa s.2.2.2.1 i).1,(aa s.2.2.2.1 i).2.1)))||(!(gR ((aa s.2.2.2.1 i).2.2,0,(aa b.2.2.2.2.2.2.2 c).1))))||(decide (i>0)&&decide (pe (aa s.2.2.2.1 (i64.wrap (i-1)),aa s.2.2.2.1 i)>=0))))=true then none else some false:=
  scan h2 (λi hi=>by
   unfold zo;grind) (by simp_all [zo]) (by simp_all [DO])
 have o:ca b=0↔aK b:=by rw[kB b hl,jS]
 have wr:aK b->i64.wrap (b.2.2.2.2.2.2.2.length-1)=b.2.2.2.2.2.2.2.length-1/\i64.wrap (b.1-1)=b.1-1:=λa=>by
  have h1:=a.fl;have h3:=a.cn;grind [aA]
 constructor
 ·intro h
  unfold fI at h;simp only at h;rw[m]at h;revert h
  unfold cond;split
  ·intro h;cases h
  rename_i t;intro h;simp only[auv,au8,ave,avz,aut]at t;obtain⟨⟨⟨⟨⟨⟨c1,c2⟩,c3⟩,c4⟩,c5⟩,c6⟩,c7⟩:=t;have a:=o.1 c1;obtain⟨j,k⟩:=wr a;rw[j,within_iff]at c2;rw[k,within_iff]at c3;rw[within_iff]at c4 c5 c6;by_cases p: ∀i:Nat,i<s.2.2.2.1.length->(!(((!(nY (b,(aa s.2.2.2.1 i).1,(aa s.2.2.2.1 i).2.1)))||(!(gR ((aa s.2.2.2.1 i).2.2,0,(aa b.2.2.2.2.2.2.2 c).1))))||(decide (i>0)&&decide (pe (aa s.2.2.2.1 (i64.wrap (i-1)),aa s.2.2.2.1 i)>=0))))=true
  ·have f: ∀i:Nat,i<s.2.2.2.1.length->cL b.1 (aa s.2.2.2.1 i).1 (aa s.2.2.2.1 i).2.1/\0<=(aa s.2.2.2.1 i).2.2/\(aa s.2.2.2.1 i).2.2<=(aa b.2.2.2.2.2.2.2 c).1:=λi hi=>by
    have:=p i hi;rw[avm,auv,auv,ave,ave]at this;exact⟨((Bn hl _ _).1 this.1.1).2,(within_iff _ _ _).1 this.1.2⟩
   refine⟨a,⟨c2.1,by omega⟩,c3,c4,c5,c6,λhs=> ?_,lp.2 f,Ck.2 λi h0 hi=> ?_⟩
   ·rcases c7 with c7|c7
    ·rw[hs]at c7;cases c7
    ·exact avt (by omega)
   ·have:=p i hi
    rw[avm,auv]at this;have h3:=this.2;rw[aA (by omega) (by unfold maxLen at h2;omega),show decide (i>0)=true from by simp;omega,axs,aut]at h3;have l:=((f i hi).1.key a.fl.2).1;have g:=((f (i-1) (by omega)).1.key a.fl.2).1;rw[show((i-1:Nat):Int)=i-1 by omega]at g;exact(nm g l).1.1 (by
     have h4:=h3;unfold pe at h4;simp only at h4;omega)
  ·rw[au6 p]at h;cases h
 ·rintro⟨a,u,w,x,y,z,A,p2,p3⟩
  obtain⟨j,k⟩:=wr a;have f:=lp.1 p2;have p: ∀i:Nat,i<s.2.2.2.1.length->(!(((!(nY (b,(aa s.2.2.2.1 i).1,(aa s.2.2.2.1 i).2.1)))||(!(gR ((aa s.2.2.2.1 i).2.2,0,(aa b.2.2.2.2.2.2.2 c).1))))||(decide (i>0)&&decide (pe (aa s.2.2.2.1 (i64.wrap (i-1)),aa s.2.2.2.1 i)>=0))))=true:=λi hi=>by
   rw[avm,auv,auv,ave,ave];refine⟨⟨(Bn hl _ _).2 ⟨a,(f i hi).1⟩,(within_iff _ _ _).2 (f i hi).2⟩,?_⟩;by_cases h0:i>0
   ·rw[aA (by omega) (by unfold maxLen at h2;omega)]
    have l:=((f i hi).1.key a.fl.2).1;have g:=((f (i-1) (by omega)).1.key a.fl.2).1;rw[show((i-1:Nat):Int)=i-1 by omega]at g;have h4:=(nm g l).1.2 (Ck.1 p3 i (by omega) hi);rw[avz,aut (p:=pe _>=0)];right;unfold pe;simp only;omega
   ·rw[show decide (i>0)=false from axg h0]
    rfl
  unfold fI;simp only;rw[m,ava p,o.2 a,j,k,(within_iff _ _ _).2 ⟨u.1,by omega⟩,(within_iff _ _ _).2 w,(within_iff _ _ _).2 x,(within_iff _ _ _).2 y,(within_iff _ _ _).2 z];cases hs:s.2.2.2.2.2 with
  |true=>rw[A hs];rfl
  |false=>rfl
theorem dZ.len{b:ab}{c:Int}{s:bT}(h:dZ b c s):s.2.2.2.1.length<=64:=K6 h.fg λe a=>((h.Ff e a).1.key h.bB.fl.2).2
end Go.Proofs.YtcfinjcapeemeaaGreatDoor.S
