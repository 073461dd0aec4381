/- Part of the proof that the law TopModel holds for every input. -/
import Derived.Test.YtcfinjcapeemeaaGreatDoorP9
set_option linter.all false
set_option maxRecDepth 100000
set_option maxHeartbeats 4000000
namespace Go.Proofs.YtcfinjcapeemeaaGreatDoor.S
open Go Go.RowKit IntKind Go.Proofs.Tryz
def hU(c:af):List aC:=
 (List.range 32).flatMap λf:Nat=>(bif gg (c,f,1)then[((f:Int),(1:Int),(-1:Int),(0:Int),false)]else[])++(bif gg (c,f,2)then[((f:Int),(2:Int),(-1:Int),(0:Int),false)]else[])
def Mv(x:af):aC:=(x.1,x.2,-1,0,false)
theorem atM(has:Int->Int->Bool)(k:Nat):lsP has (2*(k+1))=lsP has (2*k)++((bif has k 1 then[((k:Int),1)]else[])++(bif has k 2 then[((k:Int),2)]else[])):=by
 grind [lsP]
theorem Pc(c:af): ∀k:Nat,(lsP (λf d=>gg (c,f,d)) (2*k)).map Mv=(List.range k).flatMap λf:Nat=>(bif gg (c,f,1)then[((f:Int),(1:Int),(-1:Int),(0:Int),false)]else[])++(bif gg (c,f,2)then[((f:Int),(2:Int),(-1:Int),(0:Int),false)]else[])
 |0=>rfl
 |k+1=>by
  rw[atM,ax2,Pc c k,azb,ayx,ayu,List.flatMap_nil,awu,ax2];congr 2<;>(cases gg _<;>rfl)
theorem aeP{w:World}{X:Nat->Nat->Prop}{x:af}{args:Array Value}{cs:List Value}(f:ef [some 2] args.toList cs)(g:TR w X aU x cs):args= #[.agg #[.int .u32 x.1,.int .u32 x.2]]:=by
 obtain⟨i,v2,rfl,h1,h2⟩:=g;subst h1;subst h2;revert f
 cases hl:args.toList with
 |nil=>intro h;exact h.elim
 |cons a r=>
  rintro⟨j,cs',h1,h2,h3,h4⟩
  cases r with
  |nil=>
   have h4:cs'= []:=h4;grind
  |cons _ _=>exact h4.elim
theorem ahC{G:Gd}(g:ea prog G 153 EZ)(x:af)(f d:Int)(w:World)(h:G.H w):Calls prog 153 #[.agg #[.int .u32 x.1,.int .u32 x.2],.int .i64 f,.int .i64 d] w λe w'=>e= .returned (.bool (gg (x,f,d)))/\Below w.heap.size w w':=by
 refine(g (x,f,d) w (λ_ _=>False) _ [.int .u32 x.1,.int .u32 x.2,.int .i64 f,.int .i64 d] h (λ_ _ h=>h.elim) (λq h=>by cases h) (show ef [some 2,none,none] [.agg #[.int .u32 x.1,.int .u32 x.2],.int .i64 f,.int .i64 d] _ from⟨[.int .u32 x.1,.int .u32 x.2],[.int .i64 f,.int .i64 d],rfl,rfl,rfl,[.int .i64 d],rfl,[],rfl,rfl⟩) ⟨[.int .u32 x.1,.int .u32 x.2],[.int .i64 f,.int .i64 d],rfl,⟨_,_,rfl,rfl,rfl⟩,⟨_,_,rfl,rfl,rfl⟩⟩).mono ?_;rintro e w' ⟨v,rfl,j,cs,a,_,i⟩
 have a:cs= [.bool (gg (x,f,d))]:=a;obtain⟨cs',h1,h2⟩:=i;simp_all
theorem Q3: ∀(L:List (af)) (i j:Nat) (hi:i<L.length) (_:j<5),(L.flatMap jY)[i*5+j]? =(jY L[i])[j]?
 |x::L,0,j,_,a=>by
  rw[ayu,aw8 (by show 0*5+j<5;omega)];simp
 |x::L,i+1,j,hi,a=>by
  have e:(i+1)*5+j=(jY x).length+(i*5+j):=by show _=5+_;omega
  rw[ayu,e,ayg (aBj _ _),Nat.add_sub_cancel_left];exact Q3 L i j (by simp_all) a
theorem aiT{W:World}{X:Nat->Nat->Prop}{b:Nat}{v:Value}{L:List (af)}(hX: ∀c p,X c p->c<b)(h:W.ownsRow b 93 5 v L.length (L.flatMap jY)):LR W X 5 (TR W X dP) (L.map Mv) v:=by
 obtain⟨_,⟨rfl,h0⟩|⟨g,cap,f,rfl,hb,k,h1,h2,h3,h4⟩⟩:=h
 ·exact .inl ⟨by simp_all,rfl⟩
 ·refine .inr ⟨⟨g,0,none⟩,cap,by simp_all,by simp_all,h2,λ_=>rfl,λi hi=> ?_,λp _ _ l=>absurd (hX g p l) (by omega)⟩
  rw[ayt]at hi;refine⟨jY L[i],rfl,λj a=> ?_,?_⟩
  ·have h5:=Q3 L i j hi a
   have h6:j<(jY L[i]).length:=a;rw[<- h4,List.getElem?_take_of_lt (by omega),avh h6]at h5;have:W.cell? ⟨g,0+(i*5+j),none⟩=f.toList[i*5+j]? :=by simp[World.cell?,k]
   rw[this,h5,ave,avh h6];rfl
  ·rw[List.getElem_map]
   exact⟨_,_,rfl,rfl,_,_,rfl,rfl,_,_,rfl,rfl,_,_,rfl,rfl,rfl⟩
theorem amg{G:Gd}(a:ea prog G 153 EZ):ea prog G 154 { p:=aU,ay:= [some 2],r:=dg,ar:=(ah.one (none)),pre:=none,fresh:=none,F:=λx=>hU x}:=by
 intro x w X args cs hH hX _ g i;obtain rfl:=aeP g i;refine(ahV x.1 x.2 (λf d=>gg (x,f,d)) rfl (λf d w h=>ahC a x f d w h) w hH (λm o h1 h2=> ?_)).mono ?_
 ·exact G.mono ⟨h2.os,h2.tape,h2.size,λb hb=>⟨G.low h1 hb,h2.block b (G.low hH hb)⟩⟩ h1
 ·rintro e s ⟨v,rfl,j,_,k⟩
  have l:=by
   have:=aiT (λc p h=>ava (hX c p h).1 (aBj w.heap.size 3)) j;rwa [show(lsP (λf d=>gg (x,f,d)) 64).map Mv=hU x from Pc x 32]at this
  exact⟨v,rfl,k,[v],⟨v,rfl,l⟩,λT h=>(by cases h),[],rfl,rfl⟩
theorem scan{K ρ:Type}{st:K->Int->ak K Int ρ}{k:K}{N:Nat}{r:ρ}{bA:Nat->Bool}(a:N<=maxLen)
  (h: ∀i:Nat,i<N->st k i=bif bA i then .next k (i64.wrap (i+1))else .ret r) (hb:st k N= .brk k N) {fuel:Nat} (f:N<fuel):
  bd st k fuel 0=if∀i,i<N->bA i=true then none else some r:=by
 rw[show 0=((0:Nat):Int)from rfl];rw[ret_row (λi=>(i:Int)) (λi=>if bA i=true then none else some r) N (λi hi=>by
  cases hg:bA i with
  |true=>exact⟨k,by rw[h i hi,hg,au3,pC hi a]⟩
  |false=>simp_all) hb f]
 by_cases hg: ∀i,i<N->bA i=true
 ·simp_all
 ·rw[avb hg]
  cases hq:(List.range N).findSome? (λi=>if bA i=true then none else some r)with
  |none=>
   rw[List.findSome?_eq_none_iff]at hq;refine absurd (λi hi=> ?_) hg;have:=hq i (List.mem_range.2 hi);split at this
   ·assumption
   ·cases this
  |some q=>
   obtain⟨i,_,hi⟩:=az1 hq;split at hi
   ·cases hi
   ·exact hi.symm▸rfl
theorem or2(a b:Int):qw [a,b]=if a=0 then b else a:=by
 unfold qw UX;have hm:Nat.succ (Da (0,[a,b],(([a,b].length:Nat):Int)) 0)=3:=rfl;have f:uC (0,[a,b],(([a,b].length:Nat):Int)) 0=bif a !=0 then .ret a else .next (0,[a,b],(([a,b].length:Nat):Int)) 1:=rfl
 have g:uC (0,[a,b],(([a,b].length:Nat):Int)) 1=bif b !=0 then .ret b else .next (0,[a,b],(([a,b].length:Nat):Int)) 2:=rfl
 grind [uC,bd,dq]
theorem amI(a b:Int):kM (a,b)=if a<b then -1 else if a>b then 1 else 0:=by
 grind [kM,Al]
theorem lex_lt(a b c d:Int):qw [kM (a,b),kM (c,d)]=(if a<b then -1 else if a>b then 1 else if c<d then -1 else if c>d then 1 else 0):=by
 grind [or2,amI]
def ck(f d:Int):Int:=2*f+d
theorem nh{a b c d:Int}(f:c=1\/c=2)(g:d=1\/d=2):(qw [kM (a,b),kM (c,d)]<0↔ck a c<ck b d)/\(qw [kM (a,b),kM (c,d)]=0↔ck a c=ck b d):=by
 grind [ck,lex_lt]
def fN{α:Type}(k:α->Int)(l:List α):Prop:=l.Pairwise (λa b=>k a<k b)
theorem Dr{α:Type} [Inhabited α]{k:α->Int}{l:List α}:fN k l↔ ∀i:Nat,0<i->i<l.length->k (aa l (i-1))<k (aa l i):=by
 constructor
 ·intro h i h0 hi
  have e:(i-1)=((i-1:Nat):Int):=by omega
  rw[e,cc l (i-1) (by omega),cc l i hi];exact List.pairwise_iff_getElem.1 h (i-1) i (by omega) hi (by omega)
 ·intro h
  refine List.pairwise_iff_getElem.2 λi j hi a f=> ?_
  obtain⟨d,rfl⟩: ∃d,j=i+1+d:=⟨j - (i+1),by omega⟩
  clear f;induction d with
  |zero=>
   have:=h (i+1) (by omega) a;rw[show(((i+1:Nat):Int)-1)=i by omega,cc l i hi,cc l (i+1) a]at this;exact this
  |succ d g=>
   have h1:=g (by omega);have:=h (i+1+(d+1)) (by omega) a;rw[show(((i+1+(d+1):Nat):Int)-1)=((i+1+d:Nat):Int)by omega,cc l (i+1+d) (by omega),cc l _ a]at this;exact Int.lt_trans h1 this
theorem TC{α:Type}{k:α->Int}: ∀{l:List α} {a:Int},fN k l->(∀x∈l,a<=k x/\k x<=64)->l.length<=if l= []then 0 else 65-a
 | [],_,_,_=>by simp
 |x::l,a,h,hb=>by
  have h1:=hb x (by simp);have g:=TC (List.Pairwise.of_cons h) (λy f=>⟨(List.pairwise_cons.1 h).1 y f,(hb y (by simp_all)).2⟩);grind
theorem KS{α:Type}{k:α->Int}{l:List α}(h:fN k l)(hb: ∀x∈l,1<=k x/\k x<=64):l.length<=64:=by
 have:=TC h hb;omega
def da(fl f d:Int):Prop:=d=1/\0<=f/\f<=fl-2\/d=2/\1<=f/\f<=fl-1
theorem Be{b:ae}(hl:b.2.2.2.2.2.2.2.length<=maxLen)(f d:Int):nJ (b,f,d)=true↔aR b/\da b.1 f d:=by
 unfold nJ;rw[au4,aw0,kZ b hl,jP];constructor
 ·rintro⟨a,h⟩
  refine⟨a,?_⟩;have h1:=a.fl;unfold FE at h;simp only[xm]at h;rw[aB (by omega) (by omega),aB (by omega) (by omega)]at h;simp only[av9,au4,aw0,adv]at h;unfold da;omega
 ·rintro⟨a,h⟩
  refine⟨a,?_⟩;have h1:=a.fl;unfold FE;simp only[xm];rw[aB (by omega) (by omega),aB (by omega) (by omega)];simp only[av9,au4,aw0,adv];unfold da at h;omega
theorem da.key{fl f d:Int}(h:da fl f d)(a:fl<=32):(d=1\/d=2)/\1<=ck f d/\ck f d<=64:=by grind [da,ck]
def ek(e:aC):Int:=ck e.1 e.2.1
def mB(b:ae)(e:aC):Prop:=da b.1 e.1 e.2.1/\ -2<=e.2.2.1/\e.2.2.1<b.2.2.2.2.2.2.2.length/\0<=e.2.2.2.1/\e.2.2.2.1<=255
theorem PH{b:ae}(a:aR b)(hl:b.2.2.2.2.2.2.2.length<=maxLen)(e:aC):lJ (b,e)=true↔mB b e:=by
 simp_all [lJ,mB,Be,aBv]
structure bk (b:ae) (m:aq):Prop where
 bG:aR b
 l1:m.1.length=b.2.2.2.2.2.2.2.length
 l2:m.2.1.length=b.2.2.2.2.2.2.2.length
 l3:m.2.2.1.length=b.2.2.2.2.2.2.2.length
 ph: ∀p∈m.1,0<=p/\p<=4
 gO: ∀e∈m.2.2.2,mB b e
 fP:fN ek m.2.2.2
theorem kz{α:Type} [Inhabited α]{l:List α}{p:α->Prop}:(∀a∈l,p a)↔ ∀i:Nat,i<l.length->p (aa l i):=by
 grind [cc,List.getElem_of_mem]
theorem mS{b:ae}{m:aq}(hl:b.2.2.2.2.2.2.2.length<=maxLen)(h1:m.1.length<=maxLen)(h2:m.2.2.2.length<=maxLen):cL (b,m)=true↔bk b m:=by
 have s:Eh (m.1,(m.1.length:Int)) 0=if∀i:Nat,i<m.1.length->(!(decide (aa m.1 (i:Int)<0)||decide (aa m.1 (i:Int)>4)))=true then none else some false:=
  scan h1 (λi hi=>by
   unfold rP;grind) (by simp_all [rP]) (by simp_all [CS])
 have t:RO (m.2.2.2,(m.2.2.2.length:Int),b,m) 0=if∀i:Nat,i<m.2.2.2.length->(!((!(lJ (b,aa m.2.2.2 (i:Int))))||(decide ((i:Int)>0)&&decide (lz (aa m.2.2.2 (i64.wrap ((i:Int)-1)),aa m.2.2.2 (i:Int))>=0))))=true then none else some false:=
  scan h2 (λi hi=>by
   unfold mY;grind) (by simp_all [mY]) (by simp_all [Cf])
 have u:bZ b=0↔aR b:=by rw[kZ b hl,jP]
 have key:cL (b,m)=true↔(bZ b=0/\m.1.length=b.2.2.2.2.2.2.2.length/\m.2.1.length=b.2.2.2.2.2.2.2.length/\m.2.2.1.length=b.2.2.2.2.2.2.2.length)/\(∀i:Nat,i<m.1.length->(!(decide (aa m.1 (i:Int)<0)||decide (aa m.1 (i:Int)>4)))=true)/\
   (∀i:Nat,i<m.2.2.2.length->(!((!(lJ (b,aa m.2.2.2 (i:Int))))||(decide ((i:Int)>0)&&decide (lz (aa m.2.2.2 (i64.wrap ((i:Int)-1)),aa m.2.2.2 (i:Int))>=0))))=true):=by
  unfold cL;simp only;rw[s,t];cases hc:((((bZ b) !=(0:Int))||((m.1.length:Int) !=(b.2.2.2.2.2.2.2.length:Int))||((m.2.1.length:Int) !=(b.2.2.2.2.2.2.2.length:Int)))||((m.2.2.1.length:Int) !=(b.2.2.2.2.2.2.2.length:Int)))with
  |true=>
   grind
  |false=>
   rw[auw];simp only[au1,avc,axe]at hc;obtain⟨⟨⟨w,g⟩,j⟩,k⟩:=hc;by_cases p1: ∀i:Nat,i<m.1.length->(!(decide (aa m.1 (i:Int)<0)||decide (aa m.1 (i:Int)>4)))=true
   ·rw[avf p1]
    by_cases p2: ∀i:Nat,i<m.2.2.2.length->(!((!(lJ (b,aa m.2.2.2 (i:Int))))||(decide ((i:Int)>0)&&decide (lz (aa m.2.2.2 (i64.wrap ((i:Int)-1)),aa m.2.2.2 (i:Int))>=0))))=true
    ·rw[avf p2];exact⟨λ_=>⟨⟨w,g,j,k⟩,p1,p2⟩,λ_=>rfl⟩
    ·rw[avb p2];exact⟨λh=>(by cases h),λh=>absurd h.2.2 p2⟩
   ·rw[avb p1];exact⟨λh=>(by cases h),λh=>absurd h.2.1 p1⟩
 rw[key,u];constructor
 ·rintro⟨⟨a,g,j,k⟩,p1,p2⟩
  have f:=λi hi=>by
   have:=p2 i hi;rw[avr,au1,avi]at this;exact(PH a hl _).1 this.1
  refine⟨a,g,j,k,kz.2 λi hi=> ?_,kz.2 f,Dr.2 λi h0 hi=> ?_⟩
  ·have:=p1 i hi
   simp only[avr,au1,au0]at this;omega
  ·have:=p2 i hi
   rw[avr,au1]at this;have h3:=this.2;rw[aB (by omega) (by unfold maxLen at h2;omega),show decide ((i:Int)>0)=true from by simp;omega,axs,au0]at h3;have o:=((f i hi).1.key a.fl.2).1;have l:=((f (i-1) (by omega)).1.key a.fl.2).1;rw[show((i-1:Nat):Int)=(i:Int)-1 by omega]at l;exact(nh l o).1.1 (by
    have h4:=h3;unfold lz at h4;simp only at h4;omega)
 ·rintro⟨a,g,j,k,p1,p2,p3⟩
  have f:=kz.1 p2;refine⟨⟨a,g,j,k⟩,λi hi=> ?_,λi hi=> ?_⟩
  ·have:=kz.1 p1 i hi
   simp only[avr,au1,au0];omega
  ·rw[avr,au1,avi]
   refine⟨(PH a hl _).2 (f i hi),?_⟩;by_cases h0:(i:Int)>0
   ·rw[aB (by omega) (by unfold maxLen at h2;omega)]
    have o:=((f i hi).1.key a.fl.2).1;have l:=((f (i-1) (by omega)).1.key a.fl.2).1;rw[show((i-1:Nat):Int)=(i:Int)-1 by omega]at l;have h4:=(nh l o).1.2 (Dr.1 p3 i (by omega) hi);rw[av2,au0 (p:=lz _>=0)];right;unfold lz;simp only;omega
   ·rw[show decide ((i:Int)>0)=false from axt h0]
    rfl
theorem bk.len{b:ae}{m:aq}(h:bk b m):m.2.2.2.length<=64:=KS h.fP λe a=>((h.gO e a).1.key h.bG.fl.2).2
theorem iQ{K X ρ:Type}{step:K->X->ak K X ρ}{k:K}{n:Nat}(I:Nat->X->Prop)(hs: ∀i x,i<n->I i x-> ∃a,step k x= .next k a/\I (i+1) a)(g: ∀x,I n x->step k x= .brk k x):
  ∀(m:Nat) (x:X),n<m->I 0 x->I n (endOf step k m x)/\bd step k m x=none:=by
 have key: ∀(m i:Nat) (x:X),i<=n->n-i<m->I i x->I n (endOf step k m x)/\bd step k m x=none:=by
  intro m;induction m with
  |zero=>omega
  |succ m h=>
   grind [endOf,bd]
 exact λm x hm f=>key m 0 x (awb _) (by omega) f
def snapS(b:ae):List (aO)->ByteArray->ByteArray
 | [],s=>s|r::l,s=>snapS b l (bP (av s++av (my (b,r)).1))
abbrev aT:=aO
theorem Ii(x:ae×aT):(my x).1.size<=6:=by
 unfold my;cases jc x with
 |true=>simp
 |false=>simp
theorem N4{b:ae}{m:aq}(h1:m.1.length<=maxLen)(h2:m.2.2.2.length<=maxLen):(kf (b,m)).length<=3*(m.1.length+m.2.2.2.length):=by
 unfold kf;simp only;cases cL (b,m)with
 |false=>exact awb _
 |true=>
  simp only[awa,auw];unfold Re KJ;have a:=iQ (step:=oh) (k:=((m.1.length:Int),m)) (n:=m.1.length) (λi y=>y.1=(i:Int)/\y.2.length=3*i)
   (λi y hi f=>by
    obtain⟨j,y⟩:=y;obtain⟨rfl,h⟩:j=(i:Int)/\y.length=3*i:=f;have g:(i:Int)<(m.1.length:Int):=by omega
    have l:=cC (au9 i) g h1;unfold oh;simp only[g,avz,au3,l];refine⟨_,rfl,rfl,?_⟩;unfold HW;simp only[zE,au5,avl,avo,h];omega)
   (λy f=>by
    simp_all [oh]) (Nat.succ (pU ((m.1.length:Int),m) ((0:Int),[]))) ((0:Int),[]) (by unfold pU;simp) ⟨rfl,rfl⟩
  have a:=a.1.2;revert a
  generalize(endOf oh ((m.1.length:Int),m) (Nat.succ (pU ((m.1.length:Int),m) ((0:Int),[]))) ((0:Int),[])).2=l0;intro a;have o:=iQ (step:=ub) (k:=(m.2.2.2,(m.2.2.2.length:Int))) (n:=m.2.2.2.length) (λi y=>y.1=(i:Int)/\y.2.length=3*m.1.length+3*i)
   (λi y hi f=>by
    obtain⟨j,y⟩:=y;obtain⟨rfl,h⟩:j=(i:Int)/\y.length=3*m.1.length+3*i:=f;have g:(i:Int)<(m.2.2.2.length:Int):=by omega
    have l:=cC (au9 i) g h2;unfold ub;simp only[g,avz,au3,l];grind [HE,zV,List.length_append,List.length_cons,List.length_nil])
   (λy f=>by
    simp_all [ub]) (Nat.succ (xR (m.2.2.2,(m.2.2.2.length:Int)) ((0:Int),l0))) ((0:Int),l0) (by unfold xR;simp) ⟨rfl,by simpa using a⟩
  omega
theorem OA(b:ae)(r:aT): ∀(l:List aT) (s:ByteArray),snapS b (l++ [r]) s=bP (av (snapS b l s)++av (my (b,r)).1)
 | [],s=>rfl
 |a::l,s=>OA b r l _
theorem GJ(s:ByteArray):Lib.strCells s=(av s).map (Value.int .u8):=by
 simp_all [Lib.strCells,av]
theorem afP{w:World}{X:Nat->Nat->Prop}{b:ae}{cs:List Value}(h:TR w X az b cs): ∃v,cs= [.int .i64 b.1,.int .i64 b.2.1,.int .i64 b.2.2.1,.int .i64 b.2.2.2.1,.float .f64 b.2.2.2.2.1,.float .f64 b.2.2.2.2.2.1,.float .f64 b.2.2.2.2.2.2.1,v]:=by
 obtain⟨_,_,rfl,h0,_,_,rfl,h1,_,_,rfl,h2,_,_,rfl,h3,_,_,rfl,h4,_,_,rfl,h5,_,_,rfl,h6,v,rfl,_⟩:=h;simp_all [TR]
theorem af5{w:World}{X:Nat->Nat->Prop}{m:aq}{cs:List Value}(h:TR w X bO m cs): ∃m0 a m2 m3,cs= [m0,a,m2,m3]:=by
 obtain⟨_,_,rfl,⟨m0,rfl,_⟩,_,_,rfl,⟨a,rfl,_⟩,_,_,rfl,⟨m2,rfl,_⟩,m3,rfl,_⟩:=h;simp_all
theorem rC{w:World}{X:Nat->Nat->Prop}{s:dr}{cs:List Value}:TR w X eu s cs↔cs= [.string s.1.1,.string s.1.2,.int .i64 s.2]:=by
 simp_all [TR]
theorem adO{bs f g:List Value}{v:Value}{args:Array Value}{cs:List Value}(o:ef [some 8,some 3,some 4,none] args.toList cs)(s:cs=bs++(f++(g++ [v])))(hb:bs.length=8)(hs:f.length=3)(hm:g.length=4):args= #[.agg bs.toArray,.agg f.toArray,.agg g.toArray,v]:=by
 revert o
 rcases hl:args.toList with _|⟨J,_|⟨L,_|⟨M,_|⟨N,_|⟨O,r⟩⟩⟩⟩⟩
 ·intro h;exact h.elim
 ·rintro⟨a,cs',_,_,_,h⟩;exact h.elim
 ·rintro⟨a,cs',_,_,_,i,j,_,_,_,h⟩;exact h.elim
 ·rintro⟨a,cs',_,_,_,i,j,_,_,_,k,l,_,_,_,h⟩;exact h.elim
 ·rintro⟨a,cs',t,n1,m,i,j,u,w,x,k,l,y,z,A,C,I,h⟩
  have h:=h;rw[s]at m;obtain⟨d1,p1⟩:=axl m (by rw[hb,n1]);rw[x]at p1;obtain⟨d2,p2⟩:=axl p1 (by rw[hs,w]);rw[A]at p2;obtain⟨d3,p3⟩:=axl p2 (by rw[hm,z]);rw[I]at p3;cases p3;rw[d1,d2,d3];exact ay2 (by rw[hl,t,u,y])
 ·rintro⟨a,cs',_,_,_,i,j,_,_,_,k,l,_,_,_,C,_,h⟩;exact h.elim
theorem ajd{n0:Nat}{W:World}{X:Nat->Nat->Prop}{l:List aT}{v:Value}(ht:LR W X 5 (TR W X jx) l v)(g:jZ n0 213 W (.bc jx .no l) v):nM n0 W v l:=by
 rcases ht with⟨h1,h2⟩|⟨a,cap,rfl,h2,h3,h4,h5⟩
 ·exact .inl ⟨h2,h1⟩
 ·rcases g with h|⟨b,n,A,us,h,hb,⟨z,f,k⟩,hs,_⟩|⟨h,_⟩
  ·cases h
  ·cases h
   have m:z=(0,0):=by
    rcases k with h|⟨_,h⟩
    ·exact h
    ·cases h
   subst m;refine .inr ⟨b,cap,us,rfl,hb,f,λi hi=> ?_⟩;obtain⟨vs,C,o,s⟩:=h5.1 i hi;obtain⟨_,_,rfl,w0,_,_,rfl,t,_,_,rfl,u,_,_,rfl,w,x⟩:=s;subst w0 t u w x;have key:=λj y=>by
    have:=o j y;rw[show 0+(i*5+j)=i*5+j from avw _,avp f]at this;exact this
   exact⟨key 0 (by decide),key 1 (by decide),key 2 (by decide),key 3 (by decide),key 4 (by decide)⟩
  ·exact absurd h (by decide)
theorem Kp{n0:Nat}{fr:Option Nat}{W:World}{X:Nat->Nat->Prop}{y:dr×af}{v:Value}(h:oK n0 fr W X (ah.tup [some 3,none,none]) (Ty.pair eu (Ty.pair ab bI)) y v):v=qX y:=by
 obtain⟨cs,⟨_,_,rfl,h1,_,_,rfl,h2,h3⟩,_,vs,rfl,a⟩:=h;rw[rC]at h1;subst h1 h2 h3;rcases vs with _|⟨k,_|⟨l,_|⟨m,_|⟨o,r⟩⟩⟩⟩
 ·exact a.elim
 ·obtain⟨_,_,_,_,_,h⟩:=a;exact h.elim
 ·obtain⟨_,_,_,_,_,_,_,h⟩:=a;exact h.elim
 ·obtain⟨s,cs',f,n1,g,t,i,u,j,h⟩:=a
  have h:=h;obtain⟨d1,p1⟩:=axl g (by rw[n1];rfl);rw[i,j]at p1;cases p1;rw[f,<- d1];rfl
 ·obtain⟨_,_,_,_,_,_,_,_,_,h⟩:=a;exact h.elim
theorem amC{n0:Nat}{W:World}{X:Nat->Nat->Prop}{y:dr×af}:oK n0 none W X (ah.tup [some 3,none,none]) (Ty.pair eu (Ty.pair ab bI)) y (qX y):=
 ⟨[.string y.1.1.1,.string y.1.1.2,.int .i64 y.1.2,.int .i64 y.2.1,.int .i64 y.2.2],⟨[.string y.1.1.1,.string y.1.1.2,.int .i64 y.1.2],_,rfl,rC.2 rfl,[.int .i64 y.2.1],[.int .i64 y.2.2],rfl,rfl,rfl⟩,λT h=>(by cases h),[.agg #[.string y.1.1.1,.string y.1.1.2,.int .i64 y.1.2],.int .i64 y.2.1,.int .i64 y.2.2],rfl,[.string y.1.1.1,.string y.1.1.2,.int .i64 y.1.2],[.int .i64 y.2.1,.int .i64 y.2.2],rfl,rfl,rfl,[.int .i64 y.2.2],rfl,[],rfl,rfl⟩
theorem Pv{a h n:Int}{s:dr}:ef [none,some 3,none,none] [.int .i64 a,.agg #[.string s.1.1,.string s.1.2,.int .i64 s.2],.int .i64 h,.int .i64 n] [.int .i64 a,.string s.1.1,.string s.1.2,.int .i64 s.2,.int .i64 h,.int .i64 n]:=
 ⟨[.string s.1.1,.string s.1.2,.int .i64 s.2,.int .i64 h,.int .i64 n],rfl,[.string s.1.1,.string s.1.2,.int .i64 s.2],[.int .i64 h,.int .i64 n],rfl,rfl,rfl,[.int .i64 n],rfl,[],rfl,rfl⟩
theorem afw{G:Gd}(Q:ea prog G 54 M5)(S:ea prog G 102 zQ)(T:ea prog G 132 zS)(U:ea prog G 133 KW)
  (V:ea prog G 135 LM) (Y:ea prog G 136 L7) (Z:ea prog G 138 Md):
  ea prog G 99 { p:=(Ty.pair az (Ty.pair eu (Ty.pair bO ab))),ay:= [some 8,some 3,some 4,none],r:=(Ty.pair eu (Ty.pair ab bI)),ar:=(ah.tup [some 3,none,none]),pre:=none,fresh:=none,F:=λ(x:ae×dr×aq×Int)=>
   bif((!(eA (x.1.2.2.1,x.2.1)))||(decide (x.2.2.2<0)))||(!(cL (x.1,x.2.2.1)))then
    (((ByteArray.mk #[],ByteArray.mk #[]),(0:Int)),(0:Int),(1:Int))
   else
    let h:=i64.wrap (1-x.2.1.2)
    let a:=Ao (x.1.2.2.1,x.2.1,h,x.2.2.2)
    let c:=bif(a.2.2==0)then qo (x.1.2.2.1,a.1,h,snapS x.1 (kf (x.1,x.2.2.1)) (ByteArray.mk #[]),a.2.1)else a
    bif(c.2.2==0)then Af (x.1.2.2.1,c.1,h,c.2.1)else c}:=by
 intro x w X args cs hH hX _ h8 h9;obtain⟨b,s,m,n⟩:=x;obtain⟨bs,_,rfl,tb,ss,_,rfl,ts,ms,vn,rfl,I,tn⟩:=h9;obtain⟨v,rfl⟩:=afP tb;have a6:=rC.1 ts;obtain⟨m0,y,m2,m3,rfl⟩:=af5 I;have a7:=tn;subst a6 a7;obtain rfl:=adO h8 rfl rfl rfl rfl;have fb:=lq tb;have C:=lq I;have o: ∀W,Below w.heap.size w W->G.H W:=λW f=>G.mono ⟨f.os,f.tape,f.size,λb hb=>⟨G.low hH hb,f.block b (G.low hH hb)⟩⟩ hH
 have t: ∀W,Below w.heap.size w W-> ∀b p,X b p->b<W.heap.size/\ ¬ G.gl b:=λW f b p h=>⟨ava (hX b p h).1 f.size,(hX b p h).2⟩
 have J: ∀W,Below w.heap.size w W->TR W X az b _:=λW f=>TR.mono (mL f) fE _ _ _ tb
 have M: ∀W,Below w.heap.size w W->TR W X bO m _:=λW f=>TR.mono (mL f) fE _ _ _ I
 have N:cL (b,m)=true->m.1.length<=8/\m.2.2.2.length<=64:=λh=>by
  have hm:=(mS fb.2.2.2.2.2.2.2.1 C.1.1 C.2.2.2.1).1 h;exact⟨hm.l1▸hm.bG.cn.2,hm.len⟩
 have hE:cL (b,m)=true->V2 (b,m):=λh=>auv (N h).2 (by decide)
 have O:(kf (b,m)).length<=1000:=by
  cases h:cL (b,m)with
  |true=>
   have h1:=N4 (b:=b) (m:=m) C.1.1 C.2.2.2.1;have h2:=N h;omega
  |false=>
   unfold kf;simp only[h,ax9,au3];exact awb _
 generalize P:kf (b,m)=L at O;have hw:=adM
  (acc:=λi=>snapS b (L.take i) (ByteArray.mk #[]))
  (λW f=>by
   refine(Q (b.2.2.1,s) W X _ [.int .i64 b.2.2.1,.string s.1.1,.string s.1.2,.int .i64 s.2] (o W f) (t W f) (λq h=>by cases h) (show ef [none,some 3] [.int .i64 b.2.2.1,.agg #[.string s.1.1,.string s.1.2,.int .i64 s.2]] _ from⟨[.string s.1.1,.string s.1.2,.int .i64 s.2],rfl,[.string s.1.1,.string s.1.2,.int .i64 s.2],[],rfl,rfl,rfl,rfl⟩) ⟨[.int .i64 b.2.2.1],_,rfl,rfl,rC.2 rfl⟩).mono ?_;rintro e k ⟨u,rfl,g,cs,j,_,l⟩
   have j:=j;subst j;obtain⟨cs',h1,h2⟩:=l;cases h1;exact⟨rfl,g⟩)
  (λW f=>by
   refine(S (b,m) W X _ _ (o W f) (t W f) (λq h=>by cases h) (show ef [some 8,some 4] [.agg #[.int .i64 b.1,.int .i64 b.2.1,.int .i64 b.2.2.1,.int .i64 b.2.2.2.1,.float .f64 b.2.2.2.2.1,.float .f64 b.2.2.2.2.2.1,.float .f64 b.2.2.2.2.2.2.1,v],.agg #[m0,y,m2,m3]] _ from⟨[.int .i64 b.1,.int .i64 b.2.1,.int .i64 b.2.2.1,.int .i64 b.2.2.2.1,.float .f64 b.2.2.2.2.1,.float .f64 b.2.2.2.2.2.1,.float .f64 b.2.2.2.2.2.2.1,v],[m0,y,m2,m3],rfl,rfl,rfl,[m0,y,m2,m3],[],rfl,rfl,rfl,rfl⟩) ⟨_,_,rfl,J W f,M W f⟩).mono ?_;rintro e k ⟨u,rfl,g,cs,j,_,l⟩
   have j:=j;subst j;obtain⟨cs',h1,h2⟩:=l;cases h1;exact⟨rfl,g⟩)
  O
  (λhi W f=>by
   refine(T (b,m) W X _ _ (o W f) (t W f) (λq h=>by cases h;exact hE hi) (show ef [some 8,some 4] [.agg #[.int .i64 b.1,.int .i64 b.2.1,.int .i64 b.2.2.1,.int .i64 b.2.2.2.1,.float .f64 b.2.2.2.2.1,.float .f64 b.2.2.2.2.2.1,.float .f64 b.2.2.2.2.2.2.1,v],.agg #[m0,y,m2,m3]] _ from⟨[.int .i64 b.1,.int .i64 b.2.1,.int .i64 b.2.2.1,.int .i64 b.2.2.2.1,.float .f64 b.2.2.2.2.1,.float .f64 b.2.2.2.2.2.1,.float .f64 b.2.2.2.2.2.2.1,v],[m0,y,m2,m3],rfl,rfl,rfl,[m0,y,m2,m3],[],rfl,rfl,rfl,rfl⟩) ⟨_,_,rfl,J W f,M W f⟩).mono ?_;rintro e k ⟨u,rfl,g,cs,⟨v',rfl,j⟩,z,l⟩
   obtain⟨cs',h1,h2⟩:=l;cases h1;have z:=(z _ rfl).1;have j:LR k X 5 (TR k X jx) (kf (b,m)) u:=j;have z:jZ W.heap.size 213 k (.bc jx .no (kf (b,m))) u:=z;rw[P]at j z;exact⟨_,rfl,g,ajd j z⟩)
  (λr=>Ii (b,r))
  (λr W f=>by
   refine(U (b,r) W X _ _ (o W f) (t W f) (λq h=>by cases h) (show ef [some 8,some 5] [.agg #[.int .i64 b.1,.int .i64 b.2.1,.int .i64 b.2.2.1,.int .i64 b.2.2.2.1,.float .f64 b.2.2.2.2.1,.float .f64 b.2.2.2.2.2.1,.float .f64 b.2.2.2.2.2.2.1,v],.agg #[.int .i64 r.1,.int .i64 r.2.1,.int .i64 r.2.2.1,.int .i64 r.2.2.2.1,.int .i64 r.2.2.2.2]] _ from⟨[.int .i64 b.1,.int .i64 b.2.1,.int .i64 b.2.2.1,.int .i64 b.2.2.2.1,.float .f64 b.2.2.2.2.1,.float .f64 b.2.2.2.2.2.1,.float .f64 b.2.2.2.2.2.2.1,v],[.int .i64 r.1,.int .i64 r.2.1,.int .i64 r.2.2.1,.int .i64 r.2.2.2.1,.int .i64 r.2.2.2.2],rfl,rfl,rfl,[.int .i64 r.1,.int .i64 r.2.1,.int .i64 r.2.2.1,.int .i64 r.2.2.2.1,.int .i64 r.2.2.2.2],[],rfl,rfl,rfl,rfl⟩) ⟨_,_,rfl,J W f,_,_,rfl,rfl,_,_,rfl,rfl,_,_,rfl,rfl,_,_,rfl,rfl,rfl⟩).mono ?_;rintro e k ⟨u,rfl,g,cs,⟨_,_,rfl,h1,h2⟩,_,vs,rfl,l⟩
   simp only[TR]at h1 h2;subst h1 h2;rcases vs with _|⟨a1,_|⟨a2,_|⟨a3,r⟩⟩⟩
   ·exact l.elim
   ·obtain⟨_,_,h⟩:=l;exact h.elim
   ·obtain⟨c1,q1,c2,q2,h⟩:=l
    have h:=h;subst h;cases q1;cases q2;exact⟨rfl,g⟩
   ·obtain⟨_,_,_,_,h⟩:=l;exact h.elim)
  (λh W f=>by
   refine(V (b.2.2.1,s,h,n) W X _ _ (o W f) (t W f) (λq h=>by cases h) Pv ⟨[.int .i64 b.2.2.1],_,rfl,rfl,[.string s.1.1,.string s.1.2,.int .i64 s.2],_,rfl,rC.2 rfl,[.int .i64 h],[.int .i64 n],rfl,rfl,rfl⟩).mono ?_;rintro e k ⟨u,rfl,g,A⟩
   exact⟨av7 Ending.returned (Kp A),g⟩)
  (λs h d n W f=>by
   refine(Y (b.2.2.1,s,h,d,n) W X _ _ (o W f) (t W f) (λq h=>by cases h) (show ef [none,some 3,none,none,none] [.int .i64 b.2.2.1,.agg #[.string s.1.1,.string s.1.2,.int .i64 s.2],.int .i64 h,.string d,.int .i64 n] _ from⟨[.string s.1.1,.string s.1.2,.int .i64 s.2,.int .i64 h,.string d,.int .i64 n],rfl,[.string s.1.1,.string s.1.2,.int .i64 s.2],[.int .i64 h,.string d,.int .i64 n],rfl,rfl,rfl,[.string d,.int .i64 n],rfl,[.int .i64 n],rfl,[],rfl,rfl⟩) ⟨[.int .i64 b.2.2.1],_,rfl,rfl,[.string s.1.1,.string s.1.2,.int .i64 s.2],_,rfl,rC.2 rfl,[.int .i64 h],_,rfl,rfl,[.string d],[.int .i64 n],rfl,rfl,rfl⟩).mono ?_;rintro e k ⟨u,rfl,g,A⟩
   exact⟨av7 Ending.returned (Kp A),g⟩)
  (λs h n W f=>by
   refine(Z (b.2.2.1,s,h,n) W X _ _ (o W f) (t W f) (λq h=>by cases h) Pv ⟨[.int .i64 b.2.2.1],_,rfl,rfl,[.string s.1.1,.string s.1.2,.int .i64 s.2],_,rfl,rC.2 rfl,[.int .i64 h],[.int .i64 n],rfl,rfl,rfl⟩).mono ?_;rintro e k ⟨u,rfl,g,A⟩
   exact⟨av7 Ending.returned (Kp A),g⟩)
  rfl
  (λi hi=>by
   rw[axc hi,OA,GJ,uJ _ (λx hx=>(List.mem_append.1 hx).elim (uO _ x) (uO _ x)),ax2,<- GJ,<- GJ])
 refine hw.mono ?_;rintro e k ⟨g,rfl⟩
 refine⟨_,rfl,g,?_⟩;dsimp only;rw[P];simp only[ayk];exact amC
def jK{α:Type}(l:List α)(i:Int)(v:List α):List α:=l.take i.toNat++v++l.drop i.toNat
def iR{α:Type}(l:List α)(i:Int):List α:=l.take i.toNat++l.drop (i.toNat+1)
abbrev iB:=ax
def FJ(x:List (aC)×Int×List (aC)):List (aC)×Unit:=(jK x.1 x.2.1 x.2.2,())
def JT(x:List (aC)×Int×List (aC)):Prop:=0<=x.2.1/\x.2.1<=x.1.length/\x.2.2.length=1/\x.1.length<=100000
def FF(x:List (aC)×af):List (aC)×Unit:=(iR x.1 x.2.1,())
def Kc(x:List (aC)×af):Prop:=0<=x.2.1/\x.2.1<x.1.length/\x.2.2=x.2.1+1/\x.1.length<=100000
def ac4(x:List (iB)×Int×List (iB)):List (iB)×Unit:=(jK x.1 x.2.1 x.2.2,())
def UP(x:List (iB)×Int×List (iB)):Prop:=0<=x.2.1/\x.2.1<=x.1.length/\x.2.2.length=1/\x.1.length<=100000
def Ng(x:List (Int)×Int×List (Int)):List (Int)×Unit:=(jK x.1 x.2.1 x.2.2,())
def Kv(x:List (Int)×Int×List (Int)):Prop:=0<=x.2.1/\x.2.1<=x.1.length/\x.2.2.length=1/\x.1.length<=100000
def MR(x:List (Int)×af):List (Int)×Unit:=(iR x.1 x.2.1,())
def J9(x:List (Int)×af):Prop:=0<=x.2.1/\x.2.1<x.1.length/\x.2.2=x.2.1+1/\x.1.length<=100000
def mz(c:af):List aC:=hU c
def tE(x:ae×dr×aq×Int):dr×af:=
 bif((!(eA (x.1.2.2.1,x.2.1)))||(decide (x.2.2.2<0)))||(!(cL (x.1,x.2.2.1)))then
  (((ByteArray.mk #[],ByteArray.mk #[]),0),0,1)
 else
  let h:=i64.wrap (1-x.2.1.2)
  let a:=Ao (x.1.2.2.1,x.2.1,h,x.2.2.2)
  let c:=bif(a.2.2==0)then qo (x.1.2.2.1,a.1,h,snapS x.1 (kf (x.1,x.2.2.1)) (ByteArray.mk #[]),a.2.1)else a
  bif(c.2.2==0)then Af (x.1.2.2.1,c.1,h,c.2.1)else c
def WA:Cv:={ p:=(Ty.pair dg (Ty.pair ab dg)),ay:= [none,none,none],mask:= [.v,.v,.v],sz:= [],ro:=false,vi:= [(0,true,93)],q:=Ty.unit,r:=dg,ar:=(ah.one (none)),vo:= [(0,true,93)],pre:=some JT,F:=FJ}
theorem ane:gE prog bD 149 WA:=amd
def ZQ:Cv:={ p:=(Ty.pair dg (Ty.pair ab ab)),ay:= [none,none,none],mask:= [.v,.v,.v],sz:= [],ro:=false,vi:= [(0,true,93)],q:=Ty.unit,r:=dg,ar:=(ah.one (none)),vo:= [(0,true,93)],pre:=some Kc,F:=FF}
theorem arn:gE prog bD 150 ZQ:=amQ
def Xe:Cv:={ p:=(Ty.pair fW (Ty.pair ab fW)),ay:= [none,none,none],mask:= [.v,.v,.v],sz:= [],ro:=false,vi:= [(0,true,191)],q:=Ty.unit,r:=fW,ar:=(ah.one (none)),vo:= [(0,true,191)],pre:=some UP,F:=ac4}
theorem aqF:gE prog bD 159 Xe:=amy
def XP:Cv:={ p:=(Ty.pair cX (Ty.pair ab cX)),ay:= [none,none,none],mask:= [.v,.v,.v],sz:= [],ro:=false,vi:= [(0,true,3)],q:=Ty.unit,r:=cX,ar:=(ah.one (none)),vo:= [(0,true,3)],pre:=some Kv,F:=Ng}
theorem arb:gE prog bD 260 XP:=ak2
def ZL:Cv:={ p:=(Ty.pair cX (Ty.pair ab ab)),ay:= [none,none,none],mask:= [.v,.v,.v],sz:= [],ro:=false,vi:= [(0,true,3)],q:=Ty.unit,r:=cX,ar:=(ah.one (none)),vo:= [(0,true,3)],pre:=some J9,F:=MR}
theorem aos:gE prog bD 259 ZL:=amu
def XY:Ct:={ p:=aU,ay:= [some 2],r:=dg,ar:=(ah.one (none)),pre:=none,fresh:=none,F:=mz}
theorem aqj:ea prog bD 154 XY:=amg YF
def abY:Ct:={ p:=(Ty.pair az (Ty.pair eu (Ty.pair bO ab))),ay:= [some 8,some 3,some 4,none],r:=(Ty.pair eu (Ty.pair ab bI)),ar:=(ah.tup [some 3,none,none]),pre:=none,fresh:=none,F:=tE}
theorem atD:ea prog bD 99 abY:=afw ac8 WZ Zt ZJ Za XX X9
def abG(nw:Bool):List (Nat×Zc):=(149,.pv WA)::(150,.pv ZQ)::(159,.pv Xe)::(260,.pv XP)::(259,.pv ZL)::(acX nw)
theorem H7(nw:Bool):ga (abG nw):=rz ane ⟨_,func149,by kernel_rfl,by kernel_rfl⟩ (rz arn ⟨_,func150,by kernel_rfl,by kernel_rfl⟩ (rz aqF ⟨_,func159,by kernel_rfl,by kernel_rfl⟩ (rz arb ⟨_,func260,by kernel_rfl,by kernel_rfl⟩ (rz aos ⟨_,func259,by kernel_rfl,by kernel_rfl⟩ (Qx nw)))))
def ac2:List (Nat×Ct):=(154,XY)::(99,abY)::acK
theorem Jb:cr ac2:=Cj aqj ⟨_,func154,by kernel_rfl,by kernel_rfl⟩ (Cj atD ⟨_,func99,by kernel_rfl,by kernel_rfl⟩ (ajx))
def vu(k:Int)(x:Int×ae):Prop:=0<=x.1/\x.2.1≠0/\x.2.2.2.2.2.2.2.2.length<=100
def Eg(k:Int)(x:Int×ae):=(x.2.2.2.2.2.2.2.2.length-x.1).toNat
def CW(k:Int)(x:Int×ae):=letI b:=x.2.2.2.2.2.2.2.2;letI a:=aa b x.1;aH fX b x.1 (a.1,a.2.1,a.2.2.1,a.2.2.2.1,i64.wrap (1+i64.wrap (Int.tmod k (3:Int))),a.2.2.2.2.2)
def CQ(k:Int)(x:Int×ae):=letI a:=aa (CW k x) x.1;aH fX (CW k x) x.1 (a.1,a.2.1,a.2.2.1,a.2.2.2.1,a.2.2.2.2.1,i64.wrap (1+i64.wrap (Int.tmod (u8.wrap (Int.tdiv k (3:Int))) (3:Int))),a.2.2.2.2.2.2)
def C9(k:Int)(x:Int×ae):=letI a:=aa (CQ k x) x.1;letI b:=a.2.2.2;aH fX (CQ k x) x.1 (a.1,a.2.1,a.2.2.1,b.1,b.2.1,b.2.2.1,i64.wrap (1+i64.wrap (Int.tmod (u8.wrap (Int.tdiv k (9:Int))) (3:Int))),b.2.2.2.2)
def CA(k:Int)(x:Int×ae):=letI a:=aa (C9 k x) x.1;letI b:=a.2.2.2.2;aH fX (C9 k x) x.1 (a.1,a.2.1,a.2.2.1,a.2.2.2.1,b.1,b.2.1,b.2.2.1,i64.wrap (b.2.2.1+i64.wrap (Int.tmod (u8.wrap (Int.tdiv k (27:Int))) (5:Int))),b.2.2.2.2)
def yD(k:Int)(x:Int×ae):=letI a:=aa (CA k x) x.1;letI b:=a.2.2.2;aH fX (CA k x) x.1 (a.1,a.2.1,a.2.2.1,b.1,b.2.1,b.2.2.1,b.2.2.2.1,b.2.2.2.2.1,Int.tmod (i64.wrap (x.1+i64.wrap k)) x.2.1)
def se(k:Int)(x:Int×ae):ak Int (Int×ae) ae:=letI a:=x.2.2.2.2;bif x.1<a.2.2.2.2.length then .next k (i64.wrap (x.1+1),x.2.1,x.2.2.1,x.2.2.2.1,a.1,a.2.1,a.2.2.1,a.2.2.2.1,yD k x)else .brk k x
def Le k x:=endOf se k (Nat.succ (Eg k x)) x
def jk(x:af):ae:=letI a:=Le x.2 (0,FT (i64.wrap (2+i64.wrap (Int.tmod x.1 (5:Int))),i64.wrap (1+i64.wrap (Int.tmod (u8.wrap (Int.tdiv x.1 (5:Int))) (3:Int)))));(a.2.1,a.2.2.1,a.2.2.2.1,i64.wrap (1+i64.wrap (Int.tmod x.2 (7:Int))),a.2.2.2.2.2)
def K7(x:af):Prop:=(0<=x.1/\x.1<=255)/\0<=x.2/\x.2<=255
def fZ(x:ae):aq×Unit:=letI a:=x.2.2.2.2.2.2.2.length;bif bZ x !=0 then(([],[],[],[]),())else((aE ab a,aE aw a,aE aw a,[]),())
def T4(x:ae×ByteArray):=jc (x.1,i64.wrap (aL x.2 0),i64.wrap (aL x.2 1),i64.wrap (aL x.2 2),i64.wrap (i64.wrap (aL x.2 3)-2),i64.wrap (aL x.2 4))
def sP(x:ae×ByteArray):(aO)×Int:=letI a:=(0,0,0,0,0);bif bZ x.1 !=0 then(a,1)else bif(x.2.size:Int) !=6 then(a,4)else bif As (ByteArray.extract x.2 (Int.toNat 0) (Int.toNat 5)) !=aL x.2 5 then(a,5)else bif !T4 x then(a,9)else((i64.wrap (aL x.2 0),i64.wrap (aL x.2 1),i64.wrap (aL x.2 2),i64.wrap (i64.wrap (aL x.2 3)-2),i64.wrap (aL x.2 4)),0)
def F1(g:Nat)(x:aC×aC):=cnd (Nat.beq g 140) (lz x) (Ty.dflt ab)
def uB(k:(List aC)×(Option Nat)×aC)(x:af):Prop:=0<=x.1/\x.1<=x.2/\x.2<=k.1.length/\k.1.length<=1000000/\k.2.1=some 140
def rS(k:((List (aC))×(Option Nat)×aC))(x:(af)):Nat:=(x.2-x.1).toNat
def rL(k:(List aC)×(Option Nat)×aC)(x:af):ak ((List aC)×(Option Nat)×aC) (af) (iu):=letI a:=i64.wrap (Int.fdiv (u64.wrap (i64.wrap (x.1+x.2))) (2^min (1:Int).toNat u64.bits));bif x.1<x.2 then bif F1 (Option.getD k.2.1 0) (aa k.1 a,k.2.2)<0 then .next k (i64.wrap (a+1),x.2)else .next k (x.1,a)else .brk k x
def Ez k x:=endOf rL k (Nat.succ (rS k x)) x
def FP(x:(List aC)×aC×Option Nat):=letI b:=x.1.length;letI a:=Ez (x.1,x.2.2,x.2.1) (0,b);(a.1,a.1<b&&F1 (Option.getD x.2.2 0) (aa x.1 a.1,x.2.1)==0)
def Km(x:(List aC)×aC×Option Nat):Prop:=x.1.length<=1000000/\x.2.2=some 140
def pj(x:ae×aq):=cL x&&i64.wrap (i64.wrap (18*i64.wrap (x.1.2.2.2.2.2.2.2.length+x.2.2.2.2.length))+6)<=x.1.2.2.1
def kS(x:List Int):=(([]:List Int)++x,())
def sI(x:List Int):Prop:=x.length<=100000
def mC(x:List Bool):=(([]:List Bool)++x,())
def oD(x:List Bool):Prop:=x.length<=100000
def wU(x:List aC):=(([]:List aC)++x,())
def zD(x:List (aC)):Prop:=x.length<=100000
def qI(x:Unit):bT:=(-1,0,0,[],0,false)
def vj(k:ae×iZ)(x:Int×bm):Prop:=0<=x.1/\aR k.1/\B6 k.2/\x.2.2.2.length=x.1/\x.1<=8
def JS(k:ae×iZ)(x:Int×bm):=(k.1.2.2.2.2.2.2.2.length-x.1).toNat
def ajg(k:ae×iZ)(x:Int×bm):=x.2.2.2++ [((u32.wrap (u8.wrap ((BitVec.ofInt u8.bits (aa [k.2.1,k.2.2.1,k.2.2.2.1,k.2.2.2.2.1,k.2.2.2.2.2.1,k.2.2.2.2.2.2] (i64.wrap (2+Int.tmod x.1 (4:Int))))&&&BitVec.ofInt u8.bits 7).toNat)),Int.tmod (u8.wrap (Int.tdiv (aa [k.2.1,k.2.2.1,k.2.2.2.1,k.2.2.2.2.1,k.2.2.2.2.2.1,k.2.2.2.2.2.2] (i64.wrap (3+Int.tmod x.1 (3:Int)))) (8:Int))) (4:Int)==1,Int.tmod (u8.wrap (Int.tdiv (aa [k.2.1,k.2.2.1,k.2.2.2.1,k.2.2.2.2.1,k.2.2.2.2.2.1,k.2.2.2.2.2.2] (i64.wrap (3+Int.tmod x.1 (3:Int)))) (8:Int))) (4:Int)==2,Int.tmod (u8.wrap (Int.tdiv (aa [k.2.1,k.2.2.1,k.2.2.2.1,k.2.2.2.2.1,k.2.2.2.2.2.1,k.2.2.2.2.2.2] (i64.wrap (3+Int.tmod x.1 (3:Int)))) (32:Int))) (3:Int)==1,Int.tmod (u8.wrap (Int.tdiv (aa [k.2.1,k.2.2.1,k.2.2.2.1,k.2.2.2.2.1,k.2.2.2.2.2.1,k.2.2.2.2.2.2] (i64.wrap (3+Int.tmod x.1 (3:Int)))) (32:Int))) (3:Int)==2),(i64.wrap (Int.tmod (aa [k.2.1,k.2.2.1,k.2.2.2.1,k.2.2.2.2.1,k.2.2.2.2.2.1,k.2.2.2.2.2.2] (i64.wrap (2+Int.tmod x.1 (4:Int)))) (8:Int)),decide (Int.tmod (aa [k.2.1,k.2.2.1,k.2.2.2.1,k.2.2.2.2.1,k.2.2.2.2.2.1,k.2.2.2.2.2.2] (i64.wrap (2+Int.tmod x.1 (4:Int)))) (5:Int)>0),i64.wrap (Int.tmod (u8.wrap (Int.tdiv (aa [k.2.1,k.2.2.1,k.2.2.2.1,k.2.2.2.2.1,k.2.2.2.2.2.1,k.2.2.2.2.2.2] (i64.wrap (2+Int.tmod x.1 (4:Int)))) (8:Int))) (3:Int)),Int.tmod (aa [k.2.1,k.2.2.1,k.2.2.2.1,k.2.2.2.2.1,k.2.2.2.2.2.1,k.2.2.2.2.2.2] (i64.wrap (2+Int.tmod x.1 (4:Int)))) (7:Int)==0),u32.wrap (u8.wrap ((BitVec.ofInt u8.bits (u8.wrap ((BitVec.ofInt u8.bits (aa [k.2.1,k.2.2.1,k.2.2.2.1,k.2.2.2.2.1,k.2.2.2.2.2.1,k.2.2.2.2.2.2] (i64.wrap (3+Int.tmod x.1 (3:Int))))&&&BitVec.ofInt u8.bits (aa [k.2.1,k.2.2.1,k.2.2.2.1,k.2.2.2.2.1,k.2.2.2.2.2.1,k.2.2.2.2.2.2] (i64.wrap (2+Int.tmod x.1 (4:Int))))).toNat))&&&BitVec.ofInt u8.bits 7).toNat)),(FloatKind.f64.format.div (FloatKind.f64.nearest (Int.tmod (aa [k.2.1,k.2.2.1,k.2.2.2.1,k.2.2.2.2.1,k.2.2.2.2.2.1,k.2.2.2.2.2.2] (i64.wrap (2+Int.tmod x.1 (4:Int)))) (16:Int))) 4622945017495814144).getD 0)]
def akQ(k:ae×iZ)(x:Int×bm):=x.2.2.2++ [((u32.wrap (1*2^min (u64.wrap (Int.tmod (aa [k.2.1,k.2.2.1,k.2.2.2.1,k.2.2.2.2.1,k.2.2.2.2.2.1,k.2.2.2.2.2.2] (i64.wrap (3+Int.tmod x.1 (3:Int)))) (8:Int))).toNat u32.bits),Int.tmod (u8.wrap (Int.tdiv (aa [k.2.1,k.2.2.1,k.2.2.2.1,k.2.2.2.2.1,k.2.2.2.2.2.1,k.2.2.2.2.2.2] (i64.wrap (3+Int.tmod x.1 (3:Int)))) (8:Int))) (4:Int)==1,Int.tmod (u8.wrap (Int.tdiv (aa [k.2.1,k.2.2.1,k.2.2.2.1,k.2.2.2.2.1,k.2.2.2.2.2.1,k.2.2.2.2.2.2] (i64.wrap (3+Int.tmod x.1 (3:Int)))) (8:Int))) (4:Int)==2,Int.tmod (u8.wrap (Int.tdiv (aa [k.2.1,k.2.2.1,k.2.2.2.1,k.2.2.2.2.1,k.2.2.2.2.2.1,k.2.2.2.2.2.2] (i64.wrap (3+Int.tmod x.1 (3:Int)))) (32:Int))) (3:Int)==1,Int.tmod (u8.wrap (Int.tdiv (aa [k.2.1,k.2.2.1,k.2.2.2.1,k.2.2.2.2.1,k.2.2.2.2.2.1,k.2.2.2.2.2.2] (i64.wrap (3+Int.tmod x.1 (3:Int)))) (32:Int))) (3:Int)==2),(i64.wrap (Int.tmod (aa [k.2.1,k.2.2.1,k.2.2.2.1,k.2.2.2.2.1,k.2.2.2.2.2.1,k.2.2.2.2.2.2] (i64.wrap (2+Int.tmod x.1 (4:Int)))) (8:Int)),decide (Int.tmod (aa [k.2.1,k.2.2.1,k.2.2.2.1,k.2.2.2.2.1,k.2.2.2.2.2.1,k.2.2.2.2.2.2] (i64.wrap (2+Int.tmod x.1 (4:Int)))) (5:Int)>0),i64.wrap (Int.tmod (u8.wrap (Int.tdiv (aa [k.2.1,k.2.2.1,k.2.2.2.1,k.2.2.2.2.1,k.2.2.2.2.2.1,k.2.2.2.2.2.2] (i64.wrap (2+Int.tmod x.1 (4:Int)))) (8:Int))) (3:Int)),Int.tmod (aa [k.2.1,k.2.2.1,k.2.2.2.1,k.2.2.2.2.1,k.2.2.2.2.2.1,k.2.2.2.2.2.2] (i64.wrap (2+Int.tmod x.1 (4:Int)))) (7:Int)==0),u32.wrap (u8.wrap ((BitVec.ofInt u8.bits (u8.wrap ((BitVec.ofInt u8.bits (aa [k.2.1,k.2.2.1,k.2.2.2.1,k.2.2.2.2.1,k.2.2.2.2.2.1,k.2.2.2.2.2.2] (i64.wrap (3+Int.tmod x.1 (3:Int))))&&&BitVec.ofInt u8.bits (aa [k.2.1,k.2.2.1,k.2.2.2.1,k.2.2.2.2.1,k.2.2.2.2.2.1,k.2.2.2.2.2.2] (i64.wrap (2+Int.tmod x.1 (4:Int))))).toNat))&&&BitVec.ofInt u8.bits 7).toNat)),(FloatKind.f64.format.div (FloatKind.f64.nearest (Int.tmod (aa [k.2.1,k.2.2.1,k.2.2.2.1,k.2.2.2.2.1,k.2.2.2.2.2.1,k.2.2.2.2.2.2] (i64.wrap (2+Int.tmod x.1 (4:Int)))) (16:Int))) 4622945017495814144).getD 0)]
def JK(k:ae×iZ)(x:Int×bm):ak (ae×iZ) (Int×bm) bm:=letI a:=i64.wrap (x.1+1);letI b:=k.2.2.2;bif x.1<k.1.2.2.2.2.2.2.2.length then bif Int.tmod (aa [k.2.1,k.2.2.1,b.1,b.2.1,b.2.2.1,b.2.2.2] (i64.wrap (3+Int.tmod x.1 (3:Int)))) (11:Int)==7 then .next k (a,x.2.1,x.2.2.1,ajg k x)else .next k (a,x.2.1,x.2.2.1,akQ k x)else .brk k x
def vI k x:=endOf JK k (Nat.succ (JS k x)) x
def Y3(x:ae×iZ):=vI x (0,(u32.wrap (u8.wrap ((BitVec.ofInt u8.bits (Int.fdiv x.2.1 (2^min (3:Int).toNat u8.bits))&&&BitVec.ofInt u8.bits x.2.2.1).toNat)),u32.wrap (u8.wrap ((BitVec.ofInt u8.bits (Int.fdiv x.2.2.1 (2^min (2:Int).toNat u8.bits))&&&BitVec.ofInt u8.bits x.2.1).toNat))),(Int.tmod (i64.wrap (u8.wrap (Int.tdiv x.2.2.2.1 (4:Int)))) (9:Int),i64.wrap x.2.2.2.2.1),[])
def Yy(x:ae×iZ):=vI x (0,(u32.wrap (u8.wrap ((BitVec.ofInt u8.bits (Int.fdiv x.2.1 (2^min (3:Int).toNat u8.bits))&&&BitVec.ofInt u8.bits x.2.2.1).toNat)),u32.wrap (u8.wrap ((BitVec.ofInt u8.bits (Int.fdiv x.2.2.1 (2^min (2:Int).toNat u8.bits))&&&BitVec.ofInt u8.bits x.2.1).toNat))),(0,0),[])
def qS(x:ae×iZ):=letI a:=Int.tmod x.2.2.2.1 (4:Int)==0;letI b:=(0,0);bif Int.tmod x.2.1 (3:Int)==0 then bif a then mD (x.1,(Y3 x).2)else mD (x.1,(Yy x).2)else bif a then mD (x.1,(vI x (0,b,(Int.tmod (i64.wrap (u8.wrap (Int.tdiv x.2.2.2.1 (4:Int)))) (9:Int),i64.wrap x.2.2.2.2.1),[])).2)else mD (x.1,(vI x (0,b,b,[])).2)
def Z2(x:ae×iZ):Prop:=aR x.1/\B6 x.2
def z7(x:Int):=x<0||x>1000000
def MM(x:Int):=x<0||x>1000000
def Fu(x:Int):=x<0||x>1000000
def DB(k:(Int×sG))(x:(Int)):Prop:=(0:Int)<=x
def DT(k:Int×sG)(x:Int):=(36-x).toNat
def Ei(k:Int×sG)(x:Int):=letI e:=k.2.2.2.2;letI c:=e.2.2.2.2.2;letI f:=c.2.2.2.2;letI b:=f.2.2.2.2.2;letI g:=b.2.2.2.2;letI d:=g.2.2.2.2.2;letI h:=d.2.2.2.2;letI a:=aa [k.2.1,k.2.2.1,k.2.2.2.1,e.1,e.2.1,e.2.2.1,e.2.2.2.1,e.2.2.2.2.1,c.1,c.2.1,c.2.2.1,c.2.2.2.1,f.1,f.2.1,f.2.2.1,f.2.2.2.1,f.2.2.2.2.1,b.1,b.2.1,b.2.2.1,b.2.2.2.1,g.1,g.2.1,g.2.2.1,g.2.2.2.1,g.2.2.2.2.1,d.1,d.2.1,d.2.2.1,d.2.2.2.1,h.1,h.2.1,h.2.2.1,h.2.2.2.1,h.2.2.2.2.1,h.2.2.2.2.2] x;bif x<36 then bif a<0||a>=k.1 then ak.ret false else ak.next k (i64.wrap (x+1))else ak.brk k x
def Zh k x:=bd Ei k (Nat.succ (DT k x)) x
def lN(x:Int×bg):=bif x.1<1||x.1>16 then false else dq (Zh (x.1,x.2.2) 0) (λy=>y) true
def gL(x:ax):=x.1>=x.2.1&&x.1<=x.2.2
def oL(x:(ax)×ax):=qw [kM (x.1.1,x.2.1),kM (x.1.2.1,x.2.2.1)]
def FO(x:af):=x.1>=0&&x.1<=2&&x.2>=0&&x.2<=7
def FC(x:Int):=x>=0&&x<=1000000
def acf(x:ax):=letI a:=i64.wrap (x.2.1+aa [0,1,-1] x.2.2);bif x.2.2 !=1&&x.2.2 !=2 then(0,false)else(a,a>=0&&a<x.1)
def mE(x:af):=x.2>=0&&x.2<=4
def WI(x:List bg):=([]:List bg)++x
def wH(x:List bg):=(WI x,())
def Lj(x:List (bg)):Prop:=x.length<=100000
def wR(x:List iA):=(([]:List iA)++x,())
def KO(x:List (iA)):Prop:=x.length<=100000
def wS(x:List Int):=(([]:List Int)++x,())
def KV(x:List Int):Prop:=x.length<=100000
def ND(x:List (af)):=(([]:List (af))++x,())
def WR(x:List (af)):Prop:=x.length<=100000
def qY(x:List bT):(List bT)×Unit:=(([]:List (Int×Int×Int×List (ax)×iu))++x,())
def Lb(x:List (bT)):Prop:=x.length<=100000
def F95(x:List (ax)):=([]:List (ax))++x
def Xo(x:List (ax)):Prop:=x.length<=100000
def ib(x:Int):=min (i64.wrap (x+1)) 1000000
def gK(x:(eT)×Int):=bif x.2==32 then x.1.2.1 else bif x.2==33 then x.1.2.2.1 else bif x.2==34 then x.1.2.2.2.1 else bif x.2==35 then x.1.2.2.2.2 else x.2>=0&&x.2<32&&u32.wrap ((BitVec.ofInt u32.bits (Int.fdiv x.1.1 (2^min x.2.toNat u32.bits))&&&BitVec.ofInt u32.bits 1).toNat)==1
def oM(x:(eT)×iu):=letI c:=x.1.2;letI d:=x.2.1;letI b:=u32.wrap (1*2^min d.toNat u32.bits);letI e:=x.1.1;letI a:=u32.wrap ((BitVec.ofInt u32.bits e&&& ~~~BitVec.ofInt u32.bits b).toNat);letI f:=x.2.2;bif d==32 then(e,f,c.2)else bif d==33 then(e,c.1,f,c.2.2)else bif d==34 then(e,c.1,c.2.1,f,c.2.2.2)else bif d==35 then(e,c.1,c.2.1,c.2.2.1,f)else bif d>=0&&d<32 then bif f then(u32.wrap ((BitVec.ofInt u32.bits a|||BitVec.ofInt u32.bits b).toNat),c)else(a,c)else x.1
def vU(x:ae×Nat):Int:=letI a:=FloatKind.f64.format.order x.2 0;letI b:=x.1.2.2.2.2;bif !(a==some Ordering.gt||a==some Ordering.eq)then 0 else bif FloatKind.f64.format.order x.2 b.1==some Ordering.lt then 1 else bif FloatKind.f64.format.order x.2 b.2.1==some Ordering.lt then 2 else bif FloatKind.f64.format.order x.2 b.2.2.1==some Ordering.lt then 3 else 4
def gB(x:Int):=x==0||x==1
def Db(k:Int×(List (ax))×ax)(x:(List (ax))×Int):Prop:=0<=x.2/\k.2.2.1=k.2.1.length/\x.1.length<=x.2/\k.2.2.1<=1000
def rJ(k:Int×(List (ax))×ax)(x:(List (ax))×Int):=(k.2.2.1-x.2).toNat
def rU(k:Int×(List (ax))×ax)(x:(List (ax))×Int):ak (Int×(List (ax))×ax) ((List (ax))×Int) ((List (ax))×Bool):=letI a:=aa k.2.1 x.2;letI b:=i64.wrap (a.2.2+1);letI c:=i64.wrap (x.2+1);bif x.2<k.2.2.1 then bif b>k.1 then .ret ([],true)else bif !gg (k.2.2.2,a.1,a.2.1)then .next k (x.1++ [(a.1,a.2.1,b)],c)else .next k (x.1,c)else .brk k x
def VK k x:=endOf rU k (Nat.succ (rJ k x)) x
def VB k x:=bd rU k (Nat.succ (rJ k x)) x
def sQ(x:(List (ax))×ax):=letI a:=(x.2.1,x.1,(x.1.length:Int),x.2.2);dq (VB a ([],0)) (λy=>y) ((VK a ([],0)).1,false)
def DF(x:(List (ax))×ax):Prop:=x.1.length<=1000
def qV(x:Int):=bif x==0 then 32 else i64.wrap (aa jA (Int.fdiv (u32.wrap (u32.wrap ((BitVec.ofInt u32.bits x&&&BitVec.ofInt u32.bits (u32.wrap (0-x))).toNat)*125613361)) (2^min (27:Int).toNat u32.bits)))
def vD(x:Int):Prop:=0<=x/\x<=4294967295
def AY(x:Int):=x>=2&&x<=32
def ra(x:Int):=i64.wrap (u8.wrap (u8.wrap (u8.wrap (aL Lib.pop8tab (Int.fdiv x (2^min (24:Int).toNat u32.bits))+aL Lib.pop8tab (u32.wrap ((BitVec.ofInt u32.bits (Int.fdiv x (2^min (16:Int).toNat u32.bits))&&&BitVec.ofInt u32.bits 255).toNat)))+aL Lib.pop8tab (u32.wrap ((BitVec.ofInt u32.bits (Int.fdiv x (2^min (8:Int).toNat u32.bits))&&&BitVec.ofInt u32.bits 255).toNat)))+aL Lib.pop8tab (u32.wrap ((BitVec.ofInt u32.bits x&&&BitVec.ofInt u32.bits 255).toNat))))
def oC(x:Int):Prop:=0<=x/\x<=4294967295
def A3(x:Bool×Bool×jX):=letI a:=x.2.2.2;letI b:=i64.wrap (0+1);letI c:=x.2.2.1;bif x.1 then bif x.2.1 then aa [c,a.1,a.2.1,a.2.2] (i64.wrap (b+2))else aa [c,a.1,a.2.1,a.2.2] b else bif x.2.1 then aa [c,a.1,a.2.1,a.2.2] (i64.wrap (0+2))else aa [c,a.1,a.2.1,a.2.2] 0
def qq(x:Int):=x==3||x==4
def F0(x:Int×Int×au):Unit×au:=Ty.dflt (Ty.pair Ty.unit dj)
def JZ(x:Int×Int×au):Prop:=False
def gS(x:ae×aq):=cL x&&i64.wrap (i64.wrap (18*i64.wrap (i64.wrap (x.1.2.2.2.2.2.2.2.length+x.2.2.2.2.length)+1))+6)<=x.1.2.2.1
def aaY(x:(ae)×(iA)×gq):Bool:=Ty.dflt aw
def Ku(x:(ae)×(iA)×gq):Prop:=False
def jd(x:(aq×iu)×Int):=aa x.1.1.1 x.1.2.1==x.2
def ma(x:(aq×iu)×Int):Prop:=0<=x.1.2.1/\x.1.2.1<x.1.1.1.length
def Cs(k:(List Int)×Int×aq)(x:Int):Prop:=0<=x/\k.2.1=k.1.length/\k.2.2.2.2.1.length=k.1.length
def IS(k:((List Int)×Int×aq))(x:(Int)):Nat:=(k.2.1-x).toNat
def IB(k:(List Int)×Int×aq)(x:Int):=letI a:=aa k.1 x;bif x<k.2.1 then bif a==1||a==2||a==3||aa k.2.2.2.2.1 x then ak.ret false else ak.next k (i64.wrap (x+1))else ak.brk k x
def amx k x:=bd IB k (Nat.succ (IS k x)) x
def M6(x:aq):=dq (amx (x.1,x.1.length,x) 0) (λy=>y) true
def zi(x:aq):Prop:=x.1.length=x.2.2.1.length
def wi(x:(aq×iu)×Int):=(([(4,0,0,x.1.2.1,x.2)]:List (aO)),())
def Ag(x:Bool×Int×List (aO)):=bif !x.1 then(([],x.2.1),())else((x.2.2,0),())
def Dq(k:Int×(List aC)×Int)(x:Int):Prop:=0<=x/\k.2.2=k.2.1.length
def Jz(k:(Int×(List (aC))×Int))(x:(Int)):Nat:=(k.2.2-x).toNat
def Jx(k:Int×(List aC)×Int)(x:Int):=bif x<k.2.2 then bif(aa k.2.1 x).2.2.1==k.1 then ak.ret true else ak.next k (i64.wrap (x+1))else ak.brk k x
def ali k x:=bd Jx k (Nat.succ (Jz k x)) x
def MX(x:aq×Int):=dq (ali (x.2,x.1.2.2.2,x.1.2.2.2.length) 0) (λy=>y) false
def FN(x:af):=x.1==x.2||x.1==1&&x.2==0||x.1==0&&x.2==1||x.1==3&&x.2==4
def qz(x:aq×Int):=x.2>=0&&x.2<min (min (x.1.1.length:Int) x.1.2.1.length) x.1.2.2.1.length
def gi(x:(af)×af):=(u32.wrap ((BitVec.ofInt u32.bits x.1.1|||BitVec.ofInt u32.bits x.2.1).toNat),u32.wrap ((BitVec.ofInt u32.bits x.1.2|||BitVec.ofInt u32.bits x.2.2).toNat))
def abx(x:(ae)×(iA)×gq):af:=Ty.dflt aU
def Kd(x:(ae)×(iA)×gq):Prop:=False
def jH(x:ae×aX):=bif !x.2.2.1 then(0,0)else dG (x.2.2.2.2.2.2.2.2.1,dS x.1)
def ew(x:(af)×af):=(u32.wrap ((BitVec.ofInt u32.bits x.1.1&&& ~~~BitVec.ofInt u32.bits x.2.1).toNat),u32.wrap ((BitVec.ofInt u32.bits x.1.2&&& ~~~BitVec.ofInt u32.bits x.2.2).toNat))
def tf(x:Int):(List (af))×(List Bool)×af:=(aE aU x,aE aw x,0,0)
def Kk(x:Int):Prop:=0<=x/\x<=8
def qu(x:aC×af):=(x.1.1>x.2.1||x.1.1==x.2.1&&x.1.2.1>=x.2.2,x.2)
def nK(x:Int):=x>=2&&x<=32
def vT(x:ax):=x.2.2==1&&x.2.1>=0&&x.2.1<i64.wrap (x.1-1)||x.2.2==2&&x.2.1>0&&x.2.1<x.1
def alq(x:jX):=letI a:=u32.wrap (u32.wrap (1*2^min x.1.toNat u32.bits)-1);dG (x.2.2,Int.fdiv a (2^min (1:Int).toNat u32.bits),u32.wrap ((BitVec.ofInt u32.bits a&&& ~~~BitVec.ofInt u32.bits 1).toNat))
def kd(x:jX):=(u32.wrap ((BitVec.ofInt u32.bits x.2.1&&&BitVec.ofInt u32.bits (u32.wrap (u32.wrap (1*2^min x.1.toNat u32.bits)-1))).toNat),alq x)
def vz(x:jX):Prop:=0<=x.1
def Ae(x:Int):=letI a:=Int.fdiv x (2^min (16:Int).toNat u32.bits);letI b:=2^min (8:Int).toNat u32.bits;bif x>=65536 then bif a>=256 then i64.wrap (i64.wrap (16+8)+i64.wrap (aL Lib.len8tab (u8.wrap (Int.fdiv a b))))else i64.wrap (16+i64.wrap (aL Lib.len8tab (u8.wrap a)))else bif x>=256 then i64.wrap (i64.wrap (0+8)+i64.wrap (aL Lib.len8tab (u8.wrap (Int.fdiv x b))))else i64.wrap (0+i64.wrap (aL Lib.len8tab (u8.wrap x)))
def Ey(x:Int):Prop:=0<=x/\x<=4294967295
def Cy(k:(List Int)×Int)(x:ax):Prop:=0<=x.2.2/\k.2=k.1.length
def yI(k:(List Int)×Int)(x:ax):=(k.2-x.2.2).toNat
def um(k:(List Int)×Int)(x:ax):ak ((List Int)×Int) (ax) Unit:=letI a:=aa k.1 x.2.2;bif x.2.2<k.2 then .next k (i64.wrap (x.1+max (i64.wrap (a-x.2.1)) (i64.wrap (x.2.1-a))),a,i64.wrap (x.2.2+1))else .brk k x
def VV k x:=endOf um k (Nat.succ (yI k x)) x
def mv(x:(List Int)×af):=letI a:=x.1++ [x.2.2];((VV (a,a.length) (0,x.2.1,0)).1,x.2)
def qe(x:(List Int)×af):Prop:=x.1.length<=2
def Ay(x:aX):=letI a:=x.2.2.2.2.2.2.1;a==3||a==4
def FR(x:(af)×af):=letI a:=x.1.1==x.2.1;bif a&&x.1.2==x.2.2 then false else x.1.1<x.2.1||a&&x.1.2<x.2.2
def sS(x:aC×aC):List (aO):=letI b:=x.2.2;letI a:=(3,x.2.1,b.1,b.2.1,0);letI e:=x.1.2.2.1 !=b.2.1;letI f:=b.2.2;letI c:=(7,x.2.1,b.1,1,f.1);letI d:=(7,x.2.1,b.1,0,f.1);bif x.1.2.2.2.1 !=f.1||x.1.2.2.2.2 !=f.2 then bif f.2 then bif e then[c]++ [a]else[c]else bif e then[d]++ [a]else[d]else bif e then[a]else[]
def M3(x:Int):=x==0||x==1
def Ab(x:af):=x.2==0||x.1==3||x.1==4
def Er(k:(Int×bg))(x:(Int)):Prop:=(0:Int)<=x
def En(k:Int×bg)(x:Int):=(36-x).toNat
def DO(k:Int×bg)(x:Int):=letI f:=k.2.2.2.2;letI d:=f.2.2.2.2.2;letI g:=d.2.2.2.2;letI b:=g.2.2.2.2.2;letI h:=b.2.2.2.2;letI c:=h.2.2.2.2.2;letI e:=c.2.2.2.2.2;letI a:=aa [k.2.2.1,k.2.2.2.1,f.1,f.2.1,f.2.2.1,f.2.2.2.1,f.2.2.2.2.1,d.1,d.2.1,d.2.2.1,d.2.2.2.1,g.1,g.2.1,g.2.2.1,g.2.2.2.1,g.2.2.2.2.1,b.1,b.2.1,b.2.2.1,b.2.2.2.1,h.1,h.2.1,h.2.2.1,h.2.2.2.1,h.2.2.2.2.1,c.1,c.2.1,c.2.2.1,c.2.2.2.1,c.2.2.2.2.1,e.1,e.2.1,e.2.2.1,e.2.2.2.1,e.2.2.2.2.1,e.2.2.2.2.2] x;bif x<36 then bif a<0||a>=k.1 then ak.ret false else ak.next k (i64.wrap (x+1))else ak.brk k x
def Yu k x:=bd DO k (Nat.succ (En k x)) x
def AP(x:Int×bg):=bif x.1<1||x.1>16 then false else dq (Yu x 0) (λy=>y) true
def nS(x:(eT)×Int):=bif x.2<0||x.2>35 then false else bif x.2<32 then u32.wrap ((BitVec.ofInt u32.bits (Int.fdiv x.1.1 (2^min (u64.wrap x.2).toNat u32.bits))&&&BitVec.ofInt u32.bits 1).toNat)==1 else aa [x.1.2.1,x.1.2.2.1,x.1.2.2.2.1,x.1.2.2.2.2] (i64.wrap (x.2-32))
def AX(x:(eT)×iu):=letI c:=x.1.2;letI d:=x.2.1;letI a:=u32.wrap (1*2^min (u64.wrap d).toNat u32.bits);letI b:=d>=0&&d<32;letI e:=x.1.1;letI f:=x.2.2;bif b&&f then(u32.wrap ((BitVec.ofInt u32.bits e|||BitVec.ofInt u32.bits a).toNat),c)else bif b then(u32.wrap ((BitVec.ofInt u32.bits e&&& ~~~BitVec.ofInt u32.bits a).toNat),c)else bif d==32 then(e,f,c.2)else bif d==33 then(e,c.1,f,c.2.2)else bif d==34 then(e,c.1,c.2.1,f,c.2.2.2)else bif d==35 then(e,c.1,c.2.1,c.2.2.1,f)else x.1
def dM(x:(af)×af):=(u32.wrap ((BitVec.ofInt u32.bits x.1.1&&& ~~~BitVec.ofInt u32.bits x.2.1).toNat),u32.wrap ((BitVec.ofInt u32.bits x.1.2&&& ~~~BitVec.ofInt u32.bits x.2.2).toNat))
def iq(x:(af)×af):=(u32.wrap ((BitVec.ofInt u32.bits x.1.1|||BitVec.ofInt u32.bits x.2.1).toNat),u32.wrap ((BitVec.ofInt u32.bits x.1.2|||BitVec.ofInt u32.bits x.2.2).toNat))
def eB(x:(af)×af):=(u32.wrap ((BitVec.ofInt u32.bits x.1.1&&&BitVec.ofInt u32.bits x.2.1).toNat),u32.wrap ((BitVec.ofInt u32.bits x.1.2&&&BitVec.ofInt u32.bits x.2.2).toNat))
def F67(x:af):=letI a:=u32.wrap (1*2^min (u64.wrap x.1).toNat u32.bits);letI b:=(0,0);bif x.1<0||x.1>31 then b else bif x.2==1 then(a,0)else bif x.2==2 then(0,a)else b
def Nj(x:(af)×af):=letI a:=2^min (u64.wrap x.2.1).toNat u32.bits;bif x.2.1<0||x.2.1>31 then false else x.2.2==1&&u32.wrap ((BitVec.ofInt u32.bits (Int.fdiv x.1.1 a)&&&BitVec.ofInt u32.bits 1).toNat)==1||x.2.2==2&&u32.wrap ((BitVec.ofInt u32.bits (Int.fdiv x.1.2 a)&&&BitVec.ofInt u32.bits 1).toNat)==1
def Ds(k:(List Int)×(List Int)×Int)(x:Int):Prop:=0<=x/\k.2.2=k.1.length/\k.1.length=k.2.1.length
def Jg(k:((List Int)×(List Int)×Int))(x:(Int)):Nat:=(k.2.2-x).toNat
def IG(k:(List Int)×(List Int)×Int)(x:Int):=bif x<k.2.2 then bif aa k.1 x !=aa k.2.1 x then ak.ret false else ak.next k (i64.wrap (x+1))else ak.brk k x
def amV k x:=bd IG k (Nat.succ (Jg k x)) x
def acJ(x:(List Int)×List Int):=letI a:=(x.1.length:Int);bif a !=x.2.length then false else dq (amV (x.1,x.2,a) 0) (λy=>y) true
def Dj(k:(List Bool)×(List Bool)×Int)(x:Int):Prop:=0<=x/\k.2.2=k.1.length/\k.1.length=k.2.1.length
def Ji(k:((List Bool)×(List Bool)×Int))(x:(Int)):Nat:=(k.2.2-x).toNat
def IX(k:(List Bool)×(List Bool)×Int)(x:Int):=bif x<k.2.2 then bif aa k.1 x !=aa k.2.1 x then ak.ret false else ak.next k (i64.wrap (x+1))else ak.brk k x
def alI k x:=bd IX k (Nat.succ (Ji k x)) x
def Mi(x:(List Bool)×List Bool):=letI a:=(x.1.length:Int);bif a !=x.2.length then false else dq (alI (x.1,x.2,a) 0) (λy=>y) true
def Dc(k:(List aC)×(List aC)×Int)(x:Int):Prop:=0<=x/\k.2.2=k.1.length/\k.1.length=k.2.1.length
def Jn(k:((List (aC))×(List (aC))×Int))(x:(Int)):Nat:=(k.2.2-x).toNat
def IV(k:(List aC)×(List aC)×Int)(x:Int):=letI a:=aa k.2.1 x;letI b:=aa k.1 x;bif x<k.2.2 then bif !(b.1==a.1&&(b.2.1==a.2.1&&(b.2.2.1==a.2.2.1&&(b.2.2.2.1==a.2.2.2.1&&b.2.2.2.2==a.2.2.2.2))))then ak.ret false else ak.next k (i64.wrap (x+1))else ak.brk k x
def alj k x:=bd IV k (Nat.succ (Jn k x)) x
def aaT(x:(List aC)×List aC):=letI a:=(x.1.length:Int);bif a !=x.2.length then false else dq (alj (x.1,x.2,a) 0) (λy=>y) true
def MD:Ct:=⟨Ty.pair bB bB,[none,none],az,ah.one (some 8),some K7,some 106,jk⟩
def L0:Cv:=⟨az,[some 8],[.v],[],false,[],Ty.unit,bO,ah.one (some 4),[(0,true,3),(1,true,4),(2,true,4),(3,true,93)],none,fZ,false⟩
def XI:Ct:=⟨Ty.pair az bK,[some 8,none],Ty.pair jx bI,ah.tup [some 5,none],none,none,sP⟩
def K2:Ct:=⟨Ty.pair dg (Ty.pair dP zN),[none,some 5,none],Ty.pair ab aw,ah.tup [none,none],some Km,none,FP⟩
def acw:Ct:=⟨Ty.pair az bO,[some 8,some 4],aw,ah.one none,none,none,pj⟩
def Mx:Cv:=⟨cX,[none],[.v],[],false,[],Ty.unit,cX,ah.one none,[(0,true,3)],some sI,kS,false⟩
def Np:Cv:=⟨fY,[none],[.v],[],false,[],Ty.unit,fY,ah.one none,[(0,true,4)],some oD,mC,false⟩
def Mp:Cv:=⟨dg,[none],[.v],[],false,[],Ty.unit,dg,ah.one none,[(0,true,93)],some zD,wU,false⟩
def ZK:Ct:=⟨Ty.unit,[],eL,ah.one (some 6),none,none,qI⟩
def ME:Ct:=⟨Ty.pair az sB,[some 8,some 6],dQ,ah.one (some 5),some Z2,none,qS⟩
def Xl:Ct:=⟨ab,[none],aw,ah.one none,none,none,z7⟩
def Yd:Ct:=⟨ab,[none],aw,ah.one none,none,none,MM⟩
def ZX:Ct:=⟨ab,[none],aw,ah.one none,none,none,Fu⟩
def MG:Ct:=⟨Ty.pair ab du,[none,some 41],aw,ah.one none,none,none,lN⟩
def aae:Ct:=⟨Ty.pair ab (Ty.pair ab ab),[none,none,none],aw,ah.one none,none,none,gL⟩
def YK:Ct:=⟨Ty.pair gx gx,[some 3,some 3],ab,ah.one none,none,none,oL⟩
def Yg:Ct:=⟨LZ,[some 2],aw,ah.one none,none,none,FO⟩
def Wo:Ct:=⟨ab,[none],aw,ah.one none,none,none,FC⟩
def Zg:Ct:=⟨Ty.pair ab (Ty.pair ab ab),[none,none,none],Ty.pair ab aw,ah.tup [none,none],none,none,acf⟩
def aaL:Ct:=⟨Ty.pair ab jw,[none,some 1],aw,ah.one none,none,none,mE⟩
def Mq:Cv:=⟨qp,[none],[.v],[],false,[],Ty.unit,qp,ah.one none,[(0,true,70)],some Lj,wH,false⟩
def My:Cv:=⟨vR,[none],[.v],[],false,[],Ty.unit,vR,ah.one none,[(0,true,153)],some KO,wR,false⟩
def MF:Cv:=⟨AA,[none],[.v],[],false,[],Ty.unit,AA,ah.one none,[(0,true,158)],some KV,wS,false⟩
def Ni:Cv:=⟨oN,[none],[.v],[],false,[],Ty.unit,oN,ah.one none,[(0,true,51)],some WR,ND,false⟩
def Mz:Cv:=⟨vX,[none],[.v],[],false,[],Ty.unit,vX,ah.one none,[(0,true,142)],some Lb,qY,false⟩
def abO:Ct:=⟨fW,[none],fW,ah.one none,some Xo,none,F95⟩
def Xz:Ct:=⟨ab,[none],ab,ah.one none,none,none,ib⟩
def aac:Ct:=⟨Ty.pair jg ab,[some 5,none],aw,ah.one none,none,none,gK⟩
def Xx:Ct:=⟨Ty.pair jg (Ty.pair ab aw),[some 5,none,none],jg,ah.one (some 5),none,none,oM⟩
def XG:Ct:=⟨Ty.pair az sT,[some 8,none],ab,ah.one none,none,none,vU⟩
def Wq:Ct:=⟨ab,[none],aw,ah.one none,none,none,gB⟩
def Lh:Ct:=⟨Ty.pair fW (Ty.pair ab aU),[none,none,some 2],Ty.pair fW aw,ah.tup [none,none],some DF,some 191,sQ⟩
def aas:Ct:=⟨jI,[none],ab,ah.one none,some vD,none,qV⟩
def abu:Ct:=⟨ab,[none],aw,ah.one none,none,none,AY⟩
def acx:Ct:=⟨jI,[none],ab,ah.one none,some oC,none,ra⟩
def ade:Ct:=⟨Ty.pair aw (Ty.pair aw Ls),[none,none,some 4],ab,ah.one none,none,none,A3⟩
def Wt:Ct:=⟨ab,[none],aw,ah.one none,none,none,qq⟩
def K8:Cv:=⟨Ty.pair ab (Ty.pair ab dj),[none,none],[.p,.v,.v],[43],false,[(17,true,70),(18,true,142),(19,true,153),(20,true,158),(34,true,4),(35,true,51),(36,true,4),(44,true,85)],dj,Ty.unit,ah.none,[(15,true,70),(16,true,142),(17,true,153),(18,true,158),(32,true,4),(33,true,51),(34,true,4),(42,true,85)],some JZ,F0,false⟩
def WE:Ct:=⟨Ty.pair az bO,[some 8,some 4],aw,ah.one none,none,none,gS⟩
def XU:Ct:=⟨Ty.pair az (Ty.pair iM sU),[some 8,some 14,some 4],aw,ah.one none,some Ku,none,aaY⟩
def Xy:Ct:=⟨Ty.pair E7 ab,[some 6,none],aw,ah.one none,some ma,none,jd⟩
def Lt:Ct:=⟨bO,[some 4],aw,ah.one none,some zi,none,M6⟩
def KU:Cv:=⟨Ty.pair E7 ab,[some 6,none],[.v,.v],[],false,[],Ty.unit,dF,ah.one none,[(0,true,213)],none,wi,false⟩
def Lv:Cv:=⟨Ty.pair aw (Ty.pair bI dF),[none,none,none],[.v,.v,.v],[],false,[(2,true,213)],Ty.unit,Ty.pair dF bI,ah.tup [none,none],[(0,true,213)],none,Ag,false⟩
def KT:Ct:=⟨Ty.pair bO ab,[some 4,none],aw,ah.one none,none,none,MX⟩
def Xv:Ct:=⟨Ty.pair ab ab,[none,none],aw,ah.one none,none,none,FN⟩
def ZG:Ct:=⟨Ty.pair bO ab,[some 4,none],aw,ah.one none,none,none,qz⟩
def Yv:Ct:=⟨Ty.pair aU aU,[some 2,some 2],aU,ah.one (some 2),none,none,gi⟩
def Ye:Ct:=⟨Ty.pair az (Ty.pair iM sU),[some 8,some 14,some 4],aU,ah.one (some 2),some Kd,none,abx⟩
def XK:Ct:=⟨Ty.pair az eR,[some 8,some 12],aU,ah.one (some 2),none,none,jH⟩
def Wi:Ct:=⟨Ty.pair aU aU,[some 2,some 2],aU,ah.one (some 2),none,none,ew⟩
def YL:Ct:=⟨ab,[none],vQ,ah.one (some 4),some Kk,none,tf⟩
def Ys:Cp:=letI a:=Ty.pair ab ab;⟨Ty.pair dP a,[some 5],[false,true,true],[1,1],true,false,a,aw,ah.one none,none,qu,none,undef⟩
def WM:Ct:=⟨ab,[none],aw,ah.one none,none,none,nK⟩
def Z3:Ct:=⟨Ty.pair ab (Ty.pair ab ab),[none,none,none],aw,ah.one none,none,none,vT⟩
def YV:Ct:=⟨Ty.pair ab sD,[none,some 3],sD,ah.one (some 3),some vz,none,kd⟩
def Yp:Ct:=⟨jI,[none],ab,ah.one none,some Ey,none,Ae⟩
def WU:Cp:=letI a:=Ty.pair ab ab;⟨Ty.pair cX a,[none],[false,true,true],[1,1],true,true,a,ab,ah.one none,some qe,mv,none,undef⟩
def YU:Ct:=⟨eR,[some 12],aw,ah.one none,none,none,Ay⟩
def XL:Ct:=⟨Ty.pair vN vN,[some 2,some 2],aw,ah.one none,none,none,FR⟩
def Wz:Ct:=⟨Ty.pair dP dP,[some 5,some 5],dF,ah.one none,none,some 213,sS⟩
def Y7:Ct:=⟨ab,[none],aw,ah.one none,none,none,M3⟩
def Yo:Ct:=⟨Ty.pair ab ab,[none,none],aw,ah.one none,none,none,Ab⟩
def ML:Ct:=⟨Ty.pair ab du,[none,some 41],aw,ah.one none,none,none,AP⟩
def aaq:Ct:=⟨Ty.pair jg ab,[some 5,none],aw,ah.one none,none,none,nS⟩
def aa6:Ct:=⟨Ty.pair jg (Ty.pair ab aw),[some 5,none,none],jg,ah.one (some 5),none,none,AX⟩
def aaX:Ct:=⟨Ty.pair aU aU,[some 2,some 2],aU,ah.one (some 2),none,none,dM⟩
def ac1:Ct:=⟨Ty.pair aU aU,[some 2,some 2],aU,ah.one (some 2),none,none,iq⟩
def acW:Ct:=⟨Ty.pair aU aU,[some 2,some 2],aU,ah.one (some 2),none,none,eB⟩
def abI:Ct:=⟨Ty.pair ab ab,[none,none],aU,ah.one (some 2),none,none,F67⟩
def Wy:Ct:=⟨Ty.pair aU (Ty.pair ab ab),[some 2,none,none],aw,ah.one none,none,none,Nj⟩
def L8:Ct:=⟨Ty.pair cX cX,[none,none],aw,ah.one none,none,none,acJ⟩
def LN:Ct:=⟨Ty.pair fY fY,[none,none],aw,ah.one none,none,none,Mi⟩
def LW:Ct:=⟨Ty.pair dg dg,[none,none],aw,ah.one none,none,none,aaT⟩
def Ux:LS az.den:=aD bB (Ty.pair ab az) [(1,none)] [] [(6,none)] [(5,8)] [(8,100308,true,106)] [] [(5,5)] 0 false vu se Eg
def bh(z:List (Nat×List Nat)):=dB (H7 true) xX cY Jb z
theorem alU:bu f74 MD [0] Ux:=have E:=ai @vu.eq_1 SN;lA (bh []) [] l0 (λk x fk fx h=>sm (letI a:=(3:Int)≠0;letI b:=(x.2.2.2.2.2.2.2.2.length:Int);decide (x.1<b)=true->((0<=x.1/\x.1<b)/\(a/\(a/\a/\(9:Int)≠0/\a/\(27:Int)≠0/\(5:Int)≠0/\x.2.1≠0))))) λk x fk h=>by
 try dsimp only[Ty.den]at*
 unfold vu at h;unfold se;have hlen:(yD k x).length=x.2.2.2.2.2.2.2.2.length:=by
  simp only[yD,CA,C9,CQ,CW,aH,auz]
 refine aJ.cnd (λhc=> ?_) (λhc=> ?_)
 ·rw[adv]at hc
  refine⟨rfl,?_,?_⟩
  ·unfold vu
   simp only;rw[aB (x:=x.1+1) (by omega) (by omega)];exact⟨by omega,h.2.1,by rw[hlen];exact h.2.2⟩
  ·unfold Eg
   simp only;rw[hlen,aB (x:=x.1+1) (by omega) (by omega)];omega
 ·exact rfl
theorem ate:an 74 MD:=ao (bh []) func74 [(3,Ux)] (lc alU l0) (sp λx fx h=>sf (letI a:=(i64.wrap ((2:Int)+i64.wrap (Int.tmod x.1 (5:Int))),i64.wrap ((1:Int)+i64.wrap (Int.tmod (u8.wrap (Int.tdiv x.1 (5:Int))) (3:Int))));letI b:=(5:Int)≠0;b/\b/\(3:Int)≠0/\D8 a/\vu x.2 (0,FT a)/\(7:Int)≠0/\True) (by
 try dsimp only[Ty.den]at*
 unfold K7 at h;have h1:i64.wrap ((2:Int)+(i64.wrap (Int.tmod x.1 (5:Int))))=2+x.1 % 5:=by simp only[ua,avj];omega
 have h2:i64.wrap ((1:Int)+(i64.wrap (Int.tmod (u8.wrap (Int.tdiv x.1 (5:Int))) (3:Int))))=((1+x.1/5 % 3).toNat:Int):=by simp only[ua,HZ,avj,av6];omega
 rw[h1,h2,Pu _ _ (by omega) (by omega)];refine⟨by omega,by omega,by omega,?_,?_,by omega,trivial⟩
 ·unfold D8;simp only;omega
 ·unfold vu
  refine⟨by simp,?_,?_⟩
  ·show(2+x.1 % 5:Int)≠0;omega
  ·show(lh (2+x.1 % 5) (1+x.1/5 % 3).toNat).aK.length<=100
   rw[aej];omega))
theorem anv:dL 116 L0:=dU (bh []) func116 [] l0 (λx fx _=>sl (letI a:=(x.2.2.2.2.2.2.2.length:Int);letI b:=0<=a/\a=a/\a*1<=140737488355328/\a<=4611686018427387903;(bZ x !=0)=false->(0<=a/\a=a/\a*8<=140737488355328/\a<=4611686018427387903)/\b/\b) (by
 try dsimp only[Ty.den]at*
 intro h1;have h8:=ZE fx.2.2.2.2.2.2.2.1 h1;exact⟨nt h8 8 ⟨by decide,by decide⟩,nt h8 1 ⟨by decide,by decide⟩,nt h8 1 ⟨by decide,by decide⟩⟩))
theorem anL:an 147 XI:=have E:=ai @vt.eq_1 SN;ao (bh []) func147 [] l0 (λx fx _=>sl (letI a:=(x.2.size:Int);letI b:=ByteArray.extract x.2 (Int.toNat (0:Int)) (Int.toNat (5:Int));(bZ x.1 !=(0:Int))=false->((a !=(6:Int))=false->((0<=(0:Int)/\(0:Int)<=(5:Int)/\(5:Int)<=a)/\(vt b/\((0<=(5:Int)/\(5:Int)<a)/\((As b !=aL x.2 (5:Int))=false->((0<=(0:Int)/\(0:Int)<a)/\((0<=(1:Int)/\(1:Int)<a)/\((0<=(2:Int)/\(2:Int)<a)/\((0<=(3:Int)/\3<a)/\0<=(4:Int)/\4<a)))))))))))
def Vr:Fv:={p:=Ty.pair dP dP,ay:= [some 5,some 5],r:=ab,ar:=ah.one none,fs:= [140],F:=F1}
theorem aix:qy (some Vr):=BI (λg hg=>by
 simp only[Vr,av3,ayi,aBo]at hg;rcases hg with rfl
 ·exact⟨Ze,_,func140,by kernel_rfl,by kernel_rfl⟩)
def R1:LS (Ty.pair ab aw).den:=aD (Ty.pair dg (Ty.pair zN dP)) (Ty.pair ab ab) [(0,none),(2,none)] [(4,5)] [(9,none),(10,none)] [] [] [] [(4,4)] 0 false uB rL rS
theorem JB(k:(Ty.pair dg (Ty.pair zN dP)).den)(x:(Ty.pair ab ab).den)(fk:Fit (Ty.pair dg (Ty.pair zN dP)) k)(h:uB k x):aJ false uB rS k x (rL k x):=by
 try dsimp only[Ty.den]at*
 obtain⟨h0,h1,h2,h3,h4⟩:=h;unfold rL;refine aJ.cnd (λhc=> ?_) (λ_=>rfl);rw[adv]at hc;have e:=yK h0 h1 (aw2 h2 (ot h3));have r:=CK h0 hc h2;rw[e,aB (x:=(x.1+x.2)/2+1) (by omega) (by omega)];refine aJ.cnd (λ_=>⟨rfl,⟨?_,?_,h2,h3,h4⟩,?_⟩) (λ_=>⟨rfl,⟨h0,?_,?_,h3,h4⟩,?_⟩)
 ·exact acL h0 hc
 ·exact acb h0 hc
 ·exact ab1 h0 hc
 ·exact abB h0 hc
 ·exact aw2 (aBn (VO h0 hc)) h2
 ·exact acC h0 hc
def YI(z:List (Nat×List Nat)):=dB (H7 true) xX aix Jb z
theorem aiE:bu f197 K2 [0] R1:=lA (YI []) [] l0 (λk x fk fx h=>sl (letI a:=i64.wrap (Int.fdiv (u64.wrap (i64.wrap (x.1+x.2))) (2^min (1:Int).toNat u64.bits));decide (x.1<x.2)=true->0<=(1:Int)/\(0<=a/\a<k.1.length)/\(∃g,k.2.1=some g/\g∈ [140])) (by
 try dsimp only[Ty.den]at*
 obtain⟨h0,h1,h2,h3,h4⟩:=h;intro hc;rw[adv]at hc;have e:=yK h0 h1 (aw2 h2 (ot h3));rw[e];exact⟨by decide,CK h0 hc h2,_,h4,by simp⟩)) JB
theorem aoy:an 197 K2:=ao (YI []) func197 [(3,R1)] (lc aiE l0) (sp λx fx h=>sl (letI b:=x.1.length;letI c:=(x.1,x.2.2,x.2.1);letI a:=Ez c (0,b);letI d:=decide (a.1<b);uB c (0,b)/\(d=true->0<=a.1/\a.1<b)/\(d=true-> ∃g,x.2.2=some g/\g∈ [140])) (by
 try dsimp only[Ty.den]at*
 obtain⟨h0,h1⟩:=h;have hin:uB (x.1,x.2.2,x.2.1) ((0:Int),((x.1).length:Int)):=⟨au8 _,au9 _,au8 _,h0,h1⟩;have hI:=oe (λy hy=>JB (x.1,x.2.2,x.2.1) y ⟨fx.1,fx.2.2,fx.2.1⟩ hy) (λy k' z hz=>by
  unfold rL at hz;revert hz
  cases decide (y.1<y.2)with
  |true=>rw[au3];unfold cond;split<;>intro hz<;>cases hz
  |false=>intro hz;cases hz;rfl) (Nat.succ (rS (x.1,x.2.2,x.2.1) ((0:Int),((x.1).length:Int)))) _ hin
 have g0:0<=(Ez (x.1,x.2.2,x.2.1) ((0:Int),((x.1).length:Int))).1:=hI.1;refine⟨hin,λhc=> ?_,λ_=>⟨_,h1,by simp⟩⟩;rw[adv]at hc;exact⟨g0,hc⟩))
theorem ar8:an 53 acw:=ao (bh []) func53 [] l0 (λ_ _ _=>tr)
theorem atJ:dL 91 Mx:=dU (bh [(999999,[5])]) func91 [] l0 (sp λx fx h=>sl ((x= []->True/\([],())=(([]:List Int)++x,()))/\(List.length (([]:List Int):List Int)+List.length (x:List Int))*8<=140737488355328/\List.length (([]:List Int):List Int)+List.length (x:List Int)<=4611686018427387903) (by
 try dsimp only[Ty.den]at*
 have h:x.length<=100000:=h;exact nZ h))
theorem asW:dL 92 Np:=dU (bh [(999999,[5])]) func92 [] l0 (sp λx fx h=>sl (letI a:=(x:List Bool);(x= []->True/\([],())=(([]:List Bool)++x,()))/\(List.length (([]:List Bool):List Bool)+List.length a)*1<=140737488355328/\List.length (([]:List Bool):List Bool)+List.length a<=4611686018427387903) (by
 try dsimp only[Ty.den]at*
 have h:x.length<=100000:=h;exact nZ h))
theorem as0:dL 93 Mp:=dU (bh [(999999,[5])]) func93 [] l0 (sp λx fx h=>sl (letI a:=aC;(x= []->True/\([],())=(([]:List a)++x,()))/\(List.length (([]:List a):List a)+List.length (x:List a))*40<=140737488355328/\List.length (([]:List a):List a)+List.length (x:List a)<=4611686018427387903) (by
 try dsimp only[Ty.den]at*
 have h:x.length<=100000:=h;exact nZ h))
theorem an2:an 101 ZK:=ao (bh []) func101 [] l0 (λ_ _ _=>tr)
def Vj:LS dQ.den:=aD (Ty.pair az sB) (Ty.pair ab dQ) [] [(2,8),(3,6)] [(6,none)] [(5,5)] [(5,100705,true,76)] [] [(2,2),(3,3),(5,5)] 0 false vj JK JS
theorem ami:bu f30 ME [0] Vj:=lA (bh []) [] l0 (λk x fk fx h=>sl (letI j:=i64.wrap ((3:Int)+Int.tmod x.1 (3:Int));letI l:=i64.wrap ((2:Int)+Int.tmod x.1 (4:Int));letI m:=(8:Int)≠0;letI n:=(x.2.2.2:List dY);letI o:=(3:Int)≠0;letI p:=k.2.2.2;letI a:=aa [k.2.1,k.2.2.1,p.1,p.2.1,p.2.2.1,p.2.2.2] l;letI b:=aa [k.2.1,k.2.2.1,p.1,p.2.1,p.2.2.1,p.2.2.2] j;letI e:=u32.wrap (u8.wrap ((BitVec.ofInt u8.bits (u8.wrap ((BitVec.ofInt u8.bits b&&&BitVec.ofInt u8.bits a).toNat:Int))&&&BitVec.ofInt u8.bits (7:Int)).toNat:Int));letI f:=(i64.wrap (Int.tmod a (8:Int)),decide (Int.tmod a (5:Int)>(0:Int)),i64.wrap (Int.tmod (u8.wrap (Int.tdiv a (8:Int))) (3:Int)),Int.tmod a (7:Int)==(0:Int));letI g:=FloatKind.f64.format.div (FloatKind.f64.nearest (Int.tmod a (16:Int))) (4622945017495814144:Nat);letI h:=Int.tmod (u8.wrap (Int.tdiv b (32:Int))) (3:Int);letI i:=Int.tmod (u8.wrap (Int.tdiv b (8:Int))) (4:Int);letI q:=u64.wrap (Int.tmod b (8:Int));letI r:=Int.tmod b (11:Int)==(7:Int);letI s:=(4:Int)≠0;letI t:=(32:Int)≠0;letI u:=(5:Int)≠0;letI v:=(7:Int)≠0;letI w:=i==(1:Int);letI y:=i==(2:Int);letI z:=h==(1:Int);letI A:=h==(2:Int);letI c:=([((u32.wrap (u8.wrap ((BitVec.ofInt u8.bits a&&&BitVec.ofInt u8.bits (7:Int)).toNat:Int)),w,y,z,A),f,e,g.getD 0)]:List dY);letI d:=([((u32.wrap ((1:Int)*2^min q.toNat u32.bits),w,y,z,A),f,e,g.getD 0)]:List dY);decide (x.1<(k.1.2.2.2.2.2.2.2.length:Int))=true->(o/\((0<=j/\j<(6:Int))/\(s/\((0<=l/\l<(6:Int))/\(((16:Int)≠0)/\((g.isSome=true)/\(m/\((0<=q)/\(m/\(s/\(m/\(s/\(t/\(o/\(t/\(o/\(((11:Int)≠0)/\((r=true->(m/\(u/\(m/\(o/\(v/\((List.length n+List.length c)*56<=140737488355328/\List.length n+List.length c<=4611686018427387903)))))))/\(r=false->(m/\(u/\(m/\o/\v/\(List.length n+List.length d)*56<=140737488355328/\List.length n+List.length d<=4611686018427387903))))))))))))))))))))))) (by
 try dsimp only[Ty.den]at*
 obtain⟨h0,hB,h1,h2,h5⟩:=h;intro hc;rw[adv]at hc;have e3:=atg h0;have e4:=atm h0;have v3:=abC h1 e3;have v4:=abC h1 e4;have hcn:k.1.2.2.2.2.2.2.2.length<=8:=hB.cn.2;repeat' (first|decide|exact e3.1|exact e3.2|exact e4.1|exact e4.2|exact af1 v4|exact aqN _|exact atO h2 h5|exact arU h2 h5|apply And.intro|intro _))) λk x fk h=>by
 try dsimp only[Ty.den]at*
 obtain⟨h0,hB,h1,h2,h5⟩:=h;unfold JK;refine aJ.cnd (λhc=> ?_) (λ_=>rfl);rw[adv]at hc;have hcn:k.1.2.2.2.2.2.2.2.length<=8:=hB.cn.2;have e:i64.wrap (x.1+1)=x.1+1:=aB (by omega) (by omega);rw[e];refine aJ.cnd (λ_=>⟨rfl,⟨by omega,hB,h1,AN h2,by omega⟩,?_⟩) (λ_=>⟨rfl,⟨by omega,hB,h1,AN h2,by omega⟩,?_⟩)<;>(unfold JS;simp only;omega)
theorem asI:an 30 ME:=ao (bh []) func30 [(7,Vj)] (lc ami l0) (sp λx fx h=>sl (letI d:=((0:Int),(0:Int));letI e:=(4:Int)≠0;letI f:=Int.tmod x.2.1 (3:Int)==(0:Int);letI g:=(9:Int)≠0;letI h:=x.2.2;letI a:=(u32.wrap (u8.wrap ((BitVec.ofInt u8.bits (Int.fdiv x.2.1 (2^min (3:Int).toNat u8.bits))&&&BitVec.ofInt u8.bits h.1).toNat:Int)),u32.wrap (u8.wrap ((BitVec.ofInt u8.bits (Int.fdiv h.1 (2^min (2:Int).toNat u8.bits))&&&BitVec.ofInt u8.bits x.2.1).toNat:Int)));letI b:=(Int.tmod (i64.wrap (u8.wrap (Int.tdiv h.2.1 (4:Int)))) (9:Int),i64.wrap h.2.2.1);letI c:=Int.tmod h.2.1 (4:Int)==(0:Int);((3:Int)≠0)/\((f=true->((0<=(3:Int))/\((0<=(2:Int))/\(e/\((c=true->(e/\(g/\(vj x ((0:Int),a,b,[])/\sJ (x.1,(Y3 x).2)))))/\(c=false->(vj x ((0:Int),a,d,[])/\sJ (x.1,(Yy x).2))))))))/\(f=false->(e/\((c=true->(e/\(g/\vj x (0,d,b,[])/\sJ (x.1,(vI x (0,d,b,[])).2))))/\(c=false->vj x (0,d,d,[])/\sJ (x.1,(vI x (0,d,d,[])).2))))))) (by
 try dsimp only[Ty.den]at*
 obtain⟨hB,h1⟩:=h;have hp: ∀y,sJ (x.1,y):=λy=>⟨hB.fl.1,hB.fl.2,hB.cn.1,hB.cn.2⟩
 have hin: ∀a b,vj x ((0:Int),a,b,[]):=λa b=>⟨au8 _,hB,h1,rfl,by show(0:Int)<=8;decide⟩
 repeat' (first|decide|exact hp _|exact hin _ _|apply And.intro|intro _)))
theorem Wf:an 104 Xl:=ao (bh []) func104 [] l0 (λ_ _ _=>tr)
theorem XV:an 257 Yd:=ao (bh []) func257 [] l0 (λ_ _ _=>tr)
theorem ZY:an 261 ZX:=ao (bh []) func261 [] l0 (λ_ _ _=>tr)
def UC:LS aw.den:=aD (Ty.pair ab Ns) ab [(0,none),(14,some 36)] [] [(15,none)] [] [] [] [] 0 true DB Ei DT
theorem al4:bu f58 MG [0] UC:=have E:=ai @DB.eq_1<|ai @DT.eq_1<|ai @Ei.eq_1 SN;lA (bh []) [] l0 (λk x fk fx h=>sm (decide (x<36)=true->0<=x/\x<36))
theorem asv:an 58 MG:=have E:=ai @DB.eq_1 SN;ao (bh []) func58 [(4,UC)] (lc al4 l0) (λx fx _=>sl ((x.1<1||x.1>16)=false->DB (x.1,x.2.2) 0))
theorem anM:an 105 aae:=ao (bh []) func105 [] l0 (λ_ _ _=>tr)
theorem YC:an 107 YK:=ao (bh []) func107 [] l0 (λ_ _ _=>tr)
theorem aqM:an 108 Yg:=ao (bh []) func108 [] l0 (λ_ _ _=>tr)
theorem an3:an 145 Wo:=ao (bh []) func145 [] l0 (λ_ _ _=>tr)
theorem anr:an 146 Zg:=have E:=SN;ao (bh []) func146 [] l0 (λx fx _=>sl ((x.2.2 !=1&&x.2.2 !=2)=false->0<=x.2.2/\x.2.2<3))
theorem acT:an 66 aaL:=ao (bh []) func66 [] l0 (λ_ _ _=>tr)
theorem atK:dL 86 Mq:=dU (bh [(999999,[5])]) func86 [] l0 (sp λx fx h=>sl (letI a:=bg;(x= []->True/\([],())=(WI x,()))/\(List.length (([]:List a):List a)+List.length (x:List a))*296<=140737488355328/\List.length (([]:List a):List a)+List.length (x:List a)<=4611686018427387903) (by
 try dsimp only[Ty.den]at*
 have h:x.length<=100000:=h;exact nZ h))
theorem arI:dL 88 My:=dU (bh [(999999,[5])]) func88 [] l0 (sp λx fx h=>sl (letI a:=iA;(x= []->True/\([],())=(([]:List a)++x,()))/\(List.length (([]:List a):List a)+List.length (x:List a))*112<=140737488355328/\List.length (([]:List a):List a)+List.length (x:List a)<=4611686018427387903) (by
 try dsimp only[Ty.den]at*
 have h:x.length<=100000:=h;exact nZ h))
theorem asj:dL 89 MF:=dU (bh [(999999,[5])]) func89 [] l0 (sp λx fx h=>sl ((x= []->True/\([],())=(([]:List Int)++x,()))/\(List.length (([]:List Int):List Int)+List.length (x:List Int))*8<=140737488355328/\List.length (([]:List Int):List Int)+List.length (x:List Int)<=4611686018427387903) (by
 try dsimp only[Ty.den]at*
 have h:x.length<=100000:=h;exact nZ h))
theorem as2:dL 94 Ni:=dU (bh [(999999,[5])]) func94 [] l0 (sp λx fx h=>sl (letI a:=af;(x= []->True/\([],())=(([]:List a)++x,()))/\(List.length (([]:List a):List a)+List.length (x:List a))*8<=140737488355328/\List.length (([]:List a):List a)+List.length (x:List a)<=4611686018427387903) (by
 try dsimp only[Ty.den]at*
 have h:x.length<=100000:=h;exact nZ h))
theorem atp:dL 87 Mz:=dU (bh [(999999,[5])]) func87 [] l0 (sp λx fx h=>sl (letI a:=Int×Int×Int×List (ax)×iu;(x= []->True/\([],())=(([]:List a)++x,()))/\(List.length (([]:List a):List a)+List.length (x:List a))*64<=140737488355328/\List.length (([]:List a):List a)+List.length (x:List a)<=4611686018427387903) (by
 try dsimp only[Ty.den]at*
 have h:x.length<=100000:=h;exact nZ h))
theorem as6:an 95 abO:=ao (bh [(999999,[5])]) func95 [] l0 (sp λx fx h=>sl (letI a:=ax;(x= []->True/\ []=([]:List a)++x)/\(List.length (([]:List a):List a)+List.length (x:List a))*24<=140737488355328/\List.length (([]:List a):List a)+List.length (x:List a)<=4611686018427387903) (by
 try dsimp only[Ty.den]at*
 have h:x.length<=100000:=h;exact afx h))
theorem aoh:an 168 Xz:=ao (bh []) func168 [] l0 (λ_ _ _=>tr)
theorem ap9:an 238 aac:=have E:=SN;ao (bh []) func238 [] l0 (λx fx _=>sl ((x.2==32)=false->(x.2==33)=false->(x.2==34)=false->(x.2==35)=false->(x.2>=0&&x.2<32)=true->0<=x.2))
theorem aqI:an 239 Xx:=have E:=SN;ao (bh []) func239 [] l0 (λx fx _=>sl (letI a:=x.2.1;(a==32)=false->(a==33)=false->(a==34)=false->(a==35)=false->(a>=0&&a<32)=true->0<=a/\(x.2.2=true->0<=a)))
theorem apA:an 207 XG:=ao (bh []) func207 [] l0 (λ_ _ _=>tr)
theorem anC:an 171 Wq:=ao (bh []) func171 [] l0 (λ_ _ _=>tr)
def Rd:LS (Ty.pair fW aw).den:=aD (Ty.pair ab (Ty.pair fW (Ty.pair ab aU))) (Ty.pair fW ab) [(1,none),(11,none),(12,none)] [(5,2)] [(8,none),(13,none)] [] [(0,100300,true,191)] [] [(5,5)] 0 true Db rU rJ
theorem aiY:bu f240 Lh [0] Rd:=have E:=ai @Db.eq_1<|ai @rJ.eq_1<|ai @rU.eq_1 SN;lA (bh []) [] l0 (λk x fk fx h=>sm (letI b:=aa k.2.1 x.2;letI c:=i64.wrap (b.2.2+1);letI d:=ax;letI a:=([(b.1,b.2.1,c)]:List d);decide (x.2<k.2.2.1)=true->(0<=x.2/\x.2<k.2.1.length)/\(decide (c>k.1)=false->(!gg (k.2.2.2,b.1,b.2.1))=true->(List.length (x.1:List d)+List.length a)*24<=140737488355328/\List.length (x.1:List d)+List.length a<=4611686018427387903)))
theorem aoz:an 240 Lh:=have E:=ai @Db.eq_1<|ai @DF.eq_1 SN;ao (bh []) func240 [(3,Rd)] (lc aiY l0) (sp λx fx h=>sl (Db (x.2.1,x.1,x.1.length,x.2.2) ([],0)))
theorem asb:an 97 aas:=ao (bh []) func97 [] l0 (sp λx fx h=>sf (letI a:=Int.fdiv (u32.wrap (u32.wrap ((BitVec.ofInt u32.bits x&&&BitVec.ofInt u32.bits (u32.wrap (0-x))).toNat)*125613361)) (2^min (27:Int).toNat u32.bits);letI b:=x==0;(b=true->True)/\(b=false->0<=(27:Int)/\(0<=a/\a<32)/\True)) (by
 try dsimp only[Ty.den]at*
 simp only[vD]at h;refine⟨λ_=>trivial,λ_=>⟨by omega,?_,trivial⟩⟩;rw[d27,aw7];omega))
theorem aud:an 96 abu:=ao (bh []) func96 [] l0 (λ_ _ _=>tr)
theorem asV:an 98 acx:=ao (bh []) func98 [] l0 (sp λx fx h=>sf (letI a:=u32.wrap ((BitVec.ofInt u32.bits (Int.fdiv x (2^min (16:Int).toNat u32.bits))&&&BitVec.ofInt u32.bits (255:Int)).toNat:Int);letI b:=u32.wrap ((BitVec.ofInt u32.bits (Int.fdiv x (2^min (8:Int).toNat u32.bits))&&&BitVec.ofInt u32.bits (255:Int)).toNat:Int);letI c:=u32.wrap ((BitVec.ofInt u32.bits x&&&BitVec.ofInt u32.bits 255).toNat:Int);letI d:=Lib.pop8tab.size;letI e:=Int.fdiv x (2^min (24:Int).toNat u32.bits);0<=(24:Int)/\(0<=e/\e<d)/\0<=(16:Int)/\(0<=a/\a<d)/\0<=(8:Int)/\(0<=b/\b<d)/\(0<=c/\c<d)/\True) (by
 try dsimp only[Ty.den]at*
 simp only[oC]at h;have hs:((Lib.pop8tab).size:Int)=256:=by rw[ahX];rfl
 rw[hs,d24,d16,d8,Nd _ (by omega) (by omega),Nd _ (by omega) (by omega),Nd _ (by omega) (by omega)];refine⟨by omega,⟨by omega,by omega⟩,by omega,⟨by omega,by omega⟩,by omega,⟨by omega,by omega⟩,⟨by omega,by omega⟩,trivial⟩))
theorem asE:an 50 ade:=have E:=SN;ao (bh []) func50 [] l0 (λx fx _=>sl (letI a:=i64.wrap 0+1;letI b:=i64.wrap 0+2;letI c:=i64.wrap a+2;(x.1=true->(x.2.1=true->0<=c/\c<4)/\(x.2.1=false->0<=a/\a<4))/\(x.1=false->(x.2.1=true->0<=b/\b<4)/\(x.2.1=false->0<=(0:Int)/\(0:Int)<4))))
theorem ao8:an 173 Wt:=ao (bh []) func173 [] l0 (λ_ _ _=>tr)
theorem anZ:gE prog bD 174 K8:=akI (q:=JZ) rfl (λ_ h=>h)
theorem aqb:an 249 WE:=ao (bh []) func249 [] l0 (λ_ _ _=>tr)
theorem aoi:ea prog bD 252 XU:=SM (q:=Ku) rfl (λ_ h=>h)
theorem aq6:an 279 Xy:=have E:=ai @ma.eq_1 SN;ao (bh []) func279 [] l0 (sp λx fx h=>sl (0<=x.1.2.1/\x.1.2.1<x.1.1.1.length))
def Q6:LS aw.den:=aD (Ty.pair cX (Ty.pair ab bO)) ab [(6,none),(7,none)] [(1,4)] [(8,none)] [] [] [] [(1,1)] 0 true Cs IB IS
theorem ajB:bu f281 Lt [0] Q6:=have E:=ai @Cs.eq_1<|ai @IS.eq_1<|ai @IB.eq_1 SN;lA (bh []) [] l0 (λk x fk fx h=>sm (letI a:=aa k.1 x;decide (x<k.2.1)=true->(0<=x/\x<k.1.length)/\((a==1||a==2||a==3)=false->0<=x/\x<k.2.2.2.2.1.length)))
theorem ary:an 281 Lt:=have E:=ai @Cs.eq_1<|ai @zi.eq_1 SN;ao (bh []) func281 [(2,Q6)] (lc ajB l0) (sp λx fx h=>sl (Cs (x.1,x.1.length,x) 0))
theorem aqT:dL 282 KU:=dU (bh [(999999,[9])]) func282 [] l0 (λ_ _ _=>tr)
theorem aqH:dL 280 Lv:=dU (bh []) func280 [] l0 (λ_ _ _=>tr)
def TZ:LS aw.den:=aD (Ty.pair ab (Ty.pair dg ab)) ab [(1,none),(8,none),(9,none)] [] [(10,none)] [] [] [] [] 0 true Dq Jx Jz
theorem ajl:bu f254 KT [0] TZ:=have E:=ai @Dq.eq_1<|ai @Jz.eq_1<|ai @Jx.eq_1 SN;lA (bh []) [] l0 (λk x fk fx h=>sm (decide (x<k.2.2)=true->0<=x/\x<k.2.1.length))
theorem apa:an 254 KT:=have E:=ai @Dq.eq_1 SN;ao (bh []) func254 [(2,TZ)] (lc ajl l0) (λx fx _=>sl (Dq (x.2,x.1.2.2.2,x.1.2.2.2.length) 0))
theorem ank:an 216 Xv:=ao (bh []) func216 [] l0 (λ_ _ _=>tr)
theorem aqy:an 265 ZG:=ao (bh []) func265 [] l0 (λ_ _ _=>tr)
theorem aps:an 179 Yv:=ao (bh []) func179 [] l0 (λ_ _ _=>tr)
theorem aoX:ea prog bD 268 Ye:=SM (q:=Kd) rfl (λ_ h=>h)
theorem am8:an 256 XK:=ao (bh []) func256 [] l0 (λ_ _ _=>tr)
theorem aog:an 255 Wi:=ao (bh []) func255 [] l0 (λ_ _ _=>tr)
theorem aqw:an 221 YL:=have E:=ai @Kk.eq_1 SN;ao (bh []) func221 [] l0 (sp λx fx h=>sl ((0<=x/\x=x/\x*8<=140737488355328/\x<=4611686018427387903)/\0<=x/\x=x/\x*1<=140737488355328/\x<=4611686018427387903))
theorem ao7:jM 284 Ys:=qQ (bh []) func284 [] l0 (λ_ _ _=>tr)
theorem apL:an 300 WM:=ao (bh []) func300 [] l0 (λ_ _ _=>tr)
theorem ap2:an 301 Z3:=ao (bh []) func301 [] l0 (λ_ _ _=>tr)
theorem apZ:an 302 YV:=have E:=ai @vz.eq_1 SN;ao (bh []) func302 [] l0 (sp λx fx h=>sl ((0<=x.1)/\(0<=(1:Int))))
theorem aq7:an 303 Yp:=ao (bh []) func303 [] l0 (sp λx fx h=>sf (letI a:=Int.fdiv x (2^min (16:Int).toNat u32.bits);letI b:=2^min (8:Int).toNat u32.bits;letI c:=Lib.len8tab.size;letI d:=u8.wrap (Int.fdiv a b);letI e:=u8.wrap (Int.fdiv x b);letI f:=decide (x>=65536);letI g:=decide (a>=256);letI h:=decide (x>=256);letI i:=u8.wrap a;letI j:=u8.wrap x;letI l:=0<=(8:Int);(f=true->0<=(16:Int)/\(g=true->l/\(0<=d/\d<c)/\True)/\(g=false->(0<=i/\i<c)/\True))/\(f=false->(h=true->l/\(0<=e/\e<c)/\True)/\(h=false->(0<=j/\j<c)/\True))) (by
 try dsimp only[Ty.den]at*
 simp only[Ey]at h;have hs:((Lib.len8tab).size:Int)=256:=by rw[ahm];rfl
 simp only[hs,d16,d8,av6,adv,au0];repeat' (first|exact trivial|apply And.intro|intro _)
 all_goals omega))
def SH:=aD (Ty.pair cX ab) (Ty.pair ab (Ty.pair ab ab)) [(13,none),(14,none)] [] [(5,none),(6,none),(15,none)] [] [] [13] [] 0 false Cy um yI
theorem ak0:tH f304 [0] SH:=have E:=ai @Cy.eq_1<|ai @yI.eq_1<|ai @um.eq_1 SN;lP (bh []) [] l0 (λk x fk fx h=>sm (decide (x.2.2<k.2)=true->0<=x.2.2/\x.2.2<k.1.length))
theorem apC:jM 304 WU:=have E:=ai @Cy.eq_1<|ai @qe.eq_1 SN;qQ (bh []) func304 [(3,SH)] (lc ak0 l0) (afV λx h=>sl (letI a:=([x.2.2]:List Int);letI b:=(x.1:List Int);letI c:=x.1++ [x.2.2];((List.length b+List.length a)*8<=140737488355328/\List.length b+List.length a<=4611686018427387903)/\Cy (c,c.length) (0,x.2.1,0)))
theorem apY:an 299 YU:=ao (bh []) func299 [] l0 (λ_ _ _=>tr)
theorem anN:an 298 XL:=ao (bh []) func298 [] l0 (λ_ _ _=>tr)
theorem aqs:an 263 Wz:=have E:=SN;ao (bh []) func263 [] l0 (λx fx _=>sl (letI a:=aO;letI e:=x.2.2.2;letI b:=([(3,x.2.1,x.2.2.1,e.1,0)]:List a);letI c:=([(7,x.2.1,x.2.2.1,1,e.2.1)]:List a);letI d:=([(7,x.2.1,x.2.2.1,0,e.2.1)]:List a);letI f:=((x.1.2.2.2.1 !=e.2.1)||(x.1.2.2.2.2 !=e.2.2));letI g:=x.1.2.2.1 !=e.1;(f=true->((e.2.2=true->(((List.length ([]:List a)+List.length c)*40<=140737488355328/\List.length ([]:List a)+List.length c<=4611686018427387903)/\(g=true->(List.length c+List.length b)*40<=140737488355328/\List.length c+List.length b<=4611686018427387903)))/\(e.2.2=false->(List.length ([]:List a)+List.length d*40<=140737488355328/\List.length ([]:List a)+List.length d<=4611686018427387903)/\(g=true->(List.length d+List.length b)*40<=140737488355328/\List.length d+List.length b<=4611686018427387903))))/\(f=false->g=true->List.length ([]:List a)+List.length b*40<=140737488355328/\List.length ([]:List a)+List.length b<=4611686018427387903)))
theorem aov:an 231 Y7:=ao (bh []) func231 [] l0 (λ_ _ _=>tr)
theorem aoB:an 185 Yo:=ao (bh []) func185 [] l0 (λ_ _ _=>tr)
def Vy:LS aw.den:=aD (Ty.pair ab du) ab [(0,none)] [(3,41)] [(5,none)] [] [] [] [(3,3)] 0 true Er DO En
theorem aln:bu f45 ML [0] Vy:=have E:=ai @Er.eq_1<|ai @En.eq_1<|ai @DO.eq_1 SN;lA (bh []) [] l0 (λk x fk fx h=>sm (letI e:=k.2.2.2.2;letI c:=e.2.2.2.2.2;letI f:=c.2.2.2.2;letI a:=f.2.2.2.2.2;letI g:=a.2.2.2.2;letI b:=g.2.2.2.2.2;letI d:=b.2.2.2.2.2;decide (x<36)=true->(0<=x/\x<36)/\(decide (aa [k.2.2.1,k.2.2.2.1,e.1,e.2.1,e.2.2.1,e.2.2.2.1,e.2.2.2.2.1,c.1,c.2.1,c.2.2.1,c.2.2.2.1,f.1,f.2.1,f.2.2.1,f.2.2.2.1,f.2.2.2.2.1,a.1,a.2.1,a.2.2.1,a.2.2.2.1,g.1,g.2.1,g.2.2.1,g.2.2.2.1,g.2.2.2.2.1,b.1,b.2.1,b.2.2.1,b.2.2.2.1,b.2.2.2.2.1,d.1,d.2.1,d.2.2.1,d.2.2.2.1,d.2.2.2.2.1,d.2.2.2.2.2] x<0)=false->0<=x/\x<36)))
theorem atP:an 45 ML:=have E:=ai @Er.eq_1 SN;ao (bh []) func45 [(4,Vy)] (lc aln l0) (λx fx _=>sl ((x.1<1||x.1>16)=false->Er x 0))
theorem atn:an 46 aaq:=have E:=SN;ao (bh []) func46 [] l0 (λx fx _=>sl (letI a:=i64.wrap (x.2-32);letI b:=decide (x.2<32);(x.2<0||x.2>35)=false->(b=true->0<=u64.wrap x.2)/\(b=false->0<=a/\a<([x.1.2.1,x.1.2.2.1,x.1.2.2.2.1,x.1.2.2.2.2].length))))
theorem asN:an 47 aa6:=have E:=SN;ao (bh []) func47 [] l0 (λx fx _=>sl (letI a:=x.2.1>=0&&x.2.1<32;letI b:=0<=u64.wrap x.2.1;((a&&x.2.2)=true->b)/\((a&&x.2.2)=false->a=true->b)))
theorem arB:an 14 aaX:=ao (bh []) func14 [] l0 (λ_ _ _=>tr)
theorem asQ:an 17 ac1:=ao (bh []) func17 [] l0 (λ_ _ _=>tr)
theorem auh:an 18 acW:=ao (bh []) func18 [] l0 (λ_ _ _=>tr)
theorem arW:an 67 abI:=have E:=SN;ao (bh []) func67 [] l0 (λx fx _=>sl (letI a:=0<=u64.wrap x.1;letI b:=x.2==1;(x.1<0||x.1>31)=false->(b=true->a)/\(b=false->(x.2==2)=true->a)))
theorem aoQ:an 112 Wy:=have E:=SN;ao (bh []) func112 [] l0 (λx fx _=>sl (letI a:=u64.wrap x.2.1;letI b:=x.2.2==1;(x.2.1<0||x.2.1>31)=false->(b=true->0<=a)/\((b&&u32.wrap ((BitVec.ofInt u32.bits (Int.fdiv x.1.1 (2^min a.toNat u32.bits))&&&BitVec.ofInt u32.bits 1).toNat)==1)=false->(x.2.2==2)=true->0<=a)))
def SB:LS aw.den:=aD (Ty.pair cX (Ty.pair cX ab)) ab [(0,none),(1,none),(12,none)] [] [(13,none)] [] [] [] [] 0 true Ds IG Jg
theorem aj5:bu f113 L8 [0] SB:=have E:=ai @Ds.eq_1<|ai @Jg.eq_1<|ai @IG.eq_1 SN;lA (bh []) [] l0 (λk x fk fx h=>sm (decide (x<k.2.2)=true->(0<=x/\x<k.1.length)/\0<=x/\x<k.2.1.length))
theorem aqr:an 113 L8:=have E:=ai @Ds.eq_1 SN;ao (bh []) func113 [(4,SB)] (lc aj5 l0) (λx fx _=>sl (letI a:=(x.1.length:Int);(a !=x.2.length)=false->Ds (x.1,x.2,a) 0))
def TW:LS aw.den:=aD (Ty.pair fY (Ty.pair fY ab)) ab [(0,none),(1,none),(12,none)] [] [(13,none)] [] [] [] [] 0 true Dj IX Ji
theorem ajp:bu f114 LN [0] TW:=have E:=ai @Dj.eq_1<|ai @Ji.eq_1<|ai @IX.eq_1 SN;lA (bh []) [] l0 (λk x fk fx h=>sm (decide (x<k.2.2)=true->(0<=x/\x<k.1.length)/\0<=x/\x<k.2.1.length))
theorem anB:an 114 LN:=have E:=ai @Dj.eq_1 SN;ao (bh []) func114 [(4,TW)] (lc ajp l0) (λx fx _=>sl (letI a:=(x.1.length:Int);(a !=x.2.length)=false->Dj (x.1,x.2,a) 0))
def SJ:LS aw.den:=aD (Ty.pair dg (Ty.pair dg ab)) ab [(0,none),(1,none),(12,none)] [] [(13,none)] [] [] [] [] 0 true Dc IV Jn
theorem aiQ:bu f115 LW [0] SJ:=have E:=ai @Dc.eq_1<|ai @Jn.eq_1<|ai @IV.eq_1 SN;lA (bh []) [] l0 (λk x fk fx h=>sm (decide (x<k.2.2)=true->(0<=x/\x<k.1.length)/\0<=x/\x<k.2.1.length))
theorem aqS:an 115 LW:=have E:=ai @Dc.eq_1 SN;ao (bh []) func115 [(4,SJ)] (lc aiQ l0) (λx fx _=>sl (letI a:=(x.1.length:Int);(a !=x.2.length)=false->Dc (x.1,x.2,a) 0))
def aaB(nw:Bool):=(116,.pv L0)::(91,.pv Mx)::(92,.pv Np)::(93,.pv Mp)::(86,.pv Mq)::(88,.pv My)::(89,.pv MF)::(94,.pv Ni)::(87,.pv Mz)::(174,.pv K8)::(282,.pv KU)::(280,.pv Lv)::abG nw
theorem xW(nw:Bool):ga (aaB nw):=zc (z:= .pv L0) anv func116 (zc (z:= .pv Mx) atJ func91 (zc (z:= .pv Np) asW func92 (zc (z:= .pv Mp) as0 func93 (zc (z:= .pv Mq) atK func86 (zc (z:= .pv My) arI func88 (zc (z:= .pv MF) asj func89 (zc (z:= .pv Ni) as2 func94 (zc (z:= .pv Mz) atp func87 (zc (z:= .pv K8) anZ func174 (zc (z:= .pv KU) aqT func282 (zc (z:= .pv Lv) aqH func280 ((H7 nw)))))))))))))
def acG:=(284,Ys)::(304,WU)::aaU
theorem xK:ic acG:=pc ao7 func284 (pc apC func304 (xX))
def aaD:=(74,MD)::(147,XI)::(197,K2)::(53,acw)::(101,ZK)::(30,ME)::(104,Xl)::(257,Yd)::(261,ZX)::(58,MG)::(105,aae)::(107,YK)::(108,Yg)::(145,Wo)::(146,Zg)::(66,aaL)::(95,abO)::(168,Xz)::(238,aac)::(239,Xx)::(207,XG)::(171,Wq)::(240,Lh)::(97,aas)::(96,abu)::(98,acx)::(50,ade)::(173,Wt)::(249,WE)::(252,XU)::(279,Xy)::(281,Lt)::(254,KT)::(216,Xv)::(265,ZG)::(179,Yv)::(268,Ye)::(256,XK)::(255,Wi)::(221,YL)::(300,WM)::(301,Z3)::(302,YV)::(303,Yp)::(299,YU)::(298,XL)::(263,Wz)::(231,Y7)::(185,Yo)::(45,ML)::(46,aaq)::(47,aa6)::(14,aaX)::(17,ac1)::(18,acW)::(67,abI)::(112,Wy)::(113,L8)::(114,LN)::(115,LW)::ac2
theorem yF:cr aaD:=gc ate func74 (gc anL func147 (gc aoy func197 (gc ar8 func53 (gc an2 func101 (gc asI func30 (gc Wf func104 (gc XV func257 (gc ZY func261 (gc asv func58 (gc anM func105 (gc YC func107 (gc aqM func108 (gc an3 func145 (gc anr func146 (gc acT func66 (gc as6 func95 (gc aoh func168 (gc ap9 func238 (gc aqI func239 (gc apA func207 (gc anC func171 (gc aoz func240 (gc asb func97 (gc aud func96 (gc asV func98 (gc asE func50 (gc ao8 func173 (gc aqb func249 (gc aoi func252 (gc aq6 func279 (gc ary func281 (gc apa func254 (gc ank func216 (gc aqy func265 (gc aps func179 (gc aoX func268 (gc am8 func256 (gc aog func255 (gc aqw func221 (gc apL func300 (gc ap2 func301 (gc apZ func302 (gc aq7 func303 (gc apY func299 (gc anN func298 (gc aqs func263 (gc aov func231 (gc aoB func185 (gc atP func45 (gc atn func46 (gc asN func47 (gc arB func14 (gc asQ func17 (gc auh func18 (gc arW func67 (gc aoQ func112 (gc aqr func113 (gc anB func114 (gc aqS func115 (Jb))))))))))))))))))))))))))))))))))))))))))))))))))))))))))))
section
section
variable {b:ae} (hB:aR b)
include hB
theorem wF:nc b<=8/\1<=nc b:=⟨hB.cn.2,hB.cn.1⟩
theorem lB:b.aK.length<=maxLen:=by have h1:=hB.cn.2;grind [maxLen]
theorem OO(x:bm):(mD (b,x)).2.2.length=nc b:=by
 rw[Hn _ (wF hB).1];exact G0 _ _
theorem adP(x:bm):eP (b,mD (b,x))=(fp (bP (gJ (dz b) (zC b x))),0):=by
 have a:=alx hB (lB hB) x;rw[Hn _ (wF hB).1,Ko _ (lB hB) _ (by rw[<- Hn _ (wF hB).1,OO hB];grind [wF]) a.2];grind [jT]
theorem ad7(x:bm):(eP (b,mD (b,x))).1.size=14+19*nc b:=by
 rw[adP hB,Hf,jm,xF];show 12+19*(uP _ _).length+2=_;grind [G0]
theorem OP(y:iZ): ∃z,qS (b,y)=mD (b,z):=by
 unfold qS;cases(Int.tmod (b,y).2.1 3)==0<;>cases(Int.tmod (b,y).2.2.2.1 4)==0<;>exact⟨_,rfl⟩
theorem aet(y:iZ):(qS (b,y)).2.2.length=nc b:=by
 obtain⟨z,h⟩:=OP hB y;rw[h,OO hB]
theorem Ob(y:iZ):(eP (b,qS (b,y))).1.size=14+19*nc b:=by
 obtain⟨z,h⟩:=OP hB y;rw[h,ad7 hB]
end
theorem iC{l:List Int}(h:bV l)(i:Int):B6 (aa (aP ([0,0,0,0,0,0]:List Int) l) 0,aa (aP ([0,0,0,0,0,0]:List Int) l) 1,aa (aP ([0,0,0,0,0,0]:List Int) l) 2,aa (aP ([0,0,0,0,0,0]:List Int) l) 3,aa (aP ([0,0,0,0,0,0]:List Int) l) 4,aa (aP ([0,0,0,0,0,0]:List Int) l) 5):=by
 have hb:bV (aP ([0,0,0,0,0,0]:List Int) l):=by
  intro x a;unfold aP at a;rcases List.mem_append.1 a with a|a
  ·exact h x (awn a)
  grind
 have k: ∀j:Int,0<=aa (aP ([0,0,0,0,0,0]:List Int) l) j/\aa (aP ([0,0,0,0,0,0]:List Int) l) j<=255:=λj=>gY hb j.toNat
 exact⟨k 0,k 1,k 2,k 3,k 4,k 5⟩
theorem fr2{i:Int}(h:0<=i):0<=6*i:=by omega
theorem fr3{i n m:Int}(h0:0<=i)(h1:i<=n)(h2:n<=m)(h3:m<=1000):i64.wrap (6*i)=6*i:=aB (by omega) (by omega)
theorem ar7{α:Type}{l m:List α}{n:Int}(h:n<=l.length):n<=((l++m).length:Int):=by grind
theorem arZ{α:Type}(l:List α)(a:α):l.length+1<=((l++ [a]).length:Int):=by simp
theorem aua{i n m:Int}(h0:0<=i)(h1:i<=n)(h2:n<=m)(h3:m<=1000):i64.wrap (i+1)=i+1:=aB (by omega) (by omega)
theorem cH{i:Int}(h0:0<=i):0<=i+1:=by omega
theorem atl{i n m:Int}(h0:0<=i)(h1:i<=n)(h2:n<m)(h3:m<=1000):(1001 - (i+1)).toNat<(1001-i).toNat:=by omega
theorem fr4:(0:Int)<=4:=by decide
theorem fr5{n m:Nat}(h:n=14+19*m):1<=n:=by omega
theorem fr6{n m:Nat}(h:n=14+19*m)(a:m<=8):n<=1000:=by omega
theorem fr7{j:Int}(h0:0<=j)(h1:j<=4):(5 - (j+1)).toNat<(5-j).toNat:=by omega
theorem fr8{α:Type}{l m:List α}{n:Int}(h:l.length<n)(hm:m.length=1:=by rfl):((l++m).length:Int)<=n:=by grind
theorem fr9{j t:Int}(h0:0<=j)(h1:j<=t)(h2:t<=3):i64.wrap (j+1)=j+1/\0<=j+1/\j+1<=4:=⟨aB (by omega) (by omega),by omega,by omega⟩
theorem O6{l:List Int}(h:bV l)(a b:Int):bV (bt l a b):=λx f=>h x (awn (aws f))
end
def pH(fl t:Int)(i:Nat):gy:=(100,2,6,5,1+t % 3,1+t/3 % 3,1+t/9 % 3,1+t/9 % 3+t/27 % 5,(i+t) % fl)
def iI(fl t:Int)(n i:Nat):List gy:=(List.range n).map (λj=>if j<i then pH fl t j else tR fl j)
theorem Dw(fl t:Int)(n i:Nat):(iI fl t n i).length=n:=by simp[iI]
def jE(fl t:Int)(n i:Nat):ae:=(fl,1,4000,30,4591870180066957722,4605380978949069210,4607632778762754458,iI fl t n i)
def yY(fl t:Int)(n:Nat):ae:=(fl,1,4000,1+t % 7,4591870180066957722,4605380978949069210,4607632778762754458,(List.range n).map (pH fl t))
theorem ag3(l:List gy)(i:Nat)(v:gy)(h:i<l.length):aa (aH fX l i v) i=v:=by
 show aa (l.set i v) i=v;rw[cc _ _ (by simp_all),List.getElem_set_self]
theorem af7(l:List gy)(i:Nat)(v w:gy):aH fX (aH fX l i v) i w=aH fX l i w:=by
 show(l.set i v).set i w=l.set i w;simp_all
theorem akk(fl t:Int)(n i:Nat)(h:i<n):aa (iI fl t n i) i=tR fl i:=by
 simp_all [iI,cc]
theorem akM(fl t:Int)(n i:Nat):aH fX (iI fl t n i) i (pH fl t i)=iI fl t n (i+1):=by
 show(iI fl t n i).set i (pH fl t i)=_;apply ay0;all_goals grind [iI]
theorem agO{x:af}(h:(0<=x.1/\x.1<=255)/\0<=x.2/\x.2<=255):
  jk x=yY (2+x.1 % 5) x.2 (1+x.1/5 % 3).toNat:=by
 obtain⟨a,t⟩:=x;simp only at h;have h1:i64.wrap (2+(i64.wrap (Int.tmod a 5)))=2+a % 5:=by grind [ua,IntKind.wrap_i64]
 have h2:i64.wrap (1+(i64.wrap (Int.tmod (u8.wrap (Int.tdiv a 5)) 3)))=((1+a/5 % 3).toNat:Int):=by grind [ua,HZ,IntKind.wrap_i64,IntKind.wrap_u8]
 have h7:i64.wrap (1+(i64.wrap (Int.tmod t 7)))=1+t % 7:=by grind [ua,IntKind.wrap_i64]
 unfold jk;simp only;rw[h1,h2,h7,Pu _ _ (by omega) (by omega)];generalize s:2+a % 5=fl;generalize u:(1+a/5 % 3).toNat=n;have w:=by omega
 have y:=by omega
 have m0:lh fl n=jE fl t n 0:=by simp[lh,jE,iI]
 have d0:Int.tmod t 3=t % 3:=avu h.2.1;have d3:u8.wrap (Int.tdiv t 3)=t/3:=by grind [Int.tdiv_eq_ediv_of_nonneg,IntKind.wrap_u8]
 have d9:u8.wrap (Int.tdiv t 9)=t/9:=by grind [Int.tdiv_eq_ediv_of_nonneg,IntKind.wrap_u8]
 have d27:u8.wrap (Int.tdiv t 27)=t/27:=by rw[axi h.2.1,av6];omega
 have m3:Int.tmod (t/3) 3=t/3 % 3:=avu (by omega);have k:Int.tmod (t/9) 3=t/9 % 3:=avu (by omega);have l:Int.tmod (t/27) 5=t/27 % 5:=avu (by omega);have c1:i64.wrap (1+(i64.wrap (Int.tmod t 3)))=1+t % 3:=by rw[d0];simp only[avj];omega
 have c2:i64.wrap (1+(i64.wrap (Int.tmod (u8.wrap (Int.tdiv t 3)) 3)))=1+t/3 % 3:=by rw[d3,m3];simp only[avj];omega
 have c3:i64.wrap (1+(i64.wrap (Int.tmod (u8.wrap (Int.tdiv t 9)) 3)))=1+t/9 % 3:=by rw[d9,k];simp only[avj];omega
 have c4:i64.wrap ((1+t/9 % 3)+(i64.wrap (Int.tmod (u8.wrap (Int.tdiv t 27)) 5)))=1+t/9 % 3+t/27 % 5:=by rw[d27,l];simp only[avj];omega
 have m: ∀i:Nat,i<n->yD t (i,jE fl t n i)=iI fl t n (i+1):=by
  intro i hi;have c5:Int.tmod (i64.wrap (i+i64.wrap t)) fl=(i+t) % fl:=by
   have f:i64.wrap t=t:=by simp only[avj];omega
   have g:i64.wrap (i+t)=i+t:=by simp only[avj];omega
   rw[f,g,avu (by omega)]
  have hl:i<(iI fl t n i).length:=by rw[Dw];exact hi
  have z: ∀v,i<(aH fX (iI fl t n i) i v).length:=by intro v;show i<(List.set _ _ _).length;rw[auz];exact hl
  simp only[yD,CA,C9,CQ,CW,jE];rw[akk _ _ _ _ hi];simp only[af7,ag3 _ _ _ hl,c1,c2,c3,c4,c5,tR];exact akM fl t n i
 have hs: ∀i,i<n-> ∃k',se t ((λi:Nat=>((i:Int),jE fl t n i)) i)= .next k' ((λi:Nat=>((i:Int),jE fl t n i)) (i+1)):=by
  intro i hi;refine⟨t,?_⟩;have f:decide (i<((jE fl t n i).2.2.2.2.2.2.2.length:Int))=true:=by
   show decide (i<((iI fl t n i).length:Int))=true;rw[Dw];simp;omega
  simp only[se,f,au3,pC hi (show n<=maxLen by simp[maxLen];omega)];rw[m i hi];simp only[jE]
 have hb:se t ((λi:Nat=>((i:Int),jE fl t n i)) n)= .brk t ((n:Int),jE fl t n n):=by
  have f:decide ((n:Int)<((jE fl t n n).2.2.2.2.2.2.2.length:Int))=false:=by
   show decide ((n:Int)<((iI fl t n n).length:Int))=false;rw[Dw];simp
  simp only[se,f,auw]
 have key:Le t (0,jE fl t n 0)=((n:Int),jE fl t n n):=by
  unfold Le;exact(kU _ n hs hb (by simp[Eg,jE,Dw])).1
 rw[m0,key];have g:iI fl t n n=(List.range n).map (pH fl t):=by
  unfold iI;apply azr;intro j o;rw[avf (List.mem_range.mp o)]
 simp only[jE,yY,g]
theorem Pq(fl t:Int)(n:Nat):(yY fl t n).aK.length=n:=by
 show((List.range n).map (pH fl t)).length=n;simp_all
theorem afu(fl t:Int)(n:Nat)(h:2<=fl/\fl<=32)(f:1<=n/\n<=8)(ht:0<=t/\t<=255):aR (yY fl t n) where
 fl:=h
 cn:=by simp_all [Pq]
 Gj:=by show 1<=1/\1<=16;decide
 Mu:=by show 1<=1+t % 7/\1+t % 7<=10000;omega
 eU:=by
  intro c a;have a:c∈(List.range n).map (pH fl t):=a;rw[List.mem_map]at a;obtain⟨i,hi,rfl⟩:=a;have h1:0<=(i+t) % fl:=aAt _ (by omega);have h2:(i+t) % fl<fl:=aA1 _ (by omega);grind [eF,pH,fL,yY]
 EN:=by kernel_rfl
 room:=by rw[Pq];show 18*(n:Int)+24<=4000/\4000<=65536;omega
theorem Gv{x:af}(h:(0<=x.1/\x.1<=255)/\0<=x.2/\x.2<=255):aR (jk x)/\(jk x).1<=6:=by
 rw[agO h];exact⟨afu _ _ _ (by omega) (by omega) (by omega),by show 2+x.1 % 5<=6;omega⟩
def sd(k:Int)(x:Int×ae):Prop:=0<=x.1/\x.2.2.2.2.2.2.2.2.length<=8
def sn(k:Int)(x:Int×ae):=(x.2.2.2.2.2.2.2.2.length-x.1).toNat
def qi(k:Int)(x:Int×ae):ak Int (Int×ae) ae:=letI a:=x.2.2.2.2.2;bif x.1<a.2.2.2.length then .next k (i64.wrap (x.1+1),x.2.1,x.2.2.1,x.2.2.2.1,x.2.2.2.2.1,a.1,a.2.1,a.2.2.1,aH fX a.2.2.2 x.1 (i64.wrap (1+i64.wrap (Int.tmod k (16:Int))),(aa a.2.2.2 x.1).2))else .brk k x
def Wm k x:=endOf qi k (Nat.succ (sn k x)) x
def tG(x:af):=(Wm x.2 (0,jk x)).2
def Y9(x:af):Prop:=(0<=x.1/\x.1<=255)/\0<=x.2/\x.2<=255
def uv(k:ByteArray×ae)(x:(List (aO))×Int):Prop:=0<=x.2/\x.2<=k.1.size/\k.1.size<=1000000000/\6*x.1.length=x.2
def uS(k:ByteArray×ae)(x:(List (aO))×Int):=(k.1.size-x.2).toNat
def m1(k:ByteArray×ae)(x:(List (aO))×Int):ak (ByteArray×ae) ((List (aO))×Int) ((List (aO))×Int):=letI a:=i64.wrap (x.2+6);letI b:=sP (k.2,ByteArray.extract k.1 (Int.toNat x.2) (Int.toNat a));bif a<=k.1.size then bif b.2 !=0 then .brk k x else .next k (x.1++ [b.1],a)else .brk k x
def al0 k x:=endOf m1 k (Nat.succ (uS k x)) x
def gA(x:ae×ByteArray):=al0 (x.2,x.1) ([],0)
def Kr(x:ae×ByteArray):Prop:=x.2.size<=1000000000
def bN(x:aq×af):=FP (x.1.2.2.2,(x.2.1,x.2.2,0,0,false),some 140)
def zt(x:aq×af):Prop:=x.1.2.2.2.length<=1000000
def wv(x:aq):aq:=((kS x.1).1,(mC x.2.1).1,(mC x.2.2.1).1,(wU x.2.2.2).1)
def UJ(x:aq):Prop:=x.1.length<=100000/\x.2.1.length<=100000/\x.2.2.1.length<=100000/\x.2.2.2.length<=100000
def EW(k:EU)(x:(List ByteArray)×dW):Prop:=0<=x.2.2/\x.2.2<=4/\1<=x.2.1.size/\x.2.1.size<=1000/\x.1.length<=k.1/\k.1<=1000/\B6 k.2
def zI(k:(EU))(x:((List ByteArray)×dW)):Nat:=(5-x.2.2).toNat
def lr(k:EU)(x:(List ByteArray)×dW):ak (EU) ((List ByteArray)×dW) (List ByteArray):=letI a:=dA (ByteArray.extract x.2.1 (Int.toNat 0) (Int.toNat (i64.wrap (x.2.1.size-1)))) (ByteArray.mk #[63]);letI b:=i64.wrap (x.2.2+1);bif x.2.2<=i64.wrap (Int.tmod k.2.2.2.2.2.2 (4:Int))&&x.1.length<k.1 then bif Int.tmod k.2.2.2.2.2.1 (23:Int)==5 then .next k (x.1++ [a],a,b)else .next k (x.1++ [x.2.1],x.2.1,b)else .brk k x
def wb k x:=endOf lr k (Nat.succ (zI k x)) x
def zY(k:(List Int)×Int×ae)(x:(List ByteArray)×Int):Prop:=letI a:=x.1.length;0<=x.2/\x.2<=a/\a<=k.2.1/\k.2.1<=1000/\bV k.1/\aR k.2.2
def E1(k:((List Int)×Int×ae))(x:((List ByteArray)×Int)):Nat:=(1001-x.2).toNat
def EC(k:(List Int)×Int×ae)(x:(List ByteArray)×Int):=letI a:=aP ([0,0,0,0,0,0]:List Int) (bt k.1 (i64.wrap (6*x.2)) k.1.length);qS (k.2.2,aa a 0,aa a 1,aa a 2,aa a 3,aa a 4,aa a 5)
def JO(k:(List Int)×Int×ae)(x:(List ByteArray)×Int):=letI a:=aP ([0,0,0,0,0,0]:List Int) (bt k.1 (i64.wrap (6*x.2)) k.1.length);wb (k.2.1,aa a 0,aa a 1,aa a 2,aa a 3,aa a 4,aa a 5) (x.1,(eP (k.2.2,EC k x)).1,0)
def vK(k:(List Int)×Int×ae)(x:(List ByteArray)×Int):ak ((List Int)×Int×ae) ((List ByteArray)×Int) (List ByteArray):=bif i64.wrap (6*x.2)<k.1.length&&x.1.length<k.2.1 then .next k ((JO k x).1,i64.wrap (x.2+1))else .brk k x
def acR k x:=endOf vK k (Nat.succ (E1 k x)) x
def F9(x:ae×(List Int)×Int):=(acR (x.2.1,x.2.2,x.1) ([],0)).1
def Fm(x:ae×(List Int)×Int):Prop:=aR x.1/\bV x.2.1/\0<=x.2.2/\x.2.2<=1000
def sA(g:Nat)(x:Int):=cnd (Nat.beq g 104) (z7 x) (cnd (Nat.beq g 257) (MM x) (cnd (Nat.beq g 261) (Fu x) (Ty.dflt aw)))
def Tg(k:(List Int)×(Option Nat)×Int)(x:Int):Prop:=0<=x/\k.2.2=k.1.length/\ ∃g,k.2.1=some g/\g∈ [104,257,261]
def yl(k:((List Int)×(Option Nat)×Int))(x:(Int)):Nat:=(k.2.2-x).toNat
def uo(k:(List Int)×(Option Nat)×Int)(x:Int):=bif x<k.2.2 then bif sA (Option.getD k.2.1 0) (aa k.1 x)then ak.ret x else ak.next k (i64.wrap (x+1))else ak.brk k x
def U1 k x:=bd uo k (Nat.succ (yl k x)) x
def Mr(x:(List Int)×Option Nat):=dq (U1 (x.1,x.2,x.1.length) 0) (λy=>y) (-1)
def UO(x:(List Int)×Option Nat):Prop:= ∃g,x.2=some g/\g∈ [104,257,261]
def F57(x:Int×bg×ae):=(lN (x.2.2.2.1,x.2.1),x.2.2)
def DC(k:Int×(List (ax))×Int×ae×bT)(x:Int):Prop:=0<=x/\k.2.2.1=k.2.1.length/\0<=k.1/\k.1<k.2.2.2.1.2.2.2.2.2.2.2.length/\k.2.1.length=k.2.2.2.2.2.2.2.1.length
def Es(k:Int×(List (ax))×Int×ae×bT)(x:Int):=(k.2.2.1-x).toNat
def yT(k:Int×(List (ax))×Int×ae×bT)(x:Int):=letI a:=aa k.2.1 x;bif x<k.2.2.1 then bif !nJ (k.2.2.2.1,a.1,a.2.1)|| !gL (a.2.2,0,(aa k.2.2.2.1.2.2.2.2.2.2.2 k.1).1)||x>0&&oL (aa k.2.2.2.2.2.2.2.1 (i64.wrap (x-1)),a)>=0 then ak.ret false else ak.next k (i64.wrap (x+1))else ak.brk k x
def Z1 k x:=bd yT k (Nat.succ (Es k x)) x
def fC(x:ae×Int×bT):=letI a:=x.2.2.2.2;letI b:=(a.2.1.length:Int);bif bZ x.1 !=0|| !gL (x.2.1,0,i64.wrap (x.1.2.2.2.2.2.2.2.length-1))|| !gL (x.2.2.1,-1,i64.wrap (x.1.1-1))|| !gL (x.2.2.2.1,0,3)|| !gL (a.1,0,3)|| !gL (a.2.2.1,0,1000000)||a.2.2.2&&b>0 then false else dq (Z1 (x.2.1,a.2.1,b,x.1,x.2.2) 0) (λy=>y) true
def Fi(x:ES):=bif x.1==0 then x.1==0&&(x.2.1==0&&(x.2.2.1==0&&(x.2.2.2.1==false&&x.2.2.2.2==0)))else x.1>=0&&x.1<=3&&FC x.2.1&&FC x.2.2.1&&FC x.2.2.2.2
def AI(x:jX):=letI a:=x.2.2;bif x.1<2||x.1>32||a.1<0||a.1>1000000||a.2<0||a.2>=x.1 then false else bif x.2.1==0 then a.2==0 else(acf (x.1,a.2,x.2.1)).2
def adn(g:Nat)(x:af):=cnd (Nat.beq g 66) (mE x) (Ty.dflt aw)
def V1(k:(Option Nat)×(List Int)×Int)(x:Int):Prop:=0<=x/\k.2.2=k.2.1.length/\k.1=some 66
def JU(k:((Option Nat)×(List Int)×Int))(x:(Int)):Nat:=(k.2.2-x).toNat
def zy(k:(Option Nat)×(List Int)×Int)(x:Int):=bif x<k.2.2 then bif !adn (Option.getD k.1 0) (x,aa k.2.1 x)then ak.ret false else ak.next k (i64.wrap (x+1))else ak.brk k x
def Wu k x:=bd zy k (Nat.succ (JU k x)) x
def Gt(x:(List Int)×Int×Option Nat):=letI a:=x.1.length;bif a !=x.2.1 then false else dq (Wu (x.2.2,x.1,a) 0) (λy=>y) true
def Lk(x:(List Int)×Int×Option Nat):Prop:=x.2.2=some 66
def VD(k:Int)(x:Int×aW):Prop:=0<=x.1/\k=x.2.2.2.2.1.length/\k<=100000/\ ∀d∈x.2.2.2.2.1,d.2.2.2.1.length<=100000
def Dy(k:(Int))(x:(Int×aW)):Nat:=(k-x.1).toNat
def vd(k:Int)(x:Int×aW):ak Int (Int×aW) aW:=letI b:=x.2.2.2;letI a:=aa b.2.1 x.1;bif x.1<k then .next k (i64.wrap (x.1+1),x.2.1,x.2.2.1,b.1,aH eL b.2.1 x.1 (a.1,a.2.1,a.2.2.1,F95 a.2.2.2.1,a.2.2.2.2),b.2.2)else .brk k x
def apK k x:=endOf vd k (Nat.succ (Dy k x)) x
def aqx(x:aW):=letI a:=x.2.2.2;apK ((qY a.1).1.length) (0,((kS x.1.1).1,(mC x.1.2.1).1,(mC x.1.2.2.1).1,(wU x.1.2.2.2).1),x.2.1,(wH x.2.2.1).1,(qY a.1).1,(wR a.2.1).1,(wS a.2.2.1).1,(kS a.2.2.2.1).1,(ND a.2.2.2.2.1).1,a.2.2.2.2.2)
def wV(x:aW):aW:=
 (aqx x).2
def YY(x:aW):Prop:=L1 x
def CV(k:(mf))(x:(Int×bg)):Prop:=(0:Int)<=x.1
def uT(k:mf)(x:Int×bg):=(36-x.1).toNat
def rO(k:mf)(x:Int×bg):ak (mf) (Int×bg) bg:=letI b:=x.1+1;letI c:=x.2.2;letI a:=i64.wrap (aa (tl c) x.1+1);bif x.1<36 then bif gK (k.2,x.1)==gK (x.2.1,x.1)then .next k (i64.wrap b,x.2.1,up c x.1 0)else bif aa (tl (up c x.1 a)) x.1==k.1 then .next k (i64.wrap b,oM (x.2.1,x.1,gK (k.2,x.1)),up (up c x.1 a) x.1 0)else .next k (i64.wrap b,x.2.1,up c x.1 a)else .brk k x
def VU k x:=endOf rO k (Nat.succ (uT k x)) x
def we(x:Int×bg×eT):=(VU (x.1,x.2.2) (0,x.2.1)).2
def ti(x:ae×kE):=letI a:=FloatKind.f64.format.order x.2.2 ((FloatKind.f64.format.sub x.1.2.2.2.2.2.2.1 4589168020290535424).getD 0);letI b:=FloatKind.f64.format.order x.2.2 ((FloatKind.f64.format.sub x.1.2.2.2.2.2.1 4589168020290535424).getD 0);letI c:=vU (x.1,x.2.2);letI d:=x.2.1;bif bZ x.1 !=0 then 0 else bif c !=0&&c<d then bif d==3 then bif b==some Ordering.gt||b==some Ordering.eq then d else c else bif d==4 then bif a==some Ordering.gt||a==some Ordering.eq then d else c else c else c
def A0(x:af):=bif AY x.1&&ra x.2==1&&qV x.2<x.1 then qV x.2 else -1
def EK(x:af):Prop:=0<=x.2/\x.2<=4294967295
def mK(x:jX):=AY x.1&&x.2.1>= -1&&x.2.1<x.1&&x.2.2.1>=0&&x.2.2.1<=3&&x.2.2.2>=0&&x.2.2.2<=3
def AM(x:aq):aq×Unit:=(((kS x.1).1,(mC x.2.1).1,(mC x.2.2.1).1,(wU x.2.2.2).1),())
def DS(x:aq):Prop:=x.1.length<=100000/\x.2.1.length<=100000/\x.2.2.1.length<=100000/\x.2.2.2.length<=100000
def MV(x:(aq×iu)×Int):=letI a:=aO;letI g:=(x.1,3);letI i:=(x.1,2);letI m:=Ag (x.1.2.2,262,(wi i).1);letI o:=x.1.2.1;letI e:=(([(6,0,0,o,0)]:List a),0);letI f:=(([(5,0,0,o,0)]:List a),0);letI p:=x.2==4&&jd i;letI q:=x.2==5&&jd g;letI r:=x.2==6&&jd g;letI s:=(x.1,4);letI t:=((wi g).1,0);letI u:=x.1.1;letI b:=Ag (M6 u,261,([(6,0,0,o,1)]:List a));letI h:=Ag (!aa u.2.1 o,262,(wi s).1);letI j:=x.2==8&&aa u.2.1 o;letI v:=x.2==2;letI w:=(x.1,0);letI n:=((wi w).1,0);letI y:=(x.1,1);letI l:=v&&jd y;letI z:=aa u.2.2.1 o;letI c:=x.2==7&&jd s&& !z;letI d:=v&&jd s&&z;bif x.2==1&&jd w then(Ag (M6 u,261,(wi y).1)).1 else bif l then bif l then n else bif d then e else bif p then t else bif q then m.1 else bif r then h.1 else bif c then b.1 else bif j then f else([],260)else bif x.2==3&&jd i then n else bif d then e else bif p then t else bif q then m.1 else bif r then h.1 else bif c then b.1 else bif j then f else([],260)
def Kq(x:(aq×iu)×Int):Prop:=letI a:=x.1.1;0<=x.1.2.1/\x.1.2.1<a.1.length/\a.2.1.length=a.1.length/\a.2.2.1.length=a.1.length
def Jq(k:(List Bool)×(List Int)×Int×aq)(x:(List (aO))×Int):Prop:=0<=x.2/\k.2.2.1=k.2.1.length/\k.2.2.1<=8/\k.2.2.2.2.2.1.length=k.2.1.length/\k.2.2.2.2.1.length=k.2.1.length/\k.1.length=k.2.1.length/\x.1.length<=3*x.2
def C3(k:(List Bool)×(List Int)×Int×aq)(x:(List (aO))×Int):=(k.2.2.1-x.2).toNat
def uE(k:(List Bool)×(List Int)×Int×aq)(x:(List (aO))×Int):ak ((List Bool)×(List Int)×Int×aq) ((List (aO))×Int) (List (aO)):=letI a:=x.1++ [(4,0,0,x.2,2)];letI b:=i64.wrap (x.2+1);letI d:=a++ [(6,0,0,x.2,0)];letI e:=(5,0,0,x.2,0);letI f:=aa k.2.2.2.2.1 x.2;letI g:=aa k.2.1 x.2;letI c:=g==4&&aa k.2.2.2.2.2.1 x.2;bif x.2<k.2.2.1 then bif !aa k.1 x.2||g !=1&& !c||MX (k.2.2.2,x.2)then .next k (x.1,b)else bif c then bif f then .next k (d++ [e],b)else .next k (d,b)else bif f then .next k (a++ [e],b)else .next k (a,b)else .brk k x
def amN k x:=endOf uE k (Nat.succ (C3 k x)) x
def lE(x:ae×aq×List Bool):=bif !cL (x.1,x.2.1)||(x.2.2.length:Int) !=x.1.2.2.2.2.2.2.2.length then[]else(amN (x.2.2,x.2.1.1,x.2.1.1.length,x.2.1) ([],0)).1
def mA(x:aq×Int):=letI a:=aa x.1.1 x.2;bif !qz x then false else a==0||a==1||a==4
def Ap(x:aq×Int):=letI a:=aa x.1.1 x.2;qz x&&(a==0||a==4)&& !aa x.1.2.1 x.2&& !aa x.1.2.2.1 x.2
def CE(k:(List (ax))×Int)(x:ax):Prop:=0<=x.1/\k.2=k.1.length
def I9(k:((List (ax))×Int))(x:(ax)):Nat:=(k.2-x.1).toNat
def JD(k:(List (ax))×Int)(x:ax):ak ((List (ax))×Int) (ax) (af):=bif x.1<k.2 then .next k (i64.wrap (x.1+1),gi (x.2,ia ((aa k.1 x.1).1,(aa k.1 x.1).2.1)))else .brk k x
def alb k x:=endOf JD k (Nat.succ (I9 k x)) x
def aaG(x:List (ax)):=(alb (x,x.length) (0,0,0)).2
def Dn(k:(List aX)×Int×(List aC)×Int)(x:ax):Prop:=0<=x.1/\k.2.2.2=k.2.2.1.length/\0<=k.2.1/\k.2.1<k.1.length
def JJ(k:(List aX)×Int×(List aC)×Int)(x:ax):=(k.2.2.2-x.1).toNat
def Ju(k:(List aX)×Int×(List aC)×Int)(x:ax):ak ((List aX)×Int×(List aC)×Int) (ax) (af):=letI a:=aa k.2.2.1 x.1;letI b:=i64.wrap (x.1+1);bif x.1<k.2.2.2 then bif a.2.2.1==k.2.1||a.2.2.1== -2&&(aa k.1 k.2.1).1 then .next k (b,gi (x.2,ia (a.1,a.2.1)))else .next k (b,x.2)else .brk k x
def amv k x:=endOf Ju k (Nat.succ (JJ k x)) x
def acA(x:ae×aq×(List aX)×Int):=letI a:=(x.1.2.2.2.2.2.2.2.length:Int);letI b:=x.2.2;bif !cL (x.1,x.2.1)||b.1.length !=a||b.2<0||b.2>=a then(0,0)else(amv (b.1,b.2,x.2.1.2.2.2,x.2.1.2.2.2.length) (0,0,0)).2
def JE(k:(List (af))×(List aX)×Int×ae)(x:Int×(List (af))×(List Bool)×af):Prop:=0<=x.1/\k.2.2.1=k.2.1.length/\k.2.2.1<=8/\k.1.length=k.2.1.length/\x.2.1.length=x.1/\x.2.2.1.length=x.1
def om(k:(List (af))×(List aX)×Int×ae)(x:Int×(List (af))×(List Bool)×af):=(k.2.2.1-x.1).toNat
def og(k:(List (af))×(List aX)×Int×ae)(x:Int×(List (af))×(List Bool)×af):ak ((List (af))×(List aX)×Int×ae) (Int×(List (af))×(List Bool)×af) (((List (af))×(List Bool)×af)×Int):=letI a:=ew (jH (k.2.2.2,aa k.2.1 x.1),x.2.2.2);letI b:=ew (a,aa k.1 x.1);bif x.1<k.2.2.1 then .next k (i64.wrap (x.1+1),x.2.1++ [a],x.2.2.1++ [!(b.1==0&&b.2==0)],gi (x.2.2.2,a))else .brk k x
def alo k x:=endOf og k (Nat.succ (om k x)) x
def ec(x:ae×(List aX)×List (af)):((List (af))×(List Bool)×af)×Int:=letI a:=(x.1.2.2.2.2.2.2.2.length:Int);letI b:=x.2.1.length;bif bZ x.1 !=0||b !=a||x.2.2.length !=a then(([],[],0,0),1)else((alo (x.2.2,x.2.1,b,x.1) (0,[],[],0,0)).2,0)
def wg(x:aq):aq:=((kS x.1).1,(mC x.2.1).1,(mC x.2.2.1).1,(wU x.2.2.2).1)
def Vk(x:aq):Prop:=x.1.length<=100000/\x.2.1.length<=100000/\x.2.2.1.length<=100000/\x.2.2.2.length<=100000
def C7(k:(List aX)×Int×ae)(x:ax):Prop:=0<=x.1/\k.2.1=k.1.length
def yh(k:(List aX)×Int×ae)(x:ax):=(k.2.1-x.1).toNat
def uH(k:(List aX)×Int×ae)(x:ax):ak ((List aX)×Int×ae) (ax) (List (aO)):=bif x.1<k.2.1 then .next k (i64.wrap (x.1+1),gi (x.2,jH (k.2.2,aa k.1 x.1)))else .brk k x
def DY k x:=endOf uH k (Nat.succ (yh k x)) x
def B2(k:(List aC)×ax)(x:(List (aO))×Int):Prop:=0<=x.2/\k.2.1=k.1.length/\x.1.length<=x.2/\k.2.1<=1000
def xP(k:(List aC)×ax)(x:(List (aO))×Int):=(k.2.1-x.2).toNat
def ug(k:(List aC)×ax)(x:(List (aO))×Int):ak ((List aC)×ax) ((List (aO))×Int) (List (aO)):=letI a:=aa k.1 x.2;letI b:=i64.wrap (x.2+1);bif x.2<k.2.1 then bif gg (k.2.2,a.1,a.2.1)then .next k (x.1++ [(2,a.1,a.2.1,0,0)],b)else .next k (x.1,b)else .brk k x
def Rv k x:=endOf ug k (Nat.succ (xP k x)) x
def cu(x:ae×aq×List aX):=letI a:=(x.2.2.length:Int);bif !cL (x.1,x.2.1)||a !=x.1.2.2.2.2.2.2.2.length then[]else(Rv (x.2.1.2.2.2,x.2.1.2.2.2.length,(DY (x.2.2,a,x.1) (0,0,0)).2) ([],0)).1
def Kx(x:ae×aq×List aX):Prop:=x.2.1.2.2.2.length<=1000
def Dt(k:(List aC)×ax)(x:Int):Prop:=0<=x/\k.2.1=k.1.length
def CX(k:((List (aC))×ax))(x:(Int)):Nat:=(k.2.1-x).toNat
def ni(k:(List aC)×ax)(x:Int):=bif x<k.2.1 then bif(qu (aa k.1 x,k.2.2)).1 then ak.ret (x,())else ak.next k (i64.wrap (x+1))else ak.brk k x
def KH k x:=bd ni k (Nat.succ (CX k x)) x
def pb(x:(List aC)×af):=dq (KH (x.1,x.1.length,x.2) 0) (λy=>y) (-1,())
def CG(k:(List aC)×Int)(x:ax):Prop:=0<=x.1/\k.2=k.1.length
def yp(k:((List (aC))×Int))(x:(ax)):Nat:=(k.2-x.1).toNat
def uR(k:(List aC)×Int)(x:ax):ak ((List aC)×Int) (ax) (af):=bif x.1<k.2 then .next k (i64.wrap (x.1+1),gi (x.2,ia ((aa k.1 x.1).1,(aa k.1 x.1).2.1)))else .brk k x
def VJ k x:=endOf uR k (Nat.succ (yp k x)) x
def Fs(x:List aC):=(VJ (x,x.length) (0,0,0)).2
def zr(x:Int×Int×Int×(ax)×af):=letI a:=kd (x.1,x.2.2.2.1);qV (u32.wrap ((BitVec.ofInt u32.bits (u32.wrap ((BitVec.ofInt u32.bits (u32.wrap ((BitVec.ofInt u32.bits (u32.wrap ((BitVec.ofInt u32.bits a.1|||BitVec.ofInt u32.bits a.2.1).toNat))|||BitVec.ofInt u32.bits a.2.2).toNat))|||BitVec.ofInt u32.bits (u32.wrap (1*2^min x.2.1.toNat u32.bits))).toNat))|||BitVec.ofInt u32.bits (u32.wrap (1*2^min x.2.2.2.2.1.toNat u32.bits))).toNat))
def sg(x:Int×Int×Int×(ax)×af):=letI a:=kd (x.1,x.2.2.2.1);Ae (u32.wrap ((BitVec.ofInt u32.bits (u32.wrap ((BitVec.ofInt u32.bits (u32.wrap ((BitVec.ofInt u32.bits (u32.wrap ((BitVec.ofInt u32.bits a.1|||BitVec.ofInt u32.bits a.2.1).toNat))|||BitVec.ofInt u32.bits a.2.2).toNat))|||BitVec.ofInt u32.bits (u32.wrap (1*2^min x.2.1.toNat u32.bits))).toNat))|||BitVec.ofInt u32.bits (u32.wrap (1*2^min x.2.2.2.2.1.toNat u32.bits))).toNat))
def sZ(x:Int×Int×Int×(ax)×af):=letI a:=i64.wrap (sg x-1);letI b:=x.2.2;letI c:=b.2.2;letI d:=b.1==1;letI e:=x.2.1;letI f:=zr x;bif !nK x.1||e<0||e>=x.1||b.1<0||b.1>2|| !vT (x.1,c)then -1 else bif b.1==0||b.1==c.2&&(d&&c.1>=e||b.1==2&&c.1<=e)then(mv ([],e,c.1)).1 else bif b.1 !=c.2&&d then(mv ([a],e,c.1)).1 else bif b.1 !=c.2 then(mv ([f],e,c.1)).1 else bif d then(mv ([a,f],e,c.1)).1 else(mv ([f,a],e,c.1)).1
def AK(x:af):=i64.wrap (ra x.1+ra x.2)
def D7(x:af):Prop:=(0<=x.1/\x.1<=4294967295)/\0<=x.2/\x.2<=4294967295
def FL(g:Nat)(x:(ax)×ax):=cnd (Nat.beq g 107) (oL x) (Ty.dflt ab)
def uL(k:(List (ax))×(Option Nat)×ax)(x:af):Prop:=0<=x.1/\x.1<=x.2/\x.2<=k.1.length/\k.1.length<=1000000/\k.2.1=some 107
def rT(k:((List (ax))×(Option Nat)×ax))(x:(af)):Nat:=(x.2-x.1).toNat
def rR(k:(List (ax))×(Option Nat)×ax)(x:af):ak ((List (ax))×(Option Nat)×ax) (af) (iu):=letI a:=i64.wrap (Int.fdiv (u64.wrap (i64.wrap (x.1+x.2))) (2^min (1:Int).toNat u64.bits));bif x.1<x.2 then bif FL (Option.getD k.2.1 0) (aa k.1 a,k.2.2)<0 then .next k (i64.wrap (a+1),x.2)else .next k (x.1,a)else .brk k x
def Ec k x:=endOf rR k (Nat.succ (rT k x)) x
def lF(x:(List (ax))×(ax)×Option Nat):=letI b:=x.1.length;letI a:=Ec (x.1,x.2.2,x.2.1) (0,b);(a.1,a.1<b&&FL (Option.getD x.2.2 0) (aa x.1 a.1,x.2.1)==0)
def U7(x:(List (ax))×(ax)×Option Nat):Prop:=x.1.length<=1000000/\x.2.2=some 107
def D3(k:(mf))(x:(Int×bg)):Prop:=(0:Int)<=x.1
def yP(k:mf)(x:Int×bg):=(36-x.1).toNat
def za(k:mf)(x:Int×bg):ak (mf) (Int×bg) (bg×Int):=letI a:=aa (tl x.2.2) x.1+1;letI b:=x.1+1;bif x.1<36 then bif nS (k.2,x.1)==nS (x.2.1,x.1)then .next k (i64.wrap b,x.2.1,up x.2.2 x.1 0)else bif i64.wrap a==k.1 then .next k (i64.wrap b,AX (x.2.1,x.1,nS (k.2,x.1)),up x.2.2 x.1 0)else .next k (i64.wrap b,x.2.1,up x.2.2 x.1 (i64.wrap a))else .brk k x
def LA k x:=endOf za k (Nat.succ (yP k x)) x
def lS(x:Int×bg×eT):bg×Int:=bif !AP (x.1,x.2.1)then(((0,false,false,false,false),0,0,0,0,0,0,0,0,0,0,0,0,0,0,0,0,0,0,0,0,0,0,0,0,0,0,0,0,0,0,0,0,0,0,0,0),1)else((LA (x.1,x.2.2) (0,x.2.1)).2,0)
def EA(k:(List (aC)))(x:(ax)):Prop:=(0:Int)<=x.1
def JY(k:List aC)(x:ax):=(k.length-x.1).toNat
def JV(k:List aC)(x:ax):ak (List aC) (ax) (af):=bif x.1<k.length then .next k (i64.wrap (x.1+1),iq (x.2,F67 ((aa k x.1).1,(aa k x.1).2.1)))else .brk k x
def aoo k x:=endOf JV k (Nat.succ (JY k x)) x
def F22(x:List aC):=(aoo x (0,0,0)).2
def oA(k:ax)(x:(List aC)×Int):Prop:=1<=x.2/\x.1.length<=2*k.1+x.2-1/\0<=k.1/\k.1<=32/\x.2<=3
def yS(k:ax)(x:(List aC)×Int):=(2-x.2+1).toNat
def yR(k:ax)(x:(List aC)×Int):ak (ax) ((List aC)×Int) (List aC):=letI a:=i64.wrap (x.2+1);bif x.2<=2 then bif Nj (k.2,k.1,x.2)then .next k (x.1++ [(k.1,x.2,-1,0,false)],a)else .next k (x.1,a)else .brk k x
def ap7 k x:=endOf yR k (Nat.succ (yS k x)) x
def Ee(k:af)(x:(List aC)×Int):Prop:=0<=x.2/\x.1.length<=2*x.2
def U0(k:af)(x:(List aC)×Int):=(32-x.2).toNat
def J7(k:af)(x:(List aC)×Int):ak (af) ((List aC)×Int) (List aC):=bif x.2<32 then .next k ((ap7 (x.2,k) (x.1,1)).1,i64.wrap (x.2+1))else .brk k x
def apb k x:=endOf J7 k (Nat.succ (U0 k x)) x
def F70(x:af):=(apb x ([],0)).1
def F71(x:aq×aq):=acJ (x.1.1,x.2.1)&&Mi (x.1.2.1,x.2.2.1)&&Mi (x.1.2.2.1,x.2.2.2.1)&&aaT (x.1.2.2.2,x.2.2.2.2)
def Mw:Ct:=⟨Ty.pair bB bB,[none,none],az,ah.one (some 8),some Y9,some 106,tG⟩
def LQ:Ct:=⟨Ty.pair az bK,[some 8,none],Ty.pair dF ab,ah.tup [none,none],some Kr,some 213,gA⟩
def WV:Ct:=⟨Ty.pair bO (Ty.pair ab ab),[some 4,none,none],Ty.pair ab aw,ah.tup [none,none],some zt,none,bN⟩
def ZV:Ct:=⟨bO,[some 4],bO,ah.one (some 4),some UJ,none,wv⟩
def Gu:Ct:=⟨Ty.pair az (Ty.pair qx ab),[some 8,none,none],oX,ah.one none,some Fm,some 9,F9⟩
def K3:Ct:=⟨Ty.pair cX Fg,[none,none],ab,ah.one none,some UO,none,Mr⟩
def abb:Cp:=⟨Ty.pair ab (Ty.pair du az),[none,some 41],[false,false,true],[8],true,false,az,aw,ah.one none,none,F57,none,undef⟩
def Nb:Ct:=⟨Ty.pair az (Ty.pair ab eL),[some 8,none,some 6],aw,ah.one none,none,none,fC⟩
def Zf:Ct:=⟨EO,[some 5],aw,ah.one none,none,none,Fi⟩
def Zk:Ct:=⟨Ty.pair ab Mc,[none,some 3],aw,ah.one none,none,none,AI⟩
def Ml:Ct:=⟨Ty.pair AA (Ty.pair ab LO),[none,none,none],aw,ah.one none,some Lk,none,Gt⟩
def No:Ct:=⟨fB,[some 16],fB,ah.one (some 16),some YY,none,wV⟩
def L3:Ct:=⟨Ty.pair ab (Ty.pair du jg),[none,some 41,some 5],du,ah.one (some 41),none,none,we⟩
def Xu:Ct:=⟨Ty.pair az (Ty.pair jw sT),[some 8,some 1,none],jw,ah.one (some 1),none,none,ti⟩
def adl:Ct:=⟨Ty.pair ab jI,[none,none],ab,ah.one none,some EK,none,A0⟩
def ado:Ct:=⟨Ty.pair ab jf,[none,some 3],aw,ah.one none,none,none,mK⟩
def La:Cv:=⟨bO,[some 4],[.v],[],false,[],Ty.unit,bO,ah.one (some 4),[(0,true,3),(1,true,4),(2,true,4),(3,true,93)],some DS,AM,false⟩
def ZI:Ct:=⟨Ty.pair E7 ab,[some 6,none],Ty.pair dF bI,ah.tup [none,none],some Kq,some 213,MV⟩
def Ll:Ct:=⟨Ty.pair az (Ty.pair bO fY),[some 8,some 4,none],dF,ah.one none,none,none,lE⟩
def Xa:Ct:=⟨Ty.pair bO ab,[some 4,none],aw,ah.one none,none,none,mA⟩
def XC:Ct:=⟨Ty.pair bO ab,[some 4,none],aw,ah.one none,none,none,Ap⟩
def LL:Ct:=⟨fW,[none],aU,ah.one (some 2),none,none,aaG⟩
def LG:Ct:=⟨Ty.pair az (Ty.pair bO (Ty.pair gw ab)),[some 8,some 4,none,none],aU,ah.one (some 2),none,none,acA⟩
def Lr:Ct:=⟨Ty.pair az (Ty.pair gw oN),[some 8,none,none],Ty.pair vQ bI,ah.tup [some 4,none],none,none,ec⟩
def Z6:Ct:=⟨bO,[some 4],bO,ah.one (some 4),some Vk,none,wg⟩
def EX:Ct:=⟨Ty.pair az (Ty.pair bO gw),[some 8,some 4,none],dF,ah.one none,some Kx,none,cu⟩
def E4:Cv:=⟨Ty.pair dg (Ty.pair ab ab),[none],[.v,.c 284 2],[1,1],true,[],Ty.unit,ab,ah.one none,[],none,pb,false⟩
def LK:Ct:=⟨dg,[none],aU,ah.one (some 2),none,none,Fs⟩
def Zw:Ct:=⟨Ty.pair ab (Ty.pair ab (Ty.pair ab (Ty.pair sD (Ty.pair ab ab)))),[none,none,none,some 3,none,none],ab,ah.one none,none,none,sZ⟩
def W4:Ct:=⟨aU,[some 2],ab,ah.one none,some D7,none,AK⟩
def Lc:Ct:=⟨Ty.pair fW (Ty.pair gx zO),[none,some 3,none],Ty.pair ab aw,ah.tup [none,none],some U7,none,lF⟩
def MS:Ct:=⟨Ty.pair ab (Ty.pair du jg),[none,some 41,some 5],Ty.pair du bI,ah.tup [some 41,none],none,none,lS⟩
def MW:Ct:=⟨dg,[none],aU,ah.one (some 2),none,none,F22⟩
def Fl:Ct:=⟨aU,[some 2],dg,ah.one none,none,some 93,F70⟩
def acz:Ct:=⟨Ty.pair bO bO,[some 4,some 4],aw,ah.one none,none,none,F71⟩
def UQ:LS az.den:=aD bB (Ty.pair ab az) [(1,none)] [] [(6,none)] [(5,8)] [(8,100308,true,106)] [] [(5,5)] 0 false sd qi sn
theorem Vp(k:bB.den)(x:(Ty.pair ab az).den)(fk:Fit bB k)(h:sd k x):aJ false sd sn k x (qi k x):=by
 try dsimp only[Ty.den]at*
 simp only[sd,Fit,maxLen]at h fk;unfold qi
 (repeat' (first|exact rfl|(refine aJ.cnd (λhc=> ?_) (λhc=> ?_)<;>(try simp only[avj,av6,aw7,avy,avc,axe,aH,aP,bt,aE,au5,avl,avo,auz,awi,avt,avs,adv,au0,av9,au4,au1,av2,avr,avi,axf,ayb,aw0,awm,axp,ne_eq]at hc))|refine aJ.opt (λ_=> ?_)))<;>(first|exact rfl|(refine⟨rfl,?_,?_⟩<;>simp only[sd,sn,jm,mO,extract_size,pL,IF,avj,av6,aw7,avy,BX,Ci,avc,axe,aH,aP,bt,aE,au5,avl,avo,auz,awi,avt,avs,adv,au0,av9,au4,au1,av2,avr,avi,axf,ayb,aw0,awm,axp,ne_eq]<;>first|omega|(and_intros<;>first|omega|exact h.1|exact h.2|exact h.2.1|exact h.2.2|exact h.2.2.1|exact h.2.2.2|exact h.2.2.2.1|exact h.2.2.2.2|exact h.2.2.2.2.1|exact h.2.2.2.2.2|exact h.2.2.2.2.2.1|exact h.2.2.2.2.2.2)))
def cg(z:List (Nat×List Nat)):=dB (xW true) xK cY yF z
theorem ald:bu f28 Mw [0] UQ:=have E:=ai @sd.eq_1 SN;lA (cg []) [] l0 (λk x fk fx h=>sm (letI a:=x.2.2.2.2.2.2.2.2.length;decide (x.1<a)=true->(16:Int)≠0/\0<=x.1/\x.1<a)) Vp
theorem asd:an 28 Mw:=ao (cg []) func28 [(3,UQ)] (lc ald l0) (sp λx fx h=>sl (K7 x/\sd x.2 (0,jk x)) (by
 try dsimp only[Ty.den]at*
 have h15:=Gv h;exact⟨h,au8 _,h15.1.cn.2⟩))
def Rg:LS (Ty.pair dF ab).den:=aD (Ty.pair bK az) (Ty.pair dF ab) [(1,none)] [(2,8)] [(6,none),(7,none)] [] [(0,100300,true,213)] [] [(2,2)] 0 false uv m1 uS
theorem akm:bu f117 LQ [0] Rg:=have E:=ai @uv.eq_1 SN;lA (cg []) [] l0 (λk x fk fx h=>sm (letI b:=i64.wrap (x.2+6);letI a:=sP (k.2,ByteArray.extract k.1 (Int.toNat x.2) (Int.toNat b));letI c:=aO;letI d:=k.1.size;letI e:=([a.1]:List c);decide (b<=d)=true->(0<=x.2/\x.2<=b/\b<=d)/\((a.2 !=0)=false->(List.length (x.1:List c)+List.length e)*40<=140737488355328/\List.length (x.1:List c)+List.length e<=4611686018427387903))) λk x fk h=>by
 try dsimp only[Ty.den]at*
 unfold uv at h;unfold m1;refine aJ.cnd (λhc=> ?_) (λ_=>rfl);rw[adv]at hc;have e:i64.wrap (x.2+6)=x.2+6:=aB (by omega) (by omega);rw[e]at hc⊢;refine aJ.cnd (λ_=>rfl) (λ_=>⟨rfl,?_,?_⟩)
 ·unfold uv
  simp only[au5,avl,avo];omega
 ·unfold uS
  simp only;omega
theorem aqn:an 117 LQ:=have E:=ai @uv.eq_1<|ai @Kr.eq_1 SN;ao (cg []) func117 [(3,Rg)] (lc akm l0) (sp λx fx h=>sl (uv (x.2,x.1) ([],0)))
theorem apx:an 148 WV:=have E:=ai @zt.eq_1<|ai @Km.eq_1 SN;ao (cg []) func148 [] l0 (sp λx fx h=>sl (Km (x.1.2.2.2,(x.2.1,x.2.2,0,0,false),some 140)))
theorem an7:an 100 ZV:=ao (cg []) func100 [] l0 (sp λx fx h=>sl (sI x.1/\oD x.2.1/\oD x.2.2.1/\zD x.2.2.2) (by
 exact h))
def L4:LS oX.den:=aD (Ty.pair ab sB) (Ty.pair oX (Ty.pair bK ab)) [(2,none)] [(9,6)] [(7,none),(10,none),(12,none)] [] [(0,100900,true,9)] [] [(9,9)] 2 false EW lr zI
def Zy:LS oX.den:=aD (Ty.pair qx (Ty.pair ab az)) (Ty.pair oX ab) [(1,none),(2,none)] [(3,8)] [(7,none),(8,none)] [] [(0,100300,true,9)] [] [(3,3)] 0 false zY vK E1
theorem ZT(k:(Ty.pair ab sB).den)(x:(Ty.pair oX (Ty.pair bK ab)).den)(fk:Fit (Ty.pair ab sB) k)(h:EW k x):aJ false EW zI k x (lr k x):=by
 try dsimp only[Ty.den]at*
 obtain⟨h0,h1,h2,h3,h4,h5,h6⟩:=h;unfold lr;refine aJ.cnd (λhc=> ?_) (λ_=>rfl);rw[au4,adv,adv]at hc;obtain⟨c1,c2⟩:=hc;obtain⟨r1,r2,r3⟩:=fr9 h0 c1 (tm4 h6.2.2.2.2.2).2;rw[r1];refine aJ.cnd (λ_=>⟨rfl,⟨r2,r3,?_,?_,fr8 c2,h5,h6⟩,?_⟩) (λ_=>⟨rfl,⟨r2,r3,h2,h3,fr8 c2,h5,h6⟩,?_⟩)
 ·simp only[adj h2 h3];exact h2
 ·simp only[adj h2 h3];exact h3
 ·exact fr7 h0 h1
 ·exact fr7 h0 h1
theorem aoq:bu f9 Gu [0,0] L4:=lA (cg []) [] l0 (λk x fk fx h=>sl (letI c:=(x.1:List ByteArray);letI e:=Int.tmod k.2.2.2.2.2.1 23==5;letI f:=([x.2.1]:List ByteArray);letI g:=x.2.1.size;letI b:=i64.wrap (g-1);letI a:=ByteArray.extract x.2.1 (Int.toNat 0) (Int.toNat b);letI h:=ByteArray.mk #[63];letI d:=([dA a h]:List ByteArray);(4:Int)≠0/\((x.2.2<=i64.wrap (Int.tmod k.2.2.2.2.2.2 4)&&x.1.length<k.1)=true->(23:Int)≠0/\(e=true->(0<=(0:Int)/\0<=b/\b<=g)/\((ByteArray.size a):Int)+((ByteArray.size h))<=9223372036854775807/\(List.length c+List.length d)*16<=140737488355328/\List.length c+List.length d<=4611686018427387903)/\(e=false->(List.length c+List.length f)*16<=140737488355328/\List.length c+List.length f<=4611686018427387903))) (by
 try dsimp only[Ty.den]at*
 obtain⟨h0,h1,h2,h3,h4,h5,h6⟩:=h;exact⟨by decide,λ_=>⟨by decide,λ_=>⟨atQ h2 h3,ar9 h2 h3,abW h4 h5⟩,λ_=>abW h4 h5⟩⟩)) ZT
theorem Wj(k:(Ty.pair qx (Ty.pair ab az)).den)(x:(Ty.pair oX ab).den)(fk:Fit (Ty.pair qx (Ty.pair ab az)) k)(h:zY k x):aJ false zY E1 k x (vK k x):=by
 try dsimp only[Ty.den]at*
 obtain⟨h0,h1,h3,h4,h5,h6⟩:=h;unfold vK;refine aJ.cnd (λhc=> ?_) (λ_=>rfl);rw[au4,adv,adv]at hc;obtain⟨c1,c2⟩:=hc;have r1:=fr3 h0 h1 h3 h4;have key: ∀(iC:iZ) (s:ByteArray),B6 iC->1<=s.size->s.size<=1000->((x.1.length:Int)+1<=((wb (k.2.1,iC) (x.1,s,(0:Int))).1.length:Int))/\((wb (k.2.1,iC) (x.1,s,(0:Int))).1.length:Int)<=k.2.1:=λiC s hs s1 s2=>by
  have hb: ∀(y:List ByteArray×dW) k' z,lr (k.2.1,iC) y= .brk k' z->z=y:=λy k' z hz=>by
   unfold lr at hz;revert hz
   unfold cond;split
   ·split<;>intro hz<;>cases hz
   ·intro hz;cases hz;rfl
  have hI:=oe (λy hy=>ZT (k.2.1,iC) y ⟨trivial,trivial,trivial,trivial,trivial,trivial,trivial⟩ hy) hb (Nat.succ (zI (k.2.1,iC) (x.1,s,(0:Int)))) (x.1,s,(0:Int)) ⟨au8 _,fr4,s1,s2,h3,h4,hs⟩;refine⟨?_,hI.2.2.2.2.1⟩;have hone: ∃s',lr (k.2.1,iC) (x.1,s,(0:Int))= .next (k.2.1,iC) (x.1++ [s'],s',(1:Int)):=by
   have hc:((decide ((0:Int)<=(i64.wrap (Int.tmod iC.2.2.2.2.2 (4:Int)))))&&(decide (((x.1).length:Int)<k.2.1)))=true:=by
    rw[au4,adv,adv];exact⟨(tm4 hs.2.2.2.2.2).1,c2⟩
   unfold lr;simp only[hc,au3];cases(Int.tmod iC.2.2.2.2.1 (23:Int))==(5:Int)
   ·exact⟨_,rfl⟩
   ·exact⟨_,rfl⟩
  obtain⟨s',hone⟩:=hone;have fq:wb (k.2.1,iC) (x.1,s,(0:Int))=endOf lr (k.2.1,iC) (zI (k.2.1,iC) (x.1,s,(0:Int))) (x.1++ [s'],s',(1:Int)):=by
   unfold wb;show endOf lr _ (Nat.succ _) _=_;rw[endOf,hone]
  rw[fq];exact ir (step:=lr) (k:=(k.2.1,iC)) (I:=λy=>(x.1.length:Int)+1<=(y.1.length:Int)) (λy k' z hy hz=>by
   unfold lr at hz;revert hz
   unfold cond;split
   ·split<;>intro hz<;>cases hz<;>exact ar7 hy
   ·intro hz;cases hz) (λy k' z hy hz=>by rw[hb y k' z hz];exact hy) _ _ (arZ x.1 s')
 have hs:B6 ((aa (aP ([(0:Int),(0:Int),(0:Int),(0:Int),(0:Int),(0:Int)]:List Int) (bt k.1 (6*x.2) (k.1.length:Int))) (0:Int)),(aa (aP ([(0:Int),(0:Int),(0:Int),(0:Int),(0:Int),(0:Int)]:List Int) (bt k.1 (6*x.2) (k.1.length:Int))) (1:Int)),(aa (aP ([(0:Int),(0:Int),(0:Int),(0:Int),(0:Int),(0:Int)]:List Int) (bt k.1 (6*x.2) (k.1.length:Int))) (2:Int)),(aa (aP ([(0:Int),(0:Int),(0:Int),(0:Int),(0:Int),(0:Int)]:List Int) (bt k.1 (6*x.2) (k.1.length:Int))) (3:Int)),(aa (aP ([(0:Int),(0:Int),(0:Int),(0:Int),(0:Int),(0:Int)]:List Int) (bt k.1 (6*x.2) (k.1.length:Int))) (4:Int)),(aa (aP ([(0:Int),(0:Int),(0:Int),(0:Int),(0:Int),(0:Int)]:List Int) (bt k.1 (6*x.2) (k.1.length:Int))) (5:Int))):=iC (O6 h5 (6*x.2) (k.1.length:Int)) 0;have hz:=Ob h6 ((aa (aP ([(0:Int),(0:Int),(0:Int),(0:Int),(0:Int),(0:Int)]:List Int) (bt k.1 (6*x.2) (k.1.length:Int))) (0:Int)),(aa (aP ([(0:Int),(0:Int),(0:Int),(0:Int),(0:Int),(0:Int)]:List Int) (bt k.1 (6*x.2) (k.1.length:Int))) (1:Int)),(aa (aP ([(0:Int),(0:Int),(0:Int),(0:Int),(0:Int),(0:Int)]:List Int) (bt k.1 (6*x.2) (k.1.length:Int))) (2:Int)),(aa (aP ([(0:Int),(0:Int),(0:Int),(0:Int),(0:Int),(0:Int)]:List Int) (bt k.1 (6*x.2) (k.1.length:Int))) (3:Int)),(aa (aP ([(0:Int),(0:Int),(0:Int),(0:Int),(0:Int),(0:Int)]:List Int) (bt k.1 (6*x.2) (k.1.length:Int))) (4:Int)),(aa (aP ([(0:Int),(0:Int),(0:Int),(0:Int),(0:Int),(0:Int)]:List Int) (bt k.1 (6*x.2) (k.1.length:Int))) (5:Int)));have h8:=(wF h6).1;have hk:=key ((aa (aP ([(0:Int),(0:Int),(0:Int),(0:Int),(0:Int),(0:Int)]:List Int) (bt k.1 (6*x.2) (k.1.length:Int))) (0:Int)),(aa (aP ([(0:Int),(0:Int),(0:Int),(0:Int),(0:Int),(0:Int)]:List Int) (bt k.1 (6*x.2) (k.1.length:Int))) (1:Int)),(aa (aP ([(0:Int),(0:Int),(0:Int),(0:Int),(0:Int),(0:Int)]:List Int) (bt k.1 (6*x.2) (k.1.length:Int))) (2:Int)),(aa (aP ([(0:Int),(0:Int),(0:Int),(0:Int),(0:Int),(0:Int)]:List Int) (bt k.1 (6*x.2) (k.1.length:Int))) (3:Int)),(aa (aP ([(0:Int),(0:Int),(0:Int),(0:Int),(0:Int),(0:Int)]:List Int) (bt k.1 (6*x.2) (k.1.length:Int))) (4:Int)),(aa (aP ([(0:Int),(0:Int),(0:Int),(0:Int),(0:Int),(0:Int)]:List Int) (bt k.1 (6*x.2) (k.1.length:Int))) (5:Int))) (eP (k.2.2,qS (k.2.2,(aa (aP ([(0:Int),(0:Int),(0:Int),(0:Int),(0:Int),(0:Int)]:List Int) (bt k.1 (6*x.2) (k.1.length:Int))) (0:Int)),(aa (aP ([(0:Int),(0:Int),(0:Int),(0:Int),(0:Int),(0:Int)]:List Int) (bt k.1 (6*x.2) (k.1.length:Int))) (1:Int)),(aa (aP ([(0:Int),(0:Int),(0:Int),(0:Int),(0:Int),(0:Int)]:List Int) (bt k.1 (6*x.2) (k.1.length:Int))) (2:Int)),(aa (aP ([(0:Int),(0:Int),(0:Int),(0:Int),(0:Int),(0:Int)]:List Int) (bt k.1 (6*x.2) (k.1.length:Int))) (3:Int)),(aa (aP ([(0:Int),(0:Int),(0:Int),(0:Int),(0:Int),(0:Int)]:List Int) (bt k.1 (6*x.2) (k.1.length:Int))) (4:Int)),(aa (aP ([(0:Int),(0:Int),(0:Int),(0:Int),(0:Int),(0:Int)]:List Int) (bt k.1 (6*x.2) (k.1.length:Int))) (5:Int))))).1 hs (fr5 hz) (fr6 hz h8);have hK:JO k x=wb (k.2.1,(aa (aP ([(0:Int),(0:Int),(0:Int),(0:Int),(0:Int),(0:Int)]:List Int) (bt k.1 (6*x.2) (k.1.length:Int))) (0:Int)),(aa (aP ([(0:Int),(0:Int),(0:Int),(0:Int),(0:Int),(0:Int)]:List Int) (bt k.1 (6*x.2) (k.1.length:Int))) (1:Int)),(aa (aP ([(0:Int),(0:Int),(0:Int),(0:Int),(0:Int),(0:Int)]:List Int) (bt k.1 (6*x.2) (k.1.length:Int))) (2:Int)),(aa (aP ([(0:Int),(0:Int),(0:Int),(0:Int),(0:Int),(0:Int)]:List Int) (bt k.1 (6*x.2) (k.1.length:Int))) (3:Int)),(aa (aP ([(0:Int),(0:Int),(0:Int),(0:Int),(0:Int),(0:Int)]:List Int) (bt k.1 (6*x.2) (k.1.length:Int))) (4:Int)),(aa (aP ([(0:Int),(0:Int),(0:Int),(0:Int),(0:Int),(0:Int)]:List Int) (bt k.1 (6*x.2) (k.1.length:Int))) (5:Int))) (x.1,(eP (k.2.2,qS (k.2.2,(aa (aP ([(0:Int),(0:Int),(0:Int),(0:Int),(0:Int),(0:Int)]:List Int) (bt k.1 (6*x.2) (k.1.length:Int))) (0:Int)),(aa (aP ([(0:Int),(0:Int),(0:Int),(0:Int),(0:Int),(0:Int)]:List Int) (bt k.1 (6*x.2) (k.1.length:Int))) (1:Int)),(aa (aP ([(0:Int),(0:Int),(0:Int),(0:Int),(0:Int),(0:Int)]:List Int) (bt k.1 (6*x.2) (k.1.length:Int))) (2:Int)),(aa (aP ([(0:Int),(0:Int),(0:Int),(0:Int),(0:Int),(0:Int)]:List Int) (bt k.1 (6*x.2) (k.1.length:Int))) (3:Int)),(aa (aP ([(0:Int),(0:Int),(0:Int),(0:Int),(0:Int),(0:Int)]:List Int) (bt k.1 (6*x.2) (k.1.length:Int))) (4:Int)),(aa (aP ([(0:Int),(0:Int),(0:Int),(0:Int),(0:Int),(0:Int)]:List Int) (bt k.1 (6*x.2) (k.1.length:Int))) (5:Int))))).1,(0:Int)):=by
  unfold JO EC;rw[r1]
 rw[hK];have e:i64.wrap (x.2+1)=x.2+1:=aua h0 h1 h3 h4;rw[e];exact⟨rfl,⟨cH h0,aw2 (Int.add_le_add_right h1 1) hk.1,hk.2,h4,h5,h6⟩,atl h0 h1 c2 h4⟩
theorem aqO:bu f9 Gu [0] Zy:=lA (cg []) [(9,L4)] (lc aoq l0) (λk x fk fx h=>sl (letI b:=i64.wrap (6*x.2);letI c:=(k.1.length:Int);letI a:=aP ([0,0,0,0,0,0]:List Int) (bt k.1 b c);letI d:=(k.2.2,EC k x);letI e:=aa a 0;letI f:=aa a 1;letI g:=aa a 2;letI h:=aa a 3;letI i:=aa a 4;letI j:=aa a 5;(b<c&&x.1.length<k.2.1)=true->(0<=b/\b<=c/\c<=c)/\Z2 (k.2.2,e,f,g,h,i,j)/\zX d/\EW (k.2.1,e,f,g,h,i,j) (x.1,(eP d).1,0)) (by
 try dsimp only[Ty.den]at*
 obtain⟨h0,h1,h3,h4,h5,h6⟩:=h;intro hc;rw[au4,adv,adv]at hc;obtain⟨c1,c2⟩:=hc;have r1:=fr3 h0 h1 h3 h4;rw[r1]at c1⊢;have hs:B6 (aa _ 0,aa _ 1,aa _ 2,aa _ 3,aa _ 4,aa _ 5):=iC (O6 h5 (6*x.2) (k.1.length:Int)) 0;have hz:=Ob h6 (aa (aP ([(0:Int),(0:Int),(0:Int),(0:Int),(0:Int),(0:Int)]:List Int) (bt k.1 (6*x.2) (k.1.length:Int))) 0,aa (aP ([(0:Int),(0:Int),(0:Int),(0:Int),(0:Int),(0:Int)]:List Int) (bt k.1 (6*x.2) (k.1.length:Int))) 1,aa (aP ([(0:Int),(0:Int),(0:Int),(0:Int),(0:Int),(0:Int)]:List Int) (bt k.1 (6*x.2) (k.1.length:Int))) 2,aa (aP ([(0:Int),(0:Int),(0:Int),(0:Int),(0:Int),(0:Int)]:List Int) (bt k.1 (6*x.2) (k.1.length:Int))) 3,aa (aP ([(0:Int),(0:Int),(0:Int),(0:Int),(0:Int),(0:Int)]:List Int) (bt k.1 (6*x.2) (k.1.length:Int))) 4,aa (aP ([(0:Int),(0:Int),(0:Int),(0:Int),(0:Int),(0:Int)]:List Int) (bt k.1 (6*x.2) (k.1.length:Int))) 5);have hn:=aet h6 (aa (aP ([(0:Int),(0:Int),(0:Int),(0:Int),(0:Int),(0:Int)]:List Int) (bt k.1 (6*x.2) (k.1.length:Int))) 0,aa (aP ([(0:Int),(0:Int),(0:Int),(0:Int),(0:Int),(0:Int)]:List Int) (bt k.1 (6*x.2) (k.1.length:Int))) 1,aa (aP ([(0:Int),(0:Int),(0:Int),(0:Int),(0:Int),(0:Int)]:List Int) (bt k.1 (6*x.2) (k.1.length:Int))) 2,aa (aP ([(0:Int),(0:Int),(0:Int),(0:Int),(0:Int),(0:Int)]:List Int) (bt k.1 (6*x.2) (k.1.length:Int))) 3,aa (aP ([(0:Int),(0:Int),(0:Int),(0:Int),(0:Int),(0:Int)]:List Int) (bt k.1 (6*x.2) (k.1.length:Int))) 4,aa (aP ([(0:Int),(0:Int),(0:Int),(0:Int),(0:Int),(0:Int)]:List Int) (bt k.1 (6*x.2) (k.1.length:Int))) 5);have h8:=(wF h6).1;unfold EC;rw[r1];refine⟨⟨fr2 h0,aBn c1,au8 _⟩,⟨h6,hs⟩,?_,au8 _,fr4,?_,?_,h3,h4,hs⟩
 ·exact auv (ax4 hn) (auv h8 (by decide))
 ·exact fr5 hz
 ·exact fr6 hz h8)) Wj
theorem ok9:an 9 Gu:=ao (cg []) func9 [(9,L4),(3,Zy)] (lc aqO l0) (sp λx fx h=>sl (zY (x.2.1,x.2.2,x.1) ([],0)) (by
 try dsimp only[Ty.den]at*
 obtain⟨hB,hl,h0,h1⟩:=h;exact⟨au8 _,au8 _,h0,h1,hl,hB⟩))
def T3:Fv:={p:=ab,ay:= [none],r:=aw,ar:=ah.one none,fs:= [104,257,261],F:=sA}
theorem afW:qy (some T3):=BI (λg hg=>by
 simp only[T3,av3,ayi,aBo]at hg;rcases hg with rfl|rfl|rfl
 ·exact⟨Wf,_,func104,by kernel_rfl,by kernel_rfl⟩
 ·exact⟨XV,_,func257,by kernel_rfl,by kernel_rfl⟩
 ·exact⟨ZY,_,func261,by kernel_rfl,by kernel_rfl⟩)
def Rj:LS ab.den:=aD (Ty.pair cX (Ty.pair Fg ab)) ab [(0,none),(1,none),(7,none)] [] [(8,none)] [] [] [] [] 0 true Tg uo yl
def Zv(z:List (Nat×List Nat)):=dB (xW true) xK afW yF z
theorem akz:bu f141 K3 [0] Rj:=lA (Zv []) [] l0 (λk x fk fx h=>sl (decide (x<k.2.2)=true->(0<=x/\x<k.1.length)/\(∃g,k.2.1=some g/\g∈ [104,257,261])) (by
 try dsimp only[Ty.den]at*
 obtain⟨h0,h1,h2⟩:=h;intro hc;rw[adv]at hc;exact⟨⟨h0,h1▸hc⟩,h2⟩)) λk x fk h=>by
 try dsimp only[Ty.den]at*
 obtain⟨h0,h1,h2⟩:=h;unfold uo;refine aJ.cnd (λhc=> ?_) (λ_=>rfl);rw[adv]at hc;have e:=cC h0 (h1▸hc) fk.1.1;repeat' (first|exact rfl|refine aJ.cnd (λ_=> ?_) (λ_=> ?_))
 all_goals(rw[e];exact⟨rfl,⟨cH h0,h1,h2⟩,cI hc⟩)
theorem aqq:an 141 K3:=ao (Zv []) func141 [(2,Rj)] (lc akz l0) (sp λx fx h=>sl (Tg (x.1,x.2,x.1.length) 0) (by
 try dsimp only[Ty.den]at*
 exact⟨au8 _,rfl,h⟩))
theorem ath:jM 57 abb:=qQ (cg []) func57 [] l0 (λ_ _ _=>tr)
def U8:LS aw.den:=aD (Ty.pair ab (Ty.pair fW (Ty.pair ab (Ty.pair az eL)))) ab [(1,none),(59,none),(60,none)] [(3,8),(5,6)] [(61,none)] [] [] [] [(3,3),(5,5)] 0 true DC yT Es
theorem aly:bu f61 Nb [0] U8:=have E:=ai @DC.eq_1<|ai @Es.eq_1<|ai @yT.eq_1 SN;lA (cg []) [] l0 (λk x fk fx h=>sm (letI b:=i64.wrap (x-1);letI c:=aa k.2.1 x;letI a:= !(nJ (k.2.2.2.1,c.1,c.2.1));letI d:=k.2.2.2.1.2.2.2.2.2.2.2;decide (x<k.2.2.1)=true->((0<=x/\x<(k.2.1.length:Int))/\((a=false->0<=k.1/\k.1<(d.length:Int))/\((a|| !gL (c.2.2,0,(aa d k.1).1))=false->decide (x>0)=true->0<=b/\b<k.2.2.2.2.2.2.2.1.length)))))
theorem atw:an 61 Nb:=have E:=ai @DC.eq_1<|ai @gL.eq_1 SN;ao (cg []) func61 [(4,U8)] (lc aly l0) (λx fx _=>sl (letI a:=x.2.2.2.2;letI b:=(a.2.1.length:Int);(((((((bZ x.1 !=0)||(!gL (x.2.1,0,i64.wrap (x.1.2.2.2.2.2.2.2.length-1))))|| !gL (x.2.2.1,-1,i64.wrap (x.1.1-1)))|| !gL (x.2.2.2.1,0,3))|| !gL (a.1,0,3))|| !gL (a.2.2.1,0,1000000))||a.2.2.2&&b>0)=false->DC (x.2.1,a.2.1,b,x.1,x.2.2) 0))
theorem aox:an 109 Zf:=ao (cg []) func109 [] l0 (λ_ _ _=>tr)
theorem aqg:an 110 Zk:=ao (cg []) func110 [] l0 (λ_ _ _=>tr)
def Vi:Fv:={p:=Ty.pair ab jw,ay:= [none,some 1],r:=aw,ar:=ah.one none,fs:= [66],F:=adn}
theorem ahi:qy (some Vi):=BI (λg hg=>by
 simp only[Vi,av3,ayi,aBo]at hg;rcases hg with rfl
 ·exact⟨acT,_,func66,by kernel_rfl,by kernel_rfl⟩)
def UM:LS aw.den:=aD (Ty.pair LO (Ty.pair AA ab)) ab [(2,none),(13,none),(14,none)] [] [(15,none)] [] [] [] [] 0 true V1 zy JU
def Yc(z:List (Nat×List Nat)):=dB (xW true) xK ahi yF z
theorem alQ:bu f65 Ml [0] UM:=lA (Yc []) [] l0 (λk x fk fx h=>sl (decide (x<k.2.2)=true->(0<=x/\x<k.2.1.length)/\(∃g,k.1=some g/\g∈ [66])) (by
 try dsimp only[Ty.den]at*
 obtain⟨h0,h1,h2⟩:=h;intro hc;rw[adv]at hc;exact⟨⟨h0,h1▸hc⟩,_,h2,by simp⟩)) λk x fk h=>by
 try dsimp only[Ty.den]at*
 obtain⟨h0,h1,h2⟩:=h;unfold zy;refine aJ.cnd (λhc=> ?_) (λ_=>rfl);rw[adv]at hc;have e:=cC h0 (h1▸hc) fk.2.1.1;repeat' (first|exact rfl|refine aJ.cnd (λ_=> ?_) (λ_=> ?_))
 all_goals(rw[e];exact⟨rfl,⟨cH h0,h1,h2⟩,cI hc⟩)
theorem ar5:an 65 Ml:=ao (Yc []) func65 [(4,UM)] (lc alQ l0) (sp λx fx h=>sl (letI a:=x.1.length;(a !=x.2.1)=false->V1 (x.2.2,x.1,a) 0) (by
 try dsimp only[Ty.den]at*
 intro _;exact⟨au8 _,rfl,h⟩))
def Vs:LS fB.den:=aD ab (Ty.pair ab fB) [(54,none)] [] [(55,none)] [(1,16)] [(1,100501,true,3),(2,100502,true,4),(3,100503,true,4),(4,100504,true,93),(8,100508,true,70),(9,100509,true,142),(10,100510,true,153),(11,100511,true,158),(12,100512,true,3),(13,100513,true,51)] [] [(1,1)] 0 false VD vd Dy
theorem aml:bu f44 No [0] Vs:=lA (cg []) [] l0 (λk x fk fx h=>sl (letI a:=0<=x.1/\x.1<x.2.2.2.2.1.length;decide (x.1<k)=true->a/\Xo (aa x.2.2.2.2.1 x.1).2.2.2.1/\a) (by
 try dsimp only[Ty.den]at*
 obtain⟨h0,h1,h2,h3⟩:=h;intro hc;rw[adv]at hc;have r:=gR h0 (h1▸hc);exact⟨r,gI h3 r,r⟩)) λk x fk h=>by
 try dsimp only[Ty.den]at*
 obtain⟨h0,h1,h2,h3⟩:=h;unfold vd;refine aJ.cnd (λhc=> ?_) (λ_=>rfl);rw[adv]at hc;have e:=sL h0 hc h2;have r:=gR h0 (h1▸hc);rw[e];refine⟨rfl,⟨cH h0,?_,h2,?_⟩,cI hc⟩
 ·simp only[aH,auz];exact h1
 ·simp only[aH]
  exact Sf (p:=λd:bT=>d.2.2.2.1.length<=100000) h3 (gI (p:=λd:bT=>d.2.2.2.1.length<=100000) h3 r)
theorem arA:an 44 No:=ao (cg []) func44 [(5,Vs)] (lc aml l0) (sp λx fx h=>sl (letI a:=x.2.2.2;letI b:=a.2.2;letI c:=x.1.2;sI x.1.1/\(oD c.1/\(oD c.2.1/\(zD c.2.2/\(Lj x.2.2.1/\(KO a.2.1/\(KV b.1/\sI b.2.1/\WR b.2.2.1/\Lb a.1/\VD ((qY a.1).1.length) (0,((kS x.1.1).1,(mC c.1).1,(mC c.2.1).1,(wU c.2.2).1),x.2.1,(wH x.2.2.1).1,(qY a.1).1,(wR a.2.1).1,(wS b.1).1,(kS b.2.1).1,(ND b.2.2.1).1,b.2.2.2)))))))) (by
 try dsimp only[Ty.den]at*
 obtain⟨⟨i1,i2,i3,i4⟩,c,⟨b1,b2⟩,d,e,f,g⟩:=h;exact⟨i1,i2,i3,i4,c,d,e,f,g,b1,au8 _,rfl,ot b1,b2⟩))
def S9:LS du.den:=aD (Ty.pair ab jg) (Ty.pair ab du) [(0,none)] [(5,5)] [(9,none)] [(4,41)] [] [] [(4,4),(5,5)] 0 false CV rO uT
theorem akl:bu f206 L3 [0] S9:=have E:=ai @CV.eq_1<|ai @uT.eq_1<|ai @rO.eq_1 SN;lA (cg []) [] l0 (λk x fk fx h=>sm (letI a:=0<=x.1/\x.1<36;letI b:=gK (k.2,x.1)==gK (x.2.1,x.1);decide (x.1<36)=true->((b=true->a)/\(b=false->(a/\a/\a/\((aa (tl (up x.2.2 x.1 (i64.wrap (aa (tl x.2.2) x.1+1)))) x.1==k.1)=true->a))))))
theorem apI:an 206 L3:=have E:=ai @CV.eq_1 SN;ao (cg []) func206 [(2,S9)] (lc akl l0) (λx fx _=>sl (CV (x.1,x.2.2) (0,x.2.1)))
theorem anh:an 170 Xu:=ao (cg []) func170 [] l0 (λx fx _=>sf (letI d:=FloatKind.f64.format.sub x.1.2.2.2.2.2.2.1 (4589168020290535424:Nat);letI a:=FloatKind.f64.format.order x.2.2 (d.getD 0);letI e:=FloatKind.f64.format.sub x.1.2.2.2.2.2.1 (4589168020290535424:Nat);letI b:=FloatKind.f64.format.order x.2.2 (e.getD 0);letI f:=b==some Ordering.gt||b==some Ordering.eq;letI g:=a==some Ordering.gt||a==some Ordering.eq;letI h:=bZ x.1 !=0;letI i:=x.2.1==3;letI j:=x.2.1==4;letI l:=vU (x.1,x.2.2);letI c:=l !=0&&l<x.2.1;(h=true->True)/\(h=false->(c=true->(i=true->e.isSome=true/\(f=true->True)/\(f=false->True))/\(i=false->(j=true->d.isSome=true/\(g=true->True)/\(g=false->True))/\(j=false->True)))/\(c=false->True))) (by
 try dsimp only[Ty.den]at*
 refine⟨λ_=>trivial,λhv=> ?_⟩;have hb:=ak9 (oj (H9 fx.1) (by simpa using hv)).EN;obtain⟨z1,e1,_⟩:=VW hb.fu OB;obtain⟨z2,e2,_⟩:=VW hb.ov OB;have e1':(FloatKind.f64.format.sub x.1.2.2.2.2.2.1 4589168020290535424).isSome=true:=by rw[show FloatKind.f64.format.sub x.1.2.2.2.2.2.1 4589168020290535424=some z1 from e1];rfl
 have e2':(FloatKind.f64.format.sub x.1.2.2.2.2.2.2.1 4589168020290535424).isSome=true:=by rw[show FloatKind.f64.format.sub x.1.2.2.2.2.2.2.1 4589168020290535424=some z2 from e2];rfl
 simp only[e1',e2',implies_true,aBf,ay7]))
theorem asw:an 49 adl:=have E:=ai @EK.eq_1<|ai @vD.eq_1<|ai @oC.eq_1 SN;ao (cg []) func49 [] l0 (sp λx fx h=>sl (vD x.2/\(AY x.1=true->oC x.2)))
theorem aso:an 48 ado:=ao (cg []) func48 [] l0 (λ_ _ _=>tr)
theorem am0:dL 250 La:=dU (cg []) func250 [] l0 (sp λx fx h=>sl (sI x.1/\oD x.2.1/\oD x.2.2.1/\zD x.2.2.2) (by
 exact h))
theorem apO:an 253 ZI:=have E:=ai @Kq.eq_1<|ai @ma.eq_1<|ai @zi.eq_1 SN;ao (cg [(999999,[59,118,136])]) func253 [] l0 (sp λx fx h=>sl (letI d:=(x.1,3);letI e:=x.2==2;letI g:=(x.1,2);letI h:=(x.1,4);letI i:=x.1.2.1;letI j:=x.2==6;letI m:=x.1.1;letI l:=(m.2.1.length:Int);letI n:=x.2==1;letI o:=x.2==3;letI p:=x.2==4;letI q:=x.2==5;letI r:=x.2==7;letI s:=(x.1,0);letI f:=n&&jd s;letI t:=(x.1,1);letI b:=e&&jd t;letI u:=aa m.2.2.1 i;letI c:=(r&&jd h)&&(!u);letI v:=jd d;letI a:=(e=true->ma h)/\(((e&&jd h)&&u)=false->((p=true->ma g)/\((p&&jd g)=false->((q=true->ma d)/\((q&&v)=false->((j=true->ma d)/\(((j&&v)=true->(0<=i/\i<l))/\((j&&v)=false->((r=true->ma h)/\((c=true->zi m)/\(c=false->((x.2==8)=true->0<=i/\i<l))))))))))));(0<=i/\i<(m.2.2.1.length:Int))/\((n=true->ma s)/\((f=true->zi m)/\(f=false->((e=true->ma t)/\((b=true->(b=false->a))/\(b=false->((o=true->ma g)/\((o&&jd g)=false->a))))))))))
def TY:LS dF.den:=aD (Ty.pair fY (Ty.pair cX (Ty.pair ab bO))) (Ty.pair dF ab) [(2,none),(24,none),(25,none)] [(4,4)] [(7,none),(26,none)] [] [(0,100500,true,213)] [] [(4,4)] 0 false Jq uE C3
theorem ajL:bu f215 Ll [0] TY:=have E:=ai @Jq.eq_1<|ai @C3.eq_1<|ai @uE.eq_1 SN;lA (cg []) [] l0 (λk x fk fx h=>sm (letI a:=aO;letI b:=(4,0,0,x.2,2);letI c:=([(5,0,0,x.2,0)]:List a);letI d:=(6,0,0,x.2,0);letI f:=((x.1++ [b]):List a);letI h:=k.2.2.2.2;letI g:=0<=x.2/\x.2<(h.1.length:Int);letI i:=(((x.1++ [b])++ [d]):List a);letI j:=aa k.2.1 x.2;letI l:=j==4;letI e:=l&&aa h.2.1 x.2;decide (x.2<k.2.2.1)=true->((0<=x.2/\x.2<(k.2.1.length:Int))/\((l=true->0<=x.2/\x.2<(h.2.1.length:Int))/\((0<=x.2/\x.2<(k.1.length:Int))/\((((!(aa k.1 x.2))||((j !=1)&&(!e)))||MX (k.2.2.2,x.2))=false->(((List.length (x.1:List a)+List.length ([b]:List a))*40<=140737488355328/\List.length (x.1:List a)+List.length ([b]:List a)<=4611686018427387903)/\((e=true->(((List.length f+List.length ([d]:List a))*40<=140737488355328/\List.length f+List.length ([d]:List a)<=4611686018427387903)/\(g/\(aa h.1 x.2=true->((List.length i+List.length c)*40<=140737488355328/\List.length i+List.length c<=4611686018427387903)))))/\(e=false->g/\(aa h.1 x.2=true->(List.length f+List.length c)*40<=140737488355328/\List.length f+List.length c<=4611686018427387903))))))))))
theorem ap1:an 215 Ll:=ao (cg []) func215 [(5,TY)] (lc ajL l0) (λx fx _=>sl ((!cL (x.1,x.2.1)||(x.2.2.length:Int) !=x.1.2.2.2.2.2.2.2.length)=false->Jq (x.2.2,x.2.1.1,x.2.1.1.length,x.2.1) ([],0)) (by
 try dsimp only[Ty.den]at*
 intro hc;rw[au1,avc]at hc;obtain⟨_,h1,h2,h3,h4⟩:=Bq fx.1.2.2.2.2.2.2.2.1 hc.1;exact⟨au8 _,rfl,am4 h1 h2 h3 h4 hc.2⟩))
theorem apv:an 226 Xa:=have E:=ai @qz.eq_1 SN;ao (cg []) func226 [] l0 (λx fx _=>sl ((!qz x)=false->0<=x.2/\x.2<x.1.1.length))
theorem anX:an 266 XC:=have E:=ai @qz.eq_1 SN;ao (cg []) func266 [] l0 (λx fx _=>sl (letI b:=aa x.1.1 x.2;letI c:=x.1.1.length;letI d:=b==0;letI e:=qz x;letI a:=e&&(d||b==4);(e=true->0<=x.2/\x.2<c)/\(e=true->d=false->0<=x.2/\x.2<c)/\(a=true->0<=x.2/\x.2<x.1.2.1.length)/\((a&& !aa x.1.2.1 x.2)=true->0<=x.2/\x.2<x.1.2.2.1.length)))
def Tm:LS aU.den:=aD (Ty.pair fW ab) (Ty.pair ab aU) [(6,none),(7,none)] [] [(8,none)] [(3,2)] [] [] [(3,3)] 0 false CE JD I9
theorem aiO:bu f267 LL [0] Tm:=have E:=ai @CE.eq_1<|ai @I9.eq_1<|ai @JD.eq_1 SN;lA (cg []) [] l0 (λk x fk fx h=>sm (decide (x.1<k.2)=true->0<=x.1/\x.1<k.1.length))
theorem apW:an 267 LL:=have E:=ai @CE.eq_1 SN;ao (cg []) func267 [(3,Tm)] (lc aiO l0) (λx fx _=>sl (CE (x,x.length) (0,0,0)))
def SS:LS aU.den:=aD (Ty.pair gw (Ty.pair ab (Ty.pair dg ab))) (Ty.pair ab aU) [(2,none),(3,none),(37,none),(38,none)] [] [(39,none)] [(9,2)] [] [] [(9,9)] 0 false Dn Ju JJ
theorem akt:bu f229 LG [0] SS:=have E:=ai @Dn.eq_1<|ai @JJ.eq_1<|ai @Ju.eq_1 SN;lA (cg []) [] l0 (λk x fk fx h=>sm (letI a:=aa k.2.2.1 x.1;decide (x.1<k.2.2.2)=true->(0<=x.1/\x.1<k.2.2.1.length)/\((a.2.2.1==k.2.1)=false->(a.2.2.1== -2)=true->0<=k.2.1/\k.2.1<k.1.length)))
theorem aoG:an 229 LG:=have E:=ai @Dn.eq_1 SN;ao (cg []) func229 [(5,SS)] (lc akt l0) (λx fx _=>sl (letI a:=(x.1.2.2.2.2.2.2.2.length:Int);letI b:=x.2.2;(!cL (x.1,x.2.1)||b.1.length !=a||b.2<0||b.2>=a)=false->Dn (b.1,b.2,x.2.1.2.2.2,x.2.1.2.2.2.length) (0,0,0)))
def Rz:LS (Ty.pair vQ bI).den:=aD (Ty.pair oN (Ty.pair gw (Ty.pair ab az))) (Ty.pair ab vQ) [(2,none),(32,none),(33,none)] [(3,8)] [(34,none)] [(8,4)] [(1,100501,true,51),(2,100502,true,4)] [] [(3,3),(8,8)] 0 false JE og om
theorem ajH:bu f218 Lr [0] Rz:=have E:=ai @JE.eq_1<|ai @om.eq_1<|ai @og.eq_1 SN;lA (cg []) [] l0 (λk x fk fx h=>sm (letI a:=ew (jH (k.2.2.2,aa k.2.1 x.1),x.2.2.2);letI c:=af;letI d:=ew (a,aa k.1 x.1);letI b:=([!((d.1==0)&&(d.2==0))]:List Bool);letI e:=(x.2.2.1:List Bool);letI f:=(x.2.1:List c);decide (x.1<k.2.2.1)=true->((0<=x.1/\x.1<(k.2.1.length:Int))/\((List.length f+List.length ([a]:List c))*8<=140737488355328/\List.length f+List.length ([a]:List c)<=4611686018427387903)/\(0<=x.1/\x.1<k.1.length)/\(List.length e+List.length b)*1<=140737488355328/\List.length e+List.length b<=4611686018427387903)))
theorem anO:an 218 Lr:=ao (cg []) func218 [(5,Rz)] (lc ajH l0) (λx fx _=>sl (letI a:=(x.1.2.2.2.2.2.2.2.length:Int);letI b:=x.2.1.length;(bZ x.1 !=0||b !=a||x.2.2.length !=a)=false->JE (x.2.2,x.2.1,b,x.1) (0,[],[],0,0)) (by
 try dsimp only[Ty.den]at*
 intro hc;rw[au1,au1,avc (b:=((x.1.2.2.2.2.2.2.2).length:Int)),avc (b:=((x.1.2.2.2.2.2.2.2).length:Int))]at hc;obtain⟨⟨h1,h2⟩,h3⟩:=hc;have h8:=ZE fx.1.2.2.2.2.2.2.2.1 h1;exact⟨au8 _,rfl,al3 h2 h3 h8⟩))
theorem anJ:an 220 Z6:=ao (cg []) func220 [] l0 (sp λx fx h=>sl (sI x.1/\oD x.2.1/\oD x.2.2.1/\zD x.2.2.2) (by
 exact h))
def JG:LS dF.den:=aD (Ty.pair gw (Ty.pair ab az)) (Ty.pair ab aU) [(25,none),(26,none)] [(3,8)] [(27,none)] [(7,2)] [] [] [(3,3),(7,7)] 0 false C7 uH yh
def Qn:LS dF.den:=aD (Ty.pair dg (Ty.pair ab aU)) (Ty.pair dF ab) [(38,none),(39,none)] [(7,2)] [(10,none),(40,none)] [] [(0,101100,true,213)] [] [(7,7)] 2 false B2 ug xP
theorem ajG:bu f223 EX [0] JG:=have E:=ai @C7.eq_1<|ai @yh.eq_1<|ai @uH.eq_1 SN;lA (cg []) [] l0 (λk x fk fx h=>sm (decide (x.1<k.2.1)=true->0<=x.1/\x.1<k.1.length))
theorem agA:bu f223 EX [1] Qn:=have E:=ai @B2.eq_1<|ai @xP.eq_1<|ai @ug.eq_1 SN;lA (cg []) [(5,JG)] l0 (λk x fk fx h=>sm (letI b:=aO;letI c:=aa k.1 x.2;letI a:=([(2,c.1,c.2.1,0,0)]:List b);decide (x.2<k.2.1)=true->(0<=x.2/\x.2<k.1.length)/\(gg (k.2.2,c.1,c.2.1)=true->(List.length (x.1:List b)+List.length a)*40<=140737488355328/\List.length (x.1:List b)+List.length a<=4611686018427387903)))
theorem anG:an 223 EX:=have E:=ai @C7.eq_1<|ai @B2.eq_1<|ai @Kx.eq_1 SN;ao (cg []) func223 [(5,JG),(11,Qn)] (lc ajG (lc agA l0)) (sp λx fx h=>sl (letI a:=(x.2.2.length:Int);letI b:=(0,0,0);letI c:=(x.2.2,a,x.1);(!cL (x.1,x.2.1)||a !=x.1.2.2.2.2.2.2.2.length)=false->C7 c b/\B2 (x.2.1.2.2.2,x.2.1.2.2.2.length,(DY c b).2) ([],0)))
def SZ:LS (Ty.pair ab Ty.unit).den:=aD (Ty.pair dg (Ty.pair ab (Ty.pair ab ab))) ab [(0,none),(7,none)] [(2000,1),(2001,1)] [(8,none)] [] [] [] [] 0 true Dt ni CX [(1,284,[2000,2001])]
theorem ajW:gW f283 E4 [0] SZ:=have E:=ai @Dt.eq_1<|ai @CX.eq_1<|ai @ni.eq_1 SN;lV (cg []) [] l0 (λk x fk fx h=>sm (decide (x<k.2.1)=true->0<=x/\x<k.1.length))
theorem apV:dL 283 E4:=have E:=ai @Dt.eq_1 SN;dU (cg []) func283 [(2,SZ)] (lc ajW l0) (λx fx _=>sl (Dt (x.1,x.1.length,x.2) 0))
def Ts:LS aU.den:=aD (Ty.pair dg ab) (Ty.pair ab aU) [(6,none),(7,none)] [] [(8,none)] [(3,2)] [] [] [(3,3)] 0 false CG uR yp
theorem akd:bu f228 LK [0] Ts:=have E:=ai @CG.eq_1<|ai @yp.eq_1<|ai @uR.eq_1 SN;lA (cg []) [] l0 (λk x fk fx h=>sm (decide (x.1<k.2)=true->0<=x.1/\x.1<k.1.length))
theorem aqC:an 228 LK:=have E:=ai @CG.eq_1 SN;ao (cg []) func228 [(3,Ts)] (lc akd l0) (λx fx _=>sl (CG (x,x.length) (0,0,0)))
theorem arf:an 289 Zw:=ao (cg []) func289 [] l0 (λx fx _=>sf (letI d:=x.2.2;letI e:=i64.wrap (sg x-1);letI f:=d.1==1;letI g:=d.2.2;letI h:=x.2.1;letI b:=((d.1==0)||((d.1==g.2)&&((f&&decide (g.1>=h))||((d.1==2)&&decide (g.1<=h)))));letI c:=((((((!(nK x.1))||decide (h<0))||decide (h>=x.1))||decide (d.1<0))||decide (d.1>2))||(!(vT (x.1,g))));letI i:=kd (x.1,d.2.1);letI a:=u32.wrap ((BitVec.ofInt u32.bits (u32.wrap ((BitVec.ofInt u32.bits (u32.wrap ((BitVec.ofInt u32.bits (u32.wrap ((BitVec.ofInt u32.bits i.1|||BitVec.ofInt u32.bits i.2.1).toNat:Int))|||BitVec.ofInt u32.bits i.2.2).toNat:Int))|||BitVec.ofInt u32.bits (u32.wrap (1*2^min h.toNat u32.bits))).toNat:Int))|||BitVec.ofInt u32.bits (u32.wrap (1*2^min g.1.toNat u32.bits))).toNat:Int);letI j:=d.1 !=g.2;letI l:=zr x;(c=true->True)/\(c=false->(vz (x.1,d.2.1)/\((0<=h)/\((0<=g.1)/\(vD a/\(Ey a/\((b=true->(qe ([],h,g.1)/\True))/\(b=false->(((j&&f)=true->(qe ([e],h,g.1)/\True))/\((j&&f)=false->(j=true->qe ([l],h,g.1)/\True)/\(j=false->(f=true->qe ([e,l],h,g.1)/\True)/\(f=false->qe ([l,e],h,g.1)/\True))))))))))))) (by
 try dsimp only[Ty.den]at*
 simp only[qe,vD,Ey,vz,nK,vT,av9,au1,avi,au4,adv,au0]at*;repeat' (first|exact trivial|apply And.intro|intro _)
 all_goals first|omega|exact W.lo (sv _)|exact W.hi (sv _)|(simp only[avl,avo];omega)))
theorem ana:an 305 W4:=have E:=ai @D7.eq_1<|ai @oC.eq_1 SN;ao (cg []) func305 [] l0 (sp λx fx h=>sl (oC x.1/\oC x.2))
def T5:Fv:={p:=Ty.pair gx gx,ay:= [some 3,some 3],r:=ab,ar:=ah.one none,fs:= [107],F:=FL}
theorem ahE:qy (some T5):=BI (λg hg=>by
 simp only[T5,av3,ayi,aBo]at hg;rcases hg with rfl
 ·exact⟨YC,_,func107,by kernel_rfl,by kernel_rfl⟩)
def Tu:LS (Ty.pair ab aw).den:=aD (Ty.pair fW (Ty.pair zO gx)) (Ty.pair ab ab) [(0,none),(2,none)] [(4,3)] [(9,none),(10,none)] [] [] [] [(4,4)] 0 false uL rR rT
theorem Jh(k:(Ty.pair fW (Ty.pair zO gx)).den)(x:(Ty.pair ab ab).den)(fk:Fit (Ty.pair fW (Ty.pair zO gx)) k)(h:uL k x):aJ false uL rT k x (rR k x):=by
 try dsimp only[Ty.den]at*
 obtain⟨h0,h1,h2,h3,h4⟩:=h;unfold rR;refine aJ.cnd (λhc=> ?_) (λ_=>rfl);rw[adv]at hc;have e:=yK h0 h1 (aw2 h2 (ot h3));have r:=CK h0 hc h2;rw[e,aB (x:=(x.1+x.2)/2+1) (by omega) (by omega)];refine aJ.cnd (λ_=>⟨rfl,⟨?_,?_,h2,h3,h4⟩,?_⟩) (λ_=>⟨rfl,⟨h0,?_,?_,h3,h4⟩,?_⟩)
 ·exact acL h0 hc
 ·exact acb h0 hc
 ·exact ab1 h0 hc
 ·exact abB h0 hc
 ·exact aw2 (aBn (VO h0 hc)) h2
 ·exact acC h0 hc
def ZM(z:List (Nat×List Nat)):=dB (xW true) xK ahE yF z
theorem ajI:bu f157 Lc [0] Tu:=lA (ZM []) [] l0 (λk x fk fx h=>sl (letI a:=i64.wrap (Int.fdiv (u64.wrap (i64.wrap (x.1+x.2))) (2^min (1:Int).toNat u64.bits));decide (x.1<x.2)=true->0<=(1:Int)/\(0<=a/\a<k.1.length)/\(∃g,k.2.1=some g/\g∈ [107])) (by
 try dsimp only[Ty.den]at*
 obtain⟨h0,h1,h2,h3,h4⟩:=h;intro hc;rw[adv]at hc;have e:=yK h0 h1 (aw2 h2 (ot h3));rw[e];exact⟨by decide,CK h0 hc h2,_,h4,by simp⟩)) Jh
theorem arx:an 157 Lc:=ao (ZM []) func157 [(3,Tu)] (lc ajI l0) (sp λx fx h=>sl (letI b:=x.1.length;letI c:=(x.1,x.2.2,x.2.1);letI a:=Ec c (0,b);letI d:=decide (a.1<b);uL c (0,b)/\(d=true->0<=a.1/\a.1<b)/\(d=true-> ∃g,x.2.2=some g/\g∈ [107])) (by
 try dsimp only[Ty.den]at*
 obtain⟨h0,h1⟩:=h;have hin:uL (x.1,x.2.2,x.2.1) ((0:Int),((x.1).length:Int)):=⟨au8 _,au9 _,au8 _,h0,h1⟩;have hI:=oe (λy hy=>Jh (x.1,x.2.2,x.2.1) y ⟨fx.1,fx.2.2,fx.2.1⟩ hy) (λy k' z hz=>by
  unfold rR at hz;revert hz
  cases decide (y.1<y.2)with
  |true=>rw[au3];unfold cond;split<;>intro hz<;>cases hz
  |false=>intro hz;cases hz;rfl) (Nat.succ (rT (x.1,x.2.2,x.2.1) ((0:Int),((x.1).length:Int)))) _ hin
 have g0:0<=(Ec (x.1,x.2.2,x.2.1) ((0:Int),((x.1).length:Int))).1:=hI.1;refine⟨hin,λhc=> ?_,λ_=>⟨_,h1,by simp⟩⟩;rw[adv]at hc;exact⟨g0,hc⟩))
def Uu:LS (Ty.pair du bI).den:=aD (Ty.pair ab jg) (Ty.pair ab du) [(0,none)] [(5,5)] [(8,none)] [(4,41)] [] [] [(4,4),(5,5)] 0 false D3 za yP
theorem amA:bu f13 MS [0] Uu:=have E:=ai @D3.eq_1<|ai @yP.eq_1<|ai @za.eq_1 SN;lA (cg []) [] l0 (λk x fk fx h=>sm (letI e:=0<=x.1/\x.1<36;letI g:=x.2.2.2.2;letI d:=g.2.2.2.2.2;letI h:=d.2.2.2.2;letI b:=h.2.2.2.2.2;letI i:=b.2.2.2.2;letI c:=i.2.2.2.2.2;letI f:=c.2.2.2.2.2;letI a:=i64.wrap (aa [x.2.2.1,x.2.2.2.1,g.1,g.2.1,g.2.2.1,g.2.2.2.1,g.2.2.2.2.1,d.1,d.2.1,d.2.2.1,d.2.2.2.1,h.1,h.2.1,h.2.2.1,h.2.2.2.1,h.2.2.2.2.1,b.1,b.2.1,b.2.2.1,b.2.2.2.1,i.1,i.2.1,i.2.2.1,i.2.2.2.1,i.2.2.2.2.1,c.1,c.2.1,c.2.2.1,c.2.2.2.1,c.2.2.2.2.1,f.1,f.2.1,f.2.2.1,f.2.2.2.1,f.2.2.2.2.1,f.2.2.2.2.2] x.1+1)==k.1;letI j:=nS (k.2,x.1)==nS (x.2.1,x.1);decide (x.1<36)=true->((j=true->e)/\(j=false->e/\(a=true->e)/\(a=false->e/\e)))))
theorem atI:an 13 MS:=have E:=ai @D3.eq_1 SN;ao (cg []) func13 [(4,Uu)] (lc amA l0) (λx fx _=>sl ((!AP (x.1,x.2.1))=false->D3 (x.1,x.2.2) (0,x.2.1)))
def VY:LS aU.den:=aD dg (Ty.pair ab aU) [(0,none)] [] [(4,none)] [(3,2)] [] [] [(3,3)] 0 false EA JV JY
theorem alW:bu f22 MW [0] VY:=have E:=ai @EA.eq_1<|ai @JY.eq_1<|ai @JV.eq_1 SN;lA (cg []) [] l0 (λk x fk fx h=>sm (letI b:=k.length;letI a:=0<=x.1/\x.1<b;decide (x.1<b)=true->a/\a))
theorem at5:an 22 MW:=have E:=ai @EA.eq_1 SN;ao (cg []) func22 [(3,VY)] (lc alW l0) (λx fx _=>sl (EA x (0,0,0)))
def JL:LS dg.den:=aD (Ty.pair ab aU) (Ty.pair dg ab) [(4,none)] [(1,2)] [(3,none),(5,none)] [] [(0,100600,true,93)] [] [(1,1)] 2 false oA yR yS
def Uc:LS dg.den:=aD aU (Ty.pair dg ab) [] [(1,2)] [(3,none),(4,none)] [] [(0,100300,true,93)] [] [(1,1)] 0 false Ee J7 U0
theorem VA(k:(Ty.pair ab aU).den)(x:(Ty.pair dg ab).den)(fk:Fit (Ty.pair ab aU) k)(h:oA k x):aJ false oA yS k x (yR k x):=by
 try dsimp only[Ty.den]at*
 simp only[oA,Fit,maxLen]at h fk;unfold yR
 (repeat' (first|exact rfl|(refine aJ.cnd (λhc=> ?_) (λhc=> ?_)<;>(try simp only[avj,av6,aw7,avy,avc,axe,aH,aP,bt,aE,au5,avl,avo,auz,awi,avt,avs,adv,au0,av9,au4,au1,av2,avr,avi,axf,ayb,aw0,awm,axp,ne_eq]at hc))|refine aJ.opt (λ_=> ?_)))<;>(first|exact rfl|(refine⟨rfl,?_,?_⟩<;>simp only[oA,yS,jm,mO,extract_size,pL,IF,avj,av6,aw7,avy,BX,Ci,avc,axe,aH,aP,bt,aE,au5,avl,avo,auz,awi,avt,avs,adv,au0,av9,au4,au1,av2,avr,avi,axf,ayb,aw0,awm,axp,ne_eq]<;>first|omega|(and_intros<;>first|omega|exact h.1|exact h.2|exact h.2.1|exact h.2.2|exact h.2.2.1|exact h.2.2.2|exact h.2.2.2.1|exact h.2.2.2.2|exact h.2.2.2.2.1|exact h.2.2.2.2.2|exact h.2.2.2.2.2.1|exact h.2.2.2.2.2.2)))
theorem alv:bu f70 Fl [0,0] JL:=have E:=ai @oA.eq_1 SN;lA (cg []) [] l0 (λk x fk fx h=>sm (letI a:=([(k.1,x.2,-1,0,false)]:List aC);letI b:=(x.1:List aC);decide (x.2<=2)=true->Nj (k.2,k.1,x.2)=true->(List.length b+List.length a)*40<=140737488355328/\List.length b+List.length a<=4611686018427387903)) VA
theorem alV:bu f70 Fl [0] Uc:=have E:=ai @Ee.eq_1<|ai @oA.eq_1 SN;lA (cg []) [(6,JL)] (lc alv l0) (λk x fk fx h=>sm (decide (x.2<32)=true->oA (x.2,k) (x.1,1))) λk x fk h=>by
 try dsimp only[Ty.den]at*
 obtain⟨h0,h1⟩:=h;unfold J7;refine aJ.cnd (λhc=> ?_) (λ_=>rfl);rw[adv]at hc;have e:=sL h0 hc (by decide);have hI:=oe (λy hy=>VA (x.2,k) y ⟨trivial,fk⟩ hy) (λy k' z hz=>by
  unfold yR at hz;revert hz
  unfold cond;split
  ·split<;>intro hz<;>cases hz
  ·intro hz;cases hz;rfl) (Nat.succ (yS (x.2,k) (x.1,(1:Int)))) (x.1,(1:Int)) ⟨au8 _,arS h1 h0 hc⟩
 rw[e];exact⟨rfl,⟨cH h0,aqY hI.2.1 hI.2.2.2.2⟩,cI hc⟩
theorem asa:an 70 Fl:=have E:=ai @oA.eq_1<|ai @Ee.eq_1 SN;ao (cg []) func70 [(6,JL),(3,Uc)] (lc alV l0) (λx fx _=>sl (Ee x ([],0)))
theorem arG:an 71 acz:=ao (cg []) func71 [] l0 (λ_ _ _=>tr)
def abw(nw:Bool):=(250,.pv La)::(283,.pv E4)::aaB nw
theorem PV(nw:Bool):ga (abw nw):=zc (z:= .pv La) am0 func250 (zc (z:= .pv E4) apV func283 ((xW nw)))
def aaO:List (Nat×Cp):=(57,abb)::acG
theorem Q5:ic aaO:=pc ath func57 (xK)
def acd:=(28,Mw)::(117,LQ)::(148,WV)::(100,ZV)::(9,Gu)::(141,K3)::(61,Nb)::(109,Zf)::(110,Zk)::(65,Ml)::(44,No)::(206,L3)::(170,Xu)::(49,adl)::(48,ado)::(253,ZI)::(215,Ll)::(226,Xa)::(266,XC)::(267,LL)::(229,LG)::(218,Lr)::(220,Z6)::(223,EX)::(228,LK)::(289,Zw)::(305,W4)::(157,Lc)::(13,MS)::(22,MW)::(70,Fl)::(71,acz)::aaD
theorem SQ:cr acd:=gc asd func28 (gc aqn func117 (gc apx func148 (gc an7 func100 (gc ok9 func9 (gc aqq func141 (gc atw func61 (gc aox func109 (gc aqg func110 (gc ar5 func65 (gc arA func44 (gc apI func206 (gc anh func170 (gc asw func49 (gc aso func48 (gc apO func253 (gc ap1 func215 (gc apv func226 (gc anX func266 (gc apW func267 (gc aoG func229 (gc anO func218 (gc anJ func220 (gc anG func223 (gc aqC func228 (gc arf func289 (gc ana func305 (gc arx func157 (gc atI func13 (gc at5 func22 (gc asa func70 (gc arG func71 (yF))))))))))))))))))))))))))))))))
theorem ahH{l:List aC}(h:l.length<=1000000):Fit dg l:=⟨by grind [maxLen],λ_ _=>⟨trivial,trivial,trivial,trivial,trivial⟩⟩
theorem agD{m:aq}{f d:Int}(hl:m.2.2.2.length<=1000000):0<=(bN (m,f,d)).1/\(bN (m,f,d)).1<=m.2.2.2.length/\((bN (m,f,d)).2=true->(bN (m,f,d)).1<m.2.2.2.length):=by
 have a:uB (m.2.2.2,some 140,(f,d,0,0,false)) (0,m.2.2.2.length):=⟨au8 _,au9 _,au8 _,hl,rfl⟩;have g:=oe (λy i=>JB (m.2.2.2,some 140,(f,d,0,0,false)) y ⟨ahH hl,trivial,trivial,trivial,trivial,trivial,trivial⟩ i) (λy k' z j=>by
  unfold rL at j;grind) (Nat.succ (rS (m.2.2.2,some 140,(f,d,0,0,false)) (0,m.2.2.2.length))) _ a
 obtain⟨h0,h1,h2,_,_⟩:=g;refine⟨h0,aw2 h1 h2,λh=> ?_⟩;simp_all [bN,FP]
theorem akg{l:List aC}{c:af}(hl:l.length<=1000000):(pb (l,c)).1= -1\/0<=(pb (l,c)).1/\(pb (l,c)).1<l.length:=by
 have key: ∀(n:Nat) (x:Int),0<=x->(∀r,bd ni (l,l.length,c) n x=some r->0<=r.1/\r.1<l.length):=by
  intro n;induction n with
  |zero=>intro x _ r hr;cases hr
  |succ n f=>
   intro x h0 r hr;by_cases a:x<l.length
   ·have hs:ni (l,l.length,c) x=bif(qu (aa l x,c)).1 then ak.ret (x,())else ak.next (l,(l.length:Int),c) (i64.wrap (x+1)):=by
     unfold ni;simp only[a,avz,au3]
    rw[bd,hs]at hr;cases hq:(qu (aa l x,c)).1 with
    |true=>rw[hq,au3]at hr;cases hr;exact⟨h0,a⟩
    |false=>
     rw[hq,auw,cC h0 a (by simp only[maxLen];omega)]at hr;exact f (x+1) (by omega) r hr
   ·have hs:ni (l,l.length,c) x=ak.brk (l,(l.length:Int),c) x:=by
     unfold ni;simp only[a,awe,auw]
    rw[bd,hs]at hr;cases hr
 unfold pb;cases h:KH ((l,c).1,((l,c).1.length:Int),(l,c).2) 0 with
 |none=>exact .inl rfl
 |some r=>exact .inr (key _ 0 (au8 _) r h)
theorem Oa{b:ae}{c:Int}{s:bT}(hl:b.2.2.2.2.2.2.2.length<=maxLen)(h:fC (b,c,s)=true):aR b/\0<=c/\c<b.2.2.2.2.2.2.2.length:=by
 unfold fC at h;revert h
 unfold cond;split
 ·simp_all
 ·rename_i a
  intro _;simp only[au1,avc,avi]at a;obtain⟨⟨⟨⟨⟨⟨h1,h2⟩,_⟩,_⟩,_⟩,_⟩,_⟩:=a;have f:=oj hl h1;have g:=f.cn;unfold gL at h2;simp only[au4,adv]at h2;rw[aB (by omega) (by have:b.2.2.2.2.2.2.2.length<=8:=g.2;omega)]at h2;exact⟨f,by omega,by omega⟩
theorem akS{x:af}(h:(0<=x.1/\x.1<=255)/\0<=x.2/\x.2<=255):(tG x).2.2.2.2.2.2.2.length<=8:=by
 have a:=Gv h;have f:=oe (λy g=>Vp x.2 y trivial g) (λy k' z i=>by
  unfold qi at i;grind) (Nat.succ (sn x.2 (0,jk x))) (0,jk x) ⟨au8 _,a.1.cn.2⟩
 exact f.2
theorem ak7{n m f c:Nat}{l:Nat}{a:Int}(i1:n=l)(i2:m=l)(g:f=l)(h:c=(l:Int))(h0: ¬ a<0)(h1: ¬ a>=l):(0<=a/\a<c)/\(0<=a/\a<n/\m=n/\f=n):=by
 omega
theorem aom{n:Nat}{e:Ty}(h:n<=8):((aE e n).length:Int)<=8:=by grind [aE]
theorem amw{a n:Int}(h:a= -1\/0<=a/\a<n)(f: ¬ a<0):0<=a/\a<n:=by omega
def Mm(x:(aO)×aq):Prop:=
 x.2.2.2.2.length<=90000/\((x.1.1==4)=true->0<=x.1.2.2.2.1/\x.1.2.2.2.1<x.2.1.length)/\((x.1.1==5)=true->0<=x.1.2.2.2.1/\x.1.2.2.2.1<x.2.2.1.length)/\((x.1.1==6)=true->0<=x.1.2.2.2.1/\x.1.2.2.2.1<x.2.2.2.1.length)
theorem ahA{l:List iB}(h:l.length<=1000000):Fit fW l:=⟨by grind [maxLen],λ_ _=>⟨trivial,trivial,trivial⟩⟩
theorem af0{l:List iB}{y:iB}(hl:l.length<=1000000):0<=(lF (l,y,some 107)).1/\(lF (l,y,some 107)).1<=l.length:=by
 have a:uL (l,some 107,y) (0,l.length):=⟨au8 _,au9 _,au8 _,hl,rfl⟩;have f:=oe (λz g=>Jh (l,some 107,y) z ⟨ahA hl,trivial,trivial,trivial,trivial⟩ g) (λy k' z h=>by
  unfold rR at h;grind) (Nat.succ (rT (l,some 107,y) (0,l.length))) _ a
 obtain⟨h0,h1,h2,_,_⟩:=f;exact⟨h0,aw2 h1 h2⟩
theorem xJ(c:af):(hU c).length<=64:=by
 unfold hU;have key: ∀l:List Nat,(l.flatMap λf:Nat=>(bif gg (c,f,1)then[((f:Int),1,(-1:Int),0,false)]else[])++(bif gg (c,f,2)then[((f:Int),(2:Int),(-1:Int),(0:Int),false)]else[])).length<=2*l.length:=by
  intro l;induction l with
  |nil=>simp
  |cons a l g=>
   grind
 grind
theorem amB{n:Nat}(h:n<=1000):0<=(n:Int)/\n=(n:Int)/\(n:Int)*24<=140737488355328/\(n:Int)<=4611686018427387903:=by omega
theorem asu{e:Ty}{l:List e.den}(h:l.length<=1000):((aP (aE e l.length) l).length:Int)<=1000+0:=by grind [aP,aE]
theorem at0{i n:Int}{m:Nat}(a:i<n)(h2:n<=64)(h3:m<=1000+i):m<=1064:=by omega
theorem atu{i:Int}{m:Nat}(h3:m<=1000+i):m<=1000+(i+1):=by omega
theorem atc{i:Int}{m n:Nat}(a:n=m+1)(h3:m<=1000+i):n<=1000+(i+1):=by omega
theorem Jm{α:Type}(l:List α)(i:Int)(v:List α)(a:v.length=1):(jK l i v).length=l.length+1:=by
 grind [jK]
theorem PJ{k:List aC×Int×ae×aq}(a:k.2.1=k.1.length)(hl:k.1.length<=maxLen): ∀(n:Nat) (x:Int),0<=x->(k.2.1-x).toNat<n->dq (bd mY k n x) (λy=>y) true=true->
  ∀j,x<=j->j<k.2.1->lJ (k.2.2.1,aa k.1 j)=true/\(j>0->lz (aa k.2.2.2.2.2.2 (j-1),aa k.1 j)<0)
 |0,_,_,f,_,_,_,_=>by omega
 |n+1,x,h0,f,h,j,l,g=>by
  have i:x<k.2.1:=by omega
  have e:=cC h0 (a▸i) hl;have m:0<x->i64.wrap (x-1)=x-1:=λo=>by
   grind [maxLen,aB]
  cases hc:((!(lJ (k.2.2.1,(aa k.1 x))))||((decide (x>0))&&(decide ((lz ((aa k.2.2.2.2.2.2 (i64.wrap (x-1))),(aa k.1 x)))>=0))))with
  |true=>
   have hs:mY k x=ak.ret false:=by
    grind [mY]
   rw[bd,hs]at h;cases h
  |false=>
   have hs:mY k x=ak.next k (x+1):=by
    grind [mY]
   rw[bd,hs]at h;by_cases s:j=x
   ·simp_all
   ·exact PJ a hl n (x+1) (by omega) (by omega) h j (by omega) g
theorem ae4{x:ae×aq}(hl:x.1.2.2.2.2.2.2.2.length<=maxLen)(f:x.2.2.2.2.length<=maxLen)(h:cL x=true):
  ∀j:Int,0<=j->j<x.2.2.2.2.length->lJ (x.1,aa x.2.2.2.2 j)=true/\(j>0->lz (aa x.2.2.2.2 (j-1),aa x.2.2.2.2 j)<0):=by
 unfold cL at h;revert h
 unfold cond;split
 ·simp_all
 ·intro h
  cases h5:Eh (x.2.1,x.2.1.length) 0 with
  |some r=>
   rw[h5]at h;have hr:=by
    have key: ∀(n:Nat) (y:Int),bd rP (x.2.1,x.2.1.length) n y=some r->r=false:=by
     intro n;induction n with
     |zero=>intro y a;cases a
     |succ n g=>
      intro y a;rw[bd]at a;unfold rP at a;revert a
      cases decide (y<(x.2.1,x.2.1.length).2)with
      |false=>intro a;cases a
      |true=>
       cases(decide (aa (x.2.1,x.2.1.length).1 y<0)||decide (aa (x.2.1,x.2.1.length).1 y>4))with
       |true=>intro a;cases a;rfl
       |false=>intro a;exact g _ a
    exact key _ _ h5
   rw[hr]at h;cases h
  |none=>
   rw[h5]at h;intro j h0 i;exact PJ rfl f _ 0 (au8 _) (aAh _) h j h0 i
def VT(l:List aC)(n:Nat):Prop:= ∀j:Int,0<=j->j<l.length->(-2:Int)<=(aa l j).2.2.1/\(aa l j).2.2.1<n
theorem ahx{x:ae×aq}(hl:x.1.2.2.2.2.2.2.2.length<=maxLen)(a:x.2.2.2.2.length<=maxLen)(h:cL x=true):VT x.2.2.2.2 x.1.2.2.2.2.2.2.2.length:=λj h0 h1=>by
 have:=(ae4 hl a h j h0 h1).1;simp_all [lJ]
theorem JN{α:Type}{l m:List α}{i n:Int}(h:l.length=i)(a:i<n)(f:n<=100000)(hm:m.length=1:=by rfl){b c d:Nat}(hb:b<=1000:=by decide)(g:c=140737488355328:=by rfl)(j:d=4611686018427387903:=by rfl):(l.length+m.length)*b<=c/\l.length+m.length<=d:=by
 have:l.length+m.length<=100001:=by omega
 refine⟨?_,by omega⟩;calc (l.length+m.length)*b<=100001*1000:=aya this hb
  _<=c:=by omega
def dk(e:iB):Int:=ck e.1 e.2.1
structure eb (b:ae) (c:Int) (s:bT):Prop where
 bG:aR b
 eU:0<=c/\c<(b.2.2.2.2.2.2.2.length:Int)
 fl: -1<=s.1/\s.1<=b.1-1
 dir:0<=s.2.1/\s.2.1<=3
 Nf:0<=s.2.2.1/\s.2.2.1<=3
 still:0<=s.2.2.2.2.1/\s.2.2.2.2.1<=1000000
 late:s.2.2.2.2.2=true->s.2.2.2.1= []
 FI: ∀d∈s.2.2.2.1,da b.1 d.1 d.2.1/\0<=d.2.2/\d.2.2<=(aa b.2.2.2.2.2.2.2 c).1
 fP:fN dk s.2.2.2.1
theorem within_iff(a b c:Int):gL (a,b,c)=true↔b<=a/\a<=c:=by
 simp_all [gL]
theorem xp{b:ae}{c:Int}{s:bT}(hl:b.2.2.2.2.2.2.2.length<=maxLen)(h2:s.2.2.2.1.length<=maxLen):fC (b,c,s)=true↔eb b c s:=by
 have m:Z1 (c,s.2.2.2.1,s.2.2.2.1.length,b,s) 0=if∀i:Nat,i<s.2.2.2.1.length->(!(((!(nJ (b,(aa s.2.2.2.1 i).1,(aa s.2.2.2.1 i).2.1)))||(!(gL ((aa s.2.2.2.1 i).2.2,0,(aa b.2.2.2.2.2.2.2 c).1))))||(decide (i>0)&&decide (oL (aa s.2.2.2.1 (i64.wrap (i-1)),aa s.2.2.2.1 i)>=0))))=true then none else some false:=
  scan h2 (λi hi=>by
   unfold yT;grind) (by simp_all [yT]) (by simp_all [Es])
 have o:bZ b=0↔aR b:=by rw[kZ b hl,jP]
 have wr:aR b->i64.wrap (b.2.2.2.2.2.2.2.length-1)=b.2.2.2.2.2.2.2.length-1/\i64.wrap (b.1-1)=b.1-1:=λa=>by
  have h1:=a.fl;have h3:=a.cn;grind [aB]
 constructor
 ·intro h
  unfold fC at h;simp only at h;rw[m]at h;revert h
  unfold cond;split
  ·intro h;cases h
  rename_i t;intro h;simp only[au1,avc,avi,av2,au0]at t;obtain⟨⟨⟨⟨⟨⟨c1,c2⟩,c3⟩,c4⟩,c5⟩,c6⟩,c7⟩:=t;have a:=o.1 c1;obtain⟨j,k⟩:=wr a;rw[j,within_iff]at c2;rw[k,within_iff]at c3;rw[within_iff]at c4 c5 c6;by_cases p: ∀i:Nat,i<s.2.2.2.1.length->(!(((!(nJ (b,(aa s.2.2.2.1 i).1,(aa s.2.2.2.1 i).2.1)))||(!(gL ((aa s.2.2.2.1 i).2.2,0,(aa b.2.2.2.2.2.2.2 c).1))))||(decide (i>0)&&decide (oL (aa s.2.2.2.1 (i64.wrap (i-1)),aa s.2.2.2.1 i)>=0))))=true
  ·have f: ∀i:Nat,i<s.2.2.2.1.length->da b.1 (aa s.2.2.2.1 i).1 (aa s.2.2.2.1 i).2.1/\0<=(aa s.2.2.2.1 i).2.2/\(aa s.2.2.2.1 i).2.2<=(aa b.2.2.2.2.2.2.2 c).1:=λi hi=>by
    have:=p i hi;rw[avr,au1,au1,avi,avi]at this;exact⟨((Be hl _ _).1 this.1.1).2,(within_iff _ _ _).1 this.1.2⟩
   refine⟨a,⟨c2.1,by omega⟩,c3,c4,c5,c6,λhs=> ?_,kz.2 f,Dr.2 λi h0 hi=> ?_⟩
   ·rcases c7 with c7|c7
    ·rw[hs]at c7;cases c7
    ·exact avx (by omega)
   ·have:=p i hi
    rw[avr,au1]at this;have h3:=this.2;rw[aB (by omega) (by unfold maxLen at h2;omega),show decide (i>0)=true from by simp;omega,axs,au0]at h3;have l:=((f i hi).1.key a.fl.2).1;have g:=((f (i-1) (by omega)).1.key a.fl.2).1;rw[show((i-1:Nat):Int)=i-1 by omega]at g;exact(nh g l).1.1 (by
     have h4:=h3;unfold oL at h4;simp only at h4;omega)
  ·rw[avb p]at h;cases h
 ·rintro⟨a,u,w,x,y,z,A,p2,p3⟩
  obtain⟨j,k⟩:=wr a;have f:=kz.1 p2;have p: ∀i:Nat,i<s.2.2.2.1.length->(!(((!(nJ (b,(aa s.2.2.2.1 i).1,(aa s.2.2.2.1 i).2.1)))||(!(gL ((aa s.2.2.2.1 i).2.2,0,(aa b.2.2.2.2.2.2.2 c).1))))||(decide (i>0)&&decide (oL (aa s.2.2.2.1 (i64.wrap (i-1)),aa s.2.2.2.1 i)>=0))))=true:=λi hi=>by
   rw[avr,au1,au1,avi,avi];refine⟨⟨(Be hl _ _).2 ⟨a,(f i hi).1⟩,(within_iff _ _ _).2 (f i hi).2⟩,?_⟩;by_cases h0:i>0
   ·rw[aB (by omega) (by unfold maxLen at h2;omega)]
    have l:=((f i hi).1.key a.fl.2).1;have g:=((f (i-1) (by omega)).1.key a.fl.2).1;rw[show((i-1:Nat):Int)=i-1 by omega]at g;have h4:=(nh g l).1.2 (Dr.1 p3 i (by omega) hi);rw[av2,au0 (p:=oL _>=0)];right;unfold oL;simp only;omega
   ·rw[show decide (i>0)=false from axt h0]
    rfl
  unfold fC;simp only;rw[m,avf p,o.2 a,j,k,(within_iff _ _ _).2 ⟨u.1,by omega⟩,(within_iff _ _ _).2 w,(within_iff _ _ _).2 x,(within_iff _ _ _).2 y,(within_iff _ _ _).2 z];cases hs:s.2.2.2.2.2 with
  |true=>rw[A hs];rfl
  |false=>rfl
theorem eb.len{b:ae}{c:Int}{s:bT}(h:eb b c s):s.2.2.2.1.length<=64:=KS h.fP λe a=>((h.FI e a).1.key h.bG.fl.2).2
end Go.Proofs.YtcfinjcapeemeaaGreatDoor.S
