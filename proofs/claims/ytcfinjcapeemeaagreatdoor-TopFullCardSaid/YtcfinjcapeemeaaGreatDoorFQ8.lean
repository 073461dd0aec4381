/- Part of the proof that the law TopFull holds for every input. -/
import Derived.Test.YtcfinjcapeemeaaGreatDoorFQ7
set_option linter.all false
set_option maxRecDepth 100000
set_option maxHeartbeats 4000000
namespace Go.Proofs.YtcfinjcapeemeaaGreatDoor.S
open Go Go.RowKit IntKind Go.Proofs.Tryz
section
open Go.Shelf Go.Lib
section
variable {P:Program} {w w':World}
theorem HE{j m ty elem:TypeId}{i:TypeInfo}(s:P.underlying j=some (.slice elem))(hi:P.info? elem=some i){g o h t:Nat}{src:Value}{n:Nat}{news:List Value}{a:Array Value}{z:aR}{T:TypeId}{q:Prop}
  (x:w.heap[g]? =some (.cells a T z)) (A:wc z a.size q) (C: ∀w':World,(Builtin.lenOf src).run P w'= .ok n w') (I:n<=h) (J:(Builtin.firstCells i.size n src).run P w= .ok news.toArray w)
  (h1: ∀u∈news,u.oneCell'=true) (L:o+news.length<=a.size):
  (Builtin.copy_ #[j,m] ty #[.slice (some ⟨g,o,none⟩) h t,src]).run P w= .ok (goInt n) (w.setRow g (a.toList.take o++news++a.toList.drop (o+news.length)).toArray):=by
 have k:=pL (P:=P) g o T news 0 a w x A (by simpa using L) h1;simp only[awr]at k;have M:Nat.min n h=n:=az1 I;unfold Builtin.copy_;simp[avg s,C,M,sizeOf,typeInfo,hi,J,k,goInt]
theorem alZ{α:Type}{xs ys zs rest:List α}{k a b c i:Nat}(g:xs.length=a*k)(j:ys.length=b*k)(m:zs.length=c*k)(hi:i<a+b+c):
  (((xs++ys++zs++rest).drop (i*k)).take k)=if i<a then(xs.drop (i*k)).take k else if i<a+b then(ys.drop ((i-a)*k)).take k else(zs.drop ((i-a-b)*k)).take k:=by
 rw[avb,avb,xo g];split
 ·rfl
 ·rw[xo j]
  by_cases h:i-a<b
  ·rw[ava h,ava (by omega)]
  ·rw[au6 h,au6 (by omega),xo m,ava (by omega)]
theorem Fw{X':Nat->Nat->Prop}{a:Ty}{el:TypeId}{l1 l2 l3:List a.den}{xs ys zs rest:List Value}{cap:Nat}(k:xs.length=l1.length*a.n)(m:ys.length=l2.length*a.n)(o:zs.length=l3.length*a.n)
  (h1: ∀i (h:i<l1.length),TR w' X' a l1[i] ((xs.drop (i*a.n)).take a.n)) (h2: ∀i (h:i<l2.length),TR w' X' a l2[i] ((ys.drop (i*a.n)).take a.n)) (h3: ∀i (h:i<l3.length),TR w' X' a l3[i] ((zs.drop (i*a.n)).take a.n))
  {vs:Array Value} (s:vs.toList=xs++ys++zs++rest) {b:Nat} (hb:vq w' b vs el (a= .int .u8)) (t:vs.size=cap*a.n) (u:l1.length+l2.length+l3.length<=cap) (x:cap<=maxLen):jc X' w' b el a (l1++l2++l3):=by
 refine⟨vs,cap,hb,t,by simp only[au1];exact u,x,λi hi=> ?_⟩;simp only[au1]at hi;rw[s,alZ k m o hi];by_cases g:i<l1.length
 ·rw[ava g]
  have e:(l1++l2++l3)[i]'(by simp only[au1];exact hi)=l1[i]:=by simp only[avb];rw[ax8 g]
  rw[e];exact h1 i g
 ·rw[au6 g]
  by_cases j:i<l1.length+l2.length
  ·have e:(l1++l2++l3)[i]'(by simp only[au1];exact hi)=l2[i-l1.length]'(by omega):=by rw[ax8 (by simp;omega),ayu (by omega)]
   rw[ava j,e];exact h2 _ (by omega)
  ·have e:(l1++l2++l3)[i]'(by simp only[au1];exact hi)=l3[i-l1.length-l2.length]'(by omega):=by
    rw[ayu (by simp;omega)];congr 1;simp;omega
   rw[au6 j,e];exact h3 _ (by omega)
theorem qi{X:Nat->Nat->Prop}{g:Ty}{l:List g.den}{vs:List Value}(s:l.length*g.n<=vs.length)(j: ∀i (h:i<l.length),TR w X g l[i] ((vs.drop (i*g.n)).take g.n))(a c:Nat)(k:a+c<=l.length):
  ((vs.drop (a*g.n)).take (c*g.n)).length=((l.drop a).take c).length*g.n/\ ∀i (h:i<((l.drop a).take c).length),TR w X g ((l.drop a).take c)[i] ((((vs.drop (a*g.n)).take (c*g.n)).drop (i*g.n)).take g.n):=by
 have hm:(a+c)*g.n<=l.length*g.n:=au3 _ k;rw[azs]at hm;have hl:((l.drop a).take c).length=c:=by rw[avp,avo];omega
 refine⟨by rw[hl,avp,avo];omega,λi h=> ?_⟩;rw[hl]at h;have e:((((vs.drop (a*g.n)).take (c*g.n)).drop (i*g.n)).take g.n)=(vs.drop ((a+i)*g.n)).take g.n:=by
  apply aw2;intro q;rw[fK,fK,fK];have m:(i+1)*g.n<=c*g.n:=au3 _ h;rw[avx]at m;split
  ·rw[ava (by omega),azs,az0]
  ·rfl
 have o:((l.drop a).take c)[i]'(by rw[hl];exact h)=l[a+i]'(by omega):=by simp
 rw[e,o];exact j _ _
theorem rV{L:Nat->Prop}:eB L w w:=⟨rfl,rfl,rfl,au2 _,λ_ _ _=>rfl,λ_ _=>rfl,λ_ _ _=>rfl⟩
theorem eB.trans{L:Nat->Prop}{j m o:World}(h:eB L j m)(g:eB L m o):eB L j o:=
 ⟨g.os.trans h.os,g.tape.trans h.tape,g.output.trans h.output,auq h.size g.size,λk a hl=>(g.block k (au5 a h.size) hl).trans (h.block k a hl),λk a=>(g.shape k (au5 a h.size)).trans (h.shape k a),λk p a=>(g.frozen k p (au5 a h.size)).trans (h.frozen k p a)⟩
theorem uu{L:Nat->Prop}(h:Below w.heap.size w w'):eB L w w':=
 ⟨h.os,h.tape,h.output,h.size,λk a _=>h.block k a,λk a=>by unfold World.shape?;rw[h.block k a],λk p a=>by unfold World.frozen?;simp only[];rw[h.block k a]⟩
theorem Jx{L:Nat->Prop}:eB L w w.drew:=uu ((aw6 _ _).drew)
theorem qq{L:Nat->Prop}{b:Nat}{vs j:Array Value}{T:TypeId}{z:aR}(g:w.heap[b]? =some (.cells vs T z))(m:j.size=vs.size)(o:b<w.heap.size->L b\/w'.heap.size<=b)(s:w'.heap.size<=w.heap.size)(h:eB L w' w):eB L w' (w.setRow b j):=by
 refine⟨h.os,h.tape,h.output,by simpa using h.size,λk a hl=> ?_,λk a=> ?_,λk p a=> ?_⟩
 ·have:k≠b:=λe=>by
   subst e;rcases o (au5 a s)with h1|h1
   ·exact hl h1
   ·omega
  rw[aw4 _ _ _ _ this];exact h.block k a hl
 ·rw[<- h.shape k a]
  by_cases e:k=b
  ·subst e;unfold World.shape?;rw[axd _ _ _ _ _ _ g,g];simp[m]
  ·unfold World.shape?;rw[aw4 _ _ _ _ e]
 ·rw[<- h.frozen k p a]
  by_cases e:k=b
  ·subst e;unfold World.frozen?;simp only[];rw[axd _ _ _ _ _ _ g,g]
  ·unfold World.frozen?;simp only[];rw[aw4 _ _ _ _ e]
def jD(p:Ty)(ax:List (Option Nat))(mask:List Am)(e:Ty)(T:TypeId)(pre:p.den->Prop)(F:p.den->List e.den×Unit):Cv:=
 { p:=p,ax:=ax,mask:=mask,sz:= [],ro:=false,vi:= [(0,true,T)],q:=Ty.unit,r:= .sl e,ao:= .one none,vo:= [(0,true,T)],pre:=some pre,F:=F}
theorem ajf{p:Ty}{ax:List (Option Nat)}{mask:List Am}{e:Ty}{T:TypeId}{pre:p.den->Prop}{F:p.den->List e.den×Unit}{x:p.den}{X t:Nat->Nat->Prop}{mR:Map}{b cap:Nat}
  (h1:eB (bD mR) w w') (u:e.hasSl=false) (A:jc t w' b T e (F x).1) (C:(F x).1.length<=cap) (I:cap<=maxLen) (J:w'.shape? b=some (T,cap*e.n)) (L:bD mR b\/w.heap.size<=b) (M:b<w'.heap.size):
  ∃v m,Ending.returned (.slice (some ⟨b,0,none⟩) (F x).1.length cap)=Ending.returned v/\zh (jD p ax mask e T pre F).ao m v/\eB (λb=>((jD p ax mask e T pre F).ro=false/\b∈([]:List Nat))\/bD mR b) w w'/\
   ∀g,nodup (vnames (nmV g (jD p ax mask e T pre F).vo))=true-> ∃N O,pf (jD p ax mask e T pre F) x X [] mR g w w' m N O:=by
 refine⟨_,[_],rfl,⟨[],rfl,rfl⟩,?_,λg _=>⟨[],λk=>if k=g then some (b,2*(F x).1.length+2)else none,?_,?_,?_⟩⟩
 ·exact⟨h1.os,h1.tape,h1.output,h1.size,λk a hl=>h1.block k a (λh=>hl (.inr h)),h1.shape,h1.frozen⟩
 ·exact rfl
 ·have hm:(λk=>if k=g then some (b,2*(F x).1.length+2)else none:Map) g=some (b,2*(F x).1.length+2):=ava rfl
  have o: ∀k,vxB (nmV g [(0,true,T)]) 0 [Cell.bh e .no (F x).1] k=if k=g then some (.vec true T e (F x).1)else none:=λk=>by
   show cnd (Nat.beq k g) _ none=_;by_cases h:k=g
   ·rw[bV h,ava h]
   ·rw[bL h,au6 h]
  refine⟨λk a=> ?_,λk bx a=> ?_,⟨?_,trivial⟩,λk k' b1 p1 a1 a s _ _=> ?_,λk b1 p1 a Q=> ?_⟩
  ·have a:vxB (nmV g [(0,true,T)]) 0 [Cell.bh e .no (F x).1] k=none:=a
   rw[o]at a;split at a
   ·cases a
   ·rename_i h;exact au6 h
  ·have j:vxB (nmV g [(0,true,T)]) 0 [Cell.bh e .no (F x).1] k=some bx:=a
   rw[o]at j;clear a;split at j
   ·rename_i h
    subst h;cases j;obtain⟨vs,S,U,V,Y,Z,q5⟩:=A;exact⟨b,_,hm,.inr (.inl ⟨rfl,vs,S,U,V,Y,Z,λi hi=>(q5 i hi).od u⟩)⟩
   ·cases j
  ·exact⟨b,_,hm,by omega,.inr ⟨by omega,cap,T,by rw[eN],J,by rw[eN];exact C,I⟩⟩
  ·split at a
   ·split at s
    ·rename_i h h';exact h.trans h'.symm
    ·cases s
   ·cases a
  ·split at a
   ·cases a
    exact⟨by omega,by simp,M⟩
   ·cases a
 ·intro b1 ⟨k,p1,a,Q⟩
  dsimp only at a;split at a
  ·cases a;exact L
  ·cases a
theorem row_in{e:Ty}{T:TypeId}{l:List e.den}{rest:List Cell}{X:Nat->Nat->Prop}{v:Value}{us:List Value}{mR:Map}(hr:RowsIn X w [] (nmV bn [(0,true,T)]) (.bh e .no l::rest) (v::us) mR)(hn:1<=e.n)(I:e≠ .int .u8):
  (l= []/\v= .slice none 0 0/\ ∀b,¬ bD mR b)\/ ∃b cap vs,v= .slice (some ⟨b,0,none⟩) l.length cap/\w.heap[b]? =some (.cells vs T (0,0))/\vs.size=cap*e.n/\l.length<=cap/\cap<=maxLen/\
   (∀i (h:i<l.length),TR w X e l[i] ((vs.toList.drop (i*e.n)).take e.n))/\bD mR b/\(∀a,bD mR a->a=b):=by
 have J:vxB (nmV bn [(0,true,T)]) 0 (.bh e .no l::rest) bn=some (.vec true T e l):=by
  show cnd (Nat.beq bn bn) (some (.vec true T e l)) (vxB (nmV bn [(0,true,T)]) (0+1) rest bn)=_;rw[bV rfl]
 have L: ∀(cs:List Cell) (i:Nat) (k:Nat),vxB (nmV bn [(0,true,T)]) (i+1) cs k=none:=by
  intro cs;induction cs with
  |nil=>intro i k;rfl
  |cons c cs M=>intro i k;exact M (i+1) k
 have N: ∀k,k≠bn->mR k=none:=λk j=>hr.bK k (by
  show cnd (Nat.beq k bn) (some (.vec true T e l)) (vxB (nmV bn [(0,true,T)]) (0+1) rest k)=_;rw[bL j];exact L rest 0 k)
 have t: ∀a,bD mR a-> ∃p,mR bn=some (a,p)/\p % 2=0:=λa ⟨k,p,h1,h2⟩=>by
  by_cases j:k=bn
  ·subst j;exact⟨p,h1,h2⟩
  ·rw[N k j]at h1;cases h1
 obtain⟨b,p,hm,O⟩:=hr.box _ _ J;obtain⟨b1,p1,u,a2,x⟩:CR mR X w (.bq e bn) v:=hr.cells.1;rw[hm]at u;cases u;rcases O with⟨rfl,rfl⟩|⟨rfl,vs,cap,⟨z,A,Q⟩,C,S,U,V⟩|⟨h,_⟩
 ·refine .inl ⟨rfl,?_,λa o=> ?_⟩
  ·rcases x with⟨_,h⟩|⟨h,_⟩
   ·exact h
   ·exact absurd rfl h
  ·obtain⟨p,h1,h2⟩:=t a o
   rw[hm]at h1;cases h1;omega
 ·have Y:z=(0,0):=Q.elim id (λh=>absurd h.2 I)
  subst Y;obtain⟨g,m,Z,s⟩: ∃g m,v= .slice (some ⟨b,0,none⟩) l.length g/\w.shape? b=some (m,g*e.n):=by
   rcases x with⟨h5,_⟩|⟨_,g,m,h5,h6,_⟩
   ·omega
   ·rw[eN]at h5;exact⟨g,m,h5,h6⟩
  have h9:g=cap:=by
   have:w.shape? b=some (T,vs.size):=by unfold World.shape?;rw[A]
   rw[this]at s;simp only[aup,awk]at s;have:cap*e.n=g*e.n:=by rw[<- C,s.2]
   exact(ayr (by omega) this).symm
  subst h9;refine .inr ⟨b,g,vs,Z,A,C,S,U,V,⟨bn,_,hm,by omega⟩,λa o=> ?_⟩;obtain⟨p,h1,h2⟩:=t a o;rw[hm]at h1;cases h1;rfl
 ·cases h
theorem ajO{e:Ty}{y:e.den}{X:Nat->Nat->Prop}{v:Value}{tS el:TypeId}(ht:P.underlying tS=some (.slice el))(x:1<=e.n)(h:LR w X e.n (TR w X e) [y] v):
  ∃vb voff vc news,v= .slice (some ⟨vb,voff,none⟩) 1 vc/\vb<w.heap.size/\(∃tA m,w.shape? vb=some (tA,m)/\m≠0)/\ ¬ X vb voff/\news.length=e.n/\(∀j u,news[j]? =some u->w.cell? ⟨vb,voff+j,none⟩=some u)/\TR w X e y news/\(∀u∈news,u.oneCell'=true):=by
 rcases h with⟨h,_⟩|⟨a,cap,rfl,A,C,s,o⟩
 ·cases h
 ·obtain⟨vb,voff,sp⟩:=a
  have hs:sp=none:=s (by simp);subst hs;obtain⟨news,h1,h2,h3⟩:=xO (by omega) o.1;have k:=h3 0 (by simp);simp only[avi,avk,avs,azg]at h1;simp only[axb,awq,ax2]at k;rw[avr (by omega)]at k;have g:=h2 0 _ (avc (by omega));refine⟨vb,voff,cap,news,rfl,Ds g,?_,o.2 voff (au2 _) (by simp;omega),h1,h2,k,TR.one k⟩;unfold World.cell? at g;split at g
  ·rename_i vs T z t
   have I:voff<vs.size:=by
    simp only[awr,Option.isSome_none,awd,azj]at g;exact(Array.getElem?_eq_some_iff.1 g).1
   exact⟨T,vs.size,by unfold World.shape?;rw[t],by omega⟩
  ·cases g
theorem xH{b:Nat}{vs:Array Value}{T:TypeId}{z:aR}(a:w.heap[b]? =some (.cells vs T z)):w.shape? b=some (T,vs.size):=by unfold World.shape?;rw[a]
theorem zK{b:Nat}{o:Obj}(a:w.heap[b]? =some o):b<w.heap.size:=(Array.getElem?_eq_some_iff.1 a).1
theorem Sh{b o:Nat}{vs:Array Value}{T:TypeId}(a:w.heap[b]? =some (.cells vs T (0,0))):w.frozen? ⟨b,o,none⟩=false:=by simp[World.frozen?,a]
theorem HL{α:Type}{l:List α}{a c:Nat}(g:a+c=l.length):(l.drop a).take c=l.drop a:=avr (by rw[avo];omega)
structure nS (P:Program) (tS el:TypeId) (e:Ty) (i:TypeInfo) (z:Value):Prop where
 ht:P.underlying tS=some (.slice el)
 hi:P.info? el=some i
 sz:i.size=e.n
 zero:i.zero=some z
 zc:z.cells.toList=zeroVs e
 Nv:i.bytes<=1000
 n1:1<=e.n
 ns:e.hasSl=false
 u8:e≠ .int .u8
structure AO (P:Program) (f tS tI:TypeId) (ov:FuncId) (off:Nat->Nat):Prop where
 shift: ∀(b n c i vb voff vc:Nat) (w W1 W2:World) (x1 x2:Nat),i<n->n+1<=c->c<=9223372036854775807->
  (∀lb cb,(callFunc ov #[.slice (some ⟨vb,voff,none⟩) 1 vc,.slice (some ⟨b,off (i+1),none⟩) lb cb]).run P w= .ok (.value (.bool false)) w)->
  (∀ty dc sc,(Builtin.copy_ #[tS,tS] ty #[.slice (some ⟨b,off (i+1),none⟩) (n-i) dc,.slice (some ⟨b,off i,none⟩) (n+1-i) sc]).run P w.drew= .ok (goInt x1) W1)->
  (∀ty dc,(Builtin.copy_ #[tS,tS] ty #[.slice (some ⟨b,off i,none⟩) (n+1-i) dc,.slice (some ⟨vb,voff,none⟩) 1 vc]).run P W1= .ok (goInt x2) W2)->
  Calls P f #[.slice (some ⟨b,0,none⟩) n c,.int .i64 i,.slice (some ⟨vb,voff,none⟩) 1 vc] w λe w'=>e= .returned (.slice (some ⟨b,0,none⟩) (n+1) c)/\w'=W2
 grow: ∀(b n c i vb voff vc:Nat) (G:Nat) (w W0 W1 W2:World) (x1 x2:Nat),i<n->n<=c->c<n+1->c<=4611686018427387903->n+1<=G->G<=9223372036854775807-> ∀(nb:Nat),
  (∀ty,(Builtin.append_ #[tS,tI] ty #[.slice (some ⟨b,0,none⟩) i c,.int .i64 ((n:Int)+1 - (i:Int))]).run P w= .ok (.slice (some ⟨nb,0,none⟩) (n+1) G) W0)->
  (∀ty dc,(Builtin.copy_ #[tS,tS] ty #[.slice (some ⟨nb,off i,none⟩) (n+1-i) dc,.slice (some ⟨vb,voff,none⟩) 1 vc]).run P W0= .ok (goInt x1) W1)->
  (∀ty dc sc,(Builtin.copy_ #[tS,tS] ty #[.slice (some ⟨nb,off (i+1),none⟩) (n-i) dc,.slice (some ⟨b,off i,none⟩) (n-i) sc]).run P W1.drew= .ok (goInt x2) W2)->
  Calls P f #[.slice (some ⟨b,0,none⟩) n c,.int .i64 i,.slice (some ⟨vb,voff,none⟩) 1 vc] w λe w'=>e= .returned (.slice (some ⟨nb,0,none⟩) (n+1) G)/\w'=W2
 last: ∀(base:Option Addr) (n c vb voff vc:Nat) (w W:World) (u:Value),n<=c->(base=none->n=0/\c=0)->
  (∀ty,(Builtin.append_ #[tS,tS] ty #[.slice base n c,.slice (some ⟨vb,voff,none⟩) 1 vc]).run P w= .ok u W)->
  Calls P f #[.slice base n c,.int .i64 n,.slice (some ⟨vb,voff,none⟩) 1 vc] w λe w'=>e= .returned u/\w'=W
theorem Bf(base:Option Addr)(n c:Nat)(w:World):(Builtin.lenOf (.slice base n c)).run P w= .ok n w:=by simp[Builtin.lenOf]
def sL(mR:Map)(w:World)(el:Nat)(e:Ty)(l:List e.den)(a:Ending)(w':World):Prop:=
 ∃b cap g,a= .returned (.slice (some ⟨b,0,none⟩) l.length cap)/\eB (bD mR) w w'/\jc g w' b el e l/\l.length<=cap/\cap<=maxLen/\w'.shape? b=some (el,cap*e.n)/\(bD mR b\/w.heap.size<=b)/\b<w'.heap.size
structure pB (w:World) (X:Nat->Nat->Prop) (e:Ty) (y:e.den) (vb voff:Nat) (news:List Value):Prop where
 lt:vb<w.heap.size
 shape: ∃tA kA,w.shape? vb=some (tA,kA)/\kA≠0
 noX: ¬ X vb voff
 len:news.length=e.n
 cell: ∀j u,news[j]? =some u->w.cell? ⟨vb,voff+j,none⟩=some u
 tr:TR w X e y news
 one: ∀u∈news,u.oneCell'=true
theorem pB.chunk{X:Nat->Nat->Prop}{e:Ty}{y:e.den}{vb voff:Nat}{news:List Value}(h:pB w X e y vb voff news): ∀r (hr:r< [y].length),TR w X e [y][r] ((news.drop (r*e.n)).take e.n):=λr hr=>by
 have:r=0:=by simpa using hr
 subst this;rw[axb,awq,avr (by rw[h.len];exact au2 _)];exact h.tr
theorem pB.src{X:Nat->Nat->Prop}{e:Ty}{y:e.den}{vb voff vc:Nat}{news:List Value}{tS el:TypeId}(ht:P.underlying tS=some (.slice el))(h:pB w X e y vb voff news){W:World}(a:W.heap[vb]? =w.heap[vb]?):Src P e.n tS (.slice (some ⟨vb,voff,none⟩) 1 vc) 1 news W:=
 Src.ofSlice W ht ⟨vb,voff,none⟩ 1 vc news (by rw[h.len,azg]) (λj u g=>by
  rw[azf];have:=h.cell j u g;unfold World.cell? at this⊢;rw[a];exact this) h.one
section
variable {f tS tI el ov vb voff vc ii c:Nat} {e:Ty} {i:TypeInfo} {z:Value} {off:Nat->Nat} {X:Nat->Nat->Prop} {y:e.den} {news:List Value} {l:List e.den} {mR:Map}
theorem Rv(a:nS P tS el e i z)(W:AO P f tS tI ov off)(g:pB w X e y vb voff news){base:Option Addr}{olds:List Value}(h3:l.length<=100000)(k:c<l.length+1)(m:l.length<=c)(o:base=none->l.length=0/\c=0)
  (s:(Builtin.firstCells i.size l.length (.slice base l.length c)).run P w.drew= .ok olds.toArray w.drew) (t:olds.length=l.length*e.n) (u: ∀i (h:i<l.length),TR w X e l[i] ((olds.drop (i*e.n)).take e.n)):
  Calls P f #[.slice base l.length c,.int .i64 (l.length:Int),.slice (some ⟨vb,voff,none⟩) 1 vc] w (sL mR w el e (l++ [y])):=by
 have x:(l.length+1)*i.bytes<=140737488355328:=auq (aza (show l.length+1<=100001 by omega) a.Nv) (by decide);obtain⟨w',cap,A,C,I,J,L,M,N⟩:=Oo (ty:=0) (l1:=l) (l2:= [y]) a.ht a.hi a.zero a.sz a.zc s t u (v2:= .slice (some ⟨vb,voff,none⟩) 1 vc) ⟨news,.inl (g.src a.ht rfl),by simpa using g.len,g.one,g.chunk⟩ (by simp) a.n1 k x (by simp;omega);refine(W.last base _ c vb voff vc w w' _ m o (λty=>A)).mono ?_;rintro O Q ⟨rfl,rfl⟩
 have j:(l++ [y]).length=l.length+1:=by simp
 exact⟨_,cap,_,by rw[j];rfl,uu C,N X fJ,by rw[j];exact J,L,M,.inr (au2 _),I⟩
theorem ah8(j:nS P tS el e i z)(W:AO P f tS tI ov off)(u:pB w X e y vb voff news){b:Nat}{vs:Array Value}(k:w.heap[b]? =some (.cells vs el (0,0)))(m:vs.size=c*e.n)(A:c<=maxLen)(o:l.length+1<=c)
  (T: ∀i (h:i<l.length),TR w X e l[i] ((vs.toList.drop (i*e.n)).take e.n)) (C:bD mR b) (h8: ∀q,X b q):
  Calls P f #[.slice (some ⟨b,0,none⟩) l.length c,.int .i64 (l.length:Int),.slice (some ⟨vb,voff,none⟩) 1 vc] w (sL mR w el e (l++ [y])):=by
 have I:(l.length+1)*e.n<=c*e.n:=au3 _ o;rw[avx]at I;have J:=u.len;have M:=λty:TypeId=>GG (P:=P) (w:=w) tS tS ty el i j.ht j.hi b l.length c vs (q:=True) k (.inl rfl) (by rw[j.sz];exact u.src (vc:=vc) j.ht rfl) o (by rw[j.sz,J,m];exact I)
 rw[j.sz]at M;let g:Array Value:=(vs.toList.take (l.length*e.n)++news++vs.toList.drop (l.length*e.n+news.length)).toArray
 have s:g.size=vs.size:=by simp[g];omega
 have U:eB (bD mR) w (w.setRow b g):=qq k s (λ_=> .inl C) (au2 _) rV;have V:dG (λa _=>a=b\/X a 0) w (w.setRow b g):=eB.keeps (L:=λa=>a=b) (qq k s (λ_=> .inl rfl) (au2 _) rV) (λa Y p=> .inl Y);have x:(w.setRow b g).heap[b]? =some (.cells g el (0,0)):=axd _ _ _ _ _ _ k;refine(W.last (some ⟨b,0,none⟩) _ c vb voff vc w (w.setRow b g) _ (by omega) (λh=>by cases h) M).mono ?_;rintro e' w2 ⟨rfl,rfl⟩
 have N:(l++ [y]).length=l.length+1:=by simp
 have Z:l.length*e.n<=vs.toList.length:=by rw[avd (xs:=vs),m];exact au3 _ (by omega)
 obtain⟨O,Q⟩:=qi Z T 0 l.length (by omega);simp only[axb,awq,axy]at O Q;have S: ∀{t:e.den} {us:List Value},TR w X e t us->TR (w.setRow b g) (λa _=>a=b\/X a 0) e t us:=λh=>TR.mono V fJ _ _ _ (h.od j.ns)
 refine⟨b,c,λa _=>a=b\/X a 0,by rw[N],U,?_,by rw[N];exact o,A,by rw[xH x,s,m],.inl C,?_⟩
 ·have:=Fw (w':=w.setRow b g) (X':=λa _=>a=b\/X a 0) (l1:=l) (l2:= [y]) (l3:= []) (xs:=vs.toList.take (l.length*e.n)) (ys:=news) (zs:= []) (rest:=vs.toList.drop (l.length*e.n+news.length)) (cap:=c) (vs:=g) (b:=b) (el:=el) O (by simpa using J) (by simp only[avk,axb]) (λi h=>S (Q i h)) (λi h=>S (u.chunk i h)) (λi h=>by simp at h) (by simp[g]) ⟨_,x,.inl rfl⟩ (by rw[s,m]) (by simpa using o) A
  simpa using this
 ·have:=zK x
  exact this
theorem Ji{a:List Value}{l:List e.den}(j:1<=e.n)(k:a.length=l.length*e.n)(m: ∀i (h:i<l.length),TR w X e l[i] ((a.drop (i*e.n)).take e.n)): ∀u∈a,u.oneCell'=true:=λu o=>by
 obtain⟨q,g,rfl⟩:=av0 o;have s:q<l.length*e.n:=by rw[<- k];exact g
 have t:q/e.n<l.length:=Nat.div_lt_of_lt_mul (by rw[aze];exact s);have x:=m (q/e.n) t;refine TR.one x _ ?_;have A:=aAq q e.n;have C:((a.drop (q/e.n*e.n)).take e.n)[q % e.n]? =some a[q]:=by
  rw[fK,ava (aA8 _ j),show q/e.n*e.n+q % e.n=q by rw[aze];exact A,avc g]
 exact axc C
theorem xV{b a k:Nat}{vs:Array Value}{T:TypeId}{h:aR}(m:w.heap[b]? =some (.cells vs T h)): ∀j u,((vs.toList.drop a).take k)[j]? =some u->w.cell? ⟨b,a+j,none⟩=some u:=λj u g=>by
 rw[av7]at g;split at g
 ·rw[awl,avy]at g
  unfold World.cell?;simp only[m];exact g
 ·cases g
theorem agv(x:nS P tS el e i z)(W:AO P f tS tI ov off)(Q: ∀j,off j=j*e.n)(C:pB w X e y vb voff news)
  (d0: ∀(w:World) (vb voff vc b o lb S tA M tB T:Nat),vb≠b->w.shape? vb=some (tA,M)->M≠0->w.shape? b=some (tB,T)->T≠0->w.frozen? ⟨b,o,none⟩=false->w.frozen? ⟨b,T,none⟩=false->
   (callFunc ov #[.slice (some ⟨vb,voff,none⟩) 1 vc,.slice (some ⟨b,o,none⟩) lb S]).run P w= .ok (.value (.bool false)) w)
  {b:Nat} {vs:Array Value} (A:w.heap[b]? =some (.cells vs el (0,0))) (U:vs.size=c*e.n) (V:c<=maxLen) (Y:l.length+1<=c) (a2:ii<l.length)
  (a3: ∀i (h:i<l.length),TR w X e l[i] ((vs.toList.drop (i*e.n)).take e.n)) (a4:bD mR b) (d6: ∀q,X b q):
  Calls P f #[.slice (some ⟨b,0,none⟩) l.length c,.int .i64 (ii:Int),.slice (some ⟨vb,voff,none⟩) 1 vc] w (sL mR w el e (l.take ii++ [y]++l.drop ii)):=by
 have hn:=x.n1;have d9:(l.length+1)*e.n<=vs.size:=by rw[U];exact au3 _ Y
 rw[avx]at d9;have e0:(ii+1)*e.n<=l.length*e.n:=au3 _ a2;have e3:=e0;rw[avx]at e3;have hS:(ii+1)*e.n=ii*e.n+e.n:=avx _ _;have a5:l.length*e.n<=vs.toList.length:=by rw[avd (xs:=vs)];omega
 have a6:=C.len;have a7:vb≠b:=λh=>C.noX (h▸d6 voff)
 obtain⟨tA,M,e4,e5⟩:=C.shape;obtain⟨s1,s2⟩:=qi a5 a3 0 ii (by omega);obtain⟨I,N⟩:=qi a5 a3 ii (l.length-ii) (by omega);rw[HL (l:=l) (by omega)]at I N;simp only[axb,awq]at s1 s2;obtain⟨a,b2⟩: ∃a,a=(vs.toList.drop (ii*e.n)).take ((l.length-ii)*e.n):=⟨_,rfl⟩
 rw[<- b2]at I N;have b3:a.length=(l.length-ii)*e.n:=by rw[I,avo]
 have f9:(l.length-ii)*e.n=l.length*e.n-ii*e.n:=axa _ _ _;have e6: ∀u∈a,u.oneCell'=true:=Ji hn I N
 let g:Array Value:=(vs.toList.take ((ii+1)*e.n)++a++vs.toList.drop ((ii+1)*e.n+a.length)).toArray
 have b4:g.size=vs.size:=by simp[g];omega
 have Z:((w.drew).setRow b g).heap[b]? =some (.cells g el (0,0)):=axd _ _ _ _ _ _ A;have e7: ∀ty J O,(Builtin.copy_ #[tS,tS] ty #[.slice (some ⟨b,off (ii+1),none⟩) (l.length-ii) J,.slice (some ⟨b,off ii,none⟩) (l.length+1-ii) O]).run P w.drew= .ok (goInt ((l.length-ii:Nat):Int)) (w.drew.setRow b g):=λty J O=>by
  rw[Q,Q];have e8:Nat.min (l.length+1-ii) (l.length-ii)=l.length-ii:=Nat.min_eq_right (by omega);have e9:(Builtin.firstCells i.size (l.length-ii) (.slice (some ⟨b,ii*e.n,none⟩) (l.length+1-ii) O)).run P w.drew= .ok a.toArray w.drew:=
   ayh w.drew i.size _ ⟨b,ii*e.n,none⟩ _ O a (by rw[x.sz];exact b3) (λj u hj=>by rw[azf];rw[b2]at hj;exact xV (w:=w.drew) A j u hj)
  have b6:=pL (P:=P) b ((ii+1)*e.n) el a 0 vs w.drew (q:=True) A (.inl rfl) (by rw[b3];omega) e6;simp only[awr]at b6;unfold Builtin.copy_;simp[avg x.ht,Bf,e8,sizeOf,typeInfo,x.hi,e9,b6,goInt,g]
 let s:World:=w.drew.setRow b g
 let k:Array Value:=(g.toList.take (ii*e.n)++news++g.toList.drop (ii*e.n+news.length)).toArray
 have h8:k.size=vs.size:=by simp[k];omega
 have h9:(s.setRow b k).heap[b]? =some (.cells k el (0,0)):=axd _ _ _ _ _ _ Z;have f0:s.heap[vb]? =w.heap[vb]? :=aw4 _ _ _ _ a7;have f1: ∀ty J,(Builtin.copy_ #[tS,tS] ty #[.slice (some ⟨b,off ii,none⟩) (l.length+1-ii) J,.slice (some ⟨vb,voff,none⟩) 1 vc]).run P s= .ok (goInt ((1:Nat):Int)) (s.setRow b k):=λty J=>by
  rw[Q];have f2:=C.src (P:=P) (vc:=vc) x.ht f0;exact HE x.ht x.hi (q:=True) Z (.inl rfl) (Bf _ _ _) (by omega) (by rw[x.sz];exact f2.cells) C.one (by omega)
 refine(W.shift b l.length c ii vb voff vc w s (s.setRow b k) _ _ a2 Y (by simpa[maxLen]using V) (λlb S=>d0 w vb voff vc b _ lb S tA M el vs.size a7 e4 e5 (xH A) (by omega) (Sh A) (Sh A)) e7 f1).mono ?_;rintro e' w2 ⟨rfl,rfl⟩
 have b7: ∀{L:Nat->Prop},L b->eB L w (s.setRow b k):=λhL=>
  (Jx.trans (qq (w:=w.drew) A b4 (λ_=> .inl hL) (au2 _) rV)).trans (qq (w:=s) Z (by rw[h8,b4]) (λ_=> .inl hL) (au2 _) rV)
 have f3:dG (λm _=>m=b\/X m 0) w (s.setRow b k):=eB.keeps (L:=λm=>m=b) (b7 rfl) (λm f4 p=> .inl f4);have a1: ∀{t:e.den} {us:List Value},TR w X e t us->TR (s.setRow b k) (λm _=>m=b\/X m 0) e t us:=λh=>TR.mono f3 fJ _ _ _ (h.od x.ns)
 have c0:(l.take ii++ [y]++l.drop ii).length=l.length+1:=by simp;omega
 have f5:k.toList=vs.toList.take (ii*e.n)++news++a++vs.toList.drop ((ii+1)*e.n+a.length):=by
  have e1:g.toList=vs.toList.take ((ii+1)*e.n)++a++vs.toList.drop ((ii+1)*e.n+a.length):=rfl;have e2:k.toList=g.toList.take (ii*e.n)++news++g.toList.drop (ii*e.n+news.length):=rfl;have c9:(vs.toList.take ((ii+1)*e.n)).length=(ii+1)*e.n:=by rw[avp];omega
  rw[e2,e1,avb (vs.toList.take ((ii+1)*e.n)),aw7 (by rw[c9,avx];omega),List.take_take,az1 (by rw[avx];omega),a6,<- avx,List.drop_left' c9];simp only[avb,Nat.succ_eq_add_one]
 refine⟨b,c,λm _=>m=b\/X m 0,by rw[c0],b7 a4,?_,by rw[c0];exact Y,V,by rw[xH h9,h8,U],.inl a4,zK h9⟩;exact Fw (l1:=l.take ii) (l2:= [y]) (l3:=l.drop ii) (cap:=c) s1 (by simpa using a6) I (λi h=>a1 (s2 i h)) (λi h=>a1 (C.chunk i h)) (λi h=>a1 (N i h)) f5 ⟨_,h9,.inl rfl⟩ (by rw[h8,U]) (by simp;omega) V
theorem ahl(k:nS P tS el e i z)(e8:P.underlying tI=some (.int .i64))(W:AO P f tS tI ov off)(U: ∀j,off j=j*e.n)(J:pB w X e y vb voff news)
  {b:Nat} {vs:Array Value} (V:w.heap[b]? =some (.cells vs el (0,0))) (e9:vs.size=c*e.n) (h3:l.length<=100000) (a7:l.length<=c) (a9:c<l.length+1) (b0:ii<l.length)
  (b2: ∀i (h:i<l.length),TR w X e l[i] ((vs.toList.drop (i*e.n)).take e.n)):
  Calls P f #[.slice (some ⟨b,0,none⟩) l.length c,.int .i64 (ii:Int),.slice (some ⟨vb,voff,none⟩) 1 vc] w (sL mR w el e (l.take ii++ [y]++l.drop ii)):=by
 have hn:=k.n1;have f0:l.length*e.n<=vs.size:=by rw[e9];exact au3 _ a7
 have i3:(ii+1)*e.n<=l.length*e.n:=au3 _ b0;have hS:(ii+1)*e.n=ii*e.n+e.n:=avx _ _;have b4:l.length*e.n<=vs.toList.length:=by rw[avd (xs:=vs)];exact f0
 have b5:=J.len;obtain⟨s1,s2⟩:=qi b4 b2 0 ii (by omega);obtain⟨M,O⟩:=qi b4 b2 ii (l.length-ii) (by omega);rw[HL (l:=l) (by omega)]at M O;simp only[axb,awq]at s1 s2;obtain⟨s,b9⟩: ∃s,s=(vs.toList.drop (ii*e.n)).take ((l.length-ii)*e.n):=⟨_,rfl⟩
 rw[<- b9]at M O;have f1:s.length=(l.length-ii)*e.n:=by rw[M,avo]
 have i5:(l.length-ii)*e.n=l.length*e.n-ii*e.n:=axa _ _ _;have f2: ∀u∈s,u.oneCell'=true:=Ji hn M O
 have hk:ii+(l.length+1-ii)=l.length+1:=by omega
 have f3:(Builtin.firstCells i.size ii (.slice (some ⟨b,0,none⟩) ii c)).run P w.drew= .ok (vs.toList.take (ii*e.n)).toArray w.drew:=
  ayh w.drew i.size _ ⟨b,0,none⟩ _ c _ (by rw[k.sz,avp];omega) (λj u Q=>by
   rw[azf];exact xV (w:=w.drew) (a:=0) V j u (by rw[awq];exact Q))
 have f4:(l.length+1)*i.bytes<=140737488355328:=auq (aza (show l.length+1<=100001 by omega) k.Nv) (by decide);have f5:(l.length+1-ii)*i.bytes<=281474976710656:=auq (aza (show l.length+1-ii<=100001 by omega) k.Nv) (by decide);have Y:=λty:TypeId=>Lib.run_append_grow_zeros (P:=P) w tS tI ty el i z .i64 .i64 k.ht e8 k.hi k.zero (some ⟨b,0,none⟩) ii c _ f3 (l.length+1-ii) (by omega) (by rw[k.sz];exact hn) (by omega) (by omega) f5 (by rw[hk];exact aBq a9 f4)
 rw[hk]at Y;obtain⟨g,Z⟩: ∃g,g=grownCap w (l.length+1) c el:=⟨_,rfl⟩
 rw[<- Z]at Y;have S:l.length+1<=g:=by rw[Z];exact grownCap_ge w _ _ _
 have h8:g<=maxLen:=by rw[Z];exact aAz w _ c el (by unfold maxLen;omega)
 have f6:z.cells.size=e.n:=by rw[<- avd,k.zc,oo]
 let o:Array Value:=(vs.toList.take (ii*e.n)).toArray++Builtin.zeroCells z.cells (l.length+1-ii)++Builtin.zeroCells z.cells (g - (l.length+1))
 have c9:o.size=g*e.n:=by
  have e1:(l.length+1-ii)*e.n=(l.length+1)*e.n-ii*e.n:=axa _ _ _;have e2:(g - (l.length+1))*e.n=g*e.n - (l.length+1)*e.n:=axa _ _ _;have e3:(l.length+1)*e.n<=g*e.n:=au3 _ S;have e4:(l.length+1)*e.n=l.length*e.n+e.n:=avx _ _;have e5:o.size=ii*e.n+(l.length+1-ii)*e.n+(g - (l.length+1))*e.n:=by
   simp only[o,Array.size_append,size_zeroCells,f6,ax3];rw[avp];omega
  omega
 let A:World:=w.drew.alloc (.cells o el)
 have h9:A.heap[w.heap.size]? =some (.cells o el (0,0)):=by show(w.heap.push _)[w.heap.size]? =_;simp
 have f7:b<w.heap.size:=zK V;have a1:Below w.heap.size w A:=Below.O7 w _;have i7:(l.length+1)*e.n<=g*e.n:=au3 _ S;have i9:(l.length+1)*e.n=l.length*e.n+e.n:=avx _ _;let m:Array Value:=(o.toList.take (ii*e.n)++news++o.toList.drop (ii*e.n+news.length)).toArray
 have f8:o.toList.length=g*e.n:=by rw[avd (xs:=o)];exact c9
 have a2:m.size=g*e.n:=by simp only[m,ax3,au1,avp,avo,f8];omega
 let x:World:=A.setRow w.heap.size m
 have a3:x.heap[w.heap.size]? =some (.cells m el (0,0)):=axd _ _ _ _ _ _ h9;let C:Array Value:=(m.toList.take ((ii+1)*e.n)++s++m.toList.drop ((ii+1)*e.n+s.length)).toArray
 have f9:m.toList.length=g*e.n:=by rw[avd (xs:=m)];exact a2
 have a4:C.size=g*e.n:=by simp only[C,ax3,au1,avp,avo,f9];omega
 let I:World:=x.drew.setRow w.heap.size C
 have a5:I.heap[w.heap.size]? =some (.cells C el (0,0)):=axd x.drew _ _ _ _ _ a3;have g0: ∀ty N,(Builtin.copy_ #[tS,tS] ty #[.slice (some ⟨w.heap.size,off ii,none⟩) (l.length+1-ii) N,.slice (some ⟨vb,voff,none⟩) 1 vc]).run P A= .ok (goInt ((1:Nat):Int)) x:=λty N=>by
  rw[U];have g1:=J.src (P:=P) (vc:=vc) k.ht (a1.block vb J.lt);exact HE k.ht k.hi (q:=True) h9 (.inl rfl) (Bf _ _ _) (by omega) (by rw[k.sz];exact g1.cells) J.one (by omega)
 have g2:x.drew.heap[b]? =some (.cells vs el (0,0)):=by
  show(A.setRow w.heap.size m).heap[b]? =_;rw[aw4 _ _ _ _ (by omega),a1.block b f7];exact V
 have g3: ∀ty N T,(Builtin.copy_ #[tS,tS] ty #[.slice (some ⟨w.heap.size,off (ii+1),none⟩) (l.length-ii) N,.slice (some ⟨b,off ii,none⟩) (l.length-ii) T]).run P x.drew= .ok (goInt ((l.length-ii:Nat):Int)) I:=λty N T=>by
  rw[U,U];have g4:(Builtin.firstCells i.size (l.length-ii) (.slice (some ⟨b,ii*e.n,none⟩) (l.length-ii) T)).run P x.drew= .ok s.toArray x.drew:=
   ayh x.drew i.size _ ⟨b,ii*e.n,none⟩ _ T s (by rw[k.sz];exact f1) (λj u Q=>by rw[azf];rw[b9]at Q;exact xV g2 j u Q)
  exact HE k.ht k.hi (q:=True) (w:=x.drew) a3 (.inl rfl) (Bf _ _ _) (au2 _) g4 f2 (by omega)
 refine(W.grow b l.length c ii vb voff vc g w A x I _ _ b0 a7 a9 (by omega) S (by simpa[maxLen]using h8) w.heap.size (λty=>by
  have:=Y ty;rw[show((l.length+1-ii:Nat):Int)=(l.length:Int)+1 - (ii:Int)by omega]at this;exact this) g0 g3).mono ?_
 rintro e' w2 ⟨rfl,rfl⟩
 have g5:A.heap.size=w.heap.size+1:=by show(w.heap.push _).size=_;simp
 have d9: ∀{L:Nat->Prop},eB L w I:=λ{L}=>
  qq (w:=x.drew) (z:=(0,0)) a3 (by rw[a4,a2]) (λ_=> .inr (au2 _)) (by show w.heap.size<=(A.setRow w.heap.size m).heap.size;simp[g5]) ((qq (w:=A) h9 (by rw[a2,c9]) (λ_=> .inr (au2 _)) (by omega) (uu a1)).trans Jx)
 have g6:dG X w I:=eB.keeps (L:=λ_=>False) d9 (λb' g7 p=>g7.elim);have a6: ∀{t:e.den} {us:List Value},TR w X e t us->TR I X e t us:=λh=>TR.mono g6 fJ _ _ _ h
 have e6:(l.take ii++ [y]++l.drop ii).length=l.length+1:=by simp;omega
 have g8:C.toList=vs.toList.take (ii*e.n)++news++s++m.toList.drop ((ii+1)*e.n+s.length):=by
  have e0:o.toList=vs.toList.take (ii*e.n)++((Builtin.zeroCells z.cells (l.length+1-ii)).toList++(Builtin.zeroCells z.cells (g - (l.length+1))).toList):=by simp only[o,Array.toList_append,avb]
  have e1:m.toList=o.toList.take (ii*e.n)++news++o.toList.drop (ii*e.n+news.length):=rfl;have e2:C.toList=m.toList.take ((ii+1)*e.n)++s++m.toList.drop ((ii+1)*e.n+s.length):=rfl;have e7:(vs.toList.take (ii*e.n)).length=ii*e.n:=by rw[avp];omega
  have e3:o.toList.take (ii*e.n)=vs.toList.take (ii*e.n):=by rw[e0,List.take_left' e7]
  have e4:m.toList.take ((ii+1)*e.n)=vs.toList.take (ii*e.n)++news:=by
   rw[e1,e3];exact List.take_left' (by rw[au1,e7,b5];omega)
  rw[e2,e4]
 refine⟨w.heap.size,g,X,by rw[e6],d9,?_,by rw[e6];exact S,h8,by rw[xH a5,a4],.inr (au2 _),zK a5⟩;exact Fw (l1:=l.take ii) (l2:= [y]) (l3:=l.drop ii) (cap:=g) s1 (by simpa using b5) M (λi h=>a6 (s2 i h)) (λi h=>a6 (J.chunk i h)) (λi h=>a6 (O i h)) g8 ⟨_,a5,.inl rfl⟩ a4 (by simp;omega) h8
end
theorem Rm{p:Ty}{ax:List (Option Nat)}{mask:List Am}{e:Ty}{T:TypeId}{pre:p.den->Prop}{F:p.den->List e.den×Unit}{x:p.den}{X:Nat->Nat->Prop}{mR:Map}(k:e.hasSl=false){a:Ending}{w':World}(h:sL mR w T e (F x).1 a w'):
  ∃v g,a=Ending.returned v/\zh (jD p ax mask e T pre F).ao g v/\eB (λb=>((jD p ax mask e T pre F).ro=false/\b∈([]:List Nat))\/bD mR b) w w'/\
   ∀j,nodup (vnames (nmV j (jD p ax mask e T pre F).vo))=true-> ∃m o,pf (jD p ax mask e T pre F) x X [] mR j w w' g m o:=by
 obtain⟨b,cap,L,rfl,s,t,u,A,C,I,J⟩:=h;exact ajf s k t u A C I J
def El(e:Ty)(x:(Ty.pair (.sl e) (.pair (.int .i64) (.sl e))).den):Prop:=0<=x.2.1/\x.2.1<=(x.1.length:Int)/\x.2.2.length=1/\x.1.length<=100000
theorem Kl{G:Gd}{f tS tI el ov:Nat}{e:Ty}{i:TypeInfo}{z:Value}{off:Nat->Nat}(g:nS P tS el e i z)(h8:P.underlying tI=some (.int .i64))(O: ∀j,off j=j*e.n)
  (h9: ∀(w:World) (vb voff vc b o lb cb tA Q tB J:Nat),vb≠b->w.shape? vb=some (tA,Q)->Q≠0->w.shape? b=some (tB,J)->J≠0->w.frozen? ⟨b,o,none⟩=false->w.frozen? ⟨b,J,none⟩=false->
   (callFunc ov #[.slice (some ⟨vb,voff,none⟩) 1 vc,.slice (some ⟨b,o,none⟩) lb cb]).run P w= .ok (.value (.bool false)) w)
  (W:AO P f tS tI ov off):
  gG P G f (jD (.pair (.sl e) (.pair (.int .i64) (.sl e))) [none,none,none] [.v,.v,.v] e el (El e) (λx=>(x.1.take x.2.1.toNat++x.2.2++x.1.drop x.2.1.toNat,()))):=by
 intro x w X args va cs pc bs mR hH hX a4 d7 d9 S k a5 a6 s;obtain⟨h0,h1,h2,h3⟩:=a4 _ rfl;obtain⟨l,j,ys⟩:=x;simp only at h0 h1 h2 h3;match ys,h2 with
 | [y],_=>
 obtain⟨ii,rfl⟩:=awe h0;obtain⟨T⟩:=args;have k:mv [.v,.v,.v] T va bs:=k;match T,k with
 | [v0,U,v2],k=>
 obtain⟨_,rfl,_,rfl,_,rfl,a7⟩:=k;obtain⟨rfl,rfl⟩:=a7;obtain⟨_,rfl,_,rfl,_,rfl,rfl⟩:=a5;have a9:pc= []:=a6;subst a9;have s:RowsIn X w [] (nmV bn [(0,true,el)]) (.bh e .no l:: [.int .i64 (ii:Int),.bh e .no [y]]) (v0:: [U,v2]) mR:=s;obtain⟨_,b0,b2,_⟩:=s.cells;have b3:U= .int .i64 (ii:Int):=b0;subst b3;obtain⟨vb,voff,vc,news,rfl,o1,o2,o3,o4,o5,o6,o7⟩:=ajO g.ht g.n1 b2.1;have m:pB w X e y vb voff news:=⟨o1,o2,o3,o4,o5,o6,o7⟩;have c9:ii<=l.length:=Int.ofNat_le.1 h1;suffices hs:Calls P f #[v0,.int .i64 (ii:Int),.slice (some ⟨vb,voff,none⟩) 1 vc] w (sL mR w el e (l.take ii++ [y]++l.drop ii))from hs.mono λe' w' h=>Rm g.ns h
 have V:ii=l.length->l.take ii++ [y]++l.drop ii=l++ [y]:=λh=>by rw[h,avr (au2 _),ax1 (au2 _),aws]
 rcases row_in s g.n1 g.u8 with⟨rfl,rfl,_⟩|⟨b,cap,vs,rfl,t,A,L,Y,C,I,_⟩
 ·have d0:ii=0:=by simpa using c9
  subst d0;rw[V rfl];exact Rv (l:= []) (c:=0) g W m (base:=none) (olds:= []) (by simp) (by simp) (by simp) (λ_=>⟨rfl,rfl⟩) (aAs _ _ _ _ _) (by simp) (λi hi=>by simp at hi)
 ·by_cases hi:ii=l.length
  ·rw[V hi]
   subst hi;by_cases M:l.length+1<=cap
   ·exact ah8 g W m t A Y M C I (S b I)
   ·have d5:l.length*e.n<=vs.size:=by rw[A];exact au3 _ L
    obtain⟨N,Z⟩:=qi (w:=w) (X:=X) (vs:=vs.toList) (by rw[avd (xs:=vs)];exact d5) C 0 l.length (by omega);simp only[axb,awq,axy]at N Z;exact Rv g W m h3 (by omega) L (λh=>by cases h) (olds:=vs.toList.take (l.length*e.n)) (ayh w.drew i.size _ ⟨b,0,none⟩ _ cap _ (by rw[g.sz];exact N) (λj u hj=>by
     rw[azf];exact xV (w:=w.drew) (a:=0) t j u (by rw[awq];exact hj))) N Z
  ·by_cases M:l.length+1<=cap
   ·exact agv g W O m h9 t A Y M (by omega) C I (S b I)
   ·exact ahl g h8 W O m t A h3 L (by omega) (by omega) C
structure as9 (P:Program) (f tS:TypeId) (off:Nat->Nat):Prop where
 walk: ∀(b n c i:Nat) (A:Addr) (w W1 W2:World),i<n->n<=c->c<=9223372036854775807->(if c=i+1 then some (⟨b,0,none⟩:Addr)else some ⟨b,off (i+1),none⟩)=some A->
  (∀ty,(Builtin.append_ #[tS,tS] ty #[.slice (some ⟨b,0,none⟩) i c,.slice (some A) (n - (i+1)) (c - (i+1))]).run P w.drew= .ok (.slice (some ⟨b,0,none⟩) (n-1) c) W1)->
  (∀ty,(Builtin.clear_ #[tS] ty #[.slice (some ⟨b,off (n-1),none⟩) (n - (n-1)) (c - (n-1))]).run P W1= .ok (.tuple #[]) W2)->
  Calls P f #[.slice (some ⟨b,0,none⟩) n c,.int .i64 i,.int .i64 ((i:Int)+1)] w λe w'=>e= .returned (.slice (some ⟨b,0,none⟩) (n-1) c)/\w'=W2
def KN(e:Ty)(x:(Ty.pair (.sl e) (.pair (.int .i64) (.int .i64))).den):Prop:=0<=x.2.1/\x.2.1<(x.1.length:Int)/\x.2.2=x.2.1+1/\x.1.length<=100000
theorem aeN: ∀(t:Ty),∀u∈zeroVs t,u.oneCell'=true:=λt=>TR.one (w:={ (default:World)with}) (X:=λ_ _=>False) (S1 t)
theorem UJ{G:Gd}{f tS el:Nat}{e:Ty}{i:TypeInfo}{z:Value}{off:Nat->Nat}(a:nS P tS el e i z)(a2: ∀j,off j=j*e.n)(W:as9 P f tS off):
  gG P G f (jD (.pair (.sl e) (.pair (.int .i64) (.int .i64))) [none,none,none] [.v,.v,.v] e el (KN e) (λx=>(x.1.take x.2.1.toNat++x.1.drop (x.2.1.toNat+1),()))):=by
 intro x w X args va cs pc bs mR hH hX c9 g4 g5 g6 o d0 d5 N;obtain⟨h0,h1,h2,h3⟩:=c9 _ rfl;obtain⟨l,j,j2⟩:=x;simp only at h0 h1 h2 h3;subst h2;obtain⟨ii,rfl⟩:=awe h0;obtain⟨al⟩:=args;have o:mv [.v,.v,.v] al va bs:=o;match al,o with
 | [v0,v1,v2],o=>
 obtain⟨_,rfl,_,rfl,_,rfl,d6⟩:=o;obtain⟨rfl,rfl⟩:=d6;obtain⟨_,rfl,_,rfl,_,rfl,rfl⟩:=d0;have d7:pc= []:=d5;subst d7;have N:RowsIn X w [] (nmV bn [(0,true,el)]) (.bh e .no l:: [.int .i64 (ii:Int),.int .i64 ((ii:Int)+1)]) (v0:: [v1,v2]) mR:=N;obtain⟨_,d9,e0,_⟩:=N.cells;have e4:v1= .int .i64 (ii:Int):=d9;have e5:v2= .int .i64 ((ii:Int)+1):=e0;subst e4;subst e5;have U:ii<l.length:=Int.ofNat_lt.1 h1;suffices hs:Calls P f #[v0,.int .i64 (ii:Int),.int .i64 ((ii:Int)+1)] w (sL mR w el e (l.take ii++l.drop (ii+1)))from hs.mono λe' w' h=>Rm a.ns h
 rcases row_in N a.n1 a.u8 with⟨rfl,rfl,_⟩|⟨b,c,vs,rfl,O,V,a5,Y,a6,a7,_⟩
 ·simp at U
 have hn:=a.n1;have e8:l.length*e.n<=vs.size:=by rw[V];exact au3 _ a5
 have a9:l.length*e.n<=vs.toList.length:=by rw[avd (xs:=vs)];exact e8
 have g8:(ii+1)*e.n<=l.length*e.n:=au3 _ U;have hS:(ii+1)*e.n=ii*e.n+e.n:=avx _ _;have Z:l.length*e.n=(l.length-1)*e.n+e.n:=by
  have:l.length=(l.length-1)+1:=by omega
  rw[this,avx,Nat.add_sub_cancel]
 obtain⟨s1,s2⟩:=qi a9 a6 0 ii (by omega);obtain⟨J,Q⟩:=qi a9 a6 (ii+1) (l.length - (ii+1)) (by omega);rw[HL (l:=l) (by omega)]at J Q;simp only[axb,awq]at s1 s2;obtain⟨g,b3⟩: ∃g,g=(vs.toList.drop ((ii+1)*e.n)).take ((l.length - (ii+1))*e.n):=⟨_,rfl⟩
 rw[<- b3]at J Q;have S:g.length=(l.length - (ii+1))*e.n:=by rw[J,avo]
 have i3:(l.length - (ii+1))*e.n=l.length*e.n - (ii+1)*e.n:=axa _ _ _;have e9: ∀u∈g,u.oneCell'=true:=Ji hn J Q
 obtain⟨A,o,f0⟩: ∃A:Addr,(if c=ii+1 then some (⟨b,0,none⟩:Addr)else some ⟨b,off (ii+1),none⟩)=some A/\ ∀j u,g[j]? =some u->w.drew.cell? (A.add j)=some u:=by
  by_cases h:c=ii+1
  ·refine⟨⟨b,0,none⟩,by rw[ava h],λj u M=> ?_⟩
   have h0:l.length - (ii+1)=0:=by omega
   have f1:g= []:=avt (by rw[S,h0,axb]);rw[f1]at M;simp at M
  ·refine⟨⟨b,(ii+1)*e.n,none⟩,by rw[au6 h,a2],λj u M=> ?_⟩
   rw[azf];rw[b3]at M;exact xV (w:=w.drew) O j u M
 let k:Array Value:=(vs.toList.take (ii*e.n)++g++vs.toList.drop (ii*e.n+g.length)).toArray
 have T:k.size=vs.size:=by simp only[k,ax3,au1,avp,avo];rw[avd (xs:=vs)];omega
 let s:World:=w.drew.setRow b k
 have h8:s.heap[b]? =some (.cells k el (0,0)):=axd w.drew _ _ _ _ _ O;have f2: ∀ty,(Builtin.append_ #[tS,tS] ty #[.slice (some ⟨b,0,none⟩) ii c,.slice (some A) (l.length - (ii+1)) (c - (ii+1))]).run P w.drew= .ok (.slice (some ⟨b,0,none⟩) (l.length-1) c) s:=λty=>by
  have hs:Src P i.size tS (.slice (some A) (l.length - (ii+1)) (c - (ii+1))) (l.length - (ii+1)) g w.drew:=Src.ofSlice w.drew a.ht A _ _ g (by rw[a.sz];exact S) f0 e9;have:=GG (P:=P) (w:=w.drew) tS tS ty el i a.ht a.hi b ii c vs (q:=True) O (.inl rfl) hs (by omega) (by rw[a.sz,S];omega);rw[a.sz,show ii+(l.length - (ii+1))=l.length-1 by omega]at this;exact this
 let C:Array Value:=(k.toList.take ((l.length-1)*e.n)++zeroVs e++k.toList.drop ((l.length-1)*e.n+(zeroVs e).length)).toArray
 have f3:k.toList.length=vs.size:=by rw[avd (xs:=k)];exact T
 have f4:=oo e;have h9:C.size=vs.size:=by simp only[C,ax3,au1,avp,avo,f3];omega
 let I:World:=s.setRow b C
 have a1:I.heap[b]? =some (.cells C el (0,0)):=axd _ _ _ _ _ _ h8;have f5: ∀ty,(Builtin.clear_ #[tS] ty #[.slice (some ⟨b,off (l.length-1),none⟩) (l.length - (l.length-1)) (c - (l.length-1))]).run P s= .ok (.tuple #[]) I:=λty=>by
  rw[a2,show l.length - (l.length-1)=1 by omega];have b4:=pL (P:=P) b ((l.length-1)*e.n) el (zeroVs e) 0 k s (q:=True) h8 (.inl rfl) (by rw[f4,T];omega) (aeN e);simp only[awr]at b4;have f6:(Builtin.zeroCells z.cells 1).toList=zeroVs e:=by
   rw[<- a.zc];simp only[Builtin.zeroCells,azg];apply ay6
   ·simp
   ·intro j h1 h2
    have hj:j<z.cells.size:=by simpa using h2
    simp[azp hj,getElem!_pos z.cells j hj]
  unfold Builtin.clear_;simp[avg a.ht,zeroValue,typeInfo,a.hi,a.zero,f6,b4,I,C]
 refine(W.walk b l.length c ii A w s I U a5 (by simpa[maxLen]using Y) o f2 f5).mono ?_;rintro e' w2 ⟨rfl,rfl⟩
 have b6: ∀{L:Nat->Prop},L b->eB L w I:=λZ=>
  (Jx.trans (qq (w:=w.drew) O T (λ_=> .inl Z) (au2 _) rV)).trans (qq (w:=s) h8 (by rw[h9,T]) (λ_=> .inl Z) (au2 _) rV)
 have f7:dG (λm _=>m=b\/X m 0) w I:=eB.keeps (L:=λm=>m=b) (b6 rfl) (λm f8 p=> .inl f8);have b7: ∀{t:e.den} {us:List Value},TR w X e t us->TR I (λm _=>m=b\/X m 0) e t us:=λh=>TR.mono f7 fJ _ _ _ (h.od a.ns)
 have b9:(l.take ii++l.drop (ii+1)).length=l.length-1:=by simp;omega
 have f9:C.toList=vs.toList.take (ii*e.n)++g++ []++(zeroVs e++k.toList.drop ((l.length-1)*e.n+(zeroVs e).length)):=by
  have e1:k.toList=(vs.toList.take (ii*e.n)++g)++vs.toList.drop (ii*e.n+g.length):=rfl;have e2:C.toList=k.toList.take ((l.length-1)*e.n)++zeroVs e++k.toList.drop ((l.length-1)*e.n+(zeroVs e).length):=rfl;have g2:(vs.toList.take (ii*e.n)).length=ii*e.n:=by rw[avp];omega
  have e3:k.toList.take ((l.length-1)*e.n)=vs.toList.take (ii*e.n)++g:=by
   rw[e1];exact List.take_left' (by rw[au1,g2,S];omega)
  rw[e2,e3];simp only[avb,aws,awv]
 refine⟨b,c,λm _=>m=b\/X m 0,by rw[b9],b6 a7,?_,by rw[b9];omega,Y,by rw[xH a1,h9,V],.inl a7,zK a1⟩;have:=Fw (l1:=l.take ii) (l2:=l.drop (ii+1)) (l3:= []) (zs:= []) (cap:=c) s1 J (by simp only[avk,axb]) (λi h=>b7 (s2 i h)) (λi h=>b7 (Q i h)) (λi h=>by simp at h) f9 ⟨_,a1,.inl rfl⟩ (by rw[h9,V]) (by simp;omega) Y;rw[aws]at this;exact this
theorem I5{tS el:TypeId}{e:Ty}{a:Bool}{n:Nat}(ht:P.underlying tS=some (.slice el))(h:lC P el e a)(hb:(P.info? el).map (·.bytes)=some n)(k:n<=1000)(g:(cd a (zeroVs e)).cells.toList=zeroVs e)(h1:1<=e.n)(hs:e.hasSl=false)(j:e≠ .int .u8): ∃i,nS P tS el e i (cd a (zeroVs e)):=by
 obtain⟨i,h2,h3,h4⟩:=h.info;rw[h2]at hb;simp only[Option.map_some,aup]at hb;exact⟨i,ht,h2,h3,h4,g,by omega,h1,hs,j⟩
theorem run_overlaps_row(w:World)(tS I e:TypeId)(ht:P.underlying tS=some (.slice e))(size:Nat)(k: ∀w,(Go.sizeOf e).run P w= .ok size w)
  (a b:Addr) (j J lb L:Nat) (m:a.block≠b.block) (tA M:TypeId) (g h:Nat) (o:w.shape? a.block=some (tA,g)) (N:g≠0) (s:w.shape? b.block=some (M,h)) (O:h≠0)
  (u:w.frozen? b=false) (x:w.frozen? { block:=b.block,off:=h}=false):
  (Extern.SlicesOverlaps.overlaps #[tS,tS] #[I] #[.slice (some a) j J,.slice (some b) lb L]).run P w= .ok (.bool false) w:=by
 have A:(a.block !=b.block)=true:=by simpa using m
 have C:(a.block==b.block)=false:=by simpa using m
 change Sem.run P (α:=Value) (do
  let some t:=(#[tS,tS]:Array TypeId)[0]? |stuck "slices.overlaps: no parameter types"
  let .slice elem <- underlying t|stuck "slices.overlaps: slice type expected"
  let size <- sizeOf elem
  match(some a:Option Addr),(some b:Option Addr)with
  |some a,some b=>
   if j=0\/lb=0\/size=0 then pure (Value.bool false)
   else if a.block !=b.block&&(<- frozen a)&&(<- frozen b)then unsupported .addressObserved
   else do
    if a.block !=b.block then do
     noView a;noView b
     if <- mayBeOne a b then return Value.bool ((<- choose (.extern "sameAddr.stringBytes" 2))==1)
    pure (Value.bool (a.block==b.block&&a.off<b.off+lb*size&&b.off<a.off+j*size))
  |_,_=>pure (Value.bool false)) w=_
 by_cases h0:j=0\/lb=0\/size=0
 ·simp[avg ht,k,h0]
 ·cases g with
  |zero=>exact absurd rfl N
  |succ g=>
   cases h with
   |zero=>exact absurd rfl O
   |succ h=>
    cases hfa:w.frozen? a with
    |true=>simp[avg ht,k,h0,A,C,frozen,noView,viewAt,mayBeOne,stringish,shape,Sem.run,o,s,hfa,u,x]
    |false=>
     cases hfm:w.frozen? { block:=a.block,off:=g+1}<;>simp[avg ht,k,h0,A,C,frozen,noView,viewAt,mayBeOne,stringish,shape,Sem.run,o,s,hfa,u,x,hfm]
end
end
section
open Go.Shelf Go.Lib
section
variable {P:Program}
theorem adG(w:World){o:Oper}{a:Act}{K:Act->World->Prop}{Q:Exit->Act->World->Prop}(d:Operand)(t:TypeId)
  (g:o.op= .call { callee:= .builtin .clear,args:= #[d],argTypes:= #[t]}) (v:Value) (i:a.eval d=v) {f:Value} {w':World}
  (hr:(Builtin.clear_ #[t] o.type #[v]).run P w= .ok f w') (h:K (a.put o.dst f) w'):o.wp P a w K Q:=by
 unfold Oper.wp execOp;simp only[g,resolve,invoke,builtin,auy,avh,aus,List.map_toArray,axm,List.map_nil,i,hr];exact h
theorem NI(w:World){f:Array Oper}{rest:List Oper}{o:Oper}{a:Act}{Q:Exit->Act->World->Prop}(i:o.guard=none)(d:Operand)(t:TypeId)
  (j:o.op= .call { callee:= .builtin .clear,args:= #[d],argTypes:= #[t]}) (v:Value) (k:a.eval d=v) {g:Value} {w':World}
  (hr:(Builtin.clear_ #[t] o.type #[v]).run P w= .ok g w') (h:wpList P f Q rest (a.put o.dst g) w'):wpList P f Q (o::rest) a w:=
 wpList_plain i λ_ l=>adG w d t j v k hr (l _ _ h)
theorem NJ{f:Array Oper}{o:Oper}{a:Act}{w:World}{K:Act->World->Prop}{Q:Exit->Act->World->Prop}{E:Prop}
  (j:o.guard=none) (d x:Operand) (g h:TypeId) (k:o.op=Op.call { callee:=Callee.builtin Builtin.append,args:= #[d,x],argTypes:= #[g,h]})
  (v u:Value) (l:a.eval d=v) (m:a.eval x=u) {i:Value} {w':World} (hr:(Builtin.append_ #[g,h] o.type #[v,u]).run P w= .ok i w') (s:K (a.put o.dst i) w'):
  if Region.wanted o (yielded f a.tmps)=true then Oper.wp P o a w K Q else E:=by
 have hw:Region.wanted o (yielded f a.tmps)=true:=by simp[Region.wanted,j]
 rw[ava hw];unfold Oper.wp;simp[execOp,k,resolve,invoke,builtin,l,m,hr,Result.andThen];exact s
end
theorem aeL(b n c i a f vc:Nat)(w h j:World)(x1 k:Nat)(hi:i<n)(u:n+1<=c)(x:c<=9223372036854775807)
  (l: ∀lb m,(callFunc 198 #[.slice (some ⟨a,f,none⟩) 1 vc,.slice (some ⟨b,(i+1)*5,none⟩) lb m]).run prog w= .ok (.value (.bool false)) w)
  (o: ∀ty g s,(Builtin.copy_ #[31,31] ty #[.slice (some ⟨b,(i+1)*5,none⟩) (n-i) g,.slice (some ⟨b,i*5,none⟩) (n+1-i) s]).run prog w.drew= .ok (goInt x1) h)
  (t: ∀ty g,(Builtin.copy_ #[31,31] ty #[.slice (some ⟨b,i*5,none⟩) (n+1-i) g,.slice (some ⟨a,f,none⟩) 1 vc]).run prog h= .ok (goInt k) j):
  Calls prog 149 #[.slice (some ⟨b,0,none⟩) n c,.int .i64 i,.slice (some ⟨a,f,none⟩) 1 vc] w λe w'=>e= .returned (.slice (some ⟨b,0,none⟩) (n+1) c)/\w'=j:=by
 have mixed:prog.follows .mixedOrders=true:=by kernel_rfl
 have y: ¬ ((i:Int)=(n:Int)):=by omega
 have z:i64.wrap ((i:Int)+1)=(i:Int)+1:=by rw[avf];omega
 have A:i64.wrap ((n:Int)+1)=(n:Int)+1:=by rw[avf];omega
 have C:(0:Int)<=(i:Int)+1:=by omega
 have I:i<=n:=by omega
 have J:((i:Int)+1).toNat=i+1:=by omega
 have L: ¬ (c=i+1):=by omega
 have M:(i:Int)<=(n:Int)+1:=by omega
 have N: ¬ (c=i):=by omega
 go_enter func149,ntmps149
 go_wp2_with (simp only[l])
 go_region_law_o (refine step_copy_runI rfl _ _ 31 31 rfl _ _ (by simp[Act.eval,Act.put]) (by simp[Act.eval,Act.put]) (o _ _ _) ?_)
 go_wp2_with (at_builtin;refine wpList_copy_runI _ rfl _ _ 31 31 rfl _ _ rfl rfl (t _ _) ?_)
 go_ret
 exact⟨rfl,rfl⟩
theorem agp(b n c i g h vc:Nat)(G:Nat)(w j k l:World)(x1 o:Nat)(hi:i<n)(x:n<=c)(y:c<n+1)(z:c<=4611686018427387903)(A:n+1<=G)(C:G<=9223372036854775807)(a:Nat)
  (s: ∀ty,(Builtin.append_ #[31,3] ty #[.slice (some ⟨b,0,none⟩) i c,.int .i64 ((n:Int)+1 - (i:Int))]).run prog w= .ok (.slice (some ⟨a,0,none⟩) (n+1) G) j)
  (t: ∀ty f,(Builtin.copy_ #[31,31] ty #[.slice (some ⟨a,i*5,none⟩) (n+1-i) f,.slice (some ⟨g,h,none⟩) 1 vc]).run prog j= .ok (goInt x1) k)
  (m: ∀ty f u,(Builtin.copy_ #[31,31] ty #[.slice (some ⟨a,(i+1)*5,none⟩) (n-i) f,.slice (some ⟨b,i*5,none⟩) (n-i) u]).run prog k.drew= .ok (goInt o) l):
  Calls prog 149 #[.slice (some ⟨b,0,none⟩) n c,.int .i64 i,.slice (some ⟨g,h,none⟩) 1 vc] w λe w'=>e= .returned (.slice (some ⟨a,0,none⟩) (n+1) G)/\w'=l:=by
 have mixed:prog.follows .mixedOrders=true:=by kernel_rfl
 have I: ¬ ((i:Int)=(n:Int)):=by omega
 have J:(c:Int)<(n:Int)+1:=by omega
 have L:i64.wrap ((i:Int)+1)=(i:Int)+1:=by rw[avf];omega
 have M:i64.wrap ((n:Int)+1)=(n:Int)+1:=by rw[avf];omega
 have N:i64.wrap ((n:Int)+1 - (i:Int))=(n:Int)+1 - (i:Int):=by rw[avf];omega
 have O:(0:Int)<=(i:Int)+1:=by omega
 have Q:i<=n:=by omega
 have S:((i:Int)+1).toNat=i+1:=by omega
 have T: ¬ (G=i):=by omega
 have U: ¬ (G=i+1):=by omega
 have V: ¬ (c=i):=by omega
 have Y:(i:Int)<=(n:Int):=by omega
 go_enter func149,ntmps149
 go_wp2_with (first
  |(at_builtin;refine aw5 _ rfl _ _ _ _ rfl _ _ rfl rfl _ _ (s _) ?_)
  |(at_builtin;refine wpList_copy_runI _ rfl _ _ 31 31 rfl _ _ rfl rfl (t _ _) ?_)
  |(at_builtin;refine wpList_copy_runI _ rfl _ _ 31 31 rfl _ _ rfl rfl (m _ _ _) ?_))
 go_region_law_o (refine step_copy_runI rfl _ _ 31 31 rfl (.slice (some ⟨a,(i+1)*5,none⟩) (n-i) (G - (i+1))) (.slice (some ⟨b,i*5,none⟩) (n-i) (c-i)) (by simp[Act.eval,Act.put]) (by simp[Act.eval,Act.put]) (m 3 (G - (i+1)) (c-i)) ?_)
 go_wp2
 go_ret
 exact⟨rfl,rfl⟩
theorem ag9(base:Option Addr)(n c a f vc:Nat)(w W:World)(u:Value)(h:n<=c)(g:base=none->n=0/\c=0)
  (hr: ∀ty,(Builtin.append_ #[31,31] ty #[.slice base n c,.slice (some ⟨a,f,none⟩) 1 vc]).run prog w= .ok u W):
  Calls prog 149 #[.slice base n c,.int .i64 n,.slice (some ⟨a,f,none⟩) 1 vc] w λe w'=>e= .returned u/\w'=W:=by
 have mixed:prog.follows .mixedOrders=true:=by kernel_rfl
 cases base with
 |none=>
  obtain⟨rfl,rfl⟩:=g rfl;go_enter func149,ntmps149
  go_wp2_with (at_builtin;refine aw5 _ rfl _ _ _ _ rfl _ _ rfl rfl _ _ (hr _) ?_)
  all_goals(go_ret;exact⟨rfl,rfl⟩)
 |some ad=>
  go_enter func149,ntmps149
  go_wp2_with (at_builtin;refine aw5 _ rfl _ _ _ _ rfl _ _ rfl rfl _ _ (hr _) ?_)
  all_goals(go_ret;exact⟨rfl,rfl⟩)
theorem agA(b n c i:Nat)(A:Addr)(w a f:World)(hi:i<n)(j:n<=c)(k:c<=9223372036854775807)(l:(if c=i+1 then some (⟨b,0,none⟩:Addr)else some ⟨b,(i+1)*5,none⟩)=some A)
  (g: ∀ty,(Builtin.append_ #[31,31] ty #[.slice (some ⟨b,0,none⟩) i c,.slice (some A) (n - (i+1)) (c - (i+1))]).run prog w.drew= .ok (.slice (some ⟨b,0,none⟩) (n-1) c) a)
  (h: ∀ty,(Builtin.clear_ #[31] ty #[.slice (some ⟨b,(n-1)*5,none⟩) (n - (n-1)) (c - (n-1))]).run prog a= .ok (.tuple #[]) f):
  Calls prog 150 #[.slice (some ⟨b,0,none⟩) n c,.int .i64 i,.int .i64 ((i:Int)+1)] w λe w'=>e= .returned (.slice (some ⟨b,0,none⟩) (n-1) c)/\w'=f:=by
 have mixed:prog.follows .mixedOrders=true:=by kernel_rfl
 have m: ¬ ((i:Int)=(i:Int)+1):=by omega
 have o:(0:Int)<=(i:Int)+1:=by omega
 have s:(i:Int)<=(i:Int)+1:=by omega
 have t:(i:Int)+1<=(n:Int):=by omega
 have u:((i:Int)+1).toNat=i+1:=by omega
 have x:i<=c:=by omega
 have y:i+1<=c:=by omega
 have z:1<=n:=by omega
 go_enter func150,ntmps150
 go_wp2_with fail
 go_region_law_o (refine NJ rfl _ _ 31 31 rfl (.slice (some ⟨b,0,none⟩) i c) (.slice (some A) (n - (i+1)) (c - (i+1))) (by simp[Act.eval,Act.put]) (by simp[Act.eval,Act.put]) (g _) ?_)
 go_wp2_with (at_builtin;refine NI _ rfl _ 31 rfl _ rfl (h _) ?_)
 go_ret
 exact⟨rfl,rfl⟩
theorem afa(b n c i a f vc:Nat)(w h j:World)(x1 k:Nat)(hi:i<n)(u:n+1<=c)(x:c<=9223372036854775807)
  (l: ∀lb m,(callFunc 202 #[.slice (some ⟨a,f,none⟩) 1 vc,.slice (some ⟨b,(i+1)*3,none⟩) lb m]).run prog w= .ok (.value (.bool false)) w)
  (o: ∀ty g s,(Builtin.copy_ #[140,140] ty #[.slice (some ⟨b,(i+1)*3,none⟩) (n-i) g,.slice (some ⟨b,i*3,none⟩) (n+1-i) s]).run prog w.drew= .ok (goInt x1) h)
  (t: ∀ty g,(Builtin.copy_ #[140,140] ty #[.slice (some ⟨b,i*3,none⟩) (n+1-i) g,.slice (some ⟨a,f,none⟩) 1 vc]).run prog h= .ok (goInt k) j):
  Calls prog 159 #[.slice (some ⟨b,0,none⟩) n c,.int .i64 i,.slice (some ⟨a,f,none⟩) 1 vc] w λe w'=>e= .returned (.slice (some ⟨b,0,none⟩) (n+1) c)/\w'=j:=by
 have mixed:prog.follows .mixedOrders=true:=by kernel_rfl
 have y: ¬ ((i:Int)=(n:Int)):=by omega
 have z:i64.wrap ((i:Int)+1)=(i:Int)+1:=by rw[avf];omega
 have A:i64.wrap ((n:Int)+1)=(n:Int)+1:=by rw[avf];omega
 have C:(0:Int)<=(i:Int)+1:=by omega
 have I:i<=n:=by omega
 have J:((i:Int)+1).toNat=i+1:=by omega
 have L: ¬ (c=i+1):=by omega
 have M:(i:Int)<=(n:Int)+1:=by omega
 have N: ¬ (c=i):=by omega
 go_enter func159,ntmps159
 go_wp2_with (simp only[l])
 go_region_law_o (refine step_copy_runI rfl _ _ 140 140 rfl _ _ (by simp[Act.eval,Act.put]) (by simp[Act.eval,Act.put]) (o _ _ _) ?_)
 go_wp2_with (at_builtin;refine wpList_copy_runI _ rfl _ _ 140 140 rfl _ _ rfl rfl (t _ _) ?_)
 go_ret
 exact⟨rfl,rfl⟩
theorem aga(b n c i g h vc:Nat)(G:Nat)(w j k l:World)(x1 o:Nat)(hi:i<n)(x:n<=c)(y:c<n+1)(z:c<=4611686018427387903)(A:n+1<=G)(C:G<=9223372036854775807)(a:Nat)
  (s: ∀ty,(Builtin.append_ #[140,3] ty #[.slice (some ⟨b,0,none⟩) i c,.int .i64 ((n:Int)+1 - (i:Int))]).run prog w= .ok (.slice (some ⟨a,0,none⟩) (n+1) G) j)
  (t: ∀ty f,(Builtin.copy_ #[140,140] ty #[.slice (some ⟨a,i*3,none⟩) (n+1-i) f,.slice (some ⟨g,h,none⟩) 1 vc]).run prog j= .ok (goInt x1) k)
  (m: ∀ty f u,(Builtin.copy_ #[140,140] ty #[.slice (some ⟨a,(i+1)*3,none⟩) (n-i) f,.slice (some ⟨b,i*3,none⟩) (n-i) u]).run prog k.drew= .ok (goInt o) l):
  Calls prog 159 #[.slice (some ⟨b,0,none⟩) n c,.int .i64 i,.slice (some ⟨g,h,none⟩) 1 vc] w λe w'=>e= .returned (.slice (some ⟨a,0,none⟩) (n+1) G)/\w'=l:=by
 have mixed:prog.follows .mixedOrders=true:=by kernel_rfl
 have I: ¬ ((i:Int)=(n:Int)):=by omega
 have J:(c:Int)<(n:Int)+1:=by omega
 have L:i64.wrap ((i:Int)+1)=(i:Int)+1:=by rw[avf];omega
 have M:i64.wrap ((n:Int)+1)=(n:Int)+1:=by rw[avf];omega
 have N:i64.wrap ((n:Int)+1 - (i:Int))=(n:Int)+1 - (i:Int):=by rw[avf];omega
 have O:(0:Int)<=(i:Int)+1:=by omega
 have Q:i<=n:=by omega
 have S:((i:Int)+1).toNat=i+1:=by omega
 have T: ¬ (G=i):=by omega
 have U: ¬ (G=i+1):=by omega
 have V: ¬ (c=i):=by omega
 have Y:(i:Int)<=(n:Int):=by omega
 go_enter func159,ntmps159
 go_wp2_with (first
  |(at_builtin;refine aw5 _ rfl _ _ _ _ rfl _ _ rfl rfl _ _ (s _) ?_)
  |(at_builtin;refine wpList_copy_runI _ rfl _ _ 140 140 rfl _ _ rfl rfl (t _ _) ?_)
  |(at_builtin;refine wpList_copy_runI _ rfl _ _ 140 140 rfl _ _ rfl rfl (m _ _ _) ?_))
 go_region_law_o (refine step_copy_runI rfl _ _ 140 140 rfl (.slice (some ⟨a,(i+1)*3,none⟩) (n-i) (G - (i+1))) (.slice (some ⟨b,i*3,none⟩) (n-i) (c-i)) (by simp[Act.eval,Act.put]) (by simp[Act.eval,Act.put]) (m 3 (G - (i+1)) (c-i)) ?_)
 go_wp2
 go_ret
 exact⟨rfl,rfl⟩
theorem ahX(base:Option Addr)(n c a f vc:Nat)(w W:World)(u:Value)(h:n<=c)(g:base=none->n=0/\c=0)
  (hr: ∀ty,(Builtin.append_ #[140,140] ty #[.slice base n c,.slice (some ⟨a,f,none⟩) 1 vc]).run prog w= .ok u W):
  Calls prog 159 #[.slice base n c,.int .i64 n,.slice (some ⟨a,f,none⟩) 1 vc] w λe w'=>e= .returned u/\w'=W:=by
 have mixed:prog.follows .mixedOrders=true:=by kernel_rfl
 cases base with
 |none=>
  obtain⟨rfl,rfl⟩:=g rfl;go_enter func159,ntmps159
  go_wp2_with (at_builtin;refine aw5 _ rfl _ _ _ _ rfl _ _ rfl rfl _ _ (hr _) ?_)
  all_goals(go_ret;exact⟨rfl,rfl⟩)
 |some ad=>
  go_enter func159,ntmps159
  go_wp2_with (at_builtin;refine aw5 _ rfl _ _ _ _ rfl _ _ rfl rfl _ _ (hr _) ?_)
  all_goals(go_ret;exact⟨rfl,rfl⟩)
theorem aeY(b n c i a f vc:Nat)(w h j:World)(x1 k:Nat)(hi:i<n)(u:n+1<=c)(x:c<=9223372036854775807)
  (l: ∀lb m,(callFunc 285 #[.slice (some ⟨a,f,none⟩) 1 vc,.slice (some ⟨b,i+1,none⟩) lb m]).run prog w= .ok (.value (.bool false)) w)
  (o: ∀ty g s,(Builtin.copy_ #[29,29] ty #[.slice (some ⟨b,i+1,none⟩) (n-i) g,.slice (some ⟨b,i,none⟩) (n+1-i) s]).run prog w.drew= .ok (goInt x1) h)
  (t: ∀ty g,(Builtin.copy_ #[29,29] ty #[.slice (some ⟨b,i,none⟩) (n+1-i) g,.slice (some ⟨a,f,none⟩) 1 vc]).run prog h= .ok (goInt k) j):
  Calls prog 260 #[.slice (some ⟨b,0,none⟩) n c,.int .i64 i,.slice (some ⟨a,f,none⟩) 1 vc] w λe w'=>e= .returned (.slice (some ⟨b,0,none⟩) (n+1) c)/\w'=j:=by
 have mixed:prog.follows .mixedOrders=true:=by kernel_rfl
 have y: ¬ ((i:Int)=(n:Int)):=by omega
 have z:i64.wrap ((i:Int)+1)=(i:Int)+1:=by rw[avf];omega
 have A:i64.wrap ((n:Int)+1)=(n:Int)+1:=by rw[avf];omega
 have C:(0:Int)<=(i:Int)+1:=by omega
 have I:i<=n:=by omega
 have J:((i:Int)+1).toNat=i+1:=by omega
 have L: ¬ (c=i+1):=by omega
 have M:(i:Int)<=(n:Int)+1:=by omega
 have N: ¬ (c=i):=by omega
 go_enter func260,ntmps260
 go_wp2_with (simp only[l])
 go_region_law_o (refine step_copy_runI rfl _ _ 29 29 rfl _ _ (by simp[Act.eval,Act.put]) (by simp[Act.eval,Act.put]) (o _ _ _) ?_)
 go_wp2_with (at_builtin;refine wpList_copy_runI _ rfl _ _ 29 29 rfl _ _ rfl rfl (t _ _) ?_)
 go_ret
 exact⟨rfl,rfl⟩
theorem agu(b n c i g h vc:Nat)(G:Nat)(w j k l:World)(x1 o:Nat)(hi:i<n)(x:n<=c)(y:c<n+1)(z:c<=4611686018427387903)(A:n+1<=G)(C:G<=9223372036854775807)(a:Nat)
  (s: ∀ty,(Builtin.append_ #[29,3] ty #[.slice (some ⟨b,0,none⟩) i c,.int .i64 ((n:Int)+1 - (i:Int))]).run prog w= .ok (.slice (some ⟨a,0,none⟩) (n+1) G) j)
  (t: ∀ty f,(Builtin.copy_ #[29,29] ty #[.slice (some ⟨a,i,none⟩) (n+1-i) f,.slice (some ⟨g,h,none⟩) 1 vc]).run prog j= .ok (goInt x1) k)
  (m: ∀ty f u,(Builtin.copy_ #[29,29] ty #[.slice (some ⟨a,i+1,none⟩) (n-i) f,.slice (some ⟨b,i,none⟩) (n-i) u]).run prog k.drew= .ok (goInt o) l):
  Calls prog 260 #[.slice (some ⟨b,0,none⟩) n c,.int .i64 i,.slice (some ⟨g,h,none⟩) 1 vc] w λe w'=>e= .returned (.slice (some ⟨a,0,none⟩) (n+1) G)/\w'=l:=by
 have mixed:prog.follows .mixedOrders=true:=by kernel_rfl
 have I: ¬ ((i:Int)=(n:Int)):=by omega
 have J:(c:Int)<(n:Int)+1:=by omega
 have L:i64.wrap ((i:Int)+1)=(i:Int)+1:=by rw[avf];omega
 have M:i64.wrap ((n:Int)+1)=(n:Int)+1:=by rw[avf];omega
 have N:i64.wrap ((n:Int)+1 - (i:Int))=(n:Int)+1 - (i:Int):=by rw[avf];omega
 have O:(0:Int)<=(i:Int)+1:=by omega
 have Q:i<=n:=by omega
 have S:((i:Int)+1).toNat=i+1:=by omega
 have T: ¬ (G=i):=by omega
 have U: ¬ (G=i+1):=by omega
 have V: ¬ (c=i):=by omega
 have Y:(i:Int)<=(n:Int):=by omega
 go_enter func260,ntmps260
 go_wp2_with (first
  |(at_builtin;refine aw5 _ rfl _ _ _ _ rfl _ _ rfl rfl _ _ (s _) ?_)
  |(at_builtin;refine wpList_copy_runI _ rfl _ _ 29 29 rfl _ _ rfl rfl (t _ _) ?_)
  |(at_builtin;refine wpList_copy_runI _ rfl _ _ 29 29 rfl _ _ rfl rfl (m _ _ _) ?_))
 go_region_law_o (refine step_copy_runI rfl _ _ 29 29 rfl (.slice (some ⟨a,i+1,none⟩) (n-i) (G - (i+1))) (.slice (some ⟨b,i,none⟩) (n-i) (c-i)) (by simp[Act.eval,Act.put]) (by simp[Act.eval,Act.put]) (m 3 (G - (i+1)) (c-i)) ?_)
 go_wp2
 go_ret
 exact⟨rfl,rfl⟩
theorem ahI(base:Option Addr)(n c a f vc:Nat)(w W:World)(u:Value)(h:n<=c)(g:base=none->n=0/\c=0)
  (hr: ∀ty,(Builtin.append_ #[29,29] ty #[.slice base n c,.slice (some ⟨a,f,none⟩) 1 vc]).run prog w= .ok u W):
  Calls prog 260 #[.slice base n c,.int .i64 n,.slice (some ⟨a,f,none⟩) 1 vc] w λe w'=>e= .returned u/\w'=W:=by
 have mixed:prog.follows .mixedOrders=true:=by kernel_rfl
 cases base with
 |none=>
  obtain⟨rfl,rfl⟩:=g rfl;go_enter func260,ntmps260
  go_wp2_with (at_builtin;refine aw5 _ rfl _ _ _ _ rfl _ _ rfl rfl _ _ (hr _) ?_)
  all_goals(go_ret;exact⟨rfl,rfl⟩)
 |some ad=>
  go_enter func260,ntmps260
  go_wp2_with (at_builtin;refine aw5 _ rfl _ _ _ _ rfl _ _ rfl rfl _ _ (hr _) ?_)
  all_goals(go_ret;exact⟨rfl,rfl⟩)
theorem afG(b n c i:Nat)(A:Addr)(w a f:World)(hi:i<n)(j:n<=c)(k:c<=9223372036854775807)(l:(if c=i+1 then some (⟨b,0,none⟩:Addr)else some ⟨b,i+1,none⟩)=some A)
  (g: ∀ty,(Builtin.append_ #[29,29] ty #[.slice (some ⟨b,0,none⟩) i c,.slice (some A) (n - (i+1)) (c - (i+1))]).run prog w.drew= .ok (.slice (some ⟨b,0,none⟩) (n-1) c) a)
  (h: ∀ty,(Builtin.clear_ #[29] ty #[.slice (some ⟨b,n-1,none⟩) (n - (n-1)) (c - (n-1))]).run prog a= .ok (.tuple #[]) f):
  Calls prog 259 #[.slice (some ⟨b,0,none⟩) n c,.int .i64 i,.int .i64 ((i:Int)+1)] w λe w'=>e= .returned (.slice (some ⟨b,0,none⟩) (n-1) c)/\w'=f:=by
 have mixed:prog.follows .mixedOrders=true:=by kernel_rfl
 have m: ¬ ((i:Int)=(i:Int)+1):=by omega
 have o:(0:Int)<=(i:Int)+1:=by omega
 have s:(i:Int)<=(i:Int)+1:=by omega
 have t:(i:Int)+1<=(n:Int):=by omega
 have u:((i:Int)+1).toNat=i+1:=by omega
 have x:i<=c:=by omega
 have y:i+1<=c:=by omega
 have z:1<=n:=by omega
 go_enter func259,ntmps259
 go_wp2_with fail
 go_region_law_o (refine NJ rfl _ _ 29 29 rfl (.slice (some ⟨b,0,none⟩) i c) (.slice (some A) (n - (i+1)) (c - (i+1))) (by simp[Act.eval,Act.put]) (by simp[Act.eval,Act.put]) (g _) ?_)
 go_wp2_with (at_builtin;refine NI _ rfl _ 29 rfl _ rfl (h _) ?_)
 go_ret
 exact⟨rfl,rfl⟩
end
section
open Go.Shelf Go.Lib
theorem elE: ∃i,nS prog 31 93 dT i (cd true (zeroVs dT)):=I5 (n:=40) underlying31 (xT (by kernel_rfl)) (by kernel_rfl) (by decide) rfl (by decide) rfl (λh=>by cases h)
theorem alr{G:Gd}:gG prog G 149 (jD (.pair (.sl dT) (.pair (.int .i64) (.sl dT))) [none,none,none] [.v,.v,.v] dT 93 (El dT) (λx=>(x.1.take x.2.1.toNat++x.2.2++x.1.drop x.2.1.toNat,()))):=by
 obtain⟨i,a⟩:=elE;refine Kl (tI:=3) (ov:=198) (off:=λj=>j*5) a underlying3 (λ_=>rfl) (λw f g vc b o lb h tA k l m h1 h2 h3 h4 h5 h6 h7=> ?_) ⟨aeL,agp,ag9⟩;rw[azu func198 (by kernel_rfl) (by kernel_rfl) (by kernel_rfl) (e:=Extern.SlicesOverlaps.overlaps #[31,31] #[4]) (by kernel_rfl),
  run_overlaps_row w 31 4 93 underlying31 dT.n (λw=>by simp[sizeOf,typeInfo,a.hi,a.sz]) ⟨f,g,none⟩ ⟨b,o,none⟩ 1 vc lb h h1 tA l k m h2 h3 h4 h5 h6 h7]
 rfl
theorem amO{G:Gd}:gG prog G 150 (jD (.pair (.sl dT) (.pair (.int .i64) (.int .i64))) [none,none,none] [.v,.v,.v] dT 93 (KN dT) (λx=>(x.1.take x.2.1.toNat++x.1.drop (x.2.1.toNat+1),()))):=by
 obtain⟨i,a⟩:=elE;exact UJ (off:=λj=>j*5) a (λ_=>rfl) ⟨agA⟩
theorem elD: ∃i,nS prog 140 191 gz i (cd true (zeroVs gz)):=I5 (n:=24) underlying140 (xT (by kernel_rfl)) (by kernel_rfl) (by decide) rfl (by decide) rfl (λh=>by cases h)
theorem alO{G:Gd}:gG prog G 159 (jD (.pair (.sl gz) (.pair (.int .i64) (.sl gz))) [none,none,none] [.v,.v,.v] gz 191 (El gz) (λx=>(x.1.take x.2.1.toNat++x.2.2++x.1.drop x.2.1.toNat,()))):=by
 obtain⟨i,a⟩:=elD;refine Kl (tI:=3) (ov:=202) (off:=λj=>j*3) a underlying3 (λ_=>rfl) (λw f g vc b o lb h tA k l m h1 h2 h3 h4 h5 h6 h7=> ?_) ⟨afa,aga,ahX⟩;rw[azu func202 (by kernel_rfl) (by kernel_rfl) (by kernel_rfl) (e:=Extern.SlicesOverlaps.overlaps #[140,140] #[4]) (by kernel_rfl),
  run_overlaps_row w 140 4 191 underlying140 gz.n (λw=>by simp[sizeOf,typeInfo,a.hi,a.sz]) ⟨f,g,none⟩ ⟨b,o,none⟩ 1 vc lb h h1 tA l k m h2 h3 h4 h5 h6 h7]
 rfl
theorem elI: ∃i,nS prog 29 3 ae i (cd false (zeroVs ae)):=I5 (n:=8) underlying29 (xT (by kernel_rfl)) (by kernel_rfl) (by decide) rfl (by decide) rfl (λh=>by cases h)
theorem alk{G:Gd}:gG prog G 260 (jD (.pair (.sl ae) (.pair (.int .i64) (.sl ae))) [none,none,none] [.v,.v,.v] ae 3 (El ae) (λx=>(x.1.take x.2.1.toNat++x.2.2++x.1.drop x.2.1.toNat,()))):=by
 obtain⟨i,a⟩:=elI;refine Kl (tI:=3) (ov:=285) (off:=λj=>j) a underlying3 (λj=>(aAr j).symm) (λw f g vc b o lb h tA k l m h1 h2 h3 h4 h5 h6 h7=> ?_) ⟨aeY,agu,ahI⟩;rw[azu func285 (by kernel_rfl) (by kernel_rfl) (by kernel_rfl) (e:=Extern.SlicesOverlaps.overlaps #[29,29] #[4]) (by kernel_rfl),
  run_overlaps_row w 29 4 3 underlying29 ae.n (λw=>by simp[sizeOf,typeInfo,a.hi,a.sz]) ⟨f,g,none⟩ ⟨b,o,none⟩ 1 vc lb h h1 tA l k m h2 h3 h4 h5 h6 h7]
 rfl
theorem amJ{G:Gd}:gG prog G 259 (jD (.pair (.sl ae) (.pair (.int .i64) (.int .i64))) [none,none,none] [.v,.v,.v] ae 3 (KN ae) (λx=>(x.1.take x.2.1.toNat++x.1.drop (x.2.1.toNat+1),()))):=by
 obtain⟨i,a⟩:=elI;exact UJ (off:=λj=>j) a (λj=>(aAr j).symm) ⟨afG⟩
end
section
open Go.Shelf
theorem T3:(prog.info? 233).map (·.size)=some 2:=by kernel_rfl
theorem aiZ:liesAt prog prog.depth 233 (2/prog.cellsOf 233) 0 233 1=true:=by kernel_rfl
theorem apZ:(prog.info? 5).map (λi=>(i.zero,i.size,i.bytes))=some (some (.int .u8 0),1,1):=by kernel_rfl
theorem ah1(b:Nat)(w:World)(h0:w.cell? ⟨b,0,none⟩=some (.pointer (some ⟨b,0,none⟩))):
  Calls prog 191 #[.pointer (some ⟨b,0,none⟩)] w λe w'=>e= .returned (.tuple #[])/\w'=w:=by
 obtain⟨j,a,_⟩:=Option.map_eq_some_iff.1 T3;have mixed:prog.follows .mixedOrders=true:=by kernel_rfl
 go_enter func191,ntmps191
 go_wp2
 rw[Lib.run_neq_ptr_same w _ underlying231 a];go_wp2
 go_end0
 exact⟨rfl,rfl⟩
theorem agh(b:Nat)(w:World)(h0:w.cell? ⟨b,0,none⟩=some (.pointer none))(a:w.shape? b=some (233,2))(h:w.frozen? ⟨b,0,none⟩=false):
  Calls prog 191 #[.pointer (some ⟨b,0,none⟩)] w λe w'=>e= .returned (.tuple #[])/\w'=w.setCell ⟨b,0,none⟩ (.pointer (some ⟨b,0,none⟩)):=by
 obtain⟨j,f,g⟩:=Option.map_eq_some_iff.1 T3;have mixed:prog.follows .mixedOrders=true:=by kernel_rfl
 go_enter func191,ntmps191
 go_wp2
 rw[Lib.run_to_unsafe w ⟨b,0,none⟩ underlying231 underlying339 f (by rw[g];decide) a (Nat.zero_lt_succ 1)];simp only[Result.andThen];rw[aBn];go_wp2
 rw[azu func233 (by kernel_rfl) (by kernel_rfl) (by kernel_rfl) (e:=Extern.AbiNoEscape.same) (by kernel_rfl)];rw[Lib.run_noEscape];simp only[Result.andThen];rw[aBn];go_wp2
 rw[Lib.run_from_unsafe w ⟨b,0,none⟩ underlying339 underlying231 f a aiZ];simp only[Result.andThen];rw[aBn];go_wp2
 go_end0
 exact⟨rfl,rfl⟩
def M7(b:Nat)(w w':World):Prop:= ∀(k:Nat) (us:Array Value) (T:TypeId) (fz:aR),w.heap[k]? =some (.cells us T fz)->T≠5->k≠b->w'.heap[k]? =some (.cells us T fz)
theorem bcc(B b:Nat)(bs:List Value)(w:World)(h:Lib.IsBuilder 233 5 B b bs w):
  Calls prog 191 #[.pointer (some ⟨b,0,none⟩)] w λe w'=>e= .returned (.tuple #[])/\(Lib.BuilderAt 233 5 B b (.pointer (some ⟨b,0,none⟩)) bs w'/\Below B w w'/\M7 b w w'):=by
 rcases h with h|h
 ·refine(agh b w h.cell0 h.shape h.frozen0).mono ?_
  rintro e w' ⟨rfl,rfl⟩
  exact⟨rfl,h.used _,(aw6 B w).setCell (p:=⟨b,0,none⟩) h.1 _,λk us T fz a _ hb=>(ayt _ ⟨b,0,none⟩ _ k hb).trans a⟩
 ·refine(ah1 b w h.cell0).mono ?_
  rintro e w' ⟨rfl,rfl⟩
  exact⟨rfl,h,aw6 B _,λk us T fz a _ _=>a⟩
theorem alC(B b:Nat)(bs:List Value)(s:ByteArray)(w:World)(h:Lib.IsBuilder 233 5 B b bs w)(Y:bs.length+s.size<=140737488355328)(Z:B<=w.heap.size):
  Calls prog 134 #[.pointer (some ⟨b,0,none⟩),.string s] w λe w'=>e= .returned (.tuple #[.int .i64 s.size,.nilIface])/\(Lib.BuilderAt 233 5 B b (.pointer (some ⟨b,0,none⟩)) (bs++Lib.strCells s) w'/\Below B w w'/\M7 b w w'):=by
 obtain⟨i0,hi,J,L,M⟩:=info_parts apZ;have mixed:prog.follows .mixedOrders=true:=by kernel_rfl
 go_enter func134,ntmps134
 go_wp2_with (go_at_call 191;refine(bcc B b bs _ h).mono ?_)
 rintro e a ⟨rfl,h1,l,N⟩
 obtain⟨x,v,f,aQ,O⟩:=h1;have c0:a.cell? ⟨b,0,none⟩=some (.pointer (some ⟨b,0,none⟩)):=by rw[avj f];rfl
 have c1:a.cell? ⟨b,1,none⟩=some v:=by rw[avj f];rfl
 go_wp2_with (at_builtin;refine Lib.wpList_append_own_string _ rfl _ _ 23 9 rfl B 5 i0 underlying23 underlying9 hi J L M _ _ _ rfl aQ s rfl ?c3 ?c4 ?c5 ?_)
 case c3=>unfold maxLen;omega
 case c4=>omega
 case c5=>have:=l.size;omega
 intro P i y m _;have Q:b<a.heap.size:=by
  rcases axe b a.heap.size with o|o
  ·exact o
  ·simp[ayn o]at f
 have j:i.heap[b]? =some (.cells #[.pointer (some ⟨b,0,none⟩),v] 233 (0,0)):=by
  rw[m.block b Q (λe=>O e.symm)];exact f
 have d0:i.cell? ⟨b,0,none⟩=some (.pointer (some ⟨b,0,none⟩)):=by rw[avj j];rfl
 have d1:i.cell? ⟨b,1,none⟩=some v:=by rw[avj j];rfl
 have f1:i.frozen? ⟨b,1,none⟩=false:=ax9 j 1;obtain⟨z,A,cap,rfl⟩: ∃z A cap,P= .slice z A cap:=by
  rcases y.2 with⟨t,_⟩|⟨g,cap,S,t,_⟩
  ·exact⟨_,_,_,t⟩
  ·exact⟨_,_,_,t⟩
 go_wp2
 go_ret2
 refine⟨rfl,?_,?_,?_⟩
 ·exact Lib.BuilderAt.put (T:=233) (e:=5) x j (bs':=bs++Lib.strCells s) (by simpa[Lib.strCells_length]using y) (by decide)
 ·exact(l.grown m (by have:=l.size;omega) (λk u=>(aQ.lt k u).1)).setCell (p:=⟨b,1,none⟩) x _
 ·intro k us T fz u C I
  have h1:=N k us T fz u C I;have U:k<a.heap.size:=(Array.getElem?_eq_some_iff.1 h1).1;refine(ayt _ ⟨b,1,none⟩ _ k I).trans ((m.block k U (λe=> ?_)).trans h1);rcases aQ.2 with⟨rfl,_⟩|⟨g,cap,S,rfl,_,V,_⟩
  ·simp[Value.ownBlock]at e
  ·simp only[Value.ownBlock,aup]at e
   subst e;rw[V]at h1;simp only[aup,Obj.cells.injEq]at h1;exact C h1.2.1.symm
theorem alJ:prog.cellsOf 5=1:=by kernel_rfl
theorem auc(B b:Nat)(l:List UInt8)(w:World)(h:Lib.IsBuilder 233 5 B b (Lib.byteCells l) w)(h0:l≠ []):
  Calls prog 137 #[.pointer (some ⟨b,0,none⟩)] w λe w'=>e= .returned (.string ⟨l.toArray⟩)/\Below B w w':=by
 obtain⟨p,z,v,f,aQ,A⟩: ∃p,Lib.BuilderAt 233 5 B b p (Lib.byteCells l) w:=by
  rcases h with h|h
  ·exact⟨_,h⟩
  ·exact⟨_,h⟩
 have i:l.length≠0:=by simpa using h0
 rw[Lib.byteCells_length]at aQ;obtain⟨g,cap,a,rfl,k,m,C,o,I,J⟩: ∃g cap a,v= .slice (some ⟨g,0,none⟩) l.length cap/\B<=g/\w.heap[g]? =some (.cells a 5 (0,0))/\l.length<=cap/\cap<=maxLen/\a.size=cap*1/\a.toList.take (l.length*1)=Lib.byteCells l:=by
  rcases aQ.2 with⟨_,s⟩|⟨g,cap,a,t,r⟩
  ·exact absurd s i
  ·exact⟨g,cap,a,t,r⟩
 have c1:w.drew.cell? ⟨b,1,none⟩=some (.slice (some ⟨g,0,none⟩) l.length cap):=by
  have:w.drew.heap[b]? =some (.cells #[p,.slice (some ⟨g,0,none⟩) l.length cap] 233 (0,0)):=f;rw[avj this];rfl
 have L:(Builtin.unsafeSliceData_ #[23] 296 #[.slice (some ⟨g,0,none⟩) l.length cap]).run prog w.drew= .ok (.pointer (some ⟨g,0,none⟩)) w.drew:=
  aAv _ _ _ _ _ _ (by omega)
 have M:(Builtin.unsafeString_ #[296,3] 9 #[.pointer (some ⟨g,0,none⟩),.int .i64 l.length]).run prog w.drew= .ok (.string ⟨l.toArray⟩) (w.drew.freeze ⟨g,0,none⟩ l.length):=by
  refine Lib.run_unsafeString_row w.drew 296 3 9 5 underlying296 alJ g a.size (by have u:w.drew.heap[g]? =some (.cells a 5 (0,0)):=m;simp[World.shape?,u]) l h0 (by omega) (by unfold maxLen at o;omega) ?_;intro j x y;have:=aQ.cells (g:=g) rfl j (.int .u8 x.toNat) (by simp[Lib.byteCells,y]);exact this
 have mixed:prog.follows .mixedOrders=true:=by kernel_rfl
 go_enter func137,ntmps137
 go_wp2
 go_region_o
 all_goals(go_wp2;go_ret;exact⟨rfl,Lib.below_freeze (aBo (aw6 B w)) (p:=⟨g,0,none⟩) k _⟩)
theorem HV(W:World)(q:Option Addr):(Builtin.unsafeString_ #[296,3] 9 #[.pointer q,.int .i64 0]).run prog W= .ok (.string .empty) W:=
 Lib.run_unsafeString_none W _ _ _ q
theorem ag5(B b:Nat)(p:Value)(w:World)(a:w.heap[b]? =some (.cells #[p,.slice none 0 0] 233 (0,0))):
  Calls prog 137 #[.pointer (some ⟨b,0,none⟩)] w λe w'=>e= .returned (.string ⟨#[]⟩)/\Below B w w':=by
 have f:=HV;have c1:w.drew.cell? ⟨b,1,none⟩=some (.slice none 0 0):=by
  have:w.drew.heap[b]? =some (.cells #[p,.slice none 0 0] 233 (0,0)):=a;rw[avj this];rfl
 have g:(Builtin.unsafeSliceData_ #[23] 296 #[.slice none 0 0]).run prog w.drew= .ok (.pointer none) w.drew:=rfl;have mixed:prog.follows .mixedOrders=true:=by kernel_rfl
 go_enter func137,ntmps137
 go_wp2
 go_region_o
 all_goals(go_wp2;go_ret;exact⟨rfl,aBo (aw6 B w)⟩)
theorem aef(B b g:Nat)(p:Value)(a:Array Value)(w:World)(i:B<=w.heap.size)(f:w.heap[b]? =some (.cells #[p,.slice (some ⟨g,0,none⟩) 0 0] 233 (0,0)))(j:w.heap[g]? =some (.cells a 5 (0,0))):
  Calls prog 137 #[.pointer (some ⟨b,0,none⟩)] w λe w'=>e= .returned (.string ⟨#[]⟩)/\Below B w w':=by
 have m:=HV;have k:b<w.heap.size:=by
  rcases axe b w.heap.size with h|h
  ·exact h
  ·simp[ayn h]at f
 have c1:w.drew.cell? ⟨b,1,none⟩=some (.slice (some ⟨g,0,none⟩) 0 0):=by
  have:w.drew.heap[b]? =some (.cells #[p,.slice (some ⟨g,0,none⟩) 0 0] 233 (0,0)):=f;rw[avj this];rfl
 have o:(Builtin.unsafeSliceData_ #[23] 296 #[.slice (some ⟨g,0,none⟩) 0 0]).run prog w.drew= .ok (.pointer (some ⟨w.drew.heap.size,0,none⟩)) (w.drew.alloc (.view ⟨g,0,none⟩ 5)):=
  Lib.run_unsafeSliceData_zero w.drew _ _ 5 underlying296 ⟨g,0,none⟩ 0 (5,a.size) (by have l:w.drew.heap[g]? =some (.cells a 5 (0,0)):=j;simp[World.shape?,l])
 have c2:(w.drew.alloc (.view ⟨g,0,none⟩ 5)).cell? ⟨b,1,none⟩=some (.slice (some ⟨g,0,none⟩) 0 0):=by
  have:(w.drew.alloc (.view ⟨g,0,none⟩ 5)).heap[b]? =_:=(Lib.alloc_old w.drew _ b k).trans f;rw[avj this];rfl
 have c3:(w.alloc (.view ⟨g,0,none⟩ 5)).drew.cell? ⟨b,1,none⟩=some (.slice (some ⟨g,0,none⟩) 0 0):=c2;have s:w.cell? ⟨b,1,none⟩=some (.slice (some ⟨g,0,none⟩) 0 0):=c1;have mixed:prog.follows .mixedOrders=true:=by kernel_rfl
 go_enter func137,ntmps137
 go_wp2
 go_region_o
 all_goals(go_wp2;go_ret;exact⟨rfl,(aBo (aw6 B w)).alloc i _⟩)
theorem afp(B b g cap:Nat)(p:Value)(w:World)(a:cap≠0)(f:w.heap[b]? =some (.cells #[p,.slice (some ⟨g,0,none⟩) 0 cap] 233 (0,0))):
  Calls prog 137 #[.pointer (some ⟨b,0,none⟩)] w λe w'=>e= .returned (.string ⟨#[]⟩)/\Below B w w':=by
 have h:=HV;have c1:w.drew.cell? ⟨b,1,none⟩=some (.slice (some ⟨g,0,none⟩) 0 cap):=by
  have:w.drew.heap[b]? =some (.cells #[p,.slice (some ⟨g,0,none⟩) 0 cap] 233 (0,0)):=f;rw[avj this];rfl
 have i:(Builtin.unsafeSliceData_ #[23] 296 #[.slice (some ⟨g,0,none⟩) 0 cap]).run prog w.drew= .ok (.pointer (some ⟨g,0,none⟩)) w.drew:=
  aAv _ _ _ _ _ _ a
 clear a;have mixed:prog.follows .mixedOrders=true:=by kernel_rfl
 go_enter func137,ntmps137
 go_wp2
 go_region_o
 all_goals(go_wp2;go_ret;exact⟨rfl,aBo (aw6 B w)⟩)
theorem aeu(B b:Nat)(w:World)(h:Lib.IsBuilder 233 5 B b [] w)(i:B<=w.heap.size):
  Calls prog 137 #[.pointer (some ⟨b,0,none⟩)] w λe w'=>e= .returned (.string ⟨#[]⟩)/\Below B w w':=by
 obtain⟨p,l,v,a,aQ,m⟩: ∃p,Lib.BuilderAt 233 5 B b p [] w:=by
  rcases h with h|h
  ·exact⟨_,h⟩
  ·exact⟨_,h⟩
 rcases aQ.2 with⟨rfl,_⟩|⟨g,cap,j,rfl,o,k,_,_,_,_⟩
 ·exact ag5 B b p w a
 ·by_cases f:cap=0
  ·subst f
   exact aef B b g p j w i a k
  ·exact afp B b g cap p w f a
theorem aiK(B b:Nat)(l:List UInt8)(w:World)(h:Lib.IsBuilder 233 5 B b (Lib.byteCells l) w)(a:B<=w.heap.size):
  Calls prog 137 #[.pointer (some ⟨b,0,none⟩)] w λe w'=>e= .returned (.string ⟨l.toArray⟩)/\Below B w w':=by
 cases l with
 |nil=>exact aeu B b w h a
 |cons x r=>exact auc B b (x::r) w h (by simp)
end
section
open Go.Shelf
attribute [local go_sem] Oper.semAt_some
def lsP(has:Int->Int->Bool):Nat->List (af)
 |0=> []
 |p+1=>lsP has p++(bif has ((p/2:Nat):Int) ((p % 2+1:Nat):Int)then[(((p/2:Nat):Int),((p % 2+1:Nat):Int))]else[])
theorem RI(has:Int->Int->Bool): ∀p,(lsP has p).length<=p
 |0=>au2 _
 |p+1=>by
  have:=RI has p;unfold lsP;rw[au1];cases has ((p/2:Nat):Int) ((p % 2+1:Nat):Int)<;>simp<;>omega
theorem RQ{has:Int->Int->Bool}{k d:Nat}(h:has (k:Int) ((d:Int)+1)=true)(g:d<2):lsP has (2*k+(d+1))=lsP has (2*k+d)++ [((k:Int),(d:Int)+1)]:=by
 show lsP has (2*k+d)++_=_;have a:(2*k+d)/2=k:=by omega
 have f:(2*k+d) % 2=d:=by omega
 show _++(bif has (((2*k+d)/2:Nat):Int) (((2*k+d) % 2+1:Nat):Int)then[((((2*k+d)/2:Nat):Int),(((2*k+d) % 2+1:Nat):Int))]else[])=_;rw[a,f];rw[show(((d+1:Nat):Int))=(d:Int)+1 from rfl,h];rfl
theorem aiG{has:Int->Int->Bool}{k d:Nat}(h:has (k:Int) ((d:Int)+1)=false)(g:d<2):lsP has (2*k+(d+1))=lsP has (2*k+d):=by
 show lsP has (2*k+d)++_=_;have a:(2*k+d)/2=k:=by omega
 have f:(2*k+d) % 2=d:=by omega
 show _++(bif has (((2*k+d)/2:Nat):Int) (((2*k+d) % 2+1:Nat):Int)then[((((2*k+d)/2:Nat):Int),(((2*k+d) % 2+1:Nat):Int))]else[])=_;rw[a,f];rw[show(((d+1:Nat):Int))=(d:Int)+1 from rfl,h];simp
def KB(n₀ B:Nat)(W a:World):Prop:=Below n₀ W a/\a.heap[B]? =W.heap[B]?
theorem KB.trans{n₀ B:Nat}{X Y Z:World}(h:KB n₀ B X Y)(k:KB n₀ B Y Z):KB n₀ B X Z:=⟨h.1.trans k.1,k.2.trans h.2⟩
theorem KB.cell{n₀ B:Nat}{X Y:World}(h:KB n₀ B X Y)(i:Nat):Y.cell? ⟨B,i,none⟩=X.cell? ⟨B,i,none⟩:=World.cell?_of_block h.2
theorem KB.of{n₀ B n:Nat}{X Y:World}(h:Below n X Y)(a:n₀<=n)(f:B<n):KB n₀ B X Y:=⟨h.mono a,h.block B f⟩
theorem aib{o:World->Prop}(n:Nat)(hn:1<=n)(l Bs n₀:Nat)(a b:Int)(has:Int->Int->Bool)
  (z: ∀(f d:Int) (w:World),o w->Calls prog 153 #[.agg #[.int .u32 a,.int .u32 b],.int .i64 f,.int .i64 d] w λe w'=>e= .returned (.bool (has f d))/\Below w.heap.size w w')
  (A: ∀w w',o w->Below n₀ w w'->o w')
  (J C:List (af)->World->Prop)
  (I: ∀pre w w',J pre w->Below w.heap.size w w'->J pre w')
  (P: ∀pre x W,J pre W->pre.length<64->YieldAt Fence.wide (n-1) prog l #[.int .i64 x.1,.int .i64 x.2] W λe j=>
   (e= .returned (.bool true)/\J (pre++ [x]) j/\KB n₀ Bs W j)\/(e= .returned (.bool false)/\C (pre++ [x]) j))
  (W:World) (L:n₀<=W.heap.size) (M:Bs<W.heap.size) (hH:o W) (Q:W.cell? ⟨Bs,0,none⟩=some (.int .u32 a)) (S:W.cell? ⟨Bs,1,none⟩=some (.int .u32 b)) (h0:J [] W):
  CallsIn Fence.wide n prog 235 #[.func (.yield l) #[] #[],.pointer (some ⟨Bs,0,none⟩)] W λe j=>(∃v,e= .returned v)/\
   ((∃ys,ys=lsP has 64/\J ys j)\/(∃pre,(∃p,p<=64/\pre=lsP has p)/\C pre j)):=by
 refine callsIn_of_wp func235 rfl trivial ?_ rfl;simp only[ntmps235,ax3,avi,avk,Nat.reduceAdd,Nat.reduceSub,aAn,aAo,aA9,aAw,awv,awz];gi_wp2
 gi_loopw [5] (λi wr=> ∃k:Nat,k<=32/\i= .int .i64 k/\J (lsP has (2*k)) wr/\KB n₀ Bs W wr)
  (λi _=>32 - (intOf i).toNat)
 case atStart=>exact⟨0,awc _,rfl,h0,⟨aw6 _ _,rfl⟩⟩
 case round=>
  obtain⟨k,a2,rfl,N,T⟩:=hrel;by_cases a3:k<32
  ·gi_wp2
   have U:decide ((k:Int)<32)=true:=by rw[adv];omega
   rw[U];gi_loopw [4] (λi wr=> ∃d:Nat,d<=2/\i= .int .i64 ((d:Int)+1)/\J (lsP has (2*k+d)) wr/\KB n₀ Bs W wr)
    (λi _=>3 - (intOf i).toNat)
   case atStart=>exact⟨0,awc _,rfl,N,T⟩
   case round=>
    obtain⟨d,a4,rfl,s,g⟩:=hrel;have c0:=(g.cell 0).trans Q;have c1:=(g.cell 1).trans S;by_cases t:d<2
    ·cases hh:has (k:Int) ((d:Int)+1)with
     |true=>
      gi_wp2_with (refine⟨trivial,?_⟩;gi_at_call 153;refine(callsIn_wide.2 (z _ _ _ (A _ _ hH g.1))).mono ?_;rintro e O ⟨rfl,m⟩;rw[hh];have u:=I _ _ _ s m;have y:=KB.of (n₀:=n₀) (B:=Bs) m (auq L g.1.size) (au5 M g.1.size);obtain⟨fn,tmps,a6,body,V,Y⟩:=P _ ((k:Int),(d:Int)+1) O u (by have:=RI has (2*k+d);omega);dsimp only at V)
      refine Y.mono ?_;rintro e W3 (⟨rfl,Z,h8⟩|⟨rfl,h9⟩)
      ·gi_wp2
       go_roundw
       case rel=>exact⟨d+1,by omega,by simp,by rw[RQ hh t];exact Z,(g.trans y).trans h8⟩
       case measure=>simp[intOf];omega
      ·gi_wp2
       refine ax6 (azz rfl _ _ _) rfl ?_;exact⟨⟨_,rfl⟩,.inr ⟨_,⟨2*k+d+1,by omega,(RQ hh t).symm⟩,h9⟩⟩
     |false=>
      gi_wp2_with (refine⟨trivial,?_⟩;gi_at_call 153;refine(callsIn_wide.2 (z _ _ _ (A _ _ hH g.1))).mono ?_;rintro e O ⟨rfl,m⟩;rw[hh];have u:=I _ _ _ s m;have y:=KB.of (n₀:=n₀) (B:=Bs) m (auq L g.1.size) (au5 M g.1.size))
      refine⟨λ_ h=>(by cases h),?_⟩;gi_wp2
      go_roundw
      case rel=>exact⟨d+1,by omega,by simp,by rw[aiG hh t];exact u,g.trans y⟩
      case measure=>simp[intOf];omega
    ·obtain rfl:d=2:=by omega
     gi_wp2
     exact⟨⟨k+1,by omega,by simp,s,g⟩,by simp[intOf];omega⟩
  ·obtain rfl:k=32:=by omega
   gi_wp2
   go_end0
   exact⟨⟨_,rfl⟩,.inl ⟨_,rfl,N⟩⟩
theorem ala(n:Nat)(a b:Int)(w:World):
  CallsIn Fence.wide n prog 201 #[.agg #[.int .u32 a,.int .u32 b]] w λe w'=>e= .returned (.func (.func 235) #[] #[.pointer (some ⟨w.heap.size,0,none⟩)])/\w'=w.alloc (.cells #[.int .u32 a,.int .u32 b] 51):=by
 refine callsIn_of_wp func201 rfl trivial ?_ rfl;simp only[ntmps201,ax3,avi,avk,Nat.reduceAdd,Nat.reduceSub,aAn,aAo,aA9,aAw,awv,awz];gi_wp2
 go_ret
 exact⟨rfl,rfl⟩
def ka(x:af):List Value:= [.int .i64 x.1,.int .i64 x.2,.int .i64 (-1),.int .i64 0,.bool false]
theorem aeK(W:World)(x:af)(j:Nat)(u:Value)(h:(ka x)[j]? =some u):(W.alloc (.cells #[.int .i64 x.1,.int .i64 x.2,.int .i64 (-1),.int .i64 0,.bool false] 93)).cell? ((⟨W.heap.size,0,none⟩:Addr).add j)=some u:=by
 have a:j<5:=by
  have:=List.getElem?_eq_some_iff.1 h;exact this.1
 have:j=0\/j=1\/j=2\/j=3\/j=4:=by omega
 rcases this with rfl|rfl|rfl|rfl|rfl<;>(simp[ka]at h;subst h;simp[Addr.add])
theorem aeo(x:af): ∀u∈ka x,u.oneCell'=true:=by intro u a;simp[ka]at a;rcases a with rfl|rfl|rfl|rfl|rfl<;>rfl
theorem aeS{h:World->Prop}{L:List (af)}(n:Nat)(o:1<=n)(Bs n₀:Nat)(w:World)(a b:Int)(has:Int->Int->Bool)(s:lsP has 64=L)(j:Bs<w.heap.size)
  (t: ∀(f d:Int) (w:World),h w->Calls prog 153 #[.agg #[.int .u32 a,.int .u32 b],.int .i64 f,.int .i64 d] w λe w'=>e= .returned (.bool (has f d))/\Below w.heap.size w w')
  (i: ∀w w',h w->Below n₀ w w'->h w') (m:n₀<=w.heap.size) (hH:h w) (u:w.cell? ⟨Bs,0,none⟩=some (.int .u32 a)) (y:w.cell? ⟨Bs,1,none⟩=some (.int .u32 b)):
  SeqStopsK Fence.wide n prog 235 #[.pointer (some ⟨Bs,0,none⟩)] (λx:af=> #[Value.int .i64 x.1,Value.int .i64 x.2]) (KB n₀ Bs) (λys=>ys=L) (λpre=> ∃p,p<=64/\pre=lsP has p) 64 w:=by
 subst s;exact λl J z W g A I C h0=>
 aib n o l Bs n₀ a b has t i J z (λpre w w' hs hb=>A pre w w' none hs ⟨hb.os,hb.tape,hb.output,hb.size,λk i _=>hb.block k i⟩ (λr e=>by cases e)) C W (auq m g.size) (au5 j g.size) (i _ _ hH (g.mono m))
  ((g.cell (p:=⟨Bs,0,none⟩) j).trans u) ((g.cell (p:=⟨Bs,1,none⟩) j).trans y) h0
theorem Se{W:World}{B:Nat}{us:Array Value}{T:TypeId}(h:W.heap[B]? =some (.cells us T (0,0)))(i:Nat){v:Value}(a:us[i]? =some v):W.cell? ⟨B,i,none⟩=some v:=by
 simp[World.cell?,h,a]
theorem amd{W:World}{b e size k:Nat}{v:Value}{xs:List Value}(h:W.ownsRow b e size v k xs): ∀j,v.ownBlock=some j->b<=j:=λj a=>by
 rcases h.2 with⟨rfl,_⟩|⟨g,cap,f,rfl,hb,_,_⟩
 ·simp[Value.ownBlock]at a
 ·obtain rfl:g=j:=by simpa[Value.ownBlock]using a
  exact hb
theorem afn{W f:World}{n₀ n1 B Bs:Nat}{t e:TypeId}{size:Nat}{v a:Value}{k m:Nat}{xs ys:List Value}{h:Obj}
  (w:Boxed W B t v) (x:t≠e) (s:W.ownsRow n1 e size v k xs) (I:n1<=W.heap.size) (h0:n₀<=B) (y:n₀<=n1) (M:Bs<n1) (J:Bs≠B)
  (z:f.ownsRow n1 e size a m ys) (i:(W.alloc h).grownBy f v.ownBlock):
  Boxed f B t v/\Boxed (f.setCell ⟨B,0,none⟩ a) B t a/\(f.setCell ⟨B,0,none⟩ a).ownsRow n1 e size a m ys/\KeepsOthers W (f.setCell ⟨B,0,none⟩ a)/\KB n₀ Bs W (f.setCell ⟨B,0,none⟩ a):=by
 have u:Boxed f B t v:=(w.alloc h).kept i (w.not_row x s);have A:=amd s;refine⟨u,u.set a,z.kept (grownBy_setCell' f B a) (.inr (u.not_row x z).symm),?_,?_,?_⟩
 ·refine((KeepsOthers.alloc W h).trans (KeepsOthers.of_grownBy i λj o l C=> ?_)).trans (KeepsOthers.setCell _ _ _)
  rcases(s.alloc h).2 with⟨rfl,_⟩|⟨g,cap,N,rfl,_,L,_⟩
  ·simp[Value.ownBlock]at l
  ·obtain rfl:g=j:=by simpa[Value.ownBlock]using l
   rw[L]at C;cases C;rfl
 ·exact(((aw6 n₀ W).alloc (auq y I) h).grown i (by simp;omega) λj l=>auq y (A j l)).setCell (p:=⟨B,0,none⟩) h0 a
 ·refine(ayt _ ⟨B,0,none⟩ _ Bs J).trans ((i.block Bs (by simp;omega) (λe=>by have:=A Bs e.symm;omega)).trans (axx _ _ Bs (by omega)))
theorem ajF:(prog.info? 93).map (λi=>(i.zero,i.size,i.bytes))=some (some (.agg #[.int .i64 0,.int .i64 0,.int .i64 0,.int .i64 0,.bool false]),5,40):=by kernel_rfl
theorem ahN{i:World->Prop}(a b:Int)(has:Int->Int->Bool){L:List (af)}(S:lsP has 64=L)
  (T: ∀(f d:Int) (w:World),i w->Calls prog 153 #[.agg #[.int .u32 a,.int .u32 b],.int .i64 f,.int .i64 d] w λe w'=>e= .returned (.bool (has f d))/\Below w.heap.size w w')
  (w:World) (hH:i w) (z: ∀m C,i m->Below w.heap.size m C->i C):
  Calls prog 154 #[.agg #[.int .u32 a,.int .u32 b]] w λe I=> ∃v,e= .returned v/\I.ownsRow (w.heap.size+3) 93 5 v L.length (L.flatMap ka)/\(v= .slice none 0 0↔L= [])/\Below w.heap.size w I:=by
 refine(callsIn_wide (n:=9)).1 ?_;refine callsIn_of_wp_marks func154 rfl trivial ?_ rfl;simp only[ntmps154,ax3,avi,avk,Nat.reduceAdd,Nat.reduceSub,aAn,aAo,aA9,aAw,awv,awz];gi_wp2_with (refine⟨trivial,?_⟩;gi_at_call 201;refine(ala _ _ _ _).mono ?_;rintro e w' ⟨rfl,rfl⟩)
 obtain⟨i0,hi,U,V,Y⟩:=info_parts ajF;have J:=Boxed.new (w.alloc (.cells #[.int .u32 a,.int .u32 b] 51)) 31 (.slice none 0 0);rw[axz]at J;have M:Below w.heap.size w (((w.alloc (.cells #[.int .u32 a,.int .u32 b] 51)).alloc (.cells #[.slice none 0 0] 31)).alloc (.cells #[.int .u32 a,.int .u32 b] 51)):=(((aw6 _ w).alloc (au2 _) _).alloc (by simp) _).alloc (by simp;omega) _;have N:(((w.alloc (.cells #[.int .u32 a,.int .u32 b] 51)).alloc (.cells #[.slice none 0 0] 31)).alloc (.cells #[.int .u32 a,.int .u32 b] 51)).heap[w.heap.size+1+1]? =some (.cells #[.int .u32 a,.int .u32 b] 51 (0,0)):=by
  have:=ayx ((w.alloc (.cells #[.int .u32 a,.int .u32 b] 51)).alloc (.cells #[.slice none 0 0] 31)) (.cells #[.int .u32 a,.int .u32 b] 51);rwa [axz,axz]at this
 refine wpIn_rangeFunc_ownG rfl (by decide) (gf:=235) (lb:= #[.pointer (some ⟨w.heap.size+1+1,0,none⟩)]) rfl trivial (enters_of func235 (by kernel_rfl) rfl)
  (aeS 8 (by decide) (w.heap.size+1+1) w.heap.size _ a b has S (by simp) T z (by simp;omega) (z _ _ hH M) (Se N 0 rfl) (Se N 1 rfl)) KB.trans (λW l o Z (hl:(((w.alloc (.cells #[.int .u32 a,.int .u32 b] 51)).alloc (.cells #[.slice none 0 0] 31)).alloc (.cells #[.int .u32 a,.int .u32 b] 51)).heap.size<=l) _ _ _=>⟨belowK_b (w:=w) (au2 _) W l o Z (by simp only[axz]at hl;omega) (by assumption) (by assumption) (by assumption),World.putObj_heap_other (by simp only[axz]at hl;omega)⟩) (aw6 _ _) (λ_=>rfl)
  (λpre W=>(∃v,Boxed W (w.heap.size+1) 31 v/\W.ownsRow (w.heap.size+3) 93 5 v pre.length (pre.flatMap ka)/\(v= .slice none 0 0↔pre= []))/\(Below w.heap.size w W/\w.heap.size+3<=W.heap.size))
  (λ_ _ _=>False)
  (OwnFrom.and (Own.from (holdsRow_own (w.heap.size+3) (w.heap.size+1) 31 93 5 (λpre=>pre.length) (λpre=>pre.flatMap ka) (λpre v=>v= .slice none 0 0↔pre= [])) _) (OwnFrom.and (ownFrom_below (au2 _) (by simp;omega)) (λs A B row hs hg hr=>auq hs hg.size)))
  (λ_ _ _ _ _ hs _ _=>hs)
  ⟨⟨_,J.alloc _,World.ownsRow_nil _ _ _ _,by simp⟩,M,by simp only[axz];omega⟩
  (λx=>{ tmps:= #[.agg #[.int .u32 a,.int .u32 b],.pointer (some ⟨w.heap.size,0,none⟩),.slice none 0 0,.pointer (some ⟨w.heap.size+1,0,none⟩),.int .i64 x.1,.int .i64 x.2,.agg #[.int .u32 a,.int .u32 b],.func (.func 235) #[] #[.pointer (some ⟨w.heap.size+1+1,0,none⟩)],.int .i64 x.1,.int .i64 x.2,undef,undef,undef,undef,undef,undef,undef],defers:= []}) ?assign ?body ?done ?stop
 case assign=>
  intro l x W K g;gi_wp2
  exact g
 case body=>
  rintro l pre x W ⟨⟨v,j,k,O⟩,t,u⟩ a6
  have hc:=j.cell;gi_wp2_with (gi_at_builtin;refine wpListIn_append_own _ rfl _ _ 31 rfl (w.heap.size+3) 93 i0 (.agg #[.int .i64 0,.int .i64 0,.int .i64 0,.int .i64 0,.bool false]) 5 40 underlying31 hi U V Y rfl (by decide) _ _ _ rfl (k.alloc _) ⟨W.heap.size,0,none⟩ 1 1 (ka x) rfl rfl (aeK W x) (aeo x) (by unfold maxLen;omega) (by omega) (by simp only[axz];omega) ?_;intro v' m P a1 _;obtain⟨g',b0,rfl⟩:=ownsRow_succ P;obtain⟨Q,a2,a3,a4,y⟩:=afn (n₀:=w.heap.size) (Bs:=w.heap.size+1+1) j (by decide) k u (azv _) (by omega) (by omega) (by omega) P a1;have b2:=Q.cell;have b3:=Q.frozen)
  exact⟨a4.from _,y,⟨_,a2,by simpa using a3,by simp⟩,t.trans y.1,auq u y.1.size⟩
 case done=>
  rintro D ys W hD rfl ⟨⟨v,j,k,O⟩,t,u⟩ g
  have hc:=j.cell;gi_wp2
  refine⟨by simp,.inl ⟨_,_,rfl,run_takeDeferred g,?_⟩⟩;exact⟨_,results_tmp rfl _ _ _,v,rfl,ownsRow_putObj k _ g rfl,O,t.trans (belowK_b (w:=w) (au2 _) W D _ _ (by simp only[axz]at hD;omega) g rfl rfl)⟩
 case stop=>
  rintro D c pre W _ _ h _
  exact h.elim
end
structure Gr where
 xs:Array Obj
 d:Nat
instance:Inhabited Gr:=⟨⟨#[],0⟩⟩
def Gr.n(g:Gr):Nat:=g.xs.size
def Gr.drew(g:Gr):Gr:=⟨g.xs,g.d+1⟩
def Gr.add(g h:Gr):Gr:=⟨g.xs++h.xs,h.d⟩
def ext(w:World)(g:Gr):World:={ w with heap:=w.heap++g.xs,drawn:=g.d}
@[simp,go_sem] theorem aul (w:World) (g:Gr):(ext w g).heap.size=w.heap.size+g.n:=by simp[ext,Gr.n]
@[simp high,go_sem high] theorem auh (w:World) (g h:Gr):(ext w (g.add h)).heap.size=(ext w g).heap.size+h.n:=by simp[ext,Gr.add,Gr.n,az0]
@[simp high,go_sem high] theorem aug (w:World) (g:Gr):(ext w g.drew).heap.size=(ext w g).heap.size:=by simp[ext,Gr.drew]
@[simp,go_sem] theorem auk (a:Nat) (g h:Gr):a+(g.add h).n=a+g.n+h.n:=by simp[Gr.add,Gr.n,az0]
@[simp,go_sem] theorem auj (a:Nat) (g:Gr):a+g.drew.n=a+g.n:=by simp[Gr.drew,Gr.n]
theorem Gr.add_assoc(a b c:Gr):(a.add b).add c=a.add (b.add c):=by simp_all [Gr.add]
section
section
variable {P:Program} {ops:Array Oper} {md:Region.Mode} {C:World->Prop}
end
section
variable {P:Program} {ops:Array Oper} {md:Region.Mode} {C:World->Prop}
end
end
end Go.Proofs.YtcfinjcapeemeaaGreatDoor.S
