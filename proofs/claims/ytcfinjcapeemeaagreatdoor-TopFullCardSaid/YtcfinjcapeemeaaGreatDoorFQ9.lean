/- Part of the proof that the law TopFull holds for every input. -/
import Derived.Test.YtcfinjcapeemeaaGreatDoorFQ8
set_option linter.all false
set_option maxRecDepth 100000
set_option maxHeartbeats 4000000
namespace Go.Proofs.YtcfinjcapeemeaaGreatDoor.S
open Go Go.RowKit IntKind Go.Proofs.Tryz
section
open Go.Shelf
structure eE (w:World) (cb cs cm:Array Value) (W:World):Prop where
 aB:Below w.heap.size w W
 hb:W.heap[w.heap.size]? =some (.cells cb 27 (0,0))
 hs:W.heap[w.heap.size+1]? =some (.cells cs 36 (0,0))
 hm:W.heap[w.heap.size+1+1]? =some (.cells cm 33 (0,0))
 hr:W.heap[w.heap.size+1+1+1]? =some (.cells #[.string (ByteArray.mk #[]),.string (ByteArray.mk #[]),.int .i64 0] 36 (0,0))
theorem eE.lt{w:World}{a cs cm:Array Value}{W:World}(h:eE w a cs cm W):w.heap.size+4<=W.heap.size:=(Array.getElem?_eq_some_iff.1 h.hr).1
theorem eE.Gm{w:World}{a cs cm:Array Value}{W:World}(h:eE w a cs cm W):w.heap.size<W.heap.size/\w.heap.size+1<W.heap.size/\w.heap.size+1+1<W.heap.size/\w.heap.size+1+1+1<W.heap.size:=by have:=h.lt;omega
theorem eE.grow{w:World}{f cs cm:Array Value}{W g:World}(h:eE w f cs cm W)(a:Below (w.heap.size+4) W g):eE w f cs cm g:=
 ⟨h.aB.trans (a.mono (by omega)),(a.block _ (by omega)).trans h.hb,(a.block _ (by omega)).trans h.hs,(a.block _ (by omega)).trans h.hm,(a.block _ (by omega)).trans h.hr⟩
theorem eE.call{w:World}{a cs cm:Array Value}{W f:World}(h:eE w a cs cm W)(g:Below W.heap.size W f):eE w a cs cm f:=h.grow (g.mono h.lt)
theorem eE.cS{w:World}{g cm:Array Value}{s0 a f:Value}{W:World}(h:eE w g #[s0,a,f] cm W):
  W.cell? ⟨w.heap.size+1,0,none⟩=some s0/\W.cell? ⟨w.heap.size+1,1,none⟩=some a/\W.cell? ⟨w.heap.size+1,2,none⟩=some f:=
 ⟨by rw[avj h.hs];rfl,by rw[avj h.hs];rfl,by rw[avj h.hs];rfl⟩
theorem eE.cM{w:World}{f cs:Array Value}{m0 a m2 m3:Value}{W:World}(h:eE w f cs #[m0,a,m2,m3] W):
  W.cell? ⟨w.heap.size+1+1,0,none⟩=some m0/\W.cell? ⟨w.heap.size+1+1,1,none⟩=some a/\W.cell? ⟨w.heap.size+1+1,2,none⟩=some m2/\W.cell? ⟨w.heap.size+1+1,3,none⟩=some m3:=
 ⟨by rw[avj h.hm];rfl,by rw[avj h.hm];rfl,by rw[avj h.hm];rfl,by rw[avj h.hm];rfl⟩
theorem eE.cR{w:World}{a cs cm:Array Value}{W:World}(h:eE w a cs cm W):
  (W.cell? ⟨w.heap.size+1+1+1,0,none⟩=some (.string (ByteArray.mk #[]))/\W.cell? ⟨w.heap.size+1+1+1,1,none⟩=some (.string (ByteArray.mk #[]))/\W.cell? ⟨w.heap.size+1+1+1,2,none⟩=some (.int .i64 0))/\
  W.frozen? ⟨w.heap.size+1+1+1,0,none⟩=false/\W.frozen? ⟨w.heap.size+1+1+1,1,none⟩=false/\W.frozen? ⟨w.heap.size+1+1+1,2,none⟩=false:=
 ⟨⟨by rw[avj h.hr];rfl,by rw[avj h.hr];rfl,by rw[avj h.hr];rfl⟩,ax9 h.hr _,ax9 h.hr _,ax9 h.hr _⟩
theorem eE.fS{w:World}{a cs cm:Array Value}{W:World}(h:eE w a cs cm W):
  W.frozen? ⟨w.heap.size+1,0,none⟩=false/\W.frozen? ⟨w.heap.size+1,1,none⟩=false/\W.frozen? ⟨w.heap.size+1,2,none⟩=false:=
 ⟨ax9 h.hs _,ax9 h.hs _,ax9 h.hs _⟩
theorem eE.new(w:World)(a cs cm:Array Value):eE w a cs cm ((((w.alloc (.cells a 27)).alloc (.cells cs 36)).alloc (.cells cm 33)).alloc (.cells #[.string (ByteArray.mk #[]),.string (ByteArray.mk #[]),.int .i64 0] 36)):=by
 have h1:=ayx w (.cells a 27);have h2:=ayx (w.alloc (.cells a 27)) (.cells cs 36);have h3:=ayx ((w.alloc (.cells a 27)).alloc (.cells cs 36)) (.cells cm 33);have h4:=ayx (((w.alloc (.cells a 27)).alloc (.cells cs 36)).alloc (.cells cm 33)) (.cells #[.string (ByteArray.mk #[]),.string (ByteArray.mk #[]),.int .i64 0] 36);simp only[axz]at h2 h3 h4;refine⟨((((aw6 _ _).alloc (au2 _) _).alloc (by simp) _).alloc (by simp;omega) _).alloc (by simp;omega) _,?_,?_,?_,h4⟩
 ·refine(axx _ _ _ (by simp;omega)).trans ((axx _ _ _ (by simp;omega)).trans ((axx _ _ _ (by simp)).trans h1))
 ·refine(axx _ _ _ (by simp)).trans ((axx _ _ _ (by simp)).trans h2)
 ·exact(axx _ _ _ (by simp)).trans h3
theorem eE.cB{w:World}{cs cm:Array Value}{a b1 f g i j k l:Value}{W:World}(h:eE w #[a,b1,f,g,i,j,k,l] cs cm W):
  W.cell? ⟨w.heap.size,0,none⟩=some a/\W.cell? ⟨w.heap.size,1,none⟩=some b1/\W.cell? ⟨w.heap.size,2,none⟩=some f/\W.cell? ⟨w.heap.size,3,none⟩=some g/\
  W.cell? ⟨w.heap.size,4,none⟩=some i/\W.cell? ⟨w.heap.size,5,none⟩=some j/\W.cell? ⟨w.heap.size,6,none⟩=some k/\W.cell? ⟨w.heap.size,7,none⟩=some l:=
 ⟨by rw[avj h.hb];rfl,by rw[avj h.hb];rfl,by rw[avj h.hb];rfl,by rw[avj h.hb];rfl,by rw[avj h.hb];rfl,by rw[avj h.hb];rfl,by rw[avj h.hb];rfl,by rw[avj h.hb];rfl⟩
def nR(n0:Nat)(W:World)(v:Value)(l:List (aP)):Prop:=
 (v= .slice none 0 0/\l= [])\/ ∃g cap us,v= .slice (some ⟨g,0,none⟩) l.length cap/\n0<=g/\W.heap[g]? =some (.cells us 213 (0,0))/\
  ∀i (hi:i<l.length),us[i*5]? =some (.int .i64 l[i].1)/\us[i*5+1]? =some (.int .i64 l[i].2.1)/\us[i*5+2]? =some (.int .i64 l[i].2.2.1)/\us[i*5+3]? =some (.int .i64 l[i].2.2.2.1)/\us[i*5+4]? =some (.int .i64 l[i].2.2.2.2)
theorem Ip{T e:TypeId}{B b:Nat}{bs:List Value}{W f:World}(h:Lib.IsBuilder T e B b bs W)(a:Below W.heap.size W f):Lib.IsBuilder T e B b bs f:=by
 have key: ∀p,Lib.BuilderAt T e B b p bs W->Lib.BuilderAt T e B b p bs f:=λp g=>by
  have i:=g.lt;obtain⟨h1,v,h2,h3,h4⟩:=g;exact⟨h1,v,(a.block b i).trans h2,h3.kept (row:=none) ⟨a.os,a.tape,a.output,a.size,λk j _=>a.block k j⟩ (by cases hv:v.ownBlock with
   |none=>exact .inl rfl
   |some x=>exact .inr (by simp)),h4⟩
 exact h.imp (key _) (key _)
theorem nR.grow{n0:Nat}{W a:World}{v:Value}{l:List (aP)}(h:nR n0 W v l)(f:Below W.heap.size W a):nR n0 a v l:=by
 rcases h with h|⟨g,cap,us,h1,h2,h3,h4⟩
 ·exact .inl h
 ·exact .inr ⟨g,cap,us,h1,h2,(f.block g (Array.getElem?_eq_some_iff.1 h3).1).trans h3,h4⟩
theorem qG{W:World}{B:Nat}{p q r x y z:Value}{T:TypeId}{fz:aR}(h:W.heap[B]? =some (.cells #[p,q,r] T fz)):(((W.setCell ⟨B,0,none⟩ x).setCell ⟨B,1,none⟩ y).setCell ⟨B,2,none⟩ z).heap[B]? =some (.cells #[x,y,z] T fz):=by
 simp[World.setCell,Array.getElem?_modify,h]
theorem mL{W:World}{B k:Nat}(x y z:Value)(a:k≠B):(((W.setCell ⟨B,0,none⟩ x).setCell ⟨B,1,none⟩ y).setCell ⟨B,2,none⟩ z).heap[k]? =W.heap[k]? :=
 (ayt _ ⟨B,2,none⟩ _ k a).trans ((ayt _ ⟨B,1,none⟩ _ k a).trans (ayt _ ⟨B,0,none⟩ _ k a))
theorem kR{n B:Nat}{w W:World}(h:Below n w W)(a:n<=B)(x y z:Value):Below n w (((W.setCell ⟨B,0,none⟩ x).setCell ⟨B,1,none⟩ y).setCell ⟨B,2,none⟩ z):=
 ((h.setCell (p:=⟨B,0,none⟩) a _).setCell (p:=⟨B,1,none⟩) a _).setCell (p:=⟨B,2,none⟩) a _
theorem XW{W:World}{B:Nat}(x y z:Value):(((W.setCell ⟨B,0,none⟩ x).setCell ⟨B,1,none⟩ y).setCell ⟨B,2,none⟩ z).heap.size=W.heap.size:=by simp[World.setCell]
theorem nR.oth{n0 b:Nat}{W a:World}{v:Value}{l:List (aP)}(h:nR n0 W v l)(f:M7 b W a)(hb:b<n0):nR n0 a v l:=by
 rcases h with h|⟨g,cap,us,h1,h2,h3,h4⟩
 ·exact .inl h
 ·exact .inr ⟨g,cap,us,h1,h2,f g us _ _ h3 (by decide) (by omega),h4⟩
theorem akw{B b k:Nat}{bs:List Value}{W:World}{us:Array Value}(x y z:Value)(h:Lib.IsBuilder 233 5 B b bs W)(a:W.heap[k]? =some (.cells us 36 (0,0)))(f:b≠k):Lib.IsBuilder 233 5 B b bs (((W.setCell ⟨k,0,none⟩ x).setCell ⟨k,1,none⟩ y).setCell ⟨k,2,none⟩ z):=by
 have key: ∀p,Lib.BuilderAt 233 5 B b p bs W->Lib.BuilderAt 233 5 B b p bs (((W.setCell ⟨k,0,none⟩ x).setCell ⟨k,1,none⟩ y).setCell ⟨k,2,none⟩ z):=λp g=>by
  obtain⟨h1,v,h2,h3,h4⟩:=g;have i:=Lib.ownBlock_ne h3 a (by decide);refine⟨h1,v,(mL x y z f).trans h2,h3.kept (row:=some k) ⟨rfl,rfl,rfl,ayd (XW x y z).symm,λj _ l=>mL x y z (λe=>l (by rw[e]))⟩ (.inr i),h4⟩
 exact h.imp (key _) (key _)
theorem ai5:(prog.info? 36).map (·.size)=some 3:=by kernel_rfl
theorem tW{tmps:Array Value}{W:World}{B:Nat}{x y z n e:Value}(a:tmps.getD 8 undef= .pointer (some ⟨B,0,none⟩))(f:tmps.getD 9 undef=n)(g:tmps.getD 10 undef=e)(hb:W.heap[B]? =some (.cells #[x,y,z] 36 (0,0))):
  (results f99 tmps).run prog W= .ok (.tuple #[.agg #[x,y,z],n,e]) W:=by
 have h:tmps[8]?.getD undef= .pointer (some ⟨B,0,none⟩):=by simpa using a
 have i:tmps[9]?.getD undef=n:=by simpa using f
 have j:tmps[10]?.getD undef=e:=by simpa using g
 simp[results,show f99.results= #[.cell 8 36,.tmp 9,.tmp 10]from rfl,h,i,j,asAddr,run_loadVar_row W B 36 36 #[x,y,z] (0,0) _ hb underlying36 rfl ai5]
def rf(r:((eW)×Int)×af):Value:= .tuple #[.agg #[.string r.1.1.1,.string r.1.1.2,.int .i64 r.1.2],.int .i64 r.2.1,.int .i64 r.2.2]
theorem adM{a0 y f z n j:Int}{s0 s1:ByteArray}{A C I J m0 M m2 m3:Value}{w:World}{g1 d7:Bool}{dw:List (aP)}{enc:aP->ByteArray}{y3:aP->Int}
  {er:Int->((eW)×Int)×af} {g3:((eW)×Int)->Int->ByteArray->Int->((eW)×Int)×af} {ch:((eW)×Int)->Int->Int->((eW)×Int)×af} {acc:Nat->ByteArray}
  (y4: ∀W,Below w.heap.size w W->Calls prog 54 #[.int .i64 f,.agg #[.string s0,.string s1,.int .i64 j]] W λe m=>e= .returned (.bool g1)/\Below W.heap.size W m)
  (y5: ∀W,Below w.heap.size w W->Calls prog 102 #[.agg #[.int .i64 a0,.int .i64 y,.int .i64 f,.int .i64 z,A,C,I,J],.agg #[m0,M,m2,m3]] W λe m=>e= .returned (.bool d7)/\Below W.heap.size W m)
  (hl:dw.length<=1000)
  (y6:d7=true-> ∀W,Below w.heap.size w W->Calls prog 132 #[.agg #[.int .i64 a0,.int .i64 y,.int .i64 f,.int .i64 z,A,C,I,J],.agg #[m0,M,m2,m3]] W λe m=> ∃v,e= .returned v/\Below W.heap.size W m/\nR W.heap.size m v dw)
  (i4: ∀r,(enc r).size<=6)
  (y7: ∀(r:aP) W,Below w.heap.size w W->Calls prog 133 #[.agg #[.int .i64 a0,.int .i64 y,.int .i64 f,.int .i64 z,A,C,I,J],.agg #[.int .i64 r.1,.int .i64 r.2.1,.int .i64 r.2.2.1,.int .i64 r.2.2.2.1,.int .i64 r.2.2.2.2]] W λe m=>e= .returned (.tuple #[.string (enc r),.int .i64 (y3 r)])/\Below W.heap.size W m)
  (y8: ∀(h:Int) W,Below w.heap.size w W->Calls prog 135 #[.int .i64 f,.agg #[.string s0,.string s1,.int .i64 j],.int .i64 h,.int .i64 n] W λe m=>e= .returned (rf (er h))/\Below W.heap.size W m)
  (y9: ∀(s:(eW)×Int) (h:Int) (d:ByteArray) (n:Int) W,Below w.heap.size w W->Calls prog 136 #[.int .i64 f,.agg #[.string s.1.1,.string s.1.2,.int .i64 s.2],.int .i64 h,.string d,.int .i64 n] W λe m=>e= .returned (rf (g3 s h d n))/\Below W.heap.size W m)
  (z5: ∀(s:(eW)×Int) (h:Int) (n:Int) W,Below w.heap.size w W->Calls prog 138 #[.int .i64 f,.agg #[.string s.1.1,.string s.1.2,.int .i64 s.2],.int .i64 h,.int .i64 n] W λe m=>e= .returned (rf (ch s h n))/\Below W.heap.size W m)
  (i5:acc 0=ByteArray.mk #[]) (i6: ∀i (hi:i<dw.length),Lib.strCells (acc (i+1))=Lib.strCells (acc i)++Lib.strCells (enc dw[i])):
  Calls prog 99 #[.agg #[.int .i64 a0,.int .i64 y,.int .i64 f,.int .i64 z,A,C,I,J],.agg #[.string s0,.string s1,.int .i64 j],.agg #[m0,M,m2,m3],.int .i64 n] w λe m=>Below w.heap.size w m/\e= .returned (rf (
   bif((!g1)||(decide (n<(0:Int))))||(!d7)then(((ByteArray.mk #[],ByteArray.mk #[]),(0:Int)),(0:Int),(1:Int))else
   let h:=i64.wrap ((1:Int)-j)
   let a:=er h
   let c:=bif(a.2.2==(0:Int))then g3 a.1 h (acc dw.length) a.2.1 else a
   bif(c.2.2==(0:Int))then ch c.1 h c.2.1 else c)):=by
 have z6: ∀k,k<=dw.length->(Lib.strCells (acc k)).length<=6*k:=by
  intro k;induction k with
  |zero=>intro _;rw[i5];exact au2 _
  |succ k ih=>
   intro hk;have h1:=ih (by omega);have h2:=i4 (dw[k]'(by omega));rw[i6 k (by omega),au1,Lib.strCells_length (enc _)];omega
 have mixed:prog.follows .mixedOrders=true:=by kernel_rfl
 go_enter func99,ntmps99
 go_wp2_with fail
 have d9:=eE.new w #[.int .i64 a0,.int .i64 y,.int .i64 f,.int .i64 z,A,C,I,J] #[.string s0,.string s1,.int .i64 j] #[m0,M,m2,m3];generalize((((w.alloc (.cells #[.int .i64 a0,.int .i64 y,.int .i64 f,.int .i64 z,A,C,I,J] 27)).alloc (.cells #[.string s0,.string s1,.int .i64 j] 36)).alloc (.cells #[m0,M,m2,m3] 33)).alloc (.cells #[.string (ByteArray.mk #[]),.string (ByteArray.mk #[]),.int .i64 0] 36))=W0 at d9⊢;refine(y4 _ d9.aB).mono ?_;rintro e W1 ⟨rfl,i9⟩
 have P:=d9.call i9;obtain⟨t,u,x,q3,q4,q5,q6,q7⟩:=P.cB;obtain⟨T,U,S,V⟩:=P.cM;obtain⟨⟨t0,t1,t2⟩,t3,t4,t5⟩:=P.cR;cases g1 with
 |false=>
  go_wp2_with fail
  refine ax6 (tW (n:= .int .i64 0) (e:= .int .i64 1) rfl rfl rfl (qG P.hr)) rfl ?_;exact⟨kR P.aB (by omega) _ _ _,rfl⟩
 |true=>
  by_cases hn:n<0
  ·go_wp2_with fail
   refine ax6 (tW (n:= .int .i64 0) (e:= .int .i64 1) rfl rfl rfl (qG P.hr)) rfl ?_;rw[show decide (n<0)=true from axr hn];exact⟨kR P.aB (by omega) _ _ _,rfl⟩
  ·go_wp2_with fail
   refine(y5 _ P.aB).mono ?_;rintro e l ⟨rfl,j0⟩
   have Y:=P.call j0;clear t u x q3 q4 q5 q6 q7 T U S V t0 t1 t2 t3 t4 t5;obtain⟨t,u,x,q3,q4,q5,q6,q7⟩:=Y.cB;obtain⟨T,U,S,V⟩:=Y.cM;obtain⟨⟨t0,t1,t2⟩,t3,t4,t5⟩:=Y.cR;rw[show decide (n<0)=false from axg (by omega)];cases d7 with
   |false=>
    go_wp2_with fail
    refine ax6 (tW (n:= .int .i64 0) (e:= .int .i64 1) rfl rfl rfl (qG Y.hr)) rfl ?_;rw[show((!true||decide (n<0))|| !false)=true from by simp];exact⟨kR Y.aB (by omega) _ _ _,rfl⟩
   |true=>
    obtain⟨l0,l1,l2,l3⟩:=Y.Gm;go_wp2_with fail
    have f3:eE w #[.int .i64 a0,.int .i64 y,.int .i64 f,.int .i64 z,A,C,I,J] #[.string s0,.string s1,.int .i64 j] #[m0,M,m2,m3] (l.alloc (.cells #[.pointer none,.slice none 0 0] 233)):=Y.call ((aw6 _ _).alloc (au2 _) _);have g4:=Lib.fresh_isBuilder 233 5 l;have j1:l.heap.size<(l.alloc (.cells #[.pointer none,.slice none 0 0] 233)).heap.size:=by simp
    generalize l.alloc (.cells #[.pointer none,.slice none 0 0] 233)=Wa at f3 g4 j1⊢;refine(y6 trivial _ f3.aB).mono ?_;rintro e W3 ⟨v,rfl,g5,Z⟩
    have j2:=f3.call g5;have j3:=Ip g4 g5;have j4:w.heap.size+4<=l.heap.size:=Y.lt;clear t u x q3 q4 q5 q6 q7 T U S V t0 t1 t2 t3 t4 t5 d9 P Y i9 j0 f3 g4 g5;have hRg:Wa.heap.size<=Wa.heap.size:=au2 _;obtain⟨ad,cap,hv,Z⟩: ∃ad cap,v= .slice ad dw.length cap/\nR Wa.heap.size W3 v dw:=by
     rcases Z with⟨rfl,rfl⟩|⟨g,cap,us,rfl,h⟩
     ·exact⟨_,_,rfl,.inl ⟨rfl,rfl⟩⟩
     ·exact⟨_,_,rfl,.inr ⟨g,cap,us,rfl,h⟩⟩
    subst hv;go_wp2_with fail
    go_loopw [38] (λi wr=> ∃k:Nat,k<=dw.length/\i= .int .i64 k/\eE w #[.int .i64 a0,.int .i64 y,.int .i64 f,.int .i64 z,A,C,I,J] #[.string s0,.string s1,.int .i64 j] #[m0,M,m2,m3] wr/\Lib.IsBuilder 233 5 l.heap.size l.heap.size (Lib.strCells (acc k)) wr/\nR Wa.heap.size wr (.slice ad dw.length cap) dw)
     (λi _=>dw.length - (intOf i).toNat)
    case atStart=>exact⟨0,awc _,rfl,j2,by rw[i5];exact j3,Z⟩
    case round=>
     clear j2 j3 Z;obtain⟨k,hk,rfl,N,b2,Z⟩:=hrel;by_cases f5:k<dw.length
     ·obtain⟨g,cap',us,e1,hg,a7,hrow⟩:=Z.resolve_left (λh=>by rw[h.2]at f5;simp at f5)
      cases e1;obtain⟨e0,e1,e2,e3,e4⟩:=hrow k f5;have d0:wr.cell? ⟨g,k*5,none⟩=some (.int .i64 dw[k].1):=by rw[avj a7];exact e0
      have d1:wr.cell? ⟨g,k*5+1,none⟩=some (.int .i64 dw[k].2.1):=by rw[avj a7];exact e1
      have d2:wr.cell? ⟨g,k*5+2,none⟩=some (.int .i64 dw[k].2.2.1):=by rw[avj a7];exact e2
      have d3:wr.cell? ⟨g,k*5+3,none⟩=some (.int .i64 dw[k].2.2.2.1):=by rw[avj a7];exact e3
      have d4:wr.cell? ⟨g,k*5+4,none⟩=some (.int .i64 dw[k].2.2.2.2):=by rw[avj a7];exact e4
      obtain⟨t,u,x,q3,q4,q5,q6,q7⟩:=N.cB;obtain⟨l0,l1,l2,l3⟩:=N.Gm;have lg:g<wr.heap.size:=(Array.getElem?_eq_some_iff.1 a7).1;go_wp2_with fail
      refine(y7 dw[k] _ (N.aB.alloc (auq (by omega) N.lt) _)).mono ?_;rintro e W5 ⟨rfl,hb5⟩
      have f6:Below wr.heap.size wr W5:=((aw6 _ _).alloc (au2 _) _).trans (hb5.mono (by simp));have hF5:=N.call f6;have hB5:=Ip b2 f6;have hR5:=Z.grow f6;have hW2:l.heap.size<wr.heap.size:=by rcases b2 with h|h<;>exact h.lt
      have hW5:=f6.size;go_wp2_with fail
      refine(alC l.heap.size l.heap.size _ (enc dw[k]) _ hB5 (by have:=z6 k hk;have:=i4 dw[k];omega) (by omega)).mono ?_;rintro e W6 ⟨rfl,hB6,hb6,ho6⟩
      go_wp2_with fail
      go_roundw
      case rel=>exact⟨k+1,by omega,by simp,hF5.grow (hb6.mono j4),by rw[i6 k f5];exact .inr hB6,hR5.oth ho6 j1⟩
      case measure=>simp[intOf];omega
     ·obtain rfl:k=dw.length:=by omega
      obtain⟨t,u,x⟩:=N.cS;obtain⟨T,U,S,V,r4,r5,r6,r7⟩:=N.cB;obtain⟨f0,f1,f2⟩:=N.fS;have hbl:l.heap.size<wr.heap.size:=by rcases b2 with h|h<;>exact h.lt
      go_wp2_with fail
      refine(y8 _ _ N.aB).mono ?_;rintro e W7 ⟨rfl,f7⟩
      have L:=N.call f7;have j5:=Ip b2 f7;have hs7:=f7.size;clear t u x T U S V r4 r5 r6 r7 f0 f1 f2;generalize j6:er (wrap64 (1-j))=r7;obtain⟨⟨⟨x0,x1⟩,xc⟩,xn,xe⟩:=r7;unfold rf;dsimp only;obtain⟨t,u,x⟩:=L.cS;obtain⟨f0,f1,f2⟩:=L.fS;have hh:i64.wrap ((1:Int)-j)=wrap64 (1-j):=by rw[avf];unfold wrap64;omega
      have j8:((!true||decide (n<0))|| !true)=false:=by rw[show decide (n<0)=false from axg (by omega)];rfl
      by_cases hx:xe=0
      ·subst hx
       have O:eE w #[.int .i64 a0,.int .i64 y,.int .i64 f,.int .i64 z,A,C,I,J] #[.string x0,.string x1,.int .i64 xc] #[m0,M,m2,m3] (((W7.setCell ⟨w.heap.size+1,0,none⟩ (.string x0)).setCell ⟨w.heap.size+1,1,none⟩ (.string x1)).setCell ⟨w.heap.size+1,2,none⟩ (.int .i64 xc)):=
        ⟨kR L.aB (by omega) _ _ _,(mL _ _ _ (by omega)).trans L.hb,qG L.hs,(mL _ _ _ (by omega)).trans L.hm,(mL _ _ _ (by omega)).trans L.hr⟩
       have j9:=akw (.string x0) (.string x1) (.int .i64 xc) j5 L.hs (by omega);have k0:l.heap.size<(((W7.setCell ⟨w.heap.size+1,0,none⟩ (.string x0)).setCell ⟨w.heap.size+1,1,none⟩ (.string x1)).setCell ⟨w.heap.size+1,2,none⟩ (.int .i64 xc)).heap.size:=by rw[XW];omega
       go_wp2_with fail
       generalize(((W7.setCell ⟨w.heap.size+1,0,none⟩ (.string x0)).setCell ⟨w.heap.size+1,1,none⟩ (.string x1)).setCell ⟨w.heap.size+1,2,none⟩ (.int .i64 xc))=W8 at O j9 k0⊢;clear t u x f0 f1 f2 L j5 f7 hs7 N b2 Z;obtain⟨t,u,x⟩:=O.cS;obtain⟨f0,f1,f2⟩:=O.fS;obtain⟨T,U,S,V,r4,r5,r6,r7⟩:=O.cB;obtain⟨⟨t0,t1,t2⟩,t3,t4,t5⟩:=O.cR;obtain⟨l0,l1,l2,l3⟩:=O.Gm;have hFd:eE w #[.int .i64 a0,.int .i64 y,.int .i64 f,.int .i64 z,A,C,I,J] #[.string x0,.string x1,.int .i64 xc] #[m0,M,m2,m3] W8.drew:=⟨aBo O.aB,O.hb,O.hs,O.hm,O.hr⟩;have hstr:Calls prog 137 #[.pointer (some ⟨l.heap.size,0,none⟩)] W8.drew λe w'=>e= .returned (.string (acc dw.length))/\Below l.heap.size W8.drew w':=
        aiK l.heap.size l.heap.size (acc dw.length).data.toList W8.drew j9 (aBu k0)
       generalize k1:g3 ((x0,x1),xc) (wrap64 (1-j)) (acc dw.length) xn=r9;obtain⟨⟨⟨y0,y1⟩,yc⟩,yn,ye⟩:=r9;have hwr: ∀W,Below w.heap.size w W->Calls prog 136 #[.int .i64 f,.agg #[.string x0,.string x1,.int .i64 xc],.int .i64 (wrap64 (1-j)),.string (acc dw.length),.int .i64 xn] W λe w'=>e= .returned (.tuple #[.agg #[.string y0,.string y1,.int .i64 yc],.int .i64 yn,.int .i64 ye])/\Below W.heap.size W w':=λW hW=>by
        have:=y9 ((x0,x1),xc) (wrap64 (1-j)) (acc dw.length) xn W hW;rw[k1]at this;exact this
       obtain⟨K0,k2⟩: ∃K0:Act->World->Prop,K0=λa W=>(∃v0 v1 v2 v6 v7 v9 k8 l4 l5 l6 l7 l8 l9 m4 m5 m7 m8 m9 n2 n3 n5 n6 n7 n9 o0 o1 o2 o3 o4 o5 o6 o7 o8 o9 p0 p4 p5 p6 p7 p8 p9 q8 q9 r8 s2 s3 s4 s5 s6 s7 s8 s9 t6 t7 t8 t9 u0 u1 u2 u3 u4 u5 u6 u7 u9 v3 v4 v5 v8 w1 w2 w3 w4 w5 w6 w7 w8 w9 x2 x3 x4 x5 x6 x7 x8 x9:Value,a={ tmps:= #[v0,v1,v2,.int .i64 yn,.pointer (some ⟨w.heap.size,0,none⟩),.pointer (some ⟨w.heap.size+1,0,none⟩),v6,v7,.pointer (some ⟨w.heap.size+1+1+1,0,none⟩),v9,k8,l4,l5,l6,l7,l8,.int .i64 (wrap64 (1-j)),.int .i64 ye,l9,m4,m5,m7,m8,m9,n2,n3,n5,n6,n7,n9,o0,o1,o2,o3,o4,o5,o6,o7,o8,o9,p0,p4,p5,p6,p7,p8,p9,q8,q9,r8,s2,s3,s4,s5,s6,s7,s8,s9,t6,t7,t8,t9,u0,u1,u2,u3,u4,u5,u6,u7,u9,v3,v4,v5,v8,w1,w2,w3,w4,w5,w6,w7,w8,w9,x2,x3,x4,x5,x6,x7,x8,x9],defers:= []})/\ ∃W9,eE w #[.int .i64 a0,.int .i64 y,.int .i64 f,.int .i64 z,A,C,I,J] #[.string x0,.string x1,.int .i64 xc] #[m0,M,m2,m3] W9/\W=(((W9.setCell ⟨w.heap.size+1,0,none⟩ (.string y0)).setCell ⟨w.heap.size+1,1,none⟩ (.string y1)).setCell ⟨w.heap.size+1,2,none⟩ (.int .i64 yc)):=⟨_,rfl⟩
       refine Code.wp_mono (Q:=Exit.then K0 (λ_ _ _=>False)) ?tail ?reg;case reg=>
        go_region_with (first|(go_at_call 137;refine hstr.mono ?_;rintro e Wc ⟨rfl,hbc⟩;have b0:=hFd.grow (hbc.mono j4);have t:=b0.cS.1;have u:=b0.cS.2.1;have x:=b0.cS.2.2;have S:=b0.cB.2.2.1)|(go_at_call 136;refine(hwr _ b0.aB).mono ?_;rintro e W9 ⟨rfl,hb9⟩;have o:=b0.call hb9;obtain⟨t,u,x⟩:=o.cS;obtain⟨f0,f1,f2⟩:=o.fS))
        all_goals
         show K0 _ _;rw[k2];refine⟨?_,_,o,rfl⟩;simp only[Act.put,List.setIfInBounds_toArray,List.set_cons_zero,List.set_cons_succ];exact⟨_,_,_,_,_,_,_,_,_,_,_,_,_,_,_,_,_,_,_,_,_,_,_,_,_,_,_,_,_,_,_,_,_,_,_,_,_,_,_,_,_,_,_,_,_,_,_,_,_,_,_,_,_,_,_,_,_,_,_,_,_,_,_,_,_,_,_,_,_,_,_,_,_,_,_,_,_,_,_,_,_,_,_,_,_,_,rfl⟩
       case tail=>
        intro e a W h;cases e;case normal=>
         have h:K0 a W:=h;rw[k2]at h;obtain⟨⟨v0,v1,v2,v6,v7,v9,k8,l4,l5,l6,l7,l8,l9,m4,m5,m7,m8,m9,n2,n3,n5,n6,n7,n9,o0,o1,o2,o3,o4,o5,o6,o7,o8,o9,p0,p4,p5,p6,p7,p8,p9,q8,q9,r8,s2,s3,s4,s5,s6,s7,s8,s9,t6,t7,t8,t9,u0,u1,u2,u3,u4,u5,u6,u7,u9,v3,v4,v5,v8,w1,w2,w3,w4,w5,w6,w7,w8,w9,x2,x3,x4,x5,x6,x7,x8,x9,rfl⟩,W9,o,rfl⟩:=h
         (try clear t u x f0 f1 f2 T U S V r4 r5 r6 r7 t0 t1 t2 t3 t4 t5 l0 l1 l2 l3)
         obtain⟨t,u,x⟩:=o.cS;obtain⟨f0,f1,f2⟩:=o.fS;obtain⟨T,U,S,V,r4,r5,r6,r7⟩:=o.cB;obtain⟨⟨t0,t1,t2⟩,t3,t4,t5⟩:=o.cR;obtain⟨l0,l1,l2,l3⟩:=o.Gm;have g9:eE w #[.int .i64 a0,.int .i64 y,.int .i64 f,.int .i64 z,A,C,I,J] #[.string y0,.string y1,.int .i64 yc] #[m0,M,m2,m3] (((W9.setCell ⟨w.heap.size+1,0,none⟩ (.string y0)).setCell ⟨w.heap.size+1,1,none⟩ (.string y1)).setCell ⟨w.heap.size+1,2,none⟩ (.int .i64 yc)):=
          ⟨kR o.aB (by omega) _ _ _,(mL _ _ _ (by omega)).trans o.hb,qG o.hs,(mL _ _ _ (by omega)).trans o.hm,(mL _ _ _ (by omega)).trans o.hr⟩
         by_cases hy:ye=0
         ·subst hy
          go_wp2_with fail
          generalize(((W9.setCell ⟨w.heap.size+1,0,none⟩ (.string y0)).setCell ⟨w.heap.size+1,1,none⟩ (.string y1)).setCell ⟨w.heap.size+1,2,none⟩ (.int .i64 yc))=W10 at g9⊢;generalize i3:ch ((y0,y1),yc) (wrap64 (1-j)) yn=r11;obtain⟨⟨⟨z0,z1⟩,zc⟩,zn,ze⟩:=r11;have y2:=z5 ((y0,y1),yc) (wrap64 (1-j)) yn W10 g9.aB;rw[i3]at y2;refine y2.mono ?_;rintro e W11 ⟨rfl,hb11⟩
          have d6:=g9.call hb11;unfold rf;dsimp only;clear t u x f0 f1 f2 T U S V r4 r5 r6 r7 t0 t1 t2 t3 t4 t5 l0 l1 l2 l3;obtain⟨t,u,x⟩:=d6.cS;obtain⟨f0,f1,f2⟩:=d6.fS;obtain⟨⟨t0,t1,t2⟩,t3,t4,t5⟩:=d6.cR;go_wp2_with fail
          refine ax6 (tW (n:= .int .i64 zn) (e:= .int .i64 ze) rfl rfl rfl (qG ((mL _ _ _ (by omega)).trans d6.hr))) rfl ?_;refine⟨kR (kR d6.aB (by omega) _ _ _) (by omega) _ _ _,?_⟩
          (try simp only[j8,aur,hh,j6,k1,i3,axh,auw])
          (try rw[show decide (n<0)=false from axg (by omega)])
          (try simp only[aur,i3])
          (try rfl)
         ·go_wp2_with fail
          refine ax6 (tW (n:= .int .i64 yn) (e:= .int .i64 ye) rfl rfl rfl (qG ((mL _ _ _ (by omega)).trans o.hr))) rfl ?_;refine⟨kR (kR o.aB (by omega) _ _ _) (by omega) _ _ _,?_⟩;rw[show decide (n<0)=false from axg (by omega)];rfl
        all_goals exact h.elim
      ·obtain⟨⟨t0,t1,t2⟩,t3,t4,t5⟩:=L.cR
       go_wp2_with fail
       refine ax6 (tW (n:= .int .i64 xn) (e:= .int .i64 xe) rfl rfl rfl (qG ((mL _ _ _ (by omega)).trans L.hr))) rfl ?_;refine⟨kR (kR L.aB (by omega) _ _ _) (by omega) _ _ _,?_⟩;simp only[j8,aur,hh,j6];rw[show(xe==0)=false from by simpa using hx];simp only[aur];rw[show(xe==0)=false from by simpa using hx];rfl
end
end Go.Proofs.YtcfinjcapeemeaaGreatDoor.S
