/- Part of the proof that the law TopFull holds for every input. -/
import Derived.Test.YtcfinjcapeemeaaGreatDoorFQ2
set_option linter.all false
set_option maxRecDepth 100000
set_option maxHeartbeats 4000000
namespace Go.Proofs.YtcfinjcapeemeaaGreatDoor.S
open Go Go.RowKit IntKind Go.Proofs.Tryz
section
section
variable {φ:Fr} {ν:Nat->Bool} {m:Map} {st:ASt} {a:Act} {w w':World} {own:List (bS)} {W:List Nat} {P:Program} {C:Ctx} {o:Oper} {e:Eff}
 {K:Act->World->Prop} {Q:Exit->Act->World->Prop}
theorem DJ(hs:aG φ ν m st a w): ∀{ks:List Nat},allFz st ks=true->Xc φ m ks=XA φ m:=by
 intro ks h;have key: ∀(ks:List Nat),allFz st ks=true-> ∀k∈ks,∀b p,p % 2=0->m k≠some (b,p):=by
  intro ks;induction ks with
  |nil=>simp_all
  |cons s r j=>
   intro h k f b p g hm;simp only[allFz]at h;split at h
   ·rename_i t l hb
    rcases List.mem_cons.1 f with rfl|f
    ·obtain⟨u,x,h1,h2⟩:=hs.box _ _ hb
     rw[hm]at h1;cases h1;rcases h2 with⟨_,h3⟩|⟨h3,_⟩<;>omega
    ·exact j h k f b p g hm
   ·cases h
 funext b q
 exact propext ⟨λi=>i.1,λi=>⟨i,λk f p g _=>key ks h k f b p g⟩⟩
theorem eF.amh{bs:List Nat}{X:Nat->Nat->Prop}(h:eF bs w w')(hX: ∀b∈bs,∀p,X b p):dG X w w':=
 ⟨h.size,λb p hb f=>by unfold World.cell?;rw[h.block b hb (λhm=>f (hX b hm p))],h.shape,h.frozen⟩
theorem aG.aiC(h:aG φ ν m st a w){d k b N p J L:Nat}{T T0:TypeId}{v':Value}{l':List Int}{c:Cell}{j:Option Nat}(e4:st.box d=none)(hk:st.box k=some (.cells [c]))(a6:m k=some (b,0))(g9:d≠k)
  (hj: ∀t,j=some t->(∃ow T e l,st.box t=some (.vec ow T e l))/\m t=some (N,p)) (j8:j=none->p % 2=1)
  (V:eF (if p % 2=0 then[b,N]else[b]) w w') (b4:E2 (λf q=>XA φ m f q/\(p % 2=0->f≠N)) w' b J L T T0 v' l') (a7:L % 2=0->(p % 2=0/\J=N)\/w.heap.size<=J):
  Sat φ ν { slot:=st.slot,box:=applyB ((d,some (.vec false T (.int .u8) l'))::(k,some (.cells [.bq (.int .u8) d]))::killO j) st.box} a w':=by
 have i3: ∀q,XA φ m b q:=λq=> .inr ⟨k,0,a6,rfl⟩
 have U:p % 2=0-> ∃t,j=some t/\m t=some (N,p)/\ ∃ow T e l,st.box t=some (.vec ow T e l):=λA=>by
  cases hjj:j with
  |none=>simp_all
  |some t=>simp_all
 have e5:p % 2=0-> ∀q,XA φ m N q:=λA q=>by obtain⟨t,_,h1,_⟩:=U A;exact .inr ⟨t,p,h1,A⟩
 have e6: ∀x∈(if p % 2=0 then[b,N]else[b]),x=b\/(p % 2=0/\x=N):=λx s=>by
  by_cases A:p % 2=0
  ·rw[ava A]at s;simp at s;rcases s with s|s
   ·exact .inl s
   ·exact .inr ⟨A,s⟩
  ·rw[au6 A]at s;simp at s;exact .inl s
 have e7:=V.amh λx s q=>by
  rcases e6 x s with rfl|⟨A,rfl⟩
  ·exact i3 q
  ·exact e5 A q
 have d0: ∀x,x<w.heap.size->x≠b->(p % 2=0->x≠N)->w'.heap[x]? =w.heap[x]? :=λx s h1 h2=>V.block x s λhm=>by
  rcases e6 x hm with h3|⟨A,h3⟩
  ·exact h1 h3
  ·exact h2 A h3
 let a9:=λp=>if p % 2=0 then p+1 else p
 have j9:a9 p % 2=1:=by simp only[a9];split<;>omega
 obtain⟨i4,p0,b0,i6,i7⟩:=b4.cell;have b0:(J,L)=(i4,p0):=by
         have:lG b J L 1=some (J,L):=by simp[lG]
         rw[this]at b0;exact axk b0
 simp only[awk]at b0;obtain⟨rfl,rfl⟩:=b0;have i9:=h.bK d e4;have j1:j≠some d:=λe=>by obtain⟨⟨_,_,_,_,h1⟩,_⟩:=hj d e;rw[e4]at h1;cases h1
 have j2:j≠some k:=λe=>by obtain⟨⟨_,_,_,_,h1⟩,_⟩:=hj k e;rw[hk]at h1;cases h1
 let M:=λu=>if u=d then some (J,L)else if j=some u then some (N,a9 p)else m u
 have Y:M d=some (J,L):=by simp[M]
 have a3: ∀u,j=some u->M u=some (N,a9 p):=λu g=>by
  have:u≠d:=λe=>j1 (e▸g)
  simp[M,this,g]
 have O: ∀u,u≠d->j≠some u->M u=m u:=λu h1 h2=>by simp[M,h1,h2]
 have j3:M k=some (b,0):=by rw[O k g9.symm j2];exact a6
 have e8:dz m M:=λu f q g=>by
  have z:u≠d:=λe=>by rw[e,i9]at g;cases g
  by_cases i:j=some u
  ·obtain⟨_,h1⟩:=hj u i
   rw[g]at h1;cases h1;refine⟨_,a3 u i,?_⟩;simp only[a9];split
   ·rename_i he
    obtain⟨t,S,I,ow,T1,e1,l1,Z⟩:=U he;rw[i]at S;cases S;obtain⟨b2,p2,h3,h4⟩:=h.box u _ Z;rw[g]at h3;cases h3;have:0<p:=by rcases h4 with⟨_,h5⟩|⟨h5,_⟩|⟨_,h5,_⟩<;>omega
    exact .inr ⟨he,this,rfl⟩
   ·exact .inl rfl
  ·exact⟨q,by rw[O u z i];exact g,.inl rfl⟩
 have f4: ∀f q,XA φ M f q->XA φ m f q\/(L % 2=0/\f=J/\w.heap.size<=J):=λf q s=>by
  rcases s with s|⟨u,pu,h1,h2⟩
  ·exact .inl (.inl s)
  by_cases z:u=d
  ·rw[z,Y]at h1
   cases h1;rcases a7 h2 with⟨h3,h4⟩|h3
   ·rw[h4];exact .inl (e5 h3 q)
   ·exact .inr ⟨h2,rfl,h3⟩
  ·by_cases i:j=some u
   ·rw[a3 u i]at h1
    cases h1;omega
   ·rw[O u z i]at h1
    exact .inl (.inr ⟨u,pu,h1,h2⟩)
 have hX:di w (XA φ m) (XA φ M):=λf q hl s=>by
  rcases f4 f q s with h1|⟨_,h2,h3⟩
  ·exact h1
  ·omega
 have d5: ∀u,applyB ((d,some (.vec false T (.int .u8) l'))::(k,some (.cells [.bq (.int .u8) d]))::killO j) st.box u=if u=d then some (.vec false T (.int .u8) l')else if u=k then some (.cells [.bq (.int .u8) d])else if j=some u then some .tok else st.box u:=λu=>by
  have f6: ∀{α:Type} (a b:Nat) (x y:α),cnd (Nat.beq a b) x y=if a=b then x else y:=λa b x y=>by
   by_cases b6:a=b
   ·rw[bV b6,ava b6]
   ·rw[bL b6,au6 b6]
  simp only[applyB,f6];by_cases h1:u=d
  ·rw[ava h1,ava h1]
  ·rw[au6 h1,au6 h1]
   by_cases h2:u=k
   ·rw[ava h2,ava h2]
   ·rw[au6 h2,au6 h2]
    cases hjj:j with
    |none=>simp[killO,applyB]
    |some j0=>
     simp only[killO,applyB,f6];by_cases h3:u=j0
     ·rw[ava h3,ava (by rw[h3])]
     ·rw[au6 h3,au6 (λe=>h3 (axk e).symm)]
 refine⟨M,h.change e7 e8 hX ?_ ?_ ?_ ?_ ?_ ?_ ?_ ?_ ⟨V.os,V.tape,V.output⟩ ?_⟩
 ·intro u bx g
  rw[d5]at g;by_cases h1:u=d
  ·rw[ava h1]at g
   cases g;subst h1;obtain⟨b2,p2,h2,h3⟩:=b4.row;have:lG b J L 1=some (J,L):=by simp[lG]
   rw[this]at h2;cases h2;refine⟨J,L,Y,?_⟩;rcases h3 with h3|⟨h3,h4⟩|⟨h3,h4,h5,h6⟩
   ·exact .inl h3
   ·exact .inr (.inl ⟨h3,h4⟩)
   ·refine .inr (.inr ⟨h3,h4,h5.mono dM (λf q _ s=> ?_) (λx vs s=>s),h6⟩)
    rcases f4 f q s with h7|⟨h7,_⟩
    ·refine⟨h7,λA e=> ?_⟩
     subst e;obtain⟨t,S,I,ow,T1,e1,l1,Z⟩:=U A;rcases s with s|⟨u2,pu,g1,g2⟩
     ·obtain⟨g1,g2,_⟩:=h.x0 _ _ s
      rcases h.own t _ _ _ Z rfl I A with g3|g3
      ·exact g2 g3
      ·omega
     ·by_cases z:u2=u
      ·rw[z,Y]at g1;cases g1;omega
      ·by_cases i:j=some u2
       ·rw[a3 u2 i]at g1;cases g1;omega
       ·rw[O u2 z i]at g1
        have:=h.inj _ _ _ _ _ g1 I g2 A;subst this;exact i S
    ·omega
  ·rw[au6 h1]at g
   by_cases h2:u=k
   ·rw[ava h2]at g
    cases g;subst h2;exact⟨b,_,T0,j3,b4.box,⟨J,L,Y,i6,i7⟩,trivial⟩
   ·rw[au6 h2]at g
    by_cases h3:j=some u
    ·rw[ava h3]at g
     cases g;trivial
    ·rw[au6 h3]at g
     refine(h.box u bx g).eA e7 hX e8 λf q h4 h5=>⟨by rw[O u h1 h3];exact h4,d0 f (h.low u f q h4 h5) (λe=> ?_) (λA e=> ?_)⟩
     ·subst e;exact h2 (h.inj _ _ _ _ _ h4 a6 h5 rfl)
     ·subst e
      obtain⟨t,S,I,_⟩:=U A;have:=h.inj _ _ _ _ _ h4 I h5 A;rw[this]at h3;exact h3 S
 ·intro u u' f q q' h1 h2 h3 h4
  have key: ∀u q,M u=some (f,q)->q % 2=0->(u=d/\f=J/\q=L)\/(u≠d/\j≠some u/\m u=some (f,q)):=λu q h1 h3=>by
   by_cases z:u=d
   ·rw[z,Y]at h1;cases h1;exact .inl ⟨z,rfl,rfl⟩
   ·by_cases i:j=some u
    ·rw[a3 u i]at h1;cases h1;omega
    ·rw[O u z i]at h1;exact .inr ⟨z,i,h1⟩
  have g0: ∀u q,j≠some u->m u=some (J,q)->q % 2=0->L % 2=0->False:=λu q g4 d7 hq j5=>by
   rcases a7 j5 with⟨h5,h6⟩|h5
   ·obtain⟨t,S,I,_⟩:=U h5
    rw[h6]at d7;have:=h.inj _ _ _ _ _ d7 I hq h5;rw[this]at g4;exact g4 S
   ·have:=h.low u _ _ d7 hq;omega
  rcases key u q h1 h3 with⟨e1,e2,e3⟩|⟨e1,e2,e3⟩<;>rcases key u' q' h2 h4 with⟨f1,f2,f3⟩|⟨f1,f2,f3⟩
  ·rw[e1,f1]
  ·subst e2 e3;exact(g0 u' q' f2 f3 h4 h3).elim
  ·subst f2 f3;exact(g0 u q e2 e3 h3 h4).elim
  ·exact h.inj _ _ _ _ _ e3 f3 h3 h4
 ·intro u f q h1 h2
  by_cases z:u=d
  ·rw[z]at h1;have h1:=Y.symm.trans h1;cases h1;exact(b4.live h2).2
  ·by_cases i:j=some u
   ·have h1:=(a3 u i).symm.trans h1;cases h1;omega
   ·have h1:=(O u z i).symm.trans h1;have:=h.low u f q h1 h2;have:=V.size;omega
 ·intro u g
  rw[d5]at g;by_cases h1:u=d
  ·rw[ava h1]at g;cases g
  ·rw[au6 h1]at g
   by_cases h2:u=k
   ·rw[ava h2]at g;cases g
   ·rw[au6 h2]at g
    by_cases h3:j=some u
    ·rw[ava h3]at g;cases g
    ·rw[au6 h3]at g;rw[O u h1 h3];exact h.bK u g
 ·intro u bx f q h1 h2 h3 h4
  by_cases z:u=d
  ·rw[z]at h3
   have h3:=Y.symm.trans h3;cases h3;rcases a7 h4 with⟨h5,h6⟩|h5
   ·obtain⟨t,S,I,ow,T1,e1,l1,Z⟩:=U h5
    rw[h6];exact h.own t _ _ _ Z rfl I h5
   ·have:=h.aN.2.2.2;exact .inr (by omega)
  ·by_cases i:j=some u
   ·have h3:=(a3 u i).symm.trans h3;cases h3;omega
   ·have h3:=(O u z i).symm.trans h3
    rw[d5,au6 z]at h1;by_cases h5:u=k
    ·subst h5;exact h.own _ _ _ _ hk rfl h3 h4
    ·rw[au6 h5,au6 i]at h1;exact h.own u bx f q h1 h2 h3 h4
 ·intro u f q h1 h2 h3
  by_cases z:u=d
  ·rw[z]at h1
   have h1:=Y.symm.trans h1;cases h1;rcases a7 h2 with⟨h5,h6⟩|h5
   ·obtain⟨t,S,I,ow,T1,e1,l1,Z⟩:=U h5
    obtain⟨b2,p2,h7,h8⟩:=h.box t _ Z;rw[I]at h7;cases h7;rw[h6];exact h.vn t _ _ I h5 (by rcases h8 with⟨_,h9⟩|⟨h9,_⟩|⟨_,h9,_⟩<;>omega)
   ·have:=h.aN.2.2.2;have:=h.n0;omega
  ·by_cases i:j=some u
   ·have h1:=(a3 u i).symm.trans h1;cases h1;omega
   ·have h1:=(O u z i).symm.trans h1;exact h.vn u f q h1 h2 h3
 ·intro u f q h1 h2 hg
  by_cases z:u=d
  ·rw[z]at h1
   have h1:=Y.symm.trans h1;cases h1;rcases a7 h2 with⟨h5,h6⟩|h5
   ·obtain⟨t,S,I,_⟩:=U h5
    rw[h6]at hg;exact h.dK t _ _ I h5 hg
   ·have:=h.ko _ hg;omega
  ·by_cases i:j=some u
   ·have h1:=(a3 u i).symm.trans h1;cases h1;omega
   ·have h1:=(O u z i).symm.trans h1;exact h.dK u f q h1 h2 hg
 ·refine⟨V.os,V.tape,V.size,λf hg=>⟨h.ko f hg,d0 f (h.ko f hg) (λe=> ?_) (λA e=> ?_)⟩⟩
  ·subst e;exact h.dK k _ _ a6 rfl hg
  ·subst e;obtain⟨t,_,I,_⟩:=U A;exact h.dK t _ _ I A hg
 ·intro f j7 g7
  refine d0 f (au5 j7 h.aN.2.2.2) (λe=> ?_) (λA e=> ?_)
  ·subst e
   rcases h.own k _ _ _ hk rfl a6 rfl with h1|h1
   ·exact g7 h1
   ·omega
  ·subst e
   obtain⟨t,_,I,ow,T1,e1,l1,Z⟩:=U A;rcases h.own t _ _ _ Z rfl I A with h1|h1
   ·exact g7 h1
   ·omega
theorem abf{f:FuncId}{z:Zc}{d:Nat}{b6:List SV}{args:Array Value}(i:evZ st z d b6=some e)(u:o.dst=some d)(U:aj (SR m (XA φ m) w) b6 args.toList)
  (V:(execOp a.eval o).run P w= .ok (.enter f args) w) (a2:AI P C.G f z) (h:At P C φ ν own W st o e m a w K):o.wp P a w K Q:=by
 cases z with
 |pv cv=>exact anJ i u U V a2 h
 |mk cm=>
  simp only[evZ,evMk]at i;split at i;case h_2=>simp_all
  rename_i xs a3 a4;split at i;case h_2=>simp_all
  rename_i cs a5;split at i;case h_2=>simp_all
  rename_i x M;obtain⟨hz,i⟩:=ba i;have N:=rQ h.sat a3 U (λ_ k t=>t);rw[DJ h.sat hz]at N;obtain⟨cv,a7,a9⟩:=pO a5 N;have J: ∀{q:Prop},e.bQ=some (E6 (match cm.pre with|some q=>some (q x)|none=>none) q)->(∀q,cm.pre=some q->q x)/\q:=λ{q} I=>by
   have:=h.bQ _ I;cases hp:cm.pre with
   |none=>rw[hp]at this;exact⟨(λq I=>by cases I),this⟩
   |some g=>rw[hp]at this;exact⟨(λq I=>by cases I;exact this.1),this.2⟩
  have b7:=λJ=>a2 x w (XA φ m) args cv h.hw (λb p hX=>⟨qe h.sat hX,h.fr.gl▸qw h.sat hX⟩) J a7 (gZ M a9)
  cases hnw:cm.nw with
  |true=>
   rw[hnw]at i;cases i;obtain⟨b0,Y⟩:=J rfl;obtain⟨y,O⟩:=Option.isSome_iff_exists.1 Y;unfold Oper.wp;rw[V,ayi];refine(b7 b0).mono λe' w' ⟨hb,hm⟩=> ?_
   rw[O]at hm;obtain⟨b,us,T,rfl,e3,L,e4⟩:=hm;show K (a.put o.dst _) w';rw[u];refine h.next _ _ ?_;have e5:=(Array.getElem?_eq_some_iff.1 L).1;have h4:=h.sat.Ea (bx:= .cells (enc cm.q ((cm.F x).1.getD cm.q.dflt))) a4 hb (λ_=>e3) (λ_=>e5) (λm' h5 _ h7 h8=>⟨b,us,T,h5,L,by
    rw[O];exact ja (e4.mono dM (λb' q _ M=>(h8 b' q M).imp id And.right) _ _ _)⟩)
   rw[pN,ua];exact⟨_,h4.put (h.dst d u).1 (h.dst d u).2 h.tags ⟨_,rfl,⟨b,by simp,rfl⟩,rfl,trivial⟩⟩
  |false=>
   rw[hnw]at i;cases i;obtain⟨b0,Y⟩:=J rfl;unfold Oper.wp;rw[V,ayi];refine(b7 b0).mono λe' w' ⟨hb,hm⟩=> ?_
   cases O:(cm.F x).1 with
   |some y=>rw[O]at Y;cases Y
   |none=>
    rw[O]at hm;subst hm;show K (a.put o.dst _) w';rw[u];refine h.next _ _ ?_;exact⟨_,(h.sat.ext hb).put (h.dst d u).1 (h.dst d u).2 h.tags ⟨_,rfl,rfl,rfl,trivial⟩⟩
 |pw cw=>
  simp only[evZ,evPw]at i;split at i;case h_2=>cases i
  rename_i k g7;split at i;case h_2=>cases i
  rename_i c xs b2 a3 a4;split at i;case h_2=>cases i
  rename_i l j ow cs e8 a5;split at i;case h_2=>cases i
  rename_i x M;obtain⟨hc,i⟩:=ba i;obtain⟨hz,b3⟩:=aF hc;have b3:d≠k:=λe=>by subst e;have:=fX b3;simp at this
  cases i;obtain⟨al⟩:=args;cases al with
  |nil=>exact U.elim
  |cons v0 rest=>
   obtain⟨⟨b,Z,f1⟩,f2⟩:=U;subst f1;have N:=rQ h.sat a3 f2 (λ_ k t=>t);rw[DJ h.sat hz]at N;obtain⟨cv,a7,a9⟩:=pO a5 N;obtain⟨b1,vs,T0,d6,L,S⟩:=h.sat.box k _ b2;rw[Z]at d6;cases d6;obtain⟨v,rfl⟩: ∃v,vs= #[v]:=by
    obtain⟨vl⟩:=vs;match vl,S with
    | [v],_=>exact⟨v,rfl⟩
   have S:=S.1;have J: ∀q,cw.pre=some q->q x l:=λq I=>h.bQ (q x l) (by simp[I])
   obtain⟨s,p,b4,hj,d9⟩: ∃s p,E2 (XA φ m) w b s p cw.el T0 v l/\(∀A,j=some A->(∃ow T e l,st.box A=some (.vec ow T e l))/\m A=some (s,p))/\(j=none->p % 2=1):=by
    rcases OE e8 with⟨rfl,rfl,rfl⟩|⟨e1,A,rfl,rfl,f4,h9⟩
    ·obtain⟨f5,f6⟩:=S
     rcases f6 with⟨rfl,rfl⟩|⟨f7,s,T,rfl,e0⟩
     ·exact⟨0,1,⟨L,⟨0,1,by simp[lG],by omega,.inl ⟨rfl,rfl⟩⟩,⟨0,1,by simp[lG],.inl ⟨rfl,rfl⟩⟩,λh=>by omega⟩,(λA t=>by cases t),λ_=>rfl⟩
     ·obtain⟨f8,f9⟩:jy w (XA φ m) (Ty.int .u8).n (TR w (XA φ m) (.int .u8)) l s 0/\l.length<=maxLen:=by
       rcases f5 with⟨h4,_⟩|⟨ad,cap,h4,h5,h6,_,h7⟩
       ·exact absurd h4 f7
       ·cases h4;exact⟨h7,h6⟩
      refine⟨s,2*l.length+3,⟨L,⟨s,2*l.length+3,by simp[lG],by omega,.inr ⟨by omega,l.length,T,by rw[gq],e0,by rw[gq];omega,f9⟩⟩,⟨s,2*l.length+3,by simp[lG],.inr (.inr ⟨rfl,rfl,f8,T,e0⟩)⟩,λh=>by omega⟩,(λA t=>by cases t),λ_=>by omega⟩
    ·obtain⟨s,p,a1,g0,b5⟩:=S
     obtain⟨i3,p2,e2,b4⟩:=h.sat.box A _ h9;rw[a1]at e2;cases e2;refine⟨s,p,⟨L,⟨s,p,by simp[lG],g0,?_⟩,⟨s,p,by simp[lG],?_⟩,λhp=>⟨λe=> ?_,h.sat.low _ _ _ a1 hp⟩⟩,(λk1 t=>by cases t;exact⟨⟨_,_,_,_,h9⟩,a1⟩),λt=>by cases t⟩
     ·rcases b5 with b5|⟨h1,cap,T,h2,h3,h4,h5⟩
      ·exact .inl b5
      ·exact .inr ⟨h1,cap,T,h2,by rw[h3,f4],h4,h5⟩
     ·rcases b4 with h1|h1|⟨h1,h2,h3,h4⟩
      ·exact .inl h1
      ·exact .inr (.inl h1)
      ·exact .inr (.inr ⟨rfl,h2,h3,h4⟩)
     ·subst e
      have:=h.sat.inj _ _ _ _ _ Z a1 rfl hp;subst this;rw[b2]at h9;cases h9
   have g1:p % 2=0-> ∀q,XA φ m s q:=λhp q=>by
    cases hjj:j with
    |none=>have:=d9 hjj;omega
    |some A=>exact .inr ⟨A,p,(hj A hjj).2,hp⟩
   unfold Oper.wp;rw[V,ayi];refine(a2 x l w (XA φ m) rest cv b s p T0 v h.hw (λb p hX=>⟨qe h.sat hX,h.fr.gl▸qw h.sat hX⟩) J a7 (gZ M a9) (λq=> .inr ⟨k,0,Z,rfl⟩) g1 b4).mono λe' w' ⟨g2,g3,i5,p',v',g4,g5⟩=> ?_
   subst g2;show K (a.put o.dst _) w';rw[u];refine h.next _ _ ?_;obtain⟨m',g6⟩:=h.sat.aiC a4 b2 Z b3 hj d9 g3 g4 g5;rw[pN];exact⟨m',g6.put (h.dst d u).1 (h.dst d u).2 h.tags ⟨_,rfl,trivial⟩⟩
theorem aiB{c:Call}(O:o.op= .call c){f:FuncId}(S:c.callee= .value (.func f))(h:At P C φ ν own W st o e m a w K):o.wp P a w K Q:=by
 have g:=h.ev;simp only[evOp,O,S]at g;split at g
 ·rename_i xt e2
  split at g;case h_2=>cases g
  rename_i x e3;split at g;case h_2=>cases g
  rename_i cx I;split at g;case h_2=>cases g
  rename_i r hr;have t:=bo h.sat h.tags I;have A:=h.ctx.xt f xt e2;have e4:c.args.map a.eval= #[a.eval x]:=by apply ay9;simp[e3]
  have U: ∀v,(callFunc f #[a.eval x]).run P w= .ok (.value v) w->(execOp a.eval o).run P w= .ok (.value v) w:=by
   intro v hv;simp only[execOp,O,resolve,S,Act.eval,Deferred.ofValue,auy,avh,aus,invoke];simp only[e4,Array.append_empty];exact hv
  unfold xtOp at hr;split at hr
  ·cases hr
   have t:=t;refine h.cq g (U _ ?_) rfl;rw[t];exact A _ w
  ·cases hr
   have t:=t;refine h.cq g (U _ ?_) rfl;rw[t];exact A _ w
  ·cases hr
 split at g
 ·rename_i z hz
  split at g;case h_2=>cases g
  rename_i d a4 y V;obtain⟨A,fn,Y,Z,h9⟩:=h.ctx.zk f z hz;refine abf (args:=c.args.map a.eval) g y (by simpa using pS h.sat h.tags V) ?_ A h;simp only[execOp,O,resolve,S,Act.eval,Deferred.ofValue,auy,avh,aus,invoke];rw[rG Y Z h9];simp[Act.eval]
 split at g
 ·rename_i cp e5
  split at g;case h_2=>cases g
  rename_i d a4 y V;obtain⟨A,fn,Y,Z,h9⟩:=h.ctx.pg f cp e5;refine Vg (args:=c.args.map a.eval) g y (by simpa using pS h.sat h.tags V) ?_ A h;simp only[execOp,O,resolve,S,Act.eval,Deferred.ofValue,auy,avh,aus,invoke];rw[rG Y Z h9];simp[Act.eval]
 split at g;case h_2=>cases g
 rename_i ct d e6 y;split at g;case h_2=>cases g
 rename_i a4 V;split at g;case h_2=>cases g
 rename_i xs e7;split at g;case h_2=>cases g
 rename_i cs e8;split at g;case h_2=>cases g
 rename_i x I;obtain⟨A,fn,Y,Z,h9⟩:=h.ctx.Γ f ct e6;have b5:=rQ h.sat e7 (pS h.sat h.tags V) (λ_ k hk=>hk);obtain⟨cv,a5,f0⟩:=pO e8 b5;have U:(execOp a.eval o).run P w= .ok (.enter f (c.args.map a.eval)) w:=by
  simp only[execOp,O,resolve,S,Act.eval,Deferred.ofValue,auy,avh,aus,invoke];rw[rG Y Z h9];simp[Act.eval]
 have c9:=λa1=>A x w (Xc φ m (eg a4)) (c.args.map a.eval) cv h.hw (λb p hX=>⟨qe h.sat hX.1,h.fr.gl▸qw h.sat hX.1⟩) a1 (by simpa using a5) (gZ I f0)
 split at g
 ·rename_i d0
  split at g;case h_2=>cases g
  rename_i tv b6;obtain⟨J,g⟩:=ba g;cases g;have a1: ∀q,ct.pre=some q->q x:=λq hq=>h.bQ (q x) (by simp[hq])
  unfold Oper.wp;rw[U,ayi];refine(c9 a1).mono λe' w' ⟨v,b9,hb,d5,h1,_,h2⟩=> ?_
  subst b9;show K (a.put o.dst v) w';rw[y];have h3:TR w' (XA φ m) ct.r (ct.F x) d5:=by
   rcases mh J with J|J
   ·have hX:=DJ h.sat J
    rw[<- hX];exact h1
   ·exact TR.od (fX J) h1
  exact h.next _ _ ⟨m,(h.sat.ext hb).put (h.dst d y).1 (h.dst d y).2 h.tags (xY b6 (ja h3) h2)⟩
 ·rename_i T a6
  have d0:=by
   unfold frO at a6;split at a6
   ·exact a6
   ·cases a6
  split at g;case h_2=>cases g
  rename_i a2 l tv f2 b6 f3;obtain⟨J,g⟩:=ba g;obtain⟨f4,c0⟩:=aF J;obtain⟨c0,f5⟩:=aF c0;have d6:=fX f4;have hn:=au7 c0;have f6:=beq_eq f5;obtain⟨o',L,g,f7,f8⟩: ∃o' L,e=⟨(match ct.pre with|some q=>some (q x)|none=>none),some (d,tv),[(d,some (.vec o' L a2 l))]⟩/\
    L=qZ T/\((Nat.ble lU T=false/\o'=true)\/(Nat.ble lU T=true/\o'=false/\allFz st (eg a4)=true)):=by
   cases hB:Nat.ble lU T with
   |true=>
    rw[hB]at g;obtain⟨hz,g⟩:=ba g;simp only[aup]at g;exact⟨false,_,g.symm,rfl,.inr ⟨rfl,rfl,hz⟩⟩
   |false=>
    rw[hB]at g;simp only[cnd,aup]at g;exact⟨true,T,g.symm,by unfold qZ;rw[hB];rfl,.inl ⟨rfl,rfl⟩⟩
  subst g;have a1: ∀q,ct.pre=some q->q x:=λq hq=>h.bQ (q x) (by simp[hq])
  unfold Oper.wp;rw[U,ayi];refine(c9 a1).mono λe' w' ⟨v,b9,hb,d5,h1,f9,h2⟩=> ?_
  subst b9;show K (a.put o.dst v) w';rw[y];have g0:=afU h1 (f9 T d0);obtain⟨u,tl,t,b5⟩:=N0 g0 f6 f2;have fin: ∀(b p:Nat),(p % 2=0->w.heap.size<=b/\b<w'.heap.size)->(∀s,s d=some (b,p)->di w (XA φ m) (XA φ s)->(∀M q,XA φ s M q->XA φ m M q\/p % 2=0)->iv s (XA φ s) w' d (.vec o' L a2 l))->(∀s,s d=some (b,p)->CR s (XA φ s) w' (.bq a2 d) u)->K (a.put (some d) v) w':=by
   intro b p d7 g1 g2;refine h.next _ _ ?_;have h4:=h.sat.Ea f3 hb (λN=>(d7 N).1) (λN=>(d7 N).2) (λs h5 _ h7 h8=>g1 s h5 h7 (λM q I=>(h8 M q I).imp id And.left));rw[pN,ua];exact⟨_,h4.put (h.dst d y).1 (h.dst d y).2 h.tags (xY b6 (b5 _ _ (g2 _ (by simp))) h2)⟩
  rcases t with⟨t,rfl⟩|⟨b,cap,us,t,g4,g5,d9,a7,a9,b0⟩|⟨hB,b,cap,T9,t,a5,g6,a7,a9,b0⟩
  ·exact fin 0 1 (λN=>by omega) (λs h5 _ _=>⟨_,_,h5,.inl ⟨rfl,rfl⟩⟩) (λs h5=>⟨_,_,h5,by omega,.inl ⟨rfl,t⟩⟩)
  ·obtain⟨z9,hh,g8⟩:vq w' b us L _:=by rw[f7];exact g5
   have g9:=(Array.getElem?_eq_some_iff.1 hh).1;refine fin b (2*l.length+2) (λ_=>⟨g4,g9⟩) (λs h5 _ _=>⟨_,_,h5,.inr (.inl ⟨rfl,us,cap,⟨z9,hh,g8⟩,d9,a7,a9,λi hi=> ?_⟩)⟩)
    (λs h5=>⟨_,_,h5,by omega,.inr ⟨by omega,cap,L,by rw[eN];exact t,by unfold World.shape?;rw[hh];simp[d9],by rw[eN];exact a7,a9⟩⟩)
   obtain⟨vs,j1,i3,i4⟩:=b0 i hi;have:(us.toList.drop (i*a2.n)).take a2.n=vs:=by
    apply aw2;intro j;rw[fK];split
    ·rename_i hj
     have:=i3 j hj;rw[m1 hh,avs]at this;rw[avy,this,au9,avc (show j<vs.length by omega)];rfl
    ·rw[ays (by omega)]
   rw[this];exact TR.od d6 i4
  ·rcases f8 with⟨k1,_⟩|⟨_,rfl,i7⟩
   ·rw[k1]at hB;cases hB
   ·have hX:=DJ h.sat i7
    rw[hX]at b0;have e1: ∀n:Nat,¬ (2*n+3) % 2=0:=λn=>by omega
    refine fin b (2*l.length+3) (λN=>absurd N (e1 _)) (λs h5 h6 h7=>⟨_,_,h5,.inr (.inr ⟨rfl,rfl,?_,T9,a5⟩)⟩)
     (λs h5=>⟨_,_,h5,by omega,.inr ⟨by omega,cap,T9,by rw[gq];exact t,by rw[<- g6];exact a5,by rw[gq];exact a7,a9⟩⟩)
    exact b0.mono dM (λM q _ I=>(h7 M q I).resolve_right (e1 _)) (λx vs hv=>TR.od d6 hv)
theorem akq{c:Call}(U:o.op= .call c)(h:At P C φ ν own W st o e m a w K):o.wp P a w K Q:=by
 by_cases g4: ∃f,c.callee= .value (.func f)
 ·grind [aiB]
 have A:=h.ev;simp only[evOp,U]at A;split at A
 ·rename_i f J
  exact absurd ⟨f,J⟩ g4
 ·rename_i t J
  split at A;case h_3=>cases A
  ·rename_i f d b4 hf hd e6
   split at A;case h_2=>cases A
   rename_i cv xs g5 g6;split at A;case h_2=>cases A
   rename_i cs g7;split at A;case h_2=>cases A
   rename_i x L;split at A;case h_2=>cases A
   rename_i tv g8;obtain⟨N,A⟩:=ba A;simp only[aup]at A;subst A;obtain⟨g,rfl,hg⟩:=h.bQ _ rfl;obtain⟨d0,fn,a2,a3,a4⟩:=h.ctx.fv cv g5 g hg;have i3:=rQ h.sat g6 (pS h.sat h.tags e6) (λ_ k I=>I);obtain⟨i4,i5,i6⟩:=pO g7 i3;have e7:a.eval (.tmp t)= .func (.func g) #[] #[]:=bo h.sat h.tags hf;have d5:(execOp a.eval o).run P w= .ok (.enter g (c.args.map a.eval)) w:=by
    simp only[execOp,U,resolve,J,e7,Deferred.ofValue,auy,avh,aus,invoke];rw[rG a2 a3 a4];simp
   have i7:=d0 x w (Xc φ m (eg b4)) (c.args.map a.eval) i4 h.hw (λb p hX=>⟨qe h.sat hX.1,h.fr.gl▸qw h.sat hX.1⟩) (λq M=>by cases M) (by simpa using i5) (gZ L i6);unfold Oper.wp;rw[d5,ayi];refine i7.mono λe' w' ⟨v,i9,hb,j0,h1,_,h2⟩=> ?_
   subst i9;show K (a.put o.dst v) w';rw[hd];have h3:TR w' (XA φ m) cv.r (cv.F g x) j0:=by
    rcases mh N with N|N
    ·have:eg b4= []:=by cases hv:eg b4 with|nil=>rfl|cons k r=>rw[hv]at N;cases N
     have hX:Xc φ m (eg b4)=XA φ m:=by funext b q;rw[this];simp[Xc]
     rw[<- hX];exact h1
    ·exact TR.od (fX N) h1
   exact h.next _ _ ⟨m,(h.sat.ext hb).put (h.dst d hd).1 (h.dst d hd).2 h.tags (xY g8 (ja h3) h2)⟩
  ·rename_i f ks d b4 hf hd e6
   obtain⟨vs,e7,j1⟩:=bo h.sat h.tags hf;have j3: ∀(ks:List Nat) (vs:List Value),aj (λk u=> ∃b,m k=some (b,0)/\u= .pointer (some ⟨b,0,none⟩)) ks vs->aj (SR m (XA φ m) w) (AF ks) vs:=by
    intro ks;induction ks with
    |nil=>intro vs hh;cases vs with|nil=>trivial|cons=>exact hh.elim
    |cons k ks ih=>intro vs hh;cases vs with|nil=>exact hh.elim|cons u us=>exact⟨hh.1,ih us hh.2⟩
   have V:aj (SR m (XA φ m) w) (app b4 (AF ks)) (c.args.map a.eval++vs.toArray).toList:=by
    rw[bI];simpa using aj.append (pS h.sat h.tags e6) (j3 ks vs j1)
   have f7: ∀fn,P.funcs[f]? =some fn->(fn.name== "runtime.NumGoroutine")=false->fn.body.isNone=false->(execOp a.eval o).run P w= .ok (.enter f (c.args.map a.eval++vs.toArray)) w:=λfn a2 a3 a4=>by
    simp only[execOp,U,resolve,J,e7,Deferred.ofValue,auy,avh,aus,invoke];rw[rG a2 a3 a4];simp
   split at A
   ·rename_i z hz
    obtain⟨d0,fn,a2,a3,a4⟩:=h.ctx.zk f z hz;exact abf A hd V (f7 fn a2 a3 a4) d0 h
   split at A;case h_2=>cases A
   rename_i cp j5;obtain⟨d0,fn,a2,a3,a4⟩:=h.ctx.pg f cp j5;exact Vg A hd V (f7 fn a2 a3 a4) d0 h
 ·rename_i J
  split at A;case h_2=>cases A
  rename_i s x ts tx k O b6 b7;split at A;case h_2=>cases A
  rename_i d dx cs cx hD a5 e8 hs L;split at A;case h_3=>cases A
  case h_2=>
   rename_i el e9 I a6 c0;split at A;case h_2=>cases A
   rename_i de l1 j ow l2 a1 h1 h2;obtain⟨N,A⟩:=ba A;obtain⟨h9,S⟩:=aF N;simp only[aup]at A;unfold strNew at h2;split at h2;case h_3=>cases h2
   case h_2=>
    rename_i kv n _;split at h2;case h_2=>cases h2
    rename_i kx d9 f1;simp only[aup]at h2;subst h2;obtain⟨d1,f2,Y⟩:=mW (t:=tx) (ty:= .int kx) h.ctx (by simp[sr,a5,d9,f1,cnd]);simp only[plainOk]at Y;subst Y;obtain⟨j9,f3⟩:0<=n/\_:=h.bQ _ (by rw[<- A];rfl);obtain⟨ht,i,z,k3,m4,k4,k5,k6,m5⟩:=BF h.ctx hD I a6 a1 (beq_eq S) (au7 h9);have g0:=f3.1;have k7:=f3.2;rw[awj]at g0 k7;refine GI U J O b6 b7 hD e8 hs I a6 a1 h1 ?_ (λ_=>rfl) (au7 h9) (beq_eq S) f3 A.symm h;rw[show a.eval x= .int kv n from bo h.sat h.tags L];refine afZ f2 k3 k4 k5 (au7 h9) j9 ?_ (by omega);rw[k6];refine auq (au3 _ (Nat.le_add_left _ l1.length)) (auq g0 (by decide))
   rename_i sx _;split at h2;case h_2=>cases h2
   rename_i d9 f1;obtain⟨rfl,hl⟩:=jn h2;simp only at hl;subst hl;obtain⟨d1,f2,Y⟩:=mW (t:=tx) (ty:= .str) h.ctx (by simp[sr,a5,d9,f1,cnd]);simp only[plainOk]at Y;subst Y;refine GI U J O b6 b7 hD e8 hs I a6 a1 h1 ?_ (λ_=>rfl) (au7 h9) (beq_eq S) (h.bQ _ (by rw[<- A];rfl)) A.symm h;rw[show a.eval x= .string sx from bo h.sat h.tags L];exact ahr f2 sx
  rename_i el e9 ex I a6 c0;split at A;case h_2=>cases A
  rename_i de l1 j ow l2 a1 h1 h2;obtain⟨N,A⟩:=ba A;obtain⟨h9,S⟩:=aF N;obtain⟨S,a7⟩:=aF S;obtain⟨a7,k8⟩:=aF a7;simp only[aup]at A;exact afw U J O b6 b7 hD a5 e8 hs L I a6 c0 a1 h1 h2 (beq_eq h9) (au7 a7) (beq_eq k8) A.symm h
 ·rename_i J
  split at A;case h_2=>cases A
  rename_i s x ts tx k O b6 b7;split at A;case h_3=>cases A
  case h_2=>
   rename_i d dx j off e9 len cx hD a5 hs L;split at A;case h_2=>cases A
   rename_i el ex cs I c0 a9;split at A;case h_2=>cases A
   rename_i de l2 l a1 h2 hl;obtain⟨N,A⟩:=ba A;obtain⟨h9,S⟩:=aF N;obtain⟨S,a7⟩:=aF S;simp only[aup]at A;exact aid U J O b6 b7 hD a5 hs L I c0 a9 a1 h2 hl (au7 h9) (beq_eq S) (by have:=au7 a7;rwa [gu]at this) A.symm h
  rename_i d dx e0 j cx hD a5 hs L;split at A;case h_2=>cases A
  rename_i el ex T e9 l I c0 a9;split at A;case h_2=>cases A
  rename_i de l2 a1 h2;obtain⟨N,A⟩:=ba A;obtain⟨h9,S⟩:=aF N;obtain⟨S,a7⟩:=aF S;simp only[aup]at A;exact akc U J O b6 b7 hD a5 hs L I c0 a9 a1 h2 (beq_eq S) (beq_eq a7) (au7 h9) A.symm h
 ·rename_i J
  split at A;case h_2=>cases A
  rename_i x ty rest L ht;split at A;case h_2=>cases A
  rename_i d hD;have d5: ∀u,(Builtin.len_ c.argTypes o.type #[a.eval x]).run P w= .ok u w->(execOp a.eval o).run P w= .ok (.value u) w:=by
   intro u Z;have V:c.args.map a.eval= #[a.eval x]:=by apply ay9;simp[L]
   simp only[execOp,U,resolve,J,auy,avh,aus,invoke,builtin,V,Z]
  have e1:c.argTypes[0]? =some ty:=by rw[<- avy,ht];rfl
  obtain⟨e0,e2,c9,Y⟩:=(h.ctx.D ty d hD).desc;split at A
  ·rename_i el m7 l' ll I e3
   unfold kindOk at c9;rw[I]at c9;obtain⟨_,rfl,_⟩:=c9;obtain⟨hl,_⟩:=bo h.sat h.tags e3;refine h.cq A (d5 _ ?_) rfl;rcases hl with⟨h0,Z⟩|⟨ad,cap,Z,_⟩
   ·rw[Z,BA e1 e2,h0];rfl
   ·rw[Z,BA e1 e2]
  ·rename_i el e0 k0 I e3
   unfold kindOk at c9;rw[I]at c9;obtain⟨_,rfl,_⟩:=c9;have hv:=bo h.sat h.tags e3;have g3: ∀n:Nat,(∀b p,m k0=some (b,p)->fD p=n)->outE o none (.one (.int .i64 (n:Int)))=some e->o.wp P a w K Q:=by
    intro n hn A;refine h.cq A (d5 _ ?_) rfl;obtain⟨b,p,hm,hp,l6⟩:=hv;have:=hn b p hm;rcases l6 with⟨h1,Z⟩|⟨_,cap,T,Z,_⟩
    ·rw[h1]at this;simp[fD]at this;subst this
     rw[Z,BA e1 e2]
    ·rw[Z,BA e1 e2,this]
   split at A
   ·rename_i ow T ee l a9;exact g3 _ (Jd h.sat a9) A
   ·rename_i ee l a9;exact g3 _ (R7 h.sat a9) A
   ·cases A
  ·rename_i s I d9 a6 e3
   have Z:=bo h.sat h.tags e3;have Y:=Y d9;rw[a6]at Y;simp only[plainOk]at Y;subst Y;refine h.cq A (d5 _ ?_) rfl;rw[Z,ad5 e1 e2]
  ·cases A
 ·rename_i J
  split at A
  ·rename_i x y O
   split at A;case h_2=>cases A
   rename_i cx cy L hy;split at A;case h_2=>cases A
   rename_i r hr;unfold minC at hr;split at hr;case h_2=>cases hr
   rename_i k i k' j;obtain⟨I,hr⟩:=ba hr;simp only[aup]at hr;subst hr;have hX:a.eval x= .int k i:=bo h.sat h.tags L;have hY:a.eval y= .int k' j:=bo h.sat h.tags hy;have V:c.args.map a.eval= #[.int k i,.int k' j]:=by apply ay9;simp[O,hX,hY]
   refine h.cq A (v:= .int k (min i j)) ?_ rfl;simp only[execOp,U,resolve,J,auy,avh,aus,invoke,builtin,V,aeI]
  ·rename_i x y z O
   split at A;case h_2=>cases A
   rename_i cx cy cz L hy hz;split at A;case h_2=>cases A
   rename_i q M;split at A;case h_2=>cases A
   rename_i r hr;unfold minC at M;split at M;case h_2=>cases M
   rename_i k i k' j;obtain⟨I,M⟩:=ba M;simp only[aup]at M;subst M;unfold minC at hr;split at hr;case h_2=>cases hr
   rename_i k1 i1 k2 j2 f5;obtain⟨m0,hr⟩:=ba hr;simp only[aup]at hr;subst hr;cases f5;have hX:a.eval x= .int k i:=bo h.sat h.tags L;have hY:a.eval y= .int k' j:=bo h.sat h.tags hy;have hZ:a.eval z= .int k2 j2:=bo h.sat h.tags hz;have V:c.args.map a.eval= #[.int k i,.int k' j,.int k2 j2]:=by apply ay9;simp[O,hX,hY,hZ]
   refine h.cq A (v:= .int k (min (min i j) j2)) ?_ rfl;simp only[execOp,U,resolve,J,auy,avh,aus,invoke,builtin,V,aei]
  ·cases A
 ·rename_i J
  split at A
  ·rename_i x y O
   split at A;case h_2=>cases A
   rename_i cx cy L hy;split at A;case h_2=>cases A
   rename_i r hr;unfold minC at hr;split at hr;case h_2=>cases hr
   rename_i k i k' j;obtain⟨I,hr⟩:=ba hr;simp only[aup]at hr;subst hr;have hX:a.eval x= .int k i:=bo h.sat h.tags L;have hY:a.eval y= .int k' j:=bo h.sat h.tags hy;have V:c.args.map a.eval= #[.int k i,.int k' j]:=by apply ay9;simp[O,hX,hY]
   refine h.cq A (v:= .int k (max i j)) ?_ rfl;simp only[execOp,U,resolve,J,auy,avh,aus,invoke,builtin,V,aeP]
  ·rename_i x y z O
   split at A;case h_2=>cases A
   rename_i cx cy cz L hy hz;split at A;case h_2=>cases A
   rename_i q M;split at A;case h_2=>cases A
   rename_i r hr;unfold minC at M;split at M;case h_2=>cases M
   rename_i k i k' j;obtain⟨I,M⟩:=ba M;simp only[aup]at M;subst M;unfold minC at hr;split at hr;case h_2=>cases hr
   rename_i k1 i1 k2 j2 f5;obtain⟨m0,hr⟩:=ba hr;simp only[aup]at hr;subst hr;cases f5;have hX:a.eval x= .int k i:=bo h.sat h.tags L;have hY:a.eval y= .int k' j:=bo h.sat h.tags hy;have hZ:a.eval z= .int k2 j2:=bo h.sat h.tags hz;have V:c.args.map a.eval= #[.int k i,.int k' j,.int k2 j2]:=by apply ay9;simp[O,hX,hY,hZ]
   refine h.cq A (v:= .int k (max (max i j) j2)) ?_ rfl;simp only[execOp,U,resolve,J,auy,avh,aus,invoke,builtin,V,aej]
  ·cases A
 ·cases A
theorem BB{x:Operand}{k:IntKind}{n:Int}{y:Nat}{f:BoundsCode}(g:a.eval x= .int k n)(h0:0<=n)(h1:n<=y):(Instr.sliceBound (a.eval x) y f).run P w= .ok n.toNat w:=by
 simp_all [Instr.sliceBound,asIntOf]
theorem ajK(hs:aG φ ν m st a w)(ht:et ν own){x:Option Operand}{n:Int}(h:optI st own x=some n):(x=none/\n=0)\/ ∃y k,x=some y/\a.eval y= .int k n:=by
 cases x with
 |none=>simp_all [optI]
 |some y=>
  simp only[optI]at h;split at h
  ·rename_i k g f;cases h;exact .inr ⟨y,k,rfl,bo hs ht f⟩
  simp_all
theorem ak0(hs:aG φ ν m st a w)(ht:et ν own){x:Option Operand}{n0 n:Int}(h:lS st own x n0=some n):(x=none/\n=n0)\/ ∃y k,x=some y/\a.eval y= .int k n:=by
 cases x with
 |none=>simp_all [lS]
 |some y=>
  simp only[lS]at h;split at h
  ·rename_i k g f;cases h;exact .inr ⟨y,k,rfl,bo hs ht f⟩
  simp_all
theorem NL(hs:aG φ ν m st a w)(ht:et ν own){h:Bool}{lo hi:Option Operand}{l0 h0:Int}{len cap:Nat}(i:optI st own lo=some l0)(j:lS st own hi len=some h0)(h1:0<=l0)(h2:l0<=h0)(h3:h0<=cap):
  (Instr.sliceBounds h len cap (lo.map a.eval) (hi.map a.eval) none).run P w= .ok (l0.toNat,h0.toNat,cap) w:=by
 rcases ajK hs ht i with⟨rfl,rfl⟩|⟨y,k,rfl,f⟩<;>rcases ak0 hs ht j with⟨rfl,h4⟩|⟨l,s,rfl,g⟩
 ·simp[Instr.sliceBounds,h4]
 ·simp[Instr.sliceBounds,BB g (by omega) h3]
 ·subst h4
  simp[Instr.sliceBounds,BB f h1 h2]
 ·simp[Instr.sliceBounds,BB g (by omega) h3,BB f h1 (show l0<=h0.toNat by omega)]
theorem aeT{α:Type}{l:List α}{lo hi:Int}(h1:0<=lo)(h2:lo<=hi)(h3:hi<=l.length):(bM l lo hi).length=hi.toNat-lo.toNat:=by
 simp_all [bM]
theorem LR.part{α:Type}{X:Nat->Nat->Prop}{n:Nat}{R:α->List Value->Prop}{l:List α}{ad:Addr}{cap:Nat}{lo hi:Int}(h1:0<=lo)(h2:lo<=hi)(h3:hi<=l.length)(z:l.length<=cap)(A:cap<=maxLen)
  (k:l≠ []->ad.spot=none) (hr:jy w X n R l ad.block ad.off):LR w X n R (bM l lo hi) (.slice (some (if cap=lo.toNat then ad else ad.add (lo.toNat*n))) (hi.toNat-lo.toNat) (cap-lo.toNat)):=by
 have hl:=aeT h1 h2 h3;refine .inr ⟨_,_,by rw[hl],by omega,by omega,λs=> ?_,?_⟩
 ·have t:=List.length_pos_iff.2 s
  have g:l≠ []:=by intro h0;subst h0;simp at h3;omega
  rw[au6 (by omega)];obtain⟨b,u,sp⟩:=ad;have:=k g;subst this;rw[jT]
 ·by_cases t:0<(bM l lo hi).length
  ·have g:l≠ []:=by intro h0;subst h0;simp at h3;omega
   rw[au6 (by omega)];obtain⟨b,u,sp⟩:=ad;have:=k g;subst this;rw[jT];refine⟨λi x=> ?_,λp h f=> ?_⟩
   ·obtain⟨vs,h4,h5,h6⟩:=hr.1 (lo.toNat+i) (by omega)
    refine⟨vs,h4,λj y=> ?_,?_⟩
    ·have:=h5 j y
     simp only at this⊢;rw[<- this];congr 2
     rw[azs];omega
    ·have:(bM l lo hi)[i]=l[lo.toNat+i]'(by omega):=by simp[bM]
     rw[this];exact h6
   ·refine hr.2 p ?_ ?_
    ·simp only at h⊢;omega
    ·simp only at h f⊢
     rw[hl]at f;have:(lo.toNat+(hi.toNat-lo.toNat))*n<=l.length*n:=au3 _ (by omega);rw[azs]at this;omega
  ·have h0:(bM l lo hi).length=0:=by omega
   exact⟨λi x=>by omega,λp h f=>by rw[h0]at f;omega⟩
theorem ok_slice{t:TypeId}{x:Operand}{lo hi mx:Option Operand}(e6:o.op= .slice t x lo hi mx)(h:At P C φ ν own W st o e m a w K):o.wp P a w K Q:=by
 have f:=h.ev;simp only[evOp,e6]at f;split at f;case h_2=>cases f
 rename_i d c l0 hD hx b7;obtain⟨e0,A,M,V⟩:=(h.ctx.D t d hD).desc;unfold kindOk at M;have b9: ∀{v:Value},(Instr.sliceAt t (a.eval x) (lo.map a.eval) (hi.map a.eval) none).run P w= .ok v w->(execOp a.eval o).run P w= .ok (.value v) w:=by
  simp_all [execOp]
 have hv:=bo h.sat h.tags hx;have O: ∀{el:TypeId} {Y:Ty} {ag:Bool} {ad:Option Addr} {n cap:Nat} {h0:Int},P.underlying t=some (.slice el)->lC P el Y ag->a.eval x= .slice ad n cap->lS st own hi (n:Int)=some h0->0<=l0->l0<=h0->h0<=(cap:Int)->
   (execOp a.eval o).run P w= .ok (.value (.slice (if cap=l0.toNat then ad else ad.map (·.add (l0.toNat*Y.n))) (h0.toNat-l0.toNat) (cap-l0.toNat))) w:=by
  intro el Y ag ad n cap h0 g I hx u h1 h2 h3;refine b9 ?_;unfold Instr.sliceAt;simp only[auy,avg g,aus];unfold Instr.slice;simp only[auy,avg g,aus,hx];rw[NL h.sat h.tags b7 u h1 h2 h3,aus];simp only[auy,run_sizeOf I,aus,avh]
 split at f
 ·rename_i el e' J tl l S Z
  rw[S]at M;obtain⟨_,rfl,Y,ag,a1,I⟩:=M;rw[Z]at a1;cases a1;split at f;case h_2=>cases f
  rename_i h0 y;obtain⟨j,f⟩:=ba f;have j:=beq_eq j;obtain⟨h1,h2,h3⟩:=h.nH f;rcases hv.1 with⟨rfl,g⟩|⟨ad,cap,g,c9,U,e8,hr⟩
  ·have u:h0=0/\l0=0:=by simp at h3;omega
   obtain⟨rfl,rfl⟩:=u;refine h.cq f ?_ ⟨.inl ⟨by simp[bM],rfl⟩,trivial⟩;have:=O A I g y h1 h2 (by simp);rw[this];rfl
  ·have:=O A I g y h1 h2 (by omega)
   refine h.cq f this ⟨?_,trivial⟩;have L:=LR.part h1 h2 h3 c9 U e8 hr;rw[j]at L;by_cases a2:cap=l0.toNat
   ·rw[ava a2]at L⊢;rw[j];exact L
   ·rw[au6 a2]at L⊢;rw[j];exact L
 ·rename_i el e' J k S Z
  rw[S]at M;obtain⟨_,rfl,Y,ag,a1,I⟩:=M;rw[Z]at a1;cases a1;obtain⟨b,p,hm,L,b0⟩:=hv;split at f
  ·rename_i e2 l a3
   split at f;case h_2=>cases f
   rename_i h0 y;obtain⟨j,f⟩:=ba f;obtain⟨j,N⟩:=aF j;have j:=beq_eq j;have N:=beq_eq N;obtain⟨h1,h2,h3⟩:=h.nH f;obtain⟨b',p',h4,h5⟩:=h.sat.box k _ a3;rw[hm]at h4;cases h4;rcases h5 with⟨rfl,rfl⟩|⟨rfl,hr⟩
   ·have g:a.eval x= .slice none 0 0:=by
     rcases b0 with⟨_,g⟩|⟨d0,_⟩
     ·exact g
     ·exact absurd rfl d0
    have u:h0=0/\l0=0:=by simp at h3;omega
    obtain⟨rfl,rfl⟩:=u;refine h.cq f ?_ ⟨.inl ⟨by simp[bM],rfl⟩,trivial⟩;have:=O A I g y h1 h2 (by simp);rw[this];rfl
   ·obtain⟨cap,T,g,a4,c9,U⟩: ∃cap T,a.eval x= .slice (some ⟨b,0,none⟩) l.length cap/\w.shape? b=some (T,cap*J.n)/\l.length<=cap/\cap<=maxLen:=by
     rcases b0 with⟨h6,_⟩|⟨_,cap,T,h6,h7,h8,h9⟩
     ·omega
     ·rw[gq]at h6 h8;exact⟨cap,T,h6,h7,h8,h9⟩
    have:=O A I g y h1 h2 (by omega);refine h.cq f this ⟨?_,trivial⟩;have hq:=LR.part (ad:=⟨b,0,none⟩) h1 h2 h3 c9 U (λ_=>rfl) hr;by_cases a2:cap=l0.toNat
    ·rw[ava a2]at hq⊢;exact hq
    ·rw[au6 a2]at hq⊢;rw[show e'.n=e2.n by omega];exact hq
  ·rename_i ow T e2 l a3
   split at f;case h_2=>cases f
   rename_i g4 h0 k2 d9 y;split at f;case h_2=>cases f
   rename_i e1;obtain⟨hc,f2⟩:=ba f;obtain⟨f3,hc⟩:=aF hc;obtain⟨hz,hc⟩:=aF hc;have hz:1<=J.n:=au7 hz;obtain⟨j,N⟩:=aF hc;have j:=beq_eq j;have N:=beq_eq N;subst f3;have f:=axk f2;obtain⟨h1,h3⟩:=h.bQ _ (by rw[<- f]);have f4:l0=0:=by simpa[optI]using b7.symm
   subst f4;obtain⟨b',p',h4,h5⟩:=h.sat.box k _ a3;rw[hm]at h4;cases h4;rcases h5 with⟨rfl,rfl⟩|⟨rfl,vs,cap,⟨z9,u,f6⟩,b4,g5,U,f7⟩|⟨h5,_⟩
   ·have g:a.eval x= .slice none 0 0:=by
     rcases b0 with⟨_,g⟩|⟨d0,_⟩
     ·exact g
     ·exact absurd rfl d0
    have u:h0=0:=by simp at h3;omega
    subst u;have:=O A I g y h1 (au4 _) (by simp);refine h.uF (bx:= .vec true T e2 (List.take (Int.toNat 0) [])) (tv:= .v (.one (.bq J k2))) d9 e1 (by rw[<- f]) (by rw[<- f]) a3 hm L (by rw[this];rfl) dM (λ_ _=>rfl) rfl ⟨rfl,rfl,rfl⟩ rfl (by omega)
     (λm' h3 h4 h5=>⟨_,_,h3,.inl ⟨by simp,rfl⟩⟩) (λm' h3=>⟨_,_,h3,by omega,.inl ⟨rfl,rfl⟩⟩)
   ·obtain⟨z,T2,g,a4⟩: ∃z T2,a.eval x= .slice (some ⟨b,0,none⟩) l.length z/\w.shape? b=some (T2,z*J.n):=by
     rcases b0 with⟨h6,_⟩|⟨_,z,T2,h6,h7,_⟩
     ·omega
     ·rw[eN]at h6;exact⟨z,T2,h6,h7⟩
    have b5:(l.take h0.toNat).length=h0.toNat:=by rw[avp];omega
    ·have f8:z=cap:=by
      have:w.shape? b=some (T,vs.size):=by unfold World.shape?;rw[u]
      rw[this]at a4;simp only[aup,awk]at a4;have:cap*J.n=z*J.n:=by rw[<- N,<- b4,a4.2,N]
      exact(ayr (by omega) this).symm
     subst f8;have:=O A I g y (au4 _) h1 (by omega);have f9:(if z=(0:Int).toNat then some (⟨b,0,none⟩:Addr)else(some (⟨b,0,none⟩:Addr)).map (·.add ((0:Int).toNat*e'.n)))=some ⟨b,0,none⟩:=by
      split
      ·rfl
      ·simp[jT]
     rw[f9]at this;refine h.uF (bx:= .vec true T e2 (l.take h0.toNat)) (tv:= .v (.one (.bq J k2))) (pd:=2*h0.toNat+2) d9 e1 (by rw[<- f]) (by rw[<- f]) a3 hm L this dM (λ_ _=>rfl) rfl ⟨rfl,rfl,rfl⟩ (by omega) (by omega)
      (λm' h3 h4 h5=>⟨_,_,h3,.inr (.inl ⟨by rw[b5],vs,z,⟨z9,u,f6⟩,b4,by rw[b5];omega,U,λi hi=> ?_⟩)⟩)
      (λm' h3=>⟨_,_,h3,by omega,.inr ⟨by omega,z,T2,by rw[eN];simp,a4,by rw[eN];omega,U⟩⟩)
     have:(l.take h0.toNat)[i]=l[i]'(by rw[b5]at hi;omega):=by rw[aAa]
     rw[this];exact(f7 i (by rw[b5]at hi;omega)).mono dM h5 _ _ _
   ·cases h5
  ·cases f
 ·rename_i len el k off S
  split at f;case h_2=>cases f
  rename_i de g0;rw[S]at M;obtain⟨_,rfl⟩:=M;obtain⟨b,hm,g⟩:=hv;refine h.cq f (b9 ?_) ⟨b,hm,rfl⟩;have b4:(sizeOf el).run P w= .ok de.ty.n w:=run_sizeOf (h.ctx.D el de g0).info;unfold Instr.sliceAt;simp only[auy,avg A,aus,g,Instr.sureAddr,avh,Option.map_none,Instr.sliceBounds,b4];simp[Addr.add]
 ·rename_i s S Z
  split at f;case h_2=>cases f
  rename_i h0 g1 y;obtain⟨h1,h2,h3⟩:=h.nH f;have V:=V g1;rw[Z]at V;simp only[plainOk]at V;subst V;have g:a.eval x= .string s:=hv;refine h.cq f (b9 ?_) rfl;unfold Instr.sliceAt;simp only[auy,avg A,aus];unfold Instr.slice;simp only[auy,avg A,aus,g,Option.isSome_none,awd,azj];simp only[avh,aus];rw[NL h.sat h.tags b7 y h1 h2 h3,aus]
 ·cases f
theorem aeZ{s d:TypeId}{x:Operand}(N:o.op= .convert s d x)(h:At P C φ ν own W st o e m a w K):o.wp P a w K Q:=by
 have g:=h.ev;simp only[evOp,N]at g;split at g
 ·rename_i k0 k V n hs I z
  have y:a.eval x= .int V n:=bo h.sat h.tags z;obtain⟨d1,h1,J⟩:=mW h.ctx hs;obtain⟨d2,h2,L⟩:=mW h.ctx I;subst J L;refine h.cq g ?_ rfl;simp only[execOp,N,y,convert,auy,avg h1,avg h2,aus,Conv.intToInt,avh]
 ·rename_i k0 k V n hs I z
  have y:a.eval x= .int V n:=bo h.sat h.tags z;obtain⟨d1,h1,J⟩:=mW h.ctx hs;obtain⟨d2,h2,L⟩:=mW h.ctx I;subst J L;refine h.cq g ?_ rfl;simp only[execOp,N,y,convert,auy,avg h1,avg h2,aus,Conv.intToFloat,avh]
 ·rename_i e0 cx hs I z
  split at g;case h_2=>cases g
  rename_i l t hl;obtain⟨d2,h2,L⟩:=mW h.ctx I;simp only[plainOk]at L;subst L;unfold bytesTy at t;split at t;case h_2=>cases t
  rename_i d0 T;split at t;case h_2=>cases t
  rename_i el M;split at t;case h_2=>cases t
  rename_i Y;obtain⟨e1,Z,A,_⟩:=(h.ctx.D _ _ T).desc;unfold kindOk at A;rw[M]at A;obtain⟨_,rfl,_⟩:=A;obtain⟨e2,h8,h9⟩:=mW h.ctx Y;subst h9;refine h.cq g ?_ rfl;have b6:=OO h.sat hl (bo h.sat h.tags z);have a4: ∀(ad:Option Addr) (n cap:Nat),a.eval x= .slice ad n cap->(Conv.bytesToString (.slice ad n cap)).run P w= .ok (.string (bw l)) w->(execOp a.eval o).run P w= .ok (.value (.string (bw l))) w:=by
   intro ad n cap O hb;simp only[execOp,N,O,auy,run_convert_bytes_string w _ _ _ ad n cap Z h8 h2,hb,aus,avh]
  rcases b6 with⟨rfl,O⟩|⟨ad,cap,O,U,hr⟩
  ·exact a4 _ _ _ O (by unfold Conv.bytesToString;rfl)
  ·refine a4 _ _ _ O (run_bytesToString w ad l.length cap l ?_)
   have b7: ∀j u,((l.map (Value.int .u8))[j]? =some u)->w.cell? (ad.add j)=some u:=by
    intro j u a5;simp only[az9,av6]at a5;obtain⟨n,hn,rfl⟩:=a5;have S:=(List.getElem?_eq_some_iff.1 hn).1;have b9:l≠ []:=by intro h0;subst h0;simp at S
    obtain⟨vs,e5,c0,a2⟩:=hr j S;have a2:=a2;have y:=c0 0 (by simp[Ty.n]);have U:=U b9;obtain⟨b,o',sp⟩:=ad;simp only at U;subst U;rw[jT];simp only[Ty.n,aAr,awr]at y;rw[y,a2];have:=by
     have:=avc S;rw[this]at hn;exact axk hn
    rw[this];rfl
   have:=run_loadCells_list (P:=P) w ad (l.map (Value.int .u8)) b7;simpa using this
 ·rename_i e7 f hs I z
  split at g;case h_2=>cases g
  rename_i dd k T c9;split at g;case h_2=>cases g
  rename_i el l M d5 t hl;simp only[aup]at g;have e8:=h.bQ _ (by rw[<- g]);obtain⟨rfl,hl⟩:=jn hl;simp only at hl;subst hl;have y:a.eval x= .string f:=bo h.sat h.tags z;obtain⟨d1,h1,J⟩:=mW h.ctx hs;simp only[plainOk]at J;subst J;unfold bytesTy at t;split at t;case h_2=>cases t
  rename_i d0 a6;rw[T]at a6;cases a6;split at t;case h_2=>cases t
  rename_i e9 a7;rw[M]at a7;cases a7;split at t;case h_2=>cases t
  rename_i Y;obtain⟨e1,Z,A,_⟩:=(h.ctx.D _ _ T).desc;unfold kindOk at A;rw[M]at A;obtain⟨_,rfl,_⟩:=A;obtain⟨e2,h8,h9⟩:=mW h.ctx Y;subst h9;have a9:=aAz w f.size 0 el (by unfold maxLen;omega);have b0:=grownCap_ge w f.size 0 el;have a3:(Lib.bytesCells w el f).size=grownCap w f.size 0 el:=by
   have:f.data.size=f.size:=rfl;simp[Lib.bytesCells,this];omega
  have b2:=Lib.bytesWorld_at_new w el f;have hb:Below w.heap.size w (Lib.bytesWorld w el f):=
   ⟨rfl,rfl,rfl,by rw[Lib.bytesWorld_size];omega,λk M=>Lib.bytesWorld_at_old w el f k M⟩
  refine h.newRow (kl:=none) (tv:= .v (.one (.bq (.int .u8) k))) (bx:= .vec true el (.int .u8) (av f)) (v:= .slice (some ⟨w.heap.size,0,none⟩) f.size (grownCap w f.size 0 el)) c9 d5 (by rw[<- g]) (by rw[<- g];rfl) (λj S=>by cases S)
   (by simp only[execOp,N,y,auy,Lib.run_convert_string_bytes w s d el f h1 Z h8,aus,avh]) hb (λ_=>⟨au2 _,by rw[Lib.bytesWorld_size];omega⟩)
   (λm' h4 h5 h6=>⟨_,_,h4,.inr (.inl ⟨by rw[tZ],_,grownCap w f.size 0 el,⟨_,b2,.inr ⟨rfl,rfl⟩⟩,by rw[a3];simp[Ty.n],by rw[tZ];exact b0,a9,λi hi=> ?_⟩)⟩)
   (λm' h4=>⟨_,_,h4,by omega,.inr ⟨by omega,grownCap w f.size 0 el,el,by rw[eN],by unfold World.shape?;rw[b2];simp[a3,Ty.n],by rw[eN];exact b0,a9⟩⟩)
  rw[tZ]at hi;show List.take 1 ((Lib.bytesCells w el f).toList.drop (i*1))= [Value.int .u8 (av f)[i]];have d7:i<(Lib.bytesCells w el f).toList.length:=by rw[avd,a3];omega
  rw[aAr,av5 d7];have d9:=hi;have h7:(Lib.bytesCells w el f).toList[i]=Value.int .u8 (av f)[i]:=by
   simp only[Lib.bytesCells,av,Array.toList_append,Array.toList_map,Array.toList_replicate];rw[ax8 (by simpa using d9)];simp
  rw[h7];rfl
 ·cases g
theorem adW{f:Fn}{first j:Array Operand}(k:o.op= .makeFunc f first j)(h:At P C φ ν own W st o e m a w K):o.wp P a w K Q:=by
 have i:=h.ev;cases f with
 |func g=>
  simp only[evOp,k]at i;split at i;case h_2=>cases i
  rename_i xs x l;split at i;case h_2=>cases i
  rename_i ks s;have t:=Ix s (pS h.sat h.tags l);have u:first= #[]:=by simp_all
  subst u;refine h.cq i ?_ ⟨_,rfl,t⟩;simp only[execOp,k,Instr.makeFunc,auy,avh,aus];rw[show Array.map a.eval j=(List.map a.eval j.toList).toArray from by grind];simp
 |_=>simp_all [evOp]
theorem Z4(h:At P C φ ν own W st o e m a w K):o.wp P a w K Q:=by
 cases hop:o.op with
 |move x=>grind [ajo]
 |assign x=>grind [afo]
 |pick c x y=>grind [ajh]
 |alloc t=>grind [aiw]
 |box t x=>grind [alI]
 |build t g=>grind [ahp]
 |buildSlice t n g=>grind [adK]
 |load t x=>grind [ok_load]
 |store t x y=>grind [ahP]
 |nilCheck x=>grind [ad9]
 |binOp j t x y k=>grind [aiE]
 |unOp j t x=>grind [akK]
 |convert s d x=>grind [aeZ]
 |fieldAddr t x f=>grind [adS]
 |field t x f=>grind [ahz]
 |indexAddr t x i=>grind [adV]
 |index t x i=>grind [ahE]
 |extract x i=>grind [aeD]
 |makeSlice t x y=>grind [adP]
 |slice t x lo hi l=>grind [ok_slice]
 |call c=>grind [akq]
 |makeFunc f x y=>grind [adW]
 |_=>have u:=h.ev;simp_all [evOp]
end
end
section
section
variable {φ:Fr} {ν ν':Nat->Bool} {m:Map} {st:ASt} {a:Act} {w w':World} {own:List (bS)} {W:List Nat} {P:Program} {C:Ctx} {o:Oper} {e:Eff}
 {K:Act->World->Prop} {Q:Exit->Act->World->Prop}
structure ic (φ:Fr) (ν:Nat->Bool) (m:Map) (W:List Nat) (st:ASt) (a:Act) (w:World):Prop where
 sat:aG φ ν m st a w
 tags: ∀t g,st.slot t=some g-> ∀x∈g.tags,x.1∈W
 yes: ∀d,d∈W-> ∀g c,st.slot d=some g->g.tv= .v (.one (.bool c))->ν d=c
theorem NM{g:List (bS)}(i: ∀x∈g,ν x.1=ν' x.1):et ν g↔et ν' g:=
 ⟨λh x f=>(i x f).symm.trans (h x f),λh x f=>(i x f).trans (h x f)⟩
theorem aG.re(h:aG φ ν m st a w)(i: ∀t g,st.slot t=some g-> ∀x∈g.tags,ν x.1=ν' x.1):aG φ ν' m st a w:=
 {
  h with
  slot:=λt g f ht=>h.slot t g f ((NM (i t g f)).2 ht)
  skip:=λt g f ht=>h.skip t g f λj=>ht ((NM (i t g f)).1 j)}
theorem Bh{tv:TV}{bx:List (Nat×Option Bx)}{p:Option Prop}{d t:Nat}:
  ((Eff.mk p (some (d,tv)) bx).apply own st).slot t=if t=d then some ⟨own,tv⟩else st.slot t:=by
 show cnd (Nat.beq t d) _ _=_;by_cases h:t=d
 ·rw[bV h,ava h]
 simp_all [bL]
theorem aG.VE(h:aG φ ν m st a w){tv:TV}{d:Nat}{p:Option Prop}(j:d<φ.n)(l:φ.D d=true)(aQ: ¬ et ν own):
  aG φ ν m ((Eff.mk p (some (d,tv)) []).apply own st) (a.put (some d) undef) w where
 tmps:=by simp[Act.put,h.tmps]
 defers:=h.defers
 slot t g f ht:=by
  rw[Bh]at f;by_cases i:t=d
  ·rw[ava i]at f;cases f;exact absurd ht aQ
  ·rw[au6 i]at f
   simp only[Act.put];rw[getD_set_ne i];exact h.slot t g f ht
 skip t g f ht:=by
  rw[Bh]at f;by_cases i:t=d
  ·subst i
   simp only[Act.put];rw[NR (by rw[h.tmps];exact j)]
  ·rw[au6 i]at f
   simp only[Act.put];rw[getD_set_ne i];exact h.skip t g f ht
 x0:=h.x0
 box k bx s:=h.box k bx s
 inj:=h.inj
 bK:=h.bK
 low:=h.low
 own:=h.own
 vn:=h.vn
 dK:=h.dK
 n0:=h.n0
 fN:=h.fN
 aN:=h.aN
 dA:=h.dA
 dW:=h.dW
 gA t ht:=by
  have:t≠d:=λe=>by rw[e,l]at ht;cases ht
  simp only[Act.put];rw[getD_set_ne this];exact h.gA t ht
def F6(b1 f:Option Bx):Prop:=b1=f\/ ∃new z,b1=some (.cells new)/\f=some (.cells z)/\ ∀(m:Map) (X:Nat->Nat->Prop) (w:World) (vs:List Value),aE m X w new vs->aE m X w z vs
theorem aG.AJ{st l:ASt}(h:aG φ ν m st a w)(hs:l.slot=st.slot)(hb: ∀k,F6 (st.box k) (l.box k)):aG φ ν m l a w:=
 {
  h with
  slot:=λt g s ht=>h.slot t g (by rw[<- hs];exact s) ht
  skip:=λt g s ht=>h.skip t g (by rw[<- hs];exact s) ht
  box:=λk bx f=>by
   rcases hb k with e|⟨new,z,i,j,u⟩
   ·exact h.box k bx (e.trans f)
   ·rw[j]at f
    cases f;obtain⟨b,vs,T,h1,h2,h3⟩:=h.box k _ i;exact⟨b,vs,T,h1,h2,u _ _ _ _ h3⟩
  bK:=λk f=>by
   rcases hb k with e|⟨new,z,i,j,u⟩
   ·exact h.bK k (e.trans f)
   ·rw[j]at f;cases f
  own:=λk bx b p f hr hm x=>by
   rcases hb k with e|⟨new,z,i,j,u⟩
   ·exact h.own k bx b p (e.trans f) hr hm x
   ·exact h.own k _ b p i rfl hm x}
theorem OJ{X:Nat->Nat->Prop}: ∀{xs ys zs:List Cell} {us:List Value},mergeL true xs ys=some zs->aE m X w xs us->aE m X w zs us
 | [],[],zs,us,h,f=>by simp_all [mergeL]
 |x::xs,y::ys,zs,[],h,f=>f.elim
 |x::xs,y::ys,zs,u::us,h,f=>by
  simp only[mergeL]at h;split at h;case h_2=>cases h
  rename_i z l g hl;cases h;exact⟨BN (v:=u) g (λ_=>f.1) (λi=>by cases i),OJ hl f.2⟩
 | [],_::_,zs,us,h,_=>by simp_all [mergeL]
 |_::_,[],zs,us,h,_=>by simp_all [mergeL]
theorem Of{X:Nat->Nat->Prop}: ∀{xs ys zs:List Cell} {us:List Value},mergeL false xs ys=some zs->aE m X w ys us->aE m X w zs us
 | [],[],zs,us,h,f=>by simp_all [mergeL]
 |x::xs,y::ys,zs,[],h,f=>f.elim
 |x::xs,y::ys,zs,u::us,h,f=>by
  simp only[mergeL]at h;split at h;case h_2=>cases h
  rename_i z l g hl;cases h;exact⟨BN (u:=u) g (λi=>by cases i) (λ_=>f.1),Of hl f.2⟩
 | [],_::_,zs,us,h,_=>by simp_all [mergeL]
 |_::_,[],zs,us,h,_=>by simp_all [mergeL]
theorem HJ{k j:Nat}{b:Option Bx}{r:List (Nat×Option Bx)}{f:Nat->Option Bx}:applyB ((k,b)::r) f j=if j=k then b else applyB r f j:=by
 show cnd (Nat.beq j k) _ _=_;by_cases h:j=k
 ·rw[bV h,ava h]
 simp_all [bL]
theorem NT{st:ASt}: ∀{l f:List (Nat×Option Bx)},mergeBxs true st l=some f-> ∀k,F6 (applyB l st.box k) (applyB f st.box k)
 | [],f,h,k=>by simp only[mergeBxs,aup]at h;subst h;exact .inl rfl
 |(j,bx)::r,f,h,k=>by
  unfold mergeBxs at h;split at h
  ·simp_all
  ·rename_i u new x i
   cases i;split at h;case h_2=>cases h
   rename_i aN l y hl;split at h;case h_2=>cases h
   rename_i z s;cases h;rw[HJ,HJ];by_cases g:k=j
   ·rw[ava g,ava g];exact .inr ⟨_,_,rfl,rfl,λ_ _ _ _ t=>OJ s t⟩
   ·rw[au6 g,au6 g];exact NT hl k
  ·cases h
theorem NO{st:ASt}: ∀{l f:List (Nat×Option Bx)},mergeBxs false st l=some f-> ∀k,F6 (st.box k) (applyB f st.box k)
 | [],f,h,k=>by simp only[mergeBxs,aup]at h;subst h;exact .inl rfl
 |(j,bx)::r,f,h,k=>by
  unfold mergeBxs at h;split at h
  ·simp_all
  ·rename_i x new y i
   cases i;split at h;case h_2=>cases h
   rename_i aN l s hl;split at h;case h_2=>cases h
   rename_i z t;cases h;rw[HJ];by_cases g:k=j
   ·rw[ava g,g,s];exact .inr ⟨_,_,rfl,rfl,λ_ _ _ _ u=>Of t u⟩
   ·rw[au6 g];exact NO hl k
  ·cases h
theorem GZ{st:ASt}: ∀{own:List (bS)} {q:Bool},condOf st own=some q->(∀d b,(d,b)∈own-> ∀g c,st.slot d=some g->g.tv= .v (.one (.bool c))->ν d=c)->(q=true↔et ν own)
 | [],q,h,_=>by
  simp only[condOf,aup]at h;subst h;exact⟨λ_ x f=>(by cases f),λ_=>rfl⟩
 |(d,b)::r,q,h,j=>by
  simp only[condOf]at h;split at h;case h_2=>cases h
  rename_i y c k l s;simp only[aup]at h;have t:=GZ s (λd b hm=>j d b (by simp_all));have u:=j d b (by simp) _ c l rfl;have h1:Ac b c=true↔ν d=b:=by rw[u];cases b<;>cases c<;>simp[Ac]
  have h2:q=true↔Ac b c=true/\k=true:=by
   grind [condOf]
  rw[h2,h1,t];exact⟨λi x f=>by
   rcases List.mem_cons.1 f with rfl|f
   ·simp_all
   ·exact i.2 x f,λi=>⟨i (d,b) (by simp),λx f=>i x (by simp_all)⟩⟩
theorem afM{st:ASt}{o:Oper}{f e:Eff}(h:gEff st own o f=some e):e.bQ=f.bQ/\e.dst=f.dst/\((e=f/\(me o=true->f.eT= []))\/ ∃c,condOf st own=some c/\mergeBxs c st f.eT=some e.eT):=by
 unfold gEff at h;split at h
 ·grind
 ·rename_i g
  cases h;refine⟨rfl,rfl,.inl ⟨rfl,λi=> ?_⟩⟩;cases hb:f.eT with
  |nil=>rfl
  |cons x r=>exact absurd hb (λhb=>g x r i hb)
theorem Bw{st:ASt}: ∀{own:List (bS)} {p:Prop},under st own p->(∀d b,(d,b)∈own-> ∀g c,st.slot d=some g->g.tv= .v (.one (.bool c))->c=b)->p
 | [],p,h,_=>h
 |(d,b)::r,p,h,f=>by
  simp only[under]at h;have h1:=Bw h (λd b hm=>f d b (by simp_all));split at h1
  ·rename_i j c i
   exact h1 (f d b (by simp) _ c i rfl)
  ·exact h1
def uc(l:List ER):Prop:= ∀e∈l,∀p,e.bQ=some p->p
theorem ot{e:Option (Nat×TV)}{d:Option Nat}(h:dstOk e d=true):(e=none/\d=none)\/ ∃k tv,e=some (k,tv)/\d=some k:=by
 unfold dstOk at h;grind [beq_eq]
def boolOf:TV->Bool
 | .v (.one (.bool c))=>c|_=>false
theorem A7{e:Eff}(h:e.dst=none)(t:Nat):(e.apply own st).slot t=st.slot t:=by simp_all [Eff.apply]
theorem GX(hC:dr P C)(b9:mz C.G φ)(s:List Oper)(hD: ∀o∈s,∀d,o.dst=some d->d<φ.n/\φ.D d=true)(tl:List Nat):
  ∀(j:Nat) (r:List Oper) (k:Nat) (W:List Nat) (st:ASt) (a:Act) (w:World) (ν:Nat->Bool) (l:List ER),
   evList C s r W st=some l->s.drop k=r->j<=r.length->nodup (r.filterMap (·.dst))=true->(∀d∈r.filterMap (·.dst),d∉W)->uc (l.take j)->(∃m,ic φ ν m W st a w)->
   (∀y w' ν' V,(∃m,ic φ ν' m V (applyAll (l.take j) st) y w')->evList C s (r.drop j) V (applyAll (l.take j) st)=some (l.drop j)->wpOps P s.toArray Q tl y w')->
   wpOps P s.toArray Q (List.range' k j++tl) a w
 |0,r,k,W,st,a,w,ν,l,h,Y,Z,O,h8,hn,hr,hQ=>hQ a w ν W hr h
 |j+1,[],k,W,st,a,w,ν,l,h,Y,Z,O,h8,hn,hr,hQ=>absurd Z (by simp)
 |n+1,o::r,k,W,st,a,w,ν,l,h,Y,Z,O,h8,hn,⟨m,hr⟩,hQ=>by
  simp only[evList]at h;split at h;case h_2=>cases h
  rename_i own aQ;split at h;case h_2=>cases h
  rename_i e0 he;split at h;case h_2=>cases h
  rename_i e e5;obtain⟨a4,h⟩:=ba h;obtain⟨e6,a5,c9⟩:=afM e5;split at h;case h_2=>cases h
  rename_i l' e8;simp only[aup]at h;subst h;have d0:=by
   have:(s.drop k)[0]? =some o:=by rw[Y];rfl
   simpa using this
  have e9:=by
   have:(s.drop k).drop 1=r:=by rw[Y];rfl
   rwa [awo]at this
  have a6:=hD o (axc d0);have a2: ∀x∈own,x.1∈W:=by
   intro x i;unfold ownOf at aQ;split at aQ
   ·cases aQ;cases i
   ·split at aQ
    case h_2=>cases aQ
    rename_i d a3;split at aQ;case h_2=>cases aQ
    rename_i tg c I;obtain⟨T,aQ⟩:=ba aQ;simp only[aup]at aQ;subst aQ;rcases List.mem_cons.1 i with rfl|i
    ·exact cN.1 T
    ·exact hr.tags d _ I x i
  have d5:nodup (r.filterMap (·.dst))=true/\ ∀d,o.dst=some d->d∉r.filterMap (·.dst):=by
   cases hod:o.dst with
   |none=>rw[azx hod]at O;exact⟨O,λd A=>by cases A⟩
   |some d=>rw[axp hod]at O;obtain⟨h1,h2⟩:=nodup_cons O;exact⟨h2,λd' A=>by cases A;exact h1⟩
  have f0: ∀d∈r.filterMap (·.dst),d∉nI o.dst W:=by
   intro d A;have h1:d∉W:=h8 d (by
    cases hod:o.dst with
    |none=>rw[azx hod];exact A
    |some d'=>rw[axp hod];exact awh _ A)
   cases hod:o.dst with
   |none=>exact h1
   |some d'=>
    simp only[nI,avv,not_or];exact⟨λe=>d5.2 d' hod (e▸A),h1⟩
  have f1: ∀d,o.dst=some d->d∉W:=λd A=>h8 d (by rw[axp A];simp)
  let ν':Nat->Bool:=match e.dst with|some (d,tv)=>λx=>if x=d then boolOf tv else ν x|none=>ν
  have d6: ∀x,x∈W->ν x=ν' x:=by
   intro x i;show ν x=(match e.dst with|some (d,tv)=>λx=>if x=d then boolOf tv else ν x|none=>ν) x;rcases ot a4 with⟨h1,_⟩|⟨d,tv,h1,h2⟩
   ·rw[h1]
   ·rw[h1]
    have:x≠d:=λe=>f1 d h2 (e▸i)
    simp[this]
  have S:=hr.sat.re λt g f x i=>d6 _ (hr.tags t g f x i)
  have J:=λd A g c h1 h2=>(d6 d A).symm.trans (hr.yes d A g c h1 h2)
  have f2: ∀L y w',aG φ ν' L (e.apply own st) y w'->ic φ ν' L (nI o.dst W) (e.apply own st) y w':=by
   intro L y w' hs;rcases ot a4 with⟨h1,h2⟩|⟨d,tv,h1,h2⟩
   ·refine⟨hs,λt g f x i=> ?_,λt ht g c f M=> ?_⟩
    ·rw[A7 h1]at f;rw[h2];exact hr.tags t g f x i
    ·rw[A7 h1]at f;rw[h2]at ht;exact J t ht g c f M
   ·have I: ∀t,(e.apply own st).slot t=if t=d then some ⟨own,tv⟩else st.slot t:=by
     intro t;obtain⟨nn,dd,bb⟩:=e;simp only at h1;subst h1;exact Bh
    refine⟨hs,λt g f x i=> ?_,λt ht g c f M=> ?_⟩
    ·rw[I]at f
     rw[h2];by_cases N:t=d
     ·rw[ava N]at f;cases f;exact awh _ (a2 x i)
     ·rw[au6 N]at f;exact awh _ (hr.tags t g f x i)
    ·rw[I]at f
     by_cases N:t=d
     ·rw[ava N]at f
      cases f;simp only at M;show(match e.dst with|some (d,tv)=>λx=>if x=d then boolOf tv else ν x|none=>ν) t=c;rw[h1,M];simp[N,boolOf]
     ·rw[au6 N]at f
      rw[h2]at ht;rcases List.mem_cons.1 ht with h3|h3
      ·exact absurd h3 N
      ·exact J t h3 g c f M
  have b0: ∀y w',Sat φ ν' (e.apply own st) y w'->wpOps P s.toArray Q (List.range' (k+1) n++tl) y w':=λy w' ⟨L,hs⟩=>
   GX hC b9 s hD tl n r (k+1) (nI o.dst W) (e.apply own st) y w' ν' l' e8 e9 (by simpa using Z) d5.1 f0 (λx i=>hn x (awh _ i)) ⟨L,f2 L y w' hs⟩
    (λy w' f3 V hh f5=>hQ y w' f3 V hh f5)
  have f6:et ν' own-> ∀p,e.bQ=some p->p:=by
   intro ht p hp;have h1:=hn ⟨own,underO st own e.bQ,e⟩ (by simp) (under st own p) (by simp[underO,hp]);refine Bw h1 λd b hm g c f M=> ?_
   have h2:=J d (a2 _ hm) g c f M;have h3:=ht _ hm;simp only at h3;rw[<- h2,h3]
  rw[aBh,awz,wpOps_cons];unfold wpOp;have f8:s.toArray[k]? =some o:=by simpa using d0
  simp only[f8];by_cases ht:et ν' own
  ·have hw:Region.wanted o (yielded s.toArray a.tmps)=true:=by
    unfold Region.wanted;unfold ownOf at aQ;split at aQ
    ·rename_i f;simp[f]
    ·rename_i j b f
     split at aQ;case h_2=>cases aQ
     rename_i d a3;split at aQ;case h_2=>cases aQ
     rename_i tg c I;obtain⟨T,aQ⟩:=ba aQ;simp only[aup]at aQ;subst aQ;have z:=S.slot d _ I (λx i=>ht x (awh _ i));have hb:ν' d=b:=ht (d,b) (by simp);have b2:ν' d=c:=J d (cN.1 T) _ c I rfl;have U:yielded s.toArray a.tmps j=some c:=by
      unfold yielded;have:(s.toArray[j]?).bind (·.dst)=some d:=by simpa using a3
      rw[this];simp only[ay5];rw[avl]at z;cases hq:a.tmps[d]? with
      |none=>rw[hq]at z;cases z
      |some u=>rw[hq]at z;simp only[axv]at z;rw[z]
     simp only[f,U];rw[<- b2,hb];simp
   rw[ava hw];have f9: ∀y w',Sat φ ν' (e0.apply own st) y w'->wpOps P s.toArray Q (List.range' (k+1) n++tl) y w':=λy w' ⟨L,hs⟩=>by
    refine b0 y w' ⟨L,?_⟩;rcases c9 with⟨e1,_⟩|⟨c,b4,b5⟩
    ·rw[e1];exact hs
    ·have g0:c=true:=(GZ b4 (λd b hm g c h1 h2=>J d (a2 _ hm) g c h1 h2)).2 ht
     subst g0;refine hs.AJ ?_ (NT b5);unfold Eff.apply;rw[a5]
   refine .inl (Z4 ⟨hC,b9,he,(by rw[<- e6];exact f6 ht),ht,J,S,a6,f9⟩)
  ·
   have f: ∃j b,o.guard=some (j,b):=by
    cases a5:o.guard with
    |none=>unfold ownOf at aQ;rw[a5]at aQ;simp only[aup]at aQ;subst aQ;exact absurd (λx i=>by cases i) ht
    |some x=>exact⟨x.1,x.2,rfl⟩
   obtain⟨j,b,f⟩:=f;have d7: ∀k,F6 (st.box k) (applyB e.eT st.box k):=by
    rcases c9 with⟨e1,e2⟩|⟨c,b4,b5⟩
    ·have:e.eT= []:=by rw[e1];exact e2 (by unfold me;rw[f])
     rw[this];exact λ_=> .inl rfl
    ·have g2:c=false:=by
      cases hcc:c with
      |false=>rfl
      |true=>exact absurd ((GZ b4 (λd b hm g c h1 h2=>J d (a2 _ hm) g c h1 h2)).1 hcc) ht
     subst g2;exact NO b5
   have hw:Region.wanted o (yielded s.toArray a.tmps)=false:=by
    unfold Region.wanted;unfold ownOf at aQ;rw[f]at aQ;simp only at aQ;split at aQ;case h_2=>cases aQ
    rename_i d a3;split at aQ;case h_2=>cases aQ
    rename_i tg c I;obtain⟨T,aQ⟩:=ba aQ;simp only[aup]at aQ;subst aQ;have d9:(s.toArray[j]?).bind (·.dst)=some d:=by simpa using a3
    simp only[f];by_cases b6:et ν' tg
    ·have z:=S.slot d _ I b6
     have b2:ν' d=c:=J d (cN.1 T) _ c I rfl;have g3:ν' d≠b:=λhb=>ht λx i=>by
      rcases List.mem_cons.1 i with rfl|i
      ·exact hb
      ·exact b6 x i
     have U:yielded s.toArray a.tmps j=some c:=by
      unfold yielded;rw[d9];simp only[ay5];rw[avl]at z;cases hq:a.tmps[d]? with
      |none=>rw[hq]at z;cases z
      |some u=>rw[hq]at z;simp only[axv]at z;rw[z]
     rw[U,<- b2];simpa using g3
    ·have z:=S.skip d _ I b6
     have U:yielded s.toArray a.tmps j=none:=by
      unfold yielded;rw[d9];simp only[ay5];rw[avl]at z;cases hq:a.tmps[d]? with
      |none=>rfl
      |some u=>rw[hq]at z;simp only[axv]at z;rw[z];rfl
     rw[U];rfl
   rw[au6 (by rw[hw];simp)];rcases ot a4 with⟨h1,h2⟩|⟨d,tv,h1,h2⟩
   ·rw[h2]
    refine b0 _ _ ⟨m,?_⟩;refine S.AJ ?_ d7;unfold Eff.apply;rw[h1]
   ·rw[h2]
    refine b0 _ _ ⟨m,?_⟩;refine(S.VE (tv:=tv) (p:=e.bQ) (a6 d h2).1 (a6 d h2).2 ht).AJ ?_ d7;unfold Eff.apply;rw[h1]
theorem OQ{f:List Oper}: ∀{r:List Oper} {W:List Nat} {st:ASt} {l:List ER},evList C f r W st=some l->l.length=r.length
 | [],W,st,l,h=>by simp_all [evList]
 |o::r,W,st,l,h=>by
  simp only[evList]at h;split at h;case h_2=>cases h
  split at h;case h_2=>cases h
  split at h;case h_2=>cases h
  obtain⟨_,h⟩:=ba h;split at h;case h_2=>cases h
  rename_i i g;cases h;simp[OQ g]
theorem afz(j:dr P C)(s:mz C.G φ)(f:List Oper)(t: ∀o∈f,∀d,o.dst=some d->d<φ.n/\φ.D d=true)
  (r:List Oper) (k:Nat) (W:List Nat) (st:ASt) (a:Act) (w:World) (ν:Nat->Bool) (l:List ER)
  (h:evList C f r W st=some l) (u:f.drop k=r) (x:nodup (r.filterMap (·.dst))=true) (y: ∀d∈r.filterMap (·.dst),d∉W) (A:uc l) (hr: ∃m,ic φ ν m W st a w)
  (z: ∀g w' ν' i,(∃m,ic φ ν' m i (applyAll l st) g w')->Q .normal g w'):
   wpOps P f.toArray Q (List.range' k r.length) a w:=by
 have ht:l.take r.length=l:=by rw[<- OQ h];simp_all
 have:=GX j s f t [] r.length r k W st a w ν l h u (au2 _) x y (by simp_all) hr (λg w' ν' i I _=>z g w' ν' i (by simp_all));simp_all
end
end
section
abbrev ν0:Nat->Bool:=λ_=>false
section
variable {φ:Fr} {ν ν':Nat->Bool} {m:Map} {st:ASt} {a:Act} {w w':World} {own:List (bS)} {W:List Nat} {P:Program} {C:Ctx} {o:Oper} {e:Eff}
 {K:Act->World->Prop} {Q:Exit->Act->World->Prop}
def Plain(st:ASt):Prop:= ∀t g,st.slot t=some g->g.tags= []
theorem Bi{t:Nat}{g:GS}(h:st.plain.slot t=some g):st.slot t=some g/\g.tags= []:=by
 grind [ASt.plain]
theorem Od:Plain st.plain:=λt g h=>(Bi h).2
theorem aG.plain(h:aG φ ν m st a w):aG φ ν' m st.plain a w:=
 {
  h with
  slot:=λt g f _=>h.slot t g (Bi f).1 (by rw[(Bi f).2];intro x i;cases i)
  skip:=λt g f ht=>absurd (by rw[(Bi f).2];intro x i;cases i) ht}
structure kK (φ:Fr) (w:World):Prop where
 aN:w.os=φ.w0.os/\w.tape=φ.w0.tape/\w.output=φ.w0.output/\φ.w0.heap.size<=w.heap.size
 dA: ∀b,b<φ.w0.heap.size-> ¬ φ.B b->w.heap[b]? =φ.w0.heap[b]?
 dW: ∀b,b<φ.w0.heap.size->w.shape? b=φ.w0.shape? b/\ ∀p,w.frozen? ⟨b,p,none⟩=φ.w0.frozen? ⟨b,p,none⟩
theorem aG.lD(h:aG φ ν m st a w):kK φ w:=⟨h.aN,h.dA,h.dW⟩
def kL(φ:Fr)(a:Act):Prop:=a.defers=φ.a0.defers/\ ∀t,φ.D t=false->a.tmps.getD t undef=φ.a0.tmps.getD t undef
theorem aG.nL(h:aG φ ν m st a w):kL φ a:=⟨h.defers,h.gA⟩
def exOf:Ex->Exit
 | .normal=> .normal| .exit id=> .exit id| .ret=> .ret| .dL v=> .panic [{ v:=v,recovered:=false}]
def zP(e:Exit):Prop:=e= .ret\/ ∃v,e= .panic [{ v:=v,recovered:=false}]
def loopsIn:Code->List Code
 | .seq a b=>loopsIn a++loopsIn b| .cond _ a b=>loopsIn a++loopsIn b| .block _ b=>loopsIn b| .loop b=> [b]|_=> []
def Fr.mU(φ:Fr)(b:Nat):Prop:=φ.B b\/φ.w0.heap.size<=b
def cG{i:Type}(P:Program)(G:Gd)(Ret:Exit->Nat->(Nat->Prop)->(Nat->Nat->Prop)->i->Act->World->Prop)(body:Code)(s:LS i):Prop:=
 ∀(f:s.K.den) (g:s.X.den) (φ:Fr) (a:Act) (w:World),mz G φ->(∀p,s.inv=some p->p f g)->Fit s.K f->Fit s.X g->(∀d∈dsts body,d<φ.n/\φ.D d=true)->Sat φ ν0 (cW s (enc s.K f) (enc s.X g)) a w->
  (Code.loop body).wp P (λe h w'=>match e with
   | .exit id=>id=s.exit/\(∀R,s.R=some R->R f g=none)/\Sat φ ν0 (cW s (enc s.K f) (enc s.X (s.G f g))) h w'
   |e=>zP e/\ ∃R r,s.R=some R/\R f g=some r/\Ret e φ.n0 φ.mU φ.X0 r h w'/\kK φ w'/\kL φ h) a w
def uA(a:Act):List (Nat×Option Nat)->List Value->Prop
 | [],vs=>vs= []
 |(t,none)::r,vs=> ∃f,vs=a.tmps.getD t undef::f/\uA a r f
 |(t,some n)::r,vs=> ∃g f:List Value,a.tmps.getD t undef= .agg g.toArray/\g.length=n/\vs=g++f/\uA a r f
theorem Du(hs:aG φ ν m st a w): ∀{l:List (Nat×Option Nat)} {cs:List Cell},rdS st l=some cs-> ∃vs,uA a l vs/\aE m (XA φ m) w cs vs
 | [],cs,h=>by simp only[rdS,aup]at h;subst h;exact⟨[],rfl,trivial⟩
 |(t,u)::r,cs,h=>by
  simp only[rdS]at h;split at h;case h_2=>cases h
  rename_i x cs' i hr;obtain⟨f,h1,h2⟩:=Du hs hr;have j:=hs.slot t _ i (λx i=>by cases i);split at h
  ·cases h
   exact⟨_::f,⟨f,rfl,h1⟩,j,h2⟩
  ·obtain⟨g,h⟩:=ba h
   cases h;obtain⟨us,s,k⟩:=j;have g:=beq_eq g;rw[gu]at g;exact⟨us.toList++f,⟨us.toList,f,by rw[s],by rw[<- g];exact k.length.symm,rfl,h1⟩,by rw[bI];exact aj.append k h2⟩
  ·cases h
theorem uA.len: ∀{l:List (Nat×Option Nat)} {vs:List Value},uA a l vs->vs.length=shLen l
 | [],vs,h=>by cases h;rfl
 |(t,none)::r,vs,h=>by obtain⟨f,rfl,h1⟩:=h;simp[shLen,h1.len]
 |(t,some n)::r,vs,h=>by obtain⟨g,f,_,h2,rfl,h1⟩:=h;simp[shLen,h1.len,h2]
def Kf(ns:List Nat):TV->Prop
 | .v (.one c)=>c.free ns=true| .v (.agg cs)=> ∀c∈cs,c.free ns=true| .tup _=>False
theorem VR.free{ns:List Nat}{m g:Map}{X:Nat->Nat->Prop}{tv:TV}{v:Value}(hm: ∀k∈ns,g k=m k)(f:Kf ns tv)(h:VR m X w tv v):VR g X w tv v:=by
 cases tv with
 |tup xs=>cases f
 |v s=>
  cases s with
  |one c=>exact CR.free hm f h
  |agg cs=>obtain⟨vs,rfl,h2⟩:=h;exact⟨vs,rfl,h2.imp (p:=λc=>c.free ns=true) (λa b i=>CR.free hm i) (show∀c∈cs,c.free ns=true from f)⟩
theorem Bp{ns:List Nat}{X:Nat->Nat->Prop}{rest:List Value}: ∀{l:List (Nat×Option Nat)} {cs:List Cell} {vs:List Value} {u:Nat} {g:GS},uA a l vs->aE m X w cs (vs++rest)->slotsOf l cs u=some g->
  g.tags= []/\VR m X w g.tv (a.tmps.getD u undef)/\((∀c∈cs,c.free ns=true)->Kf ns g.tv)/\u∈firsts l
 | [],cs,vs,u,g,_,_,h=>by cases h
 |(t,none)::r,[],vs,u,g,k,f,h=>by
  obtain⟨s,rfl,h1⟩:=k;cases f
 |(t,none)::r,c::cs,vs,u,g,k,f,h=>by
  obtain⟨s,rfl,h1⟩:=k;simp only[slotsOf]at h;by_cases i:u=t
  ·rw[bV i]at h
   cases h;subst i;exact⟨rfl,f.1,λj=>j c (by simp),by simp[firsts]⟩
  ·rw[bL i]at h
   obtain⟨h2,h3,h4,h5⟩:=Bp h1 f.2 h;exact⟨h2,h3,λj=>h4 λc f=>j c (by simp[f]),by simp[firsts,h5]⟩
 |(t,some n)::r,cs,vs,u,g,k,f,h=>by
  obtain⟨x,s,y,hl,rfl,h1⟩:=k;have h3:=aj.take n f;have h4:=aj.drop n f;rw[avb,show(x++(s++rest)).take n=x by rw[<- hl];simp]at h3;rw[avb,show(x++(s++rest)).drop n=s++rest by rw[<- hl];simp]at h4;simp only[slotsOf]at h;by_cases i:u=t
  ·rw[bV i]at h
   cases h;subst i;exact⟨rfl,by rw[y];exact⟨_,rfl,by simpa[aE]using h3⟩,λj c f=>j c (awg f),by simp[firsts]⟩
  ·rw[bL i]at h
   obtain⟨h2,h5,h6,h7⟩:=Bp h1 h4 h;exact⟨h2,h5,λj=>h6 λc f=>j c (awx f),by simp[firsts,h7]⟩
theorem US(hs:aG φ ν m st a w): ∀{l:List (aR)} {cs:List Cell},rdB st l=some cs-> ∃vs,cZ m w l vs/\aE m (XA φ m) w cs vs/\ ∀k∈firsts l,st.box k≠none
 | [],cs,h=>by simp only[rdB,aup]at h;subst h;exact⟨[],rfl,trivial,λk t=>by cases t⟩
 |(k,n)::r,cs,h=>by
  simp only[rdB]at h;have x: ∀f cs',(st.box k=some (.cells f)\/st.box k=some (.ro f))->rdB st r=some cs'->cnd (Nat.beq (len' f) n) (some (app f cs')) none=some cs->
    ∃vs,cZ m w ((k,n)::r) vs/\aE m (XA φ m) w cs vs/\ ∀j∈firsts ((k,n)::r),st.box j≠none:=by
   intro f cs' hb hr h;obtain⟨i,h1,h2,h3⟩:=US hs hr;obtain⟨g,h⟩:=ba h;simp only[aup]at h;subst h;have: ∃b vs T,m k=some (b,0)/\w.heap[b]? =some (.cells vs T (0,0))/\aE m (XA φ m) w f vs.toList:=by
    rcases hb with hb|hb
    ·exact hs.box k _ hb
    ·exact hs.box k _ hb
   obtain⟨b,us,T,hm,u,s⟩:=this;have g:=beq_eq g;rw[gu]at g;refine⟨us.toList++i,⟨b,us,T,i,hm,u,by rw[<- g];simpa using s.length.symm,rfl,h1⟩,by rw[bI];exact aj.append s h2,λj y=> ?_⟩;grind [firsts]
  grind
theorem Hb{ns:List Nat}{X:Nat->Nat->Prop}{mk:List Cell->Bx}{rest:List Value}: ∀{l:List (aR)} {cs:List Cell} {vs:List Value} {u:Nat} {bx:Bx},cZ m w l vs->aE m X w cs (vs++rest)->boxesOf mk l cs u=some bx->
  ∃cs',bx=mk cs'/\(∃b us T,m u=some (b,0)/\w.heap[b]? =some (.cells us T (0,0))/\aE m X w cs' us.toList)/\((∀c∈cs,c.free ns=true)-> ∀c∈cs',c.free ns=true)/\u∈firsts l
 | [],cs,vs,u,bx,_,_,h=>by cases h
 |(k,n)::r,cs,vs,u,bx,s,f,h=>by
  obtain⟨b,us,T,g,hm,t,hl,rfl,h1⟩:=s;have h3:=aj.take n f;have h4:=aj.drop n f;rw[avb,show(us.toList++(g++rest)).take n=us.toList by simp_all]at h3;rw[avb,show(us.toList++(g++rest)).drop n=g++rest by simp_all]at h4;simp only[boxesOf]at h;by_cases i:u=k
  ·rw[bV i]at h
   cases h;subst i;exact⟨_,rfl,⟨b,us,T,hm,t,h3⟩,λj c f=>j c (awg f),by simp[firsts]⟩
  ·rw[bL i]at h
   obtain⟨cs',h5,h6,h7,x⟩:=Hb h1 h4 h;exact⟨cs',h5,h6,λj=>h7 λc f=>j c (awx f),by simp[firsts,x]⟩
theorem xq{mk:List Cell->Bx}: ∀{l:List (aR)} {cs:List Cell} {u:Nat},u∈firsts l-> ∃bx,boxesOf mk l cs u=some bx
 | [],_,_,h=>by cases h
 |(k,n)::r,cs,u,h=>by
  simp only[boxesOf];by_cases f:u=k
  ·rw[bV f];simp_all
  ·rw[bL f]
   simp only[firsts,avv]at h;exact xq (h.resolve_left f)
theorem lf{mk:List Cell->Bx}: ∀{l:List (aR)} {cs:List Cell} {u:Nat} {bx:Bx},boxesOf mk l cs u=some bx->u∈firsts l/\ ∃cs',bx=mk cs'
 | [],_,_,_,h=>by cases h
 |(k,n)::r,cs,u,bx,h=>by
  simp only[boxesOf]at h;by_cases f:u=k
  ·grind [firsts,bV]
  ·rw[bL f]at h
   obtain⟨h1,h2⟩:=lf h;exact⟨by simp[firsts,h1],h2⟩
theorem xw: ∀{l:List (aR)} {u:Nat} {g:GS},ptrsOf l u=some g-> ∃k,(u,k)∈l/\g=⟨[],.v (.one (.box k 0))⟩
 | [],u,g,h=>by cases h
 |(t,k)::r,u,g,h=>by
  simp only[ptrsOf]at h;by_cases f:u=t
  ·grind [bV]
  ·rw[bL f]at h
   obtain⟨k',h1,h2⟩:=xw h;exact⟨k',by simp[h1],h2⟩
theorem PE: ∀{l:List (aR)} {u k:Nat},(u,k)∈l-> ∃g,ptrsOf l u=some g
 | [],u,k,h=>by cases h
 |(t,j)::r,u,k,h=>by
  simp only[ptrsOf];by_cases f:u=t
  ·rw[bV f];simp_all
  ·rw[bL f]
   rcases List.mem_cons.1 h with h|h
   ·cases h;exact absurd rfl f
   ·exact PE h
theorem J3: ∀{a b:List Nat},Gp a b=true->a=b
 | [],[],_=>rfl
 |x::r,y::s,h=>by obtain⟨h1,h2⟩:=aF h;rw[beq_eq h1,J3 h2]
 | [],_::_,h=>by cases h
 |_::_,[],h=>by cases h
theorem Be: ∀{l:List (Nat×Nat×List Nat)} {u:Nat} {g:GS},closOf l u=some g-> ∃f ks,(u,f,ks)∈l/\g=⟨[],.v (.one (.clo f ks))⟩
 |(t,f,ks)::r,u,g,h=>by
  simp only[closOf]at h;by_cases i:u=t
  ·grind [bV]
  ·rw[bL i]at h
   obtain⟨j,k,h1,h2⟩:=Be h;exact⟨j,k,by simp[h1],h2⟩
 | [],_,_,h=>by cases h
theorem HB{j xs s:List Nat}: ∀{l:List (Nat×Nat×List Nat)},chkC st j xs s l=true-> ∀t f ks,(t,f,ks)∈l->st.slot t=some ⟨[],.v (.one (.clo f ks))⟩/\t∉j/\t∉xs/\ ∀k∈ks,k∈s
 | [],_,_,_,_,h=>by cases h
 |(z,A,I)::r,i,t,f,ks,h=>by
  simp only[chkC]at i;split at i
  ·rename_i g J u
   obtain⟨h1,h2⟩:=aF i;obtain⟨h1,x⟩:=aF h1;obtain⟨h2,h3⟩:=aF h2;obtain⟨h3,h4⟩:=aF h3;obtain⟨h4,h5⟩:=aF h4;rcases List.mem_cons.1 h with h|h
   ·cases h
    rw[beq_eq h1,J3 x]at u;refine⟨u,λhm=> ?_,λhm=> ?_,λk y=>cN.1 (jQ h4 k y)⟩
    ·have:=fX h2;rw[cN.2 hm]at this;cases this
    ·have:=fX h3;rw[cN.2 hm]at this;cases this
   ·exact HB h5 t f ks h
  ·cases i
theorem rL{g xs i:List Nat}: ∀{l:List (aR)},chkP st g xs i l=true-> ∀t k,(t,k)∈l->st.slot t=some ⟨[],.v (.one (.box k 0))⟩/\t∉g/\t∉xs/\k∈i
 | [],_,t,k,h=>by cases h
 |(x,k')::r,f,t,k,h=>by
  simp only[chkP]at f;split at f;case h_2=>cases f
  rename_i y off j;obtain⟨h1,h2⟩:=aF f;obtain⟨s,u⟩:=aF h1;obtain⟨h2,h3⟩:=aF h2;obtain⟨h3,h4⟩:=aF h3;obtain⟨h4,h5⟩:=aF h4;rcases List.mem_cons.1 h with h|h
  ·cases h
   rw[beq_eq s,beq_eq u]at j;exact⟨j,λhm=>(by have:=fX h2;rw[cN.2 hm]at this;cases this),λhm=>(by have:=fX h3;rw[cN.2 hm]at this;cases this),cN.1 h4⟩
  ·exact rL h5 t k h
theorem Oc: ∀{l:List (aR)} {k:Nat},k∈CY l-> ∃t,(t,k)∈l
 | [],_,h=>by cases h
 |(f,k')::r,k,h=>by
  simp only[CY,avv]at h;rcases h with rfl|h
  ·simp_all
  ·obtain⟨t,ht⟩:=Oc h;grind
theorem cZ.mem: ∀{l:List (aR)} {vs:List Value} {k:Nat},cZ m w l vs->k∈firsts l-> ∃b,m k=some (b,0)
 | [],_,_,_,h=>by cases h
 |(k',n)::r,vs,k,f,h=>by
  obtain⟨b,us,T,g,hm,_,_,_,h1⟩:=f;simp only[firsts,avv]at h;rcases h with rfl|h
  ·simp_all
  ·exact cZ.mem h1 h
theorem cZ.re{f:Map}: ∀{l:List (aR)} {vs:List Value},(∀k∈firsts l,f k=m k)->cZ m w l vs->cZ f w l vs
 | [],_,_,h=>h
 |(k,n)::r,vs,g,h=>by
  obtain⟨b,us,T,i,hm,h1,h2,h3,h4⟩:=h;exact⟨b,us,T,i,by simp_all [firsts],h1,h2,h3,cZ.re (λj s=>g j (by simp[firsts,s])) h4⟩
theorem Hn{a b:Option (List Cell)}{c:List Cell}(h:qI a b=some c): ∃x y,a=some x/\b=some y/\c=x++y:=by
 unfold qI at h;grind [bI]
theorem iJ{α:Type}{a b:Option α}{x:α}(h:ep a b=some x):a=some x\/(a=none/\b=some x):=by
 cases a with
 |none=>exact .inr ⟨rfl,h⟩
 |some y=>exact .inl h
end
end
section
section
variable {φ:Fr} {ν ν':Nat->Bool} {m:Map} {st:ASt} {a:Act} {w w':World} {own:List (bS)} {W:List Nat} {P:Program} {C:Ctx} {o:Oper} {e:Eff}
 {K:Act->World->Prop} {Q:Exit->Act->World->Prop}
theorem G7: ∀{ks:List Nat} {st:ASt},(dQ ks st).slot=st.slot
 | [],_=>rfl
 |k::r,st=>by
  show(dQ r (mH k st)).slot=st.slot;rw[G7];rfl
def Wr(T:ASt)(f:Map)(b:Nat):Prop:= ∃k bx p,T.box k=some bx/\bx.jN=false/\f k=some (b,p)/\p % 2=0
def inner(φ:Fr)(m f:Map)(T:ASt)(body:Code)(a:Act)(w:World):Fr where
 n:=φ.n
 w0:=w
 a0:=a
 B:=Wr T f
 D:=λt=>mem t (dsts body)
 X0:=λb q=>XA φ m b q/\ ¬ Wr T f b
 n0:=φ.n0
 base:=φ.base
 gl:=φ.gl
structure View (φ:Fr) (m:Map) (a:Act) (w:World) (m':Map) (T:ASt):Prop where
 slot: ∀t g,T.slot t=some g->g.tags= []/\VR m' (XA φ m) w g.tv (a.tmps.getD t undef)
 box: ∀k bx,T.box k=some bx->iv m' (XA φ m) w k bx
 bK: ∀k,T.box k=none->m' k=none
 live: ∀k b p,m' k=some (b,p)->p % 2=0-> ∃k0,m k0=some (b,p)
 inj: ∀k k' b p p',m' k=some (b,p)->m' k'=some (b,p')->p % 2=0->p' % 2=0->k=k'
 own: ∀k bx b p,T.box k=some bx->bx.jN=false->m' k=some (b,p)->p % 2=0->φ.B b\/φ.w0.heap.size<=b
theorem View.sat{l:Map}{T:ASt}(f:View φ m a w l T)(hs:aG φ ν m st a w):aG φ ν0 l T a w:=by
 have u:di w (XA φ m) (XA φ l):=by
  rintro b q _ (h|⟨k,p,h1,h2⟩)
  ·exact .inl h
  ·obtain⟨j,h3⟩:=f.live _ _ _ h1 h2;exact .inr ⟨j,p,h3,h2⟩
 exact{
  tmps:=hs.tmps
  defers:=hs.defers
  slot:=λt g s _=>(f.slot t g s).2.mono (ux _ _) u (λ_ _ _ h=>h) _ _
  skip:=λt g s ht=>absurd (by rw[(f.slot t g s).1];intro x y;cases y) ht
  box:=λk bx z=>(f.box k bx z).eA (ux _ _) u (dz.refl _) λb p h _=>⟨h,rfl⟩
  inj:=f.inj
  low:=λk b p h i=>by obtain⟨j,h3⟩:=f.live _ _ _ h i;exact hs.low _ _ _ h3 i
  bK:=f.bK
  own:=f.own
  vn:=λk b p h i A=>by obtain⟨j,h3⟩:=f.live _ _ _ h i;exact hs.vn _ _ _ h3 i A
  dK:=λk b p h i=>by obtain⟨j,h3⟩:=f.live _ _ _ h i;exact hs.dK _ _ _ h3 i
  n0:=hs.n0
  fN:=hs.fN
  aN:=hs.aN
  dA:=hs.dA
  dW:=hs.dW
  x0:=hs.x0
  gA:=hs.gA}
theorem View.XAv{f:Map}{T:ASt}{body:Code}(i:View φ m a w f T):XA (inner φ m f T body a w) f=XA φ m:=by
 funext b q
 refine propext ⟨?_,λh=> ?_⟩
 ·rintro(h|⟨k,p,h1,h2⟩)
  ·exact h.1
  ·obtain⟨j,h3⟩:=i.live _ _ _ h1 h2;exact .inr ⟨j,p,h3,h2⟩
 ·by_cases g:Wr T f b
  ·obtain⟨k,bx,p,h1,h2,h3,h4⟩:=g;exact .inr ⟨k,p,h3,h4⟩
  ·exact .inl ⟨h,g⟩
theorem View.sub{f:Map}{T:ASt}(g:View φ m a w f T){b:Nat}(h:Wr T f b)(q:Nat):XA φ m b q:=by
 obtain⟨k,bx,p,h1,h2,h3,h4⟩:=h;obtain⟨i,h5⟩:=g.live _ _ _ h3 h4;exact .inr ⟨i,p,h5,h4⟩
theorem View.ati{j:Map}{T:ASt}{body:Code}(f:View φ m a w j T)(hs:aG φ ν m st a w):aG (inner φ m j T body a w) ν0 j T a w where
 tmps:=hs.tmps
 defers:=rfl
 slot:=λt g l _=>by rw[f.XAv];exact(f.slot t g l).2
 skip:=λt g l ht=>absurd (by rw[(f.slot t g l).1];intro x u;cases u) ht
 box:=λk bx y=>by rw[f.XAv];exact f.box k bx y
 inj:=f.inj
 low:=λk b p h i=>by obtain⟨s,h3⟩:=f.live _ _ _ h i;exact hs.low _ _ _ h3 i
 bK:=f.bK
 own:=λk bx b p h1 h2 h3 h4=> .inl ⟨k,bx,p,h1,h2,h3,h4⟩
 vn:=λk b p h i z=>by obtain⟨s,h3⟩:=f.live _ _ _ h i;exact hs.vn _ _ _ h3 i z
 dK:=λk b p h i=>by obtain⟨s,h3⟩:=f.live _ _ _ h i;exact hs.dK _ _ _ h3 i
 n0:=auq hs.n0 hs.aN.2.2.2
 fN:=hs.fN
 aN:=⟨rfl,rfl,rfl,au2 _⟩
 dA:=λb _ _=>rfl
 dW:=λb _=>⟨rfl,λ_=>rfl⟩
 x0:=λb q h=>⟨qe hs h.1,h.2,qw hs h.1⟩
 gA:=λt _=>rfl
def aqu(m:Map)(f:List Nat)(vm:Map):Map:=λk=>if k∈f then m k else vm k
theorem Pk{f:Type}{s:LS f}(h:tm s=true):nodup (vnames s.aM)=true/\ ∀k∈vnames s.aM,k∉firsts s.xb++firsts s.kb:=by
 obtain⟨h1,h2⟩:=aF h;refine⟨h1,λk g i=> ?_⟩;have h3:=fX (jQ h2 k g);rw[bI]at h3;rw[cN.2 i]at h3;cases h3
theorem PT{e0:Type}{s:LS e0}(hs:aG φ ν m st a w){b6 kc Z xc:List Cell}{N:s.K.den}{A:s.X.den}
  (i:qI (rdS st s.ks) (rdB st s.kb)=some b6) (U:qI (rdS st s.xs) (rdW st s.xb)=some Z) {ds:List Nat} (a4:Ae s st ds=true) (hN:tm s=true)
  (e2:gh true st b6=some kc) (e3:unvX st s.aM 0 Z=some xc) (e4:nodup (keysX s.aM 0 Z)=true) (e5:dec s.K kc=some N) (b9:dec s.X xc=some A):
  Fit s.K N/\Fit s.X A/\ ∃l,View φ m a w l (cW s (enc s.K N) (enc s.X A))/\(∀k∈firsts s.xb,l k=m k)/\
   (∀k∈vnames s.aM,∀b p,l k=some (b,p)->p % 2=0-> ∃I∈keysX s.aM 0 Z,m I=some (b,p)/\0<p)/\(∀k∈firsts s.xb,∃ds,st.box k=some (.cells ds)):=by
 obtain⟨a4,e6⟩:=aF a4;have hP:=rL a4;have e8:=HB e6;obtain⟨e9,a5⟩:=Pk hN;obtain⟨j0,j1,f0,f1,rfl⟩:=Hn i;obtain⟨j2,j3,f2,f3,rfl⟩:=Hn U;obtain⟨f4,a6,f5⟩:=Du hs f0;obtain⟨a7,a9,f6,j4⟩:=US hs f1;obtain⟨f7,b0,f8⟩:=Du hs f2;obtain⟨b3,f9,g0,a1⟩:=nz hs f3;have g1:Xc φ m []=XA φ m:=by grind [Xc]
 have c0:=qa hs e2 (aj.append f5 f6) (ks:= []) (λh=>by cases h);rw[g1]at c0;have c9:=gZ e5 c0;obtain⟨b4,g2⟩:=yU b9;obtain⟨⟨vm,O⟩,g3⟩:=TS hs e9 e3 g2 e4 (aj.append f8 g0);have g4:=gZ b9 g3;let J:=firsts s.xb++firsts s.kb
 let l:=aqu m J vm
 have M: ∀k,k∈J->l k=m k:=λk i=>by show(if k∈J then m k else vm k)=_;simp_all
 have S: ∀k,k∉J->l k=vm k:=λk i=>by show(if k∈J then m k else vm k)=_;simp_all
 have g5: ∀k,vm k≠none->k∈vnames s.aM:=λk i=>by
  cases hq:vm k with
  |none=>exact absurd hq i
  |some r=>obtain⟨j,o,T,_,h⟩:=O.from_ k r hq;exact uh h
 have g6: ∀k,vm k≠none->l k=vm k:=λk i=>S k (a5 k (g5 k i))
 refine⟨lz c9,lz g4,l,?_,λk i=>M k (List.mem_append.2 (.inl i)),λk i b p h1 h2=> ?_,a1⟩
 ·have d0:aE l (XA φ m) w (enc s.K N) (f4++a7):=ja c9
  have d5:aE l (XA φ m) w (vxC s.aM 0 (enc s.X A)) (f7++b3):=by rw[b4];exact O.cells l g6
  have g7:cZ l w s.kb a7:=a9.re λk i=>M k (List.mem_append.2 (.inr i))
  have g8:cZ l w s.xb b3:=f9.re λk i=>M k (List.mem_append.2 (.inl i))
  have g9:aE l (XA φ m) w ((enc s.K N).drop (shLen s.ks)) (a7++ []):=by
   have:=aj.drop (shLen s.ks) d0;rw[<- a6.len,azn]at this;rw[<- a6.len];simpa[aE]using this
  have i3:aE l (XA φ m) w ((vxC s.aM 0 (enc s.X A)).drop (shLen s.xs)) (b3++ []):=by
   have:=aj.drop (shLen s.xs) d5;rw[<- b0.len,azn]at this;rw[<- b0.len];simpa[aE]using this
  have d6: ∀k bx,(cW s (enc s.K N) (enc s.X A)).box k=some bx->(k∈J/\ ∃cs',(bx= .cells cs'\/bx= .ro cs')/\(∃b us T,l k=some (b,0)/\w.heap[b]? =some (.cells us T (0,0))/\aE l (XA φ m) w cs' us.toList)/\
    (bx.jN=false->k∈firsts s.xb))\/(k∉J/\vxB s.aM 0 (enc s.X A) k=some bx):=by
   intro k bx h;rcases iJ h with h|⟨_,h⟩
   ·obtain⟨cs',h1,h2,_,h4⟩:=Hb (ns:= []) g8 i3 h
    exact .inl ⟨List.mem_append.2 (.inl h4),cs',.inl h1,h2,λ_=>h4⟩
   ·rcases iJ h with h|⟨_,h⟩
    ·obtain⟨cs',h1,h2,_,h4⟩:=Hb (ns:= []) g7 g9 h
     exact .inl ⟨List.mem_append.2 (.inr h4),cs',.inr h1,h2,λhh=>by rw[h1]at hh;cases hh⟩
    ·exact .inr ⟨a5 k (jR h).1,h⟩
  exact{
   slot:=by
    intro t g h;rcases iJ h with h|⟨_,h⟩
    ·obtain⟨k,h1,rfl⟩:=xw h
     obtain⟨h2,h3,h4,h5⟩:=hP t k h1;have h6:=hs.slot t _ h2 (λx U=>by cases U);obtain⟨b,h7,L⟩:=h6;rw[bI]at h5;exact⟨rfl,b,(M k h5).trans h7,L⟩
    rcases iJ h with h|⟨_,h⟩
    ·obtain⟨f,ks,h1,rfl⟩:=Be h
     obtain⟨h2,h3,h4,h5⟩:=e8 t f ks h1;obtain⟨us,h6,h7⟩:=hs.slot t _ h2 (λx U=>by cases U);refine⟨rfl,us,h6,?_⟩;have key: ∀(ks:List Nat) (us:List Value),(∀k∈ks,k∈J)->aj (λk u=> ∃b,m k=some (b,0)/\u=Value.pointer (some ⟨b,0,none⟩)) ks us->aj (λk u=> ∃b,l k=some (b,0)/\u=Value.pointer (some ⟨b,0,none⟩)) ks us:=by
      intro ks;induction ks with
      |nil=>intro us _ h;cases us with|nil=>trivial|cons=>exact h.elim
      |cons k ks ih=>
       intro us i h;cases us with
       |nil=>exact h.elim
       |cons u us=>obtain⟨⟨b,L,z⟩,i5⟩:=h;exact⟨⟨b,(M k (i k (by simp))).trans L,z⟩,ih us (λj hj=>i j (by simp[hj])) i5⟩
     exact key _ _ (λk i=>by have:=h5 k i;rwa [bI]at this) h7
    ·rcases iJ h with h|⟨_,h⟩
     ·obtain⟨h1,h2,_⟩:=Bp (ns:= []) b0 d5 h;exact⟨h1,h2⟩
     ·obtain⟨h1,h2,_⟩:=Bp (ns:= []) a6 d0 h;exact⟨h1,h2⟩
   box:=by
    intro k bx i;rcases d6 k bx i with⟨_,cs',h1,h2,_⟩|⟨h1,h2⟩
    ·rcases h1 with rfl|rfl
     ·exact h2
     ·exact h2
    ·rw[b4]at h2
     exact(O.box k bx h2).2 l (S k h1)
   bK:=by
    intro k i;by_cases V:k∈J
    ·exfalso
     rcases List.mem_append.1 V with h|h
     ·obtain⟨bx,hb⟩:=xq h
      have:(cW s (enc s.K N) (enc s.X A)).box k=some bx:=by show ep _ _=_;rw[hb];rfl
      rw[this]at i;cases i
     ·obtain⟨bx,hb⟩:=xq h
      have h2:ep (boxesOf .cells s.xb ((vxC s.aM 0 (enc s.X A)).drop (shLen s.xs)) k) (ep (boxesOf .ro s.kb ((enc s.K N).drop (shLen s.ks)) k) (vxB s.aM 0 (enc s.X A) k))=none:=i;rw[hb]at h2;cases hq:boxesOf .cells s.xb ((vxC s.aM 0 (enc s.X A)).drop (shLen s.xs)) k with
      |none=>rw[hq]at h2;cases h2
      |some y=>rw[hq]at h2;cases h2
    ·rw[S k V]
     refine O.bK k ?_;rw[<- b4];cases hq:vxB s.aM 0 (enc s.X A) k with
     |none=>rfl
     |some bx=>
      have h2:ep (boxesOf .cells s.xb ((vxC s.aM 0 (enc s.X A)).drop (shLen s.xs)) k) (ep (boxesOf .ro s.kb ((enc s.K N).drop (shLen s.ks)) k) (vxB s.aM 0 (enc s.X A) k))=none:=i;rw[hq]at h2;cases hq1:boxesOf .cells s.xb ((vxC s.aM 0 (enc s.X A)).drop (shLen s.xs)) k with
      |some y=>rw[hq1]at h2;cases h2
      |none=>
       rw[hq1]at h2;cases hq2:boxesOf .ro s.kb ((enc s.K N).drop (shLen s.ks)) k with
       |some y=>rw[hq2]at h2;cases h2
       |none=>rw[hq2]at h2;cases h2
   live:=by
    intro k b p h1 h2;by_cases V:k∈J
    ·exact⟨k,by rw[<- M k V];exact h1⟩
    ·rw[S k V]at h1
     obtain⟨I,_,h3,_⟩:=O.live k b p h1 h2;exact⟨I,h3⟩
   inj:=by
    intro k k' b p p' h1 h2 h3 h4;by_cases i:k∈J<;>by_cases Y:k'∈J
    ·rw[M k i]at h1;rw[M k' Y]at h2;exact hs.inj _ _ _ _ _ h1 h2 h3 h4
    ·rw[M k i]at h1;rw[S k' Y]at h2
     obtain⟨I,h5,h6,h7⟩:=O.live k' b p' h2 h4;have:=hs.inj _ _ _ _ _ h1 h6 h3 h4;subst this;rw[h1]at h6;cases h6;rcases List.mem_append.1 i with L|L
     ·obtain⟨d9,hd⟩:=a1 k L
      obtain⟨b2,_,_,z,_⟩:=hs.box k _ hd;rw[h1]at z;cases z;omega
     ·obtain⟨b2,z⟩:=a9.mem L
      rw[h1]at z;cases z;omega
    ·rw[S k i]at h1;rw[M k' Y]at h2
     obtain⟨I,h5,h6,h7⟩:=O.live k b p h1 h3;have:=hs.inj _ _ _ _ _ h2 h6 h4 h3;subst this;rw[h2]at h6;cases h6;rcases List.mem_append.1 Y with L|L
     ·obtain⟨d9,hd⟩:=a1 k' L
      obtain⟨b2,_,_,z,_⟩:=hs.box k' _ hd;rw[h2]at z;cases z;omega
     ·obtain⟨b2,z⟩:=a9.mem L
      rw[h2]at z;cases z;omega
    ·rw[S k i]at h1;rw[S k' Y]at h2;exact O.inj _ _ _ _ _ h1 h2 h3 h4
   own:=by
    intro k bx b p h1 h2 h3 h4;rcases d6 k bx h1 with⟨h5,cs',_,_,h6⟩|⟨h5,h6⟩
    ·obtain⟨d9,i9⟩:=a1 k (h6 h2)
     rw[M k h5]at h3;exact hs.own k _ b p i9 rfl h3 h4
    ·rw[S k h5]at h3
     obtain⟨I,_,h7,L⟩:=O.live k b p h3 h4;cases hb0:st.box I with
     |none=>rw[hs.bK I hb0]at h7;cases h7
     |some bx0=>
      refine hs.own I bx0 b p hb0 ?_ h7 h4;cases bx0 with
      |ro cs=>
       obtain⟨b2,_,_,z,_⟩:=hs.box I _ hb0;rw[h7]at z;cases z;omega
      |_=>rfl}
 ·rw[S k (a5 k i)]at h1
  obtain⟨I,h3,h4,h5⟩:=O.live k b p h1 h2;exact⟨I,h3,h4,h5⟩
theorem Ba{ns:List Nat}{t:Nat}{g:GS}: ∀{l:List (Nat×Option Nat)} {cs:List Cell},(∀c∈cs,c.free ns=true)->slotsOf l cs t=some g->t∈firsts l/\g.tags= []/\Kf ns g.tv
 | [],cs,_,h=>by cases h
 |(u,none)::r,[],j,h=>by
  have:=Ba (ns:=ns) (l:=r) (λc f=>by cases f) h;exact⟨by simp[firsts,this.1],this.2⟩
 |(u,none)::r,c::cs,j,h=>by
  simp only[slotsOf]at h;by_cases i:t=u
  ·rw[bV i]at h;cases h;exact⟨by simp[firsts,i],rfl,j c (by simp)⟩
  ·rw[bL i]at h
   have:=Ba (λc f=>j c (by simp[f])) h;exact⟨by simp[firsts,this.1],this.2⟩
 |(u,some n)::r,cs,j,h=>by
  simp only[slotsOf]at h;by_cases i:t=u
  ·rw[bV i]at h;cases h;exact⟨by simp[firsts,i],rfl,λc f=>j c (awg f)⟩
  ·rw[bL i]at h
   have:=Ba (λc f=>j c (awx f)) h;exact⟨by simp[firsts,this.1],this.2⟩
theorem NV{ns:List Nat}{k:Nat}{cs':List Cell}: ∀{l:List (aR)} {cs:List Cell},(∀c∈cs,c.free ns=true)->boxesOf .cells l cs k=some (.cells cs')-> ∀c∈cs',c.free ns=true
 | [],cs,_,h=>by cases h
 |p::r,cs,g,h=>by
  simp only[boxesOf]at h;by_cases f:k=p.1
  ·rw[bV f]at h;grind
  ·rw[bL f]at h;exact NV (λc i=>g c (awx i)) h
theorem aeX{g1:Type}{s:LS g1}{body:Code}{J L:Map}{a':Act}{M:List Cell}{T:ASt}{Y:List Cell}(hs:aG φ ν m st a w)(e3:Plain st){y:s.X.den}(hv:View φ m a w J T)
  (g2: ∀k bx,T.box k=some bx->bx.jN=false->k∈firsts s.xb\/k∈vnames s.aM) (g3: ∀k∈firsts s.xb,J k=m k)
  (g4: ∀k∈vnames s.aM,∀b p,J k=some (b,p)->p % 2=0-> ∃k0∈keysX s.aM 0 Y,m k0=some (b,p)/\0<p) (e4: ∀k∈firsts s.xb,∃ds,st.box k=some (.cells ds))
  (k2: ∀k∈firsts s.xb,∃bx,T.box k=some bx/\bx.jN=false) (e5: ∀k∈keysX s.aM 0 Y,∀b p,m k=some (b,p)->0<p)
  (g5: ∀k∈keysX s.aM 0 Y,st.box k≠none)
  (hc:acf s st (dsts body)=true) (hN:tm s=true) (hD: ∀d∈dsts body,φ.D d=true)
  (hi:aG (inner φ m J T body a w) ν0 L (cW s M (enc s.X y)) a' w'):
  Sat φ ν0 (after s (dsts body) (keysX s.aM 0 Y) st (enc s.X y)) a' w'/\Plain (after s (dsts body) (keysX s.aM 0 Y) st (enc s.X y)):=by
 obtain⟨b9,c0⟩:=aF hc;obtain⟨c0,e6⟩:=aF c0;obtain⟨e6,k3⟩:=aF e6;obtain⟨b9,g8⟩:=aF b9;have hP:=rL b9;have g9:=HB g8;obtain⟨k4,U⟩:=Pk hN;let ns:=vnames s.aM
 let u:=keysX s.aM 0 Y
 have e7: ∀c∈vxC s.aM 0 (enc s.X y),c.free ns=true:=B8 (λk j=>j) (Ia ns s.X y)
 have d0: ∀k∈ns,st.box k=none:=by
  grind [jQ]
 have i3: ∀k∈ns,m k=none:=λk j=>hs.bK k (d0 k j)
 have k5: ∀k∈u,k∉ns:=λk j i=>g5 k j (d0 k i)
 have d5: ∀k∈firsts s.xb,L k=m k:=by
  intro k j;obtain⟨t,ht⟩:=Oc (cN.1 (jQ c0 k j));obtain⟨h1,h2,h3,h4⟩:=hP t k ht;obtain⟨b,h5,h6⟩:=hs.slot t _ h1 (λx A=>by cases A);obtain⟨g,N⟩:=PE ht;obtain⟨k',h7,rfl⟩:=xw N;have:(cW s M (enc s.X y)).slot t=some ⟨[],.v (.one (.box k' 0))⟩:=by show ep _ _=_;rw[N];rfl
  obtain⟨b',O,h9⟩:=hi.slot t _ this (λx A=>by cases A);have e8:=(hP t k' h7).1;rw[h1]at e8;cases e8;have e9:a'.tmps.getD t undef=a.tmps.getD t undef:=hi.gA t (by
   show mem t (dsts body)=false;cases hm:mem t (dsts body)with
   |true=>exact absurd (cN.1 hm) h2
   |false=>rfl)
  rw[h6,h9]at e9;cases e9;rw[h5,O]
 let a3:Nat->Nat:=λp=>if p % 2=0 then p+1 else p
 let I:Map:=λk=>if k∈ns then L k else if k∈u then(m k).map (λx=>(x.1,a3 x.2))else m k
 have Z: ∀k∈ns,I k=L k:=λk j=>by show(if k∈ns then _ else _)=_;rw[ava j]
 have f0: ∀k,k∉ns->k∈u->I k=(m k).map (λx=>(x.1,a3 x.2)):=λk h1 h2=>by show(if k∈ns then _ else if k∈u then _ else _)=_;rw[au6 h1,ava h2]
 have V: ∀k,k∉ns->k∉u->I k=m k:=λk h1 h2=>by show(if k∈ns then _ else if k∈u then _ else _)=_;rw[au6 h1,au6 h2]
 have d6: ∀k,k∉ns->k∈u-> ∀b p,I k=some (b,p)->p % 2=1:=by
  intro k h1 h2 b p h3;rw[f0 k h1 h2,av6]at h3;obtain⟨x,_,h4⟩:=h3;cases h4;simp only[a3];split<;>omega
 have f1:dz m I:=by
  intro k b p j;have h1:k∉ns:=λh=>by rw[i3 k h]at j;cases j
  by_cases h2:k∈u
  ·refine⟨a3 p,by rw[f0 k h1 h2,j];rfl,?_⟩
   have:=e5 k h2 b p j;simp only[a3];split
   ·exact .inr ⟨by assumption,this,rfl⟩
   ·exact .inl rfl
  ·exact⟨p,by rw[V k h1 h2];exact j,.inl rfl⟩
 have i5: ∀b,Wr T J b-> ∃k p,m k=some (b,p)/\p % 2=0/\(k∈firsts s.xb\/k∈u):=by
  rintro b ⟨k,bx,p,h1,h2,h3,h4⟩
  rcases g2 k bx h1 h2 with h5|h5
  ·exact⟨k,p,by rw[<- g3 k h5];exact h3,h4,.inl h5⟩
  ·obtain⟨k0,h6,h7,_⟩:=g4 k h5 b p h3 h4
   exact⟨k0,p,h7,h4,.inr h6⟩
 have d7: ∀b,Wr T J b->φ.B b\/φ.w0.heap.size<=b:=by
  intro b hb;obtain⟨k,bx,p,h1,h2,h3,h4⟩:=hb;exact hv.own k bx b p h1 h2 h3 h4
 have d9: ∀k b p,m k=some (b,p)->p % 2=0->k∉firsts s.xb->k∉u-> ¬ Wr T J b:=by
  intro k b p h1 h2 h3 h4 hw;obtain⟨k',S,h5,h6,h7⟩:=i5 b hw;have:=hs.inj _ _ _ _ _ h1 h5 h2 h6;subst this;exact h7.elim h3 h4
 have i6: ∀b q,φ.X0 b q-> ¬ Wr T J b:=by
  intro b q h1 h2;obtain⟨h3,h4,_⟩:=hs.x0 _ _ h1;rcases d7 b h2 with h5|h5
  ·exact h4 h5
  ·omega
 have a4:di w' (XA (inner φ m J T body a w) L) (XA φ I):=by
  rintro b q _ (h|⟨k,p,h1,h2⟩)
  ·exact .inl ⟨.inl h,i6 b q h⟩
  ·by_cases i:k∈ns
   ·rw[Z k i]at h1;exact .inr ⟨k,p,h1,h2⟩
   ·by_cases j:k∈u
    ·have:=d6 k i j b p h1;omega
    ·rw[V k i j]at h1
     by_cases A:k∈firsts s.xb
     ·exact .inr ⟨k,p,by rw[d5 k A];exact h1,h2⟩
     ·exact .inl ⟨.inr ⟨k,p,h1,h2⟩,d9 k b p h1 h2 A j⟩
 have f2:di w (XA φ m) (XA φ I):=by
  rintro b q k7 (h|⟨k,p,h1,h2⟩)
  ·exact .inl h
  ·by_cases i:k∈ns
   ·rw[Z k i]at h1
    have a9: ∃bx,(cW s M (enc s.X y)).box k=some bx:=by
     cases hq:(cW s M (enc s.X y)).box k with
     |some bx=>exact⟨bx,rfl⟩
     |none=>rw[hi.bK k hq]at h1;cases h1
    obtain⟨bx,a9⟩:=a9;have i7:bx.jN=false:=by
     rcases iJ a9 with h3|⟨_,h3⟩
     ·exact absurd (List.mem_append.2 (.inl (lf h3).1)) (U k i)
     ·rcases iJ h3 with h4|⟨_,h4⟩
      ·exact absurd (List.mem_append.2 (.inr (lf h4).1)) (U k i)
      ·obtain⟨_,o,T',t,l,rfl⟩:=jR h4;rfl
    rcases hi.own k bx b p a9 i7 h1 h2 with h3|h3
    ·exact hv.sub h3 q
    ·have h3:w.heap.size<=b:=h3
     omega
   ·by_cases j:k∈u
    ·have:=d6 k i j b p h1;omega
    ·rw[V k i j]at h1;exact .inr ⟨k,p,h1,h2⟩
 have a5:dG (XA (inner φ m J T body a w) L) w' w':=ux _ _;have f3:dG (XA φ m) w w':=by
  refine⟨hi.aN.2.2.2,λb p hb A=> ?_,λb hb=>(hi.dW b hb).1,λb p hb=>(hi.dW b hb).2 p⟩;have:=hi.dA b hb (λhB=>A (hv.sub hB p));unfold World.cell?;simp only;rw[this];rfl
 have f4: ∀k∈ns,I k=L k:=Z
 have e1: ∀t g,(after s (dsts body) u st (enc s.X y)).slot t=some g->g.tags= []/\VR I (XA φ I) w' g.tv (a'.tmps.getD t undef):=by
  intro t g N;rcases iJ N with h|⟨_,h⟩
  ·have z:=Ba e7 h
   have i9:ptrsOf s.bu t=none:=by
    cases hq:ptrsOf s.bu t with
    |none=>rfl
    |some g'=>obtain⟨k,h1,_⟩:=xw hq;exact absurd z.1 (hP t k h1).2.2.1
   have j1:closOf s.bP t=none:=by
    cases hq:closOf s.bP t with
    |none=>rfl
    |some g'=>obtain⟨f,ks,h1,_⟩:=Be hq;exact absurd z.1 (g9 t f ks h1).2.2.1
   have:(cW s M (enc s.X y)).slot t=some g:=by show ep _ _=_;rw[i9];show ep _ _=_;rw[j1];show ep _ _=_;rw[h];rfl
   have h2:=hi.slot t g this (by rw[z.2.1];intro x A;cases A);exact⟨z.2.1,(VR.free f4 z.2.2 h2).mono a5 a4 (λ_ _ _ h=>h) _ _⟩
  ·by_cases hd:mem t (dsts body)=true
   ·rw[hd]at h;cases h
   ·have f6:mem t (dsts body)=false:=by cases hm:mem t (dsts body)with|true=>exact absurd hm hd|false=>rfl
    rw[f6]at h;have h:st.slot t=some g:=h;have h2:=hs.slot t g h (by rw[e3 t g h];intro x A;cases A);have h3:=hi.gA t f6;rw[h3];exact⟨e3 t g h,h2.eA f3 f2 f1 _ _⟩
 have f7: ∀k bx,k∈ns->vxB s.aM 0 (enc s.X y) k=some bx->(cW s M (enc s.X y)).box k=some bx:=by
  intro k bx i h;show ep _ (ep _ _)=_;have h1:boxesOf .cells s.xb ((vxC s.aM 0 (enc s.X y)).drop (shLen s.xs)) k=none:=by
   cases hq:boxesOf .cells s.xb ((vxC s.aM 0 (enc s.X y)).drop (shLen s.xs)) k with
   |none=>rfl
   |some b=>exact absurd (List.mem_append.2 (.inl (lf hq).1)) (U k i)
  have h2:boxesOf .ro s.kb (M.drop (shLen s.ks)) k=none:=by
   cases hq:boxesOf .ro s.kb (M.drop (shLen s.ks)) k with
   |none=>rfl
   |some b=>exact absurd (List.mem_append.2 (.inr (lf hq).1)) (U k i)
  rw[h1,h2,h];rfl
 have f8: ∀k,k∈ns->vxB s.aM 0 (enc s.X y) k=none->L k=none:=by
  intro k i h;refine hi.bK k ?_;show ep _ (ep _ _)=_;have h1:boxesOf .cells s.xb ((vxC s.aM 0 (enc s.X y)).drop (shLen s.xs)) k=none:=by
   cases hq:boxesOf .cells s.xb ((vxC s.aM 0 (enc s.X y)).drop (shLen s.xs)) k with
   |none=>rfl
   |some b=>exact absurd (List.mem_append.2 (.inl (lf hq).1)) (U k i)
  have h2:boxesOf .ro s.kb (M.drop (shLen s.ks)) k=none:=by
   cases hq:boxesOf .ro s.kb (M.drop (shLen s.ks)) k with
   |none=>rfl
   |some b=>exact absurd (List.mem_append.2 (.inr (lf hq).1)) (U k i)
  rw[h1,h2,h];rfl
 have j2: ∀k∈firsts s.xb,k∉ns:=λk j i=>U k i (List.mem_append.2 (.inl j))
 have j3: ∀k∈firsts s.xb,k∉u:=by
  intro k j a6;obtain⟨ds,e2⟩:=e4 k j;obtain⟨b,_,_,h1,_⟩:=hs.box k _ e2;have:=e5 k a6 b 0 h1;omega
 have a1: ∀k b p,I k=some (b,p)->p % 2=0->(k∈ns/\L k=some (b,p))\/(k∉ns/\k∉u/\m k=some (b,p)):=by
  intro k b p h1 h2;by_cases i:k∈ns
  ·exact .inl ⟨i,by rw[<- Z k i];exact h1⟩
  ·by_cases j:k∈u
   ·have:=d6 k i j b p h1;omega
   ·exact .inr ⟨i,j,by rw[<- V k i j];exact h1⟩
 have f9: ∀k b p,k∈ns->L k=some (b,p)->p % 2=0->Wr T J b\/w.heap.size<=b:=by
  intro k b p i h1 h2;cases hq:vxB s.aM 0 (enc s.X y) k with
  |none=>rw[f8 k i hq]at h1;cases h1
  |some bx=>
   obtain⟨_,o,T',t,l,rfl⟩:=jR hq;exact hi.own k _ b p (f7 k _ i hq) rfl h1 h2
 have g0: ∀k k' b p S,k∈ns->L k=some (b,p)->p % 2=0->k'∉ns->k'∉u->m k'=some (b,S)->S % 2=0->False:=by
  intro k k' b p S h1 h2 h3 h4 h5 h6 h7;by_cases A:k'∈firsts s.xb
  ·have:=hi.inj k k' b p S h2 (by rw[d5 k' A];exact h6) h3 h7
   exact h4 (this▸h1)
  ·rcases f9 k b p h1 h2 h3 with O|O
   ·exact d9 k' b S h6 h7 A h5 O
   ·have:=hs.low _ _ _ h6 h7;omega
 refine⟨⟨I,?_⟩,λt g N=>(e1 t g N).1⟩;exact{
  tmps:=hi.tmps
  defers:=hi.defers.trans hs.defers
  slot:=λt g N _=>(e1 t g N).2
  skip:=λt g N ht=>absurd (by rw[(e1 t g N).1];intro x A;cases A) ht
  box:=by
   intro k bx j;rcases iJ j with h|⟨i,h⟩
   ·obtain⟨z,cs',rfl⟩:=lf h
    have j4:=NV (λc hc=>e7 c (awx hc)) h;have h2:(cW s M (enc s.X y)).box k=some (.cells cs'):=by show ep _ _=_;rw[h];rfl
    obtain⟨b,us,T',h3,h4,h5⟩:=hi.box k _ h2;rw[d5 k z]at h3;exact⟨b,us,T',by rw[V k (j2 k z) (j3 k z)];exact h3,h4,(h5.imp (p:=λc=>c.free ns=true) (λa b hp=>CR.free f4 hp) j4).mono (CR.mono a5 a4 (λ_ _ _ h=>h))⟩
   ·have j6:k∉firsts s.xb:=λz=>by obtain⟨k8,hb⟩:=xq z;rw[hb]at i;cases i
    rcases iJ h with h|⟨l4,h⟩
    ·obtain⟨b2,o,T',t,l,rfl⟩:=jR h
     obtain⟨b,p,h3,h4⟩:=hi.box k _ (f7 k _ b2 h);refine⟨b,p,by rw[Z k b2];exact h3,?_⟩;rcases h4 with h4|⟨h4,h5⟩|⟨h4,h5,h6,T2,h7⟩
     ·exact .inl h4
     ·exact .inr (.inl ⟨h4,h5.mono a5 a4 rfl⟩)
     ·exact .inr (.inr ⟨h4,h5,h6.mono a5 a4 (TR.mono a5 a4 t),T2,h7⟩)
    ·by_cases a6:mem k u=true
     ·rw[a6]at h
      cases h;trivial
     ·have j8:mem k u=false:=by cases hq:mem k u with|true=>exact absurd hq a6|false=>rfl
      rw[j8]at h;have h:st.box k=some bx:=h;have b3:k∉u:=λz=>a6 (cN.2 z)
      have b2:k∉ns:=λz=>by rw[d0 k z]at h;cases h
      exact(hs.box k bx h).eA f3 f2 f1 λb p h1 h2=>⟨by rw[V k b2 b3];exact h1,hi.dA b (hs.low _ _ _ h1 h2) (d9 k b p h1 h2 j6 b3)⟩
  inj:=by
   intro k k' b p S h1 h2 h3 h4;rcases a1 k b p h1 h3 with⟨h5,h6⟩|⟨h5,a2,h6⟩<;>rcases a1 k' b S h2 h4 with⟨h7,O⟩|⟨h7,j9,O⟩
   ·exact hi.inj _ _ _ _ _ h6 O h3 h4
   ·exact(g0 k k' b p S h5 h6 h3 h7 j9 O h4).elim
   ·exact(g0 k' k b S p h7 O h4 h5 a2 h6 h3).elim
   ·exact hs.inj _ _ _ _ _ h6 O h3 h4
  low:=by
   intro k b p h1 h2;rcases a1 k b p h1 h2 with⟨h5,h6⟩|⟨h5,a2,h6⟩
   ·exact hi.low _ _ _ h6 h2
   ·exact au5 (hs.low _ _ _ h6 h2) hi.aN.2.2.2
  bK:=by
   intro k j;have h1:ep (boxesOf .cells s.xb ((vxC s.aM 0 (enc s.X y)).drop (shLen s.xs)) k) (ep (vxB s.aM 0 (enc s.X y) k) (cnd (mem k u) (some .tok) (st.box k)))=none:=j;cases hq1:boxesOf .cells s.xb ((vxC s.aM 0 (enc s.X y)).drop (shLen s.xs)) k with
   |some x=>rw[hq1]at h1;cases h1
   |none=>
    rw[hq1]at h1;cases hq2:vxB s.aM 0 (enc s.X y) k with
    |some x=>rw[hq2]at h1;cases h1
    |none=>
     rw[hq2]at h1;by_cases i:k∈ns
     ·rw[Z k i];exact f8 k i hq2
     ·cases hq3:mem k u with
      |true=>rw[hq3]at h1;cases h1
      |false=>
       rw[hq3]at h1;have b3:k∉u:=λz=>by rw[cN.2 z]at hq3;cases hq3
       rw[V k i b3];exact hs.bK k h1
  own:=by
   intro k bx b p h1 h2 h3 h4;rcases a1 k b p h3 h4 with⟨h5,h6⟩|⟨h5,a2,h6⟩
   ·rcases f9 k b p h5 h6 h4 with h7|h7
    ·exact d7 b h7
    ·exact .inr (auq hs.aN.2.2.2 h7)
   ·rcases iJ h1 with h|⟨i,h⟩
    ·obtain⟨z,_⟩:=lf h
     obtain⟨ds,e2⟩:=e4 k z;exact hs.own k _ b p e2 rfl h6 h4
    ·rcases iJ h with h|⟨_,h⟩
     ·exact absurd (jR h).1 h5
     ·cases hq3:mem k u with
      |true=>exact absurd (cN.1 hq3) a2
      |false=>rw[hq3]at h;exact hs.own k bx b p h h2 h6 h4
  vn:=by
   intro k b p h1 h2 h3;rcases a1 k b p h1 h2 with⟨h5,h6⟩|⟨h5,a2,h6⟩
   ·exact hi.vn _ _ _ h6 h2 h3
   ·exact hs.vn _ _ _ h6 h2 h3
  dK:=by
   intro k b p h1 h2;rcases a1 k b p h1 h2 with⟨h5,h6⟩|⟨h5,a2,h6⟩
   ·exact hi.dK _ _ _ h6 h2
   ·exact hs.dK _ _ _ h6 h2
  n0:=hs.n0
  fN:=hi.fN
  aN:=⟨hi.aN.1.trans hs.aN.1,hi.aN.2.1.trans hs.aN.2.1,hi.aN.2.2.1.trans hs.aN.2.2.1,auq hs.aN.2.2.2 hi.aN.2.2.2⟩
  dA:=λb h1 h2=>(hi.dA b (au5 h1 hs.aN.2.2.2) (λhB=>by
   rcases d7 b hB with h3|h3
   ·exact h2 h3
   ·omega)).trans (hs.dA b h1 h2)
  dW:=λb h1=>⟨(hi.dW b (au5 h1 hs.aN.2.2.2)).1.trans (hs.dW b h1).1,λp=>((hi.dW b (au5 h1 hs.aN.2.2.2)).2 p).trans ((hs.dW b h1).2 p)⟩
  x0:=hs.x0
  gA:=λt ht=>by
   have k1:mem t (dsts body)=false:=by
    cases hm:mem t (dsts body)with
    |true=>have:=hD t (cN.1 hm);rw[ht]at this;cases this
    |false=>rfl
   exact(hi.gA t k1).trans (hs.gA t ht)}
end
end
section
structure Sub (r s:ASt) (W V:List Nat):Prop where
 slot: ∀t g,r.slot t=some g->s.slot t=some g
 box: ∀b,r.box b=some .tok\/r.box b=s.box b
 mem: ∀t g,r.slot t=some g->mem t W=mem t V
section
variable {r s:ASt} {W V:List Nat} {own:List (bS)} {C:Ctx} {o:Oper}
theorem xG(h:Sub r s W V){ty:Option Ty}{x:Operand}{v:TV}(a:opnd r own ty x=some v):opnd s own ty x=some v:=by
 cases x with
 |tmp t=>
  simp only[opnd]at a⊢;split at a
  ·rename_i g f;rw[h.slot t g f];omega
  simp_all
 |_=>exact a
theorem oq(h:Sub r s W V){ty:Option Ty}{x:Operand}{v:SV}(a:opnd1 r own ty x=some v):opnd1 s own ty x=some v:=by
 grind [opnd1,xG]
theorem bJ(h:Sub r s W V){ty:Option Ty}{x:Operand}{v:Cell}(a:opndc r own ty x=some v):opndc s own ty x=some v:=by
 grind [opndc,xG]
theorem rC(h:Sub r s W V): ∀{f:List (Option Ty)} {xs:List Operand} {v:List SV},allSV r own f xs=some v->allSV s own f xs=some v
 |_,[],_,a=>a
 |f,x::xs,v,a=>by
  simp only[allSV]at a⊢;split at a
  ·rename_i h1 h2;rw[oq h h1,rC h h2];omega
  simp_all
theorem Bl(h:Sub r s W V){g:Nat->Option (aR)}: ∀{f:List (Nat×Operand)} {cs v:List Cell},fillP C r own g f cs=some v->fillP C s own g f cs=some v
 | [],_,_,a=>a
 |(i,x)::f,cs,v,a=>by
  simp only[fillP]at a⊢;split at a;case h_2=>omega
  split at a;case h_2=>cases a
  rename_i l m j hs;obtain⟨k,a⟩:=ba a;simp only[j,oq h hs];rw[k];exact Bl h a
theorem ew(h:Sub r s W V){k:Nat}{x:Option Bx}(a:r.box k=x)(f:x≠some .tok):s.box k=x:=by
 rcases h.box k with h1|h1
 all_goals simp_all
theorem Hf(h:Sub r s W V){k:Nat}{cs:List Cell}(a:rdBox r k=some cs):rdBox s k=some cs:=by
 unfold rdBox at a⊢;split at a
 ·rename_i h1;rw[ew h h1 (by simp)];omega
 ·rename_i h1;rw[ew h h1 (by simp)];omega
 simp_all
theorem xJ(h:Sub r s W V){fr:Bool}{c f:Cell}(a:unvC fr r c=some f):unvC fr s c=some f:=by
 cases c with
 |bq e k=>
  simp only[unvC]at a⊢;split at a
  ·rename_i h1;rw[ew h h1 (by simp)];omega
  ·rename_i h1;rw[ew h h1 (by simp)];omega
  simp_all
 |_=>exact a
theorem BG(h:Sub r s W V){fr:Bool}: ∀{cs cs':List Cell},gh fr r cs=some cs'->gh fr s cs=some cs'
 | [],cs',a=>a
 |c::cs,cs',a=>by
  simp only[gh]at a⊢;split at a;case h_2=>cases a
  rename_i h1 h2;rw[xJ h h1,BG h h2];omega
theorem agw(h:Sub r s W V){fr:Bool}{x y:SV}(a:unvS fr r x=some y):unvS fr s x=some y:=by
 cases x with
 |one c=>
  grind [unvS,xJ]
 |agg cs=>
  grind [unvS,BG]
theorem rA(h:Sub r s W V){fr:Bool}: ∀{xs ys:List SV},unvSs fr r xs=some ys->unvSs fr s xs=some ys
 | [],ys,a=>a
 |x::xs,ys,a=>by
  simp only[unvSs]at a⊢;split at a;case h_2=>cases a
  rename_i h1 h2;rw[agw h h1,rA h h2];omega
theorem Hl(h:Sub r s W V){el:Nat}{e:Ty}{c:Cell}{x:List e.den×Option Nat×Bool}(a:apSrc r el e c=some x):apSrc s el e c=some x:=by
 cases c with
 |bq f k=>
  simp only[apSrc]at a⊢;split at a
  ·rename_i h1;rw[ew h h1 (by simp)];omega
  simp_all
 |bh t tl l=>cases tl<;>exact a
 |_=>exact a
theorem Bj(h:Sub r s W V){e:Ty}{c:Cell}{x:List e.den}(a:apNew r e c=some x):apNew s e c=some x:=by
 cases c with
 |bq f k=>
  grind [apNew,xJ]
 |_=>exact a
theorem afu(h:Sub r s W V){x:Option Operand}{n:Int}(a:optI r own x=some n):optI s own x=some n:=by
 cases x with
 |none=>exact a
 |some x=>
  grind [optI,bJ]
theorem BC(h:Sub r s W V){x:Option Operand}{n0 n:Int}(a:lS r own x n0=some n):lS s own x n0=some n:=by
 cases x with
 |none=>exact a
 |some x=>
  grind [lS,bJ]
theorem Cb(h:Sub r s W V): ∀{l:List (aR)} {cs:List Cell},rdW r l=some cs->rdW s l=some cs
 | [],_,a=>a
 |(k,n)::l,cs,a=>by
  simp only[rdW]at a⊢;split at a;case h_2=>cases a
  rename_i h1 h2;simp only[ew h h1 (by simp),Cb h h2];omega
theorem B1(h:Sub r s W V): ∀{l:List (aR)} {cs:List Cell},kq r l=some cs->kq s l=some cs
 | [],_,a=>a
 |(k,n)::l,cs,a=>by
  simp only[kq]at a⊢;split at a;case h_2=>cases a
  rename_i h1 h2;simp only[Hf h h1,B1 h h2];omega
theorem OD(h:Sub r s W V){ks:List Nat}{b:Bool}(a:ej (allFz r ks) b=true):ej (allFz s ks) b=true:=by
 have key: ∀ks:List Nat,allFz r ks=true->allFz s ks=true:=by
  intro ks;induction ks with
  |nil=>intro _;rfl
  |cons k t f=>
   intro h1;simp only[allFz]at h1⊢;split at h1
   ·rename_i h2
    simp only[ew h h2 (by simp)];exact f h1
   ·cases h1
 rcases mh a with h1|h1
 ·rw[key ks h1];rfl
 ·rw[h1];cases allFz s ks<;>rfl
theorem G5(h:Sub r s W V){ks:List Nat}(a:allFz r ks=true):allFz s ks=true:=by
 have:=OD h (b:=false) (by rw[a];rfl);grind [mh]
theorem aeM(h:Sub r s W V){cp:Cp}{d:Nat}{xs:List SV}{e:Eff}(a:evPtr r cp d xs=some e):evPtr s cp d xs=some e:=by
 unfold evPtr at a⊢;split at a;case h_2=>cases a
 rename_i ks vs h1 h2;simp only[h1,rA h h2];split at a;case h_2=>cases a
 rename_i f vc h3 h4;have h3:cnd cp.ro (kq s (zipN ks cp.sz)) (rdW s (zipN ks cp.sz))=some f:=by
  cases hro:cp.ro with
  |true=>rw[hro]at h3;exact B1 h h3
  |false=>rw[hro]at h3;exact Cb h h3
 simp only[h3,h4];split at a;case h_2=>cases a
 rename_i h5;simp only[BG h h5];exact a
theorem ae5(h:Sub r s W V){cp:Cp}{xs:List SV}{e:Option Prop×Bool×List (Nat×Option Bx)}(a:mq r cp xs=some e):mq s cp xs=some e:=by
 unfold mq at a⊢;split at a;case h_2=>cases a
 rename_i ks vs h1 h2;simp only[h1,rA h h2];split at a;case h_2=>cases a
 rename_i f vc h3 h4;have h3:cnd cp.ro (kq s (zipN ks cp.sz)) (rdW s (zipN ks cp.sz))=some f:=by
  cases hro:cp.ro with
  |true=>rw[hro]at h3;exact B1 h h3
  |false=>rw[hro]at h3;exact Cb h h3
 simp only[h3,h4];split at a;case h_2=>cases a
 rename_i h5;simp only[BG h h5];exact a
theorem PQ(h:Sub r s W V){vs:List (cT)}: ∀{cs cs':List Cell} {i:Nat},unvX r vs i cs=some cs'->unvX s vs i cs=some cs'
 | [],cs',i,a=>a
 |c::cs,cs',i,a=>by
  simp only[unvX]at a⊢;split at a;case h_1=>cases a
  rename_i j f;simp only[PQ h f];cases hl:lookV vs i with
  |none=>
   grind [xJ]
  |some y=>
   rw[hl]at a;cases c with
   |bq e g=>
    simp only at a⊢;cases hb:r.box g with
    |none=>rw[hb]at a;cases a
    |some bx=>cases bx<;>first|(rw[hb]at a;cases a;done)|(rw[ew h hb (by simp)];rw[hb]at a;exact a)
   |bh t tl l=>grind
   |_=>omega
theorem QU(h:Sub r s W V){fl:Bool}{vs:List (cT)}: ∀{cs cs':List Cell} {i:Nat},mS r fl vs i cs=some cs'->mS s fl vs i cs=some cs'
 | [],cs',i,a=>a
 |c::cs,cs',i,a=>by
  simp only[mS]at a⊢;split at a;case h_1=>cases a
  rename_i g f;simp only[QU h f];cases hl:lookV vs i with
  |some y=>simp_all
  |none=>
   rw[hl]at a;cases fl with
   |false=>exact a
   |true=>
    grind [cnd,xJ]
theorem On(h:Sub r s W V): ∀{l:List Nat},noneL r l=true->noneL s l=true
 | [],_=>rfl
 |k::l,a=>by
  simp only[noneL]at a⊢;split at a
  ·rename_i hb;simp only[ew h hb (by simp)];exact On h a
  simp_all
theorem afK(h:Sub r s W V){cv:Cv}{d:Nat}{xs:List SV}{e:Eff}(a:evPv r cv d xs=some e):evPv s cv d xs=some e:=by
 unfold evPv at a⊢;split at a;case h_1=>cases a
 rename_i vs ks h1;try simp only[h1]
 split at a;case h_2=>cases a
 rename_i vc g h2 h3;have i:cnd cv.ro (kq s (zipN ks cv.sz)) (rdW s (zipN ks cv.sz))=some g:=by
  cases hro:cv.ro with
  |true=>rw[hro]at h3;exact B1 h h3
  |false=>rw[hro]at h3;exact Cb h h3
 simp only[h2,i];split at a;case h_2=>cases a
 rename_i A j;simp only[QU h j];split at a;case h_2=>cases a
 rename_i xc h4;simp only[PQ h h4];split at a;case h_2=>cases a
 rename_i x h5;try simp only[h5]
 split at a;case h_2=>cases a
 rename_i v h6;try simp only[h6]
 obtain⟨f,a⟩:=ba a;obtain⟨k,f⟩:=aF f;obtain⟨l,f⟩:=aF f;obtain⟨m,f⟩:=aF f;obtain⟨t,f⟩:=aF f;obtain⟨u,f⟩:=aF f;obtain⟨w,f⟩:=aF f;obtain⟨y,z⟩:=aF f;rw[k,l,m,t,u,On h w,y,z];exact a
theorem Q8(h:Sub r s W V){z:Zc}{d:Nat}{xs:List SV}{e:Eff}(a:evZ r z d xs=some e):evZ s z d xs=some e:=by
 cases z with
 |pv c=>exact afK h a
 |mk c=>
  simp only[evZ,evMk]at a⊢;split at a;case h_2=>cases a
  rename_i g h1 h2;simp only[rA h h1,ew h h2 (by simp)];split at a;case h_2=>cases a
  rename_i cs h3;try simp only[h3]
  split at a;case h_2=>cases a
  rename_i x h4;try simp only[h4]
  obtain⟨f,a⟩:=ba a;rw[G5 h f];exact a
 |pw c=>
  simp only[evZ,evPw]at a⊢;split at a;case h_2=>cases a
  rename_i k m;split at a;case h_2=>cases a
  rename_i t g h1 h2 h3;simp only[ew h h1 (by simp),rA h h2,ew h h3 (by simp)];split at a;case h_2=>cases a
  rename_i l j u cs h4 h5;simp only[Hl h h4,h5];split at a;case h_2=>cases a
  rename_i x h6;try simp only[h6]
  obtain⟨f,a⟩:=ba a;obtain⟨f,i⟩:=aF f;rw[G5 h f,i];exact a
theorem Oj(h:Sub r s W V){cp:Cp}{d:Nat}{xs:List SV}{e:Eff}(a:evPtrN r cp d xs=some e):evPtrN s cp d xs=some e:=by
 grind [evPtrN,aeM,ae5]
theorem HI(h:Sub r s W V){e:Eff}(j:evOp C own W r o=some e):evOp C own V s o=some e:=by
 cases hop:o.op with
 |move x=>
  simp only[evOp,hop]at j⊢;grind [xG]
 |assign x=>
  simp only[evOp,hop]at j⊢;grind [xG]
 |pick c x y=>
  simp only[evOp,hop]at j⊢;split at j;case h_2=>cases j
  rename_i cv ct h1 h2;have hm:=by
   cases c with
   |tmp t=>
    simp only[aup]at h2;subst h2;simp only[opndc,opnd]at h1;split at h1;case h_2=>cases h1
    rename_i s' a3;split at a3
    ·rename_i g S;exact h.mem t g S
    ·cases a3
   |_=>cases h2
  simp only[bJ h h1,h2];rw[<- hm];split at j;case h_2=>cases j
  rename_i h3 h4;simp only[bJ h h3,bJ h h4];exact j
 |alloc t=>
  simp only[evOp,hop]at j⊢;split at j;case h_2=>cases j
  rename_i d k h1 h2;split at j;case h_2=>cases j
  rename_i h3;simp only[h1,h2,ew h h3 (by simp)];exact j
 |box t x=>
  simp only[evOp,hop]at j⊢;split at j;case h_2=>cases j
  rename_i d k h1 h2;split at j;case h_2=>cases j
  rename_i h3;simp only[oq h h1,h2,ew h h3 (by simp)];exact j
 |build t ps=>
  simp only[evOp,hop]at j⊢;split at j;case h_2=>cases j
  rename_i d L;try simp only[L]
  split at j
  ·rename_i fs w
   try simp only[w]
   split at j
   ·rename_i h1;simp only[Bl h h1];exact j
   ·cases j
  ·rename_i e' w
   try simp only[w]
   split at j;case h_2=>cases j
   rename_i de a7;try simp only[a7]
   split at j
   ·rename_i h1;simp only[Bl h h1];exact j
   ·cases j
  ·cases j
 |buildSlice t n ps=>
  simp only[evOp,hop]at j⊢;split at j;case h_2=>cases j
  rename_i d L;try simp only[L]
  split at j;case h_2=>cases j
  rename_i el e' w U;try simp only[w,U]
  split at j;case h_2=>cases j
  rename_i h1;simp only[Bl h h1];split at j;case h_2=>cases j
  rename_i l de k h2 h3 h4;try simp only[h2,h3]
  cases hm:mem k C.bs with
  |false=>rw[hm]at j;exact j
  |true=>
   rw[hm]at j;simp only[cnd]at j⊢;split at j;case h_2=>cases j
   rename_i h5;simp only[ew h h5 (by simp)];exact j
 |load t x=>
  simp only[evOp,hop]at j⊢;split at j
  ·rename_i k off d h1 h2
   simp only[bJ h h1,h2];split at j;case h_2=>cases j
   rename_i h3;simp only[Hf h h3];exact j
  ·rename_i h1 h2
   simp only[bJ h h1,h2];exact j
  ·rename_i h1 h2
   simp only[bJ h h1,h2];split at j;case h_2=>cases j
   rename_i h3;simp only[Hf h h3];exact j
  ·rename_i h1 h2
   simp only[bJ h h1,h2];split at j;case h_2=>cases j
   rename_i h3;simp only[ew h h3 (by simp)];exact j
  ·cases j
 |store t x y=>
  simp only[evOp,hop]at j⊢;split at j;case h_4=>cases j
  all_goals
   rename_i h1 h2 h3;split at h1
   ·cases h1
   rename_i L;simp only[L,bJ h h1,h2,oq h h3];split at j;case h_2=>cases j
   rename_i h4;simp only[ew h h4 (by simp)];exact j
 |nilCheck x=>
  simp only[evOp,hop]at j⊢;split at j
  ·rename_i h1;simp only[bJ h h1];exact j
  ·rename_i h1;simp only[bJ h h1];exact j
  ·rename_i h1;simp only[bJ h h1];exact j
  ·rename_i h1;simp only[bJ h h1];exact j
  ·rename_i h1;simp only[bJ h h1];exact j
  ·rename_i h1;simp only[bJ h h1];exact j
  ·cases j
 |binOp op t x y yt=>
  simp only[evOp,hop]at j⊢;split at j
  ·rename_i h1 h2;simp only[oq h h1,oq h h2];exact j
  ·cases j
 |unOp op t x=>
  simp only[evOp,hop]at j⊢;split at j
  ·rename_i h1;simp only[bJ h h1];exact j
  ·rename_i h1;simp only[bJ h h1];exact j
  ·cases j
 |convert a b x=>
  simp only[evOp,hop]at j⊢;split at j
  ·rename_i h1 h2 h3;simp only[h1,h2,bJ h h3];exact j
  ·rename_i h1 h2 h3;simp only[h1,h2,bJ h h3];exact j
  ·rename_i h1 h2 h3
   simp only[h1,h2,bJ h h3];split at j
   ·rename_i h4 h5;simp only[h4,Bj h h5];exact j
   ·cases j
  ·rename_i h1 h2 h3
   simp only[h1,h2,bJ h h3];split at j;case h_2=>cases j
   rename_i h4 h5;try simp only[h4,h5]
   split at j;case h_2=>cases j
   rename_i h6 h7 u A;simp only[h6,ew h h7 (by simp),u,A];exact j
  ·cases j
 |fieldAddr t x f=>
  simp only[evOp,hop]at j⊢;split at j
  ·rename_i h1 h2;simp only[bJ h h1,h2];exact j
  ·rename_i h1 h2;simp only[bJ h h1,h2];exact j
  ·rename_i h1 h2;simp only[bJ h h1,h2];exact j
  ·cases j
 |field t x f=>
  simp only[evOp,hop]at j⊢;split at j
  ·rename_i h1 h2;simp only[oq h h1,h2];exact j
  ·cases j
 |indexAddr t x i=>
  by_cases Y: ∃g,x= .global g
  ·obtain⟨g,rfl⟩:=Y
   simp only[evOp,hop]at j⊢;split at j
   ·rename_i h1 h2 h3;simp only[h1,h2,bJ h h3];exact j
   ·cases j
  have Y:=λg S=>Y ⟨g,S⟩
  simp only[evOp,hop]at j⊢;split at j
  ·rename_i h1 h2 h3;simp only[h1,bJ h h2,bJ h h3];exact j
  ·rename_i h1 h2 h3;simp only[h1,bJ h h2,bJ h h3];exact j
  ·rename_i h1 h2 h3
   simp only[h1,bJ h h2,bJ h h3];split at j
   ·rename_i h4 h5 h6;simp only[h4,h5,ew h h6 (by simp)];exact j
   ·rename_i h4 h5 h6;simp only[h4,h5,ew h h6 (by simp)];exact j
   ·cases j
  ·cases j
 |makeSlice t x y=>
  simp only[evOp,hop]at j⊢;split at j;case h_2=>cases j
  rename_i h1 h2 h3 h4;simp only[h1,h2,bJ h h3,bJ h h4];split at j;case h_2=>cases j
  rename_i h5 h6 h7;simp only[h5,h6,ew h h7 (by simp)];exact j
 |slice t x lo hi mx=>
  simp only[evOp,hop]at j⊢;split at j;case h_2=>cases j
  rename_i h1 h2 h3;simp only[h1,bJ h h2,afu h h3];split at j
  ·rename_i h4 P
   try simp only[h4,P]
   split at j;case h_2=>cases j
   rename_i h5;simp only[BC h h5];exact j
  ·rename_i h4 P
   try simp only[h4,P]
   split at j
   ·rename_i h5
    simp only[ew h h5 (by simp)];split at j;case h_2=>cases j
    rename_i h6;simp only[BC h h6];exact j
   ·rename_i h5
    simp only[ew h h5 (by simp)];split at j;case h_2=>cases j
    rename_i h7 h6;simp only[BC h h6,h7];split at j;case h_2=>cases j
    rename_i u;simp only[ew h u (by simp)];exact j
   ·cases j
  ·rename_i h4
   try simp only[h4]
   exact j
  ·rename_i h4 P
   try simp only[h4,P]
   split at j;case h_2=>cases j
   rename_i h5 h7;simp only[h5,BC h h7];exact j
  ·cases j
 |index t x i=>
  simp only[evOp,hop]at j⊢;split at j
  ·rename_i h1 h2 h3;simp only[h1,oq h h2,bJ h h3];exact j
  ·rename_i h1 h2 h3;simp only[h1,oq h h2,bJ h h3];exact j
  ·cases j
 |makeFunc f first b7=>
  cases f with
  |func g=>
   simp only[evOp,hop]at j⊢;split at j;case h_2=>cases j
   rename_i h1 h2;simp only[h1,rC h h2];exact j
  |_=>simp only[evOp,hop]at j;cases j
 |extract x i=>
  simp only[evOp,hop]at j⊢;split at j
  ·rename_i h1;simp only[xG h h1];exact j
  ·cases j
 |call c=>
  simp only[evOp,hop]at j⊢;split at j
  ·rename_i f m
   try simp only[m]
   split at j
   ·rename_i xt Z
    try simp only[Z]
    split at j;case h_2=>cases j
    rename_i x I;try simp only[I]
    split at j;case h_2=>cases j
    rename_i h1;simp only[bJ h h1];exact j
   rename_i Z;try simp only[Z]
   split at j
   ·rename_i z Q
    try simp only[Q]
    split at j;case h_2=>cases j
    rename_i h1 h2;simp only[h1,rC h h2];exact Q8 h j
   rename_i Q;try simp only[Q]
   split at j
   ·rename_i cp a1
    try simp only[a1]
    split at j;case h_2=>cases j
    rename_i h1 h2;simp only[h1,rC h h2];exact Oj h j
   rename_i a1;try simp only[a1]
   split at j;case h_2=>cases j
   rename_i ct d h1 h2;try simp only[h1,h2]
   split at j;case h_2=>cases j
   rename_i h3;simp only[rC h h3];split at j;case h_2=>cases j
   rename_i h4;simp only[rA h h4];split at j;case h_2=>cases j
   rename_i h5;try simp only[h5]
   split at j;case h_2=>cases j
   rename_i h6;try simp only[h6]
   split at j
   ·rename_i h7;try simp only[h7]
    split at j;case h_2=>cases j
    rename_i u;obtain⟨m,b0⟩:=ba j;simp only[u,OD h m];exact b0
   ·rename_i T h7
    try simp only[h7]
    split at j;case h_2=>cases j
    rename_i u A J;simp only[u,A,ew h J (by simp)];obtain⟨m,j⟩:=ba j;rw[m];cases hB:Nat.ble lU T with
    |false=>rw[hB]at j;exact j
    |true=>
     rw[hB]at j;obtain⟨Q,j⟩:=ba j;rw[G5 h Q];exact j
  ·rename_i m
   try simp only[m]
   split at j
   ·rename_i h1 h2 h3
    simp only[bJ h h1,h2,rC h h3];split at j;case h_2=>cases j
    rename_i h4 h5;simp only[h4,rA h h5];exact j
   ·rename_i h1 h2 h3
    simp only[bJ h h1,h2,rC h h3];split at j
    ·rename_i h4
     try simp only[h4]
     exact Q8 h j
    rename_i h4;try simp only[h4]
    split at j;case h_2=>cases j
    rename_i h4;try simp only[h4]
    exact Oj h j
   ·cases j
  ·rename_i m
   try simp only[m]
   split at j;case h_2=>cases j
   rename_i h1 h2 h3;try simp only[h1,h2,h3]
   split at j;case h_2=>cases j
   rename_i h4 h5 h6 h7 u;simp only[h4,h5,ew h h6 (by simp),bJ h h7,bJ h u];split at j;case h_3=>cases j
   case h_2=>
    rename_i A J M;try simp only[A,J,M]
    split at j;case h_2=>cases j
    rename_i N a2 O;simp only[N,Hl h a2,O];exact j
   rename_i A J M;try simp only[A,J,M]
   split at j;case h_2=>cases j
   rename_i N a2 O;simp only[N,Hl h a2,Bj h O];exact j
  ·rename_i m
   try simp only[m]
   split at j;case h_2=>cases j
   rename_i h1 h2 h3;try simp only[h1,h2,h3]
   split at j;case h_3=>cases j
   case h_2=>
    rename_i h4 h5 h7 u;simp only[h4,h5,bJ h h7,bJ h u];split at j;case h_2=>cases j
    rename_i A J M;try simp only[A,J,ew h M (by simp)]
    split at j;case h_2=>cases j
    rename_i N O b2;simp only[N,Bj h O,b2];exact j
   rename_i h4 h5 h7 u;simp only[h4,h5,bJ h h7,bJ h u];split at j;case h_2=>cases j
   rename_i A J M;try simp only[A,J,ew h M (by simp)]
   split at j;case h_2=>cases j
   rename_i N O;simp only[N,Bj h O];exact j
  ·rename_i m
   try simp only[m]
   split at j;case h_2=>cases j
   rename_i x ty tl I ht;try simp only[I,ht]
   split at j;case h_2=>cases j
   rename_i d L;try simp only[L]
   split at j
   ·rename_i w h1;rw[bJ h h1];simp only[w];exact j
   ·rename_i w h1
    rw[bJ h h1];simp only[w];split at j
    ·rename_i h2;simp only[ew h h2 (by simp)];exact j
    ·rename_i h2;simp only[ew h h2 (by simp)];exact j
    ·cases j
   ·rename_i w ha U h1;rw[bJ h h1];simp only[w,ha,U];exact j
   ·cases j
  ·rename_i m
   try simp only[m]
   split at j
   ·rename_i x y I
    try simp only[I]
    split at j;case h_2=>cases j
    rename_i h1 h2;simp only[bJ h h1,bJ h h2];exact j
   ·rename_i x y z I
    try simp only[I]
    split at j;case h_2=>cases j
    rename_i h1 h2 h3;simp only[bJ h h1,bJ h h2,bJ h h3];exact j
   ·cases j
  ·rename_i m
   try simp only[m]
   split at j
   ·rename_i x y I
    try simp only[I]
    split at j;case h_2=>cases j
    rename_i h1 h2;simp only[bJ h h1,bJ h h2];exact j
   ·rename_i x y z I
    try simp only[I]
    split at j;case h_2=>cases j
    rename_i h1 h2 h3;simp only[bJ h h1,bJ h h2,bJ h h3];exact j
   ·cases j
  ·cases j
 |_=>simp only[evOp,hop]at j;cases j
theorem OB(h:Sub r s W V){f:List Oper}{own:List (bS)}(a:ownOf f W r o=some own):ownOf f V s o=some own:=by
 unfold ownOf at a⊢;split at a
 ·omega
 ·split at a
  case h_2=>cases a
  split at a;case h_2=>cases a
  rename_i g c hs;simp only[h.slot _ _ hs,<- h.mem _ _ hs];exact a
end
end
section
section
variable {φ:Fr} {ν ν':Nat->Bool} {m:Map} {st:ASt} {a:Act} {w w':World} {own:List (bS)} {W:List Nat} {P:Program} {C:Ctx} {o:Oper} {e:Eff}
 {K:Act->World->Prop} {Q:Exit->Act->World->Prop}
theorem step_ok(hC:dr P C)(a5:mz C.G φ)(s:List Oper)(T: ∀d,o.dst=some d->d<φ.n/\φ.D d=true){k:Nat}(a6:s[k]? =some o)
  (aQ:ownOf s W st o=some own) (he:evOp C own W st o=some e) (U:dstOk e.dst o.dst=true) (a9:nott (andd (me o) (match e.eT with| []=>false|_=>true))=true)
  (b0: ∀d,o.dst=some d->d∉W)
  (hn: ∀p,e.bQ=some p->(∀d b,(d,b)∈own-> ∀g c,st.slot d=some g->g.tv= .v (.one (.bool c))->c=b)->p)
  (hr:ic φ ν m W st a w)
  (b3: ∀l w' ν',(∃z,ic φ ν' z (nI o.dst W) (e.apply own st) l w')->K l w'):wpOp P s.toArray Q k K a w:=by
 have h9: ∀x∈own,x.1∈W:=by
  intro x h;unfold ownOf at aQ;split at aQ
  ·grind
  ·split at aQ
   case h_2=>cases aQ
   rename_i d O;split at aQ;case h_2=>cases aQ
   rename_i V c y;obtain⟨M,aQ⟩:=ba aQ;cases aQ;rcases List.mem_cons.1 h with rfl|h
   ·exact cN.1 M
   ·exact hr.tags d _ y x h
 let ν':=match e.dst with|some (d,tv)=>λx=>if x=d then boolOf tv else ν x|none=>ν
 have a1: ∀x,x∈W->ν x=ν' x:=by
  intro x h;show ν x=(match e.dst with|some (d,tv)=>λx=>if x=d then boolOf tv else ν x|none=>ν) x;rcases ot U with⟨h1,_⟩|⟨d,tv,h1,h2⟩
  ·rw[h1]
  ·rw[h1]
   have:x≠d:=λe=>b0 d h2 (e▸h)
   simp[this]
 have J:=hr.sat.re λt g f x h=>a1 _ (hr.tags t g f x h)
 have L:=λd hd g c h1 h2=>(a1 d hd).symm.trans (hr.yes d hd g c h1 h2)
 have b4: ∀z l w',aG φ ν' z (e.apply own st) l w'->ic φ ν' z (nI o.dst W) (e.apply own st) l w':=by
  intro z l w' hs;rcases ot U with⟨h1,h2⟩|⟨d,tv,h1,h2⟩
  ·refine⟨hs,λt g f x h=> ?_,λt ht g c f A=> ?_⟩
   ·rw[A7 h1]at f;rw[h2];exact hr.tags t g f x h
   ·rw[A7 h1]at f;rw[h2]at ht;exact L t ht g c f A
  ·have y: ∀t,(e.apply own st).slot t=if t=d then some ⟨own,tv⟩else st.slot t:=by
    intro t;obtain⟨nn,dd,bb⟩:=e;simp only at h1;subst h1;exact Bh
   refine⟨hs,λt g f x h=> ?_,λt ht g c f A=> ?_⟩
   ·rw[y]at f
    rw[h2];by_cases I:t=d
    ·rw[ava I]at f;cases f;exact awh _ (h9 x h)
    ·rw[au6 I]at f;exact awh _ (hr.tags t g f x h)
   ·rw[y]at f
    by_cases I:t=d
    ·rw[ava I]at f
     cases f;simp only at A;show(match e.dst with|some (d,tv)=>λx=>if x=d then boolOf tv else ν x|none=>ν) t=c;rw[h1,A];simp[I,boolOf]
    ·rw[au6 I]at f
     rw[h2]at ht;rcases List.mem_cons.1 ht with h3|h3
     ·exact absurd h3 I
     ·exact L t h3 g c f A
 have Y: ∀l w',Sat φ ν' (e.apply own st) l w'->K l w':=λl w' ⟨z,hs⟩=>b3 l w' ν' ⟨z,b4 z l w' hs⟩
 have b5:et ν' own-> ∀p,e.bQ=some p->p:=by
  intro ht p hp;refine hn p hp λd b hm g c f A=> ?_
  have h2:=L d (h9 _ hm) g c f A;have h3:=ht _ hm;simp only at h3;rw[<- h2,h3]
 unfold wpOp;have b7:s.toArray[k]? =some o:=by simpa using a6
 simp only[b7];by_cases ht:et ν' own
 ·have hw:Region.wanted o (yielded s.toArray a.tmps)=true:=by
   unfold Region.wanted;unfold ownOf at aQ;split at aQ
   ·rename_i f;simp[f]
   ·rename_i j b f
    split at aQ;case h_2=>cases aQ
    rename_i d O;split at aQ;case h_2=>cases aQ
    rename_i V c y;obtain⟨M,aQ⟩:=ba aQ;cases aQ;have i:=J.slot d _ y (λx h=>ht x (awh _ h));have hb:=ht (d,b) (by simp);have Z:=L d (cN.1 M) _ c y rfl;have N:yielded s.toArray a.tmps j=some c:=by
     unfold yielded;have:(s.toArray[j]?).bind (·.dst)=some d:=by simpa using O
     rw[this];simp only[ay5];rw[avl]at i;cases hq:a.tmps[d]? with
     |none=>rw[hq]at i;cases i
     |some u=>rw[hq]at i;simp only[axv]at i;rw[i]
    simp only[f,N];rw[<- Z,hb];simp
  rw[ava hw];refine .inl (Z4 ⟨hC,a5,he,b5 ht,ht,L,J,T,Y⟩)
 ·have f: ∃j b,o.guard=some (j,b):=by
   cases hgd:o.guard with
   |none=>unfold ownOf at aQ;rw[hgd]at aQ;cases aQ;exact absurd (λx h=>by cases h) ht
   |some x=>exact⟨x.1,x.2,rfl⟩
  obtain⟨j,b,f⟩:=f;have S:e.eT= []:=by
   have h1:=fX a9;unfold me at h1;rw[f]at h1;simp only[andd]at h1;split at h1
   ·assumption
   ·cases h1
  have hw:Region.wanted o (yielded s.toArray a.tmps)=false:=by
   unfold Region.wanted;unfold ownOf at aQ;rw[f]at aQ;simp only at aQ;split at aQ;case h_2=>cases aQ
   rename_i d O;split at aQ;case h_2=>cases aQ
   rename_i V c y;obtain⟨M,aQ⟩:=ba aQ;cases aQ;have a3:(s.toArray[j]?).bind (·.dst)=some d:=by simpa using O
   simp only[f];by_cases h8:et ν' V
   ·have i:=J.slot d _ y h8
    have Z:=L d (cN.1 M) _ c y rfl;have b9:=λhb=>ht λx h=>by
     rcases List.mem_cons.1 h with rfl|h
     ·exact hb
     ·exact h8 x h
    have N:yielded s.toArray a.tmps j=some c:=by
     unfold yielded;rw[a3];simp only[ay5];rw[avl]at i;cases hq:a.tmps[d]? with
     |none=>rw[hq]at i;cases i
     |some u=>rw[hq]at i;simp only[axv]at i;rw[i]
    rw[N,<- Z];simpa using b9
   ·have i:=J.skip d _ y h8
    have N:yielded s.toArray a.tmps j=none:=by
     unfold yielded;rw[a3];simp only[ay5];rw[avl]at i;cases hq:a.tmps[d]? with
     |none=>rfl
     |some u=>rw[hq]at i;simp only[axv]at i;rw[i];rfl
    rw[N];rfl
  rw[au6 (by rw[hw];simp)];rcases ot U with⟨h1,h2⟩|⟨d,tv,h1,h2⟩
  ·rw[h2]
   refine Y _ _ ⟨m,?_⟩;obtain⟨nn,dd,bb⟩:=e;simp only at h1 S;subst h1 S;exact J
  ·rw[h2]
   refine Y _ _ ⟨m,?_⟩;obtain⟨nn,dd,bb⟩:=e;simp only at h1 S;subst h1 S;exact J.VE (T d h2).1 (T d h2).2 ht
theorem L5(A i:Nat):tb A i=A.testBit i:=by
 unfold tb Nat.testBit;rw[Nat.and_comm];show Nat.beq (A>>>i&&&1) 1=(A>>>i&&&1 !=0);rw[Nat.and_one_is_mod];rcases Nat.mod_two_eq_zero_or_one (A>>>i)with h|h<;>rw[h]<;>rfl
theorem ai2(i:Nat):tb 0 i=false:=by rw[L5];simp_all
theorem DX(A B i:Nat):tb (Nat.lor A B) i=(tb A i||tb B i):=by
 simp only[L5];simp_all
theorem Va(j i:Nat):tb (Nat.shiftLeft 1 j) i=decide (j=i):=by
 simp_all [L5,Nat.one_shiftLeft,Nat.testBit_two_pow]
structure vO (o:Oper) (acc:List Nat) (j:Nat):Prop where
 qX: ∀i,tb (acc.getD j 0) i=true-> ∃x∈o.after,Region.binds .any x=true/\x.on<j/\(x.on=i\/tb (acc.getD x.on 0) i=true)
 FY: ∀x∈o.after,Region.binds .any x=true->x.on<j/\tb (acc.getD j 0) x.on=true
theorem Pg(e:Edge):Ej e=Region.binds .any e:=by grind [Ej,Region.binds]
theorem QL{k:Nat}{acc:List Nat}: ∀{j:List Edge} {A:Nat},ancOf k acc j=some A->
  (∀i,tb A i=true-> ∃x∈j,Region.binds .any x=true/\x.on<k/\(x.on=i\/tb (acc.getD x.on 0) i=true))/\(∀x∈j,Region.binds .any x=true->x.on<k/\tb A x.on=true)
 | [],A,h=>by
  grind [ancOf,Option.some.injEq,ai2]
 |e::r,A,h=>by
  simp only[ancOf]at h;split at h;case h_2=>cases h
  rename_i B t;obtain⟨y,l⟩:=QL t;cases hb:Ej e with
  |false=>
   simp_all [cnd,aup,Pg,awh]
  |true=>
   rw[hb]at h;simp only[cnd]at h;split at h;case h_2=>cases h
   rename_i g;cases h;have g:=au7 g;rw[Pg]at hb;refine⟨λi hi=> ?_,λx f s=> ?_⟩
   ·rw[DX,DX,Va]at hi
    simp only[av9,adv]at hi;rcases hi with hi|hi|hi
    ·obtain⟨x,f,h⟩:=y i hi;exact⟨x,awh _ f,h⟩
    ·exact⟨e,by simp,hb,g,.inl hi⟩
    ·exact⟨e,by simp,hb,g,.inr hi⟩
   ·rw[DX,DX,Va]
    rcases List.mem_cons.1 f with rfl|f
    ·exact⟨g,by simp⟩
    ·exact⟨(l x f s).1,by simp[(l x f s).2]⟩
theorem BU{acc:List Nat}{A j:Nat}(h:j<acc.length):(app acc [A]).getD j 0=acc.getD j 0:=by
 grind [bI]
theorem vO.app{acc:List Nat}{A j:Nat}(f:j<acc.length)(h:vO o acc j):vO o (app acc [A]) j where
 qX:=by
  intro i hi;rw[BU f]at hi;obtain⟨x,h1,h2,h3,h4⟩:=h.qX i hi;grind [BU]
 FY:=by intro x g hb;rw[BU f];exact h.FY x g hb
theorem HF: ∀{r pre:List Oper} {acc g:List Nat},ancAll r acc.length acc=some g->pre.length=acc.length->(∀j o,pre[j]? =some o->vO o acc j)->
  ∀j o,(pre++r)[j]? =some o->vO o g j
 | [],pre,acc,g,h,hl,l=>by
  simp_all [ancAll]
 |o::r,pre,acc,g,h,hl,l=>by
  simp only[ancAll]at h;split at h;case h_2=>cases h
  rename_i A y;obtain⟨h1,h2⟩:=QL y;have z:Nat.succ acc.length=(app acc [A]).length:=by rw[bI];simp
  rw[z]at h;have:=HF (pre:=pre++ [o]) h (by simp_all) (λj I f=> ?_)
  ·simp_all
  ·rcases axe j pre.length with s|s
   ·rw[aw9 s]at f
    exact(l j I f).app (by omega)
   ·have:j=pre.length:=by
     have:=(List.getElem?_eq_some_iff.1 f).1;simp at this;omega
    subst this;simp at f;subst f;have t:(app acc [A]).getD pre.length 0=A:=by rw[bI,hl];simp
    exact{
     qX:=by
      intro i hi;rw[t]at hi;obtain⟨x,k,hb,J,h⟩:=h1 i hi;exact⟨x,by simpa using k,hb,by omega,by rw[BU (by omega)];exact h⟩
     FY:=by
      intro x k hb;rw[t];have:=h2 x (by simpa using k) hb;exact⟨by omega,this.2⟩}
theorem DK{α:Type}{a b:Nat}{x y:α}:cnd (Nat.beq a b) x y=if a=b then x else y:=by
 by_cases h:a=b
 ·rw[bV h,ava h]
 simp_all [bL]
def keyOf(e:Eff)(b:Nat):Prop:= ∃x∈e.eT,x.1=b
theorem A8{t:Nat}(h: ∀d tv,e.dst=some (d,tv)->d≠t):(e.apply own st).slot t=st.slot t:=by
 unfold Eff.apply;cases hd:e.dst with
 |none=>rfl
 |some x=>
  simp only[DK];grind
theorem NK{t:Nat}{f g:ASt}(h:f.slot t=g.slot t):(e.apply own f).slot t=(e.apply own g).slot t:=by
 grind [Eff.apply]
theorem OY{b:Nat}{f:Nat->Option Bx}: ∀{bs:List (Nat×Option Bx)},(∀x∈bs,x.1≠b)->applyB bs f b=f b
 | [],_=>rfl
 |(k,x)::r,h=>by
  simp only[applyB];rw[DK,au6 (λe=>h (k,x) (by simp) e.symm)];exact OY λy g=>h y (by simp_all)
theorem NW{b:Nat}{f g:Nat->Option Bx}(h:f b=g b): ∀{bs:List (Nat×Option Bx)},applyB bs f b=applyB bs g b
 | []=>h
 |(k,x)::r=>by simp only[applyB,NW h]
theorem xp{b:Nat}(h: ¬ keyOf e b):(e.apply own st).box b=st.box b:=OY λx f hb=>h ⟨x,f,hb⟩
theorem GC{b:Nat}{f g:ASt}(h:f.box b=g.box b):(e.apply own f).box b=(e.apply own g).box b:=NW h
variable {u v:Nat->Bool}
theorem NZ{t:Nat}: ∀(l:List ER) (k:Nat) (f g:ASt),f.slot t=g.slot t->(∀i x,l[i]? =some x->u (k+i)=v (k+i)\/ ∀d tv,x.il.dst=some (d,tv)->d≠t)->
  (applyM u k l f).slot t=(applyM v k l g).slot t
 | [],_,_,_,h,_=>h
 |x::l,k,f,g,h,j=>by
  refine NZ l (Nat.succ k) _ _ ?_ (λi y s=> ?_)
  ·rcases j 0 x rfl with h1|h1
   ·rw[awr]at h1
    rw[h1];cases v k with
    |true=>exact NK h
    |false=>exact h
   ·cases u k<;>cases v k<;>simp only[cnd,A8 h1,h]
  ·have:=j (i+1) y (by simpa using s)
   rw[show Nat.succ k+i=k+(i+1)by omega];exact this
theorem Om{b:Nat}: ∀(l:List ER) (k:Nat) (f g:ASt),f.box b=g.box b->(∀i x,l[i]? =some x->u (k+i)=v (k+i)\/ ¬ keyOf x.il b)->
  (applyM u k l f).box b=(applyM v k l g).box b
 | [],_,_,_,h,_=>h
 |x::l,k,f,g,h,j=>by
  refine Om l (Nat.succ k) _ _ ?_ (λi y s=> ?_)
  ·rcases j 0 x rfl with h1|h1
   ·rw[awr]at h1
    rw[h1];cases v k with
    |true=>exact GC h
    |false=>exact h
   ·cases u k<;>cases v k<;>simp only[cnd,xp h1,h]
  ·have:=j (i+1) y (by simpa using s)
   rw[show Nat.succ k+i=k+(i+1)by omega];exact this
theorem GM: ∀(l:List ER) (k:Nat) (s:ASt),(∀i,i<l.length->u (k+i)=v (k+i))->applyM u k l s=applyM v k l s
 | [],_,_,_=>rfl
 |x::l,k,s,h=>by
  simp only[applyM];have h0:=h 0 (by simp);rw[awr]at h0;rw[h0];exact GM l _ _ (λi hi=>by rw[show Nat.succ k+i=k+(i+1)by omega];simp_all)
theorem xm: ∀(l1 l2:List ER) (k:Nat) (s:ASt),applyM u k (l1++l2) s=applyM u (k+l1.length) l2 (applyM u k l1 s)
 | [],_,_,_=>rfl
 |x::l1,l2,k,s=>by
  simp only[awz,applyM];rw[xm l1 l2];grind
theorem Hw: ∀(l:List ER) (k:Nat) (s:ASt),(∀i,i<l.length->u (k+i)=true)->applyM u k l s=applyAll l s
 | [],_,_,_=>rfl
 |x::l,k,s,h=>by
  simp only[applyM];have h0:=h 0 (by simp);rw[awr]at h0;rw[h0];exact Hw l _ _ (λi hi=>by rw[show Nat.succ k+i=k+(i+1)by omega];simp_all)
structure M3 (e f:Eff):Prop where
 dst: ∀d tv d' tv',e.dst=some (d,tv)->f.dst=some (d',tv')->d≠d'
 eT: ∀b,keyOf e b-> ¬ keyOf f b
theorem ae0{e f:Eff}{o1 g:List (bS)}{s:ASt}(h:M3 e f):f.apply g (e.apply o1 s)=e.apply o1 (f.apply g s):=by
 have hs: ∀t,(f.apply g (e.apply o1 s)).slot t=(e.apply o1 (f.apply g s)).slot t:=by
  intro t;by_cases h1: ∃tv,e.dst=some (t,tv)
  ·obtain⟨tv,h1⟩:=h1
   rw[A8 (λi j k=>(h.dst t tv i j h1 k).symm)];unfold Eff.apply;simp only[h1,DK,azk]
  ·have h2: ∀d tv,e.dst=some (d,tv)->d≠t:=λd tv l x=>h1 ⟨tv,x▸l⟩
   rw[A8 h2];exact NK (A8 h2)
 have hb: ∀b,(f.apply g (e.apply o1 s)).box b=(e.apply o1 (f.apply g s)).box b:=by
  intro b;by_cases h1:keyOf e b
  ·rw[xp (h.eT b h1)]
   have:=xp (own:=g) (st:=s) (h.eT b h1);exact(GC this).symm
  ·rw[xp h1]
   exact GC (xp h1)
 have:=funext hs;have:=funext hb;show ASt.mk _ _=ASt.mk _ _;congr 1
theorem Ob{o1:List (bS)}: ∀(l:List ER) (k:Nat) (s:ASt),(∀i y,l[i]? =some y->u (k+i)=true->M3 e y.il)->applyM u k l (e.apply o1 s)=e.apply o1 (applyM u k l s)
 | [],_,_,_=>rfl
 |x::l,k,s,h=>by
  simp only[applyM];have h0:=h 0 x rfl;have f:=λs=>Ob (o1:=o1) l (Nat.succ k) s (λi y j g=>h (i+1) y (by simp_all) (by grind))
  cases g:u k with
  |true=>
   simp_all [cnd,ae0]
  |false=>exact f _
theorem aee{l:List ER}{x:ER}{k:Nat}{s:ASt}(j:l[k]? =some x)(t:u k=false)(z:v k=true)(f: ∀i,i≠k->v i=u i)
  (A: ∀i y,l[i]? =some y->k<i->u i=true->M3 x.il y.il):applyM v 0 l s=x.il.apply x.own (applyM u 0 l s):=by
 obtain⟨L,I⟩:=List.getElem?_eq_some_iff.1 j;have hl:l=l.take k++x::l.drop (k+1):=by
  rw[<- I,List.getElem_cons_drop,awi]
 rw[hl];have g:(l.take k).length=k:=by simp;omega
 rw[xm,xm,g,avs];simp only[applyM,t,z,cnd];rw[GM (u:=v) (v:=u) (l.take k) 0 s (λi hi=>by rw[g]at hi;exact f _ (by omega)),
  GM (u:=v) (v:=u) (l.drop (k+1)) (Nat.succ k) _ (λi hi=>f _ (by omega))]
 refine Ob _ _ _ (λi y h J=>A (k+1+i) y ?_ (by omega) J);rw[awl]at h;exact h
theorem pP{t:Nat}: ∀{l:List Oper} {k:Nat},t∈dstsM u k l↔ ∃j o,l[j]? =some o/\o.dst=some t/\u (k+j)=true
 | [],k=>by simp[dstsM]
 |p::l,k=>by
  have f:=pP (t:=t) (l:=l) (k:=Nat.succ k);constructor
  ·intro h
   simp only[dstsM]at h;have hr:t∈dstsM u (Nat.succ k) l-> ∃j o,(p::l)[j]? =some o/\o.dst=some t/\u (k+j)=true:=by
    intro h;obtain⟨j,o,h1,h2,h3⟩:=f.1 h;exact⟨j+1,o,by simpa using h1,h2,by rw[show k+(j+1)=Nat.succ k+j by omega];exact h3⟩
   split at h
   ·rename_i d g
    cases hu:u k with
    |true=>
     rw[hu]at h;rcases List.mem_cons.1 h with rfl|h
     ·exact⟨0,p,rfl,g,hu⟩
     ·exact hr h
    |false=>rw[hu]at h;exact hr h
   ·exact hr h
  ·rintro⟨j,o,h1,h2,h3⟩
   cases j with
   |zero=>
    simp at h1;subst h1;simp only[dstsM,h2];rw[awr]at h3;rw[h3];simp[cnd]
   |succ j=>
    have:=f.2 ⟨j,o,by simpa using h1,h2,by rw[show Nat.succ k+j=k+(j+1)by omega];exact h3⟩;simp only[dstsM];split
    ·cases u k<;>simp[cnd,this]
    ·exact this
theorem BE{l:List Oper}(h:nodup (l.filterMap (·.dst))=true): ∀{i j:Nat} {p q:Oper} {d:Nat},l[i]? =some p->l[j]? =some q->p.dst=some d->q.dst=some d->i=j:=by
 induction l with
 |nil=>intro i j p q d h1;simp at h1
 |cons x l g=>
  intro i j p q d h1 h2 h3 h4;have f: ∀(k:Nat) (r:Oper),l[k]? =some r->r.dst=some d->d∈l.filterMap (·.dst):=λk r s hr=>List.mem_filterMap.2 ⟨r,axc s,hr⟩
  cases i with
  |zero=>
   simp at h1;subst h1;rw[axp h3]at h;cases j with
   |zero=>rfl
   |succ j=>exact absurd (f j q (by simpa using h2) h4) (nodup_cons h).1
  |succ i=>
   cases j with
   |zero=>
    simp at h2;subst h2;rw[axp h4]at h;exact absurd (f i p (by simpa using h1) h3) (nodup_cons h).1
   |succ j=>
    have t:nodup (l.filterMap (·.dst))=true:=by
     cases hx:x.dst with
     |none=>rwa [azx hx]at h
     |some y=>rw[axp hx]at h;exact(nodup_cons h).2
    have:=g t (i:=i) (j:=j) (p:=p) (q:=q) (d:=d) (by simpa using h1) (by simpa using h2) h3 h4;omega
theorem Jf{t:Nat}: ∀{l:List Oper} {k:Nat},(∀j,wrOf l k t=some j-> ∃o,k<=j/\l[j-k]? =some o/\o.dst=some t)/\(wrOf l k t=none-> ∀(j:Nat) (o:Oper),l[j]? =some o->o.dst≠some t)
 | [],k=>⟨λj h=>(by cases h),λ_ j o h=>(by simp at h)⟩
 |p::l,k=>by
  obtain⟨f,g⟩:=Jf (t:=t) (l:=l) (k:=Nat.succ k);have i: ∀j,wrOf l (Nat.succ k) t=some j-> ∃o,k<=j/\(p::l)[j-k]? =some o/\o.dst=some t:=by
   grind
  have s:wrOf l (Nat.succ k) t=none->p.dst≠some t-> ∀(j:Nat) (o:Oper),(p::l)[j]? =some o->o.dst≠some t:=by
   grind
  simp only[wrOf];cases hd:p.dst with
  |none=>grind
  |some d=>
   simp only[DK];grind
theorem Pw: ∀{ks l:List Nat},MO ks l=true-> ∀x∈ks,x∈l
 | [],_,_,x,f=>by cases f
 |k::ks,l,h,x,f=>by
  obtain⟨h1,h2⟩:=aF h;rcases List.mem_cons.1 f with rfl|f
  ·exact cN.1 h1
  ·exact Pw h2 x f
theorem OS: ∀{ks l:List Nat},LU ks l=true-> ∀x∈ks,x∉l
 | [],_,_,x,f=>by cases f
 |k::ks,l,h,x,f=>by
  obtain⟨h1,h2⟩:=aF h;rcases List.mem_cons.1 f with rfl|f
  ·intro hm
   rw[cN.2 hm]at h1;cases h1
  ·exact OS h2 x f
theorem Py: ∀{l:List (Nat×Option Bx)} {b:Nat},b∈zZ l↔ ∃x∈l,x.1=b
 | [],b=>by simp[zZ]
 |(k,v)::r,b=>by
  simp only[zZ,avv,Py];grind
theorem IC{f:List Nat}{j k:Nat}(h1:j≠k)(h2:tb (f.getD k 0) j=false)(h3:tb (f.getD j 0) k=false):vY f j k=true:=by
 unfold vY;have:Nat.beq j k=false:=by
  grind [beq_eq]
 rw[this,h2,h3];rfl
theorem N8{t:List Nat}{M:List (List Nat)}{j:Nat}{ks:List Nat}: ∀{g:List Oper} {l:List ER} {f:Nat},BT C t M j ks f g l=true-> ∀k p e,g[k]? =some p->l[k]? =some e->vY t j (f+k)=true->
  (nq C p=true-> ∀x∈ks,x∈M.getD (f+k) [])/\(∀x∈ks,x∉sP e.il)
 | [],l,f,_,k,p,e,i,_,_=>by simp_all
 |q::g,[],f,_,k,p,e,_,s,_=>by simp_all
 |q::g,x::l,f,h,k,p,e,i,s,y=>by
  obtain⟨z,hb⟩:=aF h;cases k with
  |zero=>
   simp only[ay1,aup]at i s;subst i s;rw[awr]at y⊢;rw[y]at z;obtain⟨h1,h2⟩:=aF (show andd _ _=true from z);refine⟨λht=> ?_,OS h2⟩;rcases mh h1 with h1|h1
   ·rw[ht]at h1;cases h1
   grind [Pw]
  |succ k=>
   have:=N8 hb k p e (by simp_all) (by simp_all) (by grind);grind
theorem Oe{k:List Nat}{M:List (List Nat)}{s:List Oper}{l:List ER}: ∀{r:List Oper} {q:List ER} {f:Nat},oA C k M s l f r q=true-> ∀j o e,r[j]? =some o->q[j]? =some e->qf o=true->BT C k M (f+j) (sP e.il) 0 s l=true
 | [],q,f,_,j,o,e,g,_,_=>by simp_all
 |x::r,[],f,_,j,o,e,_,i,_=>by simp_all
 |x::r,y::q,f,h,j,o,e,g,i,hs=>by
  obtain⟨t,hb⟩:=aF h;cases j with
  |zero=>
   simp only[ay1,aup]at g i;subst g i;rw[hs]at t;exact t
  |succ j=>
   have:=Oe hb j o e (by simp_all) (by simp_all) hs;grind
def YU(C:Ctx)(h:List Nat)(M:List (List Nat))(g:List Oper)(l:List ER):Prop:=
 ∀j k o p f ek,g[j]? =some o->g[k]? =some p->l[j]? =some f->l[k]? =some ek->qf o=true->vY h j k=true->(nq C p=true-> ∀x,keyOf f.il x->x∈M.getD k [])/\(∀x,keyOf f.il x-> ¬ keyOf ek.il x)
theorem Qd{g:List Nat}{M:List (List Nat)}{f:List Oper}{l:List ER}(h:oA C g M f l 0 f l=true):YU C g M f l:=by
 intro j k o p i ek s t y z hs A;have h1:=Oe h j o i s y hs;have h2:=N8 h1 k p ek t z (by simp_all);have I: ∀(e:Eff) x,keyOf e x↔x∈sP e:=λe x=>by
  unfold sP;rw[Py];exact Iff.rfl
 simp_all
def iO(C:Ctx)(g:List Oper)(f:List Nat)(M:List (List Nat))(h:ASt)(l:List ER)(k:Nat)(o:Oper):ASt:=sJ g f k (nq C o) (M.getD k []) (applyM (tb (f.getD k 0)) 0 l h)
structure Ar (C:Ctx) (ops:List Oper) (anc:List Nat) (M:List (List Nat)) (st0:ASt) (l:List ER) (k:Nat) (o:Oper) (own:List (bS)) (e:Eff):Prop where
 at_:l[k]? =some ⟨own,underO (iO C ops anc M st0 l k o) own e.bQ,e⟩
 aQ:ownOf ops (dstsM (tb (anc.getD k 0)) 0 ops) (iO C ops anc M st0 l k o) o=some own
 ev:evOp C own (dstsM (tb (anc.getD k 0)) 0 ops) (iO C ops anc M st0 l k o) o=some e
 dst:dstOk e.dst o.dst=true
 keys:JT C o e=true
 gb:nott (andd (me o) (match e.eT with| []=>false|_=>true))=true
theorem uj{g:List Oper}{f:List Nat}{M:List (List Nat)}{h:ASt}{l:List ER}{x:ER}{k:Nat}(i:tb (f.getD k 0) l.length=false):iO C g f M h (l++ [x]) k o=iO C g f M h l k o:=by
 unfold iO;rw[xm];simp_all [applyM,cnd]
theorem IQ{f:List Oper}{g:List Nat}{M:List (List Nat)}{z:ASt}(A: ∀k i,k<f.length->tb (g.getD k 0) i=true->i<k): ∀{r pre:List Oper} {acc l:List ER},evDr C f g M z r acc.length acc=some l->pre.length=acc.length->f=pre++r->
  (∀k o,k<acc.length->f[k]? =some o-> ∃own e,Ar C f g M z acc k o own e)->l.length=f.length/\ ∀k o,f[k]? =some o-> ∃own e,Ar C f g M z l k o own e
 | [],pre,acc,l,h,hl,x,I=>by
  grind [evDr]
 |o::r,pre,acc,l,h,hl,x,I=>by
  simp only[evDr]at h;split at h;case h_2=>cases h
  rename_i own aQ;split at h;case h_2=>cases h
  rename_i e N;obtain⟨t,h⟩:=ba h;obtain⟨O,t⟩:=aF t;obtain⟨S,t⟩:=aF t;have T:=t;have h9:acc.length<f.length:=by rw[x];simp;omega
  have U:f[acc.length]? =some o:=by rw[x,<- hl];simp
  rw[bI]at h;refine IQ A (pre:=pre++ [o]) (acc:=acc++ [_]) (by simpa using h) (by simp[hl]) (by simp[x]) (λk V J y=> ?_);have j:tb (g.getD k 0) acc.length=false:=by
   cases hb:tb (g.getD k 0) acc.length with
   |false=>rfl
   |true=>
    have:=A k _ (List.getElem?_eq_some_iff.1 y).1 hb;simp at J;omega
  simp only[au1,avi,avk]at J;rcases axe k acc.length with L|a1
  ·obtain⟨Y,Z,s⟩:=I k V L y
   refine⟨Y,Z,?_⟩;exact{
     at_:=by rw[aw9 L,uj j];exact s.at_
     aQ:=by rw[uj j];exact s.aQ
     ev:=by rw[uj j];exact s.ev
     dst:=s.dst,keys:=s.keys,gb:=s.gb}
  ·have h8:k=acc.length:=by omega
   subst h8;rw[U]at y;cases y;refine⟨own,e,?_⟩;exact{
     at_:=by rw[uj j];simp[iO]
     aQ:=by rw[uj j];exact aQ
     ev:=by rw[uj j];exact N
     dst:=O,keys:=S,gb:=T}
theorem ic.congr{V:List Nat}(h:ic φ ν m W st a w)(f: ∀d,d∈W↔d∈V):ic φ ν m V st a w:=
 ⟨h.sat,λt g i x j=>(f _).1 (h.tags t g i x j),λd k=>h.yes d ((f _).2 k)⟩
def undone(u:Nat->Bool):Nat->Nat
 |0=>0
 |n+1=>undone u n+(if u n=true then 0 else 1)
theorem NU: ∀n,(∀i,i<n->u i=v i)->undone u n=undone v n
 |0,_=>rfl
 |n+1,h=>by simp only[undone];rw[NU n (λi hi=>h i (by omega)),h n (by omega)]
theorem Oi{k:Nat}(g:u k=false)(j:v k=true)(f: ∀i,i≠k->v i=u i): ∀n,k<n->undone u n=undone v n+1
 |0,h=>by omega
 |n+1,h=>by
  simp only[undone];by_cases l:k=n
  ·grind [NU]
  ·rw[Oi g j f n (by omega),f n (by omega)]
   omega
theorem N9: ∀n,undone u n=0-> ∀i,i<n->u i=true
 |0,_,i,hi=>by omega
 |n+1,h,i,hi=>by
  simp only[undone]at h;by_cases f:i=n
  ·simp_all
  ·exact N9 n (by omega) i (by omega)
theorem Oq: ∀n,(∀i,i<n->u i=true)->undone u n=0
 |0,_=>rfl
 |n+1,h=>by simp only[undone];rw[Oq n (λi hi=>h i (by omega)),h n (by omega)];simp
theorem G8: ∀n,(∀i,i<n->u i=false)->undone u n=n
 |0,_=>rfl
 |n+1,h=>by simp only[undone];rw[G8 n (λi hi=>h i (by omega)),h n (by omega)];simp
theorem Hg{b:Nat}(h:JT C o e=true)(f:keyOf e b):nq C o=true/\(qf o=true\/o.dst=some b):=by
 obtain⟨x,g,rfl⟩:=f;rcases mh h with h|h
 all_goals grind [noBx,aF,mh,jQ,beq_eq]
def anv(P:Program)(C:Ctx)(φ:Fr)(f:List Oper)(h:List Nat)(M:List (List Nat))(g:ASt)(l:List ER)(J:(Nat->Bool)->Prop)(Q:Exit->Act->World->Prop):Prop:=
 ∀(i:Nat) (o:Oper) (own:List (bS)) (e:Eff) (u:Nat->Bool) (a:Act) (w:World) (ν:Nat->Bool) (m:Map) (K:Act->World->Prop),f[i]? =some o->Ar C f h M g l i o own e->J u->u i=false->
  (∀j,tb (h.getD i 0) j=true->u j=true)->Sub (iO C f h M g l i o) (applyM u 0 l g) (dstsM (tb (h.getD i 0)) 0 f) (dstsM u 0 f)->(∀d,o.dst=some d->d∉dstsM u 0 f)->ic φ ν m (dstsM u 0 f) (applyM u 0 l g) a w->
  ((∀v:Nat->Bool,v i=true->(∀j,j≠i->v j=u j)->J v)-> ∀k w' ν',(∃s,ic φ ν' s (nI o.dst (dstsM u 0 f)) (e.apply own (applyM u 0 l g)) k w')->K k w')->wpOp P f.toArray Q i K a w
theorem Qx{s:List Oper}{A:List Nat}{M:List (List Nat)}{T:ASt}{l:List ER}{J:(Nat->Bool)->Prop}
  (a7:nodup (s.filterMap (·.dst))=true) (b7:YU C A M s l) (a9: ∀j o,s[j]? =some o->vO o A j) (g6:l.length=s.length)
  (hl: ∀k o,s[k]? =some o-> ∃own e,Ar C s A M T l k o own e) (fC:anv P C φ s A M T l J Q)
  (hQ: ∀u,(∀i,i<s.length->u i=true)->J u-> ∀a w ν W,(∃m,ic φ ν m W (applyAll l T) a w)->Q .normal a w):
  ∀(f:Nat) (u:Array Bool) (a:Act) (w:World) (ν:Nat->Bool),undone (λi=>u.getD i false) s.length=f->u.size=s.length->J (λi=>u.getD i false)->
   (∀j o,s[j]? =some o->u.getD j false=true-> ∀x∈o.after,Region.binds .any x=true->u.getD x.on false=true)->
   (∃m,ic φ ν m (dstsM (λi=>u.getD i false) 0 s) (applyM (λi=>u.getD i false) 0 l T) a w)->wpAny P .any s.toArray Q f u a w:=by
 have b0: ∀j,j<s.length-> ∃o,s[j]? =some o:=λj z=>⟨s[j],avc z⟩
 have e9: ∀k i,k<s.length->tb (A.getD k 0) i=true->i<k:=by
  intro k;induction k using Nat.strongRecOn with
  |_ k ih=>
   intro i L hi;obtain⟨o,I⟩:=b0 k L;obtain⟨x,_,_,b9,h|h⟩:=(a9 k o I).qX i hi;all_goals grind
 have c0: ∀(u:Array Bool) j,u.size=s.length->(u.getD j true=false↔j<s.length/\u.getD j false=false):=by
  grind
 have f0: ∀(u:Array Bool),u.size=s.length->(∀j o,s[j]? =some o->u.getD j false=true-> ∀x∈o.after,Region.binds .any x=true->u.getD x.on false=true)->
   ∀j i,u.getD j false=true->tb (A.getD j 0) i=true->u.getD i false=true:=by
  intro u Y hc j;induction j using Nat.strongRecOn with
  |_ j ih=>
   intro i z hi;have e2:j<s.length:=by
    grind
   obtain⟨o,I⟩:=b0 j e2;obtain⟨x,N,hb,b9,h|h⟩:=(a9 j o I).qX i hi
   ·rw[<- h];exact hc j o I z x N hb
   ·exact ih x.on b9 i (hc j o I z x N hb) h
 intro f;induction f with
 |zero=>
  intro u a w ν hf Y hJ hc hr;have a6:=N9 _ hf;refine⟨?_,?_⟩
  ·rcases List.eq_nil_or_concat (Region.ready .any s.toArray u)with h|⟨_,j,h⟩
   ·exact h
   ·have z:j∈Region.ready .any s.toArray u:=by rw[h];simp
    have h2:=(c0 u j Y).1 (mem_ready.1 z).1;have h1:u.getD j false=true:=a6 j h2.1;rw[h1]at h2;cases h2.2
  ·rw[Hw l 0 T (λi hi=>by rw[avs];exact a6 i (by omega))]at hr
   exact hQ _ a6 hJ a w ν _ hr
 |succ f ih=>
  intro u a w ν hf Y hJ hc hr;refine⟨λf1=> ?_,λi hi=> ?_⟩
  ·have a6: ∀i,i<s.length->u.getD i false=true:=by
    intro i;induction i using Nat.strongRecOn with
    |_ i f2=>
     intro hi;cases hui:u.getD i false with
     |true=>rfl
     |false=>
      obtain⟨o,I⟩:=b0 i hi;have:i∈Region.ready .any s.toArray u:=mem_ready.2 ⟨(c0 u i Y).2 ⟨hi,hui⟩,o,by simpa using I,λx N hb=>by
       have:=(a9 i o I).FY x N hb;exact f2 x.on this.1 (by omega)⟩
      rw[f1]at this;cases this
   have:=Oq s.length a6;omega
  ·obtain⟨h1,o,I,d0⟩:=mem_ready.1 hi
   obtain⟨e4,hui⟩:=(c0 u i Y).1 h1;have I:s[i]? =some o:=by simpa using I
   obtain⟨own,e,Z⟩:=hl i o I;obtain⟨m,hr⟩:=hr;have b3:=f0 u Y hc;have d5: ∀j,tb (A.getD i 0) j=true->u.getD j false=true:=by
    intro j z;obtain⟨x,N,hb,b9,h|h⟩:=(a9 i o I).qX j z
    ·rw[<- h];exact d0 x N hb
    ·exact b3 x.on j (d0 x N hb) h
   have g7: ∀j,u.getD j false=true->j<s.length:=by
    intro j z;rcases axe j u.size with h|h
    ·omega
    ·rw[avl,ayn h]at z;cases z
   have b4: ∀t,zz s A i t=true-> ∀(j:Nat) (p:Oper),s[j]? =some p->p.dst=some t->tb (A.getD i 0) j=u.getD j false:=by
    intro t L j p z O;have e2:j<s.length:=(List.getElem?_eq_some_iff.1 z).1;unfold zz at L;split at L
    ·rename_i hw
     exact absurd O ((Jf).2 hw j p z)
    ·rename_i j' hw
     obtain⟨q,_,hq,f3⟩:=(Jf).1 j' hw;have f4:j'=j:=by
      rw[azw]at hq;exact BE a7 hq z f3 O
     subst f4;cases hb1:tb (A.getD i 0) j' with
     |true=>rw[d5 j' hb1]
     |false=>
      rw[hb1]at L;simp only[ej]at L;cases hb2:Nat.beq j' i with
      |true=>rw[beq_eq hb2,hui]
      |false=>
       rw[hb2]at L;simp only[ej]at L;cases huj:u.getD j' false with
       |false=>rfl
       |true=>have:=b3 j' i huj L;rw[hui]at this;cases this
   have d6: ∀(j:Nat) (x:ER),l[j]? =some x-> ∃p own e,s[j]? =some p/\Ar C s A M T l j p own e/\x.il=e:=by
    intro j x N;obtain⟨p,O⟩:=b0 j (by have:=(List.getElem?_eq_some_iff.1 N).1;omega);obtain⟨b5,e',V⟩:=hl j p O;have:=V.at_;rw[N]at this;cases this;exact⟨p,b5,e',O,V,rfl⟩
   have f5:Sub (iO C s A M T l i o) (applyM (λi=>u.getD i false) 0 l T) (dstsM (tb (A.getD i 0)) 0 s) (dstsM (λi=>u.getD i false) 0 s):=by
    refine⟨λt g hg=> ?_,λb=> ?_,λt g hg=> ?_⟩
    ·simp only[iO,sJ]at hg
     obtain⟨L,hg⟩:=ba hg;rw[<- hg];refine NZ l 0 T T rfl (λj x N=> ?_);obtain⟨p,b5,e',O,V,rfl⟩:=d6 j x N;by_cases hd: ∃tv,x.il.dst=some (t,tv)
     ·obtain⟨tv,hd⟩:=hd
      left;have d7:p.dst=some t:=by
       rcases ot V.dst with⟨h3,_⟩|⟨_,_,h3,h4⟩
       ·rw[hd]at h3;cases h3
       ·rw[hd]at h3;cases h3;exact h4
      rw[avs];exact(b4 t L j p O d7).symm
     ·right;intro d tv h3 h4;subst h4;exact hd ⟨tv,h3⟩
    ·simp only[iO,sJ]
     cases hc2:andd (nq C o) (andd (zz s A i b) (nott (mem b (M.getD i []))))with
     |false=>left;rfl
     |true=>
      right;obtain⟨ht,L⟩:=aF hc2;obtain⟨L,e6⟩:=aF L;simp only[cnd];refine Om l 0 T T rfl (λj x N=> ?_);obtain⟨p,b5,e',O,V,rfl⟩:=d6 j x N;by_cases d9:keyOf x.il b
      ·left
       rw[avs];obtain⟨g8,f6|d7⟩:=Hg V.keys d9
       ·cases hb1:tb (A.getD i 0) j with
        |true=>exact(d5 j hb1).symm
        |false=>
         cases huj:u.getD j false with
         |false=>rfl
         |true=>
          have f7:j≠i:=λh3=>by subst h3;rw[hui]at huj;cases huj
          have S:tb (A.getD j 0) i=false:=by
           cases h4:tb (A.getD j 0) i with
           |false=>rfl
           |true=>have:=b3 j i huj h4;rw[hui]at this;cases this
          have h5:=(b7 j i p o _ _ O I N Z.at_ f6 (IC f7 hb1 S)).1 ht b d9;rw[cN.2 h5]at e6;cases e6
       ·exact b4 b L j p O d7
      ·exact .inr d9
    ·simp only[iO,sJ]at hg
     obtain⟨L,_⟩:=ba hg;have:t∈dstsM (tb (A.getD i 0)) 0 s↔t∈dstsM (λi=>u.getD i false) 0 s:=by
      rw[pP,pP];constructor
      ·rintro⟨j,p,h3,h4,h5⟩;rw[avs]at h5;exact⟨j,p,h3,h4,by rw[avs,<- b4 t L j p h3 h4];exact h5⟩
      ·rintro⟨j,p,h3,h4,h5⟩;rw[avs]at h5;exact⟨j,p,h3,h4,by rw[avs,b4 t L j p h3 h4];exact h5⟩
     cases h3:mem t (dstsM (tb (A.getD i 0)) 0 s)with
     |true=>exact(cN.2 (this.1 (cN.1 h3))).symm
     |false=>
      cases h4:mem t (dstsM (λi=>u.getD i false) 0 s)with
      |false=>rfl
      |true=>rw[cN.2 (this.2 (cN.1 h4))]at h3;cases h3
   have U: ∀j,(u.setIfInBounds i true).getD j false=if j=i then true else u.getD j false:=by
    intro j;simp only[avl];by_cases S:j=i
    ·subst S
     rw[Array.getElem?_setIfInBounds_self_of_lt (by omega)];simp
    ·rw[Array.getElem?_setIfInBounds_ne (Ne.symm S),au6 S]
   refine fC i o own e (λi=>u.getD i false) a w ν m _ I Z hJ hui d5 f5 (λd hd f8=> ?_) hr (λf9 a' w' ν' e0=> ?_)
   ·obtain⟨j,p,h3,h4,h5⟩:=pP.1 f8
    rw[avs]at h5;rw[BE a7 h3 I h4 hd,hui]at h5;cases h5
   ·obtain⟨m',e0⟩:=e0
    refine ih (u.setIfInBounds i true) a' w' ν' ?_ (by simpa using Y) (f9 _ (by simp only[U];simp) (λj z=>by simp only[U,au6 z])) (λj p z huj x N hb=> ?_) ⟨m',?_⟩
    ·have:=Oi (u:=λi=>u.getD i false) (v:=λj=>(u.setIfInBounds i true).getD j false) hui (by simp only[U];simp) (λj z=>by simp only[U,au6 z]) s.length e4
     omega
    ·rw[U]at huj⊢
     split
     ·rfl
     ·by_cases S:j=i
      ·subst S
       rw[I]at z;cases z;exact d0 x N hb
      ·rw[au6 S]at huj;exact hc j p z huj x N hb
    ·rw[aee (u:=λi=>u.getD i false) Z.at_ hui (by simp only[U];simp) (λj z=>by simp only[U,au6 z]) (λj y hy g9 huj=> ?_)]
     ·refine e0.congr λd=> ?_
      have g2:d∈nI o.dst (dstsM (λi=>u.getD i false) 0 s)↔o.dst=some d\/d∈dstsM (λi=>u.getD i false) 0 s:=by
       unfold nI;cases o.dst with
       |none=>simp
       |some d'=>simp[eq_comm]
      rw[g2,pP,pP];constructor
      ·rintro(h3|⟨j,p,h3,h4,h5⟩)
       ·exact⟨i,o,I,h3,by rw[avs];simp only[U];simp⟩
       ·refine⟨j,p,h3,h4,?_⟩
        rw[avs]at h5⊢;simp only[U];split
        ·rfl
        ·exact h5
      ·rintro⟨j,p,h3,h4,h5⟩
       rw[avs]at h5;simp only[U]at h5;by_cases S:j=i
       ·subst S
        rw[I]at h3;cases h3;exact .inl h4
       ·rw[au6 S]at h5
        exact .inr ⟨j,p,h3,h4,by rw[avs];exact h5⟩
     ·obtain⟨p,b5,e',O,V,rfl⟩:=d6 j y hy
      have g4:tb (A.getD j 0) i≠true:=λh3=>by have:=b3 j i huj h3;rw[hui]at this;cases this
      refine⟨λd tv d' i3 h3 h4 h5=> ?_,λb h3 h4=> ?_⟩
      ·subst h5
       have h6:o.dst=some d:=by
        rcases ot Z.dst with⟨h7,_⟩|⟨_,_,h7,h8⟩
        ·rw[h3]at h7;cases h7
        ·rw[h3]at h7;cases h7;exact h8
       have h9:p.dst=some d:=by
        rcases ot V.dst with⟨h7,_⟩|⟨_,_,h7,h8⟩
        ·rw[h4]at h7;cases h7
        ·rw[h4]at h7;cases h7;exact h8
       have:=BE a7 I O h6 h9;omega
      ·obtain⟨t1,h6⟩:=Hg Z.keys h3
       obtain⟨t2,h7⟩:=Hg V.keys h4;by_cases hs:qf o=true\/qf p=true
       ·have S:tb (A.getD j 0) i=false:=by
         cases h8:tb (A.getD j 0) i with
         |false=>rfl
         |true=>exact absurd h8 g4
        have e7:tb (A.getD i 0) j=false:=by
         cases h8:tb (A.getD i 0) j with
         |false=>rfl
         |true=>have:=e9 i j e4 h8;omega
        rcases hs with hs|hs
        ·exact(b7 i j o p _ _ I O Z.at_ hy hs (IC (by omega) S e7)).2 b h3 h4
        ·exact(b7 j i p o _ _ O I hy Z.at_ hs (IC (by omega) e7 S)).2 b h4 h3
       ·rcases h6 with h6|h6
        ·exact hs (.inl h6)
        ·rcases h7 with h7|h7
         ·exact hs (.inr h7)
         ·have:=BE a7 I O h6 h7;omega
theorem OG(w:World):Below w.heap.size w { w with drawn:=w.drawn+1}:=⟨rfl,rfl,rfl,au2 _,λ_ _=>rfl⟩
theorem agB(N:dr P C)(V:mz C.G φ){id:Nat}{f:List Oper}{d:Bool}(Y: ∀o∈f,∀d,o.dst=some d->d<φ.n/\φ.D d=true){z:ASt}{l:List ER}
  (Z:nodup (f.filterMap (·.dst))=true) (y:Ab C d f z=some l) (hn:uc l) (hr: ∃m,ic φ ν m [] z a w)
  (hQ: ∀a w ν W,(∃m,ic φ ν m W (applyAll l z) a w)->Q .normal a w):(Code.region id f.toArray d).wp P Q a w:=by
 unfold Ab at y;cases d with
 |false=>
  refine wp_region ?_;have:=afz (φ:=φ) (Q:=Q) N V f Y f 0 [] z a w ν l y rfl Z (λd _ h=>(by cases h)) hn hr (λa' w' ν' W' h=>hQ a' w' ν' W' h);simpa[aAl]using this
 |true=>
  simp only[cnd]at y;split at y;case h_2=>cases y
  rename_i A a5;have O:=HF (pre:= []) (acc:= []) a5 rfl (λj o h=>by simp at h);simp only[awv]at O;have a6: ∀k i,k<f.length->tb (A.getD k 0) i=true->i<k:=by
   intro k;induction k using Nat.strongRecOn with
   |_ k S=>
    intro i T hi;obtain⟨x,_,_,a7,h|h⟩:=(O k f[k] (avc T)).qX i hi
    ·omega
    ·have:=S x.on a7 i (by omega) h;omega
  obtain⟨M,a9,b0⟩: ∃M,evDr C f A M z f 0 []=some l/\oA C A M f l 0 f l=true:=by
   unfold IN at y;split at y;case h_2=>cases y
   rename_i l1 b2;cases hi:oA C A [] f l1 0 f l1 with
   |true=>rw[hi]at y;cases y;exact⟨_,b2,hi⟩
   |false=>
    rw[hi]at y;simp only[cnd]at y;split at y;case h_2=>cases y
    rename_i l2 b3;obtain⟨h1,h2⟩:=ba y;cases h2;exact⟨_,b3,h1⟩
  obtain⟨b4,hl⟩:=IQ a6 (pre:= []) (acc:= []) a9 rfl rfl (λk o T=>by simp at T);refine wp_region_any N.mixed ?_;have L: ∀i,(Array.replicate f.toArray.size false).getD i false=false:=by
   intro i;rw[avl];rcases axe i f.toArray.size with h|h
   ·rw[Array.getElem?_replicate,ava h];rfl
   ·rw[ayn (by simpa using h)];rfl
  refine Qx (φ:=φ) (J:=λ_=>True) Z (Qd b0) O b4 hl (λi o own e u a w ν m K ho I _ d0 d5 U b5 hr hK=> ?_) (λ_ _ _=>hQ) f.toArray.size _ a _ ν ?_ (by simp) trivial (λj o _ hj=>by rw[L]at hj;cases hj) ?_
  ·refine step_ok (φ:=φ) N V f (Y o (axc ho)) ho (OB U I.aQ) (HI U I.ev) I.dst I.gb b5 (λp hp hh=> ?_) hr (hK λ_ _ _=>trivial)
   have h3:under (iO C f A M z l i o) own p:=hn _ (axc I.at_) (under (iO C f A M z l i o) own p) (by simp[underO,hp]);exact Bw h3 (λd b hm g c hg c9=>hh d b hm g c (U.slot d g hg) c9)
  ·rw[G8 f.length (λi _=>L i)];simp
  ·obtain⟨m,hr⟩:=hr
   refine⟨m,?_⟩;have h1:applyM (λi=>(Array.replicate f.toArray.size false).getD i false) 0 l z=z:=by
    have: ∀(l:List ER) (k:Nat) (s:ASt),applyM (λi=>(Array.replicate f.toArray.size false).getD i false) k l s=s:=by
     intro l;induction l with
     |nil=>intro k s;rfl
     |cons x l S=>intro k s;simp only[applyM];rw[L];exact S _ _
    exact this l 0 z
   have h2:dstsM (λi=>(Array.replicate f.toArray.size false).getD i false) 0 f= []:=by
    cases h3:dstsM (λi=>(Array.replicate f.toArray.size false).getD i false) 0 f with
    |nil=>rfl
    |cons t r=>
     have:t∈dstsM (λi=>(Array.replicate f.toArray.size false).getD i false) 0 f:=by rw[h3];simp
     obtain⟨j,o,_,_,h5⟩:=pP.1 this;rw[L]at h5;cases h5
   rw[h1,h2];exact⟨hr.sat.ext (OG w),hr.tags,hr.yes⟩
theorem afd{f:Nat}{cp:Cp}(h:panCp C o=some (f,cp)): ∃c g,o.op= .call c/\c.callee= .value (.func f)/\C.xt f=none/\C.zk f=none/\C.pg f=some cp/\cp.pn=some g:=by
 unfold panCp at h;split at h;all_goals grind
theorem PG(O:dr P C)(S:mz C.G φ){l:List Oper}{k:Nat}(b9:l[k]? =some o)(T: ∀d,o.dst=some d->d<φ.n/\φ.D d=true)(hg:me o=false){f:Nat}{cp:Cp}(U:panCp C o=some (f,cp))
  (i:evOp C [] W st o=some e) {p:Option Prop} {s:ASt} (j:Lc C st o cp=some (p,true,s)) (V: ∀q,p=some q->q) (hs:aG φ ν m st a w)
  (Y: ∀t w',aG φ ν t s a w'->Q (.panic [{ v:=cp.pv,recovered:=false}]) a w'):wpOp P l.toArray Q k K a w:=by
 obtain⟨c,g,y,I,Z,h8,J,c9⟩:=afd U;have d0:o.guard=none:=by
  grind [me]
 unfold wpOp;have h9:l.toArray[k]? =some o:=by simp_all
 simp only[h9];rw[ava (by simp_all [Region.wanted])];refine .inl ?_;simp only[evOp,y,I,Z,h8,J]at i;split at i;case h_2=>cases i
 rename_i d d5 hd L;unfold Lc at j;simp only[y,L]at j;split at j;case h_2=>cases j
 rename_i p' b' bx z;simp only[aup,awk]at j;obtain⟨rfl,rfl,rfl⟩:=j;unfold evPtrN at i;split at i;case h_2=>cases i
 rename_i e0 M;obtain⟨a4,fn,a5,a6,a7⟩:=O.pg f cp J;have N:et ν []:=λx A=>by cases A
 have a9:e0.bQ=p':=by
  have h1:=M;have h2:=z;unfold evPtr at h1;unfold mq at h2;split at h1;case h_2=>cases h1
  rename_i ks vs b0 b3;simp only[b0,b3]at h2;split at h1;case h_2=>cases h1
  rename_i d7 vc b4 b5;simp only[b4,b5]at h2;split at h1;case h_2=>cases h1
  rename_i kc b6;simp only[b6]at h2;split at h1;case h_2=>cases h1
  rename_i x A;simp only[A]at h2;split at h1;case h_2=>cases h1
  obtain⟨_,h1⟩:=ba h1;simp only[aup]at h1;simp only[aup,awk]at h2;rw[<- h1,<- h2.1]
 refine ok_ptr2 (args:=c.args.map a.eval) M hd (by simpa using pS hs N L) ?_ a4 S (by rw[a9];exact V) N hs T (λh=>absurd z (h _ _)) (λp2 b2 hb t w' b7=> ?_)
 ·simp only[execOp,y,resolve,I,Act.eval,Deferred.ofValue,auy,avh,aus,invoke]
  rw[rG a5 a6 a7];simp[Act.eval]
 ·rw[z]at hb
  simp only[aup,awk]at hb;obtain⟨_,_,rfl⟩:=hb;exact Y t w' b7
theorem QF: ∀{n j:Nat},j<n->j∈Fb n
 |0,j,h=>by omega
 |n+1,j,h=>by
  simp only[Fb,avv];by_cases f:j=n
  ·omega
  ·exact .inr (QF (by omega))
theorem aeQ(U:dr P C)(h9:mz C.G φ){id:Nat}{y:List Oper}{d:Bool}(hD: ∀o∈y,∀d,o.dst=some d->d<φ.n/\φ.D d=true){A:ASt}{l:List ER}
  (b9:nodup (y.filterMap (·.dst))=true) (z:Ab C d y A=some l) {i:Nat} {p:Option Prop} {v:Value} {s:ASt} (L:panR C d y l A i=some (p,true,v,s)) (hn:uc (l.take i)) (hp: ∀q,p=some q->q)
  (hr: ∃m,ic φ ν m [] A a w) (hQ: ∀a w ν,Sat φ ν s a w->Q (.panic [{ v:=v,recovered:=false}]) a w):(Code.region id y.toArray d).wp P Q a w:=by
 unfold panR at L;split at L;case h_2=>simp_all
 rename_i o S;split at L;case h_2=>simp_all
 rename_i f cp d0;split at L;case h_2=>simp_all
 rename_i p' b' s' d5;obtain⟨hc,L⟩:=ba L;obtain⟨I,a2⟩:=aF hc;have I:=fX I;simp only[aup,awk]at L;obtain⟨rfl,rfl,rfl,rfl⟩:=L;have e4:i<y.length:=(List.getElem?_eq_some_iff.1 S).1;have d6:=hD o (axc S);have d7:o.guard=none:=by
  unfold me at I;split at I
  ·assumption
  ·cases I
 unfold Ab at z;cases d with
 |false=>
  refine wp_region ?_;simp only[cnd]at z;have e5:List.range' 0 y.length=List.range' 0 i++(i::List.range' (i+1) (y.length-i-1)):=by
   rw[show y.length=i+((y.length-i-1)+1)by omega,<- List.range'_append_1,avs,aBh];simp
  have:=GX (Q:=Q) U h9 y hD (i::List.range' (i+1) (y.length-i-1)) i y 0 [] A a w ν l z rfl (by omega) b9 (λd _ h=>(by cases h)) hn hr (λa' w' ν' W' a7 T=> ?_)
  ·rw[<- e5]at this
   simpa[aAl]using this
  ·rw[wpOps_cons]
   rw[show y.drop i=o::y.drop (i+1)by rw[<- (List.getElem?_eq_some_iff.1 S).2,List.getElem_cons_drop]]at T;simp only[evList]at T;split at T;case h_2=>cases T
   rename_i own aQ;split at T;case h_2=>cases T
   rename_i e0 e7;have a9:own= []:=by unfold ownOf at aQ;rw[d7]at aQ;simp only[aup]at aQ;exact aQ.symm
   subst a9;obtain⟨m',a7⟩:=a7;exact PG U h9 S d6 I d0 e7 d5 hp a7.sat (λm2 w2 b2=>hQ a' w2 ν' ⟨m2,b2⟩)
 |true=>
  simp only[cnd]at z a2;unfold Zn at a2;split at z;case h_2=>cases z
  rename_i N d9;simp only[d9]at a2;obtain⟨a3,b3⟩:=aF a2;have a3:i+1=y.length:=by
   have:=beq_eq a3;have b4: ∀(l:List Oper),tt l=l.length:=by
    intro l;induction l with
    |nil=>rfl
    |cons x l V=>simp[tt,V]
   rw[b4]at this;exact this
  have e8: ∀j,j<i->tb (N.getD i 0) j=true:=λj Y=>jQ b3 j (QF Y)
  have b5:=HF (pre:= []) (acc:= []) d9 rfl (λj o h=>by simp at h);simp only[awv]at b5;have e9: ∀k i,k<y.length->tb (N.getD k 0) i=true->i<k:=by
   intro k;induction k using Nat.strongRecOn with
   |_ k V=>
    intro i hk hi;obtain⟨x,_,_,f0,h|h⟩:=(b5 k y[k] (avc hk)).qX i hi
    ·omega
    ·have:=V x.on f0 i (by omega) h;omega
  obtain⟨M,f1,f2⟩: ∃M,evDr C y N M A y 0 []=some l/\oA C N M y l 0 y l=true:=by
   unfold IN at z;split at z;case h_2=>cases z
   rename_i l1 a3;cases hi:oA C N [] y l1 0 y l1 with
   |true=>rw[hi]at z;cases z;exact⟨_,a3,hi⟩
   |false=>
    rw[hi]at z;simp only[cnd]at z;split at z;case h_2=>cases z
    rename_i l2 b3;obtain⟨h1,h2⟩:=ba z;cases h2;exact⟨_,b3,h1⟩
  obtain⟨b4,hl⟩:=IQ e9 (pre:= []) (acc:= []) f1 rfl rfl (λk o hk=>by simp at hk);refine wp_region_any U.mixed ?_;have Z: ∀i,(Array.replicate y.toArray.size false).getD i false=false:=by
   intro i;rw[avl];rcases axe i y.toArray.size with h|h
   ·rw[Array.getElem?_replicate,ava h];rfl
   ·rw[ayn (by simpa using h)];rfl
  refine Qx (φ:=φ) (J:=λu=>u i=false) b9 (Qd f2) b5 b4 hl (λk o' own e u a w ν m K ho O hJ f3 f4 a5 f5 hr hK=> ?_) (λu hu hJ=>by have:=hu i e4;rw[hJ]at this;cases this) y.toArray.size _ a _ ν ?_ (by simp) (Z i) (λj o _ Y=>by rw[Z]at Y;cases Y) ?_
  ·by_cases e1:k=i
   ·subst e1
    rw[S]at ho;cases ho;have e2:=HI a5 O.ev;have f8:applyM u 0 l A=applyAll (l.take k) A:=by
     have f9:l=l.take k++l.drop k:=(awi k l).symm;have g0: ∃x,l.drop k= [x]:=by
      have:(l.drop k).length=1:=by simp;omega
      exact List.length_eq_one_iff.1 this
     obtain⟨x,hx⟩:=g0;conv=>lhs;rw[f9,xm]
     have g2:(l.take k).length=k:=by simp;omega
     rw[g2,hx,avs];simp only[applyM,f3,cnd];exact Hw _ 0 A (λj Y=>by rw[avs];exact f4 j (e8 j (by omega)))
    rw[f8]at hr e2;have a9:own= []:=by have h1:=O.aQ;unfold ownOf at h1;rw[d7]at h1;simp only[aup]at h1;exact h1.symm
    subst a9;exact PG U h9 S d6 I d0 e2 d5 hp hr.sat (λm2 w2 b2=>hQ a w2 ν ⟨m2,b2⟩)
   ·refine step_ok U h9 y (hD o' (axc ho)) ho (OB a5 O.aQ) (HI a5 O.ev) O.dst O.gb f5 (λp hp hh=> ?_) hr (hK λv hv g4=>(g4 i (λh=>e1 h.symm)).trans hJ)
    have g5:k<i:=by have:=(List.getElem?_eq_some_iff.1 ho).1;omega
    have g6:(⟨own,underO (iO C y N M A l k o') own e.bQ,e⟩:ER)∈l.take i:=by
     refine axc (i:=k) ?_;rw[av7,ava g5];exact O.at_
    have h3:under (iO C y N M A l k o') own p:=hn _ g6 (under (iO C y N M A l k o') own p) (by simp[underO,hp]);exact Bw h3 (λd b hm g c I g7=>hh d b hm g c (a5.slot d g I) g7)
  ·rw[G8 y.length (λi _=>Z i)];simp
  ·obtain⟨m,hr⟩:=hr
   refine⟨m,?_⟩;have h1:applyM (λi=>(Array.replicate y.toArray.size false).getD i false) 0 l A=A:=by
    have: ∀(l:List ER) (k:Nat) (s:ASt),applyM (λi=>(Array.replicate y.toArray.size false).getD i false) k l s=s:=by
     intro l;induction l with
     |nil=>intro k s;rfl
     |cons x l V=>intro k s;simp only[applyM];rw[Z];exact V _ _
    exact this l 0 A
   have h2:dstsM (λi=>(Array.replicate y.toArray.size false).getD i false) 0 y= []:=by
    cases h3:dstsM (λi=>(Array.replicate y.toArray.size false).getD i false) 0 y with
    |nil=>rfl
    |cons t r=>
     have:t∈dstsM (λi=>(Array.replicate y.toArray.size false).getD i false) 0 y:=by rw[h3];simp
     obtain⟨j,o,_,_,h5⟩:=pP.1 this;rw[Z]at h5;cases h5
   rw[h1,h2];exact⟨hr.sat.ext (OG w),hr.tags,hr.yes⟩
end
end
end Go.Proofs.YtcfinjcapeemeaaGreatDoor.S
