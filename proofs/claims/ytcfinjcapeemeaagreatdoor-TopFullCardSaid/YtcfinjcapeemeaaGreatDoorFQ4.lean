/- Part of the proof that the law TopFull holds for every input. -/
import Derived.Test.YtcfinjcapeemeaaGreatDoorFQ3
set_option linter.all false
set_option maxRecDepth 100000
set_option maxHeartbeats 4000000
namespace Go.Proofs.YtcfinjcapeemeaaGreatDoor.S
open Go Go.RowKit IntKind Go.Proofs.Tryz
section
section
variable {φ:Fr} {ν ν':Nat->Bool} {m:Map} {st:ASt} {a:Act} {w w':World} {own:List (bS)} {W:List Nat} {P:Program} {C:Ctx} {o:Oper} {e:Eff}
 {K:Act->World->Prop}
theorem xP{j ρ:Type}{rt:j->ρ}{Post:ρ->Prop}: ∀{l:List ER} {t:Tr j ρ},(needs l t).dp rt Post->uc l/\t.dp rt Post
 | [],t,h=>⟨λe k=>(by cases k),h⟩
 |e::r,t,h=>by
  simp only[needs]at h;split at h
  ·rename_i p i
   obtain⟨h1,h2⟩:=xP h.2;refine⟨λx f q g=> ?_,h2⟩;rcases List.mem_cons.1 f with rfl|f
   ·rw[i]at g;cases g;exact h.1
   ·exact h1 x f q g
  ·rename_i i
   obtain⟨h1,h2⟩:=xP h;refine⟨λx f q g=> ?_,h2⟩;rcases List.mem_cons.1 f with rfl|f
   ·rw[i]at g;cases g
   ·exact h1 x f q g
theorem NY{id:Nat}{f:Array Oper}{d:Bool}{o:Oper}{t:Nat}(g:o∈f.toList)(h:o.dst=some t):t∈dsts (.region id f d):=
 List.mem_filterMap.2 ⟨o,g,h⟩
theorem xR(hC:dr P C){b3 ρ:Type}{Ret:Exit->Nat->(Nat->Prop)->(Nat->Nat->Prop)->b3->Act->World->Prop}{L:Nat->Option (LS b3)}{rt:b3->ρ}{Post:ρ->Prop}{φ:Fr}(b4:mz C.G φ)
  (f5: ∀e n O O' X X' r a w,(∀b,O b->O' b)->(∀b p,X' b p->X b p)->Ret e n O X r a w->Ret e n O' X' r a w):
  ∀(c:Code) (st:ASt) (k:Ex->ASt->Tr b3 ρ) (R:Exit->Act->World->Prop) (a:Act) (w:World),Plain st->Sat φ ν0 st a w->(∀d∈dsts c,d<φ.n/\φ.D d=true)->
   (∀body∈loopsIn c,∀s,L (cP body)=some s->cG P C.G Ret body s)->(evCode C L c st k).dp rt Post->
   (∀x T A w',Plain T->Sat φ ν0 T A w'->(k x T).dp rt Post->R (exOf x) A w')->
   (∀e,zP e-> ∀r A w',Post (rt r)->Ret e φ.n0 φ.mU φ.X0 r A w'->kK φ w'->kL φ A->R e A w')->c.wp P R a w:=by
 intro c;induction c with
 |skip=>intro st k R a w J hs M N z I hr;exact wp_skip (I .normal st a w J hs z)
 |region id e5 d=>
  intro st k R a w J hs M N z I hr;simp only[evCode]at z;cases hnd:nodup (e5.toList.filterMap (·.dst))with
  |false=>rw[hnd]at z;exact z.elim
  |true=>
   rw[hnd]at z;simp only[cnd]at z;split at z;case h_2=>exact z.elim
   rename_i l hl;obtain⟨m,hm⟩:=hs.dQ;have e6:ic φ ν0 m [] (dQ (C.fz id) st) a w:=⟨hm,λt g hg x Y=>(by rw[G7]at hg;rw[J t g hg]at Y;cases Y),λd Q=>(by cases Q)⟩;have f6:uc l->(k .normal (applyAll l (dQ (C.fz id) st)).plain).dp rt Post->(Code.region id e5 d).wp P R a w:=λhn z=>agB hC b4 (λo ho d Q=>M d (NY ho Q)) hnd hl hn ⟨m,e6⟩
    (λA w' ν' W' ⟨m',h'⟩=>I .normal _ A w' Od ⟨m',h'.sat.plain⟩ z)
   split at z
   ·grind [xP]
   ·rename_i i hi
    split at z;case h_2=>exact z.elim
    rename_i p b v s f7;obtain⟨hn,z⟩:=xP z;have f8:(∀q,p=some q->q)/\(Tr.ite b (k (.dL v) s.plain) (needs (l.drop i) (k .normal (applyAll l (dQ (C.fz id) st)).plain))).dp rt Post:=by
     cases p with
     |none=>exact⟨(λq U=>by cases U),z⟩
     |some q=>exact⟨(λq' U=>by cases U;exact z.1),z.2⟩
    obtain⟨d6,f9,a5⟩:=f8;cases hb:b with
    |false=>
     obtain⟨g0,z⟩:=xP (a5 hb);refine f6 (λx Y=> ?_) z;rw[<- awi i l,aww]at Y;rcases Y with Y|Y
     ·exact hn x Y
     ·exact g0 x Y
    |true=>
     subst hb;exact aeQ hC b4 (λo ho d Q=>M d (NY ho Q)) hnd hl f7 hn d6 ⟨m,e6⟩ (λA w' ν' ⟨m',h'⟩=>I (.dL v) _ A w' Od ⟨m',h'.plain⟩ (f9 rfl))
 |seq x y b5 b6=>
  intro st k R a w J hs M N z I hr;simp only[evCode]at z;have b7:=λd Q=>M d (by simp only[dsts,bI,aww];exact .inl Q)
  have b9:=λd Q=>M d (by simp only[dsts,bI,aww];exact .inr Q)
  refine wp_seq (b5 st _ (Exit.then (y.wp P R) R) a w J hs b7 (λb hb=>N b (by simp[loopsIn,hb])) z (λx' T A w' a4 Z V=> ?_) (λe he r A w'=>by rcases he with rfl|⟨v,rfl⟩;exact hr _ (.inl rfl) r A w';exact hr _ (.inr ⟨v,rfl⟩) r A w'));cases x' with
  |normal=>exact b6 T k R A w' a4 Z b9 (λb hb=>N b (by simp[loopsIn,hb])) V I hr
  |exit id=>exact I (.exit id) T A w' a4 Z V
  |ret=>exact I .ret T A w' a4 Z V
  |dL v=>exact I (.dL v) T A w' a4 Z V
 |cond c x y b5 b6=>
  intro st k R a w J hs M N z I hr;simp only[evCode]at z;have b7:=λd Q=>M d (by simp only[dsts,bI,aww];exact .inl Q)
  have b9:=λd Q=>M d (by simp only[dsts,bI,aww];exact .inr Q)
  split at z;case h_3=>exact z.elim
  case h_2=>
   rename_i p hc;obtain⟨m,hm⟩:=hs;obtain⟨cv,d7,g2⟩: ∃b,a.eval c= .bool b/\(b=true->p):=bo hm (λx Y=>by cases Y) hc
   refine wp_cond_split d7 (λht=> ?_) (λhf=> ?_)
   ·exact b5 st k R a w J ⟨m,hm⟩ b7 (λb hb=>N b (by simp[loopsIn,hb])) (z.1 (g2 ht)) I hr
   ·exact b6 st k R a w J ⟨m,hm⟩ b9 (λb hb=>N b (by simp[loopsIn,hb])) z.2 I hr
  rename_i cv hc;obtain⟨m,hm⟩:=hs;have d7:=bo hm (λx Y=>by cases Y) hc;refine wp_cond_split d7 (λht=> ?_) (λhf=> ?_)
  ·exact b5 st k R a w J ⟨m,hm⟩ b7 (λb hb=>N b (by simp[loopsIn,hb])) (z.1 ht) I hr
  ·exact b6 st k R a w J ⟨m,hm⟩ b9 (λb hb=>N b (by simp[loopsIn,hb])) (z.2 hf) I hr
 |block id b ih=>
  intro st k R a w J hs M N z I hr;simp only[evCode]at z;refine wp_block (ih st _ (Exit.inBlock id R) a w J hs M N z (λx T A w' a4 Z V=> ?_) (λe he r A w'=>by rcases he with rfl|⟨v,rfl⟩;exact hr _ (.inl rfl) r A w';exact hr _ (.inr ⟨v,rfl⟩) r A w'));cases x with
  |normal=>exact I .normal T A w' a4 Z V
  |ret=>exact I .ret T A w' a4 Z V
  |dL v=>exact I (.dL v) T A w' a4 Z V
  |exit j=>
   simp only[exOf,Exit.inBlock];by_cases hj:j=id
   ·rw[ava hj]
    simp only at V;rw[bV hj]at V;exact I .normal T A w' a4 Z V
   ·rw[au6 hj]
    simp only at V;rw[bL hj]at V;exact I (.exit j) T A w' a4 Z V
 |loop body ih=>
  intro e8 k R a w g3 hs M N z I hr;simp only[evCode]at z;split at z;case h_2=>exact z.elim
  rename_i s g4;have Z:=hs.dQ (ks:=s.fz);have J:Plain (dQ s.fz e8):=λt g hg=>by rw[G7]at hg;exact g3 t g hg
  generalize dQ s.fz e8=st at z Z J;split at z;case h_2=>exact z.elim
  rename_i k6 g5 g6 e9 c9;obtain⟨c9,hN⟩:=aF c9;split at z;case h_2=>exact z.elim
  rename_i kc xc g7 g8 hnd;split at z;case h_2=>exact z.elim
  rename_i kv xv g9 i3;obtain⟨m,hm⟩:=Z;have e0:=M;obtain⟨i4,i5,m',e1,i6,i7,i9⟩:=PT hm g6 e9 (aF c9).1 hN g7 g8 hnd g9 i3;have j0:=e1.ati (body:=body) hm;have j1: ∀k bx,(cW s (enc s.K kv) (enc s.X xv)).box k=some bx->bx.jN=false->k∈firsts s.xb\/k∈vnames s.aM:=by
   intro k bx h1 h2;rcases iJ h1 with h3|⟨_,h3⟩
   ·exact .inl (lf h3).1
   ·rcases iJ h3 with h4|⟨_,h4⟩
    ·obtain⟨_,cs',rfl⟩:=lf h4;cases h2
    ·exact .inr (jR h4).1
  have j2: ∀k∈firsts s.xb,∃bx,(cW s (enc s.K kv) (enc s.X xv)).box k=some bx/\bx.jN=false:=by
   intro k S;obtain⟨bx,hb⟩:=xq S;obtain⟨_,cs',rfl⟩:=lf hb;exact⟨.cells cs',by show ep _ _=_;rw[hb];rfl,rfl⟩
  have f1: ∀k∈keysX s.aM 0 g5,st.box k≠none/\ ∀b p,m k=some (b,p)->0<p:=by
   obtain⟨k8,l4,j3,j4,rfl⟩:=Hn e9;obtain⟨l5,_,j5⟩:=Du hm j3;obtain⟨l6,_,j6,_⟩:=nz hm j4;have j7:=aj.append j5 j6;have key: ∀(vs:List (cT)) (i:Nat) (cs:List Cell) (us:List Value),aE m (XA φ m) w cs us-> ∀k∈keysX vs i cs,st.box k≠none/\ ∀b p,m k=some (b,p)->0<p:=by
    intro vs i cs;induction cs generalizing i with
    |nil=>intro us _ k S;cases S
    |cons c cs j8=>
     intro us hc k S;cases us with
     |nil=>exact hc.elim
     |cons u us=>
      have rest:=j8 (Nat.succ i) us hc.2 k;simp only[keysX]at S;split at S
      ·split at S
       ·rename_i e k0
        rcases List.mem_cons.1 S with rfl|S
        ·obtain⟨b,p,h1,h2,_⟩:=hc.1
         exact⟨(λhn=>by rw[hm.bK _ hn]at h1;cases h1),(λb' p' h3=>by rw[h1]at h3;cases h3;exact h2)⟩
        ·exact rest S
       ·exact rest S
      ·exact rest S
   exact key _ _ _ _ j7
  have j9:=N body (by simp[loopsIn]) s g4 kv xv (inner φ m m' _ body a w) a w ⟨b4.Gz,b4.gl⟩
   (λp d6=>by rw[d6]at z;exact z.1) i4 i5 (λd Q=>⟨(e0 d Q).1,cN.2 Q⟩) ⟨_,j0⟩
  refine wp_mono j9 λe A w' U=> ?_
  have a5:=by
   cases hi:s.inv with
   |none=>rw[hi]at z;exact z
   |some p=>rw[hi]at z;exact z.2
  have b2: ∀e,(zP e/\ ∃R r,s.R=some R/\R kv xv=some r/\Ret e (inner φ m m' (cW s (enc s.K kv) (enc s.X xv)) body a w).n0 (inner φ m m' (cW s (enc s.K kv) (enc s.X xv)) body a w).mU (inner φ m m' (cW s (enc s.K kv) (enc s.X xv)) body a w).X0 r A w'/\kK (inner φ m m' (cW s (enc s.K kv) (enc s.X xv)) body a w) w'/\kL (inner φ m m' (cW s (enc s.K kv) (enc s.X xv)) body a w) A)->R e A w':=by
   intro e ⟨he,U⟩;obtain⟨Rf,r,h1,h2,h3,h4,h9⟩:=U;rw[h1]at a5;have e2: ∀b,Wr (cW s (enc s.K kv) (enc s.X xv)) m' b->φ.B b\/φ.w0.heap.size<=b:=by
    rintro b ⟨k,bx,p,h5,h6,h7,h8⟩
    exact e1.own k bx b p h5 h6 h7 h8
   have k2: ∀b p,φ.X0 b p->(inner φ m m' (cW s (enc s.K kv) (enc s.X xv)) body a w).X0 b p:=by
    intro b p h;refine⟨.inl h,λhw=> ?_⟩;obtain⟨h5,h6,_⟩:=hm.x0 _ _ h;rcases e2 b hw with h7|h7
    ·exact h6 h7
    ·omega
   refine hr e he r A w' (a5.1 r h2) (f5 _ _ _ _ _ _ r A w' (λb hb=>hb.elim (e2 b) (λh=> .inr (auq hm.aN.2.2.2 h))) k2 h3) ⟨⟨h4.aN.1.trans hm.aN.1,h4.aN.2.1.trans hm.aN.2.1,h4.aN.2.2.1.trans hm.aN.2.2.1,auq hm.aN.2.2.2 h4.aN.2.2.2⟩,λb hb f4=> ?_,λb hb=> ?_⟩ ⟨h9.1.trans hm.defers,λt ht=>(h9.2 t (by
    show mem t (dsts body)=false;cases U:mem t (dsts body)with
    |false=>rfl
    |true=>rw[(e0 t (cN.1 U)).2]at ht;cases ht)).trans (hm.gA t ht)⟩
   ·refine(h4.dA b (au5 hb hm.aN.2.2.2) λhw=> ?_).trans (hm.dA b hb f4)
    rcases e2 b hw with h5|h5
    ·exact f4 h5
    ·omega
   ·exact⟨(h4.dW b (au5 hb hm.aN.2.2.2)).1.trans (hm.dW b hb).1,λp=>((h4.dW b (au5 hb hm.aN.2.2.2)).2 p).trans ((hm.dW b hb).2 p)⟩
  cases e with
  |exit id=>
   obtain⟨rfl,hR,m0,hi⟩:=U;obtain⟨h1,h2⟩:=aeX hm J e1 j1 i6 i7 i9 j2 (λk S=>(f1 k S).2) (λk S=>(f1 k S).1) c9 hN (λd Q=>(e0 d Q).2) hi;refine I (.exit s.exit) _ A w' h2 h1 ?_;cases hRR:s.R with
   |none=>rw[hRR]at a5;exact a5
   |some Rf=>rw[hRR]at a5;exact a5.2 (hR Rf hRR)
  |normal=>exact b2 _ U
  |ret=>exact b2 _ U
  |goto l=>exact b2 _ U
  |panic ch=>exact b2 _ U
  |outgrown=>exact b2 _ U
 |exit id=>intro st k R a w J hs M N z I hr;exact wp_exit (I (.exit id) st a w J hs z)
 |ret=>intro st k R a w J hs M N z I hr;exact wp_ret (I .ret st a w J hs z)
 |rangeFunc f ps m4 b=>intro st k R a w J hs M N z I hr;exact z.elim
 |scope b ih=>intro st k R a w J hs M N z I hr;exact z.elim
 |label l=>intro st k R a w J hs M N z I hr;exact z.elim
 |goto l=>intro st k R a w J hs M N z I hr;exact z.elim
 |refuse s=>intro st k R a w J hs M N z I hr;exact z.elim
def kJ(P:Program)(fn:Func)(ao:ah)(fr:Option Nat)(r:Ty)(e:Exit)(n0:Nat)(O:Nat->Prop)(X:Nat->Nat->Prop)(y:r.den)(a:Act)(w:World):Prop:=
 e= .ret/\ ∃v,(results fn a.tmps).run P w= .ok v w/\pj n0 fr w X ao r y v
theorem rD(X:Nat->Nat->Prop)(w:World):dG X w w:=⟨au2 _,λ_ _ _ _=>rfl,λ_ _=>rfl,λ_ _ _=>rfl⟩
theorem kJ.mono{fn:Func}{ao:ah}{fr:Option Nat}{r:Ty}{n0:Nat}{O f:Nat->Prop}{X X':Nat->Nat->Prop}{y:r.den}{e:Exit}(hX: ∀b p,X' b p->X b p)(h:kJ P fn ao fr r e n0 O X y a w):kJ P fn ao fr r e n0 f X' y a w:=by
 obtain⟨h1,v,h2,cs,h3,g,h4⟩:=h;exact⟨h1,v,h2,cs,h3.mono (rD _ _) (λb p _ h=>hX b p h) _ _ _,g,h4⟩
theorem run_mapM_results{fn:Func}(f:dr P C)(hs:aG φ ν m st a w): ∀{l:List ResultVar} {xs:List SV},resCells C fn st l=some xs->
  ∃vs:List Value,(l.mapM λx=>(match x with| .tmp t=>pure (a.tmps.getD t undef)| .cell b t=>do loadVar t (<- asAddr (a.tmps.getD b undef)):Sem Value)).run P w= .ok vs w/\aj (SR m (XA φ m) w) xs vs
 | [],xs,h=>by simp only[resCells,aup]at h;subst h;exact⟨[],rfl,trivial⟩
 | .tmp t::r,xs,h=>by
  simp only[resCells]at h;split at h;case h_2=>cases h
  rename_i v y g hl;cases h;obtain⟨vs,h1,h2⟩:=run_mapM_results f hs hl;have z:=lq hs (λx i=>by cases i) g;refine⟨a.tmps.getD t undef::vs,?_,z,h2⟩;simp_all
 | .cell b t::r,xs,h=>by
  simp only[resCells]at h;split at h;case h_2=>cases h
  rename_i k d y hb A hl;split at h;case h_2=>cases h
  rename_i cs I;split at h;case h_2=>cases h
  rename_i v g;obtain⟨J,h⟩:=ba h;cases h;have J:d.ty.n<=cs.length:=by simp_all [au7,gu]
  obtain⟨vs,h1,h2⟩:=run_mapM_results f hs hl;have s:=f.D t d A;obtain⟨kY,us,T,hm,L,M,u⟩:=xN hs (bo hs (λx i=>by cases i) hb) (.inl I);have N:=u.length;simp only[avd]at N;have O:(loadVar t ⟨kY,0,none⟩).run P w= .ok (cd d.agg (us.toList.take d.ty.n)) w:=
   rr s (by simp;omega) (λj Q=>by
    rw[avs,m1 M,au9,av7,ava Q,avy,awp (by omega)];rfl) s.one
  refine⟨cd d.agg (us.toList.take d.ty.n)::vs,?_,pV g (aj.take _ u),h2⟩;have S:a.tmps.getD b undef= .pointer (some ⟨kY,0,none⟩):=L;have U:((asAddr (a.tmps.getD b undef))>>=λx=>loadVar t x).run P w= .ok (cd d.agg (us.toList.take d.ty.n)) w:=by
   rw[auy,S];exact O
  rw[List.mapM_cons,auy];simp only[];rw[U,aus,auy,h1];rfl
theorem xI(hs:aG φ ν m st a w){T:TypeId}{ks:List Nat}: ∀{cs cs':List Cell} {us:List Value},gh false st cs=some cs'->freshL st T cs=true->aE m (XA φ m) w cs us->aj (ke φ.n0 T w) (cs'.map Cell.no) us
 | [],cs',us,h,j,f=>by simp only[gh,aup]at h;subst h;match us,f with| [],_=>exact trivial
 |c::cs,cs',[],h,j,f=>f.elim
 |c::cs,cs',u::us,h,j,f=>by
  simp only[gh]at h;split at h;case h_2=>cases h
  rename_i c1 r1 h1 h2;cases h;cases c with
  |bh e tl l=>
   cases tl with
   |no=>cases j
   |exact=>
    obtain⟨Q,t⟩:=aF j;simp only[unvC,aup]at h1;subst h1;refine⟨.inl ?_,xI hs (ks:=ks) h2 t f.2⟩;rcases f.1.2 with⟨_,g⟩|⟨A,_⟩
    ·omega
    ·cases l with|nil=>simp_all|cons=>cases Q
  |bq e k=>
   simp only[freshL]at j;have S: ∃o s I l,st.box k=some (.vec o s I l)/\freshL st T cs=true/\qZ T=s/\(o=true\/(Nat.ble lU T=true/\o=false)):=by
    grind [aF,beq_eq]
   obtain⟨o,s,I,l,J,t,U,V⟩:=S;simp only[unvC,J,cnd]at h1;split at h1;case h_2=>cases h1
   rename_i l' Y;cases h1;obtain⟨Z,a6⟩:=jn Y;subst Z;refine⟨?_,xI hs (ks:=ks) h2 t f.2⟩;obtain⟨b,p,hm,hp,x⟩:=f.1;obtain⟨b',p',h3,h4⟩:=hs.box k _ J;rw[hm]at h3;cases h3;rcases h4 with⟨_,rfl⟩|⟨rfl,vs,cap,⟨z9,L,a1⟩,b2,b3,b4,b5⟩|⟨h4,rfl,b6,T9,M⟩
   ·rcases x with⟨_,g⟩|⟨A,_⟩
    ·exact .inl g
    ·exact absurd rfl A
   ·rcases x with⟨h5,_⟩|⟨_,y,T2,g,i,N,O⟩
    ·omega
    ·refine .inr (.inl ⟨b,_,y,vs,g,hs.vn _ _ _ hm (by omega) (by omega),by rw[U];exact⟨z9,L,a1⟩,?_,O⟩)
     have:w.shape? b=some (s,vs.size):=by unfold World.shape?;rw[L]
     rw[this]at i;simp only[aup,awk]at i;exact i.2
   ·rcases V with z|⟨z,_⟩
    ·rw[z]at h4;cases h4
    ·rcases x with⟨h5,_⟩|⟨_,y,T2,g,i,N,O⟩
     ·omega
     ·rw[gq]at g N
      rw[M]at i;simp only[aup,awk]at i;exact .inr (.inr ⟨z,b,_,y,T9,g,M,i.2⟩)
  |_=>
   simp only[unvC,aup]at h1;subst h1;exact⟨trivial,xI hs (ks:=ks) h2 j f.2⟩
theorem PK(hs:aG φ ν m st a w){fr:Option Nat}{ks:List Nat}: ∀{xs i:List SV} {us:List Value},unvSs false st xs=some i->J9 st xs fr=true->aj (SR m (XA φ m) w) xs us->(∀k∈eg xs,k∈ks)->
  aj (SRg λc v=>CR m (Xc φ m ks) w c v/\ ∀T,fr=some T->ke φ.n0 T w c.no v) i us
 | [],i,us,h,j,g,l=>by simp only[unvSs,aup]at h;subst h;match us,g with| [],_=>exact trivial
 |x::xs,i,[],h,j,g,l=>g.elim
 |x::xs,i,u::us,h,j,g,l=>by
  simp only[unvSs]at h;split at h;case h_2=>cases h
  rename_i x1 N h1 h2;cases h;have A: ∀T,fr=some T->freshL st T x.cells=true:=λT f=>by subst f;exact(aF j).1
  have J:J9 st xs fr=true:=by
   cases fr with
   |none=>rfl
   |some T=>exact(aF j).2
  refine⟨?_,PK hs h2 J g.2 (λk s=>l k (by simp[eg,bI,s]))⟩;have I:=TH hs h1 g.1 (ks:=ks) (λ_ k s=>l k (by simp[eg,bI,s]));cases x with
  |one c=>
   simp only[unvS]at h1;split at h1;case h_2=>cases h1
   rename_i t y;cases h1;refine⟨I,λT f=> ?_⟩;have:=xI hs (ks:=ks) (cs:= [c]) (cs':= [t]) (us:= [u]) (by simp[gh,y]) (A T f) ⟨g.1,trivial⟩;exact this.1
  |agg cs=>
   simp only[unvS]at h1;split at h1;case h_2=>cases h1
   rename_i t y;cases h1;obtain⟨vs,rfl,h3⟩:=I;obtain⟨O,h4,h5⟩:=g.1;cases h4;refine⟨vs,rfl,?_⟩;have L: ∀T,fr=some T->aj (λc v=>ke φ.n0 T w c.no v) t vs.toList:=by
    intro T f;have h6:=xI hs (ks:=ks) y (A T f) h5;have key: ∀(cs:List Cell) (us:List Value),aj (ke φ.n0 T w) (cs.map Cell.no) us->aj (λc v=>ke φ.n0 T w c.no v) cs us:=by
     intro cs;induction cs with
     |nil=>intro us h;cases us with|nil=>trivial|cons=>exact h.elim
     |cons c cs z=>intro us h;cases us with|nil=>exact h.elim|cons u us=>exact⟨h.1,z us h.2⟩
    exact key _ _ h6
   have M: ∀(cs:List Cell) (us:List Value),aE m (Xc φ m ks) w cs us->(∀T,fr=some T->aj (λc v=>ke φ.n0 T w c.no v) cs us)->aj (λc v=>CR m (Xc φ m ks) w c v/\ ∀T,fr=some T->ke φ.n0 T w c.no v) cs us:=by
    intro cs;induction cs with
    |nil=>intro us h _;cases us with|nil=>trivial|cons=>exact h.elim
    |cons c cs z=>intro us h h2;cases us with|nil=>exact h.elim|cons u us=>exact⟨⟨h.1,λT f=>(h2 T f).1⟩,z us h.2 λT f=>(h2 T f).2⟩
   exact M _ _ h3 L
theorem Q9(N:dr P C)(hs:aG φ ν m st a w){fn:Func}{ao:ah}{fr:Option Nat}{r:Ty}{x:Ex}{Post:r.den->Prop}(h:(evRet C fn ao fr r x st).dp (λy=>y) Post):
  (∀id,x≠ .exit id)/\(∀v,x≠ .dL v)/\ ∃y,Post y/\kJ P fn ao fr r .ret φ.n0 φ.mU φ.X0 y a w:=by
 unfold evRet at h;split at h
 ·exact h.elim
 ·exact h.elim
 ·exact h.elim
 ·rename_i O Q S
  refine⟨λid l=>O id l,λv l=>Q v l,?_⟩;split at h;case h_2=>exact h.elim
  rename_i z U;split at h;case h_2=>exact h.elim
  rename_i xs V Y;split at h;case h_2=>exact h.elim
  rename_i cs Z;split at h;case h_2=>exact h.elim
  rename_i y A;obtain⟨vs,h1,h2⟩:=run_mapM_results N hs U;have a1:=PK hs V Y h2 (λk f=>f);obtain⟨cv,h3,I⟩:=Bu Z a1;have h4:=I.mono λ_ _ h=>h.1
  have h5:=gZ A h4;obtain⟨a2,_⟩:=yU A;have a3: ∀T,fr=some T->aj (ke φ.n0 T w) (enc r y) cv:=by
   intro T hT;rw[a2];have key: ∀(cs:List Cell) (us:List Value),aj (λc v=>CR m (Xc φ m (eg z)) w c v/\ ∀T,fr=some T->ke φ.n0 T w c.no v) cs us->aj (ke φ.n0 T w) (cs.map Cell.no) us:=by
    intro cs;induction cs with
    |nil=>intro us h;cases us with|nil=>trivial|cons=>exact h.elim
    |cons c cs g=>intro us h;cases us with|nil=>exact h.elim|cons u us=>exact⟨h.1.2 T hT,g us h.2⟩
   exact key _ _ I
  have b6:=by
   have a5: ∀(cs:List Cell) (us:List Value),aE m (XA φ m) w cs us-> ∀k∈vksL cs,∀b p,m k=some (b,p)->0<p:=by
    intro cs;induction cs with
    |nil=>intro us _ k f;cases f
    |cons c cs g=>
     intro us i k f;cases us with
     |nil=>exact i.elim
     |cons u us=>
      cases c with
      |bq e k0=>
       simp only[vksL,avv]at f;rcases f with rfl|f
       ·obtain⟨b,p,h1,h2,_⟩:=i.1
        intro b' p' h3;rw[h1]at h3;cases h3;exact h2
       ·exact g us i.2 k f
      |_=>exact g us i.2 k f
   have a6: ∀(xs:List SV) (us:List Value),aj (SR m (XA φ m) w) xs us-> ∀k∈eg xs,∀b p,m k=some (b,p)->0<p:=by
    intro xs;induction xs with
    |nil=>intro us _ k f;cases f
    |cons x xs g=>
     intro us i k f;cases us with
     |nil=>exact i.elim
     |cons u us=>
      simp only[eg,bI,aww]at f;rcases f with f|f
      ·exact a5 _ _ (SV.rN i.1) k f
      ·exact g us i.2 k f
   exact a6 _ _ h2
  have a7:di w (Xc φ m (eg z)) φ.X0:=by
   intro b q _ l;refine⟨.inl l,λk f p a9 c9 hm=> ?_⟩;obtain⟨h6,h7,_⟩:=hs.x0 _ _ l;cases hb0:st.box k with
   |none=>rw[hs.bK k hb0]at hm;cases hm
   |some bx0=>
    have b0:bx0.jN=false:=by
     cases bx0 with
     |ro cs=>
      obtain⟨b2,_,_,J,_⟩:=hs.box k _ hb0;rw[hm]at J;cases J;omega
     |_=>rfl
    rcases hs.own k bx0 b p hb0 b0 hm a9 with L|L
    ·exact h7 L
    ·omega
  refine⟨y,h,rfl,?_⟩;have b3:(results fn a.tmps).run P w= .ok (if h:vs.toArray.size=1 then vs.toArray[0]else .tuple vs.toArray) w:=by
   unfold results;rw[auy,ax4];have:(List.toArray<$>fn.results.toList.mapM λx=>(match x with| .tmp t=>pure (a.tmps.getD t undef)| .cell b t=>do loadVar t (<- asAddr (a.tmps.getD b undef)):Sem Value)).run P w= .ok vs.toArray w:=by
    rw[map_eq_pure_bind,auy,h1];rfl
   exact Eq.trans (av2 (λq=>Result.andThen q _) this) rfl
  refine⟨_,b3,cv,h5.mono (rD _ _) a7 _ _ _,a3,?_⟩;cases ao with
  |none=>
   match vs,h3 with| [],_=>rfl
  |one M=>
   match vs,h3 with
   | [v],h3=>exact h3
   | [],h3=>cases M<;>cases h3
   |v::v2::r2,h3=>
    cases M with
    |none=>obtain⟨_,_,h6⟩:=h3;cases h6
    |some n=>obtain⟨_,_,_,_,_,h6⟩:=h3;cases h6
  |tup j=>
   simp only[shapesOf]at h3;have b4: ∀(j:List (Option Nat)) (vs cv:List Value),ec j vs cv->vs.length=j.length:=by
    intro j;induction j with
    |nil=>intro vs cv h;cases vs with|nil=>rfl|cons v vs=>cases h
    |cons s j g=>
     intro vs cv h;cases vs with
     |nil=>cases s<;>cases h
     |cons v vs=>
      cases s with
      |none=>obtain⟨cs',_,h6⟩:=h;simp[g _ _ h6]
      |some n=>obtain⟨ds,cs',_,_,_,h6⟩:=h;simp[g _ _ h6]
   have b5:j.length≠1:=by
    intro h6;match j,h6 with| [s],_=>exact S s rfl
   refine⟨vs,?_,h3⟩;rw[dif_neg (by simpa[b4 _ _ _ h3]using b5)]
inductive an (K X ρ:Type) where
 |next (k:K) (x:X)|brk (k:K) (x:X)|ret (r:ρ)
def readX{f:Type}(s:LS f)(st:ASt):Option s.X.den:=
 match qI (rdS st s.xs) (rdW st s.xb)with
 |some c=>match unvX st s.aM 0 c,nodup (keysX s.aM 0 c)with|some g,true=>dec s.X g|_,_=>none
 |none=>none
def EO{f:Type}(s:LS f)(st:ASt):Option s.K.den:=
 match qI (rdS st s.ks) (rdB st s.kb)with
 |some c=>match gh true st c with|some g=>dec s.K g|none=>none
 |none=>none
def evRound{f:Type}(s:LS f)(ret:Ex->ASt->Tr f f)(x:Ex)(st:ASt):Tr f (an s.K.den s.X.den f):=
 match x with
 | .normal=>match EO s st,readX s st,andd (tm s) (Ae s st [])with|some k,some y,true=> .ret (.next k y)|_,_,_=> .bad
 | .exit id=>match EO s st,readX s st,andd (tm s) (Ae s st [])with|some k,some y,true=>cnd (Nat.beq id s.exit) (.ret (.brk k y)) .bad|_,_,_=> .bad
 | .ret=>match ret .ret st with| .ret r=> .ret (.ret r)|_=> .bad
 | .dL v=>match ret (.dL v) st with| .ret r=> .ret (.ret r)|_=> .bad
def RH{h:Type}(s:LS h)(μ:s.K.den->s.X.den->Nat)(f:s.K.den)(g:s.X.den):an s.K.den s.X.den h->Prop
 | .next k y=>k=f/\(∀p,s.inv=some p->p f y)/\μ f y<μ f g/\s.G f y=s.G f g/\(∀R,s.R=some R->R f y=R f g)
 | .brk k y=>k=f/\s.G f g=y/\(∀R,s.R=some R->R f g=none)
 | .ret r=> ∃R,s.R=some R/\R f g=some r
theorem aeG{f:Type}{s:LS f}{i xc:List Cell}:Plain (cW s i xc):=by
 intro t g h;have x: ∀(l:List (Nat×Option Nat)) (cs:List Cell),slotsOf l cs t=some g->g.tags= []:=by
  intro l;induction l with
  |nil=>intro cs h;cases h
  |cons p r j=>
   obtain⟨u,k⟩:=p;intro cs h;cases k with
   |none=>
    cases cs with
    |nil=>exact j [] h
    |cons c cs=>
     grind [slotsOf,bV,bL]
   |some n=>
    grind [slotsOf,bV,bL]
 rcases iJ h with h|⟨_,h⟩
 all_goals grind [xw,iJ,Be]
theorem G1{k:Type}{s:LS k}(hs:aG φ ν m st a w){j:s.K.den}{h:s.X.den}(f:EO s st=some j)(g:readX s st=some h)
  (i:andd (tm s) (Ae s st [])=true):Fit s.X h/\Sat φ ν0 (cW s (enc s.K j) (enc s.X h)) a w:=by
 obtain⟨l,i⟩:=aF i;unfold EO at f;unfold readX at g;split at f;case h_2=>cases f
 rename_i J t;split at f;case h_2=>cases f
 rename_i L u;split at g;case h_2=>cases g
 rename_i M x;split at g;case h_2=>cases g
 rename_i xc y z;obtain⟨_,h2,A,I,_⟩:=PT hs t x i l u y z f g;exact⟨h2,A,I.sat hs⟩
theorem akA(V:dr P C){l:Type}{Ret:Exit->Nat->(Nat->Prop)->(Nat->Nat->Prop)->l->Act->World->Prop}{L:Nat->Option (LS l)}{body:Code}{s:LS l}{ret:Ex->ASt->Tr l l}
  (Y: ∀e n O J X X' r a w,(∀b,O b->J b)->(∀b p,X' b p->X b p)->Ret e n O X r a w->Ret e n J X' r a w)
  (M: ∀(φ:Fr) x st a w r,(x= .ret\/ ∃v,x= .dL v)->Sat φ ν0 st a w->ret x st= .ret r->Ret (exOf x) φ.n0 φ.mU φ.X0 r a w)
  (Z: ∀b∈loopsIn body,∀N,L (cP b)=some N->cG P C.G Ret b N)
  (μ:s.K.den->s.X.den->Nat)
  (h8: ∀g h,Fit s.K g->Fit s.X h->(∀p,s.inv=some p->p g h)->(evCode C L body (cW s (enc s.K g) (enc s.X h)) (evRound s ret)).dp an.ret (RH s μ g h)):
  cG P C.G Ret body s:=by
 intro g h φ a w h9 a1 a2 a3 hD hs;refine wp_loop_ghost (λn a w=> ∃x,n=μ g x/\Fit s.X x/\(∀p,s.inv=some p->p g x)/\s.G g x=s.G g h/\(∀R,s.R=some R->R g x=R g h)/\Sat φ ν0 (cW s (enc s.K g) (enc s.X x)) a w)
  (μ g h) ⟨h,rfl,a3,a1,rfl,λ_ _=>rfl,hs⟩ ?_
 rintro n a w ⟨x,rfl,hf,hi,Q,t,hs⟩
 refine xR V h9 Y body _ _ _ a w aeG hs hD Z (h8 g x a2 hf hi) (λe S u w' b2 a6 f=> ?_) (λe T r u w' hp hr j hd=> ?_)
 ·obtain⟨U,i⟩:=a6
  cases e with
  |normal=>
   simp only[evRound]at f;split at f;case h_2=>exact f.elim
   rename_i k y j A I;obtain⟨rfl,h2,h3,h4,h5⟩:=f;exact⟨_,h3,y,rfl,(G1 i j A I).1,h2,h4.trans Q,λR z=>(h5 R z).trans (t R z),(G1 i j A I).2⟩
  |exit id=>
   simp only[evRound]at f;split at f;case h_2=>exact f.elim
   rename_i k y j A I;cases hid:Nat.beq id s.exit with
   |false=>rw[hid]at f;exact f.elim
   |true=>
    rw[hid]at f;obtain⟨rfl,h2,h3⟩:=f;refine⟨beq_eq hid,λR z=>by rw[<- t R z];exact h3 R z,?_⟩;rw[<- Q,h2];exact(G1 i j A I).2
  |ret=>
   simp only[evRound]at f;split at f;case h_2=>exact f.elim
   rename_i r hr;obtain⟨R,h1,h2⟩:=f;exact⟨.inl rfl,R,r,h1,by rw[<- t R h1];exact h2,M φ .ret S u w' r (.inl rfl) ⟨U,i⟩ hr,i.lD,i.nL⟩
  |dL v=>
   simp only[evRound]at f;split at f;case h_2=>exact f.elim
   rename_i r hr;obtain⟨R,h1,h2⟩:=f;exact⟨.inr ⟨v,rfl⟩,R,r,h1,by rw[<- t R h1];exact h2,M φ (.dL v) S u w' r (.inr ⟨v,rfl⟩) ⟨U,i⟩ hr,i.lD,i.nL⟩
 ·obtain⟨R,h1,h2⟩:=hp
  have hq:zP e/\ ∃R r,s.R=some R/\R g h=some r/\Ret e φ.n0 φ.mU φ.X0 r u w'/\kK φ w'/\kL φ u:=⟨T,R,r,h1,by rw[<- t R h1];exact h2,hr,j,hd⟩
  rcases T with rfl|⟨v,rfl⟩<;>exact hq
theorem ku{g ρ:Type}{rt:g->ρ}{d:ρ}: ∀{t:Tr g ρ},t.safe->t.dp rt λr=>r=t.val rt d
 | .ret r,_=>rfl
 | .ite c t e,h=>by
  refine⟨λi=> ?_,λi=> ?_⟩
  ·subst i;exact ku (h.1 rfl)
  ·subst i;exact ku (h.2 rfl)
 | .bQ p t,h=>⟨h.1,ku h.2⟩
 | .opt o t,h=>by
  refine⟨λr hr=>by subst hr;rfl,λj=> ?_⟩;subst j;exact ku (h rfl)
 | .alt p a b,h=>by
  refine⟨λk=> ?_,ku h.2⟩;obtain⟨h1,h2⟩:=h.1 k;have h3:=ku (rt:=rt) (d:=d) h1;have key: ∀(t:Tr g ρ) (u:ρ),t.leaf=some u->t.val rt d=u:=by
   intro t;induction t with
   |ret r=>intro u f;exact axk f
   |bQ p t l=>intro u f;exact l u f
   |_=>intro u f;cases f
  cases ha:a.leaf with
  |none=>rw[ha]at h2;exact h2.elim
  |some u=>
   cases hb:b.leaf with
   |none=>rw[ha,hb]at h2;exact h2.elim
   |some v=>
    rw[ha,hb]at h2;have h2:u=v:=h2;show a.dp rt λr=>r=b.val rt d
    simp_all
 | .bad,h=>h.elim
theorem dp.mono{i ρ:Type}{rt:i->ρ}{Post j:ρ->Prop}(f: ∀r,Post r->j r): ∀{t:Tr i ρ},t.dp rt Post->t.dp rt j
 | .ret r,h=>f r h
 | .ite c t e,h=>⟨λg=>dp.mono f (h.1 g),λg=>dp.mono f (h.2 g)⟩
 | .bQ p t,h=>⟨h.1,dp.mono f h.2⟩
 | .opt o t,h=>⟨λr hr=>f _ (h.1 r hr),λk=>dp.mono f (h.2 k)⟩
 | .alt p a b,h=>⟨λl=>dp.mono f (h.1 l),dp.mono f h.2⟩
 | .bad,h=>h.elim
theorem A9{X:Nat->Nat->Prop}: ∀{vs:List SV} {us:List Value} {i t:Nat} {g:GS},aj (SR m X w) vs us->initSlots vs i t=some g->g.tags= []/\ ∃u,us[t-i]? =some u/\i<=t/\VR m X w g.tv u
 | [],us,i,t,g,_,h=>by cases h
 |v::r,u::us,i,t,g,f,h=>by
  simp only[initSlots]at h;by_cases j:t=i
  ·rw[bV j]at h
   cases h;subst j;exact⟨rfl,u,by simp,au2 _,f.1⟩
  ·rw[bL j]at h
   obtain⟨h1,k,h2,h3,h4⟩:=A9 f.2 h;have h3:i+1<=t:=h3;refine⟨h1,k,?_,by omega,h4⟩;rw[show t-i=(t - (i+1))+1 by omega];simpa using h2
 |_::_,[],_,_,_,f,_=>f.elim
theorem apJ(T:dr P C){f:FuncId}{fn:Func}(M:P.funcs[f]? =some fn){ct:Ct}{L:Nat->Option (LS ct.r.den)}{c:Code}(hb:fn.body=some c){dflt:ct.r.den}
  (U: ∀body∈loopsIn c,∀s,L (cP body)=some s->cG P C.G (kJ P fn ct.ao ct.fresh ct.r) body s)
  (V: ∀x,Fit ct.p x->(∀q,ct.pre=some q->q x)->(evFn C fn ct.p ct.ax ct.ao ct.fresh ct.r L x).safe)
  (Y: ∀x,(evFn C fn ct.p ct.ax ct.ao ct.fresh ct.r L x).val (λy=>y) dflt=ct.F x):dY P C.G f ct:=by
 intro x w X args cs hH hX Z h8 J;have i:=ku (rt:=λy=>y) (d:=dflt) (V x (lz J) Z);rw[Y]at i;unfold evFn at i;rw[hb]at i;split at i;case h_2=>exact i.elim
 rename_i c' vs h9 a1;cases h9;cases hck:dR (λd=>Nat.ble (Nat.succ d) fn.ntmps) (dsts c)with
 |false=>rw[hck]at i;exact i.elim
 |true=>
  rw[hck]at i;simp only[cnd]at i;let m:Map:=λ_=>none
  let a0:Act:={ tmps:=args++Array.replicate (fn.ntmps-args.size) undef,defers:= []}
  let φ:Fr:={ n:=a0.tmps.size,w0:=w,a0:=a0,B:=λ_=>False,D:=λ_=>true,X0:=X,n0:=w.heap.size,base:=w,gl:=C.G.gl}
  have a2:XA φ m=X:=by
   funext b p
   refine propext ⟨λh=> ?_,λh=> .inl h⟩;rcases h with h|⟨k,p0,h1,_⟩
   ·exact h
   ·cases h1
  have a3:aj (SR m (XA φ m) w) vs args.toList:=by rw[a2];exact rE a1 h8 (ja J)
  have N: ∀t g,initSlots vs 0 t=some g->g.tags= []/\VR m (XA φ m) w g.tv (a0.tmps.getD t undef):=by
   intro t g z;obtain⟨h1,u,h2,_,h4⟩:=A9 a3 z;refine⟨h1,?_⟩;have:a0.tmps.getD t undef=u:=by
    rw[azw,avy]at h2;show(args++_).getD t undef=u;have a4:t<args.size:=(Array.getElem?_eq_some_iff.1 h2).1;rw[avl,ax0 a4,h2];rfl
   rw[this];exact h4
  have a5:aG φ ν0 m { slot:=λt=>initSlots vs 0 t,box:=λ_=>none} a0 w:={
   tmps:=rfl
   defers:=rfl
   slot:=λt g z _=>(N t g z).2
   skip:=λt g z ht=>absurd (by rw[(N t g z).1];intro x J;cases J) ht
   box:=λk bx j=>by cases j
   inj:=λk k' b p p' h=>by cases h
   low:=λk b p h=>by cases h
   bK:=λ_ _=>rfl
   own:=λk bx b p h=>by cases h
   vn:=λk b p h=>by cases h
   dK:=λk b p h=>by cases h
   n0:=au2 _
   fN:=GK.refl λb hb=>C.G.low hH hb
   aN:=⟨rfl,rfl,rfl,au2 _⟩
   dA:=λ_ _ _=>rfl
   dW:=λ_ _=>⟨rfl,λ_=>rfl⟩
   x0:=λb p h=>⟨(hX b p h).1,λM=>M,(hX b p h).2⟩
   gA:=λt ht=>by cases ht}
  have Q: ∀l w',kK φ w'->l.defers= []->kJ P fn ct.ao ct.fresh ct.r .ret w.heap.size φ.mU X (ct.F x) l w'->bodyPost P fn (λe w'=> ∃v,e= .returned v/\Below w.heap.size w w'/\pj w.heap.size ct.fresh w' X ct.ao ct.r (ct.F x) v) .ret l w':=by
   intro l w' j A ⟨_,v,hr,a6⟩;exact⟨A,v,hr,v,rfl,⟨j.aN.1,j.aN.2.1,j.aN.2.2.1,j.aN.2.2.2,λk a7=>j.dA k a7 (λh=>h)⟩,a6⟩
  refine aBf M hb (xR (φ:=φ) (Ret:=kJ P fn ct.ao ct.fresh ct.r) T ⟨hH,rfl⟩ (λe n O O' X X' r a w hO h hr=>hr.mono h) c _ _ _ a0 w (λt g z=>(N t g z).1) ⟨m,a5⟩
   (λd A=>⟨?_,rfl⟩) U i (λe c0 l w' c9 ⟨m',I⟩ a9=> ?_) (λe he r l w' S hr j A=> ?_))
  ·have:=au7 (jQ hck d A)
   show d<(args++Array.replicate (fn.ntmps-args.size) undef).size;simp;omega
  ·obtain⟨b0,b2,y,rfl,hr⟩:=Q9 T I a9
   cases e with
   |exit id=>exact absurd rfl (b0 id)
   |dL v=>exact absurd rfl (b2 v)
   |normal=>exact Q l w' I.lD I.defers hr
   |ret=>exact Q l w' I.lD I.defers hr
  ·have S:r=ct.F x:=S
   subst S;have b3:=hr.1;subst b3;exact Q l w' j A.1 hr
end
end
theorem xT{P:Program}{t:TypeId}{ty:Ty}{a:Bool}(h:(P.info? t).map (λi=>(i.size,i.zero))=some (ty.n,some (cd a (zeroVs ty)))):lC P t ty a:=by
 rw[av6]at h;obtain⟨i,h1,h2⟩:=h;cases h2':i.zero with
 |none=>simp_all
 |some z=>simp only[awk]at h2;exact⟨i,h1,h2.1,by simp_all⟩
theorem ai6{P:Program}{t:TypeId}{d:TD}{e:TypeDesc}(a:P.underlying t=some e)(hi:lC P t d.ty d.agg)
  (f:d.agg=(match e with| .struct _=>true| .array _ _=>true|_=>false)) (g:kindOk P d e) (h:d.agg=false->plainOk d.ty e) (h1:d.agg=false->d.ty.n=1):jL P t d where
 info:=hi
 desc:=⟨e,a,g,h⟩
 isAgg:=by
  intro w;unfold isAgg;rw[auy,avg a,aus,f];cases e<;>rfl
 one:=h1
theorem aiu{P:Program}{fs:List (aR)}(h:(fs.all λp=>(P.info? p.1).isSome)=true): ∀p∈fs,∃i,P.info? p.1=some i:=by
 intro p a;have:=List.all_eq_true.1 h p a;exact Option.isSome_iff_exists.1 this
def lookupD:List (Nat×TD)->Nat->Option TD
 | [],_=>none
 |(i,d)::r,t=>cnd (Nat.beq t i) (some d) (lookupD r t)
theorem G3: ∀{l:List (Nat×TD)} {t:Nat} {d:TD},lookupD l t=some d->(t,d)∈l
 | [],_,_,h=>by cases h
 |(i,f)::r,t,d,h=>by
  simp only[lookupD]at h;by_cases a:t=i
  ·grind [bV]
  ·rw[bL a]at h;exact awh _ (G3 h)
theorem agX{P:Program}{t:TypeId}{n:Nat}(h:(P.info? t).map (·.bytes)=some n): ∀i,P.info? t=some i->i.bytes=n:=by
 grind
def lookXt:List (Nat×Xt)->Nat->Option Xt
 | [],_=>none
 |(i,x)::r,t=>cnd (Nat.beq t i) (some x) (lookXt r t)
theorem N3{P:Program}{f:Nat}{x:Xt}{l:List (Nat×Xt)}(h1:tC P f x)(h: ∀g y,lookXt l g=some y->tC P g y): ∀g y,lookXt ((f,x)::l) g=some y->tC P g y:=by
 grind [lookXt,bV,bL]
def dU(P:Program)(dd:Nat)(t:TypeId)(ty:Ty)(a:Bool):Prop:=
 ∀(m:Map) (X:Nat->Nat->Prop) (w:World) (xs ys:List Cell) (r:Bool) (us vs:List Value),eqTy ty xs ys=some r->aE m X w xs us->aE m X w ys vs->
  (Op.equalIn dd t (cd a us) (cd a vs)).run P w= .ok r w
theorem RW{P:Program}{t:TypeId}{k:IntKind}(o:P.underlying t=some (.int k))(dd:Nat):dU P (dd+1) t (.int k) false:=by
 intro m X w xs ys r us vs f g h;unfold eqTy at f;split at f;case h_2=>cases f
 rename_i i a j b;obtain⟨l,s⟩:=ba f;obtain⟨h1,h2⟩:=aF l;match us,vs,g,h with
 | [u],[v],g,h=>
  have h3:u= .int i a:=g.1;have h4:v= .int j b:=h.1;rw[<- qm h1]at h3;rw[<- qm h2]at h4;simp_all [cd,run_equalIn_int]
theorem ahw{P:Program}{t:TypeId}(i:P.underlying t=some .bool)(dd:Nat):dU P (dd+1) t .bool false:=by
 intro m X w xs ys r us vs f g h;unfold eqTy at f;split at f;case h_2=>cases f
 rename_i a b;match us,vs,g,h with
 | [u],[v],g,h=>
  have h3:u= .bool a:=g.1;have h4:v= .bool b:=h.1;simp_all [cd,GV]
def H4(P:Program)(dd:Nat):List Field->Ty->Nat->Prop
 | [],_,_=>False
 | [f],ty,off=>f.name≠ "_" /\f.offset=off/\ ∃d,jL P f.type d/\d.ty=ty/\dU P dd f.type d.ty d.agg
 |f::fs,.pair a b,off=>f.name≠ "_" /\f.offset=off/\(∃d,jL P f.type d/\d.ty=a/\dU P dd f.type d.ty d.agg)/\H4 P dd fs b (Nat.add off a.n)
 |_,_,_=>False
theorem BS: ∀{ty:Ty} {xs ys:List Cell} {r:Bool},eqTy ty xs ys=some r->xs.length=ty.n/\ys.length=ty.n:=by
 intro ty;induction ty with
 |int k=>
  intro xs ys r h;unfold eqTy at h;split at h
  ·exact⟨rfl,rfl⟩
  simp_all
 |bool=>
  intro xs ys r h;unfold eqTy at h;split at h
  ·exact⟨rfl,rfl⟩
  simp_all
 |pair a b f g=>
  grind [eqTy,Ty.n]
 |_=>intro xs ys r h;cases h
theorem afm{P:Program}{dd:Nat}{m:Map}{X:Nat->Nat->Prop}{w:World}(us vs:Array Value): ∀(fs:List Field) (ty:Ty) (off:Nat) (xs ys:List Cell) (r:Bool),H4 P dd fs ty off->eqTy ty xs ys=some r->
  aE m X w xs (us.toList.drop off)->aE m X w ys (vs.toList.drop off)->(Op.eqFields dd us vs fs).run P w= .ok r w:=by
 intro fs;induction fs with
 |nil=>intro ty off xs ys r h;exact h.elim
 |cons f fs y=>
  have step: ∀(off:Nat) (d:TD) (xs ys:List Cell) (r:Bool),jL P f.type d->dU P dd f.type d.ty d.agg->f.name≠ "_" ->f.offset=off->eqTy d.ty xs ys=some r->
    aE m X w xs ((us.toList.drop off).take d.ty.n)->aE m X w ys ((vs.toList.drop off).take d.ty.n)->
    (Op.eqFields dd us vs (f::fs)).run P w=if r=true then(Op.eqFields dd us vs fs).run P w else .ok false w:=by
   intro off d xs ys r i o s t g j l;have hl:=BS g;have A:=j.length;have C:=l.length;simp only[avp,avo,avd]at A C;by_cases L:d.ty.n=0
   ·
    exfalso;have: ∀(ty:Ty) (xs ys:List Cell) (r:Bool),eqTy ty xs ys=some r->0<ty.n:=by
     intro ty;induction ty with
     |int k=>intro _ _ _ _;exact Nat.one_pos
     |bool=>intro _ _ _ _;exact Nat.one_pos
     |pair a b M N=>
      grind [eqTy,Ty.n]
     |_=>simp_all [eqTy]
    grind
   simp only[Op.eqFields,s,ne_eq,not_false_eq_true,azk,auy,t];rw[pT i (by omega),aus,pT i (by omega),aus,o m X w xs ys r _ _ g j l,aus];cases r<;>simp
  intro ty off xs ys r h g j l;match fs,ty,h,y,step with
  | [],ty,h,y,step=>
   obtain⟨s,t,d,i,rfl,o⟩:=h;have hl:=BS g;have u:=aj.take d.ty.n j;have x:=aj.take d.ty.n l;rw[avr (by omega)]at u x;rw[step off d xs ys r i o s t g u x];cases r<;>simp[Op.eqFields]
  |f2::fs,.pair a b,h,y,step=>
   obtain⟨s,t,⟨d,i,rfl,o⟩,I⟩:=h;unfold eqTy at g;split at g;case h_2=>cases g
   rename_i z J h1 h2;cases g;rw[step off d _ _ z i o s t h1 (aj.take _ j) (aj.take _ l)];cases z with
   |false=>simp
   |true=>
    have u:=aj.drop d.ty.n j;have x:=aj.drop d.ty.n l;rw[awo]at u x;simpa using y b (off+d.ty.n) _ _ J I h2 u x
  |f2::fs,.int k,h,_,_=>exact h.elim
  |f2::fs,.bool,h,_,_=>exact h.elim
  |f2::fs,.flt k,h,_,_=>exact h.elim
  |f2::fs,.str,h,_,_=>exact h.elim
  |f2::fs,.unit,h,_,_=>exact h.elim
  |f2::fs,.sl e,h,_,_=>exact h.elim
theorem gp{P:Program}{t:TypeId}{a:Array Field}{ty:Ty}(k:P.underlying t=some (.struct a))(f:P.stoodInHeld t=false){dd:Nat}(g:H4 P dd a.toList ty 0):dU P (dd+1) t ty true:=by
 intro m X w xs ys r us vs h i l;have j:P.fieldsOf t=a:=by simp_all [Program.fieldsOf]
 simp only[cd,azk];rw[run_equalIn_struct w dd t us.toArray vs.toArray (by simp_all) f,j];exact afm us.toArray vs.toArray a.toList ty 0 xs ys r g h (by simpa using i) (by simp_all)
theorem aii{P:Program}{t e:TypeId}(s:P.underlying t=some (.array 2 e)){d:TD}(a:jL P e d){dd:Nat}(j:dU P dd e d.ty d.agg):dU P (dd+1) t (.pair d.ty d.ty) true:=by
 intro m X w xs ys r us vs f g h;obtain⟨i,u,A,_⟩:=a.info.info;have hl:=BS f;have C:=g.length;have I:=h.length;simp only[Ty.n,Nat.add_eq]at hl;unfold eqTy at f;split at f;case h_2=>cases f
 rename_i k o h1 h2;cases f;have x:P.cellsOf e=d.ty.n:=by simp_all [Program.cellsOf]
 have y:=j m X w _ _ k _ _ h1 (aj.take d.ty.n g) (aj.take d.ty.n h);have J:=BS h2;have z:=j m X w _ _ o _ _ h2 (aj.drop d.ty.n g) (aj.drop d.ty.n h);have n1:=(aj.drop d.ty.n g).length;have L:=(aj.drop d.ty.n h).length;simp only[cd,azk];rw[run_equalIn_array w dd us.toArray vs.toArray s u,x];show(Op.eqItems dd e d.ty.n us.toArray vs.toArray [0,1]).run P w=_;simp only[Op.eqItems,auy,axb,azg];rw[pT a (by simp_all),aus,pT a (by simp_all),aus];simp only[awq];rw[y,aus];cases k with
 |false=>simp
 |true=>
  simp only[avw,awd,azj,axs];rw[auy,pT a (by simp_all),aus,auy,pT a (by simp_all),aus];rw[avr (l:=us.drop d.ty.n) (by omega),avr (l:=vs.drop d.ty.n) (by omega),auy,z,aus];cases o<;>simp
theorem fZ{P:Program}{t:TypeId}{ty:Ty}(h:dU P 10000 t ty true)(i:P.eqGuardType P.depth t=false)(m:Map)(X:Nat->Nat->Prop)(w:World)(xs ys:List Cell)(r:Bool)(us vs:List Value)
  (a:eqTy ty xs ys=some r) (f:aE m X w xs us) (g:aE m X w ys vs):
  (eqGuard .eql t (.tmp 0) (.tmp 0) (.agg us.toArray) (.agg vs.toArray)>>=λ_=>binOp .eql t (.agg us.toArray) (.agg vs.toArray)).run P w= .ok (.bool r) w/\
  (eqGuard .neq t (.tmp 0) (.tmp 0) (.agg us.toArray) (.agg vs.toArray)>>=λ_=>binOp .neq t (.agg us.toArray) (.agg vs.toArray)).run P w= .ok (.bool (!r)) w:=by
 have h1:=h m X w xs ys r us vs a f g;simp_all [cd,run_eqGuard_agg,run_eql_struct,run_neq_struct]
end Go.Proofs.YtcfinjcapeemeaaGreatDoor.S
