/- Part of the proof that the law TopFull holds for every input. -/
import Derived.Test.YtcfinjcapeemeaaGreatDoorFQ5
set_option linter.all false
set_option maxRecDepth 100000
set_option maxHeartbeats 4000000
namespace Go.Proofs.YtcfinjcapeemeaaGreatDoor.S
open Go Go.RowKit IntKind Go.Proofs.Tryz
section
def selfs:List (aR)->List (aR)
 | []=> []|(k,_)::r=>(k,k)::selfs r
def posIn:List Bool->Nat->List Nat
 | [],_=> []|true::m,i=>i::posIn m (Nat.succ i)|false::m,i=>posIn m (Nat.succ i)
def pa:List Bool->Nat->List SV->List SV
 | [],_,_=> []
 |true::m,i,vs=> .one (.box i 0)::pa m (Nat.succ i) vs
 |false::m,i,v::vs=>v::pa m (Nat.succ i) vs
 |false::_,_,[]=> []
def evRetP(C:Ctx)(fn:Func)(ao:ah)(r q:Ty)(ro:Bool)(f:List (aR))(x:Ex)(st:ASt):Tr Unit (r.den×q.den):=
 match x,ao with
 | .exit _,_=> .bad
 | .dL _,_=> .bad
 |_,.tup [_]=> .bad
 |_,_=>match resCells C fn st fn.results.toList with
  |some g=>match unvSs false st g,cnd ro (kq st f) (rdW st f),chkP st [] [] (firsts f) (selfs f)with
   |some xs,some h,true=>match shapes (shapesOf ao) xs,gh true st h with
    |some cs,some i=>match dec r cs,dec q i with|some y,some z=> .ret (y,z)|_,_=> .bad
    |_,_=> .bad
   |_,_,_=> .bad
  |none=> .bad
def evFnP(C:Ctx)(fn:Func)(p:Ty)(ax:List (Option Nat))(mask:List Bool)(sz:List Nat)(ro ex:Bool)(q:Ty)(ao:ah)(r:Ty)(L:Nat->Option (LS Unit))(x:p.den):Tr Unit (r.den×q.den):=
 match fn.body,unshape ax (eD ex ((enc p x).take (Nat.sub p.n (cI sz))))with
 |some c,some vs=>cnd (andd (dR (λd=>Nat.ble (Nat.succ d) fn.ntmps) (dsts c)) (andd (dR (λd=>nott (mem d (posIn mask 0))) (dsts c)) (Nat.beq (eZ (posIn mask 0)) (eZ sz))))
  (evCode C L c { slot:=λt=>initSlots (pa mask 0 vs) 0 t,box:=boxesOf (cnd ro .ro .cells) (zipN (posIn mask 0) sz) ((enc p x).drop (Nat.sub p.n (cI sz)))} (evRetP C fn ao r q ro (zipN (posIn mask 0) sz))) .bad
 |_,_=> .bad
section
variable {φ:Fr} {ν ν':Nat->Bool} {m:Map} {st:ASt} {a:Act} {w w':World} {own:List (bS)} {W:List Nat} {P:Program} {C:Ctx} {o:Oper} {e:Eff}
 {K:Act->World->Prop}
theorem xM: ∀{l:List (aR)} {k:Nat},k∈firsts l->(k,k)∈selfs l
 |(k,n)::r,j,h=>by
  simp only[firsts,avv]at h;rcases h with rfl|h
  ·simp[selfs]
  ·simp[selfs,xM h]
theorem Pt(N:dr P C)(hs:aG φ ν m st a w){fn:Func}{ao:ah}{r q:Ty}{ro:Bool}{u:List (aR)}{x:Ex}{rt:Unit->r.den×q.den}{Post:r.den×q.den->Prop}(h:(evRetP C fn ao r q ro u x st).dp rt Post):
  (∀id,x≠ .exit id)/\(∀v,x≠ .dL v)/\ ∃y z ks,Post (y,z)/\(∃v cv,(results fn a.tmps).run P w= .ok v w/\TR w (Xc φ m ks) r y cv/\zq ao cv v)/\
   (∃f,cZ m w u f/\TR w (XA φ m) q z f)/\(∀k∈firsts u,∃b,m k=some (b,0)/\a.tmps.getD k undef= .pointer (some ⟨b,0,none⟩)):=by
 unfold evRetP at h;split at h
 ·exact h.elim
 ·exact h.elim
 ·exact h.elim
 ·rename_i O Q S
  refine⟨λid i=>O id i,λv i=>Q v i,?_⟩;split at h;case h_2=>exact h.elim
  rename_i T U;split at h;case h_2=>exact h.elim
  rename_i xs V Y A Z;split at h;case h_2=>exact h.elim
  rename_i cs qc h8 h9;split at h;case h_2=>exact h.elim
  rename_i y z hy hz;obtain⟨vs,h1,h2⟩:=run_mapM_results N hs U;have a3:=rQ hs Y h2 (λ_ k I=>I);obtain⟨cv,h3,h4⟩:=pO h8 a3;obtain⟨f,a4,a5⟩: ∃f,cZ m w u f/\aE m (XA φ m) w V f:=by
   cases hro:ro with
   |true=>rw[hro]at A;obtain⟨f,j,l⟩:=Ee hs A;exact⟨f,j,l⟩
   |false=>rw[hro]at A;obtain⟨f,j,l,_⟩:=nz hs A;exact⟨f,j,l⟩
  have J:=qa hs h9 a5 (ks:= []) (λh=>by cases h);have a6:Xc φ m []=XA φ m:=by funext b q;simp[Xc]
  rw[a6]at J;have hP:=rL Z;refine⟨y,z,eg T,h,?_,⟨f,a4,gZ hz J⟩,λk I=> ?_⟩
  ·have a9:(results fn a.tmps).run P w= .ok (if h:vs.toArray.size=1 then vs.toArray[0]else .tuple vs.toArray) w:=by
    unfold results;rw[auy,ax4];have:(List.toArray<$>fn.results.toList.mapM λx=>(match x with| .tmp t=>pure (a.tmps.getD t undef)| .cell b t=>do loadVar t (<- asAddr (a.tmps.getD b undef)):Sem Value)).run P w= .ok vs.toArray w:=by
     rw[map_eq_pure_bind,auy];exact(av2 (λq=>Result.andThen q (λa w'=>Sem.run P (pure a.toArray) w')) h1).trans rfl
    exact Eq.trans (av2 (λq=>Result.andThen q _) this) rfl
   refine⟨_,cv,a9,gZ hy h4,?_⟩;cases ao with
   |none=>
    match vs,h3 with| [],_=>rfl
   |one L=>
    match vs,h3 with
    | [v],h3=>exact h3
    | [],h3=>cases L<;>cases h3
    |v::v2::r2,h3=>
     cases L with
     |none=>obtain⟨_,_,h6⟩:=h3;cases h6
     |some n=>obtain⟨_,_,_,_,_,h6⟩:=h3;cases h6
   |tup g=>
    simp only[shapesOf]at h3;have b0: ∀(g:List (Option Nat)) (vs cv:List Value),ec g vs cv->vs.length=g.length:=by
     intro g;induction g with
     |nil=>intro vs cv h;cases vs with|nil=>rfl|cons v vs=>cases h
     |cons s g M=>
      intro vs cv h;cases vs with
      |nil=>cases s<;>cases h
      |cons v vs=>
       cases s with
       |none=>obtain⟨cs',_,h6⟩:=h;simp[M _ _ h6]
       |some n=>obtain⟨ds,cs',_,_,_,h6⟩:=h;simp[M _ _ h6]
    have b2:g.length≠1:=by
     intro h6;match g,h6 with| [s],_=>exact S s rfl
    refine⟨vs,?_,h3⟩;rw[dif_neg (by simpa[b0 _ _ _ h3]using b2)]
  ·obtain⟨j,_,_,_⟩:=hP k k (xM I)
   obtain⟨b,l,g3⟩:=hs.slot k _ j (λx i=>by cases i);exact⟨b,l,g3⟩
def lookK:List Nat->List Nat->Nat->Option (aR)
 |k::ks,b::bs,u=>if u=k then some (b,0)else lookK ks bs u
 |_,_,_=>none
theorem mY: ∀{ks bs:List Nat} {u b p:Nat},lookK ks bs u=some (b,p)->p=0/\b∈bs/\u∈ks
 |k::ks,f::bs,u,b,p,h=>by
  simp only[lookK]at h;split at h
  ·simp_all
  ·obtain⟨h1,h2,h3⟩:=mY h;simp_all
 | [],_,_,_,_,h=>by cases h
 |_::_,[],_,_,_,h=>by cases h
theorem HH: ∀{ks bs:List Nat} {u g b p i:Nat},bs.Nodup->lookK ks bs u=some (b,p)->lookK ks bs g=some (b,i)->u=g
 |k::ks,y::bs,u,g,b,p,i,l,h,f=>by
  obtain⟨j,s⟩:=List.nodup_cons.1 l;simp only[lookK]at h f;split at h
  ·rename_i t
   cases h;split at f
   ·rename_i x;rw[t,x]
   ·exact absurd (mY f).2.1 j
  ·split at f
   ·cases f;exact absurd (mY h).2.1 j
   ·exact HH s h f
 | [],_,_,_,_,_,_,_,h,_=>by cases h
 |_::_,[],_,_,_,_,_,_,h,_=>by cases h
theorem Hs: ∀{ks bs:List Nat},ks.Nodup->ks.length=bs.length->aj (λk b=>lookK ks bs k=some (b,0)) ks bs
 | [],[],_,_=>trivial
 |k::ks,b::bs,i,hl=>by
  obtain⟨h1,h2⟩:=List.nodup_cons.1 i;refine⟨by simp[lookK],?_⟩;have key: ∀(f cs:List Nat),(∀x∈f,x≠k)->aj (λk b=>lookK ks bs k=some (b,0)) f cs->aj (λk' j=>lookK (k::ks) (b::bs) k'=some (j,0)) f cs:=by
   intro f;induction f with
   |nil=>intro cs _ h;cases cs with|nil=>trivial|cons=>exact h.elim
   |cons x f l=>
    intro cs g h;cases cs with
    |nil=>exact h.elim
    |cons c cs=>exact⟨by simp only[lookK];rw[au6 (g x (by simp))];exact h.1,l cs (λy s=>g y (by simp_all)) h.2⟩
  exact key _ _ (λx g e=>h1 (e▸g)) (Hs h2 (by simp_all))
 | [],_::_,_,hl=>by simp_all
 |_::_,[],_,hl=>by simp_all
theorem yh: ∀{mask:List Bool} {i k:Nat},k∈posIn mask i->i<=k
 |true::mask,i,k,h=>by
  simp only[posIn,avv]at h;rcases h with rfl|h
  ·omega
  ·have:=yh h;omega
 |false::mask,i,k,h=>by have:=yh (show k∈posIn mask (i+1)from h);omega
theorem GQ: ∀{mask:List Bool} {i:Nat},(posIn mask i).Nodup
 | [],_=>aA5
 |true::mask,i=>by
  refine List.nodup_cons.2 ⟨λh=> ?_,GQ⟩;have:=yh h;omega
 |false::mask,i=>GQ (mask:=mask)
theorem H8{X:Nat->Nat->Prop}: ∀{ks bs sz:List Nat} {vs pc:List Value},aj (λk b=>m k=some (b,0)) ks bs->gr w X bs sz vs pc->aj (λk v=> ∃b,m k=some (b,0)/\v= .pointer (some ⟨b,0,none⟩)) ks vs
 | [],[],sz,vs,pc,_,h=>by cases sz<;>cases vs<;>first|trivial|exact h.elim
 |k::ks,b::bs,n::sz,v::vs,pc,f,h=>⟨⟨b,f.1,h.1⟩,by obtain⟨_,_,us,T,i,_,_,_,g⟩:=h;exact H8 f.2 g⟩
 |k::ks,b::bs,[],vs,pc,_,h=>by cases vs<;>exact h.elim
 |k::ks,b::bs,n::sz,[],pc,_,h=>h.elim
 | [],_::_,_,_,_,h,_=>h.elim
 |_::_,[],_,_,_,h,_=>h.elim
theorem Io{X:Nat->Nat->Prop}: ∀{bs sz:List Nat} {vs pc:List Value},gr w X bs sz vs pc->bs.length=sz.length/\vs.length=sz.length/\pc.length=cI sz
 | [],[],[],pc,h=>by subst h;exact⟨rfl,rfl,rfl⟩
 |b::bs,n::sz,v::vs,pc,h=>by
  obtain⟨_,_,us,T,g,_,h1,rfl,f⟩:=h;obtain⟨i,j,k⟩:=Io f;simp_all [cI]
 | [],_::_,vs,_,h=>by cases vs<;>exact h.elim
 |_::_,[],vs,_,h=>by cases vs<;>exact h.elim
 | [],[],_::_,_,h=>h.elim
 |_::_,_::_,[],_,h=>h.elim
theorem Un{X:Nat->Nat->Prop}: ∀{bs sz:List Nat} {vs pc:List Value},gr w X bs sz vs pc-> ∀b∈bs,∀q,X b q
 |b::bs,n::sz,v::vs,pc,h,c,f,q=>by
  obtain⟨_,h1,us,T,i,_,_,_,g⟩:=h;rcases List.mem_cons.1 f with rfl|f
  ·simp_all
  ·exact Un g c f q
 | [],_,_,_,_,c,f,_=>by cases f
 |_::_,[],vs,_,h,_,_,_=>by cases vs<;>exact h.elim
 |_::_,_::_,[],_,h,_,_,_=>h.elim
theorem xE{X:Nat->Nat->Prop}{g:Map}: ∀{ks bs sz:List Nat} {vs pc f:List Value},aj (λk b=>g k=some (b,0)) ks bs->gr w X bs sz vs pc->cZ g w' (zipN ks sz) f->gr w' X bs sz vs f
 | [],[],sz,vs,pc,f,_,h,hb=>by cases sz<;>cases vs<;>first|exact hb|exact h.elim
 |k::ks,b::bs,n::sz,v::vs,pc,f,i,h,hb=>by
  obtain⟨h1,h2,us,T,A,_,_,_,l⟩:=h;obtain⟨I,s,t,u,j,x,y,rfl,z⟩:=hb;rw[i.1]at j;cases j;exact⟨h1,h2,s,t,u,x,y,rfl,xE i.2 l z⟩
 |k::ks,b::bs,[],vs,pc,_,_,h,_=>by cases vs<;>exact h.elim
 |k::ks,b::bs,n::sz,[],pc,_,_,h,_=>h.elim
 | [],_::_,_,_,_,_,h,_,_=>h.elim
 |_::_,[],_,_,_,_,h,_,_=>h.elim
theorem JC{X:Nat->Nat->Prop}: ∀{mask:List Bool} {i:Nat} {vs:List SV} {args:List Value},aj (SR m X w) vs (eV mask args)->aj (λk v=> ∃b,m k=some (b,0)/\v= .pointer (some ⟨b,0,none⟩)) (posIn mask i) (fj mask args)->args.length=mask.length->
  aj (SR m X w) (pa mask i vs) args
 | [],i,vs,[],_,_,_=>trivial
 | [],i,vs,_::_,_,_,hl=>by simp_all
 |_::_,i,vs,[],_,_,hl=>by simp_all
 |true::mask,i,vs,v::args,h1,h2,hl=>⟨h2.1,JC h1 h2.2 (by simp_all)⟩
 |false::mask,i,[],v::args,h1,h2,hl=>h1.elim
 |false::mask,i,s::vs,v::args,h1,h2,hl=>⟨h1.1,JC h1.2 h2 (by simp_all)⟩
theorem QD(b:Bool): ∀(cs:List Cell) (n:Nat),eD b (cs.take n)=(eD b cs).take n
 | [],n=>by simp[eD]
 |c::r,0=>by simp[eD]
 |c::r,n+1=>by cases c<;>simp only[ayj,eD,QD b r n]
theorem QC(b:Bool): ∀(cs:List Cell) (n:Nat),eD b (cs.drop n)=(eD b cs).drop n
 | [],n=>by simp[eD]
 |c::r,0=>rfl
 |c::r,n+1=>by cases c<;>simp only[ayk,eD,QC b r n]
theorem UK{b:Bool}: ∀{cs:List Cell},(∀c∈cs,c.pl=true)-> ∀c∈eD b cs,c.pl=true
 | [],_,c,f=>by cases f
 |d::r,h,c,f=>by
  have g:=UK (b:=b) (cs:=r) (λx i=>h x (by simp_all));cases d with
  |bh e tl l=>
   simp only[eD,avv]at f;rcases f with rfl|f
   ·rfl
   simp_all
  |_=>
   grind [eD]
theorem vK{X:Nat->Nat->Prop}{b:Bool}: ∀{cs:List Cell} {vs:List Value},aE m X w (eD b cs) vs->aE m X w (cs.map Cell.no) vs
 | [],vs,h=>h
 |c::r,[],h=>by cases c<;>exact h.elim
 |c::r,v::vs,h=>by
  cases c with
  |bh e tl l=>exact⟨⟨h.1.1,trivial⟩,vK h.2⟩
  |_=>exact⟨h.1,vK h.2⟩
theorem J5: ∀(t:Ty) (x:t.den),(enc t x).map Cell.no=enc t x/\ ∀c∈enc t x,c.pl=true:=by
 intro t;induction t with
 |pair a b g h=>
  intro x;simp only[enc,bI,ayl,(g x.1).1,(h x.2).1,aww,azc];intro c f;rcases f with f|f
  ·exact(g x.1).2 c f
  ·exact(h x.2).2 c f
 |unit=>intro x;exact⟨rfl,λc f=>by cases f⟩
 |_=>intro x;refine⟨rfl,λc f=> ?_⟩;simp only[enc,av8]at f;subst f;rfl
theorem IS{m g:Map}{X:Nat->Nat->Prop}: ∀{cs:List Cell} {us:List Value},(∀c∈cs,c.pl=true)->aE m X w cs us->aE g X w cs us
 | [],[],_,_=>trivial
 | [],_::_,_,h=>h.elim
 |_::_,[],_,h=>h.elim
 |c::cs,u::us,f,h=>⟨CR.VN (f c (by simp)) h.1,IS (λc i=>f c (by simp_all)) h.2⟩
theorem Bk{mk:List Cell->Bx}{X:Nat->Nat->Prop}{rest:List Value}: ∀{l:List (aR)} {cs:List Cell} {vs:List Value} {u:Nat} {bx:Bx},cZ m w l vs->aE m X w cs (vs++rest)->boxesOf mk l cs u=some bx->
  u∈firsts l/\ ∃cs',bx=mk cs'/\ ∃b us T,m u=some (b,0)/\w.heap[b]? =some (.cells us T (0,0))/\aE m X w cs' us.toList
 | [],cs,vs,u,bx,_,_,h=>by cases h
 |(k,n)::r,cs,vs,u,bx,j,i,h=>by
  obtain⟨b,us,T,f,hm,s,hl,rfl,h1⟩:=j;have h3:=aj.take n i;have h4:=aj.drop n i;rw[avb,show(us.toList++(f++rest)).take n=us.toList by simp_all]at h3;rw[avb,show(us.toList++(f++rest)).drop n=f++rest by simp_all]at h4;simp only[boxesOf]at h;by_cases g:u=k
  ·rw[bV g]at h
   cases h;subst g;exact⟨by simp[firsts],_,rfl,b,us,T,hm,s,h3⟩
  ·rw[bL g]at h
   obtain⟨h5,h6⟩:=Bk h1 h4 h;exact⟨by simp[firsts,h5],h6⟩
def nJ{f ρ:Type}(C:Ctx)(fn:Func)(p:Ty)(ax:List (Option Nat))(mask:List Bool)(sz:List Nat)(ro ex:Bool)(L:Nat->Option (LS f))(c c1:Code)(k:Ex->ASt->Tr f ρ)(x:p.den):Tr f ρ:=
 match unshape ax (eD ex ((enc p x).take (Nat.sub p.n (cI sz))))with
 |some vs=>cnd (andd (dR (λd=>Nat.ble (Nat.succ d) fn.ntmps) (dsts c)) (andd (dR (λd=>nott (mem d (posIn mask 0))) (dsts c)) (Nat.beq (eZ (posIn mask 0)) (eZ sz))))
  (evCode C L c1 { slot:=λt=>initSlots (pa mask 0 vs) 0 t,box:=boxesOf (cnd ro .ro .cells) (zipN (posIn mask 0) sz) ((enc p x).drop (Nat.sub p.n (cI sz)))} k) .bad
 |none=> .bad
structure tN (C:Ctx) (c:Code) (cp:Cp) (w:World) (X:Nat->Nat->Prop) (args:Array Value) (bs:List Nat) (φ:Fr):Prop where
 ok:mz C.G φ
 n0:φ.n0=w.heap.size
 dsts: ∀d∈dsts c,d<φ.n/\φ.D d=true
 below: ∀w',kK φ w'->eF (if cp.ro then[]else bs) w w'
 bu: ∀(m':Map) (a':Act),kL φ a'->(∀k∈posIn cp.mask 0,∃b,m' k=some (b,0)/\a'.tmps.getD k undef= .pointer (some ⟨b,0,none⟩))->aj (λk b=>m' k=some (b,0)) (posIn cp.mask 0) bs
 x0: ∀b p,X b p->b∈bs\/φ.X0 b p
 low: ∀b p,X b p->b<w.heap.size
 B: ∀b,φ.B b->b∈bs
 w0:φ.w0=w
theorem tN.F3{c:Code}{cp:Cp}{X:Nat->Nat->Prop}{args:Array Value}{bs:List Nat}{f:Map}{w0:World}(h:tN C c cp w0 X args bs φ)(s:aG φ ν f st a w)(i:aj (λk b=>f k=some (b,0)) (posIn cp.mask 0) bs):di w (XA φ f) X:=by
 intro b p _ g;rcases h.x0 b p g with j|g
 ·obtain⟨k,_,l⟩:=i.lk b j
  exact .inr ⟨k,0,l,rfl⟩
 ·exact .inl g
theorem tN.noC{c:Code}{cp:Cp}{X:Nat->Nat->Prop}{args:Array Value}{bs:List Nat}{f:Map}{w0:World}(h:tN C c cp w0 X args bs φ)(g:aG φ ν f st a w)(l:aj (λk b=>f k=some (b,0)) (posIn cp.mask 0) bs){s:List Nat}:di w (Xc φ f s) X:=by
 intro b p t i;refine⟨h.F3 g l b p t i,λj _ u x y z=> ?_⟩;have h4:=h.low b p i;have h5:=g.vn j b u z x y;rw[h.n0]at h5;omega
theorem C5(hC:dr P C){fn:Func}{cp:Cp}{Z ρ:Type}{Ret:Exit->Nat->(Nat->Prop)->(Nat->Nat->Prop)->Z->Act->World->Prop}{L:Nat->Option (LS Z)}{c c1:Code}(d7: ∀d∈dsts c1,d∈dsts c)
  {rt:Z->ρ} {Post:ρ->Prop} {k:Ex->ASt->Tr Z ρ} {R:Exit->Act->World->Prop}
  (d9: ∀e n O O' X X' r a w,(∀b,O b->O' b)->(∀b p,X' b p->X b p)->Ret e n O X r a w->Ret e n O' X' r a w)
  (hL: ∀body∈loopsIn c1,∀s,L (cP body)=some s->cG P C.G Ret body s)
  {x:cp.p.den} {w:World} {X:Nat->Nat->Prop} {args:Array Value} {cv pc:List Value} {bs:List Nat} (hH:C.G.H w) (hX: ∀b p,X b p->b<w.heap.size/\ ¬ C.G.gl b) (b4:args.size=cp.mask.length) (e1:bs.Nodup)
  (e2:ec cp.ax (eV cp.mask args.toList) cv) (N:gr w X bs cp.sz (fj cp.mask args.toList) pc) (a4:aE (λ_=>none) X w (eD cp.ex (enc cp.p x)) (cv++pc))
  (I:(nJ C fn cp.p cp.ax cp.mask cp.sz cp.ro cp.ex L c c1 k x).dp rt Post)
  (e3: ∀φ,tN C c cp w X args bs φ->φ.a0.defers= []-> ∀e U j w' Q,aG φ ν0 Q U j w'->Plain U->(k e U).dp rt Post->R (exOf e) j w')
  (e4: ∀φ,tN C c cp w X args bs φ->φ.a0.defers= []-> ∀e,zP e-> ∀r j w',Post (rt r)->Ret e φ.n0 φ.mU φ.X0 r j w'->kK φ w'->kL φ j->R e j w'):
  c1.wp P R { tmps:=args++Array.replicate (fn.ntmps-args.size) undef,defers:= []} w:=by
 have h8:=J5 cp.p x;have e5:=by
  have h1:=vK a4;rw[h8.1]at h1;exact gZ (by
   have key: ∀(t:Ty) (x:t.den),dec t (enc t x)=some x:=by
    intro t;induction t with
    |pair a b j0 j1=>
     simp_all [enc,dec,bI,lu,aw7,avr,aya,ax1,awv]
    |int k=>intro x;cases k<;>rfl
    |flt k=>intro x;cases k<;>rfl
    |sl e z=>
     intro l;simp only[enc,dec];unfold castL;have:tyeq e e=true:=by
      clear z l;induction e with
      |int k=>cases k<;>rfl
      |flt k=>cases k<;>rfl
      |pair x y e6 e7=>simp only[tyeq,e6,e7]
      |sl x z=>exact z
      |_=>rfl
     split
     ·rfl
     ·rename_i h;rw[this]at h;cases h
    |_=>intro x;rfl
   exact key _ _) h1
 unfold nJ at I;split at I;case h_2=>exact I.elim
 rename_i vs e8;obtain⟨e9,f0,b5,I⟩:dR (λd=>Nat.ble (Nat.succ d) fn.ntmps) (dsts c)=true/\dR (λd=>nott (mem d (posIn cp.mask 0))) (dsts c)=true/\(posIn cp.mask 0).length=cp.sz.length/\
   (evCode C L c1 { slot:=λt=>initSlots (pa cp.mask 0 vs) 0 t,box:=boxesOf (cnd cp.ro .ro .cells) (zipN (posIn cp.mask 0) cp.sz) ((enc cp.p x).drop (Nat.sub cp.p.n (cI cp.sz)))} k).dp rt Post:=by
  cases hck:andd (dR (λd=>Nat.ble (Nat.succ d) fn.ntmps) (dsts c)) (andd (dR (λd=>nott (mem d (posIn cp.mask 0))) (dsts c)) (Nat.beq (eZ (posIn cp.mask 0)) (eZ cp.sz)))with
  |false=>rw[hck]at I;exact I.elim
  |true=>
   rw[hck]at I;obtain⟨h1,h2⟩:=aF hck;obtain⟨h2,h3⟩:=aF h2;have h3:=beq_eq h3;rw[lv,lv]at h3;exact⟨h1,h2,h3,I⟩
 obtain⟨l1,l2,l3⟩:=Io N;let ks:=posIn cp.mask 0
 let m:Map:=lookK ks bs
 let a0:Act:={ tmps:=args++Array.replicate (fn.ntmps-args.size) undef,defers:= []}
 let φ:Fr:={ n:=a0.tmps.size,w0:=w,a0:=a0,B:=λb=>cp.ro=false/\b∈bs,D:=λt=>mem t (dsts c),X0:=λb q=>X b q/\b∉bs,n0:=w.heap.size,base:=w,gl:=C.G.gl}
 have h9:aj (λk b=>m k=some (b,0)) ks bs:=Hs GQ (by rw[b5,l1]);have a5:=Un N;have b6:XA φ m=X:=by
  funext b p
  refine propext ⟨λh=> ?_,λh=> ?_⟩
  ·rcases h with h|⟨k,p0,h1,_⟩
   ·exact h.1
   ·exact a5 b (mY h1).2.1 p
  ·by_cases J:b∈bs
   ·obtain⟨k,_,f⟩:=h9.lk b J
    exact .inr ⟨k,0,f,rfl⟩
   ·exact .inl ⟨h,J⟩
 have j3:=lu cp.p x;have f1:=e5.len;have b7:cv.length=cp.p.n-cI cp.sz:=by rw[au1,l3]at f1;omega
 have f2:aE m X w (eD cp.ex ((enc cp.p x).take (Nat.sub cp.p.n (cI cp.sz)))) cv:=by
  have h1:=aj.take (Nat.sub cp.p.n (cI cp.sz)) a4;rw[show(cv++pc).take (Nat.sub cp.p.n (cI cp.sz))=cv by rw[show Nat.sub cp.p.n (cI cp.sz)=cv.length from b7.symm];simp,<- QD]at h1;exact IS (UK λc hc=>h8.2 c (awg hc)) h1
 have b9:aE m X w ((enc cp.p x).drop (Nat.sub cp.p.n (cI cp.sz))) (pc++ []):=by
  have h1:=aj.drop (Nat.sub cp.p.n (cI cp.sz)) a4;rw[show(cv++pc).drop (Nat.sub cp.p.n (cI cp.sz))=pc by rw[show Nat.sub cp.p.n (cI cp.sz)=cv.length from b7.symm];simp,<- QC]at h1;have h2:=vK (show aE (λ_=>none) X w (eD cp.ex ((enc cp.p x).drop (Nat.sub cp.p.n (cI cp.sz)))) pc from h1);rw[List.map_drop,h8.1]at h2;rw[aws];exact IS (λc hc=>h8.2 c (awx hc)) h2
 have c0:=Hk h9 N;have f3:=ky b5;have f4:aj (SR m (XA φ m) w) (pa cp.mask 0 vs) args.toList:=by
  rw[b6];exact JC (rE e8 e2 f2) (H8 h9 N) (by simpa using b4)
 have a7: ∀t g,initSlots (pa cp.mask 0 vs) 0 t=some g->g.tags= []/\VR m (XA φ m) w g.tv (a0.tmps.getD t undef):=by
  intro t g M;obtain⟨h1,u,h2,_,h4⟩:=A9 f4 M;refine⟨h1,?_⟩;have:a0.tmps.getD t undef=u:=by
   rw[azw,avy]at h2;show(args++_).getD t undef=u;have a9:=(Array.getElem?_eq_some_iff.1 h2).1;rw[avl,ax0 a9,h2];rfl
  rw[this];exact h4
 have f5:=λb hb=>(hX b 0 (a5 b hb 0)).1
 have f6:aG φ ν0 m { slot:=λt=>initSlots (pa cp.mask 0 vs) 0 t,box:=boxesOf (cnd cp.ro .ro .cells) (zipN ks cp.sz) ((enc cp.p x).drop (Nat.sub cp.p.n (cI cp.sz)))} a0 w:={
  tmps:=rfl
  defers:=rfl
  slot:=λt g M _=>(a7 t g M).2
  skip:=λt g M ht=>absurd (by rw[(a7 t g M).1];intro x V;cases V) ht
  box:=λk bx f=>by
   rw[b6];obtain⟨_,cs',rfl,b,us,T,h1,h2,h3⟩:=Bk c0 b9 f;cases cp.ro with
   |true=>exact⟨b,us,T,h1,h2,h3⟩
   |false=>exact⟨b,us,T,h1,h2,h3⟩
  inj:=λk k' b p p' h h' _ _=>HH e1 h h'
  low:=λk b p h _=>f5 b (mY h).2.1
  bK:=λk f=>by
   have:=xr f;rw[f3]at this;cases hm:m k with
   |none=>rfl
   |some bp=>exact absurd (mY hm).2.2 this
  own:=λk bx b p h1 h2 h3 _=>by
   obtain⟨_,cs',rfl,_⟩:=Bk c0 b9 h1;cases hro:cp.ro with
   |true=>rw[hro]at h2;cases h2
   |false=>exact .inl ⟨hro,(mY h3).2.1⟩
  vn:=λk b p h _ hp=>by have:=(mY h).1;omega
  dK:=λk b p h _=>(hX b 0 (a5 b (mY h).2.1 0)).2
  n0:=au2 _
  fN:=GK.refl λb hb=>C.G.low hH hb
  aN:=⟨rfl,rfl,rfl,au2 _⟩
  dA:=λ_ _ _=>rfl
  dW:=λ_ _=>⟨rfl,λ_=>rfl⟩
  x0:=λb p h=>⟨(hX b p h.1).1,λhf=>h.2 hf.2,(hX b p h.1).2⟩
  gA:=λt ht=>rfl}
 have c9: ∀d∈dsts c,d<φ.n/\φ.D d=true:=λd S=>by
  refine⟨?_,cN.2 S⟩;have:=au7 (jQ e9 d S);show d<(args++Array.replicate (fn.ntmps-args.size) undef).size;simp;omega
 have J:tN C c cp w X args bs φ:={
  ok:=⟨hH,rfl⟩
  n0:=rfl
  dsts:=c9
  below:=λw' f=>⟨f.aN.1,f.aN.2.1,f.aN.2.2.1,f.aN.2.2.2,λk Y d0=>f.dA k Y λhB=>by
    have hB:=hB;rw[hB.1]at d0;exact d0 hB.2,λk Y=>(f.dW k Y).1,λk p Y=>(f.dW k Y).2 p⟩
  bu:=λQ j f8 f9=>by
   have g0:=by
    have j5:=H8 h9 N;have key: ∀(mask:List Bool) (i:Nat) (A:List Value) (bs:List Nat),(∀k∈posIn mask i,∃b,Q k=some (b,0)/\j.tmps.getD k undef= .pointer (some ⟨b,0,none⟩))->(∀k∈posIn mask i,j.tmps.getD k undef=A.getD (k-i) undef)->
      aj (λb v=>v= .pointer (some ⟨b,0,none⟩)) bs (fj mask A)->(A.length=mask.length)->aj (λk b=>Q k=some (b,0)) (posIn mask i) bs:=by
     intro mask;induction mask with
     |nil=>
      intro i A bs h1 h2 h3 hl;cases A with
      |nil=>cases bs with|nil=>trivial|cons=>exact h3.elim
      |cons=>simp at hl
     |cons mk mask z=>
      intro i A bs h1 h2 h3 hl;cases A with
      |nil=>simp at hl
      |cons v A=>
       cases mk with
       |true=>
        cases bs with
        |nil=>exact h3.elim
        |cons b bs=>
         have g1:=h1 i (by simp[posIn]);have g2:=h2 i (by simp[posIn]);have hv:=h3.1;rw[aBt]at g2;obtain⟨b2,g3,g4⟩:=g1;rw[g2]at g4;simp only[aAt]at g4;rw[hv]at g4;cases g4;refine⟨g3,z (i+1) A bs (λk f=>h1 k (by simp[posIn,f])) (λk f=> ?_) h3.2 (by simpa using hl)⟩;have:=h2 k (by simp[posIn,f]);have g8:=yh f;rw[this,show k-i=(k - (i+1))+1 by omega,ay2]
       |false=>
        refine z (i+1) A bs (λk f=>h1 k f) (λk f=> ?_) h3 (by simpa using hl);have:=h2 k f;have g8:=yh f;rw[this,show k-i=(k - (i+1))+1 by omega,ay2]
    refine key cp.mask 0 args.toList bs f9 (λk f=> ?_) ?_ (by simpa using b4)
    ·have hD:=by
      cases hq:mem k (dsts c)with
      |false=>exact hq
      |true=>
       have:=fX (jQ f0 k (cN.1 hq));rw[cN.2 f]at this;cases this
     rw[f8.2 k hD];show(args++_).getD k undef=_;rw[azw];have a9:k<args.size:=by
      have hp: ∀(mask:List Bool) (i k:Nat),k∈posIn mask i->k<i+mask.length:=by
       intro mask;induction mask with
       |nil=>intro i k h;cases h
       |cons mk mask z=>
        intro i k h;cases mk with
        |true=>
         simp only[posIn,avv]at h;rcases h with rfl|h
         ·simp
         ·have:=z _ _ h;simp;omega
        |false=>have:=z (i+1) k h;simp;omega
      have:=hp _ _ _ f;omega
     rw[avl,ax0 a9,au9,avy]
    ·have i3: ∀(bs sz:List Nat) (vs pc:List Value),gr w X bs sz vs pc->aj (λb v=>v= .pointer (some ⟨b,0,none⟩)) bs vs:=by
      intro bs;induction bs with
      |nil=>intro sz vs pc h;cases sz<;>cases vs<;>first|trivial|exact h.elim
      |cons b bs z=>
       intro sz vs pc h;cases sz with
       |nil=>cases vs<;>exact h.elim
       |cons n sz=>
        cases vs with
        |nil=>exact h.elim
        |cons v vs=>obtain⟨h1,_,us,T,i4,_,_,_,h'⟩:=h;exact⟨h1,z sz vs i4 h'⟩
     exact i3 _ _ _ _ N
   exact g0
  x0:=λb p V=>by
   by_cases J:b∈bs
   ·exact .inl J
   ·exact .inr ⟨V,J⟩
  low:=λb p V=>(hX b p V).1
  B:=λb h=>h.2
  w0:=rfl}
 exact xR hC ⟨hH,rfl⟩ d9 c1 _ _ _ a0 w (λt g M=>(a7 t g M).1) ⟨m,f6⟩
  (λd S=>c9 d (d7 d S)) hL I (λe U j w' i5 ⟨Q,i6⟩ i7=>e3 φ J rfl e U j w' Q i6 i5 i7) (λe he r j w' hp hr f S=>e4 φ J rfl e he r j w' hp hr f S)
theorem amM(Q:dr P C){f:FuncId}{fn:Func}(Z:P.funcs[f]? =some fn){cp:Cp}{L:Nat->Option (LS Unit)}{c:Code}(hb:fn.body=some c){dflt:cp.r.den×cp.q.den}
  (hL: ∀body∈loopsIn c,∀s,L (cP body)=some s->cG P C.G (λ_ _ _ _ (_:Unit) _ _=>False) body s)
  (h9: ∀x,(cp.ex=false->Fit cp.p x)->(∀q,cp.pre=some q->q x)->(evFnP C fn cp.p cp.ax cp.mask cp.sz cp.ro cp.ex cp.q cp.ao cp.r L x).safe)
  (a1: ∀x,(evFnP C fn cp.p cp.ax cp.mask cp.sz cp.ro cp.ex cp.q cp.ao cp.r L x).val (λ_=>dflt) dflt=cp.F x) (a2:cp.pn=none:=by rfl):ki P C.G f cp:=by
 intro x w X args cv pc bs hH hX a3 a4 a5 a6 I S;have a7:=J5 cp.p x;have a9:TR w X cp.p x (cv++pc):=by
  have h1:=vK S;rw[a7.1]at h1;exact gZ (t:=cp.p) (x:=x) (by
   have key: ∀(t:Ty) (x:t.den),dec t (enc t x)=some x:=by
    intro t;induction t with
    |pair a b b0 b2=>
     intro x;simp only[enc,dec,bI];have h1:=lu a x.1;rw[aw7 (by omega),avr (by omega),aya (by omega),ax1 (by omega),awv,b0,b2]
    |int k=>intro x;cases k<;>rfl
    |flt k=>intro x;cases k<;>rfl
    |sl e J=>
     intro l;simp only[enc,dec];unfold castL;have:tyeq e e=true:=by
      clear J l;induction e with
      |int k=>cases k<;>rfl
      |flt k=>cases k<;>rfl
      |pair x y b3 b4=>simp only[tyeq,b3,b4]
      |sl x J=>exact J
      |_=>rfl
     split
     ·rfl
     ·rename_i h;rw[this]at h;cases h
    |_=>intro x;rfl
   exact key _ _) h1
 have g:=ku (rt:=λ_=>dflt) (d:=dflt) (h9 x (λ_=>lz a9) a3);rw[a1]at g;have g:(nJ C fn cp.p cp.ax cp.mask cp.sz cp.ro cp.ex L c c (evRetP C fn cp.ao cp.r cp.q cp.ro (zipN (posIn cp.mask 0) cp.sz)) x).dp (λ_=>dflt) (λr=>r=cp.F x):=by
  unfold evFnP at g;rw[hb]at g;unfold nJ;split at g;case h_2=>exact g.elim
  rename_i c' vs b5 b6;cases b5;rw[b6];exact g
 have e6:=(Io I).1;have b7:firsts (zipN (posIn cp.mask 0) cp.sz)=posIn cp.mask 0:=ky (by
  unfold nJ at g;split at g;case h_2=>exact g.elim
  cases hck:andd (dR (λd=>Nat.ble (Nat.succ d) fn.ntmps) (dsts c)) (andd (dR (λd=>nott (mem d (posIn cp.mask 0))) (dsts c)) (Nat.beq (eZ (posIn cp.mask 0)) (eZ cp.sz)))with
  |false=>rw[hck]at g;exact g.elim
  |true=>
   obtain⟨h1,h2⟩:=aF hck;obtain⟨h2,h3⟩:=aF h2;have h3:=beq_eq h3;rwa [lv,lv]at h3)
 have b9:pnB cp x=false:=by unfold pnB;rw[a2]
 refine aBf Z hb (C5 Q (λd h=>h) (Ret:=λ_ _ _ _ _ _ _=>False) (λe n O O' X X' r a w hO h hr=>hr) hL hH hX a4 a5 a6 I S g (λφ j U e e9 M w' m' i f0 c9=> ?_) (λφ j U e he r M w' hp hr hk hd=>hr.elim));obtain⟨d0,d5,y,z,f5,A,⟨v,rv,d7,d9,e0⟩,⟨qv,e2,e3⟩,V⟩:=Pt Q i c9;rw[b7]at V;have N:=j.bu m' M i.nL V;have Y:bodyPost P fn (λe w'=>(pnB cp x=false/\ ∃v,e= .returned v/\eF (if cp.ro then[]else bs) w w'/\pj w.heap.size none w' X cp.ao cp.r (cp.F x).1 v/\
   ∃u,gr w' X bs cp.sz (fj cp.mask args.toList) u/\TR w' X cp.q (cp.F x).2 u)\/
   (pnB cp x=true/\e= .panicked [{ v:=cp.pv,recovered:=false}]/\eF (if cp.ro then[]else bs) w w'/\ ∃u,gr w' X bs cp.sz (fj cp.mask args.toList) u/\TR w' X cp.q (cp.F x).2 u)) .ret M w':=by
  have A:(y,z)=cp.F x:=A;refine⟨i.defers.trans U,v,d7,.inl ⟨b9,v,rfl,j.below w' i.lD,⟨rv,?_,(λT hT=>by cases hT),e0⟩,qv,xE N I e2,?_⟩⟩
  ·rw[<- A];exact d9.mono (rD _ _) (j.noC i N) _ _ _
  ·rw[<- A];exact e3.mono (rD _ _) (j.F3 i N) _ _ _
 cases e with
 |exit id=>exact absurd rfl (d0 id)
 |dL v=>exact absurd rfl (d5 v)
 |normal=>exact Y
 |ret=>exact Y
end
end
section
def rdBoxes(st:ASt)(fr:Bool)(q:Ty)(f:List (aR)):Option q.den:=match rdW st f,chkP st [] [] (firsts f) (selfs f)with
 |some g,true=>match gh fr st g with|some h=>dec q h|none=>none
 |_,_=>none
def wrapQ{α β:Type}:Tr Unit (α×β)->Tr Unit (Bool×(α×β))
 | .ret y=> .ret (false,y)|_=> .bad
def evRetQ(C:Ctx)(fn:Func)(ao:ah)(r q:Ty)(pv:Value)(f:List (aR))(g:r.den)(x:Ex)(st:ASt):Tr Unit (Bool×(r.den×q.den)):=
 match x with
 | .dL v=>match rdBoxes st true q f with|some z=> .bQ (v=pv) (.ret (true,(g,z)))|none=> .bad
 |x=>wrapQ (evRetP C fn ao r q false f x st)
def sT(C:Ctx)(fn:Func)(p:Ty)(ax:List (Option Nat))(mask:List Bool)(sz:List Nat)(ex:Bool)(q:Ty)(ao:ah)(r:Ty)(pv:Value)(L:Nat->Option (LS Unit))(x:p.den):Tr Unit (Bool×(r.den×q.den)):=
 match fn.body with
 |some c=>nJ C fn p ax mask sz false ex L c c (evRetQ C fn ao r q pv (zipN (posIn mask 0) sz) r.dflt) x
 |none=> .bad
section
variable {φ:Fr} {ν ν':Nat->Bool} {m:Map} {st:ASt} {a:Act} {w w':World} {own:List (bS)} {W:List Nat} {P:Program} {C:Ctx} {o:Oper} {e:Eff}
 {K:Act->World->Prop}
theorem ae1(hs:aG φ ν m st a w){q:Ty}{g:List (aR)}{z:q.den}(h:rdBoxes st true q g=some z):
  (∃f,cZ m w g f/\TR w (XA φ m) q z f)/\(∀k∈firsts g,∃b,m k=some (b,0)/\a.tmps.getD k undef= .pointer (some ⟨b,0,none⟩)):=by
 unfold rdBoxes at h;split at h;case h_2=>cases h
 rename_i M j l;split at h;case h_2=>cases h
 rename_i N s;obtain⟨f,t,u,_⟩:=nz hs j;have i:=qa hs s u (ks:= []) (λh=>by cases h);have y:Xc φ m []=XA φ m:=by grind [Xc]
 rw[y]at i;have A:=rL l;refine⟨⟨f,t,gZ h i⟩,λk I=> ?_⟩;obtain⟨J,_,_,_⟩:=A k k (xM I);obtain⟨b,O,Q⟩:=hs.slot k _ J (λx L=>by cases L);simp_all
theorem RG{g ρ:Type}{fn:Func}{p:Ty}{ax:List (Option Nat)}{mask:List Bool}{sz:List Nat}{ro ex:Bool}{L:Nat->Option (LS g)}{c c1:Code}{k:Ex->ASt->Tr g ρ}{x:p.den}{rt:g->ρ}{Post:ρ->Prop}
  (f:(nJ C fn p ax mask sz ro ex L c c1 k x).dp rt Post):(posIn mask 0).length=sz.length:=by
 unfold nJ at f;split at f;case h_2=>exact f.elim
 cases hck:andd (dR (λd=>Nat.ble (Nat.succ d) fn.ntmps) (dsts c)) (andd (dR (λd=>nott (mem d (posIn mask 0))) (dsts c)) (Nat.beq (eZ (posIn mask 0)) (eZ sz)))with
 |false=>rw[hck]at f;exact f.elim
 |true=>
  grind [aF,beq_eq,lv]
theorem Tw{cp:Cp}{X:Nat->Nat->Prop}{x:cp.p.den}{cv pc:List Value}(g:aE (λ_=>none) X w (eD cp.ex (enc cp.p x)) (cv++pc)):TR w X cp.p x (cv++pc):=by
 have i:=J5 cp.p x;have j:TR w X cp.p x (cv++pc):=by
  have h1:=vK g;rw[i.1]at h1;exact gZ (t:=cp.p) (x:=x) (by
   have key: ∀(t:Ty) (x:t.den),dec t (enc t x)=some x:=by
    intro t;induction t with
    |pair a b s u=>
     intro x;simp only[enc,dec,bI];have h1:=lu a x.1;rw[aw7 (by omega),avr (by omega),aya (by omega),ax1 (by omega),awv,s,u]
    |int k=>intro x;cases k<;>rfl
    |flt k=>intro x;cases k<;>rfl
    |sl e f=>
     intro l;simp only[enc,dec];unfold castL;have:tyeq e e=true:=by
      clear f l;induction e with
      |int k=>cases k<;>rfl
      |flt k=>cases k<;>rfl
      |pair x y z A=>simp only[tyeq,z,A]
      |sl x f=>exact f
      |_=>rfl
     split
     ·rfl
     ·rename_i h;rw[this]at h;cases h
    |_=>intro x;rfl
   exact key _ _) h1
 exact j
theorem amZ(Z:dr P C){f:FuncId}{fn:Func}(hf:P.funcs[f]? =some fn){cp:Cp}{L:Nat->Option (LS Unit)}{c:Code}(hb:fn.body=some c){dflt:Bool×(cp.r.den×cp.q.den)}{l:cp.p.den->Bool×(cp.r.den×cp.q.den)}
  (a5:cp.ro=false) (a6:cp.pn=some λx=>(l x).1) (N: ∀x,cp.F x=(l x).2)
  (hL: ∀body∈loopsIn c,∀s,L (cP body)=some s->cG P C.G (λ_ _ _ _ (_:Unit) _ _=>False) body s)
  (a9: ∀x,(cp.ex=false->Fit cp.p x)->(∀q,cp.pre=some q->q x)->(sT C fn cp.p cp.ax cp.mask cp.sz cp.ex cp.q cp.ao cp.r cp.pv L x).safe)
  (b0: ∀x,(sT C fn cp.p cp.ax cp.mask cp.sz cp.ex cp.q cp.ao cp.r cp.pv L x).val (λ_=>dflt) dflt=l x):ki P C.G f cp:=by
 intro x w X args cv pc bs hH hX b2 b3 b4 b5 Q h8;have u:=ku (rt:=λ_=>dflt) (d:=dflt) (a9 x (λ_=>lz (Tw h8)) b2);rw[b0]at u;unfold sT at u;rw[hb]at u;have h9:firsts (zipN (posIn cp.mask 0) cp.sz)=posIn cp.mask 0:=ky (RG u);have a1:pnB cp x=(l x).1:=by unfold pnB;rw[a6]
 refine aBf hf hb (C5 Z (λd h=>h) (Ret:=λ_ _ _ _ _ _ _=>False) (λe n O O' X X' r a w hO h hr=>hr) hL hH hX b3 b4 b5 Q h8 (by rw[a5];exact u) (λφ j S e a2 M w' m' i e0 g=> ?_) (λφ j S e he r M w' hp hr hk hd=>hr.elim));have A: ∀e:Ex,(∀v,e≠ .dL v)->(wrapQ (evRetP C fn cp.ao cp.r cp.q false (zipN (posIn cp.mask 0) cp.sz) e a2)).dp (λ_=>dflt) (λr=>r=l x)->
   (∀id,e≠ .exit id)/\bodyPost P fn (λe w'=>(pnB cp x=false/\ ∃v,e= .returned v/\eF (if cp.ro then[]else bs) w w'/\pj w.heap.size none w' X cp.ao cp.r (cp.F x).1 v/\
    ∃I,gr w' X bs cp.sz (fj cp.mask args.toList) I/\TR w' X cp.q (cp.F x).2 I)\/
    (pnB cp x=true/\e= .panicked [{ v:=cp.pv,recovered:=false}]/\eF (if cp.ro then[]else bs) w w'/\ ∃I,gr w' X bs cp.sz (fj cp.mask args.toList) I/\TR w' X cp.q (cp.F x).2 I)) .ret M w':=by
  intro e e5 g;unfold wrapQ at g;split at g;case h_2=>exact g.elim
  rename_i y0 b6;have b7:(evRetP C fn cp.ao cp.r cp.q false (zipN (posIn cp.mask 0) cp.sz) e a2).dp (λ_=>dflt.2) (λr=>(false,r)=l x):=by rw[b6];exact g
  obtain⟨A,_,y,z,e7,k,⟨v,rv,c0,c9,d0⟩,⟨U,V,Y⟩,J⟩:=Pt Z i b7;rw[h9]at J;have t:=j.bu m' M i.nL J;refine⟨A,i.defers.trans S,v,c0,.inl ⟨by rw[a1,<- k],v,rfl,j.below w' i.lD,⟨rv,?_,(λT hT=>by cases hT),d0⟩,U,xE t Q V,?_⟩⟩
  ·rw[N,<- k];exact c9.mono (rD _ _) (j.noC i t) _ _ _
  ·rw[N,<- k];exact Y.mono (rD _ _) (j.F3 i t) _ _ _
 cases e with
 |exit id=>exact absurd rfl ((A (.exit id) (λv h=>by cases h) g).1 id)
 |normal=>exact(A .normal (λv h=>by cases h) g).2
 |ret=>exact(A .ret (λv h=>by cases h) g).2
 |dL v=>
  simp only[evRetQ]at g;split at g;case h_2=>exact g.elim
  rename_i z hz;obtain⟨rfl,k⟩:=g;obtain⟨⟨U,V,Y⟩,J⟩:=ae1 i hz;rw[h9]at J;have t:=j.bu m' M i.nL J;have k:(true,(cp.r.dflt,z))=l x:=k;refine⟨i.defers.trans S,.inr ⟨by rw[a1,<- k],rfl,j.below w' i.lD,U,xE t Q V,?_⟩⟩;rw[N,<- k];exact Y.mono (rD _ _) (j.F3 i t) _ _ _
end
end
section
def lookG:List (Nat×Ct)->Nat->Option Ct
 | [],_=>none
 |(i,c)::r,t=>cnd (Nat.beq t i) (some c) (lookG r t)
def LM:List (Nat×List Nat)->Nat->List Nat
 | [],_=> []
 |(i,l)::r,t=>cnd (Nat.beq t i) l (LM r t)
def lookP:List (Nat×Cp)->Nat->Option Cp
 | [],_=>none
 |(i,c)::r,t=>cnd (Nat.beq t i) (some c) (lookP r t)
def lookZ:List (Nat×Zc)->Nat->Option Zc
 | [],_=>none
 |(i,c)::r,t=>cnd (Nat.beq t i) (some c) (lookZ r t)
def aaz(a:List (Nat×Zc))(pl:List (Nat×Cp))(fv:Option Fv)(l:List (Nat×Ct))(fz:List (Nat×List Nat)):Ctx:={ D:=lookupD wO,xt:=lookXt xtL,Γ:=lookG l,G:=bC,gv:=gvS,fz:=LM fz,pg:=lookP pl,fv:=fv,zk:=lookZ a,bs:=LM fz 999999}
abbrev tc(pl:List (Nat×Cp))(fv:Option Fv)(l:List (Nat×Ct))(fz:List (Nat×List Nat)):Ctx:=aaz [] pl fv l fz
abbrev atb(l:List (Nat×Ct))(fz:List (Nat×List Nat)):Ctx:=tc [] none l fz
def rW(P:Program)(f:FuncId):Prop:= ∃fn,P.funcs[f]? =some fn/\(fn.name== "runtime.NumGoroutine")=false/\fn.body.isNone=false
def cu(l:List (Nat×Ct)):Prop:= ∀f ct,lookG l f=some ct->dY prog bC f ct/\rW prog f
theorem Sc:cu []:=λf ct h=>by cases h
theorem BQ{f:FuncId}{ct:Ct}{l:List (Nat×Ct)}(h1:dY prog bC f ct)(h2:rW prog f)(h:cu l):cu ((f,ct)::l):=by
 intro g i a;simp only[lookG]at a;by_cases j:g=f
 ·grind [bV]
 ·rw[bL j]at a;exact h g i a
def ia(l:List (Nat×Cp)):Prop:= ∀f cp,lookP l f=some cp->ki prog bC f cp/\rW prog f
theorem QJ:ia []:=λf cp h=>by cases h
theorem Pm{f:FuncId}{cp:Cp}{l:List (Nat×Cp)}(h1:ki prog bC f cp)(h2:rW prog f)(h:ia l):ia ((f,cp)::l):=by
 intro g i a;simp only[lookP]at a;by_cases j:g=f
 ·grind [bV]
 ·rw[bL j]at a;exact h g i a
def acZ(cv:Fv)(g:Nat):Prop:=dY prog bC g { p:=cv.p,ax:=cv.ax,r:=cv.r,ao:=cv.ao,pre:=none,fresh:=none,F:=cv.F g}/\rW prog g
def qR(fv:Option Fv):Prop:= ∀cv,fv=some cv-> ∀g∈cv.fs,acZ cv g
theorem dh:qR none:=λcv h=>by cases h
theorem BJ{cv:Fv}(h: ∀g∈cv.fs,acZ cv g):qR (some cv):=λa f=>by simp_all
def gj(l:List (Nat×Zc)):Prop:= ∀f z,lookZ l f=some z->AI prog bC f z/\rW prog f
theorem QQ:gj []:=λf z h=>by cases h
theorem rF{f:FuncId}{z:Zc}{l:List (Nat×Zc)}(h1:AI prog bC f z)(h2:rW prog f)(h:gj l):gj ((f,z)::l):=by
 intro g i a;simp only[lookZ]at a;by_cases j:g=f
 ·grind [bV]
 ·rw[bL j]at a;exact h g i a
theorem dN{a:List (Nat×Zc)}{pl:List (Nat×Cp)}{fv:Option Fv}{l:List (Nat×Ct)}(f:gj a)(g:ia pl)(i:qR fv)(h:cu l)(fz:List (Nat×List Nat)):dr prog (aaz a pl fv l fz) where
 zk:=f
 xt:=arF
 pg:=g
 fv:=i
 mixed:=by kernel_rfl
 D:=ank
 Γ:=h
 bytes:=ajj
 gv:=atc
 eq:=asc
theorem nC{pl:List (Nat×Cp)}{fv:Option Fv}{l:List (Nat×Ct)}(a:ia pl)(f:qR fv)(h:cu l)(fz:List (Nat×List Nat)):dr prog (tc pl fv l fz):=dN QQ a f h fz
theorem Kg{l:List (Nat×Ct)}(h:cu l)(fz:List (Nat×List Nat)):dr prog (atb l fz):=nC QJ dh h fz
structure eP {ρ₀ ρ:Type} (t:Tr ρ₀ ρ):Prop where
 safe:t.safe
def Tr.triv{a ρ:Type}:Tr a ρ->Bool
 | .ret _=>true| .ite _ t e=>andd t.triv e.triv| .bQ _ _=>false| .opt _ t=>t.triv| .alt _ _ _=>false| .bad=>false
def Tr.slim{f ρ:Type}:Tr f ρ->Prop
 | .ret _=>True
 | .ite c t e=>match t.triv,e.triv with|true,true=>True|true,false=>(c=false->e.slim)|false,true=>(c=true->t.slim)|false,false=>(c=true->t.slim)/\(c=false->e.slim)
 | .bQ p t=>match t.triv with|true=>p|false=>p/\t.slim
 | .opt o t=>match t.triv with|true=>True|false=>(o=none->t.slim)
 | .alt p a b=>(p->a.slim/\YS a.leaf b.leaf)/\b.slim
 | .bad=>False
theorem Tr.nd{a ρ:Type}: ∀{t:Tr a ρ},t.triv=true->t.safe
 | .ret _,_=>trivial
 | .ite c t e,h=>by
  cases ht:t.triv with
  |false=>simp_all [Tr.triv,andd]
  |true=>
   cases he:e.triv with
   |false=>simp_all [Tr.triv,andd]
   |true=>exact⟨λ_=>Tr.nd ht,λ_=>Tr.nd he⟩
 | .bQ _ _,h=>by cases h
 | .opt o t,h=>λ_=>Tr.nd h
 | .alt _ _ _,h=>by cases h
 | .bad,h=>by cases h
theorem Tr.ox{g ρ:Type}: ∀{t:Tr g ρ},t.slim->t.safe
 | .ret _,_=>trivial
 | .ite c t e,h=>by
  cases ht:t.triv with
  |false=>
   cases he:e.triv with
   |false=>
    simp only[Tr.slim,ht,he]at h;exact⟨λz=>Tr.ox (h.1 z),λz=>Tr.ox (h.2 z)⟩
   |true=>
    simp only[Tr.slim,ht,he]at h;exact⟨λz=>Tr.ox (h z),λ_=>Tr.nd he⟩
  |true=>
   cases he:e.triv with
   |false=>
    simp only[Tr.slim,ht,he]at h;exact⟨λ_=>Tr.nd ht,λz=>Tr.ox (h z)⟩
   |true=>exact⟨λ_=>Tr.nd ht,λ_=>Tr.nd he⟩
 | .bQ p t,h=>by
  cases ht:t.triv with
  |false=>
   simp only[Tr.slim,ht]at h;exact⟨h.1,Tr.ox h.2⟩
  |true=>
   simp only[Tr.slim,ht]at h;exact⟨h,Tr.nd ht⟩
 | .opt o t,h=>by
  cases ht:t.triv with
  |false=>
   simp only[Tr.slim,ht]at h;exact λz=>Tr.ox (h z)
  |true=>exact λ_=>Tr.nd ht
 | .alt p a b,h=>⟨λf=>⟨Tr.ox (h.1 f).1,(h.1 f).2⟩,Tr.ox h.2⟩
 | .bad,h=>h.elim
theorem ai1{a ρ:Type}{t:Tr a ρ}(h:t.triv=true):eP t:=eP.mk (Tr.nd h)
theorem Tk{a ρ:Type}{t:Tr a ρ}{S:Prop}(h:t.slim=S)(k:S):eP t:=⟨Tr.ox (h▸k)⟩
theorem JR{a ρ:Type}{t:Tr a ρ}{S:Prop}(h:t.safe=S)(k:S):eP t:=⟨h▸k⟩
theorem agS{α:Type}{A pre Q:α->Prop}(h: ∀x,A x->pre x->Q x): ∀x,A x->(∀q,some pre=some q->q x)->Q x:=λx fx a=>h x fx (a _ rfl)
theorem amP{C:Ctx}(a:dr prog C)(g:C.G=bC){f:FuncId}{fn:Func}(h:prog.funcs[f]? =some fn){p:Ty}{ax:List (Option Nat)}{r:Ty}{ao:ah}{pre:Option (p.den->Prop)}{fresh:Option Nat}{F:p.den->r.den}{L:Nat->Option (LS r.den)}{c:Code}(hb:fn.body=some c){dflt:r.den}
  (i: ∀body∈loopsIn c,∀s,L (cP body)=some s->cG prog C.G (kJ prog fn ao fresh r) body s)
  (j: ∀x,Fit p x->(∀q,pre=some q->q x)->eP (evFn C fn p ax ao fresh r L x))
  (k: ∀x,(evFn C fn p ax ao fresh r L x).val (λy=>y) dflt=F x):dY prog bC f { p:=p,ax:=ax,r:=r,ao:=ao,pre:=pre,fresh:=fresh,F:=F}:=
 g▸apJ a h hb i (λx h1 h2=>(j x h1 h2).safe) k
theorem Pz{α:Type}{A Q:α->Prop}{B:Prop}{pre:α->Prop}(hb:B)(h: ∀x,A x->pre x->Q x): ∀x,(B->A x)->(∀q,some pre=some q->q x)->Q x:=λx fx a=>h x (fx hb) (a _ rfl)
theorem afT{α:Type}{A Q:α->Prop}{B:Prop}{pre:α->Prop}(h: ∀x,pre x->Q x): ∀x,(B->A x)->(∀q,some pre=some q->q x)->Q x:=λx _ a=>h x (a _ rfl)
theorem ajk{C:Ctx}(a:dr prog C)(g:C.G=bC){f:FuncId}{fn:Func}(h:prog.funcs[f]? =some fn)(cp:Cp){L:Nat->Option (LS Unit)}{c:Code}(hb:fn.body=some c){dflt:cp.r.den×cp.q.den}
  (i: ∀body∈loopsIn c,∀s,L (cP body)=some s->cG prog C.G (λ_ _ _ _ _ _ _=>False) body s)
  (j: ∀x,(cp.ex=false->Fit cp.p x)->(∀q,cp.pre=some q->q x)->eP (evFnP C fn cp.p cp.ax cp.mask cp.sz cp.ro cp.ex cp.q cp.ao cp.r L x))
  (k: ∀x,(evFnP C fn cp.p cp.ax cp.mask cp.sz cp.ro cp.ex cp.q cp.ao cp.r L x).val (λ_=>dflt) dflt=cp.F x) (l:cp.pn=none:=by rfl):ki prog bC f cp:=
 g▸amM a h hb i (λx h1 h2=>(j x h1 h2).safe) k l
theorem aiU{C:Ctx}(g:dr prog C)(h:C.G=bC){f:FuncId}{fn:Func}(i:prog.funcs[f]? =some fn)(cp:Cp){L:Nat->Option (LS Unit)}{c:Code}(hb:fn.body=some c){dflt:Bool×(cp.r.den×cp.q.den)}{a:cp.p.den->Bool×(cp.r.den×cp.q.den)}
  (j:cp.ro=false) (k:cp.pn=some λx=>(a x).1) (l: ∀x,cp.F x=(a x).2)
  (m: ∀body∈loopsIn c,∀s,L (cP body)=some s->cG prog C.G (λ_ _ _ _ _ _ _=>False) body s)
  (o: ∀x,(cp.ex=false->Fit cp.p x)->(∀q,cp.pre=some q->q x)->eP (sT C fn cp.p cp.ax cp.mask cp.sz cp.ex cp.q cp.ao cp.r cp.pv L x))
  (t: ∀x,(sT C fn cp.p cp.ax cp.mask cp.sz cp.ex cp.q cp.ao cp.r cp.pv L x).val (λ_=>dflt) dflt=a x):ki prog bC f cp:=
 h▸amZ g i hb j k l m (λx h1 h2=>(o x h1 h2).safe) t
theorem aA{x:Int}(h0: -9223372036854775808<=x)(h1:x<=9223372036854775807):i64.wrap x=x:=by grind [IntKind.wrap_i64]
theorem uq(a n:Int):Int.tmod a n=if 0<=a then a % n else -((-a) % n):=by
 split
 ·grind
 ·have h:a= -(-a):=by omega
  conv=>lhs;rw[h]
  rw[Int.neg_tmod,avq (by omega)]
theorem Is(a n:Int):Int.tdiv a n=if 0<=a then a/n else -((-a)/n):=by
 split
 ·grind
 ·have h:a= -(-a):=by omega
  conv=>lhs;rw[h]
  rw[Int.neg_tdiv,axj (by omega)]
theorem akZ{a b:Int}(h:0<=a):0<=Int.tmod a b:=by rw[avq h];exact(Int.lt_or_le 0 b).elim (λhb=>aAu _ (by omega)) (λhb=>by
 by_cases h0:b=0;all_goals simp_all [aAu])
theorem ak6{a b:Int}(h:0<=a)(hb:0<b):Int.tmod a b<b:=by simp_all [avq,aA2]
theorem BY(a:Int)(n:Nat){f:OfNat Int n}:Int.tmod a (no_index (@OfNat.ofNat Int n f))=if 0<=a then a % (@OfNat.ofNat Int n f)else -((-a) % (@OfNat.ofNat Int n f)):=uq _ _
theorem BW(a:Int)(n:Nat){f:OfNat Int n}:Int.tdiv a (no_index (@OfNat.ofNat Int n f))=if 0<=a then a/(@OfNat.ofNat Int n f)else -((-a)/(@OfNat.ofNat Int n f)):=Is _ _
theorem N7{x:Int}(h0:0<=x)(h1:x<=18446744073709551615):u64.wrap x=x:=by grind [IntKind.wrap_u64]
def endOf{K X ρ:Type}(step:K->X->an K X ρ)(k:K):Nat->X->X
 |0,x=>x
 |n+1,x=>match step k x with| .next _ y=>endOf step k n y| .brk _ y=>y| .ret _=>x
def bj{K X ρ:Type}(step:K->X->an K X ρ)(k:K):Nat->X->Option ρ
 |0,_=>none
 |n+1,x=>match step k x with| .next _ y=>bj step k n y| .brk _ _=>none| .ret r=>some r
theorem OH{K X ρ:Type}{step:K->X->an K X ρ}{k:K}{I:X->Prop}{μ:X->Nat}(h: ∀x k' y,I x->step k x= .next k' y->I y/\μ y<μ x):
  ∀(n m:Nat) (x:X),I x->μ x<n->μ x<m->endOf step k n x=endOf step k m x/\bj step k n x=bj step k m x
 |0,_,x,_,a,_=>by omega
 |_+1,0,x,_,_,hm=>by omega
 |n+1,m+1,x,hi,a,hm=>by
  simp only[endOf,bj];cases hs:step k x with
  |next k' y=>
   obtain⟨h1,h2⟩:=h x k' y hi hs;exact OH h n m y h1 (by omega) (by omega)
  |brk k' y=>simp_all
  |ret r=>simp_all
def aH{ρ:Type}(K X:Ty)(ks:List (Nat×Option Nat))(kb:List (aR))(xs:List (Nat×Option Nat))(xb:List (aR))(aM:List (cT))(fz:List Nat)(bu:List (aR))(exit:Nat)(a:Bool)
  (inv:K.den->X.den->Prop) (step:K.den->X.den->an K.den X.den ρ) (μ:K.den->X.den->Nat) (bP:List (Nat×Nat×List Nat):= []):LS ρ:=
 {
  K:=K,X:=X,ks:=ks,kb:=kb,xs:=xs,xb:=xb,aM:=aM,fz:=fz,bu:=bu,bP:=bP,exit:=exit,inv:=some inv,
  G:=λk x=>endOf step k (Nat.succ (μ k x)) x,R:=cnd a (some λk x=>bj step k (Nat.succ (μ k x)) x) none}
def bf{K X ρ:Type}(a:Bool)(inv:K->X->Prop)(μ:K->X->Nat)(k:K)(x:X):an K X ρ->Prop
 | .next k' y=>k'=k/\inv k y/\μ k y<μ k x
 | .brk k' _=>k'=k
 | .ret _=>a=true
theorem bf.cnd{K X ρ:Type}{f:Bool}{inv:K->X->Prop}{μ:K->X->Nat}{k:K}{x:X}{c:Bool}{a b:an K X ρ}(g:c=true->bf f inv μ k x a)(hb:c=false->bf f inv μ k x b):
 bf f inv μ k x (bif c then a else b):=by grind
theorem bf.opt{K X ρ:Type}{inv:K->X->Prop}{μ:K->X->Nat}{k:K}{x:X}{o:Option ρ}{a:an K X ρ}(f:o=none->bf true inv μ k x a):
 bf true inv μ k x (dJ o an.ret a):=by cases o;exact f rfl;exact rfl
theorem BP{P:Program}{C:Ctx}(A:dr P C){ρ:Type}{Ret:Exit->Nat->(Nat->Prop)->(Nat->Nat->Prop)->ρ->Act->World->Prop}{ret:Ex->ASt->Tr ρ ρ}(I: ∀e n O s X X' r a w,(∀b,O b->s b)->(∀b p,X' b p->X b p)->Ret e n O X r a w->Ret e n s X' r a w)
  (J: ∀(φ:Fr) x st a w r,(x= .ret\/ ∃v,x= .dL v)->Sat φ ν0 st a w->ret x st= .ret r->Ret (exOf x) φ.n0 φ.mU φ.X0 r a w) {L:Nat->Option (LS ρ)} {body:Code} {K X:Ty} {ks:List (Nat×Option Nat)} {kb:List (aR)} {xs:List (Nat×Option Nat)} {xb:List (aR)} {aM:List (cT)} {fz:List Nat} {bu:List (aR)} {bP:List (Nat×Nat×List Nat)} {exit:Nat} {h:Bool}
  {inv:K.den->X.den->Prop} {step:K.den->X.den->an K.den X.den ρ} {μ:K.den->X.den->Nat} {d:an K.den X.den ρ}
  (M: ∀b∈loopsIn body,∀t,L (cP b)=some t->cG P C.G Ret b t)
  (N: ∀f g,Fit K f->Fit X g->inv f g->eP (evCode C L body (cW (aH K X ks kb xs xb aM fz bu exit h inv step μ bP) (enc K f) (enc X g)) (evRound (aH K X ks kb xs xb aM fz bu exit h inv step μ bP) ret)))
  (Q: ∀f g,(evCode C L body (cW (aH K X ks kb xs xb aM fz bu exit h inv step μ bP) (enc K f) (enc X g)) (evRound (aH K X ks kb xs xb aM fz bu exit h inv step μ bP) ret)).val an.ret d=step f g)
  (fC: ∀f g,Fit K f->inv f g->bf h inv μ f g (step f g)):
  cG P C.G Ret body (aH K X ks kb xs xb aM fz bu exit h inv step μ bP):=by
 have key: ∀(f:K.den) (g:X.den),Fit K f->Fit X g->inv f g->(evCode C L body (cW (aH K X ks kb xs xb aM fz bu exit h inv step μ bP) (enc K f) (enc X g)) (evRound (aH K X ks kb xs xb aM fz bu exit h inv step μ bP) ret)).dp an.ret
   (RH (aH K X ks kb xs xb aM fz bu exit h inv step μ bP) μ f g):=by
  intro f g i l hi;refine dp.mono (λo m=> ?_) (ku (d:=d) (N f g i l hi).safe);have m:=m.trans (Q f g);subst m;have hs:=fC f g i hi;have u: ∀y,inv f y->μ f y<μ f g->endOf step f (Nat.succ (μ f y)) y=endOf step f (μ f g) y/\bj step f (Nat.succ (μ f y)) y=bj step f (μ f g) y:=λy S Y=>
   OH (λx k' z T U=>by have:=fC f x i T;rw[U]at this;exact this.2) _ _ y S (by omega) (by omega)
  cases hc:step f g with
  |next k y=>
   rw[hc]at hs;obtain⟨h1,h2,h3⟩:=hs;refine⟨h1,λp V=>by cases V;omega,h3,?_,λR j=> ?_⟩
   ·show endOf step f (Nat.succ (μ f y)) y=endOf step f (Nat.succ (μ f g)) g
    rw[(u y h2 h3).1];simp only[endOf,hc]
   ·cases h with
    |false=>cases j
    |true=>
     cases j;show bj step f (Nat.succ (μ f y)) y=bj step f (Nat.succ (μ f g)) g;rw[(u y h2 h3).2];simp only[bj,hc]
  |brk k y=>
   rw[hc]at hs;refine⟨hs,?_,λR j=> ?_⟩
   ·show endOf step f (Nat.succ (μ f g)) g=y
    simp only[endOf,hc]
   ·cases h with
    |false=>cases j
    |true=>
     cases j;simp only[bj,hc]
  |ret z=>
   rw[hc]at hs;cases h with
   |false=>cases hs
   |true=>
    refine⟨_,rfl,?_⟩;simp only[bj,hc]
 exact akA A I J M μ (λf g i l hi=>key f g i l (hi inv rfl))
theorem ahc{P:Program}{C:Ctx}(j:dr P C){fn:Func}{ao:ah}{fr:Option Nat}{r:Ty}{L:Nat->Option (LS r.den)}{body:Code}{K X:Ty}{ks:List (Nat×Option Nat)}{kb:List (aR)}{xs:List (Nat×Option Nat)}{xb:List (aR)}{aM:List (cT)}{fz:List Nat}{bu:List (aR)}{bP:List (Nat×Nat×List Nat)}{exit:Nat}{i:Bool}
  {inv:K.den->X.den->Prop} {step:K.den->X.den->an K.den X.den r.den} {μ:K.den->X.den->Nat} {d:an K.den X.den r.den}
  (l: ∀b∈loopsIn body,∀k,L (cP b)=some k->cG P C.G (kJ P fn ao fr r) b k)
  (o: ∀f g,Fit K f->Fit X g->inv f g->eP (evCode C L body (cW (aH K X ks kb xs xb aM fz bu exit i inv step μ bP) (enc K f) (enc X g)) (evRound (aH K X ks kb xs xb aM fz bu exit i inv step μ bP) (evRet C fn ao fr r))))
  (s: ∀f g,(evCode C L body (cW (aH K X ks kb xs xb aM fz bu exit i inv step μ bP) (enc K f) (enc X g)) (evRound (aH K X ks kb xs xb aM fz bu exit i inv step μ bP) (evRet C fn ao fr r))).val an.ret d=step f g)
  (fC: ∀f g,Fit K f->inv f g->bf i inv μ f g (step f g)):
  cG P C.G (kJ P fn ao fr r) body (aH K X ks kb xs xb aM fz bu exit i inv step μ bP):=
 BP j (λe n O z X X' r a w A h hr=>hr.mono h) (λφ x st a w r t hs hr=>by
  obtain⟨m,hm⟩:=hs;obtain⟨_,I,y,u,h⟩:=Q9 j hm (by rw[hr];exact rfl);subst u;rcases t with rfl|⟨v,rfl⟩
  ·exact h
  simp_all) l o s fC
theorem afe{P:Program}{C:Ctx}(k:dr P C){L:Nat->Option (LS Unit)}{body:Code}{K X:Ty}{ks:List (Nat×Option Nat)}{kb:List (aR)}{xs:List (Nat×Option Nat)}{xb:List (aR)}{aM:List (cT)}{fz:List Nat}{bu:List (aR)}{bP:List (Nat×Nat×List Nat)}{exit:Nat}{i:Bool}
  {inv:K.den->X.den->Prop} {step:K.den->X.den->an K.den X.den Unit} {μ:K.den->X.den->Nat} {d:an K.den X.den Unit}
  (l: ∀b∈loopsIn body,∀j,L (cP b)=some j->cG P C.G (λ_ _ _ _ _ _ _=>False) b j)
  (m: ∀f g,Fit K f->Fit X g->inv f g->eP (evCode C L body (cW (aH K X ks kb xs xb aM fz bu exit i inv step μ bP) (enc K f) (enc X g)) (evRound (aH K X ks kb xs xb aM fz bu exit i inv step μ bP) (λ_ _=> .bad))))
  (o: ∀f g,(evCode C L body (cW (aH K X ks kb xs xb aM fz bu exit i inv step μ bP) (enc K f) (enc X g)) (evRound (aH K X ks kb xs xb aM fz bu exit i inv step μ bP) (λ_ _=> .bad))).val an.ret d=step f g)
  (fC: ∀f g,Fit K f->inv f g->bf i inv μ f g (step f g)):
  cG P C.G (λ_ _ _ _ _ _ _=>False) body (aH K X ks kb xs xb aM fz bu exit i inv step μ bP):=
 BP k (λe n O s X X' r a w t h hr=>hr.elim) (λφ x st a w r u hs hr=>by cases hr) l m o fC
def A4{ρ:Type}:Nat->Option (LS ρ):=λ_=>none
theorem agM{ρ:Type}{c:Code}{Q:Code->LS ρ->Prop}: ∀body∈loopsIn c,∀s,A4 (cP body)=some s->Q body s:=λ_ _ _ h=>by cases h
def eX{ρ:Type}:List (Nat×LS ρ)->Nat->Option (LS ρ)
 | [],_=>none
 |(i,s)::r,t=>cnd (Nat.beq t i) (some s) (eX r t)
def jx:Code->List Nat->Code
 |c,[]=>c
 |c,i::r=>jx ((loopsIn c).getD i .skip) r
def fL(fn:Func):Code:=fn.body.getD .skip
section
variable {P:Program} {G:Gd} {ρ:Type} {Ret:Exit->Nat->(Nat->Prop)->(Nat->Nat->Prop)->ρ->Act->World->Prop} {L:Nat->Option (LS ρ)}
theorem Hy: ∀body∈([]:List Code),∀s,L (cP body)=some s->cG P G Ret body s:=λ_ h=>by cases h
theorem Ol{b:Code}{s0:LS ρ}{rest:List Code}(h0:L (cP b)=some s0)(h1:cG P G Ret b s0)
  (h: ∀body∈rest,∀s,L (cP body)=some s->cG P G Ret body s): ∀body∈b::rest,∀s,L (cP body)=some s->cG P G Ret body s:=by
 simp_all
theorem oy{c:Code}{l:List Code}(a:loopsIn c=l)(h: ∀body∈l,∀s,L (cP body)=some s->cG P G Ret body s): ∀body∈loopsIn c,∀s,L (cP body)=some s->cG P G Ret body s:=by simp_all
end
end
section
def isPv(v pv:Value):Bool:=match v,pv with
 | .iface t (.agg a),.iface f (.agg g)=>andd (Nat.beq t f) (andd (jZ a.toList) (jZ g.toList))
 |_,_=>false
theorem Ub{v pv:Value}(h:isPv v pv=true):v=pv:=by
 unfold isPv at h;split at h;case h_2=>cases h
 obtain⟨h1,h2⟩:=aF h;obtain⟨h2,h3⟩:=aF h2;have key: ∀a:Array Value,jZ a.toList=true->a= #[]:=by
  rintro⟨l⟩ h
  cases l with
  |nil=>rfl
  |cons=>cases h
 grind [beq_eq]
def retD(pv:Value)(Q:Ty)(f:List (aR))(x:Ex)(st:ASt):Tr Q.den Q.den:=match x with
 | .dL v=>cnd (isPv v pv) (match rdBoxes st false Q f with|some y=> .ret y|none=> .bad) .bad
 |_=> .bad
def Ze{α:Type}(o:Option α):Tr α α:=match o with|some y=> .ret y|none=> .bad
def kD(pv:Value)(Q:Ty)(f:List (aR))(g:Q.den->Q.den)(x:Ex)(st:ASt):Tr Q.den Q.den:=match x with
 | .exit _=> .bad
 | .dL v=>cnd (isPv v pv) (match rdBoxes st false Q f with|some y=> .ret (g y)|none=> .bad) .bad
 |_=>Ze (rdBoxes st false Q f)
def oe{q A:Ty}(n:Int)(y:(Ty.pair q (.pair A (.int .i64))).den):(Ty.pair q (.pair A (.int .i64))).den:=(y.1,(y.2.1,n))
def cD(mask:List Bool)(sz:List Nat)(tx f te:Nat):List (aR):=app (zipN (posIn mask 0) sz) [(tx,f),(te,1)]
def evFnD(C:Ctx)(fn:Func)(p:Ty)(ax:List (Option Nat))(mask:List Bool)(sz:List Nat)(ex:Bool)(q A:Ty)(tx te:Nat)(n:Int)(pv:Value)(L:Nat->Option (LS (Ty.pair q (.pair A (.int .i64))).den))(x:p.den):
  Tr (Ty.pair q (.pair A (.int .i64))).den (Ty.pair q (.pair A (.int .i64))).den:=
 match fn.body with
 |some (.seq f (.seq (.region id g d) c1))=>nJ C fn p ax mask sz false ex L (.seq f (.seq (.region id g d) c1)) f (λe st=>match e with
  | .normal=>cnd (andd (Nat.beq q.n (cI sz)) (andd (oM (firsts (cD mask sz tx A.n te))) (andd (isSomeB (rdW st (cD mask sz tx A.n te))) (chkP st (dsts c1) [] (firsts (cD mask sz tx A.n te)) (selfs (cD mask sz tx A.n te))))))
   (evCode C L c1 st (kD pv _ (cD mask sz tx A.n te) (oe n))) .bad
  |_=> .bad) x
 |_=> .bad
section
variable {φ:Fr} {ν ν':Nat->Bool} {m:Map} {st:ASt} {a:Act} {w w':World} {own:List (bS)} {W:List Nat} {P:Program} {C:Ctx} {o:Oper} {e:Eff}
 {K:Act->World->Prop}
def jV(Q:Ty)(f:List (aR))(X:Nat->Nat->Prop)(y:Q.den)(a:Act)(w:World):Prop:=
 ∃(m:Map) (g:List Value),cZ m w f g/\(∀k∈firsts f,∃b,m k=some (b,0)/\a.tmps.getD k undef= .pointer (some ⟨b,0,none⟩))/\
  (∀k∈firsts f,∀k'∈firsts f,∀b,m k=some (b,0)->m k'=some (b,0)->k=k')/\TR w (λb p=>X b p\/ ∃k∈firsts f,m k=some (b,0)) Q y g
def qO(pv:Value)(Q:Ty)(f:List (aR))(e:Exit)(n0:Nat)(O:Nat->Prop)(X:Nat->Nat->Prop)(y:Q.den)(a:Act)(w:World):Prop:=
 e= .panic [{ v:=pv,recovered:=false}]/\jV Q f X y a w
theorem jV.mono{Q:Ty}{f:List (aR)}{X X':Nat->Nat->Prop}{y:Q.den}(hX: ∀b p,X' b p->X b p)(h:jV Q f X y a w):jV Q f X' y a w:=by
 obtain⟨m,g,h1,h2,h3,h4⟩:=h;exact⟨m,g,h1,h2,h3,h4.mono dM (λb p _ h=>h.elim (λh=> .inl (hX b p h)) .inr) _ _ _⟩
theorem qO.mono{pv:Value}{Q:Ty}{f:List (aR)}{e:Exit}{n0:Nat}{O g:Nat->Prop}{X X':Nat->Nat->Prop}{y:Q.den}(hX: ∀b p,X' b p->X b p)(h:qO pv Q f e n0 O X y a w):qO pv Q f e n0 g X' y a w:=⟨h.1,h.2.mono hX⟩
theorem B3(hs:aG φ ν m st a w){Q:Ty}{i:List (aR)}{y:Q.den}(h:rdBoxes st false Q i=some y):jV Q i φ.X0 y a w:=by
 unfold rdBoxes at h;split at h;case h_2=>cases h
 rename_i Z A I;split at h;case h_2=>cases h
 rename_i qc J;obtain⟨L,M,N,_⟩:=nz hs A;have O:=qa hs J N (λ_ k g=>g);have S:=rL I;have T: ∀k∈firsts i,∃b,m k=some (b,0)/\a.tmps.getD k undef= .pointer (some ⟨b,0,none⟩):=λk g=>by
  obtain⟨U,_,_,_⟩:=S k k (xM g);obtain⟨b,g2,g3⟩:=hs.slot k _ U (λx f=>by cases f);simp_all
 refine⟨m,L,M,T,λk _ k' _ b h1 h2=>hs.inj _ _ _ _ _ h1 h2 rfl rfl,(gZ h O).mono dM (λb q _ f=> ?_) _ _ _⟩;rcases f with f|⟨k,g,l⟩
 ·refine⟨.inl f,λk g p t a4 hm=> ?_⟩
  obtain⟨h6,h7,_⟩:=hs.x0 _ _ f;cases hb0:st.box k with
  |none=>rw[hs.bK k hb0]at hm;cases hm
  |some bx0=>
   have V:bx0.jN=false:=by
    cases bx0 with
    |ro cs=>
     obtain⟨b2,_,_,u,_⟩:=hs.box k _ hb0;rw[hm]at u;cases u;omega
    |_=>rfl
   rcases hs.own k bx0 b p hb0 V hm t with z|z
   ·exact h7 z
   ·omega
 ·refine⟨.inr ⟨k,0,l,rfl⟩,λj _ p Y t s=> ?_⟩
  have:=hs.inj k j b 0 p l s rfl Y;subst this;rw[l]at s;cases s;omega
theorem GY: ∀{l1 l2:List (aR)} {vs:List Value},cZ m w (app l1 l2) vs-> ∃f v2,vs=f++v2/\cZ m w l1 f/\cZ m w l2 v2
 | [],l2,vs,h=>⟨[],vs,rfl,rfl,h⟩
 |(k,n)::r,l2,vs,h=>by
  obtain⟨b,us,T,g,h1,h2,h3,rfl,h4⟩:=h;obtain⟨f,v2,rfl,h5,h6⟩:=GY h4;exact⟨us.toList++f,v2,by simp,⟨b,us,T,f,h1,h2,h3,rfl,h5⟩,h6⟩
theorem GO: ∀{l:List (aR)} {ks sz:List Nat} {vs:List Value},cZ m w (zipN ks sz) vs->ks.length=sz.length->vs.length=cI sz
 |_,[],[],vs,h,_=>by subst h;rfl
 |l,k::ks,n::sz,vs,h,hl=>by
  obtain⟨b,us,T,f,h1,h2,h3,rfl,h4⟩:=h;have:=GO (l:=l) h4 (by simp_all);simp_all [cI]
 |_,[],_::_,_,_,hl=>by simp_all
 |_,_::_,[],_,_,hl=>by simp_all
theorem tY: ∀{l1 l2:List (aR)},firsts (app l1 l2)=firsts l1++firsts l2
 | [],l2=>rfl
 |(k,n)::r,l2=>by rw[bI,awz,<- bI];simp only[firsts,awz,tY]
theorem eF.one{b:Nat}{us vs:Array Value}{T:TypeId}{z:aR}{ob:Obj}(hw:w.heap[b]? =some (.cells us T z))(hs:vs.size=us.size):eF [b] w ((w.setRow b vs).alloc ob):=by
 have hb:Below (w.setRow b vs).heap.size (w.setRow b vs) ((w.setRow b vs).alloc ob):=Below.alloc (aw6 _ _) (au2 _) _;have h:(w.setRow b vs).heap.size=w.heap.size:=by simp
 have g: ∀k,k<w.heap.size->((w.setRow b vs).alloc ob).heap[k]? =(w.setRow b vs).heap[k]? :=λk f=>hb.block k (by omega)
 refine⟨hb.os,hb.tape,hb.output,?_,λk f i=> ?_,λk f=> ?_,λk p f=> ?_⟩
 ·simp_all
 ·grind [setRow_other]
 ·unfold World.shape?
  rw[g k f];by_cases e:k=b
  ·subst e;rw[axd _ _ _ _ _ _ hw,hw];simp[hs]
  ·rw[aw4 _ _ _ _ e]
 ·unfold World.frozen?
  rw[g k f];by_cases e:k=b
  ·subst e;rw[axd _ _ _ _ _ _ hw,hw]
  ·rw[aw4 _ _ _ _ e]
theorem eF.trans{bs cs:List Nat}{u:World}(h1:eF bs w u)(h2:eF cs u w')(h: ∀k∈cs,k∈bs\/w.heap.size<=k):eF bs w w':=by
 refine⟨h2.os.trans h1.os,h2.tape.trans h1.tape,h2.output.trans h1.output,auq h1.size h2.size,λk f g=> ?_,λk f=>(h2.shape k (au5 f h1.size)).trans (h1.shape k f),λk p f=>(h2.frozen k p (au5 f h1.size)).trans (h1.frozen k p f)⟩;refine(h2.block k (au5 f h1.size) λhm=> ?_).trans (h1.block k f g);grind
theorem eF.keeps{bs:List Nat}{X:Nat->Nat->Prop}(h:eF bs w w')(hX: ∀b∈bs,∀p,X b p):dG X w w':=
 ⟨h.size,λb p hb f=>by unfold World.cell?;rw[h.block b hb (λhm=>f (hX b hm p))],h.shape,h.frozen⟩
theorem results_boxes{fn:Func}{q A:Ty}{mask:List Bool}{sz:List Nat}{tx te:Nat}{TX TE:TypeId}{dX dE:TD}(J:jL P TX dX)(V:dX.agg=true)(Y:dX.ty.n=A.n)(i:jL P TE dE)(L:dE.agg=false)
  (Z:fn.results.toList= [.cell tx TX,.cell te TE]) (hq:q.n=cI sz) (M:(posIn mask 0).length=sz.length) {X:Nat->Nat->Prop} {y:(Ty.pair q (.pair A (.int .i64))).den} (h:jV (.pair q (.pair A (.int .i64))) (cD mask sz tx A.n te) X y a w):
  ∃(v:Value) (cv:List Value) (m:Map) (g:List Value),(results fn a.tmps).run P w= .ok v w/\TR w X (.pair A (.int .i64)) y.2 cv/\zq (.tup [some A.n,none]) cv v/\cZ m w (zipN (posIn mask 0) sz) g/\
   TR w (λb p=>X b p\/ ∃k∈firsts (cD mask sz tx A.n te),m k=some (b,0)) q y.1 g/\(∀k∈posIn mask 0,∃b,m k=some (b,0)/\a.tmps.getD k undef= .pointer (some ⟨b,0,none⟩))/\
   TR w (λb p=>X b p\/ ∃k∈firsts (cD mask sz tx A.n te),m k=some (b,0)) (.pair A (.int .i64)) y.2 cv:=by
 obtain⟨m,e6,h1,h2,h3,h4⟩:=h;obtain⟨g,rv,rfl,N,h9⟩:=GY h1;obtain⟨bx,f,Tx,e9,a1,a2,s,rfl,a3⟩:=h9;obtain⟨be,ue,Te,a5,a6,a7,f2,rfl,u⟩:=a3;have u:a5= []:=u;subst u;obtain⟨v1,v2,hv,O,b3⟩:=h4;have b4:g.length=v1.length:=by rw[GO (l:= []) N M,<- hq,O.len]
 obtain⟨rfl,rfl⟩:=axl hv b4;obtain⟨va,ve,b7,z,I⟩:=b3;have b9:f.toList.length=va.length:=by rw[z.len];simpa using s
 obtain⟨rfl,Q⟩:=axl b7 b9;rw[aws]at Q;have c0:ve= [.int .i64 y.2.2]:=I;subst c0;have S:tx∈firsts (cD mask sz tx A.n te)/\te∈firsts (cD mask sz tx A.n te):=by
  unfold cD;rw[tY];simp[firsts]
 obtain⟨b1,T,g2⟩:=h2 tx S.1;rw[a1]at T;cases T;obtain⟨b2,U,g4⟩:=h2 te S.2;rw[a6]at U;cases U;have d5:(loadVar TX ⟨bx,0,none⟩).run P w= .ok (.agg f) w:=by
  have:=rr J (vs:=f.toList) (by simp[s,Y]) (λj hj=>by
   rw[avs,m1 a2,au9,avy,awp (by omega)];rfl) J.one
  rw[this];unfold cd;rw[V];simp
 have d7:(loadVar TE ⟨be,0,none⟩).run P w= .ok (.int .i64 y.2.2) w:=by
  have hn:=i.one L;have:=rr i (o:=0) (vs:= [.int .i64 y.2.2]) (by simp[hn]) (λj hj=>by
   have e0:j=0:=by omega
   subst e0;rw[m1 a7,<- avy,Q];rfl) i.one
  rw[this];unfold cd;rw[L];rfl
 refine⟨.tuple #[.agg f,.int .i64 y.2.2],f.toList++ [.int .i64 y.2.2],m,g,?_,⟨f.toList,[.int .i64 y.2.2],rfl,z.mono dM (λb p _ h=> .inl h) _ _ _,I⟩,⟨[.agg f,.int .i64 y.2.2],rfl,f.toList,[.int .i64 y.2.2],by simp,by simpa using s,rfl,[],rfl,rfl⟩,N,O,λk hk=>h2 k ?_,⟨f.toList,[.int .i64 y.2.2],rfl,z,I⟩⟩
 ·unfold results
  rw[auy,ax4,Z];have:(List.toArray<$> [ResultVar.cell tx TX,ResultVar.cell te TE].mapM λx=>(match x with| .tmp t=>pure (a.tmps.getD t undef)| .cell b t=>do loadVar t (<- asAddr (a.tmps.getD b undef)):Sem Value)).run P w= .ok #[.agg f,.int .i64 y.2.2] w:=by
   rw[map_eq_pure_bind,auy,List.mapM_cons,auy];simp only[];have e1:((asAddr (a.tmps.getD tx undef))>>=λx=>loadVar TX x).run P w= .ok (.agg f) w:=by rw[auy,g2];exact d5
   have e2:((asAddr (a.tmps.getD te undef))>>=λx=>loadVar TE x).run P w= .ok (.int .i64 y.2.2) w:=by rw[auy,g4];exact d7
   rw[e1,aus,auy,List.mapM_cons,auy];simp only[];rw[e2];rfl
  exact Eq.trans (av2 (λq=>Result.andThen q _) this) rfl
 ·unfold cD
  rw[tY,ky M];simp[hk]
structure Jm (P:Program) (g:FuncId) (pv:Value) (n:Int):Prop where
 fn: ∃fn,P.funcs[g]? =some fn/\(fn.name== "runtime.NumGoroutine")=false/\fn.body.isNone=false
 idle: ∀(p:Addr) (w:World),CallsD P g #[.pointer (some p)] .returning w λe u' w'=>e= .returned (.tuple #[])/\u'= .returning/\w'=w
 dL: ∀(b:Nat) (u0:Value) (T:TypeId) (w:World),w.heap[b]? =some (.cells #[u0] T (0,0))->CallsD P g #[.pointer (some ⟨b,0,none⟩)] (.panicking [{ v:=pv,recovered:=false}]) w λe u' w'=>
  e= .returned (.tuple #[])/\u'= .panicking [{ v:=pv,recovered:=true}]/\ ∃ob,w'=(w.setRow b #[.int .i64 n]).alloc ob
theorem jV.set{q A:Ty}{mask:List Bool}{sz:List Nat}{tx te:Nat}{X:Nat->Nat->Prop}{y:(Ty.pair q (.pair A (.int .i64))).den}{n:Int}{b:Nat}{ob:Obj}(Q:(posIn mask 0).length=sz.length)(hq:q.n=cI sz)(a2:(firsts (cD mask sz tx A.n te)).Nodup)
  (h:jV (.pair q (.pair A (.int .i64))) (cD mask sz tx A.n te) X y a w) (b7:a.tmps.getD te undef= .pointer (some ⟨b,0,none⟩)):
  (∃j T,w.heap[b]? =some (.cells #[j] T (0,0)))/\jV (.pair q (.pair A (.int .i64))) (cD mask sz tx A.n te) X (oe n y) a ((w.setRow b #[.int .i64 n]).alloc ob):=by
 obtain⟨m,g9,h1,h2,h3,h4⟩:=h;have S:te∈firsts (cD mask sz tx A.n te):=by grind [cD,firsts,tY]
 obtain⟨b2,I,J⟩:=h2 te S;rw[b7]at J;cases J;obtain⟨L,rv,rfl,a3,J⟩:=GY h1;obtain⟨bx,s,Tx,i5,c0,c9,a4,rfl,d0⟩:=J;obtain⟨be,ue,U,d5,a6,M,d6,rfl,V⟩:=d0;have V:d5= []:=V;subst V;rw[I]at a6;cases a6;obtain⟨j,rfl⟩: ∃j,ue= #[j]:=by
  obtain⟨l⟩:=ue;match l,d6 with
  | [u],_=>exact⟨u,rfl⟩
 refine⟨⟨j,U,M⟩,?_⟩;have a7:eF [b] w ((w.setRow b #[.int .i64 n]).alloc ob):=eF.one M rfl;have a9:dG (λb p=>X b p\/ ∃k∈firsts (cD mask sz tx A.n te),m k=some (b,0)) w ((w.setRow b #[.int .i64 n]).alloc ob):=a7.keeps (λf d7 p=>by
  have:f=b:=by simpa using d7
  subst this;exact .inr ⟨te,S,I⟩)
 have b0: ∀(l:List (aR)) (vs:List Value),(∀k∈firsts l,k∈firsts (cD mask sz tx A.n te)/\k≠te)->cZ m w l vs->cZ m ((w.setRow b #[.int .i64 n]).alloc ob) l vs:=by
  intro l;induction l with
  |nil=>intro vs _ h;exact h
  |cons x r Y=>
   obtain⟨k,nn⟩:=x;intro vs g h;obtain⟨f,us,T,t,N,O,Z,rfl,g4⟩:=h;obtain⟨k1,k2⟩:=g k (by simp[firsts]);refine⟨f,us,T,t,N,?_,Z,rfl,Y t (λk' e3=>g k' (by simp[firsts,e3])) g4⟩;have e4:f<w.heap.size:=(Array.getElem?_eq_some_iff.1 O).1;rw[a7.block f e4 (by
    simp only[av8];intro e;subst e;exact k2 (h3 k k1 te S f N I))]
   exact O
 have h9:firsts (cD mask sz tx A.n te)=posIn mask 0++ [tx,te]:=by unfold cD;rw[tY,ky Q];rfl
 have b3:te∉posIn mask 0/\te≠tx:=by
  rw[h9]at a2;have:=List.nodup_append.1 a2;exact⟨λhm=>this.2.2 te hm te (by simp) rfl,λe=>by have:=(List.nodup_cons.1 this.2.1).1;simp[e]at this⟩
 obtain⟨v1,v2,hv,b4,e7⟩:=h4;have e8:L.length=v1.length:=by rw[GO (l:= []) a3 Q,<- hq,b4.len]
 obtain⟨rfl,rfl⟩:=axl hv e8;obtain⟨va,ve,f0,b5,i9⟩:=e7;have f6:s.toList.length=va.length:=by rw[b5.len];simpa using a4
 obtain⟨rfl,j0⟩:=axl f0 f6;have f7:cZ m ((w.setRow b #[.int .i64 n]).alloc ob) (cD mask sz tx A.n te) (L++(s.toList++ [.int .i64 n])):=by
  have e1:=b0 (zipN (posIn mask 0) sz) L (λk g=>by
   rw[ky Q]at g;exact⟨by rw[h9];simp[g],λe=>b3.1 (e▸g)⟩) a3
  have e2:=b0 [(tx,A.n)] s.toList (λk g=>by
   have:k=tx:=by simpa[firsts]using g
   subst this;exact⟨by rw[h9];simp,λe=>b3.2 e.symm⟩) ⟨bx,s,Tx,[],c0,c9,a4,by simp,rfl⟩
  obtain⟨g0,g5,g6,z,f1,f2,f3,f4,f5⟩:=e2;have f5:z= []:=f5;subst f5;rw[aws]at f4;have g7:b<w.heap.size:=(Array.getElem?_eq_some_iff.1 M).1;have g8:((w.setRow b #[.int .i64 n]).alloc ob).heap[b]? =some (.cells #[.int .i64 n] U (0,0)):=by
   rw[axx _ _ _ (by simpa using g7)];exact axd _ _ _ _ _ _ M
  have key: ∀(l:List (aR)) (vs:List Value) (l2:List (aR)) (i:List Value),cZ m ((w.setRow b #[.int .i64 n]).alloc ob) l vs->cZ m ((w.setRow b #[.int .i64 n]).alloc ob) l2 i->cZ m ((w.setRow b #[.int .i64 n]).alloc ob) (app l l2) (vs++i):=by
   intro l;induction l with
   |nil=>intro vs l2 i h h';have h:vs= []:=h;subst h;exact h'
   |cons x r Y=>
    obtain⟨k,nn⟩:=x;intro vs l2 i h h';obtain⟨f,us,T,t,N,O,Z,rfl,g4⟩:=h;rw[bI,awz,<- bI,avb];exact⟨f,us,T,t++i,N,O,Z,rfl,Y t l2 i g4 h'⟩
  exact key _ _ _ _ e1 ⟨g0,g5,g6,[.int .i64 n],f1,f2,f3,by rw[f4],⟨b,#[.int .i64 n],U,[],I,g8,rfl,rfl,rfl⟩⟩
 exact⟨m,_,f7,h2,h3,L,_,rfl,b4.mono a9 fJ _ _ _,s.toList,[.int .i64 n],rfl,b5.mono a9 fJ _ _ _,rfl⟩
theorem alW(hC:dr P C){f g:FuncId}{fn:Func}(hf:P.funcs[f]? =some fn){p q A:Ty}{ax:List (Option Nat)}{mask:List Bool}{sz:List Nat}{ex:Bool}{pre:Option (p.den->Prop)}{tx te:Nat}{TX TE:TypeId}{dX dE:TD}{n:Int}{pv:Value}
  {L:Nat->Option (LS (Ty.pair q (.pair A (.int .i64))).den)} {c0 c1:Code} {id:Nat} {Z:Oper} {call:Call} (hb:fn.body=some (.seq c0 (.seq (.region id #[Z] false) c1)))
  (f4:Z.op= .defer call) (f5:call.callee= .value (.func g)) (f6:call.args= #[.tmp te]) (f7:Z.dst=none) (f8:Z.guard=none) (b4:Jm P g pv n)
  (f9:jL P TX dX) (g4:dX.agg=true) (g5:dX.ty.n=A.n) (g6:jL P TE dE) (g7:dE.agg=false) (g8:fn.results.toList= [.cell tx TX,.cell te TE])
  {FD:p.den->(Ty.pair q (.pair A (.int .i64))).den} {dflt:(Ty.pair q (.pair A (.int .i64))).den}
  (m0:loopsIn c0= []) (hL: ∀body∈loopsIn c1,∀s,L (cP body)=some s->cG P C.G (qO pv (.pair q (.pair A (.int .i64))) (cD mask sz tx A.n te)) body s)
  (i3: ∀x,(ex=false->Fit p x)->(∀q,pre=some q->q x)->(evFnD C fn p ax mask sz ex q A tx te n pv L x).safe)
  (i4: ∀x,(evFnD C fn p ax mask sz ex q A tx te n pv L x).val (oe n) dflt=FD x):
  ki P C.G f { p:=p,ax:=ax,mask:=mask,sz:=sz,ro:=false,ex:=ex,q:=q,r:= .pair A (.int .i64),ao:= .tup [some A.n,none],pre:=pre,F:=λx=>((FD x).2,(FD x).1)}:=by
 intro x w X args cv pc bs hH hX i5 i6 i7 i9 d6 d7;have hA:=ku (rt:=oe n) (d:=dflt) (i3 x (λ_=>lz (Tw d7)) i5);rw[i4]at hA;unfold evFnD at hA;rw[hb]at hA;simp only at hA;have b0:=RG hA;refine calls_of_wp_defers hf hb (wp_seq (C5 hC (λd hd=>by simp_all [dsts,bI,aww]) (Ret:=λ_ _ _ _ _ _ _=>False) (λe n O O' X X' r a w hO h hr=>hr) (by simp_all) hH hX i6 i7 i9 d6 d7 hA
  (λφ J b5 e U M w' m' l j2 S=> ?_) (λφ J b5 e he r M w' hp hr u hd=>hr.elim)))
 cases e with
 |exit id=>exact S.elim
 |ret=>exact S.elim
 |dL v=>exact S.elim
 |normal=>
 simp only at S;obtain⟨hq,b2,e0,j4,S⟩:q.n=cI sz/\(firsts (cD mask sz tx A.n te)).Nodup/\isSomeB (rdW U (cD mask sz tx A.n te))=true/\chkP U (dsts c1) [] (firsts (cD mask sz tx A.n te)) (selfs (cD mask sz tx A.n te))=true/\
   (evCode C L c1 U (kD pv _ (cD mask sz tx A.n te) (oe n))).dp (oe n) (λr=>r=FD x):=by
  cases hck:andd (Nat.beq q.n (cI sz)) (andd (oM (firsts (cD mask sz tx A.n te))) (andd (isSomeB (rdW U (cD mask sz tx A.n te))) (chkP U (dsts c1) [] (firsts (cD mask sz tx A.n te)) (selfs (cD mask sz tx A.n te)))))with
  |false=>rw[hck]at S;exact S.elim
  |true=>
   rw[hck]at S;obtain⟨h1,h2⟩:=aF hck;obtain⟨h2,h3⟩:=aF h2;obtain⟨h3,h4⟩:=aF h3;exact⟨beq_eq h1,xx h2,h3,h4,S⟩
 have hP:=rL j4;have a6:firsts (cD mask sz tx A.n te)=posIn mask 0++ [tx,te]:=by unfold cD;rw[tY,ky b0];rfl
 have e1: ∀k∈firsts (cD mask sz tx A.n te),k∉dsts c1/\ ∃b,m' k=some (b,0)/\M.tmps.getD k undef= .pointer (some ⟨b,0,none⟩):=λk u=>by
  obtain⟨g1,g0,_,_⟩:=hP k k (xM u);obtain⟨b,g2,g3⟩:=l.slot k _ g1 (λx hx=>by cases hx);exact⟨g0,b,g2,g3⟩
 obtain⟨k0,N,e2,b7⟩:=e1 te (by rw[a6];simp);have k1:aj (λk b=>m' k=some (b,0)) (posIn mask 0) bs:=J.bu m' M l.nL (λk u=>(e1 k (by rw[a6];simp[u])).2);have k2:w.heap.size<=N:=by
  obtain⟨cs,k3⟩: ∃cs,rdW U (cD mask sz tx A.n te)=some cs:=by
   cases hr:rdW U (cD mask sz tx A.n te)with
   |none=>rw[hr]at e0;cases e0
   |some cs=>exact⟨cs,rfl⟩
  obtain⟨_,_,_,k4⟩:=nz l k3;obtain⟨ds,k5⟩:=k4 te (by rw[a6];simp);rcases l.own te _ N 0 k5 rfl e2 rfl with h|h
  ·exfalso
   obtain⟨k,b9,c9⟩:=k1.lk N (J.B N h);have:=l.inj _ _ _ _ _ c9 e2 rfl rfl;subst this;rw[a6]at b2;exact(List.nodup_append.1 b2).2.2 k b9 k (by simp) rfl
  ·rw[J.w0]at h;exact h
 have k6:M.defers= []:=l.defers.trans b5;let d:Deferred:={ target:= .fn (.func g) #[],args:= #[.pointer (some ⟨N,0,none⟩)]}
 have k7:(execOp M.eval Z).run P w'= .ok (.defer d) w':=by
  have m4:M.eval (.tmp te)= .pointer (some ⟨N,0,none⟩):=b7;simp only[execOp,f4,resolve,f5,Act.eval,Deferred.ofValue,auy,avh,aus,f6];simp[Act.eval,b7,d]
 let z:Fr:={ φ with a0:={ M with defers:= [d]},D:=λt=>mem t (dsts c1)}
 have Q:aG z ν0 m' U { M with defers:= [d]} w':=
  { tmps:=l.tmps,defers:=rfl,slot:=l.slot,skip:=l.skip,box:=l.box,inj:=l.inj,low:=l.low,bK:=l.bK,own:=l.own,vn:=l.vn,dK:=l.dK,n0:=l.n0,fN:=l.fN,aN:=l.aN,dA:=l.dA,dW:=l.dW,x0:=l.x0,gA:=λt _=>rfl}
 have k8: ∀i,kL z i->kL φ { i with defers:= []}:=λi u=>⟨b5.symm,λt ht=>(u.2 t (by
  show mem t (dsts c1)=false;cases hq:mem t (dsts c1)with
  |false=>rfl
  |true=>
   have:=(J.dsts t (by simp only[dsts,bI,aww];exact .inr (.inr (cN.1 hq)))).2;rw[ht]at this;cases this)).trans (l.gA t ht)⟩
 have e3: ∀j,kK z j->eF bs w j:=λj u=>J.below j ⟨u.aN,u.dA,u.dW⟩
 let R:Ending->World->Prop:=(λe w'=>(pnB { p:=p,ax:=ax,mask:=mask,sz:=sz,ro:=false,ex:=ex,q:=q,r:= .pair A (.int .i64),ao:= .tup [some A.n,none],pre:=pre,F:=λx=>((FD x).2,(FD x).1):Cp} x=false/\ ∃v,e= .returned v/\eF (if false then[]else bs) w w'/\pj w.heap.size none w' X (.tup [some A.n,none]) (.pair A (.int .i64)) (FD x).2 v/\
    ∃a7,gr w' X bs sz (fj mask args.toList) a7/\TR w' X q (FD x).1 a7)\/
    (pnB { p:=p,ax:=ax,mask:=mask,sz:=sz,ro:=false,ex:=ex,q:=q,r:= .pair A (.int .i64),ao:= .tup [some A.n,none],pre:=pre,F:=λx=>((FD x).2,(FD x).1):Cp} x=true/\e= .panicked [{ v:=undef,recovered:=false}]/\eF (if false then[]else bs) w w'/\ ∃a7,gr w' X bs sz (fj mask args.toList) a7/\TR w' X q (FD x).1 a7))
 have e4: ∀(y:(Ty.pair q (.pair A (.int .i64))).den) (i:Act) (j w3:World),y=FD x->kK z j->kL z i->eF bs w w3->jV (.pair q (.pair A (.int .i64))) (cD mask sz tx A.n te) z.X0 y i w3->
   Leaves P fn i.tmps R [] .returning w3:=by
  intro y i j w3 hy a4 V l4 Y;subst hy;obtain⟨v,cv,m3,qv,h1,h2,h3,h4,h5,h6,h7⟩:=results_boxes f9 g4 g5 g6 g7 g8 hq b0 Y;have e5:=J.bu m3 { i with defers:= []} (k8 i V) h6;have e6:di w3 (λb p=>z.X0 b p\/ ∃k∈firsts (cD mask sz tx A.n te),m3 k=some (b,0)) X:=λb p _ hx=>by
   rcases J.x0 b p hx with h|h
   ·obtain⟨k,b9,c9⟩:=e5.lk b h
    exact .inr ⟨k,by rw[a6];simp[b9],c9⟩
   ·exact .inl h
  exact⟨v,h1,.inl ⟨rfl,v,rfl,l4,⟨cv,h7.mono dM e6 _ _ _,(λT hT=>by cases hT),h3⟩,qv,xE e5 d6 h4,h5.mono dM e6 _ _ _⟩⟩
 have e7: ∀j,(invoke (.fn (.func g) #[]) #[.pointer (some ⟨N,0,none⟩)]).run P j= .ok (.enter g #[.pointer (some ⟨N,0,none⟩)]) j:=λj=>by
  obtain⟨m5,h1,h2,h3⟩:=b4.fn;simp only[invoke];rw[rG h1 h2 h3];simp
 have e8: ∀(y:(Ty.pair q (.pair A (.int .i64))).den) (i:Act) (j:World),oe n y=FD x->jV (.pair q (.pair A (.int .i64))) (cD mask sz tx A.n te) z.X0 y i j->kK z j->kL z i->Leaves P fn i.tmps R i.defers (.panicking [{ v:=pv,recovered:=false}]) j:=by
  intro y i j hy Y a4 V;rw[show i.defers= [d]from V.1];have e9:i.tmps.getD te undef= .pointer (some ⟨N,0,none⟩):=(V.2 te (by
   show mem te (dsts c1)=false;cases hq:mem te (dsts c1)with
   |false=>rfl
   |true=>exact absurd (cN.1 hq) k0)).trans b7
  obtain⟨⟨u0,T,hh⟩,_⟩:=jV.set (n:=n) (ob:= .cells #[] 0) b0 hq b2 Y e9;refine leaves_cons (by simp) (e7 j) ((b4.dL N u0 T j hh).mono λe u' w3 ⟨h1,h2,ob,h3⟩=> ?_);subst h1 h2 h3;obtain⟨_,l9⟩:=jV.set b0 hq b2 Y e9;exact e4 _ i j _ hy a4 V ((e3 j a4).trans (eF.one hh rfl) (λk u=> .inr (by simp at u;rw[u];exact k2))) l9
 have f1: ∀(y:(Ty.pair q (.pair A (.int .i64))).den) (i:Act) (j:World),y=FD x->jV (.pair q (.pair A (.int .i64))) (cD mask sz tx A.n te) z.X0 y i j->kK z j->kL z i->Leaves P fn i.tmps R i.defers .returning j:=by
  intro y i j hy Y a4 V;rw[show i.defers= [d]from V.1];refine leaves_cons (by simp) (e7 j) ((b4.idle ⟨N,0,none⟩ j).mono λe u' w3 ⟨h1,h2,h3⟩=> ?_);subst h1 h2 h3;exact e4 y i _ _ hy a4 V (e3 _ a4) Y
 show((Code.region id #[Z] false).seq c1).wp P _ M w';refine wp_seq (wp_region ?_);show wpOps P #[Z] _ [0] M w';rw[wpOps_cons];unfold wpOp;simp only[List.getElem?_toArray,ay1];rw[ava (by unfold Region.wanted;rw[f8])];refine .inl ?_;unfold Oper.wp;rw[k7,Oper.upon_defer,f7,k6];show c1.wp P _ { M with defers:= [d]} w';refine xR (φ:=z) hC ⟨J.ok.Gz,J.ok.gl⟩ (λe n O O' X X' r a w hO h hr=>hr.mono h) c1 _ _ _ _ w' j2 ⟨m',Q⟩
  (λd hd=>⟨(J.dsts d (by simp only[dsts,bI,aww];exact .inr (.inr hd))).1,cN.2 hd⟩) hL S (λe b3 i j m7 ⟨m2,Q⟩ I=> ?_) (λe he r i j hp hr u hd=> ?_)
 ·have f2:(Ze (rdBoxes b3 false (.pair q (.pair A (.int .i64))) (cD mask sz tx A.n te))).dp (oe n) (λr=>r=FD x)-> ∃y,rdBoxes b3 false (.pair q (.pair A (.int .i64))) (cD mask sz tx A.n te)=some y/\y=FD x:=by
   intro h;cases hr:rdBoxes b3 false (.pair q (.pair A (.int .i64))) (cD mask sz tx A.n te)with
   |none=>rw[hr]at h;exact h.elim
   |some y=>rw[hr]at h;exact⟨y,rfl,h⟩
  cases e with
  |exit id=>exact I.elim
  |normal=>
   obtain⟨y,h1,h2⟩:=f2 I;exact f1 y i j h2 (B3 Q h1) Q.lD Q.nL
  |ret=>
   obtain⟨y,h1,h2⟩:=f2 I;exact f1 y i j h2 (B3 Q h1) Q.lD Q.nL
  |dL v=>
   simp only[kD]at I;cases hv:isPv v pv with
   |false=>rw[hv]at I;exact I.elim
   |true=>
    rw[hv]at I;simp only[cnd]at I;cases hr:rdBoxes b3 false (.pair q (.pair A (.int .i64))) (cD mask sz tx A.n te)with
    |none=>rw[hr]at I;exact I.elim
    |some y=>
     rw[hr]at I;rw[Ub hv];exact e8 y i j I (B3 Q hr) Q.lD Q.nL
 ·obtain⟨rfl,Y⟩:=hr
  exact e8 r i j hp Y u hd
end
theorem akh{C:Ctx}(j:dr prog C)(k:C.G=bC){f g:FuncId}{fn:Func}(l:prog.funcs[f]? =some fn){p q A:Ty}{ax:List (Option Nat)}{mask:List Bool}{sz:List Nat}{ex:Bool}{pre:Option (p.den->Prop)}{tx te:Nat}{TX TE:TypeId}{dX dE:TD}{n:Int}{pv:Value}
  {L:Nat->Option (LS (Ty.pair q (.pair A (.int .i64))).den)} {i c1:Code} {id:Nat} {h:Oper} {call:Call} (hb:fn.body=some (.seq i (.seq (.region id #[h] false) c1)))
  (t:h.op= .defer call) (u:call.callee= .value (.func g)) (y:call.args= #[.tmp te]) (z:h.dst=none) (I:h.guard=none) (J:Jm prog g pv n)
  (M:jL prog TX dX) (N:dX.agg=true) (O:dX.ty.n=A.n) (Q:jL prog TE dE) (S:dE.agg=false) (T:fn.results.toList= [.cell tx TX,.cell te TE])
  {FD:p.den->(Ty.pair q (.pair A (.int .i64))).den} {dflt:(Ty.pair q (.pair A (.int .i64))).den}
  (U:loopsIn i= []) (V: ∀body∈loopsIn c1,∀s,L (cP body)=some s->cG prog C.G (qO pv (.pair q (.pair A (.int .i64))) (cD mask sz tx A.n te)) body s)
  (Y: ∀x,(ex=false->Fit p x)->(∀q,pre=some q->q x)->eP (evFnD C fn p ax mask sz ex q A tx te n pv L x))
  (Z: ∀x,(evFnD C fn p ax mask sz ex q A tx te n pv L x).val (oe n) dflt=FD x):
  ki prog bC f { p:=p,ax:=ax,mask:=mask,sz:=sz,ro:=false,ex:=ex,q:=q,r:= .pair A (.int .i64),ao:= .tup [some A.n,none],pre:=pre,F:=λx=>((FD x).2,(FD x).1)}:=
 k▸alW j l hb t u y z I J M N O Q S T U V (λx h1 h2=>(Y x h1 h2).safe) Z
theorem afC{P:Program}{C:Ctx}(k:dr P C){pv:Value}{Q:Ty}{pl:List (aR)}{L:Nat->Option (LS Q.den)}{body:Code}{K X:Ty}{ks:List (Nat×Option Nat)}{kb:List (aR)}{xs:List (Nat×Option Nat)}{xb:List (aR)}{aM:List (cT)}{fz:List Nat}{bu:List (aR)}{bP:List (Nat×Nat×List Nat)}{exit:Nat}{i:Bool}
  {inv:K.den->X.den->Prop} {step:K.den->X.den->an K.den X.den Q.den} {μ:K.den->X.den->Nat} {d:an K.den X.den Q.den}
  (l: ∀b∈loopsIn body,∀j,L (cP b)=some j->cG P C.G (qO pv Q pl) b j)
  (s: ∀f g,Fit K f->Fit X g->inv f g->eP (evCode C L body (cW (aH K X ks kb xs xb aM fz bu exit i inv step μ bP) (enc K f) (enc X g)) (evRound (aH K X ks kb xs xb aM fz bu exit i inv step μ bP) (retD pv Q pl))))
  (t: ∀f g,(evCode C L body (cW (aH K X ks kb xs xb aM fz bu exit i inv step μ bP) (enc K f) (enc X g)) (evRound (aH K X ks kb xs xb aM fz bu exit i inv step μ bP) (retD pv Q pl))).val an.ret d=step f g)
  (fC: ∀f g,Fit K f->inv f g->bf i inv μ f g (step f g)):
  cG P C.G (qO pv Q pl) body (aH K X ks kb xs xb aM fz bu exit i inv step μ bP):=
 BP k (λe n O z X X' r a w A h hr=>hr.mono h) (λφ x st a w r u hs hr=>by
  obtain⟨m,hm⟩:=hs;rcases u with rfl|⟨v,rfl⟩
  ·cases hr
  ·simp only[retD]at hr
   cases hv:isPv v pv with
   |false=>rw[hv]at hr;cases hr
   |true=>
    rw[hv]at hr;cases hb:rdBoxes st false Q pl with
    |none=>rw[hb]at hr;cases hr
    |some y=>
     rw[hb]at hr;cases hr;rw[Ub hv];exact⟨rfl,B3 hm hb⟩) l s t fC
end
section
def cks(i:Nat):Nat->Nat->List Nat
 |0,_=> []|n+1,j=>Nat.add (Nat.mul 1000 (Nat.succ i)) j::cks i n (Nat.succ j)
def posA:List Am->Nat->List Nat
 | [],_=> []| .v::m,i=>posA m (Nat.succ i)| .p::m,i=>i::posA m (Nat.succ i)| .c _ n::m,i=>app (cks i n 0) (posA m (Nat.succ i))
def iT:List Am->Nat->List Nat
 | [],_=> []| .v::m,i=>iT m (Nat.succ i)| .p::m,i=>i::iT m (Nat.succ i)| .c _ _::m,i=>i::iT m (Nat.succ i)
def pb:List Am->Nat->List SV->List SV
 | [],_,_=> []
 | .v::m,i,v::vs=>v::pb m (Nat.succ i) vs
 | .v::_,_,[]=> []
 | .p::m,i,vs=> .one (.box i 0)::pb m (Nat.succ i) vs
 | .c f n::m,i,vs=> .one (.clo f (cks i n 0))::pb m (Nat.succ i) vs
def chkA(st:ASt):List Am->Nat->Bool
 | [],_=>true
 | .v::m,i=>chkA st m (Nat.succ i)
 | .p::m,i=>match st.slot i with
  |some ⟨[],.v (.one (.box k 0))⟩=>andd (Nat.beq k i) (chkA st m (Nat.succ i))
  |_=>false
 | .c _ n::m,i=>match st.slot i with
  |some ⟨[],.v (.one (.clo _ ks))⟩=>andd (Gp ks (cks i n 0)) (chkA st m (Nat.succ i))
  |_=>false
def vQ(vs:List (cT)):Nat->List Cell->List Nat
 |_,[]=> []
 |i,c::r=>match lookV vs i with
  |some _=>vQ vs (Nat.succ i) r
  |none=>match c with| .bq _ f=>f::vQ vs (Nat.succ i) r|_=>vQ vs (Nat.succ i) r
def cellsV(C:Ctx)(fn:Func)(ao:ah)(ro:Bool)(mask:List Am)(sz:List Nat)(st:ASt):Option (List Cell):=match resCells C fn st fn.results.toList with
 |some xs=>match shapes (shapesOf ao) xs,cnd ro (some []) (rdW st (zipN (posA mask 0) sz))with|some rc,some f=>some (app rc f)|_,_=>none
 |none=>none
def evRetV(C:Ctx)(fn:Func)(ao:ah)(ro:Bool)(mask:List Am)(sz:List Nat)(vo:List (hM))(Q:Ty)(x:Ex)(st:ASt):Tr Q.den Q.den:=match x,ao with
 | .exit _,_=> .bad
 | .dL _,_=> .bad
 |_,.tup [_]=> .bad
 |_,_=>match cellsV C fn ao ro mask sz st with
  |none=> .bad
  |some f=>match cellsV C fn ao ro mask sz (dQ (vQ (nmV bn vo) 0 f) st),chkA (dQ (vQ (nmV bn vo) 0 f) st) mask 0 with
   |some c1,true=>match unvX (dQ (vQ (nmV bn vo) 0 f) st) (nmV bn vo) 0 c1,nodup (keysX (nmV bn vo) 0 c1)with
    |some xc,true=>match dec Q xc with|some y=> .ret y|none=> .bad
    |_,_=> .bad
   |_,_=> .bad
def evFnV(C:Ctx)(fn:Func)(p:Ty)(ax:List (Option Nat))(mask:List Am)(sz:List Nat)(ro:Bool)(vi:List (hM))(ao:ah)(vo:List (hM))(Q:Ty)(L:Nat->Option (LS Q.den))(x:p.den):Tr Q.den Q.den:=
 match fn.body,unshape ax ((vxC (nmV bn vi) 0 (enc p x)).take (Nat.sub p.n (cI sz)))with
 |some c,some vs=>cnd (andd (dR (λd=>Nat.ble (Nat.succ d) fn.ntmps) (dsts c)) (andd (dR (λd=>nott (mem d (iT mask 0))) (dsts c)) (andd (Nat.beq (eZ (posA mask 0)) (eZ sz))
   (andd (oM (posA mask 0)) (andd (nodup (vnames (nmV bn vi))) (dR (λk=>nott (mem k (posA mask 0))) (vnames (nmV bn vi))))))))
  (evCode C L c { slot:=λt=>initSlots (pb mask 0 vs) 0 t,box:=λu=>ep (boxesOf (cnd ro .ro .cells) (zipN (posA mask 0) sz) ((vxC (nmV bn vi) 0 (enc p x)).drop (Nat.sub p.n (cI sz))) u) (vxB (nmV bn vi) 0 (enc p x) u)}
   (evRetV C fn ao ro mask sz vo Q)) .bad
 |_,_=> .bad
section
variable {φ:Fr} {ν ν':Nat->Bool} {m:Map} {st:ASt} {a:Act} {w w':World} {own:List (bS)} {W:List Nat} {P:Program} {C:Ctx} {o:Oper} {e:Eff}
 {K:Act->World->Prop}
def nW(m:Map)(a:Act):List Am->Nat->Prop
 | [],_=>True
 | .v::r,i=>nW m a r (i+1)
 | .p::r,i=>(∃b,m i=some (b,0)/\a.tmps.getD i undef= .pointer (some ⟨b,0,none⟩))/\nW m a r (i+1)
 | .c _ n::r,i=>(∃(f:FuncId) (us:List Value),a.tmps.getD i undef= .func (.func f) #[] us.toArray/\aj (λk u=> ∃b,m k=some (b,0)/\u= .pointer (some ⟨b,0,none⟩)) (cks i n 0) us)/\nW m a r (i+1)
theorem Df(hs:aG φ ν m st a w): ∀{mask:List Am} {i:Nat},chkA st mask i=true->nW m a mask i
 | [],_,_=>trivial
 | .v::r,i,h=>Df (mask:=r) hs h
 | .p::r,i,h=>by
  simp only[chkA]at h;split at h;case h_2=>cases h
  rename_i k j;obtain⟨h1,h2⟩:=aF h;obtain⟨b,h3,h4⟩:=hs.slot i _ j (λx l=>by cases l);rw[beq_eq h1]at h3;exact⟨⟨b,h3,h4⟩,Df hs h2⟩
 | .c f n::r,i,h=>by
  simp only[chkA]at h;split at h;case h_2=>cases h
  rename_i g ks j;obtain⟨h1,h2⟩:=aF h;obtain⟨us,h3,h4⟩:=hs.slot i _ j (λx l=>by cases l);rw[J3 h1]at h4;exact⟨⟨g,us,h3,h4⟩,Df hs h2⟩
theorem nW.blocks: ∀{mask:List Am} {i:Nat} {y l:List Value} {bs:List Nat},nW m a mask i->mv mask y l bs->(∀j∈iT mask i,a.tmps.getD j undef=y.getD (j-i) undef)->aj (λk b=>m k=some (b,0)) (posA mask i) bs
 | [],i,[],l,bs,_,h,_=>by obtain⟨_,rfl⟩:=h;exact trivial
 | [],i,_::_,l,bs,_,h,_=>h.elim
 | .v::r,i,[],l,bs,_,h,_=>h.elim
 | .p::r,i,[],l,bs,_,h,_=>h.elim
 | .c _ _::r,i,[],l,bs,_,h,_=>h.elim
 | .v::r,i,x::y,l,bs,z,h,t=>by
  obtain⟨T,_,h2⟩:=h;refine nW.blocks (mask:=r) (i:=i+1) z h2 λj s=> ?_
  have:=t j s;have I:i+1<=j:=posS_ge s;rw[this,show j-i=(j - (i+1))+1 by omega,ay2]
 | .p::r,i,x::y,l,bs,z,h,t=>by
  obtain⟨b,bs',rfl,rfl,h2⟩:=h;obtain⟨⟨U,h3,h4⟩,h5⟩:=z;have h6:=t i (by simp[iT]);rw[h4,aBt,aAt]at h6;cases h6;refine⟨h3,nW.blocks (mask:=r) (i:=i+1) h5 h2 λj s=> ?_⟩;have:=t j (by simp only[iT,avv];exact .inr s);have I:i+1<=j:=posS_ge s;rw[this,show j-i=(j - (i+1))+1 by omega,ay2]
 | .c f n::r,i,x::y,l,bs,z,h,t=>by
  obtain⟨us,cs,bs',rfl,V,J,rfl,h2⟩:=h;obtain⟨⟨g,L,h3,h4⟩,h5⟩:=z;have h6:=t i (by simp[iT]);rw[h3,aBt,aAt]at h6;have h7:L=us:=by
   simp only[Value.func.injEq]at h6;have:=h6.2.2;simpa using this
  subst h7;have key: ∀(ks cs:List Nat) (us:List Value),aj (λk u=> ∃b,m k=some (b,0)/\u=Value.pointer (some ⟨b,0,none⟩)) ks us->aj (λb u=>u=Value.pointer (some ⟨b,0,none⟩)) cs us->aj (λk b=>m k=some (b,0)) ks cs:=by
   intro ks;induction ks with
   |nil=>intro cs us h1 h2;cases us with|cons=>exact h1.elim|nil=>cases cs with|nil=>trivial|cons=>exact h2.elim
   |cons k ks M=>
    intro cs us h1 h2;cases us with
    |nil=>exact h1.elim
    |cons u us=>
     cases cs with
     |nil=>exact h2.elim
     |cons c cs=>
      obtain⟨⟨b,N,O⟩,Q⟩:=h1;obtain⟨A,S⟩:=h2;rw[O]at A;simp only[Value.pointer.injEq,aup,Addr.mk.injEq]at A;exact⟨A.1▸N,M cs us Q S⟩
  simp only[posA,bI];refine aj.append (key _ _ _ h4 J) (nW.blocks (mask:=r) (i:=i+1) h5 h2 λj s=> ?_);have:=t j (by simp only[iT,avv];exact .inr s);have I:i+1<=j:=posS_ge s;rw[this,show j-i=(j - (i+1))+1 by omega,ay2]
where
 posS_ge: ∀{mask:List Am} {i k:Nat},k∈iT mask i->i<=k
 | .v::r,i,k,h=>by have:=posS_ge (mask:=r) (i:=i+1) h;omega
 | .p::r,i,k,h=>by
  simp only[iT,avv]at h;rcases h with rfl|h
  ·omega
  ·have:=posS_ge h;omega
 | .c _ _::r,i,k,h=>by
  simp only[iT,avv]at h;rcases h with rfl|h
  ·omega
  ·have:=posS_ge h;omega
theorem H9{a b:Nat}: ∀{vs:List (hM)} {i:Nat},(lookV (nmV a vs) i).map (·.2)=(lookV (nmV b vs) i).map (·.2)
 | [],_=>rfl
 |(p,o,T)::r,i=>by
  simp only[nmV,lookV];by_cases h:i=p
  ·grind [bV]
  ·rw[bL h,bL h];exact H9
theorem Sk{a b:Nat}{vs:List (hM)}: ∀{cs:List Cell} {i:Nat},unvX st (nmV a vs) i cs=unvX st (nmV b vs) i cs
 | [],_=>rfl
 |c::r,i=>by
  simp only[unvX];rw[Sk];have h:=H9 (a:=a) (b:=b) (vs:=vs) (i:=i);cases h1:lookV (nmV a vs) i with
  |none=>
   cases h2:lookV (nmV b vs) i with
   |none=>rfl
   |some y=>simp_all
  |some x=>
   grind
theorem QT{a b:Nat}{vs:List (hM)}: ∀{cs:List Cell} {i:Nat},keysX (nmV a vs) i cs=keysX (nmV b vs) i cs
 | [],_=>rfl
 |c::r,i=>by
  simp only[keysX];rw[QT];have h:=H9 (a:=a) (b:=b) (vs:=vs) (i:=i);cases h1:lookV (nmV a vs) i with
  |none=>
   cases h2:lookV (nmV b vs) i with
   |none=>rfl
   |some y=>simp_all
  |some x=>
   grind
theorem RowsIn.mono{X X':Nat->Nat->Prop}{bs:List Nat}{vs:List (cT)}{cs:List Cell}{us:List Value}{f:Map}(h:RowsIn X w bs vs cs us f)(hX:di w X X'):RowsIn X' w bs vs cs us f where
 bK:=h.bK
 box:=λk bx g=>(h.box k bx g).eA dM hX (dz.refl _) λb p h1 _=>⟨h1,rfl⟩
 cells:=h.cells.mono (CR.mono dM hX (λ_ _ _ h=>h))
 inj:=h.inj
 live:=h.live
def kQ(P:Program)(fn:Func)(ao:ah)(ro:Bool)(mask:List Am)(sz:List Nat)(vo:List (hM))(Q:Ty)(e:Exit)(n0:Nat)(O:Nat->Prop)(X:Nat->Nat->Prop)(y:Q.den)(a:Act)(w:World):Prop:=
 e= .ret/\ ∃(v:Value) (f:List Value) (m:Map),(results fn a.tmps).run P w= .ok v w/\zq ao f v/\nW m a mask 0/\
  ∀g,nodup (vnames (nmV g vo))=true-> ∃(pc:List Value) (vm:Map),(if ro then pc= []else cZ m w (zipN (posA mask 0) sz) pc)/\
   (∀bs,aj (λk b=>m k=some (b,0)) (posA mask 0) bs->RowsIn (λb q=>(X b q\/b∈bs)\/bD vm b) w bs (nmV g vo) (enc Q y) (f++pc) vm)/\(∀b,bD vm b->O b)
theorem kQ.mono{fn:Func}{ao:ah}{ro:Bool}{mask:List Am}{sz:List Nat}{vo:List (hM)}{Q:Ty}{e:Exit}{n0:Nat}{O f:Nat->Prop}{X X':Nat->Nat->Prop}{y:Q.den}(g: ∀b,O b->f b)(hX: ∀b p,X' b p->X b p)
  (h:kQ P fn ao ro mask sz vo Q e n0 O X y a w):kQ P fn ao ro mask sz vo Q e n0 f X' y a w:=by
 obtain⟨h1,v,i,m,h2,h3,h4,h5⟩:=h;refine⟨h1,v,i,m,h2,h3,h4,λj k=> ?_⟩;obtain⟨pc,vm,h6,h7,l⟩:=h5 j k;exact⟨pc,vm,h6,λbs hb=>(h7 bs hb).mono (λb q _ s=>s.imp (λh=>h.imp (hX b q) id) id),λb hb=>g b (l b hb)⟩
theorem ai0{fn:Func}{ao:ah}{vs g:List Value}(k: ∀s,ao≠ .tup [s])(h1:(fn.results.toList.mapM λx=>(match x with| .tmp t=>pure (a.tmps.getD t undef)| .cell b t=>do loadVar t (<- asAddr (a.tmps.getD b undef)):Sem Value)).run P w= .ok vs w)
  (h3:ec (shapesOf ao) vs g): ∃v,(results fn a.tmps).run P w= .ok v w/\zq ao g v:=by
 have l:(results fn a.tmps).run P w= .ok (if h:vs.toArray.size=1 then vs.toArray[0]else .tuple vs.toArray) w:=by
  unfold results;rw[auy,ax4];have:(List.toArray<$>fn.results.toList.mapM λx=>(match x with| .tmp t=>pure (a.tmps.getD t undef)| .cell b t=>do loadVar t (<- asAddr (a.tmps.getD b undef)):Sem Value)).run P w= .ok vs.toArray w:=by
   simp_all
  exact Eq.trans (av2 (λq=>Result.andThen q _) this) rfl
 refine⟨_,l,?_⟩;cases ao with
 |none=>
  simp only[shapesOf]at h3;match vs,h3 with| [],_=>rfl
 |one i=>
  simp only[shapesOf]at h3;match vs,h3 with
  | [v],h3=>exact h3
  | [],h3=>cases i<;>cases h3
  |v::v2::u,h3=>
   cases i with
   |none=>obtain⟨_,_,h6⟩:=h3;cases h6
   |some n=>obtain⟨_,_,_,_,_,h6⟩:=h3;cases h6
 |tup f=>
  simp only[shapesOf]at h3;have y: ∀(f:List (Option Nat)) (vs cv:List Value),ec f vs cv->vs.length=f.length:=by
   intro f;induction f with
   |nil=>intro vs cv h;cases vs with|nil=>rfl|cons v vs=>cases h
   |cons s f j=>
    intro vs cv h;cases vs with
    |nil=>cases s<;>cases h
    |cons v vs=>
     cases s with
     |none=>obtain⟨cs',_,h6⟩:=h;simp[j _ _ h6]
     |some n=>obtain⟨z,cs',_,_,_,h6⟩:=h;simp[j _ _ h6]
  have A:f.length≠1:=by
   intro h6;match f,h6 with| [s],_=>exact k s rfl
  refine⟨vs,?_,h3⟩;grind
theorem Pp(A:dr P C){m0:Map}{t:ASt}(I:aG φ ν m0 t a w){fn:Func}{ao:ah}{ro:Bool}{mask:List Am}{sz:List Nat}{vo:List (hM)}{Q:Ty}{x:Ex}{Post:Q.den->Prop}
  (b3:(posA mask 0).length=sz.length) (h:(evRetV C fn ao ro mask sz vo Q x t).dp (λy=>y) Post):
  (∀id,x≠ .exit id)/\(∀v,x≠ .dL v)/\ ∃y,Post y/\kQ P fn ao ro mask sz vo Q .ret φ.n0 φ.mU φ.X0 y a w:=by
 unfold evRetV at h;split at h
 ·exact h.elim
 ·exact h.elim
 ·exact h.elim
 ·rename_i J L M
  refine⟨λid f=>J id f,λv f=>L v f,?_⟩;split at h;case h_1=>exact h.elim
  obtain⟨m,hs⟩:=Sat.dQ ⟨m0,I⟩;split at h;case h_2=>exact h.elim
  rename_i c1 g N;split at h;case h_2=>exact h.elim
  rename_i xc l u;split at h;case h_2=>exact h.elim
  rename_i y O;unfold cellsV at g;split at g;case h_2=>cases g
  rename_i xs S;split at g;case h_2=>cases g
  rename_i rc T U i;cases g;obtain⟨vs,h1,h2⟩:=run_mapM_results A hs S;obtain⟨V,h3,h4⟩:=pO U h2;obtain⟨v,Y,Z⟩:=ai0 M h1 h3;obtain⟨pc,a1,a2,b4⟩: ∃pc,(if ro then pc= []else cZ m w (zipN (posA mask 0) sz) pc)/\aE m (XA φ m) w T pc/\True:=by
   cases hr:ro with
   |true=>
    rw[hr]at i;simp only[cnd,aup]at i;subst i;exact⟨[],rfl,trivial,trivial⟩
   |false=>
    rw[hr]at i;obtain⟨pc,g1,g2,_⟩:=nz hs i;exact⟨pc,g1,g2,trivial⟩
  refine⟨y,h,rfl,v,V,m,Y,Z,Df hs N,λo0 ho=> ?_⟩;rw[Sk,bI]at l;rw[QT,bI]at u;obtain⟨a6,a7⟩:=yU O;obtain⟨⟨vm,s⟩,_⟩:=TS hs ho l a7 u (aj.append h4 a2);refine⟨pc,vm,a1,λbs z=>(s.VH hs a6 z).mono λb q _ f=> ?_,λb ⟨k,p,h5,h6⟩=> ?_⟩
  ·rcases f with(f|f)|⟨k,p,h5,h6⟩
   ·exact .inl f
   ·obtain⟨k,_,hk⟩:=z.lk b f;exact .inr ⟨k,0,hk,rfl⟩
   ·obtain⟨j,_,h7,_⟩:=s.live k b p h5 h6;exact .inr ⟨j,p,h7,h6⟩
  ·obtain⟨j,h7,h8,_⟩:=s.live k b p h5 h6
   obtain⟨_,_,_,_,h9⟩:=Po l j h7;exact hs.own j _ b p h9 rfl h8 h6
theorem afr(j:dr P C){fn:Func}{ao:ah}{ro:Bool}{mask:List Am}{sz:List Nat}{vo:List (hM)}{Q:Ty}(l:(posA mask 0).length=sz.length){L:Nat->Option (LS Q.den)}{body:Code}{K X:Ty}{ks:List (Nat×Option Nat)}{kb:List (aR)}{xs:List (Nat×Option Nat)}{xb:List (aR)}{aM:List (cT)}{fz:List Nat}{bu:List (aR)}{bP:List (Nat×Nat×List Nat)}{exit:Nat}{i:Bool}
  {inv:K.den->X.den->Prop} {step:K.den->X.den->an K.den X.den Q.den} {μ:K.den->X.den->Nat} {d:an K.den X.den Q.den}
  (s: ∀b∈loopsIn body,∀k,L (cP b)=some k->cG P C.G (kQ P fn ao ro mask sz vo Q) b k)
  (t: ∀f g,Fit K f->Fit X g->inv f g->eP (evCode C L body (cW (aH K X ks kb xs xb aM fz bu exit i inv step μ bP) (enc K f) (enc X g)) (evRound (aH K X ks kb xs xb aM fz bu exit i inv step μ bP) (evRetV C fn ao ro mask sz vo Q))))
  (u: ∀f g,(evCode C L body (cW (aH K X ks kb xs xb aM fz bu exit i inv step μ bP) (enc K f) (enc X g)) (evRound (aH K X ks kb xs xb aM fz bu exit i inv step μ bP) (evRetV C fn ao ro mask sz vo Q))).val an.ret d=step f g)
  (fC: ∀f g,Fit K f->inv f g->bf i inv μ f g (step f g)):
  cG P C.G (kQ P fn ao ro mask sz vo Q) body (aH K X ks kb xs xb aM fz bu exit i inv step μ bP):=
 BP j (λe n O J X X' r a w z h hr=>hr.mono z h) (λφ x st a w r A hs hr=>by
  obtain⟨m,hm⟩:=hs;obtain⟨_,M,y,I,h⟩:=Pp j hm l (by rw[hr];exact rfl);subst I;rcases A with rfl|⟨v,rfl⟩
  ·exact h
  simp_all) s t u fC
theorem CM{vs:List (cT)}: ∀{cs:List Cell} {i:Nat},(vxC vs i cs).length=cs.length
 | [],_=>rfl
 |c::r,i=>by simp only[vxC,avi,CM]
theorem V1{vs:List (cT)}(f:nodup (vnames vs)=true): ∀{cs:List Cell} {i j:Nat} {k T:Nat} {o:Bool} {e:Ty} {tl:abG} {l:List e.den},lookV vs (i+j)=some (k,o,T)->cs[j]? =some (.bh e tl l)->vxB vs i cs k=some (.vec o T e l)
 | [],i,j,k,T,o,e,tl,l,_,h=>by simp_all
 |c::cs,i,0,k,T,o,e,tl,l,h1,h2=>by
  grind [vxB,bV]
 |c::cs,i,j+1,k,T,o,e,tl,l,h1,h2=>by
  have h3:lookV vs (i+1+j)=some (k,o,T):=by grind
  have g:=V1 f h3 h2;simp only[vxB];grind [Ho,bL]
theorem ahx{X:Nat->Nat->Prop}{vs:List (cT)}{z:Map}(L:nodup (vnames vs)=true){s:List Cell}(hb: ∀k bx,vxB vs 0 s k=some bx->iv z X w k bx):
  ∀(t:Ty) (x:t.den) (us:List Value) (i:Nat),(∀j,j<t.n->s[i+j]? =(enc t x)[j]?)->aE z X w (vxC vs i (enc t x)) us->Fit t x:=by
 intro t;induction t with
 |pair a b M N=>
  intro x us i hw f;have A:=lu a x.1;have O: ∀(c1 c2:List Cell) (i:Nat),vxC vs i (c1++c2)=vxC vs i c1++vxC vs (i+c1.length) c2:=by
   intro c1;induction c1 with
   |nil=>intro c2 i;rfl
   |cons c r I=>intro c2 i;simp only[awz,vxC,I,avi];rw[show Nat.succ i+r.length=i+(r.length+1)by omega]
  simp only[enc,bI]at f hw;rw[O]at f;obtain⟨Q,S,_,h1,h2⟩:=aj.split f;rw[A]at h2;refine⟨M x.1 Q i (λj g=> ?_) h1,N x.2 S (i+a.n) (λj g=> ?_) h2⟩
  ·rw[hw j (by simp only[Ty.n];exact au5 g (aBj _ _)),aw9 (by omega)]
  ·have:=hw (a.n+j) (by simp only[Ty.n];exact Nat.add_lt_add_left g _)
   rw[show i+a.n+j=i+(a.n+j)by omega,this,ayq (by omega),A];congr 1;omega
 |sl e I=>
  intro l us i hw f;cases us with
  |nil=>exact f.elim
  |cons u us=>
   have h0:=hw 0 (by simp[Ty.n]);simp only[enc,ay1,awr]at h0;simp only[enc,vxC]at f;cases hl:lookV vs i with
   |none=>rw[hl]at f;exact lz (t:= .sl e) (x:=l) (vs:= [u]) ⟨u,rfl,f.1.1⟩
   |some y=>
    obtain⟨k,o,T⟩:=y;rw[hl]at f;have U:=hb k _ (V1 L (cs:=s) (i:=0) (j:=i) (by rw[avs];exact hl) h0);obtain⟨b,p,hm,hp,V⟩:=f.1;obtain⟨b2,p2,J,Y⟩:=U;rw[hm]at J;cases J;rcases Y with⟨rfl,_⟩|⟨_,Z,cap,_,_,h3,h4,h5⟩|⟨_,h3,hr,_⟩
    ·exact⟨awc _,λx h=>by cases h⟩
    ·refine⟨auq h3 h4,λx h=> ?_⟩
     obtain⟨j,g,rfl⟩:=av0 h;exact lz (h5 j g)
    ·refine⟨?_,λx h=> ?_⟩
     ·rcases V with⟨h6,_⟩|⟨_,cap,T',_,_,h8,h9⟩
      ·omega
      ·rw[h3,gq]at h8;omega
     ·obtain⟨j,g,rfl⟩:=av0 h
      obtain⟨Z,_,_,h6⟩:=hr.1 j g;exact lz h6
 |_=>intro x us i _ _;exact trivial
theorem CS{X:Nat->Nat->Prop}: ∀{mask:List Am} {i:Nat} {vs:List SV} {y g:List Value} {bs:List Nat},mv mask y g bs->aj (SR m X w) vs g->aj (λk b=>m k=some (b,0)) (posA mask i) bs->aj (SR m X w) (pb mask i vs) y
 | [],i,vs,[],g,bs,h,_,_=>trivial
 | [],i,vs,_::_,g,bs,h,_,_=>h.elim
 | .v::r,i,vs,[],g,bs,h,_,_=>h.elim
 | .p::r,i,vs,[],g,bs,h,_,_=>h.elim
 | .c _ _::r,i,vs,[],g,bs,h,_,_=>h.elim
 | .v::r,i,vs,x::y,g,bs,h,l,t=>by
  obtain⟨L,rfl,h2⟩:=h;cases vs with
  |nil=>exact l.elim
  |cons s vs=>exact⟨l.1,CS h2 l.2 t⟩
 | .p::r,i,vs,x::y,g,bs,h,l,t=>by
  obtain⟨b,bs',rfl,rfl,h2⟩:=h;exact⟨⟨b,t.1,rfl⟩,CS h2 l t.2⟩
 | .c f n::r,i,vs,x::y,g,bs,h,l,t=>by
  obtain⟨us,cs,bs',rfl,A,M,rfl,h2⟩:=h;simp only[posA,bI]at t;have I:(cks i n 0).length=cs.length:=by
   rw[A];have key: ∀(n j:Nat),(cks i n j).length=n:=by
    intro n;induction n with
    |zero=>intro j;rfl
    |succ n z=>simp_all [cks]
   simp_all
  obtain⟨b1,N,J,h3,h4⟩:=aj.split t;have h5:=h3.length;rw[I]at h5;obtain⟨rfl,rfl⟩:=axl J h5;refine⟨⟨us,rfl,?_⟩,CS h2 l h4⟩;have key: ∀(ks cs:List Nat) (us:List Value),aj (λk b=>m k=some (b,0)) ks cs->aj (λb u=>u=Value.pointer (some ⟨b,0,none⟩)) cs us->aj (λk u=> ∃b,m k=some (b,0)/\u=Value.pointer (some ⟨b,0,none⟩)) ks us:=by
   intro ks;induction ks with
   |nil=>intro cs us h1 h2;cases cs with|cons=>exact h1.elim|nil=>cases us with|nil=>trivial|cons=>exact h2.elim
   |cons k ks z=>
    intro cs us h1 h2;cases cs with
    |nil=>exact h1.elim
    |cons c cs=>
     cases us with
     |nil=>exact h2.elim
     |cons u us=>exact⟨⟨c,h1.1,h2.1⟩,z cs us h1.2 h2.2⟩
  grind
theorem anj{l0:List SV}{l1:List Value}(f:aj (SR m (XA φ m) w) l0 l1){n:Nat}{a0:Act}{args:Array Value}(hl:args.toList=l1)(h:a0.tmps=args++Array.replicate n undef){t:Nat}{g:GS}(i:initSlots l0 0 t=some g):g.tags= []/\VR m (XA φ m) w g.tv (a0.tmps.getD t undef):=by
 subst hl;obtain⟨h1,u,h2,_,h4⟩:=A9 f i;have:a0.tmps.getD t undef=u:=by
  rw[azw,avy]at h2;rw[h];have j:=(Array.getElem?_eq_some_iff.1 h2).1;rw[avl,ax0 j,h2];rfl
 simp_all
theorem BM: ∀{mask:List Am} {f g:List Value} {bs:List Nat},mv mask f g bs->f.length=mask.length
 | [],[],_,_,_=>rfl
 | [],_::_,_,_,h=>h.elim
 | .v::r,[],_,_,h=>h.elim
 | .p::r,[],_,_,h=>h.elim
 | .c _ _::r,[],_,_,h=>h.elim
 | .v::r,_::f,_,_,h=>by obtain⟨_,_,h⟩:=h;simp[BM h]
 | .p::r,_::f,_,_,h=>by obtain⟨_,_,_,_,h⟩:=h;simp[BM h]
 | .c _ _::r,_::f,_,_,h=>by obtain⟨_,_,_,_,_,_,_,h⟩:=h;simp[BM h]
theorem C4: ∀{mask:List Am} {i k:Nat},k∈iT mask i->k<i+mask.length
 | .v::r,i,k,h=>by have:=C4 (mask:=r) h;grind
 | .p::r,i,k,h=>by
  simp only[iT,avv]at h;rcases h with rfl|h
  ·simp
  ·have:=C4 h;grind
 | .c _ _::r,i,k,h=>by
  simp only[iT,avv]at h;rcases h with rfl|h
  ·simp
  ·have:=C4 h;grind
theorem amK(hC:dr P C){f:FuncId}{fn:Func}(hf:P.funcs[f]? =some fn){cv:Cv}{L:Nat->Option (LS (Ty.pair cv.r cv.q).den)}{c:Code}(hb:fn.body=some c){dflt:(Ty.pair cv.r cv.q).den}
  (hL: ∀body∈loopsIn c,∀s,L (cP body)=some s->cG P C.G (kQ P fn cv.ao cv.ro cv.mask cv.sz cv.vo (.pair cv.r cv.q)) body s)
  (f2: ∀x,Fit cv.p x->(∀q,cv.pre=some q->q x)->(evFnV C fn cv.p cv.ax cv.mask cv.sz cv.ro cv.vi cv.ao cv.vo (.pair cv.r cv.q) L x).safe)
  (f3: ∀x,(evFnV C fn cv.p cv.ax cv.mask cv.sz cv.ro cv.vi cv.ao cv.vo (.pair cv.r cv.q) L x).val (λy=>y) dflt=cv.F x) (f4:nodup (vnames (nmV bn cv.vi))=true):gG P C.G f cv:=by
 intro x w X args va cs pc bs z hH hX f5 f6 c9 f7 hA f8 d0 l;have f9:Fit cv.p x:=ahx f4 l.box cv.p x (cs++pc) 0 (λj _=>by rw[avs]) l.cells;have A:=ku (rt:=λy=>y) (d:=dflt) (f2 x f9 f5);rw[f3]at A;unfold evFnV at A;rw[hb]at A;split at A;case h_2=>exact A.elim
 rename_i c' vs g0 g1;cases g0;obtain⟨I,A⟩:andd (dR (λd=>Nat.ble (Nat.succ d) fn.ntmps) (dsts c)) (andd (dR (λd=>nott (mem d (iT cv.mask 0))) (dsts c)) (andd (Nat.beq (eZ (posA cv.mask 0)) (eZ cv.sz))
    (andd (oM (posA cv.mask 0)) (andd (nodup (vnames (nmV bn cv.vi))) (dR (λk=>nott (mem k (posA cv.mask 0))) (vnames (nmV bn cv.vi)))))))=true/\
   (evCode C L c { slot:=λt=>initSlots (pb cv.mask 0 vs) 0 t,box:=λu=>ep (boxesOf (cnd cv.ro .ro .cells) (zipN (posA cv.mask 0) cv.sz) ((vxC (nmV bn cv.vi) 0 (enc cv.p x)).drop (Nat.sub cv.p.n (cI cv.sz))) u) (vxB (nmV bn cv.vi) 0 (enc cv.p x) u)}
    (evRetV C fn cv.ao cv.ro cv.mask cv.sz cv.vo (.pair cv.r cv.q))).dp (λy=>y) (λr=>r=cv.F x):=by
  cases hq:andd (dR (λd=>Nat.ble (Nat.succ d) fn.ntmps) (dsts c)) (andd (dR (λd=>nott (mem d (iT cv.mask 0))) (dsts c)) (andd (Nat.beq (eZ (posA cv.mask 0)) (eZ cv.sz))
    (andd (oM (posA cv.mask 0)) (andd (nodup (vnames (nmV bn cv.vi))) (dR (λk=>nott (mem k (posA cv.mask 0))) (vnames (nmV bn cv.vi)))))))with
  |false=>rw[hq]at A;exact A.elim
  |true=>rw[hq]at A;exact⟨rfl,A⟩
 obtain⟨g2,I⟩:=aF I;obtain⟨g3,I⟩:=aF I;obtain⟨M,I⟩:=aF I;obtain⟨g4,I⟩:=aF I;obtain⟨k7,g5⟩:=aF I;have M:=beq_eq M;rw[lv,lv]at M;have g6:=xx g4;obtain⟨g7,g8⟩:=IK d0;let ks:=posA cv.mask 0
 let N:=vnames (nmV bn cv.vi)
 have d5: ∀k∈N,k∉ks:=λk i S=>by
  have:=fX (jQ g5 k i);rw[cN.2 S]at this;cases this
 have d6: ∀k b p,z k=some (b,p)->k∈N:=λk b p hm=>by
  cases hq:vxB (nmV bn cv.vi) 0 (enc cv.p x) k with
  |none=>rw[l.bK k hq]at hm;cases hm
  |some bx=>exact(jR hq).1
 let m:Map:=λk=>if k∈ks then lookK ks bs k else z k
 have a3: ∀k∈ks,m k=lookK ks bs k:=λk i=>by show(if k∈ks then _ else _)=_;rw[ava i]
 have a1: ∀k,k∉ks->m k=z k:=λk i=>by show(if k∈ks then _ else _)=_;rw[au6 i]
 have b2: ∀k∈N,m k=z k:=λk i=>a1 k (d5 k i)
 let a0:Act:={ tmps:=args++Array.replicate (fn.ntmps-args.size) undef,defers:= []}
 let φ:Fr:={ n:=a0.tmps.size,w0:=w,a0:=a0,B:=λb=>(cv.ro=false/\b∈bs)\/bD z b,D:=λt=>mem t (dsts c),X0:=λb q=>X b q/\b∉bs/\ ¬ bD z b,n0:=0,base:=w,gl:=C.G.gl}
 have b3:aj (λk b=>m k=some (b,0)) ks bs:=by
  have h1:aj (λk b=>lookK ks bs k=some (b,0)) ks bs:=Hs g6 (by rw[M,g7]);have key: ∀(l1 l2:List Nat),(∀k∈l1,k∈ks)->aj (λk b=>lookK ks bs k=some (b,0)) l1 l2->aj (λk b=>m k=some (b,0)) l1 l2:=by
   intro l1;induction l1 with
   |nil=>intro l2 _ h;cases l2 with|nil=>trivial|cons=>exact h.elim
   |cons k l1 ih=>
    intro l2 i h;cases l2 with
    |nil=>exact h.elim
    |cons b l2=>exact⟨(a3 k (i k (by simp))).trans h.1,ih l2 (λj U=>i j (by simp[U])) h.2⟩
  exact key _ _ (λ_ h=>h) h1
 have a2: ∀k b p,m k=some (b,p)->(k∈ks/\b∈bs/\p=0)\/(k∉ks/\z k=some (b,p)):=λk b p h=>by
  by_cases i:k∈ks
  ·rw[a3 k i]at h;obtain⟨h1,h2,_⟩:=mY h;exact .inl ⟨i,h2,h1⟩
  ·rw[a1 k i]at h;exact .inr ⟨i,h⟩
 have d7: ∀k b p,m k=some (b,p)->p % 2=0-> ∀q,X b q:=λk b p h1 h2 q=>by
  rcases a2 k b p h1 with⟨_,h3,_⟩|⟨_,h3⟩
  ·exact c9 b h3 q
  ·exact f7 b ⟨k,p,h3,h2⟩ q
 have d9:XA φ m=X:=by
  funext b q
  refine propext ⟨λh=> ?_,λh=> ?_⟩
  ·rcases h with h|⟨k,p,h1,h2⟩
   ·exact h.1
   ·exact d7 k b p h1 h2 q
  ·by_cases S:b∈bs
   ·obtain⟨k,_,i⟩:=b3.lk b S;exact .inr ⟨k,0,i,rfl⟩
   ·by_cases hl:bD z b
    ·obtain⟨k,p,h1,h2⟩:=hl;exact .inr ⟨k,p,by rw[b2 k (d6 k b p h1)];exact h1,h2⟩
    ·exact .inl ⟨h,S,hl⟩
 have i3:=l.cells.length;rw[CM,lu,au1,g8]at i3;have a4:cs.length=Nat.sub cv.p.n (cI cv.sz):=by show cs.length=cv.p.n-cI cv.sz;omega
 have e0:aE m X w (vxC (nmV bn cv.vi) 0 (enc cv.p x)) (cs++pc):=
  aj.imp (p:=λc=>c.free N=true) (λa b hp hr=>CR.free b2 hp hr) (B8 (λk i=>i) (Ia N _ _)) l.cells
 have i4:aE m X w ((vxC (nmV bn cv.vi) 0 (enc cv.p x)).take (Nat.sub cv.p.n (cI cv.sz))) cs:=by
  have:=aj.take (Nat.sub cv.p.n (cI cv.sz)) e0;rwa [<- a4,List.take_left,a4]at this
 have i5:aE m X w ((vxC (nmV bn cv.vi) 0 (enc cv.p x)).drop (Nat.sub cv.p.n (cI cv.sz))) (pc++ []):=by
  have:=aj.drop (Nat.sub cv.p.n (cI cv.sz)) e0;rw[<- a4,azn,a4]at this;rwa [aws]
 have i6:aj (SR m (XA φ m) w) (pb cv.mask 0 vs) args.toList:=by
  rw[d9];exact CS hA (rE g1 f8 i4) b3
 have b4: ∀t g,initSlots (pb cv.mask 0 vs) 0 t=some g->g.tags= []/\VR m (XA φ m) w g.tv (a0.tmps.getD t undef):=λt g V=>anj i6 rfl rfl V
 have i7:=Dj b3 d0;have e1:firsts (zipN ks cv.sz)=ks:=ky M;have k8: ∀b,bD z b->b∉bs/\b<w.heap.size:=λb ⟨k,p,h1,h2⟩=>(l.live k b p h1 h2).2
 have i9: ∀b∈bs,b<w.heap.size:=λb hb=>(hX b 0 (c9 b hb 0)).1
 have e2: ∀k bx,ep (boxesOf (cnd cv.ro .ro .cells) (zipN ks cv.sz) ((vxC (nmV bn cv.vi) 0 (enc cv.p x)).drop (Nat.sub cv.p.n (cI cv.sz))) k) (vxB (nmV bn cv.vi) 0 (enc cv.p x) k)=some bx->
   (k∈ks/\ ∃cs',bx=(cnd cv.ro Bx.ro Bx.cells) cs'/\ ∃b us T,m k=some (b,0)/\w.heap[b]? =some (.cells us T (0,0))/\aE m X w cs' us.toList)\/(k∉ks/\vxB (nmV bn cv.vi) 0 (enc cv.p x) k=some bx):=λk bx h=>by
  rcases iJ h with h|⟨_,h⟩
  ·obtain⟨h1,cs',rfl,h2⟩:=Bk i7 i5 h
   rw[e1]at h1;exact .inl ⟨h1,cs',rfl,h2⟩
  ·exact .inr ⟨d5 k (jR h).1,h⟩
 have j0:aG φ ν0 m { slot:=λt=>initSlots (pb cv.mask 0 vs) 0 t,box:=λu=>ep (boxesOf (cnd cv.ro .ro .cells) (zipN ks cv.sz) ((vxC (nmV bn cv.vi) 0 (enc cv.p x)).drop (Nat.sub cv.p.n (cI cv.sz))) u) (vxB (nmV bn cv.vi) 0 (enc cv.p x) u)} a0 w:={
  tmps:=rfl
  defers:=rfl
  slot:=λt g V _=>(b4 t g V).2
  skip:=λt g V ht=>absurd (by rw[(b4 t g V).1];intro x Y;cases Y) ht
  box:=λk bx i=>by
   rw[d9];rcases e2 k bx i with⟨_,cs',rfl,b,us,T,h1,h2,h3⟩|⟨j1,h1⟩
   ·cases cv.ro with
    |true=>exact⟨b,us,T,h1,h2,h3⟩
    |false=>exact⟨b,us,T,h1,h2,h3⟩
   ·refine(l.box k bx h1).eA dM fJ (dz.of λj b p U=>by rw[b2 j (d6 j b p U)];exact U) λb p h2 _=>⟨by rw[a1 k j1];exact h2,rfl⟩
  inj:=λk k' b p p' h h' Z e4=>by
   rcases a2 k b p h with⟨h1,h2,h3⟩|⟨h1,h2⟩<;>rcases a2 k' b p' h' with⟨h4,h5,h6⟩|⟨h4,h5⟩
   ·rw[a3 k h1]at h;rw[a3 k' h4]at h';exact HH f6 h h'
   ·exact absurd h2 (l.live k' b p' h5 e4).2.1
   ·exact absurd h5 (l.live k b p h2 Z).2.1
   ·exact l.inj _ _ _ _ _ h2 h5 Z e4
  low:=λk b p h Z=>by
   rcases a2 k b p h with⟨_,h2,_⟩|⟨_,h2⟩
   ·exact i9 b h2
   ·exact(l.live k b p h2 Z).2.2
  bK:=λk i=>by
   have h1:boxesOf (cnd cv.ro .ro .cells) (zipN ks cv.sz) ((vxC (nmV bn cv.vi) 0 (enc cv.p x)).drop (Nat.sub cv.p.n (cI cv.sz))) k=none/\vxB (nmV bn cv.vi) 0 (enc cv.p x) k=none:=by
    have i:ep (boxesOf (cnd cv.ro .ro .cells) (zipN ks cv.sz) ((vxC (nmV bn cv.vi) 0 (enc cv.p x)).drop (Nat.sub cv.p.n (cI cv.sz))) k) (vxB (nmV bn cv.vi) 0 (enc cv.p x) k)=none:=i;cases hq:boxesOf (cnd cv.ro .ro .cells) (zipN ks cv.sz) ((vxC (nmV bn cv.vi) 0 (enc cv.p x)).drop (Nat.sub cv.p.n (cI cv.sz))) k with
    |none=>rw[hq]at i;exact⟨rfl,i⟩
    |some y=>rw[hq]at i;cases i
   have h2:=xr h1.1;rw[e1]at h2;rw[a1 k h2];exact l.bK k h1.2
  own:=λk bx b p h1 h2 h3 h4=>by
   rcases e2 k bx h1 with⟨h5,cs',rfl,_⟩|⟨h5,_⟩
   ·cases hro:cv.ro with
    |true=>rw[hro]at h2;cases h2
    |false=>
     rcases a2 k b p h3 with⟨_,h6,_⟩|⟨h6,_⟩
     ·exact .inl (.inl ⟨hro,h6⟩)
     ·exact absurd h5 h6
   ·rw[a1 k h5]at h3;exact .inl (.inr ⟨k,p,h3,h4⟩)
  vn:=λk b p h _ hp=>awc _
  dK:=λk b p h Z=>(hX b 0 (d7 k b p h Z 0)).2
  n0:=awc _
  fN:=GK.refl λb hb=>C.G.low hH hb
  aN:=⟨rfl,rfl,rfl,au2 _⟩
  dA:=λ_ _ _=>rfl
  dW:=λ_ _=>⟨rfl,λ_=>rfl⟩
  x0:=λb p h=>⟨(hX b p h.1).1,λhf=>hf.elim (λhf=>h.2.1 hf.2) h.2.2,(hX b p h.1).2⟩
  gA:=λt ht=>rfl}
 have j2: ∀d∈dsts c,d<φ.n/\φ.D d=true:=λd hd=>by
  refine⟨?_,cN.2 hd⟩;have:=au7 (jQ g2 d hd);show d<(args++Array.replicate (fn.ntmps-args.size) undef).size;simp;omega
 have e5: ∀J w',kK φ w'->kL φ J->kQ P fn cv.ao cv.ro cv.mask cv.sz cv.vo (.pair cv.r cv.q) .ret φ.n0 φ.mU φ.X0 (cv.F x) J w'->bodyPost P fn (λe w'=> ∃v rv,e= .returned v/\zh cv.ao rv v/\eB (λb=>(cv.ro=false/\b∈bs)\/bD z b) w w'/\
   ∀o0,nodup (vnames (nmV o0 cv.vo))=true-> ∃b6 j3,pf cv x X bs z o0 w w' rv b6 j3) .ret J w':=by
  intro J w' h8 e6 ⟨_,v,rv,m',j4,e8,j5,j6⟩;have e9:aj (λk b=>m' k=some (b,0)) ks bs:=j5.blocks hA λj U=>by
   have hD:φ.D j=false:=by
    cases hq:mem j (dsts c)with
    |false=>exact hq
    |true=>
     have:=fX (jQ g3 j (cN.1 hq));rw[cN.2 U]at this;cases this
   rw[e6.2 j hD];show(args++_).getD j undef=_;have h1:=C4 U;have h2:=BM hA;rw[azw,avl,ax0 (by have:args.toList.length=args.size:=rfl;omega),au9,avy]
  refine⟨e6.1,v,j4,v,rv,rfl,?_,⟨h8.aN.1,h8.aN.2.1,h8.aN.2.2.1,h8.aN.2.2.2,h8.dA,λk i=>(h8.dW k i).1,λk p i=>(h8.dW k i).2 p⟩,λo0 ho=> ?_⟩
  ·cases hr:cv.ao<;>rw[hr]at e8<;>exact e8
  obtain⟨b6,vm,h1,h2,h3⟩:=j6 o0 ho;have h4:=h2 bs e9;refine⟨b6,vm,?_,h4.mono λb q _ Y=> ?_,λb hb=> ?_⟩
  ·cases hr:cv.ro with
   |true=>rw[hr]at h1;simpa using h1
   |false=>rw[hr]at h1;simp at h1;simpa using JA e9 h1 M
  ·rcases Y with⟨Y,j9⟩|Y
   ·by_cases S:b∈bs
    ·exact .inl (.inr S)
    ·exact .inl (.inl ⟨Y,S,j9⟩)
   ·exact .inr Y
  ·rcases h3 b hb with(⟨_,h5⟩|h5)|h5
   ·obtain⟨k,p,h6,h7⟩:=hb
    exact absurd h5 (h4.live k b p h6 h7).2.1
   ·exact .inl h5
   ·exact .inr h5
 refine aBf hf hb (xR (φ:=φ) (Ret:=kQ P fn cv.ao cv.ro cv.mask cv.sz cv.vo (.pair cv.r cv.q)) hC ⟨hH,rfl⟩ (λe n O O' X X' r a w hO h hr=>hr.mono hO h) c _ _ _ a0 w (λt g V=>(b4 t g V).1) ⟨m,j0⟩
  j2 hL A (λe l5 J w' l6 ⟨m',b7⟩ k1=> ?_) (λe Z r J w' hp hr i hd=> ?_))
 ·obtain⟨k2,k3,y,hy,hR⟩:=Pp (fn:=fn) (ao:=cv.ao) (ro:=cv.ro) (vo:=cv.vo) (Q:= .pair cv.r cv.q) (x:=e) (Post:=λr=>r=cv.F x) hC b7 M k1
  have hy:y=cv.F x:=hy;rw[hy]at hR;have:=e5 J w' b7.lD b7.nL hR;cases e with
  |exit id=>exact absurd rfl (k2 id)
  |dL v=>exact absurd rfl (k3 v)
  |normal=>exact this
  |ret=>exact this
 ·subst hp
  have k4:=hr;obtain⟨rfl,_⟩:=k4;exact e5 J w' i hd hr
end
theorem akJ{C:Ctx}(g:dr prog C)(h:C.G=bC){f:FuncId}{fn:Func}(i:prog.funcs[f]? =some fn)(cv:Cv){L:Nat->Option (LS (Ty.pair cv.r cv.q).den)}{c:Code}{dflt:(Ty.pair cv.r cv.q).den}(hb:fn.body=some c)
  (j: ∀body∈loopsIn c,∀s,L (cP body)=some s->cG prog C.G (kQ prog fn cv.ao cv.ro cv.mask cv.sz cv.vo (.pair cv.r cv.q)) body s)
  (k: ∀x,Fit cv.p x->(∀q,cv.pre=some q->q x)->eP (evFnV C fn cv.p cv.ax cv.mask cv.sz cv.ro cv.vi cv.ao cv.vo (.pair cv.r cv.q) L x))
  (l: ∀x,(evFnV C fn cv.p cv.ax cv.mask cv.sz cv.ro cv.vi cv.ao cv.vo (.pair cv.r cv.q) L x).val (λy=>y) dflt=cv.F x) (t:nodup (vnames (nmV bn cv.vi))=true):gG prog bC f cv:=by
 rw[<- h];exact amK g i hb j (λx fx u=>(k x fx u).safe) l t
theorem Th{P:Program}{G:Gd}{f:FuncId}{ct:Ct}{q:ct.p.den->Prop}(h:ct.pre=some q)(g: ∀x,q x->False):dY P G f ct:=λx w X args cs _ _ h3 _ _=>(g x (h3 _ h)).elim
theorem akl{P:Program}{G:Gd}{f:FuncId}{cv:Cv}{q:cv.p.den->Prop}(h:cv.pre=some q)(g: ∀x,q x->False):gG P G f cv:=λx w X args i cs pc bs j _ _ h3 _ _ _ _ _ _ _=>(g x (h3 _ h)).elim
end
section
abbrev wQ:=sQ
def tl(t:wQ):List Int:= [t.1,t.2.1,t.2.2.1,t.2.2.2.1,t.2.2.2.2.1,t.2.2.2.2.2.1,t.2.2.2.2.2.2.1,t.2.2.2.2.2.2.2.1,t.2.2.2.2.2.2.2.2.1,t.2.2.2.2.2.2.2.2.2.1,t.2.2.2.2.2.2.2.2.2.2.1,t.2.2.2.2.2.2.2.2.2.2.2.1,t.2.2.2.2.2.2.2.2.2.2.2.2.1,t.2.2.2.2.2.2.2.2.2.2.2.2.2.1,t.2.2.2.2.2.2.2.2.2.2.2.2.2.2.1,t.2.2.2.2.2.2.2.2.2.2.2.2.2.2.2.1,t.2.2.2.2.2.2.2.2.2.2.2.2.2.2.2.2.1,t.2.2.2.2.2.2.2.2.2.2.2.2.2.2.2.2.2.1,t.2.2.2.2.2.2.2.2.2.2.2.2.2.2.2.2.2.2.1,t.2.2.2.2.2.2.2.2.2.2.2.2.2.2.2.2.2.2.2.1,t.2.2.2.2.2.2.2.2.2.2.2.2.2.2.2.2.2.2.2.2.1,t.2.2.2.2.2.2.2.2.2.2.2.2.2.2.2.2.2.2.2.2.2.1,t.2.2.2.2.2.2.2.2.2.2.2.2.2.2.2.2.2.2.2.2.2.2.1,t.2.2.2.2.2.2.2.2.2.2.2.2.2.2.2.2.2.2.2.2.2.2.2.1,t.2.2.2.2.2.2.2.2.2.2.2.2.2.2.2.2.2.2.2.2.2.2.2.2.1,t.2.2.2.2.2.2.2.2.2.2.2.2.2.2.2.2.2.2.2.2.2.2.2.2.2.1,t.2.2.2.2.2.2.2.2.2.2.2.2.2.2.2.2.2.2.2.2.2.2.2.2.2.2.1,t.2.2.2.2.2.2.2.2.2.2.2.2.2.2.2.2.2.2.2.2.2.2.2.2.2.2.2.1,t.2.2.2.2.2.2.2.2.2.2.2.2.2.2.2.2.2.2.2.2.2.2.2.2.2.2.2.2.1,t.2.2.2.2.2.2.2.2.2.2.2.2.2.2.2.2.2.2.2.2.2.2.2.2.2.2.2.2.2.1,t.2.2.2.2.2.2.2.2.2.2.2.2.2.2.2.2.2.2.2.2.2.2.2.2.2.2.2.2.2.2.1,t.2.2.2.2.2.2.2.2.2.2.2.2.2.2.2.2.2.2.2.2.2.2.2.2.2.2.2.2.2.2.2.1,t.2.2.2.2.2.2.2.2.2.2.2.2.2.2.2.2.2.2.2.2.2.2.2.2.2.2.2.2.2.2.2.2.1,t.2.2.2.2.2.2.2.2.2.2.2.2.2.2.2.2.2.2.2.2.2.2.2.2.2.2.2.2.2.2.2.2.2.1,t.2.2.2.2.2.2.2.2.2.2.2.2.2.2.2.2.2.2.2.2.2.2.2.2.2.2.2.2.2.2.2.2.2.2.1,t.2.2.2.2.2.2.2.2.2.2.2.2.2.2.2.2.2.2.2.2.2.2.2.2.2.2.2.2.2.2.2.2.2.2.2]
def up(t:wQ)(i v:Int):wQ:=((bif i==(0:Int)then v else t.1),(bif i==(1:Int)then v else t.2.1),(bif i==(2:Int)then v else t.2.2.1),(bif i==(3:Int)then v else t.2.2.2.1),(bif i==(4:Int)then v else t.2.2.2.2.1),(bif i==(5:Int)then v else t.2.2.2.2.2.1),(bif i==(6:Int)then v else t.2.2.2.2.2.2.1),(bif i==(7:Int)then v else t.2.2.2.2.2.2.2.1),(bif i==(8:Int)then v else t.2.2.2.2.2.2.2.2.1),(bif i==(9:Int)then v else t.2.2.2.2.2.2.2.2.2.1),(bif i==(10:Int)then v else t.2.2.2.2.2.2.2.2.2.2.1),(bif i==(11:Int)then v else t.2.2.2.2.2.2.2.2.2.2.2.1),(bif i==(12:Int)then v else t.2.2.2.2.2.2.2.2.2.2.2.2.1),(bif i==(13:Int)then v else t.2.2.2.2.2.2.2.2.2.2.2.2.2.1),(bif i==(14:Int)then v else t.2.2.2.2.2.2.2.2.2.2.2.2.2.2.1),(bif i==(15:Int)then v else t.2.2.2.2.2.2.2.2.2.2.2.2.2.2.2.1),(bif i==(16:Int)then v else t.2.2.2.2.2.2.2.2.2.2.2.2.2.2.2.2.1),(bif i==(17:Int)then v else t.2.2.2.2.2.2.2.2.2.2.2.2.2.2.2.2.2.1),(bif i==(18:Int)then v else t.2.2.2.2.2.2.2.2.2.2.2.2.2.2.2.2.2.2.1),(bif i==(19:Int)then v else t.2.2.2.2.2.2.2.2.2.2.2.2.2.2.2.2.2.2.2.1),(bif i==(20:Int)then v else t.2.2.2.2.2.2.2.2.2.2.2.2.2.2.2.2.2.2.2.2.1),(bif i==(21:Int)then v else t.2.2.2.2.2.2.2.2.2.2.2.2.2.2.2.2.2.2.2.2.2.1),(bif i==(22:Int)then v else t.2.2.2.2.2.2.2.2.2.2.2.2.2.2.2.2.2.2.2.2.2.2.1),(bif i==(23:Int)then v else t.2.2.2.2.2.2.2.2.2.2.2.2.2.2.2.2.2.2.2.2.2.2.2.1),(bif i==(24:Int)then v else t.2.2.2.2.2.2.2.2.2.2.2.2.2.2.2.2.2.2.2.2.2.2.2.2.1),(bif i==(25:Int)then v else t.2.2.2.2.2.2.2.2.2.2.2.2.2.2.2.2.2.2.2.2.2.2.2.2.2.1),(bif i==(26:Int)then v else t.2.2.2.2.2.2.2.2.2.2.2.2.2.2.2.2.2.2.2.2.2.2.2.2.2.2.1),(bif i==(27:Int)then v else t.2.2.2.2.2.2.2.2.2.2.2.2.2.2.2.2.2.2.2.2.2.2.2.2.2.2.2.1),(bif i==(28:Int)then v else t.2.2.2.2.2.2.2.2.2.2.2.2.2.2.2.2.2.2.2.2.2.2.2.2.2.2.2.2.1),(bif i==(29:Int)then v else t.2.2.2.2.2.2.2.2.2.2.2.2.2.2.2.2.2.2.2.2.2.2.2.2.2.2.2.2.2.1),(bif i==(30:Int)then v else t.2.2.2.2.2.2.2.2.2.2.2.2.2.2.2.2.2.2.2.2.2.2.2.2.2.2.2.2.2.2.1),(bif i==(31:Int)then v else t.2.2.2.2.2.2.2.2.2.2.2.2.2.2.2.2.2.2.2.2.2.2.2.2.2.2.2.2.2.2.2.1),(bif i==(32:Int)then v else t.2.2.2.2.2.2.2.2.2.2.2.2.2.2.2.2.2.2.2.2.2.2.2.2.2.2.2.2.2.2.2.2.1),(bif i==(33:Int)then v else t.2.2.2.2.2.2.2.2.2.2.2.2.2.2.2.2.2.2.2.2.2.2.2.2.2.2.2.2.2.2.2.2.2.1),(bif i==(34:Int)then v else t.2.2.2.2.2.2.2.2.2.2.2.2.2.2.2.2.2.2.2.2.2.2.2.2.2.2.2.2.2.2.2.2.2.2.1),(bif i==(35:Int)then v else t.2.2.2.2.2.2.2.2.2.2.2.2.2.2.2.2.2.2.2.2.2.2.2.2.2.2.2.2.2.2.2.2.2.2.2))
def SL:=And.intro @avf<|And.intro @av1<|And.intro @aw8<|And.intro @avu<|And.intro @au8.{0}<|And.intro @axf<|And.intro @au1.{0}<|And.intro @avi.{0}<|And.intro @avk.{0}<|And.intro @auu.{0}<|And.intro @awj.{0}<|And.intro @avp.{0}<|And.intro @avo.{0}<|And.intro @adv<|And.intro @aut<|And.intro @av9<|And.intro @au0<|And.intro @auv<|And.intro @avz<|And.intro @avm<|And.intro @ave<|And.intro @aw0<|And.intro @aye<|And.intro @awt.{0}<|And.intro @awu.{0}<|And.intro @axq.{0}<|And.intro @ne_eq.{1}<|And.intro @implies_true.{0}<|And.intro @implies_true.{1}<|And.intro @aAp @azc
def E:= @azc
abbrev ai{a b:Prop}(h:a)(k:b):a/\b:=⟨h,k⟩
abbrev ar(i:Nat)(ct:Ct):Prop:=dY prog bC i ct
abbrev jP(i:Nat)(cp:Cp):Prop:=ki prog bC i cp
abbrev dP(i:Nat)(cv:Cv):Prop:=gG prog bC i cv
abbrev bF(f:Func)(ct:Ct)(pt:List Nat)(s:LS ct.r.den):Prop:=cG prog bC (kJ prog f ct.ao ct.fresh ct.r) (jx (fL f) pt) s
abbrev tM(f:Func)(pt:List Nat)(s:LS Unit):Prop:=cG prog bC (λ_ _ _ _ (_:Unit) _ _=>False) (jx (fL f) pt) s
abbrev gU(f:Func)(cv:Cv)(pt:List Nat)(s:LS (Ty.pair cv.r cv.q).den):Prop:=cG prog bC (kQ prog f cv.ao cv.ro cv.mask cv.sz cv.vo (.pair cv.r cv.q)) (jx (fL f) pt) s
abbrev cQ(p:Ty)(ax:List (Option Nat))(mask:List Bool)(sz:List Nat)(ex:Bool)(q r:Ty)(ao:ah)(pre:Option (p.den->Prop))(FQ:p.den->Bool×(r.den×q.den))(pv:Value):Cp:=
 { p:=p,ax:=ax,mask:=mask,sz:=sz,ro:=false,ex:=ex,q:=q,r:=r,ao:=ao,pre:=pre,F:=λx=>(FQ x).2,pn:=some λx=>(FQ x).1,pv:=pv}
theorem sk{P:Prop}(h:P:=by
 try dsimp only[Ty.den]at*
 simp only[E,Fit,maxLen]at h fk;simp only[E]
 (repeat' (first|exact rfl|(refine bf.cnd (λhc=> ?_) (λhc=> ?_)<;>(try simp only[SL,aJ,bc,bM,aC]at hc))|refine bf.opt (λ_=> ?_)))<;>(first|exact rfl|(refine⟨rfl,?_,?_⟩<;>simp only[E,SL,BY,BW,aJ,bc,bM,aC]<;>first|omega|(and_intros<;>first|omega|exact h.1|exact h.2|exact h.2.1|exact h.2.2|exact h.2.2.1|exact h.2.2.2|exact h.2.2.2.1|exact h.2.2.2.2|exact h.2.2.2.2.1|exact h.2.2.2.2.2|exact h.2.2.2.2.2.1|exact h.2.2.2.2.2.2)))):P:=h
theorem tr{ρ₀ ρ:Type}{t:Tr ρ₀ ρ}(h:t.triv=true:=by kernel_rfl):eP t:=ai1 h
theorem sj{P:Prop}(h:P:=by
 simp only[E,SL,BY,BW,aJ,bc,bM,aC]at*;all_goals((repeat' (first|exact trivial|apply And.intro|intro _))<;>first|trivial|omega|exact akZ (by omega)|exact ak6 (by omega) (by omega))):P:=h
theorem sl{ρ₀ ρ:Type}{t:Tr ρ₀ ρ}(S:Prop)(k:S:=by
 try dsimp only[Ty.den]at*
 try simp only[Fit,maxLen]at fx
 exact sj) (h:t.slim=S:=by kernel_rfl):eP t:=Tk h k
theorem sm{ρ₀ ρ:Type}{t:Tr ρ₀ ρ}(S:Prop)(k:S:=by
 try dsimp only[Ty.den]at*
 simp only[E,Fit,maxLen]at h fk fx;exact sj) (h:t.slim=S:=by kernel_rfl):eP t:=Tk h k
theorem sf{ρ₀ ρ:Type}{t:Tr ρ₀ ρ}(S:Prop)(k:S)(h:t.safe=S:=by kernel_rfl):eP t:=JR h k
theorem sp{α:Type}{A pre Q:α->Prop}(h: ∀x,A x->pre x->Q x): ∀x,A x->(∀q,some pre=some q->q x)->Q x:=agS h
theorem wV{α:Type}{A Q:α->Prop}{B:Prop}{pre:α->Prop}(h: ∀x,A x->pre x->Q x)(hb:B:=by rfl): ∀x,(B->A x)->(∀q,some pre=some q->q x)->Q x:=Pz hb h
section
variable {C:Ctx} (hC:dr prog C) {f:FuncId} {fn:Func} (hf:prog.funcs[f]? =some fn) {l:List Code} {p:Ty} {ax:List (Option Nat)} {q r:Ty} {ao:ah} {pre:Option (p.den->Prop)} {fresh:Option Nat} {mask:List Bool} {mas:List Am} {sz:List Nat} {vi vo:List (hM)} {ro ex fz:Bool}
include hC hf
theorem au{F:p.den->r.den}(L:List (Nat×LS r.den))(hL: ∀body∈l,∀s,eX L (cP body)=some s->cG prog bC (kJ prog fn ao fresh r) body s)
  (hs: ∀x,Fit p x->(∀q,pre=some q->q x)->eP (evFn C fn p ax ao fresh r (eX L) x)) (he:loopsIn (fL fn)=l:=by kernel_rfl)
  (hv: ∀x,(evFn C fn p ax ao fresh r (eX L) x).val (λy=>y) (Ty.dflt r)=F x:=by intro x;kernel_rfl) (hb:fn.body=some (fL fn):=by rfl) (hG:C.G=bC:=by rfl):ar f { p:=p,ax:=ax,r:=r,ao:=ao,pre:=pre,fresh:=fresh,F:=F}:=
 amP hC hG hf hb (oy he (hG.symm▸hL)) hs hv
theorem rj{F:p.den->r.den×q.den}(L:List (Nat×LS Unit))(hL: ∀body∈l,∀s,eX L (cP body)=some s->cG prog bC (λ_ _ _ _ (_:Unit) _ _=>False) body s)
  (hs: ∀x,(ex=false->Fit p x)->(∀q,pre=some q->q x)->eP (evFnP C fn p ax mask sz ro ex q ao r (eX L) x)) (he:loopsIn (fL fn)=l:=by kernel_rfl)
  (hv: ∀x,(evFnP C fn p ax mask sz ro ex q ao r (eX L) x).val (λ_=>(Ty.dflt r,Ty.dflt q)) (Ty.dflt r,Ty.dflt q)=F x:=by intro x;kernel_rfl) (hb:fn.body=some (fL fn):=by rfl) (hG:C.G=bC:=by rfl):jP f { p:=p,ax:=ax,mask:=mask,sz:=sz,ro:=ro,ex:=ex,q:=q,r:=r,ao:=ao,pre:=pre,F:=F}:=
 ajk hC hG hf _ hb (oy he (hG.symm▸hL)) hs hv
theorem Ge{FQ:p.den->Bool×(r.den×q.den)}{pv:Value}(L:List (Nat×LS Unit))(hL: ∀body∈l,∀s,eX L (cP body)=some s->cG prog bC (λ_ _ _ _ (_:Unit) _ _=>False) body s)
  (hs: ∀x,(ex=false->Fit p x)->(∀q,pre=some q->q x)->eP (sT C fn p ax mask sz ex q ao r pv (eX L) x)) (he:loopsIn (fL fn)=l:=by kernel_rfl)
  (hv: ∀x,(sT C fn p ax mask sz ex q ao r pv (eX L) x).val (λ_=>(false,(Ty.dflt r,Ty.dflt q))) (false,(Ty.dflt r,Ty.dflt q))=FQ x:=by intro x;kernel_rfl) (hb:fn.body=some (fL fn):=by rfl) (hG:C.G=bC:=by rfl):jP f (cQ p ax mask sz ex q r ao pre FQ pv):=
 aiU hC hG hf _ hb rfl rfl (λ_=>rfl) (oy he (hG.symm▸hL)) hs hv
theorem dV{F:p.den->r.den×q.den}(L:List (Nat×LS (Ty.pair r q).den))(hL: ∀body∈l,∀s,eX L (cP body)=some s->cG prog bC (kQ prog fn ao ro mas sz vo (.pair r q)) body s)
  (hs: ∀x,Fit p x->(∀q,pre=some q->q x)->eP (evFnV C fn p ax mas sz ro vi ao vo (.pair r q) (eX L) x)) (he:loopsIn (fL fn)=l:=by kernel_rfl)
  (hv: ∀x,(evFnV C fn p ax mas sz ro vi ao vo (.pair r q) (eX L) x).val (λy=>y) (Ty.dflt (.pair r q))=F x:=by intro x;kernel_rfl) (hnv:nodup (vnames (nmV bn vi))=true:=by rfl) (hb:fn.body=some (fL fn):=by rfl) (hG:C.G=bC:=by rfl):dP f { p:=p,ax:=ax,mask:=mas,sz:=sz,ro:=ro,vi:=vi,q:=q,r:=r,ao:=ao,vo:=vo,pre:=pre,F:=F,fz:=fz}:=
 akJ hC hG hf _ hb (oy he (hG.symm▸hL)) hs hv hnv
end
theorem l0{P:Program}{G:Gd}{ρ:Type}{Ret:Exit->Nat->(Nat->Prop)->(Nat->Nat->Prop)->ρ->Act->World->Prop}{L:Nat->Option (LS ρ)}: ∀body∈([]:List Code),∀s,L (cP body)=some s->cG P G Ret body s:=Hy
theorem lc{P:Program}{G:Gd}{ρ:Type}{Ret:Exit->Nat->(Nat->Prop)->(Nat->Nat->Prop)->ρ->Act->World->Prop}{L:Nat->Option (LS ρ)}{b:Code}{s0:LS ρ}{rest:List Code}(h1:cG P G Ret b s0)(h: ∀body∈rest,∀s,L (cP body)=some s->cG P G Ret body s)(h0:L (cP b)=some s0:=by kernel_rfl):
 ∀body∈b::rest,∀s,L (cP body)=some s->cG P G Ret body s:=Ol h0 h1 h
theorem gc{f:FuncId}{fn:Func}{ct:Ct}{l:List (Nat×Ct)}(h1:ar f ct)(hf:prog.funcs[f]? =some fn)(h:cu l)(h2:(fn.name== "runtime.NumGoroutine")=false:=by kernel_rfl)(h3:fn.body.isNone=false:=by kernel_rfl):cu ((f,ct)::l):=BQ h1 ⟨_,hf,h2,h3⟩ h
theorem pc{f:FuncId}{fn:Func}{cp:Cp}{l:List (Nat×Cp)}(h1:jP f cp)(hf:prog.funcs[f]? =some fn)(h:ia l)(h2:(fn.name== "runtime.NumGoroutine")=false:=by kernel_rfl)(h3:fn.body.isNone=false:=by kernel_rfl):ia ((f,cp)::l):=Pm h1 ⟨_,hf,h2,h3⟩ h
theorem zc{f:FuncId}{fn:Func}{z:Zc}{l:List (Nat×Zc)}(h1:AI prog bC f z)(hf:prog.funcs[f]? =some fn)(h:gj l)(h2:(fn.name== "runtime.NumGoroutine")=false:=by kernel_rfl)(h3:fn.body.isNone=false:=by kernel_rfl):gj ((f,z)::l):=rF h1 ⟨_,hf,h2,h3⟩ h
section
variable {C:Ctx} (hC:dr prog C) {fn:Func} {pt:List Nat} {l:List Code} {K X:Ty} {ks:List (Nat×Option Nat)} {kb:List (aR)} {xs:List (Nat×Option Nat)} {xb:List (aR)} {aM:List (cT)} {fz:List Nat} {bu:List (aR)} {bP:List (Nat×Nat×List Nat)} {exit:Nat} {rets:Bool} {inv:K.den->X.den->Prop} {μ:K.den->X.den->Nat}
include hC
theorem lA{ct:Ct}{step:K.den->X.den->an K.den X.den ct.r.den}(L:List (Nat×LS ct.r.den))(hL: ∀body∈l,∀s,eX L (cP body)=some s->cG prog bC (kJ prog fn ct.ao ct.fresh ct.r) body s)
  (hs: ∀k x,Fit K k->Fit X x->inv k x->eP (evCode C (eX L) (jx (fL fn) pt) (cW (aH K X ks kb xs xb aM fz bu exit rets inv step μ bP) (enc K k) (enc X x)) (evRound (aH K X ks kb xs xb aM fz bu exit rets inv step μ bP) (evRet C fn ct.ao ct.fresh ct.r))))
  (fC: ∀k x,Fit K k->inv k x->bf rets inv μ k x (step k x):=by intro k x fk h;exact sk)
  (he:loopsIn (jx (fL fn) pt)=l:=by kernel_rfl)
  (hv: ∀k x,(evCode C (eX L) (jx (fL fn) pt) (cW (aH K X ks kb xs xb aM fz bu exit rets inv step μ bP) (enc K k) (enc X x)) (evRound (aH K X ks kb xs xb aM fz bu exit rets inv step μ bP) (evRet C fn ct.ao ct.fresh ct.r))).val an.ret (.brk (Ty.dflt K) (Ty.dflt X))=step k x:=by intro k x;kernel_rfl)
  (hG:C.G=bC:=by rfl):bF fn ct pt (aH K X ks kb xs xb aM fz bu exit rets inv step μ bP):=by
 first|unfold bF|unfold tM|unfold gU
 rw[<- hG];exact ahc hC (oy he (hG.symm▸hL)) hs hv fC
theorem lP{step:K.den->X.den->an K.den X.den Unit}(L:List (Nat×LS Unit))(hL: ∀body∈l,∀s,eX L (cP body)=some s->cG prog bC (λ_ _ _ _ (_:Unit) _ _=>False) body s)
  (hs: ∀k x,Fit K k->Fit X x->inv k x->eP (evCode C (eX L) (jx (fL fn) pt) (cW (aH K X ks kb xs xb aM fz bu exit rets inv step μ bP) (enc K k) (enc X x)) (evRound (aH K X ks kb xs xb aM fz bu exit rets inv step μ bP) (λ_ _=>Tr.bad))))
  (fC: ∀k x,Fit K k->inv k x->bf rets inv μ k x (step k x):=by intro k x fk h;exact sk)
  (he:loopsIn (jx (fL fn) pt)=l:=by kernel_rfl)
  (hv: ∀k x,(evCode C (eX L) (jx (fL fn) pt) (cW (aH K X ks kb xs xb aM fz bu exit rets inv step μ bP) (enc K k) (enc X x)) (evRound (aH K X ks kb xs xb aM fz bu exit rets inv step μ bP) (λ_ _=>Tr.bad))).val an.ret (.brk (Ty.dflt K) (Ty.dflt X))=step k x:=by intro k x;kernel_rfl)
  (hG:C.G=bC:=by rfl):tM fn pt (aH K X ks kb xs xb aM fz bu exit rets inv step μ bP):=by
 first|unfold bF|unfold tM|unfold gU
 rw[<- hG];exact afe hC (oy he (hG.symm▸hL)) hs hv fC
theorem lV{cv:Cv}{step:K.den->X.den->an K.den X.den (Ty.pair cv.r cv.q).den}(L:List (Nat×LS (Ty.pair cv.r cv.q).den))(hL: ∀body∈l,∀s,eX L (cP body)=some s->cG prog bC (kQ prog fn cv.ao cv.ro cv.mask cv.sz cv.vo (.pair cv.r cv.q)) body s)
  (hs: ∀k x,Fit K k->Fit X x->inv k x->eP (evCode C (eX L) (jx (fL fn) pt) (cW (aH K X ks kb xs xb aM fz bu exit rets inv step μ bP) (enc K k) (enc X x)) (evRound (aH K X ks kb xs xb aM fz bu exit rets inv step μ bP) (evRetV C fn cv.ao cv.ro cv.mask cv.sz cv.vo (.pair cv.r cv.q)))))
  (fC: ∀k x,Fit K k->inv k x->bf rets inv μ k x (step k x):=by intro k x fk h;exact sk)
  (he:loopsIn (jx (fL fn) pt)=l:=by kernel_rfl)
  (hv: ∀k x,(evCode C (eX L) (jx (fL fn) pt) (cW (aH K X ks kb xs xb aM fz bu exit rets inv step μ bP) (enc K k) (enc X x)) (evRound (aH K X ks kb xs xb aM fz bu exit rets inv step μ bP) (evRetV C fn cv.ao cv.ro cv.mask cv.sz cv.vo (.pair cv.r cv.q)))).val an.ret (.brk (Ty.dflt K) (Ty.dflt X))=step k x:=by intro k x;kernel_rfl)
  (hsz:(posA cv.mask 0).length=cv.sz.length:=by rfl) (hG:C.G=bC:=by rfl):gU fn cv pt (aH K X ks kb xs xb aM fz bu exit rets inv step μ bP):=by
 first|unfold bF|unfold tM|unfold gU
 rw[<- hG];exact afr hC hsz (oy he (hG.symm▸hL)) hs hv fC
end
end
def Em(k:Int×Int×(List Int)×Int)(x:Int):Prop:=0<=x/\k.2.2.2=k.2.2.1.length
def zC(k:Int×Int×(List Int)×Int)(x:Int):=(k.2.2.2-x).toNat
def sB(k:Int×Int×(List Int)×Int)(x:Int):=letI a:=aa k.2.2.1 x;bif x<k.2.2.2 then bif a<k.1||a>k.2.1 then an.ret false else an.next k (i64.wrap (x+1))else an.brk k x
def aaq k x:=bj sB k (Nat.succ (zC k x)) x
def iG(x:Int×Int×List Int):=dJ (aaq (x.1,x.2.1,x.2.2,x.2.2.length) 0) (λy=>y) true
def Gn(x:Int×Int×Int×Int×Nat×Nat×Nat×List (ey)):=letI b:=x.2.2.2.2;letI a:=FloatKind.f64.format.order b.2.2.1 9218868437227405311;FloatKind.f64.format.order 0 b.1==some Ordering.lt&&FloatKind.f64.format.order b.1 b.2.1==some Ordering.lt&&FloatKind.f64.format.order b.2.1 b.2.2.1==some Ordering.lt&&(a==some Ordering.lt||a==some Ordering.eq)
def jH(x:ay):=x.1>=x.2.1&&x.1<=x.2.2
def Cz(k:af)(x:Int×Int×Int×Int×Int×Nat×Nat×Nat×List (ey)):Prop:=0<=x.1/\x.1<=101/\k.1≠0/\k.2<=100/\x.2.2.2.2.2.2.2.2.length<=x.1
def yS(k:(af))(x:(Int×Int×Int×Int×Int×Nat×Nat×Nat×List (ey))):Nat:=(k.2-x.1).toNat
def rY(k:af)(x:Int×Int×Int×Int×Int×Nat×Nat×Nat×List (ey)):an (af) (Int×Int×Int×Int×Int×Nat×Nat×Nat×List (ey)) (Int×Int×Int×Int×Nat×Nat×Nat×List (ey)):=letI a:=x.2.2.2.2;bif x.1<k.2 then .next k (i64.wrap (x.1+1),x.2.1,x.2.2.1,x.2.2.2.1,a.1,a.2.1,a.2.2.1,a.2.2.2.1,a.2.2.2.2++ [(100,2,6,5,4,2,3,10,Int.tmod x.1 k.1)])else .brk k x
def ali k x:=endOf rY k (Nat.succ (yS k x)) x
def FW(x:af):=(ali x (0,x.1,1,4000,30,4591870180066957722,4605380978949069210,4607632778762754458,[])).2
def Ei(x:af):Prop:=1<=x.1/\x.1<=100/\x.2<=100
def wz(z:List (Nat×List Nat)):=Kg Sc z
def Mz:Ct:=⟨Ty.pair ae (Ty.pair ae cX),[none,none,none],aw,ah.one none,none,none,iG⟩
def abE:Ct:=⟨aD,[some 8],aw,ah.one none,none,none,Gn⟩
def X7:Ct:=⟨Ty.pair ae (Ty.pair ae ae),[none,none,none],aw,ah.one none,none,none,jH⟩
def Lu:Ct:=⟨Ty.pair ae ae,[none,none],aD,ah.one (some 8),some Ei,some 106,FW⟩
def Wk:LS aw.den:=aH (Ty.pair ae (Ty.pair ae (Ty.pair cX ae))) ae [(0,none),(1,none),(9,none),(10,none)] [] [(11,none)] [] [] [] [] 0 true Em sB zC
theorem aly:bF f75 Mz [0] Wk:=have E:=ai @Em.eq_1<|ai @zC.eq_1 @sB.eq_1;lA (wz []) [] l0 (λk x fk fx h=>sm (decide (x<k.2.2.2)=true->0<=x/\x<k.2.2.1.length))
theorem as1:ar 75 Mz:=have E:= @Em.eq_1;au (wz []) func75 [(2,Wk)] (lc aly l0) (λx fx _=>sl (Em (x.1,x.2.1,x.2.2,x.2.2.length) 0))
theorem arX:ar 77 abE:=au (wz []) func77 [] l0 (λ_ _ _=>tr)
theorem arl:ar 111 X7:=au (wz []) func111 [] l0 (λ_ _ _=>tr)
def TA:LS aD.den:=aH (Ty.pair ae ae) (Ty.pair ae aD) [(0,none),(1,none)] [] [(6,none)] [(5,8)] [(8,100308,true,106)] [] [(5,5)] 0 false Cz rY yS
theorem akQ:bF f122 Lu [0] TA:=have E:=ai @Cz.eq_1<|ai @yS.eq_1 @rY.eq_1;lA (wz []) [] l0 (λk x fk fx h=>sm (letI b:=ey;letI a:=([(100,2,6,5,4,2,3,10,Int.tmod x.1 k.1)]:List b);letI c:=(x.2.2.2.2.2.2.2.2:List b);decide (x.1<k.2)=true->k.1≠0/\(List.length c+List.length a)*72<=140737488355328/\List.length c+List.length a<=4611686018427387903))
theorem arz:ar 122 Lu:=have E:=ai @Cz.eq_1 @Ei.eq_1;au (wz []) func122 [(3,TA)] (lc akQ l0) (sp λx fx h=>sl (Cz x (0,x.1,1,4000,30,4591870180066957722,4605380978949069210,4607632778762754458,[])))
def aaF:=(75,Mz)::(77,abE)::(111,X7)::(122,Lu):: []
theorem Uj:cu aaF:=gc as1 func75 (gc arX func77 (gc arl func111 (gc arz func122 (Sc))))
def Gl(x:(ey)×Int):=letI a:=x.1.2.2.2.2;letI b:=a.2.2;iG (1,10000,[x.1.1,x.1.2.1,x.1.2.2.1,a.1,a.2.1,b.1,b.2.1])&&iG (0,10000,[x.1.2.2.2.1])&&b.2.1>=b.1&&iG (0,i64.wrap (x.2-1),[b.2.2])
def CN(k:List Int)(x:Int):Prop:=0<=x/\k.length=8
def yx(k:List Int)(x:Int):=(7-x).toNat
def uK(k:List Int)(x:Int):=bif x<7 then bif !jH (aa k x,1,10000)then an.ret false else an.next k (i64.wrap (x+1))else an.brk k x
def KM k x:=bj uK k (Nat.succ (yx k x)) x
def Fi(x:(Int×Int×Int×Int×Nat×Nat×Nat×List (ey))×ey):=letI a:=x.2.2.2.2;letI b:=a.2.2.2;bif a.1<0||a.1>10000 then false else dJ (KM [x.2.1,x.2.2.1,x.2.2.2.1,a.2.1,a.2.2.1,b.1,b.2.1,i64.wrap (a.1+1)] 0) (λy=>y) (b.2.1>=b.1&&jH (b.2.2,0,i64.wrap (x.1.1-1)))
def Nr(z:List (Nat×List Nat)):=Kg Uj z
def ac4:Ct:=⟨Ty.pair gg ae,[some 9,none],aw,ah.one none,none,none,Gl⟩
def LZ:Ct:=⟨Ty.pair aD gg,[some 8,some 9],aw,ah.one none,none,none,Fi⟩
theorem asU:ar 76 ac4:=au (Nr []) func76 [] l0 (λ_ _ _=>tr)
def Rt:LS aw.den:=aH cX ae [(5,none)] [] [(6,none)] [] [] [] [] 0 true CN uK yx
theorem aj4:bF f123 LZ [0] Rt:=have E:=ai @CN.eq_1<|ai @yx.eq_1 @uK.eq_1;lA (Nr []) [] l0 (λk x fk fx h=>sm (decide (x<7)=true->0<=x/\x<k.length))
theorem anX:ar 123 LZ:=have E:= @CN.eq_1;au (Nr []) func123 [(5,Rt)] (lc aj4 l0) (λx fx _=>sl (letI a:=x.2.2.2.2;(a.1<0||a.1>10000)=false->CN [x.2.1,x.2.2.1,x.2.2.2.1,a.2.1,a.2.2.1,a.2.2.2.1,a.2.2.2.2.1,i64.wrap a.1+1] 0))
def aaY:=(76,ac4)::(123,LZ)::aaF
theorem Tb:cu aaY:=gc asU func76 (gc anX func123 (Uj))
def D6(k:(List (ey))×Int×Int×Int×Int×Int×Nat×Nat×Nat×List (ey))(x:ny):Prop:=0<=x.2/\k.2.1=k.1.length
def D0(k:(List (ey))×Int×Int×Int×Int×Int×Nat×Nat×Nat×List (ey))(x:ny):=(k.2.1-x.2).toNat
def DB(k:(List (ey))×Int×Int×Int×Int×Int×Nat×Nat×Nat×List (ey))(x:ny):an ((List (ey))×Int×Int×Int×Int×Int×Nat×Nat×Nat×List (ey)) (ny) Int:=bif x.2<k.2.1 then .next k (x.1&&Gl (aa k.1 x.2,k.2.2.1),i64.wrap (x.2+1))else .brk k x
def LP k x:=endOf DB k (Nat.succ (D0 k x)) x
def ca(x:Int×Int×Int×Int×Nat×Nat×Nat×List (ey)):Int:=letI b:=x.2.2.2.2.2.2.2;letI a:=b.length;bif !iG (2,32,[x.1])then 10 else bif !iG (1,8,[a])then 11 else bif !(LP (b,a,x) (iG (1,16,[x.2.1])&&iG (1,10000,[x.2.2.2.1]),0)).1 then 12 else bif !Gn x then 13 else bif !iG (i64.wrap (i64.wrap (18*a)+24),65536,[x.2.2.1])then 14 else 0
def Ed(k:(Int×Int×Int×Int×Nat×Nat×Nat×List (ey)))(x:(ny)):Prop:=(0:Int)<=x.2
def DH(k:Int×Int×Int×Int×Nat×Nat×Nat×List (ey))(x:ny):=(k.2.2.2.2.2.2.2.length-x.2).toNat
def D8(k:Int×Int×Int×Int×Nat×Nat×Nat×List (ey))(x:ny):an (Int×Int×Int×Int×Nat×Nat×Nat×List (ey)) (ny) Int:=letI a:=k.2.2.2.2.2.2.2;bif x.2<a.length then .next k (x.1&&Fi (k,aa a x.2),i64.wrap (x.2+1))else .brk k x
def LX k x:=endOf D8 k (Nat.succ (DH k x)) x
def mP(x:Int×Int×Int×Int×Nat×Nat×Nat×List (ey)):Int:=letI b:=x.2.2.2.2;letI a:=FloatKind.f64.format.order b.2.2.1 9218868437227405311;letI c:=b.2.2.2.length;bif !jH (x.1,2,32)then 10 else bif !jH (c,1,8)then 11 else bif !(LX x (jH (x.2.1,1,16)&&jH (x.2.2.2.1,1,10000),0)).1 then 12 else bif !(FloatKind.f64.format.order 0 b.1==some Ordering.lt&&FloatKind.f64.format.order b.1 b.2.1==some Ordering.lt&&FloatKind.f64.format.order b.2.1 b.2.2.1==some Ordering.lt&&(a==some Ordering.lt||a==some Ordering.eq))then 13 else bif !jH (x.2.2.1,i64.wrap (i64.wrap (18*c)+24),65536)then 14 else 0
def Fe(z:List (Nat×List Nat)):=Kg Tb z
def MF:Ct:=⟨aD,[some 8],bX,ah.one none,none,none,ca⟩
def Mw:Ct:=⟨aD,[some 8],bX,ah.one none,none,none,mP⟩
def VW:LS bX.den:=aH (Ty.pair MZ (Ty.pair ae aD)) (Ty.pair aw ae) [(28,none),(29,none)] [(1,8)] [(3,none),(30,none)] [] [] [] [(1,1)] 0 false D6 DB D0
theorem alv:bF f29 MF [0] VW:=have E:=ai @D6.eq_1<|ai @D0.eq_1 @DB.eq_1;lA (Fe []) [] l0 (λk x fk fx h=>sm (decide (x.2<k.2.1)=true->0<=x.2/\x.2<k.1.length))
theorem asK:ar 29 MF:=have E:= @D6.eq_1;au (Fe []) func29 [(7,VW)] (lc alv l0) (λx fx _=>sl (letI b:=x.2.2.2.2.2.2.2;letI a:=b.length;(!iG (2,32,[x.1]))=false->(!iG (1,8,[a]))=false->D6 (b,a,x) (iG (1,16,[x.2.1])&&iG (1,10000,[x.2.2.2.1]),0)))
def UT:LS bX.den:=aH aD (Ty.pair aw ae) [] [(1,8)] [(3,none),(4,none)] [] [] [] [(1,1)] 0 false Ed D8 DH
theorem al6:bF f79 Mw [0] UT:=have E:=ai @Ed.eq_1<|ai @DH.eq_1 @D8.eq_1;lA (Fe []) [] l0 (λk x fk fx h=>sm (letI a:=k.2.2.2.2.2.2.2.length;decide (x.2<a)=true->x.1=true->0<=x.2/\x.2<a))
theorem asQ:ar 79 Mw:=have E:= @Ed.eq_1;au (Fe []) func79 [(7,UT)] (lc al6 l0) (λx fx _=>sl ((!jH (x.1,2,32))=false->(!jH (x.2.2.2.2.2.2.2.length,1,8))=false->Ed x (jH (x.2.1,1,16)&&jH (x.2.2.2.1,1,10000),0)))
def aa1:=(29,MF)::(79,Mw)::aaY
theorem RL:cu aa1:=gc asK func29 (gc asQ func79 (Tb))
section
section
variable {K X ρ:Type} {step:K->X->an K X ρ} {k:K}
theorem ret_none(I:X->Prop)(h: ∀x,I x->match step k x with| .next _ y=>I y| .brk _ _=>True| .ret _=>False): ∀(n:Nat) (x:X),I x->bj step k n x=none
 |0,_,_=>rfl
 |n+1,x,a=>by
  have:=h x a;simp only[bj];cases hs:step k x with
  |next k' y=>rw[hs]at this;exact ret_none I h n _ this
  |brk k' y=>rfl
  |ret r=>simp_all
theorem ajG(s:Nat->X)(n:Nat)(h: ∀i,i<n-> ∃k',step k (s i)= .next k' (s (i+1))): ∀(i fuel:Nat),i<=n->
  endOf step k (fuel+(n-i)) (s i)=endOf step k fuel (s n)/\bj step k (fuel+(n-i)) (s i)=bj step k fuel (s n):=by
 intro i fuel hi;induction a:n-i generalizing i with
 |zero=>grind
 |succ d f=>
  obtain⟨k',h1⟩:=h i (by omega);grind [endOf,bj]
theorem lh(s:Nat->X)(n:Nat)(h: ∀i,i<n-> ∃k',step k (s i)= .next k' (s (i+1))){k':K}{y:X}(hb:step k (s n)= .brk k' y){fuel:Nat}(a:n<fuel):
  endOf step k fuel (s 0)=y/\bj step k fuel (s 0)=none:=by
 have:=ajG s n h 0 (fuel-n) (by omega);rw[show fuel-n+(n-0)=fuel by omega]at this;rw[this.1,this.2,show fuel-n=(fuel-n-1)+1 by omega];simp_all [endOf,bj]
theorem ret_row(s:Nat->X)(f:Nat->Option ρ)(n:Nat)(h: ∀i,i<n->match f i with|some r=>step k (s i)= .ret r|none=> ∃k',step k (s i)= .next k' (s (i+1)))
  {k':K} {y:X} (hb:step k (s n)= .brk k' y): ∀{fuel:Nat},n<fuel->bj step k fuel (s 0)=(List.range n).findSome? f:=by
 have key: ∀d i fuel,n-i=d->i<=n->d<fuel->bj step k fuel (s i)=(List.range' i d).findSome? f:=by
  intro d;induction d with
  |zero=>
   intro i fuel a hi j;have:i=n:=by omega
   obtain⟨g,rfl⟩: ∃g,fuel=g+1:=⟨fuel-1,by omega⟩
   simp_all [bj]
  |succ d l=>
   intro i fuel a hi j;obtain⟨g,rfl⟩: ∃g,fuel=g+1:=⟨fuel-1,by omega⟩
   grind [bj,List.range'_succ]
 simp_all [aAl]
theorem na(I:X->Prop)(mu:X->Nat)(Q:Option ρ->X->Prop)
  (h: ∀x,I x->match step k x with| .next _ y=>I y/\mu y<mu x| .brk _ y=>Q none y| .ret r=>Q (some r) x): ∀(n:Nat) (x:X),I x->mu x<n->Q (bj step k n x) (endOf step k n x)
 |0,_,_,a=>by omega
 |n+1,x,f,a=>by
  have:=h x f;simp only[bj,endOf];cases hs:step k x with
  |next k' y=>rw[hs]at this;exact na I mu Q h n _ this.1 (by omega)
  |brk k' y=>simp_all
  |ret r=>simp_all
theorem loop_sim{g X':Type}{f:g->X'->an g X' ρ}{k':g}(I:X->X'->Prop)
  (h: ∀x a,I x a->match step k x,f k' a with| .next _ y,.next _ i=>I y i| .brk _ y,.brk _ i=>I y i| .ret r,.ret l=>r=l|_,_=>False):
  ∀(n:Nat) (x:X) (a:X'),I x a->I (endOf step k n x) (endOf f k' n a)/\bj step k n x=bj f k' n a
 |0,_,_,j=>⟨j,rfl⟩
 |n+1,x,a,j=>by
  have:=h x a j;simp only[bj,endOf];cases hs:step k x<;>cases hs':f k' a<;>rw[hs,hs']at this
  ·exact loop_sim I h n _ _ this
  all_goals simp_all
theorem agH{α β:Type}{step:K->β×Int->an K (β×Int) ρ}(l:List α)(f:β->α->β)(hl:l.length<=maxLen)
  (h: ∀m (i:Nat) (hi:i<l.length),∃k',step k (m,i)= .next k' (f m l[i],i64.wrap (i+1)))
  (hb: ∀m,∃k',step k (m,l.length)= .brk k' (m,l.length)) (m0:β) {fuel:Nat} (a:l.length<fuel):
  endOf step k fuel (m0,0)=(l.foldl f m0,(l.length:Int))/\bj step k fuel (m0,0)=none:=by
 have hs: ∀i,i<l.length-> ∃k',step k ((λi:Nat=>((l.take i).foldl f m0,(i:Int))) i)= .next k' ((λi:Nat=>((l.take i).foldl f m0,(i:Int))) (i+1)):=by
  intro i hi;obtain⟨k',h1⟩:=h ((l.take i).foldl f m0) i hi;grind [maxLen,IntKind.wrap_i64,List.take_add_one]
 obtain⟨k',g⟩:=hb (l.foldl f m0);have h0:=lh _ l.length hs (k':=k') (y:=(l.foldl f m0,l.length)) (by simp_all) a;simp_all
theorem bH{α:Type} [Inhabited α](l:List α)(i:Nat)(h:i<l.length):aa l i=l[i]:=by
 simp_all [aa]
theorem Uf{α:Type} [Inhabited α](l:List α)(i:Int)(h0:0<=i)(h:i<l.length):aa l i=l[i.toNat]'(by omega):=by
 simp_all [aa]
theorem NP{α:Type} [Inhabited α](l:List α)(g:α->Option ρ):(List.range l.length).findSome? (λ(i:Nat)=>g (aa l i))=l.findSome? g:=by
 have:(List.range l.length).map (λ(i:Nat)=>aa l i)=l:=by
  apply ay6;all_goals simp_all [bH]
 calc _=((List.range l.length).map (λ(i:Nat)=>aa l i)).findSome? g:=by rw[List.findSome?_map];rfl
  _=_:=by simp_all
theorem HP{α β:Type}(f:α->β)(d:β):dJ none f d=d:=rfl
theorem HK{α β:Type}(r:α)(f:α->β)(d:β):dJ (some r) f d=f r:=rfl
theorem GL{α:Type}(l:List α)(p:α->Bool):dJ (l.findSome? (λn=>if p n then none else some false)) (λy=>y) true=l.all p:=by
 induction l with
 |nil=>rfl
 |cons a l f=>
  grind [dJ]
end
theorem pQ{i n:Nat}(hi:i<n)(a:n<=maxLen):i64.wrap (i+1)=((i+1:Nat):Int):=by
 grind [maxLen,IntKind.wrap_i64]
section
variable {K ρ:Type} {k:K}
theorem T6{α:Type} [Inhabited α]{step:K->ny->an K (ny) ρ}(l:List α)(p:α->Bool)(hl:l.length<=maxLen)
  (h: ∀b i,step k (b,i)=bif decide (i<(l.length:Int))then .next k (b&&p (aa l i),i64.wrap (i+1))else .brk k (b,i)) (a:Bool) {fuel:Nat} (f:l.length<fuel):
  (endOf step k fuel (a,0)).1=(a&&l.all p):=by
 have hs: ∀i,i<l.length-> ∃k',step k ((λi:Nat=>(a&&(l.take i).all p,(i:Int))) i)= .next k' ((λi:Nat=>(a&&(l.take i).all p,(i:Int))) (i+1)):=by
  intro i hi;refine⟨k,?_⟩;simp only[h];have h1:decide ((i:Int)<(l.length:Int))=true:=by simp;omega
  have h2:(l.take (i+1)).all p=((l.take i).all p&&p l[i]):=by rw[ay0,avc hi,List.all_append];simp only[Option.toList_some,List.all_cons,List.all_nil,az2]
  rw[h1,pQ hi hl,bH l i hi,h2];simp[Bool.and_assoc]
 have hb:step k ((λi:Nat=>(a&&(l.take i).all p,(i:Int))) l.length)= .brk k (a&&l.all p,(l.length:Int)):=by
  simp only[h];have h1:decide ((l.length:Int)<(l.length:Int))=false:=by simp
  rw[h1];simp
 have:=(lh _ l.length hs hb f).1;simp only[ay8,List.all_nil,az2,Int.ofNat_zero]at this;have h3:endOf step k fuel (a,0)=(a&&l.all p,(l.length:Int)):=this;rw[h3]
end
end
theorem O3(lo hi:Int)(l:List Int)(hl:l.length<=maxLen):iG (lo,hi,l)=l.all λn=>decide (lo<=n)&&decide (n<=hi):=by
 unfold iG;rw[<- GL];congr 1
 simp only[aaq];rw[<- NP l];have:=ret_row (step:=sB) (k:=(lo,hi,l,l.length)) (λi=>i) (λi=>(λn=>if(decide (lo<=n)&&decide (n<=hi))=true then none else some false) (aa l i)) l.length (λi a=> ?_) (k':=(lo,hi,l,l.length)) (y:=l.length) ?_ (fuel:=Nat.succ (zC (lo,hi,l,l.length) 0)) ?_
 ·omega
 ·simp only[maxLen]at hl
  by_cases h:(decide (lo<=aa l i)&&decide (aa l i<=hi))=true
  ·simp only[h]
   simp only[au0,adv]at h;have h1: ¬ aa l i<lo:=by omega
   have h2: ¬ aa l i>hi:=by omega
   have h3:i64.wrap (i+1)=((i+1:Nat):Int):=by rw[avf];omega
   simp[sB,a,h1,h2,h3]
  ·simp only[h]
   simp only[au0,adv]at h;have h1:aa l i<lo\/aa l i>hi:=by omega
   have h2:(decide (aa l i<lo)||decide (aa l i>hi))=true:=by simpa using h1
   simp only[sB];have h3:decide ((i:Int)<l.length)=true:=by simp;omega
   rw[h3,h2];rfl
 ·simp[sB]
 ·simp[zC]
theorem xA(lo hi n:Int):iG (lo,hi,[n])=(decide (lo<=n)&&decide (n<=hi)):=by
 grind [maxLen,O3]
abbrev gE:=ey
abbrev ab:=Int×Int×Int×Int×Nat×Nat×Nat×List gE
abbrev ab.aL(b:ab):List gE:=b.2.2.2.2.2.2.2
def fW(n:Int):Bool:=decide (1<=n)&&decide (n<=10000)
def ez(fl:Int)(c:gE):Bool:=
 fW c.1&&fW c.2.1&&fW c.2.2.1&&fW c.2.2.2.2.1&&fW c.2.2.2.2.2.1&&fW c.2.2.2.2.2.2.1&&fW c.2.2.2.2.2.2.2.1&&(decide (0<=c.2.2.2.1)&&decide (c.2.2.2.1<=10000))&&
  decide (c.2.2.2.2.2.2.2.1>=c.2.2.2.2.2.2.1)&&(decide (0<=c.2.2.2.2.2.2.2.2)&&decide (c.2.2.2.2.2.2.2.2<=fl-1))
def pY(b:ab):Bool:=Gn b
def tQ(b:ab):Int:=
 if¬ (2<=b.1/\b.1<=32)then 10
 else if¬ (1<=b.aL.length/\b.aL.length<=8)then 11
 else if((decide (1<=b.2.1)&&decide (b.2.1<=16))&&(decide (1<=b.2.2.2.1)&&decide (b.2.2.2.1<=10000))&&b.aL.all (ez b.1))=false then 12
 else if pY b=false then 13
 else if¬ (18*b.aL.length+24<=b.2.2.1/\b.2.2.1<=65536)then 14
 else 0
theorem EP(n lo hi:Int):jH (n,lo,hi)=(decide (lo<=n)&&decide (n<=hi)):=rfl
theorem ag3(c:gE)(fl:Int)(h:2<=fl/\fl<=32):Gl (c,fl)=ez fl c:=by
 unfold Gl ez fW;rw[O3 _ _ _ (by simp[maxLen]),xA,xA,aA (by omega) (by omega)];grind
theorem afX(b:ab)(c:gE)(h:2<=b.1/\b.1<=32):Fi (b,c)=ez b.1 c:=by
 unfold Fi;simp only[EP];rw[aA (x:=b.1-1) (by omega) (by omega)];by_cases hs:c.2.2.2.1<0\/c.2.2.2.1>10000
 ·grind [decide,ez]
 ·have h1:(decide (c.2.2.2.1<0)||decide (c.2.2.2.1>10000))=false:=by simpa using hs
  have h2:(decide (0<=c.2.2.2.1)&&decide (c.2.2.2.1<=10000))=true:=by
   simp only[au0,adv];omega
  rw[h1];simp only[aur];let l:= [c.1,c.2.1,c.2.2.1,c.2.2.2.2.1,c.2.2.2.2.2.1,c.2.2.2.2.2.2.1,c.2.2.2.2.2.2.2.1]
  have f:KM (l++ [i64.wrap (c.2.2.2.1+1)]) 0=l.findSome? (λn=>if fW n then none else some false):=by
   have:=ret_row (step:=uK) (k:=l++ [i64.wrap (c.2.2.2.1+1)]) (λi=>i) (λi=>(λn=>if fW n then none else some false) (aa l i)) 7 (λi hi=> ?_) (k':=l++ [i64.wrap (c.2.2.2.1+1)]) (y:=7) ?_ (fuel:=Nat.succ (yx (l++ [i64.wrap (c.2.2.2.1+1)]) 0)) ?_
   ·exact this
   ·have g:aa (l++ [i64.wrap (c.2.2.2.1+1)]) i=aa l i:=by
     rw[bH _ i (by simp[l];omega),bH l i (by simpa[l]using hi),ax8]
    have h3:decide ((i:Int)<7)=true:=by simp;omega
    simp only[uK,g,h3,auw,EP];have h4:(decide (1<=aa l i)&&decide (aa l i<=10000))=fW (aa l i):=rfl;rw[h4,pQ hi (by simp[maxLen])];cases fW (aa l i)with
    |true=>exact⟨_,rfl⟩
    |false=>rfl
   ·simp[uK]
   ·simp[yx]
  have j:KM [c.1,c.2.1,c.2.2.1,c.2.2.2.2.1,c.2.2.2.2.2.1,c.2.2.2.2.2.2.1,c.2.2.2.2.2.2.2.1,i64.wrap (c.2.2.2.1+1)] 0=l.findSome? (λn=>if fW n then none else some false):=f;rw[j];have h5:=GL l fW;have h6: ∀d:Bool,dJ (l.findSome? (λn=>if fW n then none else some false)) (λy=>y) d=(l.all fW&&d):=by
   intro d;cases hq:l.findSome? (λn=>if fW n then none else some false)with
   |none=>
    rw[hq,HP]at h5;rw[HP,<- h5];rfl
   |some r=>
    rw[hq,HK]at h5;rw[HK];have:r=false:=by
     obtain⟨x,_,a⟩:=az6 hq;split at a
     ·cases a
     ·simpa using a.symm
    rw[<- h5,this];rfl
  rw[h6];unfold ez;rw[h2];simp only[l,List.all_cons,List.all_nil,az2,Bool.and_assoc]
theorem kB(b:ab)(hl:b.aL.length<=maxLen):ca b=tQ b:=by
 unfold ca tQ;simp only[xA];by_cases h1:2<=b.1/\b.1<=32
 ·have f:(!(decide (2<=b.1)&&decide (b.1<=32)))=false:=by simp_all
  rw[f,au6 (by simpa using h1)];simp only[aur];by_cases h2:1<=b.aL.length/\b.aL.length<=8
  ·have g:(!(decide ((1:Int)<=b.aL.length)&&decide ((b.aL.length:Int)<=8)))=false:=by simp;omega
   rw[g,au6 (by simpa using h2)];simp only[aur];have h: ∀a:Bool,(LP (b.aL,b.aL.length,b) (a,0)).1=(a&&b.aL.all (ez b.1)):=by
    intro a;unfold LP;refine T6 b.aL (ez b.1) hl (λj i=> ?_) a (by simp[D0]);simp only[DB,ag3 _ _ h1]
   rw[h];rw[aA (x:=18*b.aL.length) (by omega) (by omega),aA (by omega) (by omega)];cases h3:((decide (1<=b.2.1)&&decide (b.2.1<=16))&&(decide (1<=b.2.2.2.1)&&decide (b.2.2.2.1<=10000))&&b.aL.all (ez b.1))with
   |false=>rfl
   |true=>
    simp only[avw,aur,azd,azj];show(bif !pY b then _ else _)=_;cases h4:pY b with
    |false=>rfl
    |true=>
     simp only[avw,aur,azd,azj];by_cases h5:18*b.aL.length+24<=b.2.2.1/\b.2.2.1<=65536
     ·rw[au6 (by simpa using h5)];simp[h5]
     ·rw[ava h5]
      have:(decide (18*b.aL.length+24<=b.2.2.1)&&decide (b.2.2.1<=65536))=false:=by
       simp only[avz,aut];omega
      rw[this];rfl
  ·have g:(!(decide ((1:Int)<=b.aL.length)&&decide ((b.aL.length:Int)<=8)))=true:=by
    simp only[avm,avz,aut];omega
   rw[g,ava h2];rfl
 ·have f:(!(decide (2<=b.1)&&decide (b.1<=32)))=true:=by
   simp only[avm,avz,aut];omega
  rw[f,ava h1];rfl
theorem PD(b:ab)(hl:b.aL.length<=maxLen):mP b=tQ b:=by
 unfold mP tQ;simp only[EP];by_cases h1:2<=b.1/\b.1<=32
 ·have f:(!(decide (2<=b.1)&&decide (b.1<=32)))=false:=by simp[h1]
  rw[f,au6 (by simpa using h1)];simp only[aur];by_cases h2:1<=b.aL.length/\b.aL.length<=8
  ·have g:(!(decide ((1:Int)<=(b.aL.length:Int))&&decide ((b.aL.length:Int)<=8)))=false:=by simp;omega
   rw[g,au6 (by simpa using h2)];simp only[aur];have h: ∀a:Bool,(LX b (a,0)).1=(a&&b.aL.all (ez b.1)):=by
    intro a;unfold LX;refine T6 b.aL (ez b.1) hl (λj i=> ?_) a (by simp[DH]);simp only[D8,afX _ _ h1]
   rw[h];rw[aA (x:=18*(b.aL.length:Int)) (by omega) (by omega),aA (by omega) (by omega)];cases h3:((decide (1<=b.2.1)&&decide (b.2.1<=16))&&(decide (1<=b.2.2.2.1)&&decide (b.2.2.2.1<=10000))&&b.aL.all (ez b.1))with
   |false=>rfl
   |true=>
    simp only[avw,aur,azd,azj];show(bif !pY b then _ else _)=_;cases h4:pY b with
    |false=>rfl
    |true=>
     simp only[avw,aur,azd,azj];by_cases h5:18*(b.aL.length:Int)+24<=b.2.2.1/\b.2.2.1<=65536
     ·rw[au6 (by simpa using h5)];simp[h5]
     ·rw[ava h5]
      have:(decide (18*(b.aL.length:Int)+24<=b.2.2.1)&&decide (b.2.2.1<=65536))=false:=by
       simp only[avz,aut];omega
      rw[this];rfl
  ·have g:(!(decide ((1:Int)<=(b.aL.length:Int))&&decide ((b.aL.length:Int)<=8)))=true:=by
    simp only[avm,avz,aut];omega
   rw[g,ava h2];rfl
 ·have f:(!(decide (2<=b.1)&&decide (b.1<=32)))=true:=by
   simp only[avm,avz,aut];omega
  rw[f,ava h1];rfl
structure aK (b:ab):Prop where
 fl:2<=b.1/\b.1<=32
 cn:1<=b.aL.length/\b.aL.length<=8
 GB:1<=b.2.1/\b.2.1<=16
 Ms:1<=b.2.2.2.1/\b.2.2.2.1<=10000
 eU: ∀c∈b.aL,ez b.1 c=true
 Ew:pY b=true
 room:18*(b.aL.length:Int)+24<=b.2.2.1/\b.2.2.1<=65536
theorem jS(b:ab):tQ b=0↔aK b:=by
 unfold tQ;constructor
 ·intro h
  split at h
  ·cases h
  ·split at h
   ·cases h
   ·split at h
    ·cases h
    ·rename_i h3
     split at h
     ·cases h
     ·rename_i h4
      split at h
      ·cases h
      ·simp only[aye,au0,adv,azq]at h3
       exact⟨by omega,by omega,h3.1.1,h3.1.2,h3.2,by simpa using h4,by omega⟩
 ·intro h
  rw[au6 (by simpa using h.fl),au6 (by simpa using h.cn),au6,au6 (by simp[h.Ew]),au6 (by simpa using h.room)];simp only[aye,au0,adv,azq];exact⟨⟨h.GB,h.Ms⟩,h.eU⟩
theorem Iy{b:ab}(h:Fit aD b):b.aL.length<=maxLen:=h.2.2.2.2.2.2.2.1
theorem oD{b:ab}(hl:b.aL.length<=maxLen)(h:ca b=0):aK b:=(jS b).1 (by simp_all [kB])
def ud(fl:Int)(i:Nat):gE:=(100,2,6,5,4,2,3,10,i % fl)
def lr(fl:Int)(n:Nat):ab:=(fl,1,4000,30,4591870180066957722,4605380978949069210,4607632778762754458,(List.range n).map (ud fl))
theorem PO(fl:Int)(n:Nat)(h0:1<=fl)(a:n<=100):FW (fl,n)=lr fl n:=by
 have hs: ∀i,i<n-> ∃k',rY (fl,n) ((λi:Nat=>((i:Int),lr fl i)) i)= .next k' ((λi:Nat=>((i:Int),lr fl i)) (i+1)):=by
  intro i hi;refine⟨(fl,n),?_⟩;have h1:decide (i<(n:Int))=true:=by simp_all
  simp only[rY,lr,h1,auw,pQ hi (show n<=maxLen by grind [maxLen]),axt,ayl,axm,List.map_nil,ud,
   avq (auz i)]
 have hb:rY (fl,n) ((λi:Nat=>((i:Int),lr fl i)) n)= .brk (fl,n) (n,lr fl n):=by
  simp[rY]
 have:=(lh _ n hs hb (fuel:=Nat.succ (yS (fl,n) (0,lr fl 0))) (by simp[yS])).1;exact av2 Prod.snd this
theorem adX(fl:Int)(n:Nat):(lr fl n).aL=(List.range n).map (ud fl):=rfl
theorem aeA(fl:Int)(n:Nat):(lr fl n).aL.length=n:=by simp[adX]
def fY:Value:= .iface 307 (.agg #[])
def jA(x:Bool):Bool×(Unit×Unit):=(!x,((),()))
def ZK:Cp:={ p:= .bool,ax:= [none],mask:= [false],sz:= [],ro:=false,ex:=true,q:= .unit,r:= .unit,ao:=ah.none,pre:=none,F:=λx=>(jA x).2,pn:=some λx=>(jA x).1,pv:=fY}
theorem aeO(x:Bool)(w:World):Calls prog 164 #[.bool x] w λe w'=>w'=w/\e=if x then .returned (.tuple #[])else .panicked [{ v:=fY,recovered:=false}]:=by
 cases x with
 |true=>
  go_wp2
  exact⟨rfl,.tuple #[],(by simp_all [results]),rfl,rfl⟩
 |false=>
  go_wp2
  exact⟨rfl,rfl,rfl⟩
theorem ars:ki prog bC 164 ZK:=by
 intro x w X args cv pc bs hH hX m f o g a h;obtain⟨l⟩:=args;match l,f with
 | [v],_=>
  have i:bs= []/\pc= []:=by
   cases bs with
   |nil=>exact⟨rfl,a⟩
   |cons b bs=>exact a.elim
  obtain⟨rfl,rfl⟩:=i;obtain⟨cs',rfl,h2⟩:=g;have j:=h.1;subst j;refine(aeO x w).mono λe w' ⟨h1,h2⟩=> ?_
  subst h1 h2;cases x with
  |true=>exact .inl ⟨rfl,_,rfl,⟨rfl,rfl,rfl,au2 _,λ_ _ _=>rfl,λ_ _=>rfl,λ_ _ _=>rfl⟩,⟨[],rfl,(λT k=>by cases k),rfl⟩,[],rfl,rfl⟩
  |false=>exact .inr ⟨rfl,rfl,⟨rfl,rfl,rfl,au2 _,λ_ _ _=>rfl,λ_ _=>rfl,λ_ _ _=>rfl⟩,[],rfl,rfl⟩
def aaE:List (Nat×Cp):= [(164,ZK)]
theorem agO:ia aaE:=Pm ars ⟨_,func164,by kernel_rfl,by kernel_rfl⟩ QJ
theorem aea(p:Addr)(w:World):
  CallsD prog 161 #[.pointer (some p)] .returning w λe a w'=>e= .returned (.tuple #[])/\a= .returning/\w'=w:=by
 refine callsD_of_wpS func161 rfl λf cs g=> ?_
 apply wpS_seq;apply wpS_region;simp[wpOpsS,go_sem,recoverD,g,Exit.thenS];apply wpS_seq;refine wpS_of_wp ?_;go_wp2
 refine wpS_cond (t:=false) (by simp[Act.eval]) ?_;refine wpS_of_wp ?_;go_wp2
 cases f;simp_all [bodyPostS,results,f161]
theorem agN: ∀w,(Instr.typeAssert (.iface 307 (.agg #[])) 20 307 true).run prog w= .ok (.tuple #[.agg #[],.bool true]) w:=by
 unfold Instr.typeAssert underlying;simp_all
theorem aeq(b:Nat)(a:Value)(T:TypeId)(w:World)(hb:w.heap[b]? =some (.cells #[a] T (0,0))):
  CallsD prog 161 #[.pointer (some ⟨b,0,none⟩)] (.panicking [{ v:=fY,recovered:=false}]) w λe g w'=>e= .returned (.tuple #[])/\g= .panicking [{ v:=fY,recovered:=true}]/\w'=(w.setCell ⟨b,0,none⟩ (.int .i64 31)).alloc (Obj.cells #[] 307):=by
 have h:=(Array.getElem?_eq_some_iff.1 hb).1;have f:(w.alloc (Obj.cells #[] 307)).heap[b]? =some (.cells #[a] T (0,0)):=(axx w _ b h).trans hb;have j:(w.alloc (Obj.cells #[] 307)).cell? ⟨b,0,none⟩=some a:=by rw[m1 f];rfl
 have k:(w.alloc (Obj.cells #[] 307)).frozen? ⟨b,0,none⟩=false:=by
  simp only[World.frozen?,f];simp
 refine callsD_of_wpS func161 rfl λl cs i=> ?_
 apply wpS_seq;apply wpS_region;simp[wpOpsS,go_sem,recoverD,i,Exit.thenS,fY];refine Eq.mp (av2 (λt=>Code.wpS _ _ _ { tmps:=t,defers:= []} _ _) (show #[.pointer (some ⟨b,0,none⟩),undef,(.iface 307 (.agg #[])),undef,undef,(.iface 307 (.agg #[])),undef,undef,undef,undef,undef,undef,undef,undef,undef,undef,undef,undef]=_ from rfl)) ?_;apply wpS_seq;refine wpS_of_wp ?_;go_wp2
 refine wpS_cond (t:=true) (by simp[Act.eval]) ?_;refine wpS_of_wp ?_;go_wp2
 rw[agN];go_wp2
 simp_all [bodyPostS,results,f161,Exit.thenS]
theorem ajJ:Jm prog 161 fY 31 where
 fn:=⟨_,func161,by kernel_rfl,by kernel_rfl⟩
 idle:=aea
 dL:=λb a T w hb=>(aeq b a T w hb).mono λe f w' ⟨h1,h2,h3⟩=>⟨h1,h2,.cells #[] 307,by rw[h3,setCell_eq_setRow w b 0 #[a] T (0,0) _ hb];rfl⟩
section
def evRetM(C:Ctx)(fn:Func)(q:Ty)(x:Ex)(st:ASt):Tr Unit (Option q.den×Int):=match x with
 | .exit _=> .bad
 | .dL _=> .bad
 |_=>match fn.results.toList with
  | [.tmp t1,.tmp t2]=>match opndc st [] none (.tmp t1),opndc st [] none (.tmp t2)with
   |some .FL,some (.int .i64 n)=> .ret (none,n)
   |some (.box k 0),some (.int .i64 n)=>match st.box k with
    |some (.cells cs)=>match gh true st cs with
     |some cs'=>match dec q cs' with|some y=> .bQ (n=0) (.ret (some y,0))|none=> .bad
     |none=> .bad
    |_=> .bad
   |_,_=> .bad
  |_=> .bad
def tU(ax:List (Option Nat)):List Bool:=ax.map λ_=>false
def vR(C:Ctx)(fn:Func)(p:Ty)(ax:List (Option Nat))(q:Ty)(L:Nat->Option (LS Unit))(x:p.den):Tr Unit (Option q.den×Int):=
 match fn.body with
 |some c=>nJ C fn p ax (tU ax) [] false false L c c (evRetM C fn q) x
 |none=> .bad
section
variable {φ:Fr} {ν ν':Nat->Bool} {m:Map} {st:ASt} {a:Act} {w w':World} {own:List (bS)} {W:List Nat} {P:Program} {C:Ctx} {o:Oper} {e:Eff}
 {K:Act->World->Prop}
theorem GH: ∀{f:List (Option Nat)} {vs cs:List Value},ec f vs cs->vs.length=f.length
 | [],[],_,_=>rfl
 |none::s,v::vs,cs,h=>by obtain⟨_,_,h⟩:=h;simp[GH h]
 |some n::s,v::vs,cs,h=>by obtain⟨_,_,_,_,_,h⟩:=h;simp[GH h]
 | [],_::_,_,h=>h.elim
 |none::_,[],_,h=>h.elim
 |some _::_,[],_,h=>h.elim
theorem QW{α:Type}: ∀{ax:List (Option Nat)} {l:List α},l.length=ax.length->eV (tU ax) l=l/\fj (tU ax) l= []
 | [],[],_=>⟨rfl,rfl⟩
 |s::ax,x::l,h=>by
  obtain⟨h1,h2⟩:=QW (ax:=ax) (l:=l) (by simp_all);exact⟨by simp_all [eV,tU],h2⟩
 | [],_::_,h=>by simp_all
 |_::_,[],h=>by simp_all
theorem amC(hC:dr P C){f:FuncId}{fn:Func}(hf:P.funcs[f]? =some fn){cm:Cm}{L:Nat->Option (LS Unit)}{c:Code}(hb:fn.body=some c){dflt:Option cm.q.den×Int}
  (hL: ∀body∈loopsIn c,∀s,L (cP body)=some s->cG P C.G (λ_ _ _ _ (_:Unit) _ _=>False) body s)
  (a6: ∀x,Fit cm.p x->(∀q,cm.pre=some q->q x)->(vR C fn cm.p cm.ax cm.q L x).safe)
  (a7: ∀x,(vR C fn cm.p cm.ax cm.q L x).val (λ_=>dflt) dflt=cm.F x):M0 P C.G f cm:=by
 intro x w X args cs hH hX a9 b0 b3;have A:=ku (rt:=λ_=>dflt) (d:=dflt) (a6 x (lz b3) a9);rw[a7]at A;unfold vR at A;rw[hb]at A;have b4:=GH b0;obtain⟨I,J⟩:=QW (ax:=cm.ax) (l:=args.toList) b4;let cp:Cp:={ p:=cm.p,ax:=cm.ax,mask:=tU cm.ax,sz:= [],ro:=false,ex:=false,q:= .unit,r:= .unit,ao:= .none,pre:=none,F:=λ_=>((),())}
 refine aBf hf hb (C5 (cp:=cp) (bs:= []) (pc:= []) (cv:=cs) hC (λd h=>h) (λe n O O' X X' r a w hO h hr=>hr) hL hH hX (by grind [tU]) aA5
  (by grind) (by grind [gr,fj,tU]) (by grind [aE,eD,enc,HQ,ja])
  A (λφ u N e b5 t w' Q j d7 g=> ?_) (λφ u N e he r t w' hp hr Y hd=>hr.elim))
 have Z:Below w.heap.size w w':=by
  have h1:=u.below w' j.lD;exact⟨h1.os,h1.tape,h1.output,h1.size,λk Y=>h1.block k Y (by simp_all)⟩
 have key: ∀e:Ex,(∀id,e≠ .exit id)->(∀v,e≠ .dL v)->(evRetM C fn cm.q e b5).dp (λ_=>dflt) (λr=>r=cm.F x)->bodyPost P fn (λe w'=>Below w.heap.size w w'/\match(cm.F x).1 with
   |some y=> ∃(b:Nat) (us:Array Value) (T:TypeId),e= .returned (.tuple #[.pointer (some ⟨b,0,none⟩),.int .i64 0])/\w.heap.size<=b/\w'.heap[b]? =some (.cells us T (0,0))/\TR w' (λM q=>X M q\/M=b) cm.q y us.toList
   |none=>e= .returned (.tuple #[.pointer none,.int .i64 (cm.F x).2])) .ret t w':=by
  intro e h1 h2 g;unfold evRetM at g;split at g
  ·exact g.elim
  ·exact g.elim
  split at g;case h_2=>exact g.elim
  rename_i t1 t2 b6;have h8:(results fn t.tmps).run P w'= .ok (.tuple #[t.tmps.getD t1 undef,t.tmps.getD t2 undef]) w':=by
   unfold results;rw[auy,ax4,b6];rfl
  split at g
  ·rename_i n S U
   have I:t.tmps.getD t1 undef= .pointer none:=bo j (λx i=>by cases i) S;have J:t.tmps.getD t2 undef= .int .i64 n:=bo j (λx i=>by cases i) U;have z:(none,n)=cm.F x:=g;refine⟨j.defers.trans N,_,h8,Z,?_⟩;rw[<- z,I,J]
  ·rename_i k n S U
   split at g;case h_2=>exact g.elim
   rename_i e2 h9;split at g;case h_2=>exact g.elim
   rename_i cs' b7;split at g;case h_2=>exact g.elim
   rename_i y hy;obtain⟨rfl,z⟩:=g;have z:(some y,0)=cm.F x:=z;obtain⟨b,V,I⟩: ∃b,Q k=some (b,0)/\t.tmps.getD t1 undef= .pointer (some ⟨b,0,none⟩):=bo j (λx i=>by cases i) S
   have J:t.tmps.getD t2 undef= .int .i64 0:=bo j (λx i=>by cases i) U;obtain⟨b2,us,T,a1,hh,c9⟩:=j.box k _ h9;rw[V]at a1;cases a1;have a2:=qa j b7 c9 (ks:= []) (λh=>by cases h);have d0:Xc φ Q []=XA φ Q:=by funext b q;simp[Xc]
   rw[d0]at a2;refine⟨j.defers.trans N,_,h8,Z,?_⟩;rw[<- z,I,J];refine⟨b,us,T,rfl,?_,hh,(gZ hy a2).mono dM (λM q _ i=> ?_) _ _ _⟩
   ·rcases j.own k _ b 0 h9 rfl V rfl with h|h
    ·have:=u.B b h;cases this
    ·rw[u.w0]at h;exact h
   ·rcases i with i|rfl
    ·rcases u.x0 M q i with h|h
     ·cases h
     ·exact .inl h
    ·exact .inr ⟨k,0,V,rfl⟩
  ·exact g.elim
 cases e with
 |exit id=>exact g.elim
 |dL v=>exact g.elim
 |normal=>exact key .normal (λid h=>by cases h) (λv h=>by cases h) g
 |ret=>exact key .ret (λid h=>by cases h) (λv h=>by cases h) g
end
end
def ac2:List (Nat×Cp):=aaE
theorem Qr:ia ac2:=agO
def CQ(k:Int×ByteArray×ab)(x:af):Prop:=0<=x.2/\k.1<=8/\k.1<=k.2.1.size/\k.2.1.size<=1000000
def C9(k:(Int×ByteArray×ab))(x:(af)):Nat:=(k.1-x.2).toNat
def yP(k:Int×ByteArray×ab)(x:af):an (Int×ByteArray×ab) (af) Unit:=bif x.2<k.1 then .next k (u64.wrap ((BitVec.ofInt u64.bits x.1|||BitVec.ofInt u64.bits (u64.wrap (u64.wrap (aO k.2.1 x.2)*2^min (i64.wrap (8*x.2)).toNat u64.bits))).toNat),i64.wrap (x.2+1))else .brk k x
def alu k x:=endOf yP k (Nat.succ (C9 k x)) x
def fp(x:Int×ByteArray×ab):=((alu x (0,0)).1,ByteArray.extract x.2.1 (Int.toNat x.1) (Int.toNat x.2.1.size),x.2.2)
def kI(x:Int×ByteArray×ab):Prop:=0<=x.1/\x.1<=8/\x.1<=x.2.1.size/\x.2.1.size<=1000000
def dB(x:ab):=letI a:=u32.wrap (u32.wrap (1*2^min (i64.wrap (x.1-1)).toNat u32.bits)-1);bif ca x !=0 then(0,0)else(a,u32.wrap (a*2^min (1:Int).toNat u32.bits))
def Nh(z:List (Nat×List Nat)):=nC Qr dh RL z
def X8:Cp:=⟨Ty.pair ae dC,[none],[true,false],[9],false,false,dC,sS,ah.one none,some kI,fp,none,undef⟩
def YK:Ct:=⟨aD,[some 8],aS,ah.one (some 2),none,none,dB⟩
def RN:=aH (Ty.pair ae dC) (Ty.pair sS ae) [(7,none)] [(0,9)] [(5,none),(8,none)] [] [] [] [(0,0)] 0 false CQ yP C9
theorem akf:tM f167 [0] RN:=have E:=ai @CQ.eq_1<|ai @C9.eq_1 @yP.eq_1;lP (Nh []) [] l0 (λk x fk fx h=>sm (decide (x.2<k.1)=true->(0<=x.2/\x.2<k.2.1.size)/\0<=i64.wrap (8*x.2)))
theorem are:jP 167 X8:=have E:=ai @CQ.eq_1 @kI.eq_1;rj (Nh []) func167 [(3,RN)] (lc akf l0) (wV λx fx h=>sl (letI a:=(x.2.1.size:Int);CQ x (0,0)/\0<=x.1/\x.1<=a/\a<=a))
theorem arj:ar 156 YK:=au (Nh []) func156 [] l0 (λx fx _=>sf (letI a:=ca x !=0;(a=true->True)/\(a=false->0<=i64.wrap (x.1-1)/\0<=(1:Int)/\True)) (by
 refine⟨λ_=>trivial,λh=> ?_⟩;have hb:=oD (Iy fx) (by simpa using h);rw[aA (by have:=hb.fl;omega) (by have:=hb.fl;omega)];exact⟨by have:=hb.fl;omega,by omega,trivial⟩))
def acr:=(167,X8)::ac2
theorem P7:ia acr:=pc are func167 (Qr)
def abZ:=(156,YK)::aa1
theorem SQ:cu abZ:=gc arj func156 (RL)
def aY(x:Int×ByteArray×ab):=letI a:=fp (1,x.2);letI b:=i64.wrap a.1;bif(jA (b<=x.1)).1 then(true,0,a.2)else(false,b,a.2)
def jv(x:Int×ByteArray×ab):Prop:=1<=x.2.1.size/\x.2.1.size<=1000000
def aV(x:ByteArray×ab):=letI a:=fp (4,x);letI b:=u32.wrap a.1;bif(jA (Int.fdiv b (2^min a.2.2.1.toNat u32.bits)==0)).1 then(true,0,a.2)else(false,b,a.2)
def oJ(x:ByteArray×ab):Prop:=4<=x.1.size/\x.1.size<=1000000/\0<=x.2.1
def AA(x:ab×af):=u32.wrap ((BitVec.ofInt u32.bits x.2.1&&& ~~~BitVec.ofInt u32.bits (dB x.1).1).toNat)==0&&u32.wrap ((BitVec.ofInt u32.bits x.2.2&&& ~~~BitVec.ofInt u32.bits (dB x.1).2).toNat)==0
def Nt(z:List (Nat×List Nat)):=nC P7 dh SQ z
def YX:=cQ (Ty.pair ae dC) [none] [true,false] [9] false dC ae (ah.one none) (some jv) aY fY
def Zs:=cQ dC [] [true] [9] false dC kn (ah.one none) (some oJ) aV fY
def X6:Ct:=⟨Ty.pair aD aS,[some 8,some 2],aw,ah.one none,none,none,AA⟩
theorem apr:jP 163 YX:=have E:=ai @jv.eq_1 @kI.eq_1;Ge (Nt []) func163 [] l0 (wV λx fx h=>sl (letI b:=(1,x.2);letI a:=jA (i64.wrap (fp b).1<=x.1);kI b/\(a.1=true->fY=fY)/\(a.1=false->a.1=false)))
theorem aqg:jP 165 Zs:=have E:=ai @oJ.eq_1<|ai @kI.eq_1<|ai @fp.eq_1<|ai @az7 @awa;Ge (Nt []) func165 [] l0 (wV λx fx h=>sl (letI b:=fp (4,x);letI a:=jA (Int.fdiv (u32.wrap b.1) (2^min b.2.2.1.toNat u32.bits)==0);kI (4,x)/\0<=b.2.2.1/\(a.1=true->fY=fY)/\(a.1=false->a.1=false)))
theorem aqI:ar 205 X6:=au (Nt []) func205 [] l0 (λ_ _ _=>tr)
def abo:=(163,YX)::(165,Zs)::acr
theorem QG:ia abo:=pc apr func163 (pc aqg func165 (P7))
def abq:=(205,X6)::abZ
theorem Sx:cu abq:=gc aqI func205 (SQ)
def cK(x:ByteArray×ab):=letI d:=fp (4,x);letI a:=fp (4,d.2);letI b:=u32.wrap d.1;letI c:=u32.wrap a.1;bif(jA (AA (a.2.2,b,c))).1 then(true,(0,0),a.2)else(false,(b,c),a.2)
def sG(x:ByteArray×ab):Prop:=8<=x.1.size/\x.1.size<=1000000
def Cu(k:af)(x:(List Bool)×Int):Prop:=0<=x.2/\k.2=x.1.length/\k.2<=8
def JF(k:(af))(x:((List Bool)×Int)):Nat:=(k.2-x.2).toNat
def pX(k:af)(x:(List Bool)×Int):an (af) ((List Bool)×Int) Unit:=bif x.2<k.2 then .next k (aJ aw x.1 x.2 (i64.wrap ((BitVec.ofInt i64.bits (Int.fdiv k.1 (2^min x.2.toNat i64.bits))&&&BitVec.ofInt i64.bits 1).toNat)==1),i64.wrap (x.2+1))else .brk k x
def Kb k x:=endOf pX k (Nat.succ (JF k x)) x
def bl(x:Int×ByteArray×ab):=letI a:=aY (i64.wrap (i64.wrap (1*2^min x.1.toNat i64.bits)-1),x.2);bif a.1 then(true,[],a.2.2)else(false,(Kb (a.2.1,((aC aw x.1).length)) (aC aw x.1,0)).1,a.2.2)
def vh(x:Int×ByteArray×ab):Prop:=0<=x.1/\x.1<=8/\1<=x.2.1.size/\x.2.1.size<=1000000
def Nu(z:List (Nat×List Nat)):=nC QG dh Sx z
def WD:=cQ dC [] [true] [9] false dC aS (ah.one (some 2)) (some sG) cK fY
def ZC:=cQ (Ty.pair ae dC) [none] [true,false] [9] false dC gm (ah.one none) (some vh) bl fY
theorem anz:jP 162 WD:=have E:=ai @sG.eq_1<|ai @kI.eq_1<|ai @fp.eq_1<|ai @az7 @awa;Ge (Nu []) func162 [] l0 (wV λx fx h=>sl (letI c:=(4,x);letI b:=(4,(fp c).2);letI a:=jA (AA ((fp b).2.2,u32.wrap (fp c).1,u32.wrap (fp b).1));kI c/\kI b/\(a.1=true->fY=fY)/\(a.1=false->a.1=false)))
def RB:=aH (Ty.pair ae ae) (Ty.pair gm ae) [(5,none),(16,none)] [] [(6,none),(17,none)] [] [(0,100400,true,4)] [] [] 0 false Cu pX JF
theorem ak7:tM f166 [0] RB:=have E:=ai @Cu.eq_1<|ai @JF.eq_1 @pX.eq_1;lP (Nu []) [] l0 (λk x fk fx h=>sm (decide (x.2<k.2)=true->0<=x.2/\0<=x.2/\x.2<x.1.length))
theorem aq5:jP 166 ZC:=Ge (Nu []) func166 [(4,RB)] (lc ak7 l0) (wV λx fx h=>sf (letI a:=(i64.wrap (i64.wrap (1*2^min x.1.toNat i64.bits)-1),x.2);letI b:=aY a;0<=x.1/\jv a/\(b.1=true->fY=fY/\True)/\(b.1=false->(jv a/\b.1=false)/\(0<=x.1/\x.1=x.1/\x.1*1<=140737488355328/\x.1<=4611686018427387903)/\Cu (b.2.1,((aC aw x.1).length)) (aC aw x.1,0)/\True)) (by
 try dsimp only[Ty.den]at*
 obtain⟨h0,h1,h2,h3⟩:=h;refine⟨h0,⟨h2,h3⟩,λ_=>⟨rfl,trivial⟩,λhb=>⟨⟨⟨h2,h3⟩,hb⟩,⟨h0,rfl,by omega,by omega⟩,?_,trivial⟩⟩;simp only[Cu,aC,awj];exact⟨au4 _,trivial,by omega⟩))
def Fy:=(162,WD)::(166,ZC)::abo
theorem Il:ia Fy:=pc anz func162 (pc aq5 func166 (QG))
def E9:List (Nat×Ct):=abq
theorem Ja:cu E9:=Sx
abbrev gn:=ByteArray×Int×Int×Int×Int×Nat×Nat×Nat×List (ey)
def eh(r:ByteArray×Int×Int×Int×Int×Nat×Nat×Nat×List (ey))(k:Nat):ByteArray×Int×Int×Int×Int×Nat×Nat×Nat×List (ey):=(r.1.extract k r.1.size,r.2)
theorem nN(r:gn)(k:Nat):(eh r k).2=r.2:=rfl
theorem rR(r:gn)(k:Nat):(eh r k).1.size=r.1.size-k:=by simp_all [eh]
theorem sH(k:Int)(r:gn):(fp (k,r)).2=eh r k.toNat:=rfl
theorem vC(m:Int)(r:gn):(aY (m,r)).2.2=eh r 1:=by
 unfold aY;cases(jA _).1<;>rfl
theorem C1(r:gn):(aV r).2.2=eh r 4:=by
 unfold aV;cases(jA _).1<;>rfl
theorem qb(r:gn)(j k:Nat):eh (eh r j) k=eh r (j+k):=by
 unfold eh;rw[ByteArray.extract_extract,az7];grind
theorem Ce(r:gn):(cK r).2.2=eh r 8:=by
 unfold cK;have:(fp (4,(fp (4,r)).2)).2=eh r 8:=by simp_all [sH,qb]
 grind
theorem Cc(c:Int)(r:gn):(bl (c,r)).2.2=eh r 1:=by
 unfold bl;cases h:(aY _).1;all_goals simp_all [vC]
theorem SW(k:af): ∀(n:Nat) (x:List Bool×Int),(endOf pX k n x).1.length=x.1.length
 |0,x=>rfl
 |n+1,x=>by
  unfold endOf;cases h:pX k x with
  |next k' y=>
   have a:y.1.length=x.1.length:=by
    grind [pX,aJ]
   have f:k'=k:=by
    grind [pX]
   subst f;rw[SW k' n y,a]
  |brk k' y=>
   grind [pX]
  |ret r=>rfl
theorem OX{c:Int}{r:gn}(h:(bl (c,r)).1=false):(bl (c,r)).2.1.length=c.toNat:=by
 unfold bl at h⊢;cases hq:(aY (_,(c,r).2)).1 with
 |true=>simp_all
 |false=>
  simp_all [Kb,aC,SW]
def le:Int->Nat->List Int
 |_,0=> []|n,k+1=>u8.wrap n::le (n.fdiv 256) k
theorem gN: ∀(k:Nat) (n:Int),(le n k).length=k
 |0,_=>rfl
 |k+1,n=>by simp[le,gN k]
end Go.Proofs.YtcfinjcapeemeaaGreatDoor.S
