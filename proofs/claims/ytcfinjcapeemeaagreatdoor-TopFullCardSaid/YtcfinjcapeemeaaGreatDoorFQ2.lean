/- Part of the proof that the law TopFull holds for every input. -/
import Derived.Test.YtcfinjcapeemeaaGreatDoorFQ1
set_option linter.all false
set_option maxRecDepth 100000
set_option maxHeartbeats 4000000
namespace Go.Proofs.YtcfinjcapeemeaaGreatDoor.S
open Go Go.RowKit IntKind Go.Proofs.Tryz
section
theorem NX: ∀(xs:List Value) (off k:Nat) (cells:Array Value),off+k+xs.length<=cells.size->
  ((xs.zipIdx k).foldl (λcs p=>cs.setIfInBounds (off+p.2) p.1) cells).toList=cells.toList.take (off+k)++xs++cells.toList.drop (off+k+xs.length)
 | [],off,k,cells,h=>by simp
 |x::xs,off,k,cells,h=>by
  simp only[List.zipIdx_cons,awb];rw[NX xs off (k+1) (cells.setIfInBounds (off+k) x) (by grind)];have e:=list_seg_step cells.toList (off+k) x xs (by omega);simp only[Array.toList_setIfInBounds];omega
section
variable {φ:Fr} {ν:Nat->Bool} {m:Map} {st:ASt} {a:Act} {w w':World} {own:List (bS)} {W:List Nat} {P:Program} {C:Ctx} {o:Oper} {e:Eff}
 {K:Act->World->Prop} {Q:Exit->Act->World->Prop}
theorem BX(t:dr P C)(hs:aG φ ν m st a w)(ht:et ν own){s:Nat->Option (aR)}{pl:Nat->Option (aR)}
  (u: ∀i g off d,s i=some (g,off)->C.D g=some d->pl i=some (off,d.ty.n)):
  ∀(parts:List (Nat×Operand)) (cs cs':List Cell) (vs:Array Value),fillP C st own s parts cs=some cs'->aE m (XA φ m) w cs vs.toList->
   ∃j,Instr.fill pl vs (parts.map λp=>(p.1,a.eval p.2))=some j/\aE m (XA φ m) w cs' j.toList
 | [],cs,cs',vs,h,f=>by simp only[fillP,aup]at h;subst h;exact⟨vs,rfl,f⟩
 |(i,x)::r,cs,cs',vs,h,f=>by
  simp only[fillP]at h;split at h;case h_2=>cases h
  rename_i g off M;split at h;case h_2=>cases h
  rename_i d v N y;obtain⟨h1,h2⟩:=ba h;obtain⟨z,A⟩:=aF h1;have O:off+d.ty.n<=cs.length:=by have:=au7 A;rwa [gu]at this
  have S:v.cells.length=d.ty.n:=by rw[<- gu];exact beq_eq z
  have k:=SV.rN (lq hs ht y);have I:=k.length;have J:=f.length;simp only[avd]at I J;let l:=(a.eval x).cells.zipIdx.foldl (λ(cs:Array Value) (p:Value×Nat)=>cs.setIfInBounds (off+p.2) p.1) vs
  have L:l.toList=vs.toList.take off++(a.eval x).cells.toList++vs.toList.drop (off+(a.eval x).cells.toList.length):=by
   have:=NX (a.eval x).cells.toList off 0 vs (by simp;omega);simp only[awr]at this;rw[<- this];simp only[l,<- Array.foldl_toList,Array.toList_zipIdx]
  obtain⟨j,h3,h4⟩:=BX t hs ht u r (mw cs off v.cells) cs' l h2 (by
   rw[L,yq,show(a.eval x).cells.toList.length=v.cells.length from k.length.symm];exact aj.append (aj.append (aj.take _ f) k) (aj.drop _ f))
  grind [Instr.fill]
theorem aeg(g:List Field)(h: ∀f∈g,∃i,P.info? f.type=some i):
  g.mapM (λf=>(P.info? f.type).map λi=>(f.offset,i.size))=some (g.map λf=>(f.offset,P.cellsOf f.type)):=by
 induction g with
 |nil=>rfl
 |cons f g j=>
  obtain⟨i,hi⟩:=h f (by simp);simp_all [Program.cellsOf]
theorem adR{t:TypeId}{ty:Ty}{f:Bool}(h:lC P t ty f):P.cellsOf t=ty.n:=by
 obtain⟨i,h1,h2,_⟩:=h.info;simp_all [Program.cellsOf]
theorem ahp{t:TypeId}{parts:Array (Nat×Operand)}(s:o.op= .build t parts)(h:At P C φ ν own W st o e m a w K):o.wp P a w K Q:=by
 have g:=h.ev;simp only[evOp,s]at g;split at g;case h_2=>cases g
 rename_i d Z;have L:=h.ctx.D t d Z;obtain⟨de,M,k,_⟩:=L.desc;obtain⟨i,N,a7,O⟩:=L.info.info;unfold kindOk at k;split at g
 ·rename_i fs u
  rw[u]at k;obtain⟨y,S,rfl,T,h8⟩:=k;split at g;case h_2=>cases g
  rename_i cs z;have A:aE m (XA φ m) w (zeroCells d.ty) (zeroVs d.ty).toArray.toList:=by simpa using uH d.ty
  have h9:=aeg S.toList (λf I=>h8 (f.type,f.offset) (by rw[<- T];exact List.mem_map.2 ⟨f,I,rfl⟩));obtain⟨j,h1,h2⟩:=BX (pl:=λx=>(S.toList.map λf=>(f.offset,P.cellsOf f.type)).toArray[x]?) h.ctx h.sat h.tags (λi a1 off J l a2=>by
    rw[<- T,az9,av6]at l;obtain⟨f,I,a3⟩:=l;cases a3;simp only[List.getElem?_toArray,az9,I,Option.map_some];rw[adR (h.ctx.D _ J a2).info]) parts.toList _ cs _ z A
  have hb:P.built t (parts.map λ(i,x)=>(i,a.eval x)).toList=some j:=by
   unfold Program.built;simp only[N,M,O,h9,y,cd,azk,Value.cells];rw[<- h1];simp
  refine h.cq g ?_ ⟨j,rfl,h2⟩;simp only[execOp,s,auy,run_build w t _ j hb,aus];rfl
 ·rename_i len el u
  rw[u]at k;obtain⟨y,rfl⟩:=k;split at g;case h_2=>cases g
  rename_i J U;split at g;case h_2=>cases g
  rename_i cs z;obtain⟨V,a4,a5,_⟩:=(h.ctx.D _ J U).info.info;have A:aE m (XA φ m) w (zeroCells d.ty) (zeroVs d.ty).toArray.toList:=by simpa using uH d.ty
  obtain⟨j,h1,h2⟩:=BX (pl:=λx=>some (x*V.size,V.size)) h.ctx h.sat h.tags (λi a1 off a9 l Y=>by
    obtain⟨rfl,rfl⟩:=l;rw[U]at Y;cases Y;rw[a5];rfl) parts.toList _ cs _ z A
  have hb:P.built t (parts.map λ(i,x)=>(i,a.eval x)).toList=some j:=by
   unfold Program.built;simp only[N,M,O,a4,y,cd,azk,Value.cells];rw[<- h1];simp
  refine h.cq g ?_ ⟨j,rfl,h2⟩;simp only[execOp,s,auy,run_build w t _ j hb,aus];rfl
 ·cases g
theorem RY{X:Nat->Nat->Prop}{z:List Cell}{f:List Value}(h:aE m X w z f): ∀n,aE m X w (repC z n) (List.replicate n f).flatten
 |0=>trivial
 |n+1=>by
  simp only[repC,bI];exact aj.append h (RY h n)
theorem OM(z:Array Value)(h:0<z.size): ∀n,((Array.range (n*z.size)).map (z[· % z.size]!)).toList=(List.replicate n z.toList).flatten:=by
 intro n;apply aw2;intro k;have i:((List.replicate n z.toList).flatten).length=n*z.size:=by simp_all
 by_cases f:k<n*z.size
 ·have j:k % z.size<z.size:=aA8 _ h
  have h1:((Array.range (n*z.size)).map (z[· % z.size]!)).toList[k]? =some z[k % z.size]:=by
   simp[f,j]
  rw[h1];clear h1 i;induction n generalizing k with
  |zero=>simp at f
  |succ n l=>
   rw[List.replicate_succ,List.flatten_cons,azl];by_cases g:k<z.size
   ·simp[g,azp g]
   ·have e:(k-z.size) % z.size=k % z.size:=by
     have s:z.size<=k:=by omega
     rw[<- Nat.mod_eq_sub_mod s]
    rw[au6 (by simpa using g)];rw[avx]at f;have:=l (k-z.size) (by omega) (aA8 _ h);simp only[avd];rw[<- this];congr 1
    exact(getElem_congr_idx e).symm
 ·rw[ays (by simp;omega),ays (by omega)]
end
end
section
section
variable {φ:Fr} {ν:Nat->Bool} {m:Map} {st:ASt} {a:Act} {w w':World} {own:List (bS)} {W:List Nat} {P:Program} {C:Ctx} {o:Oper} {e:Eff}
 {K:Act->World->Prop} {Q:Exit->Act->World->Prop}
theorem CR.cells{X:Nat->Nat->Prop}{c:Cell}{u:Value}(h:CR m X w c u):u.cells= #[u]:=by
 cases c with
 |bh t tl l=>rcases h.1 with⟨_,rfl⟩|⟨a,cap,rfl,_⟩<;>rfl
 |box k off=>obtain⟨b,_,rfl⟩:=h;rfl
 |elem t l i off=>obtain⟨b,o,rfl,_⟩:=h;rfl
 |bq t k=>obtain⟨b,p,_,_,h2⟩:=h;rcases h2 with⟨_,rfl⟩|⟨_,cap,T,rfl,_⟩<;>rfl
 |velem t k i off=>obtain⟨b,p,_,_,rfl,_⟩:=h;rfl
 |fn f=>cases f<;>(cases h;rfl)
 |clo f ks=>obtain⟨vs,rfl,_⟩:=h;rfl
 |aelem k off e len i=>obtain⟨b,_,rfl,_⟩:=h;rfl
 |arrs k off e len=>obtain⟨b,_,rfl⟩:=h;rfl
 |nlb p=>obtain⟨b,rfl,_⟩:=h;rfl
 |_=>cases h;rfl
theorem TR.one{X:Nat->Nat->Prop}{t:Ty}{x:t.den}{vs:List Value}(h:TR w X t x vs): ∀u∈vs,u.oneCell'=true:=
 (ja (m:=λ_=>none) h).right λ_ _ h=>CR.one h
def nF(w:World){α:Type}(n:Nat)(R:α->List Value->Prop)(l:List α)(b o:Nat):Prop:=
 ∀i (h:i<l.length),∃vs:List Value,vs.length=n/\(∀j,(f:j<n)->w.cell? ⟨b,o+(i*n+j),none⟩=some (vs.getD j undef))/\R l[i] vs
theorem xO{α:Type}{n:Nat}{R:α->List Value->Prop}{l:List α}{b o:Nat}(s:0<n)(h:nF w n R l b o):
  ∃f:List Value,f.length=l.length*n/\(∀j u,f[j]? =some u->w.cell? ⟨b,o+j,none⟩=some u)/\ ∀i (hi:i<l.length),R l[i] ((f.drop (i*n)).take n):=by
 let f:=(List.range (l.length*n)).map λj=>(w.cell? ⟨b,o+j,none⟩).getD undef
 have x: ∀j,j<l.length*n-> ∃u,w.cell? ⟨b,o+j,none⟩=some u:=by
  intro j g;have h1:=(aAc s).2 g;obtain⟨vs,_,k,_⟩:=h (j/n) h1;have:=k (j % n) (aA8 _ s);simp_all [aze,aAq]
 have t: ∀j,f[j]? =if j<l.length*n then some ((w.cell? ⟨b,o+j,none⟩).getD undef)else none:=by
  grind
 refine⟨f,by grind,λj u y=> ?_,λi hi=> ?_⟩
 ·grind
 ·obtain⟨vs,hl,k,hr⟩:=h i hi
  have z:i*n+n<=l.length*n:=by rw[<- avx];exact au3 _ hi
  have:(f.drop (i*n)).take n=vs:=by
   apply aw2;intro j;rw[fK];split
   ·rename_i g
    rw[t,ava (by omega),k j g];simp[avc (show j<vs.length by omega)]
   ·rw[ays (by omega)]
  rw[this];exact hr
theorem jc.rows{X:Nat->Nat->Prop}{b:Nat}{T:TypeId}{t:Ty}{l:List t.den}(h:jc X w b T t l):nF w t.n (TR w X t) l b 0:=by
 obtain⟨vs,cap,⟨z,h1,_⟩,h2,h3,h4,h5⟩:=h;intro i hi;have g:i*t.n+t.n<=vs.size:=by rw[h2,<- avx];exact au3 _ (by omega)
 refine⟨_,by grind,λj f=> ?_,h5 i hi⟩;rw[m1 h1,au9,fK,ava f,avy,avs,awp (by omega)];rfl
theorem nF.ok{X:Nat->Nat->Prop}{α:Type}{n:Nat}{R f:α->List Value->Prop}{l:List α}{b o:Nat}(h:nF w n R l b o)(g: ∀x vs,R x vs->f x vs)(hX: ∀p,o<=p->p<o+l.length*n-> ¬ X b p):jy w X n f l b o:=
 ⟨λi hi=>by obtain⟨vs,h1,h2,h3⟩:=h i hi;grind,hX⟩
def Xc(φ:Fr)(m:Map)(ks:List Nat)(b q:Nat):Prop:=XA φ m b q/\ ∀k∈ks,∀p,p % 2=0->0<p->m k≠some (b,p)
theorem dM{X:Nat->Nat->Prop}:dG X w w:=⟨au2 _,λ_ _ _ _=>rfl,λ_ _=>rfl,λ_ _ _=>rfl⟩
theorem Xc.less{ks:List Nat}:di w (XA φ m) (Xc φ m ks):=λ_ _ _ h=>h.1
theorem jn{a b:Ty}{l:List a.den}{f:List b.den}(h:castL a b l=some f): ∃e:a=b,f=e▸l:=Cd h
theorem yT(hs:aG φ ν m st a w){fr:Bool}{c j:Cell}{v:Value}(h:unvC fr st c=some j)(u:CR m (XA φ m) w c v){ks:List Nat}(y:fr=false-> ∀k∈vksL [c],k∈ks):CR m (Xc φ m ks) w j v:=by
 have plain:j=c->CR m (Xc φ m ks) w j v:=λz=>z▸CR.mono dM Xc.less (λ_ _ _ h=>h) _ _ u
 cases c with
 |bq e k=>
  simp only[unvC]at h;obtain⟨b,p,hm,O,A⟩:=u;have fin: ∀{l:List e.den},nF w e.n (TR w (XA φ m) e) l b 0->(∀q,q<l.length*e.n-> ¬ Xc φ m ks b q)->fD p=l.length->(p=1->l= [])->CR m (Xc φ m ks) w (.bh e .no l) v:=by
   intro l hr g S h1;refine⟨?_,trivial⟩;rcases A with⟨h2,h3⟩|⟨h2,cap,T,h3,h4,h5,h6⟩
   ·exact .inl ⟨h1 h2,h3⟩
   ·refine .inr ⟨⟨b,0,none⟩,cap,by simp_all,by omega,h6,λ_=>rfl,hr.ok (λx vs h=>h.mono dM Xc.less _ _ _) λq _ f=>g q (by omega)⟩
  split at h
  ·rename_i U T I l s
   cases hfr:fr with
   |true=>rw[hfr]at h;cases h
   |false=>
    rw[hfr]at h;split at h;case h_2=>cases h
    rename_i J t;cases h;obtain⟨rfl,rfl⟩:=jn t;obtain⟨L,M,h1,h2⟩:=hs.box k _ s;rw[hm]at h1;cases h1;have N:=y hfr k (by simp[vksL]);rcases h2 with⟨rfl,rfl⟩|⟨rfl,h2⟩|⟨_,rfl,h2,_⟩
    ·exact fin (λi hi=>by simp at hi) (λq f=>by simp at f) (by simp[fD]) (λ_=>rfl)
    ·exact fin h2.rows (λq _ g=>g.2 k N _ (by omega) (by omega) hm) (eN _) (λh=>by omega)
    ·exact fin h2.1 (λq f g=>h2.2 q (awc _) (by simpa using f) g.1) (gq _) (λh=>by omega)
  ·rename_i I l s
   split at h;case h_2=>cases h
   rename_i J t;cases h;obtain⟨rfl,rfl⟩:=jn t;obtain⟨L,M,h1,h2⟩:=hs.box k _ s;rw[hm]at h1;cases h1;rcases h2 with⟨rfl,rfl⟩|⟨rfl,h2⟩
   ·exact fin (λi hi=>by simp at hi) (λq f=>by simp at f) (by simp[fD]) (λ_=>rfl)
   ·exact fin h2.1 (λq f g=>h2.2 q (awc _) (by simpa using f) g.1) (gq _) (λh=>by omega)
  ·cases h
 |_=>simp only[unvC,aup]at h;exact plain h.symm
theorem qa(hs:aG φ ν m st a w){fr:Bool}{ks:List Nat}: ∀{cs cs':List Cell} {vs:List Value},gh fr st cs=some cs'->aE m (XA φ m) w cs vs->(fr=false-> ∀k∈vksL cs,k∈ks)->aE m (Xc φ m ks) w cs' vs
 | [],cs',vs,h,f,g=>by simp only[gh,aup]at h;subst h;match vs,f with| [],_=>exact trivial
 |c::cs,cs',[],h,f,g=>f.elim
 |c::cs,cs',v::vs,h,f,g=>by
  simp only[gh]at h;split at h;case h_2=>cases h
  rename_i c1 l h1 h2;cases h;refine⟨yT hs h1 f.1 (λi k j=>g i k ?_),qa hs h2 f.2 (λi k j=>g i k ?_)⟩
  ·cases c<;>simp_all [vksL]
  ·cases c<;>simp_all [vksL]
theorem TH(hs:aG φ ν m st a w){fr:Bool}{ks:List Nat}{x y:SV}{v:Value}(h:unvS fr st x=some y)(g:SR m (XA φ m) w x v)(i:fr=false-> ∀k∈vksL x.cells,k∈ks):SR m (Xc φ m ks) w y v:=by
 cases x with
 |one c=>
  simp only[unvS]at h;split at h;case h_2=>cases h
  rename_i j f;cases h;exact yT hs f g i
 |agg cs=>
  simp only[unvS]at h;split at h;case h_2=>cases h
  rename_i j f;cases h;obtain⟨vs,rfl,h2⟩:=g;exact⟨vs,rfl,qa hs f h2 i⟩
theorem rQ(hs:aG φ ν m st a w){fr:Bool}{ks:List Nat}: ∀{xs ys:List SV} {vs:List Value},unvSs fr st xs=some ys->aj (SR m (XA φ m) w) xs vs->(fr=false-> ∀k∈eg xs,k∈ks)->aj (SR m (Xc φ m ks) w) ys vs
 | [],ys,vs,h,f,g=>by simp only[unvSs,aup]at h;subst h;match vs,f with| [],_=>exact trivial
 |x::xs,ys,[],h,f,g=>f.elim
 |x::xs,ys,v::vs,h,f,g=>by
  simp only[unvSs]at h;split at h;case h_2=>cases h
  rename_i c1 l h1 h2;cases h;exact⟨TH hs h1 f.1 (λi k j=>g i k (by simp_all [eg,bI])),rQ hs h2 f.2 (λi k j=>g i k (by simp_all [eg,bI]))⟩
theorem OE{el:Nat}{f:Ty}{c:Cell}{l1:List f.den}{j:Option Nat}{i:Bool}(h:apSrc st el f c=some (l1,j,i)):
  (j=none/\c= .bh f .exact l1/\i=jZ l1)\/ ∃g k,c= .bq g k/\j=some k/\g.n=f.n/\st.box k=some (.vec i el f l1):=by
 cases c with
 |bh g tl l=>
  cases tl with
  |no=>cases h
  |exact=>
   grind [apSrc,jn]
 |bq g k=>
  grind [apSrc,ba,aF,beq_eq,jn]
 |_=>cases h
theorem oo: ∀t:Ty,(zeroVs t).length=t.n:=by
 intro t;induction t with
 |pair a b f g=>simp_all [zeroVs,Ty.n]
 |_=>rfl
theorem S1{X:Nat->Nat->Prop}: ∀t:Ty,TR w X t t.dflt (zeroVs t):=by
 intro t;induction t with
 |pair a b f g=>exact⟨_,_,rfl,f,g⟩
 |sl e h=>exact⟨_,rfl,.inl ⟨rfl,rfl⟩⟩
 |_=>exact rfl
theorem BF(s:dr P C){t el:TypeId}{d f:TD}{g:Ty}(S:C.D t=some d)(T:d.kind= .slice el)(U:d.ty= .sl g)(A:C.D el=some f)(V:f.ty.n=g.n)(hn:1<=g.n):
  P.underlying t=some (.slice el)/\ ∃i z,P.info? el=some i/\i.size=g.n/\i.zero=some z/\z.cells.toList=zeroVs g/\i.bytes=f.bytes/\lC P el g (f.agg):=by
 obtain⟨e0,Y,u,_⟩:=(s.D t d S).desc;unfold kindOk at u;rw[T]at u;obtain⟨_,rfl,t',l,I,J⟩:=u;rw[U]at I;cases I;have x:=s.D el f A;obtain⟨i,y,Z,L⟩:=J.info;obtain⟨j,M,a4,N⟩:=x.info.info;rw[y]at M;cases M;have hb:=s.bytes el f i A y (by omega);have h:cd l (zeroVs g)=cd f.agg (zeroVs f.ty):=by rw[L]at N;exact axk N
 have O:(cd l (zeroVs g)).cells.toList=zeroVs g/\l=f.agg:=by
  cases hag:l with
  |true=>
   refine⟨rfl,?_⟩;rw[hag]at h;cases hda:f.agg with
   |true=>rfl
   |false=>
    rw[hda]at h;have h1:=x.one hda;have k:=uH (m:=λ_=>none) (X:=λ_ _=>False) (w:=default) f.ty;cases hzv:zeroVs f.ty with
    |nil=>have:=oo f.ty;rw[hzv,h1]at this;cases this
    |cons v r=>
     rw[hzv]at h k;simp only[cd,azk,awd,azj,List.headD_cons]at h;match h8:zeroCells f.ty,k with
     |c::cs,k=>have:=CR.one k.1;rw[<- h]at this;cases this
  |false=>
   rw[hag]at h;have k:=uH (m:=λ_=>none) (X:=λ_ _=>False) (w:=default) g;cases hzv:zeroVs g with
   |nil=>have:=oo g;rw[hzv]at this;simp at this;omega
   |cons v r=>
    rw[hzv]at h k;simp only[cd,awd,azj,List.headD_cons]at h⊢;match h8:zeroCells g,k with
    |c::cs,k=>
     have hc:=k.1.cells;rw[hc];cases hda:f.agg with
     |true=>
      rw[hda]at h;simp only[cd,azk]at h;have:=CR.one k.1;rw[h]at this;cases this
     |false=>
      have h1:=x.one hda;have:=oo g;rw[hzv,<- V,h1]at this;simp at this;subst this;exact⟨rfl,rfl⟩
 refine⟨Y,i,_,y,Z,L,O.1,hb,?_⟩;rw[<- O.2];exact J
def L7(P:Program)(w:World)(X:Nat->Nat->Prop)(f:Ty)(tx:TypeId)(v:Value)(l2:List f.den):Prop:=
 ∃g:List Value,Src P f.n tx v l2.length g w/\g.length=l2.length*f.n/\(∀u∈g,u.oneCell'=true)/\(∀i (hi:i<l2.length),TR w X f l2[i] ((g.drop (i*f.n)).take f.n))/\
  (l2= []\/ ∃(ad:Addr) (cap:Nat),v= .slice (some ad) l2.length cap/\ ∀j u,g[j]? =some u->w.cell? (ad.add j)=some u)
structure wH (P:Program) (el:TypeId) (tx:TypeId) (x:Value) (n:Nat) (news:List Value):Prop where
 kind: ∃k,P.underlying tx=some (.int k)
 val: ∃k,x= .int k (n:Int)
 info: ∃i z,P.info? el=some i/\i.zero=some z/\news=(Builtin.zeroCells z.cells n).toList/\n*i.bytes<=281474976710656
 lU:n<=4611686018427387903
def Av(P:Program)(w:World)(X:Nat->Nat->Prop)(f:Ty)(el tx:TypeId)(v:Value)(l2:List f.den):Prop:=
 ∃g:List Value,(Src P f.n tx v l2.length g w\/wH P el tx v l2.length g)/\g.length=l2.length*f.n/\(∀u∈g,u.oneCell'=true)/\(∀i (hi:i<l2.length),TR w X f l2[i] ((g.drop (i*f.n)).take f.n))
theorem ak5{w:World}{X:Nat->Nat->Prop}{f:Ty}{el tx:TypeId}{v:Value}{l2:List f.den}(h:L7 P w X f tx v l2):Av P w X f el tx v l2:=by
 obtain⟨g,h1,h2,h3,h4,_⟩:=h;exact⟨g,.inl h1,h2,h3,h4⟩
theorem tZ(s:ByteArray):(av s).length=s.size:=by
 simp_all [av]
theorem ahr{w:World}{X:Nat->Nat->Prop}{el tx:TypeId}(f:P.underlying tx=some .string)(s:ByteArray):Av P w X (.int .u8) el tx (.string s) (av s):=by
 refine⟨byteCells s,.inl ?_,?_,(Src.ofString w f s).one,λi hi=> ?_⟩
 ·rw[tZ];exact Src.ofString w f s
 ·simp_all [Ty.n,byteCells_length,tZ]
 ·rw[tZ]at hi
  show List.take 1 ((byteCells s).drop (i*1))= [Value.int .u8 (av s)[i]];have h1:(byteCells s).drop (i*1)=(.int .u8 (av s)[i])::(byteCells s).drop (i+1):=by
   rw[aAr,av5 (by rw[byteCells_length];exact hi)];simp[byteCells,av]
  rw[h1];rfl
def Al(w:World)(X:Nat->Nat->Prop)(f:Ty)(v:Value)(l2:List f.den):Prop:=
 (l2= []/\v= .slice none 0 0)\/(∃(ad:Addr) (cap:Nat),v= .slice (some ad) l2.length cap/\(l2≠ []->ad.spot=none)/\nF w f.n (TR w X f) l2 ad.block ad.off)
theorem OO(hs:aG φ ν m st a w){f:Ty}{c:Cell}{v:Value}{l2:List f.den}(h:apNew st f c=some l2)(t:CR m (XA φ m) w c v):
  Al w (XA φ m) f v l2:=by
 have g:Al w (XA φ m) f v l2->Al w (XA φ m) f v l2:=λh=>h
 have u: ∀{X:Nat->Nat->Prop},LR w X f.n (TR w (XA φ m) f) l2 v->Al w (XA φ m) f v l2:=by
  rintro X (h1|⟨ad,cap,h1,_,_,h4,h5⟩)
  ·exact g (.inl h1)
  ·exact g (.inr ⟨ad,cap,h1,h4,h5.1⟩)
 cases c with
 |bh j tl l=>
  obtain⟨rfl,rfl⟩:=jn (show castL j f l=some l2 from h);exact u t.1
 |bq j k=>
  simp only[apNew,unvC]at h;obtain⟨b,p,hm,I,x⟩:=t;have fin:nF w f.n (TR w (XA φ m) f) l2 b 0->fD p=l2.length->(p=1->l2= [])->Al w (XA φ m) f v l2:=by
   intro hr y h1;rcases x with⟨h2,h3⟩|⟨h2,cap,T,h3,h4,h5,h6⟩
   ·exact g (.inl ⟨h1 h2,h3⟩)
   ·exact g (.inr ⟨⟨b,0,none⟩,cap,by rw[<- y];exact h3,λ_=>rfl,hr⟩)
  cases hbx:st.box k with
  |none=>simp[hbx]at h
  |some bx=>
   cases bx with
   |cells cs=>simp[hbx]at h
   |ro cs=>simp[hbx]at h
   |tok=>simp[hbx]at h
   |vec J T s l=>
    simp only[hbx,cnd]at h;cases hcl:castL s j l with
    |none=>simp[hcl]at h
    |some l1=>
     simp only[hcl]at h;obtain⟨rfl,rfl⟩:=jn hcl;obtain⟨rfl,rfl⟩:=jn h;obtain⟨z,A,h1,h2⟩:=hs.box k _ hbx;rw[hm]at h1;cases h1;rcases h2 with⟨rfl,rfl⟩|⟨rfl,h2⟩|⟨_,rfl,h2,_⟩
     ·exact fin (λi hi=>by simp at hi) (by simp[fD]) (λ_=>rfl)
     ·exact fin h2.rows (eN _) (λh=>by omega)
     ·exact fin h2.1 (gq _) (λh=>by omega)
   |kU s l=>
    simp only[hbx]at h;cases hcl:castL s j l with
    |none=>simp[hcl]at h
    |some l1=>
     simp only[hcl]at h;obtain⟨rfl,rfl⟩:=jn hcl;obtain⟨rfl,rfl⟩:=jn h;obtain⟨z,A,h1,h2⟩:=hs.box k _ hbx;rw[hm]at h1;cases h1;rcases h2 with⟨rfl,rfl⟩|⟨rfl,h2⟩
     ·exact fin (λi hi=>by simp at hi) (by simp[fD]) (λ_=>rfl)
     ·exact fin h2.1 (gq _) (λh=>by omega)
 |_=>cases h
theorem HU(hs:aG φ ν m st a w){f:Ty}{c:Cell}{v:Value}{l2:List f.den}(h:apNew st f c=some l2)(y:CR m (XA φ m) w c v)(l:0<f.n){tx z:TypeId}(s:P.underlying tx=some (.slice z)):
  L7 P w (XA φ m) f tx v l2:=by
 have A:(l2= []/\v= .slice none 0 0)\/(∃(ad:Addr) (cap:Nat),v= .slice (some ad) l2.length cap/\(l2≠ []->ad.spot=none)/\nF w f.n (TR w (XA φ m) f) l2 ad.block ad.off)->
   L7 P w (XA φ m) f tx v l2:=by
  rintro(⟨rfl,rfl⟩|⟨ad,cap,rfl,I,hr⟩)
  ·exact⟨[],Src.ofNil w s 0,by simp,(λ_ h=>by cases h),(λi hi=>by grind),.inl rfl⟩
  ·obtain⟨g,h1,h2,h3⟩:=xO l hr
   have t: ∀u∈g,u.oneCell'=true:=by
    intro u k;obtain⟨j,J,rfl⟩:=av0 k;have L:j/f.n<l2.length:=(aAc l).2 (by omega);refine(h3 (j/f.n) L).one _ (List.mem_iff_getElem?.2 ⟨j % f.n,?_⟩);rw[fK,ava (aA8 _ l),show j/f.n*f.n+j % f.n=j by rw[aze];exact aAq j f.n,avc J]
   have x: ∀j u,g[j]? =some u->w.cell? (ad.add j)=some u:= ?_
   ·exact⟨g,Src.ofSlice w s ad _ cap g h1 x t,h1,t,h3,.inr ⟨ad,cap,rfl,x⟩⟩
   intro j u k;have M:l2≠ []:=by
    intro h0;subst h0;have:=(List.getElem?_eq_some_iff.1 k).1;simp at h1;subst h1;simp at this
   obtain⟨b,N,sp⟩:=ad;have:=I M;subst this;rw[jT];exact h2 j u k
 exact A (OO hs h y)
theorem At.newRow(h:At P C φ ν own W st o e m a w K){k b p:Nat}{bx:Bx}{tv:TV}{v:Value}{kl:Option Nat}(y:o.dst=some k)(J:st.box k=none)
  (L:e.dst=some (k,tv)) (N:e.eT=(k,some bx)::killO kl) (O: ∀j,kl=some j-> ∃z T t l,st.box j=some (.vec z T t l))
  (S:(execOp a.eval o).run P w= .ok (.value v) w') (hb:Below w.heap.size w w') (M:p % 2=0->w.heap.size<=b/\b<w'.heap.size)
  (U: ∀f,f k=some (b,p)->dz m f->di w (XA φ m) (XA φ f)->iv f (XA φ f) w' k bx)
  (V: ∀f,f k=some (b,p)->VR f (XA φ f) w' tv v):o.wp P a w K Q:=by
 unfold Oper.wp;rw[S];show K (a.put o.dst v) w';rw[y];refine h.next _ _ ?_;have h1:=h.sat.Ea J hb (λA=>(M A).1) (λA=>(M A).2) (λf x1 Y Z _=>U f x1 Y Z);have h2:=h1.put (h.dst k y).1 (h.dst k y).2 h.tags (V _ (by simp));have h8: ∀(kl:Option Nat),e.apply own st={ slot:=((Eff.mk none (some (k,tv)) []).apply own st).slot,box:=applyB e.eT st.box}:=λ_=>by
  obtain⟨q1,q2,q3⟩:=e;simp only at L;subst L;rfl
 rw[h8 kl,N];cases kl with
 |none=>simp only[killO];rw[ua];exact⟨_,h2⟩
 |some j=>
  obtain⟨z,T,t,l,i⟩:=O j rfl;have I:j≠k:=λe=>by rw[e,J]at i;cases i
  have h3:=h2.dead (k:=j) (bx:= .tok) (bx0:= .vec z T t l) (by show(if j=k then _ else _)=_;rw[au6 I];exact i) (λ_ _ _ _ _ _=>trivial)
   (λb' s=>by
    have s:(if j=k then some (b,p)else m j)=some (b',0):=s;rw[au6 I]at s;obtain⟨b2,p2,h4,h5⟩:=h.sat.box j _ i;rw[s]at h4;cases h4;rcases h5 with⟨_,h5⟩|⟨h5,_⟩|⟨_,h5,_⟩<;>omega)
  have a1:applyB [(k,some bx),(j,some .tok)] st.box=λu=>if u=j then some .tok else if u=k then some bx else st.box u:=by
   funext u
   simp only[applyB];by_cases g:u=k
   ·rw[bV g,au6 (λe=>I (e.symm.trans g)),ava g]
   ·rw[bL g]
    by_cases x:u=j
    ·rw[bV x,ava x]
    ·rw[bL x,au6 x,au6 g]
  simp only[killO];rw[a1];exact h3
theorem At.uF(h:At P C φ ν own W st o e m a w K){k j b p pd:Nat}{bx:Bx}{tv:TV}{v:Value}(s:o.dst=some k)(y:st.box k=none)
  (z:e.dst=some (k,tv)) (A:e.eT=(k,some bx)::killO (some j)) {I:Bool} {T:TypeId} {t:Ty} {l:List t.den} (J:st.box j=some (.vec I T t l)) (hm:m j=some (b,p)) (L:0<p)
  (M:(execOp a.eval o).run P w= .ok (.value v) w') (N:dG (XA φ m) w w') (O: ∀x,(p % 2=0->x≠b)->w'.heap[x]? =w.heap[x]?) (S:w'.heap.size=w.heap.size) (hw:w'.os=w.os/\w'.tape=w.tape/\w'.output=w.output)
  (U:pd % 2=p % 2) (V:0<pd)
  (Y: ∀f,f k=some (b,pd)->dz m f->di w (XA φ m) (XA φ f)->iv f (XA φ f) w' k bx)
  (Z: ∀f,f k=some (b,pd)->VR f (XA φ f) w' tv v):o.wp P a w K Q:=by
 unfold Oper.wp;rw[M];show K (a.put o.dst v) w';rw[s];refine h.next _ _ ?_;obtain⟨f,h0,h1⟩:=h.sat.akg y J rfl hm L N O S hw U V Y;have h2:=h1.put (h.dst k s).1 (h.dst k s).2 h.tags (Z f h0);have h8:e.apply own st={ slot:=((Eff.mk none (some (k,tv)) []).apply own st).slot,box:=applyB e.eT st.box}:=by
  obtain⟨q1,q2,q3⟩:=e;subst z;rfl
 have h9:applyB [(k,some bx),(j,some .tok)] st.box=λu=>if u=k then some bx else if u=j then some .tok else st.box u:=by
  funext u
  simp only[applyB];by_cases g:u=k
  ·rw[bV g,ava g]
  ·rw[bL g,au6 g]
   by_cases i:u=j
   ·rw[bV i,ava i]
   ·rw[bL i,au6 i]
 rw[h8,A,show killO (some j)= [(j,some .tok)]from rfl,h9];exact⟨f,h2⟩
theorem adF(t tx ty e:TypeId)(i:TypeInfo)(ht:P.underlying t=some (.slice e))(hi:P.info? e=some i)(base:Option Addr)(f g:Nat)(j:f<=g){x:Value}(hs:Src P i.size tx x 0 [] w):
  (Builtin.append_ #[t,tx] ty #[.slice base f g,x]).run P w= .ok (.slice base f g) w:=by
 rcases hs.kind with⟨k,h⟩|h<;>cases base<;>simp[Builtin.append_,avg ht,avg h,sizeOf,typeInfo,hi,hs.len,j,hs.cells,storeCells]
theorem GG(t tx ty e:TypeId)(i:TypeInfo)(ht:P.underlying t=some (.slice e))(hi:P.info? e=some i)(g f k:Nat)(h:Array Value){z:aR}{q:Prop}(s:w.heap[g]? =some (.cells h e z))(u:wc z h.size q)
  {x:Value} {n:Nat} {j:List Value} (hs:Src P i.size tx x n j w) (y:f+n<=k) (I:f*i.size+j.length<=h.size):
  (Builtin.append_ #[t,tx] ty #[.slice (some ⟨g,0,none⟩) f k,x]).run P w=
   .ok (.slice (some ⟨g,0,none⟩) (f+n) k) (w.setRow g (h.toList.take (f*i.size)++j++h.toList.drop (f*i.size+j.length)).toArray):=by
 have A:=pL (P:=P) g (f*i.size) e j 0 h w s u (by omega) hs.one;rcases hs.kind with⟨J,l⟩|l<;>simp[Builtin.append_,avg ht,avg l,sizeOf,typeInfo,hi,hs.len,y,hs.cells,azf,A]
theorem HO(k:IntKind)(n:Int)(w:World):(asInt (.int k n)).run P w= .ok n w:=by simp[asInt,asIntOf]
theorem adB(t tx ty e:TypeId)(i:TypeInfo)(ht:P.underlying t=some (.slice e))(hi:P.info? e=some i)(base:Option Addr)(f g:Nat)(h:f<=g){x:Value}(hs:wH P e tx x 0 []):
  (Builtin.append_ #[t,tx] ty #[.slice base f g,x]).run P w= .ok (.slice base f g) w:=by
 obtain⟨⟨k,j⟩,⟨l,rfl⟩,_,_⟩:=hs;cases base<;>simp[Builtin.append_,avg ht,avg j,sizeOf,typeInfo,hi,h,storeCells,HO,avf]
theorem adD(t tx ty e:TypeId)(i:TypeInfo)(ht:P.underlying t=some (.slice e))(hi:P.info? e=some i)(g f s:Nat)(j:Array Value){z:aR}{q:Prop}(A:w.heap[g]? =some (.cells j e z))(I:wc z j.size q)
  {x:Value} {n:Nat} {l:List Value} (hs:wH P e tx x n l) (h1: ∀u∈l,u.oneCell'=true) (T:0<n) (U:0<i.size) (J:f+n<=s) (V:f*i.size+l.length<=j.size):
  (Builtin.append_ #[t,tx] ty #[.slice (some ⟨g,0,none⟩) f s,x]).run P w=
   .ok (.slice (some ⟨g,0,none⟩) (f+n) s) (w.setRow g (j.toList.take (f*i.size)++l++j.toList.drop (f*i.size+l.length)).toArray):=by
 have L:=pL (P:=P) g (f*i.size) e l 0 j w A I (by omega) h1;obtain⟨⟨k,M⟩,⟨Y,rfl⟩,⟨i2,Z,y,N,rfl,h8⟩,h9⟩:=hs;rw[hi]at y;cases y;have hw:i64.wrap n=n:=by grind [IntKind.wrap_i64]
 have O: ¬ (281474976710656<(n:Int)*i.bytes):=by
  omega
 have S: ¬ ((n:Int)<0):=by omega
 simp[Builtin.append_,avg ht,avg M,sizeOf,typeInfo,hi,hw,O,S,HO,zeroValue,N,J,azf,L];intro h;rcases Nat.mul_eq_zero.1 h with h|h<;>omega
theorem adA(t tx ty e:TypeId)(i:TypeInfo)(z:Value)(ht:P.underlying t=some (.slice e))(hi:P.info? e=some i)(j:i.zero=some z)(base:Option Addr)(f g:Nat)(olds:List Value)
  (y:(Builtin.firstCells i.size f (.slice base f g)).run P w.drew= .ok olds.toArray w.drew) (x:Value) (n:Nat) (l:List Value) (hs:wH P e tx x n l) (S:0<n) (T:0<i.size)
  (U:g<f+n) (V:((f+n:Nat):Int)<=9223372036854775807) (Y:Builtin.nextslicecap (f+n) g*i.bytes<=281474976710656):
  (Builtin.append_ #[t,tx] ty #[.slice base f g,x]).run P w=
   .ok (.slice (some ⟨w.heap.size,0,none⟩) (f+n) (grownCap w (f+n) g e))
    (w.drew.alloc (.cells ((olds++l).toArray++Builtin.zeroCells z.cells (grownCap w (f+n) g e - (f+n))) e)):=by
 obtain⟨⟨k,A⟩,⟨Z,rfl⟩,⟨i2,zv,s,u,rfl,h9⟩,a1⟩:=hs;rw[hi]at s;cases s;rw[j]at u;cases u;have I: ¬ (f+n<=g):=by omega
 have J: ¬ (9223372036854775807<(f+(n:Int))):=by omega
 have L: ¬ (281474976710656<Builtin.nextslicecap (f+n) g*i.bytes):=by omega
 have hw:i64.wrap n=n:=by grind [IntKind.wrap_i64]
 have M: ¬ (281474976710656<(n:Int)*i.bytes):=by
  omega
 have N: ¬ ((n:Int)<0):=by omega
 have O: ¬ (n*i.size=0):=λh=>by rcases Nat.mul_eq_zero.1 h with h|h<;>omega
 simp[Builtin.append_,avg ht,avg A,sizeOf,typeInfo,zeroValue,hi,j,hw,M,N,HO,I,J,L,O,Question.forced,y,newRow,grownCap];congr 2
 apply ay9;simp
theorem xl(t tx ty e:TypeId)(i:TypeInfo)(ht:P.underlying t=some (.slice e))(hi:P.info? e=some i)(base:Option Addr)(f g:Nat)(j:f<=g){x:Value}(hs:Src P i.size tx x 0 [] w\/wH P e tx x 0 []):
  (Builtin.append_ #[t,tx] ty #[.slice base f g,x]).run P w= .ok (.slice base f g) w:=
 hs.elim (λh=>adF t tx ty e i ht hi base f g j h) (λh=>adB t tx ty e i ht hi base f g j h)
theorem adC(t tx ty e:TypeId)(i:TypeInfo)(ht:P.underlying t=some (.slice e))(hi:P.info? e=some i)(g f l:Nat)(j:Array Value){z:aR}{q:Prop}(s:w.heap[g]? =some (.cells j e z))(y:wc z j.size q)
  {x:Value} {n:Nat} {k:List Value} (hs:Src P i.size tx x n k w\/wH P e tx x n k) (h1: ∀u∈k,u.oneCell'=true) (J:0<n) (L:0<i.size) (A:f+n<=l) (I:f*i.size+k.length<=j.size):
  (Builtin.append_ #[t,tx] ty #[.slice (some ⟨g,0,none⟩) f l,x]).run P w=
   .ok (.slice (some ⟨g,0,none⟩) (f+n) l) (w.setRow g (j.toList.take (f*i.size)++k++j.toList.drop (f*i.size+k.length)).toArray):=
 hs.elim (λh=>GG t tx ty e i ht hi g f l j s y h A I) (λh=>adD t tx ty e i ht hi g f l j s y h h1 J L A I)
theorem rB{c:Call}(g:o.op= .call c)(h:c.callee= .builtin .append){x y:Operand}{u:Value}{f tx:TypeId}(i:c.args.toList= [x,y])(j:c.argTypes.toList= [f,tx])
  (k:(Builtin.append_ #[f,tx] o.type #[a.eval x,a.eval y]).run P w= .ok u w'):(execOp a.eval o).run P w= .ok (.value u) w':=by
 have l:c.args.map a.eval= #[a.eval x,a.eval y]:=by apply ay9;simp_all
 have s:c.argTypes= #[f,tx]:=by grind
 simp_all [execOp,resolve,invoke,builtin]
theorem P3{c:Call}(g:o.op= .call c)(h:c.callee= .builtin .copy){x y:Operand}{u:Value}{f tx:TypeId}(i:c.args.toList= [x,y])(j:c.argTypes.toList= [f,tx])
  (k:(Builtin.copy_ #[f,tx] o.type #[a.eval x,a.eval y]).run P w= .ok u w'):(execOp a.eval o).run P w= .ok (.value u) w':=by
 have l:c.args.map a.eval= #[a.eval x,a.eval y]:=by apply ay9;simp_all
 have s:c.argTypes= #[f,tx]:=by grind
 simp_all [execOp,resolve,invoke,builtin]
theorem Below.O7(w:World)(ob:Obj):Below w.heap.size w (w.drew.alloc ob):=
 ((aw6 _ _).drew).alloc (au2 _) _
theorem xo{α:Type}{xs ys:List α}{n i k:Nat}(f:xs.length=k*n):((xs++ys).drop (i*n)).take n=if i<k then(xs.drop (i*n)).take n else(ys.drop ((i-k)*n)).take n:=by
 apply aw2;intro j;split
 ·rename_i hi
  rw[fK,fK];split
  ·have:=au3 n (show i+1<=k from hi)
   rw[avx]at this;rw[aw9 (by omega)]
  ·rfl
 ·rw[fK,fK]
  split
  ·have h1:k*n<=i*n:=au3 n (by omega)
   rw[ayq (by omega),f];congr 1
   rw[axa];omega
  ·rfl
theorem PJ{X:Nat->Nat->Prop}{f:Ty}{el:TypeId}{l1 l2:List f.den}{olds g rest:List Value}{cap:Nat}(k:olds.length=l1.length*f.n)(l:g.length=l2.length*f.n)(hr:rest.length=(cap - (l1.length+l2.length))*f.n)(y:l1.length+l2.length<=cap)(u:cap<=maxLen)
  (h1: ∀i (h:i<l1.length),TR w X f l1[i] ((olds.drop (i*f.n)).take f.n)) (h2: ∀i (h:i<l2.length),TR w X f l2[i] ((g.drop (i*f.n)).take f.n))
  {vs:Array Value} (s:vs.toList=olds++g++rest) {b:Nat} (hb:vq w' b vs el (f= .int .u8)) (t:dG X w w') {X':Nat->Nat->Prop} (hX:di w X X'):jc X' w' b el f (l1++l2):=by
 refine⟨vs,cap,hb,?_,by simp_all,u,λi hi=> ?_⟩
 ·rw[<- avd,s]
  simp only[au1,k,l,hr,<- azs];congr 1;omega
 ·simp only[au1]at hi
  have x:((vs.toList.drop (i*f.n)).take f.n)=if i<l1.length then(olds.drop (i*f.n)).take f.n else(g.drop ((i-l1.length)*f.n)).take f.n:=by
   rw[s,avb,xo k];split
   ·rfl
   ·rw[xo l,ava (by omega)]
  rw[x];by_cases j:i<l1.length
  ·rw[ava j,ax8 j]
   exact(h1 i j).mono t hX _ _ _
  ·rw[au6 j,ayu (by omega)]
   exact(h2 _ (by omega)).mono t hX _ _ _
end
end
section
section
variable {φ:Fr} {ν:Nat->Bool} {m:Map} {st:ASt} {a:Act} {w w':World} {own:List (bS)} {W:List Nat} {P:Program} {C:Ctx} {o:Oper} {e:Eff}
 {K:Act->World->Prop} {Q:Exit->Act->World->Prop}
theorem O2{α:Type}{z:List α}: ∀{n i:Nat},i<n->(((List.replicate n z).flatten.drop (i*z.length)).take z.length)=z
 |0,i,h=>by omega
 |n+1,0,h=>by grind
 |n+1,i+1,h=>by
  rw[List.replicate_succ,List.flatten_cons,show(i+1)*z.length=z.length+i*z.length by grind,<- awo,azn];exact O2 (by omega)
theorem Oo{j tx ty el:TypeId}{f:Ty}{i:TypeInfo}{z:Value}{l1 l2:List f.den}(ht:P.underlying j=some (.slice el))(hi:P.info? el=some i)(s:i.zero=some z)(N:i.size=f.n)(O:z.cells.toList=zeroVs f)
  {base:Option Addr} {g:Nat} {olds:List Value} (t:(Builtin.firstCells i.size l1.length (.slice base l1.length g)).run P w.drew= .ok olds.toArray w.drew) (u:olds.length=l1.length*f.n)
  {X:Nat->Nat->Prop} (S: ∀i (h:i<l1.length),TR w X f l1[i] ((olds.drop (i*f.n)).take f.n)) {v2:Value} (hs:Av P w X f el tx v2 l2) (T:l2≠ []) (Z:1<=f.n) (k:g<l1.length+l2.length)
  (x:(l1.length+l2.length)*i.bytes<=140737488355328) (h8:l1.length+l2.length<=4611686018427387903):
  ∃w' cap,(Builtin.append_ #[j,tx] ty #[.slice base l1.length g,v2]).run P w= .ok (.slice (some ⟨w.heap.size,0,none⟩) (l1.length+l2.length) cap) w'/\Below w.heap.size w w'/\w.heap.size<w'.heap.size/\l1.length+l2.length<=cap/\cap<=maxLen/\
   w'.shape? w.heap.size=some (el,cap*f.n)/\ ∀X',di w X X'->jc X' w' w.heap.size el f (l1++l2):=by
 obtain⟨l,h1,h2,h3,h4⟩:=hs;rw[<- N]at h1;have U:=h1.elim (λh1=>run_append_grow_src (P:=P) w j tx ty el i z ht hi s base l1.length g olds t v2 l2.length l h1 k (by omega) (aBq k x)) (λh1=>adA (P:=P) (w:=w) j tx ty el i z ht hi s base l1.length g olds t v2 l2.length l h1 (List.length_pos_iff.2 T) (by omega) k (by omega) (aBq k x));have y:=grownCap_ge w (l1.length+l2.length) g el;have A:=aAz w (l1.length+l2.length) g el (by unfold maxLen;omega);let cap:=grownCap w (l1.length+l2.length) g el
 let vs:Array Value:=(olds++l).toArray++Builtin.zeroCells z.cells (cap - (l1.length+l2.length))
 have hb:Below w.heap.size w (w.drew.alloc (.cells vs el)):=Below.O7 w _;have I:(w.drew.alloc (.cells vs el)).heap[w.heap.size]? =some (.cells vs el):=by
  unfold World.alloc;show(w.heap.push _)[w.heap.size]? =_;simp
 have V:z.cells.size=f.n:=by rw[<- avd,O,oo]
 have J:vs.toList=olds++l++(Builtin.zeroCells z.cells (cap - (l1.length+l2.length))).toList:=by simp[vs]
 have L:(Builtin.zeroCells z.cells (cap - (l1.length+l2.length))).toList.length=(cap - (l1.length+l2.length))*f.n:=by rw[avd,size_zeroCells,V]
 have M: ∀X',di w X X'->jc X' (w.drew.alloc (.cells vs el)) w.heap.size el f (l1++l2):=λX' hX=>
  PJ u h2 L y A S h4 J ⟨(0,0),I,.inl rfl⟩ (mV hb) hX
 refine⟨_,cap,U,hb,by simp,y,A,?_,M⟩;obtain⟨h9,a1,h5,h6,_⟩:=M _ fJ;unfold World.shape?;rw[I];have Y:vs.size=cap*f.n:=by
  rw[<- avd,J];simp only[au1,u,h2,L,<- azs];congr 1;omega
 simp[Y]
theorem GF{b n cap size:Nat}{olds:List Value}(hl:olds.length=n*size)(h: ∀j u,olds[j]? =some u->w.cell? ⟨b,0+j,none⟩=some u):(Builtin.firstCells size n (.slice (some ⟨b,0,none⟩) n cap)).run P w.drew= .ok olds.toArray w.drew:=
 ayh w.drew size n ⟨b,0,none⟩ n cap olds hl (λj u f=>by simp_all [jT])
theorem GI{c:Call}(Z:o.op= .call c)(h8:c.callee= .builtin .append){s x:Operand}{ts tx:TypeId}(h9:c.args.toList= [s,x])(a1:c.argTypes.toList= [ts,tx]){k:Nat}(a2:o.dst=some k)
  {d de:TD} {cs O:Cell} {el:TypeId} {f:Ty} {l1 l2:List f.den} {j:Option Nat} {ow:Bool}
  (hD:C.D ts=some d) (a3:st.box k=none) (hs:opndc st own none s=some cs)
  (hk:d.kind= .slice el) (g6:d.ty= .sl f) (g7:C.D el=some de) (h1:apSrc st el f cs=some (l1,j,ow)) (a4:Av P w (XA φ m) f el tx (a.eval x) l2) (f7:l2= []->kE O=false)
  (hn:1<=f.n) (g8:de.ty.n=f.n)
  {pre:Option Prop} (g9:(l1.length+l2.length)*de.bytes<=140737488355328/\l1.length+l2.length<=4611686018427387903)
  (V:e=⟨pre,some (k,.v (.one (.bq f k))),
   (k,some (.vec (ej (kE O) ow) el f (l1++l2)))::killO j⟩)
  (h:At P C φ ν own W st o e m a w K):o.wp P a w K Q:=by
 obtain⟨f8,i3⟩:=g9;obtain⟨ht,i,z,a5,I,i4,i5,i6,k2⟩:=BF h.ctx hD hk g6 g7 g8 hn;rw[<- i6]at f8;have e4:=bo h.sat h.tags hs;have a6:e.dst=some (k,.v (.one (.bq f k))):=by rw[V]
 have grow: ∀{base:Option Addr} {d5:Nat} {olds:List Value},a.eval s= .slice base l1.length d5->(Builtin.firstCells i.size l1.length (.slice base l1.length d5)).run P w.drew= .ok olds.toArray w.drew->olds.length=l1.length*f.n->
   (∀i (h:i<l1.length),TR w (XA φ m) f l1[i] ((olds.drop (i*f.n)).take f.n))->l2≠ []->d5<l1.length+l2.length->(∀j',j=some j'-> ∃ow T t l,st.box j'=some (.vec ow T t l))->o.wp P a w K Q:=by
  intro base d5 olds g i7 i9 j1 e5 hg b7;obtain⟨w',cap,e6,j3,j4,b9,a7,y,e7⟩:=Oo ht a5 i4 I i5 i7 i9 j1 a4 e5 hn hg f8 i3;have k3:(l1++l2).length=l1.length+l2.length:=by simp
  refine h.newRow (bx:= .vec (ej (kE O) _) el f (l1++_)) (p:=2*(l1.length+l2.length)+2) a2 a3 a6 (by rw[V]) b7 (rB Z h8 h9 a1 (by rw[g];omega)) j3 (λ_=>⟨au2 _,j4⟩)
   (λJ h3 h4 h5=>⟨_,_,h3,.inr (.inl ⟨by omega,e7 _ h5⟩)⟩)
   (λJ h3=>⟨_,_,h3,by omega,.inr ⟨by omega,cap,el,by rw[eN],y,by simp_all [eN],a7⟩⟩)
 rcases OE h1 with⟨rfl,rfl,rfl⟩|⟨e1,j0,rfl,rfl,e9,b5⟩
 case inl=>
   rcases e4.2 with⟨h3,g⟩|⟨h3,b,T,g,y⟩
   ·subst h3
    by_cases h0:l2= []
    ·subst h0
     obtain⟨A,M,L,_⟩:=a4;have:A= []:=avt (by simpa using L);subst this;refine h.newRow (bx:= .vec (ej (kE O) _) el f ([]++ [])) (b:=0) a2 a3 a6 (by rw[V]) (λj S=>by cases S) (rB Z h8 h9 a1 (by rw[g];exact xl _ _ _ _ i ht a5 none 0 0 (au2 _) (by rw[I];exact M))) (aw6 _ _) (λhp=>by omega)
      (λJ h3 h4 h5=>⟨_,_,h3,.inl ⟨rfl,rfl⟩⟩) (λJ h3=>⟨_,_,h3,by omega,.inl ⟨rfl,rfl⟩⟩)
    ·have:0<l2.length:=List.length_pos_iff.2 h0
     exact grow (by simpa using g) (aAs _ _ _ _ _) (by simp) (λi hi=>by simp at hi) h0 (by simpa using this) (λj S=>by cases S)
   ·
    have c0:jy w (XA φ m) f.n (TR w (XA φ m) f) l1 b 0:=by
     rcases e4.1 with⟨h4,_⟩|⟨ad,cap,h4,_,_,_,h5⟩
     ·exact absurd h4 h3
     ·rw[g]at h4;cases h4;exact h5
    by_cases h0:l2= []
    ·have f0:=f7 h0
     subst h0;obtain⟨A,M,L,_⟩:=a4;have:A= []:=avt (by simpa using L);subst this;have j5:jZ l1=false:=by cases l1 with|nil=>exact absurd rfl h3|cons=>rfl
     refine h.newRow (bx:= .vec (ej (kE O) _) el f (l1++_)) (p:=2*l1.length+3) a2 a3 a6 (by rw[V]) (λj S=>by cases S) (rB Z h8 h9 a1 (by rw[g];exact xl _ _ _ _ i ht a5 _ _ _ (au2 _) (by rw[I];exact M))) (aw6 _ _) (λhp=>by omega)
      (λJ h6 h4 h5=>⟨_,_,h6,.inr (.inr ⟨by rw[j5,f0];rfl,by simp,by simpa using c0.mono dM h5 (TR.mono dM h5 f),T,by simpa using y⟩)⟩)
      (λJ h6=>⟨_,_,h6,by omega,.inr ⟨by omega,l1.length,T,by rw[gq],y,by rw[gq];omega,by unfold maxLen;omega⟩⟩)
    ·have:0<l2.length:=List.length_pos_iff.2 h0
     obtain⟨olds,Y,c9,d0⟩:=xO (by omega) c0.1;exact grow g (by rw[I];exact GF Y c9) Y d0 h0 (by omega) (λj S=>by cases S)
 case inr=>
  obtain⟨b,p,hm,hp,f1⟩:=e4;obtain⟨b',p',h3,h4⟩:=h.sat.box j0 _ b5;rw[hm]at h3;cases h3;have b7: ∀j',some j0=some j'-> ∃ow T t l,st.box j'=some (.vec ow T t l):=λj' S=>by cases S;exact⟨_,_,_,_,b5⟩
  rcases h4 with⟨rfl,rfl⟩|⟨rfl,vs,cap,⟨z9,U,d7⟩,b0,b9,a7,f2⟩|⟨rfl,rfl,c0,T',y⟩
  ·
   have g:a.eval s= .slice none 0 0:=by
    rcases f1 with⟨_,g⟩|⟨e5,_⟩
    ·exact g
    ·exact absurd rfl e5
   by_cases h0:l2= []
   ·subst h0
    obtain⟨A,M,L,_⟩:=a4;have:A= []:=avt (by simpa using L);subst this;refine h.uF (bx:= .vec (ej (kE O) _) el f ([]++ [])) a2 a3 a6 (by rw[V]) b5 hm hp (rB Z h8 h9 a1 (by rw[g];exact xl _ _ _ _ i ht a5 none 0 0 (au2 _) (by rw[I];exact M))) dM (λ_ _=>rfl) rfl ⟨rfl,rfl,rfl⟩ rfl (by omega)
     (λJ h3 h4 h5=>⟨_,_,h3,.inl ⟨rfl,rfl⟩⟩) (λJ h3=>⟨_,_,h3,by omega,.inl ⟨rfl,rfl⟩⟩)
   ·have:0<l2.length:=List.length_pos_iff.2 h0
    exact grow (by simpa using g) (aAs _ _ _ _ _) (by simp) (λi hi=>by simp at hi) h0 (by simpa using this) b7
  ·
   obtain⟨u,N,g,y,_,_⟩: ∃u N,a.eval s= .slice (some ⟨b,0,none⟩) l1.length u/\w.shape? b=some (N,u*e1.n)/\True/\True:=by
    rcases f1 with⟨h5,_⟩|⟨_,u,N,h5,h6,_⟩
    ·omega
    ·rw[eN]at h5;exact⟨u,N,h5,h6,trivial,trivial⟩
   have f3:u=cap:=by
    have:w.shape? b=some (el,vs.size):=by unfold World.shape?;rw[U]
    rw[this]at y;simp only[aup,awk]at y;have:cap*f.n=u*f.n:=by rw[<- b0,y.2,e9]
    exact(ayr (by omega) this).symm
   subst f3;have j6:nF w f.n (TR w (XA φ m) f) l1 b 0:=jc.rows ⟨vs,u,⟨z9,U,d7⟩,b0,b9,a7,f2⟩;by_cases h0:l2= []
   ·subst h0
    obtain⟨A,M,L,_⟩:=a4;have:A= []:=avt (by simpa using L);subst this;refine h.uF (bx:= .vec (ej (kE O) _) el f (l1++_)) a2 a3 a6 (by rw[V]) b5 hm hp (rB Z h8 h9 a1 (by rw[g];exact xl _ _ _ _ i ht a5 _ _ _ b9 (by rw[I];exact M))) dM (λ_ _=>rfl) rfl ⟨rfl,rfl,rfl⟩ rfl (by omega)
     (λJ h3 h4 h5=>⟨_,_,h3,.inr (.inl ⟨by simp,by simpa using jc.mono dM h5 rfl ⟨vs,u,⟨z9,U,d7⟩,b0,b9,a7,f2⟩⟩)⟩)
     (λJ h3=>⟨_,_,h3,by omega,.inr ⟨by omega,u,N,by rw[eN],by rw[e9]at y;exact y,by rw[eN];omega,a7⟩⟩)
   ·have g1:0<l2.length:=List.length_pos_iff.2 h0
    by_cases f4:l1.length+l2.length<=u
    ·obtain⟨A,M,L,j7,j8⟩:=a4
     have j9:l1.length*f.n+A.length<=vs.size:=by rw[L,b0,<- azs];exact au3 _ f4
     have e6:=adC ts tx o.type el i ht a5 b l1.length u vs U d7 (by rw[I];exact M) j7 g1 (by rw[I];exact hn) f4 (by rw[I];exact j9);rw[I]at e6;let b2:Array Value:=(vs.toList.take (l1.length*f.n)++A++vs.toList.drop (l1.length*f.n+A.length)).toArray
     have hX: ∀q,XA φ m b q:=λq=> .inr ⟨j0,_,hm,by omega⟩
     have f5:b2.size=vs.size:=by simp[b2];omega
     have g2:dG (XA φ m) w (w.setRow b b2):=by
      refine⟨by simp,λb' p d9 hx=> ?_,λb' d9=> ?_,λb' p d9=> ?_⟩
      ·have:b'≠b:=λe=>hx (e▸hX p)
       unfold World.cell?;rw[aw4 _ _ _ _ this]
      ·by_cases e:b'=b
       ·subst e;unfold World.shape?;rw[axd _ _ _ _ _ _ U,U];simp[f5]
       ·unfold World.shape?;rw[aw4 _ _ _ _ e]
      ·by_cases e:b'=b
       ·subst e;unfold World.frozen?;simp only[];rw[axd _ _ _ _ _ _ U,U]
       ·unfold World.frozen?;simp only[];rw[aw4 _ _ _ _ e]
     have g3:(w.setRow b b2).heap[b]? =some (.cells b2 el z9):=axd _ _ _ _ _ _ U;have k5:l1.length*f.n<=vs.toList.length:=by show _<=vs.size;rw[b0];exact au3 _ b9
     have e7: ∀X',di w (XA φ m) X'->jc X' (w.setRow b b2) b el f (l1++l2):=λX' k1=>
      PJ (olds:=vs.toList.take (l1.length*f.n)) (rest:=vs.toList.drop (l1.length*f.n+A.length)) (by simp;omega) L
       (by rw[avo,avd,b0,L,<- azs,<- axa]) f4 a7
       (λi hi=>by
        have k6:i*f.n+f.n<=l1.length*f.n:=by rw[<- avx];exact au3 _ hi
        have:((vs.toList.take (l1.length*f.n)).drop (i*f.n)).take f.n=(vs.toList.drop (i*f.n)).take f.n:=by
         apply aw2;intro r;rw[fK,fK];split
         ·rw[av7,ava (by omega)]
         ·rfl
        rw[this];exact f2 i hi) j8 (by simp[b2]) ⟨z9,g3,by rw[f5];exact d7⟩ g2 k1
     refine h.uF (bx:= .vec (ej (kE O) _) el f (l1++_)) (pd:=2*(l1.length+l2.length)+2) a2 a3 a6 (by rw[V]) b5 hm hp (rB Z h8 h9 a1 (by rw[g];exact e6)) g2 (λb' d9=>aw4 _ _ _ _ (d9 (by omega))) (by simp) ⟨rfl,rfl,rfl⟩ (by omega) (by omega)
      (λJ h3 h4 h5=>⟨_,_,h3,.inr (.inl ⟨by simp,e7 _ h5⟩)⟩)
      (λJ h3=>⟨_,_,h3,by omega,.inr ⟨by omega,u,el,by rw[eN],?_,by rw[eN];omega,a7⟩⟩)
     unfold World.shape?;rw[g3];simp[f5,b0]
    ·obtain⟨olds,Y,c9,d0⟩:=xO (by omega) j6
     exact grow g (by rw[I];exact GF Y c9) Y d0 h0 (by omega) b7
  ·
   obtain⟨u,N,g,f6⟩: ∃u N,a.eval s= .slice (some ⟨b,0,none⟩) l1.length u/\w.shape? b=some (N,u*e1.n):=by
    rcases f1 with⟨h5,_⟩|⟨_,u,N,h5,h6,_⟩
    ·omega
    ·rw[gq]at h5;exact⟨u,N,h5,h6⟩
   have f3:u=l1.length:=by
    rw[y]at f6;simp only[aup,awk]at f6;have:=f6.2;rw[e9]at this;exact(ayr (by omega) this).symm
   subst f3;by_cases h0:l2= []
   ·have f0:=f7 h0
    subst h0;obtain⟨A,M,L,_⟩:=a4;have:A= []:=avt (by simpa using L);subst this;refine h.uF (bx:= .vec (ej (kE O) _) el f (l1++_)) a2 a3 a6 (by rw[V]) b5 hm hp (rB Z h8 h9 a1 (by rw[g];exact xl _ _ _ _ i ht a5 _ _ _ (au2 _) (by rw[I];exact M))) dM (λ_ _=>rfl) rfl ⟨rfl,rfl,rfl⟩ rfl (by omega)
     (λJ h3 h4 h5=>⟨_,_,h3,.inr (.inr ⟨by rw[f0];rfl,by simp,by simpa using c0.mono dM h5 (TR.mono dM h5 f),T',by simpa using y⟩)⟩)
     (λJ h3=>⟨_,_,h3,by omega,.inr ⟨by omega,l1.length,T',by rw[gq],y,by rw[gq];omega,by unfold maxLen;omega⟩⟩)
   ·have g1:0<l2.length:=List.length_pos_iff.2 h0
    obtain⟨olds,Y,c9,d0⟩:=xO (by omega) c0.1;exact grow g (by rw[I];exact GF Y c9) Y d0 h0 (by omega) b7
theorem afw{c:Call}(T:o.op= .call c)(U:c.callee= .builtin .append){s x:Operand}{t tx:TypeId}(V:c.args.toList= [s,x])(Y:c.argTypes.toList= [t,tx]){k:Nat}(Z:o.dst=some k)
  {d y u:TD} {cs g:Cell} {el ex:TypeId} {f:Ty} {l1 l2:List f.den} {j:Option Nat} {A:Bool}
  (I:C.D t=some d) (a5:C.D tx=some y) (h8:st.box k=none) (hs:opndc st own none s=some cs) (hx:opndc st own none x=some g)
  (J:d.kind= .slice el) (L:d.ty= .sl f) (a6:y.kind= .slice ex) (M:C.D el=some u) (h1:apSrc st el f cs=some (l1,j,A)) (h2:apNew st f g=some l2)
  (a1:t=tx) (N:1<=f.n) (O:u.ty.n=f.n)
  (S:e=⟨some ((l1.length+l2.length)*u.bytes<=140737488355328/\l1.length+l2.length<=4611686018427387903),some (k,.v (.one (.bq f k))),
   (k,some (.vec (ej (kE g) A) el f (l1++l2)))::killO j⟩)
  (h:At P C φ ν own W st o e m a w K):o.wp P a w K Q:=by
 obtain⟨ht,i,z,a7,a9,b0,b2,b3,b4⟩:=BF h.ctx I J L M O N;subst a1;have a2:=ak5 (el:=el) (HU h.sat h2 (bo h.sat h.tags hx) (by omega) ht);have a3:l2= []->kE g=false:=by
  intro h0;subst h0;cases g with
  |bh e1 tl l=>
   obtain⟨rfl,h3⟩:=jn (show castL e1 f l=some []from h2);subst h3;cases tl<;>rfl
  |_=>rfl
 exact GI T U V Y Z I h8 hs J L M h1 a2 a3 N O (h.bQ _ (by rw[S])) S h
theorem OT{X:Nat->Nat->Prop}{f:Ty}{z:Array Value}(g:z.toList=zeroVs f)(j:0<f.n){c:Nat}: ∀i (h:i<(List.replicate c f.dflt).length),TR w X f (List.replicate c f.dflt)[i] (((madeCells z (c*f.n)).toList.drop (i*f.n)).take f.n):=by
 grind [madeCells,oo,OM,O2,S1]
theorem afZ{X:Nat->Nat->Prop}{f:Ty}{el tx:TypeId}{i:TypeInfo}{z:Value}{s h:IntKind}(t:P.underlying tx=some (.int s))(hi:P.info? el=some i)(x:i.zero=some z)(y:z.cells.toList=zeroVs f)(g:0<f.n)
  {n:Int} (h0:0<=n) (hb:n.toNat*i.bytes<=281474976710656) (hm:n.toNat<=4611686018427387903):Av P w X f el tx (.int h n) (List.replicate n.toNat f.dflt):=by
 have M:z.cells.size=f.n:=by grind [oo]
 have l:(Builtin.zeroCells z.cells n.toNat).toList=(madeCells z.cells (n.toNat*f.n)).toList:=by simp_all [Builtin.zeroCells,madeCells]
 have hl:(madeCells z.cells (n.toNat*f.n)).toList.length=n.toNat*f.n:=by simp_all [size_madeCells]
 have ht:=OT (X:=X) (w:=w) y g (c:=n.toNat);refine⟨_,.inr ⟨⟨_,t⟩,⟨h,by grind⟩,⟨i,z,hi,x,rfl,by simp_all⟩,by simp_all⟩,?_,?_,?_⟩
 ·simp_all
 ·rw[awj,l]
  intro u A;obtain⟨j,I,rfl⟩:=av0 A;have J:j/f.n<(List.replicate n.toNat f.dflt).length:=by rw[awj];exact(aAc g).2 (by omega)
  refine(ht (j/f.n) J).one _ (List.mem_iff_getElem?.2 ⟨j % f.n,?_⟩);rw[fK,ava (aA8 _ g),show j/f.n*f.n+j % f.n=j by rw[aze];exact aAq j f.n,avc I]
 ·intro k L
  have:=ht k L;rw[awj,l];exact this
theorem adP{t:TypeId}{x y:Operand}(M:o.op= .makeSlice t x y)(h:At P C φ ν own W st o e m a w K):o.wp P a w K Q:=by
 have g:=h.ev;simp only[evOp,M]at g;split at g;case h_2=>cases g
 rename_i d k s n u c N O S T;split at g;case h_2=>cases g
 rename_i el f U V Y;split at g;case h_2=>cases g
 rename_i Z h8;obtain⟨hc,l⟩:=ba g;obtain⟨a1,a2⟩:=aF hc;have A:1<=f.n:=au7 a1;have a3:Z.ty.n=f.n:=beq_eq a2;simp only[aup]at l;obtain⟨h0,h1,h2,h3⟩:=h.bQ _ (by rw[<- l]);subst h1;obtain⟨ht,i,z,a4,a5,a6,I,a7,b4⟩:=BF h.ctx N U V h8 a3 A;have hX:a.eval x= .int s n:=bo h.sat h.tags S;have hY:a.eval y= .int u n:=bo h.sat h.tags T;have a9:=run_make (P:=P) w t el i z ht a4 a6 s u n n h0 (au4 _) (by rw[a7,aA0];omega) (by omega);rw[a5]at a9;have b6:z.cells.size=f.n:=by rw[<- avd,I,oo]
 let vs:=madeCells z.cells (n.toNat*f.n)
 have hb:Below w.heap.size w (w.alloc (.cells vs el)):=(aw6 _ _).alloc (au2 _) _;have J:(w.alloc (.cells vs el)).heap[w.heap.size]? =some (.cells vs el):=by grind [World.alloc]
 have L:vs.size=n.toNat*f.n:=size_madeCells _ _;have b0:(aC f n).length=n.toNat:=by simp[aC]
 refine h.newRow (kl:=none) (tv:= .v (.one (.bq f k))) (bx:= .vec true el f (aC f n)) (p:=2*n.toNat+2) (b:=w.heap.size) (v:= .slice (some ⟨w.heap.size,0,none⟩) n.toNat n.toNat) O Y (by rw[<- l]) (by rw[<- l];rfl) (λj hj=>by cases hj)
  (by grind [execOp,Sem.run_bind,Result.andThen_ok,Sem.run_pure]) hb (λ_=>⟨au2 _,by simp⟩)
  (λm' h4 h5 h6=>⟨_,_,h4,.inr (.inl ⟨by rw[b0],vs,n.toNat,⟨(0,0),J,.inl rfl⟩,L,by omega,by unfold maxLen;omega,λi hi=>OT I A i hi⟩)⟩)
  (λm' h4=>⟨_,_,h4,by omega,.inr ⟨by omega,n.toNat,el,by rw[eN],by unfold World.shape?;rw[J];simp[L],by rw[eN];exact au2 _,by unfold maxLen;omega⟩⟩)
theorem NH{b off n k cap size:Nat}{f:List Value}(g:k<=n)(hl:f.length=n*size){ad:Addr}(h: ∀j u,f[j]? =some u->w.cell? (ad.add j)=some u):
  (Builtin.firstCells size k (.slice (some ad) n cap)).run P w= .ok (f.take (k*size)).toArray w:=
 ayh w size k ad n cap (f.take (k*size)) (by simp_all) (λj u i=>by
  grind)
theorem Qm{α:Type}{l l2:List α}{r:Nat}(hr:r<(bc l l2).length)(h:r<min l2.length l.length):(bc l l2)[r]=l2[r]'(by omega):=by
 grind [bc]
theorem Qo{α:Type}{l l2:List α}{r:Nat}(hr:r<(bc l l2).length)(f:r<l.length)(h: ¬ r<min l2.length l.length):(bc l l2)[r]=l[r]:=by
 grind [bc]
theorem akc{c:Call}(d7:o.op= .call c)(d9:c.callee= .builtin .copy){s x:Operand}{N tx:TypeId}(e1:c.args.toList= [s,x])(e2:c.argTypes.toList= [N,tx]){k:Nat}(I:o.dst=some k)
  {d O S:TD} {cx:Cell} {el ex:TypeId} {f U:Ty} {l l2:List f.den} {j:Nat} {T:TypeId}
  (hD:C.D N=some d) (e4:C.D tx=some O) (hs:opndc st own none s=some (.bq U j)) (hx:opndc st own none x=some cx)
  (hk:d.kind= .slice el) (e7:O.kind= .slice ex) (V:st.box j=some (.vec true T f l)) (e8:C.D el=some S) (h2:apNew st f cx=some l2)
  (e9:S.ty.n=f.n) (i4:U.n=f.n) (hn:1<=f.n)
  (he:e=⟨none,some (k,.v (.one (.int .i64 (min l2.length l.length)))),[(j,some (.vec true T f (bc l l2)))]⟩)
  (h:At P C φ ν own W st o e m a w K):o.wp P a w K Q:=by
 obtain⟨d1,a6,y,_⟩:=(h.ctx.D N d hD).desc;unfold kindOk at y;rw[hk]at y;obtain⟨_,rfl,t',ag,i9,f0⟩:=y;obtain⟨i,f1,j0,j1⟩:=f0.info;obtain⟨i',a7,f2,j3⟩:=(h.ctx.D el S e8).info.info;rw[f1]at a7;cases a7;have j4:=f2.trans e9;obtain⟨d2,f3,Y,_⟩:=(h.ctx.D tx O e4).desc;unfold kindOk at Y;rw[e7]at Y;obtain⟨_,rfl,_⟩:=Y;obtain⟨L,Z,h8,f4,f5,f6⟩:=HU h.sat h2 (bo h.sat h.tags hx) (by omega) f3;obtain⟨b,p,hm,hp,a9⟩:=bo h.sat h.tags hs;obtain⟨b',p',h3,h4⟩:=h.sat.box j _ V;rw[hm]at h3;cases h3;obtain⟨g,y⟩: ∃g,g=min l2.length l.length:=⟨_,rfl⟩
 have b0:(min (l2.length:Int) l.length)=g:=by omega
 have b2:(sizeOf el).run P w= .ok f.n w:=by simp_all [sizeOf,typeInfo]
 have b3:(Builtin.firstCells f.n g (a.eval x)).run P w= .ok (L.take (g*f.n)).toArray w:=by
  rcases f6 with h0|⟨ad,cap,t,f7⟩
  ·subst h0
   have f8:=avt (by simpa using h8);subst f8;have:g=0:=by simp[y]
   rw[this];simpa using Z.cells
  ·rw[t];exact NH (off:=0) (b:=0) (by omega) h8 f7
 have b4: ∀(base:Option Addr) (cap:Nat) (w2:World),a.eval s= .slice base l.length cap->((match base with|some a=>storeCells a (L.take (g*f.n))|none=>pure ():Sem Unit)).run P w= .ok () w2->
   (execOp a.eval o).run P w= .ok (.value (.int .i64 g)) w2:=by
  intro base cap w2 t b5;refine P3 d7 d9 e1 e2 ?_;rw[t];have b6:=y.symm;unfold Builtin.copy_;cases base with
  |none=>
   cases b5;simp[avg a6,Z.len,b6,b2,b3,goInt]
  |some ad=>
   simp[avg a6,Z.len,b6,b2,b3,goInt,b5]
 unfold Oper.wp;rcases h4 with⟨rfl,rfl⟩|⟨rfl,vs,cap,⟨z9,hh,b9⟩,c0,c9,g0,g1⟩|⟨h4,_⟩
 ·
  have t:a.eval s= .slice none 0 0:=by
   rcases a9 with⟨_,t⟩|⟨g2,_⟩
   ·exact t
   ·exact absurd rfl g2
  rw[b4 none 0 w t rfl];show K (a.put o.dst _) w;rw[I];refine h.next _ _ ?_;rw[he,pN,ua,b0];have hc:bc ([]:List f.den) l2= []:=by simp[bc]
  rw[hc];have:(λu=>if u=j then some (Bx.vec true T f [])else st.box u)=st.box:=by
   funext u
   split
   ·rename_i t;rw[t,V]
   ·rfl
  rw[this];exact⟨m,h.sat.put (h.dst k I).1 (h.dst k I).2 h.tags rfl⟩
 ·obtain⟨J,M,t,j8⟩: ∃J M,a.eval s= .slice (some ⟨b,0,none⟩) l.length J/\w.shape? b=some (M,J*U.n):=by
   rcases a9 with⟨h5,_⟩|⟨_,J,M,h5,h6,_⟩
   ·omega
   ·rw[eN]at h5;exact⟨J,M,h5,h6⟩
  let cp:=L.take (g*f.n)
  have g4:cp.length=g*f.n:=by
   have:g*f.n<=l2.length*f.n:=au3 _ (by omega);simp only[cp,avp,h8];omega
  have g5:g*f.n<=l.length*f.n:=au3 _ (by omega);have g6:cp.length<=vs.size:=by
   rw[g4,c0];exact auq g5 (au3 _ c9)
  let z:=(vs.toList.take 0++cp++vs.toList.drop (0+cp.length)).toArray
  have g7:=pL (P:=P) b 0 T cp 0 vs w hh b9 (by omega) (λu t=>f4 u (awg t));rw[b4 (some ⟨b,0,none⟩) J (w.setRow b z) t (by simpa[z]using g7)];show K (a.put o.dst _) _;rw[I];refine h.next _ _ ?_;have a2:z.size=vs.size:=by simp[z];omega
  have d0: ∀q,z.toList[q]? =if q<cp.length then cp[q]? else vs.toList[q]? :=by
   intro q;simp only[z,ayg];rw[Bz _ _ _ _ (by rw[avs];exact g6)];simp
  have a3:(bc l l2).length=l.length:=by simp[bc];omega
  have h9:=h.sat.write (bx:= .vec true T f (bc l l2)) V rfl hm (by omega) hh a2 (λd5 g9=>⟨b,_,hm,.inr (.inl ⟨by rw[a3],z,cap,⟨z9,g9,by rw[a2];exact b9⟩,by rw[a2];exact c0,by rw[a3];exact c9,g0,λr hr=> ?_⟩)⟩) rfl own
  ·rw[he,pN,b0]
   exact⟨m,h9.put (h.dst k I).1 (h.dst k I).2 h.tags rfl⟩
  ·have d6:=a3▸hr
   have i3:(z.toList.drop (r*f.n)).take f.n=if r<g then(L.drop (r*f.n)).take f.n else(vs.toList.drop (r*f.n)).take f.n:=by
    apply aw2;intro q;rw[fK];by_cases A:r<g
    ·have:=au3 f.n (show r+1<=g from A)
     rw[avx]at this;rw[ava A,fK];split
     ·rw[d0,ava (by omega)]
      simp only[cp];rw[av7,ava (by omega)]
     ·rfl
    ·have:=au3 f.n (show g<=r by omega)
     rw[au6 A,fK];split
     ·rw[d0,au6 (by omega)]
     ·rfl
   rw[i3];by_cases A:r<g
   ·rw[ava A]
    have:=Qm hr (by rw[<- y];exact A);rw[this];exact(f5 r (by omega)).mono d5 fJ _ _ _
   ·rw[au6 A]
    have:=Qo hr d6 (by rw[<- y];exact A);rw[this];exact(g1 r d6).mono d5 fJ _ _ _
 ·cases h4
theorem pU(e:Ty)(q:List e.den): ∀(n j:Nat),(encL e q j n).length=n*e.n
 |0,j=>by simp[encL]
 |n+1,j=>by simp only[encL,bI,au1,pU e q n];grind [lu]
theorem Sl{X:Nat->Nat->Prop}{e:Ty}{q:List e.den}: ∀{n j:Nat} {vs:List Value},vs.length=n*e.n->(∀i,i<n->TR w X e (nth e q ((j+i:Nat):Int)) ((vs.drop (i*e.n)).take e.n))->aE m X w (encL e q j n) vs
 |0,j,vs,hl,_=>by
  have:vs= []:=avt (by simpa using hl);subst this;trivial
 |n+1,j,vs,hl,h=>by
  simp only[encL,bI];rw[<- awi e.n vs];refine aj.append (ja (by grind)) (Sl (by grind) λi hi=> ?_);grind [List.drop_drop,Nat.succ_mul]
theorem aid{c:Call}(b0:o.op= .call c)(b2:c.callee= .builtin .copy){s x:Operand}{U tx:TypeId}(b3:c.args.toList= [s,x])(b4:c.argTypes.toList= [U,tx]){k:Nat}(V:o.dst=some k)
  {d Y Z:TD} {cx:Cell} {el ex:TypeId} {f:Ty} {l l2:List f.den} {j off len:Nat} {cs:List Cell}
  (hD:C.D U=some d) (b6:C.D tx=some Y) (hs:opndc st own none s=some (.arrs j off f len)) (hx:opndc st own none x=some cx)
  (hk:d.kind= .slice el) (c0:Y.kind= .slice ex) (a3:st.box j=some (.cells cs)) (c9:C.D el=some Z) (h2:apNew st f cx=some l2) (hl:decAll f len ((cs.drop off).take (len*f.n))=some l)
  (hn:1<=f.n) (d0:Z.ty.n=f.n) (g1:off+len*f.n<=cs.length)
  (he:e=⟨none,some (k,.v (.one (.int .i64 (min l2.length len)))),[(j,some (.cells (mw cs off (encL f (bc l l2) 0 len))))]⟩)
  (h:At P C φ ν own W st o e m a w K):o.wp P a w K Q:=by
 obtain⟨d1,d6,A,_⟩:=(h.ctx.D U d hD).desc;unfold kindOk at A;rw[hk]at A;obtain⟨_,rfl,t',ag,g4,d7⟩:=A;obtain⟨i,d9,g5,g6⟩:=d7.info;obtain⟨i',a4,e0,g8⟩:=(h.ctx.D el Z c9).info.info;rw[d9]at a4;cases a4;have g9:=e0.trans d0;obtain⟨d2,e1,h8,_⟩:=(h.ctx.D tx Y b6).desc;unfold kindOk at h8;rw[c0]at h8;obtain⟨_,rfl,_⟩:=h8;obtain⟨h9,a5,a1,e2,e3,e4⟩:=HU h.sat h2 (bo h.sat h.tags hx) (by omega) e1;obtain⟨b,hm,M⟩:=bo h.sat h.tags hs;obtain⟨b',vs,T,a6,hh,N⟩:=h.sat.box j _ a3;rw[hm]at a6;cases a6;obtain⟨a9,_,e5⟩:=xQ hl (aj.take (len*f.n) (aj.drop off N));obtain⟨g,A⟩: ∃g,g=min l2.length len:=⟨_,rfl⟩
 have e6:(min (l2.length:Int) len)=g:=by omega
 have e7:(sizeOf el).run P w= .ok f.n w:=by simp_all [sizeOf,typeInfo]
 have e8:(Builtin.firstCells f.n g (a.eval x)).run P w= .ok (h9.take (g*f.n)).toArray w:=by
  rcases e4 with h0|⟨ad,cap,M,e9⟩
  ·subst h0
   have f0:=avt (by simpa using a1);subst f0;have:g=0:=by simp[A]
   rw[this];simpa using a5.cells
  ·rw[M];exact NH (off:=0) (b:=0) (by omega) a1 e9
 have f1:=N.length;simp only[avd]at f1;let cp:=h9.take (g*f.n)
 have i4:cp.length=g*f.n:=by
  have:g*f.n<=l2.length*f.n:=au3 _ (by omega);simp only[cp,avp,a1];omega
 have i5:g*f.n<=len*f.n:=au3 _ (by omega);let y:=(vs.toList.take off++cp++vs.toList.drop (off+cp.length)).toArray
 have f2:=aA7 (P:=P) b off T cp 0 vs w hh (by omega) (λu M=>e2 u (awg M));have f3:(execOp a.eval o).run P w= .ok (.value (.int .i64 g)) (w.setRow b y):=by
  refine P3 b0 b2 b3 b4 ?_;rw[M];have f4:=A.symm;unfold Builtin.copy_;have O:(storeCells ⟨b,off,none⟩ cp 0).run P w= .ok () (w.setRow b y):=by simpa[y]using f2
  simp[avg d6,a5.len,f4,e7,e8,goInt];simp only[cp]at O;rw[O];rfl
 unfold Oper.wp;rw[f3];show K (a.put o.dst _) _;rw[V];refine h.next _ _ ?_;have f5:y.size=vs.size:=by simp[y];omega
 have S: ∀q,y.toList[q]? =if q<off then vs.toList[q]? else if q-off<cp.length then cp[q-off]? else vs.toList[q]? :=by
  intro q;simp only[y,ayg];rw[avb,azl];simp only[avp,avd];by_cases t:q<off
  ·rw[ava (by omega),av7,ava t,ava t]
  ·rw[au6 (by omega),au6 t,azl,show min off vs.size=off by omega]
   by_cases J:q-off<cp.length
   ·rw[ava J,ava J]
   ·rw[au6 J,au6 J,awl,show off+cp.length+(q-off-cp.length)=q by omega]
 clear_value y
 have f6:aE m (XA φ m) w (encL f (bc l l2) 0 len) ((y.toList.drop off).take (len*f.n)):=by
  refine Sl (by simp;omega) λr hr=> ?_
  have i6:(bc l l2).length=len:=by simp[bc];omega
  have f7:nth f (bc l l2) ((0+r:Nat):Int)=(bc l l2)[r]'(by omega):=by
   simp only[nth,avs,awa];rw[au9,avc (by omega)];rfl
  rw[f7];have i7:r*f.n+f.n<=len*f.n:=by rw[<- avx];exact au3 _ hr
  have f8:((((y.toList.drop off).take (len*f.n)).drop (r*f.n)).take f.n)=if r<g then(h9.drop (r*f.n)).take f.n else((((vs.toList.drop off).take (len*f.n)).drop (r*f.n)).take f.n):=by
   apply aw2;intro q;have I: ∀L:List Value,((L.drop (r*f.n)).take f.n)[q]? =if q<f.n then L[r*f.n+q]? else none:=λL=>fK _ _ _ _
   by_cases t:q<f.n
   ·by_cases z:r<g
    ·have:=au3 f.n (show r+1<=g from z)
     rw[avx]at this;rw[ava z,I,I,ava t,ava t,av7,ava (by omega),awl,S,au6 (by omega),ava (by omega)];simp only[cp];rw[show off+(r*f.n+q)-off=r*f.n+q by omega,av7,ava (by omega)]
    ·have:=au3 f.n (show g<=r by omega)
     rw[au6 z,I,I,ava t,ava t,av7,ava (by omega),awl,S,au6 (by omega),au6 (by omega),av7,ava (by omega),awl]
   ·by_cases z:r<g
    ·rw[ava z,I,I,au6 t,au6 t]
    ·rw[au6 z,I,I,au6 t,au6 t]
  rw[f8];by_cases z:r<g
  ·rw[ava z]
   have:(bc l l2)[r]'(by omega)=l2[r]'(by omega):=Qm (by omega) (by rw[a9,<- A];exact z);rw[this];exact e3 r (by omega)
  ·rw[au6 z]
   have:(bc l l2)[r]'(by omega)=l[r]'(by omega):=Qo (by omega) (by omega) (by rw[a9,<- A];exact z);rw[this];exact e5 r (by omega)
 have O:=h.sat.store (cs':=mw cs off (encL f (bc l l2) 0 len)) a3 hm hh f5 ?_ own
 ·rw[he,pN,e6]
  exact⟨m,O.put (h.dst k V).1 (h.dst k V).2 h.tags rfl⟩
 ·rw[yq,pU]
  have f9:y.toList=vs.toList.take off++(y.toList.drop off).take (len*f.n)++vs.toList.drop (off+len*f.n):=by
   apply aw2;intro q;rw[avb];by_cases t:q<off
   ·rw[S,ava t,aw9 (by simp;omega),av7,ava t]
   ·rw[ayq (by simp;omega),avp,avd,azl,show min off vs.size=off by omega]
    simp only[avp,avo,avd];by_cases J:q-off<len*f.n
    ·rw[ava (by omega),av7,ava J,awl,show off+(q-off)=q by omega]
    ·rw[au6 (by omega),awl,S,au6 t,au6 (by omega),show off+len*f.n+(q-off-min (len*f.n) (y.size-off))=q by omega]
  rw[f9];exact aj.append (aj.append (aj.take _ N) f6) (aj.drop _ N)
end
end
section
section
variable {φ:Fr} {ν:Nat->Bool} {m:Map} {st:ASt} {a:Act} {w w':World} {own:List (bS)} {W:List Nat} {P:Program} {C:Ctx} {o:Oper} {e:Eff}
 {K:Act->World->Prop} {Q:Exit->Act->World->Prop}
theorem adK{t:TypeId}{len:Nat}{parts:Array (Nat×Operand)}(h8:o.op= .buildSlice t len parts)(h:At P C φ ν own W st o e m a w K):o.wp P a w K Q:=by
 have g:=h.ev;simp only[evOp,h8]at g;split at g;case h_2=>cases g
 rename_i d hD;split at g;case h_2=>cases g
 rename_i el f hk c9;split at g;case h_2=>cases g
 rename_i cs d0;split at g;case h_2=>cases g
 rename_i l s J hl h9 d5;obtain⟨L,y,a1,d6⟩:s.ty.n=f.n/\len*f.n<=16777216/\0<f.n/\((st.box J=none/\some (Eff.mk none (some (J,.v (.one (.bq f J)))) [(J,some (.vec true el f l))])=some e)\/(1<=len*f.n/\outE o none (.one (.bh f .exact l))=some e)):=by
  cases hm:mem J C.bs with
  |true=>
   rw[hm]at g;simp only[cnd]at g;split at g;case h_2=>cases g
   rename_i d7;obtain⟨T,u⟩:=ba g;obtain⟨L,y⟩:=aF T;obtain⟨y,A⟩:=aF y;exact⟨beq_eq L,au7 y,au7 A,.inl ⟨d7,u⟩⟩
  |false=>
   rw[hm]at g;obtain⟨T,u⟩:=ba g;obtain⟨L,y⟩:=aF T;obtain⟨y,A⟩:=aF y;have A:=au7 A;exact⟨beq_eq L,au7 y,Nat.pos_of_ne_zero λh0=>by simp_all,.inr ⟨A,u⟩⟩
 obtain⟨e0,d9,U,_⟩:=(h.ctx.D t d hD).desc;unfold kindOk at U;rw[hk]at U;obtain⟨_,rfl,t',O,a2,a3⟩:=U;rw[c9]at a2;cases a2;have V:=h.ctx.D el s h9;obtain⟨i,e2,f6,e3⟩:=a3.info;obtain⟨j,a4,f7,a5⟩:=V.info.info;rw[e2]at a4;cases a4;have hz:=G4 (m:=m) (w:=w) (X:=XA φ m) V.one;have a6:=by have:=hz.length;rw[QI,L]at this;simpa using this.symm
 have e5: ∀z:Array Value,z=(cd s.agg (zeroVs s.ty)).cells->aE m (XA φ m) w (zeroCells f) z.toList:=by
  intro z M;subst M;have e1:=by rw[e3]at a5;exact axk a5
  rw[<- e1];have e6:O=false->f.n=1:=by
   intro hf;rw[<- e1]at a6;have:(cd O (zeroVs f)).cells.size=1\/ ∃vs,cd O (zeroVs f)= .agg vs:=by
    cases hm:cd O (zeroVs f)<;>first|exact .inl rfl|exact .inr ⟨_,rfl⟩
   rcases this with h1|⟨vs,h1⟩
   ·omega
   ·subst hf
    simp only[cd,awd,azj]at h1;have M:aE m (XA φ m) w (zeroCells f) (zeroVs f):=uH f;cases hzv:zeroVs f with
    |nil=>rw[hzv]at h1;cases h1
    |cons v r=>
     rw[hzv]at h1 M;simp only[List.headD_cons]at h1;match a9:zeroCells f,M with
     |c::cs,M=>have:=CR.one M.1;rw[h1]at this;cases this
  exact G4 (d:={ kind:= .ed,ty:=f,agg:=O,bytes:=0,eq:=false}) e6
 let z:=(cd s.agg (zeroVs s.ty)).cells
 have a9:=e5 z rfl;have hr:=OM z (by show 0<(cd s.agg (zeroVs s.ty)).cells.size;omega) len;have b0:=a6;rw[b0]at hr;have e8:aE m (XA φ m) w (repC (zeroCells f) len) ((Array.range (len*f.n)).map (z[· % z.size]!)).toList:=by
  rw[b0,hr];exact RY a9 len
 obtain⟨k,h1,h2⟩:=BX (pl:=λx=>some (x*f.n,f.n)) h.ctx h.sat h.tags (λi f8 off d' hp b3=>by
   simp only[aup,awk]at hp;obtain⟨rfl,rfl⟩:=hp;rw[h9]at b3;cases b3;rw[L];rfl) parts.toList _ cs _ d0 e8
 obtain⟨I,e9,b4⟩:=xQ hl h2;have b5:(execOp a.eval o).run P w= .ok (.value (.slice (some ⟨w.heap.size,0,none⟩) len len)) (w.alloc (.cells k el)):=by
  have f0:(zeroValue el).run P w= .ok (cd s.agg (zeroVs s.ty)) w:=NQ V.info;simp only[execOp,h8,Instr.buildSlice,auy,avg d9,aus,run_sizeOf a3];rw[au6 (by omega)];have b6:Instr.fill (λi=>some (i*f.n,f.n)) ((Array.range (len*f.n)).map (z[· % z.size]!)) (parts.map λ(i,x)=>(i,a.eval x)).toList=some k:=by
   rw[<- h1];simp
  by_cases h0:len*f.n=0
  ·rw[ava h0]
   simp only[auy,avh,aus];have f1:(Array.range (len*f.n)).map ((#[]:Array Value)[· % (#[]:Array Value).size]!)=(Array.range (len*f.n)).map (z[· % z.size]!):=by rw[h0];simp
   rw[f1,b6];simp[newRow]
  ·rw[au6 h0]
   simp only[auy,avh,aus,f0];rw[b6];simp[newRow]
 have S:Below w.heap.size w (w.alloc (.cells k el)):=(aw6 _ _).alloc (au2 _) _;have Y:=by simpa using e9
 have N:(w.alloc (.cells k el)).heap[w.heap.size]? =some (.cells k el):=by unfold World.alloc;simp only[ayz]
 have b7:len<=maxLen:=by
  have:len<=len*f.n:=aBe _ a1;unfold maxLen;omega
 rcases d6 with⟨f2,u⟩|⟨A,u⟩
 ·simp only[aup]at u
  exact h.newRow (kl:=none) (tv:= .v (.one (.bq f J))) (bx:= .vec true el f l) d5 f2 (by rw[<- u]) (by rw[<- u];rfl) (λj Z=>by cases Z)
   b5 S (λ_=>⟨au2 _,by simp⟩)
   (λm' h4 h5 h6=>⟨_,_,h4,.inr (.inl ⟨by rw[I],k,len,⟨(0,0),N,.inl rfl⟩,Y,by rw[I];exact au2 _,b7,λi hi=>(b4 i hi).mono (mV S) h6 _ _ _⟩)⟩)
   (λm' h4=>⟨_,_,h4,by omega,.inr ⟨by omega,len,el,by rw[eN],by unfold World.shape?;rw[N];simp[Y],by rw[eN];exact au2 _,b7⟩⟩)
 refine h.out u b5 S ⟨.inr ⟨⟨w.heap.size,0,none⟩,len,by rw[I],by omega,?_,λ_=>rfl,?_,?_⟩,.inr ⟨?_,w.heap.size,el,by rw[I],?_⟩⟩
 ·have:len<=len*f.n:=aBe _ a1
  unfold maxLen;omega
 ·intro i hi
  have N:(w.alloc (.cells k el)).heap[w.heap.size]? =some (.cells k el):=by unfold World.alloc;simp only[ayz]
  have g0:i*f.n+f.n<=len*f.n:=by rw[<- avx];exact au3 _ (by omega)
  refine⟨(k.toList.drop (i*f.n)).take f.n,by simp;omega,λj Z=> ?_,(b4 i hi).mono (mV S) fJ _ _ _⟩;rw[m1 N];simp only[avs];rw[au9,av7,ava Z,awl,avy,awp (by omega)];rfl
 ·intro p _ _ hX
  exact absurd (qe h.sat hX) (by simp)
 ·intro h0
  rw[h0]at I;have:len=0:=I.symm;rw[this]at A;simp at A
 ·unfold World.shape?
  have N:(w.alloc (.cells k el)).heap[w.heap.size]? =some (.cells k el):=by unfold World.alloc;simp only[ayz]
  rw[N];simp[Y,I]
theorem ahE{t:TypeId}{x i:Operand}(u:o.op= .index t x i)(h:At P C φ ν own W st o e m a w K):o.wp P a w K Q:=by
 have f:=h.ev;simp only[evOp,u]at f;split at f;case h_3=>cases f
 case h_1=>
  rename_i d s k n y z hi;split at f;case h_2=>cases f
  rename_i N T U;obtain⟨h0,h1⟩:=h.nH f;have A:a.eval i= .int k n:=bo h.sat h.tags hi;have I:a.eval x= .string s:=lq h.sat h.tags z;obtain⟨V,J,_,j⟩:=(h.ctx.D t d y).desc;have j:=j T;rw[U]at j;simp only[plainOk]at j;subst j;refine h.cq f ?_ rfl;simp only[execOp,u,I,A,Instr.index,auy,avg J,aus,asIntOf,avh];have L:n.toNat<s.size:=by omega
  have Y:s[n.toNat]? =some (s[n.toNat]'L):=by simp_all
  rw[ava h0,Y];have:((s[n.toNat]'L).toNat:Int)=aO s n:=by
   unfold aO;congr 2
   rw[avl,awp (show n.toNat<s.data.size from L)];rfl
  simp_all
 rename_i d cs k n y z hi;split at f;case h_2=>cases f
 rename_i len el N;split at f;case h_2=>cases f
 rename_i g O;split at f;case h_2=>cases f
 rename_i l hl;split at f;case h_2=>cases f
 rename_i v Z;have h8:=h.nH f;have A:a.eval i= .int k n:=bo h.sat h.tags hi;obtain⟨us,I,h9⟩:=lq h.sat h.tags z;obtain⟨V,J,M,_⟩:=(h.ctx.D t d y).desc;unfold kindOk at M;rw[N]at M;obtain⟨_,rfl⟩:=M;obtain⟨a4,a5,a1⟩:=xQ hl h9;have a2:n.toNat<l.length:=by omega
 have a3:nth g.ty l n=l[n.toNat]:=by simp_all [nth]
 have S:=ja (m:=m) (a1 n.toNat a2);rw[<- a3]at S;have a6:n.toNat*g.ty.n+g.ty.n<=len*g.ty.n:=by rw[<- avx];exact au3 _ (by omega)
 refine h.cq f ?_ (pV Z S);simp only[execOp,u,I,A,Instr.index,auy,avg J,aus,asIntOf,avh];rw[ava h8];simp only[auy,run_sizeOf (h.ctx.D el g O).info,aus];rw[pT (h.ctx.D el g O) (by simp_all)];rfl
theorem pS(hs:aG φ ν m st a w)(ht:et ν own): ∀{f:List (Option Ty)} {xs:List Operand} {vs:List SV},allSV st own f xs=some vs->aj (SR m (XA φ m) w) vs (xs.map a.eval)
 |_,[],vs,h=>by simp only[allSV,aup]at h;subst h;trivial
 |f,x::xs,vs,h=>by
  simp only[allSV]at h;split at h;case h_2=>cases h
  rename_i s l h1 h2;cases h;exact⟨lq hs ht h1,pS hs ht h2⟩
def SRg(R:Cell->Value->Prop):SV->Value->Prop
 | .one c,v=>R c v
 | .agg cs,v=> ∃vs,v= .agg vs/\aj R cs vs.toList
theorem Bu{R:Cell->Value->Prop}: ∀{g:List (Option Nat)} {xs:List SV} {cs:List Cell} {vs:List Value},shapes g xs=some cs->aj (SRg R) xs vs-> ∃cv,ec g vs cv/\aj R cs cv
 | [],[],cs,vs,h,f=>by
  simp only[shapes,aup]at h;subst h;match vs,f with| [],_=>exact⟨[],rfl,trivial⟩
 |none::g,.one c::xs,cs,vs,h,f=>by
  simp only[shapes,av6]at h;obtain⟨r,h1,rfl⟩:=h;match vs,f with
  |v::vs,f=>
   obtain⟨cv,h2,h3⟩:=Bu h1 f.2;exact⟨v::cv,⟨cv,rfl,h2⟩,f.1,h3⟩
 |some n::g,.agg k::xs,cs,vs,h,f=>by
  obtain⟨hb,h⟩:=ba h;rw[av6]at h;obtain⟨r,h1,rfl⟩:=h;match vs,f with
  |v::vs,f=>
   obtain⟨us,rfl,j⟩:=f.1;obtain⟨cv,h2,h3⟩:=Bu h1 f.2;have i:=beq_eq hb;rw[gu]at i;exact⟨us.toList++cv,⟨us.toList,cv,by simp,by rw[<- i];exact j.length.symm,rfl,h2⟩,by simp_all [bI,aj.append]⟩
 | [],_::_,_,_,h,_=>by simp_all [shapes]
 |none::_,[],_,_,h,_=>by simp_all [shapes]
 |some _::_,[],_,_,h,_=>by simp_all [shapes]
 |none::_,.agg _::_,_,_,h,_=>by simp_all [shapes]
 |some _::_,.one _::_,_,_,h,_=>by simp_all [shapes]
theorem pO{X:Nat->Nat->Prop}{f:List (Option Nat)}{xs:List SV}{cs:List Cell}{vs:List Value}(h:shapes f xs=some cs)(g:aj (SR m X w) xs vs): ∃cv,ec f vs cv/\aE m X w cs cv:=
 Bu h (g.mono λx v i=>by cases x<;>exact i)
theorem rE{X:Nat->Nat->Prop}: ∀{g:List (Option Nat)} {xs:List SV} {cs:List Cell} {vs cv:List Value},unshape g cs=some xs->ec g vs cv->aE m X w cs cv->aj (SR m X w) xs vs
 | [],xs,[],vs,cv,h,hs,f=>by
  simp only[unshape,aup]at h;subst h;match vs,hs with| [],_=>trivial
 |none::g,xs,c::cs,vs,cv,h,hs,f=>by
  simp only[unshape,av6]at h;obtain⟨r,h1,rfl⟩:=h;match vs,hs with
  |v::vs,hs=>
   obtain⟨i,rfl,h2⟩:=hs;exact⟨f.1,rE h1 h2 f.2⟩
 |some n::g,xs,cs,vs,cv,h,hs,f=>by
  simp only[unshape,av6]at h;obtain⟨r,h1,rfl⟩:=h;match vs,hs with
  |v::vs,hs=>
   obtain⟨j,i,rfl,hl,rfl,h2⟩:=hs;have h3:=aj.take n f;have h4:=aj.drop n f;rw[show(j++i).drop n=i by simp_all]at h4;exact⟨⟨_,rfl,by simp_all [aE]⟩,rE h1 h2 h4⟩
 | [],_,_::_,_,_,h,_,_=>by simp_all [unshape]
 |none::_,_,[],_,_,h,_,_=>by simp_all [unshape]
def zq(ao:ah)(cs:List Value)(v:Value):Prop:=
 match ao with
  | .none=>v= .tuple #[]
  | .one s=>ec [s] [v] cs
  | .tup f=> ∃vs:List Value,v= .tuple vs.toArray/\ec f vs cs
theorem xY{X:Nat->Nat->Prop}{ao:ah}{cs:List Cell}{cv:List Value}{tv:TV}{v:Value}(h:mkRes ao cs=some tv)(g:aE m X w cs cv)(h2:zq ao cv v):VR m X w tv v:=by
 cases ao with
 |none=>simp only[mkRes,aup]at h;subst h;exact⟨#[],h2,trivial⟩
 |one s=>
  simp only[mkRes]at h;split at h;case h_2=>cases h
  rename_i x f;cases h;exact(rE f h2 g).1
 |tup i=>
  simp only[mkRes,av6]at h;obtain⟨xs,f,rfl⟩:=h;obtain⟨vs,rfl,h3⟩:=h2;exact⟨_,rfl,by grind [rE]⟩
theorem rG{f:FuncId}{fn:Func}(g:P.funcs[f]? =some fn)(h:(fn.name== "runtime.NumGoroutine")=false)(hb:fn.body.isNone=false)(args:Array Value):
  (callFunc f args).run P w= .ok (.enter f args) w:=by
 unfold callFunc;simp only[auy];have i:(program).run P w= .ok P w:=rfl;rw[i];simp only[aus,g,h,hb];rfl
theorem aeI(f:Array TypeId)(t:TypeId)(k k':IntKind)(x y:Int):(Builtin.min_ f t #[.int k x,.int k' y]).run P w= .ok (.int k (min x y)) w:=by
 have:min x y=if y<x then y else x:=by
  omega
 simp_all [Builtin.min_,Builtin.min2]
theorem aeP(f:Array TypeId)(t:TypeId)(k k':IntKind)(x y:Int):(Builtin.max_ f t #[.int k x,.int k' y]).run P w= .ok (.int k (max x y)) w:=by
 have:max x y=if y>x then y else x:=by
  omega
 simp_all [Builtin.max_,Builtin.max2]
theorem aej(f:Array TypeId)(t:TypeId)(k k' g:IntKind)(x y z:Int):(Builtin.max_ f t #[.int k x,.int k' y,.int g z]).run P w= .ok (.int k (max (max x y) z)) w:=by
 have h:max x y=if y>x then y else x:=by
  omega
 have i: ∀q:Int,max q z=if z>q then z else q:=by
  omega
 simp_all [Builtin.max_,Builtin.max2]
theorem aei(f:Array TypeId)(t:TypeId)(k k' g:IntKind)(x y z:Int):(Builtin.min_ f t #[.int k x,.int k' y,.int g z]).run P w= .ok (.int k (min (min x y) z)) w:=by
 have h:min x y=if y<x then y else x:=by
  omega
 have i: ∀q:Int,min q z=if z<q then z else q:=by
  omega
 simp_all [Builtin.min_,Builtin.min2]
theorem BA{f:Array TypeId}{t ty el:TypeId}(h0:f[0]? =some t)(g:P.underlying t=some (.slice el))(b:Option Addr)(n c:Nat):
  (Builtin.len_ f ty #[.slice b n c]).run P w= .ok (.int .i64 n) w:=by
 simp_all [Builtin.len_,goInt,avg]
theorem ad5{f:Array TypeId}{t ty:TypeId}(h0:f[0]? =some t)(g:P.underlying t=some .string)(s:ByteArray):
  (Builtin.len_ f ty #[.string s]).run P w= .ok (.int .i64 s.size) w:=by
 simp_all [Builtin.len_,goInt,avg]
def vJ(n0:Nat)(T:TypeId)(X:Nat->Nat->Prop)(w:World)(c:Cell)(v:Value):Prop:=
 match c with
 | .int k n=>v= .int k n| .bool b=>v= .bool b| .flt k n=>v= .float k n| .str s=>v= .string s| .fn f=>v=Nz f
 | .bh e _ l=>(v= .slice none 0 0/\l= [])\/(∃b cap us,v= .slice (some ⟨b,0,none⟩) l.length cap/\n0<=b/\vq w b us (qZ T) (e= .int .u8)/\us.size=cap*e.n/\l.length<=cap/\cap<=maxLen/\nF w e.n (TR w X e) l b 0)\/
  (Nat.ble lU T=true/\ ∃b cap g,v= .slice (some ⟨b,0,none⟩) l.length cap/\w.shape? b=some (g,l.length*e.n)/\l.length*e.n=cap*e.n/\l.length<=cap/\cap<=maxLen/\jy w X e.n (TR w X e) l b 0)
 |_=>False
theorem afU{X:Nat->Nat->Prop}{n0:Nat}{T:TypeId}: ∀{t:Ty} {x:t.den} {vs:List Value},TR w X t x vs->aj (ke n0 T w) (enc t x) vs->aj (vJ n0 T X w) (enc t x) vs:=by
 intro t;induction t with
 |pair a b y z=>
  intro x vs h f;obtain⟨j,v2,rfl,h1,h2⟩:=h;simp only[enc,bI]at f⊢;obtain⟨b1,A,h3,h4,h5⟩:=aj.split f;have I:j.length=b1.length:=by rw[h1.len,<- h4.length,lu]
  grind [List.append_inj,aj.append]
 |sl e J=>
  intro l vs h f;obtain⟨v,rfl,h1⟩:=h;refine⟨?_,trivial⟩;rcases h1 with⟨h2,h3⟩|⟨ad,cap,h2,h3,h4,h5,h6⟩
  ·exact .inl ⟨h3,h2⟩
  ·rcases f.1 with h7|⟨b,n,L,us,h7,g,i,k,M⟩|⟨s,b,n,N,u,h7,g,i⟩
   ·rw[h7]at h2;cases h2
   ·rw[h2]at h7
    cases h7;exact .inr (.inl ⟨b,_,us,h2,g,i,k,h3,h4,h6.1⟩)
   ·rw[h2]at h7
    cases h7;exact .inr (.inr ⟨s,b,_,u,h2,g,i,h3,h4,h6⟩)
 |unit=>intro x vs h _;cases h;trivial
 |_=>intro x vs h _;cases h;exact⟨rfl,trivial⟩
theorem vJ.plain{n0:Nat}{T:TypeId}{X X':Nat->Nat->Prop}{c:Cell}{v:Value}(h:vJ n0 T X w c v)(g: ∀e tl l,c≠ .bh e tl l):CR m X' w c v:=by
 cases c with
 |bh e tl l=>grind
 |int k n=>exact h
 |bool b=>exact h
 |flt k n=>exact h
 |str s=>exact h
 |fn f=>exact h
 |_=>exact h.elim
theorem OC{n0:Nat}{T:TypeId}{X X':Nat->Nat->Prop}: ∀{cs:List Cell} {vs:List Value},aj (vJ n0 T X w) cs vs->mA cs=0->aE m X' w cs vs
 | [],[],_,_=>trivial
 | [],_::_,h,_=>h.elim
 |_::_,[],h,_=>h.elim
 |c::cs,v::vs,h,hl=>by
  have f: ∀e tl l,c≠ .bh e tl l:=by grind [mA]
  have hr:mA cs=0:=by simp_all [mA]
  exact⟨h.1.plain f,OC h.2 hr⟩
theorem N0{n0:Nat}{T:TypeId}{X:Nat->Nat->Prop}{d:Nat}: ∀{cs:List Cell} {vs:List Value} {e:Ty} {l:List e.den},aj (vJ n0 T X w) cs vs->mA cs=1->AG cs=some ⟨e,l⟩->
  ∃v tl,vJ n0 T X w (.bh e tl l) v/\ ∀(g:Map) (X':Nat->Nat->Prop),CR g X' w (.bq e d) v->aE g X' w (frCells d cs) vs
 | [],vs,e,l,_,hl,_=>by simp_all [mA]
 |_::_,[],_,_,h,_,_=>h.elim
 |c::cs,v::vs,e,l,h,hl,h1=>by
  by_cases i: ∃j f k,c= .bh j f k
  ·obtain⟨j,f,k,rfl⟩:=i
   simp only[AG,aup,Sigma.mk.injEq]at h1;obtain⟨rfl,h1⟩:=h1;cases h1;have hr:=by simpa[mA]using hl
   exact⟨v,f,h.1,λg X' s=>⟨s,OC h.2 hr⟩⟩
  ·have i:=λe tl l t=>i ⟨e,tl,l,t⟩
   have hr:mA cs=1/\AG cs=some ⟨e,l⟩/\frCells d (c::cs)=c::frCells d cs:=by
    cases c with
    |bh j f k=>exact absurd rfl (i j f k)
    |_=>exact⟨hl,h1,rfl⟩
   obtain⟨u,f,h2,h3⟩:=N0 h.2 hr.1 hr.2.1;refine⟨u,f,h2,λg X' s=> ?_⟩;rw[hr.2.2];exact⟨h.1.plain i,h3 g X' s⟩
theorem xx: ∀{l:List Nat},oM l=true->l.Nodup
 | [],_=>aA5
 |x::r,h=>by
  obtain⟨h1,h2⟩:=aF h;refine List.nodup_cons.2 ⟨λf=> ?_,xx h2⟩;have:=fX h1;rw[cN.2 f]at this;simp_all
theorem lv{α:Type}(l:List α):eZ l=l.length:=by induction l<;>simp[eZ, *]
theorem aj.eV{α β:Type}{R:α->β->Prop}: ∀{mask:List Bool} {f:List α} {bs:List β},aj R f bs->aj R (eV mask f) (eV mask bs)
 | [],[],[],_=>trivial
 | [],_::_,_::_,_=>trivial
 |true::_,[],[],_=>trivial
 |false::_,[],[],_=>trivial
 |true::mask,_::_,_::_,h=>aj.eV (mask:=mask) h.2
 |false::mask,_::_,_::_,h=>⟨h.1,aj.eV h.2⟩
 |_,[],_::_,h=>h.elim
 |_,_::_,[],h=>h.elim
theorem aj.fj{α β:Type}{R:α->β->Prop}: ∀{mask:List Bool} {f:List α} {bs:List β},aj R f bs->aj R (fj mask f) (fj mask bs)
 | [],[],[],_=>trivial
 | [],_::_,_::_,_=>trivial
 |true::_,[],[],_=>trivial
 |false::_,[],[],_=>trivial
 |true::mask,_::_,_::_,h=>⟨h.1,aj.fj h.2⟩
 |false::mask,_::_,_::_,h=>aj.fj (mask:=mask) h.2
 |_,[],_::_,h=>h.elim
 |_,_::_,[],h=>h.elim
theorem Ix{X:Nat->Nat->Prop}: ∀{xs:List SV} {vs:List Value} {ks:List Nat},boxKs xs=some ks->aj (SR m X w) xs vs->aj (λk v=> ∃b,m k=some (b,0)/\v= .pointer (some ⟨b,0,none⟩)) ks vs
 | [],vs,ks,h,f=>by
  simp only[boxKs,aup]at h;subst h;match vs,f with| [],_=>exact trivial
 |x::xs,[],ks,h,f=>f.elim
 |x::xs,v::vs,ks,h,f=>by
  unfold boxKs at h;split at h
  ·simp_all
  ·rename_i k r g
   cases g;split at h;case h_2=>cases h
   rename_i j i;cases h;obtain⟨b,h1,h2⟩:=f.1;exact⟨⟨b,h1,h2⟩,Ix i f.2⟩
  ·cases h
def cZ(m:Map)(w:World):List (aR)->List Value->Prop
 | [],vs=>vs= []
 |(k,n)::r,vs=> ∃(b:Nat) (us:Array Value) (T:TypeId) (f:List Value),m k=some (b,0)/\w.heap[b]? =some (.cells us T (0,0))/\us.size=n/\vs=us.toList++f/\cZ m w r f
theorem nz(hs:aG φ ν m st a w): ∀{l:List (aR)} {cs:List Cell},rdW st l=some cs-> ∃vs,cZ m w l vs/\aE m (XA φ m) w cs vs/\ ∀k∈firsts l,∃g,st.box k=some (.cells g)
 | [],cs,h=>by simp only[rdW,aup]at h;subst h;exact⟨[],rfl,trivial,λk t=>by cases t⟩
 |(k,n)::r,cs,h=>by
  simp only[rdW]at h;split at h;case h_2=>cases h
  rename_i g cs' hb hr;obtain⟨i,h1,h2,h3⟩:=nz hs hr;obtain⟨f,h⟩:=ba h;cases h;obtain⟨b,us,T,hm,u,s⟩:=hs.box k _ hb;have f:=beq_eq f;rw[gu]at f;refine⟨us.toList++i,⟨b,us,T,i,hm,u,by rw[<- f];simpa using s.length.symm,rfl,h1⟩,by rw[bI];exact aj.append s h2,λj x=> ?_⟩;grind [firsts]
theorem Ee(hs:aG φ ν m st a w): ∀{l:List (aR)} {cs:List Cell},kq st l=some cs-> ∃vs,cZ m w l vs/\aE m (XA φ m) w cs vs
 | [],cs,h=>by simp only[kq,aup]at h;subst h;exact⟨[],rfl,trivial⟩
 |(k,n)::r,cs,h=>by
  simp only[kq]at h;split at h;case h_2=>cases h
  rename_i i cs' hb hr;obtain⟨j,h1,h2⟩:=Ee hs hr;obtain⟨g,h⟩:=ba h;cases h;have f:st.box k=some (.cells i)\/st.box k=some (.ro i):=by
   grind [rdBox]
  have: ∃b us T,m k=some (b,0)/\w.heap[b]? =some (.cells us T (0,0))/\aE m (XA φ m) w i us.toList:=by
   rcases f with f|f
   ·exact hs.box k _ f
   ·exact hs.box k _ f
  obtain⟨b,us,T,hm,t,s⟩:=this;have g:=beq_eq g;rw[gu]at g;exact⟨us.toList++j,⟨b,us,T,j,hm,t,by rw[<- g];simpa using s.length.symm,rfl,h1⟩,by rw[bI];exact aj.append s h2⟩
theorem OW{X:Nat->Nat->Prop}: ∀{ks sz:List Nat} {vs pc:List Value},aj (λk v=> ∃b,m k=some (b,0)/\v= .pointer (some ⟨b,0,none⟩)) ks vs->ks.length=sz.length->cZ m w (zipN ks sz) pc->
  (∀k∈ks,∀b,m k=some (b,0)-> ∀q,X b q)-> ∃bs,aj (λk b=>m k=some (b,0)) ks bs/\gr w X bs sz vs pc
 | [],[],vs,pc,f,hl,hb,g=>by
  match vs,f with| [],_=>exact⟨[],trivial,hb⟩
 | [],_::_,vs,pc,f,hl,hb,g=>by simp_all
 |_::_,[],vs,pc,f,hl,hb,g=>by simp_all
 |k::ks,n::sz,[],pc,f,hl,hb,g=>f.elim
 |k::ks,n::sz,v::vs,pc,f,hl,hb,g=>by
  obtain⟨b,us,T,i,hm,l,s,rfl,t⟩:=hb;obtain⟨y,h,u⟩:=f.1;rw[hm]at h;cases h;obtain⟨bs,h1,h2⟩:=OW f.2 (by simp_all) t (λj x=>g j (awh _ x));exact⟨b::bs,⟨hm,h1⟩,u,g k (by simp) b hm,us,T,i,l,s,rfl,h2⟩
theorem Hk{X:Nat->Nat->Prop}: ∀{ks sz bs:List Nat} {vs pc:List Value},aj (λk b=>m k=some (b,0)) ks bs->gr w X bs sz vs pc->cZ m w (zipN ks sz) pc
 | [],sz,[],vs,pc,_,h=>by
  cases sz with
  |nil=>cases vs with|nil=>exact h|cons=>exact h.elim
  |cons=>cases vs<;>exact h.elim
 | [],_,_::_,_,_,h,_=>h.elim
 |_::_,_,[],_,_,h,_=>h.elim
 |k::ks,[],b::bs,vs,pc,_,h=>by cases vs<;>exact h.elim
 |k::ks,n::sz,b::bs,[],pc,_,h=>h.elim
 |k::ks,n::sz,b::bs,v::vs,pc,f,h=>by
  obtain⟨_,_,us,T,g,i,j,rfl,l⟩:=h;exact⟨b,us,T,g,f.1,i,j,rfl,Hk f.2 l⟩
theorem aj.lk{α β:Type}{R:α->β->Prop}: ∀{f:List α} {bs:List β},aj R f bs-> ∀b∈bs,∃a∈f,R a b
 | [],[],_,b,hb=>by cases hb
 |a::f,b::bs,h,c,g=>by
  rcases List.mem_cons.1 g with rfl|g
  ·exact⟨a,by simp,h.1⟩
  ·obtain⟨x,i,hr⟩:=aj.lk h.2 c g;grind
 | [],_::_,h,_,_=>h.elim
 |_::_,[],h,_,_=>h.elim
theorem aj.mem_left{α β:Type}{R:α->β->Prop}: ∀{f:List α} {bs:List β},aj R f bs-> ∀a∈f,∃b∈bs,R a b
 | [],[],_,b,hb=>by cases hb
 |a::f,b::bs,h,c,g=>by
  rcases List.mem_cons.1 g with rfl|g
  ·exact⟨b,by simp,h.1⟩
  ·obtain⟨x,i,hr⟩:=aj.mem_left h.2 c g;grind
 | [],_::_,h,_,_=>h.elim
 |_::_,[],h,_,_=>h.elim
theorem Iu(hs:aG φ ν m st a w): ∀{ks bs:List Nat},ks.Nodup->aj (λk b=>m k=some (b,0)) ks bs->bs.Nodup
 | [],[],_,_=>aA5
 |k::ks,b::bs,f,h=>by
  obtain⟨h1,h2⟩:=List.nodup_cons.1 f;refine List.nodup_cons.2 ⟨λhb=> ?_,Iu hs h2 h.2⟩;obtain⟨k',i,g⟩:=h.2.lk b hb;have:=hs.inj k k' b 0 0 h.1 g rfl rfl;simp_all
 | [],_::_,_,h=>h.elim
 |_::_,[],_,h=>h.elim
theorem yk{a b:List Cell}:isEx (a++b)=true↔isEx a=true/\isEx b=true:=by
 induction a with
 |nil=>simp[isEx]
 |cons c r f=>
  cases c with
  |bh e tl l=>grind [isEx]
  |_=>simp[isEx,f]
theorem R9{fr:Bool}{c:Cell}(h:isEx [c]=true):unvC fr st c=some c:=by
 cases c with
 |bq e k=>cases h
 |_=>rfl
theorem Js{fr:Bool}: ∀{cs:List Cell},isEx cs=true->gh fr st cs=some cs
 | [],_=>rfl
 |c::r,h=>by
  have h1:isEx [c]=true/\isEx r=true:=yk.1 h;simp only[gh,R9 h1.1,Js h1.2]
theorem PW{fr:Bool}: ∀{xs:List SV},EY xs=true->unvSs fr st xs=some xs
 | [],_=>rfl
 |x::r,h=>by
  obtain⟨h1,h2⟩:=aF h;have:unvS fr st x=some x:=by
   cases x with
   |one c=>simp only[unvS,R9 (show isEx [c]=true from h1)]
   |agg cs=>simp only[unvS,Js (show isEx cs=true from h1)]
  simp only[unvSs,this,PW h2]
theorem HG: ∀{g:List (Option Nat)} {xs:List SV} {cs:List Cell},shapes g xs=some cs->EY xs=true->isEx cs=true
 | [],[],cs,h,_=>by simp only[shapes,aup]at h;subst h;rfl
 |none::s,.one c::xs,cs,h,f=>by
  obtain⟨h1,h2⟩:=aF f;simp only[shapes,av6]at h;obtain⟨r,hr,rfl⟩:=h;exact yk.2 ⟨h1,HG hr h2⟩
 |some n::s,.agg i::xs,cs,h,f=>by
  obtain⟨h1,h2⟩:=aF f;obtain⟨_,h⟩:=ba h;simp only[av6]at h;obtain⟨r,hr,rfl⟩:=h;rw[bI];exact yk.2 ⟨h1,HG hr h2⟩
 |none::_,.agg _::_,_,h,_=>by cases h
 |some _::_,.one _::_,_,h,_=>by cases h
 | [],_::_,_,h,_=>by cases h
 |none::_,[],_,h,_=>by cases h
 |some _::_,[],_,h,_=>by cases h
theorem HQ: ∀cs:List Cell,eD false cs=cs
 | []=>rfl
 |c::r=>by cases c<;>simp only[eD,HQ r]
def Cell.no:Cell->Cell
 | .bh e _ l=> .bh e .no l|c=>c
def Cell.pl:Cell->Bool
 | .int _ _=>true| .bool _=>true| .flt _ _=>true| .str _=>true| .bh _ _ _=>true| .fn _=>true|_=>false
theorem H2: ∀{cs:List Cell},isEx cs=true->eD true (cs.map Cell.no)=cs
 | [],_=>rfl
 |c::r,h=>by
  have h1:isEx [c]=true/\isEx r=true:=yk.1 h;cases c with
  |bh e tl l=>
   cases tl with
   |no=>cases h1.1
   |exact=>simp only[axm,Cell.no,eD,H2 h1.2]
  |_=>simp only[axm,Cell.no,eD,H2 h1.2]
theorem CR.VN{g:Map}{X:Nat->Nat->Prop}{c:Cell}{v:Value}(i:c.pl=true)(h:CR m X w c v):CR g X w c v:=by
 cases c with
 |bh e tl l=>exact h
 |int k n=>exact h
 |bool b=>exact h
 |flt k n=>exact h
 |str s=>exact h
 |fn f=>exact h
 |_=>cases i
theorem yU: ∀{t:Ty} {cs:List Cell} {x:t.den},dec t cs=some x->enc t x=cs.map Cell.no/\ ∀c∈cs,c.pl=true:=by
 intro t;induction t with
 |pair a b g i=>
  grind [dec,enc,bI,List.take_append_drop]
 |int k=>
  intro cs x h;unfold dec at h;split at h
  ·obtain⟨h1,h2⟩:=ba h
   cases h2;exact⟨by rw[<- qm h1];rfl,by simp[Cell.pl]⟩
  ·cases h
 |flt k=>
  intro cs x h;unfold dec at h;split at h
  ·obtain⟨h1,h2⟩:=ba h
   cases h2;exact⟨by rw[<- vN h1];rfl,by simp[Cell.pl]⟩
  ·cases h
 |sl e j=>
  intro cs x h;unfold dec at h;split at h
  ·obtain⟨f,h2⟩:=Cd h
   subst f;subst h2;exact⟨rfl,by simp[Cell.pl]⟩
  ·cases h
 |unit=>
  intro cs x h;unfold dec at h;split at h
  ·cases h;exact⟨rfl,by simp⟩
  ·cases h
 |_=>
  intro cs x h;unfold dec at h;split at h
  ·cases h;exact⟨rfl,by simp[Cell.pl]⟩
  ·cases h
theorem applyB_new{f:Nat->Option Bx}{u:Nat}: ∀{l:List (aR)} {cs:List Cell},applyB (newBxs l cs) f u=(match boxesOf .cells l cs u with|some bx=>some bx|none=>f u)
 | [],_=>rfl
 |(k,n)::r,cs=>by
  simp only[newBxs,applyB,boxesOf];by_cases h:u=k
  ·grind [bV]
  ·rw[bL h,bL h];exact applyB_new
theorem xu{X:Nat->Nat->Prop}{rest:List Value}: ∀{l:List (aR)} {cs:List Cell} {vs:List Value} {u:Nat} {bx:Bx},cZ m w l vs->aE m X w cs (vs++rest)->boxesOf .cells l cs u=some bx->
  u∈firsts l/\ ∃cs',bx= .cells cs'/\ ∃b us T,m u=some (b,0)/\w.heap[b]? =some (.cells us T (0,0))/\aE m X w cs' us.toList
 | [],cs,vs,u,bx,_,_,h=>by cases h
 |(k,n)::r,cs,vs,u,bx,j,i,h=>by
  obtain⟨b,us,T,f,hm,s,hl,rfl,h1⟩:=j;have h3:=aj.take n i;have h4:=aj.drop n i;rw[avb,show(us.toList++(f++rest)).take n=us.toList by simp_all]at h3;rw[avb,show(us.toList++(f++rest)).drop n=f++rest by simp_all]at h4;simp only[boxesOf]at h;by_cases g:u=k
  ·rw[bV g]at h
   cases h;subst g;exact⟨by simp[firsts],_,rfl,b,us,T,hm,s,h3⟩
  ·rw[bL g]at h
   obtain⟨h5,h6⟩:=xu h1 h4 h;exact⟨by simp[firsts,h5],h6⟩
theorem xr{mk:List Cell->Bx}: ∀{l:List (aR)} {cs:List Cell} {u:Nat},boxesOf mk l cs u=none->u∉firsts l
 | [],_,_,_,h=>by cases h
 |(k,n)::r,cs,u,h,f=>by
  simp only[boxesOf]at h;simp only[firsts,avv]at f;by_cases g:u=k
  ·grind [bV]
  ·rw[bL g]at h
   exact xr h (f.resolve_left g)
theorem ky: ∀{ks sz:List Nat},ks.length=sz.length->firsts (zipN ks sz)=ks
 | [],[],_=>rfl
 |k::ks,n::sz,h=>by simp only[zipN,firsts,ky (show ks.length=sz.length by simp_all)]
 | [],_::_,h=>by simp_all
 |_::_,[],h=>by simp_all
theorem UU{k b:Nat}(h:m k=some (b,0))(q:Nat):XA φ m b q:= .inr ⟨k,0,h,rfl⟩
theorem ok_ptr2{f:FuncId}{cp:Cp}{d:Nat}{s:List SV}{args:Array Value}(z:evPtr st cp d s=some e)(Z:o.dst=some d)(h8:aj (SR m (XA φ m) w) s args.toList)
  (e6:(execOp a.eval o).run P w= .ok (.enter f args) w) (e7:ki P C.G f cp) (h9:mz C.G φ) (e8: ∀p,e.bQ=some p->p) (e9:et ν own) (g:aG φ ν m st a w) (b4: ∀d,o.dst=some d->d<φ.n/\φ.D d=true)
  (hK:(∀p b,mq st cp s≠some (p,true,b))-> ∀a' w',Sat φ ν (e.apply own st) a' w'->K a' w')
  (hQ: ∀p b,mq st cp s=some (p,true,b)-> ∀m' w',aG φ ν m' { slot:=st.slot,box:=applyB b st.box} a w'->Q (.panic [{ v:=cp.pv,recovered:=false}]) a w'):o.wp P a w K Q:=by
 unfold evPtr at z;split at z;case h_2=>simp_all
 rename_i ks vs b6 U;split at z;case h_2=>simp_all
 rename_i b7 vc M a1;split at z;case h_2=>simp_all
 rename_i kc V;split at z;case h_2=>cases z
 rename_i x N;split at z;case h_2=>cases z
 rename_i tv f3;obtain⟨l,z⟩:=ba z;obtain⟨c1,l⟩:=aF l;obtain⟨c2,l⟩:=aF l;obtain⟨c3,l⟩:=aF l;obtain⟨c4,l⟩:=aF l;obtain⟨c5,c6⟩:=aF l;have c1:=beq_eq c1;have c2:=beq_eq c2;rw[lv,lv]at c1 c2;simp only[aup]at z;subst z;have f4:=aj.eV (mask:=cp.mask) h8;have f5:=aj.fj (mask:=cp.mask) h8;have f6:=rQ g U f4 (λ_ k i=>i);obtain⟨cv,f7,f8⟩:=pO a1 f6;have f9:=M;obtain⟨pc,g0,g1,aQ⟩: ∃pc,cZ m w (zipN ks cp.sz) pc/\aE m (XA φ m) w b7 pc/\(cp.ro=false-> ∀k∈firsts (zipN ks cp.sz),∃ds,st.box k=some (.cells ds)):=by
  cases hro:cp.ro with
  |true=>
   rw[hro]at M;obtain⟨pc,h1,h2⟩:=Ee g M;exact⟨pc,h1,h2,λh=>by cases h⟩
  |false=>
   rw[hro]at M;obtain⟨pc,h1,h2,h3⟩:=nz g M;exact⟨pc,h1,h2,λ_=>h3⟩
 have g2:=qa g V g1 (ks:=eg (eV cp.mask s)) (λh=>by cases h);let X:Nat->Nat->Prop:=Xc φ m (eg (eV cp.mask s))
 have g3: ∀k∈ks,∀b,m k=some (b,0)-> ∀q,X b q:=by
  intro k i b hm q;refine⟨UU hm q,λj hj p g4 k2 a4=> ?_⟩;have:=g.inj k j b 0 p hm a4 rfl g4;subst this;rw[hm]at a4;cases a4;omega
 obtain⟨bs,a5,g5⟩:=OW (X:=X) (Ix b6 f5) c2 g0 g3;have b9:aE m X w (app vc kc) (cv++pc):=by rw[bI];exact aj.append f8 g2
 obtain⟨g6,g7⟩:=yU N;have g8:aE (λ_=>none) X w (eD cp.ex (enc cp.p x)) (cv++pc):=by
  cases hex:cp.ex with
  |false=>rw[HQ];exact ja (gZ N b9)
  |true=>
   rw[hex]at c5;obtain⟨e1,e2⟩:=aF ((mh c5).resolve_left (by intro hh;cases hh));have g9:vs=eV cp.mask s:=by rw[PW e1]at U;exact(axk U).symm
   have i3:kc=b7:=by rw[Js e2]at V;exact(axk V).symm
   have i4:isEx (app vc kc)=true:=by rw[bI];exact yk.2 ⟨HG a1 (by rw[g9];exact e1),by rw[i3];exact e2⟩
   rw[g6,H2 i4];have key: ∀(cs:List Cell) (us:List Value),(∀c∈cs,c.pl=true)->aE m X w cs us->aE (λ_=>none) X w cs us:=by
    intro cs;induction cs with
    |nil=>intro us _ h;cases us with|nil=>trivial|cons=>exact h.elim
    |cons c cs ih=>intro us J h;cases us with|nil=>exact h.elim|cons u us=>exact⟨CR.VN (J c (by simp)) h.1,ih us (λc l=>J c (by simp[l])) h.2⟩
   exact key _ _ g7 b9
 have i6:args.size=cp.mask.length:=by rw[c1];have:=h8.length;simpa using this.symm
 have i7: ∀q,cp.pre=some q->q x:=λq L=>e8 (q x) (by simp[L])
 have i9:=e7 x w X args cv pc bs (C.G.mono (h9.gl▸g.fN) h9.Gz) (λb p hX=>⟨qe g hX.1,h9.gl▸qw g hX.1⟩) i7 i6 (Iu g (xx c3) a5) f7 g5 g8;have d0: ∀{t:Ty} {y:t.den} {us:List Value} {w':World},(jZ (eg (eV cp.mask s))=true\/t.hasSl=false)->TR w' X t y us->TR w' (XA φ m) t y us:=by
  intro t y us w' l ht;rcases l with l|l
  ·have:eg (eV cp.mask s)= []:=by cases hv:eg (eV cp.mask s)with|nil=>rfl|cons k r=>rw[hv]at l;cases l
   have hX:X=XA φ m:=by funext b q;show Xc φ m (eg (eV cp.mask s)) b q=_;rw[this];simp[Xc]
   rw[hX]at ht;exact ht
  ·exact TR.od l ht
 have d5:(jZ (eg (eV cp.mask s))=true\/cp.r.hasSl=false)/\(jZ (eg (eV cp.mask s))=true\/cp.q.hasSl=false):=by
  rcases mh c6 with h1|h1
  ·exact⟨.inl h1,.inl h1⟩
  ·obtain⟨h2,h3⟩:=aF h1;exact⟨.inr (fX h2),.inr (fX h3)⟩
 unfold Oper.wp;rw[e6,ayi];have d6:mq st cp s=some ((match cp.pre with|some q=>some (q x)|none=>none),pnB cp x,cnd cp.ro [] (newBxs (zipN ks cp.sz) (enc cp.q (cp.F x).2))):=by
  unfold mq;simp only[b6,U];simp only[f9,a1];simp only[V,N];first|rfl|(cases cp.pre<;>rfl)
 have d7: ∀w' I,eF (if cp.ro then[]else bs) w w'->gr w' X bs cp.sz (fj cp.mask args.toList) I->TR w' X cp.q (cp.F x).2 I->
   aG φ ν m { slot:=st.slot,box:=applyB (cnd cp.ro [] (newBxs (zipN ks cp.sz) (enc cp.q (cp.F x).2))) st.box} a w':=by
  intro w' I hb O L;cases hro:cp.ro with
  |true=>
   rw[hro]at hb;have j0:Below w.heap.size w w':=⟨hb.os,hb.tape,hb.output,hb.size,λk i=>hb.block k i (by simp)⟩;exact g.ext j0
  |false=>
   rw[hro]at hb;have hb:eF bs w w':=hb;have d9:=Hk a5 O;have e0:aE m (XA φ m) w' (enc cp.q (cp.F x).2) (I++ []):=by rw[aws];exact ja (d0 d5.2 L)
   have e3:=ky c2;have Y: ∀b,b∈bs-> ∃k∈ks,m k=some (b,0):=λb hb=>a5.lk b hb
   have e4:dG (XA φ m) w w':=⟨hb.size,λb p S N=>by
    have:b∉bs:=λA=>by obtain⟨k,_,i⟩:=Y b A;exact N (UU i p)
    unfold World.cell?;rw[hb.block b S this],hb.shape,λb p S=>hb.frozen b p S⟩
   have j1:aG φ ν m { slot:=st.slot,box:=applyB (newBxs (zipN ks cp.sz) (enc cp.q (cp.F x).2)) st.box} a w':=by
    refine g.change e4 (dz.refl m) fJ ?_ g.inj (λk b p i he=>au5 (g.low k b p i he) hb.size) ?_ ?_ g.vn g.dK ?_ ⟨hb.os,hb.tape,hb.output⟩ ?_
    ·intro k bx i
     rw[applyB_new]at i;split at i
     ·rename_i j3 a7
      cases i;obtain⟨_,cs',rfl,b,us,T,h1,h2,h3⟩:=xu d9 e0 a7;exact⟨b,us,T,h1,h2,h3⟩
     ·rename_i j4
      have e5:=xr j4;rw[e3]at e5;refine(g.box k bx i).eA e4 fJ (dz.refl m) λb p h1 h2=>⟨h1,hb.block b (g.low _ _ _ h1 h2) λA=> ?_⟩
      obtain⟨k',j5,j6⟩:=Y b A;exact e5 (g.inj k k' b p 0 h1 j6 h2 rfl▸j5)
    ·intro k i
     rw[applyB_new]at i;split at i
     ·cases i
     ·exact g.bK k i
    ·intro k bx b p h1 h2 h3 h4
     rw[applyB_new]at h1;split at h1
     ·rename_i j3 a7
      obtain⟨A,_⟩:=xu d9 e0 a7;obtain⟨ds,a9⟩:=aQ hro k A;exact g.own k _ b p a9 rfl h3 h4
     ·exact g.own k bx b p h1 h2 h3 h4
    ·refine⟨hb.os,hb.tape,hb.size,λb hg=>⟨g.ko b hg,hb.block b (g.ko b hg) λA=> ?_⟩⟩
     obtain⟨k,_,i⟩:=Y b A;exact g.dK k b 0 i rfl hg
    ·intro b S j7
     refine hb.block b (au5 S g.aN.2.2.2) λA=> ?_
     obtain⟨k,i,hm⟩:=Y b A;obtain⟨ds,a9⟩:=aQ hro k (by rw[e3];exact i);rcases g.own k _ b 0 a9 rfl hm rfl with h5|h5
     ·exact j7 h5
     ·omega
   exact j1
 refine i9.mono λe' w' hh=> ?_
 rcases hh with⟨b2,v,b3,hb,⟨rv,j8,_,j9⟩,I,O,L⟩|⟨b2,b3,hb,I,O,L⟩
 ·subst b3
  show K (a.put o.dst v) w';rw[Z];have k0:VR m (XA φ m) w' tv v:=xY f3 (ja (d0 d5.1 j8)) j9;refine hK (λp b J=> ?_) _ _ ⟨m,(d7 w' I hb O L).put (b4 d Z).1 (b4 d Z).2 e9 k0⟩;rw[d6]at J;simp only[aup,awk]at J;rw[b2]at J;cases J.2.1
 ·subst b3
  show Q (.panic [{ v:=cp.pv,recovered:=false}]) a w';exact hQ _ _ (by rw[d6,b2]) m w' (d7 w' I hb O L)
theorem Vg{f:FuncId}{cp:Cp}{d:Nat}{k:List SV}{args:Array Value}(i:evPtrN st cp d k=some e)(l:o.dst=some d)(s:aj (SR m (XA φ m) w) k args.toList)
  (t:(execOp a.eval o).run P w= .ok (.enter f args) w) (u:ki P C.G f cp) (h:At P C φ ν own W st o e m a w K):o.wp P a w K Q:=by
 unfold evPtrN at i;split at i;case h_2=>simp_all
 rename_i x y;cases hp:cp.pn with
 |none=>
  rw[hp]at i;cases i;refine ok_ptr2 y l s t u h.fr h.bQ h.tags h.sat h.dst (λ_=>h.next) (λp b hb=> ?_);exfalso;unfold mq pnB at hb;simp only[hp]at hb;grind
 |some g=>
  rw[hp]at i;simp only at i;split at i;case h_2=>simp_all
  rename_i I z bx0 J;cases i;have j:=h.bQ _ rfl;have A:(∀p,x.bQ=some p->p)/\z=false:=by
   cases hq:x.bQ with
   |none=>rw[hq]at j;exact⟨(λp hp=>by cases hp),j⟩
   |some p=>rw[hq]at j;exact⟨(λq hq=>by cases hq;exact j.1),j.2⟩
  refine ok_ptr2 y l s t u h.fr A.1 h.tags h.sat h.dst (λ_ a' w' hs=>h.next a' w' ?_) (λp b hb=> ?_)
  ·exact hs
  simp_all
end
end
section
section
variable {φ:Fr} {ν:Nat->Bool} {m:Map} {st:ASt} {a:Act} {w w':World} {own:List (bS)} {W:List Nat} {P:Program} {C:Ctx} {o:Oper} {e:Eff}
 {K:Act->World->Prop} {Q:Exit->Act->World->Prop}
theorem nodup_cons{x:Nat}{r:List Nat}(h:nodup (x::r)=true):x∉r/\nodup r=true:=by
 obtain⟨h1,h2⟩:=aF h;refine⟨λf=> ?_,h2⟩;have h3:=By (fX h1) x f;simp_all
def Cell.free(ns:List Nat):Cell->Bool
 | .box _ _=>false| .velem _ _ _ _=>false| .clo _ _=>false| .aelem _ _ _ _ _=>false| .arrs _ _ _ _=>false| .bq _ k=>mem k ns| .bh _ tl _=>(match tl with| .no=>true|_=>false)|_=>true
theorem CR.free{ns:List Nat}{m j:Map}{X:Nat->Nat->Prop}{c:Cell}{v:Value}(hm: ∀k∈ns,j k=m k)(g:c.free ns=true)(h:CR m X w c v):CR j X w c v:=by
 cases c with
 |box k off=>cases g
 |velem t k i off=>cases g
 |clo f ks=>cases g
 |aelem k off e len i=>cases g
 |arrs k off e len=>cases g
 |bq t k=>
  obtain⟨b,p,h1,h2⟩:=h;exact⟨b,p,(hm k (cN.1 g)).trans h1,h2⟩
 |bh t tl l=>
  cases tl with
  |no=>exact h
  |exact=>cases g
 |_=>exact h
theorem Ia(ns:List Nat): ∀(t:Ty) (x:t.den),∀c∈enc t x,c.free ns=true:=by
 intro t;induction t with
 |pair a b g h=>
  grind [enc,bI]
 |unit=>intro x c f;cases f
 |_=>intro x c f;simp only[enc,av8]at f;subst f;rfl
theorem uh: ∀{vs:List (cT)} {i k T:Nat} {o:Bool},lookV vs i=some (k,o,T)->k∈vnames vs
 | [],_,_,_,_,h=>by cases h
 |(p,k',f,g)::r,i,k,T,o,h=>by
  simp only[lookV]at h;by_cases hi:i=p
  ·grind [vnames,bV]
  ·rw[bL hi]at h;simp[vnames,uh h]
theorem B8{ns:List Nat}{vs:List (cT)}(h: ∀k∈vnames vs,k∈ns): ∀{cs:List Cell} {i:Nat},(∀c∈cs,c.free ns=true)-> ∀c∈vxC vs i cs,c.free ns=true
 | [],_,_,c,f=>by cases f
 |j::cs,i,g,c,f=>by
  simp only[vxC,avv]at f;rcases f with f|f
  ·subst f
   split
   ·rename_i k o T hl
    split
    ·exact cN.2 (h _ (uh hl))
    ·exact g j (by simp)
   ·exact g j (by simp)
  ·exact B8 h (λc f=>g c (by simp[f])) c f
theorem Ho: ∀{vs:List (cT)},nodup (vnames vs)=true-> ∀{i j k T f:Nat} {o g:Bool},lookV vs i=some (k,o,T)->lookV vs j=some (k,g,f)->i=j
 | [],_,i,j,k,T,f,o,g,h,_=>by cases h
 |(p,k',o1,x)::r,s,i,j,k,T,f,o,g,h1,h2=>by
  obtain⟨t,u⟩:=nodup_cons s;simp only[lookV]at h1 h2;by_cases hi:i=p
  ·grind [bV,bL,uh]
  ·rw[bL hi]at h1
   by_cases l:j=p
   ·rw[bV l]at h2
    cases h2;exact absurd (uh h1) t
   ·rw[bL l]at h2
    exact Ho u h1 h2
structure VM (m:Map) (X:Nat->Nat->Prop) (w:World) (vs:List (cT)) (i:Nat) (cs xc:List Cell) (us:List Value) (vm:Map):Prop where
 from_: ∀k r,vm k=some r-> ∃j o T,i<=j/\lookV vs j=some (k,o,T)
 bK: ∀k,vxB vs i (xc.map Cell.no) k=none->vm k=none
 box: ∀k bx,vxB vs i (xc.map Cell.no) k=some bx->(∃o T t l,bx= .vec o T t l)/\ ∀m':Map,m' k=vm k->iv m' X w k bx
 live: ∀k b p,vm k=some (b,p)->p % 2=0-> ∃k0∈keysX vs i cs,m k0=some (b,p)/\0<p
 inj: ∀k k' b p p',vm k=some (b,p)->vm k'=some (b,p')->p % 2=0->p' % 2=0->k=k'
 cells: ∀m':Map,(∀k,vm k≠none->m' k=vm k)->aE m' X w (vxC vs i (xc.map Cell.no)) us
theorem CR.ao0{m g:Map}{X:Nat->Nat->Prop}{c:Cell}{v:Value}(i:c.pl=true)(h:CR m X w c v):CR g X w c.no v:=by
 cases c with
 |bh e tl l=>exact⟨h.1,trivial⟩
 |int k n=>exact h
 |bool b=>exact h
 |flt k n=>exact h
 |str s=>exact h
 |fn f=>exact h
 |_=>cases i
theorem Iq(hs:aG φ ν m st a w){X:Nat->Nat->Prop}(hX:di w (XA φ m) X){vs:List (cT)}(b6:nodup (vnames vs)=true): ∀{cs xc:List Cell} {us:List Value} {i:Nat},unvX st vs i cs=some xc->(∀c∈xc,c.pl=true)->nodup (keysX vs i cs)=true->
  aE m X w cs us->(∃vm,VM m X w vs i cs xc us vm)
 | [],xc,us,i,h,h9,f,z=>by
  simp only[unvX,aup]at h;subst h;match us,z with
  | [],_=>
   exact⟨λ_=>none,⟨(λk r h=>by cases h),(λ_ _=>rfl),(λk bx h=>by cases h),(λk b p h=>by cases h),(λk k' b p p' h=>by cases h),(λ_ _=>trivial)⟩⟩
 |c::cs,xc,[],i,h,h9,f,z=>z.elim
 |c::cs,xc,u::us,i,h,h9,f,z=>by
  simp only[unvX]at h;split at h;case h_1=>cases h
  rename_i r' d6;have rest: ∀{J:Cell},xc=J::r'->nodup (keysX vs (Nat.succ i) cs)=true->(∃vm,VM m X w vs (Nat.succ i) cs r' us vm):=λhx A=>
   Iq hs hX b6 d6 (λc z=>h9 c (by simp_all)) A z.2
  split at h
  ·rename_i key o T I
   have a7: ∀{e:Ty} {l:List e.den} {b p:Nat} (J:Cell),J.no= .bh e .no l->xc=J::r'->(A:nodup (keysX vs (Nat.succ i) cs)=true)->
     (∀s:Map,s key=some (b,p)->iv s X w key (.vec o T e l))->(∀s:Map,s key=some (b,p)->CR s X w (.bq e key) u)->
     (p % 2=0-> ∃x,keysX vs i (c::cs)=x::keysX vs (Nat.succ i) cs/\m x=some (b,p)/\0<p)->(∀x∈keysX vs (Nat.succ i) cs,x∈keysX vs i (c::cs))-> ∃vm,VM m X w vs i (c::cs) xc (u::us) vm:=by
    intro e l b p J b7 hx A a9 d7 b0 d9;obtain⟨vm,y⟩:=rest hx A;have e1:vm key=none:=by
     cases hq:vm key with
     |none=>rfl
     |some r=>
      obtain⟨j,S,N,hj,hl⟩:=y.from_ key r hq;have:=Ho b6 I hl;omega
    refine⟨λk=>if k=key then some (b,p)else vm k,?_⟩;have U: ∀k,vm k≠none->k≠key:=λk f e=>f (e▸e1)
    have hB: ∀k,vxB vs i (xc.map Cell.no) k=if k=key then some (.vec o T e l)else vxB vs (Nat.succ i) (r'.map Cell.no) k:=by
     intro k;rw[hx];simp only[axm,vxB,I,b7];by_cases g:k=key
     ·rw[bV g,ava g]
     ·rw[bL g,au6 g]
    refine⟨λk r f=> ?_,λk f=> ?_,λk bx f=> ?_,λk b' p' f O=> ?_,λk k' b' p1 p2 h1 h2 h3 h4=> ?_,λs t=> ?_⟩
    ·by_cases g:k=key
     ·exact⟨i,o,T,au2 _,g▸I⟩
     ·simp only[au6 g]at f
      obtain⟨j,S,N,hj,hl⟩:=y.from_ k r f;exact⟨j,S,N,by omega,hl⟩
    ·rw[hB]at f
     by_cases g:k=key
     ·rw[ava g]at f;cases f
     ·rw[au6 g]at f;simp only[au6 g];exact y.bK k f
    ·rw[hB]at f
     by_cases g:k=key
     ·rw[ava g]at f
      cases f;subst g;exact⟨⟨_,_,_,_,rfl⟩,λs t=>a9 s (by simpa using t)⟩
     ·rw[au6 g]at f
      obtain⟨h1,h2⟩:=y.box k bx f;exact⟨h1,λs t=>h2 s (by simpa[g]using t)⟩
    ·by_cases g:k=key
     ·simp only[ava g,aup,awk]at f
      obtain⟨rfl,rfl⟩:=f;obtain⟨x,h1,h2⟩:=b0 O;exact⟨x,by rw[h1];simp,h2⟩
     ·simp only[au6 g]at f
      obtain⟨x,h1,h2⟩:=y.live k b' p' f O;exact⟨x,d9 x h1,h2⟩
    ·by_cases g:k=key<;>by_cases a5:k'=key
     ·rw[g,a5]
     ·simp only[ava g,aup,awk]at h1
      obtain⟨rfl,rfl⟩:=h1;simp only[au6 a5]at h2;obtain⟨x,h5,h6,_⟩:=b0 h3;obtain⟨k1,h7,V,_⟩:=y.live k' _ p2 h2 h4;have:=hs.inj _ _ _ _ _ h6 V h3 h4;subst this;rw[h5]at f;exact absurd h7 (nodup_cons f).1
     ·simp only[ava a5,aup,awk]at h2
      obtain⟨rfl,rfl⟩:=h2;simp only[au6 g]at h1;obtain⟨x,h5,h6,_⟩:=b0 h4;obtain⟨k1,h7,V,_⟩:=y.live k _ p1 h1 h3;have:=hs.inj _ _ _ _ _ h6 V h4 h3;subst this;rw[h5]at f;exact absurd h7 (nodup_cons f).1
     ·simp only[au6 g]at h1
      simp only[au6 a5]at h2;exact y.inj _ _ _ _ _ h1 h2 h3 h4
    ·rw[hx]
     simp only[axm,vxC,I,b7];refine⟨d7 s ?_,y.cells s λk f=> ?_⟩
     ·have:=t key (by simp)
      simpa using this
     ·have:=t k (by simp[U k f,f])
      simpa[U k f]using this
   split at h
   ·rename_i e x
    split at h;case h_2=>cases h
    rename_i S N e' l a9;split at h;case h_2=>cases h
    rename_i l' b2;obtain⟨Y,h⟩:=ba h;obtain⟨b3,e4⟩:=aF Y;have b3:=beq_eq b3;cases h;obtain⟨e0,Z⟩:=jn b2;subst e0;simp only at Z;subst Z;subst b3;have L:keysX vs i (.bq e' x::cs)=x::keysX vs (Nat.succ i) cs:=by simp only[keysX,I]
    have A:=by rw[L]at f;exact(nodup_cons f).2
    obtain⟨b,p,hm,O,b5⟩:=z.1;obtain⟨b',p',h1,h2⟩:=(hs.box x _ a9).eA dM hX (dz.of λ_ _ _ h=>h) (λb p h _=>⟨h,rfl⟩);rw[hm]at h1;cases h1;refine a7 _ rfl rfl A (λs t=>⟨b,p,t,?_⟩) (λs t=>⟨b,p,t,O,b5⟩) (λ_=>⟨x,L,hm,O⟩) (λk f=>by rw[L];simp[f]);rcases h2 with h2|h2|⟨h3,h4⟩
    ·exact .inl h2
    ·exact .inr (.inl h2)
    ·refine .inr (.inr ⟨?_,h4⟩)
     subst h3;rcases mh e4 with h5|h5
     ·exact fX h5
     ·cases h5
   ·rename_i e l
    obtain⟨Y,h⟩:=ba h;cases h;have L:keysX vs i (.bh e .exact l::cs)=keysX vs (Nat.succ i) cs:=by simp only[keysX,I]
    have A:=by rw[L]at f;exact f
    rcases z.1.2 with⟨rfl,hu⟩|⟨U,b,N,hu,d0⟩
    ·exact a7 _ rfl rfl A (λs t=>⟨0,1,t,.inl ⟨rfl,rfl⟩⟩) (λs t=>⟨0,1,t,by omega,.inl ⟨rfl,hu⟩⟩) (λh=>by omega) (λk f=>by rw[L];exact f)
    ·have ho:o=false:=by
      rcases mh Y with h5|h5
      ·exact fX h5
      ·cases l with|nil=>exact absurd rfl U|cons=>cases h5
     have d5:jy w X e.n (TR w X e) l b 0/\l.length<=maxLen:=by
      rcases z.1.1 with⟨h4,_⟩|⟨ad,cap,h4,h6,h7,_,h5⟩
      ·exact absurd h4 U
      ·rw[hu]at h4;cases h4;exact⟨h5,by omega⟩
     exact a7 _ rfl rfl A (λs t=>⟨b,_,t,.inr (.inr ⟨ho,rfl,d5.1,N,d0⟩)⟩)
      (λs t=>⟨b,_,t,by omega,.inr ⟨by omega,l.length,N,by rw[gq];exact hu,d0,by rw[gq];exact au2 _,d5.2⟩⟩) (λh=>by omega) (λk f=>by rw[L];exact f)
   ·cases h
  ·rename_i I
   split at h;case h_2=>cases h
   rename_i J M;cases h;have L:keysX vs i (c::cs)=keysX vs (Nat.succ i) cs:=by simp only[keysX,I]
   have A:=by rw[L]at f;exact f
   obtain⟨vm,y⟩:=rest rfl A;have Y:CR m X w J u:=by
    have dA:J=c->CR m X w J u:=λe=>e▸z.1
    cases c with
    |bq e k=>
     simp only[unvC]at M;split at M
     ·cases M
     ·rename_i e' l hb
      split at M;case h_2=>cases M
      rename_i l' b2;simp only[aup]at M;subst M;obtain⟨e0,Z⟩:=jn b2;subst e0;simp only at Z;subst Z;obtain⟨b,p,hm,O,b5⟩:=z.1;obtain⟨b',p',h1,h2⟩:=hs.box k _ hb;rw[hm]at h1;cases h1;refine⟨?_,trivial⟩;rcases b5 with⟨h3,h4⟩|⟨h3,cap,T,h4,h5,h6,h7⟩
      ·rcases h2 with⟨h2,_⟩|⟨h2,_⟩
       ·exact .inl ⟨h2,h4⟩
       ·omega
      ·rcases h2 with⟨_,h2⟩|⟨h2,V⟩
       ·omega
       ·subst h2
        rw[gq]at h4 h6;exact .inr ⟨⟨b,0,none⟩,cap,h4,h6,h7,λ_=>rfl,V.mono dM hX (TR.mono dM hX _)⟩
     ·cases M
    |_=>simp only[unvC,aup]at M;exact dA M.symm
   refine⟨vm,⟨λk r f=> ?_,λk f=> ?_,λk bx f=> ?_,λk b p f O=> ?_,y.inj,λs t=> ?_⟩⟩
   ·obtain⟨j,S,N,hj,hl⟩:=y.from_ k r f
    exact⟨j,S,N,by omega,hl⟩
   ·exact y.bK k (by simpa only[axm,vxB,I]using f)
   ·exact y.box k bx (by simpa only[axm,vxB,I]using f)
   ·rw[L];exact y.live k b p f O
   ·simp only[axm,vxC,I]
    exact⟨CR.ao0 (h9 J (by simp)) Y,y.cells s t⟩
theorem TS(hs:aG φ ν m st a w){vs:List (cT)}(y:nodup (vnames vs)=true){cs xc:List Cell}{us:List Value}{i:Nat}(h:unvX st vs i cs=some xc)(z: ∀c∈xc,c.pl=true)(f:nodup (keysX vs i cs)=true)
  (g:aE m (XA φ m) w cs us):(∃vm,VM m (XA φ m) w vs i cs xc us vm)/\aE m (Xc φ m (keysX vs i cs)) w xc us:=by
 refine⟨Iq hs (λ_ _ _ h=>h) y h z f g,?_⟩;clear z f y;induction cs generalizing xc us i with
 |nil=>
  simp only[unvX,aup]at h;subst h;match us,g with
  | [],_=>trivial
 |cons c cs I=>
  cases us with
  |nil=>exact g.elim
  |cons u us=>
  simp only[unvX]at h;split at h;case h_1=>cases h
  rename_i S J;have x:=I J g.2;split at h
  ·rename_i key o T s
   split at h
   ·rename_i e A
    split at h;case h_2=>cases h
    rename_i U V Y l L;split at h;case h_2=>cases h
    rename_i Z M;obtain⟨_,h⟩:=ba h;cases h;have j:keysX vs i (.bq e A::cs)=A::keysX vs (Nat.succ i) cs:=by simp only[keysX,s]
    rw[j];refine⟨yT hs (fr:=false) (by simp only[unvC,L,cnd,M]) g.1 (λ_ k f=>by simp[vksL]at f;simp[f]),?_⟩;exact x.mono (CR.mono dM (λb q _ t=>⟨t.1,λk f=>t.2 k (by simp[f])⟩) (λ_ _ _ h=>h))
   ·rename_i e l
    obtain⟨_,h⟩:=ba h;cases h;have j:keysX vs i (.bh e .exact l::cs)=keysX vs (Nat.succ i) cs:=by simp only[keysX,s]
    rw[j];exact⟨⟨g.1.1.mono dM Xc.less (TR.mono dM Xc.less e),trivial⟩,x⟩
   ·cases h
  ·rename_i s
   split at h;case h_2=>cases h
   rename_i c' N;cases h;have j:keysX vs i (c::cs)=keysX vs (Nat.succ i) cs:=by simp only[keysX,s]
   have O:=yT hs N g.1 (ks:= []) (λh=>by cases h);rw[j];exact⟨CR.mono dM (λb q _ t=>⟨t.1,λk f=>by cases f⟩) (λ_ _ _ h=>h) _ _ O,x⟩
theorem jR{vs:List (cT)}: ∀{cs:List Cell} {i k:Nat} {bx:Bx},vxB vs i cs k=some bx->k∈vnames vs/\ ∃o T t l,bx= .vec o T t l
 | [],_,_,_,h=>by cases h
 |c::cs,i,k,bx,h=>by
  simp only[vxB]at h;split at h
  ·rename_i k' o T hl
   split at h
   ·by_cases f:k=k'
    ·rw[bV f]at h;cases h;exact⟨f▸uh hl,_,_,_,_,rfl⟩
    ·rw[bL f]at h;exact jR h
   ·exact jR h
  ·exact jR h
theorem aj.imp{α β:Type}{R S:α->β->Prop}{p:α->Prop}(h: ∀a b,p a->R a b->S a b): ∀{g:List α} {bs:List β},(∀x∈g,p x)->aj R g bs->aj S g bs
 | [],[],_,_=>trivial
 |x::_,_::_,i,f=>⟨h _ _ (i x (by simp)) f.1,aj.imp h (λy j=>i y (by simp_all)) f.2⟩
 | [],_::_,_,f=>f.elim
 |_::_,[],_,f=>f.elim
theorem eB.keeps{L:Nat->Prop}{X:Nat->Nat->Prop}(h:eB L w w')(hX: ∀b,L b-> ∀p,X b p):dG X w w':=
 ⟨h.size,λb p hb f=>by unfold World.cell?;rw[h.block b hb (λhm=>f (hX b hm p))],h.shape,h.frozen⟩
theorem Bm{f:Nat->Option Bx}: ∀{l1 l2:List (Nat×Option Bx)},applyB (app l1 l2) f=applyB l1 (applyB l2 f)
 | [],_=>rfl
 |(k,b)::r,l2=>by simp only[app,applyB];rw[Bm]
theorem applyB_vx{vs:List (cT)}{f:Nat->Option Bx}{u:Nat}: ∀{cs:List Cell} {i:Nat},applyB (oh vs i cs) f u=(match vxB vs i cs u with|some bx=>some bx|none=>f u)
 | [],_=>rfl
 |c::r,i=>by
  simp only[oh,vxB];split
  ·rename_i k o T hl
   split
   ·simp only[applyB]
    by_cases g:u=k
    ·rw[bV g,bV g]
    ·rw[bL g,bL g];exact applyB_vx
   ·exact applyB_vx
  ·exact applyB_vx
theorem G0{f:Nat->Option Bx}{u:Nat}: ∀{ks:List Nat},applyB (qu ks) f u=if u∈ks then some .tok else f u
 | []=>rfl
 |k::r=>by
  simp only[qu,applyB];by_cases g:u=k
  ·rw[bV g,ava (by simp_all)]
  ·rw[bL g,G0];simp_all
theorem IK: ∀{bs sz:List Nat} {pc:List Value},kC w bs sz pc->bs.length=sz.length/\pc.length=cI sz
 | [],[],pc,h=>by subst h;exact⟨rfl,rfl⟩
 |b::bs,n::sz,pc,h=>by
  obtain⟨us,T,f,h1,h2,rfl,h3⟩:=h;obtain⟨h4,h5⟩:=IK h3;simp_all [cI]
 | [],_::_,_,h=>h.elim
 |_::_,[],_,h=>h.elim
theorem Dj: ∀{ks bs sz:List Nat} {pc:List Value},aj (λk b=>m k=some (b,0)) ks bs->kC w bs sz pc->cZ m w (zipN ks sz) pc
 | [],[],[],pc,_,h=>h
 |k::ks,b::bs,n::sz,pc,f,h=>by
  obtain⟨us,T,g,h1,h2,h3,h4⟩:=h;exact⟨b,us,T,g,f.1,h1,h2,h3,Dj f.2 h4⟩
 | [],[],_::_,_,_,h=>h.elim
 | [],_::_,_,_,f,_=>f.elim
 |_::_,[],_,_,f,_=>f.elim
 |_::_,_::_,[],_,_,h=>h.elim
theorem JA: ∀{ks bs sz:List Nat} {pc:List Value},aj (λk b=>m k=some (b,0)) ks bs->cZ m w (zipN ks sz) pc->ks.length=sz.length->kC w bs sz pc
 | [],[],[],pc,_,h,_=>h
 |k::ks,b::bs,n::sz,pc,f,h,hl=>by
  obtain⟨i,us,T,g,h1,h2,h3,h4,h5⟩:=h;rw[f.1]at h1;cases h1;exact⟨us,T,g,h2,h3,h4,JA f.2 h5 (by simp_all)⟩
 | [],[],_::_,_,_,_,hl=>by simp_all
 | [],_::_,_,_,f,_,_=>f.elim
 |_::_,[],_,_,f,_,_=>f.elim
 |_::_,_::_,[],_,_,_,hl=>by simp_all
theorem aG.ahi(h:aG φ ν m st a w){cv:Cv}{x:cv.p.den}{bs ks j:List Nat}{S V:Map}{rv a7:List Value}{z:Nat}
  (a9:aj (λk b=>m k=some (b,0)) ks bs) (e2:cv.ro=false-> ∀k∈ks,∃cs,st.box k=some (.cells cs)) (e3:ks.length=cv.sz.length)
  (b7: ∀k∈j,∃o T t l,st.box k=some (.vec o T t l)) (b9: ∀b,bD S b-> ∃k∈j,∃p,m k=some (b,p)/\p % 2=0)
  (hN: ∀k∈vnames (nmV z cv.vo),st.box k=none) (Y:eB (λb=>(cv.ro=false/\b∈bs)\/bD S b) w w')
  (U:pf cv x (XA φ m) bs S z w w' rv a7 V) (hq:cv.q.n=cnd cv.ro 0 (cI cv.sz)):
  ∃A,aG φ ν A { slot:=st.slot,box:=applyB (app (cnd cv.ro [] (newBxs (zipN ks cv.sz) ((vxC (nmV z cv.vo) 0 (enc (.pair cv.r cv.q) (cv.F x))).drop cv.r.n))) (app (oh (nmV z cv.vo) 0 (enc (.pair cv.r cv.q) (cv.F x))) (qu j))) st.box} a w'/\
   aE A (XA φ A) w' ((vxC (nmV z cv.vo) 0 (enc (.pair cv.r cv.q) (cv.F x))).take cv.r.n) rv:=by
 let N:=vnames (nmV z cv.vo)
 let L:=enc (.pair cv.r cv.q) (cv.F x)
 let b0:Nat->Nat:=λp=>if p % 2=0 then p+1 else p
 let A:Map:=λu=>if u∈N then V u else if u∈j then(m u).map (λy=>(y.1,b0 y.2))else m u
 have a2: ∀u,u∈N->A u=V u:=λu g=>by grind
 have g1: ∀u,u∉N->u∈j->A u=(m u).map (λy=>(y.1,b0 y.2)):=λu h1 h2=>by grind
 have a3: ∀u,u∉N->u∉j->A u=m u:=λu h1 h2=>by grind
 have e5:=λu g=>h.bK u (hN u g)
 have j0: ∀u∈j,u∉N:=λu g s=>by grind
 have c0: ∀u∈j,∀b p,m u=some (b,p)->0<p:=λu g b p hm=>by
  obtain⟨o,T,t,l,h1⟩:=b7 u g;obtain⟨b2,p2,h2,h3⟩:=h.box u _ h1;grind
 have e7: ∀u b p,u∉N->u∈j->A u=some (b,p)->p % 2=1:=λu b p h1 h2 h3=>by
  grind [Option.map_eq_some_iff]
 have e8:dz m A:=λu b p g=>by
  have h1:u∉N:=λs=>by rw[e5 u s]at g;cases g
  by_cases h2:u∈j
  ·refine⟨b0 p,by rw[g1 u h1 h2,g];rfl,?_⟩
   have:=c0 u h2 b p g;simp only[b0];split
   ·exact .inr ⟨by assumption,this,rfl⟩
   ·exact .inl rfl
  ·exact⟨p,by rw[a3 u h1 h2];exact g,.inl rfl⟩
 have hL: ∀b,((cv.ro=false/\b∈bs)\/bD S b)-> ∃k p,m k=some (b,p)/\p % 2=0/\((cv.ro=false/\k∈ks)\/k∈j):=λb hb=>by
  rcases hb with⟨h1,h2⟩|h1
  ·obtain⟨k,f,hm⟩:=a9.lk b h2
   exact⟨k,0,hm,rfl,.inl ⟨h1,f⟩⟩
  ·obtain⟨k,f,p,hm,hp⟩:=b9 b h1
   exact⟨k,p,hm,hp,.inr f⟩
 have e9: ∀b,((cv.ro=false/\b∈bs)\/bD S b)-> ∀q,XA φ m b q:=λb hb q=>by obtain⟨k,p,h1,h2,_⟩:=hL b hb;exact .inr ⟨k,p,h1,h2⟩
 have f0: ∀b,((cv.ro=false/\b∈bs)\/bD S b)->φ.B b\/φ.w0.heap.size<=b:=λb hb=>by
  obtain⟨k,p,h1,h2,h3⟩:=hL b hb;rcases h3 with⟨h4,h5⟩|h4
  ·obtain⟨cs,h6⟩:=e2 h4 k h5;exact h.own k _ b p h6 rfl h1 h2
  ·obtain⟨_,_,_,_,h6⟩:=b7 k h4;exact h.own k _ b p h6 rfl h1 h2
 have f1:dG (XA φ m) w w':=Y.keeps e9;have d0:=Y.block;have g2: ∀u b p,m u=some (b,p)->p % 2=0-> ¬ (cv.ro=false/\u∈ks)->u∉j-> ¬ ((cv.ro=false/\b∈bs)\/bD S b):=λu b p h1 h2 h3 h4 h5=>by
  obtain⟨k,O,h6,h7,M⟩:=hL b h5;have:=h.inj _ _ _ _ _ h1 h6 h2 h7;subst this;exact M.elim h3 h4
 have g3: ∀u b p,m u=some (b,p)->p % 2=0->u∉j-> ¬ bD S b:=λu b p h1 h2 h4 h5=>by
  obtain⟨k,f,O,h6,h7⟩:=b9 b h5;have:=h.inj _ _ _ _ _ h1 h6 h2 h7;subst this;exact h4 f
 have g4: ∀b q,φ.X0 b q-> ¬ bD S b:=λb q J hb=>by
  obtain⟨h1,h2,_⟩:=h.x0 _ _ J;rcases f0 b (.inr hb)with h3|h3
  ·exact h2 h3
  ·omega
 have f2: ∀b q,XA φ A b q->(XA φ m b q/\ ¬ bD S b)\/bD V b:=λb q J=>by
  rcases J with J|⟨u,p,h1,h2⟩
  ·exact .inl ⟨.inl J,g4 b q J⟩
  ·by_cases s:u∈N
   ·rw[a2 u s]at h1;exact .inr ⟨u,p,h1,h2⟩
   ·by_cases f:u∈j
    ·have:=e7 u b p s f h1;omega
    ·rw[a3 u s f]at h1;exact .inl ⟨.inr ⟨u,p,h1,h2⟩,g3 u b p h1 h2 f⟩
 have hX:di w (XA φ m) (XA φ A):=λb q j1 J=>by
  rcases f2 b q J with h1|h1
  ·exact h1.1
  ·rcases U.aN b h1 with h2|h2
   ·exact e9 b (.inr h2) q
   ·omega
 have f3:di w' (λb q=>(XA φ m b q/\ ¬ bD S b)\/bD V b) (XA φ A):=λb q _ J=>f2 b q J
 have g5: ∀c∈vxC (nmV z cv.vo) 0 L,c.free N=true:=B8 (λk f=>f) (Ia N _ _)
 have d5:=
  (aj.imp (p:=λc=>c.free N=true) (λa b hp hr=>CR.free a2 hp hr) g5 U.rows.cells).mono (CR.mono dM f3 (λ_ _ _ h=>h))
 have b4:rv.length=cv.r.n/\a7.length=cv.q.n:=by
  have h1:=d5.length;have h2:(vxC (nmV z cv.vo) 0 L).length=cv.r.n+cv.q.n:=by
   have key: ∀(cs:List Cell) (i:Nat),(vxC (nmV z cv.vo) i cs).length=cs.length:=by
    intro cs;induction cs with
    |nil=>intro i;rfl
    |cons c r ih=>intro i;simp only[vxC,avi,ih]
   rw[key];exact lu _ _
  have h3:a7.length=cv.q.n:=by
   have:=U.kY;rw[hq];cases hr:cv.ro with
   |true=>rw[hr]at this;simp at this;rw[this];rfl
   |false=>rw[hr]at this;simp at this;exact(IK this).2
  rw[h2,au1,h3]at h1;exact⟨by omega,h3⟩
 have g6:=by
  have:=aj.take cv.r.n d5;rwa [<- b4.1,List.take_left,b4.1]at this
 have f4:aE A (XA φ A) w' ((vxC (nmV z cv.vo) 0 L).drop cv.r.n) (a7++ []):=by
  have:=aj.drop cv.r.n d5;rw[<- b4.1,azn,b4.1]at this;rwa [aws]
 have g7: ∀k∈ks,k∉N:=λk f s=>by
  obtain⟨b,_,hm⟩:=a9.mem_left k f;rw[e5 k s]at hm;cases hm
 have g8: ∀k∈ks,k∉j:=λk f g9=>by
  obtain⟨b,_,hm⟩:=a9.mem_left k f;have:=c0 k g9 b 0 hm;omega
 have f5:=by
  have key: ∀(a4 cs:List Nat),(∀k∈a4,k∈ks)->aj (λk b=>m k=some (b,0)) a4 cs->aj (λk b=>A k=some (b,0)) a4 cs:=by
   intro a4;induction a4 with
   |nil=>intro cs _ h;cases cs with|nil=>trivial|cons=>exact h.elim
   |cons x a4 ih=>
    intro cs J h;cases cs with
    |nil=>exact h.elim
    |cons c cs=>exact⟨(a3 x (g7 x (J x (by simp))) (g8 x (J x (by simp)))).trans h.1,ih cs (λy hy=>J y (by simp[hy])) h.2⟩
  exact key _ _ (λ_ h=>h) a9
 have d7: ∀u,applyB (app (cnd cv.ro [] (newBxs (zipN ks cv.sz) ((vxC (nmV z cv.vo) 0 L).drop cv.r.n))) (app (oh (nmV z cv.vo) 0 L) (qu j))) st.box u=
   match(cnd cv.ro none (boxesOf .cells (zipN ks cv.sz) ((vxC (nmV z cv.vo) 0 L).drop cv.r.n) u):Option Bx)with
   |some bx=>some bx
   |none=>match vxB (nmV z cv.vo) 0 L u with|some bx=>some bx|none=>if u∈j then some .tok else st.box u:=λu=>by
  rw[Bm];cases cv.ro with
  |true=>show applyB (app (oh (nmV z cv.vo) 0 L) (qu j)) st.box u=_;rw[Bm,applyB_vx,G0];rfl
  |false=>show applyB (newBxs (zipN ks cv.sz) ((vxC (nmV z cv.vo) 0 L).drop cv.r.n)) (applyB (app (oh (nmV z cv.vo) 0 L) (qu j)) st.box) u=_;rw[applyB_new,Bm,applyB_vx,G0];rfl
 have a5: ∀u b p,A u=some (b,p)->p % 2=0->(u∈N/\V u=some (b,p))\/(u∉N/\u∉j/\m u=some (b,p)):=λu b p h1 h2=>by
  by_cases s:u∈N
  ·exact .inl ⟨s,by rw[<- a2 u s];exact h1⟩
  ·by_cases f:u∈j
   ·have:=e7 u b p s f h1;omega
   ·exact .inr ⟨s,f,by rw[<- a3 u s f];exact h1⟩
 have b5: ∀u b p,V u=some (b,p)->p % 2=0->(∃k∈j,∃O,m k=some (b,O)/\O % 2=0)\/w.heap.size<=b:=λu b p h1 h2=>by
  rcases U.aN b ⟨u,p,h1,h2⟩with h3|h3
  ·exact .inl (b9 b h3)
  ·exact .inr h3
 have f6: ∀u u' b p O,V u=some (b,p)->p % 2=0->u'∉j->m u'=some (b,O)->O % 2=0->False:=λu u' b p O h1 h2 h3 h4 h5=>by
  rcases b5 u b p h1 h2 with⟨k,f,p2,h6,h7⟩|h6
  ·have:=h.inj _ _ _ _ _ h4 h6 h5 h7;subst this;exact h3 f
  ·have:=h.low _ _ _ h4 h5;omega
 refine⟨A,h.change f1 e8 hX ?_ ?_ ?_ ?_ ?_ ?_ ?_ ?_ ⟨Y.os,Y.tape,Y.output⟩ ?_,g6⟩
 ·intro u bx g
  rw[d7]at g;split at g
  ·rename_i f7 I
   cases g;cases hro:cv.ro with
   |true=>rw[hro]at I;cases I
   |false=>
    rw[hro]at I;have i4:kC w' bs cv.sz a7:=by have:=U.kY;rw[hro]at this;simpa using this
    obtain⟨_,cs',rfl,b,us,T,h1,h2,h3⟩:=xu (Dj f5 i4) f4 I;exact⟨b,us,T,h1,h2,h3⟩
  ·rename_i I
   split at g
   ·rename_i f7 Z
    cases g;have s:=(jR Z).1;have i5:dz V A:=dz.of λk b p f=>by
     have:k∈N:=by
      cases hq2:vxB (nmV z cv.vo) 0 L k with
      |none=>rw[U.rows.bK k hq2]at f;cases f
      |some e0=>exact(jR hq2).1
     rw[a2 k this];exact f
    exact(U.rows.box u bx Z).eA dM f3 i5 λb p h1 _=>⟨by rw[a2 u s];exact h1,rfl⟩
   ·rename_i Z
    by_cases f:u∈j
    ·rw[ava f]at g;cases g;trivial
    ·rw[au6 f]at g
     have s:u∉N:=λs=>by rw[hN u s]at g;cases g
     refine(h.box u bx g).eA f1 hX e8 λb p h1 h2=>⟨by rw[a3 u s f];exact h1,d0 b (h.low _ _ _ h1 h2) (g2 u b p h1 h2 (λhh=> ?_) f)⟩
     rw[hh.1]at I;obtain⟨e0,i6⟩: ∃e0,boxesOf .cells (zipN ks cv.sz) ((vxC (nmV z cv.vo) 0 L).drop cv.r.n) u=some e0:=by
      cases hq2:boxesOf .cells (zipN ks cv.sz) ((vxC (nmV z cv.vo) 0 L).drop cv.r.n) u with
      |some b2=>exact⟨b2,rfl⟩
      |none=>exact absurd (by rw[ky e3];exact hh.2) (xr hq2)
     have I:=I;rw[i6]at I;cases I
 ·intro k k' b p O h1 h2 h3 h4
  rcases a5 k b p h1 h3 with⟨h5,h6⟩|⟨h5,a6,h6⟩<;>rcases a5 k' b O h2 h4 with⟨h7,M⟩|⟨h7,i7,M⟩
  ·exact U.rows.inj _ _ _ _ _ h6 M h3 h4
  ·exact(f6 k k' b p O h6 h3 i7 M h4).elim
  ·exact(f6 k' k b O p M h4 a6 h6 h3).elim
  ·exact h.inj _ _ _ _ _ h6 M h3 h4
 ·intro k b p h1 h2
  rcases a5 k b p h1 h2 with⟨h5,h6⟩|⟨h5,a6,h6⟩
  ·exact(U.rows.live k b p h6 h2).2.2
  ·exact au5 (h.low _ _ _ h6 h2) Y.size
 ·intro u g
  rw[d7]at g;split at g
  ·cases g
  ·split at g
   ·cases g
   ·rename_i Z
    by_cases f:u∈j
    ·rw[ava f]at g;cases g
    ·rw[au6 f]at g
     by_cases s:u∈N
     ·rw[a2 u s];exact U.rows.bK u Z
     ·rw[a3 u s f];exact h.bK u g
 ·intro u bx b p h1 h2 h3 h4
  rcases a5 u b p h3 h4 with⟨h5,h6⟩|⟨h5,a6,h6⟩
  ·rcases b5 u b p h6 h4 with⟨k,f,p2,h7,M⟩|h7
   ·obtain⟨_,_,_,_,h9⟩:=b7 k f;exact h.own k _ b p2 h9 rfl h7 M
   ·exact .inr (auq h.aN.2.2.2 h7)
  ·rw[d7]at h1
   split at h1
   ·rename_i f7 I
    cases hro:cv.ro with
    |true=>rw[hro]at I;cases I
    |false=>
     rw[hro]at I;have f9:=(xu (Dj f5 (by have:=U.kY;rw[hro]at this;simpa using this)) f4 I).1;rw[ky e3]at f9;obtain⟨cs,h9⟩:=e2 hro u f9;exact h.own u _ b p h9 rfl h6 h4
   ·split at h1
    ·rename_i Z;exact absurd (jR Z).1 h5
    ·rw[au6 a6]at h1;exact h.own u bx b p h1 h2 h6 h4
 ·intro u b p h1 h2 h3
  rcases a5 u b p h1 h2 with⟨h5,h6⟩|⟨h5,a6,h6⟩
  ·rcases b5 u b p h6 h2 with⟨k,f,p2,h7,M⟩|h7
   ·exact h.vn k b p2 h7 M (c0 k f b p2 h7)
   ·have:=h.aN.2.2.2;have:=h.n0;omega
  ·exact h.vn u b p h6 h2 h3
 ·intro u b p h1 h2 hg
  rcases a5 u b p h1 h2 with⟨h5,h6⟩|⟨h5,a6,h6⟩
  ·rcases b5 u b p h6 h2 with⟨k,f,p2,h7,M⟩|h7
   ·exact h.dK k b p2 h7 M hg
   ·have:=h.ko b hg;omega
  ·exact h.dK u b p h6 h2 hg
 ·refine⟨Y.os,Y.tape,Y.size,λb hg=>⟨h.ko b hg,d0 b (h.ko b hg) λhl=> ?_⟩⟩
  obtain⟨k,p,h1,h2,_⟩:=hL b hl;exact h.dK k b p h1 h2 hg
 ·intro b hb i9
  refine d0 b (au5 hb h.aN.2.2.2) λhl=> ?_
  rcases f0 b hl with h1|h1
  ·exact i9 h1
  ·omega
theorem P9: ∀{ks:List Nat} {us:List Value},aj (λk u=> ∃b,m k=some (b,0)/\u= .pointer (some ⟨b,0,none⟩)) ks us-> ∃cs:List Nat,aj (λk b=>m k=some (b,0)) ks cs/\aj (λb u=>u=Value.pointer (some ⟨b,0,none⟩)) cs us
 | [],[],_=>⟨[],trivial,trivial⟩
 |k::ks,u::us,h=>by
  obtain⟨⟨b,h6,h7⟩,f⟩:=h;obtain⟨cs,g,i⟩:=P9 f;exact⟨b::cs,⟨h6,g⟩,⟨h7,i⟩⟩
 | [],_::_,h=>h.elim
 |_::_,[],h=>h.elim
theorem afQ{X:Nat->Nat->Prop}: ∀{mask:List Am} {xs vs:List SV} {ks:List Nat} {l:List Value},splitA mask xs=some (vs,ks)->aj (SR m X w) xs l->
  ∃i bs,mv mask l i bs/\aj (SR m X w) vs i/\aj (λk b=>m k=some (b,0)) ks bs:=by
 intro mask;induction mask with
 |nil=>
  intro xs vs ks l h j;cases xs with
  |cons=>cases h
  |nil=>
   cases l with
   |cons=>exact j.elim
   |nil=>obtain⟨rfl,rfl⟩:=h;exact⟨[],[],⟨rfl,rfl⟩,trivial,trivial⟩
 |cons mk mask y=>
  intro xs vs ks l h j;cases xs with
  |nil=>cases mk<;>cases h
  |cons x xs=>
   cases l with
   |nil=>exact j.elim
   |cons a l=>
    unfold splitA at h;split at h
    ·simp_all
    ·rename_i hm s
     cases hm;cases s;split at h;case h_2=>cases h
     rename_i A I t;cases h;obtain⟨i,bs,h1,h2,h3⟩:=y t j.2;exact⟨a::i,bs,⟨i,rfl,h1⟩,⟨j.1,h2⟩,h3⟩
    ·rename_i hm s
     cases hm;cases s;split at h;case h_2=>cases h
     rename_i A I t;cases h;obtain⟨i,bs,h1,h2,h3⟩:=y t j.2;obtain⟨b,h4,h5⟩:=j.1;exact⟨i,b::bs,⟨b,bs,h5,rfl,h1⟩,h2,⟨h4,h3⟩⟩
    ·rename_i f n M g N O hm s
     cases hm;cases s;split at h;case h_2=>cases h
     rename_i A I t;obtain⟨J,L⟩:=ba h;obtain⟨z,u⟩:=aF J;have z:=beq_eq z;have u:=beq_eq u;rw[lv]at u;subst z;cases L;obtain⟨i,bs,h1,h2,h3⟩:=y t j.2;obtain⟨us,h4,h5⟩:=j.1;obtain⟨cs,h6,h7⟩:=P9 h5;exact⟨i,cs++bs,⟨us,cs,bs,h4,by rw[<- h6.length];exact u,h7,rfl,h1⟩,h2,by rw[bI];exact aj.append h6 h3⟩
    ·cases h
theorem Po{vs:List (cT)}: ∀{cs xc:List Cell} {i:Nat},unvX st vs i cs=some xc-> ∀k∈keysX vs i cs,∃o T t l,st.box k=some (.vec o T t l):=by
 intro cs;induction cs with
 |nil=>intro xc i _ k f;cases f
 |cons c cs g=>
  intro xc i h k f;simp only[unvX]at h;split at h;case h_1=>cases h
  simp only[keysX]at f;grind
theorem Hm: ∀{l:List Nat},noneL st l=true-> ∀k∈l,st.box k=none
 |x::r,h,k,f=>by
  simp only[noneL]at h;split at h
  ·rcases List.mem_cons.1 f with rfl|f
   ·assumption
   ·exact Hm h k f
  ·cases h
theorem VM.VH(hs:aG φ ν m st a w){X:Nat->Nat->Prop}{vs:List (cT)}{cs xc:List Cell}{us:List Value}{vm:Map}{ks bs:List Nat}{t:Ty}{x:t.den}(f:VM m X w vs 0 cs xc us vm)(g:enc t x=xc.map Cell.no)
  (h:aj (λk b=>m k=some (b,0)) ks bs):RowsIn X w bs vs (enc t x) us vm where
 bK:=λk i=>f.bK k (by simp_all)
 box:=λk bx i=>(f.box k bx (by simp_all)).2 vm rfl
 cells:=by rw[g];exact f.cells vm (λk _=>rfl)
 inj:=f.inj
 live:=λk b p h1 h2=>by
  obtain⟨j,_,h3,h4⟩:=f.live k b p h1 h2;refine⟨h4,λhb=> ?_,hs.low _ _ _ h3 h2⟩;obtain⟨l,_,h5⟩:=h.lk b hb;have:=hs.inj _ _ _ _ _ h3 h5 h2 rfl;simp_all
theorem PF: ∀(t:Ty) (x:t.den),aj (λc s=>(∀e tl l,c= .bh e tl l->s=some e)/\(∀e k,c≠ .bq e k)/\(∀t l i o,c≠ .elem t l i o)) (enc t x) (slotsT t):=by
 intro t;induction t with
 |pair a b f g=>simp_all [enc,slotsT,bI,aj.append]
 |unit=>intro x;trivial
 |sl e=>intro x;exact⟨⟨λ_ _ _ h=>(by simp_all),λ_ _ h=>(by cases h),λ_ _ _ _ h=>(by cases h)⟩,trivial⟩
 |_=>intro x;exact⟨⟨λ_ _ _ h=>(by cases h),λ_ _ h=>(by cases h),λ_ _ _ _ h=>(by cases h)⟩,trivial⟩
theorem Qp{m:Map}{X X':Nat->Nat->Prop}{vs:List (cT)}: ∀{cs:List Cell} {f:List (Option Ty)} {us:List Value} {i:Nat},aj (λc s=>(∀e tl l,c= .bh e tl l->s=some e)/\(∀e k,c≠ .bq e k)/\(∀t l i o,c≠ .elem t l i o)) cs f->okO vs i f=true->
  aE m X w (vxC vs i cs) us->aE m X' w (vxC vs i cs) us
 | [],[],us,i,_,_,h=>by
  match us,h with
  | [],_=>trivial
 |c::cs,s::f,[],i,_,_,h=>h.elim
 |c::cs,s::f,u::us,i,j,g,h=>by
  have x:=by
   cases s with
   |none=>exact g
   |some e=>
    grind [okO,aF]
  refine⟨?_,Qp j.2 x h.2⟩;have h1:=h.1;obtain⟨⟨hs,y,z⟩,_⟩:=j;cases c with
  |bh e tl l=>
   have:=hs _ _ _ rfl;subst this;simp only[okO]at g;split at g
   ·rename_i k o T A
    simp only[A]at h1⊢;exact h1
   ·cases g
  |bq e k=>exact absurd rfl (y e k)
  |elem t l i o=>exact absurd rfl (z t l i o)
  |_=>generalize lookV vs i=q at h1⊢;cases q<;>exact h1
 | [],_::_,_,_,h,_,_=>h.elim
 |_::_,[],_,_,h,_,_=>h.elim
theorem yX{vs:List (cT)}: ∀{cs:List Cell} {j:List (Option Ty)} {i k:Nat} {bx:Bx},aj (λc s=>(∀e tl l,c= .bh e tl l->s=some e)/\(∀e k,c≠ .bq e k)/\(∀t l i o,c≠ .elem t l i o)) cs j->okO vs i j=true->
  vxB vs i cs k=some bx-> ∃T e l,bx= .vec true T e l/\e.hasSl=false
 | [],[],_,_,_,_,_,h=>by cases h
 |c::cs,s::j,i,k,bx,x,f,h=>by
  obtain⟨⟨hs,_,_⟩,g⟩:=x;cases s with
  |none=>
   have hr:=f;simp only[vxB]at h;split at h
   ·split at h
    ·have:=hs _ _ _ rfl;cases this
    ·exact yX g hr h
   ·exact yX g hr h
  |some e=>
   simp only[okO]at f;split at f;case h_2=>cases f
   rename_i k' o T y;obtain⟨h1,h2⟩:=aF f;obtain⟨h2,hr⟩:=aF h2;subst h1;simp only[vxB,y]at h;split at h
   ·have:=hs _ _ _ rfl
    cases this;by_cases u:k=k'
    ·rw[bV u]at h;cases h;exact⟨_,_,_,rfl,fX h2⟩
    ·rw[bL u]at h;exact yX g hr h
   ·exact yX g hr h
 | [],_::_,_,_,_,h,_,_=>h.elim
 |_::_,[],_,_,_,h,_,_=>h.elim
theorem RowsIn.lift{X X':Nat->Nat->Prop}{bs:List Nat}{vs:List (cT)}{t:Ty}{x:t.den}{us:List Value}{f:Map}(g:okO vs 0 (slotsT t)=true)(h:RowsIn X w bs vs (enc t x) us f):RowsIn X' w bs vs (enc t x) us f where
 bK:=h.bK
 box:=λk bx j=>by
  obtain⟨T,e,l,rfl,s⟩:=yX (PF t x) g j;obtain⟨b,p,h1,h2⟩:=h.box k _ j;refine⟨b,p,h1,?_⟩;rcases h2 with h2|⟨h2,vs,cap,h3,h4,h5,h6,h7⟩|⟨h2,_⟩
  ·simp_all
  ·exact .inr (.inl ⟨h2,vs,cap,h3,h4,h5,h6,λi hi=>TR.od s (h7 i hi)⟩)
  simp_all
 cells:=Qp (PF t x) g h.cells
 inj:=h.inj
 live:=h.live
theorem KD(hs:aG φ ν m st a w){vs:List (cT)}{ks:List Nat}: ∀{cs g:List Cell} {us:List Value} {i:Nat},mS st true vs i cs=some g->(∀k∈lW vs i cs,k∈ks)->aE m (XA φ m) w cs us->aE m (Xc φ m ks) w g us
 | [],g,us,i,h,_,f=>by
  simp only[mS,aup]at h;subst h;match us,f with
  | [],_=>trivial
 |c::cs,g,[],i,h,_,f=>f.elim
 |c::cs,g,u::us,i,h,j,f=>by
  simp only[mS]at h;split at h;case h_1=>cases h
  rename_i x l;cases hl:lookV vs i with
  |some y=>
   rw[hl]at h;cases h;exact⟨CR.mono dM Xc.less (λ_ _ _ h=>h) _ _ f.1,KD hs l (λk h=>j k (by simp_all [lW])) f.2⟩
  |none=>
   rw[hl]at h;simp only at h;split at h;case h_2=>cases h
   rename_i z s;cases h;refine⟨yT hs s f.1 (λ_ k h=>j k ?_),KD hs l (λk h=>j k ?_) f.2⟩
   ·simp only[lW,hl]
    cases c with
    |bq e t=>simp only[vksL,av8]at h;simp[h]
    |_=>simp[vksL]at h
   ·simp only[lW,hl]
    cases c with
    |bq e t=>simp[h]
    |_=>exact h
theorem Uv{vs:List (cT)}: ∀{cs f:List Cell} {i:Nat},mS st false vs i cs=some f->f=cs
 | [],f,i,h=>by simp_all [mS]
 |c::cs,f,i,h=>by
  simp only[mS]at h;split at h;case h_1=>cases h
  rename_i j g;have:=Uv g;grind [cnd]
theorem afA{l r:List Nat}(h:acJ l r=true): ∀k∈l,k∉r:=λk f hr=>by
 have:=By (fX h) k f;rw[cN.2 hr]at this;simp_all
theorem ux(X:Nat->Nat->Prop)(w:World):dG X w w:=⟨au2 _,λ_ _ _ _=>rfl,λ_ _=>rfl,λ_ _ _=>rfl⟩
theorem aG.kU(h:aG φ ν m st a w)(k:Nat):Sat φ ν (mH k st) a w:=by
 have g:toFrz (st.box k)=st.box k->Sat φ ν (mH k st) a w:=by
  intro hs;have:mH k st=st:=by
   obtain⟨sl,bx⟩:=st;unfold mH;congr 1
   funext u
   grind [bV,bL]
  rw[this];exact⟨m,h⟩
 cases hk:st.box k with
 |none=>exact g (by rw[hk];rfl)
 |some bx=>
  cases bx with
  |vec o T t l=>
   have j:mH k st={ slot:=st.slot,box:=λu=>if u=k then some (.kU t l)else st.box u}:=by
    unfold mH;congr 1
    funext u
    by_cases i:u=k
    ·rw[bV i,ava i,hk];rfl
    simp_all [bL,au6]
   rw[j];refine h.dead hk (λs h1 h2 h3 h4 h5=> ?_) (λb hb=> ?_)
   ·obtain⟨b,p,hm,f⟩:=h.box k _ hk
    rcases f with⟨rfl,rfl⟩|⟨rfl,f⟩|⟨_,rfl,f,_⟩
    ·exact⟨b,1,h2 b 1 hm rfl,.inl ⟨rfl,rfl⟩⟩
    ·refine⟨b,_,h1 b _ hm (by omega) (by omega),.inr ⟨rfl,f.rows.ok (λx vs h=>h.mono (ux _ _) h4 _ _ _) λq _ _=> ?_⟩⟩
     rcases h5 b _ hm (by omega) (by omega) q with h6|h6
     ·exact h6
     ·exact absurd (h.own k _ b _ hk rfl hm (by omega)) h6
    ·exact⟨b,_,h2 b _ hm (by omega),.inr ⟨rfl,f.mono (ux _ _) h4 (TR.mono (ux _ _) h4 t)⟩⟩
   ·obtain⟨y,p,hm,f⟩:=h.box k _ hk
    rw[hb]at hm;cases hm;rcases f with⟨_,f⟩|⟨f,_⟩|⟨_,f,_⟩<;>omega
  |_=>exact g (by rw[hk];rfl)
theorem Sat.dQ: ∀{ks:List Nat} {st:ASt},Sat φ ν st a w->Sat φ ν (dQ ks st) a w
 | [],_,h=>h
 |k::r,st,⟨m,h⟩=>Sat.dQ (ks:=r) (h.kU k)
theorem Ov{k:Nat}{f:Nat->Option Bx}(g:f k=none){u:Nat}: ∀{l:List (Nat×Option Bx)},applyB (frz1 k l) f u=cnd (Nat.beq u k) (toFrz (applyB l f u)) (applyB l f u)
 | []=>by
  show f u=cnd (Nat.beq u k) (toFrz (f u)) (f u);by_cases h:u=k
  ·rw[bV h,h,g];rfl
  ·rw[bL h]
 |(j,b)::r=>by
  show cnd (Nat.beq u j) (cnd (Nat.beq j k) (toFrz b) b) (applyB (frz1 k r) f u)=cnd (Nat.beq u k) (toFrz (cnd (Nat.beq u j) b (applyB r f u))) (cnd (Nat.beq u j) b (applyB r f u));by_cases h:u=j
  ·grind [bV]
  ·simp only[bL h]
   exact Ov g
theorem OV{f:Nat->Option Bx}{sl:Nat->Option GS}: ∀{ks:List Nat} {l:List (Nat×Option Bx)},(∀k∈ks,f k=none)->(⟨sl,applyB (FC ks l) f⟩:ASt)=dQ ks ⟨sl,applyB l f⟩
 | [],l,_=>rfl
 |k::r,l,h=>by
  have e:mH k (⟨sl,applyB l f⟩:ASt)=⟨sl,applyB (frz1 k l) f⟩:=by
   unfold mH;congr 1
   grind [Ov,bL]
  show(⟨sl,applyB (FC r (frz1 k l)) f⟩:ASt)=dQ r (mH k ⟨sl,applyB l f⟩);rw[e];exact OV λk' g=>h k' (by simp_all)
theorem O5{own:List (bS)}{d:Nat}{v:TV}: ∀{ks:List Nat} {st:ASt},(Eff.mk none (some (d,v)) []).apply own (dQ ks st)=dQ ks ((Eff.mk none (some (d,v)) []).apply own st)
 | [],_=>rfl
 |k::r,st=>(O5 (ks:=r)).trans rfl
theorem anJ{f:FuncId}{cv:Cv}{d:Nat}{h8:List SV}{args:Array Value}(l:evPv st cv d h8=some e)(J:o.dst=some d)(b2:aj (SR m (XA φ m) w) h8 args.toList)
  (b3:(execOp a.eval o).run P w= .ok (.enter f args) w) (b4:gG P C.G f cv) (h:At P C φ ν own W st o e m a w K):o.wp P a w K Q:=by
 unfold evPv at l;split at l;case h_1=>simp_all
 rename_i vs ks b5;split at l;case h_2=>simp_all
 rename_i vc L b6 I;split at l;case h_2=>simp_all
 rename_i M y;split at l;case h_2=>simp_all
 rename_i xc h9;split at l;case h_2=>simp_all
 rename_i x hx;split at l;case h_2=>simp_all
 rename_i v hv;obtain⟨j,l⟩:=ba l;obtain⟨t,j⟩:=aF j;obtain⟨c0,j⟩:=aF j;obtain⟨c9,j⟩:=aF j;obtain⟨d0,j⟩:=aF j;obtain⟨d5,j⟩:=aF j;obtain⟨a1,j⟩:=aF j;obtain⟨N,O⟩:=aF j;have t:=beq_eq t;rw[lv,lv]at t;have N:=beq_eq N;cases l;obtain⟨va,bs,hA,d9,z⟩:=afQ b5 b2;obtain⟨cs,e0,a2⟩:=pO b6 d9;obtain⟨pc,e1,a3,e2⟩: ∃pc,cZ m w (zipN ks cv.sz) pc/\aE m (XA φ m) w L pc/\(cv.ro=false-> ∀k∈ks,∃cs,st.box k=some (.cells cs)):=by
  cases hro:cv.ro with
  |true=>rw[hro]at I;obtain⟨pc,h1,h2⟩:=Ee h.sat I;exact⟨pc,h1,h2,λh=>by cases h⟩
  |false=>
   rw[hro]at I;obtain⟨pc,h1,h2,h3⟩:=nz h.sat I;rw[ky t]at h3;exact⟨pc,h1,h2,λ_=>h3⟩
 have e3:=JA z e1 t;obtain⟨e4,e5⟩:=yU hx;obtain⟨X,B,e6,e7,g2,e8,e9⟩: ∃(X:Nat->Nat->Prop) (B:List Nat),X=Xc φ m B/\(∀k∈B,k∉keysX (nmV bn cv.vi) 0 M)/\(∀k∈B,∃b p,m k=some (b,p)/\0<p)/\aE m X w M (cs++pc)/\
   (∀{w':World} {mR S:Map} {T U:List Value} {V:Nat},V=qT d->pf cv x X bs mR V w w' T U S->pf cv x (XA φ m) bs mR V w w' T U S):=by
  cases hfl:MP cv d with
  |false=>
   rw[hfl]at y;have:=Uv y;subst this;refine⟨XA φ m,[],by funext b q;simp[Xc],(λk g=>by cases g),(λk g=>by cases g),by rw[bI];exact aj.append a2 a3,λ_ h=>h⟩
  |true=>
   rw[hfl]at y O;rw[bI]at y O;have a5:=aj.append a2 a3;refine⟨Xc φ m (lW (nmV bn cv.vi) 0 (vc++L)),lW (nmV bn cv.vi) 0 (vc++L),rfl,afA O,?_,KD h.sat y (λ_ h=>h) a5,λe s=>⟨s.kY,RowsIn.lift (by subst e;exact hfl) s.rows,s.aN⟩⟩;have key: ∀(A:List Cell) (us:List Value) (i:Nat),aE m (XA φ m) w A us-> ∀k∈lW (nmV bn cv.vi) i A,∃b p,m k=some (b,p)/\0<p:=by
    intro A;induction A with
    |nil=>intro us i _ k g;cases g
    |cons c A Y=>
     intro us i j k g;cases us with
     |nil=>exact j.elim
     |cons u us=>
      simp only[lW]at g;split at g
      ·exact Y us _ j.2 k g
      ·split at g
       ·rcases List.mem_cons.1 g with rfl|g
        ·obtain⟨b,p,h1,h2,_⟩:=j.1;exact⟨b,p,h1,by omega⟩
        ·exact Y us _ j.2 k g
       ·exact Y us _ j.2 k g
   exact key _ _ 0 a5
 subst e6;obtain⟨vm,a6⟩:=Iq h.sat Xc.less d0 h9 e5 c9 e8;have f0:=a6.VH h.sat e4 z;have f1:=Iu h.sat (xx c0) z;have f2: ∀b∈bs,∀q,Xc φ m B b q:=λb hb q=>by
  obtain⟨k,_,g⟩:=z.lk b hb;refine⟨.inr ⟨k,0,g,rfl⟩,λk' a7 p Z h0 hm=> ?_⟩;have:=h.sat.inj _ _ _ _ _ g hm rfl Z;subst this;rw[g]at hm;cases hm;omega
 have a9: ∀b,bD vm b-> ∃k∈keysX (nmV bn cv.vi) 0 M,∃p,m k=some (b,p)/\p % 2=0:=λb ⟨k,p,h1,h2⟩=>by
  obtain⟨k0,h3,h4,_⟩:=a6.live k b p h1 h2;exact⟨k0,h3,p,h4,h2⟩
 unfold Oper.wp;rw[b3,ayi];refine(b4 x w (Xc φ m B) args va cs pc bs vm h.hw (λb p hX=>⟨qe h.sat hX.1,h.fr.gl▸qw h.sat hX.1⟩) (λq hq=>h.bQ _ (by simp[hq])) f1 f2
  (λb hb q=>by
   obtain⟨k,f5,p,h1,h2⟩:=a9 b hb;refine⟨.inr ⟨k,p,h1,h2⟩,λk' a7 p' Z _ hm=> ?_⟩;have:=h.sat.inj _ _ _ _ _ h1 hm h2 Z;subst this;exact e7 k a7 f5) hA e0 e3 f0).mono λe' w' ⟨v',T,f6,b0,f7,f8⟩=> ?_
 subst f6;obtain⟨U,S,s⟩:=f8 (qT d) d5;have s:=e9 rfl s;show K (a.put o.dst _) w';rw[J];refine h.next _ _ ?_;obtain⟨m',g0,g1⟩:=h.sat.ahi z e2 t (Po h9) a9 (Hm a1) f7 s N;rw[pN,OV (λk g=>by
  cases hz:cv.fz with
  |false=>rw[hz]at g;cases g
  |true=>rw[hz]at g;exact Hm a1 k g),O5]
 refine Sat.dQ ⟨m',aG.put g0 (h.dst d J).1 (h.dst d J).2 h.tags (xY hv g1 ?_)⟩;cases hr:cv.ao<;>rw[hr]at b0<;>exact b0
end
end
end Go.Proofs.YtcfinjcapeemeaaGreatDoor.S
