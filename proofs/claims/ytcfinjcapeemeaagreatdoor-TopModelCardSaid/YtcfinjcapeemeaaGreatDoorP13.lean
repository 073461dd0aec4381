/- Part of the proof that the law TopModel holds for every input. -/
import Derived.Test.YtcfinjcapeemeaaGreatDoorP12
set_option linter.all false
set_option maxRecDepth 100000
set_option maxHeartbeats 4000000
namespace Go.Proofs.YtcfinjcapeemeaaGreatDoor.S
open Go Go.RowKit IntKind Go.Proofs.Tryz
theorem ats{a b:af}(h:a=b):(!((a.1==b.1)&&(a.2==b.2)))=false:=by simp_all
theorem aiy{α:Type} [Inhabited α]{l m:List α}(hl:l.length=m.length)(h: ∀j:Nat,j<m.length->aa l j=aa m j):l=m:=
 ay0 hl λj h1 h2=>by simp_all [cc]
theorem aez{b:ae}{m a:aW}{bf:bm}{out:fM}(h:ix b m)(J:ix b a)(l:aa3 b m a bf out):
  vJ (0,b,bf,out) (m.2.2.1,0,0,0)=none/\(fo (0,b,bf,out) (m.2.2.1,0,0,0)).1=a.2.2.1/\(fo (0,b,bf,out) (m.2.2.1,0,0,0)).2.2=acS (cO b a.2.2.1) b.2.2.2.2.2.2.2.length:=by
 have S:b.2.2.2.2.2.2.2.length<=8:=h.ba.bG.cn.2;have hl:=h.ct.1;have t:=J.ct.1;have u:=λj f=>(uF _ _).1 (h.ct.2 j (by rw[hl];exact f))
 have L:=kX (step:=ln) (k:=(0,b,bf,out)) (I:=λy=> ∃i:Nat,y.2.1=i/\i<=b.2.2.2.2.2.2.2.length/\y.1.length=b.2.2.2.2.2.2.2.length/\(∀j:Nat,j<i->aa y.1 j=aa a.2.2.1 j)/\(∀j:Nat,i<=j->aa y.1 j=aa m.2.2.1 j)/\y.2.2=acS (cO b a.2.2.1) i) (mu:=λy=>(b.2.2.2.2.2.2.2.length-y.2.1).toNat)
  (Q:=λo y=>o=none/\y.1=a.2.2.1/\y.2.2=acS (cO b a.2.2.1) b.2.2.2.2.2.2.2.length) (λy M=>by
   obtain⟨i,w,T,x,z,A,s⟩:=M;unfold ln;by_cases g:y.2.1<b.2.2.2.2.2.2.2.length
   ·have e:=cC (by omega) g (show b.2.2.2.2.2.2.2.length<=maxLen by unfold maxLen;omega)
    have hi:i<b.2.2.2.2.2.2.2.length:=by omega
    have N:(lS (b.2.1,aa y.1 i,(aa bf.2.2 i).1)).1=aa a.2.2.1 i:=by
     rw[A i (au7 _),l.ct i hi,It (u i hi),B1 (u i hi)]
    have C:aa (aH du y.1 i (lS (b.2.1,aa y.1 i,(aa bf.2.2 i).1)).1) i=aa a.2.2.1 i:=by
     unfold aH;rw[uI (by omega) (by omega),N]
    have O:dM (kP (b.1,lQ (b.1,(aa (aH du y.1 i (lS (b.2.1,aa y.1 i,(aa bf.2.2 i).1)).1) i).1)),y.2.2)=(aa out.2.2.2.2.2 i).2.1:=by
     rw[C,s,l.ey i hi];rfl
    simp only[g,e];rw[w,O,ats rfl,auw];refine⟨⟨i+1,by simp,by omega,(auz ..).trans x,λj f=> ?_,λj f=> ?_,?_⟩,by rw[<- w];exact cI g⟩
    ·by_cases P:j<i
     ·unfold aH
      rw[Bt (by omega) (by omega) (by omega) (by omega)];exact z j P
     ·have e:j=i:=by omega
      subst e;exact C
    ·unfold aH
     rw[Bt (by omega) (by omega) (by omega) (by omega)];exact A j (by omega)
    ·show iq (y.2.2,(aa out.2.2.2.2.2 i).2.1)=_
     rw[s,l.ey i hi];rfl
   ·simp only[g,auw]
    have e:i=b.2.2.2.2.2.2.2.length:=by omega
    subst e;exact⟨trivial,aiy (x.trans t.symm) (λj f=>z j (by rw[<- t];exact f)),s⟩) (Nat.succ (pX (0,b,bf,out) (m.2.2.1,0,0,0))) (m.2.2.1,0,0,0) ⟨0,rfl,awb _,hl,λj f=>by omega,λj f=>rfl,rfl⟩ (by unfold pX;simp)
 exact L
theorem afk{b:ae}{m a:aW}{e:Int}{bf:bm}{out:fM}(s:ix b m)(t:e≠0)(g:ack b m a out):
  vJ (e,b,bf,out) (m.2.2.1,0,0,0)=none/\(fo (e,b,bf,out) (m.2.2.1,0,0,0)).1=a.2.2.1/\(fo (e,b,bf,out) (m.2.2.1,0,0,0)).2.2=(0,0):=by
 have x:b.2.2.2.2.2.2.2.length<=8:=s.ba.bG.cn.2;have u:=kX (step:=ln) (k:=(e,b,bf,out)) (I:=λy=> ∃i:Nat,y.2.1=i/\i<=b.2.2.2.2.2.2.2.length/\y.1=a.2.2.1/\y.2.2=(0,0)) (mu:=λy=>(b.2.2.2.2.2.2.2.length-y.2.1).toNat)
  (Q:=λo y=>o=none/\y.1=a.2.2.1/\y.2.2=(0,0)) (λy w=>by
   obtain⟨i,h,z,j,l⟩:=w;unfold ln;by_cases f:y.2.1<b.2.2.2.2.2.2.2.length
   ·have e:=cC (by omega) f (show b.2.2.2.2.2.2.2.length<=maxLen by unfold maxLen;omega)
    have hi:i<b.2.2.2.2.2.2.2.length:=by omega
    simp only[f,e,beq_eq_false_iff_ne.2 t];rw[h,g.ey i hi];refine⟨⟨i+1,by simp,by omega,j,?_⟩,by rw[<- h];exact cI f⟩;rw[l];rfl
   ·simp only[f,auw]
    exact⟨trivial,j,l⟩) (Nat.succ (pX (e,b,bf,out) (m.2.2.1,0,0,0))) (m.2.2.1,0,0,0) ⟨0,rfl,awb _,g.ct.symm,rfl⟩ (by unfold pX;simp)
 exact u
def AU(k:ae)(l:List ByteArray)(i:Int)(T:aW×fM×Int)(e:Int)(bf:bm)(p:bw)(ct:List bg):ak ae (List ByteArray×List bg×Int×aW×af) Bool:=
 bif((T.2.2 !=0)||(T.2.1.2.2.1 !=(e !=0)))||(T.2.1.2.2.2.2.2.length !=(k.2.2.2.2.2.2.2.length:Int))then .ret false
 else dq (vJ (e,k,bf,T.2.1) (ct,0,0,0)) ak.ret
  (bif !((T.2.1.2.1.1==(eB (p,(fo (e,k,bf,T.2.1) (ct,0,0,0)).2.2)).1)&&(T.2.1.2.1.2==(eB (p,(fo (e,k,bf,T.2.1) (ct,0,0,0)).2.2)).2))then .ret false
  else bif e==0 then
    (bif T.2.1.2.2.2.1 then
     (bif !((T.2.1.1.1==(iq (dM (p,eB (p,(fo (e,k,bf,T.2.1) (ct,0,0,0)).2.2)),eB (dM (bf.1,p),T.2.1.1))).1)&&(T.2.1.1.2==(iq (dM (p,eB (p,(fo (e,k,bf,T.2.1) (ct,0,0,0)).2.2)),eB (dM (bf.1,p),T.2.1.1))).2))then .ret false
     else .next k (l,(fo (e,k,bf,T.2.1) (ct,0,0,0)).1,i64.wrap (i+1),T.1,iq (dM (p,eB (p,(fo (e,k,bf,T.2.1) (ct,0,0,0)).2.2)),eB (dM (bf.1,p),T.2.1.1))))
    else
     bif !((T.2.1.1.1==(iq (dM (p,eB (p,(fo (e,k,bf,T.2.1) (ct,0,0,0)).2.2)),dM (bf.1,p))).1)&&(T.2.1.1.2==(iq (dM (p,eB (p,(fo (e,k,bf,T.2.1) (ct,0,0,0)).2.2)),dM (bf.1,p))).2))then .ret false
     else .next k (l,(fo (e,k,bf,T.2.1) (ct,0,0,0)).1,i64.wrap (i+1),T.1,iq (dM (p,eB (p,(fo (e,k,bf,T.2.1) (ct,0,0,0)).2.2)),dM (bf.1,p))))
   else
    bif !((T.2.1.1.1==(dM (p,eB (p,(fo (e,k,bf,T.2.1) (ct,0,0,0)).2.2))).1)&&(T.2.1.1.2==(dM (p,eB (p,(fo (e,k,bf,T.2.1) (ct,0,0,0)).2.2))).2))then .ret false
    else .next k (l,(fo (e,k,bf,T.2.1) (ct,0,0,0)).1,i64.wrap (i+1),T.1,dM (p,eB (p,(fo (e,k,bf,T.2.1) (ct,0,0,0)).2.2))))
theorem RX(k:ae)(x:List ByteArray×List bg×Int×aW×af):vP k x=bif decide (x.2.2.1<x.1.length)then
  (bif(((cJ (k,aa x.1 x.2.2.1)).2==0)&&((cJ (k,aa x.1 x.2.2.1)).1.2.1.1 !=8))then
   AU k (x.1.set x.2.2.1.toNat (eP (k,(cJ (k,aa x.1 x.2.2.1)).1.1,(0,0),(cJ (k,aa x.1 x.2.2.1)).1.2.2)).1) x.2.2.1 (gG (k,x.2.2.2.1,aa (x.1.set x.2.2.1.toNat (eP (k,(cJ (k,aa x.1 x.2.2.1)).1.1,(0,0),(cJ (k,aa x.1 x.2.2.1)).1.2.2)).1) x.2.2.1,1048576)) (cJ (k,aa x.1 x.2.2.1)).2 ((cJ (k,aa x.1 x.2.2.1)).1.1,(0,0),(cJ (k,aa x.1 x.2.2.1)).1.2.2) x.2.2.2.2 x.2.1
  else AU k x.1 x.2.2.1 (gG (k,x.2.2.2.1,aa x.1 x.2.2.1,1048576)) (cJ (k,aa x.1 x.2.2.1)).2 (cJ (k,aa x.1 x.2.2.1)).1 x.2.2.2.2 x.2.1)
 else .brk k x:=by kernel_rfl
theorem VN{k:ae}{l:List ByteArray}{i:Int}{a:aW}{out:fM}{e:Int}{bf:bm}{p lit:bw}{ct f:List bg}(hb:out.2.2.1=(e !=0))(hl:out.2.2.2.2.2.length=k.2.2.2.2.2.2.2.length)
  (g:vJ (e,k,bf,out) (ct,0,0,0)=none/\(fo (e,k,bf,out) (ct,0,0,0)).1=f/\(fo (e,k,bf,out) (ct,0,0,0)).2.2=lit)
  (hs:out.2.1=eB (p,lit)) (h:out.1=bif e==0 then iq (dM (p,eB (p,lit)),bif out.2.2.2.1 then eB (dM (bf.1,p),out.1)else dM (bf.1,p))else dM (p,eB (p,lit))):
  AU k l i (a,out,0) e bf p ct= .next k (l,f,i64.wrap (i+1),a,out.1):=by
 have h0:(((0 !=(0:Int))||(out.2.2.1 !=(e !=0)))||((out.2.2.2.2.2.length:Int) !=k.2.2.2.2.2.2.2.length))=false:=by
  simp_all
 unfold AU;rw[h0,auw,g.1];show(bif _ then _ else _)=_;grind
theorem Pe(p:bw):eB (p,(0,0))=(0,0):=WC.ext (P8 _) yi λf a d g=>by
 simp_all [BD,mX]
theorem aeR{p:bw}(h:WC p):dM (p,(0,0))=p:=WC.ext (afn _) h λf a d g=>by
 simp_all [Bm,mX]
theorem Qv{b:ae}{m:aW}{s:ByteArray}{bf:bm}{e:Int}(g:ix b m)(hr:b.2.2.1<=678)(t:gT b s)(k:fO (b,s)=(bf,e))(l:List ByteArray)(i:Int):
  ∃f,AU b l i (gG (b,m,s,1048576)) e bf (cd m.1) m.2.2.1= .next b (l,f.2.2.1,i64.wrap (i+(1:Int)),f,cd f.1)/\ix b f:=by
 obtain⟨x,f,out,h1,h2⟩:=Ug g hr t;have u:x.2.2.1=bf:=h2.xi.trans (by rw[k]);have j:x.2.2.2.1=(e==(0:Int)):=h2.xg.trans (by rw[k]);have o:out.2.2.1=(e !=(0:Int)):=h2.asC.trans (by rw[j];rfl);have w:out.1=cd f.1:=h2.FH.trans (by rw[h2.ba]);rw[h1];refine⟨f,?_,h2.pr⟩;rw[<- w];by_cases h:e=0
 ·subst h
  have a:=ahY h2 j;rw[u]at a;exact VN o h2.ey.1 (aez g h2.pr a) a.nQ a.NI
 ·have a:=akG h2 (j.trans (beq_eq_false_iff_ne.2 h))
  refine VN o h2.ey.1 (afk g h a) (a.nQ.trans (Pe _).symm) ?_;rw[beq_eq_false_iff_ne.2 h,auw,Pe,aeR (Cq g.ba)];exact a.NI
theorem aeO{k:ae}{x:List ByteArray×List bg×Int×aW×af}(h:fK k x)(j:x.2.1=x.2.2.2.1.2.2.1)(m:x.2.2.2.2=cd x.2.2.2.1.1)(f:x.2.2.1<(x.1.length:Int)):
  ∃l a,vP k x= .next k (l,a.2.2.1,i64.wrap (x.2.2.1+(1:Int)),a,cd a.1)/\l.length=x.1.length/\ix k a:=by
 have o:k.2.2.2.2.2.2.2.length<=8:=h.bG.cn.2;have hl:k.2.2.2.2.2.2.2.length<=maxLen:=auv o (by decide);rw[RX,ax1 f,au3,j,m];cases hg:((cJ (k,aa x.1 x.2.2.1)).2==(0:Int))&&((cJ (k,aa x.1 x.2.2.1)).1.2.1.1 !=(8:Int))with
 |true=>
  have q:=(h.MC h.i0 f hg).1;rw[au3];rw[au4]at hg;have g:=vY hg.1;rw[sE h.bG]at g;have i:fO (k,aa (x.1.set x.2.2.1.toNat (eP (k,(cJ (k,aa x.1 x.2.2.1)).1.1,((0:Int),(0:Int)),(cJ (k,aa x.1 x.2.2.1)).1.2.2)).1) x.2.2.1)=(((cJ (k,aa x.1 x.2.2.1)).1.1,((0:Int),(0:Int)),(cJ (k,aa x.1 x.2.2.1)).1.2.2),(cJ (k,aa x.1 x.2.2.1)).2):=by
   rw[uI h.i0 f,rl k hl,sE h.bG,(Vv g).2,g]
  obtain⟨a,h1,h2⟩:=Qv h.pr h.rm q i (x.1.set x.2.2.1.toNat (eP (k,(cJ (k,aa x.1 x.2.2.1)).1.1,((0:Int),(0:Int)),(cJ (k,aa x.1 x.2.2.1)).1.2.2)).1) x.2.2.1;exact⟨_,a,h1,auz ..,h2⟩
 |false=>
  have q:=h.MO hg;rw[auw];have i:fO (k,aa x.1 x.2.2.1)=((cJ (k,aa x.1 x.2.2.1)).1,(cJ (k,aa x.1 x.2.2.1)).2):=by
   rw[rl k hl,sE h.bG]
  obtain⟨a,h1,h2⟩:=Qv h.pr h.rm q i x.1 x.2.2.1;exact⟨_,a,h1,rfl,h2⟩
theorem akU{b:ae}{m:aW}(h:ix b m): ∀d∈m.2.2.1,fw b.2.1 d:=kz.2 λi hi=>(uF _ _).1 (h.ct.2 i hi)
theorem afA:NA ()=true:=by kernel_rfl
theorem law_3(x:(ax)×List Int)(h:MK x)(hl:x.2.length<=maxLen):F3 x=true:=by
 obtain⟨h1,h2⟩:=h;have j:=(zf h1).1;have h0:=fK.start h1 (OQ j hl h2);obtain⟨s,hs,A⟩:=Jr h1;have k:=kX (step:=vP) (I:=λy=>fK (F7 x.1) y/\y.2.1=y.2.2.2.1.2.2.1/\y.2.2.2.2=cd y.2.2.2.1.1) (mu:=λy=>(y.1.length-y.2.2.1).toNat) (Q:=λo y=>o=none) (λy m=>by
  obtain⟨a,t,u⟩:=m;by_cases f:y.2.2.1<y.1.length
  ·obtain⟨l,C,w,i,g⟩:=aeO a t u f
   have e:=cC a.i0 f (auv a.fl (by decide));rw[w,e];exact⟨⟨⟨cH a.i0,a.bG,a.rm,by rw[i];exact a.fl,g.ct.1,g.dN.cf,akU g,g⟩,rfl,rfl⟩,by rw[i];exact cI f⟩
  ·rw[RX,axt f,auw]) (Nat.succ (Lu (F7 x.1) ((F9 (F7 x.1,x.2,120)),(aE du ((F7 x.1).2.2.2.2.2.2.2.length:Int)),0,(F8 (F7 x.1)).1,0,0))) ((F9 (F7 x.1,x.2,120)),(aE du ((F7 x.1).2.2.2.2.2.2.2.length:Int)),0,(F8 (F7 x.1)).1,0,0) ⟨h0,by rw[hs];rfl,by rw[hs];rfl⟩ (aAh _)
 unfold F3;have z:((F8 (F7 x.1)).2 !=0)=false:=by rw[hs];rfl
 rw[z,auw,show aba (F7 x.1) ((F9 (F7 x.1,x.2,120)),(aE du ((F7 x.1).2.2.2.2.2.2.2.length:Int)),0,(F8 (F7 x.1)).1,0,0)=none from k];exact afA
section
open Go.ChangeShapes Go.WideShapes Go.ChangeAt Go.Deep
def CT(w:World)(C:Nat)(E:List Value->Prop)(v:Value):Prop:=
 v= .slice none 0 0\/ ∃(a:Addr) (len cap:Nat),v= .slice (some a) len cap/\len<=cap/\cap<=maxLen/\
  ∀i,i<len-> ∃cs:List Value,cs.length=C/\E cs/\a.spot=none/\a.block<w.heap.size/\ ∀j,j<C->w.cell? ⟨a.block,a.off+(i*C+j),none⟩=some (cs.getD j undef)
section
variable {H:Type} {enc:TypeId×Value->H} {P:Program} {w:World} {base:Nat} {spare:Nat->Bool} {held:Bool}
theorem adQ{r:Reach}{a:Nat}{t:TypeId}{v:Value}{n:Nat}{e:TypeId}(ht:P.underlying t=some (.array n e))(h:Value.okWide P w r a t v): ∃cs,v= .agg cs/\cs.size=P.cellsOf t:=by
 simp only[Value.okWide,ht]at h;obtain⟨cs,h1,h2,_⟩:=h;exact⟨cs,h1,h2⟩
theorem adY{t e:TypeId}{m fuel:Nat}{cs:List Value}{x:DataW H×List MemPlace}(ht:P.underlying t=some (.array m e))(h:DataW.trod enc P w base spare held fuel t cs=some x):
  cs.length=P.cellsOf t/\ ∃n,∀(i:Nat),i<m-> ∃y,DataW.trod enc P w base spare held n e ((cs.drop (i*P.cellsOf e)).take (P.cellsOf e))=some y:=by
 obtain⟨xs,n,_,_,hl,g,a⟩:=DataW.trod_array ht h;refine⟨hl,n,λi hi=> ?_⟩;have f:i<xs.length:=by omega
 exact⟨xs[i],(a i hi).trans (avh f)⟩
theorem ahL{t e:TypeId}{C fuel:Nat}{cs:List Value}{x:DataW H×List MemPlace}(E:List Value->Prop)(ht:P.underlying t=some (.slice e))(g:P.cellsOf e=C)(A:0<C)
  (I: ∀(n:Nat) (cs':List Value) y,DataW.trod enc P w base spare held n e cs'=some y->E cs') (h:DataW.trod enc P w base spare held fuel t cs=some x): ∃v,cs= [v]/\CT w C E v:=by
 rcases open_slice ht h with⟨rfl,_⟩|⟨a,len,cap,m,n,D,S,rfl,_,hl,hm,k,_,l⟩
 ·exact⟨_,rfl,.inl rfl⟩
 ·refine⟨_,rfl,.inr ⟨a,len,cap,rfl,hl,hm,λi hi=> ?_⟩⟩
  obtain⟨cs',h1,h2⟩:=l i (by rw[k];split<;>omega);rw[g]at h1;obtain⟨_,J,L⟩:=World.cells?_some h1;obtain⟨T,u,_⟩:=l 0 (by rw[k];split<;>omega);rw[g]at u;obtain⟨_,U,M⟩:=World.cells?_some u;have f:=M 0 A;rw[avh (by omega)]at f;have N:(a.add (0*C)).add 0=a:=by simp[Addr.add]
  rw[N]at f;have hs:a.spot=none:=World.cell?_spot f;have hb:a.block<w.heap.size:=aBc w a f;refine⟨cs',J,I n cs' _ h2,hs,hb,λj O=> ?_⟩;have z:=L j O;rw[avh (by omega)]at z;rw[ave,avh (by omega),axu];rw[<- z];congr 1
  obtain⟨b,o,s⟩:=a;simp only at hs;subst hs;unfold Addr.add;by_cases h0:i*C=0<;>by_cases Q:j=0<;>simp[h0,Q,azy]
end
end
section
open Go.ChangeShapes Go.WideShapes Go.ChangeAt Go.Deep
theorem BS:prog.cellsOf 5=1:=by kernel_rfl
def Av(cs:List Value):Prop:= ∃(a0:Int),cs= [.int .u8 a0]/\(Lit.int .u8 a0).wf=true
theorem Dh{H:Type}{enc:TypeId×Value->H}{w:World}{base:Nat}{a:Nat->Bool}{f:Bool}{fuel:Nat}{cs:List Value}{x:DataW H×List MemPlace}(h:DataW.trod enc prog w base a f fuel 5 cs=some x):Av cs:=by
 obtain⟨n,rfl,_,hw⟩:=DataW.trod_int underlying5 h;exact⟨n,rfl,hw⟩
theorem af4:prog.cellsOf 22=3:=by kernel_rfl
def arj(cs:List Value):Prop:= ∃(a0:Int) (a:Int) (f:Int),cs= [.int .u8 a0,.int .u8 a,.int .u8 f]/\(Lit.int .u8 a0).wf=true/\(Lit.int .u8 a).wf=true/\(Lit.int .u8 f).wf=true
theorem ah2{H:Type}{enc:TypeId×Value->H}{w:World}{base:Nat}{m:Nat->Bool}{o:Bool}{fuel:Nat}{cs:List Value}{x:DataW H×List MemPlace}(h:DataW.trod enc prog w base m o fuel 22 cs=some x):arj cs:=by
 obtain⟨hl,n,a⟩:=adY underlying22 h;rw[af4]at hl;match cs,hl with
 | [c0,c1,c2],_=>
  obtain⟨z,f⟩:=a 0 (by decide);simp only[aAn,ay6,az4,BS,axj,az6,Nat.reduceMul,awx,azq,azp,az8]at f;obtain⟨a0,g,w0⟩:=Dh f;simp only[azc,aBf]at g;subst g;obtain⟨A,i⟩:=a 1 (by decide);simp only[aAn,ay6,az4,BS,axj,az6,Nat.reduceMul,awx,azq,azp,az8]at i;obtain⟨s,j,t⟩:=Dh i;simp only[azc,aBf]at j;subst j;obtain⟨C,k⟩:=a 2 (by decide);simp only[aAn,ay6,az4,BS,axj,az6,Nat.reduceMul,awx,azq,azp,az8]at k;obtain⟨u,l,y⟩:=Dh k;simp only[azc,aBf]at l;subst l;exact⟨a0,s,u,rfl,w0,t,y⟩
theorem ain{H:Type}{enc:TypeId×Value->H}{w:World}{base:Nat}{a:Nat->Bool}{f:Bool}{fuel:Nat}{cs:List Value}{x:DataW H×List MemPlace}(h:DataW.trod enc prog w base a f fuel 23 cs=some x): ∃(a0:Value),cs= [a0]/\CT w 1 Av a0:=by
 exact ahL Av underlying23 BS (by decide) (λ_ _ _ h=>Dh h) h
end
def pk:(t:Ty)->t.den->Prop
 | .int k,x=>(Lit.int k x).wf=true| .flt k,x=>(Lit.float k x).wf=true| .str,s=>s.size<=maxLen
 | .pair a b,x=>pk a x.1/\pk b x.2| .sl e,l=>l.length<=maxLen/\ ∀x∈l,pk e x|_,_=>True
theorem aeS(a:Ty)(l:List a.den):castL a a l=some l:=by
 unfold castL;have:tyeq a a=true:=by
  induction a with
  |int k=>cases k<;>rfl
  |flt k=>cases k<;>rfl
  |pair x y f g=>
   simp only[tyeq];rw[f ([]:List x.den)];exact g ([]:List y.den)
  |sl x i=>simp only[tyeq];exact i []
  |_=>rfl
 split
 ·rfl
 ·rename_i h;rw[this]at h;cases h
theorem ahG(k:IntKind):nR k k=true:=by cases k<;>rfl
theorem ah7(k:FloatKind):tw k k=true:=by cases k<;>rfl
theorem ajN: ∀(t:Ty) (x:t.den),dec t (enc t x)=some x:=by
 intro t;induction t with
 |pair a b f g=>
  intro x;simp only[enc,dec,bH];have h1:=la a x.1;rw[axn (by omega),avv (by omega),ax7 (by omega),axy (by omega),awr,f,g]
 |int k=>intro x;simp only[enc,dec,ahG,cnd]
 |flt k=>intro x;simp only[enc,dec,ah7,cnd]
 |sl e h=>intro l;simp only[enc,dec];exact aeS e l
 |_=>intro x;rfl
theorem XN{w:World}{X:Nat->Nat->Prop}{t:Ty}{x:t.den}{vs:List Value}(h:aF (λ_=>none) X w (enc t x) vs):TR w X t x vs:=hM (ajN t x) h
theorem ahN{w:World}{C:Nat}{E:List Value->Prop}{e:Ty}(o:C=e.n)(s: ∀cs,E cs-> ∃x:e.den,TR w (λ_ _=>False) e x cs/\pk e x){v:Value}(h:CT w C E v):
  ∃l:List e.den,LR w (λ_ _=>False) e.n (TR w (λ_ _=>False) e) l v/\l.length<=maxLen/\ ∀x∈l,pk e x:=by
 subst o;rcases h with rfl|⟨ad,len,cap,rfl,t,u,g⟩
 ·exact⟨[],.inl ⟨rfl,rfl⟩,awb _,λx a=>by cases a⟩
 ·have k: ∀i:Fin len,∃x:e.den,(∃cs:List Value,cs.length=e.n/\(∀j,j<e.n->w.cell? ⟨ad.block,ad.off+(i.1*e.n+j),none⟩=some (cs.getD j undef))/\TR w (λ_ _=>False) e x cs)/\pk e x:=by
   intro i;obtain⟨cs,h1,h2,_,_,h5⟩:=g i.1 i.2;obtain⟨x,h6,h7⟩:=s cs h2;exact⟨x,⟨cs,h1,h5,h6⟩,h7⟩
  let f:Fin len->e.den:=λi=>Classical.choose (k i)
  have m: ∀i,_:=λi=>Classical.choose_spec (k i)
  refine⟨List.ofFn f,.inr ⟨ad,cap,by rw[azn],by rw[azn];exact t,u,λy=> ?_,λi hi=> ?_,λp _ _ h=>h⟩,by rw[azn];omega,λx a=> ?_⟩
  ·have:0<len:=by
    have:=List.length_pos_iff.2 y;rwa [azn]at this
   obtain⟨_,_,_,h3,_⟩:=g 0 this;exact h3
  ·rw[azn]at hi
   obtain⟨cs,h1,h2,h3⟩:=(m ⟨i,hi⟩).1;refine⟨cs,h1,h2,?_⟩;rw[List.getElem_ofFn];exact h3
  ·obtain⟨i,rfl⟩:=(List.mem_ofFn.1 a)
   exact(m i).2
theorem afy{f:FuncId}{p:Ty}{ay:List (Option Nat)}{pre:Option (p.den->Prop)}{F:p.den->Bool}(h:ea prog bD f { p:=p,ay:=ay,r:= .bool,ar:= .one none,pre:=pre,fresh:=none,F:=F})
  (x:p.den) (w:World) (args:Array Value) (cs:List Value) (hH:bD.H w) (a: ∀q,pre=some q->q x) (g:ef ay args.toList cs) (i:TR w (λ_ _=>False) p x cs) (j:F x=true):
  Calls prog f args w λe w'=>e= .returned (.bool true)/\Below w.heap.size w w':=by
 refine(h x w (λ_ _=>False) args cs hH (λ_ _ h=>h.elim) a g i).mono λe w' ⟨v,k,hb,cs',h1,_,h2⟩=>⟨?_,hb⟩
 rw[k];have h1:cs'= [.bool (F x)]:=h1;rw[h1,j]at h2;obtain⟨l,h3,h4⟩:=h2;cases h3;rfl
theorem anY{w:World}(cs:List Value)(h:Av cs): ∃x:bB.den,TR w (λ_ _=>False) bB x cs/\pk bB x:=by
 obtain⟨a0,rfl,w0⟩:=h;exact⟨a0,XN ⟨rfl,trivial⟩,w0⟩
theorem Rq(x:tt.p.den)(h:pk tt.p x): ∀q,tt.pre=some q->q x:=by
 intro q f;cases f;simp only[tt,pk,Lit.wf,au4,adv]at h;simp only[MK];try simp only[show u8.min=0 from rfl,show u8.max=255 from rfl,show u16.min=0 from rfl,show u16.max=65535 from rfl,show u32.min=0 from rfl,show u32.max=4294967295 from rfl,show u64.min=0 from rfl,show u64.max=18446744073709551615 from rfl,show i64.min= -9223372036854775808 from rfl,show i64.max=9223372036854775807 from rfl]at h
 repeat' (first|exact trivial|apply And.intro)
 all_goals first|omega|(intro v a;first|exact h.2.2.2 v a|exact h.2.2 v a|exact h.2 v a|exact h.1.2 v a|exact h.2.1.2 v a|exact h.2.2.1.2 v a|exact h.2.2.2.2 v a)
theorem adI(a:Int)(f:Int)(g:Int)(h:Value)(w:World)(k:(Lit.int .u8 a).wf=true)(l:(Lit.int .u8 f).wf=true)(m:(Lit.int .u8 g).wf=true)(o:CT w 1 Av h)(s:bD.H w):
  Calls prog 3 #[.agg #[.int .u8 a,.int .u8 f,.int .u8 g],h] w λe w'=>e= .returned (.bool true)/\Below w.heap.size w w':=by
 obtain⟨i,t,j⟩:=ahN (e:=bB) rfl anY o;exact afy ok3 ((a,f,g),i) w _ [.int .u8 a,.int .u8 f,.int .u8 g,h] s (Rq _ ⟨⟨k,l,m⟩,j⟩) ⟨[.int .u8 a,.int .u8 f,.int .u8 g],_,rfl,rfl,rfl,⟨_,rfl,rfl⟩⟩ (XN ⟨rfl,rfl,rfl,⟨t,trivial⟩,trivial⟩) (law_3 ((a,f,g),i) (Rq ((a,f,g),i) ⟨⟨k,l,m⟩,j⟩ _ rfl) j.1)
end Go.Proofs.YtcfinjcapeemeaaGreatDoor.S
