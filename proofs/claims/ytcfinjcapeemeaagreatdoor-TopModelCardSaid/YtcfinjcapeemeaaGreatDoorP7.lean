/- Part of the proof that the law TopModel holds for every input. -/
import Derived.Test.YtcfinjcapeemeaaGreatDoorP6
set_option linter.all false
set_option maxRecDepth 100000
set_option maxHeartbeats 4000000
namespace Go.Proofs.YtcfinjcapeemeaaGreatDoor.S
open Go Go.RowKit IntKind Go.Proofs.Tryz
theorem JX{a b:ByteArray}(h:a.data.toList=b.data.toList):a=b:=by
 cases a;simp_all
theorem ahb(l:List Int): ∀r:ByteArray,(l.foldl (λr n=>r.push (UInt8.ofNat n.toNat)) r).data.toList=r.data.toList++l.map (λn=>UInt8.ofNat n.toNat):=by
 induction l with
 |nil=>simp_all
 |cons x l a=>
  simp_all
theorem HX(l:List Int):(bP l).data.toList=l.map (λn=>UInt8.ofNat n.toNat):=by
 simp_all [bP,ahb]
theorem mV(s:ByteArray):s.size=s.data.toList.length:=by simp_all
@[simp] theorem jm (l:List Int):(bP l).size=l.length:=by rw[mV,HX,ayt]
theorem GQ(a b:ByteArray):(dA a b).data.toList=a.data.toList++b.data.toList:=by
 simp_all [dA]
@[simp] theorem mO (a b:ByteArray):(dA a b).size=a.size+b.size:=by rw[mV,GQ,au5,<- mV,<- mV]
theorem extract_data(s:ByteArray)(a b:Nat):(s.extract a b).data.toList=(s.data.toList.take b).drop a:=by
 rw[ByteArray.data_extract,Array.toList_extract,List.extract_eq_drop_take',]
@[simp] theorem extract_size (s:ByteArray) (a b:Nat):(s.extract a b).size=min b s.size-a:=by
 rw[mV,extract_data,avs,avt,<- mV]
@[simp] theorem pL (s:ByteArray):(av s).length=s.size:=by unfold av;rw[ayt,<- mV]
@[simp] theorem IF (l:List UInt8):(ByteArray.mk l.toArray).size=l.length:=by rw[mV]
@[simp] theorem aup:ByteArray.empty.size=0:=rfl
theorem II{a b:ByteArray}(h:av a=av b):a=b:=by
 refine JX ?_;unfold av at h;have: ∀(l m:List UInt8),l.map (λb=>(b.toNat:Int))=m.map (λb=>(b.toNat:Int))->l=m:=by
  intro l;induction l with
  |nil=>simp_all
  |cons x l f=>
   intro m h;cases m with
   |nil=>simp_all
   |cons y m=>
    simp only[axm,azc]at h;rw[f m h.2,UInt8.toNat_inj.1 (by omega:x.toNat=y.toNat)]
 grind
theorem ajq(a b:ByteArray):av (dA a b)=av a++av b:=by simp_all [av,GQ]
theorem tK(s:ByteArray)(a b:Nat):av (s.extract a b)=((av s).take b).drop a:=by grind [av,extract_data,List.map_drop,List.map_take]
theorem uJ(l:List Int)(h: ∀x∈l,0<=x/\x<=255):av (bP l)=l:=by
 unfold av;rw[HX,List.map_map];conv=>rhs;rw[<- List.map_id l]
 refine azr λx a=> ?_
 obtain⟨h1,h2⟩:=h x a;simp only[Function.comp,UInt8.toNat_ofNat',id];omega
theorem uO(s:ByteArray): ∀x∈av s,0<=x/\x<=255:=by
 intro x a;obtain⟨b,_,rfl⟩:=List.mem_map.1 a;have:=b.toNat_lt;omega
theorem ajw(bs:ByteArray): ∀(n i:Nat) (r:List UInt8),bs.size-i=n->ByteArray.toList.loop bs i r=r.reverse++bs.data.toList.drop i:=by
 intro n;induction n with
 |zero=>
  intro i r h;rw[ByteArray.toList.loop,avb (by omega),axy (by grind [mV]),awu]
 |succ n a=>
  intro i r h;have hi:i<bs.data.toList.length:=by grind [mV]
  rw[ByteArray.toList.loop,avf (by omega),a (i+1) _ (by omega),List.reverse_cons,avn,av8 hi];congr 1
  have:bs.get! i=bs.data.toList[i]:=by
   have h2:i<bs.data.size:=by omega
   show bs.data[i]! =_;simp_all
  simp_all
theorem aph(bs:ByteArray):bs.toList=bs.data.toList:=by
 simp_all [ByteArray.toList,ajw]
theorem BK(a b:ByteArray):iL a b=true↔a=b:=by
 unfold iL;grind [JX,aph]
theorem Hd(a:ByteArray):iL a a=true:=(BK a a).2 rfl
theorem Ch(s:ByteArray)(i:Int):aL s i=(av s).getD i.toNat 0:=by
 unfold aL av;rw[ave,az5,av1,avq];cases s.data[i.toNat]? <;>rfl
theorem lX(s:ByteArray)(i:Int):0<=aL s i/\aL s i<=255:=by
 unfold aL;have:=(s.data.getD i.toNat 0).toNat_lt;omega
theorem afb(s:ByteArray)(i:Nat)(h:i<s.size):aL s i=(av s)[i]'(by rw[pL];exact h):=by
 simp_all [Ch]
def SN:=And.intro @jm<|And.intro @mO<|And.intro @extract_size<|And.intro @pL @IF
def ce(c:af):List Int:=le (u64.wrap c.1) 4++le (u64.wrap c.2) 4
theorem nm(c:af):(ce c).length=8:=by simp_all [ce,fT]
theorem ir{K X ρ:Type}{step:K->X->ak K X ρ}{k:K}{I:X->Prop}(a: ∀y k' z,I y->step k y= .next k' z->I z)(hb: ∀y k' z,I y->step k y= .brk k' z->I z): ∀(n:Nat) (y:X),I y->I (endOf step k n y)
 |0,y,h=>h
 |n+1,y,h=>by
  unfold endOf;cases hs:step k y with
  |next k' z=>exact ir a hb n z (a y k' z h hs)
  |brk k' z=>grind
  |ret r=>exact h
def yj(k:(Unit))(x:(af)):Prop:=(0:Int)<=x.2
def yA(k:Unit)(x:af):=(8-x.2).toNat
def rQ(k:Unit)(x:af):ak Unit (af) Int:=bif x.2<8 then .next () (u16.wrap ((BitVec.ofInt u16.bits (u16.wrap (x.1*2^min (1:Int).toNat u16.bits))^^^BitVec.ofInt u16.bits (u16.wrap (Int.fdiv x.1 (2^min (15:Int).toNat u16.bits)*4129))).toNat),i64.wrap (x.2+1))else .brk () x
def V3 k x:=endOf rQ k (Nat.succ (yA k x)) x
def Di(k:dW)(x:af):Prop:=0<=x.2/\k.2=k.1.size/\k.1.size<=100000
def yC(k:(dW))(x:(af)):Nat:=(k.2-x.2).toNat
def rV(k:dW)(x:af):ak (dW) (af) Int:=bif x.2<k.2 then .next k ((V3 () (u16.wrap ((BitVec.ofInt u16.bits x.1^^^BitVec.ofInt u16.bits (u16.wrap (u16.wrap (aL k.1 x.2)*2^min (8:Int).toNat u16.bits))).toNat),0)).1,i64.wrap (x.2+1))else .brk k x
def amO k x:=endOf rV k (Nat.succ (yC k x)) x
def wu(x:ByteArray):=(amO (x,x.size) (65535,0)).1
def KD(x:ByteArray):Prop:=x.size<=100000
def kj(x:ae):=letI a:=i64.wrap (19*x.2.2.2.2.2.2.2.length);bif bZ x !=0 then(0,0)else(i64.wrap (14+a),i64.wrap (23+a))
def FA(z:List (Nat×List Nat)):=nq jO cY TH z
def Ff:Ct:=⟨bK,[none],oG,ah.one none,some KD,none,wu⟩
def Y8:Ct:=⟨az,[some 8],Ty.pair ab ab,ah.tup [none,none],none,none,kj⟩
def Jv:LS oG.den:=aD Ty.unit (Ty.pair oG ab) [] [] [(3,none),(18,none)] [] [] [] [] 2 false yj rQ yA
def Sh:LS oG.den:=aD (Ty.pair bK ab) (Ty.pair oG ab) [(0,none),(7,none)] [] [(3,none),(8,none)] [] [] [] [] 0 false Di rV yC
theorem akZ:bu f237 Ff [0,0] Jv:=have E:=ai @yj.eq_1<|ai @yA.eq_1<|ai @rQ.eq_1<|ai @nm @fT;lA (FA []) [] l0 (λk x fk fx h=>sm (decide (x.2<8)=true->0<=(15:Int)/\0<=(1:Int)))
theorem ajO:bu f237 Ff [0] Sh:=have E:=ai @Di.eq_1<|ai @yC.eq_1<|ai @rV.eq_1<|ai @nm<|ai @fT @yj.eq_1;lA (FA []) [(7,Jv)] (lc akZ l0) (λk x fk fx h=>sm (decide (x.2<k.2)=true->(0<=x.2/\x.2<k.1.size)/\0<=(8:Int)/\yj () (u16.wrap ((BitVec.ofInt u16.bits x.1^^^BitVec.ofInt u16.bits (u16.wrap (u16.wrap (aL k.1 x.2)*2^min (8:Int).toNat u16.bits))).toNat),0)))
theorem ani:an 237 Ff:=have E:=ai @yj.eq_1<|ai @Di.eq_1<|ai @KD.eq_1<|ai @nm @fT;ao (FA []) func237 [(7,Jv),(3,Sh)] (lc ajO l0) (sp λx fx h=>sl (Di (x,x.size) (65535,0)))
theorem arp:an 124 Y8:=ao (FA []) func124 [] l0 (λ_ _ _=>tr)
def adg:=(237,Ff)::(124,Y8)::abS
theorem Sw:cr adg:=gc ani func237 (gc arp func124 (TH))
def oP(x:ByteArray):=dA x (bP [u8.wrap (Int.fdiv (wu x) (2^min (8:Int).toNat u16.bits)),u8.wrap (wu x)])
def Kt(x:ByteArray):Prop:=x.size<=99990
def WK:Ct:=⟨bK,[none],bK,ah.one none,some Kt,none,oP⟩
theorem am6:an 204 WK:=ao (nq jO cY Sw []) func204 [] l0 (sp λx fx h=>sf (KD x/\0<=(8:Int)/\((ByteArray.size x):Int)+((ByteArray.size (bP [u8.wrap (Int.fdiv (wu x) 2^min (8:Int).toNat u16.bits),u8.wrap (wu x)])))<=9223372036854775807/\True) (by
 try dsimp only[Ty.den]at*
 have h:x.size<=99990:=h;refine⟨show x.size<=100000 by omega,by omega,?_,trivial⟩;rw[jm];simp only[avl,avo];omega))
def ab7:=(204,WK)::adg
theorem R8:cr ab7:=gc am6 func204 (Sw)
def jC(x:ByteArray):dW:=letI b:=i64.wrap (x.size-2);letI a:=ByteArray.extract x (Int.toNat 0) (Int.toNat b);bif b<0 then(ByteArray.mk #[],4)else bif !iL (oP a) x then(ByteArray.mk #[],5)else(a,0)
def Vf(x:ByteArray):Prop:=x.size<=99990
def ZW:Ct:=⟨bK,[none],Ty.pair bK bI,ah.tup [none,none],some Vf,none,jC⟩
theorem aow:an 160 ZW:=ao (nq jO cY R8 []) func160 [] l0 (sp λx fx h=>sf (letI f:=x.size;letI a:=i64.wrap (f-2);letI b:=ByteArray.extract x (Int.toNat 0) (Int.toNat a);letI c:=0<=(0:Int)/\0<=a/\a<=f;letI d:=decide (a<0);letI e:= !iL (oP b) x;(d=true->True)/\(d=false->c/\Kt b/\(e=true->True)/\(e=false->c/\True))) (by
 try dsimp only[Ty.den]at*
 have h:x.size<=99990:=h;have e:i64.wrap ((x.size:Int)-2)=(x.size:Int)-2:=aB (by omega) (by omega);simp only[e,adv,au0,Kt,extract_size]
 (repeat' (first|exact trivial|apply And.intro|intro _))<;>first|trivial|omega))
def AD:=(160,ZW)::ab7
theorem To:cr AD:=gc aow func160 (R8)
theorem PY(s:ByteArray)(h:s.size<=1000000):jC s=if s.size<2 then(ByteArray.empty,4)else if oP (s.extract 0 (s.size-2))=s then(s.extract 0 (s.size-2),0)else(ByteArray.empty,5):=by
 unfold jC;have e:i64.wrap (s.size-2)=s.size-2:=aB (by omega) (by omega);simp only[e];by_cases h1:s.size<2
 ·rw[avf h1]
  have:decide ((s.size:Int)-2<0)=true:=by simp;omega
  rw[this];rfl
 ·rw[avb h1]
  have:decide ((s.size:Int)-2<0)=false:=by simp;omega
  rw[this];have a:Int.toNat (s.size-2)=s.size-2:=by omega
  simp only[a,Int.toNat_zero];by_cases h2:oP (s.extract 0 (s.size-2))=s
  ·rw[avf h2,h2,Hd];rfl
  ·rw[avb h2]
   have:iL (oP (s.extract 0 (s.size-2))) s=false:=by
    cases h3:iL (oP (s.extract 0 (s.size-2))) s with
    |false=>rfl
    |true=>exact absurd ((BK _ _).1 h3) h2
   rw[this];rfl
theorem Ot{s:ByteArray}(h:(jC s).2=0)(h2:s.size<=1000000):(jC s).1.size=s.size-2/\2<=s.size:=by
 rw[PY s h2]at h⊢;by_cases h1:s.size<2
 ·simp_all
 ·rw[avb h1]at h⊢
  split at h
  ·rename_i h3
   rw[avf h3];simp only[extract_size];omega
  ·cases h
def hV(x:ae×lj):=letI a:=jC x.2.1;bif bZ x.1 !=0 then(none,1)else bif x.2.1.size !=x.2.2.1 then(none,4)else bif aL x.2.1 0 !=x.2.2.2||i64.wrap (aL x.2.1 1) !=x.1.2.2.2.2.2.2.2.length then(none,30)else bif a.2 !=0 then(none,a.2)else(some (ByteArray.extract a.1 (Int.toNat 2) (Int.toNat a.1.size),x.1),0)
def DZ(x:ae×lj):Prop:=bZ x.1=0->14<=x.2.2.1/\x.2.2.1<=99000
theorem ao1(x:(Ty.pair az (Ty.pair bK (Ty.pair ab bB))).den):((vF (sX Aa none AD []) f125 (Ty.pair az (Ty.pair bK (Ty.pair ab bB))) [some 8,none,none,none] dC AS x)).val (λ_=>(none,0)) (none,0)=hV x:=by kernel_rfl
theorem aqo(x:(Ty.pair az (Ty.pair bK (Ty.pair ab bB))).den):((vF (sX Aa none AD []) f125 (Ty.pair az (Ty.pair bK (Ty.pair ab bB))) [some 8,none,none,none] dC AS x)).safe=(((((bZ x.1) !=(0:Int))=true->True)/\(((bZ x.1) !=(0:Int))=false->(((((x.2.1).size:Int) !=x.2.2.1)=true->True)/\((((x.2.1).size:Int) !=x.2.2.1)=false->((0<=(0:Int)/\(0:Int)<((x.2.1).size:Int))/\(((((aL x.2.1 (0:Int)) !=x.2.2.2)=false->0<=(1:Int)/\(1:Int)<((x.2.1).size:Int)))/\(((((aL x.2.1 (0:Int)) !=x.2.2.2)||((i64.wrap (aL x.2.1 (1:Int))) !=((x.1.2.2.2.2.2.2.2).length:Int)))=true->True)/\((((aL x.2.1 (0:Int)) !=x.2.2.2)||((i64.wrap (aL x.2.1 (1:Int))) !=((x.1.2.2.2.2.2.2.2).length:Int)))=false->((Vf x.2.1)/\((((jC x.2.1).2 !=(0:Int))=true->True)/\(((jC x.2.1).2 !=(0:Int))=false->((0<=(2:Int)/\(2:Int)<=(((jC x.2.1).1).size:Int)/\(((jC x.2.1).1).size:Int)<=(((jC x.2.1).1).size:Int))/\(((0:Int)=0)/\True)))))))))))))):=by kernel_rfl
def EH(nw:Bool):Cm:={p:=Ty.pair az (Ty.pair bK (Ty.pair ab bB)),ay:= [some 8,none,none,none],q:=dC,pre:=some DZ,F:=hV,nw:=nw}
theorem ao9(x:(Ty.pair az (Ty.pair bK (Ty.pair ab bB))).den)(fx:Fit (Ty.pair az (Ty.pair bK (Ty.pair ab bB))) x)(h:DZ x):eS ((vF (sX Aa none AD []) f125 (Ty.pair az (Ty.pair bK (Ty.pair ab bB))) [some 8,none,none,none] dC AS x)):=by
 refine⟨?_⟩;rw[aqo];try dsimp only[Ty.den]at*
 refine⟨λ_=>trivial,λh1=>⟨λ_=>trivial,λh2=> ?_⟩⟩;rw[avc]at h1 h2;obtain⟨h3,h3'⟩:=h h1;refine⟨⟨au8 _,by omega⟩,λ_=>⟨by omega,by omega⟩,λ_=>trivial,λh4=>⟨?_,λ_=>trivial,λh5=>⟨?_,rfl,trivial⟩⟩⟩
 ·show x.2.1.size<=99990
  omega
 ·rw[avc]at h5
  have h6:=Ot h5 (by omega);refine⟨by omega,by omega,au8 _⟩
theorem apS(nw:Bool):M1 prog bD 125 (EH nw):=
 amP (nq jO cY To []) func125 (cm:=EH nw) (L:=AS) (c:=fH f125) (dflt:=(none,0)) rfl (aii)
  (λx fx hq=>(ao9 x fx (hq _ rfl)).safe) ao1
def aan(nw:Bool):List (Nat×Zc):=(125,.mk (EH nw)):: []
theorem mU(nw:Bool):ga (aan nw):=zc (z:= .mk (EH nw)) (apS nw) func125 (Qj)
def abD:List (Nat×Ct):=AD
theorem IM:cr abD:=To
theorem I4{b:ae}(a:aR b)(f:bZ b=0):kj b=(14+19*(b.2.2.2.2.2.2.2.length:Int),23+19*(b.2.2.2.2.2.2.2.length:Int)):=by
 have h1:=a.cn;grind [kj,aB]
theorem HY{b:ae}(hl:b.aK.length<=maxLen):bZ b=0->(14<=(kj b).1/\(kj b).1<=99000)/\(14<=(kj b).2/\(kj b).2<=99000):=λa=>by
 have f:=(oj hl a).cn;grind [I4,oj]
theorem afR{b:ae}{s:ByteArray}{z a:Int}(hl:b.aK.length<=maxLen)(f:bZ b=0->14<=z/\z<=99000)(h:(hV (b,s,z,a)).1.isSome=true):
  bZ b=0/\aR b/\(s.size:Int)=z/\ ∃d,jC s=(d,0)/\d.size=s.size-2/\2<=s.size/\hV (b,s,z,a)=(some (d.extract 2 d.size,b),0)/\aL s 0=a/\aL s 1=(b.2.2.2.2.2.2.2.length:Int):=by
 unfold hV at h⊢;simp only at h⊢;cases h1:(bZ b !=0)with
 |true=>rw[h1]at h;cases h
 |false=>
  rw[h1]at h;simp only[auw]at h⊢;cases h2:((s.size:Int) !=z)with
  |true=>rw[h2]at h;cases h
  |false=>
   rw[h2]at h;simp only[auw]at h⊢;cases h3:((aL s 0 !=a)||(i64.wrap (aL s 1) !=(b.2.2.2.2.2.2.2.length:Int)))with
   |true=>rw[h3]at h;cases h
   |false=>
    rw[h3]at h;simp only[auw]at h⊢;cases h4:((jC s).2 !=0)with
    |true=>rw[h4]at h;cases h
    |false=>
     rw[avc]at h1 h2 h4;rw[au1,avc,avc]at h3;have f:=f h1;obtain⟨h5,h6⟩:=Ot h4 (by omega);refine⟨h1,oj hl h1,h2,(jC s).1,by rw[<- h4],h5,h6,rfl,h3.1,?_⟩;have:=h3.2;have hr:=lX s 1;rwa [aB (by omega) (by omega)]at this
theorem afQ{b:ae}{s:ByteArray}{z a:Int}(h:(hV (b,s,z,a)).1.isSome=false):(hV (b,s,z,a)).2≠0:=by
 unfold hV at h⊢;grind
def J1(x:ae×ByteArray):=letI a:=(hV (x.1,x.2,(kj x.1).1,165)).1.getD (Ty.dflt dC);letI b:=a.2.2.2;letI c:=b.2.2;qA (a.1,a.2.1,a.2.2.1,b.1,b.2.1,c.1,c.2.1,c.2.2)
def Nt(x:ae×ByteArray):=letI a:=(0,0);letI b:=J1 x;bif(0:Int) !=0 then((a,a,[]),0)else bif b.1.2 !=0 then((a,a,[]),b.1.2)else(b.1.1,0)
def amR(x:ae×ByteArray):Prop:=True/\(hV (x.1,x.2,(kj x.1).1,165)).1.isSome=true
def Lq:Ct:={p:=Ty.pair az bK,ay:= [some 8,none],r:=Ty.pair dQ bI,ar:=ah.tup [some 5,none],pre:=some amR,fresh:=none,F:=Nt}
theorem apQ:an 85 Lq:=ao (dB (mU true) jO cY IM []) func85 [] l0 (sp λx fx h=>sf (letI b:=(x.1,x.2,(kj x.1).1,165);letI a:=(hV b).1.getD (Ty.dflt dC);letI c:=a.2.2.2;letI d:=(J1 x).1.2 !=0;letI e:=0 !=0;letI f:=c.2.2;(DZ b/\(hV b).1.isSome=true)/\(e=true->True)/\(e=false->uX (a.1,a.2.1,a.2.2.1,c.1,c.2.1,f.1,f.2.1,f.2.2)/\(d=true->True)/\(d=false->True))) (by
 try dsimp only[Ty.den]at*
 obtain⟨hs,ho⟩:=h;have hl:=fx.1.2.2.2.2.2.2.2.1;obtain⟨hv,hB,hz,d,hd,hds,h2,hfm,_,_⟩:=afR hl (λh=>(HY hl h).1) ho;refine⟨⟨λh=>(HY hl h).1,ho⟩,λ_=>trivial,λ_=>⟨?_,λ_=>trivial,λ_=>trivial⟩⟩;rw[hfm];show uX (d.extract 2 d.size,x.1);have h1:=hB.fl;have h3:=hB.cn;rw[I4 hB hv]at hz;have hz:(x.2.size:Int)=14+19*(x.1.2.2.2.2.2.2.2.length:Int):=hz;refine⟨?_,h3.1,h3.2,h1.1,h1.2⟩;show((d.extract 2 d.size).size:Int)=10+19*(x.1.2.2.2.2.2.2.2.length:Int);rw[extract_size];omega))
def M9(x:ae×ByteArray):((af)×(af)×List ((eT)×(gq)×kE))×Int:=letI a:=hV (x.1,x.2,(kj x.1).1,165);letI b:=(0,0);bif a.2 !=0 then((b,b,[]),a.2)else Ty.dflt (Ty.pair dQ bI)
def alN(x:ae×ByteArray):Prop:=True/\(hV (x.1,x.2,(kj x.1).1,165)).1.isSome=false
def aoO:Ct:={p:=Ty.pair az bK,ay:= [some 8,none],r:=Ty.pair dQ bI,ar:=ah.tup [some 5,none],pre:=some alN,fresh:=some 76,F:=M9}
theorem aoA:an 85 aoO:=ao (dB (mU false) jO cY IM []) func85 [] l0 (sp λx fx h=>sf (letI a:=(x.1,x.2,(kj x.1).1,165);letI b:=(hV a).2 !=0;(DZ a/\(hV a).1.isSome=false)/\(b=true->True)/\(b=false->False)) (by
 try dsimp only[Ty.den]at*
 obtain⟨hs,ho⟩:=h;have hl:=fx.1.2.2.2.2.2.2.2.1;have hn:=afQ ho;refine⟨⟨λh=>(HY hl h).1,ho⟩,λ_=>trivial,λhc=> ?_⟩;rw[avc]at hc;exact hn hc))
def Mb(x:ae×ByteArray):Bool:=(hV (x.1,x.2,(kj x.1).1,165)).1.isSome
def fO(x:ae×ByteArray):=bif Mb x then Nt x else M9 x
def XF(_:ae×ByteArray):Prop:=True
theorem akc{P:Program}{G:Gd}{f:FuncId}{p r:Ty}{ay:List (Option Nat)}{ar:ah}{fresh:Option Nat}{pre:p.den->Prop}(c:p.den->Bool){a g:p.den->r.den}
  (h:ea P G f { p:=p,ay:=ay,r:=r,ar:=ar,pre:=some λx=>pre x/\c x=true,fresh:=fresh,F:=a})
  (i:ea P G f { p:=p,ay:=ay,r:=r,ar:=ar,pre:=some λx=>pre x/\c x=false,fresh:=fresh,F:=g}):
  ea P G f { p:=p,ay:=ay,r:=r,ar:=ar,pre:=some pre,fresh:=fresh,F:=λx=>bif c x then a x else g x}:=by
 intro x w X args cs h1 h2 h3 h4 h5;cases hc:c x with
 |true=>
  have:=h x w X args cs h1 h2 (λq j=>by grind) h4 h5;simp_all
 |false=>
  have:=i x w X args cs h1 h2 (λq j=>by grind) h4 h5;simp_all
def aaW:Ct:={ Lq with pre:=some XF,F:=fO}
theorem at6:ea prog bD 85 aaW:=akc (p:=Lq.p) Mb apQ (ea.AF aoA)
def aaE:List (Nat×Ct):=(85,aaW)::abD
theorem Sm:cr aaE:=Cj at6 ⟨_,func85,by kernel_rfl,by kernel_rfl⟩ IM
abbrev dY:=(eT)×(gq)×kE
abbrev bm:=(af)×(af)×List dY
theorem PO{α:Type}(f:α->List Int)(k:Nat)(h: ∀c,(f c).length=k): ∀l:List α,(l.flatMap f).length=k*l.length
 | []=>by simp
 |x::l=>by rw[ayu,au5,h,PO f k h l,avl];grind
def pf(x:ae):=letI a:=i64.wrap (19*x.2.2.2.2.2.2.2.length);bif iT x !=0 then(0,0)else(i64.wrap (14+a),i64.wrap (23+a))
def yZ(k:(Unit))(x:(af)):Prop:=(0:Int)<=x.2
def zg(k:Unit)(x:af):=(8-x.2).toNat
def rX(k:Unit)(x:af):ak Unit (af) Int:=letI a:=Int.tmod (i64.wrap (x.1*2)) (65536:Int);letI b:=i64.wrap (x.2+1);bif x.2<8 then bif x.1>=32768 then .next () (i64.wrap ((BitVec.ofInt i64.bits a^^^BitVec.ofInt i64.bits 4129).toNat),b)else .next () (a,b)else .brk () x
def V9 k x:=endOf rX k (Nat.succ (zg k x)) x
def EB(k:ByteArray)(x:af):Prop:=0<=x.2/\k.size<=100000
def su(k:ByteArray)(x:af):=(k.size-x.2).toNat
def ou(k:ByteArray)(x:af):ak ByteArray (af) Int:=bif x.2<k.size then .next k ((V9 () (i64.wrap ((BitVec.ofInt i64.bits x.1^^^BitVec.ofInt i64.bits (i64.wrap (i64.wrap (aL k x.2)*256))).toNat),0)).1,i64.wrap (x.2+1))else .brk k x
def apX k x:=endOf ou k (Nat.succ (su k x)) x
def wI(x:ByteArray):=u16.wrap (apX x (65535,0)).1
def Lg(x:ByteArray):Prop:=x.size<=100000
def DR(k:lj)(x:af):Prop:=0<=x.2/\0<=k.2.1/\0<=k.2.2/\k.2.2<=8/\k.2.1+k.2.2<=k.1.size/\k.1.size<=99000
def D6(k:lj)(x:af):=(k.2.2-x.2).toNat
def zh(k:lj)(x:af):ak (lj) (af) Int:=bif x.2<k.2.2 then .next k (u64.wrap ((BitVec.ofInt u64.bits x.1|||BitVec.ofInt u64.bits (u64.wrap (u64.wrap (aL k.1 (i64.wrap (k.2.1+x.2)))*2^min (u64.wrap (i64.wrap (8*x.2))).toNat u64.bits))).toNat),i64.wrap (x.2+1))else .brk k x
def anp k x:=endOf zh k (Nat.succ (D6 k x)) x
def mF(x:lj):=(anp x (0,0)).1
def oH(x:lj):Prop:=0<=x.2.1/\0<=x.2.2/\x.2.2<=8/\x.2.1+x.2.2<=x.1.size/\x.1.size<=99000
def kn(x:lj):=u8.wrap ((BitVec.ofInt u8.bits (Int.fdiv (aL x.1 x.2.1) (2^min (u64.wrap x.2.2).toNat u8.bits))&&&BitVec.ofInt u8.bits 1).toNat)==1
def oF(x:lj):Prop:=0<=x.2.1/\x.2.1<x.1.size/\0<=x.2.2
def tu(x:ae×af):=bif iT x.1 !=0 then false else x.2.2==1&&jG (x.2.1,0,i64.wrap (x.1.1-2))||x.2.2==2&&jG (x.2.1,1,i64.wrap (x.1.1-1))
def qK(x:ax):=x.1>=x.2.1&&x.1<=x.2.2
def AZ(x:ae×Int):=Int.fdiv (u64.wrap x.2) (2^min (u64.wrap x.1.1).toNat u64.bits)==0
def Ew(k:af)(x:(List Int)×Int):Prop:=0<=x.2/\x.1.length=k.2/\k.2<=8
def zo(k:(af))(x:((List Int)×Int)):Nat:=(k.2-x.2).toNat
def pY(k:af)(x:(List Int)×Int):ak (af) ((List Int)×Int) ByteArray:=bif x.2<k.2 then .next k (aH bB x.1 x.2 (u8.wrap (Int.fdiv k.1 (2^min (u64.wrap (i64.wrap (8*x.2))).toNat u64.bits))),i64.wrap (x.2+1))else .brk k x
def V7 k x:=endOf pY k (Nat.succ (zo k x)) x
def dy(x:af):=bP (V7 x (aE bB x.2,0)).1
def gu(x:af):Prop:=0<=x.2/\x.2<=8
def D4(k:Int×ae)(x:(List dY)×Int):Prop:=0<=x.2/\x.1.length<=8/\2<=k.2.1/\k.2.1<=32
def DP(k:Int×ae)(x:(List dY)×Int):=(x.1.length-x.2).toNat
def uM(k:Int×ae)(x:(List dY)×Int):=letI b:=aa x.1 x.2;letI a:=aH ly x.1 x.2 ((u32.wrap ((BitVec.ofInt u32.bits b.1.1&&&BitVec.ofInt u32.bits k.1).toNat),b.1.2),b.2);letI c:=aa a x.2;aH ly a x.2 (c.1,c.2.1,u32.wrap ((BitVec.ofInt u32.bits b.2.2.1&&&BitVec.ofInt u32.bits k.1).toNat),c.2.2.2)
def C1(k:Int×ae)(x:(List dY)×Int):=letI a:=aa (uM k x) x.2;aH ly (uM k x) x.2 (a.1,(i64.wrap (Int.tmod (u64.wrap a.2.1.1) (u64.wrap k.2.1)),a.2.1.2),a.2.2)
def CP(k:Int×ae)(x:(List dY)×Int):=letI a:=aa (C1 k x) x.2;aH ly (C1 k x) x.2 (a.1,(a.2.1.1,a.2.1.2.1,i64.wrap (Int.tmod (u64.wrap (aa (uM k x) x.2).2.1.2.2.1) (3:Int)),a.2.1.2.2.2),a.2.2)
def zb(k:Int×ae)(x:(List dY)×Int):ak (Int×ae) ((List dY)×Int) bm:=bif x.2<x.1.length then .next k (CP k x,i64.wrap (x.2+1))else .brk k x
def WG k x:=endOf zb k (Nat.succ (DP k x)) x
def mD(x:ae×bm):bm:=letI a:=u32.wrap (u32.wrap (1*2^min (u64.wrap x.1.1).toNat u32.bits)-1);letI b:=(u32.wrap ((BitVec.ofInt u32.bits (u32.wrap ((BitVec.ofInt u32.bits x.2.1.1&&&BitVec.ofInt u32.bits a).toNat))&&&BitVec.ofInt u32.bits (Int.fdiv a (2^min (1:Int).toNat u32.bits))).toNat),u32.wrap ((BitVec.ofInt u32.bits (u32.wrap ((BitVec.ofInt u32.bits x.2.1.2&&&BitVec.ofInt u32.bits a).toNat))&&& ~~~BitVec.ofInt u32.bits 1).toNat));letI c:=i64.wrap (Int.tmod (u64.wrap x.2.2.1.1) (9:Int));letI e:=x.1.2.2.2.2.2.2.2.length;letI d:=WG (a,x.1) (aP (aE ly e) x.2.2.2,0);bif c==0 then(b,(c,0),d.1)else(b,(c,i64.wrap (Int.tmod (u64.wrap x.2.2.1.2) (u64.wrap e))),d.1)
def sJ(x:ae×bm):Prop:=letI a:=x.1.2.2.2.2.2.2.2;2<=x.1.1/\x.1.1<=32/\1<=a.length/\a.length<=8
def ki(z:List (Nat×List Nat)):=dB (mU true) jO cY Sm z
def abP:Ct:=⟨az,[some 8],Ty.pair ab ab,ah.tup [none,none],none,none,pf⟩
def Fw:Ct:=⟨bK,[none],oG,ah.one none,some Lg,none,wI⟩
def MH:Ct:=⟨Ty.pair bK (Ty.pair ab ab),[none,none,none],ny,ah.one none,some oH,none,mF⟩
def aar:Ct:=⟨Ty.pair bK (Ty.pair ab ab),[none,none,none],aw,ah.one none,some oF,none,kn⟩
def aaf:Ct:=⟨Ty.pair az (Ty.pair ab ab),[some 8,none,none],aw,ah.one none,none,none,tu⟩
def acn:Ct:=⟨Ty.pair ab (Ty.pair ab ab),[none,none,none],aw,ah.one none,none,none,qK⟩
def aaV:Ct:=⟨Ty.pair az jI,[some 8,none],aw,ah.one none,none,none,AZ⟩
def Nl:Ct:=⟨Ty.pair ny ab,[none,none],bK,ah.one none,some gu,none,dy⟩
def MN:Ct:=⟨Ty.pair az dQ,[some 8,some 5],dQ,ah.one (some 5),some sJ,some 76,mD⟩
theorem arD:an 31 abP:=ao (ki []) func31 [] l0 (λ_ _ _=>tr)
def KN:LS oG.den:=aD Ty.unit (Ty.pair ab ab) [] [] [(3,none),(5,none)] [] [] [] [] 2 false yZ rX zg
def UH:LS oG.den:=aD bK (Ty.pair ab ab) [(0,none)] [] [(3,none),(4,none)] [] [] [] [] 0 false EB ou su
theorem amF:bu f84 Fw [0,0] KN:=have E:=ai @yZ.eq_1<|ai @zg.eq_1<|ai @rX.eq_1 SN;lA (ki []) [] l0 (λk x fk fx h=>sm (decide (x.2<8)=true->(65536:Int)≠0))
theorem amm:bu f84 Fw [0] UH:=have E:=ai @EB.eq_1<|ai @su.eq_1<|ai @ou.eq_1<|ai @yZ.eq_1 SN;lA (ki []) [(7,KN)] (lc amF l0) (λk x fk fx h=>sm (letI a:=k.size;decide (x.2<a)=true->(0<=x.2/\x.2<a)/\yZ () (i64.wrap ((BitVec.ofInt i64.bits x.1^^^BitVec.ofInt i64.bits (i64.wrap (i64.wrap (aL k x.2)*256))).toNat),0)))
theorem atN:an 84 Fw:=have E:=ai @yZ.eq_1<|ai @EB.eq_1<|ai @Lg.eq_1 SN;ao (ki []) func84 [(7,KN),(3,UH)] (lc amm l0) (sp λx fx h=>sl (EB x (65535,0)))
def Uw:LS ny.den:=aD (Ty.pair bK (Ty.pair ab ab)) (Ty.pair ny ab) [(0,none),(1,none),(2,none)] [] [(7,none),(8,none)] [] [] [] [] 0 false DR zh D6
theorem ak1:bu f34 MH [0] Uw:=have E:=ai @DR.eq_1<|ai @D6.eq_1<|ai @zh.eq_1 SN;lA (ki []) [] l0 (λk x fk fx h=>sm (letI a:=i64.wrap (k.2.1+x.2);decide (x.2<k.2.2)=true->(0<=a/\a<k.1.size)/\0<=u64.wrap (i64.wrap (8*x.2))))
theorem aty:an 34 MH:=have E:=ai @DR.eq_1<|ai @oH.eq_1 SN;ao (ki []) func34 [(3,Uw)] (lc ak1 l0) (sp λx fx h=>sl (DR x (0,0)))
theorem asz:an 35 aar:=have E:=ai @oF.eq_1 SN;ao (ki []) func35 [] l0 (sp λx fx h=>sl ((0<=x.2.1/\x.2.1<x.1.size)/\0<=u64.wrap x.2.2))
theorem atL:an 69 aaf:=ao (ki []) func69 [] l0 (λ_ _ _=>tr)
theorem ast:an 82 acn:=ao (ki []) func82 [] l0 (λ_ _ _=>tr)
theorem asU:an 83 aaV:=have E:=SN;ao (ki []) func83 [] l0 (λx fx _=>sl (0<=u64.wrap x.1.1))
def Ue:LS bK.den:=aD (Ty.pair ny ab) (Ty.pair qx ab) [(0,none),(1,none)] [] [(5,none),(6,none)] [] [(0,100300,true,5)] [] [] 0 false Ew pY zo
theorem al5:bu f38 Nl [0] Ue:=have E:=ai @Ew.eq_1<|ai @zo.eq_1<|ai @pY.eq_1 SN;lA (ki []) [] l0 (λk x fk fx h=>sm (decide (x.2<k.2)=true->0<=u64.wrap (i64.wrap (8*x.2))/\0<=x.2/\x.2<x.1.length))
theorem atk:an 38 Nl:=have E:=ai @Ew.eq_1<|ai @gu.eq_1 SN;ao (ki []) func38 [(3,Ue)] (lc al5 l0) (sp λx fx h=>sl ((0<=x.2/\x.2=x.2/\x.2*1<=140737488355328/\x.2<=4611686018427387903)/\Ew x (aE bB x.2,0)))
def US:LS dQ.den:=aD (Ty.pair jI az) (Ty.pair FM ab) [(5,none)] [(2,8)] [(6,none),(7,none)] [] [(0,100900,true,76)] [] [(2,2)] 0 false D4 zb DP
theorem amj:bu f78 MN [0] US:=have E:=ai @D4.eq_1<|ai @DP.eq_1<|ai @zb.eq_1<|ai @uM.eq_1<|ai @C1.eq_1<|ai @CP.eq_1 SN;lA (ki []) [] l0 (λk x fk fx h=>sm (letI a:=(x.1.length:Int);decide (x.2<a)=true->(0<=x.2/\x.2<a)/\u64.wrap k.2.1≠0/\(3:Int)≠0))
theorem at3:an 78 MN:=have E:=ai @D4.eq_1<|ai @sJ.eq_1 SN;ao (ki []) func78 [(9,US)] (lc amj l0) (sp λx fx h=>sl (letI b:=(x.1.2.2.2.2.2.2.2.length:Int);letI c:=i64.wrap (Int.tmod (u64.wrap x.2.2.1.1) (9:Int))==(0:Int);letI d:=u64.wrap x.1.1;letI a:=(0<=b/\b=b/\b*(56:Int)<=140737488355328/\b<=4611686018427387903)/\D4 (u32.wrap (u32.wrap ((1:Int)*2^min d.toNat u32.bits) - (1:Int)),x.1) (aP (aE ly b) x.2.2.2,(0:Int));(0<=d)/\((0<=(1:Int))/\(((9:Int)≠0)/\u64.wrap b≠0/\(c=true->a)/\(c=false->a)))))
def acg:=(31,abP)::(84,Fw)::(34,MH)::(35,aar)::(69,aaf)::(82,acn)::(83,aaV)::(38,Nl)::(78,MN)::aaE
theorem SI:cr acg:=gc arD func31 (gc atN func84 (gc aty func34 (gc asz func35 (gc atL func69 (gc ast func82 (gc asU func83 (gc atk func38 (gc at3 func78 (Sm)))))))))
def vle:List Int->Int
 | []=>0|b::l=>b+256*vle l
def bV(l:List Int):Prop:= ∀x∈l,0<=x/\x<=255
theorem bV.tl{b:Int}{l:List Int}(h:bV (b::l)):bV l:=λx a=>h x (by simp_all)
theorem Dm: ∀(l:List Int),bV l->0<=vle l/\vle l<256^l.length
 | [],_=>by simp[vle]
 |b::l,h=>by
  obtain⟨h1,h2⟩:=Dm l h.tl;have hb:=h b (by simp);grind [vle]
theorem LI(n:Int):u8.wrap n=n % 256:=av6 n
theorem mc: ∀(k:Nat) (n:Int),bV (le n k)
 |0,_=>λx a=>by cases a
 |k+1,n=>λx a=>by
  simp only[le,av3]at a;rcases a with rfl|a
  ·grind [LI]
  ·exact mc k _ x a
theorem Jk(n:Int):n.fdiv 256=n/256:=awy _ (by omega)
theorem VZ: ∀(l:List Int),bV l->le (vle l) l.length=l
 | [],_=>rfl
 |b::l,h=>by
  have hb:=h b (by simp);simp only[vle,avl,le];rw[LI,Jk,show(b+256*vle l) % 256=b by omega,show(b+256*vle l)/256=vle l by omega,VZ l h.tl]
theorem KK: ∀(k:Nat) (n:Int),0<=n->n<256^k->vle (le n k)=n
 |0,n,h0,h=>by grind [le,vle]
 |k+1,n,h0,h=>by
  simp only[le,vle];rw[LI,Jk,KK k (n/256) (by omega) (by omega)];omega
theorem afE(n:Nat)(h:n<2^64):(BitVec.ofInt 64 n).toNat=n:=by
 simp_all
theorem Sb{a b:Int}{i:Nat}(hi:i<=7)(f:0<=a/\a<256^i)(hb:0<=b/\b<=255):
  u64.wrap ((BitVec.ofInt u64.bits a|||BitVec.ofInt u64.bits (u64.wrap (u64.wrap b*2^(min ((u64.wrap (i64.wrap ((8:Int)*(i:Int)))).toNat) u64.bits)))).toNat:Int)=a+b*256^i:=by
 obtain⟨m,rfl⟩:=aw1 f.1;obtain⟨c,rfl⟩:=aw1 hb.1;have g:u64.wrap (i64.wrap ((8:Int)*(i:Int)))=8*(i:Int):=by
  grind [aB,IntKind.wrap_u64]
 have h:min ((8*(i:Int)).toNat) u64.bits=8*i:=by
  show min ((8*(i:Int)).toNat) 64=8*i;omega
 rw[g,h];have j:c<=255:=by omega
 have hm:m<2^(8*i):=by
  grind [Int.natCast_pow,Nat.pow_mul]
 have k:(256:Int)^i=((2^(8*i):Nat):Int):=by
  simp_all [Int.natCast_pow,Nat.pow_mul]
 have l:(2:Int)^(8*i)=((2^(8*i):Nat):Int):=by simp_all
 have s:2^(8*i)<=2^56:=ax8 (by omega) (by omega);have t:=by
  have:c*2^(8*i)<=255*2^(8*i):=au6 _ j;omega
 have o:u64.wrap (u64.wrap (c:Int)*2^(8*i))=((c*2^(8*i):Nat):Int):=by
  rw[avy (c:Int),show(c:Int) % 18446744073709551616=(c:Int)by omega,l,<- Int.natCast_mul,avy];omega
 rw[o,k,<- Int.natCast_mul,<- Int.natCast_add];show u64.wrap (((BitVec.ofInt 64 (m:Int)|||BitVec.ofInt 64 ((c*2^(8*i):Nat):Int)).toNat:Nat):Int)=_;grind [BitVec.toNat_or,afE,Nat.mul_comm,Nat.two_pow_add_eq_or_of_lt,IntKind.wrap_u64]
theorem agT{a b:Int}{i:Nat}(hi:i<=7)(f:0<=a/\a<256^i)(hb:0<=b/\b<=255):
  u64.wrap ((BitVec.ofInt u64.bits a|||BitVec.ofInt u64.bits (u64.wrap (u64.wrap b*2^(min ((i64.wrap (8*i)).toNat) u64.bits)))).toNat:Int)=a+b*256^i:=by
 have:=Sb hi f hb;grind [aB,IntKind.wrap_u64]
theorem Tl{K ρ:Type}{st:K->af->ak K (af) ρ}{k:K}(bs:List Int)(hb:bV bs)(hl:bs.length<=8)(a: ∀(i:Nat) (n:Int),i<bs.length->0<=n/\n<256^i->st k (n,i)= .next k (n+bs.getD i 0*256^i,i+1))
  (g: ∀n,st k (n,bs.length)= .brk k (n,bs.length)): ∀(f i:Nat) (n:Int),i<=bs.length->bs.length-i<f->(0<=n/\n<256^i)->(endOf st k f (n,i)).1=n+256^i*vle (bs.drop i)
 |0,i,n,_,h,_=>by omega
 |f+1,i,n,hi,o,hr=>by
  unfold endOf;rcases axd i bs.length with h|h
  ·have j:0<=bs.getD i 0/\bs.getD i 0<=255:=by
    rw[ave,avh h];exact hb _ (ayj h)
   rw[a i n h hr];have e:i+1=((i+1:Nat):Int):=by omega
   simp only[e];have l:(256:Int)^(i+1)=256*256^i:=by rw[Int.pow_succ,aA0]
   have s:0<=bs.getD i 0*256^i:=aA4 j.1 (aBs (by omega));have t:bs.getD i 0*256^i<=255*256^i:=aAb j.2 (aBs (by omega));rw[Tl bs hb hl a g f (i+1) _ h (by omega) (by omega),av8 h];simp only[vle];have m:bs.getD i 0=bs[i]:=by rw[ave,avh h];rfl
   rw[m,l,Int.mul_add,aA0 bs[i],Int.add_assoc];rw[<- Int.mul_assoc,aA0 256]
  ·have:i=bs.length:=by omega
   subst this;rw[g n];simp[vle]
theorem QX{K ρ:Type}{st:K->af->ak K (af) ρ}{k:K}(bs:List Int)(hb:bV bs)(hl:bs.length<=8)(a: ∀(i:Nat) (n:Int),i<bs.length->0<=n/\n<256^i->st k (n,i)= .next k (n+bs.getD i 0*256^i,i+1))
  (g: ∀n,st k (n,bs.length)= .brk k (n,bs.length)) (f:Nat) (h:bs.length<f):(endOf st k f (0,0)).1=vle bs:=by
 have:=Tl bs hb hl a g f 0 0 (awb _) (by omega) (by simp);simp_all
theorem IW(k:Nat)(r:gj)(g:k<=8)(hs:k<=r.1.size):(fi (k,r)).1=vle ((av r.1).take k):=by
 have hl:((av r.1).take k).length=k:=by simp_all
 refine QX ((av r.1).take k) (λx a=>uO _ x (awn a)) (by omega) (λi n hi f=> ?_) (λn=> ?_) _ (by simp_all [C6])
 ·rw[hl]at hi
  unfold yE;have h1:decide (i<(k:Int))=true:=by simp;omega
  simp only[h1,au3];have e:aL r.1 i=((av r.1).take k).getD i 0:=by
   rw[Ch];simp[hi]
  rw[aB (x:=i+1) (by omega) (by omega),agT (by omega) f (lX _ _),e]
 ·rw[hl]
  unfold yE;simp
theorem PB(s:ByteArray)(a k:Nat)(h:k<=8)(hs:a+k<=s.size)(j:s.size<=99000):mF (s,a,k)=vle (((av s).drop a).take k):=by
 have hl:(((av s).drop a).take k).length=k:=by simp;omega
 refine QX (((av s).drop a).take k) (λx f=>uO _ x (aws (awn f))) (by omega) (λi n hi g=> ?_) (λn=> ?_) _ (by simp_all [D6])
 ·rw[hl]at hi
  unfold zh;have h1:decide (i<(k:Int))=true:=by simp;omega
  simp only[h1,au3];have e:aL s (a+i)=(((av s).drop a).take k).getD i 0:=by
   rw[Ch,show(a+(i:Int)).toNat=a+i by omega];simp[hi]
  rw[aB (x:=i+1) (by omega) (by omega),aB (by omega) (by omega),Sb (by omega) g (lX _ _),e]
 ·rw[hl]
  unfold zh;simp
def tc(n:Int)(i:Nat):Int:=u8.wrap (n/256^i)
theorem UB: ∀(k:Nat) (n:Int),le n k=(List.range k).map (tc n)
 |0,_=>rfl
 |k+1,n=>by
  rw[List.range_succ_eq_map,axm,List.map_map];simp only[le];rw[UB k];have h0:tc n 0=u8.wrap n:=by simp_all [tc]
  simp_all [tc,Jk,Int.pow_succ,aA0,Int.ediv_ediv_of_nonneg]
theorem R3(n:Int)(k:Nat)(g:k<=8): ∀(f i:Nat) (l:List Int),l.length=k->i<=k->k-i<f->(endOf pY (n,k) f (l,i)).1=l.take i++((List.range k).drop i).map (tc n)
 |0,i,l,_,_,h=>by omega
 |f+1,i,l,hl,hi,t=>by
  unfold endOf;rcases axd i k with h|h
  ·have a:pY (n,k) (l,i)= .next (n,k) (l.set i (tc n i),((i+1:Nat):Int)):=by
    unfold pY;have h1:decide (i<(k:Int))=true:=by simp;omega
    simp only[h1];have j:u64.wrap (i64.wrap (8*i))=8*i:=by
     rw[aB (by omega) (by omega),avy];omega
    have m:min ((8*(i:Int)).toNat) u64.bits=8*i:=by
     show min ((8*(i:Int)).toNat) 64=8*i;omega
    have o:(2:Int)^(8*i)=256^i:=by rw[Int.pow_mul];rfl
    rw[j,m,aB (by omega) (by omega),o,awy _ (aBs (by omega))];simp[aH,tc]
   rw[a];rw[R3 n k g f (i+1) _ (by simpa using hl) h (by omega)];have s:(List.range k).drop i=i::(List.range k).drop (i+1):=by
    rw[av8 (by simpa using h)];simp
   rw[s,axm,ays,List.getElem?_set_self (by omega),List.take_set,List.set_eq_of_length_le (by simp;omega)];simp
  ·have:i=k:=by omega
   subst this;have a:pY (n,i) (l,i)= .brk (n,i) (l,i):=by
    unfold pY;simp
   rw[a];rw[avv (by omega),ay4 (by simp)];simp
theorem Ek(n:Int)(k:Nat)(a:k<=8):dy (n,k)=bP (le n k):=by
 unfold dy V7;have:=R3 n k a (Nat.succ (zo (n,k) ((aE bB k),0))) 0 (aE bB k) (by simp[aE]) (awb _) (by simp_all [zo]);simp_all [UB]
theorem oJ(n:Int):dy (n,1)=bP (le n 1):=Ek n 1 (by omega)
theorem wA(n:Int):dy (n,2)=bP (le n 2):=Ek n 2 (by omega)
theorem oV(n:Int):dy (n,4)=bP (le n 4):=Ek n 4 (by omega)
theorem sW(n:Int):dy (n,8)=bP (le n 8):=Ek n 8 (by omega)
theorem I8(l m:List Int):dA (bP l) (bP m)=bP (l++m):=by
 grind [JX,GQ,HX]
def SO:=And.intro @oJ<|And.intro @wA<|And.intro @oV @sW
def AR(x:ByteArray):=dA x (bP [u8.wrap (u16.wrap (Int.tdiv (wI x) (256:Int))),u8.wrap (Int.tmod (wI x) (256:Int))])
def Fb(x:ByteArray):Prop:=x.size<=99990
def wD(x:dW):=(u32.wrap (mF (x.1,x.2,4)),u32.wrap (mF (x.1,i64.wrap (x.2+4),4)))
def EF(x:dW):Prop:=0<=x.2/\x.2+8<=x.1.size/\x.1.size<=99000
def DN(k:(ae))(x:(ax)):Prop:=(0:Int)<=x.1
def zu(k:ae)(x:ax):=(32-x.1).toNat
def vx(k:ae)(x:ax):ak ae (ax) (af):=letI a:=u32.wrap (1*2^min (u64.wrap x.1).toNat u32.bits);letI b:=i64.wrap (x.1+1);letI c:=u32.wrap ((BitVec.ofInt u32.bits x.2.1|||BitVec.ofInt u32.bits a).toNat);letI d:=u32.wrap ((BitVec.ofInt u32.bits x.2.2|||BitVec.ofInt u32.bits a).toNat);letI e:=tu (k,x.1,2);bif x.1<32 then bif tu (k,x.1,1)then bif e then .next k (b,c,d)else .next k (b,c,x.2.2)else bif e then .next k (b,x.2.1,d)else .next k (b,x.2)else .brk k x
def aqV k x:=endOf vx k (Nat.succ (zu k x)) x
def AQ(x:ae):=(aqV x (0,0,0)).2
def wJ(x:af):=dA (dy (u64.wrap x.1,4)) (dy (u64.wrap x.2,4))
def Ea(k:(List Bool))(x:(af)):Prop:=(0:Int)<=x.2
def J3(k:List Bool)(x:af):=(k.length-x.2).toNat
def KL(k:List Bool)(x:af):ak (List Bool) (af) ByteArray:=letI a:=i64.wrap (x.2+1);bif x.2<k.length then bif aa k x.2 then .next k (u64.wrap ((BitVec.ofInt u64.bits x.1|||BitVec.ofInt u64.bits (u64.wrap (1*2^min (u64.wrap x.2).toNat u64.bits))).toNat),a)else .next k (x.1,a)else .brk k x
def LH k x:=endOf KL k (Nat.succ (J3 k x)) x
def qR(x:List Bool):=dy ((LH x (0,0)).1,1)
def qm(x:List Bool):Prop:=x.length<=8
def th(z:List (Nat×List Nat)):=dB (mU true) jO cY SI z
def ac3:Ct:=⟨bK,[none],bK,ah.one none,some Fb,none,AR⟩
def aci:Ct:=⟨Ty.pair bK ab,[none,none],aU,ah.one (some 2),some EF,none,wD⟩
def MZ:Ct:=⟨az,[some 8],aU,ah.one (some 2),none,none,AQ⟩
def ab3:Ct:=⟨aU,[some 2],bK,ah.one none,none,none,wJ⟩
def Mn:Ct:=⟨fY,[none],bK,ah.one none,some qm,none,qR⟩
theorem att:an 42 ac3:=ao (th []) func42 [] l0 (sp λx fx h=>sf (letI a:=(256:Int)≠0;Lg x/\a/\a/\((ByteArray.size x):Int)+((ByteArray.size (bP [u8.wrap (u16.wrap (Int.tdiv (wI x) 256)),u8.wrap (Int.tmod (wI x) 256)])))<=9223372036854775807/\True) (by
 try dsimp only[Ty.den]at*
 have h:x.size<=99990:=h;refine⟨show x.size<=100000 by omega,by omega,by omega,?_,trivial⟩;rw[jm];simp only[avl,avo];omega))
theorem aui:an 33 aci:=have E:=ai @EF.eq_1<|ai @oH.eq_1<|ai @fT<|ai SN SO;ao (th []) func33 [] l0 (sp λx fx h=>sl (oH (x.1,x.2,4)/\oH (x.1,i64.wrap (x.2+4),4)))
def Uj:LS aU.den:=aD az (Ty.pair ab aU) [] [(1,8)] [(4,none)] [(3,2)] [] [] [(1,1),(3,3)] 0 false DN vx zu
theorem amT:bu f24 MZ [0] Uj:=have E:=ai @DN.eq_1<|ai @zu.eq_1<|ai @vx.eq_1<|ai @fT<|ai SN SO;lA (th []) [] l0 (λk x fk fx h=>sm (letI b:=0<=u64.wrap x.1;letI a:=tu (k,x.1,2)=true->b;letI c:=tu (k,x.1,1);decide (x.1<32)=true->(c=true->b/\a)/\(c=false->a)))
theorem asr:an 24 MZ:=have E:=ai @DN.eq_1<|ai @fT<|ai SN SO;ao (th []) func24 [(3,Uj)] (lc amT l0) (λx fx _=>sl (DN x (0,0,0)))
theorem atz:an 39 ab3:=have E:=ai @gu.eq_1<|ai @fT<|ai SN SO;ao (th []) func39 [] l0 (λx fx _=>sl (letI a:=(u64.wrap x.1,4);letI b:=(u64.wrap x.2,4);gu a/\gu b/\((ByteArray.size (dy a)):Int)+((ByteArray.size (dy b)))<=9223372036854775807))
def UK:LS bK.den:=aD fY (Ty.pair ny ab) [(0,none)] [] [(3,none),(4,none)] [] [] [] [] 0 false Ea KL J3
theorem alE:bu f40 Mn [0] UK:=have E:=ai @Ea.eq_1<|ai @J3.eq_1<|ai @KL.eq_1<|ai @fT<|ai SN SO;lA (th []) [] l0 (λk x fk fx h=>sm (letI a:=k.length;decide (x.2<a)=true->(0<=x.2/\x.2<a)/\(aa k x.2=true->0<=u64.wrap x.2)))
theorem auf:an 40 Mn:=have E:=ai @Ea.eq_1<|ai @qm.eq_1<|ai @gu.eq_1<|ai @fT<|ai SN SO;ao (th []) func40 [(3,UK)] (lc alE l0) (sp λx fx h=>sl (Ea x (0,0)/\gu ((LH x (0,0)).1,1)))
def adt:=(42,ac3)::(33,aci)::(24,MZ)::(39,ab3)::(40,Mn)::acg
theorem SD:cr adt:=gc att func42 (gc aui func33 (gc asr func24 (gc atz func39 (gc auf func40 (SI)))))
def wP(x:ByteArray):dW:=letI b:=(x.size:Int);letI a:=ByteArray.extract x (Int.toNat 0) (Int.toNat (i64.wrap (b-2)));bif b<2 then(ByteArray.mk #[],4)else bif iL (AR a) x then(a,0)else(ByteArray.mk #[],5)
def Lx(x:ByteArray):Prop:=x.size<=99990
def qP(x:ae×af):=u32.wrap ((BitVec.ofInt u32.bits x.2.1&&& ~~~BitVec.ofInt u32.bits (AQ x.1).1).toNat)==0&&u32.wrap ((BitVec.ofInt u32.bits x.2.2&&& ~~~BitVec.ofInt u32.bits (AQ x.1).2).toNat)==0
def aaZ(z:List (Nat×List Nat)):=dB (mU true) jO cY SD z
def abj:Ct:=⟨bK,[none],Ty.pair bK bI,ah.tup [none,none],some Lx,none,wP⟩
def aa7:Ct:=⟨Ty.pair az aU,[some 8,some 2],aw,ah.one none,none,none,qP⟩
theorem as7:an 80 abj:=have E:=ai @Lx.eq_1<|ai @Fb.eq_1<|ai @fT<|ai SN SO;ao (aaZ []) func80 [] l0 (sp λx fx h=>sl (letI b:=(x.size:Int);letI a:=i64.wrap (b-2);decide (b<2)=false->(0<=(0:Int)/\0<=a/\a<=b)/\Fb (ByteArray.extract x (Int.toNat 0) (Int.toNat a))))
theorem atj:an 81 aa7:=ao (aaZ []) func81 [] l0 (λ_ _ _=>tr)
def abg:=(80,abj)::(81,aa7)::adt
theorem RB:cr abg:=gc as7 func80 (gc atj func81 (SD))
def qW(x:ae×lj):=bif iT x.1 !=0 then 1 else bif x.2.1.size !=x.2.2.1 then 4 else bif i64.wrap (aL x.2.1 0) !=x.2.2.2||i64.wrap (aL x.2.1 1) !=x.1.2.2.2.2.2.2.2.length then 30 else(wP x.2.1).2
def XR(x:ae×lj):Prop:=iT x.1=0->14<=x.2.2.1/\x.2.2.1<=99000
def Ep(k:((ae)×bm))(x:(Int)):Prop:=(0:Int)<=x
def Dz(k:ae×bm)(x:Int):=(k.2.2.2.length-x).toNat
def zA(k:ae×bm)(x:Int):=letI a:=aa k.2.2.2 x;bif x<k.2.2.2.length then bif !AZ (k.1,a.1.1)|| !AZ (k.1,a.2.2.1)|| !qK (a.2.1.1,0,i64.wrap (k.1.1-1))|| !qK (a.2.1.2.2.1,0,2)then ak.ret false else ak.next k (i64.wrap (x+1))else ak.brk k x
def LB k x:=bd zA k (Nat.succ (Dz k x)) x
def rf(x:ae×bm):=letI a:=(x.1.2.2.2.2.2.2.2.length:Int);letI b:=x.2.2.1;bif iT x.1 !=0|| !qP (x.1,x.2.1)|| !qK (b.1,0,8)|| !qK (b.2,0,i64.wrap (a-1))||b.1==0&&b.2 !=0||x.2.2.2.length !=a then false else dq (LB x 0) (λy=>y) true
def Mt(z:List (Nat×List Nat)):=dB (mU true) jO cY RB z
def abH:Ct:=⟨Ty.pair az (Ty.pair bK (Ty.pair ab ab)),[some 8,none,none,none],bI,ah.one none,some XR,none,qW⟩
def Nx:Ct:=⟨Ty.pair az dQ,[some 8,some 5],aw,ah.one none,none,none,rf⟩
theorem as4:an 32 abH:=ao (Mt []) func32 [] l0 (sp λx fx h=>sf (letI b:=(x.2.1.size:Int);letI c:=i64.wrap (aL x.2.1 (0:Int)) !=x.2.2.2;letI a:=(c||(i64.wrap (aL x.2.1 1) !=x.1.2.2.2.2.2.2.2.length));letI d:=iT x.1 !=0;(d=true->True)/\(d=false->((b !=x.2.2.1)=true->True)/\((b !=x.2.2.1)=false->(0<=(0:Int)/\0<b)/\(c=false->0<=(1:Int)/\1<b)/\(a=true->True)/\(a=false->Lx x.2.1/\True)))) (by
 try dsimp only[Ty.den]at*
 refine⟨λ_=>trivial,λh1=>⟨λ_=>trivial,λh2=> ?_⟩⟩;rw[avc]at h1 h2;obtain⟨h3,h3'⟩:=h h1;refine⟨⟨au8 _,by omega⟩,λ_=>⟨by omega,by omega⟩,λ_=>trivial,λh4=>⟨?_,trivial⟩⟩;show x.2.1.size<=99990;omega))
def Uq:LS aw.den:=aD (Ty.pair az dQ) ab [] [(2,8),(3,5)] [(5,none)] [] [] [] [(2,2),(3,3)] 0 true Ep zA Dz
theorem amK:bu f37 Nx [0] Uq:=have E:=ai @Ep.eq_1<|ai @Dz.eq_1<|ai @zA.eq_1<|ai @fT<|ai SN SO;lA (Mt []) [] l0 (λk x fk fx h=>sm (letI a:=k.2.2.2.length;decide (x<a)=true->0<=x/\x<a))
theorem asY:an 37 Nx:=have E:=ai @Ep.eq_1<|ai @fT<|ai SN SO;ao (Mt []) func37 [(4,Uq)] (lc amK l0) (λx fx _=>sl (letI a:=(x.1.2.2.2.2.2.2.2.length:Int);letI b:=x.2.2.1;(((((iT x.1 !=0|| !qP (x.1,x.2.1))|| !qK (b.1,0,8))|| !qK (b.2,0,i64.wrap (a-1)))||b.1==0&&b.2 !=0)||x.2.2.2.length !=a)=false->Ep x 0))
def aaI:=(32,abH)::(37,Nx)::abg
theorem Ss:cr aaI:=gc as4 func32 (gc asY func37 (RB))
def gF(l:List Bool):Int:=(LH l (0,0)).1
def gN(c:dY):List Int:=le (u64.wrap c.1.1) 4++le (gF [c.1.2.1,c.1.2.2.1,c.1.2.2.2.1,c.1.2.2.2.2,c.2.1.2.1,c.2.1.2.2.2]) 1++le (u64.wrap c.2.1.1) 1++le (u64.wrap c.2.1.2.2.1) 1++le (u64.wrap c.2.2.1) 4++le c.2.2.2 8
def gJ(n:Int)(x:bm):List Int:= [165,n]++ce x.1++le (u64.wrap x.2.1.1) 1++le (u64.wrap x.2.1.2) 1++x.2.2.flatMap gN
theorem QR(c:dY):(gN c).length=19:=by simp_all [gN,fT]
theorem xF(n:Int)(x:bm):(gJ n x).length=12+19*x.2.2.length:=by grind [gJ,gN,fT,nm,PO]
theorem Ia(l:List Bool)(hl:l.length<=1000):qR l=bP (le (gF l) 1):=by
 unfold qR;rw[oJ];rfl
theorem zl(a b:Bool):qR [a,b]=bP (le (gF [a,b]) 1):=Ia _ (by simp)
theorem yN(a b c:Bool):qR [a,b,c]=bP (le (gF [a,b,c]) 1):=Ia _ (by simp)
theorem vC(a b c d e f:Bool):qR [a,b,c,d,e,f]=bP (le (gF [a,b,c,d,e,f]) 1):=Ia _ (by simp)
theorem tQ(c:af):wJ c=bP (ce c):=by
 unfold wJ;rw[oV,oV,I8];rfl
def nk(k:bm)(x:dW):Prop:=letI a:=(k.2.2.length:Int);0<=x.2/\x.2<=a/\a<=30/\x.1.size=12+19*x.2
def vp(k:bm)(x:dW):=(k.2.2.length-x.2).toNat
def qf(k:bm)(x:dW):ak bm (dW) (dW):=letI a:=aa k.2.2 x.2;bif x.2<k.2.2.length then .next k (dA (dA (dA (dA (dA (dA x.1 (dy (u64.wrap a.1.1,4))) (qR [a.1.2.1,a.1.2.2.1,a.1.2.2.2.1,a.1.2.2.2.2,a.2.1.2.1,a.2.1.2.2.2])) (dy (u64.wrap a.2.1.1,1))) (dy (u64.wrap a.2.1.2.2.1,1))) (dy (u64.wrap a.2.2.1,4))) (dy (a.2.2.2,8)),i64.wrap (x.2+1))else .brk k x
def vL k x:=endOf qf k (Nat.succ (vp k x)) x
def zZ(x:ae×bm):=vL x.2 (dA (dA (dA (dA (dy (165,1)) (dy (u64.wrap x.1.2.2.2.2.2.2.2.length,1))) (wJ x.2.1)) (dy (u64.wrap x.2.2.1.1,1))) (dy (u64.wrap x.2.2.1.2,1)),0)
def eP(x:ae×bm):dW:=bif !rf x then(ByteArray.mk #[],1)else(AR (zZ x).1,0)
def zX(x:ae×bm):Prop:=x.2.2.2.length<=30
def abU(z:List (Nat×List Nat)):=dB (mU true) jO cY Ss z
def Nr:Ct:=⟨Ty.pair az dQ,[some 8,some 5],Ty.pair bK bI,ah.tup [none,none],some zX,none,eP⟩
def V0:LS (Ty.pair bK bI).den:=aD dQ (Ty.pair bK ab) [] [(3,5)] [(6,none),(7,none)] [] [] [] [(3,3)] 0 false nk qf vp
theorem Uh(k:dQ.den)(x:(Ty.pair bK ab).den)(fk:Fit dQ k)(h:nk k x):aJ false nk vp k x (qf k x):=by
 try dsimp only[Ty.den]at*
 unfold nk at h;unfold qf;refine aJ.cnd (λhc=> ?_) (λ_=>rfl);rw[adv]at hc;have e:i64.wrap (x.2+1)=x.2+1:=aB (by omega) (by omega);rw[e];refine⟨rfl,?_,?_⟩
 ·simp only[nk,oJ,wA,oV,sW,tQ,zl,yN,vC,jm,mO,fT,nm,avl,avo,gu,qm]
  omega
 ·simp only[vp]
  omega
theorem alp:bu f11 Nr [0] V0:=lA (abU []) [] l0 (λk x fk fx h=>sf (letI a:=aa k.2.2 x.2;letI c:=(u64.wrap a.2.1.1,1);letI e:=(u64.wrap a.1.1,4);letI f:=(u64.wrap a.2.2.1,4);letI h:=(k.2.2.length:Int);letI i:=(((a.2.2.2:Nat):Int),8);letI l:=a.1.2.2;letI m:=a.2.1.2;letI d:=(u64.wrap m.2.1,1);letI g:=qR [a.1.2.1,l.1,l.2.1,l.2.2,m.1,m.2.2];letI n:=dA x.1 (dy e);letI b:=dA n g;letI j:=dA b (dy c);letI o:=decide (x.2<h);letI p:=dA j (dy d);(o=true->((0<=x.2/\x.2<h)/\(gu e/\((((ByteArray.size x.1:Nat):Int)+((ByteArray.size (dy e):Nat):Int)<=9223372036854775807)/\(qm [a.1.2.1,l.1,l.2.1,l.2.2,m.1,m.2.2]/\((((ByteArray.size n:Nat):Int)+((ByteArray.size g:Nat):Int)<=9223372036854775807)/\(gu c/\((((ByteArray.size b:Nat):Int)+((ByteArray.size (dy c):Nat):Int)<=9223372036854775807)/\(gu d/\((((ByteArray.size j:Nat):Int)+((ByteArray.size (dy d):Nat):Int)<=9223372036854775807)/\(gu f/\((((ByteArray.size p:Nat):Int)+((ByteArray.size (dy f):Nat):Int)<=9223372036854775807)/\(gu i/\((((ByteArray.size (dA p (dy f)):Nat):Int)+((ByteArray.size (dy i)))<=9223372036854775807)/\True))))))))))))))/\(o=false->True)) (by
 try dsimp only[Ty.den]at*
 unfold nk at h;simp only[oJ,wA,oV,sW,tQ,zl,yN,vC,jm,mO,fT,nm,avl,avo,gu,qm,adv,au0]at*
 (repeat' (first|apply And.intro|intro _))<;>first|omega|exact trivial)) Uh
theorem aub:an 11 Nr:=ao (abU []) func11 [(5,V0)] (lc alp l0) (sp λx fx h=>sf (letI b:=(u64.wrap (x.1.2.2.2.2.2.2.2.length:Int),1);letI c:=(u64.wrap x.2.2.1.1,1);letI d:=(u64.wrap x.2.2.1.2,1);letI e:=(165,1);letI a:=dA (dy e) (dy b);letI f:=dA a (wJ x.2.1);letI g:=dA f (dy c);((!(rf x))=true->True)/\((!(rf x))=false->(gu e/\(gu b/\((((ByteArray.size (dy e):Nat):Int)+((ByteArray.size (dy b):Nat):Int)<=9223372036854775807)/\((((ByteArray.size a:Nat):Int)+((ByteArray.size (wJ x.2.1):Nat):Int)<=9223372036854775807)/\(gu c/\((((ByteArray.size f:Nat):Int)+((ByteArray.size (dy c):Nat):Int)<=9223372036854775807)/\(gu d/\((ByteArray.size g):Int)+((ByteArray.size (dy d)))<=9223372036854775807/\nk x.2 (dA g (dy d),0)/\Fb (zZ x).1/\True))))))))) (by
 try dsimp only[Ty.den]at*
 unfold zX at h;refine⟨λ_=>trivial,λhc=> ?_⟩;have hin: ∀r:ByteArray,r.size=12->nk x.2 (r,(0:Int)):=λr hr=>by
  simp only[nk,hr];omega
 have hI:=λ(r:ByteArray) (hr:r.size=12)=>ir (step:=qf) (k:=x.2) (I:=nk x.2) (λy k' z hy hz=>by
   have h0:=Uh x.2 y fx.2 hy;rw[hz]at h0;exact h0.2.1) (λy k' z hy hz=>by
   unfold qf at hz;cases hd:decide (y.2<(x.2.2.2.length:Int))with
   |true=>rw[hd]at hz;cases hz
   |false=>rw[hd]at hz;cases hz;exact hy) (Nat.succ (vp x.2 (r,(0:Int)))) _ (hin r hr)
 have hlen: ∀(r:ByteArray) (hr:r.size=12),(vL x.2 (r,(0:Int))).1.size<=1000:=λr hr=>by
  obtain⟨_,h2,h4,h5⟩:=hI r hr;have h2:(vL x.2 (r,(0:Int))).2<=(x.2.2.2.length:Int):=h2;have h4:(x.2.2.2.length:Int)<=30:=h4;have h5:((vL x.2 (r,(0:Int))).1.size:Int)=12+19*(vL x.2 (r,(0:Int))).2:=h5;omega
 (repeat' (first|apply And.intro))<;>first|omega|(simp only[oJ,wA,oV,sW,tQ,zl,yN,vC,jm,mO,fT,nm,avl,avo,gu,qm];omega)|exact hin _ (by simp only[oJ,wA,oV,sW,tQ,zl,yN,vC,jm,mO,fT,nm,avl,avo,gu,qm])|exact trivial|(show(zZ x).1.size<=99990;exact auv (hlen _ (by simp only[oJ,wA,oV,sW,tQ,zl,yN,vC,jm,mO,fT,nm,avl,avo,gu,qm])) (by omega))))
def aaw:List (Nat×Ct):=(11,Nr)::aaI
theorem Su:cr aaw:=gc aub func11 (Ss)
theorem HO{b:ae}(a:aR b)(f:iT b=0):pf b=(14+19*(b.2.2.2.2.2.2.2.length:Int),23+19*(b.2.2.2.2.2.2.2.length:Int)):=by
 have h1:=a.cn;grind [pf,aB]
theorem afG{b:ae}(hl:b.aK.length<=maxLen):iT b=0->(14<=(pf b).1/\(pf b).1<=99000)/\(14<=(pf b).2/\(pf b).2<=99000):=λa=>by
 have f:=(HQ hl a).cn;grind [HO,HQ]
theorem aiA{b:ae}{s:ByteArray}{z a:Int}(hl:b.aK.length<=maxLen)(h:qW (b,s,z,a)=0):
  iT b=0/\aR b/\s.size=z/\aL s 0=a/\aL s 1=b.2.2.2.2.2.2.2.length/\(wP s).2=0:=by
 unfold qW at h;cases h1:(iT b !=0)with
 |true=>simp_all
 |false=>
  cases h2:(s.size !=z)with
  |true=>simp_all
  |false=>
   cases h3:((i64.wrap (aL s 0) !=a)||(i64.wrap (aL s 1) !=b.2.2.2.2.2.2.2.length))with
   |true=>simp_all
   |false=>
    have f:=lX s 0;have g:=lX s 1;grind [aB,HQ]
def oo(k:ByteArray×ae)(x:Int×bm):Prop:=letI a:=(k.2.2.2.2.2.2.2.2.length:Int);0<=x.1/\x.1<=a/\a<=8/\k.1.size=14+19*a/\x.2.2.2.length=x.1
def uY(k:ByteArray×ae)(x:Int×bm):=(k.2.2.2.2.2.2.2.2.length-x.1).toNat
def I3(k:ByteArray×ae)(x:Int×bm):=letI a:=i64.wrap (12+i64.wrap (19*x.1));letI b:=i64.wrap (a+4);x.2.2.2++ [((u32.wrap (mF (k.1,a,4)),kn (k.1,b,0),kn (k.1,b,1),kn (k.1,b,2),kn (k.1,b,3)),(i64.wrap (aL k.1 (i64.wrap (a+5))),kn (k.1,b,4),i64.wrap (aL k.1 (i64.wrap (a+6))),kn (k.1,b,5)),u32.wrap (mF (k.1,i64.wrap (a+7),4)),Int.toNat (mF (k.1,i64.wrap (a+11),8)))]
def np(k:ByteArray×ae)(x:Int×bm):ak (ByteArray×ae) (Int×bm) (bm×Int):=bif x.1<k.2.2.2.2.2.2.2.2.length then .next k (i64.wrap (x.1+1),x.2.1,x.2.2.1,I3 k x)else .brk k x
def jy k x:=endOf np k (Nat.succ (uY k x)) x
def cJ(x:ae×ByteArray):bm×Int:=letI a:=(i64.wrap (aL x.2 10),i64.wrap (aL x.2 11));letI b:=(0,0);letI c:=wD (x.2,2);letI d:=qW (x.1,x.2,(pf x.1).1,165);letI e:=(x.2,x.1);bif d !=0 then((b,b,[]),d)else bif(eP (x.1,(jy e (0,c,a,[])).2)).2 !=0|| !iL (eP (x.1,(jy e (0,c,a,[])).2)).1 x.2 then((b,b,[]),31)else((jy e (0,c,a,[])).2,0)
def abN(z:List (Nat×List Nat)):=dB (mU true) jO cY Su z
def Mg:Ct:=⟨Ty.pair az bK,[some 8,none],Ty.pair dQ bI,ah.tup [some 5,none],none,some 76,cJ⟩
def UI:LS (Ty.pair dQ bI).den:=aD (Ty.pair bK az) (Ty.pair ab dQ) [(1,none)] [(2,8)] [(10,none)] [(9,5)] [(5,100705,true,76)] [] [(2,2),(9,9)] 0 false oo np uY
theorem VP(k:(Ty.pair bK az).den)(x:(Ty.pair ab dQ).den)(fk:Fit (Ty.pair bK az) k)(h:oo k x):aJ false oo uY k x (np k x):=by
 try dsimp only[Ty.den]at*
 unfold oo at h;unfold np;refine aJ.cnd (λhc=> ?_) (λ_=>rfl);rw[adv]at hc;have e:i64.wrap (x.1+1)=x.1+1:=aB (by omega) (by omega);rw[e];refine⟨rfl,?_,?_⟩
 ·simp only[oo,I3,au5,avl,avo]
  omega
 ·simp only[uY]
  omega
theorem amW:bu f10 Mg [0] UI:=lA (abN []) [] l0 (λk x fk fx h=>sf (letI a:=i64.wrap (12+i64.wrap (19*x.1));letI c:=i64.wrap (a+4);letI d:=i64.wrap (a+5);letI e:=i64.wrap (a+6);letI f:=(k.1,i64.wrap (a+11),8);letI g:=(k.1,i64.wrap (a+7),4);letI h:=decide (x.1<(k.2.2.2.2.2.2.2.2.length:Int));letI i:=(x.2.2.2:List dY);letI j:=(k.1,a,4);letI l:=(k.1,c,0);letI m:=(k.1,c,1);letI n:=(k.1,c,2);letI o:=(k.1,c,3);letI p:=(k.1,c,4);letI q:=(k.1,c,5);letI b:=([((u32.wrap (mF j),kn l,kn m,kn n,kn o),(i64.wrap (aL k.1 d),kn p,i64.wrap (aL k.1 e),kn q),u32.wrap (mF g),Int.toNat (mF f))]:List dY);letI r:=(k.1.size:Int);(h=true->(oH j/\(oF l/\(oF m/\(oF n/\(oF o/\((0<=d/\d<r)/\(oF p/\((0<=e/\e<r)/\(oF q/\(oH g/\oH f/\((List.length i+List.length b)*56<=140737488355328/\List.length i+List.length b<=4611686018427387903)/\True)))))))))))/\(h=false->True)) (by
 try dsimp only[Ty.den]at*
 unfold oo at h;refine⟨λhc=> ?_,λ_=>trivial⟩;rw[adv]at hc;have e0:i64.wrap (19*x.1)=19*x.1:=aB (by omega) (by omega);have e1:i64.wrap (12+19*x.1)=12+19*x.1:=aB (by omega) (by omega);have f4:i64.wrap (12+19*x.1+4)=12+19*x.1+4:=aB (by omega) (by omega);have f5:i64.wrap (12+19*x.1+5)=12+19*x.1+5:=aB (by omega) (by omega);have f6:i64.wrap (12+19*x.1+6)=12+19*x.1+6:=aB (by omega) (by omega);have f7:i64.wrap (12+19*x.1+7)=12+19*x.1+7:=aB (by omega) (by omega);have f11:i64.wrap (12+19*x.1+11)=12+19*x.1+11:=aB (by omega) (by omega);simp only[e0,e1,f4,f5,f6,f7,f11,oH,oF,EF,avl,avo]
 (repeat' apply And.intro)<;>first|omega|exact trivial)) VP
theorem asX:an 10 Mg:=ao (abN []) func10 [(7,UI)] (lc amW l0) (λx fx _=>sf (letI a:=(i64.wrap (aL x.2 (10:Int)),i64.wrap (aL x.2 (11:Int)));letI c:=(x.1,x.2,(pf x.1).1,(165:Int));letI d:=(x.2,x.1);letI e:=qW c !=(0:Int);letI f:=(x.2.size:Int);letI g:=(x.2,(2:Int));letI b:=wD g;XR c/\((e=true->True)/\(e=false->(EF g/\((0<=(10:Int)/\(10:Int)<f)/\((0<=(11:Int)/\(11:Int)<f)/\(oo d ((0:Int),b,a,[])/\(zX (x.1,(jy d ((0:Int),b,a,[])).2)/\(((((eP (x.1,(jy d ((0:Int),b,a,[])).2)).2 !=(0:Int))||(!iL (eP (x.1,(jy d (0,b,a,[])).2)).1 x.2))=true->True)/\(((eP (x.1,(jy d (0,b,a,[])).2)).2 !=0|| !iL (eP (x.1,(jy d (0,b,a,[])).2)).1 x.2)=false->True)))))))))) (by
 try dsimp only[Ty.den]at*
 have hl:=fx.1.2.2.2.2.2.2.2.1;refine⟨λh=>(afG hl h).1,λ_=>trivial,λhc=> ?_⟩;rw[avc]at hc;obtain⟨hv,hB,hz,_,_,_⟩:=aiA hl hc;rw[HO hB hv]at hz;have hz:(x.2.size:Int)=14+19*(x.1.2.2.2.2.2.2.2.length:Int):=hz;have hcn:1<=x.1.2.2.2.2.2.2.2.length/\x.1.2.2.2.2.2.2.2.length<=8:=hB.cn;have hs:x.2.size<=99000:=by omega
 have hin: ∀y,y.2.2.length=0->oo (x.2,x.1) ((0:Int),y):=λy hy=>by
  refine⟨au8 _,?_,?_,hz,?_⟩
  ·show(0:Int)<=(x.1.2.2.2.2.2.2.2.length:Int)
   omega
  ·show(x.1.2.2.2.2.2.2.2.length:Int)<=8
   omega
  ·show(y.2.2.length:Int)=0
   omega
 have hlen: ∀y,y.2.2.length=0->(jy (x.2,x.1) ((0:Int),y)).2.2.2.length<=30:=λy hy=>by
  have hI:=ir (step:=np) (k:=(x.2,x.1)) (I:=oo (x.2,x.1)) (λy k' z hy hz=>by
   have h0:=VP (x.2,x.1) y ⟨fx.2,fx.1⟩ hy;rw[hz]at h0;exact h0.2.1) (λy k' z hy hz=>by
   unfold np at hz;cases hd:decide (y.1<(x.1.2.2.2.2.2.2.2.length:Int))with
   |true=>rw[hd]at hz;cases hz
   |false=>rw[hd]at hz;cases hz;exact hy) (Nat.succ (uY (x.2,x.1) ((0:Int),y))) _ (hin y hy)
  obtain⟨_,h2,_,_,h5⟩:=hI;have h2:(jy (x.2,x.1) ((0:Int),y)).1<=(x.1.2.2.2.2.2.2.2.length:Int):=h2;have h5:((jy (x.2,x.1) ((0:Int),y)).2.2.2.length:Int)=(jy (x.2,x.1) ((0:Int),y)).1:=h5;omega
 refine⟨⟨by simp,(by show(2:Int)+8<=(x.2.size:Int);omega),hs⟩,⟨by omega,by omega⟩,⟨by omega,by omega⟩,hin _ rfl,hlen _ rfl,λ_=>trivial,λ_=>trivial⟩))
def ab4:List (Nat×Ct):=(10,Mg)::aaw
theorem Td:cr ab4:=gc asX func10 (Su)
def ji(r:BitVec 16):BitVec 16:=(r<<<1)^^^(if r.msb then 0x1021#16 else 0#16)
theorem akJ(a b:BitVec 16):ji (a^^^b)=ji a^^^ji b:=by
 grind [ji]
theorem agE:ji 0#16=0#16:=by decide
theorem amp{r:BitVec 16}(h:ji r=0#16):r=0#16:=by
 unfold ji at h;cases hm:r.msb with
 |true=>
  have:=av7 (λx=>x.getLsbD 0) h;grind
 |false=>
  rw[hm]at h;simp only[awf,azg,BitVec.xor_zero]at h;apply BitVec.eq_of_getLsbD_eq;intro i hi;rcases axd i 15 with h1|h1
  ·have:=av7 (λx=>x.getLsbD (i+1)) h
   simp only[BitVec.getLsbD_shiftLeft]at this;have h2:i+1<16:=by omega
   simp[h2]at this;simpa using this
  ·have:i=15:=by omega
   subst this;rw[BitVec.msb_eq_getLsbD_last]at hm;simpa using hm
def it:Nat->BitVec 16->BitVec 16
 |0,r=>r|n+1,r=>it n (ji r)
theorem VF: ∀(n:Nat) (a b:BitVec 16),it n (a^^^b)=it n a^^^it n b
 |0,_,_=>rfl
 |n+1,a,b=>by simp only[it];rw[akJ,VF n]
theorem Tz: ∀n,it n 0#16=0#16
 |0=>rfl
 |n+1=>by simp only[it];rw[agE,Tz n]
theorem WS: ∀(n:Nat) {r:BitVec 16},it n r=0#16->r=0#16
 |0,_,h=>h
 |n+1,r,h=>amp (WS n h)
theorem KM: ∀(m n:Nat) (r:BitVec 16),it (m+n) r=it n (it m r)
 |0,n,r=>by rw[avw];rfl
 |m+1,n,r=>by rw[Nat.add_right_comm];exact KM m n (ji r)
def hi(b:BitVec 8):BitVec 16:=b.setWidth 16<<<8
def lo(b:BitVec 8):BitVec 16:=b.setWidth 16
theorem aoW: ∀b:BitVec 8,it 8 (lo b)=hi b:=by decide
def AW(r:BitVec 16)(b:BitVec 8):BitVec 16:=it 8 (r^^^hi b)
def crc:BitVec 16->List (BitVec 8)->BitVec 16
 |r,[]=>r|r,b::l=>crc (AW r b) l
theorem yB: ∀(l m:List (BitVec 8)) (r:BitVec 16),crc r (l++m)=crc (crc r l) m
 | [],m,r=>rfl
 |b::l,m,r=>yB l m (AW r b)
theorem QN(r:BitVec 16)(h l:BitVec 8):crc r [h,l]=0#16↔r=hi h^^^lo l:=by
 have e:crc r [h,l]=it 16 (r^^^(hi h^^^lo l)):=by
  simp only[crc];unfold AW;rw[<- aoW l,<- VF,<- KM,BitVec.xor_assoc]
 rw[e];constructor
 ·intro h1
  have h2:=WS _ h1;have h3:r^^^(hi h^^^lo l)^^^(hi h^^^lo l)=0#16^^^(hi h^^^lo l):=by rw[h2]
  rw[BitVec.xor_assoc,BitVec.xor_self,BitVec.xor_zero]at h3;rw[h3];simp
 ·intro h1
  rw[h1,BitVec.xor_self,Tz]
def qO(l:List Int):List (BitVec 8):=l.map (BitVec.ofInt 8)
theorem CO(l m:List Int):qO (l++m)=qO l++qO m:=ax2
theorem Kf(a:BitVec 16):u16.wrap a.toNat=a.toNat:=by rw[aAf];omega
theorem acM(n:Int):BitVec.ofInt 16 (u16.wrap n)=BitVec.ofInt 16 n:=by
 rw[aAf];apply aze;simp_all
theorem ah1(r:BitVec 16):BitVec.ofInt 16 r.toNat=r:=by
 simp_all
theorem arJ(r:BitVec 16):BitVec.ofInt 16 (r.toNat*2^1)=r<<<1:=by
 grind [BitVec.eq_of_toNat_eq,BitVec.toNat_ofInt,BitVec.toNat_shiftLeft,Nat.shiftLeft_eq]
theorem arL(r:BitVec 16):BitVec.ofInt 16 (Int.fdiv r.toNat (2^15)*4129)=if r.msb then 0x1021#16 else 0#16:=by
 rw[awy _ (by omega),aBq];by_cases h:2^(16-1)<=r.toNat
 ·simp only[h]
  have e:(r.toNat:Int)/2^15=1:=by omega
  rw[e];decide
 ·simp only[h]
  have e:(r.toNat:Int)/2^15=0:=by omega
  rw[e];decide
theorem amb(r:BitVec 16)(i:Int)(h:i<8)(h0:0<=i):rQ () (r.toNat,i)= .next () (((ji r).toNat:Int),i+1):=by
 unfold rQ;have h1:decide (i<8)=true:=by simp_all
 have a:min ((1:Int)).toNat u16.bits=1:=rfl;have f:min ((15:Int)).toNat u16.bits=15:=rfl;rw[aB (by omega) (by omega)];have:u16.wrap ((BitVec.ofInt u16.bits (u16.wrap (r.toNat*2^1))^^^BitVec.ofInt u16.bits (u16.wrap (Int.fdiv r.toNat (2^15)*4129))).toNat:Int)=((ji r).toNat:Int):=by
  show u16.wrap (((BitVec.ofInt 16 (u16.wrap (r.toNat*2^1))^^^BitVec.ofInt 16 (u16.wrap (Int.fdiv r.toNat (2^15)*4129))).toNat:Nat):Int)=_;grind [ji,acM,arJ,arL,Kf]
 simp_all
theorem Rx(i:Nat)(r:BitVec 16):it (i+1) r=ji (it i r):=KM i 1 r
theorem arO(r:BitVec 16):(V3 () (r.toNat,0)).1=((it 8 r).toNat:Int):=by
 have:=(kU (step:=rQ) (k:=()) (λi=>(((it i r).toNat:Int),i)) 8 (λi hi=>⟨(),by
  grind [amb,Rx]⟩) (k':=()) (y:=(((it 8 r).toNat:Int),8)) (by
  simp_all [rQ]) (fuel:=Nat.succ (yA () (r.toNat,0))) (by simp_all [yA])).1
 exact av7 Prod.fst this
theorem AT(b:Int)(h:0<=b/\b<=255):((BitVec.ofInt 8 b).toNat:Int)=b:=by grind [BitVec.toNat_ofInt]
theorem DH(b:BitVec 8):(hi b).toNat=b.toNat*256:=by
 unfold hi;rw[az3,aAc,aBi];omega
theorem ak6(s:ByteArray)(n:Int)(r:BitVec 16)(i:Nat)(h:(i:Int)<n)(hs:n<=1000000):rV (s,n) ((r.toNat:Int),(i:Int))= .next (s,n) (((AW r (BitVec.ofInt 8 (aL s i))).toNat:Int),((i+1:Nat):Int)):=by
 unfold rV;have h1:decide ((i:Int)<n)=true:=by simpa using h
 have a:min ((8:Int)).toNat u16.bits=8:=rfl;simp only[h1,au3,a];rw[aB (by omega) (by omega)];have hb:=lX s i;have f:BitVec.ofInt 16 (u16.wrap (aL s i)*2^8)=hi (BitVec.ofInt 8 (aL s i)):=by
  apply aze;have:=AT _ hb;rw[DH,aA2,aAf];omega
 have:u16.wrap ((BitVec.ofInt u16.bits (r.toNat:Int)^^^BitVec.ofInt u16.bits (u16.wrap (u16.wrap (aL s i)*2^8))).toNat:Int)=((r^^^hi (BitVec.ofInt 8 (aL s i))).toNat:Int):=by
  show u16.wrap (((BitVec.ofInt 16 (r.toNat:Int)^^^BitVec.ofInt 16 (u16.wrap (u16.wrap (aL s i)*2^8))).toNat:Nat):Int)=_;rw[ah1,acM,f];exact Kf _
 rw[this,arO];rfl
theorem NT(s:ByteArray)(i:Nat)(h:i<s.size):(av s).take (i+1)=(av s).take i++ [aL s i]:=by
 simp_all [av,ays,afb]
def sum(s:ByteArray):BitVec 16:=crc 0xFFFF#16 (qO (av s))
theorem ann(s:ByteArray)(h:s.size<=1000000):wu s=((sum s).toNat:Int):=by
 have:=(kU (step:=rV) (k:=(s,s.size)) (λi=>(((crc 0xFFFF#16 (qO ((av s).take i))).toNat:Int),i)) s.size (λi hi=>⟨_,by
  rw[ak6 s _ _ _ (by omega) (by omega),NT s i hi,CO,yB];rfl⟩) (k':=(s,s.size)) (y:=(((sum s).toNat:Int),s.size)) (by
  simp_all [rV,sum,avv]) (fuel:=Nat.succ (yC (s,s.size) (65535,0))) (by simp_all [yC])).1
 exact av7 Prod.fst this
theorem Yf(m n:Nat)(hm:m<2^16)(a:n<2^16):i64.wrap ((BitVec.ofInt i64.bits m^^^BitVec.ofInt i64.bits n).toNat:Int)=((m^^^n:Nat):Int):=by
 show i64.wrap (((BitVec.ofInt 64 m^^^BitVec.ofInt 64 n).toNat:Nat):Int)=_;have:=Nat.xor_lt_two_pow hm a;grind [aB]
theorem aks(r:BitVec 16):(ji r).toNat=if 32768<=r.toNat then(r.toNat*2 % 65536)^^^4129 else r.toNat*2 % 65536:=by
 unfold ji;rw[aAg,az3,aBi,aBq];grind
theorem ams(r:BitVec 16)(i:Int)(h:i<8)(h0:0<=i):rX () (r.toNat,i)= .next () (((ji r).toNat:Int),i+1):=by
 unfold rX;have h1:decide (i<8)=true:=by simp_all
 simp only[h1];rw[aB (x:=i+1) (by omega) (by omega),aB (x:=r.toNat*2) (by omega) (by omega),avu (by omega),aks];have e:r.toNat*2 % 65536=((r.toNat*2 % 65536:Nat):Int):=by omega
 by_cases h2:32768<=r.toNat
 ·have h3:decide ((r.toNat:Int)>=32768)=true:=by grind
  rw[h3,avf h2,e];simp only[au3];rw[show 4129=((4129:Nat):Int)from rfl,Yf _ _ (by omega) (by omega)]
 ·have h3:decide ((r.toNat:Int)>=32768)=false:=by simp;omega
  rw[h3,avb h2,e];rfl
theorem asS(r:BitVec 16):(V9 () (r.toNat,0)).1=((it 8 r).toNat:Int):=by
 have:=(kU (step:=rX) (k:=()) (λi=>(((it i r).toNat:Int),i)) 8 (λi hi=>⟨(),by
  grind [ams,Rx]⟩) (k':=()) (y:=(((it 8 r).toNat:Int),8)) (by
  simp_all [rX]) (fuel:=Nat.succ (zg () (r.toNat,0))) (by simp_all [zg])).1
 exact av7 Prod.fst this
theorem ak4(s:ByteArray)(r:BitVec 16)(i:Nat)(h:i<s.size)(hs:s.size<=1000000):ou s (r.toNat,i)= .next s (((AW r (BitVec.ofInt 8 (aL s i))).toNat:Int),((i+1:Nat):Int)):=by
 unfold ou;have h1:decide ((i:Int)<s.size)=true:=by simp_all
 simp only[h1];have hb:=lX s i;have hr:=r.isLt;rw[aB (x:=i+1) (by omega) (by omega),aB (x:=aL s i) (by omega) (by omega),aB (x:=aL s i*256) (by omega) (by omega)];obtain⟨c,f⟩:=aw1 hb.1;have e:aL s i*256=((c*256:Nat):Int):=by omega
 have a:(hi (BitVec.ofInt 8 (aL s i))).toNat=c*256:=by
  grind [DH]
 rw[e,Yf _ _ hr (by omega),<- a,<- aAg,asS];rfl
theorem aqZ(s:ByteArray)(h:s.size<=1000000):wI s=((sum s).toNat:Int):=by
 have:=(kU (step:=ou) (λi=>(((crc 0xFFFF#16 (qO ((av s).take i))).toNat:Int),i)) s.size (λi hi=>⟨_,by
  rw[ak4 s _ _ hi (by omega),NT s i hi,CO,yB];rfl⟩) (k':=s) (y:=(((sum s).toNat:Int),s.size)) (by
  simp_all [ou,sum,avv]) (fuel:=Nat.succ (su s (65535,0))) (by simp_all [su])).1
 show u16.wrap (endOf ou s (Nat.succ (su s (65535,0))) (65535,0)).1=_;rw[show(endOf ou s (Nat.succ (su s (65535,0))) (65535,0))=(((sum s).toNat:Int),(s.size:Int))from this,Kf]
def fp(s:ByteArray):ByteArray:=dA s (bP [((sum s).toNat:Int)/256,((sum s).toNat:Int) % 256])
theorem ama(s:ByteArray)(h:s.size<=1000000):oP s=fp s:=by
 unfold oP fp;rw[ann s h];have hr:=(sum s).isLt;have a:min ((8:Int)).toNat u16.bits=8:=rfl;rw[a,awy _ (by omega),av6,av6];grind
theorem UU(s:ByteArray)(h:s.size<=1000000):AR s=fp s:=by
 unfold AR fp;rw[aqZ s h];have hr:=(sum s).isLt;rw[axi (by omega),avu (by omega),aAf,av6,av6];grind
theorem xZ(s:ByteArray):av (fp s)=av s++ [((sum s).toNat:Int)/256,((sum s).toNat:Int) % 256]:=by
 unfold fp;have hr:=(sum s).isLt;rw[ajq,uJ _ (λx a=>by
  grind)]
theorem Hf(s:ByteArray):(fp s).size=s.size+2:=by simp_all [fp]
theorem atA(r:BitVec 16):r=hi (BitVec.ofInt 8 ((r.toNat:Int)/256))^^^lo (BitVec.ofInt 8 ((r.toNat:Int) % 256)):=by
 have hr:=r.isLt;apply aze;have h1:=AT ((r.toNat:Int)/256) (by omega);have h2:=AT ((r.toNat:Int) % 256) (by omega);have h3:(lo (BitVec.ofInt 8 ((r.toNat:Int) % 256))).toNat=(BitVec.ofInt 8 ((r.toNat:Int) % 256)).toNat:=by
  unfold lo;rw[aAc];exact azl (by omega)
 rw[aAg,DH,h3];generalize(BitVec.ofInt 8 ((r.toNat:Int)/256)).toNat=a at h1;generalize(BitVec.ofInt 8 ((r.toNat:Int) % 256)).toNat=b at h2;have hb:b<2^8:=by omega
 have:a*256^^^b=a*256+b:=by
  have h:=azd hb a;rw[ay9]at h;have f:a*2^8^^^b=a*2^8|||b:=by
   apply aAk;intro i;rw[Nat.testBit_xor,Nat.testBit_or,az0];rcases axd i 8 with hi|hi
   ·simp[show¬ 8<=i by omega]
   ·rw[ay5 (ava hb (ax8 (by omega) hi))]
    simp
  rw[f];exact h.symm
 rw[this];omega
theorem Qc(s:ByteArray):sum (fp s)=0#16:=by
 unfold sum;rw[xZ,CO,yB];exact(QN _ _ _).2 (atA (sum s))
theorem ahg(l:List Int)(h:2<=l.length): ∃a b,l=l.take (l.length-2)++ [a,b]:=by
 refine⟨l[l.length-2],l[l.length-1],?_⟩;conv=>lhs;rw[<- awh (l.length-2) l]
 rw[av8 (by omega),av8 (by omega),ay4 (by omega)];grind
theorem xM(s:ByteArray)(h:2<=s.size):fp (s.extract 0 (s.size-2))=s↔sum s=0#16:=by
 constructor
 ·grind [Qc]
 ·intro h1
  apply II;rw[xZ];obtain⟨a,b,e⟩:=ahg (av s) (by simpa using h);have f:av (s.extract 0 (s.size-2))=(av s).take ((av s).length-2):=by rw[tK,pL];simp
  have hm:=λx f=>uO s x (by rw[e];simp only[awv];exact Or.inr f)
  have g:=hm a (by simp);have hb:=hm b (by simp);unfold sum at h1;rw[e,CO,yB]at h1;have h2:=(QN _ _ _).1 h1;have h4:sum (s.extract 0 (s.size-2))=crc 0xFFFF#16 (qO ((av s).take ((av s).length-2))):=by unfold sum;rw[f]
  rw[f,h4];conv=>rhs;rw[e]
  have h5:(crc 0xFFFF#16 (qO ((av s).take ((av s).length-2)))).toNat=(BitVec.ofInt 8 a).toNat*256+(BitVec.ofInt 8 b).toNat:=by
   have j: ∀(x y:BitVec 8),(hi x^^^lo y).toNat=x.toNat*256+y.toNat:=by
    intro x y;have h3:(lo y).toNat=y.toNat:=by
     unfold lo;rw[aAc];exact azl (by omega)
    rw[aAg,DH,h3];have hb:=y.isLt;have h:=azd hb x.toNat;rw[ay9]at h;have f:x.toNat*2^8^^^y.toNat=x.toNat*2^8|||y.toNat:=by
     apply aAk;intro i;rw[Nat.testBit_xor,Nat.testBit_or,az0];rcases axd i 8 with hi|hi
     ·simp[show¬ 8<=i by omega]
     ·rw[ay5 (ava hb (ax8 (by omega) hi))]
      simp
    have f:=f;rw[f];exact h.symm
   have h2:=h2;rw[h2,j]
  have h6:=AT a g;have h7:=AT b hb;rw[h5];have k:((((BitVec.ofInt 8 a).toNat*256+(BitVec.ofInt 8 b).toNat:Nat):Int))=a*256+b:=by omega
  rw[k,show(a*256+b)/256=a by omega,show(a*256+b) % 256=b by omega]
theorem Ig(s:ByteArray)(h:s.size<=1000000):wP s=if s.size<2 then(ByteArray.empty,4)else if sum s=0#16 then(s.extract 0 (s.size-2),0)else(ByteArray.empty,5):=by
 unfold wP;have e:i64.wrap (s.size-2)=s.size-2:=aB (by omega) (by omega);by_cases h1:s.size<2
 ·rw[avf h1]
  have:decide ((s.size:Int)<2)=true:=by simp;omega
  rw[this];rfl
 ·rw[avb h1]
  have:decide ((s.size:Int)<2)=false:=by simp;omega
  rw[this];have a:Int.toNat (s.size-2)=s.size-2:=by omega
  simp only[e,a,Int.toNat_zero];rw[UU _ (by rw[extract_size];omega)];by_cases h2:sum s=0#16
  ·rw[avf h2,(xM s (by omega)).2 h2,Hd];rfl
  ·rw[avb h2]
   have:iL (fp (s.extract 0 (s.size-2))) s=false:=by
    cases h3:iL (fp (s.extract 0 (s.size-2))) s with
    |false=>rfl
    |true=>exact absurd ((xM s (by omega)).1 ((BK _ _).1 h3)) h2
   rw[this];rfl
theorem ah6(s:ByteArray)(h:s.size<=1000000):jC s=wP s:=by
 rw[PY s h,Ig s h];by_cases h1:s.size<2
 ·simp_all
 ·rw[avb h1,avb h1,ama _ (by grind [extract_size])]
  by_cases h2:sum s=0#16
  ·rw[avf h2,avf ((xM s (by omega)).2 h2)]
  ·rw[avb h2,avb (λh3=>h2 ((xM s (by omega)).1 h3))]
instance(b:ae):Decidable (aR b):=decidable_of_iff (tq b=0) (jP b)
theorem Hi(b:ae)(hl:b.aK.length<=maxLen):(bZ b !=0)=decide (¬ aR b):=by
 grind [kZ,jP]
theorem Bc(b:ae)(hl:b.aK.length<=maxLen):(iT b !=0)=decide (¬ aR b):=by
 rw[HI b hl,<- kZ b hl];exact Hi b hl
def sr(fl f d:Int):Bool:=((d==1)&&(decide (0<=f)&&decide (f<=fl-2)))||((d==2)&&(decide (1<=f)&&decide (f<=fl-1)))
theorem Oq(b:ae)(f d:Int)(hl:b.aK.length<=maxLen):tu (b,f,d)=(decide (aR b)&&sr b.1 f d):=by
 unfold tu;simp only[Bc b hl];by_cases a:aR b
 ·have h1:=a.fl
  simp only[a,avz,not_true,awe,axs,auw];unfold sr;simp only[EE];rw[aB (by omega) (by omega),aB (by omega) (by omega)]
 ·simp[a]
def nA(fl:Int):af:=
 ((u32.wrap ((u32.wrap (1*2^(min ((i64.wrap (fl-1))).toNat u32.bits)))-1)),(u32.wrap ((u32.wrap ((u32.wrap (1*2^(min ((i64.wrap (fl-1))).toNat u32.bits)))-1))*2^(min ((1:Int)).toNat u32.bits))))
theorem RD(b:ae)(hl:b.aK.length<=maxLen):dS b=if aR b then nA b.1 else(0,0):=by
 simp_all [dS,nA,Hi]
def fq(fl:Int)(x:ax):ak Unit (ax) (af):=
 bif(decide (x.1<32))then
  (bif sr fl x.1 1 then
   (bif sr fl x.1 2 then
    ak.next () ((i64.wrap (x.1+1)),(u32.wrap ((BitVec.ofInt u32.bits x.2.1|||BitVec.ofInt u32.bits (u32.wrap (1*2^(min ((u64.wrap x.1)).toNat u32.bits)))).toNat:Int)),(u32.wrap ((BitVec.ofInt u32.bits x.2.2|||BitVec.ofInt u32.bits (u32.wrap (1*2^(min ((u64.wrap x.1)).toNat u32.bits)))).toNat:Int)))
   else
    ak.next () ((i64.wrap (x.1+1)),(u32.wrap ((BitVec.ofInt u32.bits x.2.1|||BitVec.ofInt u32.bits (u32.wrap (1*2^(min ((u64.wrap x.1)).toNat u32.bits)))).toNat:Int)),x.2.2))
  else
   bif sr fl x.1 2 then
    ak.next () ((i64.wrap (x.1+1)),x.2.1,(u32.wrap ((BitVec.ofInt u32.bits x.2.2|||BitVec.ofInt u32.bits (u32.wrap (1*2^(min ((u64.wrap x.1)).toNat u32.bits)))).toNat:Int)))
   else
    ak.next () ((i64.wrap (x.1+1)),x.2))
 else
  ak.brk () x
theorem ahe:(List.range 31).all (λn=>(endOf (λ_=>fq (n+2)) () 33 (0,0,0)).2==nA (n+2))=true:=by kernel_rfl
theorem agB{fl:Int}(h:2<=fl/\fl<=32):(endOf (λ_=>fq fl) () 33 (0,0,0)).2=nA fl:=by
 have:=List.all_eq_true.1 ahe (fl-2).toNat (by grind);grind
theorem HN(b:ae)(hl:b.aK.length<=maxLen):AQ b=if aR b then nA b.1 else(0,0):=by
 by_cases a:aR b
 ·rw[avf a,<- agB a.fl]
  refine av7 Prod.snd (loop_sim (λx y=>x=y) (λx y h=> ?_) 33 _ _ rfl).1;subst h;simp only[vx,fq,Oq _ _ _ hl,a];cases decide (x.1<32)<;>cases sr b.1 x.1 1<;>cases sr b.1 x.1 2<;>rfl
 ·rw[avb a]
  have:=kX (step:=vx) (k:=b) (λx=>0<=x.1/\x.2=(0,0)) (zu b) (λo y=>y.2=(0,0)) (λx f=> ?_) _ (0,0,0) ⟨by simp,rfl⟩ (aAh _)
  ·exact this
  ·simp only[vx,Oq _ _ _ hl,a]
   by_cases h1:x.1<32
   ·simp only[h1]
    rw[aB (by omega) (by omega)];refine⟨⟨by omega,f.2⟩,?_⟩;simp only[zu];omega
   ·simp only[h1];exact f.2
def kF(b:ae)(c:af):Bool:=qP (b,c)
theorem aev(b:ae)(c:af)(hl:b.aK.length<=maxLen):AE (b,c)=kF b c:=by
 simp_all [AE,kF,qP,RD,HN]
def jl(n lo hi:Int):Bool:=decide (lo<=n)&&decide (n<=hi)
theorem UL(n lo hi:Int):qK (n,lo,hi)=jl n lo hi:=rfl
def iF(b:ae)(n:Int):Bool:=n/2^b.1.toNat==0
def ie(n:Int):Prop:=0<=n/\n<=4294967295
theorem Rp{b:ae}(a:aR b){n:Int}(f:ie n):AZ (b,n)=iF b n:=by
 have h:=a.fl;unfold AZ iF ie at*;have g:u64.wrap n=n:=by grind [IntKind.wrap_u64]
 have i:u64.wrap b.1=b.1:=by grind [IntKind.wrap_u64]
 have j:min (b.1.toNat) u64.bits=b.1.toNat:=by show min (b.1.toNat) 64=b.1.toNat;omega
 grind
theorem ajZ{b:ae}(a:aR b)(n:Int):(Int.fdiv n (2^(min (b.1).toNat u32.bits))==0)=iF b n:=by
 have h:=a.fl;unfold iF;have f:min (b.1.toNat) u32.bits=b.1.toNat:=by show min (b.1.toNat) 32=b.1.toNat;omega
 grind
def pR(b:ae)(c:dY):Bool:=iF b c.1.1&&iF b c.2.2.1&&jl c.2.1.1 0 (b.1-1)&&jl c.2.1.2.2.1 0 2
def qD(c:dY):Prop:=ie c.1.1/\ie c.2.2.1
def gC(b:ae)(x:bm):Bool:=kF b x.1&&jl x.2.1.1 0 8&&jl x.2.1.2 0 (b.2.2.2.2.2.2.2.length-1)&& !((x.2.1.1==0)&&(x.2.1.2 !=0))&&((x.2.2.length:Int)==b.2.2.2.2.2.2.2.length)&&x.2.2.all (pR b)
theorem aiv{K α:Type} [Inhabited α]{st:K->Int->ak K Int Bool}{k:K}(l:List α)(p:α->Bool)(hl:l.length<=maxLen)
  (f: ∀i:Nat,i<l.length->st k i=bif p (aa l i)then .next k (i64.wrap (i+1))else .ret false) (hb:st k l.length= .brk k l.length) {fuel:Nat} (g:l.length<fuel):
  dq (bd st k fuel 0) (λy=>y) true=l.all p:=by
 rw[<- GG,<- NQ l];have:=ret_row (λi=>(i:Int)) (λi=>(λc=>if p c=true then none else some false) (aa l i)) l.length (λi hi=> ?_) hb g
 ·simp_all
 ·rw[f i hi]
  by_cases a:p (aa l i)=true
  ·simp only[a,au3]
   exact⟨k,by rw[pC hi hl]⟩
  ·simp only[a,azg,awf,auw]
theorem akD{b:ae}(a:aR b)(x:bm)(hl:x.2.2.length<=maxLen)(g: ∀c∈x.2.2,qD c):dq (LB (b,x) (0:Int)) (λy=>y) true=x.2.2.all (pR b):=by
 have h:=a.fl;unfold LB;refine aiv x.2.2 _ hl (λi hi=> ?_) ?_ (by unfold Dz;simp only;omega)
 ·unfold zA
  have h1:decide ((i:Int)<(x.2.2.length:Int))=true:=by simp;omega
  have f:=g (aa x.2.2 (i:Int)) (by rw[cc _ i hi];exact ayj _);simp only[h1,au3,Rp a f.1,Rp a f.2,UL];rw[aB (x:=b.1-1) (by omega) (by omega)];unfold pR;cases iF b (aa x.2.2 (i:Int)).1.1<;>cases iF b (aa x.2.2 (i:Int)).2.2.1<;>cases jl (aa x.2.2 (i:Int)).2.1.1 0 (b.1-1)<;>cases jl (aa x.2.2 (i:Int)).2.1.2.2.1 0 2<;>rfl
 ·unfold zA
  simp
theorem aiz{b:ae}(a:aR b)(g:b.aK.length<=maxLen)(x:bm)(hl:x.2.2.length<=maxLen)(h: ∀c∈x.2.2,qD c):rf (b,x)=gC b x:=by
 have f:=a.cn;have f:1<=b.2.2.2.2.2.2.2.length/\b.2.2.2.2.2.2.2.length<=8:=f;unfold rf gC;simp only[Bc b g,a,not_true,awe,Bool.false_or,UL];rw[akD a _ hl h,aB (x:=(b.2.2.2.2.2.2.2.length:Int)-1) (by omega) (by omega),show((x.2.2.length:Int) !=(b.2.2.2.2.2.2.2.length:Int))= !((x.2.2.length:Int)==(b.2.2.2.2.2.2.2.length:Int))from rfl];unfold kF;generalize qP (b,x.1)=i;generalize jl x.2.1.1 0 8=j;generalize jl x.2.1.2 0 ((b.2.2.2.2.2.2.2.length:Int)-1)=k;generalize((x.2.1.1==0)&&(x.2.1.2 !=0))=l;generalize((x.2.2.length:Int)==(b.2.2.2.2.2.2.2.length:Int))=m;generalize x.2.2.all (pR b)=o;revert i j k l m o
 decide
theorem air{b:ae}(a: ¬ aR b)(f:b.aK.length<=maxLen)(x:bm):rf (b,x)=false:=by
 simp_all [rf,Bc]
theorem agP{K α ρ:Type} [Inhabited α]{st:K->(dW)->ak K (dW) ρ}{k:K}(f:α->List Int)(xs:List α)(hl:xs.length<=1000)
  (g: ∀(i:Nat) l,i<xs.length->st k (bP l,(i:Int))= .next k (bP (l++f (aa xs i)),((i+1:Nat):Int))) (hb: ∀l,st k (bP l,(xs.length:Int))= .brk k (bP l,(xs.length:Int))) (row:List Int) {fuel:Nat} (a:xs.length<fuel):
  (endOf st k fuel (bP row,(0:Int))).1=bP (row++xs.flatMap f):=by
 have:=(kU (step:=st) (k:=k) (λi=>(bP (row++(xs.take i).flatMap f),(i:Int))) xs.length (λi hi=>⟨k,by
  grind [List.append_assoc,List.take_add_one,cc]⟩) (k':=k) (y:=(bP (row++xs.flatMap f),(xs.length:Int))) (by
  simp_all) a).1
 simp_all
theorem aia(x:bm)(hl:x.2.2.length<=1000)(row:List Int):(vL x (bP row,0)).1=bP (row++x.2.2.flatMap gN):=by
 refine agP gN x.2.2 hl (λi l hi=> ?_) (λl=> ?_) row (by simp_all [vp])
 ·unfold qf
  have h1:decide ((i:Int)<x.2.2.length)=true:=by simp;omega
  simp only[h1,oJ,oV,sW,vC,I8];rw[aB (by omega) (by omega)];simp only[avn];rfl
 ·unfold qf
  simp
abbrev dz(b:ae):Int:=(b.2.2.2.2.2.2.2.length:Int)
theorem ak8{b:ae}(a:aR b):le (u64.wrap (dz b)) 1= [dz b]/\u8.wrap (dz b)=dz b:=by
 have h1:=a.cn;simp only[le,av6,avy];grind
def jT(b:ae)(x:bm):dW:=bif decide (aR b)&&gC b x then(fp (bP (gJ (dz b) x)),0)else(ByteArray.empty,1)
theorem alz:le 165 1= [165]:=rfl
theorem Ko(b:ae)(f:b.aK.length<=maxLen)(x:bm)(hl:x.2.2.length<=30)(g: ∀c∈x.2.2,qD c):eP (b,x)=jT b x:=by
 unfold eP jT;by_cases a:aR b
 ·rw[aiz a f x (by grind [maxLen]) g]
  have e:(zZ (b,x)).1=bP (gJ (dz b) x):=by
   unfold zZ;simp only[oJ,tQ,I8];rw[aia x (by omega),(ak8 a).1,alz];unfold gJ;simp only[awz,awr]
  rw[e,UU _ (by rw[jm,xF];omega)];simp only[a,avz];cases gC b x<;>rfl
 ·rw[air a f]
  simp[a];rfl
def fD(b:ae)(s:ByteArray)(z a:Int):Int:=
 if¬ aR b then 1 else if s.size≠z then 4 else if aL s 0≠a\/aL s 1≠dz b then 30 else if sum s≠0#16 then 5 else 0
theorem Ry(b:ae)(h:b.aK.length<=maxLen)(s:ByteArray)(z a:Int)(g:aR b->14<=z/\z<=99000):qW (b,s,z,a)=fD b s z a:=by
 unfold qW fD;have i:=lX s 0;have j:=lX s 1;rw[Bc b h,aB (x:=aL s 0) (by omega) (by omega),aB (x:=aL s 1) (by omega) (by omega)];by_cases f:aR b
 ·rw[avb (by simp_all)]
  have g:=g f;simp only[f,not_true,awe];by_cases h2:s.size=z
  ·rw[avb (by simpa using h2),show(s.size !=z)=false by simpa using h2]
   by_cases h3:aL s 0≠a\/aL s 1≠dz b
   ·rw[avf h3,show((aL s 0 !=a)||(aL s 1 !=b.2.2.2.2.2.2.2.length))=true by rw[av9,axp,axp];exact h3]
    rfl
   ·rw[avb h3,show((aL s 0 !=a)||(aL s 1 !=b.2.2.2.2.2.2.2.length))=false by
     rw[Bool.eq_false_iff];intro h4;rw[av9,axp,axp]at h4;exact h3 h4]
    simp only[auw];rw[Ig s (by omega),avb (by omega)];by_cases h5:sum s=0#16
    ·rw[avf h5,avb (by simpa using h5)]
    ·rw[avb h5,avf h5]
  ·rw[avf h2,show(s.size !=z)=true by simpa using h2]
   rfl
 ·simp[f]
theorem JQ{b:ae}{s:ByteArray}{z a:Int}(h:fD b s z a=0):aR b/\s.size=z/\aL s 0=a/\aL s 1=dz b/\sum s=0#16:=by
 unfold fD at h;grind
def mid(s:ByteArray):ByteArray:=(s.extract 0 (s.size-2)).extract 2 (s.size-2)
theorem RF(b:ae)(h:b.aK.length<=maxLen)(s:ByteArray)(z a:Int)(g:aR b->14<=z/\z<=99000):hV (b,s,z,a)=if fD b s z a=0 then(some (mid s,b),0)else(none,fD b s z a):=by
 unfold hV;have i:=lX s 1;rw[Hi b h,aB (x:=aL s 1) (by omega) (by omega)];unfold fD;by_cases f:aR b
 ·rw[avb (show¬ ¬ aR b by simp_all)]
  have g:=g f;simp only[f,not_true,awe,auw];by_cases h2:s.size=z
  ·rw[avb (show¬ s.size≠z by simpa using h2),show(s.size !=z)=false by simpa using h2]
   simp only[auw];by_cases h3:aL s 0≠a\/aL s 1≠dz b
   ·rw[avf h3,show((aL s 0 !=a)||(aL s 1 !=b.2.2.2.2.2.2.2.length))=true by rw[av9,axp,axp];exact h3]
    rfl
   ·rw[avb h3,show((aL s 0 !=a)||(aL s 1 !=b.2.2.2.2.2.2.2.length))=false by
     rw[Bool.eq_false_iff];intro h4;rw[av9,axp,axp]at h4;exact h3 h4]
    simp only[auw];rw[ah6 s (by omega),Ig s (by omega),avb (by omega)];by_cases h5:sum s=0#16
    ·rw[avf h5,avb (show¬ sum s≠0#16 by simpa using h5)]
     simp only[azh];show(some (((s.extract 0 (s.size-2)).extract (Int.toNat 2) (Int.toNat ((s.extract 0 (s.size-2)).size:Int))),b),0)=_;rw[extract_size,show Int.toNat ((min (s.size-2) s.size-0:Nat):Int)=s.size-2 by omega];rfl
    ·rw[avb h5,avf h5]
     rfl
  ·rw[avf h2,show(s.size !=z)=true by simpa using h2]
   rfl
 ·rw[avf f]
  simp[f]
def cV(v:Int)(k:Int):Bool:=(u8.wrap ((BitVec.ofInt u8.bits (Int.fdiv v (2^(min ((u64.wrap k)).toNat u8.bits)))&&&BitVec.ofInt u8.bits 1).toNat:Int))==1
theorem aiL(s:ByteArray)(a k:Int):kn (s,a,k)=cV (aL s a) k:=rfl
def gl(c v:Int):List Bool:=(Kb (v,((aE aw c).length:Int)) (aE aw c,0)).1
theorem ai1:(List.range 256).all (λv=>gl 6 v== [cV v 0,cV v 1,cV v 2,cV v 3,cV v 4,cV v 5])=true:=by kernel_rfl
theorem ajD:(List.range 256).all (λv=>gF [cV v 0,cV v 1,cV v 2,cV v 3,cV v 4,cV v 5]==v % 64)=true:=by kernel_rfl
theorem Q4{p:Nat->Bool}(h:(List.range 256).all p=true){v:Int}(h0:0<=v)(h1:v<=255):p v.toNat=true:=List.all_eq_true.1 h _ (by grind)
theorem gl6{v:Int}(h:0<=v/\v<=255):gl 6 v= [cV v 0,cV v 1,cV v 2,cV v 3,cV v 4,cV v 5]:=by
 have:=Q4 ai1 h.1 h.2;grind
theorem fl6{v:Int}(h:0<=v/\v<=255):gF [cV v 0,cV v 1,cV v 2,cV v 3,cV v 4,cV v 5]=v % 64:=by
 have:=Q4 ajD h.1 h.2;grind
theorem arE: ∀a b c d e f:Bool,(0<=gF [a,b,c,d,e,f]/\gF [a,b,c,d,e,f]<=63)/\cV (gF [a,b,c,d,e,f]) 0=a/\cV (gF [a,b,c,d,e,f]) 1=b/\cV (gF [a,b,c,d,e,f]) 2=c/\cV (gF [a,b,c,d,e,f]) 3=d/\cV (gF [a,b,c,d,e,f]) 4=e/\cV (gF [a,b,c,d,e,f]) 5=f:=by decide+kernel
def n4(l:List Int)(k:Nat):Int:=vle ((l.drop k).take 4)
theorem B0{l:List Int}(h:bV l)(k:Nat):bV (l.take k):=λx a=>h x (awn a)
theorem iX{l:List Int}(h:bV l)(k:Nat):bV (l.drop k):=λx a=>h x (aws a)
theorem gY{l:List Int}(h:bV l)(k:Nat):0<=l.getD k 0/\l.getD k 0<=255:=by
 rcases axd k l.length with h1|h1
 ·rw[ave,avh h1]
  exact h _ (ayj h1)
 ·rw[ave,ayl h1]
  simp
theorem mb{l:List Int}(h:bV l)(k:Nat):ie (n4 l k):=by
 obtain⟨h1,h2⟩:=Dm _ (B0 (iX h k) 4);have h3:((l.drop k).take 4).length<=4:=by grind
 have h4:256^((l.drop k).take 4).length<=256^4:=by
  generalize((l.drop k).take 4).length=m at h3;have:m=0\/m=1\/m=2\/m=3\/m=4:=by omega
  grind
 grind [ie,n4]
theorem jq(s:ByteArray):bV (av s):=uO s
theorem uz(r:gj)(k:Nat):av (eo r k).1=(av r.1).drop k:=by
 simp_all [eo,tK,avv]
theorem abQ(r:gj)(hs:4<=r.1.size):(fi (4,r)).1=n4 (av r.1) 0:=IW 4 r (by omega) hs
theorem atf(r:gj)(hs:1<=r.1.size):(fi (1,r)).1=(av r.1).getD 0 0:=by
 have:=IW 1 r (by omega) hs;rw[show((1:Nat):Int)=1 from rfl]at this;rw[this];have hl:(av r.1).length=r.1.size:=pL _;cases h:av r.1 with
 |nil=>grind
 |cons a l=>simp[vle]
theorem Gc{n:Int}(h:ie n):u32.wrap n=n:=by grind [ie,IntKind.wrap_u32]
theorem Ua(r:gj)(a:aR r.2)(hs:4<=r.1.size):(aV r).1= !iF r.2 (n4 (av r.1) 0)/\(iF r.2 (n4 (av r.1) 0)=true->(aV r).2.1=n4 (av r.1) 0):=by
 unfold aV jv;rw[abQ r hs,Gc (mb (jq _) 0)];have e:(Int.fdiv (n4 (av r.1) 0) (2^(min ((fi (4,r)).2.2.1).toNat u32.bits))==0)=iF r.2 (n4 (av r.1) 0):=ajZ a _;grind
theorem num_1(m:Int)(r:gj)(hs:1<=r.1.size):(aY (m,r)).1= !decide ((av r.1).getD 0 0<=m)/\((av r.1).getD 0 0<=m->(aY (m,r)).2.1=(av r.1).getD 0 0):=by
 have hb:=gY (jq r.1) 0;unfold aY jv;rw[atf r hs,aB (by omega) (by omega)];grind
theorem ajT(r:gj)(hl:(ae.aK r.2).length<=maxLen)(hs:8<=r.1.size):(cN r).1= !kF r.2 (n4 (av r.1) 0,n4 (av r.1) 4)/\(kF r.2 (n4 (av r.1) 0,n4 (av r.1) 4)=true->(cN r).2.1=(n4 (av r.1) 0,n4 (av r.1) 4)):=by
 unfold cN jv;rw[sy,sy,pT];grind [n4,av,eo,kF,uz,abQ,rG,Gc,mb,jq,nz,aev]
theorem akY(c m:Int)(r:gj)(hm:(i64.wrap ((i64.wrap (1*2^(min (c).toNat i64.bits)))-1))=m)(hs:1<=r.1.size):(bj (c,r)).1= !decide ((av r.1).getD 0 0<=m)/\((av r.1).getD 0 0<=m->(bj (c,r)).2.1=gl c ((av r.1).getD 0 0)):=by
 unfold bj;rw[hm];obtain⟨h1,h2⟩:=num_1 m r hs;rw[h1];by_cases h:(av r.1).getD 0 0<=m
 ·rw[h2 h]
  simp only[h,avz,awa,auw,ay7];exact λ_=>rfl
 ·simp only[h,awe,ax9,au3,ayy,aBf]
theorem m6:(i64.wrap ((i64.wrap (1*2^(min (6:Int).toNat i64.bits)))-1))=63:=by kernel_rfl
theorem m3:(i64.wrap ((i64.wrap (1*2^(min (3:Int).toNat i64.bits)))-1))=7:=by kernel_rfl
theorem m2:(i64.wrap ((i64.wrap (1*2^(min (2:Int).toNat i64.bits)))-1))=3:=by kernel_rfl
theorem getD_drop(l:List Int)(a k:Nat):(l.drop a).getD k 0=l.getD (a+k) 0:=by
 simp_all
theorem IN(l:List Int)(a k:Nat):n4 (l.drop a) k=n4 l (a+k):=by simp_all [n4]
def fG(l:List Int):dY:=
 ((n4 l 0,cV (l.getD 4 0) 0,cV (l.getD 4 0) 1,cV (l.getD 4 0) 2,cV (l.getD 4 0) 3),(l.getD 5 0,cV (l.getD 4 0) 4,l.getD 6 0,cV (l.getD 4 0) 5),n4 l 7,(vle ((l.drop 11).take 8)).toNat)
def jo(b:ae)(l:List Int):Bool:=iF b (n4 l 0)&&decide (l.getD 4 0<=63)&&decide (l.getD 5 0<=b.1-1)&&decide (l.getD 6 0<=2)&&iF b (n4 l 7)
theorem sz{r:gj}{k n:Nat}(h:k+n<=r.1.size):n<=(eo r k).1.size:=by grind [rG]
theorem ano(k i:Int)(r:gj)(j:aR r.2)(x:bm)(e:Int)(hs:19<=r.1.size)(h0:0<=i)(h:i<k)(t:k<=8):
  (jo r.2 (av r.1)=true->jV k (i,r,x,e)= .next k (i+1,eo r 19,(x.1,x.2.1,x.2.2++ [fG (av r.1)]),e))/\
  (jo r.2 (av r.1)=false-> ∃y,jV k (i,r,x,e)= .ret y):=by
 have u:=j.fl;have hi:decide (i<k)=true:=by simp_all
 obtain⟨b1,m⟩:=Ua r j (by omega);obtain⟨f1,f2⟩:=akY 6 63 (eo r 4) m6 (sz (by omega));obtain⟨n1,l⟩:=num_1 (r.2.1-1) (eo r 5) (sz (by omega));obtain⟨d1,d2⟩:=num_1 2 (eo r 6) (sz (by omega));obtain⟨c1,c2⟩:=Ua (eo r 7) j (sz (by omega));have o:(fi (8,eo r 11)).1=vle (((av r.1).drop 11).take 8):=by
  rw[<- uz];exact IW 8 (eo r 11) (by omega) (sz (by omega))
 have s:=gY (jq r.1) 4;simp only[uz,getD_drop,IN,nz,awp]at f1 f2 n1 l d1 d2 c1 c2;unfold jV H2;simp only[hi,au3,CH,Cd,uW,sy,pT,nz,Nat.reduceAdd];rw[aB (by omega) (by omega),aB (by omega) (by omega)];simp only[b1,f1,n1,d1,c1];unfold jo;cases g1:iF r.2 (n4 (av r.1) 0)with
 |false=>exact⟨λh=>by simp at h,λ_=>⟨_,rfl⟩⟩
 |true=>
  rw[m g1];by_cases a:(av r.1).getD 4 0<=63
  ·rw[f2 a,gl6 s]
   by_cases f:(av r.1).getD 5 0<=r.2.1-1
   ·rw[l f]
    by_cases g:(av r.1).getD 6 0<=2
    ·rw[d2 g]
     cases g5:iF r.2 (n4 (av r.1) 7)with
     |false=>
      simp only[a,f,g,avz,awa,ax9,au3,auw,ay3,awf,ayy,ay7,azw];exact⟨_,rfl⟩
     |true=>
      rw[c2 g5,o];simp only[a,f,g,avz,awa,auw,azz,ay8,ayy,aBf,azw];rfl
    ·simp only[a,f,g,avz,awe,awa,ax9,au3,auw,ay3,ayo,awf,ayy,ay7,azw]
     exact⟨_,rfl⟩
   ·simp only[a,f,avz,awe,awa,ax9,au3,auw,ay3,ayo,awf,ayy,ay7,azw]
    exact⟨_,rfl⟩
  ·simp only[a,avz,awe,awa,ax9,au3,auw,ay3,ayo,awf,ayy,ay7,azw]
   exact⟨_,rfl⟩
theorem alZ(n:Nat)(o:n<=8)(r:gj)(l:aR r.2)(x:bm)(m:x.2.2= [])(e:Int)(hs:r.1.size=19*n):
  ((∀i,i<n->jo r.2 ((av r.1).drop (19*i))=true)->zj (n:Int) ((0:Int),r,x,e)=none/\(Ke (n:Int) ((0:Int),r,x,e)).2.2=((x.1,x.2.1,(List.range n).map λi=>fG ((av r.1).drop (19*i))),e))/\
  (∀i,i<n->jo r.2 ((av r.1).drop (19*i))=false-> ∃y,zj (n:Int) ((0:Int),r,x,e)=some y):=by
 let s:Nat->Int×gj×bm×Int:=λi=>((i:Int),eo r (19*i),(x.1,x.2.1,(List.range i).map λi=>fG ((av r.1).drop (19*i))),e)
 have g:s 0=((0:Int),r,x,e):=by
  show((0:Int),eo r 0,(x.1,x.2.1,[]),e)=_;rw[<- m];congr 2
  unfold eo;congr 1
  apply II;simp_all [tK,avv]
 have a: ∀i,i<n->(jo r.2 ((av r.1).drop (19*i))=true->jV (n:Int) (s i)= .next (n:Int) (s (i+1)))/\(jo r.2 ((av r.1).drop (19*i))=false-> ∃y,jV (n:Int) (s i)= .ret y):=by
  intro i hi;have:=ano (n:Int) (i:Int) (eo r (19*i)) l (x.1,x.2.1,(List.range i).map λi=>fG ((av r.1).drop (19*i))) e (by grind [rG]) (by omega) (by omega) (by omega);grind [eo,List.range,fG,av,uz,nz,pT,List.range_succ]
 have h:jV (n:Int) (s n)= .brk (n:Int) (s n):=by
  unfold jV;have:=by show decide ((n:Int)<(n:Int))=false;simp
  rw[this];rfl
 constructor
 ·intro f
  have:=kU s n (λi hi=>⟨_,(a i hi).1 (f i hi)⟩) h (fuel:=Nat.succ (oi (n:Int) ((0:Int),r,x,e))) (by unfold oi;simp only;omega);rw[g]at this;refine⟨this.2,?_⟩;unfold Ke;rw[this.1]
 ·intro i hi hb
  have:=ret_row s (λi=>bd jV (n:Int) 1 (s i)) n (λj k=>by
   cases f:jo r.2 ((av r.1).drop (19*j))with
   |true=>
    have h1:=(a j k).1 f;simp only[bd,h1];exact⟨_,rfl⟩
   |false=>
    obtain⟨y,h1⟩:=(a j k).2 f;simp only[bd,h1]) h (fuel:=Nat.succ (oi (n:Int) ((0:Int),r,x,e))) (by unfold oi;simp only;omega)
  rw[g]at this;unfold zj;rw[this];cases hf:(List.range n).findSome? (λi=>bd jV (n:Int) 1 (s i))with
  |some y=>exact⟨y,rfl⟩
  |none=>
   have h2:=List.findSome?_eq_none_iff.1 hf i (by simpa using hi);obtain⟨y,h1⟩:=(a i hi).2 hb;simp only[bd,h1]at h2;cases h2
abbrev nc(b:ae):Nat:=b.2.2.2.2.2.2.2.length
theorem yg{b:ae}(a:aR b):0<=dz b/\dz b<=255/\nc b<=8:=by
 have f:=a.cn;grind
def fh(n:Nat)(l:List Int):bm:=((n4 l 0,n4 l 4),(l.getD 8 0,l.getD 9 0),(List.range n).map λi=>fG (l.drop (10+19*i)))
def iK(b:ae)(l:List Int):Bool:=kF b (n4 l 0,n4 l 4)&&decide (l.getD 8 0<=8)&&decide (l.getD 9 0<=dz b-1)&&((l.getD 8 0 !=0)||(l.getD 9 0==0))&&(List.range (nc b)).all λi=>jo b (l.drop (10+19*i))
theorem amM(r:gj)(l:aR r.2)(hl:(ae.aK r.2).length<=maxLen)(hs:r.1.size=10+19*nc r.2):
  (iK r.2 (av r.1)=true->(qA r).1=(fh (nc r.2) (av r.1),0))/\(iK r.2 (av r.1)=false->(qA r).1.2=31):=by
 have j:=l.cn;have j:=j;obtain⟨t,u⟩:=ajT r hl (by omega);obtain⟨m,o⟩:=num_1 8 (eo r 8) (sz (by omega));obtain⟨c1,c2⟩:=num_1 ((nc r.2:Int)-1) (eo r 9) (sz (by omega));simp only[uz,getD_drop,nz,awp]at m o c1 c2;have hw:i64.wrap (r.2.2.2.2.2.2.2.2.length-1)=(nc r.2:Int)-1:=by
  show i64.wrap ((nc r.2:Int)-1)=_;grind [aB]
 have s:=λx w e=>alZ (nc r.2) j.2 (eo r 10) l x w e (by simp_all [rG])
 simp only[uz,awq,nz]at s;unfold qA zJ yJ Kw jv;simp only[Cb,uW,pT,nz,Nat.reduceAdd,hw,t,m,c1];unfold iK;cases g1:kF r.2 (n4 (av r.1) 0,n4 (av r.1) 4)with
 |false=>exact⟨λh=>by simp at h,λ_=>rfl⟩
 |true=>
  by_cases g:(av r.1).getD 8 0<=8
  ·by_cases a:(av r.1).getD 9 0<=(nc r.2:Int)-1
   ·rw[u g1,o g,c2 a]
    have k:=a;simp only[g,a,k,avz,awa,auw,azz,axs];cases g4:(((av r.1).getD 8 0 !=0)||((av r.1).getD 9 0==0))with
    |false=>exact⟨λh=>by simp at h,λ_=>rfl⟩
    |true=>
     simp only[awa,auw,axs];obtain⟨h1,h2⟩:=s ((n4 (av r.1) 0,n4 (av r.1) 4),((av r.1).getD 8 0,(av r.1).getD 9 0),[]) rfl 0;constructor
     ·intro f
      rw[azm]at f;obtain⟨h3,h4⟩:=h1 λi hi=>f i (by simpa using hi)
      rw[h3,HK,h4];rfl
     ·intro f
      have: ∃i,i<nc r.2/\jo r.2 ((av r.1).drop (10+19*i))=false:=by
       rw[List.all_eq_false]at f;obtain⟨i,hi,hb⟩:=f;exact⟨i,by simpa using hi,by simpa using hb⟩
      obtain⟨i,hi,hb⟩:=this;obtain⟨y,z⟩:=h2 i hi hb;rw[z,Ho]
   ·have k:=a
    simp only[g,a,k,avz,awe,awa,ax9,au3,auw,ay3,ayo,awf,ayy,ay7,azw]
  ·simp only[g,avz,awe,awa,ax9,au3,auw,ay3,ayo,awf,ayy,ay7,azw]
theorem uj{l:List Int}{k p:Nat}(h:k+4<=p):n4 (l.take p) k=n4 l k:=by
 grind [n4,List.drop_take]
theorem getD_take{l:List Int}{k p:Nat}(h:k<p):(l.take p).getD k 0=l.getD k 0:=by
 simp_all
theorem agU{l:List Int}{a k p:Nat}(h:a+k<=p):vle (((l.take p).drop a).take k)=vle ((l.drop a).take k):=by
 grind [List.drop_take]
theorem ad0{l:List Int}{p:Nat}(h:19<=p):fG (l.take p)=fG l:=by
 grind [fG,uj,agU]
theorem adS(b:ae){l:List Int}{p:Nat}(h:19<=p):jo b (l.take p)=jo b l:=by
 grind [jo,uj]
theorem aeT{n:Nat}{l:List Int}{p:Nat}(h:10+19*n<=p):fh n (l.take p)=fh n l:=by
 unfold fh;rw[uj (by omega),uj (by omega),getD_take (by omega),getD_take (by omega)];grind [List.map_congr_left,List.drop_take,ad0]
theorem ad6{b:ae}{l:List Int}{p:Nat}(h:10+19*nc b<=p):iK b (l.take p)=iK b l:=by
 unfold iK;rw[uj (by omega),uj (by omega),getD_take (by omega),getD_take (by omega)];grind [List.drop_take,adS]
theorem akj(s:ByteArray):av (mid s)=((av s).drop 2).take (s.size-4):=by
 unfold mid;rw[tK,tK,awx,List.take_take,Nat.min_self,azj];congr 1
theorem ait(s:ByteArray):(mid s).size=s.size-4:=by
 grind [mid,extract_size]
def UY:bm:=((0,0),(0,0),[])
def dV(b:ae)(s:ByteArray):bm×Int:=
 if fD b s (14+19*dz b) 165=0 then(if iK b ((av s).drop 2)=true then(fh (nc b) ((av s).drop 2),0)else(UY,31))else(UY,fD b s (14+19*dz b) 165)
theorem KF{b:ae}(hl:b.aK.length<=maxLen)(a:aR b):bZ b=0:=by simp_all [kZ,jP]
theorem ajn{b:ae}(hl:b.aK.length<=maxLen)(a:aR b):iT b=0:=by simp_all [HI,jP]
theorem Ev{b:ae}(f: ¬ aR b)(s:ByteArray)(z a:Int):fD b s z a=1:=by simp_all [fD]
theorem rl(b:ae)(hl:b.aK.length<=maxLen)(s:ByteArray):fO (b,s)=dV b s:=by
 unfold fO Mb Nt M9 J1 dV;by_cases a:aR b
 ·simp only[I4 a (KF hl a)]
  rw[RF b hl s (14+19*dz b) 165 (λ_=>by have:=yg a;omega)];by_cases f:fD b s (14+19*dz b) 165=0
  ·rw[avf f,avf f]
   obtain⟨_,g,_⟩:=JQ f;have g:s.size=14+19*(nc b:Int):=g;have g:=by omega
   show(bif((qA (mid s,b)).1.2 !=0)then(((0,0),(0,0),[]),(qA (mid s,b)).1.2)else((qA (mid s,b)).1.1,0))=_;obtain⟨h1,h2⟩:=amM (mid s,b) a hl (by rw[ait];show s.size-4=10+19*nc b;omega);have i:=akj s;rw[i]at h1 h2;rw[ad6 (by show 10+19*nc b<=_;omega)]at h1 h2;rw[aeT (by show 10+19*nc b<=_;omega)]at h1;cases hg:iK b ((av s).drop 2)with
   |true=>
    rw[h1 hg];rfl
   |false=>
    rw[h2 hg];rfl
  ·rw[avb f,avb f]
   have:(fD b s (14+19*dz b) 165 !=0)=true:=by simpa using f
   rw[this];rfl
 ·rw[RF b hl s _ _ (λh=>absurd h a),Ev a,Ev a]
  rfl
theorem FV(s:ByteArray)(a:Nat)(h:a+4<=s.size)(hs:s.size<=99000):mF (s,a,4)=n4 (av s) a:=PB s a 4 (by omega) h hs
theorem ahy(s:ByteArray)(a:Nat)(h:a+8<=s.size)(hs:s.size<=99000):wD (s,a)=(n4 (av s) a,n4 (av s) (a+4)):=by
 unfold wD;rw[aB (by omega) (by omega),show a+4=((a+4:Nat):Int)by omega];simp only[FV s a (by omega) hs,FV s (a+4) (by omega) hs,Gc (mb (jq s) _)]
theorem tV(s:ByteArray)(a:Nat):aL s a=(av s).getD a 0:=by rw[Ch];rfl
theorem iw{n:Nat}(h:n<=1000000):i64.wrap n=n:=aB (by omega) (by omega)
theorem aqv(s:ByteArray)(b:ae)(i:Nat)(x:bm)(hi:i<nc b)(o:nc b<=8)(hs:s.size=14+19*nc b):
  np (s,b) (i,x)= .next (s,b) (((i+1:Nat):Int),(x.1,x.2.1,x.2.2++ [fG ((av s).drop (12+19*i))])):=by
 unfold np I3;have h1:decide (i<((s,b).2.2.2.2.2.2.2.2.length:Int))=true:=by
  simp_all
 have l:i64.wrap (12+i64.wrap (19*i))=((12+19*i:Nat):Int):=by
  rw[show(19*i)=((19*i:Nat):Int)by omega,iw (by omega),show 12+((19*i:Nat):Int)=((12+19*i:Nat):Int)by omega,iw (by omega)]
 have ek: ∀j:Nat,j<=30->i64.wrap (((12+19*i:Nat):Int)+(j:Int))=((12+19*i+j:Nat):Int):=λj t=>by
  rw[show((12+19*i:Nat):Int)+(j:Int)=((12+19*i+j:Nat):Int)by omega,iw (by omega)]
 have a:=ek 4 (by omega);have f:=ek 5 (by omega);have g:=ek 6 (by omega);have h:=ek 7 (by omega);have k:=ek 11 (by omega);rw[show((4:Nat):Int)=4 from rfl]at a;rw[show((5:Nat):Int)=5 from rfl]at f;rw[show((6:Nat):Int)=6 from rfl]at g;rw[show((7:Nat):Int)=7 from rfl]at h;rw[show((11:Nat):Int)=11 from rfl]at k;have m:=PB s (12+19*i+11) 8 (by omega) (by omega) (by omega);have u:=gY (jq s) (12+19*i+5);have w:=gY (jq s) (12+19*i+6);simp only[h1,au3,l,a,f,g,h,k,aiL,tV,m,FV s (12+19*i) (by omega) (by omega),FV s (12+19*i+7) (by omega) (by omega),Gc (mb (jq s) _)];rw[aB (x:=(av s).getD (12+19*i+5) 0) (by omega) (by omega),aB (x:=(av s).getD (12+19*i+6) 0) (by omega) (by omega),show(i:Int)+1=((i+1:Nat):Int)by omega,iw (by omega)];simp_all [fG,IN,getD_drop,awq,awp]
theorem al1(s:ByteArray)(b:ae)(p:af)(c:af)(a:nc b<=8)(hs:s.size=14+19*nc b):
  (jy (s,b) (0,p,c,[])).2=(p,c,(List.range (nc b)).map λi=>fG ((av s).drop (12+19*i))):=by
 unfold jy;have:=(kU (step:=np) (k:=(s,b)) (λi=>(i,p,c,(List.range i).map λi=>fG ((av s).drop (12+19*i)))) (nc b) (λi hi=>⟨(s,b),by
  simp_all [aqv,azb]⟩) (k':=(s,b)) (y:=((nc b:Int),p,c,(List.range (nc b)).map λi=>fG ((av s).drop (12+19*i)))) (by
  unfold np;simp_all) (fuel:=Nat.succ (uY (s,b) (0,p,c,[]))) (by
   show nc b<Nat.succ (((nc b:Int)-0).toNat);omega)).1
 simp_all
theorem Tn(l:List Int)(h:bV l)(k:Nat)(a:k<=l.length):le (vle (l.take k)) k=l.take k:=by
 have:=VZ (l.take k) (B0 h k);simp_all
theorem alO{l:List Int}(h:bV l)(k:Nat):u64.wrap (n4 l k)=n4 l k:=by
 grind [ie,mb,IntKind.wrap_u64]
theorem Ge{l:List Int}(h:bV l)(k:Nat)(a:k+4<=l.length):le (u64.wrap (n4 l k)) 4=(l.drop k).take 4:=by
 rw[alO h];exact Tn (l.drop k) (iX h k) 4 (by grind)
theorem Gx{v:Int}(h:0<=v/\v<=255):le (u64.wrap v) 1= [v]:=by
 simp only[le];rw[avy,av6];grind
theorem asD{v:Int}(h:0<=v/\v<=255):le v 1= [v]:=by
 simp only[le];rw[av6];grind
theorem aoU{l:List Int}(h:bV l)(k:Nat)(a:k+8<=l.length):ce (n4 l k,n4 l (k+4))=(l.drop k).take 8:=by
 unfold ce;rw[Ge h k (by omega),Ge h (k+4) (by omega),show 8=4+4 from rfl,axg,awq]
theorem si{l:List Int}(k:Nat)(a:k<l.length):(l.drop k).take 1= [l.getD k 0]:=by
 grind [List.drop_eq_getElem_cons]
theorem aip{c:List Int}(h:bV c)(hl:19<=c.length):gN (fG c)=c.take 4++ [c.getD 4 0 % 64]++(c.drop 5).take 14:=by
 have h4:=gY h 4;unfold gN fG;rw[Ge h 0 (by omega),Ge h 7 (by omega),fl6 h4,Gx (gY h 5),Gx (gY h 6),asD (by omega)];have a:((vle ((c.drop 11).take 8)).toNat:Int)=vle ((c.drop 11).take 8):=by
  have:=(Dm _ (B0 (iX h 11) 8)).1;omega
 rw[a,Tn (c.drop 11) (iX h 11) 8 (by grind),awx];rw[show(c.drop 5).take 14=(c.drop 5).take 1++((c.drop 6).take 1++((c.drop 7).take 4++(c.drop 11).take 8))by
  rw[show 14=1+(1+(4+8))from rfl,axg,axg,axg,awq,awq,awq],si 5 (by omega),si 6 (by omega)]
 simp_all
theorem afI(c:List Int)(hl:19<=c.length):c.take 19=c.take 4++ [c.getD 4 0]++(c.drop 5).take 14:=by
 rw[<- si 4 (by omega),show 19=4+(1+14)from rfl,axg,axg,awq,avn]
theorem Qf{c:List Int}(h:bV c)(hl:19<=c.length):gN (fG c)=c.take 19↔c.getD 4 0<=63:=by
 have h4:=gY h 4;rw[aip h hl,afI c hl,List.append_left_inj,List.append_right_inj];grind
theorem Qa{f g:Nat->List Int}{k:Nat}: ∀(n:Nat) (a: ∀i,i<n->(f i).length=k) (j: ∀i,i<n->(g i).length=k),((List.range n).flatMap f=(List.range n).flatMap g↔ ∀i,i<n->f i=g i)
 |0,_,_=>by simp
 |n+1,a,j=>by
  have l:=Qa n (λi hi=>a i (by omega)) (λi hi=>j i (by omega));have hl:((List.range n).flatMap f).length=((List.range n).flatMap g).length:=by
   rw[List.length_flatMap,List.length_flatMap];congr 1
   refine azr λi hi=> ?_
   have hi:i<n:=by simpa using hi
   rw[a i (by omega),j i (by omega)]
  rw[azb,ayx,ayx];simp only[ayu,List.flatMap_nil,awu];constructor
  ·intro h i hi
   obtain⟨h1,h2⟩:=axl h hl;rcases axd i n with h3|h3
   ·exact l.1 h1 i h3
   ·have:i=n:=by omega
    subst this;exact h2
  ·intro h
   rw[l.2 λi hi=>h i (by omega),h n (by omega)]
theorem chunks(l:List Int): ∀n:Nat,l.take (19*n)=(List.range n).flatMap λi=>(l.drop (19*i)).take 19
 |0=>by simp
 |n+1=>by
  rw[azb,ayx,<- chunks l n,show 19*(n+1)=19*n+19 by omega,axg];simp
theorem afZ(h0:Int)(n:Nat){l:List Int}(h:bV l)(hl:10+19*n<=l.length):gJ h0 (fh n l)=165::h0::l.take (10+19*n)↔ ∀i,i<n->(l.drop (10+19*i)).getD 4 0<=63:=by
 have e:l.take (10+19*n)=(l.drop 0).take 8++ [l.getD 8 0]++ [l.getD 9 0]++(List.range n).flatMap λi=>(l.drop (10+19*i)).take 19:=by
  have a:=chunks (l.drop 10) n;simp only[awq]at a;rw[<- a,<- si 8 (by omega),<- si 9 (by omega),show 10+19*n=8+(1+(1+19*n))by omega,axg,axg,axg];simp only[awq,avn,awx]
 have f:gJ h0 (fh n l)=165::h0::((l.drop 0).take 8++ [l.getD 8 0]++ [l.getD 9 0]++(List.range n).flatMap λi=>gN (fG (l.drop (10+19*i)))):=by
  unfold gJ fh;simp only;rw[show ce (n4 l 0,n4 l 4)=(l.drop 0).take 8 from aoU h 0 (by omega),Gx (gY h 8),Gx (gY h 9),List.flatMap_map];simp only[avn,awz,awr]
 rw[e,f];simp only[azc,ay7,List.append_right_inj];rw[Qa (k:=19) n (λi hi=>QR _) (λi hi=>by rw[avt,avs];omega)];constructor
 ·intro h1 i hi
  exact(Qf (iX h _) (by rw[avs];omega)).1 (h1 i hi)
 ·intro h1 i hi
  exact(Qf (iX h _) (by rw[avs];omega)).2 (h1 i hi)
theorem nf{l m:List Int}(h1:bV l)(h2:bV m):bV (l++m):=λx a=>(List.mem_append.1 a).elim (h1 x) (h2 x)
theorem QT{a:Int}{l:List Int}(h1:0<=a/\a<=255)(h2:bV l):bV (a::l):=λx f=>(List.mem_cons.1 f).elim (λe=>e▸h1) (h2 x)
theorem ai3:bV []:=λx a=>by cases a
theorem ahl{α:Type}{f:α->List Int}(h: ∀a,bV (f a))(l:List α):bV (l.flatMap f):=λx g=>by
 obtain⟨a,_,i⟩:=List.mem_flatMap.1 g;exact h a x i
theorem alu(c:af):bV (ce c):=nf (mc _ _) (mc _ _)
theorem ahq(c:dY):bV (gN c):=nf (nf (nf (nf (nf (mc _ _) (mc _ _)) (mc _ _)) (mc _ _)) (mc _ _)) (mc _ _)
theorem Hp{n:Int}(a:0<=n/\n<=255)(x:bm):bV (gJ n x):=nf (nf (nf (nf (QT (by omega) (QT a ai3)) (alu _)) (mc _ _)) (mc _ _)) (ahl ahq _)
theorem agH{row:List Int}(hb:bV row){s:ByteArray}(hs:sum s=0#16)(h2:2<=s.size)(hl:row.length=s.size-2):fp (bP row)=s↔row=(av s).take (s.size-2):=by
 constructor
 ·intro h
  rw[<- h,xZ,uJ _ hb,Hf,jm];simp
 ·intro h
  have e:bP row=s.extract 0 (s.size-2):=by
   apply II;rw[uJ _ hb,tK,awx];exact h
  rw[e];exact(xM s h2).2 hs
theorem ahF{s:ByteArray}{a b:Int}(h2:2<=s.size)(h0:aL s 0=a)(h1:aL s 1=b)(k:Nat):(av s).take (2+k)=a::b::((av s).drop 2).take k:=by
 have hl:2<=(av s).length:=by simp_all
 rw[show 0=((0:Nat):Int)from rfl,tV]at h0;rw[show 1=((1:Nat):Int)from rfl,tV]at h1;rw[axg,show 2=1+1 from rfl,axg,show(av s).take 1=((av s).drop 0).take 1 from rfl,si 0 (by omega),si 1 (by omega),h0,h1];rfl
theorem He(b:ae){c:List Int}(h:bV c):jo b c=(pR b (fG c)&&decide (c.getD 4 0<=63)):=by
 have h5:=gY h 5;have h6:=gY h 6;grind [jo,pR,fG,jl]
theorem Pk(b:ae){l:List Int}(h:bV l):iK b l=(gC b (fh (nc b) l)&&(List.range (nc b)).all λi=>decide ((l.drop (10+19*i)).getD 4 0<=63)):=by
 have k:=gY h 8;have m:=gY h 9;unfold iK gC fh jl;rw[aAu];simp only[au4,adv,azm,ayt,List.length_range,aw0,av9,axp,avr,aBk,List.mem_map,forall_exists_index,and_imp,forall_apply_eq_imp_iff₂,avc];constructor
 ·rintro⟨⟨⟨⟨a,b1⟩,g⟩,j⟩,f⟩
  refine⟨⟨⟨⟨⟨⟨a,k.1,b1⟩,m.1,g⟩,λh=>j.elim (λh2=>absurd h h2) id⟩,trivial⟩,λi hi=> ?_⟩,λi hi=> ?_⟩
  ·have:=f i hi
   rw[He b (iX h _),au4]at this;exact this.1
  ·have:=f i hi
   rw[He b (iX h _),au4,adv]at this;exact this.2
 ·rintro⟨⟨⟨⟨⟨⟨a,_,b1⟩,_,g⟩,j⟩,_⟩,f⟩,o⟩
  refine⟨⟨⟨⟨a,b1⟩,g⟩,?_⟩,λi hi=> ?_⟩
  ·by_cases h0:l.getD 8 0=0
   ·exact Or.inr (j h0)
   ·exact Or.inl h0
  ·rw[He b (iX h _),au4,adv]
   exact⟨f i hi,o i hi⟩
theorem OW{b:ae}{s:ByteArray}(g:fD b s (14+19*dz b) 165=0):(iK b ((av s).drop 2)=true->jT b (fh (nc b) ((av s).drop 2))=(s,0))/\(iK b ((av s).drop 2)=false->((jT b (fh (nc b) ((av s).drop 2))).2≠0\/(jT b (fh (nc b) ((av s).drop 2))).1≠s)):=by
 obtain⟨f,a,h0,h1,hs⟩:=JQ g;obtain⟨h,i,k⟩:=yg f;have a:(s.size:Int)=14+19*(nc b:Int):=a;have a:s.size=14+19*nc b:=by omega
 have hl:bV ((av s).drop 2):=iX (jq s) 2;have j:=agH (Hp ⟨h,i⟩ (fh (nc b) ((av s).drop 2))) hs (by omega) (by rw[xF];show 12+19*((List.range (nc b)).map _).length=_;grind);rw[show s.size-2=2+(10+19*nc b)by omega,ahF (by omega) h0 h1,afZ (dz b) (nc b) hl (by rw[avs,pL];omega)]at j;rw[Pk b hl];unfold jT;simp only[f,avz,axs];cases hi:gC b (fh (nc b) ((av s).drop 2))with
 |false=>simp_all
 |true=>
  simp_all
theorem aeX(b:ae)(hl:b.aK.length<=maxLen)(s:ByteArray):cJ (b,s)=dV b s:=by
 unfold cJ dV;by_cases f:aR b
 ·obtain⟨t,u,j⟩:=yg f
  simp only[HO f (ajn hl f)];have k:qW (b,s,(14+19*dz b),165)=fD b s (14+19*dz b) 165:=Ry b hl s _ _ (λ_=>by omega);rw[k];by_cases a:fD b s (14+19*dz b) 165=0
  ·rw[avf a,a]
   obtain⟨_,g,_⟩:=JQ a;have g:s.size=14+19*(nc b:Int):=g;have g:s.size=14+19*nc b:=by omega
   have hs:s.size<=99000:=by omega
   have w:=gY (jq s) 10;have x:=gY (jq s) 11;have e:(jy (s,b) (0,(wD (s,2)),((i64.wrap (aL s 10)),(i64.wrap (aL s 11))),[])).2=fh (nc b) ((av s).drop 2):=by
    rw[al1 s b _ _ j g,show 2=((2:Nat):Int)from rfl,ahy s 2 (by omega) hs,show 10=((10:Nat):Int)from rfl,show 11=((11:Nat):Int)from rfl,tV,tV,aB (by omega) (by omega),aB (by omega) (by omega)];unfold fh;simp only[IN,getD_drop,awq,Nat.reduceAdd];congr 3
    funext i
    rw[show 12+19*i=2+(10+19*i)by omega]
   simp only[e];have l: ∀c∈(fh (nc b) ((av s).drop 2)).2.2,qD c:=λc m=>by
    obtain⟨i,_,rfl⟩:=List.mem_map.1 m;exact⟨mb (iX (iX (jq s) 2) _) 0,mb (iX (iX (jq s) 2) _) 7⟩
   have o:(fh (nc b) ((av s).drop 2)).2.2.length<=30:=by
    show((List.range (nc b)).map _).length<=30;rw[ayt,List.length_range];omega
   rw[Ko b hl _ o l];obtain⟨h1,h2⟩:=OW a;cases hg:iK b ((av s).drop 2)with
   |true=>
    rw[h1 hg];simp only[axh,Hd,awa,Bool.or_false,auw,azh]
   |false=>
    have:(((jT b (fh (nc b) ((av s).drop 2))).2 !=0)||(!iL (jT b (fh (nc b) ((av s).drop 2))).1 s))=true:=by
     rw[av9,axp];rcases h2 hg with h3|h3
     ·exact Or.inl h3
     ·refine Or.inr ?_
      cases h4:iL (jT b (fh (nc b) ((av s).drop 2))).1 s with
      |false=>rfl
      |true=>exact absurd ((BK _ _).1 h4) h3
    rw[this];rfl
  ·rw[avb a]
   have:(fD b s (14+19*dz b) 165 !=0)=true:=by simpa using a
   rw[this];rfl
 ·simp only[Ry b hl s _ _ (λh=>absurd h f),Ev f]
  rfl
def js(a b:Int):Int:=u32.wrap ((BitVec.ofInt u32.bits a&&&BitVec.ofInt u32.bits b).toNat:Int)
def lp(a b:Int):Int:=u32.wrap ((BitVec.ofInt u32.bits a&&& ~~~BitVec.ofInt u32.bits b).toNat:Int)
theorem acp(v:BitVec 32):u32.wrap v.toNat=v.toNat:=by rw[aw7];omega
theorem Mo(v:BitVec 32):BitVec.ofInt 32 v.toNat=v:=by
 simp_all
theorem asm(v:BitVec 32):ie v.toNat:=⟨by omega,by omega⟩
theorem BB(a b:Int):js a b=((BitVec.ofInt 32 a&&&BitVec.ofInt 32 b).toNat:Int):=acp _
theorem BP(a b:Int):lp a b=((BitVec.ofInt 32 a&&& ~~~BitVec.ofInt 32 b).toNat:Int):=acp _
theorem PQ(a b:Int):ie (js a b):=by grind [BB,asm]
def ja(fl:Int):Int:=u32.wrap ((u32.wrap (1*2^(min ((u64.wrap fl)).toNat u32.bits)))-1)
def wQ(fl:Int):Int:=Int.fdiv (ja fl) (2^(min ((1:Int)).toNat u32.bits))
def zH(fl:Int):Int:=lp (ja fl) 1
theorem ahD:(List.range 31).all (λn=>nA (n+2)==(wQ (n+2),zH (n+2))&&(ja (n+2)==2^(n+2)-1))=true:=by kernel_rfl
theorem Qo{fl:Int}(h:2<=fl/\fl<=32):nA fl=(wQ fl,zH fl)/\ja fl=2^fl.toNat-1:=by
 have:=List.all_eq_true.1 ahD (fl-2).toNat (by grind);grind
theorem agb{b:ae}(a:aR b)(hl:b.aK.length<=maxLen)(c:af):kF b c=((lp c.1 (wQ b.1)==0)&&(lp c.2 (zH b.1)==0)):=by
 unfold kF qP;rw[HN b hl,avf a,(Qo a.fl).1];rfl
theorem ajv(v h:BitVec 32):(v&&&h)&&& ~~~h=0#32:=by
 grind
theorem ag6(a m o:BitVec 32):((a&&&m)&&& ~~~o)&&& ~~~(m&&& ~~~o)=0#32:=by
 grind
theorem ahv(a h:Int):lp (js a h) h=0:=by
 grind [BP,BB,ajv]
theorem af2(a m:Int):lp (lp (js a m) 1) (lp m 1)=0:=by
 rw[BP,BP,BP,BB,Mo,Mo,Mo,ag6];rfl
theorem N9{fl:Int}(h:2<=fl/\fl<=32)(a:Int):js a (ja fl)/2^fl.toNat=0:=by
 rw[BB,(Qo h).2];have e:BitVec.ofInt 32 (2^fl.toNat-1)=BitVec.ofNat 32 (2^fl.toNat-1):=by
  grind
 rw[e];have f:2^fl.toNat<=2^32:=ax8 (by omega) (by omega);have:(BitVec.ofInt 32 a&&&BitVec.ofNat 32 (2^fl.toNat-1)).toNat<2^fl.toNat:=by
  rw[BitVec.toNat_and,BitVec.toNat_ofNat,azl (by omega),aAd];omega
 have g:2^fl.toNat=((2^fl.toNat:Nat):Int):=by simp_all
 exact Int.ediv_eq_zero_of_lt (by omega) (by omega)
theorem ajP{K α ρ:Type} [Inhabited α]{st:K->(List α×Int)->ak K (List α×Int) ρ}{k:K}(f:α->α)(l:List α)(hl:l.length<=1000)
  (a: ∀(i:Nat) (m:List α),m.length=l.length->i<l.length->st k (m,(i:Int))= .next k (m.set i (f (aa m i)),((i+1:Nat):Int))) (hb: ∀m:List α,m.length=l.length->st k (m,(l.length:Int))= .brk k (m,(l.length:Int))) {fuel:Nat} (g:l.length<fuel):
  (endOf st k fuel (l,(0:Int))).1=l.map f:=by
 have hs: ∀i,i<=l.length->((l.take i).map f++l.drop i).length=l.length:=λi hi=>by simp;omega
 have:=(kU (step:=st) (k:=k) (λi=>((l.take i).map f++l.drop i,(i:Int))) l.length (λi hi=>⟨k,by
  try simp only
  rw[a i _ (hs i (by omega)) hi];have h:aa ((l.take i).map f++l.drop i) (i:Int)=l[i]:=by
   rw[cc _ i (by rw[hs i (by omega)];exact hi),ayn (by simp;omega)];simp[aAo (aBu hi)]
  have j:i - ((l.take i).map f).length=0:=by simp;omega
  rw[h,List.set_append_right _ _ (by simp;omega),j,ays,avh hi,av8 hi,List.set_cons_zero];simp only[Option.toList,ax2,axm,List.map_nil,avn,awz,awr]⟩) (k':=k) (y:=(l.map f,(l.length:Int))) (by
  try simp only
  rw[avv (au7 _),ay4 (au7 _),awu];exact hb _ (by simp)) g).1
 have h2:=av7 Prod.fst this;simpa using h2
def vy(b:ae)(c:dY):dY:=
 ((js c.1.1 (ja b.1),c.1.2),(i64.wrap (Int.tmod (u64.wrap c.2.1.1) (u64.wrap b.1)),c.2.1.2.1,i64.wrap (Int.tmod (u64.wrap c.2.1.2.2.1) 3),c.2.1.2.2.2),js c.2.2.1 (ja b.1),c.2.2.2)
theorem Rb{α:Type} [Inhabited α]{l:List α}{i:Nat}(h:i<l.length)(a:α):aa (l.set i a) i=a:=by
 simp_all [cc]
theorem ahr(b:ae)(m:List dY)(i:Nat)(h:i<m.length):CP (ja b.1,b) (m,i)=m.set i (vy b (aa m i)):=by
 unfold CP C1;have a:uM (ja b.1,b) (m,i)=m.set i ((js (aa m i).1.1 (ja b.1),(aa m i).1.2),(aa m i).2.1,js (aa m i).2.2.1 (ja b.1),(aa m i).2.2.2):=by
  unfold uM aH;simp only[awt,aBl,Rb h];rfl
 rw[a];unfold aH;simp only[awt,aBl,Rb h];rfl
theorem PE{α:Type}(l m:List α):(aP l m).length=l.length:=by grind [aP]
def uP(b:ae)(l:List dY):List dY:=(aP (aE ly (nc b:Int)) l).map (vy b)
theorem G0(b:ae)(l:List dY):(uP b l).length=nc b:=by simp_all [uP,aE,PE]
theorem ahU(b:ae)(a:nc b<=8)(l:List dY):(WG (ja b.1,b) ((aP (aE ly (nc b:Int)) l),0)).1=uP b l:=by
 have hl:(aP (aE ly (nc b:Int)) l).length=nc b:=by simp_all [aE,PE]
 refine ajP (vy b) _ (by omega) (λi m hm hi=> ?_) (λm hm=> ?_) (by simp_all [DP])
 ·unfold zb
  have h1:decide ((i:Int)<m.length)=true:=by simp;omega
  simp only[h1,au3];rw[ahr b m i (by omega),show i+1=((i+1:Nat):Int)by omega,iw (by omega)]
 ·unfold zb
  simp[hm]
def nD(x:bm):Int:=i64.wrap (Int.tmod (u64.wrap x.2.1.1) (9:Int))
def sO(b:ae)(x:bm):Int:=if nD x=0 then 0 else i64.wrap (Int.tmod (u64.wrap x.2.1.2) (u64.wrap (nc b:Int)))
def zC(b:ae)(x:bm):bm:=((js (js x.1.1 (ja b.1)) (wQ b.1),lp (js x.1.2 (ja b.1)) 1),(nD x,sO b x),uP b x.2.2)
theorem Hn(b:ae)(a:nc b<=8)(x:bm):mD (b,x)=zC b x:=by
 unfold zC;rw[<- ahU b a];unfold mD sO;by_cases h:nD x=0
 ·have h2:=by simpa using h
  unfold nD at h2⊢;rw[h2];rfl
 ·rw[avb h]
  have h2:(nD x==0)=false:=by simpa using h
  unfold nD at h2⊢;rw[h2];rfl
theorem Ck{n m:Int}(a:0<=n)(h:1<=m/\m<=1000):0<=i64.wrap (Int.tmod n m)/\i64.wrap (Int.tmod n m)<=m-1:=by
 have h1:=aAt n (show m≠0 by omega);have h2:=aA1 n (show 0<m by omega);grind [aB]
theorem D0(n:Int):0<=u64.wrap n:=by grind [IntKind.wrap_u64]
theorem O8{b:ae}(f:aR b)(c:dY):pR b (vy b c)=true/\qD (vy b c):=by
 have a:=f.fl;unfold pR vy iF jl qD;rw[N9 a,N9 a];have e:u64.wrap b.1=b.1:=by grind [IntKind.wrap_u64]
 have h1:=Ck (D0 c.2.1.1) (m:=b.1) (by omega);have h2:=Ck (D0 c.2.1.2.2.1) (m:=3) (by omega);refine⟨?_,PQ _ _,PQ _ _⟩;simp_all
theorem alx{b:ae}(f:aR b)(hl:b.aK.length<=maxLen)(x:bm):gC b (zC b x)=true/\ ∀c∈(zC b x).2.2,qD c:=by
 have a:=f.cn;have a:1<=nc b/\nc b<=8:=a;have g:=Ck (D0 x.2.1.1) (m:=9) (by omega);constructor
 ·unfold gC jl
  simp only[au4,adv,azm,aw0,avr,aBk,avc];refine⟨⟨⟨⟨⟨?_,?_⟩,?_⟩,?_⟩,?_⟩,?_⟩
  ·rw[agb f hl]
   show((lp (js (js x.1.1 (ja b.1)) (wQ b.1)) (wQ b.1)==0)&&(lp (lp (js x.1.2 (ja b.1)) 1) (zH b.1)==0))=true;rw[ahv];unfold zH;rw[af2];rfl
  ·show 0<=nD x/\nD x<=8
   exact g
  ·show 0<=sO b x/\sO b x<=(nc b:Int)-1
   unfold sO;by_cases h:nD x=0
   ·rw[avf h]
    omega
   ·rw[avb h]
    have e:u64.wrap (nc b:Int)=(nc b:Int):=by rw[avy];omega
    rw[e];exact Ck (D0 _) (by omega)
  ·intro h
   have h:nD x=0:=h;show sO b x=0;unfold sO;rw[avf h]
  ·show((uP b x.2.2).length:Int)=(nc b:Int)
   rw[G0]
  ·intro c a
   obtain⟨d,_,rfl⟩:=List.mem_map.1 a;exact(O8 f d).1
 ·intro c a
  obtain⟨d,_,rfl⟩:=List.mem_map.1 a;exact(O8 f d).2
theorem MA{n:Int}(h:ie n):vle (le (u64.wrap n) 4)=n:=by
 grind [ie,IntKind.wrap_u64,KK]
theorem arK{n:Nat}(h:n<2^64):(vle (le n 8)).toNat=n:=by
 grind [KK]
theorem b1{n:Int}(h:0<=n/\n<=255):u8.wrap (u64.wrap n)=n:=by grind [IntKind.wrap_u64,IntKind.wrap_u8]
theorem b1'{n:Int}(h:0<=n/\n<=255):u8.wrap n=n:=by grind [IntKind.wrap_u8]
def AB(c:dY):Prop:=qD c/\(0<=c.2.1.1/\c.2.1.1<=255)/\(0<=c.2.1.2.2.1/\c.2.1.2.2.1<=255)/\c.2.2.2<2^64
theorem agG{c:dY}(h:AB c)(r:List Int):fG (gN c++r)=c:=by
 obtain⟨⟨fl,u,d,o,cl⟩,⟨f,a,i,g⟩,j,ld⟩:=c;obtain⟨⟨h1,h2⟩,h3,h4,h5⟩:=h;have e:fG (gN ((fl,u,d,o,cl),(f,a,i,g),j,ld)++r)=((vle (le (u64.wrap fl) 4),cV (u8.wrap (gF [u,d,o,cl,a,g])) 0,cV (u8.wrap (gF [u,d,o,cl,a,g])) 1,cV (u8.wrap (gF [u,d,o,cl,a,g])) 2,cV (u8.wrap (gF [u,d,o,cl,a,g])) 3),(u8.wrap (u64.wrap f),cV (u8.wrap (gF [u,d,o,cl,a,g])) 4,u8.wrap (u64.wrap i),cV (u8.wrap (gF [u,d,o,cl,a,g])) 5),vle (le (u64.wrap j) 4),(vle (le ld 8)).toNat):=rfl;grind [arE,MA,arK,b1,b1']
theorem Tt{α:Type}{f:α->List Int}{k:Nat}(a: ∀c,(f c).length=k): ∀(xs:List α) (i:Nat) (h:i<xs.length) (t:List Int),∃r,(xs.flatMap f++t).drop (k*i)=f xs[i]++r
 |x::xs,0,h,t=>⟨xs.flatMap f++t,by simp⟩
 |x::xs,i+1,h,t=>by
  obtain⟨r,hr⟩:=Tt a xs i (by simp_all) t;refine⟨r,?_⟩;rw[ayu,avn,show k*(i+1)=(f x).length+k*i by grind,List.drop_length_add_append,hr];rfl
theorem ajE(n:Int)(x:bm)(a:ie x.1.1/\ie x.1.2)(f:0<=x.2.1.1/\x.2.1.1<=255)(g:0<=x.2.1.2/\x.2.1.2<=255)(h: ∀c∈x.2.2,AB c)(t:List Int):fh x.2.2.length ((gJ n x++t).drop 2)=x:=by
 obtain⟨⟨u,d⟩,⟨k,c⟩,aK⟩:=x;simp only at a f g h;have e:(gJ n ((u,d),(k,c),aK)++t).drop 2=(ce (u,d)++le (u64.wrap k) 1++le (u64.wrap c) 1)++(aK.flatMap gN++t):=by
  unfold gJ;simp only[avn,awz,awr];rfl
 rw[e];unfold fh;have j:n4 ((ce (u,d)++le (u64.wrap k) 1++le (u64.wrap c) 1)++(aK.flatMap gN++t)) 0=vle (le (u64.wrap u) 4):=rfl;have l:n4 ((ce (u,d)++le (u64.wrap k) 1++le (u64.wrap c) 1)++(aK.flatMap gN++t)) 4=vle (le (u64.wrap d) 4):=rfl;have m:((ce (u,d)++le (u64.wrap k) 1++le (u64.wrap c) 1)++(aK.flatMap gN++t)).getD 8 0=u8.wrap (u64.wrap k):=rfl;have o:((ce (u,d)++le (u64.wrap k) 1++le (u64.wrap c) 1)++(aK.flatMap gN++t)).getD 9 0=u8.wrap (u64.wrap c):=rfl;rw[j,l,m,o,MA a.1,MA a.2,b1 f,b1 g];congr 2
 apply ay0
 ·simp
 ·intro i h1 h2
  rw[List.getElem_map,List.getElem_range];have h2:i<aK.length:=h2;obtain⟨r,hr⟩:=Tt QR aK i h2 t;have s:((ce (u,d)++le (u64.wrap k) 1++le (u64.wrap c) 1)++(aK.flatMap gN++t)).drop (10+19*i)=gN aK[i]++r:=by
   rw[show 10+19*i=(ce (u,d)++le (u64.wrap k) 1++le (u64.wrap c) 1).length+19*i by simp[nm,fT],List.drop_length_add_append,hr]
  rw[s,agG (h _ (ayj h2))]
theorem aiR(row:List Int)(hb:bV row)(i:Nat)(h:i<row.length):aL (fp (bP row)) i=row.getD i 0:=by
 rw[tV,xZ,uJ _ hb,ave,ave,aw8 h]
theorem xY{b:ae}{x:bm}(h:gC b x=true):x.2.2.length=nc b:=by
 unfold gC at h;grind
theorem akB{b:ae}(f:aR b){row:List Int}(hb:bV row)(a z:Int)(h2:2<=row.length)(h0:row.getD 0 0=a)(h1:row.getD 1 0=dz b)(g:row.length+2=z):fD b (fp (bP row)) z a=0:=by
 unfold fD;rw[avb (by simp_all),avb,avb,avb];all_goals grind [Qc,aiR,Hf,jm]
theorem ale{b:ae}(a:aR b){x:bm}(hl:x.2.2.length=nc b):fD b (fp (bP (gJ (dz b) x))) (14+19*dz b) 165=0:=by
 obtain⟨f,g,h⟩:=yg a;refine akB a (Hp ⟨f,g⟩ x) _ _ (by grind [xF]) rfl rfl ?_;rw[xF,hl];grind
theorem agd{b:ae}(f:aR b){x:bm}(a:gC b x=true)(j:ie x.1.1/\ie x.1.2)(k: ∀c∈x.2.2,AB c):dV b (fp (bP (gJ (dz b) x)))=(x,0):=by
 obtain⟨l,m,s⟩:=yg f;have hl:=xY a;have h:=ale f hl;have i:(0<=x.2.1.1/\x.2.1.1<=255)/\(0<=x.2.1.2/\x.2.1.2<=255):=by
  unfold gC jl at a;simp only[au4,adv]at a;obtain⟨⟨⟨⟨⟨_,h1⟩,h2⟩,_⟩,_⟩,_⟩:=a;have h2:0<=x.2.1.2/\x.2.1.2<=(nc b:Int)-1:=h2;omega
 have e:fh (nc b) ((av (fp (bP (gJ (dz b) x)))).drop 2)=x:=by
  rw[xZ,uJ _ (Hp ⟨l,m⟩ x),<- hl];exact ajE _ x j i.1 i.2 k _
 have g:iK b ((av (fp (bP (gJ (dz b) x)))).drop 2)=true:=by
  cases g:iK b ((av (fp (bP (gJ (dz b) x)))).drop 2)with
  |true=>rfl
  |false=>
   exfalso;have:=(OW h).2 g;rw[e]at this;have o:jT b x=(fp (bP (gJ (dz b) x)),0):=by unfold jT;simp only[f,a,avz,Bool.and_self,au3]
   rw[o]at this;simp at this
 unfold dV;rw[avf h,avf g,e]
section
def W(x:Int):Prop:=0<=x/\x<4294967296
def bit(x:Int)(i:Nat):Bool:=x.toNat.testBit i
theorem W.ext{x y:Int}(a:W x)(f:W y)(h: ∀i,i<32->bit x i=bit y i):x=y:=by
 have g:=by
  apply aAk;intro i;by_cases hi:i<32
  ·exact h i hi
  ·rw[ay5 (ava (show x.toNat<2^32 by have:=a.2;omega) (ax8 (by omega) (by omega))),
    ay5 (ava (show y.toNat<2^32 by have:=f.2;omega) (ax8 (by omega) (by omega)))]
 have:=a.1;have:=f.1;omega
theorem W.zero:W 0:=by simp_all [W]
theorem aht(i:Nat):bit 0 i=false:=by simp[bit]
theorem wrap32(v:BitVec 32):u32.wrap v.toNat=v.toNat:=by have:=v.isLt;grind [IntKind.wrap_u32]
theorem Nh(v:BitVec 32):W v.toNat:=by have:=v.isLt;grind [W]
theorem amH(v:BitVec 32)(i:Nat):bit v.toNat i=v.getLsbD i:=by simp[bit,BitVec.testBit_toNat]
theorem UF{x:Int}(a:0<=x)(i:Nat)(hi:i<32):(BitVec.ofInt 32 x).getLsbD i=bit x i:=by
 grind [bit,BitVec.getLsbD_ofNat]
section
variable {x y:Int}
abbrev zT(x y:Int):Int:=u32.wrap ((BitVec.ofInt u32.bits x&&&BitVec.ofInt u32.bits y).toNat:Int)
abbrev FX(x y:Int):Int:=u32.wrap ((BitVec.ofInt u32.bits x|||BitVec.ofInt u32.bits y).toNat:Int)
abbrev KC(x y:Int):Int:=u32.wrap ((BitVec.ofInt u32.bits x&&& ~~~BitVec.ofInt u32.bits y).toNat:Int)
abbrev KQ(x k:Int):Int:=u32.wrap (x*2^(min k.toNat u32.bits))
theorem zF(x y:Int):W (zT x y):=by show W (u32.wrap ((BitVec.ofInt 32 x&&&BitVec.ofInt 32 y).toNat:Int));grind [wrap32,Nh]
theorem qG(x y:Int):W (FX x y):=by show W (u32.wrap ((BitVec.ofInt 32 x|||BitVec.ofInt 32 y).toNat:Int));grind [wrap32,Nh]
theorem UW(x y:Int):W (KC x y):=by show W (u32.wrap ((BitVec.ofInt 32 x&&& ~~~BitVec.ofInt 32 y).toNat:Int));grind [wrap32,Nh]
theorem sv(x:Int):W (u32.wrap x):=by grind [W,IntKind.wrap_u32]
theorem W.lo{x:Int}(h:W x):0<=x:=h.1
theorem W.hi{x:Int}(h:W x):x<=4294967295:=by have:=h.2;omega
theorem akW(a:0<=x)(f:0<=y)(i:Nat)(hi:i<32):bit (zT x y) i=(bit x i&&bit y i):=by
 show bit (u32.wrap ((BitVec.ofInt 32 x&&&BitVec.ofInt 32 y).toNat:Int)) i=_;grind [wrap32,amH,UF]
theorem aj7(x k:Nat):KQ x k=((x*2^min k 32 % 4294967296:Nat):Int):=by
 show u32.wrap (x*2^(min (k:Int).toNat 32))=_;rw[aw7,awt];simp_all
theorem akq(a:0<=x)(k:Nat)(i:Nat)(hi:i<32):bit (KQ x k) i=(decide (k<=i)&&bit x (i-k)):=by
 obtain⟨n,rfl⟩:=aw1 a;rw[aj7];simp only[bit,awt];rw[show 4294967296=2^32 from rfl,Nat.testBit_mod_two_pow,az0];grind
theorem ajY(k i:Nat)(hi:i<32):bit (KQ 1 k) i=decide (i=k):=by
 rw[akq (by omega) k i hi];have h1:bit 1 (i-k)=decide (i-k=0):=by
  show Nat.testBit 1 (i-k)=_;by_cases h0:i-k=0
  ·simp_all
  ·have:Nat.testBit 1 (i-k)=false:=by
    cases h:Nat.testBit 1 (i-k)with
    |false=>rfl
    |true=>exact absurd (Nat.testBit_one_eq_true_iff_self_eq_zero.1 h) h0
   rw[this];simpa using h0
 by_cases h:i=k<;>by_cases h2:k<=i<;>simp_all<;>omega
end
theorem ahX:Lib.pop8tab.size=256:=Lib.pop8tab_size
theorem ahm:Lib.len8tab.size=256:=Lib.len8tab_size
theorem aju(x y:Nat)(a:x<4294967296)(f:y<4294967296):zT x y=((x&&&y:Nat):Int):=by
 have h:x&&&y<4294967296:=Nat.lt_of_le_of_lt Nat.and_le_left a;refine W.ext (zF _ _) (by grind [W]) λi hi=> ?_
 rw[akW (by omega) (by omega) i hi];simp[bit]
theorem akV(a:Int)(h0:0<=a)(h1:a<4294967296):zT a 255=a % 256:=by
 obtain⟨n,rfl⟩:=aw1 h0;rw[show 255=((255:Nat):Int)from rfl,aju n 255 (by omega) (by omega),aAd n 8];omega
theorem Nd(a:Int)(h0:0<=a)(h1:a<4294967296):u32.wrap ((BitVec.ofInt u32.bits a&&&BitVec.ofInt u32.bits 255).toNat:Int)=a % 256:=akV a h0 h1
theorem d24(x:Int):Int.fdiv x (2^(min ((24:Int)).toNat u32.bits))=x/16777216:=awy _ (by decide)
theorem d16(x:Int):Int.fdiv x (2^(min ((16:Int)).toNat u32.bits))=x/65536:=awy _ (by decide)
theorem d8(x:Int):Int.fdiv x (2^(min ((8:Int)).toNat u32.bits))=x/256:=awy _ (by decide)
theorem d27(x:Int):Int.fdiv x (2^(min ((27:Int)).toNat u32.bits))=x/134217728:=awy _ (by decide)
end

def FE(x:ax):=x.2.2==1&&iG (0,i64.wrap (x.1-2),[x.2.1])||x.2.2==2&&iG (1,i64.wrap (x.1-1),[x.2.1])
def Al(x:Int):Bool:=
 (x !=x)
def CN(k:Int×(List Int)×Int)(x:Int):Prop:=0<=x/\k.2.2=k.2.1.length
def Da(k:(Int×(List Int)×Int))(x:(Int)):Nat:=(k.2.2-x).toNat
def uC(k:Int×(List Int)×Int)(x:Int):=bif x<k.2.2 then bif aa k.2.1 x !=k.1 then ak.ret (aa k.2.1 x)else ak.next k (i64.wrap (x+1))else ak.brk k x
def UX k x:=bd uC k (Nat.succ (Da k x)) x
def qw(x:List Int):=dq (UX (0,x,x.length) 0) (λy=>y) 0
def sN(x:Int×Int×(List (aO))×Int):=((),x.2.2.1++ [(x.1,0,0,x.2.2.2,x.2.1)],x.2.2.2)
def oy(x:Int×Int×(List (aO))×Int):Prop:=x.2.2.1.length<=100000
def tj(x:Bool):Int:=bif x then 1 else 0
def qC(x:Int×Int×Int×(List (aO))×et):=letI a:=x.2.2.2;((),a.1++ [(x.1,a.2.1,a.2.2.1,x.2.1,x.2.2.1)],a.2)
def oq(x:Int×Int×Int×(List (aO))×et):Prop:=x.2.2.2.1.length<=100000
def oO(x:ax):=x.1>=x.2.1&&x.1<=x.2.2
def yH(k:(Unit))(x:(af)):Prop:=(0:Int)<=x.2
def IQ(k:Unit)(x:af):=(8-x.2).toNat
def I2(k:Unit)(x:af):ak Unit (af) Int:=bif x.2<8 then .next () (u8.wrap ((BitVec.ofInt u8.bits (u8.wrap (x.1*2^min (1:Int).toNat u8.bits))^^^BitVec.ofInt u8.bits (u8.wrap (Int.fdiv x.1 (2^min (7:Int).toNat u8.bits)*7))).toNat),i64.wrap (x.2+1))else .brk () x
def al8 k x:=endOf I2 k (Nat.succ (IQ k x)) x
def Dg(k:dW)(x:af):Prop:=0<=x.2/\k.2=k.1.size/\k.1.size<=200
def I0(k:(dW))(x:(af)):Nat:=(k.2-x.2).toNat
def JF(k:dW)(x:af):ak (dW) (af) Int:=bif x.2<k.2 then .next k ((al8 () (u8.wrap ((BitVec.ofInt u8.bits x.1^^^BitVec.ofInt u8.bits (aL k.1 x.2)).toNat),0)).1,i64.wrap (x.2+1))else .brk k x
def alD k x:=endOf JF k (Nat.succ (I0 k x)) x
def As(x:ByteArray):=(alD (x,x.size) (0,0)).1
def vt(x:ByteArray):Prop:=x.size<=200
def abh(x:((eY)×Int)×Int):=((),((bif x.2==0 then ByteArray.mk #[]else x.1.1.1,bif x.2==1 then ByteArray.mk #[]else x.1.1.2),x.1.2),x.2)
def J6(x:((eY)×Int)×Int):Prop:=0<=x.2/\x.2<2
def eA(x:Int×(eY)×Int):=x.1>=1&&x.1<=65536&&x.2.1.1.size<=x.1&&x.2.1.2.size<=x.1&&(x.2.2==0||x.2.2==1)
def ia(x:af):=letI a:=u32.wrap (1*2^min x.1.toNat u32.bits);letI b:=(0,0);bif x.1>=0&&x.1<32 then bif x.2==1 then(a,0)else bif x.2==2 then(0,a)else b else b
def dG(x:(af)×af):=(u32.wrap ((BitVec.ofInt u32.bits x.1.1&&&BitVec.ofInt u32.bits x.2.1).toNat),u32.wrap ((BitVec.ofInt u32.bits x.1.2&&&BitVec.ofInt u32.bits x.2.2).toNat))
def fc(x:(eY)×Int):=bif x.2==1 then x.1.2 else x.1.1
def je(z:List (Nat×List Nat)):=dB (mU true) jO cY Td z
def V5:Ct:=⟨Ty.pair ab (Ty.pair ab ab),[none,none,none],aw,ah.one none,none,none,FE⟩
def WY:Ct:=⟨ab,[none],aw,ah.one none,none,none,Al⟩
def Ma:Ct:=⟨cX,[none],ab,ah.one none,none,none,qw⟩
def LC:Cv:=letI a:=Ty.pair dF ab;⟨Ty.pair ab (Ty.pair ab a),[none,none],[.v,.v,.p,.p],[1,1],false,[(2,true,213)],a,Ty.unit,ah.none,[(0,true,213)],some oy,sN,false⟩
def X7:Ct:=⟨aw,[none],ab,ah.one none,none,none,tj⟩
def LY:Cv:=letI a:=Ty.pair dF dP;⟨Ty.pair ab (Ty.pair ab (Ty.pair ab a)),[none,none,none],[.v,.v,.v,.p,.p],[1,5],false,[(3,true,213)],a,Ty.unit,ah.none,[(0,true,213)],some oq,qC,false⟩
def Xn:Ct:=⟨Ty.pair ab (Ty.pair ab ab),[none,none,none],aw,ah.one none,none,none,oO⟩
def E5:Ct:=⟨bK,[none],bB,ah.one none,some vt,none,As⟩
def Yj:Cp:=letI a:=Ty.pair eu ab;⟨a,[],[true,true],[3,1],false,false,a,Ty.unit,ah.none,some J6,abh,none,undef⟩
def M5:Ct:=⟨Ty.pair ab eu,[none,some 3],aw,ah.one none,none,none,eA⟩
def Z9:Ct:=⟨Ty.pair ab ab,[none,none],aU,ah.one (some 2),none,none,ia⟩
def Xi:Ct:=⟨Ty.pair aU aU,[some 2,some 2],aU,ah.one (some 2),none,none,dG⟩
def Z5:Ct:=⟨eu,[some 3],bK,ah.one none,none,none,fc⟩
theorem anU:an 142 V5:=ao (je []) func142 [] l0 (λ_ _ _=>tr)
theorem apt:an 196 WY:=ao (je []) func196 [] l0 (λ_ _ _=>tr)
def Rk:LS ab.den:=aD (Ty.pair ab (Ty.pair cX ab)) ab [(3,none),(6,none),(7,none)] [] [(8,none)] [] [] [] [] 0 true CN uC Da
theorem aiS:bu f143 Ma [0] Rk:=have E:=ai @CN.eq_1<|ai @Da.eq_1<|ai @uC.eq_1 SN;lA (je []) [] l0 (λk x fk fx h=>sm (decide (x<k.2.2)=true->0<=x/\x<k.2.1.length))
theorem anb:an 143 Ma:=have E:=ai @CN.eq_1 SN;ao (je []) func143 [(3,Rk)] (lc aiS l0) (λx fx _=>sl (CN (0,x,x.length) 0))
theorem aop:dL 186 LC:=have E:=ai @oy.eq_1 SN;dU (je []) func186 [] l0 (sp λx fx h=>sl (letI a:=aO;letI b:=([(x.1,0,0,x.2.2.2,x.2.1)]:List a);letI c:=(x.2.2.1:List a);(List.length c+List.length b)*40<=140737488355328/\List.length c+List.length b<=4611686018427387903))
theorem arl:an 187 X7:=ao (je []) func187 [] l0 (λ_ _ _=>tr)
theorem am7:dL 188 LY:=have E:=ai @oq.eq_1 SN;dU (je []) func188 [] l0 (sp λx fx h=>sl (letI a:=aO;letI b:=([(x.1,x.2.2.2.2.1,x.2.2.2.2.2.1,x.2.1,x.2.2.1)]:List a);letI c:=(x.2.2.2.1:List a);(List.length c+List.length b)*40<=140737488355328/\List.length c+List.length b<=4611686018427387903))
theorem apN:an 232 Xn:=ao (je []) func232 [] l0 (λ_ _ _=>tr)
def I5:LS bB.den:=aD Ty.unit (Ty.pair bB ab) [] [] [(3,none),(16,none)] [] [] [] [] 2 false yH I2 IQ
def Sz:LS bB.den:=aD (Ty.pair bK ab) (Ty.pair bB ab) [(0,none),(7,none)] [] [(3,none),(8,none)] [] [] [] [] 0 false Dg JF I0
theorem ai9:bu f190 E5 [0,0] I5:=have E:=ai @yH.eq_1<|ai @IQ.eq_1<|ai @I2.eq_1 SN;lA (je []) [] l0 (λk x fk fx h=>sm (decide (x.2<8)=true->0<=(7:Int)/\0<=(1:Int)))
theorem akA:bu f190 E5 [0] Sz:=have E:=ai @Dg.eq_1<|ai @I0.eq_1<|ai @JF.eq_1<|ai @yH.eq_1 SN;lA (je []) [(7,I5)] (lc ai9 l0) (λk x fk fx h=>sm (decide (x.2<k.2)=true->(0<=x.2/\x.2<k.1.size)/\yH () (u8.wrap ((BitVec.ofInt u8.bits x.1^^^BitVec.ofInt u8.bits (aL k.1 x.2)).toNat),0)))
theorem apy:an 190 E5:=have E:=ai @yH.eq_1<|ai @Dg.eq_1<|ai @vt.eq_1 SN;ao (je []) func190 [(7,I5),(3,Sz)] (lc akA l0) (sp λx fx h=>sl (Dg (x,x.size) (0,0)))
theorem aq4:jM 193 Yj:=have E:=ai @J6.eq_1 SN;qQ (je []) func193 [] l0 (wM λx fx h=>sl (0<=x.2/\x.2<2))
theorem ac8:an 54 M5:=ao (je []) func54 [] l0 (λ_ _ _=>tr)
theorem ap0:an 180 Z9:=have E:=SN;ao (je []) func180 [] l0 (λx fx _=>sl ((x.1>=0&&x.1<32)=true->((x.2==1)=true->0<=x.1)/\((x.2==1)=false->(x.2==2)=true->0<=x.1)))
theorem apo:an 155 Xi:=ao (je []) func155 [] l0 (λ_ _ _=>tr)
theorem anz:an 118 Z5:=ao (je []) func118 [] l0 (λ_ _ _=>tr)
def acu(nw:Bool):=(186,.pv LC)::(188,.pv LY)::aan nw
theorem Ij(nw:Bool):ga (acu nw):=zc (z:= .pv LC) aop func186 (zc (z:= .pv LY) am7 func188 ((mU nw)))
def acY:=(193,Yj)::Aa
theorem uh:ic acY:=pc aq4 func193 (jO)
def acq:=(142,V5)::(196,WY)::(143,Ma)::(187,X7)::(232,Xn)::(190,E5)::(54,M5)::(180,Z9)::(155,Xi)::(118,Z5)::ab4
theorem Tk:cr acq:=gc anU func142 (gc apt func196 (gc anb func143 (gc arl func187 (gc apN func232 (gc apy func190 (gc ac8 func54 (gc ap0 func180 (gc apo func155 (gc anz func118 (Td))))))))))
def nJ(x:ae×af):=bZ x.1==0&&FE (x.1.1,x.2)
def kM(x:af):=bif Al x.1 then bif Al x.2 then 0 else -1 else bif Al x.2 then 1 else bif x.1<x.2 then -1 else bif x.1>x.2 then 1 else 0
def nH(x:Int×((eY)×Int)×af):Int:=letI a:=x.2.2.1 !=0&&x.2.2.1 !=1;bif !eA (x.1,x.2.1)then 1 else bif a then bif a then 2 else 0 else bif x.2.2.2<0 then 2 else 0
def gg(x:(af)×af):=letI a:=dG (x.1,ia x.2); !(a.1==0&&a.2==0)
def FU(z:List (Nat×List Nat)):=dB (Ij true) uh cY Tk z
def Yz:Ct:=⟨Ty.pair az (Ty.pair ab ab),[some 8,none,none],aw,ah.one none,none,none,nJ⟩
def X6:Ct:=⟨Ty.pair ab ab,[none,none],ab,ah.one none,none,none,kM⟩
def YB:Ct:=⟨Ty.pair ab (Ty.pair eu (Ty.pair ab ab)),[none,some 3,none,none],bI,ah.one none,none,none,nH⟩
def EZ:Ct:=⟨Ty.pair aU (Ty.pair ab ab),[some 2,none,none],aw,ah.one none,none,none,gg⟩
theorem aqU:an 106 Yz:=ao (FU []) func106 [] l0 (λ_ _ _=>tr)
theorem aqQ:an 144 X6:=ao (FU []) func144 [] l0 (λ_ _ _=>tr)
theorem arc:an 194 YB:=ao (FU []) func194 [] l0 (λ_ _ _=>tr)
theorem YF:an 153 EZ:=ao (FU []) func153 [] l0 (λ_ _ _=>tr)
def abk:=(106,Yz)::(144,X6)::(194,YB)::(153,EZ)::acq
theorem Tq:cr abk:=gc aqU func106 (gc aqQ func144 (gc arc func194 (gc YF func153 (Tk))))
theorem mN(room:Int)(s:(eY)×Int):eA (room,s)=true↔1<=room/\room<=65536/\s.1.1.size<=room/\s.1.2.size<=room/\(s.2=0\/s.2=1):=by
 grind [eA]
theorem chk{x:Int×((eY)×Int)×af}(h:(nH x !=0)=false):
  1<=x.1/\x.1<=65536/\x.2.1.1.1.size<=x.1/\x.2.1.1.2.size<=x.1/\(x.2.1.2=0\/x.2.1.2=1)/\(x.2.2.1=0\/x.2.2.1=1)/\0<=x.2.2.2:=by
 grind [nH,eA]
theorem agp{a b:ByteArray}{i r:Int}(hi:i=0\/i=1)(f:a.size<=r)(hb:b.size<=r):((aa [a,b] i).size:Int)<=r:=by
 rcases hi with rfl|rfl
 ·exact f
 ·exact hb
theorem agW{a b:Int}(h5:a=0\/a=1)(h:b=a):0<=b/\b<2:=by omega
def lJ(x:ae×et):=letI a:=x.2.2.2;nJ (x.1,x.2.1,x.2.2.1)&&a.1>= -2&&a.1<x.1.2.2.2.2.2.2.2.length&&a.2.1>=0&&a.2.1<=255
def lz(x:(et)×et):=qw [kM (x.1.1,x.2.1),kM (x.1.2.1,x.2.2.1)]
def jc(x:ae×aO):=letI e:=x.2.2.2;letI g:=i64.wrap (x.1.2.2.2.2.2.2.2.length-1);letI a:=x.2.2.1==0&&e.1==0&&oO (e.2.1,0,g);letI c:=a&&oO (e.2.2,0,1);letI i:=nJ (x.1,x.2.2.1,e.1);letI d:=i&&oO (e.2.1,0,1)&&oO (e.2.2,0,255);letI j:=x.2.1;letI h:=j==5;letI l:=a&&oO (e.2.2,0,4);letI m:=bif h then c else false;letI n:=e.2.2==0;letI b:=i&&oO (e.2.1,-2,g)&&n;letI f:=i&&e.2.1==0&&n;letI o:=j==1;letI p:=j==3;letI q:=j==7;letI r:=j==4;letI s:=j==6;bif bZ x.1 !=0 then false else bif o then bif o then f else bif p then b else bif q then d else bif r then l else bif h then m else bif s then c else false else bif j==2 then f else bif p then b else bif q then d else bif r then l else bif h then m else bif s then c else false
def MT(x:Int×((eY)×Int)×ax):=letI a:=x.2.2.2;letI b:=nH (x.1,x.2.1,x.2.2.1,a.1);letI c:=abh (x.2.1,a.2);bif b !=0 then((((ByteArray.empty,ByteArray.empty),0),0,b),a.2)else bif a.1==0 then((x.2.1,0,8),a.2)else((c.2.1,i64.wrap (a.1-1),0),c.2.2)
def Vt(x:Int×((eY)×Int)×ax):Prop:=x.2.2.2.2=x.2.2.1
def qo(x:Int×((eY)×Int)×Int×dW):=letI c:=x.2.2;letI d:=((ByteArray.empty,ByteArray.empty),0);letI e:=c.2.1.size;letI f:=x.2.1;letI a:=aa [f.1.1,f.1.2] c.1;letI b:=dA a (ByteArray.extract c.2.1 (Int.toNat 0) (Int.toNat c.2.2));letI g:=nH (x.1,f,c.1,c.2.2);letI h:=c.1==0;letI i:=c.1==1;letI j:=dA a c.2.1;bif g !=0 then(d,0,g)else bif e>i64.wrap (x.1-a.size)then(d,0,7)else bif c.2.2<e then(((bif h then b else f.1.1,bif i then b else f.1.2),f.2),0,8)else(((bif h then j else f.1.1,bif i then j else f.1.2),f.2),i64.wrap (c.2.2-e),0)
def AH(z:List (Nat×List Nat)):=dB (Ij true) uh cY Tq z
def XJ:Ct:=⟨Ty.pair az dP,[some 8,some 5],aw,ah.one none,none,none,lJ⟩
def YW:Ct:=⟨Ty.pair dP dP,[some 5,some 5],ab,ah.one none,none,none,lz⟩
def Xd:Ct:=⟨Ty.pair az jx,[some 8,some 5],aw,ah.one none,none,none,jc⟩
def LU:Cv:=⟨Ty.pair ab (Ty.pair eu (Ty.pair ab (Ty.pair ab ab))),[none,some 3,none,none],[.v,.v,.v,.v,.c 193 1],[1],false,[],ab,Ty.pair eu (Ty.pair ab bI),ah.tup [some 3,none,none],[],some Vt,MT,false⟩
def L7:Ct:=⟨Ty.pair ab (Ty.pair eu (Ty.pair ab (Ty.pair bK ab))),[none,some 3,none,none,none],Ty.pair eu (Ty.pair ab bI),ah.tup [some 3,none,none],none,none,qo⟩
theorem anj:an 139 XJ:=ao (AH []) func139 [] l0 (λ_ _ _=>tr)
theorem Ze:an 140 YW:=ao (AH []) func140 [] l0 (λ_ _ _=>tr)
theorem aqf:an 189 Xd:=ao (AH []) func189 [] l0 (λ_ _ _=>tr)
theorem aoF:dL 192 LU:=dU (AH []) func192 [] l0 (sp λx fx h=>sl ((nH (x.1,x.2.1,x.2.2.1,x.2.2.2.1) !=0)=false->(x.2.2.2.1==0)=false->J6 (x.2.1,x.2.2.2.2)) (by
 try dsimp only[Ty.den]at*
 intro h1 _;obtain⟨_,_,_,_,_,h5,_⟩:=chk h1;exact agW h5 h))
theorem XX:an 136 L7:=ao (AH []) func136 [] l0 (λx fx _=>sl (letI d:=x.2.2;letI a:=0<=d.1/\d.1<(2:Int);letI b:=aa [x.2.1.1.1,x.2.1.1.2] d.1;letI c:=(d.2.1.size:Int);letI e:=((ByteArray.size b:Nat):Int);letI f:=d.2.2;letI g:=decide (f<c);(nH (x.1,x.2.1,d.1,f) !=(0:Int))=false->(a/\(decide (c>i64.wrap (x.1 - (b.size:Int)))=false->((g=true->(a/\((0<=(0:Int)/\0<=f/\f<=c)/\e+((ByteArray.size (ByteArray.extract d.2.1 (Int.toNat 0) (Int.toNat f))))<=9223372036854775807/\a)))/\(g=false->a/\e+((ByteArray.size d.2.1))<=9223372036854775807/\a))))) (by
 try dsimp only[Ty.den]at*
 intro h1;obtain⟨k1,k2,k3,k4,_,k5,k6⟩:=chk h1;simp only at k1 k2 k3 k4 k5 k6;have hz:=agp k5 k3 k4;have hx:(ByteArray.extract x.2.2.2.1 (Int.toNat (0:Int)) (Int.toNat x.2.2.2.2)).size<=x.2.2.2.1.size:=by rw[extract_size];omega
 have hw:i64.wrap (x.1 - ((aa [x.2.1.1.1,x.2.1.1.2] x.2.2.1).size:Int))=x.1 - ((aa [x.2.1.1.1,x.2.1.1.2] x.2.2.1).size:Int):=aB (by omega) (by omega);rw[hw];refine⟨by omega,λh2=> ?_⟩;rw[au0]at h2;refine⟨λh3=> ?_,λh3=> ?_⟩
 ·rw[adv]at h3
  exact⟨by omega,by omega,by omega,by omega⟩
 ·exact⟨by omega,by omega,by omega⟩))
def abt(nw:Bool):=(192,.pv LU)::acu nw
theorem xQ(nw:Bool):ga (abt nw):=zc (z:= .pv LU) aoF func192 ((Ij nw))
def acr:=(139,XJ)::(140,YW)::(189,Xd)::(136,L7)::abk
theorem Sx:cr acr:=gc anj func139 (gc Ze func140 (gc aqf func189 (gc XX func136 (Tq))))
def Cz(k:(List Int)×Int)(x:Int):Prop:=0<=x/\k.2=k.1.length
def CS(k:((List Int)×Int))(x:(Int)):Nat:=(k.2-x).toNat
def rP(k:(List Int)×Int)(x:Int):=bif x<k.2 then bif aa k.1 x<0||aa k.1 x>4 then ak.ret false else ak.next k (i64.wrap (x+1))else ak.brk k x
def Eh k x:=bd rP k (Nat.succ (CS k x)) x
def Cn(k:(List (et))×Int×ae×(List Int)×(List Bool)×(List Bool)×List (et))(x:Int):Prop:=0<=x/\k.2.1=k.1.length/\k.1.length=k.2.2.2.2.2.2.length
def Cf(k:((List (et))×Int×(ae)×(List Int)×(List Bool)×(List Bool)×List (et)))(x:(Int)):Nat:=(k.2.1-x).toNat
def mY(k:(List (et))×Int×ae×(List Int)×(List Bool)×(List Bool)×List (et))(x:Int):=bif x<k.2.1 then bif !lJ (k.2.2.1,aa k.1 x)||x>0&&lz (aa k.2.2.2.2.2.2 (i64.wrap (x-1)),aa k.1 x)>=0 then ak.ret false else ak.next k (i64.wrap (x+1))else ak.brk k x
def RO k x:=bd mY k (Nat.succ (Cf k x)) x
def cL(x:ae×(List Int)×(List Bool)×(List Bool)×List (et)):=letI a:=(x.1.2.2.2.2.2.2.2.length:Int);letI b:=x.2.1.length;bif bZ x.1 !=0||b !=a||x.2.2.1.length !=a||x.2.2.2.1.length !=a then false else dq (Eh (x.2.1,b) 0) (λy=>y) (dq (RO (x.2.2.2.2,x.2.2.2.2.length,x) 0) (λy=>y) true)
def my(x:ae×aO):dW:=letI a:=bP [u8.wrap x.2.1,u8.wrap x.2.2.1,u8.wrap x.2.2.2.1,u8.wrap (i64.wrap (x.2.2.2.2.1+2)),u8.wrap x.2.2.2.2.2];bif !jc x then(ByteArray.mk #[],1)else(dA a (bP [As a]),0)
def Ao(x:Int×((eY)×Int)×af):=(MT (x.1,x.2.1,x.2.2.1,x.2.2.2,x.2.2.1)).1
def Ai(z:List (Nat×List Nat)):=dB (xQ true) uh cY Sx z
def zQ:Ct:=⟨Ty.pair az bO,[some 8,some 4],aw,ah.one none,none,none,cL⟩
def KW:Ct:=⟨Ty.pair az jx,[some 8,some 5],Ty.pair bK bI,ah.tup [none,none],none,none,my⟩
def LM:Ct:=⟨Ty.pair ab (Ty.pair eu (Ty.pair ab ab)),[none,some 3,none,none],Ty.pair eu (Ty.pair ab bI),ah.tup [some 3,none,none],none,none,Ao⟩
def Je:LS aw.den:=aD (Ty.pair cX ab) ab [(38,none),(39,none)] [] [(40,none)] [] [] [] [] 0 true Cz rP CS
def P1:LS aw.den:=aD (Ty.pair dg (Ty.pair ab (Ty.pair az bO))) ab [(52,none),(53,none)] [(2,8),(3,4)] [(54,none)] [] [] [] [(2,2),(3,3)] 2 true Cn mY Cf
theorem aj8:bu f102 zQ [0] Je:=have E:=ai @Cz.eq_1<|ai @CS.eq_1<|ai @rP.eq_1 SN;lA (Ai []) [] l0 (λk x fk fx h=>sm (decide (x<k.2)=true->0<=x/\x<k.1.length))
theorem ahS:bu f102 zQ [1] P1:=have E:=ai @Cn.eq_1<|ai @Cf.eq_1<|ai @mY.eq_1 SN;lA (Ai []) [(5,Je)] l0 (λk x fk fx h=>sm (letI a:=i64.wrap (x-1);decide (x<k.2.1)=true->(0<=x/\x<k.1.length)/\((!lJ (k.2.2.1,aa k.1 x))=false->decide (x>0)=true->0<=a/\a<k.2.2.2.2.2.2.length)))
theorem WZ:an 102 zQ:=have E:=ai @Cz.eq_1<|ai @Cn.eq_1 SN;ao (Ai []) func102 [(5,Je),(11,P1)] (lc aj8 (lc ahS l0)) (λx fx _=>sl (letI a:=(x.1.2.2.2.2.2.2.2.length:Int);letI b:=x.2.1.length;(bZ x.1 !=0||b !=a||x.2.2.1.length !=a||x.2.2.2.1.length !=a)=false->Cz (x.2.1,b) 0/\(Eh (x.2.1,b) 0=none->Cn (x.2.2.2.2,x.2.2.2.2.length,x) 0)))
theorem ZJ:an 133 KW:=have E:=ai @vt.eq_1 SN;ao (Ai []) func133 [] l0 (λx fx _=>sl (letI a:=bP [u8.wrap x.2.1,u8.wrap x.2.2.1,u8.wrap x.2.2.2.1,u8.wrap (i64.wrap x.2.2.2.2.1+2),u8.wrap x.2.2.2.2.2];(!jc x)=false->vt a/\((ByteArray.size a):Int)+((ByteArray.size (bP [As a])))<=9223372036854775807))
theorem Za:an 135 LM:=ao (Ai []) func135 [] l0 (λx fx _=>sf (Vt (x.1,x.2.1,x.2.2.1,x.2.2.2,x.2.2.1)/\True) (by
 exact⟨rfl,trivial⟩))
def aak:=(102,zQ)::(133,KW)::(135,LM)::acr
theorem RZ:cr aak:=gc WZ func102 (gc ZJ func133 (gc Za func135 (Sx)))
theorem Bq{x:ae×List Int×List Bool×List Bool×List (et)}(hl:x.1.2.2.2.2.2.2.2.length<=maxLen)(h:(!cL x)=false):
  aR x.1/\x.2.1.length=x.1.2.2.2.2.2.2.2.length/\x.2.2.1.length=x.1.2.2.2.2.2.2.2.length/\x.2.2.2.1.length=x.1.2.2.2.2.2.2.2.length/\x.1.2.2.2.2.2.2.2.length<=8:=by
 unfold cL at h;cases hc:(((((bZ x.1) !=0)||(((x.2.1).length:Int) !=((x.1.2.2.2.2.2.2.2).length:Int)))||(((x.2.2.1).length:Int) !=((x.1.2.2.2.2.2.2.2).length:Int)))||(((x.2.2.2.1).length:Int) !=((x.1.2.2.2.2.2.2.2).length:Int)))with
 |true=>simp_all
 |false=>
  simp only[au1,avc]at hc;obtain⟨⟨⟨h1,h2⟩,h3⟩,h4⟩:=hc;have a:=oj hl h1;have f:=a.cn;grind
theorem oe{K X ρ:Type}{b:Bool}{step:K->X->ak K X ρ}{inv:K->X->Prop}{mu:K->X->Nat}{k:K}(hs: ∀y,inv k y->aJ b inv mu k y (step k y))(hb: ∀y k' z,step k y= .brk k' z->z=y)(n:Nat)(y:X)(h:inv k y):inv k (endOf step k n y):=
 ir (λy k' z a f=>by have h0:=hs y a;rw[f]at h0;exact h0.2.1) (λy k' z a f=>by grind) n y h
abbrev aaF:=List (aO)
theorem zE(a v i:Int)(l:aaF):sN (a,v,l,i)=((),(l++ [(a,0,0,i,v)],i)):=rfl
theorem zV(a eU v:Int)(l:aaF)(e:et):qC (a,eU,v,l,e)=((),(l++ [(a,e.1,e.2.1,eU,v)],e)):=rfl
theorem ahf{e n:Int}{m:Nat}(h1:e<=n)(h2:n<=8)(h3:m=3*e):(m:Int)<=24+3*0:=by omega
def pO(k:Int×(List Int)×(List Bool)×(List Bool)×List (et))(x:Int×List (aO)):Prop:=0<=x.1/\k.1=k.2.1.length/\k.2.2.1.length=k.2.1.length/\k.2.2.2.1.length=k.2.1.length/\k.1<=8/\x.1<=k.1/\x.2.length=3*x.1
def pU(k:(Int×(List Int)×(List Bool)×(List Bool)×List (et)))(x:(Int×List (aO))):Nat:=(k.1-x.1).toNat
def HW(k:Int×(List Int)×(List Bool)×(List Bool)×List (et))(x:Int×List (aO)):=letI b:=sN (4,aa k.2.1 x.1,x.2,x.1);letI a:=sN (5,tj (aa k.2.2.1 b.2.2),b.2);sN (6,tj (aa k.2.2.2.1 a.2.2),a.2)
def oh(k:Int×(List Int)×(List Bool)×(List Bool)×List (et))(x:Int×List (aO)):ak (Int×(List Int)×(List Bool)×(List Bool)×List (et)) (Int×List (aO)) (List (aO)):=bif x.1<k.1 then .next k (i64.wrap (x.1+1),(HW k x).2.1)else .brk k x
def KJ k x:=endOf oh k (Nat.succ (pU k x)) x
def xT(k:(List (et))×Int)(x:Int×List (aO)):Prop:=0<=x.1/\k.2=k.1.length/\k.2<=1000/\x.2.length<=24+3*x.1
def xR(k:((List (et))×Int))(x:(Int×List (aO))):Nat:=(k.2-x.1).toNat
def HE(k:(List (et))×Int)(x:Int×List (aO)):=letI b:=qC (1,0,0,x.2,aa k.1 x.1);letI a:=qC (3,b.2.2.2.2.1,0,b.2);qC (7,tj a.2.2.2.2.2.2,a.2.2.2.2.2.1,a.2)
def ub(k:(List (et))×Int)(x:Int×List (aO)):ak ((List (et))×Int) (Int×List (aO)) (List (aO)):=bif x.1<k.2 then .next k (i64.wrap (x.1+1),(HE k x).2.1)else .brk k x
def Re k x:=endOf ub k (Nat.succ (xR k x)) x
def kf(x:ae×(List Int)×(List Bool)×(List Bool)×List (et)):=bif !cL x then[]else(Re (x.2.2.2.2,x.2.2.2.2.length) (0,(KJ (x.2.1.length,x.2) (0,[])).2)).2
def V2(x:ae×(List Int)×(List Bool)×(List Bool)×List (et)):Prop:=x.2.2.2.2.length<=1000
def Nc(z:List (Nat×List Nat)):=dB (xQ true) uh cY RZ z
def zS:Ct:=⟨Ty.pair az bO,[some 8,some 4],dF,ah.one none,some V2,some 213,kf⟩
def IZ:LS dF.den:=aD (Ty.pair ab bO) (Ty.pair ab dF) [(17,none)] [(3,4)] [(18,none)] [(5,1)] [(1,100501,true,213)] [] [(3,3),(5,5)] 0 false pO oh pU
def Ql:LS dF.den:=aD (Ty.pair dg ab) (Ty.pair ab dF) [(47,none),(48,none)] [] [(49,none)] [(5,1)] [(1,101301,true,213)] [] [(5,5)] 2 false xT ub xR
theorem Sq(k:(Ty.pair ab bO).den)(x:(Ty.pair ab dF).den)(fk:Fit (Ty.pair ab bO) k)(h:pO k x):aJ false pO pU k x (oh k x):=by
 try dsimp only[Ty.den]at*
 unfold pO at h;unfold oh;refine aJ.cnd (λhc=> ?_) (λ_=>rfl);rw[adv]at hc;have e:i64.wrap (x.1+1)=x.1+1:=aB (by omega) (by omega);rw[e];refine⟨rfl,?_,?_⟩
 ·simp only[pO,HW,zE,zV,oy,oq,au5,avl,avo,adv,au0]
  omega
 ·simp only[pU]
  omega
theorem aku:bu f132 zS [0] IZ:=lA (Nc []) [] l0 (λk x fk fx h=>sf (letI b:=(4,aa k.2.1 x.1,x.2,x.1);letI c:=sN b;letI a:=(5,tj (aa k.2.2.1 c.2.2),c.2);letI d:=sN a;letI e:=decide (x.1<k.1);(e=true->(0<=x.1/\x.1<k.2.1.length)/\oy b/\(0<=c.2.2/\c.2.2<k.2.2.1.length)/\oy a/\(0<=d.2.2/\d.2.2<k.2.2.2.1.length)/\oy (6,tj (aa k.2.2.2.1 d.2.2),d.2)/\True)/\(e=false->True)) (by
 try dsimp only[Ty.den]at*
 unfold pO at h;simp only[zE,zV,oy,oq,au5,avl,avo,adv,au0]at*
 (repeat' (first|exact trivial|apply And.intro|intro _))<;>first|trivial|omega)) Sq
theorem ahu:bu f132 zS [1] Ql:=lA (Nc []) [(5,IZ)] l0 (λk x fk fx h=>sf (letI b:=(1,0,0,x.2,aa k.1 x.1);letI a:=(3,(qC b).2.2.2.2.1,0,(qC b).2);letI c:=decide (x.1<k.2);letI d:=qC a;(c=true->(0<=x.1/\x.1<k.1.length)/\oq b/\oq a/\oq (7,tj d.2.2.2.2.2.2,d.2.2.2.2.2.1,d.2)/\True)/\(c=false->True)) (by
 try dsimp only[Ty.den]at*
 unfold xT at h;simp only[zE,zV,oy,oq,au5,avl,avo,adv,au0]at*
 (repeat' (first|exact trivial|apply And.intro|intro _))<;>first|trivial|omega)) λk x fk h=>by
 try dsimp only[Ty.den]at*
 unfold xT at h;unfold ub;refine aJ.cnd (λhc=> ?_) (λ_=>rfl);rw[adv]at hc;have e:i64.wrap (x.1+1)=x.1+1:=aB (by omega) (by omega);rw[e];refine⟨rfl,?_,?_⟩
 ·simp only[xT,HE,zE,zV,oy,oq,au5,avl,avo,adv,au0]
  omega
 ·simp only[xR]
  omega
theorem Zt:an 132 zS:=ao (Nc []) func132 [(5,IZ),(13,Ql)] (lc aku (lc ahu l0)) (sp λx fx h=>sf (letI a:=((x.2.1.length:Int),x.2);((!cL x)=true->True)/\((!cL x)=false->pO a (0,[])/\xT (x.2.2.2.2,x.2.2.2.2.length) (0,(KJ a (0,[])).2)/\True)) (by
 try dsimp only[Ty.den]at*
 have hp:x.2.2.2.2.length<=1000:=h;refine⟨λ_=>trivial,λhc=> ?_⟩;obtain⟨_,h1,h2,h3,h4⟩:=Bq fx.1.2.2.2.2.2.2.2.1 hc;have hin:pO (((x.2.1).length:Int),x.2) ((0:Int),[]):=⟨au8 _,rfl,h2.trans h1.symm,h3.trans h1.symm,by rw[h1];exact Int.ofNat_le.2 h4,au9 _,rfl⟩;have hI:=oe (λy hy=>Sq (((x.2.1).length:Int),x.2) y ⟨trivial,fx.2⟩ hy) (λy k' z hz=>by
  unfold oh at hz;revert hz
  cases decide (y.1<(((x.2.1).length:Int),x.2).1)<;>intro hz<;>cases hz;rfl) (Nat.succ (pU (((x.2.1).length:Int),x.2) ((0:Int),[]))) _ hin
 refine⟨hin,⟨au8 _,rfl,Int.ofNat_le.2 hp,?_⟩,trivial⟩;obtain⟨_,_,_,_,q1,q2,q3⟩:=hI;exact ahf q2 q1 q3))
def ab0:=(132,zS)::aak
theorem RA:cr ab0:=gc Zt func132 (RZ)
def aa8(x:((eY)×Int)×Int):=((),(x.1.1,x.2),x.2)
def Xm:Cp:=letI a:=Ty.pair eu ab;⟨a,[],[true,true],[3,1],false,false,a,Ty.unit,ah.none,none,aa8,none,undef⟩
theorem aq0:jM 195 Xm:=qQ (dB (xQ true) uh cY RA []) func195 [] l0 (λ_ _ _=>tr)
def aaU:=(195,Xm)::acY
theorem xX:ic aaU:=pc aq0 func195 (uh)
def acD:List (Nat×Ct):=ab0
theorem Sg:cr acD:=RA
def L2(x:Int×((eY)×Int)×ax):=letI a:=x.2.2.2;letI b:=nH (x.1,x.2.1,x.2.2.1,a.1);letI c:=aa8 (x.2.1,a.2);bif b !=0 then((((ByteArray.empty,ByteArray.empty),0),0,b),a.2)else bif a.1==0 then((x.2.1,0,8),a.2)else((c.2.1,i64.wrap (a.1-1),0),c.2.2)
def Si(x:Int×((eY)×Int)×ax):Prop:=x.2.2.2.2=x.2.2.1
def J2:Cv:={p:=Ty.pair ab (Ty.pair eu (Ty.pair ab (Ty.pair ab ab))),ay:= [none,some 3,none,none],mask:= [.v,.v,.v,.v,.c 195 1],sz:= [1],ro:=false,vi:= [],q:=ab,r:=Ty.pair eu (Ty.pair ab bI),ar:=ah.tup [some 3,none,none],vo:= [],pre:=some Si,F:=L2}
theorem amS:dL 192 J2:=dU (dB (xQ true) xX cY Sg []) func192 [] l0 (λ_ _ _=>tr)
def acX(nw:Bool):=(192,.pv J2)::abt nw
theorem Qx(nw:Bool):ga (acX nw):=zc (z:= .pv J2) amS func192 ((xQ nw))
def aa4:List (Nat×Ct):=acD
theorem Rc:cr aa4:=Sg
def Af(x:Int×((eY)×Int)×af):=(L2 (x.1,x.2.1,x.2.2.1,x.2.2.2,x.2.2.1)).1
def Md:Ct:=⟨Ty.pair ab (Ty.pair eu (Ty.pair ab ab)),[none,some 3,none,none],Ty.pair eu (Ty.pair ab bI),ah.tup [some 3,none,none],none,none,Af⟩
theorem X9:an 138 Md:=ao (dB (Qx true) xX cY Rc []) func138 [] l0 (λx fx _=>sf (Si (x.1,x.2.1,x.2.2.1,x.2.2.2,x.2.2.1)/\True) (by
 exact⟨rfl,trivial⟩))
def acK:=(138,Md)::aa4
theorem ajx:cr acK:=gc X9 func138 (Rc)
section
open Ieee
abbrev fmt:Format:=FloatKind.f64.format
def lv(x:Nat):Prop:= ∃s m p,fmt.read x= .number s m p
def NN(x:Nat):Prop:=(fmt.read x).isNaN=false
theorem lv.nn{x:Nat}(h:lv x):NN x:=by
 obtain⟨s,m,p,e⟩:=h;unfold NN;rw[e];rfl
theorem GY{a x b:Nat}(h1:fmt.order a x=some .lt)(h2:fmt.order x b=some .lt):lv x:=by
 unfold Format.order at h1 h2;cases hx:fmt.read x with
 |number s m p=>exact⟨s,m,p,hx⟩
 |nan s f=>rw[hx]at h2;cases h2
 |infinity s=>
  rw[hx]at h1 h2;cases s with
  |true=>cases ha:fmt.read a<;>rw[ha]at h1<;>first|cases h1|(rename_i t;cases t<;>cases h1)
  |false=>cases hb:fmt.read b<;>rw[hb]at h2<;>first|cases h2|(rename_i t;cases t<;>cases h2)
theorem arV:lv 9218868437227405311:=⟨_,_,_,rfl⟩
theorem agj{a x b:Nat}(h1:fmt.order a x=some .lt)(h2:fmt.order x b=some .lt\/fmt.order x b=some .eq)(hb:lv b):lv x:=by
 rcases h2 with h2|h2
 ·grind [GY]
 ·unfold Format.order at h1 h2
  obtain⟨s,m,p,e⟩:=hb;rw[e]at h2;cases hx:fmt.read x with
  |number s m p=>exact⟨s,m,p,hx⟩
  |nan s f=>rw[hx]at h2;cases h2
  |infinity s=>rw[hx]at h2;cases s<;>cases h2
structure Lds (b:ae):Prop where
 em:lv b.2.2.2.2.1
 fu:lv b.2.2.2.2.2.1
 ov:lv b.2.2.2.2.2.2.1
 h0:fmt.order 0 b.2.2.2.2.1=some .lt
 h1:fmt.order b.2.2.2.2.1 b.2.2.2.2.2.1=some .lt
 h2:fmt.order b.2.2.2.2.2.1 b.2.2.2.2.2.2.1=some .lt
theorem ak9{b:ae}(h:pV b=true):Lds b:=by
 unfold pV F5 at h;simp only[au4,av9,aw0]at h;obtain⟨⟨⟨h0,h1⟩,h2⟩,h3⟩:=h;exact⟨GY h0 h1,GY h1 h2,agj h2 h3 arV,h0,h1,h2⟩
theorem aeK(a:Bool)(f:Nat)(g:Int):NN (fmt.nearest a f g):=by
 have key: ∀(a:Bool) (r:Nat),r<=fmt.infRung->NN (fmt.word a r):=by
  intro a r hr;have h:fmt.infRung=9218868437227405312:=rfl;have i:fmt.signWeight=9223372036854775808:=rfl;have hm:fmt.word a r % fmt.signWeight=r:=by
   grind [Format.word]
  unfold NN Format.read;simp only;split
  ·rfl
  ·split
   ·rfl
   ·split
    ·rfl
    ·omega
 unfold Format.nearest;split
 ·exact key _ _ (awb _)
 ·exact key _ _ (Nat.min_le_right _ _)
theorem VW{x y:Nat}(h:lv x)(i:lv y): ∃z,fmt.sub x y=some z/\NN z:=by
 obtain⟨s,m,p,e⟩:=h;obtain⟨t,n,q,j⟩:=i;obtain⟨a,f,g,hs⟩: ∃a f g,(Datum.number s m p).sum (Datum.number t n q).opposite=some (.number a f g):=⟨_,_,_,rfl⟩
 refine⟨fmt.nearest a f g,?_,aeK _ _ _⟩;unfold Format.sub;rw[e,j,hs];rfl
theorem OB:lv 4589168020290535424:=⟨_,_,_,rfl⟩
end
abbrev bg:=(eT)×sG
abbrev aC:=et
abbrev bT:=Int×Int×Int×(List (ax))×iu
abbrev iA:=(af)×(ES)×(ax)×Kj
abbrev aq:=(List Int)×(List Bool)×(List Bool)×List (et)
abbrev dr:=(eY)×Int
abbrev aX:=Bool×Bool×Bool×Bool×Int×Int×Int×(af)×ax
abbrev aW:=((List Int)×(List Bool)×(List Bool)×List (et))×((eY)×Int)×(List ((eT)×sG))×(List (Int×Int×Int×(List (ax))×iu))×(List ((af)×(ES)×(ax)×Kj))×(List Int)×(List Int)×(List (af))×ax
abbrev au:=(Int×Int×Int×Int×Nat×Nat×Nat×List (eE))×(((List Int)×(List Bool)×(List Bool)×List (et))×((eY)×Int)×(List ((eT)×sG))×(List (Int×Int×Int×(List (ax))×iu))×(List ((af)×(ES)×(ax)×Kj))×(List Int)×(List Int)×(List (af))×ax)×((af)×(af)×List ((eT)×(gq)×kE))×Bool×Int×Int×(List Bool)×(List (af))×(List Bool)×(af)×(af)×Bool×Bool×Int×List (((af)×Bool)×(af)×Bool×Int×iu)
abbrev bY:=((List (aO))×((List Int)×(List Bool)×(List Bool)×List (et))×(List Int)×((List (af))×(List Bool)×af)×af)×Int×Int×Int×Int×Nat×Nat×Nat×List (eE)
abbrev fM:=(af)×(af)×Bool×Bool×Int×List (((af)×Bool)×(af)×Bool×Int×iu)
theorem ZE{b:ae}(hl:b.2.2.2.2.2.2.2.length<=maxLen)(h:(bZ b !=0)=false):b.2.2.2.2.2.2.2.length<=8:=by
 have a:=oj hl (by simp_all);exact a.cn.2
theorem nt{n:Nat}(h:n<=8)(b:Int)(h0:0<=b/\b<=100000):0<=(n:Int)/\n=(n:Int)/\n*b<=140737488355328/\(n:Int)<=4611686018427387903:=by
 have:n*b<=8*b:=aAb (by omega) h0.1;omega
def B6(t:iZ):Prop:=
 (0<=t.1/\t.1<=255)/\(0<=t.2.1/\t.2.1<=255)/\(0<=t.2.2.1/\t.2.2.1<=255)/\(0<=t.2.2.2.1/\t.2.2.2.1<=255)/\(0<=t.2.2.2.2.1/\t.2.2.2.2.1<=255)/\(0<=t.2.2.2.2.2/\t.2.2.2.2.2<=255)
theorem abC{t:iZ}(h:B6 t){i:Int}(hi:0<=i/\i<6):0<=aa [t.1,t.2.1,t.2.2.1,t.2.2.2.1,t.2.2.2.2.1,t.2.2.2.2.2] i/\aa [t.1,t.2.1,t.2.2.1,t.2.2.2.1,t.2.2.2.2.1,t.2.2.2.2.2] i<=255:=by
 obtain⟨h1,h2,h3,h4,h5,h6⟩:=h;have:i=0\/i=1\/i=2\/i=3\/i=4\/i=5:=by omega
 rcases this with rfl|rfl|rfl|rfl|rfl|rfl<;>assumption
theorem atg{x:Int}(h:0<=x):0<=i64.wrap (3+Int.tmod x 3)/\i64.wrap (3+Int.tmod x 3)<6:=by
 grind [aB]
theorem atm{x:Int}(h:0<=x):0<=i64.wrap (2+Int.tmod x 4)/\i64.wrap (2+Int.tmod x 4)<6:=by
 grind [aB]
theorem agN:(List.range 16).all (λn=>(FloatKind.f64.format.div (FloatKind.f64.nearest n) 4622945017495814144).isSome)=true:=by kernel_rfl
theorem af1{v:Int}(h:0<=v/\v<=255):(FloatKind.f64.format.div (FloatKind.f64.nearest (Int.tmod v (16:Int))) 4622945017495814144).isSome=true:=by
 have:=List.all_eq_true.1 agN (v % 16).toNat (by grind);grind
theorem aqN(x:Int):0<=u64.wrap x:=by grind [IntKind.wrap_u64]
theorem yK{i j:Int}(h0:0<=i)(h1:i<=j)(h2:j<=1000000):i64.wrap (Int.fdiv (u64.wrap (i64.wrap (i+j))) (2^(min ((1:Int)).toNat u64.bits)))=(i+j)/2:=by
 have e:u64.wrap (i+j)=i+j:=by grind [IntKind.wrap_u64]
 have a:(2^(min ((1:Int)).toNat u64.bits))=2:=by decide
 grind [aB]
theorem ot{a b:Nat}(h:a<=b):a<=(b:Int):=Int.ofNat_le.2 h
theorem nZ{α:Type}{x:List α}{b c d:Nat}(h:x.length<=100000)(hb:b<=1000:=by decide)(a:c=140737488355328:=by rfl)(f:d=4611686018427387903:=by rfl):
  (x= []->True/\(([]:List α),())=((([]:List α)++x),()))/\(([]:List α).length+x.length)*b<=c/\([]:List α).length+x.length<=d:=by
 refine⟨λe=>⟨trivial,by simp_all⟩,?_,by grind⟩;rw[avo,avw];calc x.length*b<=100000*1000:=aya h hb
  _<=c:=by omega
theorem afx{α:Type}{x:List α}{b c d:Nat}(h:x.length<=100000)(hb:b<=1000:=by decide)(a:c=140737488355328:=by rfl)(f:d=4611686018427387903:=by rfl):
  (x= []->True/\([]:List α)=(([]:List α)++x))/\(([]:List α).length+x.length)*b<=c/\([]:List α).length+x.length<=d:=by
 have:=nZ h hb a f;simp_all
theorem tm4{v:Int}(h:0<=v/\v<=255):0<=i64.wrap (Int.tmod v 4)/\i64.wrap (Int.tmod v 4)<=3:=by
 grind [aB]
theorem abW{α:Type}{l m:List α}{b c d:Nat}{n:Int}(h:l.length<=n)(a:n<=1000)(hm:m.length=1:=by rfl)(hb:b<=1000:=by decide)(f:c=140737488355328:=by rfl)(g:d=4611686018427387903:=by rfl):(l.length+m.length)*b<=c/\l.length+m.length<=d:=by
 have:(l.length+m.length)<=1001:=by omega
 refine⟨?_,by omega⟩;calc (l.length+m.length)*b<=1001*1000:=aya this hb
  _<=c:=by omega
theorem atQ{s:ByteArray}(h1:1<=s.size)(h2:s.size<=1000):(0<=(0:Int)/\0<=i64.wrap (s.size-1)/\i64.wrap (s.size-1)<=s.size):=by
 grind [aB]
theorem abf{s:ByteArray}(h1:1<=s.size)(h2:s.size<=1000):(ByteArray.extract s (Int.toNat 0) (Int.toNat (i64.wrap (s.size-1)))).size+1=s.size:=by
 grind [aB,extract_size]
theorem ar9{s:ByteArray}(h1:1<=s.size)(h2:s.size<=1000):(((ByteArray.extract s (Int.toNat 0) (Int.toNat (i64.wrap (s.size-1)))).size:Nat):Int)+((ByteArray.size (ByteArray.mk #[63]):Nat):Int)<=9223372036854775807:=by
 have:=abf h1 h2;have h3:(ByteArray.mk #[63]).size=1:=rfl;omega
theorem adj{s:ByteArray}(h1:1<=s.size)(h2:s.size<=1000):(dA (ByteArray.extract s (Int.toNat 0) (Int.toNat (i64.wrap (s.size-1)))) (ByteArray.mk #[63])).size=s.size:=by
 rw[mO];have h3:(ByteArray.mk #[63]).size=1:=rfl;grind [abf]
theorem cC{x:Int}{n:Nat}(h0:0<=x)(h:x<n)(a:n<=maxLen):i64.wrap (x+1)=x+1:=by
 grind [maxLen,aB]
theorem sL{x n:Int}(h0:0<=x)(h:x<n)(a:n<=100000):i64.wrap (x+1)=x+1:=aB (by omega) (by omega)
theorem cI{x n:Int}(h:x<n):(n - (x+1)).toNat<(n-x).toNat:=by omega
theorem gR{x:Int}{n:Nat}(h0:0<=x)(h:x<n):0<=x/\x<n:=⟨h0,h⟩
theorem gI{α:Type} [Inhabited α]{l:List α}{p:α->Prop}(h: ∀a∈l,p a){i:Int}(hi:0<=i/\i<l.length):p (aa l i):=by
 rw[SF l i hi.1 hi.2];simp_all
theorem Sf{α:Type}{l:List α}{p:α->Prop}(h: ∀a∈l,p a){i:Nat}{v:α}(f:p v): ∀a∈l.set i v,p a:=λa g=>by
 grind
theorem am4{α β γ δ:Type}{l:List α}{m:List β}{f:List γ}{c:List δ}{n:Nat}(h1:l.length=n)(h2:m.length=n)(h3:f.length=n)(h4:n<=8)(h5:c.length=(n:Int)):
 (l.length:Int)<=8/\f.length=l.length/\m.length=l.length/\c.length=l.length/\(([]:List Int).length:Int)<=3*0:=⟨by omega,by omega,by omega,by omega,by decide⟩
theorem al3{α β:Type}{l:List α}{m:List β}{n:Nat}(h2:l.length=(n:Int))(h3:m.length=(n:Int))(a:n<=8):(l.length:Int)<=8/\m.length=l.length/\(([]:List Int).length:Int)=0/\(([]:List Int).length:Int)=0:=⟨by omega,by omega,rfl,rfl⟩
theorem arS{α:Type}{l:List α}{x:Int}(h1:l.length<=2*x)(h0:0<=x)(a:x<32):l.length<=2*x+1-1/\0<=x/\x<=32/\(1:Int)<=3:=⟨by omega,h0,by omega,by decide⟩
theorem aqY{n a d:Int}(h:n<=2*a+d-1)(f:d<=3):n<=2*(a+1):=by omega
def L1(m:aW):Prop:=
 (m.1.1.length<=100000/\m.1.2.1.length<=100000/\m.1.2.2.1.length<=100000/\m.1.2.2.2.length<=100000)/\
 m.2.2.1.length<=100000/\(m.2.2.2.1.length<=100000/\ ∀d∈m.2.2.2.1,d.2.2.2.1.length<=100000)/\m.2.2.2.2.1.length<=100000/\m.2.2.2.2.2.1.length<=100000/\m.2.2.2.2.2.2.1.length<=100000/\m.2.2.2.2.2.2.2.1.length<=100000
theorem CK{i j n:Int}(h0:0<=i)(h:i<j)(a:j<=n):0<=(i+j)/2/\(i+j)/2<n:=by omega
theorem acL{i j:Int}(h0:0<=i)(h:i<j):0<=(i+j)/2+1:=by omega
theorem acb{i j:Int}(h0:0<=i)(h:i<j):(i+j)/2+1<=j:=by omega
theorem ab1{i j:Int}(h0:0<=i)(h:i<j):(j - ((i+j)/2+1)).toNat<(j-i).toNat:=by omega
theorem abB{i j:Int}(h0:0<=i)(h:i<j):i<=(i+j)/2:=by omega
theorem acC{i j:Int}(h0:0<=i)(h:i<j):((i+j)/2-i).toNat<(j-i).toNat:=by omega
theorem VO{i j:Int}(h0:0<=i)(h:i<j):(i+j)/2<j:=by omega
theorem atO{α:Type}{l m:List α}{n:Int}{b c d:Nat}(h:l.length=n)(a:n<=8)(hm:m.length=1:=by rfl)(hb:b<=1000:=by decide)(f:c=140737488355328:=by rfl)(g:d=4611686018427387903:=by rfl):(l.length+m.length)*b<=c:=by
 have:(l.length+m.length)<=9:=by omega
 calc (l.length+m.length)*b<=9*1000:=aya this hb
  _<=c:=by omega
theorem AN{α:Type}{l m:List α}{n:Int}(h:l.length=n)(hm:m.length=1:=by rfl):((l++m).length:Int)=n+1:=by simp_all
theorem arU{α:Type}{l m:List α}{n:Int}{c:Nat}(h:l.length=n)(a:n<=8)(hm:m.length=1:=by rfl)(f:c=4611686018427387903:=by rfl):l.length+m.length<=c:=by omega
end Go.Proofs.YtcfinjcapeemeaaGreatDoor.S
