/- Part of the proof that the law TopFull holds for every input. -/
import Derived.Test.YtcfinjcapeemeaaGreatDoorFQ10
set_option linter.all false
set_option maxRecDepth 100000
set_option maxHeartbeats 4000000
namespace Go.Proofs.YtcfinjcapeemeaaGreatDoor.S
open Go Go.RowKit IntKind Go.Proofs.Tryz
def L1(k:ay)(x:Int×ab):Prop:=0<=x.1/\x.2.2.2.2.2.2.2.2.length<=8
def zX(k:ay)(x:Int×ab):=(x.2.2.2.2.2.2.2.2.length-x.1).toNat
def Kc(k:ay)(x:Int×ab):=letI d:=x.2.2.2.2.2.2.2.2;letI b:=aa d x.1;letI a:=aJ gg d x.1 (b.1,b.2.1,i64.wrap (1+i64.wrap (Int.tmod k.2.2 (4:Int))),b.2.2.2);letI c:=aa a x.1;aJ gg a x.1 (c.1,c.2.1,c.2.2.1,i64.wrap (Int.tmod k.2.1 (5:Int)),c.2.2.2.2)
def vP(k:ay)(x:Int×ab):an (ay) (Int×ab) ab:=letI a:=x.2.2.2.2;bif x.1<a.2.2.2.2.length then .next k (i64.wrap (x.1+1),x.2.1,x.2.2.1,x.2.2.2.1,a.1,a.2.1,a.2.2.1,a.2.2.2.1,Kc k x)else .brk k x
def aaZ k x:=endOf vP k (Nat.succ (zX k x)) x
def acF(x:ay):=letI a:=tJ (x.1,x.2.1);aaZ x (0,a.1,i64.wrap (1+i64.wrap (Int.tmod x.2.2 (3:Int))),i64.wrap (i64.wrap (i64.wrap (18*a.2.2.2.2.2.2.2.length)+24)+i64.wrap (6*i64.wrap (u8.wrap (Int.tdiv x.2.2 (3:Int))))),a.2.2.2)
def F7(x:ay):ab:=
 (acF x).2
def kO(x:ay):Prop:=(0<=x.1/\x.1<=255)/\(0<=x.2.1/\x.2.1<=255)/\0<=x.2.2/\x.2.2<=255
def vI(x:(aP)×ak):=letI a:=(bt (x.2,x.1.2.1,x.1.2.2.1)).1;letI b:=aa x.2.2.2.2 a;aJ dT x.2.2.2.2 a (b.1,b.2.1,x.1.2.2.2.1,b.2.2.2)
def oQ(x:(aP)×ak):=letI b:=(bt (x.2,x.1.2.1,x.1.2.2.1)).1;letI a:=aa x.2.2.2.2 b;aJ dT x.2.2.2.2 b (a.1,a.2.1,a.2.2.1,x.1.2.2.2.2,a.2.2.2.2)
def oL(x:(aP)×ak):=letI b:=(bt (x.2,x.1.2.1,x.1.2.2.1)).1;letI a:=aa (oQ x) b;aJ dT (oQ x) b (a.1,a.2.1,a.2.2.1,a.2.2.2.1,x.1.2.2.2.1==1)
def ef(x:(aP)×ak):Unit×ak:=letI b:=x.2.2;letI c:=x.1.2.2;letI a:=bt (x.2,x.1.2.1,c.1);letI d:=((),x.2);letI e:=x.1.1;letI f:=x.2.1;letI g:=c.2.2==1;letI h:=b.2.1;bif e==4 then((),aJ ae f c.2.1 c.2.2,b)else bif e==5 then((),f,aJ aw b.1 c.2.1 g,b.2)else bif e==6 then((),f,b.1,aJ aw h c.2.1 g,b.2.2)else bif e==1 then bif !a.2 then((),f,b.1,h,(Fp (b.2.2,a.1,[(x.1.2.1,c.1,-1,0,false)])).1)else d else bif e==2 then bif a.2 then((),f,b.1,h,(FR (b.2.2,a.1,i64.wrap (a.1+1))).1)else d else bif e==3 then bif a.2 then((),f,b.1,h,vI x)else d else bif e==7 then bif a.2 then((),f,b.1,h,oL x)else d else d
def Kw(x:(aP)×ak):Prop:=MD x
def zL(k:Int)(x:Int×bg):Prop:=0<=x.1/\x.2.2.2.2.1.length=x.1/\k<=8/\x.2.2.2.2.2.2.2.1= []
def zl(k:(Int))(x:(Int×bg)):Nat:=(k-x.1).toNat
def qn(k:Int)(x:Int×bg):an Int (Int×bg) (bg×Int):=bif x.1<k then .next k (i64.wrap (x.1+1),x.2.1,x.2.2.1,x.2.2.2.1,x.2.2.2.2.1++ [qB ()],x.2.2.2.2.2)else .brk k x
def YM k x:=endOf qn k (Nat.succ (zl k x)) x
def Ud(k:(List az)×Int×ab)(x:Int×bg):Prop:=0<=x.1/\k.2.1=k.1.length/\x.2.2.2.2.2.2.2.1.length=x.1/\k.2.1<=100000/\Vp k.1 k.2.2.2.2.2.2.2.2.2.length
def So(k:(List az)×Int×ab)(x:Int×bg):=(k.2.1-x.1).toNat
def Je(k:(List az)×Int×ab)(x:Int×bg):an ((List az)×Int×ab) (Int×bg) (bg×Int):=letI b:=i64.wrap (x.1+1);letI d:=x.2.2;letI a:=d.2.2;letI c:=a.2.2;bif x.1<k.2.1 then bif(aa k.1 x.1).2.2.1>=0 then .next k (b,x.2.1,d.1,d.2.1,a.1,a.2.1,c.1,c.2.1++ [(aa k.2.2.2.2.2.2.2.2.2 (aa k.1 x.1).2.2.1).1],c.2.2)else .next k (b,x.2.1,d.1,d.2.1,a.1,a.2.1,c.1,c.2.1++ [0],c.2.2)else .brk k x
def VC k x:=endOf Je k (Nat.succ (So k x)) x
def zS(x:ab×ak×bO):=letI a:=x.1.2.2.2.2.2.2.2.length;YM a (0,wL x.2.1,x.2.2,aC fQ a,[],aC iN a,aC jB a,[],aC aS a,0,0,0)
def F0(x:ab×ak×bO):bg×Int:=bif !pC (x.1,x.2.1)|| !cV (x.1.2.2.1,x.2.2)then((([],[],[],[]),((ByteArray.empty,ByteArray.empty),0),[],[],[],[],[],[],0,0,0),1)else((VC (x.2.1.2.2.2,x.2.1.2.2.2.length,x.1) (0,(zS x).2)).2,0)
def WB(x:ab×ak×bO):Prop:=x.2.1.2.2.2.length<=100000
def mJ(x:(List Int)×Option Nat):=decide (MI x>=0)
def vA(x:(List Int)×Option Nat):Prop:= ∃g,x.2=some g/\g∈ [104,257,261]
def D7(k:(List bE)×Int×ab)(x:Int):Prop:=0<=x/\k.2.1=k.1.length
def DR(k:((List (bE))×Int×ab))(x:(Int)):Nat:=(k.2.1-x).toNat
def zi(k:(List bE)×Int×ab)(x:Int):=bif x<k.2.1 then bif !(F57 (x,aa k.1 x,k.2.2)).1 then an.ret (false,())else an.next k (i64.wrap (x+1))else an.brk k x
def aar k x:=bj zi k (Nat.succ (DR k x)) x
def GA(x:(List bE)×Int×ab):=letI a:=x.1.length;bif a !=x.2.1 then(false,())else dJ (aar (x.1,a,x.2.2) 0) (λy=>y) (true,())
def F60(x:Int×bT×ab):=(fI (x.2.2,x.1,x.2.1),x.2.2)
def jO(x:ab×iE):=letI b:=x.2.2.2;letI c:=b.1.1==0&&(b.1.2.1==0&&b.1.2.2==0);letI d:=x.2.2.1;letI a:=d.1==0&&(d.2.1==0&&(d.2.2.1==0&&(d.2.2.2.1==false&&d.2.2.2.2==0)));letI e:=b.2.2;bif ca x.1 !=0||e.2.2&& !(x.2.1.1==0&&x.2.1.2==0&&(a&&(c&&(b.2.1==0&&(e.1==0&&(e.2.1==0&&e.2.2==true))))))then false else bif !FK x.2.1|| !FT d|| !AN (x.1.1,b.1)|| !a&& !c then false else Int.fdiv b.2.1 (2^min x.1.1.toNat u32.bits)==0&&e.1>=0&&e.1<=2&&e.2.1>=0&&e.2.1<=1000000
def kM(x:Int×bE×eQ):bE×Int:=bif !mb (x.1,x.2.1)then(((0,false,false,false,false),0,0,0,0,0,0,0,0,0,0,0,0,0,0,0,0,0,0,0,0,0,0,0,0,0,0,0,0,0,0,0,0,0,0,0,0),1)else(wF x,0)
def Az(x:ab×Int×bT):bT×Int:=letI a:=tw (x.2.2.2.2.2.1,(aa x.1.2.2.2.2.2.2.2 x.2.1).1,0,0);bif !fI x then((0,0,0,[],0,false),1)else((x.2.2.1,x.2.2.2.1,x.2.2.2.2.1,a.1,0,a.2),0)
def lX(x:nG):=(AW (x.1,x.2.1),A0 (x.2.2.1,x.2.2.2.1,0,1,2,3),A0 (x.2.2.2.2.1,x.2.2.2.2.2,0,1,2,3))
def Ln(x:nG):Prop:=0<=x.2.1/\x.2.1<=4294967295
def kS(x:kd):=letI a:=u32.wrap (1*2^min x.2.1.toNat u32.bits);letI b:=(0,0);bif !mT x||x.2.2.2 !=1||x.2.1<0 then b else bif x.2.2.1==1&&x.2.1<i64.wrap (x.1-1)then(a,0)else bif x.2.2.1==2&&x.2.1>0 then(0,a)else b
def MA(x:ab×Int×bT):=letI a:=x.2.2.2.2;fI x&&(a.2.1.length:Int)==0&&a.1==2&&a.2.2.1>=(aa x.1.2.2.2.2.2.2.2 x.2.1).2.2.1
def iB(x:ab×ak×(af)×List Bool):=letI a:=x.2.2.1;letI b:=(x.1.2.2.2.2.2.2.2.length:Int);bif !cJ (x.1,x.2.1)||x.2.2.2.length !=b then([],1)else bif a.1<0||a.1>8 then([],6)else bif a.2<0||a.2>=b then([],2)else bif a.1==0 then([],0)else Nj ((x.2.1,a.2,aa x.2.2.2 a.2),a.1)
def we(x:ab×Int×bT):bT×Int:=bif !fI x then((0,0,0,[],0,false),1)else((x.2.2.1,x.2.2.2.1,x.2.2.2.2.1,[],0,false),0)
def Jj(k:Int×ak)(x:(List aZ)×Int):Prop:=0<=x.2/\k.1=x.1.length/\k.1<=8
def I2(k:(Int×ak))(x:((List (aZ))×Int)):Nat:=(k.1-x.2).toNat
def JH(k:Int×ak)(x:(List aZ)×Int):an (Int×ak) ((List aZ)×Int) (List aZ):=bif x.2<k.1 then .next k (aJ eO x.1 x.2 (AK (k.2,x.2),(aa x.1 x.2).2),i64.wrap (x.2+1))else .brk k x
def alB k x:=endOf JH k (Nat.succ (I2 k x)) x
def acC(x:ak):=letI a:=aC eO x.1.length;(alB (a.length,x) (a,0)).1
def VA(x:ak):Prop:=x.1.length<=8
def eI(x:ak×af):=letI b:=x.1.2.2.2;letI a:=oY (b,x.2);bif a.1<0 then((b.length:Int),false)else(a.1,(aa b a.1).1==x.2.1&&(aa b a.1).2.1==x.2.2)
def Vw(x:ak×af):Prop:=x.1.2.2.2.length<=1000000
def bR(x:ak):=Ft x.2.2.2
def wJ(x:kd):=bif !nP x.1 then 0 else i64.wrap (qW (kh x).1+AB (kh x).2)
def RA(k:(List az)×Int)(x:Int×bT):Prop:=0<=x.1/\k.2=k.1.length/\k.2<=64/\x.2.2.2.2.1.length<=1000+x.1
def C3(k:((List (az))×Int))(x:(Int×bT)):Nat:=(k.2-x.1).toNat
def uX(k:(List az)×Int)(x:Int×bT):an ((List az)×Int) (Int×bT) (bT×Int):=letI a:=((aa k.1 x.1).1,(aa k.1 x.1).2.1,0);letI b:=i64.wrap (x.1+1);letI d:=x.2.2.2;letI c:=lN (d.2.1,a,some 107);bif x.1<k.2 then bif !c.2 then .next k (b,x.2.1,x.2.2.1,d.1,(acP (d.2.1,c.1,[a])).1,d.2.2)else .next k (b,x.2)else .brk k x
def UY k x:=endOf uX k (Nat.succ (C3 k x)) x
def Uz(x:ab×Int×bT×af):=letI a:=my (dv (x.2.2.2,dB x.1));letI b:=x.2.2.1.2;UY (a,a.length) (0,x.2.2.1.1,b.1,b.2.1,bc (aC gz b.2.2.1.length) b.2.2.1,b.2.2.2)
def mB(x:ab×Int×bT×af):bT×Int:=letI a:=Uz x;letI b:=a.2.2.2;bif !fI (x.1,x.2.1,x.2.2.1)then((0,0,0,[],0,false),1)else((a.2.1,a.2.2.1,b.1,b.2.1,b.2.2.1,b.2.2.2&&(b.2.1.length:Int)==0),0)
def Jg(k:Int×(List (ay))×Int×ab)(x:Int×(af)×Bool):Prop:=0<=x.1/\k.2.2.1=k.2.1.length/\0<=k.1/\k.1<k.2.2.2.2.2.2.2.2.2.2.length
def I3(k:Int×(List (ay))×Int×ab)(x:Int×(af)×Bool):=(k.2.2.1-x.1).toNat
def IW(k:Int×(List (ay))×Int×ab)(x:Int×(af)×Bool):an (Int×(List (ay))×Int×ab) (Int×(af)×Bool) ((af)×Bool):=letI a:=i64.wrap (x.1+1);letI b:=aa k.2.1 x.1;bif x.1<k.2.2.1 then bif b.2.2<(aa k.2.2.2.2.2.2.2.2.2.2 k.1).2.1 then .next k (a,fc (x.2.1,fo (b.1,b.2.1)),x.2.2)else .next k (a,x.2)else .brk k x
def alG k x:=endOf IW k (Nat.succ (I3 k x)) x
def Mx(x:ab×Int×Int×bT):=bif !Mr x.2.2.1|| !fI (x.1,x.2.1,x.2.2.2)then((0,0),true)else(alG (x.2.1,x.2.2.2.2.2.2.1,x.2.2.2.2.2.2.1.length,x.1) (0,(0,0),false)).2
def fH(x:af):=((F4 x).length:Int)
def Nx:Ct:=⟨Aj,[some 3],aD,ah.one (some 8),some kO,none,F7⟩
def Lr:Cv:=⟨Ty.pair jC bN,[some 5],[.p,.v],[4],false,[(5,true,3),(6,true,4),(7,true,4),(8,true,93)],bN,Ty.unit,ah.none,[(0,true,3),(1,true,4),(2,true,4),(3,true,93)],some Kw,ef,false⟩
def FX:Ct:=⟨Ty.pair aD (Ty.pair bN eo),[some 8,some 4,some 3],Ty.pair fE bX,ah.tup [some 16,none],some WB,none,F0⟩
def Yf:Ct:=⟨Ty.pair cX Es,[none,none],aw,ah.one none,some vA,none,mJ⟩
def Fq:Cv:=⟨Ty.pair wB (Ty.pair ae aD),[none,none],[.v,.v,.c 57 1],[8],true,[],Ty.unit,aw,ah.one none,[],none,GA,false⟩
def ady:Cp:=⟨Ty.pair ae (Ty.pair eH aD),[none,some 6],[false,false,true],[8],true,false,aD,aw,ah.one none,none,F60,none,undef⟩
def aa9:Ct:=⟨Ty.pair aD iN,[some 8,some 14],aw,ah.one none,none,none,jO⟩
def YI:Ct:=⟨Ty.pair ae (Ty.pair fQ mC),[none,some 41,some 5],Ty.pair fQ bX,ah.tup [some 41,none],none,none,kM⟩
def Z8:Ct:=⟨Ty.pair aD (Ty.pair ae eH),[some 8,none,some 6],Ty.pair eH bX,ah.tup [some 6,none],none,none,Az⟩
def acd:Ct:=⟨Ty.pair ae mC,[none,some 5],jg,ah.one (some 3),some Ln,none,lX⟩
def abb:Ct:=⟨Ty.pair ae jg,[none,some 3],aS,ah.one (some 2),none,none,kS⟩
def Zf:Ct:=⟨Ty.pair aD (Ty.pair ae eH),[some 8,none,some 6],aw,ah.one none,none,none,MA⟩
def Zi:Ct:=⟨Ty.pair aD (Ty.pair bN (Ty.pair po gm)),[some 8,some 4,some 2,none],Ty.pair dF bX,ah.tup [none,none],none,some 213,iB⟩
def YY:Ct:=⟨Ty.pair aD (Ty.pair ae eH),[some 8,none,some 6],Ty.pair eH bX,ah.tup [some 6,none],none,none,we⟩
def K3:Ct:=⟨bN,[some 4],gx,ah.one none,some VA,some 335,acC⟩
def Xa:Ct:=⟨Ty.pair bN (Ty.pair ae ae),[some 4,none,none],Ty.pair ae aw,ah.tup [none,none],some Vw,none,eI⟩
def WT:Ct:=⟨bN,[some 4],aS,ah.one (some 2),none,none,bR⟩
def Xn:Ct:=⟨Ty.pair ae sW,[none,some 3],ae,ah.one none,none,none,wJ⟩
def LI:Ct:=⟨Ty.pair aD (Ty.pair ae (Ty.pair eH aS)),[some 8,none,some 6,some 2],Ty.pair eH bX,ah.tup [some 6,none],none,none,mB⟩
def Ly:Ct:=⟨Ty.pair aD (Ty.pair ae (Ty.pair ae eH)),[some 8,none,none,some 6],wo,ah.one (some 3),none,none,Mx⟩
def ada:Ct:=⟨aS,[some 2],ae,ah.one none,none,none,fH⟩
def Z2:LS aD.den:=aH Aj (Ty.pair ae aD) [] [(1,3)] [(4,none)] [(3,8)] [(8,100508,true,106)] [] [(1,1),(3,3)] 0 false L1 vP zX
def eJ(z:List (Nat×List Nat)):=dN (PX true) Q5 dh Rs z
theorem aqV:bF f7 Nx [0] Z2:=have E:=ai @L1.eq_1<|ai @zX.eq_1<|ai @vP.eq_1<|ai @Kc.eq_1 SN;lA (eJ []) [] l0 (λk x fk fx h=>sm (letI a:=x.2.2.2.2.2.2.2.2;letI b:=aa a x.1;letI c:=(a.length:Int);decide (x.1<c)=true->(((4:Int)≠0)/\(((5:Int)≠0)/\(0<=x.1/\x.1<c)/\0<=x.1/\x.1<((aJ gg a x.1 (b.1,b.2.1,i64.wrap (1+i64.wrap (Int.tmod k.2.2 4)),b.2.2.2)).length)))))
theorem ok7:ar 7 Nx:=au (eJ []) func7 [(5,Z2)] (lc aqV l0) (sp λx fx h=>sl (letI a:=tJ (x.1,x.2.1);letI b:=(3:Int)≠0;XX (x.1,x.2.1)/\b/\b/\L1 x (0,a.1,i64.wrap 1+i64.wrap (Int.tmod x.2.2 3),i64.wrap (i64.wrap (i64.wrap 18*a.2.2.2.2.2.2.2.length+24)+i64.wrap 6*i64.wrap (u8.wrap (Int.tdiv x.2.2 3))),a.2.2.2)) (by
 try dsimp only[Ty.den]at*
 have hz:=ak4 (x:=(x.1,x.2.1)) ⟨h.1,h.2.1⟩;refine⟨⟨h.1,h.2.1⟩,by decide,by decide,au4 _,?_⟩;generalize tJ (x.1,x.2.1)=b at*;exact hz))
theorem aq9:dP 119 Lr:=dV (eJ []) func119 [] l0 (sp λx fx h=>sl (letI c:=x.1.1;letI f:=x.2.2.2;letI g:=x.1.2;letI b:=g.2.2.1;letI e:=(x.2,g.1,g.2.1);letI a:=bt e;letI d:=0<=a.1/\a.1<(f.2.length:Int);letI h:=c==4;letI i:=c==5;letI j:=c==6;letI l:=c==1;letI m:=c==2;letI n:=c==3;zr e/\((h=true->(0<=b/\b<(x.2.1.length:Int)))/\(h=false->((i=true->(0<=b/\b<(x.2.2.1.length:Int)))/\(i=false->((j=true->(0<=b/\b<(f.1.length:Int)))/\(j=false->((l=true->((!a.2)=true->Kr (f.2,a.1,[(g.1,g.2.1,-1,0,false)])))/\(l=false->((m=true->(a.2=true->J6 (f.2,a.1,i64.wrap (a.1+1))))/\(m=false->((n=true->(a.2=true->d))/\(n=false->((c==7)=true->(a.2=true->d/\0<=a.1/\a.1<((oQ x).length)))))))))))))))) (by
 try dsimp only[Ty.den]at*
 obtain⟨h0,h4,h5,h6⟩:=h;have f:=ahK (m:=x.2) (f:=x.1.2.1) (d:=x.1.2.2.1) (auq h0 (by decide));have hp:zr (x.2,x.1.2.1,x.1.2.2.1):=auq h0 (by decide);have hi: ∀e,Kr (x.2.2.2.2,(bt (x.2,x.1.2.1,x.1.2.2.1)).1,[e]):=λe=>⟨f.1,f.2.1,rfl,auq h0 (by decide)⟩
 have hd:(bt (x.2,x.1.2.1,x.1.2.2.1)).2=true->J6 (x.2.2.2.2,(bt (x.2,x.1.2.1,x.1.2.2.1)).1,i64.wrap ((bt (x.2,x.1.2.1,x.1.2.2.1)).1+1)):=λhf=>⟨f.1,f.2.2 hf,cA f.1 (f.2.2 hf) (auq h0 (by decide)),auq h0 (by decide)⟩
 repeat' (first|exact hp|exact hi _|exact hd (by assumption)|exact h4 (by assumption)|exact h5 (by assumption)|exact h6 (by assumption)|exact f.1|exact f.2.2 (by assumption)|(unfold oQ;simp only[aJ,auu];exact f.2.2 (by assumption))|apply And.intro|intro _)))
def Ks:LS (Ty.pair fE bX).den:=aH ae (Ty.pair ae fE) [(42,none)] [] [(43,none)] [(9,16)] [(8,100608,true,70),(9,100609,true,142),(10,100610,true,153),(11,100611,true,158),(12,100612,true,3),(13,100613,true,51)] [] [(9,9)] 0 false zL qn zl
def S9:LS (Ty.pair fE bX).den:=aH (Ty.pair da (Ty.pair ae aD)) (Ty.pair ae fE) [(53,none),(54,none)] [(3,8)] [(55,none)] [(9,16)] [(8,101008,true,70),(9,101009,true,142),(10,101010,true,153),(11,101011,true,158),(12,101012,true,3),(13,101013,true,51)] [] [(3,3),(9,9)] 2 false Ud Je So
theorem Uo(k:ae.den)(x:(Ty.pair ae fE).den)(fk:Fit ae k)(h:zL k x):bf false zL zl k x (qn k x):=by
 try dsimp only[Ty.den]at*
 obtain⟨h0,h1,h2,hx⟩:=h;unfold qn;refine bf.cnd (λhc=> ?_) (λ_=>rfl);rw[adv]at hc;rw[AM h0 hc (aw1 h2 (by decide))];exact⟨rfl,⟨cE h0,Nq h1,h2,hx⟩,dg hc⟩
theorem al7:bF f52 FX [0] Ks:=lA (eJ []) [] l0 (λk x fk fx h=>sl (letI a:=Int×Int×Int×List (ay)×ir;letI b:=(x.2.2.2.2.1:List a);letI c:=([qB ()]:List a);decide (x.1<k)=true->(List.length b+List.length c)*64<=140737488355328/\List.length b+List.length c<=4611686018427387903) (by
 try dsimp only[Ty.den]at*
 obtain⟨h0,h1,h2,_⟩:=h;intro hc;rw[adv]at hc;exact J1 h1 hc (aw1 h2 (by decide)))) Uo
theorem ajU:bF f52 FX [1] S9:=lA (eJ []) [(6,Ks)] l0 (λk x fk fx h=>sl (letI a:=(x.2.2.2.2.2.2.2.1:List Int);letI b:=aa k.1 x.1;letI e:=([0]:List Int);letI f:=b.2.2.1;letI d:=decide (f>=0);letI g:=k.2.2.2.2.2.2.2.2.2;letI c:=([(aa g f).1]:List Int);decide (x.1<k.2.1)=true->(0<=x.1/\x.1<k.1.length)/\(d=true->(0<=f/\f<g.length)/\(List.length a+List.length c)*8<=140737488355328/\List.length a+List.length c<=4611686018427387903)/\(d=false->(List.length a+List.length e)*8<=140737488355328/\List.length a+List.length e<=4611686018427387903)) (by
 try dsimp only[Ty.den]at*
 obtain⟨h0,h1,h2,h3,h4⟩:=h;intro hc;rw[adv]at hc;have r:=ig h0 (h1▸hc);exact⟨r,λhq=>⟨⟨by rw[adv]at hq;exact hq,(h4 _ r.1 r.2).2⟩,J1 h2 hc h3⟩,λ_=>J1 h2 hc h3⟩)) λk x fk h=>by
 try dsimp only[Ty.den]at*
 obtain⟨h0,h1,h2,h3,h4⟩:=h;unfold Je;refine bf.cnd (λhc=> ?_) (λ_=>rfl);rw[adv]at hc;rw[AM h0 hc h3];exact bf.cnd (λ_=>⟨rfl,⟨cE h0,h1,Nq h2,h3,h4⟩,dg hc⟩) (λ_=>⟨rfl,⟨cE h0,h1,Nq h2,h3,h4⟩,dg hc⟩)
theorem atQ:ar 52 FX:=au (eJ []) func52 [(6,Ks),(10,S9)] (lc al7 (lc ajU l0)) (sp λx fx h=>sl (letI a:=(x.1.2.2.2.2.2.2.2.length:Int);letI b:=0<=a/\a=a/\a*8<=140737488355328/\a<=4611686018427387903;letI c:=x.2.1;((!(pC (x.1,c)))||(!(cV (x.1.2.2.1,x.2.2))))=false->(Vf c/\((0<=a/\a=a/\a*296<=140737488355328/\a<=4611686018427387903)/\(0<=a/\a=a/\a*112<=140737488355328/\a<=4611686018427387903)/\b/\b/\zL a (0,wL c,x.2.2,aC fQ a,[],aC iN a,aC jB a,[],aC aS a,0,0,0)/\Ud (c.2.2.2,c.2.2.2.length,x.1) (0,(zS x).2)))) (by
 try dsimp only[Ty.den]at*
 have h:x.2.1.2.2.2.length<=100000:=h;intro hc;rw[auv,ave]at hc;have hf:=hc.1;unfold pC at hf;rw[au0]at hf;obtain⟨_,h1,h2,h3,h4⟩:=Br (x:=(x.1,x.2.1)) fx.1.2.2.2.2.2.2.2.1 (by rw[hf.1];rfl);have he:=ag8 (x:=(x.1,x.2.1)) fx.1.2.2.2.2.2.2.2.1 (auq h (by decide)) hf.1;have h5:x.2.1.1.length<=100000:=auq (ayd h1) (auq h4 (by decide));have h6:x.2.1.2.1.length<=100000:=auq (ayd h2) (auq h4 (by decide));have h7:x.2.1.2.2.1.length<=100000:=auq (ayd h3) (auq h4 (by decide));have hin:zL ((x.1.2.2.2.2.2.2.2).length:Int) ((0:Int),(wL x.2.1),x.2.2,(aC fQ ((x.1.2.2.2.2.2.2.2).length:Int)),[],(aC iN ((x.1.2.2.2.2.2.2.2).length:Int)),(aC jB ((x.1.2.2.2.2.2.2.2).length:Int)),[],(aC aS ((x.1.2.2.2.2.2.2.2).length:Int)),(0:Int),(0:Int),(0:Int)):=⟨au4 _,rfl,oP h4,rfl⟩;have hI:=λn=>oE (λy hy=>Uo ((x.1.2.2.2.2.2.2.2).length:Int) y trivial hy) (λy k' z hz=>by
  unfold qn at hz;revert hz
  unfold cond;split<;>intro hz<;>cases hz;rfl) n _ hin
 have hK:(zS x).2.2.2.2.2.2.2.1= []:=(hI _).2.2.2;refine⟨⟨h5,h6,h7,h⟩,nK h4 296 ⟨by decide,by decide⟩,nK h4 112 ⟨by decide,by decide⟩,nK h4 8 ⟨by decide,by decide⟩,nK h4 8 ⟨by decide,by decide⟩,hin,au4 _,rfl,?_,oP h,he⟩;show(((zS x).2.2.2.2.2.2.2.1.length:Nat):Int)=0;rw[hK];rfl))
theorem am6:ar 103 Yf:=au (eJ []) func103 [] l0 (sp λx fx h=>sl (VL x) (by
 exact h))
def Ux:LS (Ty.pair aw Ty.unit).den:=aH (Ty.pair wB (Ty.pair ae aD)) ae [(13,none),(14,none)] [(3000,8)] [(15,none)] [] [] [] [] 0 true D7 zi DR [(2,57,[3000])]
theorem amj:gU f56 Fq [0] Ux:=have E:=ai @D7.eq_1<|ai @DR.eq_1<|ai @zi.eq_1 SN;lV (eJ []) [] l0 (λk x fk fx h=>sm (decide (x<k.2.1)=true->0<=x/\x<k.1.length))
theorem atC:dP 56 Fq:=have E:=ai @D7.eq_1 SN;dV (eJ []) func56 [(4,Ux)] (lc amj l0) (λx fx _=>sl (letI a:=x.1.length;(a !=x.2.1)=false->D7 (x.1,a,x.2.2) 0))
theorem asq:jP 60 ady:=rj (eJ []) func60 [] l0 (λ_ _ _=>tr)
theorem ar2:ar 64 aa9:=au (eJ []) func64 [] l0 (λx fx _=>sf (letI e:=x.2.2;letI c:=(e.1.1==0)&&((e.1.2.1==0)&&((e.1.2.2.1==0)&&((e.1.2.2.2.1==false)&&(e.1.2.2.2.2==0))));letI d:=(e.2.1.1==0)&&((e.2.1.2.1==0)&&(e.2.1.2.2==0));letI b:=((((!(FK x.2.1))||(!(FT e.1)))||(!(AN (x.1.1,e.2.1))))||((!c)&&(!d)));letI f:=e.2.2.2;letI a:=((ca x.1 !=0)||(f.2.2&&(!(((x.2.1.1==0)&&(x.2.1.2==0))&&(c&&(d&&(e.2.2.1==0&&(f.1==0&&(f.2.1==0&&f.2.2==true)))))))));(a=true->True)/\(a=false->(b=true->True)/\(b=false->0<=x.1.1/\True))) (by
 try dsimp only[Ty.den]at*
 refine⟨λ_=>trivial,λhc=> ?_⟩;have hv:=hc;simp only[auv,au8]at hv;have hb:=oD (Iy fx.1) hv.1;have hfl:=hb.fl;repeat' (first|exact trivial|apply And.intro|intro _)
 all_goals omega))
theorem an8:ar 169 YI:=au (eJ []) func169 [] l0 (λ_ _ _=>tr)
theorem arh:ar 208 Z8:=au (eJ []) func208 [] l0 (λx fx _=>sl (letI a:=x.1.2.2.2.2.2.2.2;(!fI x)=false->(0<=x.2.1/\x.2.1<a.length)/\Ef (x.2.2.2.2.2.1,(aa a x.2.1).1,0,0)) (by
 try dsimp only[Ty.den]at*
 intro hc;rw[ave]at hc;have hb:=(xF fx.1.2.2.2.2.2.2.2.1 fx.2.2.2.2.2.1.1).1 hc;exact⟨hb.eU,auq hb.len (by decide)⟩))
theorem at7:ar 16 acd:=have E:=ai @Ln.eq_1<|ai @ES.eq_1 SN;au (eJ []) func16 [] l0 (sp λx fx h=>sl (ES (x.1,x.2.1)))
theorem asJ:ar 15 abb:=have E:=SN;au (eJ []) func15 [] l0 (λx fx _=>sl (letI b:=x.2.1;letI a:=x.2.2.1==1&&b<i64.wrap (x.1-1);(!mT x||x.2.2.2 !=1||b<0)=false->(a=true->0<=b)/\(a=false->(x.2.2.1==2&&b>0)=true->0<=b)))
theorem aoz:ar 251 Zf:=au (eJ []) func251 [] l0 (λx fx _=>sl ((fI x&&(x.2.2.2.2.2.1.length:Int)==0&&x.2.2.2.2.1==2)=true->0<=x.2.1/\x.2.1<x.1.2.2.2.2.2.2.2.length) (by
 try dsimp only[Ty.den]at*
 intro hc;rw[au0,au0]at hc;obtain⟨_,h1,h2⟩:=N4 fx.1.2.2.2.2.2.2.2.1 hc.1.1;exact⟨h1,h2⟩))
theorem aoI:ar 214 Zi:=au (eJ []) func214 [] l0 (λx fx _=>sl (letI a:=x.2.2.1;letI b:=(x.1.2.2.2.2.2.2.2.length:Int);letI c:=(x.2.2.2.length:Int);((!(cJ (x.1,x.2.1)))||c !=b)=false->(a.1<0||a.1>8)=false->(a.2<0||a.2>=b)=false->(a.1==0)=false->(0<=a.2/\a.2<c)/\Kt ((x.2.1,a.2,aa x.2.2.2 a.2),a.1)) (by
 try dsimp only[Ty.den]at*
 intro h1 _ h3 _;rw[auv,au8]at h1;rw[auv,aut,aut]at h3;obtain⟨_,i1,i2,i3,_⟩:=Br fx.1.2.2.2.2.2.2.2.1 h1.1;exact alT i1 i2 i3 h1.2 h3.1 h3.2))
theorem aoF:ar 217 YY:=au (eJ []) func217 [] l0 (λ_ _ _=>tr)
def Sn:LS gx.den:=aH (Ty.pair ae bN) (Ty.pair gx ae) [(10,none)] [(1,4)] [(3,none),(11,none)] [] [(0,100300,true,335)] [] [(1,1)] 0 false Jj JH I2
theorem akr:bF f230 K3 [0] Sn:=have E:=ai @Jj.eq_1<|ai @I2.eq_1<|ai @JH.eq_1 SN;lA (eJ []) [] l0 (λk x fk fx h=>sm (decide (x.2<k.1)=true->0<=x.2/\x.2<x.1.length))
theorem ao1:ar 230 K3:=au (eJ []) func230 [(3,Sn)] (lc akr l0) (sp λx fx h=>sl (letI a:=(x.1.length:Int);(0<=a/\a=a/\a*56<=140737488355328/\a<=4611686018427387903)/\Jj (((aC eO a).length),x) (aC eO a,0)) (by
 try dsimp only[Ty.den]at*
 have h:x.1.length<=8:=h;exact⟨nK h 56 ⟨by decide,by decide⟩,au4 _,rfl,apy h⟩))
theorem aod:ar 258 Xa:=au (eJ []) func258 [] l0 (sp λx fx h=>sl (letI c:=x.1.2.2.2;letI a:=oY (c,x.2);letI b:=c.length;decide (a.1<0)=false->(0<=a.1/\a.1<b)/\(((aa c a.1).1==x.2.1)=true->0<=a.1/\a.1<b)) (by
 try dsimp only[Ty.den]at*
 intro hc;rw[aut]at hc;have r:=alX (ajW (c:=x.2) h) hc;exact⟨r,λ_=>r⟩))
theorem aoh:ar 181 WT:=au (eJ []) func181 [] l0 (λ_ _ _=>tr)
theorem aoR:ar 290 Xn:=au (eJ []) func290 [] l0 (λx fx _=>sf (((!nP x.1)=true->True)/\((!nP x.1)=false->vr x/\oS (kh x).1/\DF (kh x).2/\True)) (by
 try dsimp only[Ty.den]at*
 simp only[DF,oS,vr,nP,kh,dv,auv,ave,au0,adv,aut]at*;repeat' (first|exact trivial|apply And.intro|intro _)
 all_goals first|omega|exact W.lo (sM _)|exact W.hi (sM _)|(simp only[avi,avk];omega)))
def Re:LS (Ty.pair eH bX).den:=aH (Ty.pair da ae) (Ty.pair ae eH) [(36,none),(37,none)] [] [(38,none)] [(6,6)] [(4,100704,true,191)] [] [(6,6)] 0 false RA uX C3
theorem ai7:bF f182 LI [0] Re:=lA (eJ []) [] l0 (λk x fk fx h=>sl (letI b:=((aa k.1 x.1).1,(aa k.1 x.1).2.1,0);letI a:=(x.2.2.2.2.1,b,some 107);decide (x.1<k.2)=true->(0<=x.1/\x.1<k.1.length)/\U0 a/\((!(lN a).2)=true->V8 (x.2.2.2.2.1,(lN a).1,[b]))) (by
 try dsimp only[Ty.den]at*
 obtain⟨h0,h1,h2,h3⟩:=h;intro hc;rw[adv]at hc;have r:=ig h0 (h1▸hc);have hd:=aue hc h2 h3;have f:=agr (l:=x.2.2.2.2.1) (y:=((aa k.1 x.1).1,(aa k.1 x.1).2.1,(0:Int))) (auq hd (by decide));exact⟨r,⟨auq hd (by decide),rfl⟩,λ_=>⟨f.1,f.2,rfl,auq hd (by decide)⟩⟩)) λk x fk h=>by
 try dsimp only[Ty.den]at*
 obtain⟨h0,h1,h2,h3⟩:=h;unfold uX;refine bf.cnd (λhc=> ?_) (λ_=>rfl);rw[adv]at hc;have e:=AM h0 hc (aw1 h2 (by decide));rw[e];refine bf.cnd (λ_=>⟨rfl,⟨cE h0,h1,h2,?_⟩,dg hc⟩) (λ_=>⟨rfl,⟨cE h0,h1,h2,atZ h3⟩,dg hc⟩);exact atg (Jy _ _ _ rfl) h3
theorem an1:ar 182 LI:=au (eJ []) func182 [(7,Re)] (lc ai7 l0) (λx fx _=>sl (letI b:=x.2.2.1;letI a:=(b.2.2.2.1.length:Int);letI c:=my (dv (x.2.2.2,dB x.1));(!fI (x.1,x.2.1,b))=false->(0<=a/\a=a/\a*24<=140737488355328/\a<=4611686018427387903)/\RA (c,c.length) (0,b.1,b.2.1,b.2.2.1,bc (aC gz a) b.2.2.2.1,b.2.2.2.2)) (by
 try dsimp only[Ty.den]at*
 intro hc;rw[ave]at hc;have hb:=(xF fx.1.2.2.2.2.2.2.2.1 fx.2.2.1.2.2.2.1.1).1 hc;have h:x.2.2.1.2.2.2.1.length<=1000:=auq hb.len (by decide);have hl:=uf (dv (x.2.2.2,dB x.1));exact⟨alV h,au4 _,rfl,oP hl,atr h⟩))
def Tt:LS wo.den:=aH (Ty.pair ae (Ty.pair gd (Ty.pair ae aD))) (Ty.pair ae wo) [(1,none),(24,none),(25,none)] [(4,8)] [(26,none)] [(9,3)] [] [] [(4,4),(9,9)] 0 false Jg IW I3
theorem aj6:bF f184 Ly [0] Tt:=have E:=ai @Jg.eq_1<|ai @I3.eq_1<|ai @IW.eq_1 SN;lA (eJ []) [] l0 (λk x fk fx h=>sm (decide (x.1<k.2.2.1)=true->(0<=x.1/\x.1<k.2.1.length)/\0<=k.1/\k.1<k.2.2.2.2.2.2.2.2.2.2.length))
theorem ao5:ar 184 Ly:=au (eJ []) func184 [(5,Tt)] (lc aj6 l0) (λx fx _=>sl (letI a:=x.2.2.2.2.2.2.1;(!Mr x.2.2.1|| !fI (x.1,x.2.1,x.2.2.2))=false->Jg (x.2.1,a,a.length,x.1) (0,(0,0),false)) (by
 try dsimp only[Ty.den]at*
 intro hc;rw[auv,ave,ave]at hc;obtain⟨_,h1,h2⟩:=N4 fx.1.2.2.2.2.2.2.2.1 hc.2;exact⟨au4 _,rfl,h1,h2⟩))
theorem at0:ar 25 ada:=au (eJ []) func25 [] l0 (λ_ _ _=>tr)
def abO(nw:Bool):=(119,.pv Lr)::(56,.pv Fq)::aaV nw
theorem P4(nw:Bool):gj (abO nw):=zc (z:= .pv Lr) aq9 func119 (zc (z:= .pv Fq) atC func56 ((PX nw)))
def aav:List (Nat×Cp):=(60,ady)::abg
theorem QA:ia aav:=pc asq func60 (Q5)
def ade:=(7,Nx)::(52,FX)::(103,Yf)::(64,aa9)::(169,YI)::(208,Z8)::(16,acd)::(15,abb)::(251,Zf)::(214,Zi)::(217,YY)::(230,K3)::(258,Xa)::(181,WT)::(290,Xn)::(182,LI)::(184,Ly)::(25,ada)::aaI
theorem RS:cu ade:=gc ok7 func7 (gc atQ func52 (gc am6 func103 (gc ar2 func64 (gc an8 func169 (gc arh func208 (gc at7 func16 (gc asJ func15 (gc aoz func251 (gc aoI func214 (gc aoF func217 (gc ao1 func230 (gc aod func258 (gc aoh func181 (gc aoR func290 (gc an1 func182 (gc ao5 func184 (gc at0 func25 (Rs))))))))))))))))))
def bW(b:ab)(r:aI):Prop:=
 ((r.1=1\/r.1=2)/\cL b.1 r.2.1 r.2.2.1/\r.2.2.2.1=0/\r.2.2.2.2=0)\/(r.1=3/\cL b.1 r.2.1 r.2.2.1/\ -2<=r.2.2.2.1/\r.2.2.2.1<=b.2.2.2.2.2.2.2.length-1/\r.2.2.2.2=0)\/
 (r.1=7/\cL b.1 r.2.1 r.2.2.1/\0<=r.2.2.2.1/\r.2.2.2.1<=1/\0<=r.2.2.2.2/\r.2.2.2.2<=255)\/
 (r.1=4/\r.2.1=0/\r.2.2.1=0/\0<=r.2.2.2.1/\r.2.2.2.1<=b.2.2.2.2.2.2.2.length-1/\0<=r.2.2.2.2/\r.2.2.2.2<=4)\/
 ((r.1=5\/r.1=6)/\r.2.1=0/\r.2.2.1=0/\0<=r.2.2.2.1/\r.2.2.2.1<=b.2.2.2.2.2.2.2.length-1/\0<=r.2.2.2.2/\r.2.2.2.2<=1)
theorem aeb(a b c:Int):px (a,b,c)=true↔b<=a/\a<=c:=by
 simp_all [px]
theorem su{b:ab}(hl:b.2.2.2.2.2.2.2.length<=maxLen)(r:aI):iW (b,r)=true↔aK b/\bW b r:=by
 have g:ca b=0↔aK b:=by rw[kB b hl,jS]
 by_cases a:aK b
 ·have m:b.2.2.2.2.2.2.2.length<=8:=a.cn.2
  have hw:i64.wrap (b.2.2.2.2.2.2.2.length-1)=b.2.2.2.2.2.2.2.length-1:=aA (by omega) (by omega);have i:=λf d=>Bn hl f d
  obtain⟨k,f,d,c,v⟩:=r;have l:k=1\/k=2\/k=3\/k=4\/k=5\/k=6\/k=7\/(k≠1/\k≠2/\k≠3/\k≠4/\k≠5/\k≠6/\k≠7):=by omega
  unfold iW bW;simp only[g.2 a,hw];rcases l with rfl|rfl|rfl|rfl|rfl|rfl|rfl|⟨h1,h2,h3,h4,h5,h6,h7⟩
  all_goals(try simp only[awm,aur,axh,auw,show((2:Int)==1)=false from rfl,show((3:Int)==1)=false from rfl,show((3:Int)==2)=false from rfl,show((4:Int)==1)=false from rfl,show((4:Int)==2)=false from rfl,show((4:Int)==3)=false from rfl,show((4:Int)==7)=false from rfl,show((5:Int)==1)=false from rfl,show((5:Int)==2)=false from rfl,show((5:Int)==3)=false from rfl,show((5:Int)==7)=false from rfl,show((5:Int)==4)=false from rfl,show((6:Int)==1)=false from rfl,show((6:Int)==2)=false from rfl,show((6:Int)==3)=false from rfl,show((6:Int)==7)=false from rfl,show((6:Int)==4)=false from rfl,show((6:Int)==5)=false from rfl,show((7:Int)==1)=false from rfl,show((7:Int)==2)=false from rfl,show((7:Int)==3)=false from rfl,au0,awt,i,aeb,a,azc])
  case inr.inr.inr.inr.inr.inr.inr=>
   have e:=λj h=>(beq_eq_false_iff_ne.2 h:(k==j)=false)
   simp[h1,h2,h3,h4,h5,h6,h7]
  all_goals simp[aBw]
 ·constructor
  ·intro h
   unfold iW at h;have:(ca b !=0)=true:=by rw[axq];exact λh2=>a (g.1 h2)
   simp only[this,auw]at h;cases h
  ·exact λh=>absurd h.1 a
theorem bW.eU{b:ab}{r:aI}(h:bW b r){k:Int}(a:(r.1==k)=true)(f:k=4\/k=5\/k=6):0<=r.2.2.2.1/\r.2.2.2.1<b.2.2.2.2.2.2.2.length:=by
 rw[awt]at a;rcases h with⟨h,_⟩|⟨h,_⟩|⟨h,_⟩|⟨_,_,_,h1,h2,_⟩|⟨_,_,_,h1,h2,_⟩
 all_goals omega
theorem bW.ch{b:ab}{r:aI}{m:ak}(h:bW b r)(hm:aT b m):MD (r,m):=by
 have hl:=hm.len;refine⟨auq hl (by decide),λa=> ?_,λa=> ?_,λa=> ?_⟩
 ·exact hm.l1▸h.eU a (.inl rfl)
 ·exact hm.l2▸h.eU a (.inr (.inl rfl))
 ·exact hm.l3▸h.eU a (.inr (.inr rfl))
theorem aT.clone{b:ab}{m:ak}(h:aT b m):m.1.length<=100000/\m.2.1.length<=100000/\m.2.2.1.length<=100000/\m.2.2.2.length<=100000:=by
 have a:b.2.2.2.2.2.2.2.length<=8:=h.bB.cn.2;have:=h.len;rw[h.l1,h.l2,h.l3];omega
theorem Hj(r:aI)(m:ak):(ef (r,m)).2.1.length=m.1.length/\(ef (r,m)).2.2.1.length=m.2.1.length/\(ef (r,m)).2.2.2.1.length=m.2.2.1.length/\(ef (r,m)).2.2.2.2.length<=m.2.2.2.length+1:=by
 unfold ef;all_goals grind [aJ,Fp,FR,iU,iz,vI,oQ,oL]
def wj(n:Nat)(r:aI):Prop:=((r.1==4)=true->0<=r.2.2.2.1/\r.2.2.2.1<n)/\((r.1==5)=true->0<=r.2.2.2.1/\r.2.2.2.1<n)/\((r.1==6)=true->0<=r.2.2.2.1/\r.2.2.2.1<n)
theorem bW.rc{b:ab}{r:aI}(h:bW b r):wj b.2.2.2.2.2.2.2.length r:=⟨λa=>h.eU a (.inl rfl),λa=>h.eU a (.inr (.inl rfl)),λa=>h.eU a (.inr (.inr rfl))⟩
theorem adQ(x:ab×ByteArray)(h:(nO x).2=0):iW (x.1,(nO x).1)=true:=by
 grind [nO,Kv]
theorem aeE{b:ab}{s:ByteArray}: ∀r∈(fM (b,s)).1,iW (b,r)=true:=by
 unfold fM;have g:=iq (step:=kF) (k:=(s,b)) (I:=λy=> ∀r∈y.1,iW (b,r)=true) (λy k' z f a=>by
  unfold kF at a;revert a
  cases decide (i64.wrap (y.2+6)<=(((s,b).1).size:Int))with
  |false=>rw[aur];intro a;cases a
  |true=>
   rw[auw];cases hq:((nO ((s,b).2,ByteArray.extract (s,b).1 (Int.toNat y.2) (Int.toNat (i64.wrap (y.2+6))))).2 !=0)with
   |true=>rw[auw];intro a;cases a
   |false=>
    rw[aur];intro a;cases a;rw[au8]at hq;intro r hr;rw[aww,av8]at hr;rcases hr with hr|rfl
    ·exact f r hr
    ·exact adQ (b,ByteArray.extract s (Int.toNat y.2) (Int.toNat (i64.wrap (y.2+6)))) hq) (λy k' z f a=>by
  unfold kF at a;revert a
  simp only[cond];repeat' split
  all_goals(intro a;first|(cases a;done)|(cases a;exact f))) (Nat.succ (qd (s,b) ([],0))) ([],0) (λr hr=>by cases hr)
 exact g
theorem aij{b:ab}{s:ByteArray}(hs:s.size<=1000000000):6*(fM (b,s)).1.length<=s.size:=by
 have h:=iq (step:=kF) (k:=(s,b)) (I:=λy=>6*y.1.length=y.2/\0<=y.2/\y.2<=s.size) (λy k' z g a=>by
  unfold kF at a;revert a
  have e:i64.wrap (y.2+6)=y.2+6:=aA (by omega) (by omega);rw[e];by_cases f:y.2+6<=(((s,b).1).size:Int)
  ·simp only[f,avn]
   simp only[cond];split
   ·intro a;cases a
   ·intro a
    cases a;refine⟨?_,by omega,f⟩;rw[au1,aAg];omega
  ·simp only[f,aur]
   intro a;cases a) (λy k' z g a=>by
  unfold kF at a;revert a
  simp only[cond];repeat' split
  all_goals(intro a;first|(cases a;done)|(cases a;exact g))) (Nat.succ (qd (s,b) ([],0))) ([],0) ⟨rfl,au4 _,auz _⟩
 show 6*(endOf kF (s,b) (Nat.succ (qd (s,b) ([],0))) ([],0)).1.length<=s.size;omega
theorem Tj{b:ab}{s:ByteArray}(hl:b.2.2.2.2.2.2.2.length<=maxLen)(hs:s.size<=500000):
  (fM (b,s)).1.length<=90000/\(gk b).1.2.1.length=(gk b).1.1.length/\(gk b).1.2.2.1.length=(gk b).1.1.length/\(((gk b).1.2.2.2.length:Nat):Int)<=0/\ ∀r∈(fM (b,s)).1,wj (gk b).1.1.length r:=by
 have f:=aij (b:=b) (s:=s) (by omega);have hi:(gk b).1.2.1.length=(gk b).1.1.length/\(gk b).1.2.2.1.length=(gk b).1.1.length/\(((gk b).1.2.2.2.length:Nat):Int)<=0/\(aK b->(gk b).1.1.length=b.2.2.2.2.2.2.2.length):=by
  unfold gk;cases hc:(ca b !=0)with
  |true=>
   simp_all [kB,jS]
  |false=>simp_all [aC]
 refine⟨by omega,hi.1,hi.2.1,hi.2.2.1,λr hr=> ?_⟩;obtain⟨a,hr⟩:=(su hl r).1 (aeE r hr);rw[hi.2.2.2 a];exact hr.rc
theorem Qb{s:bO}{n:Nat}(h1:s.1.1.size<=n)(h2:s.1.2.size<=n):(dt s).size<=n:=by
 grind [dt]
theorem wj.ch{r:aI}{m:ak}{n:Int}(h:wj m.1.length r)(h1:m.2.1.length=m.1.length)(h2:m.2.2.1.length=m.1.length)(h3:m.2.2.2.length<=n)(f:n<=90000):MD (r,m):=
 ⟨by grind,h.1,λa=>h1.symm▸h.2.1 a,λa=>h2.symm▸h.2.2 a⟩
def jj(c:eQ):Prop:=0<=c.1/\c.1<=4294967295
theorem ajM(x:Int):0<=u32.wrap x/\u32.wrap x<=4294967295:=by grind [IntKind.wrap_u32]
theorem akv{c:eQ}(h:jj c)(i:Int)(a:Bool):jj (pA (c,i,a)):=by
 unfold pA;simp only[cond];repeat' split
 all_goals first|exact h|exact ajM _
theorem Pu(k:nG)(x:Int×bE): ∃c d a f g i,rU k x=bif decide (x.1<36)then(bif c then an.next k (i,x.2.1,a)else bif d then an.next k (i,pA (x.2.1,x.1,gT (k.2,x.1)),f)else an.next k (i,x.2.1,g))else an.brk k x:=⟨_,_,_,_,_,_,rfl⟩
theorem H3{s:bE}(h:jj s.1){n:Int}(c:eQ):jj (kM (n,s,c)).1.1:=by
 have hs:jj (wF (n,s,c)).1:=by
  unfold wF;have g:=iq (step:=rU) (k:=(n,c)) (I:=λy=>jj y.2.1) (λy k' z f a=>by
   obtain⟨c1,d1,j,l,m,i,e⟩:=Pu (n,c) y;rw[e]at a;revert a
   cases decide (y.1<36)with
   |false=>rw[aur];intro a;cases a
   |true=>
    rw[auw];cases c1 with
    |true=>rw[auw];intro a;cases a;exact f
    |false=>
     rw[aur];cases d1 with
     |true=>rw[auw];intro a;cases a;exact akv f _ _
     |false=>rw[aur];intro a;cases a;exact f) (λy k' z f a=>by
   obtain⟨c1,d1,j,l,m,i,e⟩:=Pu (n,c) y;rw[e]at a;revert a
   cases decide (y.1<36)with
   |false=>rw[aur];intro a;cases a;exact f
   |true=>
    rw[auw];cases c1 with
    |true=>rw[auw];intro a;cases a
    |false=>
     rw[aur];cases d1 with
     |true=>rw[auw];intro a;cases a
     |false=>rw[aur];intro a;cases a) (Nat.succ (uJ (n,c) ((0:Int),s))) ((0:Int),s) h
  exact g
 unfold kM;cases(!(mb ((n,s,c).1,(n,s,c).2.1)))with
 |true=>exact⟨au4 0,(by decide:(0:Int)<=4294967295)⟩
 |false=>exact hs
structure cF (t:aq):Prop where
 n8:t.1.2.2.2.2.2.2.2.length<=8
 cf: ∀d∈t.2.1.2.2.1,jj d.1
 c1:t.2.1.2.2.1.length=t.1.2.2.2.2.2.2.2.length
 c2:t.2.1.2.2.2.1.length=t.1.2.2.2.2.2.2.2.length
 c3:t.2.1.2.2.2.2.1.length=t.1.2.2.2.2.2.2.2.length
 c4:t.2.1.2.2.2.2.2.1.length=t.1.2.2.2.2.2.2.2.length
 c5:t.2.2.2.2.2.2.1.length=t.1.2.2.2.2.2.2.2.length
 c6:t.2.2.2.2.2.2.2.1.length=t.1.2.2.2.2.2.2.2.length
 c7:t.2.2.2.2.2.2.2.2.1.length=t.1.2.2.2.2.2.2.2.length
 c8:t.2.2.2.2.2.2.2.2.2.2.2.2.2.2.length=t.1.2.2.2.2.2.2.2.length
 p1:t.2.1.1.1.length=t.1.2.2.2.2.2.2.2.length
 p2:t.2.1.1.2.1.length=t.1.2.2.2.2.2.2.2.length
 p3:t.2.1.1.2.2.1.length=t.1.2.2.2.2.2.2.2.length
 ph: ∀p∈t.2.1.1.1,p=0
 eK:t.2.2.2.1=true->t.2.2.1.2.2.length=t.1.2.2.2.2.2.2.2.length
 cmd:t.2.2.2.1=true->t.2.2.1.2.1.1=0\/t.2.2.1.2.1.1=8
 iY:t.2.2.2.1=true->0<=t.2.2.1.2.1.2/\t.2.2.1.2.1.2<(t.1.2.2.2.2.2.2.2.length:Int)
theorem asW{x n:Int}{m:Nat}(h1:n=m)(h2:m<=90000)(a:x<n):x<=90000:=by omega
theorem acW{a b:Nat}{x:Int}(h:a<=b+1)(h2:b<=x):a<=x+1:=by omega
theorem df{x:Int}{n m:Nat}(r:0<=x/\x<n)(h:m=n):0<=x/\x<m:=h▸r
theorem aeJ{p:Int}(h:p=0)(a:qE p=true):False:=by subst h;exact absurd a (by decide)
theorem eu{e:Ty}(n:Nat):(aC e n).length=n:=by simp[aC]
theorem lY{n m:Nat}(h:n=m)(a:m<=8):n<=8:=by omega
def AR(i j:Int):Int:=i64.wrap (Int.fdiv (u64.wrap (i64.wrap (i+j))) (2^(min ((1:Int)).toNat u64.bits)))
theorem KJ{α:Type} [Inhabited α]{k:α->Int}{l:List α}(h:eM k l){p q:Nat}(f:p<=q)(a:q<l.length):k (aa l p)<=k (aa l q):=by
 rw[bH l p (by omega),bH l q a];rcases axe p q with h1|h1
 ·exact aBv (List.pairwise_iff_getElem.1 h p q (by omega) a h1)
 grind
theorem bsearch{α K ρ:Type} [Inhabited α]{st:K->af->an K (af) ρ}{k:K}{l:List α}{key:α->Int}{t:Int}{less:α->Bool}(hl:l.length<=1000000)(hs:eM key l)
  (h: ∀i j:Int,st k (i,j)=bif decide (i<j)then(bif less (aa l (AR i j))then .next k (i64.wrap (AR i j+1),j)else .next k (i,AR i j))else .brk k (i,j))
  (f: ∀q:Nat,q<l.length->(less (aa l q)=true↔key (aa l q)<t)):
  ∀(n i j:Nat),i<=j->j<=l.length->j-i<n->(∀q:Nat,q<i->key (aa l q)<t)->(∀q:Nat,j<=q->q<l.length->t<=key (aa l q))->
   ∃a:Nat,a<=l.length/\(endOf st k n (i,j)).1=a/\(∀q:Nat,q<a->key (aa l q)<t)/\(∀q:Nat,a<=q->q<l.length->t<=key (aa l q))
 |0,i,j,_,_,u,_,_=>by omega
 |n+1,i,j,y,w,u,h1,h2=>by
  simp only[endOf];rw[h];by_cases o:i<(j:Int)
  ·have hm:AR i j=(((i+j)/2:Nat):Int):=by
    unfold AR;rw[zt (by omega) (by omega) (by omega)];omega
   have g:(i+j)/2<l.length:=by omega
   rw[axr o,auw,hm];cases hb:less (aa l (((i+j)/2:Nat):Int))with
   |true=>
    rw[auw,aA (by omega) (by omega)];have m:=(f _ g).1 hb;exact bsearch hl hs h f n ((i+j)/2+1) j (by omega) w (by omega) (λq s=>Int.lt_of_le_of_lt (KJ hs (by omega) g) m) h2
   |false=>
    have m:t<=key (aa l (((i+j)/2:Nat):Int)):=by
     have:=mt (f _ g).2 (by rw[hb];exact Bool.false_ne_true);omega
    exact bsearch hl hs h f n i ((i+j)/2) (by omega) (by omega) (by omega) h1 (λq s x=>aw1 m (KJ hs s x))
  ·rw[axg o,aur]
   exact⟨i,by omega,rfl,h1,λq g=>h2 q (by omega)⟩
structure mM {α:Type} [Inhabited α] (key:α->Int) (l:List α) (t:Int) (a:Nat):Prop where
 le:a<=l.length
 lt: ∀q:Nat,q<a->key (aa l (q:Int))<t
 ge: ∀q:Nat,a<=q->q<l.length->t<=key (aa l (q:Int))
theorem mM.uniq{α:Type} [Inhabited α]{key:α->Int}{l:List α}{t:Int}{a b:Nat}(h:mM key l t a)(f:mM key l t b):a=b:=by
 rcases Nat.lt_trichotomy a b with h1|h1|h1
 ·have:=f.lt a h1;have:=h.ge a (au2 _) (au5 h1 f.le);omega
 ·omega
 ·have:=h.lt b h1;have:=f.ge b (au2 _) (au5 h1 h.le);omega
theorem mM.mem{α:Type} [Inhabited α]{key:α->Int}{l:List α}{t:Int}{a:Nat}(hs:eM key l)(h:mM key l t a):(a<l.length/\key (aa l a)=t)↔ ∃e∈l,key e=t:=by
 constructor
 ·grind [bH]
 ·rintro⟨e,g,i⟩
  obtain⟨q,f,rfl⟩:=av0 g;rw[<- bH l q f]at i;have h1:a<=q:=by
   rcases axe q a with h2|h2
   ·have:=h.lt q h2;omega
   ·exact h2
  have:=KJ hs h1 f;have:=h.ge a (au2 _) (by omega);omega
theorem cL.dir{fl f d:Int}(h:cL fl f d):d=1\/d=2:=by grind [cL]
theorem zE{a b c d:Int}(f:c=1\/c=2)(g:d=1\/d=2):ck a c=ck b d↔a=b/\c=d:=by grind [ck]
theorem nu{b:ab}{m:ak}(hm:aT b m){f d:Int}(h:d=1\/d=2): ∃a:Nat,mM ek m.2.2.2 (ck f d) a/\(bt (m,f,d)).1=(a:Int)/\((bt (m,f,d)).2=true↔a<m.2.2.2.length/\ek (aa m.2.2.2 (a:Int))=ck f d):=by
 have y:=hm.len;have o: ∀q:Nat,q<m.2.2.2.length->(aa m.2.2.2 (q:Int)).2.1=1\/(aa m.2.2.2 (q:Int)).2.1=2:=λq g=>(lp.1 hm.ft q g).1.dir
 obtain⟨a,h1,h2,h3,h4⟩:=bsearch (st:=rZ) (k:=(m.2.2.2,some 140,(f,d,(0:Int),(0:Int),false))) (l:=m.2.2.2) (key:=ek) (t:=ck f d) (less:=λe=>decide (FU 140 (e,(f,d,(0:Int),(0:Int),false))<0)) (by omega) hm.fg (λi j=>rfl) (λq g=>by
  rw[adv];exact(nm (o q g) h).1) (Nat.succ (sg (m.2.2.2,some 140,(f,d,(0:Int),(0:Int),false)) ((0:Int),(m.2.2.2.length:Int)))) 0 m.2.2.2.length (by omega) (au2 _) (by simp_all [sg]) (λq g=>by omega) (λq z A=>by omega)
 have u:(DT (m.2.2.2,some 140,(f,d,(0:Int),(0:Int),false)) ((0:Int),(m.2.2.2.length:Int))).1=(a:Int):=h2;refine⟨a,⟨h1,h3,h4⟩,u,?_⟩;unfold bt FN;simp only;rw[u,au0,adv,awt];constructor
 ·rintro⟨w,s⟩
  have x:a<m.2.2.2.length:=by omega
  exact⟨x,(nm (o a x) h).2.1 s⟩
 ·rintro⟨w,s⟩
  exact⟨by omega,(nm (o a w) h).2.2 s⟩
theorem Ib{b:ab}{m:ak}(hm:aT b m){f d:Int}(h:d=1\/d=2):(bt (m,f,d)).2=true↔ ∃e∈m.2.2.2,e.1=f/\e.2.1=d:=by
 obtain⟨a,h1,_,h3⟩:=nu hm h;rw[h3,h1.mem hm.fg];constructor
 ·rintro⟨e,g,i⟩;exact⟨e,g,(zE (hm.ft e g).1.dir h).1 i⟩
 ·rintro⟨e,g,i⟩;exact⟨e,g,(zE (hm.ft e g).1.dir h).2 i⟩
theorem R8{α:Type} [Inhabited α]{key:α->Int}{l:List α}{t:Int}{a:Nat}{e:α}(hs:eM key l)(h:mM key l t a)(j:key e=t)(k: ¬ (a<l.length/\key (aa l a)=t)):eM key (iz l a [e]):=by
 unfold iz eM;rw[awa,avb];refine List.pairwise_append.2 ⟨hs.take,?_,λx i y f=> ?_⟩
 ·rw[List.singleton_append]
  refine List.pairwise_cons.2 ⟨λy f=> ?_,hs.drop⟩;obtain⟨q,g,rfl⟩:=av0 f;rw[avo]at g;rw[aBa,<- bH l (a+q) (by omega)];have h1:=h.ge (a+q) (by omega) (by omega);rcases aAy q with h2|h2
  ·subst h2
   rw[awr]at h1⊢;omega
  ·have h3:=List.pairwise_iff_getElem.1 hs a (a+q) (by omega) (by omega) (by omega)
   rw[<- bH l a (by omega),<- bH l (a+q) (by omega)]at h3;have:=h.ge a (au2 _) (by omega);omega
 ·have m:key x<t:=by
   obtain⟨q,g,rfl⟩:=av0 i;rw[avp]at g;rw[aAa,<- bH l q (by omega)];exact h.lt q (by omega)
  rw[List.singleton_append,avv]at f;rcases f with rfl|f
  ·omega
  ·obtain⟨q,g,rfl⟩:=av0 f
   rw[avo]at g;rw[aBa,<- bH l (a+q) (by omega)];have:=h.ge (a+q) (by omega) (by omega);omega
theorem akH{α:Type}{key:α->Int}{l:List α}{i:Int}(hs:eM key l):eM key (iU l i):=by
 unfold iU;refine aAh ?_ hs;grind [List.Sublist.append,List.drop_drop,List.drop_sublist,List.take_append_drop]
theorem uS{α:Type}{l:List α}{i:Int}{v:List α}{x:α}:x∈iz l i v↔x∈v\/x∈l:=by
 grind [iz,List.take_append_drop]
theorem S0{α:Type}{l:List α}{i:Int}{x:α}(h:x∈iU l i):x∈l:=by
 grind [iU]
theorem TG{α:Type} [Inhabited α]{key:α->Int}{l:List α}{a:Nat}{e:α}(hs:eM key l)(g:a<l.length)(k:key e=key (aa l a)):eM key (l.set a e):=by
 refine List.pairwise_iff_getElem.2 λi j hi f m=> ?_
 rw[auu]at hi f;have h:=List.pairwise_iff_getElem.1 hs i j hi f m;rw[bH l a g]at k;grind
theorem ry{m:ak}{r:aI}(h:r.1=1):(ef (r,m)).2=(m.1,m.2.1,m.2.2.1,bif(bt (m,r.2.1,r.2.2.1)).2 then m.2.2.2 else iz m.2.2.2 (bt (m,r.2.1,r.2.2.1)).1 [(r.2.1,r.2.2.1,-1,0,false)]):=by
 grind [ef,Fp]
theorem xB{m:ak}{r:aI}(h:r.1=2):(ef (r,m)).2=(m.1,m.2.1,m.2.2.1,bif(bt (m,r.2.1,r.2.2.1)).2 then iU m.2.2.2 (bt (m,r.2.1,r.2.2.1)).1 else m.2.2.2):=by
 grind [ef,FR]
theorem xz{m:ak}{r:aI}(h:r.1=3):(ef (r,m)).2=(m.1,m.2.1,m.2.2.1,bif(bt (m,r.2.1,r.2.2.1)).2 then vI (r,m)else m.2.2.2):=by
 grind [ef]
theorem xC{m:ak}{r:aI}(h:r.1=7):(ef (r,m)).2=(m.1,m.2.1,m.2.2.1,bif(bt (m,r.2.1,r.2.2.1)).2 then oL (r,m)else m.2.2.2):=by
 grind [ef]
theorem Bo{m:ak}{r:aI}(h:r.1=4):(ef (r,m)).2=(aJ ae m.1 r.2.2.2.1 r.2.2.2.2,m.2):=by
 simp_all [ef]
theorem xD{m:ak}{r:aI}(h:r.1=5):(ef (r,m)).2=(m.1,aJ aw m.2.1 r.2.2.2.1 (r.2.2.2.2==1),m.2.2):=by
 simp_all [ef]
theorem Bv{m:ak}{r:aI}(h:r.1=6):(ef (r,m)).2=(m.1,m.2.1,aJ aw m.2.2.1 r.2.2.2.1 (r.2.2.2.2==1),m.2.2.2):=by
 simp_all [ef]
theorem aT.with{b:ab}{m:ak}(hm:aT b m){l:List az}(a: ∀e∈l,lT b e)(hs:eM ek l):aT b (m.1,m.2.1,m.2.2.1,l):=⟨hm.bB,hm.l1,hm.l2,hm.l3,hm.ph,a,hs⟩
theorem Rc{α:Type} [Inhabited α]{l:List α}{a:Nat}{e:α}(f:a<l.length):aa (l.set a e) a=e:=by
 rw[bH _ a (by simp_all),List.getElem_set_self]
theorem lT.UL{b:ab}{m:ak}(hm:aT b m){a:Nat}(f:a<m.2.2.2.length):lT b (aa m.2.2.2 a):=lp.1 hm.ft a f
theorem mc{b:ab}{m:ak}{r:aI}(hm:aT b m)(hr:bW b r):aT b (ef (r,m)).2:=by
 rcases hr with⟨h1|h1,f,h3,h4⟩|⟨h1,f,h3,h4,h5⟩|⟨h1,f,h3,h4,h5,h6⟩|⟨h1,h2,h3,h4,h5,h6,h7⟩|⟨h1|h1,h2,h3,h4,h5,h6,h7⟩
 ·rw[ry h1]
  obtain⟨a,l,j,k⟩:=nu hm f.dir;cases hf:(bt (m,r.2.1,r.2.2.1)).2 with
  |true=>rw[auw];exact hm
  |false=>
   rw[aur,j];refine hm.with (λe he=> ?_) (R8 hm.fg l rfl (λh=>by rw[k.2 h]at hf;cases hf));rcases uS.1 he with he|he
   ·rw[av8]at he
    subst he;exact⟨f,by show(-2:Int)<= -1;decide,by have:=hm.bB.cn.1;show(-1:Int)<_;omega,by show 0<=0;decide,by show 0<=255;decide⟩
   ·exact hm.ft e he
 ·rw[xB h1]
  cases hf:(bt (m,r.2.1,r.2.2.1)).2 with
  |true=>rw[auw];exact hm.with (λe he=>hm.ft e (S0 he)) (akH hm.fg)
  |false=>exact hm
 ·rw[xz h1]
  obtain⟨a,l,j,k⟩:=nu hm f.dir;cases hf:(bt (m,r.2.1,r.2.2.1)).2 with
  |true=>
   obtain⟨g,s⟩:=k.1 hf;have i:=lT.UL hm g;unfold vI;simp only[j,aJ];refine hm.with (λe he=> ?_) (TG hm.fg g rfl);rcases azo he with he|rfl
   ·exact hm.ft e he
   ·exact⟨i.1,h3,by show r.2.2.2.1<_;omega,i.2.2.2⟩
  |false=>rw[aur];exact hm
 ·rw[xC h1]
  obtain⟨a,l,j,k⟩:=nu hm f.dir;cases hf:(bt (m,r.2.1,r.2.2.1)).2 with
  |true=>
   obtain⟨g,s⟩:=k.1 hf;have i:=lT.UL hm g;have t:oL (r,m)=m.2.2.2.set a ((aa m.2.2.2 a).1,(aa m.2.2.2 a).2.1,(aa m.2.2.2 a).2.2.1,r.2.2.2.2,(r.2.2.2.1==1)):=by
    unfold oL oQ;simp only[j,aJ,awa,Rc g,aBm]
   rw[t];refine hm.with (λe he=> ?_) (TG hm.fg g rfl);rcases azo he with he|rfl
   ·exact hm.ft e he
   ·exact⟨i.1,i.2.1,i.2.2.1,h5,h6⟩
  |false=>rw[aur];exact hm
 ·rw[Bo h1]
  refine⟨hm.bB,by simp only[aJ,auu];exact hm.l1,hm.l2,hm.l3,λp o=> ?_,hm.ft,hm.fg⟩;rcases azo o with o|rfl
  ·exact hm.ph p o
  ·exact⟨h6,h7⟩
 ·rw[xD h1]
  exact⟨hm.bB,hm.l1,by simp only[aJ,auu];exact hm.l2,hm.l3,hm.ph,hm.ft,hm.fg⟩
 ·rw[Bv h1]
  exact⟨hm.bB,hm.l1,hm.l2,by simp only[aJ,auu];exact hm.l3,hm.ph,hm.ft,hm.fg⟩
def VG(k:(List (aP))×Int)(x:Int×ak):Prop:=0<=x.1/\k.2=k.1.length/\k.1.length<=90000/\x.2.2.1.length=x.2.1.length/\x.2.2.2.1.length=x.2.1.length/\x.2.2.2.2.length<=x.1/\ ∀r∈k.1,wj x.2.1.length r
def vD(k:((List (aP))×Int))(x:(Int×ak)):Nat:=(k.2-x.1).toNat
def nD(k:(List (aP))×Int)(x:Int×ak):an ((List (aP))×Int) (Int×ak) ak:=bif x.1<k.2 then .next k (i64.wrap (x.1+1),(ef (aa k.1 x.1,x.2)).2)else .brk k x
def YN k x:=endOf nD k (Nat.succ (vD k x)) x
def pD(x:ab×bO):=letI a:=fM (x.1,dt x.2);(YN (a.1,a.1.length) (0,(gk x.1).1)).2
def LF(x:ab×bO):Prop:=x.2.1.1.size<=500000/\x.2.1.2.size<=500000
def pG(x:List Int):= !mJ (x,some 104)
def D1(k:(List bT)×Int×ab)(x:Int):Prop:=0<=x/\k.2.1=k.1.length
def Dz(k:((List (bT))×Int×ab))(x:(Int)):Nat:=(k.2.1-x).toNat
def zm(k:(List bT)×Int×ab)(x:Int):=bif x<k.2.1 then bif !(F60 (x,aa k.1 x,k.2.2)).1 then an.ret (false,())else an.next k (i64.wrap (x+1))else an.brk k x
def aak k x:=bj zm k (Nat.succ (Dz k x)) x
def F2(x:(List bT)×Int×ab):=letI a:=x.1.length;bif a !=x.2.1 then(false,())else dJ (aak (x.1,a,x.2.2) 0) (λy=>y) (true,())
def F63(x:Int×iE×ab):=(jO (x.2.2,x.2.1),x.2.2)
def Si(k:(List eG)×Int)(x:Int×aq):Prop:=0<=x.1/\k.2=k.1.length/\cF x.2/\k.1.length=x.2.1.2.2.2.2.2.2.2.length
def CD(k:((List (eG))×Int))(x:(Int×aq)):Nat:=(k.2-x.1).toNat
def uD(k:(List eG)×Int)(x:Int×aq):an ((List eG)×Int) (Int×aq) (Unit×aq):=letI a:=x.2.2.1.2.2;bif x.1<k.2 then .next k (i64.wrap (x.1+1),x.2.1,(x.2.2.1.1,x.2.2.1.2.1,aJ fQ a.1 x.1 (kM (x.2.1.2.1,aa a.1 x.1,(aa k.1 x.1).1)).1,a.2.1,a.2.2.1,aJ jB a.2.2.2.1 x.1 (sY (x.2.1,aa a.2.2.2.1 x.1,(aa k.1 x.1).2.2.2)),a.2.2.2.2),x.2.2.2)else .brk k x
def amy k x:=endOf uD k (Nat.succ (CD k x)) x
def alK(x:aq):=letI a:=x.2.1.2.2.2;letI b:=a.2.2.2;amy (x.2.2.1.2.2,x.2.2.1.2.2.length) (0,x.1,(x.2.1.1,x.2.1.2.1,x.2.1.2.2.1,a.1,a.2.1,a.2.2.1,b.1,b.2.1,hV b.2.2.1,b.2.2.2),x.2.2)
def gi(x:aq):Unit×aq:=letI b:=x.2.1.2;letI a:=b.2.2.2;letI c:=a.2.2.2;bif !x.2.2.2.1 then((),x.1,(x.2.1.1,b.1,b.2.1,b.2.2.1,a.1,a.2.1,a.2.2.1,c.1,hV c.2.1,hV c.2.2.1,c.2.2.2),x.2.2)else((),(alK x).2)
def Vd(x:aq):Prop:=cF x
def Ao(x:ab×Int×bT×ay):bT×Int:=letI b:=x.2.2.2;letI d:=b.1>=0;letI e:=x.2.2.1;letI a:=tw (e.2.2.2.1,(aa x.1.2.2.2.2.2.2.2 x.2.1).1,kS (x.1.1,b));letI c:=min (i64.wrap (e.2.2.2.2.1+1)) 1000000;letI f:=b.2.2;letI g:=b.2.1;bif !fI (x.1,x.2.1,e)|| !mT (x.1.1,b)then((0,0,0,[],0,false),1)else bif d&&f==2&&g==0 then bif d then((b.1,g,f,a.1,c,a.2),0)else((e.1,g,f,a.1,c,a.2),0)else bif d then((b.1,g,f,a.1,0,a.2),0)else((e.1,g,f,a.1,0,a.2),0)
def eY(x:ab×ak×aP):ak×Int:=bif !cJ (x.1,x.2.1)|| !iW (x.1,x.2.2)then(([],[],[],[]),1)else((ef (x.2.2,(AH x.2.1).1)).2,0)
def Sa(k:(List Int)×Int×aq)(x:(List Bool)×Int):Prop:=0<=x.2/\k.2.1=k.1.length/\x.1.length=k.1.length/\cF k.2.2/\k.1=k.2.2.2.1.1.1
def I0(k:(List Int)×Int×aq)(x:(List Bool)×Int):=(k.2.1-x.2).toNat
def uP(k:(List Int)×Int×aq)(x:(List Bool)×Int):an ((List Int)×Int×aq) ((List Bool)×Int) ((List Bool)×Unit):=letI a:=k.2.2;bif x.2<k.2.1 then .next k (aJ aw x.1 x.2 (gF (aa k.1 x.2)&&MA (a.1,x.2,aa a.2.1.2.2.2.1 x.2)||qE (aa k.1 x.2)&&abX (a.1,aa a.2.1.2.2.2.2.1 x.2,(aa a.2.2.1.2.2 x.2).2.1)),i64.wrap (x.2+1))else .brk k x
def al0 k x:=endOf uP k (Nat.succ (I0 k x)) x
def iA(x:aq):=((al0 (x.2.1.1.1,x.2.1.1.1.length,x) (aC aw x.1.2.2.2.2.2.2.2.length,0)).1,())
def Wf(x:aq):Prop:=cF x
def mI(x:ab×ak×Int):=ace (x.1,x.2.1,acC x.2.1,x.2.2)
def Kq(x:(ab)×(ak)×Int):Prop:=x.2.1.1.length<=8
def km(x:ak×List Int):=(x.2.length:Int)==x.1.2.2.2.length&& !mJ (x.2,some 257)
def wi(x:ab×Int×aZ×af):=letI b:=x.2.2.1.2.2.2.2;letI g:=x.1.2.2.2.2.2.2.2;letI c:=aa g x.2.1;letI f:=c.2.2.2.2;letI h:=b.2.2.2.2;letI a:=i64.wrap (wJ (x.1.1,h)*i64.wrap (i64.wrap (2*f.2.1)+f.2.2.1));letI d:=tj (x.1.1,b.1,0,h,x.2.2.2);letI e:=tj (x.1.1,b.1,b.2.1,h,x.2.2.2);bif ca x.1 !=0||x.2.1<0||x.2.1>=g.length then 1000000 else bif b.2.1==3 then bif d<0 then 1000000 else min (i64.wrap (i64.wrap (d*f.1)+a)) 1000000 else bif e<0 then 1000000 else min (i64.wrap (i64.wrap (e*f.1)+a)) 1000000
def MT:Ct:=⟨Ty.pair aD eo,[some 8,some 3],bN,ah.one (some 4),some LF,none,pD⟩
def acz:Ct:=⟨cX,[none],aw,ah.one none,none,none,pG⟩
def FI:Cv:=⟨Ty.pair wx (Ty.pair ae aD),[none,none],[.v,.v,.c 60 1],[8],true,[],Ty.unit,aw,ah.one none,[],none,F2,false⟩
def ac5:Cp:=⟨Ty.pair ae (Ty.pair iN aD),[none,some 14],[false,false,true],[8],true,false,aD,aw,ah.one none,none,F63,none,undef⟩
def EV:Cv:=letI a:=(16,true,142);letI b:=(17,true,153);letI c:=(18,true,158);⟨dj,[],[.p],[43],false,[(15,true,70),a,b,c,(32,true,4),(33,true,51),(34,true,4),(42,true,85)],dj,Ty.unit,ah.none,[(15,true,70),a,b,c,(32,true,4),(33,true,51),(34,true,4),(42,true,85)],some Vd,gi,false⟩
def Yy:Ct:=⟨Ty.pair aD (Ty.pair ae (Ty.pair eH jg)),[some 8,none,some 6,some 3],Ty.pair eH bX,ah.tup [some 6,none],none,none,Ao⟩
def aam:Ct:=⟨Ty.pair aD (Ty.pair bN jC),[some 8,some 4,some 5],Ty.pair bN bX,ah.tup [some 4,none],none,none,eY⟩
def EX:Cv:=⟨dj,[],[.p],[43],true,[],Ty.unit,gm,ah.one none,[(0,true,4)],some Wf,iA,false⟩
def YZ:Ct:=⟨Ty.pair aD (Ty.pair bN ae),[some 8,some 4,none],aS,ah.one (some 2),some Kq,none,mI⟩
def Yg:Ct:=⟨Ty.pair bN cX,[some 4,none],aw,ah.one none,none,none,km⟩
def XO:Ct:=⟨Ty.pair aD (Ty.pair ae (Ty.pair eO (Ty.pair ae ae))),[some 8,none,some 12,none,none],ae,ah.one none,none,none,wi⟩
def Wj:LS bN.den:=aH (Ty.pair dF ae) (Ty.pair ae bN) [(19,none),(20,none)] [] [(21,none)] [(5,4)] [(1,100401,true,3),(2,100402,true,4),(3,100403,true,4),(4,100404,true,93)] [16] [(5,5)] 0 false VG nD vD
def jM(z:List (Nat×List Nat)):=dN (P4 true) QA dh RS z
theorem alQ:bF f72 MT [0] Wj:=lA (jM []) [] l0 (λk x fk fx h=>sl (decide (x.1<k.2)=true->(0<=x.1/\x.1<k.1.length)/\Kw (aa k.1 x.1,x.2)) (by
 try dsimp only[Ty.den]at*
 obtain⟨h0,h1,h2,h3,h4,h5,h6⟩:=h;intro hc;rw[adv]at hc;have r:=ig h0 (h1▸hc);exact⟨r,wj.ch (gM h6 r) h3 h4 h5 (asW h1 h2 hc)⟩)) λk x fk h=>by
 try dsimp only[Ty.den]at*
 obtain⟨h0,h1,h2,h3,h4,h5,h6⟩:=h;unfold nD;refine bf.cnd (λhc=> ?_) (λ_=>rfl);rw[adv]at hc;have e:=cA h0 (h1▸hc) (auq h2 (by decide));have q:=Hj (aa k.1 x.1) x.2;rw[e];exact⟨rfl,⟨cE h0,h1,h2,q.2.1.trans (h3.trans q.1.symm),q.2.2.1.trans (h4.trans q.1.symm),acW q.2.2.2 h5,q.1.symm▸h6⟩,dg hc⟩
theorem atO:ar 72 MT:=au (jM []) func72 [(4,Wj)] (lc alQ l0) (sp λx fx h=>sl (letI a:=(x.1,dt x.2);JV a/\VG ((fM a).1,((fM a).1.length)) (0,(gk x.1).1)) (by
 try dsimp only[Ty.den]at*
 have hs:=Qb (s:=x.2) h.1 h.2;have r:=Tj (b:=x.1) fx.1.2.2.2.2.2.2.2.1 hs;exact⟨auq hs (by decide),au4 _,rfl,r⟩))
theorem atJ:ar 55 acz:=have E:=ai @vA.eq_1 SN;au (jM []) func55 [] l0 (λx fx _=>sl (vA (x,some 104)))
def VX:LS (Ty.pair aw Ty.unit).den:=aH (Ty.pair wx (Ty.pair ae aD)) ae [(13,none),(14,none)] [(3000,8)] [(15,none)] [] [] [] [] 0 true D1 zm Dz [(2,60,[3000])]
theorem amH:gU f59 FI [0] VX:=have E:=ai @D1.eq_1<|ai @Dz.eq_1<|ai @zm.eq_1 SN;lV (jM []) [] l0 (λk x fk fx h=>sm (decide (x<k.2.1)=true->0<=x/\x<k.1.length))
theorem atm:dP 59 FI:=have E:=ai @D1.eq_1 SN;dV (jM []) func59 [(4,VX)] (lc amH l0) (λx fx _=>sl (letI a:=x.1.length;(a !=x.2.1)=false->D1 (x.1,a,x.2.2) 0))
theorem asX:jP 63 ac5:=rj (jM []) func63 [] l0 (λ_ _ _=>tr)
def Rj:LS (Ty.pair Ty.unit dj).den:=aH (Ty.pair Nm ae) (Ty.pair ae dj) [(33,none),(34,none)] [] [(35,none)] [(0,43)] [(16,100416,true,70),(17,100417,true,142),(18,100418,true,153),(19,100419,true,158),(33,100433,true,4),(34,100434,true,51),(35,100435,true,4),(43,100443,true,85)] [] [(0,0)] 0 false Si uD CD
theorem aj9:gU f127 EV [0] Rj:=lV (jM []) [] l0 (λk x fk fx h=>sl (letI a:=0<=x.1/\x.1<(x.2.2.1.2.2.2.2.2.1.length:Int);letI b:=0<=x.1/\x.1<(x.2.2.1.2.2.1.length:Int);decide (x.1<k.2)=true->((0<=x.1/\x.1<k.1.length)/\b/\b/\a/\a)) (by
 try dsimp only[Ty.den]at*
 obtain⟨h0,h1,h2,h3⟩:=h;intro hc;rw[adv]at hc;have r:=ig h0 (h1▸hc);have q1:=df r (h2.c1.trans h3.symm);have q2:=df r (h2.c4.trans h3.symm);exact⟨r,q1,q1,q2,q2⟩)) λk x fk h=>by
 try dsimp only[Ty.den]at*
 obtain⟨h0,h1,h2,h3⟩:=h;unfold uD;refine bf.cnd (λhc=> ?_) (λ_=>rfl);rw[adv]at hc;have e:=cA h0 (h1▸hc) (auq (lY h3 h2.n8) (by decide));have q1:=df (ig h0 (h1▸hc)) (h2.c1.trans h3.symm);rw[e];exact⟨rfl,⟨cE h0,h1,⟨h2.n8,Tp h2.cf (H3 (s:=aa x.2.2.1.2.2.1 x.1) (gM h2.cf q1) _),(auu ..).trans h2.c1,h2.c2,h2.c3,(auu ..).trans h2.c4,h2.c5,h2.c6,h2.c7,h2.c8,h2.p1,h2.p2,h2.p3,h2.ph,h2.eK,h2.cmd,h2.iY⟩,h3⟩,dg hc⟩
theorem ZS:dP 127 EV:=dV (jM []) func127 [(4,Rj)] (lc aj9 l0) (sp λx fx h=>sl (letI a:=x.2.1.2.2.2;letI b:=a.2.2.2;(!x.2.2.2.1)=false->Si (x.2.2.1.2.2,x.2.2.1.2.2.length) (0,x.1,(x.2.1.1,x.2.1.2.1,x.2.1.2.2.1,a.1,a.2.1,a.2.2.1,b.1,b.2.1,hV b.2.2.1,b.2.2.2),x.2.2)) (by
 try dsimp only[Ty.den]at*
 have h:cF x:=h;intro hg;rw[ave]at hg;exact⟨au4 _,rfl,⟨h.n8,h.cf,h.c1,h.c2,h.c3,h.c4,h.c5,h.c6,h.c7,h.c8,h.p1,h.p2,h.p3,h.ph,h.eK,h.cmd,h.iY⟩,h.eK hg⟩))
theorem aol:ar 209 Yy:=au (jM []) func209 [] l0 (λx fx _=>sl (letI a:=x.1.2.2.2.2.2.2.2;letI b:=(x.1.1,x.2.2.2);(!fI (x.1,x.2.1,x.2.2.1)|| !mT b)=false->(0<=x.2.1/\x.2.1<a.length)/\Ef (x.2.2.1.2.2.2.1,(aa a x.2.1).1,kS b)) (by
 try dsimp only[Ty.den]at*
 intro hc;rw[auv,ave]at hc;have hb:=(xF fx.1.2.2.2.2.2.2.2.1 fx.2.2.1.2.2.2.1.1).1 hc.1;exact⟨hb.eU,auq hb.len (by decide)⟩))
theorem aop:ar 248 aam:=au (jM []) func248 [] l0 (λx fx _=>sl ((!cJ (x.1,x.2.1)|| !iW (x.1,x.2.2))=false->D2 x.2.1/\Kw (x.2.2,(AH x.2.1).1)) (by
 try dsimp only[Ty.den]at*
 intro hc;rw[auv,ave,ave]at hc;have hm:=(mZ (b:=x.1) (m:=x.2.1) fx.1.2.2.2.2.2.2.2.1 fx.2.1.1.1 fx.2.1.2.2.2.1).1 hc.1;have hr:=(su (b:=x.1) fx.1.2.2.2.2.2.2.2.1 x.2.2).1 hc.2;exact⟨hm.clone,hr.2.ch hm⟩))
def S8:LS (Ty.pair gm Ty.unit).den:=aH (Ty.pair cX (Ty.pair ae dj)) (Ty.pair gm ae) [(18,none),(19,none)] [(0,43)] [(3,none),(20,none)] [] [(0,100300,true,4)] [] [(0,0)] 0 false Sa uP I0
theorem akC:gU f213 EX [0] S8:=lV (jM []) [] l0 (λk x fk fx h=>sl (letI b:=aa k.1 x.2;letI d:=k.2.2;letI c:=d.2.1.2.2.2;letI a:=gF b&&MA (d.1,x.2,aa c.1 x.2);letI e:=qE b;decide (x.2<k.2.1)=true->((0<=x.2/\x.2<(k.1.length:Int))/\((gF b=true->0<=x.2/\x.2<(c.1.length:Int))/\((a=false->(e=true->0<=x.2/\x.2<(c.2.1.length:Int)))/\((a=false->(e=true->0<=x.2/\x.2<(d.2.2.1.2.2.length:Int)))/\((a=false->e=true->Ki (d.1,aa c.2.1 x.2,(aa d.2.2.1.2.2 x.2).2.1))/\0<=x.2/\x.2<x.1.length)))))) (by
 try dsimp only[Ty.den]at*
 obtain⟨h0,h1,h2,h3,h4⟩:=h;intro hc;rw[adv]at hc;have r:=ig h0 (h1▸hc);have hp:k.1.length=k.2.2.1.2.2.2.2.2.2.2.length:=(av2 List.length h4).trans h3.p1;have q1:=df r (h3.c2.trans hp.symm);have hz:aa k.1 x.2=0:=gM (h4▸h3.ph) r;have hd: ∀{P:Prop},qE (aa k.1 x.2)=true->P:=λh=>(aeJ hz h).elim
 exact⟨r,λ_=>q1,λ_ h=>hd h,λ_ h=>hd h,λ_ h=>hd h,df r h2⟩)) λk x fk h=>by
 try dsimp only[Ty.den]at*
 obtain⟨h0,h1,h2,h3,h4⟩:=h;unfold uP;refine bf.cnd (λhc=> ?_) (λ_=>rfl);rw[adv]at hc;have hp:k.1.length=k.2.2.1.2.2.2.2.2.2.2.length:=(av2 List.length h4).trans h3.p1;have e:=cA h0 (h1▸hc) (auq (lY hp h3.n8) (by decide));rw[e];exact⟨rfl,⟨cE h0,h1,(auu ..).trans h2,h3,h4⟩,dg hc⟩
theorem anh:dP 213 EX:=dV (jM []) func213 [(3,S8)] (lc akC l0) (sp λx fx h=>sl (letI a:=(x.1.2.2.2.2.2.2.2.length:Int);(0<=a/\a=a/\a*1<=140737488355328/\a<=4611686018427387903)/\Sa (x.2.1.1.1,x.2.1.1.1.length,x) (aC aw a,0)) (by
 try dsimp only[Ty.den]at*
 have h:cF x:=h;exact⟨nK h.n8 1 ⟨by decide,by decide⟩,au4 _,rfl,(eu _).trans h.p1.symm,h,rfl⟩))
theorem am7:ar 183 YZ:=au (jM []) func183 [] l0 (sp λx fx h=>sl (VA x.2.1) (by
 exact h))
theorem aoY:ar 219 Yg:=have E:=ai @vA.eq_1 SN;au (jM []) func219 [] l0 (λx fx _=>sl (((x.2.length:Int)==x.1.2.2.2.length)=true->vA (x.2,some 257)))
theorem aok:ar 264 XO:=have E:=SN;au (jM []) func264 [] l0 (λx fx _=>sl (letI a:=x.2.2.1.2.2.2.2;letI b:=(x.1.2.2.2.2.2.2.2.length:Int);letI c:=0<=x.2.1/\x.2.1<b;letI d:=a.2.1==3;((ca x.1 !=0||x.2.1<0)||x.2.1>=b)=false->(d=true->decide (tj (x.1.1,a.1,0,a.2.2.2.2,x.2.2.2)<0)=false->c)/\(d=false->decide (tj (x.1.1,a.1,a.2.1,a.2.2.2.2,x.2.2.2)<0)=false->c)))
def acU(nw:Bool):=(59,.pv FI)::(127,.pv EV)::(213,.pv EX)::abO nw
theorem QK(nw:Bool):gj (acU nw):=zc (z:= .pv FI) atm func59 (zc (z:= .pv EV) ZS func127 (zc (z:= .pv EX) anh func213 ((P4 nw))))
def atv:List (Nat×Cp):=(63,ac5)::aav
theorem mi:ia atv:=pc asX func63 (QA)
def abi:=(72,MT)::(55,acz)::(209,Yy)::(248,aam)::(183,YZ)::(219,Yg)::(264,XO)::ade
theorem T5:cu abi:=gc atO func72 (gc atJ func55 (gc aol func209 (gc aop func248 (gc am7 func183 (gc aoY func219 (gc aok func264 (RS)))))))
section
theorem aT.fit{b:ab}{m:ak}(h:aT b m):b.2.2.2.2.2.2.2.length<=maxLen/\m.1.length<=maxLen/\m.2.2.2.length<=maxLen:=by
 have a:=h.bB.cn.2;have h1:=h.l1;have h2:=h.len;grind [maxLen]
theorem aT.is{b:ab}{m:ak}(h:aT b m):cJ (b,m)=true:=(mZ h.fit.1 h.fit.2.1 h.fit.2.2).2 h
theorem rS{b:ab}{m:ak}{r:aI}(hm:aT b m)(hr:bW b r):eY (b,m,r)=((ef (r,m)).2,0):=by
 unfold eY;rw[hm.is,(su hm.fit.1 r).2 ⟨hm.bB,hr⟩];rfl
theorem agf{b:ab}{m:ak}{r:aI}(hm:aT b m)(hr:bW b r):aT b (eY (b,m,r)).1:=by simp_all [rS,mc]
theorem aip{b:ab}{m:ak}{r:aI}(hl:b.2.2.2.2.2.2.2.length<=maxLen)(h1:m.1.length<=maxLen)(h2:m.2.2.2.length<=maxLen)(h:(eY (b,m,r)).2=0):aT b m/\bW b r:=by
 unfold eY at h;cases hc:((!(cJ (b,m)))||(!(iW (b,r))))with
 |true=>simp_all
 |false=>
  simp_all [mZ,su]
theorem Ch{b:ab}{m:ak}(hm:aT b m){f d:Int}(i:d=1\/d=2):eI (m,f,d)=bt (m,f,d):=by
 obtain⟨a,h1,h2,h3⟩:=nu hm (f:=f) i;have w:=hm.len;have l:=λq h=>(lp.1 hm.ft q h).1.dir
 have j: ∀q:Nat,q<m.2.2.2.length->((qL (aa m.2.2.2 q,(f,d))).1=true↔ck f d<=ek (aa m.2.2.2 q)):=λq h=>by
  unfold qL ek ck;grind
 have o:KR (m.2.2.2,m.2.2.2.length,(f,d)) 0=if a<m.2.2.2.length then some ((a:Int),())else none:=by
  have key: ∀(n q:Nat),q<=a->a-q<n->bj np (m.2.2.2,m.2.2.2.length,(f,d)) n (q:Int)=if a<m.2.2.2.length then some ((a:Int),())else none:=by
   intro n;induction n with
   |zero=>omega
   |succ n s=>
    intro q h x;simp only[bj];unfold np;by_cases g:q<m.2.2.2.length
    ·simp only[show((q:Int)<m.2.2.2.length)from by omega,avn,auw]
     by_cases t:q=a
     ·subst t
      rw[(j q g).2 (h1.ge q (au2 _) g),auw,ava g]
     ·have:(qL (aa m.2.2.2 (q:Int),(f,d))).1=false:=by
       cases hc:(qL (aa m.2.2.2 (q:Int),(f,d))).1 with
       |false=>rfl
       |true=>have:=(j q g).1 hc;have:=h1.lt q (by omega);omega
      rw[this,aur,pQ g (by unfold maxLen;omega)];exact s (q+1) (by omega) (by omega)
    ·have:=h1.le
     rw[au6 (by omega)];simp only[show¬ ((q:Int)<m.2.2.2.length)from by omega,av4,aur]
  exact key _ 0 (awc _) (by unfold CO;have:=h1.le;simp;omega)
 have u:(oY (m.2.2.2,(f,d))).1=if a<m.2.2.2.length then(a:Int)else -1:=by
  unfold oY;simp only;rw[o];split<;>rfl
 have y:=h1.le;have k:(eI (m,f,d)).1=(a:Int)/\((eI (m,f,d)).2=true↔a<m.2.2.2.length/\ek (aa m.2.2.2 (a:Int))=ck f d):=by
  unfold eI;simp only;rw[u];by_cases g:a<m.2.2.2.length
  ·rw[ava g,axg (by omega),aur]
   refine⟨rfl,?_⟩;simp only[au0,awt,g,azc];exact(zE (l a g) i).symm
  ·rw[au6 g,show decide ((-1:Int)<0)=true from rfl,auw]
   refine⟨by show(m.2.2.2.length:Int)=a;omega,?_⟩;simp[g]
 refine awf (k.1.trans h2.symm) ?_;have:=k.2.trans h3.symm;cases h5:(eI (m,f,d)).2<;>cases h6:(bt (m,f,d)).2<;>simp_all
theorem bW.call{b:ab}{r:aI}(h:bW b r)(a:r.1=1\/r.1=2\/r.1=3\/r.1=7):cL b.1 r.2.1 r.2.2.1:=by
 rcases h with⟨_,h,_⟩|⟨_,h,_⟩|⟨_,h,_⟩|⟨h,_⟩|⟨h,_⟩
 all_goals omega
theorem TJ{b:ab}{m:ak}(hm:aT b m){f d:Int}(g:d=1\/d=2):0<=(bt (m,f,d)).1/\(bt (m,f,d)).1<=m.2.2.2.length/\((bt (m,f,d)).2=true->(bt (m,f,d)).1<m.2.2.2.length):=by
 obtain⟨a,h1,h2,h3⟩:=nu hm (f:=f) g;have:=h1.le;simp_all
theorem Rn{α:Type}{l:List α}{i:Int}(h0:0<=i)(h1:i<l.length):(iU l i).length+1=l.length:=by
 grind [iU]
section
variable {b:ab} {m:ak} {r:aI} {e:List Int}
theorem Mn(hm:aT b m)(hr:bW b r)(g:e.length=m.2.2.2.length)(a:((r.1==2)&&(eI (m,r.2.1,r.2.2.1)).2)=true):
  Ke (e,(eI (m,r.2.1,r.2.2.1)).1,i64.wrap ((eI (m,r.2.1,r.2.2.1)).1+1))/\(M4 (e,(eI (m,r.2.1,r.2.2.1)).1,i64.wrap ((eI (m,r.2.1,r.2.2.1)).1+1))).1.length=(eY (b,m,r)).1.2.2.2.length:=by
 rw[au0,awt]at a;have f:=(hr.call (.inr (.inl a.1))).dir;rw[Ch hm f]at a⊢;obtain⟨h1,h2,h3⟩:=TJ hm f;have h3:=h3 a.2;have h:=hm.len;rw[aA (by omega) (by omega)];have h4:(bt (m,r.2.1,r.2.2.1)).1<e.length:=by omega
 refine⟨⟨h1,h4,rfl,by grind⟩,?_⟩;rw[rS hm hr,xB a.1,a.2,auw];have d1:=Rn h1 (by omega);have d2:=Rn h1 h3;show(iU e (bt (m,r.2.1,r.2.2.1)).1).length=(iU m.2.2.2 (bt (m,r.2.1,r.2.2.1)).1).length;omega
theorem exp2(hm:aT b m)(hr:bW b r)(h:e.length=m.2.2.2.length)(a:((r.1==1)&&(!(eI (m,r.2.1,r.2.2.1)).2))=true):
  Ko (e,(eI (m,r.2.1,r.2.2.1)).1,[0])/\(MY (e,(eI (m,r.2.1,r.2.2.1)).1,[0])).1.length=(eY (b,m,r)).1.2.2.2.length:=by
 rw[au0,awt,avm]at a;have g:=(hr.call (.inl a.1)).dir;rw[Ch hm g]at a⊢;obtain⟨h1,h2,h3⟩:=TJ hm (f:=r.2.1) g;have i:=hm.len;have h4:(bt (m,r.2.1,r.2.2.1)).1<=e.length:=by omega
 refine⟨⟨h1,h4,rfl,by grind⟩,?_⟩;rw[rS hm hr,ry a.1,a.2,aur];show(iz e _ _).length=(iz m.2.2.2 _ _).length;simp_all [Jy]
theorem aaS(hm:aT b m)(hr:bW b r)(g:e.length=m.2.2.2.length)(a:((r.1==2)&&(eI (m,r.2.1,r.2.2.1)).2)=false)(f:((r.1==1)&&(!(eI (m,r.2.1,r.2.2.1)).2))=false):
  e.length=(eY (b,m,r)).1.2.2.2.length:=by
 rw[rS hm hr,g];have i:r.1=1\/r.1=2\/r.1=3\/r.1=7\/r.1=4\/r.1=5\/r.1=6:=by
  rcases hr with⟨h,_⟩|⟨h,_⟩|⟨h,_⟩|⟨h,_⟩|⟨h,_⟩<;>omega
 rcases i with h|h|h|h|h|h|h
 ·rw[ry h]
  rw[h,Ch hm (hr.call (.inl h)).dir,avz,ave]at f;rcases f with f|f
  ·cases f
  ·rw[f];rfl
 ·rw[xB h]
  rw[h,Ch hm (hr.call (.inr (.inl h))).dir,avz]at a;rcases a with a|a
  ·cases a
  ·rw[a];rfl
 ·rw[xz h]
  cases(bt (m,r.2.1,r.2.2.1)).2 with
  |true=>simp[vI,aJ]
  |false=>rfl
 ·rw[xC h]
  cases(bt (m,r.2.1,r.2.2.1)).2 with
  |true=>simp[oL,oQ,aJ]
  |false=>rfl
 ·rw[Bo h]
 ·rw[xD h]
 ·rw[Bv h]
end
structure du (l:List aI) (x:bY):Prop where
 aU:aT x.2 x.1.2.1
 exp:x.1.2.2.1.length=x.1.2.1.2.2.2.length
 dw: ∀r∈l,bW x.2 r
theorem Fa{α:Type}{l m:List α}{b c d:Nat}{n:Int}(h:l.length<=n)(a:n<=100000)(hm:m.length=1:=by rfl)(hb:b<=1000:=by decide)(f:c=140737488355328:=by rfl)(g:d=4611686018427387903:=by rfl):(l.length+m.length)*b<=c/\l.length+m.length<=d:=by
 have:l.length+m.length<=100001:=by omega
 refine⟨?_,by omega⟩;calc (l.length+m.length)*b<=100001*1000:=aza this hb
  _<=c:=by omega
theorem arA{x n:Int}{m:Nat}(h1:n=m)(h2:m<=1000)(a:x<n):50000+x<=100000:=by omega
theorem Lf{α:Type}{l:List α}{a:α}{x:Int}(h:l.length<=50000+x):((l++ [a]).length:Int)<=50000+(x+1):=by grind
theorem aqq{α:Type}{l:List α}(h:l.length<=50000):(l.length:Int)<=50000+0:=by omega
theorem aaw{b:ab}{m:ak}(h:aT b m):m.2.2.2.length<=1000000:=auq h.len (by decide)
theorem ID{p:Int}(h:p=0){P:Prop}(a:gF p=false):P:=by subst h;exact absurd a (by decide)
structure NB (x:ab×bg×Int×gw):Prop where
 n8:x.2.1.1.1.length<=8
 kr:0<=x.2.2.1/\x.2.2.1<(x.2.1.1.1.length:Int)
 aL:x.2.1.2.2.2.2.1.length=x.2.1.1.1.length
 flags:x.2.1.1.2.1.length=x.2.1.1.1.length
 asj:x.2.1.2.2.2.1.length=x.2.1.1.1.length
 ph: ∀p∈x.2.1.1.1,p=0
end
def pJ(x:ab×bO×Int):bO×ak×af:=letI b:=pD (x.1,x.2.1);letI a:=kT (x.1,x.2.1,b,x.2.2);bif a.2.2 !=0 then(a.1,([],[],[],[]),0,a.2.2)else(a.1,b,a.2.1,0)
def WQ(x:ab×bO×Int):Prop:=x.2.1.1.1.size<=500000/\x.2.1.1.2.size<=500000
def DY(k:(List iE)×Int×ab)(x:Int):Prop:=0<=x/\k.2.1=k.1.length
def Ec(k:((List (iE))×Int×ab))(x:(Int)):Nat:=(k.2.1-x).toNat
def zM(k:(List iE)×Int×ab)(x:Int):=bif x<k.2.1 then bif !(F63 (x,aa k.1 x,k.2.2)).1 then an.ret (false,())else an.next k (i64.wrap (x+1))else an.brk k x
def ZX k x:=bj zM k (Nat.succ (Ec k x)) x
def F1(x:(List iE)×Int×ab):=letI a:=x.1.length;bif a !=x.2.1 then(false,())else dJ (ZX (x.1,a,x.2.2) 0) (λy=>y) (true,())
def pq(x:Int×aq):Unit×aq:=bif !x.2.2.2.2.1 then((),x.2.1,(x.2.2.1.1,x.2.2.1.2.1,x.2.2.1.2.2.1,aJ eH x.2.2.1.2.2.2.1 x.1 (Az (x.2.1,x.1,aa x.2.2.1.2.2.2.1 x.1)).1,x.2.2.1.2.2.2.2),x.2.2.2.1,x.2.2.2.2.1,x.2.2.2.2.2.1,x.2.2.2.2.2.2.1,aJ aw x.2.2.2.2.2.2.2.1 x.1 true,x.2.2.2.2.2.2.2.2)else((),x.2.1,(x.2.2.1.1,x.2.2.1.2.1,x.2.2.1.2.2.1,aJ eH x.2.2.1.2.2.2.1 x.1 (Ao (x.2.1,x.1,aa x.2.2.1.2.2.2.1 x.1,lX (x.2.1.1,(aa x.2.2.1.2.2.1 x.1).1))).1,x.2.2.1.2.2.2.2),x.2.2.2.1,x.2.2.2.2.1,x.2.2.2.2.2.1,x.2.2.2.2.2.2.1,aJ aw x.2.2.2.2.2.2.2.1 x.1 true,aJ aS x.2.2.2.2.2.2.2.2.1 x.1 (kS (x.2.1.1,lX (x.2.1.1,(aa x.2.2.1.2.2.1 x.1).1))),x.2.2.2.2.2.2.2.2.2)
def Wl(x:Int×aq):Prop:=cF x.2/\0<=x.1/\x.1<x.2.1.2.2.2.2.2.2.2.length
def kP(x:ab×bO×ak×(aP)×Int):bO×ak×af:=letI c:=((ByteArray.empty,ByteArray.empty),0);letI e:=x.2.2;letI f:=e.2.1;letI d:=eY (x.1,e.1,f);letI g:=x.1.2.2.1;letI h:=x.2.1;letI b:=kT (x.1,h,d.1,e.2.2);letI i:=iR (x.1,f);letI a:=oa (g,h,h.2,i.1,e.2.2);bif d.2 !=0|| !cV (g,h)||e.2.2<0 then(c,([],[],[],[]),0,1)else bif f.1==1&& !(bt (e.1,f.2.1,f.2.2.1)).2&& !fP (x.1,e.1)then(c,([],[],[],[]),0,7)else bif i.1.size<=i64.wrap (g - ((dt h).size))then bif a.2.2==0 then(a.1,d.1,a.2)else bif a.2.2==8 then(a.1,(AH e.1).1,0,a.2.2)else(c,([],[],[],[]),0,a.2.2)else bif b.2.2==0 then(b.1,d.1,b.2)else bif b.2.2==8 then(b.1,(AH e.1).1,0,b.2.2)else(c,([],[],[],[]),0,b.2.2)
def wq(x:ab×bg×Int×gw):aZ:=bif gF (aa x.2.1.1.1 x.2.2.1)then(AK (x.2.1.1,x.2.2.1),mG (x.2.1.1,x.2.2.1),gF (aa x.2.1.1.1 x.2.2.1),aa x.2.1.1.2.1 x.2.2.1|| !mG (x.2.1.1,x.2.2.1),(aa x.2.1.2.2.2.1 x.2.2.1).1,(aa x.2.1.2.2.2.1 x.2.2.1).2.1,0,(0,0),0,aaB (aa x.2.1.2.2.2.1 x.2.2.1).2.2.2.1)else bif aa x.2.1.1.1 x.2.2.1==4 then(AK (x.2.1.1,x.2.2.1),mG (x.2.1.1,x.2.2.1),gF (aa x.2.1.1.1 x.2.2.1),aa x.2.1.1.2.1 x.2.2.1|| !mG (x.2.1.1,x.2.2.1),x.2.2.2.1,(aa x.2.1.2.2.2.2.1 x.2.2.1).1.1,aa x.2.1.2.2.2.2.2.1 x.2.2.1,aay (x.1,aa x.2.1.2.2.2.2.1 x.2.2.1,x.2.2.2),(aa x.2.1.2.2.2.2.1 x.2.2.1).2.2.2.1,mI (x.1,x.2.1.1,x.2.2.1))else(AK (x.2.1.1,x.2.2.1),mG (x.2.1.1,x.2.2.1),gF (aa x.2.1.1.1 x.2.2.1),aa x.2.1.1.2.1 x.2.2.1|| !mG (x.2.1.1,x.2.2.1),x.2.2.2.1,(aa x.2.1.2.2.2.2.1 x.2.2.1).1.1,aa x.2.1.2.2.2.2.2.1 x.2.2.1,(0,0),(aa x.2.1.2.2.2.2.1 x.2.2.1).2.2.2.1,mI (x.1,x.2.1.1,x.2.2.1))
def U7(x:(ab)×(bg)×Int×gw):Prop:=NB x
def Ro(k:(List (aP))×Int)(x:Int×bY):Prop:=0<=x.1/\k.2=k.1.length/\k.1.length<=1000/\du k.1 x.2/\x.2.1.1.length<=50000+x.1
def Da(k:((List (aP))×Int))(x:(Int×bY)):Nat:=(k.2-x.1).toNat
def uO(k:(List (aP))×Int)(x:Int×bY):an ((List (aP))×Int) (Int×bY) (Unit×bY):=letI c:=i64.wrap (x.1+1);letI d:=aa k.1 x.1;letI e:=x.2.1.2;letI a:=eI (e.1,d.2.1,d.2.2.1);letI f:=M4 (e.2.1,a.1,i64.wrap (a.1+1));letI h:=MY (e.2.1,a.1,[0]);letI i:=x.2.1.1++ [d];letI j:=x.2.2;letI b:=eY (j,e.1,d);letI g:=b.2==0;bif x.1<k.2 then bif d.1==2&&a.2 then bif g then .next k (c,(i,b.1,f.1,e.2.2),j)else .next k (c,(x.2.1.1,e.1,f.1,e.2.2),j)else bif d.1==1&& !a.2 then bif g then .next k (c,(i,b.1,h.1,e.2.2),j)else .next k (c,(x.2.1.1,e.1,h.1,e.2.2),j)else bif g then .next k (c,(i,b.1,e.2),j)else .next k (c,x.2)else .brk k x
def Vk k x:=endOf uO k (Nat.succ (Da k x)) x
def fe(x:(List (aP))×bY):=((),(Vk (x.1,x.1.length) (0,x.2)).2)
def zJ(x:(List (aP))×bY):Prop:=x.1.length<=1000/\du x.1 x.2/\x.2.1.1.length<=50000
def wG(x:ab×(List aZ)×ay):af:=letI b:=aa x.2.1 x.2.2.1;letI a:=wi (x.1,x.2.2.1,b,x.2.2.2);bif AQ b then(1,a)else(0,a)
def vp(x:ab×(List aZ)×ay):Prop:=0<=x.2.2.1/\x.2.2.1<x.2.1.length
def S3(k:(List Int)×Int)(x:Int×aq):Prop:=0<=x.1/\k.2=k.1.length/\cF x.2/\k.1.length=x.2.1.2.2.2.2.2.2.2.length
def CL(k:((List Int)×Int))(x:(Int×aq)):Nat:=(k.2-x.1).toNat
def uw(k:(List Int)×Int)(x:Int×aq):=letI a:=x.2.2.2.2.2.2.2.2.2.2.2.2.2.2.2;letI b:=x.2.2.1.2.2.2.1;aJ gS a x.1 (Mx (x.2.1,x.1,aa k.1 x.1,aa (aJ eH b x.1 (mB (x.2.1,x.1,aa b x.1,mI (x.2.1,x.2.2.1.1,x.1))).1) x.1),(aa a x.1).2)
def P5(k:(List Int)×Int)(x:Int×aq):=letI a:=aa (uw k x) x.1;aa (aJ gS (uw k x) x.1 (a.1,a.2.1,a.2.2.1,a.2.2.2.1,aa k.1 x.1,a.2.2.2.2.2)) x.1
def ng(k:(List Int)×Int)(x:Int×aq):=letI a:=aa (uw k x) x.1;letI b:=P5 k x;aJ gS (aJ gS (uw k x) x.1 (a.1,a.2.1,a.2.2.1,a.2.2.2.1,aa k.1 x.1,a.2.2.2.2.2)) x.1 (b.1,b.2.1,b.2.2.1,b.2.2.2.1,b.2.2.2.2.1,aa x.2.2.1.1.2.1 x.1)
def BV(k:(List Int)×Int)(x:Int×aq):=letI c:=x.2.2.2.2.2.2.2.2.2.2.2.2.2.2.2;letI a:=aJ gS c x.1 (Mx (x.2.1,x.1,aa k.1 x.1,aa x.2.2.1.2.2.2.1 x.1),(aa c x.1).2);letI b:=aa a x.1;aJ gS a x.1 (b.1,b.2.1,b.2.2.1,b.2.2.2.1,aa k.1 x.1,b.2.2.2.2.2)
def ni(k:(List Int)×Int)(x:Int×aq):=letI a:=aa (BV k x) x.1;aJ gS (BV k x) x.1 (a.1,a.2.1,a.2.2.1,a.2.2.2.1,a.2.2.2.2.1,aa x.2.2.1.1.2.1 x.1)
def uQ(k:(List Int)×Int)(x:Int×aq):an ((List Int)×Int) (Int×aq) (Unit×aq):=bif x.1<k.2 then bif gF (aa k.1 x.1)&& !aa x.2.2.1.1.2.1 x.1 then bif aa x.2.2.2.2.2.2.2.2.2.1 x.1|| !AL (aa k.1 x.1,(aa (ng k x) x.1).2.2.2.1)then .next k (i64.wrap (x.1+1),x.2.1,(x.2.2.1.1,x.2.2.1.2.1,x.2.2.1.2.2.1,aJ eH x.2.2.1.2.2.2.1 x.1 (mB (x.2.1,x.1,aa x.2.2.1.2.2.2.1 x.1,mI (x.2.1,x.2.2.1.1,x.1))).1,x.2.2.1.2.2.2.2),x.2.2.2.1,x.2.2.2.2.1,x.2.2.2.2.2.1,x.2.2.2.2.2.2.1,x.2.2.2.2.2.2.2.1,x.2.2.2.2.2.2.2.2.1,x.2.2.2.2.2.2.2.2.2.1,x.2.2.2.2.2.2.2.2.2.2.1,x.2.2.2.2.2.2.2.2.2.2.2.1,x.2.2.2.2.2.2.2.2.2.2.2.2.1,x.2.2.2.2.2.2.2.2.2.2.2.2.2.1,x.2.2.2.2.2.2.2.2.2.2.2.2.2.2.1,aJ gS (ng k x) x.1 ((aa (ng k x) x.1).1,(aa (ng k x) x.1).2.1,(aa (ng k x) x.1).2.2.1,(0:Int),(aa (ng k x) x.1).2.2.2.2))else .next k (i64.wrap (x.1+1),x.2.1,(x.2.2.1.1,x.2.2.1.2.1,x.2.2.1.2.2.1,aJ eH x.2.2.1.2.2.2.1 x.1 (mB (x.2.1,x.1,aa x.2.2.1.2.2.2.1 x.1,mI (x.2.1,x.2.2.1.1,x.1))).1,x.2.2.1.2.2.2.2),x.2.2.2.1,x.2.2.2.2.1,x.2.2.2.2.2.1,x.2.2.2.2.2.2.1,x.2.2.2.2.2.2.2.1,x.2.2.2.2.2.2.2.2.1,x.2.2.2.2.2.2.2.2.2.1,x.2.2.2.2.2.2.2.2.2.2.1,x.2.2.2.2.2.2.2.2.2.2.2.1,x.2.2.2.2.2.2.2.2.2.2.2.2.1,x.2.2.2.2.2.2.2.2.2.2.2.2.2.1,x.2.2.2.2.2.2.2.2.2.2.2.2.2.2.1,ng k x)else bif aa x.2.2.2.2.2.2.2.2.2.1 x.1|| !AL (aa k.1 x.1,(aa (ni k x) x.1).2.2.2.1)then .next k (i64.wrap (x.1+1),x.2.1,x.2.2.1,x.2.2.2.1,x.2.2.2.2.1,x.2.2.2.2.2.1,x.2.2.2.2.2.2.1,x.2.2.2.2.2.2.2.1,x.2.2.2.2.2.2.2.2.1,x.2.2.2.2.2.2.2.2.2.1,x.2.2.2.2.2.2.2.2.2.2.1,x.2.2.2.2.2.2.2.2.2.2.2.1,x.2.2.2.2.2.2.2.2.2.2.2.2.1,x.2.2.2.2.2.2.2.2.2.2.2.2.2.1,x.2.2.2.2.2.2.2.2.2.2.2.2.2.2.1,aJ gS (ni k x) x.1 ((aa (ni k x) x.1).1,(aa (ni k x) x.1).2.1,(aa (ni k x) x.1).2.2.1,(0:Int),(aa (ni k x) x.1).2.2.2.2))else .next k (i64.wrap (x.1+1),x.2.1,x.2.2.1,x.2.2.2.1,x.2.2.2.2.1,x.2.2.2.2.2.1,x.2.2.2.2.2.2.1,x.2.2.2.2.2.2.2.1,x.2.2.2.2.2.2.2.2.1,x.2.2.2.2.2.2.2.2.2.1,x.2.2.2.2.2.2.2.2.2.2.1,x.2.2.2.2.2.2.2.2.2.2.2.1,x.2.2.2.2.2.2.2.2.2.2.2.2.1,x.2.2.2.2.2.2.2.2.2.2.2.2.2.1,x.2.2.2.2.2.2.2.2.2.2.2.2.2.2.1,ni k x)else .brk k x
def V2 k x:=endOf uQ k (Nat.succ (CL k x)) x
def UP(x:aq):=letI b:=x.2.2.2;letI a:=b.2.2;V2 (x.2.1.1.1,x.2.1.1.1.length) (0,x.1,x.2.1,x.2.2.1,b.1,b.2.1,a.1,a.2.1,a.2.2.1,a.2.2.2.1,bR x.2.1.1,a.2.2.2.2.2.1,!b.1,a.2.2.2.2.2.2.2)
def tF(x:aq):=((),(UP x).2)
def Up(x:aq):Prop:=cF x
def Gu(x:ab×bg):=Gk (pD (x.1,x.2.2.1),x.2.1)
def WJ(x:ab×bg):Prop:=x.2.2.1.1.1.size<=500000/\x.2.2.1.1.2.size<=500000
def abp:Ct:=⟨Ty.pair aD (Ty.pair eo ae),[some 8,some 3,none],Ty.pair eo (Ty.pair bN (Ty.pair ae bX)),ah.tup [some 3,some 4,none,none],some WQ,none,pJ⟩
def Fo:Cv:=⟨Ty.pair wm (Ty.pair ae aD),[none,none],[.v,.v,.c 63 1],[8],true,[],Ty.unit,aw,ah.one none,[],none,F1,false⟩
def Mj:Cv:=⟨Ty.pair ae dj,[none],[.p,.v],[43],false,[(16,true,70),(17,true,142),(18,true,153),(19,true,158),(33,true,4),(34,true,51),(35,true,4),(43,true,85)],dj,Ty.unit,ah.none,[(15,true,70),(16,true,142),(17,true,153),(18,true,158),(32,true,4),(33,true,51),(34,true,4),(42,true,85)],some Wl,pq,false⟩
def Ws:Ct:=⟨Ty.pair aD (Ty.pair eo (Ty.pair bN (Ty.pair jC ae))),[some 8,some 3,some 4,some 5,none],Ty.pair eo (Ty.pair bN (Ty.pair ae bX)),ah.tup [some 3,some 4,none,none],none,none,kP⟩
def ZN:Ct:=⟨Ty.pair aD (Ty.pair fE (Ty.pair ae sX)),[some 8,some 16,none,some 4],eO,ah.one (some 12),some U7,none,wq⟩
def EZ:Cv:=⟨Ty.pair dF oW,[none],[.p,.v],[20],false,[(1,true,213),(6,true,3)],oW,Ty.unit,ah.none,[(0,true,213),(5,true,3)],some zJ,fe,false⟩
def Xd:Ct:=⟨Ty.pair aD (Ty.pair gx (Ty.pair ae (Ty.pair ae ae))),[some 8,none,none,none,none],wa,ah.one (some 2),some vp,none,wG⟩
def Er:Cv:=letI a:=(16,true,142);letI b:=(17,true,153);letI c:=(18,true,158);⟨dj,[],[.p],[43],false,[(15,true,70),a,b,c,(32,true,4),(33,true,51),(34,true,4),(42,true,85)],dj,Ty.unit,ah.none,[(15,true,70),a,b,c,(32,true,4),(33,true,51),(34,true,4),(42,true,85)],some Up,tF,false⟩
def acV:Ct:=⟨Ty.pair aD fE,[some 8,some 16],aw,ah.one none,some WJ,none,Gu⟩
def lI(z:List (Nat×List Nat)):=dN (QK true) mi dh T5 z
theorem asI:ar 51 abp:=au (lI []) func51 [] l0 (sp λx fx h=>sl (LF (x.1,x.2.1)) (by
 exact h))
def V5:LS (Ty.pair aw Ty.unit).den:=aH (Ty.pair wm (Ty.pair ae aD)) ae [(13,none),(14,none)] [(3000,8)] [(15,none)] [] [] [] [] 0 true DY zM Ec [(2,63,[3000])]
theorem ame:gU f62 Fo [0] V5:=have E:=ai @DY.eq_1<|ai @Ec.eq_1<|ai @zM.eq_1 SN;lV (lI []) [] l0 (λk x fk fx h=>sm (decide (x<k.2.1)=true->0<=x/\x<k.1.length))
theorem aub:dP 62 Fo:=have E:=ai @DY.eq_1 SN;dV (lI []) func62 [(4,V5)] (lc ame l0) (λx fx _=>sl (letI a:=x.1.length;(a !=x.2.1)=false->DY (x.1,a,x.2.2) 0))
theorem aq1:dP 172 Mj:=dV (lI []) func172 [] l0 (sp λx fx h=>sl (letI b:=x.2.2;letI a:=0<=x.1/\x.1<(b.1.2.2.2.1.length:Int);(0<=x.1/\x.1<(b.2.2.2.2.2.1.length:Int))/\(((!b.2.2.1)=true->(a/\a))/\((!b.2.2.1)=false->((0<=x.1/\x.1<(b.1.2.2.1.length:Int))/\(Ln (x.2.1.1,(aa b.1.2.2.1 x.1).1)/\(0<=x.1/\x.1<b.2.2.2.2.2.2.1.length)/\a/\a))))) (by
 try dsimp only[Ty.den]at*
 obtain⟨h,r⟩:cF x.2/\0<=x.1/\x.1<(x.2.1.2.2.2.2.2.2.2.length:Int):=h;have r1:=df r h.c1;have r2:=df r h.c2;exact⟨df r h.c5,λ_=>⟨r2,r2⟩,λ_=>⟨r1,gM h.cf r1,df r h.c6,r2,r2⟩⟩))
theorem aqM:ar 212 Ws:=au (lI []) func212 [] l0 (λx fx _=>sl (letI b:=x.2.2;letI e:=b.2.1;letI f:=(b.1,e.2.1,e.2.2.1);letI g:=eY (x.1,b.1,e);letI h:=x.1.2.2.1;letI i:=x.2.1;letI d:=kT (x.1,i,g.1,b.2.2);letI j:=iR (x.1,e);letI a:=decide ((j.1.size:Int)<=i64.wrap (h - ((dt i).size:Int)));letI c:=oa (h,i,i.2,j.1,b.2.2);(((g.2 !=0)||(!(cV (h,i))))||decide (b.2.2<0))=false->(zr f/\((((e.1==1)&&(!(bt f).2))&&(!(fP (x.1,b.1))))=false->((a=true->((c.2.2==0)=false->((c.2.2==8)=true->D2 b.1)))/\(a=false->(d.2.2==0)=false->(d.2.2==8)=true->D2 b.1))))) (by
 try dsimp only[Ty.den]at*
 intro hc;rw[auv,auv,au8]at hc;have hm:=aip (b:=x.1) (m:=x.2.2.1) (r:=x.2.2.2.1) fx.1.2.2.2.2.2.2.2.1 fx.2.2.1.1.1 fx.2.2.1.2.2.2.1 hc.1.1;exact⟨aaw hm.1,λ_=>⟨λ_ _ _=>hm.1.clone,λ_ _ _=>hm.1.clone⟩⟩))
theorem aq6:ar 227 ZN:=au (lI []) func227 [] l0 (sp λx fx h=>sl (letI a:=x.2.2.1;letI c:=x.2.1;letI b:=aa c.1.1 a;letI d:=Kq (x.1,c.1,a);letI e:=c.2.2.2;letI f:=b==4;(0<=a/\a<(c.1.1.length:Int))/\((0<=a/\a<(e.2.1.length:Int))/\((0<=a/\a<(c.1.2.1.length:Int))/\((gF b=true->(0<=a/\a<(e.1.length:Int)))/\(gF b=false->((0<=a/\a<e.2.2.1.length)/\(f=true->KI (x.1,aa e.2.1 a,x.2.2.2)/\d)/\(f=false->d))))))) (by
 try dsimp only[Ty.den]at*
 have h:NB x:=h;have q1:=df h.kr h.aL;have hz:aa x.2.1.1.1 x.2.2.1=0:=gM h.ph h.kr;exact⟨h.kr,q1,df h.kr h.flags,λ_=>df h.kr h.asj,λhd=>ID hz hd⟩))
def R3:LS (Ty.pair Ty.unit oW).den:=aH (Ty.pair dF ae) (Ty.pair ae oW) [(10,none),(11,none)] [] [(12,none)] [(0,20)] [(1,100101,true,213),(6,100106,true,3)] [] [(0,0)] 0 false Ro uO Da
theorem ajt:gU f222 EZ [0] R3:=lV (lI []) [] l0 (λk x fk fx h=>sl (letI c:=aa k.1 x.1;letI d:=aP;letI h:=x.2.1;letI a:=((eY (x.2.2,h.2.1,c)).2==0)=true->((List.length (h.1:List d)+List.length ([c]:List d))*40<=140737488355328/\List.length (h.1:List d)+List.length ([c]:List d)<=4611686018427387903);letI b:=(h.2.1,c.2.1,c.2.2.1);letI e:=eI b;letI f:=(c.1==1)&&(!e.2);letI g:=(c.1==2)&&e.2;decide (x.1<k.2)=true->((0<=x.1/\x.1<(k.1.length:Int))/\(Vw b/\((g=true->(Ke (h.2.2.1,e.1,i64.wrap (e.1+1))/\a))/\(g=false->(f=true->Ko (h.2.2.1,e.1,[0])/\a)/\(f=false->a)))))) (by
 try dsimp only[Ty.den]at*
 obtain⟨h0,h1,h2,h3,h4⟩:=h;intro hc;rw[adv]at hc;have r:=ig h0 (h1▸hc);have hr:=gM h3.dw r;have hn:=arA h1 h2 hc;exact⟨r,aaw h3.aU,λc1=>⟨(Mn h3.aU hr h3.exp c1).1,λ_=>Fa h4 hn⟩,λ_=>⟨λc2=>⟨(exp2 h3.aU hr h3.exp c2).1,λ_=>Fa h4 hn⟩,λ_ _=>Fa h4 hn⟩⟩)) λk x fk h=>by
 try dsimp only[Ty.den]at*
 obtain⟨h0,h1,h2,h3,h4⟩:=h;unfold uO;refine bf.cnd (λhc=> ?_) (λ_=>rfl);rw[adv]at hc;have r:=ig h0 (h1▸hc);have hr:=gM h3.dw r;have e:=cA h0 (h1▸hc) (auq h2 (by decide));have hz:((eY (x.2.2,x.2.1.2.1,(aa k.1 x.1))).2==(0:Int))=true:=by rw[rS h3.aU hr];rfl
 have hi:=agf h3.aU hr;rw[e];refine bf.cnd (λc1=>bf.cnd (λ_=> ?_) (λz=> ?_)) (λc1=>bf.cnd (λc2=>bf.cnd (λ_=> ?_) (λz=> ?_)) (λc2=>bf.cnd (λ_=> ?_) (λz=> ?_)))
 ·exact⟨rfl,⟨cE h0,h1,h2,⟨hi,(Mn h3.aU hr h3.exp c1).2,h3.dw⟩,Lf h4⟩,dg hc⟩
 ·rw[hz]at z;cases z
 ·exact⟨rfl,⟨cE h0,h1,h2,⟨hi,(exp2 h3.aU hr h3.exp c2).2,h3.dw⟩,Lf h4⟩,dg hc⟩
 ·rw[hz]at z;cases z
 ·exact⟨rfl,⟨cE h0,h1,h2,⟨hi,aaS h3.aU hr h3.exp c1 c2,h3.dw⟩,Lf h4⟩,dg hc⟩
 ·rw[hz]at z;cases z
theorem arf:dP 222 EZ:=dV (lI []) func222 [(1,R3)] (lc ajt l0) (sp λx fx h=>sl (Ro (x.1,x.1.length) (0,x.2)) (by
 try dsimp only[Ty.den]at*
 obtain⟨h1,h2,h3⟩:x.1.length<=1000/\du x.1 x.2/\x.2.1.1.length<=50000:=h;exact⟨au4 _,rfl,h1,h2,aqq h3⟩))
theorem aoK:ar 297 Xd:=au (lI []) func297 [] l0 (sp λx fx h=>sl (letI a:=0<=x.2.2.1/\x.2.2.1<x.2.1.length;a/\a) (by
 exact⟨h,h⟩))
def RP:LS (Ty.pair Ty.unit dj).den:=aH (Ty.pair cX ae) (Ty.pair ae dj) [(29,none),(30,none)] [] [(31,none)] [(0,43)] [(16,100216,true,70),(17,100217,true,142),(18,100218,true,153),(19,100219,true,158),(33,100233,true,4),(34,100234,true,51),(35,100235,true,4),(43,100243,true,85)] [] [(0,0)] 0 false S3 uQ CL
theorem aj1:gU f131 Er [0] RP:=lV (lI []) [] l0 (λk x fk fx h=>sl (letI e:=x.2.2.1;letI f:=(e.1.2.1.length:Int);letI g:=gF (aa k.1 x.1);letI d:=g&&(!(aa e.1.2.1 x.1));letI h:=x.2.2.2.2.2.2.2.2.2;letI a:=(0<=x.1/\x.1<f)/\(0<=x.1/\x.1<(h.1.length:Int));letI c:=0<=x.1/\x.1<(h.2.2.2.2.2.2.length:Int);letI i:=(x.2.1,e.1,x.1);letI j:=e.2.2.2.1;letI b:=0<=x.1/\x.1<(j.length:Int);decide (x.1<k.2)=true->((0<=x.1/\x.1<(k.1.length:Int))/\((g=true->0<=x.1/\x.1<f)/\((d=true->(b/\(Kq i/\(b/\(c/\((0<=x.1/\x.1<((aJ eH j x.1 (mB (x.2.1,x.1,aa j x.1,mI i)).1).length:Int))/\a))))))/\(d=false->c/\b/\a))))) (by
 try dsimp only[Ty.den]at*
 obtain⟨h0,h1,h2,h3⟩:=h;intro hc;rw[adv]at hc;have r:=ig h0 (h1▸hc);have q1:=df r (h2.p2.trans h3.symm);have q2:=df r (h2.c2.trans h3.symm);have q3:=df r (h2.c8.trans h3.symm);have q4:=df r (h2.c7.trans h3.symm);exact⟨r,λ_=>q1,λ_=>⟨q2,lY h2.p1 h2.n8,q2,q3,df q2 (auu ..),q1,q4⟩,λ_=>⟨q3,q2,q1,q4⟩⟩)) λk x fk h=>by
 try dsimp only[Ty.den]at*
 obtain⟨h0,h1,h2,h3⟩:=h;unfold uQ;refine bf.cnd (λhc=> ?_) (λ_=>rfl);rw[adv]at hc;have e:=cA h0 (h1▸hc) (auq (lY h3 h2.n8) (by decide));rw[e];repeat' (first|refine bf.cnd (λ_=> ?_) (λ_=> ?_))
 all_goals exact⟨rfl,⟨cE h0,h1,⟨h2.n8,h2.cf,h2.c1,(by first|exact h2.c2|exact(auu ..).trans h2.c2),h2.c3,h2.c4,h2.c5,h2.c6,h2.c7,(by simp only[uw,P5,ng,BV,ni,aJ,auu];exact h2.c8),h2.p1,h2.p2,h2.p3,h2.ph,h2.eK,h2.cmd,h2.iY⟩,h3⟩,dg hc⟩
theorem Y9:dP 131 Er:=dV (lI []) func131 [(2,RP)] (lc aj1 l0) (sp λx fx h=>sl (letI b:=x.2.2.2;letI a:=b.2.2;S3 (x.2.1.1.1,x.2.1.1.1.length) (0,x.1,x.2.1,x.2.2.1,b.1,b.2.1,a.1,a.2.1,a.2.2.1,a.2.2.2.1,bR x.2.1.1,a.2.2.2.2.2.1,!b.1,a.2.2.2.2.2.2.2)) (by
 try dsimp only[Ty.den]at*
 have h:cF x:=h;exact⟨au4 _,rfl,⟨h.n8,h.cf,h.c1,h.c2,h.c3,h.c4,h.c5,h.c6,h.c7,h.c8,h.p1,h.p2,h.p3,h.ph,h.eK,h.cmd,h.iY⟩,h.p1⟩))
theorem at6:ar 26 acV:=au (lI []) func26 [] l0 (sp λx fx h=>sl (LF (x.1,x.2.2.1)) (by
 exact h))
def ab3(nw:Bool):=(62,.pv Fo)::(172,.pv Mj)::(222,.pv EZ)::(131,.pv Er)::acU nw
theorem Qi(nw:Bool):gj (ab3 nw):=zc (z:= .pv Fo) aub func62 (zc (z:= .pv Mj) aq1 func172 (zc (z:= .pv EZ) arf func222 (zc (z:= .pv Er) Y9 func131 ((QK nw)))))
def adp:=(51,abp)::(212,Ws)::(227,ZN)::(297,Xd)::(26,acV)::abi
theorem Ri:cu adp:=gc asI func51 (gc aqM func212 (gc aq6 func227 (gc aoK func297 (gc at6 func26 (T5)))))
section
abbrev bd:=af
def bz(x:Int)(i:Nat):Bool:=(BitVec.ofInt 32 x).getLsbD i
theorem nB{x:Int}(g:W x){i:Nat}(hi:i<32):bz x i=bit x i:=Vo g.1 i hi
theorem Mb(v:BitVec 32)(i:Nat):bz (u32.wrap v.toNat) i=v.getLsbD i:=by
 rw[wrap32,bz,BitVec.ofInt_natCast,BitVec.ofNat_toNat,BitVec.setWidth_eq]
theorem V9(x y:Int)(i:Nat):bz (oU x y) i=(bz x i&&bz y i):=by
 show bz (u32.wrap ((BitVec.ofInt 32 x&&&BitVec.ofInt 32 y).toNat:Int)) i=_;rw[Mb,BitVec.getLsbD_and];rfl
theorem EG(x y:Int)(i:Nat):bz (FH x y) i=(bz x i||bz y i):=by
 show bz (u32.wrap ((BitVec.ofInt 32 x|||BitVec.ofInt 32 y).toNat:Int)) i=_;rw[Mb,BitVec.getLsbD_or];rfl
theorem JI(x y:Int){i:Nat}(hi:i<32):bz (KA x y) i=(bz x i&& !bz y i):=by
 show bz (u32.wrap ((BitVec.ofInt 32 x&&& ~~~BitVec.ofInt 32 y).toNat:Int)) i=_;rw[Mb,BitVec.getLsbD_and,BitVec.getLsbD_not,axr hi,axs];rfl
theorem uC(i:Nat):bz 0 i=false:=by simp[bz]
theorem Eb{f i:Nat}(hf:f<32)(hi:i<32):bz (u32.wrap (1*2^(min ((f:Int)).toNat u32.bits))) i=decide (i=f):=by
 grind [nB,sM,SJ]
theorem W.R6{x:Int}(g:W x)(h: ∀i,i<32->bz x i=false):x=0:=W.ext g W.zero λi hi=>by simp_all [nB,Qh]
def bk(c:bd)(f:Nat)(d:Int):Bool:=bif d==1 then bz c.1 f else bif d==2 then bz c.2 f else false
def WC(c:bd):Prop:=W c.1/\W c.2
theorem Fj(c:bd)(f:Nat):bk c f 1=bz c.1 f:=rfl
theorem FM(c:bd)(f:Nat):bk c f 2=bz c.2 f:=rfl
theorem WC.ext{a b:bd}(g:WC a)(hb:WC b)(h: ∀f,f<32-> ∀d,d=1\/d=2->bk a f d=bk b f d):a=b:=
 awf (W.ext g.1 hb.1 λi hi=>by rw[<- nB g.1 hi,<- nB hb.1 hi];exact h i hi 1 (.inl rfl)) (W.ext g.2 hb.2 λi hi=>by rw[<- nB g.2 hi,<- nB hb.2 hi];exact h i hi 2 (.inr rfl))
section
variable (a b:bd) {f:Nat} {d:Int} (hf:f<32) (hd:d=1\/d=2)
include hf hd
theorem ur:bk (dv (a,b)) f d=(bk a f d&&bk b f d):=by rcases hd with rfl|rfl<;>exact V9 _ _ _
theorem uo:bk (fc (a,b)) f d=(bk a f d||bk b f d):=by rcases hd with rfl|rfl<;>exact EG _ _ _
theorem um:bk (dS (a,b)) f d=(bk a f d&& !bk b f d):=by rcases hd with rfl|rfl<;>exact JI _ _ hf
theorem uk:bk (fy (a,b)) f d=(bk a f d&&bk b f d):=by rcases hd with rfl|rfl<;>exact V9 _ _ _
theorem aet:bk (A1 (a,b)) f d=(bk a f d||bk b f d):=by rcases hd with rfl|rfl<;>exact EG _ _ _
theorem tX:bk (fh (a,b)) f d=(bk a f d&& !bk b f d):=by rcases hd with rfl|rfl<;>exact JI _ _ hf
end
theorem TC(x:bd×bd):WC (dv x):=⟨vS _ _,vS _ _⟩
theorem Ik(x:bd×bd):WC (fc x):=⟨qD _ _,qD _ _⟩
theorem ahf(x:bd×bd):WC (dS x):=⟨DE _ _,DE _ _⟩
theorem xZ(x:bd×bd):WC (fy x):=⟨vS _ _,vS _ _⟩
theorem af3(x:bd×bd):WC (A1 x):=⟨qD _ _,qD _ _⟩
theorem BH(x:bd×bd):WC (fh x):=⟨DE _ _,DE _ _⟩
theorem sn:WC (0,0):=⟨W.zero,W.zero⟩
theorem jo(f:Nat)(d:Int):bk (0,0) f d=false:=by
 simp_all [bk,uC]
theorem Dc{f g:Nat}{d e:Int}(hf:f<32)(h:g<32)(hd:d=1\/d=2)(i:e=1\/e=2):bk (fo (g,e)) f d=(decide (f=g)&&decide (d=e)):=by
 have j:(decide ((g:Int)>=0)&&decide ((g:Int)<32))=true:=by grind
 unfold fo;simp only[j];rcases hd with rfl|rfl<;>rcases i with rfl|rfl
 ·show bz (u32.wrap (1*2^(min ((g:Int)).toNat u32.bits))) f=_
  rw[Eb h hf];simp
 ·show bz 0 f=_
  rw[uC];simp
 ·show bz 0 f=_
  rw[uC];simp
 ·show bz (u32.wrap (1*2^(min ((g:Int)).toNat u32.bits))) f=_
  rw[Eb h hf];simp
theorem qh(c:bd){f:Nat}{d:Int}(hf:f<32)(hd:d=1\/d=2):dO (c,f,d)=bk c f d:=by
 have key: ∀g,g<32-> ∀e,e=1\/e=2->bk (dv (c,fo (f,d))) g e=(bk c g e&&(decide (g=f)&&decide (e=d))):=λg j e k=>by
  simp_all [ur,Dc]
 have h:=TC (c,fo (f,d));unfold dO;generalize hb:dv (c,fo (f,d))=b at key h;cases hm:bk c f d with
 |true=>
  grind [Fj,uC,FM]
 |false=>
  have h0: ∀g,g<32-> ∀e,e=1\/e=2->bk b g e=false:=λg j e k=>by
   rw[key g j e k];by_cases h1:g=f/\e=d
   ·rw[h1.1,h1.2,hm,ayv]
   ·have:(decide (g=f)&&decide (e=d))=false:=by
     rw[avz,aut,aut];by_cases h2:g=f
     ·exact .inr λh3=>h1 ⟨h2,h3⟩
     ·exact .inl h2
    rw[this,ayc]
  have l:=W.R6 h.1 λi hi=>h0 i hi 1 (.inl rfl)
  have m:=W.R6 h.2 λi hi=>h0 i hi 2 (.inr rfl)
  rw[l,m];rfl
theorem agj:(List.range 31).all (λn=>(List.range 32).all λf=>(bk (mr (n+2)) f 1==decide (f<=(n:Int)+2-2))&&(bk (mr (n+2)) f 2==(decide (1<=(f:Int))&&decide (f<=(n:Int)+2-1))))=true:=by kernel_rfl
theorem HD{fl:Int}(h:2<=fl/\fl<=32){f:Nat}{d:Int}(hf:f<32)(hd:d=1\/d=2):bk (mr fl) f d=true↔cL fl f d:=by
 obtain⟨n,g⟩: ∃n:Nat,fl=n+2:=⟨(fl-2).toNat,by omega⟩
 have h1:=List.all_eq_true.1 (List.all_eq_true.1 agj n (List.mem_range.2 (by omega))) f (List.mem_range.2 hf);grind [cL]
theorem yg{b:ab}(g:aK b){f:Nat}{d:Int}(hf:f<32)(hd:d=1\/d=2):bk (dB b) f d=true↔cL b.1 f d:=by
 have hl:b.aL.length<=maxLen:=by have h1:=g.cn.2;grind [maxLen]
 rw[RC b hl,ava g];exact HD g.fl hf hd
theorem rK{c:bd}{e:az}:e∈eR c↔ ∃f:Nat,f<32/\ ∃d:Int,(d=1\/d=2)/\bk c f d=true/\e=((f:Int),d,-1,0,false):=by
 unfold eR;rw[List.mem_flatMap];constructor
 ·rintro⟨f,hf,he⟩
  have hf:=List.mem_range.1 hf;rw[qh c hf (.inl rfl),qh c hf (.inr rfl),aww]at he;rcases he with he|he
  ·cases hm:bk c f 1 with
   |true=>rw[hm,auw,av8]at he;exact⟨f,hf,1,.inl rfl,hm,he⟩
   |false=>rw[hm,aur]at he;cases he
  ·cases hm:bk c f 2 with
   |true=>rw[hm,auw,av8]at he;exact⟨f,hf,2,.inr rfl,hm,he⟩
   |false=>rw[hm,aur]at he;cases he
 ·rintro⟨f,hf,d,hd,hm,rfl⟩
  refine⟨f,List.mem_range.2 hf,?_⟩;rw[qh c hf (.inl rfl),qh c hf (.inr rfl),aww];rcases hd with rfl|rfl
  ·left;rw[hm,auw];exact List.mem_singleton.2 rfl
  ·right;rw[hm,auw];exact List.mem_singleton.2 rfl
theorem xS{b:ab}(h:aK b)(p o:bd): ∀e∈my (dS (dv (p,dB b),o)),cL b.1 e.1 e.2.1:=λe g=>by
 obtain⟨f,hf,d,hd,hm,rfl⟩:=rK.1 g;simp_all [um,ur,yg]
end
theorem xL{α β K ρ:Type}{step:K->Int×β->an K (Int×β) ρ}{k:K}(l:List α)(f:β->α->β)(I:β->Prop)(hl:l.length<=maxLen)
  (h: ∀m (i:Nat) (hi:i<l.length),I m->step k (i,m)= .next k (i64.wrap (i+1),f m l[i])/\I (f m l[i]))
  (hb: ∀m,I m->step k (l.length,m)= .brk k (l.length,m)) (m0:β) (h0:I m0) {fuel:Nat} (j:l.length<fuel):
  endOf step k fuel (0,m0)=((l.length:Int),l.foldl f m0)/\bj step k fuel (0,m0)=none/\I (l.foldl f m0):=by
 have key: ∀(n i:Nat) (m:β),l.length-i=n->i<=l.length->n<fuel->I m-> ∀a,n<a->endOf step k a (i,m)=((l.length:Int),(l.drop i).foldl f m)/\bj step k a (i,m)=none/\I ((l.drop i).foldl f m):=by
  intro n;induction n with
  |zero=>
   intro i m s hi _ o a t;have:i=l.length:=by omega
   subst this;obtain⟨g,rfl⟩: ∃g,a=g+1:=⟨a-1,by omega⟩
   simp_all [endOf,bj]
  |succ n u=>
   intro i m s hi w o a t;obtain⟨g,rfl⟩: ∃g,a=g+1:=⟨a-1,by omega⟩
   obtain⟨h1,h2⟩:=h m i (by omega) o;rw[av5 (by omega:i<l.length),awb];simp only[endOf,bj,h1];rw[pQ (by omega:i<l.length) hl];exact u (i+1) _ (by omega) (by omega) (by omega) h2 g (by omega)
 have:=key l.length 0 m0 (by omega) (awc _) j h0 fuel j;simp_all
def qK(m:ak)(e:List Int)(r:aI):List Int:=
 bif(r.1==2)&&(eI (m,r.2.1,r.2.2.1)).2 then iU e (eI (m,r.2.1,r.2.2.1)).1
 else bif(r.1==1)&&(!(eI (m,r.2.1,r.2.2.1)).2)then iz e (eI (m,r.2.1,r.2.2.1)).1 [0]else e
def cj(x:bY)(r:aI):bY:=((x.1.1++ [r],(ef (r,x.1.2.1)).2,qK x.1.2.1 x.1.2.2.1 r,x.1.2.2.2),x.2)
theorem agG{x:bY}{r:aI}{l:List aI}(h:du l x)(hr:bW x.2 r):du l (cj x r):=by
 refine⟨mc h.aU hr,?_,h.dw⟩;show(qK x.1.2.1 x.1.2.2.1 r).length=(ef (r,x.1.2.1)).2.2.2.2.length;have a: ∀n,n=(eY (x.2,x.1.2.1,r)).1.2.2.2.length->n=(ef (r,x.1.2.1)).2.2.2.2.length:=λn f=>by rw[f,rS h.aU hr]
 unfold qK;cases c1:((r.1==2)&&(eI (x.1.2.1,r.2.1,r.2.2.1)).2)with
 |true=>exact a _ (Mn h.aU hr h.exp c1).2
 |false=>
  cases c2:((r.1==1)&&(!(eI (x.1.2.1,r.2.1,r.2.2.1)).2))with
  |true=>exact a _ (exp2 h.aU hr h.exp c2).2
  |false=>exact a _ (aaS h.aU hr h.exp c1 c2)
theorem rP{l:List aI}{x:bY}(h:du l x)(hl:l.length<=maxLen):fe (l,x)=((),l.foldl cj x)/\du l (l.foldl cj x)/\(l.foldl cj x).2=x.2:=by
 have a:=xL (step:=uO) (k:=(l,l.length)) l cj (λm=>du l m/\m.2=x.2) hl (λm i hi hm=>by
  have hr:=hm.1.dw _ (axn hi);refine⟨?_,agG hm.1 hr,hm.2⟩;unfold uO;simp only[show((i:Int)<l.length)from by omega,bH l i hi];rw[rS hm.1.aU hr];simp only[cj,qK];cases c1:((l[i].1==2)&&(eI (m.1.2.1,l[i].2.1,l[i].2.2.1)).2)with
  |true=>rfl
  |false=>
   cases c2:((l[i].1==1)&&(!(eI (m.1.2.1,l[i].2.1,l[i].2.2.1)).2))<;>rfl) (λm hm=>by
  simp_all [uO]) x ⟨h,rfl⟩ (fuel:=Nat.succ (Da (l,l.length) (0,x))) (by simp_all [Da])
 simp_all [fe,Vk]
theorem lj: ∀(l:List aI) (x:bY),(l.foldl cj x).1.1=x.1.1++l
 | [],x=>by simp
 |r::l,x=>by rw[awb,lj l];simp[cj]
theorem aez{x:ab×bO}(hl:x.1.2.2.2.2.2.2.2.length<=maxLen)(h1:x.2.1.1.size<=500000)(h2:x.2.1.2.size<=500000):(pD x).2.2.2.length<=100000:=by
 have hs:=Qb h1 h2;have r:=Tj hl hs;have h:=iq (step:=nD) (k:=((fM (x.1,dt x.2)).1,((fM (x.1,dt x.2)).1.length:Int))) (I:=λy=>0<=y.1/\y.2.2.2.2.length<=y.1/\y.1<=((fM (x.1,dt x.2)).1.length:Int)) (λy k' z f a=>by
  unfold nD at a;revert a
  by_cases g:y.1<((fM (x.1,dt x.2)).1.length:Int)
  ·simp only[g]
   intro a;cases a;have q:=(Hj (aa (fM (x.1,dt x.2)).1 y.1) y.2).2.2.2;rw[aA (by omega) (by omega)];refine⟨by omega,acW q f.2.1,by omega⟩
  ·simp only[g]
   intro a;cases a) (λy k' z f a=>by
  unfold nD at a;revert a
  simp only[cond];split
  ·intro a;cases a
  ·intro a;cases a;exact f) (Nat.succ (vD ((fM (x.1,dt x.2)).1,((fM (x.1,dt x.2)).1.length:Int)) (0,(gk x.1).1))) (0,(gk x.1).1) ⟨au4 _,r.2.2.2.1,auz _⟩
 show(endOf nD ((fM (x.1,dt x.2)).1,((fM (x.1,dt x.2)).1.length:Int)) (Nat.succ (vD ((fM (x.1,dt x.2)).1,((fM (x.1,dt x.2)).1.length:Int)) (0,(gk x.1).1))) (0,(gk x.1).1)).2.2.2.2.length<=100000;omega
theorem ael{x:ab×bO×Int}(hl:x.1.2.2.2.2.2.2.2.length<=maxLen)(h1:x.2.1.1.1.size<=500000)(h2:x.2.1.1.2.size<=500000):(pJ x).2.1.2.2.2.length<=100000:=by
 unfold pJ;simp only[cond];split;all_goals simp_all [aez]
theorem cF.vw{t:aq}(h:cF t){i:Int}(r:0<=i/\i<t.1.2.2.2.2.2.2.2.length){a:gw}:NB (t.1,t.2.1,i,a):=
 ⟨lY h.p1 h.n8,df r h.p1,h.c3.trans h.p1.symm,h.p2.trans h.p1.symm,h.c2.trans h.p1.symm,h.ph⟩
theorem S2{b:ab}{f d:Int}(h:cL b.1 f d):bW b (1,f,d,0,0):= .inl ⟨.inl rfl,h,rfl,rfl⟩
theorem du.with{l a:List aI}{x:bY}(h:du l x)(hr: ∀r∈a,bW x.2 r):du a x:=⟨h.aU,h.exp,hr⟩
theorem Jc{x:bY}{f d:Int}(h:du [] x)(a:cL x.2.1 f d):du [(1,f,d,0,0)] x:=h.with λr hr=>by simp_all [S2]
theorem ar5{x:bY}{f d:Int}(h:du [] x)(a:cL x.2.1 f d):du [] (fe ([(1,f,d,0,0)],x)).2/\(fe ([(1,f,d,0,0)],x)).2.2=x.2/\(fe ([(1,f,d,0,0)],x)).2.1.1.length=x.1.1.length+1:=by
 obtain⟨h1,h2,h3⟩:=rP (Jc h a) (by simp[maxLen]);rw[h1];exact⟨h2.with (λr hr=>by cases hr),h3,by grind [lj]⟩
theorem n40{α:Type}{l:List α}{x n:Int}{m:Nat}(h:l.length<=40000+x)(h1:n=m)(h2:m<=64)(a:x<n):l.length<=50000:=by omega
theorem n41{a b:Nat}{x:Int}(h:b<=40000+x)(f:a=b+1):a<=40000+(x+1):=by omega
theorem n42{b:Nat}{x:Int}(h:b<=40000+x):b<=40000+(x+1):=by omega
theorem n43{b:Nat}(h:b<=40000):(b:Int)<=40000+0:=by omega
theorem n44{α:Type}{l:List α}{k x:Int}(h:k=l.length)(a:x<k)(h0:0<=x):0<=x/\x<l.length:=⟨h0,h▸a⟩
theorem ajI{α:Type}(a:α): [a].length<=1000:=by simp
theorem Qs(c:af):(my c).length<=64:=uf c
def Ga(x:ab×bO×Int):bg×af:=letI b:=pJ x;letI a:=F0 (x.1,b.2.1,b.1);bif b.2.2.2 !=0 then((([],[],[],[]),b.1,[],[],[],[],[],[],0,0,0),0,b.2.2.2)else bif a.2 !=0 then((([],[],[],[]),((ByteArray.empty,ByteArray.empty),0),[],[],[],[],[],[],0,0,0),0,a.2)else(a.1,b.2.2.1,0)
def LH(x:ab×bO×Int):Prop:=x.2.1.1.1.size<=500000/\x.2.1.1.2.size<=500000
def rh(x:ab×bg):=letI a:=(x.1.2.2.2.2.2.2.2.length:Int);letI c:=x.2.2.2;letI b:=c.2.2.2;bif !pC (x.1,x.2.1)|| !cV (x.1.2.2.1,x.2.2.1)||(b.2.1.length:Int) !=x.2.1.2.2.2.length|| !pG b.2.1|| !pG [b.2.2.2.1,b.2.2.2.2.1,b.2.2.2.2.2]then false else(GA (c.1,a,x.1)).1&&(F2 (c.2.1,a,x.1)).1&&(F1 (c.2.2.1,a,x.1)).1&&Gt (b.1,a,some 66)&&b.2.2.1.length==a
def CU(k:(List (aP))×Int)(x:Int×aq):Prop:=0<=x.1/\k.2=k.1.length
def iZ(k:((List (aP))×Int))(x:(Int×aq)):Nat:=(k.2-x.1).toNat
def gL(k:(List (aP))×Int)(x:Int×aq):an ((List (aP))×Int) (Int×aq) (Unit×aq):=letI b:=x.2.2;letI a:=kP (x.2.1,b.1.2.1,b.1.1,aa k.1 x.1,b.2.2.2.1);bif x.1<k.2 then bif b.2.2.2.2.1 !=0 then .ret ((),x.2)else .next k (i64.wrap (x.1+1),x.2.1,(a.2.1,a.1,b.1.2.2),b.2.1,b.2.2.1,a.2.2.1,a.2.2.2,b.2.2.2.2.2)else .brk k x
def vy k x:=endOf gL k (Nat.succ (iZ k x)) x
def vk k x:=bj gL k (Nat.succ (iZ k x)) x
def dH(x:(List (aP))×aq):=letI a:=(x.1,(x.1.length:Int));letI b:=(0,x.2);dJ (vk a b) (λy=>y) ((),(vy a b).2)
def R0(k:Int×aq)(x:(List aZ)×Int):Prop:=0<=x.2/\k.1=x.1.length/\cF k.2/\x.1.length=k.2.1.2.2.2.2.2.2.2.length
def yN(k:(Int×aq))(x:((List (aZ))×Int)):Nat:=(k.1-x.2).toNat
def QN(k:Int×aq)(x:(List aZ)×Int):=letI a:=aJ eO x.1 x.2 (wq (k.2.1,k.2.2.1,x.2,(aa k.2.2.2.1.2.2 x.2).2.1));letI b:=aa a x.2;letI c:=b.2.2.2;aJ eO a x.2 (b.1,b.2.1,b.2.2.1,c.1,c.2.1,c.2.2.1,c.2.2.2.1,aa k.2.2.2.2.2.2.2.2.1 x.2,c.2.2.2.2.2)
def pZ(k:Int×aq)(x:(List aZ)×Int):an (Int×aq) ((List aZ)×Int) ((List aZ)×Unit):=letI a:=i64.wrap (x.2+1);letI b:=k.2.2;letI c:=mG (b.1.1,x.2);bif x.2<k.1 then bif !b.2.2.1 then .next k (aJ eO x.1 x.2 (false,c,false,aa b.1.1.2.1 x.2|| !c,(-1:Int),(0:Int),(0:Int),((0:Int),(0:Int)),(0:Int),(0:Int),(0:Int)),a)else bif aa b.2.2.2.2.2.1 x.2 then .next k (QN k x,a)else .next k (aJ eO x.1 x.2 (wq (k.2.1,b.1,x.2,(aa b.2.1.2.2 x.2).2.1)),a)else .brk k x
def amV k x:=endOf pZ k (Nat.succ (yN k x)) x
def eC(x:aq):=letI a:=aC eO x.1.2.2.2.2.2.2.2.length;((amV (a.length,x) (a,0)).1,())
def Vi(x:aq):Prop:=cF x
def Rl(k:(List az)×Int)(x:Int×bY):Prop:=0<=x.1/\k.2=k.1.length/\k.1.length<=64/\du [] x.2/\(∀e∈k.1,cL x.2.2.1 e.1 e.2.1)/\x.2.1.1.length<=40000+x.1
def Dd(k:((List (az))×Int))(x:(Int×bY)):Nat:=(k.2-x.1).toNat
def uY(k:(List az)×Int)(x:Int×bY):an ((List az)×Int) (Int×bY) (Unit×bY):=letI a:=aa k.1 x.1;letI b:=i64.wrap (x.1+1);letI c:=x.2.1.2;bif x.1<k.2 then bif fP (x.2.2,c.1)then .next k (b,(fe ([(1,a.1,a.2.1,0,0)],x.2)).2)else .next k (b,(x.2.1.1,c.1,c.2.1,c.2.2.1,fc (c.2.2.2,fo (a.1,a.2.1))),x.2.2)else .brk k x
def UG k x:=endOf uY k (Nat.succ (Dd k x)) x
def lR(x:(af)×(af)×bY):=letI a:=my (dS (dv (x.1,dB x.2.2.2),x.2.1));((),(UG (a,a.length) (0,x.2.2)).2)
def V4(x:(af)×(af)×bY):Prop:=du [] x.2.2/\x.2.2.1.1.length<=40000
def CP(k:(List aZ)×Int×Int×Int×(List aZ)×Int×ab)(x:kd):Prop:=letI a:=k.2.2.2.2;0<=x.2.1/\a.2.1=a.1.length/\k.1.length=a.1.length
def Cl(k:(List aZ)×Int×Int×Int×(List aZ)×Int×ab)(x:kd):=(k.2.2.2.2.2.1-x.2.1).toNat
def vg(k:(List aZ)×Int×Int×Int×(List aZ)×Int×ab)(x:kd):an ((List aZ)×Int×Int×Int×(List aZ)×Int×ab) (kd) Int:=letI c:=x.2.1;letI a:=i64.wrap (c+1);letI d:=k.2.2.2;letI b:=wG (d.2.2.2,k.1,c,k.2.1,k.2.2.1);letI e:=(x.1,a,x.2.2);bif c<d.2.2.1 then bif !(aa d.2.1 c).1||c==d.1 then .next k e else bif x.1== -1||Fc (b,x.2.2)then .next k (c,a,b)else .next k e else .brk k x
def al3 k x:=endOf vg k (Nat.succ (Cl k x)) x
def pr(x:ab×(List aZ)×ay):=letI a:=(x.2.1.length:Int);bif ca x.1 !=0||a !=x.1.2.2.2.2.2.2.2.length then -1 else(al3 (x.2.1,x.2.2.1,x.2.2.2.1,x.2.2.2.2,x.2.1,a,x.1) (-1,0,0,0)).1
def ab0:Ct:=⟨Ty.pair aD (Ty.pair eo ae),[some 8,some 3,none],Ty.pair fE (Ty.pair ae bX),ah.tup [some 16,none,none],some LH,none,Ga⟩
def abx:Ct:=⟨Ty.pair aD fE,[some 8,some 16],aw,ah.one none,none,none,rh⟩
def E3:Cv:=⟨Ty.pair dF dj,[none],[.p,.v],[43],false,[(16,true,70),(17,true,142),(18,true,153),(19,true,158),(33,true,4),(34,true,51),(35,true,4),(43,true,85)],dj,Ty.unit,ah.none,[(15,true,70),(16,true,142),(17,true,153),(18,true,158),(32,true,4),(33,true,51),(34,true,4),(42,true,85)],none,dH,false⟩
def Ey:Cv:=⟨dj,[],[.p],[43],true,[],Ty.unit,gx,ah.one none,[(0,true,335)],some Vi,eC,true⟩
def EE:Cv:=⟨Ty.pair aS (Ty.pair aS oW),[some 2,some 2],[.p,.v,.v],[20],false,[(4,true,213),(9,true,3)],oW,Ty.unit,ah.none,[(0,true,213),(5,true,3)],some V4,lR,false⟩
def LO:Ct:=⟨Ty.pair aD (Ty.pair gx (Ty.pair ae (Ty.pair ae ae))),[some 8,none,none,none,none],ae,ah.one none,none,none,pr⟩
def nQ(z:List (Nat×List Nat)):=dN (Qi true) mi dh Ri z
theorem at2:ar 20 ab0:=au (nQ []) func20 [] l0 (sp λx fx h=>sl (WQ x/\(((pJ x).2.2.2 !=0)=false->WB (x.1,(pJ x).2.1,(pJ x).1))) (by
 try dsimp only[Ty.den]at*
 exact⟨h,λ_=>ael fx.1.2.2.2.2.2.2.2.1 h.1 h.2⟩))
theorem asy:ar 21 abx:=have E:=ai @KY.eq_1 SN;au (nQ []) func21 [] l0 (λx fx _=>sl (letI a:=x.2.2.2.2.2.2;(((!pC (x.1,x.2.1)|| !cV (x.1.2.2.1,x.2.2.1)||(a.2.1.length:Int) !=x.2.1.2.2.2.length)|| !pG a.2.1)|| !pG [a.2.2.2.1,a.2.2.2.2.1,a.2.2.2.2.2])=false->KY (a.1,x.1.2.2.2.2.2.2.2.length,some 66)))
def Sz:LS (Ty.pair Ty.unit dj).den:=aH (Ty.pair dF ae) (Ty.pair ae dj) [(10,none),(11,none)] [] [(12,none)] [(0,43)] [(16,100116,true,70),(17,100117,true,142),(18,100118,true,153),(19,100119,true,158),(33,100133,true,4),(34,100134,true,51),(35,100135,true,4),(43,100143,true,85)] [] [(0,0)] 0 true CU gL iZ
theorem ak2:gU f175 E3 [0] Sz:=have E:=ai @CU.eq_1<|ai @iZ.eq_1<|ai @gL.eq_1 SN;lV (nQ []) [] l0 (λk x fk fx h=>sm (decide (x.1<k.2)=true->0<=x.1/\x.1<k.1.length))
theorem an0:dP 175 E3:=have E:=ai @CU.eq_1 SN;dV (nQ []) func175 [(1,Sz)] (lc ak2 l0) (λx fx _=>sl (CU (x.1,x.1.length) (0,x.2)))
def Tg:LS (Ty.pair gx Ty.unit).den:=aH (Ty.pair ae dj) (Ty.pair gx ae) [(14,none)] [(0,43)] [(3,none),(15,none)] [] [(0,100300,true,335)] [] [(0,0)] 0 false R0 pZ yN
theorem ak3:gU f178 Ey [0] Tg:=lV (nQ []) [] l0 (λk x fk fx h=>sl (letI b:=0<=x.2/\x.2<(x.1.length:Int);letI c:=k.2.2.2;letI a:=(k.2.1,k.2.2.1,x.2,(aa c.1.2.2 x.2).2.1);letI d:=c.2.2.2.2;decide (x.2<k.1)=true->(((!c.2.1)=true->((0<=x.2/\x.2<(k.2.2.1.1.2.1.length:Int))/\b))/\((!c.2.1)=false->((0<=x.2/\x.2<(c.1.2.2.length:Int))/\(U7 a/\(b/\((0<=x.2/\x.2<d.1.length)/\(aa d.1 x.2=true->(0<=x.2/\x.2<d.2.1.length)/\0<=x.2/\x.2<((aJ eO x.1 x.2 (wq a)).length))))))))) (by
 try dsimp only[Ty.den]at*
 obtain⟨h0,h1,h2,h3⟩:=h;intro hc;rw[adv]at hc;have r:=n44 h1 hc h0;have rn:=df r h3.symm;exact⟨λ_=>⟨df rn h2.p2,r⟩,λhg=>⟨df rn (h2.eK (by rw[ave]at hg;exact hg)),h2.vw rn,r,df rn h2.c5,λ_=>⟨df rn h2.c6,df r (auu ..)⟩⟩⟩)) λk x fk h=>by
 try dsimp only[Ty.den]at*
 obtain⟨h0,h1,h2,h3⟩:=h;unfold pZ;refine bf.cnd (λhc=> ?_) (λ_=>rfl);rw[adv]at hc;have e:=cA h0 (n44 h1 hc h0).2 (auq (lY h3 h2.n8) (by decide));rw[e];have q1: ∀{α:Type} {l:List α} {i:Nat} {a:α},l.length=x.1.length->k.1=((l.set i a).length:Int):=λh=>by rw[auu,h];exact h1
 have q2: ∀{α:Type} {l:List α} {i:Nat} {a:α},l.length=x.1.length->(l.set i a).length=k.2.1.2.2.2.2.2.2.2.length:=λh=>by rw[auu,h];exact h3
 refine bf.cnd (λ_=> ?_) (λ_=>bf.cnd (λ_=> ?_) (λ_=> ?_))
 ·exact⟨rfl,⟨cE h0,q1 rfl,h2,q2 rfl⟩,dg hc⟩
 ·exact⟨rfl,⟨cE h0,q1 (auu ..),h2,q2 (auu ..)⟩,dg hc⟩
 ·exact⟨rfl,⟨cE h0,q1 rfl,h2,q2 rfl⟩,dg hc⟩
theorem apV:dP 178 Ey:=dV (nQ []) func178 [(3,Tg)] (lc ak3 l0) (sp λx fx h=>sl (letI a:=(x.1.2.2.2.2.2.2.2.length:Int);(0<=a/\a=a/\a*56<=140737488355328/\a<=4611686018427387903)/\R0 (((aC eO a).length),x) (aC eO a,0)) (by
 try dsimp only[Ty.den]at*
 have h:cF x:=h;exact⟨nK h.n8 56 ⟨by decide,by decide⟩,au4 _,rfl,h,eu _⟩))
def SF:LS (Ty.pair Ty.unit oW).den:=aH (Ty.pair da ae) (Ty.pair ae oW) [(17,none),(18,none)] [] [(19,none)] [(0,20)] [(1,100201,true,213),(6,100206,true,3)] [] [(0,0)] 0 false Rl uY Dd
theorem akL:gU f224 EE [0] SF:=lV (nQ []) [] l0 (λk x fk fx h=>sl (decide (x.1<k.2)=true->(0<=x.1/\x.1<k.1.length)/\(fP (x.2.2,x.2.1.2.1)=true->zJ ([(1,(aa k.1 x.1).1,(aa k.1 x.1).2.1,0,0)],x.2))) (by
 try dsimp only[Ty.den]at*
 obtain⟨h0,h1,h2,h3,h4,h5⟩:=h;intro hc;rw[adv]at hc;have r:=ig h0 (h1▸hc);exact⟨r,λ_=>⟨ajI _,Jc h3 (gM h4 r),n40 h5 h1 h2 hc⟩⟩)) λk x fk h=>by
 try dsimp only[Ty.den]at*
 obtain⟨h0,h1,h2,h3,h4,h5⟩:=h;unfold uY;refine bf.cnd (λhc=> ?_) (λ_=>rfl);rw[adv]at hc;have r:=ig h0 (h1▸hc);have e:=cA h0 (h1▸hc) (auq h2 (by decide));have q:=ar5 h3 (gM h4 r);rw[e];refine bf.cnd (λ_=> ?_) (λ_=> ?_)
 ·exact⟨rfl,⟨cE h0,h1,h2,q.1,λe he=>by rw[q.2.1];exact h4 e he,n41 h5 q.2.2⟩,dg hc⟩
 ·exact⟨rfl,⟨cE h0,h1,h2,⟨h3.aU,h3.exp,h3.dw⟩,h4,n42 h5⟩,dg hc⟩
theorem aot:dP 224 EE:=dV (nQ []) func224 [(2,SF)] (lc akL l0) (sp λx fx h=>sl (letI a:=my (dS (dv (x.1,dB x.2.2.2),x.2.1));Rl (a,a.length) (0,x.2.2)) (by
 try dsimp only[Ty.den]at*
 obtain⟨h1,h2⟩:du [] x.2.2/\x.2.2.1.1.length<=40000:=h;exact⟨au4 _,rfl,Qs _,h1,xS h1.aU.bB _ _,n43 h2⟩))
def S6:LS ae.den:=aH (Ty.pair gx (Ty.pair ae (Ty.pair ae (Ty.pair ae (Ty.pair gx (Ty.pair ae aD)))))) (Ty.pair ae (Ty.pair ae wa)) [(1,none),(2,none),(3,none),(4,none),(28,none),(29,none)] [(5,8)] [(11,none),(30,none)] [(12,2)] [] [] [(5,5),(12,12)] 0 false CP vg Cl
theorem ak8:bF f287 LO [0] S6:=have E:=ai @CP.eq_1<|ai @Cl.eq_1<|ai @vg.eq_1<|ai @vp.eq_1 SN;lA (nQ []) [] l0 (λk x fk fx h=>sm (letI a:=k.2.2.2;letI b:=x.2.1;decide (b<a.2.2.1)=true->(0<=b/\b<a.2.1.length)/\((!(aa a.2.1 b).1||b==a.1)=false->vp (a.2.2.2,k.1,b,k.2.1,k.2.2.1))))
theorem aql:ar 287 LO:=have E:=ai @CP.eq_1<|ai @vp.eq_1 SN;au (nQ []) func287 [(5,S6)] (lc ak8 l0) (λx fx _=>sl (letI a:=(x.2.1.length:Int);(ca x.1 !=0||a !=x.1.2.2.2.2.2.2.2.length)=false->CP (x.2.1,x.2.2.1,x.2.2.2.1,x.2.2.2.2,x.2.1,a,x.1) (-1,0,0,0)))
def adj(nw:Bool):=(175,.pv E3)::(178,.pv Ey)::(224,.pv EE)::ab3 nw
theorem Qy(nw:Bool):gj (adj nw):=zc (z:= .pv E3) an0 func175 (zc (z:= .pv Ey) apV func178 (zc (z:= .pv EE) aot func224 ((Qi nw))))
def abT:=(20,ab0)::(21,abx)::(287,LO)::adp
theorem RV:cu abT:=gc at2 func20 (gc asy func21 (gc aql func287 (Ri)))
theorem Ok{x:Int×aq}(h:cF x.2):cF (pq x).2/\(pq x).2.1=x.2.1:=by
 unfold pq;cases(!x.2.2.2.2.1)with
 |true=>exact⟨⟨h.n8,h.cf,h.c1,(auu ..).trans h.c2,h.c3,h.c4,(auu ..).trans h.c5,h.c6,h.c7,h.c8,h.p1,h.p2,h.p3,h.ph,h.eK,h.cmd,h.iY⟩,rfl⟩
 |false=>exact⟨⟨h.n8,h.cf,h.c1,(auu ..).trans h.c2,h.c3,h.c4,(auu ..).trans h.c5,(auu ..).trans h.c6,h.c7,h.c8,h.p1,h.p2,h.p3,h.ph,h.eK,h.cmd,h.iY⟩,rfl⟩
theorem OU{b:ab}{m:ak}{r:aI}(h:(eY (b,m,r)).2=0):(eY (b,m,r)).1=(ef (r,m)).2:=by
 unfold eY at h⊢;cases hc:((!(cJ (b,m)))||(!(iW (b,r))))with
 |true=>simp_all
 |false=>rfl
theorem OI{b:ab}{s:bO}{m:ak}{r:aI}{n:Int}(h:(kP (b,s,m,r,n)).2.2.2=0):(kP (b,s,m,r,n)).2.1=(ef (r,m)).2:=by
 unfold kP at h⊢;simp only at h⊢;cases h1:((((eY (b,m,r)).2 !=(0:Int))||(!(cV (b.2.2.1,s))))||(decide (n<(0:Int))))with
 |true=>rw[h1,auw]at h;exact absurd h (by decide)
 |false=>
  rw[h1,aur]at h;have a:(eY (b,m,r)).2=0:=by
   rw[auv,auv,au8]at h1;exact h1.1.1
  rw[aur];revert h
  cases(((r.1==(1:Int))&&(!((bt (m,r.2.1,r.2.2.1)).2)))&&(!(fP (b,m))))with
  |true=>simp only[auw];intro h;exact absurd h (by decide)
  |false=>
   simp only[aur];cases(decide ((((iR (b,r)).1).size:Int)<=(i64.wrap (b.2.2.1 - (((dt s)).size:Int)))))with
   |true=>
    simp only[auw];generalize oa (b.2.2.1,s,s.2,(iR (b,r)).1,n)=w;cases hz:(w.2.2==(0:Int))with
    |true=>simp only[auw];intro _;exact OU a
    |false=>
     simp only[aur];rw[awu]at hz;cases h8:(w.2.2==(8:Int))with
     |true=>simp only[auw];intro h;exact absurd h hz
     |false=>simp only[aur];intro h;exact absurd h hz
   |false=>
    simp only[aur];generalize kT (b,s,(eY (b,m,r)).1,n)=w;cases hz:(w.2.2==(0:Int))with
    |true=>simp only[auw];intro _;exact OU a
    |false=>
     simp only[aur];rw[awu]at hz;cases h8:(w.2.2==(8:Int))with
     |true=>simp only[auw];intro h;exact absurd h hz
     |false=>simp only[aur];intro h;exact absurd h hz
theorem PS{m:ak}{r:aI}(h:r.1≠4):(ef (r,m)).2.1=m.1:=by
 unfold ef;grind
def kW(t a:aq):Prop:=(a.2.2.2.2.2.1=0->cF a)/\a.1=t.1/\a.2.2.1=t.2.2.1/\a.2.2.2.1=t.2.2.2.1
theorem QH{l:List aI}{t:aq}(h:cF t)(hl: ∀r∈l,r.1≠4)(j:l.length<=maxLen):kW t (dH (l,t)).2:=by
 have m:=na (step:=gL) (k:=(l,l.length)) (I:=λy=>0<=y.1/\y.1<=l.length/\kW t y.2) (mu:=λy=>(l.length-y.1).toNat)
  (Q:=λo y=>match o with|some r=>kW t r.2|none=>kW t y.2) (λy s=>by
   obtain⟨h0,h1,h2⟩:=s;unfold gL;by_cases f:y.1<l.length
   ·simp only[f]
    cases hf:(y.2.2.2.2.2.2.1 !=0)with
    |true=>exact h2
    |false=>
     rw[au8]at hf;have a:=h2.1 hf;have hr:=gM hl ⟨h0,f⟩;have e:=cA h0 f j;rw[aur,e];have q:=Hj (aa l y.1) y.2.2.1.1;refine⟨⟨cE h0,by omega,⟨λu=> ?_,h2.2⟩⟩,dg f⟩;have g:=OI u;exact⟨a.n8,a.cf,a.c1,a.c2,a.c3,a.c4,a.c5,a.c6,a.c7,a.c8,(av2 (λi:ak=>i.1.length) g).trans (q.1.trans a.p1),(av2 (λi:ak=>i.2.1.length) g).trans (q.2.1.trans a.p2),(av2 (λi:ak=>i.2.2.1.length) g).trans (q.2.2.1.trans a.p3),
      λp w=>a.ph p (by rw[<- PS hr,<- g];exact w),a.eK,a.cmd,a.iY⟩
   ·simp only[f]
    exact h2) (Nat.succ (iZ (l,l.length) (0,t))) (0,t) ⟨au4 _,auz _,λ_=>h,rfl,rfl,rfl⟩ (by unfold iZ;simp)
 unfold dH vk vy;revert m
 cases bj gL (l,l.length) (Nat.succ (iZ (l,l.length) (0,t))) (0,t)with
 |some r=>intro h;exact h
 |none=>intro h;exact h
theorem Hd{b:ab}{m:ak}{c:af}{l:List Bool}(a:c.1=0\/c.1=8):(iB (b,m,c,l)).1= []\/(iB (b,m,c,l)).1= [(5,0,0,c.2,0)]:=by
 unfold iB;simp only[cond];split
 ·exact .inl rfl
 split
 ·exact .inl rfl
 split
 ·exact .inl rfl
 split
 ·exact .inl rfl
 rename_i h4;rw[awu]at h4;have f:c.1=8:=a.resolve_left h4;rw[f];unfold Nj;simp only[show((8:Int)==1)=false from rfl,show((8:Int)==2)=false from rfl,show((8:Int)==3)=false from rfl,show((8:Int)==4)=false from rfl,show((8:Int)==5)=false from rfl,show((8:Int)==6)=false from rfl,show((8:Int)==7)=false from rfl,show((8:Int)==8)=true from rfl,ayv,axs,aur];cases aa m.2.1 c.2 with
 |true=>exact .inr rfl
 |false=>exact .inl rfl
theorem Px{b:ab}{m:ak}{c:af}{l:List Bool}(a:c.1=0\/c.1=8):(∀r∈(iB (b,m,c,l)).1,r.1≠4)/\(iB (b,m,c,l)).1.length<=maxLen:=by
 rcases Hd a with h|h<;>rw[h]
 all_goals simp_all [maxLen]
theorem Qg{b:ab}{m:ak}{l:List Bool}(h: ∀p∈m.1,p=0)(i:m.1.length<=maxLen):lQ (b,m,l)= []:=by
 unfold lQ;cases((!(cJ (b,m)))||((l.length:Int) !=b.2.2.2.2.2.2.2.length))with
 |true=>rfl
 |false=>
  have j:=iq (step:=uM) (k:=(l,m.1,m.1.length,m)) (I:=λy=>y.1= []/\0<=y.2) (λy k' z f a=>by
   unfold uM at a;revert a
   by_cases g:y.2<m.1.length
   ·have o:=gM h ⟨f.2,g⟩
    simp only[g,o,show((0:Int) !=1)=true from rfl,show((0:Int)==4)=false from rfl,ayv,ayb,az2,Bool.or_true];intro a;cases a;refine⟨f.1,?_⟩;rw[cA f.2 g i];exact cE f.2
   ·simp only[g]
    intro a;cases a) (λy k' z f a=>by
   unfold uM at a;revert a
   simp only[cond];repeat' split
   all_goals(intro a;first|(cases a;done)|(cases a;exact f))) (Nat.succ (CV (l,m.1,m.1.length,m) ([],0))) ([],0) ⟨rfl,au4 _⟩
  exact j.1
theorem Bg{x:ab×List aZ×ay}(hl:x.2.1.length<=maxLen):pr x= -1\/0<=pr x/\pr x<x.2.1.length:=by
 unfold pr;cases(((ca x.1) !=0)||((x.2.1.length:Int) !=x.1.2.2.2.2.2.2.2.length))with
 |true=>exact .inl rfl
 |false=>
  have h:=iq (step:=vg) (k:=(x.2.1,x.2.2.1,x.2.2.2.1,x.2.2.2.2,x.2.1,x.2.1.length,x.1)) (I:=λy=>0<=y.2.1/\(y.1= -1\/0<=y.1/\y.1<x.2.1.length)) (λy k' z f a=>by
   unfold vg at a;revert a
   by_cases g:y.2.1<x.2.1.length
   ·have e:=cA f.1 g hl
    simp only[e];simp only[cond];repeat' split
    all_goals(intro a;cases a)
    ·exact⟨cE f.1,f.2⟩
    ·exact⟨cE f.1,.inr ⟨f.1,g⟩⟩
    ·exact⟨cE f.1,f.2⟩
   ·simp only[g]
    intro a;cases a) (λy k' z f a=>by
   unfold vg at a;revert a
   simp only[cond];repeat' split
   all_goals(intro a;first|(cases a;done)|(cases a;exact f))) (Nat.succ (Cl (x.2.1,x.2.2.1,x.2.2.2.1,x.2.2.2.2,x.2.1,x.2.1.length,x.1) ((-1:Int),0,0,0))) ((-1:Int),0,0,0) ⟨au4 _,.inl rfl⟩
  exact h.2
theorem ag0{x:aq}:(iA x).1.length=x.1.2.2.2.2.2.2.2.length:=by
 unfold iA;have g:=iq (step:=uP) (I:=λy=>y.1.length=x.1.2.2.2.2.2.2.2.length) (λy k' z f a=>by
  unfold uP at a;revert a
  cases decide (y.2<((x.2.1.1.1,x.2.1.1.1.length,x):List Int×Int×aq).2.1)with
  |true=>
   rw[auw];intro a;cases a;exact(auu ..).trans f
  |false=>simp_all) (λy k' z f a=>by
  unfold uP at a;grind) (Nat.succ (I0 (x.2.1.1.1,x.2.1.1.1.length,x) ((aC aw x.1.2.2.2.2.2.2.2.length),0))) ((aC aw x.1.2.2.2.2.2.2.2.length),0) (eu _)
 exact g
theorem cF.n0{t:aq}(h:cF t):t.2.1.1.1.length<=maxLen:=auq (lY h.p1 h.n8) (by decide)
theorem ag4{x:aq}{s:Int}{l:List Bool}(h:cF x)(a:x.2.2.2.1=true):kW x (dH ((iB (x.1,x.2.1.1,x.2.2.1.2.1,l)).1,x.1,x.2.1,x.2.2.1,x.2.2.2.1,x.2.2.2.2.1,x.2.2.2.2.2.1,x.2.2.2.2.2.2.1,x.2.2.2.2.2.2.2.1,x.2.2.2.2.2.2.2.2.1,x.2.2.2.2.2.2.2.2.2.1,x.2.2.2.2.2.2.2.2.2.2.1,x.2.2.2.2.2.2.2.2.2.2.2.1,x.2.2.2.2.2.2.2.2.2.2.2.2.1,s,x.2.2.2.2.2.2.2.2.2.2.2.2.2.2)).2:=
 QH ⟨h.n8,h.cf,h.c1,h.c2,h.c3,h.c4,h.c5,h.c6,h.c7,h.c8,h.p1,h.p2,h.p3,h.ph,h.eK,h.cmd,h.iY⟩ (Px (h.cmd a)).1 (Px (h.cmd a)).2
theorem kW.auto{x t:aq}(h:kW x t)(f:t.2.2.2.2.2.1=0){b:ab}{l:List Bool}:kW x (dH (lQ (b,t.2.1.1,l),t)).2:=by
 have a:=h.1 f;rw[Qg a.ph a.n0];have:=QH (l:= []) a (λr hr=>by cases hr) (awc _);exact⟨this.1,this.2.1.trans h.2.1,this.2.2.1.trans h.2.2.1,this.2.2.2.trans h.2.2.2⟩
theorem kW.ok{x t:aq}(h:kW x t)(a:(t.2.2.2.2.2.1 !=0)=false):cF t:=h.1 (by simp_all)
theorem kW.lens{x t:aq}(f:cF x)(h:kW x t)(a:(t.2.2.2.2.2.1 !=0)=false):cF t/\t.2.1.1.1.length=t.1.2.2.2.2.2.2.2.length/\x.2.1.1.1.length=t.1.2.2.2.2.2.2.2.length:=⟨h.ok a,(h.ok a).p1,by rw[h.2.1];exact f.p1⟩
theorem i8{x n:Int}{m:Nat}(h1:n=m)(a:m<=8)(f:x<n):x<=100000:=by omega
theorem a8{α:Type}{l:List α}{a:α}{x:Int}(h:l.length<=x):((l++ [a]).length:Int)<=x+1:=by simp_all
theorem b8{n x:Int}(h:n<=x):n<=x+1:=by omega
theorem MV{a:Int}(h:(a==0)=true):a=0:=by simp_all
theorem asH{c n:Int}(h1: -2<=c)(h2:c<n)(c1:(c== -2)=false)(c2:(c== -1)=false):0<=c/\c<n:=by grind
def F8(x:ab):bg×Int:=letI a:=((ByteArray.empty,ByteArray.empty),0);letI b:=Ga (x,a,1048576);bif ca x !=0 then((([],[],[],[]),a,[],[],[],[],[],[],0,0,0),1)else(b.1,b.2.2)
def RF(k:(List Int)×Int)(x:(List (aP))×Int×aq):Prop:=0<=x.2.1/\k.2=k.1.length/\cF x.2.2/\k.1.length=x.2.2.1.2.2.2.2.2.2.2.length/\(∀p∈k.1,p=0)/\x.1.length<=x.2.1
def CK(k:(List Int)×Int)(x:(List (aP))×Int×aq):=(k.2-x.2.1).toNat
def uT(k:(List Int)×Int)(x:(List (aP))×Int×aq):an ((List Int)×Int) ((List (aP))×Int×aq) (Unit×aq):=letI d:=x.2.1;letI a:=i64.wrap (d+1);letI b:=x.1++ [(5,0,0,d,1)];letI e:=pq x.2;letI f:=aa k.1 d;letI c:=FV (d,f,x.2.2);bif d<k.2 then bif gF f then bif(aa e.2.2.1.2.2.2.1 d).2.2.2.2.2&& !aa e.2.2.1.1.2.1 d then .next k (b,a,e.2)else .next k (x.1,a,e.2)else bif qE f then bif(aa c.2.2.1.2.2.2.2.1 d).2.2.2.2.2.2&& !aa c.2.2.1.1.2.1 d then .next k (b,a,c.2)else .next k (x.1,a,c.2)else bif false&& !aa x.2.2.2.1.1.2.1 d then .next k (b,a,x.2.2)else .next k (x.1,a,x.2.2)else .brk k x
def DS k x:=endOf uT k (Nat.succ (CK k x)) x
def fF(x:aq):=letI a:=(x.2.1.1.1,(x.2.1.1.1.length:Int));((),(dH ((DS a ([],0,x)).1,(DS a ([],0,x)).2.2)).2)
def Vt(x:aq):Prop:=cF x
def Ci(k:Int×(List Int)×Int×ak×af)(x:Int×aq):Prop:=letI a:=x.2.1.2.2.2.2.2.2.2;0<=x.1/\k.2.2.1=k.2.1.length/\cF x.2/\k.2.1.length=a.length/\k.2.2.2.1.1.length=a.length
def B9(k:Int×(List Int)×Int×ak×af)(x:Int×aq):=(k.2.2.1-x.1).toNat
def uy(k:Int×(List Int)×Int×ak×af)(x:Int×aq):an (Int×(List Int)×Int×ak×af) (Int×aq) (Unit×aq):=letI d:=i64.wrap (x.1+1);letI f:=x.2.2;letI b:=f.2.2.2;letI c:=f.1.2;letI g:=b.2.2;letI e:=aJ aw g.2.2.1 x.1 true;letI h:=c.2.2;letI a:=aJ iN h.2.1 x.1 (((0:Int),(0:Int)),((0:Int),(0:Int),(0:Int),false,(0:Int)),((0:Int),(0:Int),(0:Int)),(0:Int),(0:Int),(0:Int),false);bif x.1<k.2.2.1 then bif !Fg (aa k.2.2.2.1.1 x.1,aa k.2.1 x.1)then .next k (d,x.2.1,(f.1.1,c.1,c.2.1,aJ eH h.1 x.1 (qB ()),a,h.2.2),f.2.1,f.2.2.1,b.1,b.2.1,g.1,g.2.1,e,g.2.2.2)else bif k.1==0&&k.2.2.2.2.1==8&&k.2.2.2.2.2==x.1 then .next k (d,x.2.1,(f.1.1,c.1,c.2.1,aJ eH h.1 x.1 (we (x.2.1,x.1,aa h.1 x.1)).1,a,h.2.2),f.2.1,f.2.2.1,b.1,b.2.1,g.1,g.2.1,e,g.2.2.2)else .next k (d,x.2)else .brk k x
def C8 k x:=endOf uy k (Nat.succ (B9 k x)) x
def fA(x:aq):=letI d:=x.2.2;letI a:=d.2.2.2.2;letI b:=iB (x.1,x.2.1.1,d.1.2.1,(iA x).1);letI c:=a.2.2.2;dH (b.1,x.1,x.2.1,d.1,d.2.1,d.2.2.1,d.2.2.2.1,a.1,a.2.1,a.2.2.1,c.1,c.2.1,c.2.2.1,c.2.2.2.1,b.2,c.2.2.2.2.2)
def VT(x:aq):=letI b:=x.2.2.1.2.1;letI c:=fA x;letI a:=dH (lQ (c.2.1,c.2.2.1.1,aJ aw (iA x).1 b.2 false),c.2);C8 ((iB (x.1,x.2.1.1,b,(iA x).1)).2,a.2.2.1.1.1,a.2.2.1.1.1.length,x.2.1.1,b) (0,a.2)
def Vs(x:aq):=letI b:=fA x;letI a:=dH (lQ (b.2.1,b.2.2.1.1,(iA x).1),b.2);C8 ((iB (x.1,x.2.1.1,x.2.2.1.2.1,(iA x).1)).2,a.2.2.1.1.1,a.2.2.1.1.1.length,x.2.1.1,x.2.2.1.2.1) (0,a.2)
def ib(x:aq):=letI a:=fA x;letI e:=a.2.2.2.2.2.2.1;letI f:=x.2.2.1.2.1;letI g:=a.2.2.1.1;letI h:=e==0;letI i:=e !=0;letI j:=iA x;letI b:=((),(C8 ((iB (x.1,x.2.1.1,f,j.1)).2,g.1,g.1.length,x.2.1.1,f) (0,a.2)).2);letI c:=dH (lQ (a.2.1,g,aJ aw j.1 f.2 false),a.2);letI d:=dH (lQ (a.2.1,g,j.1),a.2);bif f.1 !=0 then bif h then bif c.2.2.2.2.2.2.1 !=0 then((),c.2)else((),(VT x).2)else bif i then((),a.2)else b else bif h then bif d.2.2.2.2.2.2.1 !=0 then((),d.2)else((),(Vs x).2)else bif i then((),a.2)else b
def UM(x:aq):Prop:=cF x/\x.2.2.2.1=true
def qM(x:(ab×List aZ)×az×Int):=letI c:=x.2.1;letI d:=x.1.2;letI a:=pr (x.1.1,d,c.1,c.2.1,c.2.2.1);letI b:=aa d c.2.2.1;bif a== -1 then a else bif b.2.2.1&&x.2.2==0&&Fc (wG (x.1.1,d,a,c.1,c.2.1),wG (x.1.1,d,c.2.2.1,c.1,c.2.1))|| !b.2.2.1&&AQ b&& !AQ (aa d a)then a else -1
def Vn(x:(ab×List aZ)×az×Int):Prop:=0<=x.2.1.2.2.1/\x.2.1.2.2.1<x.1.2.length
def ct8:Ct:=⟨aD,[some 8],Ty.pair fE bX,ah.tup [some 16,none],none,none,F8⟩
def Ep:Cv:=letI a:=(16,true,142);letI b:=(17,true,153);letI c:=(18,true,158);⟨dj,[],[.p],[43],false,[(15,true,70),a,b,c,(32,true,4),(33,true,51),(34,true,4),(42,true,85)],dj,Ty.unit,ah.none,[(15,true,70),a,b,c,(32,true,4),(33,true,51),(34,true,4),(42,true,85)],some Vt,fF,false⟩
def EL:Cv:=letI a:=(16,true,142);letI b:=(17,true,153);letI c:=(18,true,158);⟨dj,[],[.p],[43],false,[(15,true,70),a,b,c,(32,true,4),(33,true,51),(34,true,4),(42,true,85)],dj,Ty.unit,ah.none,[(15,true,70),a,b,c,(32,true,4),(33,true,51),(34,true,4),(42,true,85)],some UM,ib,false⟩
def Zx:Ct:=⟨Ty.pair EC (Ty.pair dT ae),[some 9,some 5,none],ae,ah.one none,some Vn,none,qM⟩
def wD(z:List (Nat×List Nat)):=dN (Qy true) mi dh RV z
theorem ok8:ar 8 ct8:=have E:=ai @LH.eq_1 SN;au (wD []) func8 [] l0 (λx fx _=>sl ((ca x !=0)=false->LH (x,((ByteArray.empty,ByteArray.empty),0),1048576)))
def Sj:LS (Ty.pair Ty.unit dj).den:=aH (Ty.pair cX ae) (Ty.pair dF (Ty.pair ae dj)) [(11,none),(12,none)] [] [(2,none),(13,none)] [(0,43)] [(0,100200,true,213),(17,100217,true,70),(18,100218,true,142),(19,100219,true,153),(20,100220,true,158),(34,100234,true,4),(35,100235,true,51),(36,100236,true,4),(44,100244,true,85)] [] [(0,0)] 0 false RF uT CK
theorem ajr:gU f128 Ep [0] Sj:=lV (wD [(14,[100200]),(6,[100209])]) [] l0 (λk x fk fx h=>sl (letI c:=x.2.1;letI d:=aP;letI e:=([(5,0,0,c,1)]:List d);letI a:=(List.length (x.1:List d)+List.length e)*40<=140737488355328/\List.length (x.1:List d)+List.length e<=4611686018427387903;letI f:=(pq x.2).2.2.1.2.2.2.1;letI h:=aa k.1 c;letI b:=(c,h,x.2.2);letI g:=(FV b).2.2.1.2.2.2.2.1;letI i:=(pq x.2).2.2.1.1.2.1;letI j:=(FV b).2.2.1.1.2.1;letI l:=x.2.2.2.1.1.2.1;decide (c<k.2)=true->((0<=c/\c<(k.1.length:Int))/\((gF h=true->(Wl x.2/\((0<=c/\c<(f.length:Int))/\(((aa f c).2.2.2.2.2=true->0<=c/\c<(i.length:Int))/\(((aa f c).2.2.2.2.2&&(!(aa i c)))=true->a)))))/\(gF h=false->((qE h=true->(J7 b/\((0<=c/\c<(g.length:Int))/\(((aa g c).2.2.2.2.2.2=true->0<=c/\c<(j.length:Int))/\(((aa g c).2.2.2.2.2.2&&(!(aa j c)))=true->a)))))/\(qE h=false->((false=true->0<=c/\c<(l.length:Int))/\(false&& !aa l c=true->a)))))))) (by
 try dsimp only[Ty.den]at*
 obtain⟨h0,h1,h2,h3,h4,h5⟩:=h;intro hc;rw[adv]at hc;have r:=ig h0 (h1▸hc);have rn:=df r h3.symm;have o:=Ok (x:=x.2) h2;have on:=av2 (λb:ab=>b.2.2.2.2.2.2.2.length) o.2;have hz:aa k.1 x.2.1=0:=gM h4 r;have h8:=lY h3 h2.n8;exact⟨r,λ_=>⟨⟨h2,rn⟩,df rn (o.1.c2.trans on),λ_=>df rn (o.1.p2.trans on),λ_=>Fa h5 (i8 h1 h8 hc)⟩,λhw=>ID hz hw⟩)) λk x fk h=>by
 try dsimp only[Ty.den]at*
 obtain⟨h0,h1,h2,h3,h4,h5⟩:=h;unfold uT;refine bf.cnd (λhc=> ?_) (λ_=>rfl);rw[adv]at hc;have r:=ig h0 (h1▸hc);have rn:=df r h3.symm;have o:=Ok (x:=x.2) h2;have on:=av2 (λb:ab=>b.2.2.2.2.2.2.2.length) o.2;have hz:aa k.1 x.2.1=0:=gM h4 r;have h8:=lY h3 h2.n8;have e:=cA h0 (h1▸hc) (auq h8 (by decide));rw[e];refine bf.cnd (λ_=>bf.cnd (λ_=> ?_) (λ_=> ?_)) (λhw=>ID hz hw)
 ·exact⟨rfl,⟨cE h0,h1,o.1,h3.trans on.symm,h4,a8 h5⟩,dg hc⟩
 ·exact⟨rfl,⟨cE h0,h1,o.1,h3.trans on.symm,h4,b8 h5⟩,dg hc⟩
theorem YJ:dP 128 Ep:=dV (wD [(14,[100200]),(6,[100209])]) func128 [(2,Sj)] (lc ajr l0) (sp λx fx h=>sl (RF (x.2.1.1.1,x.2.1.1.1.length) ([],0,x)) (by
 try dsimp only[Ty.den]at*
 have h:cF x:=h;exact⟨au4 _,rfl,h,h.p1,h.ph,au4 _⟩))
def QP:LS (Ty.pair Ty.unit dj).den:=aH (Ty.pair bX (Ty.pair cX (Ty.pair ae (Ty.pair bN po)))) (Ty.pair ae dj) [(6,none),(79,none),(80,none)] [(2,4),(3,2)] [(81,none)] [(0,43)] [(16,101016,true,70),(17,101017,true,142),(18,101018,true,153),(19,101019,true,158),(33,101033,true,4),(34,101034,true,51),(35,101035,true,4),(43,101043,true,85)] [] [(0,0),(2,2),(3,3)] 0 false Ci uy B9
theorem ahY:gU f176 EL [0] QP:=lV (wD [(3,[33]),(7,[210000])]) [] l0 (λk x fk fx h=>sl (letI b:=0<=x.1/\x.1<(x.2.2.1.2.2.2.1.length:Int);letI a:=b/\((0<=x.1/\x.1<(x.2.2.1.2.2.2.2.1.length:Int))/\(0<=x.1/\x.1<(x.2.2.2.2.2.2.2.2.2.1.length:Int)));letI d:=k.2.2.2;letI c:= !(Fg (aa d.1.1 x.1,aa k.2.1 x.1));decide (x.1<k.2.2.1)=true->((0<=x.1/\x.1<(k.2.1.length:Int))/\((0<=x.1/\x.1<(d.1.1.length:Int))/\((c=true->a)/\(c=false->(((k.1==0&&d.2.1==8)&&d.2.2==x.1)=true->b/\a)))))) (by
 try dsimp only[Ty.den]at*
 obtain⟨h0,h1,h2,h3,h4⟩:=h;intro hc;rw[adv]at hc;have r:=ig h0 (h1▸hc);have rn:=df r h3.symm;have q2:=df rn h2.c2;have q3:=df rn h2.c3;have q7:=df rn h2.c7;exact⟨r,df rn h4,λ_=>⟨q2,q3,q7⟩,λ_ _=>⟨q2,q2,q3,q7⟩⟩)) λk x fk h=>by
 try dsimp only[Ty.den]at*
 obtain⟨h0,h1,h2,h3,h4⟩:=h;unfold uy;refine bf.cnd (λhc=> ?_) (λ_=>rfl);rw[adv]at hc;have e:=cA h0 (h1▸hc) (auq (lY h3 h2.n8) (by decide));rw[e];refine bf.cnd (λ_=> ?_) (λ_=>bf.cnd (λ_=> ?_) (λ_=> ?_))
 ·exact⟨rfl,⟨cE h0,h1,⟨h2.n8,h2.cf,h2.c1,(auu ..).trans h2.c2,(auu ..).trans h2.c3,h2.c4,h2.c5,h2.c6,(auu ..).trans h2.c7,h2.c8,h2.p1,h2.p2,h2.p3,h2.ph,h2.eK,h2.cmd,h2.iY⟩,h3,h4⟩,dg hc⟩
 ·exact⟨rfl,⟨cE h0,h1,⟨h2.n8,h2.cf,h2.c1,(auu ..).trans h2.c2,(auu ..).trans h2.c3,h2.c4,h2.c5,h2.c6,(auu ..).trans h2.c7,h2.c8,h2.p1,h2.p2,h2.p3,h2.ph,h2.eK,h2.cmd,h2.iY⟩,h3,h4⟩,dg hc⟩
 ·exact⟨rfl,⟨cE h0,h1,h2,h3,h4⟩,dg hc⟩
theorem anU:dP 176 EL:=dV (wD [(3,[33]),(7,[210000])]) func176 [(10,QP)] (lc ahY l0) (sp λx fx h=>sl (letI d:=fA x;letI e:=x.2.2.1.2.1;letI h:=d.2.2.1.1;letI i:=iA x;letI a:=dH (lQ (d.2.1,h,aJ aw i.1 e.2 false),d.2);letI c:=dH (lQ (d.2.1,h,i.1),d.2);letI j:=x.2.1.1;letI f:=iB (x.1,j,e,i.1);letI l:=e.1 !=0;letI m:=d.2.2.2.2.2.2.1;letI g:=m==0;letI b:=g=false->((m !=0)=false->Ci (f.2,h.1,(h.1.length:Int),j,e) (0,d.2));Wf x/\((l=true->((0<=e.2/\e.2<(i.1.length:Int))/\((g=true->((a.2.2.2.2.2.2.1 !=0)=false->Ci (f.2,a.2.2.1.1.1,(a.2.2.1.1.1.length:Int),j,e) (0,a.2)))/\b)))/\(l=false->((g=true->(c.2.2.2.2.2.2.1 !=0)=false->Ci (f.2,c.2.2.1.1.1,c.2.2.1.1.1.length,j,e) (0,c.2))/\b)))) (by
 try dsimp only[Ty.den]at*
 obtain⟨h,hg⟩:cF x/\x.2.2.2.1=true:=h;have w:kW x (fA x).2:=ag4 h hg;refine⟨h,λ_=>⟨df (h.iY hg) ag0,λf0 f1=>⟨au4 _,rfl,(w.auto (MV f0)).lens h f1⟩,λ_ f1=>⟨au4 _,rfl,w.lens h f1⟩⟩,λ_=>⟨λf0 f1=>⟨au4 _,rfl,(w.auto (MV f0)).lens h f1⟩,λ_ f1=>⟨au4 _,rfl,w.lens h f1⟩⟩⟩))
theorem aos:ar 288 Zx:=au (wD []) func288 [] l0 (sp λx fx h=>sl (letI c:=x.2.1.2;letI d:=x.1.2;letI h:=(d.length:Int);letI i:=c.2.1;letI a:=pr (x.1.1,d,x.2.1.1,c.1,i);letI e:=(x.1.1,d,i,x.2.1.1,c.1);letI f:=(x.1.1,d,a,x.2.1.1,c.1);letI g:=aa d i;letI b:=g.2.2.1&&(x.2.2==0);(a==(-1))=false->((0<=i/\i<h)/\(b=true->vp f)/\(b=true->vp e)/\((b&&Fc (wG f,wG e))=false->(!g.2.2.1&&AQ g)=true->0<=a/\a<h))) (by
 try dsimp only[Ty.den]at*
 intro hc;have q:=(Bg (x:=(x.1.1,x.1.2,x.2.1.1,x.2.1.2.1,x.2.1.2.2.1)) fx.1.2.1).resolve_left (beq_eq_false_iff_ne.1 hc);exact⟨h,λ_=>q,λ_=>h,λ_ _=>q⟩))
def aco(nw:Bool):=(128,.pv Ep)::(176,.pv EL)::adj nw
theorem Qf(nw:Bool):gj (aco nw):=zc (z:= .pv Ep) YJ func128 (zc (z:= .pv EL) anU func176 ((Qy nw)))
def acA:=(8,ct8)::(288,Zx)::abT
theorem RM:cu acA:=gc ok8 func8 (gc aos func288 (RV))
def ie(x:aq):=bif x.2.2.2.1 then((),(ib x).2)else((),x)
def Vc(x:aq):Prop:=cF x
def gC(x:(ab×List aZ)×az×Int):=letI a:=x.2.1;letI b:=a.2.2;letI c:=i64.wrap (b.2.1+1);letI d:=x.1.1.2.2.2.2.2.2.2.length;letI e:=a.2.1;letI f:=aa x.1.2 b.1;bif b.1== -2 then a else bif b.1== -1 then(a.1,e,pr (x.1.1,x.1.2,a.1,e,-1),b.2)else bif f.2.2.2.1&&b.2.1>d then(a.1,e,-2,b.2)else bif f.2.2.2.1 then(a.1,e,pr (x.1.1,x.1.2,a.1,e,b.1),c,b.2.2)else bif !b.2.2&&b.2.1<=d then bif qM x != -1 then(a.1,e,qM x,c,true)else a else a
def Wi(x:(ab×List aZ)×az×Int):Prop:= -2<=x.2.1.2.2.1/\x.2.1.2.2.1<x.1.2.length
def L6:Cv:=letI a:=(16,true,142);letI b:=(17,true,153);letI c:=(18,true,158);⟨dj,[],[.p],[43],false,[(15,true,70),a,b,c,(32,true,4),(33,true,51),(34,true,4),(42,true,85)],dj,Ty.unit,ah.none,[(15,true,70),a,b,c,(32,true,4),(33,true,51),(34,true,4),(42,true,85)],some Vc,ie,false⟩
def YT:Ct:=⟨Ty.pair EC (Ty.pair dT ae),[some 9,some 5,none],dT,ah.one (some 5),some Wi,none,gC⟩
def ab4(z:List (Nat×List Nat)):=dN (Qf true) mi dh RM z
theorem WK:dP 129 L6:=dV (ab4 []) func129 [] l0 (sp λx fx h=>sl (x.2.2.2.1=true->UM x) (by
 exact λhg=>⟨h,hg⟩))
theorem aom:ar 262 YT:=au (ab4 []) func262 [] l0 (sp λx fx h=>sl (letI a:=x.2.1.2.2;letI b:=0<=a.1/\a.1<(x.1.2.length:Int);letI c:=(x.1.1.2.2.2.2.2.2.2.length:Int);letI d:=aa x.1.2 a.1;(a.1== -2)=false->(a.1== -1)=false->b/\((d.2.2.2.1&&a.2.1>c)=false->b/\(d.2.2.2.1=false->(!a.2.2&&a.2.1<=c)=true->Vn x))) (by
 try dsimp only[Ty.den]at*
 intro c1 c2;have q:=asH h.1 h.2 c1 c2;exact⟨q,λ_=>⟨q,λ_ _=>q⟩⟩))
def ac3(nw:Bool):=(129,.pv L6)::aco nw
theorem QE(nw:Bool):gj (ac3 nw):=zc (z:= .pv L6) WK func129 ((Qf nw))
def adb:=(262,YT)::acA
theorem Tq:cu adb:=gc aom func262 (RM)
theorem afx{x:(ab×List aZ)×az×Int}(hl:x.1.2.length<=maxLen):qM x= -1\/0<=qM x/\qM x<x.1.2.length:=by
 have h:=Bg (x:=(x.1.1,x.1.2,x.2.1.1,x.2.1.2.1,x.2.1.2.2.1)) hl;unfold qM;grind
theorem OF{x:(ab×List aZ)×az×Int}(hl:x.1.2.length<=maxLen)(h1: -2<=x.2.1.2.2.1)(h2:x.2.1.2.2.1<(x.1.2.length:Int)): -2<=(gC x).2.2.1/\(gC x).2.2.1<(x.1.2.length:Int):=by
 have key: ∀n:Int,n= -1\/0<=n/\n<(x.1.2.length:Int)-> -2<=n/\n<(x.1.2.length:Int):=λn h=>by omega
 unfold gC;simp only[cond];repeat' split
 ·omega
 ·grind [Bg]
 ·grind
 all_goals grind [Bg,afx]
theorem sV(x:az×az):(tz x).length<=2:=by
 unfold tz;grind
abbrev Ny:=List Int×List aZ×List az×Int×ab×ab×List aZ
structure og (k:Ny) (x:List aI×List Int×Int):Prop where
 i0:0<=x.2.2
 n:k.2.2.2.1=(k.2.2.1.length:Int)
 qU:k.2.2.1.length<=64
 e:k.1.length=k.2.2.1.length
 x1:x.2.1.length=k.2.2.1.length
 v:k.2.1.length=k.2.2.2.2.1.2.2.2.2.2.2.2.length
 p:k.2.2.2.2.2=(k.2.2.2.2.1,k.2.1)
 cl: ∀e∈k.2.2.1,-2<=e.2.2.1/\e.2.2.1<(k.2.1.length:Int)
 r:(x.1.length:Int)<=2*x.2.2
 vm:k.2.1.length<=maxLen
theorem og.kr{k:Ny}{x:List aI×List Int×Int}(h:og k x)(a:x.2.2<k.2.2.2.1):0<=x.2.2/\x.2.2<k.2.2.1.length:=⟨h.i0,h.n▸a⟩
theorem og.eU{k:Ny}{x:List aI×List Int×Int}(h:og k x)(f:x.2.2<k.2.2.2.1){q:Int}: -2<=(gC (k.2.2.2.2.2,aa k.2.2.1 x.2.2,q)).2.2.1/\(gC (k.2.2.2.2.2,aa k.2.2.1 x.2.2,q)).2.2.1<k.2.1.length:=by
 have a:=gM h.cl (h.kr f);rw[h.p];exact OF h.vm a.1 a.2
theorem asa{l m:List aI}{i n:Int}{e:Nat}{b c d:Nat}(h:l.length<=2*i)(a:i<n)(f:n=e)(g:e<=64)(hm:m.length<=2)(hb:b<=1000:=by decide)(h2:c=140737488355328:=by rfl)(j:d=4611686018427387903:=by rfl):(l.length+m.length)*b<=c/\l.length+m.length<=d:=by
 have:l.length+m.length<=1000:=by omega
 refine⟨?_,by omega⟩;calc (l.length+m.length)*b<=1000*1000:=aza this hb
  _<=c:=by omega
theorem wA{l m:List aI}{i:Int}(h:l.length<=2*i)(hm:m.length<=2):((l++m).length:Int)<=2*(i+1):=by grind
theorem ND{c:Int}{q:Bool}(h:(q&&decide (c>=0))=true):0<=c:=by simp_all
theorem atB{n:Nat}(h:n<=64):0<=(n:Int)/\n=(n:Int)/\(n:Int)*8<=140737488355328/\(n:Int)<=4611686018427387903:=by omega
theorem I6{x:ab×ak×List Int×List aZ}(hl:x.1.2.2.2.2.2.2.2.length<=maxLen)(h1:x.2.1.1.length<=maxLen)(h2:x.2.1.2.2.2.length<=maxLen){q:Bool}(h:((((!(cJ (x.1,x.2.1)))||((x.2.2.1.length:Int) !=x.2.1.2.2.2.length))||((x.2.2.2.length:Int) !=x.1.2.2.2.2.2.2.2.length))||q)=false):
  x.2.2.1.length<=64/\og (x.2.2.1,x.2.2.2,x.2.1.2.2.2,x.2.1.2.2.2.length,x.1,x.1,x.2.2.2) ([],aC ae x.2.2.1.length,0):=by
 rw[auv,auv,auv,ave,au8,au8,axf,axf]at h;obtain⟨⟨⟨i,f⟩,a⟩,_⟩:=h;have hm:=(mZ hl h1 h2).1 i;have j:=hm.len;refine⟨by omega,au4 _,rfl,j,f,(eu _).trans f,a,rfl,λe k=> ?_,au4 _,a▸hl⟩;have g:=hm.ft e k;exact⟨g.2.1,a.symm▸g.2.2.1⟩
def Tn(k:((List Int)×(List (aZ))×(List (az))×Int×(ab)×(ab)×List (aZ)))(x:((List (aP))×(List Int)×Int)):Prop:=og k x
def yB(k:(List Int)×(List aZ)×(List az)×Int×ab×ab×List aZ)(x:(List (aP))×(List Int)×Int):=(k.2.2.2.1-x.2.2).toNat
def ahQ(k:(List Int)×(List aZ)×(List az)×Int×ab×ab×List aZ)(x:(List (aP))×(List Int)×Int):=letI b:=aa k.2.2.1 x.2.2;letI a:=gC (k.2.2.2.2.2,b,aa k.1 x.2.2);wi (k.2.2.2.2.1,a.2.2.1,aa k.2.1 a.2.2.1,b.1,b.2.1)
def ahL(k:(List Int)×(List aZ)×(List az)×Int×ab×ab×List aZ)(x:(List (aP))×(List Int)×Int):=letI a:=x.2.2;aJ ae (aJ ae x.2.1 a (max (i64.wrap (aa k.1 a-1)) (0:Int))) a (min (i64.wrap (ahQ k x+(aa k.2.2.2.2.1.2.2.2.2.2.2.2 (gC (k.2.2.2.2.2,aa k.2.2.1 a,aa k.1 a)).2.2.1).2.2.2.1)) (1000000:Int))
def nv(k:(List Int)×(List aZ)×(List az)×Int×ab×ab×List aZ)(x:(List (aP))×(List Int)×Int):an ((List Int)×(List aZ)×(List az)×Int×ab×ab×List aZ) ((List (aP))×(List Int)×Int) (((List (aP))×(List Int)×Int)×Unit):=letI e:=x.2.2;letI b:=aa k.2.2.1 e;letI a:=gC (k.2.2.2.2.2,b,aa k.1 e);letI c:=i64.wrap (e+1);letI d:=x.1++tz (b,a);bif e<k.2.2.2.1 then bif a.2.2.1 !=b.2.2.1&&a.2.2.1>=0 then .next k (d,ahL k x,c)else .next k (d,aJ ae x.2.1 e (max (i64.wrap (aa k.1 e-1)) (0:Int)),c)else .brk k x
def Wb k x:=endOf nv k (Nat.succ (yB k x)) x
def gQ(x:ab×ak×(List Int)×List aZ):((List (aP))×(List Int)×Int)×Unit:=bif !cJ (x.1,x.2.1)||(x.2.2.1.length:Int) !=x.2.1.2.2.2.length||(x.2.2.2.length:Int) !=x.1.2.2.2.2.2.2.2.length||mJ (x.2.2.1,some 261)then(([],[],1),())else(((Wb (x.2.2.1,x.2.2.2,x.2.1.2.2.2,x.2.1.2.2.2.length,x.1,x.1,x.2.2.2) ([],aC ae x.2.2.1.length,0)).1,(Wb (x.2.2.1,x.2.2.2,x.2.1.2.2.2,x.2.1.2.2.2.length,x.1,x.1,x.2.2.2) ([],aC ae x.2.2.1.length,0)).2.1,0),())
def EK:Cv:=⟨Ty.pair aD (Ty.pair bN (Ty.pair cX gx)),[some 8,some 4,none,none],[.v,.v,.v,.v],[],false,[],Ty.unit,Ty.pair dF (Ty.pair cX bX),ah.tup [none,none,none],[(0,true,213),(1,true,3)],none,gQ,false⟩
def Rk:LS (Ty.pair (Ty.pair dF (Ty.pair cX bX)) Ty.unit).den:=aH (Ty.pair cX (Ty.pair gx (Ty.pair da (Ty.pair ae (Ty.pair aD EC))))) (Ty.pair dF (Ty.pair cX ae)) [(2,none),(3,none),(48,none),(49,none)] [(4,8),(11,9)] [(12,none),(13,none),(50,none)] [] [(0,100700,true,213),(1,100701,true,3)] [] [(4,4),(11,11)] 0 false Tn nv yB
def ach(z:List (Nat×List Nat)):=dN (QE true) mi dh Tq z
theorem ajT:gU f225 EK [0] Rk:=lV (ach []) [] l0 (λk x fk fx h=>sl (letI b:=aP;letI c:=x.2.2;letI f:=0<=c/\c<(k.1.length:Int);letI i:=k.2.2;letI e:=aa i.1 c;letI a:=(i.2.2.2,e,aa k.1 c);letI d:=gC a;letI g:=d.2.2.1;letI h:=(tz (e,d):List b);decide (c<i.2.1)=true->((0<=c/\c<(i.1.length:Int))/\(f/\(Wi a/\(((List.length (x.1:List b)+List.length h)*40<=140737488355328/\List.length (x.1:List b)+List.length h<=4611686018427387903)/\(f/\((0<=c/\c<(x.2.1.length:Int))/\(((g !=e.2.2.1)&&decide (g>=0))=true->((0<=g/\g<(k.2.1.length:Int))/\((0<=g/\g<i.2.2.1.2.2.2.2.2.2.2.length)/\0<=c/\c<((aJ ae x.2.1 c (max (i64.wrap (aa k.1 c-1)) 0)).length))))))))))) (by
 try dsimp only[Ty.den]at*
 have h:og k x:=h;intro hc;rw[adv]at hc;have r:=h.kr hc;have q:=h.eU hc (q:=aa k.1 x.2.2);have re:=df r h.e;have rx:=df r h.x1;have hq:=gM h.cl r;have hv:=av2 (λy:ab×List aZ=>y.2.length) h.p;exact⟨r,re,⟨hq.1,hv.symm▸hq.2⟩,asa h.r hc h.n h.qU (sV _),re,rx,λhg=>⟨⟨ND hg,q.2⟩,df ⟨ND hg,q.2⟩ h.v.symm,df rx (auu ..)⟩⟩)) λk x fk h=>by
 try dsimp only[Ty.den]at*
 have h:og k x:=h;unfold nv;refine bf.cnd (λhc=> ?_) (λ_=>rfl);rw[adv]at hc;have r:=h.kr hc;have e:=cA r.1 r.2 (auq h.qU (by decide));rw[e];refine bf.cnd (λ_=> ?_) (λ_=> ?_)
 ·exact⟨rfl,⟨cE h.i0,h.n,h.qU,h.e,(auu ..).trans ((auu ..).trans h.x1),h.v,h.p,h.cl,wA h.r (sV _),h.vm⟩,dg hc⟩
 ·exact⟨rfl,⟨cE h.i0,h.n,h.qU,h.e,(auu ..).trans h.x1,h.v,h.p,h.cl,wA h.r (sV _),h.vm⟩,dg hc⟩
theorem arv:dP 225 EK:=dV (ach []) func225 [(7,Rk)] (lc ajT l0) (λx fx _=>sl (letI c:=(x.2.1.2.2.2.length:Int);letI d:=x.2.2;letI a:=(d.1.length:Int);letI b:= !cJ (x.1,x.2.1)||a !=c||(d.2.length:Int) !=x.1.2.2.2.2.2.2.2.length;letI e:=(d.1,some 261);(b=false->vA e)/\((b||mJ e)=false->(0<=a/\a=a/\a*8<=140737488355328/\a<=4611686018427387903)/\Tn (d.1,d.2,x.2.1.2.2.2,c,x.1,x.1,d.2) ([],aC ae a,0))) (by
 try dsimp only[Ty.den]at*
 refine⟨λ_=>⟨_,rfl,by simp⟩,λhc=> ?_⟩;have q:=I6 (x:=x) fx.1.2.2.2.2.2.2.2.1 fx.2.1.1.1 fx.2.1.2.2.2.1 hc;exact⟨atB q.1,q.2⟩))
def abd(nw:Bool):=(225,.pv EK)::ac3 nw
theorem HY(nw:Bool):gj (abd nw):=zc (z:= .pv EK) arv func225 ((QE nw))
def acB:List (Nat×Ct):=adb
theorem TM:cu acB:=Tq
theorem foldl_filter{α β:Type}(p:α->Bool)(g:α->β): ∀(l:List α) (acc:List β),l.foldl (λacc e=>bif p e then acc++ [g e]else acc) acc=acc++(l.filter p).map g
 | [],acc=>by simp
 |a::l,acc=>by
  rw[awb,foldl_filter p g l,List.filter_cons];grind
def iM(b:ab)(v:List aZ):bd:=v.foldl (λc x=>fc (c,iS (b,x))) (0,0)
theorem yj{b:ab}{m:ak}{v:List aZ}(hm:aT b m)(f:v.length=b.2.2.2.2.2.2.2.length):cC (b,m,v)=(m.2.2.2.filter (λe=>dO (iM b v,e.1,e.2.1))).map (λe=>(2,e.1,e.2.1,0,0)):=by
 have g:=hm.bB.cn.2;have h:=hm.len;have a:(D9 (v,(v.length:Int),b) ((0:Int),(0:Int),(0:Int))).2=iM b v:=by
  have:=xL (step:=vf) (k:=(v,(v.length:Int),b)) v (λc x=>fc (c,iS (b,x))) (λ_=>True) (by grind [maxLen]) (λc i hi _=>by
   refine⟨?_,trivial⟩;unfold vf;simp only[show((i:Int)<(v.length:Int))from by omega,avn,auw,bH v i hi]) (λc _=>by simp_all [vf]) (0,0) trivial (fuel:=Nat.succ (yz (v,(v.length:Int),b) ((0:Int),(0:Int),(0:Int)))) (by simp_all [yz])
  unfold D9;rw[this.1];rfl
 unfold cC;simp only;have hb:((v.length:Int) !=(b.2.2.2.2.2.2.2.length:Int))=false:=by simp_all
 rw[hm.is,a,hb];simp only[avw,ax7,aur];have:=(agH (step:=uB) (k:=(m.2.2.2,(m.2.2.2.length:Int),iM b v)) m.2.2.2 (λ(acc:List aI) (e:az)=>bif dO (iM b v,e.1,e.2.1)then acc++ [((2:Int),e.1,e.2.1,(0:Int),(0:Int))]else acc) (by grind [maxLen]) (λacc i hi=>by
  refine⟨(m.2.2.2,(m.2.2.2.length:Int),iM b v),?_⟩;unfold uB;simp only[show((i:Int)<(m.2.2.2.length:Int))from by omega,avn,auw,bH m.2.2.2 i hi];grind) (λacc=>⟨(m.2.2.2,(m.2.2.2.length:Int),iM b v),by simp_all [uB]⟩) [] (fuel:=Nat.succ (xW (m.2.2.2,(m.2.2.2.length:Int),iM b v) ([],0))) (by simp_all [xW])).1
 simp_all [R5,foldl_filter]
theorem ui{b:ab}{m:ak}{v:List aZ}(hm:aT b m)(a:v.length=b.2.2.2.2.2.2.2.length):(∀r∈cC (b,m,v),bW b r)/\(cC (b,m,v)).length<=64:=by
 rw[yj hm a];refine⟨λr hr=> ?_,by rw[ax5];exact auq (List.length_filter_le _ _) hm.len⟩;obtain⟨e,f,rfl⟩:=List.mem_map.1 hr;exact .inl ⟨.inr rfl,(hm.ft e (List.mem_filter.1 f).1).1,rfl,rfl⟩
def dm(m:bY)(e:az):bY:=bif fP (m.2,m.1.2.1)then cj m (1,e.1,e.2.1,0,0)else((m.1.1,m.1.2.1,m.1.2.2.1,m.1.2.2.2.1,fc (m.1.2.2.2.2,fo (e.1,e.2.1))),m.2)
theorem DU{x:bY}(h:du [] x)(p o:bd):lR (p,o,x)=((),(eR (dS (dv (p,dB x.2),o))).foldl dm x)/\du [] ((eR (dS (dv (p,dB x.2),o))).foldl dm x)/\((eR (dS (dv (p,dB x.2),o))).foldl dm x).2=x.2:=by
 have a:=xS h.aU.bB p o;have hl:=uf (dS (dv (p,dB x.2),o));generalize g:eR (dS (dv (p,dB x.2),o))=L at hl;have a: ∀e∈L,cL x.2.1 e.1 e.2.1:=λe j=>a e (by show e∈eR _;rw[g];exact j)
 have f:=xL (step:=uY) (k:=(L,(L.length:Int))) L dm (λm=>du [] m/\m.2=x.2) (by unfold maxLen;omega) (λm i hi hm=>by
  have l:cL m.2.1 L[i].1 L[i].2.1:=by rw[hm.2];exact a _ (axn hi)
  unfold uY dm;simp only[show((i:Int)<(L.length:Int))from by omega,avn,auw,bH L i hi];cases fP (m.2,m.1.2.1)with
  |true=>
   rw[auw,auw];have hw:=rP (Jc hm.1 l) (by simp[maxLen]);rw[hw.1];exact⟨rfl,hw.2.1.with (λr hr=>by cases hr),hw.2.2.trans hm.2⟩
  |false=>
   rw[aur,aur];exact⟨rfl,⟨hm.1.aU,hm.1.exp,hm.1.dw⟩,hm.2⟩) (λm hm=>by unfold uY;simp) x ⟨h,rfl⟩ (fuel:=Nat.succ (Dd (L,(L.length:Int)) (0,x))) (by unfold Dd;simp)
 refine⟨?_,f.2.2.1,f.2.2.2⟩;unfold lR UG;have s:my (dS (dv ((p,o,x).1,dB (p,o,x).2.2.2),(p,o,x).2.1))=L:=g;rw[s,f.1]
theorem afL(m:bY)(e:az):(dm m e).1.1.length<=m.1.1.length+1:=by
 grind [dm,cj]
theorem Iw: ∀(l:List az) (m:bY),(l.foldl dm m).1.1.length<=m.1.1.length+l.length
 | [],m=>au2 _
 |e::l,m=>by
  have:=Iw l (dm m e);grind [afL]
theorem afb{b:ab}{v:List aZ}{e:az}{n:Int}(g:aK b)(f:v.length=b.2.2.2.2.2.2.2.length)(a:lT b e):lT b (gC ((b,v),e,n)):=by
 have j:b.2.2.2.2.2.2.2.length<=8:=g.cn.2;have hl:v.length<=maxLen:=by grind [maxLen]
 have hr:=OF (x:=((b,v),e,n)) hl a.2.1 (by show _<(v.length:Int);rw[f];exact a.2.2.1);have i:((b,v),e,n).1.2.length=b.2.2.2.2.2.2.2.length:=f;rw[i]at hr;suffices h:(gC ((b,v),e,n)).1=e.1/\(gC ((b,v),e,n)).2.1=e.2.1/\0<=(gC ((b,v),e,n)).2.2.2.1/\(gC ((b,v),e,n)).2.2.2.1<=255 by
  refine⟨?_,hr.1,hr.2,h.2.2⟩;rw[h.1,h.2.1];exact a.1
 have h0:=a.2.2.2;unfold gC;simp only;cases(e.2.2.1==(-2:Int))with
 |true=>simp_all
 |false=>
  simp only[aur];cases(e.2.2.1==(-1:Int))with
  |true=>simp_all
  |false=>
   simp only[aur];cases h1:((aa v e.2.2.1).2.2.2.1&&(decide (e.2.2.2.1>(b.2.2.2.2.2.2.2.length:Int))))with
   |true=>simp_all
   |false=>
    simp only[aur];cases h2:(aa v e.2.2.1).2.2.2.1 with
    |true=>
     rw[h2,axs,aut]at h1;simp only[auw];rw[aA (x:=e.2.2.2.1+1) (by omega) (by omega)];grind
    |false=>
     simp only[aur];cases h3:((!e.2.2.2.2)&&(decide (e.2.2.2.1<=(b.2.2.2.2.2.2.2.length:Int))))with
     |true=>
      rw[au0,adv]at h3;simp only[auw];cases(qM ((b,v),e,n) !=(-1:Int))with
      |true=>
       simp only[auw];rw[aA (x:=e.2.2.2.1+1) (by omega) (by omega)];grind
      |false=>simp_all
     |false=>simp_all
theorem aeh{b:ab}{was e:az}(a:lT b e): ∀r∈tz (was,e),bW b r/\(r.1=3\/r.1=7):=by
 have h3:bW b (3,e.1,e.2.1,e.2.2.1,0):= .inr (.inl ⟨rfl,a.1,a.2.1,by have:=a.2.2.1;grind,rfl⟩);have h7: ∀c:Int,c=0\/c=1->bW b (7,e.1,e.2.1,c,e.2.2.2.1):=λc f=> .inr (.inr (.inl ⟨rfl,a.1,by grind,by grind,a.2.2.2⟩))
 unfold tz;grind
theorem rM{b:ab}{m:ak}{x:List Int}{v:List aZ}(hm:aT b m):(∀r∈(gQ (b,m,x,v)).1.1,bW b r/\(r.1=3\/r.1=7))/\(gQ (b,m,x,v)).1.1.length<=128:=by
 unfold gQ;cases hc:((((!(cJ ((b,m,x,v).1,(b,m,x,v).2.1)))||(((b,m,x,v).2.2.1.length:Int) !=((b,m,x,v).2.1.2.2.2.length:Int)))||(((b,m,x,v).2.2.2.length:Int) !=((b,m,x,v).1.2.2.2.2.2.2.2.length:Int)))||(mJ ((b,m,x,v).2.2.1,(some 261))))with
 |true=>exact⟨λr hr=>(by cases hr),awc _⟩
 |false=>
  have j:=I6 hm.fit.1 hm.fit.2.1 hm.fit.2.2 hc;have i:=iq (step:=nv) (k:=(x,v,m.2.2.2,m.2.2.2.length,b,b,v)) (I:=λy=>og (x,v,m.2.2.2,m.2.2.2.length,b,b,v) y/\y.2.2<=m.2.2.2.length/\ ∀r∈y.1,bW b r/\(r.1=3\/r.1=7)) (λy k' z h f=>by
   obtain⟨h1,h2,h3⟩:=h;unfold nv at f;revert f
   by_cases g:y.2.2<m.2.2.2.length
   ·have e:=cA h1.i0 g hm.fit.2.2
    have l:=hm.ft _ (by have:=gM (λa o=>o) ⟨h1.i0,g⟩;exact this);have s:=afb (n:=aa x y.2.2) hm.bB h1.v l;have t:=aeh (was:=aa m.2.2.2 y.2.2) s;have h4:=λr hr=>(List.mem_append.1 hr).elim (h3 r) (t r)
    simp only[g,avn,auw,e];simp only[cond];split
    ·intro f
     cases f;exact⟨⟨cE h1.i0,h1.n,h1.qU,h1.e,(auu ..).trans ((auu ..).trans h1.x1),h1.v,h1.p,h1.cl,wA h1.r (sV _),h1.vm⟩,g,h4⟩
    ·intro f
     cases f;exact⟨⟨cE h1.i0,h1.n,h1.qU,h1.e,(auu ..).trans h1.x1,h1.v,h1.p,h1.cl,wA h1.r (sV _),h1.vm⟩,g,h4⟩
   ·simp only[g,av4,aur]
    intro f;cases f) (λy k' z h f=>by
   unfold nv at f;revert f
   simp only[cond];repeat' split
   all_goals(intro f;first|(cases f;done)|(cases f;exact h))) (Nat.succ (yB (x,v,m.2.2.2,m.2.2.2.length,b,b,v) ([],aC ae x.length,0))) ([],aC ae x.length,0) ⟨j.2,auz _,λr hr=>(by cases hr)⟩
  refine⟨i.2.2,?_⟩;have h1:=i.1.r;have h3:=hm.len;show(endOf nv (x,v,m.2.2.2,m.2.2.2.length,b,b,v) (Nat.succ (yB (x,v,m.2.2.2,m.2.2.2.length,b,b,v) ([],aC ae x.length,0))) ([],aC ae x.length,0)).1.length<=128;omega
theorem agl{b:ab}{v:List aZ}{l:List bd}(h:((dI (b,v,l)).2 !=0)=false):v.length=b.2.2.2.2.2.2.2.length:=by
 unfold dI at h;grind
theorem Hu{m:ak}{e:List Int}(h:(!(km (m,e)))=false):e.length=m.2.2.2.length:=by
 grind [km]
theorem ag6{b:ab}{m:ak}{e:List Int}{v:List aZ}{fw:List bd×List Bool×af}(hm:aT b m)(i:e.length=m.2.2.2.length)(j:v.length=b.2.2.2.2.2.2.2.length)(press aN:bd){ref:bd}:
  (du (cC (b,m,v)) (([],m,e,fw,ref),b))/\(cC (b,m,v)).length<=64/\
  du [] (fe (cC (b,m,v),([],m,e,fw,ref),b)).2/\(fe (cC (b,m,v),([],m,e,fw,ref),b)).2.1.1.length<=64/\(fe (cC (b,m,v),([],m,e,fw,ref),b)).2.2=b/\
  du [] (lR (press,aN,(fe (cC (b,m,v),([],m,e,fw,ref),b)).2)).2/\(lR (press,aN,(fe (cC (b,m,v),([],m,e,fw,ref),b)).2)).2.1.1.length<=128/\(lR (press,aN,(fe (cC (b,m,v),([],m,e,fw,ref),b)).2)).2.2=b:=by
 obtain⟨k,a⟩:=ui hm j;have f:du (cC (b,m,v)) (([],m,e,fw,ref),b):=⟨hm,i,k⟩;obtain⟨l,o,g⟩:=rP f (auq a (by decide));have s:(List.foldl cj ((([]:List aI),m,e,fw,ref),b) (cC (b,m,v))).1.1.length<=64:=by
  simp_all [lj]
 rw[l];have h:du [] (List.foldl cj ((([]:List aI),m,e,fw,ref),b) (cC (b,m,v))):=o.with (λr hr=>by cases hr);obtain⟨t,u,w⟩:=DU h press aN;refine⟨f,a,h,s,g,?_⟩;rw[t];refine⟨u,?_,w.trans g⟩;have:=Iw (eR (dS (dv (press,dB (List.foldl cj ((([]:List aI),m,e,fw,ref),b) (cC (b,m,v))).2),aN))) (List.foldl cj ((([]:List aI),m,e,fw,ref),b) (cC (b,m,v)));have:=uf (dS (dv (press,dB (List.foldl cj ((([]:List aI),m,e,fw,ref),b) (cC (b,m,v))).2),aN));grind
theorem du.Nf{x:bY}{b:ab}(h:du [] x)(hb:x.2=b){e:List Int}{v:List aZ}(hr:x.1.1.length<=128):(gQ (b,x.1.2.1,e,v)).1.1.length<=1000/\du (gQ (b,x.1.2.1,e,v)).1.1 x/\x.1.1.length<=50000:=by
 subst hb;have a:=rM (x:=e) (v:=v) h.aU;exact⟨auq a.2 (by decide),h.with (λr hr=>(a.1 r hr).1),auq hr (by decide)⟩
theorem agD(m:ak):wv m=m:=rfl
theorem agq(l:List Int):(kZ l).1=l:=rfl
def KK(x:ab×ak×(List Int)×(List aZ)×(List (af))×(af)×Bool):=letI a:=x.2.2.2;letI c:=dI (x.1,a.1,a.2.1);letI d:=x.2.1;letI b:=cC (x.1,d,a.1);gQ (x.1,(lR (a.2.2.1,bR d,(fe (b,([],wv d,(kZ x.2.2.1).1,c.1,0,0),x.1)).2)).2.1.2.1,(lR (a.2.2.1,bR d,(fe (b,([],wv d,(kZ x.2.2.1).1,c.1,0,0),x.1)).2)).2.1.2.2.1,a.1)
def lH(x:ab×ak×(List Int)×(List aZ)×(List (af))×(af)×Bool):((List (aP))×ak×(List Int)×((List (af))×(List Bool)×af)×af)×Int:=letI b:=x.2.2.2;letI c:=kZ x.2.2.1;letI d:=dI (x.1,b.1,b.2.1);letI f:=wg b.1.length;letI h:=KK x;letI i:=x.2.1;letI e:=wv i;letI a:=gQ (x.1,e,c.1,b.1);letI g:=cC (x.1,i,b.1);letI j:=bR i;bif d.2 !=0|| !cJ (x.1,i)|| !km (i,x.2.2.1)then(([],([],[],[],[]),[],([],[],0,0),0,0),1)else bif b.2.2.2 then(((fe (h.1.1,(lR (b.2.2.1,j,(fe (g,([],e,c.1,d.1,0,0),x.1)).2)).2)).2.1.1,(fe (h.1.1,(lR (b.2.2.1,j,(fe (g,([],e,c.1,d.1,0,0),x.1)).2)).2)).2.1.2.1,h.1.2.1,(fe (h.1.1,(lR (b.2.2.1,j,(fe (g,([],e,c.1,d.1,0,0),x.1)).2)).2)).2.1.2.2.2),0)else(((fe (a.1.1,([],e,c.1,f,0,0),x.1)).2.1.1,(fe (a.1.1,([],e,c.1,f,0,0),x.1)).2.1.2.1,a.1.2.1,(fe (a.1.1,([],e,c.1,f,0,0),x.1)).2.1.2.2.2),0)
def Yr:Ct:=⟨Ty.pair aD (Ty.pair bN (Ty.pair cX (Ty.pair gx (Ty.pair mD (Ty.pair aS aw))))),[some 8,some 4,none,none,none,some 2,none],Ty.pair ET bX,ah.tup [some 12,none],none,none,lH⟩
theorem aqX:ar 177 Yr:=au (dN (HY true) mi dh TM [(11,[248000])]) func177 [] l0 (λx fx _=>sl (letI a:=x.2.2.2;letI b:=dI (x.1,a.1,a.2.1);letI c:=x.2.1;letI d:=kZ x.2.2.1;letI e:=cC (x.1,c,a.1);letI f:=wv c;letI g:=(a.1.length:Int);(((b.2 !=0)||(!(cJ (x.1,c))))||(!(km (c,x.2.2.1))))=false->(Vx c/\(sR x.2.2.1/\(Kx g/\((a.2.2.2=true->(Kp (x.1,c,a.1)/\zJ (e,([],f,d.1,b.1,0,0),x.1)/\V4 (a.2.2.1,bR c,(fe (e,([],f,d.1,b.1,0,0),x.1)).2)/\zJ ((KK x).1.1,(lR (a.2.2.1,bR c,(fe (e,([],f,d.1,b.1,0,0),x.1)).2)).2)))/\(a.2.2.2=false->zJ ((gQ (x.1,f,d.1,a.1)).1.1,([],f,d.1,wg g,0,0),x.1))))))) (by
 try dsimp only[Ty.den]at*
 intro hc;rw[auv,auv,ave]at hc;have hm:=(mZ (b:=x.1) (m:=x.2.1) fx.1.2.2.2.2.2.2.2.1 fx.2.1.1.1 fx.2.1.2.2.2.1).1 hc.1.2;have hv:=agl hc.1.1;have he:=Hu hc.2;have h64:=hm.len;have q:=ag6 (fw:=(dI (x.1,x.2.2.2.1,x.2.2.2.2.1)).1) (ref:=((0:Int),(0:Int))) hm he hv x.2.2.2.2.2.1 (bR x.2.1);have r0:du [] (([],x.2.1,x.2.2.1,wg (x.2.2.2.1.length:Int),((0:Int),(0:Int))),x.1):=⟨hm,he,λr hr=>(by cases hr)⟩;exact⟨hm.clone,auq (ayd he) (auq h64 (by decide)),⟨auz _,oP (hv▸hm.bB.cn.2)⟩,λ_=>⟨auq h64 (by decide),⟨auq q.2.1 (by decide),q.1,awc _⟩,⟨q.2.2.1,auq q.2.2.2.1 (by decide)⟩,q.2.2.2.2.2.1.Nf q.2.2.2.2.2.2.2 q.2.2.2.2.2.2.1⟩,λ_=>r0.Nf rfl (awc _)⟩))
def abF:=(177,Yr)::acB
theorem Rg:cu abF:=gc aqX func177 (TM)
structure ei (t:aq):Prop extends cF t where
 aU:aT t.1 t.2.1.1
 exp:km (t.2.1.1,t.2.1.2.2.2.2.2.2.1)=true
 lit:t.2.1.2.2.2.2.2.2.2.1.length=t.1.2.2.2.2.2.2.2.length
theorem mf(x:aq):(eC x).1.length=x.1.2.2.2.2.2.2.2.length:=by
 unfold eC;have g:=iq (step:=pZ) (k:=(((aC eO (x.1.2.2.2.2.2.2.2.length:Int)).length:Int),x)) (I:=λy=>y.1.length=x.1.2.2.2.2.2.2.2.length) (λy k' z f a=>by
  unfold pZ at a;revert a
  simp only[cond];repeat' split
  all_goals(intro a;first|(cases a;done)|(cases a;first|exact(auu ..).trans f|exact(auu ..).trans ((auu ..).trans f)))) (λy k' z f a=>by
  unfold pZ at a;revert a
  simp only[cond];repeat' split
  all_goals(intro a;first|(cases a;done)|(cases a;exact f))) (Nat.succ (yN (((aC eO (x.1.2.2.2.2.2.2.2.length:Int)).length:Int),x) ((aC eO (x.1.2.2.2.2.2.2.2.length:Int)),0))) ((aC eO (x.1.2.2.2.2.2.2.2.length:Int)),0) (eu _)
 exact g
theorem PV{b:ab}{v:List aZ}{l:List bd}(f:aK b)(h:v.length=b.2.2.2.2.2.2.2.length)(hl:l.length=b.2.2.2.2.2.2.2.length):(dI (b,v,l)).2=0/\(dI (b,v,l)).1.1.length=b.2.2.2.2.2.2.2.length/\(dI (b,v,l)).1.2.1.length=b.2.2.2.2.2.2.2.length:=by
 have t:b.2.2.2.2.2.2.2.length<=8:=f.cn.2;have i:=(kB b (by unfold maxLen;show b.2.2.2.2.2.2.2.length<=_;omega)).trans ((jS b).2 f);unfold dI;have j:((v.length:Int) !=b.2.2.2.2.2.2.2.length)=false:=by rw[h];exact awm _
 have m:((l.length:Int) !=b.2.2.2.2.2.2.2.length)=false:=by rw[hl];exact awm _
 rw[i,j,m];simp only[awm,ax7,aur,azc];have u:=na (step:=oH) (k:=(l,v,v.length,b)) (I:=λy=>0<=y.1/\y.1<=v.length/\y.2.1.length=y.1/\y.2.2.1.length=y.1) (mu:=λy=>(v.length-y.1).toNat)
  (Q:=λo y=>y.2.1.length=v.length/\y.2.2.1.length=v.length) (λy s=>by
   obtain⟨g,w,x,z⟩:=s;unfold oH;by_cases a:y.1<v.length
   ·have e:=cA g a (show v.length<=maxLen by unfold maxLen;omega)
    simp only[a,e];refine⟨⟨cE g,by omega,?_,?_⟩,dg a⟩
    ·rw[au1,aAg];omega
    ·rw[au1,aAg];omega
   ·simp only[a,aur]
    exact⟨by omega,by omega⟩) (Nat.succ (oF (l,v,v.length,b) (0,[],[],0,0))) (0,[],[],0,0) ⟨au4 _,auz _,rfl,rfl⟩ (by unfold oF;simp)
 show(endOf oH (l,v,v.length,b) (Nat.succ (oF (l,v,v.length,b) (0,[],[],0,0))) (0,[],[],0,0)).2.1.length=_/\(endOf oH (l,v,v.length,b) (Nat.succ (oF (l,v,v.length,b) (0,[],[],0,0))) (0,[],[],0,0)).2.2.1.length=_;omega
theorem rJ: ∀(l:List aI) (x:bY),(l.foldl cj x).1.2.2.2=x.1.2.2.2
 | [],x=>rfl
 |r::l,x=>by rw[awb,rJ l];rfl
theorem H6: ∀(l:List az) (x:bY),(l.foldl dm x).1.2.2.2.1=x.1.2.2.2.1
 | [],x=>rfl
 |e::l,x=>by
  rw[awb,H6 l];unfold dm;cases fP (x.2,x.1.2.1)<;>rfl
structure anM (b:ab) (m:ak) (e:List Int) (v:List aZ) (l:List bd) (press:bd) (br:Bool) (r:bY) (next:List Int):Prop where
 eq:lH (b,m,e,v,l,press,br)=((r.1.1,r.1.2.1,next,r.1.2.2.2),0)
 b:r.2=b
 ro:du [] r
 len:r.1.1.length<=1000
def cg(b:ab)(m:ak)(e:List Int)(v:List aZ)(l:List bd)(press:bd)(br:Bool):bY:=
 bif br then(eR (dS (dv (press,dB b),bR m))).foldl dm ((cC (b,m,v)).foldl cj (([],m,e,(dI (b,v,l)).1,0,0),b))
 else(([],m,e,wg v.length,0,0),b)
def ix(b:ab)(m:ak)(e:List Int)(v:List aZ)(l:List bd)(press:bd)(br:Bool):bY:=
 (gQ (b,(cg b m e v l press br).1.2.1,(cg b m e v l press br).1.2.2.1,v)).1.1.foldl cj (cg b m e v l press br)
theorem Cy{b:ab}{m:ak}{e:List Int}{v:List aZ}{l:List bd}(press:bd)(br:Bool)(hm:aT b m)(A:km (m,e)=true)(a:v.length=b.2.2.2.2.2.2.2.length)(hl:l.length=b.2.2.2.2.2.2.2.length):
  anM b m e v l press br (ix b m e v l press br) (gQ (b,(cg b m e v l press br).1.2.1,(cg b m e v l press br).1.2.2.1,v)).1.2.1:=by
 have C:=(PV hm.bB a hl).1;have f:=Hu (m:=m) (e:=e) (by simp_all);have h0:du [] (cg b m e v l press br)/\(cg b m e v l press br).2=b/\(cg b m e v l press br).1.1.length<=128:=by
  unfold cg;cases br with
  |true=>
   rw[auw];obtain⟨g,h⟩:=ui hm a;have i:du (cC (b,m,v)) (([],m,e,(dI (b,v,l)).1,0,0),b):=⟨hm,f,g⟩;obtain⟨y,j,k⟩:=rP i (auq h (by decide));have I:(List.foldl cj ((([]:List aI),m,e,(dI (b,v,l)).1,0,0),b) (cC (b,m,v))).1.1.length<=64:=by simp_all [lj]
   have o:du [] (List.foldl cj ((([]:List aI),m,e,(dI (b,v,l)).1,0,0),b) (cC (b,m,v))):=j.with (λr hr=>by cases hr);obtain⟨s,t,u⟩:=DU o press (bR m);rw[k]at t u;refine⟨t,u,?_⟩;have:=Iw (eR (dS (dv (press,dB b),bR m))) (List.foldl cj ((([]:List aI),m,e,(dI (b,v,l)).1,0,0),b) (cC (b,m,v)));grind [dS,dv,dB,bR,uf]
  |false=>exact⟨⟨hm,f,λr hr=>(by cases hr)⟩,rfl,awc _⟩
 have z:=h0.1.Nf (e:=(cg b m e v l press br).1.2.2.1) (v:=v) h0.2.1 h0.2.2;obtain⟨p1,p2,p3⟩:=rP z.2.1 (auq z.1 (by decide));refine⟨?_,p3.trans h0.2.1,p2.with (λr hr=>by cases hr),?_⟩
 ·unfold lH KK
  simp only[C,hm.is,A,awm,avw,ax7,aur,agD,agq];cases br with
  |true=>
   simp only[auw];obtain⟨g,h⟩:=ui hm a;have i:du (cC (b,m,v)) (([],m,e,(dI (b,v,l)).1,0,0),b):=⟨hm,f,g⟩;obtain⟨y,j,k⟩:=rP i (auq h (by decide));have o:du [] (List.foldl cj ((([]:List aI),m,e,(dI (b,v,l)).1,0,0),b) (cC (b,m,v))):=j.with (λr hr=>by cases hr);obtain⟨s,t,u⟩:=DU o press (bR m);rw[k]at s;rw[y,s];have w:cg b m e v l press true=(eR (dS (dv (press,dB b),bR m))).foldl dm ((cC (b,m,v)).foldl cj (([],m,e,(dI (b,v,l)).1,0,0),b)):=rfl;rw[<- w,p1];rfl
  |false=>
   simp only[aur];have w:cg b m e v l press false=(([],m,e,wg (v.length:Int),0,0),b):=rfl;rw[<- w];have:gQ (b,m,e,v)=gQ (b,(cg b m e v l press false).1.2.1,(cg b m e v l press false).1.2.2.1,v):=rfl;rw[this,p1];rfl
 ·unfold ix
  rw[lj,au1];have:=h0.2.2;have:=(rM (x:=(cg b m e v l press br).1.2.2.1) (v:=v) h0.1.aU).2;rw[h0.2.1]at this;omega
theorem O1{b:ab}{m:ak}{e:List Int}{v:List aZ}{l:List bd}(press:bd)(br:Bool)(a:aK b)(f:v.length=b.2.2.2.2.2.2.2.length)(hl:l.length=b.2.2.2.2.2.2.2.length):
  (ix b m e v l press br).1.2.2.2.1.1.length=b.2.2.2.2.2.2.2.length/\(ix b m e v l press br).1.2.2.2.1.2.1.length=b.2.2.2.2.2.2.2.length:=by
 unfold ix;rw[rJ];unfold cg;cases br with
 |true=>
  simp_all [H6,rJ,PV]
 |false=>
  show(aC aS v.length).length=_/\(aC aw v.length).length=_;grind [eu]
theorem aex(l:List aI)(t:aq): ∃aU aX a fail,(dH (l,t)).2=(t.1,(aU,aX,t.2.1.2.2),t.2.2.1,t.2.2.2.1,a,fail,t.2.2.2.2.2.2):=by
 have key: ∀(n:Nat) (i:Int) (y:aq),(∃aU aX a fail,y=(t.1,(aU,aX,t.2.1.2.2),t.2.2.1,t.2.2.2.1,a,fail,t.2.2.2.2.2.2))->
   (∃aU aX a fail,(endOf gL (l,(l.length:Int)) n (i,y)).2=(t.1,(aU,aX,t.2.1.2.2),t.2.2.1,t.2.2.2.1,a,fail,t.2.2.2.2.2.2))/\(∀r,bj gL (l,(l.length:Int)) n (i,y)=some r-> ∃aU aX a fail,r.2=(t.1,(aU,aX,t.2.1.2.2),t.2.2.1,t.2.2.2.1,a,fail,t.2.2.2.2.2.2)):=by
  intro n;induction n with
  |zero=>intro i y h;exact⟨h,λr hr=>by cases hr⟩
  |succ n f=>
   intro i y h;simp only[endOf,bj];unfold gL;cases decide ((i,y).1<(l,(l.length:Int)).2)with
   |true=>
    simp only[auw];cases(y.2.2.2.2.2.1 !=(0:Int))with
    |true=>simp only[auw];exact⟨h,λr hr=>by cases hr;exact h⟩
    |false=>
     simp only[aur];obtain⟨aU,aX,a,fail,rfl⟩:=h;exact f _ _ ⟨_,_,_,_,rfl⟩
   |false=>simp only[aur];exact⟨h,λr hr=>by cases hr⟩
 have h0:=key (Nat.succ (iZ (l,(l.length:Int)) (0,t))) 0 t ⟨_,_,_,_,rfl⟩;unfold dH vk vy;simp only;cases hr:bj gL (l,(l.length:Int)) (Nat.succ (iZ (l,(l.length:Int)) (0,t))) (0,t)with
 |some r=>exact h0.2 r hr
 |none=>exact h0.1
theorem af1{x:aq}(h:ei x){v:List aZ}(a:v.length=x.1.2.2.2.2.2.2.2.length):
  (lH (x.1,x.2.1.1,x.2.1.2.2.2.2.2.2.1,v,x.2.1.2.2.2.2.2.2.2.1,x.2.2.1.1,x.2.2.2.1)).1.2.2.2.1.1.length=x.1.2.2.2.2.2.2.2.length/\(lH (x.1,x.2.1.1,x.2.1.2.2.2.2.2.2.1,v,x.2.1.2.2.2.2.2.2.2.1,x.2.2.1.1,x.2.2.2.1)).1.2.2.2.1.2.1.length=x.1.2.2.2.2.2.2.2.length/\(lH (x.1,x.2.1.1,x.2.1.2.2.2.2.2.2.1,v,x.2.1.2.2.2.2.2.2.2.1,x.2.2.1.1,x.2.2.2.1)).1.1.length<=1000:=by
 have f:=Cy x.2.2.1.1 x.2.2.2.1 h.aU h.exp a h.lit;have hl:=O1 (m:=x.2.1.1) (e:=x.2.1.2.2.2.2.2.2.1) x.2.2.1.1 x.2.2.2.1 h.aU.bB a h.lit;rw[f.eq];exact⟨hl.1,hl.2,f.len⟩
theorem xy(l:List aI)(t:aq):(dH (l,t)).2.2.2.2.2.2.2.2.2.2.2.2.2.2.2=t.2.2.2.2.2.2.2.2.2.2.2.2.2.2:=by
 obtain⟨aU,aX,a,fail,hw⟩:=aex l t;rw[hw]
def JJ(k:(List (aP))×Int)(x:Int×aq):Prop:=0<=x.1/\k.2=k.1.length/\k.1.length<=1000
def Cx(k:((List (aP))×Int))(x:(Int×aq)):Nat:=(k.2-x.1).toNat
def nr(k:(List (aP))×Int)(x:Int×aq):an ((List (aP))×Int) (Int×aq) (Unit×aq):=letI b:=i64.wrap (x.1+1);letI c:=aa k.1 x.1;letI d:=x.2.2.2;letI a:=d.2.2.2;letI e:=a.2.2.2;bif x.1<k.2 then bif c.1==2 then .next k (b,x.2.1,x.2.2.1,d.1,d.2.1,d.2.2.1,a.1,a.2.1,a.2.2.1,e.1,e.2.1,fc (e.2.2.1,fo (c.2.1,c.2.2.1)),e.2.2.2)else .next k (b,x.2)else .brk k x
def qo k x:=endOf nr k (Nat.succ (Cx k x)) x
def Ii(k:Int×(List (aP))×ak×(List Int)×((List (af))×(List Bool)×af)×af)(x:Int×aq):Prop:=letI a:=x.2.2.2.2.2.2.2.2.2.2.2.2.2.2.2;0<=x.1/\k.1=a.length/\k.2.2.2.2.1.1.length=a.length/\k.2.2.2.2.1.2.1.length=a.length/\a.length<=8
def B5(k:(Int×(List (aP))×(ak)×(List Int)×((List (af))×(List Bool)×af)×af))(x:(Int×aq)):Nat:=(k.1-x.1).toNat
def PA(k:Int×(List (aP))×ak×(List Int)×((List (af))×(List Bool)×af)×af)(x:Int×aq):=letI b:=x.2.2.2.2.2.2.2.2.2.2.2.2.2.2.2;letI a:=aJ gS b x.1 ((aa b x.1).1,aa k.2.2.2.2.1.1 x.1,(aa b x.1).2.2);letI c:=aa a x.1;aJ gS a x.1 (c.1,c.2.1,aa k.2.2.2.2.1.2.1 x.1,c.2.2.2)
def uz(k:Int×(List (aP))×ak×(List Int)×((List (af))×(List Bool)×af)×af)(x:Int×aq):an (Int×(List (aP))×ak×(List Int)×((List (af))×(List Bool)×af)×af) (Int×aq) (Unit×aq):=letI b:=x.2.2.2;letI a:=b.2.2.2.2;letI c:=a.2.2.2;bif x.1<k.1 then .next k (i64.wrap (x.1+1),x.2.1,x.2.2.1,b.1,b.2.1,b.2.2.1,b.2.2.2.1,a.1,a.2.1,a.2.2.1,c.1,c.2.1,c.2.2.1,c.2.2.2.1,c.2.2.2.2.1,PA k x)else .brk k x
def yM k x:=endOf uz k (Nat.succ (B5 k x)) x
def vF(x:aq):=letI i:=x.2.1.2.2.2.2.2.2;letI a:=lH (x.1,x.2.1.1,i.1,(eC x).1,i.2.1,x.2.2.1.1,x.2.2.2.1);letI b:=dH (a.1.1,x);letI e:=b.2.2;letI c:=e.2.2.2.2;letI d:=e.1.2.2;letI f:=d.2.2.2.2.2.2;letI g:=c.2.2.2;letI h:=a.1.2.2;qo (a.1.1,a.1.1.length) (0,b.2.1,(e.1.1,e.1.2.1,d.1,d.2.1,d.2.2.1,d.2.2.2.1,h.1,h.2.1.1,f.1,f.2.1,hV f.2.2),e.2.1,e.2.2.1,e.2.2.2.1,c.1,c.2.1,c.2.2.1,g.1,g.2.1,g.2.2.1,g.2.2.2.1,!(h.2.2.1==0&&h.2.2.2==0),g.2.2.2.2.2)
def vL(x:aq):=letI h:=x.2.1.2.2.2.2.2.2;letI a:=lH (x.1,x.2.1.1,h.1,(eC x).1,h.2.1,x.2.2.1.1,x.2.2.2.1);letI b:=dH (a.1.1,x);letI d:=b.2.2;letI c:=d.2.2.2.2;letI e:=d.1.2.2;letI f:=c.2.2.2;letI g:=a.1.2.2;qo (a.1.1,a.1.1.length) (0,b.2.1,(d.1.1,d.1.2.1,e.1,e.2.1,e.2.2.1,e.2.2.2.1,g.1,g.2.1.1,e.2.2.2.2.2.2),d.2.1,d.2.2.1,d.2.2.2.1,c.1,c.2.1,c.2.2.1,f.1,f.2.1,f.2.2.1,f.2.2.2.1,!(g.2.2.1==0&&g.2.2.2==0),f.2.2.2.2.2)
def iQ(x:aq):=letI b:=x.2.1.2.2.2.2.2.2;letI a:=lH (x.1,x.2.1.1,b.1,(eC x).1,b.2.1,x.2.2.1.1,x.2.2.2.1);bif !(a.1.2.2.2.2.1==0&&a.1.2.2.2.2.2==0)then((),(yM (((vF x).2.2.2.2.2.2.2.2.2.2.2.2.2.2.2.length),a.1) (0,(vF x).2)).2)else((),(yM (((vL x).2.2.2.2.2.2.2.2.2.2.2.2.2.2.2.length),a.1) (0,(vL x).2)).2)
def UN(x:aq):Prop:=ei x
def zR:Cv:=letI a:=(16,true,142);letI b:=(17,true,153);letI c:=(18,true,158);⟨dj,[],[.p],[43],false,[(15,true,70),a,b,c,(32,true,4),(33,true,51),(34,true,4),(42,true,85)],dj,Ty.unit,ah.none,[(15,true,70),a,b,c,(32,true,4),(33,true,51),(34,true,4),(42,true,85)],some UN,iQ,false⟩
def IL:LS (Ty.pair Ty.unit dj).den:=aH (Ty.pair dF ae) (Ty.pair ae dj) [(82,none),(83,none)] [] [(84,none)] [(0,43)] [(16,100716,true,70),(17,100717,true,142),(18,100718,true,153),(19,100719,true,158),(33,100733,true,4),(34,100734,true,51),(35,100735,true,4),(43,100743,true,85)] [] [(0,0)] 0 false JJ nr Cx
def Q2:LS (Ty.pair Ty.unit dj).den:=aH (Ty.pair ae ET) (Ty.pair ae dj) [(112,none)] [(2,12)] [(113,none)] [(0,43)] [(16,101316,true,70),(17,101317,true,142),(18,101318,true,153),(19,101319,true,158),(33,101333,true,4),(34,101334,true,51),(35,101335,true,4),(43,101343,true,85)] [] [(0,0),(2,2)] 2 false Ii uz B5
def K1(z:List (Nat×List Nat)):=dN (HY true) mi dh Rg z
theorem aje:gU f130 zR [0] IL:=lV (K1 []) [] l0 (λk x fk fx h=>sl (decide (x.1<k.2)=true->0<=x.1/\x.1<k.1.length) (by
 try dsimp only[Ty.den]at*
 obtain⟨h0,h1,h2⟩:=h;intro hc;rw[adv]at hc;exact ig h0 (h1▸hc))) λk x fk h=>by
 try dsimp only[Ty.den]at*
 obtain⟨h0,h1,h2⟩:=h;unfold nr;refine bf.cnd (λhc=> ?_) (λ_=>rfl);rw[adv]at hc;have e:=cA h0 (h1▸hc) (auq h2 (by decide));rw[e];exact bf.cnd (λ_=>⟨rfl,⟨cE h0,h1,h2⟩,dg hc⟩) (λ_=>⟨rfl,⟨cE h0,h1,h2⟩,dg hc⟩)
theorem ahk:gU f130 zR [1] Q2:=lV (K1 []) [(7,IL)] l0 (λk x fk fx h=>sl (letI a:=x.2.2.2.2.2.2.2.2.2.2.2.2.2.2.2;letI b:=k.2.2.2.2.1;decide (x.1<k.1)=true->((0<=x.1/\x.1<(b.1.length:Int))/\(0<=x.1/\x.1<b.2.1.length)/\(0<=x.1/\x.1<a.length)/\0<=x.1/\x.1<((aJ gS a x.1 ((aa a x.1).1,aa b.1 x.1,(aa a x.1).2.2)).length))) (by
 try dsimp only[Ty.den]at*
 obtain⟨h0,h1,h2,h3,h4⟩:=h;intro hc;rw[adv]at hc;have r:=ig h0 (h1▸hc);exact⟨df r h2,df r h3,r,df r (auu ..)⟩)) λk x fk h=>by
 try dsimp only[Ty.den]at*
 obtain⟨h0,h1,h2,h3,h4⟩:=h;unfold uz;refine bf.cnd (λhc=> ?_) (λ_=>rfl);rw[adv]at hc;have e:=cA h0 (h1▸hc) (auq h4 (by decide));rw[e];have q:(PA k x).length=x.2.2.2.2.2.2.2.2.2.2.2.2.2.2.2.length:=(auu ..).trans (auu ..);exact⟨rfl,⟨cE h0,q.symm▸h1,h2.trans q.symm,h3.trans q.symm,auq (ayd q) h4⟩,dg hc⟩
theorem YP:dP 130 zR:=dV (K1 []) func130 [(7,IL),(13,Q2)] (lc aje (lc ahk l0)) (sp λx fx h=>sl (letI n:=x.2.1.2.2.2.2.2.2;letI a:=lH (x.1,x.2.1.1,n.1,(eC x).1,n.2.1,x.2.2.1.1,x.2.2.2.1);letI b:=dH (a.1.1,x);letI f:=b.2.2;letI e:=f.1.2.2;letI i:=(a.1.1,(a.1.1.length:Int));letI j:=a.1.2.2;letI c:= !((j.2.2.1==0)&&(j.2.2.2==0));letI l:=f.2.2;letI d:=l.2.2.2;letI g:=d.2.2.2;letI m:=e.2.2;letI h:=m.2.2.2.2;Vi x/\((c=true->(JJ i (0,b.2.1,(f.1.1,f.1.2.1,e.1,e.2.1,m.1,m.2.1,j.1,j.2.1.1,h.1,h.2.1,hV h.2.2),f.2.1,l.1,l.2.1,l.2.2.1,d.1,d.2.1,d.2.2.1,g.1,g.2.1,g.2.2.1,c,g.2.2.2.2)/\Ii (((vF x).2.2.2.2.2.2.2.2.2.2.2.2.2.2.2.length:Int),a.1) (0,(vF x).2)))/\(c=false->JJ i (0,b.2.1,(f.1.1,f.1.2.1,e.1,e.2.1,m.1,m.2.1,j.1,j.2.1.1,h),f.2.1,l.1,l.2.1,l.2.2.1,d.1,d.2.1,d.2.2.1,g.1,g.2.1,g.2.2.1,c,g.2.2.2.2)/\Ii (((vL x).2.2.2.2.2.2.2.2.2.2.2.2.2.2.2.length),a.1) (0,(vL x).2)))) (by
 try dsimp only[Ty.den]at*
 have h:ei x:=h;have hl:=af1 h (mf x);have g7: ∀(kk:List aI×Int) (n:Nat) (y:Int×aq),(endOf nr kk n y).2.2.2.2.2.2.2.2.2.2.2.2.2.2.2.length=y.2.2.2.2.2.2.2.2.2.2.2.2.2.2.2.length:=λkk n y=>iq (step:=nr) (k:=kk) (I:=λz=>z.2.2.2.2.2.2.2.2.2.2.2.2.2.2.2.length=y.2.2.2.2.2.2.2.2.2.2.2.2.2.2.2.length) (λz k' z' hy hz=>by
  unfold nr at hz;revert hz
  simp only[cond];repeat' split
  all_goals(intro hz;first|(cases hz;done)|(cases hz;exact hy))) (λz k' z' hy hz=>by
  unfold nr at hz;revert hz
  simp only[cond];repeat' split
  all_goals(intro hz;first|(cases hz;done)|(cases hz;exact hy))) n y rfl
 have c1:(vF x).2.2.2.2.2.2.2.2.2.2.2.2.2.2.2.length=x.1.2.2.2.2.2.2.2.length:=(g7 _ _ _).trans ((av2 List.length (xy _ x)).trans h.c8);have c2:(vL x).2.2.2.2.2.2.2.2.2.2.2.2.2.2.2.length=x.1.2.2.2.2.2.2.2.length:=(g7 _ _ _).trans ((av2 List.length (xy _ x)).trans h.c8);exact⟨h.tocF,λ_=>⟨⟨au4 _,rfl,hl.2.2⟩,⟨au4 _,rfl,hl.1.trans c1.symm,hl.2.1.trans c1.symm,lY c1 h.n8⟩⟩,λ_=>⟨⟨au4 _,rfl,hl.2.2⟩,⟨au4 _,rfl,hl.1.trans c2.symm,hl.2.1.trans c2.symm,lY c2 h.n8⟩⟩⟩))
def Y6(nw:Bool):=(130,.pv zR)::abd nw
theorem af7(nw:Bool):gj (Y6 nw):=zc (z:= .pv zR) YP func130 ((HY nw))
def Wv:List (Nat×Ct):=abF
theorem Q3:cu Wv:=Rg
end Go.Proofs.YtcfinjcapeemeaaGreatDoor.S
