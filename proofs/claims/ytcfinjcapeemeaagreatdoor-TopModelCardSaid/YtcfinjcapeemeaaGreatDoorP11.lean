/- Part of the proof that the law TopModel holds for every input. -/
import Derived.Test.YtcfinjcapeemeaaGreatDoorP10
set_option linter.all false
set_option maxRecDepth 100000
set_option maxHeartbeats 4000000
namespace Go.Proofs.YtcfinjcapeemeaaGreatDoor.S
open Go Go.RowKit IntKind Go.Proofs.Tryz
def K5(k:ax)(x:Int×ae):Prop:=0<=x.1/\x.2.2.2.2.2.2.2.2.length<=8
def zU(k:ax)(x:Int×ae):=(x.2.2.2.2.2.2.2.2.length-x.1).toNat
def Kh(k:ax)(x:Int×ae):=letI d:=x.2.2.2.2.2.2.2.2;letI b:=aa d x.1;letI a:=aH fX d x.1 (b.1,b.2.1,i64.wrap (1+i64.wrap (Int.tmod k.2.2 (4:Int))),b.2.2.2);letI c:=aa a x.1;aH fX a x.1 (c.1,c.2.1,c.2.2.1,i64.wrap (Int.tmod k.2.1 (5:Int)),c.2.2.2.2)
def vH(k:ax)(x:Int×ae):ak (ax) (Int×ae) ae:=letI a:=x.2.2.2.2;bif x.1<a.2.2.2.2.length then .next k (i64.wrap (x.1+1),x.2.1,x.2.2.1,x.2.2.2.1,a.1,a.2.1,a.2.2.1,a.2.2.2.1,Kh k x)else .brk k x
def adq k x:=endOf vH k (Nat.succ (zU k x)) x
def aa1(x:ax):=letI a:=tG (x.1,x.2.1);adq x (0,a.1,i64.wrap (1+i64.wrap (Int.tmod x.2.2 (3:Int))),i64.wrap (i64.wrap (i64.wrap (18*a.2.2.2.2.2.2.2.length)+24)+i64.wrap (6*i64.wrap (u8.wrap (Int.tdiv x.2.2 (3:Int))))),a.2.2.2)
def F7(x:ax):ae:=
 (aa1 x).2
def pe(x:ax):Prop:=(0<=x.1/\x.1<=255)/\(0<=x.2.1/\x.2.1<=255)/\0<=x.2.2/\x.2.2<=255
def yU(x:(aO)×aq):=letI a:=(bN (x.2,x.1.2.1,x.1.2.2.1)).1;letI b:=aa x.2.2.2.2 a;aH dP x.2.2.2.2 a (b.1,b.2.1,x.1.2.2.2.1,b.2.2.2)
def qa(x:(aO)×aq):=letI b:=(bN (x.2,x.1.2.1,x.1.2.2.1)).1;letI a:=aa x.2.2.2.2 b;aH dP x.2.2.2.2 b (a.1,a.2.1,a.2.2.1,x.1.2.2.2.2,a.2.2.2.2)
def qg(x:(aO)×aq):=letI b:=(bN (x.2,x.1.2.1,x.1.2.2.1)).1;letI a:=aa (qa x) b;aH dP (qa x) b (a.1,a.2.1,a.2.2.1,a.2.2.2.1,x.1.2.2.2.1==1)
def ej(x:(aO)×aq):Unit×aq:=letI b:=x.2.2;letI c:=x.1.2.2;letI a:=bN (x.2,x.1.2.1,c.1);letI d:=((),x.2);letI e:=x.1.1;letI f:=x.2.1;letI g:=c.2.2==1;letI h:=b.2.1;bif e==4 then((),aH ab f c.2.1 c.2.2,b)else bif e==5 then((),f,aH aw b.1 c.2.1 g,b.2)else bif e==6 then((),f,b.1,aH aw h c.2.1 g,b.2.2)else bif e==1 then bif !a.2 then((),f,b.1,h,(FJ (b.2.2,a.1,[(x.1.2.1,c.1,-1,0,false)])).1)else d else bif e==2 then bif a.2 then((),f,b.1,h,(FF (b.2.2,a.1,i64.wrap (a.1+1))).1)else d else bif e==3 then bif a.2 then((),f,b.1,h,yU x)else d else bif e==7 then bif a.2 then((),f,b.1,h,qg x)else d else d
def Ks(x:(aO)×aq):Prop:=Mm x
def zm(k:Int)(x:Int×aW):Prop:=0<=x.1/\x.2.2.2.2.1.length=x.1/\k<=8/\x.2.2.2.2.2.2.2.1= []
def zq(k:(Int))(x:(Int×aW)):Nat:=(k-x.1).toNat
def qb(k:Int)(x:Int×aW):ak Int (Int×aW) (aW×Int):=bif x.1<k then .next k (i64.wrap (x.1+1),x.2.1,x.2.2.1,x.2.2.2.1,x.2.2.2.2.1++ [qI ()],x.2.2.2.2.2)else .brk k x
def YJ k x:=endOf qb k (Nat.succ (zq k x)) x
def TJ(k:(List aC)×Int×ae)(x:Int×aW):Prop:=0<=x.1/\k.2.1=k.1.length/\x.2.2.2.2.2.2.2.1.length=x.1/\k.2.1<=100000/\VT k.1 k.2.2.2.2.2.2.2.2.2.length
def Tv(k:(List aC)×Int×ae)(x:Int×aW):=(k.2.1-x.1).toNat
def IY(k:(List aC)×Int×ae)(x:Int×aW):ak ((List aC)×Int×ae) (Int×aW) (aW×Int):=letI b:=i64.wrap (x.1+1);letI d:=x.2.2;letI a:=d.2.2;letI c:=a.2.2;bif x.1<k.2.1 then bif(aa k.1 x.1).2.2.1>=0 then .next k (b,x.2.1,d.1,d.2.1,a.1,a.2.1,c.1,c.2.1++ [(aa k.2.2.2.2.2.2.2.2.2 (aa k.1 x.1).2.2.1).1],c.2.2)else .next k (b,x.2.1,d.1,d.2.1,a.1,a.2.1,c.1,c.2.1++ [0],c.2.2)else .brk k x
def UN k x:=endOf IY k (Nat.succ (Tv k x)) x
def zB(x:ae×aq×dr):=letI a:=x.1.2.2.2.2.2.2.2.length;YJ a (0,wv x.2.1,x.2.2,aE du a,[],aE iM a,aE jw a,[],aE aU a,0,0,0)
def Gf(x:ae×aq×dr):aW×Int:=bif !pj (x.1,x.2.1)|| !eA (x.1.2.2.1,x.2.2)then((([],[],[],[]),((ByteArray.empty,ByteArray.empty),0),[],[],[],[],[],[],0,0,0),1)else((UN (x.2.1.2.2.2,x.2.1.2.2.2.length,x.1) (0,(zB x).2)).2,0)
def Y1(x:ae×aq×dr):Prop:=x.2.1.2.2.2.length<=100000
def mm(x:(List Int)×Option Nat):=decide (Mr x>=0)
def vr(x:(List Int)×Option Nat):Prop:= ∃g,x.2=some g/\g∈ [104,257,261]
def DA(k:(List bg)×Int×ae)(x:Int):Prop:=0<=x/\k.2.1=k.1.length
def DW(k:((List (bg))×Int×ae))(x:(Int)):Nat:=(k.2.1-x).toNat
def yL(k:(List bg)×Int×ae)(x:Int):=bif x<k.2.1 then bif !(F57 (x,aa k.1 x,k.2.2)).1 then ak.ret (false,())else ak.next k (i64.wrap (x+1))else ak.brk k x
def Wn k x:=bd yL k (Nat.succ (DW k x)) x
def Gi(x:(List bg)×Int×ae):=letI a:=x.1.length;bif a !=x.2.1 then(false,())else dq (Wn (x.1,a,x.2.2) 0) (λy=>y) (true,())
def F60(x:Int×bT×ae):=(fC (x.2.2,x.1,x.2.1),x.2.2)
def jL(x:ae×iA):=letI b:=x.2.2.2;letI c:=b.1.1==0&&(b.1.2.1==0&&b.1.2.2==0);letI d:=x.2.2.1;letI a:=d.1==0&&(d.2.1==0&&(d.2.2.1==0&&(d.2.2.2.1==false&&d.2.2.2.2==0)));letI e:=b.2.2;bif bZ x.1 !=0||e.2.2&& !(x.2.1.1==0&&x.2.1.2==0&&(a&&(c&&(b.2.1==0&&(e.1==0&&(e.2.1==0&&e.2.2==true))))))then false else bif !FO x.2.1|| !Fi d|| !AI (x.1.1,b.1)|| !a&& !c then false else Int.fdiv b.2.1 (2^min x.1.1.toNat u32.bits)==0&&e.1>=0&&e.1<=2&&e.2.1>=0&&e.2.1<=1000000
def kO(x:Int×bg×eT):bg×Int:=bif !lN (x.1,x.2.1)then(((0,false,false,false,false),0,0,0,0,0,0,0,0,0,0,0,0,0,0,0,0,0,0,0,0,0,0,0,0,0,0,0,0,0,0,0,0,0,0,0,0),1)else(we x,0)
def Aj(x:ae×Int×bT):bT×Int:=letI a:=sQ (x.2.2.2.2.2.1,(aa x.1.2.2.2.2.2.2.2 x.2.1).1,0,0);bif !fC x then((0,0,0,[],0,false),1)else((x.2.2.1,x.2.2.2.1,x.2.2.2.2.1,a.1,0,a.2),0)
def lQ(x:mf):=(A0 (x.1,x.2.1),A3 (x.2.2.1,x.2.2.2.1,0,1,2,3),A3 (x.2.2.2.2.1,x.2.2.2.2.2,0,1,2,3))
def EI(x:mf):Prop:=0<=x.2.1/\x.2.1<=4294967295
def kP(x:jX):=letI a:=u32.wrap (1*2^min x.2.1.toNat u32.bits);letI b:=(0,0);bif !mK x||x.2.2.2 !=1||x.2.1<0 then b else bif x.2.2.1==1&&x.2.1<i64.wrap (x.1-1)then(a,0)else bif x.2.2.1==2&&x.2.1>0 then(0,a)else b
def MJ(x:ae×Int×bT):=letI a:=x.2.2.2.2;fC x&&(a.2.1.length:Int)==0&&a.1==2&&a.2.2.1>=(aa x.1.2.2.2.2.2.2.2 x.2.1).2.2.1
def iz(x:ae×aq×(af)×List Bool):=letI a:=x.2.2.1;letI b:=(x.1.2.2.2.2.2.2.2.length:Int);bif !cL (x.1,x.2.1)||x.2.2.2.length !=b then([],1)else bif a.1<0||a.1>8 then([],6)else bif a.2<0||a.2>=b then([],2)else bif a.1==0 then([],0)else MV ((x.2.1,a.2,aa x.2.2.2 a.2),a.1)
def wo(x:ae×Int×bT):bT×Int:=bif !fC x then((0,0,0,[],0,false),1)else((x.2.2.1,x.2.2.2.1,x.2.2.2.2.1,[],0,false),0)
def Jw(k:Int×aq)(x:(List aX)×Int):Prop:=0<=x.2/\k.1=x.1.length/\k.1<=8
def JC(k:(Int×aq))(x:((List (aX))×Int)):Nat:=(k.1-x.2).toNat
def ID(k:Int×aq)(x:(List aX)×Int):ak (Int×aq) ((List aX)×Int) (List aX):=bif x.2<k.1 then .next k (aH eR x.1 x.2 (Ap (k.2,x.2),(aa x.1 x.2).2),i64.wrap (x.2+1))else .brk k x
def alr k x:=endOf ID k (Nat.succ (JC k x)) x
def aah(x:aq):=letI a:=aE eR x.1.length;(alr (a.length,x) (a,0)).1
def VG(x:aq):Prop:=x.1.length<=8
def eO(x:aq×af):=letI b:=x.1.2.2.2;letI a:=pb (b,x.2);bif a.1<0 then((b.length:Int),false)else(a.1,(aa b a.1).1==x.2.1&&(aa b a.1).2.1==x.2.2)
def Ur(x:aq×af):Prop:=x.1.2.2.2.length<=1000000
def cd(x:aq):=Fs x.2.2.2
def wa(x:jX):=bif !nK x.1 then 0 else i64.wrap (ra (kd x).1+AK (kd x).2)
def Sd(k:(List aC)×Int)(x:Int×bT):Prop:=0<=x.1/\k.2=k.1.length/\k.2<=64/\x.2.2.2.2.1.length<=1000+x.1
def CM(k:((List (aC))×Int))(x:(Int×bT)):Nat:=(k.2-x.1).toNat
def uk(k:(List aC)×Int)(x:Int×bT):ak ((List aC)×Int) (Int×bT) (bT×Int):=letI a:=((aa k.1 x.1).1,(aa k.1 x.1).2.1,0);letI b:=i64.wrap (x.1+1);letI d:=x.2.2.2;letI c:=lF (d.2.1,a,some 107);bif x.1<k.2 then bif !c.2 then .next k (b,x.2.1,x.2.2.1,d.1,(ac4 (d.2.1,c.1,[a])).1,d.2.2)else .next k (b,x.2)else .brk k x
def Vw k x:=endOf uk k (Nat.succ (CM k x)) x
def UD(x:ae×Int×bT×af):=letI a:=mz (dG (x.2.2.2,dS x.1));letI b:=x.2.2.1.2;Vw (a,a.length) (0,x.2.2.1.1,b.1,b.2.1,aP (aE gx b.2.2.1.length) b.2.2.1,b.2.2.2)
def mq(x:ae×Int×bT×af):bT×Int:=letI a:=UD x;letI b:=a.2.2.2;bif !fC (x.1,x.2.1,x.2.2.1)then((0,0,0,[],0,false),1)else((a.2.1,a.2.2.1,b.1,b.2.1,b.2.2.1,b.2.2.2&&(b.2.1.length:Int)==0),0)
def IP(k:Int×(List (ax))×Int×ae)(x:Int×(af)×Bool):Prop:=0<=x.1/\k.2.2.1=k.2.1.length/\0<=k.1/\k.1<k.2.2.2.2.2.2.2.2.2.2.length
def IC(k:Int×(List (ax))×Int×ae)(x:Int×(af)×Bool):=(k.2.2.1-x.1).toNat
def I7(k:Int×(List (ax))×Int×ae)(x:Int×(af)×Bool):ak (Int×(List (ax))×Int×ae) (Int×(af)×Bool) ((af)×Bool):=letI a:=i64.wrap (x.1+1);letI b:=aa k.2.1 x.1;bif x.1<k.2.2.1 then bif b.2.2<(aa k.2.2.2.2.2.2.2.2.2.2 k.1).2.1 then .next k (a,gi (x.2.1,ia (b.1,b.2.1)),x.2.2)else .next k (a,x.2)else .brk k x
def amh k x:=endOf I7 k (Nat.succ (IC k x)) x
def Nk(x:ae×Int×Int×bT):=bif !M3 x.2.2.1|| !fC (x.1,x.2.1,x.2.2.2)then((0,0),true)else(amh (x.2.1,x.2.2.2.2.2.2.1,x.2.2.2.2.2.2.1.length,x.1) (0,(0,0),false)).2
def F25(x:af):=((F70 x).length:Int)
def Ny:Ct:=⟨Ax,[some 3],az,ah.one (some 8),some pe,none,F7⟩
def Lm:Cv:=⟨Ty.pair jx bO,[some 5],[.p,.v],[4],false,[(5,true,3),(6,true,4),(7,true,4),(8,true,93)],bO,Ty.unit,ah.none,[(0,true,3),(1,true,4),(2,true,4),(3,true,93)],some Ks,ej,false⟩
def FB:Ct:=⟨Ty.pair az (Ty.pair bO eu),[some 8,some 4,some 3],Ty.pair fB bI,ah.tup [some 16,none],some Y1,none,Gf⟩
def YE:Ct:=⟨Ty.pair cX Fg,[none,none],aw,ah.one none,some vr,none,mm⟩
def Fy:Cv:=⟨Ty.pair qp (Ty.pair ab az),[none,none],[.v,.v,.c 57 1],[8],true,[],Ty.unit,aw,ah.one none,[],none,Gi,false⟩
def adx:Cp:=⟨Ty.pair ab (Ty.pair eL az),[none,some 6],[false,false,true],[8],true,false,az,aw,ah.one none,none,F60,none,undef⟩
def adu:Ct:=⟨Ty.pair az iM,[some 8,some 14],aw,ah.one none,none,none,jL⟩
def Y5:Ct:=⟨Ty.pair ab (Ty.pair du jg),[none,some 41,some 5],Ty.pair du bI,ah.tup [some 41,none],none,none,kO⟩
def XO:Ct:=⟨Ty.pair az (Ty.pair ab eL),[some 8,none,some 6],Ty.pair eL bI,ah.tup [some 6,none],none,none,Aj⟩
def ab5:Ct:=⟨Ty.pair ab jg,[none,some 5],jf,ah.one (some 3),some EI,none,lQ⟩
def aaz:Ct:=⟨Ty.pair ab jf,[none,some 3],aU,ah.one (some 2),none,none,kP⟩
def ZD:Ct:=⟨Ty.pair az (Ty.pair ab eL),[some 8,none,some 6],aw,ah.one none,none,none,MJ⟩
def Zm:Ct:=⟨Ty.pair az (Ty.pair bO (Ty.pair oR fY)),[some 8,some 4,some 2,none],Ty.pair dF bI,ah.tup [none,none],none,some 213,iz⟩
def XW:Ct:=⟨Ty.pair az (Ty.pair ab eL),[some 8,none,some 6],Ty.pair eL bI,ah.tup [some 6,none],none,none,wo⟩
def KZ:Ct:=⟨bO,[some 4],gw,ah.one none,some VG,some 335,aah⟩
def Zu:Ct:=⟨Ty.pair bO (Ty.pair ab ab),[some 4,none,none],Ty.pair ab aw,ah.tup [none,none],some Ur,none,eO⟩
def Xh:Ct:=⟨bO,[some 4],aU,ah.one (some 2),none,none,cd⟩
def ZR:Ct:=⟨Ty.pair ab sD,[none,some 3],ab,ah.one none,none,none,wa⟩
def LP:Ct:=⟨Ty.pair az (Ty.pair ab (Ty.pair eL aU)),[some 8,none,some 6,some 2],Ty.pair eL bI,ah.tup [some 6,none],none,none,mq⟩
def K6:Ct:=⟨Ty.pair az (Ty.pair ab (Ty.pair ab eL)),[some 8,none,none,some 6],wj,ah.one (some 3),none,none,Nk⟩
def abK:Ct:=⟨aU,[some 2],ab,ah.one none,none,none,F25⟩
def Xp:LS az.den:=aD Ax (Ty.pair ab az) [] [(1,3)] [(4,none)] [(3,8)] [(8,100508,true,106)] [] [(1,1),(3,3)] 0 false K5 vH zU
def eM(z:List (Nat×List Nat)):=dB (PV true) Q5 cY SQ z
theorem aqz:bu f7 Ny [0] Xp:=have E:=ai @K5.eq_1<|ai @zU.eq_1<|ai @vH.eq_1<|ai @Kh.eq_1 SN;lA (eM []) [] l0 (λk x fk fx h=>sm (letI a:=x.2.2.2.2.2.2.2.2;letI b:=aa a x.1;letI c:=(a.length:Int);decide (x.1<c)=true->(((4:Int)≠0)/\(((5:Int)≠0)/\(0<=x.1/\x.1<c)/\0<=x.1/\x.1<((aH fX a x.1 (b.1,b.2.1,i64.wrap (1+i64.wrap (Int.tmod k.2.2 4)),b.2.2.2)).length)))))
theorem ok7:an 7 Ny:=ao (eM []) func7 [(5,Xp)] (lc aqz l0) (sp λx fx h=>sl (letI a:=tG (x.1,x.2.1);letI b:=(3:Int)≠0;Y9 (x.1,x.2.1)/\b/\b/\K5 x (0,a.1,i64.wrap 1+i64.wrap (Int.tmod x.2.2 3),i64.wrap (i64.wrap (i64.wrap 18*a.2.2.2.2.2.2.2.length+24)+i64.wrap 6*i64.wrap (u8.wrap (Int.tdiv x.2.2 3))),a.2.2.2)) (by
 try dsimp only[Ty.den]at*
 have hz:=akS (x:=(x.1,x.2.1)) ⟨h.1,h.2.1⟩;refine⟨⟨h.1,h.2.1⟩,by decide,by decide,au8 _,?_⟩;generalize tG (x.1,x.2.1)=b at*;exact hz))
theorem ant:dL 119 Lm:=dU (eM []) func119 [] l0 (sp λx fx h=>sl (letI c:=x.1.1;letI f:=x.2.2.2;letI g:=x.1.2;letI b:=g.2.2.1;letI e:=(x.2,g.1,g.2.1);letI a:=bN e;letI d:=0<=a.1/\a.1<(f.2.length:Int);letI h:=c==4;letI i:=c==5;letI j:=c==6;letI l:=c==1;letI m:=c==2;letI n:=c==3;zt e/\((h=true->(0<=b/\b<(x.2.1.length:Int)))/\(h=false->((i=true->(0<=b/\b<(x.2.2.1.length:Int)))/\(i=false->((j=true->(0<=b/\b<(f.1.length:Int)))/\(j=false->((l=true->((!a.2)=true->JT (f.2,a.1,[(g.1,g.2.1,-1,0,false)])))/\(l=false->((m=true->(a.2=true->Kc (f.2,a.1,i64.wrap (a.1+1))))/\(m=false->((n=true->(a.2=true->d))/\(n=false->((c==7)=true->(a.2=true->d/\0<=a.1/\a.1<((qa x).length)))))))))))))))) (by
 try dsimp only[Ty.den]at*
 obtain⟨h0,h4,h5,h6⟩:=h;have f:=agD (m:=x.2) (f:=x.1.2.1) (d:=x.1.2.2.1) (auv h0 (by decide));have hp:zt (x.2,x.1.2.1,x.1.2.2.1):=auv h0 (by decide);have hi: ∀e,JT (x.2.2.2.2,(bN (x.2,x.1.2.1,x.1.2.2.1)).1,[e]):=λe=>⟨f.1,f.2.1,rfl,auv h0 (by decide)⟩
 have hd:(bN (x.2,x.1.2.1,x.1.2.2.1)).2=true->Kc (x.2.2.2.2,(bN (x.2,x.1.2.1,x.1.2.2.1)).1,i64.wrap ((bN (x.2,x.1.2.1,x.1.2.2.1)).1+1)):=λhf=>⟨f.1,f.2.2 hf,cC f.1 (f.2.2 hf) (auv h0 (by decide)),auv h0 (by decide)⟩
 repeat' (first|exact hp|exact hi _|exact hd (by assumption)|exact h4 (by assumption)|exact h5 (by assumption)|exact h6 (by assumption)|exact f.1|exact f.2.2 (by assumption)|(unfold qa;simp only[aH,auz];exact f.2.2 (by assumption))|apply And.intro|intro _)))
def Kl:LS (Ty.pair fB bI).den:=aD ab (Ty.pair ab fB) [(42,none)] [] [(43,none)] [(9,16)] [(8,100608,true,70),(9,100609,true,142),(10,100610,true,153),(11,100611,true,158),(12,100612,true,3),(13,100613,true,51)] [] [(9,9)] 0 false zm qb zq
def Rr:LS (Ty.pair fB bI).den:=aD (Ty.pair dg (Ty.pair ab az)) (Ty.pair ab fB) [(53,none),(54,none)] [(3,8)] [(55,none)] [(9,16)] [(8,101008,true,70),(9,101009,true,142),(10,101010,true,153),(11,101011,true,158),(12,101012,true,3),(13,101013,true,51)] [] [(3,3),(9,9)] 2 false TJ IY Tv
theorem Uf(k:ab.den)(x:(Ty.pair ab fB).den)(fk:Fit ab k)(h:zm k x):aJ false zm zq k x (qb k x):=by
 try dsimp only[Ty.den]at*
 obtain⟨h0,h1,h2,hx⟩:=h;unfold qb;refine aJ.cnd (λhc=> ?_) (λ_=>rfl);rw[adv]at hc;rw[sL h0 hc (aw2 h2 (by decide))];exact⟨rfl,⟨cH h0,AN h1,h2,hx⟩,cI hc⟩
theorem alB:bu f52 FB [0] Kl:=lA (eM []) [] l0 (λk x fk fx h=>sl (letI a:=Int×Int×Int×List (ax)×iu;letI b:=(x.2.2.2.2.1:List a);letI c:=([qI ()]:List a);decide (x.1<k)=true->(List.length b+List.length c)*64<=140737488355328/\List.length b+List.length c<=4611686018427387903) (by
 try dsimp only[Ty.den]at*
 obtain⟨h0,h1,h2,_⟩:=h;intro hc;rw[adv]at hc;exact JN h1 hc (aw2 h2 (by decide)))) Uf
theorem aiU:bu f52 FB [1] Rr:=lA (eM []) [(6,Kl)] l0 (λk x fk fx h=>sl (letI a:=(x.2.2.2.2.2.2.2.1:List Int);letI b:=aa k.1 x.1;letI e:=([0]:List Int);letI f:=b.2.2.1;letI d:=decide (f>=0);letI g:=k.2.2.2.2.2.2.2.2.2;letI c:=([(aa g f).1]:List Int);decide (x.1<k.2.1)=true->(0<=x.1/\x.1<k.1.length)/\(d=true->(0<=f/\f<g.length)/\(List.length a+List.length c)*8<=140737488355328/\List.length a+List.length c<=4611686018427387903)/\(d=false->(List.length a+List.length e)*8<=140737488355328/\List.length a+List.length e<=4611686018427387903)) (by
 try dsimp only[Ty.den]at*
 obtain⟨h0,h1,h2,h3,h4⟩:=h;intro hc;rw[adv]at hc;have r:=gR h0 (h1▸hc);exact⟨r,λhq=>⟨⟨by rw[adv]at hq;exact hq,(h4 _ r.1 r.2).2⟩,JN h2 hc h3⟩,λ_=>JN h2 hc h3⟩)) λk x fk h=>by
 try dsimp only[Ty.den]at*
 obtain⟨h0,h1,h2,h3,h4⟩:=h;unfold IY;refine aJ.cnd (λhc=> ?_) (λ_=>rfl);rw[adv]at hc;rw[sL h0 hc h3];exact aJ.cnd (λ_=>⟨rfl,⟨cH h0,h1,AN h2,h3,h4⟩,cI hc⟩) (λ_=>⟨rfl,⟨cH h0,h1,AN h2,h3,h4⟩,cI hc⟩)
theorem asx:an 52 FB:=ao (eM []) func52 [(6,Kl),(10,Rr)] (lc alB (lc aiU l0)) (sp λx fx h=>sl (letI a:=(x.1.2.2.2.2.2.2.2.length:Int);letI b:=0<=a/\a=a/\a*8<=140737488355328/\a<=4611686018427387903;letI c:=x.2.1;((!(pj (x.1,c)))||(!(eA (x.1.2.2.1,x.2.2))))=false->(UJ c/\((0<=a/\a=a/\a*296<=140737488355328/\a<=4611686018427387903)/\(0<=a/\a=a/\a*112<=140737488355328/\a<=4611686018427387903)/\b/\b/\zm a (0,wv c,x.2.2,aE du a,[],aE iM a,aE jw a,[],aE aU a,0,0,0)/\TJ (c.2.2.2,c.2.2.2.length,x.1) (0,(zB x).2)))) (by
 try dsimp only[Ty.den]at*
 have h:x.2.1.2.2.2.length<=100000:=h;intro hc;rw[au1,avi]at hc;have hf:=hc.1;unfold pj at hf;rw[au4]at hf;obtain⟨_,h1,h2,h3,h4⟩:=Bq (x:=(x.1,x.2.1)) fx.1.2.2.2.2.2.2.2.1 (by rw[hf.1];rfl);have he:=ahx (x:=(x.1,x.2.1)) fx.1.2.2.2.2.2.2.2.1 (auv h (by decide)) hf.1;have h5:x.2.1.1.length<=100000:=auv (ax4 h1) (auv h4 (by decide));have h6:x.2.1.2.1.length<=100000:=auv (ax4 h2) (auv h4 (by decide));have h7:x.2.1.2.2.1.length<=100000:=auv (ax4 h3) (auv h4 (by decide));have hin:zm ((x.1.2.2.2.2.2.2.2).length:Int) ((0:Int),(wv x.2.1),x.2.2,(aE du ((x.1.2.2.2.2.2.2.2).length:Int)),[],(aE iM ((x.1.2.2.2.2.2.2.2).length:Int)),(aE jw ((x.1.2.2.2.2.2.2.2).length:Int)),[],(aE aU ((x.1.2.2.2.2.2.2.2).length:Int)),(0:Int),(0:Int),(0:Int)):=⟨au8 _,rfl,ot h4,rfl⟩;have hI:=λn=>oe (λy hy=>Uf ((x.1.2.2.2.2.2.2.2).length:Int) y trivial hy) (λy k' z hz=>by
  unfold qb at hz;revert hz
  unfold cond;split<;>intro hz<;>cases hz;rfl) n _ hin
 have hK:(zB x).2.2.2.2.2.2.2.1= []:=(hI _).2.2.2;refine⟨⟨h5,h6,h7,h⟩,nt h4 296 ⟨by decide,by decide⟩,nt h4 112 ⟨by decide,by decide⟩,nt h4 8 ⟨by decide,by decide⟩,nt h4 8 ⟨by decide,by decide⟩,hin,au8 _,rfl,?_,ot h,he⟩;show(((zB x).2.2.2.2.2.2.2.1.length:Nat):Int)=0;rw[hK];rfl))
theorem aqk:an 103 YE:=ao (eM []) func103 [] l0 (sp λx fx h=>sl (UO x) (by
 exact h))
def Ul:LS (Ty.pair aw Ty.unit).den:=aD (Ty.pair qp (Ty.pair ab az)) ab [(13,none),(14,none)] [(3000,8)] [(15,none)] [] [] [] [] 0 true DA yL DW [(2,57,[3000])]
theorem amG:gW f56 Fy [0] Ul:=have E:=ai @DA.eq_1<|ai @DW.eq_1<|ai @yL.eq_1 SN;lV (eM []) [] l0 (λk x fk fx h=>sm (decide (x<k.2.1)=true->0<=x/\x<k.1.length))
theorem asK:dL 56 Fy:=have E:=ai @DA.eq_1 SN;dU (eM []) func56 [(4,Ul)] (lc amG l0) (λx fx _=>sl (letI a:=x.1.length;(a !=x.2.1)=false->DA (x.1,a,x.2.2) 0))
theorem atx:jM 60 adx:=qQ (eM []) func60 [] l0 (λ_ _ _=>tr)
theorem ass:an 64 adu:=ao (eM []) func64 [] l0 (λx fx _=>sf (letI e:=x.2.2;letI c:=(e.1.1==0)&&((e.1.2.1==0)&&((e.1.2.2.1==0)&&((e.1.2.2.2.1==false)&&(e.1.2.2.2.2==0))));letI d:=(e.2.1.1==0)&&((e.2.1.2.1==0)&&(e.2.1.2.2==0));letI b:=((((!(FO x.2.1))||(!(Fi e.1)))||(!(AI (x.1.1,e.2.1))))||((!c)&&(!d)));letI f:=e.2.2.2;letI a:=((bZ x.1 !=0)||(f.2.2&&(!(((x.2.1.1==0)&&(x.2.1.2==0))&&(c&&(d&&(e.2.2.1==0&&(f.1==0&&(f.2.1==0&&f.2.2==true)))))))));(a=true->True)/\(a=false->(b=true->True)/\(b=false->0<=x.1.1/\True))) (by
 try dsimp only[Ty.den]at*
 refine⟨λ_=>trivial,λhc=> ?_⟩;have hv:=hc;simp only[au1,avc]at hv;have hb:=oj (H9 fx.1) hv.1;have hfl:=hb.fl;repeat' (first|exact trivial|apply And.intro|intro _)
 all_goals omega))
theorem anu:an 169 Y5:=ao (eM []) func169 [] l0 (λ_ _ _=>tr)
theorem aqA:an 208 XO:=ao (eM []) func208 [] l0 (λx fx _=>sl (letI a:=x.1.2.2.2.2.2.2.2;(!fC x)=false->(0<=x.2.1/\x.2.1<a.length)/\DF (x.2.2.2.2.2.1,(aa a x.2.1).1,0,0)) (by
 try dsimp only[Ty.den]at*
 intro hc;rw[avi]at hc;have hb:=(xp fx.1.2.2.2.2.2.2.2.1 fx.2.2.2.2.2.1.1).1 hc;exact⟨hb.eU,auv hb.len (by decide)⟩))
theorem as1:an 16 ab5:=have E:=ai @EI.eq_1<|ai @EK.eq_1 SN;ao (eM []) func16 [] l0 (sp λx fx h=>sl (EK (x.1,x.2.1)))
theorem asO:an 15 aaz:=have E:=SN;ao (eM []) func15 [] l0 (λx fx _=>sl (letI b:=x.2.1;letI a:=x.2.2.1==1&&b<i64.wrap (x.1-1);(!mK x||x.2.2.2 !=1||b<0)=false->(a=true->0<=b)/\(a=false->(x.2.2.1==2&&b>0)=true->0<=b)))
theorem apm:an 251 ZD:=ao (eM []) func251 [] l0 (λx fx _=>sl ((fC x&&(x.2.2.2.2.2.1.length:Int)==0&&x.2.2.2.2.1==2)=true->0<=x.2.1/\x.2.1<x.1.2.2.2.2.2.2.2.length) (by
 try dsimp only[Ty.den]at*
 intro hc;rw[au4,au4]at hc;obtain⟨_,h1,h2⟩:=Oa fx.1.2.2.2.2.2.2.2.1 hc.1.1;exact⟨h1,h2⟩))
theorem apD:an 214 Zm:=ao (eM []) func214 [] l0 (λx fx _=>sl (letI a:=x.2.2.1;letI b:=(x.1.2.2.2.2.2.2.2.length:Int);letI c:=(x.2.2.2.length:Int);((!(cL (x.1,x.2.1)))||c !=b)=false->(a.1<0||a.1>8)=false->(a.2<0||a.2>=b)=false->(a.1==0)=false->(0<=a.2/\a.2<c)/\Kq ((x.2.1,a.2,aa x.2.2.2 a.2),a.1)) (by
 try dsimp only[Ty.den]at*
 intro h1 _ h3 _;rw[au1,avc]at h1;rw[au1,au0,au0]at h3;obtain⟨_,i1,i2,i3,_⟩:=Bq fx.1.2.2.2.2.2.2.2.1 h1.1;exact ak7 i1 i2 i3 h1.2 h3.1 h3.2))
theorem arv:an 217 XW:=ao (eM []) func217 [] l0 (λ_ _ _=>tr)
def RW:LS gw.den:=aD (Ty.pair ab bO) (Ty.pair gw ab) [(10,none)] [(1,4)] [(3,none),(11,none)] [] [(0,100300,true,335)] [] [(1,1)] 0 false Jw ID JC
theorem aj1:bu f230 KZ [0] RW:=have E:=ai @Jw.eq_1<|ai @JC.eq_1<|ai @ID.eq_1 SN;lA (eM []) [] l0 (λk x fk fx h=>sm (decide (x.2<k.1)=true->0<=x.2/\x.2<x.1.length))
theorem aqm:an 230 KZ:=ao (eM []) func230 [(3,RW)] (lc aj1 l0) (sp λx fx h=>sl (letI a:=(x.1.length:Int);(0<=a/\a=a/\a*56<=140737488355328/\a<=4611686018427387903)/\Jw (((aE eR a).length),x) (aE eR a,0)) (by
 try dsimp only[Ty.den]at*
 have h:x.1.length<=8:=h;exact⟨nt h 56 ⟨by decide,by decide⟩,au8 _,rfl,aom h⟩))
theorem aqD:an 258 Zu:=ao (eM []) func258 [] l0 (sp λx fx h=>sl (letI c:=x.1.2.2.2;letI a:=pb (c,x.2);letI b:=c.length;decide (a.1<0)=false->(0<=a.1/\a.1<b)/\(((aa c a.1).1==x.2.1)=true->0<=a.1/\a.1<b)) (by
 try dsimp only[Ty.den]at*
 intro hc;rw[au0]at hc;have r:=amw (akg (c:=x.2) h) hc;exact⟨r,λ_=>r⟩))
theorem apT:an 181 Xh:=ao (eM []) func181 [] l0 (λ_ _ _=>tr)
theorem am1:an 290 ZR:=ao (eM []) func290 [] l0 (λx fx _=>sf (((!nK x.1)=true->True)/\((!nK x.1)=false->vz x/\oC (kd x).1/\D7 (kd x).2/\True)) (by
 try dsimp only[Ty.den]at*
 simp only[D7,oC,vz,nK,kd,dG,au1,avi,au4,adv,au0]at*;repeat' (first|exact trivial|apply And.intro|intro _)
 all_goals first|omega|exact W.lo (sv _)|exact W.hi (sv _)|(simp only[avl,avo];omega)))
def R0:LS (Ty.pair eL bI).den:=aD (Ty.pair dg ab) (Ty.pair ab eL) [(36,none),(37,none)] [] [(38,none)] [(6,6)] [(4,100704,true,191)] [] [(6,6)] 0 false Sd uk CM
theorem ai6:bu f182 LP [0] R0:=lA (eM []) [] l0 (λk x fk fx h=>sl (letI b:=((aa k.1 x.1).1,(aa k.1 x.1).2.1,0);letI a:=(x.2.2.2.2.1,b,some 107);decide (x.1<k.2)=true->(0<=x.1/\x.1<k.1.length)/\U7 a/\((!(lF a).2)=true->UP (x.2.2.2.2.1,(lF a).1,[b]))) (by
 try dsimp only[Ty.den]at*
 obtain⟨h0,h1,h2,h3⟩:=h;intro hc;rw[adv]at hc;have r:=gR h0 (h1▸hc);have hd:=at0 hc h2 h3;have f:=af0 (l:=x.2.2.2.2.1) (y:=((aa k.1 x.1).1,(aa k.1 x.1).2.1,(0:Int))) (auv hd (by decide));exact⟨r,⟨auv hd (by decide),rfl⟩,λ_=>⟨f.1,f.2,rfl,auv hd (by decide)⟩⟩)) λk x fk h=>by
 try dsimp only[Ty.den]at*
 obtain⟨h0,h1,h2,h3⟩:=h;unfold uk;refine aJ.cnd (λhc=> ?_) (λ_=>rfl);rw[adv]at hc;have e:=sL h0 hc (aw2 h2 (by decide));rw[e];refine aJ.cnd (λ_=>⟨rfl,⟨cH h0,h1,h2,?_⟩,cI hc⟩) (λ_=>⟨rfl,⟨cH h0,h1,h2,atu h3⟩,cI hc⟩);exact atc (Jm _ _ _ rfl) h3
theorem ars:an 182 LP:=ao (eM []) func182 [(7,R0)] (lc ai6 l0) (λx fx _=>sl (letI b:=x.2.2.1;letI a:=(b.2.2.2.1.length:Int);letI c:=mz (dG (x.2.2.2,dS x.1));(!fC (x.1,x.2.1,b))=false->(0<=a/\a=a/\a*24<=140737488355328/\a<=4611686018427387903)/\Sd (c,c.length) (0,b.1,b.2.1,b.2.2.1,aP (aE gx a) b.2.2.2.1,b.2.2.2.2)) (by
 try dsimp only[Ty.den]at*
 intro hc;rw[avi]at hc;have hb:=(xp fx.1.2.2.2.2.2.2.2.1 fx.2.2.1.2.2.2.1.1).1 hc;have h:x.2.2.1.2.2.2.1.length<=1000:=auv hb.len (by decide);have hl:=xJ (dG (x.2.2.2,dS x.1));exact⟨amB h,au8 _,rfl,ot hl,asu h⟩))
def RR:LS wj.den:=aD (Ty.pair ab (Ty.pair fW (Ty.pair ab az))) (Ty.pair ab wj) [(1,none),(24,none),(25,none)] [(4,8)] [(26,none)] [(9,3)] [] [] [(4,4),(9,9)] 0 false IP I7 IC
theorem ajz:bu f184 K6 [0] RR:=have E:=ai @IP.eq_1<|ai @IC.eq_1<|ai @I7.eq_1 SN;lA (eM []) [] l0 (λk x fk fx h=>sm (decide (x.1<k.2.2.1)=true->(0<=x.1/\x.1<k.2.1.length)/\0<=k.1/\k.1<k.2.2.2.2.2.2.2.2.2.2.length))
theorem am2:an 184 K6:=ao (eM []) func184 [(5,RR)] (lc ajz l0) (λx fx _=>sl (letI a:=x.2.2.2.2.2.2.1;(!M3 x.2.2.1|| !fC (x.1,x.2.1,x.2.2.2))=false->IP (x.2.1,a,a.length,x.1) (0,(0,0),false)) (by
 try dsimp only[Ty.den]at*
 intro hc;rw[au1,avi,avi]at hc;obtain⟨_,h1,h2⟩:=Oa fx.1.2.2.2.2.2.2.2.1 hc.2;exact⟨au8 _,rfl,h1,h2⟩))
theorem as3:an 25 abK:=ao (eM []) func25 [] l0 (λ_ _ _=>tr)
def aaA(nw:Bool):=(119,.pv Lm)::(56,.pv Fy)::abw nw
theorem Qk(nw:Bool):ga (aaA nw):=zc (z:= .pv Lm) ant func119 (zc (z:= .pv Fy) asK func56 ((PV nw)))
def abX:List (Nat×Cp):=(60,adx)::aaO
theorem Qu:ic abX:=pc atx func60 (Q5)
def adi:=(7,Ny)::(52,FB)::(103,YE)::(64,adu)::(169,Y5)::(208,XO)::(16,ab5)::(15,aaz)::(251,ZD)::(214,Zm)::(217,XW)::(230,KZ)::(258,Zu)::(181,Xh)::(290,ZR)::(182,LP)::(184,K6)::(25,abK)::acd
theorem R5:cr adi:=gc ok7 func7 (gc asx func52 (gc aqk func103 (gc ass func64 (gc anu func169 (gc aqA func208 (gc as1 func16 (gc asO func15 (gc apm func251 (gc apD func214 (gc arv func217 (gc aqm func230 (gc aqD func258 (gc apT func181 (gc am1 func290 (gc ars func182 (gc am2 func184 (gc as3 func25 (SQ))))))))))))))))))
def dh(b:ae)(r:aT):Prop:=
 ((r.1=1\/r.1=2)/\da b.1 r.2.1 r.2.2.1/\r.2.2.2.1=0/\r.2.2.2.2=0)\/(r.1=3/\da b.1 r.2.1 r.2.2.1/\ -2<=r.2.2.2.1/\r.2.2.2.1<=b.2.2.2.2.2.2.2.length-1/\r.2.2.2.2=0)\/
 (r.1=7/\da b.1 r.2.1 r.2.2.1/\0<=r.2.2.2.1/\r.2.2.2.1<=1/\0<=r.2.2.2.2/\r.2.2.2.2<=255)\/
 (r.1=4/\r.2.1=0/\r.2.2.1=0/\0<=r.2.2.2.1/\r.2.2.2.1<=b.2.2.2.2.2.2.2.length-1/\0<=r.2.2.2.2/\r.2.2.2.2<=4)\/
 ((r.1=5\/r.1=6)/\r.2.1=0/\r.2.2.1=0/\0<=r.2.2.2.1/\r.2.2.2.1<=b.2.2.2.2.2.2.2.length-1/\0<=r.2.2.2.2/\r.2.2.2.2<=1)
theorem aef(a b c:Int):oO (a,b,c)=true↔b<=a/\a<=c:=by
 simp_all [oO]
theorem uq{b:ae}(hl:b.2.2.2.2.2.2.2.length<=maxLen)(r:aT):jc (b,r)=true↔aR b/\dh b r:=by
 have g:bZ b=0↔aR b:=by rw[kZ b hl,jP]
 by_cases a:aR b
 ·have m:b.2.2.2.2.2.2.2.length<=8:=a.cn.2
  have hw:i64.wrap (b.2.2.2.2.2.2.2.length-1)=b.2.2.2.2.2.2.2.length-1:=aB (by omega) (by omega);have i:=λf d=>Be hl f d
  obtain⟨k,f,d,c,v⟩:=r;have l:k=1\/k=2\/k=3\/k=4\/k=5\/k=6\/k=7\/(k≠1/\k≠2/\k≠3/\k≠4/\k≠5/\k≠6/\k≠7):=by omega
  unfold jc dh;simp only[g.2 a,hw];rcases l with rfl|rfl|rfl|rfl|rfl|rfl|rfl|⟨h1,h2,h3,h4,h5,h6,h7⟩
  all_goals(try simp only[axh,auw,ay1,au3,show((2:Int)==1)=false from rfl,show((3:Int)==1)=false from rfl,show((3:Int)==2)=false from rfl,show((4:Int)==1)=false from rfl,show((4:Int)==2)=false from rfl,show((4:Int)==3)=false from rfl,show((4:Int)==7)=false from rfl,show((5:Int)==1)=false from rfl,show((5:Int)==2)=false from rfl,show((5:Int)==3)=false from rfl,show((5:Int)==7)=false from rfl,show((5:Int)==4)=false from rfl,show((6:Int)==1)=false from rfl,show((6:Int)==2)=false from rfl,show((6:Int)==3)=false from rfl,show((6:Int)==7)=false from rfl,show((6:Int)==4)=false from rfl,show((6:Int)==5)=false from rfl,show((7:Int)==1)=false from rfl,show((7:Int)==2)=false from rfl,show((7:Int)==3)=false from rfl,au4,aw0,i,aef,a,ay7])
  case inr.inr.inr.inr.inr.inr.inr=>
   have e:=λj h=>(beq_eq_false_iff_ne.2 h:(k==j)=false)
   simp[h1,h2,h3,h4,h5,h6,h7]
  all_goals simp[aBv]
 ·constructor
  ·intro h
   unfold jc at h;have:(bZ b !=0)=true:=by rw[axp];exact λh2=>a (g.1 h2)
   simp only[this,au3]at h;cases h
  ·exact λh=>absurd h.1 a
theorem dh.eU{b:ae}{r:aT}(h:dh b r){k:Int}(a:(r.1==k)=true)(f:k=4\/k=5\/k=6):0<=r.2.2.2.1/\r.2.2.2.1<b.2.2.2.2.2.2.2.length:=by
 rw[aw0]at a;rcases h with⟨h,_⟩|⟨h,_⟩|⟨h,_⟩|⟨_,_,_,h1,h2,_⟩|⟨_,_,_,h1,h2,_⟩
 all_goals omega
theorem dh.ch{b:ae}{r:aT}{m:aq}(h:dh b r)(hm:bk b m):Mm (r,m):=by
 have hl:=hm.len;refine⟨auv hl (by decide),λa=> ?_,λa=> ?_,λa=> ?_⟩
 ·exact hm.l1▸h.eU a (.inl rfl)
 ·exact hm.l2▸h.eU a (.inr (.inl rfl))
 ·exact hm.l3▸h.eU a (.inr (.inr rfl))
theorem bk.clone{b:ae}{m:aq}(h:bk b m):m.1.length<=100000/\m.2.1.length<=100000/\m.2.2.1.length<=100000/\m.2.2.2.length<=100000:=by
 have a:b.2.2.2.2.2.2.2.length<=8:=h.bG.cn.2;have:=h.len;rw[h.l1,h.l2,h.l3];omega
theorem G4(r:aT)(m:aq):(ej (r,m)).2.1.length=m.1.length/\(ej (r,m)).2.2.1.length=m.2.1.length/\(ej (r,m)).2.2.2.1.length=m.2.2.1.length/\(ej (r,m)).2.2.2.2.length<=m.2.2.2.length+1:=by
 unfold ej;all_goals grind [aH,FJ,FF,iR,jK,yU,qa,qg]
def wh(n:Nat)(r:aT):Prop:=((r.1==4)=true->0<=r.2.2.2.1/\r.2.2.2.1<n)/\((r.1==5)=true->0<=r.2.2.2.1/\r.2.2.2.1<n)/\((r.1==6)=true->0<=r.2.2.2.1/\r.2.2.2.1<n)
theorem dh.rc{b:ae}{r:aT}(h:dh b r):wh b.2.2.2.2.2.2.2.length r:=⟨λa=>h.eU a (.inl rfl),λa=>h.eU a (.inr (.inl rfl)),λa=>h.eU a (.inr (.inr rfl))⟩
theorem adL(x:ae×ByteArray)(h:(sP x).2=0):jc (x.1,(sP x).1)=true:=by
 grind [sP,T4]
theorem aex{b:ae}{s:ByteArray}: ∀r∈(gA (b,s)).1,jc (b,r)=true:=by
 unfold gA;have g:=ir (step:=m1) (k:=(s,b)) (I:=λy=> ∀r∈y.1,jc (b,r)=true) (λy k' z f a=>by
  unfold m1 at a;revert a
  cases decide (i64.wrap (y.2+6)<=(((s,b).1).size:Int))with
  |false=>rw[auw];intro a;cases a
  |true=>
   rw[au3];cases hq:((sP ((s,b).2,ByteArray.extract (s,b).1 (Int.toNat y.2) (Int.toNat (i64.wrap (y.2+6))))).2 !=0)with
   |true=>rw[au3];intro a;cases a
   |false=>
    rw[auw];intro a;cases a;rw[avc]at hq;intro r hr;rw[awv,awl]at hr;rcases hr with hr|rfl
    ·exact f r hr
    ·exact adL (b,ByteArray.extract s (Int.toNat y.2) (Int.toNat (i64.wrap (y.2+6)))) hq) (λy k' z f a=>by
  unfold m1 at a;revert a
  simp only[cond];repeat' split
  all_goals(intro a;first|(cases a;done)|(cases a;exact f))) (Nat.succ (uS (s,b) ([],0))) ([],0) (λr hr=>by cases hr)
 exact g
theorem agQ{b:ae}{s:ByteArray}(hs:s.size<=1000000000):6*(gA (b,s)).1.length<=s.size:=by
 have h:=ir (step:=m1) (k:=(s,b)) (I:=λy=>6*y.1.length=y.2/\0<=y.2/\y.2<=s.size) (λy k' z g a=>by
  unfold m1 at a;revert a
  have e:i64.wrap (y.2+6)=y.2+6:=aB (by omega) (by omega);rw[e];by_cases f:y.2+6<=(((s,b).1).size:Int)
  ·simp only[f,avz]
   simp only[cond];split
   ·intro a;cases a
   ·intro a
    cases a;refine⟨?_,by omega,f⟩;rw[au5,aAe];omega
  ·simp only[f,auw]
   intro a;cases a) (λy k' z g a=>by
  unfold m1 at a;revert a
  simp only[cond];repeat' split
  all_goals(intro a;first|(cases a;done)|(cases a;exact g))) (Nat.succ (uS (s,b) ([],0))) ([],0) ⟨rfl,au8 _,au9 _⟩
 show 6*(endOf m1 (s,b) (Nat.succ (uS (s,b) ([],0))) ([],0)).1.length<=s.size;omega
theorem TN{b:ae}{s:ByteArray}(hl:b.2.2.2.2.2.2.2.length<=maxLen)(hs:s.size<=500000):
  (gA (b,s)).1.length<=90000/\(fZ b).1.2.1.length=(fZ b).1.1.length/\(fZ b).1.2.2.1.length=(fZ b).1.1.length/\(((fZ b).1.2.2.2.length:Nat):Int)<=0/\ ∀r∈(gA (b,s)).1,wh (fZ b).1.1.length r:=by
 have f:=agQ (b:=b) (s:=s) (by omega);have hi:(fZ b).1.2.1.length=(fZ b).1.1.length/\(fZ b).1.2.2.1.length=(fZ b).1.1.length/\(((fZ b).1.2.2.2.length:Nat):Int)<=0/\(aR b->(fZ b).1.1.length=b.2.2.2.2.2.2.2.length):=by
  unfold fZ;cases hc:(bZ b !=0)with
  |true=>
   simp_all [kZ,jP]
  |false=>simp_all [aE]
 refine⟨by omega,hi.1,hi.2.1,hi.2.2.1,λr hr=> ?_⟩;obtain⟨a,hr⟩:=(uq hl r).1 (aex r hr);rw[hi.2.2.2 a];exact hr.rc
theorem QO{s:dr}{n:Nat}(h1:s.1.1.size<=n)(h2:s.1.2.size<=n):(fc s).size<=n:=by
 grind [fc]
theorem wh.ch{r:aT}{m:aq}{n:Int}(h:wh m.1.length r)(h1:m.2.1.length=m.1.length)(h2:m.2.2.1.length=m.1.length)(h3:m.2.2.2.length<=n)(f:n<=90000):Mm (r,m):=
 ⟨by grind,h.1,λa=>h1.symm▸h.2.1 a,λa=>h2.symm▸h.2.2 a⟩
def jh(c:eT):Prop:=0<=c.1/\c.1<=4294967295
theorem aiP(x:Int):0<=u32.wrap x/\u32.wrap x<=4294967295:=by grind [IntKind.wrap_u32]
theorem ai2{c:eT}(h:jh c)(i:Int)(a:Bool):jh (oM (c,i,a)):=by
 unfold oM;simp only[cond];repeat' split
 all_goals first|exact h|exact aiP _
theorem Ps(k:mf)(x:Int×bg): ∃c d a f g i,rO k x=bif decide (x.1<36)then(bif c then ak.next k (i,x.2.1,a)else bif d then ak.next k (i,oM (x.2.1,x.1,gK (k.2,x.1)),f)else ak.next k (i,x.2.1,g))else ak.brk k x:=⟨_,_,_,_,_,_,rfl⟩
theorem Io{s:bg}(h:jh s.1){n:Int}(c:eT):jh (kO (n,s,c)).1.1:=by
 have hs:jh (we (n,s,c)).1:=by
  unfold we;have g:=ir (step:=rO) (k:=(n,c)) (I:=λy=>jh y.2.1) (λy k' z f a=>by
   obtain⟨c1,d1,j,l,m,i,e⟩:=Ps (n,c) y;rw[e]at a;revert a
   cases decide (y.1<36)with
   |false=>rw[auw];intro a;cases a
   |true=>
    rw[au3];cases c1 with
    |true=>rw[au3];intro a;cases a;exact f
    |false=>
     rw[auw];cases d1 with
     |true=>rw[au3];intro a;cases a;exact ai2 f _ _
     |false=>rw[auw];intro a;cases a;exact f) (λy k' z f a=>by
   obtain⟨c1,d1,j,l,m,i,e⟩:=Ps (n,c) y;rw[e]at a;revert a
   cases decide (y.1<36)with
   |false=>rw[auw];intro a;cases a;exact f
   |true=>
    rw[au3];cases c1 with
    |true=>rw[au3];intro a;cases a
    |false=>
     rw[auw];cases d1 with
     |true=>rw[au3];intro a;cases a
     |false=>rw[auw];intro a;cases a) (Nat.succ (uT (n,c) ((0:Int),s))) ((0:Int),s) h
  exact g
 unfold kO;cases(!(lN ((n,s,c).1,(n,s,c).2.1)))with
 |true=>exact⟨au8 0,(by decide:(0:Int)<=4294967295)⟩
 |false=>exact hs
structure cD (t:au):Prop where
 n8:t.1.2.2.2.2.2.2.2.length<=8
 cf: ∀d∈t.2.1.2.2.1,jh d.1
 c1:t.2.1.2.2.1.length=t.1.2.2.2.2.2.2.2.length
 c2:t.2.1.2.2.2.1.length=t.1.2.2.2.2.2.2.2.length
 c3:t.2.1.2.2.2.2.1.length=t.1.2.2.2.2.2.2.2.length
 c4:t.2.1.2.2.2.2.2.1.length=t.1.2.2.2.2.2.2.2.length
 c5:t.2.2.2.2.2.2.1.length=t.1.2.2.2.2.2.2.2.length
 c6:t.2.2.2.2.2.2.2.1.length=t.1.2.2.2.2.2.2.2.length
 c7:t.2.2.2.2.2.2.2.2.1.length=t.1.2.2.2.2.2.2.2.length
 c8:t.2.2.2.2.2.2.2.2.2.2.2.2.2.2.length=t.1.2.2.2.2.2.2.2.length
 p1:t.2.1.1.1.length=t.1.2.2.2.2.2.2.2.length
 p2:t.2.1.1.2.1.length=t.1.2.2.2.2.2.2.2.length
 p3:t.2.1.1.2.2.1.length=t.1.2.2.2.2.2.2.2.length
 ph: ∀p∈t.2.1.1.1,p=0
 bf:t.2.2.2.1=true->t.2.2.1.2.2.length=t.1.2.2.2.2.2.2.2.length
 cmd:t.2.2.2.1=true->t.2.2.1.2.1.1=0\/t.2.2.1.2.1.1=8
 iU:t.2.2.2.1=true->0<=t.2.2.1.2.1.2/\t.2.2.1.2.1.2<(t.1.2.2.2.2.2.2.2.length:Int)
theorem at4{x n:Int}{m:Nat}(h1:n=m)(h2:m<=90000)(a:x<n):x<=90000:=by omega
theorem abJ{a b:Nat}{x:Int}(h:a<=b+1)(h2:b<=x):a<=x+1:=by omega
theorem df{x:Int}{n m:Nat}(r:0<=x/\x<n)(h:m=n):0<=x/\x<m:=h▸r
theorem aeQ{p:Int}(h:p=0)(a:qq p=true):False:=by subst h;exact absurd a (by decide)
theorem ff{e:Ty}(n:Nat):(aE e n).length=n:=by simp[aE]
theorem lR{n m:Nat}(h:n=m)(a:m<=8):n<=8:=by omega
def AJ(i j:Int):Int:=i64.wrap (Int.fdiv (u64.wrap (i64.wrap (i+j))) (2^(min ((1:Int)).toNat u64.bits)))
theorem J0{α:Type} [Inhabited α]{k:α->Int}{l:List α}(h:fN k l){p q:Nat}(f:p<=q)(a:q<l.length):k (aa l p)<=k (aa l q):=by
 rw[cc l p (by omega),cc l q a];rcases axd p q with h1|h1
 ·exact aBn (List.pairwise_iff_getElem.1 h p q (by omega) a h1)
 grind
theorem bsearch{α K ρ:Type} [Inhabited α]{st:K->af->ak K (af) ρ}{k:K}{l:List α}{key:α->Int}{t:Int}{less:α->Bool}(hl:l.length<=1000000)(hs:fN key l)
  (h: ∀i j:Int,st k (i,j)=bif decide (i<j)then(bif less (aa l (AJ i j))then .next k (i64.wrap (AJ i j+1),j)else .next k (i,AJ i j))else .brk k (i,j))
  (f: ∀q:Nat,q<l.length->(less (aa l q)=true↔key (aa l q)<t)):
  ∀(n i j:Nat),i<=j->j<=l.length->j-i<n->(∀q:Nat,q<i->key (aa l q)<t)->(∀q:Nat,j<=q->q<l.length->t<=key (aa l q))->
   ∃a:Nat,a<=l.length/\(endOf st k n (i,j)).1=a/\(∀q:Nat,q<a->key (aa l q)<t)/\(∀q:Nat,a<=q->q<l.length->t<=key (aa l q))
 |0,i,j,_,_,u,_,_=>by omega
 |n+1,i,j,y,w,u,h1,h2=>by
  simp only[endOf];rw[h];by_cases o:i<(j:Int)
  ·have hm:AJ i j=(((i+j)/2:Nat):Int):=by
    unfold AJ;rw[yK (by omega) (by omega) (by omega)];omega
   have g:(i+j)/2<l.length:=by omega
   rw[ax1 o,au3,hm];cases hb:less (aa l (((i+j)/2:Nat):Int))with
   |true=>
    rw[au3,aB (by omega) (by omega)];have m:=(f _ g).1 hb;exact bsearch hl hs h f n ((i+j)/2+1) j (by omega) w (by omega) (λq s=>Int.lt_of_le_of_lt (J0 hs (by omega) g) m) h2
   |false=>
    have m:t<=key (aa l (((i+j)/2:Nat):Int)):=by
     have:=mt (f _ g).2 (by rw[hb];exact Bool.false_ne_true);omega
    exact bsearch hl hs h f n i ((i+j)/2) (by omega) (by omega) (by omega) h1 (λq s x=>aw2 m (J0 hs s x))
  ·rw[axt o,auw]
   exact⟨i,by omega,rfl,h1,λq g=>h2 q (by omega)⟩
structure wK {α:Type} [Inhabited α] (key:α->Int) (l:List α) (t:Int) (a:Nat):Prop where
 le:a<=l.length
 lt: ∀q:Nat,q<a->key (aa l (q:Int))<t
 ge: ∀q:Nat,a<=q->q<l.length->t<=key (aa l (q:Int))
theorem wK.mem{α:Type} [Inhabited α]{key:α->Int}{l:List α}{t:Int}{a:Nat}(hs:fN key l)(h:wK key l t a):(a<l.length/\key (aa l a)=t)↔ ∃e∈l,key e=t:=by
 constructor
 ·grind [cc]
 ·rintro⟨e,g,i⟩
  obtain⟨q,f,rfl⟩:=awc g;rw[<- cc l q f]at i;have h1:a<=q:=by
   rcases axd q a with h2|h2
   ·have:=h.lt q h2;omega
   ·exact h2
  have:=J0 hs h1 f;have:=h.ge a (au7 _) (by omega);omega
theorem da.dir{fl f d:Int}(h:da fl f d):d=1\/d=2:=by grind [da]
theorem zp{a b c d:Int}(f:c=1\/c=2)(g:d=1\/d=2):ck a c=ck b d↔a=b/\c=d:=by grind [ck]
theorem pQ{b:ae}{m:aq}(hm:bk b m){f d:Int}(h:d=1\/d=2): ∃a:Nat,wK ek m.2.2.2 (ck f d) a/\(bN (m,f,d)).1=(a:Int)/\((bN (m,f,d)).2=true↔a<m.2.2.2.length/\ek (aa m.2.2.2 (a:Int))=ck f d):=by
 have y:=hm.len;have o: ∀q:Nat,q<m.2.2.2.length->(aa m.2.2.2 (q:Int)).2.1=1\/(aa m.2.2.2 (q:Int)).2.1=2:=λq g=>(kz.1 hm.gO q g).1.dir
 obtain⟨a,h1,h2,h3,h4⟩:=bsearch (st:=rL) (k:=(m.2.2.2,some 140,(f,d,(0:Int),(0:Int),false))) (l:=m.2.2.2) (key:=ek) (t:=ck f d) (less:=λe=>decide (F1 140 (e,(f,d,(0:Int),(0:Int),false))<0)) (by omega) hm.fP (λi j=>rfl) (λq g=>by
  rw[adv];exact(nh (o q g) h).1) (Nat.succ (rS (m.2.2.2,some 140,(f,d,(0:Int),(0:Int),false)) ((0:Int),(m.2.2.2.length:Int)))) 0 m.2.2.2.length (by omega) (au7 _) (by simp_all [rS]) (λq g=>by omega) (λq z A=>by omega)
 have u:(Ez (m.2.2.2,some 140,(f,d,(0:Int),(0:Int),false)) ((0:Int),(m.2.2.2.length:Int))).1=(a:Int):=h2;refine⟨a,⟨h1,h3,h4⟩,u,?_⟩;unfold bN FP;simp only;rw[u,au4,adv,aw0];constructor
 ·rintro⟨w,s⟩
  have x:a<m.2.2.2.length:=by omega
  exact⟨x,(nh (o a x) h).2.1 s⟩
 ·rintro⟨w,s⟩
  exact⟨by omega,(nh (o a w) h).2.2 s⟩
theorem P6{b:ae}{m:aq}(hm:bk b m){f d:Int}(h:d=1\/d=2):(bN (m,f,d)).2=true↔ ∃e∈m.2.2.2,e.1=f/\e.2.1=d:=by
 obtain⟨a,h1,_,h3⟩:=pQ hm h;rw[h3,h1.mem hm.fP];constructor
 ·rintro⟨e,g,i⟩;exact⟨e,g,(zp (hm.gO e g).1.dir h).1 i⟩
 ·rintro⟨e,g,i⟩;exact⟨e,g,(zp (hm.gO e g).1.dir h).2 i⟩
theorem Th{α:Type} [Inhabited α]{key:α->Int}{l:List α}{t:Int}{a:Nat}{e:α}(hs:fN key l)(h:wK key l t a)(j:key e=t)(k: ¬ (a<l.length/\key (aa l a)=t)):fN key (jK l a [e]):=by
 unfold jK fN;rw[awt,avn];refine List.pairwise_append.2 ⟨hs.take,?_,λx i y f=> ?_⟩
 ·rw[List.singleton_append]
  refine List.pairwise_cons.2 ⟨λy f=> ?_,hs.drop⟩;obtain⟨q,g,rfl⟩:=awc f;rw[avs]at g;rw[aA9,<- cc l (a+q) (by omega)];have h1:=h.ge (a+q) (by omega) (by omega);rcases aAy q with h2|h2
  ·subst h2
   rw[awp]at h1⊢;omega
  ·have h3:=List.pairwise_iff_getElem.1 hs a (a+q) (by omega) (by omega) (by omega)
   rw[<- cc l a (by omega),<- cc l (a+q) (by omega)]at h3;have:=h.ge a (au7 _) (by omega);omega
 ·have m:key x<t:=by
   obtain⟨q,g,rfl⟩:=awc i;rw[avt]at g;rw[aA7,<- cc l q (by omega)];exact h.lt q (by omega)
  rw[List.singleton_append,av3]at f;rcases f with rfl|f
  ·omega
  ·obtain⟨q,g,rfl⟩:=awc f
   rw[avs]at g;rw[aA9,<- cc l (a+q) (by omega)];have:=h.ge (a+q) (by omega) (by omega);omega
theorem akP{α:Type}{key:α->Int}{l:List α}{i:Int}(hs:fN key l):fN key (iR l i):=by
 unfold iR;refine List.Pairwise.sublist ?_ hs;grind [List.Sublist.append,List.drop_drop,List.drop_sublist,List.take_append_drop]
theorem uA{α:Type}{l:List α}{i:Int}{v:List α}{x:α}:x∈jK l i v↔x∈v\/x∈l:=by
 grind [jK,List.take_append_drop]
theorem TG{α:Type}{l:List α}{i:Int}{x:α}(h:x∈iR l i):x∈l:=by
 grind [iR]
theorem St{α:Type} [Inhabited α]{key:α->Int}{l:List α}{a:Nat}{e:α}(hs:fN key l)(g:a<l.length)(k:key e=key (aa l a)):fN key (l.set a e):=by
 refine List.pairwise_iff_getElem.2 λi j hi f m=> ?_
 rw[auz]at hi f;have h:=List.pairwise_iff_getElem.1 hs i j hi f m;rw[cc l a g]at k;grind
theorem xo{m:aq}{r:aT}(h:r.1=1):(ej (r,m)).2=(m.1,m.2.1,m.2.2.1,bif(bN (m,r.2.1,r.2.2.1)).2 then m.2.2.2 else jK m.2.2.2 (bN (m,r.2.1,r.2.2.1)).1 [(r.2.1,r.2.2.1,-1,0,false)]):=by
 grind [ej,FJ]
theorem xr{m:aq}{r:aT}(h:r.1=2):(ej (r,m)).2=(m.1,m.2.1,m.2.2.1,bif(bN (m,r.2.1,r.2.2.1)).2 then iR m.2.2.2 (bN (m,r.2.1,r.2.2.1)).1 else m.2.2.2):=by
 grind [ej,FF]
theorem Bg{m:aq}{r:aT}(h:r.1=3):(ej (r,m)).2=(m.1,m.2.1,m.2.2.1,bif(bN (m,r.2.1,r.2.2.1)).2 then yU (r,m)else m.2.2.2):=by
 grind [ej]
theorem Bj{m:aq}{r:aT}(h:r.1=7):(ej (r,m)).2=(m.1,m.2.1,m.2.2.1,bif(bN (m,r.2.1,r.2.2.1)).2 then qg (r,m)else m.2.2.2):=by
 grind [ej]
theorem G6{m:aq}{r:aT}(h:r.1=4):(ej (r,m)).2=(aH ab m.1 r.2.2.2.1 r.2.2.2.2,m.2):=by
 simp_all [ej]
theorem Bd{m:aq}{r:aT}(h:r.1=5):(ej (r,m)).2=(m.1,aH aw m.2.1 r.2.2.2.1 (r.2.2.2.2==1),m.2.2):=by
 simp_all [ej]
theorem G8{m:aq}{r:aT}(h:r.1=6):(ej (r,m)).2=(m.1,m.2.1,aH aw m.2.2.1 r.2.2.2.1 (r.2.2.2.2==1),m.2.2.2):=by
 simp_all [ej]
theorem bk.with{b:ae}{m:aq}(hm:bk b m){l:List aC}(a: ∀e∈l,mB b e)(hs:fN ek l):bk b (m.1,m.2.1,m.2.2.1,l):=⟨hm.bG,hm.l1,hm.l2,hm.l3,hm.ph,a,hs⟩
theorem QH{α:Type} [Inhabited α]{l:List α}{a:Nat}{e:α}(f:a<l.length):aa (l.set a e) a=e:=by
 rw[cc _ a (by simp_all),List.getElem_set_self]
theorem mB.UT{b:ae}{m:aq}(hm:bk b m){a:Nat}(f:a<m.2.2.2.length):mB b (aa m.2.2.2 a):=kz.1 hm.gO a f
theorem pz{b:ae}{m:aq}{r:aT}(hm:bk b m)(hr:dh b r):bk b (ej (r,m)).2:=by
 rcases hr with⟨h1|h1,f,h3,h4⟩|⟨h1,f,h3,h4,h5⟩|⟨h1,f,h3,h4,h5,h6⟩|⟨h1,h2,h3,h4,h5,h6,h7⟩|⟨h1|h1,h2,h3,h4,h5,h6,h7⟩
 ·rw[xo h1]
  obtain⟨a,l,j,k⟩:=pQ hm f.dir;cases hf:(bN (m,r.2.1,r.2.2.1)).2 with
  |true=>rw[au3];exact hm
  |false=>
   rw[auw,j];refine hm.with (λe he=> ?_) (Th hm.fP l rfl (λh=>by rw[k.2 h]at hf;cases hf));rcases uA.1 he with he|he
   ·rw[awl]at he
    subst he;exact⟨f,by show(-2:Int)<= -1;decide,by have:=hm.bG.cn.1;show(-1:Int)<_;omega,by show 0<=0;decide,by show 0<=255;decide⟩
   ·exact hm.gO e he
 ·rw[xr h1]
  cases hf:(bN (m,r.2.1,r.2.2.1)).2 with
  |true=>rw[au3];exact hm.with (λe he=>hm.gO e (TG he)) (akP hm.fP)
  |false=>exact hm
 ·rw[Bg h1]
  obtain⟨a,l,j,k⟩:=pQ hm f.dir;cases hf:(bN (m,r.2.1,r.2.2.1)).2 with
  |true=>
   obtain⟨g,s⟩:=k.1 hf;have i:=mB.UT hm g;unfold yU;simp only[j,aH];refine hm.with (λe he=> ?_) (St hm.fP g rfl);rcases azk he with he|rfl
   ·exact hm.gO e he
   ·exact⟨i.1,h3,by show r.2.2.2.1<_;omega,i.2.2.2⟩
  |false=>rw[auw];exact hm
 ·rw[Bj h1]
  obtain⟨a,l,j,k⟩:=pQ hm f.dir;cases hf:(bN (m,r.2.1,r.2.2.1)).2 with
  |true=>
   obtain⟨g,s⟩:=k.1 hf;have i:=mB.UT hm g;have t:qg (r,m)=m.2.2.2.set a ((aa m.2.2.2 a).1,(aa m.2.2.2 a).2.1,(aa m.2.2.2 a).2.2.1,r.2.2.2.2,(r.2.2.2.1==1)):=by
    unfold qg qa;simp only[j,aH,awt,QH g,aBl]
   rw[t];refine hm.with (λe he=> ?_) (St hm.fP g rfl);rcases azk he with he|rfl
   ·exact hm.gO e he
   ·exact⟨i.1,i.2.1,i.2.2.1,h5,h6⟩
  |false=>rw[auw];exact hm
 ·rw[G6 h1]
  refine⟨hm.bG,by simp only[aH,auz];exact hm.l1,hm.l2,hm.l3,λp o=> ?_,hm.gO,hm.fP⟩;rcases azk o with o|rfl
  ·exact hm.ph p o
  ·exact⟨h6,h7⟩
 ·rw[Bd h1]
  exact⟨hm.bG,hm.l1,by simp only[aH,auz];exact hm.l2,hm.l3,hm.ph,hm.gO,hm.fP⟩
 ·rw[G8 h1]
  exact⟨hm.bG,hm.l1,hm.l2,by simp only[aH,auz];exact hm.l3,hm.ph,hm.gO,hm.fP⟩
def VQ(k:(List (aO))×Int)(x:Int×aq):Prop:=0<=x.1/\k.2=k.1.length/\k.1.length<=90000/\x.2.2.1.length=x.2.1.length/\x.2.2.2.1.length=x.2.1.length/\x.2.2.2.2.length<=x.1/\ ∀r∈k.1,wh x.2.1.length r
def DD(k:((List (aO))×Int))(x:(Int×aq)):Nat:=(k.2-x.1).toNat
def so(k:(List (aO))×Int)(x:Int×aq):ak ((List (aO))×Int) (Int×aq) aq:=bif x.1<k.2 then .next k (i64.wrap (x.1+1),(ej (aa k.1 x.1,x.2)).2)else .brk k x
def ang k x:=endOf so k (Nat.succ (DD k x)) x
def wN(x:ae×dr):=letI a:=gA (x.1,fc x.2);(ang (a.1,a.1.length) (0,(fZ x.1).1)).2
def L9(x:ae×dr):Prop:=x.2.1.1.size<=500000/\x.2.1.2.size<=500000
def px(x:List Int):= !mm (x,some 104)
def El(k:(List bT)×Int×ae)(x:Int):Prop:=0<=x/\k.2.1=k.1.length
def DE(k:((List (bT))×Int×ae))(x:(Int)):Nat:=(k.2.1-x).toNat
def zw(k:(List bT)×Int×ae)(x:Int):=bif x<k.2.1 then bif !(F60 (x,aa k.1 x,k.2.2)).1 then ak.ret (false,())else ak.next k (i64.wrap (x+1))else ak.brk k x
def Xw k x:=bd zw k (Nat.succ (DE k x)) x
def Gs(x:(List bT)×Int×ae):=letI a:=x.1.length;bif a !=x.2.1 then(false,())else dq (Xw (x.1,a,x.2.2) 0) (λy=>y) (true,())
def F63(x:Int×iA×ae):=(jL (x.2.2,x.2.1),x.2.2)
def RK(k:(List dY)×Int)(x:Int×au):Prop:=0<=x.1/\k.2=k.1.length/\cD x.2/\k.1.length=x.2.1.2.2.2.2.2.2.2.length
def Dd(k:((List (dY))×Int))(x:(Int×au)):Nat:=(k.2-x.1).toNat
def uK(k:(List dY)×Int)(x:Int×au):ak ((List dY)×Int) (Int×au) (Unit×au):=letI a:=x.2.2.1.2.2;bif x.1<k.2 then .next k (i64.wrap (x.1+1),x.2.1,(x.2.2.1.1,x.2.2.1.2.1,aH du a.1 x.1 (kO (x.2.1.2.1,aa a.1 x.1,(aa k.1 x.1).1)).1,a.2.1,a.2.2.1,aH jw a.2.2.2.1 x.1 (ti (x.2.1,aa a.2.2.2.1 x.1,(aa k.1 x.1).2.2.2)),a.2.2.2.2),x.2.2.2)else .brk k x
def alf k x:=endOf uK k (Nat.succ (Dd k x)) x
def alM(x:au):=letI a:=x.2.1.2.2.2;letI b:=a.2.2.2;alf (x.2.2.1.2.2,x.2.2.1.2.2.length) (0,x.1,(x.2.1.1,x.2.1.2.1,x.2.1.2.2.1,a.1,a.2.1,a.2.2.1,b.1,b.2.1,ib b.2.2.1,b.2.2.2),x.2.2)
def gd(x:au):Unit×au:=letI b:=x.2.1.2;letI a:=b.2.2.2;letI c:=a.2.2.2;bif !x.2.2.2.1 then((),x.1,(x.2.1.1,b.1,b.2.1,b.2.2.1,a.1,a.2.1,a.2.2.1,c.1,ib c.2.1,ib c.2.2.1,c.2.2.2),x.2.2)else((),(alM x).2)
def VL(x:au):Prop:=cD x
def Ac(x:ae×Int×bT×ax):bT×Int:=letI b:=x.2.2.2;letI d:=b.1>=0;letI e:=x.2.2.1;letI a:=sQ (e.2.2.2.1,(aa x.1.2.2.2.2.2.2.2 x.2.1).1,kP (x.1.1,b));letI c:=min (i64.wrap (e.2.2.2.2.1+1)) 1000000;letI f:=b.2.2;letI g:=b.2.1;bif !fC (x.1,x.2.1,e)|| !mK (x.1.1,b)then((0,0,0,[],0,false),1)else bif d&&f==2&&g==0 then bif d then((b.1,g,f,a.1,c,a.2),0)else((e.1,g,f,a.1,c,a.2),0)else bif d then((b.1,g,f,a.1,0,a.2),0)else((e.1,g,f,a.1,0,a.2),0)
def fy(x:ae×aq×aO):aq×Int:=bif !cL (x.1,x.2.1)|| !jc (x.1,x.2.2)then(([],[],[],[]),1)else((ej (x.2.2,(AM x.2.1).1)).2,0)
def Rt(k:(List Int)×Int×au)(x:(List Bool)×Int):Prop:=0<=x.2/\k.2.1=k.1.length/\x.1.length=k.1.length/\cD k.2.2/\k.1=k.2.2.2.1.1.1
def JI(k:(List Int)×Int×au)(x:(List Bool)×Int):=(k.2.1-x.2).toNat
def ur(k:(List Int)×Int×au)(x:(List Bool)×Int):ak ((List Int)×Int×au) ((List Bool)×Int) ((List Bool)×Unit):=letI a:=k.2.2;bif x.2<k.2.1 then .next k (aH aw x.1 x.2 (gB (aa k.1 x.2)&&MJ (a.1,x.2,aa a.2.1.2.2.2.1 x.2)||qq (aa k.1 x.2)&&aaY (a.1,aa a.2.1.2.2.2.2.1 x.2,(aa a.2.2.1.2.2 x.2).2.1)),i64.wrap (x.2+1))else .brk k x
def amf k x:=endOf ur k (Nat.succ (JI k x)) x
def iy(x:au):=((amf (x.2.1.1.1,x.2.1.1.1.length,x) (aE aw x.1.2.2.2.2.2.2.2.length,0)).1,())
def Vc(x:au):Prop:=cD x
def mo(x:ae×aq×Int):=acA (x.1,x.2.1,aah x.2.1,x.2.2)
def JW(x:(ae)×(aq)×Int):Prop:=x.2.1.1.length<=8
def kh(x:aq×List Int):=(x.2.length:Int)==x.1.2.2.2.length&& !mm (x.2,some 257)
def wB(x:ae×Int×aX×af):=letI b:=x.2.2.1.2.2.2.2;letI g:=x.1.2.2.2.2.2.2.2;letI c:=aa g x.2.1;letI f:=c.2.2.2.2;letI h:=b.2.2.2.2;letI a:=i64.wrap (wa (x.1.1,h)*i64.wrap (i64.wrap (2*f.2.1)+f.2.2.1));letI d:=sZ (x.1.1,b.1,0,h,x.2.2.2);letI e:=sZ (x.1.1,b.1,b.2.1,h,x.2.2.2);bif bZ x.1 !=0||x.2.1<0||x.2.1>=g.length then 1000000 else bif b.2.1==3 then bif d<0 then 1000000 else min (i64.wrap (i64.wrap (d*f.1)+a)) 1000000 else bif e<0 then 1000000 else min (i64.wrap (i64.wrap (e*f.1)+a)) 1000000
def Mh:Ct:=⟨Ty.pair az eu,[some 8,some 3],bO,ah.one (some 4),some L9,none,wN⟩
def aca:Ct:=⟨cX,[none],aw,ah.one none,none,none,px⟩
def Fk:Cv:=⟨Ty.pair vX (Ty.pair ab az),[none,none],[.v,.v,.c 60 1],[8],true,[],Ty.unit,aw,ah.one none,[],none,Gs,false⟩
def aby:Cp:=⟨Ty.pair ab (Ty.pair iM az),[none,some 14],[false,false,true],[8],true,false,az,aw,ah.one none,none,F63,none,undef⟩
def ED:Cv:=letI a:=(16,true,142);letI b:=(17,true,153);letI c:=(18,true,158);⟨dj,[],[.p],[43],false,[(15,true,70),a,b,c,(32,true,4),(33,true,51),(34,true,4),(42,true,85)],dj,Ty.unit,ah.none,[(15,true,70),a,b,c,(32,true,4),(33,true,51),(34,true,4),(42,true,85)],some VL,gd,false⟩
def WD:Ct:=⟨Ty.pair az (Ty.pair ab (Ty.pair eL jf)),[some 8,none,some 6,some 3],Ty.pair eL bI,ah.tup [some 6,none],none,none,Ac⟩
def aab:Ct:=⟨Ty.pair az (Ty.pair bO jx),[some 8,some 4,some 5],Ty.pair bO bI,ah.tup [some 4,none],none,none,fy⟩
def E9:Cv:=⟨dj,[],[.p],[43],true,[],Ty.unit,fY,ah.one none,[(0,true,4)],some Vc,iy,false⟩
def Z7:Ct:=⟨Ty.pair az (Ty.pair bO ab),[some 8,some 4,none],aU,ah.one (some 2),some JW,none,mo⟩
def X8:Ct:=⟨Ty.pair bO cX,[some 4,none],aw,ah.one none,none,none,kh⟩
def Zb:Ct:=⟨Ty.pair az (Ty.pair ab (Ty.pair eR (Ty.pair ab ab))),[some 8,none,some 12,none,none],ab,ah.one none,none,none,wB⟩
def U5:LS bO.den:=aD (Ty.pair dF ab) (Ty.pair ab bO) [(19,none),(20,none)] [] [(21,none)] [(5,4)] [(1,100401,true,3),(2,100402,true,4),(3,100403,true,4),(4,100404,true,93)] [16] [(5,5)] 0 false VQ so DD
def jF(z:List (Nat×List Nat)):=dB (Qk true) Qu cY R5 z
theorem al2:bu f72 Mh [0] U5:=lA (jF []) [] l0 (λk x fk fx h=>sl (decide (x.1<k.2)=true->(0<=x.1/\x.1<k.1.length)/\Ks (aa k.1 x.1,x.2)) (by
 try dsimp only[Ty.den]at*
 obtain⟨h0,h1,h2,h3,h4,h5,h6⟩:=h;intro hc;rw[adv]at hc;have r:=gR h0 (h1▸hc);exact⟨r,wh.ch (gI h6 r) h3 h4 h5 (at4 h1 h2 hc)⟩)) λk x fk h=>by
 try dsimp only[Ty.den]at*
 obtain⟨h0,h1,h2,h3,h4,h5,h6⟩:=h;unfold so;refine aJ.cnd (λhc=> ?_) (λ_=>rfl);rw[adv]at hc;have e:=cC h0 (h1▸hc) (auv h2 (by decide));have q:=G4 (aa k.1 x.1) x.2;rw[e];exact⟨rfl,⟨cH h0,h1,h2,q.2.1.trans (h3.trans q.1.symm),q.2.2.1.trans (h4.trans q.1.symm),abJ q.2.2.2 h5,q.1.symm▸h6⟩,cI hc⟩
theorem asf:an 72 Mh:=ao (jF []) func72 [(4,U5)] (lc al2 l0) (sp λx fx h=>sl (letI a:=(x.1,fc x.2);Kr a/\VQ ((gA a).1,((gA a).1.length)) (0,(fZ x.1).1)) (by
 try dsimp only[Ty.den]at*
 have hs:=QO (s:=x.2) h.1 h.2;have r:=TN (b:=x.1) fx.1.2.2.2.2.2.2.2.1 hs;exact⟨auv hs (by decide),au8 _,rfl,r⟩))
theorem ata:an 55 aca:=have E:=ai @vr.eq_1 SN;ao (jF []) func55 [] l0 (λx fx _=>sl (vr (x,some 104)))
def T6:LS (Ty.pair aw Ty.unit).den:=aD (Ty.pair vX (Ty.pair ab az)) ab [(13,none),(14,none)] [(3000,8)] [(15,none)] [] [] [] [] 0 true El zw DE [(2,60,[3000])]
theorem al9:gW f59 Fk [0] T6:=have E:=ai @El.eq_1<|ai @DE.eq_1<|ai @zw.eq_1 SN;lV (jF []) [] l0 (λk x fk fx h=>sm (decide (x<k.2.1)=true->0<=x/\x<k.1.length))
theorem ar3:dL 59 Fk:=have E:=ai @El.eq_1 SN;dU (jF []) func59 [(4,T6)] (lc al9 l0) (λx fx _=>sl (letI a:=x.1.length;(a !=x.2.1)=false->El (x.1,a,x.2.2) 0))
theorem arP:jM 63 aby:=qQ (jF []) func63 [] l0 (λ_ _ _=>tr)
def Ru:LS (Ty.pair Ty.unit dj).den:=aD (Ty.pair FM ab) (Ty.pair ab dj) [(33,none),(34,none)] [] [(35,none)] [(0,43)] [(16,100416,true,70),(17,100417,true,142),(18,100418,true,153),(19,100419,true,158),(33,100433,true,4),(34,100434,true,51),(35,100435,true,4),(43,100443,true,85)] [] [(0,0)] 0 false RK uK Dd
theorem akK:gW f127 ED [0] Ru:=lV (jF []) [] l0 (λk x fk fx h=>sl (letI a:=0<=x.1/\x.1<(x.2.2.1.2.2.2.2.2.1.length:Int);letI b:=0<=x.1/\x.1<(x.2.2.1.2.2.1.length:Int);decide (x.1<k.2)=true->((0<=x.1/\x.1<k.1.length)/\b/\b/\a/\a)) (by
 try dsimp only[Ty.den]at*
 obtain⟨h0,h1,h2,h3⟩:=h;intro hc;rw[adv]at hc;have r:=gR h0 (h1▸hc);have q1:=df r (h2.c1.trans h3.symm);have q2:=df r (h2.c4.trans h3.symm);exact⟨r,q1,q1,q2,q2⟩)) λk x fk h=>by
 try dsimp only[Ty.den]at*
 obtain⟨h0,h1,h2,h3⟩:=h;unfold uK;refine aJ.cnd (λhc=> ?_) (λ_=>rfl);rw[adv]at hc;have e:=cC h0 (h1▸hc) (auv (lR h3 h2.n8) (by decide));have q1:=df (gR h0 (h1▸hc)) (h2.c1.trans h3.symm);rw[e];exact⟨rfl,⟨cH h0,h1,⟨h2.n8,Sf h2.cf (Io (s:=aa x.2.2.1.2.2.1 x.1) (gI h2.cf q1) _),(auz ..).trans h2.c1,h2.c2,h2.c3,(auz ..).trans h2.c4,h2.c5,h2.c6,h2.c7,h2.c8,h2.p1,h2.p2,h2.p3,h2.ph,h2.bf,h2.cmd,h2.iU⟩,h3⟩,cI hc⟩
theorem Xs:dL 127 ED:=dU (jF []) func127 [(4,Ru)] (lc akK l0) (sp λx fx h=>sl (letI a:=x.2.1.2.2.2;letI b:=a.2.2.2;(!x.2.2.2.1)=false->RK (x.2.2.1.2.2,x.2.2.1.2.2.length) (0,x.1,(x.2.1.1,x.2.1.2.1,x.2.1.2.2.1,a.1,a.2.1,a.2.2.1,b.1,b.2.1,ib b.2.2.1,b.2.2.2),x.2.2)) (by
 try dsimp only[Ty.den]at*
 have h:cD x:=h;intro hg;rw[avi]at hg;exact⟨au8 _,rfl,⟨h.n8,h.cf,h.c1,h.c2,h.c3,h.c4,h.c5,h.c6,h.c7,h.c8,h.p1,h.p2,h.p3,h.ph,h.bf,h.cmd,h.iU⟩,h.bf hg⟩))
theorem apr:an 209 WD:=ao (jF []) func209 [] l0 (λx fx _=>sl (letI a:=x.1.2.2.2.2.2.2.2;letI b:=(x.1.1,x.2.2.2);(!fC (x.1,x.2.1,x.2.2.1)|| !mK b)=false->(0<=x.2.1/\x.2.1<a.length)/\DF (x.2.2.1.2.2.2.1,(aa a x.2.1).1,kP b)) (by
 try dsimp only[Ty.den]at*
 intro hc;rw[au1,avi]at hc;have hb:=(xp fx.1.2.2.2.2.2.2.2.1 fx.2.2.1.2.2.2.1.1).1 hc.1;exact⟨hb.eU,auv hb.len (by decide)⟩))
theorem aq5:an 248 aab:=ao (jF []) func248 [] l0 (λx fx _=>sl ((!cL (x.1,x.2.1)|| !jc (x.1,x.2.2))=false->DS x.2.1/\Ks (x.2.2,(AM x.2.1).1)) (by
 try dsimp only[Ty.den]at*
 intro hc;rw[au1,avi,avi]at hc;have hm:=(mS (b:=x.1) (m:=x.2.1) fx.1.2.2.2.2.2.2.2.1 fx.2.1.1.1 fx.2.1.2.2.2.1).1 hc.1;have hr:=(uq (b:=x.1) fx.1.2.2.2.2.2.2.2.1 x.2.2).1 hc.2;exact⟨hm.clone,hr.2.ch hm⟩))
def Tb:LS (Ty.pair fY Ty.unit).den:=aD (Ty.pair cX (Ty.pair ab dj)) (Ty.pair fY ab) [(18,none),(19,none)] [(0,43)] [(3,none),(20,none)] [] [(0,100300,true,4)] [] [(0,0)] 0 false Rt ur JI
theorem ajR:gW f213 E9 [0] Tb:=lV (jF []) [] l0 (λk x fk fx h=>sl (letI b:=aa k.1 x.2;letI d:=k.2.2;letI c:=d.2.1.2.2.2;letI a:=gB b&&MJ (d.1,x.2,aa c.1 x.2);letI e:=qq b;decide (x.2<k.2.1)=true->((0<=x.2/\x.2<(k.1.length:Int))/\((gB b=true->0<=x.2/\x.2<(c.1.length:Int))/\((a=false->(e=true->0<=x.2/\x.2<(c.2.1.length:Int)))/\((a=false->(e=true->0<=x.2/\x.2<(d.2.2.1.2.2.length:Int)))/\((a=false->e=true->Ku (d.1,aa c.2.1 x.2,(aa d.2.2.1.2.2 x.2).2.1))/\0<=x.2/\x.2<x.1.length)))))) (by
 try dsimp only[Ty.den]at*
 obtain⟨h0,h1,h2,h3,h4⟩:=h;intro hc;rw[adv]at hc;have r:=gR h0 (h1▸hc);have hp:k.1.length=k.2.2.1.2.2.2.2.2.2.2.length:=(av7 List.length h4).trans h3.p1;have q1:=df r (h3.c2.trans hp.symm);have hz:aa k.1 x.2=0:=gI (h4▸h3.ph) r;have hd: ∀{P:Prop},qq (aa k.1 x.2)=true->P:=λh=>(aeQ hz h).elim
 exact⟨r,λ_=>q1,λ_ h=>hd h,λ_ h=>hd h,λ_ h=>hd h,df r h2⟩)) λk x fk h=>by
 try dsimp only[Ty.den]at*
 obtain⟨h0,h1,h2,h3,h4⟩:=h;unfold ur;refine aJ.cnd (λhc=> ?_) (λ_=>rfl);rw[adv]at hc;have hp:k.1.length=k.2.2.1.2.2.2.2.2.2.2.length:=(av7 List.length h4).trans h3.p1;have e:=cC h0 (h1▸hc) (auv (lR hp h3.n8) (by decide));rw[e];exact⟨rfl,⟨cH h0,h1,(auz ..).trans h2,h3,h4⟩,cI hc⟩
theorem aqL:dL 213 E9:=dU (jF []) func213 [(3,Tb)] (lc ajR l0) (sp λx fx h=>sl (letI a:=(x.1.2.2.2.2.2.2.2.length:Int);(0<=a/\a=a/\a*1<=140737488355328/\a<=4611686018427387903)/\Rt (x.2.1.1.1,x.2.1.1.1.length,x) (aE aw a,0)) (by
 try dsimp only[Ty.den]at*
 have h:cD x:=h;exact⟨nt h.n8 1 ⟨by decide,by decide⟩,au8 _,rfl,(ff _).trans h.p1.symm,h,rfl⟩))
theorem aoC:an 183 Z7:=ao (jF []) func183 [] l0 (sp λx fx h=>sl (VG x.2.1) (by
 exact h))
theorem anW:an 219 X8:=have E:=ai @vr.eq_1 SN;ao (jF []) func219 [] l0 (λx fx _=>sl (((x.2.length:Int)==x.1.2.2.2.length)=true->vr (x.2,some 257)))
theorem aqu:an 264 Zb:=have E:=SN;ao (jF []) func264 [] l0 (λx fx _=>sl (letI a:=x.2.2.1.2.2.2.2;letI b:=(x.1.2.2.2.2.2.2.2.length:Int);letI c:=0<=x.2.1/\x.2.1<b;letI d:=a.2.1==3;((bZ x.1 !=0||x.2.1<0)||x.2.1>=b)=false->(d=true->decide (sZ (x.1.1,a.1,0,a.2.2.2.2,x.2.2.2)<0)=false->c)/\(d=false->decide (sZ (x.1.1,a.1,a.2.1,a.2.2.2.2,x.2.2.2)<0)=false->c)))
def aai(nw:Bool):=(59,.pv Fk)::(127,.pv ED)::(213,.pv E9)::aaA nw
theorem PZ(nw:Bool):ga (aai nw):=zc (z:= .pv Fk) ar3 func59 (zc (z:= .pv ED) Xs func127 (zc (z:= .pv E9) aqL func213 ((Qk nw))))
def arM:List (Nat×Cp):=(63,aby)::abX
theorem lY:ic arM:=pc arP func63 (Qu)
def acF:=(72,Mh)::(55,aca)::(209,WD)::(248,aab)::(183,Z7)::(219,X8)::(264,Zb)::adi
theorem R2:cr acF:=gc asf func72 (gc ata func55 (gc apr func209 (gc aq5 func248 (gc aoC func183 (gc anW func219 (gc aqu func264 (R5)))))))
section
theorem bk.fit{b:ae}{m:aq}(h:bk b m):b.2.2.2.2.2.2.2.length<=maxLen/\m.1.length<=maxLen/\m.2.2.2.length<=maxLen:=by
 have a:=h.bG.cn.2;have h1:=h.l1;have h2:=h.len;grind [maxLen]
theorem bk.is{b:ae}{m:aq}(h:bk b m):cL (b,m)=true:=(mS h.fit.1 h.fit.2.1 h.fit.2.2).2 h
theorem rH{b:ae}{m:aq}{r:aT}(hm:bk b m)(hr:dh b r):fy (b,m,r)=((ej (r,m)).2,0):=by
 unfold fy;rw[hm.is,(uq hm.fit.1 r).2 ⟨hm.bG,hr⟩];rfl
theorem agh{b:ae}{m:aq}{r:aT}(hm:bk b m)(hr:dh b r):bk b (fy (b,m,r)).1:=by simp_all [rH,pz]
theorem ah9{b:ae}{m:aq}{r:aT}(hl:b.2.2.2.2.2.2.2.length<=maxLen)(h1:m.1.length<=maxLen)(h2:m.2.2.2.length<=maxLen)(h:(fy (b,m,r)).2=0):bk b m/\dh b r:=by
 unfold fy at h;cases hc:((!(cL (b,m)))||(!(jc (b,r))))with
 |true=>simp_all
 |false=>
  simp_all [mS,uq]
theorem BT{b:ae}{m:aq}(hm:bk b m){f d:Int}(i:d=1\/d=2):eO (m,f,d)=bN (m,f,d):=by
 obtain⟨a,h1,h2,h3⟩:=pQ hm (f:=f) i;have w:=hm.len;have l:=λq h=>(kz.1 hm.gO q h).1.dir
 have j: ∀q:Nat,q<m.2.2.2.length->((qu (aa m.2.2.2 q,(f,d))).1=true↔ck f d<=ek (aa m.2.2.2 q)):=λq h=>by
  unfold qu ek ck;grind
 have o:KH (m.2.2.2,m.2.2.2.length,(f,d)) 0=if a<m.2.2.2.length then some ((a:Int),())else none:=by
  have key: ∀(n q:Nat),q<=a->a-q<n->bd ni (m.2.2.2,m.2.2.2.length,(f,d)) n (q:Int)=if a<m.2.2.2.length then some ((a:Int),())else none:=by
   intro n;induction n with
   |zero=>omega
   |succ n s=>
    intro q h x;simp only[bd];unfold ni;by_cases g:q<m.2.2.2.length
    ·simp only[show((q:Int)<m.2.2.2.length)from by omega,avz,au3]
     by_cases t:q=a
     ·subst t
      rw[(j q g).2 (h1.ge q (au7 _) g),au3,avf g]
     ·have:(qu (aa m.2.2.2 (q:Int),(f,d))).1=false:=by
       cases hc:(qu (aa m.2.2.2 (q:Int),(f,d))).1 with
       |false=>rfl
       |true=>have:=(j q g).1 hc;have:=h1.lt q (by omega);omega
      rw[this,auw,pC g (by unfold maxLen;omega)];exact s (q+1) (by omega) (by omega)
    ·have:=h1.le
     rw[avb (by omega)];simp only[show¬ ((q:Int)<m.2.2.2.length)from by omega,awe,auw]
  exact key _ 0 (awb _) (by unfold CX;have:=h1.le;simp;omega)
 have u:(pb (m.2.2.2,(f,d))).1=if a<m.2.2.2.length then(a:Int)else -1:=by
  unfold pb;simp only;rw[o];split<;>rfl
 have y:=h1.le;have k:(eO (m,f,d)).1=(a:Int)/\((eO (m,f,d)).2=true↔a<m.2.2.2.length/\ek (aa m.2.2.2 (a:Int))=ck f d):=by
  unfold eO;simp only;rw[u];by_cases g:a<m.2.2.2.length
  ·rw[avf g,axt (by omega),auw]
   refine⟨rfl,?_⟩;simp only[au4,aw0,g,ay7];exact(zp (l a g) i).symm
  ·rw[avb g,show decide ((-1:Int)<0)=true from rfl,au3]
   refine⟨by show(m.2.2.2.length:Int)=a;omega,?_⟩;simp[g]
 refine aww (k.1.trans h2.symm) ?_;have:=k.2.trans h3.symm;cases h5:(eO (m,f,d)).2<;>cases h6:(bN (m,f,d)).2<;>simp_all
theorem dh.call{b:ae}{r:aT}(h:dh b r)(a:r.1=1\/r.1=2\/r.1=3\/r.1=7):da b.1 r.2.1 r.2.2.1:=by
 rcases h with⟨_,h,_⟩|⟨_,h,_⟩|⟨_,h,_⟩|⟨h,_⟩|⟨h,_⟩
 all_goals omega
theorem RM{b:ae}{m:aq}(hm:bk b m){f d:Int}(g:d=1\/d=2):0<=(bN (m,f,d)).1/\(bN (m,f,d)).1<=m.2.2.2.length/\((bN (m,f,d)).2=true->(bN (m,f,d)).1<m.2.2.2.length):=by
 obtain⟨a,h1,h2,h3⟩:=pQ hm (f:=f) g;have:=h1.le;simp_all
theorem Tp{α:Type}{l:List α}{i:Int}(h0:0<=i)(h1:i<l.length):(iR l i).length+1=l.length:=by
 grind [iR]
section
variable {b:ae} {m:aq} {r:aT} {e:List Int}
theorem Mk(hm:bk b m)(hr:dh b r)(g:e.length=m.2.2.2.length)(a:((r.1==2)&&(eO (m,r.2.1,r.2.2.1)).2)=true):
  J9 (e,(eO (m,r.2.1,r.2.2.1)).1,i64.wrap ((eO (m,r.2.1,r.2.2.1)).1+1))/\(MR (e,(eO (m,r.2.1,r.2.2.1)).1,i64.wrap ((eO (m,r.2.1,r.2.2.1)).1+1))).1.length=(fy (b,m,r)).1.2.2.2.length:=by
 rw[au4,aw0]at a;have f:=(hr.call (.inr (.inl a.1))).dir;rw[BT hm f]at a⊢;obtain⟨h1,h2,h3⟩:=RM hm f;have h3:=h3 a.2;have h:=hm.len;rw[aB (by omega) (by omega)];have h4:(bN (m,r.2.1,r.2.2.1)).1<e.length:=by omega
 refine⟨⟨h1,h4,rfl,by grind⟩,?_⟩;rw[rH hm hr,xr a.1,a.2,au3];have d1:=Tp h1 (by omega);have d2:=Tp h1 h3;show(iR e (bN (m,r.2.1,r.2.2.1)).1).length=(iR m.2.2.2 (bN (m,r.2.1,r.2.2.1)).1).length;omega
theorem exp2(hm:bk b m)(hr:dh b r)(h:e.length=m.2.2.2.length)(a:((r.1==1)&&(!(eO (m,r.2.1,r.2.2.1)).2))=true):
  Kv (e,(eO (m,r.2.1,r.2.2.1)).1,[0])/\(Ng (e,(eO (m,r.2.1,r.2.2.1)).1,[0])).1.length=(fy (b,m,r)).1.2.2.2.length:=by
 rw[au4,aw0,avr]at a;have g:=(hr.call (.inl a.1)).dir;rw[BT hm g]at a⊢;obtain⟨h1,h2,h3⟩:=RM hm (f:=r.2.1) g;have i:=hm.len;have h4:(bN (m,r.2.1,r.2.2.1)).1<=e.length:=by omega
 refine⟨⟨h1,h4,rfl,by grind⟩,?_⟩;rw[rH hm hr,xo a.1,a.2,auw];show(jK e _ _).length=(jK m.2.2.2 _ _).length;simp_all [Jm]
theorem acv(hm:bk b m)(hr:dh b r)(g:e.length=m.2.2.2.length)(a:((r.1==2)&&(eO (m,r.2.1,r.2.2.1)).2)=false)(f:((r.1==1)&&(!(eO (m,r.2.1,r.2.2.1)).2))=false):
  e.length=(fy (b,m,r)).1.2.2.2.length:=by
 rw[rH hm hr,g];have i:r.1=1\/r.1=2\/r.1=3\/r.1=7\/r.1=4\/r.1=5\/r.1=6:=by
  rcases hr with⟨h,_⟩|⟨h,_⟩|⟨h,_⟩|⟨h,_⟩|⟨h,_⟩<;>omega
 rcases i with h|h|h|h|h|h|h
 ·rw[xo h]
  rw[h,BT hm (hr.call (.inl h)).dir,av2,avi]at f;rcases f with f|f
  ·cases f
  ·rw[f];rfl
 ·rw[xr h]
  rw[h,BT hm (hr.call (.inr (.inl h))).dir,av2]at a;rcases a with a|a
  ·cases a
  ·rw[a];rfl
 ·rw[Bg h]
  cases(bN (m,r.2.1,r.2.2.1)).2 with
  |true=>simp[yU,aH]
  |false=>rfl
 ·rw[Bj h]
  cases(bN (m,r.2.1,r.2.2.1)).2 with
  |true=>simp[qg,qa,aH]
  |false=>rfl
 ·rw[G6 h]
 ·rw[Bd h]
 ·rw[G8 h]
end
structure dt (l:List aT) (x:bY):Prop where
 ba:bk x.2 x.1.2.1
 exp:x.1.2.2.1.length=x.1.2.1.2.2.2.length
 dv: ∀r∈l,dh x.2 r
theorem Fx{α:Type}{l m:List α}{b c d:Nat}{n:Int}(h:l.length<=n)(a:n<=100000)(hm:m.length=1:=by rfl)(hb:b<=1000:=by decide)(f:c=140737488355328:=by rfl)(g:d=4611686018427387903:=by rfl):(l.length+m.length)*b<=c/\l.length+m.length<=d:=by
 have:l.length+m.length<=100001:=by omega
 refine⟨?_,by omega⟩;calc (l.length+m.length)*b<=100001*1000:=aya this hb
  _<=c:=by omega
theorem aoV{x n:Int}{m:Nat}(h1:n=m)(h2:m<=1000)(a:x<n):50000+x<=100000:=by omega
theorem Lo{α:Type}{l:List α}{a:α}{x:Int}(h:l.length<=50000+x):((l++ [a]).length:Int)<=50000+(x+1):=by grind
theorem apM{α:Type}{l:List α}(h:l.length<=50000):(l.length:Int)<=50000+0:=by omega
theorem adm{b:ae}{m:aq}(h:bk b m):m.2.2.2.length<=1000000:=auv h.len (by decide)
theorem Im{p:Int}(h:p=0){P:Prop}(a:gB p=false):P:=by subst h;exact absurd a (by decide)
structure NG (x:ae×aW×Int×gq):Prop where
 n8:x.2.1.1.1.length<=8
 kq:0<=x.2.2.1/\x.2.2.1<(x.2.1.1.1.length:Int)
 aK:x.2.1.2.2.2.2.1.length=x.2.1.1.1.length
 flags:x.2.1.1.2.1.length=x.2.1.1.1.length
 aug:x.2.1.2.2.2.1.length=x.2.1.1.1.length
 ph: ∀p∈x.2.1.1.1,p=0
end
def pq(x:ae×dr×Int):dr×aq×af:=letI b:=wN (x.1,x.2.1);letI a:=tE (x.1,x.2.1,b,x.2.2);bif a.2.2 !=0 then(a.1,([],[],[],[]),0,a.2.2)else(a.1,b,a.2.1,0)
def Zx(x:ae×dr×Int):Prop:=x.2.1.1.1.size<=500000/\x.2.1.1.2.size<=500000
def Ed(k:(List iA)×Int×ae)(x:Int):Prop:=0<=x/\k.2.1=k.1.length
def D5(k:((List (iA))×Int×ae))(x:(Int)):Nat:=(k.2.1-x).toNat
def zx(k:(List iA)×Int×ae)(x:Int):=bif x<k.2.1 then bif !(F63 (x,aa k.1 x,k.2.2)).1 then ak.ret (false,())else ak.next k (i64.wrap (x+1))else ak.brk k x
def WW k x:=bd zx k (Nat.succ (D5 k x)) x
def Gm(x:(List iA)×Int×ae):=letI a:=x.1.length;bif a !=x.2.1 then(false,())else dq (WW (x.1,a,x.2.2) 0) (λy=>y) (true,())
def oQ(x:Int×au):Unit×au:=bif !x.2.2.2.2.1 then((),x.2.1,(x.2.2.1.1,x.2.2.1.2.1,x.2.2.1.2.2.1,aH eL x.2.2.1.2.2.2.1 x.1 (Aj (x.2.1,x.1,aa x.2.2.1.2.2.2.1 x.1)).1,x.2.2.1.2.2.2.2),x.2.2.2.1,x.2.2.2.2.1,x.2.2.2.2.2.1,x.2.2.2.2.2.2.1,aH aw x.2.2.2.2.2.2.2.1 x.1 true,x.2.2.2.2.2.2.2.2)else((),x.2.1,(x.2.2.1.1,x.2.2.1.2.1,x.2.2.1.2.2.1,aH eL x.2.2.1.2.2.2.1 x.1 (Ac (x.2.1,x.1,aa x.2.2.1.2.2.2.1 x.1,lQ (x.2.1.1,(aa x.2.2.1.2.2.1 x.1).1))).1,x.2.2.1.2.2.2.2),x.2.2.2.1,x.2.2.2.2.1,x.2.2.2.2.2.1,x.2.2.2.2.2.2.1,aH aw x.2.2.2.2.2.2.2.1 x.1 true,aH aU x.2.2.2.2.2.2.2.2.1 x.1 (kP (x.2.1.1,lQ (x.2.1.1,(aa x.2.2.1.2.2.1 x.1).1))),x.2.2.2.2.2.2.2.2.2)
def UR(x:Int×au):Prop:=cD x.2/\0<=x.1/\x.1<x.2.1.2.2.2.2.2.2.2.length
def mn(x:ae×dr×aq×(aO)×Int):dr×aq×af:=letI c:=((ByteArray.empty,ByteArray.empty),0);letI e:=x.2.2;letI f:=e.2.1;letI d:=fy (x.1,e.1,f);letI g:=x.1.2.2.1;letI h:=x.2.1;letI b:=tE (x.1,h,d.1,e.2.2);letI i:=my (x.1,f);letI a:=qo (g,h,h.2,i.1,e.2.2);bif d.2 !=0|| !eA (g,h)||e.2.2<0 then(c,([],[],[],[]),0,1)else bif f.1==1&& !(bN (e.1,f.2.1,f.2.2.1)).2&& !gS (x.1,e.1)then(c,([],[],[],[]),0,7)else bif i.1.size<=i64.wrap (g - ((fc h).size))then bif a.2.2==0 then(a.1,d.1,a.2)else bif a.2.2==8 then(a.1,(AM e.1).1,0,a.2.2)else(c,([],[],[],[]),0,a.2.2)else bif b.2.2==0 then(b.1,d.1,b.2)else bif b.2.2==8 then(b.1,(AM e.1).1,0,b.2.2)else(c,([],[],[],[]),0,b.2.2)
def vZ(x:ae×aW×Int×gq):aX:=bif gB (aa x.2.1.1.1 x.2.2.1)then(Ap (x.2.1.1,x.2.2.1),mA (x.2.1.1,x.2.2.1),gB (aa x.2.1.1.1 x.2.2.1),aa x.2.1.1.2.1 x.2.2.1|| !mA (x.2.1.1,x.2.2.1),(aa x.2.1.2.2.2.1 x.2.2.1).1,(aa x.2.1.2.2.2.1 x.2.2.1).2.1,0,(0,0),0,aaG (aa x.2.1.2.2.2.1 x.2.2.1).2.2.2.1)else bif aa x.2.1.1.1 x.2.2.1==4 then(Ap (x.2.1.1,x.2.2.1),mA (x.2.1.1,x.2.2.1),gB (aa x.2.1.1.1 x.2.2.1),aa x.2.1.1.2.1 x.2.2.1|| !mA (x.2.1.1,x.2.2.1),x.2.2.2.1,(aa x.2.1.2.2.2.2.1 x.2.2.1).1.1,aa x.2.1.2.2.2.2.2.1 x.2.2.1,abx (x.1,aa x.2.1.2.2.2.2.1 x.2.2.1,x.2.2.2),(aa x.2.1.2.2.2.2.1 x.2.2.1).2.2.2.1,mo (x.1,x.2.1.1,x.2.2.1))else(Ap (x.2.1.1,x.2.2.1),mA (x.2.1.1,x.2.2.1),gB (aa x.2.1.1.1 x.2.2.1),aa x.2.1.1.2.1 x.2.2.1|| !mA (x.2.1.1,x.2.2.1),x.2.2.2.1,(aa x.2.1.2.2.2.2.1 x.2.2.1).1.1,aa x.2.1.2.2.2.2.2.1 x.2.2.1,(0,0),(aa x.2.1.2.2.2.2.1 x.2.2.1).2.2.2.1,mo (x.1,x.2.1.1,x.2.2.1))
def Vx(x:(ae)×(aW)×Int×gq):Prop:=NG x
def S7(k:(List (aO))×Int)(x:Int×bY):Prop:=0<=x.1/\k.2=k.1.length/\k.1.length<=1000/\dt k.1 x.2/\x.2.1.1.length<=50000+x.1
def C2(k:((List (aO))×Int))(x:(Int×bY)):Nat:=(k.2-x.1).toNat
def uu(k:(List (aO))×Int)(x:Int×bY):ak ((List (aO))×Int) (Int×bY) (Unit×bY):=letI c:=i64.wrap (x.1+1);letI d:=aa k.1 x.1;letI e:=x.2.1.2;letI a:=eO (e.1,d.2.1,d.2.2.1);letI f:=MR (e.2.1,a.1,i64.wrap (a.1+1));letI h:=Ng (e.2.1,a.1,[0]);letI i:=x.2.1.1++ [d];letI j:=x.2.2;letI b:=fy (j,e.1,d);letI g:=b.2==0;bif x.1<k.2 then bif d.1==2&&a.2 then bif g then .next k (c,(i,b.1,f.1,e.2.2),j)else .next k (c,(x.2.1.1,e.1,f.1,e.2.2),j)else bif d.1==1&& !a.2 then bif g then .next k (c,(i,b.1,h.1,e.2.2),j)else .next k (c,(x.2.1.1,e.1,h.1,e.2.2),j)else bif g then .next k (c,(i,b.1,e.2),j)else .next k (c,x.2)else .brk k x
def Un k x:=endOf uu k (Nat.succ (C2 k x)) x
def eZ(x:(List (aO))×bY):=((),(Un (x.1,x.1.length) (0,x.2)).2)
def yM(x:(List (aO))×bY):Prop:=x.1.length<=1000/\dt x.1 x.2/\x.2.1.1.length<=50000
def wm(x:ae×(List aX)×ax):af:=letI b:=aa x.2.1 x.2.2.1;letI a:=wB (x.1,x.2.2.1,b,x.2.2.2);bif Ay b then(1,a)else(0,a)
def vf(x:ae×(List aX)×ax):Prop:=0<=x.2.2.1/\x.2.2.1<x.2.1.length
def RC(k:(List Int)×Int)(x:Int×au):Prop:=0<=x.1/\k.2=k.1.length/\cD x.2/\k.1.length=x.2.1.2.2.2.2.2.2.2.length
def CY(k:((List Int)×Int))(x:(Int×au)):Nat:=(k.2-x.1).toNat
def tZ(k:(List Int)×Int)(x:Int×au):=letI a:=x.2.2.2.2.2.2.2.2.2.2.2.2.2.2.2;letI b:=x.2.2.1.2.2.2.1;aH gM a x.1 (Nk (x.2.1,x.1,aa k.1 x.1,aa (aH eL b x.1 (mq (x.2.1,x.1,aa b x.1,mo (x.2.1,x.2.2.1.1,x.1))).1) x.1),(aa a x.1).2)
def Qr(k:(List Int)×Int)(x:Int×au):=letI a:=aa (tZ k x) x.1;aa (aH gM (tZ k x) x.1 (a.1,a.2.1,a.2.2.1,a.2.2.2.1,aa k.1 x.1,a.2.2.2.2.2)) x.1
def mZ(k:(List Int)×Int)(x:Int×au):=letI a:=aa (tZ k x) x.1;letI b:=Qr k x;aH gM (aH gM (tZ k x) x.1 (a.1,a.2.1,a.2.2.1,a.2.2.2.1,aa k.1 x.1,a.2.2.2.2.2)) x.1 (b.1,b.2.1,b.2.2.1,b.2.2.2.1,b.2.2.2.2.1,aa x.2.2.1.1.2.1 x.1)
def BW(k:(List Int)×Int)(x:Int×au):=letI c:=x.2.2.2.2.2.2.2.2.2.2.2.2.2.2.2;letI a:=aH gM c x.1 (Nk (x.2.1,x.1,aa k.1 x.1,aa x.2.2.1.2.2.2.1 x.1),(aa c x.1).2);letI b:=aa a x.1;aH gM a x.1 (b.1,b.2.1,b.2.2.1,b.2.2.2.1,aa k.1 x.1,b.2.2.2.2.2)
def mW(k:(List Int)×Int)(x:Int×au):=letI a:=aa (BW k x) x.1;aH gM (BW k x) x.1 (a.1,a.2.1,a.2.2.1,a.2.2.2.1,a.2.2.2.2.1,aa x.2.2.1.1.2.1 x.1)
def uV(k:(List Int)×Int)(x:Int×au):ak ((List Int)×Int) (Int×au) (Unit×au):=bif x.1<k.2 then bif gB (aa k.1 x.1)&& !aa x.2.2.1.1.2.1 x.1 then bif aa x.2.2.2.2.2.2.2.2.2.1 x.1|| !Ab (aa k.1 x.1,(aa (mZ k x) x.1).2.2.2.1)then .next k (i64.wrap (x.1+1),x.2.1,(x.2.2.1.1,x.2.2.1.2.1,x.2.2.1.2.2.1,aH eL x.2.2.1.2.2.2.1 x.1 (mq (x.2.1,x.1,aa x.2.2.1.2.2.2.1 x.1,mo (x.2.1,x.2.2.1.1,x.1))).1,x.2.2.1.2.2.2.2),x.2.2.2.1,x.2.2.2.2.1,x.2.2.2.2.2.1,x.2.2.2.2.2.2.1,x.2.2.2.2.2.2.2.1,x.2.2.2.2.2.2.2.2.1,x.2.2.2.2.2.2.2.2.2.1,x.2.2.2.2.2.2.2.2.2.2.1,x.2.2.2.2.2.2.2.2.2.2.2.1,x.2.2.2.2.2.2.2.2.2.2.2.2.1,x.2.2.2.2.2.2.2.2.2.2.2.2.2.1,x.2.2.2.2.2.2.2.2.2.2.2.2.2.2.1,aH gM (mZ k x) x.1 ((aa (mZ k x) x.1).1,(aa (mZ k x) x.1).2.1,(aa (mZ k x) x.1).2.2.1,(0:Int),(aa (mZ k x) x.1).2.2.2.2))else .next k (i64.wrap (x.1+1),x.2.1,(x.2.2.1.1,x.2.2.1.2.1,x.2.2.1.2.2.1,aH eL x.2.2.1.2.2.2.1 x.1 (mq (x.2.1,x.1,aa x.2.2.1.2.2.2.1 x.1,mo (x.2.1,x.2.2.1.1,x.1))).1,x.2.2.1.2.2.2.2),x.2.2.2.1,x.2.2.2.2.1,x.2.2.2.2.2.1,x.2.2.2.2.2.2.1,x.2.2.2.2.2.2.2.1,x.2.2.2.2.2.2.2.2.1,x.2.2.2.2.2.2.2.2.2.1,x.2.2.2.2.2.2.2.2.2.2.1,x.2.2.2.2.2.2.2.2.2.2.2.1,x.2.2.2.2.2.2.2.2.2.2.2.2.1,x.2.2.2.2.2.2.2.2.2.2.2.2.2.1,x.2.2.2.2.2.2.2.2.2.2.2.2.2.2.1,mZ k x)else bif aa x.2.2.2.2.2.2.2.2.2.1 x.1|| !Ab (aa k.1 x.1,(aa (mW k x) x.1).2.2.2.1)then .next k (i64.wrap (x.1+1),x.2.1,x.2.2.1,x.2.2.2.1,x.2.2.2.2.1,x.2.2.2.2.2.1,x.2.2.2.2.2.2.1,x.2.2.2.2.2.2.2.1,x.2.2.2.2.2.2.2.2.1,x.2.2.2.2.2.2.2.2.2.1,x.2.2.2.2.2.2.2.2.2.2.1,x.2.2.2.2.2.2.2.2.2.2.2.1,x.2.2.2.2.2.2.2.2.2.2.2.2.1,x.2.2.2.2.2.2.2.2.2.2.2.2.2.1,x.2.2.2.2.2.2.2.2.2.2.2.2.2.2.1,aH gM (mW k x) x.1 ((aa (mW k x) x.1).1,(aa (mW k x) x.1).2.1,(aa (mW k x) x.1).2.2.1,(0:Int),(aa (mW k x) x.1).2.2.2.2))else .next k (i64.wrap (x.1+1),x.2.1,x.2.2.1,x.2.2.2.1,x.2.2.2.2.1,x.2.2.2.2.2.1,x.2.2.2.2.2.2.1,x.2.2.2.2.2.2.2.1,x.2.2.2.2.2.2.2.2.1,x.2.2.2.2.2.2.2.2.2.1,x.2.2.2.2.2.2.2.2.2.2.1,x.2.2.2.2.2.2.2.2.2.2.2.1,x.2.2.2.2.2.2.2.2.2.2.2.2.1,x.2.2.2.2.2.2.2.2.2.2.2.2.2.1,x.2.2.2.2.2.2.2.2.2.2.2.2.2.2.1,mW k x)else .brk k x
def Ub k x:=endOf uV k (Nat.succ (CY k x)) x
def Vn(x:au):=letI b:=x.2.2.2;letI a:=b.2.2;Ub (x.2.1.1.1,x.2.1.1.1.length) (0,x.1,x.2.1,x.2.2.1,b.1,b.2.1,a.1,a.2.1,a.2.2.1,a.2.2.2.1,cd x.2.1.1,a.2.2.2.2.2.1,!b.1,a.2.2.2.2.2.2.2)
def sY(x:au):=((),(Vn x).2)
def UA(x:au):Prop:=cD x
def F26(x:ae×aW):=F71 (wN (x.1,x.2.2.1),x.2.1)
def aqB(x:ae×aW):Prop:=x.2.2.1.1.1.size<=500000/\x.2.2.1.1.2.size<=500000
def aaM:Ct:=⟨Ty.pair az (Ty.pair eu ab),[some 8,some 3,none],Ty.pair eu (Ty.pair bO (Ty.pair ab bI)),ah.tup [some 3,some 4,none,none],some Zx,none,pq⟩
def Fh:Cv:=⟨Ty.pair vR (Ty.pair ab az),[none,none],[.v,.v,.c 63 1],[8],true,[],Ty.unit,aw,ah.one none,[],none,Gm,false⟩
def KP:Cv:=⟨Ty.pair ab dj,[none],[.p,.v],[43],false,[(16,true,70),(17,true,142),(18,true,153),(19,true,158),(33,true,4),(34,true,51),(35,true,4),(43,true,85)],dj,Ty.unit,ah.none,[(15,true,70),(16,true,142),(17,true,153),(18,true,158),(32,true,4),(33,true,51),(34,true,4),(42,true,85)],some UR,oQ,false⟩
def Wx:Ct:=⟨Ty.pair az (Ty.pair eu (Ty.pair bO (Ty.pair jx ab))),[some 8,some 3,some 4,some 5,none],Ty.pair eu (Ty.pair bO (Ty.pair ab bI)),ah.tup [some 3,some 4,none,none],none,none,mn⟩
def Yw:Ct:=⟨Ty.pair az (Ty.pair fB (Ty.pair ab sU)),[some 8,some 16,none,some 4],eR,ah.one (some 12),some Vx,none,vZ⟩
def ET:Cv:=⟨Ty.pair dF oB,[none],[.p,.v],[20],false,[(1,true,213),(6,true,3)],oB,Ty.unit,ah.none,[(0,true,213),(5,true,3)],some yM,eZ,false⟩
def WL:Ct:=⟨Ty.pair az (Ty.pair gw (Ty.pair ab (Ty.pair ab ab))),[some 8,none,none,none,none],vN,ah.one (some 2),some vf,none,wm⟩
def EL:Cv:=letI a:=(16,true,142);letI b:=(17,true,153);letI c:=(18,true,158);⟨dj,[],[.p],[43],false,[(15,true,70),a,b,c,(32,true,4),(33,true,51),(34,true,4),(42,true,85)],dj,Ty.unit,ah.none,[(15,true,70),a,b,c,(32,true,4),(33,true,51),(34,true,4),(42,true,85)],some UA,sY,false⟩
def aat:Ct:=⟨Ty.pair az fB,[some 8,some 16],aw,ah.one none,some aqB,none,F26⟩
def lC(z:List (Nat×List Nat)):=dB (PZ true) lY cY R2 z
theorem asG:an 51 aaM:=ao (lC []) func51 [] l0 (sp λx fx h=>sl (L9 (x.1,x.2.1)) (by
 exact h))
def Vl:LS (Ty.pair aw Ty.unit).den:=aD (Ty.pair vR (Ty.pair ab az)) ab [(13,none),(14,none)] [(3000,8)] [(15,none)] [] [] [] [] 0 true Ed zx D5 [(2,63,[3000])]
theorem als:gW f62 Fh [0] Vl:=have E:=ai @Ed.eq_1<|ai @D5.eq_1<|ai @zx.eq_1 SN;lV (lC []) [] l0 (λk x fk fx h=>sm (decide (x<k.2.1)=true->0<=x/\x<k.1.length))
theorem atY:dL 62 Fh:=have E:=ai @Ed.eq_1 SN;dU (lC []) func62 [(4,Vl)] (lc als l0) (λx fx _=>sl (letI a:=x.1.length;(a !=x.2.1)=false->Ed (x.1,a,x.2.2) 0))
theorem an5:dL 172 KP:=dU (lC []) func172 [] l0 (sp λx fx h=>sl (letI b:=x.2.2;letI a:=0<=x.1/\x.1<(b.1.2.2.2.1.length:Int);(0<=x.1/\x.1<(b.2.2.2.2.2.1.length:Int))/\(((!b.2.2.1)=true->(a/\a))/\((!b.2.2.1)=false->((0<=x.1/\x.1<(b.1.2.2.1.length:Int))/\(EI (x.2.1.1,(aa b.1.2.2.1 x.1).1)/\(0<=x.1/\x.1<b.2.2.2.2.2.2.1.length)/\a/\a))))) (by
 try dsimp only[Ty.den]at*
 obtain⟨h,r⟩:cD x.2/\0<=x.1/\x.1<(x.2.1.2.2.2.2.2.2.2.length:Int):=h;have r1:=df r h.c1;have r2:=df r h.c2;exact⟨df r h.c5,λ_=>⟨r2,r2⟩,λ_=>⟨r1,gI h.cf r1,df r h.c6,r2,r2⟩⟩))
theorem an8:an 212 Wx:=ao (lC []) func212 [] l0 (λx fx _=>sl (letI b:=x.2.2;letI e:=b.2.1;letI f:=(b.1,e.2.1,e.2.2.1);letI g:=fy (x.1,b.1,e);letI h:=x.1.2.2.1;letI i:=x.2.1;letI d:=tE (x.1,i,g.1,b.2.2);letI j:=my (x.1,e);letI a:=decide ((j.1.size:Int)<=i64.wrap (h - ((fc i).size:Int)));letI c:=qo (h,i,i.2,j.1,b.2.2);(((g.2 !=0)||(!(eA (h,i))))||decide (b.2.2<0))=false->(zt f/\((((e.1==1)&&(!(bN f).2))&&(!(gS (x.1,b.1))))=false->((a=true->((c.2.2==0)=false->((c.2.2==8)=true->DS b.1)))/\(a=false->(d.2.2==0)=false->(d.2.2==8)=true->DS b.1))))) (by
 try dsimp only[Ty.den]at*
 intro hc;rw[au1,au1,avc]at hc;have hm:=ah9 (b:=x.1) (m:=x.2.2.1) (r:=x.2.2.2.1) fx.1.2.2.2.2.2.2.2.1 fx.2.2.1.1.1 fx.2.2.1.2.2.2.1 hc.1.1;exact⟨adm hm.1,λ_=>⟨λ_ _ _=>hm.1.clone,λ_ _ _=>hm.1.clone⟩⟩))
theorem anD:an 227 Yw:=ao (lC []) func227 [] l0 (sp λx fx h=>sl (letI a:=x.2.2.1;letI c:=x.2.1;letI b:=aa c.1.1 a;letI d:=JW (x.1,c.1,a);letI e:=c.2.2.2;letI f:=b==4;(0<=a/\a<(c.1.1.length:Int))/\((0<=a/\a<(e.2.1.length:Int))/\((0<=a/\a<(c.1.2.1.length:Int))/\((gB b=true->(0<=a/\a<(e.1.length:Int)))/\(gB b=false->((0<=a/\a<e.2.2.1.length)/\(f=true->Kd (x.1,aa e.2.1 a,x.2.2.2)/\d)/\(f=false->d))))))) (by
 try dsimp only[Ty.den]at*
 have h:NG x:=h;have q1:=df h.kq h.aK;have hz:aa x.2.1.1.1 x.2.2.1=0:=gI h.ph h.kq;exact⟨h.kq,q1,df h.kq h.flags,λ_=>df h.kq h.aug,λhd=>Im hz hd⟩))
def TS:LS (Ty.pair Ty.unit oB).den:=aD (Ty.pair dF ab) (Ty.pair ab oB) [(10,none),(11,none)] [] [(12,none)] [(0,20)] [(1,100101,true,213),(6,100106,true,3)] [] [(0,0)] 0 false S7 uu C2
theorem ajF:gW f222 ET [0] TS:=lV (lC []) [] l0 (λk x fk fx h=>sl (letI c:=aa k.1 x.1;letI d:=aO;letI h:=x.2.1;letI a:=((fy (x.2.2,h.2.1,c)).2==0)=true->((List.length (h.1:List d)+List.length ([c]:List d))*40<=140737488355328/\List.length (h.1:List d)+List.length ([c]:List d)<=4611686018427387903);letI b:=(h.2.1,c.2.1,c.2.2.1);letI e:=eO b;letI f:=(c.1==1)&&(!e.2);letI g:=(c.1==2)&&e.2;decide (x.1<k.2)=true->((0<=x.1/\x.1<(k.1.length:Int))/\(Ur b/\((g=true->(J9 (h.2.2.1,e.1,i64.wrap (e.1+1))/\a))/\(g=false->(f=true->Kv (h.2.2.1,e.1,[0])/\a)/\(f=false->a)))))) (by
 try dsimp only[Ty.den]at*
 obtain⟨h0,h1,h2,h3,h4⟩:=h;intro hc;rw[adv]at hc;have r:=gR h0 (h1▸hc);have hr:=gI h3.dv r;have hn:=aoV h1 h2 hc;exact⟨r,adm h3.ba,λc1=>⟨(Mk h3.ba hr h3.exp c1).1,λ_=>Fx h4 hn⟩,λ_=>⟨λc2=>⟨(exp2 h3.ba hr h3.exp c2).1,λ_=>Fx h4 hn⟩,λ_ _=>Fx h4 hn⟩⟩)) λk x fk h=>by
 try dsimp only[Ty.den]at*
 obtain⟨h0,h1,h2,h3,h4⟩:=h;unfold uu;refine aJ.cnd (λhc=> ?_) (λ_=>rfl);rw[adv]at hc;have r:=gR h0 (h1▸hc);have hr:=gI h3.dv r;have e:=cC h0 (h1▸hc) (auv h2 (by decide));have hz:((fy (x.2.2,x.2.1.2.1,(aa k.1 x.1))).2==(0:Int))=true:=by rw[rH h3.ba hr];rfl
 have hi:=agh h3.ba hr;rw[e];refine aJ.cnd (λc1=>aJ.cnd (λ_=> ?_) (λz=> ?_)) (λc1=>aJ.cnd (λc2=>aJ.cnd (λ_=> ?_) (λz=> ?_)) (λc2=>aJ.cnd (λ_=> ?_) (λz=> ?_)))
 ·exact⟨rfl,⟨cH h0,h1,h2,⟨hi,(Mk h3.ba hr h3.exp c1).2,h3.dv⟩,Lo h4⟩,cI hc⟩
 ·rw[hz]at z;cases z
 ·exact⟨rfl,⟨cH h0,h1,h2,⟨hi,(exp2 h3.ba hr h3.exp c2).2,h3.dv⟩,Lo h4⟩,cI hc⟩
 ·rw[hz]at z;cases z
 ·exact⟨rfl,⟨cH h0,h1,h2,⟨hi,acv h3.ba hr h3.exp c1 c2,h3.dv⟩,Lo h4⟩,cI hc⟩
 ·rw[hz]at z;cases z
theorem aoM:dL 222 ET:=dU (lC []) func222 [(1,TS)] (lc ajF l0) (sp λx fx h=>sl (S7 (x.1,x.1.length) (0,x.2)) (by
 try dsimp only[Ty.den]at*
 obtain⟨h1,h2,h3⟩:x.1.length<=1000/\dt x.1 x.2/\x.2.1.1.length<=50000:=h;exact⟨au8 _,rfl,h1,h2,apM h3⟩))
theorem aoK:an 297 WL:=ao (lC []) func297 [] l0 (sp λx fx h=>sl (letI a:=0<=x.2.2.1/\x.2.2.1<x.2.1.length;a/\a) (by
 exact⟨h,h⟩))
def Ti:LS (Ty.pair Ty.unit dj).den:=aD (Ty.pair cX ab) (Ty.pair ab dj) [(29,none),(30,none)] [] [(31,none)] [(0,43)] [(16,100216,true,70),(17,100217,true,142),(18,100218,true,153),(19,100219,true,158),(33,100233,true,4),(34,100234,true,51),(35,100235,true,4),(43,100243,true,85)] [] [(0,0)] 0 false RC uV CY
theorem aiI:gW f131 EL [0] Ti:=lV (lC []) [] l0 (λk x fk fx h=>sl (letI e:=x.2.2.1;letI f:=(e.1.2.1.length:Int);letI g:=gB (aa k.1 x.1);letI d:=g&&(!(aa e.1.2.1 x.1));letI h:=x.2.2.2.2.2.2.2.2.2;letI a:=(0<=x.1/\x.1<f)/\(0<=x.1/\x.1<(h.1.length:Int));letI c:=0<=x.1/\x.1<(h.2.2.2.2.2.2.length:Int);letI i:=(x.2.1,e.1,x.1);letI j:=e.2.2.2.1;letI b:=0<=x.1/\x.1<(j.length:Int);decide (x.1<k.2)=true->((0<=x.1/\x.1<(k.1.length:Int))/\((g=true->0<=x.1/\x.1<f)/\((d=true->(b/\(JW i/\(b/\(c/\((0<=x.1/\x.1<((aH eL j x.1 (mq (x.2.1,x.1,aa j x.1,mo i)).1).length:Int))/\a))))))/\(d=false->c/\b/\a))))) (by
 try dsimp only[Ty.den]at*
 obtain⟨h0,h1,h2,h3⟩:=h;intro hc;rw[adv]at hc;have r:=gR h0 (h1▸hc);have q1:=df r (h2.p2.trans h3.symm);have q2:=df r (h2.c2.trans h3.symm);have q3:=df r (h2.c8.trans h3.symm);have q4:=df r (h2.c7.trans h3.symm);exact⟨r,λ_=>q1,λ_=>⟨q2,lR h2.p1 h2.n8,q2,q3,df q2 (auz ..),q1,q4⟩,λ_=>⟨q3,q2,q1,q4⟩⟩)) λk x fk h=>by
 try dsimp only[Ty.den]at*
 obtain⟨h0,h1,h2,h3⟩:=h;unfold uV;refine aJ.cnd (λhc=> ?_) (λ_=>rfl);rw[adv]at hc;have e:=cC h0 (h1▸hc) (auv (lR h3 h2.n8) (by decide));rw[e];repeat' (first|refine aJ.cnd (λ_=> ?_) (λ_=> ?_))
 all_goals exact⟨rfl,⟨cH h0,h1,⟨h2.n8,h2.cf,h2.c1,(by first|exact h2.c2|exact(auz ..).trans h2.c2),h2.c3,h2.c4,h2.c5,h2.c6,h2.c7,(by simp only[tZ,Qr,mZ,BW,mW,aH,auz];exact h2.c8),h2.p1,h2.p2,h2.p3,h2.ph,h2.bf,h2.cmd,h2.iU⟩,h3⟩,cI hc⟩
theorem Yk:dL 131 EL:=dU (lC []) func131 [(2,Ti)] (lc aiI l0) (sp λx fx h=>sl (letI b:=x.2.2.2;letI a:=b.2.2;RC (x.2.1.1.1,x.2.1.1.1.length) (0,x.1,x.2.1,x.2.2.1,b.1,b.2.1,a.1,a.2.1,a.2.2.1,a.2.2.2.1,cd x.2.1.1,a.2.2.2.2.2.1,!b.1,a.2.2.2.2.2.2.2)) (by
 try dsimp only[Ty.den]at*
 have h:cD x:=h;exact⟨au8 _,rfl,⟨h.n8,h.cf,h.c1,h.c2,h.c3,h.c4,h.c5,h.c6,h.c7,h.c8,h.p1,h.p2,h.p3,h.ph,h.bf,h.cmd,h.iU⟩,h.p1⟩))
theorem asM:an 26 aat:=ao (lC []) func26 [] l0 (sp λx fx h=>sl (L9 (x.1,x.2.2.1)) (by
 exact h))
def abR(nw:Bool):=(62,.pv Fh)::(172,.pv KP)::(222,.pv ET)::(131,.pv EL)::aai nw
theorem PS(nw:Bool):ga (abR nw):=zc (z:= .pv Fh) atY func62 (zc (z:= .pv KP) an5 func172 (zc (z:= .pv ET) aoM func222 (zc (z:= .pv EL) Yk func131 ((PZ nw)))))
def aa5:=(51,aaM)::(212,Wx)::(227,Yw)::(297,WL)::(26,aat)::acF
theorem SE:cr aa5:=gc asG func51 (gc an8 func212 (gc anD func227 (gc aoK func297 (gc asM func26 (R2)))))
section
abbrev bw:=af
def bz(x:Int)(i:Nat):Bool:=(BitVec.ofInt 32 x).getLsbD i
theorem pZ{x:Int}(g:W x){i:Nat}(hi:i<32):bz x i=bit x i:=UF g.1 i hi
theorem Ln(v:BitVec 32)(i:Nat):bz (u32.wrap v.toNat) i=v.getLsbD i:=by
 rw[wrap32,bz,BitVec.ofInt_natCast,BitVec.ofNat_toNat,BitVec.setWidth_eq]
theorem Ui(x y:Int)(i:Nat):bz (zT x y) i=(bz x i&&bz y i):=by
 show bz (u32.wrap ((BitVec.ofInt 32 x&&&BitVec.ofInt 32 y).toNat:Int)) i=_;rw[Ln,BitVec.getLsbD_and];rfl
theorem E0(x y:Int)(i:Nat):bz (FX x y) i=(bz x i||bz y i):=by
 show bz (u32.wrap ((BitVec.ofInt 32 x|||BitVec.ofInt 32 y).toNat:Int)) i=_;rw[Ln,BitVec.getLsbD_or];rfl
theorem Jy(x y:Int){i:Nat}(hi:i<32):bz (KC x y) i=(bz x i&& !bz y i):=by
 show bz (u32.wrap ((BitVec.ofInt 32 x&&& ~~~BitVec.ofInt 32 y).toNat:Int)) i=_;rw[Ln,BitVec.getLsbD_and,BitVec.getLsbD_not,ax1 hi,axs];rfl
theorem uG(i:Nat):bz 0 i=false:=by simp[bz]
theorem DX{f i:Nat}(hf:f<32)(hi:i<32):bz (u32.wrap (1*2^(min ((f:Int)).toNat u32.bits))) i=decide (i=f):=by
 grind [pZ,sv,ajY]
theorem W.R9{x:Int}(g:W x)(h: ∀i,i<32->bz x i=false):x=0:=W.ext g W.zero λi hi=>by simp_all [pZ,aht]
def bn(c:bw)(f:Nat)(d:Int):Bool:=bif d==1 then bz c.1 f else bif d==2 then bz c.2 f else false
def WC(c:bw):Prop:=W c.1/\W c.2
theorem Nv(c:bw)(f:Nat):bn c f 1=bz c.1 f:=rfl
theorem Nw(c:bw)(f:Nat):bn c f 2=bz c.2 f:=rfl
theorem WC.ext{a b:bw}(g:WC a)(hb:WC b)(h: ∀f,f<32-> ∀d,d=1\/d=2->bn a f d=bn b f d):a=b:=
 aww (W.ext g.1 hb.1 λi hi=>by rw[<- pZ g.1 hi,<- pZ hb.1 hi];exact h i hi 1 (.inl rfl)) (W.ext g.2 hb.2 λi hi=>by rw[<- pZ g.2 hi,<- pZ hb.2 hi];exact h i hi 2 (.inr rfl))
section
variable (a b:bw) {f:Nat} {d:Int} (hf:f<32) (hd:d=1\/d=2)
include hf hd
theorem xN:bn (dG (a,b)) f d=(bn a f d&&bn b f d):=by rcases hd with rfl|rfl<;>exact Ui _ _ _
theorem xE:bn (gi (a,b)) f d=(bn a f d||bn b f d):=by rcases hd with rfl|rfl<;>exact E0 _ _ _
theorem BA:bn (ew (a,b)) f d=(bn a f d&& !bn b f d):=by rcases hd with rfl|rfl<;>exact Jy _ _ hf
theorem BD:bn (eB (a,b)) f d=(bn a f d&&bn b f d):=by rcases hd with rfl|rfl<;>exact Ui _ _ _
theorem aeB:bn (iq (a,b)) f d=(bn a f d||bn b f d):=by rcases hd with rfl|rfl<;>exact E0 _ _ _
theorem Bm:bn (dM (a,b)) f d=(bn a f d&& !bn b f d):=by rcases hd with rfl|rfl<;>exact Jy _ _ hf
end
theorem Sa(x:bw×bw):WC (dG x):=⟨zF _ _,zF _ _⟩
theorem H5(x:bw×bw):WC (gi x):=⟨qG _ _,qG _ _⟩
theorem P8(x:bw×bw):WC (eB x):=⟨zF _ _,zF _ _⟩
theorem af8(x:bw×bw):WC (iq x):=⟨qG _ _,qG _ _⟩
theorem afn(x:bw×bw):WC (dM x):=⟨UW _ _,UW _ _⟩
theorem yi:WC (0,0):=⟨W.zero,W.zero⟩
theorem mX(f:Nat)(d:Int):bn (0,0) f d=false:=by
 simp_all [bn,uG]
theorem I6{f g:Nat}{d e:Int}(hf:f<32)(h:g<32)(hd:d=1\/d=2)(i:e=1\/e=2):bn (ia (g,e)) f d=(decide (f=g)&&decide (d=e)):=by
 have j:(decide ((g:Int)>=0)&&decide ((g:Int)<32))=true:=by grind
 unfold ia;simp only[j];rcases hd with rfl|rfl<;>rcases i with rfl|rfl
 ·show bz (u32.wrap (1*2^(min ((g:Int)).toNat u32.bits))) f=_
  rw[DX h hf];simp
 ·show bz 0 f=_
  rw[uG];simp
 ·show bz 0 f=_
  rw[uG];simp
 ·show bz (u32.wrap (1*2^(min ((g:Int)).toNat u32.bits))) f=_
  rw[DX h hf];simp
theorem uU(c:bw){f:Nat}{d:Int}(hf:f<32)(hd:d=1\/d=2):gg (c,f,d)=bn c f d:=by
 have key: ∀g,g<32-> ∀e,e=1\/e=2->bn (dG (c,ia (f,d))) g e=(bn c g e&&(decide (g=f)&&decide (e=d))):=λg j e k=>by
  simp_all [xN,I6]
 have h:=Sa (c,ia (f,d));unfold gg;generalize hb:dG (c,ia (f,d))=b at key h;cases hm:bn c f d with
 |true=>
  grind [Nv,uG,Nw]
 |false=>
  have h0: ∀g,g<32-> ∀e,e=1\/e=2->bn b g e=false:=λg j e k=>by
   rw[key g j e k];by_cases h1:g=f/\e=d
   ·rw[h1.1,h1.2,hm,ayo]
   ·have:(decide (g=f)&&decide (e=d))=false:=by
     rw[av2,au0,au0];by_cases h2:g=f
     ·exact .inr λh3=>h1 ⟨h2,h3⟩
     ·exact .inl h2
    rw[this,ay3]
  have l:=W.R9 h.1 λi hi=>h0 i hi 1 (.inl rfl)
  have m:=W.R9 h.2 λi hi=>h0 i hi 2 (.inr rfl)
  rw[l,m];rfl
theorem afp:(List.range 31).all (λn=>(List.range 32).all λf=>(bn (nA (n+2)) f 1==decide (f<=(n:Int)+2-2))&&(bn (nA (n+2)) f 2==(decide (1<=(f:Int))&&decide (f<=(n:Int)+2-1))))=true:=by kernel_rfl
theorem PF{fl:Int}(h:2<=fl/\fl<=32){f:Nat}{d:Int}(hf:f<32)(hd:d=1\/d=2):bn (nA fl) f d=true↔da fl f d:=by
 obtain⟨n,g⟩: ∃n:Nat,fl=n+2:=⟨(fl-2).toNat,by omega⟩
 have h1:=List.all_eq_true.1 (List.all_eq_true.1 afp n (List.mem_range.2 (by omega))) f (List.mem_range.2 hf);grind [da]
theorem Cr{b:ae}(g:aR b){f:Nat}{d:Int}(hf:f<32)(hd:d=1\/d=2):bn (dS b) f d=true↔da b.1 f d:=by
 have hl:b.aK.length<=maxLen:=by have h1:=g.cn.2;grind [maxLen]
 rw[RD b hl,avf g];exact PF g.fl hf hd
theorem BN{c:bw}{e:aC}:e∈hU c↔ ∃f:Nat,f<32/\ ∃d:Int,(d=1\/d=2)/\bn c f d=true/\e=((f:Int),d,-1,0,false):=by
 unfold hU;rw[List.mem_flatMap];constructor
 ·rintro⟨f,hf,he⟩
  have hf:=List.mem_range.1 hf;rw[uU c hf (.inl rfl),uU c hf (.inr rfl),awv]at he;rcases he with he|he
  ·cases hm:bn c f 1 with
   |true=>rw[hm,au3,awl]at he;exact⟨f,hf,1,.inl rfl,hm,he⟩
   |false=>rw[hm,auw]at he;cases he
  ·cases hm:bn c f 2 with
   |true=>rw[hm,au3,awl]at he;exact⟨f,hf,2,.inr rfl,hm,he⟩
   |false=>rw[hm,auw]at he;cases he
 ·rintro⟨f,hf,d,hd,hm,rfl⟩
  refine⟨f,List.mem_range.2 hf,?_⟩;rw[uU c hf (.inl rfl),uU c hf (.inr rfl),awv];rcases hd with rfl|rfl
  ·left;rw[hm,au3];exact List.mem_singleton.2 rfl
  ·right;rw[hm,au3];exact List.mem_singleton.2 rfl
theorem BH{b:ae}(h:aR b)(p o:bw): ∀e∈mz (ew (dG (p,dS b),o)),da b.1 e.1 e.2.1:=λe g=>by
 obtain⟨f,hf,d,hd,hm,rfl⟩:=BN.1 g;simp_all [BA,xN,Cr]
end
theorem BO{α β K ρ:Type}{step:K->Int×β->ak K (Int×β) ρ}{k:K}(l:List α)(f:β->α->β)(I:β->Prop)(hl:l.length<=maxLen)
  (h: ∀m (i:Nat) (hi:i<l.length),I m->step k (i,m)= .next k (i64.wrap (i+1),f m l[i])/\I (f m l[i]))
  (hb: ∀m,I m->step k (l.length,m)= .brk k (l.length,m)) (m0:β) (h0:I m0) {fuel:Nat} (j:l.length<fuel):
  endOf step k fuel (0,m0)=((l.length:Int),l.foldl f m0)/\bd step k fuel (0,m0)=none/\I (l.foldl f m0):=by
 have key: ∀(n i:Nat) (m:β),l.length-i=n->i<=l.length->n<fuel->I m-> ∀a,n<a->endOf step k a (i,m)=((l.length:Int),(l.drop i).foldl f m)/\bd step k a (i,m)=none/\I ((l.drop i).foldl f m):=by
  intro n;induction n with
  |zero=>
   intro i m s hi _ o a t;have:i=l.length:=by omega
   subst this;obtain⟨g,rfl⟩: ∃g,a=g+1:=⟨a-1,by omega⟩
   simp_all [endOf,bd]
  |succ n u=>
   intro i m s hi w o a t;obtain⟨g,rfl⟩: ∃g,a=g+1:=⟨a-1,by omega⟩
   obtain⟨h1,h2⟩:=h m i (by omega) o;rw[av8 (by omega:i<l.length),awd];simp only[endOf,bd,h1];rw[pC (by omega:i<l.length) hl];exact u (i+1) _ (by omega) (by omega) (by omega) h2 g (by omega)
 have:=key l.length 0 m0 (by omega) (awb _) j h0 fuel j;simp_all
def qB(m:aq)(e:List Int)(r:aT):List Int:=
 bif(r.1==2)&&(eO (m,r.2.1,r.2.2.1)).2 then iR e (eO (m,r.2.1,r.2.2.1)).1
 else bif(r.1==1)&&(!(eO (m,r.2.1,r.2.2.1)).2)then jK e (eO (m,r.2.1,r.2.2.1)).1 [0]else e
def cF(x:bY)(r:aT):bY:=((x.1.1++ [r],(ej (r,x.1.2.1)).2,qB x.1.2.1 x.1.2.2.1 r,x.1.2.2.2),x.2)
theorem ag4{x:bY}{r:aT}{l:List aT}(h:dt l x)(hr:dh x.2 r):dt l (cF x r):=by
 refine⟨pz h.ba hr,?_,h.dv⟩;show(qB x.1.2.1 x.1.2.2.1 r).length=(ej (r,x.1.2.1)).2.2.2.2.length;have a: ∀n,n=(fy (x.2,x.1.2.1,r)).1.2.2.2.length->n=(ej (r,x.1.2.1)).2.2.2.2.length:=λn f=>by rw[f,rH h.ba hr]
 unfold qB;cases c1:((r.1==2)&&(eO (x.1.2.1,r.2.1,r.2.2.1)).2)with
 |true=>exact a _ (Mk h.ba hr h.exp c1).2
 |false=>
  cases c2:((r.1==1)&&(!(eO (x.1.2.1,r.2.1,r.2.2.1)).2))with
  |true=>exact a _ (exp2 h.ba hr h.exp c2).2
  |false=>exact a _ (acv h.ba hr h.exp c1 c2)
theorem rE{l:List aT}{x:bY}(h:dt l x)(hl:l.length<=maxLen):eZ (l,x)=((),l.foldl cF x)/\dt l (l.foldl cF x)/\(l.foldl cF x).2=x.2:=by
 have a:=BO (step:=uu) (k:=(l,l.length)) l cF (λm=>dt l m/\m.2=x.2) hl (λm i hi hm=>by
  have hr:=hm.1.dv _ (ayj hi);refine⟨?_,ag4 hm.1 hr,hm.2⟩;unfold uu;simp only[show((i:Int)<l.length)from by omega,cc l i hi];rw[rH hm.1.ba hr];simp only[cF,qB];cases c1:((l[i].1==2)&&(eO (m.1.2.1,l[i].2.1,l[i].2.2.1)).2)with
  |true=>rfl
  |false=>
   cases c2:((l[i].1==1)&&(!(eO (m.1.2.1,l[i].2.1,l[i].2.2.1)).2))<;>rfl) (λm hm=>by
  simp_all [uu]) x ⟨h,rfl⟩ (fuel:=Nat.succ (C2 (l,l.length) (0,x))) (by simp_all [C2])
 simp_all [eZ,Un]
theorem ku: ∀(l:List aT) (x:bY),(l.foldl cF x).1.1=x.1.1++l
 | [],x=>by simp
 |r::l,x=>by rw[awd,ku l];simp[cF]
theorem aeu{x:ae×dr}(hl:x.1.2.2.2.2.2.2.2.length<=maxLen)(h1:x.2.1.1.size<=500000)(h2:x.2.1.2.size<=500000):(wN x).2.2.2.length<=100000:=by
 have hs:=QO h1 h2;have r:=TN hl hs;have h:=ir (step:=so) (k:=((gA (x.1,fc x.2)).1,((gA (x.1,fc x.2)).1.length:Int))) (I:=λy=>0<=y.1/\y.2.2.2.2.length<=y.1/\y.1<=((gA (x.1,fc x.2)).1.length:Int)) (λy k' z f a=>by
  unfold so at a;revert a
  by_cases g:y.1<((gA (x.1,fc x.2)).1.length:Int)
  ·simp only[g]
   intro a;cases a;have q:=(G4 (aa (gA (x.1,fc x.2)).1 y.1) y.2).2.2.2;rw[aB (by omega) (by omega)];refine⟨by omega,abJ q f.2.1,by omega⟩
  ·simp only[g]
   intro a;cases a) (λy k' z f a=>by
  unfold so at a;revert a
  simp only[cond];split
  ·intro a;cases a
  ·intro a;cases a;exact f) (Nat.succ (DD ((gA (x.1,fc x.2)).1,((gA (x.1,fc x.2)).1.length:Int)) (0,(fZ x.1).1))) (0,(fZ x.1).1) ⟨au8 _,r.2.2.2.1,au9 _⟩
 show(endOf so ((gA (x.1,fc x.2)).1,((gA (x.1,fc x.2)).1.length:Int)) (Nat.succ (DD ((gA (x.1,fc x.2)).1,((gA (x.1,fc x.2)).1.length:Int)) (0,(fZ x.1).1))) (0,(fZ x.1).1)).2.2.2.2.length<=100000;omega
theorem aeb{x:ae×dr×Int}(hl:x.1.2.2.2.2.2.2.2.length<=maxLen)(h1:x.2.1.1.1.size<=500000)(h2:x.2.1.1.2.size<=500000):(pq x).2.1.2.2.2.length<=100000:=by
 unfold pq;simp only[cond];split;all_goals simp_all [aeu]
theorem cD.vw{t:au}(h:cD t){i:Int}(r:0<=i/\i<t.1.2.2.2.2.2.2.2.length){a:gq}:NG (t.1,t.2.1,i,a):=
 ⟨lR h.p1 h.n8,df r h.p1,h.c3.trans h.p1.symm,h.p2.trans h.p1.symm,h.c2.trans h.p1.symm,h.ph⟩
theorem Rs{b:ae}{f d:Int}(h:da b.1 f d):dh b (1,f,d,0,0):= .inl ⟨.inl rfl,h,rfl,rfl⟩
theorem dt.with{l a:List aT}{x:bY}(h:dt l x)(hr: ∀r∈a,dh x.2 r):dt a x:=⟨h.ba,h.exp,hr⟩
theorem IL{x:bY}{f d:Int}(h:dt [] x)(a:da x.2.1 f d):dt [(1,f,d,0,0)] x:=h.with λr hr=>by simp_all [Rs]
theorem atW{x:bY}{f d:Int}(h:dt [] x)(a:da x.2.1 f d):dt [] (eZ ([(1,f,d,0,0)],x)).2/\(eZ ([(1,f,d,0,0)],x)).2.2=x.2/\(eZ ([(1,f,d,0,0)],x)).2.1.1.length=x.1.1.length+1:=by
 obtain⟨h1,h2,h3⟩:=rE (IL h a) (by simp[maxLen]);rw[h1];exact⟨h2.with (λr hr=>by cases hr),h3,by grind [ku]⟩
theorem n40{α:Type}{l:List α}{x n:Int}{m:Nat}(h:l.length<=40000+x)(h1:n=m)(h2:m<=64)(a:x<n):l.length<=50000:=by omega
theorem n41{a b:Nat}{x:Int}(h:b<=40000+x)(f:a=b+1):a<=40000+(x+1):=by omega
theorem n42{b:Nat}{x:Int}(h:b<=40000+x):b<=40000+(x+1):=by omega
theorem n43{b:Nat}(h:b<=40000):(b:Int)<=40000+0:=by omega
theorem n44{α:Type}{l:List α}{k x:Int}(h:k=l.length)(a:x<k)(h0:0<=x):0<=x/\x<l.length:=⟨h0,h▸a⟩
theorem aki{α:Type}(a:α): [a].length<=1000:=by simp
theorem P5(c:af):(mz c).length<=64:=xJ c
def Ga(x:ae×dr×Int):aW×af:=letI b:=pq x;letI a:=Gf (x.1,b.2.1,b.1);bif b.2.2.2 !=0 then((([],[],[],[]),b.1,[],[],[],[],[],[],0,0,0),0,b.2.2.2)else bif a.2 !=0 then((([],[],[],[]),((ByteArray.empty,ByteArray.empty),0),[],[],[],[],[],[],0,0,0),0,a.2)else(a.1,b.2.2.1,0)
def Lw(x:ae×dr×Int):Prop:=x.2.1.1.1.size<=500000/\x.2.1.1.2.size<=500000
def qM(x:ae×aW):=letI a:=(x.1.2.2.2.2.2.2.2.length:Int);letI c:=x.2.2.2;letI b:=c.2.2.2;bif !pj (x.1,x.2.1)|| !eA (x.1.2.2.1,x.2.2.1)||(b.2.1.length:Int) !=x.2.1.2.2.2.length|| !px b.2.1|| !px [b.2.2.2.1,b.2.2.2.2.1,b.2.2.2.2.2]then false else(Gi (c.1,a,x.1)).1&&(Gs (c.2.1,a,x.1)).1&&(Gm (c.2.2.1,a,x.1)).1&&Gt (b.1,a,some 66)&&b.2.2.1.length==a
def C8(k:(List (aO))×Int)(x:Int×au):Prop:=0<=x.1/\k.2=k.1.length
def jS(k:((List (aO))×Int))(x:(Int×au)):Nat:=(k.2-x.1).toNat
def iJ(k:(List (aO))×Int)(x:Int×au):ak ((List (aO))×Int) (Int×au) (Unit×au):=letI b:=x.2.2;letI a:=mn (x.2.1,b.1.2.1,b.1.1,aa k.1 x.1,b.2.2.2.1);bif x.1<k.2 then bif b.2.2.2.2.1 !=0 then .ret ((),x.2)else .next k (i64.wrap (x.1+1),x.2.1,(a.2.1,a.1,b.1.2.2),b.2.1,b.2.2.1,a.2.2.1,a.2.2.2,b.2.2.2.2.2)else .brk k x
def yO k x:=endOf iJ k (Nat.succ (jS k x)) x
def yV k x:=bd iJ k (Nat.succ (jS k x)) x
def ed(x:(List (aO))×au):=letI a:=(x.1,(x.1.length:Int));letI b:=(0,x.2);dq (yV a b) (λy=>y) ((),(yO a b).2)
def Se(k:Int×au)(x:(List aX)×Int):Prop:=0<=x.2/\k.1=x.1.length/\cD k.2/\x.1.length=k.2.1.2.2.2.2.2.2.2.length
def yf(k:(Int×au))(x:((List (aX))×Int)):Nat:=(k.1-x.2).toNat
def QG(k:Int×au)(x:(List aX)×Int):=letI a:=aH eR x.1 x.2 (vZ (k.2.1,k.2.2.1,x.2,(aa k.2.2.2.1.2.2 x.2).2.1));letI b:=aa a x.2;letI c:=b.2.2.2;aH eR a x.2 (b.1,b.2.1,b.2.2.1,c.1,c.2.1,c.2.2.1,c.2.2.2.1,aa k.2.2.2.2.2.2.2.2.1 x.2,c.2.2.2.2.2)
def pS(k:Int×au)(x:(List aX)×Int):ak (Int×au) ((List aX)×Int) ((List aX)×Unit):=letI a:=i64.wrap (x.2+1);letI b:=k.2.2;letI c:=mA (b.1.1,x.2);bif x.2<k.1 then bif !b.2.2.1 then .next k (aH eR x.1 x.2 (false,c,false,aa b.1.1.2.1 x.2|| !c,(-1:Int),(0:Int),(0:Int),((0:Int),(0:Int)),(0:Int),(0:Int),(0:Int)),a)else bif aa b.2.2.2.2.2.1 x.2 then .next k (QG k x,a)else .next k (aH eR x.1 x.2 (vZ (k.2.1,b.1,x.2,(aa b.2.1.2.2 x.2).2.1)),a)else .brk k x
def amL k x:=endOf pS k (Nat.succ (yf k x)) x
def eN(x:au):=letI a:=aE eR x.1.2.2.2.2.2.2.2.length;((amL (a.length,x) (a,0)).1,())
def Vz(x:au):Prop:=cD x
def RJ(k:(List aC)×Int)(x:Int×bY):Prop:=0<=x.1/\k.2=k.1.length/\k.1.length<=64/\dt [] x.2/\(∀e∈k.1,da x.2.2.1 e.1 e.2.1)/\x.2.1.1.length<=40000+x.1
def CD(k:((List (aC))×Int))(x:(Int×bY)):Nat:=(k.2-x.1).toNat
def ux(k:(List aC)×Int)(x:Int×bY):ak ((List aC)×Int) (Int×bY) (Unit×bY):=letI a:=aa k.1 x.1;letI b:=i64.wrap (x.1+1);letI c:=x.2.1.2;bif x.1<k.2 then bif gS (x.2.2,c.1)then .next k (b,(eZ ([(1,a.1,a.2.1,0,0)],x.2)).2)else .next k (b,(x.2.1.1,c.1,c.2.1,c.2.2.1,gi (c.2.2.2,ia (a.1,a.2.1))),x.2.2)else .brk k x
def Ut k x:=endOf ux k (Nat.succ (CD k x)) x
def lx(x:(af)×(af)×bY):=letI a:=mz (ew (dG (x.1,dS x.2.2.2),x.2.1));((),(Ut (a,a.length) (0,x.2.2)).2)
def Ud(x:(af)×(af)×bY):Prop:=dt [] x.2.2/\x.2.2.1.1.length<=40000
def Dx(k:(List aX)×Int×Int×Int×(List aX)×Int×ae)(x:jX):Prop:=letI a:=k.2.2.2.2;0<=x.2.1/\a.2.1=a.1.length/\k.1.length=a.1.length
def CJ(k:(List aX)×Int×Int×Int×(List aX)×Int×ae)(x:jX):=(k.2.2.2.2.2.1-x.2.1).toNat
def uN(k:(List aX)×Int×Int×Int×(List aX)×Int×ae)(x:jX):ak ((List aX)×Int×Int×Int×(List aX)×Int×ae) (jX) Int:=letI c:=x.2.1;letI a:=i64.wrap (c+1);letI d:=k.2.2.2;letI b:=wm (d.2.2.2,k.1,c,k.2.1,k.2.2.1);letI e:=(x.1,a,x.2.2);bif c<d.2.2.1 then bif !(aa d.2.1 c).1||c==d.1 then .next k e else bif x.1== -1||FR (b,x.2.2)then .next k (c,a,b)else .next k e else .brk k x
def alA k x:=endOf uN k (Nat.succ (CJ k x)) x
def oZ(x:ae×(List aX)×ax):=letI a:=(x.2.1.length:Int);bif bZ x.1 !=0||a !=x.1.2.2.2.2.2.2.2.length then -1 else(alA (x.2.1,x.2.2.1,x.2.2.2.1,x.2.2.2.2,x.2.1,a,x.1) (-1,0,0,0)).1
def acZ:Ct:=⟨Ty.pair az (Ty.pair eu ab),[some 8,some 3,none],Ty.pair fB (Ty.pair ab bI),ah.tup [some 16,none,none],some Lw,none,Ga⟩
def aaP:Ct:=⟨Ty.pair az fB,[some 8,some 16],aw,ah.one none,none,none,qM⟩
def EM:Cv:=⟨Ty.pair dF dj,[none],[.p,.v],[43],false,[(16,true,70),(17,true,142),(18,true,153),(19,true,158),(33,true,4),(34,true,51),(35,true,4),(43,true,85)],dj,Ty.unit,ah.none,[(15,true,70),(16,true,142),(17,true,153),(18,true,158),(32,true,4),(33,true,51),(34,true,4),(42,true,85)],none,ed,false⟩
def E8:Cv:=⟨dj,[],[.p],[43],true,[],Ty.unit,gw,ah.one none,[(0,true,335)],some Vz,eN,true⟩
def EG:Cv:=⟨Ty.pair aU (Ty.pair aU oB),[some 2,some 2],[.p,.v,.v],[20],false,[(4,true,213),(9,true,3)],oB,Ty.unit,ah.none,[(0,true,213),(5,true,3)],some Ud,lx,false⟩
def K9:Ct:=⟨Ty.pair az (Ty.pair gw (Ty.pair ab (Ty.pair ab ab))),[some 8,none,none,none,none],ab,ah.one none,none,none,oZ⟩
def nO(z:List (Nat×List Nat)):=dB (PS true) lY cY SE z
theorem asH:an 20 acZ:=ao (nO []) func20 [] l0 (sp λx fx h=>sl (Zx x/\(((pq x).2.2.2 !=0)=false->Y1 (x.1,(pq x).2.1,(pq x).1))) (by
 try dsimp only[Ty.den]at*
 exact⟨h,λ_=>aeb fx.1.2.2.2.2.2.2.2.1 h.1 h.2⟩))
theorem asq:an 21 aaP:=have E:=ai @Lk.eq_1 SN;ao (nO []) func21 [] l0 (λx fx _=>sl (letI a:=x.2.2.2.2.2.2;(((!pj (x.1,x.2.1)|| !eA (x.1.2.2.1,x.2.2.1)||(a.2.1.length:Int) !=x.2.1.2.2.2.length)|| !px a.2.1)|| !px [a.2.2.2.1,a.2.2.2.2.1,a.2.2.2.2.2])=false->Lk (a.1,x.1.2.2.2.2.2.2.2.length,some 66)))
def Rw:LS (Ty.pair Ty.unit dj).den:=aD (Ty.pair dF ab) (Ty.pair ab dj) [(10,none),(11,none)] [] [(12,none)] [(0,43)] [(16,100116,true,70),(17,100117,true,142),(18,100118,true,153),(19,100119,true,158),(33,100133,true,4),(34,100134,true,51),(35,100135,true,4),(43,100143,true,85)] [] [(0,0)] 0 true C8 iJ jS
theorem aiF:gW f175 EM [0] Rw:=have E:=ai @C8.eq_1<|ai @jS.eq_1<|ai @iJ.eq_1 SN;lV (nO []) [] l0 (λk x fk fx h=>sm (decide (x.1<k.2)=true->0<=x.1/\x.1<k.1.length))
theorem aoI:dL 175 EM:=have E:=ai @C8.eq_1 SN;dU (nO []) func175 [(1,Rw)] (lc aiF l0) (λx fx _=>sl (C8 (x.1,x.1.length) (0,x.2)))
def TU:LS (Ty.pair gw Ty.unit).den:=aD (Ty.pair ab dj) (Ty.pair gw ab) [(14,none)] [(0,43)] [(3,none),(15,none)] [] [(0,100300,true,335)] [] [(0,0)] 0 false Se pS yf
theorem aiV:gW f178 E8 [0] TU:=lV (nO []) [] l0 (λk x fk fx h=>sl (letI b:=0<=x.2/\x.2<(x.1.length:Int);letI c:=k.2.2.2;letI a:=(k.2.1,k.2.2.1,x.2,(aa c.1.2.2 x.2).2.1);letI d:=c.2.2.2.2;decide (x.2<k.1)=true->(((!c.2.1)=true->((0<=x.2/\x.2<(k.2.2.1.1.2.1.length:Int))/\b))/\((!c.2.1)=false->((0<=x.2/\x.2<(c.1.2.2.length:Int))/\(Vx a/\(b/\((0<=x.2/\x.2<d.1.length)/\(aa d.1 x.2=true->(0<=x.2/\x.2<d.2.1.length)/\0<=x.2/\x.2<((aH eR x.1 x.2 (vZ a)).length))))))))) (by
 try dsimp only[Ty.den]at*
 obtain⟨h0,h1,h2,h3⟩:=h;intro hc;rw[adv]at hc;have r:=n44 h1 hc h0;have rn:=df r h3.symm;exact⟨λ_=>⟨df rn h2.p2,r⟩,λhg=>⟨df rn (h2.bf (by rw[avi]at hg;exact hg)),h2.vw rn,r,df rn h2.c5,λ_=>⟨df rn h2.c6,df r (auz ..)⟩⟩⟩)) λk x fk h=>by
 try dsimp only[Ty.den]at*
 obtain⟨h0,h1,h2,h3⟩:=h;unfold pS;refine aJ.cnd (λhc=> ?_) (λ_=>rfl);rw[adv]at hc;have e:=cC h0 (n44 h1 hc h0).2 (auv (lR h3 h2.n8) (by decide));rw[e];have q1: ∀{α:Type} {l:List α} {i:Nat} {a:α},l.length=x.1.length->k.1=((l.set i a).length:Int):=λh=>by rw[auz,h];exact h1
 have q2: ∀{α:Type} {l:List α} {i:Nat} {a:α},l.length=x.1.length->(l.set i a).length=k.2.1.2.2.2.2.2.2.2.length:=λh=>by rw[auz,h];exact h3
 refine aJ.cnd (λ_=> ?_) (λ_=>aJ.cnd (λ_=> ?_) (λ_=> ?_))
 ·exact⟨rfl,⟨cH h0,q1 rfl,h2,q2 rfl⟩,cI hc⟩
 ·exact⟨rfl,⟨cH h0,q1 (auz ..),h2,q2 (auz ..)⟩,cI hc⟩
 ·exact⟨rfl,⟨cH h0,q1 rfl,h2,q2 rfl⟩,cI hc⟩
theorem aqW:dL 178 E8:=dU (nO []) func178 [(3,TU)] (lc aiV l0) (sp λx fx h=>sl (letI a:=(x.1.2.2.2.2.2.2.2.length:Int);(0<=a/\a=a/\a*56<=140737488355328/\a<=4611686018427387903)/\Se (((aE eR a).length),x) (aE eR a,0)) (by
 try dsimp only[Ty.den]at*
 have h:cD x:=h;exact⟨nt h.n8 56 ⟨by decide,by decide⟩,au8 _,rfl,h,ff _⟩))
def RY:LS (Ty.pair Ty.unit oB).den:=aD (Ty.pair dg ab) (Ty.pair ab oB) [(17,none),(18,none)] [] [(19,none)] [(0,20)] [(1,100201,true,213),(6,100206,true,3)] [] [(0,0)] 0 false RJ ux CD
theorem ajb:gW f224 EG [0] RY:=lV (nO []) [] l0 (λk x fk fx h=>sl (decide (x.1<k.2)=true->(0<=x.1/\x.1<k.1.length)/\(gS (x.2.2,x.2.1.2.1)=true->yM ([(1,(aa k.1 x.1).1,(aa k.1 x.1).2.1,0,0)],x.2))) (by
 try dsimp only[Ty.den]at*
 obtain⟨h0,h1,h2,h3,h4,h5⟩:=h;intro hc;rw[adv]at hc;have r:=gR h0 (h1▸hc);exact⟨r,λ_=>⟨aki _,IL h3 (gI h4 r),n40 h5 h1 h2 hc⟩⟩)) λk x fk h=>by
 try dsimp only[Ty.den]at*
 obtain⟨h0,h1,h2,h3,h4,h5⟩:=h;unfold ux;refine aJ.cnd (λhc=> ?_) (λ_=>rfl);rw[adv]at hc;have r:=gR h0 (h1▸hc);have e:=cC h0 (h1▸hc) (auv h2 (by decide));have q:=atW h3 (gI h4 r);rw[e];refine aJ.cnd (λ_=> ?_) (λ_=> ?_)
 ·exact⟨rfl,⟨cH h0,h1,h2,q.1,λe he=>by rw[q.2.1];exact h4 e he,n41 h5 q.2.2⟩,cI hc⟩
 ·exact⟨rfl,⟨cH h0,h1,h2,⟨h3.ba,h3.exp,h3.dv⟩,h4,n42 h5⟩,cI hc⟩
theorem aqp:dL 224 EG:=dU (nO []) func224 [(2,RY)] (lc ajb l0) (sp λx fx h=>sl (letI a:=mz (ew (dG (x.1,dS x.2.2.2),x.2.1));RJ (a,a.length) (0,x.2.2)) (by
 try dsimp only[Ty.den]at*
 obtain⟨h1,h2⟩:dt [] x.2.2/\x.2.2.1.1.length<=40000:=h;exact⟨au8 _,rfl,P5 _,h1,BH h1.ba.bG _ _,n43 h2⟩))
def S1:LS ab.den:=aD (Ty.pair gw (Ty.pair ab (Ty.pair ab (Ty.pair ab (Ty.pair gw (Ty.pair ab az)))))) (Ty.pair ab (Ty.pair ab vN)) [(1,none),(2,none),(3,none),(4,none),(28,none),(29,none)] [(5,8)] [(11,none),(30,none)] [(12,2)] [] [] [(5,5),(12,12)] 0 false Dx uN CJ
theorem aiN:bu f287 K9 [0] S1:=have E:=ai @Dx.eq_1<|ai @CJ.eq_1<|ai @uN.eq_1<|ai @vf.eq_1 SN;lA (nO []) [] l0 (λk x fk fx h=>sm (letI a:=k.2.2.2;letI b:=x.2.1;decide (b<a.2.2.1)=true->(0<=b/\b<a.2.1.length)/\((!(aa a.2.1 b).1||b==a.1)=false->vf (a.2.2.2,k.1,b,k.2.1,k.2.2.1))))
theorem ap5:an 287 K9:=have E:=ai @Dx.eq_1<|ai @vf.eq_1 SN;ao (nO []) func287 [(5,S1)] (lc aiN l0) (λx fx _=>sl (letI a:=(x.2.1.length:Int);(bZ x.1 !=0||a !=x.1.2.2.2.2.2.2.2.length)=false->Dx (x.2.1,x.2.2.1,x.2.2.2.1,x.2.2.2.2,x.2.1,a,x.1) (-1,0,0,0)))
def ac5(nw:Bool):=(175,.pv EM)::(178,.pv E8)::(224,.pv EG)::abR nw
theorem QP(nw:Bool):ga (ac5 nw):=zc (z:= .pv EM) aoI func175 (zc (z:= .pv E8) aqW func178 (zc (z:= .pv EG) aqp func224 ((PS nw))))
def aaH:=(20,acZ)::(21,aaP)::(287,K9)::aa5
theorem S8:cr aaH:=gc asH func20 (gc asq func21 (gc ap5 func287 (SE)))
theorem OE{x:Int×au}(h:cD x.2):cD (oQ x).2/\(oQ x).2.1=x.2.1:=by
 unfold oQ;cases(!x.2.2.2.2.1)with
 |true=>exact⟨⟨h.n8,h.cf,h.c1,(auz ..).trans h.c2,h.c3,h.c4,(auz ..).trans h.c5,h.c6,h.c7,h.c8,h.p1,h.p2,h.p3,h.ph,h.bf,h.cmd,h.iU⟩,rfl⟩
 |false=>exact⟨⟨h.n8,h.cf,h.c1,(auz ..).trans h.c2,h.c3,h.c4,(auz ..).trans h.c5,(auz ..).trans h.c6,h.c7,h.c8,h.p1,h.p2,h.p3,h.ph,h.bf,h.cmd,h.iU⟩,rfl⟩
theorem On{b:ae}{m:aq}{r:aT}(h:(fy (b,m,r)).2=0):(fy (b,m,r)).1=(ej (r,m)).2:=by
 unfold fy at h⊢;cases hc:((!(cL (b,m)))||(!(jc (b,r))))with
 |true=>simp_all
 |false=>rfl
theorem Oy{b:ae}{s:dr}{m:aq}{r:aT}{n:Int}(h:(mn (b,s,m,r,n)).2.2.2=0):(mn (b,s,m,r,n)).2.1=(ej (r,m)).2:=by
 unfold mn at h⊢;simp only at h⊢;cases h1:((((fy (b,m,r)).2 !=(0:Int))||(!(eA (b.2.2.1,s))))||(decide (n<(0:Int))))with
 |true=>rw[h1,au3]at h;exact absurd h (by decide)
 |false=>
  rw[h1,auw]at h;have a:(fy (b,m,r)).2=0:=by
   rw[au1,au1,avc]at h1;exact h1.1.1
  rw[auw];revert h
  cases(((r.1==(1:Int))&&(!((bN (m,r.2.1,r.2.2.1)).2)))&&(!(gS (b,m))))with
  |true=>simp only[au3];intro h;exact absurd h (by decide)
  |false=>
   simp only[auw];cases(decide ((((my (b,r)).1).size:Int)<=(i64.wrap (b.2.2.1 - (((fc s)).size:Int)))))with
   |true=>
    simp only[au3];generalize qo (b.2.2.1,s,s.2,(my (b,r)).1,n)=w;cases hz:(w.2.2==(0:Int))with
    |true=>simp only[au3];intro _;exact On a
    |false=>
     simp only[auw];rw[awm]at hz;cases h8:(w.2.2==(8:Int))with
     |true=>simp only[au3];intro h;exact absurd h hz
     |false=>simp only[auw];intro h;exact absurd h hz
   |false=>
    simp only[auw];generalize tE (b,s,(fy (b,m,r)).1,n)=w;cases hz:(w.2.2==(0:Int))with
    |true=>simp only[au3];intro _;exact On a
    |false=>
     simp only[auw];rw[awm]at hz;cases h8:(w.2.2==(8:Int))with
     |true=>simp only[au3];intro h;exact absurd h hz
     |false=>simp only[auw];intro h;exact absurd h hz
theorem PL{m:aq}{r:aT}(h:r.1≠4):(ej (r,m)).2.1=m.1:=by
 unfold ej;grind
def kR(t a:au):Prop:=(a.2.2.2.2.2.1=0->cD a)/\a.1=t.1/\a.2.2.1=t.2.2.1/\a.2.2.2.1=t.2.2.2.1
theorem PU{l:List aT}{t:au}(h:cD t)(hl: ∀r∈l,r.1≠4)(j:l.length<=maxLen):kR t (ed (l,t)).2:=by
 have m:=kX (step:=iJ) (k:=(l,l.length)) (I:=λy=>0<=y.1/\y.1<=l.length/\kR t y.2) (mu:=λy=>(l.length-y.1).toNat)
  (Q:=λo y=>match o with|some r=>kR t r.2|none=>kR t y.2) (λy s=>by
   obtain⟨h0,h1,h2⟩:=s;unfold iJ;by_cases f:y.1<l.length
   ·simp only[f]
    cases hf:(y.2.2.2.2.2.2.1 !=0)with
    |true=>exact h2
    |false=>
     rw[avc]at hf;have a:=h2.1 hf;have hr:=gI hl ⟨h0,f⟩;have e:=cC h0 f j;rw[auw,e];have q:=G4 (aa l y.1) y.2.2.1.1;refine⟨⟨cH h0,by omega,⟨λu=> ?_,h2.2⟩⟩,cI f⟩;have g:=Oy u;exact⟨a.n8,a.cf,a.c1,a.c2,a.c3,a.c4,a.c5,a.c6,a.c7,a.c8,(av7 (λi:aq=>i.1.length) g).trans (q.1.trans a.p1),(av7 (λi:aq=>i.2.1.length) g).trans (q.2.1.trans a.p2),(av7 (λi:aq=>i.2.2.1.length) g).trans (q.2.2.1.trans a.p3),
      λp w=>a.ph p (by rw[<- PL hr,<- g];exact w),a.bf,a.cmd,a.iU⟩
   ·simp only[f]
    exact h2) (Nat.succ (jS (l,l.length) (0,t))) (0,t) ⟨au8 _,au9 _,λ_=>h,rfl,rfl,rfl⟩ (by unfold jS;simp)
 unfold ed yV yO;revert m
 cases bd iJ (l,l.length) (Nat.succ (jS (l,l.length) (0,t))) (0,t)with
 |some r=>intro h;exact h
 |none=>intro h;exact h
theorem G9{b:ae}{m:aq}{c:af}{l:List Bool}(a:c.1=0\/c.1=8):(iz (b,m,c,l)).1= []\/(iz (b,m,c,l)).1= [(5,0,0,c.2,0)]:=by
 unfold iz;simp only[cond];split
 ·exact .inl rfl
 split
 ·exact .inl rfl
 split
 ·exact .inl rfl
 split
 ·exact .inl rfl
 rename_i h4;rw[awm]at h4;have f:c.1=8:=a.resolve_left h4;rw[f];unfold MV;simp only[show((8:Int)==1)=false from rfl,show((8:Int)==2)=false from rfl,show((8:Int)==3)=false from rfl,show((8:Int)==4)=false from rfl,show((8:Int)==5)=false from rfl,show((8:Int)==6)=false from rfl,show((8:Int)==7)=false from rfl,show((8:Int)==8)=true from rfl,ayo,axs,auw];cases aa m.2.1 c.2 with
 |true=>exact .inr rfl
 |false=>exact .inl rfl
theorem PA{b:ae}{m:aq}{c:af}{l:List Bool}(a:c.1=0\/c.1=8):(∀r∈(iz (b,m,c,l)).1,r.1≠4)/\(iz (b,m,c,l)).1.length<=maxLen:=by
 rcases G9 a with h|h<;>rw[h]
 all_goals simp_all [maxLen]
theorem Qd{b:ae}{m:aq}{l:List Bool}(h: ∀p∈m.1,p=0)(i:m.1.length<=maxLen):lE (b,m,l)= []:=by
 unfold lE;cases((!(cL (b,m)))||((l.length:Int) !=b.2.2.2.2.2.2.2.length))with
 |true=>rfl
 |false=>
  have j:=ir (step:=uE) (k:=(l,m.1,m.1.length,m)) (I:=λy=>y.1= []/\0<=y.2) (λy k' z f a=>by
   unfold uE at a;revert a
   by_cases g:y.2<m.1.length
   ·have o:=gI h ⟨f.2,g⟩
    simp only[g,o,show((0:Int) !=1)=true from rfl,show((0:Int)==4)=false from rfl,ayo,ax9,azz,Bool.or_true];intro a;cases a;refine⟨f.1,?_⟩;rw[cC f.2 g i];exact cH f.2
   ·simp only[g]
    intro a;cases a) (λy k' z f a=>by
   unfold uE at a;revert a
   simp only[cond];repeat' split
   all_goals(intro a;first|(cases a;done)|(cases a;exact f))) (Nat.succ (C3 (l,m.1,m.1.length,m) ([],0))) ([],0) ⟨rfl,au8 _⟩
  exact j.1
theorem Bv{x:ae×List aX×ax}(hl:x.2.1.length<=maxLen):oZ x= -1\/0<=oZ x/\oZ x<x.2.1.length:=by
 unfold oZ;cases(((bZ x.1) !=0)||((x.2.1.length:Int) !=x.1.2.2.2.2.2.2.2.length))with
 |true=>exact .inl rfl
 |false=>
  have h:=ir (step:=uN) (k:=(x.2.1,x.2.2.1,x.2.2.2.1,x.2.2.2.2,x.2.1,x.2.1.length,x.1)) (I:=λy=>0<=y.2.1/\(y.1= -1\/0<=y.1/\y.1<x.2.1.length)) (λy k' z f a=>by
   unfold uN at a;revert a
   by_cases g:y.2.1<x.2.1.length
   ·have e:=cC f.1 g hl
    simp only[e];simp only[cond];repeat' split
    all_goals(intro a;cases a)
    ·exact⟨cH f.1,f.2⟩
    ·exact⟨cH f.1,.inr ⟨f.1,g⟩⟩
    ·exact⟨cH f.1,f.2⟩
   ·simp only[g]
    intro a;cases a) (λy k' z f a=>by
   unfold uN at a;revert a
   simp only[cond];repeat' split
   all_goals(intro a;first|(cases a;done)|(cases a;exact f))) (Nat.succ (CJ (x.2.1,x.2.2.1,x.2.2.2.1,x.2.2.2.2,x.2.1,x.2.1.length,x.1) ((-1:Int),0,0,0))) ((-1:Int),0,0,0) ⟨au8 _,.inl rfl⟩
  exact h.2
theorem ag7{x:au}:(iy x).1.length=x.1.2.2.2.2.2.2.2.length:=by
 unfold iy;have g:=ir (step:=ur) (I:=λy=>y.1.length=x.1.2.2.2.2.2.2.2.length) (λy k' z f a=>by
  unfold ur at a;revert a
  cases decide (y.2<((x.2.1.1.1,x.2.1.1.1.length,x):List Int×Int×au).2.1)with
  |true=>
   rw[au3];intro a;cases a;exact(auz ..).trans f
  |false=>simp_all) (λy k' z f a=>by
  unfold ur at a;grind) (Nat.succ (JI (x.2.1.1.1,x.2.1.1.1.length,x) ((aE aw x.1.2.2.2.2.2.2.2.length),0))) ((aE aw x.1.2.2.2.2.2.2.2.length),0) (ff _)
 exact g
theorem cD.n0{t:au}(h:cD t):t.2.1.1.1.length<=maxLen:=auv (lR h.p1 h.n8) (by decide)
theorem aib{x:au}{s:Int}{l:List Bool}(h:cD x)(a:x.2.2.2.1=true):kR x (ed ((iz (x.1,x.2.1.1,x.2.2.1.2.1,l)).1,x.1,x.2.1,x.2.2.1,x.2.2.2.1,x.2.2.2.2.1,x.2.2.2.2.2.1,x.2.2.2.2.2.2.1,x.2.2.2.2.2.2.2.1,x.2.2.2.2.2.2.2.2.1,x.2.2.2.2.2.2.2.2.2.1,x.2.2.2.2.2.2.2.2.2.2.1,x.2.2.2.2.2.2.2.2.2.2.2.1,x.2.2.2.2.2.2.2.2.2.2.2.2.1,s,x.2.2.2.2.2.2.2.2.2.2.2.2.2.2)).2:=
 PU ⟨h.n8,h.cf,h.c1,h.c2,h.c3,h.c4,h.c5,h.c6,h.c7,h.c8,h.p1,h.p2,h.p3,h.ph,h.bf,h.cmd,h.iU⟩ (PA (h.cmd a)).1 (PA (h.cmd a)).2
theorem kR.auto{x t:au}(h:kR x t)(f:t.2.2.2.2.2.1=0){b:ae}{l:List Bool}:kR x (ed (lE (b,t.2.1.1,l),t)).2:=by
 have a:=h.1 f;rw[Qd a.ph a.n0];have:=PU (l:= []) a (λr hr=>by cases hr) (awb _);exact⟨this.1,this.2.1.trans h.2.1,this.2.2.1.trans h.2.2.1,this.2.2.2.trans h.2.2.2⟩
theorem kR.ok{x t:au}(h:kR x t)(a:(t.2.2.2.2.2.1 !=0)=false):cD t:=h.1 (by simp_all)
theorem kR.lens{x t:au}(f:cD x)(h:kR x t)(a:(t.2.2.2.2.2.1 !=0)=false):cD t/\t.2.1.1.1.length=t.1.2.2.2.2.2.2.2.length/\x.2.1.1.1.length=t.1.2.2.2.2.2.2.2.length:=⟨h.ok a,(h.ok a).p1,by rw[h.2.1];exact f.p1⟩
theorem i8{x n:Int}{m:Nat}(h1:n=m)(a:m<=8)(f:x<n):x<=100000:=by omega
theorem a8{α:Type}{l:List α}{a:α}{x:Int}(h:l.length<=x):((l++ [a]).length:Int)<=x+1:=by simp_all
theorem b8{n x:Int}(h:n<=x):n<=x+1:=by omega
theorem vY{a:Int}(h:(a==0)=true):a=0:=by simp_all
theorem asT{c n:Int}(h1: -2<=c)(h2:c<n)(c1:(c== -2)=false)(c2:(c== -1)=false):0<=c/\c<n:=by grind
def F8(x:ae):aW×Int:=letI a:=((ByteArray.empty,ByteArray.empty),0);letI b:=Ga (x,a,1048576);bif bZ x !=0 then((([],[],[],[]),a,[],[],[],[],[],[],0,0,0),1)else(b.1,b.2.2)
def Tf(k:(List Int)×Int)(x:(List (aO))×Int×au):Prop:=0<=x.2.1/\k.2=k.1.length/\cD x.2.2/\k.1.length=x.2.2.1.2.2.2.2.2.2.2.length/\(∀p∈k.1,p=0)/\x.1.length<=x.2.1
def C0(k:(List Int)×Int)(x:(List (aO))×Int×au):=(k.2-x.2.1).toNat
def uy(k:(List Int)×Int)(x:(List (aO))×Int×au):ak ((List Int)×Int) ((List (aO))×Int×au) (Unit×au):=letI d:=x.2.1;letI a:=i64.wrap (d+1);letI b:=x.1++ [(5,0,0,d,1)];letI e:=oQ x.2;letI f:=aa k.1 d;letI c:=F0 (d,f,x.2.2);bif d<k.2 then bif gB f then bif(aa e.2.2.1.2.2.2.1 d).2.2.2.2.2&& !aa e.2.2.1.1.2.1 d then .next k (b,a,e.2)else .next k (x.1,a,e.2)else bif qq f then bif(aa c.2.2.1.2.2.2.2.1 d).2.2.2.2.2.2&& !aa c.2.2.1.1.2.1 d then .next k (b,a,c.2)else .next k (x.1,a,c.2)else bif false&& !aa x.2.2.2.1.1.2.1 d then .next k (b,a,x.2.2)else .next k (x.1,a,x.2.2)else .brk k x
def DQ k x:=endOf uy k (Nat.succ (C0 k x)) x
def fA(x:au):=letI a:=(x.2.1.1.1,(x.2.1.1.1.length:Int));((),(ed ((DQ a ([],0,x)).1,(DQ a ([],0,x)).2.2)).2)
def U2(x:au):Prop:=cD x
def Ca(k:Int×(List Int)×Int×aq×af)(x:Int×au):Prop:=letI a:=x.2.1.2.2.2.2.2.2.2;0<=x.1/\k.2.2.1=k.2.1.length/\cD x.2/\k.2.1.length=a.length/\k.2.2.2.1.1.length=a.length
def B7(k:Int×(List Int)×Int×aq×af)(x:Int×au):=(k.2.2.1-x.1).toNat
def uf(k:Int×(List Int)×Int×aq×af)(x:Int×au):ak (Int×(List Int)×Int×aq×af) (Int×au) (Unit×au):=letI d:=i64.wrap (x.1+1);letI f:=x.2.2;letI b:=f.2.2.2;letI c:=f.1.2;letI g:=b.2.2;letI e:=aH aw g.2.2.1 x.1 true;letI h:=c.2.2;letI a:=aH iM h.2.1 x.1 (((0:Int),(0:Int)),((0:Int),(0:Int),(0:Int),false,(0:Int)),((0:Int),(0:Int),(0:Int)),(0:Int),(0:Int),(0:Int),false);bif x.1<k.2.2.1 then bif !FN (aa k.2.2.2.1.1 x.1,aa k.2.1 x.1)then .next k (d,x.2.1,(f.1.1,c.1,c.2.1,aH eL h.1 x.1 (qI ()),a,h.2.2),f.2.1,f.2.2.1,b.1,b.2.1,g.1,g.2.1,e,g.2.2.2)else bif k.1==0&&k.2.2.2.2.1==8&&k.2.2.2.2.2==x.1 then .next k (d,x.2.1,(f.1.1,c.1,c.2.1,aH eL h.1 x.1 (wo (x.2.1,x.1,aa h.1 x.1)).1,a,h.2.2),f.2.1,f.2.2.1,b.1,b.2.1,g.1,g.2.1,e,g.2.2.2)else .next k (d,x.2)else .brk k x
def C4 k x:=endOf uf k (Nat.succ (B7 k x)) x
def fm(x:au):=letI d:=x.2.2;letI a:=d.2.2.2.2;letI b:=iz (x.1,x.2.1.1,d.1.2.1,(iy x).1);letI c:=a.2.2.2;ed (b.1,x.1,x.2.1,d.1,d.2.1,d.2.2.1,d.2.2.2.1,a.1,a.2.1,a.2.2.1,c.1,c.2.1,c.2.2.1,c.2.2.2.1,b.2,c.2.2.2.2.2)
def Va(x:au):=letI b:=x.2.2.1.2.1;letI c:=fm x;letI a:=ed (lE (c.2.1,c.2.2.1.1,aH aw (iy x).1 b.2 false),c.2);C4 ((iz (x.1,x.2.1.1,b,(iy x).1)).2,a.2.2.1.1.1,a.2.2.1.1.1.length,x.2.1.1,b) (0,a.2)
def Us(x:au):=letI b:=fm x;letI a:=ed (lE (b.2.1,b.2.2.1.1,(iy x).1),b.2);C4 ((iz (x.1,x.2.1.1,x.2.2.1.2.1,(iy x).1)).2,a.2.2.1.1.1,a.2.2.1.1.1.length,x.2.1.1,x.2.2.1.2.1) (0,a.2)
def ig(x:au):=letI a:=fm x;letI e:=a.2.2.2.2.2.2.1;letI f:=x.2.2.1.2.1;letI g:=a.2.2.1.1;letI h:=e==0;letI i:=e !=0;letI j:=iy x;letI b:=((),(C4 ((iz (x.1,x.2.1.1,f,j.1)).2,g.1,g.1.length,x.2.1.1,f) (0,a.2)).2);letI c:=ed (lE (a.2.1,g,aH aw j.1 f.2 false),a.2);letI d:=ed (lE (a.2.1,g,j.1),a.2);bif f.1 !=0 then bif h then bif c.2.2.2.2.2.2.1 !=0 then((),c.2)else((),(Va x).2)else bif i then((),a.2)else b else bif h then bif d.2.2.2.2.2.2.1 !=0 then((),d.2)else((),(Us x).2)else bif i then((),a.2)else b
def Up(x:au):Prop:=cD x/\x.2.2.2.1=true
def qt(x:(ae×List aX)×aC×Int):=letI c:=x.2.1;letI d:=x.1.2;letI a:=oZ (x.1.1,d,c.1,c.2.1,c.2.2.1);letI b:=aa d c.2.2.1;bif a== -1 then a else bif b.2.2.1&&x.2.2==0&&FR (wm (x.1.1,d,a,c.1,c.2.1),wm (x.1.1,d,c.2.2.1,c.1,c.2.1))|| !b.2.2.1&&Ay b&& !Ay (aa d a)then a else -1
def T7(x:(ae×List aX)×aC×Int):Prop:=0<=x.2.1.2.2.1/\x.2.1.2.2.1<x.1.2.length
def ct8:Ct:=⟨az,[some 8],Ty.pair fB bI,ah.tup [some 16,none],none,none,F8⟩
def EP:Cv:=letI a:=(16,true,142);letI b:=(17,true,153);letI c:=(18,true,158);⟨dj,[],[.p],[43],false,[(15,true,70),a,b,c,(32,true,4),(33,true,51),(34,true,4),(42,true,85)],dj,Ty.unit,ah.none,[(15,true,70),a,b,c,(32,true,4),(33,true,51),(34,true,4),(42,true,85)],some U2,fA,false⟩
def EV:Cv:=letI a:=(16,true,142);letI b:=(17,true,153);letI c:=(18,true,158);⟨dj,[],[.p],[43],false,[(15,true,70),a,b,c,(32,true,4),(33,true,51),(34,true,4),(42,true,85)],dj,Ty.unit,ah.none,[(15,true,70),a,b,c,(32,true,4),(33,true,51),(34,true,4),(42,true,85)],some Up,ig,false⟩
def ZB:Ct:=⟨Ty.pair EJ (Ty.pair dP ab),[some 9,some 5,none],ab,ah.one none,some T7,none,qt⟩
def wq(z:List (Nat×List Nat)):=dB (QP true) lY cY S8 z
theorem ok8:an 8 ct8:=have E:=ai @Lw.eq_1 SN;ao (wq []) func8 [] l0 (λx fx _=>sl ((bZ x !=0)=false->Lw (x,((ByteArray.empty,ByteArray.empty),0),1048576)))
def SP:LS (Ty.pair Ty.unit dj).den:=aD (Ty.pair cX ab) (Ty.pair dF (Ty.pair ab dj)) [(11,none),(12,none)] [] [(2,none),(13,none)] [(0,43)] [(0,100200,true,213),(17,100217,true,70),(18,100218,true,142),(19,100219,true,153),(20,100220,true,158),(34,100234,true,4),(35,100235,true,51),(36,100236,true,4),(44,100244,true,85)] [] [(0,0)] 0 false Tf uy C0
theorem akh:gW f128 EP [0] SP:=lV (wq [(14,[100200]),(6,[100209])]) [] l0 (λk x fk fx h=>sl (letI c:=x.2.1;letI d:=aO;letI e:=([(5,0,0,c,1)]:List d);letI a:=(List.length (x.1:List d)+List.length e)*40<=140737488355328/\List.length (x.1:List d)+List.length e<=4611686018427387903;letI f:=(oQ x.2).2.2.1.2.2.2.1;letI h:=aa k.1 c;letI b:=(c,h,x.2.2);letI g:=(F0 b).2.2.1.2.2.2.2.1;letI i:=(oQ x.2).2.2.1.1.2.1;letI j:=(F0 b).2.2.1.1.2.1;letI l:=x.2.2.2.1.1.2.1;decide (c<k.2)=true->((0<=c/\c<(k.1.length:Int))/\((gB h=true->(UR x.2/\((0<=c/\c<(f.length:Int))/\(((aa f c).2.2.2.2.2=true->0<=c/\c<(i.length:Int))/\(((aa f c).2.2.2.2.2&&(!(aa i c)))=true->a)))))/\(gB h=false->((qq h=true->(JZ b/\((0<=c/\c<(g.length:Int))/\(((aa g c).2.2.2.2.2.2=true->0<=c/\c<(j.length:Int))/\(((aa g c).2.2.2.2.2.2&&(!(aa j c)))=true->a)))))/\(qq h=false->((false=true->0<=c/\c<(l.length:Int))/\(false&& !aa l c=true->a)))))))) (by
 try dsimp only[Ty.den]at*
 obtain⟨h0,h1,h2,h3,h4,h5⟩:=h;intro hc;rw[adv]at hc;have r:=gR h0 (h1▸hc);have rn:=df r h3.symm;have o:=OE (x:=x.2) h2;have on:=av7 (λb:ae=>b.2.2.2.2.2.2.2.length) o.2;have hz:aa k.1 x.2.1=0:=gI h4 r;have h8:=lR h3 h2.n8;exact⟨r,λ_=>⟨⟨h2,rn⟩,df rn (o.1.c2.trans on),λ_=>df rn (o.1.p2.trans on),λ_=>Fx h5 (i8 h1 h8 hc)⟩,λhw=>Im hz hw⟩)) λk x fk h=>by
 try dsimp only[Ty.den]at*
 obtain⟨h0,h1,h2,h3,h4,h5⟩:=h;unfold uy;refine aJ.cnd (λhc=> ?_) (λ_=>rfl);rw[adv]at hc;have r:=gR h0 (h1▸hc);have rn:=df r h3.symm;have o:=OE (x:=x.2) h2;have on:=av7 (λb:ae=>b.2.2.2.2.2.2.2.length) o.2;have hz:aa k.1 x.2.1=0:=gI h4 r;have h8:=lR h3 h2.n8;have e:=cC h0 (h1▸hc) (auv h8 (by decide));rw[e];refine aJ.cnd (λ_=>aJ.cnd (λ_=> ?_) (λ_=> ?_)) (λhw=>Im hz hw)
 ·exact⟨rfl,⟨cH h0,h1,o.1,h3.trans on.symm,h4,a8 h5⟩,cI hc⟩
 ·exact⟨rfl,⟨cH h0,h1,o.1,h3.trans on.symm,h4,b8 h5⟩,cI hc⟩
theorem XE:dL 128 EP:=dU (wq [(14,[100200]),(6,[100209])]) func128 [(2,SP)] (lc akh l0) (sp λx fx h=>sl (Tf (x.2.1.1.1,x.2.1.1.1.length) ([],0,x)) (by
 try dsimp only[Ty.den]at*
 have h:cD x:=h;exact⟨au8 _,rfl,h,h.p1,h.ph,au8 _⟩))
def PW:LS (Ty.pair Ty.unit dj).den:=aD (Ty.pair bI (Ty.pair cX (Ty.pair ab (Ty.pair bO oR)))) (Ty.pair ab dj) [(6,none),(79,none),(80,none)] [(2,4),(3,2)] [(81,none)] [(0,43)] [(16,101016,true,70),(17,101017,true,142),(18,101018,true,153),(19,101019,true,158),(33,101033,true,4),(34,101034,true,51),(35,101035,true,4),(43,101043,true,85)] [] [(0,0),(2,2),(3,3)] 0 false Ca uf B7
theorem ah0:gW f176 EV [0] PW:=lV (wq [(3,[33]),(7,[210000])]) [] l0 (λk x fk fx h=>sl (letI b:=0<=x.1/\x.1<(x.2.2.1.2.2.2.1.length:Int);letI a:=b/\((0<=x.1/\x.1<(x.2.2.1.2.2.2.2.1.length:Int))/\(0<=x.1/\x.1<(x.2.2.2.2.2.2.2.2.2.1.length:Int)));letI d:=k.2.2.2;letI c:= !(FN (aa d.1.1 x.1,aa k.2.1 x.1));decide (x.1<k.2.2.1)=true->((0<=x.1/\x.1<(k.2.1.length:Int))/\((0<=x.1/\x.1<(d.1.1.length:Int))/\((c=true->a)/\(c=false->(((k.1==0&&d.2.1==8)&&d.2.2==x.1)=true->b/\a)))))) (by
 try dsimp only[Ty.den]at*
 obtain⟨h0,h1,h2,h3,h4⟩:=h;intro hc;rw[adv]at hc;have r:=gR h0 (h1▸hc);have rn:=df r h3.symm;have q2:=df rn h2.c2;have q3:=df rn h2.c3;have q7:=df rn h2.c7;exact⟨r,df rn h4,λ_=>⟨q2,q3,q7⟩,λ_ _=>⟨q2,q2,q3,q7⟩⟩)) λk x fk h=>by
 try dsimp only[Ty.den]at*
 obtain⟨h0,h1,h2,h3,h4⟩:=h;unfold uf;refine aJ.cnd (λhc=> ?_) (λ_=>rfl);rw[adv]at hc;have e:=cC h0 (h1▸hc) (auv (lR h3 h2.n8) (by decide));rw[e];refine aJ.cnd (λ_=> ?_) (λ_=>aJ.cnd (λ_=> ?_) (λ_=> ?_))
 ·exact⟨rfl,⟨cH h0,h1,⟨h2.n8,h2.cf,h2.c1,(auz ..).trans h2.c2,(auz ..).trans h2.c3,h2.c4,h2.c5,h2.c6,(auz ..).trans h2.c7,h2.c8,h2.p1,h2.p2,h2.p3,h2.ph,h2.bf,h2.cmd,h2.iU⟩,h3,h4⟩,cI hc⟩
 ·exact⟨rfl,⟨cH h0,h1,⟨h2.n8,h2.cf,h2.c1,(auz ..).trans h2.c2,(auz ..).trans h2.c3,h2.c4,h2.c5,h2.c6,(auz ..).trans h2.c7,h2.c8,h2.p1,h2.p2,h2.p3,h2.ph,h2.bf,h2.cmd,h2.iU⟩,h3,h4⟩,cI hc⟩
 ·exact⟨rfl,⟨cH h0,h1,h2,h3,h4⟩,cI hc⟩
theorem anA:dL 176 EV:=dU (wq [(3,[33]),(7,[210000])]) func176 [(10,PW)] (lc ah0 l0) (sp λx fx h=>sl (letI d:=fm x;letI e:=x.2.2.1.2.1;letI h:=d.2.2.1.1;letI i:=iy x;letI a:=ed (lE (d.2.1,h,aH aw i.1 e.2 false),d.2);letI c:=ed (lE (d.2.1,h,i.1),d.2);letI j:=x.2.1.1;letI f:=iz (x.1,j,e,i.1);letI l:=e.1 !=0;letI m:=d.2.2.2.2.2.2.1;letI g:=m==0;letI b:=g=false->((m !=0)=false->Ca (f.2,h.1,(h.1.length:Int),j,e) (0,d.2));Vc x/\((l=true->((0<=e.2/\e.2<(i.1.length:Int))/\((g=true->((a.2.2.2.2.2.2.1 !=0)=false->Ca (f.2,a.2.2.1.1.1,(a.2.2.1.1.1.length:Int),j,e) (0,a.2)))/\b)))/\(l=false->((g=true->(c.2.2.2.2.2.2.1 !=0)=false->Ca (f.2,c.2.2.1.1.1,c.2.2.1.1.1.length,j,e) (0,c.2))/\b)))) (by
 try dsimp only[Ty.den]at*
 obtain⟨h,hg⟩:cD x/\x.2.2.2.1=true:=h;have w:kR x (fm x).2:=aib h hg;refine⟨h,λ_=>⟨df (h.iU hg) ag7,λf0 f1=>⟨au8 _,rfl,(w.auto (vY f0)).lens h f1⟩,λ_ f1=>⟨au8 _,rfl,w.lens h f1⟩⟩,λ_=>⟨λf0 f1=>⟨au8 _,rfl,(w.auto (vY f0)).lens h f1⟩,λ_ f1=>⟨au8 _,rfl,w.lens h f1⟩⟩⟩))
theorem ap6:an 288 ZB:=ao (wq []) func288 [] l0 (sp λx fx h=>sl (letI c:=x.2.1.2;letI d:=x.1.2;letI h:=(d.length:Int);letI i:=c.2.1;letI a:=oZ (x.1.1,d,x.2.1.1,c.1,i);letI e:=(x.1.1,d,i,x.2.1.1,c.1);letI f:=(x.1.1,d,a,x.2.1.1,c.1);letI g:=aa d i;letI b:=g.2.2.1&&(x.2.2==0);(a==(-1))=false->((0<=i/\i<h)/\(b=true->vf f)/\(b=true->vf e)/\((b&&FR (wm f,wm e))=false->(!g.2.2.1&&Ay g)=true->0<=a/\a<h))) (by
 try dsimp only[Ty.den]at*
 intro hc;have q:=(Bv (x:=(x.1.1,x.1.2,x.2.1.1,x.2.1.2.1,x.2.1.2.2.1)) fx.1.2.1).resolve_left (beq_eq_false_iff_ne.1 hc);exact⟨h,λ_=>q,λ_=>h,λ_ _=>q⟩))
def abl(nw:Bool):=(128,.pv EP)::(176,.pv EV)::ac5 nw
theorem Qi(nw:Bool):ga (abl nw):=zc (z:= .pv EP) XE func128 (zc (z:= .pv EV) anA func176 ((QP nw)))
def ab6:=(8,ct8)::(288,ZB)::aaH
theorem Tw:cr ab6:=gc ok8 func8 (gc ap6 func288 (S8))
def ij(x:au):=bif x.2.2.2.1 then((),(ig x).2)else((),x)
def VE(x:au):Prop:=cD x
def gD(x:(ae×List aX)×aC×Int):=letI a:=x.2.1;letI b:=a.2.2;letI c:=i64.wrap (b.2.1+1);letI d:=x.1.1.2.2.2.2.2.2.2.length;letI e:=a.2.1;letI f:=aa x.1.2 b.1;bif b.1== -2 then a else bif b.1== -1 then(a.1,e,oZ (x.1.1,x.1.2,a.1,e,-1),b.2)else bif f.2.2.2.1&&b.2.1>d then(a.1,e,-2,b.2)else bif f.2.2.2.1 then(a.1,e,oZ (x.1.1,x.1.2,a.1,e,b.1),c,b.2.2)else bif !b.2.2&&b.2.1<=d then bif qt x != -1 then(a.1,e,qt x,c,true)else a else a
def T8(x:(ae×List aX)×aC×Int):Prop:= -2<=x.2.1.2.2.1/\x.2.1.2.2.1<x.1.2.length
def KR:Cv:=letI a:=(16,true,142);letI b:=(17,true,153);letI c:=(18,true,158);⟨dj,[],[.p],[43],false,[(15,true,70),a,b,c,(32,true,4),(33,true,51),(34,true,4),(42,true,85)],dj,Ty.unit,ah.none,[(15,true,70),a,b,c,(32,true,4),(33,true,51),(34,true,4),(42,true,85)],some VE,ij,false⟩
def YQ:Ct:=⟨Ty.pair EJ (Ty.pair dP ab),[some 9,some 5,none],dP,ah.one (some 5),some T8,none,gD⟩
def abT(z:List (Nat×List Nat)):=dB (Qi true) lY cY Tw z
theorem Zd:dL 129 KR:=dU (abT []) func129 [] l0 (sp λx fx h=>sl (x.2.2.2.1=true->Up x) (by
 exact λhg=>⟨h,hg⟩))
theorem ao6:an 262 YQ:=ao (abT []) func262 [] l0 (sp λx fx h=>sl (letI a:=x.2.1.2.2;letI b:=0<=a.1/\a.1<(x.1.2.length:Int);letI c:=(x.1.1.2.2.2.2.2.2.2.length:Int);letI d:=aa x.1.2 a.1;(a.1== -2)=false->(a.1== -1)=false->b/\((d.2.2.2.1&&a.2.1>c)=false->b/\(d.2.2.2.1=false->(!a.2.2&&a.2.1<=c)=true->T7 x))) (by
 try dsimp only[Ty.den]at*
 intro c1 c2;have q:=asT h.1 h.2 c1 c2;exact⟨q,λ_=>⟨q,λ_ _=>q⟩⟩))
def adb(nw:Bool):=(129,.pv KR)::abl nw
theorem QJ(nw:Bool):ga (adb nw):=zc (z:= .pv KR) Zd func129 ((Qi nw))
def adw:=(262,YQ)::ab6
theorem R6:cr adw:=gc ao6 func262 (Tw)
theorem ago{x:(ae×List aX)×aC×Int}(hl:x.1.2.length<=maxLen):qt x= -1\/0<=qt x/\qt x<x.1.2.length:=by
 have h:=Bv (x:=(x.1.1,x.1.2,x.2.1.1,x.2.1.2.1,x.2.1.2.2.1)) hl;unfold qt;grind
theorem OH{x:(ae×List aX)×aC×Int}(hl:x.1.2.length<=maxLen)(h1: -2<=x.2.1.2.2.1)(h2:x.2.1.2.2.1<(x.1.2.length:Int)): -2<=(gD x).2.2.1/\(gD x).2.2.1<(x.1.2.length:Int):=by
 have key: ∀n:Int,n= -1\/0<=n/\n<(x.1.2.length:Int)-> -2<=n/\n<(x.1.2.length:Int):=λn h=>by omega
 unfold gD;simp only[cond];repeat' split
 ·omega
 ·grind [Bv]
 ·grind
 all_goals grind [Bv,ago]
theorem sH(x:aC×aC):(sS x).length<=2:=by
 unfold sS;grind
abbrev NH:=List Int×List aX×List aC×Int×ae×ae×List aX
structure nT (k:NH) (x:List aT×List Int×Int):Prop where
 i0:0<=x.2.2
 n:k.2.2.2.1=(k.2.2.1.length:Int)
 qL:k.2.2.1.length<=64
 e:k.1.length=k.2.2.1.length
 x1:x.2.1.length=k.2.2.1.length
 v:k.2.1.length=k.2.2.2.2.1.2.2.2.2.2.2.2.length
 p:k.2.2.2.2.2=(k.2.2.2.2.1,k.2.1)
 cl: ∀e∈k.2.2.1,-2<=e.2.2.1/\e.2.2.1<(k.2.1.length:Int)
 r:(x.1.length:Int)<=2*x.2.2
 vm:k.2.1.length<=maxLen
theorem nT.kq{k:NH}{x:List aT×List Int×Int}(h:nT k x)(a:x.2.2<k.2.2.2.1):0<=x.2.2/\x.2.2<k.2.2.1.length:=⟨h.i0,h.n▸a⟩
theorem nT.eU{k:NH}{x:List aT×List Int×Int}(h:nT k x)(f:x.2.2<k.2.2.2.1){q:Int}: -2<=(gD (k.2.2.2.2.2,aa k.2.2.1 x.2.2,q)).2.2.1/\(gD (k.2.2.2.2.2,aa k.2.2.1 x.2.2,q)).2.2.1<k.2.1.length:=by
 have a:=gI h.cl (h.kq f);rw[h.p];exact OH h.vm a.1 a.2
theorem as8{l m:List aT}{i n:Int}{e:Nat}{b c d:Nat}(h:l.length<=2*i)(a:i<n)(f:n=e)(g:e<=64)(hm:m.length<=2)(hb:b<=1000:=by decide)(h2:c=140737488355328:=by rfl)(j:d=4611686018427387903:=by rfl):(l.length+m.length)*b<=c/\l.length+m.length<=d:=by
 have:l.length+m.length<=1000:=by omega
 refine⟨?_,by omega⟩;calc (l.length+m.length)*b<=1000*1000:=aya this hb
  _<=c:=by omega
theorem vV{l m:List aT}{i:Int}(h:l.length<=2*i)(hm:m.length<=2):((l++m).length:Int)<=2*(i+1):=by grind
theorem NB{c:Int}{q:Bool}(h:(q&&decide (c>=0))=true):0<=c:=by simp_all
theorem atb{n:Nat}(h:n<=64):0<=(n:Int)/\n=(n:Int)/\(n:Int)*8<=140737488355328/\(n:Int)<=4611686018427387903:=by omega
theorem Jd{x:ae×aq×List Int×List aX}(hl:x.1.2.2.2.2.2.2.2.length<=maxLen)(h1:x.2.1.1.length<=maxLen)(h2:x.2.1.2.2.2.length<=maxLen){q:Bool}(h:((((!(cL (x.1,x.2.1)))||((x.2.2.1.length:Int) !=x.2.1.2.2.2.length))||((x.2.2.2.length:Int) !=x.1.2.2.2.2.2.2.2.length))||q)=false):
  x.2.2.1.length<=64/\nT (x.2.2.1,x.2.2.2,x.2.1.2.2.2,x.2.1.2.2.2.length,x.1,x.1,x.2.2.2) ([],aE ab x.2.2.1.length,0):=by
 rw[au1,au1,au1,avi,avc,avc,axe,axe]at h;obtain⟨⟨⟨i,f⟩,a⟩,_⟩:=h;have hm:=(mS hl h1 h2).1 i;have j:=hm.len;refine⟨by omega,au8 _,rfl,j,f,(ff _).trans f,a,rfl,λe k=> ?_,au8 _,a▸hl⟩;have g:=hm.gO e k;exact⟨g.2.1,a.symm▸g.2.2.1⟩
def S6(k:((List Int)×(List (aX))×(List (aC))×Int×(ae)×(ae)×List (aX)))(x:((List (aO))×(List Int)×Int)):Prop:=nT k x
def yo(k:(List Int)×(List aX)×(List aC)×Int×ae×ae×List aX)(x:(List (aO))×(List Int)×Int):=(k.2.2.2.1-x.2.2).toNat
def agZ(k:(List Int)×(List aX)×(List aC)×Int×ae×ae×List aX)(x:(List (aO))×(List Int)×Int):=letI b:=aa k.2.2.1 x.2.2;letI a:=gD (k.2.2.2.2.2,b,aa k.1 x.2.2);wB (k.2.2.2.2.1,a.2.2.1,aa k.2.1 a.2.2.1,b.1,b.2.1)
def agw(k:(List Int)×(List aX)×(List aC)×Int×ae×ae×List aX)(x:(List (aO))×(List Int)×Int):=letI a:=x.2.2;aH ab (aH ab x.2.1 a (max (i64.wrap (aa k.1 a-1)) (0:Int))) a (min (i64.wrap (agZ k x+(aa k.2.2.2.2.1.2.2.2.2.2.2.2 (gD (k.2.2.2.2.2,aa k.2.2.1 a,aa k.1 a)).2.2.1).2.2.2.1)) (1000000:Int))
def nd(k:(List Int)×(List aX)×(List aC)×Int×ae×ae×List aX)(x:(List (aO))×(List Int)×Int):ak ((List Int)×(List aX)×(List aC)×Int×ae×ae×List aX) ((List (aO))×(List Int)×Int) (((List (aO))×(List Int)×Int)×Unit):=letI e:=x.2.2;letI b:=aa k.2.2.1 e;letI a:=gD (k.2.2.2.2.2,b,aa k.1 e);letI c:=i64.wrap (e+1);letI d:=x.1++sS (b,a);bif e<k.2.2.2.1 then bif a.2.2.1 !=b.2.2.1&&a.2.2.1>=0 then .next k (d,agw k x,c)else .next k (d,aH ab x.2.1 e (max (i64.wrap (aa k.1 e-1)) (0:Int)),c)else .brk k x
def U3 k x:=endOf nd k (Nat.succ (yo k x)) x
def gP(x:ae×aq×(List Int)×List aX):((List (aO))×(List Int)×Int)×Unit:=bif !cL (x.1,x.2.1)||(x.2.2.1.length:Int) !=x.2.1.2.2.2.length||(x.2.2.2.length:Int) !=x.1.2.2.2.2.2.2.2.length||mm (x.2.2.1,some 261)then(([],[],1),())else(((U3 (x.2.2.1,x.2.2.2,x.2.1.2.2.2,x.2.1.2.2.2.length,x.1,x.1,x.2.2.2) ([],aE ab x.2.2.1.length,0)).1,(U3 (x.2.2.1,x.2.2.2,x.2.1.2.2.2,x.2.1.2.2.2.length,x.1,x.1,x.2.2.2) ([],aE ab x.2.2.1.length,0)).2.1,0),())
def Fa:Cv:=⟨Ty.pair az (Ty.pair bO (Ty.pair cX gw)),[some 8,some 4,none,none],[.v,.v,.v,.v],[],false,[],Ty.unit,Ty.pair dF (Ty.pair cX bI),ah.tup [none,none,none],[(0,true,213),(1,true,3)],none,gP,false⟩
def So:LS (Ty.pair (Ty.pair dF (Ty.pair cX bI)) Ty.unit).den:=aD (Ty.pair cX (Ty.pair gw (Ty.pair dg (Ty.pair ab (Ty.pair az EJ))))) (Ty.pair dF (Ty.pair cX ab)) [(2,none),(3,none),(48,none),(49,none)] [(4,8),(11,9)] [(12,none),(13,none),(50,none)] [] [(0,100700,true,213),(1,100701,true,3)] [] [(4,4),(11,11)] 0 false S6 nd yo
def aco(z:List (Nat×List Nat)):=dB (QJ true) lY cY R6 z
theorem akC:gW f225 Fa [0] So:=lV (aco []) [] l0 (λk x fk fx h=>sl (letI b:=aO;letI c:=x.2.2;letI f:=0<=c/\c<(k.1.length:Int);letI i:=k.2.2;letI e:=aa i.1 c;letI a:=(i.2.2.2,e,aa k.1 c);letI d:=gD a;letI g:=d.2.2.1;letI h:=(sS (e,d):List b);decide (c<i.2.1)=true->((0<=c/\c<(i.1.length:Int))/\(f/\(T8 a/\(((List.length (x.1:List b)+List.length h)*40<=140737488355328/\List.length (x.1:List b)+List.length h<=4611686018427387903)/\(f/\((0<=c/\c<(x.2.1.length:Int))/\(((g !=e.2.2.1)&&decide (g>=0))=true->((0<=g/\g<(k.2.1.length:Int))/\((0<=g/\g<i.2.2.1.2.2.2.2.2.2.2.length)/\0<=c/\c<((aH ab x.2.1 c (max (i64.wrap (aa k.1 c-1)) 0)).length))))))))))) (by
 try dsimp only[Ty.den]at*
 have h:nT k x:=h;intro hc;rw[adv]at hc;have r:=h.kq hc;have q:=h.eU hc (q:=aa k.1 x.2.2);have re:=df r h.e;have rx:=df r h.x1;have hq:=gI h.cl r;have hv:=av7 (λy:ae×List aX=>y.2.length) h.p;exact⟨r,re,⟨hq.1,hv.symm▸hq.2⟩,as8 h.r hc h.n h.qL (sH _),re,rx,λhg=>⟨⟨NB hg,q.2⟩,df ⟨NB hg,q.2⟩ h.v.symm,df rx (auz ..)⟩⟩)) λk x fk h=>by
 try dsimp only[Ty.den]at*
 have h:nT k x:=h;unfold nd;refine aJ.cnd (λhc=> ?_) (λ_=>rfl);rw[adv]at hc;have r:=h.kq hc;have e:=cC r.1 r.2 (auv h.qL (by decide));rw[e];refine aJ.cnd (λ_=> ?_) (λ_=> ?_)
 ·exact⟨rfl,⟨cH h.i0,h.n,h.qL,h.e,(auz ..).trans ((auz ..).trans h.x1),h.v,h.p,h.cl,vV h.r (sH _),h.vm⟩,cI hc⟩
 ·exact⟨rfl,⟨cH h.i0,h.n,h.qL,h.e,(auz ..).trans h.x1,h.v,h.p,h.cl,vV h.r (sH _),h.vm⟩,cI hc⟩
theorem ao3:dL 225 Fa:=dU (aco []) func225 [(7,So)] (lc akC l0) (λx fx _=>sl (letI c:=(x.2.1.2.2.2.length:Int);letI d:=x.2.2;letI a:=(d.1.length:Int);letI b:= !cL (x.1,x.2.1)||a !=c||(d.2.length:Int) !=x.1.2.2.2.2.2.2.2.length;letI e:=(d.1,some 261);(b=false->vr e)/\((b||mm e)=false->(0<=a/\a=a/\a*8<=140737488355328/\a<=4611686018427387903)/\S6 (d.1,d.2,x.2.1.2.2.2,c,x.1,x.1,d.2) ([],aE ab a,0))) (by
 try dsimp only[Ty.den]at*
 refine⟨λ_=>⟨_,rfl,by simp⟩,λhc=> ?_⟩;have q:=Jd (x:=x) fx.1.2.2.2.2.2.2.2.1 fx.2.1.1.1 fx.2.1.2.2.2.1 hc;exact⟨atb q.1,q.2⟩))
def aap(nw:Bool):=(225,.pv Fa)::adb nw
theorem Ih(nw:Bool):ga (aap nw):=zc (z:= .pv Fa) ao3 func225 ((QJ nw))
def aal:List (Nat×Ct):=adw
theorem Sj:cr aal:=R6
theorem foldl_filter{α β:Type}(p:α->Bool)(g:α->β): ∀(l:List α) (acc:List β),l.foldl (λacc e=>bif p e then acc++ [g e]else acc) acc=acc++(l.filter p).map g
 | [],acc=>by simp
 |a::l,acc=>by
  rw[awd,foldl_filter p g l,List.filter_cons];grind
def kH(b:ae)(v:List aX):bw:=v.foldl (λc x=>gi (c,jH (b,x))) (0,0)
theorem B8{b:ae}{m:aq}{v:List aX}(hm:bk b m)(f:v.length=b.2.2.2.2.2.2.2.length):cu (b,m,v)=(m.2.2.2.filter (λe=>gg (kH b v,e.1,e.2.1))).map (λe=>(2,e.1,e.2.1,0,0)):=by
 have g:=hm.bG.cn.2;have h:=hm.len;have a:(DY (v,(v.length:Int),b) ((0:Int),(0:Int),(0:Int))).2=kH b v:=by
  have:=BO (step:=uH) (k:=(v,(v.length:Int),b)) v (λc x=>gi (c,jH (b,x))) (λ_=>True) (by grind [maxLen]) (λc i hi _=>by
   refine⟨?_,trivial⟩;unfold uH;simp only[show((i:Int)<(v.length:Int))from by omega,avz,au3,cc v i hi]) (λc _=>by simp_all [uH]) (0,0) trivial (fuel:=Nat.succ (yh (v,(v.length:Int),b) ((0:Int),(0:Int),(0:Int)))) (by simp_all [yh])
  unfold DY;rw[this.1];rfl
 unfold cu;simp only;have hb:((v.length:Int) !=(b.2.2.2.2.2.2.2.length:Int))=false:=by simp_all
 rw[hm.is,a,hb];simp only[awa,azf,auw];have:=(agX (step:=ug) (k:=(m.2.2.2,(m.2.2.2.length:Int),kH b v)) m.2.2.2 (λ(acc:List aT) (e:aC)=>bif gg (kH b v,e.1,e.2.1)then acc++ [((2:Int),e.1,e.2.1,(0:Int),(0:Int))]else acc) (by grind [maxLen]) (λacc i hi=>by
  refine⟨(m.2.2.2,(m.2.2.2.length:Int),kH b v),?_⟩;unfold ug;simp only[show((i:Int)<(m.2.2.2.length:Int))from by omega,avz,au3,cc m.2.2.2 i hi];grind) (λacc=>⟨(m.2.2.2,(m.2.2.2.length:Int),kH b v),by simp_all [ug]⟩) [] (fuel:=Nat.succ (xP (m.2.2.2,(m.2.2.2.length:Int),kH b v) ([],0))) (by simp_all [xP])).1
 simp_all [Rv,foldl_filter]
theorem tU{b:ae}{m:aq}{v:List aX}(hm:bk b m)(a:v.length=b.2.2.2.2.2.2.2.length):(∀r∈cu (b,m,v),dh b r)/\(cu (b,m,v)).length<=64:=by
 rw[B8 hm a];refine⟨λr hr=> ?_,by rw[ayt];exact auv (List.length_filter_le _ _) hm.len⟩;obtain⟨e,f,rfl⟩:=List.mem_map.1 hr;exact .inl ⟨.inr rfl,(hm.gO e (List.mem_filter.1 f).1).1,rfl,rfl⟩
def eg(m:bY)(e:aC):bY:=bif gS (m.2,m.1.2.1)then cF m (1,e.1,e.2.1,0,0)else((m.1.1,m.1.2.1,m.1.2.2.1,m.1.2.2.2.1,gi (m.1.2.2.2.2,ia (e.1,e.2.1))),m.2)
theorem DU{x:bY}(h:dt [] x)(p o:bw):lx (p,o,x)=((),(hU (ew (dG (p,dS x.2),o))).foldl eg x)/\dt [] ((hU (ew (dG (p,dS x.2),o))).foldl eg x)/\((hU (ew (dG (p,dS x.2),o))).foldl eg x).2=x.2:=by
 have a:=BH h.ba.bG p o;have hl:=xJ (ew (dG (p,dS x.2),o));generalize g:hU (ew (dG (p,dS x.2),o))=L at hl;have a: ∀e∈L,da x.2.1 e.1 e.2.1:=λe j=>a e (by show e∈hU _;rw[g];exact j)
 have f:=BO (step:=ux) (k:=(L,(L.length:Int))) L eg (λm=>dt [] m/\m.2=x.2) (by unfold maxLen;omega) (λm i hi hm=>by
  have l:da m.2.1 L[i].1 L[i].2.1:=by rw[hm.2];exact a _ (ayj hi)
  unfold ux eg;simp only[show((i:Int)<(L.length:Int))from by omega,avz,au3,cc L i hi];cases gS (m.2,m.1.2.1)with
  |true=>
   rw[au3,au3];have hw:=rE (IL hm.1 l) (by simp[maxLen]);rw[hw.1];exact⟨rfl,hw.2.1.with (λr hr=>by cases hr),hw.2.2.trans hm.2⟩
  |false=>
   rw[auw,auw];exact⟨rfl,⟨hm.1.ba,hm.1.exp,hm.1.dv⟩,hm.2⟩) (λm hm=>by unfold ux;simp) x ⟨h,rfl⟩ (fuel:=Nat.succ (CD (L,(L.length:Int)) (0,x))) (by unfold CD;simp)
 refine⟨?_,f.2.2.1,f.2.2.2⟩;unfold lx Ut;have s:mz (ew (dG ((p,o,x).1,dS (p,o,x).2.2.2),(p,o,x).2.1))=L:=g;rw[s,f.1]
theorem afX(m:bY)(e:aC):(eg m e).1.1.length<=m.1.1.length+1:=by
 grind [eg,cF]
theorem Ip: ∀(l:List aC) (m:bY),(l.foldl eg m).1.1.length<=m.1.1.length+l.length
 | [],m=>au7 _
 |e::l,m=>by
  have:=Ip l (eg m e);grind [afX]
theorem aeM{b:ae}{v:List aX}{e:aC}{n:Int}(g:aR b)(f:v.length=b.2.2.2.2.2.2.2.length)(a:mB b e):mB b (gD ((b,v),e,n)):=by
 have j:b.2.2.2.2.2.2.2.length<=8:=g.cn.2;have hl:v.length<=maxLen:=by grind [maxLen]
 have hr:=OH (x:=((b,v),e,n)) hl a.2.1 (by show _<(v.length:Int);rw[f];exact a.2.2.1);have i:((b,v),e,n).1.2.length=b.2.2.2.2.2.2.2.length:=f;rw[i]at hr;suffices h:(gD ((b,v),e,n)).1=e.1/\(gD ((b,v),e,n)).2.1=e.2.1/\0<=(gD ((b,v),e,n)).2.2.2.1/\(gD ((b,v),e,n)).2.2.2.1<=255 by
  refine⟨?_,hr.1,hr.2,h.2.2⟩;rw[h.1,h.2.1];exact a.1
 have h0:=a.2.2.2;unfold gD;simp only;cases(e.2.2.1==(-2:Int))with
 |true=>simp_all
 |false=>
  simp only[auw];cases(e.2.2.1==(-1:Int))with
  |true=>simp_all
  |false=>
   simp only[auw];cases h1:((aa v e.2.2.1).2.2.2.1&&(decide (e.2.2.2.1>(b.2.2.2.2.2.2.2.length:Int))))with
   |true=>simp_all
   |false=>
    simp only[auw];cases h2:(aa v e.2.2.1).2.2.2.1 with
    |true=>
     rw[h2,axs,au0]at h1;simp only[au3];rw[aB (x:=e.2.2.2.1+1) (by omega) (by omega)];grind
    |false=>
     simp only[auw];cases h3:((!e.2.2.2.2)&&(decide (e.2.2.2.1<=(b.2.2.2.2.2.2.2.length:Int))))with
     |true=>
      rw[au4,adv]at h3;simp only[au3];cases(qt ((b,v),e,n) !=(-1:Int))with
      |true=>
       simp only[au3];rw[aB (x:=e.2.2.2.1+1) (by omega) (by omega)];grind
      |false=>simp_all
     |false=>simp_all
theorem aea{b:ae}{was e:aC}(a:mB b e): ∀r∈sS (was,e),dh b r/\(r.1=3\/r.1=7):=by
 have h3:dh b (3,e.1,e.2.1,e.2.2.1,0):= .inr (.inl ⟨rfl,a.1,a.2.1,by have:=a.2.2.1;grind,rfl⟩);have h7: ∀c:Int,c=0\/c=1->dh b (7,e.1,e.2.1,c,e.2.2.2.1):=λc f=> .inr (.inr (.inl ⟨rfl,a.1,by grind,by grind,a.2.2.2⟩))
 unfold sS;grind
theorem pE{b:ae}{m:aq}{x:List Int}{v:List aX}(hm:bk b m):(∀r∈(gP (b,m,x,v)).1.1,dh b r/\(r.1=3\/r.1=7))/\(gP (b,m,x,v)).1.1.length<=128:=by
 unfold gP;cases hc:((((!(cL ((b,m,x,v).1,(b,m,x,v).2.1)))||(((b,m,x,v).2.2.1.length:Int) !=((b,m,x,v).2.1.2.2.2.length:Int)))||(((b,m,x,v).2.2.2.length:Int) !=((b,m,x,v).1.2.2.2.2.2.2.2.length:Int)))||(mm ((b,m,x,v).2.2.1,(some 261))))with
 |true=>exact⟨λr hr=>(by cases hr),awb _⟩
 |false=>
  have j:=Jd hm.fit.1 hm.fit.2.1 hm.fit.2.2 hc;have i:=ir (step:=nd) (k:=(x,v,m.2.2.2,m.2.2.2.length,b,b,v)) (I:=λy=>nT (x,v,m.2.2.2,m.2.2.2.length,b,b,v) y/\y.2.2<=m.2.2.2.length/\ ∀r∈y.1,dh b r/\(r.1=3\/r.1=7)) (λy k' z h f=>by
   obtain⟨h1,h2,h3⟩:=h;unfold nd at f;revert f
   by_cases g:y.2.2<m.2.2.2.length
   ·have e:=cC h1.i0 g hm.fit.2.2
    have l:=hm.gO _ (by have:=gI (λa o=>o) ⟨h1.i0,g⟩;exact this);have s:=aeM (n:=aa x y.2.2) hm.bG h1.v l;have t:=aea (was:=aa m.2.2.2 y.2.2) s;have h4:=λr hr=>(List.mem_append.1 hr).elim (h3 r) (t r)
    simp only[g,avz,au3,e];simp only[cond];split
    ·intro f
     cases f;exact⟨⟨cH h1.i0,h1.n,h1.qL,h1.e,(auz ..).trans ((auz ..).trans h1.x1),h1.v,h1.p,h1.cl,vV h1.r (sH _),h1.vm⟩,g,h4⟩
    ·intro f
     cases f;exact⟨⟨cH h1.i0,h1.n,h1.qL,h1.e,(auz ..).trans h1.x1,h1.v,h1.p,h1.cl,vV h1.r (sH _),h1.vm⟩,g,h4⟩
   ·simp only[g,awe,auw]
    intro f;cases f) (λy k' z h f=>by
   unfold nd at f;revert f
   simp only[cond];repeat' split
   all_goals(intro f;first|(cases f;done)|(cases f;exact h))) (Nat.succ (yo (x,v,m.2.2.2,m.2.2.2.length,b,b,v) ([],aE ab x.length,0))) ([],aE ab x.length,0) ⟨j.2,au9 _,λr hr=>(by cases hr)⟩
  refine⟨i.2.2,?_⟩;have h1:=i.1.r;have h3:=hm.len;show(endOf nd (x,v,m.2.2.2,m.2.2.2.length,b,b,v) (Nat.succ (yo (x,v,m.2.2.2,m.2.2.2.length,b,b,v) ([],aE ab x.length,0))) ([],aE ab x.length,0)).1.length<=128;omega
theorem age{b:ae}{v:List aX}{l:List bw}(h:((ec (b,v,l)).2 !=0)=false):v.length=b.2.2.2.2.2.2.2.length:=by
 unfold ec at h;grind
theorem HF{m:aq}{e:List Int}(h:(!(kh (m,e)))=false):e.length=m.2.2.2.length:=by
 grind [kh]
theorem ahI{b:ae}{m:aq}{e:List Int}{v:List aX}{ey:List bw×List Bool×af}(hm:bk b m)(i:e.length=m.2.2.2.length)(j:v.length=b.2.2.2.2.2.2.2.length)(press aN:bw){ref:bw}:
  (dt (cu (b,m,v)) (([],m,e,ey,ref),b))/\(cu (b,m,v)).length<=64/\
  dt [] (eZ (cu (b,m,v),([],m,e,ey,ref),b)).2/\(eZ (cu (b,m,v),([],m,e,ey,ref),b)).2.1.1.length<=64/\(eZ (cu (b,m,v),([],m,e,ey,ref),b)).2.2=b/\
  dt [] (lx (press,aN,(eZ (cu (b,m,v),([],m,e,ey,ref),b)).2)).2/\(lx (press,aN,(eZ (cu (b,m,v),([],m,e,ey,ref),b)).2)).2.1.1.length<=128/\(lx (press,aN,(eZ (cu (b,m,v),([],m,e,ey,ref),b)).2)).2.2=b:=by
 obtain⟨k,a⟩:=tU hm j;have f:dt (cu (b,m,v)) (([],m,e,ey,ref),b):=⟨hm,i,k⟩;obtain⟨l,o,g⟩:=rE f (auv a (by decide));have s:(List.foldl cF ((([]:List aT),m,e,ey,ref),b) (cu (b,m,v))).1.1.length<=64:=by
  simp_all [ku]
 rw[l];have h:dt [] (List.foldl cF ((([]:List aT),m,e,ey,ref),b) (cu (b,m,v))):=o.with (λr hr=>by cases hr);obtain⟨t,u,w⟩:=DU h press aN;refine⟨f,a,h,s,g,?_⟩;rw[t];refine⟨u,?_,w.trans g⟩;have:=Ip (hU (ew (dG (press,dS (List.foldl cF ((([]:List aT),m,e,ey,ref),b) (cu (b,m,v))).2),aN))) (List.foldl cF ((([]:List aT),m,e,ey,ref),b) (cu (b,m,v)));have:=xJ (ew (dG (press,dS (List.foldl cF ((([]:List aT),m,e,ey,ref),b) (cu (b,m,v))).2),aN));grind
theorem dt.MI{x:bY}{b:ae}(h:dt [] x)(hb:x.2=b){e:List Int}{v:List aX}(hr:x.1.1.length<=128):(gP (b,x.1.2.1,e,v)).1.1.length<=1000/\dt (gP (b,x.1.2.1,e,v)).1.1 x/\x.1.1.length<=50000:=by
 subst hb;have a:=pE (x:=e) (v:=v) h.ba;exact⟨auv a.2 (by decide),h.with (λr hr=>(a.1 r hr).1),auv hr (by decide)⟩
theorem afv(m:aq):wg m=m:=rfl
theorem afJ(l:List Int):(kS l).1=l:=rfl
def J8(x:ae×aq×(List Int)×(List aX)×(List (af))×(af)×Bool):=letI a:=x.2.2.2;letI c:=ec (x.1,a.1,a.2.1);letI d:=x.2.1;letI b:=cu (x.1,d,a.1);gP (x.1,(lx (a.2.2.1,cd d,(eZ (b,([],wg d,(kS x.2.2.1).1,c.1,0,0),x.1)).2)).2.1.2.1,(lx (a.2.2.1,cd d,(eZ (b,([],wg d,(kS x.2.2.1).1,c.1,0,0),x.1)).2)).2.1.2.2.1,a.1)
def lG(x:ae×aq×(List Int)×(List aX)×(List (af))×(af)×Bool):((List (aO))×aq×(List Int)×((List (af))×(List Bool)×af)×af)×Int:=letI b:=x.2.2.2;letI c:=kS x.2.2.1;letI d:=ec (x.1,b.1,b.2.1);letI f:=tf b.1.length;letI h:=J8 x;letI i:=x.2.1;letI e:=wg i;letI a:=gP (x.1,e,c.1,b.1);letI g:=cu (x.1,i,b.1);letI j:=cd i;bif d.2 !=0|| !cL (x.1,i)|| !kh (i,x.2.2.1)then(([],([],[],[],[]),[],([],[],0,0),0,0),1)else bif b.2.2.2 then(((eZ (h.1.1,(lx (b.2.2.1,j,(eZ (g,([],e,c.1,d.1,0,0),x.1)).2)).2)).2.1.1,(eZ (h.1.1,(lx (b.2.2.1,j,(eZ (g,([],e,c.1,d.1,0,0),x.1)).2)).2)).2.1.2.1,h.1.2.1,(eZ (h.1.1,(lx (b.2.2.1,j,(eZ (g,([],e,c.1,d.1,0,0),x.1)).2)).2)).2.1.2.2.2),0)else(((eZ (a.1.1,([],e,c.1,f,0,0),x.1)).2.1.1,(eZ (a.1.1,([],e,c.1,f,0,0),x.1)).2.1.2.1,a.1.2.1,(eZ (a.1.1,([],e,c.1,f,0,0),x.1)).2.1.2.2.2),0)
def WN:Ct:=⟨Ty.pair az (Ty.pair bO (Ty.pair cX (Ty.pair gw (Ty.pair oN (Ty.pair aU aw))))),[some 8,some 4,none,none,none,some 2,none],Ty.pair EY bI,ah.tup [some 12,none],none,none,lG⟩
theorem aoL:an 177 WN:=ao (dB (Ih true) lY cY Sj [(11,[248000])]) func177 [] l0 (λx fx _=>sl (letI a:=x.2.2.2;letI b:=ec (x.1,a.1,a.2.1);letI c:=x.2.1;letI d:=kS x.2.2.1;letI e:=cu (x.1,c,a.1);letI f:=wg c;letI g:=(a.1.length:Int);(((b.2 !=0)||(!(cL (x.1,c))))||(!(kh (c,x.2.2.1))))=false->(Vk c/\(sI x.2.2.1/\(Kk g/\((a.2.2.2=true->(Kx (x.1,c,a.1)/\yM (e,([],f,d.1,b.1,0,0),x.1)/\Ud (a.2.2.1,cd c,(eZ (e,([],f,d.1,b.1,0,0),x.1)).2)/\yM ((J8 x).1.1,(lx (a.2.2.1,cd c,(eZ (e,([],f,d.1,b.1,0,0),x.1)).2)).2)))/\(a.2.2.2=false->yM ((gP (x.1,f,d.1,a.1)).1.1,([],f,d.1,tf g,0,0),x.1))))))) (by
 try dsimp only[Ty.den]at*
 intro hc;rw[au1,au1,avi]at hc;have hm:=(mS (b:=x.1) (m:=x.2.1) fx.1.2.2.2.2.2.2.2.1 fx.2.1.1.1 fx.2.1.2.2.2.1).1 hc.1.2;have hv:=age hc.1.1;have he:=HF hc.2;have h64:=hm.len;have q:=ahI (ey:=(ec (x.1,x.2.2.2.1,x.2.2.2.2.1)).1) (ref:=((0:Int),(0:Int))) hm he hv x.2.2.2.2.2.1 (cd x.2.1);have r0:dt [] (([],x.2.1,x.2.2.1,tf (x.2.2.2.1.length:Int),((0:Int),(0:Int))),x.1):=⟨hm,he,λr hr=>(by cases hr)⟩;exact⟨hm.clone,auv (ax4 he) (auv h64 (by decide)),⟨au9 _,ot (hv▸hm.bG.cn.2)⟩,λ_=>⟨auv h64 (by decide),⟨auv q.2.1 (by decide),q.1,awb _⟩,⟨q.2.2.1,auv q.2.2.2.1 (by decide)⟩,q.2.2.2.2.2.1.MI q.2.2.2.2.2.2.2 q.2.2.2.2.2.2.1⟩,λ_=>r0.MI rfl (awb _)⟩))
def abp:=(177,WN)::aal
theorem TL:cr abp:=gc aoL func177 (Sj)
structure en (t:au):Prop extends cD t where
 ba:bk t.1 t.2.1.1
 exp:kh (t.2.1.1,t.2.1.2.2.2.2.2.2.1)=true
 lit:t.2.1.2.2.2.2.2.2.2.1.length=t.1.2.2.2.2.2.2.2.length
theorem lW(x:au):(eN x).1.length=x.1.2.2.2.2.2.2.2.length:=by
 unfold eN;have g:=ir (step:=pS) (k:=(((aE eR (x.1.2.2.2.2.2.2.2.length:Int)).length:Int),x)) (I:=λy=>y.1.length=x.1.2.2.2.2.2.2.2.length) (λy k' z f a=>by
  unfold pS at a;revert a
  simp only[cond];repeat' split
  all_goals(intro a;first|(cases a;done)|(cases a;first|exact(auz ..).trans f|exact(auz ..).trans ((auz ..).trans f)))) (λy k' z f a=>by
  unfold pS at a;revert a
  simp only[cond];repeat' split
  all_goals(intro a;first|(cases a;done)|(cases a;exact f))) (Nat.succ (yf (((aE eR (x.1.2.2.2.2.2.2.2.length:Int)).length:Int),x) ((aE eR (x.1.2.2.2.2.2.2.2.length:Int)),0))) ((aE eR (x.1.2.2.2.2.2.2.2.length:Int)),0) (ff _)
 exact g
theorem QY{b:ae}{v:List aX}{l:List bw}(f:aR b)(h:v.length=b.2.2.2.2.2.2.2.length)(hl:l.length=b.2.2.2.2.2.2.2.length):(ec (b,v,l)).2=0/\(ec (b,v,l)).1.1.length=b.2.2.2.2.2.2.2.length/\(ec (b,v,l)).1.2.1.length=b.2.2.2.2.2.2.2.length:=by
 have t:b.2.2.2.2.2.2.2.length<=8:=f.cn.2;have i:=(kZ b (by unfold maxLen;show b.2.2.2.2.2.2.2.length<=_;omega)).trans ((jP b).2 f);unfold ec;have j:((v.length:Int) !=b.2.2.2.2.2.2.2.length)=false:=by rw[h];exact axh _
 have m:((l.length:Int) !=b.2.2.2.2.2.2.2.length)=false:=by rw[hl];exact axh _
 rw[i,j,m];simp only[axh,azf,auw,ay7];have u:=kX (step:=og) (k:=(l,v,v.length,b)) (I:=λy=>0<=y.1/\y.1<=v.length/\y.2.1.length=y.1/\y.2.2.1.length=y.1) (mu:=λy=>(v.length-y.1).toNat)
  (Q:=λo y=>y.2.1.length=v.length/\y.2.2.1.length=v.length) (λy s=>by
   obtain⟨g,w,x,z⟩:=s;unfold og;by_cases a:y.1<v.length
   ·have e:=cC g a (show v.length<=maxLen by unfold maxLen;omega)
    simp only[a,e];refine⟨⟨cH g,by omega,?_,?_⟩,cI a⟩
    ·rw[au5,aAe];omega
    ·rw[au5,aAe];omega
   ·simp only[a,auw]
    exact⟨by omega,by omega⟩) (Nat.succ (om (l,v,v.length,b) (0,[],[],0,0))) (0,[],[],0,0) ⟨au8 _,au9 _,rfl,rfl⟩ (by unfold om;simp)
 show(endOf og (l,v,v.length,b) (Nat.succ (om (l,v,v.length,b) (0,[],[],0,0))) (0,[],[],0,0)).2.1.length=_/\(endOf og (l,v,v.length,b) (Nat.succ (om (l,v,v.length,b) (0,[],[],0,0))) (0,[],[],0,0)).2.2.1.length=_;omega
theorem rB: ∀(l:List aT) (x:bY),(l.foldl cF x).1.2.2.2=x.1.2.2.2
 | [],x=>rfl
 |r::l,x=>by rw[awd,rB l];rfl
theorem Il: ∀(l:List aC) (x:bY),(l.foldl eg x).1.2.2.2.1=x.1.2.2.2.1
 | [],x=>rfl
 |e::l,x=>by
  rw[awd,Il l];unfold eg;cases gS (x.2,x.1.2.1)<;>rfl
structure ara (b:ae) (m:aq) (e:List Int) (v:List aX) (l:List bw) (press:bw) (bA:Bool) (r:bY) (next:List Int):Prop where
 eq:lG (b,m,e,v,l,press,bA)=((r.1.1,r.1.2.1,next,r.1.2.2.2),0)
 b:r.2=b
 ro:dt [] r
 len:r.1.1.length<=1000
def cG(b:ae)(m:aq)(e:List Int)(v:List aX)(l:List bw)(press:bw)(bA:Bool):bY:=
 bif bA then(hU (ew (dG (press,dS b),cd m))).foldl eg ((cu (b,m,v)).foldl cF (([],m,e,(ec (b,v,l)).1,0,0),b))
 else(([],m,e,tf v.length,0,0),b)
def fI(b:ae)(m:aq)(e:List Int)(v:List aX)(l:List bw)(press:bw)(bA:Bool):bY:=
 (gP (b,(cG b m e v l press bA).1.2.1,(cG b m e v l press bA).1.2.2.1,v)).1.1.foldl cF (cG b m e v l press bA)
theorem CZ{b:ae}{m:aq}{e:List Int}{v:List aX}{l:List bw}(press:bw)(bA:Bool)(hm:bk b m)(A:kh (m,e)=true)(a:v.length=b.2.2.2.2.2.2.2.length)(hl:l.length=b.2.2.2.2.2.2.2.length):
  ara b m e v l press bA (fI b m e v l press bA) (gP (b,(cG b m e v l press bA).1.2.1,(cG b m e v l press bA).1.2.2.1,v)).1.2.1:=by
 have C:=(QY hm.bG a hl).1;have f:=HF (m:=m) (e:=e) (by simp_all);have h0:dt [] (cG b m e v l press bA)/\(cG b m e v l press bA).2=b/\(cG b m e v l press bA).1.1.length<=128:=by
  unfold cG;cases bA with
  |true=>
   rw[au3];obtain⟨g,h⟩:=tU hm a;have i:dt (cu (b,m,v)) (([],m,e,(ec (b,v,l)).1,0,0),b):=⟨hm,f,g⟩;obtain⟨y,j,k⟩:=rE i (auv h (by decide));have I:(List.foldl cF ((([]:List aT),m,e,(ec (b,v,l)).1,0,0),b) (cu (b,m,v))).1.1.length<=64:=by simp_all [ku]
   have o:dt [] (List.foldl cF ((([]:List aT),m,e,(ec (b,v,l)).1,0,0),b) (cu (b,m,v))):=j.with (λr hr=>by cases hr);obtain⟨s,t,u⟩:=DU o press (cd m);rw[k]at t u;refine⟨t,u,?_⟩;have:=Ip (hU (ew (dG (press,dS b),cd m))) (List.foldl cF ((([]:List aT),m,e,(ec (b,v,l)).1,0,0),b) (cu (b,m,v)));grind [ew,dG,dS,cd,xJ]
  |false=>exact⟨⟨hm,f,λr hr=>(by cases hr)⟩,rfl,awb _⟩
 have z:=h0.1.MI (e:=(cG b m e v l press bA).1.2.2.1) (v:=v) h0.2.1 h0.2.2;obtain⟨p1,p2,p3⟩:=rE z.2.1 (auv z.1 (by decide));refine⟨?_,p3.trans h0.2.1,p2.with (λr hr=>by cases hr),?_⟩
 ·unfold lG J8
  simp only[C,hm.is,A,axh,awa,azf,auw,afv,afJ];cases bA with
  |true=>
   simp only[au3];obtain⟨g,h⟩:=tU hm a;have i:dt (cu (b,m,v)) (([],m,e,(ec (b,v,l)).1,0,0),b):=⟨hm,f,g⟩;obtain⟨y,j,k⟩:=rE i (auv h (by decide));have o:dt [] (List.foldl cF ((([]:List aT),m,e,(ec (b,v,l)).1,0,0),b) (cu (b,m,v))):=j.with (λr hr=>by cases hr);obtain⟨s,t,u⟩:=DU o press (cd m);rw[k]at s;rw[y,s];have w:cG b m e v l press true=(hU (ew (dG (press,dS b),cd m))).foldl eg ((cu (b,m,v)).foldl cF (([],m,e,(ec (b,v,l)).1,0,0),b)):=rfl;rw[<- w,p1];rfl
  |false=>
   simp only[auw];have w:cG b m e v l press false=(([],m,e,tf (v.length:Int),0,0),b):=rfl;rw[<- w];have:gP (b,m,e,v)=gP (b,(cG b m e v l press false).1.2.1,(cG b m e v l press false).1.2.2.1,v):=rfl;rw[this,p1];rfl
 ·unfold fI
  rw[ku,au5];have:=h0.2.2;have:=(pE (x:=(cG b m e v l press bA).1.2.2.1) (v:=v) h0.1.ba).2;rw[h0.2.1]at this;omega
theorem PG{b:ae}{m:aq}{e:List Int}{v:List aX}{l:List bw}(press:bw)(bA:Bool)(a:aR b)(f:v.length=b.2.2.2.2.2.2.2.length)(hl:l.length=b.2.2.2.2.2.2.2.length):
  (fI b m e v l press bA).1.2.2.2.1.1.length=b.2.2.2.2.2.2.2.length/\(fI b m e v l press bA).1.2.2.2.1.2.1.length=b.2.2.2.2.2.2.2.length:=by
 unfold fI;rw[rB];unfold cG;cases bA with
 |true=>
  simp_all [Il,rB,QY]
 |false=>
  show(aE aU v.length).length=_/\(aE aw v.length).length=_;grind [ff]
theorem aeL(l:List aT)(t:au): ∃ba bl a fail,(ed (l,t)).2=(t.1,(ba,bl,t.2.1.2.2),t.2.2.1,t.2.2.2.1,a,fail,t.2.2.2.2.2.2):=by
 have key: ∀(n:Nat) (i:Int) (y:au),(∃ba bl a fail,y=(t.1,(ba,bl,t.2.1.2.2),t.2.2.1,t.2.2.2.1,a,fail,t.2.2.2.2.2.2))->
   (∃ba bl a fail,(endOf iJ (l,(l.length:Int)) n (i,y)).2=(t.1,(ba,bl,t.2.1.2.2),t.2.2.1,t.2.2.2.1,a,fail,t.2.2.2.2.2.2))/\(∀r,bd iJ (l,(l.length:Int)) n (i,y)=some r-> ∃ba bl a fail,r.2=(t.1,(ba,bl,t.2.1.2.2),t.2.2.1,t.2.2.2.1,a,fail,t.2.2.2.2.2.2)):=by
  intro n;induction n with
  |zero=>intro i y h;exact⟨h,λr hr=>by cases hr⟩
  |succ n f=>
   intro i y h;simp only[endOf,bd];unfold iJ;cases decide ((i,y).1<(l,(l.length:Int)).2)with
   |true=>
    simp only[au3];cases(y.2.2.2.2.2.1 !=(0:Int))with
    |true=>simp only[au3];exact⟨h,λr hr=>by cases hr;exact h⟩
    |false=>
     simp only[auw];obtain⟨ba,bl,a,fail,rfl⟩:=h;exact f _ _ ⟨_,_,_,_,rfl⟩
   |false=>simp only[auw];exact⟨h,λr hr=>by cases hr⟩
 have h0:=key (Nat.succ (jS (l,(l.length:Int)) (0,t))) 0 t ⟨_,_,_,_,rfl⟩;unfold ed yV yO;simp only;cases hr:bd iJ (l,(l.length:Int)) (Nat.succ (jS (l,(l.length:Int)) (0,t))) (0,t)with
 |some r=>exact h0.2 r hr
 |none=>exact h0.1
theorem afm{x:au}(h:en x){v:List aX}(a:v.length=x.1.2.2.2.2.2.2.2.length):
  (lG (x.1,x.2.1.1,x.2.1.2.2.2.2.2.2.1,v,x.2.1.2.2.2.2.2.2.2.1,x.2.2.1.1,x.2.2.2.1)).1.2.2.2.1.1.length=x.1.2.2.2.2.2.2.2.length/\(lG (x.1,x.2.1.1,x.2.1.2.2.2.2.2.2.1,v,x.2.1.2.2.2.2.2.2.2.1,x.2.2.1.1,x.2.2.2.1)).1.2.2.2.1.2.1.length=x.1.2.2.2.2.2.2.2.length/\(lG (x.1,x.2.1.1,x.2.1.2.2.2.2.2.2.1,v,x.2.1.2.2.2.2.2.2.2.1,x.2.2.1.1,x.2.2.2.1)).1.1.length<=1000:=by
 have f:=CZ x.2.2.1.1 x.2.2.2.1 h.ba h.exp a h.lit;have hl:=PG (m:=x.2.1.1) (e:=x.2.1.2.2.2.2.2.2.1) x.2.2.1.1 x.2.2.2.1 h.ba.bG a h.lit;rw[f.eq];exact⟨hl.1,hl.2,f.len⟩
theorem xl(l:List aT)(t:au):(ed (l,t)).2.2.2.2.2.2.2.2.2.2.2.2.2.2.2=t.2.2.2.2.2.2.2.2.2.2.2.2.2.2:=by
 obtain⟨ba,bl,a,fail,hw⟩:=aeL l t;rw[hw]
def Jt(k:(List (aO))×Int)(x:Int×au):Prop:=0<=x.1/\k.2=k.1.length/\k.1.length<=1000
def Dl(k:((List (aO))×Int))(x:(Int×au)):Nat:=(k.2-x.1).toNat
def ng(k:(List (aO))×Int)(x:Int×au):ak ((List (aO))×Int) (Int×au) (Unit×au):=letI b:=i64.wrap (x.1+1);letI c:=aa k.1 x.1;letI d:=x.2.2.2;letI a:=d.2.2.2;letI e:=a.2.2.2;bif x.1<k.2 then bif c.1==2 then .next k (b,x.2.1,x.2.2.1,d.1,d.2.1,d.2.2.1,a.1,a.2.1,a.2.2.1,e.1,e.2.1,gi (e.2.2.1,ia (c.2.1,c.2.2.1)),e.2.2.2)else .next k (b,x.2)else .brk k x
def qh k x:=endOf ng k (Nat.succ (Dl k x)) x
def H3(k:Int×(List (aO))×aq×(List Int)×((List (af))×(List Bool)×af)×af)(x:Int×au):Prop:=letI a:=x.2.2.2.2.2.2.2.2.2.2.2.2.2.2.2;0<=x.1/\k.1=a.length/\k.2.2.2.2.1.1.length=a.length/\k.2.2.2.2.1.2.1.length=a.length/\a.length<=8
def BU(k:(Int×(List (aO))×(aq)×(List Int)×((List (af))×(List Bool)×af)×af))(x:(Int×au)):Nat:=(k.1-x.1).toNat
def O7(k:Int×(List (aO))×aq×(List Int)×((List (af))×(List Bool)×af)×af)(x:Int×au):=letI b:=x.2.2.2.2.2.2.2.2.2.2.2.2.2.2.2;letI a:=aH gM b x.1 ((aa b x.1).1,aa k.2.2.2.2.1.1 x.1,(aa b x.1).2.2);letI c:=aa a x.1;aH gM a x.1 (c.1,c.2.1,aa k.2.2.2.2.1.2.1 x.1,c.2.2.2)
def tY(k:Int×(List (aO))×aq×(List Int)×((List (af))×(List Bool)×af)×af)(x:Int×au):ak (Int×(List (aO))×aq×(List Int)×((List (af))×(List Bool)×af)×af) (Int×au) (Unit×au):=letI b:=x.2.2.2;letI a:=b.2.2.2.2;letI c:=a.2.2.2;bif x.1<k.1 then .next k (i64.wrap (x.1+1),x.2.1,x.2.2.1,b.1,b.2.1,b.2.2.1,b.2.2.2.1,a.1,a.2.1,a.2.2.1,c.1,c.2.1,c.2.2.1,c.2.2.2.1,c.2.2.2.2.1,O7 k x)else .brk k x
def yk k x:=endOf tY k (Nat.succ (BU k x)) x
def vk(x:au):=letI i:=x.2.1.2.2.2.2.2.2;letI a:=lG (x.1,x.2.1.1,i.1,(eN x).1,i.2.1,x.2.2.1.1,x.2.2.2.1);letI b:=ed (a.1.1,x);letI e:=b.2.2;letI c:=e.2.2.2.2;letI d:=e.1.2.2;letI f:=d.2.2.2.2.2.2;letI g:=c.2.2.2;letI h:=a.1.2.2;qh (a.1.1,a.1.1.length) (0,b.2.1,(e.1.1,e.1.2.1,d.1,d.2.1,d.2.2.1,d.2.2.2.1,h.1,h.2.1.1,f.1,f.2.1,ib f.2.2),e.2.1,e.2.2.1,e.2.2.2.1,c.1,c.2.1,c.2.2.1,g.1,g.2.1,g.2.2.1,g.2.2.2.1,!(h.2.2.1==0&&h.2.2.2==0),g.2.2.2.2.2)
def vv(x:au):=letI h:=x.2.1.2.2.2.2.2.2;letI a:=lG (x.1,x.2.1.1,h.1,(eN x).1,h.2.1,x.2.2.1.1,x.2.2.2.1);letI b:=ed (a.1.1,x);letI d:=b.2.2;letI c:=d.2.2.2.2;letI e:=d.1.2.2;letI f:=c.2.2.2;letI g:=a.1.2.2;qh (a.1.1,a.1.1.length) (0,b.2.1,(d.1.1,d.1.2.1,e.1,e.2.1,e.2.2.1,e.2.2.2.1,g.1,g.2.1.1,e.2.2.2.2.2.2),d.2.1,d.2.2.1,d.2.2.2.1,c.1,c.2.1,c.2.2.1,f.1,f.2.1,f.2.2.1,f.2.2.2.1,!(g.2.2.1==0&&g.2.2.2==0),f.2.2.2.2.2)
def iS(x:au):=letI b:=x.2.1.2.2.2.2.2.2;letI a:=lG (x.1,x.2.1.1,b.1,(eN x).1,b.2.1,x.2.2.1.1,x.2.2.2.1);bif !(a.1.2.2.2.2.1==0&&a.1.2.2.2.2.2==0)then((),(yk (((vk x).2.2.2.2.2.2.2.2.2.2.2.2.2.2.2.length),a.1) (0,(vk x).2)).2)else((),(yk (((vv x).2.2.2.2.2.2.2.2.2.2.2.2.2.2.2.length),a.1) (0,(vv x).2)).2)
def UZ(x:au):Prop:=en x
def zW:Cv:=letI a:=(16,true,142);letI b:=(17,true,153);letI c:=(18,true,158);⟨dj,[],[.p],[43],false,[(15,true,70),a,b,c,(32,true,4),(33,true,51),(34,true,4),(42,true,85)],dj,Ty.unit,ah.none,[(15,true,70),a,b,c,(32,true,4),(33,true,51),(34,true,4),(42,true,85)],some UZ,iS,false⟩
def IU:LS (Ty.pair Ty.unit dj).den:=aD (Ty.pair dF ab) (Ty.pair ab dj) [(82,none),(83,none)] [] [(84,none)] [(0,43)] [(16,100716,true,70),(17,100717,true,142),(18,100718,true,153),(19,100719,true,158),(33,100733,true,4),(34,100734,true,51),(35,100735,true,4),(43,100743,true,85)] [] [(0,0)] 0 false Jt ng Dl
def PX:LS (Ty.pair Ty.unit dj).den:=aD (Ty.pair ab EY) (Ty.pair ab dj) [(112,none)] [(2,12)] [(113,none)] [(0,43)] [(16,101316,true,70),(17,101317,true,142),(18,101318,true,153),(19,101319,true,158),(33,101333,true,4),(34,101334,true,51),(35,101335,true,4),(43,101343,true,85)] [] [(0,0),(2,2)] 2 false H3 tY BU
def Ld(z:List (Nat×List Nat)):=dB (Ih true) lY cY TL z
theorem aiH:gW f130 zW [0] IU:=lV (Ld []) [] l0 (λk x fk fx h=>sl (decide (x.1<k.2)=true->0<=x.1/\x.1<k.1.length) (by
 try dsimp only[Ty.den]at*
 obtain⟨h0,h1,h2⟩:=h;intro hc;rw[adv]at hc;exact gR h0 (h1▸hc))) λk x fk h=>by
 try dsimp only[Ty.den]at*
 obtain⟨h0,h1,h2⟩:=h;unfold ng;refine aJ.cnd (λhc=> ?_) (λ_=>rfl);rw[adv]at hc;have e:=cC h0 (h1▸hc) (auv h2 (by decide));rw[e];exact aJ.cnd (λ_=>⟨rfl,⟨cH h0,h1,h2⟩,cI hc⟩) (λ_=>⟨rfl,⟨cH h0,h1,h2⟩,cI hc⟩)
theorem ahQ:gW f130 zW [1] PX:=lV (Ld []) [(7,IU)] l0 (λk x fk fx h=>sl (letI a:=x.2.2.2.2.2.2.2.2.2.2.2.2.2.2.2;letI b:=k.2.2.2.2.1;decide (x.1<k.1)=true->((0<=x.1/\x.1<(b.1.length:Int))/\(0<=x.1/\x.1<b.2.1.length)/\(0<=x.1/\x.1<a.length)/\0<=x.1/\x.1<((aH gM a x.1 ((aa a x.1).1,aa b.1 x.1,(aa a x.1).2.2)).length))) (by
 try dsimp only[Ty.den]at*
 obtain⟨h0,h1,h2,h3,h4⟩:=h;intro hc;rw[adv]at hc;have r:=gR h0 (h1▸hc);exact⟨df r h2,df r h3,r,df r (auz ..)⟩)) λk x fk h=>by
 try dsimp only[Ty.den]at*
 obtain⟨h0,h1,h2,h3,h4⟩:=h;unfold tY;refine aJ.cnd (λhc=> ?_) (λ_=>rfl);rw[adv]at hc;have e:=cC h0 (h1▸hc) (auv h4 (by decide));rw[e];have q:(O7 k x).length=x.2.2.2.2.2.2.2.2.2.2.2.2.2.2.2.length:=(auz ..).trans (auz ..);exact⟨rfl,⟨cH h0,q.symm▸h1,h2.trans q.symm,h3.trans q.symm,auv (ax4 q) h4⟩,cI hc⟩
theorem ZH:dL 130 zW:=dU (Ld []) func130 [(7,IU),(13,PX)] (lc aiH (lc ahQ l0)) (sp λx fx h=>sl (letI n:=x.2.1.2.2.2.2.2.2;letI a:=lG (x.1,x.2.1.1,n.1,(eN x).1,n.2.1,x.2.2.1.1,x.2.2.2.1);letI b:=ed (a.1.1,x);letI f:=b.2.2;letI e:=f.1.2.2;letI i:=(a.1.1,(a.1.1.length:Int));letI j:=a.1.2.2;letI c:= !((j.2.2.1==0)&&(j.2.2.2==0));letI l:=f.2.2;letI d:=l.2.2.2;letI g:=d.2.2.2;letI m:=e.2.2;letI h:=m.2.2.2.2;Vz x/\((c=true->(Jt i (0,b.2.1,(f.1.1,f.1.2.1,e.1,e.2.1,m.1,m.2.1,j.1,j.2.1.1,h.1,h.2.1,ib h.2.2),f.2.1,l.1,l.2.1,l.2.2.1,d.1,d.2.1,d.2.2.1,g.1,g.2.1,g.2.2.1,c,g.2.2.2.2)/\H3 (((vk x).2.2.2.2.2.2.2.2.2.2.2.2.2.2.2.length:Int),a.1) (0,(vk x).2)))/\(c=false->Jt i (0,b.2.1,(f.1.1,f.1.2.1,e.1,e.2.1,m.1,m.2.1,j.1,j.2.1.1,h),f.2.1,l.1,l.2.1,l.2.2.1,d.1,d.2.1,d.2.2.1,g.1,g.2.1,g.2.2.1,c,g.2.2.2.2)/\H3 (((vv x).2.2.2.2.2.2.2.2.2.2.2.2.2.2.2.length),a.1) (0,(vv x).2)))) (by
 try dsimp only[Ty.den]at*
 have h:en x:=h;have hl:=afm h (lW x);have g7: ∀(kk:List aT×Int) (n:Nat) (y:Int×au),(endOf ng kk n y).2.2.2.2.2.2.2.2.2.2.2.2.2.2.2.length=y.2.2.2.2.2.2.2.2.2.2.2.2.2.2.2.length:=λkk n y=>ir (step:=ng) (k:=kk) (I:=λz=>z.2.2.2.2.2.2.2.2.2.2.2.2.2.2.2.length=y.2.2.2.2.2.2.2.2.2.2.2.2.2.2.2.length) (λz k' z' hy hz=>by
  unfold ng at hz;revert hz
  simp only[cond];repeat' split
  all_goals(intro hz;first|(cases hz;done)|(cases hz;exact hy))) (λz k' z' hy hz=>by
  unfold ng at hz;revert hz
  simp only[cond];repeat' split
  all_goals(intro hz;first|(cases hz;done)|(cases hz;exact hy))) n y rfl
 have c1:(vk x).2.2.2.2.2.2.2.2.2.2.2.2.2.2.2.length=x.1.2.2.2.2.2.2.2.length:=(g7 _ _ _).trans ((av7 List.length (xl _ x)).trans h.c8);have c2:(vv x).2.2.2.2.2.2.2.2.2.2.2.2.2.2.2.length=x.1.2.2.2.2.2.2.2.length:=(g7 _ _ _).trans ((av7 List.length (xl _ x)).trans h.c8);exact⟨h.tocD,λ_=>⟨⟨au8 _,rfl,hl.2.2⟩,⟨au8 _,rfl,hl.1.trans c1.symm,hl.2.1.trans c1.symm,lR c1 h.n8⟩⟩,λ_=>⟨⟨au8 _,rfl,hl.2.2⟩,⟨au8 _,rfl,hl.1.trans c2.symm,hl.2.1.trans c2.symm,lR c2 h.n8⟩⟩⟩))
def Yx(nw:Bool):=(130,.pv zW)::aap nw
theorem ae8(nw:Bool):ga (Yx nw):=zc (z:= .pv zW) ZH func130 ((Ih nw))
def Zi:List (Nat×Ct):=abp
theorem Qy:cr Zi:=TL
end Go.Proofs.YtcfinjcapeemeaaGreatDoor.S
