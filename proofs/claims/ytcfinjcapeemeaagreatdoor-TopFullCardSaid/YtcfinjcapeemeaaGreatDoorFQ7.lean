/- Part of the proof that the law TopFull holds for every input. -/
import Derived.Test.YtcfinjcapeemeaaGreatDoorFQ6
set_option linter.all false
set_option maxRecDepth 100000
set_option maxHeartbeats 4000000
namespace Go.Proofs.YtcfinjcapeemeaaGreatDoor.S
open Go Go.RowKit IntKind Go.Proofs.Tryz
def pW(k:Int)(x:Int×(ByteArray×ab)×((af)×(af)×List ((eQ)×(gw)×kH))×Int):Prop:=0<=x.1/\x.1<=k/\k<=8/\x.2.1.1.size=19*(k-x.1)/\2<=x.2.1.2.1/\x.2.1.2.1<=32/\x.2.2.1.2.2.length=x.1
def oG(k:(Int))(x:(Int×(ByteArray×ab)×((af)×(af)×List ((eQ)×(gw)×kH))×Int)):Nat:=(k-x.1).toNat
def HX(k:Int)(x:Int×(ByteArray×ab)×((af)×(af)×List ((eQ)×(gw)×kH))×Int):=letI a:=bl (6,(aV x.2.1).2.2);letI b:=aY (i64.wrap (a.2.2.2.1-1),a.2.2);letI c:=aY (2,b.2.2);letI d:=a.2.1;letI e:=aV c.2.2;x.2.2.1.2.2++ [(((aV x.2.1).2.1,aa d 0,aa d 1,aa d 2,aa d 3),(b.2.1,aa d 4,c.2.1,aa d 5),e.2.1,Int.toNat (fp (8,e.2.2)).1)]
def jX(k:Int)(x:Int×(ByteArray×ab)×((af)×(af)×List ((eQ)×(gw)×kH))×Int):=letI f:=aV x.2.1;letI b:=bl (6,f.2.2);letI a:=aY (i64.wrap (b.2.2.2.1-1),b.2.2);letI c:=aY (2,a.2.2);letI e:=aV c.2.2;letI g:=x.2.2;letI d:=(g.1,g.2);bif x.1<k then bif f.1 then an.ret (f.2.2,d)else bif b.1 then an.ret (b.2.2,d)else bif a.1 then an.ret (a.2.2,d)else bif c.1 then an.ret (c.2.2,d)else bif e.1 then an.ret (e.2.2,d)else an.next k (i64.wrap (x.1+1),(fp (8,e.2.2)).2,(g.1.1,g.1.2.1,HX k x),g.2)else an.brk k x
def Ky k x:=endOf jX k (Nat.succ (oG k x)) x
def zD k x:=bj jX k (Nat.succ (oG k x)) x
def zF(x:ByteArray×ab):=letI a:=aY (8,(cK x).2.2);jA (a.2.1 !=0||(aY (i64.wrap (a.2.2.2.2.2.2.2.2.2.2.length-1),a.2.2)).2.1==0)
def Kd(x:ByteArray×ab):=letI b:=aY (8,(cK x).2.2);letI a:=aY (i64.wrap (b.2.2.2.2.2.2.2.2.2.2.length-1),b.2.2);Ky a.2.2.2.2.2.2.2.2.2.2.length (0,a.2.2,((cK x).2.1,(b.2.1,a.2.1),[]),0)
def Aa(x:ByteArray×ab):(ByteArray×ab)×((af)×(af)×List ((eQ)×(gw)×kH))×Int:=letI c:=cK x;letI b:=aY (8,c.2.2);letI a:=aY (i64.wrap (b.2.2.2.2.2.2.2.2.2.2.length-1),b.2.2);letI d:=(0,0);bif c.1 then(c.2.2,(d,d,[]),31)else bif b.1 then(b.2.2,(c.2.1,d,[]),31)else bif a.1 then(a.2.2,(c.2.1,(b.2.1,0),[]),31)else bif(zF x).1 then(a.2.2,(c.2.1,(b.2.1,a.2.1),[]),31)else dJ (zD a.2.2.2.2.2.2.2.2.2.2.length (0,a.2.2,(c.2.1,(b.2.1,a.2.1),[]),0)) (λy=>(y.1,y.2.1,31)) ((Kd x).2.1,(Kd x).2.2.1,0)
def qH(x:ByteArray×ab):=((Aa x).2,(Aa x).1)
def vE(x:ByteArray×ab):Prop:=letI a:=x.2.2.2.2.2.2.2.2;(x.1.size:Int)=10+19*a.length/\1<=a.length/\a.length<=8/\2<=x.2.1/\x.2.1<=32
def Z6:Cp:=⟨dC,[],[true],[9],false,false,dC,Ty.pair fT bX,ah.tup [some 5,none],some vE,qH,none,undef⟩
def yJ:LS (Ty.pair dC (Ty.pair fT (Ty.int .i64))).den:=aH ae (Ty.pair ae (Ty.pair dC (Ty.pair fT bX))) [(40,none)] [] [(41,none)] [(0,9),(2,5),(3,1)] [(14,100714,true,76)] [] [(0,0),(2,2),(3,3)] 0 true pW jX oG
theorem akU(k:ae.den)(x:(Ty.pair ae (Ty.pair dC (Ty.pair fT bX))).den)(fk:Fit ae k)(h:pW k x):bf true pW oG k x (jX k x):=by
 try dsimp only[Ty.den]at*
 unfold pW at h;unfold jX;refine bf.cnd (λhc=> ?_) (λ_=>rfl);rw[adv]at hc;have e:i64.wrap (x.1+1)=x.1+1:=aA (by omega) (by omega);repeat' (refine bf.cnd (λ_=>rfl) (λ_=> ?_))
 rw[e];refine⟨rfl,?_,?_⟩
 ·simp only[pW,HX,au1,avi,avk,vC,C1,Ce,Cc,sH,nN,qb,rR,kI,jv,oJ,sG,vh,au1,avi,avk]
  omega
 ·simp only[oG]
  omega
theorem ajv:cG prog bC (qO fY (Ty.pair dC (Ty.pair fT (Ty.int .i64))) (cD [true] [9] 2 fT.n 3)) (jx (fL f126) [0]) yJ:=
 afC (nC Il dh Ja []) (L:=eX []) (d:=an.brk (Ty.dflt ae) (Ty.dflt (Ty.pair ae (Ty.pair dC (Ty.pair fT bX))))) (oy (l:= []) (by kernel_rfl) (Hy)) (λk x fk fx h=>JR (S:=((((decide (x.1<k))=true->((oJ x.2.1)/\(((aV x.2.1).1=true->True)/\((aV x.2.1).1=false->(((oJ x.2.1)/\(aV x.2.1).1=false)/\((vh ((6:Int),(aV x.2.1).2.2))/\(((bl ((6:Int),(aV x.2.1).2.2)).1=true->True)/\((bl ((6:Int),(aV x.2.1).2.2)).1=false->(((vh ((6:Int),(aV x.2.1).2.2))/\(bl ((6:Int),(aV x.2.1).2.2)).1=false)/\((0<=(0:Int)/\(0:Int)<(((bl ((6:Int),(aV x.2.1).2.2)).2.1).length:Int))/\((0<=(1:Int)/\(1:Int)<(((bl ((6:Int),(aV x.2.1).2.2)).2.1).length:Int))/\((0<=(2:Int)/\(2:Int)<(((bl ((6:Int),(aV x.2.1).2.2)).2.1).length:Int))/\((0<=(3:Int)/\(3:Int)<(((bl ((6:Int),(aV x.2.1).2.2)).2.1).length:Int))/\((0<=(4:Int)/\(4:Int)<(((bl ((6:Int),(aV x.2.1).2.2)).2.1).length:Int))/\((0<=(5:Int)/\(5:Int)<(((bl ((6:Int),(aV x.2.1).2.2)).2.1).length:Int))/\((jv ((i64.wrap ((bl ((6:Int),(aV x.2.1).2.2)).2.2.2.1 - (1:Int))),(bl ((6:Int),(aV x.2.1).2.2)).2.2))/\(((aY ((i64.wrap ((bl ((6:Int),(aV x.2.1).2.2)).2.2.2.1 - (1:Int))),(bl ((6:Int),(aV x.2.1).2.2)).2.2)).1=true->True)/\((aY ((i64.wrap ((bl ((6:Int),(aV x.2.1).2.2)).2.2.2.1 - (1:Int))),(bl ((6:Int),(aV x.2.1).2.2)).2.2)).1=false->(((jv ((i64.wrap ((bl ((6:Int),(aV x.2.1).2.2)).2.2.2.1 - (1:Int))),(bl ((6:Int),(aV x.2.1).2.2)).2.2))/\(aY ((i64.wrap ((bl ((6:Int),(aV x.2.1).2.2)).2.2.2.1 - (1:Int))),(bl ((6:Int),(aV x.2.1).2.2)).2.2)).1=false)/\((jv ((2:Int),(aY ((i64.wrap ((bl ((6:Int),(aV x.2.1).2.2)).2.2.2.1 - (1:Int))),(bl ((6:Int),(aV x.2.1).2.2)).2.2)).2.2))/\(((aY ((2:Int),(aY ((i64.wrap ((bl ((6:Int),(aV x.2.1).2.2)).2.2.2.1 - (1:Int))),(bl ((6:Int),(aV x.2.1).2.2)).2.2)).2.2)).1=true->True)/\((aY ((2:Int),(aY ((i64.wrap ((bl ((6:Int),(aV x.2.1).2.2)).2.2.2.1 - (1:Int))),(bl ((6:Int),(aV x.2.1).2.2)).2.2)).2.2)).1=false->(((jv ((2:Int),(aY ((i64.wrap ((bl ((6:Int),(aV x.2.1).2.2)).2.2.2.1 - (1:Int))),(bl ((6:Int),(aV x.2.1).2.2)).2.2)).2.2))/\(aY ((2:Int),(aY ((i64.wrap ((bl ((6:Int),(aV x.2.1).2.2)).2.2.2.1 - (1:Int))),(bl ((6:Int),(aV x.2.1).2.2)).2.2)).2.2)).1=false)/\((oJ ((aY ((2:Int),(aY ((i64.wrap ((bl ((6:Int),(aV x.2.1).2.2)).2.2.2.1 - (1:Int))),(bl ((6:Int),(aV x.2.1).2.2)).2.2)).2.2)).2.2))/\(((aV ((aY ((2:Int),(aY ((i64.wrap ((bl ((6:Int),(aV x.2.1).2.2)).2.2.2.1 - (1:Int))),(bl ((6:Int),(aV x.2.1).2.2)).2.2)).2.2)).2.2)).1=true->True)/\((aV ((aY ((2:Int),(aY ((i64.wrap ((bl ((6:Int),(aV x.2.1).2.2)).2.2.2.1 - (1:Int))),(bl ((6:Int),(aV x.2.1).2.2)).2.2)).2.2)).2.2)).1=false->(((oJ ((aY ((2:Int),(aY ((i64.wrap ((bl ((6:Int),(aV x.2.1).2.2)).2.2.2.1 - (1:Int))),(bl ((6:Int),(aV x.2.1).2.2)).2.2)).2.2)).2.2))/\(aV ((aY ((2:Int),(aY ((i64.wrap ((bl ((6:Int),(aV x.2.1).2.2)).2.2.2.1 - (1:Int))),(bl ((6:Int),(aV x.2.1).2.2)).2.2)).2.2)).2.2)).1=false)/\((kI ((8:Int),(aV ((aY ((2:Int),(aY ((i64.wrap ((bl ((6:Int),(aV x.2.1).2.2)).2.2.2.1 - (1:Int))),(bl ((6:Int),(aV x.2.1).2.2)).2.2)).2.2)).2.2)).2.2))/\(((List.length (x.2.2.1.2.2:List ((eQ)×(gw)×kH))+List.length ([(((aV x.2.1).2.1,(aa ((bl ((6:Int),(aV x.2.1).2.2)).2.1) (0:Int)),(aa ((bl ((6:Int),(aV x.2.1).2.2)).2.1) (1:Int)),(aa ((bl ((6:Int),(aV x.2.1).2.2)).2.1) (2:Int)),(aa ((bl ((6:Int),(aV x.2.1).2.2)).2.1) (3:Int))),((aY ((i64.wrap ((bl ((6:Int),(aV x.2.1).2.2)).2.2.2.1 - (1:Int))),(bl ((6:Int),(aV x.2.1).2.2)).2.2)).2.1,(aa ((bl ((6:Int),(aV x.2.1).2.2)).2.1) (4:Int)),(aY ((2:Int),(aY ((i64.wrap ((bl ((6:Int),(aV x.2.1).2.2)).2.2.2.1 - (1:Int))),(bl ((6:Int),(aV x.2.1).2.2)).2.2)).2.2)).2.1,(aa ((bl ((6:Int),(aV x.2.1).2.2)).2.1) (5:Int))),(aV ((aY ((2:Int),(aY ((i64.wrap ((bl ((6:Int),(aV x.2.1).2.2)).2.2.2.1 - (1:Int))),(bl ((6:Int),(aV x.2.1).2.2)).2.2)).2.2)).2.2)).2.1,(Int.toNat ((fp ((8:Int),(aV ((aY ((2:Int),(aY ((i64.wrap ((bl ((6:Int),(aV x.2.1).2.2)).2.2.2.1 - (1:Int))),(bl ((6:Int),(aV x.2.1).2.2)).2.2)).2.2)).2.2)).2.2)).1)))]:List ((eQ)×(gw)×kH)))*56<=140737488355328/\List.length (x.2.2.1.2.2:List ((eQ)×(gw)×kH))+List.length ([(((aV x.2.1).2.1,(aa ((bl ((6:Int),(aV x.2.1).2.2)).2.1) (0:Int)),(aa ((bl ((6:Int),(aV x.2.1).2.2)).2.1) (1:Int)),(aa ((bl ((6:Int),(aV x.2.1).2.2)).2.1) (2:Int)),(aa ((bl ((6:Int),(aV x.2.1).2.2)).2.1) (3:Int))),((aY ((i64.wrap ((bl ((6:Int),(aV x.2.1).2.2)).2.2.2.1 - (1:Int))),(bl ((6:Int),(aV x.2.1).2.2)).2.2)).2.1,(aa ((bl ((6:Int),(aV x.2.1).2.2)).2.1) (4:Int)),(aY ((2:Int),(aY ((i64.wrap ((bl ((6:Int),(aV x.2.1).2.2)).2.2.2.1 - (1:Int))),(bl ((6:Int),(aV x.2.1).2.2)).2.2)).2.2)).2.1,(aa ((bl ((6:Int),(aV x.2.1).2.2)).2.1) (5:Int))),(aV ((aY ((2:Int),(aY ((i64.wrap ((bl ((6:Int),(aV x.2.1).2.2)).2.2.2.1 - (1:Int))),(bl ((6:Int),(aV x.2.1).2.2)).2.2)).2.2)).2.2)).2.1,(Int.toNat ((fp ((8:Int),(aV ((aY ((2:Int),(aY ((i64.wrap ((bl ((6:Int),(aV x.2.1).2.2)).2.2.2.1 - (1:Int))),(bl ((6:Int),(aV x.2.1).2.2)).2.2)).2.2)).2.2)).2.2)).1)))]:List ((eQ)×(gw)×kH))<=4611686018427387903)/\True)))))))))))))))))))))))))))))/\((decide (x.1<k))=false->True)))) (by kernel_rfl) (by
 try dsimp only[Ty.den]at*
 simp only[pW]at h;simp only[au1,avi,avk,vC,C1,Ce,Cc,sH,nN,qb,rR,kI,jv,oJ,sG,vh,adv,aut]at*
 (repeat' (first|exact trivial|apply And.intro|intro _))<;>first|trivial|assumption|omega|(rw[OX (by assumption)];omega))) (λk x=>by kernel_rfl) akU
theorem aqT(x:dC.den):((evFnD (tc Fy none E9 []) f126 dC [] [true] [9] false dC fT 2 3 31 fY (eX [(7,yJ)]) x)).val (oe 31) (Ty.dflt (Ty.pair dC (Ty.pair fT (Ty.int .i64))))=Aa x:=by kernel_rfl
theorem aq3(x:dC.den)(fx:Fit dC x)(h:vE x):eP ((evFnD (tc Fy none E9 []) f126 dC [] [true] [9] false dC fT 2 3 31 fY (eX [(7,yJ)]) x)):=JR (S:=(((sG x)/\(((cK x).1=true->True)/\((cK x).1=false->(((sG x)/\(cK x).1=false)/\((jv ((8:Int),(cK x).2.2))/\(((aY ((8:Int),(cK x).2.2)).1=true->True)/\((aY ((8:Int),(cK x).2.2)).1=false->(((jv ((8:Int),(cK x).2.2))/\(aY ((8:Int),(cK x).2.2)).1=false)/\((jv ((i64.wrap ((((aY ((8:Int),(cK x).2.2)).2.2.2.2.2.2.2.2.2.2).length:Int) - (1:Int))),(aY ((8:Int),(cK x).2.2)).2.2))/\(((aY ((i64.wrap ((((aY ((8:Int),(cK x).2.2)).2.2.2.2.2.2.2.2.2.2).length:Int) - (1:Int))),(aY ((8:Int),(cK x).2.2)).2.2)).1=true->True)/\((aY ((i64.wrap ((((aY ((8:Int),(cK x).2.2)).2.2.2.2.2.2.2.2.2.2).length:Int) - (1:Int))),(aY ((8:Int),(cK x).2.2)).2.2)).1=false->(((jv ((i64.wrap ((((aY ((8:Int),(cK x).2.2)).2.2.2.2.2.2.2.2.2.2).length:Int) - (1:Int))),(aY ((8:Int),(cK x).2.2)).2.2))/\(aY ((i64.wrap ((((aY ((8:Int),(cK x).2.2)).2.2.2.2.2.2.2.2.2.2).length:Int) - (1:Int))),(aY ((8:Int),(cK x).2.2)).2.2)).1=false)/\(((zF x).1=true->True)/\((zF x).1=false->(((zF x).1=false)/\((pW (((aY ((i64.wrap ((((aY ((8:Int),(cK x).2.2)).2.2.2.2.2.2.2.2.2.2).length:Int) - (1:Int))),(aY ((8:Int),(cK x).2.2)).2.2)).2.2.2.2.2.2.2.2.2.2).length:Int) ((0:Int),(aY ((i64.wrap ((((aY ((8:Int),(cK x).2.2)).2.2.2.2.2.2.2.2.2.2).length:Int) - (1:Int))),(aY ((8:Int),(cK x).2.2)).2.2)).2.2,((cK x).2.1,((aY ((8:Int),(cK x).2.2)).2.1,(aY ((i64.wrap ((((aY ((8:Int),(cK x).2.2)).2.2.2.2.2.2.2.2.2.2).length:Int) - (1:Int))),(aY ((8:Int),(cK x).2.2)).2.2)).2.1),[]),(0:Int)))/\((zD (((aY ((i64.wrap ((((aY ((8:Int),(cK x).2.2)).2.2.2.2.2.2.2.2.2.2).length:Int) - (1:Int))),(aY ((8:Int),(cK x).2.2)).2.2)).2.2.2.2.2.2.2.2.2.2).length:Int) ((0:Int),(aY ((i64.wrap ((((aY ((8:Int),(cK x).2.2)).2.2.2.2.2.2.2.2.2.2).length:Int) - (1:Int))),(aY ((8:Int),(cK x).2.2)).2.2)).2.2,((cK x).2.1,((aY ((8:Int),(cK x).2.2)).2.1,(aY ((i64.wrap ((((aY ((8:Int),(cK x).2.2)).2.2.2.2.2.2.2.2.2.2).length:Int) - (1:Int))),(aY ((8:Int),(cK x).2.2)).2.2)).2.1),[]),(0:Int)))=none->True))))))))))))))))))) (by kernel_rfl) (by
 try dsimp only[Ty.den]at*
 simp only[vE]at h;simp only[au1,avi,avk,vC,C1,Ce,Cc,sH,nN,qb,rR,kI,jv,oJ,sG,vh,pW]at*
 (repeat' (first|exact trivial|apply And.intro|intro _))<;>first|trivial|assumption|omega|(rw[OX (by assumption)];omega)|(simp;omega))
theorem aqr:ki prog bC 126 Z6:=
 akh (nC Il dh Ja []) rfl func126 (g:=161) (p:=dC) (q:=dC) (A:=fT) (ax:= []) (mask:= [true]) (sz:= [9]) (ex:=false) (pre:=(some vE)) (tx:=2) (te:=3) (TX:=56) (TE:=44) (dX:=M8) (dE:=Na) (n:=31) (pv:=fY) (L:=(eX [(7,yJ)])) (dflt:=(Ty.dflt (Ty.pair dC (Ty.pair fT (Ty.int .i64))))) (FD:=Aa)
  rfl rfl rfl rfl rfl rfl ajJ acE rfl rfl abW rfl (by kernel_rfl) (by kernel_rfl) (oy (l:= [jx (fL f126) [0]]) (by kernel_rfl) (Ol (s0:=yJ) (by kernel_rfl) ajv (Hy)))
  (Pz rfl @aq3) aqT
def Ax:=(126,Z6)::Fy
theorem kz:ia Ax:=pc aqr func126 (Il)
def ack:List (Nat×Ct):=E9
theorem SB:cu ack:=Ja
theorem JZ{a b:ByteArray}(h:a.data.toList=b.data.toList):a=b:=by
 cases a;simp_all
theorem aiL(l:List Int): ∀r:ByteArray,(l.foldl (λr n=>r.push (UInt8.ofNat n.toNat)) r).data.toList=r.data.toList++l.map (λn=>UInt8.ofNat n.toNat):=by
 induction l with
 |nil=>simp_all
 |cons x l a=>
  simp_all
theorem Ir(l:List Int):(bw l).data.toList=l.map (λn=>UInt8.ofNat n.toNat):=by
 simp_all [bw,aiL]
theorem nh(s:ByteArray):s.size=s.data.toList.length:=by simp_all
@[simp] theorem jq (l:List Int):(bw l).size=l.length:=by rw[nh,Ir,ax5]
theorem GW(a b:ByteArray):(dq a b).data.toList=a.data.toList++b.data.toList:=by
 simp_all [dq]
@[simp] theorem mX (a b:ByteArray):(dq a b).size=a.size+b.size:=by rw[nh,GW,au1,<- nh,<- nh]
theorem extract_data(s:ByteArray)(a b:Nat):(s.extract a b).data.toList=(s.data.toList.take b).drop a:=by
 rw[ByteArray.data_extract,Array.toList_extract,List.extract_eq_drop_take',]
@[simp] theorem extract_size (s:ByteArray) (a b:Nat):(s.extract a b).size=min b s.size-a:=by
 rw[nh,extract_data,avo,avp,<- nh]
@[simp] theorem lx (s:ByteArray):(av s).length=s.size:=by unfold av;rw[ax5,<- nh]
@[simp] theorem Jv (l:List UInt8):(ByteArray.mk l.toArray).size=l.length:=by rw[nh]
@[simp] theorem aui:ByteArray.empty.size=0:=rfl
theorem yQ{a b:ByteArray}(h:av a=av b):a=b:=by
 refine JZ ?_;unfold av at h;have: ∀(l m:List UInt8),l.map (λb=>(b.toNat:Int))=m.map (λb=>(b.toNat:Int))->l=m:=by
  intro l;induction l with
  |nil=>simp_all
  |cons x l f=>
   intro m h;cases m with
   |nil=>simp_all
   |cons y m=>
    simp only[axm,aym]at h;rw[f m h.2,UInt8.toNat_inj.1 (by omega:x.toNat=y.toNat)]
 grind
theorem IZ(a b:ByteArray):av (dq a b)=av a++av b:=by simp_all [av,GW]
theorem pM(s:ByteArray)(a b:Nat):av (s.extract a b)=((av s).take b).drop a:=by grind [av,extract_data,List.map_drop,List.map_take]
theorem nk(l:List Int)(h: ∀x∈l,0<=x/\x<=255):av (bw l)=l:=by
 unfold av;rw[Ir,List.map_map];conv=>rhs;rw[<- List.map_id l]
 refine azt λx a=> ?_
 obtain⟨h1,h2⟩:=h x a;simp only[Function.comp,UInt8.toNat_ofNat',id];omega
theorem si(s:ByteArray): ∀x∈av s,0<=x/\x<=255:=by
 intro x a;obtain⟨b,_,rfl⟩:=List.mem_map.1 a;have:=b.toNat_lt;omega
theorem aku(bs:ByteArray): ∀(n i:Nat) (r:List UInt8),bs.size-i=n->ByteArray.toList.loop bs i r=r.reverse++bs.data.toList.drop i:=by
 intro n;induction n with
 |zero=>
  intro i r h;rw[ByteArray.toList.loop,au6 (by omega),ax1 (by grind [nh]),aws]
 |succ n a=>
  intro i r h;have hi:i<bs.data.toList.length:=by grind [nh]
  rw[ByteArray.toList.loop,ava (by omega),a (i+1) _ (by omega),List.reverse_cons,avb,av5 hi];congr 1
  have:bs.get! i=bs.data.toList[i]:=by
   have h2:i<bs.data.size:=by omega
   show bs.data[i]! =_;simp_all
  simp_all
theorem apq(bs:ByteArray):bs.toList=bs.data.toList:=by
 simp_all [ByteArray.toList,aku]
theorem BI(a b:ByteArray):jz a b=true↔a=b:=by
 unfold jz;grind [JZ,apq]
theorem Hc(a:ByteArray):jz a a=true:=(BI a a).2 rfl
theorem yp(s:ByteArray)(i:Int):aO s i=(av s).getD i.toNat 0:=by
 unfold aO av;rw[au9,az9,avy,avl];cases s.data[i.toNat]? <;>rfl
theorem ou(s:ByteArray)(i:Int):0<=aO s i/\aO s i<=255:=by
 unfold aO;have:=(s.data.getD i.toNat 0).toNat_lt;omega
theorem af0(s:ByteArray)(i:Nat)(h:i<s.size):aO s i=(av s)[i]'(by rw[lx];exact h):=by
 simp_all [yp]
def SN:=And.intro @jq<|And.intro @mX<|And.intro @extract_size<|And.intro @lx @Jv
def ce(c:af):List Int:=le (u64.wrap c.1) 4++le (u64.wrap c.2) 4
theorem nE(c:af):(ce c).length=8:=by simp_all [ce,gN]
theorem iq{K X ρ:Type}{step:K->X->an K X ρ}{k:K}{I:X->Prop}(a: ∀y k' z,I y->step k y= .next k' z->I z)(hb: ∀y k' z,I y->step k y= .brk k' z->I z): ∀(n:Nat) (y:X),I y->I (endOf step k n y)
 |0,y,h=>h
 |n+1,y,h=>by
  unfold endOf;cases hs:step k y with
  |next k' z=>exact iq a hb n z (a y k' z h hs)
  |brk k' z=>grind
  |ret r=>exact h
def yy(k:(Unit))(x:(af)):Prop:=(0:Int)<=x.2
def za(k:Unit)(x:af):=(8-x.2).toNat
def se(k:Unit)(x:af):an Unit (af) Int:=bif x.2<8 then .next () (u16.wrap ((BitVec.ofInt u16.bits (u16.wrap (x.1*2^min (1:Int).toNat u16.bits))^^^BitVec.ofInt u16.bits (u16.wrap (Int.fdiv x.1 (2^min (15:Int).toNat u16.bits)*4129))).toNat),i64.wrap (x.2+1))else .brk () x
def VP k x:=endOf se k (Nat.succ (za k x)) x
def CC(k:eb)(x:af):Prop:=0<=x.2/\k.2=k.1.size/\k.1.size<=100000
def yL(k:(eb))(x:(af)):Nat:=(k.2-x.2).toNat
def rT(k:eb)(x:af):an (eb) (af) Int:=bif x.2<k.2 then .next k ((VP () (u16.wrap ((BitVec.ofInt u16.bits x.1^^^BitVec.ofInt u16.bits (u16.wrap (u16.wrap (aO k.1 x.2)*2^min (8:Int).toNat u16.bits))).toNat),0)).1,i64.wrap (x.2+1))else .brk k x
def amu k x:=endOf rT k (Nat.succ (yL k x)) x
def wM(x:ByteArray):=(amu (x,x.size) (65535,0)).1
def J0(x:ByteArray):Prop:=x.size<=100000
def kj(x:ab):=letI a:=i64.wrap (19*x.2.2.2.2.2.2.2.length);bif ca x !=0 then(0,0)else(i64.wrap (14+a),i64.wrap (23+a))
def FB(z:List (Nat×List Nat)):=nC kz dh SB z
def EI:Ct:=⟨cY,[none],oX,ah.one none,some J0,none,wM⟩
def Xs:Ct:=⟨aD,[some 8],Ty.pair ae ae,ah.tup [none,none],none,none,kj⟩
def IG:LS oX.den:=aH Ty.unit (Ty.pair oX ae) [] [] [(3,none),(18,none)] [] [] [] [] 2 false yy se za
def Sm:LS oX.den:=aH (Ty.pair cY ae) (Ty.pair oX ae) [(0,none),(7,none)] [] [(3,none),(8,none)] [] [] [] [] 0 false CC rT yL
theorem ajq:bF f237 EI [0,0] IG:=have E:=ai @yy.eq_1<|ai @za.eq_1<|ai @se.eq_1<|ai @nE @gN;lA (FB []) [] l0 (λk x fk fx h=>sm (decide (x.2<8)=true->0<=(15:Int)/\0<=(1:Int)))
theorem akT:bF f237 EI [0] Sm:=have E:=ai @CC.eq_1<|ai @yL.eq_1<|ai @rT.eq_1<|ai @nE<|ai @gN @yy.eq_1;lA (FB []) [(7,IG)] (lc ajq l0) (λk x fk fx h=>sm (decide (x.2<k.2)=true->(0<=x.2/\x.2<k.1.size)/\0<=(8:Int)/\yy () (u16.wrap ((BitVec.ofInt u16.bits x.1^^^BitVec.ofInt u16.bits (u16.wrap (u16.wrap (aO k.1 x.2)*2^min (8:Int).toNat u16.bits))).toNat),0)))
theorem aog:ar 237 EI:=have E:=ai @yy.eq_1<|ai @CC.eq_1<|ai @J0.eq_1<|ai @nE @gN;au (FB []) func237 [(7,IG),(3,Sm)] (lc akT l0) (sp λx fx h=>sl (CC (x,x.size) (65535,0)))
theorem aoC:ar 124 Xs:=au (FB []) func124 [] l0 (λ_ _ _=>tr)
def adh:=(237,EI)::(124,Xs)::ack
theorem Td:cu adh:=gc aog func237 (gc aoC func124 (SB))
def pk(x:ByteArray):=dq x (bw [u8.wrap (Int.fdiv (wM x) (2^min (8:Int).toNat u16.bits)),u8.wrap (wM x)])
def KS(x:ByteArray):Prop:=x.size<=99990
def XN:Ct:=⟨cY,[none],cY,ah.one none,some KS,none,pk⟩
theorem anY:ar 204 XN:=au (nC kz dh Td []) func204 [] l0 (sp λx fx h=>sf (J0 x/\0<=(8:Int)/\((ByteArray.size x):Int)+((ByteArray.size (bw [u8.wrap (Int.fdiv (wM x) 2^min (8:Int).toNat u16.bits),u8.wrap (wM x)])))<=9223372036854775807/\True) (by
 try dsimp only[Ty.den]at*
 have h:x.size<=99990:=h;refine⟨show x.size<=100000 by omega,by omega,?_,trivial⟩;rw[jq];simp only[avi,avk];omega))
def abY:=(204,XN)::adh
theorem RE:cu abY:=gc anY func204 (Td)
def jG(x:ByteArray):eb:=letI b:=i64.wrap (x.size-2);letI a:=ByteArray.extract x (Int.toNat 0) (Int.toNat b);bif b<0 then(ByteArray.mk #[],4)else bif !jz (pk a) x then(ByteArray.mk #[],5)else(a,0)
def Vm(x:ByteArray):Prop:=x.size<=99990
def Zh:Ct:=⟨cY,[none],Ty.pair cY bX,ah.tup [none,none],some Vm,none,jG⟩
theorem aow:ar 160 Zh:=au (nC kz dh RE []) func160 [] l0 (sp λx fx h=>sf (letI f:=x.size;letI a:=i64.wrap (f-2);letI b:=ByteArray.extract x (Int.toNat 0) (Int.toNat a);letI c:=0<=(0:Int)/\0<=a/\a<=f;letI d:=decide (a<0);letI e:= !jz (pk b) x;(d=true->True)/\(d=false->c/\KS b/\(e=true->True)/\(e=false->c/\True))) (by
 try dsimp only[Ty.den]at*
 have h:x.size<=99990:=h;have e:i64.wrap ((x.size:Int)-2)=(x.size:Int)-2:=aA (by omega) (by omega);simp only[e,adv,aut,KS,extract_size]
 (repeat' (first|exact trivial|apply And.intro|intro _))<;>first|trivial|omega))
def AD:=(160,Zh)::abY
theorem TN:cu AD:=gc aow func160 (RE)
theorem Qz(s:ByteArray)(h:s.size<=1000000):jG s=if s.size<2 then(ByteArray.empty,4)else if pk (s.extract 0 (s.size-2))=s then(s.extract 0 (s.size-2),0)else(ByteArray.empty,5):=by
 unfold jG;have e:i64.wrap (s.size-2)=s.size-2:=aA (by omega) (by omega);simp only[e];by_cases h1:s.size<2
 ·rw[ava h1]
  have:decide ((s.size:Int)-2<0)=true:=by simp;omega
  rw[this];rfl
 ·rw[au6 h1]
  have:decide ((s.size:Int)-2<0)=false:=by simp;omega
  rw[this];have a:Int.toNat (s.size-2)=s.size-2:=by omega
  simp only[a,Int.toNat_zero];by_cases h2:pk (s.extract 0 (s.size-2))=s
  ·rw[ava h2,h2,Hc];rfl
  ·rw[au6 h2]
   have:jz (pk (s.extract 0 (s.size-2))) s=false:=by
    cases h3:jz (pk (s.extract 0 (s.size-2))) s with
    |false=>rfl
    |true=>exact absurd ((BI _ _).1 h3) h2
   rw[this];rfl
theorem Ot{s:ByteArray}(h:(jG s).2=0)(h2:s.size<=1000000):(jG s).1.size=s.size-2/\2<=s.size:=by
 rw[Qz s h2]at h⊢;by_cases h1:s.size<2
 ·simp_all
 ·rw[au6 h1]at h⊢
  split at h
  ·rename_i h3
   rw[ava h3];simp only[extract_size];omega
  ·cases h
def hU(x:ab×qs):=letI a:=jG x.2.1;bif ca x.1 !=0 then(none,1)else bif x.2.1.size !=x.2.2.1 then(none,4)else bif aO x.2.1 0 !=x.2.2.2||i64.wrap (aO x.2.1 1) !=x.1.2.2.2.2.2.2.2.length then(none,30)else bif a.2 !=0 then(none,a.2)else(some (ByteArray.extract a.1 (Int.toNat 2) (Int.toNat a.1.size),x.1),0)
def D4(x:ab×qs):Prop:=ca x.1=0->14<=x.2.2.1/\x.2.2.1<=99000
theorem aqf(x:(Ty.pair aD (Ty.pair cY (Ty.pair ae bG))).den):((vR (tc Ax none AD []) f125 (Ty.pair aD (Ty.pair cY (Ty.pair ae bG))) [some 8,none,none,none] dC A4 x)).val (λ_=>(none,0)) (none,0)=hU x:=by kernel_rfl
theorem arC(x:(Ty.pair aD (Ty.pair cY (Ty.pair ae bG))).den):((vR (tc Ax none AD []) f125 (Ty.pair aD (Ty.pair cY (Ty.pair ae bG))) [some 8,none,none,none] dC A4 x)).safe=(((((ca x.1) !=(0:Int))=true->True)/\(((ca x.1) !=(0:Int))=false->(((((x.2.1).size:Int) !=x.2.2.1)=true->True)/\((((x.2.1).size:Int) !=x.2.2.1)=false->((0<=(0:Int)/\(0:Int)<((x.2.1).size:Int))/\(((((aO x.2.1 (0:Int)) !=x.2.2.2)=false->0<=(1:Int)/\(1:Int)<((x.2.1).size:Int)))/\(((((aO x.2.1 (0:Int)) !=x.2.2.2)||((i64.wrap (aO x.2.1 (1:Int))) !=((x.1.2.2.2.2.2.2.2).length:Int)))=true->True)/\((((aO x.2.1 (0:Int)) !=x.2.2.2)||((i64.wrap (aO x.2.1 (1:Int))) !=((x.1.2.2.2.2.2.2.2).length:Int)))=false->((Vm x.2.1)/\((((jG x.2.1).2 !=(0:Int))=true->True)/\(((jG x.2.1).2 !=(0:Int))=false->((0<=(2:Int)/\(2:Int)<=(((jG x.2.1).1).size:Int)/\(((jG x.2.1).1).size:Int)<=(((jG x.2.1).1).size:Int))/\(((0:Int)=0)/\True)))))))))))))):=by kernel_rfl
def EN(nw:Bool):Cm:={p:=Ty.pair aD (Ty.pair cY (Ty.pair ae bG)),ax:= [some 8,none,none,none],q:=dC,pre:=some D4,F:=hU,nw:=nw}
theorem aoi(x:(Ty.pair aD (Ty.pair cY (Ty.pair ae bG))).den)(fx:Fit (Ty.pair aD (Ty.pair cY (Ty.pair ae bG))) x)(h:D4 x):eP ((vR (tc Ax none AD []) f125 (Ty.pair aD (Ty.pair cY (Ty.pair ae bG))) [some 8,none,none,none] dC A4 x)):=by
 refine⟨?_⟩;rw[arC];try dsimp only[Ty.den]at*
 refine⟨λ_=>trivial,λh1=>⟨λ_=>trivial,λh2=> ?_⟩⟩;rw[au8]at h1 h2;obtain⟨h3,h3'⟩:=h h1;refine⟨⟨au4 _,by omega⟩,λ_=>⟨by omega,by omega⟩,λ_=>trivial,λh4=>⟨?_,λ_=>trivial,λh5=>⟨?_,rfl,trivial⟩⟩⟩
 ·show x.2.1.size<=99990
  omega
 ·rw[au8]at h5
  have h6:=Ot h5 (by omega);refine⟨by omega,by omega,au4 _⟩
theorem ape(nw:Bool):M0 prog bC 125 (EN nw):=
 amC (nC kz dh TN []) func125 (cm:=EN nw) (L:=A4) (c:=fL f125) (dflt:=(none,0)) rfl (agM)
  (λx fx hq=>(aoi x fx (hq _ rfl)).safe) aqf
def ac1(nw:Bool):List (Nat×Zc):=(125,.mk (EN nw)):: []
theorem oz(nw:Bool):gj (ac1 nw):=zc (z:= .mk (EN nw)) (ape nw) func125 (QQ)
def adz:List (Nat×Ct):=AD
theorem I1:cu adz:=TN
theorem Jk{b:ab}(a:aK b)(f:ca b=0):kj b=(14+19*(b.2.2.2.2.2.2.2.length:Int),23+19*(b.2.2.2.2.2.2.2.length:Int)):=by
 have h1:=a.cn;grind [kj,aA]
theorem IB{b:ab}(hl:b.aL.length<=maxLen):ca b=0->(14<=(kj b).1/\(kj b).1<=99000)/\(14<=(kj b).2/\(kj b).2<=99000):=λa=>by
 have f:=(oD hl a).cn;grind [Jk,oD]
theorem afO{b:ab}{s:ByteArray}{z a:Int}(hl:b.aL.length<=maxLen)(f:ca b=0->14<=z/\z<=99000)(h:(hU (b,s,z,a)).1.isSome=true):
  ca b=0/\aK b/\(s.size:Int)=z/\ ∃d,jG s=(d,0)/\d.size=s.size-2/\2<=s.size/\hU (b,s,z,a)=(some (d.extract 2 d.size,b),0)/\aO s 0=a/\aO s 1=(b.2.2.2.2.2.2.2.length:Int):=by
 unfold hU at h⊢;simp only at h⊢;cases h1:(ca b !=0)with
 |true=>rw[h1]at h;cases h
 |false=>
  rw[h1]at h;simp only[aur]at h⊢;cases h2:((s.size:Int) !=z)with
  |true=>rw[h2]at h;cases h
  |false=>
   rw[h2]at h;simp only[aur]at h⊢;cases h3:((aO s 0 !=a)||(i64.wrap (aO s 1) !=(b.2.2.2.2.2.2.2.length:Int)))with
   |true=>rw[h3]at h;cases h
   |false=>
    rw[h3]at h;simp only[aur]at h⊢;cases h4:((jG s).2 !=0)with
    |true=>rw[h4]at h;cases h
    |false=>
     rw[au8]at h1 h2 h4;rw[auv,au8,au8]at h3;have f:=f h1;obtain⟨h5,h6⟩:=Ot h4 (by omega);refine⟨h1,oD hl h1,h2,(jG s).1,by rw[<- h4],h5,h6,rfl,h3.1,?_⟩;have:=h3.2;have hr:=ou s 1;rwa [aA (by omega) (by omega)]at this
theorem afN{b:ab}{s:ByteArray}{z a:Int}(h:(hU (b,s,z,a)).1.isSome=false):(hU (b,s,z,a)).2≠0:=by
 unfold hU at h⊢;grind
def KG(x:ab×ByteArray):=letI a:=(hU (x.1,x.2,(kj x.1).1,165)).1.getD (Ty.dflt dC);letI b:=a.2.2.2;letI c:=b.2.2;qH (a.1,a.2.1,a.2.2.1,b.1,b.2.1,c.1,c.2.1,c.2.2)
def MH(x:ab×ByteArray):=letI a:=(0,0);letI b:=KG x;bif(0:Int) !=0 then((a,a,[]),0)else bif b.1.2 !=0 then((a,a,[]),b.1.2)else(b.1.1,0)
def amq(x:ab×ByteArray):Prop:=True/\(hU (x.1,x.2,(kj x.1).1,165)).1.isSome=true
def KW:Ct:={p:=Ty.pair aD cY,ax:= [some 8,none],r:=Ty.pair fT bX,ao:=ah.tup [some 5,none],pre:=some amq,fresh:=none,F:=MH}
theorem ap3:ar 85 KW:=au (dN (oz true) kz dh I1 []) func85 [] l0 (sp λx fx h=>sf (letI b:=(x.1,x.2,(kj x.1).1,165);letI a:=(hU b).1.getD (Ty.dflt dC);letI c:=a.2.2.2;letI d:=(KG x).1.2 !=0;letI e:=0 !=0;letI f:=c.2.2;(D4 b/\(hU b).1.isSome=true)/\(e=true->True)/\(e=false->vE (a.1,a.2.1,a.2.2.1,c.1,c.2.1,f.1,f.2.1,f.2.2)/\(d=true->True)/\(d=false->True))) (by
 try dsimp only[Ty.den]at*
 obtain⟨hs,ho⟩:=h;have hl:=fx.1.2.2.2.2.2.2.2.1;obtain⟨hv,hB,hz,d,hd,hds,h2,hfm,_,_⟩:=afO hl (λh=>(IB hl h).1) ho;refine⟨⟨λh=>(IB hl h).1,ho⟩,λ_=>trivial,λ_=>⟨?_,λ_=>trivial,λ_=>trivial⟩⟩;rw[hfm];show vE (d.extract 2 d.size,x.1);have h1:=hB.fl;have h3:=hB.cn;rw[Jk hB hv]at hz;have hz:(x.2.size:Int)=14+19*(x.1.2.2.2.2.2.2.2.length:Int):=hz;refine⟨?_,h3.1,h3.2,h1.1,h1.2⟩;show((d.extract 2 d.size).size:Int)=10+19*(x.1.2.2.2.2.2.2.2.length:Int);rw[extract_size];omega))
def Nd(x:ab×ByteArray):((af)×(af)×List ((eQ)×(gw)×kH))×Int:=letI a:=hU (x.1,x.2,(kj x.1).1,165);letI b:=(0,0);bif a.2 !=0 then((b,b,[]),a.2)else Ty.dflt (Ty.pair fT bX)
def alx(x:ab×ByteArray):Prop:=True/\(hU (x.1,x.2,(kj x.1).1,165)).1.isSome=false
def aqY:Ct:={p:=Ty.pair aD cY,ax:= [some 8,none],r:=Ty.pair fT bX,ao:=ah.tup [some 5,none],pre:=some alx,fresh:=some 76,F:=Nd}
theorem ani:ar 85 aqY:=au (dN (oz false) kz dh I1 []) func85 [] l0 (sp λx fx h=>sf (letI a:=(x.1,x.2,(kj x.1).1,165);letI b:=(hU a).2 !=0;(D4 a/\(hU a).1.isSome=false)/\(b=true->True)/\(b=false->False)) (by
 try dsimp only[Ty.den]at*
 obtain⟨hs,ho⟩:=h;have hl:=fx.1.2.2.2.2.2.2.2.1;have hn:=afN ho;refine⟨⟨λh=>(IB hl h).1,ho⟩,λ_=>trivial,λhc=> ?_⟩;rw[au8]at hc;exact hn hc))
def LK(x:ab×ByteArray):Bool:=(hU (x.1,x.2,(kj x.1).1,165)).1.isSome
def gX(x:ab×ByteArray):=bif LK x then MH x else Nd x
def Wq(_:ab×ByteArray):Prop:=True
theorem aji{P:Program}{G:Gd}{f:FuncId}{p r:Ty}{ax:List (Option Nat)}{ao:ah}{fresh:Option Nat}{pre:p.den->Prop}(c:p.den->Bool){a g:p.den->r.den}
  (h:dY P G f { p:=p,ax:=ax,r:=r,ao:=ao,pre:=some λx=>pre x/\c x=true,fresh:=fresh,F:=a})
  (i:dY P G f { p:=p,ax:=ax,r:=r,ao:=ao,pre:=some λx=>pre x/\c x=false,fresh:=fresh,F:=g}):
  dY P G f { p:=p,ax:=ax,r:=r,ao:=ao,pre:=some pre,fresh:=fresh,F:=λx=>bif c x then a x else g x}:=by
 intro x w X args cs h1 h2 h3 h4 h5;cases hc:c x with
 |true=>
  have:=h x w X args cs h1 h2 (λq j=>by grind) h4 h5;simp_all
 |false=>
  have:=i x w X args cs h1 h2 (λq j=>by grind) h4 h5;simp_all
def aci:Ct:={ KW with pre:=some Wq,F:=gX}
theorem ar8:dY prog bC 85 aci:=aji (p:=KW.p) LK ap3 (dY.AJ ani)
def aa6:List (Nat×Ct):=(85,aci)::adz
theorem Rp:cu aa6:=BQ ar8 ⟨_,func85,by kernel_rfl,by kernel_rfl⟩ I1
abbrev eG:=(eQ)×(gw)×kH
abbrev bA:=(af)×(af)×List eG
theorem P2{α:Type}(f:α->List Int)(k:Nat)(h: ∀c,(f c).length=k): ∀l:List α,(l.flatMap f).length=k*l.length
 | []=>by simp
 |x::l=>by rw[ayf,au1,h,P2 f k h l,avi];grind
def NG(x:ab):=letI a:=i64.wrap (19*x.2.2.2.2.2.2.2.length);bif mP x !=0 then(0,0)else(i64.wrap (14+a),i64.wrap (23+a))
def zG(k:(Unit))(x:(af)):Prop:=(0:Int)<=x.2
def zd(k:Unit)(x:af):=(8-x.2).toNat
def sw(k:Unit)(x:af):an Unit (af) Int:=letI a:=Int.tmod (i64.wrap (x.1*2)) (65536:Int);letI b:=i64.wrap (x.2+1);bif x.2<8 then bif x.1>=32768 then .next () (i64.wrap ((BitVec.ofInt i64.bits a^^^BitVec.ofInt i64.bits 4129).toNat),b)else .next () (a,b)else .brk () x
def Wo k x:=endOf sw k (Nat.succ (zd k x)) x
def DN(k:ByteArray)(x:af):Prop:=0<=x.2/\k.size<=100000
def sK(k:ByteArray)(x:af):=(k.size-x.2).toNat
def oI(k:ByteArray)(x:af):an ByteArray (af) Int:=bif x.2<k.size then .next k ((Wo () (i64.wrap ((BitVec.ofInt i64.bits x.1^^^BitVec.ofInt i64.bits (i64.wrap (i64.wrap (aO k x.2)*256))).toNat),0)).1,i64.wrap (x.2+1))else .brk k x
def aoN k x:=endOf oI k (Nat.succ (sK k x)) x
def xa(x:ByteArray):=u16.wrap (aoN x (65535,0)).1
def Ld(x:ByteArray):Prop:=x.size<=100000
def U3(k:qs)(x:af):=(k.2.2-x.2).toNat
def JU(k:qs)(x:af):an (qs) (af) Int:=bif x.2<k.2.2 then .next k (u64.wrap ((BitVec.ofInt u64.bits x.1|||BitVec.ofInt u64.bits (u64.wrap (u64.wrap (aO k.1 (i64.wrap (k.2.1+x.2)))*2^min (u64.wrap (i64.wrap (8*x.2))).toNat u64.bits))).toNat),i64.wrap (x.2+1))else .brk k x
def aqZ k x:=endOf JU k (Nat.succ (U3 k x)) x
def tP(x:qs):=(aqZ x (0,0)).1
def tR(x:qs):=u8.wrap ((BitVec.ofInt u8.bits (Int.fdiv (aO x.1 x.2.1) (2^min (u64.wrap x.2.2).toNat u8.bits))&&&BitVec.ofInt u8.bits 1).toNat)==1
def tT(x:ab×af):=bif mP x.1 !=0 then false else x.2.2==1&&jH (x.2.1,0,i64.wrap (x.1.1-2))||x.2.2==2&&jH (x.2.1,1,i64.wrap (x.1.1-1))
def rk(x:ay):=x.1>=x.2.1&&x.1<=x.2.2
def A6(x:ab×Int):=Int.fdiv (u64.wrap x.2) (2^min (u64.wrap x.1.1).toNat u64.bits)==0
def Dv(k:af)(x:(List Int)×Int):Prop:=0<=x.2/\x.1.length=k.2/\k.2<=8
def zH(k:(af))(x:((List Int)×Int)):Nat:=(k.2-x.2).toNat
def qp(k:af)(x:(List Int)×Int):an (af) ((List Int)×Int) ByteArray:=bif x.2<k.2 then .next k (aJ bG x.1 x.2 (u8.wrap (Int.fdiv k.1 (2^min (u64.wrap (i64.wrap (8*x.2))).toNat u64.bits))),i64.wrap (x.2+1))else .brk k x
def ZI k x:=endOf qp k (Nat.succ (zH k x)) x
def dy(x:af):=bw (ZI x (aC bG x.2,0)).1
def gy(x:af):Prop:=0<=x.2/\x.2<=8
def UZ(k:Int×ab)(x:(List eG)×Int):=(x.1.length-x.2).toNat
def yW(k:Int×ab)(x:(List eG)×Int):=letI b:=aa x.1 x.2;letI a:=aJ iP x.1 x.2 ((u32.wrap ((BitVec.ofInt u32.bits b.1.1&&&BitVec.ofInt u32.bits k.1).toNat),b.1.2),b.2);letI c:=aa a x.2;aJ iP a x.2 (c.1,c.2.1,u32.wrap ((BitVec.ofInt u32.bits b.2.2.1&&&BitVec.ofInt u32.bits k.1).toNat),c.2.2.2)
def Jr(k:Int×ab)(x:(List eG)×Int):=letI a:=aa (yW k x) x.2;aJ iP (yW k x) x.2 (a.1,(i64.wrap (Int.tmod (u64.wrap a.2.1.1) (u64.wrap k.2.1)),a.2.1.2),a.2.2)
def JN(k:Int×ab)(x:(List eG)×Int):=letI a:=aa (Jr k x) x.2;aJ iP (Jr k x) x.2 (a.1,(a.2.1.1,a.2.1.2.1,i64.wrap (Int.tmod (u64.wrap (aa (yW k x) x.2).2.1.2.2.1) (3:Int)),a.2.1.2.2.2),a.2.2)
def KL(k:Int×ab)(x:(List eG)×Int):an (Int×ab) ((List eG)×Int) bA:=bif x.2<x.1.length then .next k (JN k x,i64.wrap (x.2+1))else .brk k x
def Y0 k x:=endOf KL k (Nat.succ (UZ k x)) x
def om(x:ab×bA):bA:=letI a:=u32.wrap (u32.wrap (1*2^min (u64.wrap x.1.1).toNat u32.bits)-1);letI b:=(u32.wrap ((BitVec.ofInt u32.bits (u32.wrap ((BitVec.ofInt u32.bits x.2.1.1&&&BitVec.ofInt u32.bits a).toNat))&&&BitVec.ofInt u32.bits (Int.fdiv a (2^min (1:Int).toNat u32.bits))).toNat),u32.wrap ((BitVec.ofInt u32.bits (u32.wrap ((BitVec.ofInt u32.bits x.2.1.2&&&BitVec.ofInt u32.bits a).toNat))&&& ~~~BitVec.ofInt u32.bits 1).toNat));letI c:=i64.wrap (Int.tmod (u64.wrap x.2.2.1.1) (9:Int));letI e:=x.1.2.2.2.2.2.2.2.length;letI d:=Y0 (a,x.1) (bc (aC iP e) x.2.2.2,0);bif c==0 then(b,(c,0),d.1)else(b,(c,i64.wrap (Int.tmod (u64.wrap x.2.2.1.2) (u64.wrap e))),d.1)
def qN(z:List (Nat×List Nat)):=dN (oz true) kz dh Rp z
def Fx:Ct:=⟨cY,[none],oX,ah.one none,some Ld,none,xa⟩
def acm:Ct:=⟨Ty.pair aD (Ty.pair ae ae),[some 8,none,none],aw,ah.one none,none,none,tT⟩
def adt:Ct:=⟨Ty.pair ae (Ty.pair ae ae),[none,none,none],aw,ah.one none,none,none,rk⟩
def ab7:Ct:=⟨Ty.pair aD kn,[some 8,none],aw,ah.one none,none,none,A6⟩
def Mp:Ct:=⟨Ty.pair sS ae,[none,none],cY,ah.one none,some gy,none,dy⟩
def Kk:LS oX.den:=aH Ty.unit (Ty.pair ae ae) [] [] [(3,none),(5,none)] [] [] [] [] 2 false zG sw zd
def VO:LS oX.den:=aH cY (Ty.pair ae ae) [(0,none)] [] [(3,none),(4,none)] [] [] [] [] 0 false DN oI sK
theorem amD:bF f84 Fx [0,0] Kk:=have E:=ai @zG.eq_1<|ai @zd.eq_1<|ai @sw.eq_1 SN;lA (qN []) [] l0 (λk x fk fx h=>sm (decide (x.2<8)=true->(65536:Int)≠0))
theorem amr:bF f84 Fx [0] VO:=have E:=ai @DN.eq_1<|ai @sK.eq_1<|ai @oI.eq_1<|ai @zG.eq_1 SN;lA (qN []) [(7,Kk)] (lc amD l0) (λk x fk fx h=>sm (letI a:=k.size;decide (x.2<a)=true->(0<=x.2/\x.2<a)/\zG () (i64.wrap ((BitVec.ofInt i64.bits x.1^^^BitVec.ofInt i64.bits (i64.wrap (i64.wrap (aO k x.2)*256))).toNat),0)))
theorem asR:ar 84 Fx:=have E:=ai @zG.eq_1<|ai @DN.eq_1<|ai @Ld.eq_1 SN;au (qN []) func84 [(7,Kk),(3,VO)] (lc amr l0) (sp λx fx h=>sl (DN x (65535,0)))
theorem atl:ar 69 acm:=au (qN []) func69 [] l0 (λ_ _ _=>tr)
theorem arJ:ar 82 adt:=au (qN []) func82 [] l0 (λ_ _ _=>tr)
theorem atP:ar 83 ab7:=have E:=SN;au (qN []) func83 [] l0 (λx fx _=>sl (0<=u64.wrap x.1.1))
def Ur:LS cY.den:=aH (Ty.pair sS ae) (Ty.pair Ap ae) [(0,none),(1,none)] [] [(5,none),(6,none)] [] [(0,100300,true,5)] [] [] 0 false Dv qp zH
theorem amg:bF f38 Mp [0] Ur:=have E:=ai @Dv.eq_1<|ai @zH.eq_1<|ai @qp.eq_1 SN;lA (qN []) [] l0 (λk x fk fx h=>sm (decide (x.2<k.2)=true->0<=u64.wrap (i64.wrap (8*x.2))/\0<=x.2/\x.2<x.1.length))
theorem ase:ar 38 Mp:=have E:=ai @Dv.eq_1<|ai @gy.eq_1 SN;au (qN []) func38 [(3,Ur)] (lc amg l0) (sp λx fx h=>sl ((0<=x.2/\x.2=x.2/\x.2*1<=140737488355328/\x.2<=4611686018427387903)/\Dv x (aC bG x.2,0)))
def aca:=(84,Fx)::(69,acm)::(82,adt)::(83,ab7)::(38,Mp)::aa6
theorem Ui:cu aca:=(gc asR func84 (((gc atl func69 (gc arJ func82 (gc atP func83 (gc ase func38 ((Rp)))))))))
def vle:List Int->Int
 | []=>0|b::l=>b+256*vle l
def cr(l:List Int):Prop:= ∀x∈l,0<=x/\x<=255
theorem cr.tl{b:Int}{l:List Int}(h:cr (b::l)):cr l:=λx a=>h x (by simp_all)
theorem I8: ∀(l:List Int),cr l->0<=vle l/\vle l<256^l.length
 | [],_=>by simp[vle]
 |b::l,h=>by
  obtain⟨h1,h2⟩:=I8 l h.tl;have hb:=h b (by simp);grind [vle]
theorem K9(n:Int):u8.wrap n=n % 256:=av1 n
theorem mn: ∀(k:Nat) (n:Int),cr (le n k)
 |0,_=>λx a=>by cases a
 |k+1,n=>λx a=>by
  simp only[le,avv]at a;rcases a with rfl|a
  ·grind [K9]
  ·exact mn k _ x a
theorem IV(n:Int):n.fdiv 256=n/256:=awy _ (by omega)
theorem UE: ∀(l:List Int),cr l->le (vle l) l.length=l
 | [],_=>rfl
 |b::l,h=>by
  have hb:=h b (by simp);simp only[vle,avi,le];rw[K9,IV,show(b+256*vle l) % 256=b by omega,show(b+256*vle l)/256=vle l by omega,UE l h.tl]
theorem JX: ∀(k:Nat) (n:Int),0<=n->n<256^k->vle (le n k)=n
 |0,n,h0,h=>by grind [le,vle]
 |k+1,n,h0,h=>by
  simp only[le,vle];rw[K9,IV,JX k (n/256) (by omega) (by omega)];omega
theorem agE(n:Nat)(h:n<2^64):(BitVec.ofInt 64 n).toNat=n:=by
 simp_all
theorem Ta{a b:Int}{i:Nat}(hi:i<=7)(f:0<=a/\a<256^i)(hb:0<=b/\b<=255):
  u64.wrap ((BitVec.ofInt u64.bits a|||BitVec.ofInt u64.bits (u64.wrap (u64.wrap b*2^(min ((u64.wrap (i64.wrap ((8:Int)*(i:Int)))).toNat) u64.bits)))).toNat:Int)=a+b*256^i:=by
 obtain⟨m,rfl⟩:=awe f.1;obtain⟨c,rfl⟩:=awe hb.1;have g:u64.wrap (i64.wrap ((8:Int)*(i:Int)))=8*(i:Int):=by
  grind [aA,IntKind.wrap_u64]
 have h:min ((8*(i:Int)).toNat) u64.bits=8*i:=by
  show min ((8*(i:Int)).toNat) 64=8*i;omega
 rw[g,h];have j:c<=255:=by omega
 have hm:m<2^(8*i):=by
  grind [Int.natCast_pow,Nat.pow_mul]
 have k:(256:Int)^i=((2^(8*i):Nat):Int):=by
  simp_all [Int.natCast_pow,Nat.pow_mul]
 have l:(2:Int)^(8*i)=((2^(8*i):Nat):Int):=by simp_all
 have s:2^(8*i)<=2^56:=axu (by omega) (by omega);have t:=by
  have:c*2^(8*i)<=255*2^(8*i):=au3 _ j;omega
 have o:u64.wrap (u64.wrap (c:Int)*2^(8*i))=((c*2^(8*i):Nat):Int):=by
  rw[avu (c:Int),show(c:Int) % 18446744073709551616=(c:Int)by omega,l,<- Int.natCast_mul,avu];omega
 rw[o,k,<- Int.natCast_mul,<- aBk];show u64.wrap (((BitVec.ofInt 64 (m:Int)|||BitVec.ofInt 64 ((c*2^(8*i):Nat):Int)).toNat:Nat):Int)=_;grind [BitVec.toNat_or,agE,Nat.mul_comm,Nat.two_pow_add_eq_or_of_lt,IntKind.wrap_u64]
theorem ah2{a b:Int}{i:Nat}(hi:i<=7)(f:0<=a/\a<256^i)(hb:0<=b/\b<=255):
  u64.wrap ((BitVec.ofInt u64.bits a|||BitVec.ofInt u64.bits (u64.wrap (u64.wrap b*2^(min ((i64.wrap (8*i)).toNat) u64.bits)))).toNat:Int)=a+b*256^i:=by
 have:=Ta hi f hb;grind [aA,IntKind.wrap_u64]
theorem Rr{K ρ:Type}{st:K->af->an K (af) ρ}{k:K}(bs:List Int)(hb:cr bs)(hl:bs.length<=8)(a: ∀(i:Nat) (n:Int),i<bs.length->0<=n/\n<256^i->st k (n,i)= .next k (n+bs.getD i 0*256^i,i+1))
  (g: ∀n,st k (n,bs.length)= .brk k (n,bs.length)): ∀(f i:Nat) (n:Int),i<=bs.length->bs.length-i<f->(0<=n/\n<256^i)->(endOf st k f (n,i)).1=n+256^i*vle (bs.drop i)
 |0,i,n,_,h,_=>by omega
 |f+1,i,n,hi,o,hr=>by
  unfold endOf;rcases axe i bs.length with h|h
  ·have j:0<=bs.getD i 0/\bs.getD i 0<=255:=by
    rw[au9,avc h];exact hb _ (axn h)
   rw[a i n h hr];have e:i+1=((i+1:Nat):Int):=by omega
   simp only[e];have l:(256:Int)^(i+1)=256*256^i:=by rw[Int.pow_succ,aA0]
   have s:0<=bs.getD i 0*256^i:=aA6 j.1 (aBr (by omega));have t:bs.getD i 0*256^i<=255*256^i:=aAd j.2 (aBr (by omega));rw[Rr bs hb hl a g f (i+1) _ h (by omega) (by omega),av5 h];simp only[vle];have m:bs.getD i 0=bs[i]:=by rw[au9,avc h];rfl
   rw[m,l,Int.mul_add,aA0 bs[i],Int.add_assoc];rw[<- Int.mul_assoc,aA0 256]
  ·have:i=bs.length:=by omega
   subst this;rw[g n];simp[vle]
theorem Qj{K ρ:Type}{st:K->af->an K (af) ρ}{k:K}(bs:List Int)(hb:cr bs)(hl:bs.length<=8)(a: ∀(i:Nat) (n:Int),i<bs.length->0<=n/\n<256^i->st k (n,i)= .next k (n+bs.getD i 0*256^i,i+1))
  (g: ∀n,st k (n,bs.length)= .brk k (n,bs.length)) (f:Nat) (h:bs.length<f):(endOf st k f (0,0)).1=vle bs:=by
 have:=Rr bs hb hl a g f 0 0 (awc _) (by omega) (by simp);simp_all
theorem JP(k:Nat)(r:gn)(g:k<=8)(hs:k<=r.1.size):(fp (k,r)).1=vle ((av r.1).take k):=by
 have hl:((av r.1).take k).length=k:=by simp_all
 refine Qj ((av r.1).take k) (λx a=>si _ x (awg a)) (by omega) (λi n hi f=> ?_) (λn=> ?_) _ (by simp_all [C9])
 ·rw[hl]at hi
  unfold yP;have h1:decide (i<(k:Int))=true:=by simp;omega
  simp only[h1,auw];have e:aO r.1 i=((av r.1).take k).getD i 0:=by
   rw[yp];simp[hi]
  rw[aA (x:=i+1) (by omega) (by omega),ah2 (by omega) f (ou _ _),e]
 ·rw[hl]
  unfold yP;simp
theorem PR(s:ByteArray)(a k:Nat)(h:k<=8)(hs:a+k<=s.size)(j:s.size<=99000):tP (s,a,k)=vle (((av s).drop a).take k):=by
 have hl:(((av s).drop a).take k).length=k:=by simp;omega
 refine Qj (((av s).drop a).take k) (λx f=>si _ x (awx (awg f))) (by omega) (λi n hi g=> ?_) (λn=> ?_) _ (by simp_all [U3])
 ·rw[hl]at hi
  unfold JU;have h1:decide (i<(k:Int))=true:=by simp;omega
  simp only[h1,auw];have e:aO s (a+i)=(((av s).drop a).take k).getD i 0:=by
   rw[yp,show(a+(i:Int)).toNat=a+i by omega];simp[hi]
  rw[aA (x:=i+1) (by omega) (by omega),aA (by omega) (by omega),Ta (by omega) g (ou _ _),e]
 ·rw[hl]
  unfold JU;simp
def th(n:Int)(i:Nat):Int:=u8.wrap (n/256^i)
theorem VS: ∀(k:Nat) (n:Int),le n k=(List.range k).map (th n)
 |0,_=>rfl
 |k+1,n=>by
  rw[List.range_succ_eq_map,axm,List.map_map];simp only[le];rw[VS k];have h0:th n 0=u8.wrap n:=by simp_all [th]
  simp_all [th,IV,Int.pow_succ,aA0,Int.ediv_ediv_of_nonneg]
theorem Ts(n:Int)(k:Nat)(g:k<=8): ∀(f i:Nat) (l:List Int),l.length=k->i<=k->k-i<f->(endOf qp (n,k) f (l,i)).1=l.take i++((List.range k).drop i).map (th n)
 |0,i,l,_,_,h=>by omega
 |f+1,i,l,hl,hi,t=>by
  unfold endOf;rcases axe i k with h|h
  ·have a:qp (n,k) (l,i)= .next (n,k) (l.set i (th n i),((i+1:Nat):Int)):=by
    unfold qp;have h1:decide (i<(k:Int))=true:=by simp;omega
    simp only[h1];have j:u64.wrap (i64.wrap (8*i))=8*i:=by
     rw[aA (by omega) (by omega),avu];omega
    have m:min ((8*(i:Int)).toNat) u64.bits=8*i:=by
     show min ((8*(i:Int)).toNat) 64=8*i;omega
    have o:(2:Int)^(8*i)=256^i:=by rw[Int.pow_mul];rfl
    rw[j,m,aA (by omega) (by omega),o,awy _ (aBr (by omega))];simp[aJ,th]
   rw[a];rw[Ts n k g f (i+1) _ (by simpa using hl) h (by omega)];have s:(List.range k).drop i=i::(List.range k).drop (i+1):=by
    rw[av5 (by simpa using h)];simp
   rw[s,axm,ay0,List.getElem?_set_self (by omega),List.take_set,List.set_eq_of_length_le (by simp;omega)];simp
  ·have:i=k:=by omega
   subst this;have a:qp (n,i) (l,i)= .brk (n,i) (l,i):=by
    unfold qp;simp
   rw[a];rw[avr (by omega),azb (by simp)];simp
theorem DC(n:Int)(k:Nat)(a:k<=8):dy (n,k)=bw (le n k):=by
 unfold dy ZI;have:=Ts n k a (Nat.succ (zH (n,k) ((aC bG k),0))) 0 (aC bG k) (by simp[aC]) (awc _) (by simp_all [zH]);simp_all [VS]
theorem oZ(n:Int):dy (n,1)=bw (le n 1):=DC n 1 (by omega)
theorem wy(n:Int):dy (n,2)=bw (le n 2):=DC n 2 (by omega)
theorem py(n:Int):dy (n,4)=bw (le n 4):=DC n 4 (by omega)
theorem tu(n:Int):dy (n,8)=bw (le n 8):=DC n 8 (by omega)
theorem JE(l m:List Int):dq (bw l) (bw m)=bw (l++m):=by
 grind [JZ,GW,Ir]
def SO:=And.intro @oZ<|And.intro @wy<|And.intro @py @tu
def AT(x:ByteArray):=dq x (bw [u8.wrap (u16.wrap (Int.tdiv (xa x) (256:Int))),u8.wrap (Int.tmod (xa x) (256:Int))])
def XR(x:ByteArray):Prop:=x.size<=99990
def Gf(x:eb):=(u32.wrap (tP (x.1,x.2,4)),u32.wrap (tP (x.1,i64.wrap (x.2+4),4)))
def En(k:(ab))(x:(ay)):Prop:=(0:Int)<=x.1
def zj(k:ab)(x:ay):=(32-x.1).toNat
def vx(k:ab)(x:ay):an ab (ay) (af):=letI a:=u32.wrap (1*2^min (u64.wrap x.1).toNat u32.bits);letI b:=i64.wrap (x.1+1);letI c:=u32.wrap ((BitVec.ofInt u32.bits x.2.1|||BitVec.ofInt u32.bits a).toNat);letI d:=u32.wrap ((BitVec.ofInt u32.bits x.2.2|||BitVec.ofInt u32.bits a).toNat);letI e:=tT (k,x.1,2);bif x.1<32 then bif tT (k,x.1,1)then bif e then .next k (b,c,d)else .next k (b,c,x.2.2)else bif e then .next k (b,x.2.1,d)else .next k (b,x.2)else .brk k x
def anL k x:=endOf vx k (Nat.succ (zj k x)) x
def eL(x:ab):=(anL x (0,0,0)).2
def wR(x:af):=dq (dy (u64.wrap x.1,4)) (dy (u64.wrap x.2,4))
def DI(k:(List Bool))(x:(af)):Prop:=(0:Int)<=x.2
def Kn(k:List Bool)(x:af):=(k.length-x.2).toNat
def Kj(k:List Bool)(x:af):an (List Bool) (af) ByteArray:=letI a:=i64.wrap (x.2+1);bif x.2<k.length then bif aa k x.2 then .next k (u64.wrap ((BitVec.ofInt u64.bits x.1|||BitVec.ofInt u64.bits (u64.wrap (1*2^min (u64.wrap x.2).toNat u64.bits))).toNat),a)else .next k (x.1,a)else .brk k x
def LN k x:=endOf Kj k (Nat.succ (Kn k x)) x
def rq(x:List Bool):=dy ((LN x (0,0)).1,1)
def qy(x:List Bool):Prop:=x.length<=8
def wE(z:List (Nat×List Nat)):=dN (oz true) kz dh Ui z
def aaT:Ct:=⟨cY,[none],cY,ah.one none,some XR,none,AT⟩
def Mm:Ct:=⟨aD,[some 8],aS,ah.one (some 2),none,none,eL⟩
def acy:Ct:=⟨aS,[some 2],cY,ah.one none,none,none,wR⟩
def Nc:Ct:=⟨gm,[none],cY,ah.one none,some qy,none,rq⟩
theorem atj:ar 42 aaT:=au (wE []) func42 [] l0 (sp λx fx h=>sf (letI a:=(256:Int)≠0;Ld x/\a/\a/\((ByteArray.size x):Int)+((ByteArray.size (bw [u8.wrap (u16.wrap (Int.tdiv (xa x) 256)),u8.wrap (Int.tmod (xa x) 256)])))<=9223372036854775807/\True) (by
 try dsimp only[Ty.den]at*
 have h:x.size<=99990:=h;refine⟨show x.size<=100000 by omega,by omega,by omega,?_,trivial⟩;rw[jq];simp only[avi,avk];omega))
def Wh:LS aS.den:=aH aD (Ty.pair ae aS) [] [(1,8)] [(4,none)] [(3,2)] [] [] [(1,1),(3,3)] 0 false En vx zj
theorem amw:bF f24 Mm [0] Wh:=have E:=ai @En.eq_1<|ai @zj.eq_1<|ai @vx.eq_1<|ai @gN<|ai SN SO;lA (wE []) [] l0 (λk x fk fx h=>sm (letI b:=0<=u64.wrap x.1;letI a:=tT (k,x.1,2)=true->b;letI c:=tT (k,x.1,1);decide (x.1<32)=true->(c=true->b/\a)/\(c=false->a)))
theorem asb:ar 24 Mm:=have E:=ai @En.eq_1<|ai @gN<|ai SN SO;au (wE []) func24 [(3,Wh)] (lc amw l0) (λx fx _=>sl (En x (0,0,0)))
theorem ate:ar 39 acy:=have E:=ai @gy.eq_1<|ai @gN<|ai SN SO;au (wE []) func39 [] l0 (λx fx _=>sl (letI a:=(u64.wrap x.1,4);letI b:=(u64.wrap x.2,4);gy a/\gy b/\((ByteArray.size (dy a)):Int)+((ByteArray.size (dy b)))<=9223372036854775807))
def VY:LS cY.den:=aH gm (Ty.pair sS ae) [(0,none)] [] [(3,none),(4,none)] [] [] [] [] 0 false DI Kj Kn
theorem amN:bF f40 Nc [0] VY:=have E:=ai @DI.eq_1<|ai @Kn.eq_1<|ai @Kj.eq_1<|ai @gN<|ai SN SO;lA (wE []) [] l0 (λk x fk fx h=>sm (letI a:=k.length;decide (x.2<a)=true->(0<=x.2/\x.2<a)/\(aa k x.2=true->0<=u64.wrap x.2)))
theorem arH:ar 40 Nc:=have E:=ai @DI.eq_1<|ai @qy.eq_1<|ai @gy.eq_1<|ai @gN<|ai SN SO;au (wE []) func40 [(3,VY)] (lc amN l0) (sp λx fx h=>sl (DI x (0,0)/\gy ((LN x (0,0)).1,1)))
def adk:=(42,aaT)::(24,Mm)::(39,acy)::(40,Nc)::aca
theorem TB:cu adk:=gc atj func42 ((gc asb func24 (gc ate func39 (gc arH func40 (Ui)))))
def FZ(x:ByteArray):eb:=letI b:=(x.size:Int);letI a:=ByteArray.extract x (Int.toNat 0) (Int.toNat (i64.wrap (b-2)));bif b<2 then(ByteArray.mk #[],4)else bif jz (AT a) x then(a,0)else(ByteArray.mk #[],5)
def pE(x:ab×af):=u32.wrap ((BitVec.ofInt u32.bits x.2.1&&& ~~~BitVec.ofInt u32.bits (eL x.1).1).toNat)==0&&u32.wrap ((BitVec.ofInt u32.bits x.2.2&&& ~~~BitVec.ofInt u32.bits (eL x.1).2).toNat)==0
def atF(z:List (Nat×List Nat)):=dN (oz true) kz dh TB z
def acw:Ct:=⟨Ty.pair aD aS,[some 8,some 2],aw,ah.one none,none,none,pE⟩
theorem ar9:ar 81 acw:=au (atF []) func81 [] l0 (λ_ _ _=>tr)
def aa7:=(81,acw)::adk
theorem SD:cu aa7:=(gc ar9 func81 (TB))
def Gw(x:ab×qs):=bif mP x.1 !=0 then 1 else bif x.2.1.size !=x.2.2.1 then 4 else bif i64.wrap (aO x.2.1 0) !=x.2.2.2||i64.wrap (aO x.2.1 1) !=x.1.2.2.2.2.2.2.2.length then 30 else(FZ x.2.1).2
def Eo(k:((ab)×bA))(x:(Int)):Prop:=(0:Int)<=x
def DD(k:ab×bA)(x:Int):=(k.2.2.2.length-x).toNat
def zy(k:ab×bA)(x:Int):=letI a:=aa k.2.2.2 x;bif x<k.2.2.2.length then bif !A6 (k.1,a.1.1)|| !A6 (k.1,a.2.2.1)|| !rk (a.2.1.1,0,i64.wrap (k.1.1-1))|| !rk (a.2.1.2.2.1,0,2)then an.ret false else an.next k (i64.wrap (x+1))else an.brk k x
def L4 k x:=bj zy k (Nat.succ (DD k x)) x
def qV(x:ab×bA):=letI a:=(x.1.2.2.2.2.2.2.2.length:Int);letI b:=x.2.2.1;bif mP x.1 !=0|| !pE (x.1,x.2.1)|| !rk (b.1,0,8)|| !rk (b.2,0,i64.wrap (a-1))||b.1==0&&b.2 !=0||x.2.2.2.length !=a then false else dJ (L4 x 0) (λy=>y) true
def abn(z:List (Nat×List Nat)):=dN (oz true) kz dh SD z
def Mu:Ct:=⟨Ty.pair aD fT,[some 8,some 5],aw,ah.one none,none,none,qV⟩
def Wn:LS aw.den:=aH (Ty.pair aD fT) ae [] [(2,8),(3,5)] [(5,none)] [] [] [] [(2,2),(3,3)] 0 true Eo zy DD
theorem al8:bF f37 Mu [0] Wn:=have E:=ai @Eo.eq_1<|ai @DD.eq_1<|ai @zy.eq_1<|ai @gN<|ai SN SO;lA (abn []) [] l0 (λk x fk fx h=>sm (letI a:=k.2.2.2.length;decide (x<a)=true->0<=x/\x<a))
theorem asV:ar 37 Mu:=have E:=ai @Eo.eq_1<|ai @gN<|ai SN SO;au (abn []) func37 [(4,Wn)] (lc al8 l0) (λx fx _=>sl (letI a:=(x.1.2.2.2.2.2.2.2.length:Int);letI b:=x.2.2.1;(((((mP x.1 !=0|| !pE (x.1,x.2.1))|| !rk (b.1,0,8))|| !rk (b.2,0,i64.wrap (a-1)))||b.1==0&&b.2 !=0)||x.2.2.2.length !=a)=false->Eo x 0))
def abN:=(37,Mu)::aa7
theorem Sb:cu abN:=(gc asV func37 (SD))
def gH(l:List Bool):Int:=(LN l (0,0)).1
def gP(c:eG):List Int:=le (u64.wrap c.1.1) 4++le (gH [c.1.2.1,c.1.2.2.1,c.1.2.2.2.1,c.1.2.2.2.2,c.2.1.2.1,c.2.1.2.2.2]) 1++le (u64.wrap c.2.1.1) 1++le (u64.wrap c.2.1.2.2.1) 1++le (u64.wrap c.2.2.1) 4++le c.2.2.2 8
def gO(n:Int)(x:bA):List Int:= [165,n]++ce x.1++le (u64.wrap x.2.1.1) 1++le (u64.wrap x.2.1.2) 1++x.2.2.flatMap gP
theorem PY(c:eG):(gP c).length=19:=by simp_all [gP,gN]
theorem xK(n:Int)(x:bA):(gO n x).length=12+19*x.2.2.length:=by grind [gO,gP,gN,nE,P2]
theorem HZ(l:List Bool)(hl:l.length<=1000):rq l=bw (le (gH l) 1):=by
 unfold rq;rw[oZ];rfl
theorem zI(a b:Bool):rq [a,b]=bw (le (gH [a,b]) 1):=HZ _ (by simp)
theorem zp(a b c:Bool):rq [a,b,c]=bw (le (gH [a,b,c]) 1):=HZ _ (by simp)
theorem vG(a b c d e f:Bool):rq [a,b,c,d,e,f]=bw (le (gH [a,b,c,d,e,f]) 1):=HZ _ (by simp)
theorem ub(c:af):wR c=bw (ce c):=by
 unfold wR;rw[py,py,JE];rfl
def nA(k:bA)(x:eb):Prop:=letI a:=(k.2.2.length:Int);0<=x.2/\x.2<=a/\a<=30/\x.1.size=12+19*x.2
def vv(k:bA)(x:eb):=(k.2.2.length-x.2).toNat
def qk(k:bA)(x:eb):an bA (eb) (eb):=letI a:=aa k.2.2 x.2;bif x.2<k.2.2.length then .next k (dq (dq (dq (dq (dq (dq x.1 (dy (u64.wrap a.1.1,4))) (rq [a.1.2.1,a.1.2.2.1,a.1.2.2.2.1,a.1.2.2.2.2,a.2.1.2.1,a.2.1.2.2.2])) (dy (u64.wrap a.2.1.1,1))) (dy (u64.wrap a.2.1.2.2.1,1))) (dy (u64.wrap a.2.2.1,4))) (dy (a.2.2.2,8)),i64.wrap (x.2+1))else .brk k x
def vV k x:=endOf qk k (Nat.succ (vv k x)) x
def zN(x:ab×bA):=vV x.2 (dq (dq (dq (dq (dy (165,1)) (dy (u64.wrap x.1.2.2.2.2.2.2.2.length,1))) (wR x.2.1)) (dy (u64.wrap x.2.2.1.1,1))) (dy (u64.wrap x.2.2.1.2,1)),0)
def gV(x:ab×bA):eb:=bif !qV x then(ByteArray.mk #[],1)else(AT (zN x).1,0)
def Mf(x:ab×bA):Prop:=x.2.2.2.length<=30
def abI(z:List (Nat×List Nat)):=dN (oz true) kz dh Sb z
def MQ:Ct:=⟨Ty.pair aD fT,[some 8,some 5],Ty.pair cY bX,ah.tup [none,none],some Mf,none,gV⟩
def UX:LS (Ty.pair cY bX).den:=aH fT (Ty.pair cY ae) [] [(3,5)] [(6,none),(7,none)] [] [] [] [(3,3)] 0 false nA qk vv
theorem Uw(k:fT.den)(x:(Ty.pair cY ae).den)(fk:Fit fT k)(h:nA k x):bf false nA vv k x (qk k x):=by
 try dsimp only[Ty.den]at*
 unfold nA at h;unfold qk;refine bf.cnd (λhc=> ?_) (λ_=>rfl);rw[adv]at hc;have e:i64.wrap (x.2+1)=x.2+1:=aA (by omega) (by omega);rw[e];refine⟨rfl,?_,?_⟩
 ·simp only[nA,oZ,wy,py,tu,ub,zI,zp,vG,jq,mX,gN,nE,avi,avk,gy,qy]
  omega
 ·simp only[vv]
  omega
theorem amW:bF f11 MQ [0] UX:=lA (abI []) [] l0 (λk x fk fx h=>sf (letI a:=aa k.2.2 x.2;letI c:=(u64.wrap a.2.1.1,1);letI e:=(u64.wrap a.1.1,4);letI f:=(u64.wrap a.2.2.1,4);letI h:=(k.2.2.length:Int);letI i:=(((a.2.2.2:Nat):Int),8);letI l:=a.1.2.2;letI m:=a.2.1.2;letI d:=(u64.wrap m.2.1,1);letI g:=rq [a.1.2.1,l.1,l.2.1,l.2.2,m.1,m.2.2];letI n:=dq x.1 (dy e);letI b:=dq n g;letI j:=dq b (dy c);letI o:=decide (x.2<h);letI p:=dq j (dy d);(o=true->((0<=x.2/\x.2<h)/\(gy e/\((((ByteArray.size x.1:Nat):Int)+((ByteArray.size (dy e):Nat):Int)<=9223372036854775807)/\(qy [a.1.2.1,l.1,l.2.1,l.2.2,m.1,m.2.2]/\((((ByteArray.size n:Nat):Int)+((ByteArray.size g:Nat):Int)<=9223372036854775807)/\(gy c/\((((ByteArray.size b:Nat):Int)+((ByteArray.size (dy c):Nat):Int)<=9223372036854775807)/\(gy d/\((((ByteArray.size j:Nat):Int)+((ByteArray.size (dy d):Nat):Int)<=9223372036854775807)/\(gy f/\((((ByteArray.size p:Nat):Int)+((ByteArray.size (dy f):Nat):Int)<=9223372036854775807)/\(gy i/\((((ByteArray.size (dq p (dy f)):Nat):Int)+((ByteArray.size (dy i)))<=9223372036854775807)/\True))))))))))))))/\(o=false->True)) (by
 try dsimp only[Ty.den]at*
 unfold nA at h;simp only[oZ,wy,py,tu,ub,zI,zp,vG,jq,mX,gN,nE,avi,avk,gy,qy,adv,aut]at*
 (repeat' (first|apply And.intro|intro _))<;>first|omega|exact trivial)) Uw
theorem atD:ar 11 MQ:=au (abI []) func11 [(5,UX)] (lc amW l0) (sp λx fx h=>sf (letI b:=(u64.wrap (x.1.2.2.2.2.2.2.2.length:Int),1);letI c:=(u64.wrap x.2.2.1.1,1);letI d:=(u64.wrap x.2.2.1.2,1);letI e:=(165,1);letI a:=dq (dy e) (dy b);letI f:=dq a (wR x.2.1);letI g:=dq f (dy c);((!(qV x))=true->True)/\((!(qV x))=false->(gy e/\(gy b/\((((ByteArray.size (dy e):Nat):Int)+((ByteArray.size (dy b):Nat):Int)<=9223372036854775807)/\((((ByteArray.size a:Nat):Int)+((ByteArray.size (wR x.2.1):Nat):Int)<=9223372036854775807)/\(gy c/\((((ByteArray.size f:Nat):Int)+((ByteArray.size (dy c):Nat):Int)<=9223372036854775807)/\(gy d/\((ByteArray.size g):Int)+((ByteArray.size (dy d)))<=9223372036854775807/\nA x.2 (dq g (dy d),0)/\XR (zN x).1/\True))))))))) (by
 try dsimp only[Ty.den]at*
 unfold Mf at h;refine⟨λ_=>trivial,λhc=> ?_⟩;have hin: ∀r:ByteArray,r.size=12->nA x.2 (r,(0:Int)):=λr hr=>by
  simp only[nA,hr];omega
 have hI:=λ(r:ByteArray) (hr:r.size=12)=>iq (step:=qk) (k:=x.2) (I:=nA x.2) (λy k' z hy hz=>by
   have h0:=Uw x.2 y fx.2 hy;rw[hz]at h0;exact h0.2.1) (λy k' z hy hz=>by
   unfold qk at hz;cases hd:decide (y.2<(x.2.2.2.length:Int))with
   |true=>rw[hd]at hz;cases hz
   |false=>rw[hd]at hz;cases hz;exact hy) (Nat.succ (vv x.2 (r,(0:Int)))) _ (hin r hr)
 have hlen: ∀(r:ByteArray) (hr:r.size=12),(vV x.2 (r,(0:Int))).1.size<=1000:=λr hr=>by
  obtain⟨_,h2,h4,h5⟩:=hI r hr;have h2:(vV x.2 (r,(0:Int))).2<=(x.2.2.2.length:Int):=h2;have h4:(x.2.2.2.length:Int)<=30:=h4;have h5:((vV x.2 (r,(0:Int))).1.size:Int)=12+19*(vV x.2 (r,(0:Int))).2:=h5;omega
 (repeat' (first|apply And.intro))<;>first|omega|(simp only[oZ,wy,py,tu,ub,zI,zp,vG,jq,mX,gN,nE,avi,avk,gy,qy];omega)|exact hin _ (by simp only[oZ,wy,py,tu,ub,zI,zp,vG,jq,mX,gN,nE,avi,avk,gy,qy])|exact trivial|(show(zN x).1.size<=99990;exact auq (hlen _ (by simp only[oZ,wy,py,tu,ub,zI,zp,vG,jq,mX,gN,nE,avi,avk,gy,qy])) (by omega))))
def abU:List (Nat×Ct):=(11,MQ)::abN
theorem akG:cu abU:=gc atD func11 (Sb)
theorem agJ{b:ab}(a:aK b)(f:mP b=0):NG b=(14+19*(b.2.2.2.2.2.2.2.length:Int),23+19*(b.2.2.2.2.2.2.2.length:Int)):=by
 have h1:=a.cn;grind [NG,aA]
def UO(k:ByteArray×ab)(x:Int×bA):=(k.2.2.2.2.2.2.2.2.length-x.1).toNat
def SX(k:ByteArray×ab)(x:Int×bA):=letI a:=i64.wrap (12+i64.wrap (19*x.1));letI b:=i64.wrap (a+4);x.2.2.2++ [((u32.wrap (tP (k.1,a,4)),tR (k.1,b,0),tR (k.1,b,1),tR (k.1,b,2),tR (k.1,b,3)),(i64.wrap (aO k.1 (i64.wrap (a+5))),tR (k.1,b,4),i64.wrap (aO k.1 (i64.wrap (a+6))),tR (k.1,b,5)),u32.wrap (tP (k.1,i64.wrap (a+7),4)),Int.toNat (tP (k.1,i64.wrap (a+11),8)))]
def zg(k:ByteArray×ab)(x:Int×bA):an (ByteArray×ab) (Int×bA) (bA×Int):=bif x.1<k.2.2.2.2.2.2.2.2.length then .next k (i64.wrap (x.1+1),x.2.1,x.2.2.1,SX k x)else .brk k x
def vZ k x:=endOf zg k (Nat.succ (UO k x)) x
def AY(x:ab×ByteArray):bA×Int:=letI a:=(i64.wrap (aO x.2 10),i64.wrap (aO x.2 11));letI b:=(0,0);letI c:=Gf (x.2,2);letI d:=Gw (x.1,x.2,(NG x.1).1,165);letI e:=(x.2,x.1);bif d !=0 then((b,b,[]),d)else bif(gV (x.1,(vZ e (0,c,a,[])).2)).2 !=0|| !jz (gV (x.1,(vZ e (0,c,a,[])).2)).1 x.2 then((b,b,[]),31)else((vZ e (0,c,a,[])).2,0)
def abw:List (Nat×Ct):=abU
theorem RO:cu abw:=(akG)
def jl(r:BitVec 16):BitVec 16:=(r<<<1)^^^(if r.msb then 0x1021#16 else 0#16)
theorem ajD(a b:BitVec 16):jl (a^^^b)=jl a^^^jl b:=by
 grind [jl]
theorem ahZ:jl 0#16=0#16:=by decide
theorem al1{r:BitVec 16}(h:jl r=0#16):r=0#16:=by
 unfold jl at h;cases hm:r.msb with
 |true=>
  have:=av2 (λx=>x.getLsbD 0) h;grind
 |false=>
  rw[hm]at h;simp only[awd,azj,BitVec.xor_zero]at h;apply BitVec.eq_of_getLsbD_eq;intro i hi;rcases axe i 15 with h1|h1
  ·have:=av2 (λx=>x.getLsbD (i+1)) h
   simp only[BitVec.getLsbD_shiftLeft]at this;have h2:i+1<16:=by omega
   simp[h2]at this;simpa using this
  ·have:i=15:=by omega
   subst this;rw[BitVec.msb_eq_getLsbD_last]at hm;simpa using hm
def it:Nat->BitVec 16->BitVec 16
 |0,r=>r|n+1,r=>it n (jl r)
theorem U5: ∀(n:Nat) (a b:BitVec 16),it n (a^^^b)=it n a^^^it n b
 |0,_,_=>rfl
 |n+1,a,b=>by simp only[it];rw[ajD,U5 n]
theorem SI: ∀n,it n 0#16=0#16
 |0=>rfl
 |n+1=>by simp only[it];rw[ahZ,SI n]
theorem XT: ∀(n:Nat) {r:BitVec 16},it n r=0#16->r=0#16
 |0,_,h=>h
 |n+1,r,h=>al1 (XT n h)
theorem KC: ∀(m n:Nat) (r:BitVec 16),it (m+n) r=it n (it m r)
 |0,n,r=>by rw[avs];rfl
 |m+1,n,r=>by rw[Nat.add_right_comm];exact KC m n (jl r)
def hi(b:BitVec 8):BitVec 16:=b.setWidth 16<<<8
def lo(b:BitVec 8):BitVec 16:=b.setWidth 16
theorem apY: ∀b:BitVec 8,it 8 (lo b)=hi b:=by decide
def AZ(r:BitVec 16)(b:BitVec 8):BitVec 16:=it 8 (r^^^hi b)
def crc:BitVec 16->List (BitVec 8)->BitVec 16
 |r,[]=>r|r,b::l=>crc (AZ r b) l
theorem yA: ∀(l m:List (BitVec 8)) (r:BitVec 16),crc r (l++m)=crc (crc r l) m
 | [],m,r=>rfl
 |b::l,m,r=>yA l m (AZ r b)
theorem Q0(r:BitVec 16)(h l:BitVec 8):crc r [h,l]=0#16↔r=hi h^^^lo l:=by
 have e:crc r [h,l]=it 16 (r^^^(hi h^^^lo l)):=by
  simp only[crc];unfold AZ;rw[<- apY l,<- U5,<- KC,BitVec.xor_assoc]
 rw[e];constructor
 ·intro h1
  have h2:=XT _ h1;have h3:r^^^(hi h^^^lo l)^^^(hi h^^^lo l)=0#16^^^(hi h^^^lo l):=by rw[h2]
  rw[BitVec.xor_assoc,BitVec.xor_self,BitVec.xor_zero]at h3;rw[h3];simp
 ·intro h1
  rw[h1,BitVec.xor_self,SI]
def ri(l:List Int):List (BitVec 8):=l.map (BitVec.ofInt 8)
theorem CH(l m:List Int):ri (l++m)=ri l++ri m:=ayl
theorem JW(a:BitVec 16):u16.wrap a.toNat=a.toNat:=by rw[aAi];omega
theorem aaD(n:Int):BitVec.ofInt 16 (u16.wrap n)=BitVec.ofInt 16 n:=by
 rw[aAi];apply azi;simp_all
theorem ahy(r:BitVec 16):BitVec.ofInt 16 r.toNat=r:=by
 simp_all
theorem ar0(r:BitVec 16):BitVec.ofInt 16 (r.toNat*2^1)=r<<<1:=by
 grind [BitVec.eq_of_toNat_eq,BitVec.toNat_ofInt,BitVec.toNat_shiftLeft,Nat.shiftLeft_eq]
theorem asZ(r:BitVec 16):BitVec.ofInt 16 (Int.fdiv r.toNat (2^15)*4129)=if r.msb then 0x1021#16 else 0#16:=by
 rw[awy _ (by omega),aBp];by_cases h:2^(16-1)<=r.toNat
 ·simp only[h]
  have e:(r.toNat:Int)/2^15=1:=by omega
  rw[e];decide
 ·simp only[h]
  have e:(r.toNat:Int)/2^15=0:=by omega
  rw[e];decide
theorem amz(r:BitVec 16)(i:Int)(h:i<8)(h0:0<=i):se () (r.toNat,i)= .next () (((jl r).toNat:Int),i+1):=by
 unfold se;have h1:decide (i<8)=true:=by simp_all
 have a:min ((1:Int)).toNat u16.bits=1:=rfl;have f:min ((15:Int)).toNat u16.bits=15:=rfl;rw[aA (by omega) (by omega)];have:u16.wrap ((BitVec.ofInt u16.bits (u16.wrap (r.toNat*2^1))^^^BitVec.ofInt u16.bits (u16.wrap (Int.fdiv r.toNat (2^15)*4129))).toNat:Int)=((jl r).toNat:Int):=by
  show u16.wrap (((BitVec.ofInt 16 (u16.wrap (r.toNat*2^1))^^^BitVec.ofInt 16 (u16.wrap (Int.fdiv r.toNat (2^15)*4129))).toNat:Nat):Int)=_;grind [jl,aaD,ar0,asZ,JW]
 simp_all
theorem Tc(i:Nat)(r:BitVec 16):it (i+1) r=jl (it i r):=KC i 1 r
theorem atL(r:BitVec 16):(VP () (r.toNat,0)).1=((it 8 r).toNat:Int):=by
 have:=(lh (step:=se) (k:=()) (λi=>(((it i r).toNat:Int),i)) 8 (λi hi=>⟨(),by
  grind [amz,Tc]⟩) (k':=()) (y:=(((it 8 r).toNat:Int),8)) (by
  simp_all [se]) (fuel:=Nat.succ (za () (r.toNat,0))) (by simp_all [za])).1
 exact av2 Prod.fst this
theorem A3(b:Int)(h:0<=b/\b<=255):((BitVec.ofInt 8 b).toNat:Int)=b:=by grind [BitVec.toNat_ofInt]
theorem DZ(b:BitVec 8):(hi b).toNat=b.toNat*256:=by
 unfold hi;rw[az8,aAe,aBi];omega
theorem amR(s:ByteArray)(n:Int)(r:BitVec 16)(i:Nat)(h:(i:Int)<n)(hs:n<=1000000):rT (s,n) ((r.toNat:Int),(i:Int))= .next (s,n) (((AZ r (BitVec.ofInt 8 (aO s i))).toNat:Int),((i+1:Nat):Int)):=by
 unfold rT;have h1:decide ((i:Int)<n)=true:=by simpa using h
 have a:min ((8:Int)).toNat u16.bits=8:=rfl;simp only[h1,auw,a];rw[aA (by omega) (by omega)];have hb:=ou s i;have f:BitVec.ofInt 16 (u16.wrap (aO s i)*2^8)=hi (BitVec.ofInt 8 (aO s i)):=by
  apply azi;have:=A3 _ hb;rw[DZ,aA3,aAi];omega
 have:u16.wrap ((BitVec.ofInt u16.bits (r.toNat:Int)^^^BitVec.ofInt u16.bits (u16.wrap (u16.wrap (aO s i)*2^8))).toNat:Int)=((r^^^hi (BitVec.ofInt 8 (aO s i))).toNat:Int):=by
  show u16.wrap (((BitVec.ofInt 16 (r.toNat:Int)^^^BitVec.ofInt 16 (u16.wrap (u16.wrap (aO s i)*2^8))).toNat:Nat):Int)=_;rw[ahy,aaD,f];exact JW _
 rw[this,atL];rfl
theorem NS(s:ByteArray)(i:Nat)(h:i<s.size):(av s).take (i+1)=(av s).take i++ [aO s i]:=by
 simp_all [av,ay0,af0]
def sum(s:ByteArray):BitVec 16:=crc 0xFFFF#16 (ri (av s))
theorem ary(s:ByteArray)(h:s.size<=1000000):wM s=((sum s).toNat:Int):=by
 have:=(lh (step:=rT) (k:=(s,s.size)) (λi=>(((crc 0xFFFF#16 (ri ((av s).take i))).toNat:Int),i)) s.size (λi hi=>⟨_,by
  rw[amR s _ _ _ (by omega) (by omega),NS s i hi,CH,yA];rfl⟩) (k':=(s,s.size)) (y:=(((sum s).toNat:Int),s.size)) (by
  simp_all [rT,sum,avr]) (fuel:=Nat.succ (yL (s,s.size) (65535,0))) (by simp_all [yL])).1
 exact av2 Prod.fst this
theorem XE(m n:Nat)(hm:m<2^16)(a:n<2^16):i64.wrap ((BitVec.ofInt i64.bits m^^^BitVec.ofInt i64.bits n).toNat:Int)=((m^^^n:Nat):Int):=by
 show i64.wrap (((BitVec.ofInt 64 m^^^BitVec.ofInt 64 n).toNat:Nat):Int)=_;have:=Nat.xor_lt_two_pow hm a;grind [aA]
theorem akz(r:BitVec 16):(jl r).toNat=if 32768<=r.toNat then(r.toNat*2 % 65536)^^^4129 else r.toNat*2 % 65536:=by
 unfold jl;rw[aAj,az8,aBi,aBp];grind
theorem alF(r:BitVec 16)(i:Int)(h:i<8)(h0:0<=i):sw () (r.toNat,i)= .next () (((jl r).toNat:Int),i+1):=by
 unfold sw;have h1:decide (i<8)=true:=by simp_all
 simp only[h1];rw[aA (x:=i+1) (by omega) (by omega),aA (x:=r.toNat*2) (by omega) (by omega),avq (by omega),akz];have e:r.toNat*2 % 65536=((r.toNat*2 % 65536:Nat):Int):=by omega
 by_cases h2:32768<=r.toNat
 ·have h3:decide ((r.toNat:Int)>=32768)=true:=by grind
  rw[h3,ava h2,e];simp only[auw];rw[show 4129=((4129:Nat):Int)from rfl,XE _ _ (by omega) (by omega)]
 ·have h3:decide ((r.toNat:Int)>=32768)=false:=by simp;omega
  rw[h3,au6 h2,e];rfl
theorem atE(r:BitVec 16):(Wo () (r.toNat,0)).1=((it 8 r).toNat:Int):=by
 have:=(lh (step:=sw) (k:=()) (λi=>(((it i r).toNat:Int),i)) 8 (λi hi=>⟨(),by
  grind [alF,Tc]⟩) (k':=()) (y:=(((it 8 r).toNat:Int),8)) (by
  simp_all [sw]) (fuel:=Nat.succ (zd () (r.toNat,0))) (by simp_all [zd])).1
 exact av2 Prod.fst this
theorem alm(s:ByteArray)(r:BitVec 16)(i:Nat)(h:i<s.size)(hs:s.size<=1000000):oI s (r.toNat,i)= .next s (((AZ r (BitVec.ofInt 8 (aO s i))).toNat:Int),((i+1:Nat):Int)):=by
 unfold oI;have h1:decide ((i:Int)<s.size)=true:=by simp_all
 simp only[h1];have hb:=ou s i;have hr:=r.isLt;rw[aA (x:=i+1) (by omega) (by omega),aA (x:=aO s i) (by omega) (by omega),aA (x:=aO s i*256) (by omega) (by omega)];obtain⟨c,f⟩:=awe hb.1;have e:aO s i*256=((c*256:Nat):Int):=by omega
 have a:(hi (BitVec.ofInt 8 (aO s i))).toNat=c*256:=by
  grind [DZ]
 rw[e,XE _ _ hr (by omega),<- a,<- aAj,atE];rfl
theorem aoj(s:ByteArray)(h:s.size<=1000000):xa s=((sum s).toNat:Int):=by
 have:=(lh (step:=oI) (λi=>(((crc 0xFFFF#16 (ri ((av s).take i))).toNat:Int),i)) s.size (λi hi=>⟨_,by
  rw[alm s _ _ hi (by omega),NS s i hi,CH,yA];rfl⟩) (k':=s) (y:=(((sum s).toNat:Int),s.size)) (by
  simp_all [oI,sum,avr]) (fuel:=Nat.succ (sK s (65535,0))) (by simp_all [sK])).1
 show u16.wrap (endOf oI s (Nat.succ (sK s (65535,0))) (65535,0)).1=_;rw[show(endOf oI s (Nat.succ (sK s (65535,0))) (65535,0))=(((sum s).toNat:Int),(s.size:Int))from this,JW]
def fB(s:ByteArray):ByteArray:=dq s (bw [((sum s).toNat:Int)/256,((sum s).toNat:Int) % 256])
theorem als(s:ByteArray)(h:s.size<=1000000):pk s=fB s:=by
 unfold pk fB;rw[ary s h];have hr:=(sum s).isLt;have a:min ((8:Int)).toNat u16.bits=8:=rfl;rw[a,awy _ (by omega),av1,av1];grind
theorem UC(s:ByteArray)(h:s.size<=1000000):AT s=fB s:=by
 unfold AT fB;rw[aoj s h];have hr:=(sum s).isLt;rw[axj (by omega),avq (by omega),aAi,av1,av1];grind
theorem yo(s:ByteArray):av (fB s)=av s++ [((sum s).toNat:Int)/256,((sum s).toNat:Int) % 256]:=by
 unfold fB;have hr:=(sum s).isLt;rw[IZ,nk _ (λx a=>by
  grind)]
theorem He(s:ByteArray):(fB s).size=s.size+2:=by simp_all [fB]
theorem as2(r:BitVec 16):r=hi (BitVec.ofInt 8 ((r.toNat:Int)/256))^^^lo (BitVec.ofInt 8 ((r.toNat:Int) % 256)):=by
 have hr:=r.isLt;apply azi;have h1:=A3 ((r.toNat:Int)/256) (by omega);have h2:=A3 ((r.toNat:Int) % 256) (by omega);have h3:(lo (BitVec.ofInt 8 ((r.toNat:Int) % 256))).toNat=(BitVec.ofInt 8 ((r.toNat:Int) % 256)).toNat:=by
  unfold lo;rw[aAe];exact azp (by omega)
 rw[aAj,DZ,h3];generalize(BitVec.ofInt 8 ((r.toNat:Int)/256)).toNat=a at h1;generalize(BitVec.ofInt 8 ((r.toNat:Int) % 256)).toNat=b at h2;have hb:b<2^8:=by omega
 have:a*256^^^b=a*256+b:=by
  have h:=azh hb a;rw[aze]at h;have f:a*2^8^^^b=a*2^8|||b:=by
   apply aAm;intro i;rw[Nat.testBit_xor,Nat.testBit_or,az3];rcases axe i 8 with hi|hi
   ·simp[show¬ 8<=i by omega]
   ·rw[ayo (au5 hb (axu (by omega) hi))]
    simp
  rw[f];exact h.symm
 rw[this];omega
theorem P6(s:ByteArray):sum (fB s)=0#16:=by
 unfold sum;rw[yo,CH,yA];exact(Q0 _ _ _).2 (as2 (sum s))
theorem aiM(l:List Int)(h:2<=l.length): ∃a b,l=l.take (l.length-2)++ [a,b]:=by
 refine⟨l[l.length-2],l[l.length-1],?_⟩;conv=>lhs;rw[<- awi (l.length-2) l]
 rw[av5 (by omega),av5 (by omega),azb (by omega)];grind
theorem yf(s:ByteArray)(h:2<=s.size):fB (s.extract 0 (s.size-2))=s↔sum s=0#16:=by
 constructor
 ·grind [P6]
 ·intro h1
  apply yQ;rw[yo];obtain⟨a,b,e⟩:=aiM (av s) (by simpa using h);have f:av (s.extract 0 (s.size-2))=(av s).take ((av s).length-2):=by rw[pM,lx];simp
  have hm:=λx f=>si s x (by rw[e];simp only[aww];exact Or.inr f)
  have g:=hm a (by simp);have hb:=hm b (by simp);unfold sum at h1;rw[e,CH,yA]at h1;have h2:=(Q0 _ _ _).1 h1;have h4:sum (s.extract 0 (s.size-2))=crc 0xFFFF#16 (ri ((av s).take ((av s).length-2))):=by unfold sum;rw[f]
  rw[f,h4];conv=>rhs;rw[e]
  have h5:(crc 0xFFFF#16 (ri ((av s).take ((av s).length-2)))).toNat=(BitVec.ofInt 8 a).toNat*256+(BitVec.ofInt 8 b).toNat:=by
   have j: ∀(x y:BitVec 8),(hi x^^^lo y).toNat=x.toNat*256+y.toNat:=by
    intro x y;have h3:(lo y).toNat=y.toNat:=by
     unfold lo;rw[aAe];exact azp (by omega)
    rw[aAj,DZ,h3];have hb:=y.isLt;have h:=azh hb x.toNat;rw[aze]at h;have f:x.toNat*2^8^^^y.toNat=x.toNat*2^8|||y.toNat:=by
     apply aAm;intro i;rw[Nat.testBit_xor,Nat.testBit_or,az3];rcases axe i 8 with hi|hi
     ·simp[show¬ 8<=i by omega]
     ·rw[ayo (au5 hb (axu (by omega) hi))]
      simp
    have f:=f;rw[f];exact h.symm
   have h2:=h2;rw[h2,j]
  have h6:=A3 a g;have h7:=A3 b hb;rw[h5];have k:((((BitVec.ofInt 8 a).toNat*256+(BitVec.ofInt 8 b).toNat:Nat):Int))=a*256+b:=by omega
  rw[k,show(a*256+b)/256=a by omega,show(a*256+b) % 256=b by omega]
theorem IE(s:ByteArray)(h:s.size<=1000000):FZ s=if s.size<2 then(ByteArray.empty,4)else if sum s=0#16 then(s.extract 0 (s.size-2),0)else(ByteArray.empty,5):=by
 unfold FZ;have e:i64.wrap (s.size-2)=s.size-2:=aA (by omega) (by omega);by_cases h1:s.size<2
 ·rw[ava h1]
  have:decide ((s.size:Int)<2)=true:=by simp;omega
  rw[this];rfl
 ·rw[au6 h1]
  have:decide ((s.size:Int)<2)=false:=by simp;omega
  rw[this];have a:Int.toNat (s.size-2)=s.size-2:=by omega
  simp only[e,a,Int.toNat_zero];rw[UC _ (by rw[extract_size];omega)];by_cases h2:sum s=0#16
  ·rw[ava h2,(yf s (by omega)).2 h2,Hc];rfl
  ·rw[au6 h2]
   have:jz (fB (s.extract 0 (s.size-2))) s=false:=by
    cases h3:jz (fB (s.extract 0 (s.size-2))) s with
    |false=>rfl
    |true=>exact absurd ((yf s (by omega)).1 ((BI _ _).1 h3)) h2
   rw[this];rfl
theorem ait(s:ByteArray)(h:s.size<=1000000):jG s=FZ s:=by
 rw[Qz s h,IE s h];by_cases h1:s.size<2
 ·simp_all
 ·rw[au6 h1,au6 h1,als _ (by grind [extract_size])]
  by_cases h2:sum s=0#16
  ·rw[ava h2,ava ((yf s (by omega)).2 h2)]
  ·rw[au6 h2,au6 (λh3=>h2 ((yf s (by omega)).1 h3))]
instance(b:ab):Decidable (aK b):=decidable_of_iff (tQ b=0) (jS b)
theorem Ha(b:ab)(hl:b.aL.length<=maxLen):(ca b !=0)=decide (¬ aK b):=by
 grind [kB,jS]
theorem Bc(b:ab)(hl:b.aL.length<=maxLen):(mP b !=0)=decide (¬ aK b):=by
 rw[PD b hl,<- kB b hl];exact Ha b hl
def sy(fl f d:Int):Bool:=((d==1)&&(decide (0<=f)&&decide (f<=fl-2)))||((d==2)&&(decide (1<=f)&&decide (f<=fl-1)))
theorem ON(b:ab)(f d:Int)(hl:b.aL.length<=maxLen):tT (b,f,d)=(decide (aK b)&&sy b.1 f d):=by
 unfold tT;simp only[Bc b hl];by_cases a:aK b
 ·have h1:=a.fl
  simp only[a,avn,not_true,av4,axs,aur];unfold sy;simp only[EP];rw[aA (by omega) (by omega),aA (by omega) (by omega)]
 ·simp[a]
def mr(fl:Int):af:=
 ((u32.wrap ((u32.wrap (1*2^(min ((i64.wrap (fl-1))).toNat u32.bits)))-1)),(u32.wrap ((u32.wrap ((u32.wrap (1*2^(min ((i64.wrap (fl-1))).toNat u32.bits)))-1))*2^(min ((1:Int)).toNat u32.bits))))
theorem RC(b:ab)(hl:b.aL.length<=maxLen):dB b=if aK b then mr b.1 else(0,0):=by
 simp_all [dB,mr,Ha]
def fC(fl:Int)(x:ay):an Unit (ay) (af):=
 bif(decide (x.1<32))then
  (bif sy fl x.1 1 then
   (bif sy fl x.1 2 then
    an.next () ((i64.wrap (x.1+1)),(u32.wrap ((BitVec.ofInt u32.bits x.2.1|||BitVec.ofInt u32.bits (u32.wrap (1*2^(min ((u64.wrap x.1)).toNat u32.bits)))).toNat:Int)),(u32.wrap ((BitVec.ofInt u32.bits x.2.2|||BitVec.ofInt u32.bits (u32.wrap (1*2^(min ((u64.wrap x.1)).toNat u32.bits)))).toNat:Int)))
   else
    an.next () ((i64.wrap (x.1+1)),(u32.wrap ((BitVec.ofInt u32.bits x.2.1|||BitVec.ofInt u32.bits (u32.wrap (1*2^(min ((u64.wrap x.1)).toNat u32.bits)))).toNat:Int)),x.2.2))
  else
   bif sy fl x.1 2 then
    an.next () ((i64.wrap (x.1+1)),x.2.1,(u32.wrap ((BitVec.ofInt u32.bits x.2.2|||BitVec.ofInt u32.bits (u32.wrap (1*2^(min ((u64.wrap x.1)).toNat u32.bits)))).toNat:Int)))
   else
    an.next () ((i64.wrap (x.1+1)),x.2))
 else
  an.brk () x
theorem ahd:(List.range 31).all (λn=>(endOf (λ_=>fC (n+2)) () 33 (0,0,0)).2==mr (n+2))=true:=by kernel_rfl
theorem aiI{fl:Int}(h:2<=fl/\fl<=32):(endOf (λ_=>fC fl) () 33 (0,0,0)).2=mr fl:=by
 have:=List.all_eq_true.1 ahd (fl-2).toNat (by grind);grind
theorem Cj(b:ab)(hl:b.aL.length<=maxLen):eL b=if aK b then mr b.1 else(0,0):=by
 by_cases a:aK b
 ·rw[ava a,<- aiI a.fl]
  refine av2 Prod.snd (loop_sim (λx y=>x=y) (λx y h=> ?_) 33 _ _ rfl).1;subst h;simp only[vx,fC,ON _ _ _ hl,a];cases decide (x.1<32)<;>cases sy b.1 x.1 1<;>cases sy b.1 x.1 2<;>rfl
 ·rw[au6 a]
  have:=na (step:=vx) (k:=b) (λx=>0<=x.1/\x.2=(0,0)) (zj b) (λo y=>y.2=(0,0)) (λx f=> ?_) _ (0,0,0) ⟨by simp,rfl⟩ (aAk _)
  ·exact this
  ·simp only[vx,ON _ _ _ hl,a]
   by_cases h1:x.1<32
   ·simp only[h1]
    rw[aA (by omega) (by omega)];refine⟨⟨by omega,f.2⟩,?_⟩;simp only[zj];omega
   ·simp only[h1];exact f.2
def iu(b:ab)(c:af):Bool:=pE (b,c)
theorem aer(b:ab)(c:af)(hl:b.aL.length<=maxLen):AA (b,c)=iu b c:=by
 simp_all [AA,iu,pE,RC,Cj]
def fV(n lo hi:Int):Bool:=decide (lo<=n)&&decide (n<=hi)
theorem VU(n lo hi:Int):rk (n,lo,hi)=fV n lo hi:=rfl
def gI(b:ab)(n:Int):Bool:=n/2^b.1.toNat==0
def iV(n:Int):Prop:=0<=n/\n<=4294967295
theorem Sq{b:ab}(a:aK b){n:Int}(f:iV n):A6 (b,n)=gI b n:=by
 have h:=a.fl;unfold A6 gI iV at*;have g:u64.wrap n=n:=by grind [IntKind.wrap_u64]
 have i:u64.wrap b.1=b.1:=by grind [IntKind.wrap_u64]
 have j:min (b.1.toNat) u64.bits=b.1.toNat:=by show min (b.1.toNat) 64=b.1.toNat;omega
 grind
theorem akD{b:ab}(a:aK b)(n:Int):(Int.fdiv n (2^(min (b.1).toNat u32.bits))==0)=gI b n:=by
 have h:=a.fl;unfold gI;have f:min (b.1.toNat) u32.bits=b.1.toNat:=by show min (b.1.toNat) 32=b.1.toNat;omega
 grind
def nt(b:ab)(c:eG):Bool:=gI b c.1.1&&gI b c.2.2.1&&fV c.2.1.1 0 (b.1-1)&&fV c.2.1.2.2.1 0 2
def qF(c:eG):Prop:=iV c.1.1/\iV c.2.2.1
def gB(b:ab)(x:bA):Bool:=iu b x.1&&fV x.2.1.1 0 8&&fV x.2.1.2 0 (b.2.2.2.2.2.2.2.length-1)&& !((x.2.1.1==0)&&(x.2.1.2 !=0))&&((x.2.2.length:Int)==b.2.2.2.2.2.2.2.length)&&x.2.2.all (nt b)
theorem ahu{K α:Type} [Inhabited α]{st:K->Int->an K Int Bool}{k:K}(l:List α)(p:α->Bool)(hl:l.length<=maxLen)
  (f: ∀i:Nat,i<l.length->st k i=bif p (aa l i)then .next k (i64.wrap (i+1))else .ret false) (hb:st k l.length= .brk k l.length) {fuel:Nat} (g:l.length<fuel):
  dJ (bj st k fuel 0) (λy=>y) true=l.all p:=by
 rw[<- GL,<- NP l];have:=ret_row (λi=>(i:Int)) (λi=>(λc=>if p c=true then none else some false) (aa l i)) l.length (λi hi=> ?_) hb g
 ·simp_all
 ·rw[f i hi]
  by_cases a:p (aa l i)=true
  ·simp only[a,auw]
   exact⟨k,by rw[pQ hi hl]⟩
  ·simp only[a,azj,awd,aur]
theorem aks{b:ab}(a:aK b)(x:bA)(hl:x.2.2.length<=maxLen)(g: ∀c∈x.2.2,qF c):dJ (L4 (b,x) (0:Int)) (λy=>y) true=x.2.2.all (nt b):=by
 have h:=a.fl;unfold L4;refine ahu x.2.2 _ hl (λi hi=> ?_) ?_ (by unfold DD;simp only;omega)
 ·unfold zy
  have h1:decide ((i:Int)<(x.2.2.length:Int))=true:=by simp;omega
  have f:=g (aa x.2.2 (i:Int)) (by rw[bH _ i hi];exact axn _);simp only[h1,auw,Sq a f.1,Sq a f.2,VU];rw[aA (x:=b.1-1) (by omega) (by omega)];unfold nt;cases gI b (aa x.2.2 (i:Int)).1.1<;>cases gI b (aa x.2.2 (i:Int)).2.2.1<;>cases fV (aa x.2.2 (i:Int)).2.1.1 0 (b.1-1)<;>cases fV (aa x.2.2 (i:Int)).2.1.2.2.1 0 2<;>rfl
 ·unfold zy
  simp
theorem ahq{b:ab}(a:aK b)(g:b.aL.length<=maxLen)(x:bA)(hl:x.2.2.length<=maxLen)(h: ∀c∈x.2.2,qF c):qV (b,x)=gB b x:=by
 have f:=a.cn;have f:1<=b.2.2.2.2.2.2.2.length/\b.2.2.2.2.2.2.2.length<=8:=f;unfold qV gB;simp only[Bc b g,a,not_true,av4,Bool.false_or,VU];rw[aks a _ hl h,aA (x:=(b.2.2.2.2.2.2.2.length:Int)-1) (by omega) (by omega),show((x.2.2.length:Int) !=(b.2.2.2.2.2.2.2.length:Int))= !((x.2.2.length:Int)==(b.2.2.2.2.2.2.2.length:Int))from rfl];unfold iu;generalize pE (b,x.1)=i;generalize fV x.2.1.1 0 8=j;generalize fV x.2.1.2 0 ((b.2.2.2.2.2.2.2.length:Int)-1)=k;generalize((x.2.1.1==0)&&(x.2.1.2 !=0))=l;generalize((x.2.2.length:Int)==(b.2.2.2.2.2.2.2.length:Int))=m;generalize x.2.2.all (nt b)=o;revert i j k l m o
 decide
theorem ahv{b:ab}(a: ¬ aK b)(f:b.aL.length<=maxLen)(x:bA):qV (b,x)=false:=by
 simp_all [qV,Bc]
theorem agW{K α ρ:Type} [Inhabited α]{st:K->(eb)->an K (eb) ρ}{k:K}(f:α->List Int)(xs:List α)(hl:xs.length<=1000)
  (g: ∀(i:Nat) l,i<xs.length->st k (bw l,(i:Int))= .next k (bw (l++f (aa xs i)),((i+1:Nat):Int))) (hb: ∀l,st k (bw l,(xs.length:Int))= .brk k (bw l,(xs.length:Int))) (row:List Int) {fuel:Nat} (a:xs.length<fuel):
  (endOf st k fuel (bw row,(0:Int))).1=bw (row++xs.flatMap f):=by
 have:=(lh (step:=st) (k:=k) (λi=>(bw (row++(xs.take i).flatMap f),(i:Int))) xs.length (λi hi=>⟨k,by
  grind [List.append_assoc,List.take_add_one,bH]⟩) (k':=k) (y:=(bw (row++xs.flatMap f),(xs.length:Int))) (by
  simp_all) a).1
 simp_all
theorem ah3(x:bA)(hl:x.2.2.length<=1000)(row:List Int):(vV x (bw row,0)).1=bw (row++x.2.2.flatMap gP):=by
 refine agW gP x.2.2 hl (λi l hi=> ?_) (λl=> ?_) row (by simp_all [vv])
 ·unfold qk
  have h1:decide ((i:Int)<x.2.2.length)=true:=by simp;omega
  simp only[h1,oZ,py,tu,vG,JE];rw[aA (by omega) (by omega)];simp only[avb];rfl
 ·unfold qk
  simp
abbrev dD(b:ab):Int:=(b.2.2.2.2.2.2.2.length:Int)
theorem amE{b:ab}(a:aK b):le (u64.wrap (dD b)) 1= [dD b]/\u8.wrap (dD b)=dD b:=by
 have h1:=a.cn;simp only[le,av1,avu];grind
def jW(b:ab)(x:bA):eb:=bif decide (aK b)&&gB b x then(fB (bw (gO (dD b) x)),0)else(ByteArray.empty,1)
theorem alg:le 165 1= [165]:=rfl
theorem KQ(b:ab)(f:b.aL.length<=maxLen)(x:bA)(hl:x.2.2.length<=30)(g: ∀c∈x.2.2,qF c):gV (b,x)=jW b x:=by
 unfold gV jW;by_cases a:aK b
 ·rw[ahq a f x (by grind [maxLen]) g]
  have e:(zN (b,x)).1=bw (gO (dD b) x):=by
   unfold zN;simp only[oZ,ub,JE];rw[ah3 x (by omega),(amE a).1,alg];unfold gO;simp only[awz,awv]
  rw[e,UC _ (by rw[jq,xK];omega)];simp only[a,avn];cases gB b x<;>rfl
 ·rw[ahv a f]
  simp[a];rfl
def fU(b:ab)(s:ByteArray)(z a:Int):Int:=
 if¬ aK b then 1 else if s.size≠z then 4 else if aO s 0≠a\/aO s 1≠dD b then 30 else if sum s≠0#16 then 5 else 0
theorem Ry(b:ab)(h:b.aL.length<=maxLen)(s:ByteArray)(z a:Int)(g:aK b->14<=z/\z<=99000):Gw (b,s,z,a)=fU b s z a:=by
 unfold Gw fU;have i:=ou s 0;have j:=ou s 1;rw[Bc b h,aA (x:=aO s 0) (by omega) (by omega),aA (x:=aO s 1) (by omega) (by omega)];by_cases f:aK b
 ·rw[au6 (by simp_all)]
  have g:=g f;simp only[f,not_true,av4];by_cases h2:s.size=z
  ·rw[au6 (by simpa using h2),show(s.size !=z)=false by simpa using h2]
   by_cases h3:aO s 0≠a\/aO s 1≠dD b
   ·rw[ava h3,show((aO s 0 !=a)||(aO s 1 !=b.2.2.2.2.2.2.2.length))=true by rw[av9,axq,axq];exact h3]
    rfl
   ·rw[au6 h3,show((aO s 0 !=a)||(aO s 1 !=b.2.2.2.2.2.2.2.length))=false by
     rw[Bool.eq_false_iff];intro h4;rw[av9,axq,axq]at h4;exact h3 h4]
    simp only[aur];rw[IE s (by omega),au6 (by omega)];by_cases h5:sum s=0#16
    ·rw[ava h5,au6 (by simpa using h5)]
    ·rw[au6 h5,ava h5]
  ·rw[ava h2,show(s.size !=z)=true by simpa using h2]
   rfl
 ·simp[f]
theorem JY{b:ab}{s:ByteArray}{z a:Int}(h:fU b s z a=0):aK b/\s.size=z/\aO s 0=a/\aO s 1=dD b/\sum s=0#16:=by
 unfold fU at h;grind
def mid(s:ByteArray):ByteArray:=(s.extract 0 (s.size-2)).extract 2 (s.size-2)
theorem TI(b:ab)(h:b.aL.length<=maxLen)(s:ByteArray)(z a:Int)(g:aK b->14<=z/\z<=99000):hU (b,s,z,a)=if fU b s z a=0 then(some (mid s,b),0)else(none,fU b s z a):=by
 unfold hU;have i:=ou s 1;rw[Ha b h,aA (x:=aO s 1) (by omega) (by omega)];unfold fU;by_cases f:aK b
 ·rw[au6 (show¬ ¬ aK b by simp_all)]
  have g:=g f;simp only[f,not_true,av4,aur];by_cases h2:s.size=z
  ·rw[au6 (show¬ s.size≠z by simpa using h2),show(s.size !=z)=false by simpa using h2]
   simp only[aur];by_cases h3:aO s 0≠a\/aO s 1≠dD b
   ·rw[ava h3,show((aO s 0 !=a)||(aO s 1 !=b.2.2.2.2.2.2.2.length))=true by rw[av9,axq,axq];exact h3]
    rfl
   ·rw[au6 h3,show((aO s 0 !=a)||(aO s 1 !=b.2.2.2.2.2.2.2.length))=false by
     rw[Bool.eq_false_iff];intro h4;rw[av9,axq,axq]at h4;exact h3 h4]
    simp only[aur];rw[ait s (by omega),IE s (by omega),au6 (by omega)];by_cases h5:sum s=0#16
    ·rw[ava h5,au6 (show¬ sum s≠0#16 by simpa using h5)]
     simp only[azk];show(some (((s.extract 0 (s.size-2)).extract (Int.toNat 2) (Int.toNat ((s.extract 0 (s.size-2)).size:Int))),b),0)=_;rw[extract_size,show Int.toNat ((min (s.size-2) s.size-0:Nat):Int)=s.size-2 by omega];rfl
    ·rw[au6 h5,ava h5]
     rfl
  ·rw[ava h2,show(s.size !=z)=true by simpa using h2]
   rfl
 ·rw[ava f]
  simp[f]
def cU(v:Int)(k:Int):Bool:=(u8.wrap ((BitVec.ofInt u8.bits (Int.fdiv v (2^(min ((u64.wrap k)).toNat u8.bits)))&&&BitVec.ofInt u8.bits 1).toNat:Int))==1
theorem ajX(s:ByteArray)(a k:Int):tR (s,a,k)=cU (aO s a) k:=rfl
def gl(c v:Int):List Bool:=(Kb (v,((aC aw c).length:Int)) (aC aw c,0)).1
theorem ajy:(List.range 256).all (λv=>gl 6 v== [cU v 0,cU v 1,cU v 2,cU v 3,cU v 4,cU v 5])=true:=by kernel_rfl
theorem ako:(List.range 256).all (λv=>gH [cU v 0,cU v 1,cU v 2,cU v 3,cU v 4,cU v 5]==v % 64)=true:=by kernel_rfl
theorem Q6{p:Nat->Bool}(h:(List.range 256).all p=true){v:Int}(h0:0<=v)(h1:v<=255):p v.toNat=true:=List.all_eq_true.1 h _ (by grind)
theorem gl6{v:Int}(h:0<=v/\v<=255):gl 6 v= [cU v 0,cU v 1,cU v 2,cU v 3,cU v 4,cU v 5]:=by
 have:=Q6 ajy h.1 h.2;grind
theorem fl6{v:Int}(h:0<=v/\v<=255):gH [cU v 0,cU v 1,cU v 2,cU v 3,cU v 4,cU v 5]=v % 64:=by
 have:=Q6 ako h.1 h.2;grind
theorem asn: ∀a b c d e f:Bool,(0<=gH [a,b,c,d,e,f]/\gH [a,b,c,d,e,f]<=63)/\cU (gH [a,b,c,d,e,f]) 0=a/\cU (gH [a,b,c,d,e,f]) 1=b/\cU (gH [a,b,c,d,e,f]) 2=c/\cU (gH [a,b,c,d,e,f]) 3=d/\cU (gH [a,b,c,d,e,f]) 4=e/\cU (gH [a,b,c,d,e,f]) 5=f:=by decide+kernel
def n4(l:List Int)(k:Nat):Int:=vle ((l.drop k).take 4)
theorem HT{l:List Int}(h:cr l)(k:Nat):cr (l.take k):=λx a=>h x (awg a)
theorem jU{l:List Int}(h:cr l)(k:Nat):cr (l.drop k):=λx a=>h x (awx a)
theorem iK{l:List Int}(h:cr l)(k:Nat):0<=l.getD k 0/\l.getD k 0<=255:=by
 rcases axe k l.length with h1|h1
 ·rw[au9,avc h1]
  exact h _ (axn h1)
 ·rw[au9,ays h1]
  simp
theorem sD{l:List Int}(h:cr l)(k:Nat):iV (n4 l k):=by
 obtain⟨h1,h2⟩:=I8 _ (HT (jU h k) 4);have h3:((l.drop k).take 4).length<=4:=by grind
 have h4:256^((l.drop k).take 4).length<=256^4:=by
  generalize((l.drop k).take 4).length=m at h3;have:m=0\/m=1\/m=2\/m=3\/m=4:=by omega
  grind
 grind [iV,n4]
theorem jY(s:ByteArray):cr (av s):=si s
theorem uZ(r:gn)(k:Nat):av (eh r k).1=(av r.1).drop k:=by
 simp_all [eh,pM,avr]
theorem aaU(r:gn)(hs:4<=r.1.size):(fp (4,r)).1=n4 (av r.1) 0:=JP 4 r (by omega) hs
theorem asL(r:gn)(hs:1<=r.1.size):(fp (1,r)).1=(av r.1).getD 0 0:=by
 have:=JP 1 r (by omega) hs;rw[show((1:Nat):Int)=1 from rfl]at this;rw[this];have hl:(av r.1).length=r.1.size:=lx _;cases h:av r.1 with
 |nil=>grind
 |cons a l=>simp[vle]
theorem Gs{n:Int}(h:iV n):u32.wrap n=n:=by grind [iV,IntKind.wrap_u32]
theorem Ve(r:gn)(a:aK r.2)(hs:4<=r.1.size):(aV r).1= !gI r.2 (n4 (av r.1) 0)/\(gI r.2 (n4 (av r.1) 0)=true->(aV r).2.1=n4 (av r.1) 0):=by
 unfold aV jA;rw[aaU r hs,Gs (sD (jY _) 0)];have e:(Int.fdiv (n4 (av r.1) 0) (2^(min ((fp (4,r)).2.2.1).toNat u32.bits))==0)=gI r.2 (n4 (av r.1) 0):=akD a _;grind
theorem num_1(m:Int)(r:gn)(hs:1<=r.1.size):(aY (m,r)).1= !decide ((av r.1).getD 0 0<=m)/\((av r.1).getD 0 0<=m->(aY (m,r)).2.1=(av r.1).getD 0 0):=by
 have hb:=iK (jY r.1) 0;unfold aY jA;rw[asL r hs,aA (by omega) (by omega)];grind
theorem ajb(r:gn)(hl:(ab.aL r.2).length<=maxLen)(hs:8<=r.1.size):(cK r).1= !iu r.2 (n4 (av r.1) 0,n4 (av r.1) 4)/\(iu r.2 (n4 (av r.1) 0,n4 (av r.1) 4)=true->(cK r).2.1=(n4 (av r.1) 0,n4 (av r.1) 4)):=by
 unfold cK jA;rw[sH,sH,qb];grind [n4,av,eh,iu,uZ,aaU,rR,Gs,sD,jY,nN,aer]
theorem akP(c m:Int)(r:gn)(hm:(i64.wrap ((i64.wrap (1*2^(min (c).toNat i64.bits)))-1))=m)(hs:1<=r.1.size):(bl (c,r)).1= !decide ((av r.1).getD 0 0<=m)/\((av r.1).getD 0 0<=m->(bl (c,r)).2.1=gl c ((av r.1).getD 0 0)):=by
 unfold bl;rw[hm];obtain⟨h1,h2⟩:=num_1 m r hs;rw[h1];by_cases h:(av r.1).getD 0 0<=m
 ·rw[h2 h]
  simp only[h,avn,avw,aur,azc];exact λ_=>rfl
 ·simp only[h,av4,ayb,auw,ay3,aAp]
theorem m6:(i64.wrap ((i64.wrap (1*2^(min (6:Int).toNat i64.bits)))-1))=63:=by kernel_rfl
theorem m3:(i64.wrap ((i64.wrap (1*2^(min (3:Int).toNat i64.bits)))-1))=7:=by kernel_rfl
theorem m2:(i64.wrap ((i64.wrap (1*2^(min (2:Int).toNat i64.bits)))-1))=3:=by kernel_rfl
theorem getD_drop(l:List Int)(a k:Nat):(l.drop a).getD k 0=l.getD (a+k) 0:=by
 simp_all
theorem IY(l:List Int)(a k:Nat):n4 (l.drop a) k=n4 l (a+k):=by simp_all [n4]
def ga(l:List Int):eG:=
 ((n4 l 0,cU (l.getD 4 0) 0,cU (l.getD 4 0) 1,cU (l.getD 4 0) 2,cU (l.getD 4 0) 3),(l.getD 5 0,cU (l.getD 4 0) 4,l.getD 6 0,cU (l.getD 4 0) 5),n4 l 7,(vle ((l.drop 11).take 8)).toNat)
def jt(b:ab)(l:List Int):Bool:=gI b (n4 l 0)&&decide (l.getD 4 0<=63)&&decide (l.getD 5 0<=b.1-1)&&decide (l.getD 6 0<=2)&&gI b (n4 l 7)
theorem sz{r:gn}{k n:Nat}(h:k+n<=r.1.size):n<=(eh r k).1.size:=by grind [rR]
theorem aqA(k i:Int)(r:gn)(j:aK r.2)(x:bA)(e:Int)(hs:19<=r.1.size)(h0:0<=i)(h:i<k)(t:k<=8):
  (jt r.2 (av r.1)=true->jX k (i,r,x,e)= .next k (i+1,eh r 19,(x.1,x.2.1,x.2.2++ [ga (av r.1)]),e))/\
  (jt r.2 (av r.1)=false-> ∃y,jX k (i,r,x,e)= .ret y):=by
 have u:=j.fl;have hi:decide (i<k)=true:=by simp_all
 obtain⟨b1,m⟩:=Ve r j (by omega);obtain⟨f1,f2⟩:=akP 6 63 (eh r 4) m6 (sz (by omega));obtain⟨n1,l⟩:=num_1 (r.2.1-1) (eh r 5) (sz (by omega));obtain⟨d1,d2⟩:=num_1 2 (eh r 6) (sz (by omega));obtain⟨c1,c2⟩:=Ve (eh r 7) j (sz (by omega));have o:(fp (8,eh r 11)).1=vle (((av r.1).drop 11).take 8):=by
  rw[<- uZ];exact JP 8 (eh r 11) (by omega) (sz (by omega))
 have s:=iK (jY r.1) 4;simp only[uZ,getD_drop,IY,nN,awr]at f1 f2 n1 l d1 d2 c1 c2;unfold jX HX;simp only[hi,auw,C1,Cc,vC,sH,qb,nN,Nat.reduceAdd];rw[aA (by omega) (by omega),aA (by omega) (by omega)];simp only[b1,f1,n1,d1,c1];unfold jt;cases g1:gI r.2 (n4 (av r.1) 0)with
 |false=>exact⟨λh=>by simp at h,λ_=>⟨_,rfl⟩⟩
 |true=>
  rw[m g1];by_cases a:(av r.1).getD 4 0<=63
  ·rw[f2 a,gl6 s]
   by_cases f:(av r.1).getD 5 0<=r.2.1-1
   ·rw[l f]
    by_cases g:(av r.1).getD 6 0<=2
    ·rw[d2 g]
     cases g5:gI r.2 (n4 (av r.1) 7)with
     |false=>
      simp only[a,f,g,avn,avw,ayb,auw,aur,ayc,awd,ay3,azc,azy];exact⟨_,rfl⟩
     |true=>
      rw[c2 g5,o];simp only[a,f,g,avn,avw,aur,az2,azd,ay3,aAp,azy];rfl
    ·simp only[a,f,g,avn,av4,avw,ayb,auw,aur,ayc,ayv,awd,ay3,azc,azy]
     exact⟨_,rfl⟩
   ·simp only[a,f,avn,av4,avw,ayb,auw,aur,ayc,ayv,awd,ay3,azc,azy]
    exact⟨_,rfl⟩
  ·simp only[a,avn,av4,avw,ayb,auw,aur,ayc,ayv,awd,ay3,azc,azy]
   exact⟨_,rfl⟩
theorem alN(n:Nat)(o:n<=8)(r:gn)(l:aK r.2)(x:bA)(m:x.2.2= [])(e:Int)(hs:r.1.size=19*n):
  ((∀i,i<n->jt r.2 ((av r.1).drop (19*i))=true)->zD (n:Int) ((0:Int),r,x,e)=none/\(Ky (n:Int) ((0:Int),r,x,e)).2.2=((x.1,x.2.1,(List.range n).map λi=>ga ((av r.1).drop (19*i))),e))/\
  (∀i,i<n->jt r.2 ((av r.1).drop (19*i))=false-> ∃y,zD (n:Int) ((0:Int),r,x,e)=some y):=by
 let s:Nat->Int×gn×bA×Int:=λi=>((i:Int),eh r (19*i),(x.1,x.2.1,(List.range i).map λi=>ga ((av r.1).drop (19*i))),e)
 have g:s 0=((0:Int),r,x,e):=by
  show((0:Int),eh r 0,(x.1,x.2.1,[]),e)=_;rw[<- m];congr 2
  unfold eh;congr 1
  apply yQ;simp_all [pM,avr]
 have a: ∀i,i<n->(jt r.2 ((av r.1).drop (19*i))=true->jX (n:Int) (s i)= .next (n:Int) (s (i+1)))/\(jt r.2 ((av r.1).drop (19*i))=false-> ∃y,jX (n:Int) (s i)= .ret y):=by
  intro i hi;have:=aqA (n:Int) (i:Int) (eh r (19*i)) l (x.1,x.2.1,(List.range i).map λi=>ga ((av r.1).drop (19*i))) e (by grind [rR]) (by omega) (by omega) (by omega);grind [eh,List.range,ga,av,uZ,nN,qb,List.range_succ]
 have h:jX (n:Int) (s n)= .brk (n:Int) (s n):=by
  unfold jX;have:=by show decide ((n:Int)<(n:Int))=false;simp
  rw[this];rfl
 constructor
 ·intro f
  have:=lh s n (λi hi=>⟨_,(a i hi).1 (f i hi)⟩) h (fuel:=Nat.succ (oG (n:Int) ((0:Int),r,x,e))) (by unfold oG;simp only;omega);rw[g]at this;refine⟨this.2,?_⟩;unfold Ky;rw[this.1]
 ·intro i hi hb
  have:=ret_row s (λi=>bj jX (n:Int) 1 (s i)) n (λj k=>by
   cases f:jt r.2 ((av r.1).drop (19*j))with
   |true=>
    have h1:=(a j k).1 f;simp only[bj,h1];exact⟨_,rfl⟩
   |false=>
    obtain⟨y,h1⟩:=(a j k).2 f;simp only[bj,h1]) h (fuel:=Nat.succ (oG (n:Int) ((0:Int),r,x,e))) (by unfold oG;simp only;omega)
  rw[g]at this;unfold zD;rw[this];cases hf:(List.range n).findSome? (λi=>bj jX (n:Int) 1 (s i))with
  |some y=>exact⟨y,rfl⟩
  |none=>
   have h2:=List.findSome?_eq_none_iff.1 hf i (by simpa using hi);obtain⟨y,h1⟩:=(a i hi).2 hb;simp only[bj,h1]at h2;cases h2
abbrev nc(b:ab):Nat:=b.2.2.2.2.2.2.2.length
theorem yv{b:ab}(a:aK b):0<=dD b/\dD b<=255/\nc b<=8:=by
 have f:=a.cn;grind
def fm(n:Nat)(l:List Int):bA:=((n4 l 0,n4 l 4),(l.getD 8 0,l.getD 9 0),(List.range n).map λi=>ga (l.drop (10+19*i)))
def jb(b:ab)(l:List Int):Bool:=iu b (n4 l 0,n4 l 4)&&decide (l.getD 8 0<=8)&&decide (l.getD 9 0<=dD b-1)&&((l.getD 8 0 !=0)||(l.getD 9 0==0))&&(List.range (nc b)).all λi=>jt b (l.drop (10+19*i))
theorem alY(r:gn)(l:aK r.2)(hl:(ab.aL r.2).length<=maxLen)(hs:r.1.size=10+19*nc r.2):
  (jb r.2 (av r.1)=true->(qH r).1=(fm (nc r.2) (av r.1),0))/\(jb r.2 (av r.1)=false->(qH r).1.2=31):=by
 have j:=l.cn;have j:=j;obtain⟨t,u⟩:=ajb r hl (by omega);obtain⟨m,o⟩:=num_1 8 (eh r 8) (sz (by omega));obtain⟨c1,c2⟩:=num_1 ((nc r.2:Int)-1) (eh r 9) (sz (by omega));simp only[uZ,getD_drop,nN,awr]at m o c1 c2;have hw:i64.wrap (r.2.2.2.2.2.2.2.2.length-1)=(nc r.2:Int)-1:=by
  show i64.wrap ((nc r.2:Int)-1)=_;grind [aA]
 have s:=λx w e=>alN (nc r.2) j.2 (eh r 10) l x w e (by simp_all [rR])
 simp only[uZ,awo,nN]at s;unfold qH Aa zF Kd jA;simp only[Ce,vC,qb,nN,Nat.reduceAdd,hw,t,m,c1];unfold jb;cases g1:iu r.2 (n4 (av r.1) 0,n4 (av r.1) 4)with
 |false=>exact⟨λh=>by simp at h,λ_=>rfl⟩
 |true=>
  by_cases g:(av r.1).getD 8 0<=8
  ·by_cases a:(av r.1).getD 9 0<=(nc r.2:Int)-1
   ·rw[u g1,o g,c2 a]
    have k:=a;simp only[g,a,k,avn,avw,aur,az2,axs];cases g4:(((av r.1).getD 8 0 !=0)||((av r.1).getD 9 0==0))with
    |false=>exact⟨λh=>by simp at h,λ_=>rfl⟩
    |true=>
     simp only[avw,aur,axs];obtain⟨h1,h2⟩:=s ((n4 (av r.1) 0,n4 (av r.1) 4),((av r.1).getD 8 0,(av r.1).getD 9 0),[]) rfl 0;constructor
     ·intro f
      rw[azq]at f;obtain⟨h3,h4⟩:=h1 λi hi=>f i (by simpa using hi)
      rw[h3,HP,h4];rfl
     ·intro f
      have: ∃i,i<nc r.2/\jt r.2 ((av r.1).drop (10+19*i))=false:=by
       rw[List.all_eq_false]at f;obtain⟨i,hi,hb⟩:=f;exact⟨i,by simpa using hi,by simpa using hb⟩
      obtain⟨i,hi,hb⟩:=this;obtain⟨y,z⟩:=h2 i hi hb;rw[z,HK]
   ·have k:=a
    simp only[g,a,k,avn,av4,avw,ayb,auw,aur,ayc,ayv,awd,ay3,azc,azy]
  ·simp only[g,avn,av4,avw,ayb,auw,aur,ayc,ayv,awd,ay3,azc,azy]
theorem uR{l:List Int}{k p:Nat}(h:k+4<=p):n4 (l.take p) k=n4 l k:=by
 grind [n4,List.drop_take]
theorem getD_take{l:List Int}{k p:Nat}(h:k<p):(l.take p).getD k 0=l.getD k 0:=by
 simp_all
theorem ahD{l:List Int}{a k p:Nat}(h:a+k<=p):vle (((l.take p).drop a).take k)=vle ((l.drop a).take k):=by
 grind [List.drop_take]
theorem adY{l:List Int}{p:Nat}(h:19<=p):ga (l.take p)=ga l:=by
 grind [ga,uR,ahD]
theorem adU(b:ab){l:List Int}{p:Nat}(h:19<=p):jt b (l.take p)=jt b l:=by
 grind [jt,uR]
theorem ae3{n:Nat}{l:List Int}{p:Nat}(h:10+19*n<=p):fm n (l.take p)=fm n l:=by
 unfold fm;rw[uR (by omega),uR (by omega),getD_take (by omega),getD_take (by omega)];grind [List.map_congr_left,List.drop_take,adY]
theorem ad7{b:ab}{l:List Int}{p:Nat}(h:10+19*nc b<=p):jb b (l.take p)=jb b l:=by
 unfold jb;rw[uR (by omega),uR (by omega),getD_take (by omega),getD_take (by omega)];grind [List.drop_take,adU]
theorem akR(s:ByteArray):av (mid s)=((av s).drop 2).take (s.size-4):=by
 unfold mid;rw[pM,pM,awq,List.take_take,Nat.min_self,azm];congr 1
theorem aiD(s:ByteArray):(mid s).size=s.size-4:=by
 grind [mid,extract_size]
def UD:bA:=((0,0),(0,0),[])
def ju(b:ab)(s:ByteArray):bA×Int:=
 if fU b s (14+19*dD b) 165=0 then(if jb b ((av s).drop 2)=true then(fm (nc b) ((av s).drop 2),0)else(UD,31))else(UD,fU b s (14+19*dD b) 165)
theorem Ka{b:ab}(hl:b.aL.length<=maxLen)(a:aK b):ca b=0:=by simp_all [kB,jS]
theorem ajz{b:ab}(hl:b.aL.length<=maxLen)(a:aK b):mP b=0:=by simp_all [PD,jS]
theorem DV{b:ab}(f: ¬ aK b)(s:ByteArray)(z a:Int):fU b s z a=1:=by simp_all [fU]
theorem rz(b:ab)(hl:b.aL.length<=maxLen)(s:ByteArray):gX (b,s)=ju b s:=by
 unfold gX LK MH Nd KG ju;by_cases a:aK b
 ·simp only[Jk a (Ka hl a)]
  rw[TI b hl s (14+19*dD b) 165 (λ_=>by have:=yv a;omega)];by_cases f:fU b s (14+19*dD b) 165=0
  ·rw[ava f,ava f]
   obtain⟨_,g,_⟩:=JY f;have g:s.size=14+19*(nc b:Int):=g;have g:=by omega
   show(bif((qH (mid s,b)).1.2 !=0)then(((0,0),(0,0),[]),(qH (mid s,b)).1.2)else((qH (mid s,b)).1.1,0))=_;obtain⟨h1,h2⟩:=alY (mid s,b) a hl (by rw[aiD];show s.size-4=10+19*nc b;omega);have i:=akR s;rw[i]at h1 h2;rw[ad7 (by show 10+19*nc b<=_;omega)]at h1 h2;rw[ae3 (by show 10+19*nc b<=_;omega)]at h1;cases hg:jb b ((av s).drop 2)with
   |true=>
    rw[h1 hg];rfl
   |false=>
    rw[h2 hg];rfl
  ·rw[au6 f,au6 f]
   have:(fU b s (14+19*dD b) 165 !=0)=true:=by simpa using f
   rw[this];rfl
 ·rw[TI b hl s _ _ (λh=>absurd h a),DV a,DV a]
  rfl
theorem FF(s:ByteArray)(a:Nat)(h:a+4<=s.size)(hs:s.size<=99000):tP (s,a,4)=n4 (av s) a:=PR s a 4 (by omega) h hs
theorem ahG(s:ByteArray)(a:Nat)(h:a+8<=s.size)(hs:s.size<=99000):Gf (s,a)=(n4 (av s) a,n4 (av s) (a+4)):=by
 unfold Gf;rw[aA (by omega) (by omega),show a+4=((a+4:Nat):Int)by omega];simp only[FF s a (by omega) hs,FF s (a+4) (by omega) hs,Gs (sD (jY s) _)]
theorem ug(s:ByteArray)(a:Nat):aO s a=(av s).getD a 0:=by rw[yp];rfl
theorem iw{n:Nat}(h:n<=1000000):i64.wrap n=n:=aA (by omega) (by omega)
theorem aqK(s:ByteArray)(b:ab)(i:Nat)(x:bA)(hi:i<nc b)(o:nc b<=8)(hs:s.size=14+19*nc b):
  zg (s,b) (i,x)= .next (s,b) (((i+1:Nat):Int),(x.1,x.2.1,x.2.2++ [ga ((av s).drop (12+19*i))])):=by
 unfold zg SX;have h1:decide (i<((s,b).2.2.2.2.2.2.2.2.length:Int))=true:=by
  simp_all
 have l:i64.wrap (12+i64.wrap (19*i))=((12+19*i:Nat):Int):=by
  rw[show(19*i)=((19*i:Nat):Int)by omega,iw (by omega),show 12+((19*i:Nat):Int)=((12+19*i:Nat):Int)by omega,iw (by omega)]
 have ek: ∀j:Nat,j<=30->i64.wrap (((12+19*i:Nat):Int)+(j:Int))=((12+19*i+j:Nat):Int):=λj t=>by
  rw[show((12+19*i:Nat):Int)+(j:Int)=((12+19*i+j:Nat):Int)by omega,iw (by omega)]
 have a:=ek 4 (by omega);have f:=ek 5 (by omega);have g:=ek 6 (by omega);have h:=ek 7 (by omega);have k:=ek 11 (by omega);rw[show((4:Nat):Int)=4 from rfl]at a;rw[show((5:Nat):Int)=5 from rfl]at f;rw[show((6:Nat):Int)=6 from rfl]at g;rw[show((7:Nat):Int)=7 from rfl]at h;rw[show((11:Nat):Int)=11 from rfl]at k;have m:=PR s (12+19*i+11) 8 (by omega) (by omega) (by omega);have u:=iK (jY s) (12+19*i+5);have w:=iK (jY s) (12+19*i+6);simp only[h1,auw,l,a,f,g,h,k,ajX,ug,m,FF s (12+19*i) (by omega) (by omega),FF s (12+19*i+7) (by omega) (by omega),Gs (sD (jY s) _)];rw[aA (x:=(av s).getD (12+19*i+5) 0) (by omega) (by omega),aA (x:=(av s).getD (12+19*i+6) 0) (by omega) (by omega),show(i:Int)+1=((i+1:Nat):Int)by omega,iw (by omega)];simp_all [ga,IY,getD_drop,awo,awr]
theorem ama(s:ByteArray)(b:ab)(p:af)(c:af)(a:nc b<=8)(hs:s.size=14+19*nc b):
  (vZ (s,b) (0,p,c,[])).2=(p,c,(List.range (nc b)).map λi=>ga ((av s).drop (12+19*i))):=by
 unfold vZ;have:=(lh (step:=zg) (k:=(s,b)) (λi=>(i,p,c,(List.range i).map λi=>ga ((av s).drop (12+19*i)))) (nc b) (λi hi=>⟨(s,b),by
  simp_all [aqK,axt]⟩) (k':=(s,b)) (y:=((nc b:Int),p,c,(List.range (nc b)).map λi=>ga ((av s).drop (12+19*i)))) (by
  unfold zg;simp_all) (fuel:=Nat.succ (UO (s,b) (0,p,c,[]))) (by
   show nc b<Nat.succ (((nc b:Int)-0).toNat);omega)).1
 simp_all
theorem Tm(l:List Int)(h:cr l)(k:Nat)(a:k<=l.length):le (vle (l.take k)) k=l.take k:=by
 have:=UE (l.take k) (HT h k);simp_all
theorem ams{l:List Int}(h:cr l)(k:Nat):u64.wrap (n4 l k)=n4 l k:=by
 grind [iV,sD,IntKind.wrap_u64]
theorem Gb{l:List Int}(h:cr l)(k:Nat)(a:k+4<=l.length):le (u64.wrap (n4 l k)) 4=(l.drop k).take 4:=by
 rw[ams h];exact Tm (l.drop k) (jU h k) 4 (by grind)
theorem Gc{v:Int}(h:0<=v/\v<=255):le (u64.wrap v) 1= [v]:=by
 simp only[le];rw[avu,av1];grind
theorem ar4{v:Int}(h:0<=v/\v<=255):le v 1= [v]:=by
 simp only[le];rw[av1];grind
theorem apC{l:List Int}(h:cr l)(k:Nat)(a:k+8<=l.length):ce (n4 l k,n4 l (k+4))=(l.drop k).take 8:=by
 unfold ce;rw[Gb h k (by omega),Gb h (k+4) (by omega),show 8=4+4 from rfl,axi,awo]
theorem sN{l:List Int}(k:Nat)(a:k<l.length):(l.drop k).take 1= [l.getD k 0]:=by
 grind [List.drop_eq_getElem_cons]
theorem aiz{c:List Int}(h:cr c)(hl:19<=c.length):gP (ga c)=c.take 4++ [c.getD 4 0 % 64]++(c.drop 5).take 14:=by
 have h4:=iK h 4;unfold gP ga;rw[Gb h 0 (by omega),Gb h 7 (by omega),fl6 h4,Gc (iK h 5),Gc (iK h 6),ar4 (by omega)];have a:((vle ((c.drop 11).take 8)).toNat:Int)=vle ((c.drop 11).take 8):=by
  have:=(I8 _ (HT (jU h 11) 8)).1;omega
 rw[a,Tm (c.drop 11) (jU h 11) 8 (by grind),awq];rw[show(c.drop 5).take 14=(c.drop 5).take 1++((c.drop 6).take 1++((c.drop 7).take 4++(c.drop 11).take 8))by
  rw[show 14=1+(1+(4+8))from rfl,axi,axi,axi,awo,awo,awo],sN 5 (by omega),sN 6 (by omega)]
 simp_all
theorem afI(c:List Int)(hl:19<=c.length):c.take 19=c.take 4++ [c.getD 4 0]++(c.drop 5).take 14:=by
 rw[<- sN 4 (by omega),show 19=4+(1+14)from rfl,axi,axi,awo,avb]
theorem Qc{c:List Int}(h:cr c)(hl:19<=c.length):gP (ga c)=c.take 19↔c.getD 4 0<=63:=by
 have h4:=iK h 4;rw[aiz h hl,afI c hl,List.append_left_inj,List.append_right_inj];grind
theorem QR{f g:Nat->List Int}{k:Nat}: ∀(n:Nat) (a: ∀i,i<n->(f i).length=k) (j: ∀i,i<n->(g i).length=k),((List.range n).flatMap f=(List.range n).flatMap g↔ ∀i,i<n->f i=g i)
 |0,_,_=>by simp
 |n+1,a,j=>by
  have l:=QR n (λi hi=>a i (by omega)) (λi hi=>j i (by omega));have hl:((List.range n).flatMap f).length=((List.range n).flatMap g).length:=by
   rw[List.length_flatMap,List.length_flatMap];congr 1
   refine azt λi hi=> ?_
   have hi:i<n:=by simpa using hi
   rw[a i (by omega),j i (by omega)]
  rw[axt,axo,axo];simp only[ayf,List.flatMap_nil,aws];constructor
  ·intro h i hi
   obtain⟨h1,h2⟩:=axl h hl;rcases axe i n with h3|h3
   ·exact l.1 h1 i h3
   ·have:i=n:=by omega
    subst this;exact h2
  ·intro h
   rw[l.2 λi hi=>h i (by omega),h n (by omega)]
theorem chunks(l:List Int): ∀n:Nat,l.take (19*n)=(List.range n).flatMap λi=>(l.drop (19*i)).take 19
 |0=>by simp
 |n+1=>by
  rw[axt,axo,<- chunks l n,show 19*(n+1)=19*n+19 by omega,axi];simp
theorem afF(h0:Int)(n:Nat){l:List Int}(h:cr l)(hl:10+19*n<=l.length):gO h0 (fm n l)=165::h0::l.take (10+19*n)↔ ∀i,i<n->(l.drop (10+19*i)).getD 4 0<=63:=by
 have e:l.take (10+19*n)=(l.drop 0).take 8++ [l.getD 8 0]++ [l.getD 9 0]++(List.range n).flatMap λi=>(l.drop (10+19*i)).take 19:=by
  have a:=chunks (l.drop 10) n;simp only[awo]at a;rw[<- a,<- sN 8 (by omega),<- sN 9 (by omega),show 10+19*n=8+(1+(1+19*n))by omega,axi,axi,axi];simp only[awo,avb,awq]
 have f:gO h0 (fm n l)=165::h0::((l.drop 0).take 8++ [l.getD 8 0]++ [l.getD 9 0]++(List.range n).flatMap λi=>gP (ga (l.drop (10+19*i)))):=by
  unfold gO fm;simp only;rw[show ce (n4 l 0,n4 l 4)=(l.drop 0).take 8 from apC h 0 (by omega),Gc (iK h 8),Gc (iK h 9),List.flatMap_map];simp only[avb,awz,awv]
 rw[e,f];simp only[aym,azc,List.append_right_inj];rw[QR (k:=19) n (λi hi=>PY _) (λi hi=>by rw[avp,avo];omega)];constructor
 ·intro h1 i hi
  exact(Qc (jU h _) (by rw[avo];omega)).1 (h1 i hi)
 ·intro h1 i hi
  exact(Qc (jU h _) (by rw[avo];omega)).2 (h1 i hi)
theorem nj{l m:List Int}(h1:cr l)(h2:cr m):cr (l++m):=λx a=>(List.mem_append.1 a).elim (h1 x) (h2 x)
theorem Qt{a:Int}{l:List Int}(h1:0<=a/\a<=255)(h2:cr l):cr (a::l):=λx f=>(List.mem_cons.1 f).elim (λe=>e▸h1) (h2 x)
theorem ajN:cr []:=λx a=>by cases a
theorem agZ{α:Type}{f:α->List Int}(h: ∀a,cr (f a))(l:List α):cr (l.flatMap f):=λx g=>by
 obtain⟨a,_,i⟩:=List.mem_flatMap.1 g;exact h a x i
theorem ami(c:af):cr (ce c):=nj (mn _ _) (mn _ _)
theorem aiH(c:eG):cr (gP c):=nj (nj (nj (nj (nj (mn _ _) (mn _ _)) (mn _ _)) (mn _ _)) (mn _ _)) (mn _ _)
theorem HM{n:Int}(a:0<=n/\n<=255)(x:bA):cr (gO n x):=nj (nj (nj (nj (Qt (by omega) (Qt a ajN)) (ami _)) (mn _ _)) (mn _ _)) (agZ aiH _)
theorem ahB{row:List Int}(hb:cr row){s:ByteArray}(hs:sum s=0#16)(h2:2<=s.size)(hl:row.length=s.size-2):fB (bw row)=s↔row=(av s).take (s.size-2):=by
 constructor
 ·intro h
  rw[<- h,yo,nk _ hb,He,jq];simp
 ·intro h
  have e:bw row=s.extract 0 (s.size-2):=by
   apply yQ;rw[nk _ hb,pM,awq];exact h
  rw[e];exact(yf s h2).2 hs
theorem ahR{s:ByteArray}{a b:Int}(h2:2<=s.size)(h0:aO s 0=a)(h1:aO s 1=b)(k:Nat):(av s).take (2+k)=a::b::((av s).drop 2).take k:=by
 have hl:2<=(av s).length:=by simp_all
 rw[show 0=((0:Nat):Int)from rfl,ug]at h0;rw[show 1=((1:Nat):Int)from rfl,ug]at h1;rw[axi,show 2=1+1 from rfl,axi,show(av s).take 1=((av s).drop 0).take 1 from rfl,sN 0 (by omega),sN 1 (by omega),h0,h1];rfl
theorem G9(b:ab){c:List Int}(h:cr c):jt b c=(nt b (ga c)&&decide (c.getD 4 0<=63)):=by
 have h5:=iK h 5;have h6:=iK h 6;grind [jt,nt,ga,fV]
theorem PN(b:ab){l:List Int}(h:cr l):jb b l=(gB b (fm (nc b) l)&&(List.range (nc b)).all λi=>decide ((l.drop (10+19*i)).getD 4 0<=63)):=by
 have k:=iK h 8;have m:=iK h 9;unfold jb gB fm fV;rw[az4];simp only[au0,adv,azq,ax5,List.length_range,awt,av9,axq,avm,aBl,aA4,forall_exists_index,and_imp,forall_apply_eq_imp_iff₂,au8];constructor
 ·rintro⟨⟨⟨⟨a,b1⟩,g⟩,j⟩,f⟩
  refine⟨⟨⟨⟨⟨⟨a,k.1,b1⟩,m.1,g⟩,λh=>j.elim (λh2=>absurd h h2) id⟩,trivial⟩,λi hi=> ?_⟩,λi hi=> ?_⟩
  ·have:=f i hi
   rw[G9 b (jU h _),au0]at this;exact this.1
  ·have:=f i hi
   rw[G9 b (jU h _),au0,adv]at this;exact this.2
 ·rintro⟨⟨⟨⟨⟨⟨a,_,b1⟩,_,g⟩,j⟩,_⟩,f⟩,o⟩
  refine⟨⟨⟨⟨a,b1⟩,g⟩,?_⟩,λi hi=> ?_⟩
  ·by_cases h0:l.getD 8 0=0
   ·exact Or.inr (j h0)
   ·exact Or.inl h0
  ·rw[G9 b (jU h _),au0,adv]
   exact⟨f i hi,o i hi⟩
theorem OP{b:ab}{s:ByteArray}(g:fU b s (14+19*dD b) 165=0):(jb b ((av s).drop 2)=true->jW b (fm (nc b) ((av s).drop 2))=(s,0))/\(jb b ((av s).drop 2)=false->((jW b (fm (nc b) ((av s).drop 2))).2≠0\/(jW b (fm (nc b) ((av s).drop 2))).1≠s)):=by
 obtain⟨f,a,h0,h1,hs⟩:=JY g;obtain⟨h,i,k⟩:=yv f;have a:(s.size:Int)=14+19*(nc b:Int):=a;have a:s.size=14+19*nc b:=by omega
 have hl:cr ((av s).drop 2):=jU (jY s) 2;have j:=ahB (HM ⟨h,i⟩ (fm (nc b) ((av s).drop 2))) hs (by omega) (by rw[xK];show 12+19*((List.range (nc b)).map _).length=_;grind);rw[show s.size-2=2+(10+19*nc b)by omega,ahR (by omega) h0 h1,afF (dD b) (nc b) hl (by rw[avo,lx];omega)]at j;rw[PN b hl];unfold jW;simp only[f,avn,axs];cases hi:gB b (fm (nc b) ((av s).drop 2))with
 |false=>simp_all
 |true=>
  simp_all
theorem aep(b:ab)(hl:b.aL.length<=maxLen)(s:ByteArray):AY (b,s)=ju b s:=by
 unfold AY ju;by_cases f:aK b
 ·obtain⟨t,u,j⟩:=yv f
  simp only[agJ f (ajz hl f)];have k:Gw (b,s,(14+19*dD b),165)=fU b s (14+19*dD b) 165:=Ry b hl s _ _ (λ_=>by omega);rw[k];by_cases a:fU b s (14+19*dD b) 165=0
  ·rw[ava a,a]
   obtain⟨_,g,_⟩:=JY a;have g:s.size=14+19*(nc b:Int):=g;have g:s.size=14+19*nc b:=by omega
   have hs:s.size<=99000:=by omega
   have w:=iK (jY s) 10;have x:=iK (jY s) 11;have e:(vZ (s,b) (0,(Gf (s,2)),((i64.wrap (aO s 10)),(i64.wrap (aO s 11))),[])).2=fm (nc b) ((av s).drop 2):=by
    rw[ama s b _ _ j g,show 2=((2:Nat):Int)from rfl,ahG s 2 (by omega) hs,show 10=((10:Nat):Int)from rfl,show 11=((11:Nat):Int)from rfl,ug,ug,aA (by omega) (by omega),aA (by omega) (by omega)];unfold fm;simp only[IY,getD_drop,awo,Nat.reduceAdd];congr 3
    funext i
    rw[show 12+19*i=2+(10+19*i)by omega]
   simp only[e];have l: ∀c∈(fm (nc b) ((av s).drop 2)).2.2,qF c:=λc m=>by
    obtain⟨i,_,rfl⟩:=List.mem_map.1 m;exact⟨sD (jU (jU (jY s) 2) _) 0,sD (jU (jU (jY s) 2) _) 7⟩
   have o:(fm (nc b) ((av s).drop 2)).2.2.length<=30:=by
    show((List.range (nc b)).map _).length<=30;rw[ax5,List.length_range];omega
   rw[KQ b hl _ o l];obtain⟨h1,h2⟩:=OP a;cases hg:jb b ((av s).drop 2)with
   |true=>
    rw[h1 hg];simp only[awm,Hc,avw,Bool.or_false,aur,azk]
   |false=>
    have:(((jW b (fm (nc b) ((av s).drop 2))).2 !=0)||(!jz (jW b (fm (nc b) ((av s).drop 2))).1 s))=true:=by
     rw[av9,axq];rcases h2 hg with h3|h3
     ·exact Or.inl h3
     ·refine Or.inr ?_
      cases h4:jz (jW b (fm (nc b) ((av s).drop 2))).1 s with
      |false=>rfl
      |true=>exact absurd ((BI _ _).1 h4) h3
    rw[this];rfl
  ·rw[au6 a]
   have:(fU b s (14+19*dD b) 165 !=0)=true:=by simpa using a
   rw[this];rfl
 ·simp only[Ry b hl s _ _ (λh=>absurd h f),DV f]
  rfl
def jw(a b:Int):Int:=u32.wrap ((BitVec.ofInt u32.bits a&&&BitVec.ofInt u32.bits b).toNat:Int)
def ly(a b:Int):Int:=u32.wrap ((BitVec.ofInt u32.bits a&&& ~~~BitVec.ofInt u32.bits b).toNat:Int)
theorem ado(v:BitVec 32):u32.wrap v.toNat=v.toNat:=by rw[aw8];omega
theorem M5(v:BitVec 32):BitVec.ofInt 32 v.toNat=v:=by
 simp_all
theorem arZ(v:BitVec 32):iV v.toNat:=⟨by omega,by omega⟩
theorem BO(a b:Int):jw a b=((BitVec.ofInt 32 a&&&BitVec.ofInt 32 b).toNat:Int):=ado _
theorem BK(a b:Int):ly a b=((BitVec.ofInt 32 a&&& ~~~BitVec.ofInt 32 b).toNat:Int):=ado _
theorem QO(a b:Int):iV (jw a b):=by grind [BO,arZ]
def jd(fl:Int):Int:=u32.wrap ((u32.wrap (1*2^(min ((u64.wrap fl)).toNat u32.bits)))-1)
def wT(fl:Int):Int:=Int.fdiv (jd fl) (2^(min ((1:Int)).toNat u32.bits))
def zQ(fl:Int):Int:=ly (jd fl) 1
theorem aic:(List.range 31).all (λn=>mr (n+2)==(wT (n+2),zQ (n+2))&&(jd (n+2)==2^(n+2)-1))=true:=by kernel_rfl
theorem Ra{fl:Int}(h:2<=fl/\fl<=32):mr fl=(wT fl,zQ fl)/\jd fl=2^fl.toNat-1:=by
 have:=List.all_eq_true.1 aic (fl-2).toNat (by grind);grind
theorem agb{b:ab}(a:aK b)(hl:b.aL.length<=maxLen)(c:af):iu b c=((ly c.1 (wT b.1)==0)&&(ly c.2 (zQ b.1)==0)):=by
 unfold iu pE;rw[Cj b hl,ava a,(Ra a.fl).1];rfl
theorem akS(v h:BitVec 32):(v&&&h)&&& ~~~h=0#32:=by
 grind
theorem ahV(a m o:BitVec 32):((a&&&m)&&& ~~~o)&&& ~~~(m&&& ~~~o)=0#32:=by
 grind
theorem ahM(a h:Int):ly (jw a h) h=0:=by
 grind [BK,BO,akS]
theorem age(a m:Int):ly (ly (jw a m) 1) (ly m 1)=0:=by
 rw[BK,BK,BK,BO,M5,M5,M5,ahV];rfl
theorem N1{fl:Int}(h:2<=fl/\fl<=32)(a:Int):jw a (jd fl)/2^fl.toNat=0:=by
 rw[BO,(Ra h).2];have e:BitVec.ofInt 32 (2^fl.toNat-1)=BitVec.ofNat 32 (2^fl.toNat-1):=by
  grind
 rw[e];have f:2^fl.toNat<=2^32:=axu (by omega) (by omega);have:(BitVec.ofInt 32 a&&&BitVec.ofNat 32 (2^fl.toNat-1)).toNat<2^fl.toNat:=by
  rw[BitVec.toNat_and,BitVec.toNat_ofNat,azp (by omega),aAf];omega
 have g:2^fl.toNat=((2^fl.toNat:Nat):Int):=by simp_all
 exact Int.ediv_eq_zero_of_lt (by omega) (by omega)
theorem ajC{K α ρ:Type} [Inhabited α]{st:K->(List α×Int)->an K (List α×Int) ρ}{k:K}(f:α->α)(l:List α)(hl:l.length<=1000)
  (a: ∀(i:Nat) (m:List α),m.length=l.length->i<l.length->st k (m,(i:Int))= .next k (m.set i (f (aa m i)),((i+1:Nat):Int))) (hb: ∀m:List α,m.length=l.length->st k (m,(l.length:Int))= .brk k (m,(l.length:Int))) {fuel:Nat} (g:l.length<fuel):
  (endOf st k fuel (l,(0:Int))).1=l.map f:=by
 have hs: ∀i,i<=l.length->((l.take i).map f++l.drop i).length=l.length:=λi hi=>by simp;omega
 have:=(lh (step:=st) (k:=k) (λi=>((l.take i).map f++l.drop i,(i:Int))) l.length (λi hi=>⟨k,by
  try simp only
  rw[a i _ (hs i (by omega)) hi];have h:aa ((l.take i).map f++l.drop i) (i:Int)=l[i]:=by
   rw[bH _ i (by rw[hs i (by omega)];exact hi),ayu (by simp;omega)];simp[az1 (aBu hi)]
  have j:i - ((l.take i).map f).length=0:=by simp;omega
  rw[h,List.set_append_right _ _ (by simp;omega),j,ay0,avc hi,av5 hi,List.set_cons_zero];simp only[Option.toList,ayl,axm,List.map_nil,avb,awz,awv]⟩) (k':=k) (y:=(l.map f,(l.length:Int))) (by
  try simp only
  rw[avr (au2 _),azb (au2 _),aws];exact hb _ (by simp)) g).1
 have h2:=av2 Prod.fst this;simpa using h2
def vM(b:ab)(c:eG):eG:=
 ((jw c.1.1 (jd b.1),c.1.2),(i64.wrap (Int.tmod (u64.wrap c.2.1.1) (u64.wrap b.1)),c.2.1.2.1,i64.wrap (Int.tmod (u64.wrap c.2.1.2.2.1) 3),c.2.1.2.2.2),jw c.2.2.1 (jd b.1),c.2.2.2)
theorem Sd{α:Type} [Inhabited α]{l:List α}{i:Nat}(h:i<l.length)(a:α):aa (l.set i a) i=a:=by
 simp_all [bH]
theorem agQ(b:ab)(m:List eG)(i:Nat)(h:i<m.length):JN (jd b.1,b) (m,i)=m.set i (vM b (aa m i)):=by
 unfold JN Jr;have a:yW (jd b.1,b) (m,i)=m.set i ((jw (aa m i).1.1 (jd b.1),(aa m i).1.2),(aa m i).2.1,jw (aa m i).2.2.1 (jd b.1),(aa m i).2.2.2):=by
  unfold yW aJ;simp only[awa,aBm,Sd h];rfl
 rw[a];unfold aJ;simp only[awa,aBm,Sd h];rfl
theorem Ps{α:Type}(l m:List α):(bc l m).length=l.length:=by grind [bc]
def uN(b:ab)(l:List eG):List eG:=(bc (aC iP (nc b:Int)) l).map (vM b)
theorem G2(b:ab)(l:List eG):(uN b l).length=nc b:=by simp_all [uN,aC,Ps]
theorem agT(b:ab)(a:nc b<=8)(l:List eG):(Y0 (jd b.1,b) ((bc (aC iP (nc b:Int)) l),0)).1=uN b l:=by
 have hl:(bc (aC iP (nc b:Int)) l).length=nc b:=by simp_all [aC,Ps]
 refine ajC (vM b) _ (by omega) (λi m hm hi=> ?_) (λm hm=> ?_) (by simp_all [UZ])
 ·unfold KL
  have h1:decide ((i:Int)<m.length)=true:=by simp;omega
  simp only[h1,auw];rw[agQ b m i (by omega),show i+1=((i+1:Nat):Int)by omega,iw (by omega)]
 ·unfold KL
  simp[hm]
def nM(x:bA):Int:=i64.wrap (Int.tmod (u64.wrap x.2.1.1) (9:Int))
def tp(b:ab)(x:bA):Int:=if nM x=0 then 0 else i64.wrap (Int.tmod (u64.wrap x.2.1.2) (u64.wrap (nc b:Int)))
def zV(b:ab)(x:bA):bA:=((jw (jw x.1.1 (jd b.1)) (wT b.1),ly (jw x.1.2 (jd b.1)) 1),(nM x,tp b x),uN b x.2.2)
theorem Hz(b:ab)(a:nc b<=8)(x:bA):om (b,x)=zV b x:=by
 unfold zV;rw[<- agT b a];unfold om tp;by_cases h:nM x=0
 ·have h2:=by simpa using h
  unfold nM at h2⊢;rw[h2];rfl
 ·rw[au6 h]
  have h2:(nM x==0)=false:=by simpa using h
  unfold nM at h2⊢;rw[h2];rfl
theorem B0{n m:Int}(a:0<=n)(h:1<=m/\m<=1000):0<=i64.wrap (Int.tmod n m)/\i64.wrap (Int.tmod n m)<=m-1:=by
 have h1:=aAu n (show m≠0 by omega);have h2:=aA2 n (show 0<m by omega);grind [aA]
theorem Dx(n:Int):0<=u64.wrap n:=by grind [IntKind.wrap_u64]
theorem PB{b:ab}(f:aK b)(c:eG):nt b (vM b c)=true/\qF (vM b c):=by
 have a:=f.fl;unfold nt vM gI fV qF;rw[N1 a,N1 a];have e:u64.wrap b.1=b.1:=by grind [IntKind.wrap_u64]
 have h1:=B0 (Dx c.2.1.1) (m:=b.1) (by omega);have h2:=B0 (Dx c.2.1.2.2.1) (m:=3) (by omega);refine⟨?_,QO _ _,QO _ _⟩;simp_all
theorem amL{b:ab}(f:aK b)(hl:b.aL.length<=maxLen)(x:bA):gB b (zV b x)=true/\ ∀c∈(zV b x).2.2,qF c:=by
 have a:=f.cn;have a:1<=nc b/\nc b<=8:=a;have g:=B0 (Dx x.2.1.1) (m:=9) (by omega);constructor
 ·unfold gB fV
  simp only[au0,adv,azq,awt,avm,aBl,au8];refine⟨⟨⟨⟨⟨?_,?_⟩,?_⟩,?_⟩,?_⟩,?_⟩
  ·rw[agb f hl]
   show((ly (jw (jw x.1.1 (jd b.1)) (wT b.1)) (wT b.1)==0)&&(ly (ly (jw x.1.2 (jd b.1)) 1) (zQ b.1)==0))=true;rw[ahM];unfold zQ;rw[age];rfl
  ·show 0<=nM x/\nM x<=8
   exact g
  ·show 0<=tp b x/\tp b x<=(nc b:Int)-1
   unfold tp;by_cases h:nM x=0
   ·rw[ava h]
    omega
   ·rw[au6 h]
    have e:u64.wrap (nc b:Int)=(nc b:Int):=by rw[avu];omega
    rw[e];exact B0 (Dx _) (by omega)
  ·intro h
   have h:nM x=0:=h;show tp b x=0;unfold tp;rw[ava h]
  ·show((uN b x.2.2).length:Int)=(nc b:Int)
   rw[G2]
  ·intro c a
   obtain⟨d,_,rfl⟩:=List.mem_map.1 a;exact(PB f d).1
 ·intro c a
  obtain⟨d,_,rfl⟩:=List.mem_map.1 a;exact(PB f d).2
theorem Mq{n:Int}(h:iV n):vle (le (u64.wrap n) 4)=n:=by
 grind [iV,IntKind.wrap_u64,JX]
theorem at4{n:Nat}(h:n<2^64):(vle (le n 8)).toNat=n:=by
 grind [JX]
theorem b1{n:Int}(h:0<=n/\n<=255):u8.wrap (u64.wrap n)=n:=by grind [IntKind.wrap_u64,IntKind.wrap_u8]
theorem b1'{n:Int}(h:0<=n/\n<=255):u8.wrap n=n:=by grind [IntKind.wrap_u8]
def FE(c:eG):Prop:=qF c/\(0<=c.2.1.1/\c.2.1.1<=255)/\(0<=c.2.1.2.2.1/\c.2.1.2.2.1<=255)/\c.2.2.2<2^64
theorem aim{c:eG}(h:FE c)(r:List Int):ga (gP c++r)=c:=by
 obtain⟨⟨fl,u,d,o,cl⟩,⟨f,a,i,g⟩,j,ld⟩:=c;obtain⟨⟨h1,h2⟩,h3,h4,h5⟩:=h;have e:ga (gP ((fl,u,d,o,cl),(f,a,i,g),j,ld)++r)=((vle (le (u64.wrap fl) 4),cU (u8.wrap (gH [u,d,o,cl,a,g])) 0,cU (u8.wrap (gH [u,d,o,cl,a,g])) 1,cU (u8.wrap (gH [u,d,o,cl,a,g])) 2,cU (u8.wrap (gH [u,d,o,cl,a,g])) 3),(u8.wrap (u64.wrap f),cU (u8.wrap (gH [u,d,o,cl,a,g])) 4,u8.wrap (u64.wrap i),cU (u8.wrap (gH [u,d,o,cl,a,g])) 5),vle (le (u64.wrap j) 4),(vle (le ld 8)).toNat):=rfl;grind [asn,Mq,at4,b1,b1']
theorem RX{α:Type}{f:α->List Int}{k:Nat}(a: ∀c,(f c).length=k): ∀(xs:List α) (i:Nat) (h:i<xs.length) (t:List Int),∃r,(xs.flatMap f++t).drop (k*i)=f xs[i]++r
 |x::xs,0,h,t=>⟨xs.flatMap f++t,by simp⟩
 |x::xs,i+1,h,t=>by
  obtain⟨r,hr⟩:=RX a xs i (by simp_all) t;refine⟨r,?_⟩;rw[ayf,avb,show k*(i+1)=(f x).length+k*i by grind,List.drop_length_add_append,hr];rfl
theorem akF(n:Int)(x:bA)(a:iV x.1.1/\iV x.1.2)(f:0<=x.2.1.1/\x.2.1.1<=255)(g:0<=x.2.1.2/\x.2.1.2<=255)(h: ∀c∈x.2.2,FE c)(t:List Int):fm x.2.2.length ((gO n x++t).drop 2)=x:=by
 obtain⟨⟨u,d⟩,⟨k,c⟩,aL⟩:=x;simp only at a f g h;have e:(gO n ((u,d),(k,c),aL)++t).drop 2=(ce (u,d)++le (u64.wrap k) 1++le (u64.wrap c) 1)++(aL.flatMap gP++t):=by
  unfold gO;simp only[avb,awz,awv];rfl
 rw[e];unfold fm;have j:n4 ((ce (u,d)++le (u64.wrap k) 1++le (u64.wrap c) 1)++(aL.flatMap gP++t)) 0=vle (le (u64.wrap u) 4):=rfl;have l:n4 ((ce (u,d)++le (u64.wrap k) 1++le (u64.wrap c) 1)++(aL.flatMap gP++t)) 4=vle (le (u64.wrap d) 4):=rfl;have m:((ce (u,d)++le (u64.wrap k) 1++le (u64.wrap c) 1)++(aL.flatMap gP++t)).getD 8 0=u8.wrap (u64.wrap k):=rfl;have o:((ce (u,d)++le (u64.wrap k) 1++le (u64.wrap c) 1)++(aL.flatMap gP++t)).getD 9 0=u8.wrap (u64.wrap c):=rfl;rw[j,l,m,o,Mq a.1,Mq a.2,b1 f,b1 g];congr 2
 apply ay6
 ·simp
 ·intro i h1 h2
  rw[List.getElem_map,List.getElem_range];have h2:i<aL.length:=h2;obtain⟨r,hr⟩:=RX PY aL i h2 t;have s:((ce (u,d)++le (u64.wrap k) 1++le (u64.wrap c) 1)++(aL.flatMap gP++t)).drop (10+19*i)=gP aL[i]++r:=by
   rw[show 10+19*i=(ce (u,d)++le (u64.wrap k) 1++le (u64.wrap c) 1).length+19*i by simp[nE,gN],List.drop_length_add_append,hr]
  rw[s,aim (h _ (axn h2))]
theorem ajA(row:List Int)(hb:cr row)(i:Nat)(h:i<row.length):aO (fB (bw row)) i=row.getD i 0:=by
 rw[ug,yo,nk _ hb,au9,au9,aw9 h]
theorem HR{b:ab}{x:bA}(h:gB b x=true):x.2.2.length=nc b:=by
 unfold gB at h;grind
theorem ajH{b:ab}(f:aK b){row:List Int}(hb:cr row)(a z:Int)(h2:2<=row.length)(h0:row.getD 0 0=a)(h1:row.getD 1 0=dD b)(g:row.length+2=z):fU b (fB (bw row)) z a=0:=by
 unfold fU;rw[au6 (by simp_all),au6,au6,au6];all_goals grind [P6,ajA,He,jq]
theorem amm{b:ab}(a:aK b){x:bA}(hl:x.2.2.length=nc b):fU b (fB (bw (gO (dD b) x))) (14+19*dD b) 165=0:=by
 obtain⟨f,g,h⟩:=yv a;refine ajH a (HM ⟨f,g⟩ x) _ _ (by grind [xK]) rfl rfl ?_;rw[xK,hl];grind
theorem af2{b:ab}(f:aK b){x:bA}(a:gB b x=true)(j:iV x.1.1/\iV x.1.2)(k: ∀c∈x.2.2,FE c):ju b (fB (bw (gO (dD b) x)))=(x,0):=by
 obtain⟨l,m,s⟩:=yv f;have hl:=HR a;have h:=amm f hl;have i:(0<=x.2.1.1/\x.2.1.1<=255)/\(0<=x.2.1.2/\x.2.1.2<=255):=by
  unfold gB fV at a;simp only[au0,adv]at a;obtain⟨⟨⟨⟨⟨_,h1⟩,h2⟩,_⟩,_⟩,_⟩:=a;have h2:0<=x.2.1.2/\x.2.1.2<=(nc b:Int)-1:=h2;omega
 have e:fm (nc b) ((av (fB (bw (gO (dD b) x)))).drop 2)=x:=by
  rw[yo,nk _ (HM ⟨l,m⟩ x),<- hl];exact akF _ x j i.1 i.2 k _
 have g:jb b ((av (fB (bw (gO (dD b) x)))).drop 2)=true:=by
  cases g:jb b ((av (fB (bw (gO (dD b) x)))).drop 2)with
  |true=>rfl
  |false=>
   exfalso;have:=(OP h).2 g;rw[e]at this;have o:jW b x=(fB (bw (gO (dD b) x)),0):=by unfold jW;simp only[f,a,avn,aBs,auw]
   rw[o]at this;simp at this
 unfold ju;rw[ava h,ava g,e]
section
def W(x:Int):Prop:=0<=x/\x<4294967296
def bit(x:Int)(i:Nat):Bool:=x.toNat.testBit i
theorem W.ext{x y:Int}(a:W x)(f:W y)(h: ∀i,i<32->bit x i=bit y i):x=y:=by
 have g:=by
  apply aAm;intro i;by_cases hi:i<32
  ·exact h i hi
  ·rw[ayo (au5 (show x.toNat<2^32 by have:=a.2;omega) (axu (by omega) (by omega))),
    ayo (au5 (show y.toNat<2^32 by have:=f.2;omega) (axu (by omega) (by omega)))]
 have:=a.1;have:=f.1;omega
theorem VV{x:Int}(a:W x){i:Nat}(hi:32<=i):bit x i=false:=
 ayo (au5 (show x.toNat<2^32 by have:=a.2;omega) (axu (by omega) hi))
theorem W.zero:W 0:=by simp_all [W]
theorem Qh(i:Nat):bit 0 i=false:=by simp[bit]
theorem wrap32(v:BitVec 32):u32.wrap v.toNat=v.toNat:=by have:=v.isLt;grind [IntKind.wrap_u32]
theorem MR(v:BitVec 32):W v.toNat:=by have:=v.isLt;grind [W]
theorem alD(v:BitVec 32)(i:Nat):bit v.toNat i=v.getLsbD i:=by simp[bit,BitVec.testBit_toNat]
theorem Vo{x:Int}(a:0<=x)(i:Nat)(hi:i<32):(BitVec.ofInt 32 x).getLsbD i=bit x i:=by
 grind [bit,BitVec.getLsbD_ofNat]
section
variable {x y:Int}
abbrev oU(x y:Int):Int:=u32.wrap ((BitVec.ofInt u32.bits x&&&BitVec.ofInt u32.bits y).toNat:Int)
abbrev FH(x y:Int):Int:=u32.wrap ((BitVec.ofInt u32.bits x|||BitVec.ofInt u32.bits y).toNat:Int)
abbrev KA(x y:Int):Int:=u32.wrap ((BitVec.ofInt u32.bits x&&& ~~~BitVec.ofInt u32.bits y).toNat:Int)
abbrev Ez(x k:Int):Int:=u32.wrap (x*2^(min k.toNat u32.bits))
abbrev qt(x k:Int):Int:=Int.fdiv x (2^(min k.toNat u32.bits))
theorem vS(x y:Int):W (oU x y):=by show W (u32.wrap ((BitVec.ofInt 32 x&&&BitVec.ofInt 32 y).toNat:Int));grind [wrap32,MR]
theorem qD(x y:Int):W (FH x y):=by show W (u32.wrap ((BitVec.ofInt 32 x|||BitVec.ofInt 32 y).toNat:Int));grind [wrap32,MR]
theorem DE(x y:Int):W (KA x y):=by show W (u32.wrap ((BitVec.ofInt 32 x&&& ~~~BitVec.ofInt 32 y).toNat:Int));grind [wrap32,MR]
theorem sM(x:Int):W (u32.wrap x):=by grind [W,IntKind.wrap_u32]
theorem W.lo{x:Int}(h:W x):0<=x:=h.1
theorem W.hi{x:Int}(h:W x):x<=4294967295:=by have:=h.2;omega
theorem SC(a:0<=x)(f:0<=y)(i:Nat)(hi:i<32):bit (oU x y) i=(bit x i&&bit y i):=by
 show bit (u32.wrap ((BitVec.ofInt 32 x&&&BitVec.ofInt 32 y).toNat:Int)) i=_;grind [wrap32,alD,Vo]
theorem akb(x k:Nat):Ez x k=((x*2^min k 32 % 4294967296:Nat):Int):=by
 show u32.wrap (x*2^(min (k:Int).toNat 32))=_;rw[aw8,awa];simp_all
theorem IT(x k:Nat):qt x k=((x/2^min k 32:Nat):Int):=by
 show Int.fdiv x (2^(min (k:Int).toNat 32))=_;grind
theorem apF(a:W x)(k:Int)(f:0<=k):W (qt x k):=by
 obtain⟨n,rfl⟩:=awe a.1;obtain⟨j,rfl⟩:=awe f;rw[IT];have h3:=Nat.div_le_self n (2^min j 32);grind [W]
theorem akt(a:0<=x)(k:Nat)(i:Nat)(hi:i<32):bit (Ez x k) i=(decide (k<=i)&&bit x (i-k)):=by
 obtain⟨n,rfl⟩:=awe a;rw[akb];simp only[bit,awa];rw[show 4294967296=2^32 from rfl,Nat.testBit_mod_two_pow,az3];grind
theorem aj5(a:W x)(k:Nat)(i:Nat):bit (qt x k) i=bit x (k+i):=by
 obtain⟨n,rfl⟩:=awe a.1;by_cases f:k<=32
 ·rw[IT,az1 f]
  simp only[bit,awa];rw[aBg,Nat.add_comm]
 ·rw[VV a (by omega),IT,Nat.min_eq_right (by omega)]
  simp only[bit,awa];rw[aBg];exact VV a (by omega)
theorem SJ(k i:Nat)(hi:i<32):bit (Ez 1 k) i=decide (i=k):=by
 rw[akt (by omega) k i hi];have h1:bit 1 (i-k)=decide (i-k=0):=by
  show Nat.testBit 1 (i-k)=_;by_cases h0:i-k=0
  ·simp_all
  ·have:Nat.testBit 1 (i-k)=false:=by
    cases h:Nat.testBit 1 (i-k)with
    |false=>rfl
    |true=>exact absurd (Nat.testBit_one_eq_true_iff_self_eq_zero.1 h) h0
   rw[this];simpa using h0
 by_cases h:i=k<;>by_cases h2:k<=i<;>simp_all<;>omega
theorem St(a:W x)(k:Nat):(oU (qt x k) 1==1)=bit x k:=by
 have h0:W (qt x k):=apF a _ (by omega);have h1:oU (qt x k) 1=if bit x k then 1 else 0:=by
  refine W.ext (vS _ _) (by grind [W]) λi hi=> ?_
  rw[SC h0.1 (by omega) i hi,aj5 a];by_cases f:i=0
  ·grind [bit]
  ·have:bit 1 i=false:=by
    have:=SJ 0 i hi;rw[show Ez 1 ((0:Nat):Int)=1 from rfl]at this;rw[this];simpa using f
   rw[this,ayc];cases bit x k
   ·simp[Qh]
   ·simp[this]
 rw[h1];cases bit x k<;>rfl
end
theorem ahg:Lib.pop8tab.size=256:=Lib.pop8tab_size
theorem ahA:Lib.len8tab.size=256:=Lib.len8tab_size
theorem akB(x y:Nat)(a:x<4294967296)(f:y<4294967296):oU x y=((x&&&y:Nat):Int):=by
 have h:x&&&y<4294967296:=Nat.lt_of_le_of_lt Nat.and_le_left a;refine W.ext (vS _ _) (by grind [W]) λi hi=> ?_
 rw[SC (by omega) (by omega) i hi];simp[bit]
theorem ak1(a:Int)(h0:0<=a)(h1:a<4294967296):oU a 255=a % 256:=by
 obtain⟨n,rfl⟩:=awe h0;rw[show 255=((255:Nat):Int)from rfl,akB n 255 (by omega) (by omega),aAf n 8];omega
theorem My(a:Int)(h0:0<=a)(h1:a<4294967296):u32.wrap ((BitVec.ofInt u32.bits a&&&BitVec.ofInt u32.bits 255).toNat:Int)=a % 256:=ak1 a h0 h1
theorem d24(x:Int):Int.fdiv x (2^(min ((24:Int)).toNat u32.bits))=x/16777216:=awy _ (by decide)
theorem d16(x:Int):Int.fdiv x (2^(min ((16:Int)).toNat u32.bits))=x/65536:=awy _ (by decide)
theorem d8(x:Int):Int.fdiv x (2^(min ((8:Int)).toNat u32.bits))=x/256:=awy _ (by decide)
theorem d27(x:Int):Int.fdiv x (2^(min ((27:Int)).toNat u32.bits))=x/134217728:=awy _ (by decide)
end

def Fl(x:ay):=x.2.2==1&&iG (0,i64.wrap (x.1-2),[x.2.1])||x.2.2==2&&iG (1,i64.wrap (x.1-1),[x.2.1])
def As(x:Int):Bool:=
 (x !=x)
def Co(k:Int×(List Int)×Int)(x:Int):Prop:=0<=x/\k.2.2=k.2.1.length
def Db(k:(Int×(List Int)×Int))(x:(Int)):Nat:=(k.2.2-x).toNat
def vd(k:Int×(List Int)×Int)(x:Int):=bif x<k.2.2 then bif aa k.2.1 x !=k.1 then an.ret (aa k.2.1 x)else an.next k (i64.wrap (x+1))else an.brk k x
def UR k x:=bj vd k (Nat.succ (Db k x)) x
def qA(x:List Int):=dJ (UR (0,x,x.length) 0) (λy=>y) 0
def tE(x:Int×Int×(List (aP))×Int):=((),x.2.2.1++ [(x.1,0,0,x.2.2.2,x.2.1)],x.2.2.2)
def oO(x:Int×Int×(List (aP))×Int):Prop:=x.2.2.1.length<=100000
def jF(x:Bool):Int:=bif x then 1 else 0
def qJ(x:Int×Int×Int×(List (aP))×en):=letI a:=x.2.2.2;((),a.1++ [(x.1,a.2.1,a.2.2.1,x.2.1,x.2.2.1)],a.2)
def oK(x:Int×Int×Int×(List (aP))×en):Prop:=x.2.2.2.1.length<=100000
def px(x:ay):=x.1>=x.2.1&&x.1<=x.2.2
def yG(k:(Unit))(x:(af)):Prop:=(0:Int)<=x.2
def JO(k:Unit)(x:af):=(8-x.2).toNat
def yR(k:Unit)(x:af):an Unit (af) Int:=bif x.2<8 then .next () (u8.wrap ((BitVec.ofInt u8.bits (u8.wrap (x.1*2^min (1:Int).toNat u8.bits))^^^BitVec.ofInt u8.bits (u8.wrap (Int.fdiv x.1 (2^min (7:Int).toNat u8.bits)*7))).toNat),i64.wrap (x.2+1))else .brk () x
def Kh k x:=endOf yR k (Nat.succ (JO k x)) x
def C0(k:eb)(x:af):Prop:=0<=x.2/\k.2=k.1.size/\k.1.size<=200
def IM(k:(eb))(x:(af)):Nat:=(k.2-x.2).toNat
def yO(k:eb)(x:af):an (eb) (af) Int:=bif x.2<k.2 then .next k ((Kh () (u8.wrap ((BitVec.ofInt u8.bits x.1^^^BitVec.ofInt u8.bits (aO k.1 x.2)).toNat),0)).1,i64.wrap (x.2+1))else .brk k x
def amb k x:=endOf yO k (Nat.succ (IM k x)) x
def nU(x:ByteArray):=(amb (x,x.size) (0,0)).1
def vu(x:ByteArray):Prop:=x.size<=200
def abV(x:((eW)×Int)×Int):=((),((bif x.2==0 then ByteArray.mk #[]else x.1.1.1,bif x.2==1 then ByteArray.mk #[]else x.1.1.2),x.1.2),x.2)
def KO(x:((eW)×Int)×Int):Prop:=0<=x.2/\x.2<2
def cV(x:Int×(eW)×Int):=x.1>=1&&x.1<=65536&&x.2.1.1.size<=x.1&&x.2.1.2.size<=x.1&&(x.2.2==0||x.2.2==1)
def fo(x:af):=letI a:=u32.wrap (1*2^min x.1.toNat u32.bits);letI b:=(0,0);bif x.1>=0&&x.1<32 then bif x.2==1 then(a,0)else bif x.2==2 then(0,a)else b else b
def dv(x:(af)×af):=(u32.wrap ((BitVec.ofInt u32.bits x.1.1&&&BitVec.ofInt u32.bits x.2.1).toNat),u32.wrap ((BitVec.ofInt u32.bits x.1.2&&&BitVec.ofInt u32.bits x.2.2).toNat))
def dt(x:(eW)×Int):=bif x.2==1 then x.1.2 else x.1.1
def jh(z:List (Nat×List Nat)):=dN (oz true) kz dh RO z
def Wt:Ct:=⟨Ty.pair ae (Ty.pair ae ae),[none,none,none],aw,ah.one none,none,none,Fl⟩
def Zo:Ct:=⟨ae,[none],aw,ah.one none,none,none,As⟩
def Lm:Ct:=⟨cX,[none],ae,ah.one none,none,none,qA⟩
def LQ:Cv:=letI a:=Ty.pair dF ae;⟨Ty.pair ae (Ty.pair ae a),[none,none],[.v,.v,.p,.p],[1,1],false,[(2,true,213)],a,Ty.unit,ah.none,[(0,true,213)],some oO,tE,false⟩
def XK:Ct:=⟨aw,[none],ae,ah.one none,none,none,jF⟩
def LA:Cv:=letI a:=Ty.pair dF dT;⟨Ty.pair ae (Ty.pair ae (Ty.pair ae a)),[none,none,none],[.v,.v,.v,.p,.p],[1,5],false,[(3,true,213)],a,Ty.unit,ah.none,[(0,true,213)],some oK,qJ,false⟩
def Yj:Ct:=⟨Ty.pair ae (Ty.pair ae ae),[none,none,none],aw,ah.one none,none,none,px⟩
def EB:Ct:=⟨cY,[none],bG,ah.one none,some vu,none,nU⟩
def Yc:Cp:=letI a:=Ty.pair eo ae;⟨a,[],[true,true],[3,1],false,false,a,Ty.unit,ah.none,some KO,abV,none,undef⟩
def MB:Ct:=⟨Ty.pair ae eo,[none,some 3],aw,ah.one none,none,none,cV⟩
def Zv:Ct:=⟨Ty.pair ae ae,[none,none],aS,ah.one (some 2),none,none,fo⟩
def Zq:Ct:=⟨Ty.pair aS aS,[some 2,some 2],aS,ah.one (some 2),none,none,dv⟩
def Xq:Ct:=⟨eo,[some 3],cY,ah.one none,none,none,dt⟩
theorem aor:ar 142 Wt:=au (jh []) func142 [] l0 (λ_ _ _=>tr)
theorem ard:ar 196 Zo:=au (jh []) func196 [] l0 (λ_ _ _=>tr)
def Ss:LS ae.den:=aH (Ty.pair ae (Ty.pair cX ae)) ae [(3,none),(6,none),(7,none)] [] [(8,none)] [] [] [] [] 0 true Co vd Db
theorem akE:bF f143 Lm [0] Ss:=have E:=ai @Co.eq_1<|ai @Db.eq_1<|ai @vd.eq_1 SN;lA (jh []) [] l0 (λk x fk fx h=>sm (decide (x<k.2.2)=true->0<=x/\x<k.2.1.length))
theorem an5:ar 143 Lm:=have E:=ai @Co.eq_1 SN;au (jh []) func143 [(3,Ss)] (lc akE l0) (λx fx _=>sl (Co (0,x,x.length) 0))
theorem aox:dP 186 LQ:=have E:=ai @oO.eq_1 SN;dV (jh []) func186 [] l0 (sp λx fx h=>sl (letI a:=aP;letI b:=([(x.1,0,0,x.2.2.2,x.2.1)]:List a);letI c:=(x.2.2.1:List a);(List.length c+List.length b)*40<=140737488355328/\List.length c+List.length b<=4611686018427387903))
theorem anE:ar 187 XK:=au (jh []) func187 [] l0 (λ_ _ _=>tr)
theorem apI:dP 188 LA:=have E:=ai @oK.eq_1 SN;dV (jh []) func188 [] l0 (sp λx fx h=>sl (letI a:=aP;letI b:=([(x.1,x.2.2.2.2.1,x.2.2.2.2.2.1,x.2.1,x.2.2.1)]:List a);letI c:=(x.2.2.2.1:List a);(List.length c+List.length b)*40<=140737488355328/\List.length c+List.length b<=4611686018427387903))
theorem anO:ar 232 Yj:=au (jh []) func232 [] l0 (λ_ _ _=>tr)
def Jz:LS bG.den:=aH Ty.unit (Ty.pair bG ae) [] [] [(3,none),(16,none)] [] [] [] [] 2 false yG yR JO
def SY:LS bG.den:=aH (Ty.pair cY ae) (Ty.pair bG ae) [(0,none),(7,none)] [] [(3,none),(8,none)] [] [] [] [] 0 false C0 yO IM
theorem alb:bF f190 EB [0,0] Jz:=have E:=ai @yG.eq_1<|ai @JO.eq_1<|ai @yR.eq_1 SN;lA (jh []) [] l0 (λk x fk fx h=>sm (decide (x.2<8)=true->0<=(7:Int)/\0<=(1:Int)))
theorem akd:bF f190 EB [0] SY:=have E:=ai @C0.eq_1<|ai @IM.eq_1<|ai @yO.eq_1<|ai @yG.eq_1 SN;lA (jh []) [(7,Jz)] (lc alb l0) (λk x fk fx h=>sm (decide (x.2<k.2)=true->(0<=x.2/\x.2<k.1.size)/\yG () (u8.wrap ((BitVec.ofInt u8.bits x.1^^^BitVec.ofInt u8.bits (aO k.1 x.2)).toNat),0)))
theorem aoS:ar 190 EB:=have E:=ai @yG.eq_1<|ai @C0.eq_1<|ai @vu.eq_1 SN;au (jh []) func190 [(7,Jz),(3,SY)] (lc akd l0) (sp λx fx h=>sl (C0 (x,x.size) (0,0)))
theorem ap8:jP 193 Yc:=have E:=ai @KO.eq_1 SN;rj (jh []) func193 [] l0 (wV λx fx h=>sl (0<=x.2/\x.2<2))
theorem abu:ar 54 MB:=au (jh []) func54 [] l0 (λ_ _ _=>tr)
theorem aqJ:ar 180 Zv:=have E:=SN;au (jh []) func180 [] l0 (λx fx _=>sl ((x.1>=0&&x.1<32)=true->((x.2==1)=true->0<=x.1)/\((x.2==1)=false->(x.2==2)=true->0<=x.1)))
theorem arx:ar 155 Zq:=au (jh []) func155 [] l0 (λ_ _ _=>tr)
theorem apd:ar 118 Xq:=au (jh []) func118 [] l0 (λ_ _ _=>tr)
def abJ(nw:Bool):=(186,.pv LQ)::(188,.pv LA)::ac1 nw
theorem H7(nw:Bool):gj (abJ nw):=zc (z:= .pv LQ) aox func186 (zc (z:= .pv LA) apI func188 ((oz nw)))
def acs:=(193,Yc)::Ax
theorem uv:ia acs:=pc ap8 func193 (kz)
def abH:=(142,Wt)::(196,Zo)::(143,Lm)::(187,XK)::(232,Yj)::(190,EB)::(54,MB)::(180,Zv)::(155,Zq)::(118,Xq)::abw
theorem Su:cu abH:=gc aor func142 (gc ard func196 (gc an5 func143 (gc anE func187 (gc anO func232 (gc aoS func190 (gc abu func54 (gc aqJ func180 (gc arx func155 (gc apd func118 (RO))))))))))
def nY(x:ab×af):=ca x.1==0&&Fl (x.1.1,x.2)
def kN(x:af):=bif As x.1 then bif As x.2 then 0 else -1 else bif As x.2 then 1 else bif x.1<x.2 then -1 else bif x.1>x.2 then 1 else 0
def nV(x:Int×((eW)×Int)×af):Int:=letI a:=x.2.2.1 !=0&&x.2.2.1 !=1;bif !cV (x.1,x.2.1)then 1 else bif a then bif a then 2 else 0 else bif x.2.2.2<0 then 2 else 0
def dO(x:(af)×af):=letI a:=dv (x.1,fo x.2); !(a.1==0&&a.2==0)
def Fm(z:List (Nat×List Nat)):=dN (H7 true) uv dh Su z
def WM:Ct:=⟨Ty.pair aD (Ty.pair ae ae),[some 8,none,none],aw,ah.one none,none,none,nY⟩
def YG:Ct:=⟨Ty.pair ae ae,[none,none],ae,ah.one none,none,none,kN⟩
def ZH:Ct:=⟨Ty.pair ae (Ty.pair eo (Ty.pair ae ae)),[none,some 3,none,none],bX,ah.one none,none,none,nV⟩
def EA:Ct:=⟨Ty.pair aS (Ty.pair ae ae),[some 2,none,none],aw,ah.one none,none,none,dO⟩
theorem aps:ar 106 WM:=au (Fm []) func106 [] l0 (λ_ _ _=>tr)
theorem ana:ar 144 YG:=au (Fm []) func144 [] l0 (λ_ _ _=>tr)
theorem aoy:ar 194 ZH:=au (Fm []) func194 [] l0 (λ_ _ _=>tr)
theorem Z0:ar 153 EA:=au (Fm []) func153 [] l0 (λ_ _ _=>tr)
def adn:=(106,WM)::(144,YG)::(194,ZH)::(153,EA)::abH
theorem SG:cu adn:=gc aps func106 (gc ana func144 (gc aoy func194 (gc Z0 func153 (Su))))
theorem gK(room:Int)(s:(eW)×Int):cV (room,s)=true↔1<=room/\room<=65536/\s.1.1.size<=room/\s.1.2.size<=room/\(s.2=0\/s.2=1):=by
 grind [cV]
theorem chk{x:Int×((eW)×Int)×af}(h:(nV x !=0)=false):
  1<=x.1/\x.1<=65536/\x.2.1.1.1.size<=x.1/\x.2.1.1.2.size<=x.1/\(x.2.1.2=0\/x.2.1.2=1)/\(x.2.2.1=0\/x.2.2.1=1)/\0<=x.2.2.2:=by
 grind [nV,cV]
theorem afq{a b:ByteArray}{i r:Int}(hi:i=0\/i=1)(f:a.size<=r)(hb:b.size<=r):((aa [a,b] i).size:Int)<=r:=by
 rcases hi with rfl|rfl
 ·exact f
 ·exact hb
theorem ahC{a b:Int}(h5:a=0\/a=1)(h:b=a):0<=b/\b<2:=by omega
def lK(x:ab×en):=letI a:=x.2.2.2;nY (x.1,x.2.1,x.2.2.1)&&a.1>= -2&&a.1<x.1.2.2.2.2.2.2.2.length&&a.2.1>=0&&a.2.1<=255
def lL(x:(en)×en):=qA [kN (x.1.1,x.2.1),kN (x.1.2.1,x.2.2.1)]
def iW(x:ab×aP):=letI e:=x.2.2.2;letI g:=i64.wrap (x.1.2.2.2.2.2.2.2.length-1);letI a:=x.2.2.1==0&&e.1==0&&px (e.2.1,0,g);letI c:=a&&px (e.2.2,0,1);letI i:=nY (x.1,x.2.2.1,e.1);letI d:=i&&px (e.2.1,0,1)&&px (e.2.2,0,255);letI j:=x.2.1;letI h:=j==5;letI l:=a&&px (e.2.2,0,4);letI m:=bif h then c else false;letI n:=e.2.2==0;letI b:=i&&px (e.2.1,-2,g)&&n;letI f:=i&&e.2.1==0&&n;letI o:=j==1;letI p:=j==3;letI q:=j==7;letI r:=j==4;letI s:=j==6;bif ca x.1 !=0 then false else bif o then bif o then f else bif p then b else bif q then d else bif r then l else bif h then m else bif s then c else false else bif j==2 then f else bif p then b else bif q then d else bif r then l else bif h then m else bif s then c else false
def FJ(x:Int×((eW)×Int)×ay):=letI a:=x.2.2.2;letI b:=nV (x.1,x.2.1,x.2.2.1,a.1);letI c:=abV (x.2.1,a.2);bif b !=0 then((((ByteArray.empty,ByteArray.empty),0),0,b),a.2)else bif a.1==0 then((x.2.1,0,8),a.2)else((c.2.1,i64.wrap (a.1-1),0),c.2.2)
def Wd(x:Int×((eW)×Int)×ay):Prop:=x.2.2.2.2=x.2.2.1
def oa(x:Int×((eW)×Int)×Int×eb):=letI c:=x.2.2;letI d:=((ByteArray.empty,ByteArray.empty),0);letI e:=c.2.1.size;letI f:=x.2.1;letI a:=aa [f.1.1,f.1.2] c.1;letI b:=dq a (ByteArray.extract c.2.1 (Int.toNat 0) (Int.toNat c.2.2));letI g:=nV (x.1,f,c.1,c.2.2);letI h:=c.1==0;letI i:=c.1==1;letI j:=dq a c.2.1;bif g !=0 then(d,0,g)else bif e>i64.wrap (x.1-a.size)then(d,0,7)else bif c.2.2<e then(((bif h then b else f.1.1,bif i then b else f.1.2),f.2),0,8)else(((bif h then j else f.1.1,bif i then j else f.1.2),f.2),i64.wrap (c.2.2-e),0)
def Au(z:List (Nat×List Nat)):=dN (H7 true) uv dh SG z
def Xe:Ct:=⟨Ty.pair aD dT,[some 8,some 5],aw,ah.one none,none,none,lK⟩
def Xj:Ct:=⟨Ty.pair dT dT,[some 5,some 5],ae,ah.one none,none,none,lL⟩
def Wu:Ct:=⟨Ty.pair aD jC,[some 8,some 5],aw,ah.one none,none,none,iW⟩
def Lg:Cv:=⟨Ty.pair ae (Ty.pair eo (Ty.pair ae (Ty.pair ae ae))),[none,some 3,none,none],[.v,.v,.v,.v,.c 193 1],[1],false,[],ae,Ty.pair eo (Ty.pair ae bX),ah.tup [some 3,none,none],[],some Wd,FJ,false⟩
def Mc:Ct:=⟨Ty.pair ae (Ty.pair eo (Ty.pair ae (Ty.pair cY ae))),[none,some 3,none,none,none],Ty.pair eo (Ty.pair ae bX),ah.tup [some 3,none,none],none,none,oa⟩
theorem aoL:ar 139 Xe:=au (Au []) func139 [] l0 (λ_ _ _=>tr)
theorem Xb:ar 140 Xj:=au (Au []) func140 [] l0 (λ_ _ _=>tr)
theorem apt:ar 189 Wu:=au (Au []) func189 [] l0 (λ_ _ _=>tr)
theorem anB:dP 192 Lg:=dV (Au []) func192 [] l0 (sp λx fx h=>sl ((nV (x.1,x.2.1,x.2.2.1,x.2.2.2.1) !=0)=false->(x.2.2.2.1==0)=false->KO (x.2.1,x.2.2.2.2)) (by
 try dsimp only[Ty.den]at*
 intro h1 _;obtain⟨_,_,_,_,_,h5,_⟩:=chk h1;exact ahC h5 h))
theorem ZV:ar 136 Mc:=au (Au []) func136 [] l0 (λx fx _=>sl (letI d:=x.2.2;letI a:=0<=d.1/\d.1<(2:Int);letI b:=aa [x.2.1.1.1,x.2.1.1.2] d.1;letI c:=(d.2.1.size:Int);letI e:=((ByteArray.size b:Nat):Int);letI f:=d.2.2;letI g:=decide (f<c);(nV (x.1,x.2.1,d.1,f) !=(0:Int))=false->(a/\(decide (c>i64.wrap (x.1 - (b.size:Int)))=false->((g=true->(a/\((0<=(0:Int)/\0<=f/\f<=c)/\e+((ByteArray.size (ByteArray.extract d.2.1 (Int.toNat 0) (Int.toNat f))))<=9223372036854775807/\a)))/\(g=false->a/\e+((ByteArray.size d.2.1))<=9223372036854775807/\a))))) (by
 try dsimp only[Ty.den]at*
 intro h1;obtain⟨k1,k2,k3,k4,_,k5,k6⟩:=chk h1;simp only at k1 k2 k3 k4 k5 k6;have hz:=afq k5 k3 k4;have hx:(ByteArray.extract x.2.2.2.1 (Int.toNat (0:Int)) (Int.toNat x.2.2.2.2)).size<=x.2.2.2.1.size:=by rw[extract_size];omega
 have hw:i64.wrap (x.1 - ((aa [x.2.1.1.1,x.2.1.1.2] x.2.2.1).size:Int))=x.1 - ((aa [x.2.1.1.1,x.2.1.1.2] x.2.2.1).size:Int):=aA (by omega) (by omega);rw[hw];refine⟨by omega,λh2=> ?_⟩;rw[aut]at h2;refine⟨λh3=> ?_,λh3=> ?_⟩
 ·rw[adv]at h3
  exact⟨by omega,by omega,by omega,by omega⟩
 ·exact⟨by omega,by omega,by omega⟩))
def adr(nw:Bool):=(192,.pv Lg)::abJ nw
theorem xU(nw:Bool):gj (adr nw):=zc (z:= .pv Lg) anB func192 ((H7 nw))
def ab8:=(139,Xe)::(140,Xj)::(189,Wu)::(136,Mc)::adn
theorem S4:cu ab8:=gc aoL func139 (gc Xb func140 (gc apt func189 (gc ZV func136 (SG))))
def CG(k:(List Int)×Int)(x:Int):Prop:=0<=x/\k.2=k.1.length
def C2(k:((List Int)×Int))(x:(Int)):Nat:=(k.2-x).toNat
def rX(k:(List Int)×Int)(x:Int):=bif x<k.2 then bif aa k.1 x<0||aa k.1 x>4 then an.ret false else an.next k (i64.wrap (x+1))else an.brk k x
def D3 k x:=bj rX k (Nat.succ (C2 k x)) x
def BR(k:(List (en))×Int×ab×(List Int)×(List Bool)×(List Bool)×List (en))(x:Int):Prop:=0<=x/\k.2.1=k.1.length/\k.1.length=k.2.2.2.2.2.2.length
def B2(k:((List (en))×Int×(ab)×(List Int)×(List Bool)×(List Bool)×List (en)))(x:(Int)):Nat:=(k.2.1-x).toNat
def nf(k:(List (en))×Int×ab×(List Int)×(List Bool)×(List Bool)×List (en))(x:Int):=bif x<k.2.1 then bif !lK (k.2.2.1,aa k.1 x)||x>0&&lL (aa k.2.2.2.2.2.2 (i64.wrap (x-1)),aa k.1 x)>=0 then an.ret false else an.next k (i64.wrap (x+1))else an.brk k x
def Ua k x:=bj nf k (Nat.succ (B2 k x)) x
def cJ(x:ab×(List Int)×(List Bool)×(List Bool)×List (en)):=letI a:=(x.1.2.2.2.2.2.2.2.length:Int);letI b:=x.2.1.length;bif ca x.1 !=0||b !=a||x.2.2.1.length !=a||x.2.2.2.1.length !=a then false else dJ (D3 (x.2.1,b) 0) (λy=>y) (dJ (Ua (x.2.2.2.2,x.2.2.2.2.length,x) 0) (λy=>y) true)
def iR(x:ab×aP):eb:=letI a:=bw [u8.wrap x.2.1,u8.wrap x.2.2.1,u8.wrap x.2.2.2.1,u8.wrap (i64.wrap (x.2.2.2.2.1+2)),u8.wrap x.2.2.2.2.2];bif !iW x then(ByteArray.mk #[],1)else(dq a (bw [nU a]),0)
def tq(x:Int×((eW)×Int)×af):=(FJ (x.1,x.2.1,x.2.2.1,x.2.2.2,x.2.2.1)).1
def Aw(z:List (Nat×List Nat)):=dN (xU true) uv dh S4 z
def zT:Ct:=⟨Ty.pair aD bN,[some 8,some 4],aw,ah.one none,none,none,cJ⟩
def Lk:Ct:=⟨Ty.pair aD jC,[some 8,some 5],Ty.pair cY bX,ah.tup [none,none],none,none,iR⟩
def Ls:Ct:=⟨Ty.pair ae (Ty.pair eo (Ty.pair ae ae)),[none,some 3,none,none],Ty.pair eo (Ty.pair ae bX),ah.tup [some 3,none,none],none,none,tq⟩
def IP:LS aw.den:=aH (Ty.pair cX ae) ae [(38,none),(39,none)] [] [(40,none)] [] [] [] [] 0 true CG rX C2
def Qw:LS aw.den:=aH (Ty.pair da (Ty.pair ae (Ty.pair aD bN))) ae [(52,none),(53,none)] [(2,8),(3,4)] [(54,none)] [] [] [] [(2,2),(3,3)] 2 true BR nf B2
theorem akn:bF f102 zT [0] IP:=have E:=ai @CG.eq_1<|ai @C2.eq_1<|ai @rX.eq_1 SN;lA (Aw []) [] l0 (λk x fk fx h=>sm (decide (x<k.2)=true->0<=x/\x<k.1.length))
theorem ag2:bF f102 zT [1] Qw:=have E:=ai @BR.eq_1<|ai @B2.eq_1<|ai @nf.eq_1 SN;lA (Aw []) [(5,IP)] l0 (λk x fk fx h=>sm (letI a:=i64.wrap (x-1);decide (x<k.2.1)=true->(0<=x/\x<k.1.length)/\((!lK (k.2.2.1,aa k.1 x))=false->decide (x>0)=true->0<=a/\a<k.2.2.2.2.2.2.length)))
theorem Zj:ar 102 zT:=have E:=ai @CG.eq_1<|ai @BR.eq_1 SN;au (Aw []) func102 [(5,IP),(11,Qw)] (lc akn (lc ag2 l0)) (λx fx _=>sl (letI a:=(x.1.2.2.2.2.2.2.2.length:Int);letI b:=x.2.1.length;(ca x.1 !=0||b !=a||x.2.2.1.length !=a||x.2.2.2.1.length !=a)=false->CG (x.2.1,b) 0/\(D3 (x.2.1,b) 0=none->BR (x.2.2.2.2,x.2.2.2.2.length,x) 0)))
theorem XP:ar 133 Lk:=have E:=ai @vu.eq_1 SN;au (Aw []) func133 [] l0 (λx fx _=>sl (letI a:=bw [u8.wrap x.2.1,u8.wrap x.2.2.1,u8.wrap x.2.2.2.1,u8.wrap (i64.wrap x.2.2.2.2.1+2),u8.wrap x.2.2.2.2.2];(!iW x)=false->vu a/\((ByteArray.size a):Int)+((ByteArray.size (bw [nU a])))<=9223372036854775807))
theorem ZA:ar 135 Ls:=au (Aw []) func135 [] l0 (λx fx _=>sf (Wd (x.1,x.2.1,x.2.2.1,x.2.2.2,x.2.2.1)/\True) (by
 exact⟨rfl,trivial⟩))
def acv:=(102,zT)::(133,Lk)::(135,Ls)::ab8
theorem TZ:cu acv:=gc Zj func102 (gc XP func133 (gc ZA func135 (S4)))
theorem Br{x:ab×List Int×List Bool×List Bool×List (en)}(hl:x.1.2.2.2.2.2.2.2.length<=maxLen)(h:(!cJ x)=false):
  aK x.1/\x.2.1.length=x.1.2.2.2.2.2.2.2.length/\x.2.2.1.length=x.1.2.2.2.2.2.2.2.length/\x.2.2.2.1.length=x.1.2.2.2.2.2.2.2.length/\x.1.2.2.2.2.2.2.2.length<=8:=by
 unfold cJ at h;cases hc:(((((ca x.1) !=0)||(((x.2.1).length:Int) !=((x.1.2.2.2.2.2.2.2).length:Int)))||(((x.2.2.1).length:Int) !=((x.1.2.2.2.2.2.2.2).length:Int)))||(((x.2.2.2.1).length:Int) !=((x.1.2.2.2.2.2.2.2).length:Int)))with
 |true=>simp_all
 |false=>
  simp only[auv,au8]at hc;obtain⟨⟨⟨h1,h2⟩,h3⟩,h4⟩:=hc;have a:=oD hl h1;have f:=a.cn;grind
theorem oE{K X ρ:Type}{b:Bool}{step:K->X->an K X ρ}{inv:K->X->Prop}{mu:K->X->Nat}{k:K}(hs: ∀y,inv k y->bf b inv mu k y (step k y))(hb: ∀y k' z,step k y= .brk k' z->z=y)(n:Nat)(y:X)(h:inv k y):inv k (endOf step k n y):=
 iq (λy k' z a f=>by have h0:=hs y a;rw[f]at h0;exact h0.2.1) (λy k' z a f=>by grind) n y h
abbrev acT:=List (aP)
theorem vX(a v i:Int)(l:acT):tE (a,v,l,i)=((),(l++ [(a,0,0,i,v)],i)):=rfl
theorem vW(a eU v:Int)(l:acT)(e:en):qJ (a,eU,v,l,e)=((),(l++ [(a,e.1,e.2.1,eU,v)],e)):=rfl
theorem ahh{e n:Int}{m:Nat}(h1:e<=n)(h2:n<=8)(h3:m=3*e):(m:Int)<=24+3*0:=by omega
def qg(k:Int×(List Int)×(List Bool)×(List Bool)×List (en))(x:Int×List (aP)):Prop:=0<=x.1/\k.1=k.2.1.length/\k.2.2.1.length=k.2.1.length/\k.2.2.2.1.length=k.2.1.length/\k.1<=8/\x.1<=k.1/\x.2.length=3*x.1
def mj(k:(Int×(List Int)×(List Bool)×(List Bool)×List (en)))(x:(Int×List (aP))):Nat:=(k.1-x.1).toNat
def BZ(k:Int×(List Int)×(List Bool)×(List Bool)×List (en))(x:Int×List (aP)):=letI b:=tE (4,aa k.2.1 x.1,x.2,x.1);letI a:=tE (5,jF (aa k.2.2.1 b.2.2),b.2);tE (6,jF (aa k.2.2.2.1 a.2.2),a.2)
def kG(k:Int×(List Int)×(List Bool)×(List Bool)×List (en))(x:Int×List (aP)):an (Int×(List Int)×(List Bool)×(List Bool)×List (en)) (Int×List (aP)) (List (aP)):=bif x.1<k.1 then .next k (i64.wrap (x.1+1),(BZ k x).2.1)else .brk k x
def Dy k x:=endOf kG k (Nat.succ (mj k x)) x
def yr(k:(List (en))×Int)(x:Int×List (aP)):Prop:=0<=x.1/\k.2=k.1.length/\k.2<=1000/\x.2.length<=24+3*x.1
def rO(k:((List (en))×Int))(x:(Int×List (aP))):Nat:=(k.2-x.1).toNat
def BL(k:(List (en))×Int)(x:Int×List (aP)):=letI b:=qJ (1,0,0,x.2,aa k.1 x.1);letI a:=qJ (3,b.2.2.2.2.1,0,b.2);qJ (7,jF a.2.2.2.2.2.2,a.2.2.2.2.2.1,a.2)
def oB(k:(List (en))×Int)(x:Int×List (aP)):an ((List (en))×Int) (Int×List (aP)) (List (aP)):=bif x.1<k.2 then .next k (i64.wrap (x.1+1),(BL k x).2.1)else .brk k x
def IH k x:=endOf oB k (Nat.succ (rO k x)) x
def ff(x:ab×(List Int)×(List Bool)×(List Bool)×List (en)):=bif !cJ x then[]else(IH (x.2.2.2.2,x.2.2.2.2.length) (0,(Dy (x.2.1.length,x.2) (0,[])).2)).2
def VJ(x:ab×(List Int)×(List Bool)×(List Bool)×List (en)):Prop:=x.2.2.2.2.length<=1000
def Ml(z:List (Nat×List Nat)):=dN (xU true) uv dh TZ z
def zW:Ct:=⟨Ty.pair aD bN,[some 8,some 4],dF,ah.one none,some VJ,some 213,ff⟩
def Jq:LS dF.den:=aH (Ty.pair ae bN) (Ty.pair ae dF) [(17,none)] [(3,4)] [(18,none)] [(5,1)] [(1,100501,true,213)] [] [(3,3),(5,5)] 0 false qg kG mj
def P8:LS dF.den:=aH (Ty.pair da ae) (Ty.pair ae dF) [(47,none),(48,none)] [] [(49,none)] [(5,1)] [(1,101301,true,213)] [] [(5,5)] 2 false yr oB rO
theorem Sg(k:(Ty.pair ae bN).den)(x:(Ty.pair ae dF).den)(fk:Fit (Ty.pair ae bN) k)(h:qg k x):bf false qg mj k x (kG k x):=by
 try dsimp only[Ty.den]at*
 unfold qg at h;unfold kG;refine bf.cnd (λhc=> ?_) (λ_=>rfl);rw[adv]at hc;have e:i64.wrap (x.1+1)=x.1+1:=aA (by omega) (by omega);rw[e];refine⟨rfl,?_,?_⟩
 ·simp only[qg,BZ,vX,vW,oO,oK,au1,avi,avk,adv,aut]
  omega
 ·simp only[mj]
  omega
theorem ajc:bF f132 zW [0] Jq:=lA (Ml []) [] l0 (λk x fk fx h=>sf (letI b:=(4,aa k.2.1 x.1,x.2,x.1);letI c:=tE b;letI a:=(5,jF (aa k.2.2.1 c.2.2),c.2);letI d:=tE a;letI e:=decide (x.1<k.1);(e=true->(0<=x.1/\x.1<k.2.1.length)/\oO b/\(0<=c.2.2/\c.2.2<k.2.2.1.length)/\oO a/\(0<=d.2.2/\d.2.2<k.2.2.2.1.length)/\oO (6,jF (aa k.2.2.2.1 d.2.2),d.2)/\True)/\(e=false->True)) (by
 try dsimp only[Ty.den]at*
 unfold qg at h;simp only[vX,vW,oO,oK,au1,avi,avk,adv,aut]at*
 (repeat' (first|exact trivial|apply And.intro|intro _))<;>first|trivial|omega)) Sg
theorem aho:bF f132 zW [1] P8:=lA (Ml []) [(5,Jq)] l0 (λk x fk fx h=>sf (letI b:=(1,0,0,x.2,aa k.1 x.1);letI a:=(3,(qJ b).2.2.2.2.1,0,(qJ b).2);letI c:=decide (x.1<k.2);letI d:=qJ a;(c=true->(0<=x.1/\x.1<k.1.length)/\oK b/\oK a/\oK (7,jF d.2.2.2.2.2.2,d.2.2.2.2.2.1,d.2)/\True)/\(c=false->True)) (by
 try dsimp only[Ty.den]at*
 unfold yr at h;simp only[vX,vW,oO,oK,au1,avi,avk,adv,aut]at*
 (repeat' (first|exact trivial|apply And.intro|intro _))<;>first|trivial|omega)) λk x fk h=>by
 try dsimp only[Ty.den]at*
 unfold yr at h;unfold oB;refine bf.cnd (λhc=> ?_) (λ_=>rfl);rw[adv]at hc;have e:i64.wrap (x.1+1)=x.1+1:=aA (by omega) (by omega);rw[e];refine⟨rfl,?_,?_⟩
 ·simp only[yr,BL,vX,vW,oO,oK,au1,avi,avk,adv,aut]
  omega
 ·simp only[rO]
  omega
theorem YC:ar 132 zW:=au (Ml []) func132 [(5,Jq),(13,P8)] (lc ajc (lc aho l0)) (sp λx fx h=>sf (letI a:=((x.2.1.length:Int),x.2);((!cJ x)=true->True)/\((!cJ x)=false->qg a (0,[])/\yr (x.2.2.2.2,x.2.2.2.2.length) (0,(Dy a (0,[])).2)/\True)) (by
 try dsimp only[Ty.den]at*
 have hp:x.2.2.2.2.length<=1000:=h;refine⟨λ_=>trivial,λhc=> ?_⟩;obtain⟨_,h1,h2,h3,h4⟩:=Br fx.1.2.2.2.2.2.2.2.1 hc;have hin:qg (((x.2.1).length:Int),x.2) ((0:Int),[]):=⟨au4 _,rfl,h2.trans h1.symm,h3.trans h1.symm,by rw[h1];exact Int.ofNat_le.2 h4,auz _,rfl⟩;have hI:=oE (λy hy=>Sg (((x.2.1).length:Int),x.2) y ⟨trivial,fx.2⟩ hy) (λy k' z hz=>by
  unfold kG at hz;revert hz
  cases decide (y.1<(((x.2.1).length:Int),x.2).1)<;>intro hz<;>cases hz;rfl) (Nat.succ (mj (((x.2.1).length:Int),x.2) ((0:Int),[]))) _ hin
 refine⟨hin,⟨au4 _,rfl,Int.ofNat_le.2 hp,?_⟩,trivial⟩;obtain⟨_,_,_,_,q1,q2,q3⟩:=hI;exact ahh q2 q1 q3))
def abe:=(132,zW)::acv
theorem Sr:cu abe:=gc YC func132 (TZ)
def abz(x:((eW)×Int)×Int):=((),(x.1.1,x.2),x.2)
def Zd:Cp:=letI a:=Ty.pair eo ae;⟨a,[],[true,true],[3,1],false,false,a,Ty.unit,ah.none,none,abz,none,undef⟩
theorem anf:jP 195 Zd:=rj (dN (xU true) uv dh Sr []) func195 [] l0 (λ_ _ _=>tr)
def aa8:=(195,Zd)::acs
theorem ym:ia aa8:=pc anf func195 (uv)
def abk:List (Nat×Ct):=abe
theorem Ti:cu abk:=Sr
def EH(x:Int×((eW)×Int)×ay):=letI a:=x.2.2.2;letI b:=nV (x.1,x.2.1,x.2.2.1,a.1);letI c:=abz (x.2.1,a.2);bif b !=0 then((((ByteArray.empty,ByteArray.empty),0),0,b),a.2)else bif a.1==0 then((x.2.1,0,8),a.2)else((c.2.1,i64.wrap (a.1-1),0),c.2.2)
def SP(x:Int×((eW)×Int)×ay):Prop:=x.2.2.2.2=x.2.2.1
def KU:Cv:={p:=Ty.pair ae (Ty.pair eo (Ty.pair ae (Ty.pair ae ae))),ax:= [none,some 3,none,none],mask:= [.v,.v,.v,.v,.c 195 1],sz:= [1],ro:=false,vi:= [],q:=ae,r:=Ty.pair eo (Ty.pair ae bX),ao:=ah.tup [some 3,none,none],vo:= [],pre:=some SP,F:=EH}
theorem amG:dP 192 KU:=dV (dN (xU true) ym dh Ti []) func192 [] l0 (λ_ _ _=>tr)
def acM(nw:Bool):=(192,.pv KU)::adr nw
theorem Qu(nw:Bool):gj (acM nw):=zc (z:= .pv KU) amG func192 ((xU nw))
def acu:List (Nat×Ct):=abk
theorem T8:cu acu:=Ti
def tf(x:Int×((eW)×Int)×af):=(EH (x.1,x.2.1,x.2.2.1,x.2.2.2,x.2.2.1)).1
def Lq:Ct:=⟨Ty.pair ae (Ty.pair eo (Ty.pair ae ae)),[none,some 3,none,none],Ty.pair eo (Ty.pair ae bX),ah.tup [some 3,none,none],none,none,tf⟩
theorem Zl:ar 138 Lq:=au (dN (Qu true) ym dh T8 []) func138 [] l0 (λx fx _=>sf (SP (x.1,x.2.1,x.2.2.1,x.2.2.2,x.2.2.1)/\True) (by
 exact⟨rfl,trivial⟩))
def abB:=(138,Lq)::acu
theorem ajg:cu abB:=gc Zl func138 (T8)
section
open Ieee
abbrev fmt:Format:=FloatKind.f64.format
def lF(x:Nat):Prop:= ∃s m p,fmt.read x= .number s m p
def NN(x:Nat):Prop:=(fmt.read x).isNaN=false
theorem lF.nn{x:Nat}(h:lF x):NN x:=by
 obtain⟨s,m,p,e⟩:=h;unfold NN;rw[e];rfl
theorem GR{a x b:Nat}(h1:fmt.order a x=some .lt)(h2:fmt.order x b=some .lt):lF x:=by
 unfold Format.order at h1 h2;cases hx:fmt.read x with
 |number s m p=>exact⟨s,m,p,hx⟩
 |nan s f=>rw[hx]at h2;cases h2
 |infinity s=>
  rw[hx]at h1 h2;cases s with
  |true=>cases ha:fmt.read a<;>rw[ha]at h1<;>first|cases h1|(rename_i t;cases t<;>cases h1)
  |false=>cases hb:fmt.read b<;>rw[hb]at h2<;>first|cases h2|(rename_i t;cases t<;>cases h2)
theorem arV:lF 9218868437227405311:=⟨_,_,_,rfl⟩
theorem afE{a x b:Nat}(h1:fmt.order a x=some .lt)(h2:fmt.order x b=some .lt\/fmt.order x b=some .eq)(hb:lF b):lF x:=by
 rcases h2 with h2|h2
 ·grind [GR]
 ·unfold Format.order at h1 h2
  obtain⟨s,m,p,e⟩:=hb;rw[e]at h2;cases hx:fmt.read x with
  |number s m p=>exact⟨s,m,p,hx⟩
  |nan s f=>rw[hx]at h2;cases h2
  |infinity s=>rw[hx]at h2;cases s<;>cases h2
structure Lds (b:ab):Prop where
 em:lF b.2.2.2.2.1
 fu:lF b.2.2.2.2.2.1
 ov:lF b.2.2.2.2.2.2.1
 h0:fmt.order 0 b.2.2.2.2.1=some .lt
 h1:fmt.order b.2.2.2.2.1 b.2.2.2.2.2.1=some .lt
 h2:fmt.order b.2.2.2.2.2.1 b.2.2.2.2.2.2.1=some .lt
theorem am0{b:ab}(h:pY b=true):Lds b:=by
 unfold pY Gn at h;simp only[au0,av9,awt]at h;obtain⟨⟨⟨h0,h1⟩,h2⟩,h3⟩:=h;exact⟨GR h0 h1,GR h1 h2,afE h2 h3 arV,h0,h1,h2⟩
theorem ae4(a:Bool)(f:Nat)(g:Int):NN (fmt.nearest a f g):=by
 have key: ∀(a:Bool) (r:Nat),r<=fmt.infRung->NN (fmt.word a r):=by
  intro a r hr;have h:fmt.infRung=9218868437227405312:=rfl;have i:fmt.signWeight=9223372036854775808:=rfl;have hm:fmt.word a r % fmt.signWeight=r:=by
   grind [Format.word]
  unfold NN Format.read;simp only;split
  ·rfl
  ·split
   ·rfl
   ·split
    ·rfl
    ·omega
 unfold Format.nearest;split
 ·exact key _ _ (awc _)
 ·exact key _ _ (Nat.min_le_right _ _)
theorem VQ{x y:Nat}(h:lF x)(i:lF y): ∃z,fmt.sub x y=some z/\NN z:=by
 obtain⟨s,m,p,e⟩:=h;obtain⟨t,n,q,j⟩:=i;obtain⟨a,f,g,hs⟩: ∃a f g,(Datum.number s m p).sum (Datum.number t n q).opposite=some (.number a f g):=⟨_,_,_,rfl⟩
 refine⟨fmt.nearest a f g,?_,ae4 _ _ _⟩;unfold Format.sub;rw[e,j,hs];rfl
theorem OR:lF 4589168020290535424:=⟨_,_,_,rfl⟩
end
abbrev bE:=(eQ)×sQ
abbrev az:=en
abbrev bT:=Int×Int×Int×(List (ay))×ir
abbrev iE:=(af)×(Ev)×(ay)×KH
abbrev ak:=(List Int)×(List Bool)×(List Bool)×List (en)
abbrev bO:=(eW)×Int
abbrev aZ:=Bool×Bool×Bool×Bool×Int×Int×Int×(af)×ay
abbrev bg:=((List Int)×(List Bool)×(List Bool)×List (en))×((eW)×Int)×(List ((eQ)×sQ))×(List (Int×Int×Int×(List (ay))×ir))×(List ((af)×(Ev)×(ay)×KH))×(List Int)×(List Int)×(List (af))×ay
abbrev aq:=(Int×Int×Int×Int×Nat×Nat×Nat×List (ey))×(((List Int)×(List Bool)×(List Bool)×List (en))×((eW)×Int)×(List ((eQ)×sQ))×(List (Int×Int×Int×(List (ay))×ir))×(List ((af)×(Ev)×(ay)×KH))×(List Int)×(List Int)×(List (af))×ay)×((af)×(af)×List ((eQ)×(gw)×kH))×Bool×Int×Int×(List Bool)×(List (af))×(List Bool)×(af)×(af)×Bool×Bool×Int×List (((af)×Bool)×(af)×Bool×Int×ir)
abbrev bY:=((List (aP))×((List Int)×(List Bool)×(List Bool)×List (en))×(List Int)×((List (af))×(List Bool)×af)×af)×Int×Int×Int×Int×Nat×Nat×Nat×List (ey)
abbrev la:=(af)×(af)×Bool×Bool×Int×List (((af)×Bool)×(af)×Bool×Int×ir)
theorem Xg{b:ab}(hl:b.2.2.2.2.2.2.2.length<=maxLen)(h:(ca b !=0)=false):b.2.2.2.2.2.2.2.length<=8:=by
 have a:=oD hl (by simp_all);exact a.cn.2
theorem nK{n:Nat}(h:n<=8)(b:Int)(h0:0<=b/\b<=100000):0<=(n:Int)/\n=(n:Int)/\n*b<=140737488355328/\(n:Int)<=4611686018427387903:=by
 have:n*b<=8*b:=aAd (by omega) h0.1;omega
def B6(t:lE):Prop:=
 (0<=t.1/\t.1<=255)/\(0<=t.2.1/\t.2.1<=255)/\(0<=t.2.2.1/\t.2.2.1<=255)/\(0<=t.2.2.2.1/\t.2.2.2.1<=255)/\(0<=t.2.2.2.2.1/\t.2.2.2.2.1<=255)/\(0<=t.2.2.2.2.2/\t.2.2.2.2.2<=255)
theorem zt{i j:Int}(h0:0<=i)(h1:i<=j)(h2:j<=1000000):i64.wrap (Int.fdiv (u64.wrap (i64.wrap (i+j))) (2^(min ((1:Int)).toNat u64.bits)))=(i+j)/2:=by
 have e:u64.wrap (i+j)=i+j:=by grind [IntKind.wrap_u64]
 have a:(2^(min ((1:Int)).toNat u64.bits))=2:=by decide
 grind [aA]
theorem oP{a b:Nat}(h:a<=b):a<=(b:Int):=Int.ofNat_le.2 h
theorem oC{α:Type}{x:List α}{b c d:Nat}(h:x.length<=100000)(hb:b<=1000:=by decide)(a:c=140737488355328:=by rfl)(f:d=4611686018427387903:=by rfl):
  (x= []->True/\(([]:List α),())=((([]:List α)++x),()))/\(([]:List α).length+x.length)*b<=c/\([]:List α).length+x.length<=d:=by
 refine⟨λe=>⟨trivial,by simp_all⟩,?_,by grind⟩;rw[avk,avs];calc x.length*b<=100000*1000:=aza h hb
  _<=c:=by omega
theorem af8{α:Type}{x:List α}{b c d:Nat}(h:x.length<=100000)(hb:b<=1000:=by decide)(a:c=140737488355328:=by rfl)(f:d=4611686018427387903:=by rfl):
  (x= []->True/\([]:List α)=(([]:List α)++x))/\(([]:List α).length+x.length)*b<=c/\([]:List α).length+x.length<=d:=by
 have:=oC h hb a f;simp_all
theorem tm4{v:Int}(h:0<=v/\v<=255):0<=i64.wrap (Int.tmod v 4)/\i64.wrap (Int.tmod v 4)<=3:=by
 grind [aA]
theorem asS{s:ByteArray}(h1:1<=s.size)(h2:s.size<=1000):(ByteArray.extract s (Int.toNat 0) (Int.toNat (i64.wrap (s.size-1)))).size+1=s.size:=by
 grind [aA,extract_size]
theorem aa4{s:ByteArray}(h1:1<=s.size)(h2:s.size<=1000):(dq (ByteArray.extract s (Int.toNat 0) (Int.toNat (i64.wrap (s.size-1)))) (ByteArray.mk #[63])).size=s.size:=by
 rw[mX];have h3:(ByteArray.mk #[63]).size=1:=rfl;grind [asS]
theorem cA{x:Int}{n:Nat}(h0:0<=x)(h:x<n)(a:n<=maxLen):i64.wrap (x+1)=x+1:=by
 grind [maxLen,aA]
theorem AM{x n:Int}(h0:0<=x)(h:x<n)(a:n<=100000):i64.wrap (x+1)=x+1:=aA (by omega) (by omega)
theorem dg{x n:Int}(h:x<n):(n - (x+1)).toNat<(n-x).toNat:=by omega
theorem ig{x:Int}{n:Nat}(h0:0<=x)(h:x<n):0<=x/\x<n:=⟨h0,h⟩
theorem gM{α:Type} [Inhabited α]{l:List α}{p:α->Prop}(h: ∀a∈l,p a){i:Int}(hi:0<=i/\i<l.length):p (aa l i):=by
 rw[Uf l i hi.1 hi.2];simp_all
theorem Tp{α:Type}{l:List α}{p:α->Prop}(h: ∀a∈l,p a){i:Nat}{v:α}(f:p v): ∀a∈l.set i v,p a:=λa g=>by
 grind
theorem anb{α β γ δ:Type}{l:List α}{m:List β}{f:List γ}{c:List δ}{n:Nat}(h1:l.length=n)(h2:m.length=n)(h3:f.length=n)(h4:n<=8)(h5:c.length=(n:Int)):
 (l.length:Int)<=8/\f.length=l.length/\m.length=l.length/\c.length=l.length/\(([]:List Int).length:Int)<=3*0:=⟨by omega,by omega,by omega,by omega,by decide⟩
theorem alP{α β:Type}{l:List α}{m:List β}{n:Nat}(h2:l.length=(n:Int))(h3:m.length=(n:Int))(a:n<=8):(l.length:Int)<=8/\m.length=l.length/\(([]:List Int).length:Int)=0/\(([]:List Int).length:Int)=0:=⟨by omega,by omega,rfl,rfl⟩
theorem arG{α:Type}{l:List α}{x:Int}(h1:l.length<=2*x)(h0:0<=x)(a:x<32):l.length<=2*x+1-1/\0<=x/\x<=32/\(1:Int)<=3:=⟨by omega,h0,by omega,by decide⟩
theorem ao9{n a d:Int}(h:n<=2*a+d-1)(f:d<=3):n<=2*(a+1):=by omega
def LL(m:bg):Prop:=
 (m.1.1.length<=100000/\m.1.2.1.length<=100000/\m.1.2.2.1.length<=100000/\m.1.2.2.2.length<=100000)/\
 m.2.2.1.length<=100000/\(m.2.2.2.1.length<=100000/\ ∀d∈m.2.2.2.1,d.2.2.2.1.length<=100000)/\m.2.2.2.2.1.length<=100000/\m.2.2.2.2.2.1.length<=100000/\m.2.2.2.2.2.2.1.length<=100000/\m.2.2.2.2.2.2.2.1.length<=100000
theorem CB{i j n:Int}(h0:0<=i)(h:i<j)(a:j<=n):0<=(i+j)/2/\(i+j)/2<n:=by omega
theorem abt{i j:Int}(h0:0<=i)(h:i<j):0<=(i+j)/2+1:=by omega
theorem abR{i j:Int}(h0:0<=i)(h:i<j):(i+j)/2+1<=j:=by omega
theorem acK{i j:Int}(h0:0<=i)(h:i<j):(j - ((i+j)/2+1)).toNat<(j-i).toNat:=by omega
theorem aaR{i j:Int}(h0:0<=i)(h:i<j):i<=(i+j)/2:=by omega
theorem abc{i j:Int}(h0:0<=i)(h:i<j):((i+j)/2-i).toNat<(j-i).toNat:=by omega
theorem Vl{i j:Int}(h0:0<=i)(h:i<j):(i+j)/2<j:=by omega
theorem Nq{α:Type}{l m:List α}{n:Int}(h:l.length=n)(hm:m.length=1:=by rfl):((l++m).length:Int)=n+1:=by simp_all
end Go.Proofs.YtcfinjcapeemeaaGreatDoor.S
