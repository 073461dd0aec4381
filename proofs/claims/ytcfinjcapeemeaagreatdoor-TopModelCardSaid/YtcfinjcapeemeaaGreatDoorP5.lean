/- Part of the proof that the law TopModel holds for every input. -/
import Derived.Test.YtcfinjcapeemeaaGreatDoorP4
set_option linter.all false
set_option maxRecDepth 100000
set_option maxHeartbeats 4000000
namespace Go.Proofs.YtcfinjcapeemeaaGreatDoor.S
open Go Go.RowKit IntKind Go.Proofs.Tryz
abbrev bK:Ty:= .str
abbrev am5:Ty:= .fnt
abbrev aqK:Ty:= .fnt
abbrev aqG:Ty:= .fnt
abbrev LO:Ty:= .fnt
abbrev Fg:Ty:= .fnt
abbrev zO:Ty:= .fnt
abbrev zN:Ty:= .fnt
abbrev apU:Ty:= .fnt
abbrev apw:Ty:= .fnt
abbrev am9:Ty:= .fnt
abbrev aq1:Ty:= .fnt
abbrev aqP:Ty:= .fnt
abbrev an6:Ty:= .fnt
abbrev anq:Ty:= .fnt
abbrev apq:Ty:= .fnt
abbrev anm:Ty:= .fnt
abbrev aw:Ty:= .bool
abbrev aql:Ty:= .unit
abbrev bB:Ty:= .int .u8
abbrev oX:Ty:= .sl .str
abbrev ab:Ty:= .int .i64
abbrev sT:Ty:= .flt .f64
abbrev fY:Ty:= .sl .bool
abbrev bI:Ty:=ab
abbrev jI:Ty:= .int .u32
abbrev ny:Ty:= .int .u64
abbrev jw:Ty:=ab
abbrev arq:Ty:=ny
abbrev oG:Ty:= .int .u16
abbrev qx:Ty:= .sl bB
abbrev cX:Ty:= .sl ab
abbrev aag:Ty:= .pair .str .str
abbrev AA:Ty:=cX
abbrev apz:Ty:= .pair .fnt (.pair .fnt .fnt)
abbrev aU:Ty:= .pair jI jI
abbrev oR:Ty:= .pair ab ab
abbrev LZ:Ty:=oR
abbrev vN:Ty:=oR
abbrev eu:Ty:= .pair aag ab
abbrev oN:Ty:= .sl aU
abbrev wj:Ty:= .pair aU .bool
abbrev Ax:Ty:= .pair bB (.pair bB bB)
abbrev jf:Ty:= .pair ab oR
abbrev Mc:Ty:=jf
abbrev gx:Ty:=jf
abbrev aq3:Ty:=jf
abbrev sD:Ty:= .pair jI aU
abbrev ZO:Ty:=jf
abbrev fW:Ty:= .sl jf
abbrev sU:Ty:= .pair ab (.pair .bool (.pair ab .bool))
abbrev jg:Ty:= .pair jI (.pair .bool (.pair .bool (.pair .bool .bool)))
abbrev Ls:Ty:= .pair ab jf
abbrev dP:Ty:= .pair ab (.pair ab (.pair ab (.pair ab .bool)))
abbrev EO:Ty:= .pair ab (.pair ab (.pair ab (.pair .bool ab)))
abbrev dg:Ty:= .sl dP
abbrev E6:Ty:= .pair aU jf
abbrev jx:Ty:= .pair ab Ls
abbrev ZA:Ty:= .pair .bool (.pair .bool (.pair .bool jf))
abbrev KX:Ty:= .sl E6
abbrev dF:Ty:= .sl jx
abbrev vQ:Ty:= .pair oN (.pair fY aU)
abbrev atd:Ty:= .sl KX
abbrev sB:Ty:= .pair bB (.pair bB (.pair bB Ax))
abbrev eL:Ty:= .pair ab (.pair ab (.pair ab (.pair fW (.pair ab .bool))))
abbrev gM:Ty:= .pair wj (.pair aU (.pair .bool (.pair ab (.pair ab .bool))))
abbrev bO:Ty:= .pair cX (.pair fY (.pair fY dg))
abbrev vX:Ty:= .sl eL
abbrev abz:Ty:= .sl gM
abbrev fX:Ty:= .pair ab (.pair ab (.pair ab (.pair ab jx)))
abbrev ly:Ty:= .pair jg (.pair sU (.pair jI sT))
abbrev Nq:Ty:= .sl fX
abbrev FM:Ty:= .sl ly
abbrev E7:Ty:= .pair bO (.pair ab .bool)
abbrev eR:Ty:= .pair .bool (.pair .bool (.pair .bool (.pair .bool (.pair ab (.pair ab (.pair ab (.pair aU sD)))))))
abbrev gw:Ty:= .sl eR
abbrev iM:Ty:= .pair oR (.pair EO (.pair jf (.pair jI (.pair ab (.pair ab .bool)))))
abbrev dQ:Ty:= .pair aU (.pair oR FM)
abbrev vR:Ty:= .sl iM
abbrev Ad:Ty:= .pair aU (.pair aU (.pair .bool (.pair .bool (.pair ab abz))))
abbrev az:Ty:= .pair ab (.pair ab (.pair ab (.pair ab (.pair sT (.pair sT (.pair sT Nq))))))
abbrev dC:Ty:= .pair .str az
abbrev aoT:Ty:= .pair az (.pair ab fW)
abbrev EY:Ty:= .pair dF (.pair bO (.pair cX (.pair vQ aU)))
abbrev EJ:Ty:= .pair az gw
abbrev aqt:Ty:= .pair bB (.pair bB (.pair bB (.pair bB (.pair bB (.pair bB (.pair bB (.pair bB (.pair bB (.pair bB (.pair bB (.pair bB (.pair bB (.pair bB (.pair bB (.pair bB (.pair bB (.pair bB (.pair bB (.pair bB (.pair bB (.pair bB (.pair bB (.pair bB (.pair bB (.pair bB sB)))))))))))))))))))))))))
abbrev aqJ:Ty:= .pair az (.pair ab (.pair iM (.pair sU ab)))
abbrev Ns:Ty:= .pair ab (.pair ab (.pair ab (.pair ab (.pair ab (.pair ab (.pair ab (.pair ab (.pair ab (.pair ab (.pair ab (.pair ab (.pair ab (.pair ab (.pair ab (.pair ab (.pair ab (.pair ab (.pair ab (.pair ab (.pair ab (.pair ab (.pair ab (.pair ab (.pair ab (.pair ab (.pair ab fX))))))))))))))))))))))))))
abbrev oB:Ty:= .pair EY az
abbrev du:Ty:= .pair jg Ns
abbrev qp:Ty:= .sl du
abbrev fB:Ty:= .pair bO (.pair eu (.pair qp (.pair vX (.pair vR (.pair cX (.pair cX (.pair oN jf)))))))
abbrev dj:Ty:= .pair az (.pair fB (.pair dQ (.pair .bool (.pair ab (.pair ab (.pair fY (.pair oN (.pair fY Ad))))))))
def bU:TD:=⟨.ei,ab,false,8,false⟩
def gH:TD:=⟨.ei,aw,false,1,false⟩
def td5:TD:=⟨.ei,bB,false,1,false⟩
def td9:TD:=⟨.ei,bK,false,16,false⟩
def adr:TD:=⟨.array 3 5,Ax,true,3,false⟩
def acN:TD:=⟨.slice 5,qx,false,24,false⟩
def ads:TD:=⟨.ei,sT,false,8,false⟩
def ac7:TD:=⟨.slice 106,Nq,false,24,false⟩
def aaN:TD:=⟨.struct [(3,0),(3,1),(3,2),(3,3),(24,4),(24,5),(24,6),(25,7)],az,true,80,false⟩
def ac0:TD:=⟨.slice 3,cX,false,24,false⟩
def acm:TD:=⟨.slice 4,fY,false,24,false⟩
def abn:TD:=⟨.slice 93,dg,false,24,false⟩
def abL:TD:=⟨.struct [(29,0),(30,1),(30,2),(31,3)],bO,true,96,false⟩
def acy:TD:=⟨.array 2 9,aag,true,32,false⟩
def ach:TD:=⟨.struct [(34,0),(3,2)],eu,true,40,false⟩
def abZ:TD:=⟨.slice 70,qp,false,24,false⟩
def abi:TD:=⟨.slice 142,vX,false,24,false⟩
def adf:TD:=⟨.slice 153,vR,false,24,false⟩
def aav:TD:=⟨.slice 158,AA,false,24,false⟩
def aaC:TD:=⟨.slice 51,oN,false,24,false⟩
def adk:TD:=⟨.struct [(33,0),(36,4),(37,7),(38,8),(39,9),(40,10),(29,11),(41,12),(3,13),(3,14),(3,15)],fB,true,304,false⟩
def M4:TD:=⟨.ei,bI,false,8,false⟩
def abE:TD:=⟨.slice 9,oX,false,24,false⟩
def sM:TD:=⟨.ei,jI,false,4,false⟩
def tp:TD:=⟨.struct [(49,0),(49,1)],aU,true,8,true⟩
def ab8:TD:=⟨.struct [(3,0),(3,1)],oR,true,16,true⟩
def abM:TD:=⟨.slice 76,FM,false,24,false⟩
def Ms:TD:=⟨.struct [(51,0),(53,2),(54,4)],dQ,true,48,false⟩
def aaQ:TD:=⟨.slice 85,abz,false,24,false⟩
def abc:TD:=⟨.struct [(51,0),(51,2),(4,4),(4,5),(44,6),(61,7)],Ad,true,56,false⟩
def abr:TD:=⟨.struct [(49,0),(4,1),(4,2),(4,3),(4,4)],jg,true,8,true⟩
def aam:TD:=⟨.array 36 3,Ns,true,288,false⟩
def aaj:TD:=⟨.struct [(67,0),(68,5)],du,true,296,false⟩
def aaJ:TD:=⟨.struct [(3,0),(4,1),(3,2),(4,3)],sU,true,32,true⟩
def abo:TD:=⟨.struct [(67,0),(74,5),(49,9),(24,10)],ly,true,56,false⟩
def MQ:TD:=⟨.struct [(3,0),(3,1),(3,2)],jf,true,24,true⟩
def Nn:TD:=⟨.struct [(51,0),(4,2)],wj,true,12,true⟩
def acH:TD:=⟨.struct [(83,0),(51,3),(4,5),(3,6),(3,7),(4,8)],gM,true,48,true⟩
def abq:TD:=⟨.struct [(3,0),(3,1),(3,2),(3,3),(4,4)],dP,true,40,true⟩
def acE:TD:=⟨.slice 100,atd,false,24,false⟩
def YT:TD:=⟨.slice 102,KX,false,24,false⟩
def XH:TD:=⟨.struct [(51,0),(80,2)],E6,true,32,true⟩
def Yi:TD:=⟨.struct [(3,0),(3,1),(3,2),(3,3),(3,4),(3,5),(3,6),(3,7),(3,8)],fX,true,72,true⟩
def YG:TD:=⟨.array 6 5,sB,true,6,false⟩
def Xf:TD:=⟨.ei,ny,false,8,false⟩
def YH:TD:=⟨.ei,am5,false,8,false⟩
def Wh:TD:=⟨.array 4 3,Ls,true,32,false⟩
def WH:TD:=⟨.slice 191,fW,false,24,false⟩
def WQ:TD:=⟨.struct [(3,0),(3,1),(3,2),(140,3),(3,4),(4,5)],eL,true,64,false⟩
def ZN:TD:=⟨.ei,aqK,false,8,false⟩
def L5:TD:=⟨.struct [(3,0),(3,1)],LZ,true,16,true⟩
def KY:TD:=⟨.struct [(3,0),(3,1),(3,2),(4,3),(3,4)],EO,true,40,true⟩
def L6:TD:=⟨.struct [(3,0),(3,1),(3,2)],Mc,true,24,true⟩
def Wl:TD:=⟨.struct [(147,0),(149,2),(151,7),(49,10),(3,11),(3,12),(4,13)],iM,true,112,true⟩
def Xr:TD:=⟨.ei,aqG,false,8,false⟩
def Y4:TD:=⟨.struct [(3,0)],jw,true,8,true⟩
def Z0:TD:=⟨.ei,LO,false,8,false⟩
def Xb:TD:=⟨.ei,arq,false,8,false⟩
def Y6:TD:=⟨.ei,oG,false,2,false⟩
def ZS:TD:=⟨.struct [(27,0),(43,8),(56,24),(4,29),(3,30),(44,31),(30,32),(41,33),(30,34),(63,35)],dj,true,584,false⟩
def Wd:TD:=⟨.struct [(3,0),(3,1),(3,2)],gx,true,24,true⟩
def Yb:TD:=⟨.ei,Fg,false,8,false⟩
def Zz:TD:=⟨.ei,zO,false,8,false⟩
def YO:TD:=⟨.slice 213,dF,false,24,false⟩
def YN:TD:=⟨.struct [(3,0),(3,1),(3,2),(3,3),(3,4)],jx,true,40,true⟩
def Zl:TD:=⟨.struct [(27,0),(3,8),(140,9)],aoT,true,112,false⟩
def YZ:TD:=⟨.array 32 5,aqt,true,32,false⟩
def Y2:TD:=⟨.ei,zN,false,8,false⟩
def XM:TD:=⟨.ei,apU,false,8,false⟩
def Wk:TD:=⟨.struct [(9,0),(27,1)],dC,true,96,false⟩
def YX:TD:=⟨.ei,apw,false,8,false⟩
def XD:TD:=⟨.struct [(41,0),(30,1),(51,2)],vQ,true,56,false⟩
def Wg:TD:=⟨.struct [(208,0),(33,1),(29,5),(274,6),(51,10)],EY,true,208,false⟩
def Y0:TD:=⟨.slice 335,gw,false,24,false⟩
def Zn:TD:=⟨.ei,am9,false,8,false⟩
def Zj:TD:=⟨.ei,aq1,false,8,false⟩
def ZU:TD:=⟨.ei,aqP,false,8,false⟩
def Ws:TD:=⟨.array 3 3,aq3,true,24,false⟩
def Z4:TD:=⟨.ei,an6,false,8,false⟩
def XZ:TD:=⟨.ei,anq,false,8,false⟩
def Zq:TD:=⟨.struct [],aql,true,0,false⟩
def Xq:TD:=⟨.struct [(276,0),(27,12)],oB,true,288,false⟩
def Li:TD:=⟨.struct [(49,0),(51,1)],sD,true,12,true⟩
def Yh:TD:=⟨.struct [(4,0),(4,1),(4,2),(4,3),(3,4),(3,5),(3,6),(51,7),(333,9)],eR,true,56,true⟩
def aaa:TD:=⟨.struct [(27,0),(3,8),(153,9),(74,23),(3,27)],aqJ,true,240,false⟩
def WB:TD:=⟨.struct [(33,0),(3,4),(4,5)],E7,true,112,false⟩
def Ww:TD:=⟨.struct [(27,0),(279,8)],EJ,true,104,false⟩
def We:TD:=⟨.ei,apq,false,8,false⟩
def Yr:TD:=⟨.struct [(3,0),(3,1),(3,2)],ZO,true,24,true⟩
def Wb:TD:=⟨.array 2 3,vN,true,16,true⟩
def WJ:TD:=⟨.struct [(4,0),(4,1),(4,2),(3,3),(3,4),(3,5)],ZA,true,32,true⟩
def ZC:TD:=⟨.ei,anm,false,8,false⟩
def Zr:TD:=⟨.array 3 412,apz,true,24,false⟩
def vS:List (Nat×TD):= [(3,bU),(4,gH),(5,td5),(9,td9),(22,adr),(23,acN),(24,ads),(25,ac7),(27,aaN),(29,ac0),(30,acm),(31,abn),(33,abL),(34,acy),(36,ach),(37,abZ),(38,abi),(39,adf),(40,aav),(41,aaC),(43,adk),(44,M4),(47,abE),(49,sM),(51,tp),(53,ab8),(54,abM),(56,Ms),(61,aaQ),(63,abc),(67,abr),(68,aam),(70,aaj),(74,aaJ),(76,abo),(80,MQ),(83,Nn),(85,acH),(93,abq),(99,acE),(100,YT),(102,XH),(106,Yi),(108,YG),(114,Xf),(125,YH),(131,Wh),(140,WH),(142,WQ),(144,ZN),(147,L5),(149,KY),(151,L6),(153,Wl),(155,Xr),(158,Y4),(159,Z0),(162,Xb),(176,Y6),(180,ZS),(191,Wd),(192,Yb),(199,Zz),(208,YO),(213,YN),(219,Zl),(230,YZ),(244,Y2),(246,XM),(260,Wk),(271,YX),(274,XD),(276,Wg),(279,Y0),(287,Zn),(289,Zj),(294,ZU),(297,Ws),(301,Z4),(302,XZ),(307,Zq),(326,Xq),(333,Li),(335,Yh),(351,aaa),(358,WB),(364,Ww),(380,We),(389,Yr),(393,Wb),(408,WJ),(412,ZC),(414,Zr)]
theorem io(t:TypeId)(ty:Ty)(a:Bool)(h:(prog.info? t).map (λi=>(i.size,i.zero))=some (ty.n,some (cj a (zeroVs ty))):=by kernel_rfl):lk prog t ty a:=xy h
abbrev TO(t:TypeId)(d:TD):Prop:=jJ prog t d
theorem tA{t:TypeId}{d:TD}{e:TypeDesc}(a:prog.underlying t=some e)
 (f:kindOk prog d e:=by first|exact rfl|exact⟨rfl,rfl⟩|exact⟨rfl,_,rfl,rfl,ahs (by kernel_rfl)⟩)
 (hi:(prog.info? t).map (λi=>(i.size,i.zero))=some (d.ty.n,some (cj d.agg (zeroVs d.ty))):=by kernel_rfl)
 (g:d.agg=(match e with| .struct _=>true| .array _ _=>true|_=>false):=by rfl)
 (h:d.agg=false->plainOk d.ty e:=by first|exact λ_=>rfl|exact λ_=>trivial|exact λ_=>⟨_,rfl⟩|exact nofun)
 (h1:d.agg=false->d.ty.n=1:=by first|exact λ_=>rfl|exact nofun):TO t d:=aj4 a (xy hi) (by cases e<;>exact g) f h h1
theorem bX:TO 3 bU:=tA underlying3
theorem gX:TO 4 gH:=tA underlying4
theorem to5:TO 5 td5:=tA underlying5
theorem to9:TO 9 td9:=tA underlying9
theorem atZ:TO 22 adr:=tA underlying22
theorem arN:TO 23 acN:=tA underlying23 ⟨rfl,rfl,_,_,rfl,io 5 bB false⟩
theorem auk:TO 24 ads:=tA underlying24
theorem asl:TO 25 ac7:=tA underlying25 ⟨rfl,rfl,_,_,rfl,io 106 fX true⟩
theorem atU:TO 27 aaN:=tA underlying27
theorem asP:TO 29 ac0:=tA underlying29 ⟨rfl,rfl,_,_,rfl,io 3 ab false⟩
theorem arR:TO 30 acm:=tA underlying30 ⟨rfl,rfl,_,_,rfl,io 4 aw false⟩
theorem atH:TO 31 abn:=tA underlying31 ⟨rfl,rfl,_,_,rfl,io 93 dP true⟩
theorem atC:TO 33 abL:=tA underlying33
theorem arQ:TO 34 acy:=tA underlying34
theorem ase:TO 36 ach:=tA underlying36
theorem asJ:TO 37 abZ:=tA underlying37 ⟨rfl,rfl,_,_,rfl,io 70 du true⟩
theorem asR:TO 38 abi:=tA underlying38 ⟨rfl,rfl,_,_,rfl,io 142 eL true⟩
theorem asi:TO 39 adf:=tA underlying39 ⟨rfl,rfl,_,_,rfl,io 153 iM true⟩
theorem asB:TO 40 aav:=tA underlying40 ⟨rfl,rfl,_,_,rfl,io 158 jw true⟩
theorem atq:TO 41 aaC:=tA underlying41 ⟨rfl,rfl,_,_,rfl,io 51 aU true⟩
theorem ar2:TO 43 adk:=tA underlying43
theorem acU:TO 44 M4:=tA underlying44
theorem asF:TO 47 abE:=tA underlying47 ⟨rfl,rfl,_,_,rfl,io 9 bK false⟩
theorem wx:TO 49 sM:=tA underlying49
theorem wy:TO 51 tp:=tA underlying51
theorem asn:TO 53 ab8:=tA underlying53
theorem at1:TO 54 abM:=tA underlying54 ⟨rfl,rfl,_,_,rfl,io 76 ly true⟩
theorem abF:TO 56 Ms:=tA underlying56
theorem auj:TO 61 aaQ:=tA underlying61 ⟨rfl,rfl,_,_,rfl,io 85 gM true⟩
theorem at2:TO 63 abc:=tA underlying63
theorem atX:TO 67 abr:=tA underlying67
theorem ash:TO 68 aam:=tA underlying68
theorem ar0:TO 70 aaj:=tA underlying70
theorem aue:TO 74 aaJ:=tA underlying74
theorem atE:TO 76 abo:=tA underlying76
theorem acP:TO 80 MQ:=tA underlying80
theorem ab9:TO 83 Nn:=tA underlying83
theorem atF:TO 85 acH:=tA underlying85
theorem ato:TO 93 abq:=tA underlying93
theorem as9:TO 99 acE:=tA underlying99 ⟨rfl,rfl,_,_,rfl,io 100 KX false⟩
theorem anw:TO 100 YT:=tA underlying100 ⟨rfl,rfl,_,_,rfl,io 102 E6 true⟩
theorem aoZ:TO 102 XH:=tA underlying102
theorem aod:TO 106 Yi:=tA underlying106
theorem apG:TO 108 YG:=tA underlying108
theorem aoH:TO 114 Xf:=tA underlying114
theorem anf:TO 125 YH:=tA underlying125
theorem api:TO 131 Wh:=tA underlying131
theorem aof:TO 140 WH:=tA underlying140 ⟨rfl,rfl,_,_,rfl,io 191 gx true⟩
theorem aoc:TO 142 WQ:=tA underlying142
theorem anS:TO 144 ZN:=tA underlying144
theorem WT:TO 147 L5:=tA underlying147
theorem Xj:TO 149 KY:=tA underlying149
theorem YR:TO 151 L6:=tA underlying151
theorem apP:TO 153 Wl:=tA underlying153
theorem are:TO 155 Xr:=tA underlying155
theorem aru:TO 158 Y4:=tA underlying158
theorem an9:TO 159 Z0:=tA underlying159
theorem an1:TO 162 Xb:=tA underlying162
theorem ard:TO 176 Y6:=tA underlying176
theorem aqE:TO 180 ZS:=tA underlying180
theorem apE:TO 191 Wd:=tA underlying191
theorem aot:TO 192 Yb:=tA underlying192
theorem amY:TO 199 Zz:=tA underlying199
theorem apJ:TO 208 YO:=tA underlying208 ⟨rfl,rfl,_,_,rfl,io 213 jx true⟩
theorem apk:TO 213 YN:=tA underlying213
theorem aoa:TO 219 Zl:=tA underlying219
theorem aoe:TO 230 YZ:=tA underlying230
theorem aq8:TO 244 Y2:=tA underlying244
theorem anH:TO 246 XM:=tA underlying246
theorem apd:TO 260 Wk:=tA underlying260
theorem ape:TO 271 YX:=tA underlying271
theorem aqh:TO 274 XD:=tA underlying274
theorem aro:TO 276 Wg:=tA underlying276
theorem aq2:TO 279 Y0:=tA underlying279 ⟨rfl,rfl,_,_,rfl,io 335 eR true⟩
theorem apg:TO 287 Zn:=tA underlying287
theorem arh:TO 289 Zj:=tA underlying289
theorem apB:TO 294 ZU:=tA underlying294
theorem ao2:TO 297 Ws:=tA underlying297
theorem aqR:TO 301 Z4:=tA underlying301
theorem arw:TO 302 XZ:=tA underlying302
theorem aq9:TO 307 Zq:=tA underlying307
theorem anl:TO 326 Xq:=tA underlying326
theorem Ym:TO 333 Li:=tA underlying333
theorem apF:TO 335 Yh:=tA underlying335
theorem anQ:TO 351 aaa:=tA underlying351
theorem ap8:TO 358 WB:=tA underlying358
theorem anV:TO 364 Ww:=tA underlying364
theorem aqe:TO 380 We:=tA underlying380
theorem aqi:TO 389 Yr:=tA underlying389
theorem apH:TO 393 Wb:=tA underlying393
theorem aoE:TO 408 WJ:=tA underlying408
theorem aoN:TO 412 ZC:=tA underlying412
theorem aol:TO 414 Zr:=tA underlying414
theorem Ak(dd:Nat):dT prog (dd+1) 49 jI false:=S4 underlying49 dd
theorem vW(dd:Nat):dT prog (dd+2) 51 aU true:=gk underlying51 stoodInHeld51 (dd:=dd+1) ⟨by decide,rfl,⟨sM,wx,rfl,Ak dd⟩,⟨by decide,rfl,sM,wx,rfl,Ak dd⟩⟩
theorem ca(dd:Nat):dT prog (dd+1) 3 ab false:=S4 underlying3 dd
theorem arT(dd:Nat):dT prog (dd+2) 53 oR true:=gk underlying53 stoodInHeld53 (dd:=dd+1) ⟨by decide,rfl,⟨bU,bX,rfl,ca dd⟩,⟨by decide,rfl,bU,bX,rfl,ca dd⟩⟩
theorem im(dd:Nat):dT prog (dd+1) 4 aw false:=ahn underlying4 dd
theorem atr(dd:Nat):dT prog (dd+2) 67 jg true:=gk underlying67 stoodInHeld67 (dd:=dd+1) ⟨by decide,rfl,⟨sM,wx,rfl,Ak dd⟩,⟨by decide,rfl,⟨gH,gX,rfl,im dd⟩,⟨by decide,rfl,⟨gH,gX,rfl,im dd⟩,⟨by decide,rfl,⟨gH,gX,rfl,im dd⟩,⟨by decide,rfl,gH,gX,rfl,im dd⟩⟩⟩⟩⟩
theorem arz(dd:Nat):dT prog (dd+2) 74 sU true:=gk underlying74 stoodInHeld74 (dd:=dd+1) ⟨by decide,rfl,⟨bU,bX,rfl,ca dd⟩,⟨by decide,rfl,⟨gH,gX,rfl,im dd⟩,⟨by decide,rfl,⟨bU,bX,rfl,ca dd⟩,⟨by decide,rfl,gH,gX,rfl,im dd⟩⟩⟩⟩
theorem ac9(dd:Nat):dT prog (dd+2) 80 jf true:=gk underlying80 stoodInHeld80 (dd:=dd+1) ⟨by decide,rfl,⟨bU,bX,rfl,ca dd⟩,⟨by decide,rfl,⟨bU,bX,rfl,ca dd⟩,⟨by decide,rfl,bU,bX,rfl,ca dd⟩⟩⟩
theorem aa2(dd:Nat):dT prog (dd+3) 83 wj true:=gk underlying83 stoodInHeld83 (dd:=dd+2) ⟨by decide,rfl,⟨tp,wy,rfl,vW dd⟩,⟨by decide,rfl,gH,gX,rfl,im (dd+1)⟩⟩
theorem atV(dd:Nat):dT prog (dd+4) 85 gM true:=gk underlying85 stoodInHeld85 (dd:=dd+3) ⟨by decide,rfl,⟨Nn,ab9,rfl,aa2 dd⟩,⟨by decide,rfl,⟨tp,wy,rfl,vW (dd+1)⟩,⟨by decide,rfl,⟨gH,gX,rfl,im (dd+2)⟩,⟨by decide,rfl,⟨bU,bX,rfl,ca (dd+2)⟩,⟨by decide,rfl,⟨bU,bX,rfl,ca (dd+2)⟩,⟨by decide,rfl,gH,gX,rfl,im (dd+2)⟩⟩⟩⟩⟩⟩
theorem at7(dd:Nat):dT prog (dd+2) 93 dP true:=gk underlying93 stoodInHeld93 (dd:=dd+1) ⟨by decide,rfl,⟨bU,bX,rfl,ca dd⟩,⟨by decide,rfl,⟨bU,bX,rfl,ca dd⟩,⟨by decide,rfl,⟨bU,bX,rfl,ca dd⟩,⟨by decide,rfl,⟨bU,bX,rfl,ca dd⟩,⟨by decide,rfl,gH,gX,rfl,im dd⟩⟩⟩⟩⟩
theorem aok(dd:Nat):dT prog (dd+3) 102 E6 true:=gk underlying102 stoodInHeld102 (dd:=dd+2) ⟨by decide,rfl,⟨tp,wy,rfl,vW dd⟩,⟨by decide,rfl,MQ,acP,rfl,ac9 dd⟩⟩
theorem aou(dd:Nat):dT prog (dd+2) 106 fX true:=gk underlying106 stoodInHeld106 (dd:=dd+1) ⟨by decide,rfl,⟨bU,bX,rfl,ca dd⟩,⟨by decide,rfl,⟨bU,bX,rfl,ca dd⟩,⟨by decide,rfl,⟨bU,bX,rfl,ca dd⟩,⟨by decide,rfl,⟨bU,bX,rfl,ca dd⟩,⟨by decide,rfl,⟨bU,bX,rfl,ca dd⟩,⟨by decide,rfl,⟨bU,bX,rfl,ca dd⟩,⟨by decide,rfl,⟨bU,bX,rfl,ca dd⟩,⟨by decide,rfl,⟨bU,bX,rfl,ca dd⟩,⟨by decide,rfl,bU,bX,rfl,ca dd⟩⟩⟩⟩⟩⟩⟩⟩⟩
theorem Yl(dd:Nat):dT prog (dd+2) 147 LZ true:=gk underlying147 stoodInHeld147 (dd:=dd+1) ⟨by decide,rfl,⟨bU,bX,rfl,ca dd⟩,⟨by decide,rfl,bU,bX,rfl,ca dd⟩⟩
theorem V8(dd:Nat):dT prog (dd+2) 149 EO true:=gk underlying149 stoodInHeld149 (dd:=dd+1) ⟨by decide,rfl,⟨bU,bX,rfl,ca dd⟩,⟨by decide,rfl,⟨bU,bX,rfl,ca dd⟩,⟨by decide,rfl,⟨bU,bX,rfl,ca dd⟩,⟨by decide,rfl,⟨gH,gX,rfl,im dd⟩,⟨by decide,rfl,bU,bX,rfl,ca dd⟩⟩⟩⟩⟩
theorem Yt(dd:Nat):dT prog (dd+2) 151 Mc true:=gk underlying151 stoodInHeld151 (dd:=dd+1) ⟨by decide,rfl,⟨bU,bX,rfl,ca dd⟩,⟨by decide,rfl,⟨bU,bX,rfl,ca dd⟩,⟨by decide,rfl,bU,bX,rfl,ca dd⟩⟩⟩
theorem amX(dd:Nat):dT prog (dd+3) 153 iM true:=gk underlying153 stoodInHeld153 (dd:=dd+2) ⟨by decide,rfl,⟨L5,WT,rfl,Yl dd⟩,⟨by decide,rfl,⟨KY,Xj,rfl,V8 dd⟩,⟨by decide,rfl,⟨L6,YR,rfl,Yt dd⟩,⟨by decide,rfl,⟨sM,wx,rfl,Ak (dd+1)⟩,⟨by decide,rfl,⟨bU,bX,rfl,ca (dd+1)⟩,⟨by decide,rfl,⟨bU,bX,rfl,ca (dd+1)⟩,⟨by decide,rfl,gH,gX,rfl,im (dd+1)⟩⟩⟩⟩⟩⟩⟩
theorem aoR(dd:Nat):dT prog (dd+2) 158 jw true:=gk underlying158 stoodInHeld158 (dd:=dd+1) ⟨by decide,rfl,bU,bX,rfl,ca dd⟩
theorem anR(dd:Nat):dT prog (dd+2) 191 gx true:=gk underlying191 stoodInHeld191 (dd:=dd+1) ⟨by decide,rfl,⟨bU,bX,rfl,ca dd⟩,⟨by decide,rfl,⟨bU,bX,rfl,ca dd⟩,⟨by decide,rfl,bU,bX,rfl,ca dd⟩⟩⟩
theorem aqX(dd:Nat):dT prog (dd+2) 213 jx true:=gk underlying213 stoodInHeld213 (dd:=dd+1) ⟨by decide,rfl,⟨bU,bX,rfl,ca dd⟩,⟨by decide,rfl,⟨bU,bX,rfl,ca dd⟩,⟨by decide,rfl,⟨bU,bX,rfl,ca dd⟩,⟨by decide,rfl,⟨bU,bX,rfl,ca dd⟩,⟨by decide,rfl,bU,bX,rfl,ca dd⟩⟩⟩⟩⟩
theorem XB(dd:Nat):dT prog (dd+3) 333 sD true:=gk underlying333 stoodInHeld333 (dd:=dd+2) ⟨by decide,rfl,⟨sM,wx,rfl,Ak (dd+1)⟩,⟨by decide,rfl,tp,wy,rfl,vW dd⟩⟩
theorem ari(dd:Nat):dT prog (dd+4) 335 eR true:=gk underlying335 stoodInHeld335 (dd:=dd+3) ⟨by decide,rfl,⟨gH,gX,rfl,im (dd+2)⟩,⟨by decide,rfl,⟨gH,gX,rfl,im (dd+2)⟩,⟨by decide,rfl,⟨gH,gX,rfl,im (dd+2)⟩,⟨by decide,rfl,⟨gH,gX,rfl,im (dd+2)⟩,⟨by decide,rfl,⟨bU,bX,rfl,ca (dd+2)⟩,⟨by decide,rfl,⟨bU,bX,rfl,ca (dd+2)⟩,⟨by decide,rfl,⟨bU,bX,rfl,ca (dd+2)⟩,⟨by decide,rfl,⟨tp,wy,rfl,vW (dd+1)⟩,⟨by decide,rfl,Li,Ym,rfl,XB dd⟩⟩⟩⟩⟩⟩⟩⟩⟩
theorem am3(dd:Nat):dT prog (dd+2) 389 ZO true:=gk underlying389 stoodInHeld389 (dd:=dd+1) ⟨by decide,rfl,⟨bU,bX,rfl,ca dd⟩,⟨by decide,rfl,⟨bU,bX,rfl,ca dd⟩,⟨by decide,rfl,bU,bX,rfl,ca dd⟩⟩⟩
theorem ao5(dd:Nat):dT prog (dd+2) 393 vN true:=agS (d:=bU) (dd:=dd+1) underlying393 bX (ca dd)
theorem ao4(dd:Nat):dT prog (dd+2) 408 ZA true:=gk underlying408 stoodInHeld408 (dd:=dd+1) ⟨by decide,rfl,⟨gH,gX,rfl,im dd⟩,⟨by decide,rfl,⟨gH,gX,rfl,im dd⟩,⟨by decide,rfl,⟨gH,gX,rfl,im dd⟩,⟨by decide,rfl,⟨bU,bX,rfl,ca dd⟩,⟨by decide,rfl,⟨bU,bX,rfl,ca dd⟩,⟨by decide,rfl,bU,bX,rfl,ca dd⟩⟩⟩⟩⟩⟩
theorem tD{t:TypeId}{d:TD}{l:List (Nat×TD)}(h1:TO t d)(h: ∀t d,lookupD l t=some d->TO t d): ∀u e,lookupD ((t,d)::l) u=some e->TO u e:=by
 intro u e a;simp only[lookupD]at a;by_cases f:u=t
 ·rw[bW f]at a;cases a;subst f;exact h1
 ·rw[bM f]at a;exact h u e a
theorem ans: ∀t d,lookupD vS t=some d->TO t d:=tD bX<|tD gX<|tD to5<|tD to9<|tD atZ<|tD arN<|tD auk<|tD asl<|tD atU<|tD asP<|tD arR<|tD atH<|tD atC<|tD arQ<|tD ase<|tD asJ<|tD asR<|tD asi<|tD asB<|tD atq<|tD ar2<|tD acU<|tD asF<|tD wx<|tD wy<|tD asn<|tD at1<|tD abF<|tD auj<|tD at2<|tD atX<|tD ash<|tD ar0<|tD aue<|tD atE<|tD acP<|tD ab9<|tD atF<|tD ato<|tD as9<|tD anw<|tD aoZ<|tD aod<|tD apG<|tD aoH<|tD anf<|tD api<|tD aof<|tD aoc<|tD anS<|tD WT<|tD Xj<|tD YR<|tD apP<|tD are<|tD aru<|tD an9<|tD an1<|tD ard<|tD aqE<|tD apE<|tD aot<|tD amY<|tD apJ<|tD apk<|tD aoa<|tD aoe<|tD aq8<|tD anH<|tD apd<|tD ape<|tD aqh<|tD aro<|tD aq2<|tD apg<|tD arh<|tD apB<|tD ao2<|tD aqR<|tD arw<|tD aq9<|tD anl<|tD Ym<|tD apF<|tD anQ<|tD ap8<|tD anV<|tD aqe<|tD aqi<|tD apH<|tD aoE<|tD aoN<|tD aol<|λ_ _ h=>by cases h
theorem aji: ∀t d i,lookupD vS t=some d->prog.info? t=some i->0<d.ty.n->i.bytes=d.bytes:=by
 intro t d i h hi _;replace h:=GW h;simp only[vS,av3,awj,ayi,aBo]at h;repeat' (first|refine Or.elim h (λh=> ?_) (λh=> ?_)|obtain⟨rfl,rfl⟩:=h)
 all_goals exact aid (by kernel_rfl) i hi
def xtL:List (Nat×Xt):= [(36,.f64from),(41,.CL)]
theorem atv:sR prog 36 .f64from:=λ_ _=>by kernel_rfl
theorem asc:sR prog 41 .CL:=λ_ _=>by kernel_rfl
theorem as5: ∀f x,lookXt xtL f=some x->sR prog f x:=NZ atv (NZ asc (λ_ _ h=>by cases h))
def jA:List Int:= [0,1,28,2,29,14,24,3,30,22,20,15,25,17,4,8,31,27,13,23,21,19,16,7,26,12,18,6,11,5,10,9]
def bD:Gd where
 H w:= ∀k,k<32->w.cell? ⟨1,k,none⟩=some (.int .u8 (jA.getD k 0))
 gl b:=b=1
 mono:=by
  intro u v f a k g;have h1:=(f.block 1 rfl).2;have h:=a k g;unfold World.cell? at h⊢;rw[h1];exact h
 low:=by
  intro u b a hb;subst hb;exact Df (a 0 (by decide))
def gvS:Nat->Option (Sigma λe:Ty=>List e.den):=λg=>cnd (Nat.beq g 1) (some ⟨.int .u8,jA⟩) none
theorem atB: ∀g e l,gvS g=some ⟨e,l⟩-> ∃b,bD.gl b/\ ∀(a:Act) (w:World) (X:Nat->Nat->Prop),bD.H w->(∀b p,X b p-> ¬ bD.gl b)->a.eval (.global g)= .pointer (some ⟨b,0,none⟩)/\jr w X e.n (TR w X e) l b 0:=by
 intro g e l h;obtain⟨h1,h2⟩:=aZ h;have k:=beq_eq h1;subst k;cases h2;refine⟨1,rfl,λa w X hH hX=>⟨rfl,λi hi=>⟨[.int .u8 jA[i]],rfl,λj f=> ?_,rfl⟩,λp _ _ m=>hX _ _ m rfl⟩⟩;have f:j=0:=by simp only[Ty.n]at f;omega
 subst f;have:=hH i hi;simp only[Ty.n,aAq,awp,avw];rw[this];simp[List.getD,hi]
theorem asp: ∀t d,lookupD vS t=some d->d.eq=true-> ∀(m:Map) (X:Nat->Nat->Prop) (w:World) (xs ys:List Cell) (r:Bool) (us vs:List Value),eqTy d.ty xs ys=some r->aF m X w xs us->aF m X w ys vs->
  xs.length=d.ty.n->ys.length=d.ty.n->
  (eqGuard .eql t (.tmp 0) (.tmp 0) (.agg us.toArray) (.agg vs.toArray)>>=λ_=>binOp .eql t (.agg us.toArray) (.agg vs.toArray)).run prog w= .ok (.bool r) w/\
  (eqGuard .neq t (.tmp 0) (.tmp 0) (.agg us.toArray) (.agg vs.toArray)>>=λ_=>binOp .neq t (.agg us.toArray) (.agg vs.toArray)).run prog w= .ok (.bool (!r)) w:=by
 intro t d h a;have h:=GW h;simp only[vS,av3,awj,ayi,aBo]at h;rcases h with⟨rfl,rfl⟩|⟨rfl,rfl⟩|⟨rfl,rfl⟩|⟨rfl,rfl⟩|⟨rfl,rfl⟩|⟨rfl,rfl⟩|⟨rfl,rfl⟩|⟨rfl,rfl⟩|⟨rfl,rfl⟩|⟨rfl,rfl⟩|⟨rfl,rfl⟩|⟨rfl,rfl⟩|⟨rfl,rfl⟩|⟨rfl,rfl⟩|⟨rfl,rfl⟩|⟨rfl,rfl⟩|⟨rfl,rfl⟩|⟨rfl,rfl⟩|⟨rfl,rfl⟩|⟨rfl,rfl⟩|⟨rfl,rfl⟩|⟨rfl,rfl⟩|⟨rfl,rfl⟩|⟨rfl,rfl⟩|⟨rfl,rfl⟩|⟨rfl,rfl⟩|⟨rfl,rfl⟩|⟨rfl,rfl⟩|⟨rfl,rfl⟩|⟨rfl,rfl⟩|⟨rfl,rfl⟩|⟨rfl,rfl⟩|⟨rfl,rfl⟩|⟨rfl,rfl⟩|⟨rfl,rfl⟩|⟨rfl,rfl⟩|⟨rfl,rfl⟩|⟨rfl,rfl⟩|⟨rfl,rfl⟩|⟨rfl,rfl⟩|⟨rfl,rfl⟩|⟨rfl,rfl⟩|⟨rfl,rfl⟩|⟨rfl,rfl⟩|⟨rfl,rfl⟩|⟨rfl,rfl⟩|⟨rfl,rfl⟩|⟨rfl,rfl⟩|⟨rfl,rfl⟩|⟨rfl,rfl⟩|⟨rfl,rfl⟩|⟨rfl,rfl⟩|⟨rfl,rfl⟩|⟨rfl,rfl⟩|⟨rfl,rfl⟩|⟨rfl,rfl⟩|⟨rfl,rfl⟩|⟨rfl,rfl⟩|⟨rfl,rfl⟩|⟨rfl,rfl⟩|⟨rfl,rfl⟩|⟨rfl,rfl⟩|⟨rfl,rfl⟩|⟨rfl,rfl⟩|⟨rfl,rfl⟩|⟨rfl,rfl⟩|⟨rfl,rfl⟩|⟨rfl,rfl⟩|⟨rfl,rfl⟩|⟨rfl,rfl⟩|⟨rfl,rfl⟩|⟨rfl,rfl⟩|⟨rfl,rfl⟩|⟨rfl,rfl⟩|⟨rfl,rfl⟩|⟨rfl,rfl⟩|⟨rfl,rfl⟩|⟨rfl,rfl⟩|⟨rfl,rfl⟩|⟨rfl,rfl⟩|⟨rfl,rfl⟩|⟨rfl,rfl⟩|⟨rfl,rfl⟩|⟨rfl,rfl⟩|⟨rfl,rfl⟩|⟨rfl,rfl⟩|⟨rfl,rfl⟩|⟨rfl,rfl⟩|⟨rfl,rfl⟩|⟨rfl,rfl⟩|⟨rfl,rfl⟩|⟨rfl,rfl⟩|⟨rfl,rfl⟩
 ·cases a
 ·cases a
 ·cases a
 ·cases a
 ·cases a
 ·cases a
 ·cases a
 ·cases a
 ·cases a
 ·cases a
 ·cases a
 ·cases a
 ·cases a
 ·cases a
 ·cases a
 ·cases a
 ·cases a
 ·cases a
 ·cases a
 ·cases a
 ·cases a
 ·cases a
 ·cases a
 ·cases a
 ·exact λm X w xs ys r us vs h1 h2 h3 _ _=>fU (vW 9998) eqGuardType51 m X w xs ys r us vs h1 h2 h3
 ·exact λm X w xs ys r us vs h1 h2 h3 _ _=>fU (arT 9998) eqGuardType53 m X w xs ys r us vs h1 h2 h3
 ·cases a
 ·cases a
 ·cases a
 ·cases a
 ·exact λm X w xs ys r us vs h1 h2 h3 _ _=>fU (atr 9998) eqGuardType67 m X w xs ys r us vs h1 h2 h3
 ·cases a
 ·cases a
 ·exact λm X w xs ys r us vs h1 h2 h3 _ _=>fU (arz 9998) eqGuardType74 m X w xs ys r us vs h1 h2 h3
 ·cases a
 ·exact λm X w xs ys r us vs h1 h2 h3 _ _=>fU (ac9 9998) eqGuardType80 m X w xs ys r us vs h1 h2 h3
 ·exact λm X w xs ys r us vs h1 h2 h3 _ _=>fU (aa2 9997) eqGuardType83 m X w xs ys r us vs h1 h2 h3
 ·exact λm X w xs ys r us vs h1 h2 h3 _ _=>fU (atV 9996) eqGuardType85 m X w xs ys r us vs h1 h2 h3
 ·exact λm X w xs ys r us vs h1 h2 h3 _ _=>fU (at7 9998) eqGuardType93 m X w xs ys r us vs h1 h2 h3
 ·cases a
 ·cases a
 ·exact λm X w xs ys r us vs h1 h2 h3 _ _=>fU (aok 9997) eqGuardType102 m X w xs ys r us vs h1 h2 h3
 ·exact λm X w xs ys r us vs h1 h2 h3 _ _=>fU (aou 9998) eqGuardType106 m X w xs ys r us vs h1 h2 h3
 ·cases a
 ·cases a
 ·cases a
 ·cases a
 ·cases a
 ·cases a
 ·cases a
 ·exact λm X w xs ys r us vs h1 h2 h3 _ _=>fU (Yl 9998) eqGuardType147 m X w xs ys r us vs h1 h2 h3
 ·exact λm X w xs ys r us vs h1 h2 h3 _ _=>fU (V8 9998) eqGuardType149 m X w xs ys r us vs h1 h2 h3
 ·exact λm X w xs ys r us vs h1 h2 h3 _ _=>fU (Yt 9998) eqGuardType151 m X w xs ys r us vs h1 h2 h3
 ·exact λm X w xs ys r us vs h1 h2 h3 _ _=>fU (amX 9997) eqGuardType153 m X w xs ys r us vs h1 h2 h3
 ·cases a
 ·exact λm X w xs ys r us vs h1 h2 h3 _ _=>fU (aoR 9998) eqGuardType158 m X w xs ys r us vs h1 h2 h3
 ·cases a
 ·cases a
 ·cases a
 ·cases a
 ·exact λm X w xs ys r us vs h1 h2 h3 _ _=>fU (anR 9998) eqGuardType191 m X w xs ys r us vs h1 h2 h3
 ·cases a
 ·cases a
 ·cases a
 ·exact λm X w xs ys r us vs h1 h2 h3 _ _=>fU (aqX 9998) eqGuardType213 m X w xs ys r us vs h1 h2 h3
 ·cases a
 ·cases a
 ·cases a
 ·cases a
 ·cases a
 ·cases a
 ·cases a
 ·cases a
 ·cases a
 ·cases a
 ·cases a
 ·cases a
 ·cases a
 ·cases a
 ·cases a
 ·cases a
 ·cases a
 ·exact λm X w xs ys r us vs h1 h2 h3 _ _=>fU (XB 9997) eqGuardType333 m X w xs ys r us vs h1 h2 h3
 ·exact λm X w xs ys r us vs h1 h2 h3 _ _=>fU (ari 9996) eqGuardType335 m X w xs ys r us vs h1 h2 h3
 ·cases a
 ·cases a
 ·cases a
 ·cases a
 ·exact λm X w xs ys r us vs h1 h2 h3 _ _=>fU (am3 9998) eqGuardType389 m X w xs ys r us vs h1 h2 h3
 ·exact λm X w xs ys r us vs h1 h2 h3 _ _=>fU (ao5 9998) eqGuardType393 m X w xs ys r us vs h1 h2 h3
 ·exact λm X w xs ys r us vs h1 h2 h3 _ _=>fU (ao4 9998) eqGuardType408 m X w xs ys r us vs h1 h2 h3
 ·cases a
 ·cases a
end Go.Proofs.YtcfinjcapeemeaaGreatDoor.S
