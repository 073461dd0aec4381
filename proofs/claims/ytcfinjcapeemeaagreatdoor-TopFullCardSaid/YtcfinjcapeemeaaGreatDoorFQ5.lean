/- Part of the proof that the law TopFull holds for every input. -/
import Derived.Test.YtcfinjcapeemeaaGreatDoorFQ4
set_option linter.all false
set_option maxRecDepth 100000
set_option maxHeartbeats 4000000
namespace Go.Proofs.YtcfinjcapeemeaaGreatDoor.S
open Go Go.RowKit IntKind Go.Proofs.Tryz
abbrev cY:Ty:= .str
abbrev apG:Ty:= .fnt
abbrev aqB:Ty:= .fnt
abbrev aoW:Ty:= .fnt
abbrev Lw:Ty:= .fnt
abbrev Es:Ty:= .fnt
abbrev zO:Ty:= .fnt
abbrev Af:Ty:= .fnt
abbrev aqD:Ty:= .fnt
abbrev aoB:Ty:= .fnt
abbrev ao7:Ty:= .fnt
abbrev arB:Ty:= .fnt
abbrev aoU:Ty:= .fnt
abbrev apW:Ty:= .fnt
abbrev aqi:Ty:= .fnt
abbrev ann:Ty:= .fnt
abbrev apP:Ty:= .fnt
abbrev aw:Ty:= .bool
abbrev aoc:Ty:= .unit
abbrev bG:Ty:= .int .u8
abbrev M9:Ty:= .sl .str
abbrev ae:Ty:= .int .i64
abbrev sZ:Ty:= .flt .f64
abbrev gm:Ty:= .sl .bool
abbrev bX:Ty:=ae
abbrev kn:Ty:= .int .u32
abbrev sS:Ty:= .int .u64
abbrev jB:Ty:=ae
abbrev arb:Ty:=sS
abbrev oX:Ty:= .int .u16
abbrev Ap:Ty:= .sl bG
abbrev cX:Ty:= .sl ae
abbrev aaL:Ty:= .pair .str .str
abbrev An:Ty:=cX
abbrev arn:Ty:= .pair .fnt (.pair .fnt .fnt)
abbrev aS:Ty:= .pair kn kn
abbrev po:Ty:= .pair ae ae
abbrev KZ:Ty:=po
abbrev wa:Ty:=po
abbrev eo:Ty:= .pair aaL ae
abbrev mD:Ty:= .sl aS
abbrev wo:Ty:= .pair aS .bool
abbrev Aj:Ty:= .pair bG (.pair bG bG)
abbrev jg:Ty:= .pair ae po
abbrev LC:Ty:=jg
abbrev gz:Ty:=jg
abbrev ane:Ty:=jg
abbrev sW:Ty:= .pair kn aS
abbrev Y7:Ty:=jg
abbrev gd:Ty:= .sl jg
abbrev sX:Ty:= .pair ae (.pair .bool (.pair ae .bool))
abbrev mC:Ty:= .pair kn (.pair .bool (.pair .bool (.pair .bool .bool)))
abbrev Lb:Ty:= .pair ae jg
abbrev dT:Ty:= .pair ae (.pair ae (.pair ae (.pair ae .bool)))
abbrev E5:Ty:= .pair ae (.pair ae (.pair ae (.pair .bool ae)))
abbrev da:Ty:= .sl dT
abbrev E4:Ty:= .pair aS jg
abbrev jC:Ty:= .pair ae Lb
abbrev Xf:Ty:= .pair .bool (.pair .bool (.pair .bool jg))
abbrev Mi:Ty:= .sl E4
abbrev dF:Ty:= .sl jC
abbrev vU:Ty:= .pair mD (.pair gm aS)
abbrev ar7:Ty:= .sl Mi
abbrev Eu:Ty:= .pair bG (.pair bG (.pair bG Aj))
abbrev eH:Ty:= .pair ae (.pair ae (.pair ae (.pair gd (.pair ae .bool))))
abbrev gS:Ty:= .pair wo (.pair aS (.pair .bool (.pair ae (.pair ae .bool))))
abbrev bN:Ty:= .pair cX (.pair gm (.pair gm da))
abbrev wx:Ty:= .sl eH
abbrev ac6:Ty:= .sl gS
abbrev gg:Ty:= .pair ae (.pair ae (.pair ae (.pair ae jC)))
abbrev iP:Ty:= .pair mC (.pair sX (.pair kn sZ))
abbrev MZ:Ty:= .sl gg
abbrev Nm:Ty:= .sl iP
abbrev EW:Ty:= .pair bN (.pair ae .bool)
abbrev eO:Ty:= .pair .bool (.pair .bool (.pair .bool (.pair .bool (.pair ae (.pair ae (.pair ae (.pair aS sW)))))))
abbrev gx:Ty:= .sl eO
abbrev iN:Ty:= .pair po (.pair E5 (.pair jg (.pair kn (.pair ae (.pair ae .bool)))))
abbrev fT:Ty:= .pair aS (.pair po Nm)
abbrev wm:Ty:= .sl iN
abbrev E7:Ty:= .pair aS (.pair aS (.pair .bool (.pair .bool (.pair ae ac6))))
abbrev aD:Ty:= .pair ae (.pair ae (.pair ae (.pair ae (.pair sZ (.pair sZ (.pair sZ MZ))))))
abbrev dC:Ty:= .pair .str aD
abbrev api:Ty:= .pair aD (.pair ae gd)
abbrev ET:Ty:= .pair dF (.pair bN (.pair cX (.pair vU aS)))
abbrev EC:Ty:= .pair aD gx
abbrev aoJ:Ty:= .pair bG (.pair bG (.pair bG (.pair bG (.pair bG (.pair bG (.pair bG (.pair bG (.pair bG (.pair bG (.pair bG (.pair bG (.pair bG (.pair bG (.pair bG (.pair bG (.pair bG (.pair bG (.pair bG (.pair bG (.pair bG (.pair bG (.pair bG (.pair bG (.pair bG (.pair bG Eu)))))))))))))))))))))))))
abbrev aq4:Ty:= .pair aD (.pair ae (.pair iN (.pair sX ae)))
abbrev MS:Ty:= .pair ae (.pair ae (.pair ae (.pair ae (.pair ae (.pair ae (.pair ae (.pair ae (.pair ae (.pair ae (.pair ae (.pair ae (.pair ae (.pair ae (.pair ae (.pair ae (.pair ae (.pair ae (.pair ae (.pair ae (.pair ae (.pair ae (.pair ae (.pair ae (.pair ae (.pair ae (.pair ae gg))))))))))))))))))))))))))
abbrev oW:Ty:= .pair ET aD
abbrev fQ:Ty:= .pair mC MS
abbrev wB:Ty:= .sl fQ
abbrev fE:Ty:= .pair bN (.pair eo (.pair wB (.pair wx (.pair wm (.pair cX (.pair cX (.pair mD jg)))))))
abbrev dj:Ty:= .pair aD (.pair fE (.pair fT (.pair .bool (.pair ae (.pair ae (.pair gm (.pair mD (.pair gm E7))))))))
def bU:TD:=⟨.ed,ae,false,8,false⟩
def gJ:TD:=⟨.ed,aw,false,1,false⟩
def td5:TD:=⟨.ed,bG,false,1,false⟩
def td9:TD:=⟨.ed,cY,false,16,false⟩
def adu:TD:=⟨.array 3 5,Aj,true,3,false⟩
def aaC:TD:=⟨.slice 5,Ap,false,24,false⟩
def acL:TD:=⟨.ed,sZ,false,8,false⟩
def aa3:TD:=⟨.slice 106,MZ,false,24,false⟩
def aaJ:TD:=⟨.struct [(3,0),(3,1),(3,2),(3,3),(24,4),(24,5),(24,6),(25,7)],aD,true,80,false⟩
def acX:TD:=⟨.slice 3,cX,false,24,false⟩
def aaX:TD:=⟨.slice 4,gm,false,24,false⟩
def aa5:TD:=⟨.slice 93,da,false,24,false⟩
def acN:TD:=⟨.struct [(29,0),(30,1),(30,2),(31,3)],bN,true,96,false⟩
def adi:TD:=⟨.array 2 9,aaL,true,32,false⟩
def aax:TD:=⟨.struct [(34,0),(3,2)],eo,true,40,false⟩
def abA:TD:=⟨.slice 70,wB,false,24,false⟩
def abl:TD:=⟨.slice 142,wx,false,24,false⟩
def abP:TD:=⟨.slice 153,wm,false,24,false⟩
def acG:TD:=⟨.slice 158,An,false,24,false⟩
def acR:TD:=⟨.slice 51,mD,false,24,false⟩
def ac7:TD:=⟨.struct [(33,0),(36,4),(37,7),(38,8),(39,9),(40,10),(29,11),(41,12),(3,13),(3,14),(3,15)],fE,true,304,false⟩
def Na:TD:=⟨.ed,bX,false,8,false⟩
def aaK:TD:=⟨.slice 9,M9,false,24,false⟩
def ti:TD:=⟨.ed,kn,false,4,false⟩
def tG:TD:=⟨.struct [(49,0),(49,1)],aS,true,8,true⟩
def acb:TD:=⟨.struct [(3,0),(3,1)],po,true,16,true⟩
def ads:TD:=⟨.slice 76,Nm,false,24,false⟩
def M8:TD:=⟨.struct [(51,0),(53,2),(54,4)],fT,true,48,false⟩
def abC:TD:=⟨.slice 85,ac6,false,24,false⟩
def abM:TD:=⟨.struct [(51,0),(51,2),(4,4),(4,5),(44,6),(61,7)],E7,true,56,false⟩
def adf:TD:=⟨.struct [(49,0),(4,1),(4,2),(4,3),(4,4)],mC,true,8,true⟩
def aaO:TD:=⟨.array 36 3,MS,true,288,false⟩
def acg:TD:=⟨.struct [(67,0),(68,5)],fQ,true,296,false⟩
def aaG:TD:=⟨.struct [(3,0),(4,1),(3,2),(4,3)],sX,true,32,true⟩
def abL:TD:=⟨.struct [(67,0),(74,5),(49,9),(24,10)],iP,true,56,false⟩
def No:TD:=⟨.struct [(3,0),(3,1),(3,2)],jg,true,24,true⟩
def Nb:TD:=⟨.struct [(51,0),(4,2)],wo,true,12,true⟩
def adg:TD:=⟨.struct [(83,0),(51,3),(4,5),(3,6),(3,7),(4,8)],gS,true,48,true⟩
def ab1:TD:=⟨.struct [(3,0),(3,1),(3,2),(3,3),(4,4)],dT,true,40,true⟩
def abm:TD:=⟨.slice 100,ar7,false,24,false⟩
def WN:TD:=⟨.slice 102,Mi,false,24,false⟩
def Z7:TD:=⟨.struct [(51,0),(80,2)],E4,true,32,true⟩
def aat:TD:=⟨.struct [(3,0),(3,1),(3,2),(3,3),(3,4),(3,5),(3,6),(3,7),(3,8)],gg,true,72,true⟩
def ZJ:TD:=⟨.array 6 5,Eu,true,6,false⟩
def Xx:TD:=⟨.ed,sS,false,8,false⟩
def aad:TD:=⟨.ed,apG,false,8,false⟩
def ZL:TD:=⟨.array 4 3,Lb,true,32,false⟩
def YF:TD:=⟨.slice 191,gd,false,24,false⟩
def Xh:TD:=⟨.struct [(3,0),(3,1),(3,2),(140,3),(3,4),(4,5)],eH,true,64,false⟩
def XF:TD:=⟨.ed,aqB,false,8,false⟩
def LG:TD:=⟨.struct [(3,0),(3,1)],KZ,true,16,true⟩
def Lp:TD:=⟨.struct [(3,0),(3,1),(3,2),(4,3),(3,4)],E5,true,40,true⟩
def LV:TD:=⟨.struct [(3,0),(3,1),(3,2)],LC,true,24,true⟩
def aaj:TD:=⟨.struct [(147,0),(149,2),(151,7),(49,10),(3,11),(3,12),(4,13)],iN,true,112,true⟩
def ZZ:TD:=⟨.ed,aoW,false,8,false⟩
def ZD:TD:=⟨.struct [(3,0)],jB,true,8,true⟩
def ZP:TD:=⟨.ed,Lw,false,8,false⟩
def aau:TD:=⟨.ed,arb,false,8,false⟩
def aao:TD:=⟨.ed,oX,false,2,false⟩
def WU:TD:=⟨.struct [(27,0),(43,8),(56,24),(4,29),(3,30),(44,31),(30,32),(41,33),(30,34),(63,35)],dj,true,584,false⟩
def XJ:TD:=⟨.struct [(3,0),(3,1),(3,2)],gz,true,24,true⟩
def YE:TD:=⟨.ed,Es,false,8,false⟩
def Yw:TD:=⟨.ed,zO,false,8,false⟩
def WV:TD:=⟨.slice 213,dF,false,24,false⟩
def XM:TD:=⟨.struct [(3,0),(3,1),(3,2),(3,3),(3,4)],jC,true,40,true⟩
def XI:TD:=⟨.struct [(27,0),(3,8),(140,9)],api,true,112,false⟩
def Zt:TD:=⟨.array 32 5,aoJ,true,32,false⟩
def WH:TD:=⟨.ed,Af,false,8,false⟩
def WZ:TD:=⟨.ed,aqD,false,8,false⟩
def Zm:TD:=⟨.struct [(9,0),(27,1)],dC,true,96,false⟩
def aan:TD:=⟨.ed,aoB,false,8,false⟩
def Xl:TD:=⟨.struct [(41,0),(30,1),(51,2)],vU,true,56,false⟩
def aaf:TD:=⟨.struct [(208,0),(33,1),(29,5),(274,6),(51,10)],ET,true,208,false⟩
def Xy:TD:=⟨.slice 335,gx,false,24,false⟩
def aac:TD:=⟨.ed,ao7,false,8,false⟩
def XD:TD:=⟨.ed,arB,false,8,false⟩
def aal:TD:=⟨.ed,aoU,false,8,false⟩
def Wx:TD:=⟨.array 3 3,ane,true,24,false⟩
def XC:TD:=⟨.ed,apW,false,8,false⟩
def aas:TD:=⟨.ed,aqi,false,8,false⟩
def YV:TD:=⟨.struct [],aoc,true,0,false⟩
def Zw:TD:=⟨.struct [(276,0),(27,12)],oW,true,288,false⟩
def Mg:TD:=⟨.struct [(49,0),(51,1)],sW,true,12,true⟩
def aag:TD:=⟨.struct [(4,0),(4,1),(4,2),(4,3),(3,4),(3,5),(3,6),(51,7),(333,9)],eO,true,56,true⟩
def YO:TD:=⟨.struct [(27,0),(3,8),(153,9),(74,23),(3,27)],aq4,true,240,false⟩
def aap:TD:=⟨.struct [(33,0),(3,4),(4,5)],EW,true,112,false⟩
def XU:TD:=⟨.struct [(27,0),(279,8)],EC,true,104,false⟩
def YD:TD:=⟨.ed,ann,false,8,false⟩
def Zg:TD:=⟨.struct [(3,0),(3,1),(3,2)],Y7,true,24,true⟩
def aah:TD:=⟨.array 2 3,wa,true,16,true⟩
def Xp:TD:=⟨.struct [(4,0),(4,1),(4,2),(3,3),(3,4),(3,5)],Xf,true,32,true⟩
def Wy:TD:=⟨.ed,apP,false,8,false⟩
def YH:TD:=⟨.array 3 412,arn,true,24,false⟩
def wO:List (Nat×TD):= [(3,bU),(4,gJ),(5,td5),(9,td9),(22,adu),(23,aaC),(24,acL),(25,aa3),(27,aaJ),(29,acX),(30,aaX),(31,aa5),(33,acN),(34,adi),(36,aax),(37,abA),(38,abl),(39,abP),(40,acG),(41,acR),(43,ac7),(44,Na),(47,aaK),(49,ti),(51,tG),(53,acb),(54,ads),(56,M8),(61,abC),(63,abM),(67,adf),(68,aaO),(70,acg),(74,aaG),(76,abL),(80,No),(83,Nb),(85,adg),(93,ab1),(99,abm),(100,WN),(102,Z7),(106,aat),(108,ZJ),(114,Xx),(125,aad),(131,ZL),(140,YF),(142,Xh),(144,XF),(147,LG),(149,Lp),(151,LV),(153,aaj),(155,ZZ),(158,ZD),(159,ZP),(162,aau),(176,aao),(180,WU),(191,XJ),(192,YE),(199,Yw),(208,WV),(213,XM),(219,XI),(230,Zt),(244,WH),(246,WZ),(260,Zm),(271,aan),(274,Xl),(276,aaf),(279,Xy),(287,aac),(289,XD),(294,aal),(297,Wx),(301,XC),(302,aas),(307,YV),(326,Zw),(333,Mg),(335,aag),(351,YO),(358,aap),(364,XU),(380,YD),(389,Zg),(393,aah),(408,Xp),(412,Wy),(414,YH)]
theorem io(t:TypeId)(ty:Ty)(a:Bool)(h:(prog.info? t).map (λi=>(i.size,i.zero))=some (ty.n,some (cd a (zeroVs ty))):=by kernel_rfl):lC prog t ty a:=xT h
abbrev TO(t:TypeId)(d:TD):Prop:=jL prog t d
theorem tA{t:TypeId}{d:TD}{e:TypeDesc}(a:prog.underlying t=some e)
 (f:kindOk prog d e:=by first|exact rfl|exact⟨rfl,rfl⟩|exact⟨rfl,_,rfl,rfl,aiu (by kernel_rfl)⟩)
 (hi:(prog.info? t).map (λi=>(i.size,i.zero))=some (d.ty.n,some (cd d.agg (zeroVs d.ty))):=by kernel_rfl)
 (g:d.agg=(match e with| .struct _=>true| .array _ _=>true|_=>false):=by rfl)
 (h:d.agg=false->plainOk d.ty e:=by first|exact λ_=>rfl|exact λ_=>trivial|exact λ_=>⟨_,rfl⟩|exact nofun)
 (h1:d.agg=false->d.ty.n=1:=by first|exact λ_=>rfl|exact nofun):TO t d:=ai6 a (xT hi) (by cases e<;>exact g) f h h1
theorem bZ:TO 3 bU:=tA underlying3
theorem gY:TO 4 gJ:=tA underlying4
theorem to5:TO 5 td5:=tA underlying5
theorem to9:TO 9 td9:=tA underlying9
theorem atS:TO 22 adu:=tA underlying22
theorem asM:TO 23 aaC:=tA underlying23 ⟨rfl,rfl,_,_,rfl,io 5 bG false⟩
theorem asz:TO 24 acL:=tA underlying24
theorem arU:TO 25 aa3:=tA underlying25 ⟨rfl,rfl,_,_,rfl,io 106 gg true⟩
theorem att:TO 27 aaJ:=tA underlying27
theorem atT:TO 29 acX:=tA underlying29 ⟨rfl,rfl,_,_,rfl,io 3 ae false⟩
theorem asd:TO 30 aaX:=tA underlying30 ⟨rfl,rfl,_,_,rfl,io 4 aw false⟩
theorem arQ:TO 31 aa5:=tA underlying31 ⟨rfl,rfl,_,_,rfl,io 93 dT true⟩
theorem ath:TO 33 acN:=tA underlying33
theorem atn:TO 34 adi:=tA underlying34
theorem asE:TO 36 aax:=tA underlying36
theorem arO:TO 37 abA:=tA underlying37 ⟨rfl,rfl,_,_,rfl,io 70 fQ true⟩
theorem aud:TO 38 abl:=tA underlying38 ⟨rfl,rfl,_,_,rfl,io 142 eH true⟩
theorem asf:TO 39 abP:=tA underlying39 ⟨rfl,rfl,_,_,rfl,io 153 iN true⟩
theorem atK:TO 40 acG:=tA underlying40 ⟨rfl,rfl,_,_,rfl,io 158 jB true⟩
theorem asC:TO 41 acR:=tA underlying41 ⟨rfl,rfl,_,_,rfl,io 51 aS true⟩
theorem arR:TO 43 ac7:=tA underlying43
theorem abW:TO 44 Na:=tA underlying44
theorem atG:TO 47 aaK:=tA underlying47 ⟨rfl,rfl,_,_,rfl,io 9 cY false⟩
theorem wI:TO 49 ti:=tA underlying49
theorem wh:TO 51 tG:=tA underlying51
theorem as8:TO 53 acb:=tA underlying53
theorem as4:TO 54 ads:=tA underlying54 ⟨rfl,rfl,_,_,rfl,io 76 iP true⟩
theorem acE:TO 56 M8:=tA underlying56
theorem arS:TO 61 abC:=tA underlying61 ⟨rfl,rfl,_,_,rfl,io 85 gS true⟩
theorem asD:TO 63 abM:=tA underlying63
theorem asN:TO 67 adf:=tA underlying67
theorem arK:TO 68 aaO:=tA underlying68
theorem ats:TO 70 acg:=tA underlying70
theorem atp:TO 74 aaG:=tA underlying74
theorem asi:TO 76 abL:=tA underlying76
theorem ac8:TO 80 No:=tA underlying80
theorem aaM:TO 83 Nb:=tA underlying83
theorem arP:TO 85 adg:=tA underlying85
theorem asB:TO 93 ab1:=tA underlying93
theorem atx:TO 99 abm:=tA underlying99 ⟨rfl,rfl,_,_,rfl,io 100 Mi false⟩
theorem ao6:TO 100 WN:=tA underlying100 ⟨rfl,rfl,_,_,rfl,io 102 E4 true⟩
theorem aoT:TO 102 Z7:=tA underlying102
theorem aqv:TO 106 aat:=tA underlying106
theorem am3:TO 108 ZJ:=tA underlying108
theorem ao2:TO 114 Xx:=tA underlying114
theorem apK:TO 125 aad:=tA underlying125
theorem ap4:TO 131 ZL:=tA underlying131
theorem anm:TO 140 YF:=tA underlying140 ⟨rfl,rfl,_,_,rfl,io 191 gz true⟩
theorem aqw:TO 142 Xh:=tA underlying142
theorem aro:TO 144 XF:=tA underlying144
theorem Xr:TO 147 LG:=tA underlying147
theorem Ye:TO 149 Lp:=tA underlying149
theorem Xu:TO 151 LV:=tA underlying151
theorem aqk:TO 153 aaj:=tA underlying153
theorem apU:TO 155 ZZ:=tA underlying155
theorem ao8:TO 158 ZD:=tA underlying158
theorem apg:TO 159 ZP:=tA underlying159
theorem arp:TO 162 aau:=tA underlying162
theorem an7:TO 176 aao:=tA underlying176
theorem aqx:TO 180 WU:=tA underlying180
theorem apR:TO 191 XJ:=tA underlying191
theorem apm:TO 192 YE:=tA underlying192
theorem aqb:TO 199 Yw:=tA underlying199
theorem aoE:TO 208 WV:=tA underlying208 ⟨rfl,rfl,_,_,rfl,io 213 jC true⟩
theorem arD:TO 213 XM:=tA underlying213
theorem aq7:TO 219 XI:=tA underlying219
theorem aoX:TO 230 Zt:=tA underlying230
theorem aoe:TO 244 WH:=tA underlying244
theorem aqR:TO 246 WZ:=tA underlying246
theorem am8:TO 260 Zm:=tA underlying260
theorem am2:TO 271 aan:=tA underlying271
theorem aqt:TO 274 Xl:=tA underlying274
theorem aqn:TO 276 aaf:=tA underlying276
theorem anQ:TO 279 Xy:=tA underlying279 ⟨rfl,rfl,_,_,rfl,io 335 eO true⟩
theorem apv:TO 287 aac:=tA underlying287
theorem aqF:TO 289 XD:=tA underlying289
theorem apX:TO 294 aal:=tA underlying294
theorem ari:TO 297 Wx:=tA underlying297
theorem anq:TO 301 XC:=tA underlying301
theorem aqS:TO 302 aas:=tA underlying302
theorem aqc:TO 307 YV:=tA underlying307
theorem aou:TO 326 Zw:=tA underlying326
theorem Xw:TO 333 Mg:=tA underlying333
theorem aoP:TO 335 aag:=tA underlying335
theorem ark:TO 351 YO:=tA underlying351
theorem anw:TO 358 aap:=tA underlying358
theorem anC:TO 364 XU:=tA underlying364
theorem arc:TO 380 YD:=tA underlying380
theorem aoq:TO 389 Zg:=tA underlying389
theorem aof:TO 393 aah:=tA underlying393
theorem ap9:TO 408 Xp:=tA underlying408
theorem anD:TO 412 Wy:=tA underlying412
theorem aqm:TO 414 YH:=tA underlying414
theorem AP(dd:Nat):dU prog (dd+1) 49 kn false:=RW underlying49 dd
theorem wu(dd:Nat):dU prog (dd+2) 51 aS true:=gp underlying51 stoodInHeld51 (dd:=dd+1) ⟨by decide,rfl,⟨ti,wI,rfl,AP dd⟩,⟨by decide,rfl,ti,wI,rfl,AP dd⟩⟩
theorem cc(dd:Nat):dU prog (dd+1) 3 ae false:=RW underlying3 dd
theorem ar6(dd:Nat):dU prog (dd+2) 53 po true:=gp underlying53 stoodInHeld53 (dd:=dd+1) ⟨by decide,rfl,⟨bU,bZ,rfl,cc dd⟩,⟨by decide,rfl,bU,bZ,rfl,cc dd⟩⟩
theorem ij(dd:Nat):dU prog (dd+1) 4 aw false:=ahw underlying4 dd
theorem aso(dd:Nat):dU prog (dd+2) 67 mC true:=gp underlying67 stoodInHeld67 (dd:=dd+1) ⟨by decide,rfl,⟨ti,wI,rfl,AP dd⟩,⟨by decide,rfl,⟨gJ,gY,rfl,ij dd⟩,⟨by decide,rfl,⟨gJ,gY,rfl,ij dd⟩,⟨by decide,rfl,⟨gJ,gY,rfl,ij dd⟩,⟨by decide,rfl,gJ,gY,rfl,ij dd⟩⟩⟩⟩⟩
theorem aty(dd:Nat):dU prog (dd+2) 74 sX true:=gp underlying74 stoodInHeld74 (dd:=dd+1) ⟨by decide,rfl,⟨bU,bZ,rfl,cc dd⟩,⟨by decide,rfl,⟨gJ,gY,rfl,ij dd⟩,⟨by decide,rfl,⟨bU,bZ,rfl,cc dd⟩,⟨by decide,rfl,gJ,gY,rfl,ij dd⟩⟩⟩⟩
theorem abh(dd:Nat):dU prog (dd+2) 80 jg true:=gp underlying80 stoodInHeld80 (dd:=dd+1) ⟨by decide,rfl,⟨bU,bZ,rfl,cc dd⟩,⟨by decide,rfl,⟨bU,bZ,rfl,cc dd⟩,⟨by decide,rfl,bU,bZ,rfl,cc dd⟩⟩⟩
theorem adl(dd:Nat):dU prog (dd+3) 83 wo true:=gp underlying83 stoodInHeld83 (dd:=dd+2) ⟨by decide,rfl,⟨tG,wh,rfl,wu dd⟩,⟨by decide,rfl,gJ,gY,rfl,ij (dd+1)⟩⟩
theorem asT(dd:Nat):dU prog (dd+4) 85 gS true:=gp underlying85 stoodInHeld85 (dd:=dd+3) ⟨by decide,rfl,⟨Nb,aaM,rfl,adl dd⟩,⟨by decide,rfl,⟨tG,wh,rfl,wu (dd+1)⟩,⟨by decide,rfl,⟨gJ,gY,rfl,ij (dd+2)⟩,⟨by decide,rfl,⟨bU,bZ,rfl,cc (dd+2)⟩,⟨by decide,rfl,⟨bU,bZ,rfl,cc (dd+2)⟩,⟨by decide,rfl,gJ,gY,rfl,ij (dd+2)⟩⟩⟩⟩⟩⟩
theorem as5(dd:Nat):dU prog (dd+2) 93 dT true:=gp underlying93 stoodInHeld93 (dd:=dd+1) ⟨by decide,rfl,⟨bU,bZ,rfl,cc dd⟩,⟨by decide,rfl,⟨bU,bZ,rfl,cc dd⟩,⟨by decide,rfl,⟨bU,bZ,rfl,cc dd⟩,⟨by decide,rfl,⟨bU,bZ,rfl,cc dd⟩,⟨by decide,rfl,gJ,gY,rfl,ij dd⟩⟩⟩⟩⟩
theorem ap0(dd:Nat):dU prog (dd+3) 102 E4 true:=gp underlying102 stoodInHeld102 (dd:=dd+2) ⟨by decide,rfl,⟨tG,wh,rfl,wu dd⟩,⟨by decide,rfl,No,ac8,rfl,abh dd⟩⟩
theorem aqh(dd:Nat):dU prog (dd+2) 106 gg true:=gp underlying106 stoodInHeld106 (dd:=dd+1) ⟨by decide,rfl,⟨bU,bZ,rfl,cc dd⟩,⟨by decide,rfl,⟨bU,bZ,rfl,cc dd⟩,⟨by decide,rfl,⟨bU,bZ,rfl,cc dd⟩,⟨by decide,rfl,⟨bU,bZ,rfl,cc dd⟩,⟨by decide,rfl,⟨bU,bZ,rfl,cc dd⟩,⟨by decide,rfl,⟨bU,bZ,rfl,cc dd⟩,⟨by decide,rfl,⟨bU,bZ,rfl,cc dd⟩,⟨by decide,rfl,⟨bU,bZ,rfl,cc dd⟩,⟨by decide,rfl,bU,bZ,rfl,cc dd⟩⟩⟩⟩⟩⟩⟩⟩⟩
theorem Y2(dd:Nat):dU prog (dd+2) 147 KZ true:=gp underlying147 stoodInHeld147 (dd:=dd+1) ⟨by decide,rfl,⟨bU,bZ,rfl,cc dd⟩,⟨by decide,rfl,bU,bZ,rfl,cc dd⟩⟩
theorem ZW(dd:Nat):dU prog (dd+2) 149 E5 true:=gp underlying149 stoodInHeld149 (dd:=dd+1) ⟨by decide,rfl,⟨bU,bZ,rfl,cc dd⟩,⟨by decide,rfl,⟨bU,bZ,rfl,cc dd⟩,⟨by decide,rfl,⟨bU,bZ,rfl,cc dd⟩,⟨by decide,rfl,⟨gJ,gY,rfl,ij dd⟩,⟨by decide,rfl,bU,bZ,rfl,cc dd⟩⟩⟩⟩⟩
theorem WO(dd:Nat):dU prog (dd+2) 151 LC true:=gp underlying151 stoodInHeld151 (dd:=dd+1) ⟨by decide,rfl,⟨bU,bZ,rfl,cc dd⟩,⟨by decide,rfl,⟨bU,bZ,rfl,cc dd⟩,⟨by decide,rfl,bU,bZ,rfl,cc dd⟩⟩⟩
theorem anl(dd:Nat):dU prog (dd+3) 153 iN true:=gp underlying153 stoodInHeld153 (dd:=dd+2) ⟨by decide,rfl,⟨LG,Xr,rfl,Y2 dd⟩,⟨by decide,rfl,⟨Lp,Ye,rfl,ZW dd⟩,⟨by decide,rfl,⟨LV,Xu,rfl,WO dd⟩,⟨by decide,rfl,⟨ti,wI,rfl,AP (dd+1)⟩,⟨by decide,rfl,⟨bU,bZ,rfl,cc (dd+1)⟩,⟨by decide,rfl,⟨bU,bZ,rfl,cc (dd+1)⟩,⟨by decide,rfl,gJ,gY,rfl,ij (dd+1)⟩⟩⟩⟩⟩⟩⟩
theorem apl(dd:Nat):dU prog (dd+2) 158 jB true:=gp underlying158 stoodInHeld158 (dd:=dd+1) ⟨by decide,rfl,bU,bZ,rfl,cc dd⟩
theorem aqs(dd:Nat):dU prog (dd+2) 191 gz true:=gp underlying191 stoodInHeld191 (dd:=dd+1) ⟨by decide,rfl,⟨bU,bZ,rfl,cc dd⟩,⟨by decide,rfl,⟨bU,bZ,rfl,cc dd⟩,⟨by decide,rfl,bU,bZ,rfl,cc dd⟩⟩⟩
theorem aqz(dd:Nat):dU prog (dd+2) 213 jC true:=gp underlying213 stoodInHeld213 (dd:=dd+1) ⟨by decide,rfl,⟨bU,bZ,rfl,cc dd⟩,⟨by decide,rfl,⟨bU,bZ,rfl,cc dd⟩,⟨by decide,rfl,⟨bU,bZ,rfl,cc dd⟩,⟨by decide,rfl,⟨bU,bZ,rfl,cc dd⟩,⟨by decide,rfl,bU,bZ,rfl,cc dd⟩⟩⟩⟩⟩
theorem aae(dd:Nat):dU prog (dd+3) 333 sW true:=gp underlying333 stoodInHeld333 (dd:=dd+2) ⟨by decide,rfl,⟨ti,wI,rfl,AP (dd+1)⟩,⟨by decide,rfl,tG,wh,rfl,wu dd⟩⟩
theorem aq8(dd:Nat):dU prog (dd+4) 335 eO true:=gp underlying335 stoodInHeld335 (dd:=dd+3) ⟨by decide,rfl,⟨gJ,gY,rfl,ij (dd+2)⟩,⟨by decide,rfl,⟨gJ,gY,rfl,ij (dd+2)⟩,⟨by decide,rfl,⟨gJ,gY,rfl,ij (dd+2)⟩,⟨by decide,rfl,⟨gJ,gY,rfl,ij (dd+2)⟩,⟨by decide,rfl,⟨bU,bZ,rfl,cc (dd+2)⟩,⟨by decide,rfl,⟨bU,bZ,rfl,cc (dd+2)⟩,⟨by decide,rfl,⟨bU,bZ,rfl,cc (dd+2)⟩,⟨by decide,rfl,⟨tG,wh,rfl,wu (dd+1)⟩,⟨by decide,rfl,Mg,Xw,rfl,aae dd⟩⟩⟩⟩⟩⟩⟩⟩⟩
theorem ao3(dd:Nat):dU prog (dd+2) 389 Y7 true:=gp underlying389 stoodInHeld389 (dd:=dd+1) ⟨by decide,rfl,⟨bU,bZ,rfl,cc dd⟩,⟨by decide,rfl,⟨bU,bZ,rfl,cc dd⟩,⟨by decide,rfl,bU,bZ,rfl,cc dd⟩⟩⟩
theorem apE(dd:Nat):dU prog (dd+2) 393 wa true:=aii (d:=bU) (dd:=dd+1) underlying393 bZ (cc dd)
theorem anF(dd:Nat):dU prog (dd+2) 408 Xf true:=gp underlying408 stoodInHeld408 (dd:=dd+1) ⟨by decide,rfl,⟨gJ,gY,rfl,ij dd⟩,⟨by decide,rfl,⟨gJ,gY,rfl,ij dd⟩,⟨by decide,rfl,⟨gJ,gY,rfl,ij dd⟩,⟨by decide,rfl,⟨bU,bZ,rfl,cc dd⟩,⟨by decide,rfl,⟨bU,bZ,rfl,cc dd⟩,⟨by decide,rfl,bU,bZ,rfl,cc dd⟩⟩⟩⟩⟩⟩
theorem tD{t:TypeId}{d:TD}{l:List (Nat×TD)}(h1:TO t d)(h: ∀t d,lookupD l t=some d->TO t d): ∀u e,lookupD ((t,d)::l) u=some e->TO u e:=by
 intro u e a;simp only[lookupD]at a;by_cases f:u=t
 ·rw[bV f]at a;cases a;subst f;exact h1
 ·rw[bL f]at a;exact h u e a
theorem ank: ∀t d,lookupD wO t=some d->TO t d:=tD bZ<|tD gY<|tD to5<|tD to9<|tD atS<|tD asM<|tD asz<|tD arU<|tD att<|tD atT<|tD asd<|tD arQ<|tD ath<|tD atn<|tD asE<|tD arO<|tD aud<|tD asf<|tD atK<|tD asC<|tD arR<|tD abW<|tD atG<|tD wI<|tD wh<|tD as8<|tD as4<|tD acE<|tD arS<|tD asD<|tD asN<|tD arK<|tD ats<|tD atp<|tD asi<|tD ac8<|tD aaM<|tD arP<|tD asB<|tD atx<|tD ao6<|tD aoT<|tD aqv<|tD am3<|tD ao2<|tD apK<|tD ap4<|tD anm<|tD aqw<|tD aro<|tD Xr<|tD Ye<|tD Xu<|tD aqk<|tD apU<|tD ao8<|tD apg<|tD arp<|tD an7<|tD aqx<|tD apR<|tD apm<|tD aqb<|tD aoE<|tD arD<|tD aq7<|tD aoX<|tD aoe<|tD aqR<|tD am8<|tD am2<|tD aqt<|tD aqn<|tD anQ<|tD apv<|tD aqF<|tD apX<|tD ari<|tD anq<|tD aqS<|tD aqc<|tD aou<|tD Xw<|tD aoP<|tD ark<|tD anw<|tD anC<|tD arc<|tD aoq<|tD aof<|tD ap9<|tD anD<|tD aqm<|λ_ _ h=>by cases h
theorem ajj: ∀t d i,lookupD wO t=some d->prog.info? t=some i->0<d.ty.n->i.bytes=d.bytes:=by
 intro t d i h hi _;replace h:=G3 h;simp only[wO,avv,awk,axw,aA1]at h;repeat' (first|refine Or.elim h (λh=> ?_) (λh=> ?_)|obtain⟨rfl,rfl⟩:=h)
 all_goals exact agX (by kernel_rfl) i hi
def xtL:List (Nat×Xt):= [(36,.f64from),(41,.Dl)]
theorem ash:tC prog 36 .f64from:=λ_ _=>by kernel_rfl
theorem as6:tC prog 41 .Dl:=λ_ _=>by kernel_rfl
theorem arF: ∀f x,lookXt xtL f=some x->tC prog f x:=N3 ash (N3 as6 (λ_ _ h=>by cases h))
def jK:List Int:= [0,1,28,2,29,14,24,3,30,22,20,15,25,17,4,8,31,27,13,23,21,19,16,7,26,12,18,6,11,5,10,9]
def bC:Gd where
 H w:= ∀k,k<32->w.cell? ⟨1,k,none⟩=some (.int .u8 (jK.getD k 0))
 gl b:=b=1
 mono:=by
  intro u v f a k g;have h1:=(f.block 1 rfl).2;have h:=a k g;unfold World.cell? at h⊢;rw[h1];exact h
 low:=by
  intro u b a hb;subst hb;exact Ds (a 0 (by decide))
def gvS:Nat->Option (Sigma λe:Ty=>List e.den):=λg=>cnd (Nat.beq g 1) (some ⟨.int .u8,jK⟩) none
theorem atc: ∀g e l,gvS g=some ⟨e,l⟩-> ∃b,bC.gl b/\ ∀(a:Act) (w:World) (X:Nat->Nat->Prop),bC.H w->(∀b p,X b p-> ¬ bC.gl b)->a.eval (.global g)= .pointer (some ⟨b,0,none⟩)/\jy w X e.n (TR w X e) l b 0:=by
 intro g e l h;obtain⟨h1,h2⟩:=ba h;have k:=beq_eq h1;subst k;cases h2;refine⟨1,rfl,λa w X hH hX=>⟨rfl,λi hi=>⟨[.int .u8 jK[i]],rfl,λj f=> ?_,rfl⟩,λp _ _ m=>hX _ _ m rfl⟩⟩;have f:j=0:=by simp only[Ty.n]at f;omega
 subst f;have:=hH i hi;simp only[Ty.n,aAr,awr,avs];rw[this];simp[List.getD,hi]
theorem asc: ∀t d,lookupD wO t=some d->d.eq=true-> ∀(m:Map) (X:Nat->Nat->Prop) (w:World) (xs ys:List Cell) (r:Bool) (us vs:List Value),eqTy d.ty xs ys=some r->aE m X w xs us->aE m X w ys vs->
  xs.length=d.ty.n->ys.length=d.ty.n->
  (eqGuard .eql t (.tmp 0) (.tmp 0) (.agg us.toArray) (.agg vs.toArray)>>=λ_=>binOp .eql t (.agg us.toArray) (.agg vs.toArray)).run prog w= .ok (.bool r) w/\
  (eqGuard .neq t (.tmp 0) (.tmp 0) (.agg us.toArray) (.agg vs.toArray)>>=λ_=>binOp .neq t (.agg us.toArray) (.agg vs.toArray)).run prog w= .ok (.bool (!r)) w:=by
 intro t d h a;have h:=G3 h;simp only[wO,avv,awk,axw,aA1]at h;rcases h with⟨rfl,rfl⟩|⟨rfl,rfl⟩|⟨rfl,rfl⟩|⟨rfl,rfl⟩|⟨rfl,rfl⟩|⟨rfl,rfl⟩|⟨rfl,rfl⟩|⟨rfl,rfl⟩|⟨rfl,rfl⟩|⟨rfl,rfl⟩|⟨rfl,rfl⟩|⟨rfl,rfl⟩|⟨rfl,rfl⟩|⟨rfl,rfl⟩|⟨rfl,rfl⟩|⟨rfl,rfl⟩|⟨rfl,rfl⟩|⟨rfl,rfl⟩|⟨rfl,rfl⟩|⟨rfl,rfl⟩|⟨rfl,rfl⟩|⟨rfl,rfl⟩|⟨rfl,rfl⟩|⟨rfl,rfl⟩|⟨rfl,rfl⟩|⟨rfl,rfl⟩|⟨rfl,rfl⟩|⟨rfl,rfl⟩|⟨rfl,rfl⟩|⟨rfl,rfl⟩|⟨rfl,rfl⟩|⟨rfl,rfl⟩|⟨rfl,rfl⟩|⟨rfl,rfl⟩|⟨rfl,rfl⟩|⟨rfl,rfl⟩|⟨rfl,rfl⟩|⟨rfl,rfl⟩|⟨rfl,rfl⟩|⟨rfl,rfl⟩|⟨rfl,rfl⟩|⟨rfl,rfl⟩|⟨rfl,rfl⟩|⟨rfl,rfl⟩|⟨rfl,rfl⟩|⟨rfl,rfl⟩|⟨rfl,rfl⟩|⟨rfl,rfl⟩|⟨rfl,rfl⟩|⟨rfl,rfl⟩|⟨rfl,rfl⟩|⟨rfl,rfl⟩|⟨rfl,rfl⟩|⟨rfl,rfl⟩|⟨rfl,rfl⟩|⟨rfl,rfl⟩|⟨rfl,rfl⟩|⟨rfl,rfl⟩|⟨rfl,rfl⟩|⟨rfl,rfl⟩|⟨rfl,rfl⟩|⟨rfl,rfl⟩|⟨rfl,rfl⟩|⟨rfl,rfl⟩|⟨rfl,rfl⟩|⟨rfl,rfl⟩|⟨rfl,rfl⟩|⟨rfl,rfl⟩|⟨rfl,rfl⟩|⟨rfl,rfl⟩|⟨rfl,rfl⟩|⟨rfl,rfl⟩|⟨rfl,rfl⟩|⟨rfl,rfl⟩|⟨rfl,rfl⟩|⟨rfl,rfl⟩|⟨rfl,rfl⟩|⟨rfl,rfl⟩|⟨rfl,rfl⟩|⟨rfl,rfl⟩|⟨rfl,rfl⟩|⟨rfl,rfl⟩|⟨rfl,rfl⟩|⟨rfl,rfl⟩|⟨rfl,rfl⟩|⟨rfl,rfl⟩|⟨rfl,rfl⟩|⟨rfl,rfl⟩|⟨rfl,rfl⟩|⟨rfl,rfl⟩|⟨rfl,rfl⟩|⟨rfl,rfl⟩|⟨rfl,rfl⟩
 ·cases a
 ·cases a
 ·cases a
 ·cases a
 ·cases a
 ·cases a
 ·cases a
 ·cases a
 ·cases a
 ·cases a
 ·cases a
 ·cases a
 ·cases a
 ·cases a
 ·cases a
 ·cases a
 ·cases a
 ·cases a
 ·cases a
 ·cases a
 ·cases a
 ·cases a
 ·cases a
 ·cases a
 ·exact λm X w xs ys r us vs h1 h2 h3 _ _=>fZ (wu 9998) eqGuardType51 m X w xs ys r us vs h1 h2 h3
 ·exact λm X w xs ys r us vs h1 h2 h3 _ _=>fZ (ar6 9998) eqGuardType53 m X w xs ys r us vs h1 h2 h3
 ·cases a
 ·cases a
 ·cases a
 ·cases a
 ·exact λm X w xs ys r us vs h1 h2 h3 _ _=>fZ (aso 9998) eqGuardType67 m X w xs ys r us vs h1 h2 h3
 ·cases a
 ·cases a
 ·exact λm X w xs ys r us vs h1 h2 h3 _ _=>fZ (aty 9998) eqGuardType74 m X w xs ys r us vs h1 h2 h3
 ·cases a
 ·exact λm X w xs ys r us vs h1 h2 h3 _ _=>fZ (abh 9998) eqGuardType80 m X w xs ys r us vs h1 h2 h3
 ·exact λm X w xs ys r us vs h1 h2 h3 _ _=>fZ (adl 9997) eqGuardType83 m X w xs ys r us vs h1 h2 h3
 ·exact λm X w xs ys r us vs h1 h2 h3 _ _=>fZ (asT 9996) eqGuardType85 m X w xs ys r us vs h1 h2 h3
 ·exact λm X w xs ys r us vs h1 h2 h3 _ _=>fZ (as5 9998) eqGuardType93 m X w xs ys r us vs h1 h2 h3
 ·cases a
 ·cases a
 ·exact λm X w xs ys r us vs h1 h2 h3 _ _=>fZ (ap0 9997) eqGuardType102 m X w xs ys r us vs h1 h2 h3
 ·exact λm X w xs ys r us vs h1 h2 h3 _ _=>fZ (aqh 9998) eqGuardType106 m X w xs ys r us vs h1 h2 h3
 ·cases a
 ·cases a
 ·cases a
 ·cases a
 ·cases a
 ·cases a
 ·cases a
 ·exact λm X w xs ys r us vs h1 h2 h3 _ _=>fZ (Y2 9998) eqGuardType147 m X w xs ys r us vs h1 h2 h3
 ·exact λm X w xs ys r us vs h1 h2 h3 _ _=>fZ (ZW 9998) eqGuardType149 m X w xs ys r us vs h1 h2 h3
 ·exact λm X w xs ys r us vs h1 h2 h3 _ _=>fZ (WO 9998) eqGuardType151 m X w xs ys r us vs h1 h2 h3
 ·exact λm X w xs ys r us vs h1 h2 h3 _ _=>fZ (anl 9997) eqGuardType153 m X w xs ys r us vs h1 h2 h3
 ·cases a
 ·exact λm X w xs ys r us vs h1 h2 h3 _ _=>fZ (apl 9998) eqGuardType158 m X w xs ys r us vs h1 h2 h3
 ·cases a
 ·cases a
 ·cases a
 ·cases a
 ·exact λm X w xs ys r us vs h1 h2 h3 _ _=>fZ (aqs 9998) eqGuardType191 m X w xs ys r us vs h1 h2 h3
 ·cases a
 ·cases a
 ·cases a
 ·exact λm X w xs ys r us vs h1 h2 h3 _ _=>fZ (aqz 9998) eqGuardType213 m X w xs ys r us vs h1 h2 h3
 ·cases a
 ·cases a
 ·cases a
 ·cases a
 ·cases a
 ·cases a
 ·cases a
 ·cases a
 ·cases a
 ·cases a
 ·cases a
 ·cases a
 ·cases a
 ·cases a
 ·cases a
 ·cases a
 ·cases a
 ·exact λm X w xs ys r us vs h1 h2 h3 _ _=>fZ (aae 9997) eqGuardType333 m X w xs ys r us vs h1 h2 h3
 ·exact λm X w xs ys r us vs h1 h2 h3 _ _=>fZ (aq8 9996) eqGuardType335 m X w xs ys r us vs h1 h2 h3
 ·cases a
 ·cases a
 ·cases a
 ·cases a
 ·exact λm X w xs ys r us vs h1 h2 h3 _ _=>fZ (ao3 9998) eqGuardType389 m X w xs ys r us vs h1 h2 h3
 ·exact λm X w xs ys r us vs h1 h2 h3 _ _=>fZ (apE 9998) eqGuardType393 m X w xs ys r us vs h1 h2 h3
 ·exact λm X w xs ys r us vs h1 h2 h3 _ _=>fZ (anF 9998) eqGuardType408 m X w xs ys r us vs h1 h2 h3
 ·cases a
 ·cases a
end Go.Proofs.YtcfinjcapeemeaaGreatDoor.S
