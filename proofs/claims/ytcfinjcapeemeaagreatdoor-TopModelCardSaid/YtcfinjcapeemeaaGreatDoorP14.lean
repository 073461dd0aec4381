/- TopModel: for every input the call of the law returns true, and the arguments read behind the call as before. -/
import Derived.Test.YtcfinjcapeemeaaGreatDoorP13
set_option linter.all false
set_option maxRecDepth 100000
set_option maxHeartbeats 4000000
namespace Go.Proofs.YtcfinjcapeemeaaGreatDoor.S
open Go Go.RowKit IntKind Go.Proofs.Tryz
section
open Go.ChangeShapes Go.WideShapes Go.ChangeAt
theorem own:ownKnob prog.godebug=none:=by kernel_rfl
theorem laidOut:laidOutB prog=true:=by kernel_rfl
theorem aaK:prog.globalNamed "math/bits.deBruijn32tab" =some 1:=by kernel_rfl
theorem aiB(os:Os)(args:Array Value):laidMetH prog Rows.topModelRow.laid ((World.doorLaid prog 400 os).forCall (λ_ _=>0) ⟨#[],args,[]⟩).memory:=
 laidMetH_of_parts3 (fuel:=8) (laidMet_of_run' 8 (by kernel_rfl) (by kernel_rfl)) (by kernel_rfl) (by kernel_rfl)
theorem aj9{W:World}(h:laidMetH prog Rows.topModelRow.laid W):bD.H W:=by
 have h:laidMet prog [("math/bits.deBruijn32tab",Lib.tabData .u8 jA)] W:=h;obtain⟨t,ht⟩: ∃t,(prog.globals[1]?).map (·.type)=some t:=⟨_,rfl⟩
 have a:=Lib.tabIs_of_head (n:=32) (t:=230) (e:=5) aaK (by kernel_rfl) underlying230 underlying5 (by kernel_rfl) (by kernel_rfl) h;exact λk f=>a.cell aaK k f
theorem lifted(os:Os)(J:os.Started)(H:Type)(enc:TypeId×Value->H):
  ReturnsInHanded {} checked os 3 .any (λw args=>(Rows.topModelSpec.pre enc prog f3 [] false w args/\laidMetH prog Rows.topModelRow.laid w)/\sizedMet enc prog f3 (OpenSpec.ofChange Rows.topModelSpec) false w args)
   (Rows.topModelSpec.post enc prog f3 false true false false):=by
 refine returnsInHanded_of_change_and (C:=checked) (X:=λw _=>laidMetH prog Rows.topModelRow.laid w) (λ_ _ _ L h=>h.of_heap L) own J (by kernel_rfl) func3
  (ChangeSpec.witness_shaped (enc:=enc) (C:=checked) (os:=os) (X:=λw _=>laidMetH prog Rows.topModelRow.laid w) false (World.doorLaid prog 400 os) #[.agg #[.int .u8 0,.int .u8 0,.int .u8 0],.slice none 0 0] 8 rfl (World.shaped_of_RefB (by kernel_rfl) (by kernel_rfl)) (by kernel_rfl) (by kernel_rfl) (by kernel_rfl) (aiB os _)) ?_
 intro W base args M gs b0 f g b2 _ N _;have hH:=aj9 N;have a: ∀(j:Nat) t v,f3.params[j]? =some t->args[j]? =some v->Value.okWide prog W .any base t v:=f
 have O:=g;obtain⟨p,q,i,P,rfl,b3,b4⟩:=g;have k:DataW.TrodAll enc prog W 0 (λ_=>true) true f3.params.toList args.toList M p:=i;rw[params3]at k a;obtain⟨l,b5,d0,b6,Q,q0,b9,rfl,rfl,h0,S⟩:=trodAll_cons k;obtain⟨o,c9,d1,d5,p1,q1,rfl,rfl,rfl,h1,T⟩:=trodAll_cons S;obtain⟨rfl,rfl,rfl⟩:=trodAll_nil T;obtain rfl:args= #[l,o]:=by cases args;simp_all
 obtain⟨rfl,rfl⟩:=trodVars_none P;have s:=h0;have U: ∀x∈Q,x.block<W.heap.size:=by obtain⟨m,hm⟩:=s;exact DataW.trod_lt m _ _ _ hm
 obtain⟨V,rfl,d7⟩:=adQ underlying22 (a 0 22 l rfl rfl);obtain⟨d9,Y⟩:=h0;obtain⟨u,y,z,Z,h8,h9,a1⟩:=ah2 Y;have a2:V= #[.int .u8 u,.int .u8 y,.int .u8 z]:=by rw[<- Array.toList_inj];exact Z
 subst a2;have A:=h1;have a3: ∀x∈p1,x.block<W.heap.size:=by obtain⟨m,hm⟩:=A;exact DataW.trod_lt m _ _ _ hm
 obtain⟨b1,l1,a4,rfl⟩:=okWide_slice underlying23 (a 1 23 o rfl rfl);obtain⟨e2,a5⟩:=h1;obtain⟨e3,I,a6⟩:=ain a5;simp only[Value.cells,azc,aBf]at I;subst I;clear i f;refine(adI u y z (.slice b1 l1 a4) W h8 h9 a1 a6 hH).mono λe W' ⟨he,aA⟩=> ?_
 subst he;exact⟨_,rfl,_,_,_,[],_,[],O,trodAll_mk1 (shut_bool underlying4 _),(trodAll_cons_mk (Below.trod laidOut (by kernel_rfl) (aBb (by kernel_rfl)) s aA U) (trodAll_cons_mk (Below.trod laidOut (by kernel_rfl) (aBb (by kernel_rfl)) A aA a3) trodAll_mk0)),rfl,aA.frame _,λh=>by cases h⟩
theorem k9:(Rows.topModelRow.inPlace==prog.inPlace 3)=true:=by kernel_rfl
theorem k10:(Rows.topModelRow.unfollowed==prog.unfollowed 3)=true:=by kernel_rfl
theorem k11:(Rows.topModelRow.recurses==prog.recurses 3)=true:=by kernel_rfl
theorem k12:(Rows.topModelRow.named==prog.varsNamed 3)=true:=by kernel_rfl
theorem k25:prog.mayEnter=true:=by kernel_rfl
theorem ta{a b:Bool}(h:a=true)(k:b=true):(a&&b)=true:=by rw[h,k];rfl
theorem closed:joinedFacts prog 3 f3 Rows.topModelSpec Rows.topModelRow=true:=ta (ta (ta (ta (ta (ta (ta (ta (ta (ta (ta (ta (ta (ta (ta (ta (ta (ta (ta (ta (ta (ta (ta (ta (ta (ta (ta (ta (ta (ta (ta (by kernel_rfl) (by kernel_rfl)) (by kernel_rfl)) (by kernel_rfl)) (by kernel_rfl)) (by kernel_rfl)) (by kernel_rfl)) (by kernel_rfl)) (by kernel_rfl)) k9) k10) k11) k12) (by kernel_rfl)) (by kernel_rfl)) (by kernel_rfl)) (by kernel_rfl)) (by kernel_rfl)) (by kernel_rfl)) (by kernel_rfl)) (by kernel_rfl)) (by kernel_rfl)) (by kernel_rfl)) (by kernel_rfl)) (by kernel_rfl)) k25) (by kernel_rfl)) (by kernel_rfl)) (by kernel_rfl)) (by kernel_rfl)) (by kernel_rfl)) (by kernel_rfl)
theorem over:Rows.topModelRow.holds Tryz.pinned (OpenSpec.ofChange Rows.topModelSpec):=
 OpenClaim.holds_of_wide 3 f3 rfl rfl rfl rfl rfl rfl rfl ⟨rfl,rfl,rfl,rfl,rfl⟩ rfl rfl rfl rfl rfl (by kernel_rfl) func3 closed
  (aBb (by kernel_rfl)) (by unfold Func.isWrapper;first|(rw[avf (by decide+kernel)];kernel_rfl)|(rw[avb (by decide+kernel)];exact⟨rfl,rfl⟩))
  (λos a H enc _=>lifted os a H enc)
theorem proved:Rows.TopModelCardSaid:=
 Claim7.holds_tied_plain_at .later [] [.data] true (true, "c2631170590e51f8c42dd9f00dcc30c02e0998d2c77e89fc6adcc85e935dd822") true
  over (λ_ h=>by cases h) (by kernel_rfl) (λ_ h=>by cases h) topModel_row_tie rfl ⟨rfl,rfl⟩ (by kernel_rfl) rfl
  (λf fn a g=>by
   obtain rfl:f=3:=axk ((show prog.funcNamed "overlay/overlaytop.TopModel" =some 3 by kernel_rfl).symm.trans a)|>.symm
   obtain rfl:fn=f3:=(axk (func3.symm.trans g)).symm;exact⟨by kernel_rfl,λj t ht=>by
    rw[params3]at ht;have h3:t∈([22,23]:List TypeId):=axa (by simpa using ht);simp only[av3,ayi,aBo]at h3;rcases h3 with rfl|rfl
    ·exact(show prog.wantsStandIn 22=false by kernel_rfl)
    ·exact(show prog.wantsStandIn 23=false by kernel_rfl)⟩)
  (by kernel_rfl)
end
end Go.Proofs.YtcfinjcapeemeaaGreatDoor.S
namespace Go.Proofs.YtcfinjcapeemeaaGreatDoor.topModel
theorem proved : Rows.TopModelCardSaid := S.proved
end Go.Proofs.YtcfinjcapeemeaaGreatDoor.topModel
