/- TopFull: for every input the call of the law returns true, and the arguments read behind the call as before. -/
import Derived.Test.YtcfinjcapeemeaaGreatDoorFQ13
set_option linter.all false
set_option maxRecDepth 100000
set_option maxHeartbeats 4000000
namespace Go.Proofs.YtcfinjcapeemeaaGreatDoor.S
open Go Go.RowKit IntKind Go.Proofs.Tryz
section
open Go.ChangeShapes Go.WideShapes Go.ChangeAt
theorem own:ownKnob prog.godebug=none:=by kernel_rfl
theorem laidOut:laidOutB prog=true:=by kernel_rfl
theorem ab9:prog.globalNamed "math/bits.deBruijn32tab" =some 1:=by kernel_rfl
theorem air(os:Os)(args:Array Value):laidMetH prog Rows.topFullRow.laid ((World.doorLaid prog 400 os).forCall (λ_ _=>0) ⟨#[],args,[]⟩).memory:=
 laidMetH_of_parts3 (fuel:=8) (laidMet_of_run' 8 (by kernel_rfl) (by kernel_rfl)) (by kernel_rfl) (by kernel_rfl)
theorem ajl{W:World}(h:laidMetH prog Rows.topFullRow.laid W):bC.H W:=by
 have h:laidMet prog [("math/bits.deBruijn32tab",Lib.tabData .u8 jK)] W:=h;obtain⟨t,ht⟩: ∃t,(prog.globals[1]?).map (·.type)=some t:=⟨_,rfl⟩
 have a:=Lib.tabIs_of_head (n:=32) (t:=230) (e:=5) ab9 (by kernel_rfl) underlying230 underlying5 (by kernel_rfl) (by kernel_rfl) h;exact λk f=>a.cell ab9 k f
theorem lifted(os:Os)(J:os.Started)(H:Type)(enc:TypeId×Value->H):
  ReturnsInHanded {} checked os 5 .any (λw args=>(Rows.topFullSpec.pre enc prog f5 [] false w args/\laidMetH prog Rows.topFullRow.laid w)/\sizedMet enc prog f5 (OpenSpec.ofChange Rows.topFullSpec) false w args)
   (Rows.topFullSpec.post enc prog f5 false true false false):=by
 refine returnsInHanded_of_change_and (C:=checked) (X:=λw _=>laidMetH prog Rows.topFullRow.laid w) (λ_ _ _ L h=>h.of_heap L) own J (by kernel_rfl) func5
  (ChangeSpec.witness_shaped (enc:=enc) (C:=checked) (os:=os) (X:=λw _=>laidMetH prog Rows.topFullRow.laid w) false (World.doorLaid prog 400 os) #[.agg #[.int .u8 0,.int .u8 0,.int .u8 0],.slice none 0 0] 8 rfl (World.shaped_of_RefB (by kernel_rfl) (by kernel_rfl)) (by kernel_rfl) (by kernel_rfl) (by kernel_rfl) (air os _)) ?_
 intro W base args M gs b0 f g b2 _ N _;have hH:=ajl N;have a: ∀(j:Nat) t v,f5.params[j]? =some t->args[j]? =some v->Value.okWide prog W .any base t v:=f
 have O:=g;obtain⟨p,q,i,P,rfl,b3,b4⟩:=g;have k:DataW.TrodAll enc prog W 0 (λ_=>true) true f5.params.toList args.toList M p:=i;rw[params5]at k a;obtain⟨l,b5,d0,b6,Q,q0,b9,rfl,rfl,h0,S⟩:=trodAll_cons k;obtain⟨o,c9,d1,d5,p1,q1,rfl,rfl,rfl,h1,T⟩:=trodAll_cons S;obtain⟨rfl,rfl,rfl⟩:=trodAll_nil T;obtain rfl:args= #[l,o]:=by cases args;simp_all
 obtain⟨rfl,rfl⟩:=trodVars_none P;have s:=h0;have U: ∀x∈Q,x.block<W.heap.size:=by obtain⟨m,hm⟩:=s;exact DataW.trod_lt m _ _ _ hm
 obtain⟨V,rfl,d7⟩:=adT underlying22 (a 0 22 l rfl rfl);obtain⟨d9,Y⟩:=h0;obtain⟨u,y,z,Z,h8,h9,a1⟩:=ahO Y;have a2:V= #[.int .u8 u,.int .u8 y,.int .u8 z]:=by rw[<- Array.toList_inj];exact Z
 subst a2;have A:=h1;have a3: ∀x∈p1,x.block<W.heap.size:=by obtain⟨m,hm⟩:=A;exact DataW.trod_lt m _ _ _ hm
 obtain⟨b1,l1,a4,rfl⟩:=okWide_slice underlying41 (a 1 41 o rfl rfl);obtain⟨e2,a5⟩:=h1;obtain⟨e3,I,a6⟩:=aix a5;simp only[Value.cells,aym,aAp]at I;subst I;clear i f;refine(adO u y z (.slice b1 l1 a4) W h8 h9 a1 a6 hH).mono λe W' ⟨he,aB⟩=> ?_
 subst he;exact⟨_,rfl,_,_,_,[],_,[],O,trodAll_mk1 (shut_bool underlying4 _),(trodAll_cons_mk (Below.trod laidOut (by kernel_rfl) (aBc (by kernel_rfl)) s aB U) (trodAll_cons_mk (Below.trod laidOut (by kernel_rfl) (aBc (by kernel_rfl)) A aB a3) trodAll_mk0)),rfl,aB.frame _,λh=>by cases h⟩
theorem k9:(Rows.topFullRow.inPlace==prog.inPlace 5)=true:=by kernel_rfl
theorem k10:(Rows.topFullRow.unfollowed==prog.unfollowed 5)=true:=by kernel_rfl
theorem k11:(Rows.topFullRow.recurses==prog.recurses 5)=true:=by kernel_rfl
theorem k12:(Rows.topFullRow.named==prog.varsNamed 5)=true:=by kernel_rfl
theorem k25:prog.mayEnter=true:=by kernel_rfl
theorem ta{a b:Bool}(h:a=true)(k:b=true):(a&&b)=true:=by rw[h,k];rfl
theorem closed:joinedFacts prog 5 f5 Rows.topFullSpec Rows.topFullRow=true:=ta (ta (ta (ta (ta (ta (ta (ta (ta (ta (ta (ta (ta (ta (ta (ta (ta (ta (ta (ta (ta (ta (ta (ta (ta (ta (ta (ta (ta (ta (ta (by kernel_rfl) (by kernel_rfl)) (by kernel_rfl)) (by kernel_rfl)) (by kernel_rfl)) (by kernel_rfl)) (by kernel_rfl)) (by kernel_rfl)) (by kernel_rfl)) k9) k10) k11) k12) (by kernel_rfl)) (by kernel_rfl)) (by kernel_rfl)) (by kernel_rfl)) (by kernel_rfl)) (by kernel_rfl)) (by kernel_rfl)) (by kernel_rfl)) (by kernel_rfl)) (by kernel_rfl)) (by kernel_rfl)) (by kernel_rfl)) k25) (by kernel_rfl)) (by kernel_rfl)) (by kernel_rfl)) (by kernel_rfl)) (by kernel_rfl)) (by kernel_rfl)
theorem over:Rows.topFullRow.holds Tryz.pinned (OpenSpec.ofChange Rows.topFullSpec):=
 OpenClaim.holds_of_wide 5 f5 rfl rfl rfl rfl rfl rfl rfl ⟨rfl,rfl,rfl,rfl,rfl⟩ rfl rfl rfl rfl rfl (by kernel_rfl) func5 closed
  (aBc (by kernel_rfl)) (by unfold Func.isWrapper;first|(rw[ava (by decide+kernel)];kernel_rfl)|(rw[au6 (by decide+kernel)];exact⟨rfl,rfl⟩))
  (λos a H enc _=>lifted os a H enc)
theorem proved:Rows.TopFullCardSaid:=
 Claim7.holds_tied_plain_at .later [] [.data] true (true, "c2631170590e51f8c42dd9f00dcc30c02e0998d2c77e89fc6adcc85e935dd822") true
  over (λ_ h=>by cases h) (by kernel_rfl) (λ_ h=>by cases h) topFull_row_tie rfl ⟨rfl,rfl⟩ (by kernel_rfl) rfl
  (λf fn a g=>by
   obtain rfl:f=5:=axk ((show prog.funcNamed "overlay/overlaytop.TopFull" =some 5 by kernel_rfl).symm.trans a)|>.symm
   obtain rfl:fn=f5:=(axk (func5.symm.trans g)).symm;exact⟨by kernel_rfl,λj t ht=>by
    rw[params5]at ht;have h3:t∈([22,41]:List TypeId):=axc (by simpa using ht);simp only[avv,axw,aA1]at h3;rcases h3 with rfl|rfl
    ·exact(show prog.wantsStandIn 22=false by kernel_rfl)
    ·exact(show prog.wantsStandIn 41=false by kernel_rfl)⟩)
  (by kernel_rfl)
end
end Go.Proofs.YtcfinjcapeemeaaGreatDoor.S
namespace Go.Proofs.YtcfinjcapeemeaaGreatDoor.topFull
theorem proved : Rows.TopFullCardSaid := S.proved
end Go.Proofs.YtcfinjcapeemeaaGreatDoor.topFull
