/- SpaceRights returns true at every input. No condition. Part of its proof. -/
import Derived.Test.YtlakjlmaboioiaaGreatDoorSr01
import Derived.Test.YtlakjlmaboioiaaGreatDoorRows
import Derived.Test.YtlakjlmaboioiaaGreatDoorSr30
import Derived.Test.YtlakjlmaboioiaaGreatDoorSr20
import Derived.WalkKit
import Derived.ProofKit
import Derived.LaidMore
import Derived.OpenShut
import Derived.ShutString
import Derived.Below
import Derived.Stop.Joined
set_option maxRecDepth 100000
set_option linter.unusedVariables false
namespace Go.Proofs.YtlakjlmaboioiaaGreatDoor.spaceRights
open Go.ChangeShapes Go.WideShapes Go.ChangeAt Go.RowKit Go.Proofs.Tryz
set_option linter.unusedVariables false
theorem own:ownKnob prog.godebug=none:=by kernel_rfl
theorem Z6H:laidOutB prog=true:=by kernel_rfl
theorem Z8O (os:Os) (args:Array Value):laidMetH prog Z6G ((World.doorLaid prog 400 os).forCall (fun _ _=>0) ⟨#[],args,[]⟩).memory:=
 laidMetH_of_parts3 (fuel:=8) (laidMet_of_run' 8 (by kernel_rfl) (by kernel_rfl)) (by kernel_rfl) (by kernel_rfl)
theorem lifted (os:Os) (started:os.Started) (H:Type) (enc:TypeId×Value->H) :
  ReturnsInHanded {} checked os 6 .any (fun w args=>(Rows.spaceRightsSpec.pre enc prog f6 [] false w args/\laidMetH prog Z6G w)/\sizedMet enc prog f6 (OpenSpec.ofChange Rows.spaceRightsSpec) false w args)
   (Rows.spaceRightsSpec.post enc prog f6 false true false false):=by
 refine returnsInHanded_of_change_and (C:=checked) (X:=fun w _=>laidMetH prog Z6G w) (fun _ _ _ hh h=>h.of_heap hh) own started (by kernel_rfl) func6
  (ChangeSpec.witness_shaped (enc:=enc) (C:=checked) (os:=os) (X:=fun w _=>laidMetH prog Z6G w) false (World.doorLaid prog 400 os) #[.int .u16 0,.slice none 0 0] 8 rfl (World.shaped_of_RefB (by kernel_rfl) (by kernel_rfl)) (by kernel_rfl) (by kernel_rfl) (by kernel_rfl) (Z8O os _)) ?_
 intro W base args ds gs before hval0 hW _ _ hL _;have hval:∀(j:Nat) t v,f6.params[j]?=some t->args[j]?=some v->Value.okWide prog W .any base t v:=hval0;have hW':=hW;obtain⟨p,q,hA0,hV,rfl,hfz,hnd⟩:=hW;have hA:DataW.TrodAll enc prog W 0 (fun _=>true) true f6.params.toList args.toList ds p:=hA0;rw [params6] at hA hval;obtain⟨v0,v1,d0,d1,p0,p1,rfl,rfl,rfl,h0,h1⟩:=trodAll_two hA;obtain⟨rfl,rfl⟩:=trodVars_none hV;obtain⟨n0,rfl,rfl,rfl,wf0⟩:=open_int underlying52 (hval 0 52 v0 rfl rfl) h0;have hb0:0<=n0/\n0<65536:=by
  have:=bounds_u16 wf0;omega
 obtain⟨m0,rfl⟩:=J3b hb0.1;obtain⟨a1,len1,cap1,rfl⟩:=okWide_slice underlying63 (hval 1 63 v1 rfl rfl);have k1:=h1;have lt1:∀x∈p1,x.block<W.heap.size:=by obtain⟨m,hm⟩:=k1;exact DataW.trod_lt m _ _ _ hm
 obtain⟨A1,hAct1⟩:∃A,IsA17 W a1 len1 A:=by
  obtain⟨fuel,hf⟩:=h1;exact Z0s (by simpa [Value.cells] using hf)
 clear hA0 hval0;refine (Q6D (Z0N hL) m0 (by omega) a1 len1 cap1 A1 hAct1).mono fun e W' ⟨he,bel⟩=>?_
 subst he;exact⟨_,rfl,_,_,_,[],_,[],hW',trodAll_mk1 (shut_bool underlying4 _),trodAll_mk2 (shut_int underlying52 wf0) (Below.trod Z6H (by kernel_rfl) (of_decide_eq_true (by kernel_rfl)) k1 bel lt1),rfl,bel.frame _,fun h=>by cases h⟩
theorem fact0:(Rows.spaceRightsRow.inPlace==prog.inPlace 6)=true:=by kernel_rfl
theorem fact1:(Rows.spaceRightsRow.unfollowed==prog.unfollowed 6)=true:=by kernel_rfl
theorem fact2:(Rows.spaceRightsRow.recurses==prog.recurses 6)=true:=by kernel_rfl
theorem fact3:(Rows.spaceRightsRow.named==prog.varsNamed 6)=true:=by kernel_rfl
theorem fact4:(Rows.spaceRightsRow.plainKeys==prog.plainKeys)=true:=by kernel_rfl
theorem fact5:prog.stopsHeard=true:=by kernel_rfl
theorem fact6:prog.mayEnter=true:=by kernel_rfl
theorem fact7:(Rows.spaceRightsRow.lifted==prog.liftsFinal)=true:=by kernel_rfl
theorem fact8:(prog.make==some Rows.spaceRightsRow.make)=true:=by kernel_rfl
theorem J1v:mapsRowed prog=true:=by kernel_rfl
theorem closed:joinedFacts prog 6 f6 Rows.spaceRightsSpec Rows.spaceRightsRow=true:=by
 unfold joinedFacts;rw [Z6H,fact0,fact1,fact2,fact3,fact4,fact5,fact6,fact7,fact8,J1v]
 kernel_rfl
theorem over:Rows.spaceRightsRow.holds Tryz.pinned (OpenSpec.ofChange Rows.spaceRightsSpec):=
 OpenClaim.holds_of_wide 6 f6 rfl rfl rfl rfl rfl rfl rfl ⟨rfl,rfl,rfl,rfl,rfl⟩ rfl rfl rfl rfl rfl (by kernel_rfl) func6 closed
  (of_decide_eq_true (by kernel_rfl)) (by unfold Func.isWrapper;first|(rw [if_pos (by decide +kernel)];kernel_rfl)|(rw [if_neg (by decide +kernel)];exact⟨rfl,rfl⟩))
  (fun os started H enc _=>lifted os started H enc)
theorem proved:Rows.SpaceRightsSaid:=over
end Go.Proofs.YtlakjlmaboioiaaGreatDoor.spaceRights
