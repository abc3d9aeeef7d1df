/- SpaceGrants returns true at every input. No condition. Part of its proof. -/
import Derived.Test.YtlakjlmaboioiaaGreatDoorRows
import Derived.Test.YtlakjlmaboioiaaGreatDoorSg26
import Derived.Test.YtlakjlmaboioiaaGreatDoorSg22
import Derived.WalkKit
import Derived.ProofKit
import Derived.LaidMore
import Derived.OpenShut
import Derived.ShutString
import Derived.Below
import Derived.Stop.Joined
set_option linter.unusedVariables false
namespace Go.Proofs.YtlakjlmaboioiaaGreatDoor.spaceGrants
open Go.ChangeShapes Go.WideShapes Go.ChangeAt Go.RowKit
set_option linter.unusedVariables false
theorem own:ownKnob Tryz.prog.godebug = none:=by kernel_rfl
theorem laidOut:laidOutB Tryz.prog = true:=by kernel_rfl
theorem door_met (os:Os) (args:Array Value):laidMetH Tryz.prog laids ((World.doorLaid Tryz.prog 400 os).forCall (fun _ _=>0) ⟨#[],args,[]⟩).memory:=
  laidMetH_of_parts3 (fuel:=8) (laidMet_of_run' 8 (by kernel_rfl) (by kernel_rfl)) (by kernel_rfl) (by kernel_rfl)
set_option maxRecDepth 100000 in
theorem lifted (os:Os) (started:os.Started) (H:Type) (enc:TypeId × Value→H) :
    ReturnsInHanded {} Tryz.checked os 4 .any (fun w args=>(Rows.spaceGrantsSpec.pre enc Tryz.prog Tryz.f4 [] false w args∧laidMetH Tryz.prog laids w)∧sizedMet enc Tryz.prog Tryz.f4 (OpenSpec.ofChange Rows.spaceGrantsSpec) false w args)
      (Rows.spaceGrantsSpec.post enc Tryz.prog Tryz.f4 false true false false):=by
  refine returnsInHanded_of_change_and (C:=Tryz.checked) (X:=fun w _=>laidMetH Tryz.prog laids w) (fun _ _ _ hh h=>h.of_heap hh) own started (by kernel_rfl) Tryz.func4
    (ChangeSpec.witness_shaped (enc:=enc) (C:=Tryz.checked) (os:=os) (X:=fun w _=>laidMetH Tryz.prog laids w) false (World.doorLaid Tryz.prog 400 os) #[.int .u8 0,.bool false,.int .u8 0] 8 rfl (World.shaped_of_RefB (by kernel_rfl) (by kernel_rfl)) (by kernel_rfl) (by kernel_rfl) (by kernel_rfl) (door_met os _)) ?_
  intro W base args ds gs before hval0 hW _ _ hL _
  have hval:∀ (j:Nat) t v,Tryz.f4.params[j]? = some t→args[j]? = some v→Value.okWide Tryz.prog W .any base t v:=hval0
  have hW':=hW
  obtain⟨p,q,hA0,hV,rfl,hfz,hnd⟩:=hW
  have hA:DataW.TrodAll enc Tryz.prog W 0 (fun _=>true) true Tryz.f4.params.toList args.toList ds p:=hA0
  rw [Tryz.params4] at hA hval
  obtain⟨v0,v1,v2,d0,d1,d2,p0,p1,p2,rfl,rfl,rfl,h0,h1,h2⟩:=trodAll_three hA
  obtain⟨rfl,rfl⟩:=trodVars_none hV
  obtain⟨n0,rfl,rfl,rfl,wf0⟩:=open_int Tryz.underlying5 (hval 0 5 v0 rfl rfl) h0
  have hb0:0 ≤ n0∧n0 < 256:=by
    have:=bounds_u8 wf0
    omega
  obtain⟨m0,rfl⟩:=Int.eq_ofNat_of_zero_le hb0.1
  obtain⟨b1,rfl,rfl,rfl⟩:=open_bool Tryz.underlying4 (hval 1 4 v1 rfl rfl) h1
  obtain⟨n2,rfl,rfl,rfl,wf2⟩:=open_int Tryz.underlying5 (hval 2 5 v2 rfl rfl) h2
  have hb2:0 ≤ n2∧n2 < 256:=by
    have:=bounds_u8 wf2
    omega
  obtain⟨m2,rfl⟩:=Int.eq_ofNat_of_zero_le hb2.1
  clear hA0 hval0
  refine (spaceGrants_any (env_of_laid hL) m0 (by omega) b1 m2 (by omega)).mono fun e W' ⟨he,bel⟩=>?_
  subst he
  exact⟨_,rfl,_,_,_,[],_,[],hW',trodAll_mk1 (shut_bool Tryz.underlying4 _),trodAll_mk3 (shut_int Tryz.underlying5 wf0) (shut_bool Tryz.underlying4 b1) (shut_int Tryz.underlying5 wf2),rfl,bel.frame _,fun h=>by cases h⟩
theorem fact0:(Rows.spaceGrantsRow.inPlace == Tryz.prog.inPlace 4) = true:=by kernel_rfl
theorem fact1:(Rows.spaceGrantsRow.unfollowed == Tryz.prog.unfollowed 4) = true:=by kernel_rfl
theorem fact2:(Rows.spaceGrantsRow.recurses == Tryz.prog.recurses 4) = true:=by kernel_rfl
theorem fact3:(Rows.spaceGrantsRow.named == Tryz.prog.varsNamed 4) = true:=by kernel_rfl
theorem fact4:(Rows.spaceGrantsRow.plainKeys == Tryz.prog.plainKeys) = true:=by kernel_rfl
theorem fact5:Tryz.prog.stopsHeard = true:=by kernel_rfl
theorem fact6:Tryz.prog.mayEnter = true:=by kernel_rfl
theorem fact7:(Rows.spaceGrantsRow.lifted == Tryz.prog.liftsFinal) = true:=by kernel_rfl
theorem fact8:(Tryz.prog.make == some Rows.spaceGrantsRow.make) = true:=by kernel_rfl
theorem fact9:mapsRowed Tryz.prog = true:=by kernel_rfl
theorem closed:joinedFacts Tryz.prog 4 Tryz.f4 Rows.spaceGrantsSpec Rows.spaceGrantsRow = true:=by
  unfold joinedFacts
  rw [laidOut,fact0,fact1,fact2,fact3,fact4,fact5,fact6,fact7,fact8,fact9]
  kernel_rfl
theorem over:Rows.spaceGrantsRow.holds Tryz.pinned (OpenSpec.ofChange Rows.spaceGrantsSpec):=
  OpenClaim.holds_of_wide 4 Tryz.f4 rfl rfl rfl rfl rfl rfl rfl ⟨rfl,rfl,rfl,rfl,rfl⟩ rfl rfl rfl rfl rfl (by kernel_rfl) Tryz.func4 closed
    (of_decide_eq_true (by kernel_rfl)) (by unfold Func.isWrapper;first | (rw [if_pos (by decide +kernel)];kernel_rfl) | (rw [if_neg (by decide +kernel)];exact⟨rfl,rfl⟩))
    (fun os started H enc _=>lifted os started H enc)
theorem proved:Rows.SpaceGrantsSaid:=over
end Go.Proofs.YtlakjlmaboioiaaGreatDoor.spaceGrants
