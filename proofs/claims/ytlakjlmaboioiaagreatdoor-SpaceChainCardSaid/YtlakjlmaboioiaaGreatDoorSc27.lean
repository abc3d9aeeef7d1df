/- SpaceChain returns true at every input. No condition. Part of its proof. -/
import Derived.Test.YtlakjlmaboioiaaGreatDoorRows
import Derived.Test.YtlakjlmaboioiaaGreatDoorSc26
import Derived.Test.YtlakjlmaboioiaaGreatDoorSc22
import Derived.WalkKit
import Derived.ProofKit
import Derived.LaidMore
import Derived.OpenShut
import Derived.ShutString
import Derived.Below
import Derived.Stop.Joined
set_option linter.unusedVariables false
namespace Go.Proofs.YtlakjlmaboioiaaGreatDoor.spaceChain
open Go.ChangeShapes Go.WideShapes Go.ChangeAt Go.RowKit
set_option linter.unusedVariables false
theorem own:ownKnob Tryz.prog.godebug = none:=by kernel_rfl
theorem laidOut:laidOutB Tryz.prog = true:=by kernel_rfl
theorem door_met (os:Os) (args:Array Value):laidMetH Tryz.prog laids ((World.doorLaid Tryz.prog 400 os).forCall (fun _ _=>0) ⟨#[],args,[]⟩).memory:=
  laidMetH_of_parts3 (fuel:=8) (laidMet_of_run' 8 (by kernel_rfl) (by kernel_rfl)) (by kernel_rfl) (by kernel_rfl)
set_option maxRecDepth 100000 in
theorem lifted (os:Os) (started:os.Started) (H:Type) (enc:TypeId × Value→H) :
    ReturnsInHanded {} Tryz.checked os 3 .any (fun w args=>(Rows.spaceChainSpec.pre enc Tryz.prog Tryz.f3 [] false w args∧laidMetH Tryz.prog laids w)∧sizedMet enc Tryz.prog Tryz.f3 (OpenSpec.ofChange Rows.spaceChainSpec) false w args)
      (Rows.spaceChainSpec.post enc Tryz.prog Tryz.f3 false true false false):=by
  refine returnsInHanded_of_change_and (C:=Tryz.checked) (X:=fun w _=>laidMetH Tryz.prog laids w) (fun _ _ _ hh h=>h.of_heap hh) own started (by kernel_rfl) Tryz.func3
    (ChangeSpec.witness_shaped (enc:=enc) (C:=Tryz.checked) (os:=os) (X:=fun w _=>laidMetH Tryz.prog laids w) false (World.doorLaid Tryz.prog 400 os) #[.slice none 0 0,.int .u8 0,.bool false] 8 rfl (World.shaped_of_RefB (by kernel_rfl) (by kernel_rfl)) (by kernel_rfl) (by kernel_rfl) (by kernel_rfl) (door_met os _)) ?_
  intro W base args ds gs before hval0 hW _ _ hL _
  have hval:∀ (j:Nat) t v,Tryz.f3.params[j]? = some t→args[j]? = some v→Value.okWide Tryz.prog W .any base t v:=hval0
  have hW':=hW
  obtain⟨p,q,hA0,hV,rfl,hfz,hnd⟩:=hW
  have hA:DataW.TrodAll enc Tryz.prog W 0 (fun _=>true) true Tryz.f3.params.toList args.toList ds p:=hA0
  rw [Tryz.params3] at hA hval
  obtain⟨v0,v1,v2,d0,d1,d2,p0,p1,p2,rfl,rfl,rfl,h0,h1,h2⟩:=trodAll_three hA
  obtain⟨rfl,rfl⟩:=trodVars_none hV
  obtain⟨a0,len0,cap0,rfl⟩:=okWide_slice Tryz.underlying22 (hval 0 22 v0 rfl rfl)
  have k0:=h0
  have lt0:∀ x ∈ p0,x.block < W.heap.size:=by obtain⟨m,hm⟩:=k0;exact DataW.trod_lt m _ _ _ hm
  obtain⟨A0,hAct0⟩:∃ A,IsB8 W a0 len0 A:=by
    obtain⟨fuel,hf⟩:=h0
    exact open_b8s (by simpa [Value.cells] using hf)
  obtain⟨n1,rfl,rfl,rfl,wf1⟩:=open_int Tryz.underlying5 (hval 1 5 v1 rfl rfl) h1
  have hb1:0 ≤ n1∧n1 < 256:=by
    have:=bounds_u8 wf1
    omega
  obtain⟨m1,rfl⟩:=Int.eq_ofNat_of_zero_le hb1.1
  obtain⟨b2,rfl,rfl,rfl⟩:=open_bool Tryz.underlying4 (hval 2 4 v2 rfl rfl) h2
  clear hA0 hval0
  refine (spaceChain_any (env_of_laid hL) a0 len0 cap0 A0 hAct0 m1 (by omega) b2).mono fun e W' ⟨he,bel⟩=>?_
  subst he
  exact⟨_,rfl,_,_,_,[],_,[],hW',trodAll_mk1 (shut_bool Tryz.underlying4 _),trodAll_mk3 (Below.trod laidOut (by kernel_rfl) (of_decide_eq_true (by kernel_rfl)) k0 bel lt0) (shut_int Tryz.underlying5 wf1) (shut_bool Tryz.underlying4 b2),rfl,bel.frame _,fun h=>by cases h⟩
theorem fact0:(Rows.spaceChainRow.inPlace == Tryz.prog.inPlace 3) = true:=by kernel_rfl
theorem fact1:(Rows.spaceChainRow.unfollowed == Tryz.prog.unfollowed 3) = true:=by kernel_rfl
theorem fact2:(Rows.spaceChainRow.recurses == Tryz.prog.recurses 3) = true:=by kernel_rfl
theorem fact3:(Rows.spaceChainRow.named == Tryz.prog.varsNamed 3) = true:=by kernel_rfl
theorem fact4:(Rows.spaceChainRow.plainKeys == Tryz.prog.plainKeys) = true:=by kernel_rfl
theorem fact5:Tryz.prog.stopsHeard = true:=by kernel_rfl
theorem fact6:Tryz.prog.mayEnter = true:=by kernel_rfl
theorem fact7:(Rows.spaceChainRow.lifted == Tryz.prog.liftsFinal) = true:=by kernel_rfl
theorem fact8:(Tryz.prog.make == some Rows.spaceChainRow.make) = true:=by kernel_rfl
theorem fact9:mapsRowed Tryz.prog = true:=by kernel_rfl
theorem closed:joinedFacts Tryz.prog 3 Tryz.f3 Rows.spaceChainSpec Rows.spaceChainRow = true:=by
  unfold joinedFacts
  rw [laidOut,fact0,fact1,fact2,fact3,fact4,fact5,fact6,fact7,fact8,fact9]
  kernel_rfl
theorem over:Rows.spaceChainRow.holds Tryz.pinned (OpenSpec.ofChange Rows.spaceChainSpec):=
  OpenClaim.holds_of_wide 3 Tryz.f3 rfl rfl rfl rfl rfl rfl rfl ⟨rfl,rfl,rfl,rfl,rfl⟩ rfl rfl rfl rfl rfl (by kernel_rfl) Tryz.func3 closed
    (of_decide_eq_true (by kernel_rfl)) (by unfold Func.isWrapper;first | (rw [if_pos (by decide +kernel)];kernel_rfl) | (rw [if_neg (by decide +kernel)];exact⟨rfl,rfl⟩))
    (fun os started H enc _=>lifted os started H enc)
theorem proved:Rows.SpaceChainSaid:=over
end Go.Proofs.YtlakjlmaboioiaaGreatDoor.spaceChain
