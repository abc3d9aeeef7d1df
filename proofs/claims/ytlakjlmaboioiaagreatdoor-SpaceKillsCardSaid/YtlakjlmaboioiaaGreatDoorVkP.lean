/- SpaceKills returns true at every input. No condition. Part of a proof. -/
import Derived.Test.YtlakjlmaboioiaaGreatDoorVkA0
import Derived.ShutString
import Derived.Below
import Derived.Stop.Joined
set_option maxRecDepth 100000
set_option linter.unusedVariables false
namespace Go.Proofs.YtlakjlmaboioiaaGreatDoor.spaceKills
open Go.ChangeShapes Go.WideShapes Go.ChangeAt Go.RowKit Go.Proofs.Tryz
set_option linter.unusedVariables false
theorem own:ownKnob prog.godebug=none:=by kernel_rfl
theorem laidOut:laidOutB prog=true:=by kernel_rfl
theorem door_met (os:Os) (args:Array Value):laidMetH prog Q8E ((World.doorLaid prog 400 os).forCall (fun _ _=>0) ⟨#[],args,[]⟩).memory:=
 laidMetH_of_parts3 (fuel:=8) (laidMet_of_run' 8 (by kernel_rfl) (by kernel_rfl)) (by kernel_rfl) (by kernel_rfl)
theorem lifted (os:Os) (started:os.Started) (H:Type) (enc:TypeId×Value->H) :
  ReturnsInHanded {} checked os 9 .any (fun w args=>(Rows.spaceKillsSpec.pre enc prog f9 [] false w args/\laidMetH prog Q8E w)/\sizedMet enc prog f9 (OpenSpec.ofChange Rows.spaceKillsSpec) false w args)
   (Rows.spaceKillsSpec.post enc prog f9 false true false false):=by
 refine returnsInHanded_of_change_and (C:=checked) (X:=fun w _=>laidMetH prog Q8E w) (fun _ _ _ hh h=>h.of_heap hh) own started (by kernel_rfl) func9
  (ChangeSpec.witness_shaped (enc:=enc) (C:=checked) (os:=os) (X:=fun w _=>laidMetH prog Q8E w) false (World.doorLaid prog 400 os) #[.int .u16 0,.slice none 0 0,.int .u8 0] 8 rfl (World.shaped_of_RefB (by kernel_rfl) (by kernel_rfl)) (by kernel_rfl) (by kernel_rfl) (by kernel_rfl) (door_met os _)) ?_
 intro W base args ds gs before Eq hW _ _ hL _;have CY:∀(j:Nat) t v,f9.params[j]?=some t->args[j]?=some v->Value.okWide prog W .any base t v:=Eq;have OX:=hW;obtain⟨p,q,L6,hV,rfl,JZ,AD⟩:=hW;have hA:DataW.TrodAll enc prog W 0 (fun _=>true) true f9.params.toList args.toList ds p:=L6;rw [params9] at hA CY;obtain⟨v0,v1,v2,d0,d1,d2,p0,p1,p2,rfl,rfl,rfl,h0,h1,h2⟩:=trodAll_three hA;obtain⟨rfl,rfl⟩:=trodVars_none hV;obtain⟨n0,rfl,rfl,rfl,wf0⟩:=open_int underlying52 (CY 0 52 v0 rfl rfl) h0;have Bz:0<=n0/\n0<65536:=by
  have:=bounds_u16 wf0;omega
 obtain⟨m0,rfl⟩:=J3L Bz.1;obtain⟨a1,len1,Le,rfl⟩:=okWide_slice underlying63 (CY 1 63 v1 rfl rfl);have k1:=h1;have lt1:∀x∈p1,x.block<W.heap.size:=by obtain⟨m,hm⟩:=k1;exact DataW.trod_lt m _ _ _ hm
 obtain⟨A1,Ht⟩:∃A,IsA17 W a1 len1 A:=by
  obtain⟨fuel,hf⟩:=h1;exact Q6O (by simpa [Value.cells] using hf)
 obtain⟨n2,rfl,rfl,rfl,wf2⟩:=open_int underlying5 (CY 2 5 v2 rfl rfl) h2;have Af:0<=n2/\n2<256:=by
  have:=bounds_u8 wf2;omega
 obtain⟨m2,rfl⟩:=J3L Af.1;clear L6 Eq;refine (Q7e (Q6X hL) m0 (by omega) a1 len1 Le A1 Ht m2 (by omega)).mono fun e W' ⟨he,bel⟩=>?_
 subst he;exact⟨_,rfl,_,_,_,[],_,[],OX,trodAll_mk1 (shut_bool underlying4 _),trodAll_mk3 (shut_int underlying52 wf0) (Below.trod laidOut (by kernel_rfl) (of_decide_eq_true (by kernel_rfl)) k1 bel lt1) (shut_int underlying5 wf2),rfl,bel.frame _,fun h=>by cases h⟩
theorem fact0:(Rows.spaceKillsRow.inPlace==prog.inPlace 9)=true:=by kernel_rfl
theorem fact1:(Rows.spaceKillsRow.unfollowed==prog.unfollowed 9)=true:=by kernel_rfl
theorem fact2:(Rows.spaceKillsRow.recurses==prog.recurses 9)=true:=by kernel_rfl
theorem fact3:(Rows.spaceKillsRow.named==prog.varsNamed 9)=true:=by kernel_rfl
theorem fact4:(Rows.spaceKillsRow.plainKeys==prog.plainKeys)=true:=by kernel_rfl
theorem fact5:prog.stopsHeard=true:=by kernel_rfl
theorem fact6:prog.mayEnter=true:=by kernel_rfl
theorem fact7:(Rows.spaceKillsRow.lifted==prog.liftsFinal)=true:=by kernel_rfl
theorem fact8:(prog.make==some Rows.spaceKillsRow.make)=true:=by kernel_rfl
theorem fact9:mapsRowed prog=true:=by kernel_rfl
theorem closed:joinedFacts prog 9 f9 Rows.spaceKillsSpec Rows.spaceKillsRow=true:=by
 unfold joinedFacts;rw [laidOut,fact0,fact1,fact2,fact3,fact4,fact5,fact6,fact7,fact8,fact9]
 kernel_rfl
theorem over:Rows.spaceKillsRow.holds Tryz.pinned (OpenSpec.ofChange Rows.spaceKillsSpec):=
 OpenClaim.holds_of_wide 9 f9 rfl rfl rfl rfl rfl rfl rfl ⟨rfl,rfl,rfl,rfl,rfl⟩ rfl rfl rfl rfl rfl (by kernel_rfl) func9 closed
  (of_decide_eq_true (by kernel_rfl)) (by unfold Func.isWrapper;first|(rw [if_pos (by decide +kernel)];kernel_rfl)|(rw [if_neg (by decide +kernel)];exact⟨rfl,rfl⟩))
  (fun os started H enc _=>lifted os started H enc)
theorem proved:Rows.SpaceKillsSaid:=over
end Go.Proofs.YtlakjlmaboioiaaGreatDoor.spaceKills
