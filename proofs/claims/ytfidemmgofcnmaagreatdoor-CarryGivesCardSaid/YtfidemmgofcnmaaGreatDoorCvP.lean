/- CarryGives returns true at every input. No condition. Part of a proof. -/
import Derived.Test.YtfidemmgofcnmaaGreatDoorCvA0
import Derived.ShutString
import Derived.Below
import Derived.Stop.Joined
set_option maxRecDepth 100000
set_option linter.unusedVariables false
namespace Go.Proofs.YtfidemmgofcnmaaGreatDoor.carryGives
open Go.ChangeShapes Go.WideShapes Go.ChangeAt Go.RowKit Go.Proofs.Tryz
set_option linter.unusedVariables false
theorem own:ownKnob prog.godebug=none:=by kernel_rfl
theorem laidOut:laidOutB prog=true:=by kernel_rfl
theorem door_met(os:Os)(args:Array Value):laidMetH prog Q8u ((World.doorLaid prog 400 os).forCall (fun _ _=>0) ⟨#[],args,[]⟩).memory:=
 laidMetH_of_parts3 (fuel:=8) (laidMet_of_run' 8 (by kernel_rfl) (by kernel_rfl)) (by kernel_rfl) (by kernel_rfl)
theorem lifted(os:Os)(started:os.Started)(H:Type)(enc:TypeId×Value->H) :
  ReturnsInHanded {} checked os 9 .any (fun w args=>(Rows.carryGivesSpec.pre enc prog f9 [] false w args/\laidMetH prog Q8u w)/\sizedMet enc prog f9 (OpenSpec.ofChange Rows.carryGivesSpec) false w args)
   (Rows.carryGivesSpec.post enc prog f9 false true false false):=by
 refine returnsInHanded_of_change_and (C:=checked) (X:=fun w _=>laidMetH prog Q8u w) (fun _ _ _ hh h=>h.of_heap hh) own started (by kernel_rfl) func9
  (ChangeSpec.witness_shaped (enc:=enc) (C:=checked) (os:=os) (X:=fun w _=>laidMetH prog Q8u w) false (World.doorLaid prog 400 os) #[.slice none 0 0,.int .u8 0,.int .u8 0] 8 rfl (World.shaped_of_RefB (by kernel_rfl) (by kernel_rfl)) (by kernel_rfl) (by kernel_rfl) (by kernel_rfl) (door_met os _)) ?_
 intro W base args ds gs before EK hW _ _ hL _;have EL:∀(j:Nat) t v,f9.params[j]?=some t->args[j]?=some v->Value.okWide prog W .any base t v:=EK;have RA:=hW;obtain⟨p,q,LK,hV,rfl,Kx,AP⟩:=hW;have hA:DataW.TrodAll enc prog W 0 (fun _=>true) true f9.params.toList args.toList ds p:=LK;rw[params9] at hA EL;obtain⟨v0,v1,v2,d0,d1,d2,p0,p1,p2,rfl,rfl,rfl,h0,h1,h2⟩:=trodAll_three hA;obtain⟨rfl,rfl⟩:=trodVars_none hV;obtain⟨a0,len0,DL,rfl⟩:=okWide_slice underlying95 (EL 0 95 v0 rfl rfl);have k0:=h0;have lt0:∀x∈p0,x.block<W.heap.size:=by obtain⟨m,hm⟩:=k0;exact DataW.trod_lt m _ _ _ hm
 obtain⟨A0,GQ⟩:∃A,IsA19 W a0 len0 A:=by
  obtain⟨fuel,hf⟩:=h0;exact Q6A (by simpa[Value.cells] using hf)
 obtain⟨n1,rfl,rfl,rfl,wf1⟩:=open_int underlying5 (EL 1 5 v1 rfl rfl) h1;have Aq:0<=n1/\n1<256:=by
  have:=bounds_u8 wf1;omega
 obtain⟨m1,rfl⟩:=J4F Aq.1;obtain⟨n2,rfl,rfl,rfl,wf2⟩:=open_int underlying5 (EL 2 5 v2 rfl rfl) h2;have Ae:0<=n2/\n2<256:=by
  have:=bounds_u8 wf2;omega
 obtain⟨m2,rfl⟩:=J4F Ae.1;clear LK EK;refine(Q6L (Q6B hL) a0 len0 DL A0 GQ m1 (by omega) m2 (by omega)).mono fun e W' ⟨he,bel⟩=>?_
 subst he;exact⟨_,rfl,_,_,_,[],_,[],RA,trodAll_mk1 (shut_bool underlying4 _),trodAll_mk3 (Below.trod laidOut (by kernel_rfl) (of_decide_eq_true (by kernel_rfl)) k0 bel lt0) (shut_int underlying5 wf1) (shut_int underlying5 wf2),rfl,bel.frame _,fun h=>by cases h⟩
theorem fact0:(Rows.carryGivesRow.inPlace==prog.inPlace 9)=true:=by kernel_rfl
theorem fact1:(Rows.carryGivesRow.unfollowed==prog.unfollowed 9)=true:=by kernel_rfl
theorem fact2:(Rows.carryGivesRow.recurses==prog.recurses 9)=true:=by kernel_rfl
theorem fact3:(Rows.carryGivesRow.named==prog.varsNamed 9)=true:=by kernel_rfl
theorem fact4:(Rows.carryGivesRow.plainKeys==prog.plainKeys)=true:=by kernel_rfl
theorem fact5:prog.stopsHeard=true:=by kernel_rfl
theorem fact6:prog.mayEnter=true:=by kernel_rfl
theorem fact7:(Rows.carryGivesRow.lifted==prog.liftsFinal)=true:=by kernel_rfl
theorem fact8:(prog.make==some Rows.carryGivesRow.make)=true:=by kernel_rfl
theorem fact9:mapsRowed prog=true:=by kernel_rfl
theorem closed:joinedFacts prog 9 f9 Rows.carryGivesSpec Rows.carryGivesRow=true:=by
 unfold joinedFacts;rw[laidOut,fact0,fact1,fact2,fact3,fact4,fact5,fact6,fact7,fact8,fact9]
 kernel_rfl
theorem over:Rows.carryGivesRow.holds Tryz.pinned (OpenSpec.ofChange Rows.carryGivesSpec):=
 OpenClaim.holds_of_wide 9 f9 rfl rfl rfl rfl rfl rfl rfl ⟨rfl,rfl,rfl,rfl,rfl⟩ rfl rfl rfl rfl rfl (by kernel_rfl) func9 closed
  (of_decide_eq_true (by kernel_rfl)) (by unfold Func.isWrapper;first|(rw[if_pos (by decide +kernel)];kernel_rfl)|(rw[if_neg (by decide +kernel)];exact⟨rfl,rfl⟩))
  (fun os started H enc _=>lifted os started H enc)
theorem proved:Rows.CarryGivesSaid:=over
end Go.Proofs.YtfidemmgofcnmaaGreatDoor.carryGives
