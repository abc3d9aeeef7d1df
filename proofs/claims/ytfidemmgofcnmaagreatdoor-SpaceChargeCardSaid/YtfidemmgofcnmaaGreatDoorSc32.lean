/- SpaceCharge returns true at every input. No condition. Part of its proof. -/
import Derived.Test.YtfidemmgofcnmaaGreatDoorSc31
import Derived.ShutString
import Derived.Below
import Derived.Stop.Joined
set_option maxRecDepth 100000
set_option linter.unusedVariables false
namespace Go.Proofs.YtfidemmgofcnmaaGreatDoor.spaceCharge
open Go.ChangeShapes Go.WideShapes Go.ChangeAt Go.RowKit Go.Proofs.Tryz
set_option linter.unusedVariables false
theorem own:ownKnob prog.godebug=none:=by kernel_rfl
theorem Z7l:laidOutB prog=true:=by kernel_rfl
theorem Z9z (os:Os) (args:Array Value):laidMetH prog Z7k ((World.doorLaid prog 400 os).forCall (fun _ _=>0) ⟨#[],args,[]⟩).memory:=
 laidMetH_of_parts3 (fuel:=8) (laidMet_of_run' 8 (by kernel_rfl) (by kernel_rfl)) (by kernel_rfl) (by kernel_rfl)
theorem lifted (os:Os) (started:os.Started) (H:Type) (enc:TypeId×Value->H) :
  ReturnsInHanded {} checked os 4 .any (fun w args=>(Rows.spaceChargeSpec.pre enc prog f4 [] false w args/\laidMetH prog Z7k w)/\sizedMet enc prog f4 (OpenSpec.ofChange Rows.spaceChargeSpec) false w args)
   (Rows.spaceChargeSpec.post enc prog f4 false true false false):=by
 refine returnsInHanded_of_change_and (C:=checked) (X:=fun w _=>laidMetH prog Z7k w) (fun _ _ _ hh h=>h.of_heap hh) own started (by kernel_rfl) func4
  (ChangeSpec.witness_shaped (enc:=enc) (C:=checked) (os:=os) (X:=fun w _=>laidMetH prog Z7k w) false (World.doorLaid prog 400 os) #[.int .u16 0,.slice none 0 0] 8 rfl (World.shaped_of_RefB (by kernel_rfl) (by kernel_rfl)) (by kernel_rfl) (by kernel_rfl) (by kernel_rfl) (Z9z os _)) ?_
 intro W base args ds gs before Jm hW _ _ hL _;have Kx:∀(j:Nat) t v,f4.params[j]?=some t->args[j]?=some v->Value.okWide prog W .any base t v:=Jm;have Tv:=hW;obtain⟨p,q,Or,hV,rfl,KH,AG⟩:=hW;have hA:DataW.TrodAll enc prog W 0 (fun _=>true) true f4.params.toList args.toList ds p:=Or;rw [params4] at hA Kx;obtain⟨v0,v1,d0,d1,p0,p1,rfl,rfl,rfl,h0,h1⟩:=trodAll_two hA;obtain⟨rfl,rfl⟩:=trodVars_none hV;obtain⟨n0,rfl,rfl,rfl,wf0⟩:=open_int underlying22 (Kx 0 22 v0 rfl rfl) h0;have BI:0<=n0/\n0<65536:=by
  have:=bounds_u16 wf0;omega
 obtain⟨m0,rfl⟩:=J4e BI.1;obtain⟨a1,len1,OE,rfl⟩:=okWide_slice underlying44 (Kx 1 44 v1 rfl rfl);have k1:=h1;have lt1:∀x∈p1,x.block<W.heap.size:=by obtain⟨m,hm⟩:=k1;exact DataW.trod_lt m _ _ _ hm
 obtain⟨A1,Mk⟩:∃A,IsA17 W a1 len1 A:=by
  obtain⟨fuel,hf⟩:=h1;exact Z0K (by simpa [Value.cells] using hf)
 clear Or Jm;refine (Q6N (Z1f hL) m0 (by omega) a1 len1 OE A1 Mk).mono fun e W' ⟨he,bel⟩=>?_
 subst he;exact⟨_,rfl,_,_,_,[],_,[],Tv,trodAll_mk1 (shut_bool underlying4 _),trodAll_mk2 (shut_int underlying22 wf0) (Below.trod Z7l (by kernel_rfl) (of_decide_eq_true (by kernel_rfl)) k1 bel lt1),rfl,bel.frame _,fun h=>by cases h⟩
theorem fact0:(Rows.spaceChargeRow.inPlace==prog.inPlace 4)=true:=by kernel_rfl
theorem fact1:(Rows.spaceChargeRow.unfollowed==prog.unfollowed 4)=true:=by kernel_rfl
theorem fact2:(Rows.spaceChargeRow.recurses==prog.recurses 4)=true:=by kernel_rfl
theorem fact3:(Rows.spaceChargeRow.named==prog.varsNamed 4)=true:=by kernel_rfl
theorem fact4:(Rows.spaceChargeRow.plainKeys==prog.plainKeys)=true:=by kernel_rfl
theorem fact5:prog.stopsHeard=true:=by kernel_rfl
theorem fact6:prog.mayEnter=true:=by kernel_rfl
theorem fact7:(Rows.spaceChargeRow.lifted==prog.liftsFinal)=true:=by kernel_rfl
theorem fact8:(prog.make==some Rows.spaceChargeRow.make)=true:=by kernel_rfl
theorem J2w:mapsRowed prog=true:=by kernel_rfl
theorem closed:joinedFacts prog 4 f4 Rows.spaceChargeSpec Rows.spaceChargeRow=true:=by
 unfold joinedFacts;rw [Z7l,fact0,fact1,fact2,fact3,fact4,fact5,fact6,fact7,fact8,J2w]
 kernel_rfl
theorem over:Rows.spaceChargeRow.holds Tryz.pinned (OpenSpec.ofChange Rows.spaceChargeSpec):=
 OpenClaim.holds_of_wide 4 f4 rfl rfl rfl rfl rfl rfl rfl ⟨rfl,rfl,rfl,rfl,rfl⟩ rfl rfl rfl rfl rfl (by kernel_rfl) func4 closed
  (of_decide_eq_true (by kernel_rfl)) (by unfold Func.isWrapper;first|(rw [if_pos (by decide +kernel)];kernel_rfl)|(rw [if_neg (by decide +kernel)];exact⟨rfl,rfl⟩))
  (fun os started H enc _=>lifted os started H enc)
theorem proved:Rows.SpaceChargeSaid:=over
end Go.Proofs.YtfidemmgofcnmaaGreatDoor.spaceCharge
