/- CarryTells returns true at every input. No condition. Part of a proof. -/
import Derived.Test.YtfidemmgofcnmaaGreatDoorCtA1
import Derived.ShutString
import Derived.Below
import Derived.Stop.Joined
import Derived.Carry
set_option maxRecDepth 100000
set_option linter.unusedVariables false
namespace Go.Proofs.YtfidemmgofcnmaaGreatDoor.carryTells
open Go.ChangeShapes Go.WideShapes Go.ChangeAt Go.RowKit Go.Proofs.Tryz
set_option linter.unusedVariables false
theorem own:ownKnob prog.godebug=none:=by kernel_rfl
theorem laidOut:laidOutB prog=true:=by kernel_rfl
theorem door_met(os:Os)(args:Array Value):laidMetH prog Q7Z ((World.doorLaid prog 400 os).forCall (fun _ _=>0) ⟨#[],args,[]⟩).memory:=
 laidMetH_of_parts3 (fuel:=8) (laidMet_of_run' 8 (by kernel_rfl) (by kernel_rfl)) (by kernel_rfl) (by kernel_rfl)
theorem lifted(os:Os)(started:os.Started)(H:Type)(enc:TypeId×Value->H) :
  ReturnsInHanded {} checked os 8 .any (fun w args=>(Rows.carryTellsSpec.pre enc prog f8 [] false w args/\laidMetH prog Q7Z w)/\sizedMet enc prog f8 (OpenSpec.ofChange Rows.carryTellsSpec) false w args)
   (Rows.carryTellsSpec.post enc prog f8 false true false false):=by
 refine returnsInHanded_of_change_and (C:=checked) (X:=fun w _=>laidMetH prog Q7Z w) (fun _ _ _ hh h=>h.of_heap hh) own started (by kernel_rfl) func8
  (ChangeSpec.witness_shaped (enc:=enc) (C:=checked) (os:=os) (X:=fun w _=>laidMetH prog Q7Z w) false (World.doorLaid prog 400 os) #[.slice none 0 0,.int .u8 0,.int .u8 0,.int .u64 0] 8 rfl (World.shaped_of_RefB (by kernel_rfl) (by kernel_rfl)) (by kernel_rfl) (by kernel_rfl) (by kernel_rfl) (door_met os _)) ?_
 intro W base args ds gs before Eq hW _ _ hL _;have Dc:∀(j:Nat) t v,f8.params[j]?=some t->args[j]?=some v->Value.okWide prog W .any base t v:=Eq;have OH:=hW;obtain⟨p,q,Lc,hV,rfl,Ki,AO⟩:=hW;have hA:DataW.TrodAll enc prog W 0 (fun _=>true) true f8.params.toList args.toList ds p:=Lc;rw[params8] at hA Dc;obtain⟨v0,v1,v2,v3,d0,d1,d2,d3,p0,p1,p2,p3,rfl,rfl,rfl,h0,h1,h2,h3⟩:=trodAll_four hA;obtain⟨rfl,rfl⟩:=trodVars_none hV;obtain⟨a0,len0,D5,rfl⟩:=okWide_slice underlying95 (Dc 0 95 v0 rfl rfl);have k0:=h0;have lt0:∀x∈p0,x.block<W.heap.size:=by obtain⟨m,hm⟩:=k0;exact DataW.trod_lt m _ _ _ hm
 obtain⟨A0,GJ⟩:∃A,IsA19 W a0 len0 A:=by
  obtain⟨fuel,hf⟩:=h0;exact Q6o (by simpa[Value.cells] using hf)
 obtain⟨n1,rfl,rfl,rfl,wf1⟩:=open_int underlying5 (Dc 1 5 v1 rfl rfl) h1;have Ar:0<=n1/\n1<256:=by
  have:=bounds_u8 wf1;omega
 obtain⟨m1,rfl⟩:=J3b Ar.1;obtain⟨n2,rfl,rfl,rfl,wf2⟩:=open_int underlying5 (Dc 2 5 v2 rfl rfl) h2;have Ae:0<=n2/\n2<256:=by
  have:=bounds_u8 wf2;omega
 obtain⟨m2,rfl⟩:=J3b Ae.1;obtain⟨n3,rfl,rfl,rfl,wf3⟩:=open_int underlying83 (Dc 3 83 v3 rfl rfl) h3;have An:0<=n3/\n3<18446744073709551616:=by
  have:=bounds_u64 wf3;omega
 obtain⟨m3,rfl⟩:=J3b An.1;clear Lc Eq;refine(Q6w (Q6p hL) a0 len0 D5 A0 GJ m1 (by omega) m2 (by omega) m3 (by omega)).mono fun e W' ⟨he,bel⟩=>?_
 subst he;exact⟨_,rfl,_,_,_,[],_,[],OH,trodAll_mk1 (shut_bool underlying4 _),trodAll_mk4 (Below.trod laidOut (by kernel_rfl) (of_decide_eq_true (by kernel_rfl)) k0 bel lt0) (shut_int underlying5 wf1) (shut_int underlying5 wf2) (shut_int underlying83 wf3),rfl,bel.frame _,fun h=>by cases h⟩
theorem fact0:(Rows.carryTellsRow.inPlace==prog.inPlace 8)=true:=by kernel_rfl
theorem fact1:(Rows.carryTellsRow.unfollowed==prog.unfollowed 8)=true:=by kernel_rfl
theorem fact2:(Rows.carryTellsRow.recurses==prog.recurses 8)=true:=by kernel_rfl
theorem fact3:(Rows.carryTellsRow.named==prog.varsNamed 8)=true:=by kernel_rfl
theorem fact4:(Rows.carryTellsRow.plainKeys==prog.plainKeys)=true:=by kernel_rfl
theorem fact5:prog.stopsHeard=true:=by kernel_rfl
theorem fact6:prog.mayEnter=true:=by kernel_rfl
theorem fact7:(Rows.carryTellsRow.lifted==prog.liftsFinal)=true:=by kernel_rfl
theorem fact8:(prog.make==some Rows.carryTellsRow.make)=true:=by kernel_rfl
theorem fact9:mapsRowed prog=true:=by kernel_rfl
theorem closed:joinedFacts prog 8 f8 Rows.carryTellsSpec Rows.carryTellsRow=true:=by
 unfold joinedFacts;rw[laidOut,fact0,fact1,fact2,fact3,fact4,fact5,fact6,fact7,fact8,fact9]
 kernel_rfl
theorem over:Rows.carryTellsRow.holds Tryz.pinned (OpenSpec.ofChange Rows.carryTellsSpec):=
 OpenClaim.holds_of_wide 8 f8 rfl rfl rfl rfl rfl rfl rfl ⟨rfl,rfl,rfl,rfl,rfl⟩ rfl rfl rfl rfl rfl (by kernel_rfl) func8 closed
  (of_decide_eq_true (by kernel_rfl)) (by unfold Func.isWrapper;first|(rw[if_pos (by decide +kernel)];kernel_rfl)|(rw[if_neg (by decide +kernel)];exact⟨rfl,rfl⟩))
  (fun os started H enc _=>lifted os started H enc)
theorem proved:Rows.CarryTellsSaid:=over
end Go.Proofs.YtfidemmgofcnmaaGreatDoor.carryTells
