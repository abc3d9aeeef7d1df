/- CarryFails returns true at every input. No condition. Part of a proof. -/
import Derived.Test.YtfidemmgofcnmaaGreatDoorCfA1
import Derived.ShutString
import Derived.Below
import Derived.Stop.Joined
set_option maxRecDepth 100000
set_option linter.unusedVariables false
namespace Go.Proofs.YtfidemmgofcnmaaGreatDoor.carryFails
open Go.ChangeShapes Go.WideShapes Go.ChangeAt Go.RowKit Go.Proofs.Tryz
set_option linter.unusedVariables false
theorem own:ownKnob prog.godebug=none:=by kernel_rfl
theorem laidOut:laidOutB prog=true:=by kernel_rfl
theorem door_met(os:Os)(args:Array Value):laidMetH prog Q8u ((World.doorLaid prog 400 os).forCall (fun _ _=>0) ⟨#[],args,[]⟩).memory:=
 laidMetH_of_parts3 (fuel:=8) (laidMet_of_run' 8 (by kernel_rfl) (by kernel_rfl)) (by kernel_rfl) (by kernel_rfl)
theorem lifted(os:Os)(started:os.Started)(H:Type)(enc:TypeId×Value->H) :
  ReturnsInHanded {} checked os 10 .any (fun w args=>(Rows.carryFailsSpec.pre enc prog f10 [] false w args/\laidMetH prog Q8u w)/\sizedMet enc prog f10 (OpenSpec.ofChange Rows.carryFailsSpec) false w args)
   (Rows.carryFailsSpec.post enc prog f10 false true false false):=by
 refine returnsInHanded_of_change_and (C:=checked) (X:=fun w _=>laidMetH prog Q8u w) (fun _ _ _ hh h=>h.of_heap hh) own started (by kernel_rfl) func10
  (ChangeSpec.witness_shaped (enc:=enc) (C:=checked) (os:=os) (X:=fun w _=>laidMetH prog Q8u w) false (World.doorLaid prog 400 os) #[.slice none 0 0,.agg #[.int .i64 0,.int .i64 0,.int .i64 0,.int .i64 0,.int .i64 0,.int .u64 0,.slice none 0 0,.int .u64 0,.slice none 0 0,.slice none 0 0,.int .i64 0,.int .i64 0,.int .i64 0,.int .i64 0,.int .i64 0,.int .i64 0,.int .i64 0,.int .i64 0,.int .i64 0,.int .i64 0,.bool false,.slice none 0 0,.int .i64 0,.int .i64 0,.int .i64 0,.int .i64 0,.bool false,.int .i64 0,.int .i64 0]] 8 rfl (World.shaped_of_RefB (by kernel_rfl) (by kernel_rfl)) (by kernel_rfl) (by kernel_rfl) (by kernel_rfl) (door_met os _)) ?_
 intro W base args ds gs before EK hW _ _ hL _;have EL:∀(j:Nat) t v,f10.params[j]?=some t->args[j]?=some v->Value.okWide prog W .any base t v:=EK;have RA:=hW;obtain⟨p,q,LK,hV,rfl,Kx,AP⟩:=hW;have hA:DataW.TrodAll enc prog W 0 (fun _=>true) true f10.params.toList args.toList ds p:=LK;rw[params10] at hA EL;obtain⟨v0,v1,d0,d1,p0,p1,rfl,rfl,rfl,h0,h1⟩:=trodAll_two hA;obtain⟨rfl,rfl⟩:=trodVars_none hV;obtain⟨a0,len0,DL,rfl⟩:=okWide_slice underlying95 (EL 0 95 v0 rfl rfl);have k0:=h0;have lt0:∀x∈p0,x.block<W.heap.size:=by obtain⟨m,hm⟩:=k0;exact DataW.trod_lt m _ _ _ hm
 obtain⟨A0,GQ⟩:∃A,IsA19 W a0 len0 A:=by
  obtain⟨fuel,hf⟩:=h0;exact Q6A (by simpa[Value.cells] using hf)
 obtain⟨c1,rfl,_⟩:=okWide_struct underlying102 (EL 1 102 v1 rfl rfl);have k1:=h1;have lt1:∀x∈p1,x.block<W.heap.size:=by obtain⟨m,hm⟩:=k1;exact DataW.trod_lt m _ _ _ hm
 obtain⟨x1,Gg,wf1⟩:∃x:A19,c1=x.cells.toArray/\x.Wf/\A19.Lies W x:=by
  obtain⟨fuel,hf⟩:=h1;obtain⟨x,e,hw⟩:=Q7I (cs:=c1.toList) hf;exact⟨x,by rw[<- e],hw⟩
 subst Gg;clear LK EK;refine(Q6K (Q6B hL) a0 len0 DL A0 GQ x1 wf1.1 wf1.2).mono fun e W' ⟨he,bel⟩=>?_
 subst he;exact⟨_,rfl,_,_,_,[],_,[],RA,trodAll_mk1 (shut_bool underlying4 _),trodAll_mk2 (Below.trod laidOut (by kernel_rfl) (of_decide_eq_true (by kernel_rfl)) k0 bel lt0) (Below.trod laidOut (by kernel_rfl) (of_decide_eq_true (by kernel_rfl)) k1 bel lt1),rfl,bel.frame _,fun h=>by cases h⟩
theorem fact0:(Rows.carryFailsRow.inPlace==prog.inPlace 10)=true:=by kernel_rfl
theorem fact1:(Rows.carryFailsRow.unfollowed==prog.unfollowed 10)=true:=by kernel_rfl
theorem fact2:(Rows.carryFailsRow.recurses==prog.recurses 10)=true:=by kernel_rfl
theorem fact3:(Rows.carryFailsRow.named==prog.varsNamed 10)=true:=by kernel_rfl
theorem fact4:(Rows.carryFailsRow.plainKeys==prog.plainKeys)=true:=by kernel_rfl
theorem fact5:prog.stopsHeard=true:=by kernel_rfl
theorem fact6:prog.mayEnter=true:=by kernel_rfl
theorem fact7:(Rows.carryFailsRow.lifted==prog.liftsFinal)=true:=by kernel_rfl
theorem fact8:(prog.make==some Rows.carryFailsRow.make)=true:=by kernel_rfl
theorem fact9:mapsRowed prog=true:=by kernel_rfl
theorem closed:joinedFacts prog 10 f10 Rows.carryFailsSpec Rows.carryFailsRow=true:=by
 unfold joinedFacts;rw[laidOut,fact0,fact1,fact2,fact3,fact4,fact5,fact6,fact7,fact8,fact9]
 kernel_rfl
theorem over:Rows.carryFailsRow.holds Tryz.pinned (OpenSpec.ofChange Rows.carryFailsSpec):=
 OpenClaim.holds_of_wide 10 f10 rfl rfl rfl rfl rfl rfl rfl ⟨rfl,rfl,rfl,rfl,rfl⟩ rfl rfl rfl rfl rfl (by kernel_rfl) func10 closed
  (of_decide_eq_true (by kernel_rfl)) (by unfold Func.isWrapper;first|(rw[if_pos (by decide +kernel)];kernel_rfl)|(rw[if_neg (by decide +kernel)];exact⟨rfl,rfl⟩))
  (fun os started H enc _=>lifted os started H enc)
theorem proved:Rows.CarryFailsSaid:=over
end Go.Proofs.YtfidemmgofcnmaaGreatDoor.carryFails
