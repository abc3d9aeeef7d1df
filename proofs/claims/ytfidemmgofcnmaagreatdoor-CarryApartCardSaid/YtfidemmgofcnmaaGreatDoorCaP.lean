/- CarryApart returns true at every input. No condition. Part of a proof. -/
import Derived.Test.YtfidemmgofcnmaaGreatDoorCaA0
import Derived.ShutString
import Derived.Below
import Derived.Stop.Joined
set_option maxRecDepth 100000
set_option linter.unusedVariables false
namespace Go.Proofs.YtfidemmgofcnmaaGreatDoor.carryApart
open Go.ChangeShapes Go.WideShapes Go.ChangeAt Go.RowKit Go.Proofs.Tryz
set_option linter.unusedVariables false
theorem own:ownKnob prog.godebug=none:=by kernel_rfl
theorem laidOut:laidOutB prog=true:=by kernel_rfl
theorem door_met(os:Os)(args:Array Value):laidMetH prog Q7Z ((World.doorLaid prog 400 os).forCall (fun _ _=>0) ⟨#[],args,[]⟩).memory:=
 laidMetH_of_parts3 (fuel:=8) (laidMet_of_run' 8 (by kernel_rfl) (by kernel_rfl)) (by kernel_rfl) (by kernel_rfl)
theorem lifted(os:Os)(started:os.Started)(H:Type)(enc:TypeId×Value->H) :
  ReturnsInHanded {} checked os 7 .any (fun w args=>(Rows.carryApartSpec.pre enc prog f7 [] false w args/\laidMetH prog Q7Z w)/\sizedMet enc prog f7 (OpenSpec.ofChange Rows.carryApartSpec) false w args)
   (Rows.carryApartSpec.post enc prog f7 false true false false):=by
 refine returnsInHanded_of_change_and (C:=checked) (X:=fun w _=>laidMetH prog Q7Z w) (fun _ _ _ hh h=>h.of_heap hh) own started (by kernel_rfl) func7
  (ChangeSpec.witness_shaped (enc:=enc) (C:=checked) (os:=os) (X:=fun w _=>laidMetH prog Q7Z w) false (World.doorLaid prog 400 os) #[.slice none 0 0,.slice none 0 0,.int .i64 0] 8 rfl (World.shaped_of_RefB (by kernel_rfl) (by kernel_rfl)) (by kernel_rfl) (by kernel_rfl) (by kernel_rfl) (door_met os _)) ?_
 intro W base args ds gs before Eq hW _ _ hL _;have Dc:∀(j:Nat) t v,f7.params[j]?=some t->args[j]?=some v->Value.okWide prog W .any base t v:=Eq;have OH:=hW;obtain⟨p,q,Lc,hV,rfl,Ki,AO⟩:=hW;have hA:DataW.TrodAll enc prog W 0 (fun _=>true) true f7.params.toList args.toList ds p:=Lc;rw[params7] at hA Dc;obtain⟨v0,v1,v2,d0,d1,d2,p0,p1,p2,rfl,rfl,rfl,h0,h1,h2⟩:=trodAll_three hA;obtain⟨rfl,rfl⟩:=trodVars_none hV;obtain⟨a0,len0,D5,rfl⟩:=okWide_slice underlying95 (Dc 0 95 v0 rfl rfl);have k0:=h0;have lt0:∀x∈p0,x.block<W.heap.size:=by obtain⟨m,hm⟩:=k0;exact DataW.trod_lt m _ _ _ hm
 obtain⟨A0,GJ⟩:∃A,IsA19 W a0 len0 A:=by
  obtain⟨fuel,hf⟩:=h0;exact Q6o (by simpa[Value.cells] using hf)
 obtain⟨a1,len1,Q0,rfl⟩:=okWide_slice underlying82 (Dc 1 82 v1 rfl rfl);have k1:=h1;have lt1:∀x∈p1,x.block<W.heap.size:=by obtain⟨m,hm⟩:=k1;exact DataW.trod_lt m _ _ _ hm
 obtain⟨A1,Ln⟩:∃A,IsW8 W a1 len1 A:=by
  obtain⟨fuel,hf⟩:=h1;exact Z1q (by simpa[Value.cells] using hf)
 obtain⟨n2,rfl,rfl,rfl,wf2⟩:=open_int underlying3 (Dc 2 3 v2 rfl rfl) h2;have Ae:=bounds_i64 wf2;clear Lc Eq;refine(Q6v (Q6p hL) a0 len0 D5 A0 GJ a1 len1 Q0 A1 Ln n2 Ae).mono fun e W' ⟨he,bel⟩=>?_
 subst he;exact⟨_,rfl,_,_,_,[],_,[],OH,trodAll_mk1 (shut_bool underlying4 _),trodAll_mk3 (Below.trod laidOut (by kernel_rfl) (of_decide_eq_true (by kernel_rfl)) k0 bel lt0) (Below.trod laidOut (by kernel_rfl) (of_decide_eq_true (by kernel_rfl)) k1 bel lt1) (shut_int underlying3 wf2),rfl,bel.frame _,fun h=>by cases h⟩
theorem fact0:(Rows.carryApartRow.inPlace==prog.inPlace 7)=true:=by kernel_rfl
theorem fact1:(Rows.carryApartRow.unfollowed==prog.unfollowed 7)=true:=by kernel_rfl
theorem fact2:(Rows.carryApartRow.recurses==prog.recurses 7)=true:=by kernel_rfl
theorem fact3:(Rows.carryApartRow.named==prog.varsNamed 7)=true:=by kernel_rfl
theorem fact4:(Rows.carryApartRow.plainKeys==prog.plainKeys)=true:=by kernel_rfl
theorem fact5:prog.stopsHeard=true:=by kernel_rfl
theorem fact6:prog.mayEnter=true:=by kernel_rfl
theorem fact7:(Rows.carryApartRow.lifted==prog.liftsFinal)=true:=by kernel_rfl
theorem fact8:(prog.make==some Rows.carryApartRow.make)=true:=by kernel_rfl
theorem fact9:mapsRowed prog=true:=by kernel_rfl
theorem closed:joinedFacts prog 7 f7 Rows.carryApartSpec Rows.carryApartRow=true:=by
 unfold joinedFacts;rw[laidOut,fact0,fact1,fact2,fact3,fact4,fact5,fact6,fact7,fact8,fact9]
 kernel_rfl
theorem over:Rows.carryApartRow.holds Tryz.pinned (OpenSpec.ofChange Rows.carryApartSpec):=
 OpenClaim.holds_of_wide 7 f7 rfl rfl rfl rfl rfl rfl rfl ⟨rfl,rfl,rfl,rfl,rfl⟩ rfl rfl rfl rfl rfl (by kernel_rfl) func7 closed
  (of_decide_eq_true (by kernel_rfl)) (by unfold Func.isWrapper;first|(rw[if_pos (by decide +kernel)];kernel_rfl)|(rw[if_neg (by decide +kernel)];exact⟨rfl,rfl⟩))
  (fun os started H enc _=>lifted os started H enc)
theorem proved:Rows.CarryApartSaid:=over
end Go.Proofs.YtfidemmgofcnmaaGreatDoor.carryApart
