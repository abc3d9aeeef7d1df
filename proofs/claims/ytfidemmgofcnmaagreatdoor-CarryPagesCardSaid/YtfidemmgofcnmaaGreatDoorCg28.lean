/- CarryPages returns true at every input. No condition. Part of its proof. -/
import Derived.Test.YtfidemmgofcnmaaGreatDoorCg27
import Derived.ShutString
import Derived.Below
import Derived.Stop.Joined
import Derived.Carry
set_option maxRecDepth 100000
set_option linter.unusedVariables false
namespace Go.Proofs.YtfidemmgofcnmaaGreatDoor.carryPages
open Go.ChangeShapes Go.WideShapes Go.ChangeAt Go.RowKit Go.Proofs.Tryz
set_option linter.unusedVariables false
theorem own:ownKnob prog.godebug=none:=by kernel_rfl
theorem Z4c:laidOutB prog=true:=by kernel_rfl
theorem Z6x(os:Os)(args:Array Value):laidMetH prog Z4b ((World.doorLaid prog 400 os).forCall (fun _ _=>0) ⟨#[],args,[]⟩).memory:=
 laidMetH_of_parts3 (fuel:=8) (laidMet_of_run' 8 (by kernel_rfl) (by kernel_rfl)) (by kernel_rfl) (by kernel_rfl)
theorem lifted(os:Os)(started:os.Started)(H:Type)(enc:TypeId×Value->H) :
  ReturnsInHanded {} checked os 6 .any (fun w args=>(Rows.carryPagesSpec.pre enc prog f6 [] false w args/\laidMetH prog Z4b w)/\sizedMet enc prog f6 (OpenSpec.ofChange Rows.carryPagesSpec) false w args)
   (Rows.carryPagesSpec.post enc prog f6 false true false false):=by
 refine returnsInHanded_of_change_and (C:=checked) (X:=fun w _=>laidMetH prog Z4b w) (fun _ _ _ hh h=>h.of_heap hh) own started (by kernel_rfl) func6
  (ChangeSpec.witness_shaped (enc:=enc) (C:=checked) (os:=os) (X:=fun w _=>laidMetH prog Z4b w) false (World.doorLaid prog 400 os) #[.slice none 0 0,.int .u8 0,.int .u8 0,.int .u64 0] 8 rfl (World.shaped_of_RefB (by kernel_rfl) (by kernel_rfl)) (by kernel_rfl) (by kernel_rfl) (by kernel_rfl) (Z6x os _)) ?_
 intro W base args ds gs before G2 hW _ _ hL _;have Fr:∀(j:Nat) t v,f6.params[j]?=some t->args[j]?=some v->Value.okWide prog W .any base t v:=G2;have Pi:=hW;obtain⟨p,q,LI,hV,rfl,NS,AE⟩:=hW;have hA:DataW.TrodAll enc prog W 0 (fun _=>true) true f6.params.toList args.toList ds p:=LI;rw[params6] at hA Fr;obtain⟨v0,v1,v2,v3,d0,d1,d2,d3,p0,p1,p2,p3,rfl,rfl,rfl,h0,h1,h2,h3⟩:=trodAll_four hA;obtain⟨rfl,rfl⟩:=trodVars_none hV;obtain⟨a0,len0,DE,rfl⟩:=okWide_slice underlying82 (Fr 0 82 v0 rfl rfl);have k0:=h0;have lt0:∀x∈p0,x.block<W.heap.size:=by obtain⟨m,hm⟩:=k0;exact DataW.trod_lt m _ _ _ hm
 obtain⟨A0,Jl⟩:∃A,IsW8 W a0 len0 A:=by
  obtain⟨fuel,hf⟩:=h0;exact Z6t (by simpa[Value.cells] using hf)
 obtain⟨n1,rfl,rfl,rfl,wf1⟩:=open_int underlying5 (Fr 1 5 v1 rfl rfl) h1;have Au:0<=n1/\n1<256:=by
  have:=bounds_u8 wf1;omega
 obtain⟨m1,rfl⟩:=J0N Au.1;obtain⟨n2,rfl,rfl,rfl,wf2⟩:=open_int underlying5 (Fr 2 5 v2 rfl rfl) h2;have Ae:0<=n2/\n2<256:=by
  have:=bounds_u8 wf2;omega
 obtain⟨m2,rfl⟩:=J0N Ae.1;obtain⟨n3,rfl,rfl,rfl,wf3⟩:=open_int underlying83 (Fr 3 83 v3 rfl rfl) h3;have Ax:0<=n3/\n3<18446744073709551616:=by
  have:=bounds_u64 wf3;omega
 obtain⟨m3,rfl⟩:=J0N Ax.1;clear LI G2;refine(Q5y (Q8N hL) a0 len0 DE A0 Jl m1 (by omega) m2 (by omega) m3 (by omega)).mono fun e W' ⟨he,bel⟩=>?_
 subst he;exact⟨_,rfl,_,_,_,[],_,[],Pi,trodAll_mk1 (shut_bool underlying4 _),trodAll_mk4 (Below.trod Z4c (by kernel_rfl) (of_decide_eq_true (by kernel_rfl)) k0 bel lt0) (shut_int underlying5 wf1) (shut_int underlying5 wf2) (shut_int underlying83 wf3),rfl,bel.frame _,fun h=>by cases h⟩
theorem fact0:(Rows.carryPagesRow.inPlace==prog.inPlace 6)=true:=by kernel_rfl
theorem fact1:(Rows.carryPagesRow.unfollowed==prog.unfollowed 6)=true:=by kernel_rfl
theorem fact2:(Rows.carryPagesRow.recurses==prog.recurses 6)=true:=by kernel_rfl
theorem fact3:(Rows.carryPagesRow.named==prog.varsNamed 6)=true:=by kernel_rfl
theorem fact4:(Rows.carryPagesRow.plainKeys==prog.plainKeys)=true:=by kernel_rfl
theorem fact5:prog.stopsHeard=true:=by kernel_rfl
theorem fact6:prog.mayEnter=true:=by kernel_rfl
theorem fact7:(Rows.carryPagesRow.lifted==prog.liftsFinal)=true:=by kernel_rfl
theorem fact8:(prog.make==some Rows.carryPagesRow.make)=true:=by kernel_rfl
theorem Z9q:mapsRowed prog=true:=by kernel_rfl
theorem closed:joinedFacts prog 6 f6 Rows.carryPagesSpec Rows.carryPagesRow=true:=by
 unfold joinedFacts;rw[Z4c,fact0,fact1,fact2,fact3,fact4,fact5,fact6,fact7,fact8,Z9q]
 kernel_rfl
theorem over:Rows.carryPagesRow.holds Tryz.pinned (OpenSpec.ofChange Rows.carryPagesSpec):=
 OpenClaim.holds_of_wide 6 f6 rfl rfl rfl rfl rfl rfl rfl ⟨rfl,rfl,rfl,rfl,rfl⟩ rfl rfl rfl rfl rfl (by kernel_rfl) func6 closed
  (of_decide_eq_true (by kernel_rfl)) (by unfold Func.isWrapper;first|(rw[if_pos (by decide +kernel)];kernel_rfl)|(rw[if_neg (by decide +kernel)];exact⟨rfl,rfl⟩))
  (fun os started H enc _=>lifted os started H enc)
theorem proved:Rows.CarryPagesSaid:=over
end Go.Proofs.YtfidemmgofcnmaaGreatDoor.carryPages
