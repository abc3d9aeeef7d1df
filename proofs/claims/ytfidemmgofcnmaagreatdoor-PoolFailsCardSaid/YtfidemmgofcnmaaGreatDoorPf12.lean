/- PoolFails returns true at every input. No condition. Part of its proof. -/
import Derived.Test.YtfidemmgofcnmaaGreatDoorPf11
import Derived.ShutString
import Derived.Below
import Derived.Stop.Joined
set_option maxRecDepth 100000
set_option linter.unusedVariables false
namespace Go.Proofs.YtfidemmgofcnmaaGreatDoor.poolFails
open Go.ChangeShapes Go.WideShapes Go.ChangeAt Go.RowKit Go.Proofs.Tryz
set_option linter.unusedVariables false
theorem own:ownKnob prog.godebug=none:=by kernel_rfl
theorem Q6U:laidOutB prog=true:=by kernel_rfl
theorem Q8g(os:Os)(args:Array Value):laidMetH prog Q6T ((World.doorLaid prog 400 os).forCall (fun _ _=>0) ⟨#[],args,[]⟩).memory:=
 laidMetH_of_parts3 (fuel:=8) (laidMet_of_run' 8 (by kernel_rfl) (by kernel_rfl)) (by kernel_rfl) (by kernel_rfl)
theorem lifted(os:Os)(started:os.Started)(H:Type)(enc:TypeId×Value->H) :
  ReturnsInHanded {} checked os 3 .any (fun w args=>(Rows.poolFailsSpec.pre enc prog f3 [] false w args/\laidMetH prog Q6T w)/\sizedMet enc prog f3 (OpenSpec.ofChange Rows.poolFailsSpec) false w args)
   (Rows.poolFailsSpec.post enc prog f3 false true false false):=by
 refine returnsInHanded_of_change_and (C:=checked) (X:=fun w _=>laidMetH prog Q6T w) (fun _ _ _ hh h=>h.of_heap hh) own started (by kernel_rfl) func3
  (ChangeSpec.witness_shaped (enc:=enc) (C:=checked) (os:=os) (X:=fun w _=>laidMetH prog Q6T w) false (World.doorLaid prog 400 os) #[.int .u16 0,.slice none 0 0,.int .i64 0,.int .i64 0,.int .i64 0] 8 rfl (World.shaped_of_RefB (by kernel_rfl) (by kernel_rfl)) (by kernel_rfl) (by kernel_rfl) (by kernel_rfl) (Q8g os _)) ?_
 intro W base args ds gs before CM hW _ _ hL _;have BI:∀(j:Nat) t v,f3.params[j]?=some t->args[j]?=some v->Value.okWide prog W .any base t v:=CM;have IW:=hW;obtain⟨p,q,HK,hV,rfl,Ha,AO⟩:=hW;have hA:DataW.TrodAll enc prog W 0 (fun _=>true) true f3.params.toList args.toList ds p:=HK;rw[params3] at hA BI;obtain⟨v0,v1,v2,v3,v4,d0,d1,d2,d3,d4,p0,p1,p2,p3,p4,rfl,rfl,rfl,h0,h1,h2,h3,h4⟩:=Q3A hA;obtain⟨rfl,rfl⟩:=trodVars_none hV;obtain⟨n0,rfl,rfl,rfl,wf0⟩:=open_int underlying22 (BI 0 22 v0 rfl rfl) h0;have FW:0<=n0/\n0<65536:=by
  have:=bounds_u16 wf0;omega
 obtain⟨m0,rfl⟩:=Z1i FW.1;obtain⟨a1,len1,FJ,rfl⟩:=okWide_slice underlying23 (BI 1 23 v1 rfl rfl);have k1:=h1;have lt1:∀x∈p1,x.block<W.heap.size:=by obtain⟨m,hm⟩:=k1;exact DataW.trod_lt m _ _ _ hm
 obtain⟨A1,Ec⟩:∃A,IsA4 W a1 len1 A:=by
  obtain⟨fuel,hf⟩:=h1;exact Q5p (by simpa[Value.cells] using hf)
 obtain⟨n2,rfl,rfl,rfl,wf2⟩:=open_int underlying3 (BI 2 3 v2 rfl rfl) h2;have AG:=bounds_i64 wf2;obtain⟨n3,rfl,rfl,rfl,wf3⟩:=open_int underlying3 (BI 3 3 v3 rfl rfl) h3;have D2:=bounds_i64 wf3;obtain⟨n4,rfl,rfl,rfl,wf4⟩:=open_int underlying3 (BI 4 3 v4 rfl rfl) h4;have D8:=bounds_i64 wf4;clear HK CM;refine(Q2S (Q4e hL) m0 (by omega) a1 len1 FJ A1 Ec n2 AG n3 D2 n4 D8).mono fun e W' ⟨he,bel⟩=>?_
 subst he;exact⟨_,rfl,_,_,_,[],_,[],IW,trodAll_mk1 (shut_bool underlying4 _),Q4f (shut_int underlying22 wf0) (Below.trod Q6U (by kernel_rfl) (of_decide_eq_true (by kernel_rfl)) k1 bel lt1) (shut_int underlying3 wf2) (shut_int underlying3 wf3) (shut_int underlying3 wf4),rfl,bel.frame _,fun h=>by cases h⟩
theorem fact0:(Rows.poolFailsRow.inPlace==prog.inPlace 3)=true:=by kernel_rfl
theorem fact1:(Rows.poolFailsRow.unfollowed==prog.unfollowed 3)=true:=by kernel_rfl
theorem fact2:(Rows.poolFailsRow.recurses==prog.recurses 3)=true:=by kernel_rfl
theorem fact3:(Rows.poolFailsRow.named==prog.varsNamed 3)=true:=by kernel_rfl
theorem fact4:(Rows.poolFailsRow.plainKeys==prog.plainKeys)=true:=by kernel_rfl
theorem fact5:prog.stopsHeard=true:=by kernel_rfl
theorem fact6:prog.mayEnter=true:=by kernel_rfl
theorem fact7:(Rows.poolFailsRow.lifted==prog.liftsFinal)=true:=by kernel_rfl
theorem fact8:(prog.make==some Rows.poolFailsRow.make)=true:=by kernel_rfl
theorem Q9W:mapsRowed prog=true:=by kernel_rfl
theorem closed:joinedFacts prog 3 f3 Rows.poolFailsSpec Rows.poolFailsRow=true:=by
 unfold joinedFacts;rw[Q6U,fact0,fact1,fact2,fact3,fact4,fact5,fact6,fact7,fact8,Q9W]
 kernel_rfl
theorem over:Rows.poolFailsRow.holds Tryz.pinned (OpenSpec.ofChange Rows.poolFailsSpec):=
 OpenClaim.holds_of_wide 3 f3 rfl rfl rfl rfl rfl rfl rfl ⟨rfl,rfl,rfl,rfl,rfl⟩ rfl rfl rfl rfl rfl (by kernel_rfl) func3 closed
  (of_decide_eq_true (by kernel_rfl)) (by unfold Func.isWrapper;first|(rw[if_pos (by decide +kernel)];kernel_rfl)|(rw[if_neg (by decide +kernel)];exact⟨rfl,rfl⟩))
  (fun os started H enc _=>lifted os started H enc)
theorem proved:Rows.PoolFailsSaid:=over
end Go.Proofs.YtfidemmgofcnmaaGreatDoor.poolFails
