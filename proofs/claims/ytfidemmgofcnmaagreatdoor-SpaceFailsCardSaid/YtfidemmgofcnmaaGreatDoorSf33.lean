/- SpaceFails returns true at every input. No condition. Part of its proof. -/
import Derived.Test.YtfidemmgofcnmaaGreatDoorSf32
import Derived.ShutString
import Derived.Below
import Derived.Stop.Joined
set_option maxRecDepth 100000
set_option linter.unusedVariables false
namespace Go.Proofs.YtfidemmgofcnmaaGreatDoor.spaceFails
open Go.ChangeShapes Go.WideShapes Go.ChangeAt Go.RowKit Go.Proofs.Tryz
set_option linter.unusedVariables false
theorem own:ownKnob prog.godebug=none:=by kernel_rfl
theorem Z1z:laidOutB prog=true:=by kernel_rfl
theorem J0b(os:Os)(args:Array Value):laidMetH prog Z7N ((World.doorLaid prog 400 os).forCall (fun _ _=>0) ⟨#[],args,[]⟩).memory:=
 laidMetH_of_parts3 (fuel:=8) (laidMet_of_run' 8 (by kernel_rfl) (by kernel_rfl)) (by kernel_rfl) (by kernel_rfl)
theorem lifted(os:Os)(started:os.Started)(H:Type)(enc:TypeId×Value->H) :
  ReturnsInHanded {} checked os 5 .any (fun w args=>(Rows.spaceFailsSpec.pre enc prog f5 [] false w args/\laidMetH prog Z7N w)/\sizedMet enc prog f5 (OpenSpec.ofChange Rows.spaceFailsSpec) false w args)
   (Rows.spaceFailsSpec.post enc prog f5 false true false false):=by
 refine returnsInHanded_of_change_and (C:=checked) (X:=fun w _=>laidMetH prog Z7N w) (fun _ _ _ hh h=>h.of_heap hh) own started (by kernel_rfl) func5
  (ChangeSpec.witness_shaped (enc:=enc) (C:=checked) (os:=os) (X:=fun w _=>laidMetH prog Z7N w) false (World.doorLaid prog 400 os) #[.int .u16 0,.slice none 0 0,.agg #[.int .i64 0,.int .i64 0,.int .i64 0,.int .i64 0,.int .i64 0,.int .i64 0,.int .i64 0,.int .i64 0,.bool false,.slice none 0 0,.int .i64 0,.int .i64 0,.int .i64 0,.int .i64 0,.bool false,.int .i64 0,.int .i64 0]] 8 rfl (World.shaped_of_RefB (by kernel_rfl) (by kernel_rfl)) (by kernel_rfl) (by kernel_rfl) (by kernel_rfl) (J0b os _)) ?_
 intro W base args ds gs before Jz hW _ _ hL _;have ID:∀(j:Nat) t v,f5.params[j]?=some t->args[j]?=some v->Value.okWide prog W .any base t v:=Jz;have Tm:=hW;obtain⟨p,q,Pg,hV,rfl,KR,AO⟩:=hW;have hA:DataW.TrodAll enc prog W 0 (fun _=>true) true f5.params.toList args.toList ds p:=Pg;rw[params5] at hA ID;obtain⟨v0,v1,v2,d0,d1,d2,p0,p1,p2,rfl,rfl,rfl,h0,h1,h2⟩:=trodAll_three hA;obtain⟨rfl,rfl⟩:=trodVars_none hV;obtain⟨n0,rfl,rfl,rfl,wf0⟩:=open_int underlying22 (ID 0 22 v0 rfl rfl) h0;have Bw:0<=n0/\n0<65536:=by
  have:=bounds_u16 wf0;omega
 obtain⟨m0,rfl⟩:=J4G Bw.1;obtain⟨a1,len1,PH,rfl⟩:=okWide_slice underlying44 (ID 1 44 v1 rfl rfl);have k1:=h1;have lt1:∀x∈p1,x.block<W.heap.size:=by obtain⟨m,hm⟩:=k1;exact DataW.trod_lt m _ _ _ hm
 obtain⟨A1,Mf⟩:∃A,IsA17 W a1 len1 A:=by
  obtain⟨fuel,hf⟩:=h1;exact Z0Z (by simpa[Value.cells] using hf)
 obtain⟨c2,rfl,_⟩:=okWide_struct underlying67 (ID 2 67 v2 rfl rfl);have k2:=h2;have lt2:∀x∈p2,x.block<W.heap.size:=by obtain⟨m,hm⟩:=k2;exact DataW.trod_lt m _ _ _ hm
 obtain⟨x2,D3,wf2⟩:∃x:A17,c2=x.cells.toArray/\x.Wf/\IsMv W x.la x.ll x.L:=by
  obtain⟨fuel,hf⟩:=h2;obtain⟨x,e,hw⟩:=Q7P (cs:=c2.toList) hf;exact⟨x,by rw[<- e],hw⟩
 subst D3;clear Pg Jz;refine(Q7g (Z1y hL) m0 (by omega) a1 len1 PH A1 Mf x2 wf2.1 wf2.2).mono fun e W' ⟨he,bel⟩=>?_
 subst he;exact⟨_,rfl,_,_,_,[],_,[],Tm,trodAll_mk1 (shut_bool underlying4 _),trodAll_mk3 (shut_int underlying22 wf0) (Below.trod Z1z (by kernel_rfl) (of_decide_eq_true (by kernel_rfl)) k1 bel lt1) (Below.trod Z1z (by kernel_rfl) (of_decide_eq_true (by kernel_rfl)) k2 bel lt2),rfl,bel.frame _,fun h=>by cases h⟩
theorem fact0:(Rows.spaceFailsRow.inPlace==prog.inPlace 5)=true:=by kernel_rfl
theorem fact1:(Rows.spaceFailsRow.unfollowed==prog.unfollowed 5)=true:=by kernel_rfl
theorem fact2:(Rows.spaceFailsRow.recurses==prog.recurses 5)=true:=by kernel_rfl
theorem fact3:(Rows.spaceFailsRow.named==prog.varsNamed 5)=true:=by kernel_rfl
theorem fact4:(Rows.spaceFailsRow.plainKeys==prog.plainKeys)=true:=by kernel_rfl
theorem fact5:prog.stopsHeard=true:=by kernel_rfl
theorem fact6:prog.mayEnter=true:=by kernel_rfl
theorem fact7:(Rows.spaceFailsRow.lifted==prog.liftsFinal)=true:=by kernel_rfl
theorem fact8:(prog.make==some Rows.spaceFailsRow.make)=true:=by kernel_rfl
theorem J2Z:mapsRowed prog=true:=by kernel_rfl
theorem closed:joinedFacts prog 5 f5 Rows.spaceFailsSpec Rows.spaceFailsRow=true:=by
 unfold joinedFacts;rw[Z1z,fact0,fact1,fact2,fact3,fact4,fact5,fact6,fact7,fact8,J2Z]
 kernel_rfl
theorem over:Rows.spaceFailsRow.holds Tryz.pinned (OpenSpec.ofChange Rows.spaceFailsSpec):=
 OpenClaim.holds_of_wide 5 f5 rfl rfl rfl rfl rfl rfl rfl ⟨rfl,rfl,rfl,rfl,rfl⟩ rfl rfl rfl rfl rfl (by kernel_rfl) func5 closed
  (of_decide_eq_true (by kernel_rfl)) (by unfold Func.isWrapper;first|(rw[if_pos (by decide +kernel)];kernel_rfl)|(rw[if_neg (by decide +kernel)];exact⟨rfl,rfl⟩))
  (fun os started H enc _=>lifted os started H enc)
theorem proved:Rows.SpaceFailsSaid:=over
end Go.Proofs.YtfidemmgofcnmaaGreatDoor.spaceFails
