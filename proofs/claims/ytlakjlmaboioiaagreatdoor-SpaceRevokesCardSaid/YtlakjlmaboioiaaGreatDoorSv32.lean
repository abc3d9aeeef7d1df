/- SpaceRevokes returns true at every input. No condition. Part of its proof. -/
import Derived.Test.YtlakjlmaboioiaaGreatDoorSv31
import Derived.ShutString
import Derived.Below
import Derived.Stop.Joined
set_option maxRecDepth 100000
set_option linter.unusedVariables false
namespace Go.Proofs.YtlakjlmaboioiaaGreatDoor.spaceRevokes
open Go.ChangeShapes Go.WideShapes Go.ChangeAt Go.RowKit Go.Proofs.Tryz
set_option linter.unusedVariables false
theorem own:ownKnob prog.godebug=none:=by kernel_rfl
theorem Z6U:laidOutB prog=true:=by kernel_rfl
theorem Z9a (os:Os) (args:Array Value):laidMetH prog Z6T ((World.doorLaid prog 400 os).forCall (fun _ _=>0) ⟨#[],args,[]⟩).memory:=
 laidMetH_of_parts3 (fuel:=8) (laidMet_of_run' 8 (by kernel_rfl) (by kernel_rfl)) (by kernel_rfl) (by kernel_rfl)
theorem lifted (os:Os) (started:os.Started) (H:Type) (enc:TypeId×Value->H) :
  ReturnsInHanded {} checked os 8 .any (fun w args=>(Rows.spaceRevokesSpec.pre enc prog f8 [] false w args/\laidMetH prog Z6T w)/\sizedMet enc prog f8 (OpenSpec.ofChange Rows.spaceRevokesSpec) false w args)
   (Rows.spaceRevokesSpec.post enc prog f8 false true false false):=by
 refine returnsInHanded_of_change_and (C:=checked) (X:=fun w _=>laidMetH prog Z6T w) (fun _ _ _ hh h=>h.of_heap hh) own started (by kernel_rfl) func8
  (ChangeSpec.witness_shaped (enc:=enc) (C:=checked) (os:=os) (X:=fun w _=>laidMetH prog Z6T w) false (World.doorLaid prog 400 os) #[.int .u16 0,.slice none 0 0,.int .u8 0,.int .u8 0,.bool false] 8 rfl (World.shaped_of_RefB (by kernel_rfl) (by kernel_rfl)) (by kernel_rfl) (by kernel_rfl) (by kernel_rfl) (Z9a os _)) ?_
 intro W base args ds gs before IM hW _ _ hL _;have F1:∀(j:Nat) t v,f8.params[j]?=some t->args[j]?=some v->Value.okWide prog W .any base t v:=IM;have SH:=hW;obtain⟨p,q,Oq,hV,rfl,K3,AG⟩:=hW;have hA:DataW.TrodAll enc prog W 0 (fun _=>true) true f8.params.toList args.toList ds p:=Oq;rw [params8] at hA F1;obtain⟨v0,v1,v2,v3,v4,d0,d1,d2,d3,d4,p0,p1,p2,p3,p4,rfl,rfl,rfl,h0,h1,h2,h3,h4⟩:=Q9Q hA;obtain⟨rfl,rfl⟩:=trodVars_none hV;obtain⟨n0,rfl,rfl,rfl,wf0⟩:=open_int underlying52 (F1 0 52 v0 rfl rfl) h0;have BK:0<=n0/\n0<65536:=by
  have:=bounds_u16 wf0;omega
 obtain⟨m0,rfl⟩:=J3q BK.1;obtain⟨a1,len1,NU,rfl⟩:=okWide_slice underlying63 (F1 1 63 v1 rfl rfl);have k1:=h1;have lt1:∀x∈p1,x.block<W.heap.size:=by obtain⟨m,hm⟩:=k1;exact DataW.trod_lt m _ _ _ hm
 obtain⟨A1,Li⟩:∃A,IsA17 W a1 len1 A:=by
  obtain⟨fuel,hf⟩:=h1;exact Z0L (by simpa [Value.cells] using hf)
 obtain⟨n2,rfl,rfl,rfl,wf2⟩:=open_int underlying5 (F1 2 5 v2 rfl rfl) h2;have Af:0<=n2/\n2<256:=by
  have:=bounds_u8 wf2;omega
 obtain⟨m2,rfl⟩:=J3q Af.1;obtain⟨n3,rfl,rfl,rfl,wf3⟩:=open_int underlying5 (F1 3 5 v3 rfl rfl) h3;have Ar:0<=n3/\n3<256:=by
  have:=bounds_u8 wf3;omega
 obtain⟨m3,rfl⟩:=J3q Ar.1;obtain⟨b4,rfl,rfl,rfl⟩:=open_bool underlying4 (F1 4 4 v4 rfl rfl) h4;clear Oq IM;refine (Q5y (Z0X hL) m0 (by omega) a1 len1 NU A1 Li m2 (by omega) m3 (by omega) b4).mono fun e W' ⟨he,bel⟩=>?_
 subst he;exact⟨_,rfl,_,_,_,[],_,[],SH,trodAll_mk1 (shut_bool underlying4 _),Z0Y (shut_int underlying52 wf0) (Below.trod Z6U (by kernel_rfl) (of_decide_eq_true (by kernel_rfl)) k1 bel lt1) (shut_int underlying5 wf2) (shut_int underlying5 wf3) (shut_bool underlying4 b4),rfl,bel.frame _,fun h=>by cases h⟩
theorem fact0:(Rows.spaceRevokesRow.inPlace==prog.inPlace 8)=true:=by kernel_rfl
theorem fact1:(Rows.spaceRevokesRow.unfollowed==prog.unfollowed 8)=true:=by kernel_rfl
theorem fact2:(Rows.spaceRevokesRow.recurses==prog.recurses 8)=true:=by kernel_rfl
theorem fact3:(Rows.spaceRevokesRow.named==prog.varsNamed 8)=true:=by kernel_rfl
theorem fact4:(Rows.spaceRevokesRow.plainKeys==prog.plainKeys)=true:=by kernel_rfl
theorem fact5:prog.stopsHeard=true:=by kernel_rfl
theorem fact6:prog.mayEnter=true:=by kernel_rfl
theorem fact7:(Rows.spaceRevokesRow.lifted==prog.liftsFinal)=true:=by kernel_rfl
theorem fact8:(prog.make==some Rows.spaceRevokesRow.make)=true:=by kernel_rfl
theorem J1J:mapsRowed prog=true:=by kernel_rfl
theorem closed:joinedFacts prog 8 f8 Rows.spaceRevokesSpec Rows.spaceRevokesRow=true:=by
 unfold joinedFacts;rw [Z6U,fact0,fact1,fact2,fact3,fact4,fact5,fact6,fact7,fact8,J1J]
 kernel_rfl
theorem over:Rows.spaceRevokesRow.holds Tryz.pinned (OpenSpec.ofChange Rows.spaceRevokesSpec):=
 OpenClaim.holds_of_wide 8 f8 rfl rfl rfl rfl rfl rfl rfl ⟨rfl,rfl,rfl,rfl,rfl⟩ rfl rfl rfl rfl rfl (by kernel_rfl) func8 closed
  (of_decide_eq_true (by kernel_rfl)) (by unfold Func.isWrapper;first|(rw [if_pos (by decide +kernel)];kernel_rfl)|(rw [if_neg (by decide +kernel)];exact⟨rfl,rfl⟩))
  (fun os started H enc _=>lifted os started H enc)
theorem proved:Rows.SpaceRevokesSaid:=over
end Go.Proofs.YtlakjlmaboioiaaGreatDoor.spaceRevokes
