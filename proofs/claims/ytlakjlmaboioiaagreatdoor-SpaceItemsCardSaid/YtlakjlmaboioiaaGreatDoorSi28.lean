/- SpaceItems returns true at every input. No condition. Part of its proof. -/
import Derived.Test.YtlakjlmaboioiaaGreatDoorSi01
import Derived.Test.YtlakjlmaboioiaaGreatDoorRows
import Derived.Test.YtlakjlmaboioiaaGreatDoorSi27
import Derived.Test.YtlakjlmaboioiaaGreatDoorSi22
import Derived.WalkKit
import Derived.ProofKit
import Derived.LaidMore
import Derived.OpenShut
import Derived.ShutString
import Derived.Below
import Derived.Stop.Joined
set_option maxRecDepth 100000
set_option linter.unusedVariables false
namespace Go.Proofs.YtlakjlmaboioiaaGreatDoor.spaceItems
open Go.ChangeShapes Go.WideShapes Go.ChangeAt Go.RowKit Go.Proofs.Tryz
set_option linter.unusedVariables false
theorem own:ownKnob prog.godebug=none:=by kernel_rfl
theorem Q9W:laidOutB prog=true:=by kernel_rfl
theorem Z7J (os:Os) (args:Array Value):laidMetH prog Z5B ((World.doorLaid prog 400 os).forCall (fun _ _=>0) ⟨#[],args,[]⟩).memory:=
 laidMetH_of_parts3 (fuel:=8) (laidMet_of_run' 8 (by kernel_rfl) (by kernel_rfl)) (by kernel_rfl) (by kernel_rfl)
theorem lifted (os:Os) (started:os.Started) (H:Type) (enc:TypeId×Value->H) :
  ReturnsInHanded {} checked os 5 .any (fun w args=>(Rows.spaceItemsSpec.pre enc prog f5 [] false w args/\laidMetH prog Z5B w)/\sizedMet enc prog f5 (OpenSpec.ofChange Rows.spaceItemsSpec) false w args)
   (Rows.spaceItemsSpec.post enc prog f5 false true false false):=by
 refine returnsInHanded_of_change_and (C:=checked) (X:=fun w _=>laidMetH prog Z5B w) (fun _ _ _ hh h=>h.of_heap hh) own started (by kernel_rfl) func5
  (ChangeSpec.witness_shaped (enc:=enc) (C:=checked) (os:=os) (X:=fun w _=>laidMetH prog Z5B w) false (World.doorLaid prog 400 os) #[.int .u16 0,.agg #[.int .i64 0,.int .i64 0,.int .i64 0,.int .i64 0,.bool false],.agg #[.int .i64 0,.int .i64 0]] 8 rfl (World.shaped_of_RefB (by kernel_rfl) (by kernel_rfl)) (by kernel_rfl) (by kernel_rfl) (by kernel_rfl) (Z7J os _)) ?_
 intro W base args ds gs before hval0 hW _ _ hL _;have hval:∀(j:Nat) t v,f5.params[j]?=some t->args[j]?=some v->Value.okWide prog W .any base t v:=hval0;have hW':=hW;obtain⟨p,q,hA0,hV,rfl,hfz,hnd⟩:=hW;have hA:DataW.TrodAll enc prog W 0 (fun _=>true) true f5.params.toList args.toList ds p:=hA0;rw [params5] at hA hval;obtain⟨v0,v1,v2,d0,d1,d2,p0,p1,p2,rfl,rfl,rfl,h0,h1,h2⟩:=trodAll_three hA;obtain⟨rfl,rfl⟩:=trodVars_none hV;obtain⟨n0,rfl,rfl,rfl,wf0⟩:=open_int underlying52 (hval 0 52 v0 rfl rfl) h0;have hb0:0<=n0/\n0<65536:=by
  have:=bounds_u16 wf0;omega
 obtain⟨m0,rfl⟩:=J1W hb0.1;obtain⟨c1,rfl,_⟩:=okWide_struct underlying54 (hval 1 54 v1 rfl rfl);have k1:=h1;have lt1:∀x∈p1,x.block<W.heap.size:=by obtain⟨m,hm⟩:=k1;exact DataW.trod_lt m _ _ _ hm
 obtain⟨x1,hx1,wf1⟩:∃x:It,c1=x.cells.toArray/\x.Wf:=by
  obtain⟨fuel,hf⟩:=h1;obtain⟨x,e,hw⟩:=Q9K (cs:=c1.toList) hf;exact⟨x,by rw [<- e],hw⟩
 subst hx1;obtain⟨c2,rfl,_⟩:=okWide_struct underlying56 (hval 2 56 v2 rfl rfl);have k2:=h2;have lt2:∀x∈p2,x.block<W.heap.size:=by obtain⟨m,hm⟩:=k2;exact DataW.trod_lt m _ _ _ hm
 obtain⟨x2,hx2,wf2⟩:∃x:Wi,c2=x.cells.toArray/\x.Wf:=by
  obtain⟨fuel,hf⟩:=h2;obtain⟨x,e,hw⟩:=Z2z (cs:=c2.toList) hf;exact⟨x,by rw [<- e],hw⟩
 subst hx2;clear hA0 hval0;refine (Q6l (Q9V hL) m0 (by omega) x1 wf1 x2 wf2).mono fun e W' ⟨he,bel⟩=>?_
 subst he;exact⟨_,rfl,_,_,_,[],_,[],hW',trodAll_mk1 (shut_bool underlying4 _),trodAll_mk3 (shut_int underlying52 wf0) (Below.trod Q9W (by kernel_rfl) (of_decide_eq_true (by kernel_rfl)) k1 bel lt1) (Below.trod Q9W (by kernel_rfl) (of_decide_eq_true (by kernel_rfl)) k2 bel lt2),rfl,bel.frame _,fun h=>by cases h⟩
theorem fact0:(Rows.spaceItemsRow.inPlace==prog.inPlace 5)=true:=by kernel_rfl
theorem fact1:(Rows.spaceItemsRow.unfollowed==prog.unfollowed 5)=true:=by kernel_rfl
theorem fact2:(Rows.spaceItemsRow.recurses==prog.recurses 5)=true:=by kernel_rfl
theorem fact3:(Rows.spaceItemsRow.named==prog.varsNamed 5)=true:=by kernel_rfl
theorem fact4:(Rows.spaceItemsRow.plainKeys==prog.plainKeys)=true:=by kernel_rfl
theorem fact5:prog.stopsHeard=true:=by kernel_rfl
theorem fact6:prog.mayEnter=true:=by kernel_rfl
theorem fact7:(Rows.spaceItemsRow.lifted==prog.liftsFinal)=true:=by kernel_rfl
theorem fact8:(prog.make==some Rows.spaceItemsRow.make)=true:=by kernel_rfl
theorem J0r:mapsRowed prog=true:=by kernel_rfl
theorem closed:joinedFacts prog 5 f5 Rows.spaceItemsSpec Rows.spaceItemsRow=true:=by
 unfold joinedFacts;rw [Q9W,fact0,fact1,fact2,fact3,fact4,fact5,fact6,fact7,fact8,J0r]
 kernel_rfl
theorem over:Rows.spaceItemsRow.holds Tryz.pinned (OpenSpec.ofChange Rows.spaceItemsSpec):=
 OpenClaim.holds_of_wide 5 f5 rfl rfl rfl rfl rfl rfl rfl ⟨rfl,rfl,rfl,rfl,rfl⟩ rfl rfl rfl rfl rfl (by kernel_rfl) func5 closed
  (of_decide_eq_true (by kernel_rfl)) (by unfold Func.isWrapper;first|(rw [if_pos (by decide +kernel)];kernel_rfl)|(rw [if_neg (by decide +kernel)];exact⟨rfl,rfl⟩))
  (fun os started H enc _=>lifted os started H enc)
theorem proved:Rows.SpaceItemsSaid:=over
end Go.Proofs.YtlakjlmaboioiaaGreatDoor.spaceItems
