/- SpaceItems returns true at every input. No condition. Part of its proof. -/
import Derived.Test.YtlakjlmaboioiaaGreatDoorSi26
import Derived.Test.YtlakjlmaboioiaaGreatDoorSi25
import Derived.Deep.LoopGhost
import Derived.Deep.CutRange
import Derived.Test.YtlakjlmaboioiaaGreatDoorSi01
import Derived.Lib.LaidTab
import Derived.LaidMore
import Derived.MakeChecks
import Derived.Stop.LaidErr
set_option maxHeartbeats 8000000
set_option maxRecDepth 100000
set_option linter.unusedVariables false
namespace Go.Proofs.YtlakjlmaboioiaaGreatDoor
open Go.RowKit Go.Proofs.Tryz
theorem Z2K (a b:Nat) (ha:a<2 ^ 16) (hb:b<2 ^ 16):bits BinOp.and IntKind.u16 (a:Int) (b:Int)=((a&&&b:Nat):Int):=by
 have h:(a&&&b)<2 ^ 16:=J1R _ hb;have e:((BitVec.ofInt 16 (a:Int))&&&(BitVec.ofInt 16 (b:Int))).toNat=a&&&b:=by
  rw [BitVec.ofInt_natCast,BitVec.ofInt_natCast,BitVec.toNat_and,BitVec.toNat_ofNat,BitVec.toNat_ofNat,J1N (by omega),J1N (by omega)]
 unfold bits;show IntKind.u16.wrap (((BitVec.ofInt 16 (a:Int))&&&(BitVec.ofInt 16 (b:Int))).toNat:Int)=_;rw [e];exact Go.IntWalk.u16_in _ (by omega)
theorem J0d {m:Nat} (hm:m<65536) (k:Nat):bits BinOp.and IntKind.u16 ((m:Int)/2 ^ k) 1=((m/2 ^ k%2:Nat):Int):=by
 have h1:(m:Int)/2 ^ k=((m/2 ^ k:Nat):Int):=by simp
 have h2:m/2 ^ k<2 ^ 16:=J1E (J1Y _ _) (by omega);have h3:=Z2K (m/2 ^ k) 1 h2 (by decide);rw [Nat.and_one_is_mod] at h3;rw [h1];exact h3
def bitM (m k:Nat):Bool:=decide (m/2 ^ k%2=1)
theorem Q6l {w:World} (henv:Env w) (m:Nat) (hm:m<65536) (i:It) (hi:i.Wf) (v:Wi) (hv:v.Wf) :
  Calls prog 5 #[.int .u16 m,.agg #[.int .i64 i.base,.int .i64 i.order,.int .i64 i.r,.int .i64 i.off,.bool i.g],.agg #[.int .i64 v.base,.int .i64 v.order]] w (Told w (.bool true)):=by
 have h16:((2 ^ (6+10):Nat):Int)=65536:=by decide
 generalize hW1:((w.alloc (.cells #[.int .i64 i.base,.int .i64 i.order,.int .i64 i.r,.int .i64 i.off,.bool i.g] 54)).alloc (.cells #[.int .i64 v.base,.int .i64 v.order] 56))=W1;have hb0:Below w.heap.size w W1:=by rw [<- hW1];exact ((Below.refl w.heap.size w).alloc (J0t _) _).alloc (by simp) _
 have HBox:Hid (∀V,Below W1.heap.size W1 V->Box2 w.heap.size i v V):=fun V hb=>by subst hW1;exact box2 i v hb
 have ka:=Q9R (henv.below hb0);have HNew:Hid (∀V,Below w.heap.size w V->Calls prog 15 #[.int .i64 65536,.int .i64 65536,.int .i64 1] V fun r w1=>∃S:CO,r=.returned (.pointer (some ⟨S.c,0,none⟩))/\Q6H S 6 65536 1/\Step [] (S.hl++[]) V w1):=fun V hb=>by
  have:=Z0F (Sep.nil (henv.below hb)) 6 (by omega) (by omega) 65536 (by omega) (by rw [h16];omega) 1 (by omega) (by omega);rw [h16] at this;exact this
 have HB0:=Q0a hb0;have HWf:=Q0a (And.intro hi hv);clear henv h16 hb0 hi hv;obtain⟨ib,io,ir,iff,ig⟩:=i;obtain⟨vb,vo⟩:=v;dsimp only at *
 go_enter func5,ntmps5;go_wp2_with fail
 try rw [hW1]
 clear hW1;refine ka.mono ?_;rintro r w0 ⟨rfl,hbA⟩;have HBA:=Q0a hbA;have kn:=HNew.out w0 (HB0.out.trans (hbA.mono HB0.out.size));clear hbA ka HNew;go_wp2_with fail;refine kn.mono ?_;rintro r w1 ⟨S,rfl,hf,st⟩;have HM:=Q0a (Z9q (bitM m) hf st);generalize S.c=c at *
 clear hf st kn;go_wp2_with fail;refine HM.out.mono ?_;rintro r w2 ⟨rfl,hm2⟩;have HM2:=Q0a hm2;clear hm2 HM;go_wp2_with fail;refine HM2.out.mono ?_;rintro r w3 ⟨rfl,hm3⟩;have HM3:=Q0a hm3;clear hm3 HM2;go_wp2_with fail;refine HM3.out.mono ?_;rintro r w4 ⟨s,rfl,hq⟩;have HQ0:=Q0a hq;clear hq HM3;go_wp2_with fail
 go_loopg [13] 16 (fun gk iv wr=>∃k:Nat,iv=.int .i64 k/\k+gk=16/\ItQ s (bitM m) k w0 wr)
 case atStart=>exact⟨0,rfl,by omega,HQ0.out⟩
 case round =>
  clear HQ0;obtain⟨k,rfl,hkg,hq⟩:=hrel;have HKG:=Q0a hkg;have HQ:=Q0a hq;clear hkg hq;have hk0:(0:Int)<=(k:Int):=by omega
  by_cases hlt:k<16
  ·have hk1:(k:Int)<16:=by omega
   have hbit:=J0d hm k;have hkq:IntKind.i64.wrap (32+(k:Int))=32+(k:Int):=Go.IntWalk.i64_in _ (by omega);by_cases hb:m/2 ^ k%2=1
   ·rw [hb] at hbit;have hbit1:bits BinOp.and IntKind.u16 ((m:Int)/2 ^ k) 1=1:=hbit;have kr:=Z9s HQ.out hlt (by unfold bitM;exact decide_eq_true hb);clear hbit;go_wp2_with fail;refine kr.mono ?_;rintro r w5 ⟨rfl,hq⟩;have HQ5:=Q0a hq;clear hq kr HQ;go_wp2_with fail;go_roundg (16-(k+1))
    case measure=>have:=HKG.out;omega
    case rel=>exact⟨k+1,by go_num,by have:=HKG.out;omega,HQ5.out⟩
   ·have h0:m/2 ^ k%2=0:=by omega
    rw [h0] at hbit;have hbit1:bits BinOp.and IntKind.u16 ((m:Int)/2 ^ k) 1=0:=hbit;have HQ5:=Q0a (Z9r HQ.out (by unfold bitM;exact decide_eq_false hb));clear hbit HQ;go_wp2_with fail;go_roundg (16-(k+1))
    case measure=>have:=HKG.out;omega
    case rel=>exact⟨k+1,by go_num,by have:=HKG.out;omega,HQ5.out⟩
  ·obtain rfl:k=16:=by have:=HKG.out;omega
   have km:=Z7H HQ.out ⟨ib,io,ir,iff,ig⟩ ⟨vb,vo⟩ HWf.out.1 HWf.out.2;have hbr:Below W1.heap.size W1 wr:=HBA.out.trans (HQ.out.below.mono HBA.out.size);obtain⟨⟨c0,c1,c2,c3,c4⟩,v0,v1⟩:=HBox.out wr hbr;have HBr:=Q0a hbr;have HQb:=Q0a HQ.out.below;clear hbr HQ;dsimp only at km;go_wp2_with fail;refine km.mono ?_;rintro r w5 ⟨hb5,⟨er,her,rfl⟩|⟨ad,n,cp,rfl,ha,hf,kmv⟩⟩
   ·have HX:Hid (Below w.heap.size w w5):=HB0.out.trans ((HBr.out.trans (hb5.mono HBr.out.size)).mono HB0.out.size);have hne:(er != 0)=true:=by simpa using her
    clear hb5 km c0 c1 c2 c3 c4 v0 v1;go_wp2_with fail
    first|exact⟨rfl,HX.out⟩|(go_ret;exact⟨rfl,HX.out⟩)
   ·have HArg:=Q0a (Z5A ha);have HAl:Hid (Q1m ib io=true/\Q1m vb vo=true):=by
     unfold Q2w Q6d at ha;simp only [J0O,decide_eq_true_eq] at ha;exact Q0a ⟨ha.1.1,ha.2.1⟩
    have HFit:=Q0a hf;clear hb5 km c0 c1 c2 c3 c4 v0 v1 ha hf;go_wp2_with fail;refine kmv.mono ?_;rintro r w6 ⟨rfl,hF⟩;have HF:=Q0a hF;have HX6:Hid (Below W1.heap.size W1 w6):=HBA.out.trans (hF.below.mono HBA.out.size);clear hF kmv;obtain⟨pa1,pa2,pa3,pa4,pa5⟩:=Q1b HAl.out.1;obtain⟨pv1,pv2,pv3,pv4,pv5⟩:=Q1b HAl.out.2;obtain⟨ko,rfl⟩:=J1W pa2;obtain⟨kv,rfl⟩:=J1W pv2;have HP:Hid (2 ^ ko<=128/\2 ^ kv<=128/\ko<=7/\kv<=7):=by
     rw [J1x] at pa5 pv5;exact Q0a ⟨pa5,pv5,by omega,by omega⟩
    clear pa1 pa2 pa3 pa4 pa5 pv1 pv2 pv3 pv4 pv5 HAl;go_wp2_with fail
    go_loopg [16] 256 (fun gk iv wr=>∃d:Nat,iv=.int .i64 d/\d+gk=256/\Below w6.heap.size w6 wr)
    case atStart=>exact⟨0,rfl,by omega,Below.refl _ _⟩
    case round =>
     obtain⟨d,rfl,hdg,hbd⟩:=hrel;have HDG:=Q0a hdg;have HBd:=Q0a hbd;have HFd:=Q0a (HF.out.grown hbd);have hd0:(0:Int)<=(d:Int):=by omega
     by_cases hdl:d<256
     ·have hd1:(d:Int)<256:=by omega
      have kl0:=Z9t HFd.out HArg.out.2.2.1 hdl;obtain⟨hh,rr,ee,HL,hth1,hth0⟩:∃hh rr ee:Int,Hid (∀V,Below wr.heap.size wr V->V=wr->Calls prog 21 #[.pointer (some ⟨s,0,none⟩),.int .u32 2,.int .i64 d] V (Told V (.tuple #[.agg #[.int .u32 hh,.int .i64 rr],.int .i64 ee])))/\(Q2x (bitM m) ⟨ib,(ko:Int),ir,iff,ig⟩ ⟨vb,(kv:Int)⟩ d=true->hh=2/\rr=ir/\ee=0)/\(Q2x (bitM m) ⟨ib,(ko:Int),ir,iff,ig⟩ ⟨vb,(kv:Int)⟩ d=false->ee=6):=by
       cases hth:Q2x (bitM m) ⟨ib,(ko:Int),ir,iff,ig⟩ ⟨vb,(kv:Int)⟩ d with
       | true =>
        rw [hth,if_pos rfl] at kl0;exact⟨2,ir,0,Q0a (by rintro V _ rfl;exact kl0),fun _=>⟨rfl,rfl,rfl⟩,fun h=>by cases h⟩
       | false =>
        rw [hth,if_neg (by decide)] at kl0;exact⟨0,0,6,Q0a (by rintro V _ rfl;exact kl0),fun h=>by (cases h),fun _=>rfl⟩
      obtain⟨κ,hκ⟩:∃κ:Int,κ=(d:Int)-vb-iff:=⟨_,rfl⟩
      obtain⟨po,hpo⟩:∃po:Nat,po=2 ^ ko:=⟨_,rfl⟩
      obtain⟨pv,hpv⟩:∃pv:Nat,pv=2 ^ kv:=⟨_,rfl⟩
      have HTh:Hid (Q2x (bitM m) ⟨ib,(ko:Int),ir,iff,ig⟩ ⟨vb,(kv:Int)⟩ d=(decide (0<=κ/\κ<(po:Int)/\32<=ib+κ/\ib+κ<48)&&bitM m (ib+κ-32).toNat)):=by
       unfold Q2x kapV;dsimp only;rw [J1x,<- hκ,<- hpo];exact rfl
      have HFi:Hid (iff+(po:Int)<=(pv:Int)/\0<=ib/\ib<256/\0<=vb/\vb.toNat+pv<=256/\0<=iff/\iff<256/\po<=128/\pv<=128):=by
       have h1:=HFit.out;have h2:=HArg.out;have h3:=HP.out;have h4:0<2 ^ ko:=Nat.pow_pos (by omega);rw [J1x,J1x,<- hpo,<- hpv] at h1;rw [J1x,J1x,<- hpo,<- hpv] at h2;rw [<- hpo,<- hpv] at h3;rw [<- hpo] at h4;exact⟨h1,h2.1.1,by omega,h2.2.1.1,h2.2.1.2,h2.2.2.2.1.1,h2.2.2.2.1.2,h3.1,h3.2.1⟩
      have hw1:IntKind.i64.wrap ((d:Int)-vb)=(d:Int)-vb:=Go.IntWalk.i64_in _ (by have:=HFi.out;omega);have hw2:IntKind.i64.wrap ((d:Int)-vb-iff)=κ:=(Go.IntWalk.i64_in _ (by have:=HFi.out;omega)).trans hκ.symm;have epo:(2:Int) ^ ko=(po:Int):=by rw [hpo];simp
      have epv:(2:Int) ^ kv=(pv:Int):=by rw [hpv];simp
      have hp1:wrap64 (po:Int)=(po:Int):=Q7y HFi.out.2.2.2.2.2.2.2.1;have hp2:wrap64 (pv:Int)=(pv:Int):=Q7y HFi.out.2.2.2.2.2.2.2.2;have HK:=Q0a hκ;have HPo:Hid ((2:Int) ^ ko=(po:Int)/\wrap64 (po:Int)=(po:Int)/\(2:Int) ^ kv=(pv:Int)/\wrap64 (pv:Int)=(pv:Int)):=⟨epo,hp1,epv,hp2⟩
      have hko7:(ko:Int)<=7:=by have:=HP.out;omega
      have hkv7:(kv:Int)<=7:=by have:=HP.out;omega
      have hko0:(0:Int)<=(ko:Int):=by omega
      have hkv0:(0:Int)<=(kv:Int):=by omega
      generalize Q2x (bitM m) ⟨ib,(ko:Int),ir,iff,ig⟩ ⟨vb,(kv:Int)⟩ d=th at *
      have Hth1:=Q0a hth1;have Hth0:=Q0a hth0;have kl:=HL.out wr (Below.refl _ _) rfl;have HBW:Hid (Below W1.heap.size W1 wr):=HX6.out.trans (hbd.mono HX6.out.size);clear hdg hbd HKG hκ hpo hpv hth1 hth0 HL kl0 HFd HArg HFit HP hp1 hp2 epo epv;go_wp2_with fail;refine kl.mono ?_;rintro r w7 ⟨rfl,hb7⟩;have hb8:=hb7.alloc hb7.size (.cells #[.int .u32 hh,.int .i64 rr] 35);have HB8:=Q0a (HBd.out.trans (hb8.mono HBd.out.size));obtain⟨⟨c0,c1,c2,c3,c4⟩,v0,v1⟩:=HBox.out _ (HBW.out.trans (hb8.mono HBW.out.size));clear hb7 hb8 kl;dsimp only at c0 c1 c2 c3 c4 v0 v1;go_upto_region 24 with fail;have HCb:=Q0a (Cells.new w7 35 [.int .u32 hh,.int .i64 rr])
      generalize w7.alloc (.cells #[.int .u32 hh,.int .i64 rr] 35)=w8 at *
      generalize w7.heap.size=B at *
      go_cut [20] from 99 to 134 (fun bb wc=>bb=.bool th/\Below w8.heap.size w8 wc)
      case first =>
       have HE:Hid (∀n,Below w8.heap.size w8 (w8.drewN n)):=fun n=>Q0S (Below.refl _ _) n
       clear v0 v1 c2 c3 c4 HBox HWf HF HX6 HBd HBW HB8 hw1 hw2 HCb;by_cases q1:0<=κ
       ·by_cases q2:κ<(po:Int)
        ·have hq2:κ<wrap64 ((2:Int) ^ ko):=by rw [HPo.out.1,HPo.out.2.1];exact q2
         have hwa:IntKind.i64.wrap (ib+κ)=ib+κ:=Go.IntWalk.i64_in _ (by have:=HFi.out;omega);by_cases q3:32<=ib+κ
         ·by_cases q4:ib+κ<48
          ·obtain⟨j,hj⟩:∃j:Nat,(j:Int)=ib+κ-32:=⟨(ib+κ-32).toNat,by omega⟩
           have hwb:IntKind.i64.wrap (ib+κ-32)=(j:Int):=(Go.IntWalk.i64_in _ (by omega)).trans hj.symm;have hj0:(0:Int)<=(j:Int):=by omega
           have hj1:(j:Int)<16:=by omega
           have ht:th=bitM m j:=by
            rw [HTh.out,decide_eq_true ⟨q1,q2,q3,q4⟩,J1I,<- hj,J1x]
           have hbit:=J0d hm j;clear HTh Hth1 Hth0 hj;by_cases hb:m/2 ^ j%2=1
           ·obtain rfl:th=true:=ht.trans (by unfold bitM;exact decide_eq_true hb);rw [hb] at hbit;have hbit1:bits BinOp.and IntKind.u16 ((m:Int)/2 ^ j) 1=1:=hbit;clear hbit ht;go_wp2_with fail;go_meet;exact⟨rfl,HE.out 0⟩
           ·obtain rfl:th=false:=ht.trans (by unfold bitM;exact decide_eq_false hb);have h0:m/2 ^ j%2=0:=by omega
            rw [h0] at hbit;have hbit1:bits BinOp.and IntKind.u16 ((m:Int)/2 ^ j) 1=0:=hbit;clear hbit ht;go_wp2_with fail;go_meet;exact⟨rfl,HE.out 0⟩
          ·obtain rfl:th=false:=by rw [HTh.out,decide_eq_false (by omega),J4J]
           clear HTh Hth1 Hth0;go_wp2_with fail;go_meet;exact⟨rfl,HE.out 0⟩
         ·obtain rfl:th=false:=by rw [HTh.out,decide_eq_false (by omega),J4J]
          clear HTh Hth1 Hth0;go_wp2_with fail;go_meet;exact⟨rfl,HE.out 0⟩
        ·have hq2:¬κ<wrap64 ((2:Int) ^ ko):=by rw [HPo.out.1,HPo.out.2.1];exact q2
         obtain rfl:th=false:=by rw [HTh.out,decide_eq_false (by omega),J4J]
         clear HTh Hth1 Hth0;go_wp2_with fail;go_meet;exact⟨rfl,HE.out 0⟩
       ·obtain rfl:th=false:=by rw [HTh.out,decide_eq_false (by omega),J4J]
        clear HTh Hth1 Hth0;go_wp2_with fail;go_meet;exact⟨rfl,HE.out 0⟩
      obtain⟨rfl,hb9⟩:=hcut;have HB9:=Q0a (HB8.out.trans (hb9.mono HB8.out.size));have HC9:=Q0a (HCb.out.same (hb9.block B HCb.out.lt));obtain⟨⟨c0,c1,c2,c3,c4⟩,v0,v1⟩:=HBox.out _ (HX6.out.trans (HB9.out.mono HX6.out.size));obtain⟨w9,hw9⟩:∃x,x=wc:=⟨_,rfl⟩
      subst hw9;have e0:=HC9.out.cell 0 _ rfl;have e1:=HC9.out.cell 1 _ rfl;clear HCb hb9 HB8 hw1 hw2;dsimp only at c0 c1 c2 c3 c4 v0 v1;go_upto_region 25 with fail
      go_cut [166] from 135 to 166 (fun bb wc=>bb=.bool false/\Below w9.heap.size w9 wc)
      case first =>
       have HE:Hid (∀n,Below w9.heap.size w9 (w9.drewN n)):=fun n=>Q0S (Below.refl _ _) n
       clear c0 c1 c3 c4 HBox HWf HF HX6 HBd HBW HB9;cases th with
       | true =>
        obtain⟨rfl,rfl,rfl⟩:=Hth1.out rfl;have hkk:0<=κ/\κ<(po:Int):=by
         have h1:=HTh.out;rw [eq_comm,J0O,decide_eq_true_eq] at h1;exact⟨h1.1.1,h1.1.2.1⟩
        have hn1:¬(d:Int)<vb:=by have:=HK.out;have:=HFi.out;omega
        have hww:IntKind.i64.wrap (vb+wrap64 ((2:Int) ^ kv))=vb+(pv:Int):=by
         rw [HPo.out.2.2.1,HPo.out.2.2.2];exact Go.IntWalk.i64_in _ (by have:=HFi.out;omega)
        have hn2:¬vb+(pv:Int)<=(d:Int):=by have:=HK.out;have:=HFi.out;omega
        clear HTh Hth1 Hth0 HC9;go_wp2_with fail;go_meet;exact⟨rfl,HE.out 0⟩
       | false =>
        obtain rfl:=Hth0.out rfl;clear HTh Hth1 Hth0 HC9;go_wp2_with fail;go_meet;exact⟨rfl,HE.out 0⟩
      obtain⟨rfl,hb10⟩:=hcut;have HR:=Q0a (HB9.out.trans (hb10.mono HB9.out.size));clear hb10 c0 c1 c2 c3 c4 v0 v1 e0 e1 HC9;go_wp2_with fail;go_roundg (256-(d+1))
      case measure=>have:=HDG.out;omega
      case rel=>exact⟨d+1,by go_num,by have:=HDG.out;omega,HR.out⟩
     ·obtain rfl:d=256:=by have:=HDG.out;omega
      have ks:=Z7I HFd.out;clear hdg hbd;go_wp2_with fail;refine ks.mono ?_;rintro r w7 ⟨a7,n7,c7,rfl,hn7,hb7⟩;have HX:Hid (Below w.heap.size w w7):=HB0.out.trans ((HX6.out.trans ((HBd.out.trans (hb7.mono HBd.out.size)).mono HX6.out.size)).mono HB0.out.size);have hn8:(n7:Int)<=16:=by omega
      clear ks hb7;go_wp2_with fail
      first|exact⟨rfl,HX.out⟩|(go_ret;exact⟨rfl,HX.out⟩)
def Z5B:List (String×DataW Unit):=[("math/bits.deBruijn32tab", Rows.laid_math_bits_deBruijn32tab),("math/bits.deBruijn64tab", Rows.laid_math_bits_deBruijn64tab),("quartermaster/pool.costs", Rows.laid_quartermaster_pool_costs)]
def J0p:List Int:=[0,1,28,2,29,14,24,3,30,22,20,15,25,17,4,8,31,27,13,23,21,19,16,7,26,12,18,6,11,5,10,9]
theorem g32:prog.globalNamed "math/bits.deBruijn32tab" = some 2:=by kernel_rfl
theorem t32:(prog.globals[2]?).map (·.type)=some 380:=by kernel_rfl
theorem g64:prog.globalNamed "math/bits.deBruijn64tab" = some 1:=by kernel_rfl
theorem J0e:prog.globalNamed "quartermaster/pool.costs" = some 0:=by kernel_rfl
theorem t64:(prog.globals[1]?).map (·.type)=some 356:=by kernel_rfl
theorem J0q:(prog.globals[0]?).map (·.type)=some 258:=by kernel_rfl
theorem Q9V {W:World} (h:laidMetH prog Z5B W):Env W:=by
 rw [MakeChecks.laidMetH_plain _ _ _ (by kernel_rfl)] at h;have h1:laidMet prog (("math/bits.deBruijn32tab", Lib.tabData .u8 J0p)::[("math/bits.deBruijn64tab", Rows.laid_math_bits_deBruijn64tab),("quartermaster/pool.costs", Rows.laid_quartermaster_pool_costs)]) W:=h
 have hA:=Lib.tabIs_of_head g32 t32 underlying380 underlying5 (by kernel_rfl) (by kernel_rfl) h1;have h2:laidMet prog (("math/bits.deBruijn64tab", Lib.tabData .u8 (dbt.map fun (n:Nat)=>(n:Int)))::[("quartermaster/pool.costs", Rows.laid_quartermaster_pool_costs)]) W:=laidMet.tail h1
 have h3:laidMet prog (("quartermaster/pool.costs", Lib.tabData .i64 Z2P)::[]) W:=laidMet.tail h2
 have hB:=Lib.tabIs_of_head g64 t64 underlying356 underlying5 (by kernel_rfl) (by kernel_rfl) h2;have hC:=Lib.tabIs_of_head J0e J0q underlying258 underlying3 (by kernel_rfl) (by kernel_rfl) h3;have cB:TabB W:=by
  intro j v hv;have hj:=(J0K.1 hv).1;have:=hB.cell g64 j (by simpa using hj);rw [this];congr 2;simp [List.getD,hv]
 have cC:TabC W:=by
  intro j v hv;have hj:=(J0K.1 hv).1;have:=hC.cell J0e j (by simpa using hj);rw [this];congr 2;simp [List.getD,hv]
 refine⟨?_,cB,cC⟩;have c0:=World.block_lt_of_cell? W ⟨1,0,none⟩ (cB 0 0 rfl);have c1:=World.block_lt_of_cell? W ⟨0,0,none⟩ (cC 0 0 rfl);have c2:=World.block_lt_of_cell? W ⟨2,0,none⟩ (hA.cell g32 0 (by decide));have c0':1<W.heap.size:=c0;have c1':0<W.heap.size:=c1;have c2':2<W.heap.size:=c2;unfold GB;omega
end Go.Proofs.YtlakjlmaboioiaaGreatDoor
