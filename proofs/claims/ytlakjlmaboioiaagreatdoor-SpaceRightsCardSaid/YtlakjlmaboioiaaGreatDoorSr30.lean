/- SpaceRights returns true at every input. No condition. Part of its proof. -/
import Derived.Test.YtlakjlmaboioiaaGreatDoorSr29
import Derived.Test.YtlakjlmaboioiaaGreatDoorSr01
import Derived.Lib.LaidTab
import Derived.LaidMore
import Derived.MakeChecks
import Derived.Stop.LaidErr
set_option maxHeartbeats 8000000
set_option maxRecDepth 100000
set_option linter.unusedVariables false
namespace Go.Proofs.YtlakjlmaboioiaaGreatDoor
open Go.RowKit Go.Proofs.Tryz
theorem Q6D {w:World} (henv:Env w) (m:Nat) (hm:m<65536) (a0:Option Addr) (len cap:Nat) (A:Nat->A17) (hA:IsA17 w a0 len A) :
  Calls prog 6 #[.int .u16 m,.slice a0 len cap] w (Told w (.bool true)):=by
 have ka:=Z0L henv;obtain⟨hmol,hmol2,hlm1,hlm2⟩:=Z6D (m:=m);generalize (64+m%65473:Nat)=lm at *
 have HFew:Hid (∀W,Below w.heap.size w W->Calls prog 26 #[.slice a0 len cap] W fun r w'=>r=.returned (.bool (fewV A len))/\W=w'):=fun W hb=>J0u W a0 len cap A (hA.below hb)
 have HBeg:Hid (fewV A len=true->∀W,Below w.heap.size w W->Calls prog 27 #[.int .i64 lm,.slice a0 len cap] W fun r w'=>∃s,r=.returned (.pointer (some ⟨s,0,none⟩))/\AtB s 61 60 15360 W w'):=fun hf W hb=>by
  unfold fewV at hf;have hf:=of_decide_eq_true hf;exact Z6C (henv.below hb) _ (by omega) (by omega) a0 len cap A hf.1 (hA.below hb) hf.2
 have HRefl:Hid (Below w.heap.size w w):=Below.refl _ _;have HMol:=Q0a hmol;have HMol2:=Q0a hmol2;clear hA henv hmol hmol2 hlm1 hlm2;have hm0:(0:Int)<=(m:Int):=by omega
 have hm1:(m:Int)<65536:=by omega
 go_enter func6,ntmps6;go_wp2_with fail;refine ka.mono ?_;rintro r w0 ⟨rfl,hb0⟩;have HB0:=Q0a hb0;have kf:=HFew.out w0 hb0;clear hb0 ka HFew;go_wp2_with fail;refine kf.mono ?_;rintro r w0' ⟨rfl,rfl⟩;clear kf;generalize fewV A len=fv at *
 cases fv with
 | false =>
  clear HBeg;go_wp2_with fail
  first|exact⟨rfl,HB0.out⟩|(go_ret;exact⟨rfl,HB0.out⟩)
 | true =>
  have kb:=HBeg.out rfl w0 HB0.out;clear HBeg;go_wp2_with fail
  first|rw [HMol2.out]|rw [HMol.out]
  refine kb.mono ?_;rintro r w1 ⟨s,rfl,Z,fr,rfl,ok,-,st⟩;have kt:=Z6u st.sep ok;have HSep:=Q0a st.sep;have HOk:=Q0a ok;have HB1:Hid (Below w.heap.size w w1):=HB0.out.trans (st.fresh.mono HB0.out.size);have hTl:(Q1h Z.S.l 2 (allL Z.S.l 1)).length<=256:=J1y (Q4N _ _ _) (Q8d ok.core.inv.len);clear st ok kb;go_wp2_with fail;refine kt.mono ?_;intro r w2 hx2;obtain⟨aT,capT,rfl,hb2,hih⟩:=hx2.shape;have HB2:=Q0a hb2;have HIh:=Q0a hih;have HTl:=Q0a hTl;have HSl:Hid (∀W,Below w1.heap.size w1 W->∀y:Nat,y<4294967296->Calls prog 25 #[.pointer (some ⟨Z.s,0,none⟩),.int .u32 y] W (NewIs W (Q0o Z.S.l Z.tb y))):=fun W hb y hy=>Q5b (HSep.out.grown hb).sep HOk.out hy
  have HObj:Hid (∀W,Below w1.heap.size w1 W->Calls prog 29 #[.pointer (some ⟨Z.s,0,none⟩)] W fun r w'=>r=.returned (.pointer (some ⟨Z.S.c,0,none⟩))/\W=w'):=fun W hb=>Q2o (HSep.out.grown hb).sep
  have HRd:Hid (∀(y:Nat) (z:Int),z∈Q0o Z.S.l Z.tb y->_):=fun y z hz=>Z6F (y:=y) HSep.out HOk.out hz
  have HMem:Hid (∀y∈Q1h Z.S.l 2 (allL Z.S.l 1),y<4294967296):=fun y hy=>by
   unfold Q1h at hy;obtain⟨p,hp⟩:=isK_iff.1 (J1R.1 hy).2;exact Q5c HOk.out.core.inv.lok hp.1
  clear hx2 hb2 hih hTl kt;generalize hT:Q1h Z.S.l 2 (allL Z.S.l 1)=T at *
  go_wp2_with fail
  go_loopg [7] T.length (fun gk iv wr=>∃k:Nat,iv=.int .i64 k/\k+gk=T.length/\Below w2.heap.size w2 wr)
  case atStart=>exact⟨0,rfl,by omega,Below.refl _ _⟩
  case round =>
   obtain⟨k,rfl,hkg,hbr⟩:=hrel;have HKG:=Q0a hkg;have HBr:=Q0a hbr;have hb1r:Below w1.heap.size w1 wr:=HB2.out.trans (hbr.mono HB2.out.size);clear hkg;by_cases hlt:k<T.length
   ·obtain⟨y,hy⟩:∃y,T[k]?=some y:=⟨_,J3O hlt⟩
    obtain⟨gT,rfl,_,hgl,hcy⟩:=(HIh.out.below hbr).at' k y hy;have hy32:=HMem.out y (J3L hy);have ks:=HSl.out wr hb1r y hy32;have HB1r:=Q0a hb1r;have HCy:Hid (∀W,Below wr.heap.size wr W->W.cell? ⟨gT,k,none⟩=some (.int .u32 y)):=fun W hb=>(World.cell?_of_block (w:=wr) (hb.block gT hgl)).trans hcy
    have hk0:(0:Int)<=(k:Int):=by omega
    have hk1:(k:Int)<(T.length:Int):=by omega
    have hk2:(k:Int)<256:=by have:=HTl.out;omega
    clear hbr hb1r hy hgl;go_wp2_with fail;refine ks.mono ?_;intro r w3 hx3;obtain⟨aS,capS,rfl,hb3,hrow⟩:=hx3.from'
    have HB3:=Q0a hb3;have HRow:=Q0a hrow;have HSl2:Hid ((Q0o Z.S.l Z.tb y).length<=256):=Q2S _ _ _;have HRd2:=Q0a (HRd.out y);clear hx3 hb3 hrow ks hcy;generalize Q0o Z.S.l Z.tb y=SL at *
    obtain⟨wo,hwo⟩:∃wo,wo=wr:=⟨_,rfl⟩
    subst hwo;obtain⟨gko,hgo⟩:∃g,g=gk:=⟨_,rfl⟩
    subst hgo;go_wp2_with fail
    go_loopg [9] SL.length (fun gi iv wi=>∃i:Nat,iv=.int .i64 i/\i+gi=SL.length/\Below w3.heap.size w3 wi)
    case atStart=>exact⟨0,rfl,by omega,Below.refl _ _⟩
    case round =>
     obtain⟨i,rfl,hig,hbi⟩:=hrel;have HIG:=Q0a hig;have hbo:Below wo.heap.size wo wr:=HB3.out.trans (hbi.mono HB3.out.size);by_cases hli:i<SL.length
     ·obtain⟨z,hz⟩:∃z,SL[i]?=some z:=⟨_,J3O hli⟩
      obtain⟨gS,rfl,_,hgS,hcz⟩:=HRow.out i z hz;have hcz:wr.cell? ⟨gS,i,none⟩=some (.int .i64 z):=(World.cell?_of_block (w:=w3) (hbi.block gS hgS)).trans hcz;have hcy:=HCy.out wr hbo;obtain⟨-,h,rr,k8,oa,of,hr1,hr15,hz0,hz256,hk8,kLook,kOf,kFrom⟩:=HRd2.out z (J3L hz);have hb1w:Below w1.heap.size w1 wr:=HB1r.out.trans (hbo.mono HB1r.out.size);have hgS2:gS<wr.heap.size:=J1z hgS hbi.size;have hgT2:gT<wr.heap.size:=World.block_lt_of_cell? wr ⟨gT,k,none⟩ hcy;have HC2:Hid (∀W,Below wr.heap.size wr W->W.cell? ⟨gT,k,none⟩=some (.int .u32 y)/\W.cell? ⟨gS,i,none⟩=some (.int .i64 z)):=fun W hb=>⟨HCy.out W (hbo.trans (hb.mono hbo.size)),(World.cell?_of_block (w:=wr) (hb.block gS hgS2)).trans hcz⟩
      have HLook:Hid (∀W,Below wr.heap.size wr W->Calls prog 21 #[.pointer (some ⟨Z.s,0,none⟩),.int .u32 y,.int .i64 z] W (Told W (.tuple #[.agg #[.int .u32 h,.int .i64 rr],.int .i64 0]))):=fun W hb=>kLook W (hb1w.trans (hb.mono hb1w.size))
      have HOf:Hid (∀W,Below wr.heap.size wr W->Calls prog 30 #[.pointer (some ⟨Z.S.c,0,none⟩),.int .u32 h,.int .i64 0] W (Told W (.tuple #[.agg #[.int .i64 k8,.int .i64 oa,.int .i64 of],.int .i64 0]))):=fun W hb=>kOf W (hb1w.trans (hb.mono hb1w.size))
      have HOb:Hid (∀W,Below wr.heap.size wr W->Calls prog 29 #[.pointer (some ⟨Z.s,0,none⟩)] W fun r w'=>r=.returned (.pointer (some ⟨Z.S.c,0,none⟩))/\W=w'):=fun W hb=>HObj.out W (hb1w.trans (hb.mono hb1w.size))
      have hb3i:=Q0a hbi;have hbo':=Q0a hbo;clear hbi hbo hb1w hcz hcy hz hgS hgS2 hgT2 kLook kOf;have hi0:(0:Int)<=(i:Int):=by omega
      have hi1:(i:Int)<(SL.length:Int):=by omega
      have hi2:(i:Int)<256:=by have:=HSl2.out;omega
      have HFr:=Q0a kFrom;clear kFrom hig;go_upto_region 16 with fail
      go_cut [10,11] from 52 to 63 (fun oo ee wc=>∃B:Nat,oo=.pointer (some ⟨B,0,none⟩)/\ee=.int .i64 0/\Below wr.heap.size wr wc/\wr.heap.size<=B/\Cells wc B 35 [.int .u32 h,.int .i64 rr])
      case first =>
       have HBA:Hid (∀V,Below wr.heap.size wr V->∀o,Below wr.heap.size wr (V.alloc o)):=fun V hb o=>hb.alloc hb.size o
       have HD:Hid (Below wr.heap.size wr wr.drew):=(Below.refl _ _).drew;have HR0:Hid (Below wr.heap.size wr wr):=Below.refl _ _;have HKA:Hid (Calls prog 21 #[.pointer (some ⟨Z.s,0,none⟩),.int .u32 y,.int .i64 z] (wr.alloc (.cells #[.int .u32 0,.int .i64 0] 35)).drew fun r w4=>r=.returned (.tuple #[.agg #[.int .u32 h,.int .i64 rr],.int .i64 0])/\Below wr.heap.size wr w4/\Cells w4 wr.heap.size 35 [.int .u32 0,.int .i64 0]):=
        (HLook.out _ (HBA.out _ (Below.refl _ _).drew _)).mono fun r w4 h=>⟨h.1,((HBA.out _ (Below.refl _ _).drew _)).trans (h.2.mono (by simp)),(Cells.new wr 35 [.int .u32 0,.int .i64 0]).same (h.2.block _ (by simp))⟩
       go_region_held3 (fun V=>V.cell? ⟨gT,k,none⟩=some (.int .u32 y)/\V.cell? ⟨gS,i,none⟩=some (.int .i64 z))
        (first|exact HC2.out _ HR0.out|exact HC2.out _ HD.out|exact HC2.out _ (HBA.out _ HD.out _)|exact HC2.out _ HB4.out|exact HC2.out _ (HBA.out _ HB4.out _)|exact HC2.out _ (HB4.out.setCell (by simp) _)|exact HC2.out _ ((HB4.out.setCell (by simp) _).setCell (by simp) _))
        (first|(go_at_call 21;refine HKA.out.mono ?_;rintro rv w4 ⟨rfl,hb4,hc4⟩;have HB4:=Q0a hb4;have z0:=hc4.cell 0 _ rfl;have y0:=hc4.free 0;have z1:=hc4.cell 1 _ rfl;have y1:=hc4.free 1;have HC4:=Q0a hc4;clear hb4 hc4)|(go_at_call 21;refine (HLook.out _ (by first|exact HD.out|exact HBA.out _ HD.out _)).mono ?_;rintro rv w4 ⟨rfl,hb4⟩;have HB4:=Q0a (HD.out.trans (hb4.mono HD.out.size));clear hb4))
       all_goals (go_wp2_with fail;go_meet;first|exact⟨_,rfl,rfl,HBA.out _ HB4.out _,HB4.out.size,Cells.new _ 35 [.int .u32 h,.int .i64 rr]⟩|exact⟨_,rfl,rfl,((HB4.out.setCell (by simp) _).setCell (by simp) _),J1x _,((HC4.out.set 0 (.int .u32 h)).set 1 (.int .i64 rr))⟩)
      obtain⟨B1,rfl,rfl,hb1,hB1,hc1⟩:=hcut;have HB1c:=Q0a hb1;have HC3:Hid (∀V,Below wc.heap.size wc V->V.cell? ⟨B1,0,none⟩=some (.int .u32 h)):=fun V hb=>(hc1.same (hb.block B1 hc1.lt)).cell 0 _ rfl
      have HOf2:Hid (∀V,Below wc.heap.size wc V->Calls prog 30 #[.pointer (some ⟨Z.S.c,0,none⟩),.int .u32 h,.int .i64 0] V (Told V (.tuple #[.agg #[.int .i64 k8,.int .i64 oa,.int .i64 of],.int .i64 0]))):=fun V hb=>HOf.out V (HB1c.out.trans (hb.mono HB1c.out.size))
      have HOb2:Hid (∀V,Below wc.heap.size wc V->Calls prog 29 #[.pointer (some ⟨Z.s,0,none⟩)] V fun r w'=>r=.returned (.pointer (some ⟨Z.S.c,0,none⟩))/\V=w'):=fun V hb=>HOb.out V (HB1c.out.trans (hb.mono HB1c.out.size))
      have HC1:=Q0a hc1;obtain⟨wd,hwd⟩:∃wd,wd=wc:=⟨_,rfl⟩
      subst hwd;clear hb1 hB1 hc1 HOf HOb HLook;go_upto_region 17 with fail
      go_cut [12,13] from 65 to 71 (fun oo ee wc=>∃B:Nat,oo=.pointer (some ⟨B,0,none⟩)/\ee=.int .i64 0/\Below wd.heap.size wd wc/\wd.heap.size<=B/\Cells wc B 69 [.int .i64 k8,.int .i64 oa,.int .i64 of])
      case first =>
       have HBA:Hid (∀V,Below wd.heap.size wd V->∀o,Below wd.heap.size wd (V.alloc o)):=fun V hb o=>hb.alloc hb.size o
       have HD:Hid (Below wd.heap.size wd wd.drew):=(Below.refl _ _).drew;have HR0:Hid (Below wd.heap.size wd wd):=Below.refl _ _;have HKA:Hid (Calls prog 30 #[.pointer (some ⟨Z.S.c,0,none⟩),.int .u32 h,.int .i64 0] (wd.alloc (.cells #[.int .i64 0,.int .i64 0,.int .i64 0] 69)).drew fun r w4=>r=.returned (.tuple #[.agg #[.int .i64 k8,.int .i64 oa,.int .i64 of],.int .i64 0])/\Below wd.heap.size wd w4/\Cells w4 wd.heap.size 69 [.int .i64 0,.int .i64 0,.int .i64 0]):=
        (HOf2.out _ (HBA.out _ (Below.refl _ _).drew _)).mono fun r w4 h=>⟨h.1,((HBA.out _ (Below.refl _ _).drew _)).trans (h.2.mono (by simp)),(Cells.new wd 69 [.int .i64 0,.int .i64 0,.int .i64 0]).same (h.2.block _ (by simp))⟩
       go_region_held3 (fun V=>V.cell? ⟨B1,0,none⟩=some (.int .u32 h))
        (first|exact HC3.out _ HR0.out|exact HC3.out _ HD.out|exact HC3.out _ (HBA.out _ HD.out _)|exact HC3.out _ HB4.out|exact HC3.out _ (HBA.out _ HB4.out _)|exact HC3.out _ (HB4.out.setCell (by simp) _)|exact HC3.out _ ((HB4.out.setCell (by simp) _).setCell (by simp) _)|exact HC3.out _ (((HB4.out.setCell (by simp) _).setCell (by simp) _).setCell (by simp) _))
        (first|(go_at_call 29;refine (HOb2.out _ (by first|exact HD.out|exact HBA.out _ HD.out _)).mono ?_;rintro rv w' ⟨rfl,rfl⟩)|(go_at_call 30;refine HKA.out.mono ?_;rintro rv w4 ⟨rfl,hb4,hc4⟩;have HB4:=Q0a hb4;have z0:=hc4.cell 0 _ rfl;have y0:=hc4.free 0;have z1:=hc4.cell 1 _ rfl;have y1:=hc4.free 1;have z2:=hc4.cell 2 _ rfl;have y2:=hc4.free 2;have HC4:=Q0a hc4;clear hb4 hc4)|(go_at_call 30;refine (HOf2.out _ (by first|exact HD.out|exact HBA.out _ HD.out _)).mono ?_;rintro rv w4 ⟨rfl,hb4⟩;have HB4:=Q0a (HD.out.trans (hb4.mono HD.out.size));clear hb4))
       all_goals (go_wp2_with fail;go_meet;first|exact⟨_,rfl,rfl,HBA.out _ HB4.out _,HB4.out.size,Cells.new _ 69 [.int .i64 k8,.int .i64 oa,.int .i64 of]⟩|exact⟨_,rfl,rfl,(((HB4.out.setCell (by simp) _).setCell (by simp) _).setCell (by simp) _),J1x _,(((HC4.out.set 0 (.int .i64 k8)).set 1 (.int .i64 oa)).set 2 (.int .i64 of))⟩)
      obtain⟨B2,rfl,rfl,hb2,hB2,hc2⟩:=hcut;have hcc1:=HC1.out.same (hb2.block B1 HC1.out.lt);have hbw2:Below wr.heap.size wr wc:=HB1c.out.trans (hb2.mono HB1c.out.size);have HBw2:=Q0a hbw2;obtain⟨e0,e1⟩:=HC2.out wc hbw2;have c1:=hcc1.cell 1 _ rfl;have o0:=hc2.cell 0 _ rfl;have HCc1:=Q0a hcc1;have d1:decide ((rr:Int)<1)=false:=decide_eq_false (by omega);have d2:decide (15<(rr:Int))=false:=decide_eq_false (by omega);have d3:(((k8:Int)==8) != decide (128<=z))=false:=by rw [hk8];simp
      clear hb2 hB2 hc2 hcc1 hbw2 HC3 HOf2 HOb2 HC1;obtain⟨we,hwe⟩:∃we,we=wc:=⟨_,rfl⟩
      subst hwe;go_upto_region 18 with fail
      go_cut [98] from 72 to 98 (fun bb wc=>bb=.bool false/\Below we.heap.size we wc)
      case first =>
       have HE:Hid (∀n,Below we.heap.size we (we.drewN n)):=fun n=>Q0Y (Below.refl _ _) n
       go_quiet (fail)
       go_wp2_with fail;go_meet;exact⟨rfl,HE.out _⟩
      obtain⟨rfl,hbf⟩:=hcut;have hbwf:Below wr.heap.size wr wc:=HBw2.out.trans (hbf.mono HBw2.out.size);have HBwf:=Q0a hbwf;have HCf:=Q0a (HCc1.out.same (hbf.block B1 HCc1.out.lt));have HC2f:Hid (∀V,Below wc.heap.size wc V->V.cell? ⟨gT,k,none⟩=some (.int .u32 y)/\V.cell? ⟨gS,i,none⟩=some (.int .i64 z)):=fun V hb=>HC2.out V (HBwf.out.trans (hb.mono HBwf.out.size))
      obtain⟨wf,hwf⟩:∃wf,wf=wc:=⟨_,rfl⟩
      subst hwf;clear hbf hbwf e0 e1 c1 o0 d1 d2 d3 HCc1 HBw2;rcases HFr.out with hfr|⟨y2,s2,r2,hy2,hbits,hfr,hlk2⟩
      ·have HFrm:Hid (∀V,Below wf.heap.size wf V->Calls prog 22 #[.pointer (some ⟨Z.s,0,none⟩),.int .u32 y,.int .i64 z] V (Told V (.tuple #[.agg #[.int .i64 0,.int .i64 0],.bool false]))):=fun V hb=>hfr V (HB1r.out.trans ((hbo'.out.trans (HBwf.out.mono hbo'.out.size)).mono HB1r.out.size |>.trans (hb.mono (J1y (J1y HB1r.out.size hbo'.out.size) HBwf.out.size))))
       clear hfr HFr;go_upto_region 20 with fail
       go_cut [14,15] from 100 to 111 (fun oo ee wc=>∃B:Nat,oo=.pointer (some ⟨B,0,none⟩)/\ee=.bool false/\Below wf.heap.size wf wc/\wf.heap.size<=B/\Cells wc B 46 [.int .i64 0,.int .i64 0])
       case first =>
        have HBA:Hid (∀V,Below wf.heap.size wf V->∀o,Below wf.heap.size wf (V.alloc o)):=fun V hb o=>hb.alloc hb.size o
        have HD:Hid (Below wf.heap.size wf wf.drew):=(Below.refl _ _).drew;have HR0:Hid (Below wf.heap.size wf wf):=Below.refl _ _;have HKA:Hid (Calls prog 22 #[.pointer (some ⟨Z.s,0,none⟩),.int .u32 y,.int .i64 z] (wf.alloc (.cells #[.int .i64 0,.int .i64 0] 46)).drew fun r w4=>r=.returned (.tuple #[.agg #[.int .i64 0,.int .i64 0],.bool false])/\Below wf.heap.size wf w4/\Cells w4 wf.heap.size 46 [.int .i64 0,.int .i64 0]):=
         (HFrm.out _ (HBA.out _ (Below.refl _ _).drew _)).mono fun r w4 h=>⟨h.1,((HBA.out _ (Below.refl _ _).drew _)).trans (h.2.mono (by simp)),(Cells.new wf 46 [.int .i64 0,.int .i64 0]).same (h.2.block _ (by simp))⟩
        go_region_held3 (fun V=>V.cell? ⟨gT,k,none⟩=some (.int .u32 y)/\V.cell? ⟨gS,i,none⟩=some (.int .i64 z))
         (first|exact HC2f.out _ HR0.out|exact HC2f.out _ HD.out|exact HC2f.out _ (HBA.out _ HD.out _)|exact HC2f.out _ HB4.out|exact HC2f.out _ (HBA.out _ HB4.out _)|exact HC2f.out _ (HB4.out.setCell (by simp) _)|exact HC2f.out _ ((HB4.out.setCell (by simp) _).setCell (by simp) _))
         (first|(go_at_call 22;refine HKA.out.mono ?_;rintro rv w4 ⟨rfl,hb4,hc4⟩;have HB4:=Q0a hb4;have z0:=hc4.cell 0 _ rfl;have y0:=hc4.free 0;have z1:=hc4.cell 1 _ rfl;have y1:=hc4.free 1;have HC4:=Q0a hc4;clear hb4 hc4)|(go_at_call 22;refine (HFrm.out _ (by first|exact HD.out|exact HBA.out _ HD.out _)).mono ?_;rintro rv w4 ⟨rfl,hb4⟩;have HB4:=Q0a (HD.out.trans (hb4.mono HD.out.size));clear hb4))
        all_goals (go_wp2_with fail;go_meet;first|exact⟨_,rfl,rfl,HBA.out _ HB4.out _,HB4.out.size,Cells.new _ 46 [.int .i64 0,.int .i64 0]⟩|exact⟨_,rfl,rfl,((HB4.out.setCell (by simp) _).setCell (by simp) _),J1x _,((HC4.out.set 0 (.int .i64 0)).set 1 (.int .i64 0))⟩)
       obtain⟨B3,rfl,rfl,hb3,hB3,hc3⟩:=hcut;have HEnd:Hid (Below w3.heap.size w3 wc):=hb3i.out.trans ((HBwf.out.trans (hb3.mono HBwf.out.size)).mono hb3i.out.size);clear hb3 hB3 hc3;go_wp2_with fail;go_roundg (SL.length-(i+1))
       case measure=>have:=HIG.out;omega
       case rel=>exact⟨i+1,by go_num,by have:=HIG.out;omega,HEnd.out⟩
      ·have HBase:Hid (∀V,Below wf.heap.size wf V->Below w1.heap.size w1 V):=fun V hb=>HB1r.out.trans ((hbo'.out.trans (HBwf.out.mono hbo'.out.size)).mono HB1r.out.size |>.trans (hb.mono (J1y (J1y HB1r.out.size hbo'.out.size) HBwf.out.size)))
       have HFrm:Hid (∀V,Below wf.heap.size wf V->Calls prog 22 #[.pointer (some ⟨Z.s,0,none⟩),.int .u32 y,.int .i64 z] V (Told V (.tuple #[.agg #[.int .i64 y2,.int .i64 s2],.bool true]))):=fun V hb=>hfr V (HBase.out V hb)
       have HLk2:=Q0a hlk2;clear hfr hlk2 HFr;go_upto_region 20 with fail
       go_cut [14,15] from 100 to 111 (fun oo ee wc=>∃B:Nat,oo=.pointer (some ⟨B,0,none⟩)/\ee=.bool true/\Below wf.heap.size wf wc/\wf.heap.size<=B/\Cells wc B 46 [.int .i64 y2,.int .i64 s2])
       case first =>
        have HBA:Hid (∀V,Below wf.heap.size wf V->∀o,Below wf.heap.size wf (V.alloc o)):=fun V hb o=>hb.alloc hb.size o
        have HD:Hid (Below wf.heap.size wf wf.drew):=(Below.refl _ _).drew;have HR0:Hid (Below wf.heap.size wf wf):=Below.refl _ _;have HKA:Hid (Calls prog 22 #[.pointer (some ⟨Z.s,0,none⟩),.int .u32 y,.int .i64 z] (wf.alloc (.cells #[.int .i64 0,.int .i64 0] 46)).drew fun r w4=>r=.returned (.tuple #[.agg #[.int .i64 y2,.int .i64 s2],.bool true])/\Below wf.heap.size wf w4/\Cells w4 wf.heap.size 46 [.int .i64 0,.int .i64 0]):=
         (HFrm.out _ (HBA.out _ (Below.refl _ _).drew _)).mono fun r w4 h=>⟨h.1,((HBA.out _ (Below.refl _ _).drew _)).trans (h.2.mono (by simp)),(Cells.new wf 46 [.int .i64 0,.int .i64 0]).same (h.2.block _ (by simp))⟩
        go_region_held3 (fun V=>V.cell? ⟨gT,k,none⟩=some (.int .u32 y)/\V.cell? ⟨gS,i,none⟩=some (.int .i64 z))
         (first|exact HC2f.out _ HR0.out|exact HC2f.out _ HD.out|exact HC2f.out _ (HBA.out _ HD.out _)|exact HC2f.out _ HB4.out|exact HC2f.out _ (HBA.out _ HB4.out _)|exact HC2f.out _ (HB4.out.setCell (by simp) _)|exact HC2f.out _ ((HB4.out.setCell (by simp) _).setCell (by simp) _))
         (first|(go_at_call 22;refine HKA.out.mono ?_;rintro rv w4 ⟨rfl,hb4,hc4⟩;have HB4:=Q0a hb4;have z0:=hc4.cell 0 _ rfl;have y0:=hc4.free 0;have z1:=hc4.cell 1 _ rfl;have y1:=hc4.free 1;have HC4:=Q0a hc4;clear hb4 hc4)|(go_at_call 22;refine (HFrm.out _ (by first|exact HD.out|exact HBA.out _ HD.out _)).mono ?_;rintro rv w4 ⟨rfl,hb4⟩;have HB4:=Q0a (HD.out.trans (hb4.mono HD.out.size));clear hb4))
        all_goals (go_wp2_with fail;go_meet;first|exact⟨_,rfl,rfl,HBA.out _ HB4.out _,HB4.out.size,Cells.new _ 46 [.int .i64 y2,.int .i64 s2]⟩|exact⟨_,rfl,rfl,((HB4.out.setCell (by simp) _).setCell (by simp) _),J1x _,((HC4.out.set 0 (.int .i64 y2)).set 1 (.int .i64 s2))⟩)
       obtain⟨B3,rfl,rfl,hb3,hB3,hc3⟩:=hcut;have kl2:=HLk2.out wc (HBase.out wc hb3);have hwy2:IntKind.u32.wrap (y2:Int)=(y2:Int):=Go.IntWalk.u32_in _ (by omega);have p0:=hc3.cell 0 _ rfl;have p1:=hc3.cell 1 _ rfl;have HB3w:=Q0a hb3;clear hb3 hB3 hc3;go_wp2_with fail;refine kl2.mono ?_;rintro rv w5 ⟨rfl,hb5⟩;have hb6:=hb5.alloc hb5.size (.cells #[.int .u32 h,.int .i64 r2] 35);have hc6:=Cells.new w5 35 [.int .u32 h,.int .i64 r2];have hcB:=(HCf.out.same (HB3w.out.block B1 HCf.out.lt))
       have hcC:=hcB.same (hb6.block B1 hcB.lt);have q0:=hcC.cell 0 _ rfl;have q1:=hcC.cell 1 _ rfl;have t0:=hc6.cell 0 _ rfl;have t1:=hc6.cell 1 _ rfl;have hbits0:(bits .andNot .i64 (rr:Int) (r2:Int) != 0)=false:=by rw [hbits];rfl
       have HEnd:Hid (Below w3.heap.size w3 (w5.alloc (.cells #[.int .u32 h,.int .i64 r2] 35))):=hb3i.out.trans ((HBwf.out.trans ((HB3w.out.trans (hb6.mono HB3w.out.size)).mono HBwf.out.size)).mono hb3i.out.size);clear hb5 hb6 hc6 hcB hcC kl2 HLk2 HFrm HBase;go_wp2_with fail;go_roundg (SL.length-(i+1))
       case measure=>have:=HIG.out;omega
       case rel=>exact⟨i+1,by go_num,by have:=HIG.out;omega,HEnd.out⟩
     ·obtain rfl:i=SL.length:=by have:=HIG.out;omega
      have HR:=Q0a hbo;clear hbi hbo hig;go_wp2_with fail;go_roundg (T.length-(k+1))
      case measure=>have:=HKG.out;omega
      case rel=>exact⟨k+1,by go_num,by have:=HKG.out;omega,HBr.out.trans (HR.out.mono HBr.out.size)⟩
   ·obtain rfl:k=T.length:=by have:=HKG.out;omega
    have HX:Hid (Below w.heap.size w wr):=HB1.out.trans (hb1r.mono HB1.out.size);clear hbr hb1r;go_wp2_with fail
    first|exact⟨rfl,HX.out⟩|(go_ret;exact⟨rfl,HX.out⟩)
def Z6G:List (String×DataW Unit):=[("math/bits.deBruijn32tab", Rows.laid_math_bits_deBruijn32tab),("math/bits.deBruijn64tab", Rows.laid_math_bits_deBruijn64tab),("quartermaster/pool.costs", Rows.laid_quartermaster_pool_costs)]
def J1t:List Int:=[0,1,28,2,29,14,24,3,30,22,20,15,25,17,4,8,31,27,13,23,21,19,16,7,26,12,18,6,11,5,10,9]
theorem g32:prog.globalNamed "math/bits.deBruijn32tab" = some 2:=by kernel_rfl
theorem t32:(prog.globals[2]?).map (·.type)=some 380:=by kernel_rfl
theorem g64:prog.globalNamed "math/bits.deBruijn64tab" = some 1:=by kernel_rfl
theorem J1h:prog.globalNamed "quartermaster/pool.costs" = some 0:=by kernel_rfl
theorem t64:(prog.globals[1]?).map (·.type)=some 356:=by kernel_rfl
theorem J1u:(prog.globals[0]?).map (·.type)=some 258:=by kernel_rfl
theorem Z0N {W:World} (h:laidMetH prog Z6G W):Env W:=by
 rw [MakeChecks.laidMetH_plain _ _ _ (by kernel_rfl)] at h;have h1:laidMet prog (("math/bits.deBruijn32tab", Lib.tabData .u8 J1t)::[("math/bits.deBruijn64tab", Rows.laid_math_bits_deBruijn64tab),("quartermaster/pool.costs", Rows.laid_quartermaster_pool_costs)]) W:=h
 have hA:=Lib.tabIs_of_head g32 t32 underlying380 underlying5 (by kernel_rfl) (by kernel_rfl) h1;have h2:laidMet prog (("math/bits.deBruijn64tab", Lib.tabData .u8 (dbt.map fun (n:Nat)=>(n:Int)))::[("quartermaster/pool.costs", Rows.laid_quartermaster_pool_costs)]) W:=laidMet.tail h1
 have h3:laidMet prog (("quartermaster/pool.costs", Lib.tabData .i64 Z3N)::[]) W:=laidMet.tail h2
 have hB:=Lib.tabIs_of_head g64 t64 underlying356 underlying5 (by kernel_rfl) (by kernel_rfl) h2;have hC:=Lib.tabIs_of_head J1h J1u underlying258 underlying3 (by kernel_rfl) (by kernel_rfl) h3;have cB:TabB W:=by
  intro j v hv;have hj:=(J1O.1 hv).1;have:=hB.cell g64 j (by simpa using hj);rw [this];congr 2;simp [List.getD,hv]
 have cC:TabC W:=by
  intro j v hv;have hj:=(J1O.1 hv).1;have:=hC.cell J1h j (by simpa using hj);rw [this];congr 2;simp [List.getD,hv]
 refine⟨?_,cB,cC⟩;have c0:=World.block_lt_of_cell? W ⟨1,0,none⟩ (cB 0 0 rfl);have c1:=World.block_lt_of_cell? W ⟨0,0,none⟩ (cC 0 0 rfl);have c2:=World.block_lt_of_cell? W ⟨2,0,none⟩ (hA.cell g32 0 (by decide));have c0':1<W.heap.size:=c0;have c1':0<W.heap.size:=c1;have c2':2<W.heap.size:=c2;unfold GB;omega
end Go.Proofs.YtlakjlmaboioiaaGreatDoor
