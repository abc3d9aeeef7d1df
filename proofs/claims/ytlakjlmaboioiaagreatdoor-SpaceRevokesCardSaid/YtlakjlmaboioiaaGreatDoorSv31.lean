/- SpaceRevokes returns true at every input. No condition. Part of its proof. -/
import Derived.Test.YtlakjlmaboioiaaGreatDoorSv30
import Derived.Lib.LaidTab
import Derived.LaidMore
import Derived.MakeChecks
import Derived.Stop.LaidErr
import Derived.Carry
import Derived.Test.YtlakjlmaboioiaaGreatDoorProg
set_option maxHeartbeats 8000000
set_option maxRecDepth 100000
set_option linter.unusedVariables false
namespace Go.Proofs.YtlakjlmaboioiaaGreatDoor
open Go.RowKit Go.Proofs.Tryz
section
variable {Z:SP} {fr:List Nat} {N K:Nat} {M:Int}
theorem Z3U {x s:Nat} (hs:s<256):(∃en,Q0f Z.S.l Z.tb x s=some en)∨(Q0f Z.S.l Z.tb x s=none/\∃e:Int,e≠0/\Q5i Z.S.l Z.tb x (s:Int)=.tuple #[.agg #[.int .u32 0,.int .i64 0],.int .i64 e]):=by
 cases he:Q0f Z.S.l Z.tb x s with
 | some en=>exact .inl ⟨en,rfl⟩
 | none =>
  refine .inr ⟨rfl,?_⟩;unfold Q5i;cases hp:pget Z.S.l 1 x with
  | none=>exact⟨8,by decide,rfl⟩
  | some p =>
   simp only;by_cases hk:p.kind=2
   ·rw [if_pos hk,if_pos (by omega),J2R,he];exact⟨6,by decide,rfl⟩
   ·rw [if_neg hk];exact⟨10,by decide,rfl⟩
theorem Z8Y {x s:Nat} {self:Bool} {w w':World} {r:Ending} (he:Q0f Z.S.l Z.tb x s=none) (R:RevR Z fr N K M x (s:Int) 15 self w r w'):∃f:Int,f≠0/\r=.returned (.tuple #[.int .i64 0,.int .i64 f])/\Below w.heap.size w w':=by
 rcases R with ⟨e,rfl,hb,hc⟩|⟨s',m,n,en,h1,_,_,_,_,h2,_⟩
 ·refine⟨e,?_,rfl,hb⟩;rcases hc with ⟨_,rfl⟩|⟨p,_,⟨_,rfl⟩|⟨_,_,rfl⟩|⟨_,_,_,rfl⟩|⟨_,_,_,_,rfl⟩⟩ <;> decide
 ·have:s'=s:=by omega
  subst this;rw [he] at h2;cases h2
theorem Z8Z {x s:Nat} {self:Bool} {w w':World} {r:Ending} {en:Ent} (he:Q0f Z.S.l Z.tb x s=some en) (R:RevR Z fr N K M x (s:Int) 15 self w r w'):∃(n:En Nd) (Z':SP),n∈Z.F.N/\n.q.sp=(x:Int)/\n.q.sl=(s:Int)/\r=.returned (.tuple #[.int .i64 ((Q0y 15 Z.av (revL Z.F n.id self)).2:Nat),.int .i64 0])/\Z'.Ok fr N K M/\Z'.av=(Q0y 15 Z.av (revL Z.F n.id self)).1/\SameZ Z Z'/\Step Z.hl Z'.hl w w':=by
 obtain⟨p,hp,hk,hs,_⟩:=Q1s he;rcases R with ⟨e,rfl,hb,hc⟩|⟨s',m,n,en',h1,h2,h3,h4,h5,h6,h7,h8,h9,KK,Z',a,b,c,d⟩
 ·exfalso;rcases hc with ⟨h,_⟩|⟨q,hq,⟨h,_⟩|⟨_,h,_⟩|⟨_,_,h,_⟩|⟨_,_,_,h,_⟩⟩
  ·rw [hp] at h;cases h
  ·rw [hp] at hq;cases hq;exact h hk
  ·omega
  ·omega
  ·rw [J2R,he] at h;cases h
 ·have e1:s'=s:=by omega
  have e2:m=15:=by omega
  subst e1 e2;exact⟨n,Z',h7,h8,h9,KK,a,b,c,d⟩
theorem J0H (ok:Z.Ok fr N K M) {x s:Nat} {p:Pl} (hp:pget Z.S.l 1 x=some p) (hk:p.kind=2) (hs:s<256):Q5i Z.S.l Z.tb x (s:Int)=Q9L (Z.av.en x s):=by
 have:=Z2b (Z:=Z) (x:=x) (z:=(s:Int)) hp hk (by omega)
 rwa [J2R] at this
end
structure RvT (Z':SP) (x s h left:Nat) (w:World):Prop where
 look:∀W,Below w.heap.size w W->Calls prog 21 #[.pointer (some ⟨Z'.s,0,none⟩),.int .u32 x,.int .i64 s] W (Told W (Q9L (Z'.av.en x s)))
 hold:∀W,Below w.heap.size w W->Calls prog 23 #[.pointer (some ⟨Z'.s,0,none⟩),.int .u32 h] W fun r w'=>∃(a:Option Addr) (cap:Nat) (L:List (Int×Int)),r=.returned (.slice a left cap)/\L.length=left/\Below W.heap.size W w'/\∀(j:Nat) (z:Int×Int),L[j]?=some z->∃(g u v:Nat),z=((u:Int),(v:Int))/\u<4294967296/\v<256/\a=some ⟨g,0,none⟩/\g<w'.heap.size/\w'.cell? ⟨g,j*2,none⟩=some (.int .i64 u)/\w'.cell? ⟨g,j*2+1,none⟩=some (.int .i64 v) /\
  ∃(p q:Int) (f:Bool),(f=true->¬(p=(x:Int)/\q=(s:Int)))/\∀W',Below w.heap.size w W'->Calls prog 22 #[.pointer (some ⟨Z'.s,0,none⟩),.int .u32 u,.int .i64 v] W' (Told W' (.tuple #[.agg #[.int .i64 p,.int .i64 q],.bool f]))
theorem J1u {Z':SP} {fr:List Nat} {N K:Nat} {M:Int} {x s h:Nat} {w:World} (hs:Sep w Z'.hl) (ok:Z'.Ok fr N K M) {p:Pl} (hp:pget Z'.S.l 1 x=some p) (hk:p.kind=2) (hx:x<4294967296) (A6:s<256) (Aq:∀u v:Nat,(∃r,Z'.av.en u v=some (h,r))->Q2X Z'.F.N (u:Int) (v:Int)≠some ((x:Int),(s:Int))):RvT Z' x s h (Q1v Z'.S.l Z'.tb h).length w:=by
 refine⟨fun W hb=>?_,fun W hb=>?_⟩
 ·have:=Q6w (hs.grown hb).sep ok hx (s:Int)
  rwa [J0H ok hp hk A6] at this
 ·refine (Q1K (hs.grown hb).sep ok h).mono ?_;rintro r w' ⟨v,rfl,A0,Af⟩;obtain⟨a,cap,rfl,hc⟩:=Q4R A0;refine⟨a,cap,Q1v Z'.S.l Z'.tb h,rfl,rfl,Af,fun j z hz=>?_⟩;obtain⟨u,t,ht⟩:=(Q3u ok).1 (J4a hz);obtain⟨r,rfl,A9⟩:=ht;obtain⟨e,he,Bo⟩:=Q2T A9;obtain⟨q,hq,_,IJ,_⟩:=Q1s he;obtain⟨c1,c2⟩:=Q8h _ j _ hz;obtain⟨g,hg,_,DG,Cd⟩:=hc _ _ c1;obtain⟨g',Fe,_,_,Pa⟩:=hc _ _ c2;rw [hg] at Fe;cases Fe;have hu:=Z0V ok.core.inv.lok hq;refine⟨g,u,t,rfl,hu,IJ,hg,DG,Cd,Pa,?_⟩;have hf:∀W',Below w.heap.size w W'->Calls prog 22 #[.pointer (some ⟨Z'.s,0,none⟩),.int .u32 u,.int .i64 t] W' (Told W' (Z3L Z'.F.N (u:Int) (t:Int))):=fun W' Ak=>Q9K (hs.grown Ak).sep ok.fo hu IJ
  have Aa:=Aq u t ⟨r,A9⟩;unfold Z3L at hf;cases Cz:Q2X Z'.F.N (u:Int) (t:Int) with
  | none =>
   rw [Cz] at hf;exact⟨0,0,false,(fun h=>by cases h),hf⟩
  | some pq =>
   rw [Cz] at hf Aa;exact⟨pq.1,pq.2,true,fun _ e=>Aa (by rw [<- e.1,<- e.2]),hf⟩
theorem Q5y {w:World} (D3:Env w) (m:Nat) (hm:m<65536) (a0:Option Addr) (len cap:Nat) (A:Nat->A17) (hA:IsA17 w a0 len A) (tk:Nat) (AR:tk<256) (sk:Nat) (hsk:sk<256) (self:Bool) :
  Calls prog 8 #[.int .u16 m,.slice a0 len cap,.int .u8 tk,.int .u8 sk,.bool self] w (Told w (.bool true)):=by
 have ka:=Z0S D3;obtain⟨LJ,IA,OF,Ow⟩:=Z6R (m:=m);generalize (64+m%65473:Nat)=lm at *
 have LN:Hid (∀W,Below w.heap.size w W->Calls prog 26 #[.slice a0 len cap] W fun r w'=>r=.returned (.bool (fewV A len))/\W=w'):=fun W hb=>J0F W a0 len cap A (hA.below hb)
 have Js:Hid (fewV A len=true->∀W,Below w.heap.size w W->Calls prog 27 #[.int .i64 lm,.slice a0 len cap] W fun r w'=>∃s,r=.returned (.pointer (some ⟨s,0,none⟩))/\AtB s 61 60 15360 W w'):=fun hf W hb=>by
  unfold fewV at hf;have hf:=of_decide_eq_true hf;exact Z6Q (D3.below hb) _ (by omega) (by omega) a0 len cap A hf.1 (hA.below hb) hf.2
 have PW:Hid (Below w.heap.size w w):=Below.refl _ _;have O4:=Q0a LJ;have M3:=Q0a IA;clear hA D3 LJ IA OF Ow;have F6:(0:Int)<=(m:Int):=by omega
 have DE:(m:Int)<65536:=by omega
 go_enter func8,ntmps8;go_wp2_with fail;refine ka.mono ?_;rintro r w0 ⟨rfl,BK⟩;have Gc:=Q0a BK;have kf:=LN.out w0 BK;clear BK ka LN;go_wp2_with fail;refine kf.mono ?_;rintro r w0' ⟨rfl,rfl⟩;clear kf;generalize fewV A len=fv at *
 cases fv with
 | false =>
  clear Js;go_wp2_with fail
  first|exact⟨rfl,Gc.out⟩|(go_ret;exact⟨rfl,Gc.out⟩)
 | true =>
  have kb:=Js.out rfl w0 Gc.out;clear Js;go_wp2_with fail
  first|rw [M3.out]|rw [O4.out]
  refine kb.mono ?_;rintro r w1 ⟨s,rfl,Z,fr,rfl,ok,-,st⟩;have kx:=Z6M st.sep ok 2 (tk:Int) ⟨by omega,by omega⟩;have CD:=Z6L ok.core.inv.lok 2 (tk:Int);have Jy:=Q0a st.sep;have BO:=Q0a st;have Ct:=Q0a ok;have Bq:Hid (Below w.heap.size w w1):=Gc.out.trans (st.fresh.mono Gc.out.size);have Sd:(0:Int)<=(tk:Int):=by omega
  have SG:(tk:Int)<256:=by omega
  have Sk:(0:Int)<=(sk:Int):=by omega
  have Td:(sk:Int)<256:=by omega
  clear st ok kb;go_wp2_with fail;refine kx.mono ?_;rintro r w2 ⟨rfl,Af⟩;clear kx;generalize nthV Z.S.l 2 (tk:Int)=x at *
  have IE:=Q0a (Jy.out.grown Af).sep;have Fr:=Q0a (BO.out.trans (Jy.out.grown Af));have Ey:Hid (Below w.heap.size w w2):=Bq.out.trans (Af.mono Bq.out.size);have Ci:(0:Int)<=(x:Int):=by omega
  have Dv:(x:Int)<4294967296:=by omega
  have Vu:IntKind.i64.wrap (x:Int)=(x:Int):=Go.IntWalk.i64_in _ (by omega);clear Af Jy Bq BO;have kl:=Q6w IE.out Ct.out CD (sk:Int);rcases Z3U (Z:=Z) (x:=x) (s:=sk) hsk with ⟨en,he⟩|⟨he,e,Aa,hl⟩
  ·obtain⟨p,hp,hk,_,_⟩:=Q1s he;rw [Z6S he] at kl;have A9:=Ct.out.fpi.low Ct.out.core.inv.lok he;have IX:=(Ct.out.fpi.cap x sk en he).r;have HP:Hid (pget Z.S.l 1 x=some p/\p.kind=2):=⟨hp,hk⟩
   have HE:=Q0a he;clear he hp hk;go_wp2_with fail;refine kl.mono ?_;rintro r w3 ⟨rfl,Ar⟩;have Az:=Ar.alloc Ar.size (.cells #[.int .u32 (en.h:Int),.int .i64 (en.r:Int)] 35);have AT:=Cells.new w3 35 [.int .u32 (en.h:Int),.int .i64 (en.r:Int)];have kh:=Q1K (IE.out.grown Az).sep Ct.out en.h;have Ap:=Q0a Az;have Ga:=Q0a AT;have Qf:Hid (w2.heap.size<=w3.heap.size):=Ar.size;have c0:=AT.cell 0 _ rfl;clear Ar Az AT kl;go_wp2_with fail;refine kh.mono ?_;rintro r w5 ⟨v5,rfl,A0,AD⟩;obtain⟨aH,Ss,rfl,-⟩:=Q4R A0;have Dt:Hid (Below w2.heap.size w2 w5):=Ap.out.trans (AD.mono Ap.out.size)
   have OZ:=Q0a (Ga.out.same (AD.block _ Ga.out.lt));have kr:=Q2W (IE.out.grown Dt.out).sep Ct.out CD (sk:Int) 15 self;have CC:(Q1v Z.S.l Z.tb en.h).length<=65536:=by
    have h1:=Q4Q Z.S.l Z.tb en.h (allL Z.S.l 1);have h2:=Z2e Ct.out.core.inv.len;show (Q1M Z.S.l Z.tb en.h (allL Z.S.l 1)).length<=_;omega
   clear AD A0 kh c0 Ap Ga;go_wp2_with fail;refine kr.mono ?_;intro r w6 hr;obtain⟨n,Z',hn,CH,FC,rfl,ok',Da,sz,st6⟩:=Z8Z HE.out hr;obtain⟨q1,q2,q3,q4⟩:=Z6H Ct.out ok' HE.out hn CH FC self Da;have By:pget Z'.S.l 1 x=some p:=by rw [sz.alt.l];exact HP.out.1
   have hT:=J1u st6.sep ok' By HP.out.2 CD hsk q4;have Lu:=hT.look;rw [sz.s,q3] at Lu;have NM:=hT.hold;rw [sz.s] at NM;have Ao:=Fr.out.trans ((IE.out.grown Dt.out).trans st6);have Jf:Hid (Below w.heap.size w w6):=Gc.out.trans (Ao.fresh.mono Gc.out.size);have IQ:=Q0a (OZ.out.same (st6.keep IE.out (J1L _) _ Qf.out OZ.out.lt));generalize (Q0y 15 Z.av (revL Z.F n.id self)).2=cnt at *
   generalize (Q1v Z'.S.l Z'.tb en.h).length=lft at *
   generalize (Q1v Z.S.l Z.tb en.h).length=Hh at *
   have IG:=Q0a Lu;have Nb:=Q0a NM;have CJ:(lft:Int)=(Hh:Int)-(cnt:Int):=by omega
   have E8:(Hh:Int)<=65536:=by omega
   have Ht:(cnt:Int)<=(Hh:Int):=by omega
   have RQ:(0:Int)<=(cnt:Int):=by omega
   have Vo:(0:Int)<=(lft:Int):=by omega
   clear hr Da q3 q4 By hT kr st6 ok' sz hn CH FC Dt OZ Lu NM Ao Qf HP Ct IE Fr;cases self with
   | true =>
    simp only [if_true] at IG;have Nn:1<=cnt:=q2 rfl;have LD:Calls prog 21 #[.pointer (some ⟨Z.s,0,none⟩),.int .u32 x,.int .i64 sk] w6 (Told w6 (.tuple #[.agg #[.int .u32 0,.int .i64 0],.int .i64 6])):=IG.out w6 (Below.refl _ _);clear IG;go_wp2_with fail;refine LD.mono ?_;rintro r w7 ⟨rfl,DH⟩;have DR:=DH.alloc DH.size (.cells #[.int .u32 0,.int .i64 0] 35);have M9:=Cells.new w7 35 [.int .u32 0,.int .i64 0];have GZ:=IQ.out.same (DR.block _ IQ.out.lt);have c0:=GZ.cell 0 _ rfl;have Db:=Nb.out _ DR;have JO:=Q0a DR;have I7:=Q0a M9;have Hl:=Q0a GZ;clear LD DH DR M9 GZ Nb
    go_wp2_with fail;refine Db.mono ?_;rintro r w9 ⟨aL,cL,L,rfl,K1,Hj,Ed⟩;have Fb:=Hl.out.same (Hj.block _ Hl.out.lt);have Jw:=I7.out.same (Hj.block _ I7.out.lt);have d0:=Fb.cell 0 _ rfl;have d1:=Fb.cell 1 _ rfl;have f0:=Jw.cell 0 _ rfl;have f1:=Jw.cell 1 _ rfl;have F5:=Q0a (JO.out.trans (Hj.mono JO.out.size));have CS:=Q0a Ed;have GQ:=Q0a K1;clear Db Hj Ed K1 Fb Jw c0;have N7:decide ((cnt:Int)<1)=false:=decide_eq_false (by omega);have P3:((lft:Int) != (Hh:Int)-(cnt:Int))=false:=by rw [<- CJ];simp
    go_upto_region 18 with fail
    go_cut [116] from 83 to 116 (fun bb wc=>bb=.bool false/\wc=w9)
    case first =>
     clear CS GQ F5 JO I7 Hl IQ Jf;go_wp2_with fail;go_meet;exact⟨rfl,rfl⟩
    obtain⟨rfl,rfl⟩:=hcut;have EV:(lft:Int)<=65536:=by omega
    clear d0 d1 f0 f1 CJ E8 Ht RQ P3 N7 I7 Hl IQ;go_wp2_with fail
    go_loopg [21] lft (fun gk iv wr=>∃j:Nat,iv=.int .i64 j/\j+gk=lft/\Below wc.heap.size wc wr)
    case atStart=>exact⟨0,rfl,by omega,Below.refl _ _⟩
    case round =>
     obtain⟨j,rfl,Ew,B3⟩:=hrel;have ED:=Q0a Ew;have EJ:=Q0a B3;by_cases Ab:j<lft
     ·obtain⟨z,hz⟩:∃z,L[j]?=some z:=⟨_,J4d (by have:=GQ.out;omega)⟩
      obtain⟨g,u,v,rfl,hu,hv,rfl,hg,Cd,Bo,pp,qq,fl,Aa,Mf⟩:=CS.out j z hz;have DT:Hid (∀V,Below wr.heap.size wr V->V.cell? ⟨g,j*2,none⟩=some (.int .i64 u)/\V.cell? ⟨g,j*2+1,none⟩=some (.int .i64 v)):=fun V hb=>by
       have h1:=(B3.trans (hb.mono B3.size)).block g hg;exact⟨(World.cell?_of_block (w:=wc) h1).trans Cd,(World.cell?_of_block (w:=wc) h1).trans Bo⟩
      have Jx:Hid (∀V,Below wr.heap.size wr V->Calls prog 22 #[.pointer (some ⟨Z.s,0,none⟩),.int .u32 u,.int .i64 v] V (Told V (.tuple #[.agg #[.int .i64 pp,.int .i64 qq],.bool fl]))):=fun V hb=>Mf V (F5.out.trans ((B3.trans (hb.mono B3.size)).mono F5.out.size))
      have OW:IntKind.u32.wrap (u:Int)=(u:Int):=Go.IntWalk.u32_in _ (by omega);have Fq:(0:Int)<=(j:Int):=by omega
      have Ko:(j:Int)<(lft:Int):=by omega
      have SF:(0:Int)<=(u:Int):=by omega
      have Ur:(u:Int)<4294967296:=by omega
      have GD:=Q0a Aa;clear hz hg Cd Bo Mf B3 Ew Aa hu hv;go_upto_region 23 with fail
      go_cut [22,23] from 124 to 138 (fun oo ee wc=>∃B:Nat,oo=.pointer (some ⟨B,0,none⟩)/\ee=.bool fl/\Below wr.heap.size wr wc/\wr.heap.size<=B/\Cells wc B 46 [.int .i64 pp,.int .i64 qq])
      case first =>
       have Cl:Hid (∀V,Below wr.heap.size wr V->∀o,Below wr.heap.size wr (V.alloc o)):=fun V hb o=>hb.alloc hb.size o
       have HD:Hid (Below wr.heap.size wr wr.drew):=(Below.refl _ _).drew;have KA:Hid (Below wr.heap.size wr wr):=Below.refl _ _;clear CS GD F5;have JQ:Hid (Calls prog 22 #[.pointer (some ⟨Z.s,0,none⟩),.int .u32 u,.int .i64 v] (wr.alloc (.cells #[.int .i64 0,.int .i64 0] 46)).drew fun r w4=>r=.returned (.tuple #[.agg #[.int .i64 pp,.int .i64 qq],.bool fl])/\Below wr.heap.size wr w4/\Cells w4 wr.heap.size 46 [.int .i64 0,.int .i64 0]):=
        (Jx.out _ (Cl.out _ (Below.refl _ _).drew _)).mono fun r w4 h=>⟨h.1,((Cl.out _ (Below.refl _ _).drew _)).trans (h.2.mono (by simp)),(Cells.new wr 46 [.int .i64 0,.int .i64 0]).same (h.2.block _ (by simp))⟩
       go_region_held3 (fun V=>V.cell? ⟨g,j*2,none⟩=some (.int .i64 u)/\V.cell? ⟨g,j*2+1,none⟩=some (.int .i64 v))
        (first|exact DT.out _ KA.out|exact DT.out _ HD.out|exact DT.out _ (Cl.out _ HD.out _)|exact DT.out _ Ap.out|exact DT.out _ (Cl.out _ Ap.out _)|exact DT.out _ (Ap.out.setCell (by simp) _)|exact DT.out _ ((Ap.out.setCell (by simp) _).setCell (by simp) _))
        (first|(go_at_call 22;refine JQ.out.mono ?_;rintro rv w4 ⟨rfl,Az,AT⟩;have Ap:=Q0a Az;have z0:=AT.cell 0 _ rfl;have y0:=AT.free 0;have z1:=AT.cell 1 _ rfl;have y1:=AT.free 1;have Ga:=Q0a AT;clear Az AT)|(go_at_call 22;refine (Jx.out _ (by first|exact HD.out|exact Cl.out _ HD.out _)).mono ?_;rintro rv w4 ⟨rfl,Az⟩;have Ap:=Q0a (HD.out.trans (Az.mono HD.out.size));clear Az))
       all_goals (go_wp2_with fail;go_meet;first|exact⟨_,rfl,rfl,Cl.out _ Ap.out _,Ap.out.size,Cells.new _ 46 [.int .i64 pp,.int .i64 qq]⟩|exact⟨_,rfl,rfl,((Ap.out.setCell (by simp) _).setCell (by simp) _),J1L _,((Ga.out.set 0 (.int .i64 pp)).set 1 (.int .i64 qq))⟩)
      obtain⟨B4,rfl,rfl,Az,D6,AT⟩:=hcut;have p0:=AT.cell 0 _ rfl;have p1:=AT.cell 1 _ rfl;have JD:=Q0a (EJ.out.trans (Az.mono EJ.out.size));clear AT D6 Az Jx DT;cases fl with
      | false =>
       clear GD;go_wp2_with fail;go_roundg (lft-(j+1))
       case measure=>have:=ED.out;omega
       case rel=>exact⟨j+1,by go_num,by have:=ED.out;omega,JD.out⟩
      | true =>
       obtain⟨wg,NN⟩:∃wg,wg=wc:=⟨_,rfl⟩
       subst NN;go_upto_region 24 with fail
       go_cut [148] from 139 to 148 (fun bb wc=>bb=.bool false/\wc=wg)
       case first =>
        have Hk:=GD.out rfl;clear JD EJ ED Jf GD;by_cases h:pp=(x:Int)
        ·have h2:¬qq=(sk:Int):=fun e=>Hk ⟨h,e⟩
         subst h;clear Hk;go_wp2_with fail;go_meet;exact⟨rfl,rfl⟩
        ·clear Hk;go_wp2_with fail;go_meet;exact⟨rfl,rfl⟩
       obtain⟨rfl,rfl⟩:=hcut;clear GD;go_wp2_with fail;go_roundg (lft-(j+1))
       case measure=>have:=ED.out;omega
       case rel=>exact⟨j+1,by go_num,by have:=ED.out;omega,JD.out⟩
     ·obtain rfl:j=lft:=by have:=ED.out;omega
      have HX:=Q0a (Jf.out.trans ((F5.out.trans (B3.mono F5.out.size)).mono Jf.out.size));clear B3 Ew;go_wp2_with fail
      first|exact⟨rfl,HX.out⟩|(go_ret;exact⟨rfl,HX.out⟩)
   | false =>
    simp only [J5E,if_false] at IG;have LD:Calls prog 21 #[.pointer (some ⟨Z.s,0,none⟩),.int .u32 x,.int .i64 sk] w6 (Told w6 (.tuple #[.agg #[.int .u32 (en.h:Int),.int .i64 (en.r:Int)],.int .i64 0])):=IG.out w6 (Below.refl _ _);clear IG;go_wp2_with fail;refine LD.mono ?_;rintro r w7 ⟨rfl,DH⟩;have DR:=DH.alloc DH.size (.cells #[.int .u32 (en.h:Int),.int .i64 (en.r:Int)] 35);have M9:=Cells.new w7 35 [.int .u32 (en.h:Int),.int .i64 (en.r:Int)];have GZ:=IQ.out.same (DR.block _ IQ.out.lt);have c0:=GZ.cell 0 _ rfl;have Db:=Nb.out _ DR;have JO:=Q0a DR;have I7:=Q0a M9;have Hl:=Q0a GZ
    clear LD DH DR M9 GZ Nb;go_wp2_with fail;refine Db.mono ?_;rintro r w9 ⟨aL,cL,L,rfl,K1,Hj,Ed⟩;have Fb:=Hl.out.same (Hj.block _ Hl.out.lt);have Jw:=I7.out.same (Hj.block _ I7.out.lt);have d0:=Fb.cell 0 _ rfl;have d1:=Fb.cell 1 _ rfl;have f0:=Jw.cell 0 _ rfl;have f1:=Jw.cell 1 _ rfl;have F5:=Q0a (JO.out.trans (Hj.mono JO.out.size));have CS:=Q0a Ed;have GQ:=Q0a K1;clear Db Hj Ed K1 Fb Jw c0;have N7:=HE;have P3:((lft:Int) != (Hh:Int)-(cnt:Int))=false:=by rw [<- CJ];simp
    go_upto_region 18 with fail
    go_cut [116] from 83 to 116 (fun bb wc=>bb=.bool false/\wc=w9)
    case first =>
     clear CS GQ F5 JO I7 Hl IQ Jf;go_wp2_with fail;go_meet;exact⟨rfl,rfl⟩
    obtain⟨rfl,rfl⟩:=hcut;have EV:(lft:Int)<=65536:=by omega
    clear d0 d1 f0 f1 CJ E8 Ht RQ P3 N7 I7 Hl IQ;go_wp2_with fail
    go_loopg [21] lft (fun gk iv wr=>∃j:Nat,iv=.int .i64 j/\j+gk=lft/\Below wc.heap.size wc wr)
    case atStart=>exact⟨0,rfl,by omega,Below.refl _ _⟩
    case round =>
     obtain⟨j,rfl,Ew,B3⟩:=hrel;have ED:=Q0a Ew;have EJ:=Q0a B3;by_cases Ab:j<lft
     ·obtain⟨z,hz⟩:∃z,L[j]?=some z:=⟨_,J4d (by have:=GQ.out;omega)⟩
      obtain⟨g,u,v,rfl,hu,hv,rfl,hg,Cd,Bo,pp,qq,fl,Aa,Mf⟩:=CS.out j z hz;have DT:Hid (∀V,Below wr.heap.size wr V->V.cell? ⟨g,j*2,none⟩=some (.int .i64 u)/\V.cell? ⟨g,j*2+1,none⟩=some (.int .i64 v)):=fun V hb=>by
       have h1:=(B3.trans (hb.mono B3.size)).block g hg;exact⟨(World.cell?_of_block (w:=wc) h1).trans Cd,(World.cell?_of_block (w:=wc) h1).trans Bo⟩
      have Jx:Hid (∀V,Below wr.heap.size wr V->Calls prog 22 #[.pointer (some ⟨Z.s,0,none⟩),.int .u32 u,.int .i64 v] V (Told V (.tuple #[.agg #[.int .i64 pp,.int .i64 qq],.bool fl]))):=fun V hb=>Mf V (F5.out.trans ((B3.trans (hb.mono B3.size)).mono F5.out.size))
      have OW:IntKind.u32.wrap (u:Int)=(u:Int):=Go.IntWalk.u32_in _ (by omega);have Fq:(0:Int)<=(j:Int):=by omega
      have Ko:(j:Int)<(lft:Int):=by omega
      have SF:(0:Int)<=(u:Int):=by omega
      have Ur:(u:Int)<4294967296:=by omega
      have GD:=Q0a Aa;clear hz hg Cd Bo Mf B3 Ew Aa hu hv;go_upto_region 23 with fail
      go_cut [22,23] from 124 to 138 (fun oo ee wc=>∃B:Nat,oo=.pointer (some ⟨B,0,none⟩)/\ee=.bool fl/\Below wr.heap.size wr wc/\wr.heap.size<=B/\Cells wc B 46 [.int .i64 pp,.int .i64 qq])
      case first =>
       have Cl:Hid (∀V,Below wr.heap.size wr V->∀o,Below wr.heap.size wr (V.alloc o)):=fun V hb o=>hb.alloc hb.size o
       have HD:Hid (Below wr.heap.size wr wr.drew):=(Below.refl _ _).drew;have KA:Hid (Below wr.heap.size wr wr):=Below.refl _ _;clear CS GD F5;have JQ:Hid (Calls prog 22 #[.pointer (some ⟨Z.s,0,none⟩),.int .u32 u,.int .i64 v] (wr.alloc (.cells #[.int .i64 0,.int .i64 0] 46)).drew fun r w4=>r=.returned (.tuple #[.agg #[.int .i64 pp,.int .i64 qq],.bool fl])/\Below wr.heap.size wr w4/\Cells w4 wr.heap.size 46 [.int .i64 0,.int .i64 0]):=
        (Jx.out _ (Cl.out _ (Below.refl _ _).drew _)).mono fun r w4 h=>⟨h.1,((Cl.out _ (Below.refl _ _).drew _)).trans (h.2.mono (by simp)),(Cells.new wr 46 [.int .i64 0,.int .i64 0]).same (h.2.block _ (by simp))⟩
       go_region_held3 (fun V=>V.cell? ⟨g,j*2,none⟩=some (.int .i64 u)/\V.cell? ⟨g,j*2+1,none⟩=some (.int .i64 v))
        (first|exact DT.out _ KA.out|exact DT.out _ HD.out|exact DT.out _ (Cl.out _ HD.out _)|exact DT.out _ Ap.out|exact DT.out _ (Cl.out _ Ap.out _)|exact DT.out _ (Ap.out.setCell (by simp) _)|exact DT.out _ ((Ap.out.setCell (by simp) _).setCell (by simp) _))
        (first|(go_at_call 22;refine JQ.out.mono ?_;rintro rv w4 ⟨rfl,Az,AT⟩;have Ap:=Q0a Az;have z0:=AT.cell 0 _ rfl;have y0:=AT.free 0;have z1:=AT.cell 1 _ rfl;have y1:=AT.free 1;have Ga:=Q0a AT;clear Az AT)|(go_at_call 22;refine (Jx.out _ (by first|exact HD.out|exact Cl.out _ HD.out _)).mono ?_;rintro rv w4 ⟨rfl,Az⟩;have Ap:=Q0a (HD.out.trans (Az.mono HD.out.size));clear Az))
       all_goals (go_wp2_with fail;go_meet;first|exact⟨_,rfl,rfl,Cl.out _ Ap.out _,Ap.out.size,Cells.new _ 46 [.int .i64 pp,.int .i64 qq]⟩|exact⟨_,rfl,rfl,((Ap.out.setCell (by simp) _).setCell (by simp) _),J1L _,((Ga.out.set 0 (.int .i64 pp)).set 1 (.int .i64 qq))⟩)
      obtain⟨B4,rfl,rfl,Az,D6,AT⟩:=hcut;have p0:=AT.cell 0 _ rfl;have p1:=AT.cell 1 _ rfl;have JD:=Q0a (EJ.out.trans (Az.mono EJ.out.size));clear AT D6 Az Jx DT;cases fl with
      | false =>
       clear GD;go_wp2_with fail;go_roundg (lft-(j+1))
       case measure=>have:=ED.out;omega
       case rel=>exact⟨j+1,by go_num,by have:=ED.out;omega,JD.out⟩
      | true =>
       obtain⟨wg,NN⟩:∃wg,wg=wc:=⟨_,rfl⟩
       subst NN;go_upto_region 24 with fail
       go_cut [148] from 139 to 148 (fun bb wc=>bb=.bool false/\wc=wg)
       case first =>
        have Hk:=GD.out rfl;clear JD EJ ED Jf GD;by_cases h:pp=(x:Int)
        ·have h2:¬qq=(sk:Int):=fun e=>Hk ⟨h,e⟩
         subst h;clear Hk;go_wp2_with fail;go_meet;exact⟨rfl,rfl⟩
        ·clear Hk;go_wp2_with fail;go_meet;exact⟨rfl,rfl⟩
       obtain⟨rfl,rfl⟩:=hcut;clear GD;go_wp2_with fail;go_roundg (lft-(j+1))
       case measure=>have:=ED.out;omega
       case rel=>exact⟨j+1,by go_num,by have:=ED.out;omega,JD.out⟩
     ·obtain rfl:j=lft:=by have:=ED.out;omega
      have HX:=Q0a (Jf.out.trans ((F5.out.trans (B3.mono F5.out.size)).mono Jf.out.size));clear B3 Ew;go_wp2_with fail
      first|exact⟨rfl,HX.out⟩|(go_ret;exact⟨rfl,HX.out⟩)
  ·rw [hl] at kl;have Ej:(e==0)=false:=by simpa using Aa
   have Fo:(e != 0)=true:=by simpa using Aa
   have HE:=Q0a he;clear hl he;go_wp2_with fail;refine kl.mono ?_;rintro r w3 ⟨rfl,Ar⟩;have Az:=Ar.alloc Ar.size (.cells #[.int .u32 0,.int .i64 0] 35);have AT:=Cells.new w3 35 [.int .u32 0,.int .i64 0];have kh:=Q1K (IE.out.grown Az).sep Ct.out 0;have Ap:=Q0a Az;have c0:=AT.cell 0 _ rfl;clear Ar Az AT kl;go_wp2_with fail;refine kh.mono ?_;rintro r w5 ⟨v5,rfl,_,AD⟩;have Dt:Hid (Below w2.heap.size w2 w5):=Ap.out.trans (AD.mono Ap.out.size);have kr:=Q2W (IE.out.grown Dt.out).sep Ct.out CD (sk:Int) 15 self;clear AD kh c0 Ap;go_wp2_with fail;refine kr.mono ?_;intro r w6 hr;obtain⟨f,hf,rfl,Di⟩:=Z8Y HE.out hr
   have QA:(f==0)=false:=by simpa using hf
   have HX:Hid (Below w.heap.size w w6):=Ey.out.trans ((Dt.out.trans (Di.mono Dt.out.size)).mono Ey.out.size);clear hr Di kr;go_wp2_with fail
   first|exact⟨rfl,HX.out⟩|(go_ret;exact⟨rfl,HX.out⟩)
def Z6T:List (String×DataW Unit):=[("math/bits.deBruijn32tab", Rows.laid_math_bits_deBruijn32tab),("math/bits.deBruijn64tab", Rows.laid_math_bits_deBruijn64tab),("quartermaster/pool.costs", Rows.laid_quartermaster_pool_costs)]
def J1H:List Int:=[0,1,28,2,29,14,24,3,30,22,20,15,25,17,4,8,31,27,13,23,21,19,16,7,26,12,18,6,11,5,10,9]
theorem g32:prog.globalNamed "math/bits.deBruijn32tab" = some 2:=by kernel_rfl
theorem t32:(prog.globals[2]?).map (·.type)=some 380:=by kernel_rfl
theorem g64:prog.globalNamed "math/bits.deBruijn64tab" = some 1:=by kernel_rfl
theorem J1v:prog.globalNamed "quartermaster/pool.costs" = some 0:=by kernel_rfl
theorem t64:(prog.globals[1]?).map (·.type)=some 356:=by kernel_rfl
theorem J1I:(prog.globals[0]?).map (·.type)=some 258:=by kernel_rfl
theorem Z0X {W:World} (h:laidMetH prog Z6T W):Env W:=by
 rw [MakeChecks.laidMetH_plain _ _ _ (by kernel_rfl)] at h;have h1:laidMet prog (("math/bits.deBruijn32tab", Lib.tabData .u8 J1H)::[("math/bits.deBruijn64tab", Rows.laid_math_bits_deBruijn64tab),("quartermaster/pool.costs", Rows.laid_quartermaster_pool_costs)]) W:=h
 have hA:=Lib.tabIs_of_head g32 t32 underlying380 underlying5 (by kernel_rfl) (by kernel_rfl) h1;have h2:laidMet prog (("math/bits.deBruijn64tab", Lib.tabData .u8 (dbt.map fun (n:Nat)=>(n:Int)))::[("quartermaster/pool.costs", Rows.laid_quartermaster_pool_costs)]) W:=laidMet.tail h1
 have h3:laidMet prog (("quartermaster/pool.costs", Lib.tabData .i64 Z3Z)::[]) W:=laidMet.tail h2
 have hB:=Lib.tabIs_of_head g64 t64 underlying356 underlying5 (by kernel_rfl) (by kernel_rfl) h2;have hC:=Lib.tabIs_of_head J1v J1I underlying258 underlying3 (by kernel_rfl) (by kernel_rfl) h3;have cB:TabB W:=by
  intro j v hv;have hj:=(J2c.1 hv).1;have:=hB.cell g64 j (by simpa using hj);rw [this];congr 2;simp [List.getD,hv]
 have cC:TabC W:=by
  intro j v hv;have hj:=(J2c.1 hv).1;have:=hC.cell J1v j (by simpa using hj);rw [this];congr 2;simp [List.getD,hv]
 refine⟨?_,cB,cC⟩;have c0:=World.block_lt_of_cell? W ⟨1,0,none⟩ (cB 0 0 rfl);have c1:=World.block_lt_of_cell? W ⟨0,0,none⟩ (cC 0 0 rfl);have c2:=World.block_lt_of_cell? W ⟨2,0,none⟩ (hA.cell g32 0 (by decide));have ML:1<W.heap.size:=c0;have Rm:0<W.heap.size:=c1;have Vg:2<W.heap.size:=c2;unfold GB;omega
end Go.Proofs.YtlakjlmaboioiaaGreatDoor
namespace Go.Proofs.YtlakjlmaboioiaaGreatDoor
open Go Go.RowKit Go.ChangeShapes Go.WideShapes Go.Proofs.Tryz
section
variable {H:Type} {enc:TypeId×Value->H} {P:Program} {w:World} {base:Nat} {spare:Nat->Bool} {held:Bool}
theorem Q9Q {t t' t'' t3 t4:TypeId} {args:Array Value} {ds:List (DataW H)} {ps:List MemPlace} (h:DataW.TrodAll enc P w base spare held [t,t',t'',t3,t4] args.toList ds ps) :
  ∃v v' v'' v3 v4 d d' d'' d3 d4 p p' p'' p3 p4,args=#[v,v',v'',v3,v4]/\ds=[d,d',d'',d3,d4]/\ps=p++p'++p''++p3++p4/\DataW.Trod enc P w base spare held t v d p/\DataW.Trod enc P w base spare held t' v' d' p'/\DataW.Trod enc P w base spare held t'' v'' d'' p''/\DataW.Trod enc P w base spare held t3 v3 d3 p3/\DataW.Trod enc P w base spare held t4 v4 d4 p4:=by
 obtain⟨v,vs,d,ds',p,q,Rd,rfl,rfl,hd,Eh⟩:=trodAll_cons h;obtain⟨v',vs',d',ds'',p',q',rfl,rfl,rfl,DK,Kn⟩:=trodAll_cons Eh;obtain⟨v'',vs'',d'',ds''',p'',Vm,rfl,rfl,rfl,P8,Hw⟩:=trodAll_cons Kn;obtain⟨v3,vs3,d3,ds3,p3,q3,rfl,rfl,rfl,NA,Kb⟩:=trodAll_cons Hw;obtain⟨v4,vs4,d4,ds4,p4,q4,rfl,rfl,rfl,QJ,J9⟩:=trodAll_cons Kb;obtain⟨rfl,rfl,rfl⟩:=trodAll_nil J9;exact⟨v,v',v'',v3,v4,d,d',d'',d3,d4,p,p',p'',p3,p4,by cases args;simp_all,rfl,by simp,hd,DK,P8,NA,QJ⟩
theorem Z0Y {t t' t'' t3 t4:TypeId} {v v' v'' v3 v4:Value} {d d' d'' d3 d4:DataW H} {p p' p'' p3 p4:List MemPlace} (h:DataW.Trod enc P w base spare held t v d p) (h':DataW.Trod enc P w base spare held t' v' d' p')
  (RX:DataW.Trod enc P w base spare held t'' v'' d'' p'') (h3:DataW.Trod enc P w base spare held t3 v3 d3 p3) (h4:DataW.Trod enc P w base spare held t4 v4 d4 p4):DataW.TrodAll enc P w base spare held [t,t',t'',t3,t4] [v,v',v'',v3,v4] [d,d',d'',d3,d4] (p++(p'++(p''++(p3++p4)))):=⟨p,p'++(p''++(p3++p4)),h,trodAll_mk4 h' RX h3 h4,rfl⟩
end
end Go.Proofs.YtlakjlmaboioiaaGreatDoor
