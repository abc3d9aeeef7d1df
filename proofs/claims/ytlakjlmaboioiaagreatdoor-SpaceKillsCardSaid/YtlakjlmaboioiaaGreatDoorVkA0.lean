/- SpaceKills returns true at every input. No condition. Part of a proof. -/
import Derived.Shelf.SlSortCmp.WholeK
import Derived.Shelf.SlGeneric
import Derived.Ground.SlsfProg
import Derived.Test.YtlakjlmaboioiaaGreatDoorProg
import Derived.Shelf.SlSortCmp.NoneTotal
import Derived.Test.YtlakjlmaboioiaaGreatDoorVa30
set_option maxHeartbeats 40000000
set_option maxRecDepth 100000
set_option linter.unusedVariables false
namespace Go.Proofs.YtlakjlmaboioiaaGreatDoor
open Go.RowKit Go.Proofs.Tryz
end Go.Proofs.YtlakjlmaboioiaaGreatDoor
namespace Go.Proofs.YtlakjlmaboioiaaGreatDoor
open Go.Shelf Go.Proofs.Tryz
end Go.Proofs.YtlakjlmaboioiaaGreatDoor
namespace Go.Proofs.YtlakjlmaboioiaaGreatDoor
open Go.RowKit Go.Shelf Go.Proofs.Tryz
open Go.Sort (flatK HoldsK putRowK)
end Go.Proofs.YtlakjlmaboioiaaGreatDoor
namespace Go.Proofs.YtlakjlmaboioiaaGreatDoor
open Go.RowKit Go.Proofs.Tryz
section
variable {S D:CO} {w wr:World}
end
theorem Q3S {l:List Pl} (hl:l.length<=256) (s:Nat):(allL l s).Nodup:=(Q4Z hl s).imp fun h e=>by rw [e] at h;omega
theorem Q6Y:∀(L P:List Nat),(∀A x B,L=A++x::B->x∉P++A)->L.Nodup/\∀x∈L,x∉P
 | [],_,_=>⟨J6k,fun x h=>by cases h⟩
 | x::r,P,h=>by
  have hx:x∉P:=fun hm=>h [] x r rfl (by rw [J4n];exact hm)
  obtain⟨h1,h2⟩:=Q6Y r (P++[x]) fun A y B e=>by
   have:=h (x::A) y B (by rw [e];rfl);rw [J3h];exact this
  refine⟨J3d.2 ⟨fun hm=>h2 x hm (by simp),h1⟩,fun y hy=>?_⟩;rcases J2m.1 hy with rfl|hy
  ·exact hx
  ·exact fun hm=>h2 y hy (J3c _ hm)
section
variable {Z Z':SP} {fr:List Nat} {N K:Nat} {M:Int} {h:Nat} {p:Pl}
theorem Q5U (ok:Z.Ok fr N K M) (hp:pget Z.S.l 1 h=some p) (h0:h≠0):(Q0Z Z.S h).Nodup/\∀x∈Q0Z Z.S h,x≠0/\∃q,pget Z.S.l 1 x=some q:=by
 have hr:=Z1d ok.core.inv.tree hp h0;refine⟨(Q6Y _ [] fun A x B e=>?_).1,fun x hx=>?_⟩
 ·obtain⟨_,_,_,h3,_⟩:=hr A x B e
  rwa [J4r]
 ·obtain⟨A,B,e⟩:=J6m hx;obtain⟨q,h1,h2,_⟩:=hr A x B e;exact⟨h2,q,h1⟩
theorem Z7g (ok:Z.Ok fr N K M) (hp:pget Z.S.l 1 h=some p) (h0:h≠0) (I:KillI Z fr N K M (Q0Z Z.S h) Z'):(allL Z'.S.l 1).length+(Q0Z Z.S h).length=(allL Z.S.l 1).length:=by
 obtain⟨nd,hl⟩:=Q5U ok hp h0;have l1:Z.S.l.length<=256:=by rw [ok.core.inv.len];exact J2h _
 have l2:Z'.S.l.length<=256:=by rw [I.ok.core.inv.len];exact J2h _
 have:=Q5q (A:=allL Z'.S.l 1++Q0Z Z.S h) (B:=allL Z.S.l 1) (J3a.2 ⟨Q3S l2 1,nd,fun a ha b hb e=>by
  subst e;obtain⟨q,hq⟩:=(Q1t l2).1 ha;rw [I.live a,if_pos hb] at hq;cases hq⟩) (Q3S l1 1) fun x=>by
  rw [J2V,Q1t l2,Q1t l1,I.live x];by_cases hx:x∈Q0Z Z.S h
  ·simp only [hx,or_true,true_iff];exact (hl x hx).2
  ·simp [hx]
 rw [J2R] at this;exact this
theorem Z7h (ok:Z.Ok fr N K M) (hp:pget Z.S.l 1 h=some p) (h0:h≠0) (I:KillI Z fr N K M (Q0Z Z.S h) Z'):(allL Z'.S.l 2).length=(allL Z.S.l 2).length+(Q0Z Z.S h).length:=by
 obtain⟨nd,hl⟩:=Q5U ok hp h0;have l1:Z.S.l.length<=256:=by rw [ok.core.inv.len];exact J2h _
 have l2:Z'.S.l.length<=256:=by rw [I.ok.core.inv.len];exact J2h _
 have:=Q5q (A:=allL Z'.S.l 2) (B:=allL Z.S.l 2++Q0Z Z.S h) (Q3S l2 2) (J3a.2 ⟨Q3S l1 2,nd,fun a ha b hb e=>by
  subst e;obtain⟨q,hq⟩:=(Q1t l1).1 ha;obtain⟨q',C6⟩:=(hl a hb).2;obtain⟨a1,_,a3⟩:=pget_some.1 hq;obtain⟨b1,_,b3⟩:=pget_some.1 C6;rw [a1] at b1;cases b1;omega⟩) fun x=>by
  rw [J2V,Q1t l2,Q1t l1,I.zomb x];by_cases hx:x∈Q0Z Z.S h
  ·simp only [hx,or_true,iff_true,if_true];obtain⟨q,hq⟩:=(hl x hx).2;rw [hq];exact⟨_,rfl⟩
  ·simp [hx]
 rw [J2R] at this;exact this
theorem Z7i (ok:Z.Ok fr N K M) (hp:pget Z.S.l 1 h=some p) (h0:h≠0) (Kf:Z.S.period=2) (I:KillI Z fr N K M (Q0Z Z.S h) Z') {x:Nat} (hx:x∈Q0Z Z.S h):Q5D Z'.S.ts Z'.S.now x=2:=by
 obtain⟨nd,hl⟩:=Q5U ok hp h0;unfold Q5D;rw [I.ts,List.find?_append,I.now,Kf];have hn:Z.S.ts.find? (fun t=>t.1==x)=none:=by
  rw [J4a];intro t ht he;have hm:x∈Z.S.ts.map Prod.fst:=J2n.2 ⟨t,ht,by simpa using he⟩;obtain⟨q,hq⟩:=(ok.core.inv.que.has x).1 hm;obtain⟨q',C6⟩:=(hl x hx).2;obtain⟨a1,_,a3⟩:=pget_some.1 hq;obtain⟨b1,_,b3⟩:=pget_some.1 C6;rw [a1] at b1;cases b1;omega
 rw [hn,Option.none_or];cases hf:((Q0Z Z.S h).map fun y=>(y,Z.S.now+2)).find? (fun t=>t.1==x) with
 | none =>
  rw [J4a] at hf;exact absurd (by simp) (hf (x,Z.S.now+2) (J2n.2 ⟨x,hx,rfl⟩))
 | some t =>
  obtain⟨y,_,rfl⟩:=J2n.1 (J6t hf);simp only;omega
theorem Z7j (I:KillI Z fr N K M (Q0Z Z.S h) Z') {x:Nat} (hx:x∈Q0Z Z.S h):Q2J Z'.S.l Z'.tb x=[]:=by
 refine J6h.2 fun q hq=>?_
 obtain⟨u,v,r,_,AP⟩:=(Z0h I.ok).1 hq;exact (I.out x hx).2 u v _ AP rfl
theorem Z4g (I:KillI Z fr N K M (Q0Z Z.S h) Z') {x:Nat} (hx:x∈Q0Z Z.S h):Q0n Z'.S.l Z'.tb x=[]:=by
 unfold Q0n;rw [I.live x,if_pos hx]
theorem Z7k (S:CO) (h:Nat):(Q0Z S h).length=(Q0w S.l S.P.q.next.toNat h).length+1/\(Q0Z S h)[(Q0w S.l S.P.q.next.toNat h).length]?=some h/\∀i,i<(Q0w S.l S.P.q.next.toNat h).length->(Q0Z S h)[i]?=(Q0w S.l S.P.q.next.toNat h)[i]?:=by
 unfold Q0Z;refine⟨by simp,by rw [J5v (J2h _)];simp,fun i hi=>?_⟩;rw [J5u hi]
theorem Z7l {w:World} (hs:Sep w Z.hl) (ok:Z.Ok fr N K M) {y:Nat} {z:Int} (hz:z∈Q0n Z.S.l Z.tb y) :
  y<4294967296/\0<=z/\z<256/\∃(h r a b c u v:Nat) (fl:Bool) (g1 g2 g3 ge:Int),u<4294967296/\(fl=true->ge=0) /\
   (∀W,Below w.heap.size w W->Calls prog 21 #[.pointer (some ⟨Z.s,0,none⟩),.int .u32 y,.int .i64 z] W (Told W (.tuple #[.agg #[.int .u32 h,.int .i64 r],.int .i64 0]))) /\
   (∀W,Below w.heap.size w W->Calls prog 30 #[.pointer (some ⟨Z.S.c,0,none⟩),.int .u32 h,.int .i64 0] W (Told W (.tuple #[.agg #[.int .i64 a,.int .i64 b,.int .i64 c],.int .i64 0]))) /\
   (∀W,Below w.heap.size w W->Calls prog 22 #[.pointer (some ⟨Z.s,0,none⟩),.int .u32 y,.int .i64 z] W (Told W (.tuple #[.agg #[.int .i64 u,.int .i64 v],.bool fl]))) /\
   (∀W,Below w.heap.size w W->Calls prog 30 #[.pointer (some ⟨Z.S.c,0,none⟩),.int .u32 u,.int .i64 2] W (Told W (.tuple #[.agg #[.int .i64 g1,.int .i64 g2,.int .i64 g3],.int .i64 ge]))):=by
 obtain⟨s,rfl,A9,e,he⟩:=mem_slotsL.1 hz;obtain⟨p,hp,hk,_,_⟩:=Q1C he;have A4:=ok.core.inv.lok;have hy:=Q4r A4 hp;obtain⟨⟨q,hq,LK⟩,hr⟩:=ok.fpi.cap y s e he;have kl:∀W,Below w.heap.size w W->Calls prog 21 #[.pointer (some ⟨Z.s,0,none⟩),.int .u32 y,.int .i64 s] W (Told W (.tuple #[.agg #[.int .u32 (e.h:Int),.int .i64 (e.r:Int)],.int .i64 0])):=fun W hb=>by
  have:=Q6F (hs.grown hb).sep ok hy (s:Int)
  rwa [Z7e he] at this
 have ko:∀W,Below w.heap.size w W->Calls prog 30 #[.pointer (some ⟨Z.S.c,0,none⟩),.int .u32 (e.h:Int),.int .i64 0] W (Told W (.tuple #[.agg #[.int .i64 (q.kind:Int),.int .i64 (q.at_:Int),.int .i64 (q.fac:Int)],.int .i64 0])):=fun W hb=>Q1F (SP.sS (hs.grown hb).sep) A4 (Q4r A4 hq) 0 hq (.inl rfl)
 have CJ:∀W,Below w.heap.size w W->Calls prog 22 #[.pointer (some ⟨Z.s,0,none⟩),.int .u32 y,.int .i64 s] W (Told W (Z3Y Z.F.N (y:Int) (s:Int))):=fun W hb=>Z0f (hs.grown hb).sep ok.fo hy A9
 unfold Z3Y at CJ;rcases Z7f ok he with hn|⟨a,b,e',hf,ha,AL,_⟩
 ·rw [hn] at CJ;have k0:∃(g1 g2 g3 ge:Int),∀W,Below w.heap.size w W->Calls prog 30 #[.pointer (some ⟨Z.S.c,0,none⟩),.int .u32 ((0:Nat):Int),.int .i64 2] W (Told W (.tuple #[.agg #[.int .i64 g1,.int .i64 g2,.int .i64 g3],.int .i64 ge])):=by
   cases h0:pget Z.S.l 1 0 with
   | none=>exact⟨_,_,_,_,fun W hb=>Q3G (SP.sS (hs.grown hb).sep) A4 (by omega) 2 h0⟩
   | some r =>
    by_cases A2:(r.kind:Int)=2
    ·exact⟨_,_,_,_,fun W hb=>Q1F (SP.sS (hs.grown hb).sep) A4 (by omega) 2 h0 (.inr A2)⟩
    ·exact⟨_,_,_,_,fun W hb=>Q2E (SP.sS (hs.grown hb).sep) A4 (by omega) 2 h0 (by decide) A2⟩
  obtain⟨g1,g2,g3,ge,hg⟩:=k0;exact⟨hy,by omega,by omega,e.h,e.r,q.kind,q.at_,q.fac,0,0,false,g1,g2,g3,ge,by omega,(fun h=>by cases h),kl,ko,CJ,hg⟩
 ·rw [hf] at CJ;obtain⟨pa,Wm,WB,_,_⟩:=Q1C AL;exact⟨hy,by omega,by omega,e.h,e.r,q.kind,q.at_,q.fac,a,b,true,_,_,_,0,ha,fun _=>rfl,kl,ko,CJ,fun W hb=>Q1F (SP.sS (hs.grown hb).sep) A4 ha 2 Wm (.inr (by omega))⟩
end
theorem Q7e {w:World} (C3:Env w) (m:Nat) (hm:m<65536) (a0:Option Addr) (len cap:Nat) (A:Nat->A17) (hA:IsA17 w a0 len A) (nk:Nat) (Fv:nk<256) :
  Calls prog 9 #[.int .u16 m,.slice a0 len cap,.int .u8 nk] w (Told w (.bool true)):=by
 have ka:=Q6T C3;obtain⟨G6,Ej,KD,Ki⟩:=Z0k (m:=m);generalize (64+m%65473:Nat)=lm at *
 have Hb:Hid (∀W,Below w.heap.size w W->Calls prog 26 #[.slice a0 len cap] W fun r w'=>r=.returned (.bool (fewV A len))/\W=w'):=fun W hb=>Z7d W a0 len cap A (hA.below hb)
 have Fc:Hid (fewV A len=true->∀W,Below w.heap.size w W->Calls prog 27 #[.int .i64 lm,.slice a0 len cap] W fun r w'=>∃s,r=.returned (.pointer (some ⟨s,0,none⟩))/\AtB s 61 60 15360 W w'):=fun hf W hb=>by
  unfold fewV at hf;have hf:=of_decide_eq_true hf;exact Z0j (C3.below hb) _ (by omega) (by omega) a0 len cap A hf.1 (hA.below hb) hf.2
 have Sc:Hid (Below w.heap.size w w):=Below.refl _ _;have KE:=Q0a G6;have Hq:=Q0a Ej;clear hA C3 G6 Ej KD Ki;have F1:(0:Int)<=(m:Int):=by omega
 have D2:(m:Int)<65536:=by omega
 go_enter func9,ntmps9;go_wp2_with fail;refine ka.mono ?_;rintro r w0 ⟨rfl,Bz⟩;have DX:=Q0a Bz;have kf:=Hb.out w0 Bz;clear Bz ka Hb;go_wp2_with fail;refine kf.mono ?_;rintro r w0' ⟨rfl,rfl⟩;clear kf;generalize fewV A len=fv at *
 cases fv with
 | false =>
  clear Fc;go_wp2_with fail
  first|exact⟨rfl,DX.out⟩|(go_ret;exact⟨rfl,DX.out⟩)
 | true =>
  have kb:=Fc.out rfl w0 DX.out;clear Fc;go_wp2_with fail
  first|rw [Hq.out]|rw [KE.out]
  refine kb.mono ?_;rintro r w1 ⟨s,rfl,Z,fr,rfl,ok,bz,st⟩;have ED:=Q0a st.sep;have Bq:=Q0a st;have Ct:=Q0a ok;have Mk:=Q0a bz.per;have DK:=Q0a ok.core.inv.lok;have ko:=Q2r st.sep;have kx:=Q8D st.sep ok 0 (nk:Int) ⟨by omega,by omega⟩;have C9:=Q8C ok.core.inv.lok 0 (nk:Int);have GG:=Q7U (l:=Z.S.l) (k:=0) (n:=(nk:Int));have Bu:∃p,pget Z.S.l 1 0=some p:=⟨_,bz.root⟩
  have K9:=Q5T ok.core.inv.len;have Tx:(allL Z.S.l 2).length<=256:=by
   have:=Q1Y Z.S.l 2 Z.S.l.length;unfold allL;rw [ok.core.inv.len] at this ⊢;exact this
  have UD:(0:Int)<=(nk:Int):=by omega
  have UT:(nk:Int)<256:=by omega
  clear st ok bz kb;go_wp2_with fail;refine ko.mono ?_;rintro r w' ⟨rfl,rfl⟩;clear ko;go_wp2_with fail;refine kx.mono ?_;rintro r w2 ⟨rfl,Af⟩;clear kx;generalize nthV Z.S.l 0 (nk:Int)=x at *
  have ST:∃p,pget Z.S.l 1 x=some p:=by
   rcases GG with h|⟨p,hp,_⟩
   ·rw [h];exact Bu
   ·exact⟨p,hp⟩
  have QV:=Q0a ST;have kl:=Q2F (SP.sS (ED.out.grown Af).sep) DK.out;have Ee:=Q0a Af;clear Af GG Bu ST;go_wp2_with fail;refine kl.mono ?_;intro r w3 Lq;obtain⟨a3,c3,rfl,As,-⟩:=Lq.shape;have D8:=Q0a (Ee.out.trans (As.mono Ee.out.size));have R3:=Q0a (ED.out.grown D8.out).sep;clear Lq As kl Ee;have ku:=Q7y (SP.sS (ED.out.grown D8.out).sep) Ct.out.core C9;go_wp2_with fail;refine ku.mono ?_;intro r w4 K4;obtain⟨aU,cU,rfl,A5,hU⟩:=K4.shape;have Ao:=Q0a (D8.out.trans (A5.mono D8.out.size));have HU:=Q0a hU;clear K4 A5 ku D8 hU;have kz:=Q5y (SP.sS (ED.out.grown Ao.out).sep) DK.out
  go_wp2_with fail;refine kz.mono ?_;intro r w5 Tw;obtain⟨a5,c5,rfl,AH,-⟩:=Tw.shape;have Pa:=Q0a (HU.out.below AH);have EU:=Q0a (Ao.out.trans (AH.mono Ao.out.size));clear Tw AH kz Ao HU;have kk:=Q6L (ED.out.grown EU.out).sep Ct.out (by omega) C9;have IV:=Q0a (Bq.out.trans (ED.out.grown EU.out));have SY:=Q0a (ED.out.grown EU.out).sep;clear ED Bq;go_wp2_with fail;refine kk.mono ?_;rintro r w6 (⟨Ar,_,_⟩|⟨hz,rfl,CC⟩|⟨h0,_,aG,cG,rfl,Z',I,st6,hG⟩)
  ·exfalso;obtain⟨p,hp⟩:=QV.out;rw [hp] at Ar;cases Ar
  ·subst hz;have kl:=Q2F (SP.sS (SY.out.grown CC).sep) DK.out;have Gy:=Q0a CC;clear CC kk Pa;go_wp2_with fail;refine kl.mono ?_;intro r w7 SF;obtain⟨a7,c7,rfl,CT,-⟩:=SF.shape;have HX:Hid (Below w.heap.size w w7):=DX.out.trans ((IV.out.fresh.trans ((Gy.out.trans (CT.mono Gy.out.size)).mono IV.out.fresh.size)).mono DX.out.size);clear SF CT kl Gy;go_wp2_with fail
   first|exact⟨rfl,HX.out⟩|(go_ret;exact⟨rfl,HX.out⟩)
  ·obtain⟨p,hp⟩:=QV.out;have N5:=IV.out.trans st6;obtain⟨k1,k2,k3⟩:=Z7k Z.S x;have V6:=Z7g Ct.out hp h0 I;have VZ:=Z7h Ct.out hp h0 I;obtain⟨US,CI⟩:=Q5U Ct.out hp h0;have Qf:∀y∈Q0Z Z.S x,y<4294967296:=fun y hy=>by
    obtain⟨_,q,hq⟩:=CI y hy;exact Q4r DK.out hq
   have GP:∀(j y:Nat),(Q0w Z.S.l Z.S.P.q.next.toNat x)[j]?=some y->∃g,aU=some ⟨g,0,none⟩/\g<w6.heap.size/\w6.cell? ⟨g,j,none⟩=some (.int .u32 y):=fun j y hj=>by
    obtain⟨g,e,Cz,B8,hc⟩:=Pa.out.at' j y hj;exact⟨g,e,J2j B8 st6.chg.size,(World.cell?_of_block (w:=w5) (st6.keep R3.out (J2h _) g Cz B8)).trans hc⟩
   have TD:∀(j y:Nat),(Q0Z Z.S x)[j]?=some y->∃g,aG=some ⟨g,0,none⟩/\g<w6.heap.size/\w6.cell? ⟨g,j,none⟩=some (.int .u32 y):=fun j y hj=>by
    obtain⟨g,e,_,hg,hc⟩:=hG j y hj;exact⟨g,e,hg,hc⟩
   have Ho:=st6.sep;have ok6:=I.ok;have A6:=I.c;have FU:=I.s;have Ot:Hid (∀W,Below w6.heap.size w6 W->Calls prog 32 #[.pointer (some ⟨Z.S.c,0,none⟩)] W fun r w'=>∃(a:Option Addr) (cap:Nat),r=.returned (.slice a (allL Z'.S.l 1).length cap)/\Below W.heap.size W w'):=fun W hb=>by
    have:=Q2F (SP.sS (Ho.grown hb).sep) ok6.core.inv.lok;rw [A6] at this;exact this.mono fun r w' h=>by
     obtain⟨a,cap,e,Al,_⟩:=h.shape;exact⟨a,cap,e,Al⟩
   have Tu:Hid (∀W,Below w6.heap.size w6 W->Calls prog 34 #[.pointer (some ⟨Z.S.c,0,none⟩)] W fun r w'=>∃(a:Option Addr) (cap:Nat),r=.returned (.slice a (allL Z'.S.l 2).length cap)/\Below W.heap.size W w'):=fun W hb=>by
    have:=Q5y (SP.sS (Ho.grown hb).sep) ok6.core.inv.lok;rw [A6] at this;exact this.mono fun r w' h=>by
     obtain⟨a,cap,e,Al,_⟩:=h.shape;exact⟨a,cap,e,Al⟩
   have Pk:Hid (∀y∈Q0Z Z.S x,∀W,Below w6.heap.size w6 W->Calls prog 23 #[.pointer (some ⟨Z.s,0,none⟩),.int .u32 y] W fun r w'=>∃(a:Option Addr) (cap:Nat),r=.returned (.slice a 0 cap)/\Below W.heap.size W w'):=fun y hy W hb=>by
    have:=Q3t (Ho.grown hb).sep ok6 y;rw [FU,Z7j I hy] at this;exact this.mono fun r w' ⟨v,e,Az,Al⟩=>by
     obtain⟨a,cap,e2,_⟩:=Q5S Az;exact⟨a,cap,by rw [e,e2];rfl,Al⟩
   have Jm:Hid (∀y∈Q0Z Z.S x,∀W,Below w6.heap.size w6 W->Calls prog 25 #[.pointer (some ⟨Z.s,0,none⟩),.int .u32 y] W fun r w'=>∃(a:Option Addr) (cap:Nat),r=.returned (.slice a 0 cap)/\Below W.heap.size W w'):=fun y hy W hb=>by
    have:=Q3N (Ho.grown hb).sep ok6 (Qf y hy);rw [FU,Z4g I hy] at this;exact this.mono fun r w' h=>by
     obtain⟨a,cap,e,Al,_⟩:=h.from'
     exact⟨a,cap,e,Al⟩
   have PY:Hid (∀y∈Q0Z Z.S x,∀W,Below w6.heap.size w6 W->Calls prog 36 #[.pointer (some ⟨Z.S.c,0,none⟩),.int .u32 y] W (Told W (.int .i64 2))):=fun y hy W hb=>by
    have:=Z5V (SP.sS (Ho.grown hb).sep) ok6.core (by omega) (Qf y hy);rw [A6,Z7i Ct.out hp h0 Mk.out I hy] at this;exact this
   have Qd:Hid (∀W,Below w6.heap.size w6 W->Calls prog 28 #[.pointer (some ⟨Z.s,0,none⟩)] W (NewHs W (Q1h Z'.S.l 2 (allL Z'.S.l 1)))):=fun W hb=>by
    have:=Z6Y (Ho.grown hb).sep ok6
    rwa [FU] at this
   have Nn:Hid (∀W,Below w6.heap.size w6 W->∀y:Nat,y<4294967296->Calls prog 25 #[.pointer (some ⟨Z.s,0,none⟩),.int .u32 y] W (NewIs W (Q0n Z'.S.l Z'.tb y))):=fun W hb y hy=>by
    have:=Q3N (Ho.grown hb).sep ok6 hy
    rwa [FU] at this
   have Gq:Hid (∀(y:Nat) (z:Int),z∈Q0n Z'.S.l Z'.tb y->_):=fun y z hz=>Z7l (y:=y) Ho ok6 hz
   rw [FU,A6] at Gq;have Hl:Hid ((Q1h Z'.S.l 2 (allL Z'.S.l 1)).length<=256):=J2i (Q4W _ _ _) (Q5T ok6.core.inv.len);have FJ:Hid (∀y∈Q1h Z'.S.l 2 (allL Z'.S.l 1),y<4294967296):=fun y hy=>by
    unfold Q1h at hy;obtain⟨q,hq⟩:=isK_iff.1 (J2B.1 hy).2;exact Q4r ok6.core.inv.lok hq.1
   have IS:Hid (∀y,(Q0n Z'.S.l Z'.tb y).length<=256):=fun y=>Q2X _ _ _
   have Sb:Hid (Below w.heap.size w w6):=DX.out.trans (N5.fresh.mono DX.out.size);have P9:=Q0a GP;have OA:=Q0a TD;have Pz:=Q0a k3;have Il:=Q0a k2;have QN:((allL Z'.S.l 1).length:Int)=((allL Z.S.l 1).length:Int)-((Q0Z Z.S x).length:Int):=by omega
   have QC:((allL Z'.S.l 2).length:Int)=((allL Z.S.l 2).length:Int)+((Q0Z Z.S x).length:Int):=by omega
   have Ph:((Q0Z Z.S x).length:Int)=((Q0w Z.S.l Z.S.P.q.next.toNat x).length:Int)+1:=by omega
   have Q4:((Q0w Z.S.l Z.S.P.q.next.toNat x).length:Int)<=256:=by omega
   have Cj:x≠0:=h0;have Vq:((x:Int)==0)=false:=by simp;omega
   clear GP TD Ho ok6 A6 FU V6 VZ US CI Qf N5 I st6 hG kk k1 k2 k3 hp h0 Mk Ct DK IV SY R3 Pa QV;generalize Q0Z Z.S x=G at *
   generalize Q0w Z.S.l Z.S.P.q.next.toNat x=U at *
   generalize (allL Z'.S.l 1).length=lv' at *
   generalize (allL Z.S.l 1).length=lv at *
   generalize (allL Z'.S.l 2).length=zb' at *
   generalize (allL Z.S.l 2).length=zb at *
   generalize Q0n Z'.S.l Z'.tb=SLF at *
   generalize Q1h Z'.S.l 2 (allL Z'.S.l 1)=T at *
   obtain⟨gG,rfl,WC,AR⟩:=OA.out _ _ Il.out;have Sh:=Ot.out w6 (Below.refl _ _);clear Ot;go_wp2_with fail;refine Sh.mono ?_;rintro rv w7 ⟨a7,c7,rfl,CT⟩;have RB:=Tu.out w7 CT;have F8:=Q0a CT;clear Sh CT Tu AR;go_wp2_with fail;refine RB.mono ?_;rintro rv w8 ⟨a8,c8,rfl,Fo⟩;have Tz:=Q0a (F8.out.trans (Fo.mono F8.out.size));clear RB Fo F8;go_upto_region 16 with fail;have VW:Hid ((G.length:Int)<=257):=by refine Q0a ?_;omega
   clear QN QC Ph;go_wp2_with fail
   go_loopg [15] G.length (fun gk iv wr=>∃j:Nat,iv=.int .i64 j/\j+gk=G.length/\Below w6.heap.size w6 wr)
   case atStart=>exact⟨0,rfl,by omega,Tz.out⟩
   case round =>
    obtain⟨j,rfl,Gg,B3⟩:=hrel;have KI:=Q0a Gg;have EY:=Q0a B3;clear Gg;by_cases Ab:j<G.length
    ·obtain⟨y,hy⟩:∃y,G[j]?=some y:=⟨_,J4y Ab⟩
     have Aw:=J4v hy;obtain⟨g,e,hg,LE⟩:=OA.out j y hy;cases e;have Kw:Hid (∀V,Below wr.heap.size wr V->Calls prog 23 #[.pointer (some ⟨Z.s,0,none⟩),.int .u32 y] V fun r w'=>∃(a:Option Addr) (cap:Nat),r=.returned (.slice a 0 cap)/\Below V.heap.size V w'):=fun V hb=>Pk.out y Aw V (B3.trans (hb.mono B3.size))
     have PX:Hid (∀V,Below wr.heap.size wr V->Calls prog 25 #[.pointer (some ⟨Z.s,0,none⟩),.int .u32 y] V fun r w'=>∃(a:Option Addr) (cap:Nat),r=.returned (.slice a 0 cap)/\Below V.heap.size V w'):=fun V hb=>Jm.out y Aw V (B3.trans (hb.mono B3.size))
     have KV:Hid (∀V,Below wr.heap.size wr V->Calls prog 36 #[.pointer (some ⟨Z.S.c,0,none⟩),.int .u32 y] V (Told V (.int .i64 2))):=fun V hb=>PY.out y Aw V (B3.trans (hb.mono B3.size))
     have KW:Hid (∀V,Below wr.heap.size wr V->V.cell? ⟨gG,j,none⟩=some (.int .u32 y)):=fun V hb=>(World.cell?_of_block (w:=w6) ((B3.trans (hb.mono B3.size)).block gG hg)).trans LE
     have NO:Hid (j<U.length->∃gU,aU=some ⟨gU,0,none⟩/\∀V,Below wr.heap.size wr V->V.cell? ⟨gU,j,none⟩=some (.int .u32 y)):=fun N0=>by
      have h1:=Pz.out j N0;rw [hy] at h1;obtain⟨gU,e,Vm,NZ⟩:=P9.out j y h1.symm;exact⟨gU,e,fun V hb=>(World.cell?_of_block (w:=w6) ((B3.trans (hb.mono B3.size)).block gU Vm)).trans NZ⟩
     have G0:(0:Int)<=(j:Int):=by omega
     have Lx:(j:Int)<(G.length:Int):=by omega
     have F6:(j:Int)<258:=by have:=VW.out;omega
     have AG:Hid (Below wr.heap.size wr wr.drew):=(Below.refl _ _).drew;have Ns:Hid (Below wr.heap.size wr wr):=Below.refl _ _;clear hy Aw hg LE B3;go_upto_region 19 with fail
     go_cut [167] from 124 to 167 (fun bb wc=>bb=.bool false/\Below wr.heap.size wr wc)
     case first =>
      clear Pk Jm PY Qd Nn Gq FJ OA P9 Pz Il;by_cases N0:j<U.length
      ·obtain⟨gU,rfl,NZ⟩:=NO.out N0;have K2:(j:Int)<(U.length:Int):=by omega
       have U0:decide ((j:Int)<(U.length:Int))=true:=decide_eq_true K2;have Qp:decide (j<U.length)=true:=decide_eq_true N0;have HC:Hid (∀V,Below wr.heap.size wr V->V.cell? ⟨gG,j,none⟩=some (.int .u32 y)/\V.cell? ⟨gU,j,none⟩=some (.int .u32 y)):=fun V hb=>⟨KW.out V hb,NZ V hb⟩
       clear NZ NO KW
       go_region_held3 (fun V=>V.cell? ⟨gG,j,none⟩=some (.int .u32 y)/\V.cell? ⟨gU,j,none⟩=some (.int .u32 y))
        (first|exact HC.out _ AG.out|exact HC.out _ Ns.out)
        (first|(go_at_call 23;refine (Kw.out _ AG.out).mono ?_;rintro rv w' ⟨a,cp,rfl,hb⟩;have AG:=Q0a (AG.out.trans (hb.mono AG.out.size));clear hb)|(go_at_call 25;refine (PX.out _ AG.out).mono ?_;rintro rv w' ⟨a,cp,rfl,hb⟩;have AG:=Q0a (AG.out.trans (hb.mono AG.out.size));clear hb)|(go_at_call 36;refine (KV.out _ AG.out).mono ?_;rintro rv w' ⟨rfl,hb⟩;have AG:=Q0a (AG.out.trans (hb.mono AG.out.size));clear hb))
       all_goals (go_wp2_with fail;go_meet;exact⟨rfl,AG.out⟩)
      ·have K2:¬(j:Int)<(U.length:Int):=by omega
       have U0:decide ((j:Int)<(U.length:Int))=false:=decide_eq_false K2;have Qp:decide (j<U.length)=false:=decide_eq_false N0;clear NO;refine wp_region_noPanic ?_;refine wp_region_held_drew (S:=fun V=>V.cell? ⟨gG,j,none⟩=some (.int .u32 y)) (by kernel_rfl) (KW.out _ AG.out) (fun hHeld=>?_);refine' wpAnyH_take (i:=0) (v:=_) rfl (by kernel_rfl) (by kernel_rfl) (by kernel_rfl) (fun _ _ _ h=>h) (.inl ⟨by rfl,?_⟩) hHeld ?_
       rotate_left
       ·(intro w AO;(try dsimp only at AO);go_simp;try with_reducible rfl)
       try simp only [Act.put,List.getElem_toArray,List.getElem_cons_zero,List.getElem_cons_succ,List.setIfInBounds_toArray,J4S,J4R]
       refine' wpAnyH_take (i:=1) (v:=_) rfl (by kernel_rfl) (by kernel_rfl) (by kernel_rfl) (fun _ _ _ h=>h) (.inl ⟨by rfl,?_⟩) hHeld ?_
       rotate_left
       ·(intro w AO;(try dsimp only at AO);go_simp;try with_reducible rfl)
       try simp only [Act.put,List.getElem_toArray,List.getElem_cons_zero,List.getElem_cons_succ,List.setIfInBounds_toArray,J4S,J4R]
       refine' wpAnyH_take (i:=2) (v:=_) rfl (by kernel_rfl) (by kernel_rfl) (by kernel_rfl) (fun _ _ _ h=>h) (.inl ⟨by rfl,?_⟩) hHeld ?_
       rotate_left
       ·(intro w AO;(try dsimp only at AO);go_simp;try with_reducible rfl)
       try simp only [Act.put,List.getElem_toArray,List.getElem_cons_zero,List.getElem_cons_succ,List.setIfInBounds_toArray,J4S,J4R]
       refine' wpAnyH_take (i:=3) (v:=_) rfl (by kernel_rfl) (by kernel_rfl) (by kernel_rfl) (fun _ _ _ h=>h) (.inl ⟨by rfl,?_⟩) hHeld ?_
       rotate_left
       ·(intro w AO;(try dsimp only at AO);go_simp;try with_reducible rfl)
       try simp only [Act.put,List.getElem_toArray,List.getElem_cons_zero,List.getElem_cons_succ,List.setIfInBounds_toArray,J4S,J4R]
       refine' wpAnyH_take (i:=4) (v:=_) rfl (by kernel_rfl) (by kernel_rfl) (by kernel_rfl) (fun _ _ _ h=>h) (.inl ⟨by rfl,?_⟩) hHeld ?_
       rotate_left
       ·(intro w AO;(try dsimp only at AO);go_simp;try with_reducible rfl)
       try simp only [Act.put,List.getElem_toArray,List.getElem_cons_zero,List.getElem_cons_succ,List.setIfInBounds_toArray,J4S,J4R]
       refine wpAnyH_take (i:=5) rfl (by kernel_rfl) (by kernel_rfl) (by kernel_rfl) (fun _ _ _ h=>h) (.inr ⟨by rfl,rfl⟩) hHeld ?_
       try simp only [Act.put,List.getElem_toArray,List.getElem_cons_zero,List.getElem_cons_succ,List.setIfInBounds_toArray,J4S,J4R]
       refine wpAnyH_take (i:=6) rfl (by kernel_rfl) (by kernel_rfl) (by kernel_rfl) (fun _ _ _ h=>h) (.inr ⟨by rfl,rfl⟩) hHeld ?_
       try simp only [Act.put,List.getElem_toArray,List.getElem_cons_zero,List.getElem_cons_succ,List.setIfInBounds_toArray,J4S,J4R]
       refine wpAnyH_take (i:=7) rfl (by kernel_rfl) (by kernel_rfl) (by kernel_rfl) (fun _ _ _ h=>h) (.inr ⟨by rfl,rfl⟩) hHeld ?_
       try simp only [Act.put,List.getElem_toArray,List.getElem_cons_zero,List.getElem_cons_succ,List.setIfInBounds_toArray,J4S,J4R]
       refine wpAnyH_take (i:=8) rfl (by kernel_rfl) (by kernel_rfl) (by kernel_rfl) (fun _ _ _ h=>h) (.inr ⟨by rfl,rfl⟩) hHeld ?_
       try simp only [Act.put,List.getElem_toArray,List.getElem_cons_zero,List.getElem_cons_succ,List.setIfInBounds_toArray,J4S,J4R]
       refine wpAnyH_take (i:=9) rfl (by kernel_rfl) (by kernel_rfl) (by kernel_rfl) (fun _ _ _ h=>h) (.inr ⟨by rfl,rfl⟩) hHeld ?_
       try simp only [Act.put,List.getElem_toArray,List.getElem_cons_zero,List.getElem_cons_succ,List.setIfInBounds_toArray,J4S,J4R]
       refine wpAnyH_take (i:=10) rfl (by kernel_rfl) (by kernel_rfl) (by kernel_rfl) (fun _ _ _ h=>h) (.inr ⟨by rfl,rfl⟩) hHeld ?_
       try simp only [Act.put,List.getElem_toArray,List.getElem_cons_zero,List.getElem_cons_succ,List.setIfInBounds_toArray,J4S,J4R]
       refine wpAnyH_take (i:=11) rfl (by kernel_rfl) (by kernel_rfl) (by kernel_rfl) (fun _ _ _ h=>h) (.inr ⟨by rfl,rfl⟩) hHeld ?_
       try simp only [Act.put,List.getElem_toArray,List.getElem_cons_zero,List.getElem_cons_succ,List.setIfInBounds_toArray,J4S,J4R]
       refine wpAnyH_take (i:=12) rfl (by kernel_rfl) (by kernel_rfl) (by kernel_rfl) (fun _ _ _ h=>h) (.inr ⟨by rfl,rfl⟩) hHeld ?_
       try simp only [Act.put,List.getElem_toArray,List.getElem_cons_zero,List.getElem_cons_succ,List.setIfInBounds_toArray,J4S,J4R]
       refine wpAnyH_take (i:=13) rfl (by kernel_rfl) (by kernel_rfl) (by kernel_rfl) (fun _ _ _ h=>h) (.inr ⟨by rfl,rfl⟩) hHeld ?_
       try simp only [Act.put,List.getElem_toArray,List.getElem_cons_zero,List.getElem_cons_succ,List.setIfInBounds_toArray,J4S,J4R]
       refine' wpAnyH_take (i:=14) (v:=_) rfl (by kernel_rfl) (by kernel_rfl) (by kernel_rfl) (fun _ _ _ h=>h) (.inl ⟨by rfl,?_⟩) hHeld ?_
       rotate_left
       ·(intro w AO;(try dsimp only at AO);go_simp;try with_reducible rfl)
       try simp only [Act.put,List.getElem_toArray,List.getElem_cons_zero,List.getElem_cons_succ,List.setIfInBounds_toArray,J4S,J4R]
       refine' wpAnyH_take (i:=15) (v:=_) rfl (by kernel_rfl) (by kernel_rfl) (by kernel_rfl) (fun _ _ _ h=>h) (.inl ⟨by rfl,?_⟩) hHeld ?_
       rotate_left
       ·(intro w AO;(try dsimp only at AO);go_simp;try with_reducible rfl)
       try simp only [Act.put,List.getElem_toArray,List.getElem_cons_zero,List.getElem_cons_succ,List.setIfInBounds_toArray,J4S,J4R]
       refine' wpAnyH_take (i:=16) (v:=_) rfl (by kernel_rfl) (by kernel_rfl) (by kernel_rfl) (fun _ _ _ h=>h) (.inl ⟨by rfl,?_⟩) hHeld ?_
       rotate_left
       ·(intro w AO;(try dsimp only at AO);go_simp;try with_reducible rfl)
       try simp only [Act.put,List.getElem_toArray,List.getElem_cons_zero,List.getElem_cons_succ,List.setIfInBounds_toArray,J4S,J4R]
       refine' wpAnyH_take (i:=17) (v:=_) rfl (by kernel_rfl) (by kernel_rfl) (by kernel_rfl) (fun _ _ _ h=>h) (.inl ⟨by rfl,?_⟩) hHeld ?_
       rotate_left
       ·(intro w AO;(try dsimp only at AO);go_simp;try with_reducible rfl)
       try simp only [Act.put,List.getElem_toArray,List.getElem_cons_zero,List.getElem_cons_succ,List.setIfInBounds_toArray,J4S,J4R]
       refine' wpAnyH_take (i:=18) (v:=_) rfl (by kernel_rfl) (by kernel_rfl) (by kernel_rfl) (fun _ _ _ h=>h) (.inl ⟨by rfl,?_⟩) hHeld ?_
       rotate_left
       ·(intro w AO;(try dsimp only at AO);go_simp;try with_reducible rfl)
       try simp only [Act.put,List.getElem_toArray,List.getElem_cons_zero,List.getElem_cons_succ,List.setIfInBounds_toArray,J4S,J4R]
       refine' wpAnyH_take (i:=19) (v:=_) rfl (by kernel_rfl) (by kernel_rfl) (by kernel_rfl) (fun _ _ _ h=>h) (.inl ⟨by rfl,?_⟩) hHeld ?_
       rotate_left
       ·(intro w AO;(try dsimp only at AO);go_simp;try with_reducible rfl)
       try simp only [Act.put,List.getElem_toArray,List.getElem_cons_zero,List.getElem_cons_succ,List.setIfInBounds_toArray,J4S,J4R]
       refine' wpAnyH_take (i:=20) (v:=_) rfl (by kernel_rfl) (by kernel_rfl) (by kernel_rfl) (fun _ _ _ h=>h) (.inl ⟨by rfl,?_⟩) hHeld ?_
       rotate_left
       ·(intro w AO;(try dsimp only at AO);go_simp;try with_reducible rfl)
       try simp only [Act.put,List.getElem_toArray,List.getElem_cons_zero,List.getElem_cons_succ,List.setIfInBounds_toArray,J4S,J4R]
       refine wpAnyH_ready (rs:=[21]) (by kernel_rfl) (by simp) ?_;refine AllReadyH.cons rfl (fun K hK=>?_) AllReadyH.nil
       try simp only [Act.put,List.getElem_toArray,List.getElem_cons_zero,List.getElem_cons_succ,List.setIfInBounds_toArray,J4S,J4R]
       go_simp
       (go_at_call 23;refine (Kw.out _ AG.out).mono ?_;rintro rv w' ⟨a,cp,rfl,hb⟩;have AG:=Q0a (AG.out.trans (hb.mono AG.out.size));clear hb)
       try go_wp2_with fail
       refine hK.out _ _ (KW.out _ AG.out) (fun hHeld=>?_);clear hK K
       try simp only [Act.put,List.getElem_toArray,List.getElem_cons_zero,List.getElem_cons_succ,List.setIfInBounds_toArray,J4S,J4R]
       refine' wpAnyH_take (i:=22) (v:=_) rfl (by kernel_rfl) (by kernel_rfl) (by kernel_rfl) (fun _ _ _ h=>h) (.inl ⟨by rfl,?_⟩) hHeld ?_
       rotate_left
       ·(intro w AO;(try dsimp only at AO);go_simp;try with_reducible rfl)
       try simp only [Act.put,List.getElem_toArray,List.getElem_cons_zero,List.getElem_cons_succ,List.setIfInBounds_toArray,J4S,J4R]
       refine' wpAnyH_take (i:=23) (v:=_) rfl (by kernel_rfl) (by kernel_rfl) (by kernel_rfl) (fun _ _ _ h=>h) (.inl ⟨by rfl,?_⟩) hHeld ?_
       rotate_left
       ·(intro w AO;(try dsimp only at AO);go_simp;try with_reducible rfl)
       try simp only [Act.put,List.getElem_toArray,List.getElem_cons_zero,List.getElem_cons_succ,List.setIfInBounds_toArray,J4S,J4R]
       refine' wpAnyH_take (i:=24) (v:=_) rfl (by kernel_rfl) (by kernel_rfl) (by kernel_rfl) (fun _ _ _ h=>h) (.inl ⟨by rfl,?_⟩) hHeld ?_
       rotate_left
       ·(intro w AO;(try dsimp only at AO);go_simp;try with_reducible rfl)
       try simp only [Act.put,List.getElem_toArray,List.getElem_cons_zero,List.getElem_cons_succ,List.setIfInBounds_toArray,J4S,J4R]
       refine' wpAnyH_take (i:=25) (v:=_) rfl (by kernel_rfl) (by kernel_rfl) (by kernel_rfl) (fun _ _ _ h=>h) (.inl ⟨by rfl,?_⟩) hHeld ?_
       rotate_left
       ·(intro w AO;(try dsimp only at AO);go_simp;try with_reducible rfl)
       try simp only [Act.put,List.getElem_toArray,List.getElem_cons_zero,List.getElem_cons_succ,List.setIfInBounds_toArray,J4S,J4R]
       refine' wpAnyH_take (i:=26) (v:=_) rfl (by kernel_rfl) (by kernel_rfl) (by kernel_rfl) (fun _ _ _ h=>h) (.inl ⟨by rfl,?_⟩) hHeld ?_
       rotate_left
       ·(intro w AO;(try dsimp only at AO);go_simp;try with_reducible rfl)
       try simp only [Act.put,List.getElem_toArray,List.getElem_cons_zero,List.getElem_cons_succ,List.setIfInBounds_toArray,J4S,J4R]
       refine' wpAnyH_take (i:=27) (v:=_) rfl (by kernel_rfl) (by kernel_rfl) (by kernel_rfl) (fun _ _ _ h=>h) (.inl ⟨by rfl,?_⟩) hHeld ?_
       rotate_left
       ·(intro w AO;(try dsimp only at AO);go_simp;try with_reducible rfl)
       try simp only [Act.put,List.getElem_toArray,List.getElem_cons_zero,List.getElem_cons_succ,List.setIfInBounds_toArray,J4S,J4R]
       refine' wpAnyH_take (i:=28) (v:=_) rfl (by kernel_rfl) (by kernel_rfl) (by kernel_rfl) (fun _ _ _ h=>h) (.inl ⟨by rfl,?_⟩) hHeld ?_
       rotate_left
       ·(intro w AO;(try dsimp only at AO);go_simp;try with_reducible rfl)
       try simp only [Act.put,List.getElem_toArray,List.getElem_cons_zero,List.getElem_cons_succ,List.setIfInBounds_toArray,J4S,J4R]
       refine' wpAnyH_take (i:=29) (v:=_) rfl (by kernel_rfl) (by kernel_rfl) (by kernel_rfl) (fun _ _ _ h=>h) (.inl ⟨by rfl,?_⟩) hHeld ?_
       rotate_left
       ·(intro w AO;(try dsimp only at AO);go_simp;try with_reducible rfl)
       try simp only [Act.put,List.getElem_toArray,List.getElem_cons_zero,List.getElem_cons_succ,List.setIfInBounds_toArray,J4S,J4R]
       refine' wpAnyH_take (i:=30) (v:=_) rfl (by kernel_rfl) (by kernel_rfl) (by kernel_rfl) (fun _ _ _ h=>h) (.inl ⟨by rfl,?_⟩) hHeld ?_
       rotate_left
       ·(intro w AO;(try dsimp only at AO);go_simp;try with_reducible rfl)
       try simp only [Act.put,List.getElem_toArray,List.getElem_cons_zero,List.getElem_cons_succ,List.setIfInBounds_toArray,J4S,J4R]
       refine wpAnyH_ready (rs:=[31]) (by kernel_rfl) (by simp) ?_;refine AllReadyH.cons rfl (fun K hK=>?_) AllReadyH.nil
       try simp only [Act.put,List.getElem_toArray,List.getElem_cons_zero,List.getElem_cons_succ,List.setIfInBounds_toArray,J4S,J4R]
       go_simp
       (go_at_call 25;refine (PX.out _ AG.out).mono ?_;rintro rv w' ⟨a,cp,rfl,hb⟩;have AG:=Q0a (AG.out.trans (hb.mono AG.out.size));clear hb)
       try go_wp2_with fail
       refine hK.out _ _ (KW.out _ AG.out) (fun hHeld=>?_);clear hK K
       try simp only [Act.put,List.getElem_toArray,List.getElem_cons_zero,List.getElem_cons_succ,List.setIfInBounds_toArray,J4S,J4R]
       refine' wpAnyH_take (i:=32) (v:=_) rfl (by kernel_rfl) (by kernel_rfl) (by kernel_rfl) (fun _ _ _ h=>h) (.inl ⟨by rfl,?_⟩) hHeld ?_
       rotate_left
       ·(intro w AO;(try dsimp only at AO);go_simp;try with_reducible rfl)
       try simp only [Act.put,List.getElem_toArray,List.getElem_cons_zero,List.getElem_cons_succ,List.setIfInBounds_toArray,J4S,J4R]
       refine' wpAnyH_take (i:=33) (v:=_) rfl (by kernel_rfl) (by kernel_rfl) (by kernel_rfl) (fun _ _ _ h=>h) (.inl ⟨by rfl,?_⟩) hHeld ?_
       rotate_left
       ·(intro w AO;(try dsimp only at AO);go_simp;try with_reducible rfl)
       try simp only [Act.put,List.getElem_toArray,List.getElem_cons_zero,List.getElem_cons_succ,List.setIfInBounds_toArray,J4S,J4R]
       refine' wpAnyH_take (i:=34) (v:=_) rfl (by kernel_rfl) (by kernel_rfl) (by kernel_rfl) (fun _ _ _ h=>h) (.inl ⟨by rfl,?_⟩) hHeld ?_
       rotate_left
       ·(intro w AO;(try dsimp only at AO);go_simp;try with_reducible rfl)
       try simp only [Act.put,List.getElem_toArray,List.getElem_cons_zero,List.getElem_cons_succ,List.setIfInBounds_toArray,J4S,J4R]
       refine' wpAnyH_take (i:=35) (v:=_) rfl (by kernel_rfl) (by kernel_rfl) (by kernel_rfl) (fun _ _ _ h=>h) (.inl ⟨by rfl,?_⟩) hHeld ?_
       rotate_left
       ·(intro w AO;(try dsimp only at AO);go_simp;try with_reducible rfl)
       try simp only [Act.put,List.getElem_toArray,List.getElem_cons_zero,List.getElem_cons_succ,List.setIfInBounds_toArray,J4S,J4R]
       refine' wpAnyH_take (i:=36) (v:=_) rfl (by kernel_rfl) (by kernel_rfl) (by kernel_rfl) (fun _ _ _ h=>h) (.inl ⟨by rfl,?_⟩) hHeld ?_
       rotate_left
       ·(intro w AO;(try dsimp only at AO);go_simp;try with_reducible rfl)
       try simp only [Act.put,List.getElem_toArray,List.getElem_cons_zero,List.getElem_cons_succ,List.setIfInBounds_toArray,J4S,J4R]
       refine' wpAnyH_take (i:=37) (v:=_) rfl (by kernel_rfl) (by kernel_rfl) (by kernel_rfl) (fun _ _ _ h=>h) (.inl ⟨by rfl,?_⟩) hHeld ?_
       rotate_left
       ·(intro w AO;(try dsimp only at AO);go_simp;try with_reducible rfl)
       try simp only [Act.put,List.getElem_toArray,List.getElem_cons_zero,List.getElem_cons_succ,List.setIfInBounds_toArray,J4S,J4R]
       refine' wpAnyH_take (i:=38) (v:=_) rfl (by kernel_rfl) (by kernel_rfl) (by kernel_rfl) (fun _ _ _ h=>h) (.inl ⟨by rfl,?_⟩) hHeld ?_
       rotate_left
       ·(intro w AO;(try dsimp only at AO);go_simp;try with_reducible rfl)
       try simp only [Act.put,List.getElem_toArray,List.getElem_cons_zero,List.getElem_cons_succ,List.setIfInBounds_toArray,J4S,J4R]
       refine' wpAnyH_take (i:=39) (v:=_) rfl (by kernel_rfl) (by kernel_rfl) (by kernel_rfl) (fun _ _ _ h=>h) (.inl ⟨by rfl,?_⟩) hHeld ?_
       rotate_left
       ·(intro w AO;(try dsimp only at AO);go_simp;try with_reducible rfl)
       try simp only [Act.put,List.getElem_toArray,List.getElem_cons_zero,List.getElem_cons_succ,List.setIfInBounds_toArray,J4S,J4R]
       refine' wpAnyH_take (i:=40) (v:=_) rfl (by kernel_rfl) (by kernel_rfl) (by kernel_rfl) (fun _ _ _ h=>h) (.inl ⟨by rfl,?_⟩) hHeld ?_
       rotate_left
       ·(intro w AO;(try dsimp only at AO);go_simp;try with_reducible rfl)
       try simp only [Act.put,List.getElem_toArray,List.getElem_cons_zero,List.getElem_cons_succ,List.setIfInBounds_toArray,J4S,J4R]
       refine wpAnyH_ready (rs:=[41]) (by kernel_rfl) (by simp) ?_;refine AllReadyH.cons rfl (fun K hK=>?_) AllReadyH.nil
       try simp only [Act.put,List.getElem_toArray,List.getElem_cons_zero,List.getElem_cons_succ,List.setIfInBounds_toArray,J4S,J4R]
       go_simp
       (go_at_call 36;refine (KV.out _ AG.out).mono ?_;rintro rv w' ⟨rfl,hb⟩;have AG:=Q0a (AG.out.trans (hb.mono AG.out.size));clear hb)
       try go_wp2_with fail
       refine hK.out _ _ (KW.out _ AG.out) (fun hHeld=>?_);clear hK K
       try simp only [Act.put,List.getElem_toArray,List.getElem_cons_zero,List.getElem_cons_succ,List.setIfInBounds_toArray,J4S,J4R]
       refine' wpAnyH_take (i:=42) (v:=_) rfl (by kernel_rfl) (by kernel_rfl) (by kernel_rfl) (fun _ _ _ h=>h) (.inl ⟨by rfl,?_⟩) hHeld ?_
       rotate_left
       ·(intro w AO;(try dsimp only at AO);go_simp;try with_reducible rfl)
       try simp only [Act.put,List.getElem_toArray,List.getElem_cons_zero,List.getElem_cons_succ,List.setIfInBounds_toArray,J4S,J4R]
       refine' wpAnyH_take (i:=43) (v:=_) rfl (by kernel_rfl) (by kernel_rfl) (by kernel_rfl) (fun _ _ _ h=>h) (.inl ⟨by rfl,?_⟩) hHeld ?_
       rotate_left
       ·(intro w AO;(try dsimp only at AO);go_simp;try with_reducible rfl)
       try simp only [Act.put,List.getElem_toArray,List.getElem_cons_zero,List.getElem_cons_succ,List.setIfInBounds_toArray,J4S,J4R]
       refine wpAnyH_done (by kernel_rfl) ?_ _;refine NoPanic.normal ?_;go_wp2_with fail;go_meet;exact⟨rfl,AG.out⟩
     obtain⟨rfl,Ge⟩:=hcut;have P6:=Q0a (EY.out.trans (Ge.mono EY.out.size));clear Ge Kw PX KV KW NO AG Ns;go_wp2_with fail;go_roundg (G.length-(j+1))
     case measure=>have:=KI.out;omega
     case rel=>exact⟨j+1,by go_num,by have:=KI.out;omega,P6.out⟩
    ·obtain rfl:j=G.length:=by have:=KI.out;omega
     have kt:=Qd.out wr B3;clear B3 Qd Pk Jm PY OA P9 Pz Il KI Tz;go_wp2_with fail;refine kt.mono ?_;intro rv w9 So;obtain⟨aT,Ue,rfl,LF,FE⟩:=So.shape;have G3:=Q0a (EY.out.trans (LF.mono EY.out.size));have FV:=Q0a FE;clear So LF FE kt EY;go_wp2_with fail
     go_loopg [17] T.length (fun gk iv wr=>∃k:Nat,iv=.int .i64 k/\k+gk=T.length/\Below w9.heap.size w9 wr)
     case atStart=>exact⟨0,rfl,by omega,Below.refl _ _⟩
     case round =>
      obtain⟨k,rfl,A7,B3⟩:=hrel;have Bi:=Q0a A7;have EY:=Q0a B3;have GQ:Below w6.heap.size w6 wr:=G3.out.trans (B3.mono G3.out.size);clear A7;by_cases Ab:k<T.length
      ·obtain⟨y,hy⟩:∃y,T[k]?=some y:=⟨_,J4y Ab⟩
       obtain⟨gT,rfl,_,Dm,LE⟩:=(FV.out.below B3).at' k y hy;have C5:=FJ.out y (J4v hy);have ks:=Nn.out wr GQ y C5;have Mo:=Q0a GQ;have Wy:Hid (∀W,Below wr.heap.size wr W->W.cell? ⟨gT,k,none⟩=some (.int .u32 y)):=fun W hb=>(World.cell?_of_block (w:=wr) (hb.block gT Dm)).trans LE
       have By:(0:Int)<=(k:Int):=by omega
       have A0:(k:Int)<(T.length:Int):=by omega
       have A2:(k:Int)<256:=by have:=Hl.out;omega
       clear B3 GQ hy Dm;go_wp2_with fail;refine ks.mono ?_;intro rv w3 Lq;obtain⟨aS,PE,rfl,As,Az⟩:=Lq.from'
       have D8:=Q0a As;have Fl:=Q0a Az;have Ks:Hid ((SLF y).length<=256):=IS.out y;have Qa:=Q0a (Gq.out y);clear Lq As Az ks LE;generalize SLF y=SL at *
       obtain⟨wo,P3⟩:∃wo,wo=wr:=⟨_,rfl⟩
       subst P3;obtain⟨gko,GN⟩:∃g,g=gk:=⟨_,rfl⟩
       subst GN;go_wp2_with fail
       go_loopg [19] SL.length (fun gi iv wi=>∃i:Nat,iv=.int .i64 i/\i+gi=SL.length/\Below w3.heap.size w3 wi)
       case atStart=>exact⟨0,rfl,by omega,Below.refl _ _⟩
       case round =>
        obtain⟨i,rfl,IA,Fe⟩:=hrel;have I2:=Q0a IA;have LR:Below wo.heap.size wo wr:=D8.out.trans (Fe.mono D8.out.size);by_cases Vz:i<SL.length
        ·obtain⟨z,hz⟩:∃z,SL[i]?=some z:=⟨_,J4y Vz⟩
         obtain⟨gS,rfl,_,QB,O3⟩:=Fl.out i z hz;have O3:wr.cell? ⟨gS,i,none⟩=some (.int .i64 z):=(World.cell?_of_block (w:=w3) (Fe.block gS QB)).trans O3;obtain⟨-,BN,S6,h,rr,oa,ob,oc,u,v,fl,g1,g2,g3,ge,hu,Im,JF,Tm,J4,Nt⟩:=Qa.out z (J4v hz);have DP:Below w6.heap.size w6 wr:=Mo.out.trans (LR.mono Mo.out.size);have LZ:gS<wr.heap.size:=J2j QB Fe.size;have Eu:Hid (∀W,Below wr.heap.size wr W->W.cell? ⟨gT,k,none⟩=some (.int .u32 y)/\W.cell? ⟨gS,i,none⟩=some (.int .i64 z)):=fun W hb=>⟨Wy.out W (LR.trans (hb.mono LR.size)),(World.cell?_of_block (w:=wr) (hb.block gS LZ)).trans O3⟩
         have Hw:Hid (∀W,Below wr.heap.size wr W->Calls prog 21 #[.pointer (some ⟨Z.s,0,none⟩),.int .u32 y,.int .i64 z] W (Told W (.tuple #[.agg #[.int .u32 h,.int .i64 rr],.int .i64 0]))):=fun W hb=>JF W (DP.trans (hb.mono DP.size))
         have Mp:Hid (∀W,Below wr.heap.size wr W->Calls prog 22 #[.pointer (some ⟨Z.s,0,none⟩),.int .u32 y,.int .i64 z] W (Told W (.tuple #[.agg #[.int .i64 u,.int .i64 v],.bool fl]))):=fun W hb=>J4 W (DP.trans (hb.mono DP.size))
         have FB:Hid (∀W,Below wr.heap.size wr W->Calls prog 30 #[.pointer (some ⟨Z.S.c,0,none⟩),.int .u32 h,.int .i64 0] W (Told W (.tuple #[.agg #[.int .i64 oa,.int .i64 ob,.int .i64 oc],.int .i64 0]))):=fun W hb=>Tm W (DP.trans (hb.mono DP.size))
         have Me:Hid (∀W,Below wr.heap.size wr W->Calls prog 30 #[.pointer (some ⟨Z.S.c,0,none⟩),.int .u32 u,.int .i64 2] W (Told W (.tuple #[.agg #[.int .i64 g1,.int .i64 g2,.int .i64 g3],.int .i64 ge]))):=fun W hb=>Nt W (DP.trans (hb.mono DP.size))
         have SJ:=Q0a Fe;have Qk:=Q0a Im;have Sk:IntKind.u32.wrap (u:Int)=(u:Int):=Go.IntWalk.u32_in _ (by omega);have WR:(0:Int)<=(u:Int):=by omega
         have Xk:(u:Int)<4294967296:=by omega
         have BJ:(0:Int)<=(i:Int):=by omega
         have Gw:(i:Int)<(SL.length:Int):=by omega
         have EP:(i:Int)<256:=by have:=Ks.out;omega
         clear Fe LR DP O3 hz QB LZ JF Tm J4 Nt Im IA hu;go_upto_region 29 with fail
         go_cut [20,21] from 189 to 200 (fun oo ee wc=>∃B:Nat,oo=.pointer (some ⟨B,0,none⟩)/\ee=.int .i64 0/\Below wr.heap.size wr wc/\wr.heap.size<=B/\Cells wc B 35 [.int .u32 h,.int .i64 rr])
         case first =>
          have B5:Hid (∀V,Below wr.heap.size wr V->∀o,Below wr.heap.size wr (V.alloc o)):=fun V hb o=>hb.alloc hb.size o
          have HD:Hid (Below wr.heap.size wr wr.drew):=(Below.refl _ _).drew;have LD:Hid (Below wr.heap.size wr wr):=Below.refl _ _;have IP:Hid (Calls prog 21 #[.pointer (some ⟨Z.s,0,none⟩),.int .u32 y,.int .i64 z] (wr.alloc (.cells #[.int .u32 0,.int .i64 0] 35)).drew fun r w4=>r=.returned (.tuple #[.agg #[.int .u32 h,.int .i64 rr],.int .i64 0])/\Below wr.heap.size wr w4/\Cells w4 wr.heap.size 35 [.int .u32 0,.int .i64 0]):=
           (Hw.out _ (B5.out _ (Below.refl _ _).drew _)).mono fun r w4 h=>⟨h.1,((B5.out _ (Below.refl _ _).drew _)).trans (h.2.mono (by simp)),(Cells.new wr 35 [.int .u32 0,.int .i64 0]).same (h.2.block _ (by simp))⟩
          go_region_held3 (fun V=>V.cell? ⟨gT,k,none⟩=some (.int .u32 y)/\V.cell? ⟨gS,i,none⟩=some (.int .i64 z))
           (first|exact Eu.out _ LD.out|exact Eu.out _ HD.out|exact Eu.out _ (B5.out _ HD.out _)|exact Eu.out _ Ao.out|exact Eu.out _ (B5.out _ Ao.out _)|exact Eu.out _ (Ao.out.setCell (by simp) _)|exact Eu.out _ ((Ao.out.setCell (by simp) _).setCell (by simp) _))
           (first|(go_at_call 21;refine IP.out.mono ?_;rintro rv w4 ⟨rfl,A5,Bs⟩;have Ao:=Q0a A5;have z0:=Bs.cell 0 _ rfl;have y0:=Bs.free 0;have z1:=Bs.cell 1 _ rfl;have y1:=Bs.free 1;have J0:=Q0a Bs;clear A5 Bs)|(go_at_call 21;refine (Hw.out _ (by first|exact HD.out|exact B5.out _ HD.out _)).mono ?_;rintro rv w4 ⟨rfl,A5⟩;have Ao:=Q0a (HD.out.trans (A5.mono HD.out.size));clear A5))
          all_goals (go_wp2_with fail;go_meet;first|exact⟨_,rfl,rfl,B5.out _ Ao.out _,Ao.out.size,Cells.new _ 35 [.int .u32 h,.int .i64 rr]⟩|exact⟨_,rfl,rfl,((Ao.out.setCell (by simp) _).setCell (by simp) _),J2h _,((J0.out.set 0 (.int .u32 h)).set 1 (.int .i64 rr))⟩)
         obtain⟨B1,rfl,rfl,Av,Pr,Cf⟩:=hcut;have EZ:=Q0a Av;have Jk:=Q0a Cf;have EI:Hid (∀V,Below wc.heap.size wc V->V.cell? ⟨gT,k,none⟩=some (.int .u32 y)/\V.cell? ⟨gS,i,none⟩=some (.int .i64 z)):=fun V hb=>Eu.out V (EZ.out.trans (hb.mono EZ.out.size))
         have GH:Hid (∀V,Below wc.heap.size wc V->Calls prog 22 #[.pointer (some ⟨Z.s,0,none⟩),.int .u32 y,.int .i64 z] V (Told V (.tuple #[.agg #[.int .i64 u,.int .i64 v],.bool fl]))):=fun V hb=>Mp.out V (EZ.out.trans (hb.mono EZ.out.size))
         obtain⟨wd,Mc⟩:∃wd,wd=wc:=⟨_,rfl⟩
         subst Mc;clear Av Pr Cf Hw Mp Eu;go_upto_region 30 with fail
         go_cut [22,23] from 202 to 213 (fun oo ee wc=>∃B:Nat,oo=.pointer (some ⟨B,0,none⟩)/\ee=.bool fl/\Below wd.heap.size wd wc/\wd.heap.size<=B/\Cells wc B 46 [.int .i64 u,.int .i64 v])
         case first =>
          have B5:Hid (∀V,Below wd.heap.size wd V->∀o,Below wd.heap.size wd (V.alloc o)):=fun V hb o=>hb.alloc hb.size o
          have HD:Hid (Below wd.heap.size wd wd.drew):=(Below.refl _ _).drew;have LD:Hid (Below wd.heap.size wd wd):=Below.refl _ _;have IP:Hid (Calls prog 22 #[.pointer (some ⟨Z.s,0,none⟩),.int .u32 y,.int .i64 z] (wd.alloc (.cells #[.int .i64 0,.int .i64 0] 46)).drew fun r w4=>r=.returned (.tuple #[.agg #[.int .i64 u,.int .i64 v],.bool fl])/\Below wd.heap.size wd w4/\Cells w4 wd.heap.size 46 [.int .i64 0,.int .i64 0]):=
           (GH.out _ (B5.out _ (Below.refl _ _).drew _)).mono fun r w4 h=>⟨h.1,((B5.out _ (Below.refl _ _).drew _)).trans (h.2.mono (by simp)),(Cells.new wd 46 [.int .i64 0,.int .i64 0]).same (h.2.block _ (by simp))⟩
          go_region_held3 (fun V=>V.cell? ⟨gT,k,none⟩=some (.int .u32 y)/\V.cell? ⟨gS,i,none⟩=some (.int .i64 z))
           (first|exact EI.out _ LD.out|exact EI.out _ HD.out|exact EI.out _ (B5.out _ HD.out _)|exact EI.out _ Ao.out|exact EI.out _ (B5.out _ Ao.out _)|exact EI.out _ (Ao.out.setCell (by simp) _)|exact EI.out _ ((Ao.out.setCell (by simp) _).setCell (by simp) _))
           (first|(go_at_call 22;refine IP.out.mono ?_;rintro rv w4 ⟨rfl,A5,Bs⟩;have Ao:=Q0a A5;have z0:=Bs.cell 0 _ rfl;have y0:=Bs.free 0;have z1:=Bs.cell 1 _ rfl;have y1:=Bs.free 1;have J0:=Q0a Bs;clear A5 Bs)|(go_at_call 22;refine (GH.out _ (by first|exact HD.out|exact B5.out _ HD.out _)).mono ?_;rintro rv w4 ⟨rfl,A5⟩;have Ao:=Q0a (HD.out.trans (A5.mono HD.out.size));clear A5))
          all_goals (go_wp2_with fail;go_meet;first|exact⟨_,rfl,rfl,B5.out _ Ao.out _,Ao.out.size,Cells.new _ 46 [.int .i64 u,.int .i64 v]⟩|exact⟨_,rfl,rfl,((Ao.out.setCell (by simp) _).setCell (by simp) _),J2h _,((J0.out.set 0 (.int .i64 u)).set 1 (.int .i64 v))⟩)
         obtain⟨B2,rfl,rfl,Af,JK,B6⟩:=hcut;have Jb:=Q0a (EZ.out.trans (Af.mono EZ.out.size));have MH:=Q0a (Jk.out.same (Af.block B1 Jk.out.lt));have G8:=Q0a B6;have TH:=FB.out wc Jb.out;have q0:=MH.out.cell 0 _ rfl;clear Af JK B6 GH EI Jk EZ;go_wp2_with fail;refine TH.mono ?_;rintro rv w10 ⟨rfl,EM⟩;have KK:=EM.alloc EM.size (.cells #[.int .i64 oa,.int .i64 ob,.int .i64 oc] 69);have Kn:=Q0a (Jb.out.trans (KK.mono Jb.out.size));have p0:=(G8.out.same (KK.block B2 G8.out.lt)).cell 0 _ rfl;have Tp:=Me.out _ Kn.out;clear EM KK TH q0 MH G8 FB Me Jb
         go_wp2_with fail;refine Tp.mono ?_;rintro rv w12 ⟨rfl,DH⟩;have Ny:=DH.alloc DH.size (.cells #[.int .i64 g1,.int .i64 g2,.int .i64 g3] 69);have Du:=Q0a (SJ.out.trans ((Kn.out.trans (Ny.mono Kn.out.size)).mono SJ.out.size));clear DH Ny Tp p0;cases fl with
         | false =>
          clear Qk;go_wp2_with fail;go_roundg (SL.length-(i+1))
          case measure=>have:=I2.out;omega
          case rel=>exact⟨i+1,by go_num,by have:=I2.out;omega,Du.out⟩
         | true =>
          obtain rfl:ge=0:=Qk.out rfl;clear Qk;go_wp2_with fail;go_roundg (SL.length-(i+1))
          case measure=>have:=I2.out;omega
          case rel=>exact⟨i+1,by go_num,by have:=I2.out;omega,Du.out⟩
        ·obtain rfl:i=SL.length:=by have:=I2.out;omega
         have HR:=Q0a LR;clear Fe LR IA;go_wp2_with fail;go_roundg (T.length-(k+1))
         case measure=>have:=Bi.out;omega
         case rel=>exact⟨k+1,by go_num,by have:=Bi.out;omega,EY.out.trans (HR.out.mono EY.out.size)⟩
      ·obtain rfl:k=T.length:=by have:=Bi.out;omega
       have HX:Hid (Below w.heap.size w wr):=Sb.out.trans (GQ.mono Sb.out.size);clear B3 GQ;go_wp2_with fail
       first|exact⟨rfl,HX.out⟩|(go_ret;exact⟨rfl,HX.out⟩)
end Go.Proofs.YtlakjlmaboioiaaGreatDoor
