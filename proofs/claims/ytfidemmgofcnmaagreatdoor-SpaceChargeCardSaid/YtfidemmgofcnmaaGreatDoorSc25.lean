/- SpaceCharge returns true at every input. No condition. Part of its proof. -/
import Derived.Test.YtfidemmgofcnmaaGreatDoorSc24
set_option maxHeartbeats 4000000
set_option maxRecDepth 100000
set_option linter.unusedVariables false
namespace Go.Proofs.YtfidemmgofcnmaaGreatDoor
open Go.RowKit Go.Proofs.Tryz
structure Grow (w4:World) (v4:Value) (wr:World) (v:Value):Prop where
 size:w4.heap.size<=wr.heap.size
 keep:∀b,b<w4.heap.size->v4.ownBlock≠some b->wr.heap[b]?=w4.heap[b]?
 own:v.ownBlock=v4.ownBlock∨∀b,v.ownBlock=some b->w4.heap.size<=b
theorem Grow.refl (w:World) (v:Value):Grow w v w v:=⟨J2y _,fun _ _ _=>rfl,.inl rfl⟩
theorem Grow.below {w4 wr w':World} {v4 v:Value} (h:Grow w4 v4 wr v) (hb:Below wr.heap.size wr w'):Grow w4 v4 w' v:=
 ⟨J2z h.size hb.size,fun b hl hn=>(hb.block b (J2A hl h.size)).trans (h.keep b hl hn),h.own⟩
theorem Grow.app {w4 wr w':World} {v4 v v':Value} (h:Grow w4 v4 wr v) (h1:∀b,b<wr.heap.size->v.ownBlock≠some b->w'.heap[b]?=wr.heap[b]?) (h2:v'.ownBlock=v.ownBlock∨∀b,v'.ownBlock=some b->wr.heap.size<=b) (h3:wr.heap.size<=w'.heap.size):Grow w4 v4 w' v':=by
 refine⟨J2z h.size h3,fun b hl hn=>(h1 b (J2A hl h.size) fun e=>?_).trans (h.keep b hl hn),?_⟩
 ·rcases h.own with h4|h4
  ·exact hn (h4 ▸ e)
  ·have:=h4 b e;omega
 ·rcases h2 with h2|h2
  ·rw [h2];exact h.own
  ·exact .inr fun b hb=>J2z h.size (h2 b hb)
theorem Q8l {w':World} {B:Nat} {T:TypeId} {size n:Nat} {v:Value} {cs:List Value} (h:w'.ownsRow B T size v n cs):∃(a:Option Addr) (cap:Nat),v=.slice a n cap/\∀(j:Nat) (u:Value),cs[j]?=some u->∃g,a=some ⟨g,0,none⟩/\B<=g/\g<w'.heap.size/\w'.cell? ⟨g,j,none⟩=some u:=by
 obtain⟨hl,h2⟩:=h;rcases h2 with ⟨rfl,h0⟩|⟨g,cap,Aj,rfl,hg,Cm,hn,hm,Bj,AR⟩
 ·refine⟨none,0,by rw [h0],fun j u hj=>?_⟩;have Hd:cs.length=0:=by rw [hl,h0,J6q]
  rw [J4z.1 Hd] at hj;simp at hj
 ·refine⟨some ⟨g,0,none⟩,cap,rfl,fun j u hj=>⟨g,rfl,hg,lt_of_block Cm,?_⟩⟩;have RA:=(J2Q.1 hj).1;have e:Aj.toList[j]?=some u:=by
   rw [<- AR] at hj;have hk:j<n*size:=by omega
   rwa [J4D,if_pos hk] at hj
  unfold World.cell?;simp only [Cm]
  simpa using e
theorem NewIs.from' {w w':World} {L:List Int} {r:Ending} (h:NewIs w L r w'):∃(a:Option Addr) (cap:Nat),r=.returned (.slice a L.length cap)/\Below w.heap.size w w'/\∀(j:Nat) (z:Int),L[j]?=some z->∃g,a=some ⟨g,0,none⟩/\w.heap.size<=g/\g<w'.heap.size/\w'.cell? ⟨g,j,none⟩=some (.int .i64 z):=by
 obtain⟨v,rfl,h1,h2⟩:=h;obtain⟨a,cap,rfl,h3⟩:=Q8l h1;exact⟨a,cap,rfl,h2,fun j z hz=>h3 j _ (by rw [J4l,hz];rfl)⟩
theorem Z6E {w:World} {Z:SP} {fr:List Nat} {N K:Nat} {M:Int} (hs:Sep w Z.hl) (ok:Z.Ok fr N K M) {y:Nat} (hy:y∈allL Z.S.l 1):y<4294967296 /\
  ((∃e:Int,e≠0/\Q0j Z.S.l Z.tb y=[]/\Calls prog 90 #[.pointer (some ⟨Z.s,0,none⟩),.int .u32 y] w (Told w (.tuple #[.agg #[.pointer none,.int .u32 0,.int .i64 0],.int .i64 e]))) ∨
   ∃p,pget Z.S.l 1 y=some p/\p.kind=2/\Calls prog 90 #[.pointer (some ⟨Z.s,0,none⟩),.int .u32 y] w fun r w'=>∃g:Nat,r=.returned (.tuple #[.agg #[.pointer (some ⟨g,0,none⟩),.int .u32 y,.int .i64 (p.fac:Int)],.int .i64 0])/\Below w.heap.size w w'/\TblZ Z p g w'/\w.heap.size<=g):=by
 have Bb:=ok.core.inv.lok;obtain⟨q,hq⟩:=(Q2H (by rw [Bb.1];omega)).1 hy;have CG:y<4294967296:=by
  obtain⟨a1,a2,_⟩:=pget_some.1 hq;have:=(Bb.2 q (J4O a1)).2;unfold nm at a2;omega
 refine⟨CG,?_⟩;by_cases hk:q.kind=2
 ·exact .inr ⟨q,hq,hk,Q9m hs ok.core CG hq hk⟩
 ·refine .inl ⟨10,by decide,?_,Q0I hs ok.core CG 10 (.inr ⟨q,hq,hk,rfl⟩)⟩;unfold Q0j;rw [hq];simp only;rw [if_neg hk]
theorem Z8P {w w1 w4 wr:World} {Z:SP} {fr:List Nat} {N K:Nat} {M:Int} (hs:Sep w Z.hl) (ok:Z.Ok fr N K M) {y:Nat} {p:Pl} (hp:pget Z.S.l 1 y=some p) (hk:p.kind=2) (hb:Below w.heap.size w wr) {g:Nat} (GY:TblZ Z p g w4) {v4 v:Value} (G:Grow w4 v4 wr v) (Aa:v4.ownBlock≠some g) {s:Nat} (A7:s<256) {e:Ent} (he:Q0f Z.S.l Z.tb y s=some e) :
  Calls prog 93 #[.agg #[.pointer (some ⟨g,0,none⟩),.int .u32 y,.int .i64 (p.fac:Int)],.int .i64 s] wr (Told wr (.tuple #[.agg #[.int .u32 (e.h:Int),.int .i64 (e.r:Int)],.bool true])):=by
 have s4:=(hs.grown hb).sep;have CY:TblZ Z p g wr:=fun j u hj=>by
  obtain⟨g',h1,h2,h3,h4⟩:=GY j u hj;cases h1;exact⟨g,rfl,h2,J2A h3 G.size,(World.cell?_of_block (w:=w4) (G.keep g h3 Aa)).trans h4⟩
 have hi:=(pget_some.1 hp).1;have Ao:=(pget_some.1 hp).2.2;have T:=(ok.tpi.x (p.fac:Int)).tt ok.core hi Ao hk (SP.sS s4) CY.c;have AA:(Z.tb (y%256)).at' (s:Int)=some e:=by
  unfold TB.at';rw [if_pos ⟨by omega,by omega⟩,J3F];rw [Q0g hp hk A7] at he;exact he
 have kc:=Q1t T (y:Int) (p.fac:Int) (s:Int) fun e' AM=>by rw [AA] at AM;cases AM;exact ok.fpi.low ok.core.inv.lok he
 rw [AA] at kc;exact kc
theorem Q5q {w:World} {Z:SP} {fr:List Nat} {N K:Nat} {M:Int} (hs:Sep w Z.hl) (ok:Z.Ok fr N K M) (h:Nat) :
  Calls prog 83 #[.pointer (some ⟨Z.s,0,none⟩),.int .u32 h] w (NewSp w (Q2S Z.S.l Z.tb h)):=by
 have c0:=SP.c0 hs;have kl:=Q6n (SP.sS hs) ok.core.inv.lok;have IR:Hid (∀W y,Below w.heap.size w W->y∈allL Z.S.l 1->_):=fun W y hb hy=>Z6E (hs.grown hb).sep ok hy
 have DX:Hid (∀(y:Nat) (p:Pl) (w4 wr:World) (g s:Nat) (v4 v:Value) (e:Ent),pget Z.S.l 1 y=some p->p.kind=2->Below w.heap.size w wr->TblZ Z p g w4->Grow w4 v4 wr v->v4.ownBlock≠some g->s<256->Q0f Z.S.l Z.tb y s=some e->_):=fun y p w4 wr g s v4 v e hp hk hb GY G Aa A7 he=>Z8P (w1:=w) hs ok hp hk hb GY G Aa A7 he
 have Ib:Hid (∀(y:Nat) (p:Pl) (g:Nat) (W:World),pget Z.S.l 1 y=some p->p.kind=2->Below w.heap.size w W->TblZ Z p g W->Calls prog 91 #[.pointer (some ⟨g,0,none⟩)] W (NewIs W (Q0j Z.S.l Z.tb y))):=fun y p g W hp hk hb hg=>by
  have T:=(ok.tpi.x (p.fac:Int)).tt ok.core (pget_some.1 hp).1 (pget_some.1 hp).2.2 hk (SP.sS (hs.grown hb).sep) hg.c;have e:Q0j Z.S.l Z.tb y=Q0w (Z.tb (y%256)) 256:=by unfold Q0j;rw [hp];simp only;rw [if_pos hk]
  rw [e];exact Q7r T
 have Oz:Hid (∀(p:Pl) (g:Nat) (W W':World),Below w.heap.size w W->TblZ Z p g W->Below W.heap.size W W'->TblZ Z p g W'):=fun p g W W' hb hg Ak=>hg.grown (hs.grown hb).sep Ak
 have Rp:(allL Z.S.l 1).length<=256:=by
  have:=Q1i Z.S.l 1 Z.S.l.length;unfold allL;rw [ok.core.inv.len] at this ⊢;exact this
 have E7:Hid (∀T:List Nat,T.length<=256->(Q1S Z.S.l Z.tb h T).length<=65536):=fun T hT=>J2z (Q6C _ _ _ T) (by omega)
 have MJ:Hid (∀y,(Q0j Z.S.l Z.tb y).length<=256/\∀z∈Q0j Z.S.l Z.tb y,∃s:Nat,z=(s:Int)/\s<256/\∃e,Q0f Z.S.l Z.tb y s=some e):=fun y=>⟨Q2T _ _ _,fun z hz=>mem_slotsL.1 hz⟩
 have KQ:=Q0a Rp;unfold Q2S;clear hs ok Rp;generalize hT:allL Z.S.l 1=T at *
 go_enter func83,ntmps83;go_wp2_with fail;refine kl.mono ?_;intro r w1 Du;obtain⟨a0,Mq,rfl,Av,Jg⟩:=Du.shape;have B4:=Q0a Av;have JB:=Q0a Jg;clear Du Av Jg kl c0;go_wp2_with fail
 go_loopg [5,22] T.length (fun gk ov iv wr=>∃k:Nat,iv=.int .i64 k/\k+gk=T.length/\OutS w1 wr ov (Q1S Z.S.l Z.tb h (T.take k)))
 case atStart=>exact⟨0,rfl,J5e _,OutS.nil w1⟩
 case round =>
  obtain⟨k,rfl,AH,Au⟩:=hrel;have HO:=Q0a Au;have B6:=Q0a AH;clear Au;by_cases Ab:k<T.length
  ·obtain⟨y,hy⟩:∃y,T[k]?=some y:=⟨_,J4R Ab⟩
   obtain⟨g0,rfl,NJ,DE,Al⟩:=(JB.out.below HO.out.2).at' k y hy;obtain⟨CG,L9⟩:=IR.out wr y (B4.out.trans (HO.out.2.mono B4.out.size)) (J4O hy);have Bm:Hid (Q1S Z.S.l Z.tb h (T.take (k+1))=Q1S Z.S.l Z.tb h (T.take k)++Q5u Z.S.l Z.tb h y):=by
    rw [J4w,hy];exact Z3C _ _ _ _ _
   have HY:=Q0a hy;have FJ:(k:Int)<256:=by have:=KQ.out;omega
   have Bs:(0:Int)<=(k:Int):=by omega
   have SR:(0:Int)<=(y:Int):=by omega
   have UQ:(y:Int)<4294967296:=by omega
   have V6:IntKind.i64.wrap (y:Int)=(y:Int):=Go.IntWalk.i64_in _ (by omega);clear hy AH CG;rcases L9 with ⟨e,Aa,Eh,DV⟩|⟨p,hp,A2,DV⟩
   ·have Br:(e != 0)=true:=by simpa using Aa
    have HR:Hid (∀W,Below wr.heap.size wr W->OutS w1 W u5 (Q1S Z.S.l Z.tb h (T.take (k+1)))):=fun W hb=>by
     rw [Bm.out];unfold Q5u Q3q;rw [Eh]
     simpa using HO.out.below hb
    clear Aa Eh HO;go_wp2_with fail;refine DV.mono ?_;rintro r w2 ⟨rfl,Ag⟩;have CX:=Q0a (HR.out _ (Ag.alloc Ag.size (.cells #[.pointer none,.int .u32 0,.int .i64 0] 191)));clear Ag HR DV;go_wp2_with fail;go_roundg (T.length-(k+1))
    case measure=>have:=B6.out;omega
    case rel=>exact⟨k+1,by go_num,by omega,CX.out⟩
   ·go_wp2_with fail;refine DV.mono ?_;rintro r w2 ⟨g,rfl,Ag,Jv,B3⟩;have BT:Below w2.heap.size w2 (w2.alloc (.cells #[.pointer (some ⟨g,0,none⟩),.int .u32 y,.int .i64 (p.fac:Int)] 191)):=(Below.refl _ _).alloc (J2y _) _;have DA:Below w.heap.size w wr:=B4.out.trans (HO.out.2.mono B4.out.size);have Ip:Below w.heap.size w w2:=DA.trans (Ag.mono DA.size);have Ko:=Ip.trans (BT.mono Ip.size);have MI:=Oz.out p g w2 _ Ip Jv BT;have ks:=Ib.out y p g _ hp A2 Ko MI;have Hu:Hid (OutS w1 (w2.alloc (.cells #[.pointer (some ⟨g,0,none⟩),.int .u32 y,.int .i64 (p.fac:Int)] 191)) u5 (Q1S Z.S.l Z.tb h (T.take k))):=(HO.out.below Ag).below BT
    have Ce:=Q0a (Cells.new w2 191 [.pointer (some ⟨g,0,none⟩),.int .u32 y,.int .i64 (p.fac:Int)]);have O8:Hid (∀b,u5.ownBlock=some b->b<wr.heap.size):=fun b hb=>(HO.out.1.lt b hb).2
    have Sz:=Q0a B3;have HP:Hid (pget Z.S.l 1 y=some p/\p.kind=2):=⟨hp,A2⟩
    have Nz:=Q0a MI;have NO:Hid (wr.heap.size<=w2.heap.size):=Ag.size;have Ne:=Q0a Ko;clear BT DA Ip Ko MI Jv Ag B3 hp A2 DV HO Al DE NJ;go_wp2_with fail;refine ks.mono ?_;intro r w4 RQ;obtain⟨aS,OJ,rfl,AC,Ax⟩:=RQ.from'
    have Ay:=Q0a AC;have QS:=Q0a (Hu.out.below AC);have Uq:=Q0a (Oz.out p g _ w4 Ne.out Nz.out AC);have VG:=Q0a (Ne.out.trans (AC.mono Ne.out.size));have LC:=Q0a (Ce.out.same (AC.block _ (by simp)));have EK:Hid (∀(j:Nat) (z:Int),(Q0j Z.S.l Z.tb y)[j]?=some z->∃gS,aS=some ⟨gS,0,none⟩/\w2.heap.size<=gS/\gS<w4.heap.size/\w4.cell? ⟨gS,j,none⟩=some (.int .i64 z)):=fun j z hz=>by
     obtain⟨gS,h1,h2,h3,h4⟩:=Ax j z hz;exact⟨gS,h1,by simp at h2;omega,h3,h4⟩
    obtain⟨TL,MW⟩:=MJ.out y;have NU:=Q0a MW;have HX:Hid (Q5u Z.S.l Z.tb h y=Q3q Z.S.l Z.tb h y (Q0j Z.S.l Z.tb y)):=rfl;have Uz:=Q0a (E7.out (T.take k) (by rw [J4T];have:=KQ.out;omega));generalize hSL:Q0j Z.S.l Z.tb y=SL at *
    clear RQ AC Ax MW ks Hu Ce Nz Ne Ib MJ Oz IR;go_wp2_with fail;obtain⟨gko,Gs⟩:∃g,g=gk:=⟨_,rfl⟩
    subst Gs;obtain⟨wo,OS⟩:∃wo,wo=wr:=⟨_,rfl⟩
    subst OS;obtain⟨v4,Um⟩:∃v4,v4=u5:=⟨_,rfl⟩
    subst Um
    go_loopg [5,38] SL.length (fun gi ov iv wi=>∃i:Nat,iv=.int .i64 i/\i+gi=SL.length/\OutS w1 wi ov (Q1S Z.S.l Z.tb h (T.take k)++Q3q Z.S.l Z.tb h y (SL.take i))/\Grow w4 v4 wi ov)
    case atStart=>exact⟨0,rfl,by omega,by simpa [Q3q] using QS.out,Grow.refl _ _⟩
    case round =>
     clear QS;obtain⟨i,rfl,IO,Au,CY⟩:=hrel;have IN:=Q0a IO;have HO:=Q0a Au;have HG:=Q0a CY;clear IO Au CY;by_cases Gd:i<SL.length
     ·obtain⟨z,hz⟩:∃z,SL[i]?=some z:=⟨_,J4R Gd⟩
      obtain⟨s,rfl,A7,e,he⟩:=NU.out z (J4O hz);obtain⟨gS,rfl,C3,B3,C0⟩:=EK.out i _ hz;have Hw:∀b,wo.heap.size<=b->v4.ownBlock≠some b:=fun b hb hx=>by have:=O8.out b hx;omega
      have Bj:=NO.out;have cS:wr.cell? ⟨gS,i,none⟩=some (.int .i64 s):=(World.cell?_of_block (w:=w4) (HG.out.keep gS B3 (Hw gS (by omega)))).trans C0;have Np:=LC.out.same (HG.out.keep w2.heap.size LC.out.lt (Hw _ Bj));have b0:=Np.cell 0 _ rfl;have b1:=Np.cell 1 _ rfl;have b2:=Np.cell 2 _ rfl;have C6:Below w.heap.size w wr:=B4.out.trans (HO.out.2.mono B4.out.size);have kc:=DX.out y p w4 wr g s v4 u5 e HP.out.1 HP.out.2 C6 Uq.out HG.out (Hw g Sz.out) A7 he;have RM:hasH Z.S.l Z.tb h y (s:Int)=decide (e.h=h):=by
       unfold hasH;rw [J3F,he]
      have AR:SL.take (i+1)=SL.take i++[(s:Int)]:=by rw [J4w,hz];rfl
      have D0:=Z3B Z.S.l Z.tb h y (SL.take i) (s:Int);rw [<- AR,RM] at D0;have Ev:=Q0a D0;have Cs:(Q1S Z.S.l Z.tb h (T.take k)++Q3q Z.S.l Z.tb h y (SL.take i)).length<=16777216:=by
       rw [J3j];have h1:=Uz.out;have h2:=Q9L Z.S.l Z.tb h y (SL.take i);rw [J4T] at h2;omega
      have Gj:Hid (∀W,Below wr.heap.size wr W->∃v' w',(Builtin.append_ #[176,176] 176 #[u5,.slice (some ⟨W.heap.size,0,none⟩) 1 1]).run prog (W.alloc (.cells #[.int .i64 y,.int .i64 s] 173))=.ok v' w'/\OutS w1 w' v' ((Q1S Z.S.l Z.tb h (T.take k)++Q3q Z.S.l Z.tb h y (SL.take i))++[((y:Int),(s:Int))])/\Grow w4 v4 w' v'):=fun W hb=>by
       obtain⟨v',w',q1,q2,q3,q4,q5⟩:=(HO.out.below hb).app Cs (y:Int) (s:Int) 176;exact⟨v',w',q1,q2,(HG.out.below hb).app q3 q4 q5⟩
      have JN:Hid (∀W,Below wr.heap.size wr W->OutS w1 W u5 (Q1S Z.S.l Z.tb h (T.take k)++Q3q Z.S.l Z.tb h y (SL.take i))/\Grow w4 v4 W u5):=fun W hb=>⟨HO.out.below hb,HG.out.below hb⟩
      have B5:(0:Int)<=(i:Int):=by omega
      have FU:(i:Int)<256:=by omega
      have DJ:(0:Int)<=(s:Int):=by omega
      have Ct:(s:Int)<256:=by omega
      clear hz he C0 Np C6 RM AR D0 Cs Hw C3 B3 Bj HO HG A7;go_wp2_with fail;refine kc.mono ?_;rintro r w5 ⟨rfl,AL⟩;have CV:=AL.alloc AL.size (.cells #[.int .u32 (e.h:Int),.int .i64 (e.r:Int)] 72);have Jl:=Q0a CV;clear AL CV kc cS b0 b1 b2;by_cases hh:e.h=h
      ·obtain⟨v',w',Ba,Au,CY⟩:=Gj.out _ Jl.out;have hq:(((e.h:Nat):Int)==(h:Int))=true:=by simp [hh]
       have HR:Hid (OutS w1 w' v' (Q1S Z.S.l Z.tb h (T.take k)++Q3q Z.S.l Z.tb h y (SL.take (i+1)))/\Grow w4 v4 w' v'):=by
        refine⟨?_,CY⟩;rw [Ev.out,if_pos (by simpa using hh),<- J3A];exact Au
       clear hh Au CY Gj JN Jl Ev;have MD:(w5.alloc (.cells #[.int .u32 (e.h:Int),.int .i64 (e.r:Int)] 72)).heap.size=w5.heap.size+1:=by simp
       rw [MD] at Ba;clear MD;go_wp2_with (at_builtin;refine Lib.wpList_append_run _ rfl _ _ _ _ rfl _ _ rfl rfl _ _ Ba ?_);go_roundg (SL.length-(i+1))
       case measure=>have:=IN.out;omega
       case rel=>exact⟨i+1,by go_num,by omega,HR.out⟩
      ·have hq:(((e.h:Nat):Int)==(h:Int))=false:=by simp;omega
       have HR:Hid (OutS w1 (w5.alloc (.cells #[.int .u32 (e.h:Int),.int .i64 (e.r:Int)] 72)) u5 (Q1S Z.S.l Z.tb h (T.take k)++Q3q Z.S.l Z.tb h y (SL.take (i+1)))/\Grow w4 v4 (w5.alloc (.cells #[.int .u32 (e.h:Int),.int .i64 (e.r:Int)] 72)) u5):=by
        rw [Ev.out,if_neg (by simpa using hh),J4G];exact JN.out _ Jl.out
       clear hh Gj JN Jl Ev;go_wp2_with fail;go_roundg (SL.length-(i+1))
       case measure=>have:=IN.out;omega
       case rel=>exact⟨i+1,by go_num,by omega,HR.out⟩
     ·have Cw:i=SL.length:=by have:=IN.out;omega
      have HR:Hid (OutS w1 wr u5 (Q1S Z.S.l Z.tb h (T.take (k+1)))):=by
       have h1:=HO.out;rw [Cw,J6J] at h1;rw [Bm.out,HX.out];exact h1
      clear HO HG;go_wp2_with fail;go_roundg (T.length-(k+1))
      case measure=>have:=B6.out;omega
      case rel=>exact⟨k+1,by go_num,by omega,HR.out⟩
  ·have Fs:k=T.length:=by have:=B6.out;omega
   have Au:=HO.out;rw [Fs,J6J] at Au;have HR:Hid (NewSp w (Q1S Z.S.l Z.tb h T) (.returned u5) wr):=⟨u5,rfl,Q2p Au.1 B4.out.size,B4.out.trans (Au.2.mono B4.out.size)⟩
   clear Au HO;go_wp2_with fail
   first|exact HR.out|(go_ret;exact HR.out)
def Q3r (next:Int) (x:Nat) (a:AV) (s:Int):AV×Nat:=if ownN a.N (x:Int) s=0 then (a,0) else Q0N 15 a (Q0H (kdF a.N) (rkF next) (ownN a.N (x:Int) s)++[ownN a.N (x:Int) s])
def Q1O (next:Int) (x:Nat):AV->List Int->AV×Nat
 | a,[]=>(a,0)
 | a,s::r=>((Q1O next x (Q3r next x a s).1 r).1,(Q3r next x a s).2+(Q1O next x (Q3r next x a s).1 r).2)
theorem wipeA_snoc (next:Int) (x:Nat):∀(l:List Int) (a:AV) (s:Int),Q1O next x a (l++[s])=((Q3r next x (Q1O next x a l).1 s).1,(Q1O next x a l).2+(Q3r next x (Q1O next x a l).1 s).2)
 | [],a,s=>by
  show ((Q3r next x a s).1,(Q3r next x a s).2+0)=((Q3r next x a s).1,0+(Q3r next x a s).2);rw [J5e,J2H]
 | y::r,a,s=>by
  rw [J4L];unfold Q1O;rw [wipeA_snoc next x r];simp only [J4a]
def J1P (Z:SP) (fr:List Nat) (N K:Nat) (M:Int) (x:Nat) (l:List Int) (w w':World):Prop:=∃Z',Z'.Ok fr N K M/\Z'.av=(Q1O Z.F.next x Z.av l).1/\SameZ Z Z'/\Step Z.hl Z'.hl w w'
structure WpI (Z:SP) (fr:List Nat) (N K:Nat) (M:Int) (x:Nat) (l:List Int) (a:Option Addr) (w:World) (k:Nat) (Z1:SP) (wr:World):Prop where
 ok:Z1.Ok fr N K M
 av:Z1.av=(Q1O Z.F.next x Z.av (l.take k)).1
 same:SameZ Z Z1
 st:Step Z.hl Z1.hl w wr
 row:AsideV Z1.hl (l.map encI) a wr
theorem Z3D {wr:World} {Z:SP} {fr:List Nat} {N K:Nat} {M:Int} (hs:Sep wr Z.hl) (ok:Z.Ok fr N K M) {x s:Nat} (hx:x<4294967296) (A7:s<256) :
  wr.cell? ⟨Z.s,1,none⟩=some (.pointer (some ⟨Z.F.f,0,none⟩))/\Calls prog 161 #[.pointer (some ⟨Z.F.f,0,none⟩),.int .i64 x,.int .i64 s] wr fun r w1=>∃id:Int,r=.returned (.int .i64 id)/\wr=w1/\((id=0/\ownN Z.F.N (x:Int) (s:Int)=0)∨(id≠0 /\
   Calls prog 157 #[.pointer (some ⟨Z.F.f,0,none⟩),.int .i64 id] w1 fun r w5=>∃(a:Option Addr) (n cap:Nat),r=.returned (.slice a n cap)/\∃(a2:Option Addr) (n2 c2:Nat) (w6:World),(Builtin.append_ #[38,38] 38 #[.slice a n cap,.slice (some ⟨w5.heap.size,0,none⟩) 1 1]).run prog (w5.alloc (.cells #[.int .i64 id] 3))=.ok (.slice a2 n2 c2) w6 /\
    Calls prog 158 #[.pointer (some ⟨Z.s,0,none⟩),.int .i64 15,.slice a2 n2 c2] w6 fun r w7=>∃v:Nat,r=.returned (.int .i64 v)/\v<=65537/\∃Z',Z'.Ok fr N K M/\Q3r Z.F.next x Z.av (s:Int)=(Z'.av,v)/\SameZ Z Z'/\Step Z.hl Z'.hl wr w7)):=by
 have g1:(0:Int)<=(x:Int):=by omega
 have g2:(x:Int)<9223372036854775808:=by omega
 have g3:(0:Int)<=(s:Int):=by omega
 have g4:(s:Int)<9223372036854775808:=by omega
 refine⟨SP.c1 hs,(Q4M (SP.sF hs) ok.fo (sp:=(x:Int)) (sl:=(s:Int)) (Q3j (p:=((x:Int),(s:Int))) g1 g2 g3 g4)).mono ?_⟩;rintro r w1 ⟨rfl,rfl⟩;refine⟨_,rfl,rfl,?_⟩;by_cases h0:ownN Z.F.N (x:Int) (s:Int)=0
 ·exact .inl ⟨h0,h0⟩
 ·refine .inr ⟨h0,?_⟩;obtain⟨n,hn,e1,e2⟩:=(Q3M Z.F.N (x:Int) (s:Int)).resolve_right fun h=>h0 ((Q1s ok.fo.n).2 h)
  have hid:=Q1L ok.fo.n hn;rw [e1,e2] at hid;have Fh:=Q0l ok.fo.n.ids hn;have De:Q3r Z.F.next x Z.av (s:Int)=Q0N 15 Z.av (revL Z.F n.id true):=by
   unfold Q3r revL;rw [if_neg (show ¬ownN Z.av.N (x:Int) (s:Int)=0 from h0),if_pos rfl];show Q0N 15 Z.av (Q0H (kdF Z.F.N) (rkF Z.F.next) (ownN Z.F.N (x:Int) (s:Int))++[ownN Z.F.N (x:Int) (s:Int)])=_;rw [hid]
  rw [hid];refine (Q7v hs ok.fo Fh).mono ?_;rintro r w5 ⟨AL,a,cap,rfl,Au⟩;have Ae:=Z1S ok.fo Fh true;have CN:(Q0H (kdF Z.F.N) (rkF Z.F.next) n.id).length<=16777216:=by
   unfold revL at Ae;rw [J3j] at Ae;omega
  obtain⟨v',w6,Ba,DW⟩:=Au.app CN n.id 38;obtain⟨a2,c2,rfl,has⟩:=DW.aside hs;refine⟨a,_,cap,rfl,a2,_,c2,w6,Ba,?_⟩;have hl:Q0H (kdF Z.F.N) (rkF Z.F.next) n.id++[n.id]=revL Z.F n.id true:=by unfold revL;rw [if_pos rfl]
  rw [hl] at has ⊢;have s6:=(hs.grown DW.2).sep;refine (Q2t s6 ok 15 (by omega) (by omega) (revL Z.F n.id true) a2 c2 (by omega) has (Q7p _ _)).mono ?_;rintro r w7 ⟨rfl,Z',k1,k2,k3,k4⟩;refine⟨_,rfl,J2z (Q5F 15 _ _) Ae,Z',k1,?_,k3,(hs.grown DW.2).trans k4⟩;rw [De,k2]
theorem Z0P {t:TB} {k:Nat} {z:Int} (h:z∈Q0w t k):∃s:Nat,z=(s:Int)/\s<k:=by
 unfold Q0w at h;obtain⟨s,hs,rfl⟩:=J2E.1 h;exact⟨s,rfl,J2P.1 (J2T.1 hs).1⟩
theorem Z3E {l:List Pl} {tb:Nat->TB} {x:Nat} {z:Int} (h:z∈Q0j l tb x):∃s:Nat,z=(s:Int)/\s<256:=by
 unfold Q0j at h;split at h
 ·cases h
 ·split at h
  ·exact Z0P h
  ·cases h
theorem Z3F (l:List Pl) (tb:Nat->TB) (x:Nat):(Q0j l tb x).length<=256:=by
 unfold Q0j;split
 ·simp
 ·split
  ·exact Q4g _ _
  ·simp
theorem Q9M {w:World} {Z:SP} {fr:List Nat} {N K:Nat} {M:Int} (hs:Sep w Z.hl) (ok:Z.Ok fr N K M) {x:Nat} (hx:x<4294967296) :
  Calls prog 163 #[.pointer (some ⟨Z.s,0,none⟩),.int .u32 x] w fun r w'=>r=.returned (.int .i64 ((Q1O Z.F.next x Z.av (Q0j Z.S.l Z.tb x)).2:Nat))/\J1P Z fr N K M x (Q0j Z.S.l Z.tb x) w w':=by
 have Rk:=Q5f hs ok hx;have Cg:Hid (∀w1 a,Below w.heap.size w w1->AsideV Z.hl ((Q0j Z.S.l Z.tb x).map encI) a w1->WpI Z fr N K M x (Q0j Z.S.l Z.tb x) a w 0 Z w1):=fun w1 a hb ha=>⟨ok,rfl,SameZ.refl Z,hs.grown hb,ha⟩
 have HS:=Q0a hs;have HX:=Q0a hx;have JT:Hid (∀z∈Q0j Z.S.l Z.tb x,∃s:Nat,z=(s:Int)/\s<256):=fun z hz=>Z3E hz
 have Cs:=Z3F Z.S.l Z.tb x;generalize hL:Q0j Z.S.l Z.tb x=l at *
 generalize hn:l.length=n at *
 have HN:=Q0a hn;have Cl:(0:Int)<=(x:Int):=by omega
 have Du:(x:Int)<4294967296:=by omega
 have LT:IntKind.i64.wrap (x:Int)=(x:Int):=Go.IntWalk.i64_in _ (by omega);have EE:=Q0a Cs;clear hs ok hx hL hn Cs;go_enter func163,ntmps163;go_wp2_with fail;refine Rk.mono ?_;rintro r w1 ⟨v,rfl,h1,h2⟩;obtain⟨a,cap,rfl,has⟩:=Q5d HS.out h1;have Kp:=Q0a (Cg.out w1 a h2 has);rw [HN.out];clear h1 h2 has Rk Cg;go_wp2_with fail
 go_loopg [5,13] n (fun gk cv iv wr=>∃(k:Nat) (Z1:SP),iv=.int .i64 k/\cv=.int .i64 ((Q1O Z.F.next x Z.av (l.take k)).2:Nat)/\(Q1O Z.F.next x Z.av (l.take k)).2<=65537*k/\k+gk=n/\WpI Z fr N K M x l a w k Z1 wr)
 case atStart=>exact⟨0,Z,rfl,rfl,J4C _,by omega,Kp.out⟩
 case round =>
  obtain⟨k,Z1,rfl,rfl,E8,AH,hI⟩:=hrel;have Cv:=Q0a AH;have HI:=Q0a hI;by_cases Ab:k<n
  ·obtain⟨z,hz⟩:∃z,l[k]?=some z:=⟨l[k]'(by rw [HN.out];exact Ab),J4R (by rw [HN.out];exact Ab)⟩
   obtain⟨s,rfl,A7⟩:=JT.out z (J4O hz);obtain⟨g,rfl,_,_,GD⟩:=hI.row k (.int .i64 s) (by rw [J4l,hz];rfl);have BB:∀(Z2:SP) (w':World) (v:Nat),Q3r Z1.F.next x Z1.av (s:Int)=(Z2.av,v)->Z2.Ok fr N K M->SameZ Z1 Z2->Step Z1.hl Z2.hl wr w'->(Q1O Z.F.next x Z.av (l.take (k+1))).2=(Q1O Z.F.next x Z.av (l.take k)).2+v/\WpI Z fr N K M x l (some ⟨g,0,none⟩) w (k+1) Z2 w':=fun Z2 w' v e k1 k2 k3=>by
    have AR:l.take (k+1)=l.take k++[(s:Int)]:=by rw [J4w,hz];rfl
    have D0:Q1O Z.F.next x Z.av (l.take (k+1))=(Z2.av,(Q1O Z.F.next x Z.av (l.take k)).2+v):=by
     rw [AR,wipeA_snoc,<- HI.out.av,<- HI.out.same.nx,e]
    exact⟨by rw [D0],k1,by rw [D0],HI.out.same.trans k2,HI.out.st.trans k3,AsideV.step HI.out.row k3⟩
   have Ds:=Q0a BB;obtain⟨CR,GH⟩:=Z3D hI.st.sep hI.ok HX.out A7;have KG:=hI.same.s;have KE:=hI.same.f;rw [KG,KE] at CR;rw [KE,KG] at GH;have HF:=Q0a GH;have C2:(k:Int)<(n:Int):=by omega
   have Bs:(0:Int)<=(k:Int):=by omega
   have FJ:(k:Int)<=256:=by have:=EE.out;omega
   have Kl:(Q1O Z.F.next x Z.av (l.take k)).2<=16777472:=by have:=EE.out;omega
   have QR:=Q0a E8;generalize A6:(Q1O Z.F.next x Z.av (l.take k)).2=c at *
   have Jp:(c:Int)<=16777472:=by omega
   have KU:(0:Int)<=(c:Int):=by omega
   have DJ:(0:Int)<=(s:Int):=by omega
   have Ct:(s:Int)<256:=by omega
   clear hI AH GH hz E8 A6 Kl BB KG KE A7;go_wp2_with fail;refine HF.out.mono ?_;rintro r w2 ⟨id,rfl,rfl,hz⟩;have HZ:=Q0a hz;clear hz HF;rcases HZ.out with ⟨rfl,h0⟩|⟨Aa,EZ⟩
   ·obtain⟨q1,q2⟩:=Ds.out Z1 wr 0 (by unfold Q3r;rw [show Z1.av.N=Z1.F.N from rfl,if_pos h0]) HI.out.ok (SameZ.refl _) (Step.refl HI.out.st.sep);have Q1:=Q0a q1;have Q2:=Q0a q2;clear q1 q2 h0 HZ Ds;go_wp2_with fail;go_roundg (n-(k+1))
    case measure=>have:=Cv.out;omega
    case rel=>exact⟨k+1,Z1,by go_num,by rw [Q1.out];simp,by rw [Q1.out];have:=QR.out;omega,by have:=Cv.out;omega,Q2.out⟩
   ·have Nr:=Q0a EZ;have Kw:(id==0)=false:=by simpa using Aa
    have Tj:(id != 0)=true:=by simpa using Aa
    have TP:wr.drew.cell? ⟨Z.s,1,none⟩=some (.pointer (some ⟨Z.F.f,0,none⟩)):=CR;clear EZ HZ;go_wp2_with fail;refine Nr.out.mono ?_;rintro r w5 ⟨a1,n1,c1,rfl,a2,n2,c2,w6,Ba,kw⟩;have Sb:=Q0a kw;clear kw Nr;go_wp2_with (at_builtin;refine Lib.wpList_append_run _ rfl _ _ _ _ rfl _ _ rfl rfl _ _ Ba ?_);refine Sb.out.mono ?_;rintro r w7 ⟨v,rfl,I6,Z2,k1,k2,k3,k4⟩;obtain⟨q1,q2⟩:=Ds.out _ _ _ k2 k1 k3 k4;have Q1:=Q0a q1;have Q2:=Q0a q2;have I1:(v:Int)<=65537:=by omega
    have S9:(0:Int)<=(v:Int):=by omega
    have TW:=Q0a I6;clear q1 q2 Sb Ds k1 k2 k3 k4 I6 Ba;go_wp2_with fail;go_roundg (n-(k+1))
    case measure=>have:=Cv.out;omega
    case rel=>exact⟨k+1,Z2,by go_num,by rw [Q1.out];simp,by rw [Q1.out];have:=QR.out;have:=TW.out;omega,by have:=Cv.out;omega,Q2.out⟩
  ·obtain rfl:k=n:=by have:=Cv.out;omega
   have HR:Hid (((Q1O Z.F.next x Z.av (l.take k)).2=(Q1O Z.F.next x Z.av l).2)/\J1P Z fr N K M x l w wr):=by
    have h1:l.take k=l:=by rw [<- HN.out,J6J]
    have h2:=hI.av;rw [h1] at h2;exact⟨by rw [h1],Z1,hI.ok,h2,hI.same,hI.st⟩
   rw [HR.out.1];clear hI AH E8;go_wp2_with fail
   first|exact⟨rfl,HR.out.2⟩|(go_ret;exact⟨rfl,HR.out.2⟩)
structure AvOk (a:AV) (next:Int):Prop where
 ok:NOk a.N next
 is:EnIs a
 r:∀h s c,a.en h s=some c->1<=c.2/\c.2<16
 has:∀h s c,a.en h s=some c->∃n∈a.N,n.q.sp=(h:Int)/\n.q.sl=(s:Int)
theorem SP.Ok.avOk {Z:SP} {fr:List Nat} {N K:Nat} {M:Int} (ok:Z.Ok fr N K M):AvOk Z.av Z.F.next:=
 ⟨ok.fo.n,ok.fpi.enIs,fun h s c hc=>ok.fpi.rights hc,fun h s c hc=>by
  obtain⟨e,he,rfl⟩:=Q3k hc;exact ok.fpi.has h s e he⟩
theorem Z8Q {N:List (En Nd)} {next:Int} (ok:NOk N next) {sp sl:Int} (h:ownN N sp sl≠0):∃n∈N,n.q.sp=sp/\n.q.sl=sl/\ownN N sp sl=n.id:=by
 rcases Q3M N sp sl with ⟨n,hn,rfl,rfl⟩|Aq
 ·exact⟨n,hn,rfl,rfl,Q1L ok hn⟩
 ·exact absurd ((Q1s ok).2 Aq) h
theorem J0N {o:Option (Nat×Nat)} (h:∀c,o=some c->c.2<16):Q8i 15 o=none:=by
 cases o with
 | none=>rfl
 | some c =>
  show (if less c.2 15=0 then none else some (c.1,less c.2 15))=none;rw [if_pos (Q4D c.2 (h c rfl))]
theorem Z3G:∀r,r<16->∀m,m<16->less r m<16:=by decide
theorem AvOk.weak1 {a:AV} {next:Int} (k:AvOk a next) {m:Nat} (hm:m<16) (id:Int):AvOk (weak1 m a id).1 next:=by
 cases hf:find a.N id with
 | none=>unfold Go.Proofs.YtfidemmgofcnmaaGreatDoor.weak1;rw [hf];exact k
 | some n =>
  have W:=Q9G (m:=m) k.ok k.is hf;refine⟨W.ok,W.is,fun h s c hc=>?_,fun h s c hc=>?_⟩
  ·rw [W.en] at hc;split at hc
   ·cases ho:a.en h s with
    | none=>rw [ho] at hc;cases hc
    | some c0 =>
     have h0:=k.r h s c0 ho;rw [ho] at hc;unfold Q8i at hc;simp only at hc;split at hc
     ·cases hc
     ·cases hc
      have:=Z3G c0.2 h0.2 m hm;exact⟨by simp only;omega,this⟩
   ·exact k.r h s c hc
  ·have AX:=W.en h s;have Ah:=W.own h s;cases ho:a.en h s with
   | none =>
    rw [ho] at AX;rw [AX] at hc;split at hc <;> cases hc
   | some c0 =>
    obtain⟨n0,CQ,q1,q2⟩:=k.has h s c0 ho;have hid:ownN a.N (h:Int) (s:Int)=n0.id:=(Q5J k.ok CQ h s).2 ⟨q1,q2⟩;have Ci:=k.ok.rng n0 CQ;have Aa:ownN (Go.Proofs.YtfidemmgofcnmaaGreatDoor.weak1 m a id).1.N (h:Int) (s:Int)≠0:=by
     rw [Ah];split
     ·rename_i hg;exfalso;obtain⟨n2,c2,g1,g2,g3⟩:=W.gone.1 hg.1;rw [if_pos hg.2] at AX;have NZ:n2=n0:=by
       obtain⟨m1,m2⟩:=Q0b g1;have h3:=Q0l k.ok.ids CQ;rw [<- hid,hg.2,g1] at h3;exact J3x h3
      rw [NZ,q1,q2,J3F,J3F,ho] at g2;cases g2;rw [ho] at AX;unfold Q8i at AX;simp only [g3,if_pos] at AX;rw [AX] at hc;cases hc
     ·rw [hid];omega
    obtain⟨n',Dj,e1,e2,_⟩:=Z8Q W.ok Aa;exact⟨n',Dj,e1,e2⟩
theorem AvOk.weakA15 {next:Int}:∀(l:List Int) {a:AV},AvOk a next->AvOk (Q0N 15 a l).1 next/\(∀h s:Nat,(Q0N 15 a l).1.en h s=none∨(Q0N 15 a l).1.en h s=a.en h s)/\∀h s:Nat,ownN a.N (h:Int) (s:Int)∈l->(Q0N 15 a l).1.en h s=none
 | [],a,k=>⟨k,fun _ _=>.inr rfl,fun _ _ h=>by cases h⟩
 | id::r,a,k=>by
  have k1:=k.weak1 (m:=15) (by omega) id;obtain⟨i1,i2,i3⟩:=AvOk.weakA15 r k1;have BA:∀h s:Nat,((Go.Proofs.YtfidemmgofcnmaaGreatDoor.weak1 15 a id).1.en h s=none∨(Go.Proofs.YtfidemmgofcnmaaGreatDoor.weak1 15 a id).1.en h s=a.en h s)/\(ownN a.N (h:Int) (s:Int)=id->(Go.Proofs.YtfidemmgofcnmaaGreatDoor.weak1 15 a id).1.en h s=none)/\(ownN a.N (h:Int) (s:Int)≠id->ownN (Go.Proofs.YtfidemmgofcnmaaGreatDoor.weak1 15 a id).1.N (h:Int) (s:Int)=ownN a.N (h:Int) (s:Int)):=fun h s=>by
   cases hf:find a.N id with
   | none =>
    have e:Go.Proofs.YtfidemmgofcnmaaGreatDoor.weak1 15 a id=(a,false):=by unfold Go.Proofs.YtfidemmgofcnmaaGreatDoor.weak1;rw [hf]
    rw [e];refine⟨.inr rfl,fun ho=>?_,fun _=>rfl⟩;cases AX:a.en h s with
    | none=>rfl
    | some c =>
     exfalso;obtain⟨n,hn,q1,q2⟩:=k.has h s c AX;have:=(Q5J k.ok hn h s).2 ⟨q1,q2⟩;have h3:=Q0l k.ok.ids hn;rw [<- this,ho,hf] at h3;cases h3
   | some n =>
    have W:=Q9G (m:=15) k.ok k.is hf;have hl:Q8i 15 (a.en h s)=none:=J0N fun c hc=>(k.r h s c hc).2
    rw [W.en,W.own,hl];refine⟨?_,fun ho=>by rw [if_pos ho],fun ho=>by rw [if_neg fun hh=>ho hh.2]⟩;split
    ·exact .inl rfl
    ·exact .inr rfl
  refine⟨i1,fun h s=>?_,fun h s hm=>?_⟩
  ·rcases i2 h s with h1|h1
   ·exact .inl h1
   ·rcases (BA h s).1 with h2|h2
    ·exact .inl (h1.trans h2)
    ·exact .inr (h1.trans h2)
  ·by_cases ho:ownN a.N (h:Int) (s:Int)=id
   ·rcases i2 h s with h1|h1
    ·exact h1
    ·exact h1.trans ((BA h s).2.1 ho)
   ·refine i3 h s ?_;rw [(BA h s).2.2 ho];rcases J2D.1 hm with h'|h'
    ·exact absurd h' ho
    ·exact h'
structure Lesser (a a':AV) (next:Int):Prop where
 ok:AvOk a' next
 en:∀h s:Nat,a'.en h s=none∨a'.en h s=a.en h s
theorem Lesser.refl {a:AV} {next:Int} (k:AvOk a next):Lesser a a next:=⟨k,fun _ _=>.inr rfl⟩
theorem Lesser.trans {a b c:AV} {next:Int} (h:Lesser a b next) (k:Lesser b c next):Lesser a c next:=⟨k.ok,fun x s=>by
 rcases k.en x s with h1|h1
 ·exact .inl h1
 ·rw [h1];exact h.en x s⟩
theorem Lesser.none {a b:AV} {next:Int} (h:Lesser a b next) {x s:Nat} (h0:a.en x s=none):b.en x s=none:=by
 rcases h.en x s with h1|h1
 ·exact h1
 ·rw [h1];exact h0
theorem Z3H {a:AV} {next:Int} (k:AvOk a next) (x s:Nat):Lesser a (Q3r next x a (s:Int)).1 next/\(Q3r next x a (s:Int)).1.en x s=none:=by
 unfold Q3r;split
 ·rename_i h0;refine⟨Lesser.refl k,?_⟩;cases AX:a.en x s with
  | none=>rfl
  | some c =>
   exfalso;obtain⟨n,hn,q1,q2⟩:=k.has x s c AX;have:=(Q5J k.ok hn x s).2 ⟨q1,q2⟩;have:=k.ok.rng n hn;omega
 ·obtain⟨h1,h2,h3⟩:=AvOk.weakA15 (Q0H (kdF a.N) (rkF next) (ownN a.N (x:Int) (s:Int))++[ownN a.N (x:Int) (s:Int)]) k;exact⟨⟨h1,h2⟩,h3 x s (by simp)⟩
theorem Q7A {next:Int} {x:Nat}:∀(l:List Nat) {a:AV},AvOk a next->Lesser a (Q1O next x a (l.map fun (s:Nat)=>(s:Int))).1 next/\∀s∈l,(Q1O next x a (l.map fun (s:Nat)=>(s:Int))).1.en x s=none
 | [],a,k=>⟨Lesser.refl k,fun _ h=>by cases h⟩
 | s::r,a,k=>by
  obtain⟨h1,h2⟩:=Z3H k x s;obtain⟨i1,i2⟩:=Q7A r h1.ok;refine⟨h1.trans i1,fun t ht=>?_⟩;rcases J2D.1 ht with rfl|ht
  ·exact i1.none h2
  ·exact i2 t ht
theorem Z6F {a:AV} {l:List Pl} {tb:Nat->TB} {N:List (En Nd)} {next:Int} {x:Nat} (ha:a=avOf l tb N) (k:AvOk a next):Lesser a (Q1O next x a (Q0j l tb x)).1 next/\∀s:Nat,(Q1O next x a (Q0j l tb x)).1.en x s=none:=by
 obtain⟨L,hL⟩:∃L:List Nat,Q0j l tb x=L.map fun (s:Nat)=>(s:Int):=by
  unfold Q0j;split
  ·exact⟨[],rfl⟩
  ·split
   ·exact⟨_,rfl⟩
   ·exact⟨[],rfl⟩
 have Az:=fun z=>mem_slotsL (l:=l) (tb:=tb) (x:=x) (z:=z)
 rw [hL] at Az ⊢;obtain⟨h1,h2⟩:=Q7A (x:=x) L k;refine⟨h1,fun s=>?_⟩;by_cases hs:s∈L
 ·exact h2 s hs
 ·refine h1.none ?_;rw [ha];show (Q0f l tb x s).map Ent.c=none;cases he:Q0f l tb x s with
  | none=>rfl
  | some e =>
   exfalso;obtain⟨p,_,_,h4,_⟩:=Q3D he;obtain⟨t,ht,Vg⟩:=J2E.1 ((Az (s:Int)).2 ⟨s,rfl,h4,e,he⟩);have:t=s:=by have h':(t:Int)=(s:Int):=Vg;omega
   exact hs (this ▸ ht)
def Q2f (a:AV) (p:Int×Int):AV×Nat:=Q0N 15 a [ownN a.N p.1 p.2]
def Q1d:AV->List (Int×Int)->AV×Nat
 | a,[]=>(a,0)
 | a,p::r=>((Q1d (Q2f a p).1 r).1,(Q2f a p).2+(Q1d (Q2f a p).1 r).2)
theorem purgeA_snoc:∀(l:List (Int×Int)) (a:AV) (p:Int×Int),Q1d a (l++[p])=((Q2f (Q1d a l).1 p).1,(Q1d a l).2+(Q2f (Q1d a l).1 p).2)
 | [],a,p=>by
  show ((Q2f a p).1,(Q2f a p).2+0)=((Q2f a p).1,0+(Q2f a p).2);rw [J5e,J2H]
 | y::r,a,p=>by
  rw [J4L];unfold Q1d;rw [purgeA_snoc r];simp only [J4a]
theorem Q9N (a:AV) (p:Int×Int):(Q2f a p).2<=1:=Q5F 15 _ a
theorem Q9O:∀(l:List (Int×Int)) (a:AV),(Q1d a l).2<=l.length
 | [],a=>J2y _
 | p::r,a=>by
  have h1:=Q9N a p;have h2:=Q9O r (Q2f a p).1;show _+_<=_;rw [J3k];omega
theorem Q6D {next:Int}:∀(l:List (Int×Int)) {a:AV},AvOk a next->Lesser a (Q1d a l).1 next/\∀h s:Nat,((h:Int),(s:Int))∈l->(Q1d a l).1.en h s=none
 | [],a,k=>⟨Lesser.refl k,fun _ _ h=>by cases h⟩
 | p::r,a,k=>by
  obtain⟨h1,h2,h3⟩:=AvOk.weakA15 [ownN a.N p.1 p.2] k;obtain⟨i1,i2⟩:=Q6D r h1;have hl:Lesser a (Q2f a p).1 next:=⟨h1,h2⟩
  refine⟨hl.trans i1,fun h s hm=>?_⟩;rcases J2D.1 hm with rfl|hm
  ·exact i1.none (h3 h s (by simp))
  ·exact i2 h s hm
def AsideS (H:HL) (L:List (Int×Int)) (a:Option Addr) (w:World):Prop:=∀(j:Nat) (x:Int×Int),L[j]?=some x->∃g,a=some ⟨g,0,none⟩/\g∉keys H/\g<w.heap.size/\w.cell? ⟨g,j*2,none⟩=some (.int .i64 x.1)/\w.cell? ⟨g,j*2+1,none⟩=some (.int .i64 x.2)
theorem AsideS.step {H H':HL} {L:List (Int×Int)} {a:Option Addr} {w w':World} (h:AsideS H L a w) (st:Step H H' w w'):AsideS H' L a w':=fun j x hj=>by
 obtain⟨g,h1,h2,h3,h4,h5⟩:=h j x hj;have e:=st.chg.block g h3 h2;refine⟨g,h1,fun hk=>?_,J2A h3 st.chg.size,(World.cell?_of_block (w:=w) e).trans h4,(World.cell?_of_block (w:=w) e).trans h5⟩;rcases st.new g hk with h'|h'
 ·exact h2 h'
 ·omega
theorem Z1X:∀(L:List (Int×Int)) (j:Nat) (x:Int×Int),L[j]?=some x->(L.flatMap encS)[j*2]?=some (.int .i64 x.1)/\(L.flatMap encS)[j*2+1]?=some (.int .i64 x.2)
 | [],j,x,h=>by simp at h
 | p::r,0,x,h=>by
  simp at h;subst h;exact⟨rfl,rfl⟩
 | p::r,j+1,x,h=>by
  have ih:=Z1X r j x (by simpa using h);rw [J2W];have e1:(j+1)*2=(j*2)+(encS p).length:=by simp [encS];omega
  have e2:(j+1)*2+1=(j*2+1)+(encS p).length:=by simp [encS];omega
  rw [e2,e1,J5O (by omega),J5O (by omega)]
  simpa using ih
theorem NewSp.aside {w w':World} {H:HL} {L:List (Int×Int)} {r:Ending} (h:NewSp w L r w') (hs:Sep w H):∃(a:Option Addr) (cap:Nat),r=.returned (.slice a L.length cap)/\Below w.heap.size w w'/\AsideS H L a w':=by
 obtain⟨v,rfl,h1,h2⟩:=h;obtain⟨a,cap,rfl,h3⟩:=Q8l h1;refine⟨a,cap,rfl,h2,fun j x hj=>?_⟩;obtain⟨e1,e2⟩:=Z1X L j x hj;obtain⟨g,rfl,q1,q2,q3⟩:=h3 _ _ e1;obtain⟨g',e,_,_,q4⟩:=h3 _ _ e2;cases e;exact⟨g,rfl,fun hk=>by have:=hs.lt hk;omega,q2,q3,q4⟩
theorem Z0Q {w:World} {H:HL} (hs:Sep w H) (T:TypeId) (cs:List Value):AsideV H cs (some ⟨w.heap.size,0,none⟩) (w.alloc (.cells cs.toArray T)):=fun j v hj =>
 ⟨w.heap.size,rfl,fun hk=>by have:=hs.lt hk;omega,by simp,(Cells.new w T cs).cell j v hj⟩
def Z9F (Z:SP) (fr:List Nat) (N K:Nat) (M:Int) (l:List (Int×Int)) (w w':World):Prop:=∃Z',Z'.Ok fr N K M/\Z'.av=(Q1d Z.av l).1/\SameZ Z Z'/\Step Z.hl Z'.hl w w'
structure PgI (Z:SP) (fr:List Nat) (N K:Nat) (M:Int) (l:List (Int×Int)) (a:Option Addr) (w:World) (k:Nat) (Z1:SP) (wr:World):Prop where
 ok:Z1.Ok fr N K M
 av:Z1.av=(Q1d Z.av (l.take k)).1
 same:SameZ Z Z1
 st:Step Z.hl Z1.hl w wr
 row:AsideS Z1.hl l a wr
theorem Z0R {wr W:World} {Z:SP} {fr:List Nat} {N K:Nat} {M:Int} (hs:Sep wr Z.hl) (ok:Z.Ok fr N K M) {x s:Nat} (hx:x<4294967296) (A7:s<256) (hb:Below wr.heap.size wr W) :
  Calls prog 161 #[.pointer (some ⟨Z.F.f,0,none⟩),.int .i64 x,.int .i64 s] W fun r w1=>r=.returned (.int .i64 (ownN Z.F.N (x:Int) (s:Int)))/\W=w1 /\
   ∀(w2:World) (a:Nat),a=w2.heap.size->Below wr.heap.size wr w2->Calls prog 158 #[.pointer (some ⟨Z.s,0,none⟩),.int .i64 15,.slice (some ⟨a,0,none⟩) 1 1] (w2.alloc (.cells #[.int .i64 (ownN Z.F.N (x:Int) (s:Int))] 3)) fun r w3=>∃v:Nat,r=.returned (.int .i64 v)/\v<=1/\(∀b,wr.heap.size<=b->b<w2.heap.size->w3.heap[b]?=w2.heap[b]?)/\∃Z',Z'.Ok fr N K M/\Q2f Z.av ((x:Int),(s:Int))=(Z'.av,v)/\SameZ Z Z'/\Step Z.hl Z'.hl wr w3:=by
 have s1:=hs.grown hb;have g1:(0:Int)<=(x:Int):=by omega
 have g2:(x:Int)<9223372036854775808:=by omega
 have g3:(0:Int)<=(s:Int):=by omega
 have g4:(s:Int)<9223372036854775808:=by omega
 refine (Q4M (SP.sF s1.sep) ok.fo (sp:=(x:Int)) (sl:=(s:Int)) (Q3j (p:=((x:Int),(s:Int))) g1 g2 g3 g4)).mono ?_;rintro r w1 ⟨rfl,rfl⟩;refine⟨rfl,rfl,fun w2 a ha Ag=>?_⟩;subst ha;have Ar:=Ag.alloc Ag.size (.cells #[.int .i64 (ownN Z.F.N (x:Int) (s:Int))] 3);have s3:=hs.grown Ar;have Ax:AsideV Z.hl ([ownN Z.F.N (x:Int) (s:Int)].map encI) (some ⟨w2.heap.size,0,none⟩) (w2.alloc (.cells #[.int .i64 (ownN Z.F.N (x:Int) (s:Int))] 3)):=Z0Q (hs.grown Ag).sep 3 [.int .i64 (ownN Z.F.N (x:Int) (s:Int))];refine (Q2t s3.sep ok 15 (by omega) (by omega) [ownN Z.F.N (x:Int) (s:Int)] (some ⟨w2.heap.size,0,none⟩) 1 (by simp) Ax (Q7p _ _)).mono ?_
 rintro r w3 ⟨rfl,Z',k1,k2,k3,st⟩;refine⟨_,rfl,Q9N Z.av ((x:Int),(s:Int)),fun b h1 h2=>?_,Z',k1,?_,k3,s3.trans st⟩
 ·have h3:b<(w2.alloc (.cells #[.int .i64 (ownN Z.F.N (x:Int) (s:Int))] 3)).heap.size:=by simp;omega
  rw [st.keep hs h1 b (J2y _) h3];exact Below.heap_alloc _ _ _ h2
 ·unfold Q2f;rw [k2];rfl
theorem Q7B {w:World} {Z:SP} {fr:List Nat} {N K:Nat} {M:Int} (hs:Sep w Z.hl) (ok:Z.Ok fr N K M) (h:Nat) :
  Calls prog 164 #[.pointer (some ⟨Z.s,0,none⟩),.int .u32 h] w fun r w'=>r=.returned (.int .i64 ((Q1d Z.av (Q2S Z.S.l Z.tb h)).2:Nat))/\Z9F Z fr N K M (Q2S Z.S.l Z.tb h) w w':=by
 have kh:=Q5q hs ok h;have Cg:Hid (∀w1 a,Below w.heap.size w w1->AsideS Z.hl (Q2S Z.S.l Z.tb h) a w1->PgI Z fr N K M (Q2S Z.S.l Z.tb h) a w 0 Z w1):=fun w1 a hb ha=>⟨ok,rfl,SameZ.refl Z,hs.grown hb,ha⟩
 have HS:=Q0a hs;have JT:Hid (∀z∈Q2S Z.S.l Z.tb h,∃x s:Nat,z=((x:Int),(s:Int))/\x<4294967296/\s<256):=fun z hz=>by
  obtain⟨x,hx,s,rfl,h3,_⟩:=mem_holdL.1 hz;obtain⟨q,hq⟩:=(Q2H (by rw [ok.core.inv.len];omega)).1 hx;exact⟨x,s,rfl,by
   obtain⟨a1,a2,_⟩:=pget_some.1 hq;have:=(ok.core.inv.lok.2 q (J4O a1)).2;unfold nm at a2;omega,h3⟩
 have Cs:(Q2S Z.S.l Z.tb h).length<=65536:=by
  have h1:=Q6C Z.S.l Z.tb h (allL Z.S.l 1);have h2:=Q1i Z.S.l 1 Z.S.l.length;rw [ok.core.inv.len] at h2;unfold Q2S;unfold allL at h1 ⊢;rw [ok.core.inv.len] at h1 ⊢;omega
 generalize hL:Q2S Z.S.l Z.tb h=l at *
 generalize hn:l.length=n at *
 have HN:=Q0a hn;have EE:=Q0a Cs;clear hs ok hL hn Cs;go_enter func164,ntmps164;go_wp2_with fail;refine kh.mono ?_;intro r w1 Du;obtain⟨a,cap,rfl,h2,has⟩:=Du.aside HS.out;have Kp:=Q0a (Cg.out w1 a h2 has);rw [HN.out];clear h2 has kh Cg Du;go_wp2_with fail
 go_loopg [5,12] n (fun gk cv iv wr=>∃(k:Nat) (Z1:SP),iv=.int .i64 k/\cv=.int .i64 ((Q1d Z.av (l.take k)).2:Nat)/\k+gk=n/\PgI Z fr N K M l a w k Z1 wr)
 case atStart=>exact⟨0,Z,rfl,rfl,by omega,Kp.out⟩
 case round =>
  obtain⟨k,Z1,rfl,rfl,AH,hI⟩:=hrel;have Cv:=Q0a AH;have HI:=Q0a hI;by_cases Ab:k<n
  ·obtain⟨z,hz⟩:∃z,l[k]?=some z:=⟨l[k]'(by rw [HN.out];exact Ab),J4R (by rw [HN.out];exact Ab)⟩
   obtain⟨x,s,rfl,Ew,A7⟩:=JT.out z (J4O hz);obtain⟨g,rfl,_,_,GD,PO⟩:=hI.row k _ hz;have BB:∀(Z2:SP) (w':World) (v:Nat),Q2f Z1.av ((x:Int),(s:Int))=(Z2.av,v)->Z2.Ok fr N K M->SameZ Z1 Z2->Step Z1.hl Z2.hl wr w'->(Q1d Z.av (l.take (k+1))).2=(Q1d Z.av (l.take k)).2+v/\PgI Z fr N K M l (some ⟨g,0,none⟩) w (k+1) Z2 w':=fun Z2 w' v e k1 k2 k3=>by
    have AR:l.take (k+1)=l.take k++[((x:Int),(s:Int))]:=by rw [J4w,hz];rfl
    have D0:Q1d Z.av (l.take (k+1))=(Z2.av,(Q1d Z.av (l.take k)).2+v):=by
     rw [AR,purgeA_snoc,<- HI.out.av,e]
    exact⟨by rw [D0],k1,by rw [D0],HI.out.same.trans k2,HI.out.st.trans k3,AsideS.step HI.out.row k3⟩
   have Ds:=Q0a BB;have HR:Hid (∀W,Below wr.heap.size wr W->W.cell? ⟨Z1.s,1,none⟩=some (.pointer (some ⟨Z1.F.f,0,none⟩))/\_):=fun W hb=>⟨SP.c1 (HI.out.st.sep.grown hb).sep,Z0R HI.out.st.sep HI.out.ok Ew A7 hb⟩
   have KG:=hI.same.s;rw [KG] at HR;have E8:=Q9O (l.take k) Z.av;rw [J4T] at E8;have C2:(k:Int)<(n:Int):=by omega
   have Bs:(0:Int)<=(k:Int):=by omega
   have FJ:(k:Int)<=65536:=by have:=EE.out;omega
   have Kl:(Q1d Z.av (l.take k)).2<=65536:=by have:=EE.out;omega
   generalize A6:(Q1d Z.av (l.take k)).2=c at *
   have Jp:(c:Int)<=65536:=by omega
   have KU:(0:Int)<=(c:Int):=by omega
   have DJ:(0:Int)<=(s:Int):=by omega
   have Ct:(s:Int)<256:=by omega
   have Cl:(0:Int)<=(x:Int):=by omega
   have Du:(x:Int)<4294967296:=by omega
   have UX:Hid (∀Z2:SP,SameZ Z1 Z2->Z2.F.f=Z1.F.f/\Z2.s=Z.s):=fun Z2 h=>⟨h.f,h.s.trans HI.out.same.s⟩
   generalize Z1.F.f=ff at *
   clear hI AH hz E8 A6 Kl BB KG A7 Ew;have BT:Below wr.heap.size wr (wr.alloc (.cells #[.int .i64 x,.int .i64 s] 173)):=(Below.refl _ _).alloc (J2y _) _;have Ir:=Cells.new wr 173 [.int .i64 x,.int .i64 s];have e0:=Ir.cell 0 _ rfl;have e1:=Ir.cell 1 _ rfl;obtain⟨d0,-⟩:=HR.out _ BT;obtain⟨d1,kf⟩:=HR.out _ BT.drew;have e0d:(wr.alloc (.cells #[.int .i64 x,.int .i64 s] 173)).drew.cell? ⟨wr.heap.size,0,none⟩=some (.int .i64 x):=e0;have e1d:(wr.alloc (.cells #[.int .i64 x,.int .i64 s] 173)).drew.cell? ⟨wr.heap.size,1,none⟩=some (.int .i64 s):=e1;have Ce:=Q0a BT;have Da:=Q0a Ir
   have BP:Hid (∀W,Below (wr.alloc (.cells #[.int .i64 x,.int .i64 s] 173)).heap.size (wr.alloc (.cells #[.int .i64 x,.int .i64 s] 173)) W->W.cell? ⟨Z.s,1,none⟩=some (.pointer (some ⟨ff,0,none⟩))/\W.cell? ⟨wr.heap.size,0,none⟩=some (.int .i64 x)/\W.cell? ⟨wr.heap.size,1,none⟩=some (.int .i64 s)):=fun W hb=>by
    have hc:=Da.out.same (hb.block _ (by simp));exact⟨(HR.out _ (Q0e hb)).1,hc.cell 0 _ rfl,hc.cell 1 _ rfl⟩
   have RT:Hid (∀W,Below (wr.alloc (.cells #[.int .i64 x,.int .i64 s] 173)).heap.size (wr.alloc (.cells #[.int .i64 x,.int .i64 s] 173)) W->∀o,Below (wr.alloc (.cells #[.int .i64 x,.int .i64 s] 173)).heap.size (wr.alloc (.cells #[.int .i64 x,.int .i64 s] 173)) (W.alloc o)):=fun W hb o=>hb.alloc hb.size o
   have EV:Hid (∀(w2 w3:World) (Z2:SP),Below (wr.alloc (.cells #[.int .i64 x,.int .i64 s] 173)).heap.size (wr.alloc (.cells #[.int .i64 x,.int .i64 s] 173)) w2->(∀b,wr.heap.size<=b->b<w2.heap.size->w3.heap[b]?=w2.heap[b]?)->SameZ Z1 Z2->Step Z1.hl Z2.hl wr w3->w3.cell? ⟨Z.s,1,none⟩=some (.pointer (some ⟨ff,0,none⟩))/\w3.cell? ⟨wr.heap.size,0,none⟩=some (.int .i64 x)/\w3.cell? ⟨wr.heap.size,1,none⟩=some (.int .i64 s)):=fun w2 w3 Z2 hb hk sm st=>by
    have hc:=Da.out.same (hb.block _ (by simp));have Gy:=hc.same (hk _ (J2y _) hc.lt);have h1:=SP.c1 st.sep;obtain⟨q1,q2⟩:=UX.out Z2 sm;rw [q1,q2] at h1;exact⟨h1,Gy.cell 0 _ rfl,Gy.cell 1 _ rfl⟩
   have D9:Hid (Below (wr.alloc (.cells #[.int .i64 x,.int .i64 s] 173)).heap.size (wr.alloc (.cells #[.int .i64 x,.int .i64 s] 173)) (wr.alloc (.cells #[.int .i64 x,.int .i64 s] 173)).drew):=(Below.refl _ _).drew;clear BT Ir;go_wp2_with fail
   go_region_held3 (fun W=>W.cell? ⟨Z.s,1,none⟩=some (.pointer (some ⟨ff,0,none⟩))/\W.cell? ⟨wr.heap.size,0,none⟩=some (.int .i64 x)/\W.cell? ⟨wr.heap.size,1,none⟩=some (.int .i64 s)) (first|exact⟨d0,e0,e1⟩|exact⟨d1,e0d,e1d⟩|exact BP.out _ (RT.out _ D9.out _)|exact QD)
    (first|(go_at_call 161;refine kf.mono ?_;rintro r w2 ⟨rfl,rfl,K9⟩;have Sr:=Q0a K9;clear K9)|(go_at_call 158;refine (Sr.out (wr.alloc (.cells #[.int .i64 x,.int .i64 s] 173)).drew (wr.heap.size+1) (by simp) Ce.out.drew).mono ?_;rintro r w3 ⟨v,rfl,hv,hk,Z2,k1,k2,k3,st⟩;have QD:=EV.out _ _ _ D9.out hk k3 st;have QF:=Q0a (Ds.out _ _ _ k2 k1 k3 st);have HV:=Q0a hv;clear hv hk k1 k2 k3 st))
   obtain⟨q1,q2⟩:=QF.out;have Q1:=Q0a q1;have Q2:=Q0a q2;have S9:(0:Int)<=(v:Int):=by omega
   have I1:(v:Int)<=1:=by have:=HV.out;omega
   clear q1 q2 QF Sr QD EV RT BP D9 Ce Da kf d0 d1 e0 e1 e0d e1d;go_wp2_with fail;go_roundg (n-(k+1))
   case measure=>have:=Cv.out;omega
   case rel=>exact⟨k+1,Z2,by go_num,by rw [Q1.out];simp;exact Go.IntWalk.i64_in _ (by omega),by have:=Cv.out;omega,Q2.out⟩
  ·obtain rfl:k=n:=by have:=Cv.out;omega
   have HR:Hid (((Q1d Z.av (l.take k)).2=(Q1d Z.av l).2)/\Z9F Z fr N K M l w wr):=by
    have h1:l.take k=l:=by rw [<- HN.out,J6J]
    have h2:=hI.av;rw [h1] at h2;exact⟨by rw [h1],Z1,hI.ok,h2,hI.same,hI.st⟩
   rw [HR.out.1];clear hI AH;go_wp2_with fail
   first|exact⟨rfl,HR.out.2⟩|(go_ret;exact⟨rfl,HR.out.2⟩)
end Go.Proofs.YtfidemmgofcnmaaGreatDoor
