/- What the laws of spaces share is proved. No condition. Part of a proof. -/
import Derived.Test.YtlakjlmaboioiaaGreatDoorVa21
import Derived.ScopeJumps
set_option maxHeartbeats 4000000
set_option maxRecDepth 1000000
set_option linter.unusedVariables false
namespace Go.Proofs.YtlakjlmaboioiaaGreatDoor
open Go.RowKit Go.Proofs.Tryz
structure Grow (w4:World) (v4:Value) (wr:World) (v:Value):Prop where
 size:w4.heap.size<=wr.heap.size
 keep:∀b,b<w4.heap.size->v4.ownBlock≠some b->wr.heap[b]?=w4.heap[b]?
 own:v.ownBlock=v4.ownBlock∨∀b,v.ownBlock=some b->w4.heap.size<=b
theorem Grow.refl (w:World) (v:Value):Grow w v w v:=⟨J2h _,fun _ _ _=>rfl,.inl rfl⟩
theorem Grow.below {w4 wr w':World} {v4 v:Value} (h:Grow w4 v4 wr v) (hb:Below wr.heap.size wr w'):Grow w4 v4 w' v:=
 ⟨J2i h.size hb.size,fun b hl hn=>(hb.block b (J2j hl h.size)).trans (h.keep b hl hn),h.own⟩
theorem Grow.app {w4 wr w':World} {v4 v v':Value} (h:Grow w4 v4 wr v) (h1:∀b,b<wr.heap.size->v.ownBlock≠some b->w'.heap[b]?=wr.heap[b]?) (h2:v'.ownBlock=v.ownBlock∨∀b,v'.ownBlock=some b->wr.heap.size<=b) (h3:wr.heap.size<=w'.heap.size):Grow w4 v4 w' v':=by
 refine⟨J2i h.size h3,fun b hl hn=>(h1 b (J2j hl h.size) fun e=>?_).trans (h.keep b hl hn),?_⟩
 ·rcases h.own with h4|h4
  ·exact hn (h4 ▸ e)
  ·have:=h4 b e;omega
 ·rcases h2 with h2|h2
  ·rw [h2];exact h.own
  ·exact .inr fun b hb=>J2i h.size (h2 b hb)
theorem Q5S {w':World} {B:Nat} {T:TypeId} {size n:Nat} {v:Value} {cs:List Value} (h:w'.ownsRow B T size v n cs):∃(a:Option Addr) (cap:Nat),v=.slice a n cap/\∀(j:Nat) (u:Value),cs[j]?=some u->∃g,a=some ⟨g,0,none⟩/\B<=g/\g<w'.heap.size/\w'.cell? ⟨g,j,none⟩=some u:=by
 obtain⟨hl,h2⟩:=h;rcases h2 with ⟨rfl,h0⟩|⟨g,cap,Ag,rfl,hg,Cs,hn,hm,B7,AW⟩
 ·refine⟨none,0,by rw [h0],fun j u hj=>?_⟩;have Ix:cs.length=0:=by rw [hl,h0,J5X]
  rw [J4g.1 Ix] at hj;simp at hj
 ·refine⟨some ⟨g,0,none⟩,cap,rfl,fun j u hj=>⟨g,rfl,hg,lt_of_block Cs,?_⟩⟩;have SN:=(J2y.1 hj).1;have e:Ag.toList[j]?=some u:=by
   rw [<- AW] at hj;have hk:j<n*size:=by omega
   rwa [J4k,if_pos hk] at hj
  unfold World.cell?;simp only [Cs]
  simpa using e
theorem NewIs.from' {w w':World} {L:List Int} {r:Ending} (h:NewIs w L r w'):∃(a:Option Addr) (cap:Nat),r=.returned (.slice a L.length cap)/\Below w.heap.size w w'/\∀(j:Nat) (z:Int),L[j]?=some z->∃g,a=some ⟨g,0,none⟩/\w.heap.size<=g/\g<w'.heap.size/\w'.cell? ⟨g,j,none⟩=some (.int .i64 z):=by
 obtain⟨v,rfl,h1,h2⟩:=h;obtain⟨a,cap,rfl,h3⟩:=Q5S h1;exact⟨a,cap,rfl,h2,fun j z hz=>h3 j _ (by rw [J3S,hz];rfl)⟩
theorem Z6J {w:World} {Z:SP} {fr:List Nat} {N K:Nat} {M:Int} (hs:Sep w Z.hl) (ok:Z.Ok fr N K M) {y:Nat} (hy:y∈allL Z.S.l 1):y<4294967296 /\
  ((∃e:Int,e≠0/\Q0n Z.S.l Z.tb y=[]/\Calls prog 73 #[.pointer (some ⟨Z.s,0,none⟩),.int .u32 y] w (Told w (.tuple #[.agg #[.pointer none,.int .u32 0,.int .i64 0],.int .i64 e]))) ∨
   ∃p,pget Z.S.l 1 y=some p/\p.kind=2/\Calls prog 73 #[.pointer (some ⟨Z.s,0,none⟩),.int .u32 y] w fun r w'=>∃g:Nat,r=.returned (.tuple #[.agg #[.pointer (some ⟨g,0,none⟩),.int .u32 y,.int .i64 (p.fac:Int)],.int .i64 0])/\Below w.heap.size w w'/\TblZ Z p g w'/\w.heap.size<=g):=by
 have A4:=ok.core.inv.lok;obtain⟨q,hq⟩:=(Q1t (by rw [A4.1];omega)).1 hy;have C5:y<4294967296:=by
  obtain⟨a1,a2,_⟩:=pget_some.1 hq;have:=(A4.2 q (J4v a1)).2;unfold nm at a2;omega
 refine⟨C5,?_⟩;by_cases hk:q.kind=2
 ·exact .inr ⟨q,hq,hk,Q9C hs ok.core C5 hq hk⟩
 ·refine .inl ⟨10,by decide,?_,Q0J hs ok.core C5 10 (.inr ⟨q,hq,hk,rfl⟩)⟩;unfold Q0n;rw [hq];simp only;rw [if_neg hk]
theorem Z9d {w w1 w4 wr:World} {Z:SP} {fr:List Nat} {N K:Nat} {M:Int} (hs:Sep w Z.hl) (ok:Z.Ok fr N K M) {y:Nat} {p:Pl} (hp:pget Z.S.l 1 y=some p) (hk:p.kind=2) (hb:Below w.heap.size w wr) {g:Nat} (Ij:TblZ Z p g w4) {v4 v:Value} (G:Grow w4 v4 wr v) (Aa:v4.ownBlock≠some g) {s:Nat} (A9:s<256) {e:Ent} (he:Q0f Z.S.l Z.tb y s=some e) :
  Calls prog 74 #[.agg #[.pointer (some ⟨g,0,none⟩),.int .u32 y,.int .i64 (p.fac:Int)],.int .i64 s] wr (Told wr (.tuple #[.agg #[.int .u32 (e.h:Int),.int .i64 (e.r:Int)],.bool true])):=by
 have s4:=(hs.grown hb).sep;have Dk:TblZ Z p g wr:=fun j u hj=>by
  obtain⟨g',h1,h2,h3,h4⟩:=Ij j u hj;cases h1;exact⟨g,rfl,h2,J2j h3 G.size,(World.cell?_of_block (w:=w4) (G.keep g h3 Aa)).trans h4⟩
 have hi:=(pget_some.1 hp).1;have Ap:=(pget_some.1 hp).2.2;have T:=(ok.tpi.x (p.fac:Int)).tt ok.core hi Ap hk (SP.sS s4) Dk.c;have AC:(Z.tb (y%256)).at' (s:Int)=some e:=by
  unfold TB.at';rw [if_pos ⟨by omega,by omega⟩,J3m];rw [Q0h hp hk A9] at he;exact he
 have kc:=Q1w T (y:Int) (p.fac:Int) (s:Int) fun e' AL=>by rw [AC] at AL;cases AL;exact ok.fpi.low ok.core.inv.lok he
 rw [AC] at kc;exact kc
theorem Q3t {w:World} {Z:SP} {fr:List Nat} {N K:Nat} {M:Int} (hs:Sep w Z.hl) (ok:Z.Ok fr N K M) (h:Nat) :
  Calls prog 23 #[.pointer (some ⟨Z.s,0,none⟩),.int .u32 h] w (NewSp w (Q2J Z.S.l Z.tb h)):=by
 have c0:=SP.c0 hs;have kl:=Q2F (SP.sS hs) ok.core.inv.lok;have JL:Hid (∀W y,Below w.heap.size w W->y∈allL Z.S.l 1->_):=fun W y hb hy=>Z6J (hs.grown hb).sep ok hy
 have Ez:Hid (∀(y:Nat) (p:Pl) (w4 wr:World) (g s:Nat) (v4 v:Value) (e:Ent),pget Z.S.l 1 y=some p->p.kind=2->Below w.heap.size w wr->TblZ Z p g w4->Grow w4 v4 wr v->v4.ownBlock≠some g->s<256->Q0f Z.S.l Z.tb y s=some e->_):=fun y p w4 wr g s v4 v e hp hk hb Ij G Aa A9 he=>Z9d (w1:=w) hs ok hp hk hb Ij G Aa A9 he
 have Nn:Hid (∀(y:Nat) (p:Pl) (g:Nat) (W:World),pget Z.S.l 1 y=some p->p.kind=2->Below w.heap.size w W->TblZ Z p g W->Calls prog 89 #[.pointer (some ⟨g,0,none⟩)] W (NewIs W (Q0n Z.S.l Z.tb y))):=fun y p g W hp hk hb hg=>by
  have T:=(ok.tpi.x (p.fac:Int)).tt ok.core (pget_some.1 hp).1 (pget_some.1 hp).2.2 hk (SP.sS (hs.grown hb).sep) hg.c;have e:Q0n Z.S.l Z.tb y=Q0X (Z.tb (y%256)) 256:=by unfold Q0n;rw [hp];simp only;rw [if_pos hk]
  rw [e];exact Q7G T
 have OH:Hid (∀(p:Pl) (g:Nat) (W W':World),Below w.heap.size w W->TblZ Z p g W->Below W.heap.size W W'->TblZ Z p g W'):=fun p g W W' hb hg Al=>hg.grown (hs.grown hb).sep Al
 have Tk:(allL Z.S.l 1).length<=256:=by
  have:=Q1Y Z.S.l 1 Z.S.l.length;unfold allL;rw [ok.core.inv.len] at this ⊢;exact this
 have Ft:Hid (∀T:List Nat,T.length<=256->(Q1U Z.S.l Z.tb h T).length<=65536):=fun T hT=>J2i (Q6G _ _ _ T) (by omega)
 have IS:Hid (∀y,(Q0n Z.S.l Z.tb y).length<=256/\∀z∈Q0n Z.S.l Z.tb y,∃s:Nat,z=(s:Int)/\s<256/\∃e,Q0f Z.S.l Z.tb y s=some e):=fun y=>⟨Q2X _ _ _,fun z hz=>mem_slotsL.1 hz⟩
 have Hl:=Q0a Tk;unfold Q2J;clear hs ok Tk;generalize hT:allL Z.S.l 1=T at *
 go_enter func23,ntmps23;go_wp2_with fail;refine kl.mono ?_;intro r w1 Dg;obtain⟨a0,Li,rfl,Av,FE⟩:=Dg.shape;have Bg:=Q0a Av;have FV:=Q0a FE;clear Dg Av FE kl c0;go_wp2_with fail
 go_loopg [5,22] T.length (fun gk ov iv wr=>∃k:Nat,iv=.int .i64 k/\k+gk=T.length/\OutS w1 wr ov (Q1U Z.S.l Z.tb h (T.take k)))
 case atStart=>exact⟨0,rfl,J4L _,OutS.nil w1⟩
 case round =>
  obtain⟨k,rfl,A7,Aq⟩:=hrel;have HO:=Q0a Aq;have Bi:=Q0a A7;clear Aq;by_cases Ab:k<T.length
  ·obtain⟨y,hy⟩:∃y,T[k]?=some y:=⟨_,J4y Ab⟩
   obtain⟨g0,rfl,Ln,Dm,Ah⟩:=(FV.out.below HO.out.2).at' k y hy;obtain⟨C5,MS⟩:=JL.out wr y (Bg.out.trans (HO.out.2.mono Bg.out.size)) (J4v hy);have AJ:Hid (Q1U Z.S.l Z.tb h (T.take (k+1))=Q1U Z.S.l Z.tb h (T.take k)++Q5E Z.S.l Z.tb h y):=by
    rw [J4d,hy];exact Z3B _ _ _ _ _
   have HY:=Q0a hy;have FP:(k:Int)<256:=by have:=Hl.out;omega
   have By:(0:Int)<=(k:Int):=by omega
   have Rj:(0:Int)<=(y:Int):=by omega
   have RC:(y:Int)<4294967296:=by omega
   have WO:IntKind.i64.wrap (y:Int)=(y:Int):=Go.IntWalk.i64_in _ (by omega);clear hy A7 C5;rcases MS with ⟨e,Aa,F5,Ey⟩|⟨p,hp,A2,Ey⟩
   ·have B9:(e != 0)=true:=by simpa using Aa
    have HR:Hid (∀W,Below wr.heap.size wr W->OutS w1 W u5 (Q1U Z.S.l Z.tb h (T.take (k+1)))):=fun W hb=>by
     rw [AJ.out];unfold Q5E Q3s;rw [F5]
     simpa using HO.out.below hb
    clear Aa F5 HO;go_wp2_with fail;refine Ey.mono ?_;rintro r w2 ⟨rfl,Af⟩;have Dl:=Q0a (HR.out _ (Af.alloc Af.size (.cells #[.pointer none,.int .u32 0,.int .i64 0] 155)));clear Af HR Ey;go_wp2_with fail;go_roundg (T.length-(k+1))
    case measure=>have:=Bi.out;omega
    case rel=>exact⟨k+1,by go_num,by omega,Dl.out⟩
   ·go_wp2_with fail;refine Ey.mono ?_;rintro r w2 ⟨g,rfl,Af,Jw,B8⟩;have BY:Below w2.heap.size w2 (w2.alloc (.cells #[.pointer (some ⟨g,0,none⟩),.int .u32 y,.int .i64 (p.fac:Int)] 155)):=(Below.refl _ _).alloc (J2h _) _;have CN:Below w.heap.size w wr:=Bg.out.trans (HO.out.2.mono Bg.out.size);have IM:Below w.heap.size w w2:=CN.trans (Af.mono CN.size);have KR:=IM.trans (BY.mono IM.size);have M9:=OH.out p g w2 _ IM Jw BY;have ks:=Nn.out y p g _ hp A2 KR M9;have IW:Hid (OutS w1 (w2.alloc (.cells #[.pointer (some ⟨g,0,none⟩),.int .u32 y,.int .i64 (p.fac:Int)] 155)) u5 (Q1U Z.S.l Z.tb h (T.take k))):=(HO.out.below Af).below BY
    have AG:=Q0a (Cells.new w2 155 [.pointer (some ⟨g,0,none⟩),.int .u32 y,.int .i64 (p.fac:Int)]);have OZ:Hid (∀b,u5.ownBlock=some b->b<wr.heap.size):=fun b hb=>(HO.out.1.lt b hb).2
    have Up:=Q0a B8;have HP:Hid (pget Z.S.l 1 y=some p/\p.kind=2):=⟨hp,A2⟩
    have NN:=Q0a M9;have Q8:Hid (wr.heap.size<=w2.heap.size):=Af.size;have Ow:=Q0a KR;clear BY CN IM KR M9 Jw Af B8 hp A2 Ey HO Ah Dm Ln;go_wp2_with fail;refine ks.mono ?_;intro r w4 K4;obtain⟨aS,PE,rfl,A5,Az⟩:=K4.from'
    have Ao:=Q0a A5;have RJ:=Q0a (IW.out.below A5);have Wc:=Q0a (OH.out p g _ w4 Ow.out NN.out A5);have WW:=Q0a (Ow.out.trans (A5.mono Ow.out.size));have Mh:=Q0a (AG.out.same (A5.block _ (by simp)));have Fl:Hid (∀(j:Nat) (z:Int),(Q0n Z.S.l Z.tb y)[j]?=some z->∃gS,aS=some ⟨gS,0,none⟩/\w2.heap.size<=gS/\gS<w4.heap.size/\w4.cell? ⟨gS,j,none⟩=some (.int .i64 z)):=fun j z hz=>by
     obtain⟨gS,h1,h2,h3,h4⟩:=Az j z hz;exact⟨gS,h1,by simp at h2;omega,h3,h4⟩
    obtain⟨Vi,Nu⟩:=IS.out y;have Ks:=Q0a Nu;have HX:Hid (Q5E Z.S.l Z.tb h y=Q3s Z.S.l Z.tb h y (Q0n Z.S.l Z.tb y)):=rfl;have VH:=Q0a (Ft.out (T.take k) (by rw [J4A];have:=Hl.out;omega));generalize hSL:Q0n Z.S.l Z.tb y=SL at *
    clear K4 A5 Az Nu ks IW AG NN Ow Nn IS OH JL;go_wp2_with fail;obtain⟨gko,GN⟩:∃g,g=gk:=⟨_,rfl⟩
    subst GN;obtain⟨wo,P3⟩:∃wo,wo=wr:=⟨_,rfl⟩
    subst P3;obtain⟨v4,VU⟩:∃v4,v4=u5:=⟨_,rfl⟩
    subst VU
    go_loopg [5,38] SL.length (fun gi ov iv wi=>∃i:Nat,iv=.int .i64 i/\i+gi=SL.length/\OutS w1 wi ov (Q1U Z.S.l Z.tb h (T.take k)++Q3s Z.S.l Z.tb h y (SL.take i))/\Grow w4 v4 wi ov)
    case atStart=>exact⟨0,rfl,by omega,by simpa [Q3s] using RJ.out,Grow.refl _ _⟩
    case round =>
     clear RJ;obtain⟨i,rfl,IA,Aq,Dk⟩:=hrel;have I2:=Q0a IA;have HO:=Q0a Aq;have HG:=Q0a Dk;clear IA Aq Dk;by_cases Hs:i<SL.length
     ·obtain⟨z,hz⟩:∃z,SL[i]?=some z:=⟨_,J4y Hs⟩
      obtain⟨s,rfl,A9,e,he⟩:=Ks.out z (J4v hz);obtain⟨gS,rfl,Cz,B8,Bs⟩:=Fl.out i _ hz;have IU:∀b,wo.heap.size<=b->v4.ownBlock≠some b:=fun b hb hx=>by have:=OZ.out b hx;omega
      have B7:=Q8.out;have cS:wr.cell? ⟨gS,i,none⟩=some (.int .i64 s):=(World.cell?_of_block (w:=w4) (HG.out.keep gS B8 (IU gS (by omega)))).trans Bs;have O8:=Mh.out.same (HG.out.keep w2.heap.size Mh.out.lt (IU _ B7));have b0:=O8.cell 0 _ rfl;have b1:=O8.cell 1 _ rfl;have b2:=O8.cell 2 _ rfl;have B3:Below w.heap.size w wr:=Bg.out.trans (HO.out.2.mono Bg.out.size);have kc:=Ez.out y p w4 wr g s v4 u5 e HP.out.1 HP.out.2 B3 Wc.out HG.out (IU g Up.out) A9 he;have Sr:hasH Z.S.l Z.tb h y (s:Int)=decide (e.h=h):=by
       unfold hasH;rw [J3m,he]
      have AW:SL.take (i+1)=SL.take i++[(s:Int)]:=by rw [J4d,hz];rfl
      have DW:=Z3A Z.S.l Z.tb h y (SL.take i) (s:Int);rw [<- AW,Sr] at DW;have Oo:=Q0a DW;have CS:(Q1U Z.S.l Z.tb h (T.take k)++Q3s Z.S.l Z.tb h y (SL.take i)).length<=16777216:=by
       rw [J2R];have h1:=VH.out;have h2:=Q9L Z.S.l Z.tb h y (SL.take i);rw [J4A] at h2;omega
      have Ih:Hid (∀W,Below wr.heap.size wr W->∃v' w',(Builtin.append_ #[49,49] 49 #[u5,.slice (some ⟨W.heap.size,0,none⟩) 1 1]).run prog (W.alloc (.cells #[.int .i64 y,.int .i64 s] 46))=.ok v' w'/\OutS w1 w' v' ((Q1U Z.S.l Z.tb h (T.take k)++Q3s Z.S.l Z.tb h y (SL.take i))++[((y:Int),(s:Int))])/\Grow w4 v4 w' v'):=fun W hb=>by
       obtain⟨v',w',q1,q2,q3,q4,q5⟩:=(HO.out.below hb).app CS (y:Int) (s:Int) 49;exact⟨v',w',q1,q2,(HG.out.below hb).app q3 q4 q5⟩
      have K0:Hid (∀W,Below wr.heap.size wr W->OutS w1 W u5 (Q1U Z.S.l Z.tb h (T.take k)++Q3s Z.S.l Z.tb h y (SL.take i))/\Grow w4 v4 W u5):=fun W hb=>⟨HO.out.below hb,HG.out.below hb⟩
      have BJ:(0:Int)<=(i:Int):=by omega
      have Gw:(i:Int)<256:=by omega
      have D1:(0:Int)<=(s:Int):=by omega
      have C2:(s:Int)<256:=by omega
      clear hz he Bs O8 B3 Sr AW DW CS IU Cz B8 B7 HO HG A9;go_wp2_with fail;refine kc.mono ?_;rintro r w5 ⟨rfl,AH⟩;have CC:=AH.alloc AH.size (.cells #[.int .u32 (e.h:Int),.int .i64 (e.r:Int)] 35);have Gy:=Q0a CC;clear AH CC kc cS b0 b1 b2;by_cases hh:e.h=h
      ·obtain⟨v',w',Br,Aq,Dk⟩:=Ih.out _ Gy.out;have hq:(((e.h:Nat):Int)==(h:Int))=true:=by simp [hh]
       have HR:Hid (OutS w1 w' v' (Q1U Z.S.l Z.tb h (T.take k)++Q3s Z.S.l Z.tb h y (SL.take (i+1)))/\Grow w4 v4 w' v'):=by
        refine⟨?_,Dk⟩;rw [Oo.out,if_pos (by simpa using hh),<- J3h];exact Aq
       clear hh Aq Dk Ih K0 Gy Oo;have Nz:(w5.alloc (.cells #[.int .u32 (e.h:Int),.int .i64 (e.r:Int)] 35)).heap.size=w5.heap.size+1:=by simp
       rw [Nz] at Br;clear Nz;go_wp2_with (at_builtin;refine Lib.wpList_append_run _ rfl _ _ _ _ rfl _ _ rfl rfl _ _ Br ?_);go_roundg (SL.length-(i+1))
       case measure=>have:=I2.out;omega
       case rel=>exact⟨i+1,by go_num,by omega,HR.out⟩
      ·have hq:(((e.h:Nat):Int)==(h:Int))=false:=by simp;omega
       have HR:Hid (OutS w1 (w5.alloc (.cells #[.int .u32 (e.h:Int),.int .i64 (e.r:Int)] 35)) u5 (Q1U Z.S.l Z.tb h (T.take k)++Q3s Z.S.l Z.tb h y (SL.take (i+1)))/\Grow w4 v4 (w5.alloc (.cells #[.int .u32 (e.h:Int),.int .i64 (e.r:Int)] 35)) u5):=by
        rw [Oo.out,if_neg (by simpa using hh),J4n];exact K0.out _ Gy.out
       clear hh Ih K0 Gy Oo;go_wp2_with fail;go_roundg (SL.length-(i+1))
       case measure=>have:=I2.out;omega
       case rel=>exact⟨i+1,by go_num,by omega,HR.out⟩
     ·have C1:i=SL.length:=by have:=I2.out;omega
      have HR:Hid (OutS w1 wr u5 (Q1U Z.S.l Z.tb h (T.take (k+1)))):=by
       have h1:=HO.out;rw [C1,J6q] at h1;rw [AJ.out,HX.out];exact h1
      clear HO HG;go_wp2_with fail;go_roundg (T.length-(k+1))
      case measure=>have:=Bi.out;omega
      case rel=>exact⟨k+1,by go_num,by omega,HR.out⟩
  ·have Fz:k=T.length:=by have:=Bi.out;omega
   have Aq:=HO.out;rw [Fz,J6q] at Aq;have HR:Hid (NewSp w (Q1U Z.S.l Z.tb h T) (.returned u5) wr):=⟨u5,rfl,Q1L Aq.1 Bg.out.size,Bg.out.trans (Aq.2.mono Bg.out.size)⟩
   clear Aq HO;go_wp2_with fail
   first|exact HR.out|(go_ret;exact HR.out)
open Go.Sort (Holds putRow holds_putRow holds_ahead putRow_self reverseLoop swp size_swp)
theorem Q9M (blk cap:Nat) (d:Array Int) (w:World) (hH:Holds encI w blk 0 d) (B7:d.size<=65536) :
  Calls prog 167 #[.slice (some ⟨blk,0,none⟩) d.size cap] w fun e w'=>e=.returned (.tuple #[])/\∃n,w'=putRow encI (Go.Sort.ahead w n) blk 0 d.reverse:=by
 go_enter func167,ntmps167;go_wp2_with fail
 go_loopg [2,3] d.size (fun k s2 s3 wr=>∃(i jn:Nat) (jz:Int) (dk:Array Int) (n:Nat),s2=.int .i64 i/\s3=.int .i64 jz/\((i:Int)<jz->jz=jn/\jn<d.size)/\(¬(i:Int)<jz->¬i<jn)/\jn-i<=k /\
  dk.size=d.size/\wr=putRow encI (Go.Sort.ahead w n) blk 0 dk/\reverseLoop i jn dk=reverseLoop 0 (d.size-1) d)
 case atStart=>exact⟨0,d.size-1,(d.size:Int)-1,d,0,rfl,rfl,fun h=>⟨by omega,by omega⟩,fun h=>by omega,by omega,rfl,(putRow_self encI w blk 0 d hH).symm,rfl⟩
 case round =>
  obtain⟨i,jn,jz,dk,n,rfl,rfl,h1,h2,hk,Gv,IO,GC⟩:=hrel;by_cases Ab:(i:Int)<jz
  ·obtain⟨rfl,NX⟩:=h1 Ab;have G1:i<jn:=by omega
   have Kd:Holds encI wr blk 0 dk:=by rw [IO];exact holds_putRow encI _ blk 0 d dk (holds_ahead encI w n blk 0 d hH) Gv
   obtain⟨ci,fi⟩:=Kd i (by omega);obtain⟨cj,fj⟩:=Kd jn (by omega);have A:Go.Aside (wr=putRow encI (Go.Sort.ahead w n) blk 0 dk):=IO;have SW:Hid (((wr.setCell ⟨blk,i,none⟩ (.int .i64 dk[jn]!)).setCell ⟨blk,jn,none⟩ (.int .i64 dk[i]!)).drew=putRow encI (Go.Sort.ahead w (n+1)) blk 0 (swp dk i jn)):=by
    have:=swap_world encI (off:=0) (i:=i) (j:=jn) (by omega) (by omega) IO rfl rfl;rw [J4L,J4L] at this;exact this
   clear IO Kd hH h1 h2;go_wp2_with fail;rw [J4L] at ci fi cj fj;unfold encI at ci cj;go_region
   all_goals
    go_wp2_with fail;go_roundg (jn-1-(i+1))
    case measure=>omega
    case rel =>
     rw [reverseLoop,if_pos G1] at GC;exact⟨i+1,jn-1,(jn:Int)-1,swp dk i jn,n+1,by go_num,by go_num,fun h=>⟨by omega,by omega⟩,fun h=>by omega,J2h _,by rw [size_swp];exact Gv,
      (by have Kt:=SW.out;first|exact Kt|(simp only [getElem!_pos dk jn (by omega)] at Kt;exact Kt)),GC⟩
  ·have DO:=h2 Ab;go_wp2_with fail
   first|go_end0|skip
   refine⟨rfl,n,?_⟩;rw [reverseLoop,if_neg DO] at GC;rw [<- Go.Lib.reverseLoop_reverse,<- GC]
end Go.Proofs.YtlakjlmaboioiaaGreatDoor
namespace Go.Proofs.YtlakjlmaboioiaaGreatDoor
open Go.RowKit Go.Proofs.Tryz
theorem OutI.parts {w wr:World} {g n cap:Nat} {L:List Int} (h:OutI w wr (.slice (some ⟨g,0,none⟩) n cap) L):∃Ag,n=L.length/\w.heap.size<=g/\wr.heap[g]?=some (.cells Ag 3 (0,0))/\L.length<=cap/\cap<=maxLen/\Ag.size=cap/\Ag.toList.take L.length=(L.map encI):=by
 rcases h.1.2 with ⟨h',_⟩|⟨g',BH,Ag,h',a1,a2,a3,a4,a5,a6⟩
 ·simp at h'
 ·simp only [Value.slice.injEq,J2v,Addr.mk.injEq,and_true] at h';obtain⟨rfl,rfl,rfl⟩:=h';exact⟨Ag,rfl,a1,a2,a3,a4,by simpa using a5,by simpa using a6⟩
theorem OutI.cellAt {w wr:World} {g n cap:Nat} {L:List Int} (h:OutI w wr (.slice (some ⟨g,0,none⟩) n cap) L) {j:Nat} {x:Int} (hj:L[j]?=some x):wr.cell? ⟨g,j,none⟩=some (.int .i64 x)/\w.heap.size<=g/\g<wr.heap.size:=by
 obtain⟨Ag,_,a1,a2,_,_,_,a6⟩:=h.parts;refine⟨?_,a1,lt_of_block a2⟩;have hv:(L.map encI)[j]?=some (.int .i64 x):=by rw [J3S,hj];rfl
 rw [<- a6,J4k] at hv;split at hv
 ·simp only [World.cell?,a2,J5k,J5Z,if_false];rw [<- J4H];exact hv
 ·cases hv
theorem OutI.cut {w wr:World} {g n cap:Nat} {x:Int} {L:List Int} (h:OutI w wr (.slice (some ⟨g,0,none⟩) n cap) (L++[x])):OutI w wr (.slice (some ⟨g,0,none⟩) L.length cap) L:=by
 obtain⟨Ag,_,a1,a2,a3,a4,a5,a6⟩:=h.parts;have hl:L.length+1<=cap:=by simpa using a3
 refine⟨⟨by simp [List.length_map],.inr ⟨g,cap,Ag,rfl,a1,a2,by omega,a4,by simpa using a5,?_⟩⟩,h.2⟩;have:=congrArg (List.take L.length) a6;rw [J4C,J2R,J5K,show min L.length (L.length+[x].length)=L.length by simp] at this;rw [J3n,this];have e:(L.map encI).length=L.length:=J3Q _;rw [<- e,J4F]
theorem Z3C {w wr:World} {g n cap:Nat} {L:List Int} (h:OutI w wr (.slice (some ⟨g,0,none⟩) n cap) L):Go.Sort.Holds encI wr g 0 L.toArray:=by
 obtain⟨Ag,_,a1,a2,_,_,_,a6⟩:=h.parts;intro j hj;have Bw:j<L.length:=by simpa using hj
 have hx:=J4y Bw;refine⟨?_,by simp [World.frozen?,a2]⟩;have:=(h.cellAt hx).1;rw [J4L,this,getElem!_pos _ j hj];simp [encI]
theorem Q7c (Ag:Array Value) (F:Array Int) (h:F.size<=Ag.size):(Go.Sort.putCells encI 0 F Ag).toList.take F.size=F.toList.map encI:=by
 apply J3P
 intro j;by_cases hj:j<F.size
 ·rw [J6z hj,J4H];simp [Go.Sort.putCells,hj,show j<Ag.size by omega]
 ·rw [J6A (by omega),J3W (by simp;omega)]
theorem Z6K {w:World} {g n:Nat} {Ag:Array Value} {e:TypeId} (d:Array Int) (hb:w.heap[g]?=some (.cells Ag e (0,0))) :
  (Go.Sort.putRow encI (Go.Sort.ahead w n) g 0 d).heap[g]?=some (.cells (Go.Sort.putCells encI 0 d Ag) e (0,0)):=by
 have hg:g<w.heap.size:=(J6B.1 hb).1;simp [Go.Sort.putRow,Go.Sort.mapBlock,Go.Sort.ahead,Array.getElem?_modify,hb,Go.Sort.onCells]
theorem Z3D {w:World} {g n:Nat} (d:Array Int):w.grownBy (Go.Sort.putRow encI (Go.Sort.ahead w n) g 0 d) (some g):=by
 refine⟨rfl,rfl,rfl,by simp [Go.Sort.putRow,Go.Sort.mapBlock,Go.Sort.ahead],fun k hk Aa=>?_⟩;have:g≠k:=fun e=>Aa (by rw [e])
 simp [Go.Sort.putRow,Go.Sort.mapBlock,Go.Sort.ahead,Array.getElem?_modify,this]
theorem OutI.reversed {w wr:World} {g n cap k:Nat} {L:List Int} (h:OutI w wr (.slice (some ⟨g,0,none⟩) n cap) L):OutI w (Go.Sort.putRow encI (Go.Sort.ahead wr k) g 0 L.toArray.reverse) (.slice (some ⟨g,0,none⟩) n cap) L.reverse:=by
 obtain⟨Ag,rfl,a1,a2,a3,a4,a5,a6⟩:=h.parts;have Dk:=Z3D (w:=wr) (g:=g) (n:=k) L.toArray.reverse;have B7:L.toArray.reverse.size=L.length:=by simp
 refine⟨⟨by simp [List.length_map],.inr ⟨g,cap,_,by rw [J6C],a1,Z6K _ a2,by simpa using a3,a4,by simp [Go.Sort.putCells,a5],?_⟩⟩,h.2.trans ((Below.refl _ wr).mono h.2.size |>.grown Dk h.2.size (fun b hb=>by cases hb;exact a1))⟩;have e:L.reverse.length*1=L.toArray.reverse.size:=by simp
 rw [e,Q7c _ _ (by rw [B7,a5];exact a3)];simp
theorem OutI.alloc {w wr:World} {v:Value} {L:List Int} (h:OutI w wr v L) (o:Obj):OutI w (wr.alloc o) v L:=⟨h.1.alloc _,h.2.alloc h.2.size _⟩
theorem OutI.app0 {w wr w1:World} {v v':Value} {L M:List Int} (h:OutI w wr v L) (Ak:w1.ownsRow w.heap.size 3 1 v' (L.length+M.length) (L.map encI++M.map encI)) (hg:wr.grownBy w1 v.ownBlock):OutI w w1 v' (L++M):=
 ⟨by rw [J2R,J5K];exact Ak,h.2.trans ((Below.refl _ wr).mono h.2.size |>.grown hg h.2.size (fun b hb=>(h.1.lt b hb).1))⟩
def TwoI (w wr:World) (v:Value) (L:List Int) (u:Value) (M:List Int):Prop:=OutI w wr v L/\OutI w wr u M/\∀b,v.ownBlock=some b->u.ownBlock≠some b
theorem TwoI.swap {w wr:World} {v u:Value} {L M:List Int} (h:TwoI w wr v L u M):TwoI w wr u M v L:=⟨h.2.1,h.1,fun b h1 h2=>h.2.2 b h2 h1⟩
theorem TwoI.below {w wr w1:World} {v u:Value} {L M:List Int} (h:TwoI w wr v L u M) (hb:Below wr.heap.size wr w1):TwoI w w1 v L u M:=⟨h.1.below hb,h.2.1.below hb,h.2.2⟩
theorem TwoI.alloc {w wr:World} {v u:Value} {L M:List Int} (h:TwoI w wr v L u M) (o:Obj):TwoI w (wr.alloc o) v L u M:=⟨h.1.alloc o,h.2.1.alloc o,h.2.2⟩
theorem TwoI.cut {w wr:World} {g n cap:Nat} {x:Int} {u:Value} {L M:List Int} (h:TwoI w wr (.slice (some ⟨g,0,none⟩) n cap) (L++[x]) u M):TwoI w wr (.slice (some ⟨g,0,none⟩) L.length cap) L u M:=⟨h.1.cut,h.2.1,h.2.2⟩
theorem TwoI.app {w wr w1:World} {v v' u:Value} {L M X:List Int} (h:TwoI w wr v L u M) (Ak:w1.ownsRow w.heap.size 3 1 v' (L.length+X.length) (L.map encI++X.map encI)) (hg:wr.grownBy w1 v.ownBlock) (AC:v'.ownBlock=v.ownBlock∨v'.ownBlock=some wr.heap.size):TwoI w w1 v' (L++X) u M:=by
 obtain⟨h1,h2,h3⟩:=h;have hb:Below w.heap.size w w1:=h1.2.trans ((Below.refl _ wr).mono h1.2.size |>.grown hg h1.2.size (fun b hb=>(h1.1.lt b hb).1));refine⟨h1.app0 Ak hg,⟨h2.1.kept hg ?_,hb⟩,fun b e1 e2=>?_⟩
 ·cases hv:v.ownBlock with
  | none=>cases hu:u.ownBlock with
   | none=>exact .inl rfl
   | some c=>exact .inr (by simp)
  | some b=>exact .inr (fun e=>h3 b hv e)
 ·rcases AC with e|e
  ·exact h3 b (e ▸ e1) e2
  ·rw [e] at e1;cases e1;exact absurd (h2.1.lt _ e2).2 (by omega)
theorem Z2f {w:World} {B:Nat} {v:Value} {L M:List Int} {rv:RV} {ty:TypeId} (h:w.ownsRow B 3 1 v L.length (L.map encI)) (hM:∀g cap,rv=some (g,cap)->∀(j:Nat) (x:Int),M[j]?=some x->w.cell? ⟨g,j,none⟩=some (.int .i64 x)) (AQ:rvOk rv M.length) (hn:L.length+M.length<=16777216) (hB:B<=w.heap.size) :
  ∃v' w',(Builtin.append_ #[36,36] ty #[v,lvOf rv M.length]).run prog w=.ok v' w'/\w'.ownsRow B 3 1 v' (L.length+M.length) (L.map encI++M.map encI)/\w.grownBy w' v.ownBlock/\(v'.ownBlock=v.ownBlock∨v'.ownBlock=some w.heap.size):=by
 obtain⟨i0,DE,BN,Bt,Bp⟩:=info_parts Z0R;cases rv with
 | none =>
  have QK:M=[]:=J4x AQ;subst QK;exact⟨v,w,run_append_owned_none w B 36 ty 3 i0 1 underlying36 DE v _ _ h,by simpa using h,⟨rfl,rfl,rfl,J2h _,fun _ _ _=>rfl⟩,.inl rfl⟩
 | some p =>
  obtain⟨g,cap⟩:=p;obtain⟨v',w',e1,e2,e3,_,e5⟩:=run_append_own_at (P:=prog) w B 36 ty 3 i0 (.int .i64 0) 1 8 underlying36 DE BN Bt Bp rfl (by decide) v _ _ h ⟨g,0,none⟩ M.length cap (M.map encI) (by simp) (fun j u hj=>by
   rw [J3S] at hj;obtain⟨x,hx,rfl⟩:=J6e.1 hj;have:=hM g cap rfl j x hx;have e:(⟨g,0,none⟩:Addr).add j=⟨g,j,none⟩:=by unfold Addr.add;split <;> simp_all
   rw [e];exact this) (fun u hu=>by
    obtain⟨x,_,rfl⟩:=J2n.1 hu;rfl) (by unfold maxLen;omega) (by omega) hB
  exact⟨v',w',e1,e2,e3,e5⟩
theorem Z0Y {w wr:World} {q:FO} (h:Sep w q.hl) (ok:q.Ok) {x:Int} {e:En Nd} (hf:find q.N x=some e) {g n cap:Nat} {u:Value} {ws M:List Int} (T:TwoI w wr (.slice (some ⟨g,0,none⟩) n cap) (ws++[x]) u M) (hws:ws.length<=65536) (hM:M.length<=65536) :
  ∃v1 w1 v2 w2,(Builtin.append_ #[36,36] 36 #[.slice (some ⟨g,0,none⟩) ws.length cap,lvOf (q.kr x) e.q.ks.length]).run prog wr.drew=.ok v1 w1 /\
   (Builtin.append_ #[36,36] 36 #[u,.slice (some ⟨w1.heap.size,0,none⟩) 1 1]).run prog (w1.alloc (.cells #[.int .i64 x] 3))=.ok v2 w2/\TwoI w w2 v1 (ws++e.q.ks) v2 (M++[x]):=by
 obtain⟨BS,Fg⟩:=Q0b hf;have C8:=ok.n.kids_few BS;have Hc:=ok.few;have AQ:=ok.rv e BS;rw [Fg] at AQ;have T1:TwoI w wr.drew (.slice (some ⟨g,0,none⟩) ws.length cap) ws u M:=T.cut.below ((Below.refl _ _).drew);have hs:Sep wr.drew q.hl:=(h.grown T1.1.2).sep;obtain⟨R,p1,_⟩:=FO.split ok.n.ids hf;have Az:Sep wr.drew (rowH (q.kr x) 3 1 (e.q.ks.map encI)):=(hs.perm p1).left.tail;obtain⟨v1,w1,r1,o1,g1,b1⟩:=Z2f (rv:=q.kr x) (M:=e.q.ks) (ty:=36) T1.1.1 (fun g' BH hr j y hj=>by
  rw [hr] at Az;exact Q0Y Az j _ (by rw [J3S,hj];rfl)) AQ (by omega) T1.1.2.size
 have T2:=T1.app o1 g1 b1;have T3:=T2.swap.alloc (.cells #[.int .i64 x] 3);have cn:=Cells.new w1 3 [.int .i64 x];obtain⟨v2,w2,r2,o2,g2,b2⟩:=Z2f (rv:=some (w1.heap.size,1)) (M:=[x]) (ty:=36) T3.1.1 (fun g' BH hr j y hj=>by
  cases hr
  exact cn.cell j _ (by
   cases j with
   | zero=>simp at hj;subst hj;rfl
   | succ j=>simp at hj)) ⟨J2h _,by unfold maxLen;omega⟩ (by simp;omega) T3.1.2.size
 exact⟨v1,w1,v2,w2,r1,r2,(T3.app o2 g2 b2).swap⟩
theorem OutI.shape {w wr:World} {v:Value} {L:List Int} (h:OutI w wr v L):∃(a:Option Addr) (cap:Nat),v=.slice a L.length cap:=by
 rcases h.1.2 with ⟨rfl,h0⟩|⟨g,cap,Ag,rfl,_⟩
 ·exact⟨none,0,by rw [h0]⟩
 ·exact⟨_,cap,rfl⟩
theorem OutI.shape1 {w wr:World} {v:Value} {L:List Int} (h:OutI w wr v L) (hl:L≠[]):∃(g cap:Nat),v=.slice (some ⟨g,0,none⟩) L.length cap:=by
 rcases h.1.2 with ⟨rfl,h0⟩|⟨g,cap,Ag,rfl,_⟩
 ·exact absurd (J4x h0) hl
 ·exact⟨g,cap,rfl⟩
theorem TwoI.startI (w:World) (x:Int):TwoI w (w.alloc (.cells #[.int .i64 x] 3)) (.slice (some ⟨w.heap.size,0,none⟩) 1 1) [x] (.slice none 0 0) []:=by
 have hb:Below w.heap.size w (w.alloc (.cells #[.int .i64 x] 3)):=(Below.refl _ _).alloc (J2h _) _;refine⟨⟨?_,hb⟩,(OutI.nil w).below hb,fun b _=>by simp [Value.ownBlock]⟩;refine⟨by simp,.inr ⟨w.heap.size,1,#[.int .i64 x],rfl,J2h _,Cells.new w 3 [.int .i64 x],J2h _,by unfold maxLen;omega,by simp,by simp⟩⟩
structure BelI (q:FO) (id:Int) (ws M:List Int):Prop where
 eq:M++Q9p (kdF q.N) (rkF q.next) ws=preT (kdF q.N) (rkF q.next) id
 nodes:∀y∈ws,∃e,find q.N y=some e
theorem Z3E {q:FO} (ok:q.Ok) {id y:Int} {e:En Nd} (hf:find q.N id=some e) (hy:y∈preT (kdF q.N) (rkF q.next) id):∃e',find q.N y=some e':=by
 have hd:=(Z1X ok.n.tree).1 hy;rcases hd.last with rfl|⟨z,_,hz⟩
 ·exact⟨e,hf⟩
 ·unfold kdF at hz;cases JZ:find q.N z with
  | none=>rw [JZ] at hz;cases hz
  | some p =>
   rw [JZ] at hz;obtain⟨p1,_⟩:=Q0b JZ;obtain⟨k,hk,_⟩:=ok.n.kids p p1 y hz;exact⟨k,hk⟩
theorem Z2g {q:FO} (ok:q.Ok) {id:Int} {e:En Nd} (hf:find q.N id=some e):(preT (kdF q.N) (rkF q.next) id).length<=65536:=by
 have AD:(preT (kdF q.N) (rkF q.next) id).Nodup:=(Q6r ok.n.tree id).imp fun h=>h.1
 have:=J6v AD (l₂:=q.N.map En.id) (fun y hy=>by
  obtain⟨k,hk⟩:=Z3E ok hf hy;obtain⟨k1,k2⟩:=Q0b hk;exact J2n.2 ⟨k,k1,k2⟩)
 rw [J3Q] at this;have:=ok.few;omega
theorem BelI.start {q:FO} {id:Int} {e:En Nd} (hf:find q.N id=some e):BelI q id [id] []:=⟨by simp [Q9p],fun y hy=>by
 rw [J4o] at hy;subst hy;exact⟨e,hf⟩⟩
theorem BelI.step {q:FO} (ok:q.Ok) {id x:Int} {e:En Nd} {ws M:List Int} (b:BelI q id (ws++[x]) M) (hf:find q.N x=some e):BelI q id (ws++e.q.ks) (M++[x]):=by
 have hk:kdF q.N x=e.q.ks:=by unfold kdF;rw [hf]
 refine⟨?_,fun y hy=>?_⟩
 ·rw [<- b.eq,Z3l ok.n.tree,hk];simp
 ·rcases J2V.1 hy with hy|hy
  ·exact b.nodes y (by simp [hy])
  ·obtain⟨e1,_⟩:=Q0b hf;obtain⟨k,hk,_⟩:=ok.n.kids e e1 y hy;exact⟨k,hk⟩
theorem BelI.len {q:FO} (ok:q.Ok) {id:Int} {e:En Nd} (hf:find q.N id=some e) {ws M:List Int} (b:BelI q id ws M):ws.length<=65536/\M.length<=65536/\M.length<=(preT (kdF q.N) (rkF q.next) id).length:=by
 have h1:=Z2g ok hf;have h2:=Z6o (kdF q.N) (rkF q.next) ok.n.tree ws;rw [<- b.eq,J2R] at h1 ⊢;omega
theorem BelI.done {q:FO} (ok:q.Ok) {id:Int} {M:List Int} (b:BelI q id [] M):M.reverse=Q0H (kdF q.N) (rkF q.next) id++[id]:=by
 have h:=b.eq;have h0:Q9p (kdF q.N) (rkF q.next) []=[]:=rfl;rw [h0,J4n,Q3H ok.n.tree] at h;rw [h];simp
def slen:Value->Nat
 | .slice _ n _=>n
 | _=>0
theorem Q9N {w wr:World} {q:FO} (h:Sep w q.hl) (ok:q.Ok) {id x:Int} {e:En Nd} (hf:find q.N id=some e) {g n cap:Nat} {u:Value} {ws M:List Int} (T:TwoI w wr (.slice (some ⟨g,0,none⟩) n cap) (ws++[x]) u M) (B:BelI q id (ws++[x]) M) :
  n=ws.length+1/\ws.length+1<=cap/\ws.length+1<=65536/\cap<=maxLen/\wr.cell? ⟨g,ws.length,none⟩=some (.int .i64 x)/\∃(xb:Nat) (a0:Option Addr) (n0 c0:Nat),
   (wr.cell? ⟨q.f,0,none⟩=some (.map (some q.m))/\(Instr.lookup 279 (.map (some q.m)) (.int .i64 x) false).run prog wr=.ok (.pointer (some ⟨xb,0,none⟩)) wr/\wr.cell? ⟨xb,3,none⟩=some (.slice a0 n0 c0)) /\
   (wr.drew.cell? ⟨q.f,0,none⟩=some (.map (some q.m))/\(Instr.lookup 279 (.map (some q.m)) (.int .i64 x) false).run prog wr.drew=.ok (.pointer (some ⟨xb,0,none⟩)) wr.drew/\wr.drew.cell? ⟨xb,3,none⟩=some (.slice a0 n0 c0)) /\
   ∃(a1:Option Addr) (n1 c1:Nat) (w1:World) (v2:Value) (w2:World),(Builtin.append_ #[36,36] 36 #[.slice (some ⟨g,0,none⟩) ws.length cap,.slice a0 n0 c0]).run prog wr.drew=.ok (.slice a1 n1 c1) w1 /\
    (Builtin.append_ #[36,36] 36 #[u,.slice (some ⟨w1.heap.size,0,none⟩) 1 1]).run prog (w1.alloc (.cells #[.int .i64 x] 3))=.ok v2 w2 /\
    ∃ws',TwoI w w2 (.slice a1 n1 c1) ws' v2 (M++[x])/\BelI q id ws' (M++[x])/\slen v2=slen u+1/\slen u+1<=(preT (kdF q.N) (rkF q.next) id).length:=by
 obtain⟨Ag,hn,_,_,AM,IX,_⟩:=T.1.parts;obtain⟨l1,l2,_⟩:=B.len ok hf;obtain⟨ex,Gm⟩:=B.nodes x (by simp);rw [J2R,J6i] at hn AM l1;obtain⟨v1,w1,v2,w2,r1,r2,Ji⟩:=Z0Y h ok Gm T (by omega) l2;have B2:=B.step ok Gm;obtain⟨_,_,l3⟩:=B2.len ok hf;obtain⟨a1,c1,rfl⟩:=Ji.1.shape;obtain⟨a2,c2,Gc⟩:=Ji.2.1.shape;obtain⟨au,cu,hu⟩:=T.2.1.shape;have hs:Sep wr q.hl:=(h.grown T.1.2).sep;have k3:=(FO.nd0 hs Gm).2.2.2;have K6:=(FO.nd0 hs.drew Gm).2.2.2;have Qb:=(Q0b Gm).2;rw [Qb] at k3 K6;obtain⟨a0,n0,c0,Kx⟩:∃a n c,lvOf (q.kr x) ex.q.ks.length=.slice a n c:=by
  cases q.kr x with
  | none=>exact⟨_,_,_,rfl⟩
  | some p=>exact⟨_,_,_,rfl⟩
 rw [Kx] at k3 K6 r1;refine⟨hn,AM,by omega,IX,(T.1.cellAt (j:=ws.length) (x:=x) (by simp)).1,ex.b,a0,n0,c0,⟨FO.c0 hs,FO.look_some hs Gm,k3⟩,⟨FO.c0 hs.drew,FO.look_some hs.drew Gm,K6⟩,a1,_,c1,w1,v2,w2,r1,r2,ws++ex.q.ks,Ji,B2,?_,?_⟩
 ·rw [Gc,hu];simp [slen]
 ·rw [hu];rw [J2R,J6i] at l3;exact l3
theorem Z0Z {w:World} {q:FO} (h:Sep w q.hl) (ok:q.Ok) {id:Int} {e:En Nd} (hf:find q.N id=some e) :
  Calls prog 84 #[.pointer (some ⟨q.f,0,none⟩),.int .i64 id] w (NewIs w (Q0H (kdF q.N) (rkF q.next) id)):=by
 have ka:=Q2U h hf;have HH:=Q0a h;have Ct:=Q0a ok;have HF:=Q0a hf;obtain⟨-,-,-,-,GZ,xb,a0,n0,c0,⟨f0,lk,k3⟩,⟨f0d,lkd,K6⟩,a1,n1,c1,w1,v2,w2,r1,r2,ws',Ji,JK,Ac,EJ⟩:=Q9N (ws:=[]) h ok hf (TwoI.startI w id) (BelI.start hf);rw [J4G] at GZ r1;have Ik:=Q0a r1;have N9:IntKind.i64.wrap 0=0:=Go.IntWalk.i64_in _ (by omega);have Kb:=Q0a Ji;have Ee:=Q0a JK;clear h ok hf Ji JK r1 Ac EJ;go_enter func84,ntmps84;go_wp2_with fail;refine wp_scope_jumps 0 (fun a' w'=>∃(wv ov:Value) (ws M:List Int) (u7 u8 u9 u10 u11 u12 u13 u14 u15 u16 u17 u18 u19 u20 u21 u22 u23 u24 u25 u26 u27 u28 u29 u30 u31 u32 u33 u34 u35 u36 u37 u38 u39 u40 u41 u42 u43 u44 u45 u46 u47 u48:Value),a'={tmps:=#[.pointer (some ⟨q.f,0,none⟩),.int .i64 id,undef,undef,.slice none 0 0,ov,wv,u7,u8,u9,u10,u11,u12,u13,u14,u15,u16,u17,u18,u19,u20,u21,u22,u23,u24,u25,u26,u27,u28,u29,u30,u31,u32,u33,u34,u35,u36,u37,u38,u39,u40,u41,u42,u43,u44,u45,u46,u47,u48],defers:=[]}/\TwoI w w' wv ws ov M/\BelI q id ws M) (fun a' _=>(preT (kdF q.N) (rkF q.next) id).length-slen (a'.tmps.getD 5 undef)) rfl ?_ ?_
 ·go_wp2_with fail;refine ka.mono ?_;rintro r w' ⟨rfl,rfl⟩;go_wp2_with fail
  go_step3
  go_wp2_with fail
  go_region_law (refine Q0F rfl (.tmp 27) (.tmp 36) 36 36 rfl _ _ (by simp [Act.eval]) (by simp [Act.eval]) Ik.out ?_)
  all_goals
   go_wp2_with (at_builtin;refine Lib.wpList_append_run _ rfl _ _ _ _ rfl _ _ rfl rfl _ _ r2 ?_)
   go_step3
   refine⟨rfl,.slice a1 n1 c1,v2,ws',[]++[id],_,_,_,_,_,_,_,_,_,_,_,_,_,_,_,_,_,_,_,_,_,_,_,_,_,_,_,_,_,_,_,_,_,_,_,_,_,_,_,_,_,_,rfl,Kb.out,Ee.out⟩
 ·rintro a' wr ⟨wv,ov,ws,M,u7,u8,u9,u10,u11,u12,u13,u14,u15,u16,u17,u18,u19,u20,u21,u22,u23,u24,u25,u26,u27,u28,u29,u30,u31,u32,u33,u34,u35,u36,u37,u38,u39,u40,u41,u42,u43,u44,u45,u46,u47,u48,rfl,hT,hB⟩;have A6:ws=[]∨∃(ws':List Int) (y:Int),ws=ws'++[y]:=by
   rcases J6D ws with h|⟨a,b,h⟩
   ·exact .inl h
   ·exact .inr ⟨a,b,by rw [h,J6E]⟩
  rcases A6 with rfl|⟨ws0,x,rfl⟩
  ·have BF:=hB.done Ct.out;have GK:=(hB.len Ct.out HF.out).2.1;have Aa:M≠[]:=fun e=>by rw [e] at BF;simp at BF
   obtain⟨aw,cw,rfl⟩:=hT.1.shape;obtain⟨g,co,rfl⟩:=hT.2.1.shape1 Aa;obtain⟨_,_,_,_,LO,_⟩:=hT.2.1.parts;have DL:=Q9M g co M.toArray wr (Z3C hT.2.1) (by simpa using GK);have Bj:∀n,NewIs w (Q0H (kdF q.N) (rkF q.next) id) (.returned (.slice (some ⟨g,0,none⟩) (Q0H (kdF q.N) (rkF q.next) id).length co)) (Go.Sort.putRow encI (Go.Sort.ahead wr n) g 0 M.toArray.reverse):=fun n=>by
    have h1:=hT.2.1.reversed (k:=n);rw [BF] at h1;have h2:=h1.cut;exact⟨_,rfl,h2.1,h2.2⟩
   have DD:M.length=(Q0H (kdF q.N) (rkF q.next) id).length+1:=by
    have:=congrArg List.length BF
    simpa using this
   have Bm:=Q0a Bj;rw [show M.toArray.size=M.length from rfl] at DL;rw [DD] at DL LO GK ⊢;generalize hm:(Q0H (kdF q.N) (rkF q.next) id).length=m at *
   have Ia:((m:Nat):Int)<=(co:Int):=by omega
   have AM:m<=co:=by omega
   have WN:(m:Int)<65536:=by omega
   have hw:IntKind.i64.wrap (m:Int)=(m:Int):=Go.IntWalk.i64_in _ (by omega);clear Bj hT hB BF Aa DD hm GK LO Kb Ee Ik r2 GZ f0 lk k3 f0d lkd K6 ka;generalize NewIs w (Q0H (kdF q.N) (rkF q.next) id)=Q at *
   go_wp2_with fail;refine DL.mono ?_;rintro r w3 ⟨rfl,n,rfl⟩;have HQ:=Q0a (Bm.out n);clear DL Bm;generalize Go.Sort.putRow encI (Go.Sort.ahead wr n) g 0 M.toArray.reverse=w3 at *
   go_wp2_with fail
   try simp only [Exit.jump]
   first|exact HQ.out|(go_ret;exact HQ.out)
  ·clear Kb Ee Ik r2 GZ f0 lk k3 f0d lkd K6 ka N9;obtain⟨g,cap,rfl⟩:=hT.1.shape1 (by simp);obtain⟨hn,AM,Sd,_,GZ,xb,a0,n0,c0,⟨f0,lk,k3⟩,⟨f0d,lkd,K6⟩,a1,n1,c1,w1,v2,w2,r1,r2,ws',Ji,JK,Ac,EJ⟩:=Q9N HH.out Ct.out HF.out hT hB;have Ik:=Q0a r1;have Kb:=Q0a Ji;have Ee:=Q0a JK;obtain⟨au,cu,rfl⟩:=hT.2.1.shape;have AA:(preT (kdF q.N) (rkF q.next) id).length-slen v2<(preT (kdF q.N) (rkF q.next) id).length-slen (.slice au M.length cu):=by omega
   have PU:=Q0a AA;rw [hn];generalize ws0.length=n at *
   have Ia:((n:Nat):Int)<=(cap:Int):=by omega
   have R6:n<=cap:=by omega
   have WL:(n:Int)<65536:=by omega
   have hw:IntKind.i64.wrap (n:Int)=(n:Int):=Go.IntWalk.i64_in _ (by omega);have Dw:(0:Int)<=(n:Int):=by omega
   clear hT hB Ji JK r1 AA Ac EJ hn AM Sd;go_wp2_with fail
   go_region_law (refine Q0F rfl (.tmp 27) (.tmp 36) 36 36 rfl _ _ (by simp [Act.eval]) (by simp [Act.eval]) Ik.out ?_)
   all_goals
    go_wp2_with (at_builtin;refine Lib.wpList_append_run _ rfl _ _ _ _ rfl _ _ rfl rfl _ _ r2 ?_)
    go_step3
    refine⟨rfl,⟨.slice a1 n1 c1,v2,ws',M++[x],_,_,_,_,_,_,_,_,_,_,_,_,_,_,_,_,_,_,_,_,_,_,_,_,_,_,_,_,_,_,_,_,_,_,_,_,_,_,_,_,_,_,rfl,Kb.out,Ee.out⟩,PU.out⟩
theorem Q6H {w:World} {Z:SP} (hs:Sep w Z.hl) (ok:Z.F.Ok) {x z g f:Nat} (hx:x<4294967296) (hz:z<256) :
  Calls prog 83 #[.pointer (some ⟨Z.s,0,none⟩),.agg #[.pointer (some ⟨g,0,none⟩),.int .u32 x,.int .i64 f],.int .i64 z] w (Told w (.int .i64 (ownN Z.F.N (x:Int) (z:Int)))):=by
 have b1:Below w.heap.size w (w.alloc (.cells #[.pointer (some ⟨g,0,none⟩),.int .u32 x,.int .i64 f] 155)):=(Below.refl _ _).alloc (J2h _) _;have s1:=(hs.grown b1).sep;have c1:=SP.c1 s1;have Q6:(w.alloc (.cells #[.pointer (some ⟨g,0,none⟩),.int .u32 x,.int .i64 f] 155)).drew.cell? ⟨Z.s,1,none⟩=some (.pointer (some ⟨Z.F.f,0,none⟩)):=c1;have hB:=Cells.new w 155 [.pointer (some ⟨g,0,none⟩),.int .u32 x,.int .i64 f];have q1:=hB.cell 1 _ rfl;have Uz:(w.alloc (.cells #[.pointer (some ⟨g,0,none⟩),.int .u32 x,.int .i64 f] 155)).drew.cell? ⟨w.heap.size,1,none⟩=some (.int .u32 x):=q1;have g1:(0:Int)<=(x:Int):=by omega
 have g2:(x:Int)<9223372036854775808:=by omega
 have g3:(0:Int)<=(z:Int):=by omega
 have g4:(z:Int)<9223372036854775808:=by omega
 have kf:=Q4R (SP.sF s1.drew) ok (sp:=(x:Int)) (sl:=(z:Int)) (Q3q (p:=((x:Int),(z:Int))) g1 g2 g3 g4);have HR:Hid (Below w.heap.size w (w.alloc (.cells #[.pointer (some ⟨g,0,none⟩),.int .u32 x,.int .i64 f] 155)).drew):=b1.drew;have Dg:(x:Int)<4294967296:=by omega
 have MO:IntKind.i64.wrap (x:Int)=(x:Int):=Go.IntWalk.i64_in _ (by omega);generalize ownN Z.F.N (x:Int) (z:Int)=oid at *
 clear hs ok hx hz b1 s1 hB g2 g3 g4;go_enter func83,ntmps83;go_wp2_with fail
 go_region_held3 (fun w'=>w'.cell? ⟨Z.s,1,none⟩=some (.pointer (some ⟨Z.F.f,0,none⟩))/\w'.cell? ⟨w.heap.size,1,none⟩=some (.int .u32 x)) (first|exact⟨c1,q1⟩|exact⟨Q6,Uz⟩)
  (first|(go_at_call 88;refine kf.mono ?_;rintro r w' ⟨rfl,rfl⟩))
 go_wp2_with fail
 first|exact⟨rfl,HR.out⟩|(go_ret;exact⟨rfl,HR.out⟩)
def revL (q:FO) (id:Int) (self:Bool):List Int:=Q0H (kdF q.N) (rkF q.next) id++if self=true then [id] else []
theorem Z2h {q:FO} (ok:q.Ok) {id:Int} {e:En Nd} (hf:find q.N id=some e) (self:Bool):(revL q id self).length<=65537:=by
 have h:=Z2g ok hf;rw [Q3H ok.n.tree,J2S,J6C] at h;unfold revL;rw [J2R];split <;> simp <;> omega
theorem Q7K {w:World} {Z:SP} (hs:Sep w Z.hl) (ok:Z.F.Ok) {id:Int} {e:En Nd} (hf:find Z.F.N id=some e) :
  Calls prog 84 #[.pointer (some ⟨Z.F.f,0,none⟩),.int .i64 id] w fun r w'=>Below w.heap.size w w'/\∃(a:Option Addr) (cap:Nat),r=.returned (.slice a (Q0H (kdF Z.F.N) (rkF Z.F.next) id).length cap)/\OutI w w' (.slice a (Q0H (kdF Z.F.N) (rkF Z.F.next) id).length cap) (Q0H (kdF Z.F.N) (rkF Z.F.next) id):=by
 refine (Z0Z (SP.sF hs) ok hf).mono ?_;rintro r w' ⟨v,rfl,h1,h2⟩;obtain⟨a,cap,rfl⟩:=OutI.shape (w:=w) (wr:=w') ⟨h1,h2⟩;exact⟨h2,a,cap,rfl,h1,h2⟩
theorem OutI.aside {w w':World} {H:HL} {v:Value} {L:List Int} (h:OutI w w' v L) (hs:Sep w H):∃(a:Option Addr) (cap:Nat),v=.slice a L.length cap/\AsideV H (L.map encI) a w':=Q7E hs h.1
def RevR (Z:SP) (fr:List Nat) (N K:Nat) (M:Int) (x:Nat) (z mask:Int) (self:Bool) (w:World) (r:Ending) (w':World):Prop:=
 (∃e:Int,r=.returned (.tuple #[.int .i64 0,.int .i64 e])/\Below w.heap.size w w'/\((pget Z.S.l 1 x=none/\e=8)∨∃p,pget Z.S.l 1 x=some p/\((p.kind≠2/\e=10)∨(p.kind=2/\¬(0<=z/\z<256)/\e=2) ∨
  (p.kind=2/\(0<=z/\z<256)/\¬(0<mask/\mask<=15)/\e=1)∨(p.kind=2/\(0<=z/\z<256)/\(0<mask/\mask<=15)/\Q0f Z.S.l Z.tb x z.toNat=none/\e=6)))) ∨
 (∃(s m:Nat) (n:En Nd) (en:Ent),z=(s:Int)/\mask=(m:Int)/\s<256/\1<=m/\m<16/\Q0f Z.S.l Z.tb x s=some en/\n∈Z.F.N/\n.q.sp=(x:Int)/\n.q.sl=(s:Int) /\
  r=.returned (.tuple #[.int .i64 ((Q0M m Z.av (revL Z.F n.id self)).2:Nat),.int .i64 0])/\Q8y Z fr N K M m (revL Z.F n.id self) w w')
theorem Z3F {w:World} {Z:SP} {fr:List Nat} {N K:Nat} {M:Int} (hs:Sep w Z.hl) (ok:Z.Ok fr N K M) {x:Nat} (hx:x<4294967296) {p:Pl} (hp:pget Z.S.l 1 x=some p) (hk:p.kind=2) {s m:Nat} (A9:s<256) (D2:1<=m) (hm:m<16) {en:Ent} (he:Q0f Z.S.l Z.tb x s=some en) (self:Bool) :
  Calls prog 20 #[.pointer (some ⟨Z.s,0,none⟩),.int .u32 x,.int .i64 s,.int .i64 m,.bool self] w (RevR Z fr N K M x (s:Int) (m:Int) self w):=by
 have ks:=Q0U hs ok.core hx hp hk;have hi:=(pget_some.1 hp).1;have Ap:=(pget_some.1 hp).2.2;obtain⟨n,hn,n1,n2,Ak,ER⟩:=ok.fpi.own ok.fo.n he;have AC:(Z.tb (x%256)).at' (s:Int)=some en:=by
  unfold TB.at';rw [if_pos ⟨by omega,by omega⟩,J3m,<- Q0h hp hk A9];exact he
 have AA:=ok.fpi.low ok.core.inv.lok he;have HC:Hid (∀(w2:World) (g:Nat),Below w.heap.size w w2->TblZ Z p g w2->Calls prog 74 #[.agg #[.pointer (some ⟨g,0,none⟩),.int .u32 x,.int .i64 (p.fac:Int)],.int .i64 s] (w2.alloc (.cells #[.pointer (some ⟨g,0,none⟩),.int .u32 x,.int .i64 (p.fac:Int)] 155)) (fun r w4=>r=.returned (.tuple #[.agg #[.int .u32 (en.h:Int),.int .i64 (en.r:Int)],.bool true]) /\
   ∀o,Below w.heap.size w (w4.alloc o)/\Cells (w4.alloc o) w2.heap.size 155 [.pointer (some ⟨g,0,none⟩),.int .u32 x,.int .i64 (p.fac:Int)])):=fun w2 g Af hg=>by
  have As:Below w2.heap.size w2 (w2.alloc (.cells #[.pointer (some ⟨g,0,none⟩),.int .u32 x,.int .i64 (p.fac:Int)] 155)):=(Below.refl _ _).alloc (J2h _) _;have BP:=Af.alloc Af.size (.cells #[.pointer (some ⟨g,0,none⟩),.int .u32 x,.int .i64 (p.fac:Int)] 155);have s2:=(hs.grown Af).sep;have T:=(ok.tpi.x (p.fac:Int)).tt ok.core hi Ap hk (SP.sS (s2.grown As).sep) (hg.grown s2 As).c;refine (Q1w T (x:Int) (p.fac:Int) (s:Int) fun e AL=>by rw [AC] at AL;cases AL;exact AA).mono ?_;rw [AC];rintro r w4 ⟨rfl,A5⟩;have Ew:Below w.heap.size w w4:=BP.trans (A5.mono BP.size);have hB:=(Cells.new w2 155 [.pointer (some ⟨g,0,none⟩),.int .u32 x,.int .i64 (p.fac:Int)]).same (A5.block w2.heap.size (by simp))
  exact⟨rfl,fun o=>⟨Ew.alloc Ew.size o,hB.alloc o⟩⟩
 have DF:=fun W=>Q2V W (s:Int)
 rw [decide_eq_true (show 0<=(s:Int)/\(s:Int)<256 from ⟨by omega,by omega⟩)] at DF;have Fq:=fun W=>Q3M W (m:Int)
 rw [decide_eq_true (show 0<(m:Int)/\(m:Int)<=15 from ⟨by omega,by omega⟩)] at Fq;have Bd:=Q0a DF;have Bn:=Q0a Fq;have HN:Hid (∀W g,Below w.heap.size w W->Calls prog 83 #[.pointer (some ⟨Z.s,0,none⟩),.agg #[.pointer (some ⟨g,0,none⟩),.int .u32 x,.int .i64 (p.fac:Int)],.int .i64 s] W fun r w'=>r=.returned (.int .i64 n.id)/\Below w.heap.size w w'/\w'.cell? ⟨Z.s,1,none⟩=some (.pointer (some ⟨Z.F.f,0,none⟩)) /\
   Calls prog 84 #[.pointer (some ⟨Z.F.f,0,none⟩),.int .i64 n.id] w' fun r w5=>∃(a:Option Addr) (cap:Nat),r=.returned (.slice a (Q0H (kdF Z.F.N) (rkF Z.F.next) n.id).length cap) /\
    (self=false->Calls prog 85 #[.pointer (some ⟨Z.s,0,none⟩),.int .i64 m,.slice a (Q0H (kdF Z.F.N) (rkF Z.F.next) n.id).length cap] w5 fun r w6=>∃v:Int,r=.returned (.int .i64 v)/\RevR Z fr N K M x (s:Int) (m:Int) self w (.returned (.tuple #[.int .i64 v,.int .i64 0])) w6) /\
    (self=true->∃(a2:Option Addr) (n2 c2:Nat) (w6:World),(Builtin.append_ #[36,36] 36 #[.slice a (Q0H (kdF Z.F.N) (rkF Z.F.next) n.id).length cap,.slice (some ⟨w5.heap.size,0,none⟩) 1 1]).run prog (w5.alloc (.cells #[.int .i64 n.id] 3))=.ok (.slice a2 n2 c2) w6 /\
     Calls prog 85 #[.pointer (some ⟨Z.s,0,none⟩),.int .i64 m,.slice a2 n2 c2] w6 fun r w7=>∃v:Int,r=.returned (.int .i64 v)/\RevR Z fr N K M x (s:Int) (m:Int) self w (.returned (.tuple #[.int .i64 v,.int .i64 0])) w7)):=fun W g Gn=>by
  have sW:=(hs.grown Gn).sep;refine (Q6H sW ok.fo hx A9).mono ?_;rw [Ak];rintro r w' ⟨rfl,Al⟩;have FZ:Below w.heap.size w w':=Gn.trans (Al.mono Gn.size);have s':=(hs.grown FZ).sep;refine⟨rfl,FZ,SP.c1 s',(Q7K s' ok.fo ER).mono ?_⟩;rintro r w5 ⟨AH,a,cap,rfl,Aq⟩;have Un:Below w.heap.size w w5:=FZ.trans (AH.mono FZ.size);have Ac:=Z2h ok.fo ER self;have fin:∀{w6:World} {v:Value} {L:List Int},L=revL Z.F n.id self->OutI w' w6 v L->∃(a:Option Addr) (cap:Nat),v=.slice a L.length cap/\Calls prog 85 #[.pointer (some ⟨Z.s,0,none⟩),.int .i64 m,.slice a L.length cap] w6 fun r w6=>∃v:Int,r=.returned (.int .i64 v)/\RevR Z fr N K M x (s:Int) (m:Int) self w (.returned (.tuple #[.int .i64 v,.int .i64 0])) w6:=fun {w6 v L} hL ho=>by
   obtain⟨a,cap,rfl,has⟩:=ho.aside s';have CC:Below w.heap.size w w6:=FZ.trans (ho.2.mono FZ.size);refine⟨a,cap,rfl,(Q2v (hs.grown CC).sep ok m D2 hm L a cap (by rw [hL];omega) has ?_).mono ?_⟩
   ·rw [hL];exact Q9s (a:=Z.av) ok.fo.n n.id self
   ·rintro r w7 ⟨rfl,Z',k1,k2,k3,k4⟩;rw [hL];rw [hL] at k2;exact⟨_,rfl,.inr ⟨s,m,n,en,rfl,rfl,A9,D2,hm,he,hn,n1,n2,rfl,Z',k1,k2,k3,(hs.grown CC).trans k4⟩⟩
  refine⟨a,cap,rfl,fun Ib=>?_,fun Ib=>?_⟩
  ·obtain⟨a',BH,hv,hc⟩:=fin (by unfold revL;rw [Ib];simp) Aq;cases hv;exact hc
  ·have D3:(Q0H (kdF Z.F.N) (rkF Z.F.next) n.id).length<=16777216:=by
    unfold revL at Ac;rw [J2R] at Ac;omega
   obtain⟨v',w6,Br,EA⟩:=Aq.app D3 n.id 36;obtain⟨a',BH,rfl,hc⟩:=fin (by unfold revL;rw [Ib];simp) EA;exact⟨a',_,BH,w6,Br,hc⟩
 generalize RevR Z fr N K M x (s:Int) (m:Int) self w=Q at *
 generalize (Q0H (kdF Z.F.N) (rkF Z.F.next) n.id).length=bl at *
 clear hs ok hx hp hk hi Ap he AC AA hn n1 n2 Ak ER DF Fq D2 hm;go_enter func20,ntmps20;go_wp2_with fail;refine ks.mono ?_;rintro r w2 ⟨g,rfl,Af,hg⟩;have kc:=HC.out w2 g Af hg;clear Af hg HC ks;go_wp2_with fail;refine kc.mono ?_;rintro r w4 ⟨rfl,hz⟩;obtain⟨A5,Fb⟩:=hz (.cells #[.int .u32 (en.h:Int),.int .i64 (en.r:Int)] 35);have kh:=Bd.out (w4.alloc (.cells #[.int .u32 (en.h:Int),.int .i64 (en.r:Int)] 35));have kr:=Bn.out (w4.alloc (.cells #[.int .u32 (en.h:Int),.int .i64 (en.r:Int)] 35));have kn:=HN.out (w4.alloc (.cells #[.int .u32 (en.h:Int),.int .i64 (en.r:Int)] 35)) g A5
 have b0:=Fb.cell 0 _ rfl;have b1:=Fb.cell 1 _ rfl;have b2:=Fb.cell 2 _ rfl;have Rs:=Q0a kn;clear hz A5 Fb kc Bd Bn HN kn;go_wp2_with fail;refine kh.mono ?_;rintro r w' ⟨rfl,rfl⟩;go_wp2_with fail;refine kr.mono ?_;rintro r w' ⟨rfl,rfl⟩;go_wp2_with fail;refine Rs.out.mono ?_;rintro r w5 ⟨rfl,AH,c5,kb⟩;have Sj:=Q0a kb;clear AH kb Rs kh kr;go_wp2_with fail;refine Sj.out.mono ?_;rintro r w6 ⟨a,cap,rfl,h1,h2⟩;have H1:=Q0a h1;have H2:=Q0a h2;clear h1 h2 Sj b0 b1 b2;cases self with
 | false =>
  have kw:=Q0a (H1.out rfl);clear H1 H2;go_wp2_with fail;refine kw.out.mono ?_;rintro r w7 ⟨v,rfl,hq⟩;have HQ:=Q0a hq;clear hq kw;go_wp2_with fail
  first|exact HQ.out|(go_ret2;exact HQ.out)
 | true =>
  obtain⟨a2,n2,c2,w7,Br,Sg⟩:=H2.out rfl;have kw:=Q0a Sg;clear H1 H2 Sg;go_wp2_with (at_builtin;refine Lib.wpList_append_run _ rfl _ _ _ _ rfl _ _ rfl rfl _ _ Br ?_);refine kw.out.mono ?_;rintro r w8 ⟨v,rfl,hq⟩;have HQ:=Q0a hq;clear hq kw;go_wp2_with fail
  first|exact HQ.out|(go_ret2;exact HQ.out)
end Go.Proofs.YtlakjlmaboioiaaGreatDoor
