/- SpaceRevokes returns true at every input. No condition. Part of its proof. -/
import Derived.Test.YtlakjlmaboioiaaGreatDoorSv21
import Derived.ScopeJumps
set_option maxHeartbeats 4000000
set_option maxRecDepth 1000000
set_option linter.unusedVariables false
namespace Go.Proofs.YtlakjlmaboioiaaGreatDoor
open Go.RowKit Go.Proofs.Tryz
structure Grow (w4:World) (v4:Value) (wr:World) (v:Value):Prop where
 size:w4.heap.size<=wr.heap.size
 keep:∀b,b<w4.heap.size->v4.ownBlock≠some b->wr.heap[b]?=w4.heap[b]?
 own:v.ownBlock=v4.ownBlock∨∀b,v.ownBlock=some b->w4.heap.size<=b
theorem Grow.refl (w:World) (v:Value):Grow w v w v:=⟨J1L _,fun _ _ _=>rfl,.inl rfl⟩
theorem Grow.below {w4 wr w':World} {v4 v:Value} (h:Grow w4 v4 wr v) (hb:Below wr.heap.size wr w'):Grow w4 v4 w' v:=
 ⟨J1M h.size hb.size,fun b hl hn=>(hb.block b (J1N hl h.size)).trans (h.keep b hl hn),h.own⟩
theorem Grow.app {w4 wr w':World} {v4 v v':Value} (h:Grow w4 v4 wr v) (h1:∀b,b<wr.heap.size->v.ownBlock≠some b->w'.heap[b]?=wr.heap[b]?) (h2:v'.ownBlock=v.ownBlock∨∀b,v'.ownBlock=some b->wr.heap.size<=b) (h3:wr.heap.size<=w'.heap.size):Grow w4 v4 w' v':=by
 refine⟨J1M h.size h3,fun b hl hn=>(h1 b (J1N hl h.size) fun e=>?_).trans (h.keep b hl hn),?_⟩
 ·rcases h.own with h4|h4
  ·exact hn (h4 ▸ e)
  ·have:=h4 b e;omega
 ·rcases h2 with h2|h2
  ·rw [h2];exact h.own
  ·exact .inr fun b hb=>J1M h.size (h2 b hb)
theorem Q4R {w':World} {B:Nat} {T:TypeId} {size n:Nat} {v:Value} {cs:List Value} (h:w'.ownsRow B T size v n cs):∃(a:Option Addr) (cap:Nat),v=.slice a n cap/\∀(j:Nat) (u:Value),cs[j]?=some u->∃g,a=some ⟨g,0,none⟩/\B<=g/\g<w'.heap.size/\w'.cell? ⟨g,j,none⟩=some u:=by
 obtain⟨hl,h2⟩:=h;rcases h2 with ⟨rfl,h0⟩|⟨g,cap,Ah,rfl,hg,Cn,hn,hm,Bv,AR⟩
 ·refine⟨none,0,by rw [h0],fun j u hj=>?_⟩;have GW:cs.length=0:=by rw [hl,h0,J5C]
  rw [J3L.1 GW] at hj;simp at hj
 ·refine⟨some ⟨g,0,none⟩,cap,rfl,fun j u hj=>⟨g,rfl,hg,lt_of_block Cn,?_⟩⟩;have PF:=(J2c.1 hj).1;have e:Ah.toList[j]?=some u:=by
   rw [<- AR] at hj;have hk:j<n*size:=by omega
   rwa [J3P,if_pos hk] at hj
  unfold World.cell?;simp only [Cn]
  simpa using e
theorem NewIs.from' {w w':World} {L:List Int} {r:Ending} (h:NewIs w L r w'):∃(a:Option Addr) (cap:Nat),r=.returned (.slice a L.length cap)/\Below w.heap.size w w'/\∀(j:Nat) (z:Int),L[j]?=some z->∃g,a=some ⟨g,0,none⟩/\w.heap.size<=g/\g<w'.heap.size/\w'.cell? ⟨g,j,none⟩=some (.int .i64 z):=by
 obtain⟨v,rfl,h1,h2⟩:=h;obtain⟨a,cap,rfl,h3⟩:=Q4R h1;exact⟨a,cap,rfl,h2,fun j z hz=>h3 j _ (by rw [J3x,hz];rfl)⟩
theorem Z6t {w:World} {Z:SP} {fr:List Nat} {N K:Nat} {M:Int} (hs:Sep w Z.hl) (ok:Z.Ok fr N K M) {y:Nat} (hy:y∈allL Z.S.l 1):y<4294967296 /\
  ((∃e:Int,e≠0/\Q0q Z.S.l Z.tb y=[]/\Calls prog 73 #[.pointer (some ⟨Z.s,0,none⟩),.int .u32 y] w (Told w (.tuple #[.agg #[.pointer none,.int .u32 0,.int .i64 0],.int .i64 e]))) ∨
   ∃p,pget Z.S.l 1 y=some p/\p.kind=2/\Calls prog 73 #[.pointer (some ⟨Z.s,0,none⟩),.int .u32 y] w fun r w'=>∃g:Nat,r=.returned (.tuple #[.agg #[.pointer (some ⟨g,0,none⟩),.int .u32 y,.int .i64 (p.fac:Int)],.int .i64 0])/\Below w.heap.size w w'/\TblZ Z p g w'/\w.heap.size<=g):=by
 have Ba:=ok.core.inv.lok;obtain⟨q,hq⟩:=(Q3X (by rw [Ba.1];omega)).1 hy;have CM:y<4294967296:=by
  obtain⟨a1,a2,_⟩:=pget_some.1 hq;have:=(Ba.2 q (J4a a1)).2;unfold nm at a2;omega
 refine⟨CM,?_⟩;by_cases hk:q.kind=2
 ·exact .inr ⟨q,hq,hk,Q9g hs ok.core CM hq hk⟩
 ·refine .inl ⟨10,by decide,?_,Q0K hs ok.core CM 10 (.inr ⟨q,hq,hk,rfl⟩)⟩;unfold Q0q;rw [hq];simp only;rw [if_neg hk]
theorem Z8H {w w1 w4 wr:World} {Z:SP} {fr:List Nat} {N K:Nat} {M:Int} (hs:Sep w Z.hl) (ok:Z.Ok fr N K M) {y:Nat} {p:Pl} (hp:pget Z.S.l 1 y=some p) (hk:p.kind=2) (hb:Below w.heap.size w wr) {g:Nat} (GV:TblZ Z p g w4) {v4 v:Value} (G:Grow w4 v4 wr v) (Aa:v4.ownBlock≠some g) {s:Nat} (A6:s<256) {e:Ent} (he:Q0f Z.S.l Z.tb y s=some e) :
  Calls prog 74 #[.agg #[.pointer (some ⟨g,0,none⟩),.int .u32 y,.int .i64 (p.fac:Int)],.int .i64 s] wr (Told wr (.tuple #[.agg #[.int .u32 (e.h:Int),.int .i64 (e.r:Int)],.bool true])):=by
 have s4:=(hs.grown hb).sep;have CX:TblZ Z p g wr:=fun j u hj=>by
  obtain⟨g',h1,h2,h3,h4⟩:=GV j u hj;cases h1;exact⟨g,rfl,h2,J1N h3 G.size,(World.cell?_of_block (w:=w4) (G.keep g h3 Aa)).trans h4⟩
 have hi:=(pget_some.1 hp).1;have Ao:=(pget_some.1 hp).2.2;have T:=(ok.tpi.x (p.fac:Int)).tt ok.core hi Ao hk (SP.sS s4) CX.c;have AB:(Z.tb (y%256)).at' (s:Int)=some e:=by
  unfold TB.at';rw [if_pos ⟨by omega,by omega⟩,J2R];rw [Q0h hp hk A6] at he;exact he
 have kc:=Q1u T (y:Int) (p.fac:Int) (s:Int) fun e' AM=>by rw [AB] at AM;cases AM;exact ok.fpi.low ok.core.inv.lok he
 rw [AB] at kc;exact kc
theorem Q1K {w:World} {Z:SP} {fr:List Nat} {N K:Nat} {M:Int} (hs:Sep w Z.hl) (ok:Z.Ok fr N K M) (h:Nat) :
  Calls prog 23 #[.pointer (some ⟨Z.s,0,none⟩),.int .u32 h] w (NewSp w (Q1v Z.S.l Z.tb h)):=by
 have c0:=SP.c0 hs;have kl:=Q8N (SP.sS hs) ok.core.inv.lok;have IV:Hid (∀W y,Below w.heap.size w W->y∈allL Z.S.l 1->_):=fun W y hb hy=>Z6t (hs.grown hb).sep ok hy
 have Eo:Hid (∀(y:Nat) (p:Pl) (w4 wr:World) (g s:Nat) (v4 v:Value) (e:Ent),pget Z.S.l 1 y=some p->p.kind=2->Below w.heap.size w wr->TblZ Z p g w4->Grow w4 v4 wr v->v4.ownBlock≠some g->s<256->Q0f Z.S.l Z.tb y s=some e->_):=fun y p w4 wr g s v4 v e hp hk hb GV G Aa A6 he=>Z8H (w1:=w) hs ok hp hk hb GV G Aa A6 he
 have QK:Hid (∀(y:Nat) (p:Pl) (g:Nat) (W:World),pget Z.S.l 1 y=some p->p.kind=2->Below w.heap.size w W->TblZ Z p g W->Calls prog 89 #[.pointer (some ⟨g,0,none⟩)] W (NewIs W (Q0q Z.S.l Z.tb y))):=fun y p g W hp hk hb hg=>by
  have T:=(ok.tpi.x (p.fac:Int)).tt ok.core (pget_some.1 hp).1 (pget_some.1 hp).2.2 hk (SP.sS (hs.grown hb).sep) hg.c;have e:Q0q Z.S.l Z.tb y=Q0X (Z.tb (y%256)) 256:=by unfold Q0q;rw [hp];simp only;rw [if_pos hk]
  rw [e];exact Q7l T
 have Pq:Hid (∀(p:Pl) (g:Nat) (W W':World),Below w.heap.size w W->TblZ Z p g W->Below W.heap.size W W'->TblZ Z p g W'):=fun p g W W' hb hg Ak=>hg.grown (hs.grown hb).sep Ak
 have PK:(allL Z.S.l 1).length<=256:=by
  have:=Q2y Z.S.l 1 Z.S.l.length;unfold allL;rw [ok.core.inv.len] at this ⊢;exact this
 have EU:Hid (∀T:List Nat,T.length<=256->(Q1M Z.S.l Z.tb h T).length<=65536):=fun T hT=>J1M (Q4Q _ _ _ T) (by omega)
 have LK:Hid (∀y,(Q0q Z.S.l Z.tb y).length<=256/\∀z∈Q0q Z.S.l Z.tb y,∃s:Nat,z=(s:Int)/\s<256/\∃e,Q0f Z.S.l Z.tb y s=some e):=fun y=>⟨Q4P _ _ _,fun z hz=>mem_slotsL.1 hz⟩
 have K4:=Q0a PK;unfold Q1v;clear hs ok PK;generalize hT:allL Z.S.l 1=T at *
 go_enter func23,ntmps23;go_wp2_with fail;refine kl.mono ?_;intro r w1 Dv;obtain⟨a0,Le,rfl,Ax,Jg⟩:=Dv.shape;have Bq:=Q0a Ax;have JN:=Q0a Jg;clear Dv Ax Jg kl c0;go_wp2_with fail
 go_loopg [5,22] T.length (fun gk ov iv wr=>∃k:Nat,iv=.int .i64 k/\k+gk=T.length/\OutS w1 wr ov (Q1M Z.S.l Z.tb h (T.take k)))
 case atStart=>exact⟨0,rfl,J4q _,OutS.nil w1⟩
 case round =>
  obtain⟨k,rfl,AL,Au⟩:=hrel;have HO:=Q0a Au;have BW:=Q0a AL;clear Au;by_cases Ab:k<T.length
  ·obtain⟨y,hy⟩:∃y,T[k]?=some y:=⟨_,J4d Ab⟩
   obtain⟨g0,rfl,Nz,DG,Al⟩:=(JN.out.below HO.out.2).at' k y hy;obtain⟨CM,Mz⟩:=IV.out wr y (Bq.out.trans (HO.out.2.mono Bq.out.size)) (J4a hy);have Bm:Hid (Q1M Z.S.l Z.tb h (T.take (k+1))=Q1M Z.S.l Z.tb h (T.take k)++Q5x Z.S.l Z.tb h y):=by
    rw [J3I,hy];exact Z3n _ _ _ _ _
   have HY:=Q0a hy;have FW:(k:Int)<256:=by have:=K4.out;omega
   have Bx:(0:Int)<=(k:Int):=by omega
   have Uy:(0:Int)<=(y:Int):=by omega
   have Uo:(y:Int)<4294967296:=by omega
   have Vw:IntKind.i64.wrap (y:Int)=(y:Int):=Go.IntWalk.i64_in _ (by omega);clear hy AL CM;rcases Mz with ⟨e,Aa,Fl,DU⟩|⟨p,hp,A3,DU⟩
   ·have Bt:(e != 0)=true:=by simpa using Aa
    have HR:Hid (∀W,Below wr.heap.size wr W->OutS w1 W u5 (Q1M Z.S.l Z.tb h (T.take (k+1)))):=fun W hb=>by
     rw [Bm.out];unfold Q5x Q3p;rw [Fl]
     simpa using HO.out.below hb
    clear Aa Fl HO;go_wp2_with fail;refine DU.mono ?_;rintro r w2 ⟨rfl,Af⟩;have CW:=Q0a (HR.out _ (Af.alloc Af.size (.cells #[.pointer none,.int .u32 0,.int .i64 0] 155)));clear Af HR DU;go_wp2_with fail;go_roundg (T.length-(k+1))
    case measure=>have:=BW.out;omega
    case rel=>exact⟨k+1,by go_num,by omega,CW.out⟩
   ·go_wp2_with fail;refine DU.mono ?_;rintro r w2 ⟨g,rfl,Af,II,B9⟩;have BX:Below w2.heap.size w2 (w2.alloc (.cells #[.pointer (some ⟨g,0,none⟩),.int .u32 y,.int .i64 (p.fac:Int)] 155)):=(Below.refl _ _).alloc (J1L _) _;have DA:Below w.heap.size w wr:=Bq.out.trans (HO.out.2.mono Bq.out.size);have Ip:Below w.heap.size w w2:=DA.trans (Af.mono DA.size);have Ku:=Ip.trans (BX.mono Ip.size);have Lx:=Pq.out p g w2 _ Ip II BX;have ks:=QK.out y p g _ hp A3 Ku Lx;have Ii:Hid (OutS w1 (w2.alloc (.cells #[.pointer (some ⟨g,0,none⟩),.int .u32 y,.int .i64 (p.fac:Int)] 155)) u5 (Q1M Z.S.l Z.tb h (T.take k))):=(HO.out.below Af).below BX
    have CY:=Q0a (Cells.new w2 155 [.pointer (some ⟨g,0,none⟩),.int .u32 y,.int .i64 (p.fac:Int)]);have OE:Hid (∀b,u5.ownBlock=some b->b<wr.heap.size):=fun b hb=>(HO.out.1.lt b hb).2
    have U5:=Q0a B9;have HP:Hid (pget Z.S.l 1 y=some p/\p.kind=2):=⟨hp,A3⟩
    have Ne:=Q0a Lx;have Pg:Hid (wr.heap.size<=w2.heap.size):=Af.size;have MP:=Q0a Ku;clear BX DA Ip Ku Lx II Af B9 hp A3 DU HO Al DG Nz;go_wp2_with fail;refine ks.mono ?_;intro r w4 Qg;obtain⟨aS,TC,rfl,Az,A0⟩:=Qg.from'
    have Ap:=Q0a Az;have Qq:=Q0a (Ii.out.below Az);have SK:=Q0a (Pq.out p g _ w4 MP.out Ne.out Az);have UN:=Q0a (MP.out.trans (Az.mono MP.out.size));have Mt:=Q0a (CY.out.same (Az.block _ (by simp)));have CS:Hid (∀(j:Nat) (z:Int),(Q0q Z.S.l Z.tb y)[j]?=some z->∃gS,aS=some ⟨gS,0,none⟩/\w2.heap.size<=gS/\gS<w4.heap.size/\w4.cell? ⟨gS,j,none⟩=some (.int .i64 z)):=fun j z hz=>by
     obtain⟨gS,h1,h2,h3,h4⟩:=A0 j z hz;exact⟨gS,h1,by simp at h2;omega,h3,h4⟩
    obtain⟨Uu,LS⟩:=LK.out y;have Ph:=Q0a LS;have HX:Hid (Q5x Z.S.l Z.tb h y=Q3p Z.S.l Z.tb h y (Q0q Z.S.l Z.tb y)):=rfl;have IG:=Q0a (EU.out (T.take k) (by rw [J4f];have:=K4.out;omega));generalize hSL:Q0q Z.S.l Z.tb y=SL at *
    clear Qg Az A0 LS ks Ii CY Ne MP QK LK Pq IV;go_wp2_with fail;obtain⟨gko,Il⟩:∃g,g=gk:=⟨_,rfl⟩
    subst Il;obtain⟨wo,UB⟩:∃wo,wo=wr:=⟨_,rfl⟩
    subst UB;obtain⟨v4,Su⟩:∃v4,v4=u5:=⟨_,rfl⟩
    subst Su
    go_loopg [5,38] SL.length (fun gi ov iv wi=>∃i:Nat,iv=.int .i64 i/\i+gi=SL.length/\OutS w1 wi ov (Q1M Z.S.l Z.tb h (T.take k)++Q3p Z.S.l Z.tb h y (SL.take i))/\Grow w4 v4 wi ov)
    case atStart=>exact⟨0,rfl,by omega,by simpa [Q3p] using Qq.out,Grow.refl _ _⟩
    case round =>
     clear Qq;obtain⟨i,rfl,M0,Au,CX⟩:=hrel;have NY:=Q0a M0;have HO:=Q0a Au;have HG:=Q0a CX;clear M0 Au CX;by_cases FZ:i<SL.length
     ·obtain⟨z,hz⟩:∃z,SL[i]?=some z:=⟨_,J4d FZ⟩
      obtain⟨s,rfl,A6,e,he⟩:=Ph.out z (J4a hz);obtain⟨gS,rfl,C5,B9,AT⟩:=CS.out i _ hz;have I2:∀b,wo.heap.size<=b->v4.ownBlock≠some b:=fun b hb hx=>by have:=OE.out b hx;omega
      have Bv:=Pg.out;have cS:wr.cell? ⟨gS,i,none⟩=some (.int .i64 s):=(World.cell?_of_block (w:=w4) (HG.out.keep gS B9 (I2 gS (by omega)))).trans AT;have Nr:=Mt.out.same (HG.out.keep w2.heap.size Mt.out.lt (I2 _ Bv));have b0:=Nr.cell 0 _ rfl;have b1:=Nr.cell 1 _ rfl;have b2:=Nr.cell 2 _ rfl;have B3:Below w.heap.size w wr:=Bq.out.trans (HO.out.2.mono Bq.out.size);have kc:=Eo.out y p w4 wr g s v4 u5 e HP.out.1 HP.out.2 B3 SK.out HG.out (I2 g U5.out) A6 he;have PU:hasH Z.S.l Z.tb h y (s:Int)=decide (e.h=h):=by
       unfold hasH;rw [J2R,he]
      have AR:SL.take (i+1)=SL.take i++[(s:Int)]:=by rw [J3I,hz];rfl
      have DJ:=Z3m Z.S.l Z.tb h y (SL.take i) (s:Int);rw [<- AR,PU] at DJ;have N1:=Q0a DJ;have CC:(Q1M Z.S.l Z.tb h (T.take k)++Q3p Z.S.l Z.tb h y (SL.take i)).length<=16777216:=by
       rw [J2v];have h1:=IG.out;have h2:=Q9p Z.S.l Z.tb h y (SL.take i);rw [J4f] at h2;omega
      have GH:Hid (∀W,Below wr.heap.size wr W->∃v' w',(Builtin.append_ #[49,49] 49 #[u5,.slice (some ⟨W.heap.size,0,none⟩) 1 1]).run prog (W.alloc (.cells #[.int .i64 y,.int .i64 s] 46))=.ok v' w'/\OutS w1 w' v' ((Q1M Z.S.l Z.tb h (T.take k)++Q3p Z.S.l Z.tb h y (SL.take i))++[((y:Int),(s:Int))])/\Grow w4 v4 w' v'):=fun W hb=>by
       obtain⟨v',w',q1,q2,q3,q4,q5⟩:=(HO.out.below hb).app CC (y:Int) (s:Int) 49;exact⟨v',w',q1,q2,(HG.out.below hb).app q3 q4 q5⟩
      have JG:Hid (∀W,Below wr.heap.size wr W->OutS w1 W u5 (Q1M Z.S.l Z.tb h (T.take k)++Q3p Z.S.l Z.tb h y (SL.take i))/\Grow w4 v4 W u5):=fun W hb=>⟨HO.out.below hb,HG.out.below hb⟩
      have BI:(0:Int)<=(i:Int):=by omega
      have Gi:(i:Int)<256:=by omega
      have DI:(0:Int)<=(s:Int):=by omega
      have Cv:(s:Int)<256:=by omega
      clear hz he AT Nr B3 PU AR DJ CC I2 C5 B9 Bv HO HG A6;go_wp2_with fail;refine kc.mono ?_;rintro r w5 ⟨rfl,AD⟩;have Di:=AD.alloc AD.size (.cells #[.int .u32 (e.h:Int),.int .i64 (e.r:Int)] 35);have IU:=Q0a Di;clear AD Di kc cS b0 b1 b2;by_cases hh:e.h=h
      ·obtain⟨v',w',Bn,Au,CX⟩:=GH.out _ IU.out;have hq:(((e.h:Nat):Int)==(h:Int))=true:=by simp [hh]
       have HR:Hid (OutS w1 w' v' (Q1M Z.S.l Z.tb h (T.take k)++Q3p Z.S.l Z.tb h y (SL.take (i+1)))/\Grow w4 v4 w' v'):=by
        refine⟨?_,CX⟩;rw [N1.out,if_pos (by simpa using hh),<- J2M];exact Au
       clear hh Au CX GH JG IU N1;have Lz:(w5.alloc (.cells #[.int .u32 (e.h:Int),.int .i64 (e.r:Int)] 35)).heap.size=w5.heap.size+1:=by simp
       rw [Lz] at Bn;clear Lz;go_wp2_with (at_builtin;refine Lib.wpList_append_run _ rfl _ _ _ _ rfl _ _ rfl rfl _ _ Bn ?_);go_roundg (SL.length-(i+1))
       case measure=>have:=NY.out;omega
       case rel=>exact⟨i+1,by go_num,by omega,HR.out⟩
      ·have hq:(((e.h:Nat):Int)==(h:Int))=false:=by simp;omega
       have HR:Hid (OutS w1 (w5.alloc (.cells #[.int .u32 (e.h:Int),.int .i64 (e.r:Int)] 35)) u5 (Q1M Z.S.l Z.tb h (T.take k)++Q3p Z.S.l Z.tb h y (SL.take (i+1)))/\Grow w4 v4 (w5.alloc (.cells #[.int .u32 (e.h:Int),.int .i64 (e.r:Int)] 35)) u5):=by
        rw [N1.out,if_neg (by simpa using hh),J3S];exact JG.out _ IU.out
       clear hh GH JG IU N1;go_wp2_with fail;go_roundg (SL.length-(i+1))
       case measure=>have:=NY.out;omega
       case rel=>exact⟨i+1,by go_num,by omega,HR.out⟩
     ·have CG:i=SL.length:=by have:=NY.out;omega
      have HR:Hid (OutS w1 wr u5 (Q1M Z.S.l Z.tb h (T.take (k+1)))):=by
       have h1:=HO.out;rw [CG,J5V] at h1;rw [Bm.out,HX.out];exact h1
      clear HO HG;go_wp2_with fail;go_roundg (T.length-(k+1))
      case measure=>have:=BW.out;omega
      case rel=>exact⟨k+1,by go_num,by omega,HR.out⟩
  ·have Fs:k=T.length:=by have:=BW.out;omega
   have Au:=HO.out;rw [Fs,J5V] at Au;have HR:Hid (NewSp w (Q1M Z.S.l Z.tb h T) (.returned u5) wr):=⟨u5,rfl,Q2r Au.1 Bq.out.size,Bq.out.trans (Au.2.mono Bq.out.size)⟩
   clear Au HO;go_wp2_with fail
   first|exact HR.out|(go_ret;exact HR.out)
open Go.Sort (Holds putRow holds_putRow holds_ahead putRow_self reverseLoop swp size_swp)
theorem Q9q (blk cap:Nat) (d:Array Int) (w:World) (hH:Holds encI w blk 0 d) (Bv:d.size<=65536) :
  Calls prog 167 #[.slice (some ⟨blk,0,none⟩) d.size cap] w fun e w'=>e=.returned (.tuple #[])/\∃n,w'=putRow encI (Go.Sort.ahead w n) blk 0 d.reverse:=by
 go_enter func167,ntmps167;go_wp2_with fail
 go_loopg [2,3] d.size (fun k s2 s3 wr=>∃(i jn:Nat) (jz:Int) (dk:Array Int) (n:Nat),s2=.int .i64 i/\s3=.int .i64 jz/\((i:Int)<jz->jz=jn/\jn<d.size)/\(¬(i:Int)<jz->¬i<jn)/\jn-i<=k /\
  dk.size=d.size/\wr=putRow encI (Go.Sort.ahead w n) blk 0 dk/\reverseLoop i jn dk=reverseLoop 0 (d.size-1) d)
 case atStart=>exact⟨0,d.size-1,(d.size:Int)-1,d,0,rfl,rfl,fun h=>⟨by omega,by omega⟩,fun h=>by omega,by omega,rfl,(putRow_self encI w blk 0 d hH).symm,rfl⟩
 case round =>
  obtain⟨i,jn,jz,dk,n,rfl,rfl,h1,h2,hk,FH,Ir,Gu⟩:=hrel;by_cases Ab:(i:Int)<jz
  ·obtain⟨rfl,MQ⟩:=h1 Ab;have FT:i<jn:=by omega
   have Ks:Holds encI wr blk 0 dk:=by rw [Ir];exact holds_putRow encI _ blk 0 d dk (holds_ahead encI w n blk 0 d hH) FH
   obtain⟨ci,fi⟩:=Ks i (by omega);obtain⟨cj,fj⟩:=Ks jn (by omega);have A:Go.Aside (wr=putRow encI (Go.Sort.ahead w n) blk 0 dk):=Ir;have SW:Hid (((wr.setCell ⟨blk,i,none⟩ (.int .i64 dk[jn]!)).setCell ⟨blk,jn,none⟩ (.int .i64 dk[i]!)).drew=putRow encI (Go.Sort.ahead w (n+1)) blk 0 (swp dk i jn)):=by
    have:=swap_world encI (off:=0) (i:=i) (j:=jn) (by omega) (by omega) Ir rfl rfl;rw [J4q,J4q] at this;exact this
   clear Ir Ks hH h1 h2;go_wp2_with fail;rw [J4q] at ci fi cj fj;unfold encI at ci cj;go_region
   all_goals
    go_wp2_with fail;go_roundg (jn-1-(i+1))
    case measure=>omega
    case rel =>
     rw [reverseLoop,if_pos FT] at Gu;exact⟨i+1,jn-1,(jn:Int)-1,swp dk i jn,n+1,by go_num,by go_num,fun h=>⟨by omega,by omega⟩,fun h=>by omega,J1L _,by rw [size_swp];exact FH,
      (by have J0:=SW.out;first|exact J0|(simp only [getElem!_pos dk jn (by omega)] at J0;exact J0)),Gu⟩
  ·have D8:=h2 Ab;go_wp2_with fail
   first|go_end0|skip
   refine⟨rfl,n,?_⟩;rw [reverseLoop,if_neg D8] at Gu;rw [<- Go.Lib.reverseLoop_reverse,<- Gu]
end Go.Proofs.YtlakjlmaboioiaaGreatDoor
namespace Go.Proofs.YtlakjlmaboioiaaGreatDoor
open Go.RowKit Go.Proofs.Tryz
theorem OutI.parts {w wr:World} {g n cap:Nat} {L:List Int} (h:OutI w wr (.slice (some ⟨g,0,none⟩) n cap) L):∃Ah,n=L.length/\w.heap.size<=g/\wr.heap[g]?=some (.cells Ah 3 (0,0))/\L.length<=cap/\cap<=maxLen/\Ah.size=cap/\Ah.toList.take L.length=(L.map encI):=by
 rcases h.1.2 with ⟨h',_⟩|⟨g',BA,Ah,h',a1,a2,a3,a4,a5,a6⟩
 ·simp at h'
 ·simp only [Value.slice.injEq,J1Z,Addr.mk.injEq,and_true] at h';obtain⟨rfl,rfl,rfl⟩:=h';exact⟨Ah,rfl,a1,a2,a3,a4,by simpa using a5,by simpa using a6⟩
theorem OutI.cellAt {w wr:World} {g n cap:Nat} {L:List Int} (h:OutI w wr (.slice (some ⟨g,0,none⟩) n cap) L) {j:Nat} {x:Int} (hj:L[j]?=some x):wr.cell? ⟨g,j,none⟩=some (.int .i64 x)/\w.heap.size<=g/\g<wr.heap.size:=by
 obtain⟨Ah,_,a1,a2,_,_,_,a6⟩:=h.parts;refine⟨?_,a1,lt_of_block a2⟩;have hv:(L.map encI)[j]?=some (.int .i64 x):=by rw [J3x,hj];rfl
 rw [<- a6,J3P] at hv;split at hv
 ·simp only [World.cell?,a2,J4P,J5E,if_false];rw [<- J4m];exact hv
 ·cases hv
theorem OutI.cut {w wr:World} {g n cap:Nat} {x:Int} {L:List Int} (h:OutI w wr (.slice (some ⟨g,0,none⟩) n cap) (L++[x])):OutI w wr (.slice (some ⟨g,0,none⟩) L.length cap) L:=by
 obtain⟨Ah,_,a1,a2,a3,a4,a5,a6⟩:=h.parts;have hl:L.length+1<=cap:=by simpa using a3
 refine⟨⟨by simp [List.length_map],.inr ⟨g,cap,Ah,rfl,a1,a2,by omega,a4,by simpa using a5,?_⟩⟩,h.2⟩;have:=congrArg (List.take L.length) a6;rw [J4h,J2v,J5p,show min L.length (L.length+[x].length)=L.length by simp] at this;rw [J2S,this];have e:(L.map encI).length=L.length:=J3v _;rw [<- e,J4k]
theorem Z3o {w wr:World} {g n cap:Nat} {L:List Int} (h:OutI w wr (.slice (some ⟨g,0,none⟩) n cap) L):Go.Sort.Holds encI wr g 0 L.toArray:=by
 obtain⟨Ah,_,a1,a2,_,_,_,a6⟩:=h.parts;intro j hj;have Bj:j<L.length:=by simpa using hj
 have hx:=J4d Bj;refine⟨?_,by simp [World.frozen?,a2]⟩;have:=(h.cellAt hx).1;rw [J4q,this,getElem!_pos _ j hj];simp [encI]
theorem Q6L (Ah:Array Value) (F:Array Int) (h:F.size<=Ah.size):(Go.Sort.putCells encI 0 F Ah).toList.take F.size=F.toList.map encI:=by
 apply J3u
 intro j;by_cases hj:j<F.size
 ·rw [J6f hj,J4m];simp [Go.Sort.putCells,hj,show j<Ah.size by omega]
 ·rw [J6g (by omega),J3B (by simp;omega)]
theorem Z6u {w:World} {g n:Nat} {Ah:Array Value} {e:TypeId} (d:Array Int) (hb:w.heap[g]?=some (.cells Ah e (0,0))) :
  (Go.Sort.putRow encI (Go.Sort.ahead w n) g 0 d).heap[g]?=some (.cells (Go.Sort.putCells encI 0 d Ah) e (0,0)):=by
 have hg:g<w.heap.size:=(J6h.1 hb).1;simp [Go.Sort.putRow,Go.Sort.mapBlock,Go.Sort.ahead,Array.getElem?_modify,hb,Go.Sort.onCells]
theorem Z3p {w:World} {g n:Nat} (d:Array Int):w.grownBy (Go.Sort.putRow encI (Go.Sort.ahead w n) g 0 d) (some g):=by
 refine⟨rfl,rfl,rfl,by simp [Go.Sort.putRow,Go.Sort.mapBlock,Go.Sort.ahead],fun k hk Aa=>?_⟩;have:g≠k:=fun e=>Aa (by rw [e])
 simp [Go.Sort.putRow,Go.Sort.mapBlock,Go.Sort.ahead,Array.getElem?_modify,this]
theorem OutI.reversed {w wr:World} {g n cap k:Nat} {L:List Int} (h:OutI w wr (.slice (some ⟨g,0,none⟩) n cap) L):OutI w (Go.Sort.putRow encI (Go.Sort.ahead wr k) g 0 L.toArray.reverse) (.slice (some ⟨g,0,none⟩) n cap) L.reverse:=by
 obtain⟨Ah,rfl,a1,a2,a3,a4,a5,a6⟩:=h.parts;have CX:=Z3p (w:=wr) (g:=g) (n:=k) L.toArray.reverse;have Bv:L.toArray.reverse.size=L.length:=by simp
 refine⟨⟨by simp [List.length_map],.inr ⟨g,cap,_,by rw [J6i],a1,Z6u _ a2,by simpa using a3,a4,by simp [Go.Sort.putCells,a5],?_⟩⟩,h.2.trans ((Below.refl _ wr).mono h.2.size |>.grown CX h.2.size (fun b hb=>by cases hb;exact a1))⟩;have e:L.reverse.length*1=L.toArray.reverse.size:=by simp
 rw [e,Q6L _ _ (by rw [Bv,a5];exact a3)];simp
theorem OutI.alloc {w wr:World} {v:Value} {L:List Int} (h:OutI w wr v L) (o:Obj):OutI w (wr.alloc o) v L:=⟨h.1.alloc _,h.2.alloc h.2.size _⟩
theorem OutI.app0 {w wr w1:World} {v v':Value} {L M:List Int} (h:OutI w wr v L) (Ag:w1.ownsRow w.heap.size 3 1 v' (L.length+M.length) (L.map encI++M.map encI)) (hg:wr.grownBy w1 v.ownBlock):OutI w w1 v' (L++M):=
 ⟨by rw [J2v,J5p];exact Ag,h.2.trans ((Below.refl _ wr).mono h.2.size |>.grown hg h.2.size (fun b hb=>(h.1.lt b hb).1))⟩
def TwoI (w wr:World) (v:Value) (L:List Int) (u:Value) (M:List Int):Prop:=OutI w wr v L/\OutI w wr u M/\∀b,v.ownBlock=some b->u.ownBlock≠some b
theorem TwoI.swap {w wr:World} {v u:Value} {L M:List Int} (h:TwoI w wr v L u M):TwoI w wr u M v L:=⟨h.2.1,h.1,fun b h1 h2=>h.2.2 b h2 h1⟩
theorem TwoI.below {w wr w1:World} {v u:Value} {L M:List Int} (h:TwoI w wr v L u M) (hb:Below wr.heap.size wr w1):TwoI w w1 v L u M:=⟨h.1.below hb,h.2.1.below hb,h.2.2⟩
theorem TwoI.alloc {w wr:World} {v u:Value} {L M:List Int} (h:TwoI w wr v L u M) (o:Obj):TwoI w (wr.alloc o) v L u M:=⟨h.1.alloc o,h.2.1.alloc o,h.2.2⟩
theorem TwoI.cut {w wr:World} {g n cap:Nat} {x:Int} {u:Value} {L M:List Int} (h:TwoI w wr (.slice (some ⟨g,0,none⟩) n cap) (L++[x]) u M):TwoI w wr (.slice (some ⟨g,0,none⟩) L.length cap) L u M:=⟨h.1.cut,h.2.1,h.2.2⟩
theorem TwoI.app {w wr w1:World} {v v' u:Value} {L M X:List Int} (h:TwoI w wr v L u M) (Ag:w1.ownsRow w.heap.size 3 1 v' (L.length+X.length) (L.map encI++X.map encI)) (hg:wr.grownBy w1 v.ownBlock) (AB:v'.ownBlock=v.ownBlock∨v'.ownBlock=some wr.heap.size):TwoI w w1 v' (L++X) u M:=by
 obtain⟨h1,h2,h3⟩:=h;have hb:Below w.heap.size w w1:=h1.2.trans ((Below.refl _ wr).mono h1.2.size |>.grown hg h1.2.size (fun b hb=>(h1.1.lt b hb).1));refine⟨h1.app0 Ag hg,⟨h2.1.kept hg ?_,hb⟩,fun b e1 e2=>?_⟩
 ·cases hv:v.ownBlock with
  | none=>cases hu:u.ownBlock with
   | none=>exact .inl rfl
   | some c=>exact .inr (by simp)
  | some b=>exact .inr (fun e=>h3 b hv e)
 ·rcases AB with e|e
  ·exact h3 b (e ▸ e1) e2
  ·rw [e] at e1;cases e1;exact absurd (h2.1.lt _ e2).2 (by omega)
theorem Z1S {w:World} {B:Nat} {v:Value} {L M:List Int} {rv:RV} {ty:TypeId} (h:w.ownsRow B 3 1 v L.length (L.map encI)) (hM:∀g cap,rv=some (g,cap)->∀(j:Nat) (x:Int),M[j]?=some x->w.cell? ⟨g,j,none⟩=some (.int .i64 x)) (AO:rvOk rv M.length) (hn:L.length+M.length<=16777216) (hB:B<=w.heap.size) :
  ∃v' w',(Builtin.append_ #[36,36] ty #[v,lvOf rv M.length]).run prog w=.ok v' w'/\w'.ownsRow B 3 1 v' (L.length+M.length) (L.map encI++M.map encI)/\w.grownBy w' v.ownBlock/\(v'.ownBlock=v.ownBlock∨v'.ownBlock=some w.heap.size):=by
 obtain⟨i0,D1,BN,Bh,Bf⟩:=info_parts Z0x;cases rv with
 | none =>
  have Oa:M=[]:=J4c AO;subst Oa;exact⟨v,w,run_append_owned_none w B 36 ty 3 i0 1 underlying36 D1 v _ _ h,by simpa using h,⟨rfl,rfl,rfl,J1L _,fun _ _ _=>rfl⟩,.inl rfl⟩
 | some p =>
  obtain⟨g,cap⟩:=p;obtain⟨v',w',e1,e2,e3,_,e5⟩:=run_append_own_at (P:=prog) w B 36 ty 3 i0 (.int .i64 0) 1 8 underlying36 D1 BN Bh Bf rfl (by decide) v _ _ h ⟨g,0,none⟩ M.length cap (M.map encI) (by simp) (fun j u hj=>by
   rw [J3x] at hj;obtain⟨x,hx,rfl⟩:=J5J.1 hj;have:=hM g cap rfl j x hx;have e:(⟨g,0,none⟩:Addr).add j=⟨g,j,none⟩:=by unfold Addr.add;split <;> simp_all
   rw [e];exact this) (fun u hu=>by
    obtain⟨x,_,rfl⟩:=J1R.1 hu;rfl) (by unfold maxLen;omega) (by omega) hB
  exact⟨v',w',e1,e2,e3,e5⟩
theorem Z0E {w wr:World} {q:FO} (h:Sep w q.hl) (ok:q.Ok) {x:Int} {e:En Nd} (hf:find q.N x=some e) {g n cap:Nat} {u:Value} {ws M:List Int} (T:TwoI w wr (.slice (some ⟨g,0,none⟩) n cap) (ws++[x]) u M) (hws:ws.length<=65536) (hM:M.length<=65536) :
  ∃v1 w1 v2 w2,(Builtin.append_ #[36,36] 36 #[.slice (some ⟨g,0,none⟩) ws.length cap,lvOf (q.kr x) e.q.ks.length]).run prog wr.drew=.ok v1 w1 /\
   (Builtin.append_ #[36,36] 36 #[u,.slice (some ⟨w1.heap.size,0,none⟩) 1 1]).run prog (w1.alloc (.cells #[.int .i64 x] 3))=.ok v2 w2/\TwoI w w2 v1 (ws++e.q.ks) v2 (M++[x]):=by
 obtain⟨Bs,EM⟩:=Q0b hf;have Cy:=ok.n.kids_few Bs;have G5:=ok.few;have AO:=ok.rv e Bs;rw [EM] at AO;have T1:TwoI w wr.drew (.slice (some ⟨g,0,none⟩) ws.length cap) ws u M:=T.cut.below ((Below.refl _ _).drew);have hs:Sep wr.drew q.hl:=(h.grown T1.1.2).sep;obtain⟨R,p1,_⟩:=FO.split ok.n.ids hf;have A0:Sep wr.drew (rowH (q.kr x) 3 1 (e.q.ks.map encI)):=(hs.perm p1).left.tail;obtain⟨v1,w1,r1,o1,g1,b1⟩:=Z1S (rv:=q.kr x) (M:=e.q.ks) (ty:=36) T1.1.1 (fun g' BA hr j y hj=>by
  rw [hr] at A0;exact Q0Y A0 j _ (by rw [J3x,hj];rfl)) AO (by omega) T1.1.2.size
 have T2:=T1.app o1 g1 b1;have T3:=T2.swap.alloc (.cells #[.int .i64 x] 3);have cn:=Cells.new w1 3 [.int .i64 x];obtain⟨v2,w2,r2,o2,g2,b2⟩:=Z1S (rv:=some (w1.heap.size,1)) (M:=[x]) (ty:=36) T3.1.1 (fun g' BA hr j y hj=>by
  cases hr
  exact cn.cell j _ (by
   cases j with
   | zero=>simp at hj;subst hj;rfl
   | succ j=>simp at hj)) ⟨J1L _,by unfold maxLen;omega⟩ (by simp;omega) T3.1.2.size
 exact⟨v1,w1,v2,w2,r1,r2,(T3.app o2 g2 b2).swap⟩
theorem OutI.shape {w wr:World} {v:Value} {L:List Int} (h:OutI w wr v L):∃(a:Option Addr) (cap:Nat),v=.slice a L.length cap:=by
 rcases h.1.2 with ⟨rfl,h0⟩|⟨g,cap,Ah,rfl,_⟩
 ·exact⟨none,0,by rw [h0]⟩
 ·exact⟨_,cap,rfl⟩
theorem OutI.shape1 {w wr:World} {v:Value} {L:List Int} (h:OutI w wr v L) (hl:L≠[]):∃(g cap:Nat),v=.slice (some ⟨g,0,none⟩) L.length cap:=by
 rcases h.1.2 with ⟨rfl,h0⟩|⟨g,cap,Ah,rfl,_⟩
 ·exact absurd (J4c h0) hl
 ·exact⟨g,cap,rfl⟩
theorem TwoI.startI (w:World) (x:Int):TwoI w (w.alloc (.cells #[.int .i64 x] 3)) (.slice (some ⟨w.heap.size,0,none⟩) 1 1) [x] (.slice none 0 0) []:=by
 have hb:Below w.heap.size w (w.alloc (.cells #[.int .i64 x] 3)):=(Below.refl _ _).alloc (J1L _) _;refine⟨⟨?_,hb⟩,(OutI.nil w).below hb,fun b _=>by simp [Value.ownBlock]⟩;refine⟨by simp,.inr ⟨w.heap.size,1,#[.int .i64 x],rfl,J1L _,Cells.new w 3 [.int .i64 x],J1L _,by unfold maxLen;omega,by simp,by simp⟩⟩
structure BelI (q:FO) (id:Int) (ws M:List Int):Prop where
 eq:M++Q8U (kdF q.N) (rkF q.next) ws=preT (kdF q.N) (rkF q.next) id
 nodes:∀y∈ws,∃e,find q.N y=some e
theorem Z3q {q:FO} (ok:q.Ok) {id y:Int} {e:En Nd} (hf:find q.N id=some e) (hy:y∈preT (kdF q.N) (rkF q.next) id):∃e',find q.N y=some e':=by
 have hd:=(Z1K ok.n.tree).1 hy;rcases hd.last with rfl|⟨z,_,hz⟩
 ·exact⟨e,hf⟩
 ·unfold kdF at hz;cases K3:find q.N z with
  | none=>rw [K3] at hz;cases hz
  | some p =>
   rw [K3] at hz;obtain⟨p1,_⟩:=Q0b K3;obtain⟨k,hk,_⟩:=ok.n.kids p p1 y hz;exact⟨k,hk⟩
theorem Z1T {q:FO} (ok:q.Ok) {id:Int} {e:En Nd} (hf:find q.N id=some e):(preT (kdF q.N) (rkF q.next) id).length<=65536:=by
 have AG:(preT (kdF q.N) (rkF q.next) id).Nodup:=(Q6h ok.n.tree id).imp fun h=>h.1
 have:=J6a AG (l₂:=q.N.map En.id) (fun y hy=>by
  obtain⟨k,hk⟩:=Z3q ok hf hy;obtain⟨k1,k2⟩:=Q0b hk;exact J1R.2 ⟨k,k1,k2⟩)
 rw [J3v] at this;have:=ok.few;omega
theorem BelI.start {q:FO} {id:Int} {e:En Nd} (hf:find q.N id=some e):BelI q id [id] []:=⟨by simp [Q8U],fun y hy=>by
 rw [J3T] at hy;subst hy;exact⟨e,hf⟩⟩
theorem BelI.step {q:FO} (ok:q.Ok) {id x:Int} {e:En Nd} {ws M:List Int} (b:BelI q id (ws++[x]) M) (hf:find q.N x=some e):BelI q id (ws++e.q.ks) (M++[x]):=by
 have hk:kdF q.N x=e.q.ks:=by unfold kdF;rw [hf]
 refine⟨?_,fun y hy=>?_⟩
 ·rw [<- b.eq,Z2X ok.n.tree,hk];simp
 ·rcases J2A.1 hy with hy|hy
  ·exact b.nodes y (by simp [hy])
  ·obtain⟨e1,_⟩:=Q0b hf;obtain⟨k,hk,_⟩:=ok.n.kids e e1 y hy;exact⟨k,hk⟩
theorem BelI.len {q:FO} (ok:q.Ok) {id:Int} {e:En Nd} (hf:find q.N id=some e) {ws M:List Int} (b:BelI q id ws M):ws.length<=65536/\M.length<=65536/\M.length<=(preT (kdF q.N) (rkF q.next) id).length:=by
 have h1:=Z1T ok hf;have h2:=Z5Y (kdF q.N) (rkF q.next) ok.n.tree ws;rw [<- b.eq,J2v] at h1 ⊢;omega
theorem BelI.done {q:FO} (ok:q.Ok) {id:Int} {M:List Int} (b:BelI q id [] M):M.reverse=Q0x (kdF q.N) (rkF q.next) id++[id]:=by
 have h:=b.eq;have h0:Q8U (kdF q.N) (rkF q.next) []=[]:=rfl;rw [h0,J3S,Q3F ok.n.tree] at h;rw [h];simp
def slen:Value->Nat
 | .slice _ n _=>n
 | _=>0
theorem Q9r {w wr:World} {q:FO} (h:Sep w q.hl) (ok:q.Ok) {id x:Int} {e:En Nd} (hf:find q.N id=some e) {g n cap:Nat} {u:Value} {ws M:List Int} (T:TwoI w wr (.slice (some ⟨g,0,none⟩) n cap) (ws++[x]) u M) (B:BelI q id (ws++[x]) M) :
  n=ws.length+1/\ws.length+1<=cap/\ws.length+1<=65536/\cap<=maxLen/\wr.cell? ⟨g,ws.length,none⟩=some (.int .i64 x)/\∃(xb:Nat) (a0:Option Addr) (n0 c0:Nat),
   (wr.cell? ⟨q.f,0,none⟩=some (.map (some q.m))/\(Instr.lookup 279 (.map (some q.m)) (.int .i64 x) false).run prog wr=.ok (.pointer (some ⟨xb,0,none⟩)) wr/\wr.cell? ⟨xb,3,none⟩=some (.slice a0 n0 c0)) /\
   (wr.drew.cell? ⟨q.f,0,none⟩=some (.map (some q.m))/\(Instr.lookup 279 (.map (some q.m)) (.int .i64 x) false).run prog wr.drew=.ok (.pointer (some ⟨xb,0,none⟩)) wr.drew/\wr.drew.cell? ⟨xb,3,none⟩=some (.slice a0 n0 c0)) /\
   ∃(a1:Option Addr) (n1 c1:Nat) (w1:World) (v2:Value) (w2:World),(Builtin.append_ #[36,36] 36 #[.slice (some ⟨g,0,none⟩) ws.length cap,.slice a0 n0 c0]).run prog wr.drew=.ok (.slice a1 n1 c1) w1 /\
    (Builtin.append_ #[36,36] 36 #[u,.slice (some ⟨w1.heap.size,0,none⟩) 1 1]).run prog (w1.alloc (.cells #[.int .i64 x] 3))=.ok v2 w2 /\
    ∃ws',TwoI w w2 (.slice a1 n1 c1) ws' v2 (M++[x])/\BelI q id ws' (M++[x])/\slen v2=slen u+1/\slen u+1<=(preT (kdF q.N) (rkF q.next) id).length:=by
 obtain⟨Ah,hn,_,_,AH,Hq,_⟩:=T.1.parts;obtain⟨l1,l2,_⟩:=B.len ok hf;obtain⟨ex,FS⟩:=B.nodes x (by simp);rw [J2v,J5N] at hn AH l1;obtain⟨v1,w1,v2,w2,r1,r2,Ih⟩:=Z0E h ok FS T (by omega) l2;have B2:=B.step ok FS;obtain⟨_,_,l3⟩:=B2.len ok hf;obtain⟨a1,c1,rfl⟩:=Ih.1.shape;obtain⟨a2,c2,Hm⟩:=Ih.2.1.shape;obtain⟨au,cu,hu⟩:=T.2.1.shape;have hs:Sep wr q.hl:=(h.grown T.1.2).sep;have k3:=(FO.nd0 hs FS).2.2.2;have JR:=(FO.nd0 hs.drew FS).2.2.2;have OQ:=(Q0b FS).2;rw [OQ] at k3 JR;obtain⟨a0,n0,c0,JI⟩:∃a n c,lvOf (q.kr x) ex.q.ks.length=.slice a n c:=by
  cases q.kr x with
  | none=>exact⟨_,_,_,rfl⟩
  | some p=>exact⟨_,_,_,rfl⟩
 rw [JI] at k3 JR r1;refine⟨hn,AH,by omega,Hq,(T.1.cellAt (j:=ws.length) (x:=x) (by simp)).1,ex.b,a0,n0,c0,⟨FO.c0 hs,FO.look_some hs FS,k3⟩,⟨FO.c0 hs.drew,FO.look_some hs.drew FS,JR⟩,a1,_,c1,w1,v2,w2,r1,r2,ws++ex.q.ks,Ih,B2,?_,?_⟩
 ·rw [Hm,hu];simp [slen]
 ·rw [hu];rw [J2v,J5N] at l3;exact l3
theorem Z0F {w:World} {q:FO} (h:Sep w q.hl) (ok:q.Ok) {id:Int} {e:En Nd} (hf:find q.N id=some e) :
  Calls prog 84 #[.pointer (some ⟨q.f,0,none⟩),.int .i64 id] w (NewIs w (Q0x (kdF q.N) (rkF q.next) id)):=by
 have ka:=Q2S h hf;have HH:=Q0a h;have Ct:=Q0a ok;have HF:=Q0a hf;obtain⟨-,-,-,-,GK,xb,a0,n0,c0,⟨f0,lk,k3⟩,⟨f0d,lkd,JR⟩,a1,n1,c1,w1,v2,w2,r1,r2,ws',Ih,KU,Ac,Ef⟩:=Q9r (ws:=[]) h ok hf (TwoI.startI w id) (BelI.start hf);rw [J4l] at GK r1;have GY:=Q0a r1;have Mm:IntKind.i64.wrap 0=0:=Go.IntWalk.i64_in _ (by omega);have Ka:=Q0a Ih;have Ey:=Q0a KU;clear h ok hf Ih KU r1 Ac Ef;go_enter func84,ntmps84;go_wp2_with fail;refine wp_scope_jumps 0 (fun a' w'=>∃(wv ov:Value) (ws M:List Int) (u7 u8 u9 u10 u11 u12 u13 u14 u15 u16 u17 u18 u19 u20 u21 u22 u23 u24 u25 u26 u27 u28 u29 u30 u31 u32 u33 u34 u35 u36 u37 u38 u39 u40 u41 u42 u43 u44 u45 u46 u47 u48:Value),a'={tmps:=#[.pointer (some ⟨q.f,0,none⟩),.int .i64 id,undef,undef,.slice none 0 0,ov,wv,u7,u8,u9,u10,u11,u12,u13,u14,u15,u16,u17,u18,u19,u20,u21,u22,u23,u24,u25,u26,u27,u28,u29,u30,u31,u32,u33,u34,u35,u36,u37,u38,u39,u40,u41,u42,u43,u44,u45,u46,u47,u48],defers:=[]}/\TwoI w w' wv ws ov M/\BelI q id ws M) (fun a' _=>(preT (kdF q.N) (rkF q.next) id).length-slen (a'.tmps.getD 5 undef)) rfl ?_ ?_
 ·go_wp2_with fail;refine ka.mono ?_;rintro r w' ⟨rfl,rfl⟩;go_wp2_with fail
  go_step3
  go_wp2_with fail
  go_region_law (refine Q0H rfl (.tmp 27) (.tmp 36) 36 36 rfl _ _ (by simp [Act.eval]) (by simp [Act.eval]) GY.out ?_)
  all_goals
   go_wp2_with (at_builtin;refine Lib.wpList_append_run _ rfl _ _ _ _ rfl _ _ rfl rfl _ _ r2 ?_)
   go_step3
   refine⟨rfl,.slice a1 n1 c1,v2,ws',[]++[id],_,_,_,_,_,_,_,_,_,_,_,_,_,_,_,_,_,_,_,_,_,_,_,_,_,_,_,_,_,_,_,_,_,_,_,_,_,_,_,_,_,_,rfl,Ka.out,Ey.out⟩
 ·rintro a' wr ⟨wv,ov,ws,M,u7,u8,u9,u10,u11,u12,u13,u14,u15,u16,u17,u18,u19,u20,u21,u22,u23,u24,u25,u26,u27,u28,u29,u30,u31,u32,u33,u34,u35,u36,u37,u38,u39,u40,u41,u42,u43,u44,u45,u46,u47,u48,rfl,hT,hB⟩;have A8:ws=[]∨∃(ws':List Int) (y:Int),ws=ws'++[y]:=by
   rcases J6j ws with h|⟨a,b,h⟩
   ·exact .inl h
   ·exact .inr ⟨a,b,by rw [h,J6k]⟩
  rcases A8 with rfl|⟨ws0,x,rfl⟩
  ·have B5:=hB.done Ct.out;have GF:=(hB.len Ct.out HF.out).2.1;have Aa:M≠[]:=fun e=>by rw [e] at B5;simp at B5
   obtain⟨aw,cw,rfl⟩:=hT.1.shape;obtain⟨g,co,rfl⟩:=hT.2.1.shape1 Aa;obtain⟨_,_,_,_,Kx,_⟩:=hT.2.1.parts;have D5:=Q9q g co M.toArray wr (Z3o hT.2.1) (by simpa using GF);have Bb:∀n,NewIs w (Q0x (kdF q.N) (rkF q.next) id) (.returned (.slice (some ⟨g,0,none⟩) (Q0x (kdF q.N) (rkF q.next) id).length co)) (Go.Sort.putRow encI (Go.Sort.ahead wr n) g 0 M.toArray.reverse):=fun n=>by
    have h1:=hT.2.1.reversed (k:=n);rw [B5] at h1;have h2:=h1.cut;exact⟨_,rfl,h2.1,h2.2⟩
   have CJ:M.length=(Q0x (kdF q.N) (rkF q.next) id).length+1:=by
    have:=congrArg List.length B5
    simpa using this
   have AZ:=Q0a Bb;rw [show M.toArray.size=M.length from rfl] at D5;rw [CJ] at D5 Kx GF ⊢;generalize hm:(Q0x (kdF q.N) (rkF q.next) id).length=m at *
   have G9:((m:Nat):Int)<=(co:Int):=by omega
   have AH:m<=co:=by omega
   have V3:(m:Int)<65536:=by omega
   have hw:IntKind.i64.wrap (m:Int)=(m:Int):=Go.IntWalk.i64_in _ (by omega);clear Bb hT hB B5 Aa CJ hm GF Kx Ka Ey GY r2 GK f0 lk k3 f0d lkd JR ka;generalize NewIs w (Q0x (kdF q.N) (rkF q.next) id)=Q at *
   go_wp2_with fail;refine D5.mono ?_;rintro r w3 ⟨rfl,n,rfl⟩;have HQ:=Q0a (AZ.out n);clear D5 AZ;generalize Go.Sort.putRow encI (Go.Sort.ahead wr n) g 0 M.toArray.reverse=w3 at *
   go_wp2_with fail
   try simp only [Exit.jump]
   first|exact HQ.out|(go_ret;exact HQ.out)
  ·clear Ka Ey GY r2 GK f0 lk k3 f0d lkd JR ka Mm;obtain⟨g,cap,rfl⟩:=hT.1.shape1 (by simp);obtain⟨hn,AH,Rh,_,GK,xb,a0,n0,c0,⟨f0,lk,k3⟩,⟨f0d,lkd,JR⟩,a1,n1,c1,w1,v2,w2,r1,r2,ws',Ih,KU,Ac,Ef⟩:=Q9r HH.out Ct.out HF.out hT hB;have GY:=Q0a r1;have Ka:=Q0a Ih;have Ey:=Q0a KU;obtain⟨au,cu,rfl⟩:=hT.2.1.shape;have A7:(preT (kdF q.N) (rkF q.next) id).length-slen v2<(preT (kdF q.N) (rkF q.next) id).length-slen (.slice au M.length cu):=by omega
   have On:=Q0a A7;rw [hn];generalize ws0.length=n at *
   have G9:((n:Nat):Int)<=(cap:Int):=by omega
   have PQ:n<=cap:=by omega
   have UU:(n:Int)<65536:=by omega
   have hw:IntKind.i64.wrap (n:Int)=(n:Int):=Go.IntWalk.i64_in _ (by omega);have Do:(0:Int)<=(n:Int):=by omega
   clear hT hB Ih KU r1 A7 Ac Ef hn AH Rh;go_wp2_with fail
   go_region_law (refine Q0H rfl (.tmp 27) (.tmp 36) 36 36 rfl _ _ (by simp [Act.eval]) (by simp [Act.eval]) GY.out ?_)
   all_goals
    go_wp2_with (at_builtin;refine Lib.wpList_append_run _ rfl _ _ _ _ rfl _ _ rfl rfl _ _ r2 ?_)
    go_step3
    refine⟨rfl,⟨.slice a1 n1 c1,v2,ws',M++[x],_,_,_,_,_,_,_,_,_,_,_,_,_,_,_,_,_,_,_,_,_,_,_,_,_,_,_,_,_,_,_,_,_,_,_,_,_,_,_,_,_,_,rfl,Ka.out,Ey.out⟩,On.out⟩
theorem Q6x {w:World} {Z:SP} (hs:Sep w Z.hl) (ok:Z.F.Ok) {x z g f:Nat} (hx:x<4294967296) (hz:z<256) :
  Calls prog 83 #[.pointer (some ⟨Z.s,0,none⟩),.agg #[.pointer (some ⟨g,0,none⟩),.int .u32 x,.int .i64 f],.int .i64 z] w (Told w (.int .i64 (ownN Z.F.N (x:Int) (z:Int)))):=by
 have b1:Below w.heap.size w (w.alloc (.cells #[.pointer (some ⟨g,0,none⟩),.int .u32 x,.int .i64 f] 155)):=(Below.refl _ _).alloc (J1L _) _;have s1:=(hs.grown b1).sep;have c1:=SP.c1 s1;have Pv:(w.alloc (.cells #[.pointer (some ⟨g,0,none⟩),.int .u32 x,.int .i64 f] 155)).drew.cell? ⟨Z.s,1,none⟩=some (.pointer (some ⟨Z.F.f,0,none⟩)):=c1;have hB:=Cells.new w 155 [.pointer (some ⟨g,0,none⟩),.int .u32 x,.int .i64 f];have q1:=hB.cell 1 _ rfl;have U2:(w.alloc (.cells #[.pointer (some ⟨g,0,none⟩),.int .u32 x,.int .i64 f] 155)).drew.cell? ⟨w.heap.size,1,none⟩=some (.int .u32 x):=q1;have g1:(0:Int)<=(x:Int):=by omega
 have g2:(x:Int)<9223372036854775808:=by omega
 have g3:(0:Int)<=(z:Int):=by omega
 have g4:(z:Int)<9223372036854775808:=by omega
 have kf:=Q4M (SP.sF s1.drew) ok (sp:=(x:Int)) (sl:=(z:Int)) (Q3o (p:=((x:Int),(z:Int))) g1 g2 g3 g4);have HR:Hid (Below w.heap.size w (w.alloc (.cells #[.pointer (some ⟨g,0,none⟩),.int .u32 x,.int .i64 f] 155)).drew):=b1.drew;have Dv:(x:Int)<4294967296:=by omega
 have LI:IntKind.i64.wrap (x:Int)=(x:Int):=Go.IntWalk.i64_in _ (by omega);generalize ownN Z.F.N (x:Int) (z:Int)=oid at *
 clear hs ok hx hz b1 s1 hB g2 g3 g4;go_enter func83,ntmps83;go_wp2_with fail
 go_region_held3 (fun w'=>w'.cell? ⟨Z.s,1,none⟩=some (.pointer (some ⟨Z.F.f,0,none⟩))/\w'.cell? ⟨w.heap.size,1,none⟩=some (.int .u32 x)) (first|exact⟨c1,q1⟩|exact⟨Pv,U2⟩)
  (first|(go_at_call 88;refine kf.mono ?_;rintro r w' ⟨rfl,rfl⟩))
 go_wp2_with fail
 first|exact⟨rfl,HR.out⟩|(go_ret;exact⟨rfl,HR.out⟩)
def revL (q:FO) (id:Int) (self:Bool):List Int:=Q0x (kdF q.N) (rkF q.next) id++if self=true then [id] else []
theorem Z1U {q:FO} (ok:q.Ok) {id:Int} {e:En Nd} (hf:find q.N id=some e) (self:Bool):(revL q id self).length<=65537:=by
 have h:=Z1T ok hf;rw [Q3F ok.n.tree,J2w,J6i] at h;unfold revL;rw [J2v];split <;> simp <;> omega
theorem Q7q {w:World} {Z:SP} (hs:Sep w Z.hl) (ok:Z.F.Ok) {id:Int} {e:En Nd} (hf:find Z.F.N id=some e) :
  Calls prog 84 #[.pointer (some ⟨Z.F.f,0,none⟩),.int .i64 id] w fun r w'=>Below w.heap.size w w'/\∃(a:Option Addr) (cap:Nat),r=.returned (.slice a (Q0x (kdF Z.F.N) (rkF Z.F.next) id).length cap)/\OutI w w' (.slice a (Q0x (kdF Z.F.N) (rkF Z.F.next) id).length cap) (Q0x (kdF Z.F.N) (rkF Z.F.next) id):=by
 refine (Z0F (SP.sF hs) ok hf).mono ?_;rintro r w' ⟨v,rfl,h1,h2⟩;obtain⟨a,cap,rfl⟩:=OutI.shape (w:=w) (wr:=w') ⟨h1,h2⟩;exact⟨h2,a,cap,rfl,h1,h2⟩
theorem OutI.aside {w w':World} {H:HL} {v:Value} {L:List Int} (h:OutI w w' v L) (hs:Sep w H):∃(a:Option Addr) (cap:Nat),v=.slice a L.length cap/\AsideV H (L.map encI) a w':=Q7j hs h.1
def RevR (Z:SP) (fr:List Nat) (N K:Nat) (M:Int) (x:Nat) (z mask:Int) (self:Bool) (w:World) (r:Ending) (w':World):Prop:=
 (∃e:Int,r=.returned (.tuple #[.int .i64 0,.int .i64 e])/\Below w.heap.size w w'/\((pget Z.S.l 1 x=none/\e=8)∨∃p,pget Z.S.l 1 x=some p/\((p.kind≠2/\e=10)∨(p.kind=2/\¬(0<=z/\z<256)/\e=2) ∨
  (p.kind=2/\(0<=z/\z<256)/\¬(0<mask/\mask<=15)/\e=1)∨(p.kind=2/\(0<=z/\z<256)/\(0<mask/\mask<=15)/\Q0f Z.S.l Z.tb x z.toNat=none/\e=6)))) ∨
 (∃(s m:Nat) (n:En Nd) (en:Ent),z=(s:Int)/\mask=(m:Int)/\s<256/\1<=m/\m<16/\Q0f Z.S.l Z.tb x s=some en/\n∈Z.F.N/\n.q.sp=(x:Int)/\n.q.sl=(s:Int) /\
  r=.returned (.tuple #[.int .i64 ((Q0y m Z.av (revL Z.F n.id self)).2:Nat),.int .i64 0])/\Q8e Z fr N K M m (revL Z.F n.id self) w w')
theorem Z3r {w:World} {Z:SP} {fr:List Nat} {N K:Nat} {M:Int} (hs:Sep w Z.hl) (ok:Z.Ok fr N K M) {x:Nat} (hx:x<4294967296) {p:Pl} (hp:pget Z.S.l 1 x=some p) (hk:p.kind=2) {s m:Nat} (A6:s<256) (DE:1<=m) (hm:m<16) {en:Ent} (he:Q0f Z.S.l Z.tb x s=some en) (self:Bool) :
  Calls prog 20 #[.pointer (some ⟨Z.s,0,none⟩),.int .u32 x,.int .i64 s,.int .i64 m,.bool self] w (RevR Z fr N K M x (s:Int) (m:Int) self w):=by
 have ks:=Q0U hs ok.core hx hp hk;have hi:=(pget_some.1 hp).1;have Ao:=(pget_some.1 hp).2.2;obtain⟨n,hn,n1,n2,Ag,Fm⟩:=ok.fpi.own ok.fo.n he;have AB:(Z.tb (x%256)).at' (s:Int)=some en:=by
  unfold TB.at';rw [if_pos ⟨by omega,by omega⟩,J2R,<- Q0h hp hk A6];exact he
 have A7:=ok.fpi.low ok.core.inv.lok he;have HC:Hid (∀(w2:World) (g:Nat),Below w.heap.size w w2->TblZ Z p g w2->Calls prog 74 #[.agg #[.pointer (some ⟨g,0,none⟩),.int .u32 x,.int .i64 (p.fac:Int)],.int .i64 s] (w2.alloc (.cells #[.pointer (some ⟨g,0,none⟩),.int .u32 x,.int .i64 (p.fac:Int)] 155)) (fun r w4=>r=.returned (.tuple #[.agg #[.int .u32 (en.h:Int),.int .i64 (en.r:Int)],.bool true]) /\
   ∀o,Below w.heap.size w (w4.alloc o)/\Cells (w4.alloc o) w2.heap.size 155 [.pointer (some ⟨g,0,none⟩),.int .u32 x,.int .i64 (p.fac:Int)])):=fun w2 g Af hg=>by
  have Ar:Below w2.heap.size w2 (w2.alloc (.cells #[.pointer (some ⟨g,0,none⟩),.int .u32 x,.int .i64 (p.fac:Int)] 155)):=(Below.refl _ _).alloc (J1L _) _;have BJ:=Af.alloc Af.size (.cells #[.pointer (some ⟨g,0,none⟩),.int .u32 x,.int .i64 (p.fac:Int)] 155);have s2:=(hs.grown Af).sep;have T:=(ok.tpi.x (p.fac:Int)).tt ok.core hi Ao hk (SP.sS (s2.grown Ar).sep) (hg.grown s2 Ar).c;refine (Q1u T (x:Int) (p.fac:Int) (s:Int) fun e AM=>by rw [AB] at AM;cases AM;exact A7).mono ?_;rw [AB];rintro r w4 ⟨rfl,Az⟩;have Em:Below w.heap.size w w4:=BJ.trans (Az.mono BJ.size);have hB:=(Cells.new w2 155 [.pointer (some ⟨g,0,none⟩),.int .u32 x,.int .i64 (p.fac:Int)]).same (Az.block w2.heap.size (by simp))
  exact⟨rfl,fun o=>⟨Em.alloc Em.size o,hB.alloc o⟩⟩
 have D4:=fun W=>Q2U W (s:Int)
 rw [decide_eq_true (show 0<=(s:Int)/\(s:Int)<256 from ⟨by omega,by omega⟩)] at D4;have Fc:=fun W=>Q3J W (m:Int)
 rw [decide_eq_true (show 0<(m:Int)/\(m:Int)<=15 from ⟨by omega,by omega⟩)] at Fc;have AY:=Q0a D4;have Bg:=Q0a Fc;have HN:Hid (∀W g,Below w.heap.size w W->Calls prog 83 #[.pointer (some ⟨Z.s,0,none⟩),.agg #[.pointer (some ⟨g,0,none⟩),.int .u32 x,.int .i64 (p.fac:Int)],.int .i64 s] W fun r w'=>r=.returned (.int .i64 n.id)/\Below w.heap.size w w'/\w'.cell? ⟨Z.s,1,none⟩=some (.pointer (some ⟨Z.F.f,0,none⟩)) /\
   Calls prog 84 #[.pointer (some ⟨Z.F.f,0,none⟩),.int .i64 n.id] w' fun r w5=>∃(a:Option Addr) (cap:Nat),r=.returned (.slice a (Q0x (kdF Z.F.N) (rkF Z.F.next) n.id).length cap) /\
    (self=false->Calls prog 85 #[.pointer (some ⟨Z.s,0,none⟩),.int .i64 m,.slice a (Q0x (kdF Z.F.N) (rkF Z.F.next) n.id).length cap] w5 fun r w6=>∃v:Int,r=.returned (.int .i64 v)/\RevR Z fr N K M x (s:Int) (m:Int) self w (.returned (.tuple #[.int .i64 v,.int .i64 0])) w6) /\
    (self=true->∃(a2:Option Addr) (n2 c2:Nat) (w6:World),(Builtin.append_ #[36,36] 36 #[.slice a (Q0x (kdF Z.F.N) (rkF Z.F.next) n.id).length cap,.slice (some ⟨w5.heap.size,0,none⟩) 1 1]).run prog (w5.alloc (.cells #[.int .i64 n.id] 3))=.ok (.slice a2 n2 c2) w6 /\
     Calls prog 85 #[.pointer (some ⟨Z.s,0,none⟩),.int .i64 m,.slice a2 n2 c2] w6 fun r w7=>∃v:Int,r=.returned (.int .i64 v)/\RevR Z fr N K M x (s:Int) (m:Int) self w (.returned (.tuple #[.int .i64 v,.int .i64 0])) w7)):=fun W g FN=>by
  have sW:=(hs.grown FN).sep;refine (Q6x sW ok.fo hx A6).mono ?_;rw [Ag];rintro r w' ⟨rfl,Ak⟩;have FB:Below w.heap.size w w':=FN.trans (Ak.mono FN.size);have s':=(hs.grown FB).sep;refine⟨rfl,FB,SP.c1 s',(Q7q s' ok.fo Fm).mono ?_⟩;rintro r w5 ⟨AD,a,cap,rfl,Au⟩;have Tu:Below w.heap.size w w5:=FB.trans (AD.mono FB.size);have Ac:=Z1U ok.fo Fm self;have fin:∀{w6:World} {v:Value} {L:List Int},L=revL Z.F n.id self->OutI w' w6 v L->∃(a:Option Addr) (cap:Nat),v=.slice a L.length cap/\Calls prog 85 #[.pointer (some ⟨Z.s,0,none⟩),.int .i64 m,.slice a L.length cap] w6 fun r w6=>∃v:Int,r=.returned (.int .i64 v)/\RevR Z fr N K M x (s:Int) (m:Int) self w (.returned (.tuple #[.int .i64 v,.int .i64 0])) w6:=fun {w6 v L} hL ho=>by
   obtain⟨a,cap,rfl,has⟩:=ho.aside s';have Di:Below w.heap.size w w6:=FB.trans (ho.2.mono FB.size);refine⟨a,cap,rfl,(Q2w (hs.grown Di).sep ok m DE hm L a cap (by rw [hL];omega) has ?_).mono ?_⟩
   ·rw [hL];exact Q8X (a:=Z.av) ok.fo.n n.id self
   ·rintro r w7 ⟨rfl,Z',k1,k2,k3,k4⟩;rw [hL];rw [hL] at k2;exact⟨_,rfl,.inr ⟨s,m,n,en,rfl,rfl,A6,DE,hm,he,hn,n1,n2,rfl,Z',k1,k2,k3,(hs.grown Di).trans k4⟩⟩
  refine⟨a,cap,rfl,fun Gm=>?_,fun Gm=>?_⟩
  ·obtain⟨a',BA,hv,hc⟩:=fin (by unfold revL;rw [Gm];simp) Au;cases hv;exact hc
  ·have Dr:(Q0x (kdF Z.F.N) (rkF Z.F.next) n.id).length<=16777216:=by
    unfold revL at Ac;rw [J2v] at Ac;omega
   obtain⟨v',w6,Bn,Ea⟩:=Au.app Dr n.id 36;obtain⟨a',BA,rfl,hc⟩:=fin (by unfold revL;rw [Gm];simp) Ea;exact⟨a',_,BA,w6,Bn,hc⟩
 generalize RevR Z fr N K M x (s:Int) (m:Int) self w=Q at *
 generalize (Q0x (kdF Z.F.N) (rkF Z.F.next) n.id).length=bl at *
 clear hs ok hx hp hk hi Ao he AB A7 hn n1 n2 Ag Fm D4 Fc DE hm;go_enter func20,ntmps20;go_wp2_with fail;refine ks.mono ?_;rintro r w2 ⟨g,rfl,Af,hg⟩;have kc:=HC.out w2 g Af hg;clear Af hg HC ks;go_wp2_with fail;refine kc.mono ?_;rintro r w4 ⟨rfl,hz⟩;obtain⟨Az,D6⟩:=hz (.cells #[.int .u32 (en.h:Int),.int .i64 (en.r:Int)] 35);have kh:=AY.out (w4.alloc (.cells #[.int .u32 (en.h:Int),.int .i64 (en.r:Int)] 35));have kr:=Bg.out (w4.alloc (.cells #[.int .u32 (en.h:Int),.int .i64 (en.r:Int)] 35));have kn:=HN.out (w4.alloc (.cells #[.int .u32 (en.h:Int),.int .i64 (en.r:Int)] 35)) g Az
 have b0:=D6.cell 0 _ rfl;have b1:=D6.cell 1 _ rfl;have b2:=D6.cell 2 _ rfl;have Qe:=Q0a kn;clear hz Az D6 kc AY Bg HN kn;go_wp2_with fail;refine kh.mono ?_;rintro r w' ⟨rfl,rfl⟩;go_wp2_with fail;refine kr.mono ?_;rintro r w' ⟨rfl,rfl⟩;go_wp2_with fail;refine Qe.out.mono ?_;rintro r w5 ⟨rfl,AD,c5,kb⟩;have RJ:=Q0a kb;clear AD kb Qe kh kr;go_wp2_with fail;refine RJ.out.mono ?_;rintro r w6 ⟨a,cap,rfl,h1,h2⟩;have H1:=Q0a h1;have H2:=Q0a h2;clear h1 h2 RJ b0 b1 b2;cases self with
 | false =>
  have kw:=Q0a (H1.out rfl);clear H1 H2;go_wp2_with fail;refine kw.out.mono ?_;rintro r w7 ⟨v,rfl,hq⟩;have HQ:=Q0a hq;clear hq kw;go_wp2_with fail
  first|exact HQ.out|(go_ret2;exact HQ.out)
 | true =>
  obtain⟨a2,n2,c2,w7,Bn,QZ⟩:=H2.out rfl;have kw:=Q0a QZ;clear H1 H2 QZ;go_wp2_with (at_builtin;refine Lib.wpList_append_run _ rfl _ _ _ _ rfl _ _ rfl rfl _ _ Bn ?_);refine kw.out.mono ?_;rintro r w8 ⟨v,rfl,hq⟩;have HQ:=Q0a hq;clear hq kw;go_wp2_with fail
  first|exact HQ.out|(go_ret2;exact HQ.out)
end Go.Proofs.YtlakjlmaboioiaaGreatDoor
