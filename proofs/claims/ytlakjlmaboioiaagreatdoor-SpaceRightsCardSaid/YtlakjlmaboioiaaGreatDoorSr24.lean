/- SpaceRights returns true at every input. No condition. Part of its proof. -/
import Derived.Test.YtlakjlmaboioiaaGreatDoorSr01
import Derived.Test.YtlakjlmaboioiaaGreatDoorSr23
import Derived.Test.YtlakjlmaboioiaaGreatDoorSr15
import Derived.Deep.LoopGhost
import Derived.Test.YtlakjlmaboioiaaGreatDoorSr19
import Derived.Test.YtlakjlmaboioiaaGreatDoorSr21
set_option maxHeartbeats 4000000
set_option maxRecDepth 100000
set_option linter.unusedVariables false
namespace Go.Proofs.YtlakjlmaboioiaaGreatDoor
open Go.RowKit Go.Proofs.Tryz
structure Grow (w4:World) (v4:Value) (wr:World) (v:Value):Prop where
 size:w4.heap.size<=wr.heap.size
 keep:∀b,b<w4.heap.size->v4.ownBlock≠some b->wr.heap[b]?=w4.heap[b]?
 own:v.ownBlock=v4.ownBlock∨∀b,v.ownBlock=some b->w4.heap.size<=b
theorem Grow.refl (w:World) (v:Value):Grow w v w v:=⟨J1x _,fun _ _ _=>rfl,.inl rfl⟩
theorem Grow.below {w4 wr w':World} {v4 v:Value} (h:Grow w4 v4 wr v) (hb:Below wr.heap.size wr w'):Grow w4 v4 w' v:=
 ⟨J1y h.size hb.size,fun b hl hn=>(hb.block b (J1z hl h.size)).trans (h.keep b hl hn),h.own⟩
theorem Grow.app {w4 wr w':World} {v4 v v':Value} (h:Grow w4 v4 wr v) (h1:∀b,b<wr.heap.size->v.ownBlock≠some b->w'.heap[b]?=wr.heap[b]?) (h2:v'.ownBlock=v.ownBlock∨∀b,v'.ownBlock=some b->wr.heap.size<=b) (h3:wr.heap.size<=w'.heap.size):Grow w4 v4 w' v':=by
 refine⟨J1y h.size h3,fun b hl hn=>(h1 b (J1z hl h.size) fun e=>?_).trans (h.keep b hl hn),?_⟩
 ·rcases h.own with h4|h4
  ·exact hn (h4 ▸ e)
  ·have:=h4 b e;omega
 ·rcases h2 with h2|h2
  ·rw [h2];exact h.own
  ·exact .inr fun b hb=>J1y h.size (h2 b hb)
theorem Q8a {w':World} {B:Nat} {T:TypeId} {size n:Nat} {v:Value} {cs:List Value} (h:w'.ownsRow B T size v n cs):∃(a:Option Addr) (cap:Nat),v=.slice a n cap/\∀(j:Nat) (u:Value),cs[j]?=some u->∃g,a=some ⟨g,0,none⟩/\B<=g/\g<w'.heap.size/\w'.cell? ⟨g,j,none⟩=some u:=by
 obtain⟨hl,h2⟩:=h;rcases h2 with ⟨rfl,h0⟩|⟨g,cap,cur,rfl,hg,hgb,hn,hm,hsz,htk⟩
 ·refine⟨none,0,by rw [h0],fun j u hj=>?_⟩;have hl':cs.length=0:=by rw [hl,h0,J5n]
  rw [J3w.1 hl'] at hj;simp at hj
 ·refine⟨some ⟨g,0,none⟩,cap,rfl,fun j u hj=>⟨g,rfl,hg,lt_of_block hgb,?_⟩⟩;have hjl:=(J1O.1 hj).1;have e:cur.toList[j]?=some u:=by
   rw [<- htk] at hj;have hk:j<n*size:=by omega
   rwa [J3A,if_pos hk] at hj
  unfold World.cell?;simp only [hgb]
  simpa using e
theorem NewIs.from' {w w':World} {L:List Int} {r:Ending} (h:NewIs w L r w'):∃(a:Option Addr) (cap:Nat),r=.returned (.slice a L.length cap)/\Below w.heap.size w w'/\∀(j:Nat) (z:Int),L[j]?=some z->∃g,a=some ⟨g,0,none⟩/\w.heap.size<=g/\g<w'.heap.size/\w'.cell? ⟨g,j,none⟩=some (.int .i64 z):=by
 obtain⟨v,rfl,h1,h2⟩:=h;obtain⟨a,cap,rfl,h3⟩:=Q8a h1;exact⟨a,cap,rfl,h2,fun j z hz=>h3 j _ (by rw [J3i,hz];rfl)⟩
theorem Z6i {w:World} {Z:SP} {fr:List Nat} {N K:Nat} {M:Int} (hs:Sep w Z.hl) (ok:Z.Ok fr N K M) {y:Nat} (hy:y∈allL Z.S.l 1):y<4294967296 /\
  ((∃e:Int,e≠0/\Q0o Z.S.l Z.tb y=[]/\Calls prog 73 #[.pointer (some ⟨Z.s,0,none⟩),.int .u32 y] w (Told w (.tuple #[.agg #[.pointer none,.int .u32 0,.int .i64 0],.int .i64 e]))) ∨
   ∃p,pget Z.S.l 1 y=some p/\p.kind=2/\Calls prog 73 #[.pointer (some ⟨Z.s,0,none⟩),.int .u32 y] w fun r w'=>∃g:Nat,r=.returned (.tuple #[.agg #[.pointer (some ⟨g,0,none⟩),.int .u32 y,.int .i64 (p.fac:Int)],.int .i64 0])/\Below w.heap.size w w'/\TblZ Z p g w'/\w.heap.size<=g):=by
 have hlok:=ok.core.inv.lok;obtain⟨q,hq⟩:=(Q2V (by rw [hlok.1];omega)).1 hy;have hy32:y<4294967296:=by
  obtain⟨a1,a2,_⟩:=pget_some.1 hq;have:=(hlok.2 q (J3L a1)).2;unfold nm at a2;omega
 refine⟨hy32,?_⟩;by_cases hk:q.kind=2
 ·exact .inr ⟨q,hq,hk,Q8X hs ok.core hy32 hq hk⟩
 ·refine .inl ⟨10,by decide,?_,Q0I hs ok.core hy32 10 (.inr ⟨q,hq,hk,rfl⟩)⟩;unfold Q0o;rw [hq];simp only;rw [if_neg hk]
theorem Z8m {w w1 w4 wr:World} {Z:SP} {fr:List Nat} {N K:Nat} {M:Int} (hs:Sep w Z.hl) (ok:Z.Ok fr N K M) {y:Nat} {p:Pl} (hp:pget Z.S.l 1 y=some p) (hk:p.kind=2) (hb:Below w.heap.size w wr) {g:Nat} (hg4:TblZ Z p g w4) {v4 v:Value} (G:Grow w4 v4 wr v) (hne:v4.ownBlock≠some g) {s:Nat} (hs2:s<256) {e:Ent} (he:Q0f Z.S.l Z.tb y s=some e) :
  Calls prog 74 #[.agg #[.pointer (some ⟨g,0,none⟩),.int .u32 y,.int .i64 (p.fac:Int)],.int .i64 s] wr (Told wr (.tuple #[.agg #[.int .u32 (e.h:Int),.int .i64 (e.r:Int)],.bool true])):=by
 have s4:=(hs.grown hb).sep;have hgr:TblZ Z p g wr:=fun j u hj=>by
  obtain⟨g',h1,h2,h3,h4⟩:=hg4 j u hj;cases h1;exact⟨g,rfl,h2,J1z h3 G.size,(World.cell?_of_block (w:=w4) (G.keep g h3 hne)).trans h4⟩
 have hi:=(pget_some.1 hp).1;have hst:=(pget_some.1 hp).2.2;have T:=(ok.tpi.x (p.fac:Int)).tt ok.core hi hst hk (SP.sS s4) hgr.c;have hat:(Z.tb (y%256)).at' (s:Int)=some e:=by
  unfold TB.at';rw [if_pos ⟨by omega,by omega⟩,J2C];rw [Q0g hp hk hs2] at he;exact he
 have kc:=Q1t T (y:Int) (p.fac:Int) (s:Int) fun e' he'=>by rw [hat] at he';cases he';exact ok.fpi.low ok.core.inv.lok he
 rw [hat] at kc;exact kc
theorem Q5m {w:World} {Z:SP} {fr:List Nat} {N K:Nat} {M:Int} (hs:Sep w Z.hl) (ok:Z.Ok fr N K M) (h:Nat) :
  Calls prog 23 #[.pointer (some ⟨Z.s,0,none⟩),.int .u32 h] w (NewSp w (Q2R Z.S.l Z.tb h)):=by
 have c0:=SP.c0 hs;have kl:=Q6h (SP.sS hs) ok.core.inv.lok;have HSide:Hid (∀W y,Below w.heap.size w W->y∈allL Z.S.l 1->_):=fun W y hb hy=>Z6i (hs.grown hb).sep ok hy
 have HCap:Hid (∀(y:Nat) (p:Pl) (w4 wr:World) (g s:Nat) (v4 v:Value) (e:Ent),pget Z.S.l 1 y=some p->p.kind=2->Below w.heap.size w wr->TblZ Z p g w4->Grow w4 v4 wr v->v4.ownBlock≠some g->s<256->Q0f Z.S.l Z.tb y s=some e->_):=fun y p w4 wr g s v4 v e hp hk hb hg4 G hne hs2 he=>Z8m (w1:=w) hs ok hp hk hb hg4 G hne hs2 he
 have HSl:Hid (∀(y:Nat) (p:Pl) (g:Nat) (W:World),pget Z.S.l 1 y=some p->p.kind=2->Below w.heap.size w W->TblZ Z p g W->Calls prog 89 #[.pointer (some ⟨g,0,none⟩)] W (NewIs W (Q0o Z.S.l Z.tb y))):=fun y p g W hp hk hb hg=>by
  have T:=(ok.tpi.x (p.fac:Int)).tt ok.core (pget_some.1 hp).1 (pget_some.1 hp).2.2 hk (SP.sS (hs.grown hb).sep) hg.c;have e:Q0o Z.S.l Z.tb y=Q0W (Z.tb (y%256)) 256:=by unfold Q0o;rw [hp];simp only;rw [if_pos hk]
  rw [e];exact Q7i T
 have HTg:Hid (∀(p:Pl) (g:Nat) (W W':World),Below w.heap.size w W->TblZ Z p g W->Below W.heap.size W W'->TblZ Z p g W'):=fun p g W W' hb hg hb'=>hg.grown (hs.grown hb).sep hb'
 have hTl:(allL Z.S.l 1).length<=256:=by
  have:=Q2u Z.S.l 1 Z.S.l.length;unfold allL;rw [ok.core.inv.len] at this ⊢;exact this
 have HLen:Hid (∀T:List Nat,T.length<=256->(Q1P Z.S.l Z.tb h T).length<=65536):=fun T hT=>J1y (Q6x _ _ _ T) (by omega)
 have HSlm:Hid (∀y,(Q0o Z.S.l Z.tb y).length<=256/\∀z∈Q0o Z.S.l Z.tb y,∃s:Nat,z=(s:Int)/\s<256/\∃e,Q0f Z.S.l Z.tb y s=some e):=fun y=>⟨Q2S _ _ _,fun z hz=>mem_slotsL.1 hz⟩
 have HTl:=Q0a hTl;unfold Q2R;clear hs ok hTl;generalize hT:allL Z.S.l 1=T at *
 go_enter func23,ntmps23;go_wp2_with fail;refine kl.mono ?_;intro r w1 hx1;obtain⟨a0,cap0,rfl,hb1,hih⟩:=hx1.shape;have HB1:=Q0a hb1;have HIh:=Q0a hih;clear hx1 hb1 hih kl c0;go_wp2_with fail
 go_loopg [5,22] T.length (fun gk ov iv wr=>∃k:Nat,iv=.int .i64 k/\k+gk=T.length/\OutS w1 wr ov (Q1P Z.S.l Z.tb h (T.take k)))
 case atStart=>exact⟨0,rfl,J4b _,OutS.nil w1⟩
 case round =>
  obtain⟨k,rfl,hkg,hout⟩:=hrel;have HO:=Q0a hout;have HKG:=Q0a hkg;clear hout;by_cases hlt:k<T.length
  ·obtain⟨y,hy⟩:∃y,T[k]?=some y:=⟨_,J3O hlt⟩
   obtain⟨g0,rfl,hg0,hgl,hcell⟩:=(HIh.out.below HO.out.2).at' k y hy;obtain⟨hy32,hside⟩:=HSide.out wr y (HB1.out.trans (HO.out.2.mono HB1.out.size)) (J3L hy);have HStep:Hid (Q1P Z.S.l Z.tb h (T.take (k+1))=Q1P Z.S.l Z.tb h (T.take k)++Q5q Z.S.l Z.tb h y):=by
    rw [J3t,hy];exact Z3j _ _ _ _ _
   have HY:=Q0a hy;have hkb:(k:Int)<256:=by have:=HTl.out;omega
   have hk0:(0:Int)<=(k:Int):=by omega
   have hy0:(0:Int)<=(y:Int):=by omega
   have hy1:(y:Int)<4294967296:=by omega
   have hwy:IntKind.i64.wrap (y:Int)=(y:Int):=Go.IntWalk.i64_in _ (by omega);clear hy hkg hy32;rcases hside with ⟨e,hne,hsl,kside⟩|⟨p,hp,hk2,kside⟩
   ·have hne2:(e != 0)=true:=by simpa using hne
    have HR:Hid (∀W,Below wr.heap.size wr W->OutS w1 W u5 (Q1P Z.S.l Z.tb h (T.take (k+1)))):=fun W hb=>by
     rw [HStep.out];unfold Q5q Q3q;rw [hsl]
     simpa using HO.out.below hb
    clear hne hsl HO;go_wp2_with fail;refine kside.mono ?_;rintro r w2 ⟨rfl,hb2⟩;have HR2:=Q0a (HR.out _ (hb2.alloc hb2.size (.cells #[.pointer none,.int .u32 0,.int .i64 0] 155)));clear hb2 HR kside;go_wp2_with fail;go_roundg (T.length-(k+1))
    case measure=>have:=HKG.out;omega
    case rel=>exact⟨k+1,by go_num,by omega,HR2.out⟩
   ·go_wp2_with fail;refine kside.mono ?_;rintro r w2 ⟨g,rfl,hb2,ht2,hg2⟩;have hbx:Below w2.heap.size w2 (w2.alloc (.cells #[.pointer (some ⟨g,0,none⟩),.int .u32 y,.int .i64 (p.fac:Int)] 155)):=(Below.refl _ _).alloc (J1x _) _;have hbw:Below w.heap.size w wr:=HB1.out.trans (HO.out.2.mono HB1.out.size);have hbw2:Below w.heap.size w w2:=hbw.trans (hb2.mono hbw.size);have hbw3:=hbw2.trans (hbx.mono hbw2.size);have ht3:=HTg.out p g w2 _ hbw2 ht2 hbx;have ks:=HSl.out y p g _ hp hk2 hbw3 ht3;have HO3:Hid (OutS w1 (w2.alloc (.cells #[.pointer (some ⟨g,0,none⟩),.int .u32 y,.int .i64 (p.fac:Int)] 155)) u5 (Q1P Z.S.l Z.tb h (T.take k))):=(HO.out.below hb2).below hbx
    have HBx:=Q0a (Cells.new w2 155 [.pointer (some ⟨g,0,none⟩),.int .u32 y,.int .i64 (p.fac:Int)]);have HOwn:Hid (∀b,u5.ownBlock=some b->b<wr.heap.size):=fun b hb=>(HO.out.1.lt b hb).2
    have HG2:=Q0a hg2;have HP:Hid (pget Z.S.l 1 y=some p/\p.kind=2):=⟨hp,hk2⟩
    have HT3:=Q0a ht3;have HSz:Hid (wr.heap.size<=w2.heap.size):=hb2.size;have HW3:=Q0a hbw3;clear hbx hbw hbw2 hbw3 ht3 ht2 hb2 hg2 hp hk2 kside HO hcell hgl hg0;go_wp2_with fail;refine ks.mono ?_;intro r w4 hx4;obtain⟨aS,capS,rfl,hb4,hrow⟩:=hx4.from'
    have HB4:=Q0a hb4;have HO4:=Q0a (HO3.out.below hb4);have HT4:=Q0a (HTg.out p g _ w4 HW3.out HT3.out hb4);have HW4:=Q0a (HW3.out.trans (hb4.mono HW3.out.size));have HBx4:=Q0a (HBx.out.same (hb4.block _ (by simp)));have HRow:Hid (∀(j:Nat) (z:Int),(Q0o Z.S.l Z.tb y)[j]?=some z->∃gS,aS=some ⟨gS,0,none⟩/\w2.heap.size<=gS/\gS<w4.heap.size/\w4.cell? ⟨gS,j,none⟩=some (.int .i64 z)):=fun j z hz=>by
     obtain⟨gS,h1,h2,h3,h4⟩:=hrow j z hz;exact⟨gS,h1,by simp at h2;omega,h3,h4⟩
    obtain⟨hSl1,hSl2⟩:=HSlm.out y;have HSl2:=Q0a hSl2;have HX:Hid (Q5q Z.S.l Z.tb h y=Q3q Z.S.l Z.tb h y (Q0o Z.S.l Z.tb y)):=rfl;have HLk:=Q0a (HLen.out (T.take k) (by rw [J3Q];have:=HTl.out;omega));generalize hSL:Q0o Z.S.l Z.tb y=SL at *
    clear hx4 hb4 hrow hSl2 ks HO3 HBx HT3 HW3 HSl HSlm HTg HSide;go_wp2_with fail;obtain⟨gko,hgo⟩:∃g,g=gk:=⟨_,rfl⟩
    subst hgo;obtain⟨wo,hwo⟩:∃wo,wo=wr:=⟨_,rfl⟩
    subst hwo;obtain⟨v4,hv4⟩:∃v4,v4=u5:=⟨_,rfl⟩
    subst hv4
    go_loopg [5,38] SL.length (fun gi ov iv wi=>∃i:Nat,iv=.int .i64 i/\i+gi=SL.length/\OutS w1 wi ov (Q1P Z.S.l Z.tb h (T.take k)++Q3q Z.S.l Z.tb h y (SL.take i))/\Grow w4 v4 wi ov)
    case atStart=>exact⟨0,rfl,by omega,by simpa [Q3q] using HO4.out,Grow.refl _ _⟩
    case round =>
     clear HO4;obtain⟨i,rfl,hig,hout,hgr⟩:=hrel;have HIG:=Q0a hig;have HO:=Q0a hout;have HG:=Q0a hgr;clear hig hout hgr;by_cases hlt2:i<SL.length
     ·obtain⟨z,hz⟩:∃z,SL[i]?=some z:=⟨_,J3O hlt2⟩
      obtain⟨s,rfl,hs2,e,he⟩:=HSl2.out z (J3L hz);obtain⟨gS,rfl,hg1,hg2,hc4⟩:=HRow.out i _ hz;have hneS:∀b,wo.heap.size<=b->v4.ownBlock≠some b:=fun b hb hx=>by have:=HOwn.out b hx;omega
      have hsz:=HSz.out;have cS:wr.cell? ⟨gS,i,none⟩=some (.int .i64 s):=(World.cell?_of_block (w:=w4) (HG.out.keep gS hg2 (hneS gS (by omega)))).trans hc4;have hBr:=HBx4.out.same (HG.out.keep w2.heap.size HBx4.out.lt (hneS _ hsz));have b0:=hBr.cell 0 _ rfl;have b1:=hBr.cell 1 _ rfl;have b2:=hBr.cell 2 _ rfl;have hbr:Below w.heap.size w wr:=HB1.out.trans (HO.out.2.mono HB1.out.size);have kc:=HCap.out y p w4 wr g s v4 u5 e HP.out.1 HP.out.2 hbr HT4.out HG.out (hneS g HG2.out) hs2 he;have hhl:hasH Z.S.l Z.tb h y (s:Int)=decide (e.h=h):=by
       unfold hasH;rw [J2C,he]
      have htk:SL.take (i+1)=SL.take i++[(s:Int)]:=by rw [J3t,hz];rfl
      have hsn:=Z3i Z.S.l Z.tb h y (SL.take i) (s:Int);rw [<- htk,hhl] at hsn;have HSn:=Q0a hsn;have hln:(Q1P Z.S.l Z.tb h (T.take k)++Q3q Z.S.l Z.tb h y (SL.take i)).length<=16777216:=by
       rw [J2h];have h1:=HLk.out;have h2:=Q9v Z.S.l Z.tb h y (SL.take i);rw [J3Q] at h2;omega
      have HApp:Hid (∀W,Below wr.heap.size wr W->∃v' w',(Builtin.append_ #[49,49] 49 #[u5,.slice (some ⟨W.heap.size,0,none⟩) 1 1]).run prog (W.alloc (.cells #[.int .i64 y,.int .i64 s] 46))=.ok v' w'/\OutS w1 w' v' ((Q1P Z.S.l Z.tb h (T.take k)++Q3q Z.S.l Z.tb h y (SL.take i))++[((y:Int),(s:Int))])/\Grow w4 v4 w' v'):=fun W hb=>by
       obtain⟨v',w',q1,q2,q3,q4,q5⟩:=(HO.out.below hb).app hln (y:Int) (s:Int) 49;exact⟨v',w',q1,q2,(HG.out.below hb).app q3 q4 q5⟩
      have HNo:Hid (∀W,Below wr.heap.size wr W->OutS w1 W u5 (Q1P Z.S.l Z.tb h (T.take k)++Q3q Z.S.l Z.tb h y (SL.take i))/\Grow w4 v4 W u5):=fun W hb=>⟨HO.out.below hb,HG.out.below hb⟩
      have hi0:(0:Int)<=(i:Int):=by omega
      have hi1:(i:Int)<256:=by omega
      have hs0:(0:Int)<=(s:Int):=by omega
      have hs1:(s:Int)<256:=by omega
      clear hz he hc4 hBr hbr hhl htk hsn hln hneS hg1 hg2 hsz HO HG hs2;go_wp2_with fail;refine kc.mono ?_;rintro r w5 ⟨rfl,hb5⟩;have hb6:=hb5.alloc hb5.size (.cells #[.int .u32 (e.h:Int),.int .i64 (e.r:Int)] 35);have HB6:=Q0a hb6;clear hb5 hb6 kc cS b0 b1 b2;by_cases hh:e.h=h
      ·obtain⟨v',w',happ,hout,hgr⟩:=HApp.out _ HB6.out;have hq:(((e.h:Nat):Int)==(h:Int))=true:=by simp [hh]
       have HR:Hid (OutS w1 w' v' (Q1P Z.S.l Z.tb h (T.take k)++Q3q Z.S.l Z.tb h y (SL.take (i+1)))/\Grow w4 v4 w' v'):=by
        refine⟨?_,hgr⟩;rw [HSn.out,if_pos (by simpa using hh),<- J2x];exact hout
       clear hh hout hgr HApp HNo HB6 HSn;have hz6:(w5.alloc (.cells #[.int .u32 (e.h:Int),.int .i64 (e.r:Int)] 35)).heap.size=w5.heap.size+1:=by simp
       rw [hz6] at happ;clear hz6;go_wp2_with (at_builtin;refine Lib.wpList_append_run _ rfl _ _ _ _ rfl _ _ rfl rfl _ _ happ ?_);go_roundg (SL.length-(i+1))
       case measure=>have:=HIG.out;omega
       case rel=>exact⟨i+1,by go_num,by omega,HR.out⟩
      ·have hq:(((e.h:Nat):Int)==(h:Int))=false:=by simp;omega
       have HR:Hid (OutS w1 (w5.alloc (.cells #[.int .u32 (e.h:Int),.int .i64 (e.r:Int)] 35)) u5 (Q1P Z.S.l Z.tb h (T.take k)++Q3q Z.S.l Z.tb h y (SL.take (i+1)))/\Grow w4 v4 (w5.alloc (.cells #[.int .u32 (e.h:Int),.int .i64 (e.r:Int)] 35)) u5):=by
        rw [HSn.out,if_neg (by simpa using hh),J3D];exact HNo.out _ HB6.out
       clear hh HApp HNo HB6 HSn;go_wp2_with fail;go_roundg (SL.length-(i+1))
       case measure=>have:=HIG.out;omega
       case rel=>exact⟨i+1,by go_num,by omega,HR.out⟩
     ·have hil:i=SL.length:=by have:=HIG.out;omega
      have HR:Hid (OutS w1 wr u5 (Q1P Z.S.l Z.tb h (T.take (k+1)))):=by
       have h1:=HO.out;rw [hil,J5G] at h1;rw [HStep.out,HX.out];exact h1
      clear HO HG;go_wp2_with fail;go_roundg (T.length-(k+1))
      case measure=>have:=HKG.out;omega
      case rel=>exact⟨k+1,by go_num,by omega,HR.out⟩
  ·have hkl:k=T.length:=by have:=HKG.out;omega
   have hout:=HO.out;rw [hkl,J5G] at hout;have HR:Hid (NewSp w (Q1P Z.S.l Z.tb h T) (.returned u5) wr):=⟨u5,rfl,Q1I hout.1 HB1.out.size,HB1.out.trans (hout.2.mono HB1.out.size)⟩
   clear hout HO;go_wp2_with fail
   first|exact HR.out|(go_ret;exact HR.out)
def Q3r (next:Int) (x:Nat) (a:AV) (s:Int):AV×Nat:=if ownN a.N (x:Int) s=0 then (a,0) else Q0M 15 a (Q0G (kdF a.N) (rkF next) (ownN a.N (x:Int) s)++[ownN a.N (x:Int) s])
def Q1K (next:Int) (x:Nat):AV->List Int->AV×Nat
 | a,[]=>(a,0)
 | a,s::r=>((Q1K next x (Q3r next x a s).1 r).1,(Q3r next x a s).2+(Q1K next x (Q3r next x a s).1 r).2)
theorem wipeA_snoc (next:Int) (x:Nat):∀(l:List Int) (a:AV) (s:Int),Q1K next x a (l++[s])=((Q3r next x (Q1K next x a l).1 s).1,(Q1K next x a l).2+(Q3r next x (Q1K next x a l).1 s).2)
 | [],a,s=>by
  show ((Q3r next x a s).1,(Q3r next x a s).2+0)=((Q3r next x a s).1,0+(Q3r next x a s).2);rw [J4b,J1G]
 | y::r,a,s=>by
  rw [J3I];unfold Q1K;rw [wipeA_snoc next x r];simp only [J2X]
def J0W (Z:SP) (fr:List Nat) (N K:Nat) (M:Int) (x:Nat) (l:List Int) (w w':World):Prop:=∃Z',Z'.Ok fr N K M/\Z'.av=(Q1K Z.F.next x Z.av l).1/\SameZ Z Z'/\Step Z.hl Z'.hl w w'
structure WpI (Z:SP) (fr:List Nat) (N K:Nat) (M:Int) (x:Nat) (l:List Int) (a:Option Addr) (w:World) (k:Nat) (Z1:SP) (wr:World):Prop where
 ok:Z1.Ok fr N K M
 av:Z1.av=(Q1K Z.F.next x Z.av (l.take k)).1
 same:SameZ Z Z1
 st:Step Z.hl Z1.hl w wr
 row:AsideV Z1.hl (l.map encI) a wr
theorem Z3k {wr:World} {Z:SP} {fr:List Nat} {N K:Nat} {M:Int} (hs:Sep wr Z.hl) (ok:Z.Ok fr N K M) {x s:Nat} (hx:x<4294967296) (hs2:s<256) :
  wr.cell? ⟨Z.s,1,none⟩=some (.pointer (some ⟨Z.F.f,0,none⟩))/\Calls prog 88 #[.pointer (some ⟨Z.F.f,0,none⟩),.int .i64 x,.int .i64 s] wr fun r w1=>∃id:Int,r=.returned (.int .i64 id)/\wr=w1/\((id=0/\ownN Z.F.N (x:Int) (s:Int)=0)∨(id≠0 /\
   Calls prog 84 #[.pointer (some ⟨Z.F.f,0,none⟩),.int .i64 id] w1 fun r w5=>∃(a:Option Addr) (n cap:Nat),r=.returned (.slice a n cap)/\∃(a2:Option Addr) (n2 c2:Nat) (w6:World),(Builtin.append_ #[36,36] 36 #[.slice a n cap,.slice (some ⟨w5.heap.size,0,none⟩) 1 1]).run prog (w5.alloc (.cells #[.int .i64 id] 3))=.ok (.slice a2 n2 c2) w6 /\
    Calls prog 85 #[.pointer (some ⟨Z.s,0,none⟩),.int .i64 15,.slice a2 n2 c2] w6 fun r w7=>∃v:Nat,r=.returned (.int .i64 v)/\v<=65537/\∃Z',Z'.Ok fr N K M/\Q3r Z.F.next x Z.av (s:Int)=(Z'.av,v)/\SameZ Z Z'/\Step Z.hl Z'.hl wr w7)):=by
 have g1:(0:Int)<=(x:Int):=by omega
 have g2:(x:Int)<9223372036854775808:=by omega
 have g3:(0:Int)<=(s:Int):=by omega
 have g4:(s:Int)<9223372036854775808:=by omega
 refine⟨SP.c1 hs,(Q4H (SP.sF hs) ok.fo (sp:=(x:Int)) (sl:=(s:Int)) (Q3k (p:=((x:Int),(s:Int))) g1 g2 g3 g4)).mono ?_⟩;rintro r w1 ⟨rfl,rfl⟩;refine⟨_,rfl,rfl,?_⟩;by_cases h0:ownN Z.F.N (x:Int) (s:Int)=0
 ·exact .inl ⟨h0,h0⟩
 ·refine .inr ⟨h0,?_⟩;obtain⟨n,hn,e1,e2⟩:=(Q3J Z.F.N (x:Int) (s:Int)).resolve_right fun h=>h0 ((Q1s ok.fo.n).2 h)
  have hid:=Q1r ok.fo.n hn;rw [e1,e2] at hid;have hfn:=Q0j ok.fo.n.ids hn;have hw1:Q3r Z.F.next x Z.av (s:Int)=Q0M 15 Z.av (revL Z.F n.id true):=by
   unfold Q3r revL;rw [if_neg (show ¬ownN Z.av.N (x:Int) (s:Int)=0 from h0),if_pos rfl];show Q0M 15 Z.av (Q0G (kdF Z.F.N) (rkF Z.F.next) (ownN Z.F.N (x:Int) (s:Int))++[ownN Z.F.N (x:Int) (s:Int)])=_;rw [hid]
  rw [hid];refine (Q7m hs ok.fo hfn).mono ?_;rintro r w5 ⟨hb5,a,cap,rfl,hout⟩;have hlen:=Z1C ok.fo hfn true;have hle:(Q0G (kdF Z.F.N) (rkF Z.F.next) n.id).length<=16777216:=by
   unfold revL at hlen;rw [J2h] at hlen;omega
  obtain⟨v',w6,happ,hout6⟩:=hout.app hle n.id 36;obtain⟨a2,c2,rfl,has⟩:=hout6.aside hs;refine⟨a,_,cap,rfl,a2,_,c2,w6,happ,?_⟩;have hl:Q0G (kdF Z.F.N) (rkF Z.F.next) n.id++[n.id]=revL Z.F n.id true:=by unfold revL;rw [if_pos rfl]
  rw [hl] at has ⊢;have s6:=(hs.grown hout6.2).sep;refine (Q2s s6 ok 15 (by omega) (by omega) (revL Z.F n.id true) a2 c2 (by omega) has (Q7f _ _)).mono ?_;rintro r w7 ⟨rfl,Z',k1,k2,k3,k4⟩;refine⟨_,rfl,J1y (Q5A 15 _ _) hlen,Z',k1,?_,k3,(hs.grown hout6.2).trans k4⟩;rw [hw1,k2]
theorem Z0x {t:TB} {k:Nat} {z:Int} (h:z∈Q0W t k):∃s:Nat,z=(s:Int)/\s<k:=by
 unfold Q0W at h;obtain⟨s,hs,rfl⟩:=J1D.1 h;exact⟨s,rfl,J1N.1 (J1R.1 hs).1⟩
theorem Z3l {l:List Pl} {tb:Nat->TB} {x:Nat} {z:Int} (h:z∈Q0o l tb x):∃s:Nat,z=(s:Int)/\s<256:=by
 unfold Q0o at h;split at h
 ·cases h
 ·split at h
  ·exact Z0x h
  ·cases h
theorem Z3m (l:List Pl) (tb:Nat->TB) (x:Nat):(Q0o l tb x).length<=256:=by
 unfold Q0o;split
 ·simp
 ·split
  ·exact Q4d _ _
  ·simp
theorem Q9w {w:World} {Z:SP} {fr:List Nat} {N K:Nat} {M:Int} (hs:Sep w Z.hl) (ok:Z.Ok fr N K M) {x:Nat} (hx:x<4294967296) :
  Calls prog 40 #[.pointer (some ⟨Z.s,0,none⟩),.int .u32 x] w fun r w'=>r=.returned (.int .i64 ((Q1K Z.F.next x Z.av (Q0o Z.S.l Z.tb x)).2:Nat))/\J0W Z fr N K M x (Q0o Z.S.l Z.tb x) w w':=by
 have ksl:=Q5b hs ok hx;have HStart:Hid (∀w1 a,Below w.heap.size w w1->AsideV Z.hl ((Q0o Z.S.l Z.tb x).map encI) a w1->WpI Z fr N K M x (Q0o Z.S.l Z.tb x) a w 0 Z w1):=fun w1 a hb ha=>⟨ok,rfl,SameZ.refl Z,hs.grown hb,ha⟩
 have HS:=Q0a hs;have HX:=Q0a hx;have HMem:Hid (∀z∈Q0o Z.S.l Z.tb x,∃s:Nat,z=(s:Int)/\s<256):=fun z hz=>Z3l hz
 have hln:=Z3m Z.S.l Z.tb x;generalize hL:Q0o Z.S.l Z.tb x=l at *
 generalize hn:l.length=n at *
 have HN:=Q0a hn;have hx0:(0:Int)<=(x:Int):=by omega
 have hx1:(x:Int)<4294967296:=by omega
 have hwx:IntKind.i64.wrap (x:Int)=(x:Int):=Go.IntWalk.i64_in _ (by omega);have HLn:=Q0a hln;clear hs ok hx hL hn hln;go_enter func40,ntmps40;go_wp2_with fail;refine ksl.mono ?_;rintro r w1 ⟨v,rfl,h1,h2⟩;obtain⟨a,cap,rfl,has⟩:=Q7g HS.out h1;have HI0:=Q0a (HStart.out w1 a h2 has);rw [HN.out];clear h1 h2 has ksl HStart;go_wp2_with fail
 go_loopg [5,13] n (fun gk cv iv wr=>∃(k:Nat) (Z1:SP),iv=.int .i64 k/\cv=.int .i64 ((Q1K Z.F.next x Z.av (l.take k)).2:Nat)/\(Q1K Z.F.next x Z.av (l.take k)).2<=65537*k/\k+gk=n/\WpI Z fr N K M x l a w k Z1 wr)
 case atStart=>exact⟨0,Z,rfl,rfl,J3z _,by omega,HI0.out⟩
 case round =>
  obtain⟨k,Z1,rfl,rfl,hcb,hkg,hI⟩:=hrel;have HKg:=Q0a hkg;have HI:=Q0a hI;by_cases hlt:k<n
  ·obtain⟨z,hz⟩:∃z,l[k]?=some z:=⟨l[k]'(by rw [HN.out];exact hlt),J3O (by rw [HN.out];exact hlt)⟩
   obtain⟨s,rfl,hs2⟩:=HMem.out z (J3L hz);obtain⟨g,rfl,_,_,hcx⟩:=hI.row k (.int .i64 s) (by rw [J3i,hz];rfl);have hnext:∀(Z2:SP) (w':World) (v:Nat),Q3r Z1.F.next x Z1.av (s:Int)=(Z2.av,v)->Z2.Ok fr N K M->SameZ Z1 Z2->Step Z1.hl Z2.hl wr w'->(Q1K Z.F.next x Z.av (l.take (k+1))).2=(Q1K Z.F.next x Z.av (l.take k)).2+v/\WpI Z fr N K M x l (some ⟨g,0,none⟩) w (k+1) Z2 w':=fun Z2 w' v e k1 k2 k3=>by
    have htk:l.take (k+1)=l.take k++[(s:Int)]:=by rw [J3t,hz];rfl
    have hsn:Q1K Z.F.next x Z.av (l.take (k+1))=(Z2.av,(Q1K Z.F.next x Z.av (l.take k)).2+v):=by
     rw [htk,wipeA_snoc,<- HI.out.av,<- HI.out.same.nx,e]
    exact⟨by rw [hsn],k1,by rw [hsn],HI.out.same.trans k2,HI.out.st.trans k3,AsideV.step HI.out.row k3⟩
   have HNext:=Q0a hnext;obtain⟨hc1,kfind⟩:=Z3k hI.st.sep hI.ok HX.out hs2;have hss:=hI.same.s;have hff:=hI.same.f;rw [hss,hff] at hc1;rw [hff,hss] at kfind;have HF:=Q0a kfind;have hki:(k:Int)<(n:Int):=by omega
   have hk0:(0:Int)<=(k:Int):=by omega
   have hkb:(k:Int)<=256:=by have:=HLn.out;omega
   have hcb2:(Q1K Z.F.next x Z.av (l.take k)).2<=16777472:=by have:=HLn.out;omega
   have HCb:=Q0a hcb;generalize hcc:(Q1K Z.F.next x Z.av (l.take k)).2=c at *
   have hci:(c:Int)<=16777472:=by omega
   have hc0:(0:Int)<=(c:Int):=by omega
   have hs0:(0:Int)<=(s:Int):=by omega
   have hs1:(s:Int)<256:=by omega
   clear hI hkg kfind hz hcb hcc hcb2 hnext hss hff hs2;go_wp2_with fail;refine HF.out.mono ?_;rintro r w2 ⟨id,rfl,rfl,hz⟩;have HZ:=Q0a hz;clear hz HF;rcases HZ.out with ⟨rfl,h0⟩|⟨hne,hbl⟩
   ·obtain⟨q1,q2⟩:=HNext.out Z1 wr 0 (by unfold Q3r;rw [show Z1.av.N=Z1.F.N from rfl,if_pos h0]) HI.out.ok (SameZ.refl _) (Step.refl HI.out.st.sep);have Q1:=Q0a q1;have Q2:=Q0a q2;clear q1 q2 h0 HZ HNext;go_wp2_with fail;go_roundg (n-(k+1))
    case measure=>have:=HKg.out;omega
    case rel=>exact⟨k+1,Z1,by go_num,by rw [Q1.out];simp,by rw [Q1.out];have:=HCb.out;omega,by have:=HKg.out;omega,Q2.out⟩
   ·have HBl:=Q0a hbl;have hib:(id==0)=false:=by simpa using hne
    have hib2:(id != 0)=true:=by simpa using hne
    have hc1d:wr.drew.cell? ⟨Z.s,1,none⟩=some (.pointer (some ⟨Z.F.f,0,none⟩)):=hc1;clear hbl HZ;go_wp2_with fail;refine HBl.out.mono ?_;rintro r w5 ⟨a1,n1,c1,rfl,a2,n2,c2,w6,happ,kw⟩;have HKw:=Q0a kw;clear kw HBl;go_wp2_with (at_builtin;refine Lib.wpList_append_run _ rfl _ _ _ _ rfl _ _ rfl rfl _ _ happ ?_);refine HKw.out.mono ?_;rintro r w7 ⟨v,rfl,hvb,Z2,k1,k2,k3,k4⟩;obtain⟨q1,q2⟩:=HNext.out _ _ _ k2 k1 k3 k4;have Q1:=Q0a q1;have Q2:=Q0a q2;have hv1:(v:Int)<=65537:=by omega
    have hv0:(0:Int)<=(v:Int):=by omega
    have HVb:=Q0a hvb;clear q1 q2 HKw HNext k1 k2 k3 k4 hvb happ;go_wp2_with fail;go_roundg (n-(k+1))
    case measure=>have:=HKg.out;omega
    case rel=>exact⟨k+1,Z2,by go_num,by rw [Q1.out];simp,by rw [Q1.out];have:=HCb.out;have:=HVb.out;omega,by have:=HKg.out;omega,Q2.out⟩
  ·obtain rfl:k=n:=by have:=HKg.out;omega
   have HR:Hid (((Q1K Z.F.next x Z.av (l.take k)).2=(Q1K Z.F.next x Z.av l).2)/\J0W Z fr N K M x l w wr):=by
    have h1:l.take k=l:=by rw [<- HN.out,J5G]
    have h2:=hI.av;rw [h1] at h2;exact⟨by rw [h1],Z1,hI.ok,h2,hI.same,hI.st⟩
   rw [HR.out.1];clear hI hkg hcb;go_wp2_with fail
   first|exact⟨rfl,HR.out.2⟩|(go_ret;exact⟨rfl,HR.out.2⟩)
structure AvOk (a:AV) (next:Int):Prop where
 ok:NOk a.N next
 is:EnIs a
 r:∀h s c,a.en h s=some c->1<=c.2/\c.2<16
 has:∀h s c,a.en h s=some c->∃n∈a.N,n.q.sp=(h:Int)/\n.q.sl=(s:Int)
theorem SP.Ok.avOk {Z:SP} {fr:List Nat} {N K:Nat} {M:Int} (ok:Z.Ok fr N K M):AvOk Z.av Z.F.next:=
 ⟨ok.fo.n,ok.fpi.enIs,fun h s c hc=>ok.fpi.rights hc,fun h s c hc=>by
  obtain⟨e,he,rfl⟩:=Q3l hc;exact ok.fpi.has h s e he⟩
theorem Z8n {N:List (En Nd)} {next:Int} (ok:NOk N next) {sp sl:Int} (h:ownN N sp sl≠0):∃n∈N,n.q.sp=sp/\n.q.sl=sl/\ownN N sp sl=n.id:=by
 rcases Q3J N sp sl with ⟨n,hn,rfl,rfl⟩|hno
 ·exact⟨n,hn,rfl,rfl,Q1r ok hn⟩
 ·exact absurd ((Q1s ok).2 hno) h
theorem J0b {o:Option (Nat×Nat)} (h:∀c,o=some c->c.2<16):Q7X 15 o=none:=by
 cases o with
 | none=>rfl
 | some c =>
  show (if less c.2 15=0 then none else some (c.1,less c.2 15))=none;rw [if_pos (Q4A c.2 (h c rfl))]
theorem Z3n:∀r,r<16->∀m,m<16->less r m<16:=by decide
theorem AvOk.weak1 {a:AV} {next:Int} (k:AvOk a next) {m:Nat} (hm:m<16) (id:Int):AvOk (weak1 m a id).1 next:=by
 cases hf:find a.N id with
 | none=>unfold Go.Proofs.YtlakjlmaboioiaaGreatDoor.weak1;rw [hf];exact k
 | some n =>
  have W:=Q9q (m:=m) k.ok k.is hf;refine⟨W.ok,W.is,fun h s c hc=>?_,fun h s c hc=>?_⟩
  ·rw [W.en] at hc;split at hc
   ·cases ho:a.en h s with
    | none=>rw [ho] at hc;cases hc
    | some c0 =>
     have h0:=k.r h s c0 ho;rw [ho] at hc;unfold Q7X at hc;simp only at hc;split at hc
     ·cases hc
     ·cases hc
      have:=Z3n c0.2 h0.2 m hm;exact⟨by simp only;omega,this⟩
   ·exact k.r h s c hc
  ·have hen:=W.en h s;have hown:=W.own h s;cases ho:a.en h s with
   | none =>
    rw [ho] at hen;rw [hen] at hc;split at hc <;> cases hc
   | some c0 =>
    obtain⟨n0,hn0,q1,q2⟩:=k.has h s c0 ho;have hid:ownN a.N (h:Int) (s:Int)=n0.id:=(Q5D k.ok hn0 h s).2 ⟨q1,q2⟩;have hpos:=k.ok.rng n0 hn0;have hne:ownN (Go.Proofs.YtlakjlmaboioiaaGreatDoor.weak1 m a id).1.N (h:Int) (s:Int)≠0:=by
     rw [hown];split
     ·rename_i hg;exfalso;obtain⟨n2,c2,g1,g2,g3⟩:=W.gone.1 hg.1;rw [if_pos hg.2] at hen;have hn20:n2=n0:=by
       obtain⟨m1,m2⟩:=Q0b g1;have h3:=Q0j k.ok.ids hn0;rw [<- hid,hg.2,g1] at h3;exact J2u h3
      rw [hn20,q1,q2,J2C,J2C,ho] at g2;cases g2;rw [ho] at hen;unfold Q7X at hen;simp only [g3,if_pos] at hen;rw [hen] at hc;cases hc
     ·rw [hid];omega
    obtain⟨n',hn',e1,e2,_⟩:=Z8n W.ok hne;exact⟨n',hn',e1,e2⟩
theorem AvOk.weakA15 {next:Int}:∀(l:List Int) {a:AV},AvOk a next->AvOk (Q0M 15 a l).1 next/\(∀h s:Nat,(Q0M 15 a l).1.en h s=none∨(Q0M 15 a l).1.en h s=a.en h s)/\∀h s:Nat,ownN a.N (h:Int) (s:Int)∈l->(Q0M 15 a l).1.en h s=none
 | [],a,k=>⟨k,fun _ _=>.inr rfl,fun _ _ h=>by cases h⟩
 | id::r,a,k=>by
  have k1:=k.weak1 (m:=15) (by omega) id;obtain⟨i1,i2,i3⟩:=AvOk.weakA15 r k1;have hstep:∀h s:Nat,((Go.Proofs.YtlakjlmaboioiaaGreatDoor.weak1 15 a id).1.en h s=none∨(Go.Proofs.YtlakjlmaboioiaaGreatDoor.weak1 15 a id).1.en h s=a.en h s)/\(ownN a.N (h:Int) (s:Int)=id->(Go.Proofs.YtlakjlmaboioiaaGreatDoor.weak1 15 a id).1.en h s=none)/\(ownN a.N (h:Int) (s:Int)≠id->ownN (Go.Proofs.YtlakjlmaboioiaaGreatDoor.weak1 15 a id).1.N (h:Int) (s:Int)=ownN a.N (h:Int) (s:Int)):=fun h s=>by
   cases hf:find a.N id with
   | none =>
    have e:Go.Proofs.YtlakjlmaboioiaaGreatDoor.weak1 15 a id=(a,false):=by unfold Go.Proofs.YtlakjlmaboioiaaGreatDoor.weak1;rw [hf]
    rw [e];refine⟨.inr rfl,fun ho=>?_,fun _=>rfl⟩;cases hen:a.en h s with
    | none=>rfl
    | some c =>
     exfalso;obtain⟨n,hn,q1,q2⟩:=k.has h s c hen;have:=(Q5D k.ok hn h s).2 ⟨q1,q2⟩;have h3:=Q0j k.ok.ids hn;rw [<- this,ho,hf] at h3;cases h3
   | some n =>
    have W:=Q9q (m:=15) k.ok k.is hf;have hl:Q7X 15 (a.en h s)=none:=J0b fun c hc=>(k.r h s c hc).2
    rw [W.en,W.own,hl];refine⟨?_,fun ho=>by rw [if_pos ho],fun ho=>by rw [if_neg fun hh=>ho hh.2]⟩;split
    ·exact .inl rfl
    ·exact .inr rfl
  refine⟨i1,fun h s=>?_,fun h s hm=>?_⟩
  ·rcases i2 h s with h1|h1
   ·exact .inl h1
   ·rcases (hstep h s).1 with h2|h2
    ·exact .inl (h1.trans h2)
    ·exact .inr (h1.trans h2)
  ·by_cases ho:ownN a.N (h:Int) (s:Int)=id
   ·rcases i2 h s with h1|h1
    ·exact h1
    ·exact h1.trans ((hstep h s).2.1 ho)
   ·refine i3 h s ?_;rw [(hstep h s).2.2 ho];rcases J1C.1 hm with h'|h'
    ·exact absurd h' ho
    ·exact h'
structure Lesser (a a':AV) (next:Int):Prop where
 ok:AvOk a' next
 en:∀h s:Nat,a'.en h s=none∨a'.en h s=a.en h s
theorem Lesser.refl {a:AV} {next:Int} (k:AvOk a next):Lesser a a next:=⟨k,fun _ _=>.inr rfl⟩
theorem Lesser.trans {a b c:AV} {next:Int} (h:Lesser a b next) (k:Lesser b c next):Lesser a c next:=⟨k.ok,fun x s=>by
 rcases k.en x s with h1|h1
 ·exact .inl h1
 ·rw [h1];exact h.en x s⟩
theorem Lesser.none {a b:AV} {next:Int} (h:Lesser a b next) {x s:Nat} (h0:a.en x s=none):b.en x s=none:=by
 rcases h.en x s with h1|h1
 ·exact h1
 ·rw [h1];exact h0
theorem Z3o {a:AV} {next:Int} (k:AvOk a next) (x s:Nat):Lesser a (Q3r next x a (s:Int)).1 next/\(Q3r next x a (s:Int)).1.en x s=none:=by
 unfold Q3r;split
 ·rename_i h0;refine⟨Lesser.refl k,?_⟩;cases hen:a.en x s with
  | none=>rfl
  | some c =>
   exfalso;obtain⟨n,hn,q1,q2⟩:=k.has x s c hen;have:=(Q5D k.ok hn x s).2 ⟨q1,q2⟩;have:=k.ok.rng n hn;omega
 ·obtain⟨h1,h2,h3⟩:=AvOk.weakA15 (Q0G (kdF a.N) (rkF next) (ownN a.N (x:Int) (s:Int))++[ownN a.N (x:Int) (s:Int)]) k;exact⟨⟨h1,h2⟩,h3 x s (by simp)⟩
theorem Q7r {next:Int} {x:Nat}:∀(l:List Nat) {a:AV},AvOk a next->Lesser a (Q1K next x a (l.map fun (s:Nat)=>(s:Int))).1 next/\∀s∈l,(Q1K next x a (l.map fun (s:Nat)=>(s:Int))).1.en x s=none
 | [],a,k=>⟨Lesser.refl k,fun _ h=>by cases h⟩
 | s::r,a,k=>by
  obtain⟨h1,h2⟩:=Z3o k x s;obtain⟨i1,i2⟩:=Q7r r h1.ok;refine⟨h1.trans i1,fun t ht=>?_⟩;rcases J1C.1 ht with rfl|ht
  ·exact i1.none h2
  ·exact i2 t ht
theorem Z6j {a:AV} {l:List Pl} {tb:Nat->TB} {N:List (En Nd)} {next:Int} {x:Nat} (ha:a=avOf l tb N) (k:AvOk a next):Lesser a (Q1K next x a (Q0o l tb x)).1 next/\∀s:Nat,(Q1K next x a (Q0o l tb x)).1.en x s=none:=by
 obtain⟨L,hL⟩:∃L:List Nat,Q0o l tb x=L.map fun (s:Nat)=>(s:Int):=by
  unfold Q0o;split
  ·exact⟨[],rfl⟩
  ·split
   ·exact⟨_,rfl⟩
   ·exact⟨[],rfl⟩
 have hmem:=fun z=>mem_slotsL (l:=l) (tb:=tb) (x:=x) (z:=z)
 rw [hL] at hmem ⊢;obtain⟨h1,h2⟩:=Q7r (x:=x) L k;refine⟨h1,fun s=>?_⟩;by_cases hs:s∈L
 ·exact h2 s hs
 ·refine h1.none ?_;rw [ha];show (Q0f l tb x s).map Ent.c=none;cases he:Q0f l tb x s with
  | none=>rfl
  | some e =>
   exfalso;obtain⟨p,_,_,h4,_⟩:=Q1T he;obtain⟨t,ht,hte⟩:=J1D.1 ((hmem (s:Int)).2 ⟨s,rfl,h4,e,he⟩);have:t=s:=by have h':(t:Int)=(s:Int):=hte;omega
   exact hs (this ▸ ht)
def Q2d (a:AV) (p:Int×Int):AV×Nat:=Q0M 15 a [ownN a.N p.1 p.2]
def Q1c:AV->List (Int×Int)->AV×Nat
 | a,[]=>(a,0)
 | a,p::r=>((Q1c (Q2d a p).1 r).1,(Q2d a p).2+(Q1c (Q2d a p).1 r).2)
theorem purgeA_snoc:∀(l:List (Int×Int)) (a:AV) (p:Int×Int),Q1c a (l++[p])=((Q2d (Q1c a l).1 p).1,(Q1c a l).2+(Q2d (Q1c a l).1 p).2)
 | [],a,p=>by
  show ((Q2d a p).1,(Q2d a p).2+0)=((Q2d a p).1,0+(Q2d a p).2);rw [J4b,J1G]
 | y::r,a,p=>by
  rw [J3I];unfold Q1c;rw [purgeA_snoc r];simp only [J2X]
theorem Q9x (a:AV) (p:Int×Int):(Q2d a p).2<=1:=Q5A 15 _ a
theorem Q9y:∀(l:List (Int×Int)) (a:AV),(Q1c a l).2<=l.length
 | [],a=>J1x _
 | p::r,a=>by
  have h1:=Q9x a p;have h2:=Q9y r (Q2d a p).1;show _+_<=_;rw [J2i];omega
theorem Q6y {next:Int}:∀(l:List (Int×Int)) {a:AV},AvOk a next->Lesser a (Q1c a l).1 next/\∀h s:Nat,((h:Int),(s:Int))∈l->(Q1c a l).1.en h s=none
 | [],a,k=>⟨Lesser.refl k,fun _ _ h=>by cases h⟩
 | p::r,a,k=>by
  obtain⟨h1,h2,h3⟩:=AvOk.weakA15 [ownN a.N p.1 p.2] k;obtain⟨i1,i2⟩:=Q6y r h1;have hl:Lesser a (Q2d a p).1 next:=⟨h1,h2⟩
  refine⟨hl.trans i1,fun h s hm=>?_⟩;rcases J1C.1 hm with rfl|hm
  ·exact i1.none (h3 h s (by simp))
  ·exact i2 h s hm
def AsideS (H:HL) (L:List (Int×Int)) (a:Option Addr) (w:World):Prop:=∀(j:Nat) (x:Int×Int),L[j]?=some x->∃g,a=some ⟨g,0,none⟩/\g∉keys H/\g<w.heap.size/\w.cell? ⟨g,j*2,none⟩=some (.int .i64 x.1)/\w.cell? ⟨g,j*2+1,none⟩=some (.int .i64 x.2)
theorem AsideS.step {H H':HL} {L:List (Int×Int)} {a:Option Addr} {w w':World} (h:AsideS H L a w) (st:Step H H' w w'):AsideS H' L a w':=fun j x hj=>by
 obtain⟨g,h1,h2,h3,h4,h5⟩:=h j x hj;have e:=st.chg.block g h3 h2;refine⟨g,h1,fun hk=>?_,J1z h3 st.chg.size,(World.cell?_of_block (w:=w) e).trans h4,(World.cell?_of_block (w:=w) e).trans h5⟩;rcases st.new g hk with h'|h'
 ·exact h2 h'
 ·omega
theorem Z1H:∀(L:List (Int×Int)) (j:Nat) (x:Int×Int),L[j]?=some x->(L.flatMap encS)[j*2]?=some (.int .i64 x.1)/\(L.flatMap encS)[j*2+1]?=some (.int .i64 x.2)
 | [],j,x,h=>by simp at h
 | p::r,0,x,h=>by
  simp at h;subst h;exact⟨rfl,rfl⟩
 | p::r,j+1,x,h=>by
  have ih:=Z1H r j x (by simpa using h);rw [J1U];have e1:(j+1)*2=(j*2)+(encS p).length:=by simp [encS];omega
  have e2:(j+1)*2+1=(j*2+1)+(encS p).length:=by simp [encS];omega
  rw [e2,e1,J4L (by omega),J4L (by omega)]
  simpa using ih
theorem NewSp.aside {w w':World} {H:HL} {L:List (Int×Int)} {r:Ending} (h:NewSp w L r w') (hs:Sep w H):∃(a:Option Addr) (cap:Nat),r=.returned (.slice a L.length cap)/\Below w.heap.size w w'/\AsideS H L a w':=by
 obtain⟨v,rfl,h1,h2⟩:=h;obtain⟨a,cap,rfl,h3⟩:=Q8a h1;refine⟨a,cap,rfl,h2,fun j x hj=>?_⟩;obtain⟨e1,e2⟩:=Z1H L j x hj;obtain⟨g,rfl,q1,q2,q3⟩:=h3 _ _ e1;obtain⟨g',e,_,_,q4⟩:=h3 _ _ e2;cases e;exact⟨g,rfl,fun hk=>by have:=hs.lt hk;omega,q2,q3,q4⟩
theorem Z0y {w:World} {H:HL} (hs:Sep w H) (T:TypeId) (cs:List Value):AsideV H cs (some ⟨w.heap.size,0,none⟩) (w.alloc (.cells cs.toArray T)):=fun j v hj =>
 ⟨w.heap.size,rfl,fun hk=>by have:=hs.lt hk;omega,by simp,(Cells.new w T cs).cell j v hj⟩
def Z8U (Z:SP) (fr:List Nat) (N K:Nat) (M:Int) (l:List (Int×Int)) (w w':World):Prop:=∃Z',Z'.Ok fr N K M/\Z'.av=(Q1c Z.av l).1/\SameZ Z Z'/\Step Z.hl Z'.hl w w'
structure PgI (Z:SP) (fr:List Nat) (N K:Nat) (M:Int) (l:List (Int×Int)) (a:Option Addr) (w:World) (k:Nat) (Z1:SP) (wr:World):Prop where
 ok:Z1.Ok fr N K M
 av:Z1.av=(Q1c Z.av (l.take k)).1
 same:SameZ Z Z1
 st:Step Z.hl Z1.hl w wr
 row:AsideS Z1.hl l a wr
theorem Z0z {wr W:World} {Z:SP} {fr:List Nat} {N K:Nat} {M:Int} (hs:Sep wr Z.hl) (ok:Z.Ok fr N K M) {x s:Nat} (hx:x<4294967296) (hs2:s<256) (hb:Below wr.heap.size wr W) :
  Calls prog 88 #[.pointer (some ⟨Z.F.f,0,none⟩),.int .i64 x,.int .i64 s] W fun r w1=>r=.returned (.int .i64 (ownN Z.F.N (x:Int) (s:Int)))/\W=w1 /\
   ∀(w2:World) (a:Nat),a=w2.heap.size->Below wr.heap.size wr w2->Calls prog 85 #[.pointer (some ⟨Z.s,0,none⟩),.int .i64 15,.slice (some ⟨a,0,none⟩) 1 1] (w2.alloc (.cells #[.int .i64 (ownN Z.F.N (x:Int) (s:Int))] 3)) fun r w3=>∃v:Nat,r=.returned (.int .i64 v)/\v<=1/\(∀b,wr.heap.size<=b->b<w2.heap.size->w3.heap[b]?=w2.heap[b]?)/\∃Z',Z'.Ok fr N K M/\Q2d Z.av ((x:Int),(s:Int))=(Z'.av,v)/\SameZ Z Z'/\Step Z.hl Z'.hl wr w3:=by
 have s1:=hs.grown hb;have g1:(0:Int)<=(x:Int):=by omega
 have g2:(x:Int)<9223372036854775808:=by omega
 have g3:(0:Int)<=(s:Int):=by omega
 have g4:(s:Int)<9223372036854775808:=by omega
 refine (Q4H (SP.sF s1.sep) ok.fo (sp:=(x:Int)) (sl:=(s:Int)) (Q3k (p:=((x:Int),(s:Int))) g1 g2 g3 g4)).mono ?_;rintro r w1 ⟨rfl,rfl⟩;refine⟨rfl,rfl,fun w2 a ha hb2=>?_⟩;subst ha;have hb3:=hb2.alloc hb2.size (.cells #[.int .i64 (ownN Z.F.N (x:Int) (s:Int))] 3);have s3:=hs.grown hb3;have hrow:AsideV Z.hl ([ownN Z.F.N (x:Int) (s:Int)].map encI) (some ⟨w2.heap.size,0,none⟩) (w2.alloc (.cells #[.int .i64 (ownN Z.F.N (x:Int) (s:Int))] 3)):=Z0y (hs.grown hb2).sep 3 [.int .i64 (ownN Z.F.N (x:Int) (s:Int))];refine (Q2s s3.sep ok 15 (by omega) (by omega) [ownN Z.F.N (x:Int) (s:Int)] (some ⟨w2.heap.size,0,none⟩) 1 (by simp) hrow (Q7f _ _)).mono ?_
 rintro r w3 ⟨rfl,Z',k1,k2,k3,st⟩;refine⟨_,rfl,Q9x Z.av ((x:Int),(s:Int)),fun b h1 h2=>?_,Z',k1,?_,k3,s3.trans st⟩
 ·have h3:b<(w2.alloc (.cells #[.int .i64 (ownN Z.F.N (x:Int) (s:Int))] 3)).heap.size:=by simp;omega
  rw [st.keep hs h1 b (J1x _) h3];exact Below.heap_alloc _ _ _ h2
 ·unfold Q2d;rw [k2];rfl
theorem Q7s {w:World} {Z:SP} {fr:List Nat} {N K:Nat} {M:Int} (hs:Sep w Z.hl) (ok:Z.Ok fr N K M) (h:Nat) :
  Calls prog 39 #[.pointer (some ⟨Z.s,0,none⟩),.int .u32 h] w fun r w'=>r=.returned (.int .i64 ((Q1c Z.av (Q2R Z.S.l Z.tb h)).2:Nat))/\Z8U Z fr N K M (Q2R Z.S.l Z.tb h) w w':=by
 have kh:=Q5m hs ok h;have HStart:Hid (∀w1 a,Below w.heap.size w w1->AsideS Z.hl (Q2R Z.S.l Z.tb h) a w1->PgI Z fr N K M (Q2R Z.S.l Z.tb h) a w 0 Z w1):=fun w1 a hb ha=>⟨ok,rfl,SameZ.refl Z,hs.grown hb,ha⟩
 have HS:=Q0a hs;have HMem:Hid (∀z∈Q2R Z.S.l Z.tb h,∃x s:Nat,z=((x:Int),(s:Int))/\x<4294967296/\s<256):=fun z hz=>by
  obtain⟨x,hx,s,rfl,h3,_⟩:=mem_holdL.1 hz;obtain⟨q,hq⟩:=(Q2V (by rw [ok.core.inv.len];omega)).1 hx;exact⟨x,s,rfl,by
   obtain⟨a1,a2,_⟩:=pget_some.1 hq;have:=(ok.core.inv.lok.2 q (J3L a1)).2;unfold nm at a2;omega,h3⟩
 have hln:(Q2R Z.S.l Z.tb h).length<=65536:=by
  have h1:=Q6x Z.S.l Z.tb h (allL Z.S.l 1);have h2:=Q2u Z.S.l 1 Z.S.l.length;rw [ok.core.inv.len] at h2;unfold Q2R;unfold allL at h1 ⊢;rw [ok.core.inv.len] at h1 ⊢;omega
 generalize hL:Q2R Z.S.l Z.tb h=l at *
 generalize hn:l.length=n at *
 have HN:=Q0a hn;have HLn:=Q0a hln;clear hs ok hL hn hln;go_enter func39,ntmps39;go_wp2_with fail;refine kh.mono ?_;intro r w1 hx1;obtain⟨a,cap,rfl,h2,has⟩:=hx1.aside HS.out;have HI0:=Q0a (HStart.out w1 a h2 has);rw [HN.out];clear h2 has kh HStart hx1;go_wp2_with fail
 go_loopg [5,12] n (fun gk cv iv wr=>∃(k:Nat) (Z1:SP),iv=.int .i64 k/\cv=.int .i64 ((Q1c Z.av (l.take k)).2:Nat)/\k+gk=n/\PgI Z fr N K M l a w k Z1 wr)
 case atStart=>exact⟨0,Z,rfl,rfl,by omega,HI0.out⟩
 case round =>
  obtain⟨k,Z1,rfl,rfl,hkg,hI⟩:=hrel;have HKg:=Q0a hkg;have HI:=Q0a hI;by_cases hlt:k<n
  ·obtain⟨z,hz⟩:∃z,l[k]?=some z:=⟨l[k]'(by rw [HN.out];exact hlt),J3O (by rw [HN.out];exact hlt)⟩
   obtain⟨x,s,rfl,hx2,hs2⟩:=HMem.out z (J3L hz);obtain⟨g,rfl,_,_,hcx,hcy⟩:=hI.row k _ hz;have hnext:∀(Z2:SP) (w':World) (v:Nat),Q2d Z1.av ((x:Int),(s:Int))=(Z2.av,v)->Z2.Ok fr N K M->SameZ Z1 Z2->Step Z1.hl Z2.hl wr w'->(Q1c Z.av (l.take (k+1))).2=(Q1c Z.av (l.take k)).2+v/\PgI Z fr N K M l (some ⟨g,0,none⟩) w (k+1) Z2 w':=fun Z2 w' v e k1 k2 k3=>by
    have htk:l.take (k+1)=l.take k++[((x:Int),(s:Int))]:=by rw [J3t,hz];rfl
    have hsn:Q1c Z.av (l.take (k+1))=(Z2.av,(Q1c Z.av (l.take k)).2+v):=by
     rw [htk,purgeA_snoc,<- HI.out.av,e]
    exact⟨by rw [hsn],k1,by rw [hsn],HI.out.same.trans k2,HI.out.st.trans k3,AsideS.step HI.out.row k3⟩
   have HNext:=Q0a hnext;have HR:Hid (∀W,Below wr.heap.size wr W->W.cell? ⟨Z1.s,1,none⟩=some (.pointer (some ⟨Z1.F.f,0,none⟩))/\_):=fun W hb=>⟨SP.c1 (HI.out.st.sep.grown hb).sep,Z0z HI.out.st.sep HI.out.ok hx2 hs2 hb⟩
   have hss:=hI.same.s;rw [hss] at HR;have hcb:=Q9y (l.take k) Z.av;rw [J3Q] at hcb;have hki:(k:Int)<(n:Int):=by omega
   have hk0:(0:Int)<=(k:Int):=by omega
   have hkb:(k:Int)<=65536:=by have:=HLn.out;omega
   have hcb2:(Q1c Z.av (l.take k)).2<=65536:=by have:=HLn.out;omega
   generalize hcc:(Q1c Z.av (l.take k)).2=c at *
   have hci:(c:Int)<=65536:=by omega
   have hc0:(0:Int)<=(c:Int):=by omega
   have hs0:(0:Int)<=(s:Int):=by omega
   have hs1:(s:Int)<256:=by omega
   have hx0:(0:Int)<=(x:Int):=by omega
   have hx1:(x:Int)<4294967296:=by omega
   have HFf:Hid (∀Z2:SP,SameZ Z1 Z2->Z2.F.f=Z1.F.f/\Z2.s=Z.s):=fun Z2 h=>⟨h.f,h.s.trans HI.out.same.s⟩
   generalize Z1.F.f=ff at *
   clear hI hkg hz hcb hcc hcb2 hnext hss hs2 hx2;have hbx:Below wr.heap.size wr (wr.alloc (.cells #[.int .i64 x,.int .i64 s] 46)):=(Below.refl _ _).alloc (J1x _) _;have hBox:=Cells.new wr 46 [.int .i64 x,.int .i64 s];have e0:=hBox.cell 0 _ rfl;have e1:=hBox.cell 1 _ rfl;obtain⟨d0,-⟩:=HR.out _ hbx;obtain⟨d1,kf⟩:=HR.out _ hbx.drew;have e0d:(wr.alloc (.cells #[.int .i64 x,.int .i64 s] 46)).drew.cell? ⟨wr.heap.size,0,none⟩=some (.int .i64 x):=e0;have e1d:(wr.alloc (.cells #[.int .i64 x,.int .i64 s] 46)).drew.cell? ⟨wr.heap.size,1,none⟩=some (.int .i64 s):=e1;have HBx:=Q0a hbx;have HBox:=Q0a hBox;have HSt:Hid (∀W,Below (wr.alloc (.cells #[.int .i64 x,.int .i64 s] 46)).heap.size (wr.alloc (.cells #[.int .i64 x,.int .i64 s] 46)) W->W.cell? ⟨Z.s,1,none⟩=some (.pointer (some ⟨ff,0,none⟩))/\W.cell? ⟨wr.heap.size,0,none⟩=some (.int .i64 x)/\W.cell? ⟨wr.heap.size,1,none⟩=some (.int .i64 s)):=fun W hb=>by
    have hc:=HBox.out.same (hb.block _ (by simp));exact⟨(HR.out _ (Q0e hb)).1,hc.cell 0 _ rfl,hc.cell 1 _ rfl⟩
   have HSa:Hid (∀W,Below (wr.alloc (.cells #[.int .i64 x,.int .i64 s] 46)).heap.size (wr.alloc (.cells #[.int .i64 x,.int .i64 s] 46)) W->∀o,Below (wr.alloc (.cells #[.int .i64 x,.int .i64 s] 46)).heap.size (wr.alloc (.cells #[.int .i64 x,.int .i64 s] 46)) (W.alloc o)):=fun W hb o=>hb.alloc hb.size o
   have HEnd:Hid (∀(w2 w3:World) (Z2:SP),Below (wr.alloc (.cells #[.int .i64 x,.int .i64 s] 46)).heap.size (wr.alloc (.cells #[.int .i64 x,.int .i64 s] 46)) w2->(∀b,wr.heap.size<=b->b<w2.heap.size->w3.heap[b]?=w2.heap[b]?)->SameZ Z1 Z2->Step Z1.hl Z2.hl wr w3->w3.cell? ⟨Z.s,1,none⟩=some (.pointer (some ⟨ff,0,none⟩))/\w3.cell? ⟨wr.heap.size,0,none⟩=some (.int .i64 x)/\w3.cell? ⟨wr.heap.size,1,none⟩=some (.int .i64 s)):=fun w2 w3 Z2 hb hk sm st=>by
    have hc:=HBox.out.same (hb.block _ (by simp));have hc3:=hc.same (hk _ (J1x _) hc.lt);have h1:=SP.c1 st.sep;obtain⟨q1,q2⟩:=HFf.out Z2 sm;rw [q1,q2] at h1;exact⟨h1,hc3.cell 0 _ rfl,hc3.cell 1 _ rfl⟩
   have HDr:Hid (Below (wr.alloc (.cells #[.int .i64 x,.int .i64 s] 46)).heap.size (wr.alloc (.cells #[.int .i64 x,.int .i64 s] 46)) (wr.alloc (.cells #[.int .i64 x,.int .i64 s] 46)).drew):=(Below.refl _ _).drew;clear hbx hBox;go_wp2_with fail
   go_region_held3 (fun W=>W.cell? ⟨Z.s,1,none⟩=some (.pointer (some ⟨ff,0,none⟩))/\W.cell? ⟨wr.heap.size,0,none⟩=some (.int .i64 x)/\W.cell? ⟨wr.heap.size,1,none⟩=some (.int .i64 s)) (first|exact⟨d0,e0,e1⟩|exact⟨d1,e0d,e1d⟩|exact HSt.out _ (HSa.out _ HDr.out _)|exact hS3)
    (first|(go_at_call 88;refine kf.mono ?_;rintro r w2 ⟨rfl,rfl,hwk⟩;have HWk:=Q0a hwk;clear hwk)|(go_at_call 85;refine (HWk.out (wr.alloc (.cells #[.int .i64 x,.int .i64 s] 46)).drew (wr.heap.size+1) (by simp) HBx.out.drew).mono ?_;rintro r w3 ⟨v,rfl,hv,hk,Z2,k1,k2,k3,st⟩;have hS3:=HEnd.out _ _ _ HDr.out hk k3 st;have HN2:=Q0a (HNext.out _ _ _ k2 k1 k3 st);have HV:=Q0a hv;clear hv hk k1 k2 k3 st))
   obtain⟨q1,q2⟩:=HN2.out;have Q1:=Q0a q1;have Q2:=Q0a q2;have hv0:(0:Int)<=(v:Int):=by omega
   have hv1:(v:Int)<=1:=by have:=HV.out;omega
   clear q1 q2 HN2 HWk hS3 HEnd HSa HSt HDr HBx HBox kf d0 d1 e0 e1 e0d e1d;go_wp2_with fail;go_roundg (n-(k+1))
   case measure=>have:=HKg.out;omega
   case rel=>exact⟨k+1,Z2,by go_num,by rw [Q1.out];simp;exact Go.IntWalk.i64_in _ (by omega),by have:=HKg.out;omega,Q2.out⟩
  ·obtain rfl:k=n:=by have:=HKg.out;omega
   have HR:Hid (((Q1c Z.av (l.take k)).2=(Q1c Z.av l).2)/\Z8U Z fr N K M l w wr):=by
    have h1:l.take k=l:=by rw [<- HN.out,J5G]
    have h2:=hI.av;rw [h1] at h2;exact⟨by rw [h1],Z1,hI.ok,h2,hI.same,hI.st⟩
   rw [HR.out.1];clear hI hkg;go_wp2_with fail
   first|exact⟨rfl,HR.out.2⟩|(go_ret;exact⟨rfl,HR.out.2⟩)
end Go.Proofs.YtlakjlmaboioiaaGreatDoor
