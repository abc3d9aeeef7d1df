/- SpaceItems returns true at every input. No condition. Part of its proof. -/
import Derived.Test.YtlakjlmaboioiaaGreatDoorSi01
import Derived.Test.YtlakjlmaboioiaaGreatDoorSi19
import Derived.Test.YtlakjlmaboioiaaGreatDoorSi12
import Derived.Deep.LoopGhost
import Derived.Test.YtlakjlmaboioiaaGreatDoorSi15
import Derived.Shelf.RegionOpenPlain
import Derived.Test.YtlakjlmaboioiaaGreatDoorSi16
import Derived.ScopeJumps
set_option maxHeartbeats 4000000
set_option maxRecDepth 1000000
set_option linter.unusedVariables false
namespace Go.Proofs.YtlakjlmaboioiaaGreatDoor
open Go.RowKit Go.Proofs.Tryz
structure Grow (w4:World) (v4:Value) (wr:World) (v:Value):Prop where
 size:w4.heap.size<=wr.heap.size
 keep:∀b,b<w4.heap.size->v4.ownBlock≠some b->wr.heap[b]?=w4.heap[b]?
 own:v.ownBlock=v4.ownBlock∨∀b,v.ownBlock=some b->w4.heap.size<=b
theorem Grow.refl (w:World) (v:Value):Grow w v w v:=⟨J0t _,fun _ _ _=>rfl,.inl rfl⟩
theorem Grow.below {w4 wr w':World} {v4 v:Value} (h:Grow w4 v4 wr v) (hb:Below wr.heap.size wr w'):Grow w4 v4 w' v:=
 ⟨J0u h.size hb.size,fun b hl hn=>(hb.block b (J0v hl h.size)).trans (h.keep b hl hn),h.own⟩
theorem Grow.app {w4 wr w':World} {v4 v v':Value} (h:Grow w4 v4 wr v) (h1:∀b,b<wr.heap.size->v.ownBlock≠some b->w'.heap[b]?=wr.heap[b]?) (h2:v'.ownBlock=v.ownBlock∨∀b,v'.ownBlock=some b->wr.heap.size<=b) (h3:wr.heap.size<=w'.heap.size):Grow w4 v4 w' v':=by
 refine⟨J0u h.size h3,fun b hl hn=>(h1 b (J0v hl h.size) fun e=>?_).trans (h.keep b hl hn),?_⟩
 ·rcases h.own with h4|h4
  ·exact hn (h4 ▸ e)
  ·have:=h4 b e;omega
 ·rcases h2 with h2|h2
  ·rw [h2];exact h.own
  ·exact .inr fun b hb=>J0u h.size (h2 b hb)
theorem Q7v {w':World} {B:Nat} {T:TypeId} {size n:Nat} {v:Value} {cs:List Value} (h:w'.ownsRow B T size v n cs):∃(a:Option Addr) (cap:Nat),v=.slice a n cap/\∀(j:Nat) (u:Value),cs[j]?=some u->∃g,a=some ⟨g,0,none⟩/\B<=g/\g<w'.heap.size/\w'.cell? ⟨g,j,none⟩=some u:=by
 obtain⟨hl,h2⟩:=h;rcases h2 with ⟨rfl,h0⟩|⟨g,cap,cur,rfl,hg,hgb,hn,hm,hsz,htk⟩
 ·refine⟨none,0,by rw [h0],fun j u hj=>?_⟩;have hl':cs.length=0:=by rw [hl,h0,J4f]
  rw [J2r.1 hl'] at hj;simp at hj
 ·refine⟨some ⟨g,0,none⟩,cap,rfl,fun j u hj=>⟨g,rfl,hg,lt_of_block hgb,?_⟩⟩;have hjl:=(J0K.1 hj).1;have e:cur.toList[j]?=some u:=by
   rw [<- htk] at hj;have hk:j<n*size:=by omega
   rwa [J2v,if_pos hk] at hj
  unfold World.cell?;simp only [hgb]
  simpa using e
theorem NewIs.from' {w w':World} {L:List Int} {r:Ending} (h:NewIs w L r w'):∃(a:Option Addr) (cap:Nat),r=.returned (.slice a L.length cap)/\Below w.heap.size w w'/\∀(j:Nat) (z:Int),L[j]?=some z->∃g,a=some ⟨g,0,none⟩/\w.heap.size<=g/\g<w'.heap.size/\w'.cell? ⟨g,j,none⟩=some (.int .i64 z):=by
 obtain⟨v,rfl,h1,h2⟩:=h;obtain⟨a,cap,rfl,h3⟩:=Q7v h1;exact⟨a,cap,rfl,h2,fun j z hz=>h3 j _ (by rw [J2d,hz];rfl)⟩
theorem Z5c {w:World} {Z:SP} {fr:List Nat} {N K:Nat} {M:Int} (hs:Sep w Z.hl) (ok:Z.Ok fr N K M) {y:Nat} (hy:y∈allL Z.S.l 1):y<4294967296 /\
  ((∃e:Int,e≠0/\Q0o Z.S.l Z.tb y=[]/\Calls prog 73 #[.pointer (some ⟨Z.s,0,none⟩),.int .u32 y] w (Told w (.tuple #[.agg #[.pointer none,.int .u32 0,.int .i64 0],.int .i64 e]))) ∨
   ∃p,pget Z.S.l 1 y=some p/\p.kind=2/\Calls prog 73 #[.pointer (some ⟨Z.s,0,none⟩),.int .u32 y] w fun r w'=>∃g:Nat,r=.returned (.tuple #[.agg #[.pointer (some ⟨g,0,none⟩),.int .u32 y,.int .i64 (p.fac:Int)],.int .i64 0])/\Below w.heap.size w w'/\TblZ Z p g w'/\w.heap.size<=g):=by
 have hlok:=ok.core.inv.lok;obtain⟨q,hq⟩:=(Q4v (by rw [hlok.1];omega)).1 hy;have hy32:y<4294967296:=by
  obtain⟨a1,a2,_⟩:=pget_some.1 hq;have:=(hlok.2 q (J2G a1)).2;unfold nm at a2;omega
 refine⟨hy32,?_⟩;by_cases hk:q.kind=2
 ·exact .inr ⟨q,hq,hk,Q8r hs ok.core hy32 hq hk⟩
 ·refine .inl ⟨10,by decide,?_,Q0K hs ok.core hy32 10 (.inr ⟨q,hq,hk,rfl⟩)⟩;unfold Q0o;rw [hq];simp only;rw [if_neg hk]
theorem Z7j {w w1 w4 wr:World} {Z:SP} {fr:List Nat} {N K:Nat} {M:Int} (hs:Sep w Z.hl) (ok:Z.Ok fr N K M) {y:Nat} {p:Pl} (hp:pget Z.S.l 1 y=some p) (hk:p.kind=2) (hb:Below w.heap.size w wr) {g:Nat} (hg4:TblZ Z p g w4) {v4 v:Value} (G:Grow w4 v4 wr v) (hne:v4.ownBlock≠some g) {s:Nat} (hs2:s<256) {e:Ent} (he:Q0f Z.S.l Z.tb y s=some e) :
  Calls prog 74 #[.agg #[.pointer (some ⟨g,0,none⟩),.int .u32 y,.int .i64 (p.fac:Int)],.int .i64 s] wr (Told wr (.tuple #[.agg #[.int .u32 (e.h:Int),.int .i64 (e.r:Int)],.bool true])):=by
 have s4:=(hs.grown hb).sep;have hgr:TblZ Z p g wr:=fun j u hj=>by
  obtain⟨g',h1,h2,h3,h4⟩:=hg4 j u hj;cases h1;exact⟨g,rfl,h2,J0v h3 G.size,(World.cell?_of_block (w:=w4) (G.keep g h3 hne)).trans h4⟩
 have hi:=(pget_some.1 hp).1;have hst:=(pget_some.1 hp).2.2;have T:=(ok.tpi.x (p.fac:Int)).tt ok.core hi hst hk (SP.sS s4) hgr.c;have hat:(Z.tb (y%256)).at' (s:Int)=some e:=by
  unfold TB.at';rw [if_pos ⟨by omega,by omega⟩,J1x];rw [Q0i hp hk hs2] at he;exact he
 have kc:=Q1r T (y:Int) (p.fac:Int) (s:Int) fun e' he'=>by rw [hat] at he';cases he';exact ok.fpi.low ok.core.inv.lok he
 rw [hat] at kc;exact kc
theorem Q4R {w:World} {Z:SP} {fr:List Nat} {N K:Nat} {M:Int} (hs:Sep w Z.hl) (ok:Z.Ok fr N K M) (h:Nat) :
  Calls prog 23 #[.pointer (some ⟨Z.s,0,none⟩),.int .u32 h] w (NewSp w (Q2v Z.S.l Z.tb h)):=by
 have c0:=SP.c0 hs;have kl:=Z4s (SP.sS hs) ok.core.inv.lok;have HSide:Hid (∀W y,Below w.heap.size w W->y∈allL Z.S.l 1->_):=fun W y hb hy=>Z5c (hs.grown hb).sep ok hy
 have HCap:Hid (∀(y:Nat) (p:Pl) (w4 wr:World) (g s:Nat) (v4 v:Value) (e:Ent),pget Z.S.l 1 y=some p->p.kind=2->Below w.heap.size w wr->TblZ Z p g w4->Grow w4 v4 wr v->v4.ownBlock≠some g->s<256->Q0f Z.S.l Z.tb y s=some e->_):=fun y p w4 wr g s v4 v e hp hk hb hg4 G hne hs2 he=>Z7j (w1:=w) hs ok hp hk hb hg4 G hne hs2 he
 have HSl:Hid (∀(y:Nat) (p:Pl) (g:Nat) (W:World),pget Z.S.l 1 y=some p->p.kind=2->Below w.heap.size w W->TblZ Z p g W->Calls prog 89 #[.pointer (some ⟨g,0,none⟩)] W (NewIs W (Q0o Z.S.l Z.tb y))):=fun y p g W hp hk hb hg=>by
  have T:=(ok.tpi.x (p.fac:Int)).tt ok.core (pget_some.1 hp).1 (pget_some.1 hp).2.2 hk (SP.sS (hs.grown hb).sep) hg.c;have e:Q0o Z.S.l Z.tb y=Q0R (Z.tb (y%256)) 256:=by unfold Q0o;rw [hp];simp only;rw [if_pos hk]
  rw [e];exact Q6O T
 have HTg:Hid (∀(p:Pl) (g:Nat) (W W':World),Below w.heap.size w W->TblZ Z p g W->Below W.heap.size W W'->TblZ Z p g W'):=fun p g W W' hb hg hb'=>hg.grown (hs.grown hb).sep hb'
 have hTl:(allL Z.S.l 1).length<=256:=by
  have:=Q2z Z.S.l 1 Z.S.l.length;unfold allL;rw [ok.core.inv.len] at this ⊢;exact this
 have HLen:Hid (∀T:List Nat,T.length<=256->(Q1C Z.S.l Z.tb h T).length<=65536):=fun T hT=>J0u (Q5Q _ _ _ T) (by omega)
 have HSlm:Hid (∀y,(Q0o Z.S.l Z.tb y).length<=256/\∀z∈Q0o Z.S.l Z.tb y,∃s:Nat,z=(s:Int)/\s<256/\∃e,Q0f Z.S.l Z.tb y s=some e):=fun y=>⟨Q4r _ _ _,fun z hz=>mem_slotsL.1 hz⟩
 have HTl:=Q0a hTl;unfold Q2v;clear hs ok hTl;generalize hT:allL Z.S.l 1=T at *
 go_enter func23,ntmps23;go_wp2_with fail;refine kl.mono ?_;intro r w1 hx1;obtain⟨a0,cap0,rfl,hb1,hih⟩:=hx1.shape;have HB1:=Q0a hb1;have HIh:=Q0a hih;clear hx1 hb1 hih kl c0;go_wp2_with fail
 go_loopg [5,22] T.length (fun gk ov iv wr=>∃k:Nat,iv=.int .i64 k/\k+gk=T.length/\OutS w1 wr ov (Q1C Z.S.l Z.tb h (T.take k)))
 case atStart=>exact⟨0,rfl,J2W _,OutS.nil w1⟩
 case round =>
  obtain⟨k,rfl,hkg,hout⟩:=hrel;have HO:=Q0a hout;have HKG:=Q0a hkg;clear hout;by_cases hlt:k<T.length
  ·obtain⟨y,hy⟩:∃y,T[k]?=some y:=⟨_,J2J hlt⟩
   obtain⟨g0,rfl,hg0,hgl,hcell⟩:=(HIh.out.below HO.out.2).at' k y hy;obtain⟨hy32,hside⟩:=HSide.out wr y (HB1.out.trans (HO.out.2.mono HB1.out.size)) (J2G hy);have HStep:Hid (Q1C Z.S.l Z.tb h (T.take (k+1))=Q1C Z.S.l Z.tb h (T.take k)++Q4V Z.S.l Z.tb h y):=by
    rw [J2o,hy];exact Z2l _ _ _ _ _
   have HY:=Q0a hy;have hkb:(k:Int)<256:=by have:=HTl.out;omega
   have hk0:(0:Int)<=(k:Int):=by omega
   have hy0:(0:Int)<=(y:Int):=by omega
   have hy1:(y:Int)<4294967296:=by omega
   have hwy:IntKind.i64.wrap (y:Int)=(y:Int):=Go.IntWalk.i64_in _ (by omega);clear hy hkg hy32;rcases hside with ⟨e,hne,hsl,kside⟩|⟨p,hp,hk2,kside⟩
   ·have hne2:(e != 0)=true:=by simpa using hne
    have HR:Hid (∀W,Below wr.heap.size wr W->OutS w1 W u5 (Q1C Z.S.l Z.tb h (T.take (k+1)))):=fun W hb=>by
     rw [HStep.out];unfold Q4V Q2T;rw [hsl]
     simpa using HO.out.below hb
    clear hne hsl HO;go_wp2_with fail;refine kside.mono ?_;rintro r w2 ⟨rfl,hb2⟩;have HR2:=Q0a (HR.out _ (hb2.alloc hb2.size (.cells #[.pointer none,.int .u32 0,.int .i64 0] 155)));clear hb2 HR kside;go_wp2_with fail;go_roundg (T.length-(k+1))
    case measure=>have:=HKG.out;omega
    case rel=>exact⟨k+1,by go_num,by omega,HR2.out⟩
   ·go_wp2_with fail;refine kside.mono ?_;rintro r w2 ⟨g,rfl,hb2,ht2,hg2⟩;have hbx:Below w2.heap.size w2 (w2.alloc (.cells #[.pointer (some ⟨g,0,none⟩),.int .u32 y,.int .i64 (p.fac:Int)] 155)):=(Below.refl _ _).alloc (J0t _) _;have hbw:Below w.heap.size w wr:=HB1.out.trans (HO.out.2.mono HB1.out.size);have hbw2:Below w.heap.size w w2:=hbw.trans (hb2.mono hbw.size);have hbw3:=hbw2.trans (hbx.mono hbw2.size);have ht3:=HTg.out p g w2 _ hbw2 ht2 hbx;have ks:=HSl.out y p g _ hp hk2 hbw3 ht3;have HO3:Hid (OutS w1 (w2.alloc (.cells #[.pointer (some ⟨g,0,none⟩),.int .u32 y,.int .i64 (p.fac:Int)] 155)) u5 (Q1C Z.S.l Z.tb h (T.take k))):=(HO.out.below hb2).below hbx
    have HBx:=Q0a (Cells.new w2 155 [.pointer (some ⟨g,0,none⟩),.int .u32 y,.int .i64 (p.fac:Int)]);have HOwn:Hid (∀b,u5.ownBlock=some b->b<wr.heap.size):=fun b hb=>(HO.out.1.lt b hb).2
    have HG2:=Q0a hg2;have HP:Hid (pget Z.S.l 1 y=some p/\p.kind=2):=⟨hp,hk2⟩
    have HT3:=Q0a ht3;have HSz:Hid (wr.heap.size<=w2.heap.size):=hb2.size;have HW3:=Q0a hbw3;clear hbx hbw hbw2 hbw3 ht3 ht2 hb2 hg2 hp hk2 kside HO hcell hgl hg0;go_wp2_with fail;refine ks.mono ?_;intro r w4 hx4;obtain⟨aS,capS,rfl,hb4,hrow⟩:=hx4.from'
    have HB4:=Q0a hb4;have HO4:=Q0a (HO3.out.below hb4);have HT4:=Q0a (HTg.out p g _ w4 HW3.out HT3.out hb4);have HW4:=Q0a (HW3.out.trans (hb4.mono HW3.out.size));have HBx4:=Q0a (HBx.out.same (hb4.block _ (by simp)));have HRow:Hid (∀(j:Nat) (z:Int),(Q0o Z.S.l Z.tb y)[j]?=some z->∃gS,aS=some ⟨gS,0,none⟩/\w2.heap.size<=gS/\gS<w4.heap.size/\w4.cell? ⟨gS,j,none⟩=some (.int .i64 z)):=fun j z hz=>by
     obtain⟨gS,h1,h2,h3,h4⟩:=hrow j z hz;exact⟨gS,h1,by simp at h2;omega,h3,h4⟩
    obtain⟨hSl1,hSl2⟩:=HSlm.out y;have HSl2:=Q0a hSl2;have HX:Hid (Q4V Z.S.l Z.tb h y=Q2T Z.S.l Z.tb h y (Q0o Z.S.l Z.tb y)):=rfl;have HLk:=Q0a (HLen.out (T.take k) (by rw [J2L];have:=HTl.out;omega));generalize hSL:Q0o Z.S.l Z.tb y=SL at *
    clear hx4 hb4 hrow hSl2 ks HO3 HBx HT3 HW3 HSl HSlm HTg HSide;go_wp2_with fail;obtain⟨gko,hgo⟩:∃g,g=gk:=⟨_,rfl⟩
    subst hgo;obtain⟨wo,hwo⟩:∃wo,wo=wr:=⟨_,rfl⟩
    subst hwo;obtain⟨v4,hv4⟩:∃v4,v4=u5:=⟨_,rfl⟩
    subst hv4
    go_loopg [5,38] SL.length (fun gi ov iv wi=>∃i:Nat,iv=.int .i64 i/\i+gi=SL.length/\OutS w1 wi ov (Q1C Z.S.l Z.tb h (T.take k)++Q2T Z.S.l Z.tb h y (SL.take i))/\Grow w4 v4 wi ov)
    case atStart=>exact⟨0,rfl,by omega,by simpa [Q2T] using HO4.out,Grow.refl _ _⟩
    case round =>
     clear HO4;obtain⟨i,rfl,hig,hout,hgr⟩:=hrel;have HIG:=Q0a hig;have HO:=Q0a hout;have HG:=Q0a hgr;clear hig hout hgr;by_cases hlt2:i<SL.length
     ·obtain⟨z,hz⟩:∃z,SL[i]?=some z:=⟨_,J2J hlt2⟩
      obtain⟨s,rfl,hs2,e,he⟩:=HSl2.out z (J2G hz);obtain⟨gS,rfl,hg1,hg2,hc4⟩:=HRow.out i _ hz;have hneS:∀b,wo.heap.size<=b->v4.ownBlock≠some b:=fun b hb hx=>by have:=HOwn.out b hx;omega
      have hsz:=HSz.out;have cS:wr.cell? ⟨gS,i,none⟩=some (.int .i64 s):=(World.cell?_of_block (w:=w4) (HG.out.keep gS hg2 (hneS gS (by omega)))).trans hc4;have hBr:=HBx4.out.same (HG.out.keep w2.heap.size HBx4.out.lt (hneS _ hsz));have b0:=hBr.cell 0 _ rfl;have b1:=hBr.cell 1 _ rfl;have b2:=hBr.cell 2 _ rfl;have hbr:Below w.heap.size w wr:=HB1.out.trans (HO.out.2.mono HB1.out.size);have kc:=HCap.out y p w4 wr g s v4 u5 e HP.out.1 HP.out.2 hbr HT4.out HG.out (hneS g HG2.out) hs2 he;have hhl:hasH Z.S.l Z.tb h y (s:Int)=decide (e.h=h):=by
       unfold hasH;rw [J1x,he]
      have htk:SL.take (i+1)=SL.take i++[(s:Int)]:=by rw [J2o,hz];rfl
      have hsn:=Z2k Z.S.l Z.tb h y (SL.take i) (s:Int);rw [<- htk,hhl] at hsn;have HSn:=Q0a hsn;have hln:(Q1C Z.S.l Z.tb h (T.take k)++Q2T Z.S.l Z.tb h y (SL.take i)).length<=16777216:=by
       rw [J1d];have h1:=HLk.out;have h2:=Q8D Z.S.l Z.tb h y (SL.take i);rw [J2L] at h2;omega
      have HApp:Hid (∀W,Below wr.heap.size wr W->∃v' w',(Builtin.append_ #[49,49] 49 #[u5,.slice (some ⟨W.heap.size,0,none⟩) 1 1]).run prog (W.alloc (.cells #[.int .i64 y,.int .i64 s] 46))=.ok v' w'/\OutS w1 w' v' ((Q1C Z.S.l Z.tb h (T.take k)++Q2T Z.S.l Z.tb h y (SL.take i))++[((y:Int),(s:Int))])/\Grow w4 v4 w' v'):=fun W hb=>by
       obtain⟨v',w',q1,q2,q3,q4,q5⟩:=(HO.out.below hb).app hln (y:Int) (s:Int) 49;exact⟨v',w',q1,q2,(HG.out.below hb).app q3 q4 q5⟩
      have HNo:Hid (∀W,Below wr.heap.size wr W->OutS w1 W u5 (Q1C Z.S.l Z.tb h (T.take k)++Q2T Z.S.l Z.tb h y (SL.take i))/\Grow w4 v4 W u5):=fun W hb=>⟨HO.out.below hb,HG.out.below hb⟩
      have hi0:(0:Int)<=(i:Int):=by omega
      have hi1:(i:Int)<256:=by omega
      have hs0:(0:Int)<=(s:Int):=by omega
      have hs1:(s:Int)<256:=by omega
      clear hz he hc4 hBr hbr hhl htk hsn hln hneS hg1 hg2 hsz HO HG hs2;go_wp2_with fail;refine kc.mono ?_;rintro r w5 ⟨rfl,hb5⟩;have hb6:=hb5.alloc hb5.size (.cells #[.int .u32 (e.h:Int),.int .i64 (e.r:Int)] 35);have HB6:=Q0a hb6;clear hb5 hb6 kc cS b0 b1 b2;by_cases hh:e.h=h
      ·obtain⟨v',w',happ,hout,hgr⟩:=HApp.out _ HB6.out;have hq:(((e.h:Nat):Int)==(h:Int))=true:=by simp [hh]
       have HR:Hid (OutS w1 w' v' (Q1C Z.S.l Z.tb h (T.take k)++Q2T Z.S.l Z.tb h y (SL.take (i+1)))/\Grow w4 v4 w' v'):=by
        refine⟨?_,hgr⟩;rw [HSn.out,if_pos (by simpa using hh),<- J1s];exact hout
       clear hh hout hgr HApp HNo HB6 HSn;have hz6:(w5.alloc (.cells #[.int .u32 (e.h:Int),.int .i64 (e.r:Int)] 35)).heap.size=w5.heap.size+1:=by simp
       rw [hz6] at happ;clear hz6;go_wp2_with (at_builtin;refine Lib.wpList_append_run _ rfl _ _ _ _ rfl _ _ rfl rfl _ _ happ ?_);go_roundg (SL.length-(i+1))
       case measure=>have:=HIG.out;omega
       case rel=>exact⟨i+1,by go_num,by omega,HR.out⟩
      ·have hq:(((e.h:Nat):Int)==(h:Int))=false:=by simp;omega
       have HR:Hid (OutS w1 (w5.alloc (.cells #[.int .u32 (e.h:Int),.int .i64 (e.r:Int)] 35)) u5 (Q1C Z.S.l Z.tb h (T.take k)++Q2T Z.S.l Z.tb h y (SL.take (i+1)))/\Grow w4 v4 (w5.alloc (.cells #[.int .u32 (e.h:Int),.int .i64 (e.r:Int)] 35)) u5):=by
        rw [HSn.out,if_neg (by simpa using hh),J2y];exact HNo.out _ HB6.out
       clear hh HApp HNo HB6 HSn;go_wp2_with fail;go_roundg (SL.length-(i+1))
       case measure=>have:=HIG.out;omega
       case rel=>exact⟨i+1,by go_num,by omega,HR.out⟩
     ·have hil:i=SL.length:=by have:=HIG.out;omega
      have HR:Hid (OutS w1 wr u5 (Q1C Z.S.l Z.tb h (T.take (k+1)))):=by
       have h1:=HO.out;rw [hil,J4v] at h1;rw [HStep.out,HX.out];exact h1
      clear HO HG;go_wp2_with fail;go_roundg (T.length-(k+1))
      case measure=>have:=HKG.out;omega
      case rel=>exact⟨k+1,by go_num,by omega,HR.out⟩
  ·have hkl:k=T.length:=by have:=HKG.out;omega
   have hout:=HO.out;rw [hkl,J4v] at hout;have HR:Hid (NewSp w (Q1C Z.S.l Z.tb h T) (.returned u5) wr):=⟨u5,rfl,Q1T hout.1 HB1.out.size,HB1.out.trans (hout.2.mono HB1.out.size)⟩
   clear hout HO;go_wp2_with fail
   first|exact HR.out|(go_ret;exact HR.out)
open Go.Sort (Holds putRow holds_putRow holds_ahead putRow_self reverseLoop swp size_swp)
theorem Q8E (blk cap:Nat) (d:Array Int) (w:World) (hH:Holds encI w blk 0 d) (hsz:d.size<=65536) :
  Calls prog 167 #[.slice (some ⟨blk,0,none⟩) d.size cap] w fun e w'=>e=.returned (.tuple #[])/\∃n,w'=putRow encI (Go.Sort.ahead w n) blk 0 d.reverse:=by
 go_enter func167,ntmps167;go_wp2_with fail
 go_loopg [2,3] d.size (fun k s2 s3 wr=>∃(i jn:Nat) (jz:Int) (dk:Array Int) (n:Nat),s2=.int .i64 i/\s3=.int .i64 jz/\((i:Int)<jz->jz=jn/\jn<d.size)/\(¬(i:Int)<jz->¬i<jn)/\jn-i<=k /\
  dk.size=d.size/\wr=putRow encI (Go.Sort.ahead w n) blk 0 dk/\reverseLoop i jn dk=reverseLoop 0 (d.size-1) d)
 case atStart=>exact⟨0,d.size-1,(d.size:Int)-1,d,0,rfl,rfl,fun h=>⟨by omega,by omega⟩,fun h=>by omega,by omega,rfl,(putRow_self encI w blk 0 d hH).symm,rfl⟩
 case round =>
  obtain⟨i,jn,jz,dk,n,rfl,rfl,h1,h2,hk,hds,hwr,heq⟩:=hrel;by_cases hlt:(i:Int)<jz
  ·obtain⟨rfl,hjn⟩:=h1 hlt;have hij:i<jn:=by omega
   have hHk:Holds encI wr blk 0 dk:=by rw [hwr];exact holds_putRow encI _ blk 0 d dk (holds_ahead encI w n blk 0 d hH) hds
   obtain⟨ci,fi⟩:=hHk i (by omega);obtain⟨cj,fj⟩:=hHk jn (by omega);have A:Go.Aside (wr=putRow encI (Go.Sort.ahead w n) blk 0 dk):=hwr;have SW:Hid (((wr.setCell ⟨blk,i,none⟩ (.int .i64 dk[jn]!)).setCell ⟨blk,jn,none⟩ (.int .i64 dk[i]!)).drew=putRow encI (Go.Sort.ahead w (n+1)) blk 0 (swp dk i jn)):=by
    have:=swap_world encI (off:=0) (i:=i) (j:=jn) (by omega) (by omega) hwr rfl rfl;rw [J2W,J2W] at this;exact this
   clear hwr hHk hH h1 h2;go_wp2_with fail;rw [J2W] at ci fi cj fj;unfold encI at ci cj;go_region
   all_goals
    go_wp2_with fail;go_roundg (jn-1-(i+1))
    case measure=>omega
    case rel =>
     rw [reverseLoop,if_pos hij] at heq;exact⟨i+1,jn-1,(jn:Int)-1,swp dk i jn,n+1,by go_num,by go_num,fun h=>⟨by omega,by omega⟩,fun h=>by omega,J0t _,by rw [size_swp];exact hds,
      (by have hsw:=SW.out;first|exact hsw|(simp only [getElem!_pos dk jn (by omega)] at hsw;exact hsw)),heq⟩
  ·have hnot:=h2 hlt;go_wp2_with fail
   first|go_end0|skip
   refine⟨rfl,n,?_⟩;rw [reverseLoop,if_neg hnot] at heq;rw [<- Go.Lib.reverseLoop_reverse,<- heq]
end Go.Proofs.YtlakjlmaboioiaaGreatDoor
namespace Go.Proofs.YtlakjlmaboioiaaGreatDoor
open Go.RowKit Go.Proofs.Tryz
theorem OutI.parts {w wr:World} {g n cap:Nat} {L:List Int} (h:OutI w wr (.slice (some ⟨g,0,none⟩) n cap) L):∃cur,n=L.length/\w.heap.size<=g/\wr.heap[g]?=some (.cells cur 3 (0,0))/\L.length<=cap/\cap<=maxLen/\cur.size=cap/\cur.toList.take L.length=(L.map encI):=by
 rcases h.1.2 with ⟨h',_⟩|⟨g',cap',cur,h',a1,a2,a3,a4,a5,a6⟩
 ·simp at h'
 ·simp only [Value.slice.injEq,J0H,Addr.mk.injEq,and_true] at h';obtain⟨rfl,rfl,rfl⟩:=h';exact⟨cur,rfl,a1,a2,a3,a4,by simpa using a5,by simpa using a6⟩
theorem OutI.cellAt {w wr:World} {g n cap:Nat} {L:List Int} (h:OutI w wr (.slice (some ⟨g,0,none⟩) n cap) L) {j:Nat} {x:Int} (hj:L[j]?=some x):wr.cell? ⟨g,j,none⟩=some (.int .i64 x)/\w.heap.size<=g/\g<wr.heap.size:=by
 obtain⟨cur,_,a1,a2,_,_,_,a6⟩:=h.parts;refine⟨?_,a1,lt_of_block a2⟩;have hv:(L.map encI)[j]?=some (.int .i64 x):=by rw [J2d,hj];rfl
 rw [<- a6,J2v] at hv;split at hv
 ·simp only [World.cell?,a2,J3u,J4h,if_false];rw [<- J2S];exact hv
 ·cases hv
theorem OutI.cut {w wr:World} {g n cap:Nat} {x:Int} {L:List Int} (h:OutI w wr (.slice (some ⟨g,0,none⟩) n cap) (L++[x])):OutI w wr (.slice (some ⟨g,0,none⟩) L.length cap) L:=by
 obtain⟨cur,_,a1,a2,a3,a4,a5,a6⟩:=h.parts;have hl:L.length+1<=cap:=by simpa using a3
 refine⟨⟨by simp [List.length_map],.inr ⟨g,cap,cur,rfl,a1,a2,by omega,a4,by simpa using a5,?_⟩⟩,h.2⟩;have:=congrArg (List.take L.length) a6;rw [J2N,J1d,J3S,show min L.length (L.length+[x].length)=L.length by simp] at this;rw [J1y,this];have e:(L.map encI).length=L.length:=J2b _;rw [<- e,J2Q]
theorem Z2m {w wr:World} {g n cap:Nat} {L:List Int} (h:OutI w wr (.slice (some ⟨g,0,none⟩) n cap) L):Go.Sort.Holds encI wr g 0 L.toArray:=by
 obtain⟨cur,_,a1,a2,_,_,_,a6⟩:=h.parts;intro j hj;have hj':j<L.length:=by simpa using hj
 have hx:=J2J hj';refine⟨?_,by simp [World.frozen?,a2]⟩;have:=(h.cellAt hx).1;rw [J2W,this,getElem!_pos _ j hj];simp [encI]
theorem Q6j (cur:Array Value) (F:Array Int) (h:F.size<=cur.size):(Go.Sort.putCells encI 0 F cur).toList.take F.size=F.toList.map encI:=by
 apply J2a
 intro j;by_cases hj:j<F.size
 ·rw [J4D hj,J2S];simp [Go.Sort.putCells,hj,show j<cur.size by omega]
 ·rw [J4E (by omega),J2h (by simp;omega)]
theorem Z5d {w:World} {g n:Nat} {cur:Array Value} {e:TypeId} (d:Array Int) (hb:w.heap[g]?=some (.cells cur e (0,0))) :
  (Go.Sort.putRow encI (Go.Sort.ahead w n) g 0 d).heap[g]?=some (.cells (Go.Sort.putCells encI 0 d cur) e (0,0)):=by
 have hg:g<w.heap.size:=(J4F.1 hb).1;simp [Go.Sort.putRow,Go.Sort.mapBlock,Go.Sort.ahead,Array.getElem?_modify,hb,Go.Sort.onCells]
theorem Z2n {w:World} {g n:Nat} (d:Array Int):w.grownBy (Go.Sort.putRow encI (Go.Sort.ahead w n) g 0 d) (some g):=by
 refine⟨rfl,rfl,rfl,by simp [Go.Sort.putRow,Go.Sort.mapBlock,Go.Sort.ahead],fun k hk hne=>?_⟩;have:g≠k:=fun e=>hne (by rw [e])
 simp [Go.Sort.putRow,Go.Sort.mapBlock,Go.Sort.ahead,Array.getElem?_modify,this]
theorem OutI.reversed {w wr:World} {g n cap k:Nat} {L:List Int} (h:OutI w wr (.slice (some ⟨g,0,none⟩) n cap) L):OutI w (Go.Sort.putRow encI (Go.Sort.ahead wr k) g 0 L.toArray.reverse) (.slice (some ⟨g,0,none⟩) n cap) L.reverse:=by
 obtain⟨cur,rfl,a1,a2,a3,a4,a5,a6⟩:=h.parts;have hgr:=Z2n (w:=wr) (g:=g) (n:=k) L.toArray.reverse;have hsz:L.toArray.reverse.size=L.length:=by simp
 refine⟨⟨by simp [List.length_map],.inr ⟨g,cap,_,by rw [J4G],a1,Z5d _ a2,by simpa using a3,a4,by simp [Go.Sort.putCells,a5],?_⟩⟩,h.2.trans ((Below.refl _ wr).mono h.2.size |>.grown hgr h.2.size (fun b hb=>by cases hb;exact a1))⟩;have e:L.reverse.length*1=L.toArray.reverse.size:=by simp
 rw [e,Q6j _ _ (by rw [hsz,a5];exact a3)];simp
theorem OutI.alloc {w wr:World} {v:Value} {L:List Int} (h:OutI w wr v L) (o:Obj):OutI w (wr.alloc o) v L:=⟨h.1.alloc _,h.2.alloc h.2.size _⟩
theorem OutI.app0 {w wr w1:World} {v v':Value} {L M:List Int} (h:OutI w wr v L) (hown:w1.ownsRow w.heap.size 3 1 v' (L.length+M.length) (L.map encI++M.map encI)) (hg:wr.grownBy w1 v.ownBlock):OutI w w1 v' (L++M):=
 ⟨by rw [J1d,J3S];exact hown,h.2.trans ((Below.refl _ wr).mono h.2.size |>.grown hg h.2.size (fun b hb=>(h.1.lt b hb).1))⟩
def TwoI (w wr:World) (v:Value) (L:List Int) (u:Value) (M:List Int):Prop:=OutI w wr v L/\OutI w wr u M/\∀b,v.ownBlock=some b->u.ownBlock≠some b
theorem TwoI.swap {w wr:World} {v u:Value} {L M:List Int} (h:TwoI w wr v L u M):TwoI w wr u M v L:=⟨h.2.1,h.1,fun b h1 h2=>h.2.2 b h2 h1⟩
theorem TwoI.below {w wr w1:World} {v u:Value} {L M:List Int} (h:TwoI w wr v L u M) (hb:Below wr.heap.size wr w1):TwoI w w1 v L u M:=⟨h.1.below hb,h.2.1.below hb,h.2.2⟩
theorem TwoI.alloc {w wr:World} {v u:Value} {L M:List Int} (h:TwoI w wr v L u M) (o:Obj):TwoI w (wr.alloc o) v L u M:=⟨h.1.alloc o,h.2.1.alloc o,h.2.2⟩
theorem TwoI.cut {w wr:World} {g n cap:Nat} {x:Int} {u:Value} {L M:List Int} (h:TwoI w wr (.slice (some ⟨g,0,none⟩) n cap) (L++[x]) u M):TwoI w wr (.slice (some ⟨g,0,none⟩) L.length cap) L u M:=⟨h.1.cut,h.2.1,h.2.2⟩
theorem TwoI.app {w wr w1:World} {v v' u:Value} {L M X:List Int} (h:TwoI w wr v L u M) (hown:w1.ownsRow w.heap.size 3 1 v' (L.length+X.length) (L.map encI++X.map encI)) (hg:wr.grownBy w1 v.ownBlock) (hat:v'.ownBlock=v.ownBlock∨v'.ownBlock=some wr.heap.size):TwoI w w1 v' (L++X) u M:=by
 obtain⟨h1,h2,h3⟩:=h;have hb:Below w.heap.size w w1:=h1.2.trans ((Below.refl _ wr).mono h1.2.size |>.grown hg h1.2.size (fun b hb=>(h1.1.lt b hb).1));refine⟨h1.app0 hown hg,⟨h2.1.kept hg ?_,hb⟩,fun b e1 e2=>?_⟩
 ·cases hv:v.ownBlock with
  | none=>cases hu:u.ownBlock with
   | none=>exact .inl rfl
   | some c=>exact .inr (by simp)
  | some b=>exact .inr (fun e=>h3 b hv e)
 ·rcases hat with e|e
  ·exact h3 b (e ▸ e1) e2
  ·rw [e] at e1;cases e1;exact absurd (h2.1.lt _ e2).2 (by omega)
theorem Z0R {w:World} {B:Nat} {v:Value} {L M:List Int} {rv:RV} {ty:TypeId} (h:w.ownsRow B 3 1 v L.length (L.map encI)) (hM:∀g cap,rv=some (g,cap)->∀(j:Nat) (x:Int),M[j]?=some x->w.cell? ⟨g,j,none⟩=some (.int .i64 x)) (hrv:rvOk rv M.length) (hn:L.length+M.length<=16777216) (hB:B<=w.heap.size) :
  ∃v' w',(Builtin.append_ #[36,36] ty #[v,lvOf rv M.length]).run prog w=.ok v' w'/\w'.ownsRow B 3 1 v' (L.length+M.length) (L.map encI++M.map encI)/\w.grownBy w' v.ownBlock/\(v'.ownBlock=v.ownBlock∨v'.ownBlock=some w.heap.size):=by
 obtain⟨i0,hinf,hz0,hz1,hz2⟩:=info_parts Q9w;cases rv with
 | none =>
  have hM0:M=[]:=J2I hrv;subst hM0;exact⟨v,w,run_append_owned_none w B 36 ty 3 i0 1 underlying36 hinf v _ _ h,by simpa using h,⟨rfl,rfl,rfl,J0t _,fun _ _ _=>rfl⟩,.inl rfl⟩
 | some p =>
  obtain⟨g,cap⟩:=p;obtain⟨v',w',e1,e2,e3,_,e5⟩:=run_append_own_at (P:=prog) w B 36 ty 3 i0 (.int .i64 0) 1 8 underlying36 hinf hz0 hz1 hz2 rfl (by decide) v _ _ h ⟨g,0,none⟩ M.length cap (M.map encI) (by simp) (fun j u hj=>by
   rw [J2d] at hj;obtain⟨x,hx,rfl⟩:=J4k.1 hj;have:=hM g cap rfl j x hx;have e:(⟨g,0,none⟩:Addr).add j=⟨g,j,none⟩:=by unfold Addr.add;split <;> simp_all
   rw [e];exact this) (fun u hu=>by
    obtain⟨x,_,rfl⟩:=J0z.1 hu;rfl) (by unfold maxLen;omega) (by omega) hB
  exact⟨v',w',e1,e2,e3,e5⟩
theorem Q9D {w wr:World} {q:FO} (h:Sep w q.hl) (ok:q.Ok) {x:Int} {e:En Nd} (hf:find q.N x=some e) {g n cap:Nat} {u:Value} {ws M:List Int} (T:TwoI w wr (.slice (some ⟨g,0,none⟩) n cap) (ws++[x]) u M) (hws:ws.length<=65536) (hM:M.length<=65536) :
  ∃v1 w1 v2 w2,(Builtin.append_ #[36,36] 36 #[.slice (some ⟨g,0,none⟩) ws.length cap,lvOf (q.kr x) e.q.ks.length]).run prog wr.drew=.ok v1 w1 /\
   (Builtin.append_ #[36,36] 36 #[u,.slice (some ⟨w1.heap.size,0,none⟩) 1 1]).run prog (w1.alloc (.cells #[.int .i64 x] 3))=.ok v2 w2/\TwoI w w2 v1 (ws++e.q.ks) v2 (M++[x]):=by
 obtain⟨hem,heid⟩:=Q0b hf;have hfew:=ok.n.kids_few hem;have hfew2:=ok.few;have hrv:=ok.rv e hem;rw [heid] at hrv;have T1:TwoI w wr.drew (.slice (some ⟨g,0,none⟩) ws.length cap) ws u M:=T.cut.below ((Below.refl _ _).drew);have hs:Sep wr.drew q.hl:=(h.grown T1.1.2).sep;obtain⟨R,p1,_⟩:=FO.split ok.n.ids hf;have hrow:Sep wr.drew (rowH (q.kr x) 3 1 (e.q.ks.map encI)):=(hs.perm p1).left.tail;obtain⟨v1,w1,r1,o1,g1,b1⟩:=Z0R (rv:=q.kr x) (M:=e.q.ks) (ty:=36) T1.1.1 (fun g' cap' hr j y hj=>by
  rw [hr] at hrow;exact Q0U hrow j _ (by rw [J2d,hj];rfl)) hrv (by omega) T1.1.2.size
 have T2:=T1.app o1 g1 b1;have T3:=T2.swap.alloc (.cells #[.int .i64 x] 3);have cn:=Cells.new w1 3 [.int .i64 x];obtain⟨v2,w2,r2,o2,g2,b2⟩:=Z0R (rv:=some (w1.heap.size,1)) (M:=[x]) (ty:=36) T3.1.1 (fun g' cap' hr j y hj=>by
  cases hr
  exact cn.cell j _ (by
   cases j with
   | zero=>simp at hj;subst hj;rfl
   | succ j=>simp at hj)) ⟨J0t _,by unfold maxLen;omega⟩ (by simp;omega) T3.1.2.size
 exact⟨v1,w1,v2,w2,r1,r2,(T3.app o2 g2 b2).swap⟩
theorem OutI.shape {w wr:World} {v:Value} {L:List Int} (h:OutI w wr v L):∃(a:Option Addr) (cap:Nat),v=.slice a L.length cap:=by
 rcases h.1.2 with ⟨rfl,h0⟩|⟨g,cap,cur,rfl,_⟩
 ·exact⟨none,0,by rw [h0]⟩
 ·exact⟨_,cap,rfl⟩
theorem OutI.shape1 {w wr:World} {v:Value} {L:List Int} (h:OutI w wr v L) (hl:L≠[]):∃(g cap:Nat),v=.slice (some ⟨g,0,none⟩) L.length cap:=by
 rcases h.1.2 with ⟨rfl,h0⟩|⟨g,cap,cur,rfl,_⟩
 ·exact absurd (J2I h0) hl
 ·exact⟨g,cap,rfl⟩
theorem TwoI.startI (w:World) (x:Int):TwoI w (w.alloc (.cells #[.int .i64 x] 3)) (.slice (some ⟨w.heap.size,0,none⟩) 1 1) [x] (.slice none 0 0) []:=by
 have hb:Below w.heap.size w (w.alloc (.cells #[.int .i64 x] 3)):=(Below.refl _ _).alloc (J0t _) _;refine⟨⟨?_,hb⟩,(OutI.nil w).below hb,fun b _=>by simp [Value.ownBlock]⟩;refine⟨by simp,.inr ⟨w.heap.size,1,#[.int .i64 x],rfl,J0t _,Cells.new w 3 [.int .i64 x],J0t _,by unfold maxLen;omega,by simp,by simp⟩⟩
structure BelI (q:FO) (id:Int) (ws M:List Int):Prop where
 eq:M++Q8e (kdF q.N) (rkF q.next) ws=preT (kdF q.N) (rkF q.next) id
 nodes:∀y∈ws,∃e,find q.N y=some e
theorem Z2o {q:FO} (ok:q.Ok) {id y:Int} {e:En Nd} (hf:find q.N id=some e) (hy:y∈preT (kdF q.N) (rkF q.next) id):∃e',find q.N y=some e':=by
 have hd:=(Z0I ok.n.tree).1 hy;rcases hd.last with rfl|⟨z,_,hz⟩
 ·exact⟨e,hf⟩
 ·unfold kdF at hz;cases hfz:find q.N z with
  | none=>rw [hfz] at hz;cases hz
  | some p =>
   rw [hfz] at hz;obtain⟨p1,_⟩:=Q0b hfz;obtain⟨k,hk,_⟩:=ok.n.kids p p1 y hz;exact⟨k,hk⟩
theorem Z0S {q:FO} (ok:q.Ok) {id:Int} {e:En Nd} (hf:find q.N id=some e):(preT (kdF q.N) (rkF q.next) id).length<=65536:=by
 have hnd:(preT (kdF q.N) (rkF q.next) id).Nodup:=(Q5C ok.n.tree id).imp fun h=>h.1
 have:=J4A hnd (l₂:=q.N.map En.id) (fun y hy=>by
  obtain⟨k,hk⟩:=Z2o ok hf hy;obtain⟨k1,k2⟩:=Q0b hk;exact J0z.2 ⟨k,k1,k2⟩)
 rw [J2b] at this;have:=ok.few;omega
theorem BelI.start {q:FO} {id:Int} {e:En Nd} (hf:find q.N id=some e):BelI q id [id] []:=⟨by simp [Q8e],fun y hy=>by
 rw [J2z] at hy;subst hy;exact⟨e,hf⟩⟩
theorem BelI.step {q:FO} (ok:q.Ok) {id x:Int} {e:En Nd} {ws M:List Int} (b:BelI q id (ws++[x]) M) (hf:find q.N x=some e):BelI q id (ws++e.q.ks) (M++[x]):=by
 have hk:kdF q.N x=e.q.ks:=by unfold kdF;rw [hf]
 refine⟨?_,fun y hy=>?_⟩
 ·rw [<- b.eq,Z1U ok.n.tree,hk];simp
 ·rcases J1h.1 hy with hy|hy
  ·exact b.nodes y (by simp [hy])
  ·obtain⟨e1,_⟩:=Q0b hf;obtain⟨k,hk,_⟩:=ok.n.kids e e1 y hy;exact⟨k,hk⟩
theorem BelI.len {q:FO} (ok:q.Ok) {id:Int} {e:En Nd} (hf:find q.N id=some e) {ws M:List Int} (b:BelI q id ws M):ws.length<=65536/\M.length<=65536/\M.length<=(preT (kdF q.N) (rkF q.next) id).length:=by
 have h1:=Z0S ok hf;have h2:=Z4G (kdF q.N) (rkF q.next) ok.n.tree ws;rw [<- b.eq,J1d] at h1 ⊢;omega
theorem BelI.done {q:FO} (ok:q.Ok) {id:Int} {M:List Int} (b:BelI q id [] M):M.reverse=Q0B (kdF q.N) (rkF q.next) id++[id]:=by
 have h:=b.eq;have h0:Q8e (kdF q.N) (rkF q.next) []=[]:=rfl;rw [h0,J2y,Q3g ok.n.tree] at h;rw [h];simp
def slen:Value->Nat
 | .slice _ n _=>n
 | _=>0
theorem Q8F {w wr:World} {q:FO} (h:Sep w q.hl) (ok:q.Ok) {id x:Int} {e:En Nd} (hf:find q.N id=some e) {g n cap:Nat} {u:Value} {ws M:List Int} (T:TwoI w wr (.slice (some ⟨g,0,none⟩) n cap) (ws++[x]) u M) (B:BelI q id (ws++[x]) M) :
  n=ws.length+1/\ws.length+1<=cap/\ws.length+1<=65536/\cap<=maxLen/\wr.cell? ⟨g,ws.length,none⟩=some (.int .i64 x)/\∃(xb:Nat) (a0:Option Addr) (n0 c0:Nat),
   (wr.cell? ⟨q.f,0,none⟩=some (.map (some q.m))/\(Instr.lookup 279 (.map (some q.m)) (.int .i64 x) false).run prog wr=.ok (.pointer (some ⟨xb,0,none⟩)) wr/\wr.cell? ⟨xb,3,none⟩=some (.slice a0 n0 c0)) /\
   (wr.drew.cell? ⟨q.f,0,none⟩=some (.map (some q.m))/\(Instr.lookup 279 (.map (some q.m)) (.int .i64 x) false).run prog wr.drew=.ok (.pointer (some ⟨xb,0,none⟩)) wr.drew/\wr.drew.cell? ⟨xb,3,none⟩=some (.slice a0 n0 c0)) /\
   ∃(a1:Option Addr) (n1 c1:Nat) (w1:World) (v2:Value) (w2:World),(Builtin.append_ #[36,36] 36 #[.slice (some ⟨g,0,none⟩) ws.length cap,.slice a0 n0 c0]).run prog wr.drew=.ok (.slice a1 n1 c1) w1 /\
    (Builtin.append_ #[36,36] 36 #[u,.slice (some ⟨w1.heap.size,0,none⟩) 1 1]).run prog (w1.alloc (.cells #[.int .i64 x] 3))=.ok v2 w2 /\
    ∃ws',TwoI w w2 (.slice a1 n1 c1) ws' v2 (M++[x])/\BelI q id ws' (M++[x])/\slen v2=slen u+1/\slen u+1<=(preT (kdF q.N) (rkF q.next) id).length:=by
 obtain⟨cur,hn,_,_,hcap,hmax,_⟩:=T.1.parts;obtain⟨l1,l2,_⟩:=B.len ok hf;obtain⟨ex,hfx⟩:=B.nodes x (by simp);rw [J1d,J4o] at hn hcap l1;obtain⟨v1,w1,v2,w2,r1,r2,hT2⟩:=Q9D h ok hfx T (by omega) l2;have B2:=B.step ok hfx;obtain⟨_,_,l3⟩:=B2.len ok hf;obtain⟨a1,c1,rfl⟩:=hT2.1.shape;obtain⟨a2,c2,hv2⟩:=hT2.2.1.shape;obtain⟨au,cu,hu⟩:=T.2.1.shape;have hs:Sep wr q.hl:=(h.grown T.1.2).sep;have k3:=(FO.nd0 hs hfx).2.2.2;have k3d:=(FO.nd0 hs.drew hfx).2.2.2;have hxid:=(Q0b hfx).2;rw [hxid] at k3 k3d;obtain⟨a0,n0,c0,hlv⟩:∃a n c,lvOf (q.kr x) ex.q.ks.length=.slice a n c:=by
  cases q.kr x with
  | none=>exact⟨_,_,_,rfl⟩
  | some p=>exact⟨_,_,_,rfl⟩
 rw [hlv] at k3 k3d r1;refine⟨hn,hcap,by omega,hmax,(T.1.cellAt (j:=ws.length) (x:=x) (by simp)).1,ex.b,a0,n0,c0,⟨FO.c0 hs,FO.look_some hs hfx,k3⟩,⟨FO.c0 hs.drew,FO.look_some hs.drew hfx,k3d⟩,a1,_,c1,w1,v2,w2,r1,r2,ws++ex.q.ks,hT2,B2,?_,?_⟩
 ·rw [hv2,hu];simp [slen]
 ·rw [hu];rw [J1d,J4o] at l3;exact l3
theorem Q9E {w:World} {q:FO} (h:Sep w q.hl) (ok:q.Ok) {id:Int} {e:En Nd} (hf:find q.N id=some e) :
  Calls prog 84 #[.pointer (some ⟨q.f,0,none⟩),.int .i64 id] w (NewIs w (Q0B (kdF q.N) (rkF q.next) id)):=by
 have ka:=Q2s h hf;have HH:=Q0a h;have HOk:=Q0a ok;have HF:=Q0a hf;obtain⟨-,-,-,-,hcx,xb,a0,n0,c0,⟨f0,lk,k3⟩,⟨f0d,lkd,k3d⟩,a1,n1,c1,w1,v2,w2,r1,r2,ws',hT2,hB2,hlen,hlen2⟩:=Q8F (ws:=[]) h ok hf (TwoI.startI w id) (BelI.start hf);rw [J2R] at hcx r1;have HR1:=Q0a r1;have hw0:IntKind.i64.wrap 0=0:=Go.IntWalk.i64_in _ (by omega);have HT2:=Q0a hT2;have HB2:=Q0a hB2;clear h ok hf hT2 hB2 r1 hlen hlen2;go_enter func84,ntmps84;go_wp2_with fail;refine wp_scope_jumps 0 (fun a' w'=>∃(wv ov:Value) (ws M:List Int) (u7 u8 u9 u10 u11 u12 u13 u14 u15 u16 u17 u18 u19 u20 u21 u22 u23 u24 u25 u26 u27 u28 u29 u30 u31 u32 u33 u34 u35 u36 u37 u38 u39 u40 u41 u42 u43 u44 u45 u46 u47 u48:Value),a'={tmps:=#[.pointer (some ⟨q.f,0,none⟩),.int .i64 id,undef,undef,.slice none 0 0,ov,wv,u7,u8,u9,u10,u11,u12,u13,u14,u15,u16,u17,u18,u19,u20,u21,u22,u23,u24,u25,u26,u27,u28,u29,u30,u31,u32,u33,u34,u35,u36,u37,u38,u39,u40,u41,u42,u43,u44,u45,u46,u47,u48],defers:=[]}/\TwoI w w' wv ws ov M/\BelI q id ws M) (fun a' _=>(preT (kdF q.N) (rkF q.next) id).length-slen (a'.tmps.getD 5 undef)) rfl ?_ ?_
 ·go_wp2_with fail;refine ka.mono ?_;rintro r w' ⟨rfl,rfl⟩;go_wp2_with fail
  go_step3
  go_wp2_with fail
  go_region_law (refine Q0y rfl (.tmp 27) (.tmp 36) 36 36 rfl _ _ (by simp [Act.eval]) (by simp [Act.eval]) HR1.out ?_)
  all_goals
   go_wp2_with (at_builtin;refine Lib.wpList_append_run _ rfl _ _ _ _ rfl _ _ rfl rfl _ _ r2 ?_)
   go_step3
   refine⟨rfl,.slice a1 n1 c1,v2,ws',[]++[id],_,_,_,_,_,_,_,_,_,_,_,_,_,_,_,_,_,_,_,_,_,_,_,_,_,_,_,_,_,_,_,_,_,_,_,_,_,_,_,_,_,_,rfl,HT2.out,HB2.out⟩
 ·rintro a' wr ⟨wv,ov,ws,M,u7,u8,u9,u10,u11,u12,u13,u14,u15,u16,u17,u18,u19,u20,u21,u22,u23,u24,u25,u26,u27,u28,u29,u30,u31,u32,u33,u34,u35,u36,u37,u38,u39,u40,u41,u42,u43,u44,u45,u46,u47,u48,rfl,hT,hB⟩;have hcc:ws=[]∨∃(ws':List Int) (y:Int),ws=ws'++[y]:=by
   rcases J4H ws with h|⟨a,b,h⟩
   ·exact .inl h
   ·exact .inr ⟨a,b,by rw [h,J4I]⟩
  rcases hcc with rfl|⟨ws0,x,rfl⟩
  ·have hdone:=hB.done HOk.out;have hlen9:=(hB.len HOk.out HF.out).2.1;have hne:M≠[]:=fun e=>by rw [e] at hdone;simp at hdone
   obtain⟨aw,cw,rfl⟩:=hT.1.shape;obtain⟨g,co,rfl⟩:=hT.2.1.shape1 hne;obtain⟨_,_,_,_,hco,_⟩:=hT.2.1.parts;have hrev:=Q8E g co M.toArray wr (Z2m hT.2.1) (by simpa using hlen9);have hfin:∀n,NewIs w (Q0B (kdF q.N) (rkF q.next) id) (.returned (.slice (some ⟨g,0,none⟩) (Q0B (kdF q.N) (rkF q.next) id).length co)) (Go.Sort.putRow encI (Go.Sort.ahead wr n) g 0 M.toArray.reverse):=fun n=>by
    have h1:=hT.2.1.reversed (k:=n);rw [hdone] at h1;have h2:=h1.cut;exact⟨_,rfl,h2.1,h2.2⟩
   have hl1:M.length=(Q0B (kdF q.N) (rkF q.next) id).length+1:=by
    have:=congrArg List.length hdone
    simpa using this
   have HFin:=Q0a hfin;rw [show M.toArray.size=M.length from rfl] at hrev;rw [hl1] at hrev hco hlen9 ⊢;generalize hm:(Q0B (kdF q.N) (rkF q.next) id).length=m at *
   have hcapi:((m:Nat):Int)<=(co:Int):=by omega
   have hcap:m<=co:=by omega
   have hmi:(m:Int)<65536:=by omega
   have hw:IntKind.i64.wrap (m:Int)=(m:Int):=Go.IntWalk.i64_in _ (by omega);clear hfin hT hB hdone hne hl1 hm hlen9 hco HT2 HB2 HR1 r2 hcx f0 lk k3 f0d lkd k3d ka;generalize NewIs w (Q0B (kdF q.N) (rkF q.next) id)=Q at *
   go_wp2_with fail;refine hrev.mono ?_;rintro r w3 ⟨rfl,n,rfl⟩;have HQ:=Q0a (HFin.out n);clear hrev HFin;generalize Go.Sort.putRow encI (Go.Sort.ahead wr n) g 0 M.toArray.reverse=w3 at *
   go_wp2_with fail
   try simp only [Exit.jump]
   first|exact HQ.out|(go_ret;exact HQ.out)
  ·clear HT2 HB2 HR1 r2 hcx f0 lk k3 f0d lkd k3d ka hw0;obtain⟨g,cap,rfl⟩:=hT.1.shape1 (by simp);obtain⟨hn,hcap,h65,_,hcx,xb,a0,n0,c0,⟨f0,lk,k3⟩,⟨f0d,lkd,k3d⟩,a1,n1,c1,w1,v2,w2,r1,r2,ws',hT2,hB2,hlen,hlen2⟩:=Q8F HH.out HOk.out HF.out hT hB;have HR1:=Q0a r1;have HT2:=Q0a hT2;have HB2:=Q0a hB2;obtain⟨au,cu,rfl⟩:=hT.2.1.shape;have hlow:(preT (kdF q.N) (rkF q.next) id).length-slen v2<(preT (kdF q.N) (rkF q.next) id).length-slen (.slice au M.length cu):=by omega
   have HLow:=Q0a hlow;rw [hn];generalize ws0.length=n at *
   have hcapi:((n:Nat):Int)<=(cap:Int):=by omega
   have hcapn:n<=cap:=by omega
   have hni:(n:Int)<65536:=by omega
   have hw:IntKind.i64.wrap (n:Int)=(n:Int):=Go.IntWalk.i64_in _ (by omega);have hn0:(0:Int)<=(n:Int):=by omega
   clear hT hB hT2 hB2 r1 hlow hlen hlen2 hn hcap h65;go_wp2_with fail
   go_region_law (refine Q0y rfl (.tmp 27) (.tmp 36) 36 36 rfl _ _ (by simp [Act.eval]) (by simp [Act.eval]) HR1.out ?_)
   all_goals
    go_wp2_with (at_builtin;refine Lib.wpList_append_run _ rfl _ _ _ _ rfl _ _ rfl rfl _ _ r2 ?_)
    go_step3
    refine⟨rfl,⟨.slice a1 n1 c1,v2,ws',M++[x],_,_,_,_,_,_,_,_,_,_,_,_,_,_,_,_,_,_,_,_,_,_,_,_,_,_,_,_,_,_,_,_,_,_,_,_,_,_,_,_,_,_,rfl,HT2.out,HB2.out⟩,HLow.out⟩
theorem Q5R {w:World} {Z:SP} (hs:Sep w Z.hl) (ok:Z.F.Ok) {x z g f:Nat} (hx:x<4294967296) (hz:z<256) :
  Calls prog 83 #[.pointer (some ⟨Z.s,0,none⟩),.agg #[.pointer (some ⟨g,0,none⟩),.int .u32 x,.int .i64 f],.int .i64 z] w (Told w (.int .i64 (ownN Z.F.N (x:Int) (z:Int)))):=by
 have b1:Below w.heap.size w (w.alloc (.cells #[.pointer (some ⟨g,0,none⟩),.int .u32 x,.int .i64 f] 155)):=(Below.refl _ _).alloc (J0t _) _;have s1:=(hs.grown b1).sep;have c1:=SP.c1 s1;have c1d:(w.alloc (.cells #[.pointer (some ⟨g,0,none⟩),.int .u32 x,.int .i64 f] 155)).drew.cell? ⟨Z.s,1,none⟩=some (.pointer (some ⟨Z.F.f,0,none⟩)):=c1;have hB:=Cells.new w 155 [.pointer (some ⟨g,0,none⟩),.int .u32 x,.int .i64 f];have q1:=hB.cell 1 _ rfl;have q1d:(w.alloc (.cells #[.pointer (some ⟨g,0,none⟩),.int .u32 x,.int .i64 f] 155)).drew.cell? ⟨w.heap.size,1,none⟩=some (.int .u32 x):=q1;have g1:(0:Int)<=(x:Int):=by omega
 have g2:(x:Int)<9223372036854775808:=by omega
 have g3:(0:Int)<=(z:Int):=by omega
 have g4:(z:Int)<9223372036854775808:=by omega
 have kf:=Q4p (SP.sF s1.drew) ok (sp:=(x:Int)) (sl:=(z:Int)) (Q2R (p:=((x:Int),(z:Int))) g1 g2 g3 g4);have HR:Hid (Below w.heap.size w (w.alloc (.cells #[.pointer (some ⟨g,0,none⟩),.int .u32 x,.int .i64 f] 155)).drew):=b1.drew;have hx1:(x:Int)<4294967296:=by omega
 have hwx:IntKind.i64.wrap (x:Int)=(x:Int):=Go.IntWalk.i64_in _ (by omega);generalize ownN Z.F.N (x:Int) (z:Int)=oid at *
 clear hs ok hx hz b1 s1 hB g2 g3 g4;go_enter func83,ntmps83;go_wp2_with fail
 go_region_held3 (fun w'=>w'.cell? ⟨Z.s,1,none⟩=some (.pointer (some ⟨Z.F.f,0,none⟩))/\w'.cell? ⟨w.heap.size,1,none⟩=some (.int .u32 x)) (first|exact⟨c1,q1⟩|exact⟨c1d,q1d⟩)
  (first|(go_at_call 88;refine kf.mono ?_;rintro r w' ⟨rfl,rfl⟩))
 go_wp2_with fail
 first|exact⟨rfl,HR.out⟩|(go_ret;exact⟨rfl,HR.out⟩)
def revL (q:FO) (id:Int) (self:Bool):List Int:=Q0B (kdF q.N) (rkF q.next) id++if self=true then [id] else []
theorem Z0T {q:FO} (ok:q.Ok) {id:Int} {e:En Nd} (hf:find q.N id=some e) (self:Bool):(revL q id self).length<=65537:=by
 have h:=Z0S ok hf;rw [Q3g ok.n.tree,J1e,J4G] at h;unfold revL;rw [J1d];split <;> simp <;> omega
theorem Q6R {w:World} {Z:SP} (hs:Sep w Z.hl) (ok:Z.F.Ok) {id:Int} {e:En Nd} (hf:find Z.F.N id=some e) :
  Calls prog 84 #[.pointer (some ⟨Z.F.f,0,none⟩),.int .i64 id] w fun r w'=>Below w.heap.size w w'/\∃(a:Option Addr) (cap:Nat),r=.returned (.slice a (Q0B (kdF Z.F.N) (rkF Z.F.next) id).length cap)/\OutI w w' (.slice a (Q0B (kdF Z.F.N) (rkF Z.F.next) id).length cap) (Q0B (kdF Z.F.N) (rkF Z.F.next) id):=by
 refine (Q9E (SP.sF hs) ok hf).mono ?_;rintro r w' ⟨v,rfl,h1,h2⟩;obtain⟨a,cap,rfl⟩:=OutI.shape (w:=w) (wr:=w') ⟨h1,h2⟩;exact⟨h2,a,cap,rfl,h1,h2⟩
theorem OutI.aside {w w':World} {H:HL} {v:Value} {L:List Int} (h:OutI w w' v L) (hs:Sep w H):∃(a:Option Addr) (cap:Nat),v=.slice a L.length cap/\AsideV H (L.map encI) a w':=Q6M hs h.1
def RevR (Z:SP) (fr:List Nat) (N K:Nat) (M:Int) (x:Nat) (z mask:Int) (self:Bool) (w:World) (r:Ending) (w':World):Prop:=
 (∃e:Int,r=.returned (.tuple #[.int .i64 0,.int .i64 e])/\Below w.heap.size w w'/\((pget Z.S.l 1 x=none/\e=8)∨∃p,pget Z.S.l 1 x=some p/\((p.kind≠2/\e=10)∨(p.kind=2/\¬(0<=z/\z<256)/\e=2) ∨
  (p.kind=2/\(0<=z/\z<256)/\¬(0<mask/\mask<=15)/\e=1)∨(p.kind=2/\(0<=z/\z<256)/\(0<mask/\mask<=15)/\Q0f Z.S.l Z.tb x z.toNat=none/\e=6)))) ∨
 (∃(s m:Nat) (n:En Nd) (en:Ent),z=(s:Int)/\mask=(m:Int)/\s<256/\1<=m/\m<16/\Q0f Z.S.l Z.tb x s=some en/\n∈Z.F.N/\n.q.sp=(x:Int)/\n.q.sl=(s:Int) /\
  r=.returned (.tuple #[.int .i64 ((Q0F m Z.av (revL Z.F n.id self)).2:Nat),.int .i64 0])/\Q7u Z fr N K M m (revL Z.F n.id self) w w')
theorem Z2p {w:World} {Z:SP} {fr:List Nat} {N K:Nat} {M:Int} (hs:Sep w Z.hl) (ok:Z.Ok fr N K M) {x:Nat} (hx:x<4294967296) {p:Pl} (hp:pget Z.S.l 1 x=some p) (hk:p.kind=2) {s m:Nat} (hs2:s<256) (hm1:1<=m) (hm:m<16) {en:Ent} (he:Q0f Z.S.l Z.tb x s=some en) (self:Bool) :
  Calls prog 20 #[.pointer (some ⟨Z.s,0,none⟩),.int .u32 x,.int .i64 s,.int .i64 m,.bool self] w (RevR Z fr N K M x (s:Int) (m:Int) self w):=by
 have ks:=Q0X hs ok.core hx hp hk;have hi:=(pget_some.1 hp).1;have hst:=(pget_some.1 hp).2.2;obtain⟨n,hn,n1,n2,hown,hfn⟩:=ok.fpi.own ok.fo.n he;have hat:(Z.tb (x%256)).at' (s:Int)=some en:=by
  unfold TB.at';rw [if_pos ⟨by omega,by omega⟩,J1x,<- Q0i hp hk hs2];exact he
 have hlow:=ok.fpi.low ok.core.inv.lok he;have HC:Hid (∀(w2:World) (g:Nat),Below w.heap.size w w2->TblZ Z p g w2->Calls prog 74 #[.agg #[.pointer (some ⟨g,0,none⟩),.int .u32 x,.int .i64 (p.fac:Int)],.int .i64 s] (w2.alloc (.cells #[.pointer (some ⟨g,0,none⟩),.int .u32 x,.int .i64 (p.fac:Int)] 155)) (fun r w4=>r=.returned (.tuple #[.agg #[.int .u32 (en.h:Int),.int .i64 (en.r:Int)],.bool true]) /\
   ∀o,Below w.heap.size w (w4.alloc o)/\Cells (w4.alloc o) w2.heap.size 155 [.pointer (some ⟨g,0,none⟩),.int .u32 x,.int .i64 (p.fac:Int)])):=fun w2 g hb2 hg=>by
  have hb3:Below w2.heap.size w2 (w2.alloc (.cells #[.pointer (some ⟨g,0,none⟩),.int .u32 x,.int .i64 (p.fac:Int)] 155)):=(Below.refl _ _).alloc (J0t _) _;have hb3':=hb2.alloc hb2.size (.cells #[.pointer (some ⟨g,0,none⟩),.int .u32 x,.int .i64 (p.fac:Int)] 155);have s2:=(hs.grown hb2).sep;have T:=(ok.tpi.x (p.fac:Int)).tt ok.core hi hst hk (SP.sS (s2.grown hb3).sep) (hg.grown s2 hb3).c;refine (Q1r T (x:Int) (p.fac:Int) (s:Int) fun e he'=>by rw [hat] at he';cases he';exact hlow).mono ?_;rw [hat];rintro r w4 ⟨rfl,hb4⟩;have hb4':Below w.heap.size w w4:=hb3'.trans (hb4.mono hb3'.size);have hB:=(Cells.new w2 155 [.pointer (some ⟨g,0,none⟩),.int .u32 x,.int .i64 (p.fac:Int)]).same (hb4.block w2.heap.size (by simp))
  exact⟨rfl,fun o=>⟨hb4'.alloc hb4'.size o,hB.alloc o⟩⟩
 have hhas:=fun W=>Q3l W (s:Int)
 rw [decide_eq_true (show 0<=(s:Int)/\(s:Int)<256 from ⟨by omega,by omega⟩)] at hhas;have hright:=fun W=>Q3m W (m:Int)
 rw [decide_eq_true (show 0<(m:Int)/\(m:Int)<=15 from ⟨by omega,by omega⟩)] at hright;have HHas:=Q0a hhas;have HRight:=Q0a hright;have HN:Hid (∀W g,Below w.heap.size w W->Calls prog 83 #[.pointer (some ⟨Z.s,0,none⟩),.agg #[.pointer (some ⟨g,0,none⟩),.int .u32 x,.int .i64 (p.fac:Int)],.int .i64 s] W fun r w'=>r=.returned (.int .i64 n.id)/\Below w.heap.size w w'/\w'.cell? ⟨Z.s,1,none⟩=some (.pointer (some ⟨Z.F.f,0,none⟩)) /\
   Calls prog 84 #[.pointer (some ⟨Z.F.f,0,none⟩),.int .i64 n.id] w' fun r w5=>∃(a:Option Addr) (cap:Nat),r=.returned (.slice a (Q0B (kdF Z.F.N) (rkF Z.F.next) n.id).length cap) /\
    (self=false->Calls prog 85 #[.pointer (some ⟨Z.s,0,none⟩),.int .i64 m,.slice a (Q0B (kdF Z.F.N) (rkF Z.F.next) n.id).length cap] w5 fun r w6=>∃v:Int,r=.returned (.int .i64 v)/\RevR Z fr N K M x (s:Int) (m:Int) self w (.returned (.tuple #[.int .i64 v,.int .i64 0])) w6) /\
    (self=true->∃(a2:Option Addr) (n2 c2:Nat) (w6:World),(Builtin.append_ #[36,36] 36 #[.slice a (Q0B (kdF Z.F.N) (rkF Z.F.next) n.id).length cap,.slice (some ⟨w5.heap.size,0,none⟩) 1 1]).run prog (w5.alloc (.cells #[.int .i64 n.id] 3))=.ok (.slice a2 n2 c2) w6 /\
     Calls prog 85 #[.pointer (some ⟨Z.s,0,none⟩),.int .i64 m,.slice a2 n2 c2] w6 fun r w7=>∃v:Int,r=.returned (.int .i64 v)/\RevR Z fr N K M x (s:Int) (m:Int) self w (.returned (.tuple #[.int .i64 v,.int .i64 0])) w7)):=fun W g hbW=>by
  have sW:=(hs.grown hbW).sep;refine (Q5R sW ok.fo hx hs2).mono ?_;rw [hown];rintro r w' ⟨rfl,hb'⟩;have hbw':Below w.heap.size w w':=hbW.trans (hb'.mono hbW.size);have s':=(hs.grown hbw').sep;refine⟨rfl,hbw',SP.c1 s',(Q6R s' ok.fo hfn).mono ?_⟩;rintro r w5 ⟨hb5,a,cap,rfl,hout⟩;have hbw5:Below w.heap.size w w5:=hbw'.trans (hb5.mono hbw'.size);have hlen:=Z0T ok.fo hfn self;have fin:∀{w6:World} {v:Value} {L:List Int},L=revL Z.F n.id self->OutI w' w6 v L->∃(a:Option Addr) (cap:Nat),v=.slice a L.length cap/\Calls prog 85 #[.pointer (some ⟨Z.s,0,none⟩),.int .i64 m,.slice a L.length cap] w6 fun r w6=>∃v:Int,r=.returned (.int .i64 v)/\RevR Z fr N K M x (s:Int) (m:Int) self w (.returned (.tuple #[.int .i64 v,.int .i64 0])) w6:=fun {w6 v L} hL ho=>by
   obtain⟨a,cap,rfl,has⟩:=ho.aside s';have hb6:Below w.heap.size w w6:=hbw'.trans (ho.2.mono hbw'.size);refine⟨a,cap,rfl,(Q1X (hs.grown hb6).sep ok m hm1 hm L a cap (by rw [hL];omega) has ?_).mono ?_⟩
   ·rw [hL];exact Q8i (a:=Z.av) ok.fo.n n.id self
   ·rintro r w7 ⟨rfl,Z',k1,k2,k3,k4⟩;rw [hL];rw [hL] at k2;exact⟨_,rfl,.inr ⟨s,m,n,en,rfl,rfl,hs2,hm1,hm,he,hn,n1,n2,rfl,Z',k1,k2,k3,(hs.grown hb6).trans k4⟩⟩
  refine⟨a,cap,rfl,fun hse=>?_,fun hse=>?_⟩
  ·obtain⟨a',cap',hv,hc⟩:=fin (by unfold revL;rw [hse];simp) hout;cases hv;exact hc
  ·have hle:(Q0B (kdF Z.F.N) (rkF Z.F.next) n.id).length<=16777216:=by
    unfold revL at hlen;rw [J1d] at hlen;omega
   obtain⟨v',w6,happ,hout6⟩:=hout.app hle n.id 36;obtain⟨a',cap',rfl,hc⟩:=fin (by unfold revL;rw [hse];simp) hout6;exact⟨a',_,cap',w6,happ,hc⟩
 generalize RevR Z fr N K M x (s:Int) (m:Int) self w=Q at *
 generalize (Q0B (kdF Z.F.N) (rkF Z.F.next) n.id).length=bl at *
 clear hs ok hx hp hk hi hst he hat hlow hn n1 n2 hown hfn hhas hright hm1 hm;go_enter func20,ntmps20;go_wp2_with fail;refine ks.mono ?_;rintro r w2 ⟨g,rfl,hb2,hg⟩;have kc:=HC.out w2 g hb2 hg;clear hb2 hg HC ks;go_wp2_with fail;refine kc.mono ?_;rintro r w4 ⟨rfl,hz⟩;obtain⟨hb4,hB4⟩:=hz (.cells #[.int .u32 (en.h:Int),.int .i64 (en.r:Int)] 35);have kh:=HHas.out (w4.alloc (.cells #[.int .u32 (en.h:Int),.int .i64 (en.r:Int)] 35));have kr:=HRight.out (w4.alloc (.cells #[.int .u32 (en.h:Int),.int .i64 (en.r:Int)] 35));have kn:=HN.out (w4.alloc (.cells #[.int .u32 (en.h:Int),.int .i64 (en.r:Int)] 35)) g hb4
 have b0:=hB4.cell 0 _ rfl;have b1:=hB4.cell 1 _ rfl;have b2:=hB4.cell 2 _ rfl;have HKn:=Q0a kn;clear hz hb4 hB4 kc HHas HRight HN kn;go_wp2_with fail;refine kh.mono ?_;rintro r w' ⟨rfl,rfl⟩;go_wp2_with fail;refine kr.mono ?_;rintro r w' ⟨rfl,rfl⟩;go_wp2_with fail;refine HKn.out.mono ?_;rintro r w5 ⟨rfl,hb5,c5,kb⟩;have HKb:=Q0a kb;clear hb5 kb HKn kh kr;go_wp2_with fail;refine HKb.out.mono ?_;rintro r w6 ⟨a,cap,rfl,h1,h2⟩;have H1:=Q0a h1;have H2:=Q0a h2;clear h1 h2 HKb b0 b1 b2;cases self with
 | false =>
  have kw:=Q0a (H1.out rfl);clear H1 H2;go_wp2_with fail;refine kw.out.mono ?_;rintro r w7 ⟨v,rfl,hq⟩;have HQ:=Q0a hq;clear hq kw;go_wp2_with fail
  first|exact HQ.out|(go_ret2;exact HQ.out)
 | true =>
  obtain⟨a2,n2,c2,w7,happ,kw0⟩:=H2.out rfl;have kw:=Q0a kw0;clear H1 H2 kw0;go_wp2_with (at_builtin;refine Lib.wpList_append_run _ rfl _ _ _ _ rfl _ _ rfl rfl _ _ happ ?_);refine kw.out.mono ?_;rintro r w8 ⟨v,rfl,hq⟩;have HQ:=Q0a hq;clear hq kw;go_wp2_with fail
  first|exact HQ.out|(go_ret2;exact HQ.out)
end Go.Proofs.YtlakjlmaboioiaaGreatDoor
