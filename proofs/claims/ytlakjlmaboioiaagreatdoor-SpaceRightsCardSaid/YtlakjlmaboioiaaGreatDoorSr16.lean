/- SpaceRights returns true at every input. No condition. Part of its proof. -/
import Derived.Test.YtlakjlmaboioiaaGreatDoorSr01
import Derived.Test.YtlakjlmaboioiaaGreatDoorSr15
import Derived.Test.YtlakjlmaboioiaaGreatDoorSr14
import Derived.Test.YtlakjlmaboioiaaGreatDoorSr12
set_option maxHeartbeats 4000000
set_option maxRecDepth 100000
set_option linter.unusedVariables false
namespace Go.Proofs.YtlakjlmaboioiaaGreatDoor
open Go.RowKit Go.Proofs.Tryz
def TblZ (Z:SP) (p:Pl) (g:Nat) (w:World):Prop:=AsideV Z.hl [ptr Z.S.P.p,.int .i64 (p.fac:Int),.int .i64 (p.at_:Int)] (some ⟨g,0,none⟩) w
theorem SP.keyS {Z:SP} {b:Nat} (h:b∈keys Z.S.hl):b∈keys Z.hl:=(Z.permS.map Prod.fst).mem_iff.2 (by rw [J5a];exact J2s _ h)
theorem TblZ.c {Z:SP} {p:Pl} {g:Nat} {w:World} (h:TblZ Z p g w):TblC Z.S p g w:=fun j v hj=>by
 obtain⟨g',e,hk,hl,hc⟩:=h j v hj;exact⟨g',e,fun x=>hk (SP.keyS x),hl,hc⟩
theorem TblZ.step {Z Z':SP} {p:Pl} {g:Nat} {w w':World} (h:TblZ Z p g w) (st:Step Z.hl Z'.hl w w') (hp:Z'.S.P.p=Z.S.P.p):TblZ Z' p g w':=by
 unfold TblZ;rw [hp];exact AsideV.step h st
theorem TblZ.grown {Z:SP} {p:Pl} {g:Nat} {w w':World} (h:TblZ Z p g w) (hs:Sep w Z.hl) (hb:Below w.heap.size w w'):TblZ Z p g w':=h.step (hs.grown hb) rfl
theorem Q8X {w:World} {Z:SP} {fr:List Nat} {N K:Nat} (h:Sep w Z.hl) (ok:Z.S.Ok fr N K) {x:Nat} (hx:x<4294967296) {p:Pl} (hp:pget Z.S.l 1 x=some p) (hk:p.kind=2) :
  Calls prog 73 #[.pointer (some ⟨Z.s,0,none⟩),.int .u32 x] w fun r w'=>∃g:Nat,r=.returned (.tuple #[.agg #[.pointer (some ⟨g,0,none⟩),.int .u32 x,.int .i64 (p.fac:Int)],.int .i64 0])/\Below w.heap.size w w'/\TblZ Z p g w'/\w.heap.size<=g:=by
 have b1:Below w.heap.size w (w.alloc (.cells #[.pointer none,.int .u32 0,.int .i64 0] 155)):=(Below.refl _ _).alloc (J1x _) _;have s1:=(h.grown b1).sep;have c0:=SP.c0 s1;have hO:Calls prog 30 #[.pointer (some ⟨Z.S.c,0,none⟩),.int .u32 x,.int .i64 2] (w.alloc (.cells #[.pointer none,.int .u32 0,.int .i64 0] 155)) (Told (w.alloc (.cells #[.pointer none,.int .u32 0,.int .i64 0] 155)) (.tuple #[.agg #[.int .i64 (p.kind:Int),.int .i64 (p.at_:Int),.int .i64 (p.fac:Int)],.int .i64 0])):=Q2n (SP.sS s1) ok.inv.lok hx 2 hp (.inr (by omega));have hu:p.at_∈Z.S.P.usedOf 2:=Q1G ok (pget_some.1 hp).1 (pget_some.1 hp).2.2 hk
 have HC:Hid (∀w1,Below (w.alloc (.cells #[.pointer none,.int .u32 0,.int .i64 0] 155)).heap.size (w.alloc (.cells #[.pointer none,.int .u32 0,.int .i64 0] 155)) w1 ->
   ((w1.alloc (.cells #[.int .i64 (p.kind:Int),.int .i64 (p.at_:Int),.int .i64 (p.fac:Int)] 69)).cell? ⟨Z.s,0,none⟩=some (.pointer (some ⟨Z.S.c,0,none⟩))/\(w1.alloc (.cells #[.int .i64 (p.kind:Int),.int .i64 (p.at_:Int),.int .i64 (p.fac:Int)] 69)).cell? ⟨w1.heap.size,1,none⟩=some (.int .i64 (p.at_:Int))/\(w1.alloc (.cells #[.int .i64 (p.kind:Int),.int .i64 (p.at_:Int),.int .i64 (p.fac:Int)] 69)).cell? ⟨w1.heap.size,2,none⟩=some (.int .i64 (p.fac:Int))) /\
   ∀w2,Below (w1.alloc (.cells #[.int .i64 (p.kind:Int),.int .i64 (p.at_:Int),.int .i64 (p.fac:Int)] 69)).heap.size (w1.alloc (.cells #[.int .i64 (p.kind:Int),.int .i64 (p.at_:Int),.int .i64 (p.fac:Int)] 69)) w2 ->
    Calls prog 49 #[.pointer (some ⟨Z.S.c,0,none⟩)] w2 (fun r w'=>r=.returned (.pointer (some ⟨Z.S.P.p,0,none⟩))/\w2=w') /\
    Calls prog 161 #[.pointer (some ⟨Z.S.P.p,0,none⟩),.int .i64 (p.fac:Int),.int .i64 (p.at_:Int)] w2 (fun r w'=>(w'.cell? ⟨Z.s,0,none⟩=some (.pointer (some ⟨Z.S.c,0,none⟩))/\w'.cell? ⟨w1.heap.size,1,none⟩=some (.int .i64 (p.at_:Int))/\w'.cell? ⟨w1.heap.size,2,none⟩=some (.int .i64 (p.fac:Int)))/\∃g:Nat,r=.returned (.pointer (some ⟨g,0,none⟩))/\Cells w' w.heap.size 155 [.pointer none,.int .u32 0,.int .i64 0]/\(∀a b c,(((w'.setCell ⟨w.heap.size,0,none⟩ a).setCell ⟨w.heap.size,1,none⟩ b).setCell ⟨w.heap.size,2,none⟩ c).cell? ⟨Z.s,0,none⟩=some (.pointer (some ⟨Z.S.c,0,none⟩))/\(((w'.setCell ⟨w.heap.size,0,none⟩ a).setCell ⟨w.heap.size,1,none⟩ b).setCell ⟨w.heap.size,2,none⟩ c).cell? ⟨w1.heap.size,1,none⟩=some (.int .i64 (p.at_:Int))/\(((w'.setCell ⟨w.heap.size,0,none⟩ a).setCell ⟨w.heap.size,1,none⟩ b).setCell ⟨w.heap.size,2,none⟩ c).cell? ⟨w1.heap.size,2,none⟩=some (.int .i64 (p.fac:Int)))/\∀a b c,Below w.heap.size w (((w'.setCell ⟨w.heap.size,0,none⟩ a).setCell ⟨w.heap.size,1,none⟩ b).setCell ⟨w.heap.size,2,none⟩ c)/\TblZ Z p g (((w'.setCell ⟨w.heap.size,0,none⟩ a).setCell ⟨w.heap.size,1,none⟩ b).setCell ⟨w.heap.size,2,none⟩ c)/\w.heap.size<=g)):=fun w1 hb1=>by
  have hR:=(Cells.new w 155 [.pointer none,.int .u32 0,.int .i64 0]).same (hb1.block w.heap.size (by simp));have hb1':Below w.heap.size w w1:=Q0e hb1;have hb2':=hb1'.alloc hb1'.size (.cells #[.int .i64 (p.kind:Int),.int .i64 (p.at_:Int),.int .i64 (p.fac:Int)] 69);have hO1:=Cells.new w1 69 [.int .i64 (p.kind:Int),.int .i64 (p.at_:Int),.int .i64 (p.fac:Int)];have hlt1:w.heap.size<w1.heap.size:=by have:=hb1.size;simp at this;omega
  have hR2:=hR.alloc (.cells #[.int .i64 (p.kind:Int),.int .i64 (p.at_:Int),.int .i64 (p.fac:Int)] 69);refine⟨⟨SP.c0 (h.grown hb2').sep,hO1.cell 1 _ rfl,hO1.cell 2 _ rfl⟩,fun w2 hb2=>?_⟩;have hbz:Below w.heap.size w w2:=hb2'.trans (hb2.mono (by simp;omega));have s2:=(h.grown hbz).sep;refine⟨Q2b (SP.sS s2),(Z9S (SP.sS s2) ok hu).mono ?_⟩;rintro r w' ⟨g,rfl,hb3,ht,hg⟩;have hO3:=(hO1.same (hb2.block w1.heap.size (by simp))).same (hb3.block w1.heap.size (by have:=hb2.size;simp at this;omega));have hb4:Below w.heap.size w w':=hbz.trans (hb3.mono hbz.size);have hR3:=(hR2.same (hb2.block w.heap.size (by simp;omega))).same (hb3.block w.heap.size (by have:=hb2.size;simp at this;omega))
  refine⟨⟨SP.c0 (h.grown hb4).sep,hO3.cell 1 _ rfl,hO3.cell 2 _ rfl⟩,g,rfl,hR3,fun a b c=>?_,fun a b c=>?_⟩
  ·have hne2:∀(W:World) (i k j:Nat) (u:Value),k≠w.heap.size->(W.setCell ⟨w.heap.size,i,none⟩ u).cell? ⟨k,j,none⟩=W.cell? ⟨k,j,none⟩:=fun W i k j u hk=>World.cell?_of_block (Below.heap_setCell _ _ _ _ (by simpa using hk))
   have hzs:Z.s≠w.heap.size:=fun hx=>by
    have:=h.lt (b:=Z.s) (by simp [SP.hl,SP.head,keys]);omega
   have hw1:w1.heap.size≠w.heap.size:=by omega
   rw [hne2 _ _ _ _ _ hzs,hne2 _ _ _ _ _ hzs,hne2 _ _ _ _ _ hzs,hne2 _ _ _ _ _ hw1,hne2 _ _ _ _ _ hw1,hne2 _ _ _ _ _ hw1,hne2 _ _ _ _ _ hw1,hne2 _ _ _ _ _ hw1,hne2 _ _ _ _ _ hw1];exact⟨SP.c0 (h.grown hb4).sep,hO3.cell 1 _ rfl,hO3.cell 2 _ rfl⟩
  refine⟨((hb4.setCell (J1x _) _).setCell (J1x _) _).setCell (J1x _) _,fun j v hj=>?_,by have:=hb2.size;simp at this;omega⟩;obtain⟨g',e,_,hl,hc⟩:=ht j v hj;obtain rfl:g=g':=by cases e;rfl
  clear e;have hgl:w.heap.size<g:=by have:=hb2.size;simp at this;omega
  refine⟨g,rfl,fun hk=>?_,by simpa using hl,?_⟩
  ·have:=s2.lt hk;omega
  ·have hne:∀(W:World) (i:Nat) (u:Value),(W.setCell ⟨w.heap.size,i,none⟩ u).cell? ⟨g,j,none⟩=W.cell? ⟨g,j,none⟩:=fun W i u=>World.cell?_of_block (Below.heap_setCell _ _ _ _ (by simp;omega))
   rw [hne,hne,hne];exact hc
 clear h ok hp hu b1 s1;have hk2:((p.kind:Nat):Int)=2:=by omega
 rw [hk2] at hO;simp only [hk2] at HC;clear hk2 hk;generalize p.at_=pa at *
 go_enter func73,ntmps73;go_wp2_with fail;refine hO.mono ?_;rintro r w1 ⟨rfl,hb1⟩;obtain⟨⟨c1,c2,c3⟩,hcc⟩:=HC.out w1 hb1;have HCC:=Q0a hcc;have d1:(w1.alloc (.cells #[.int .i64 2,.int .i64 pa,.int .i64 (p.fac:Int)] 69)).drew.cell? ⟨Z.s,0,none⟩=some (.pointer (some ⟨Z.S.c,0,none⟩)):=c1;have d2:(w1.alloc (.cells #[.int .i64 2,.int .i64 pa,.int .i64 (p.fac:Int)] 69)).drew.cell? ⟨w1.heap.size,1,none⟩=some (.int .i64 pa):=c2;have d3:(w1.alloc (.cells #[.int .i64 2,.int .i64 pa,.int .i64 (p.fac:Int)] 69)).drew.cell? ⟨w1.heap.size,2,none⟩=some (.int .i64 (p.fac:Int)):=c3;clear hb1 hcc HC hO;go_wp2_with fail
 have kmem:=(HCC.out _ ((Below.refl _ _).drew)).1;have kat:=(HCC.out _ ((Below.refl _ _).drew)).2;have HAt:=Q0a kat;clear kat HCC
 go_region_held3 (fun w'=>w'.cell? ⟨Z.s,0,none⟩=some (.pointer (some ⟨Z.S.c,0,none⟩))/\w'.cell? ⟨w1.heap.size,1,none⟩=some (.int .i64 pa)/\w'.cell? ⟨w1.heap.size,2,none⟩=some (.int .i64 (p.fac:Int))) (first|exact⟨c1,c2,c3⟩|exact⟨d1,d2,d3⟩|exact hcell|exact hcell2 _ _ _)
  (first|(go_at_call 49;refine kmem.mono ?_;rintro r w' ⟨rfl,rfl⟩)|(go_at_call 161;refine HAt.out.mono ?_;rintro r w3 ⟨hcell,g,rfl,hres,hcell2,hz⟩;have HZ:=Q0a hz;have e0:=hres.cell 0 _ rfl;have e1:=hres.cell 1 _ rfl;have e2:=hres.cell 2 _ rfl;have f0:=hres.free 0;have f1:=hres.free 1;have f2:=hres.free 2;have hlt:=hres.lt;clear hz hres HAt))
 go_wp2_with fail;refine bodyPost_ret (v:=.tuple #[.agg #[.pointer (some ⟨g,0,none⟩),.int .u32 x,.int .i64 (p.fac:Int)],.int .i64 0]) (by simp [results,results73,go_sem,e0,e1,e2]) rfl ⟨g,rfl,HZ.out _ _ _⟩
theorem Q0T {w:World} {Z:SP} {fr:List Nat} {N K:Nat} (h:Sep w Z.hl) (ok:Z.S.Ok fr N K) {x:Nat} (hx:x<4294967296) {p:Pl} (hp:pget Z.S.l 1 x=some p) (hk:p.kind=2) :
  Calls prog 73 #[.pointer (some ⟨Z.s,0,none⟩),.int .u32 x] w fun r w'=>∃g:Nat,r=.returned (.tuple #[.agg #[.pointer (some ⟨g,0,none⟩),.int .u32 x,.int .i64 (p.fac:Int)],.int .i64 0])/\Below w.heap.size w w'/\TblZ Z p g w':=
 (Q8X h ok hx hp hk).mono fun r w' ⟨g,h1,h2,h3,_⟩=>⟨g,h1,h2,h3⟩
theorem Q7j {w:World} {Z:SP} (h:Sep w Z.hl) {x:Nat} {e:Int} (he:e≠0) (hO:Calls prog 30 #[.pointer (some ⟨Z.S.c,0,none⟩),.int .u32 x,.int .i64 2] (w.alloc (.cells #[.pointer none,.int .u32 0,.int .i64 0] 155)) (Told (w.alloc (.cells #[.pointer none,.int .u32 0,.int .i64 0] 155)) (.tuple #[.agg #[.int .i64 0,.int .i64 0,.int .i64 0],.int .i64 e]))) :
  Calls prog 73 #[.pointer (some ⟨Z.s,0,none⟩),.int .u32 x] w (Told w (.tuple #[.agg #[.pointer none,.int .u32 0,.int .i64 0],.int .i64 e])):=by
 have b1:Below w.heap.size w (w.alloc (.cells #[.pointer none,.int .u32 0,.int .i64 0] 155)):=(Below.refl _ _).alloc (J1x _) _;have c0:=SP.c0 (h.grown b1).sep;have hnb:(e==0)=false:=by simpa using he
 have HC:Hid (∀w1,Below (w.alloc (.cells #[.pointer none,.int .u32 0,.int .i64 0] 155)).heap.size (w.alloc (.cells #[.pointer none,.int .u32 0,.int .i64 0] 155)) w1->(∀o,Cells (w1.alloc o) w.heap.size 155 [.pointer none,.int .u32 0,.int .i64 0])/\∀o a b c,Below w.heap.size w ((((w1.alloc o).setCell ⟨w.heap.size,0,none⟩ a).setCell ⟨w.heap.size,1,none⟩ b).setCell ⟨w.heap.size,2,none⟩ c)):=fun w1 hb1=>by
  have hR:=(Cells.new w 155 [.pointer none,.int .u32 0,.int .i64 0]).same (hb1.block w.heap.size (by simp));exact⟨hR.alloc,fun o a b c=>((((Q0e hb1).alloc (Q0e hb1).size o).setCell (J1x _) _).setCell (J1x _) _).setCell (J1x _) _⟩
 clear h b1;go_enter func73,ntmps73;go_wp2_with fail;refine hO.mono ?_;rintro r w1 ⟨rfl,hb1⟩;obtain⟨hres0,hz⟩:=HC.out w1 hb1;have hres:=hres0 (.cells #[.int .i64 0,.int .i64 0,.int .i64 0] 69);have HZ:=Q0a hz;have e0:=hres.cell 0 _ rfl;have e1:=hres.cell 1 _ rfl;have e2:=hres.cell 2 _ rfl;have f0:=hres.free 0;have f1:=hres.free 1;have f2:=hres.free 2;have hlt:=hres.lt;clear hb1 hz hres hres0 HC hO;go_wp2_with fail;refine bodyPost_ret (v:=.tuple #[.agg #[.pointer none,.int .u32 0,.int .i64 0],.int .i64 e]) (by simp [results,results73,go_sem,e0,e1,e2]) rfl ⟨rfl,HZ.out _ _ _ _⟩
theorem Q0I {w:World} {Z:SP} {fr:List Nat} {N K:Nat} (h:Sep w Z.hl) (ok:Z.S.Ok fr N K) {x:Nat} (hx:x<4294967296) (e:Int) (hw:(pget Z.S.l 1 x=none/\e=8)∨∃p,pget Z.S.l 1 x=some p/\p.kind≠2/\e=10) :
  Calls prog 73 #[.pointer (some ⟨Z.s,0,none⟩),.int .u32 x] w (Told w (.tuple #[.agg #[.pointer none,.int .u32 0,.int .i64 0],.int .i64 e])):=by
 have s1:=(h.grown ((Below.refl w.heap.size w).alloc (J1x _) (.cells #[.pointer none,.int .u32 0,.int .i64 0] 155))).sep;rcases hw with ⟨hp,rfl⟩|⟨p,hp,hk,rfl⟩
 ·exact Q7j h (by decide) (Q4F (SP.sS s1) ok.inv.lok hx 2 hp)
 ·exact Q7j h (by decide) (Q3j (SP.sS s1) ok.inv.lok hx 2 hp (by decide) (by omega))
def Z9U (Z:SP) (fr:List Nat) (N K:Nat) (own:Int) (i s:Nat) (o:Option Ent) (w w':World):Prop:=∃S' t',TurnP Z.S fr N K Z.tb own i s o S' t'/\Step Z.hl (Z.setS S' (updT Z.tb i t')).hl w w'
def WhyL (Z:SP) (fr:List Nat) (own:Int) (i s:Nat) (er:Int):Prop:=
 (er=5/\∃e,find Z.S.P.q.E own=some e/\Q0v e<48)∨(er=4/\NoRoom Z.S.P 6) ∨
 ∃a P1,GetOk Z.S.P fr own 6 a P1/\(Z.tb i).lf (s/16)=0/\((er=5/\∃e,find P1.q.E own=some e/\Q0v e<256)∨(er=4/\NoRoom P1 7))
def LayR (Z:SP) (fr:List Nat) (N K:Nat) (own:Int) (i s h r:Nat) (w:World) (er:Int) (w':World):Prop:=
 (er=0/\∃nd,Z9U Z fr N K own i s (some ⟨h,r,nd⟩) w w')∨((er=4∨er=5)/\WhyL Z fr own i s er/\∃P',Tried Z.S.P fr Z.S.l P'/\Step Z.hl (Z.setS (Z.S.setP P') Z.tb).hl w w')
theorem Z1y {S:CO} {fr:List Nat} {N K:Nat} {tb:Nat->TB} {own:Int} {xl xn xn':List Nat} (ok:S.Ok fr N K) (t:TPX S tb own xl xn) {i s:Nat} {p:Pl} (hi:S.l[i]?=some p) (h1:p.st=1) (h2:p.kind=2) (hown:(p.fac:Int)=own) (hs:s<256) {e:Ent} (hn:(xn'++((tb i).setE s (some e)).nds).Perm (xn++(tb i).nds))
  (hA:Q0s (some e)<18446744073709551616) (hB:Q0U (some e)<18446744073709551616) {w:World} {g:Nat} (hsep:Sep w S.hl) (hg:TblC S p g w) :
  Calls prog 104 #[.pointer (some ⟨g,0,none⟩),.int .i64 s,.int .u64 (Q0s (some e):Nat),.int .u64 (Q0U (some e):Nat)] w (SetR S fr N K tb own xl xn' i s (some e) w):=by
 by_cases hl:(tb i).lf (s/16)=0
 ·obtain⟨ac,hac⟩:=Q8M ok hi h1;rw [hown] at hac;exact Z7J ok t hi h1 h2 hown hs hl hac hn hA hB hsep hg
 ·exact Z7I ok t hi h1 h2 hown hs hl hn hA hB hsep hg
theorem Put1.turn {S:CO} {fr:List Nat} {N K:Nat} {tb:Nat->TB} {own:Int} {i s:Nat} {o:Option Ent} {w w':World} (h:Put1 S fr N K tb own [] [] i s o w w') (hf:∀j,j<256->(tb j).Full):J0M S fr N K tb own i s o w w':=by
 obtain⟨S',t',ok,t,en,full,lf,al,st⟩:=h;refine⟨S',t',⟨ok,t.done fun j hj=>?_,en,lf,al⟩,st⟩;by_cases e:j=i
 ·subst e;rw [updT_same];exact full (hf j hj)
 ·rw [Q0V e];exact hf j hj
theorem TurnP.after {S S1:CO} {fr:List Nat} {N K:Nat} {tb:Nat->TB} {own:Int} {i s:Nat} {o:Option Ent} {S':CO} {t':TB} (al:Alt S S1 own) (h:TurnP S1 fr N K tb own i s o S' t'):TurnP S fr N K tb own i s o S' t':=⟨h.ok,h.tpi,h.en,h.lf,al.trans h.alt⟩
structure BoxL (Z:SP) (g x f h r B:Nat) (w:World):Prop where
 x:AsideV Z.hl [.pointer (some ⟨g,0,none⟩),.int .u32 x,.int .i64 f] (some ⟨B,0,none⟩) w
 c:AsideV Z.hl [.int .u32 h,.int .i64 r] (some ⟨B+1,0,none⟩) w
theorem BoxL.step {Z Z':SP} {g x f h r B:Nat} {w w':World} (b:BoxL Z g x f h r B w) (st:Step Z.hl Z'.hl w w'):BoxL Z' g x f h r B w':=⟨b.x.step st,b.c.step st⟩
theorem AsideV.at {H:HL} {cs:List Value} {b:Nat} {w:World} (h:AsideV H cs (some ⟨b,0,none⟩) w) (j:Nat) (v:Value) (hj:cs[j]?=some v):w.cell? ⟨b,j,none⟩=some v:=by
 obtain⟨g,e,_,_,hc⟩:=h j v hj;cases e;exact hc
def HeldL (Z:SP) (g f h r B:Nat) (w':World):Prop:=w'.cell? ⟨Z.s,0,none⟩=some (.pointer (some ⟨Z.S.c,0,none⟩))/\w'.cell? ⟨B,0,none⟩=some (.pointer (some ⟨g,0,none⟩))/\w'.cell? ⟨B,2,none⟩=some (.int .i64 f)/\w'.cell? ⟨B+1,0,none⟩=some (.int .u32 h)/\w'.cell? ⟨B+1,1,none⟩=some (.int .i64 r)
theorem BoxL.held {Z:SP} {g x f h r B:Nat} {w:World} (b:BoxL Z g x f h r B w) (hs:Sep w Z.hl):HeldL Z g f h r B w:=⟨SP.c0 hs,b.x.at 0 _ rfl,b.x.at 2 _ rfl,b.c.at 0 _ rfl,b.c.at 1 _ rfl⟩
theorem HeldL.grown {Z:SP} {g f h r B:Nat} {w w':World} (b:HeldL Z g f h r B w) (hb:Below w.heap.size w w'):HeldL Z g f h r B w':=by
 obtain⟨a1,a2,a3,a4,a5⟩:=b;have k:∀{p:Addr} {v:Value},w.cell? p=some v->w'.cell? p=some v:=fun {p v} e=>(hb.cell (World.block_lt_of_cell? w p e)).trans e
 exact⟨k a1,k a2,k a3,k a4,k a5⟩
theorem Z5G {w w1:World} {Z:SP} {fr:List Nat} {N K:Nat} (hs:Sep w Z.hl) (hb:Below w.heap.size w w1) (ok:Z.S.Ok fr N K) (t:TPI Z.S Z.tb) {i s x g B h r:Nat} {p:Pl} (hi:Z.S.l[i]?=some p) (h1:p.st=1) (h2:p.kind=2) (hs2:s<256) (h0:(Z.tb i).en s=none) (hh:h<4294967295) (hr:r<16)
  (hg:TblZ Z p g w1) (hbx:BoxL Z g x p.fac h r B w1) :
  Calls prog 65 #[.pointer (some ⟨Z.S.P.p,0,none⟩),.int .i64 (p.fac:Int),.int .i64 6] w1 fun rv w2=>HeldL Z g p.fac h r B w2/\∃a er:Int,rv=.returned (.tuple #[.int .i64 a,.int .i64 er]) /\
   (((er=4∨er=5)/\LayR Z fr N K p.fac i s h r w er w2) ∨
    ∃A:Nat,a=(A:Int)/\er=0/\A<=1073741824/\∀w3,Below w2.heap.size w2 w3 ->
    Calls prog 104 #[.pointer (some ⟨g,0,none⟩),.int .i64 s,.int .u64 ((⟨h,r,0⟩:Ent).a:Nat),.int .u64 A] w3 fun rv w4=>HeldL Z g p.fac h r B w4/\∃er:Int,rv=.returned (.int .i64 er) /\
     ((er=0/\LayR Z fr N K p.fac i s h r w 0 w4)∨((er=4∨er=5)/\∀w5,Below w4.heap.size w4 w5 ->
      Calls prog 49 #[.pointer (some ⟨Z.S.c,0,none⟩)] w5 (fun r w'=>r=.returned (.pointer (some ⟨Z.S.P.p,0,none⟩))/\w5=w') /\
      Calls prog 159 #[.pointer (some ⟨Z.S.P.p,0,none⟩),.int .i64 (p.fac:Int),.int .i64 6,.int .i64 A] w5 fun rv w6=>rv=.returned (.int .i64 0)/\HeldL Z g p.fac h r B w6/\LayR Z fr N K p.fac i s h r w er w6))):=by
 have s1:=(hs.grown hb).sep;have hc6:Q1g 6=48:=costs_67.1;have hown':∃q∈Z.S.l,q.st=1/\(q.fac:Int)=(p.fac:Int):=⟨p,J3L hi,h1,rfl⟩
 have hi256:=Q1o ok.inv.len hi;refine (Q5w (CO.sP (SP.sS s1)) ok.inv.mem.pool (p.fac:Int) 6).mono ?_;rintro rv w2 hgp;have zstep:∀{P':PL},P'.p=Z.S.P.p->Step Z.S.P.hl P'.hl w1 w2->Step Z.hl (Z.setS (Z.S.setP P') Z.tb).hl w w2:=fun {P'} e st=>(hs.grown hb).trans (SP.stepS s1 _ _ rfl (CO.stepP (SP.sS s1) P' e st))
 rcases hgp with ⟨h0',_⟩|⟨_,hno,_⟩|⟨_,⟨e,he,hlow⟩,rfl,st⟩|⟨n,ac,hk,h1n,h7n,hac,hpay,hrr⟩
 ·rw [hc6] at h0';omega
 ·obtain⟨e,he⟩:=Q8M ok hi h1;rw [hno] at he;cases he
 ·have st':=zstep rfl st;refine⟨(hbx.step (SP.stepS s1 _ _ rfl (CO.stepP (SP.sS s1) Z.S.P rfl st))).held st'.sep,0,5,rfl,.inl ⟨.inr rfl,.inr ⟨.inr rfl,.inl ⟨rfl,e,he,?_⟩,Z.S.P,Tried.refl ok.inv.mem.pool _,st'⟩⟩⟩;rw [hc6] at hlow;exact hlow
 ·obtain rfl:n=6:=by omega
  rcases hrr with ⟨A,P1,rfl,g6,st⟩|⟨hno,rfl,st⟩
  ·have hst1:Step Z.hl (Z.setS (Z.S.setP P1) Z.tb).hl w w2:=zstep g6.p st;obtain⟨ok1,t1⟩:=TPX.got ok (t.x (p.fac:Int)) (.inl rfl) g6 hown';rw [if_neg (by decide),if_pos rfl] at t1;have al1:=Alt.got ok g6;have st1:Step Z.hl (Z.setS (Z.S.paid P1 (p.fac:Int) ((Q0c 6:Nat):Int)) Z.tb).hl w w2:=hst1;have hAu:A∈P1.usedOf 6:=by
    obtain⟨X,Y,_,e2⟩:=g6.used;rw [e2];simp
   have hAm:=Q0m ok1.inv.mem.pool hAu;have hbm:=Q0p ok1.inv.mem.pool;have hAm1:A+Q0c 6<=P1.a.mem.length:=hAm.1;have hbm1:P1.a.mem.length<=1073741824:=hbm;have hbx1:BoxL (Z.setS (Z.S.paid P1 (p.fac:Int) ((Q0c 6:Nat):Int)) Z.tb) g x p.fac h r B w2:=hbx.step (Z':=Z.setS (Z.S.paid P1 (p.fac:Int) ((Q0c 6:Nat):Int)) Z.tb) (SP.stepS s1 _ _ rfl (CO.stepP (SP.sS s1) P1 g6.p st));have hg1:TblZ (Z.setS (Z.S.paid P1 (p.fac:Int) ((Q0c 6:Nat):Int)) Z.tb) p g w2:=hg.step (Z':=Z.setS (Z.S.paid P1 (p.fac:Int) ((Q0c 6:Nat):Int)) Z.tb) (SP.stepS s1 _ _ rfl (CO.stepP (SP.sS s1) P1 g6.p st)) g6.p;refine⟨hbx1.held st1.sep,(A:Int),0,rfl,.inr ⟨A,rfl,rfl,by omega,fun w3 hb3=>?_⟩⟩
   have st3:=st1.trans (st1.sep.grown hb3);have hg3:=(hg1.grown st1.sep hb3).c;have hbx3:=hbx1.step (st1.sep.grown hb3);have hperm:([]++((Z.tb i).setE s (some ⟨h,r,A⟩)).nds).Perm ([A]++(Z.tb i).nds):=TB.nds_set hs2 (e:=⟨h,r,A⟩) h0;have hAlt:Q0s (some (⟨h,r,A⟩:Ent))<18446744073709551616:=by
    show h+1+4294967296*r<_;omega
   refine (Z1y ok1 t1 (show (Z.S.paid P1 (p.fac:Int) ((Q0c 6:Nat):Int)).l[i]?=some p from hi) h1 h2 rfl hs2 hperm hAlt (by show A<_;omega) (SP.sS st3.sep) hg3).mono ?_;rintro rv w4 (⟨rfl,hput⟩|⟨hlf,st,hwhy⟩)
   ·obtain⟨S',t',T,stt⟩:=hput.turn t.full;have T0:=T.after al1;have stz:Step Z.hl (Z.setS S' (updT Z.tb i t')).hl w w4:=st3.trans (SP.stepS st3.sep S' (updT Z.tb i t') (T.alt.c) stt);refine⟨?_,0,rfl,.inl ⟨rfl,.inl ⟨rfl,A,S',t',T0,stz⟩⟩⟩;have hb4:=hbx3.step (SP.stepS st3.sep S' (updT Z.tb i t') T.alt.c stt);have:=hb4.held stz.sep;exact⟨by rw [<- T0.alt.c];exact this.1,this.2⟩
   ·have st4:Step Z.hl (Z.setS (Z.S.paid P1 (p.fac:Int) ((Q0c 6:Nat):Int)) Z.tb).hl w w4:=st3.trans (SP.stepS st3.sep _ _ rfl st);have hbx4:=hbx3.step (SP.stepS st3.sep (Z.S.paid P1 (p.fac:Int) ((Q0c 6:Nat):Int)) Z.tb rfl st);have hres:∃er:Int,rv=.returned (.int .i64 er)/\(er=4∨er=5)/\WhyL Z fr p.fac i s er:=by
     rcases hwhy with ⟨hno,rfl⟩|⟨⟨e,he,hlow⟩,rfl⟩
     ·exact⟨4,rfl,.inl rfl,.inr (.inr ⟨A,P1,g6,hlf,.inr ⟨rfl,hno⟩⟩)⟩
     ·exact⟨5,rfl,.inr rfl,.inr (.inr ⟨A,P1,g6,hlf,.inl ⟨rfl,e,he,hlow⟩⟩)⟩
    obtain⟨er,rfl,her,hw⟩:=hres;refine⟨hbx4.held st4.sep,er,rfl,.inr ⟨her,fun w5 hb5=>?_⟩⟩;have st5:=st4.trans (st4.sep.grown hb5);have hbx5:=hbx4.step (st4.sep.grown hb5);have km:=Q2b (SP.sS st5.sep);have hpp:(Z.S.paid P1 (p.fac:Int) ((Q0c 6:Nat):Int)).P.p=Z.S.P.p:=g6.p;refine⟨?_,?_⟩
    ·have:=km;rw [show ((Z.setS (Z.S.paid P1 (p.fac:Int) ((Q0c 6:Nat):Int)) Z.tb).S.P.p)=Z.S.P.p from g6.p] at this;exact this
    obtain⟨ac1,hac1⟩:=Q8M ok1 (show (Z.S.paid P1 (p.fac:Int) ((Q0c 6:Nat):Int)).l[i]?=some p from hi) h1;have hpd:=t1.paid ok1 hac1;rw [J3W,J5y] at hpd;obtain⟨c,hc⟩:=PL.cls ok1.inv.mem.pool (by omega:1<=6) (by omega);have kp:=Q4r (CO.sP (SP.sS st5.sep)) ok1.inv.mem.pool (p.fac:Int) hac1 6 (by rw [Q4X];omega) c hc A (by rw [<- Q0S hc];exact hAu) (by omega);rw [show ((Z.setS (Z.S.paid P1 (p.fac:Int) ((Q0c 6:Nat):Int)) Z.tb).S.P.p)=Z.S.P.p from g6.p] at kp;refine kp.mono ?_;rintro rv w6 ⟨rfl,P2,b6,stp⟩;have tr:Tried Z.S.P fr Z.S.l P2:=(g6.gotM ok.inv.mem.pool).back ok.inv.mem (b6.backM ok1.inv.mem.pool)
    have stz:Step Z.hl (Z.setS (Z.S.setP P2) Z.tb).hl w w6:=st5.trans (SP.stepS st5.sep _ _ rfl (CO.stepP (SP.sS st5.sep) P2 b6.p stp));have hbx6:=hbx5.step (Z':=Z.setS (Z.S.setP P2) Z.tb) (SP.stepS st5.sep _ _ rfl (CO.stepP (SP.sS st5.sep) P2 b6.p stp));exact⟨rfl,hbx6.held stz.sep,.inr ⟨her,hw,P2,tr,stz⟩⟩
  ·have st':=zstep rfl st;exact⟨(hbx.step (SP.stepS s1 _ _ rfl (CO.stepP (SP.sS s1) Z.S.P rfl st))).held st'.sep,0,4,rfl,.inl ⟨.inl rfl,.inr ⟨.inl rfl,.inr (.inl ⟨rfl,hno⟩),Z.S.P,Tried.refl ok.inv.mem.pool _,st'⟩⟩⟩
theorem Q6l (w:World) (h r:Nat) (hh:h<4294967295) (hr:r<16):Calls prog 105 #[.agg #[.int .u32 h,.int .i64 r]] w (Told w (.int .u64 ((⟨h,r,0⟩:Ent).a:Nat))):=by
 have hn:=Z7W h r hh hr;have hA:=Cells.new w 35 [.int .u32 h,.int .i64 r];have a0:=hA.cell 0 _ rfl;have a1:=hA.cell 1 _ rfl;have hb:Below w.heap.size w (w.alloc (.cells #[.int .u32 h,.int .i64 r] 35)):=(Below.refl _ _).alloc (J1x _) _;have HB:=Q0a hb;have hh1:(0:Int)<=(h:Int)/\(h:Int)<4294967295:=by omega
 have hr1:(0:Int)<=(r:Int)/\(r:Int)<16:=by omega
 obtain⟨q1,q2⟩:=hh1;obtain⟨q3,q4⟩:=hr1;generalize ((⟨h,r,0⟩:Ent).a:Nat)=z at *
 clear hA hb hh hr;go_enter func105,ntmps105;go_wp2_with fail
 first|exact⟨rfl,HB.out⟩|(go_ret;exact⟨rfl,HB.out⟩)
theorem Q7U {w:World} {Z:SP} {fr:List Nat} {N K:Nat} (hs:Sep w Z.hl) (ok:Z.S.Ok fr N K) (t:TPI Z.S Z.tb) {i s x g h r:Nat} {p:Pl} (hi:Z.S.l[i]?=some p) (h1:p.st=1) (h2:p.kind=2) (hs2:s<256) (h0:(Z.tb i).en s=none) (hh:h<4294967295) (hr:r<16) (hg:TblZ Z p g w) :
  Calls prog 78 #[.pointer (some ⟨Z.s,0,none⟩),.agg #[.pointer (some ⟨g,0,none⟩),.int .u32 x,.int .i64 (p.fac:Int)],.int .i64 s,.agg #[.int .u32 h,.int .i64 r]] w fun rv w'=>∃er:Int,rv=.returned (.int .i64 er)/\LayR Z fr N K p.fac i s h r w er w':=by
 have hb:Below w.heap.size w ((w.alloc (.cells #[.pointer (some ⟨g,0,none⟩),.int .u32 x,.int .i64 (p.fac:Int)] 155)).alloc (.cells #[.int .u32 h,.int .i64 r] 35)):=((Below.refl _ _).alloc (J1x _) _).alloc (by simp) _;have hbx:BoxL Z g x p.fac h r w.heap.size ((w.alloc (.cells #[.pointer (some ⟨g,0,none⟩),.int .u32 x,.int .i64 (p.fac:Int)] 155)).alloc (.cells #[.int .u32 h,.int .i64 r] 35)):=by
  refine⟨fun j v hj=>⟨w.heap.size,rfl,fun hk=>by have:=hs.lt hk;omega,by simp;omega,?_⟩,fun j v hj=>⟨w.heap.size+1,rfl,fun hk=>by have:=hs.lt hk;omega,by simp,?_⟩⟩
  ·exact ((Cells.new w 155 [.pointer (some ⟨g,0,none⟩),.int .u32 x,.int .i64 (p.fac:Int)]).alloc _).cell j v hj
  ·have:=(Cells.new (w.alloc (.cells #[.pointer (some ⟨g,0,none⟩),.int .u32 x,.int .i64 (p.fac:Int)] 155)) 35 [.int .u32 h,.int .i64 r]).cell j v hj
   simpa using this
 have HCh:Hid (∀w1,Below ((w.alloc (.cells #[.pointer (some ⟨g,0,none⟩),.int .u32 x,.int .i64 (p.fac:Int)] 155)).alloc (.cells #[.int .u32 h,.int .i64 r] 35)).heap.size ((w.alloc (.cells #[.pointer (some ⟨g,0,none⟩),.int .u32 x,.int .i64 (p.fac:Int)] 155)).alloc (.cells #[.int .u32 h,.int .i64 r] 35)) w1->HeldL Z g p.fac h r w.heap.size w1/\Calls prog 49 #[.pointer (some ⟨Z.S.c,0,none⟩)] w1 (fun r w'=>r=.returned (.pointer (some ⟨Z.S.P.p,0,none⟩))/\w1=w')/\_):=fun w1 hb1=>by
  have hb':Below w.heap.size w w1:=hb.trans (hb1.mono (by simp;omega));have s0:=(hs.grown hb).sep;have hbx1:=hbx.step (s0.grown hb1);have s1:=(hs.grown hb').sep;exact⟨hbx1.held s1,Q2b (SP.sS s1),Z5G hs hb' ok t hi h1 h2 hs2 h0 hh hr (hg.grown hs hb') hbx1⟩
 have hheld:=(HCh.out _ (Below.refl _ _)).1;have hheldd:=(HCh.out _ ((Below.refl _ _).drew)).1;have kmem:=(HCh.out _ ((Below.refl _ _).drew)).2.1;have kget:=(HCh.out _ ((Below.refl _ _).drew)).2.2;have HGet:=Q0a kget;have HPk:Hid (∀w,Calls prog 105 #[.agg #[.int .u32 h,.int .i64 r]] w (Told w (.int .u64 ((⟨h,r,0⟩:Ent).a:Nat)))):=fun w=>Q6l w h r hh hr
 clear HCh hbx hb hs ok t hi h1 h2 h0 hg kget;generalize LayR Z fr N K p.fac i s h r w=Q at *
 unfold HeldL at hheld hheldd;go_enter func78,ntmps78;go_wp2_with fail
 go_region_held3 (fun w'=>w'.cell? ⟨Z.s,0,none⟩=some (.pointer (some ⟨Z.S.c,0,none⟩))/\w'.cell? ⟨w.heap.size,0,none⟩=some (.pointer (some ⟨g,0,none⟩))/\w'.cell? ⟨w.heap.size,2,none⟩=some (.int .i64 (p.fac:Int))/\w'.cell? ⟨w.heap.size+1,0,none⟩=some (.int .u32 h)/\w'.cell? ⟨w.heap.size+1,1,none⟩=some (.int .i64 r)) (first|exact hheld|exact hheldd|exact hcell)
  (first|(go_at_call 49;refine kmem.mono ?_;rintro r w' ⟨rfl,rfl⟩)|(go_at_call 65;refine HGet.out.mono ?_;rintro r w2 ⟨hcell,a,er,rfl,hy⟩;have HY:=Q0a hy;clear hy HGet))
 rcases HY.out with ⟨her,hq⟩|⟨A,rfl,rfl,hA,hy⟩
 ·have HQ:=Q0a hq;clear hq HY hheld hheldd kmem HPk hcell;rcases her with rfl|rfl
  all_goals
   go_wp2_with fail
   first|exact⟨_,rfl,HQ.out⟩|(go_ret;exact⟨_,rfl,HQ.out⟩)
 ·have HS:=Q0a hy;have hA0:(0:Int)<=(A:Int):=by omega
  have hA1:(A:Int)<=1073741824:=by omega
  have hwu:IntKind.u64.wrap (A:Int)=(A:Int):=by rw [IntKind.wrap_u64];omega
  have hwi:IntKind.i64.wrap (A:Int)=(A:Int):=Go.IntWalk.i64_in _ (by omega);have hcd:HeldL Z g p.fac h r w.heap.size w2.drew:=hcell;generalize ((⟨h,r,0⟩:Ent).a:Nat)=za at *
  clear hy HY hheld hheldd kmem hA;unfold HeldL at hcell hcd;go_wp2_with fail
  go_region_held3 (fun w'=>w'.cell? ⟨Z.s,0,none⟩=some (.pointer (some ⟨Z.S.c,0,none⟩))/\w'.cell? ⟨w.heap.size,0,none⟩=some (.pointer (some ⟨g,0,none⟩))/\w'.cell? ⟨w.heap.size,2,none⟩=some (.int .i64 (p.fac:Int))/\w'.cell? ⟨w.heap.size+1,0,none⟩=some (.int .u32 h)/\w'.cell? ⟨w.heap.size+1,1,none⟩=some (.int .i64 r)) (first|exact hcell|exact hcd|exact hc3|exact hc4)
   (first|(go_at_call 105;refine (HPk.out _).mono ?_;rintro r w3 ⟨rfl,hb3⟩;have hc3:=HeldL.grown hcd hb3;have HB3:=Q0a hb3;clear hb3 HPk)|(go_at_call 104;refine (HS.out _ (((Below.refl w2.heap.size w2).drew).trans HB3.out)).mono ?_;rintro r w4 ⟨hc4,er,rfl,hz⟩;have HZ:=Q0a hz;clear hz HS))
  rcases HZ.out with ⟨rfl,hq⟩|⟨her,hy⟩
  ·have HQ:=Q0a hq;clear hq HZ hcell hcd hc3 hc4;go_wp2_with fail
   first|exact⟨_,rfl,HQ.out⟩|(go_ret;exact⟨_,rfl,HQ.out⟩)
  ·have hcd4:HeldL Z g p.fac h r w.heap.size w4.drew:=hc4;have kmem:=(hy _ ((Below.refl _ _).drew)).1;have HP:=Q0a (hy _ ((Below.refl _ _).drew)).2;have hnb:(er==0)=false:=by rcases her with rfl|rfl <;> rfl
   clear hy HZ hcell hcd hc3 her;unfold HeldL at hc4 hcd4;go_wp2_with fail
   go_region_held3 (fun w'=>w'.cell? ⟨Z.s,0,none⟩=some (.pointer (some ⟨Z.S.c,0,none⟩))/\w'.cell? ⟨w.heap.size,0,none⟩=some (.pointer (some ⟨g,0,none⟩))/\w'.cell? ⟨w.heap.size,2,none⟩=some (.int .i64 (p.fac:Int))/\w'.cell? ⟨w.heap.size+1,0,none⟩=some (.int .u32 h)/\w'.cell? ⟨w.heap.size+1,1,none⟩=some (.int .i64 r)) (first|exact hc4|exact hcd4|exact hc6)
    (first|(go_at_call 49;refine kmem.mono ?_;rintro r w' ⟨rfl,rfl⟩)|(go_at_call 159;refine HP.out.mono ?_;rintro r w6 ⟨rfl,hc6,hq⟩;have HQ:=Q0a hq;clear hq HP))
   go_wp2_with fail
   first|exact⟨_,rfl,HQ.out⟩|(go_ret;exact⟨_,rfl,HQ.out⟩)
def Z5H (Z:SP) (g f B:Nat) (w':World):Prop:=w'.cell? ⟨Z.s,0,none⟩=some (.pointer (some ⟨Z.S.c,0,none⟩))/\w'.cell? ⟨B,0,none⟩=some (.pointer (some ⟨g,0,none⟩))/\w'.cell? ⟨B,2,none⟩=some (.int .i64 f)
theorem Z2D {w w1:World} {Z:SP} {fr:List Nat} {N K:Nat} (hs:Sep w Z.hl) (hb:Below w.heap.size w w1) (ok:Z.S.Ok fr N K) (t:TPI Z.S Z.tb) {i s x g B:Nat} {p:Pl} {e:Ent} (hi:Z.S.l[i]?=some p) (h1:p.st=1) (h2:p.kind=2) (hs2:s<256) (he:(Z.tb i).en s=some e)
  (hg:TblZ Z p g w1) (hbx:AsideV Z.hl [.pointer (some ⟨g,0,none⟩),.int .u32 x,.int .i64 (p.fac:Int)] (some ⟨B,0,none⟩) w1) :
  Calls prog 165 #[.pointer (some ⟨g,0,none⟩),.int .i64 s] w1 fun rv w2=>rv=.returned (.int .i64 0)/\Z5H Z g p.fac B w2/\e.nd<=1073741824/\∀w3,Below w2.heap.size w2 w3 ->
   Calls prog 49 #[.pointer (some ⟨Z.S.c,0,none⟩)] w3 (fun r w'=>r=.returned (.pointer (some ⟨Z.S.P.p,0,none⟩))/\w3=w') /\
   Calls prog 159 #[.pointer (some ⟨Z.S.P.p,0,none⟩),.int .i64 (p.fac:Int),.int .i64 6,.int .i64 (e.nd:Int)] w3 fun rv w4=>rv=.returned (.int .i64 0)/\Z5H Z g p.fac B w4/\Z9U Z fr N K p.fac i s none w w4:=by
 have s1:=(hs.grown hb).sep;have hown':∃q∈Z.S.l,q.st=1/\(q.fac:Int)=(p.fac:Int):=⟨p,J3L hi,h1,rfl⟩
 have hi256:=Q1o ok.inv.len hi;refine (Z2u ok (t.x (p.fac:Int)) hi h1 h2 rfl hs2 he (SP.sS s1) hg.c).mono ?_;rintro rv w2 ⟨rfl,S1,t',ok1,t1,en,full,lf,al,st⟩;have st1z:=SP.stepS s1 S1 (updT Z.tb i t') al.c st;have st1:Step Z.hl (Z.setS S1 (updT Z.tb i t')).hl w w2:=(hs.grown hb).trans st1z;have hbx1:=AsideV.step hbx st1z;have hnu:e.nd∈S1.P.usedOf 6:=t1.nds.mem_iff.1 (by simp);have hm:=Q0m ok1.inv.mem.pool hnu;have hbm:=Q0p ok1.inv.mem.pool;have hheld:∀{w3:World} {Z':SP},Z'.s=Z.s->Z'.S.c=Z.S.c->Sep w3 Z'.hl->AsideV Z'.hl [.pointer (some ⟨g,0,none⟩),.int .u32 x,.int .i64 (p.fac:Int)] (some ⟨B,0,none⟩) w3->Z5H Z g p.fac B w3:=fun {w3 Z'} e1 e2 hz hx=>by
  have:=SP.c0 hz;rw [e1,e2] at this;exact⟨this,hx.at 0 _ rfl,hx.at 2 _ rfl⟩
 refine⟨rfl,hheld (Z':=Z.setS S1 (updT Z.tb i t')) rfl al.c st1.sep hbx1,by omega,fun w3 hb3=>?_⟩;have st3:=st1.trans (st1.sep.grown hb3);have hbx3:=AsideV.step hbx1 (st1.sep.grown hb3);have hi1:S1.l[i]?=some p:=by rw [al.l];exact hi
 have km:=Q2b (SP.sS st3.sep);have hpp:(Z.setS S1 (updT Z.tb i t')).S.P.p=Z.S.P.p:=al.same.p;have hcc:(Z.setS S1 (updT Z.tb i t')).S.c=Z.S.c:=al.c;rw [hpp,hcc] at km;refine⟨km,?_⟩;obtain⟨ac1,hac1⟩:=Q8M ok1 hi1 h1;have hpd:=t1.paid ok1 hac1;rw [J3W,J5y] at hpd;obtain⟨c,hc⟩:=PL.cls ok1.inv.mem.pool (by omega:1<=6) (by omega);have kp:=Q4r (CO.sP (SP.sS st3.sep)) ok1.inv.mem.pool (p.fac:Int) hac1 6 (by rw [Q4X];omega) c hc e.nd (by rw [<- Q0S hc];exact hnu) (by omega);rw [hpp] at kp;refine kp.mono ?_;rintro rv w4 ⟨rfl,P2,b6,stp⟩;have hown1:∃q∈S1.l,q.st=1/\(q.fac:Int)=(p.fac:Int):=by rw [al.l];exact hown'
 obtain⟨ok2,t2⟩:=TPX.put (xl:=[]) (xn:=[]) ok1 (.inl rfl) (by rw [if_neg (by decide),if_pos rfl];exact t1) b6 hown1;have al2:=al.trans (Alt.put ok1 b6);have stz:Step (Z.setS S1 (updT Z.tb i t')).hl ((Z.setS S1 (updT Z.tb i t')).setS (S1.paid P2 (p.fac:Int) (-((Q0c 6:Nat):Int))) (updT Z.tb i t')).hl w3 w4:=SP.stepS st3.sep _ _ rfl (CO.stepPaid (SP.sS st3.sep) P2 (p.fac:Int) _ b6.p stp);have stf:Step Z.hl (Z.setS (S1.paid P2 (p.fac:Int) (-((Q0c 6:Nat):Int))) (updT Z.tb i t')).hl w w4:=st3.trans stz;refine⟨rfl,hheld (Z':=Z.setS (S1.paid P2 (p.fac:Int) (-((Q0c 6:Nat):Int))) (updT Z.tb i t')) rfl al2.c stf.sep (AsideV.step hbx3 stz),_,t',⟨ok2,t2.done fun j hj=>?_,en,lf,al2⟩,stf⟩
 by_cases ej:j=i
 ·subst ej;rw [updT_same];exact full (t.full j hj)
 ·rw [Q0V ej];exact t.full j hj
theorem Q4I {w:World} {Z:SP} {fr:List Nat} {N K:Nat} (hs:Sep w Z.hl) (ok:Z.S.Ok fr N K) (t:TPI Z.S Z.tb) {i s x g:Nat} {p:Pl} {e:Ent} (hi:Z.S.l[i]?=some p) (h1:p.st=1) (h2:p.kind=2) (hs2:s<256) (he:(Z.tb i).en s=some e) (hg:TblZ Z p g w) :
  Calls prog 81 #[.pointer (some ⟨Z.s,0,none⟩),.agg #[.pointer (some ⟨g,0,none⟩),.int .u32 x,.int .i64 (p.fac:Int)],.int .i64 s] w fun rv w'=>rv=.returned (.tuple #[])/\Z9U Z fr N K p.fac i s none w w':=by
 have hb:Below w.heap.size w (w.alloc (.cells #[.pointer (some ⟨g,0,none⟩),.int .u32 x,.int .i64 (p.fac:Int)] 155)):=(Below.refl _ _).alloc (J1x _) _;have hbx:AsideV Z.hl [.pointer (some ⟨g,0,none⟩),.int .u32 x,.int .i64 (p.fac:Int)] (some ⟨w.heap.size,0,none⟩) (w.alloc (.cells #[.pointer (some ⟨g,0,none⟩),.int .u32 x,.int .i64 (p.fac:Int)] 155)):=fun j v hj=>⟨w.heap.size,rfl,fun hk=>by have:=hs.lt hk;omega,by simp,(Cells.new w 155 [.pointer (some ⟨g,0,none⟩),.int .u32 x,.int .i64 (p.fac:Int)]).cell j v hj⟩
 have T1:=(t.x (p.fac:Int)).tt ok hi h1 h2 (SP.sS (hs.grown hb).sep) (hg.grown hs hb).c;have kg:=Q3F T1 (s:Int);rw [show (Z.tb i).at' (s:Int)=some e by unfold TB.at';rw [if_pos ⟨by omega,by omega⟩,J2C,he]] at kg;have kc:=Z2D hs hb ok t hi h1 h2 hs2 he (hg.grown hs hb) hbx;have HK:=Q0a kc;have b0:=hbx.at 0 _ rfl;unfold getV Q0U at kg;generalize Q0s (some e)=ca at *
 clear hb hs ok t hi h1 h2 he hg T1 kc hbx;go_enter func81,ntmps81;go_wp2_with fail;refine kg.mono ?_;rintro r w1 ⟨rfl,rfl⟩;go_wp2_with fail;refine HK.out.mono ?_;rintro r w2 ⟨rfl,hcell,hnd,hy⟩;have kmem:=(hy _ ((Below.refl _ _).drew)).1;have HP:=Q0a (hy _ ((Below.refl _ _).drew)).2;clear hy HK kg;have hcelld:Z5H Z g p.fac w.heap.size w2.drew:=hcell;generalize e.nd=nd at *
 have hn0:(0:Int)<=(nd:Int)/\(nd:Int)<=1073741824:=by omega
 obtain⟨n0,n1⟩:=hn0;have hwu:IntKind.u64.wrap (nd:Int)=(nd:Int):=by rw [IntKind.wrap_u64];omega
 have hwi:IntKind.i64.wrap (nd:Int)=(nd:Int):=Go.IntWalk.i64_in _ (by omega);unfold Z5H at hcell hcelld;go_wp2_with fail
 go_region_held3 (fun w'=>w'.cell? ⟨Z.s,0,none⟩=some (.pointer (some ⟨Z.S.c,0,none⟩))/\w'.cell? ⟨w.heap.size,0,none⟩=some (.pointer (some ⟨g,0,none⟩))/\w'.cell? ⟨w.heap.size,2,none⟩=some (.int .i64 (p.fac:Int))) (first|exact hcell|exact hcelld|exact hcell2)
  (first|(go_at_call 49;refine kmem.mono ?_;rintro r w' ⟨rfl,rfl⟩)|(go_at_call 159;refine HP.out.mono ?_;rintro r w4 ⟨rfl,hcell2,hq⟩;have HQ:=Q0a hq;clear hq HP))
 go_wp2_with fail
 first|exact⟨rfl,HQ.out⟩|(go_end0;exact⟨rfl,HQ.out⟩)
theorem Z9V {N:List (En Nd)} (hs:N.Pairwise (fun a b=>(a.q.sp,a.q.sl)≠(b.q.sp,b.q.sl))) (hids:N.Pairwise (fun a b=>a.id≠b.id)) {id:Int} {e:En Nd} (hf:find N id=some e):delS (okv N) (e.q.sp,e.q.sl)=okv (rem N id):=by
 obtain⟨A,B,hN,_,hr⟩:=Q2X hids hf;rw [hr];rw [hN,J2k,J1Y] at hs;obtain⟨_,⟨hB,_⟩,hA⟩:=hs
 conv=>lhs;rw [hN]
 unfold delS okv;rw [J5a,J1A,J3u,J5I,J5a];have a1:List.filter (fun q=>decide (q.1≠(e.q.sp,e.q.sl))) (A.map fun e=>((e.q.sp,e.q.sl),Value.int .i64 e.id))=A.map fun e=>((e.q.sp,e.q.sl),Value.int .i64 e.id):=by
  rw [J5E];intro x hx;obtain⟨c,hc,rfl⟩:=J1D.1 hx;show decide ((c.q.sp,c.q.sl)≠(e.q.sp,e.q.sl))=true;exact decide_eq_true (hA c hc e (by simp))
 have a2:List.filter (fun q=>decide (q.1≠(e.q.sp,e.q.sl))) (B.map fun e=>((e.q.sp,e.q.sl),Value.int .i64 e.id))=B.map fun e=>((e.q.sp,e.q.sl),Value.int .i64 e.id):=by
  rw [J5E];intro x hx;obtain⟨c,hc,rfl⟩:=J1D.1 hx;show decide ((c.q.sp,c.q.sl)≠(e.q.sp,e.q.sl))=true;exact decide_eq_true (hB c hc).symm
 rw [a1,a2,if_neg (by simp)]
def FO.cut (q:FO) (id:Int):FO:={q with N:=rem q.N id}
theorem FO.cut_perm {q:FO} (hids:q.N.Pairwise (fun a b=>a.id≠b.id)) {id:Int} {e:En Nd} (hf:find q.N id=some e) :
  (q.head::(q.m,isMI (kvs (rem q.N id)))::(q.o,isMS (okv (rem q.N id)))::q.N.flatMap (ndH q.kr)).Perm ((q.cut id).hl++ndH q.kr e):=by
 obtain⟨A,B,hN,_,hr⟩:=Q2X hids hf;have e1:(q.cut id).hl=q.head::(q.m,isMI (kvs (rem q.N id)))::(q.o,isMS (okv (rem q.N id)))::(A.flatMap (ndH q.kr)++B.flatMap (ndH q.kr)):=by
  show q.head::(q.m,isMI (kvs (rem q.N id)))::(q.o,isMS (okv (rem q.N id)))::(rem q.N id).flatMap (ndH q.kr)=_;rw [hr,J2f]
 have e2:q.N.flatMap (ndH q.kr)=A.flatMap (ndH q.kr)++(ndH q.kr e++B.flatMap (ndH q.kr)):=by
  conv=>lhs;rw [hN]
  rw [J2f,J1U]
 rw [e1,e2];simp only [J3I];refine List.Perm.cons _ (List.Perm.cons _ (List.Perm.cons _ ?_));rw [J2x];exact J4m _ J4k
theorem FO.spots_ok {q:FO} (hn:∀e∈q.N,0<=e.q.sp/\e.q.sp<4294967296/\0<=e.q.sl/\e.q.sl<256):∀p∈okv q.N,Q1H prog 46 p.1:=fun p hp=>by
 obtain⟨c,hc,rfl⟩:=J1D.1 hp;obtain⟨h1,h2,h3,h4⟩:=hn c hc;exact Q3k (p:=(c.q.sp,c.q.sl)) h1 (by show c.q.sp<_;omega) h3 (by show c.q.sl<_;omega)
theorem FO.okv_nd {N:List (En Nd)} (hs:N.Pairwise (fun a b=>(a.q.sp,a.q.sl)≠(b.q.sp,b.q.sl))):(okv N).Pairwise (fun a b=>a.1≠b.1):=by
 unfold okv;exact J2c.2 hs
theorem FO.delSteps {w:World} {q:FO} (h:Sep w q.hl) (hids:q.N.Pairwise (fun a b=>a.id≠b.id)) (hs:q.N.Pairwise (fun a b=>(a.q.sp,a.q.sl)≠(b.q.sp,b.q.sl))) (hn:∀e∈q.N,0<=e.q.sp/\e.q.sp<4294967296/\0<=e.q.sl/\e.q.sl<256)
  {id:Int} {e:En Nd} (hf:find q.N id=some e) (t1 t2 t3 t4:TypeId) :
  ∃w3,(Builtin.delete_ #[279,t1] t2 #[.map (some q.m),.int .i64 id]).run prog w=.ok (.tuple #[]) w3/\Step q.hl (q.head::(q.m,isMI (kvs (rem q.N id)))::(q.o,isMS (okv q.N))::q.N.flatMap (ndH q.kr)) w w3 /\
   ∀w3',Below w3.heap.size w3 w3'->∃w4,(Builtin.delete_ #[280,t3] t4 #[.map (some q.o),.agg #[.int .i64 e.q.sp,.int .i64 e.q.sl]]).run prog w3'=.ok (.tuple #[]) w4/\Step q.hl ((q.cut id).hl++ndH q.kr e) w w4:=by
 obtain⟨hem,heid⟩:=Q0b hf;obtain⟨w3,r3,m3,g3⟩:=Q3O (FO.map h) id t1 t2 underlying279 underlying3;rw [Q7A] at m3;obtain⟨es,clock,ho,hr⟩:=m3;have s3:=Sep.turn (A:=[q.head]) (B:=(q.o,isMS (okv q.N))::q.N.flatMap (ndH q.kr)) (q':=isMI (kvs (rem q.N id))) h g3 ⟨_,ho,es,clock,rfl,hr⟩;refine⟨w3,r3,s3,fun w3' hb=>?_⟩;have s3':=s3.trans (s3.sep.grown hb);have m3':Q3g w3' q.o (okv q.N):=s3'.sep.map (by simp [isMS]);have hse:=hn e hem;obtain⟨w4,r4,m4,g4⟩:=Q5Z m3' Z0j (FO.okv_nd hs) (FO.spots_ok hn) (Q3k (p:=(e.q.sp,e.q.sl)) hse.1 (by show e.q.sp<_;omega) hse.2.2.1 (by show e.q.sl<_;omega)) t3 t4 underlying280
 rw [Z9V hs hids hf] at m4;obtain⟨es4,clock4,ho4,hr4⟩:=m4;have s4:=Sep.turn (A:=[q.head,(q.m,isMI (kvs (rem q.N id)))]) (B:=q.N.flatMap (ndH q.kr)) (q':=isMS (okv (rem q.N id))) s3'.sep g4 ⟨_,ho4,es4,clock4,rfl,hr4⟩;exact⟨w4,r4,(s3'.trans s4).perm (J4Q _) (FO.cut_perm hids hf)⟩
theorem Z1z (f:En Nd->Nd):∀(N:List (En Nd)) (id:Int),rem (mapE f N) id=mapE f (rem N id)
 | [],_=>rfl
 | c::r,id=>by
  show rem ({c with q:=f c}::mapE f r) id=mapE f (rem (c::r) id);unfold rem;show (if id=c.id then mapE f r else {c with q:=f c}::rem (mapE f r) id)=_;rw [Z1z f r id];split <;> rfl
theorem Q8Y {N:List (En Nd)} (hids:N.Pairwise (fun a b=>a.id≠b.id)) {c p:En Nd} {id:Int} (hc:c∈N) (hi:c.id=id) (hp:find N id=some p):c=p:=by
 have:=Q0j hids hc;rw [hi,hp] at this;exact (J2u this).symm
def cutK (p:Nd) (id:Int):Nd:={p with ks:=p.ks.filter fun k=>decide (k≠id)}
theorem Z7Y {N:List (En Nd)} (hids:N.Pairwise (fun a b=>a.id≠b.id)) {e p:En Nd} (hp:find N e.q.par=some p) :
  rem (mapE (fun c=>if c.id=e.q.par then cutK p.q e.id else c.q) N) e.id=Q0B N e 0:=by
 rw [Z1z];unfold Q0B;refine Q4Y fun c hc=>?_
 have hcN:=Q7B hc;unfold Q0t;rw [J4W];by_cases h:c.id=e.q.par
 ·have:=Q8Y hids hcN h hp;subst this;simp [h,cutK]
 ·simp [h]
theorem Z5I {N:List (En Nd)} {e:En Nd} (h:∀c∈N,c.id≠e.q.par):rem N e.id=Q0B N e 0:=by
 unfold Q0B;rw [Z0c];intro c hc;have:=h c (Q7B hc);unfold Q0t;simp [this]
theorem Q6m {N:List (En Nd)} (hids:N.Pairwise (fun a b=>a.id≠b.id)) (e:En Nd) (j:Nat):(Q0B N e j).Pairwise (fun a b=>a.id≠b.id):=Q2a (fun _ _ h=>h) (hids.sublist (Q1y N e.id))
theorem Q6n {N:List (En Nd)} (hids:N.Pairwise (fun a b=>a.id≠b.id)) (e:En Nd) (j:Nat) (id:Int):find (Q0B N e j) id=if id=e.id then none else (find N id).map fun c=>{c with q:=Q0t e j c}:=by
 unfold Q0B;rw [Q1p,Q2i hids];split <;> rfl
theorem Z5J {N:List (En Nd)} (hids:N.Pairwise (fun a b=>a.id≠b.id)) {e:En Nd} {j:Nat} {k:Int} (hk:e.q.ks[j]?=some k) (hnd:e.q.ks.Nodup) {c p:En Nd} (hc:find (Q0B N e j) k=some c) (hkp:k≠e.q.par)
  (hp:find (mapE (fun d=>if d.id=k then {c.q with par:=e.q.par} else d.q) (Q0B N e j)) e.q.par=some p) :
  mapE (fun d=>if d.id=e.q.par then {p.q with ks:=p.q.ks++[k]} else d.q) (mapE (fun d=>if d.id=k then {c.q with par:=e.q.par} else d.q) (Q0B N e j))=Q0B N e (j+1):=by
 have hids2:=Q6m hids e j;obtain⟨hcm,hcid⟩:=Q0b hc;rw [Q6a];unfold Q0B at hids2 hc hp hcm ⊢;rw [Q6a];refine Q4Y fun d hd=>?_
 have htk:e.q.ks.take (j+1)=e.q.ks.take j++[k]:=by
  rw [J3t,hk];rfl
 have hdm:({d with q:=Q0t e j d}:En Nd)∈mapE (Q0t e j) (rem N e.id):=J1D.2 ⟨d,hd,rfl⟩;by_cases h1:d.id=e.q.par
 ·have h2:d.id≠k:=fun h=>hkp (by rw [<- h,h1])
  have hpe:p={d with q:=Q0t e j d}:=by
   have hx:find (mapE (fun d=>if d.id=k then {c.q with par:=e.q.par} else d.q) (mapE (Q0t e j) (rem N e.id))) d.id=some ({d with q:=Q0t e j d}:En Nd):=by
    rw [Q1p];have:=Q0j hids2 hdm;simp only at this;rw [this];simp only [J3l,if_neg h2]
   exact (J2u (hx.symm.trans ((congrArg (find _) h1).trans hp))).symm
  simp only [h1,if_true];rw [hpe];have h3:¬e.q.par=k:=fun h=>hkp h.symm
  unfold Q0t;simp only [h1,if_true,htk,J2l,J3E,h3,or_false,J2x]
 ·simp only [h1,if_false];by_cases h2:d.id=k
  ·simp only [h2,if_true];have hcd:c={d with q:=Q0t e j d}:=Q8Y hids2 hdm h2 hc |>.symm;rw [hcd];have h3:¬k=e.q.par:=hkp;unfold Q0t;simp only [h2,h3,if_false,htk,J2l,J3E,or_true,if_true]
  ·simp only [h2,if_false];unfold Q0t;simp only [h1,if_false,htk,J2l,J3E,h2,or_false]
theorem Z2E {N:List (En Nd)} (hids:N.Pairwise (fun a b=>a.id≠b.id)) {e:En Nd} {j:Nat} {k:Int} (hk:e.q.ks[j]?=some k) {c:En Nd} (hc:find (Q0B N e j) k=some c) (hno:∀d∈N,d.id≠e.q.par) :
  mapE (fun d=>if d.id=k then {c.q with par:=e.q.par} else d.q) (Q0B N e j)=Q0B N e (j+1):=by
 have hids2:=Q6m hids e j;unfold Q0B at hids2 hc ⊢;rw [Q6a];refine Q4Y fun d hd=>?_
 have htk:e.q.ks.take (j+1)=e.q.ks.take j++[k]:=by
  rw [J3t,hk];rfl
 have hdm:({d with q:=Q0t e j d}:En Nd)∈mapE (Q0t e j) (rem N e.id):=J1D.2 ⟨d,hd,rfl⟩;have h1:=hno d (Q7B hd);by_cases h2:d.id=k
 ·simp only [h2,if_true];have hcd:c={d with q:=Q0t e j d}:=Q8Y hids2 hdm h2 hc |>.symm;rw [hcd];have h3:¬k=e.q.par:=h2 ▸ h1;unfold Q0t;simp only [h3,if_false,htk,J2l,J3E,h2,or_true,if_true]
 ·simp only [h2,if_false];unfold Q0t;simp only [h1,if_false,htk,J2l,J3E,h2,or_false]
structure Z2F (q:FO) (e:En Nd) (j:Nat) (F:FO):Prop where
 f:F.f=q.f
 m:F.m=q.m
 o:F.o=q.o
 N:F.N=Q0B q.N e j
 next:F.next=q.next
 rv:∀c∈F.N,rvOk (F.kr c.id) c.q.ks.length
theorem Z7Z {N:List (En Nd)} {next:Int} (ok:NOk N next) {a b:En Nd} (ha:a∈N) (hb:b∈N) (hne:a.id≠b.id):a.q.ks.length+b.q.ks.length<=N.length:=by
 have hnd:(a.q.ks++b.q.ks).Nodup:=by
  rw [J2q];refine⟨ok.nd a ha,ok.nd b hb,fun x hx y hy hxy=>?_⟩;subst hxy;obtain⟨c,hc,h1⟩:=ok.kids a ha x hx;obtain⟨d,hd,h2⟩:=ok.kids b hb x hy;rw [hc] at hd;cases hd;exact hne (h1.symm.trans h2)
 have:=J5L hnd (l₂:=N.map En.id) (fun k hk=>by
  rcases J2l.1 hk with hk|hk
  ·obtain⟨c,hc,_⟩:=ok.kids a ha k hk;obtain⟨c1,c2⟩:=Q0b hc;exact J1D.2 ⟨c,c1,c2⟩
  ·obtain⟨c,hc,_⟩:=ok.kids b hb k hk;obtain⟨c1,c2⟩:=Q0b hc;exact J1D.2 ⟨c,c1,c2⟩)
 rwa [J2h,J3g] at this
theorem Z5K {F:FO} {id:Int} {c:En Nd} (hids:F.N.Pairwise (fun a b=>a.id≠b.id)) (hf:find F.N id=some c) (h:∀c∈F.N,rvOk (F.kr c.id) c.q.ks.length) {n:Nd} {rv:RV} (hn:rvOk rv n.ks.length):∀d∈(F.setN id n rv).N,rvOk ((F.setN id n rv).kr d.id) d.q.ks.length:=fun d hd=>by
 obtain⟨d0,hd0,rfl⟩:=Q1q (show d∈mapE _ F.N from hd);show rvOk (if d0.id=id then rv else F.kr d0.id) (if d0.id=id then n else d0.q).ks.length;split
 ·exact hn
 ·exact h d0 hd0
theorem Q7k {wr:World} {q F:FO} {e:En Nd} {j:Nat} {k:Int} (ok:q.Ok) (he:find q.N e.id=some e) (L:Z2F q e j F) (hs:Sep wr (F.hl++ndH q.kr e)) (hj:e.q.ks[j]?=some k) :
  ∃c,find F.N k=some c/\(wr.cell? ⟨F.f,0,none⟩=some (.map (some F.m))/\wr.cell? ⟨e.b,2,none⟩=some (.int .i64 e.q.par)/\wr.frozen? ⟨c.b,2,none⟩=false/\∃v,wr.cell? ⟨c.b,2,none⟩=some v) /\
   (Instr.lookup 279 (.map (some F.m)) (.int .i64 k) false).run prog wr=.ok (.pointer (some ⟨c.b,0,none⟩)) wr /\
   ((wr.setCell ⟨c.b,2,none⟩ (.int .i64 e.q.par)).cell? ⟨e.b,2,none⟩=some (.int .i64 e.q.par)) /\
   ∀W1,Below (wr.setCell ⟨c.b,2,none⟩ (.int .i64 e.q.par)).heap.size (wr.setCell ⟨c.b,2,none⟩ (.int .i64 e.q.par)) W1 ->
    (find q.N e.q.par=none->Calls prog 162 #[.pointer (some ⟨F.f,0,none⟩),.int .i64 e.q.par] W1 (fun r w'=>r=.returned (.pointer none)/\W1=w') /\
     ∃F',Z2F q e (j+1) F'/\Step (F.hl++ndH q.kr e) (F'.hl++ndH q.kr e) wr W1) /\
    (find q.N e.q.par≠none->∃(pb:Nat) (V:Value),Calls prog 162 #[.pointer (some ⟨F.f,0,none⟩),.int .i64 e.q.par] W1 (fun r w'=>r=.returned (.pointer (some ⟨pb,0,none⟩))/\W1=w')/\W1.cell? ⟨pb,3,none⟩=some V/\(∃a n c,V=.slice a n c) /\
     ∃(V':Value) (w':World),(Builtin.append_ #[36,36] 36 #[V,.slice (some ⟨W1.heap.size,0,none⟩) 1 1]).run prog (W1.alloc (.cells #[.int .i64 k] 3))=.ok V' w'/\(∃a n c,V'=.slice a n c)/\w'.cell? ⟨pb,3,none⟩=some V/\(∀i,w'.frozen? ⟨pb,i,none⟩=false) /\
      ∃F',Z2F q e (j+1) F'/\Step (F.hl++ndH q.kr e) (F'.hl++ndH q.kr e) wr (w'.setCell ⟨pb,3,none⟩ V')):=by
 obtain⟨hem,_⟩:=Q0b he;have hkm:k∈e.q.ks:=J3L hj;obtain⟨d,hd,hdp⟩:=ok.n.kids e hem k hkm;obtain⟨hdm,hdid⟩:=Q0b hd;have hr1:=ok.n.rise d hdm;have hr2:=ok.n.rise e hem;have hke:k≠e.id:=by omega
 have hkp:k≠e.q.par:=by omega
 have hidsF:F.N.Pairwise (fun a b=>a.id≠b.id):=by rw [L.N];exact Q6m ok.n.ids e j
 have hfc:find F.N k=some {d with q:=Q0t e j d}:=by rw [L.N,Q6n ok.n.ids,if_neg hke,hd];rfl
 generalize hc:({d with q:=Q0t e j d}:En Nd)=c at hfc;obtain⟨hcm,hcid⟩:=Q0b hfc;have hsF:=hs.left;have hce:=hs.right;have hcells:Cells wr e.b 287 (e.q.cells (q.kr e.id)):=hce.cells (by simp [ndH]);obtain⟨R,p1,p2⟩:=FO.split hidsF hfc;have hcc:=(hsF.perm p1).cells (b:=c.b) (T:=287) (cs:=c.q.cells (F.kr k)) (by simp);have hset:=Sep.set (A:=[]) (B:=rowH (F.kr k) 3 1 (c.q.ks.map encI)++R) (hsF.perm p1) 2 (.int .i64 e.q.par);have hcl:(c.q.cells (F.kr k)).set 2 (.int .i64 e.q.par)=Nd.cells {c.q with par:=e.q.par} (F.kr k):=rfl;rw [hcl] at hset;have stF:Step F.hl (F.setN k {c.q with par:=e.q.par} (F.kr k)).hl wr (wr.setCell ⟨c.b,2,none⟩ (.int .i64 e.q.par)):=hset.perm p1.symm (p2 {c.q with par:=e.q.par} (F.kr k) rfl rfl).symm
 have st1:Step (F.hl++ndH q.kr e) ((F.setN k {c.q with par:=e.q.par} (F.kr k)).hl++ndH q.kr e) wr (wr.setCell ⟨c.b,2,none⟩ (.int .i64 e.q.par)):=by
  have:=Step.frame [] (ndH q.kr e) (by simpa using hs) stF
  simpa using this
 have hcells1:Cells (wr.setCell ⟨c.b,2,none⟩ (.int .i64 e.q.par)) e.b 287 (e.q.cells (q.kr e.id)):=st1.sep.right.cells (by simp [ndH]);refine⟨c,hfc,⟨FO.c0 hsF,hcells.cell 2 _ rfl,hcc.free 2,_,hcc.cell 2 _ rfl⟩,FO.look_some hsF hfc,hcells1.cell 2 _ rfl,fun W1 hW=>?_⟩;have st1':=st1.trans (st1.sep.grown hW);have hsF1:Sep W1 (F.setN k {c.q with par:=e.q.par} (F.kr k)).hl:=st1'.sep.left;have hids1:(F.setN k {c.q with par:=e.q.par} (F.kr k)).N.Pairwise (fun a b=>a.id≠b.id):=Q2a (fun _ _ h=>h) hidsF;have hrvc:=L.rv c hcm;rw [hcid] at hrvc;have hrv1:=Z5K hidsF hfc L.rv (n:={c.q with par:=e.q.par}) (rv:=F.kr k) hrvc
 have hkr1:∀i,(F.setN k {c.q with par:=e.q.par} (F.kr k)).kr i=F.kr i:=fun i=>by
  show (if i=k then F.kr k else F.kr i)=F.kr i;split
  ·rename_i h;rw [h]
  ·rfl
 have find1:∀id,find (F.setN k {c.q with par:=e.q.par} (F.kr k)).N id=(find F.N id).map fun d=>{d with q:=if d.id=k then {c.q with par:=e.q.par} else d.q}:=fun id=>Q1p _ _ _
 refine⟨fun hno=>?_,fun hyes=>?_⟩
 ·have hf0:find (F.setN k {c.q with par:=e.q.par} (F.kr k)).N e.q.par=none:=by
   rw [find1,L.N,Q6n ok.n.ids,hno];split <;> rfl
  refine⟨Q4G hsF1 hf0,F.setN k {c.q with par:=e.q.par} (F.kr k),⟨L.f,L.m,L.o,?_,L.next,hrv1⟩,st1'⟩;show mapE _ F.N=_;rw [L.N];exact Z2E ok.n.ids hj (by rw [<- L.N];exact hfc) fun d hd h=>by
   have:=Q0j ok.n.ids hd;rw [h,hno] at this;cases this
 ·obtain⟨p0,hp0⟩:=Option.ne_none_iff_exists'.1 hyes;obtain⟨hp0m,hp0id⟩:=Q0b hp0;have hpe:e.q.par≠e.id:=by omega
  have hfp:find (F.setN k {c.q with par:=e.q.par} (F.kr k)).N e.q.par=some {p0 with q:=Q0t e j p0}:=by
   rw [find1,L.N,Q6n ok.n.ids,if_neg hpe,hp0];simp only [J3l,J1L];rw [hp0id,if_neg (fun h=>hkp h.symm)]
  generalize hp:({p0 with q:=Q0t e j p0}:En Nd)=p at hfp;obtain⟨hpm,hpid⟩:=Q0b hfp;have hrvp:=hrv1 p hpm;rw [hpid] at hrvp;have htwo:=Z7Z ok.n hp0m hem (by omega);have hfew:=ok.few;have hlen:p.q.ks.length<=65536:=by
   rw [<- hp];show (Q0t e j p0).ks.length<=_;unfold Q0t;simp only;split
   ·rw [J2h,J3Q];have:=J3M (fun k=>decide (k≠e.id)) p0.q.ks;omega
   ·omega
  obtain⟨rv',w',r5,hrv',k3,kf,st5⟩:=FO.pushK hsF1 hids1 hfp hrvp hlen k 36;have c3:=(FO.nd hsF1 hfp).cell 3 (lvOf ((F.setN k {c.q with par:=e.q.par} (F.kr k)).kr p.id) p.q.ks.length) rfl;rw [hpid] at c3;have lvs:∀(rv:RV) (n:Nat),∃a n' c,lvOf rv n=.slice a n' c:=fun rv n=>by
   cases rv with
   | none=>exact⟨_,_,_,rfl⟩
   | some p=>exact⟨_,_,_,rfl⟩
  refine⟨p.b,_,Q2O hsF1 hfp,c3,lvs _ _,_,w',r5,?_,k3,kf,(F.setN k {c.q with par:=e.q.par} (F.kr k)).setN e.q.par {p.q with ks:=p.q.ks++[k]} rv',⟨L.f,L.m,L.o,?_,L.next,?_⟩,?_⟩
  ·cases rv' with
   | none=>exact⟨_,_,_,rfl⟩
   | some p=>exact⟨_,_,_,rfl⟩
  ·show mapE _ (mapE _ F.N)=_;have hx:=Z5J ok.n.ids (e:=e) (j:=j) (k:=k) hj (ok.n.nd e hem) (c:=c) (p:=p) (by rw [<- L.N];exact hfc) hkp (by rw [<- L.N];exact hfp);rw [L.N];exact hx
  ·exact Z5K hids1 hfp hrv1 (n:={p.q with ks:=p.q.ks++[k]}) (by rw [J2h,J5y];exact hrv')
  ·have:=Step.frame [] (ndH q.kr e) (by simpa using st1'.sep) st5;exact st1'.trans (by simpa using this)
end Go.Proofs.YtlakjlmaboioiaaGreatDoor
