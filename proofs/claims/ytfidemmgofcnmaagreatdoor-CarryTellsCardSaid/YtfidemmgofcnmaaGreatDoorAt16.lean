/- What the laws of spaces share is proved. No condition. Part of a proof. -/
import Derived.Test.YtfidemmgofcnmaaGreatDoorAt15
set_option maxHeartbeats 4000000
set_option maxRecDepth 100000
set_option linter.unusedVariables false
namespace Go.Proofs.YtfidemmgofcnmaaGreatDoor
open Go.RowKit Go.Proofs.Tryz
def TblZ(Z:SP)(p:Pl)(g:Nat)(w:World):Prop:=AsideV Z.hl [ptr Z.S.P.p,.int .i64 (p.fac:Int),.int .i64 (p.at_:Int)] (some ⟨g,0,none⟩) w
theorem SP.keyS{Z:SP}{b:Nat}(h:b∈keys Z.S.hl):b∈keys Z.hl:=(Z.permS.map Prod.fst).mem_iff.2 (by rw[J4Z];exact J2s _ h)
theorem TblZ.c{Z:SP}{p:Pl}{g:Nat}{w:World}(h:TblZ Z p g w):TblC Z.S p g w:=fun j v hj=>by
 obtain⟨g',e,hk,hl,hc⟩:=h j v hj;exact⟨g',e,fun x=>hk (SP.keyS x),hl,hc⟩
theorem TblZ.step{Z Z':SP}{p:Pl}{g:Nat}{w w':World}(h:TblZ Z p g w)(st:Step Z.hl Z'.hl w w')(hp:Z'.S.P.p=Z.S.P.p):TblZ Z' p g w':=by
 unfold TblZ;rw[hp];exact AsideV.step h st
theorem TblZ.grown{Z:SP}{p:Pl}{g:Nat}{w w':World}(h:TblZ Z p g w)(hs:Sep w Z.hl)(hb:Below w.heap.size w w'):TblZ Z p g w':=h.step (hs.grown hb) rfl
theorem Z5e{w:World}{Z:SP}{fr:List Nat}{N K:Nat}(h:Sep w Z.hl)(ok:Z.S.Ok fr N K){x:Nat}(hx:x<4294967296){p:Pl}(hp:pget Z.S.l 1 x=some p)(hk:p.kind=2) :
  Calls prog 90 #[.pointer (some ⟨Z.s,0,none⟩),.int .u32 x] w fun r w'=>∃g:Nat,r=.returned (.tuple #[.agg #[.pointer (some ⟨g,0,none⟩),.int .u32 x,.int .i64 (p.fac:Int)],.int .i64 0])/\Below w.heap.size w w'/\TblZ Z p g w'/\w.heap.size<=g:=by
 have b1:Below w.heap.size w (w.alloc (.cells #[.pointer none,.int .u32 0,.int .i64 0] 191)):=(Below.refl _ _).alloc (J1E _) _;have s1:=(h.grown b1).sep;have c0:=SP.c0 s1;have hO:Calls prog 49 #[.pointer (some ⟨Z.S.c,0,none⟩),.int .u32 x,.int .i64 2] (w.alloc (.cells #[.pointer none,.int .u32 0,.int .i64 0] 191)) (Told (w.alloc (.cells #[.pointer none,.int .u32 0,.int .i64 0] 191)) (.tuple #[.agg #[.int .i64 (p.kind:Int),.int .i64 (p.at_:Int),.int .i64 (p.fac:Int)],.int .i64 0])):=Q2p (SP.sS s1) ok.inv.lok hx 2 hp (.inr (by omega));have hu:p.at_∈Z.S.P.usedOf 2:=Q1k ok (pget_some.1 hp).1 (pget_some.1 hp).2.2 hk
 have HC:Hid (∀w1,Below (w.alloc (.cells #[.pointer none,.int .u32 0,.int .i64 0] 191)).heap.size (w.alloc (.cells #[.pointer none,.int .u32 0,.int .i64 0] 191)) w1 ->
   ((w1.alloc (.cells #[.int .i64 (p.kind:Int),.int .i64 (p.at_:Int),.int .i64 (p.fac:Int)] 54)).cell? ⟨Z.s,0,none⟩=some (.pointer (some ⟨Z.S.c,0,none⟩))/\(w1.alloc (.cells #[.int .i64 (p.kind:Int),.int .i64 (p.at_:Int),.int .i64 (p.fac:Int)] 54)).cell? ⟨w1.heap.size,1,none⟩=some (.int .i64 (p.at_:Int))/\(w1.alloc (.cells #[.int .i64 (p.kind:Int),.int .i64 (p.at_:Int),.int .i64 (p.fac:Int)] 54)).cell? ⟨w1.heap.size,2,none⟩=some (.int .i64 (p.fac:Int))) /\
   ∀w2,Below (w1.alloc (.cells #[.int .i64 (p.kind:Int),.int .i64 (p.at_:Int),.int .i64 (p.fac:Int)] 54)).heap.size (w1.alloc (.cells #[.int .i64 (p.kind:Int),.int .i64 (p.at_:Int),.int .i64 (p.fac:Int)] 54)) w2 ->
    Calls prog 27 #[.pointer (some ⟨Z.S.c,0,none⟩)] w2 (fun r w'=>r=.returned (.pointer (some ⟨Z.S.P.p,0,none⟩))/\w2=w') /\
    Calls prog 169 #[.pointer (some ⟨Z.S.P.p,0,none⟩),.int .i64 (p.fac:Int),.int .i64 (p.at_:Int)] w2 (fun r w'=>(w'.cell? ⟨Z.s,0,none⟩=some (.pointer (some ⟨Z.S.c,0,none⟩))/\w'.cell? ⟨w1.heap.size,1,none⟩=some (.int .i64 (p.at_:Int))/\w'.cell? ⟨w1.heap.size,2,none⟩=some (.int .i64 (p.fac:Int)))/\∃g:Nat,r=.returned (.pointer (some ⟨g,0,none⟩))/\Cells w' w.heap.size 191 [.pointer none,.int .u32 0,.int .i64 0]/\(∀a b c,(((w'.setCell ⟨w.heap.size,0,none⟩ a).setCell ⟨w.heap.size,1,none⟩ b).setCell ⟨w.heap.size,2,none⟩ c).cell? ⟨Z.s,0,none⟩=some (.pointer (some ⟨Z.S.c,0,none⟩))/\(((w'.setCell ⟨w.heap.size,0,none⟩ a).setCell ⟨w.heap.size,1,none⟩ b).setCell ⟨w.heap.size,2,none⟩ c).cell? ⟨w1.heap.size,1,none⟩=some (.int .i64 (p.at_:Int))/\(((w'.setCell ⟨w.heap.size,0,none⟩ a).setCell ⟨w.heap.size,1,none⟩ b).setCell ⟨w.heap.size,2,none⟩ c).cell? ⟨w1.heap.size,2,none⟩=some (.int .i64 (p.fac:Int)))/\∀a b c,Below w.heap.size w (((w'.setCell ⟨w.heap.size,0,none⟩ a).setCell ⟨w.heap.size,1,none⟩ b).setCell ⟨w.heap.size,2,none⟩ c)/\TblZ Z p g (((w'.setCell ⟨w.heap.size,0,none⟩ a).setCell ⟨w.heap.size,1,none⟩ b).setCell ⟨w.heap.size,2,none⟩ c)/\w.heap.size<=g)):=fun w1 Ar=>by
  have hR:=(Cells.new w 191 [.pointer none,.int .u32 0,.int .i64 0]).same (Ar.block w.heap.size (by simp));have No:Below w.heap.size w w1:=Q0b Ar;have Db:=No.alloc No.size (.cells #[.int .i64 (p.kind:Int),.int .i64 (p.at_:Int),.int .i64 (p.fac:Int)] 54);have OM:=Cells.new w1 54 [.int .i64 (p.kind:Int),.int .i64 (p.at_:Int),.int .i64 (p.fac:Int)];have Uk:w.heap.size<w1.heap.size:=by have:=Ar.size;simp at this;omega
  have Qe:=hR.alloc (.cells #[.int .i64 (p.kind:Int),.int .i64 (p.at_:Int),.int .i64 (p.fac:Int)] 54);refine⟨⟨SP.c0 (h.grown Db).sep,OM.cell 1 _ rfl,OM.cell 2 _ rfl⟩,fun w2 Ae=>?_⟩;have G9:Below w.heap.size w w2:=Db.trans (Ae.mono (by simp;omega));have s2:=(h.grown G9).sep;refine⟨Q0S (SP.sS s2),(Z9V (SP.sS s2) ok hu).mono ?_⟩;rintro r w'⟨g,rfl,An,ht,hg⟩;have N3:=(OM.same (Ae.block w1.heap.size (by simp))).same (An.block w1.heap.size (by have:=Ae.size;simp at this;omega));have A2:Below w.heap.size w w':=G9.trans (An.mono G9.size);have Tr:=(Qe.same (Ae.block w.heap.size (by simp;omega))).same (An.block w.heap.size (by have:=Ae.size;simp at this;omega))
  refine⟨⟨SP.c0 (h.grown A2).sep,N3.cell 1 _ rfl,N3.cell 2 _ rfl⟩,g,rfl,Tr,fun a b c=>?_,fun a b c=>?_⟩
  ·have Bk:∀(W:World) (i k j:Nat) (u:Value),k≠w.heap.size->(W.setCell ⟨w.heap.size,i,none⟩ u).cell? ⟨k,j,none⟩=W.cell? ⟨k,j,none⟩:=fun W i k j u hk=>World.cell?_of_block (Below.heap_setCell _ _ _ _ (by simpa using hk))
   have OK:Z.s≠w.heap.size:=fun hx=>by
    have:=h.lt (b:=Z.s) (by simp[SP.hl,SP.head,keys]);omega
   have DD:w1.heap.size≠w.heap.size:=by omega
   rw[Bk _ _ _ _ _ OK,Bk _ _ _ _ _ OK,Bk _ _ _ _ _ OK,Bk _ _ _ _ _ DD,Bk _ _ _ _ _ DD,Bk _ _ _ _ _ DD,Bk _ _ _ _ _ DD,Bk _ _ _ _ _ DD,Bk _ _ _ _ _ DD];exact⟨SP.c0 (h.grown A2).sep,N3.cell 1 _ rfl,N3.cell 2 _ rfl⟩
  refine⟨((A2.setCell (J1E _) _).setCell (J1E _) _).setCell (J1E _) _,fun j v hj=>?_,by have:=Ae.size;simp at this;omega⟩;obtain⟨g',e,_,hl,hc⟩:=ht j v hj;obtain rfl:g=g':=by cases e;rfl
  clear e;have FT:w.heap.size<g:=by have:=Ae.size;simp at this;omega
  refine⟨g,rfl,fun hk=>?_,by simpa using hl,?_⟩
  ·have:=s2.lt hk;omega
  ·have Ac:∀(W:World) (i:Nat) (u:Value),(W.setCell ⟨w.heap.size,i,none⟩ u).cell? ⟨g,j,none⟩=W.cell? ⟨g,j,none⟩:=fun W i u=>World.cell?_of_block (Below.heap_setCell _ _ _ _ (by simp;omega))
   rw[Ac,Ac,Ac];exact hc
 clear h ok hp hu b1 s1;have Av:((p.kind:Nat):Int)=2:=by omega
 rw[Av] at hO;simp only[Av] at HC;clear Av hk;generalize p.at_=pa at *
 go_enter func90,ntmps90;go_wp2_with fail;refine hO.mono ?_;rintro r w1⟨rfl,Ar⟩;obtain⟨⟨c1,c2,c3⟩,AA⟩:=HC.out w1 Ar;have Q7:=Q0a AA;have d1:(w1.alloc (.cells #[.int .i64 2,.int .i64 pa,.int .i64 (p.fac:Int)] 54)).drew.cell? ⟨Z.s,0,none⟩=some (.pointer (some ⟨Z.S.c,0,none⟩)):=c1;have d2:(w1.alloc (.cells #[.int .i64 2,.int .i64 pa,.int .i64 (p.fac:Int)] 54)).drew.cell? ⟨w1.heap.size,1,none⟩=some (.int .i64 pa):=c2;have d3:(w1.alloc (.cells #[.int .i64 2,.int .i64 pa,.int .i64 (p.fac:Int)] 54)).drew.cell? ⟨w1.heap.size,2,none⟩=some (.int .i64 (p.fac:Int)):=c3;clear Ar AA HC hO;go_wp2_with fail
 have D9:=(Q7.out _ ((Below.refl _ _).drew)).1;have Fz:=(Q7.out _ ((Below.refl _ _).drew)).2;have IM:=Q0a Fz;clear Fz Q7
 go_region_held3 (fun w'=>w'.cell? ⟨Z.s,0,none⟩=some (.pointer (some ⟨Z.S.c,0,none⟩))/\w'.cell? ⟨w1.heap.size,1,none⟩=some (.int .i64 pa)/\w'.cell? ⟨w1.heap.size,2,none⟩=some (.int .i64 (p.fac:Int))) (first|exact⟨c1,c2,c3⟩|exact⟨d1,d2,d3⟩|exact Am|exact Cj _ _ _)
  (first|(go_at_call 27;refine D9.mono ?_;rintro r w'⟨rfl,rfl⟩)|(go_at_call 169;refine IM.out.mono ?_;rintro r w3⟨Am,g,rfl,Ai,Cj,hz⟩;have HZ:=Q0a hz;have e0:=Ai.cell 0 _ rfl;have e1:=Ai.cell 1 _ rfl;have e2:=Ai.cell 2 _ rfl;have f0:=Ai.free 0;have f1:=Ai.free 1;have f2:=Ai.free 2;have Aa:=Ai.lt;clear hz Ai IM))
 go_wp2_with fail;refine bodyPost_ret (v:=.tuple #[.agg #[.pointer (some ⟨g,0,none⟩),.int .u32 x,.int .i64 (p.fac:Int)],.int .i64 0]) (by simp[results,results90,go_sem,e0,e1,e2]) rfl ⟨g,rfl,HZ.out _ _ _⟩
theorem Q0W{w:World}{Z:SP}{fr:List Nat}{N K:Nat}(h:Sep w Z.hl)(ok:Z.S.Ok fr N K){x:Nat}(hx:x<4294967296){p:Pl}(hp:pget Z.S.l 1 x=some p)(hk:p.kind=2) :
  Calls prog 90 #[.pointer (some ⟨Z.s,0,none⟩),.int .u32 x] w fun r w'=>∃g:Nat,r=.returned (.tuple #[.agg #[.pointer (some ⟨g,0,none⟩),.int .u32 x,.int .i64 (p.fac:Int)],.int .i64 0])/\Below w.heap.size w w'/\TblZ Z p g w':=
 (Z5e h ok hx hp hk).mono fun r w' ⟨g,h1,h2,h3,_⟩=>⟨g,h1,h2,h3⟩
theorem Q6V{w:World}{Z:SP}(h:Sep w Z.hl){x:Nat}{e:Int}(he:e≠0)(hO:Calls prog 49 #[.pointer (some ⟨Z.S.c,0,none⟩),.int .u32 x,.int .i64 2] (w.alloc (.cells #[.pointer none,.int .u32 0,.int .i64 0] 191)) (Told (w.alloc (.cells #[.pointer none,.int .u32 0,.int .i64 0] 191)) (.tuple #[.agg #[.int .i64 0,.int .i64 0,.int .i64 0],.int .i64 e]))) :
  Calls prog 90 #[.pointer (some ⟨Z.s,0,none⟩),.int .u32 x] w (Told w (.tuple #[.agg #[.pointer none,.int .u32 0,.int .i64 0],.int .i64 e])):=by
 have b1:Below w.heap.size w (w.alloc (.cells #[.pointer none,.int .u32 0,.int .i64 0] 191)):=(Below.refl _ _).alloc (J1E _) _;have c0:=SP.c0 (h.grown b1).sep;have GY:(e==0)=false:=by simpa using he
 have HC:Hid (∀w1,Below (w.alloc (.cells #[.pointer none,.int .u32 0,.int .i64 0] 191)).heap.size (w.alloc (.cells #[.pointer none,.int .u32 0,.int .i64 0] 191)) w1->(∀o,Cells (w1.alloc o) w.heap.size 191 [.pointer none,.int .u32 0,.int .i64 0])/\∀o a b c,Below w.heap.size w ((((w1.alloc o).setCell ⟨w.heap.size,0,none⟩ a).setCell ⟨w.heap.size,1,none⟩ b).setCell ⟨w.heap.size,2,none⟩ c)):=fun w1 Ar=>by
  have hR:=(Cells.new w 191 [.pointer none,.int .u32 0,.int .i64 0]).same (Ar.block w.heap.size (by simp));exact⟨hR.alloc,fun o a b c=>((((Q0b Ar).alloc (Q0b Ar).size o).setCell (J1E _) _).setCell (J1E _) _).setCell (J1E _) _⟩
 clear h b1;go_enter func90,ntmps90;go_wp2_with fail;refine hO.mono ?_;rintro r w1⟨rfl,Ar⟩;obtain⟨BI,hz⟩:=HC.out w1 Ar;have Ai:=BI (.cells #[.int .i64 0,.int .i64 0,.int .i64 0] 54);have HZ:=Q0a hz;have e0:=Ai.cell 0 _ rfl;have e1:=Ai.cell 1 _ rfl;have e2:=Ai.cell 2 _ rfl;have f0:=Ai.free 0;have f1:=Ai.free 1;have f2:=Ai.free 2;have Aa:=Ai.lt;clear Ar hz Ai BI HC hO;go_wp2_with fail;refine bodyPost_ret (v:=.tuple #[.agg #[.pointer none,.int .u32 0,.int .i64 0],.int .i64 e]) (by simp[results,results90,go_sem,e0,e1,e2]) rfl ⟨rfl,HZ.out _ _ _ _⟩
theorem Q0J{w:World}{Z:SP}{fr:List Nat}{N K:Nat}(h:Sep w Z.hl)(ok:Z.S.Ok fr N K){x:Nat}(hx:x<4294967296)(e:Int)(hw:(pget Z.S.l 1 x=none/\e=8)∨∃p,pget Z.S.l 1 x=some p/\p.kind≠2/\e=10) :
  Calls prog 90 #[.pointer (some ⟨Z.s,0,none⟩),.int .u32 x] w (Told w (.tuple #[.agg #[.pointer none,.int .u32 0,.int .i64 0],.int .i64 e])):=by
 have s1:=(h.grown ((Below.refl w.heap.size w).alloc (J1E _) (.cells #[.pointer none,.int .u32 0,.int .i64 0] 191))).sep;rcases hw with ⟨hp,rfl⟩|⟨p,hp,hk,rfl⟩
 ·exact Q6V h (by decide) (Q3b (SP.sS s1) ok.inv.lok hx 2 hp)
 ·exact Q6V h (by decide) (Q2J (SP.sS s1) ok.inv.lok hx 2 hp (by decide) (by omega))
structure FO.New(q:FO):Prop where
 N:q.N=[]
 next:q.next=0
 ok:q.Ok
theorem Z7K{w:World}{H:HL}(h:Sep w H):Calls prog 155 #[] w fun r w'=>∃q:FO,r=.returned (.pointer (some ⟨q.f,0,none⟩))/\q.New/\Step H (q.hl++H) w w':=by
 have s1:=h.newMap;have s2:=s1.sep.newMap;have s3:=s2.sep.new 283 [.map (some w.heap.size),.map (some (w.alloc (.map #[] 0)).heap.size),.int .i64 0];have HQ:Hid (∃q:FO,q.f=((w.alloc (.map #[] 0)).alloc (.map #[] 0)).heap.size/\q.New/\Step H (q.hl++H) w (((w.alloc (.map #[] 0)).alloc (.map #[] 0)).alloc (.cells #[.map (some w.heap.size),.map (some (w.alloc (.map #[] 0)).heap.size),.int .i64 0] 283))):=by
  refine⟨⟨((w.alloc (.map #[] 0)).alloc (.map #[] 0)).heap.size,w.heap.size,(w.alloc (.map #[] 0)).heap.size,[],0,fun _=>none⟩,rfl,⟨rfl,rfl,⟨⟨List.Pairwise.nil,List.Pairwise.nil,J5x _,fun e h=>(by cases h),fun e h=>(by cases h),fun e h=>(by cases h),fun e h=>(by cases h),fun e h=>(by cases h),fun e h=>(by cases h)⟩,(by show(0:Int)<1099511627776;decide),fun e h=>(by cases h),J3z _⟩⟩,?_⟩;refine((s1.trans s2).trans s3).perm (J4Q _) ?_;refine Q0V fun a=>?_
  simp only[FO.hl,FO.head,hc_append,hc_cons,kvs,okv,isMI,isMS,J4d,J5w];simp only[J0M];omega
 clear h s1 s2 s3;have AZ:(w.alloc (.map #[] 0)).heap.size=w.heap.size+1:=by simp
 have Bd:((w.alloc (.map #[] 0)).alloc (.map #[] 0)).heap.size=w.heap.size+1+1:=by simp
 rw[AZ,Bd] at HQ;have Hd:=@run_makeMap prog;go_enter func155,ntmps155;go_wp2_with fail;obtain⟨q,e,h1,h2⟩:=HQ.out;have e2:Ending.returned (.pointer (some ⟨w.heap.size+1+1,0,none⟩))=Ending.returned (.pointer (some ⟨q.f,0,none⟩)):=by rw[e]
 (try go_ret);exact⟨q,e2,h1,h2⟩
structure SP.New(Z:SP)(S:CO)(tb:Nat->TB):Prop where
 S:Z.S=S
 tb:Z.tb=tb
 F:Z.F.New
theorem Z7L{w:World}{S:CO}(h:Sep w S.hl)(tb:Nat->TB):Calls prog 80 #[.pointer (some ⟨S.c,0,none⟩)] w fun r w'=>∃Z:SP,r=.returned (.pointer (some ⟨Z.s,0,none⟩))/\Z.New S tb/\Step S.hl Z.hl w w':=by
 have kf:=Z7K h;have HQ:Hid (∀(q:FO) (w1:World),q.New->Step S.hl (q.hl++S.hl) w w1->∃Z:SP,Z.s=w1.heap.size/\Z.New S tb/\Step S.hl Z.hl w (w1.alloc (.cells #[.pointer (some ⟨S.c,0,none⟩),.pointer (some ⟨q.f,0,none⟩)] 183))):=fun q w1 hq st=>by
  refine⟨⟨w1.heap.size,S,tb,q⟩,rfl,⟨rfl,rfl,hq⟩,?_⟩;refine(st.trans (st.sep.new 183 [ptr S.c,ptr q.f])).perm (J4Q _) ?_;refine Q0V fun a=>?_
  simp only[SP.hl,SP.head,hc_append,hc_cons];omega
 clear h;go_enter func80,ntmps80;go_wp2_with fail;refine kf.mono ?_;rintro r w1⟨q,rfl,hq,st⟩;obtain⟨Z,e,h1,h2⟩:=HQ.out q w1 hq st;have HZ:Hid (Z.New S tb/\Step S.hl Z.hl w (w1.alloc (.cells #[.pointer (some ⟨S.c,0,none⟩),.pointer (some ⟨q.f,0,none⟩)] 183))):=⟨h1,h2⟩
 clear hq st h1 h2 HQ kf;go_wp2_with fail;have e2:Ending.returned (.pointer (some ⟨w1.heap.size,0,none⟩))=Ending.returned (.pointer (some ⟨Z.s,0,none⟩)):=by rw[e]
 (try go_ret);exact⟨Z,e2,HZ.out.1,HZ.out.2⟩
theorem SP.New.ok{Z:SP}{S:CO}{tb:Nat->TB}(h:Z.New S tb){fr:List Nat}{N K:Nat}(ok:S.Ok fr N K)(t:TPI S tb)(hn:∀i,i<256->(tb i).Nil):Z.Ok fr N K 0:=by
 have Bn:∀x s,Q0g S.l tb x s=none:=fun x s=>by
  unfold Q0g;split
  ·split
   ·rename_i hc;exact(hn _ (J4D _ (by omega))).2 s hc.2
   ·rfl
  ·rfl
 refine⟨by rw[h.S];exact ok,by rw[h.S,h.tb];exact t,?_,h.F.ok,by rw[h.F.next];exact J5x _⟩;rw[h.S,h.tb,h.F.N];exact⟨fun x s e he=>(by rw[Bn] at he;cases he),fun x s e he=>(by rw[Bn] at he;cases he),fun n hn=>(by cases hn),fun n hn=>by cases hn⟩
theorem TPI.emp{S:CO}{fr:List Nat}{N K:Nat}(ok:S.Ok fr N K)(h2:∀(i:Nat) (p:Pl),S.l[i]?=some p->¬(p.st=1/\p.kind=2))(h7:S.P.usedOf 7=[])(h6:S.P.usedOf 6=[])(hx:∀id,S.xc id=0):TPI S fun _=>TB.emp:=by
 have l0:Q2K (fun _=>TB.emp)=[]:=by
  unfold Q2K;simp only[TB.emp_nil.lists.1];generalize List.range 256=L
  induction L with
  | nil=>rfl
  | cons a r ih=>rw[J2a,ih];rfl
 have n0:Q3D (fun _=>TB.emp)=[]:=by
  unfold Q3D;simp only[TB.emp_nil.lists.2.1];generalize List.range 256=L
  induction L with
  | nil=>rfl
  | cons a r ih=>rw[J2a,ih];rfl
 refine⟨fun i p hi h1 hk=>absurd ⟨h1,hk⟩ (h2 i p hi),fun i _=>TB.emp_nil.full,fun i p _ _=>TB.emp_nil,by rw[l0,h7],by rw[n0,h6],fun id=>?_⟩;rw[hx];unfold xcOf;have:∀i,xcP (fun _=>TB.emp) id i S.l[i]?=0:=fun i=>by
  unfold xcP;split
  ·split
   ·exact TB.emp_nil.lists.2.2
   ·rfl
  ·rfl
 simp only[this];generalize List.range 256=L
 induction L with
 | nil=>rfl
 | cons a r ih=>rw[J1H,J5h];omega
def Z9X(Z:SP)(fr:List Nat)(N K:Nat)(own:Int)(i s:Nat)(o:Option Ent)(w w':World):Prop:=∃S' t',TurnP Z.S fr N K Z.tb own i s o S' t'/\Step Z.hl (Z.setS S' (updT Z.tb i t')).hl w w'
def WhyL(Z:SP)(fr:List Nat)(own:Int)(i s:Nat)(er:Int):Prop:=
 (er=5/\∃e,find Z.S.P.q.E own=some e/\Q0u e<48)∨(er=4/\NoRoom Z.S.P 6) ∨
 ∃a P1,GetOk Z.S.P fr own 6 a P1/\(Z.tb i).lf (s/16)=0/\((er=5/\∃e,find P1.q.E own=some e/\Q0u e<256)∨(er=4/\NoRoom P1 7))
def LayR(Z:SP)(fr:List Nat)(N K:Nat)(own:Int)(i s h r:Nat)(w:World)(er:Int)(w':World):Prop:=
 (er=0/\∃nd,Z9X Z fr N K own i s (some ⟨h,r,nd⟩) w w')∨((er=4∨er=5)/\WhyL Z fr own i s er/\∃P',Tried Z.S.P fr Z.S.l P'/\Step Z.hl (Z.setS (Z.S.setP P') Z.tb).hl w w')
theorem Z0Z{S:CO}{fr:List Nat}{N K:Nat}{tb:Nat->TB}{own:Int}{xl xn xn':List Nat}(ok:S.Ok fr N K)(t:TPX S tb own xl xn){i s:Nat}{p:Pl}(hi:S.l[i]?=some p)(h1:p.st=1)(h2:p.kind=2)(Al:(p.fac:Int)=own)(hs:s<256){e:Ent}(hn:(xn'++((tb i).setE s (some e)).nds).Perm (xn++(tb i).nds))
  (hA:Q0t (some e)<18446744073709551616) (hB:Q0T (some e)<18446744073709551616) {w:World} {g:Nat} (A6:Sep w S.hl) (hg:TblC S p g w) :
  Calls prog 103 #[.pointer (some ⟨g,0,none⟩),.int .i64 s,.int .u64 (Q0t (some e):Nat),.int .u64 (Q0T (some e):Nat)] w (SetR S fr N K tb own xl xn' i s (some e) w):=by
 by_cases hl:(tb i).lf (s/16)=0
 ·obtain⟨ac,Fs⟩:=Q8I ok hi h1;rw[Al] at Fs;exact Z7C ok t hi h1 h2 Al hs hl Fs hn hA hB A6 hg
 ·exact Z7B ok t hi h1 h2 Al hs hl hn hA hB A6 hg
theorem Put1.turn{S:CO}{fr:List Nat}{N K:Nat}{tb:Nat->TB}{own:Int}{i s:Nat}{o:Option Ent}{w w':World}(h:Put1 S fr N K tb own [] [] i s o w w')(hf:∀j,j<256->(tb j).Full):J0W S fr N K tb own i s o w w':=by
 obtain⟨S',t',ok,t,en,full,lf,al,st⟩:=h;refine⟨S',t',⟨ok,t.done fun j hj=>?_,en,lf,al⟩,st⟩;by_cases e:j=i
 ·subst e;rw[updT_same];exact full (hf j hj)
 ·rw[Q0P e];exact hf j hj
theorem TurnP.after{S S1:CO}{fr:List Nat}{N K:Nat}{tb:Nat->TB}{own:Int}{i s:Nat}{o:Option Ent}{S':CO}{t':TB}(al:Alt S S1 own)(h:TurnP S1 fr N K tb own i s o S' t'):TurnP S fr N K tb own i s o S' t':=⟨h.ok,h.tpi,h.en,h.lf,al.trans h.alt⟩
structure BoxL(Z:SP)(g x f h r B:Nat)(w:World):Prop where
 x:AsideV Z.hl [.pointer (some ⟨g,0,none⟩),.int .u32 x,.int .i64 f] (some ⟨B,0,none⟩) w
 c:AsideV Z.hl [.int .u32 h,.int .i64 r] (some ⟨B+1,0,none⟩) w
theorem BoxL.step{Z Z':SP}{g x f h r B:Nat}{w w':World}(b:BoxL Z g x f h r B w)(st:Step Z.hl Z'.hl w w'):BoxL Z' g x f h r B w':=⟨b.x.step st,b.c.step st⟩
theorem AsideV.at{H:HL}{cs:List Value}{b:Nat}{w:World}(h:AsideV H cs (some ⟨b,0,none⟩) w)(j:Nat)(v:Value)(hj:cs[j]?=some v):w.cell? ⟨b,j,none⟩=some v:=by
 obtain⟨g,e,_,_,hc⟩:=h j v hj;cases e;exact hc
def HeldL(Z:SP)(g f h r B:Nat)(w':World):Prop:=w'.cell? ⟨Z.s,0,none⟩=some (.pointer (some ⟨Z.S.c,0,none⟩))/\w'.cell? ⟨B,0,none⟩=some (.pointer (some ⟨g,0,none⟩))/\w'.cell? ⟨B,2,none⟩=some (.int .i64 f)/\w'.cell? ⟨B+1,0,none⟩=some (.int .u32 h)/\w'.cell? ⟨B+1,1,none⟩=some (.int .i64 r)
theorem BoxL.held{Z:SP}{g x f h r B:Nat}{w:World}(b:BoxL Z g x f h r B w)(hs:Sep w Z.hl):HeldL Z g f h r B w:=⟨SP.c0 hs,b.x.at 0 _ rfl,b.x.at 2 _ rfl,b.c.at 0 _ rfl,b.c.at 1 _ rfl⟩
theorem HeldL.grown{Z:SP}{g f h r B:Nat}{w w':World}(b:HeldL Z g f h r B w)(hb:Below w.heap.size w w'):HeldL Z g f h r B w':=by
 obtain⟨a1,a2,a3,a4,a5⟩:=b;have k:∀{p:Addr} {v:Value},w.cell? p=some v->w'.cell? p=some v:=fun {p v} e=>(hb.cell (World.block_lt_of_cell? w p e)).trans e
 exact⟨k a1,k a2,k a3,k a4,k a5⟩
theorem Z5f{w w1:World}{Z:SP}{fr:List Nat}{N K:Nat}(hs:Sep w Z.hl)(hb:Below w.heap.size w w1)(ok:Z.S.Ok fr N K)(t:TPI Z.S Z.tb){i s x g B h r:Nat}{p:Pl}(hi:Z.S.l[i]?=some p)(h1:p.st=1)(h2:p.kind=2)(AG:s<256)(h0:(Z.tb i).en s=none)(hh:h<4294967295)(hr:r<16)
  (hg:TblZ Z p g w1) (E9:BoxL Z g x p.fac h r B w1) :
  Calls prog 15 #[.pointer (some ⟨Z.S.P.p,0,none⟩),.int .i64 (p.fac:Int),.int .i64 6] w1 fun rv w2=>HeldL Z g p.fac h r B w2/\∃a er:Int,rv=.returned (.tuple #[.int .i64 a,.int .i64 er]) /\
   (((er=4∨er=5)/\LayR Z fr N K p.fac i s h r w er w2) ∨
    ∃A:Nat,a=(A:Int)/\er=0/\A<=1073741824/\∀w3,Below w2.heap.size w2 w3 ->
    Calls prog 103 #[.pointer (some ⟨g,0,none⟩),.int .i64 s,.int .u64 ((⟨h,r,0⟩:Ent).a:Nat),.int .u64 A] w3 fun rv w4=>HeldL Z g p.fac h r B w4/\∃er:Int,rv=.returned (.int .i64 er) /\
     ((er=0/\LayR Z fr N K p.fac i s h r w 0 w4)∨((er=4∨er=5)/\∀w5,Below w4.heap.size w4 w5 ->
      Calls prog 27 #[.pointer (some ⟨Z.S.c,0,none⟩)] w5 (fun r w'=>r=.returned (.pointer (some ⟨Z.S.P.p,0,none⟩))/\w5=w') /\
      Calls prog 21 #[.pointer (some ⟨Z.S.P.p,0,none⟩),.int .i64 (p.fac:Int),.int .i64 6,.int .i64 A] w5 fun rv w6=>rv=.returned (.int .i64 0)/\HeldL Z g p.fac h r B w6/\LayR Z fr N K p.fac i s h r w er w6))):=by
 have s1:=(hs.grown hb).sep;have Oj:Q0X 6=48:=costs_67.1;have Bs:∃q∈Z.S.l,q.st=1/\(q.fac:Int)=(p.fac:Int):=⟨p,J3L hi,h1,rfl⟩
 have Ap:=Q1w ok.inv.len hi;refine(Q5c (CO.sP (SP.sS s1)) ok.inv.mem.pool (p.fac:Int) 6).mono ?_;rintro rv w2 LX;have zstep:∀{P':PL},P'.p=Z.S.P.p->Step Z.S.P.hl P'.hl w1 w2->Step Z.hl (Z.setS (Z.S.setP P') Z.tb).hl w w2:=fun {P'} e st=>(hs.grown hb).trans (SP.stepS s1 _ _ rfl (CO.stepP (SP.sS s1) P' e st))
 rcases LX with ⟨Dk,_⟩|⟨_,Aw,_⟩|⟨_,⟨e,he,As⟩,rfl,st⟩|⟨n,ac,hk,TO,Tq,Fs,P9,O5⟩
 ·rw[Oj] at Dk;omega
 ·obtain⟨e,he⟩:=Q8I ok hi h1;rw[Aw] at he;cases he
 ·have st':=zstep rfl st;refine⟨(E9.step (SP.stepS s1 _ _ rfl (CO.stepP (SP.sS s1) Z.S.P rfl st))).held st'.sep,0,5,rfl,.inl ⟨.inr rfl,.inr ⟨.inr rfl,.inl ⟨rfl,e,he,?_⟩,Z.S.P,Tried.refl ok.inv.mem.pool _,st'⟩⟩⟩;rw[Oj] at As;exact As
 ·obtain rfl:n=6:=by omega
  rcases O5 with ⟨A,P1,rfl,g6,st⟩|⟨Aw,rfl,st⟩
  ·have Gf:Step Z.hl (Z.setS (Z.S.setP P1) Z.tb).hl w w2:=zstep g6.p st;obtain⟨ok1,t1⟩:=TPX.got ok (t.x (p.fac:Int)) (.inl rfl) g6 Bs;rw[if_neg (by decide),if_pos rfl] at t1;have al1:=Alt.got ok g6;have st1:Step Z.hl (Z.setS (Z.S.paid P1 (p.fac:Int) ((Q0e 6:Nat):Int)) Z.tb).hl w w2:=Gf;have RX:A∈P1.usedOf 6:=by
    obtain⟨X,Y,_,e2⟩:=g6.used;rw[e2];simp
   have T8:=Q0l ok1.inv.mem.pool RX;have Lz:=Q0f ok1.inv.mem.pool;have UY:A+Q0e 6<=P1.a.mem.length:=T8.1;have Pz:P1.a.mem.length<=1073741824:=Lz;have BR:BoxL (Z.setS (Z.S.paid P1 (p.fac:Int) ((Q0e 6:Nat):Int)) Z.tb) g x p.fac h r B w2:=E9.step (Z':=Z.setS (Z.S.paid P1 (p.fac:Int) ((Q0e 6:Nat):Int)) Z.tb) (SP.stepS s1 _ _ rfl (CO.stepP (SP.sS s1) P1 g6.p st));have BX:TblZ (Z.setS (Z.S.paid P1 (p.fac:Int) ((Q0e 6:Nat):Int)) Z.tb) p g w2:=hg.step (Z':=Z.setS (Z.S.paid P1 (p.fac:Int) ((Q0e 6:Nat):Int)) Z.tb) (SP.stepS s1 _ _ rfl (CO.stepP (SP.sS s1) P1 g6.p st)) g6.p;refine⟨BR.held st1.sep,(A:Int),0,rfl,.inr ⟨A,rfl,rfl,by omega,fun w3 An=>?_⟩⟩
   have st3:=st1.trans (st1.sep.grown An);have Kq:=(BX.grown st1.sep An).c;have IB:=BR.step (st1.sep.grown An);have Cp:([]++((Z.tb i).setE s (some ⟨h,r,A⟩)).nds).Perm ([A]++(Z.tb i).nds):=TB.nds_set AG (e:=⟨h,r,A⟩) h0;have OS:Q0t (some (⟨h,r,A⟩:Ent))<18446744073709551616:=by
    show h+1+4294967296*r<_;omega
   refine(Z0Z ok1 t1 (show(Z.S.paid P1 (p.fac:Int) ((Q0e 6:Nat):Int)).l[i]?=some p from hi) h1 h2 rfl AG Cp OS (by show A<_;omega) (SP.sS st3.sep) Kq).mono ?_;rintro rv w4 (⟨rfl,Bv⟩|⟨F5,st,F4⟩)
   ·obtain⟨S',t',T,stt⟩:=Bv.turn t.full;have T0:=T.after al1;have stz:Step Z.hl (Z.setS S' (updT Z.tb i t')).hl w w4:=st3.trans (SP.stepS st3.sep S' (updT Z.tb i t') (T.alt.c) stt);refine⟨?_,0,rfl,.inl ⟨rfl,.inl ⟨rfl,A,S',t',T0,stz⟩⟩⟩;have A2:=IB.step (SP.stepS st3.sep S' (updT Z.tb i t') T.alt.c stt);have:=A2.held stz.sep;exact⟨by rw[<- T0.alt.c];exact this.1,this.2⟩
   ·have st4:Step Z.hl (Z.setS (Z.S.paid P1 (p.fac:Int) ((Q0e 6:Nat):Int)) Z.tb).hl w w4:=st3.trans (SP.stepS st3.sep _ _ rfl st);have MK:=IB.step (SP.stepS st3.sep (Z.S.paid P1 (p.fac:Int) ((Q0e 6:Nat):Int)) Z.tb rfl st);have Ai:∃er:Int,rv=.returned (.int .i64 er)/\(er=4∨er=5)/\WhyL Z fr p.fac i s er:=by
     rcases F4 with ⟨Aw,rfl⟩|⟨⟨e,he,As⟩,rfl⟩
     ·exact⟨4,rfl,.inl rfl,.inr (.inr ⟨A,P1,g6,F5,.inr ⟨rfl,Aw⟩⟩)⟩
     ·exact⟨5,rfl,.inr rfl,.inr (.inr ⟨A,P1,g6,F5,.inl ⟨rfl,e,he,As⟩⟩)⟩
    obtain⟨er,rfl,Ci,hw⟩:=Ai;refine⟨MK.held st4.sep,er,rfl,.inr ⟨Ci,fun w5 Au=>?_⟩⟩;have st5:=st4.trans (st4.sep.grown Au);have P0:=MK.step (st4.sep.grown Au);have km:=Q0S (SP.sS st5.sep);have JU:(Z.S.paid P1 (p.fac:Int) ((Q0e 6:Nat):Int)).P.p=Z.S.P.p:=g6.p;refine⟨?_,?_⟩
    ·have:=km;rw[show((Z.setS (Z.S.paid P1 (p.fac:Int) ((Q0e 6:Nat):Int)) Z.tb).S.P.p)=Z.S.P.p from g6.p] at this;exact this
    obtain⟨ac1,GX⟩:=Q8I ok1 (show(Z.S.paid P1 (p.fac:Int) ((Q0e 6:Nat):Int)).l[i]?=some p from hi) h1;have M1:=t1.paid ok1 GX;rw[J3W,J5u] at M1;obtain⟨c,hc⟩:=PL.cls ok1.inv.mem.pool (by omega:1<=6) (by omega);have kp:=Q3T (CO.sP (SP.sS st5.sep)) ok1.inv.mem.pool (p.fac:Int) GX 6 (by rw[Q4y];omega) c hc A (by rw[<- Q0N hc];exact RX) (by omega);rw[show((Z.setS (Z.S.paid P1 (p.fac:Int) ((Q0e 6:Nat):Int)) Z.tb).S.P.p)=Z.S.P.p from g6.p] at kp;refine kp.mono ?_;rintro rv w6⟨rfl,P2,b6,stp⟩;have tr:Tried Z.S.P fr Z.S.l P2:=(g6.gotM ok.inv.mem.pool).back ok.inv.mem (b6.backM ok1.inv.mem.pool)
    have stz:Step Z.hl (Z.setS (Z.S.setP P2) Z.tb).hl w w6:=st5.trans (SP.stepS st5.sep _ _ rfl (CO.stepP (SP.sS st5.sep) P2 b6.p stp));have OA:=P0.step (Z':=Z.setS (Z.S.setP P2) Z.tb) (SP.stepS st5.sep _ _ rfl (CO.stepP (SP.sS st5.sep) P2 b6.p stp));exact⟨rfl,OA.held stz.sep,.inr ⟨Ci,hw,P2,tr,stz⟩⟩
  ·have st':=zstep rfl st;exact⟨(E9.step (SP.stepS s1 _ _ rfl (CO.stepP (SP.sS s1) Z.S.P rfl st))).held st'.sep,0,4,rfl,.inl ⟨.inl rfl,.inr ⟨.inl rfl,.inr (.inl ⟨rfl,Aw⟩),Z.S.P,Tried.refl ok.inv.mem.pool _,st'⟩⟩⟩
theorem Q5O(w:World)(h r:Nat)(hh:h<4294967295)(hr:r<16):Calls prog 104 #[.agg #[.int .u32 h,.int .i64 r]] w (Told w (.int .u64 ((⟨h,r,0⟩:Ent).a:Nat))):=by
 have hn:=Z7I h r hh hr;have hA:=Cells.new w 72 [.int .u32 h,.int .i64 r];have a0:=hA.cell 0 _ rfl;have a1:=hA.cell 1 _ rfl;have hb:Below w.heap.size w (w.alloc (.cells #[.int .u32 h,.int .i64 r] 72)):=(Below.refl _ _).alloc (J1E _) _;have HB:=Q0a hb;have UR:(0:Int)<=(h:Int)/\(h:Int)<4294967295:=by omega
 have Hm:(0:Int)<=(r:Int)/\(r:Int)<16:=by omega
 obtain⟨q1,q2⟩:=UR;obtain⟨q3,q4⟩:=Hm;generalize ((⟨h,r,0⟩:Ent).a:Nat)=z at *
 clear hA hb hh hr;go_enter func104,ntmps104;go_wp2_with fail
 (try go_ret);exact⟨rfl,HB.out⟩
theorem Q7L{w:World}{Z:SP}{fr:List Nat}{N K:Nat}(hs:Sep w Z.hl)(ok:Z.S.Ok fr N K)(t:TPI Z.S Z.tb){i s x g h r:Nat}{p:Pl}(hi:Z.S.l[i]?=some p)(h1:p.st=1)(h2:p.kind=2)(AG:s<256)(h0:(Z.tb i).en s=none)(hh:h<4294967295)(hr:r<16)(hg:TblZ Z p g w) :
  Calls prog 98 #[.pointer (some ⟨Z.s,0,none⟩),.agg #[.pointer (some ⟨g,0,none⟩),.int .u32 x,.int .i64 (p.fac:Int)],.int .i64 s,.agg #[.int .u32 h,.int .i64 r]] w fun rv w'=>∃er:Int,rv=.returned (.int .i64 er)/\LayR Z fr N K p.fac i s h r w er w':=by
 have hb:Below w.heap.size w ((w.alloc (.cells #[.pointer (some ⟨g,0,none⟩),.int .u32 x,.int .i64 (p.fac:Int)] 191)).alloc (.cells #[.int .u32 h,.int .i64 r] 72)):=((Below.refl _ _).alloc (J1E _) _).alloc (by simp) _;have E9:BoxL Z g x p.fac h r w.heap.size ((w.alloc (.cells #[.pointer (some ⟨g,0,none⟩),.int .u32 x,.int .i64 (p.fac:Int)] 191)).alloc (.cells #[.int .u32 h,.int .i64 r] 72)):=by
  refine⟨fun j v hj=>⟨w.heap.size,rfl,fun hk=>by have:=hs.lt hk;omega,by simp;omega,?_⟩,fun j v hj=>⟨w.heap.size+1,rfl,fun hk=>by have:=hs.lt hk;omega,by simp,?_⟩⟩
  ·exact((Cells.new w 191 [.pointer (some ⟨g,0,none⟩),.int .u32 x,.int .i64 (p.fac:Int)]).alloc _).cell j v hj
  ·have:=(Cells.new (w.alloc (.cells #[.pointer (some ⟨g,0,none⟩),.int .u32 x,.int .i64 (p.fac:Int)] 191)) 72 [.int .u32 h,.int .i64 r]).cell j v hj
   simpa using this
 have JG:Hid (∀w1,Below ((w.alloc (.cells #[.pointer (some ⟨g,0,none⟩),.int .u32 x,.int .i64 (p.fac:Int)] 191)).alloc (.cells #[.int .u32 h,.int .i64 r] 72)).heap.size ((w.alloc (.cells #[.pointer (some ⟨g,0,none⟩),.int .u32 x,.int .i64 (p.fac:Int)] 191)).alloc (.cells #[.int .u32 h,.int .i64 r] 72)) w1->HeldL Z g p.fac h r w.heap.size w1/\Calls prog 27 #[.pointer (some ⟨Z.S.c,0,none⟩)] w1 (fun r w'=>r=.returned (.pointer (some ⟨Z.S.P.p,0,none⟩))/\w1=w')/\_):=fun w1 Ar=>by
  have Aj:Below w.heap.size w w1:=hb.trans (Ar.mono (by simp;omega));have s0:=(hs.grown hb).sep;have BR:=E9.step (s0.grown Ar);have s1:=(hs.grown Aj).sep;exact⟨BR.held s1,Q0S (SP.sS s1),Z5f hs Aj ok t hi h1 h2 AG h0 hh hr (hg.grown hs Aj) BR⟩
 have CK:=(JG.out _ (Below.refl _ _)).1;have D0:=(JG.out _ ((Below.refl _ _).drew)).1;have D9:=(JG.out _ ((Below.refl _ _).drew)).2.1;have CM:=(JG.out _ ((Below.refl _ _).drew)).2.2;have Cc:=Q0a CM;have Ji:Hid (∀w,Calls prog 104 #[.agg #[.int .u32 h,.int .i64 r]] w (Told w (.int .u64 ((⟨h,r,0⟩:Ent).a:Nat)))):=fun w=>Q5O w h r hh hr
 clear JG E9 hb hs ok t hi h1 h2 h0 hg CM;generalize LayR Z fr N K p.fac i s h r w=Q at *
 unfold HeldL at CK D0;go_enter func98,ntmps98;go_wp2_with fail
 go_region_held3 (fun w'=>w'.cell? ⟨Z.s,0,none⟩=some (.pointer (some ⟨Z.S.c,0,none⟩))/\w'.cell? ⟨w.heap.size,0,none⟩=some (.pointer (some ⟨g,0,none⟩))/\w'.cell? ⟨w.heap.size,2,none⟩=some (.int .i64 (p.fac:Int))/\w'.cell? ⟨w.heap.size+1,0,none⟩=some (.int .u32 h)/\w'.cell? ⟨w.heap.size+1,1,none⟩=some (.int .i64 r)) (first|exact CK|exact D0|exact Am)
  (first|(go_at_call 27;refine D9.mono ?_;rintro r w'⟨rfl,rfl⟩)|(go_at_call 15;refine Cc.out.mono ?_;rintro r w2⟨Am,a,er,rfl,hy⟩;have HY:=Q0a hy;clear hy Cc))
 rcases HY.out with ⟨Ci,hq⟩|⟨A,rfl,rfl,hA,hy⟩
 ·have HQ:=Q0a hq;clear hq HY CK D0 D9 Ji Am;rcases Ci with rfl|rfl
  all_goals
   go_wp2_with fail
   (try go_ret);exact⟨_,rfl,HQ.out⟩
 ·have HS:=Q0a hy;have Lc:(0:Int)<=(A:Int):=by omega
  have QC:(A:Int)<=1073741824:=by omega
  have PM:IntKind.u64.wrap (A:Int)=(A:Int):=by rw[IntKind.wrap_u64];omega
  have Jq:IntKind.i64.wrap (A:Int)=(A:Int):=Go.IntWalk.i64_in _ (by omega);have ET:HeldL Z g p.fac h r w.heap.size w2.drew:=Am;generalize ((⟨h,r,0⟩:Ent).a:Nat)=za at *
  clear hy HY CK D0 D9 hA;unfold HeldL at Am ET;go_wp2_with fail
  go_region_held3 (fun w'=>w'.cell? ⟨Z.s,0,none⟩=some (.pointer (some ⟨Z.S.c,0,none⟩))/\w'.cell? ⟨w.heap.size,0,none⟩=some (.pointer (some ⟨g,0,none⟩))/\w'.cell? ⟨w.heap.size,2,none⟩=some (.int .i64 (p.fac:Int))/\w'.cell? ⟨w.heap.size+1,0,none⟩=some (.int .u32 h)/\w'.cell? ⟨w.heap.size+1,1,none⟩=some (.int .i64 r)) (first|exact Am|exact ET|exact CH|exact BC)
   (first|(go_at_call 104;refine(Ji.out _).mono ?_;rintro r w3⟨rfl,An⟩;have CH:=HeldL.grown ET An;have B7:=Q0a An;clear An Ji)|(go_at_call 103;refine(HS.out _ (((Below.refl w2.heap.size w2).drew).trans B7.out)).mono ?_;rintro r w4⟨BC,er,rfl,hz⟩;have HZ:=Q0a hz;clear hz HS))
  rcases HZ.out with ⟨rfl,hq⟩|⟨Ci,hy⟩
  ·have HQ:=Q0a hq;clear hq HZ Am ET CH BC;go_wp2_with fail
   (try go_ret);exact⟨_,rfl,HQ.out⟩
  ·have Nm:HeldL Z g p.fac h r w.heap.size w4.drew:=BC;have D9:=(hy _ ((Below.refl _ _).drew)).1;have HP:=Q0a (hy _ ((Below.refl _ _).drew)).2;have GY:(er==0)=false:=by rcases Ci with rfl|rfl <;> rfl
   clear hy HZ Am ET CH Ci;unfold HeldL at BC Nm;go_wp2_with fail
   go_region_held3 (fun w'=>w'.cell? ⟨Z.s,0,none⟩=some (.pointer (some ⟨Z.S.c,0,none⟩))/\w'.cell? ⟨w.heap.size,0,none⟩=some (.pointer (some ⟨g,0,none⟩))/\w'.cell? ⟨w.heap.size,2,none⟩=some (.int .i64 (p.fac:Int))/\w'.cell? ⟨w.heap.size+1,0,none⟩=some (.int .u32 h)/\w'.cell? ⟨w.heap.size+1,1,none⟩=some (.int .i64 r)) (first|exact BC|exact Nm|exact Oj)
    (first|(go_at_call 27;refine D9.mono ?_;rintro r w'⟨rfl,rfl⟩)|(go_at_call 21;refine HP.out.mono ?_;rintro r w6⟨rfl,Oj,hq⟩;have HQ:=Q0a hq;clear hq HP))
   go_wp2_with fail
   (try go_ret);exact⟨_,rfl,HQ.out⟩
def Z5g(Z:SP)(g f B:Nat)(w':World):Prop:=w'.cell? ⟨Z.s,0,none⟩=some (.pointer (some ⟨Z.S.c,0,none⟩))/\w'.cell? ⟨B,0,none⟩=some (.pointer (some ⟨g,0,none⟩))/\w'.cell? ⟨B,2,none⟩=some (.int .i64 f)
theorem Z2p{w w1:World}{Z:SP}{fr:List Nat}{N K:Nat}(hs:Sep w Z.hl)(hb:Below w.heap.size w w1)(ok:Z.S.Ok fr N K)(t:TPI Z.S Z.tb){i s x g B:Nat}{p:Pl}{e:Ent}(hi:Z.S.l[i]?=some p)(h1:p.st=1)(h2:p.kind=2)(AG:s<256)(he:(Z.tb i).en s=some e)
  (hg:TblZ Z p g w1) (E9:AsideV Z.hl [.pointer (some ⟨g,0,none⟩),.int .u32 x,.int .i64 (p.fac:Int)] (some ⟨B,0,none⟩) w1) :
  Calls prog 173 #[.pointer (some ⟨g,0,none⟩),.int .i64 s] w1 fun rv w2=>rv=.returned (.int .i64 0)/\Z5g Z g p.fac B w2/\e.nd<=1073741824/\∀w3,Below w2.heap.size w2 w3 ->
   Calls prog 27 #[.pointer (some ⟨Z.S.c,0,none⟩)] w3 (fun r w'=>r=.returned (.pointer (some ⟨Z.S.P.p,0,none⟩))/\w3=w') /\
   Calls prog 21 #[.pointer (some ⟨Z.S.P.p,0,none⟩),.int .i64 (p.fac:Int),.int .i64 6,.int .i64 (e.nd:Int)] w3 fun rv w4=>rv=.returned (.int .i64 0)/\Z5g Z g p.fac B w4/\Z9X Z fr N K p.fac i s none w w4:=by
 have s1:=(hs.grown hb).sep;have Bs:∃q∈Z.S.l,q.st=1/\(q.fac:Int)=(p.fac:Int):=⟨p,J3L hi,h1,rfl⟩
 have Ap:=Q1w ok.inv.len hi;refine(Z2o ok (t.x (p.fac:Int)) hi h1 h2 rfl AG he (SP.sS s1) hg.c).mono ?_;rintro rv w2⟨rfl,S1,t',ok1,t1,en,full,lf,al,st⟩;have st1z:=SP.stepS s1 S1 (updT Z.tb i t') al.c st;have st1:Step Z.hl (Z.setS S1 (updT Z.tb i t')).hl w w2:=(hs.grown hb).trans st1z;have BR:=AsideV.step E9 st1z;have NR:e.nd∈S1.P.usedOf 6:=t1.nds.mem_iff.1 (by simp);have hm:=Q0l ok1.inv.mem.pool NR;have Lz:=Q0f ok1.inv.mem.pool;have CK:∀{w3:World} {Z':SP},Z'.s=Z.s->Z'.S.c=Z.S.c->Sep w3 Z'.hl->AsideV Z'.hl [.pointer (some ⟨g,0,none⟩),.int .u32 x,.int .i64 (p.fac:Int)] (some ⟨B,0,none⟩) w3->Z5g Z g p.fac B w3:=fun {w3 Z'} e1 e2 hz hx=>by
  have:=SP.c0 hz;rw[e1,e2] at this;exact⟨this,hx.at 0 _ rfl,hx.at 2 _ rfl⟩
 refine⟨rfl,CK (Z':=Z.setS S1 (updT Z.tb i t')) rfl al.c st1.sep BR,by omega,fun w3 An=>?_⟩;have st3:=st1.trans (st1.sep.grown An);have IB:=AsideV.step BR (st1.sep.grown An);have FX:S1.l[i]?=some p:=by rw[al.l];exact hi
 have km:=Q0S (SP.sS st3.sep);have JU:(Z.setS S1 (updT Z.tb i t')).S.P.p=Z.S.P.p:=al.same.p;have AA:(Z.setS S1 (updT Z.tb i t')).S.c=Z.S.c:=al.c;rw[JU,AA] at km;refine⟨km,?_⟩;obtain⟨ac1,GX⟩:=Q8I ok1 FX h1;have M1:=t1.paid ok1 GX;rw[J3W,J5u] at M1;obtain⟨c,hc⟩:=PL.cls ok1.inv.mem.pool (by omega:1<=6) (by omega);have kp:=Q3T (CO.sP (SP.sS st3.sep)) ok1.inv.mem.pool (p.fac:Int) GX 6 (by rw[Q4y];omega) c hc e.nd (by rw[<- Q0N hc];exact NR) (by omega);rw[JU] at kp;refine kp.mono ?_;rintro rv w4⟨rfl,P2,b6,stp⟩;have MQ:∃q∈S1.l,q.st=1/\(q.fac:Int)=(p.fac:Int):=by rw[al.l];exact Bs
 obtain⟨ok2,t2⟩:=TPX.put (xl:=[]) (xn:=[]) ok1 (.inl rfl) (by rw[if_neg (by decide),if_pos rfl];exact t1) b6 MQ;have al2:=al.trans (Alt.put ok1 b6);have stz:Step (Z.setS S1 (updT Z.tb i t')).hl ((Z.setS S1 (updT Z.tb i t')).setS (S1.paid P2 (p.fac:Int) (-((Q0e 6:Nat):Int))) (updT Z.tb i t')).hl w3 w4:=SP.stepS st3.sep _ _ rfl (CO.stepPaid (SP.sS st3.sep) P2 (p.fac:Int) _ b6.p stp);have stf:Step Z.hl (Z.setS (S1.paid P2 (p.fac:Int) (-((Q0e 6:Nat):Int))) (updT Z.tb i t')).hl w w4:=st3.trans stz;refine⟨rfl,CK (Z':=Z.setS (S1.paid P2 (p.fac:Int) (-((Q0e 6:Nat):Int))) (updT Z.tb i t')) rfl al2.c stf.sep (AsideV.step IB stz),_,t',⟨ok2,t2.done fun j hj=>?_,en,lf,al2⟩,stf⟩
 by_cases ej:j=i
 ·subst ej;rw[updT_same];exact full (t.full j hj)
 ·rw[Q0P ej];exact t.full j hj
theorem Q4f{w:World}{Z:SP}{fr:List Nat}{N K:Nat}(hs:Sep w Z.hl)(ok:Z.S.Ok fr N K)(t:TPI Z.S Z.tb){i s x g:Nat}{p:Pl}{e:Ent}(hi:Z.S.l[i]?=some p)(h1:p.st=1)(h2:p.kind=2)(AG:s<256)(he:(Z.tb i).en s=some e)(hg:TblZ Z p g w) :
  Calls prog 99 #[.pointer (some ⟨Z.s,0,none⟩),.agg #[.pointer (some ⟨g,0,none⟩),.int .u32 x,.int .i64 (p.fac:Int)],.int .i64 s] w fun rv w'=>rv=.returned (.tuple #[])/\Z9X Z fr N K p.fac i s none w w':=by
 have hb:Below w.heap.size w (w.alloc (.cells #[.pointer (some ⟨g,0,none⟩),.int .u32 x,.int .i64 (p.fac:Int)] 191)):=(Below.refl _ _).alloc (J1E _) _;have E9:AsideV Z.hl [.pointer (some ⟨g,0,none⟩),.int .u32 x,.int .i64 (p.fac:Int)] (some ⟨w.heap.size,0,none⟩) (w.alloc (.cells #[.pointer (some ⟨g,0,none⟩),.int .u32 x,.int .i64 (p.fac:Int)] 191)):=fun j v hj=>⟨w.heap.size,rfl,fun hk=>by have:=hs.lt hk;omega,by simp,(Cells.new w 191 [.pointer (some ⟨g,0,none⟩),.int .u32 x,.int .i64 (p.fac:Int)]).cell j v hj⟩
 have T1:=(t.x (p.fac:Int)).tt ok hi h1 h2 (SP.sS (hs.grown hb).sep) (hg.grown hs hb).c;have kg:=Q4d T1 (s:Int);rw[show(Z.tb i).at' (s:Int)=some e by unfold TB.at';rw[if_pos ⟨by omega,by omega⟩,J2C,he]] at kg;have kc:=Z2p hs hb ok t hi h1 h2 AG he (hg.grown hs hb) E9;have HK:=Q0a kc;have b0:=E9.at 0 _ rfl;unfold getV Q0T at kg;generalize Q0t (some e)=ca at *
 clear hb hs ok t hi h1 h2 he hg T1 kc E9;go_enter func99,ntmps99;go_wp2_with fail;refine kg.mono ?_;rintro r w1⟨rfl,rfl⟩;go_wp2_with fail;refine HK.out.mono ?_;rintro r w2⟨rfl,Am,AO,hy⟩;have D9:=(hy _ ((Below.refl _ _).drew)).1;have HP:=Q0a (hy _ ((Below.refl _ _).drew)).2;clear hy HK kg;have Gz:Z5g Z g p.fac w.heap.size w2.drew:=Am;generalize e.nd=nd at *
 have E6:(0:Int)<=(nd:Int)/\(nd:Int)<=1073741824:=by omega
 obtain⟨n0,n1⟩:=E6;have PM:IntKind.u64.wrap (nd:Int)=(nd:Int):=by rw[IntKind.wrap_u64];omega
 have Jq:IntKind.i64.wrap (nd:Int)=(nd:Int):=Go.IntWalk.i64_in _ (by omega);unfold Z5g at Am Gz;go_wp2_with fail
 go_region_held3 (fun w'=>w'.cell? ⟨Z.s,0,none⟩=some (.pointer (some ⟨Z.S.c,0,none⟩))/\w'.cell? ⟨w.heap.size,0,none⟩=some (.pointer (some ⟨g,0,none⟩))/\w'.cell? ⟨w.heap.size,2,none⟩=some (.int .i64 (p.fac:Int))) (first|exact Am|exact Gz|exact Cj)
  (first|(go_at_call 27;refine D9.mono ?_;rintro r w'⟨rfl,rfl⟩)|(go_at_call 21;refine HP.out.mono ?_;rintro r w4⟨rfl,Cj,hq⟩;have HQ:=Q0a hq;clear hq HP))
 go_wp2_with fail
 first|exact⟨rfl,HQ.out⟩|(go_end0;exact⟨rfl,HQ.out⟩)
theorem Z9Y{N:List (En Nd)}(hs:N.Pairwise (fun a b=>(a.q.sp,a.q.sl)≠(b.q.sp,b.q.sl)))(Af:N.Pairwise (fun a b=>a.id≠b.id)){id:Int}{e:En Nd}(hf:find N id=some e):delS (okv N) (e.q.sp,e.q.sl)=okv (rem N id):=by
 obtain⟨A,B,hN,_,hr⟩:=Q4r Af hf;rw[hr];rw[hN,J2l,J2d] at hs;obtain⟨_,⟨hB,_⟩,hA⟩:=hs
 conv=>lhs;rw[hN]
 unfold delS okv;rw[J4Z,J1H,J3u,J5D,J4Z];have a1:List.filter (fun q=>decide (q.1≠(e.q.sp,e.q.sl))) (A.map fun e=>((e.q.sp,e.q.sl),Value.int .i64 e.id))=A.map fun e=>((e.q.sp,e.q.sl),Value.int .i64 e.id):=by
  rw[J5z];intro x hx;obtain⟨c,hc,rfl⟩:=J1K.1 hx;show decide ((c.q.sp,c.q.sl)≠(e.q.sp,e.q.sl))=true;exact decide_eq_true (hA c hc e (by simp))
 have a2:List.filter (fun q=>decide (q.1≠(e.q.sp,e.q.sl))) (B.map fun e=>((e.q.sp,e.q.sl),Value.int .i64 e.id))=B.map fun e=>((e.q.sp,e.q.sl),Value.int .i64 e.id):=by
  rw[J5z];intro x hx;obtain⟨c,hc,rfl⟩:=J1K.1 hx;show decide ((c.q.sp,c.q.sl)≠(e.q.sp,e.q.sl))=true;exact decide_eq_true (hB c hc).symm
 rw[a1,a2,if_neg (by simp)]
def FO.cut(q:FO)(id:Int):FO:={q with N:=rem q.N id}
theorem FO.cut_perm{q:FO}(Af:q.N.Pairwise (fun a b=>a.id≠b.id)){id:Int}{e:En Nd}(hf:find q.N id=some e) :
  (q.head::(q.m,isMI (kvs (rem q.N id)))::(q.o,isMS (okv (rem q.N id)))::q.N.flatMap (ndH q.kr)).Perm ((q.cut id).hl++ndH q.kr e):=by
 obtain⟨A,B,hN,_,hr⟩:=Q4r Af hf;have e1:(q.cut id).hl=q.head::(q.m,isMI (kvs (rem q.N id)))::(q.o,isMS (okv (rem q.N id)))::(A.flatMap (ndH q.kr)++B.flatMap (ndH q.kr)):=by
  show q.head::(q.m,isMI (kvs (rem q.N id)))::(q.o,isMS (okv (rem q.N id)))::(rem q.N id).flatMap (ndH q.kr)=_;rw[hr,J2i]
 have e2:q.N.flatMap (ndH q.kr)=A.flatMap (ndH q.kr)++(ndH q.kr e++B.flatMap (ndH q.kr)):=by
  conv=>lhs;rw[hN]
  rw[J2i,J2a]
 rw[e1,e2];simp only[J3I];refine List.Perm.cons _ (List.Perm.cons _ (List.Perm.cons _ ?_));rw[J2x];exact J4o _ J4l
theorem FO.spots_ok{q:FO}(hn:∀e∈q.N,0<=e.q.sp/\e.q.sp<4294967296/\0<=e.q.sl/\e.q.sl<256):∀p∈okv q.N,Q1x prog 173 p.1:=fun p hp=>by
 obtain⟨c,hc,rfl⟩:=J1K.1 hp;obtain⟨h1,h2,h3,h4⟩:=hn c hc;exact Q5L (p:=(c.q.sp,c.q.sl)) h1 (by show c.q.sp<_;omega) h3 (by show c.q.sl<_;omega)
theorem FO.okv_nd{N:List (En Nd)}(hs:N.Pairwise (fun a b=>(a.q.sp,a.q.sl)≠(b.q.sp,b.q.sl))):(okv N).Pairwise (fun a b=>a.1≠b.1):=by
 unfold okv;exact J2h.2 hs
theorem FO.delSteps{w:World}{q:FO}(h:Sep w q.hl)(Af:q.N.Pairwise (fun a b=>a.id≠b.id))(hs:q.N.Pairwise (fun a b=>(a.q.sp,a.q.sl)≠(b.q.sp,b.q.sl)))(hn:∀e∈q.N,0<=e.q.sp/\e.q.sp<4294967296/\0<=e.q.sl/\e.q.sl<256)
  {id:Int} {e:En Nd} (hf:find q.N id=some e) (t1 t2 t3 t4:TypeId) :
  ∃w3,(Builtin.delete_ #[280,t1] t2 #[.map (some q.m),.int .i64 id]).run prog w=.ok (.tuple #[]) w3/\Step q.hl (q.head::(q.m,isMI (kvs (rem q.N id)))::(q.o,isMS (okv q.N))::q.N.flatMap (ndH q.kr)) w w3 /\
   ∀w3',Below w3.heap.size w3 w3'->∃w4,(Builtin.delete_ #[281,t3] t4 #[.map (some q.o),.agg #[.int .i64 e.q.sp,.int .i64 e.q.sl]]).run prog w3'=.ok (.tuple #[]) w4/\Step q.hl ((q.cut id).hl++ndH q.kr e) w w4:=by
 obtain⟨BO,EZ⟩:=Q0d hf;obtain⟨w3,r3,m3,g3⟩:=Q3r (FO.map h) id t1 t2 underlying280 underlying3;rw[Z9h] at m3;obtain⟨es,Ag,ho,hr⟩:=m3;have s3:=Sep.turn (A:=[q.head]) (B:=(q.o,isMS (okv q.N))::q.N.flatMap (ndH q.kr)) (q':=isMI (kvs (rem q.N id))) h g3 ⟨_,ho,es,Ag,rfl,hr⟩;refine⟨w3,r3,s3,fun w3' hb=>?_⟩;have s3':=s3.trans (s3.sep.grown hb);have m3':Q2L w3' q.o (okv q.N):=s3'.sep.map (by simp[isMS]);have GM:=hn e BO;obtain⟨w4,r4,m4,g4⟩:=Q5H m3' Q9T (FO.okv_nd hs) (FO.spots_ok hn) (Q5L (p:=(e.q.sp,e.q.sl)) GM.1 (by show e.q.sp<_;omega) GM.2.2.1 (by show e.q.sl<_;omega)) t3 t4 underlying281
 rw[Z9Y hs Af hf] at m4;obtain⟨es4,EQ,PX,Ld⟩:=m4;have s4:=Sep.turn (A:=[q.head,(q.m,isMI (kvs (rem q.N id)))]) (B:=q.N.flatMap (ndH q.kr)) (q':=isMS (okv (rem q.N id))) s3'.sep g4 ⟨_,PX,es4,EQ,rfl,Ld⟩;exact⟨w4,r4,(s3'.trans s4).perm (J4Q _) (FO.cut_perm Af hf)⟩
theorem Z1a(f:En Nd->Nd):∀(N:List (En Nd)) (id:Int),rem (mapE f N) id=mapE f (rem N id)
 | [],_=>rfl
 | c::r,id=>by
  show rem ({c with q:=f c}::mapE f r) id=mapE f (rem (c::r) id);unfold rem;show(if id=c.id then mapE f r else {c with q:=f c}::rem (mapE f r) id)=_;rw[Z1a f r id];split <;> rfl
theorem Q8K{N:List (En Nd)}(Af:N.Pairwise (fun a b=>a.id≠b.id)){c p:En Nd}{id:Int}(hc:c∈N)(hi:c.id=id)(hp:find N id=some p):c=p:=by
 have:=Q0r Af hc;rw[hi,hp] at this;exact(J2u this).symm
def cutK(p:Nd)(id:Int):Nd:={p with ks:=p.ks.filter fun k=>decide (k≠id)}
theorem Z7M{N:List (En Nd)}(Af:N.Pairwise (fun a b=>a.id≠b.id)){e p:En Nd}(hp:find N e.q.par=some p) :
  rem (mapE (fun c=>if c.id=e.q.par then cutK p.q e.id else c.q) N) e.id=Q0E N e 0:=by
 rw[Z1a];unfold Q0E;refine Q4z fun c hc=>?_
 have UN:=Q7p hc;unfold Q0s;rw[J4X];by_cases h:c.id=e.q.par
 ·have:=Q8K Af UN h hp;subst this;simp[h,cutK]
 ·simp[h]
theorem Z5h{N:List (En Nd)}{e:En Nd}(h:∀c∈N,c.id≠e.q.par):rem N e.id=Q0E N e 0:=by
 unfold Q0E;rw[Q9O];intro c hc;have:=h c (Q7p hc);unfold Q0s;simp[this]
theorem Q5P{N:List (En Nd)}(Af:N.Pairwise (fun a b=>a.id≠b.id))(e:En Nd)(j:Nat):(Q0E N e j).Pairwise (fun a b=>a.id≠b.id):=Q1K (fun _ _ h=>h) (Af.sublist (Q3A N e.id))
theorem Q5Q{N:List (En Nd)}(Af:N.Pairwise (fun a b=>a.id≠b.id))(e:En Nd)(j:Nat)(id:Int):find (Q0E N e j) id=if id=e.id then none else(find N id).map fun c=>{c with q:=Q0s e j c}:=by
 unfold Q0E;rw[Q1l,Z0w Af];split <;> rfl
theorem Z5i{N:List (En Nd)}(Af:N.Pairwise (fun a b=>a.id≠b.id)){e:En Nd}{j:Nat}{k:Int}(hk:e.q.ks[j]?=some k)(AO:e.q.ks.Nodup){c p:En Nd}(hc:find (Q0E N e j) k=some c)(DS:k≠e.q.par)
  (hp:find (mapE (fun d=>if d.id=k then {c.q with par:=e.q.par} else d.q) (Q0E N e j)) e.q.par=some p) :
  mapE (fun d=>if d.id=e.q.par then {p.q with ks:=p.q.ks++[k]} else d.q) (mapE (fun d=>if d.id=k then {c.q with par:=e.q.par} else d.q) (Q0E N e j))=Q0E N e (j+1):=by
 have Cs:=Q5P Af e j;obtain⟨Cy,LW⟩:=Q0d hc;rw[Q5I];unfold Q0E at Cs hc hp Cy ⊢;rw[Q5I];refine Q4z fun d hd=>?_
 have Bh:e.q.ks.take (j+1)=e.q.ks.take j++[k]:=by
  rw[J3t,hk];rfl
 have F1:({d with q:=Q0s e j d}:En Nd)∈mapE (Q0s e j) (rem N e.id):=J1K.2 ⟨d,hd,rfl⟩;by_cases h1:d.id=e.q.par
 ·have h2:d.id≠k:=fun h=>DS (by rw[<- h,h1])
  have Gy:p={d with q:=Q0s e j d}:=by
   have hx:find (mapE (fun d=>if d.id=k then {c.q with par:=e.q.par} else d.q) (mapE (Q0s e j) (rem N e.id))) d.id=some ({d with q:=Q0s e j d}:En Nd):=by
    rw[Q1l];have:=Q0r Cs F1;simp only at this;rw[this];simp only[J3l,if_neg h2]
   exact(J2u (hx.symm.trans ((congrArg (find _) h1).trans hp))).symm
  simp only[h1,if_true];rw[Gy];have h3:¬e.q.par=k:=fun h=>DS h.symm
  unfold Q0s;simp only[h1,if_true,Bh,J2m,J3E,h3,or_false,J2x]
 ·simp only[h1,if_false];by_cases h2:d.id=k
  ·simp only[h2,if_true];have ET:c={d with q:=Q0s e j d}:=Q8K Cs F1 h2 hc |>.symm;rw[ET];have h3:¬k=e.q.par:=DS;unfold Q0s;simp only[h2,h3,if_false,Bh,J2m,J3E,or_true,if_true]
  ·simp only[h2,if_false];unfold Q0s;simp only[h1,if_false,Bh,J2m,J3E,h2,or_false]
theorem Z2q{N:List (En Nd)}(Af:N.Pairwise (fun a b=>a.id≠b.id)){e:En Nd}{j:Nat}{k:Int}(hk:e.q.ks[j]?=some k){c:En Nd}(hc:find (Q0E N e j) k=some c)(Aw:∀d∈N,d.id≠e.q.par) :
  mapE (fun d=>if d.id=k then {c.q with par:=e.q.par} else d.q) (Q0E N e j)=Q0E N e (j+1):=by
 have Cs:=Q5P Af e j;unfold Q0E at Cs hc ⊢;rw[Q5I];refine Q4z fun d hd=>?_
 have Bh:e.q.ks.take (j+1)=e.q.ks.take j++[k]:=by
  rw[J3t,hk];rfl
 have F1:({d with q:=Q0s e j d}:En Nd)∈mapE (Q0s e j) (rem N e.id):=J1K.2 ⟨d,hd,rfl⟩;have h1:=Aw d (Q7p hd);by_cases h2:d.id=k
 ·simp only[h2,if_true];have ET:c={d with q:=Q0s e j d}:=Q8K Cs F1 h2 hc |>.symm;rw[ET];have h3:¬k=e.q.par:=h2 ▸ h1;unfold Q0s;simp only[h3,if_false,Bh,J2m,J3E,h2,or_true,if_true]
 ·simp only[h2,if_false];unfold Q0s;simp only[h1,if_false,Bh,J2m,J3E,h2,or_false]
end Go.Proofs.YtfidemmgofcnmaaGreatDoor
