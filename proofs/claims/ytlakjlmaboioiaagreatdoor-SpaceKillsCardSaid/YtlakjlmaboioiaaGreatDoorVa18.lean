/- What the laws of spaces share is proved. No condition. Part of a proof. -/
import Derived.Test.YtlakjlmaboioiaaGreatDoorVa17
set_option maxHeartbeats 2000000
set_option linter.unusedVariables false
namespace Go.Proofs.YtlakjlmaboioiaaGreatDoor
open Go.RowKit Go.Proofs.Tryz
theorem Z0T {t:TB} {k:Nat} (h:t.noneIn k=true):∀s,s<256->s/16=k->t.en s=none:=by
 intro s hs hk;unfold TB.noneIn at h;rw [J5m] at h;have:=h (s%16) (J2x.2 (J5n _ (by omega)));rw [show 16*k+s%16=s by omega] at this;exact Option.isNone_iff_eq_none.1 this
theorem Q9v {t:TB} {k:Nat} (hk:k<16) (h:t.noneIn k=false):∃s,s<256/\s/16=k/\t.en s≠none:=by
 unfold TB.noneIn at h;rw [List.all_eq_false] at h;obtain⟨j,hj,hn⟩:=h;have:=J2x.1 hj;refine⟨16*k+j,by omega,by omega,fun e=>hn ?_⟩;rw [e];rfl
section
variable {S:CO} {fr:List Nat} {N K:Nat} {tb:Nat->TB} {own:Int} {xl xn:List Nat}
theorem Q9w (ok:S.Ok fr N K) {i:Nat} {p:Pl} (hi:S.l[i]?=some p) (h1:p.st=1):∃e,find S.P.q.E (p.fac:Int)=some e:=ok.inv.tre.fac p (J4v hi) (Pl.is_iff.2 (.inl h1))
theorem TPX.paid (ok:S.Ok fr N K) (t:TPX S tb own xl xn) {e:En Fa} (he:find S.P.q.E own=some e):256*(xl.length:Int)+48*(xn.length:Int)<=e.q.charged:=by
 have h1:=ok.inv.tre.charged own e he;have h2:=t.xc own;rw [if_pos rfl] at h2;have h3:=Z0M S.l tb own;have h4:=Q5e S.l own;omega
theorem Z3q (ok:S.Ok fr N K) (t:TPX S tb own xl xn) {i s:Nat} {p:Pl} (hi:S.l[i]?=some p) (h1:p.st=1) (h2:p.kind=2) (Ak:(p.fac:Int)=own) (hs:s<256) {e:Ent} (he:(tb i).en s=some e) {w:World} {g:Nat} (AB:Sep w S.hl) (hg:TblC S p g w) :
  Calls prog 165 #[.pointer (some ⟨g,0,none⟩),.int .i64 s] w fun r w'=>r=.returned (.int .i64 0)/\Put1 S fr N K tb own xl (e.nd::xn) i s none w w':=by
 have An:=Q1r ok.inv.len hi;have T:=t.tt ok hi h1 h2 AB hg;have hl:(tb i).lf (s/16)≠0:=fun h=>by
  have:=T.tin.hole s hs h;rw [he] at this;cases this
 have hL:=t.leaf An (by omega:s/16<16) hl;have hm:=Q0m ok.inv.mem.pool hL;have hb:=Q0p ok.inv.mem.pool;have c0:=hg.c0;have kg:=Q3L T (s:Int);rw [show (tb i).at' (s:Int)=some e by unfold TB.at';rw [if_pos ⟨by omega,by omega⟩,J3m,he]] at kg;have km:=Q5R w (s:Int);rw [decide_eq_true (show 0<=(s:Int)/\(s:Int)<256 from ⟨by omega,by omega⟩)] at km;have kl:=Q4P T s hs;have ka:=Q1f (CO.sP AB);have ks:=Q3p w ((tb i).lf (s/16)) s (by omega) hs;have CH:((e.nd::xn)++((tb i).setE s none).nds).Perm (xn++(tb i).nds):=by
  refine List.Perm.trans ?_ (J4W xn (TB.nds_clr hs he).symm);exact J5L.symm
 have Bc:∃p∈S.l,p.st=1/\(p.fac:Int)=own:=⟨p,J4v hi,h1,Ak⟩
 have HX:Hid (Calls prog 158 #[.pointer (some ⟨S.P.a.a,0,none⟩),.int .i64 (((tb i).lf (s/16)+16*(s%16):Nat):Int),.slice (some ⟨w.heap.size,0,none⟩) 2 2] (w.alloc (.cells #[.int .u64 0,.int .u64 0] 171)) fun r w2 =>
   r=.returned (.int .i64 0)/\w2.cell? ⟨g,0,none⟩=some (.pointer (some ⟨S.P.p,0,none⟩))/\∃b:Bool,Calls prog 234 #[.pointer (some ⟨g,0,none⟩),.int .i64 (((tb i).lf (s/16):Nat):Int)] w2 (fun r w'=>r=.returned (.bool b)/\w2=w') /\
    ((b=false/\Put1 S fr N K tb own xl (e.nd::xn) i s none w w2) ∨
     (b=true/\Calls prog 155 #[.pointer (some ⟨S.P.p,0,none⟩)] w2 (fun r w'=>r=.returned (.pointer (some ⟨S.P.a.a,0,none⟩))/\w2=w') /\
     Calls prog 181 #[.pointer (some ⟨g,0,none⟩),.int .i64 s] w2 (fun r w'=>r=.returned (.int .i64 ((p.at_+8*(s/16):Nat):Int))/\w2=w') /\
     Calls prog 158 #[.pointer (some ⟨S.P.a.a,0,none⟩),.int .i64 ((p.at_+8*(s/16):Nat):Int),.slice (some ⟨w2.heap.size,0,none⟩) 1 1] (w2.alloc (.cells #[.int .u64 0] 171)) (fun r w3=>r=.returned (.int .i64 0)/\(w3.cell? ⟨g,0,none⟩=some (.pointer (some ⟨S.P.p,0,none⟩))/\w3.cell? ⟨g,1,none⟩=some (.int .i64 (p.fac:Int))) /\
      Calls prog 159 #[.pointer (some ⟨S.P.p,0,none⟩),.int .i64 (p.fac:Int),.int .i64 7,.int .i64 (((tb i).lf (s/16):Nat):Int)] w3.drew (fun r w4=>r=.returned (.int .i64 0)/\(w4.cell? ⟨g,0,none⟩=some (.pointer (some ⟨S.P.p,0,none⟩))/\w4.cell? ⟨g,1,none⟩=some (.int .i64 (p.fac:Int)))/\Put1 S fr N K tb own xl (e.nd::xn) i s none w w4))))):=by
  refine (Q4l (o:=none) ok t hi h1 h2 Ak hs hl CH (by decide) (by decide) AB).mono ?_;rintro r w2 ⟨rfl,S2,ok2,t2,al2,st2⟩;have B8:=hg.alt al2 st2;have c2:=B8.c0;rw [al2.same.p] at c2;have EP:S2.l[i]?=some p:=by rw [al2.l];exact hi
  have T2:=t2.tt ok2 EP h1 h2 st2.sep B8;rw [updT_same] at T2;have ke:=Z3p T2 (s/16) (by omega) hl;refine⟨rfl,c2,((tb i).setE s none).noneIn (s/16),ke,?_⟩;cases Ar:((tb i).setE s none).noneIn (s/16) with
  | false =>
   refine .inl ⟨rfl,S2,_,ok2,t2,fun _=>rfl,fun hf k hk h0=>?_,fun _=>.inr (.inr rfl),al2,st2⟩;by_cases DM:k=s/16
   ·rw [DM];exact Q9v (by omega) Ar
   ·obtain⟨x,hx,e1,e2⟩:=hf k hk h0;refine⟨x,hx,e1,?_⟩;show (if x=s then none else (tb i).en x)≠none;rw [if_neg (fun h=>DM (by rw [<- e1,h]))];exact e2
  | true =>
   have Iv:=Q1f (CO.sP st2.sep);rw [al2.same.aa,al2.same.p] at Iv;refine .inr ⟨rfl,Iv,Q6x T2 s hs,?_⟩;have Ko:(((tb i).lf (s/16)::xl)++((updT tb i ((tb i).setE s none) i).setL (s/16) 0).lvs).Perm (xl++(updT tb i ((tb i).setE s none) i).lvs):=by
    rw [updT_same];refine List.Perm.trans ?_ (J4W xl (TB.lvs_drop (t:=(tb i).setE s none) (k:=s/16) (by omega) hl).symm);exact J5L.symm
   have kr:=Q7F (L:=0) ok2 t2 EP h1 h2 Ak (by omega:s/16<16) (by omega) Ko (.inr ⟨rfl,fun x hx I9=>by rw [updT_same];exact Z0T Ar x hx I9⟩) st2.sep;rw [al2.same.aa] at kr;refine kr.mono ?_;rintro r w3 ⟨rfl,S3,ok3,t3,al3,st3⟩;rw [updT_same,Q1c] at t3;have al23:=al2.trans al3;have st23:=st2.trans st3;have KG:=hg.alt al23 st23;have c3:=KG.c0;rw [al23.same.p] at c3;refine⟨rfl,⟨c3,KG.c1⟩,?_⟩;have UM:S3.l[i]?=some p:=by rw [al23.l];exact hi
   obtain⟨ac,FQ⟩:=Q9w ok3 UM h1;rw [Ak] at FQ ⊢;have Nj:=t3.paid ok3 FQ;rw [J2S,J2S] at Nj;obtain⟨c,hc⟩:=PL.cls ok3.inv.mem.pool (by omega:1<=7) (by omega);have Rm:(tb i).lf (s/16)∈S3.P.usedOf 7:=t3.lvs.mem_iff.1 (by simp);have S8:=Q0m ok3.inv.mem.pool Rm;have As:=Q0p ok3.inv.mem.pool;have kp:=Q4C (CO.sP st3.sep.drew) ok3.inv.mem.pool own FQ 7 (by rw [Q2T];omega) c hc ((tb i).lf (s/16)) (by rw [<- Q0T hc];exact Rm) (by omega);rw [al23.same.p] at kp;refine kp.mono ?_;rintro r w4 ⟨rfl,P',g7,st⟩;have M0:∃p∈S3.l,p.st=1/\(p.fac:Int)=own:=by rw [al23.l];exact Bc
   obtain⟨ok4,t4⟩:=TPX.put (xl:=xl) (xn:=e.nd::xn) ok3 (.inr rfl) (by rw [if_pos rfl,if_neg (by decide)];exact t3) g7 M0;have al4:=Alt.put ok3 g7;have st4:Step S3.hl (S3.paid P' own (-((Q0c 7:Nat):Int))).hl w3 w4:=(CO.stepPaid st3.sep.drew P' own _ g7.p st).from_drew;have alz:=al23.trans al4;have stz:=st23.trans st4;have Ij:=hg.alt alz stz;have c4:=Ij.c0;rw [alz.same.p] at c4;have Ri:=Ij.c1;rw [Ak] at Ri;refine⟨rfl,⟨c4,Ri⟩,_,_,ok4,t4,fun _=>rfl,fun hf k hk h0=>?_,fun k=>?_,alz,stz⟩
   rotate_left
   ·by_cases DM:k=s/16
    ·refine .inr (.inl ?_);show (if k=s/16 then 0 else (tb i).lf k)=0;rw [if_pos DM]
    ·refine .inr (.inr ?_);show (if k=s/16 then 0 else (tb i).lf k)=_;rw [if_neg DM]
   have Dy:(if k=s/16 then 0 else (tb i).lf k)≠0:=h0;have DM:k≠s/16:=fun h=>Dy (by rw [if_pos h])
   rw [if_neg DM] at Dy;obtain⟨x,hx,e1,e2⟩:=hf k hk Dy;refine⟨x,hx,e1,?_⟩;show (if x=s then none else (tb i).en x)≠none;rw [if_neg (fun h=>DM (by rw [<- e1,h]))];exact e2
 have Cj:Q0s (some e)≠0:=fun h=>by simpa using codeA_zero.1 h
 have Aa:(((Q0s (some e):Nat):Int)==0)=false:=by simpa using Cj
 generalize Put1 S fr N K tb own xl (e.nd::xn) i s none w=Q at *
 unfold getV at kg;unfold ptr at *
 generalize Q0s (some e)=x at *
 generalize Q0V (some e)=y at *
 generalize ((tb i).lf (s/16)+16*(s%16):Nat)=v at *
 generalize (tb i).lf (s/16)=L at *
 generalize (p.at_+8*(s/16):Nat)=u at *
 generalize (p.fac:Int)=fa at *
 clear ok t hi T CH AB hg Ak h1 h2 hl Cj Bc hL hm;go_enter func165,ntmps165;go_wp2_with fail;refine kg.mono ?_;rintro e w' ⟨rfl,rfl⟩;go_wp2_with fail;refine km.mono ?_;rintro e w' ⟨rfl,rfl⟩;go_wp2_with fail;refine kl.mono ?_;rintro e w' ⟨rfl,rfl⟩;go_wp2_with fail;refine ka.mono ?_;rintro e w' ⟨rfl,rfl⟩;go_wp2_with fail;refine ks.mono ?_;rintro e w' ⟨rfl,rfl⟩;go_wp2_with fail;refine HX.out.mono ?_;rintro e w2 ⟨rfl,c2,b,ke,hy⟩;have HY:=Q0a hy;clear hy HX;go_wp2_with fail;refine ke.mono ?_;rintro e w' ⟨rfl,rfl⟩;rcases HY.out with ⟨rfl,hy⟩|⟨rfl,Iv,kr,hy⟩
 ·have HZ:=Q0a hy;clear hy HY;go_wp2_with fail
  first|exact⟨rfl,HZ.out⟩|(go_ret;exact⟨rfl,HZ.out⟩)
 ·have HZ:=Q0a hy;clear hy HY;go_wp2_with fail;refine Iv.mono ?_;rintro e w' ⟨rfl,rfl⟩;go_wp2_with fail;refine kr.mono ?_;rintro e w' ⟨rfl,rfl⟩;go_wp2_with fail;refine HZ.out.mono ?_;rintro e w3 ⟨rfl,⟨c3,TK⟩,hp⟩;have d3:w3.drew.cell? ⟨g,0,none⟩=some (.pointer (some ⟨S.P.p,0,none⟩)):=c3;have d31:w3.drew.cell? ⟨g,1,none⟩=some (.int .i64 fa):=TK;have HP:=Q0a hp;clear hp HZ ke Iv kr;go_wp2_with fail
  go_region_held3 (fun w'=>w'.cell? ⟨g,0,none⟩=some (.pointer (some ⟨S.P.p,0,none⟩))/\w'.cell? ⟨g,1,none⟩=some (.int .i64 fa)) (first|exact⟨c3,TK⟩|exact⟨d3,d31⟩|exact Ah)
   (first|(go_at_call 159;refine HP.out.mono ?_;rintro r w4 ⟨rfl,Ah,hq⟩;have HQ:=Q0a hq;clear hq HP))
  go_wp2_with fail
  first|exact⟨rfl,HQ.out⟩|(go_ret;exact⟨rfl,HQ.out⟩)
end
def OutI (w wr:World) (v:Value) (L:List Int):Prop:=wr.ownsRow w.heap.size 3 1 v L.length (L.map encI)/\Below w.heap.size w wr
theorem OutI.nil (w:World):OutI w w (.slice none 0 0) []:=⟨World.ownsRow_nil _ _ _ _,Below.refl _ _⟩
theorem OutI.below {w wr w1:World} {v:Value} {L:List Int} (h:OutI w wr v L) (hb:Below wr.heap.size wr w1):OutI w w1 v L:=
 ⟨h.1.kept (row:=none) ⟨hb.os,hb.tape,hb.output,hb.size,fun k hk _=>hb.block k hk⟩ (by cases hv:v.ownBlock with|none=>exact .inl rfl|some b=>exact .inr (by simp)),h.2.trans (hb.mono h.2.size)⟩
theorem OutI.app {w wr:World} {v:Value} {L:List Int} (h:OutI w wr v L) (hl:L.length<=16777216) (x:Int) (ty:TypeId):∃v' w',(Builtin.append_ #[36,36] ty #[v,.slice (some ⟨wr.heap.size,0,none⟩) 1 1]).run prog (wr.alloc (.cells #[.int .i64 x] 3))=.ok v' w'/\OutI w w' v' (L++[x]):=by
 obtain⟨i0,hi,BN,Bt,Bp⟩:=info_parts Z0R;have h2:=h.below ((Below.refl _ _).alloc (J2h _) (.cells #[.int .i64 x] 3));obtain⟨v',w',hr,q1,q2,_,q4⟩:=run_append_own_at (P:=prog) (wr.alloc (.cells #[.int .i64 x] 3)) w.heap.size 36 ty 3 i0 (.int .i64 0) 1 8 underlying36 hi BN Bt Bp rfl (by decide) v L.length (L.map encI) h2.1 ⟨wr.heap.size,0,none⟩ 1 1 [.int .i64 x] rfl (by
  intro j u hj;have:=(Cells.new wr 3 [.int .i64 x]).cell j u hj;have e:(⟨wr.heap.size,0,none⟩:Addr).add j=⟨wr.heap.size,j,none⟩:=by unfold Addr.add;split <;> simp_all
  rw [e];exact this) (fun u hu=>by rw [J4o.1 hu];rfl) (by unfold maxLen;omega) (by omega) h2.2.size
 refine⟨v',w',hr,?_,?_⟩
 ·rw [J2R,J5K];exact q1
 ·exact h2.2.trans ((Below.refl _ _).mono h2.2.size |>.grown q2 h2.2.size (fun b hb=>(h2.1.lt b hb).1))
def Q0X (t:TB) (k:Nat):List Int:=((List.range k).filter fun s=>(t.en s).isSome).map fun (s:Nat)=>(s:Int)
theorem Q9x (t:TB) (k:Nat):Q0X t (k+1)=Q0X t k++if (t.en k).isSome=true then [(k:Int)] else []:=by
 unfold Q0X;rw [J2s,J4e,J5K,J6s];split <;> simp
theorem Q4m (t:TB) (k:Nat):(Q0X t k).length<=k:=by
 unfold Q0X;rw [J3Q];exact J2i (J4w _ _) (by simp)
def NewIs (w:World) (L:List Int) (r:Ending) (w':World):Prop:=∃v,r=.returned v/\w'.ownsRow w.heap.size 3 1 v L.length (L.map encI)/\Below w.heap.size w w'
section
variable {w:World} {S:CO} {t:TB} {p:Pl} {g:Nat}
theorem Q7G (h:TT S t p g w):Calls prog 89 #[.pointer (some ⟨g,0,none⟩)] w (NewIs w (Q0X t 256)):=by
 have HG:Hid (∀(wr:World) (s:Nat),Below w.heap.size w wr->s<256->Calls prog 103 #[.pointer (some ⟨g,0,none⟩),.int .i64 s] wr fun r w'=>r=getV (t.en s)/\wr=w'):=fun wr s hb hs=>by
  have:=Q3L (h.grown hb) (s:Int);have ho:t.at' (s:Int)=t.en s:=by unfold TB.at';rw [if_pos ⟨by omega,by omega⟩,J3m]
  rw [ho] at this;exact this
 clear h;go_enter func89,ntmps89;go_wp2_with fail
 go_loopg [3,7] 256 (fun gk ov iv wr=>∃k:Nat,iv=.int .i64 k/\k+gk=256/\OutI w wr ov (Q0X t k))
 case atStart=>exact⟨0,rfl,rfl,by simpa [Q0X] using OutI.nil w⟩
 case round =>
  obtain⟨k,rfl,A7,Aq⟩:=hrel;have HO:=Q0a Aq;have C0:=Q0a A7;clear A7;by_cases hk:k<256
  ·have B0:=HG.out wr k Aq.2 hk;have CE:(k:Int)<256:=by omega
   have O2:=Q9x t k;have Tt:=Q0a O2;have Ac:=Q4m t k;clear Aq O2;cases he:t.en k with
   | none =>
    rw [he] at B0;have HE:=Q0a he;unfold getV Q0s Q0V at B0;clear he;go_wp2_with fail;refine B0.mono ?_;rintro e w' ⟨rfl,rfl⟩;go_wp2_with fail;go_roundg (256-(k+1))
    case measure=>have:=C0.out;omega
    case rel=>exact⟨k+1,by go_num,by have:=C0.out;omega,by
     have h1:=Tt.out;rw [HE.out] at h1;rw [h1]
     simpa using HO.out⟩
   | some e =>
    rw [he] at B0;have HE:=Q0a he;have Aa:Q0s (some e)≠0:=fun hz=>by cases codeA_zero.1 hz
    have Gt:(((Q0s (some e):Nat):Int) != 0)=true:=by simpa using Aa
    have ML:(((Q0s (some e):Nat):Int)==0)=false:=by simpa using Aa
    unfold getV at B0;generalize Q0s (some e)=ca at *
    generalize Q0V (some e)=cb at *
    clear he Aa;go_wp2_with fail;refine B0.mono ?_;rintro e1 w' ⟨rfl,rfl⟩;obtain⟨v',w5,Br,Jy⟩:=HO.out.app (by omega) (k:Int) 36;have We:=Q0a Jy;clear Jy;go_wp2_with (at_builtin;refine Lib.wpList_append_run _ rfl _ _ _ _ rfl _ _ rfl rfl _ _ Br ?_);go_roundg (256-(k+1))
    case measure=>have:=C0.out;omega
    case rel=>exact⟨k+1,by go_num,by have:=C0.out;omega,by
     have h1:=Tt.out;rw [HE.out] at h1;rw [h1]
     simpa using We.out⟩
  ·obtain rfl:k=256:=by have:=C0.out;omega
   have HR:Hid (NewIs w (Q0X t 256) (.returned u3) wr):=⟨u3,rfl,HO.out.1,HO.out.2⟩
   clear Aq HO;go_wp2_with fail
   first|exact HR.out|(go_ret;exact HR.out)
end
theorem J0I {w:World} {S:CO} {fr:List Nat} {N K:Nat} (hs:Sep w S.hl) (ok:S.Ok fr N K) {p:Pl} (hu:p.at_∈S.P.usedOf 2):Calls prog 161 #[.pointer (some ⟨S.P.p,0,none⟩),.int .i64 (p.fac:Int),.int .i64 (p.at_:Int)] w fun r w'=>∃g:Nat,r=.returned (.pointer (some ⟨g,0,none⟩))/\Below w.heap.size w w'/\TblC S p g w'/\w.heap.size<=g:=by
 have hm:=Q0m ok.inv.mem.pool hu;have Id:=Q0p ok.inv.mem.pool;have kh:=Z1I (CO.sP hs) ok.inv.mem.pool 2 (p.at_:Int) (by unfold Z5h;omega);have DF:S.P.has 2 (p.at_:Int)=true:=by
  unfold PL.has PL.usedI;rw [decide_eq_true_eq,if_pos (by omega),J3m];exact⟨by omega,hu⟩
 rw [DF] at kh;have HF:Hid (∀w1,Below w.heap.size w w1->(∃g:Nat,(Ending.returned (.pointer (some ⟨w1.heap.size,0,none⟩)):Ending)=.returned (.pointer (some ⟨g,0,none⟩))/\Below w.heap.size w (w1.alloc (.cells #[ptr S.P.p,.int .i64 (p.fac:Int),.int .i64 (p.at_:Int)] 302))/\TblC S p g (w1.alloc (.cells #[ptr S.P.p,.int .i64 (p.fac:Int),.int .i64 (p.at_:Int)] 302))/\w.heap.size<=g)):=fun w1 hb=>by
  refine⟨w1.heap.size,rfl,hb.alloc hb.size _,fun j v hj=>⟨w1.heap.size,rfl,fun hk=>?_,by simp,?_⟩,hb.size⟩
  ·have:=hs.lt hk;have:=hb.size;omega
  ·exact (Cells.new w1 302 [ptr S.P.p,.int .i64 (p.fac:Int),.int .i64 (p.at_:Int)]).cell j v hj
 unfold ptr at HF;clear hs ok hu hm Id DF;go_enter func161,ntmps161;go_wp2_with fail;refine kh.mono ?_;rintro r w1 ⟨rfl,hb⟩;have HX:=Q0a (HF.out w1 hb);clear hb kh;go_wp2_with fail
 first|exact HX.out|(go_ret;exact HX.out)
structure FO where
 f:Nat
 m:Nat
 o:Nat
 N:List (En Nd)
 next:Int
 kr:Int->RV
def Nd.cells (n:Nd) (rv:RV):List Value:=[.int .i64 n.sp,.int .i64 n.sl,.int .i64 n.par,lvOf rv n.ks.length]
def ndH (kr:Int->RV) (e:En Nd):HL:=(e.b,isC 287 (e.q.cells (kr e.id)))::rowH (kr e.id) 3 1 (e.q.ks.map encI)
def okv (N:List (En Nd)):SKV:=N.map fun e=>((e.q.sp,e.q.sl),.int .i64 e.id)
def isMS (kv:SKV):Obj->Prop:=isM (kv.map fun q=>(Q2u q.1,q.2))
def FO.head (q:FO):Nat×(Obj->Prop):=(q.f,isC 282 [.map (some q.m),.map (some q.o),.int .i64 q.next])
def FO.hl (q:FO):HL:=q.head::(q.m,isMI (kvs q.N))::(q.o,isMS (okv q.N))::q.N.flatMap (ndH q.kr)
structure FO.Ok (q:FO):Prop where
 n:NOk q.N q.next
 lim:q.next<1099511627776
 rv:∀e∈q.N,rvOk (q.kr e.id) e.q.ks.length
 few:q.N.length<=65536
theorem Z0U:WideMaps.KeyLaw prog 46:=deep_law (m:=2) (by omega) (by kernel_rfl) (by kernel_rfl) (by kernel_rfl)
theorem Q3q {p:Int×Int} (h1:0<=p.1) (h2:p.1<9223372036854775808) (h3:0<=p.2) (h4:p.2<9223372036854775808):Q1N prog 46 p:=by
 have hu:=underlying46;have hi:=underlying3;have hk:prog.keyType 46=true:=by kernel_rfl
 have hc:prog.cellsOf 46=2:=by kernel_rfl
 have Cf:prog.cellsOf 3=1:=by kernel_rfl
 obtain⟨m,hm⟩:∃m,prog.types.size=m+1:=⟨prog.types.size-1,by
  have:0<prog.types.size:=of_decide_eq_true (by kernel_rfl);omega⟩
 have e1:IntKind.i64.min = -9223372036854775808:=rfl;have e2:IntKind.i64.max=9223372036854775807:=rfl;have wa:(Lit.int .i64 p.1).wf=true:=by
  simp only [Lit.wf,J2C,decide_eq_true_eq,e1,e2];omega
 have wb:(Lit.int .i64 p.2).wf=true:=by
  simp only [Lit.wf,J2C,decide_eq_true_eq,e1,e2];omega
 unfold Q1N Q2u keyOf;simp only [hu];rw [if_pos (by simp [hk,Value.formed,hu,hc]),hm];unfold Program.keyLits;simp only [hu,Value.cells];rw [if_pos (by simp [hc])];exact⟨_,by simp [Program.keyLits,hi,wa,wb,Cf];rfl⟩
section
variable {w:World} {q:FO}
theorem FO.c (h:Sep w q.hl):Cells w q.f 282 [.map (some q.m),.map (some q.o),.int .i64 q.next]:=h.cells (by simp [FO.hl,FO.head])
theorem FO.c0 (h:Sep w q.hl):w.cell? ⟨q.f,0,none⟩=some (.map (some q.m)):=(FO.c h).cell 0 _ rfl
theorem FO.c1 (h:Sep w q.hl):w.cell? ⟨q.f,1,none⟩=some (.map (some q.o)):=(FO.c h).cell 1 _ rfl
theorem FO.c2 (h:Sep w q.hl):w.cell? ⟨q.f,2,none⟩=some (.int .i64 q.next):=(FO.c h).cell 2 _ rfl
theorem FO.map (h:Sep w q.hl):Q0B w q.m (kvs q.N):=h.map (by simp [FO.hl,isMI])
theorem FO.omap (h:Sep w q.hl):Q3m w q.o (okv q.N):=h.map (by simp [FO.hl,isMS])
theorem FO.nd (h:Sep w q.hl) {id:Int} {e:En Nd} (hf:find q.N id=some e):Cells w e.b 287 (e.q.cells (q.kr e.id)):=
 h.cells (by
  simp only [FO.hl,J2m];exact .inr (.inr (.inr (J2H.2 ⟨e,(Q0b hf).1,by simp [ndH]⟩))))
theorem Z1Z (ok:q.Ok):(okv q.N).Pairwise (fun a b=>a.1≠b.1):=by
 unfold okv;rw [J2M];exact ok.n.spots
theorem Z2a (ok:q.Ok):∀p∈okv q.N,Q1N prog 46 p.1:=fun p hp=>by
 obtain⟨e,he,rfl⟩:=J2n.1 hp;have:=ok.n.sm e he;exact Q3q (by show 0<=e.q.sp;omega) (by show e.q.sp<_;omega) (by show 0<=e.q.sl;omega) (by show e.q.sl<_;omega)
end
def ownN (N:List (En Nd)) (sp sl:Int):Int:=match N.find? fun e=>decide ((e.q.sp,e.q.sl)=(sp,sl)) with
 | some e=>e.id
 | none=>0
theorem Z6u (N:List (En Nd)) (sp sl:Int):(Q3V (okv N) (sp,sl)).getD (.int .i64 0)=.int .i64 (ownN N sp sl):=by
 unfold Q3V okv ownN;rw [List.find?_map];cases h:List.find? ((fun q=>decide (q.1=(sp,sl))) ∘ fun (e:En Nd)=>((e.q.sp,e.q.sl),Value.int .i64 e.id)) N with
 | none =>
  have:N.find? (fun e=>decide ((e.q.sp,e.q.sl)=(sp,sl)))=none:=h;rw [this];rfl
 | some e =>
  have:N.find? (fun e=>decide ((e.q.sp,e.q.sl)=(sp,sl)))=some e:=h;rw [this];rfl
theorem Q1k {N:List (En Nd)} {next:Int} (ok:NOk N next) {e:En Nd} (he:e∈N):ownN N e.q.sp e.q.sl=e.id:=by
 unfold ownN;cases h:N.find? fun x=>decide ((x.q.sp,x.q.sl)=(e.q.sp,e.q.sl)) with
 | none =>
  have:=J4a.1 h e he;simp at this
 | some x =>
  have hx:=J6t h;have hp:=J6u h;simp only [decide_eq_true_eq] at hp;simp only [Prod.mk.injEq] at hp;rw [Q4j ok hx he hp.1 hp.2]
theorem Q1v {N:List (En Nd)} {next:Int} (ok:NOk N next) {sp sl:Int}:ownN N sp sl=0↔∀e∈N,(e.q.sp,e.q.sl)≠(sp,sl):=by
 unfold ownN;cases h:N.find? fun x=>decide ((x.q.sp,x.q.sl)=(sp,sl)) with
 | none =>
  simp only [true_iff];intro e he hc;have:=J4a.1 h e he;exact this (by simpa using hc)
 | some x =>
  have hx:=J6t h;have hp:=J6u h;simp only [decide_eq_true_eq] at hp;have:=ok.rng x hx
  constructor
  ·intro h0;have Dy:x.id=0:=h0;omega
  ·intro AU;exact absurd hp (AU x hx)
section
variable {w:World} {q:FO}
theorem Q9y (w:World):(zeroValue 284).run prog w=.ok (.pointer none) w:=by kernel_rfl
theorem FO.look_some (h:Sep w q.hl) {id:Int} {e:En Nd} (hf:find q.N id=some e) :
  (Instr.lookup 279 (.map (some q.m)) (.int .i64 id) false).run prog w=.ok (.pointer (some ⟨e.b,0,none⟩)) w:=by
 rw [Q1j (FO.map h) id false (.pointer none) underlying279 underlying3 (Q9y w)];simp [Q5H,hf,ptr]
theorem FO.look_none (h:Sep w q.hl) {id:Int} (hf:find q.N id=none) :
  (Instr.lookup 279 (.map (some q.m)) (.int .i64 id) false).run prog w=.ok (.pointer none) w:=by
 rw [Q1j (FO.map h) id false (.pointer none) underlying279 underlying3 (Q9y w)];simp [Q5H,hf]
theorem FO.look_own (h:Sep w q.hl) (ok:q.Ok) {sp sl:Int} (hp:Q1N prog 46 (sp,sl)) :
  (Instr.lookup 280 (.map (some q.o)) (.agg #[.int .i64 sp,.int .i64 sl]) false).run prog w=.ok (.int .i64 (ownN q.N sp sl)) w:=by
 have:=Q6t (FO.omap h) Z0U (Z1Z ok) (Z2a ok) hp false (.int .i64 0) underlying280 (Z1z w);rw [Z6u] at this;exact this
theorem Q2U (h:Sep w q.hl) {id:Int} {e:En Nd} (hf:find q.N id=some e) :
  Calls prog 162 #[.pointer (some ⟨q.f,0,none⟩),.int .i64 id] w fun r w'=>r=.returned (.pointer (some ⟨e.b,0,none⟩))/\w=w':=by
 have h0:=FO.c0 h;have hl:=FO.look_some h hf;clear h hf;go_enter func162,ntmps162
 go_wp2
 go_ret;exact⟨rfl,rfl⟩
theorem Q4Q (h:Sep w q.hl) {id:Int} (hf:find q.N id=none) :
  Calls prog 162 #[.pointer (some ⟨q.f,0,none⟩),.int .i64 id] w fun r w'=>r=.returned (.pointer none)/\w=w':=by
 have h0:=FO.c0 h;have hl:=FO.look_none h hf;clear h hf;go_enter func162,ntmps162
 go_wp2
 go_ret;exact⟨rfl,rfl⟩
theorem Q4R (h:Sep w q.hl) (ok:q.Ok) {sp sl:Int} (hp:Q1N prog 46 (sp,sl)) :
  Calls prog 88 #[.pointer (some ⟨q.f,0,none⟩),.int .i64 sp,.int .i64 sl] w fun r w'=>r=.returned (.int .i64 (ownN q.N sp sl))/\w=w':=by
 have h1:=FO.c1 h;have hl:=FO.look_own h ok hp;clear h hp ok;generalize ownN q.N sp sl=z at *
 go_enter func88,ntmps88
 go_wp2
 go_ret;exact⟨rfl,rfl⟩
theorem FO.nd0 (h:Sep w q.hl) {id:Int} {e:En Nd} (hf:find q.N id=some e):w.cell? ⟨e.b,0,none⟩=some (.int .i64 e.q.sp)/\w.cell? ⟨e.b,1,none⟩=some (.int .i64 e.q.sl)/\w.cell? ⟨e.b,2,none⟩=some (.int .i64 e.q.par)/\w.cell? ⟨e.b,3,none⟩=some (lvOf (q.kr e.id) e.q.ks.length):=by
 have k:=FO.nd h hf;exact⟨k.cell 0 _ rfl,k.cell 1 _ rfl,k.cell 2 _ rfl,k.cell 3 _ rfl⟩
theorem Q9z (h:Sep w q.hl) {id:Int} {e:En Nd} (hf:find q.N id=some e) :
  Calls prog 87 #[.pointer (some ⟨q.f,0,none⟩),.int .i64 id] w fun r w'=>r=.returned (.int .i64 e.q.par)/\w=w':=by
 have k:=Q2U h hf;obtain⟨c0,c1,c2,-⟩:=FO.nd0 h hf;clear h hf;go_enter func87,ntmps87;go_wp2_with (go_at_call 162;refine k.mono ?_;rintro e w' ⟨rfl,rfl⟩);go_ret;exact⟨rfl,rfl⟩
theorem Q9A (h:Sep w q.hl) {id:Int} (hf:find q.N id=none) :
  Calls prog 87 #[.pointer (some ⟨q.f,0,none⟩),.int .i64 id] w fun r w'=>r=.returned (.int .i64 0)/\w=w':=by
 have k:=Q4Q h hf;clear h hf;go_enter func87,ntmps87;go_wp2_with (go_at_call 162;refine k.mono ?_;rintro e w' ⟨rfl,rfl⟩);go_ret;exact⟨rfl,rfl⟩
theorem Q6z (h:Sep w q.hl) {id:Int} (hf:find q.N id=none) :
  Calls prog 86 #[.pointer (some ⟨q.f,0,none⟩),.int .i64 id] w fun r w'=>r=.returned (.tuple #[.int .i64 0,.int .i64 0,.bool false])/\w=w':=by
 have k:=Q4Q h hf;clear h hf;go_enter func86,ntmps86;go_wp2_with (go_at_call 162;refine k.mono ?_;rintro e w' ⟨rfl,rfl⟩)
 go_ret3
 exact⟨rfl,rfl⟩
theorem Q6A (h:Sep w q.hl) {id:Int} {e:En Nd} (hf:find q.N id=some e) :
  Calls prog 86 #[.pointer (some ⟨q.f,0,none⟩),.int .i64 id] w fun r w'=>r=.returned (.tuple #[.int .i64 e.q.sp,.int .i64 e.q.sl,.bool true])/\Below w.heap.size w w':=by
 have k:=Q2U h hf;obtain⟨c0,c1,c2,-⟩:=FO.nd0 h hf;have hb:∀m,Below w.heap.size w (w.drewN m):=fun m=>by first|exact (Below.refl _ _).drewN|exact Below.drewN (Below.refl _ _)|exact⟨rfl,rfl,rfl,J2h _,fun _ _=>rfl⟩
 clear h hf;go_enter func86,ntmps86;go_wp2_with (go_at_call 162;refine k.mono ?_;rintro e w' ⟨rfl,rfl⟩)
 go_quiet (fail)
 go_wp2
 go_ret3
 exact⟨rfl,by first|exact hb _|exact (Below.refl _ _).drew⟩
end
theorem Z8P (f:En Nd->Nd) (N:List (En Nd)):kvs (mapE f N)=kvs N:=by
 unfold kvs mapE;rw [J4p];rfl
theorem Z8Q {f:En Nd->Nd} {N:List (En Nd)} (h:∀c∈N,(f c).sp=c.q.sp/\(f c).sl=c.q.sl):okv (mapE f N)=okv N:=by
 unfold okv mapE;rw [J4p];exact J4q fun c hc=>by simp [(h c hc).1,(h c hc).2]
def FO.setN (q:FO) (id:Int) (n:Nd) (rv:RV):FO:={q with N:=mapE (fun c=>if c.id=id then n else c.q) q.N,kr:=fun j=>if j=id then rv else q.kr j}
theorem FO.split {q:FO} (Ae:q.N.Pairwise (fun a b=>a.id≠b.id)) {id:Int} {e:En Nd} (hf:find q.N id=some e) :
  ∃R:HL,q.hl.Perm (((e.b,isC 287 (e.q.cells (q.kr id)))::rowH (q.kr id) 3 1 (e.q.ks.map encI))++R)/\∀(n:Nd) (rv:RV),n.sp=e.q.sp->n.sl=e.q.sl ->
   (q.setN id n rv).hl.Perm (((e.b,isC 287 (n.cells rv))::rowH rv 3 1 (n.ks.map encI))++R):=by
 obtain⟨he,hid⟩:=Q0b hf;obtain⟨A,B,hN⟩:=J6m he;have hA:∀c∈A,c.id≠id:=fun c hc=>by
  rw [hN,J2U] at Ae;have:=Ae.2.2 c hc e (by simp);rw [hid] at this;exact this
 have hB:∀c∈B,c.id≠id:=fun c hc=>by
  rw [hN,J2U,J2I] at Ae;have:=Ae.2.1.1 c hc;rw [hid] at this;exact this.symm
 have mid:∀(X Y:HL) (h1 h2 h3:Nat×(Obj->Prop)) (Z:HL),(h1::h2::h3::(X++(Z++Y))).Perm (Z++(h1::h2::h3::(X++Y))):=fun X Y h1 h2 h3 Z=>by
  have e1:h1::h2::h3::(X++(Z++Y))=(h1::h2::h3::X)++(Z++Y):=by simp
  have e2:Z++(h1::h2::h3::(X++Y))=Z++((h1::h2::h3::X)++Y):=by simp
  rw [e1,e2,<- J3h,<- J3h];exact J4T Y J4U
 refine⟨q.head::(q.m,isMI (kvs q.N))::(q.o,isMS (okv q.N))::(A.flatMap (ndH q.kr)++B.flatMap (ndH q.kr)),?_,fun n rv h1 h2=>?_⟩
 ·unfold FO.hl;have:q.N.flatMap (ndH q.kr)=A.flatMap (ndH q.kr)++(ndH q.kr e++B.flatMap (ndH q.kr)):=by
   conv=>lhs;rw [hN]
   simp
  rw [this];refine (mid _ _ _ _ _ _).trans ?_;unfold ndH;rw [hid]
 ·have e1:kvs (q.setN id n rv).N=kvs q.N:=Z8P _ _;have e2:okv (q.setN id n rv).N=okv q.N:=Z8Q fun c hc=>by
   by_cases h:c.id=id
   ·rw [if_pos h];have:c=e:=by
     have:=Q0g Ae hc;rw [h,hf] at this;cases this;rfl
    subst this;exact⟨h1,h2⟩
   ·rw [if_neg h];exact⟨rfl,rfl⟩
  have e3:∀L:List (En Nd),(∀c∈L,c.id≠id)->(mapE (fun c=>if c.id=id then n else c.q) L).flatMap (ndH (q.setN id n rv).kr)=L.flatMap (ndH q.kr):=fun L hL=>by
   rw [Z0O (fun c hc=>if_neg (hL c hc))];unfold List.flatMap;congr 1;exact J4q fun c hc=>by
    unfold ndH FO.setN;simp only [if_neg (hL c hc)]
  have e4:(q.setN id n rv).N.flatMap (ndH (q.setN id n rv).kr)=A.flatMap (ndH q.kr)++(((e.b,isC 287 (n.cells rv))::rowH rv 3 1 (n.ks.map encI))++B.flatMap (ndH q.kr)):=by
   have:(q.setN id n rv).N=mapE (fun c=>if c.id=id then n else c.q) A++({e with q:=n}::mapE (fun c=>if c.id=id then n else c.q) B):=by
    show mapE _ q.N=_
    conv=>lhs;rw [hN]
    unfold mapE;have OT:(fun c:En Nd=>if c.id=id then n else c.q) e=n:=if_pos hid;rw [J5K,J2k,OT]
   rw [this,J2P,J2E,e3 A hA,e3 B hB];congr 2;unfold ndH FO.setN;simp only [hid,if_true]
  unfold FO.hl;rw [e1,e2,e4];exact mid _ _ _ _ _ _
def FO.app (q:FO) (b:Nat) (n:Nd):FO:={q with N:=q.N++[⟨q.next+1,b,n⟩],next:=q.next+1,kr:=fun j=>if j=q.next+1 then none else q.kr j}
theorem FO.new_none {q:FO} (ok:q.Ok):find q.N (q.next+1)=none:=by
 cases hf:find q.N (q.next+1) with
 | none=>rfl
 | some e =>
  obtain⟨e1,e2⟩:=Q0b hf;have:=ok.n.rng e e1;omega
theorem FO.appSteps {w:World} {q:FO} (h:Sep w q.hl) (ok:q.Ok) {sp sl par:Int} (hp:Q1N prog 46 (sp,sl)) (Ar:ownN q.N sp sl=0) (W1 W2:World) (hW1:W1=(w.setCell ⟨q.f,2,none⟩ (.int .i64 (q.next+1))).drew) (hW2:W2=W1.alloc (.cells #[.int .i64 sp,.int .i64 sl,.int .i64 par,.slice none 0 0] 287)) :
  ∃w3 w4,(Instr.mapUpdate 279 (.map (some q.m)) (.int .i64 (q.next+1)) (.pointer (some ⟨w.heap.size,0,none⟩))).run prog W2=.ok () w3 /\
   (Instr.mapUpdate 280 (.map (some q.o)) (.agg #[.int .i64 sp,.int .i64 sl]) (.int .i64 (q.next+1))).run prog w3.drew=.ok () w4 /\
   Step q.hl (q.app w.heap.size ⟨sp,sl,par,[]⟩).hl w w4 /\
   w3.cell? ⟨q.f,0,none⟩=some (.map (some q.m))/\w3.cell? ⟨q.f,1,none⟩=some (.map (some q.o))/\w3.cell? ⟨q.f,2,none⟩=some (.int .i64 (q.next+1)) /\
   W1.cell? ⟨q.f,0,none⟩=some (.map (some q.m))/\W1.cell? ⟨q.f,2,none⟩=some (.int .i64 (q.next+1)) /\
   W2.cell? ⟨q.f,0,none⟩=some (.map (some q.m))/\W2.cell? ⟨q.f,2,none⟩=some (.int .i64 (q.next+1)) /\
   (∀b i v,b∉keys q.hl->b<w.heap.size->w.cell? ⟨b,i,none⟩=some v->w3.cell? ⟨b,i,none⟩=some v/\w4.cell? ⟨b,i,none⟩=some v):=by
 have s1:Step q.hl ((q.f,isC 282 [.map (some q.m),.map (some q.o),.int .i64 (q.next+1)])::(q.m,isMI (kvs q.N))::(q.o,isMS (okv q.N))::q.N.flatMap (ndH q.kr)) w (w.setCell ⟨q.f,2,none⟩ (.int .i64 (q.next+1))):=Sep.set (A:=[]) (B:=(q.m,isMI (kvs q.N))::(q.o,isMS (okv q.N))::q.N.flatMap (ndH q.kr)) h 2 (.int .i64 (q.next+1));have s1d:=s1.drew;rw [<- hW1] at s1d;have B7:W1.heap.size=w.heap.size:=by rw [hW1];simp [World.setCell,World.drew]
 have s2:=s1d.sep.new 287 [.int .i64 sp,.int .i64 sl,.int .i64 par,.slice none 0 0];rw [B7] at s2;have s2':Step _ _ W1 W2:=hW2 ▸ s2;have m2:Q0B W2 q.m (kvs q.N):=s2'.sep.map (by simp [isMI]);obtain⟨w3,r3,m3,g3⟩:=Q1z m2 (q.next+1) (.pointer (some ⟨w.heap.size,0,none⟩)) underlying279 underlying3;obtain⟨es,Ai,ho,hr⟩:=m3;have s3:=Sep.turn (A:=[(w.heap.size,isC 287 [.int .i64 sp,.int .i64 sl,.int .i64 par,.slice none 0 0]),(q.f,isC 282 [.map (some q.m),.map (some q.o),.int .i64 (q.next+1)])]) (B:=(q.o,isMS (okv q.N))::q.N.flatMap (ndH q.kr)) (q':=isMI (put (kvs q.N) (q.next+1) (ptr w.heap.size))) s2'.sep g3 ⟨_,ho,es,Ai,rfl,hr⟩
 have s3d:=s3.drew;have m3':Q3m w3.drew q.o (okv q.N):=s3d.sep.map (by simp [isMS]);have EL:Q3V (okv q.N) (sp,sl)=none:=by
  cases hl:Q3V (okv q.N) (sp,sl) with
  | none=>rfl
  | some v =>
   exfalso;unfold Q3V okv at hl;obtain⟨a,ha,_⟩:=J6e.1 hl;have h1:=J6t ha;have h2:=J6u ha;obtain⟨c,hc,rfl⟩:=J2n.1 h1;exact (Q1v ok.n).1 Ar c hc (by simpa using h2)
 obtain⟨w4,r4,m4,g4⟩:=Q4L m3' Z0U (Z1Z ok) (Z2a ok) hp (.int .i64 (q.next+1)) EL underlying280;obtain⟨es4,Ff,QG,LN⟩:=m4;have s4:=Sep.turn (A:=[(w.heap.size,isC 287 [.int .i64 sp,.int .i64 sl,.int .i64 par,.slice none 0 0]),(q.f,isC 282 [.map (some q.m),.map (some q.o),.int .i64 (q.next+1)]),(q.m,isMI (put (kvs q.N) (q.next+1) (ptr w.heap.size)))]) (B:=q.N.flatMap (ndH q.kr)) (q':=isMS (okv q.N++[((sp,sl),.int .i64 (q.next+1))])) s3d.sep g4 ⟨_,QG,es4,Ff,rfl,LN⟩;have t4:=((s1d.trans s2').trans s3d).trans s4;have t3:=(s1d.trans s2').trans s3;refine⟨w3,w4,r3,r4,?_,?_,?_,?_,?_,?_,?_,?_,fun b i v hb Ab hc=>?_⟩
 ·refine t4.perm (J5A _) ?_;have e1:kvs (q.N++[⟨q.next+1,w.heap.size,⟨sp,sl,par,[]⟩⟩])=put (kvs q.N) (q.next+1) (ptr w.heap.size):=(Z4x q.N (q.next+1) w.heap.size _ (FO.new_none ok)).symm;have e2:okv (q.N++[⟨q.next+1,w.heap.size,⟨sp,sl,par,[]⟩⟩])=okv q.N++[((sp,sl),.int .i64 (q.next+1))]:=by
   unfold okv;rw [J5K];rfl
  have e3:(q.N++[(⟨q.next+1,w.heap.size,⟨sp,sl,par,[]⟩⟩:En Nd)]).flatMap (ndH (q.app w.heap.size ⟨sp,sl,par,[]⟩).kr)=q.N.flatMap (ndH q.kr)++[(w.heap.size,isC 287 [.int .i64 sp,.int .i64 sl,.int .i64 par,.slice none 0 0])]:=by
   have a1:q.N.flatMap (ndH (q.app w.heap.size ⟨sp,sl,par,[]⟩).kr)=q.N.flatMap (ndH q.kr):=by
    rw [J6n,J6n];refine congrArg List.flatten (J4q fun c hc=>?_);have:=ok.n.rng c hc;have hk:(q.app w.heap.size ⟨sp,sl,par,[]⟩).kr c.id=q.kr c.id:=if_neg (by omega);unfold ndH;rw [hk]
   have a2:[(⟨q.next+1,w.heap.size,⟨sp,sl,par,[]⟩⟩:En Nd)].flatMap (ndH (q.app w.heap.size ⟨sp,sl,par,[]⟩).kr)=[(w.heap.size,isC 287 [.int .i64 sp,.int .i64 sl,.int .i64 par,.slice none 0 0])]:=by
    have hk:(q.app w.heap.size ⟨sp,sl,par,[]⟩).kr (q.next+1)=none:=if_pos rfl;rw [J2E,J6j,J4n];unfold ndH;rw [hk];rfl
   rw [J2P,a1,a2]
  unfold FO.hl FO.head;show List.Perm _ ((q.f,_)::(q.m,isMI (kvs (q.N++[_])))::(q.o,isMS (okv (q.N++[_])))::(q.N++[_]).flatMap _);rw [e1,e2,e3];exact (J5N _ ((q.f,isC 282 [.map (some q.m),.map (some q.o),.int .i64 (q.next+1)])::(q.m,isMI (put (kvs q.N) (q.next+1) (ptr w.heap.size)))::(q.o,isMS (okv q.N++[((sp,sl),.int .i64 (q.next+1))]))::q.N.flatMap (ndH q.kr))).symm
 ·exact (s3.sep.cells (b:=q.f) (T:=282) (cs:=[.map (some q.m),.map (some q.o),.int .i64 (q.next+1)]) (by simp)).cell 0 _ rfl
 ·exact (s3.sep.cells (b:=q.f) (T:=282) (cs:=[.map (some q.m),.map (some q.o),.int .i64 (q.next+1)]) (by simp)).cell 1 _ rfl
 ·exact (s3.sep.cells (b:=q.f) (T:=282) (cs:=[.map (some q.m),.map (some q.o),.int .i64 (q.next+1)]) (by simp)).cell 2 _ rfl
 ·exact (s1d.sep.cells (b:=q.f) (T:=282) (cs:=[.map (some q.m),.map (some q.o),.int .i64 (q.next+1)]) (by simp)).cell 0 _ rfl
 ·exact (s1d.sep.cells (b:=q.f) (T:=282) (cs:=[.map (some q.m),.map (some q.o),.int .i64 (q.next+1)]) (by simp)).cell 2 _ rfl
 ·exact (s2'.sep.cells (b:=q.f) (T:=282) (cs:=[.map (some q.m),.map (some q.o),.int .i64 (q.next+1)]) (by simp)).cell 0 _ rfl
 ·exact (s2'.sep.cells (b:=q.f) (T:=282) (cs:=[.map (some q.m),.map (some q.o),.int .i64 (q.next+1)]) (by simp)).cell 2 _ rfl
 ·exact⟨(World.cell?_of_block (t3.chg.block b Ab hb)).trans hc,(World.cell?_of_block (t4.chg.block b Ab hb)).trans hc⟩
theorem Z8R {w:World} {H:HL} {rv:RV} {l:List Int} (h:Sep w (rowH rv 3 1 (l.map encI)++H)) (AY:rvOk rv l.length) (hl:l.length<=65536) (x:Int) (ty:TypeId) :
  ∃rv' w',(Builtin.append_ #[36,36] ty #[lvOf rv l.length,.slice (some ⟨w.heap.size,0,none⟩) 1 1]).run prog (w.alloc (.cells #[.int .i64 x] 3))=.ok (lvOf rv' (l.length+1)) w'/\rvOk rv' (l.length+1)/\Step (rowH rv 3 1 (l.map encI)++H) (rowH rv' 3 1 ((l++[x]).map encI)++H) w w':=by
 obtain⟨i0,hi,BN,Bt,Bp⟩:=info_parts Z0R;have ha:=h.alloc (.cells #[.int .i64 x] 3);have Ak:=Q7X ha.left AY (by rw [J3Q,J3n]);obtain⟨v',w',hr,q1,q2,_,q4⟩:=run_append_own_at (P:=prog) (w.alloc (.cells #[.int .i64 x] 3)) 0 36 ty 3 i0 (.int .i64 0) 1 8 underlying36 hi BN Bt Bp rfl (by decide) (lvOf rv l.length) l.length (l.map encI) Ak ⟨w.heap.size,0,none⟩ 1 1 [.int .i64 x] rfl (by
  intro j u hj;have:=(Cells.new w 3 [.int .i64 x]).cell j u hj;have e:(⟨w.heap.size,0,none⟩:Addr).add j=⟨w.heap.size,j,none⟩:=by unfold Addr.add;split <;> simp_all
  rw [e];exact this) (fun u hu=>by rw [J4o.1 hu];rfl) (by unfold maxLen;omega) (by omega) (J4j _)
 obtain⟨rv',rfl,e2,e3⟩:=Q2l (A:=[]) (B:=H) (by simpa using ha) q1 q2 q4;refine⟨rv',w',hr,e2,?_⟩;rw [J5K];have e4:Step (rowH rv 3 1 (l.map encI)++H) (rowH rv' 3 1 (l.map encI++[encI x])++H) (w.alloc (.cells #[.int .i64 x] 3)) w':=by simpa using e3
 exact e4.from_alloc
theorem FO.pushK {w:World} {q:FO} (h:Sep w q.hl) (Ae:q.N.Pairwise (fun a b=>a.id≠b.id)) {id:Int} {e:En Nd} (hf:find q.N id=some e) (AQ:rvOk (q.kr id) e.q.ks.length) (hl:e.q.ks.length<=65536) (x:Int) (ty:TypeId) :
  ∃rv' w',(Builtin.append_ #[36,36] ty #[lvOf (q.kr id) e.q.ks.length,.slice (some ⟨w.heap.size,0,none⟩) 1 1]).run prog (w.alloc (.cells #[.int .i64 x] 3))=.ok (lvOf rv' (e.q.ks.length+1)) w'/\rvOk rv' (e.q.ks.length+1) /\
   w'.cell? ⟨e.b,3,none⟩=some (lvOf (q.kr id) e.q.ks.length)/\(∀i,w'.frozen? ⟨e.b,i,none⟩=false)/\Step q.hl (q.setN id {e.q with ks:=e.q.ks++[x]} rv').hl w (w'.setCell ⟨e.b,3,none⟩ (lvOf rv' (e.q.ks.length+1))):=by
 obtain⟨R,p1,p2⟩:=FO.split Ae hf;have pm:∀(Z:HL) (a:Nat×(Obj->Prop)),((a::Z)++R).Perm (Z++(a::R)):=fun Z a=>J5L.symm
 have h':Sep w (rowH (q.kr id) 3 1 (e.q.ks.map encI)++((e.b,isC 287 (e.q.cells (q.kr id)))::R)):=h.perm (p1.trans (pm _ _));obtain⟨rv',w',r1,r2,st⟩:=Z8R h' AQ hl x ty;have hc:=st.sep.cells (b:=e.b) (T:=287) (cs:=e.q.cells (q.kr id)) (by simp);have s2:=Sep.set (A:=rowH rv' 3 1 ((e.q.ks++[x]).map encI)) (B:=R) st.sep 3 (lvOf rv' (e.q.ks.length+1));refine⟨rv',w',r1,r2,hc.cell 3 _ rfl,hc.free,(st.trans s2).perm ((p1.trans (pm _ _)).symm) ?_⟩;have AR:(e.q.cells (q.kr id)).set 3 (lvOf rv' (e.q.ks.length+1))=Nd.cells {e.q with ks:=e.q.ks++[x]} rv':=by
  unfold Nd.cells;simp
 rw [AR];exact ((p2 {e.q with ks:=e.q.ks++[x]} rv' rfl rfl).trans (pm _ _)).symm
theorem NOk.kids_few {N:List (En Nd)} {next:Int} (ok:NOk N next) {e:En Nd} (he:e∈N):e.q.ks.length<=N.length:=by
 have:=J6v (ok.nd e he) (l₂:=N.map En.id) (fun k hk=>by
  obtain⟨c,hc,_⟩:=ok.kids e he k hk;obtain⟨c1,c2⟩:=Q0b hc;exact J2n.2 ⟨c,c1,c2⟩)
 rwa [J3Q] at this
theorem Z6v {w:World} {q:FO} (h:Sep w q.hl) (ok:q.Ok) {sp sl:Int} (hp:Q1N prog 46 (sp,sl)) (Ar:ownN q.N sp sl=0) :
  Calls prog 79 #[.pointer (some ⟨q.f,0,none⟩),.int .i64 0,.int .i64 sp,.int .i64 sl] w fun r w'=>r=.returned (.tuple #[.int .i64 (q.next+1),.int .i64 0])/\Step q.hl (q.app (w.heap.size+1) ⟨sp,sl,0,[]⟩).hl w w':=by
 have ka:=Q4Q h ok.n.zero;have h0:=(h.alloc (.cells #[.int .i64 sp,.int .i64 sl] 46)).drew;have hl:=FO.look_own h0 ok hp;rw [Ar] at hl;have c0:=FO.c0 h;have c1:=FO.c1 h;have c2:=FO.c2 h;have d0:=FO.c0 h0;have d1:=FO.c1 h0;have d2:=FO.c2 h0;have hb:=Cells.new w 46 [.int .i64 sp,.int .i64 sl];obtain⟨w3,w4,r3,r4,st,f0,f1,f2,g0,g2,n0,n2,keep⟩:=FO.appSteps (par:=0) h0 ok hp Ar _ _ rfl rfl;have B7:(w.alloc (.cells #[.int .i64 sp,.int .i64 sl] 46)).drew.heap.size=w.heap.size+1:=by simp [World.drew]
 have Fv:w.heap.size∉keys q.hl:=fun hk=>by have:=h.lt hk;omega
 have b0:(w.alloc (.cells #[.int .i64 sp,.int .i64 sl] 46)).drew.cell? ⟨w.heap.size,0,none⟩=some (.int .i64 sp):=hb.cell 0 _ rfl;have b1:(w.alloc (.cells #[.int .i64 sp,.int .i64 sl] 46)).drew.cell? ⟨w.heap.size,1,none⟩=some (.int .i64 sl):=hb.cell 1 _ rfl;have e0:=keep w.heap.size 0 _ Fv (by omega) b0;have e1:=keep w.heap.size 1 _ Fv (by omega) b1;rw [B7] at r3 st;have HS:Hid (Step q.hl (q.app (w.heap.size+1) ⟨sp,sl,0,[]⟩).hl w w4):=st.from_drew.from_alloc;have Ax:∀i,(w.alloc (.cells #[.int .i64 sp,.int .i64 sl] 46)).drew.frozen? ⟨q.f,i,none⟩=false:=(FO.c h0).free;have BA:q.next+1<1099511627777:=by have:=ok.lim;omega
 have Mu:=ok.n.next0;have f2':=FO.c2 st.sep;have f2'':w4.cell? ⟨q.f,2,none⟩=some (.int .i64 (q.next+1)):=f2';obtain⟨e00,_⟩:=e0;obtain⟨e10,_⟩:=e1;have x0:(w.alloc (.cells #[.int .i64 sp,.int .i64 sl] 46)).cell? ⟨q.f,0,none⟩=some (.map (some q.m)):=d0;have x1:(w.alloc (.cells #[.int .i64 sp,.int .i64 sl] 46)).cell? ⟨q.f,1,none⟩=some (.map (some q.o)):=d1;have x2:(w.alloc (.cells #[.int .i64 sp,.int .i64 sl] 46)).cell? ⟨q.f,2,none⟩=some (.int .i64 q.next):=d2;have xb0:(w.alloc (.cells #[.int .i64 sp,.int .i64 sl] 46)).cell? ⟨w.heap.size,0,none⟩=some (.int .i64 sp):=b0;have xb1:(w.alloc (.cells #[.int .i64 sp,.int .i64 sl] 46)).cell? ⟨w.heap.size,1,none⟩=some (.int .i64 sl):=b1
 have xf:∀i,(w.alloc (.cells #[.int .i64 sp,.int .i64 sl] 46)).frozen? ⟨q.f,i,none⟩=false:=Ax;have y0:((w.alloc (.cells #[.int .i64 sp,.int .i64 sl] 46)).setCell ⟨q.f,2,none⟩ (.int .i64 (q.next+1))).cell? ⟨q.f,0,none⟩=some (.map (some q.m)):=g0;have y2:((w.alloc (.cells #[.int .i64 sp,.int .i64 sl] 46)).setCell ⟨q.f,2,none⟩ (.int .i64 (q.next+1))).cell? ⟨q.f,2,none⟩=some (.int .i64 (q.next+1)):=g2;have z0:(((w.alloc (.cells #[.int .i64 sp,.int .i64 sl] 46)).setCell ⟨q.f,2,none⟩ (.int .i64 (q.next+1))).alloc (.cells #[.int .i64 sp,.int .i64 sl,.int .i64 0,.slice none 0 0] 287)).cell? ⟨q.f,0,none⟩=some (.map (some q.m)):=n0
 have z2:(((w.alloc (.cells #[.int .i64 sp,.int .i64 sl] 46)).setCell ⟨q.f,2,none⟩ (.int .i64 (q.next+1))).alloc (.cells #[.int .i64 sp,.int .i64 sl,.int .i64 0,.slice none 0 0] 287)).cell? ⟨q.f,2,none⟩=some (.int .i64 (q.next+1)):=n2;have r3x:(Instr.mapUpdate 279 (.map (some q.m)) (.int .i64 (q.next+1)) (.pointer (some ⟨w.heap.size+1,0,none⟩))).run prog (((w.alloc (.cells #[.int .i64 sp,.int .i64 sl] 46)).setCell ⟨q.f,2,none⟩ (.int .i64 (q.next+1))).alloc (.cells #[.int .i64 sp,.int .i64 sl,.int .i64 0,.slice none 0 0] 287)).drew.drew=.ok () w3:=r3;clear r3 g0 g2 n0 n2 b0 b1 d0 d1 d2 Ax;clear keep st f2' h0 hb h ok hp Ar Fv
 go_enter func79,ntmps79;go_wp2_with fail;refine ka.mono ?_;rintro e w' ⟨rfl,rfl⟩;go_wp2_with fail;go_region;go_wp2_with fail;go_region;go_wp2_with fail;go_region;go_wp2_with fail
 first|exact⟨rfl,HS.out⟩|(go_ret2;exact⟨rfl,HS.out⟩)
theorem Z8S {w:World} {q:FO} (h:Sep w q.hl) (ok:q.Ok) {par:Int} {e:En Nd} (hf:find q.N par=some e) {sp sl:Int} (hp:Q1N prog 46 (sp,sl)) (Ar:ownN q.N sp sl=0) :
  Calls prog 79 #[.pointer (some ⟨q.f,0,none⟩),.int .i64 par,.int .i64 sp,.int .i64 sl] w fun r w'=>r=.returned (.tuple #[.int .i64 (q.next+1),.int .i64 0])/\∃rv',rvOk rv' (e.q.ks.length+1)/\Step q.hl ((q.app (w.heap.size+1) ⟨sp,sl,par,[]⟩).setN par {e.q with ks:=e.q.ks++[q.next+1]} rv').hl w w':=by
 have ka:=Q2U h hf;have h0:=(h.alloc (.cells #[.int .i64 sp,.int .i64 sl] 46)).drew;have hl:=FO.look_own h0 ok hp;rw [Ar] at hl;have c0:=FO.c0 h;have c1:=FO.c1 h;have c2:=FO.c2 h;have d0:=FO.c0 h0;have d1:=FO.c1 h0;have d2:=FO.c2 h0;have hb:=Cells.new w 46 [.int .i64 sp,.int .i64 sl];obtain⟨w3,w4,r3,r4,st,f0,f1,f2,g0,g2,n0,n2,keep⟩:=FO.appSteps (par:=par) h0 ok hp Ar _ _ rfl rfl;have B7:(w.alloc (.cells #[.int .i64 sp,.int .i64 sl] 46)).drew.heap.size=w.heap.size+1:=by simp [World.drew]
 have Fv:w.heap.size∉keys q.hl:=fun hk=>by have:=h.lt hk;omega
 have b0:(w.alloc (.cells #[.int .i64 sp,.int .i64 sl] 46)).drew.cell? ⟨w.heap.size,0,none⟩=some (.int .i64 sp):=hb.cell 0 _ rfl;have b1:(w.alloc (.cells #[.int .i64 sp,.int .i64 sl] 46)).drew.cell? ⟨w.heap.size,1,none⟩=some (.int .i64 sl):=hb.cell 1 _ rfl;have e0:=keep w.heap.size 0 _ Fv (by omega) b0;have e1:=keep w.heap.size 1 _ Fv (by omega) b1;rw [B7] at r3 st;obtain⟨BS,Fg⟩:=Q0b hf;have JD:=ok.n.rng e BS;have Gl:find (q.app (w.heap.size+1) ⟨sp,sl,par,[]⟩).N par=some e:=by
  show find (q.N++[_]) par=_;rw [Q8v,hf];rfl
 have CB:(q.app (w.heap.size+1) ⟨sp,sl,par,[]⟩).N.Pairwise (fun a b=>a.id≠b.id):=by
  show (q.N++[_]).Pairwise _;rw [J2U];refine⟨ok.n.ids,by simp,fun x hx y hy=>?_⟩;rw [J4o] at hy;subst hy;have:=ok.n.rng x hx;show x.id≠q.next+1;omega
 have Dd:(q.app (w.heap.size+1) ⟨sp,sl,par,[]⟩).kr par=q.kr par:=if_neg (by omega);have AQ:=ok.rv e BS;rw [Fg] at AQ;have C8:=ok.n.kids_few BS;have Hc:=ok.few;obtain⟨rv',w5,r5,C7,k3,kf,st5⟩:=FO.pushK st.sep.drew CB Gl (by rw [Dd];exact AQ) (by omega) (q.next+1) 36;rw [Dd] at r5 k3;have r5x:(Builtin.append_ #[36,36] 36 #[lvOf (q.kr par) e.q.ks.length,.slice (some ⟨w4.heap.size,0,none⟩) 1 1]).run prog (w4.alloc (.cells #[.int .i64 (q.next+1)] 3)).drew=.ok (lvOf rv' (e.q.ks.length+1)) w5:=r5;clear r5;have m3:=(FO.nd st.sep Gl).cell 3 (lvOf ((q.app (w.heap.size+1) ⟨sp,sl,par,[]⟩).kr e.id) e.q.ks.length) rfl
 rw [Fg,Dd] at m3;have m2:w4.cell? ⟨q.f,2,none⟩=some (.int .i64 (q.next+1)):=FO.c2 st.sep;have sa:=st.sep.alloc (.cells #[.int .i64 (q.next+1)] 3);have v3:=(FO.nd sa Gl).cell 3 (lvOf ((q.app (w.heap.size+1) ⟨sp,sl,par,[]⟩).kr e.id) e.q.ks.length) rfl;rw [Fg,Dd] at v3;have v2:(w4.alloc (.cells #[.int .i64 (q.next+1)] 3)).cell? ⟨q.f,2,none⟩=some (.int .i64 (q.next+1)):=FO.c2 sa;have u2:(w5.setCell ⟨e.b,3,none⟩ (lvOf rv' (e.q.ks.length+1))).cell? ⟨q.f,2,none⟩=some (.int .i64 (q.next+1)):=FO.c2 st5.sep;have HS:Hid (∃rz,rvOk rz (e.q.ks.length+1)/\Step q.hl ((q.app (w.heap.size+1) ⟨sp,sl,par,[]⟩).setN par {e.q with ks:=e.q.ks++[q.next+1]} rz).hl w (w5.setCell ⟨e.b,3,none⟩ (lvOf rv' (e.q.ks.length+1)))):=⟨rv',C7,(st.trans st5.from_drew).from_drew.from_alloc⟩
 have Ax:∀i,(w.alloc (.cells #[.int .i64 sp,.int .i64 sl] 46)).drew.frozen? ⟨q.f,i,none⟩=false:=(FO.c h0).free;have BA:q.next+1<1099511627777:=by have:=ok.lim;omega
 have Mu:=ok.n.next0;obtain⟨e00,_⟩:=e0;obtain⟨e10,_⟩:=e1;have x0:(w.alloc (.cells #[.int .i64 sp,.int .i64 sl] 46)).cell? ⟨q.f,0,none⟩=some (.map (some q.m)):=d0;have x1:(w.alloc (.cells #[.int .i64 sp,.int .i64 sl] 46)).cell? ⟨q.f,1,none⟩=some (.map (some q.o)):=d1;have x2:(w.alloc (.cells #[.int .i64 sp,.int .i64 sl] 46)).cell? ⟨q.f,2,none⟩=some (.int .i64 q.next):=d2;have xb0:(w.alloc (.cells #[.int .i64 sp,.int .i64 sl] 46)).cell? ⟨w.heap.size,0,none⟩=some (.int .i64 sp):=b0;have xb1:(w.alloc (.cells #[.int .i64 sp,.int .i64 sl] 46)).cell? ⟨w.heap.size,1,none⟩=some (.int .i64 sl):=b1;have xf:∀i,(w.alloc (.cells #[.int .i64 sp,.int .i64 sl] 46)).frozen? ⟨q.f,i,none⟩=false:=Ax
 have y0:((w.alloc (.cells #[.int .i64 sp,.int .i64 sl] 46)).setCell ⟨q.f,2,none⟩ (.int .i64 (q.next+1))).cell? ⟨q.f,0,none⟩=some (.map (some q.m)):=g0;have y2:((w.alloc (.cells #[.int .i64 sp,.int .i64 sl] 46)).setCell ⟨q.f,2,none⟩ (.int .i64 (q.next+1))).cell? ⟨q.f,2,none⟩=some (.int .i64 (q.next+1)):=g2;have z0:(((w.alloc (.cells #[.int .i64 sp,.int .i64 sl] 46)).setCell ⟨q.f,2,none⟩ (.int .i64 (q.next+1))).alloc (.cells #[.int .i64 sp,.int .i64 sl,.int .i64 par,.slice none 0 0] 287)).cell? ⟨q.f,0,none⟩=some (.map (some q.m)):=n0;have z2:(((w.alloc (.cells #[.int .i64 sp,.int .i64 sl] 46)).setCell ⟨q.f,2,none⟩ (.int .i64 (q.next+1))).alloc (.cells #[.int .i64 sp,.int .i64 sl,.int .i64 par,.slice none 0 0] 287)).cell? ⟨q.f,2,none⟩=some (.int .i64 (q.next+1)):=n2
 have r3x:(Instr.mapUpdate 279 (.map (some q.m)) (.int .i64 (q.next+1)) (.pointer (some ⟨w.heap.size+1,0,none⟩))).run prog (((w.alloc (.cells #[.int .i64 sp,.int .i64 sl] 46)).setCell ⟨q.f,2,none⟩ (.int .i64 (q.next+1))).alloc (.cells #[.int .i64 sp,.int .i64 sl,.int .i64 par,.slice none 0 0] 287)).drew.drew=.ok () w3:=r3;clear r3 g0 g2 n0 n2 b0 b1 d0 d1 d2 Ax;obtain⟨va,vk,vc,hV⟩:∃a k c,lvOf rv' (e.q.ks.length+1)=.slice a k c:=by
  cases rv' with
  | none=>exact⟨_,_,_,rfl⟩
  | some p=>exact⟨_,_,_,rfl⟩
 rw [hV] at r5x u2 HS;clear hV;generalize lvOf (q.kr par) e.q.ks.length=V at *
 have HR:=Q0a r5x;clear r5x;clear keep st sa st5 Gl CB Dd AQ C8 Hc BS Fg JD hf h0 hb h ok hp Ar Fv;go_enter func79,ntmps79;go_wp2_with fail;refine ka.mono ?_;rintro e w' ⟨rfl,rfl⟩;go_wp2_with fail;go_region;go_wp2_with fail;go_region;go_wp2_with fail;go_region;go_wp2_with fail
 go_region_law (refine Q0F rfl _ _ 36 36 rfl _ _ (by simp [Act.eval]) (by simp [Act.eval]) HR.out ?_)
 all_goals
  go_wp2_with fail
  first|exact⟨rfl,HS.out⟩|(go_ret2;exact⟨rfl,HS.out⟩)
theorem Z6w {q:FO} (ok:q.Ok) (b:Nat) (sp sl:Int):(q.app b ⟨sp,sl,0,[]⟩).N=addN q.N 0 (q.next+1) b sp sl:=by
 unfold addN;rw [Z0O fun c hc=>if_neg (by have:=ok.n.rng c hc;omega)];rfl
theorem Z8T {q:FO} (ok:q.Ok) {par:Int} {e:En Nd} (hf:find q.N par=some e) (b:Nat) (sp sl:Int) (rv:RV) :
  ((q.app b ⟨sp,sl,par,[]⟩).setN par {e.q with ks:=e.q.ks++[q.next+1]} rv).N=addN q.N par (q.next+1) b sp sl:=by
 obtain⟨he,hid⟩:=Q0b hf;have hr:=ok.n.rng e he;show mapE _ (q.N++[_])=_;unfold addN mapE;rw [J5K];congr 1
 ·refine J4q fun c hc=>?_
  by_cases h:c.id=par
  ·have:c=e:=by
    have:=Q0g ok.n.ids hc;rw [h,hf] at this;cases this;rfl
   subst this;simp only [h,if_true]
  ·simp only [h,if_false]
 ·have Aa:¬(q.next+1=par):=by omega
  simp only [J2k,J4N,Aa,if_false]
structure Z2b (q:FO) (par sp sl:Int) (q':FO):Prop where
 f:q'.f=q.f
 m:q'.m=q.m
 o:q'.o=q.o
 N:∃b,q'.N=addN q.N par (q.next+1) b sp sl
 next:q'.next=q.next+1
 ok:q'.Ok
theorem Q8w {w:World} {q:FO} (h:Sep w q.hl) (ok:q.Ok) {par sp sl:Int} (Be:par=0∨∃e,find q.N par=some e) (h1:0<=sp) (h2:sp<4294967296) (h3:0<=sl) (h4:sl<256) (Ar:ownN q.N sp sl=0) (hlim:q.next+1<1099511627776) (C8:q.N.length<65536) :
  Calls prog 79 #[.pointer (some ⟨q.f,0,none⟩),.int .i64 par,.int .i64 sp,.int .i64 sl] w fun r w'=>r=.returned (.tuple #[.int .i64 (q.next+1),.int .i64 0])/\∃q':FO,Z2b q par sp sl q'/\Step q.hl q'.hl w w':=by
 have hp:=Q3q (p:=(sp,sl)) h1 (by show sp<_;omega) h3 (by show sl<_;omega);have Ac:∀b,(addN q.N par (q.next+1) b sp sl).length<=65536:=fun b=>by
  unfold addN mapE;rw [J2R,J3Q,J6i];omega
 have hn:∀b,NOk (addN q.N par (q.next+1) b sp sl) (q.next+1):=fun b=>ok.n.add b Be ((Q1v ok.n).1 Ar) h1 h2 h3 h4
 rcases Be with rfl|⟨e,hf⟩
 ·refine (Z6v h ok hp Ar).mono ?_;rintro r w' ⟨rfl,st⟩;have eN:=Z6w ok (w.heap.size+1) sp sl;refine⟨rfl,q.app (w.heap.size+1) ⟨sp,sl,0,[]⟩,⟨rfl,rfl,rfl,⟨_,eN⟩,rfl,⟨by rw [eN];exact hn _,hlim,fun c hc=>?_,by rw [eN];exact Ac _⟩⟩,st⟩;rcases J2V.1 (show c∈q.N++[_] from hc) with hc|hc
  ·have:=ok.n.rng c hc;have hk:(q.app (w.heap.size+1) ⟨sp,sl,0,[]⟩).kr c.id=q.kr c.id:=if_neg (by omega);rw [hk];exact ok.rv c hc
  ·rw [J4o] at hc;subst hc;have hk:(q.app (w.heap.size+1) ⟨sp,sl,0,[]⟩).kr (q.next+1)=none:=if_pos rfl;show rvOk ((q.app (w.heap.size+1) ⟨sp,sl,0,[]⟩).kr (q.next+1)) 0;rw [hk];rfl
 ·refine (Z8S h ok hf hp Ar).mono ?_;rintro r w' ⟨rfl,rv,AQ,st⟩;have eN:=Z8T ok hf (w.heap.size+1) sp sl rv;obtain⟨he,hid⟩:=Q0b hf;have hr:=ok.n.rng e he;refine⟨rfl,(q.app (w.heap.size+1) ⟨sp,sl,par,[]⟩).setN par {e.q with ks:=e.q.ks++[q.next+1]} rv,⟨rfl,rfl,rfl,⟨_,eN⟩,rfl,⟨by rw [eN];exact hn _,hlim,fun c hc=>?_,by rw [eN];exact Ac _⟩⟩,st⟩;obtain⟨d,hd,rfl⟩:=Q1m (show c∈mapE _ (q.N++[_]) from hc);by_cases EO:d.id=par
  ·have hk:((q.app (w.heap.size+1) ⟨sp,sl,par,[]⟩).setN par {e.q with ks:=e.q.ks++[q.next+1]} rv).kr d.id=rv:=if_pos EO;show rvOk (((q.app (w.heap.size+1) ⟨sp,sl,par,[]⟩).setN par {e.q with ks:=e.q.ks++[q.next+1]} rv).kr d.id) (if d.id=par then ({e.q with ks:=e.q.ks++[q.next+1]}:Nd) else d.q).ks.length;rw [hk,if_pos EO]
   simpa using AQ
  ·have hk:((q.app (w.heap.size+1) ⟨sp,sl,par,[]⟩).setN par {e.q with ks:=e.q.ks++[q.next+1]} rv).kr d.id=(q.app (w.heap.size+1) ⟨sp,sl,par,[]⟩).kr d.id:=if_neg EO;show rvOk (((q.app (w.heap.size+1) ⟨sp,sl,par,[]⟩).setN par {e.q with ks:=e.q.ks++[q.next+1]} rv).kr d.id) (if d.id=par then ({e.q with ks:=e.q.ks++[q.next+1]}:Nd) else d.q).ks.length;rw [hk,if_neg EO];rcases J2V.1 hd with hd|hd
   ·have:=ok.n.rng d hd;have A2:(q.app (w.heap.size+1) ⟨sp,sl,par,[]⟩).kr d.id=q.kr d.id:=if_neg (by omega);rw [A2];exact ok.rv d hd
   ·rw [J4o] at hd;subst hd;have A2:(q.app (w.heap.size+1) ⟨sp,sl,par,[]⟩).kr (q.next+1)=none:=if_pos rfl;show rvOk ((q.app (w.heap.size+1) ⟨sp,sl,par,[]⟩).kr (q.next+1)) 0;rw [A2];rfl
end Go.Proofs.YtlakjlmaboioiaaGreatDoor
