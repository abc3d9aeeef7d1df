/- What the laws of spaces share is proved. No condition. Part of a proof. -/
import Derived.Test.YtlakjlmaboioiaaGreatDoorVa10
import Derived.Deep.LoopGhost
set_option maxHeartbeats 4000000
set_option maxRecDepth 100000
set_option linter.unusedVariables false
namespace Go.Proofs.YtlakjlmaboioiaaGreatDoor
open Go.RowKit Go.Proofs.Tryz
theorem Z2P (l:List Pl) (h:l.length=256):(l.flatMap Pl.cells).length=1280:=by rw [J0p,h]
theorem J0A:(prog.info? 262).map (·.size)=some 1280:=by kernel_rfl
theorem HT.range {w:World} {h:HT} (s:Sep w h.hl):w.rangeAt h.t 0 (h.l.flatMap Pl.cells):=fun j v hv=>by
 rw [J4L];exact (HT.cells s).cell j v hv
theorem Z2Q {l:List Pl} {i:Nat} {p:Pl} (hi:l[i]?=some p):(l.flatMap Pl.cells).toArray.extract (i*5) (i*5+5)=p.cells.toArray:=by
 apply Array.ext'
 rw [Array.toList_extract]
 apply J3P
 intro j;simp only [List.extract_eq_take_drop,J5f];rw [J4k];split
 ·rename_i hj;rw [J4J];have h5:j<p.cells.length:=hj;have:=Q4g hi j p.cells[j] hj (J4y h5);rw [this,J4y h5]
 ·rw [J3W (by show 5<=j;omega)]
theorem Z8r {w:World} {l:List Pl} (hl:l.length=256) {i:Nat} {p:Pl} (hi:l[i]?=some p):(Instr.index 262 (.agg (l.flatMap Pl.cells).toArray) (.int .i64 i)).run prog w=.ok (.agg p.cells.toArray) w:=by
 have Ab:i<256:=by have:=(J2y.1 hi).1;omega
 have e:=Z2Q hi;generalize (l.flatMap Pl.cells).toArray=cs at *
 have h1:(0:Int)<=(i:Int)/\(i:Int)<((256:Nat):Int):=by omega
 have h2:(prog.info? 261).map (·.size)=some 5:=J1u;cases hq:prog.info? 261 with
 | none=>simp [hq] at h2
 | some inf =>
  have hs:inf.size=5:=by simpa [hq] using h2
  have hu:prog.underlying 262=some (.array 256 261):=underlying262;have UF:(isAgg 261).run prog w=.ok true w:=by
   unfold isAgg;rw [Sem.run_bind,run_underlying underlying261 w];rfl
  simp [Instr.index,asIntOf,Sem.run_bind,run_underlying hu w,h1,part,sizeOf,typeInfo,hq,hs,e];intro hh;omega
theorem Q8p {w:World} {h:HT} (s:Sep w h.hl) (ok:LOk h.l) (st:Nat) (Ap:st<=3) :
  Calls prog 171 #[.pointer (some ⟨h.t,0,none⟩),.int .i64 st] w (NewHs w (allL h.l st)):=by
 have HL:Hid (w.rangeAt h.t 0 (h.l.flatMap Pl.cells)):=HT.range s;have HI:Hid (∀(w':World) (i:Nat) (p:Pl),h.l[i]?=some p->(Instr.index 262 (.agg (h.l.flatMap Pl.cells).toArray) (.int .i64 i)).run prog w'=.ok (.agg p.cells.toArray) w'):=fun w' i p hp=>Z8r ok.1 hp
 go_enter func171,ntmps171;go_wp2_with (refine wpList_load_mid rfl 262 _ rfl h.t 0 rfl (h.l.flatMap Pl.cells) _ HL.out underlying262 rfl (by rw [Z2P _ ok.1];exact J0A) ?_);have Ct:=Q0a ok;have HS:=Q0a s;have JP:=ok.1;clear s ok HL;generalize BB:(h.l.flatMap Pl.cells).toArray=cs at *
 obtain⟨i0,DE,BN,Bt,Bp⟩:=info_parts Q3F
 go_loopg [5,14] 256 (fun gk ov iv wr=>∃k:Nat,iv=.int .i64 k/\k+gk=256/\OutH w wr ov (Q4Y h.l st k))
 case atStart=>exact⟨0,rfl,rfl,OutH.nil w⟩
 case round =>
  obtain⟨k,rfl,A7,Aq⟩:=hrel;have HO:=Q0a Aq;have Bi:=Q0a A7;clear Aq;by_cases Ab:k<256
  ·obtain⟨p,hp⟩:∃p,h.l[k]?=some p:=⟨h.l[k]'(by omega),J4y (by omega)⟩
   have Ml:=HI.out wr k p hp;have HP:=Q0a hp;have ha:Hid (p.age<=1048575):=(Ct.out.2 p (J4v hp)).2;clear hp;by_cases hs:p.st=st
   ·have Bq:=Q0a hs;have hb:(((p.st:Nat):Int)==(st:Int))=true:=by simp [hs]
    clear hs;unfold Pl.cells at Ml;have K8:=Q4E ((HS.out.grown HO.out.2).sep.alloc (.cells #[.int .i64 (p.kind:Int),.int .i64 (p.at_:Int),.int .i64 (p.fac:Int),.int .i64 (p.st:Int),.int .u32 (p.age:Int)] 261)) HP.out Ab ha.out;have Ac:=Q1Y h.l st k;have B7:=HO.out.2.size;go_wp2_with fail;refine K8.mono ?_;rintro e w' ⟨rfl,rfl⟩;dsimp only
    iterate 4 go_step
    refine wpList_append_own _ rfl _ _ 66 rfl w.heap.size 27 i0 (.int .u32 0) 1 4 underlying66 DE BN Bt Bp rfl (by decide) _ _ _ rfl ((HO.out.1.alloc _).alloc _) ⟨wr.heap.size+1,0,none⟩ 1 1 [.int .u32 ((nm k p:Nat):Int)] rfl rfl (Q7x _ _ _) (by simp [Value.oneCell']) (by unfold maxLen;omega) (by omega) (by simp;omega) ?_;intro v' w1 Bc Cg _;have HR:Hid (OutH w w1 v' (Q4Y h.l st (k+1))):=by
     have e:=Q7g HP.out st;rw [if_pos Bq.out] at e;rw [e];exact HO.out.app2 (M:=[nm k p]) Bc Cg
    clear Bc Cg HO B7 Ac;go_wp2_with fail;go_roundg (256-(k+1))
    case measure=>have:=Bi.out;omega
    case rel=>exact⟨k+1,by go_num,by omega,HR.out⟩
   ·have Bq:=Q0a hs;have hb:=Q3i hs;clear hs;unfold Pl.cells at Ml;have HR:Hid (∀o,OutH w (wr.alloc o) u5 (Q4Y h.l st (k+1))):=fun o=>by
     have e:=Q7g HP.out st;rw [if_neg Bq.out,J4n] at e;rw [e];exact HO.out.alloc o
    go_wp2_with fail;go_roundg (256-(k+1))
    case measure=>have:=Bi.out;omega
    case rel=>exact⟨k+1,by go_num,by omega,HR.out _⟩
  ·have e:Q4Y h.l st k=allL h.l st:=by
    have:k=256:=by omega
    unfold allL;rw [this,JP]
   rw [e] at HO;have HR:Hid (NewHs w (allL h.l st) (.returned u5) wr):=⟨u5,rfl,HO.out.1,HO.out.2⟩
   go_wp2_with fail;go_ret;exact HR.out
theorem Q9f {w:World} {h:HT} (s:Sep w h.hl) (ok:LOk h.l):Calls prog 94 #[.pointer (some ⟨h.t,0,none⟩)] w (NewHs w (allL h.l 1)):=by
 have hA:Calls prog 171 #[.pointer (some ⟨h.t,0,none⟩),.int .i64 1] w (NewHs w (allL h.l 1)):=Q8p s ok 1 (by omega);clear s ok;go_enter func94,ntmps94;go_wp2_with (go_at_call 171;refine hA.mono ?_;rintro e w' ⟨v,rfl,h1,h2⟩)
 first|exact⟨v,rfl,h1,h2⟩|(go_ret;exact⟨v,rfl,h1,h2⟩)
theorem Q9g {w:World} {h:HT} (s:Sep w h.hl) (ok:LOk h.l):Calls prog 97 #[.pointer (some ⟨h.t,0,none⟩)] w (NewHs w (allL h.l 2)):=by
 have hA:Calls prog 171 #[.pointer (some ⟨h.t,0,none⟩),.int .i64 2] w (NewHs w (allL h.l 2)):=Q8p s ok 2 (by omega);clear s ok;go_enter func97,ntmps97;go_wp2_with (go_at_call 171;refine hA.mono ?_;rintro e w' ⟨v,rfl,h1,h2⟩)
 first|exact⟨v,rfl,h1,h2⟩|(go_ret;exact⟨v,rfl,h1,h2⟩)
theorem Q6m {w:World} {h:HT} (s:Sep w h.hl) (ok:LOk h.l):Calls prog 156 #[.pointer (some ⟨h.t,0,none⟩)] w (Told w (.int .i64 ((allL h.l 0).length:Nat))):=by
 have hA:Calls prog 171 #[.pointer (some ⟨h.t,0,none⟩),.int .i64 0] w (NewHs w (allL h.l 0)):=Q8p s ok 0 (by omega);clear s ok;generalize allL h.l 0=L at *
 go_enter func156,ntmps156;go_wp2_with (go_at_call 171;refine hA.mono ?_;intro e w' hx;obtain⟨a,cap,rfl,hb,-⟩:=hx.shape;have HB:=Q0a hb;clear hx hb)
 first|exact⟨rfl,HB.out⟩|(go_ret;exact⟨rfl,HB.out⟩)
theorem empty_iff {l:List Pl}:allL l 0=[]↔∀p∈l,p.st≠0:=by
 constructor
 ·intro h p hp hs;obtain⟨i,hi⟩:=J4V.1 hp;have Ab:=(J2y.1 hi).1;have:nm i p∈allL l 0:=mem_allTo.2 ⟨i,p,Ab,hi,hs,rfl⟩;rw [h] at this;cases this
 ·intro h;cases hc:allL l 0 with
  | nil=>rfl
  | cons x r =>
   exfalso;have:x∈allL l 0:=by rw [hc];simp
   obtain⟨i,p,_,hi,hs,_⟩:=mem_allTo.1 this;exact h p (J4v hi) hs
def Fst (l:List Pl) (i:Nat) (p:Pl):Prop:=l[i]?=some p/\p.st=0/\∀j q,j<i->l[j]?=some q->q.st≠0
theorem Z8s (l:List Pl):(∀p∈l,p.st≠0)∨∃i p,Fst l i p:=by
 induction l with
 | nil=>left;simp
 | cons x r ih =>
  by_cases hx:x.st=0
  ·right;exact⟨0,x,rfl,hx,fun j q hj=>absurd hj (J5J _)⟩
  ·rcases ih with h|⟨i,p,h1,h2,h3⟩
   ·left;intro p hp;rcases J2m.1 hp with rfl|hp
    ·exact hx
    ·exact h p hp
   ·right;refine⟨i+1,p,h1,h2,fun j q hj hq=>?_⟩;cases j with
    | zero=>cases hq;exact hx
    | succ j=>exact h3 j q (by omega) hq
theorem Z5L {w:World} (p:Pl):Calls prog 152 #[.agg p.cells.toArray] w (Told w (.bool (((p.st:Nat):Int)==0))):=by
 have hc:=Cells.new w 261 p.cells;have c3:(w.alloc (.cells p.cells.toArray 261)).cell? ⟨w.heap.size,3,none⟩=some (.int .i64 (p.st:Int)):=hc.cell 3 _ rfl;unfold Pl.cells at *
 clear hc;go_enter func152,ntmps152
 go_wp2
 go_ret;exact⟨rfl,(Below.refl _ _).alloc (J2h _) _⟩
def FstI (l:List Pl) (z:Int):Prop:=(z = -1/\∀p∈l,p.st≠0)∨∃(i:Nat) (p:Pl),z=(i:Int)/\Fst l i p
theorem Z2R {w:World} {h:HT} (s:Sep w h.hl) (ok:LOk h.l):Calls prog 151 #[.slice (some ⟨h.t,0,none⟩) 256 256,.func (.func 152) #[] #[]] w fun r w'=>(∃z,r=.returned (.int .i64 z)/\FstI h.l z)/\Below w.heap.size w w':=by
 have JP:=ok.1;have HS:=Q0a s;clear s ok;go_enter func151,ntmps151;go_wp2_with fail
 go_loopg [5,8] 256 (fun gk _ iv wr=>∃k:Nat,iv=.int .i64 k/\k+gk=256/\(∀j q,j<k->h.l[j]?=some q->q.st≠0)/\Below w.heap.size w wr)
 case atStart=>exact⟨0,rfl,rfl,fun j q hj=>absurd hj (J5J _),Below.refl _ _⟩
 case round =>
  obtain⟨k,rfl,A7,A3,hb⟩:=hrel;have Bi:=Q0a A7;have DJ:=Q0a A3;have HB:=Q0a hb;clear A3;by_cases Ab:k<256
  ·obtain⟨p,hp⟩:∃p,h.l[k]?=some p:=⟨h.l[k]'(by omega),J4y (by omega)⟩
   obtain⟨c0,c1,c2,c3,c4,-⟩:=HT.cell ((HS.out.grown hb).sep) hp;have HP:=Q0a hp;have Bo:Calls prog 152 #[.agg #[.int .i64 (p.kind:Int),.int .i64 (p.at_:Int),.int .i64 (p.fac:Int),.int .i64 (p.st:Int),.int .u32 (p.age:Int)]] wr (Told wr (.bool (((p.st:Nat):Int)==0))):=Z5L p;clear hp hb;by_cases hs:p.st=0
   ·have Bq:=Q0a hs;have If:(((p.st:Nat):Int)==0)=true:=by simp [hs]
    rw [If] at Bo;clear hs If;go_wp2_with (go_at_call 152;refine Bo.mono ?_;rintro e w1 ⟨rfl,Av⟩;have Bg:=Q0a Av;clear Av);have HR:Hid ((∃z,Ending.returned (.int .i64 k)=.returned (.int .i64 z)/\FstI h.l z)/\Below w.heap.size w w1):=⟨⟨_,rfl,.inr ⟨k,p,rfl,HP.out,Bq.out,DJ.out⟩⟩,HB.out.trans (Bg.out.mono HB.out.size)⟩
    first|exact HR.out|(go_ret;exact HR.out)
   ·have Bq:=Q0a hs;have If:(((p.st:Nat):Int)==0)=false:=by simp;omega
    rw [If] at Bo;clear hs If;go_wp2_with (go_at_call 152;refine Bo.mono ?_;rintro e w1 ⟨rfl,Av⟩;have Bg:=Q0a Av;clear Av);go_roundg (256-(k+1))
    case measure=>have:=Bi.out;omega
    case rel =>
     refine⟨k+1,by go_num,by omega,fun j q hj hq=>?_,HB.out.trans (Bg.out.mono HB.out.size)⟩;by_cases e:j=k
     ·subst e;have:=HP.out;rw [this] at hq;cases hq;exact Bq.out
     ·exact DJ.out j q (by omega) hq
  ·have HR:Hid ((∃z,Ending.returned (.int .i64 (-1))=.returned (.int .i64 z)/\FstI h.l z)/\Below w.heap.size w wr):=⟨⟨_,rfl,.inl ⟨rfl,fun p hp=>by
    obtain⟨i,hi⟩:=J4V.1 hp;have:=(J2y.1 hi).1;exact DJ.out i p (by omega) hi⟩⟩,HB.out⟩
   go_wp2_with fail
   first|exact HR.out|(go_ret;exact HR.out)
def PutT (h:HT) (q:Pl) (i:Nat) (w:World) (r:Ending) (w':World):Prop:=r=.returned (.tuple #[.int .u32 ((nm i q:Nat):Int),.int .i64 0])/\Step h.hl ({h with l:=h.l.set i q}:HT).hl w w'
theorem Z5M {w:World} {h:HT} (s:Sep w h.hl) (ok:LOk h.l) {i:Nat} {p:Pl} (hf:Fst h.l i p) (k a f x:Nat):Calls prog 66 #[.pointer (some ⟨h.t,0,none⟩),.agg #[.int .i64 k,.int .i64 a,.int .i64 f]] w (PutT h ⟨k,a,f,1,p.age,x⟩ i w):=by
 have An:i<256:=by have:=(J2y.1 hf.1).1;have:=ok.1;omega
 have DQ:=(ok.2 p (J4v hf.1)).2;have Jg:Calls prog 151 #[.slice (some ⟨h.t,0,none⟩) 256 256,.func (.func 152) #[] #[]] (w.alloc (.cells #[.int .i64 k,.int .i64 a,.int .i64 f] 69)) fun r w'=>r=.returned (.int .i64 i)/\w'.cell? ⟨w.heap.size,0,none⟩=some (.int .i64 k)/\w'.cell? ⟨w.heap.size,1,none⟩=some (.int .i64 a)/\w'.cell? ⟨w.heap.size,2,none⟩=some (.int .i64 f) /\
   (∃v,w'.cell? ⟨h.t,i*5,none⟩=some v)/\(∃v,w'.cell? ⟨h.t,i*5+1,none⟩=some v)/\(∃v,w'.cell? ⟨h.t,i*5+2,none⟩=some v)/\(∃v,w'.cell? ⟨h.t,i*5+3,none⟩=some v)/\(∀j,w'.frozen? ⟨h.t,j,none⟩=false) /\
   Calls prog 153 #[.pointer (some ⟨h.t,0,none⟩),.int .i64 i] ((((w'.setCell ⟨h.t,i*5,none⟩ (.int .i64 k)).setCell ⟨h.t,i*5+1,none⟩ (.int .i64 a)).setCell ⟨h.t,i*5+2,none⟩ (.int .i64 f)).setCell ⟨h.t,i*5+3,none⟩ (.int .i64 1)).drew
    fun r w2=>r=.returned (.int .u32 ((nm i p:Nat):Int))/\PutT h ⟨k,a,f,1,p.age,x⟩ i w (.returned (.tuple #[.int .u32 ((nm i p:Nat):Int),.int .i64 0])) w2:=by
  refine (Z2R (s.alloc _) ok).mono ?_;rintro r w' ⟨⟨z,rfl,hz⟩,hb⟩;have D0:Below w.heap.size w w':=((Below.refl _ _).alloc (J2h _) _).trans (hb.mono (by simp));have s1:=s.grown D0;have hc:=(Cells.new w 69 [.int .i64 k,.int .i64 a,.int .i64 f]).same (hb.block w.heap.size (by simp));obtain⟨c0,c1,c2,c3,c4,cf⟩:=HT.cell s1.sep hf.1;have Vx:z=(i:Int):=by
   rcases hz with ⟨_,h0⟩|⟨j,q,rfl,h1,h2,h3⟩
   ·exact absurd hf.2.1 (h0 p (J4v hf.1))
   ·rcases J5i i j with e|e|e
    ·exact absurd hf.2.1 (h3 i p e hf.1)
    ·rw [e]
    ·exact absurd h2 (hf.2.2 j q e h1)
  refine⟨by rw [Vx],hc.cell 0 _ rfl,hc.cell 1 _ rfl,hc.cell 2 _ rfl,⟨_,c0⟩,⟨_,c1⟩,⟨_,c2⟩,⟨_,c3⟩,cf,?_⟩;have g:∀(r:Pl),(h.l.set i r)[i]?=some r:=fun r=>by rw [J5W (J2y.1 hf.1).1]
  have t0:Step h.hl (⟨h.t,h.l.set i ⟨k,p.at_,p.fac,p.st,p.age,x⟩⟩:HT).hl w' _:=HT.set s1.sep hf.1 0 (.int .i64 k) (by omega) (q:=⟨k,p.at_,p.fac,p.st,p.age,x⟩) rfl;have t1:=HT.set (h:=⟨h.t,h.l.set i ⟨k,p.at_,p.fac,p.st,p.age,x⟩⟩) t0.sep (g _) 1 (.int .i64 a) (by omega) (q:=⟨k,a,p.fac,p.st,p.age,x⟩) rfl;simp only [J4Y] at t1;have t2:=HT.set (h:=⟨h.t,h.l.set i ⟨k,a,p.fac,p.st,p.age,x⟩⟩) t1.sep (g _) 2 (.int .i64 f) (by omega) (q:=⟨k,a,f,p.st,p.age,x⟩) rfl;simp only [J4Y] at t2;have t3:=HT.set (h:=⟨h.t,h.l.set i ⟨k,a,f,p.st,p.age,x⟩⟩) t2.sep (g _) 3 (.int .i64 1) (by omega) (q:=⟨k,a,f,1,p.age,x⟩) rfl
  simp only [J4Y] at t3;have tt:=(s1.trans (((t0.trans t1).trans t2).trans t3)).drew;have hn:=Q4E (h:=⟨h.t,h.l.set i ⟨k,a,f,1,p.age,x⟩⟩) tt.sep (g _) An (by exact DQ);refine hn.mono ?_;rintro r w2 ⟨rfl,rfl⟩;exact⟨rfl,rfl,tt⟩
 have Aa:h.t≠w.heap.size:=by have:=(HT.cells s).lt;omega
 have B9:w.heap.size≠h.t:=fun e=>Aa e.symm
 have hw:IntKind.i64.wrap (i:Int)=(i:Int):=Go.IntWalk.i64_in _ (by omega);clear s ok hf DQ;generalize PutT h ⟨k,a,f,1,p.age,x⟩ i w=Q at *
 generalize nm i p=n at *
 go_enter func66,ntmps66;go_wp2_with (go_at_call 151;refine Jg.mono ?_;rintro e w1 ⟨rfl,o0,o1,o2,⟨v0,c0⟩,⟨v1,c1⟩,⟨v2,c2⟩,⟨v3,c3⟩,cf,JH⟩;have f0:=cf (i*5);have f1:=cf (i*5+1);have f2:=cf (i*5+2);have f3:=cf (i*5+3);have HN:=Q0a JH;clear JH cf);go_region;go_wp2_with fail;refine HN.out.mono ?_;rintro r w2 ⟨rfl,hq⟩;go_wp2_with fail
 first|exact hq|(go_ret2;exact hq)
theorem Z5N (x:Nat):∀y∈Q0d x,y<256:=by
 intro y hy;unfold Q0d at hy;simp only [J2m,J2D,or_false] at hy;rcases hy with rfl|rfl|rfl|rfl|rfl|rfl|rfl|rfl <;> exact J5n _ (by omega)
def one (e:Int):Ending:=.returned (.int .i64 e)
def at2 (a:Nat) (e:Int):Ending:=.returned (.tuple #[.int .i64 a,.int .i64 e])
def GetC (S:CO) (fr:List Nat) (own n:Nat) (e:En Fa) (w:World) (r:Ending) (w':World):Prop:=
 (Q0v e<((costK n:Nat):Int)/\r=at2 0 5/\Step S.hl S.hl w w') ∨
 (((costK n:Nat):Int)<=Q0v e/\NoPage S.P/\r=at2 0 4/\Step S.hl S.hl w w') ∨
 ∃a P' fr',((costK n:Nat):Int)<=Q0v e/\GotM S.P fr own n a P' fr'/\r=at2 a 0/\Step S.hl (S.setP P').hl w w'
theorem J0B {S:CO} {fr:List Nat} {w w':World} {r:Ending} (h:Sep w S.hl) (ok:S.P.Ok fr) {own n:Nat} {e:En Fa} (hf:find S.P.q.E own=some e) (h1:1<=n) (h7:n<=7) (hr:GetP S.P fr own n w r w'):GetC S fr own n e w r w':=by
 have hc:Q1i (n:Int)=Q0c n:=by unfold Q1i;rw [if_pos (by omega),J3m]
 have Cp:=costN_pos.2 ⟨h1,h7⟩;have Eb:costK n=Q0c n:=Q1T (by omega);rcases hr with ⟨h0,_⟩|⟨_,hn,_⟩|⟨_,⟨e',AL,hq⟩,rfl,st⟩|⟨m,e',hm,_,_,AL,hq,hr⟩
 ·omega
 ·rw [hf] at hn;cases hn
 ·rw [hf] at AL;cases AL;exact .inl ⟨by unfold Q0v;rw [Eb,<- hc];exact hq,rfl,CO.stepP h S.P rfl st⟩
 ·have:m=n:=by omega
  subst this;rw [hf] at AL;cases AL;have C6:((costK m:Nat):Int)<=Q0v e:=by unfold Q0v;rw [Eb];exact hq
  rcases hr with ⟨a,P',rfl,g,st⟩|⟨hn,rfl,st⟩
  ·exact .inr (.inr ⟨a,P',fr,C6,g.gotM ok,rfl,CO.stepP h P' g.p st⟩)
  ·exact .inr (.inl ⟨C6,hn.page,rfl,CO.stepP h S.P rfl st⟩)
def PutC (S:CO) (fr:List Nat) (own n a:Nat) (w:World) (r:Ending) (w':World):Prop:=
 r=.returned (.tuple #[])/\∃P' fr',BackM S.P fr own n a P' fr'/\Step S.hl (S.setP P').hl w w'
structure Held (P:PL) (fr:List Nat) (own n a:Nat) (e:En Fa):Prop where
 acc:find P.q.E own=some e
 paid:((costK n:Nat):Int)<=e.q.charged
 at':n≠8->a∈P.usedOf n
 frame:n=8->∃g∈fr,a=1024*g
theorem J0C {S:CO} {fr:List Nat} {w w':World} {r:Ending} (h:Sep w S.hl) (ok:S.P.Ok fr) {own n a:Nat} (hr:PutR S.P fr own n a w r w'):∃P' fr',BackM S.P fr own n a P' fr'/\Step S.hl (S.setP P').hl w w':=by
 obtain⟨_,P',g,st⟩:=hr;exact⟨P',fr,g.backM ok,CO.stepP h P' g.p st⟩
theorem Z8t {m:List Nat} {a n:Nat} (hn:8<=n) (hl:a+n<=m.length):put_ (put_ m a (List.replicate n 0)) a (Q0d 0)=put_ m a (List.replicate n 0):=by
 have DD:(put_ m a (List.replicate n 0)).length=m.length:=Q2s _ _ _ (by rw [J2r];exact hl);have h8:(Q0d 0).length=8:=rfl
 apply J3P
 intro i;rw [Q6d _ _ _ (by rw [DD,h8];omega)];by_cases h1:i<a
 ·rw [if_pos h1]
 ·rw [if_neg h1];by_cases h2:i<a+(Q0d 0).length
  ·rw [if_pos h2];have:i=a+(i-a):=by omega
   rw [h8] at h2;rw [this,Q7v (by rw [J2r];exact hl) (by rw [J2r];omega),show a+(i-a)-a=i-a by omega,J4i,if_pos (by omega)];have h3:i-a<8:=by omega
   generalize i-a=j at h3
   match j,h3 with
   | 0,_=>rfl
   | 1,_=>rfl
   | 2,_=>rfl
   | 3,_=>rfl
   | 4,_=>rfl
   | 5,_=>rfl
   | 6,_=>rfl
   | 7,_=>rfl
  ·rw [if_neg h2]
def Q3j (S:CO) (own n a:Nat) (lim:Int) (e:En Fa) (w:World) (r:Ending) (w':World):Prop:=
 ((∀p∈S.l,p.st≠0)/\r=one 11/\Step S.hl S.hl w w') ∨
 ((∃i p,Fst S.l i p)/\n≠1/\r=one 0/\Step S.hl S.hl w w') ∨
 ((∃i p,Fst S.l i p)/\n=1/\(∃er,((er=5/\Q0v e<lim)∨(er=11/\S.P.q.E.length=32))/\r=one er)/\Step S.hl (S.setP (S.P.setA (put_ S.P.a.mem a (Q0d 0)))).hl w w') ∨
 ((∃i p,Fst S.l i p)/\n=1/\lim<=Q0v e/\r=one 0/\∃b,Step S.hl (S.setP ((S.P.setQ (Q4b S.P.q own e b lim)).setA (put_ S.P.a.mem a (Q0d S.P.q.next.toNat)))).hl w w')
theorem GotM.acc {P P':PL} {fr fr':List Nat} {own k a:Nat} {e:En Fa} (g:GotM P fr own k a P' fr') (he:find P.q.E own=some e):find P'.q.E own=some {e with q:={e.q with charged:=e.q.charged+((costK k:Nat):Int)}}/\P'.q.E=upd P.q.E own {e.q with charged:=e.q.charged+((costK k:Nat):Int)}/\P'.q.next=P.q.next/\P'.q.E.length=P.q.E.length:=by
 obtain⟨e',q1,_,q3⟩:=g.q;rw [he] at q1;cases q1;rw [q3];refine⟨Q0i he _,rfl,rfl,?_⟩;show (upd _ _ _).length=_;unfold upd;simp
theorem GotM.held {P P':PL} {fr fr':List Nat} {own k a:Nat} {e:En Fa} (g:GotM P fr own k a P' fr') (ok:P.Ok fr) (he:find P.q.E own=some e):Held P' fr' own k a {e with q:={e.q with charged:=e.q.charged+((costK k:Nat):Int)}}:=by
 have h0:=(ok.q.fa _ e he).1;refine⟨(g.acc he).1,by show _<=e.q.charged+_;omega,fun h=>(g.used h).mem_iff.2 (by simp),fun h=>?_⟩;have hf:=g.frs;rw [if_pos h] at hf;obtain⟨x,rfl,hx⟩:=hf;exact⟨x,by rw [hx];simp,rfl⟩
theorem J1v {S:CO} {fr fr':List Nat} {N K:Nat} (ok:S.Ok fr N K) {h n a i:Nat} {f p:Pl} {e:En Fa} {lim:Int} {P':PL} (hf:pget S.l 1 h=some f) (Dp:f.kind=1) (hn:n=8∨2<=n/\n<=5) (he:find S.P.q.E f.own=some e) (g:GotM S.P fr f.own n a P' fr') (hi:Fst S.l i p) :
  MadeOk S fr f e n a lim 0 i p P' fr':=by
 obtain⟨_,hE,BA,_⟩:=g.acc he;refine⟨ok.inv.addN g hi.1 hi.2.1 hn hf Dp,g.same,g.keptL ok.inv.mem,by rw [BA];omega,fun _=>hE,fun h=>by omega,fun _ j h1 h2=>?_,g.few,g.high ok.inv.mem.pool (by omega),g.keptH ok.inv.mem.pool,g.room.1⟩;rw [g.mem];have:j=a+(j-a):=by omega
 rw [this,Q7v (by rw [J2r];exact g.room.1) (by rw [J2r];omega),J4i,if_pos (by omega)]
theorem J1w {S:CO} {fr fr':List Nat} {N K:Nat} (ok:S.Ok fr N K) (hN:N+1<1048576) {h a i b:Nat} {f p:Pl} {e:En Fa} {lim:Int} {P':PL} (hf:pget S.l 1 h=some f) (Dp:f.kind=1) (he:find S.P.q.E f.own=some e) (h0:0<=lim) (hl:lim<=Q0v e-64) (g:GotM S.P fr f.own 1 a P' fr') (hi:Fst S.l i p) :
  MadeOk S fr f e 1 a lim S.P.q.next.toNat i p ((P'.setQ (Q4b P'.q f.own {e with q:={e.q with charged:=e.q.charged+64}} b lim)).setA (put_ P'.a.mem a (Q0d S.P.q.next.toNat))) fr':=by
 obtain⟨Io,hE,BA,_⟩:=g.acc he;have D4:costK 1=64:=rfl;rw [D4] at Io hE;have hr:=g.room.1;rw [D4] at hr;have Ha:∀x,(Q0d x).length=8:=fun _=>rfl
 have Dw:=ok.inv.mem.pool.q.next0;have Dq:=ok.next;have Pw:((S.P.q.next.toNat:Nat):Int)=S.P.q.next:=by omega
 have Ac:=g.same.len;have okq:(Q4b P'.q f.own {e with q:={e.q with charged:=e.q.charged+64}} b lim).Ok:=Z5G g.ok.q Io b h0 (by show lim<=e.q.limit-(e.q.charged+64+e.q.given);unfold Q0v at hl;omega) (by rw [BA];omega);have Og:(put_ P'.a.mem a (Q0d S.P.q.next.toNat)).length=P'.a.mem.length:=Q2s _ _ _ (by rw [Ha];omega);have Uh:∀y∈put_ P'.a.mem a (Q0d S.P.q.next.toNat),y<256:=by
  intro y hy;unfold put_ at hy;simp only [J2V] at hy;rcases hy with (hy|hy)|hy
  ·exact g.ok.bytes y (J5C hy)
  ·exact Z5N _ y hy
  ·exact g.ok.bytes y (J4K hy)
 have ok2:=PL.ok_setA (PL.ok_setQ g.ok okq) (m:=put_ P'.a.mem a (Q0d S.P.q.next.toNat)) Og Uh;have hq:(Q4b P'.q f.own {e with q:={e.q with charged:=e.q.charged+64}} b lim).E=upd S.P.q.E f.own {e.q with charged:=e.q.charged+64,given:=e.q.given+lim,kids:=e.q.kids+1}++[⟨(S.P.q.next.toNat:Int),b,⟨lim,0,0,f.own,0⟩⟩]:=by
  unfold Q4b;simp only;rw [hE,upd_upd,BA,Pw]
 have MM:KeptL S.P.a.mem (put_ P'.a.mem a (Q0d S.P.q.next.toNat)) S.l:=KeptL.of_apart ok.inv.mem (n:=64) (a:=a) (fun c j h=>by
  have k1:Kept S.P.a.mem P'.a.mem c j:=by
   rw [g.mem];exact Q1E (by rw [J2r,D4];exact hr) (by rw [J2r,D4];exact h)
  exact k1.trans (Q1E (by rw [Ha];omega) (by rw [Ha];omega))) (g.apart ok.inv.mem.pool)
 refine⟨?_,⟨g.same.p,g.same.qt,g.same.db,g.same.aa,g.same.amb,g.same.top,Og.trans Ac⟩,MM,?_,fun h=>absurd rfl h,fun _=>⟨Pw,?_,b,hq⟩,fun h=>absurd rfl h,g.few,g.high ok.inv.mem.pool (by omega),fun j c hj hc=>?_,by rw [D4];exact hr⟩
 ·exact ok.inv.addF g hi.1 hi.2.1 hf Dp Pw he hq rfl (fun j=>rfl) ok2
 ·show P'.q.next+1<=_;rw [BA];omega
 ·show P'.q.next+1=_;rw [BA]
 ·have:=(g.apart ok.inv.mem.pool).1 j c hc;rw [D4] at this;exact (g.keptH ok.inv.mem.pool j c hj hc).trans (Q1E (by rw [Ha];omega) (by rw [Ha];omega))
theorem Z2S (ts:List (Nat×Nat)):(Q0O ts).length=ts.length*2:=by
 induction ts with
 | nil=>rfl
 | cons x r ih=>unfold Q0O at *;rw [J2E,J2R,ih];simp;omega
theorem Z2T (a b:List (Nat×Nat)):Q0O (a++b)=Q0O a++Q0O b:=by unfold Q0O;rw [J2P]
theorem Z5O:(prog.info? 298).map (fun i=>(i.zero,i.size,i.bytes))=some (some (.agg #[.int .i64 0,.int .i64 0]),2,16):=by kernel_rfl
def J0D (g per now:Nat) (rv:OV) (ts:List (Nat×Nat)) (x:Nat) (w:World) (r:Ending) (w':World):Prop:=∃rv',r=.returned (.int .i64 ((ts.length+1:Nat):Int))/\ovOk rv' (ts.length+1)/\Step (qhl g per now rv ts) (qhl g per now rv' (ts++[(x,now+per)])) w w'
theorem Z5P {w:World} {g per now:Nat} {rv:OV} {ts:List (Nat×Nat)} (h:Sep w (qhl g per now rv ts)) (AY:ovOk rv ts.length) (hl:ts.length<=256) (x:Nat) :
  ∃rv' w',(Builtin.append_ #[265,265] 265 #[ovOf rv ts.length,.slice (some ⟨w.heap.size,0,none⟩) 1 1]).run prog (w.drew.alloc (.cells #[.int .i64 x,.int .i64 ((now+per:Nat):Int)] 298))=.ok (ovOf rv' (ts.length+1)) w' /\
   w'.cell? ⟨g,0,none⟩=some (.int .i64 per)/\w'.cell? ⟨g,1,none⟩=some (.int .i64 now)/\w'.cell? ⟨g,2,none⟩=some (ovOf rv ts.length)/\(∀i,w'.frozen? ⟨g,i,none⟩=false) /\
   (w'.setCell ⟨g,2,none⟩ (ovOf rv' (ts.length+1))).cell? ⟨g,2,none⟩=some (ovOf rv' (ts.length+1)) /\
   ovOk rv' (ts.length+1)/\J0D g per now rv ts x w (.returned (.int .i64 ((ts.length+1:Nat):Int))) (w'.setCell ⟨g,2,none⟩ (ovOf rv' (ts.length+1))):=by
 obtain⟨i0,hi,BN,Bt,Bp⟩:=info_parts Z5O;have h1:Sep (w.drew.alloc (.cells #[.int .i64 x,.int .i64 ((now+per:Nat):Int)] 298)) (ovH rv 298 2 (Q0O ts)++[(g,isC 267 [.int .i64 per,.int .i64 now,ovOf rv ts.length])]):=by
  refine Sep.perm (h.drew.alloc _) ?_;unfold qhl;exact (J5N _ _).symm
 have CV:Src prog 2 265 (.slice (some ⟨w.heap.size,0,none⟩) 1 1) 1 [.int .i64 x,.int .i64 ((now+per:Nat):Int)] (w.drew.alloc (.cells #[.int .i64 x,.int .i64 ((now+per:Nat):Int)] 298)):=by
  refine Src.ofSlice _ underlying265 ⟨w.heap.size,0,none⟩ 1 1 _ rfl ?_ ?_
  ·intro j u hj;have:=(Cells.new w.drew 298 [.int .i64 x,.int .i64 ((now+per:Nat):Int)]).cell j u hj;rw [addp,J4L];exact this
  ·intro u hu;simp only [J2m,J2D,or_false] at hu;rcases hu with rfl|rfl <;> rfl
 obtain⟨rv',w',hr,Ds,st⟩:=Z5n (P:=prog) (B:=[(g,isC 267 [.int .i64 per,.int .i64 now,ovOf rv ts.length])]) h1 AY (Z2S ts) i0 (.agg #[.int .i64 0,.int .i64 0]) 16 underlying265 hi BN Bt Bp rfl _ CV (by omega) (by omega) (by omega);have hc:=st.sep.cells (b:=g) (T:=267) (cs:=[.int .i64 per,.int .i64 now,ovOf rv ts.length]) (by simp);have s2:=Sep.set (A:=ovH rv' 298 2 (Q0O ts++[.int .i64 x,.int .i64 ((now+per:Nat):Int)])) (B:=[]) st.sep 2 (ovOf rv' (ts.length+1));refine⟨rv',w',hr,hc.cell 0 _ rfl,hc.cell 1 _ rfl,hc.cell 2 _ rfl,hc.free,(hc.set 2 _).cell 2 _ rfl,Ds,rv',rfl,Ds,?_⟩;have st':Step (qhl g per now rv ts) _ w _:=((st.trans s2).from_alloc.from_drew).perm (by unfold qhl;exact J5N _ _) (J5A _)
 refine st'.perm (J5A _) ?_;unfold qhl;rw [Z2T,J2R];exact J5N _ _
theorem Z8u {w:World} {g per now:Nat} {rv:OV} {ts:List (Nat×Nat)} (h:Sep w (qhl g per now rv ts)) (AY:ovOk rv ts.length) (hl:ts.length<=256) (Kf:per<=16) (Fy:now<=1048576) {gb x:Nat} (hx:w.cell? ⟨gb,0,none⟩=some (.int .i64 x)) :
  Calls prog 173 #[.pointer (some ⟨g,0,none⟩),.slice (some ⟨gb,0,none⟩) 1 1] w (J0D g per now rv ts x w):=by
 have hc:Cells w g 267 [.int .i64 per,.int .i64 now,ovOf rv ts.length]:=h.cells (by simp [qhl]);have c0:=hc.cell 0 _ rfl;have c1:=hc.cell 1 _ rfl;have c2:=hc.cell 2 _ rfl;have f2:=hc.free 2;have Ab:=hc.lt;obtain⟨rv',w',hr,d0,d1,d2,df,e2,Ds,hq⟩:=Z5P h AY hl x;obtain⟨g',off',BH,rfl⟩:∃g' off' BH,rv'=some (g',off',BH):=by
  cases rv' with
  | none=>exact absurd Ds (Nat.succ_ne_zero _)
  | some q=>exact⟨q.1,q.2.1,q.2.2,rfl⟩
 rw [show ovOf (some (g',off',BH)) (ts.length+1)=.slice (some ⟨g',off',none⟩) (ts.length+1) BH from rfl] at hr e2 hq;rw [Int.natCast_add] at hr hq;have HR:=Q0a hr;have HQ:=Q0a hq;have df2:=df 2;have hw:IntKind.i64.wrap ((now:Int)+(per:Int))=(now:Int)+(per:Int):=Go.IntWalk.i64_in _ (by omega);have ES:wrap64 ((now:Int)+(per:Int))=(now:Int)+(per:Int):=Go.IntWalk.wrap64_in _ (by omega);generalize J0D g per now rv ts x w=Q at *
 generalize ovOf rv ts.length=v0 at *
 generalize ts.length=n at *
 clear h AY hc hr hq df Ds;go_enter func173,ntmps173;go_wp2_with fail
 go_loopg [6,11] 2 (fun gk _ iv wr=>(iv=.int .i64 0/\gk=2/\wr=w)∨(iv=.int .i64 1/\gk=1/\wr=w'.setCell ⟨g,2,none⟩ (.slice (some ⟨g',off',none⟩) (n+1) BH)))
 case atStart=>exact .inl ⟨rfl,rfl,rfl⟩
 case round =>
  rcases hrel with ⟨rfl,rfl,rfl⟩|⟨rfl,rfl,rfl⟩
  ·go_wp2_with fail
   go_region_law (refine Q0F rfl _ _ 265 265 rfl _ _ (by simp [Act.eval]) (by simp [Act.eval]) HR.out ?_)
   all_goals
    go_wp2_with fail;go_roundg 1
    case measure=>omega
    case rel=>exact .inr ⟨by go_num,rfl,rfl⟩
  ·go_wp2_with fail
   first|exact HQ.out|(go_ret;exact HQ.out)
def Q5D (ts:List (Nat×Nat)) (now x:Nat):Int:=match ts.find? (fun t=>t.1==x) with
 | some t=>(t.2:Int)-(now:Int)
 | none=>0
theorem Z2U {w:World} (a b x bx:Nat) (h:w.cell? ⟨bx,0,none⟩=some (.int .i64 x)):Calls prog 175 #[.agg #[.int .i64 a,.int .i64 b],.pointer (some ⟨bx,0,none⟩)] w (Told w (.bool (((a:Nat):Int)==(x:Int)))):=by
 have Ab:=World.block_lt_of_cell? w ⟨bx,0,none⟩ h;have Hh:bx<w.heap.size:=Ab;go_enter func175,ntmps175
 go_wp2
 go_ret;exact⟨rfl,(Below.refl _ _).alloc (J2h _) _⟩
def FstT (ts:List (Nat×Nat)) (x:Nat) (z:Int):Prop:=(z = -1/\∀t∈ts,t.1≠x)∨∃(i:Nat) (t:Nat×Nat),z=(i:Int)/\ts[i]?=some t/\t.1=x/\∀j u,j<i->ts[j]?=some u->u.1≠x
theorem FstT.left {ts:List (Nat×Nat)} {x:Nat} {z:Int} (h:FstT ts x z) (now:Nat):(z = -1/\Q5D ts now x=0)∨∃(i:Nat) (t:Nat×Nat),z=(i:Int)/\ts[i]?=some t/\Q5D ts now x=(t.2:Int)-(now:Int):=by
 rcases h with ⟨rfl,h⟩|⟨i,t,rfl,h1,h2,h3⟩
 ·left;refine⟨rfl,?_⟩;unfold Q5D;rw [J4a.2 (fun t ht=>by simpa using h t ht)]
 ·right;refine⟨i,t,rfl,h1,?_⟩;have:ts.find? (fun t=>t.1==x)=some t:=by
   obtain⟨hi,e⟩:=J2y.1 h1;rw [List.find?_eq_some_iff_getElem];refine⟨by simpa using h2,i,hi,e,fun j hj=>?_⟩;have:=h3 j ts[j] hj (J4y (by omega))
   simpa using this
  unfold Q5D;rw [this]
theorem Z5Q {ts:List (Nat×Nat)}:∀{i:Nat} {t:Nat×Nat},ts[i]?=some t->(Q0O ts)[i*2]?=some (.int .i64 (t.1:Int))/\(Q0O ts)[i*2+1]?=some (.int .i64 (t.2:Int)):=by
 induction ts with
 | nil=>intro i t h;cases h
 | cons y r ih =>
  intro i t h;cases i with
  | zero=>cases h;exact⟨rfl,rfl⟩
  | succ i =>
   have:=ih (i:=i) (t:=t) h;have e:Q0O (y::r)=[.int .i64 (y.1:Int),.int .i64 (y.2:Int)]++Q0O r:=rfl;rw [e,J5v (by show 2<=(i+1)*2;omega),J5v (by show 2<=(i+1)*2+1;omega)];have e1:(i+1)*2-[Value.int .i64 (y.1:Int),.int .i64 (y.2:Int)].length=i*2:=by show (i+1)*2-2=i*2;omega
   have e2:(i+1)*2+1-[Value.int .i64 (y.1:Int),.int .i64 (y.2:Int)].length=i*2+1:=by show (i+1)*2+1-2=i*2+1;omega
   rw [e1,e2];exact this
theorem J1x {w:World} {g per now b off cap:Nat} {ts:List (Nat×Nat)} (h:Sep w (qhl g per now (some (b,off,cap)) ts)) {i:Nat} {t:Nat×Nat} (hi:ts[i]?=some t):w.cell? ⟨b,off+i*2,none⟩=some (.int .i64 (t.1:Int))/\w.cell? ⟨b,off+i*2+1,none⟩=some (.int .i64 (t.2:Int)):=by
 have hs:Sep w (ovH (some (b,off,cap)) 298 2 (Q0O ts)):=Sep.tail h;obtain⟨e1,e2⟩:=Z5Q hi;exact⟨Q6k hs _ _ e1,by rw [J3H];exact Q6k hs _ _ e2⟩
theorem Z2V {w:World} {g per now:Nat} {rv:OV} {ts:List (Nat×Nat)} (h:Sep w (qhl g per now rv ts)) (AY:ovOk rv ts.length) (hl:ts.length<=256) {bx x:Nat} (hx:w.cell? ⟨bx,0,none⟩=some (.int .i64 x)) :
  Calls prog 174 #[ovOf rv ts.length,.func (.func 175) #[] #[.pointer (some ⟨bx,0,none⟩)]] w fun r w'=>(∃z,r=.returned (.int .i64 z)/\FstT ts x z)/\Below w.heap.size w w':=by
 have HS:=Q0a h;have HX:=Q0a hx;have FC:bx<w.heap.size:=World.block_lt_of_cell? w ⟨bx,0,none⟩ hx;have Fl:Hid (∀i t,ts[i]?=some t->∃b off cap,rv=some (b,off,cap)):=fun i t hi=>by
  have:=(J2y.1 hi).1;cases rv with
  | none=>have h0:ts.length=0:=AY;omega
  | some q=>exact⟨q.1,q.2.1,q.2.2,rfl⟩
 obtain⟨sa,sc,hv⟩:∃sa sc,ovOf rv ts.length=.slice sa ts.length sc:=by
  cases rv with
  | none=>have h0:ts.length=0:=AY;exact⟨none,0,by rw [h0];rfl⟩
  | some q=>exact⟨_,_,rfl⟩
 have HV:=Q0a hv;rw [hv];clear h hx hv;generalize hn:ts.length=n at *
 have HN:=Q0a hn;clear hn;go_enter func174,ntmps174;go_wp2_with fail
 go_loopg [5,8] n (fun gk _ iv wr=>∃k:Nat,iv=.int .i64 k/\k+gk=n/\(∀j u,j<k->ts[j]?=some u->u.1≠x)/\Below w.heap.size w wr)
 case atStart=>exact⟨0,rfl,J4L _,fun j u hj=>absurd hj (J5J _),Below.refl _ _⟩
 case round =>
  obtain⟨k,rfl,A7,A3,hb⟩:=hrel;have Bi:=Q0a A7;have DJ:=Q0a A3;have HB:=Q0a hb;clear A3;by_cases Ab:k<n
  ·obtain⟨t,ht⟩:∃t,ts[k]?=some t:=⟨_,J4y (by have:=HN.out;omega)⟩
   obtain⟨b,off,cap,AQ⟩:=Fl.out k t ht;have VK:sa=some ⟨b,off,none⟩:=by
    have:=HV.out;rw [AQ] at this;cases this;rfl
   have Az:=J1x (w:=wr) (by rw [<- AQ];exact (HS.out.grown hb).sep) ht;obtain⟨c0,c1⟩:=Az;subst VK;have HT:=Q0a ht;have DT:wr.cell? ⟨bx,0,none⟩=some (.int .i64 x):=(hb.cell (p:=⟨bx,0,none⟩) FC).trans HX.out;have Bo:=Z2U (w:=wr) t.1 t.2 x bx DT;clear ht hb DT AQ;by_cases hs:t.1=x
   ·have Bq:=Q0a hs;have If:(((t.1:Nat):Int)==(x:Int))=true:=by simp [hs]
    rw [If] at Bo;clear hs If;go_wp2_with (go_at_call 175;refine Bo.mono ?_;rintro e w1 ⟨rfl,Av⟩;have Bg:=Q0a Av;clear Av);have HR:Hid ((∃z,Ending.returned (.int .i64 k)=.returned (.int .i64 z)/\FstT ts x z)/\Below w.heap.size w w1):=⟨⟨_,rfl,.inr ⟨k,t,rfl,HT.out,Bq.out,DJ.out⟩⟩,HB.out.trans (Bg.out.mono HB.out.size)⟩
    first|exact HR.out|(go_ret;exact HR.out)
   ·have Bq:=Q0a hs;have If:=Q3i hs;rw [If] at Bo;clear hs If;go_wp2_with (go_at_call 175;refine Bo.mono ?_;rintro e w1 ⟨rfl,Av⟩;have Bg:=Q0a Av;clear Av);go_roundg (n-(k+1))
    case measure=>have:=Bi.out;omega
    case rel =>
     refine⟨k+1,by go_num,by omega,fun j q hj hq=>?_,HB.out.trans (Bg.out.mono HB.out.size)⟩;by_cases e:j=k
     ·subst e;have:=HT.out;rw [this] at hq;cases hq;exact Bq.out
     ·exact DJ.out j q (by omega) hq
  ·have HR:Hid ((∃z,Ending.returned (.int .i64 (-1))=.returned (.int .i64 z)/\FstT ts x z)/\Below w.heap.size w wr):=⟨⟨_,rfl,.inl ⟨rfl,fun p hp=>by
    obtain⟨i,hi⟩:=J4V.1 hp;have:=(J2y.1 hi).1;have:=HN.out;exact DJ.out i p (by omega) hi⟩⟩,HB.out⟩
   go_wp2_with fail
   first|exact HR.out|(go_ret;exact HR.out)
theorem Z5R {w:World} {g per now:Nat} {rv:OV} {ts:List (Nat×Nat)} (h:Sep w (qhl g per now rv ts)) (AY:ovOk rv ts.length) (hl:ts.length<=256) (hdue:∀t∈ts,now<=t.2/\t.2<=2097152) (x:Nat) :
  Calls prog 99 #[.pointer (some ⟨g,0,none⟩),.int .i64 x] w (Told w (.int .i64 (Q5D ts now x))):=by
 have hc:Cells w g 267 [.int .i64 per,.int .i64 now,ovOf rv ts.length]:=h.cells (by simp [qhl]);have c2:=hc.cell 2 _ rfl;have Ab:=hc.lt;have Jg:Calls prog 174 #[ovOf rv ts.length,.func (.func 175) #[] #[.pointer (some ⟨w.heap.size,0,none⟩)]] (w.alloc (.cells #[.int .i64 x] 3)) fun r w'=>(r=.returned (.int .i64 (-1))/\Q5D ts now x=0∨∃(i b off cap at_:Nat),r=.returned (.int .i64 i)/\i<ts.length/\ovOf rv ts.length=.slice (some ⟨b,off,none⟩) ts.length cap/\w'.cell? ⟨g,2,none⟩=some (.slice (some ⟨b,off,none⟩) ts.length cap)/\w'.cell? ⟨b,off+i*2+1,none⟩=some (.int .i64 at_)/\w'.cell? ⟨g,1,none⟩=some (.int .i64 now)/\Q5D ts now x=(at_:Int)-(now:Int)/\now<=at_/\at_<=2097152)/\Below w.heap.size w w':=by
  refine (Z2V (h.alloc _) AY hl (bx:=w.heap.size) (x:=x) (by have:=(Cells.new w 3 [.int .i64 x]).cell 0 _ rfl;exact this)).mono ?_;rintro r w' ⟨⟨z,rfl,hz⟩,hb⟩;have D0:Below w.heap.size w w':=((Below.refl _ _).alloc (J2h _) _).trans (hb.mono (by simp));refine⟨?_,D0⟩;rcases hz.left now with ⟨rfl,e⟩|⟨i,t,rfl,hi,e⟩
  ·exact .inl ⟨rfl,e⟩
  ·right;have C1:=(J2y.1 hi).1;obtain⟨b,off,cap,rfl⟩:∃b off cap,rv=some (b,off,cap):=by
    cases rv with
    | none=>have h0:ts.length=0:=AY;omega
    | some q=>exact⟨q.1,q.2.1,q.2.2,rfl⟩
   have s1:=(h.grown D0).sep;have Cf:Cells w' g 267 [.int .i64 per,.int .i64 now,ovOf (some (b,off,cap)) ts.length]:=s1.cells (by simp [qhl]);obtain⟨d1,d2⟩:=hdue t (J4v hi);exact⟨i,b,off,cap,t.2,rfl,C1,rfl,Cf.cell 2 _ rfl,(J1x s1 hi).2,Cf.cell 1 _ rfl,e,d1,d2⟩
 clear h hc hdue;generalize Q5D ts now x=lv at *
 generalize ovOf rv ts.length=v0 at *
 generalize ts.length=n at *
 clear AY;go_enter func99,ntmps99;go_wp2_with fail;refine Jg.mono ?_;rintro r w' ⟨⟨rfl,rfl⟩|⟨i,b,off,cap,at_,rfl,C1,rfl,e2,e0,e1,rfl,d1,d2⟩,hb⟩
 ·have HB:=Q0a hb;clear hb Jg;go_wp2_with fail
  first|exact⟨rfl,HB.out⟩|(go_ret;exact⟨rfl,HB.out⟩)
 ·have HB:Hid (Told w (.int .i64 ((at_:Int)-(now:Int))) (.returned (.int .i64 ((at_:Int)-(now:Int)))) w'/\∀m,Told w (.int .i64 ((at_:Int)-(now:Int))) (.returned (.int .i64 ((at_:Int)-(now:Int)))) (w'.drewN m)):=⟨⟨rfl,hb⟩,fun m=>⟨rfl,hb.os,hb.tape,hb.output,hb.size,hb.block⟩⟩
  have Oa:IntKind.i64.wrap (i:Int)=(i:Int):=Go.IntWalk.i64_in _ (by omega);have hw:wrap64 ((at_:Int)-(now:Int))=(at_:Int)-(now:Int):=Go.IntWalk.wrap64_in _ (by omega);have ES:IntKind.i64.wrap ((at_:Int)-(now:Int))=(at_:Int)-(now:Int):=Go.IntWalk.i64_in _ (by omega);have BJ:(0:Int)<=(i:Int):=by omega
  have Ce:(i:Int)<(n:Int):=by omega
  clear hb Jg c2;go_wp2_with fail
  go_quiet (fail)
  go_wp2_with fail;go_ret;exact HB.out.2 _
def NewG (per:Nat) (H:HL) (w:World) (r:Ending) (w':World):Prop:=∃g,r=.returned (.pointer (some ⟨g,0,none⟩))/\Step H (qhl g per 0 none []++H) w w'
theorem Z8v {w:World} {H:HL} (h:Sep w H) (per:Nat) (h1:1<=per) (h2:per<=16):Calls prog 64 #[.int .i64 per] w (NewG per H w):=by
 have HR:Hid (NewG per H w (.returned (.pointer (some ⟨w.heap.size,0,none⟩))) (w.alloc (.cells #[.int .i64 per,.int .i64 0,.slice none 0 0] 267))):=⟨_,rfl,h.new 267 [.int .i64 per,.int .i64 0,.slice none 0 0]⟩
 have Ig:decide ((per:Int)<1)=false:=by rw [decide_eq_false_iff_not];omega
 have FH:decide ((16:Int)<(per:Int))=false:=by rw [decide_eq_false_iff_not];omega
 have Bh:(1:Int)<=(per:Int):=by omega
 have A8:(per:Int)<=16:=by omega
 clear h;go_enter func64,ntmps64;go_wp2_with fail
 first|exact HR.out|(go_ret;exact HR.out)
theorem Q9h {w:World} {q:QT} (h:Sep w q.hl) (ok:q.Ok) {id:Int} {e:En Fa} (hf:find q.E id=some e) (limit:Int) (h0:0<=limit) (hq:e.q.limit-(e.q.charged+e.q.given)<limit) :
  Calls prog 157 #[ptr q.t,.int .i64 id,.int .i64 limit] w (Told w (.tuple #[.int .i64 0,.int .i64 5])):=by
 have k1:=Q2o h hf;obtain⟨a1,a2,a3,a4,_⟩:=ok.fa id e hf;have k2:=Q3e (QT.fac h hf) a1 a2 a3 a4 limit;have hd:decide (limit<=e.q.limit-(e.q.charged+e.q.given))=false:=by rw [decide_eq_false_iff_not];omega
 rw [hd] at k2;clear h hf ok hd hq;unfold ptr at *
 go_enter func157,ntmps157;go_wp2_with (first|(go_at_call 130;refine k1.mono ?_;rintro e w' ⟨rfl,rfl⟩)|(go_at_call 224;refine k2.mono ?_;rintro e w1 ⟨rfl,hb⟩;have HB:=Q0a hb;clear hb));go_ret2;exact⟨rfl,HB.out⟩
theorem Z2W {P:Program} {w:World} {m:Nat} {kv:List (Value×Value)} (h:MapIs w m kv) {t k e:TypeId} (ht:P.underlying t=some (.map k e)) (ty:TypeId):(Builtin.len_ #[t] ty #[.map (some m)]).run P w=.ok (.int .i64 ((kv.length:Nat):Int)) w:=by
 obtain⟨es,Ai,ho,_,hr⟩:=h;have:kv.length=es.size:=by rw [<- hr];simp
 rw [this];simp [Builtin.len_,run_underlying ht,MapKept.run_getObj_map ho,goInt,Result.andThen]
theorem QT.len {w:World} {q:QT} (h:Sep w q.hl) (ty:TypeId):(Builtin.len_ #[252] ty #[.map (some q.m)]).run prog w=.ok (.int .i64 ((q.E.length:Nat):Int)) w:=by
 have:=Z2W (QT.map h) underlying252 ty
 simpa [kvs] using this
theorem Z0C {w:World} {q:QT} (h:Sep w q.hl) (ok:q.Ok) {id:Int} {e:En Fa} (hf:find q.E id=some e) (limit:Int) (h0:0<=limit) (hq:limit<=e.q.limit-(e.q.charged+e.q.given)) (hl:q.E.length=32) :
  Calls prog 157 #[ptr q.t,.int .i64 id,.int .i64 limit] w (Told w (.tuple #[.int .i64 0,.int .i64 11])):=by
 have k1:=Q2o h hf;obtain⟨a1,a2,a3,a4,_⟩:=ok.fa id e hf;have k2:=Q3e (QT.fac h hf) a1 a2 a3 a4 limit;have hd:decide (limit<=e.q.limit-(e.q.charged+e.q.given))=true:=by rw [decide_eq_true_eq];exact hq
 rw [hd] at k2;have HN:Hid (∀w1,Below w.heap.size w w1->w1.cell? ⟨q.t,0,none⟩=some (.map (some q.m))/\∀ty,(Builtin.len_ #[252] ty #[.map (some q.m)]).run prog w1=.ok (.int .i64 32) w1):=fun w1 hb=>by
  have s1:=(h.grown hb).sep;refine⟨QT.c0 s1,fun ty=>?_⟩;have:=QT.len s1 ty;rw [hl] at this;exact this
 clear h hf ok hd hq hl;unfold ptr at *
 go_enter func157,ntmps157;go_wp2_with (first|(go_at_call 130;refine k1.mono ?_;rintro e w' ⟨rfl,rfl⟩)|(go_at_call 224;refine k2.mono ?_;rintro e w1 ⟨rfl,hb⟩;obtain⟨d0,dl⟩:=HN.out w1 hb;have HB:=Q0a hb;clear hb));go_ret2;exact⟨rfl,HB.out⟩
theorem Z5S {w:World} {q:QT} (h:Sep w q.hl) (ok:q.Ok) {id:Int} {e:En Fa} (hf:find q.E id=some e) (limit:Int) (h0:0<=limit) (hq:limit<=e.q.limit-(e.q.charged+e.q.given)) (hl:q.E.length≠32) (hn:q.next+1<1048576) :
  Calls prog 157 #[ptr q.t,.int .i64 id,.int .i64 limit] w (Z0B w q id e limit):=by
 have k1:=Q2o h hf;obtain⟨a1,a2,a3,a4,a5,a6,_⟩:=ok.fa id e hf;have k2:=Q3e (QT.fac h hf) a1 a2 a3 a4 limit;have hd:decide (limit<=e.q.limit-(e.q.charged+e.q.given))=true:=by rw [decide_eq_true_eq];exact hq
 rw [hd] at k2;have Dw:=ok.next0;have HN:Hid (∀w1,Below w.heap.size w w1->w1.cell? ⟨q.t,0,none⟩=some (.map (some q.m))/\w1.cell? ⟨q.t,1,none⟩=some (.int .i64 q.next)/\w1.frozen? ⟨q.t,1,none⟩=false/\(∀ty,(Builtin.len_ #[252] ty #[.map (some q.m)]).run prog w1=.ok (.int .i64 ((q.E.length:Nat):Int)) w1) /\
   Q0B ((w1.setCell ⟨q.t,1,none⟩ (.int .i64 (q.next+1))).alloc (.cells #[.int .i64 limit,.int .i64 0,.int .i64 0,.int .i64 id,.int .i64 0] 236)) q.m (kvs q.E) /\
   ∀w4,Q0B w4 q.m (put (kvs q.E) q.next (.pointer (some ⟨w1.heap.size,0,none⟩)))->((w1.setCell ⟨q.t,1,none⟩ (.int .i64 (q.next+1))).alloc (.cells #[.int .i64 limit,.int .i64 0,.int .i64 0,.int .i64 id,.int .i64 0] 236)).grownBy w4 (some q.m) ->
    w4.cell? ⟨e.b,2,none⟩=some (.int .i64 e.q.given)/\w4.cell? ⟨e.b,4,none⟩=some (.int .i64 e.q.kids)/\(∀i,w4.frozen? ⟨e.b,i,none⟩=false) /\
    Z0B w q id e limit (.returned (.tuple #[.int .i64 q.next,.int .i64 0])) ((w4.setCell ⟨e.b,2,none⟩ (.int .i64 (e.q.given+limit))).setCell ⟨e.b,4,none⟩ (.int .i64 (e.q.kids+1)))):=fun w1 hb=>by
  have s1:=h.grown hb;have hm:Q0B (w1.setCell ⟨q.t,1,none⟩ (.int .i64 (q.next+1))) q.m (kvs q.E):=(QT.map s1.sep).set _ _;refine⟨QT.c0 s1.sep,QT.c1 s1.sep,(s1.sep.cells (T:=254) (cs:=[.map (some q.m),.int .i64 q.next]) (by simp [QT.hl])).free 1,QT.len s1.sep,hm.alloc _,fun w4 hm4 hg=>?_⟩;obtain⟨c1,c2,c3,st⟩:=QT.carve s1.sep ok hf limit w4 hm4 hg;exact⟨c1,c2,c3,rfl,_,s1.trans st⟩
 have hw:IntKind.i64.wrap (q.next+1)=q.next+1:=Go.IntWalk.i64_in _ (by omega);have ES:IntKind.i64.wrap (e.q.given+limit)=e.q.given+limit:=Go.IntWalk.i64_in _ (by omega);have Je:IntKind.i64.wrap (e.q.kids+1)=e.q.kids+1:=Go.IntWalk.i64_in _ (by have:=ok.next1;omega);have W6:(((q.E.length:Nat):Int)==32)=false:=by simp;omega
 generalize hQ:Z0B w q id e limit=Q at *
 clear h hf ok hd hq hl hn hQ;unfold ptr at *
 generalize ((q.E.length:Nat):Int)=n32 at *
 go_enter func157,ntmps157;go_wp2_with (first|(go_at_call 130;refine k1.mono ?_;rintro e w' ⟨rfl,rfl⟩)|(go_at_call 224;refine k2.mono ?_;rintro e w1 ⟨rfl,hb⟩;obtain⟨d0,d1,df,dl,hm,Bj⟩:=HN.out w1 hb;have HM:=Q0a hm;have HF:=Q0a Bj;clear hb hm Bj HN)|(refine Q1Q _ rfl _ _ _ 252 3 229 rfl underlying252 underlying3 q.m (kvs q.E) HM.out q.next (.pointer (some ⟨w1.heap.size,0,none⟩)) rfl rfl rfl ?_;intro w4 D2 Cz;obtain⟨e2,e4,ef,Lo⟩:=HF.out w4 D2 Cz;have ef2:=ef 2;have ef4:=ef 4;have LT:=Q0a Lo;clear D2 Cz ef Lo))
 first|exact LT.out|(go_ret2;exact LT.out)
theorem Z5T {w:World} {q:QT} (h:Sep w q.hl) (ok:q.Ok) {id:Int} {e c:En Fa} (hc:find q.E id=some c) (hid:id≠0) (h1:c.q.charged=0) (h2:c.q.given=0) (h3:c.q.kids=0) (he:find q.E c.q.parent=some e) (hg:c.q.limit<=e.q.given) (hl:0<=c.q.limit) :
  Calls prog 136 #[ptr q.t,.int .i64 id] w (Z5F w q c.q.parent e c id):=by
 have k1:=Q2o h hc;obtain⟨a1,a2,a3,a4,_⟩:=ok.fa id c hc;obtain⟨b1,b2,b3,b4,b5,b6,_⟩:=ok.fa _ e he;have Dq:=ok.next1;have k2:=Q8f (QT.fac h hc) a1 a2 (by omega);rw [h1,h2] at k2;have HN:Hid (∀w1,Below w.heap.size w w1->w1.cell? ⟨q.t,0,none⟩=some (.map (some q.m))/\w1.cell? ⟨c.b,0,none⟩=some (.int .i64 c.q.limit)/\w1.cell? ⟨c.b,3,none⟩=some (.int .i64 c.q.parent)/\w1.cell? ⟨c.b,4,none⟩=some (.int .i64 0) /\
   ∀m,(Instr.lookup 252 (.map (some q.m)) (.int .i64 c.q.parent) false).run prog (w1.drewN m)=.ok (.pointer (some ⟨e.b,0,none⟩)) (w1.drewN m)):=fun w1 hb=>by
  have s1:=(h.grown hb).sep;have k:=QT.fac s1 hc;have QZ:=k.cell 4 _ rfl;rw [h3] at QZ;exact⟨QT.c0 s1,k.cell 0 _ rfl,k.cell 3 _ rfl,QZ,fun m=>QT.look_some (s1.drewN m) he⟩
 have HM:Hid (∀w1 m,Below w.heap.size w w1->(w1.drewN m).cell? ⟨q.t,0,none⟩=some (.map (some q.m))/\(w1.drewN m).cell? ⟨c.b,0,none⟩=some (.int .i64 c.q.limit)/\(w1.drewN m).cell? ⟨e.b,2,none⟩=some (.int .i64 e.q.given)/\(w1.drewN m).cell? ⟨e.b,4,none⟩=some (.int .i64 e.q.kids)/\(∀i,(w1.drewN m).frozen? ⟨e.b,i,none⟩=false)/\(w1.drewN m).heap.size=w1.heap.size):=fun w1 m hb=>by
  have s1:=((h.grown hb).sep).drewN m;have k:=QT.fac s1 hc;have k':=QT.fac s1 he;exact⟨QT.c0 s1,k.cell 0 _ rfl,k'.cell 2 _ rfl,k'.cell 4 _ rfl,k'.free,rfl⟩
 have hw:IntKind.i64.wrap (e.q.given-c.q.limit)=e.q.given-c.q.limit:=Go.IntWalk.i64_in _ (by omega);have ES:IntKind.i64.wrap (e.q.kids-1)=e.q.kids-1:=Go.IntWalk.i64_in _ (by omega);have U4:(id==0)=false:=by simpa using hid
 have Aa:q.t≠e.b:=by
  have AD:=h.nd;simp only [QT.hl,keys_cons,J3d] at AD;intro e1;refine AD.1 ?_;rw [J2m];right;rw [e1];exact J2n.2 ⟨(e.b,isC 236 e.q.cells),J2n.2 ⟨e,(Q0b he).1,rfl⟩,rfl⟩
 have HS:=Q0a h;have HC:=Q0a hc;have HE:=Q0a he;have Ct:=Q0a ok;generalize hQ:Z5F w q c.q.parent e c id=Q at *
 have HQ:=Q0a hQ;clear h hc he ok hQ hid;unfold ptr at *
 go_enter func136,ntmps136;go_wp2_with (first|(go_at_call 130;refine k1.mono ?_;rintro e w' ⟨rfl,rfl⟩)|(go_at_call 131;refine k2.mono ?_;rintro e w1 ⟨rfl,hb⟩;obtain⟨d0,d1,d3,d4,dl⟩:=HN.out w1 hb;have dl1:=dl 1;have dl0:(Instr.lookup 252 (.map (some q.m)) (.int .i64 c.q.parent) false).run prog w1.drew=.ok (.pointer (some ⟨e.b,0,none⟩)) w1.drew:=dl 1;have HB:=Q0a hb;clear hb HN));go_region;obtain⟨f0,f1,f2,f4,ff,fs⟩:=HM.out w1 1 HB.out;have g0:w1.drew.cell? ⟨q.t,0,none⟩=some (.map (some q.m)):=f0;have g1:w1.drew.cell? ⟨c.b,0,none⟩=some (.int .i64 c.q.limit):=f1;have g2:w1.drew.cell? ⟨e.b,2,none⟩=some (.int .i64 e.q.given):=f2
 have g4:w1.drew.cell? ⟨e.b,4,none⟩=some (.int .i64 e.q.kids):=f4;have h2:w1.drew.frozen? ⟨e.b,2,none⟩=false:=ff 2;have h4:w1.drew.frozen? ⟨e.b,4,none⟩=false:=ff 4;clear d0 d1 d3 d4 dl dl0 dl1 f0 f1 f2 f4 ff fs k1 k2;have HP:Hid (Q0B (((w1.setCell ⟨e.b,2,none⟩ (.int .i64 (e.q.given-c.q.limit))).setCell ⟨e.b,4,none⟩ (.int .i64 (e.q.kids-1))).drew.drew) q.m (kvs q.E) /\
   ∀w4,Q0B w4 q.m (del (kvs q.E) id)->(((w1.setCell ⟨e.b,2,none⟩ (.int .i64 (e.q.given-c.q.limit))).setCell ⟨e.b,4,none⟩ (.int .i64 (e.q.kids-1))).drew.drew).grownBy w4 (some q.m)->Q (.returned (.int .i64 0)) w4):=by
  have s1:=HS.out.grown HB.out;have s2:Sep (w1.drewN 2) q.hl:=s1.sep.drewN 2;have hm:Q0B (((w1.drewN 2).setCell ⟨e.b,2,none⟩ (.int .i64 (e.q.given-c.q.limit))).setCell ⟨e.b,4,none⟩ (.int .i64 (e.q.kids-1))) q.m (kvs q.E):=((QT.map s2).set _ _).set _ _;refine⟨hm,fun w4 hm4 Ij=>?_⟩;have st:=QT.close s2 Ct.out HE.out HC.out w4 hm4 Ij;rw [<- HQ.out];exact⟨rfl,s1.trans (st.from_drewN)⟩
 have HL:Hid (((w1.setCell ⟨e.b,2,none⟩ (.int .i64 (e.q.given-c.q.limit))).drew.drew).cell? ⟨e.b,4,none⟩=some (.int .i64 e.q.kids)/\((w1.setCell ⟨e.b,2,none⟩ (.int .i64 (e.q.given-c.q.limit))).drew.drew).frozen? ⟨e.b,4,none⟩=false /\
   (((w1.setCell ⟨e.b,2,none⟩ (.int .i64 (e.q.given-c.q.limit))).setCell ⟨e.b,4,none⟩ (.int .i64 (e.q.kids-1))).drew.drew).cell? ⟨q.t,0,none⟩=some (.map (some q.m))):=by
  have k:=(QT.fac (HS.out.grown HB.out).sep HE.out).set 2 (.int .i64 (e.q.given-c.q.limit));refine⟨k.cell 4 _ rfl,k.free 4,?_⟩;show ((w1.setCell ⟨e.b,2,none⟩ _).setCell ⟨e.b,4,none⟩ _).cell? ⟨q.t,0,none⟩=_;rw [World.cell?_of_block (Below.heap_setCell _ _ _ _ Aa),World.cell?_of_block (Below.heap_setCell _ _ _ _ Aa)];exact g0
 go_wp2_with fail;go_region;obtain⟨e4,f4,e0⟩:=HL.out;go_wp2_with (refine Q2w _ rfl _ _ 252 3 3 229 rfl underlying252 underlying3 q.m (kvs q.E) HP.out.1 id rfl rfl ?_;intro w4 De B8;have LT:=Q0a (HP.out.2 w4 De B8);clear De B8)
 first|exact LT.out|(go_ret;exact LT.out)
end Go.Proofs.YtlakjlmaboioiaaGreatDoor
