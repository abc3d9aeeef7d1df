/- SpaceRevokes returns true at every input. No condition. Part of its proof. -/
import Derived.Test.YtlakjlmaboioiaaGreatDoorSv10
import Derived.Deep.LoopGhost
set_option maxHeartbeats 4000000
set_option maxRecDepth 100000
set_option linter.unusedVariables false
namespace Go.Proofs.YtlakjlmaboioiaaGreatDoor
open Go.RowKit Go.Proofs.Tryz
theorem Z2D (l:List Pl) (h:l.length=256):(l.flatMap Pl.cells).length=1280:=by rw [Z9R,h]
theorem J0c:(prog.info? 262).map (·.size)=some 1280:=by kernel_rfl
theorem HT.range {w:World} {h:HT} (s:Sep w h.hl):w.rangeAt h.t 0 (h.l.flatMap Pl.cells):=fun j v hv=>by
 rw [J4q];exact (HT.cells s).cell j v hv
theorem Z2E {l:List Pl} {i:Nat} {p:Pl} (hi:l[i]?=some p):(l.flatMap Pl.cells).toArray.extract (i*5) (i*5+5)=p.cells.toArray:=by
 apply Array.ext'
 rw [Array.toList_extract]
 apply J3u
 intro j;simp only [List.extract_eq_take_drop,J4K];rw [J3P];split
 ·rename_i hj;rw [J4o];have h5:j<p.cells.length:=hj;have:=Q4a hi j p.cells[j] hj (J4d h5);rw [this,J4d h5]
 ·rw [J3B (by show 5<=j;omega)]
theorem Z7V {w:World} {l:List Pl} (hl:l.length=256) {i:Nat} {p:Pl} (hi:l[i]?=some p):(Instr.index 262 (.agg (l.flatMap Pl.cells).toArray) (.int .i64 i)).run prog w=.ok (.agg p.cells.toArray) w:=by
 have Ab:i<256:=by have:=(J2c.1 hi).1;omega
 have e:=Z2E hi;generalize (l.flatMap Pl.cells).toArray=cs at *
 have h1:(0:Int)<=(i:Int)/\(i:Int)<((256:Nat):Int):=by omega
 have h2:(prog.info? 261).map (·.size)=some 5:=J0X;cases hq:prog.info? 261 with
 | none=>simp [hq] at h2
 | some inf =>
  have hs:inf.size=5:=by simpa [hq] using h2
  have hu:prog.underlying 262=some (.array 256 261):=underlying262;have TP:(isAgg 261).run prog w=.ok true w:=by
   unfold isAgg;rw [Sem.run_bind,run_underlying underlying261 w];rfl
  simp [Instr.index,asIntOf,Sem.run_bind,run_underlying hu w,h1,part,sizeOf,typeInfo,hq,hs,e];intro hh;omega
theorem Z1A {w:World} {h:HT} (s:Sep w h.hl) (ok:LOk h.l) (st:Nat) (Ao:st<=3) :
  Calls prog 171 #[.pointer (some ⟨h.t,0,none⟩),.int .i64 st] w (NewHs w (allL h.l st)):=by
 have HL:Hid (w.rangeAt h.t 0 (h.l.flatMap Pl.cells)):=HT.range s;have HI:Hid (∀(w':World) (i:Nat) (p:Pl),h.l[i]?=some p->(Instr.index 262 (.agg (h.l.flatMap Pl.cells).toArray) (.int .i64 i)).run prog w'=.ok (.agg p.cells.toArray) w'):=fun w' i p hp=>Z7V ok.1 hp
 go_enter func171,ntmps171;go_wp2_with (refine wpList_load_mid rfl 262 _ rfl h.t 0 rfl (h.l.flatMap Pl.cells) _ HL.out underlying262 rfl (by rw [Z2D _ ok.1];exact J0c) ?_);have Ct:=Q0a ok;have HS:=Q0a s;have IB:=ok.1;clear s ok HL;generalize Bu:(h.l.flatMap Pl.cells).toArray=cs at *
 obtain⟨i0,D1,BN,Bh,Bf⟩:=info_parts Q3D
 go_loopg [5,14] 256 (fun gk ov iv wr=>∃k:Nat,iv=.int .i64 k/\k+gk=256/\OutH w wr ov (Q4U h.l st k))
 case atStart=>exact⟨0,rfl,rfl,OutH.nil w⟩
 case round =>
  obtain⟨k,rfl,AL,Au⟩:=hrel;have HO:=Q0a Au;have BW:=Q0a AL;clear Au;by_cases Ab:k<256
  ·obtain⟨p,hp⟩:∃p,h.l[k]?=some p:=⟨h.l[k]'(by omega),J4d (by omega)⟩
   have Lm:=HI.out wr k p hp;have HP:=Q0a hp;have ha:Hid (p.age<=1048575):=(Ct.out.2 p (J4a hp)).2;clear hp;by_cases hs:p.st=st
   ·have BO:=Q0a hs;have hb:(((p.st:Nat):Int)==(st:Int))=true:=by simp [hs]
    clear hs;unfold Pl.cells at Lm;have Kk:=Q4v ((HS.out.grown HO.out.2).sep.alloc (.cells #[.int .i64 (p.kind:Int),.int .i64 (p.at_:Int),.int .i64 (p.fac:Int),.int .i64 (p.st:Int),.int .u32 (p.age:Int)] 261)) HP.out Ab ha.out;have Ac:=Q2y h.l st k;have Bv:=HO.out.2.size;go_wp2_with fail;refine Kk.mono ?_;rintro e w' ⟨rfl,rfl⟩;dsimp only
    iterate 4 go_step
    refine wpList_append_own _ rfl _ _ 66 rfl w.heap.size 27 i0 (.int .u32 0) 1 4 underlying66 D1 BN Bh Bf rfl (by decide) _ _ _ rfl ((HO.out.1.alloc _).alloc _) ⟨wr.heap.size+1,0,none⟩ 1 1 [.int .u32 ((nm k p:Nat):Int)] rfl rfl (Q7e _ _ _) (by simp [Value.oneCell']) (by unfold maxLen;omega) (by omega) (by simp;omega) ?_;intro v' w1 AS Ca _;have HR:Hid (OutH w w1 v' (Q4U h.l st (k+1))):=by
     have e:=Q6N HP.out st;rw [if_pos BO.out] at e;rw [e];exact HO.out.app2 (M:=[nm k p]) AS Ca
    clear AS Ca HO Bv Ac;go_wp2_with fail;go_roundg (256-(k+1))
    case measure=>have:=BW.out;omega
    case rel=>exact⟨k+1,by go_num,by omega,HR.out⟩
   ·have BO:=Q0a hs;have hb:=Q4y hs;clear hs;unfold Pl.cells at Lm;have HR:Hid (∀o,OutH w (wr.alloc o) u5 (Q4U h.l st (k+1))):=fun o=>by
     have e:=Q6N HP.out st;rw [if_neg BO.out,J3S] at e;rw [e];exact HO.out.alloc o
    go_wp2_with fail;go_roundg (256-(k+1))
    case measure=>have:=BW.out;omega
    case rel=>exact⟨k+1,by go_num,by omega,HR.out _⟩
  ·have e:Q4U h.l st k=allL h.l st:=by
    have:k=256:=by omega
    unfold allL;rw [this,IB]
   rw [e] at HO;have HR:Hid (NewHs w (allL h.l st) (.returned u5) wr):=⟨u5,rfl,HO.out.1,HO.out.2⟩
   go_wp2_with fail;go_ret;exact HR.out
theorem Q8K {w:World} {h:HT} (s:Sep w h.hl) (ok:LOk h.l):Calls prog 94 #[.pointer (some ⟨h.t,0,none⟩)] w (NewHs w (allL h.l 1)):=by
 have hA:Calls prog 171 #[.pointer (some ⟨h.t,0,none⟩),.int .i64 1] w (NewHs w (allL h.l 1)):=Z1A s ok 1 (by omega);clear s ok;go_enter func94,ntmps94;go_wp2_with (go_at_call 171;refine hA.mono ?_;rintro e w' ⟨v,rfl,h1,h2⟩)
 first|exact⟨v,rfl,h1,h2⟩|(go_ret;exact⟨v,rfl,h1,h2⟩)
theorem Q6c {w:World} {h:HT} (s:Sep w h.hl) (ok:LOk h.l):Calls prog 156 #[.pointer (some ⟨h.t,0,none⟩)] w (Told w (.int .i64 ((allL h.l 0).length:Nat))):=by
 have hA:Calls prog 171 #[.pointer (some ⟨h.t,0,none⟩),.int .i64 0] w (NewHs w (allL h.l 0)):=Z1A s ok 0 (by omega);clear s ok;generalize allL h.l 0=L at *
 go_enter func156,ntmps156;go_wp2_with (go_at_call 171;refine hA.mono ?_;intro e w' hx;obtain⟨a,cap,rfl,hb,-⟩:=hx.shape;have HB:=Q0a hb;clear hx hb)
 first|exact⟨rfl,HB.out⟩|(go_ret;exact⟨rfl,HB.out⟩)
theorem empty_iff {l:List Pl}:allL l 0=[]↔∀p∈l,p.st≠0:=by
 constructor
 ·intro h p hp hs;obtain⟨i,hi⟩:=J4A.1 hp;have Ab:=(J2c.1 hi).1;have:nm i p∈allL l 0:=mem_allTo.2 ⟨i,p,Ab,hi,hs,rfl⟩;rw [h] at this;cases this
 ·intro h;cases hc:allL l 0 with
  | nil=>rfl
  | cons x r =>
   exfalso;have:x∈allL l 0:=by rw [hc];simp
   obtain⟨i,p,_,hi,hs,_⟩:=mem_allTo.1 this;exact h p (J4a hi) hs
def Fst (l:List Pl) (i:Nat) (p:Pl):Prop:=l[i]?=some p/\p.st=0/\∀j q,j<i->l[j]?=some q->q.st≠0
theorem Z7W (l:List Pl):(∀p∈l,p.st≠0)∨∃i p,Fst l i p:=by
 induction l with
 | nil=>left;simp
 | cons x r ih =>
  by_cases hx:x.st=0
  ·right;exact⟨0,x,rfl,hx,fun j q hj=>absurd hj (J5o _)⟩
  ·rcases ih with h|⟨i,p,h1,h2,h3⟩
   ·left;intro p hp;rcases J1Q.1 hp with rfl|hp
    ·exact hx
    ·exact h p hp
   ·right;refine⟨i+1,p,h1,h2,fun j q hj hq=>?_⟩;cases j with
    | zero=>cases hq;exact hx
    | succ j=>exact h3 j q (by omega) hq
theorem Z5y {w:World} (p:Pl):Calls prog 152 #[.agg p.cells.toArray] w (Told w (.bool (((p.st:Nat):Int)==0))):=by
 have hc:=Cells.new w 261 p.cells;have c3:(w.alloc (.cells p.cells.toArray 261)).cell? ⟨w.heap.size,3,none⟩=some (.int .i64 (p.st:Int)):=hc.cell 3 _ rfl;unfold Pl.cells at *
 clear hc;go_enter func152,ntmps152
 go_wp2
 go_ret;exact⟨rfl,(Below.refl _ _).alloc (J1L _) _⟩
def FstI (l:List Pl) (z:Int):Prop:=(z = -1/\∀p∈l,p.st≠0)∨∃(i:Nat) (p:Pl),z=(i:Int)/\Fst l i p
theorem Z2F {w:World} {h:HT} (s:Sep w h.hl) (ok:LOk h.l):Calls prog 151 #[.slice (some ⟨h.t,0,none⟩) 256 256,.func (.func 152) #[] #[]] w fun r w'=>(∃z,r=.returned (.int .i64 z)/\FstI h.l z)/\Below w.heap.size w w':=by
 have IB:=ok.1;have HS:=Q0a s;clear s ok;go_enter func151,ntmps151;go_wp2_with fail
 go_loopg [5,8] 256 (fun gk _ iv wr=>∃k:Nat,iv=.int .i64 k/\k+gk=256/\(∀j q,j<k->h.l[j]?=some q->q.st≠0)/\Below w.heap.size w wr)
 case atStart=>exact⟨0,rfl,rfl,fun j q hj=>absurd hj (J5o _),Below.refl _ _⟩
 case round =>
  obtain⟨k,rfl,AL,A4,hb⟩:=hrel;have BW:=Q0a AL;have Gq:=Q0a A4;have HB:=Q0a hb;clear A4;by_cases Ab:k<256
  ·obtain⟨p,hp⟩:∃p,h.l[k]?=some p:=⟨h.l[k]'(by omega),J4d (by omega)⟩
   obtain⟨c0,c1,c2,c3,c4,-⟩:=HT.cell ((HS.out.grown hb).sep) hp;have HP:=Q0a hp;have B8:Calls prog 152 #[.agg #[.int .i64 (p.kind:Int),.int .i64 (p.at_:Int),.int .i64 (p.fac:Int),.int .i64 (p.st:Int),.int .u32 (p.age:Int)]] wr (Told wr (.bool (((p.st:Nat):Int)==0))):=Z5y p;clear hp hb;by_cases hs:p.st=0
   ·have BO:=Q0a hs;have Mh:(((p.st:Nat):Int)==0)=true:=by simp [hs]
    rw [Mh] at B8;clear hs Mh;go_wp2_with (go_at_call 152;refine B8.mono ?_;rintro e w1 ⟨rfl,Ax⟩;have Bq:=Q0a Ax;clear Ax);have HR:Hid ((∃z,Ending.returned (.int .i64 k)=.returned (.int .i64 z)/\FstI h.l z)/\Below w.heap.size w w1):=⟨⟨_,rfl,.inr ⟨k,p,rfl,HP.out,BO.out,Gq.out⟩⟩,HB.out.trans (Bq.out.mono HB.out.size)⟩
    first|exact HR.out|(go_ret;exact HR.out)
   ·have BO:=Q0a hs;have Mh:(((p.st:Nat):Int)==0)=false:=by simp;omega
    rw [Mh] at B8;clear hs Mh;go_wp2_with (go_at_call 152;refine B8.mono ?_;rintro e w1 ⟨rfl,Ax⟩;have Bq:=Q0a Ax;clear Ax);go_roundg (256-(k+1))
    case measure=>have:=BW.out;omega
    case rel =>
     refine⟨k+1,by go_num,by omega,fun j q hj hq=>?_,HB.out.trans (Bq.out.mono HB.out.size)⟩;by_cases e:j=k
     ·subst e;have:=HP.out;rw [this] at hq;cases hq;exact BO.out
     ·exact Gq.out j q (by omega) hq
  ·have HR:Hid ((∃z,Ending.returned (.int .i64 (-1))=.returned (.int .i64 z)/\FstI h.l z)/\Below w.heap.size w wr):=⟨⟨_,rfl,.inl ⟨rfl,fun p hp=>by
    obtain⟨i,hi⟩:=J4A.1 hp;have:=(J2c.1 hi).1;exact Gq.out i p (by omega) hi⟩⟩,HB.out⟩
   go_wp2_with fail
   first|exact HR.out|(go_ret;exact HR.out)
def PutT (h:HT) (q:Pl) (i:Nat) (w:World) (r:Ending) (w':World):Prop:=r=.returned (.tuple #[.int .u32 ((nm i q:Nat):Int),.int .i64 0])/\Step h.hl ({h with l:=h.l.set i q}:HT).hl w w'
theorem Z5z {w:World} {h:HT} (s:Sep w h.hl) (ok:LOk h.l) {i:Nat} {p:Pl} (hf:Fst h.l i p) (k a f x:Nat):Calls prog 66 #[.pointer (some ⟨h.t,0,none⟩),.agg #[.int .i64 k,.int .i64 a,.int .i64 f]] w (PutT h ⟨k,a,f,1,p.age,x⟩ i w):=by
 have An:i<256:=by have:=(J2c.1 hf.1).1;have:=ok.1;omega
 have DB:=(ok.2 p (J4a hf.1)).2;have Mu:Calls prog 151 #[.slice (some ⟨h.t,0,none⟩) 256 256,.func (.func 152) #[] #[]] (w.alloc (.cells #[.int .i64 k,.int .i64 a,.int .i64 f] 69)) fun r w'=>r=.returned (.int .i64 i)/\w'.cell? ⟨w.heap.size,0,none⟩=some (.int .i64 k)/\w'.cell? ⟨w.heap.size,1,none⟩=some (.int .i64 a)/\w'.cell? ⟨w.heap.size,2,none⟩=some (.int .i64 f) /\
   (∃v,w'.cell? ⟨h.t,i*5,none⟩=some v)/\(∃v,w'.cell? ⟨h.t,i*5+1,none⟩=some v)/\(∃v,w'.cell? ⟨h.t,i*5+2,none⟩=some v)/\(∃v,w'.cell? ⟨h.t,i*5+3,none⟩=some v)/\(∀j,w'.frozen? ⟨h.t,j,none⟩=false) /\
   Calls prog 153 #[.pointer (some ⟨h.t,0,none⟩),.int .i64 i] ((((w'.setCell ⟨h.t,i*5,none⟩ (.int .i64 k)).setCell ⟨h.t,i*5+1,none⟩ (.int .i64 a)).setCell ⟨h.t,i*5+2,none⟩ (.int .i64 f)).setCell ⟨h.t,i*5+3,none⟩ (.int .i64 1)).drew
    fun r w2=>r=.returned (.int .u32 ((nm i p:Nat):Int))/\PutT h ⟨k,a,f,1,p.age,x⟩ i w (.returned (.tuple #[.int .u32 ((nm i p:Nat):Int),.int .i64 0])) w2:=by
  refine (Z2F (s.alloc _) ok).mono ?_;rintro r w' ⟨⟨z,rfl,hz⟩,hb⟩;have DN:Below w.heap.size w w':=((Below.refl _ _).alloc (J1L _) _).trans (hb.mono (by simp));have s1:=s.grown DN;have hc:=(Cells.new w 69 [.int .i64 k,.int .i64 a,.int .i64 f]).same (hb.block w.heap.size (by simp));obtain⟨c0,c1,c2,c3,c4,cf⟩:=HT.cell s1.sep hf.1;have ST:z=(i:Int):=by
   rcases hz with ⟨_,h0⟩|⟨j,q,rfl,h1,h2,h3⟩
   ·exact absurd hf.2.1 (h0 p (J4a hf.1))
   ·rcases J4N i j with e|e|e
    ·exact absurd hf.2.1 (h3 i p e hf.1)
    ·rw [e]
    ·exact absurd h2 (hf.2.2 j q e h1)
  refine⟨by rw [ST],hc.cell 0 _ rfl,hc.cell 1 _ rfl,hc.cell 2 _ rfl,⟨_,c0⟩,⟨_,c1⟩,⟨_,c2⟩,⟨_,c3⟩,cf,?_⟩;have g:∀(r:Pl),(h.l.set i r)[i]?=some r:=fun r=>by rw [J5B (J2c.1 hf.1).1]
  have t0:Step h.hl (⟨h.t,h.l.set i ⟨k,p.at_,p.fac,p.st,p.age,x⟩⟩:HT).hl w' _:=HT.set s1.sep hf.1 0 (.int .i64 k) (by omega) (q:=⟨k,p.at_,p.fac,p.st,p.age,x⟩) rfl;have t1:=HT.set (h:=⟨h.t,h.l.set i ⟨k,p.at_,p.fac,p.st,p.age,x⟩⟩) t0.sep (g _) 1 (.int .i64 a) (by omega) (q:=⟨k,a,p.fac,p.st,p.age,x⟩) rfl;simp only [J4D] at t1;have t2:=HT.set (h:=⟨h.t,h.l.set i ⟨k,a,p.fac,p.st,p.age,x⟩⟩) t1.sep (g _) 2 (.int .i64 f) (by omega) (q:=⟨k,a,f,p.st,p.age,x⟩) rfl;simp only [J4D] at t2;have t3:=HT.set (h:=⟨h.t,h.l.set i ⟨k,a,f,p.st,p.age,x⟩⟩) t2.sep (g _) 3 (.int .i64 1) (by omega) (q:=⟨k,a,f,1,p.age,x⟩) rfl
  simp only [J4D] at t3;have tt:=(s1.trans (((t0.trans t1).trans t2).trans t3)).drew;have hn:=Q4v (h:=⟨h.t,h.l.set i ⟨k,a,f,1,p.age,x⟩⟩) tt.sep (g _) An (by exact DB);refine hn.mono ?_;rintro r w2 ⟨rfl,rfl⟩;exact⟨rfl,rfl,tt⟩
 have Aa:h.t≠w.heap.size:=by have:=(HT.cells s).lt;omega
 have Bt:w.heap.size≠h.t:=fun e=>Aa e.symm
 have hw:IntKind.i64.wrap (i:Int)=(i:Int):=Go.IntWalk.i64_in _ (by omega);clear s ok hf DB;generalize PutT h ⟨k,a,f,1,p.age,x⟩ i w=Q at *
 generalize nm i p=n at *
 go_enter func66,ntmps66;go_wp2_with (go_at_call 151;refine Mu.mono ?_;rintro e w1 ⟨rfl,o0,o1,o2,⟨v0,c0⟩,⟨v1,c1⟩,⟨v2,c2⟩,⟨v3,c3⟩,cf,Jq⟩;have f0:=cf (i*5);have f1:=cf (i*5+1);have f2:=cf (i*5+2);have f3:=cf (i*5+3);have HN:=Q0a Jq;clear Jq cf);go_region;go_wp2_with fail;refine HN.out.mono ?_;rintro r w2 ⟨rfl,hq⟩;go_wp2_with fail
 first|exact hq|(go_ret2;exact hq)
theorem Z5A (x:Nat):∀y∈Q0d x,y<256:=by
 intro y hy;unfold Q0d at hy;simp only [J1Q,J2h,or_false] at hy;rcases hy with rfl|rfl|rfl|rfl|rfl|rfl|rfl|rfl <;> exact J4S _ (by omega)
def one (e:Int):Ending:=.returned (.int .i64 e)
def at2 (a:Nat) (e:Int):Ending:=.returned (.tuple #[.int .i64 a,.int .i64 e])
def GetC (S:CO) (fr:List Nat) (own n:Nat) (e:En Fa) (w:World) (r:Ending) (w':World):Prop:=
 (Q0w e<((costK n:Nat):Int)/\r=at2 0 5/\Step S.hl S.hl w w') ∨
 (((costK n:Nat):Int)<=Q0w e/\NoPage S.P/\r=at2 0 4/\Step S.hl S.hl w w') ∨
 ∃a P' fr',((costK n:Nat):Int)<=Q0w e/\GotM S.P fr own n a P' fr'/\r=at2 a 0/\Step S.hl (S.setP P').hl w w'
theorem J0d {S:CO} {fr:List Nat} {w w':World} {r:Ending} (h:Sep w S.hl) (ok:S.P.Ok fr) {own n:Nat} {e:En Fa} (hf:find S.P.q.E own=some e) (h1:1<=n) (h7:n<=7) (hr:GetP S.P fr own n w r w'):GetC S fr own n e w r w':=by
 have hc:Q1h (n:Int)=Q0c n:=by unfold Q1h;rw [if_pos (by omega),J2R]
 have BQ:=costN_pos.2 ⟨h1,h7⟩;have DO:costK n=Q0c n:=Q1R (by omega);rcases hr with ⟨h0,_⟩|⟨_,hn,_⟩|⟨_,⟨e',AM,hq⟩,rfl,st⟩|⟨m,e',hm,_,_,AM,hq,hr⟩
 ·omega
 ·rw [hf] at hn;cases hn
 ·rw [hf] at AM;cases AM;exact .inl ⟨by unfold Q0w;rw [DO,<- hc];exact hq,rfl,CO.stepP h S.P rfl st⟩
 ·have:m=n:=by omega
  subst this;rw [hf] at AM;cases AM;have CT:((costK m:Nat):Int)<=Q0w e:=by unfold Q0w;rw [DO];exact hq
  rcases hr with ⟨a,P',rfl,g,st⟩|⟨hn,rfl,st⟩
  ·exact .inr (.inr ⟨a,P',fr,CT,g.gotM ok,rfl,CO.stepP h P' g.p st⟩)
  ·exact .inr (.inl ⟨CT,hn.page,rfl,CO.stepP h S.P rfl st⟩)
def PutC (S:CO) (fr:List Nat) (own n a:Nat) (w:World) (r:Ending) (w':World):Prop:=
 r=.returned (.tuple #[])/\∃P' fr',BackM S.P fr own n a P' fr'/\Step S.hl (S.setP P').hl w w'
structure Held (P:PL) (fr:List Nat) (own n a:Nat) (e:En Fa):Prop where
 acc:find P.q.E own=some e
 paid:((costK n:Nat):Int)<=e.q.charged
 at':n≠8->a∈P.usedOf n
 frame:n=8->∃g∈fr,a=1024*g
theorem J0e {S:CO} {fr:List Nat} {w w':World} {r:Ending} (h:Sep w S.hl) (ok:S.P.Ok fr) {own n a:Nat} (hr:PutR S.P fr own n a w r w'):∃P' fr',BackM S.P fr own n a P' fr'/\Step S.hl (S.setP P').hl w w':=by
 obtain⟨_,P',g,st⟩:=hr;exact⟨P',fr,g.backM ok,CO.stepP h P' g.p st⟩
theorem Z7X {m:List Nat} {a n:Nat} (hn:8<=n) (hl:a+n<=m.length):put_ (put_ m a (List.replicate n 0)) a (Q0d 0)=put_ m a (List.replicate n 0):=by
 have CJ:(put_ m a (List.replicate n 0)).length=m.length:=Q2s _ _ _ (by rw [J1V];exact hl);have h8:(Q0d 0).length=8:=rfl
 apply J3u
 intro i;rw [Q5U _ _ _ (by rw [CJ,h8];omega)];by_cases h1:i<a
 ·rw [if_pos h1]
 ·rw [if_neg h1];by_cases h2:i<a+(Q0d 0).length
  ·rw [if_pos h2];have:i=a+(i-a):=by omega
   rw [h8] at h2;rw [this,Q7c (by rw [J1V];exact hl) (by rw [J1V];omega),show a+(i-a)-a=i-a by omega,J3N,if_pos (by omega)];have h3:i-a<8:=by omega
   generalize i-a=j at h3
   match j,h3 with
   | 0,_=>rfl
   | 1,_=>rfl
   | 2,_=>rfl
   | 3,_=>rfl
   | 4,_=>rfl
   | 5,_=>rfl
   | 6,_=>rfl
   | 7,_=>rfl
  ·rw [if_neg h2]
def Q3i (S:CO) (own n a:Nat) (lim:Int) (e:En Fa) (w:World) (r:Ending) (w':World):Prop:=
 ((∀p∈S.l,p.st≠0)/\r=one 11/\Step S.hl S.hl w w') ∨
 ((∃i p,Fst S.l i p)/\n≠1/\r=one 0/\Step S.hl S.hl w w') ∨
 ((∃i p,Fst S.l i p)/\n=1/\(∃er,((er=5/\Q0w e<lim)∨(er=11/\S.P.q.E.length=32))/\r=one er)/\Step S.hl (S.setP (S.P.setA (put_ S.P.a.mem a (Q0d 0)))).hl w w') ∨
 ((∃i p,Fst S.l i p)/\n=1/\lim<=Q0w e/\r=one 0/\∃b,Step S.hl (S.setP ((S.P.setQ (Q3U S.P.q own e b lim)).setA (put_ S.P.a.mem a (Q0d S.P.q.next.toNat)))).hl w w')
theorem GotM.acc {P P':PL} {fr fr':List Nat} {own k a:Nat} {e:En Fa} (g:GotM P fr own k a P' fr') (he:find P.q.E own=some e):find P'.q.E own=some {e with q:={e.q with charged:=e.q.charged+((costK k:Nat):Int)}}/\P'.q.E=upd P.q.E own {e.q with charged:=e.q.charged+((costK k:Nat):Int)}/\P'.q.next=P.q.next/\P'.q.E.length=P.q.E.length:=by
 obtain⟨e',q1,_,q3⟩:=g.q;rw [he] at q1;cases q1;rw [q3];refine⟨Q0i he _,rfl,rfl,?_⟩;show (upd _ _ _).length=_;unfold upd;simp
theorem GotM.held {P P':PL} {fr fr':List Nat} {own k a:Nat} {e:En Fa} (g:GotM P fr own k a P' fr') (ok:P.Ok fr) (he:find P.q.E own=some e):Held P' fr' own k a {e with q:={e.q with charged:=e.q.charged+((costK k:Nat):Int)}}:=by
 have h0:=(ok.q.fa _ e he).1;refine⟨(g.acc he).1,by show _<=e.q.charged+_;omega,fun h=>(g.used h).mem_iff.2 (by simp),fun h=>?_⟩;have hf:=g.frs;rw [if_pos h] at hf;obtain⟨x,rfl,hx⟩:=hf;exact⟨x,by rw [hx];simp,rfl⟩
theorem J0Y {S:CO} {fr fr':List Nat} {N K:Nat} (ok:S.Ok fr N K) {h n a i:Nat} {f p:Pl} {e:En Fa} {lim:Int} {P':PL} (hf:pget S.l 1 h=some f) (Dj:f.kind=1) (hn:n=8∨2<=n/\n<=5) (he:find S.P.q.E f.own=some e) (g:GotM S.P fr f.own n a P' fr') (hi:Fst S.l i p) :
  MadeOk S fr f e n a lim 0 i p P' fr':=by
 obtain⟨_,hE,Bw,_⟩:=g.acc he;refine⟨ok.inv.addN g hi.1 hi.2.1 hn hf Dj,g.same,g.keptL ok.inv.mem,by rw [Bw];omega,fun _=>hE,fun h=>by omega,fun _ j h1 h2=>?_,g.few,g.high ok.inv.mem.pool (by omega),g.keptH ok.inv.mem.pool,g.room.1⟩;rw [g.mem];have:j=a+(j-a):=by omega
 rw [this,Q7c (by rw [J1V];exact g.room.1) (by rw [J1V];omega),J3N,if_pos (by omega)]
theorem J0Z {S:CO} {fr fr':List Nat} {N K:Nat} (ok:S.Ok fr N K) (hN:N+1<1048576) {h a i b:Nat} {f p:Pl} {e:En Fa} {lim:Int} {P':PL} (hf:pget S.l 1 h=some f) (Dj:f.kind=1) (he:find S.P.q.E f.own=some e) (h0:0<=lim) (hl:lim<=Q0w e-64) (g:GotM S.P fr f.own 1 a P' fr') (hi:Fst S.l i p) :
  MadeOk S fr f e 1 a lim S.P.q.next.toNat i p ((P'.setQ (Q3U P'.q f.own {e with q:={e.q with charged:=e.q.charged+64}} b lim)).setA (put_ P'.a.mem a (Q0d S.P.q.next.toNat))) fr':=by
 obtain⟨GX,hE,Bw,_⟩:=g.acc he;have Dw:costK 1=64:=rfl;rw [Dw] at GX hE;have hr:=g.room.1;rw [Dw] at hr;have GE:∀x,(Q0d x).length=8:=fun _=>rfl
 have Do:=ok.inv.mem.pool.q.next0;have CH:=ok.next;have Oo:((S.P.q.next.toNat:Nat):Int)=S.P.q.next:=by omega
 have Ac:=g.same.len;have okq:(Q3U P'.q f.own {e with q:={e.q with charged:=e.q.charged+64}} b lim).Ok:=Z5t g.ok.q GX b h0 (by show lim<=e.q.limit-(e.q.charged+64+e.q.given);unfold Q0w at hl;omega) (by rw [Bw];omega);have Ng:(put_ P'.a.mem a (Q0d S.P.q.next.toNat)).length=P'.a.mem.length:=Q2s _ _ _ (by rw [GE];omega);have Tl:∀y∈put_ P'.a.mem a (Q0d S.P.q.next.toNat),y<256:=by
  intro y hy;unfold put_ at hy;simp only [J2A] at hy;rcases hy with (hy|hy)|hy
  ·exact g.ok.bytes y (J5h hy)
  ·exact Z5A _ y hy
  ·exact g.ok.bytes y (J4p hy)
 have ok2:=PL.ok_setA (PL.ok_setQ g.ok okq) (m:=put_ P'.a.mem a (Q0d S.P.q.next.toNat)) Ng Tl;have hq:(Q3U P'.q f.own {e with q:={e.q with charged:=e.q.charged+64}} b lim).E=upd S.P.q.E f.own {e.q with charged:=e.q.charged+64,given:=e.q.given+lim,kids:=e.q.kids+1}++[⟨(S.P.q.next.toNat:Int),b,⟨lim,0,0,f.own,0⟩⟩]:=by
  unfold Q3U;simp only;rw [hE,upd_upd,Bw,Oo]
 have LO:KeptL S.P.a.mem (put_ P'.a.mem a (Q0d S.P.q.next.toNat)) S.l:=KeptL.of_apart ok.inv.mem (n:=64) (a:=a) (fun c j h=>by
  have k1:Kept S.P.a.mem P'.a.mem c j:=by
   rw [g.mem];exact Q1D (by rw [J1V,Dw];exact hr) (by rw [J1V,Dw];exact h)
  exact k1.trans (Q1D (by rw [GE];omega) (by rw [GE];omega))) (g.apart ok.inv.mem.pool)
 refine⟨?_,⟨g.same.p,g.same.qt,g.same.db,g.same.aa,g.same.amb,g.same.top,Ng.trans Ac⟩,LO,?_,fun h=>absurd rfl h,fun _=>⟨Oo,?_,b,hq⟩,fun h=>absurd rfl h,g.few,g.high ok.inv.mem.pool (by omega),fun j c hj hc=>?_,by rw [Dw];exact hr⟩
 ·exact ok.inv.addF g hi.1 hi.2.1 hf Dj Oo he hq rfl (fun j=>rfl) ok2
 ·show P'.q.next+1<=_;rw [Bw];omega
 ·show P'.q.next+1=_;rw [Bw]
 ·have:=(g.apart ok.inv.mem.pool).1 j c hc;rw [Dw] at this;exact (g.keptH ok.inv.mem.pool j c hj hc).trans (Q1D (by rw [GE];omega) (by rw [GE];omega))
theorem Z2G (ts:List (Nat×Nat)):(Q1j ts).length=ts.length*2:=by
 induction ts with
 | nil=>rfl
 | cons x r ih=>unfold Q1j at *;rw [J2i,J2v,ih];simp;omega
theorem Z2H (a b:List (Nat×Nat)):Q1j (a++b)=Q1j a++Q1j b:=by unfold Q1j;rw [J2t]
theorem Z5B:(prog.info? 298).map (fun i=>(i.zero,i.size,i.bytes))=some (some (.agg #[.int .i64 0,.int .i64 0]),2,16):=by kernel_rfl
def J0f (g per now:Nat) (rv:OV) (ts:List (Nat×Nat)) (x:Nat) (w:World) (r:Ending) (w':World):Prop:=∃rv',r=.returned (.int .i64 ((ts.length+1:Nat):Int))/\ovOk rv' (ts.length+1)/\Step (qhl g per now rv ts) (qhl g per now rv' (ts++[(x,now+per)])) w w'
theorem Z5C {w:World} {g per now:Nat} {rv:OV} {ts:List (Nat×Nat)} (h:Sep w (qhl g per now rv ts)) (Bi:ovOk rv ts.length) (hl:ts.length<=256) (x:Nat) :
  ∃rv' w',(Builtin.append_ #[265,265] 265 #[ovOf rv ts.length,.slice (some ⟨w.heap.size,0,none⟩) 1 1]).run prog (w.drew.alloc (.cells #[.int .i64 x,.int .i64 ((now+per:Nat):Int)] 298))=.ok (ovOf rv' (ts.length+1)) w' /\
   w'.cell? ⟨g,0,none⟩=some (.int .i64 per)/\w'.cell? ⟨g,1,none⟩=some (.int .i64 now)/\w'.cell? ⟨g,2,none⟩=some (ovOf rv ts.length)/\(∀i,w'.frozen? ⟨g,i,none⟩=false) /\
   (w'.setCell ⟨g,2,none⟩ (ovOf rv' (ts.length+1))).cell? ⟨g,2,none⟩=some (ovOf rv' (ts.length+1)) /\
   ovOk rv' (ts.length+1)/\J0f g per now rv ts x w (.returned (.int .i64 ((ts.length+1:Nat):Int))) (w'.setCell ⟨g,2,none⟩ (ovOf rv' (ts.length+1))):=by
 obtain⟨i0,hi,BN,Bh,Bf⟩:=info_parts Z5B;have h1:Sep (w.drew.alloc (.cells #[.int .i64 x,.int .i64 ((now+per:Nat):Int)] 298)) (ovH rv 298 2 (Q1j ts)++[(g,isC 267 [.int .i64 per,.int .i64 now,ovOf rv ts.length])]):=by
  refine Sep.perm (h.drew.alloc _) ?_;unfold qhl;exact (J5s _ _).symm
 have FA:Src prog 2 265 (.slice (some ⟨w.heap.size,0,none⟩) 1 1) 1 [.int .i64 x,.int .i64 ((now+per:Nat):Int)] (w.drew.alloc (.cells #[.int .i64 x,.int .i64 ((now+per:Nat):Int)] 298)):=by
  refine Src.ofSlice _ underlying265 ⟨w.heap.size,0,none⟩ 1 1 _ rfl ?_ ?_
  ·intro j u hj;have:=(Cells.new w.drew 298 [.int .i64 x,.int .i64 ((now+per:Nat):Int)]).cell j u hj;rw [addp,J4q];exact this
  ·intro u hu;simp only [J1Q,J2h,or_false] at hu;rcases hu with rfl|rfl <;> rfl
 obtain⟨rv',w',hr,Df,st⟩:=Z5a (P:=prog) (B:=[(g,isC 267 [.int .i64 per,.int .i64 now,ovOf rv ts.length])]) h1 Bi (Z2G ts) i0 (.agg #[.int .i64 0,.int .i64 0]) 16 underlying265 hi BN Bh Bf rfl _ FA (by omega) (by omega) (by omega);have hc:=st.sep.cells (b:=g) (T:=267) (cs:=[.int .i64 per,.int .i64 now,ovOf rv ts.length]) (by simp);have s2:=Sep.set (A:=ovH rv' 298 2 (Q1j ts++[.int .i64 x,.int .i64 ((now+per:Nat):Int)])) (B:=[]) st.sep 2 (ovOf rv' (ts.length+1));refine⟨rv',w',hr,hc.cell 0 _ rfl,hc.cell 1 _ rfl,hc.cell 2 _ rfl,hc.free,(hc.set 2 _).cell 2 _ rfl,Df,rv',rfl,Df,?_⟩;have st':Step (qhl g per now rv ts) _ w _:=((st.trans s2).from_alloc.from_drew).perm (by unfold qhl;exact J5s _ _) (J5f _)
 refine st'.perm (J5f _) ?_;unfold qhl;rw [Z2H,J2v];exact J5s _ _
theorem Z7Y {w:World} {g per now:Nat} {rv:OV} {ts:List (Nat×Nat)} (h:Sep w (qhl g per now rv ts)) (Bi:ovOk rv ts.length) (hl:ts.length<=256) (OG:per<=16) (EL:now<=1048576) {gb x:Nat} (hx:w.cell? ⟨gb,0,none⟩=some (.int .i64 x)) :
  Calls prog 173 #[.pointer (some ⟨g,0,none⟩),.slice (some ⟨gb,0,none⟩) 1 1] w (J0f g per now rv ts x w):=by
 have hc:Cells w g 267 [.int .i64 per,.int .i64 now,ovOf rv ts.length]:=h.cells (by simp [qhl]);have c0:=hc.cell 0 _ rfl;have c1:=hc.cell 1 _ rfl;have c2:=hc.cell 2 _ rfl;have f2:=hc.free 2;have Ab:=hc.lt;obtain⟨rv',w',hr,d0,d1,d2,df,e2,Df,hq⟩:=Z5C h Bi hl x;obtain⟨g',off',BA,rfl⟩:∃g' off' BA,rv'=some (g',off',BA):=by
  cases rv' with
  | none=>exact absurd Df (Nat.succ_ne_zero _)
  | some q=>exact⟨q.1,q.2.1,q.2.2,rfl⟩
 rw [show ovOf (some (g',off',BA)) (ts.length+1)=.slice (some ⟨g',off',none⟩) (ts.length+1) BA from rfl] at hr e2 hq;rw [Int.natCast_add] at hr hq;have HR:=Q0a hr;have HQ:=Q0a hq;have df2:=df 2;have hw:IntKind.i64.wrap ((now:Int)+(per:Int))=(now:Int)+(per:Int):=Go.IntWalk.i64_in _ (by omega);have EE:wrap64 ((now:Int)+(per:Int))=(now:Int)+(per:Int):=Go.IntWalk.wrap64_in _ (by omega);generalize J0f g per now rv ts x w=Q at *
 generalize ovOf rv ts.length=v0 at *
 generalize ts.length=n at *
 clear h Bi hc hr hq df Df;go_enter func173,ntmps173;go_wp2_with fail
 go_loopg [6,11] 2 (fun gk _ iv wr=>(iv=.int .i64 0/\gk=2/\wr=w)∨(iv=.int .i64 1/\gk=1/\wr=w'.setCell ⟨g,2,none⟩ (.slice (some ⟨g',off',none⟩) (n+1) BA)))
 case atStart=>exact .inl ⟨rfl,rfl,rfl⟩
 case round =>
  rcases hrel with ⟨rfl,rfl,rfl⟩|⟨rfl,rfl,rfl⟩
  ·go_wp2_with fail
   go_region_law (refine Q0H rfl _ _ 265 265 rfl _ _ (by simp [Act.eval]) (by simp [Act.eval]) HR.out ?_)
   all_goals
    go_wp2_with fail;go_roundg 1
    case measure=>omega
    case rel=>exact .inr ⟨by go_num,rfl,rfl⟩
  ·go_wp2_with fail
   first|exact HQ.out|(go_ret;exact HQ.out)
def NewG (per:Nat) (H:HL) (w:World) (r:Ending) (w':World):Prop:=∃g,r=.returned (.pointer (some ⟨g,0,none⟩))/\Step H (qhl g per 0 none []++H) w w'
theorem Z7Z {w:World} {H:HL} (h:Sep w H) (per:Nat) (h1:1<=per) (h2:per<=16):Calls prog 64 #[.int .i64 per] w (NewG per H w):=by
 have HR:Hid (NewG per H w (.returned (.pointer (some ⟨w.heap.size,0,none⟩))) (w.alloc (.cells #[.int .i64 per,.int .i64 0,.slice none 0 0] 267))):=⟨_,rfl,h.new 267 [.int .i64 per,.int .i64 0,.slice none 0 0]⟩
 have G2:decide ((per:Int)<1)=false:=by rw [decide_eq_false_iff_not];omega
 have Gg:decide ((16:Int)<(per:Int))=false:=by rw [decide_eq_false_iff_not];omega
 have Bc:(1:Int)<=(per:Int):=by omega
 have A5:(per:Int)<=16:=by omega
 clear h;go_enter func64,ntmps64;go_wp2_with fail
 first|exact HR.out|(go_ret;exact HR.out)
theorem Q8L {w:World} {q:QT} (h:Sep w q.hl) (ok:q.Ok) {id:Int} {e:En Fa} (hf:find q.E id=some e) (limit:Int) (h0:0<=limit) (hq:e.q.limit-(e.q.charged+e.q.given)<limit) :
  Calls prog 157 #[ptr q.t,.int .i64 id,.int .i64 limit] w (Told w (.tuple #[.int .i64 0,.int .i64 5])):=by
 have k1:=Q2o h hf;obtain⟨a1,a2,a3,a4,_⟩:=ok.fa id e hf;have k2:=Q3e (QT.fac h hf) a1 a2 a3 a4 limit;have hd:decide (limit<=e.q.limit-(e.q.charged+e.q.given))=false:=by rw [decide_eq_false_iff_not];omega
 rw [hd] at k2;clear h hf ok hd hq;unfold ptr at *
 go_enter func157,ntmps157;go_wp2_with (first|(go_at_call 130;refine k1.mono ?_;rintro e w' ⟨rfl,rfl⟩)|(go_at_call 224;refine k2.mono ?_;rintro e w1 ⟨rfl,hb⟩;have HB:=Q0a hb;clear hb));go_ret2;exact⟨rfl,HB.out⟩
theorem Z2I {P:Program} {w:World} {m:Nat} {kv:List (Value×Value)} (h:MapIs w m kv) {t k e:TypeId} (ht:P.underlying t=some (.map k e)) (ty:TypeId):(Builtin.len_ #[t] ty #[.map (some m)]).run P w=.ok (.int .i64 ((kv.length:Nat):Int)) w:=by
 obtain⟨es,Ai,ho,_,hr⟩:=h;have:kv.length=es.size:=by rw [<- hr];simp
 rw [this];simp [Builtin.len_,run_underlying ht,MapKept.run_getObj_map ho,goInt,Result.andThen]
theorem QT.len {w:World} {q:QT} (h:Sep w q.hl) (ty:TypeId):(Builtin.len_ #[252] ty #[.map (some q.m)]).run prog w=.ok (.int .i64 ((q.E.length:Nat):Int)) w:=by
 have:=Z2I (QT.map h) underlying252 ty
 simpa [kvs] using this
theorem Z0i {w:World} {q:QT} (h:Sep w q.hl) (ok:q.Ok) {id:Int} {e:En Fa} (hf:find q.E id=some e) (limit:Int) (h0:0<=limit) (hq:limit<=e.q.limit-(e.q.charged+e.q.given)) (hl:q.E.length=32) :
  Calls prog 157 #[ptr q.t,.int .i64 id,.int .i64 limit] w (Told w (.tuple #[.int .i64 0,.int .i64 11])):=by
 have k1:=Q2o h hf;obtain⟨a1,a2,a3,a4,_⟩:=ok.fa id e hf;have k2:=Q3e (QT.fac h hf) a1 a2 a3 a4 limit;have hd:decide (limit<=e.q.limit-(e.q.charged+e.q.given))=true:=by rw [decide_eq_true_eq];exact hq
 rw [hd] at k2;have HN:Hid (∀w1,Below w.heap.size w w1->w1.cell? ⟨q.t,0,none⟩=some (.map (some q.m))/\∀ty,(Builtin.len_ #[252] ty #[.map (some q.m)]).run prog w1=.ok (.int .i64 32) w1):=fun w1 hb=>by
  have s1:=(h.grown hb).sep;refine⟨QT.c0 s1,fun ty=>?_⟩;have:=QT.len s1 ty;rw [hl] at this;exact this
 clear h hf ok hd hq hl;unfold ptr at *
 go_enter func157,ntmps157;go_wp2_with (first|(go_at_call 130;refine k1.mono ?_;rintro e w' ⟨rfl,rfl⟩)|(go_at_call 224;refine k2.mono ?_;rintro e w1 ⟨rfl,hb⟩;obtain⟨d0,dl⟩:=HN.out w1 hb;have HB:=Q0a hb;clear hb));go_ret2;exact⟨rfl,HB.out⟩
theorem Z5D {w:World} {q:QT} (h:Sep w q.hl) (ok:q.Ok) {id:Int} {e:En Fa} (hf:find q.E id=some e) (limit:Int) (h0:0<=limit) (hq:limit<=e.q.limit-(e.q.charged+e.q.given)) (hl:q.E.length≠32) (hn:q.next+1<1048576) :
  Calls prog 157 #[ptr q.t,.int .i64 id,.int .i64 limit] w (Z0h w q id e limit):=by
 have k1:=Q2o h hf;obtain⟨a1,a2,a3,a4,a5,a6,_⟩:=ok.fa id e hf;have k2:=Q3e (QT.fac h hf) a1 a2 a3 a4 limit;have hd:decide (limit<=e.q.limit-(e.q.charged+e.q.given))=true:=by rw [decide_eq_true_eq];exact hq
 rw [hd] at k2;have Do:=ok.next0;have HN:Hid (∀w1,Below w.heap.size w w1->w1.cell? ⟨q.t,0,none⟩=some (.map (some q.m))/\w1.cell? ⟨q.t,1,none⟩=some (.int .i64 q.next)/\w1.frozen? ⟨q.t,1,none⟩=false/\(∀ty,(Builtin.len_ #[252] ty #[.map (some q.m)]).run prog w1=.ok (.int .i64 ((q.E.length:Nat):Int)) w1) /\
   Q0E ((w1.setCell ⟨q.t,1,none⟩ (.int .i64 (q.next+1))).alloc (.cells #[.int .i64 limit,.int .i64 0,.int .i64 0,.int .i64 id,.int .i64 0] 236)) q.m (kvs q.E) /\
   ∀w4,Q0E w4 q.m (put (kvs q.E) q.next (.pointer (some ⟨w1.heap.size,0,none⟩)))->((w1.setCell ⟨q.t,1,none⟩ (.int .i64 (q.next+1))).alloc (.cells #[.int .i64 limit,.int .i64 0,.int .i64 0,.int .i64 id,.int .i64 0] 236)).grownBy w4 (some q.m) ->
    w4.cell? ⟨e.b,2,none⟩=some (.int .i64 e.q.given)/\w4.cell? ⟨e.b,4,none⟩=some (.int .i64 e.q.kids)/\(∀i,w4.frozen? ⟨e.b,i,none⟩=false) /\
    Z0h w q id e limit (.returned (.tuple #[.int .i64 q.next,.int .i64 0])) ((w4.setCell ⟨e.b,2,none⟩ (.int .i64 (e.q.given+limit))).setCell ⟨e.b,4,none⟩ (.int .i64 (e.q.kids+1)))):=fun w1 hb=>by
  have s1:=h.grown hb;have hm:Q0E (w1.setCell ⟨q.t,1,none⟩ (.int .i64 (q.next+1))) q.m (kvs q.E):=(QT.map s1.sep).set _ _;refine⟨QT.c0 s1.sep,QT.c1 s1.sep,(s1.sep.cells (T:=254) (cs:=[.map (some q.m),.int .i64 q.next]) (by simp [QT.hl])).free 1,QT.len s1.sep,hm.alloc _,fun w4 hm4 hg=>?_⟩;obtain⟨c1,c2,c3,st⟩:=QT.carve s1.sep ok hf limit w4 hm4 hg;exact⟨c1,c2,c3,rfl,_,s1.trans st⟩
 have hw:IntKind.i64.wrap (q.next+1)=q.next+1:=Go.IntWalk.i64_in _ (by omega);have EE:IntKind.i64.wrap (e.q.given+limit)=e.q.given+limit:=Go.IntWalk.i64_in _ (by omega);have Iv:IntKind.i64.wrap (e.q.kids+1)=e.q.kids+1:=Go.IntWalk.i64_in _ (by have:=ok.next1;omega);have S7:(((q.E.length:Nat):Int)==32)=false:=by simp;omega
 generalize hQ:Z0h w q id e limit=Q at *
 clear h hf ok hd hq hl hn hQ;unfold ptr at *
 generalize ((q.E.length:Nat):Int)=n32 at *
 go_enter func157,ntmps157;go_wp2_with (first|(go_at_call 130;refine k1.mono ?_;rintro e w' ⟨rfl,rfl⟩)|(go_at_call 224;refine k2.mono ?_;rintro e w1 ⟨rfl,hb⟩;obtain⟨d0,d1,df,dl,hm,Bb⟩:=HN.out w1 hb;have HM:=Q0a hm;have HF:=Q0a Bb;clear hb hm Bb HN)|(refine Q1O _ rfl _ _ _ 252 3 229 rfl underlying252 underlying3 q.m (kvs q.E) HM.out q.next (.pointer (some ⟨w1.heap.size,0,none⟩)) rfl rfl rfl ?_;intro w4 DE C5;obtain⟨e2,e4,ef,RR⟩:=HF.out w4 DE C5;have ef2:=ef 2;have ef4:=ef 4;have LT:=Q0a RR;clear DE C5 ef RR))
 first|exact LT.out|(go_ret2;exact LT.out)
theorem Z5E {w:World} {q:QT} (h:Sep w q.hl) (ok:q.Ok) {id:Int} {e c:En Fa} (hc:find q.E id=some c) (hid:id≠0) (h1:c.q.charged=0) (h2:c.q.given=0) (h3:c.q.kids=0) (he:find q.E c.q.parent=some e) (hg:c.q.limit<=e.q.given) (hl:0<=c.q.limit) :
  Calls prog 136 #[ptr q.t,.int .i64 id] w (Z5s w q c.q.parent e c id):=by
 have k1:=Q2o h hc;obtain⟨a1,a2,a3,a4,_⟩:=ok.fa id c hc;obtain⟨b1,b2,b3,b4,b5,b6,_⟩:=ok.fa _ e he;have CH:=ok.next1;have k2:=Q7M (QT.fac h hc) a1 a2 (by omega);rw [h1,h2] at k2;have HN:Hid (∀w1,Below w.heap.size w w1->w1.cell? ⟨q.t,0,none⟩=some (.map (some q.m))/\w1.cell? ⟨c.b,0,none⟩=some (.int .i64 c.q.limit)/\w1.cell? ⟨c.b,3,none⟩=some (.int .i64 c.q.parent)/\w1.cell? ⟨c.b,4,none⟩=some (.int .i64 0) /\
   ∀m,(Instr.lookup 252 (.map (some q.m)) (.int .i64 c.q.parent) false).run prog (w1.drewN m)=.ok (.pointer (some ⟨e.b,0,none⟩)) (w1.drewN m)):=fun w1 hb=>by
  have s1:=(h.grown hb).sep;have k:=QT.fac s1 hc;have RP:=k.cell 4 _ rfl;rw [h3] at RP;exact⟨QT.c0 s1,k.cell 0 _ rfl,k.cell 3 _ rfl,RP,fun m=>QT.look_some (s1.drewN m) he⟩
 have HM:Hid (∀w1 m,Below w.heap.size w w1->(w1.drewN m).cell? ⟨q.t,0,none⟩=some (.map (some q.m))/\(w1.drewN m).cell? ⟨c.b,0,none⟩=some (.int .i64 c.q.limit)/\(w1.drewN m).cell? ⟨e.b,2,none⟩=some (.int .i64 e.q.given)/\(w1.drewN m).cell? ⟨e.b,4,none⟩=some (.int .i64 e.q.kids)/\(∀i,(w1.drewN m).frozen? ⟨e.b,i,none⟩=false)/\(w1.drewN m).heap.size=w1.heap.size):=fun w1 m hb=>by
  have s1:=((h.grown hb).sep).drewN m;have k:=QT.fac s1 hc;have k':=QT.fac s1 he;exact⟨QT.c0 s1,k.cell 0 _ rfl,k'.cell 2 _ rfl,k'.cell 4 _ rfl,k'.free,rfl⟩
 have hw:IntKind.i64.wrap (e.q.given-c.q.limit)=e.q.given-c.q.limit:=Go.IntWalk.i64_in _ (by omega);have EE:IntKind.i64.wrap (e.q.kids-1)=e.q.kids-1:=Go.IntWalk.i64_in _ (by omega);have Sx:(id==0)=false:=by simpa using hid
 have Aa:q.t≠e.b:=by
  have AG:=h.nd;simp only [QT.hl,keys_cons,J2I] at AG;intro e1;refine AG.1 ?_;rw [J1Q];right;rw [e1];exact J1R.2 ⟨(e.b,isC 236 e.q.cells),J1R.2 ⟨e,(Q0b he).1,rfl⟩,rfl⟩
 have HS:=Q0a h;have HC:=Q0a hc;have HE:=Q0a he;have Ct:=Q0a ok;generalize hQ:Z5s w q c.q.parent e c id=Q at *
 have HQ:=Q0a hQ;clear h hc he ok hQ hid;unfold ptr at *
 go_enter func136,ntmps136;go_wp2_with (first|(go_at_call 130;refine k1.mono ?_;rintro e w' ⟨rfl,rfl⟩)|(go_at_call 131;refine k2.mono ?_;rintro e w1 ⟨rfl,hb⟩;obtain⟨d0,d1,d3,d4,dl⟩:=HN.out w1 hb;have dl1:=dl 1;have dl0:(Instr.lookup 252 (.map (some q.m)) (.int .i64 c.q.parent) false).run prog w1.drew=.ok (.pointer (some ⟨e.b,0,none⟩)) w1.drew:=dl 1;have HB:=Q0a hb;clear hb HN));go_region;obtain⟨f0,f1,f2,f4,ff,fs⟩:=HM.out w1 1 HB.out;have g0:w1.drew.cell? ⟨q.t,0,none⟩=some (.map (some q.m)):=f0;have g1:w1.drew.cell? ⟨c.b,0,none⟩=some (.int .i64 c.q.limit):=f1;have g2:w1.drew.cell? ⟨e.b,2,none⟩=some (.int .i64 e.q.given):=f2
 have g4:w1.drew.cell? ⟨e.b,4,none⟩=some (.int .i64 e.q.kids):=f4;have h2:w1.drew.frozen? ⟨e.b,2,none⟩=false:=ff 2;have h4:w1.drew.frozen? ⟨e.b,4,none⟩=false:=ff 4;clear d0 d1 d3 d4 dl dl0 dl1 f0 f1 f2 f4 ff fs k1 k2;have HP:Hid (Q0E (((w1.setCell ⟨e.b,2,none⟩ (.int .i64 (e.q.given-c.q.limit))).setCell ⟨e.b,4,none⟩ (.int .i64 (e.q.kids-1))).drew.drew) q.m (kvs q.E) /\
   ∀w4,Q0E w4 q.m (del (kvs q.E) id)->(((w1.setCell ⟨e.b,2,none⟩ (.int .i64 (e.q.given-c.q.limit))).setCell ⟨e.b,4,none⟩ (.int .i64 (e.q.kids-1))).drew.drew).grownBy w4 (some q.m)->Q (.returned (.int .i64 0)) w4):=by
  have s1:=HS.out.grown HB.out;have s2:Sep (w1.drewN 2) q.hl:=s1.sep.drewN 2;have hm:Q0E (((w1.drewN 2).setCell ⟨e.b,2,none⟩ (.int .i64 (e.q.given-c.q.limit))).setCell ⟨e.b,4,none⟩ (.int .i64 (e.q.kids-1))) q.m (kvs q.E):=((QT.map s2).set _ _).set _ _;refine⟨hm,fun w4 hm4 GV=>?_⟩;have st:=QT.close s2 Ct.out HE.out HC.out w4 hm4 GV;rw [<- HQ.out];exact⟨rfl,s1.trans (st.from_drewN)⟩
 have HL:Hid (((w1.setCell ⟨e.b,2,none⟩ (.int .i64 (e.q.given-c.q.limit))).drew.drew).cell? ⟨e.b,4,none⟩=some (.int .i64 e.q.kids)/\((w1.setCell ⟨e.b,2,none⟩ (.int .i64 (e.q.given-c.q.limit))).drew.drew).frozen? ⟨e.b,4,none⟩=false /\
   (((w1.setCell ⟨e.b,2,none⟩ (.int .i64 (e.q.given-c.q.limit))).setCell ⟨e.b,4,none⟩ (.int .i64 (e.q.kids-1))).drew.drew).cell? ⟨q.t,0,none⟩=some (.map (some q.m))):=by
  have k:=(QT.fac (HS.out.grown HB.out).sep HE.out).set 2 (.int .i64 (e.q.given-c.q.limit));refine⟨k.cell 4 _ rfl,k.free 4,?_⟩;show ((w1.setCell ⟨e.b,2,none⟩ _).setCell ⟨e.b,4,none⟩ _).cell? ⟨q.t,0,none⟩=_;rw [World.cell?_of_block (Below.heap_setCell _ _ _ _ Aa),World.cell?_of_block (Below.heap_setCell _ _ _ _ Aa)];exact g0
 go_wp2_with fail;go_region;obtain⟨e4,f4,e0⟩:=HL.out;go_wp2_with (refine Q2x _ rfl _ _ 252 3 3 229 rfl underlying252 underlying3 q.m (kvs q.E) HP.out.1 id rfl rfl ?_;intro w4 C6 B9;have LT:=Q0a (HP.out.2 w4 C6 B9);clear C6 B9)
 first|exact LT.out|(go_ret;exact LT.out)
theorem Inv.lok {P:PL} {l:List Pl} {fr:List Nat} {xc:Int->Int} {zs:List Nat} (v:Inv P l fr xc zs):LOk l:=⟨v.len,fun p hp=>⟨by have:=(v.st p hp).1;omega,(v.st p hp).2⟩⟩
theorem new3 {w w1:World} {T:TypeId} {a b c:Value} (hb:Below (w.alloc (.cells #[a,b,c] T)).heap.size (w.alloc (.cells #[a,b,c] T)) w1):Below w.heap.size w w1/\w1.cell? ⟨w.heap.size,0,none⟩=some a/\w1.cell? ⟨w.heap.size,1,none⟩=some b/\w1.cell? ⟨w.heap.size,2,none⟩=some c/\(∀i,w1.frozen? ⟨w.heap.size,i,none⟩=false)/\w.heap.size<w1.heap.size:=by
 have hc:=(Cells.new w T [a,b,c]).same (hb.block w.heap.size (by simp));refine⟨((Below.refl _ _).alloc (J1L _) _).trans (hb.mono (by simp)),hc.cell 0 _ rfl,hc.cell 1 _ rfl,hc.cell 2 _ rfl,hc.free,?_⟩;have:=hb.size;simp at this;omega
theorem Q0e {w w1:World} {o:Obj} (hb:Below (w.alloc o).heap.size (w.alloc o) w1):Below w.heap.size w w1:=((Below.refl _ _).alloc (J1L _) _).trans (hb.mono (by simp))
theorem Z1B {w w1:World} (h:Below w.heap.size w w1) (a b c:Value) (o:Obj):Below w.heap.size w ((((w1.setCell ⟨w.heap.size,0,none⟩ a).setCell ⟨w.heap.size,1,none⟩ b).setCell ⟨w.heap.size,2,none⟩ c).alloc o):=
 (((h.setCell (J1L _) _).setCell (J1L _) _).setCell (J1L _) _).alloc (by have:=h.size;simpa [World.setCell] using this) _
theorem Z5F {w:World} {S:CO} (h:Sep w S.hl) {x:Nat} {a b c e kind:Int} (hG:Calls prog 93 #[.pointer (some ⟨S.t,0,none⟩),.int .u32 x] (w.alloc (.cells #[.int .i64 0,.int .i64 0,.int .i64 0] 69)) (Told (w.alloc (.cells #[.int .i64 0,.int .i64 0,.int .i64 0] 69)) (.tuple #[.agg #[.int .i64 a,.int .i64 b,.int .i64 c],.int .i64 e])))
  (hc:e≠0∨kind=0∨a=kind):Calls prog 30 #[.pointer (some ⟨S.c,0,none⟩),.int .u32 x,.int .i64 kind] w (Told w (.tuple #[.agg #[.int .i64 a,.int .i64 b,.int .i64 c],.int .i64 e])):=by
 have c1:=CO.c1 (h.alloc (.cells #[.int .i64 0,.int .i64 0,.int .i64 0] 69));have A8:e≠0∨e=0/\kind=0∨e=0/\kind≠0/\a=kind:=by omega
 clear h hc;rcases A8 with he|⟨rfl,rfl⟩|⟨rfl,hk,rfl⟩
 ·have Ax:(e==0)=false:=by simpa using he
  go_enter func30,ntmps30;go_wp2_with (go_at_call 93;refine hG.mono ?_;rintro r w1 ⟨rfl,hb⟩;obtain⟨hb,e0,e1,e2,ef,Ab⟩:=new3 hb;have HB:=Q0a hb;have f0:=ef 0;have f1:=ef 1;have f2:=ef 2;clear hb ef);refine bodyPost_ret (v:=.tuple #[.agg #[.int .i64 a,.int .i64 b,.int .i64 c],.int .i64 e]) (by simp [results,results30,go_sem,e0,e1,e2,Ab]) rfl ⟨rfl,Z1B HB.out _ _ _ _⟩
 ·go_enter func30,ntmps30;go_wp2_with (go_at_call 93;refine hG.mono ?_;rintro r w1 ⟨rfl,hb⟩;obtain⟨hb,e0,e1,e2,ef,Ab⟩:=new3 hb;have HB:=Q0a hb;have f0:=ef 0;have f1:=ef 1;have f2:=ef 2;clear hb ef);refine bodyPost_ret (v:=.tuple #[.agg #[.int .i64 a,.int .i64 b,.int .i64 c],.int .i64 0]) (by simp [results,results30,go_sem,e0,e1,e2,Ab]) rfl ⟨rfl,Z1B HB.out _ _ _ _⟩
 ·have Ax:(a==0)=false:=by simpa using hk
  go_enter func30,ntmps30;go_wp2_with (go_at_call 93;refine hG.mono ?_;rintro r w1 ⟨rfl,hb⟩;obtain⟨hb,e0,e1,e2,ef,Ab⟩:=new3 hb;have HB:=Q0a hb;have f0:=ef 0;have f1:=ef 1;have f2:=ef 2;clear hb ef);refine bodyPost_ret (v:=.tuple #[.agg #[.int .i64 a,.int .i64 b,.int .i64 c],.int .i64 0]) (by simp [results,results30,go_sem,e0,e1,e2,Ab]) rfl ⟨rfl,Z1B HB.out _ _ _ _⟩
theorem Z8a {w:World} {S:CO} (h:Sep w S.hl) {x:Nat} {a b c kind:Int} (hG:Calls prog 93 #[.pointer (some ⟨S.t,0,none⟩),.int .u32 x] (w.alloc (.cells #[.int .i64 0,.int .i64 0,.int .i64 0] 69)) (Told (w.alloc (.cells #[.int .i64 0,.int .i64 0,.int .i64 0] 69)) (.tuple #[.agg #[.int .i64 a,.int .i64 b,.int .i64 c],.int .i64 0])))
  (hk:kind≠0) (ha:a≠kind):Calls prog 30 #[.pointer (some ⟨S.c,0,none⟩),.int .u32 x,.int .i64 kind] w (Told w (.tuple #[.agg #[.int .i64 0,.int .i64 0,.int .i64 0],.int .i64 10])):=by
 have c1:=CO.c1 (h.alloc (.cells #[.int .i64 0,.int .i64 0,.int .i64 0] 69));have Ax:(kind==0)=false:=by simpa using hk
 have Af:(a==kind)=false:=by simpa using ha
 have Ar:(kind != 0)=true:=by simpa using hk
 have Az:(a != kind)=true:=by simpa using ha
 clear h hk ha;go_enter func30,ntmps30;go_wp2_with (go_at_call 93;refine hG.mono ?_;rintro r w1 ⟨rfl,hb⟩;obtain⟨hb,e0,e1,e2,ef,Ab⟩:=new3 hb;have HB:=Q0a hb;have f0:=ef 0;have f1:=ef 1;have f2:=ef 2;clear hb ef);refine bodyPost_ret (v:=.tuple #[.agg #[.int .i64 0,.int .i64 0,.int .i64 0],.int .i64 10]) (by simp [results,results30,go_sem,e0,e1,e2,Ab]) rfl ⟨rfl,Z1B HB.out _ _ _ _⟩
section
variable {w:World} {S:CO} {fr:List Nat} {N K:Nat}
theorem Q4z (h:Sep w S.hl) (ok:LOk S.l) {x:Nat} (hx:x<4294967296) (kind:Int) (hp:pget S.l 1 x=none):Calls prog 30 #[.pointer (some ⟨S.c,0,none⟩),.int .u32 x,.int .i64 kind] w (Told w (.tuple #[zobj,.int .i64 8])):=
 Z5F h (Z5x (h:=S.ht) (CO.sT (h.alloc _)) ok hx hp) (.inl (by decide))
theorem Q3E (h:Sep w S.hl) (ok:LOk S.l) {x:Nat} (hx:x<4294967296) (kind:Int) {p:Pl} (hp:pget S.l 1 x=some p) (hk:kind=0∨(p.kind:Int)=kind):Calls prog 30 #[.pointer (some ⟨S.c,0,none⟩),.int .u32 x,.int .i64 kind] w (Told w (.tuple #[p.obj,.int .i64 0])):=
 Z5F h (Q6b (h:=S.ht) (CO.sT (h.alloc _)) ok hx hp) (.inr hk)
theorem Q4A (h:Sep w S.hl) (ok:LOk S.l) {x:Nat} (hx:x<4294967296) (kind:Int) {p:Pl} (hp:pget S.l 1 x=some p) (h0:kind≠0) (hk:(p.kind:Int)≠kind):Calls prog 30 #[.pointer (some ⟨S.c,0,none⟩),.int .u32 x,.int .i64 kind] w (Told w (.tuple #[zobj,.int .i64 10])):=
 Z8a h (Q6b (h:=S.ht) (CO.sT (h.alloc _)) ok hx hp) h0 hk
end
theorem CO.Ok.wordf {S:CO} {fr:List Nat} {N K:Nat} (ok:S.Ok fr N K) {p:Pl} (hp:p∈S.l) (hi:p.is=true) (hk:p.kind=1):Q0u S.P.a.mem p.at_=p.own/\p.at_%8=0/\p.at_+8<=S.P.a.mem.length/\p.own<1048576:=by
 have hu:=ok.inv.mem.used hp hi (by omega);rw [hk] at hu;have h1:=Q0m ok.inv.mem.pool hu;have:Q0c 1=64:=rfl;refine⟨ok.inv.mem.word p hp hi hk,Q2q ok.inv.mem.pool hu,by omega,?_⟩;obtain⟨e,he⟩:=ok.inv.tre.acc hp hi hk;have h2:=ok.inv.mem.pool.q.fa _ e he;have h3:=ok.inv.mem.pool.q.next1;omega
theorem Q8M {w:World} {S:CO} (h:Sep w S.hl) (hb:∀b∈S.P.a.mem,b<256) (hm:S.P.a.mem.length<=1073741824) {k a f x:Nat} (ha:a%8=0) (hl:a+8<=S.P.a.mem.length) (hx:Q0u S.P.a.mem a=x) (EB:x<1048576) :
  Calls prog 137 #[.pointer (some ⟨S.c,0,none⟩),.agg #[.int .i64 k,.int .i64 a,.int .i64 f]] w (Told w (.int .i64 x)):=by
 have s1:=(h.alloc (.cells #[.int .i64 k,.int .i64 a,.int .i64 f] 69)).drew;have k1:=Q1f (CO.sP s1);have k2:=Z4K (PL.sA (CO.sP s1)) hb a ha hl hm;rw [hx] at k2;have c0:=CO.c0 (h.alloc (.cells #[.int .i64 k,.int .i64 a,.int .i64 f] 69));have d0:=CO.c0 s1;have e1:(w.alloc (.cells #[.int .i64 k,.int .i64 a,.int .i64 f] 69)).cell? ⟨w.heap.size,1,none⟩=some (.int .i64 a):=(Cells.new w 69 [.int .i64 k,.int .i64 a,.int .i64 f]).cell 1 _ rfl;have e2:(w.alloc (.cells #[.int .i64 k,.int .i64 a,.int .i64 f] 69)).drew.cell? ⟨w.heap.size,1,none⟩=some (.int .i64 a):=e1;have HB:Hid (Below w.heap.size w (w.alloc (.cells #[.int .i64 k,.int .i64 a,.int .i64 f] 69)).drew):=((Below.refl _ _).alloc (J1L _) _).drew
 have hw:IntKind.i64.wrap (x:Int)=(x:Int):=Go.IntWalk.i64_in _ (by omega);unfold ptr at *
 clear h hb hm ha hl hx s1;go_enter func137,ntmps137;go_wp2_with fail
 go_region_held3 (fun w'=>w'.cell? ⟨S.c,0,none⟩=some (.pointer (some ⟨S.P.p,0,none⟩))/\w'.cell? ⟨w.heap.size,1,none⟩=some (.int .i64 a)) (first|exact⟨c0,e1⟩|exact⟨d0,e2⟩)
  (first|(go_at_call 155;refine k1.mono ?_;rintro e w' ⟨rfl,rfl⟩)|(go_at_call 216;refine k2.mono ?_;rintro e w' ⟨rfl,rfl⟩))
 go_wp2_with fail
 first|exact⟨rfl,HB.out⟩|(go_ret;exact⟨rfl,HB.out⟩)
theorem Q5G {w:World} {S:CO} {x:Nat} {e:Int} (he:e≠0) (hO:Calls prog 30 #[.pointer (some ⟨S.c,0,none⟩),.int .u32 x,.int .i64 1] w (Told w (.tuple #[.agg #[.int .i64 0,.int .i64 0,.int .i64 0],.int .i64 e]))) :
  Calls prog 67 #[.pointer (some ⟨S.c,0,none⟩),.int .u32 x] w (Told w (.tuple #[.int .i64 0,.int .i64 e])):=by
 have Ax:(e==0)=false:=by simpa using he
 go_enter func67,ntmps67;go_wp2_with (go_at_call 30;refine hO.mono ?_;rintro r w1 ⟨rfl,hb⟩;have HB:=Q0a hb;clear hb);have Ey:Hid (∀o,Below w.heap.size w (w1.alloc o)):=fun o=>HB.out.alloc HB.out.size o
 go_ret2;exact⟨rfl,Ey.out _⟩
theorem Q6d {w:World} {S:CO} {fr:List Nat} {N K:Nat} (h:Sep w S.hl) (ok:S.Ok fr N K) {x:Nat} (hx:x<4294967296) {p:Pl} (hp:pget S.l 1 x=some p) (hk:p.kind=1) :
  Calls prog 67 #[.pointer (some ⟨S.c,0,none⟩),.int .u32 x] w (Told w (.tuple #[.int .i64 (p.own:Int),.int .i64 0])):=by
 have hO:Calls prog 30 #[.pointer (some ⟨S.c,0,none⟩),.int .u32 x,.int .i64 1] w (Told w (.tuple #[.agg #[.int .i64 (p.kind:Int),.int .i64 (p.at_:Int),.int .i64 (p.fac:Int)],.int .i64 0])):=Q3E h ok.inv.lok hx 1 hp (.inr (by omega));obtain⟨w1_eq,w2,w3,w4⟩:=ok.wordf (Q0B hp) (Pl.is_iff.2 (.inl (pget_some.1 hp).2.2)) hk;have HW:Hid (∀w1,Below w.heap.size w w1->∀o,Calls prog 137 #[.pointer (some ⟨S.c,0,none⟩),.agg #[.int .i64 (p.kind:Int),.int .i64 (p.at_:Int),.int .i64 (p.fac:Int)]] (w1.alloc o) fun r w'=>r=.returned (.int .i64 (p.own:Int))/\Below w.heap.size w w'):=fun w1 hb o =>
  (Q8M (k:=p.kind) (a:=p.at_) (f:=p.fac) ((h.grown hb).sep.alloc o) ok.inv.mem.pool.bytes (Q0o ok.inv.mem.pool) w2 w3 w1_eq w4).mono fun r w' ⟨e,Ak⟩=>⟨e,(hb.alloc hb.size o).trans (Ak.mono (by have:=hb.size;simp;omega))⟩
 clear h ok hp w1_eq w2 w3 w4 hk;generalize p.own=po at *
 generalize p.kind=pk at *
 generalize p.at_=pa at *
 generalize p.fac=pf at *
 go_enter func67,ntmps67;go_wp2_with (first|(go_at_call 30;refine hO.mono ?_;rintro r w1 ⟨rfl,hb⟩;have HB:=Q0a hb;clear hb)|(go_at_call 137;refine (HW.out _ HB.out _).mono ?_;rintro r w2 ⟨rfl,hb⟩;have Ey:=Q0a hb;clear hb));go_ret2;exact⟨rfl,Ey.out⟩
theorem Q8N {w:World} {S:CO} (h:Sep w S.hl) (ok:LOk S.l):Calls prog 32 #[.pointer (some ⟨S.c,0,none⟩)] w (NewHs w (allL S.l 1)):=by
 have c1:=CO.c1 h;have hA:=Q8K (h:=S.ht) (CO.sT h) ok;clear h ok;unfold CO.ht at hA;go_enter func32,ntmps32;go_wp2_with (go_at_call 94;refine hA.mono ?_;rintro e w' ⟨v,rfl,h1,h2⟩)
 first|exact⟨v,rfl,h1,h2⟩|(go_ret;exact⟨v,rfl,h1,h2⟩)
theorem Q2d {w:World} {S:CO} (h:Sep w S.hl):Calls prog 49 #[.pointer (some ⟨S.c,0,none⟩)] w fun r w'=>r=.returned (.pointer (some ⟨S.P.p,0,none⟩))/\w=w':=by
 have c0:=CO.c0 h;clear h;go_enter func49,ntmps49
 go_wp2
 go_ret;exact⟨rfl,rfl⟩
theorem CO.Ok.few {S:CO} {fr:List Nat} {N K:Nat} (ok:S.Ok fr N K):S.ts.length<=256:=by
 have h1:=ok.inv.que.nd;have:((S.ts.map Prod.fst).map (·%256)).Nodup:=by
  unfold List.Nodup;rw [J2q];refine h1.imp_of_mem ?_;intro a b ha hb CF e;obtain⟨p,hp⟩:=(ok.inv.que.has a).1 ha;obtain⟨q,hq⟩:=(ok.inv.que.has b).1 hb;exact CF (Q0Q hp hq e).1
 have:=Q4l 256 _ this (by
  intro x hx;obtain⟨y,_,rfl⟩:=J1R.1 hx;omega)
 simpa using this
end Go.Proofs.YtlakjlmaboioiaaGreatDoor
