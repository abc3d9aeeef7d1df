/- SpaceFails returns true at every input. No condition. Part of its proof. -/
import Derived.Test.YtfidemmgofcnmaaGreatDoorSf13
set_option maxHeartbeats 4000000
set_option maxRecDepth 100000
set_option linter.unusedVariables false
namespace Go.Proofs.YtfidemmgofcnmaaGreatDoor
open Go.RowKit Go.Proofs.Tryz
theorem Z3n(l:List Pl)(h:l.length=256):(l.flatMap Pl.cells).length=1280:=by rw[J0T,h]
theorem J1g:(prog.info? 300).map (·.size)=some 1280:=by kernel_rfl
theorem HT.range{w:World}{h:HT}(s:Sep w h.hl):w.rangeAt h.t 0 (h.l.flatMap Pl.cells):=fun j v hv=>by
 rw[J5G];exact(HT.cells s).cell j v hv
theorem Z3o{l:List Pl}{i:Nat}{p:Pl}(hi:l[i]?=some p):(l.flatMap Pl.cells).toArray.extract (i*5) (i*5+5)=p.cells.toArray:=by
 apply Array.ext'
 rw[Array.toList_extract]
 apply J4K
 intro j;simp only[List.extract_eq_take_drop,J6a];rw[J5f];split
 ·rename_i hj;rw[J5E];have h5:j<p.cells.length:=hj;have:=Q4g hi j p.cells[j] hj (J5t h5);rw[this,J5t h5]
 ·rw[J4R (by show 5<=j;omega)]
theorem Z8T{w:World}{l:List Pl}(hl:l.length=256){i:Nat}{p:Pl}(hi:l[i]?=some p):(Instr.index 300 (.agg (l.flatMap Pl.cells).toArray) (.int .i64 i)).run prog w=.ok (.agg p.cells.toArray) w:=by
 have Ab:i<256:=by have:=(J3t.1 hi).1;omega
 have e:=Z3o hi;generalize (l.flatMap Pl.cells).toArray=cs at *
 have h1:(0:Int)<=(i:Int)/\(i:Int)<((256:Nat):Int):=by omega
 have h2:(prog.info? 271).map (·.size)=some 5:=J2g;cases hq:prog.info? 271 with
 | none=>simp[hq] at h2
 | some inf =>
  have hs:inf.size=5:=by simpa[hq] using h2
  have hu:prog.underlying 300=some (.array 256 271):=underlying300;have V2:(isAgg 271).run prog w=.ok true w:=by
   unfold isAgg;rw[Sem.run_bind,run_underlying underlying271 w];rfl
  simp[Instr.index,asIntOf,Sem.run_bind,run_underlying hu w,h1,part,sizeOf,typeInfo,hq,hs,e];intro hh;omega
theorem Z2h{w:World}{h:HT}(s:Sep w h.hl)(ok:LOk h.l)(st:Nat)(Ap:st<=3) :
  Calls prog 167 #[.pointer (some ⟨h.t,0,none⟩),.int .i64 st] w (NewHs w (allL h.l st)):=by
 have HL:Hid (w.rangeAt h.t 0 (h.l.flatMap Pl.cells)):=HT.range s;have HI:Hid (∀(w':World) (i:Nat) (p:Pl),h.l[i]?=some p->(Instr.index 300 (.agg (h.l.flatMap Pl.cells).toArray) (.int .i64 i)).run prog w'=.ok (.agg p.cells.toArray) w'):=fun w' i p hp=>Z8T ok.1 hp
 go_enter func167,ntmps167;go_wp2_with (refine wpList_load_mid rfl 300 _ rfl h.t 0 rfl (h.l.flatMap Pl.cells) _ HL.out underlying300 rfl (by rw[Z3n _ ok.1];exact J1g) ?_);have Ci:=Q0a ok;have HS:=Q0a s;have IY:=ok.1;clear s ok HL;generalize B4:(h.l.flatMap Pl.cells).toArray=cs at *
 obtain⟨i0,CU,Bx,AX,AU⟩:=info_parts Q3K
 go_loopg [5,14] 256 (fun gk ov iv wr=>∃k:Nat,iv=.int .i64 k/\k+gk=256/\OutH w wr ov (Q4X h.l st k))
 case atStart=>exact⟨0,rfl,rfl,OutH.nil w⟩
 case round =>
  obtain⟨k,rfl,AC,Am⟩:=hrel;have HO:=Q0a Am;have BE:=Q0a AC;clear Am;by_cases Ab:k<256
  ·obtain⟨p,hp⟩:∃p,h.l[k]?=some p:=⟨h.l[k]'(by omega),J5t (by omega)⟩
   have Lo:=HI.out wr k p hp;have HP:=Q0a hp;have ha:Hid (p.age<=1048575):=(Ci.out.2 p (J5q hp)).2;clear hp;by_cases hs:p.st=st
   ·have Br:=Q0a hs;have hb:(((p.st:Nat):Int)==(st:Int))=true:=by simp[hs]
    clear hs;unfold Pl.cells at Lo;have KE:=Q4B ((HS.out.grown HO.out.2).sep.alloc (.cells #[.int .i64 (p.kind:Int),.int .i64 (p.at_:Int),.int .i64 (p.fac:Int),.int .i64 (p.st:Int),.int .u32 (p.age:Int)] 271)) HP.out Ab ha.out;have Ac:=Q2A h.l st k;have Be:=HO.out.2.size;go_wp2_with fail;refine KE.mono ?_;rintro e w'⟨rfl,rfl⟩;dsimp only
    iterate 4 go_step
    refine wpList_append_own _ rfl _ _ 51 rfl w.heap.size 58 i0 (.int .u32 0) 1 4 underlying51 CU Bx AX AU rfl (by decide) _ _ _ rfl ((HO.out.1.alloc _).alloc _) ⟨wr.heap.size+1,0,none⟩ 1 1 [.int .u32 ((nm k p:Nat):Int)] rfl rfl (Q7A _ _ _) (by simp[Value.oneCell']) (by unfold maxLen;omega) (by omega) (by simp;omega) ?_;intro v' w1 AH B9 _;have HR:Hid (OutH w w1 v' (Q4X h.l st (k+1))):=by
     have e:=Q7h HP.out st;rw[if_pos Br.out] at e;rw[e];exact HO.out.app2 (M:=[nm k p]) AH B9
    clear AH B9 HO Be Ac;go_wp2_with fail;go_roundg (256-(k+1))
    case measure=>have:=BE.out;omega
    case rel=>exact⟨k+1,by go_num,by omega,HR.out⟩
   ·have Br:=Q0a hs;have hb:=Q4L hs;clear hs;unfold Pl.cells at Lo;have HR:Hid (∀o,OutH w (wr.alloc o) u5 (Q4X h.l st (k+1))):=fun o=>by
     have e:=Q7h HP.out st;rw[if_neg Br.out,J5i] at e;rw[e];exact HO.out.alloc o
    go_wp2_with fail;go_roundg (256-(k+1))
    case measure=>have:=BE.out;omega
    case rel=>exact⟨k+1,by go_num,by omega,HR.out _⟩
  ·have e:Q4X h.l st k=allL h.l st:=by
    have:k=256:=by omega
    unfold allL;rw[this,IY]
   rw[e] at HO;have HR:Hid (NewHs w (allL h.l st) (.returned u5) wr):=⟨u5,rfl,HO.out.1,HO.out.2⟩
   go_wp2_with fail;go_ret;exact HR.out
theorem Q9p{w:World}{h:HT}(s:Sep w h.hl)(ok:LOk h.l):Calls prog 86 #[.pointer (some ⟨h.t,0,none⟩)] w (NewHs w (allL h.l 1)):=by
 have hA:Calls prog 167 #[.pointer (some ⟨h.t,0,none⟩),.int .i64 1] w (NewHs w (allL h.l 1)):=Z2h s ok 1 (by omega);clear s ok;go_enter func86,ntmps86;go_wp2_with (go_at_call 167;refine hA.mono ?_;rintro e w'⟨v,rfl,h1,h2⟩)
 (try go_ret);exact⟨v,rfl,h1,h2⟩
theorem Q6v{w:World}{h:HT}(s:Sep w h.hl)(ok:LOk h.l):Calls prog 204 #[.pointer (some ⟨h.t,0,none⟩)] w (Told w (.int .i64 ((allL h.l 0).length:Nat))):=by
 have hA:Calls prog 167 #[.pointer (some ⟨h.t,0,none⟩),.int .i64 0] w (NewHs w (allL h.l 0)):=Z2h s ok 0 (by omega);clear s ok;generalize allL h.l 0=L at *
 go_enter func204,ntmps204;go_wp2_with (go_at_call 167;refine hA.mono ?_;intro e w' hx;obtain⟨a,cap,rfl,hb,-⟩:=hx.shape;have HB:=Q0a hb;clear hx hb)
 (try go_ret);exact⟨rfl,HB.out⟩
theorem empty_iff{l:List Pl}:allL l 0=[]↔∀p∈l,p.st≠0:=by
 constructor
 ·intro h p hp hs;obtain⟨i,hi⟩:=J5Q.1 hp;have Ab:=(J3t.1 hi).1;have:nm i p∈allL l 0:=mem_allTo.2 ⟨i,p,Ab,hi,hs,rfl⟩;rw[h] at this;cases this
 ·intro h;cases hc:allL l 0 with
  | nil=>rfl
  | cons x r =>
   exfalso;have:x∈allL l 0:=by rw[hc];simp
   obtain⟨i,p,_,hi,hs,_⟩:=mem_allTo.1 this;exact h p (J5q hi) hs
def Fst(l:List Pl)(i:Nat)(p:Pl):Prop:=l[i]?=some p/\p.st=0/\∀j q,j<i->l[j]?=some q->q.st≠0
theorem Z8U(l:List Pl):(∀p∈l,p.st≠0)∨∃i p,Fst l i p:=by
 induction l with
 | nil=>left;simp
 | cons x r ih =>
  by_cases hx:x.st=0
  ·right;exact⟨0,x,rfl,hx,fun j q hj=>absurd hj (J6F _)⟩
  ·rcases ih with h|⟨i,p,h1,h2,h3⟩
   ·left;intro p hp;rcases J3g.1 hp with rfl|hp
    ·exact hx
    ·exact h p hp
   ·right;refine⟨i+1,p,h1,h2,fun j q hj hq=>?_⟩;cases j with
    | zero=>cases hq;exact hx
    | succ j=>exact h3 j q (by omega) hq
theorem Z6s{w:World}(p:Pl):Calls prog 201 #[.agg p.cells.toArray] w (Told w (.bool (((p.st:Nat):Int)==0))):=by
 have hc:=Cells.new w 271 p.cells;have c3:(w.alloc (.cells p.cells.toArray 271)).cell? ⟨w.heap.size,3,none⟩=some (.int .i64 (p.st:Int)):=hc.cell 3 _ rfl;unfold Pl.cells at *
 clear hc;go_enter func201,ntmps201
 go_wp2
 go_ret;exact⟨rfl,(Below.refl _ _).alloc (J3b _) _⟩
def FstI(l:List Pl)(z:Int):Prop:=(z = -1/\∀p∈l,p.st≠0)∨∃(i:Nat) (p:Pl),z=(i:Int)/\Fst l i p
theorem Z3p{w:World}{h:HT}(s:Sep w h.hl)(ok:LOk h.l):Calls prog 200 #[.slice (some ⟨h.t,0,none⟩) 256 256,.func (.func 201) #[] #[]] w fun r w'=>(∃z,r=.returned (.int .i64 z)/\FstI h.l z)/\Below w.heap.size w w':=by
 have IY:=ok.1;have HS:=Q0a s;clear s ok;go_enter func200,ntmps200;go_wp2_with fail
 go_loopg [5,8] 256 (fun gk _ iv wr=>∃k:Nat,iv=.int .i64 k/\k+gk=256/\(∀j q,j<k->h.l[j]?=some q->q.st≠0)/\Below w.heap.size w wr)
 case atStart=>exact⟨0,rfl,rfl,fun j q hj=>absurd hj (J6F _),Below.refl _ _⟩
 case round =>
  obtain⟨k,rfl,AC,A3,hb⟩:=hrel;have BE:=Q0a AC;have GM:=Q0a A3;have HB:=Q0a hb;clear A3;by_cases Ab:k<256
  ·obtain⟨p,hp⟩:∃p,h.l[k]?=some p:=⟨h.l[k]'(by omega),J5t (by omega)⟩
   obtain⟨c0,c1,c2,c3,c4,-⟩:=HT.cell ((HS.out.grown hb).sep) hp;have HP:=Q0a hp;have BC:Calls prog 201 #[.agg #[.int .i64 (p.kind:Int),.int .i64 (p.at_:Int),.int .i64 (p.fac:Int),.int .i64 (p.st:Int),.int .u32 (p.age:Int)]] wr (Told wr (.bool (((p.st:Nat):Int)==0))):=Z6s p;clear hp hb;by_cases hs:p.st=0
   ·have Br:=Q0a hs;have LR:(((p.st:Nat):Int)==0)=true:=by simp[hs]
    rw[LR] at BC;clear hs LR;go_wp2_with (go_at_call 201;refine BC.mono ?_;rintro e w1⟨rfl,Aw⟩;have Bp:=Q0a Aw;clear Aw);have HR:Hid ((∃z,Ending.returned (.int .i64 k)=.returned (.int .i64 z)/\FstI h.l z)/\Below w.heap.size w w1):=⟨⟨_,rfl,.inr ⟨k,p,rfl,HP.out,Br.out,GM.out⟩⟩,HB.out.trans (Bp.out.mono HB.out.size)⟩
    (try go_ret);exact HR.out
   ·have Br:=Q0a hs;have LR:(((p.st:Nat):Int)==0)=false:=by simp;omega
    rw[LR] at BC;clear hs LR;go_wp2_with (go_at_call 201;refine BC.mono ?_;rintro e w1⟨rfl,Aw⟩;have Bp:=Q0a Aw;clear Aw);go_roundg (256-(k+1))
    case measure=>have:=BE.out;omega
    case rel =>
     refine⟨k+1,by go_num,by omega,fun j q hj hq=>?_,HB.out.trans (Bp.out.mono HB.out.size)⟩;by_cases e:j=k
     ·subst e;have:=HP.out;rw[this] at hq;cases hq;exact Br.out
     ·exact GM.out j q (by omega) hq
  ·have HR:Hid ((∃z,Ending.returned (.int .i64 (-1))=.returned (.int .i64 z)/\FstI h.l z)/\Below w.heap.size w wr):=⟨⟨_,rfl,.inl ⟨rfl,fun p hp=>by
    obtain⟨i,hi⟩:=J5Q.1 hp;have:=(J3t.1 hi).1;exact GM.out i p (by omega) hi⟩⟩,HB.out⟩
   go_wp2_with fail
   (try go_ret);exact HR.out
def PutT(h:HT)(q:Pl)(i:Nat)(w:World)(r:Ending)(w':World):Prop:=r=.returned (.tuple #[.int .u32 ((nm i q:Nat):Int),.int .i64 0])/\Step h.hl ({h with l:=h.l.set i q}:HT).hl w w'
theorem Z6t{w:World}{h:HT}(s:Sep w h.hl)(ok:LOk h.l){i:Nat}{p:Pl}(hf:Fst h.l i p)(k a f x:Nat):Calls prog 149 #[.pointer (some ⟨h.t,0,none⟩),.agg #[.int .i64 k,.int .i64 a,.int .i64 f]] w (PutT h ⟨k,a,f,1,p.age,x⟩ i w):=by
 have Ao:i<256:=by have:=(J3t.1 hf.1).1;have:=ok.1;omega
 have DL:=(ok.2 p (J5q hf.1)).2;have M2:Calls prog 200 #[.slice (some ⟨h.t,0,none⟩) 256 256,.func (.func 201) #[] #[]] (w.alloc (.cells #[.int .i64 k,.int .i64 a,.int .i64 f] 54)) fun r w'=>r=.returned (.int .i64 i)/\w'.cell? ⟨w.heap.size,0,none⟩=some (.int .i64 k)/\w'.cell? ⟨w.heap.size,1,none⟩=some (.int .i64 a)/\w'.cell? ⟨w.heap.size,2,none⟩=some (.int .i64 f) /\
   (∃v,w'.cell? ⟨h.t,i*5,none⟩=some v)/\(∃v,w'.cell? ⟨h.t,i*5+1,none⟩=some v)/\(∃v,w'.cell? ⟨h.t,i*5+2,none⟩=some v)/\(∃v,w'.cell? ⟨h.t,i*5+3,none⟩=some v)/\(∀j,w'.frozen? ⟨h.t,j,none⟩=false) /\
   Calls prog 202 #[.pointer (some ⟨h.t,0,none⟩),.int .i64 i] ((((w'.setCell ⟨h.t,i*5,none⟩ (.int .i64 k)).setCell ⟨h.t,i*5+1,none⟩ (.int .i64 a)).setCell ⟨h.t,i*5+2,none⟩ (.int .i64 f)).setCell ⟨h.t,i*5+3,none⟩ (.int .i64 1)).drew
    fun r w2=>r=.returned (.int .u32 ((nm i p:Nat):Int))/\PutT h ⟨k,a,f,1,p.age,x⟩ i w (.returned (.tuple #[.int .u32 ((nm i p:Nat):Int),.int .i64 0])) w2:=by
  refine(Z3p (s.alloc _) ok).mono ?_;rintro r w'⟨⟨z,rfl,hz⟩,hb⟩;have DR:Below w.heap.size w w':=((Below.refl _ _).alloc (J3b _) _).trans (hb.mono (by simp));have s1:=s.grown DR;have hc:=(Cells.new w 54 [.int .i64 k,.int .i64 a,.int .i64 f]).same (hb.block w.heap.size (by simp));obtain⟨c0,c1,c2,c3,c4,cf⟩:=HT.cell s1.sep hf.1;have UU:z=(i:Int):=by
   rcases hz with ⟨_,h0⟩|⟨j,q,rfl,h1,h2,h3⟩
   ·exact absurd hf.2.1 (h0 p (J5q hf.1))
   ·rcases J6d i j with e|e|e
    ·exact absurd hf.2.1 (h3 i p e hf.1)
    ·rw[e]
    ·exact absurd h2 (hf.2.2 j q e h1)
  refine⟨by rw[UU],hc.cell 0 _ rfl,hc.cell 1 _ rfl,hc.cell 2 _ rfl,⟨_,c0⟩,⟨_,c1⟩,⟨_,c2⟩,⟨_,c3⟩,cf,?_⟩;have g:∀(r:Pl),(h.l.set i r)[i]?=some r:=fun r=>by rw[J6S (J3t.1 hf.1).1]
  have t0:Step h.hl (⟨h.t,h.l.set i ⟨k,p.at_,p.fac,p.st,p.age,x⟩⟩:HT).hl w' _:=HT.set s1.sep hf.1 0 (.int .i64 k) (by omega) (q:=⟨k,p.at_,p.fac,p.st,p.age,x⟩) rfl;have t1:=HT.set (h:=⟨h.t,h.l.set i ⟨k,p.at_,p.fac,p.st,p.age,x⟩⟩) t0.sep (g _) 1 (.int .i64 a) (by omega) (q:=⟨k,a,p.fac,p.st,p.age,x⟩) rfl;simp only[J5T] at t1;have t2:=HT.set (h:=⟨h.t,h.l.set i ⟨k,a,p.fac,p.st,p.age,x⟩⟩) t1.sep (g _) 2 (.int .i64 f) (by omega) (q:=⟨k,a,f,p.st,p.age,x⟩) rfl;simp only[J5T] at t2;have t3:=HT.set (h:=⟨h.t,h.l.set i ⟨k,a,f,p.st,p.age,x⟩⟩) t2.sep (g _) 3 (.int .i64 1) (by omega) (q:=⟨k,a,f,1,p.age,x⟩) rfl
  simp only[J5T] at t3;have tt:=(s1.trans (((t0.trans t1).trans t2).trans t3)).drew;have hn:=Q4B (h:=⟨h.t,h.l.set i ⟨k,a,f,1,p.age,x⟩⟩) tt.sep (g _) Ao (by exact DL);refine hn.mono ?_;rintro r w2⟨rfl,rfl⟩;exact⟨rfl,rfl,tt⟩
 have Aa:h.t≠w.heap.size:=by have:=(HT.cells s).lt;omega
 have B0:w.heap.size≠h.t:=fun e=>Aa e.symm
 have hw:IntKind.i64.wrap (i:Int)=(i:Int):=Go.IntWalk.i64_in _ (by omega);clear s ok hf DL;generalize PutT h ⟨k,a,f,1,p.age,x⟩ i w=Q at *
 generalize nm i p=n at *
 go_enter func149,ntmps149;go_wp2_with (go_at_call 200;refine M2.mono ?_;rintro e w1⟨rfl,o0,o1,o2,⟨v0,c0⟩,⟨v1,c1⟩,⟨v2,c2⟩,⟨v3,c3⟩,cf,Jb⟩;have f0:=cf (i*5);have f1:=cf (i*5+1);have f2:=cf (i*5+2);have f3:=cf (i*5+3);have HN:=Q0a Jb;clear Jb cf);go_region;go_wp2_with fail;refine HN.out.mono ?_;rintro r w2⟨rfl,hq⟩;go_wp2_with fail
 (try go_ret2);exact hq
theorem Z3q(ts:List (Nat×Nat)):(Q1l ts).length=ts.length*2:=by
 induction ts with
 | nil=>rfl
 | cons x r ih=>unfold Q1l at *;rw[J3z,J3M,ih];simp;omega
theorem Z3r(a b:List (Nat×Nat)):Q1l (a++b)=Q1l a++Q1l b:=by unfold Q1l;rw[J3K]
theorem Z6u:(prog.info? 331).map (fun i=>(i.zero,i.size,i.bytes))=some (some (.agg #[.int .i64 0,.int .i64 0]),2,16):=by kernel_rfl
def J1h(g per now:Nat)(rv:OV)(ts:List (Nat×Nat))(x:Nat)(w:World)(r:Ending)(w':World):Prop:=∃rv',r=.returned (.int .i64 ((ts.length+1:Nat):Int))/\ovOk rv' (ts.length+1)/\Step (qhl g per now rv ts) (qhl g per now rv' (ts++[(x,now+per)])) w w'
theorem Z6v{w:World}{g per now:Nat}{rv:OV}{ts:List (Nat×Nat)}(h:Sep w (qhl g per now rv ts))(Bg:ovOk rv ts.length)(hl:ts.length<=256)(x:Nat) :
  ∃rv' w',(Builtin.append_ #[303,303] 303 #[ovOf rv ts.length,.slice (some ⟨w.heap.size,0,none⟩) 1 1]).run prog (w.drew.alloc (.cells #[.int .i64 x,.int .i64 ((now+per:Nat):Int)] 331))=.ok (ovOf rv' (ts.length+1)) w' /\
   w'.cell? ⟨g,0,none⟩=some (.int .i64 per)/\w'.cell? ⟨g,1,none⟩=some (.int .i64 now)/\w'.cell? ⟨g,2,none⟩=some (ovOf rv ts.length)/\(∀i,w'.frozen? ⟨g,i,none⟩=false) /\
   (w'.setCell ⟨g,2,none⟩ (ovOf rv' (ts.length+1))).cell? ⟨g,2,none⟩=some (ovOf rv' (ts.length+1)) /\
   ovOk rv' (ts.length+1)/\J1h g per now rv ts x w (.returned (.int .i64 ((ts.length+1:Nat):Int))) (w'.setCell ⟨g,2,none⟩ (ovOf rv' (ts.length+1))):=by
 obtain⟨i0,hi,Bx,AX,AU⟩:=info_parts Z6u;have h1:Sep (w.drew.alloc (.cells #[.int .i64 x,.int .i64 ((now+per:Nat):Int)] 331)) (ovH rv 331 2 (Q1l ts)++[(g,isC 305 [.int .i64 per,.int .i64 now,ovOf rv ts.length])]):=by
  refine Sep.perm (h.drew.alloc _) ?_;unfold qhl;exact(J6J _ _).symm
 have FG:Src prog 2 303 (.slice (some ⟨w.heap.size,0,none⟩) 1 1) 1 [.int .i64 x,.int .i64 ((now+per:Nat):Int)] (w.drew.alloc (.cells #[.int .i64 x,.int .i64 ((now+per:Nat):Int)] 331)):=by
  refine Src.ofSlice _ underlying303 ⟨w.heap.size,0,none⟩ 1 1 _ rfl ?_ ?_
  ·intro j u hj;have:=(Cells.new w.drew 331 [.int .i64 x,.int .i64 ((now+per:Nat):Int)]).cell j u hj;rw[addp,J5G];exact this
  ·intro u hu;simp only[J3g,J3y,or_false] at hu;rcases hu with rfl|rfl <;> rfl
 obtain⟨rv',w',hr,Dt,st⟩:=Z5F (P:=prog) (B:=[(g,isC 305 [.int .i64 per,.int .i64 now,ovOf rv ts.length])]) h1 Bg (Z3q ts) i0 (.agg #[.int .i64 0,.int .i64 0]) 16 underlying303 hi Bx AX AU rfl _ FG (by omega) (by omega) (by omega);have hc:=st.sep.cells (b:=g) (T:=305) (cs:=[.int .i64 per,.int .i64 now,ovOf rv ts.length]) (by simp);have s2:=Sep.set (A:=ovH rv' 331 2 (Q1l ts++[.int .i64 x,.int .i64 ((now+per:Nat):Int)])) (B:=[]) st.sep 2 (ovOf rv' (ts.length+1));refine⟨rv',w',hr,hc.cell 0 _ rfl,hc.cell 1 _ rfl,hc.cell 2 _ rfl,hc.free,(hc.set 2 _).cell 2 _ rfl,Dt,rv',rfl,Dt,?_⟩;have st':Step (qhl g per now rv ts) _ w _:=((st.trans s2).from_alloc.from_drew).perm (by unfold qhl;exact J6J _ _) (J6w _)
 refine st'.perm (J6w _) ?_;unfold qhl;rw[Z3r,J3M];exact J6J _ _
theorem Z8V{w:World}{g per now:Nat}{rv:OV}{ts:List (Nat×Nat)}(h:Sep w (qhl g per now rv ts))(Bg:ovOk rv ts.length)(hl:ts.length<=256)(Pj:per<=16)(ET:now<=1048576){gb x:Nat}(hx:w.cell? ⟨gb,0,none⟩=some (.int .i64 x)) :
  Calls prog 210 #[.pointer (some ⟨g,0,none⟩),.slice (some ⟨gb,0,none⟩) 1 1] w (J1h g per now rv ts x w):=by
 have hc:Cells w g 305 [.int .i64 per,.int .i64 now,ovOf rv ts.length]:=h.cells (by simp[qhl]);have c0:=hc.cell 0 _ rfl;have c1:=hc.cell 1 _ rfl;have c2:=hc.cell 2 _ rfl;have f2:=hc.free 2;have Ab:=hc.lt;obtain⟨rv',w',hr,d0,d1,d2,df,e2,Dt,hq⟩:=Z6v h Bg hl x;obtain⟨g',off',BG,rfl⟩:∃g' off' BG,rv'=some (g',off',BG):=by
  cases rv' with
  | none=>exact absurd Dt (Nat.succ_ne_zero _)
  | some q=>exact⟨q.1,q.2.1,q.2.2,rfl⟩
 rw[show ovOf (some (g',off',BG)) (ts.length+1)=.slice (some ⟨g',off',none⟩) (ts.length+1) BG from rfl] at hr e2 hq;rw[Int.natCast_add] at hr hq;have HR:=Q0a hr;have HQ:=Q0a hq;have df2:=df 2;have hw:IntKind.i64.wrap ((now:Int)+(per:Int))=(now:Int)+(per:Int):=Go.IntWalk.i64_in _ (by omega);have EV:wrap64 ((now:Int)+(per:Int))=(now:Int)+(per:Int):=Go.IntWalk.wrap64_in _ (by omega);generalize J1h g per now rv ts x w=Q at *
 generalize ovOf rv ts.length=v0 at *
 generalize ts.length=n at *
 clear h Bg hc hr hq df Dt;go_enter func210,ntmps210;go_wp2_with fail
 go_loopg [6,11] 2 (fun gk _ iv wr=>(iv=.int .i64 0/\gk=2/\wr=w)∨(iv=.int .i64 1/\gk=1/\wr=w'.setCell ⟨g,2,none⟩ (.slice (some ⟨g',off',none⟩) (n+1) BG)))
 case atStart=>exact .inl ⟨rfl,rfl,rfl⟩
 case round =>
  rcases hrel with ⟨rfl,rfl,rfl⟩|⟨rfl,rfl,rfl⟩
  ·go_wp2_with fail
   go_region_law (refine Q0E rfl _ _ 303 303 rfl _ _ (by simp[Act.eval]) (by simp[Act.eval]) HR.out ?_)
   all_goals
    go_wp2_with fail;go_roundg 1
    case measure=>omega
    case rel=>exact .inr ⟨by go_num,rfl,rfl⟩
  ·go_wp2_with fail
   (try go_ret);exact HQ.out
def NewG(per:Nat)(H:HL)(w:World)(r:Ending)(w':World):Prop:=∃g,r=.returned (.pointer (some ⟨g,0,none⟩))/\Step H (qhl g per 0 none []++H) w w'
theorem Z8W{w:World}{H:HL}(h:Sep w H)(per:Nat)(h1:1<=per)(h2:per<=16):Calls prog 148 #[.int .i64 per] w (NewG per H w):=by
 have HR:Hid (NewG per H w (.returned (.pointer (some ⟨w.heap.size,0,none⟩))) (w.alloc (.cells #[.int .i64 per,.int .i64 0,.slice none 0 0] 305))):=⟨_,rfl,h.new 305 [.int .i64 per,.int .i64 0,.slice none 0 0]⟩
 have GC:decide ((per:Int)<1)=false:=by rw[decide_eq_false_iff_not];omega
 have Gb:decide ((16:Int)<(per:Int))=false:=by rw[decide_eq_false_iff_not];omega
 have Bh:(1:Int)<=(per:Int):=by omega
 have A5:(per:Int)<=16:=by omega
 clear h;go_enter func148,ntmps148;go_wp2_with fail
 (try go_ret);exact HR.out
theorem Q9q{w:World}{q:QT}(h:Sep w q.hl)(ok:q.Ok){id:Int}{e:En Fa}(hf:find q.E id=some e)(limit:Int)(h0:0<=limit)(hq:e.q.limit-(e.q.charged+e.q.given)<limit) :
  Calls prog 14 #[ptr q.t,.int .i64 id,.int .i64 limit] w (Told w (.tuple #[.int .i64 0,.int .i64 5])):=by
 have k1:=Q2s h hf;obtain⟨a1,a2,a3,a4,_⟩:=ok.fa id e hf;have k2:=Q3l (QT.fac h hf) a1 a2 a3 a4 limit;have hd:decide (limit<=e.q.limit-(e.q.charged+e.q.given))=false:=by rw[decide_eq_false_iff_not];omega
 rw[hd] at k2;clear h hf ok hd hq;unfold ptr at *
 go_enter func14,ntmps14;go_wp2_with (first|(go_at_call 66;refine k1.mono ?_;rintro e w'⟨rfl,rfl⟩)|(go_at_call 67;refine k2.mono ?_;rintro e w1⟨rfl,hb⟩;have HB:=Q0a hb;clear hb));go_ret2;exact⟨rfl,HB.out⟩
theorem Z3s{P:Program}{w:World}{m:Nat}{kv:List (Value×Value)}(h:MapIs w m kv){t k e:TypeId}(ht:P.underlying t=some (.map k e))(ty:TypeId):(Builtin.len_ #[t] ty #[.map (some m)]).run P w=.ok (.int .i64 ((kv.length:Nat):Int)) w:=by
 obtain⟨es,Ah,ho,_,hr⟩:=h;have:kv.length=es.size:=by rw[<- hr];simp
 rw[this];simp[Builtin.len_,run_underlying ht,MapKept.run_getObj_map ho,goInt,Result.andThen]
theorem QT.len{w:World}{q:QT}(h:Sep w q.hl)(ty:TypeId):(Builtin.len_ #[148] ty #[.map (some q.m)]).run prog w=.ok (.int .i64 ((q.E.length:Nat):Int)) w:=by
 have:=Z3s (QT.map h) underlying148 ty
 simpa[kvs] using this
theorem Z0P{w:World}{q:QT}(h:Sep w q.hl)(ok:q.Ok){id:Int}{e:En Fa}(hf:find q.E id=some e)(limit:Int)(h0:0<=limit)(hq:limit<=e.q.limit-(e.q.charged+e.q.given))(hl:q.E.length=32) :
  Calls prog 14 #[ptr q.t,.int .i64 id,.int .i64 limit] w (Told w (.tuple #[.int .i64 0,.int .i64 11])):=by
 have k1:=Q2s h hf;obtain⟨a1,a2,a3,a4,_⟩:=ok.fa id e hf;have k2:=Q3l (QT.fac h hf) a1 a2 a3 a4 limit;have hd:decide (limit<=e.q.limit-(e.q.charged+e.q.given))=true:=by rw[decide_eq_true_eq];exact hq
 rw[hd] at k2;have HN:Hid (∀w1,Below w.heap.size w w1->w1.cell? ⟨q.t,0,none⟩=some (.map (some q.m))/\∀ty,(Builtin.len_ #[148] ty #[.map (some q.m)]).run prog w1=.ok (.int .i64 32) w1):=fun w1 hb=>by
  have s1:=(h.grown hb).sep;refine⟨QT.c0 s1,fun ty=>?_⟩;have:=QT.len s1 ty;rw[hl] at this;exact this
 clear h hf ok hd hq hl;unfold ptr at *
 go_enter func14,ntmps14;go_wp2_with (first|(go_at_call 66;refine k1.mono ?_;rintro e w'⟨rfl,rfl⟩)|(go_at_call 67;refine k2.mono ?_;rintro e w1⟨rfl,hb⟩;obtain⟨d0,dl⟩:=HN.out w1 hb;have HB:=Q0a hb;clear hb));go_ret2;exact⟨rfl,HB.out⟩
theorem Z6w{w:World}{q:QT}(h:Sep w q.hl)(ok:q.Ok){id:Int}{e:En Fa}(hf:find q.E id=some e)(limit:Int)(h0:0<=limit)(hq:limit<=e.q.limit-(e.q.charged+e.q.given))(hl:q.E.length≠32)(hn:q.next+1<1048576) :
  Calls prog 14 #[ptr q.t,.int .i64 id,.int .i64 limit] w (Z0E w q id e limit):=by
 have k1:=Q2s h hf;obtain⟨a1,a2,a3,a4,a5,a6,_⟩:=ok.fa id e hf;have k2:=Q3l (QT.fac h hf) a1 a2 a3 a4 limit;have hd:decide (limit<=e.q.limit-(e.q.charged+e.q.given))=true:=by rw[decide_eq_true_eq];exact hq
 rw[hd] at k2;have Dk:=ok.next0;have HN:Hid (∀w1,Below w.heap.size w w1->w1.cell? ⟨q.t,0,none⟩=some (.map (some q.m))/\w1.cell? ⟨q.t,1,none⟩=some (.int .i64 q.next)/\w1.frozen? ⟨q.t,1,none⟩=false/\(∀ty,(Builtin.len_ #[148] ty #[.map (some q.m)]).run prog w1=.ok (.int .i64 ((q.E.length:Nat):Int)) w1) /\
   Q0x ((w1.setCell ⟨q.t,1,none⟩ (.int .i64 (q.next+1))).alloc (.cells #[.int .i64 limit,.int .i64 0,.int .i64 0,.int .i64 id,.int .i64 0] 147)) q.m (kvs q.E) /\
   ∀w4,Q0x w4 q.m (put (kvs q.E) q.next (.pointer (some ⟨w1.heap.size,0,none⟩)))->((w1.setCell ⟨q.t,1,none⟩ (.int .i64 (q.next+1))).alloc (.cells #[.int .i64 limit,.int .i64 0,.int .i64 0,.int .i64 id,.int .i64 0] 147)).grownBy w4 (some q.m) ->
    w4.cell? ⟨e.b,2,none⟩=some (.int .i64 e.q.given)/\w4.cell? ⟨e.b,4,none⟩=some (.int .i64 e.q.kids)/\(∀i,w4.frozen? ⟨e.b,i,none⟩=false) /\
    Z0E w q id e limit (.returned (.tuple #[.int .i64 q.next,.int .i64 0])) ((w4.setCell ⟨e.b,2,none⟩ (.int .i64 (e.q.given+limit))).setCell ⟨e.b,4,none⟩ (.int .i64 (e.q.kids+1)))):=fun w1 hb=>by
  have s1:=h.grown hb;have hm:Q0x (w1.setCell ⟨q.t,1,none⟩ (.int .i64 (q.next+1))) q.m (kvs q.E):=(QT.map s1.sep).set _ _;refine⟨QT.c0 s1.sep,QT.c1 s1.sep,(s1.sep.cells (T:=150) (cs:=[.map (some q.m),.int .i64 q.next]) (by simp[QT.hl])).free 1,QT.len s1.sep,hm.alloc _,fun w4 Nk hg=>?_⟩;obtain⟨c1,c2,c3,st⟩:=QT.carve s1.sep ok hf limit w4 Nk hg;exact⟨c1,c2,c3,rfl,_,s1.trans st⟩
 have hw:IntKind.i64.wrap (q.next+1)=q.next+1:=Go.IntWalk.i64_in _ (by omega);have EV:IntKind.i64.wrap (e.q.given+limit)=e.q.given+limit:=Go.IntWalk.i64_in _ (by omega);have IF:IntKind.i64.wrap (e.q.kids+1)=e.q.kids+1:=Go.IntWalk.i64_in _ (by have:=ok.next1;omega);have UE:(((q.E.length:Nat):Int)==32)=false:=by simp;omega
 generalize hQ:Z0E w q id e limit=Q at *
 clear h hf ok hd hq hl hn hQ;unfold ptr at *
 generalize ((q.E.length:Nat):Int)=n32 at *
 go_enter func14,ntmps14;go_wp2_with (first|(go_at_call 66;refine k1.mono ?_;rintro e w'⟨rfl,rfl⟩)|(go_at_call 67;refine k2.mono ?_;rintro e w1⟨rfl,hb⟩;obtain⟨d0,d1,df,dl,hm,AS⟩:=HN.out w1 hb;have HM:=Q0a hm;have HF:=Q0a AS;clear hb hm AS HN)|(refine Q1X _ rfl _ _ _ 148 3 140 rfl underlying148 underlying3 q.m (kvs q.E) HM.out q.next (.pointer (some ⟨w1.heap.size,0,none⟩)) rfl rfl rfl ?_;intro w4 DH Ch;obtain⟨e2,e4,ef,Rb⟩:=HF.out w4 DH Ch;have ef2:=ef 2;have ef4:=ef 4;have LX:=Q0a Rb;clear DH Ch ef Rb))
 (try go_ret2);exact LX.out
theorem Z6x{w:World}{q:QT}(h:Sep w q.hl)(ok:q.Ok){id:Int}{e c:En Fa}(hc:find q.E id=some c)(hid:id≠0)(h1:c.q.charged=0)(h2:c.q.given=0)(h3:c.q.kids=0)(he:find q.E c.q.parent=some e)(hg:c.q.limit<=e.q.given)(hl:0<=c.q.limit) :
  Calls prog 213 #[ptr q.t,.int .i64 id] w (Z5X w q c.q.parent e c id):=by
 have k1:=Q2s h hc;obtain⟨a1,a2,a3,a4,_⟩:=ok.fa id c hc;obtain⟨b1,b2,b3,b4,b5,b6,_⟩:=ok.fa _ e he;have Ds:=ok.next1;have k2:=Q8f (QT.fac h hc) a1 a2 (by omega);rw[h1,h2] at k2;have HN:Hid (∀w1,Below w.heap.size w w1->w1.cell? ⟨q.t,0,none⟩=some (.map (some q.m))/\w1.cell? ⟨c.b,0,none⟩=some (.int .i64 c.q.limit)/\w1.cell? ⟨c.b,3,none⟩=some (.int .i64 c.q.parent)/\w1.cell? ⟨c.b,4,none⟩=some (.int .i64 0) /\
   ∀m,(Instr.lookup 148 (.map (some q.m)) (.int .i64 c.q.parent) false).run prog (w1.drewN m)=.ok (.pointer (some ⟨e.b,0,none⟩)) (w1.drewN m)):=fun w1 hb=>by
  have s1:=(h.grown hb).sep;have k:=QT.fac s1 hc;have SK:=k.cell 4 _ rfl;rw[h3] at SK;exact⟨QT.c0 s1,k.cell 0 _ rfl,k.cell 3 _ rfl,SK,fun m=>QT.look_some (s1.drewN m) he⟩
 have HM:Hid (∀w1 m,Below w.heap.size w w1->(w1.drewN m).cell? ⟨q.t,0,none⟩=some (.map (some q.m))/\(w1.drewN m).cell? ⟨c.b,0,none⟩=some (.int .i64 c.q.limit)/\(w1.drewN m).cell? ⟨e.b,2,none⟩=some (.int .i64 e.q.given)/\(w1.drewN m).cell? ⟨e.b,4,none⟩=some (.int .i64 e.q.kids)/\(∀i,(w1.drewN m).frozen? ⟨e.b,i,none⟩=false)/\(w1.drewN m).heap.size=w1.heap.size):=fun w1 m hb=>by
  have s1:=((h.grown hb).sep).drewN m;have k:=QT.fac s1 hc;have k':=QT.fac s1 he;exact⟨QT.c0 s1,k.cell 0 _ rfl,k'.cell 2 _ rfl,k'.cell 4 _ rfl,k'.free,rfl⟩
 have hw:IntKind.i64.wrap (e.q.given-c.q.limit)=e.q.given-c.q.limit:=Go.IntWalk.i64_in _ (by omega);have EV:IntKind.i64.wrap (e.q.kids-1)=e.q.kids-1:=Go.IntWalk.i64_in _ (by omega);have Uc:(id==0)=false:=by simpa using hid
 have Aa:q.t≠e.b:=by
  have AO:=h.nd;simp only[QT.hl,keys_cons,J3Y] at AO;intro e1;refine AO.1 ?_;rw[J3g];right;rw[e1];exact J3h.2 ⟨(e.b,isC 147 e.q.cells),J3h.2 ⟨e,(Q0b he).1,rfl⟩,rfl⟩
 have HS:=Q0a h;have HC:=Q0a hc;have HE:=Q0a he;have Ci:=Q0a ok;generalize hQ:Z5X w q c.q.parent e c id=Q at *
 have HQ:=Q0a hQ;clear h hc he ok hQ hid;unfold ptr at *
 go_enter func213,ntmps213;go_wp2_with (first|(go_at_call 66;refine k1.mono ?_;rintro e w'⟨rfl,rfl⟩)|(go_at_call 76;refine k2.mono ?_;rintro e w1⟨rfl,hb⟩;obtain⟨d0,d1,d3,d4,dl⟩:=HN.out w1 hb;have dl1:=dl 1;have dl0:(Instr.lookup 148 (.map (some q.m)) (.int .i64 c.q.parent) false).run prog w1.drew=.ok (.pointer (some ⟨e.b,0,none⟩)) w1.drew:=dl 1;have HB:=Q0a hb;clear hb HN));go_region;obtain⟨f0,f1,f2,f4,ff,fs⟩:=HM.out w1 1 HB.out;have g0:w1.drew.cell? ⟨q.t,0,none⟩=some (.map (some q.m)):=f0;have g1:w1.drew.cell? ⟨c.b,0,none⟩=some (.int .i64 c.q.limit):=f1;have g2:w1.drew.cell? ⟨e.b,2,none⟩=some (.int .i64 e.q.given):=f2
 have g4:w1.drew.cell? ⟨e.b,4,none⟩=some (.int .i64 e.q.kids):=f4;have h2:w1.drew.frozen? ⟨e.b,2,none⟩=false:=ff 2;have h4:w1.drew.frozen? ⟨e.b,4,none⟩=false:=ff 4;clear d0 d1 d3 d4 dl dl0 dl1 f0 f1 f2 f4 ff fs k1 k2;have HP:Hid (Q0x (((w1.setCell ⟨e.b,2,none⟩ (.int .i64 (e.q.given-c.q.limit))).setCell ⟨e.b,4,none⟩ (.int .i64 (e.q.kids-1))).drew.drew) q.m (kvs q.E) /\
   ∀w4,Q0x w4 q.m (del (kvs q.E) id)->(((w1.setCell ⟨e.b,2,none⟩ (.int .i64 (e.q.given-c.q.limit))).setCell ⟨e.b,4,none⟩ (.int .i64 (e.q.kids-1))).drew.drew).grownBy w4 (some q.m)->Q (.returned (.int .i64 0)) w4):=by
  have s1:=HS.out.grown HB.out;have s2:Sep (w1.drewN 2) q.hl:=s1.sep.drewN 2;have hm:Q0x (((w1.drewN 2).setCell ⟨e.b,2,none⟩ (.int .i64 (e.q.given-c.q.limit))).setCell ⟨e.b,4,none⟩ (.int .i64 (e.q.kids-1))) q.m (kvs q.E):=((QT.map s2).set _ _).set _ _;refine⟨hm,fun w4 Nk FQ=>?_⟩;have st:=QT.close s2 Ci.out HE.out HC.out w4 Nk FQ;rw[<- HQ.out];exact⟨rfl,s1.trans (st.from_drewN)⟩
 have HL:Hid (((w1.setCell ⟨e.b,2,none⟩ (.int .i64 (e.q.given-c.q.limit))).drew.drew).cell? ⟨e.b,4,none⟩=some (.int .i64 e.q.kids)/\((w1.setCell ⟨e.b,2,none⟩ (.int .i64 (e.q.given-c.q.limit))).drew.drew).frozen? ⟨e.b,4,none⟩=false /\
   (((w1.setCell ⟨e.b,2,none⟩ (.int .i64 (e.q.given-c.q.limit))).setCell ⟨e.b,4,none⟩ (.int .i64 (e.q.kids-1))).drew.drew).cell? ⟨q.t,0,none⟩=some (.map (some q.m))):=by
  have k:=(QT.fac (HS.out.grown HB.out).sep HE.out).set 2 (.int .i64 (e.q.given-c.q.limit));refine⟨k.cell 4 _ rfl,k.free 4,?_⟩;show((w1.setCell ⟨e.b,2,none⟩ _).setCell ⟨e.b,4,none⟩ _).cell? ⟨q.t,0,none⟩=_;rw[World.cell?_of_block (Below.heap_setCell _ _ _ _ Aa),World.cell?_of_block (Below.heap_setCell _ _ _ _ Aa)];exact g0
 go_wp2_with fail;go_region;obtain⟨e4,f4,e0⟩:=HL.out;go_wp2_with (refine Q2z _ rfl _ _ 148 3 3 140 rfl underlying148 underlying3 q.m (kvs q.E) HP.out.1 id rfl rfl ?_;intro w4 CN Bu;have LX:=Q0a (HP.out.2 w4 CN Bu);clear CN Bu)
 (try go_ret);exact LX.out
theorem Inv.lok{P:PL}{l:List Pl}{fr:List Nat}{xc:Int->Int}{zs:List Nat}(v:Inv P l fr xc zs):LOk l:=⟨v.len,fun p hp=>⟨by have:=(v.st p hp).1;omega,(v.st p hp).2⟩⟩
theorem new3{w w1:World}{T:TypeId}{a b c:Value}(hb:Below (w.alloc (.cells #[a,b,c] T)).heap.size (w.alloc (.cells #[a,b,c] T)) w1):Below w.heap.size w w1/\w1.cell? ⟨w.heap.size,0,none⟩=some a/\w1.cell? ⟨w.heap.size,1,none⟩=some b/\w1.cell? ⟨w.heap.size,2,none⟩=some c/\(∀i,w1.frozen? ⟨w.heap.size,i,none⟩=false)/\w.heap.size<w1.heap.size:=by
 have hc:=(Cells.new w T [a,b,c]).same (hb.block w.heap.size (by simp));refine⟨((Below.refl _ _).alloc (J3b _) _).trans (hb.mono (by simp)),hc.cell 0 _ rfl,hc.cell 1 _ rfl,hc.cell 2 _ rfl,hc.free,?_⟩;have:=hb.size;simp at this;omega
theorem Q0e{w w1:World}{o:Obj}(hb:Below (w.alloc o).heap.size (w.alloc o) w1):Below w.heap.size w w1:=((Below.refl _ _).alloc (J3b _) _).trans (hb.mono (by simp))
theorem Z2i{w w1:World}(h:Below w.heap.size w w1)(a b c:Value)(o:Obj):Below w.heap.size w ((((w1.setCell ⟨w.heap.size,0,none⟩ a).setCell ⟨w.heap.size,1,none⟩ b).setCell ⟨w.heap.size,2,none⟩ c).alloc o):=
 (((h.setCell (J3b _) _).setCell (J3b _) _).setCell (J3b _) _).alloc (by have:=h.size;simpa[World.setCell] using this) _
theorem Z6y{w:World}{S:CO}(h:Sep w S.hl){x:Nat}{a b c e kind:Int}(hG:Calls prog 112 #[.pointer (some ⟨S.t,0,none⟩),.int .u32 x] (w.alloc (.cells #[.int .i64 0,.int .i64 0,.int .i64 0] 54)) (Told (w.alloc (.cells #[.int .i64 0,.int .i64 0,.int .i64 0] 54)) (.tuple #[.agg #[.int .i64 a,.int .i64 b,.int .i64 c],.int .i64 e])))
  (hc:e≠0∨kind=0∨a=kind):Calls prog 49 #[.pointer (some ⟨S.c,0,none⟩),.int .u32 x,.int .i64 kind] w (Told w (.tuple #[.agg #[.int .i64 a,.int .i64 b,.int .i64 c],.int .i64 e])):=by
 have c1:=CO.c1 (h.alloc (.cells #[.int .i64 0,.int .i64 0,.int .i64 0] 54));have A7:e≠0∨e=0/\kind=0∨e=0/\kind≠0/\a=kind:=by omega
 clear h hc;rcases A7 with he|⟨rfl,rfl⟩|⟨rfl,hk,rfl⟩
 ·have Aw:(e==0)=false:=by simpa using he
  go_enter func49,ntmps49;go_wp2_with (go_at_call 112;refine hG.mono ?_;rintro r w1⟨rfl,hb⟩;obtain⟨hb,e0,e1,e2,ef,Ab⟩:=new3 hb;have HB:=Q0a hb;have f0:=ef 0;have f1:=ef 1;have f2:=ef 2;clear hb ef);refine bodyPost_ret (v:=.tuple #[.agg #[.int .i64 a,.int .i64 b,.int .i64 c],.int .i64 e]) (by simp[results,results49,go_sem,e0,e1,e2,Ab]) rfl ⟨rfl,Z2i HB.out _ _ _ _⟩
 ·go_enter func49,ntmps49;go_wp2_with (go_at_call 112;refine hG.mono ?_;rintro r w1⟨rfl,hb⟩;obtain⟨hb,e0,e1,e2,ef,Ab⟩:=new3 hb;have HB:=Q0a hb;have f0:=ef 0;have f1:=ef 1;have f2:=ef 2;clear hb ef);refine bodyPost_ret (v:=.tuple #[.agg #[.int .i64 a,.int .i64 b,.int .i64 c],.int .i64 0]) (by simp[results,results49,go_sem,e0,e1,e2,Ab]) rfl ⟨rfl,Z2i HB.out _ _ _ _⟩
 ·have Aw:(a==0)=false:=by simpa using hk
  go_enter func49,ntmps49;go_wp2_with (go_at_call 112;refine hG.mono ?_;rintro r w1⟨rfl,hb⟩;obtain⟨hb,e0,e1,e2,ef,Ab⟩:=new3 hb;have HB:=Q0a hb;have f0:=ef 0;have f1:=ef 1;have f2:=ef 2;clear hb ef);refine bodyPost_ret (v:=.tuple #[.agg #[.int .i64 a,.int .i64 b,.int .i64 c],.int .i64 0]) (by simp[results,results49,go_sem,e0,e1,e2,Ab]) rfl ⟨rfl,Z2i HB.out _ _ _ _⟩
theorem Z8X{w:World}{S:CO}(h:Sep w S.hl){x:Nat}{a b c kind:Int}(hG:Calls prog 112 #[.pointer (some ⟨S.t,0,none⟩),.int .u32 x] (w.alloc (.cells #[.int .i64 0,.int .i64 0,.int .i64 0] 54)) (Told (w.alloc (.cells #[.int .i64 0,.int .i64 0,.int .i64 0] 54)) (.tuple #[.agg #[.int .i64 a,.int .i64 b,.int .i64 c],.int .i64 0])))
  (hk:kind≠0) (ha:a≠kind):Calls prog 49 #[.pointer (some ⟨S.c,0,none⟩),.int .u32 x,.int .i64 kind] w (Told w (.tuple #[.agg #[.int .i64 0,.int .i64 0,.int .i64 0],.int .i64 10])):=by
 have c1:=CO.c1 (h.alloc (.cells #[.int .i64 0,.int .i64 0,.int .i64 0] 54));have Aw:(kind==0)=false:=by simpa using hk
 have Ai:(a==kind)=false:=by simpa using ha
 have Ar:(kind != 0)=true:=by simpa using hk
 have A9:(a != kind)=true:=by simpa using ha
 clear h hk ha;go_enter func49,ntmps49;go_wp2_with (go_at_call 112;refine hG.mono ?_;rintro r w1⟨rfl,hb⟩;obtain⟨hb,e0,e1,e2,ef,Ab⟩:=new3 hb;have HB:=Q0a hb;have f0:=ef 0;have f1:=ef 1;have f2:=ef 2;clear hb ef);refine bodyPost_ret (v:=.tuple #[.agg #[.int .i64 0,.int .i64 0,.int .i64 0],.int .i64 10]) (by simp[results,results49,go_sem,e0,e1,e2,Ab]) rfl ⟨rfl,Z2i HB.out _ _ _ _⟩
section
variable {w:World} {S:CO} {fr:List Nat} {N K:Nat}
theorem Q4M(h:Sep w S.hl)(ok:LOk S.l){x:Nat}(hx:x<4294967296)(kind:Int)(hp:pget S.l 1 x=none):Calls prog 49 #[.pointer (some ⟨S.c,0,none⟩),.int .u32 x,.int .i64 kind] w (Told w (.tuple #[zobj,.int .i64 8])):=
 Z6y h (Z6r (h:=S.ht) (CO.sT (h.alloc _)) ok hx hp) (.inl (by decide))
theorem Q2X(h:Sep w S.hl)(ok:LOk S.l){x:Nat}(hx:x<4294967296)(kind:Int){p:Pl}(hp:pget S.l 1 x=some p)(hk:kind=0∨(p.kind:Int)=kind):Calls prog 49 #[.pointer (some ⟨S.c,0,none⟩),.int .u32 x,.int .i64 kind] w (Told w (.tuple #[p.obj,.int .i64 0])):=
 Z6y h (Q6u (h:=S.ht) (CO.sT (h.alloc _)) ok hx hp) (.inr hk)
theorem Q3t(h:Sep w S.hl)(ok:LOk S.l){x:Nat}(hx:x<4294967296)(kind:Int){p:Pl}(hp:pget S.l 1 x=some p)(h0:kind≠0)(hk:(p.kind:Int)≠kind):Calls prog 49 #[.pointer (some ⟨S.c,0,none⟩),.int .u32 x,.int .i64 kind] w (Told w (.tuple #[zobj,.int .i64 10])):=
 Z8X h (Q6u (h:=S.ht) (CO.sT (h.alloc _)) ok hx hp) h0 hk
end
theorem CO.Ok.wordf{S:CO}{fr:List Nat}{N K:Nat}(ok:S.Ok fr N K){p:Pl}(hp:p∈S.l)(hi:p.is=true)(hk:p.kind=1):Q0u S.P.a.mem p.at_=p.own/\p.at_%8=0/\p.at_+8<=S.P.a.mem.length/\p.own<1048576:=by
 have hu:=ok.inv.mem.used hp hi (by omega);rw[hk] at hu;have h1:=Q0m ok.inv.mem.pool hu;have:Q0c 1=64:=rfl;refine⟨ok.inv.mem.word p hp hi hk,Q2u ok.inv.mem.pool hu,by omega,?_⟩;obtain⟨e,he⟩:=ok.inv.tre.acc hp hi hk;have h2:=ok.inv.mem.pool.q.fa _ e he;have h3:=ok.inv.mem.pool.q.next1;omega
theorem Q9r{w:World}{S:CO}(h:Sep w S.hl)(hb:∀b∈S.P.a.mem,b<256)(hm:S.P.a.mem.length<=1073741824){k a f x:Nat}(ha:a%8=0)(hl:a+8<=S.P.a.mem.length)(hx:Q0u S.P.a.mem a=x)(D3:x<1048576) :
  Calls prog 203 #[.pointer (some ⟨S.c,0,none⟩),.agg #[.int .i64 k,.int .i64 a,.int .i64 f]] w (Told w (.int .i64 x)):=by
 have s1:=(h.alloc (.cells #[.int .i64 k,.int .i64 a,.int .i64 f] 54)).drew;have k1:=Q1h (CO.sP s1);have k2:=Z5o (PL.sA (CO.sP s1)) hb a ha hl hm;rw[hx] at k2;have c0:=CO.c0 (h.alloc (.cells #[.int .i64 k,.int .i64 a,.int .i64 f] 54));have d0:=CO.c0 s1;have e1:(w.alloc (.cells #[.int .i64 k,.int .i64 a,.int .i64 f] 54)).cell? ⟨w.heap.size,1,none⟩=some (.int .i64 a):=(Cells.new w 54 [.int .i64 k,.int .i64 a,.int .i64 f]).cell 1 _ rfl;have e2:(w.alloc (.cells #[.int .i64 k,.int .i64 a,.int .i64 f] 54)).drew.cell? ⟨w.heap.size,1,none⟩=some (.int .i64 a):=e1;have HB:Hid (Below w.heap.size w (w.alloc (.cells #[.int .i64 k,.int .i64 a,.int .i64 f] 54)).drew):=((Below.refl _ _).alloc (J3b _) _).drew
 have hw:IntKind.i64.wrap (x:Int)=(x:Int):=Go.IntWalk.i64_in _ (by omega);unfold ptr at *
 clear h hb hm ha hl hx s1;go_enter func203,ntmps203;go_wp2_with fail
 go_region_held3 (fun w'=>w'.cell? ⟨S.c,0,none⟩=some (.pointer (some ⟨S.P.p,0,none⟩))/\w'.cell? ⟨w.heap.size,1,none⟩=some (.int .i64 a)) (first|exact⟨c0,e1⟩|exact⟨d0,e2⟩)
  (first|(go_at_call 50;refine k1.mono ?_;rintro e w'⟨rfl,rfl⟩)|(go_at_call 58;refine k2.mono ?_;rintro e w'⟨rfl,rfl⟩))
 go_wp2_with fail
 (try go_ret);exact⟨rfl,HB.out⟩
theorem Q5M{w:World}{S:CO}{x:Nat}{e:Int}(he:e≠0)(hO:Calls prog 49 #[.pointer (some ⟨S.c,0,none⟩),.int .u32 x,.int .i64 1] w (Told w (.tuple #[.agg #[.int .i64 0,.int .i64 0,.int .i64 0],.int .i64 e]))) :
  Calls prog 150 #[.pointer (some ⟨S.c,0,none⟩),.int .u32 x] w (Told w (.tuple #[.int .i64 0,.int .i64 e])):=by
 have Aw:(e==0)=false:=by simpa using he
 go_enter func150,ntmps150;go_wp2_with (go_at_call 49;refine hO.mono ?_;rintro r w1⟨rfl,hb⟩;have HB:=Q0a hb;clear hb);have E3:Hid (∀o,Below w.heap.size w (w1.alloc o)):=fun o=>HB.out.alloc HB.out.size o
 go_ret2;exact⟨rfl,E3.out _⟩
theorem Q6w{w:World}{S:CO}{fr:List Nat}{N K:Nat}(h:Sep w S.hl)(ok:S.Ok fr N K){x:Nat}(hx:x<4294967296){p:Pl}(hp:pget S.l 1 x=some p)(hk:p.kind=1) :
  Calls prog 150 #[.pointer (some ⟨S.c,0,none⟩),.int .u32 x] w (Told w (.tuple #[.int .i64 (p.own:Int),.int .i64 0])):=by
 have hO:Calls prog 49 #[.pointer (some ⟨S.c,0,none⟩),.int .u32 x,.int .i64 1] w (Told w (.tuple #[.agg #[.int .i64 (p.kind:Int),.int .i64 (p.at_:Int),.int .i64 (p.fac:Int)],.int .i64 0])):=Q2X h ok.inv.lok hx 1 hp (.inr (by omega));obtain⟨w1_eq,w2,w3,w4⟩:=ok.wordf (Q0z hp) (Pl.is_iff.2 (.inl (pget_some.1 hp).2.2)) hk;have HW:Hid (∀w1,Below w.heap.size w w1->∀o,Calls prog 203 #[.pointer (some ⟨S.c,0,none⟩),.agg #[.int .i64 (p.kind:Int),.int .i64 (p.at_:Int),.int .i64 (p.fac:Int)]] (w1.alloc o) fun r w'=>r=.returned (.int .i64 (p.own:Int))/\Below w.heap.size w w'):=fun w1 hb o =>
  (Q9r (k:=p.kind) (a:=p.at_) (f:=p.fac) ((h.grown hb).sep.alloc o) ok.inv.mem.pool.bytes (Q0o ok.inv.mem.pool) w2 w3 w1_eq w4).mono fun r w' ⟨e,Al⟩=>⟨e,(hb.alloc hb.size o).trans (Al.mono (by have:=hb.size;simp;omega))⟩
 clear h ok hp w1_eq w2 w3 w4 hk;generalize p.own=po at *
 generalize p.kind=pk at *
 generalize p.at_=pa at *
 generalize p.fac=pf at *
 go_enter func150,ntmps150;go_wp2_with (first|(go_at_call 49;refine hO.mono ?_;rintro r w1⟨rfl,hb⟩;have HB:=Q0a hb;clear hb)|(go_at_call 203;refine(HW.out _ HB.out _).mono ?_;rintro r w2⟨rfl,hb⟩;have E3:=Q0a hb;clear hb));go_ret2;exact⟨rfl,E3.out⟩
theorem Q6x{w:World}{S:CO}(h:Sep w S.hl)(ok:LOk S.l):Calls prog 28 #[.pointer (some ⟨S.c,0,none⟩)] w (NewHs w (allL S.l 1)):=by
 have c1:=CO.c1 h;have hA:=Q9p (h:=S.ht) (CO.sT h) ok;clear h ok;unfold CO.ht at hA;go_enter func28,ntmps28;go_wp2_with (go_at_call 86;refine hA.mono ?_;rintro e w'⟨v,rfl,h1,h2⟩)
 (try go_ret);exact⟨v,rfl,h1,h2⟩
theorem Q1o{w:World}{S:CO}(h:Sep w S.hl):Calls prog 27 #[.pointer (some ⟨S.c,0,none⟩)] w fun r w'=>r=.returned (.pointer (some ⟨S.P.p,0,none⟩))/\w=w':=by
 have c0:=CO.c0 h;clear h;go_enter func27,ntmps27
 go_wp2
 go_ret;exact⟨rfl,rfl⟩
theorem CO.Ok.few{S:CO}{fr:List Nat}{N K:Nat}(ok:S.Ok fr N K):S.ts.length<=256:=by
 have h1:=ok.inv.que.nd;have:((S.ts.map Prod.fst).map (·%256)).Nodup:=by
  unfold List.Nodup;rw[J3H];refine h1.imp_of_mem ?_;intro a b ha hb Cp e;obtain⟨p,hp⟩:=(ok.inv.que.has a).1 ha;obtain⟨q,hq⟩:=(ok.inv.que.has b).1 hb;exact Cp (Q0S hp hq e).1
 have:=Q4q 256 _ this (by
  intro x hx;obtain⟨y,_,rfl⟩:=J3h.1 hx;omega)
 simpa using this
def OutI(w wr:World)(v:Value)(L:List Int):Prop:=wr.ownsRow w.heap.size 3 1 v L.length (L.map encI)/\Below w.heap.size w wr
theorem OutI.nil(w:World):OutI w w (.slice none 0 0) []:=⟨World.ownsRow_nil _ _ _ _,Below.refl _ _⟩
theorem OutI.below{w wr w1:World}{v:Value}{L:List Int}(h:OutI w wr v L)(hb:Below wr.heap.size wr w1):OutI w w1 v L:=
 ⟨h.1.kept (row:=none) ⟨hb.os,hb.tape,hb.output,hb.size,fun k hk _=>hb.block k hk⟩ (by cases hv:v.ownBlock with|none=>exact .inl rfl|some b=>exact .inr (by simp)),h.2.trans (hb.mono h.2.size)⟩
theorem OutI.app{w wr:World}{v:Value}{L:List Int}(h:OutI w wr v L)(hl:L.length<=16777216)(x:Int)(ty:TypeId):∃v' w',(Builtin.append_ #[38,38] ty #[v,.slice (some ⟨wr.heap.size,0,none⟩) 1 1]).run prog (wr.alloc (.cells #[.int .i64 x] 3))=.ok v' w'/\OutI w w' v' (L++[x]):=by
 obtain⟨i0,hi,Bx,AX,AU⟩:=info_parts Q8q;have h2:=h.below ((Below.refl _ _).alloc (J3b _) (.cells #[.int .i64 x] 3));obtain⟨v',w',hr,q1,q2,_,q4⟩:=run_append_own_at (P:=prog) (wr.alloc (.cells #[.int .i64 x] 3)) w.heap.size 38 ty 3 i0 (.int .i64 0) 1 8 underlying38 hi Bx AX AU rfl (by decide) v L.length (L.map encI) h2.1 ⟨wr.heap.size,0,none⟩ 1 1 [.int .i64 x] rfl (by
  intro j u hj;have:=(Cells.new wr 3 [.int .i64 x]).cell j u hj;have e:(⟨wr.heap.size,0,none⟩:Addr).add j=⟨wr.heap.size,j,none⟩:=by unfold Addr.add;split <;> simp_all
  rw[e];exact this) (fun u hu=>by rw[J5j.1 hu];rfl) (by unfold maxLen;omega) (by omega) h2.2.size
 refine⟨v',w',hr,?_,?_⟩
 ·rw[J3M,J6G];exact q1
 ·exact h2.2.trans ((Below.refl _ _).mono h2.2.size |>.grown q2 h2.2.size (fun b hb=>(h2.1.lt b hb).1))
def Q0X(t:TB)(k:Nat):List Int:=((List.range k).filter fun s=>(t.en s).isSome).map fun(s:Nat)=>(s:Int)
theorem Q9s(t:TB)(k:Nat):Q0X t (k+1)=Q0X t k++if (t.en k).isSome=true then [(k:Int)] else []:=by
 unfold Q0X;rw[J3m,J4Z,J6G,J7p];split <;> simp
theorem Q4l(t:TB)(k:Nat):(Q0X t k).length<=k:=by
 unfold Q0X;rw[J4L];exact J3c (J5r _ _) (by simp)
def NewIs(w:World)(L:List Int)(r:Ending)(w':World):Prop:=∃v,r=.returned v/\w'.ownsRow w.heap.size 3 1 v L.length (L.map encI)/\Below w.heap.size w w'
section
variable {w:World} {S:CO} {t:TB} {p:Pl} {g:Nat}
theorem Q7G(h:TT S t p g w):Calls prog 91 #[.pointer (some ⟨g,0,none⟩)] w (NewIs w (Q0X t 256)):=by
 have HG:Hid (∀(wr:World) (s:Nat),Below w.heap.size w wr->s<256->Calls prog 102 #[.pointer (some ⟨g,0,none⟩),.int .i64 s] wr fun r w'=>r=getV (t.en s)/\wr=w'):=fun wr s hb hs=>by
  have:=Q3R (h.grown hb) (s:Int);have ho:t.at' (s:Int)=t.en s:=by unfold TB.at';rw[if_pos ⟨by omega,by omega⟩,J4h]
  rw[ho] at this;exact this
 clear h;go_enter func91,ntmps91;go_wp2_with fail
 go_loopg [3,7] 256 (fun gk ov iv wr=>∃k:Nat,iv=.int .i64 k/\k+gk=256/\OutI w wr ov (Q0X t k))
 case atStart=>exact⟨0,rfl,rfl,by simpa[Q0X] using OutI.nil w⟩
 case round =>
  obtain⟨k,rfl,AC,Am⟩:=hrel;have HO:=Q0a Am;have Cg:=Q0a AC;clear AC;by_cases hk:k<256
  ·have Bv:=HG.out wr k Am.2 hk;have C3:(k:Int)<256:=by omega
   have Nx:=Q9s t k;have R7:=Q0a Nx;have Ac:=Q4l t k;clear Am Nx;cases he:t.en k with
   | none =>
    rw[he] at Bv;have HE:=Q0a he;unfold getV Q0s Q0W at Bv;clear he;go_wp2_with fail;refine Bv.mono ?_;rintro e w'⟨rfl,rfl⟩;go_wp2_with fail;go_roundg (256-(k+1))
    case measure=>have:=Cg.out;omega
    case rel=>exact⟨k+1,by go_num,by have:=Cg.out;omega,by
     have h1:=R7.out;rw[HE.out] at h1;rw[h1]
     simpa using HO.out⟩
   | some e =>
    rw[he] at Bv;have HE:=Q0a he;have Aa:Q0s (some e)≠0:=fun hz=>by cases codeA_zero.1 hz
    have FV:(((Q0s (some e):Nat):Int) != 0)=true:=by simpa using Aa
    have MJ:(((Q0s (some e):Nat):Int)==0)=false:=by simpa using Aa
    unfold getV at Bv;generalize Q0s (some e)=ca at *
    generalize Q0W (some e)=cb at *
    clear he Aa;go_wp2_with fail;refine Bv.mono ?_;rintro e1 w'⟨rfl,rfl⟩;obtain⟨v',w5,AK,Jo⟩:=HO.out.app (by omega) (k:Int) 38;have Tl:=Q0a Jo;clear Jo;go_wp2_with (at_builtin;refine Lib.wpList_append_run _ rfl _ _ _ _ rfl _ _ rfl rfl _ _ AK ?_);go_roundg (256-(k+1))
    case measure=>have:=Cg.out;omega
    case rel=>exact⟨k+1,by go_num,by have:=Cg.out;omega,by
     have h1:=R7.out;rw[HE.out] at h1;rw[h1]
     simpa using Tl.out⟩
  ·obtain rfl:k=256:=by have:=Cg.out;omega
   have HR:Hid (NewIs w (Q0X t 256) (.returned u3) wr):=⟨u3,rfl,HO.out.1,HO.out.2⟩
   clear Am HO;go_wp2_with fail
   (try go_ret);exact HR.out
end
theorem J1i{w:World}{S:CO}{fr:List Nat}{N K:Nat}(hs:Sep w S.hl)(ok:S.Ok fr N K){p:Pl}(hu:p.at_∈S.P.usedOf 2):Calls prog 169 #[.pointer (some ⟨S.P.p,0,none⟩),.int .i64 (p.fac:Int),.int .i64 (p.at_:Int)] w fun r w'=>∃g:Nat,r=.returned (.pointer (some ⟨g,0,none⟩))/\Below w.heap.size w w'/\TblC S p g w'/\w.heap.size<=g:=by
 have hm:=Q0m ok.inv.mem.pool hu;have Gv:=Q0o ok.inv.mem.pool;have kh:=Z1W (CO.sP hs) ok.inv.mem.pool 2 (p.at_:Int) (by unfold Z5y;omega);have DK:S.P.has 2 (p.at_:Int)=true:=by
  unfold PL.has PL.usedI;rw[decide_eq_true_eq,if_pos (by omega),J4h];exact⟨by omega,hu⟩
 rw[DK] at kh;have HF:Hid (∀w1,Below w.heap.size w w1->(∃g:Nat,(Ending.returned (.pointer (some ⟨w1.heap.size,0,none⟩)):Ending)=.returned (.pointer (some ⟨g,0,none⟩))/\Below w.heap.size w (w1.alloc (.cells #[ptr S.P.p,.int .i64 (p.fac:Int),.int .i64 (p.at_:Int)] 277))/\TblC S p g (w1.alloc (.cells #[ptr S.P.p,.int .i64 (p.fac:Int),.int .i64 (p.at_:Int)] 277))/\w.heap.size<=g)):=fun w1 hb=>by
  refine⟨w1.heap.size,rfl,hb.alloc hb.size _,fun j v hj=>⟨w1.heap.size,rfl,fun hk=>?_,by simp,?_⟩,hb.size⟩
  ·have:=hs.lt hk;have:=hb.size;omega
  ·exact(Cells.new w1 277 [ptr S.P.p,.int .i64 (p.fac:Int),.int .i64 (p.at_:Int)]).cell j v hj
 unfold ptr at HF;clear hs ok hu hm Gv DK;go_enter func169,ntmps169;go_wp2_with fail;refine kh.mono ?_;rintro r w1⟨rfl,hb⟩;have HX:=Q0a (HF.out w1 hb);clear hb kh;go_wp2_with fail
 (try go_ret);exact HX.out
end Go.Proofs.YtfidemmgofcnmaaGreatDoor
