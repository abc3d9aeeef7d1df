/- SpaceRevokes returns true at every input. No condition. Part of its proof. -/
import Derived.Test.YtlakjlmaboioiaaGreatDoorSv17
import Derived.Test.YtlakjlmaboioiaaGreatDoorSv13
set_option maxHeartbeats 1000000
set_option linter.unusedVariables false
namespace Go.Proofs.YtlakjlmaboioiaaGreatDoor
open Go.RowKit Go.Proofs.Tryz
def OutI (w wr:World) (v:Value) (L:List Int):Prop:=wr.ownsRow w.heap.size 3 1 v L.length (L.map encI)/\Below w.heap.size w wr
theorem OutI.nil (w:World):OutI w w (.slice none 0 0) []:=⟨World.ownsRow_nil _ _ _ _,Below.refl _ _⟩
theorem OutI.below {w wr w1:World} {v:Value} {L:List Int} (h:OutI w wr v L) (hb:Below wr.heap.size wr w1):OutI w w1 v L:=
 ⟨h.1.kept (row:=none) ⟨hb.os,hb.tape,hb.output,hb.size,fun k hk _=>hb.block k hk⟩ (by cases hv:v.ownBlock with|none=>exact .inl rfl|some b=>exact .inr (by simp)),h.2.trans (hb.mono h.2.size)⟩
theorem OutI.app {w wr:World} {v:Value} {L:List Int} (h:OutI w wr v L) (hl:L.length<=16777216) (x:Int) (ty:TypeId):∃v' w',(Builtin.append_ #[36,36] ty #[v,.slice (some ⟨wr.heap.size,0,none⟩) 1 1]).run prog (wr.alloc (.cells #[.int .i64 x] 3))=.ok v' w'/\OutI w w' v' (L++[x]):=by
 obtain⟨i0,hi,BN,Bh,Bf⟩:=info_parts Z0x;have h2:=h.below ((Below.refl _ _).alloc (J1L _) (.cells #[.int .i64 x] 3));obtain⟨v',w',hr,q1,q2,_,q4⟩:=run_append_own_at (P:=prog) (wr.alloc (.cells #[.int .i64 x] 3)) w.heap.size 36 ty 3 i0 (.int .i64 0) 1 8 underlying36 hi BN Bh Bf rfl (by decide) v L.length (L.map encI) h2.1 ⟨wr.heap.size,0,none⟩ 1 1 [.int .i64 x] rfl (by
  intro j u hj;have:=(Cells.new wr 3 [.int .i64 x]).cell j u hj;have e:(⟨wr.heap.size,0,none⟩:Addr).add j=⟨wr.heap.size,j,none⟩:=by unfold Addr.add;split <;> simp_all
  rw [e];exact this) (fun u hu=>by rw [J3T.1 hu];rfl) (by unfold maxLen;omega) (by omega) h2.2.size
 refine⟨v',w',hr,?_,?_⟩
 ·rw [J2v,J5p];exact q1
 ·exact h2.2.trans ((Below.refl _ _).mono h2.2.size |>.grown q2 h2.2.size (fun b hb=>(h2.1.lt b hb).1))
def Q0X (t:TB) (k:Nat):List Int:=((List.range k).filter fun s=>(t.en s).isSome).map fun (s:Nat)=>(s:Int)
theorem Q9c (t:TB) (k:Nat):Q0X t (k+1)=Q0X t k++if (t.en k).isSome=true then [(k:Int)] else []:=by
 unfold Q0X;rw [J1W,J3J,J5p,J5X];split <;> simp
theorem Q4f (t:TB) (k:Nat):(Q0X t k).length<=k:=by
 unfold Q0X;rw [J3v];exact J1M (J4b _ _) (by simp)
def NewIs (w:World) (L:List Int) (r:Ending) (w':World):Prop:=∃v,r=.returned v/\w'.ownsRow w.heap.size 3 1 v L.length (L.map encI)/\Below w.heap.size w w'
section
variable {w:World} {S:CO} {t:TB} {p:Pl} {g:Nat}
theorem Q7l (h:TT S t p g w):Calls prog 89 #[.pointer (some ⟨g,0,none⟩)] w (NewIs w (Q0X t 256)):=by
 have HG:Hid (∀(wr:World) (s:Nat),Below w.heap.size w wr->s<256->Calls prog 103 #[.pointer (some ⟨g,0,none⟩),.int .i64 s] wr fun r w'=>r=getV (t.en s)/\wr=w'):=fun wr s hb hs=>by
  have:=Q3I (h.grown hb) (s:Int);have ho:t.at' (s:Int)=t.en s:=by unfold TB.at';rw [if_pos ⟨by omega,by omega⟩,J2R]
  rw [ho] at this;exact this
 clear h;go_enter func89,ntmps89;go_wp2_with fail
 go_loopg [3,7] 256 (fun gk ov iv wr=>∃k:Nat,iv=.int .i64 k/\k+gk=256/\OutI w wr ov (Q0X t k))
 case atStart=>exact⟨0,rfl,rfl,by simpa [Q0X] using OutI.nil w⟩
 case round =>
  obtain⟨k,rfl,AL,Au⟩:=hrel;have HO:=Q0a Au;have Cu:=Q0a AL;clear AL;by_cases hk:k<256
  ·have Bp:=HG.out wr k Au.2 hk;have C4:(k:Int)<256:=by omega
   have MZ:=Q9c t k;have QI:=Q0a MZ;have Ac:=Q4f t k;clear Au MZ;cases he:t.en k with
   | none =>
    rw [he] at Bp;have HE:=Q0a he;unfold getV Q0t Q0V at Bp;clear he;go_wp2_with fail;refine Bp.mono ?_;rintro e w' ⟨rfl,rfl⟩;go_wp2_with fail;go_roundg (256-(k+1))
    case measure=>have:=Cu.out;omega
    case rel=>exact⟨k+1,by go_num,by have:=Cu.out;omega,by
     have h1:=QI.out;rw [HE.out] at h1;rw [h1]
     simpa using HO.out⟩
   | some e =>
    rw [he] at Bp;have HE:=Q0a he;have Aa:Q0t (some e)≠0:=fun hz=>by cases codeA_zero.1 hz
    have FX:(((Q0t (some e):Nat):Int) != 0)=true:=by simpa using Aa
    have MA:(((Q0t (some e):Nat):Int)==0)=false:=by simpa using Aa
    unfold getV at Bp;generalize Q0t (some e)=ca at *
    generalize Q0V (some e)=cb at *
    clear he Aa;go_wp2_with fail;refine Bp.mono ?_;rintro e1 w' ⟨rfl,rfl⟩;obtain⟨v',w5,Bn,ID⟩:=HO.out.app (by omega) (k:Int) 36;have Ua:=Q0a ID;clear ID;go_wp2_with (at_builtin;refine Lib.wpList_append_run _ rfl _ _ _ _ rfl _ _ rfl rfl _ _ Bn ?_);go_roundg (256-(k+1))
    case measure=>have:=Cu.out;omega
    case rel=>exact⟨k+1,by go_num,by have:=Cu.out;omega,by
     have h1:=QI.out;rw [HE.out] at h1;rw [h1]
     simpa using Ua.out⟩
  ·obtain rfl:k=256:=by have:=Cu.out;omega
   have HR:Hid (NewIs w (Q0X t 256) (.returned u3) wr):=⟨u3,rfl,HO.out.1,HO.out.2⟩
   clear Au HO;go_wp2_with fail
   first|exact HR.out|(go_ret;exact HR.out)
end
theorem J0k {w:World} {S:CO} {fr:List Nat} {N K:Nat} (hs:Sep w S.hl) (ok:S.Ok fr N K) {p:Pl} (hu:p.at_∈S.P.usedOf 2):Calls prog 161 #[.pointer (some ⟨S.P.p,0,none⟩),.int .i64 (p.fac:Int),.int .i64 (p.at_:Int)] w fun r w'=>∃g:Nat,r=.returned (.pointer (some ⟨g,0,none⟩))/\Below w.heap.size w w'/\TblC S p g w'/\w.heap.size<=g:=by
 have hm:=Q0m ok.inv.mem.pool hu;have Gl:=Q0o ok.inv.mem.pool;have kh:=Z1u (CO.sP hs) ok.inv.mem.pool 2 (p.at_:Int) (by unfold Z4U;omega);have D4:S.P.has 2 (p.at_:Int)=true:=by
  unfold PL.has PL.usedI;rw [decide_eq_true_eq,if_pos (by omega),J2R];exact⟨by omega,hu⟩
 rw [D4] at kh;have HF:Hid (∀w1,Below w.heap.size w w1->(∃g:Nat,(Ending.returned (.pointer (some ⟨w1.heap.size,0,none⟩)):Ending)=.returned (.pointer (some ⟨g,0,none⟩))/\Below w.heap.size w (w1.alloc (.cells #[ptr S.P.p,.int .i64 (p.fac:Int),.int .i64 (p.at_:Int)] 302))/\TblC S p g (w1.alloc (.cells #[ptr S.P.p,.int .i64 (p.fac:Int),.int .i64 (p.at_:Int)] 302))/\w.heap.size<=g)):=fun w1 hb=>by
  refine⟨w1.heap.size,rfl,hb.alloc hb.size _,fun j v hj=>⟨w1.heap.size,rfl,fun hk=>?_,by simp,?_⟩,hb.size⟩
  ·have:=hs.lt hk;have:=hb.size;omega
  ·exact (Cells.new w1 302 [ptr S.P.p,.int .i64 (p.fac:Int),.int .i64 (p.at_:Int)]).cell j v hj
 unfold ptr at HF;clear hs ok hu hm Gl D4;go_enter func161,ntmps161;go_wp2_with fail;refine kh.mono ?_;rintro r w1 ⟨rfl,hb⟩;have HX:=Q0a (HF.out w1 hb);clear hb kh;go_wp2_with fail
 first|exact HX.out|(go_ret;exact HX.out)
structure FO where
 f:Nat
 m:Nat
 o:Nat
 N:List (En Nd)
 next:Int
 kr:Int->RV
def Nd.cells (n:Nd) (rv:RV):List Value:=[.int .i64 n.sp,.int .i64 n.sl,.int .i64 n.par,lvOf rv n.ks.length]
def ndH (kr:Int->RV) (e:En Nd):HL:=(e.b,isC 287 (e.q.cells (kr e.id)))::rowH (kr e.id) 3 1 (e.q.ks.map encI)
def okv (N:List (En Nd)):SKV:=N.map fun e=>((e.q.sp,e.q.sl),.int .i64 e.id)
def isMS (kv:SKV):Obj->Prop:=isM (kv.map fun q=>(Q2u q.1,q.2))
def FO.head (q:FO):Nat×(Obj->Prop):=(q.f,isC 282 [.map (some q.m),.map (some q.o),.int .i64 q.next])
def FO.hl (q:FO):HL:=q.head::(q.m,isMI (kvs q.N))::(q.o,isMS (okv q.N))::q.N.flatMap (ndH q.kr)
structure FO.Ok (q:FO):Prop where
 n:NOk q.N q.next
 lim:q.next<1099511627776
 rv:∀e∈q.N,rvOk (q.kr e.id) e.q.ks.length
 few:q.N.length<=65536
theorem Z0A:WideMaps.KeyLaw prog 46:=deep_law (m:=2) (by omega) (by kernel_rfl) (by kernel_rfl) (by kernel_rfl)
theorem Q3o {p:Int×Int} (h1:0<=p.1) (h2:p.1<9223372036854775808) (h3:0<=p.2) (h4:p.2<9223372036854775808):Q1J prog 46 p:=by
 have hu:=underlying46;have hi:=underlying3;have hk:prog.keyType 46=true:=by kernel_rfl
 have hc:prog.cellsOf 46=2:=by kernel_rfl
 have Cd:prog.cellsOf 3=1:=by kernel_rfl
 obtain⟨m,hm⟩:∃m,prog.types.size=m+1:=⟨prog.types.size-1,by
  have:0<prog.types.size:=of_decide_eq_true (by kernel_rfl);omega⟩
 have e1:IntKind.i64.min = -9223372036854775808:=rfl;have e2:IntKind.i64.max=9223372036854775807:=rfl;have wa:(Lit.int .i64 p.1).wf=true:=by
  simp only [Lit.wf,J2g,decide_eq_true_eq,e1,e2];omega
 have wb:(Lit.int .i64 p.2).wf=true:=by
  simp only [Lit.wf,J2g,decide_eq_true_eq,e1,e2];omega
 unfold Q1J Q2u keyOf;simp only [hu];rw [if_pos (by simp [hk,Value.formed,hu,hc]),hm];unfold Program.keyLits;simp only [hu,Value.cells];rw [if_pos (by simp [hc])];exact⟨_,by simp [Program.keyLits,hi,wa,wb,Cd];rfl⟩
section
variable {w:World} {q:FO}
theorem FO.c (h:Sep w q.hl):Cells w q.f 282 [.map (some q.m),.map (some q.o),.int .i64 q.next]:=h.cells (by simp [FO.hl,FO.head])
theorem FO.c0 (h:Sep w q.hl):w.cell? ⟨q.f,0,none⟩=some (.map (some q.m)):=(FO.c h).cell 0 _ rfl
theorem FO.c1 (h:Sep w q.hl):w.cell? ⟨q.f,1,none⟩=some (.map (some q.o)):=(FO.c h).cell 1 _ rfl
theorem FO.c2 (h:Sep w q.hl):w.cell? ⟨q.f,2,none⟩=some (.int .i64 q.next):=(FO.c h).cell 2 _ rfl
theorem FO.map (h:Sep w q.hl):Q0E w q.m (kvs q.N):=h.map (by simp [FO.hl,isMI])
theorem FO.omap (h:Sep w q.hl):Q3l w q.o (okv q.N):=h.map (by simp [FO.hl,isMS])
theorem FO.nd (h:Sep w q.hl) {id:Int} {e:En Nd} (hf:find q.N id=some e):Cells w e.b 287 (e.q.cells (q.kr e.id)):=
 h.cells (by
  simp only [FO.hl,J1Q];exact .inr (.inr (.inr (J2l.2 ⟨e,(Q0b hf).1,by simp [ndH]⟩))))
theorem Z1M (ok:q.Ok):(okv q.N).Pairwise (fun a b=>a.1≠b.1):=by
 unfold okv;rw [J2q];exact ok.n.spots
theorem Z1N (ok:q.Ok):∀p∈okv q.N,Q1J prog 46 p.1:=fun p hp=>by
 obtain⟨e,he,rfl⟩:=J1R.1 hp;have:=ok.n.sm e he;exact Q3o (by show 0<=e.q.sp;omega) (by show e.q.sp<_;omega) (by show 0<=e.q.sl;omega) (by show e.q.sl<_;omega)
end
def ownN (N:List (En Nd)) (sp sl:Int):Int:=match N.find? fun e=>decide ((e.q.sp,e.q.sl)=(sp,sl)) with
 | some e=>e.id
 | none=>0
theorem Z6e (N:List (En Nd)) (sp sl:Int):(Q3P (okv N) (sp,sl)).getD (.int .i64 0)=.int .i64 (ownN N sp sl):=by
 unfold Q3P okv ownN;rw [List.find?_map];cases h:List.find? ((fun q=>decide (q.1=(sp,sl))) ∘ fun (e:En Nd)=>((e.q.sp,e.q.sl),Value.int .i64 e.id)) N with
 | none =>
  have:N.find? (fun e=>decide ((e.q.sp,e.q.sl)=(sp,sl)))=none:=h;rw [this];rfl
 | some e =>
  have:N.find? (fun e=>decide ((e.q.sp,e.q.sl)=(sp,sl)))=some e:=h;rw [this];rfl
theorem Q0J {N:List (En Nd)} {next:Int} (ok:NOk N next) {e:En Nd} (he:e∈N):ownN N e.q.sp e.q.sl=e.id:=by
 unfold ownN;cases h:N.find? fun x=>decide ((x.q.sp,x.q.sl)=(e.q.sp,e.q.sl)) with
 | none =>
  have:=J3F.1 h e he;simp at this
 | some x =>
  have hx:=J5Y h;have hp:=J5Z h;simp only [decide_eq_true_eq] at hp;simp only [Prod.mk.injEq] at hp;rw [Q2v ok hx he hp.1 hp.2]
theorem Q1k {N:List (En Nd)} {next:Int} (ok:NOk N next) {sp sl:Int}:ownN N sp sl=0↔∀e∈N,(e.q.sp,e.q.sl)≠(sp,sl):=by
 unfold ownN;cases h:N.find? fun x=>decide ((x.q.sp,x.q.sl)=(sp,sl)) with
 | none =>
  simp only [true_iff];intro e he hc;have:=J3F.1 h e he;exact this (by simpa using hc)
 | some x =>
  have hx:=J5Y h;have hp:=J5Z h;simp only [decide_eq_true_eq] at hp;have:=ok.rng x hx
  constructor
  ·intro h0;have Dd:x.id=0:=h0;omega
  ·intro AP;exact absurd hp (AP x hx)
section
variable {w:World} {q:FO}
theorem Q9d (w:World):(zeroValue 284).run prog w=.ok (.pointer none) w:=by kernel_rfl
theorem FO.look_some (h:Sep w q.hl) {id:Int} {e:En Nd} (hf:find q.N id=some e) :
  (Instr.lookup 279 (.map (some q.m)) (.int .i64 id) false).run prog w=.ok (.pointer (some ⟨e.b,0,none⟩)) w:=by
 rw [Q1i (FO.map h) id false (.pointer none) underlying279 underlying3 (Q9d w)];simp [Q5B,hf,ptr]
theorem FO.look_none (h:Sep w q.hl) {id:Int} (hf:find q.N id=none) :
  (Instr.lookup 279 (.map (some q.m)) (.int .i64 id) false).run prog w=.ok (.pointer none) w:=by
 rw [Q1i (FO.map h) id false (.pointer none) underlying279 underlying3 (Q9d w)];simp [Q5B,hf]
theorem FO.look_own (h:Sep w q.hl) (ok:q.Ok) {sp sl:Int} (hp:Q1J prog 46 (sp,sl)) :
  (Instr.lookup 280 (.map (some q.o)) (.agg #[.int .i64 sp,.int .i64 sl]) false).run prog w=.ok (.int .i64 (ownN q.N sp sl)) w:=by
 have:=Q6j (FO.omap h) Z0A (Z1M ok) (Z1N ok) hp false (.int .i64 0) underlying280 (Z1l w);rw [Z6e] at this;exact this
theorem Q2S (h:Sep w q.hl) {id:Int} {e:En Nd} (hf:find q.N id=some e) :
  Calls prog 162 #[.pointer (some ⟨q.f,0,none⟩),.int .i64 id] w fun r w'=>r=.returned (.pointer (some ⟨e.b,0,none⟩))/\w=w':=by
 have h0:=FO.c0 h;have hl:=FO.look_some h hf;clear h hf;go_enter func162,ntmps162
 go_wp2
 go_ret;exact⟨rfl,rfl⟩
theorem Q4L (h:Sep w q.hl) {id:Int} (hf:find q.N id=none) :
  Calls prog 162 #[.pointer (some ⟨q.f,0,none⟩),.int .i64 id] w fun r w'=>r=.returned (.pointer none)/\w=w':=by
 have h0:=FO.c0 h;have hl:=FO.look_none h hf;clear h hf;go_enter func162,ntmps162
 go_wp2
 go_ret;exact⟨rfl,rfl⟩
theorem Q4M (h:Sep w q.hl) (ok:q.Ok) {sp sl:Int} (hp:Q1J prog 46 (sp,sl)) :
  Calls prog 88 #[.pointer (some ⟨q.f,0,none⟩),.int .i64 sp,.int .i64 sl] w fun r w'=>r=.returned (.int .i64 (ownN q.N sp sl))/\w=w':=by
 have h1:=FO.c1 h;have hl:=FO.look_own h ok hp;clear h hp ok;generalize ownN q.N sp sl=z at *
 go_enter func88,ntmps88
 go_wp2
 go_ret;exact⟨rfl,rfl⟩
theorem FO.nd0 (h:Sep w q.hl) {id:Int} {e:En Nd} (hf:find q.N id=some e):w.cell? ⟨e.b,0,none⟩=some (.int .i64 e.q.sp)/\w.cell? ⟨e.b,1,none⟩=some (.int .i64 e.q.sl)/\w.cell? ⟨e.b,2,none⟩=some (.int .i64 e.q.par)/\w.cell? ⟨e.b,3,none⟩=some (lvOf (q.kr e.id) e.q.ks.length):=by
 have k:=FO.nd h hf;exact⟨k.cell 0 _ rfl,k.cell 1 _ rfl,k.cell 2 _ rfl,k.cell 3 _ rfl⟩
theorem Q9e (h:Sep w q.hl) {id:Int} {e:En Nd} (hf:find q.N id=some e) :
  Calls prog 87 #[.pointer (some ⟨q.f,0,none⟩),.int .i64 id] w fun r w'=>r=.returned (.int .i64 e.q.par)/\w=w':=by
 have k:=Q2S h hf;obtain⟨c0,c1,c2,-⟩:=FO.nd0 h hf;clear h hf;go_enter func87,ntmps87;go_wp2_with (go_at_call 162;refine k.mono ?_;rintro e w' ⟨rfl,rfl⟩);go_ret;exact⟨rfl,rfl⟩
theorem Q9f (h:Sep w q.hl) {id:Int} (hf:find q.N id=none) :
  Calls prog 87 #[.pointer (some ⟨q.f,0,none⟩),.int .i64 id] w fun r w'=>r=.returned (.int .i64 0)/\w=w':=by
 have k:=Q4L h hf;clear h hf;go_enter func87,ntmps87;go_wp2_with (go_at_call 162;refine k.mono ?_;rintro e w' ⟨rfl,rfl⟩);go_ret;exact⟨rfl,rfl⟩
theorem Q6p (h:Sep w q.hl) {id:Int} (hf:find q.N id=none) :
  Calls prog 86 #[.pointer (some ⟨q.f,0,none⟩),.int .i64 id] w fun r w'=>r=.returned (.tuple #[.int .i64 0,.int .i64 0,.bool false])/\w=w':=by
 have k:=Q4L h hf;clear h hf;go_enter func86,ntmps86;go_wp2_with (go_at_call 162;refine k.mono ?_;rintro e w' ⟨rfl,rfl⟩)
 go_ret3
 exact⟨rfl,rfl⟩
theorem Q6q (h:Sep w q.hl) {id:Int} {e:En Nd} (hf:find q.N id=some e) :
  Calls prog 86 #[.pointer (some ⟨q.f,0,none⟩),.int .i64 id] w fun r w'=>r=.returned (.tuple #[.int .i64 e.q.sp,.int .i64 e.q.sl,.bool true])/\Below w.heap.size w w':=by
 have k:=Q2S h hf;obtain⟨c0,c1,c2,-⟩:=FO.nd0 h hf;have hb:∀m,Below w.heap.size w (w.drewN m):=fun m=>by first|exact (Below.refl _ _).drewN|exact Below.drewN (Below.refl _ _)|exact⟨rfl,rfl,rfl,J1L _,fun _ _=>rfl⟩
 clear h hf;go_enter func86,ntmps86;go_wp2_with (go_at_call 162;refine k.mono ?_;rintro e w' ⟨rfl,rfl⟩)
 go_quiet (fail)
 go_wp2
 go_ret3
 exact⟨rfl,by first|exact hb _|exact (Below.refl _ _).drew⟩
end
theorem Z8t (f:En Nd->Nd) (N:List (En Nd)):kvs (mapE f N)=kvs N:=by
 unfold kvs mapE;rw [J3U];rfl
theorem Z8u {f:En Nd->Nd} {N:List (En Nd)} (h:∀c∈N,(f c).sp=c.q.sp/\(f c).sl=c.q.sl):okv (mapE f N)=okv N:=by
 unfold okv mapE;rw [J3U];exact J3V fun c hc=>by simp [(h c hc).1,(h c hc).2]
def FO.setN (q:FO) (id:Int) (n:Nd) (rv:RV):FO:={q with N:=mapE (fun c=>if c.id=id then n else c.q) q.N,kr:=fun j=>if j=id then rv else q.kr j}
theorem FO.split {q:FO} (Ae:q.N.Pairwise (fun a b=>a.id≠b.id)) {id:Int} {e:En Nd} (hf:find q.N id=some e) :
  ∃R:HL,q.hl.Perm (((e.b,isC 287 (e.q.cells (q.kr id)))::rowH (q.kr id) 3 1 (e.q.ks.map encI))++R)/\∀(n:Nd) (rv:RV),n.sp=e.q.sp->n.sl=e.q.sl ->
   (q.setN id n rv).hl.Perm (((e.b,isC 287 (n.cells rv))::rowH rv 3 1 (n.ks.map encI))++R):=by
 obtain⟨he,hid⟩:=Q0b hf;obtain⟨A,B,hN⟩:=J5R he;have hA:∀c∈A,c.id≠id:=fun c hc=>by
  rw [hN,J2z] at Ae;have:=Ae.2.2 c hc e (by simp);rw [hid] at this;exact this
 have hB:∀c∈B,c.id≠id:=fun c hc=>by
  rw [hN,J2z,J2m] at Ae;have:=Ae.2.1.1 c hc;rw [hid] at this;exact this.symm
 have mid:∀(X Y:HL) (h1 h2 h3:Nat×(Obj->Prop)) (Z:HL),(h1::h2::h3::(X++(Z++Y))).Perm (Z++(h1::h2::h3::(X++Y))):=fun X Y h1 h2 h3 Z=>by
  have e1:h1::h2::h3::(X++(Z++Y))=(h1::h2::h3::X)++(Z++Y):=by simp
  have e2:Z++(h1::h2::h3::(X++Y))=Z++((h1::h2::h3::X)++Y):=by simp
  rw [e1,e2,<- J2M,<- J2M];exact J4y Y J4z
 refine⟨q.head::(q.m,isMI (kvs q.N))::(q.o,isMS (okv q.N))::(A.flatMap (ndH q.kr)++B.flatMap (ndH q.kr)),?_,fun n rv h1 h2=>?_⟩
 ·unfold FO.hl;have:q.N.flatMap (ndH q.kr)=A.flatMap (ndH q.kr)++(ndH q.kr e++B.flatMap (ndH q.kr)):=by
   conv=>lhs;rw [hN]
   simp
  rw [this];refine (mid _ _ _ _ _ _).trans ?_;unfold ndH;rw [hid]
 ·have e1:kvs (q.setN id n rv).N=kvs q.N:=Z8t _ _;have e2:okv (q.setN id n rv).N=okv q.N:=Z8u fun c hc=>by
   by_cases h:c.id=id
   ·rw [if_pos h];have:c=e:=by
     have:=Q0g Ae hc;rw [h,hf] at this;cases this;rfl
    subst this;exact⟨h1,h2⟩
   ·rw [if_neg h];exact⟨rfl,rfl⟩
  have e3:∀L:List (En Nd),(∀c∈L,c.id≠id)->(mapE (fun c=>if c.id=id then n else c.q) L).flatMap (ndH (q.setN id n rv).kr)=L.flatMap (ndH q.kr):=fun L hL=>by
   rw [Z0u (fun c hc=>if_neg (hL c hc))];unfold List.flatMap;congr 1;exact J3V fun c hc=>by
    unfold ndH FO.setN;simp only [if_neg (hL c hc)]
  have e4:(q.setN id n rv).N.flatMap (ndH (q.setN id n rv).kr)=A.flatMap (ndH q.kr)++(((e.b,isC 287 (n.cells rv))::rowH rv 3 1 (n.ks.map encI))++B.flatMap (ndH q.kr)):=by
   have:(q.setN id n rv).N=mapE (fun c=>if c.id=id then n else c.q) A++({e with q:=n}::mapE (fun c=>if c.id=id then n else c.q) B):=by
    show mapE _ q.N=_
    conv=>lhs;rw [hN]
    unfold mapE;have Ps:(fun c:En Nd=>if c.id=id then n else c.q) e=n:=if_pos hid;rw [J5p,J1O,Ps]
   rw [this,J2t,J2i,e3 A hA,e3 B hB];congr 2;unfold ndH FO.setN;simp only [hid,if_true]
  unfold FO.hl;rw [e1,e2,e4];exact mid _ _ _ _ _ _
def FO.app (q:FO) (b:Nat) (n:Nd):FO:={q with N:=q.N++[⟨q.next+1,b,n⟩],next:=q.next+1,kr:=fun j=>if j=q.next+1 then none else q.kr j}
theorem FO.new_none {q:FO} (ok:q.Ok):find q.N (q.next+1)=none:=by
 cases hf:find q.N (q.next+1) with
 | none=>rfl
 | some e =>
  obtain⟨e1,e2⟩:=Q0b hf;have:=ok.n.rng e e1;omega
theorem FO.appSteps {w:World} {q:FO} (h:Sep w q.hl) (ok:q.Ok) {sp sl par:Int} (hp:Q1J prog 46 (sp,sl)) (Aq:ownN q.N sp sl=0) (W1 W2:World) (hW1:W1=(w.setCell ⟨q.f,2,none⟩ (.int .i64 (q.next+1))).drew) (hW2:W2=W1.alloc (.cells #[.int .i64 sp,.int .i64 sl,.int .i64 par,.slice none 0 0] 287)) :
  ∃w3 w4,(Instr.mapUpdate 279 (.map (some q.m)) (.int .i64 (q.next+1)) (.pointer (some ⟨w.heap.size,0,none⟩))).run prog W2=.ok () w3 /\
   (Instr.mapUpdate 280 (.map (some q.o)) (.agg #[.int .i64 sp,.int .i64 sl]) (.int .i64 (q.next+1))).run prog w3.drew=.ok () w4 /\
   Step q.hl (q.app w.heap.size ⟨sp,sl,par,[]⟩).hl w w4 /\
   w3.cell? ⟨q.f,0,none⟩=some (.map (some q.m))/\w3.cell? ⟨q.f,1,none⟩=some (.map (some q.o))/\w3.cell? ⟨q.f,2,none⟩=some (.int .i64 (q.next+1)) /\
   W1.cell? ⟨q.f,0,none⟩=some (.map (some q.m))/\W1.cell? ⟨q.f,2,none⟩=some (.int .i64 (q.next+1)) /\
   W2.cell? ⟨q.f,0,none⟩=some (.map (some q.m))/\W2.cell? ⟨q.f,2,none⟩=some (.int .i64 (q.next+1)) /\
   (∀b i v,b∉keys q.hl->b<w.heap.size->w.cell? ⟨b,i,none⟩=some v->w3.cell? ⟨b,i,none⟩=some v/\w4.cell? ⟨b,i,none⟩=some v):=by
 have s1:Step q.hl ((q.f,isC 282 [.map (some q.m),.map (some q.o),.int .i64 (q.next+1)])::(q.m,isMI (kvs q.N))::(q.o,isMS (okv q.N))::q.N.flatMap (ndH q.kr)) w (w.setCell ⟨q.f,2,none⟩ (.int .i64 (q.next+1))):=Sep.set (A:=[]) (B:=(q.m,isMI (kvs q.N))::(q.o,isMS (okv q.N))::q.N.flatMap (ndH q.kr)) h 2 (.int .i64 (q.next+1));have s1d:=s1.drew;rw [<- hW1] at s1d;have Bv:W1.heap.size=w.heap.size:=by rw [hW1];simp [World.setCell,World.drew]
 have s2:=s1d.sep.new 287 [.int .i64 sp,.int .i64 sl,.int .i64 par,.slice none 0 0];rw [Bv] at s2;have s2':Step _ _ W1 W2:=hW2 ▸ s2;have m2:Q0E W2 q.m (kvs q.N):=s2'.sep.map (by simp [isMI]);obtain⟨w3,r3,m3,g3⟩:=Q1y m2 (q.next+1) (.pointer (some ⟨w.heap.size,0,none⟩)) underlying279 underlying3;obtain⟨es,Ai,ho,hr⟩:=m3;have s3:=Sep.turn (A:=[(w.heap.size,isC 287 [.int .i64 sp,.int .i64 sl,.int .i64 par,.slice none 0 0]),(q.f,isC 282 [.map (some q.m),.map (some q.o),.int .i64 (q.next+1)])]) (B:=(q.o,isMS (okv q.N))::q.N.flatMap (ndH q.kr)) (q':=isMI (put (kvs q.N) (q.next+1) (ptr w.heap.size))) s2'.sep g3 ⟨_,ho,es,Ai,rfl,hr⟩
 have s3d:=s3.drew;have m3':Q3l w3.drew q.o (okv q.N):=s3d.sep.map (by simp [isMS]);have Ei:Q3P (okv q.N) (sp,sl)=none:=by
  cases hl:Q3P (okv q.N) (sp,sl) with
  | none=>rfl
  | some v =>
   exfalso;unfold Q3P okv at hl;obtain⟨a,ha,_⟩:=J5J.1 hl;have h1:=J5Y ha;have h2:=J5Z ha;obtain⟨c,hc,rfl⟩:=J1R.1 h1;exact (Q1k ok.n).1 Aq c hc (by simpa using h2)
 obtain⟨w4,r4,m4,g4⟩:=Q4F m3' Z0A (Z1M ok) (Z1N ok) hp (.int .i64 (q.next+1)) Ei underlying280;obtain⟨es4,EF,Ou,KP⟩:=m4;have s4:=Sep.turn (A:=[(w.heap.size,isC 287 [.int .i64 sp,.int .i64 sl,.int .i64 par,.slice none 0 0]),(q.f,isC 282 [.map (some q.m),.map (some q.o),.int .i64 (q.next+1)]),(q.m,isMI (put (kvs q.N) (q.next+1) (ptr w.heap.size)))]) (B:=q.N.flatMap (ndH q.kr)) (q':=isMS (okv q.N++[((sp,sl),.int .i64 (q.next+1))])) s3d.sep g4 ⟨_,Ou,es4,EF,rfl,KP⟩;have t4:=((s1d.trans s2').trans s3d).trans s4;have t3:=(s1d.trans s2').trans s3;refine⟨w3,w4,r3,r4,?_,?_,?_,?_,?_,?_,?_,?_,fun b i v hb Ab hc=>?_⟩
 ·refine t4.perm (J5f _) ?_;have e1:kvs (q.N++[⟨q.next+1,w.heap.size,⟨sp,sl,par,[]⟩⟩])=put (kvs q.N) (q.next+1) (ptr w.heap.size):=(Z4k q.N (q.next+1) w.heap.size _ (FO.new_none ok)).symm;have e2:okv (q.N++[⟨q.next+1,w.heap.size,⟨sp,sl,par,[]⟩⟩])=okv q.N++[((sp,sl),.int .i64 (q.next+1))]:=by
   unfold okv;rw [J5p];rfl
  have e3:(q.N++[(⟨q.next+1,w.heap.size,⟨sp,sl,par,[]⟩⟩:En Nd)]).flatMap (ndH (q.app w.heap.size ⟨sp,sl,par,[]⟩).kr)=q.N.flatMap (ndH q.kr)++[(w.heap.size,isC 287 [.int .i64 sp,.int .i64 sl,.int .i64 par,.slice none 0 0])]:=by
   have a1:q.N.flatMap (ndH (q.app w.heap.size ⟨sp,sl,par,[]⟩).kr)=q.N.flatMap (ndH q.kr):=by
    rw [J5S,J5S];refine congrArg List.flatten (J3V fun c hc=>?_);have:=ok.n.rng c hc;have hk:(q.app w.heap.size ⟨sp,sl,par,[]⟩).kr c.id=q.kr c.id:=if_neg (by omega);unfold ndH;rw [hk]
   have a2:[(⟨q.next+1,w.heap.size,⟨sp,sl,par,[]⟩⟩:En Nd)].flatMap (ndH (q.app w.heap.size ⟨sp,sl,par,[]⟩).kr)=[(w.heap.size,isC 287 [.int .i64 sp,.int .i64 sl,.int .i64 par,.slice none 0 0])]:=by
    have hk:(q.app w.heap.size ⟨sp,sl,par,[]⟩).kr (q.next+1)=none:=if_pos rfl;rw [J2i,J5O,J3S];unfold ndH;rw [hk];rfl
   rw [J2t,a1,a2]
  unfold FO.hl FO.head;show List.Perm _ ((q.f,_)::(q.m,isMI (kvs (q.N++[_])))::(q.o,isMS (okv (q.N++[_])))::(q.N++[_]).flatMap _);rw [e1,e2,e3];exact (J5s _ ((q.f,isC 282 [.map (some q.m),.map (some q.o),.int .i64 (q.next+1)])::(q.m,isMI (put (kvs q.N) (q.next+1) (ptr w.heap.size)))::(q.o,isMS (okv q.N++[((sp,sl),.int .i64 (q.next+1))]))::q.N.flatMap (ndH q.kr))).symm
 ·exact (s3.sep.cells (b:=q.f) (T:=282) (cs:=[.map (some q.m),.map (some q.o),.int .i64 (q.next+1)]) (by simp)).cell 0 _ rfl
 ·exact (s3.sep.cells (b:=q.f) (T:=282) (cs:=[.map (some q.m),.map (some q.o),.int .i64 (q.next+1)]) (by simp)).cell 1 _ rfl
 ·exact (s3.sep.cells (b:=q.f) (T:=282) (cs:=[.map (some q.m),.map (some q.o),.int .i64 (q.next+1)]) (by simp)).cell 2 _ rfl
 ·exact (s1d.sep.cells (b:=q.f) (T:=282) (cs:=[.map (some q.m),.map (some q.o),.int .i64 (q.next+1)]) (by simp)).cell 0 _ rfl
 ·exact (s1d.sep.cells (b:=q.f) (T:=282) (cs:=[.map (some q.m),.map (some q.o),.int .i64 (q.next+1)]) (by simp)).cell 2 _ rfl
 ·exact (s2'.sep.cells (b:=q.f) (T:=282) (cs:=[.map (some q.m),.map (some q.o),.int .i64 (q.next+1)]) (by simp)).cell 0 _ rfl
 ·exact (s2'.sep.cells (b:=q.f) (T:=282) (cs:=[.map (some q.m),.map (some q.o),.int .i64 (q.next+1)]) (by simp)).cell 2 _ rfl
 ·exact⟨(World.cell?_of_block (t3.chg.block b Ab hb)).trans hc,(World.cell?_of_block (t4.chg.block b Ab hb)).trans hc⟩
theorem Z8v {w:World} {H:HL} {rv:RV} {l:List Int} (h:Sep w (rowH rv 3 1 (l.map encI)++H)) (Bi:rvOk rv l.length) (hl:l.length<=65536) (x:Int) (ty:TypeId) :
  ∃rv' w',(Builtin.append_ #[36,36] ty #[lvOf rv l.length,.slice (some ⟨w.heap.size,0,none⟩) 1 1]).run prog (w.alloc (.cells #[.int .i64 x] 3))=.ok (lvOf rv' (l.length+1)) w'/\rvOk rv' (l.length+1)/\Step (rowH rv 3 1 (l.map encI)++H) (rowH rv' 3 1 ((l++[x]).map encI)++H) w w':=by
 obtain⟨i0,hi,BN,Bh,Bf⟩:=info_parts Z0x;have ha:=h.alloc (.cells #[.int .i64 x] 3);have Ag:=Q7E ha.left Bi (by rw [J3v,J2S]);obtain⟨v',w',hr,q1,q2,_,q4⟩:=run_append_own_at (P:=prog) (w.alloc (.cells #[.int .i64 x] 3)) 0 36 ty 3 i0 (.int .i64 0) 1 8 underlying36 hi BN Bh Bf rfl (by decide) (lvOf rv l.length) l.length (l.map encI) Ag ⟨w.heap.size,0,none⟩ 1 1 [.int .i64 x] rfl (by
  intro j u hj;have:=(Cells.new w 3 [.int .i64 x]).cell j u hj;have e:(⟨w.heap.size,0,none⟩:Addr).add j=⟨w.heap.size,j,none⟩:=by unfold Addr.add;split <;> simp_all
  rw [e];exact this) (fun u hu=>by rw [J3T.1 hu];rfl) (by unfold maxLen;omega) (by omega) (J3O _)
 obtain⟨rv',rfl,e2,e3⟩:=Q2l (A:=[]) (B:=H) (by simpa using ha) q1 q2 q4;refine⟨rv',w',hr,e2,?_⟩;rw [J5p];have e4:Step (rowH rv 3 1 (l.map encI)++H) (rowH rv' 3 1 (l.map encI++[encI x])++H) (w.alloc (.cells #[.int .i64 x] 3)) w':=by simpa using e3
 exact e4.from_alloc
theorem FO.pushK {w:World} {q:FO} (h:Sep w q.hl) (Ae:q.N.Pairwise (fun a b=>a.id≠b.id)) {id:Int} {e:En Nd} (hf:find q.N id=some e) (AO:rvOk (q.kr id) e.q.ks.length) (hl:e.q.ks.length<=65536) (x:Int) (ty:TypeId) :
  ∃rv' w',(Builtin.append_ #[36,36] ty #[lvOf (q.kr id) e.q.ks.length,.slice (some ⟨w.heap.size,0,none⟩) 1 1]).run prog (w.alloc (.cells #[.int .i64 x] 3))=.ok (lvOf rv' (e.q.ks.length+1)) w'/\rvOk rv' (e.q.ks.length+1) /\
   w'.cell? ⟨e.b,3,none⟩=some (lvOf (q.kr id) e.q.ks.length)/\(∀i,w'.frozen? ⟨e.b,i,none⟩=false)/\Step q.hl (q.setN id {e.q with ks:=e.q.ks++[x]} rv').hl w (w'.setCell ⟨e.b,3,none⟩ (lvOf rv' (e.q.ks.length+1))):=by
 obtain⟨R,p1,p2⟩:=FO.split Ae hf;have pm:∀(Z:HL) (a:Nat×(Obj->Prop)),((a::Z)++R).Perm (Z++(a::R)):=fun Z a=>J5q.symm
 have h':Sep w (rowH (q.kr id) 3 1 (e.q.ks.map encI)++((e.b,isC 287 (e.q.cells (q.kr id)))::R)):=h.perm (p1.trans (pm _ _));obtain⟨rv',w',r1,r2,st⟩:=Z8v h' AO hl x ty;have hc:=st.sep.cells (b:=e.b) (T:=287) (cs:=e.q.cells (q.kr id)) (by simp);have s2:=Sep.set (A:=rowH rv' 3 1 ((e.q.ks++[x]).map encI)) (B:=R) st.sep 3 (lvOf rv' (e.q.ks.length+1));refine⟨rv',w',r1,r2,hc.cell 3 _ rfl,hc.free,(st.trans s2).perm ((p1.trans (pm _ _)).symm) ?_⟩;have AK:(e.q.cells (q.kr id)).set 3 (lvOf rv' (e.q.ks.length+1))=Nd.cells {e.q with ks:=e.q.ks++[x]} rv':=by
  unfold Nd.cells;simp
 rw [AK];exact ((p2 {e.q with ks:=e.q.ks++[x]} rv' rfl rfl).trans (pm _ _)).symm
theorem NOk.kids_few {N:List (En Nd)} {next:Int} (ok:NOk N next) {e:En Nd} (he:e∈N):e.q.ks.length<=N.length:=by
 have:=J6a (ok.nd e he) (l₂:=N.map En.id) (fun k hk=>by
  obtain⟨c,hc,_⟩:=ok.kids e he k hk;obtain⟨c1,c2⟩:=Q0b hc;exact J1R.2 ⟨c,c1,c2⟩)
 rwa [J3v] at this
theorem Z6f {w:World} {q:FO} (h:Sep w q.hl) (ok:q.Ok) {sp sl:Int} (hp:Q1J prog 46 (sp,sl)) (Aq:ownN q.N sp sl=0) :
  Calls prog 79 #[.pointer (some ⟨q.f,0,none⟩),.int .i64 0,.int .i64 sp,.int .i64 sl] w fun r w'=>r=.returned (.tuple #[.int .i64 (q.next+1),.int .i64 0])/\Step q.hl (q.app (w.heap.size+1) ⟨sp,sl,0,[]⟩).hl w w':=by
 have ka:=Q4L h ok.n.zero;have h0:=(h.alloc (.cells #[.int .i64 sp,.int .i64 sl] 46)).drew;have hl:=FO.look_own h0 ok hp;rw [Aq] at hl;have c0:=FO.c0 h;have c1:=FO.c1 h;have c2:=FO.c2 h;have d0:=FO.c0 h0;have d1:=FO.c1 h0;have d2:=FO.c2 h0;have hb:=Cells.new w 46 [.int .i64 sp,.int .i64 sl];obtain⟨w3,w4,r3,r4,st,f0,f1,f2,g0,g2,n0,n2,keep⟩:=FO.appSteps (par:=0) h0 ok hp Aq _ _ rfl rfl;have Bv:(w.alloc (.cells #[.int .i64 sp,.int .i64 sl] 46)).drew.heap.size=w.heap.size+1:=by simp [World.drew]
 have Fg:w.heap.size∉keys q.hl:=fun hk=>by have:=h.lt hk;omega
 have b0:(w.alloc (.cells #[.int .i64 sp,.int .i64 sl] 46)).drew.cell? ⟨w.heap.size,0,none⟩=some (.int .i64 sp):=hb.cell 0 _ rfl;have b1:(w.alloc (.cells #[.int .i64 sp,.int .i64 sl] 46)).drew.cell? ⟨w.heap.size,1,none⟩=some (.int .i64 sl):=hb.cell 1 _ rfl;have e0:=keep w.heap.size 0 _ Fg (by omega) b0;have e1:=keep w.heap.size 1 _ Fg (by omega) b1;rw [Bv] at r3 st;have HS:Hid (Step q.hl (q.app (w.heap.size+1) ⟨sp,sl,0,[]⟩).hl w w4):=st.from_drew.from_alloc;have Av:∀i,(w.alloc (.cells #[.int .i64 sp,.int .i64 sl] 46)).drew.frozen? ⟨q.f,i,none⟩=false:=(FO.c h0).free;have Bw:q.next+1<1099511627777:=by have:=ok.lim;omega
 have ME:=ok.n.next0;have f2':=FO.c2 st.sep;have f2'':w4.cell? ⟨q.f,2,none⟩=some (.int .i64 (q.next+1)):=f2';obtain⟨e00,_⟩:=e0;obtain⟨e10,_⟩:=e1;have x0:(w.alloc (.cells #[.int .i64 sp,.int .i64 sl] 46)).cell? ⟨q.f,0,none⟩=some (.map (some q.m)):=d0;have x1:(w.alloc (.cells #[.int .i64 sp,.int .i64 sl] 46)).cell? ⟨q.f,1,none⟩=some (.map (some q.o)):=d1;have x2:(w.alloc (.cells #[.int .i64 sp,.int .i64 sl] 46)).cell? ⟨q.f,2,none⟩=some (.int .i64 q.next):=d2;have xb0:(w.alloc (.cells #[.int .i64 sp,.int .i64 sl] 46)).cell? ⟨w.heap.size,0,none⟩=some (.int .i64 sp):=b0;have xb1:(w.alloc (.cells #[.int .i64 sp,.int .i64 sl] 46)).cell? ⟨w.heap.size,1,none⟩=some (.int .i64 sl):=b1
 have xf:∀i,(w.alloc (.cells #[.int .i64 sp,.int .i64 sl] 46)).frozen? ⟨q.f,i,none⟩=false:=Av;have y0:((w.alloc (.cells #[.int .i64 sp,.int .i64 sl] 46)).setCell ⟨q.f,2,none⟩ (.int .i64 (q.next+1))).cell? ⟨q.f,0,none⟩=some (.map (some q.m)):=g0;have y2:((w.alloc (.cells #[.int .i64 sp,.int .i64 sl] 46)).setCell ⟨q.f,2,none⟩ (.int .i64 (q.next+1))).cell? ⟨q.f,2,none⟩=some (.int .i64 (q.next+1)):=g2;have z0:(((w.alloc (.cells #[.int .i64 sp,.int .i64 sl] 46)).setCell ⟨q.f,2,none⟩ (.int .i64 (q.next+1))).alloc (.cells #[.int .i64 sp,.int .i64 sl,.int .i64 0,.slice none 0 0] 287)).cell? ⟨q.f,0,none⟩=some (.map (some q.m)):=n0
 have z2:(((w.alloc (.cells #[.int .i64 sp,.int .i64 sl] 46)).setCell ⟨q.f,2,none⟩ (.int .i64 (q.next+1))).alloc (.cells #[.int .i64 sp,.int .i64 sl,.int .i64 0,.slice none 0 0] 287)).cell? ⟨q.f,2,none⟩=some (.int .i64 (q.next+1)):=n2;have r3x:(Instr.mapUpdate 279 (.map (some q.m)) (.int .i64 (q.next+1)) (.pointer (some ⟨w.heap.size+1,0,none⟩))).run prog (((w.alloc (.cells #[.int .i64 sp,.int .i64 sl] 46)).setCell ⟨q.f,2,none⟩ (.int .i64 (q.next+1))).alloc (.cells #[.int .i64 sp,.int .i64 sl,.int .i64 0,.slice none 0 0] 287)).drew.drew=.ok () w3:=r3;clear r3 g0 g2 n0 n2 b0 b1 d0 d1 d2 Av;clear keep st f2' h0 hb h ok hp Aq Fg
 go_enter func79,ntmps79;go_wp2_with fail;refine ka.mono ?_;rintro e w' ⟨rfl,rfl⟩;go_wp2_with fail;go_region;go_wp2_with fail;go_region;go_wp2_with fail;go_region;go_wp2_with fail
 first|exact⟨rfl,HS.out⟩|(go_ret2;exact⟨rfl,HS.out⟩)
theorem Z8w {w:World} {q:FO} (h:Sep w q.hl) (ok:q.Ok) {par:Int} {e:En Nd} (hf:find q.N par=some e) {sp sl:Int} (hp:Q1J prog 46 (sp,sl)) (Aq:ownN q.N sp sl=0) :
  Calls prog 79 #[.pointer (some ⟨q.f,0,none⟩),.int .i64 par,.int .i64 sp,.int .i64 sl] w fun r w'=>r=.returned (.tuple #[.int .i64 (q.next+1),.int .i64 0])/\∃rv',rvOk rv' (e.q.ks.length+1)/\Step q.hl ((q.app (w.heap.size+1) ⟨sp,sl,par,[]⟩).setN par {e.q with ks:=e.q.ks++[q.next+1]} rv').hl w w':=by
 have ka:=Q2S h hf;have h0:=(h.alloc (.cells #[.int .i64 sp,.int .i64 sl] 46)).drew;have hl:=FO.look_own h0 ok hp;rw [Aq] at hl;have c0:=FO.c0 h;have c1:=FO.c1 h;have c2:=FO.c2 h;have d0:=FO.c0 h0;have d1:=FO.c1 h0;have d2:=FO.c2 h0;have hb:=Cells.new w 46 [.int .i64 sp,.int .i64 sl];obtain⟨w3,w4,r3,r4,st,f0,f1,f2,g0,g2,n0,n2,keep⟩:=FO.appSteps (par:=par) h0 ok hp Aq _ _ rfl rfl;have Bv:(w.alloc (.cells #[.int .i64 sp,.int .i64 sl] 46)).drew.heap.size=w.heap.size+1:=by simp [World.drew]
 have Fg:w.heap.size∉keys q.hl:=fun hk=>by have:=h.lt hk;omega
 have b0:(w.alloc (.cells #[.int .i64 sp,.int .i64 sl] 46)).drew.cell? ⟨w.heap.size,0,none⟩=some (.int .i64 sp):=hb.cell 0 _ rfl;have b1:(w.alloc (.cells #[.int .i64 sp,.int .i64 sl] 46)).drew.cell? ⟨w.heap.size,1,none⟩=some (.int .i64 sl):=hb.cell 1 _ rfl;have e0:=keep w.heap.size 0 _ Fg (by omega) b0;have e1:=keep w.heap.size 1 _ Fg (by omega) b1;rw [Bv] at r3 st;obtain⟨Bs,EM⟩:=Q0b hf;have IY:=ok.n.rng e Bs;have FL:find (q.app (w.heap.size+1) ⟨sp,sl,par,[]⟩).N par=some e:=by
  show find (q.N++[_]) par=_;rw [Q8b,hf];rfl
 have C2:(q.app (w.heap.size+1) ⟨sp,sl,par,[]⟩).N.Pairwise (fun a b=>a.id≠b.id):=by
  show (q.N++[_]).Pairwise _;rw [J2z];refine⟨ok.n.ids,by simp,fun x hx y hy=>?_⟩;rw [J3T] at hy;subst hy;have:=ok.n.rng x hx;show x.id≠q.next+1;omega
 have CP:(q.app (w.heap.size+1) ⟨sp,sl,par,[]⟩).kr par=q.kr par:=if_neg (by omega);have AO:=ok.rv e Bs;rw [EM] at AO;have Cy:=ok.n.kids_few Bs;have G5:=ok.few;obtain⟨rv',w5,r5,Cw,k3,kf,st5⟩:=FO.pushK st.sep.drew C2 FL (by rw [CP];exact AO) (by omega) (q.next+1) 36;rw [CP] at r5 k3;have r5x:(Builtin.append_ #[36,36] 36 #[lvOf (q.kr par) e.q.ks.length,.slice (some ⟨w4.heap.size,0,none⟩) 1 1]).run prog (w4.alloc (.cells #[.int .i64 (q.next+1)] 3)).drew=.ok (lvOf rv' (e.q.ks.length+1)) w5:=r5;clear r5;have m3:=(FO.nd st.sep FL).cell 3 (lvOf ((q.app (w.heap.size+1) ⟨sp,sl,par,[]⟩).kr e.id) e.q.ks.length) rfl
 rw [EM,CP] at m3;have m2:w4.cell? ⟨q.f,2,none⟩=some (.int .i64 (q.next+1)):=FO.c2 st.sep;have sa:=st.sep.alloc (.cells #[.int .i64 (q.next+1)] 3);have v3:=(FO.nd sa FL).cell 3 (lvOf ((q.app (w.heap.size+1) ⟨sp,sl,par,[]⟩).kr e.id) e.q.ks.length) rfl;rw [EM,CP] at v3;have v2:(w4.alloc (.cells #[.int .i64 (q.next+1)] 3)).cell? ⟨q.f,2,none⟩=some (.int .i64 (q.next+1)):=FO.c2 sa;have u2:(w5.setCell ⟨e.b,3,none⟩ (lvOf rv' (e.q.ks.length+1))).cell? ⟨q.f,2,none⟩=some (.int .i64 (q.next+1)):=FO.c2 st5.sep;have HS:Hid (∃rz,rvOk rz (e.q.ks.length+1)/\Step q.hl ((q.app (w.heap.size+1) ⟨sp,sl,par,[]⟩).setN par {e.q with ks:=e.q.ks++[q.next+1]} rz).hl w (w5.setCell ⟨e.b,3,none⟩ (lvOf rv' (e.q.ks.length+1)))):=⟨rv',Cw,(st.trans st5.from_drew).from_drew.from_alloc⟩
 have Av:∀i,(w.alloc (.cells #[.int .i64 sp,.int .i64 sl] 46)).drew.frozen? ⟨q.f,i,none⟩=false:=(FO.c h0).free;have Bw:q.next+1<1099511627777:=by have:=ok.lim;omega
 have ME:=ok.n.next0;obtain⟨e00,_⟩:=e0;obtain⟨e10,_⟩:=e1;have x0:(w.alloc (.cells #[.int .i64 sp,.int .i64 sl] 46)).cell? ⟨q.f,0,none⟩=some (.map (some q.m)):=d0;have x1:(w.alloc (.cells #[.int .i64 sp,.int .i64 sl] 46)).cell? ⟨q.f,1,none⟩=some (.map (some q.o)):=d1;have x2:(w.alloc (.cells #[.int .i64 sp,.int .i64 sl] 46)).cell? ⟨q.f,2,none⟩=some (.int .i64 q.next):=d2;have xb0:(w.alloc (.cells #[.int .i64 sp,.int .i64 sl] 46)).cell? ⟨w.heap.size,0,none⟩=some (.int .i64 sp):=b0;have xb1:(w.alloc (.cells #[.int .i64 sp,.int .i64 sl] 46)).cell? ⟨w.heap.size,1,none⟩=some (.int .i64 sl):=b1;have xf:∀i,(w.alloc (.cells #[.int .i64 sp,.int .i64 sl] 46)).frozen? ⟨q.f,i,none⟩=false:=Av
 have y0:((w.alloc (.cells #[.int .i64 sp,.int .i64 sl] 46)).setCell ⟨q.f,2,none⟩ (.int .i64 (q.next+1))).cell? ⟨q.f,0,none⟩=some (.map (some q.m)):=g0;have y2:((w.alloc (.cells #[.int .i64 sp,.int .i64 sl] 46)).setCell ⟨q.f,2,none⟩ (.int .i64 (q.next+1))).cell? ⟨q.f,2,none⟩=some (.int .i64 (q.next+1)):=g2;have z0:(((w.alloc (.cells #[.int .i64 sp,.int .i64 sl] 46)).setCell ⟨q.f,2,none⟩ (.int .i64 (q.next+1))).alloc (.cells #[.int .i64 sp,.int .i64 sl,.int .i64 par,.slice none 0 0] 287)).cell? ⟨q.f,0,none⟩=some (.map (some q.m)):=n0;have z2:(((w.alloc (.cells #[.int .i64 sp,.int .i64 sl] 46)).setCell ⟨q.f,2,none⟩ (.int .i64 (q.next+1))).alloc (.cells #[.int .i64 sp,.int .i64 sl,.int .i64 par,.slice none 0 0] 287)).cell? ⟨q.f,2,none⟩=some (.int .i64 (q.next+1)):=n2
 have r3x:(Instr.mapUpdate 279 (.map (some q.m)) (.int .i64 (q.next+1)) (.pointer (some ⟨w.heap.size+1,0,none⟩))).run prog (((w.alloc (.cells #[.int .i64 sp,.int .i64 sl] 46)).setCell ⟨q.f,2,none⟩ (.int .i64 (q.next+1))).alloc (.cells #[.int .i64 sp,.int .i64 sl,.int .i64 par,.slice none 0 0] 287)).drew.drew=.ok () w3:=r3;clear r3 g0 g2 n0 n2 b0 b1 d0 d1 d2 Av;obtain⟨va,vk,vc,hV⟩:∃a k c,lvOf rv' (e.q.ks.length+1)=.slice a k c:=by
  cases rv' with
  | none=>exact⟨_,_,_,rfl⟩
  | some p=>exact⟨_,_,_,rfl⟩
 rw [hV] at r5x u2 HS;clear hV;generalize lvOf (q.kr par) e.q.ks.length=V at *
 have HR:=Q0a r5x;clear r5x;clear keep st sa st5 FL C2 CP AO Cy G5 Bs EM IY hf h0 hb h ok hp Aq Fg;go_enter func79,ntmps79;go_wp2_with fail;refine ka.mono ?_;rintro e w' ⟨rfl,rfl⟩;go_wp2_with fail;go_region;go_wp2_with fail;go_region;go_wp2_with fail;go_region;go_wp2_with fail
 go_region_law (refine Q0H rfl _ _ 36 36 rfl _ _ (by simp [Act.eval]) (by simp [Act.eval]) HR.out ?_)
 all_goals
  go_wp2_with fail
  first|exact⟨rfl,HS.out⟩|(go_ret2;exact⟨rfl,HS.out⟩)
theorem Z6g {q:FO} (ok:q.Ok) (b:Nat) (sp sl:Int):(q.app b ⟨sp,sl,0,[]⟩).N=addN q.N 0 (q.next+1) b sp sl:=by
 unfold addN;rw [Z0u fun c hc=>if_neg (by have:=ok.n.rng c hc;omega)];rfl
theorem Z8x {q:FO} (ok:q.Ok) {par:Int} {e:En Nd} (hf:find q.N par=some e) (b:Nat) (sp sl:Int) (rv:RV) :
  ((q.app b ⟨sp,sl,par,[]⟩).setN par {e.q with ks:=e.q.ks++[q.next+1]} rv).N=addN q.N par (q.next+1) b sp sl:=by
 obtain⟨he,hid⟩:=Q0b hf;have hr:=ok.n.rng e he;show mapE _ (q.N++[_])=_;unfold addN mapE;rw [J5p];congr 1
 ·refine J3V fun c hc=>?_
  by_cases h:c.id=par
  ·have:c=e:=by
    have:=Q0g ok.n.ids hc;rw [h,hf] at this;cases this;rfl
   subst this;simp only [h,if_true]
  ·simp only [h,if_false]
 ·have Aa:¬(q.next+1=par):=by omega
  simp only [J1O,J4s,Aa,if_false]
structure Z1O (q:FO) (par sp sl:Int) (q':FO):Prop where
 f:q'.f=q.f
 m:q'.m=q.m
 o:q'.o=q.o
 N:∃b,q'.N=addN q.N par (q.next+1) b sp sl
 next:q'.next=q.next+1
 ok:q'.Ok
theorem Q8c {w:World} {q:FO} (h:Sep w q.hl) (ok:q.Ok) {par sp sl:Int} (AW:par=0∨∃e,find q.N par=some e) (h1:0<=sp) (h2:sp<4294967296) (h3:0<=sl) (h4:sl<256) (Aq:ownN q.N sp sl=0) (hlim:q.next+1<1099511627776) (Cy:q.N.length<65536) :
  Calls prog 79 #[.pointer (some ⟨q.f,0,none⟩),.int .i64 par,.int .i64 sp,.int .i64 sl] w fun r w'=>r=.returned (.tuple #[.int .i64 (q.next+1),.int .i64 0])/\∃q':FO,Z1O q par sp sl q'/\Step q.hl q'.hl w w':=by
 have hp:=Q3o (p:=(sp,sl)) h1 (by show sp<_;omega) h3 (by show sl<_;omega);have Ac:∀b,(addN q.N par (q.next+1) b sp sl).length<=65536:=fun b=>by
  unfold addN mapE;rw [J2v,J3v,J5N];omega
 have hn:∀b,NOk (addN q.N par (q.next+1) b sp sl) (q.next+1):=fun b=>ok.n.add b AW ((Q1k ok.n).1 Aq) h1 h2 h3 h4
 rcases AW with rfl|⟨e,hf⟩
 ·refine (Z6f h ok hp Aq).mono ?_;rintro r w' ⟨rfl,st⟩;have eN:=Z6g ok (w.heap.size+1) sp sl;refine⟨rfl,q.app (w.heap.size+1) ⟨sp,sl,0,[]⟩,⟨rfl,rfl,rfl,⟨_,eN⟩,rfl,⟨by rw [eN];exact hn _,hlim,fun c hc=>?_,by rw [eN];exact Ac _⟩⟩,st⟩;rcases J2A.1 (show c∈q.N++[_] from hc) with hc|hc
  ·have:=ok.n.rng c hc;have hk:(q.app (w.heap.size+1) ⟨sp,sl,0,[]⟩).kr c.id=q.kr c.id:=if_neg (by omega);rw [hk];exact ok.rv c hc
  ·rw [J3T] at hc;subst hc;have hk:(q.app (w.heap.size+1) ⟨sp,sl,0,[]⟩).kr (q.next+1)=none:=if_pos rfl;show rvOk ((q.app (w.heap.size+1) ⟨sp,sl,0,[]⟩).kr (q.next+1)) 0;rw [hk];rfl
 ·refine (Z8w h ok hf hp Aq).mono ?_;rintro r w' ⟨rfl,rv,AO,st⟩;have eN:=Z8x ok hf (w.heap.size+1) sp sl rv;obtain⟨he,hid⟩:=Q0b hf;have hr:=ok.n.rng e he;refine⟨rfl,(q.app (w.heap.size+1) ⟨sp,sl,par,[]⟩).setN par {e.q with ks:=e.q.ks++[q.next+1]} rv,⟨rfl,rfl,rfl,⟨_,eN⟩,rfl,⟨by rw [eN];exact hn _,hlim,fun c hc=>?_,by rw [eN];exact Ac _⟩⟩,st⟩;obtain⟨d,hd,rfl⟩:=Q1m (show c∈mapE _ (q.N++[_]) from hc);by_cases DP:d.id=par
  ·have hk:((q.app (w.heap.size+1) ⟨sp,sl,par,[]⟩).setN par {e.q with ks:=e.q.ks++[q.next+1]} rv).kr d.id=rv:=if_pos DP;show rvOk (((q.app (w.heap.size+1) ⟨sp,sl,par,[]⟩).setN par {e.q with ks:=e.q.ks++[q.next+1]} rv).kr d.id) (if d.id=par then ({e.q with ks:=e.q.ks++[q.next+1]}:Nd) else d.q).ks.length;rw [hk,if_pos DP]
   simpa using AO
  ·have hk:((q.app (w.heap.size+1) ⟨sp,sl,par,[]⟩).setN par {e.q with ks:=e.q.ks++[q.next+1]} rv).kr d.id=(q.app (w.heap.size+1) ⟨sp,sl,par,[]⟩).kr d.id:=if_neg DP;show rvOk (((q.app (w.heap.size+1) ⟨sp,sl,par,[]⟩).setN par {e.q with ks:=e.q.ks++[q.next+1]} rv).kr d.id) (if d.id=par then ({e.q with ks:=e.q.ks++[q.next+1]}:Nd) else d.q).ks.length;rw [hk,if_neg DP];rcases J2A.1 hd with hd|hd
   ·have:=ok.n.rng d hd;have A3:(q.app (w.heap.size+1) ⟨sp,sl,par,[]⟩).kr d.id=q.kr d.id:=if_neg (by omega);rw [A3];exact ok.rv d hd
   ·rw [J3T] at hd;subst hd;have A3:(q.app (w.heap.size+1) ⟨sp,sl,par,[]⟩).kr (q.next+1)=none:=if_pos rfl;show rvOk ((q.app (w.heap.size+1) ⟨sp,sl,par,[]⟩).kr (q.next+1)) 0;rw [A3];rfl
structure Alt0 (S S':CO):Prop where
 c:S'.c=S.c
 t:S'.t=S.t
 l:S'.l=S.l
 g:S'.g=S.g
 per:S'.period=S.period
 now:S'.now=S.now
 rv:S'.rv=S.rv
 ts:S'.ts=S.ts
 same:SameP S.P S'.P
 next:S'.P.q.next=S.P.q.next
 acc:∀id e,find S.P.q.E id=some e->∃e',find S'.P.q.E id=some e'/\e'.q={e.q with charged:=e'.q.charged}
 ids:S'.P.q.E.map En.id=S.P.q.E.map En.id
 kept:∀r∈S.l,r.is=true->r.kind≠2->Kept S.P.a.mem S'.P.a.mem r.at_ (costK r.kind)
theorem Alt.alt0 {S S':CO} {own:Int} (h:Alt S S' own):Alt0 S S':=⟨h.c,h.t,h.l,h.g,h.per,h.now,h.rv,h.ts,h.same,h.next,fun id e he=>by
 obtain⟨e',a,b,_⟩:=h.acc id e he;exact⟨e',a,b⟩,h.ids,h.kept⟩
theorem Alt0.refl (S:CO):Alt0 S S:=(Alt.refl S 0).alt0
theorem Alt0.trans {S S1 S2:CO} (h:Alt0 S S1) (k:Alt0 S1 S2):Alt0 S S2:=by
 refine⟨k.c.trans h.c,k.t.trans h.t,k.l.trans h.l,k.g.trans h.g,k.per.trans h.per,k.now.trans h.now,k.rv.trans h.rv,k.ts.trans h.ts,h.same.trans k.same,k.next.trans h.next,fun id e he=>?_,k.ids.trans h.ids,fun r hr hi hk=>?_⟩
 ·obtain⟨e1,a1,a2⟩:=h.acc id e he;obtain⟨e2,b1,b2⟩:=k.acc id e1 a1;refine⟨e2,b1,?_⟩;rw [b2,a2]
 ·exact (h.kept r hr hi hk).trans (k.kept r (by rw [h.l];exact hr) hi hk)
structure SP where
 s:Nat
 S:CO
 tb:Nat->TB
 F:FO
def SP.head (Z:SP):Nat×(Obj->Prop):=(Z.s,isC 152 [ptr Z.S.c,ptr Z.F.f])
def SP.hl (Z:SP):HL:=Z.head::(Z.S.hl++Z.F.hl)
structure SP.Ok (Z:SP) (fr:List Nat) (N K:Nat) (M:Int):Prop where
 core:Z.S.Ok fr N K
 tpi:TPI Z.S Z.tb
 fpi:FPI Z.S.l Z.tb Z.F.N
 fo:Z.F.Ok
 next:Z.F.next<=M
def SP.av (Z:SP):AV:=avOf Z.S.l Z.tb Z.F.N
structure SameN (Z Z':SP):Prop where
 s:Z'.s=Z.s
 alt:Alt0 Z.S Z'.S
 f:Z'.F.f=Z.F.f
theorem SameN.refl (Z:SP):SameN Z Z:=⟨rfl,Alt0.refl _,rfl⟩
theorem SameN.trans {Z Z1 Z2:SP} (h:SameN Z Z1) (k:SameN Z1 Z2):SameN Z Z2:=⟨k.s.trans h.s,h.alt.trans k.alt,k.f.trans h.f⟩
structure SameZ (Z Z':SP):Prop extends SameN Z Z' where
 nx:Z'.F.next=Z.F.next
theorem SameZ.refl (Z:SP):SameZ Z Z:=⟨SameN.refl Z,rfl⟩
theorem SameZ.trans {Z Z1 Z2:SP} (h:SameZ Z Z1) (k:SameZ Z1 Z2):SameZ Z Z2:=⟨h.toSameN.trans k.toSameN,k.nx.trans h.nx⟩
def SP.setS (Z:SP) (S:CO) (tb:Nat->TB):SP:={Z with S:=S,tb:=tb}
def SP.setF (Z:SP) (F:FO):SP:={Z with F:=F}
theorem SP.permS (Z:SP):Z.hl.Perm (Z.S.hl++(Z.head::Z.F.hl)):=by
 unfold SP.hl;exact J5q.symm
theorem SP.permF (Z:SP):Z.hl.Perm (Z.F.hl++(Z.head::Z.S.hl)):=by
 unfold SP.hl;refine (List.Perm.cons _ J4z).trans ?_;exact J5q.symm
section
variable {w:World} {Z:SP}
theorem SP.sS (h:Sep w Z.hl):Sep w Z.S.hl:=h.part Z.permS
theorem SP.sF (h:Sep w Z.hl):Sep w Z.F.hl:=h.part Z.permF
theorem SP.cells (h:Sep w Z.hl):Cells w Z.s 152 [ptr Z.S.c,ptr Z.F.f]:=h.cells (by simp [SP.hl,SP.head])
theorem SP.c0 (h:Sep w Z.hl):w.cell? ⟨Z.s,0,none⟩=some (.pointer (some ⟨Z.S.c,0,none⟩)):=(SP.cells h).cell 0 _ rfl
theorem SP.c1 (h:Sep w Z.hl):w.cell? ⟨Z.s,1,none⟩=some (.pointer (some ⟨Z.F.f,0,none⟩)):=(SP.cells h).cell 1 _ rfl
end
theorem SP.stepS {w w':World} {Z:SP} (h:Sep w Z.hl) (S':CO) (tb':Nat->TB) (e:S'.c=Z.S.c) (s:Step Z.S.hl S'.hl w w'):Step Z.hl (Z.setS S' tb').hl w w':=by
 have hp:=(Z.setS S' tb').permS;have e1:(Z.setS S' tb').head=Z.head:=by unfold SP.head SP.setS;rw [e]
 rw [e1] at hp;exact Step.lift Z.permS hp h s
theorem SP.stepF {w w':World} {Z:SP} (h:Sep w Z.hl) (F':FO) (e:F'.f=Z.F.f) (s:Step Z.F.hl F'.hl w w'):Step Z.hl (Z.setF F').hl w w':=by
 have hp:=(Z.setF F').permF;have e1:(Z.setF F').head=Z.head:=by unfold SP.head SP.setF;rw [e]
 rw [e1] at hp;exact Step.lift Z.permF hp h s
theorem SP.Ok.mono {Z:SP} {fr:List Nat} {N N' K K':Nat} {M M':Int} (ok:Z.Ok fr N K M) (h1:N<=N') (h2:K<=K') (h3:M<=M'):Z.Ok fr N' K' M':=⟨ok.core.mono h1 h2,ok.tpi,ok.fpi,ok.fo,by have:=ok.next;omega⟩
theorem FPI.rights {l:List Pl} {tb:Nat->TB} {N:List (En Nd)} (f:FPI l tb N) {h s:Nat} {x:Nat×Nat} (hx:(avOf l tb N).en h s=some x):1<=x.2/\x.2<16:=by
 unfold avOf at hx;simp only at hx;cases he:Q0f l tb h s with
 | none=>rw [he] at hx;cases hx
 | some e =>
  rw [he] at hx;cases hx;have:=(f.cap h s e he).r;exact⟨this.1,by show e.r<16;omega⟩
theorem FPI.task {l:List Pl} {tb:Nat->TB} {N:List (En Nd)} (f:FPI l tb N) {next:Int} (ok:NOk N next) {n:En Nd} (hn:n∈N):∃(h s:Nat) (p:Pl) (e:Ent),n.q.sp=(h:Int)/\n.q.sl=(s:Int)/\h<4294967296/\s<256/\pget l 1 h=some p/\p.kind=2/\(tb (h%256)).en s=some e/\Q0f l tb h s=some e:=by
 obtain⟨e,he⟩:=f.is n hn;have hs:=ok.sm n hn;unfold Q0D at he;obtain⟨p,p1,p2,p3,p4⟩:=Q1s he;exact⟨n.q.sp.toNat,n.q.sl.toNat,p,e,by omega,by omega,by omega,p3,p1,p2,p4,he⟩
theorem FPI.own {l:List Pl} {tb:Nat->TB} {N:List (En Nd)} (f:FPI l tb N) {next:Int} (ok:NOk N next) {h s:Nat} {e:Ent} (he:Q0f l tb h s=some e):∃n∈N,n.q.sp=(h:Int)/\n.q.sl=(s:Int)/\ownN N (h:Int) (s:Int)=n.id/\find N n.id=some n:=by
 obtain⟨n,h1,h2,h3⟩:=f.has h s e he;refine⟨n,h1,h2,h3,?_,Q0g ok.ids h1⟩;rw [<- h2,<- h3];exact Q0J ok h1
theorem FPI.free {l:List Pl} {tb:Nat->TB} {N:List (En Nd)} (f:FPI l tb N) {next:Int} (ok:NOk N next) {h s:Nat} (he:Q0f l tb h s=none):ownN N (h:Int) (s:Int)=0:=by
 refine (Q1k ok).2 fun n hn hx=>?_
 obtain⟨e,h2⟩:=f.is n hn;simp only [Prod.mk.injEq] at hx;unfold Q0D at h2;rw [hx.1,hx.2,J2R,J2R,he] at h2;cases h2
theorem FPI.few {l:List Pl} {tb:Nat->TB} {N:List (En Nd)} (f:FPI l tb N) {next:Int} (ok:NOk N next) {h s:Nat} {p:Pl} (hp:pget l 1 h=some p) (hs:s<256) (he:Q0f l tb h s=none):N.length<65536:=by
 have key:∀n∈N,∃p s,pget l 1 n.q.sp.toNat=some p/\n.q.sl=((s:Nat):Int)/\s<256:=fun n hn=>by
  obtain⟨h',s',p',e',h1,h2,_,h3,h4,_⟩:=f.task ok hn;exact⟨p',s',by rw [h1,J2R];exact h4,h2,h3⟩
 have O9:∀n∈N,n.q.sp.toNat%256*256+n.q.sl.toNat<65536:=fun n hn=>by
  obtain⟨p',s',_,h2,h3⟩:=key n hn;omega
 have inj:∀a∈N,∀b∈N,a.q.sp.toNat%256*256+a.q.sl.toNat=b.q.sp.toNat%256*256+b.q.sl.toNat->a=b:=fun a ha b hb hc=>by
  obtain⟨pa,sa,a1,a2,a3⟩:=key a ha;obtain⟨pb,sb,b1,b2,b3⟩:=key b hb;have e1:a.q.sp.toNat%256=b.q.sp.toNat%256:=by omega
  obtain⟨e2,_,_⟩:=Q0Q a1 b1 e1;have FP:=ok.sm a ha;have Ak:=ok.sm b hb;exact Q2v ok ha hb (by omega) (by omega)
 have nd:(N.map fun n=>n.q.sp.toNat%256*256+n.q.sl.toNat).Nodup:=by
  refine J2q.2 ?_;refine (J6b.1 ok.ids).imp ?_;rintro a b ⟨ha,hb,CF⟩ hc;exact CF (by rw [inj a ha b hb hc])
 have D8:h%256*256+s∉N.map fun n=>n.q.sp.toNat%256*256+n.q.sl.toNat:=fun hm=>by
  obtain⟨n,hn,hc⟩:=J1R.1 hm;obtain⟨p',s',h1,h2,h3⟩:=key n hn;have e1:n.q.sp.toNat%256=h%256:=by omega
  obtain⟨e2,_,_⟩:=Q0Q h1 hp e1;obtain⟨e,h4⟩:=f.is n hn;unfold Q0D at h4;rw [e2,show n.q.sl.toNat=s by omega,he] at h4;cases h4
 have NI:∀B,(∀x∈(h%256*256+s)::N.map fun n=>n.q.sp.toNat%256*256+n.q.sl.toNat,x<B)->((h%256*256+s)::N.map fun n=>n.q.sp.toNat%256*256+n.q.sl.toNat).length<=B:=fun B hB=>Q4l B _ (J2I.2 ⟨D8,nd⟩) hB
 have:=NI 65536 fun x hx=>by
  rcases J1Q.1 hx with rfl|hx
  ·omega
  ·obtain⟨n,hn,rfl⟩:=J1R.1 hx;exact O9 n hn
 rw [J2w,J3v] at this;omega
end Go.Proofs.YtlakjlmaboioiaaGreatDoor
