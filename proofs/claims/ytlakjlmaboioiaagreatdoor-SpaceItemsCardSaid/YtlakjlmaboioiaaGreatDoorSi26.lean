/- SpaceItems returns true at every input. No condition. Part of its proof. -/
import Derived.Test.YtlakjlmaboioiaaGreatDoorSi01
import Derived.Test.YtlakjlmaboioiaaGreatDoorSi25
import Derived.Test.YtlakjlmaboioiaaGreatDoorSi20
import Derived.Deep.LoopGhost
import Derived.Deep.QuietTactic
import Derived.BigQuiet
import Derived.Test.YtlakjlmaboioiaaGreatDoorSi24
set_option maxHeartbeats 8000000
set_option maxRecDepth 100000
set_option linter.unusedVariables false
namespace Go.Proofs.YtlakjlmaboioiaaGreatDoor
open Go.RowKit Go.Proofs.Tryz
theorem J0a:(prog.info? 39).map (fun i=>(i.zero,i.size,i.bytes))=some (some (.agg #[.int .i64 0,.int .i64 0,.int .i64 0,.bool false]),4,32):=by kernel_rfl
theorem Q6e:∀L:List Mv,(L.flatMap Mv.cells).length=L.length*4
 | []=>rfl
 | p::r=>by rw [J0Q,J1d,Q6e r];simp [Mv.cells];omega
theorem Q3o:∀(L:List Mv) (k i:Nat) (m:Mv) (v:Value),L[k]?=some m->m.cells[i]?=some v->(L.flatMap Mv.cells)[k*4+i]?=some v
 | [],k,i,m,v,h,_=>by simp at h
 | p::r,k,i,m,v,h,hv=>by
  rw [J0Q];have hi:i<4:=by have:=(J0K.1 hv).1;simpa [Mv.cells] using this
  have hp:p.cells.length=4:=rfl;cases k with
  | zero =>
   simp at h;subst h;rw [J3E (by rw [hp];omega),show 0*4+i=i by omega];exact hv
  | succ k =>
   rw [J3F (by rw [hp];omega),hp,show (k+1)*4+i-4=k*4+i by omega];exact Q3o r k i m v (by simpa using h) hv
def OutM (w wr:World) (v:Value) (L:List Mv):Prop:=wr.ownsRow w.heap.size 39 4 v L.length (L.flatMap Mv.cells)/\Below w.heap.size w wr
theorem OutM.nil (w:World):OutM w w (.slice none 0 0) []:=⟨World.ownsRow_nil _ _ _ _,Below.refl _ _⟩
theorem OutM.below {w wr w1:World} {v:Value} {L:List Mv} (h:OutM w wr v L) (hb:Below wr.heap.size wr w1):OutM w w1 v L:=
 ⟨Q8c h.1 (fun b hb'=>hb.block b (h.1.lt b hb').2),h.2.trans (hb.mono h.2.size)⟩
theorem OutM.app {w wr:World} {v:Value} {L:List Mv} (h:OutM w wr v L) (hl:L.length<=16777216) (m:Mv) (ty:TypeId):∃v' w',(Builtin.append_ #[58,58] ty #[v,.slice (some ⟨wr.heap.size,0,none⟩) 1 1]).run prog (wr.alloc (.cells #[.int .i64 m.src,.int .i64 m.dst,.int .i64 m.r,.bool m.g] 39))=.ok v' w'/\OutM w w' v' (L++[m]):=by
 obtain⟨i0,hi,hz0,hz1,hz2⟩:=info_parts J0a;have h2:=h.below ((Below.refl wr.heap.size wr).alloc (J0t _) (.cells #[.int .i64 m.src,.int .i64 m.dst,.int .i64 m.r,.bool m.g] 39));have hc:=Q6e L;obtain⟨v',w',hr,q1,q2,_,q4⟩:=run_append_own_at (P:=prog) (wr.alloc (.cells #[.int .i64 m.src,.int .i64 m.dst,.int .i64 m.r,.bool m.g] 39)) w.heap.size 58 ty 39 i0 (.agg #[.int .i64 0,.int .i64 0,.int .i64 0,.bool false]) 4 32 underlying58 hi hz0 hz1 hz2 rfl (by decide) v L.length (L.flatMap Mv.cells) h2.1 ⟨wr.heap.size,0,none⟩ 1 1 m.cells (by simp [Mv.cells]) (by
  intro j u hj;have:=(Cells.new wr 39 m.cells).cell j u hj;have e:(⟨wr.heap.size,0,none⟩:Addr).add j=⟨wr.heap.size,j,none⟩:=by unfold Addr.add;split <;> simp_all
  rw [e];exact this) (fun u hu=>by
   have h4:u=.int .i64 m.src∨u=.int .i64 m.dst∨u=.int .i64 m.r∨u=.bool m.g:=by simpa [Mv.cells] using hu
   rcases h4 with rfl|rfl|rfl|rfl <;> rfl) (by unfold maxLen;omega) (by omega) h2.2.size
 refine⟨v',w',hr,?_,?_⟩
 ·rw [J1d,J1b];have e:[m].flatMap Mv.cells=m.cells:=by simp
  rw [e];exact q1
 ·exact h2.2.trans ((Below.refl _ _).mono h2.2.size |>.grown q2 h2.2.size (fun b hb=>(h2.1.lt b hb).1))
def itMv (i:It) (v:Wi) (k:Nat):Mv:=⟨i.base+k,v.base+i.off+k,i.r,i.g⟩
def movV (f:Nat->Bool) (i:It) (v:Wi) (k:Nat):List Mv:=((List.range k).filter f).map (itMv i v)
theorem Z5w (f:Nat->Bool) (i:It) (v:Wi) (k:Nat):movV f i v (k+1)=movV f i v k++if f k=true then [itMv i v k] else []:=by
 unfold movV;rw [J0E,J2p,J3S];cases h:f k <;> simp [h]
theorem Z1c (f:Nat->Bool) (i:It) (v:Wi) (k:Nat):(movV f i v k).length<=k:=by
 unfold movV;rw [J2b];refine J0u (J2H _ _) ?_;rw [J2c];exact J0t _
def Q2w (i:It) (v:Wi):Bool:=Q6d i&&(Q1m v.base v.order&&(decide (i.base<128)==decide (v.base<128)))
theorem Q1b {b o:Int} (h:Q1m b o=true):0<=b/\0<=o/\o<=7/\b.toNat+2 ^ o.toNat<=256/\2 ^ o.toNat<=128:=by
 unfold Q1m at h;obtain⟨h1,h2,h3,h4,h5⟩:=of_decide_eq_true h;obtain⟨n,rfl⟩:=J1W h1;obtain⟨k,rfl⟩:=J1W h3;rw [J1x,J1x] at *
 have hk:k=0∨k=1∨k=2∨k=3∨k=4∨k=5∨k=6∨k=7:=by omega
 refine⟨h1,h3,h4,?_,?_⟩
 ·rcases hk with rfl|rfl|rfl|rfl|rfl|rfl|rfl|rfl <;> simp at h5 ⊢ <;> omega
 ·rcases hk with rfl|rfl|rfl|rfl|rfl|rfl|rfl|rfl <;> simp
def Q1O (Z:SP) (x:Nat) (i:It) (k:Nat):Bool:=(Q0f Z.S.l Z.tb x (i.base.toNat+k)).isSome
def MvsE (Z:SP) (x:Nat) (i:It) (v:Wi) (er:Int):Prop:=(pget Z.S.l 1 x=none/\er=8)∨∃p,pget Z.S.l 1 x=some p/\((p.kind≠2/\er=10)∨(p.kind=2/\((Q2w i v=false/\er=1)∨(Q2w i v=true/\¬(i.off+((2 ^ i.order.toNat:Nat):Int)<=((2 ^ v.order.toNat:Nat):Int))/\er=2))))
def noMv:Mv:=⟨0,0,0,false⟩
def MvsR (Z:SP) (x:Nat) (i:It) (v:Wi) (w:World) (r:Ending) (w':World):Prop:=Below w.heap.size w w' /\
 ((∃er,er≠0/\r=.returned (.tuple #[.slice none 0 0,.int .i64 er])/\MvsE Z x i v er) ∨
  ∃(p:Pl) (a:Option Addr) (cap:Nat) (L:List Mv),pget Z.S.l 1 x=some p/\p.kind=2/\Q2w i v=true/\i.off+((2 ^ i.order.toNat:Nat):Int)<=((2 ^ v.order.toNat:Nat):Int)/\L=movV (Q1O Z x i) i v (2 ^ i.order.toNat)/\r=.returned (.tuple #[.slice a L.length cap,.int .i64 0])/\L.length<=cap/\AsideM Z.hl L.length (fun j=>L.getD j noMv) a w')
theorem Q6f {w:World} {Z:SP} {fr:List Nat} {N K:Nat} (hs:Sep w Z.hl) (ok:Z.S.Ok fr N K) {x:Nat} (hx:x<4294967296) (i:It) (v:Wi) (er:Int) (he:er≠0) (hw:(pget Z.S.l 1 x=none/\er=8)∨∃p,pget Z.S.l 1 x=some p/\p.kind≠2/\er=10) :
  Calls prog 24 #[.pointer (some ⟨Z.s,0,none⟩),.int .u32 x,.agg #[.int .i64 i.base,.int .i64 i.order,.int .i64 i.r,.int .i64 i.off,.bool i.g],.agg #[.int .i64 v.base,.int .i64 v.order]] w fun r w'=>r=.returned (.tuple #[.slice none 0 0,.int .i64 er])/\Below w.heap.size w w':=by
 have hb0:Below w.heap.size w ((w.alloc (.cells #[.int .i64 i.base,.int .i64 i.order,.int .i64 i.r,.int .i64 i.off,.bool i.g] 54)).alloc (.cells #[.int .i64 v.base,.int .i64 v.order] 56)):=((Below.refl w.heap.size w).alloc (J0t _) _).alloc (by simp) _;have ks:=Q0K (hs.grown hb0).sep ok hx er hw;have hnb:(er==0)=false:=by simpa using he
 have HR:Hid (∀w' o,Below ((w.alloc (.cells #[.int .i64 i.base,.int .i64 i.order,.int .i64 i.r,.int .i64 i.off,.bool i.g] 54)).alloc (.cells #[.int .i64 v.base,.int .i64 v.order] 56)).heap.size ((w.alloc (.cells #[.int .i64 i.base,.int .i64 i.order,.int .i64 i.r,.int .i64 i.off,.bool i.g] 54)).alloc (.cells #[.int .i64 v.base,.int .i64 v.order] 56)) w'->Below w.heap.size w (w'.alloc o)):=fun w' o hb=>Q0e (Q0e (hb.alloc hb.size o))
 obtain⟨ib,io,ir,iff,ig⟩:=i;obtain⟨vb,vo⟩:=v;dsimp only at *
 clear hs ok hx hw hb0;go_enter func24,ntmps24;go_wp2_with fail;refine ks.mono ?_;rintro r w1 ⟨rfl,hb⟩;have HQ:Hid (∀o,Below w.heap.size w (w1.alloc o)):=fun o=>HR.out w1 o hb
 clear hb HR ks;go_wp2_with fail
 first|exact⟨rfl,HQ.out _⟩|(go_ret2;exact⟨rfl,HQ.out _⟩)
theorem Q7y {n:Nat} (h:n<=128):wrap64 (n:Int)=(n:Int):=Go.IntWalk.wrap64_in _ (by omega)
theorem Z7C {n:Nat} {x:Int} (h:n<=128) (h0:0<=x) (h1:x<256):wrap64 (x+(n:Int))=x+(n:Int):=Go.IntWalk.wrap64_in _ (by omega)
def Box2 (b:Nat) (i:It) (v:Wi) (W:World):Prop:=(W.cell? ⟨b,0,none⟩=some (.int .i64 i.base)/\W.cell? ⟨b,1,none⟩=some (.int .i64 i.order)/\W.cell? ⟨b,2,none⟩=some (.int .i64 i.r)/\W.cell? ⟨b,3,none⟩=some (.int .i64 i.off)/\W.cell? ⟨b,4,none⟩=some (.bool i.g))/\W.cell? ⟨b+1,0,none⟩=some (.int .i64 v.base)/\W.cell? ⟨b+1,1,none⟩=some (.int .i64 v.order)
theorem box2 {w:World} (i:It) (v:Wi) {W:World} (hb:Below ((w.alloc (.cells #[.int .i64 i.base,.int .i64 i.order,.int .i64 i.r,.int .i64 i.off,.bool i.g] 54)).alloc (.cells #[.int .i64 v.base,.int .i64 v.order] 56)).heap.size ((w.alloc (.cells #[.int .i64 i.base,.int .i64 i.order,.int .i64 i.r,.int .i64 i.off,.bool i.g] 54)).alloc (.cells #[.int .i64 v.base,.int .i64 v.order] 56)) W):Box2 w.heap.size i v W:=by
 have h1:=((Cells.new w 54 i.cells).alloc (.cells #[.int .i64 v.base,.int .i64 v.order] 56)).same (hb.block _ (by simp;omega));have h2:=(Cells.new (w.alloc (.cells #[.int .i64 i.base,.int .i64 i.order,.int .i64 i.r,.int .i64 i.off,.bool i.g] 54)) 56 v.cells).same (hb.block _ (by simp));have e1:(w.alloc (.cells #[.int .i64 i.base,.int .i64 i.order,.int .i64 i.r,.int .i64 i.off,.bool i.g] 54)).heap.size=w.heap.size+1:=by simp
 rw [e1] at h2;exact⟨⟨h1.cell 0 _ rfl,h1.cell 1 _ rfl,h1.cell 2 _ rfl,h1.cell 3 _ rfl,h1.cell 4 _ rfl⟩,h2.cell 0 _ rfl,h2.cell 1 _ rfl⟩
theorem Q9S {w:World} {s x fac:Nat} {i:It} {v:Wi} {T:Nat->World->Prop} {f:Nat->Bool} {Q:Ending->World->Prop}
  (ks:Calls prog 73 #[.pointer (some ⟨s,0,none⟩),.int .u32 x] ((w.alloc (.cells #[.int .i64 i.base,.int .i64 i.order,.int .i64 i.r,.int .i64 i.off,.bool i.g] 54)).alloc (.cells #[.int .i64 v.base,.int .i64 v.order] 56)) fun r w'=>∃g:Nat,r=.returned (.tuple #[.agg #[.pointer (some ⟨g,0,none⟩),.int .u32 x,.int .i64 fac],.int .i64 0])/\Below ((w.alloc (.cells #[.int .i64 i.base,.int .i64 i.order,.int .i64 i.r,.int .i64 i.off,.bool i.g] 54)).alloc (.cells #[.int .i64 v.base,.int .i64 v.order] 56)).heap.size ((w.alloc (.cells #[.int .i64 i.base,.int .i64 i.order,.int .i64 i.r,.int .i64 i.off,.bool i.g] 54)).alloc (.cells #[.int .i64 v.base,.int .i64 v.order] 56)) w'/\T g w')
  (hT:∀g W W',T g W->Below W.heap.size W W'->T g W')
  (hC:∀(g:Nat) (W:World) (k:Nat),Below ((w.alloc (.cells #[.int .i64 i.base,.int .i64 i.order,.int .i64 i.r,.int .i64 i.off,.bool i.g] 54)).alloc (.cells #[.int .i64 v.base,.int .i64 v.order] 56)).heap.size ((w.alloc (.cells #[.int .i64 i.base,.int .i64 i.order,.int .i64 i.r,.int .i64 i.off,.bool i.g] 54)).alloc (.cells #[.int .i64 v.base,.int .i64 v.order] 56)) W->T g W->k<2 ^ i.order.toNat->Q2w i v=true->Calls prog 74 #[.agg #[.pointer (some ⟨g,0,none⟩),.int .u32 x,.int .i64 fac],.int .i64 (i.base+(k:Int))] W fun r w'=>∃a b:Int,r=.returned (.tuple #[.agg #[.int .u32 a,.int .i64 b],.bool (f k)])/\Below W.heap.size W w')
  (hE:∀(er:Int) (w':World),((Q2w i v=false/\er=1)∨(Q2w i v=true/\¬(i.off+((2 ^ i.order.toNat:Nat):Int)<=((2 ^ v.order.toNat:Nat):Int))/\er=2))->Below w.heap.size w w'->Q (.returned (.tuple #[.slice none 0 0,.int .i64 er])) w')
  (hR:Q2w i v=true->i.off+((2 ^ i.order.toNat:Nat):Int)<=((2 ^ v.order.toNat:Nat):Int)->∀(a:Value) (w':World),OutM w w' a (movV f i v (2 ^ i.order.toNat))->Q (.returned (.tuple #[a,.int .i64 0])) w') :
  Calls prog 24 #[.pointer (some ⟨s,0,none⟩),.int .u32 x,.agg #[.int .i64 i.base,.int .i64 i.order,.int .i64 i.r,.int .i64 i.off,.bool i.g],.agg #[.int .i64 v.base,.int .i64 v.order]] w Q:=by
 have HW:Hid (∀W,Below ((w.alloc (.cells #[.int .i64 i.base,.int .i64 i.order,.int .i64 i.r,.int .i64 i.off,.bool i.g] 54)).alloc (.cells #[.int .i64 v.base,.int .i64 v.order] 56)).heap.size ((w.alloc (.cells #[.int .i64 i.base,.int .i64 i.order,.int .i64 i.r,.int .i64 i.off,.bool i.g] 54)).alloc (.cells #[.int .i64 v.base,.int .i64 v.order] 56)) W->Below w.heap.size w W/\Box2 w.heap.size i v W):=fun W hb=>⟨Q0e (Q0e hb),box2 i v hb⟩
 have HC:=Q0a hC;have HTT:=Q0a hT;have HQE:=Q0a hE;have HQR:=Q0a hR;have HMay:Hid (∀W,_):=fun W=>Z9o W v
 have HCode:Hid (∀W,_):=fun W=>Z7B W i
 have HK1:Hid (∀W,_):=fun W=>Q2S W i.base
 have HK2:Hid (∀W,_):=fun W=>Q2S W v.base
 have HAr:Hid (Q2w i v=(Q6d i&&(Q1m v.base v.order&&(decide (i.base<128)==decide (v.base<128))))):=rfl;have HP:Hid (Q2w i v=true->Q1m i.base i.order=true/\Q1m v.base v.order=true/\1<=i.r/\i.r<=15/\0<=i.off/\i.off<256):=fun h=>by
  unfold Q2w Q6d at h;simp only [J0O,decide_eq_true_eq] at h;exact⟨h.1.1,h.2.1,h.1.2⟩
 generalize hW0:((w.alloc (.cells #[.int .i64 i.base,.int .i64 i.order,.int .i64 i.r,.int .i64 i.off,.bool i.g] 54)).alloc (.cells #[.int .i64 v.base,.int .i64 v.order] 56))=W0 at *
 obtain⟨ib,io,ir,iff,ig⟩:=i;obtain⟨vb,vo⟩:=v;dsimp only at *
 clear hC hT hE hR;generalize Q2w ⟨ib,io,ir,iff,ig⟩ ⟨vb,vo⟩=ia at *
 go_enter func24,ntmps24;go_wp2_with fail;refine ks.mono ?_;rintro r w1 ⟨g,rfl,hb1,hg1⟩;clear hW0 ks;have hbA:=hb1.alloc hb1.size (.cells #[.pointer (some ⟨g,0,none⟩),.int .u32 x,.int .i64 fac] 155);have hcA:=Cells.new w1 155 [.pointer (some ⟨g,0,none⟩),.int .u32 x,.int .i64 fac];obtain⟨⟨c0,c1,c2,c3,c4⟩,v0,v1⟩:=(HW.out _ hbA).2;go_wp2_with fail;refine (HCode.out _).mono ?_;rintro r w2 ⟨xx,rfl,hb2⟩;have HS:Hid (∀W,Below w2.heap.size w2 W->(Below w.heap.size w W/\Below W0.heap.size W0 W/\T g W)/\Box2 w.heap.size ⟨ib,io,ir,iff,ig⟩ ⟨vb,vo⟩ W/\W.cell? ⟨w1.heap.size,0,none⟩=some (.pointer (some ⟨g,0,none⟩))/\W.cell? ⟨w1.heap.size,1,none⟩=some (.int .u32 x)/\W.cell? ⟨w1.heap.size,2,none⟩=some (.int .i64 fac)):=fun W hb=>by
  have h2:=hbA.trans (hb2.mono hbA.size);have h3:=h2.trans (hb.mono h2.size);have hc:=(hcA.same (hb2.block _ hcA.lt)).same (hb.block _ (J0v hcA.lt hb2.size));exact⟨⟨(HW.out _ h3).1,h3,HTT.out _ _ _ (HTT.out _ _ _ (HTT.out _ _ _ hg1 ((Below.refl _ _).alloc (J0t _) _)) hb2) hb⟩,(HW.out _ h3).2,hc.cell 0 _ rfl,hc.cell 1 _ rfl,hc.cell 2 _ rfl⟩
 generalize w1.heap.size=B at *
 clear hbA hcA hb1 hg1 hb2 c0 c1 c2 c3 c4 v0 v1 HW HTT HCode;obtain⟨-,⟨⟨c0,c1,c2,c3,c4⟩,v0,v1⟩,s0,s1,s2⟩:=HS.out _ (Below.refl _ _);obtain⟨-,⟨⟨d0,d1,d2,d3,d4⟩,e0,e1⟩,-,-,-⟩:=HS.out _ (Below.refl w2.heap.size w2).drew;go_upto_region 5 with fail
 go_cut [32] from 33 to 48 (fun bb wc=>bb=.bool (!ia)/\Below w2.heap.size w2 wc)
 case first =>
  clear HC HP HQE HQR;generalize Q6d ⟨ib,io,ir,iff,ig⟩=cd at *
  generalize Q1m vb vo=av at *
  generalize decide (ib<128)=k1 at *
  generalize decide (vb<128)=k2 at *
  cases cd with
  | false =>
   have HE:Hid (∀n,Below w2.heap.size w2 (w2.drewN n)):=fun n=>Q0S (Below.refl w2.heap.size w2) n
   obtain rfl:ia=false:=by
    have:=HAr.out;rw [J4J] at this;exact this
   clear HAr HS
   go_quiet (first|(go_at_call 77;exact (HK1.out _)))
   go_wp2_with fail;go_meet;exact⟨rfl,HE.out _⟩
  | true =>
   cases av with
   | false =>
    obtain rfl:ia=false:=by
     have:=HAr.out;rw [J4J,Bool.and_false] at this;exact this
    clear HAr
    first|go_region_with (first|(go_at_call 91;refine (HMay.out _).mono ?_;rintro r w5 ⟨rfl,hb5⟩;have HB5:=Q0a ((Below.refl w2.heap.size w2).drew.trans (hb5.mono (J0t _)));clear hb5))|fail
    all_goals (go_wp2_with fail;go_meet;exact⟨rfl,HB5.out⟩)
   | true =>
    by_cases hk:k1=k2
    ·subst hk;obtain rfl:ia=true:=by
      have:=HAr.out;rw [J1I,J1I,beq_self_eq_true] at this;exact this
     clear HAr
     go_region_held3 (fun W=>W.cell? ⟨w.heap.size,0,none⟩=some (.int .i64 ib)/\W.cell? ⟨w.heap.size+1,0,none⟩=some (.int .i64 vb)/\W.cell? ⟨w.heap.size+1,1,none⟩=some (.int .i64 vo)) (first|exact⟨c0,v0,v1⟩|exact⟨d0,e0,e1⟩|exact hq5)
     (first|(go_at_call 91;refine (HMay.out _).mono ?_;rintro r w5 ⟨rfl,hb5⟩;have hz5:=HS.out w5 ((Below.refl w2.heap.size w2).drew.trans (hb5.mono (J0t _)));have hq5:=(⟨hz5.2.1.1.1,hz5.2.1.2.1,hz5.2.1.2.2⟩:_/\_/\_);have HB5:=Q0a ((Below.refl w2.heap.size w2).drew.trans (hb5.mono (J0t _)));clear hz5 hb5)|(go_at_call_of 77 ib;refine (HK1.out _).mono ?_;rintro r w' ⟨rfl,rfl⟩)|(go_at_call_of 77 vb;refine (HK2.out _).mono ?_;rintro r w' ⟨rfl,rfl⟩))
     all_goals (go_wp2_with fail;go_meet;exact⟨rfl,HB5.out⟩)
    ·obtain rfl:ia=false:=by
      have:=HAr.out;rw [J1I,J1I,beq_false_of_ne hk] at this;exact this
     clear HAr;have hk':(k1 != k2)=true:=bne_iff_ne.2 hk
     go_region_held3 (fun W=>W.cell? ⟨w.heap.size,0,none⟩=some (.int .i64 ib)/\W.cell? ⟨w.heap.size+1,0,none⟩=some (.int .i64 vb)/\W.cell? ⟨w.heap.size+1,1,none⟩=some (.int .i64 vo)) (first|exact⟨c0,v0,v1⟩|exact⟨d0,e0,e1⟩|exact hq5)
     (first|(go_at_call 91;refine (HMay.out _).mono ?_;rintro r w5 ⟨rfl,hb5⟩;have hz5:=HS.out w5 ((Below.refl w2.heap.size w2).drew.trans (hb5.mono (J0t _)));have hq5:=(⟨hz5.2.1.1.1,hz5.2.1.2.1,hz5.2.1.2.2⟩:_/\_/\_);have HB5:=Q0a ((Below.refl w2.heap.size w2).drew.trans (hb5.mono (J0t _)));clear hz5 hb5)|(go_at_call_of 77 ib;refine (HK1.out _).mono ?_;rintro r w' ⟨rfl,rfl⟩)|(go_at_call_of 77 vb;refine (HK2.out _).mono ?_;rintro r w' ⟨rfl,rfl⟩))
     all_goals (go_wp2_with fail;go_meet;exact⟨by simp [beq_false_of_ne hk],HB5.out⟩)
 obtain⟨rfl,hb5⟩:=hcut;clear c0 c1 c2 c3 c4 v0 v1 s0 s1 s2 d0 d1 d2 d3 d4 e0 e1 HAr HMay HK1 HK2;cases ia with
 | false =>
  have HE:=Q0a (HQE.out 1 wc (.inl ⟨rfl,rfl⟩) (HS.out wc hb5).1.1);clear HS HC HP hb5 HQE HQR;go_wp2_with fail
  first|exact HE.out|(go_ret2;exact HE.out)
 | true =>
  obtain⟨pa,pv,hr1,hr2,ho1,ho2⟩:=HP.out rfl;obtain⟨pa1,pa2,pa3,pa4,pa5⟩:=Q1b pa;obtain⟨pv1,pv2,pv3,pv4,pv5⟩:=Q1b pv;have HB5:=Q0a hb5;obtain⟨-,⟨⟨c0,c1,c2,c3,c4⟩,v0,v1⟩,s0,s1,s2⟩:=HS.out wc hb5;obtain⟨-,⟨⟨d0,d1,d2,d3,d4⟩,e0,e1⟩,-,-,-⟩:=HS.out wc.drew hb5.drew;clear HP pa pv hb5;obtain⟨ko,rfl⟩:=J1W pa2;obtain⟨kv,rfl⟩:=J1W pv2;rw [J1x] at *
  rw [J1x] at HQR HQE;have hp0:0<2 ^ ko:=Nat.pow_pos (by omega);go_upto_region 7 with fail;go_region;obtain⟨po,hpo⟩:∃po:Nat,po=2 ^ ko:=⟨_,rfl⟩
  obtain⟨pv,hpv⟩:∃pv:Nat,pv=2 ^ kv:=⟨_,rfl⟩
  have epo:(2:Int) ^ ko=(po:Int):=by rw [hpo];simp
  have epv:(2:Int) ^ kv=(pv:Int):=by rw [hpv];simp
  rw [<- hpo] at hp0 pa4 pa5;rw [<- hpv] at pv4 pv5;have hw1:wrap64 (po:Int)=(po:Int):=Q7y pa5;have hw2:wrap64 (pv:Int)=(pv:Int):=Q7y pv5;have hw3:wrap64 (iff+(po:Int))=iff+(po:Int):=Z7C pa5 ho1 ho2;simp only [epo,epv,hw1,hw2,hw3];have HPost:Hid ((((2 ^ ko:Nat):Int))=(po:Int)/\(((2 ^ kv:Nat):Int))=(pv:Int)/\(2:Int) ^ ko=(po:Int)/\(2:Int) ^ kv=(pv:Int)/\po=2 ^ ko):=⟨by rw [hpo],by rw [hpv],epo,epv,hpo⟩
  have HEpo:=Q0a epo;have HW1:=Q0a hw1;clear epo epv hpo hpv hw1 hw2 hw3;have HD:=Q0a (Below.drew HB5.out);by_cases hfit:iff+(po:Int)<=(pv:Int)
  ·have hnf:¬((pv:Int)<iff+(po:Int)):=by omega
   clear d0 d1 d2 d3 d4 e0 e1 c0 c1 c2 c3 c4 v0 v1 s0 s1 s2;obtain⟨-,⟨⟨d0,d1,d2,d3,d4⟩,e0,e1⟩,-,-,-⟩:=HS.out wc.drew HD.out;go_wp2_with fail;simp only [HEpo.out,HW1.out];clear d0 d1 d2 d3 d4 e0 e1;generalize wc.drew=w3 at *
   have HI:Hid (0<=ib/\ib.toNat+po<=256/\0<=vb/\vb.toNat+pv<=256/\po<=128/\0<=iff/\iff<256):=⟨pa1,pa4,pv1,pv4,pa5,ho1,ho2⟩
   clear pa1 pa3 pa4 pa5 pv1 pv3 pv4 pv5 pa2 pv2 hr1 hr2 ho1 ho2 hp0 hnf HB5
   go_loopg [14,63] po (fun gk ov kk wr=>∃k:Nat,kk=.int .i64 k/\k+gk=po/\OutM w3 wr ov (movV f ⟨ib,(ko:Int),ir,iff,ig⟩ ⟨vb,(kv:Int)⟩ k))
   case atStart=>exact⟨0,rfl,by omega,OutM.nil w3⟩
   case round =>
    obtain⟨k,rfl,hkg,hout⟩:=hrel;have HO:=Q0a hout;have HKG:=Q0a hkg;clear hkg;have hbr:Below w2.heap.size w2 wr:=HD.out.trans (hout.2.mono HD.out.size);by_cases hlt:k<po
    ·obtain⟨⟨-,hbW,hTg⟩,⟨⟨c0,c1,c2,c3,c4⟩,v0,v1⟩,s0,s1,s2⟩:=HS.out wr hbr;have kc:=HC.out g wr k hbW hTg (by have:=HPost.out.2.2.2.2;omega) (by trivial);have HSt:=Q0a (Z5w f ⟨ib,(ko:Int),ir,iff,ig⟩ ⟨vb,(kv:Int)⟩ k);have HBr:=Q0a hbr;have hki:(k:Int)<(po:Int):=by omega
     have HLT:=Q0a hlt;have hk128:(k:Int)<128:=by have:=HI.out;omega
     have hk0:(0:Int)<=(k:Int):=by omega
     have hwk:IntKind.i64.wrap (ib+(k:Int))=ib+(k:Int):=Go.IntWalk.i64_in _ (by have:=HI.out;omega);have hwv:IntKind.i64.wrap (vb+iff)=vb+iff:=Go.IntWalk.i64_in _ (by have:=HI.out;omega);have hwd:IntKind.i64.wrap (vb+iff+(k:Int))=vb+iff+(k:Int):=Go.IntWalk.i64_in _ (by have:=HI.out;omega);have hLn:(movV f ⟨ib,(ko:Int),ir,iff,ig⟩ ⟨vb,(kv:Int)⟩ k).length<=16777216:=by
      have h1:=Z1c f ⟨ib,(ko:Int),ir,iff,ig⟩ ⟨vb,(kv:Int)⟩ k;have h2:=HI.out;omega
     have HLn:=Q0a hLn;obtain⟨fk,hfk⟩:∃b,b=f k:=⟨_,rfl⟩
     rw [<- hfk] at kc HSt;clear hout hbr hbW hTg hfk hLn;go_wp2_with fail;refine kc.mono ?_;rintro r w4 ⟨a,b,rfl,hb4⟩;have HB6:=Q0a (hb4.alloc hb4.size (.cells #[.int .u32 a,.int .i64 b] 35));have HO6:=Q0a (HO.out.below HB6.out);obtain⟨-,⟨⟨d0,d1,d2,d3,d4⟩,e0,e1⟩,-,-,-⟩:=HS.out _ (HBr.out.trans (HB6.out.mono HBr.out.size));clear hb4 kc c0 c1 c2 c3 c4 v0 v1 s0 s1 s2 HO HBr HB6;cases fk with
     | true =>
      obtain⟨v',w',happ,ho'⟩:=HO6.out.app HLn.out (itMv ⟨ib,(ko:Int),ir,iff,ig⟩ ⟨vb,(kv:Int)⟩ k) 58;have HR:Hid (OutM w3 w' v' (movV f ⟨ib,(ko:Int),ir,iff,ig⟩ ⟨vb,(kv:Int)⟩ (k+1))):=by
       rw [HSt.out,if_pos rfl];exact ho'
      have hz6:(w4.alloc (.cells #[.int .u32 a,.int .i64 b] 35)).heap.size=w4.heap.size+1:=by simp
      rw [hz6] at happ;unfold itMv at happ;dsimp only at happ;clear hz6 ho' HSt HO6 HLn;go_wp2_with (at_builtin;refine Lib.wpList_append_run _ rfl _ _ _ _ rfl _ _ rfl rfl _ _ happ ?_);go_roundg (po-(k+1))
      case measure=>have:=HKG.out;omega
      case rel=>exact⟨k+1,by go_num,by have:=HLT.out;omega,HR.out⟩
     | false =>
      have HR:Hid (OutM w3 (w4.alloc (.cells #[.int .u32 a,.int .i64 b] 35)) u14 (movV f ⟨ib,(ko:Int),ir,iff,ig⟩ ⟨vb,(kv:Int)⟩ (k+1))):=by
       rw [HSt.out,if_neg (by decide),J2y];exact HO6.out
      clear HSt HO6 HLn;go_wp2_with fail;go_roundg (po-(k+1))
      case measure=>have:=HKG.out;omega
      case rel=>exact⟨k+1,by go_num,by have:=HLT.out;omega,HR.out⟩
    ·obtain rfl:k=po:=by have:=HKG.out;omega
     have HX:Hid (Q (.returned (.tuple #[u14,.int .i64 0])) wr):=by
      refine HQR.out (by trivial) ?_ _ _ ?_
      ·rw [HPost.out.1,HPost.out.2.1];exact hfit
      ·rw [<- HPost.out.2.2.2.2];have h1:=(HS.out w3 HD.out).1.1;exact⟨Q1T hout.1 h1.size,h1.trans (hout.2.mono h1.size)⟩
     clear hout hbr HO HS HC HQE HQR;go_wp2_with fail
     first|exact HX.out|(go_ret2;exact HX.out)
  ·have hnf:(pv:Int)<iff+(po:Int):=by omega
   have HE:=Q0a (HQE.out 2 wc.drew (.inr ⟨by trivial,by rw [HPost.out.1,HPost.out.2.1];first|exact hfit|omega,rfl⟩) (HS.out wc.drew HD.out).1.1);clear HS HC HB5 HQE HQR;go_wp2_with fail
   first|exact HE.out|(go_ret2;exact HE.out)
theorem Z2J {w:World} {Z:SP} {fr:List Nat} {N K:Nat} {M:Int} (hs:Sep w Z.hl) (ok:Z.Ok fr N K M) {x:Nat} (hx:x<4294967296) (i:It) (v:Wi) (hi:i.Wf) (hv:v.Wf) :
  Calls prog 24 #[.pointer (some ⟨Z.s,0,none⟩),.int .u32 x,.agg #[.int .i64 i.base,.int .i64 i.order,.int .i64 i.r,.int .i64 i.off,.bool i.g],.agg #[.int .i64 v.base,.int .i64 v.order]] w (MvsR Z x i v w):=by
 cases hp:pget Z.S.l 1 x with
 | none =>
  refine (Q6f hs ok.core hx i v 8 (by decide) (.inl ⟨hp,rfl⟩)).mono ?_;rintro r w' ⟨rfl,hb⟩;exact⟨hb,.inl ⟨8,by decide,rfl,.inl ⟨hp,rfl⟩⟩⟩
 | some p =>
  by_cases hk:p.kind=2
  case neg =>
   refine (Q6f hs ok.core hx i v 10 (by decide) (.inr ⟨p,hp,hk,rfl⟩)).mono ?_;rintro r w' ⟨rfl,hb⟩;exact⟨hb,.inl ⟨10,by decide,rfl,.inr ⟨p,hp,.inl ⟨hk,rfl⟩⟩⟩⟩
  have hb0:Below w.heap.size w ((w.alloc (.cells #[.int .i64 i.base,.int .i64 i.order,.int .i64 i.r,.int .i64 i.off,.bool i.g] 54)).alloc (.cells #[.int .i64 v.base,.int .i64 v.order] 56)):=((Below.refl w.heap.size w).alloc (J0t _) _).alloc (by simp) _;have s0:=(hs.grown hb0).sep;have hii:=(pget_some.1 hp).1;have hst:=(pget_some.1 hp).2.2;refine Q9S (fac:=p.fac) (f:=Q1O Z x i) (T:=fun g W=>Sep W Z.hl/\TblZ Z p g W) ?_ ?_ ?_ ?_ ?_
  ·refine (Q0X s0 ok.core hx hp hk).mono ?_;rintro r w' ⟨g,rfl,hb,hg⟩;exact⟨g,rfl,hb,(s0.grown hb).sep,hg⟩
  ·rintro g W W' ⟨h1,h2⟩ hb;exact⟨(h1.grown hb).sep,h2.grown h1 hb⟩
  ·rintro g W k-⟨h1,h2⟩ hlt harg;have hal:Q1m i.base i.order=true:=by
    unfold Q2w Q6d at harg;simp only [J0O,decide_eq_true_eq] at harg;exact harg.1.1
   obtain⟨q1,q2,q3,q4,q5⟩:=Q1b hal;have T:=(ok.tpi.x (p.fac:Int)).tt ok.core hii hst hk (SP.sS h1) h2.c;have hzz:0<=i.base+(k:Int)/\i.base+(k:Int)<256:=by omega
   have hzn:(i.base+(k:Int)).toNat=i.base.toNat+k:=by omega
   have hat:(Z.tb (x%256)).at' (i.base+(k:Int))=Q0f Z.S.l Z.tb x (i.base.toNat+k):=by
    unfold TB.at';rw [if_pos hzz,hzn,Q0i hp hk (by omega)]
   have kc:=Q1r T (x:Int) (p.fac:Int) (i.base+(k:Int)) fun e he=>by
    rw [hat] at he;exact ok.fpi.low ok.core.inv.lok he
   rw [hat] at kc;obtain⟨a,b,hab⟩:=Q4J (Q0f Z.S.l Z.tb x (i.base.toNat+k));rw [hab] at kc;refine kc.mono ?_;rintro r w' ⟨rfl,hb⟩;exact⟨a,b,rfl,hb⟩
  ·intro er w' he hb;refine⟨hb,.inl ⟨er,?_,rfl,.inr ⟨p,hp,.inr ⟨hk,he⟩⟩⟩⟩;rcases he with ⟨_,rfl⟩|⟨_,_,rfl⟩ <;> decide
  ·intro ha hf a w' ho;obtain⟨a0,cap,rfl,hrow⟩:=Q7v ho.1;have hcap:(movV (Q1O Z x i) i v (2 ^ i.order.toNat)).length<=cap:=by
    rcases ho.1.2 with ⟨e,h0⟩|⟨g,c,cur,e,_,_,hn,_⟩
    ·rw [h0];exact J2u _
    ·cases e;exact hn
   refine⟨ho.2,.inr ⟨p,a0,cap,_,hp,hk,ha,hf,rfl,rfl,hcap,?_⟩⟩;have hal:Q1m i.base i.order=true/\Q1m v.base v.order=true/\1<=i.r/\i.r<=15/\0<=i.off/\i.off<256:=by
    unfold Q2w Q6d at ha;simp only [J0O,decide_eq_true_eq] at ha;exact⟨ha.1.1,ha.2.1,ha.1.2⟩
   obtain⟨q1,q2,q3,q4,q5⟩:=Q1b hal.1;obtain⟨r1,r2,r3,r4,r5⟩:=Q1b hal.2.1;refine⟨fun j hj=>?_,fun ad h0 had hkey=>?_⟩
   ·have hLj:(movV (Q1O Z x i) i v (2 ^ i.order.toNat))[j]?=some ((movV (Q1O Z x i) i v (2 ^ i.order.toNat))[j]):=J2J hj;have hgd:(movV (Q1O Z x i) i v (2 ^ i.order.toNat)).getD j noMv=(movV (Q1O Z x i) i v (2 ^ i.order.toNat))[j]:=by rw [J4L,hLj];rfl
    have hmem:(movV (Q1O Z x i) i v (2 ^ i.order.toNat))[j]∈movV (Q1O Z x i) i v (2 ^ i.order.toNat):=J3N hj;obtain⟨g,hg,_,hlt,_⟩:=hrow (j*4) _ (Q3o _ j 0 _ _ hLj rfl);refine⟨g,0,hg,hlt,fun t u hu=>?_,?_⟩
    ·have hu:((movV (Q1O Z x i) i v (2 ^ i.order.toNat))[j]).cells[t]?=some u:=by rw [<- hgd];exact hu
     obtain⟨g',hg',_,_,hc⟩:=hrow (j*4+t) u (Q3o _ j t _ _ hLj hu);rw [hg] at hg';cases hg';rw [J2W];exact hc
    ·show Mv.Wf ((movV (Q1O Z x i) i v (2 ^ i.order.toNat)).getD j noMv);rw [hgd];unfold movV at hmem;obtain⟨k,hk',e⟩:=J0z.1 hmem;have hk2:=J0J.1 (J0N.1 hk').1;unfold movV;rw [<- e];unfold itMv;exact⟨⟨by dsimp only;omega,by dsimp only;omega⟩,⟨by dsimp only;omega,by dsimp only;omega⟩,⟨by dsimp only;omega,by dsimp only;omega⟩⟩
   ·subst had;have hL:(movV (Q1O Z x i) i v (2 ^ i.order.toNat)).length≠0:=h0;have hj0:0<(movV (Q1O Z x i) i v (2 ^ i.order.toNat)).length:=by omega
    obtain⟨g,hg,hge,_⟩:=hrow (0*4) _ (Q3o _ 0 0 _ _ (J2J hj0) rfl);cases hg;exact absurd (hs.lt hkey) (by dsimp only;omega)
def ksI (f:Nat->Bool) (n:Nat):List Nat:=(List.range n).filter f
theorem Z7D (f:Nat->Bool) (n:Nat):(ksI f n).Pairwise (·<·):=List.Pairwise.filter _ J0M
theorem Q7z (f:Nat->Bool) (i:It) (v:Wi) (n:Nat):movV f i v n=(ksI f n).map (itMv i v):=rfl
theorem Q9T {f:Nat->Bool} {i:It} {v:Wi} {n j:Nat} (hj:j<(movV f i v n).length):∃k,(ksI f n)[j]?=some k/\k<n/\f k=true/\(movV f i v n).getD j noMv=itMv i v k:=by
 rw [Q7z,J2b] at hj;have hk:(ksI f n)[j]?=some (ksI f n)[j]:=J2J hj;have hm:=J0N.1 (J3N hj);refine⟨_,hk,J0J.1 hm.1,hm.2,?_⟩;rw [Q7z,J4L,J2d,hk];rfl
theorem J0b {f:Nat->Bool} {n a b x y:Nat} (ha:(ksI f n)[a]?=some x) (hb:(ksI f n)[b]?=some y) (hab:a<b):x<y:=by
 have hp:=Z7D f n;obtain⟨h1,h2⟩:=J0K.1 ha;obtain⟨h3,h4⟩:=J0K.1 hb;rw [J3t] at hp;have:=hp a b h1 h3 hab;rw [h2,h4] at this;exact this
theorem Z9p {f:Nat->Bool} {i:It} {v:Wi} {n k:Nat} (hk:k<n) (hf:f k=true):∃j,j<(movV f i v n).length/\(movV f i v n).getD j noMv=itMv i v k:=by
 have hm:k∈ksI f n:=J0N.2 ⟨J0J.2 hk,hf⟩;obtain⟨j,hj⟩:=J3g.1 hm;obtain⟨hl,_⟩:=J0K.1 hj;refine⟨j,by rw [Q7z,J2b];exact hl,?_⟩;rw [Q7z,J4L,J2d,hj];rfl
theorem Q9U {x y:Nat} {A:Nat->Mv} {a0:AV} {nx:Int} (hxy:x≠y) {k:Nat} {a:AV} (h:AddsM x y A a0 nx k a):(∀u s:Nat,(u=y->∀j,j<k->s≠(A j).dst.toNat)->a.en u s=a0.en u s)/\∀j,j<k->∃c,a0.en x (A j).src.toNat=some c/\a.en y (A j).dst.toNat=some (c.1,c.2&&&(A j).r.toNat):=by
 induction h with
 | zero=>exact⟨fun _ _ _=>rfl,fun j hj=>by omega⟩
 | succ k a c b _ hsrc hdst ih =>
  obtain⟨i1,i2⟩:=ih;refine⟨fun u s hu=>?_,fun j hj=>?_⟩
  ·show setA a.en y (A k).dst.toNat _ u s=_;unfold setA;rw [if_neg]
   ·exact i1 u s fun e j hj=>hu e j (by omega)
   ·rintro⟨e1,e2⟩;exact hu e1 k (by omega) e2
  ·by_cases e:j=k
   ·subst e;refine⟨c,?_,?_⟩
    ·rw [<- i1 x (A j).src.toNat fun e=>absurd e hxy];exact hsrc
    ·show setA a.en y (A j).dst.toNat _ y (A j).dst.toNat=_;unfold setA;rw [if_pos ⟨rfl,rfl⟩]
   ·obtain⟨c',q1,q2⟩:=i2 j (by omega);refine⟨c',q1,?_⟩;show setA a.en y (A k).dst.toNat _ y (A j).dst.toNat=_;unfold setA;rw [if_neg]
    ·exact q2
    ·rintro⟨_,e2⟩;rw [e2,hdst] at q2;cases q2
theorem Q8Q {x:Nat} {A:Nat->Mv} {a0:AV} {next:Int} (k0:AvOk a0 next) (hx:x<4294967296) {k:Nat} {a:AV} (h:Q2V x A a0 k a):AvOk a next/\(∀u s:Nat,u≠x->a.en u s=a0.en u s)/\∀s:Nat,a.en x s=none∨a.en x s=a0.en x s:=by
 induction h with
 | zero=>exact⟨k0,fun _ _ _=>rfl,fun _=>.inr rfl⟩
 | skip k a _ _ ih=>exact ih
 | lift k a a' _ _ hw ih =>
  obtain⟨k1,i1,i2⟩:=ih;have k2:=k1.weak1 (m:=15) (by omega) (ownN a.N (x:Int) (A k).src);rw [hw] at k2;have key:∀u s:Nat,(u≠x->a'.en u s=a.en u s)/\(a'.en u s=none∨a'.en u s=a.en u s):=fun u s=>by
   by_cases h0:ownN a.N (x:Int) (A k).src=0
   ·exfalso;unfold weak1 at hw;cases hf:find a.N (ownN a.N (x:Int) (A k).src) with
    | none=>rw [hf] at hw;cases hw
    | some n =>
     have:=(k1.ok.rng n (Q0b hf).1).1;rw [(Q0b hf).2,h0] at this;omega
   ·obtain⟨n,hn,e1,e2,e3⟩:=Z0U k1.ok h0;have hf:find a.N (ownN a.N (x:Int) (A k).src)=some n:=by rw [e3];exact Q0g k1.ok.ids hn
    have W:=Q5S (m:=15) k1.ok k1.is hf;have hsm:=k1.ok.sm n hn;obtain⟨z,hz⟩:=J1W hsm.2.2.1;have hen:=W.en u s;rw [hw] at hen;have hz2:(A k).src=(z:Int):=by rw [<- e2,hz]
    have hiff:=Q4s k1.ok hn u s;rw [e1,hz] at hiff;rw [e3] at hen;refine⟨fun hu=>?_,?_⟩
    ·rw [hen,if_neg];intro e;have:=(hiff.1 e).1;omega
    ·rw [hen];split
     ·left;refine Z5f fun c hc=>(k1.r u s c hc).2
     ·exact .inr rfl
  refine⟨k2,fun u s hu=>((key u s).1 hu).trans (i1 u s hu),fun s=>?_⟩;rcases (key x s).2 with h|h
  ·exact .inl h
  ·rw [h];exact i2 s
theorem Z7E:∀r,r<16->∀m,r&&&m<16:=fun r h m=>J1E Nat.and_le_left h
theorem Z5x {x y n:Nat} {A:Nat->Mv} {a0:AV} {nx:Int} (k0:AvOk a0 nx) (hxy:x≠y) (hy:y<4294967296) (hfit:AllFit a0.en x y n A) {k:Nat} {a:AV} (h:AddsM x y A a0 nx k a):k<=n->AvOk a (nx+k):=by
 induction h with
 | zero=>intro _;rw [show nx+((0:Nat):Int)=nx by omega];exact k0
 | succ k a c b hadd hsrc hdst ih =>
  intro hk;have kk:=ih (by omega);have ft:=(hfit k (by omega)).1;obtain⟨c0,hc0,h4,hr0⟩:=ft.full;have hcc:c=c0:=by
   rw [(Q9U hxy hadd).1 x (A k).src.toNat fun e=>absurd e hxy,hc0] at hsrc;exact (J1p hsrc).symm
  subst hcc;obtain⟨nd,hnd,q1,q2⟩:=kk.has x _ c hsrc;have hs:(((A k).src.toNat:Nat):Int)=(A k).src:=by have:=ft.src;omega
  have hd:(((A k).dst.toNat:Nat):Int)=(A k).dst:=by have:=ft.dst;omega
  rw [hs] at q2;have hid:ownN a.N (x:Int) (A k).src=nd.id:=by rw [<- q1,<- q2];exact Q1k kk.ok hnd
  have hno:∀e∈a.N,(e.q.sp,e.q.sl)≠((y:Int),(A k).dst):=fun e he h=>by
   obtain⟨c',hc'⟩:=kk.is e he;have h1:e.q.sp=(y:Int):=congrArg Prod.fst h;have h2:e.q.sl=(A k).dst:=congrArg Prod.snd h;rw [h1,h2,J1x,hdst] at hc';cases hc'
  have hpar:ownN a.N (x:Int) (A k).src=0∨∃p,find a.N (ownN a.N (x:Int) (A k).src)=some p:=.inr ⟨nd,by rw [hid];exact Q0g kk.ok.ids hnd⟩;have okN:=kk.ok.add b hpar hno (by omega) (by omega) ft.dst.1 ft.dst.2;have hnx:nx+((k+1:Nat):Int)=nx+(k:Int)+1:=by omega
  rw [hnx];have upd:∀e∈a.N,∃e'∈addN a.N (ownN a.N (x:Int) (A k).src) (nx+(k:Int)+1) b (y:Int) (A k).dst,e'.q.sp=e.q.sp/\e'.q.sl=e.q.sl:=fun e he=>by
   have hf:=Q2O (par:=ownN a.N (x:Int) (A k).src) (sp:=(y:Int)) (sl:=(A k).dst) (b:=b) kk.ok e.id;have hrng:=kk.ok.rng e he;rw [if_neg (by omega),Q0g kk.ok.ids he] at hf;have hm:=(Q0b hf).1;refine⟨_,hm,?_,?_⟩ <;> (dsimp only;split <;> rfl)
  refine⟨okN,fun e he=>?_,fun h s c' hc'=>?_,fun h s c' hc'=>?_⟩
  ·show ∃c',setA a.en y (A k).dst.toNat _ e.q.sp.toNat e.q.sl.toNat=some c';unfold setA;by_cases hh:e.q.sp.toNat=y/\e.q.sl.toNat=(A k).dst.toNat
   ·rw [if_pos hh];exact⟨_,rfl⟩
   ·rw [if_neg hh];rcases Z7k he with ⟨e0,he0,rfl⟩|rfl
    ·obtain⟨c',hc'⟩:=kk.is e0 he0;refine⟨c',?_⟩;rw [<- hc'];dsimp only;split <;> rfl
    ·exact absurd ⟨by dsimp only;omega,rfl⟩ hh
  ·rcases Q1g hc' with ⟨_,_,e3⟩|⟨_,e3⟩
   ·have e3:=J1p e3;have hr:=kk.r x _ c hsrc;rw [<- e3];have h5:=Z7E c.2 hr.2 (A k).r.toNat;dsimp only;omega
   ·exact kk.r h s c' e3
  ·rcases Q1g hc' with ⟨e1,e2,_⟩|⟨_,e3⟩
   ·rw [e1,e2];exact⟨⟨nx+(k:Int)+1,b,⟨(y:Int),(A k).dst,ownN a.N (x:Int) (A k).src,[]⟩⟩,J1m _ (J2z.2 rfl),rfl,hd.symm⟩
   ·obtain⟨e,he,g1,g2⟩:=kk.has h s c' e3;obtain⟨e',he',g3,g4⟩:=upd e he;exact⟨e',he',g3.trans g1,g4.trans g2⟩
theorem Z5y {b o:Int} (h:Q1m b o=true) (hb:b<128):b.toNat+2 ^ o.toNat<=128:=by
 unfold Q1m at h;obtain⟨h1,h2,h3,h4,h5⟩:=of_decide_eq_true h;obtain⟨n,rfl⟩:=J1W h1;obtain⟨k,rfl⟩:=J1W h3;rw [J1x,J1x] at *
 have hk:k=0∨k=1∨k=2∨k=3∨k=4∨k=5∨k=6∨k=7:=by omega
 rcases hk with rfl|rfl|rfl|rfl|rfl|rfl|rfl|rfl <;> simp at h5 ⊢ <;> omega
theorem Q8R (a x b y:Nat):Q0u (lt2 2 a x 2 b y) 0=320:=by kernel_rfl
def itE (f:Nat->Bool) (k:Nat) (h t:Nat):Option (Nat×Nat):=if h=1/\32<=t/\t<32+k/\f (t-32)=true then some (2,15) else none
def ItQ (s:Nat) (f:Nat->Bool) (k:Nat) (w0 wr:World):Prop:=∃(Z:SP) (a x b y:Nat),Z.s=s/\MkZ Z 1 65536 3 (k:Int) (lt2 2 a x 2 b y)/\(∀h t,Z.av.en h t=itE f k h t)/\Step [] Z.hl w0 wr
theorem ItQ.below {s:Nat} {f:Nat->Bool} {k:Nat} {w0 wr:World} (h:ItQ s f k w0 wr):Below w0.heap.size w0 wr:=by
 obtain⟨Z,a,x,b,y,_,_,_,st⟩:=h;exact st.fresh
theorem Z9q {w w1:World} (f:Nat->Bool) {S:CO} (fo:Q6H S 6 65536 1) (st:Step [] (S.hl++[]) w w1) :
  Calls prog 16 #[.pointer (some ⟨S.c,0,none⟩),.int .u32 0,.int .i64 2,.int .i64 0] w1 fun r w2=>r=.returned (.tuple #[.int .u32 1,.int .i64 0]) /\
   Calls prog 16 #[.pointer (some ⟨S.c,0,none⟩),.int .u32 0,.int .i64 2,.int .i64 0] w2 fun r w3=>r=.returned (.tuple #[.int .u32 2,.int .i64 0]) /\
    Calls prog 17 #[.pointer (some ⟨S.c,0,none⟩)] w3 fun r w4=>∃s,r=.returned (.pointer (some ⟨s,0,none⟩))/\ItQ s f 0 w w4:=by
 refine (Q6b (Z5s fo st) 2 1 (by omega) (by decide) (by omega) (by omega) fun l hl=>by subst hl;exact Z7T).mono ?_;rintro r w2 ⟨rfl,q2⟩;refine⟨rfl,(Q6b q2 2 2 (by omega) (by decide) (by omega) (by omega) fun l hl=>by
  obtain⟨l0,a,x,rfl,rfl⟩:=hl;exact Z7U 2 a x).mono ?_⟩
 rintro r w3 ⟨rfl,S3,l,ec,⟨l1,b,y,⟨l2,a,x,rfl,rfl⟩,rfl⟩,m,st3⟩;refine⟨rfl,?_⟩;rw [<- ec];refine (Z0N st3.sep fun _=>TB.emp).mono ?_;rintro r w4 ⟨Z,rfl,hZ,st4⟩;obtain⟨m1,m2,m3⟩:=Z5t m hZ;refine⟨Z.s,rfl,Z,a,x,b,y,rfl,m1,fun h t=>?_,st3.trans st4⟩;rw [m2];unfold itE;rw [if_neg (by omega)]
theorem Z7F {f:Nat->Bool} {k:Nat} (hf:f k=false) (h t:Nat):itE f (k+1) h t=itE f k h t:=by
 unfold itE;by_cases e:t=32+k
 ·rw [if_neg (fun hc:_/\_=>by rw [e,show 32+k-32=k by omega,hf] at hc;simp at hc),if_neg (by omega)]
 ·have:(h=1/\32<=t/\t<32+(k+1)/\f (t-32)=true)↔(h=1/\32<=t/\t<32+k/\f (t-32)=true):=by
   constructor
   ·rintro⟨a,b,c,d⟩;exact⟨a,b,by omega,d⟩
   ·rintro⟨a,b,c,d⟩;exact⟨a,b,by omega,d⟩
  simp only [this]
theorem Z7G {f:Nat->Bool} {k:Nat} (hf:f k=true) (h t:Nat):itE f (k+1) h t=setA (itE f k) 1 (32+k) (some (2,15)) h t:=by
 unfold setA;by_cases e:h=1/\t=32+k
 ·rw [if_pos e];unfold itE;rw [if_pos ⟨e.1,by omega,by omega,by rw [e.2,show 32+k-32=k by omega];exact hf⟩]
 ·rw [if_neg e];unfold itE;have:(h=1/\32<=t/\t<32+(k+1)/\f (t-32)=true)↔(h=1/\32<=t/\t<32+k/\f (t-32)=true):=by
   constructor
   ·rintro⟨a,b,c,d⟩;exact⟨a,b,by omega,d⟩
   ·rintro⟨a,b,c,d⟩;exact⟨a,b,by omega,d⟩
  simp only [this]
theorem Z9r {s:Nat} {f:Nat->Bool} {k:Nat} {w0 wr:World} (h:ItQ s f k w0 wr) (hf:f k=false):ItQ s f (k+1) w0 wr:=by
 obtain⟨Z,a,x,b,y,h1,m,h3,st⟩:=h;exact⟨Z,a,x,b,y,h1,m.same (m.ok.mono (J0t _) (J0t _) (by omega)) (SameN.refl Z),fun u t=>by rw [Z7F hf];exact h3 u t,st⟩
theorem Z9s {s:Nat} {f:Nat->Bool} {k:Nat} {w0 wr:World} (h:ItQ s f k w0 wr) (hk:k<16) (hf:f k=true) :
  Calls prog 18 #[.pointer (some ⟨s,0,none⟩),.int .u32 1,.int .i64 (32+(k:Int)),.agg #[.int .u32 2,.int .i64 15]] wr fun r w'=>r=.returned (.int .i64 0)/\ItQ s f (k+1) w0 w':=by
 obtain⟨Z,a,x,b,y,rfl,m,hE,st⟩:=h;refine (Q8K st.sep m.ok (by omega) (x:=1) (h:=2) (by omega) (by omega) (32+(k:Int)) 15).mono ?_;rintro r w' ⟨er,rfl,R⟩;obtain⟨g1,g2⟩:=Z5v 2 a x 2 b y;rw [<- m.l] at g1 g2;have hz:(32+(k:Int)).toNat=32+k:=by omega
 obtain⟨rfl,Z',k1,k2,k3,⟨b1,k4⟩,k5,k6⟩:=R.fine g1 rfl (by omega) g2 (by omega) (by show (2:Nat)=8↔(128:Int)<=32+(k:Int);omega) (by rw [hz,hE];unfold itE;rw [if_neg (by omega)]) fun er =>
  m.room ((List.range 16).map fun t=>(1,32+t)) [(1,2)] (fun h t c hc=>by
   rw [hE] at hc;unfold itE at hc;split at hc
   ·rename_i hx;exact J0z.2 ⟨t-32,J0J.2 (by omega),by rw [hx.1,show 32+(t-32)=t by omega]⟩
   ·cases hc) (fun u v h=>by
   obtain⟨t,ht,e⟩:=J0z.1 h;have h1:1=u:=congrArg Prod.fst e;have h2:32+t=v:=congrArg Prod.snd e;have:=J0J.1 ht;have:v/16=2:=by omega
   rw [<- h1,this];exact J2z.2 rfl) (o:=3) (by rw [Z7V];exact J0t _) (by simp) (cs:=320) (Q8R a x b y) (by simp)
 refine⟨rfl,Z',a,x,b,y,k2.s,m.same k1 k2,fun h t=>?_,st.trans k6⟩;rw [k3,Z7G hf];have:Z.av.en=itE f k:=by funext h t;exact hE h t
 rw [this,hz];rfl
theorem Z5z {Z:SP} {f:Nat->Bool} {a x b y:Nat} (m:MkZ Z 1 65536 3 16 (lt2 2 a x 2 b y)) (hE:∀h t,Z.av.en h t=itE f 16 h t) {A:Nat->Mv} {n:Nat} {D:Nat} (hD:D+16<=256) (hdst:∀j,j<n->D<=(A j).dst.toNat/\(A j).dst.toNat<D+16) {er:Int}:¬WhyM Z [] 3 0 1 2 n 0 A er:=by
 rintro⟨k,S',t',hk,L,h0,hw⟩;obtain⟨bq,ch,hb⟩:=m.q;have hfe:find Z.S.P.q.E 0=some ⟨0,bq,⟨65536,ch,0,-1,0⟩⟩:=by rw [hb];rfl
 obtain⟨e',he',hq',_⟩:=L.alt.acc 0 _ hfe;have ent:∀i t,i<256->t<256->(updT Z.tb 2 t' i).en t≠none->(i=1/\32<=t/\t<48)∨(i=2/\D<=t/\t<D+16):=fun i t hi ht h=>by
  have old:(Z.tb i).en t≠none->(i=1/\32<=t/\t<48):=fun h=>by
   obtain⟨u,c,hu,hc⟩:=m.ok.entries hi ht h;rw [hE] at hc;unfold itE at hc;split at hc
   ·omega
   ·cases hc
  by_cases e:i=2
  ·subst e;rw [updT_same] at h;by_cases hj:∃j,j<k/\t=(A j).dst.toNat
   ·obtain⟨j,hj1,hj2⟩:=hj;have:=hdst j (by omega);exact .inr ⟨rfl,by omega,by omega⟩
   ·rw [L.old t fun j _ hj2 e=>hj ⟨j,hj2,e⟩] at h;exact .inl (old h)
  ·rw [Q0Q e] at h;exact .inl (old h)
 refine Z7S (Z:=Z.setS S' (updT Z.tb 2 t')) L.ok L.tpi he' (o:=3) (lv:=3) (nd:=32) (by show (S'.l.filter Pl.is).length<=3;rw [L.alt.l,m.l,Z7V];exact J0t _)
  (Q6a L.tpi.full [(1,2),(2,D/16),(2,D/16+1)] fun i t hi ht h=>?_) (Q5Z (((List.range 16).map fun t=>(1,32+t))++((List.range 16).map fun t=>(2,D+t))) fun i t hi ht h=>?_) (by omega) ?_ hw
 ·rcases ent i t hi ht h with ⟨rfl,h1,h2⟩|⟨rfl,h1,h2⟩
  ·have:t/16=2:=by omega
   rw [this];simp
  ·have:t/16=D/16∨t/16=D/16+1:=by omega
   rcases this with h|h <;> rw [h] <;> simp
 ·rcases ent i t hi ht h with ⟨rfl,h1,h2⟩|⟨rfl,h1,h2⟩
  ·exact J1n _ (J0z.2 ⟨t-32,J0J.2 (by omega),by rw [show 32+(t-32)=t by omega]⟩)
  ·exact J1m _ (J0z.2 ⟨t-D,J0J.2 (by omega),by rw [show D+(t-D)=t by omega]⟩)
 ·have hcs:Q0u (Z.setS S' (updT Z.tb 2 t')).S.l 0=320:=by
   show Q0u S'.l 0=320;rw [L.alt.l,m.l,Q8R]
  rw [hcs,hq'];show (320:Int)+256*((3:Nat):Int)+48*((32:Nat):Int)+304<=65536-0;omega
def kapV (i:It) (v:Wi) (d:Nat):Int:=(d:Int)-v.base-i.off
def Q2x (f:Nat->Bool) (i:It) (v:Wi) (d:Nat):Bool:=decide (0<=kapV i v d/\kapV i v d<((2 ^ i.order.toNat:Nat):Int)/\32<=i.base+kapV i v d/\i.base+kapV i v d<48)&&f (i.base+kapV i v d-32).toNat
theorem Z7W:∀r,r<16->15&&&r=r:=by decide
def ItF (s:Nat) (f:Nat->Bool) (i:It) (v:Wi) (w0 wr:World):Prop:=∃(Z:SP) (fr:List Nat) (N K:Nat) (M:Int) (p1 p2:Pl),Z.s=s/\Z.Ok fr N K M/\pget Z.S.l 1 1=some p1/\p1.kind=2/\pget Z.S.l 1 2=some p2/\p2.kind=2/\(∀d,Z.av.en 2 d=if Q2x f i v d=true then some (2,i.r.toNat) else none)/\(∀t,Z.av.en 1 t≠none->32<=t/\t<48)/\Step [] Z.hl w0 wr
theorem Q7A {f:Nat->Bool} {k h t:Nat} {c:Nat×Nat} (e:itE f k h t=some c):h=1/\32<=t/\t<32+k/\f (t-32)=true/\c=(2,15):=by
 unfold itE at e;split at e
 ·rename_i hx;exact⟨hx.1,hx.2.1,hx.2.2.1,hx.2.2.2,(J1p e).symm⟩
 ·cases e
theorem Z1d (f:Nat->Bool) (k t:Nat):itE f k 2 t=none:=by
 unfold itE;rw [if_neg (by omega)]
section
variable {Z:SP} {f:Nat->Bool} {a x b y:Nat} {i:It} {v:Wi}
theorem Q6g (m:MkZ Z 1 65536 3 16 (lt2 2 a x 2 b y)) (hE:∀h t,Z.av.en h t=itE f 16 h t) {k:Nat}:Q1O Z 1 i k=true↔32<=i.base.toNat+k/\i.base.toNat+k<48/\f (i.base.toNat+k-32)=true:=by
 unfold Q1O;have h:=hE 1 (i.base.toNat+k)
 constructor
 ·intro e;obtain⟨en,he⟩:=J3U.1 e;have h2:Z.av.en 1 (i.base.toNat+k)=some (en.h,en.r):=Q6i he;rw [h] at h2;obtain⟨_,h3,h4,h5,_⟩:=Q7A h2;exact⟨h3,by omega,h5⟩
 ·rintro⟨h3,h4,h5⟩;have h2:Z.av.en 1 (i.base.toNat+k)=some (2,15):=by
   rw [h];unfold itE;rw [if_pos ⟨rfl,h3,by omega,h5⟩]
  obtain⟨e,he,_⟩:=Q2t h2;rw [he];rfl
theorem Z5A (ha:Q2w i v=true):(0<=i.base/\i.base.toNat+2 ^ i.order.toNat<=256)/\(0<=v.base/\v.base.toNat+2 ^ v.order.toNat<=256)/\(1<=i.r/\i.r<=15)/\(0<=i.off/\i.off<256)/\(i.base<128->v.base.toNat+2 ^ v.order.toNat<=128):=by
 unfold Q2w Q6d at ha;simp only [J0O,decide_eq_true_eq] at ha;obtain⟨⟨h1,h2⟩,h3,h4⟩:=ha;obtain⟨q1,q2,q3,q4,q5⟩:=Q1b h1;obtain⟨r1,r2,r3,r4,r5⟩:=Q1b h3;refine⟨⟨q1,q4⟩,⟨r1,r4⟩,⟨h2.1,h2.2.1⟩,⟨h2.2.2.1,h2.2.2.2⟩,fun hb=>Z5y h3 ?_⟩;have h4:=eq_of_beq h4;rw [decide_eq_true hb] at h4;exact of_decide_eq_true h4.symm
theorem J0c (m:MkZ Z 1 65536 3 16 (lt2 2 a x 2 b y)) (hE:∀h t,Z.av.en h t=itE f 16 h t) (ha:Q2w i v=true) (hf:i.off+((2 ^ i.order.toNat:Nat):Int)<=((2 ^ v.order.toNat:Nat):Int)) {L:List Mv} (hL:L=movV (Q1O Z 1 i) i v (2 ^ i.order.toNat)) :
  AllFit Z.av.en 1 2 L.length (fun j=>L.getD j noMv):=by
 subst hL;obtain⟨⟨i1,i2⟩,⟨v1,v2⟩,⟨r1,r2⟩,⟨o1,o2⟩,hlow⟩:=Z5A ha;intro j hj;obtain⟨k,hks,hk,hfk,e⟩:=Q9T hj;obtain⟨b1,b2,b3⟩:=(Q6g m hE).1 hfk;have hib:i.base<128:=by omega
 have hv:=hlow hib;refine⟨?_,?_⟩
 ·show FitM Z.av.en 1 2 ((movV (Q1O Z 1 i) i v (2 ^ i.order.toNat)).getD j noMv);rw [e];unfold itMv;have hs:(i.base+(k:Int)).toNat=i.base.toNat+k:=by omega
  refine⟨⟨by dsimp only;omega,by dsimp only;omega⟩,⟨by dsimp only;omega,by dsimp only;omega⟩,⟨by dsimp only;omega,by dsimp only;omega⟩,?_,⟨(2,15),?_,by decide,?_⟩,?_⟩
  ·dsimp only;rw [decide_eq_true (by omega:i.base+(k:Int)<128),decide_eq_true (by omega:v.base+i.off+(k:Int)<128)]
  ·dsimp only;rw [hs,hE];unfold itE;rw [if_pos ⟨rfl,b1,by omega,b3⟩]
  ·dsimp only;rw [Z7W _ (by omega)];omega
  ·dsimp only;rw [hE,Z1d]
 ·unfold Q1e;rw [J4K];intro q hq;have hql:=J0J.1 hq;obtain⟨k',hks',hk',_,e'⟩:=Q9T (Nat.lt_trans hql hj);have hlt:=J0b hks' hks hql;show ¬Mv.clash ((movV (Q1O Z 1 i) i v (2 ^ i.order.toNat)).getD q noMv) ((movV (Q1O Z 1 i) i v (2 ^ i.order.toNat)).getD j noMv)=true;rw [e,e'];unfold Mv.clash itMv;have h1:¬v.base+i.off+(k':Int)=v.base+i.off+(k:Int):=by omega
  have h2:¬i.base+(k':Int)=i.base+(k:Int):=by omega
  simp [h1,h2]
end
theorem Z7H {s:Nat} {f:Nat->Bool} {w0 wr:World} (h:ItQ s f 16 w0 wr) (i:It) (v:Wi) (hi:i.Wf) (hv:v.Wf) :
  Calls prog 24 #[.pointer (some ⟨s,0,none⟩),.int .u32 1,.agg #[.int .i64 i.base,.int .i64 i.order,.int .i64 i.r,.int .i64 i.off,.bool i.g],.agg #[.int .i64 v.base,.int .i64 v.order]] wr fun r w1=>Below wr.heap.size wr w1/\((∃er:Int,er≠0/\r=.returned (.tuple #[.slice none 0 0,.int .i64 er])) ∨
   ∃(ad:Option Addr) (n cap:Nat),r=.returned (.tuple #[.slice ad n cap,.int .i64 0])/\Q2w i v=true/\i.off+((2 ^ i.order.toNat:Nat):Int)<=((2 ^ v.order.toNat:Nat):Int) /\
    Calls prog 19 #[.pointer (some ⟨s,0,none⟩),.int .u32 1,.int .u32 2,.slice ad n cap] w1 fun r w2=>r=.returned (.int .i64 0)/\ItF s f i v w0 w2):=by
 obtain⟨Z,a,x,b,y,rfl,m,hE,st⟩:=h;refine (Z2J st.sep m.ok (x:=1) (by omega) i v hi hv).mono ?_;rintro r w1 ⟨hb,⟨er,he,rfl,_⟩|⟨p,ad,cap,L,hp,hk,ha,hf,hL,rfl,hcap,hm⟩⟩
 ·exact⟨hb,.inl ⟨er,he,rfl⟩⟩
 ·refine⟨hb,.inr ⟨ad,L.length,cap,rfl,ha,hf,?_⟩⟩;obtain⟨g1,g2⟩:=Z5v 2 a x 2 b y;rw [<- m.l] at g1 g2;obtain⟨⟨i1,i2⟩,⟨v1,v2⟩,⟨r1,r2⟩,⟨o1,o2⟩,hlow⟩:=Z5A ha;have hl:L.length<=128:=by
   rw [hL];have:=Q1b (b:=i.base) (o:=i.order) (by unfold Q2w Q6d at ha;simp only [J0O,decide_eq_true_eq] at ha;exact ha.1.1);exact J0u (Z1c _ _ _ _) this.2.2.2.2
  have hfit:=J0c m hE ha hf hL;refine (Q5X (st.sep.grown hb).sep m.ok (by omega) (x:=1) (y:=2) (by omega) (by omega) (by omega) hcap hm).mono ?_;rintro r w2 ⟨er,rfl,R⟩;have hat:∀j,j<L.length->∃k,k<2 ^ i.order.toNat/\Q1O Z 1 i k=true/\L.getD j noMv=itMv i v k:=fun j hj=>by
   subst hL;obtain⟨k,_,hk,hfk,e⟩:=Q9T hj;exact⟨k,hk,hfk,e⟩
  have hof:∀k,k<2 ^ i.order.toNat->Q1O Z 1 i k=true->∃j,j<L.length/\L.getD j noMv=itMv i v k:=fun k hk hfk=>by
   subst hL;exact Z9p hk hfk
  have hroom:∀er,¬WhyM Z [] 3 0 1 2 L.length 0 (fun j=>L.getD j noMv) er:=fun er=>by
   by_cases hlo:i.base.toNat<=32
   ·refine Z5z m hE (D:=(v.base.toNat+i.off.toNat+(32-i.base.toNat))-((v.base.toNat+i.off.toNat+(32-i.base.toNat))-240)) (by omega) fun j hj=>?_
    obtain⟨k,hk,hfk,e⟩:=hat j hj;obtain⟨b1,b2,_⟩:=(Q6g m hE).1 hfk;show _<=(L.getD j noMv).dst.toNat/\(L.getD j noMv).dst.toNat<_;rw [e];unfold itMv;dsimp only;omega
   ·refine Z5z m hE (D:=(v.base.toNat+i.off.toNat)-((v.base.toNat+i.off.toNat)-240)) (by omega) fun j hj=>?_
    obtain⟨k,hk,hfk,e⟩:=hat j hj;obtain⟨b1,b2,_⟩:=(Q6g m hE).1 hfk;show _<=(L.getD j noMv).dst.toNat/\(L.getD j noMv).dst.toNat<_;rw [e];unfold itMv;dsimp only;omega
  obtain⟨rfl,a1,Z',hadd,hgr,ok',sn,hnx,st'⟩:=R.fine g1 rfl g2 rfl hfit hroom;refine⟨rfl,Z',[],3,0,_,_,_,sn.s,ok',by rw [sn.alt.l];exact g1,rfl,by rw [sn.alt.l];exact g2,rfl,fun d=>?_,fun t ht=>?_,(st.trans (st.sep.grown hb)).trans st'⟩
  ·obtain⟨k1,k2,k3⟩:=Q8Q (Z5x m.ok.avOk (by omega) (by omega) hfit hadd (J0t _)) (by omega) hgr;rw [k2 2 d (by omega)];obtain⟨e1,e2⟩:=Q9U (by omega) hadd;cases hth:Q2x f i v d with
   | true =>
    rw [if_pos rfl];unfold Q2x at hth;rw [J0O,decide_eq_true_eq] at hth;obtain⟨⟨t1,t2,t3,t4⟩,t5⟩:=hth;unfold kapV at t1 t2 t3 t4 t5;obtain⟨κ,hκ⟩:=J1W t1;rw [hκ] at t2 t3 t4 t5;have hfk:Q1O Z 1 i κ=true:=(Q6g m hE).2 ⟨by omega,by omega,by
     have:(i.base+(κ:Int)-32).toNat=i.base.toNat+κ-32:=by omega
     rw [<- this];exact t5⟩
    obtain⟨j,hj,ej⟩:=hof κ (by omega) hfk;obtain⟨c,c1,c2⟩:=e2 j hj;have hd:(L.getD j noMv).dst.toNat=d:=by
     rw [ej];unfold itMv;dsimp only;omega
    have hr:(L.getD j noMv).r=i.r:=by rw [ej];rfl
    rw [hd,hr] at c2;rw [c2];rw [hE] at c1;obtain⟨_,_,_,_,rfl⟩:=Q7A c1;rw [Z7W _ (by omega)]
   | false =>
    rw [if_neg (by decide)];rw [e1 2 d fun _ j hj hd=>?_]
    ·rw [hE,Z1d]
    ·obtain⟨k,hk,hfk,ej⟩:=hat j hj;obtain⟨b1,b2,b3⟩:=(Q6g m hE).1 hfk;have hd:d=(L.getD j noMv).dst.toNat:=hd;rw [ej] at hd;unfold itMv at hd;dsimp only at hd;have hkap:kapV i v d=(k:Int):=by unfold kapV;omega
     unfold Q2x at hth;rw [hkap] at hth;have h1:decide (0<=(k:Int)/\(k:Int)<((2 ^ i.order.toNat:Nat):Int)/\32<=i.base+(k:Int)/\i.base+(k:Int)<48)=true:=decide_eq_true ⟨by omega,by omega,by omega,by omega⟩;rw [h1,J1I] at hth;have:(i.base+(k:Int)-32).toNat=i.base.toNat+k-32:=by omega
     rw [this,b3] at hth;cases hth
  ·obtain⟨k1,k2,k3⟩:=Q8Q (Z5x m.ok.avOk (by omega) (by omega) hfit hadd (J0t _)) (by omega) hgr;obtain⟨e1,e2⟩:=Q9U (by omega) hadd;rcases k3 t with h|h
   ·exact absurd h ht
   ·rw [h,e1 1 t (fun h=>by omega),hE] at ht;cases hc:itE f 16 1 t with
    | none=>exact absurd hc ht
    | some c =>
     obtain⟨_,h1,h2,_⟩:=Q7A hc;exact⟨h1,by omega⟩
theorem ItF.below {s:Nat} {f:Nat->Bool} {i:It} {v:Wi} {w0 wr:World} (h:ItF s f i v w0 wr):Below w0.heap.size w0 wr:=by
 obtain⟨Z,fr,N,K,M,p1,p2,_,_,_,_,_,_,_,_,st⟩:=h;exact st.fresh
theorem ItF.grown {s:Nat} {f:Nat->Bool} {i:It} {v:Wi} {w0 wr w':World} (h:ItF s f i v w0 wr) (hb:Below wr.heap.size wr w'):ItF s f i v w0 w':=by
 obtain⟨Z,fr,N,K,M,p1,p2,h1,h2,h3,h4,h5,h6,h7,h8,st⟩:=h;exact⟨Z,fr,N,K,M,p1,p2,h1,h2,h3,h4,h5,h6,h7,h8,st.trans (st.sep.grown hb)⟩
theorem Z9t {s:Nat} {f:Nat->Bool} {i:It} {v:Wi} {w0 wr:World} (h:ItF s f i v w0 wr) (hr:1<=i.r/\i.r<=15) {d:Nat} (hd:d<256) :
  Calls prog 21 #[.pointer (some ⟨s,0,none⟩),.int .u32 2,.int .i64 d] wr fun r w'=>r=.returned (if Q2x f i v d=true then .tuple #[.agg #[.int .u32 2,.int .i64 i.r],.int .i64 0] else .tuple #[.agg #[.int .u32 0,.int .i64 0],.int .i64 6])/\Below wr.heap.size wr w':=by
 obtain⟨Z,fr,N,K,M,p1,p2,rfl,ok,h3,h4,h5,h6,h7,h8,st⟩:=h;have k:=Q8C st.sep ok (x:=2) (by omega) (d:Int);have hl:=Z0Z (Z:=Z) (x:=2) (z:=(d:Int)) h5 h6 (by omega);rw [hl,J1x,h7] at k;refine k.mono ?_;rintro r w' ⟨rfl,hb⟩;refine⟨?_,hb⟩;cases Q2x f i v d with
 | true =>
  rw [if_pos rfl,if_pos rfl];unfold Q9N;dsimp only;rw [Int.toNat_of_nonneg (by omega)];rfl
 | false=>rw [if_neg (by decide),if_neg (by decide)];rfl
theorem Z7I {s:Nat} {f:Nat->Bool} {i:It} {v:Wi} {w0 wr:World} (h:ItF s f i v w0 wr) :
  Calls prog 25 #[.pointer (some ⟨s,0,none⟩),.int .u32 1] wr fun r w'=>∃(a:Option Addr) (n cap:Nat),r=.returned (.slice a n cap)/\n<=16/\Below wr.heap.size wr w':=by
 obtain⟨Z,fr,N,K,M,p1,p2,rfl,ok,h3,h4,h5,h6,h7,h8,st⟩:=h;refine (Q4I st.sep ok (x:=1) (by omega)).mono ?_;intro r w' hx;obtain⟨a,cap,rfl,hb,_⟩:=hx.from'
 refine⟨a,_,cap,rfl,?_,hb⟩;have hsub:∀z∈Q0o Z.S.l Z.tb 1,z∈(List.range 16).map fun t=>((32+t:Nat):Int):=fun z hz=>by
  obtain⟨t,rfl,_,e,he⟩:=mem_slotsL.1 hz;have:=h8 t (by rw [show Z.av.en 1 t=some (e.h,e.r) from Q6i he];exact Option.some_ne_none _);exact J0z.2 ⟨t-32,J0J.2 (by omega),by omega⟩
 have:=(Q8P Z.S.l Z.tb 1).length_le_of_subset hsub
 simpa using this
end Go.Proofs.YtlakjlmaboioiaaGreatDoor
