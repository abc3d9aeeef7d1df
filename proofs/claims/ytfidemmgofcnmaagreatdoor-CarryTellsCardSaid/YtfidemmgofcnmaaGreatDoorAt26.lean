/- What the laws of spaces share is proved. No condition. Part of a proof. -/
import Derived.Test.YtfidemmgofcnmaaGreatDoorAt25
set_option maxHeartbeats 8000000
set_option maxRecDepth 100000
set_option linter.unusedVariables false
namespace Go.Proofs.YtfidemmgofcnmaaGreatDoor
open Go.RowKit Go.Proofs.Tryz
theorem Z8P:(prog.info? 90).map (fun i=>(i.zero,i.size,i.bytes))=some (some (.agg #[.int .i64 0,.int .i64 0,.int .i64 0,.bool false]),4,32):=by kernel_rfl
theorem Q2w:∀L:List Mv,(L.flatMap Mv.cells).length=L.length*4
 | []=>rfl
 | p::r=>by rw[J2a,J2j,Q2w r];simp[Mv.cells];omega
theorem Q1g:∀(L:List Mv) (k i:Nat) (m:Mv) (v:Value),L[k]?=some m->m.cells[i]?=some v->(L.flatMap Mv.cells)[k*4+i]?=some v
 | [],k,i,m,v,h,_=>by simp at h
 | p::r,k,i,m,v,h,hv=>by
  rw[J2a];have hi:i<4:=by have:=(J1V.1 hv).1;simpa[Mv.cells] using this
  have hp:p.cells.length=4:=rfl;cases k with
  | zero =>
   simp at h;subst h;rw[J4K (by rw[hp];omega),show 0*4+i=i by omega];exact hv
  | succ k =>
   rw[J4L (by rw[hp];omega),hp,show(k+1)*4+i-4=k*4+i by omega];exact Q1g r k i m v (by simpa using h) hv
def OutM(w wr:World)(v:Value)(L:List Mv):Prop:=wr.ownsRow w.heap.size 90 4 v L.length (L.flatMap Mv.cells)/\Below w.heap.size w wr
theorem OutM.nil(w:World):OutM w w (.slice none 0 0) []:=⟨World.ownsRow_nil _ _ _ _,Below.refl _ _⟩
theorem OutM.below{w wr w1:World}{v:Value}{L:List Mv}(h:OutM w wr v L)(hb:Below wr.heap.size wr w1):OutM w w1 v L:=
 ⟨Q8B h.1 (fun b Aj=>hb.block b (h.1.lt b Aj).2),h.2.trans (hb.mono h.2.size)⟩
theorem OutM.app{w wr:World}{v:Value}{L:List Mv}(h:OutM w wr v L)(hl:L.length<=16777216)(m:Mv)(ty:TypeId):∃v' w',(Builtin.append_ #[61,61] ty #[v,.slice (some ⟨wr.heap.size,0,none⟩) 1 1]).run prog (wr.alloc (.cells #[.int .i64 m.src,.int .i64 m.dst,.int .i64 m.r,.bool m.g] 90))=.ok v' w'/\OutM w w' v' (L++[m]):=by
 obtain⟨i0,hi,BJ,AZ,Bd⟩:=info_parts Z8P;have h2:=h.below ((Below.refl wr.heap.size wr).alloc (J1E _) (.cells #[.int .i64 m.src,.int .i64 m.dst,.int .i64 m.r,.bool m.g] 90));have hc:=Q2w L;obtain⟨v',w',hr,q1,q2,_,q4⟩:=run_append_own_at (P:=prog) (wr.alloc (.cells #[.int .i64 m.src,.int .i64 m.dst,.int .i64 m.r,.bool m.g] 90)) w.heap.size 61 ty 90 i0 (.agg #[.int .i64 0,.int .i64 0,.int .i64 0,.bool false]) 4 32 underlying61 hi BJ AZ Bd rfl (by decide) v L.length (L.flatMap Mv.cells) h2.1 ⟨wr.heap.size,0,none⟩ 1 1 m.cells (by simp[Mv.cells]) (by
  intro j u hj;have:=(Cells.new wr 90 m.cells).cell j u hj;have e:(⟨wr.heap.size,0,none⟩:Addr).add j=⟨wr.heap.size,j,none⟩:=by unfold Addr.add;split <;> simp_all
  rw[e];exact this) (fun u hu=>by
   have h4:u=.int .i64 m.src∨u=.int .i64 m.dst∨u=.int .i64 m.r∨u=.bool m.g:=by simpa[Mv.cells] using hu
   rcases h4 with rfl|rfl|rfl|rfl <;> rfl) (by unfold maxLen;omega) (by omega) h2.2.size
 refine⟨v',w',hr,?_,?_⟩
 ·rw[J2j,J2i];have e:[m].flatMap Mv.cells=m.cells:=by simp
  rw[e];exact q1
 ·exact h2.2.trans ((Below.refl _ _).mono h2.2.size |>.grown q2 h2.2.size (fun b hb=>(h2.1.lt b hb).1))
def itMv(i:It)(v:Wi)(k:Nat):Mv:=⟨i.base+k,v.base+i.off+k,i.r,i.g⟩
def movV(f:Nat->Bool)(i:It)(v:Wi)(k:Nat):List Mv:=((List.range k).filter f).map (itMv i v)
theorem movV_succ(f:Nat->Bool)(i:It)(v:Wi)(k:Nat):movV f i v (k+1)=movV f i v k++if f k=true then [itMv i v k] else []:=by
 unfold movV;rw[J1P,J3u,J4Z];cases h:f k <;> simp[h]
theorem Z1n(f:Nat->Bool)(i:It)(v:Wi)(k:Nat):(movV f i v k).length<=k:=by
 unfold movV;rw[J3g];refine J1F (J3M _ _) ?_;rw[J3h];exact J1E _
def Q3q(i:It)(v:Wi):Bool:=Q1a i&&(Q0w v.base v.order&&(decide (i.base<128)==decide (v.base<128)))
theorem Q1A{b o:Int}(h:Q0w b o=true):0<=b/\0<=o/\o<=7/\b.toNat+2 ^ o.toNat<=256/\2 ^ o.toNat<=128:=by
 unfold Q0w at h;obtain⟨h1,h2,h3,h4,h5⟩:=of_decide_eq_true h;obtain⟨n,rfl⟩:=J3b h1;obtain⟨k,rfl⟩:=J3b h3;rw[J2C,J2C] at *
 have hk:k=0∨k=1∨k=2∨k=3∨k=4∨k=5∨k=6∨k=7:=by omega
 refine⟨h1,h3,h4,?_,?_⟩
 ·rcases hk with rfl|rfl|rfl|rfl|rfl|rfl|rfl|rfl <;> simp at h5 ⊢ <;> omega
 ·rcases hk with rfl|rfl|rfl|rfl|rfl|rfl|rfl|rfl <;> simp
def Q1O(Z:SP)(x:Nat)(i:It)(k:Nat):Bool:=(Q0g Z.S.l Z.tb x (i.base.toNat+k)).isSome
def MvsE(Z:SP)(x:Nat)(i:It)(v:Wi)(er:Int):Prop:=(pget Z.S.l 1 x=none/\er=8)∨∃p,pget Z.S.l 1 x=some p/\((p.kind≠2/\er=10)∨(p.kind=2/\((Q3q i v=false/\er=1)∨(Q3q i v=true/\¬(i.off+((2 ^ i.order.toNat:Nat):Int)<=((2 ^ v.order.toNat:Nat):Int))/\er=2))))
def noMv:Mv:=⟨0,0,0,false⟩
def MvsR(Z:SP)(x:Nat)(i:It)(v:Wi)(w:World)(r:Ending)(w':World):Prop:=Below w.heap.size w w' /\
 ((∃er,er≠0/\r=.returned (.tuple #[.slice none 0 0,.int .i64 er])/\MvsE Z x i v er) ∨
  ∃(p:Pl) (a:Option Addr) (cap:Nat) (L:List Mv),pget Z.S.l 1 x=some p/\p.kind=2/\Q3q i v=true/\i.off+((2 ^ i.order.toNat:Nat):Int)<=((2 ^ v.order.toNat:Nat):Int)/\L=movV (Q1O Z x i) i v (2 ^ i.order.toNat)/\r=.returned (.tuple #[.slice a L.length cap,.int .i64 0])/\L.length<=cap/\AsideM Z.hl L.length (fun j=>L.getD j noMv) a w')
theorem Q6g{w:World}{Z:SP}{fr:List Nat}{N K:Nat}(hs:Sep w Z.hl)(ok:Z.S.Ok fr N K){x:Nat}(hx:x<4294967296)(i:It)(v:Wi)(er:Int)(he:er≠0)(hw:(pget Z.S.l 1 x=none/\er=8)∨∃p,pget Z.S.l 1 x=some p/\p.kind≠2/\er=10) :
  Calls prog 38 #[.pointer (some ⟨Z.s,0,none⟩),.int .u32 x,.agg #[.int .i64 i.base,.int .i64 i.order,.int .i64 i.r,.int .i64 i.off,.bool i.g],.agg #[.int .i64 v.base,.int .i64 v.order]] w fun r w'=>r=.returned (.tuple #[.slice none 0 0,.int .i64 er])/\Below w.heap.size w w':=by
 have Bq:Below w.heap.size w ((w.alloc (.cells #[.int .i64 i.base,.int .i64 i.order,.int .i64 i.r,.int .i64 i.off,.bool i.g] 63)).alloc (.cells #[.int .i64 v.base,.int .i64 v.order] 65)):=((Below.refl w.heap.size w).alloc (J1E _) _).alloc (by simp) _;have ks:=Q0J (hs.grown Bq).sep ok hx er hw;have GY:(er==0)=false:=by simpa using he
 have HR:Hid (∀w' o,Below ((w.alloc (.cells #[.int .i64 i.base,.int .i64 i.order,.int .i64 i.r,.int .i64 i.off,.bool i.g] 63)).alloc (.cells #[.int .i64 v.base,.int .i64 v.order] 65)).heap.size ((w.alloc (.cells #[.int .i64 i.base,.int .i64 i.order,.int .i64 i.r,.int .i64 i.off,.bool i.g] 63)).alloc (.cells #[.int .i64 v.base,.int .i64 v.order] 65)) w'->Below w.heap.size w (w'.alloc o)):=fun w' o hb=>Q0b (Q0b (hb.alloc hb.size o))
 obtain⟨ib,io,ir,iff,ig⟩:=i;obtain⟨vb,vo⟩:=v;dsimp only at *
 clear hs ok hx hw Bq;go_enter func38,ntmps38;go_wp2_with fail;refine ks.mono ?_;rintro r w1⟨rfl,hb⟩;have HQ:Hid (∀o,Below w.heap.size w (w1.alloc o)):=fun o=>HR.out w1 o hb
 clear hb HR ks;go_wp2_with fail
 (try go_ret2);exact⟨rfl,HQ.out _⟩
theorem Z5U{n:Nat}(h:n<=128):wrap64 (n:Int)=(n:Int):=Go.IntWalk.wrap64_in _ (by omega)
theorem Z8o{n:Nat}{x:Int}(h:n<=128)(h0:0<=x)(h1:x<256):wrap64 (x+(n:Int))=x+(n:Int):=Go.IntWalk.wrap64_in _ (by omega)
def Box2(b:Nat)(i:It)(v:Wi)(W:World):Prop:=(W.cell? ⟨b,0,none⟩=some (.int .i64 i.base)/\W.cell? ⟨b,1,none⟩=some (.int .i64 i.order)/\W.cell? ⟨b,2,none⟩=some (.int .i64 i.r)/\W.cell? ⟨b,3,none⟩=some (.int .i64 i.off)/\W.cell? ⟨b,4,none⟩=some (.bool i.g))/\W.cell? ⟨b+1,0,none⟩=some (.int .i64 v.base)/\W.cell? ⟨b+1,1,none⟩=some (.int .i64 v.order)
theorem box2{w:World}(i:It)(v:Wi){W:World}(hb:Below ((w.alloc (.cells #[.int .i64 i.base,.int .i64 i.order,.int .i64 i.r,.int .i64 i.off,.bool i.g] 63)).alloc (.cells #[.int .i64 v.base,.int .i64 v.order] 65)).heap.size ((w.alloc (.cells #[.int .i64 i.base,.int .i64 i.order,.int .i64 i.r,.int .i64 i.off,.bool i.g] 63)).alloc (.cells #[.int .i64 v.base,.int .i64 v.order] 65)) W):Box2 w.heap.size i v W:=by
 have h1:=((Cells.new w 63 i.cells).alloc (.cells #[.int .i64 v.base,.int .i64 v.order] 65)).same (hb.block _ (by simp;omega));have h2:=(Cells.new (w.alloc (.cells #[.int .i64 i.base,.int .i64 i.order,.int .i64 i.r,.int .i64 i.off,.bool i.g] 63)) 65 v.cells).same (hb.block _ (by simp));have e1:(w.alloc (.cells #[.int .i64 i.base,.int .i64 i.order,.int .i64 i.r,.int .i64 i.off,.bool i.g] 63)).heap.size=w.heap.size+1:=by simp
 rw[e1] at h2;exact⟨⟨h1.cell 0 _ rfl,h1.cell 1 _ rfl,h1.cell 2 _ rfl,h1.cell 3 _ rfl,h1.cell 4 _ rfl⟩,h2.cell 0 _ rfl,h2.cell 1 _ rfl⟩
theorem Z0l{w:World}{s x fac:Nat}{i:It}{v:Wi}{T:Nat->World->Prop}{f:Nat->Bool}{Q:Ending->World->Prop}
  (ks:Calls prog 90 #[.pointer (some ⟨s,0,none⟩),.int .u32 x] ((w.alloc (.cells #[.int .i64 i.base,.int .i64 i.order,.int .i64 i.r,.int .i64 i.off,.bool i.g] 63)).alloc (.cells #[.int .i64 v.base,.int .i64 v.order] 65)) fun r w'=>∃g:Nat,r=.returned (.tuple #[.agg #[.pointer (some ⟨g,0,none⟩),.int .u32 x,.int .i64 fac],.int .i64 0])/\Below ((w.alloc (.cells #[.int .i64 i.base,.int .i64 i.order,.int .i64 i.r,.int .i64 i.off,.bool i.g] 63)).alloc (.cells #[.int .i64 v.base,.int .i64 v.order] 65)).heap.size ((w.alloc (.cells #[.int .i64 i.base,.int .i64 i.order,.int .i64 i.r,.int .i64 i.off,.bool i.g] 63)).alloc (.cells #[.int .i64 v.base,.int .i64 v.order] 65)) w'/\T g w')
  (hT:∀g W W',T g W->Below W.heap.size W W'->T g W')
  (hC:∀(g:Nat) (W:World) (k:Nat),Below ((w.alloc (.cells #[.int .i64 i.base,.int .i64 i.order,.int .i64 i.r,.int .i64 i.off,.bool i.g] 63)).alloc (.cells #[.int .i64 v.base,.int .i64 v.order] 65)).heap.size ((w.alloc (.cells #[.int .i64 i.base,.int .i64 i.order,.int .i64 i.r,.int .i64 i.off,.bool i.g] 63)).alloc (.cells #[.int .i64 v.base,.int .i64 v.order] 65)) W->T g W->k<2 ^ i.order.toNat->Q3q i v=true->Calls prog 93 #[.agg #[.pointer (some ⟨g,0,none⟩),.int .u32 x,.int .i64 fac],.int .i64 (i.base+(k:Int))] W fun r w'=>∃a b:Int,r=.returned (.tuple #[.agg #[.int .u32 a,.int .i64 b],.bool (f k)])/\Below W.heap.size W w')
  (hE:∀(er:Int) (w':World),((Q3q i v=false/\er=1)∨(Q3q i v=true/\¬(i.off+((2 ^ i.order.toNat:Nat):Int)<=((2 ^ v.order.toNat:Nat):Int))/\er=2))->Below w.heap.size w w'->Q (.returned (.tuple #[.slice none 0 0,.int .i64 er])) w')
  (hR:Q3q i v=true->i.off+((2 ^ i.order.toNat:Nat):Int)<=((2 ^ v.order.toNat:Nat):Int)->∀(a:Value) (w':World),OutM w w' a (movV f i v (2 ^ i.order.toNat))->Q (.returned (.tuple #[a,.int .i64 0])) w') :
  Calls prog 38 #[.pointer (some ⟨s,0,none⟩),.int .u32 x,.agg #[.int .i64 i.base,.int .i64 i.order,.int .i64 i.r,.int .i64 i.off,.bool i.g],.agg #[.int .i64 v.base,.int .i64 v.order]] w Q:=by
 have HW:Hid (∀W,Below ((w.alloc (.cells #[.int .i64 i.base,.int .i64 i.order,.int .i64 i.r,.int .i64 i.off,.bool i.g] 63)).alloc (.cells #[.int .i64 v.base,.int .i64 v.order] 65)).heap.size ((w.alloc (.cells #[.int .i64 i.base,.int .i64 i.order,.int .i64 i.r,.int .i64 i.off,.bool i.g] 63)).alloc (.cells #[.int .i64 v.base,.int .i64 v.order] 65)) W->Below w.heap.size w W/\Box2 w.heap.size i v W):=fun W hb=>⟨Q0b (Q0b hb),box2 i v hb⟩
 have HC:=Q0a hC;have Fn:=Q0a hT;have JP:=Q0a hE;have KL:=Q0a hR;have Eg:Hid (∀W,_):=fun W=>Z0f W v
 have Jj:Hid (∀W,_):=fun W=>Z1h W i
 have GW:Hid (∀W,_):=fun W=>Q2e W i.base
 have K8:Hid (∀W,_):=fun W=>Q2e W v.base
 have Ic:Hid (Q3q i v=(Q1a i&&(Q0w v.base v.order&&(decide (i.base<128)==decide (v.base<128))))):=rfl;have HP:Hid (Q3q i v=true->Q0w i.base i.order=true/\Q0w v.base v.order=true/\1<=i.r/\i.r<=15/\0<=i.off/\i.off<256):=fun h=>by
  unfold Q3q Q1a at h;simp only[J1Y,decide_eq_true_eq] at h;exact⟨h.1.1,h.2.1,h.1.2⟩
 generalize hW0:((w.alloc (.cells #[.int .i64 i.base,.int .i64 i.order,.int .i64 i.r,.int .i64 i.off,.bool i.g] 63)).alloc (.cells #[.int .i64 v.base,.int .i64 v.order] 65))=W0 at *
 obtain⟨ib,io,ir,iff,ig⟩:=i;obtain⟨vb,vo⟩:=v;dsimp only at *
 clear hC hT hE hR;generalize Q3q ⟨ib,io,ir,iff,ig⟩ ⟨vb,vo⟩=ia at *
 go_enter func38,ntmps38;go_wp2_with fail;refine ks.mono ?_;rintro r w1⟨g,rfl,Ar,BX⟩;clear hW0 ks;have NO:=Ar.alloc Ar.size (.cells #[.pointer (some ⟨g,0,none⟩),.int .u32 x,.int .i64 fac] 191);have Gd:=Cells.new w1 191 [.pointer (some ⟨g,0,none⟩),.int .u32 x,.int .i64 fac];obtain⟨⟨c0,c1,c2,c3,c4⟩,v0,v1⟩:=(HW.out _ NO).2;go_wp2_with fail;refine(Jj.out _).mono ?_;rintro r w2⟨xx,rfl,Ae⟩;have HS:Hid (∀W,Below w2.heap.size w2 W->(Below w.heap.size w W/\Below W0.heap.size W0 W/\T g W)/\Box2 w.heap.size ⟨ib,io,ir,iff,ig⟩ ⟨vb,vo⟩ W/\W.cell? ⟨w1.heap.size,0,none⟩=some (.pointer (some ⟨g,0,none⟩))/\W.cell? ⟨w1.heap.size,1,none⟩=some (.int .u32 x)/\W.cell? ⟨w1.heap.size,2,none⟩=some (.int .i64 fac)):=fun W hb=>by
  have h2:=NO.trans (Ae.mono NO.size);have h3:=h2.trans (hb.mono h2.size);have hc:=(Gd.same (Ae.block _ Gd.lt)).same (hb.block _ (J1G Gd.lt Ae.size));exact⟨⟨(HW.out _ h3).1,h3,Fn.out _ _ _ (Fn.out _ _ _ (Fn.out _ _ _ BX ((Below.refl _ _).alloc (J1E _) _)) Ae) hb⟩,(HW.out _ h3).2,hc.cell 0 _ rfl,hc.cell 1 _ rfl,hc.cell 2 _ rfl⟩
 generalize w1.heap.size=B at *
 clear NO Gd Ar BX Ae c0 c1 c2 c3 c4 v0 v1 HW Fn Jj;obtain⟨-,⟨⟨c0,c1,c2,c3,c4⟩,v0,v1⟩,s0,s1,s2⟩:=HS.out _ (Below.refl _ _);obtain⟨-,⟨⟨d0,d1,d2,d3,d4⟩,e0,e1⟩,-,-,-⟩:=HS.out _ (Below.refl w2.heap.size w2).drew;go_upto_region 5 with fail
 go_cut [32] from 33 to 48 (fun bb wc=>bb=.bool (!ia)/\Below w2.heap.size w2 wc)
 case first =>
  clear HC HP JP KL;generalize Q1a ⟨ib,io,ir,iff,ig⟩=cd at *
  generalize Q0w vb vo=av at *
  generalize decide (ib<128)=k1 at *
  generalize decide (vb<128)=k2 at *
  cases cd with
  | false =>
   have HE:Hid (∀n,Below w2.heap.size w2 (w2.drewN n)):=fun n=>Q0q (Below.refl w2.heap.size w2) n
   obtain rfl:ia=false:=by
    have:=Ic.out;rw[J5N] at this;exact this
   clear Ic HS
   go_quiet (first|(go_at_call 96;exact(GW.out _)))
   go_wp2_with fail;go_meet;exact⟨rfl,HE.out _⟩
  | true =>
   cases av with
   | false =>
    obtain rfl:ia=false:=by
     have:=Ic.out;rw[J5N,Bool.and_false] at this;exact this
    clear Ic
    first|go_region_with (first|(go_at_call 95;refine(Eg.out _).mono ?_;rintro r w5⟨rfl,Au⟩;have B6:=Q0a ((Below.refl w2.heap.size w2).drew.trans (Au.mono (J1E _)));clear Au))|fail
    all_goals (go_wp2_with fail;go_meet;exact⟨rfl,B6.out⟩)
   | true =>
    by_cases hk:k1=k2
    ·subst hk;obtain rfl:ia=true:=by
      have:=Ic.out;rw[J2N,J2N,beq_self_eq_true] at this;exact this
     clear Ic
     go_region_held3 (fun W=>W.cell? ⟨w.heap.size,0,none⟩=some (.int .i64 ib)/\W.cell? ⟨w.heap.size+1,0,none⟩=some (.int .i64 vb)/\W.cell? ⟨w.heap.size+1,1,none⟩=some (.int .i64 vo)) (first|exact⟨c0,v0,v1⟩|exact⟨d0,e0,e1⟩|exact Oq)
     (first|(go_at_call 95;refine(Eg.out _).mono ?_;rintro r w5⟨rfl,Au⟩;have Hy:=HS.out w5 ((Below.refl w2.heap.size w2).drew.trans (Au.mono (J1E _)));have Oq:=(⟨Hy.2.1.1.1,Hy.2.1.2.1,Hy.2.1.2.2⟩:_/\_/\_);have B6:=Q0a ((Below.refl w2.heap.size w2).drew.trans (Au.mono (J1E _)));clear Hy Au)|(go_at_call_of 96 ib;refine(GW.out _).mono ?_;rintro r w'⟨rfl,rfl⟩)|(go_at_call_of 96 vb;refine(K8.out _).mono ?_;rintro r w'⟨rfl,rfl⟩))
     all_goals (go_wp2_with fail;go_meet;exact⟨rfl,B6.out⟩)
    ·obtain rfl:ia=false:=by
      have:=Ic.out;rw[J2N,J2N,beq_false_of_ne hk] at this;exact this
     clear Ic;have BE:(k1 != k2)=true:=bne_iff_ne.2 hk
     go_region_held3 (fun W=>W.cell? ⟨w.heap.size,0,none⟩=some (.int .i64 ib)/\W.cell? ⟨w.heap.size+1,0,none⟩=some (.int .i64 vb)/\W.cell? ⟨w.heap.size+1,1,none⟩=some (.int .i64 vo)) (first|exact⟨c0,v0,v1⟩|exact⟨d0,e0,e1⟩|exact Oq)
     (first|(go_at_call 95;refine(Eg.out _).mono ?_;rintro r w5⟨rfl,Au⟩;have Hy:=HS.out w5 ((Below.refl w2.heap.size w2).drew.trans (Au.mono (J1E _)));have Oq:=(⟨Hy.2.1.1.1,Hy.2.1.2.1,Hy.2.1.2.2⟩:_/\_/\_);have B6:=Q0a ((Below.refl w2.heap.size w2).drew.trans (Au.mono (J1E _)));clear Hy Au)|(go_at_call_of 96 ib;refine(GW.out _).mono ?_;rintro r w'⟨rfl,rfl⟩)|(go_at_call_of 96 vb;refine(K8.out _).mono ?_;rintro r w'⟨rfl,rfl⟩))
     all_goals (go_wp2_with fail;go_meet;exact⟨by simp[beq_false_of_ne hk],B6.out⟩)
 obtain⟨rfl,Au⟩:=hcut;clear c0 c1 c2 c3 c4 v0 v1 s0 s1 s2 d0 d1 d2 d3 d4 e0 e1 Ic Eg GW K8;cases ia with
 | false =>
  have HE:=Q0a (JP.out 1 wc (.inl ⟨rfl,rfl⟩) (HS.out wc Au).1.1);clear HS HC HP Au JP KL;go_wp2_with fail
  (try go_ret2);exact HE.out
 | true =>
  obtain⟨pa,pv,Hm,DN,O1,KH⟩:=HP.out rfl;obtain⟨pa1,pa2,pa3,pa4,pa5⟩:=Q1A pa;obtain⟨pv1,pv2,pv3,pv4,pv5⟩:=Q1A pv;have B6:=Q0a Au;obtain⟨-,⟨⟨c0,c1,c2,c3,c4⟩,v0,v1⟩,s0,s1,s2⟩:=HS.out wc Au;obtain⟨-,⟨⟨d0,d1,d2,d3,d4⟩,e0,e1⟩,-,-,-⟩:=HS.out wc.drew Au.drew;clear HP pa pv Au;obtain⟨ko,rfl⟩:=J3b pa2;obtain⟨kv,rfl⟩:=J3b pv2;rw[J2C] at *
  rw[J2C] at KL JP;have EF:0<2 ^ ko:=Nat.pow_pos (by omega);go_upto_region 7 with fail;go_region;obtain⟨po,Hk⟩:∃po:Nat,po=2 ^ ko:=⟨_,rfl⟩
  obtain⟨pv,Lh⟩:∃pv:Nat,pv=2 ^ kv:=⟨_,rfl⟩
  have epo:(2:Int) ^ ko=(po:Int):=by rw[Hk];simp
  have epv:(2:Int) ^ kv=(pv:Int):=by rw[Lh];simp
  rw[<- Hk] at EF pa4 pa5;rw[<- Lh] at pv4 pv5;have DD:wrap64 (po:Int)=(po:Int):=Z5U pa5;have Ej:wrap64 (pv:Int)=(pv:Int):=Z5U pv5;have FF:wrap64 (iff+(po:Int))=iff+(po:Int):=Z8o pa5 O1 KH;simp only[epo,epv,DD,Ej,FF];have Dm:Hid ((((2 ^ ko:Nat):Int))=(po:Int)/\(((2 ^ kv:Nat):Int))=(pv:Int)/\(2:Int) ^ ko=(po:Int)/\(2:Int) ^ kv=(pv:Int)/\po=2 ^ ko):=⟨by rw[Hk],by rw[Lh],epo,epv,Hk⟩
  have P7:=Q0a epo;have NF:=Q0a DD;clear epo epv Hk Lh DD Ej FF;have HD:=Q0a (Below.drew B6.out);by_cases Ah:iff+(po:Int)<=(pv:Int)
  ·have NM:¬((pv:Int)<iff+(po:Int)):=by omega
   clear d0 d1 d2 d3 d4 e0 e1 c0 c1 c2 c3 c4 v0 v1 s0 s1 s2;obtain⟨-,⟨⟨d0,d1,d2,d3,d4⟩,e0,e1⟩,-,-,-⟩:=HS.out wc.drew HD.out;go_wp2_with fail;simp only[P7.out,NF.out];clear d0 d1 d2 d3 d4 e0 e1;generalize wc.drew=w3 at *
   have HI:Hid (0<=ib/\ib.toNat+po<=256/\0<=vb/\vb.toNat+pv<=256/\po<=128/\0<=iff/\iff<256):=⟨pa1,pa4,pv1,pv4,pa5,O1,KH⟩
   clear pa1 pa3 pa4 pa5 pv1 pv3 pv4 pv5 pa2 pv2 Hm DN O1 KH EF NM B6
   go_loopg [14,63] po (fun gk ov kk wr=>∃k:Nat,kk=.int .i64 k/\k+gk=po/\OutM w3 wr ov (movV f ⟨ib,(ko:Int),ir,iff,ig⟩ ⟨vb,(kv:Int)⟩ k))
   case atStart=>exact⟨0,rfl,by omega,OutM.nil w3⟩
   case round =>
    obtain⟨k,rfl,BL,By⟩:=hrel;have HO:=Q0a By;have CW:=Q0a BL;clear BL;have Bi:Below w2.heap.size w2 wr:=HD.out.trans (By.2.mono HD.out.size);by_cases Aa:k<po
    ·obtain⟨⟨-,FZ,SN⟩,⟨⟨c0,c1,c2,c3,c4⟩,v0,v1⟩,s0,s1,s2⟩:=HS.out wr Bi;have kc:=HC.out g wr k FZ SN (by have:=Dm.out.2.2.2.2;omega) (by trivial);have CZ:=Q0a (movV_succ f ⟨ib,(ko:Int),ir,iff,ig⟩ ⟨vb,(kv:Int)⟩ k);have BZ:=Q0a Bi;have Cq:(k:Int)<(po:Int):=by omega
     have CT:=Q0a Aa;have QA:(k:Int)<128:=by have:=HI.out;omega
     have B4:(0:Int)<=(k:Int):=by omega
     have Mt:IntKind.i64.wrap (ib+(k:Int))=ib+(k:Int):=Go.IntWalk.i64_in _ (by have:=HI.out;omega);have Sh:IntKind.i64.wrap (vb+iff)=vb+iff:=Go.IntWalk.i64_in _ (by have:=HI.out;omega);have RO:IntKind.i64.wrap (vb+iff+(k:Int))=vb+iff+(k:Int):=Go.IntWalk.i64_in _ (by have:=HI.out;omega);have NZ:(movV f ⟨ib,(ko:Int),ir,iff,ig⟩ ⟨vb,(kv:Int)⟩ k).length<=16777216:=by
      have h1:=Z1n f ⟨ib,(ko:Int),ir,iff,ig⟩ ⟨vb,(kv:Int)⟩ k;have h2:=HI.out;omega
     have Lb:=Q0a NZ;obtain⟨fk,Dv⟩:∃b,b=f k:=⟨_,rfl⟩
     rw[<- Dv] at kc CZ;clear By Bi FZ SN Dv NZ;go_wp2_with fail;refine kc.mono ?_;rintro r w4⟨a,b,rfl,A2⟩;have Fp:=Q0a (A2.alloc A2.size (.cells #[.int .u32 a,.int .i64 b] 72));have Nw:=Q0a (HO.out.below Fp.out);obtain⟨-,⟨⟨d0,d1,d2,d3,d4⟩,e0,e1⟩,-,-,-⟩:=HS.out _ (BZ.out.trans (Fp.out.mono BZ.out.size));clear A2 kc c0 c1 c2 c3 c4 v0 v1 s0 s1 s2 HO BZ Fp;cases fk with
     | true =>
      obtain⟨v',w',AR,Rv⟩:=Nw.out.app Lb.out (itMv ⟨ib,(ko:Int),ir,iff,ig⟩ ⟨vb,(kv:Int)⟩ k) 61;have HR:Hid (OutM w3 w' v' (movV f ⟨ib,(ko:Int),ir,iff,ig⟩ ⟨vb,(kv:Int)⟩ (k+1))):=by
       rw[CZ.out,if_pos rfl];exact Rv
      have IF:(w4.alloc (.cells #[.int .u32 a,.int .i64 b] 72)).heap.size=w4.heap.size+1:=by simp
      rw[IF] at AR;unfold itMv at AR;dsimp only at AR;clear IF Rv CZ Nw Lb;go_wp2_with (at_builtin;refine Lib.wpList_append_run _ rfl _ _ _ _ rfl _ _ rfl rfl _ _ AR ?_);go_roundg (po-(k+1))
      case measure=>have:=CW.out;omega
      case rel=>exact⟨k+1,by go_num,by have:=CT.out;omega,HR.out⟩
     | false =>
      have HR:Hid (OutM w3 (w4.alloc (.cells #[.int .u32 a,.int .i64 b] 72)) u14 (movV f ⟨ib,(ko:Int),ir,iff,ig⟩ ⟨vb,(kv:Int)⟩ (k+1))):=by
       rw[CZ.out,if_neg (by decide),J3D];exact Nw.out
      clear CZ Nw Lb;go_wp2_with fail;go_roundg (po-(k+1))
      case measure=>have:=CW.out;omega
      case rel=>exact⟨k+1,by go_num,by have:=CT.out;omega,HR.out⟩
    ·obtain rfl:k=po:=by have:=CW.out;omega
     have HX:Hid (Q (.returned (.tuple #[u14,.int .i64 0])) wr):=by
      refine KL.out (by trivial) ?_ _ _ ?_
      ·rw[Dm.out.1,Dm.out.2.1];exact Ah
      ·rw[<- Dm.out.2.2.2.2];have h1:=(HS.out w3 HD.out).1.1;exact⟨Q4O By.1 h1.size,h1.trans (By.2.mono h1.size)⟩
     clear By Bi HO HS HC JP KL;go_wp2_with fail
     (try go_ret2);exact HX.out
  ·have NM:(pv:Int)<iff+(po:Int):=by omega
   have HE:=Q0a (JP.out 2 wc.drew (.inr ⟨by trivial,by rw[Dm.out.1,Dm.out.2.1];first|exact Ah|omega,rfl⟩) (HS.out wc.drew HD.out).1.1);clear HS HC B6 JP KL;go_wp2_with fail
   (try go_ret2);exact HE.out
theorem Z2V{w:World}{Z:SP}{fr:List Nat}{N K:Nat}{M:Int}(hs:Sep w Z.hl)(ok:Z.Ok fr N K M){x:Nat}(hx:x<4294967296)(i:It)(v:Wi)(hi:i.Wf)(hv:v.Wf) :
  Calls prog 38 #[.pointer (some ⟨Z.s,0,none⟩),.int .u32 x,.agg #[.int .i64 i.base,.int .i64 i.order,.int .i64 i.r,.int .i64 i.off,.bool i.g],.agg #[.int .i64 v.base,.int .i64 v.order]] w (MvsR Z x i v w):=by
 cases hp:pget Z.S.l 1 x with
 | none =>
  refine(Q6g hs ok.core hx i v 8 (by decide) (.inl ⟨hp,rfl⟩)).mono ?_;rintro r w'⟨rfl,hb⟩;exact⟨hb,.inl ⟨8,by decide,rfl,.inl ⟨hp,rfl⟩⟩⟩
 | some p =>
  by_cases hk:p.kind=2
  case neg =>
   refine(Q6g hs ok.core hx i v 10 (by decide) (.inr ⟨p,hp,hk,rfl⟩)).mono ?_;rintro r w'⟨rfl,hb⟩;exact⟨hb,.inl ⟨10,by decide,rfl,.inr ⟨p,hp,.inl ⟨hk,rfl⟩⟩⟩⟩
  have Bq:Below w.heap.size w ((w.alloc (.cells #[.int .i64 i.base,.int .i64 i.order,.int .i64 i.r,.int .i64 i.off,.bool i.g] 63)).alloc (.cells #[.int .i64 v.base,.int .i64 v.order] 65)):=((Below.refl w.heap.size w).alloc (J1E _) _).alloc (by simp) _;have s0:=(hs.grown Bq).sep;have Fd:=(pget_some.1 hp).1;have Aq:=(pget_some.1 hp).2.2;refine Z0l (fac:=p.fac) (f:=Q1O Z x i) (T:=fun g W=>Sep W Z.hl/\TblZ Z p g W) ?_ ?_ ?_ ?_ ?_
  ·refine(Q0W s0 ok.core hx hp hk).mono ?_;rintro r w'⟨g,rfl,hb,hg⟩;exact⟨g,rfl,hb,(s0.grown hb).sep,hg⟩
  ·rintro g W W'⟨h1,h2⟩ hb;exact⟨(h1.grown hb).sep,h2.grown h1 hb⟩
  ·rintro g W k-⟨h1,h2⟩ Aa Gi;have Bo:Q0w i.base i.order=true:=by
    unfold Q3q Q1a at Gi;simp only[J1Y,decide_eq_true_eq] at Gi;exact Gi.1.1
   obtain⟨q1,q2,q3,q4,q5⟩:=Q1A Bo;have T:=(ok.tpi.x (p.fac:Int)).tt ok.core Fd Aq hk (SP.sS h1) h2.c;have Mk:0<=i.base+(k:Int)/\i.base+(k:Int)<256:=by omega
   have Ot:(i.base+(k:Int)).toNat=i.base.toNat+k:=by omega
   have AW:(Z.tb (x%256)).at' (i.base+(k:Int))=Q0g Z.S.l Z.tb x (i.base.toNat+k):=by
    unfold TB.at';rw[if_pos Mk,Ot,Q0h hp hk (by omega)]
   have kc:=Q1s T (x:Int) (p.fac:Int) (i.base+(k:Int)) fun e he=>by
    rw[AW] at he;exact ok.fpi.low ok.core.inv.lok he
   rw[AW] at kc;obtain⟨a,b,EI⟩:=Q3h (Q0g Z.S.l Z.tb x (i.base.toNat+k));rw[EI] at kc;refine kc.mono ?_;rintro r w'⟨rfl,hb⟩;exact⟨a,b,rfl,hb⟩
  ·intro er w' he hb;refine⟨hb,.inl ⟨er,?_,rfl,.inr ⟨p,hp,.inr ⟨hk,he⟩⟩⟩⟩;rcases he with ⟨_,rfl⟩|⟨_,_,rfl⟩ <;> decide
  ·intro ha hf a w' ho;obtain⟨a0,cap,rfl,Bc⟩:=Z1b ho.1;have AS:(movV (Q1O Z x i) i v (2 ^ i.order.toNat)).length<=cap:=by
    rcases ho.1.2 with ⟨e,h0⟩|⟨g,c,Ao,e,_,_,hn,_⟩
    ·rw[h0];exact J3z _
    ·cases e;exact hn
   refine⟨ho.2,.inr ⟨p,a0,cap,_,hp,hk,ha,hf,rfl,rfl,AS,?_⟩⟩;have Bo:Q0w i.base i.order=true/\Q0w v.base v.order=true/\1<=i.r/\i.r<=15/\0<=i.off/\i.off<256:=by
    unfold Q3q Q1a at ha;simp only[J1Y,decide_eq_true_eq] at ha;exact⟨ha.1.1,ha.2.1,ha.1.2⟩
   obtain⟨q1,q2,q3,q4,q5⟩:=Q1A Bo.1;obtain⟨r1,r2,r3,r4,r5⟩:=Q1A Bo.2.1;refine⟨fun j hj=>?_,fun ad h0 Jk DC=>?_⟩
   ·have Ka:(movV (Q1O Z x i) i v (2 ^ i.order.toNat))[j]?=some ((movV (Q1O Z x i) i v (2 ^ i.order.toNat))[j]):=J3O hj;have FN:(movV (Q1O Z x i) i v (2 ^ i.order.toNat)).getD j noMv=(movV (Q1O Z x i) i v (2 ^ i.order.toNat))[j]:=by rw[J5P,Ka];rfl
    have A8:(movV (Q1O Z x i) i v (2 ^ i.order.toNat))[j]∈movV (Q1O Z x i) i v (2 ^ i.order.toNat):=J4U hj;obtain⟨g,hg,_,Aa,_⟩:=Bc (j*4) _ (Q1g _ j 0 _ _ Ka rfl);refine⟨g,0,hg,Aa,fun t u hu=>?_,?_⟩
    ·have hu:((movV (Q1O Z x i) i v (2 ^ i.order.toNat))[j]).cells[t]?=some u:=by rw[<- FN];exact hu
     obtain⟨g',Fu,_,_,hc⟩:=Bc (j*4+t) u (Q1g _ j t _ _ Ka hu);rw[hg] at Fu;cases Fu;rw[J4b];exact hc
    ·show Mv.Wf ((movV (Q1O Z x i) i v (2 ^ i.order.toNat)).getD j noMv);rw[FN];unfold movV at A8;obtain⟨k,BE,e⟩:=J1K.1 A8;have Av:=J1U.1 (J1X.1 BE).1;unfold movV;rw[<- e];unfold itMv;exact⟨⟨by dsimp only;omega,by dsimp only;omega⟩,⟨by dsimp only;omega,by dsimp only;omega⟩,⟨by dsimp only;omega,by dsimp only;omega⟩⟩
   ·subst Jk;have hL:(movV (Q1O Z x i) i v (2 ^ i.order.toNat)).length≠0:=h0;have Gc:0<(movV (Q1O Z x i) i v (2 ^ i.order.toNat)).length:=by omega
    obtain⟨g,hg,MN,_⟩:=Bc (0*4) _ (Q1g _ 0 0 _ _ (J3O Gc) rfl);cases hg;exact absurd (hs.lt DC) (by dsimp only;omega)
theorem OutM.aside{w w':World}{v:Value}{L:List Mv}{H:HL}(hs:Sep w H)(h:OutM w w' v L)(FS:∀m∈L,m.Wf):∃(a:Option Addr) (cap:Nat),v=.slice a L.length cap/\L.length<=cap/\AsideM H L.length (fun j=>L.getD j noMv) a w':=by
 obtain⟨a0,cap,rfl,Bc⟩:=Z1b h.1;have AS:L.length<=cap:=by
  rcases h.1.2 with ⟨e,h0⟩|⟨g,c,Ao,e,_,_,hn,_⟩
  ·rw[h0];exact J3z _
  ·cases e;exact hn
 refine⟨a0,cap,rfl,AS,fun j hj=>?_,fun ad h0 Jk DC=>?_⟩
 ·have Ka:L[j]?=some L[j]:=J3O hj;have FN:L.getD j noMv=L[j]:=by rw[J5P,Ka];rfl
  obtain⟨g,hg,_,Aa,_⟩:=Bc (j*4) _ (Q1g _ j 0 _ _ Ka rfl);refine⟨g,0,hg,Aa,fun t u hu=>?_,?_⟩
  ·have hu:(L[j]).cells[t]?=some u:=by rw[<- FN];exact hu
   obtain⟨g',Fu,_,_,hc⟩:=Bc (j*4+t) u (Q1g _ j t _ _ Ka hu);rw[hg] at Fu;cases Fu;rw[J4b];exact hc
  ·show Mv.Wf (L.getD j noMv);rw[FN];exact FS _ (J4U hj)
 ·subst Jk;have Gc:0<L.length:=by omega
  obtain⟨g,hg,MN,_⟩:=Bc (0*4) _ (Q1g _ 0 0 _ _ (J3O Gc) rfl);cases hg;exact absurd (hs.lt DC) (by dsimp only;omega)
def mvL(A:Nat->Mv)(n:Nat):List Mv:=(List.range n).map A
theorem Z5V(A:Nat->Mv)(n:Nat):(mvL A n).length=n:=by simp[mvL]
theorem Z8Q(A:Nat->Mv){n j:Nat}(h:j<n):(mvL A n)[j]?=some (A j):=by simp[mvL,h]
theorem Q6h:∀(L:List Mv),∀u∈L.flatMap Mv.cells,u.oneCell'=true
 | [],u,h=>by cases h
 | m::r,u,h=>by
  rw[J2a] at h;rcases J2m.1 h with h|h
  ·simp only[Mv.cells,J1J,List.mem_nil_iff,or_false] at h;rcases h with rfl|rfl|rfl|rfl <;> rfl
  ·exact Q6h r u h
theorem Q6i{w:World}(base:Nat)(t ty e:TypeId)(i:TypeInfo)(size:Nat)(ht:prog.underlying t=some (.slice e))(hi:prog.info? e=some i)
  (v:Value) (n c:Nat) (xs:List Value) (Al:w.ownsRow base e size v n xs):(Builtin.append_ #[t,t] ty #[v,.slice none 0 c]).run prog w=.ok v w:=by
 rcases Al.2 with ⟨rfl,rfl⟩|⟨g,cap,Ao,rfl,_,_,QB,_⟩
 ·simp[Builtin.append_,run_underlying ht,sizeOf,typeInfo,hi,Builtin.lenOf,Builtin.firstCells]
 ·simp[Builtin.append_,run_underlying ht,sizeOf,typeInfo,hi,Builtin.lenOf,Builtin.firstCells,QB,storeCells]
theorem OutM.put{w wr:World}{v:Value}{L:List Mv}(h:OutM w wr v L){n cap:Nat}{A:Nat->Mv}{a:Option Addr}(hM:IsMv wr a n A)(hl:L.length+n<=65536)(ty:TypeId) :
  ∃v' w',(Builtin.append_ #[61,61] ty #[v,.slice a n cap]).run prog wr=.ok v' w'/\OutM w w' v' (L++mvL A n)/\(∀b,b<wr.heap.size->v.ownBlock≠some b->w'.heap[b]?=wr.heap[b]?)/\wr.heap.size<=w'.heap.size:=by
 obtain⟨i0,hi,BJ,AZ,Bd⟩:=info_parts Z8P;have Gj:=Z5V A n;by_cases ha:a=none
 ·subst ha;have hn:n=0:=by
   refine Classical.byContradiction fun hc=>?_
   obtain⟨g,off,e,_⟩:=hM 0 (by omega);cases e
  subst hn;refine⟨v,wr,Q6i w.heap.size 61 ty 90 i0 4 underlying61 hi v _ _ _ h.1,?_,fun _ _ _=>rfl,J1E _⟩;have:mvL A 0=[]:=rfl;rw[this,J3D];exact h
 ·obtain⟨ad,rfl⟩:=J5H.1 ha;obtain⟨v',w',hr,q1,q2,_,q4⟩:=run_append_own_at (P:=prog) wr w.heap.size 61 ty 90 i0 (.agg #[.int .i64 0,.int .i64 0,.int .i64 0,.bool false]) 4 32 underlying61 hi BJ AZ Bd rfl (by decide) v L.length (L.flatMap Mv.cells) h.1 ad n cap ((mvL A n).flatMap Mv.cells) (by rw[Q2w,Gj]) (by
   intro j u hj;have FQ:j<n*4:=by
    have:=(J1V.1 hj).1
    rwa [Q2w,Gj] at this
   have hd:j/4<n:=by omega
   obtain⟨g,off,e,hg,hc,_⟩:=hM (j/4) hd;cases e;have Pg:j%4<4:=J4D _ (by omega);have Ba:(A (j/4)).cells.length=4:=rfl;have Sv:(A (j/4)).cells[j%4]?=some ((A (j/4)).cells[j%4]'(by rw[Ba];exact Pg)):=J3O _;have hx:=Q1g (mvL A n) (j/4) (j%4) _ _ (Z8Q A hd) Sv;rw[show j/4*4+j%4=j by omega,hj] at hx;have hv:=hc (j%4) _ Sv;rw[<- J2u hx] at hv;have e:(⟨g,off,none⟩:Addr).add j=⟨g,off+j,none⟩:=by unfold Addr.add;split <;> simp_all
   rw[e,show off+j=off+j/4*4+j%4 by omega];exact hv) (Q6h _) (by unfold maxLen;omega) (by omega) h.2.size
  refine⟨v',w',hr,⟨?_,?_⟩,fun b hb Ac=>q2.block b hb (fun e=>Ac e.symm),q2.size⟩
  ·rw[J2j,Gj,J2i];exact q1
  ·exact(Below.refl _ _).trans (h.2.trans ((Below.refl _ _).mono h.2.size |>.grown q2 h.2.size (fun b hb=>(h.1.lt b hb).1)))
def Q6j(Z:SP)(x:Nat)(v:Wi)(i:It):Prop:=∃p,pget Z.S.l 1 x=some p/\p.kind=2/\Q3q i v=true/\i.off+((2 ^ i.order.toNat:Nat):Int)<=((2 ^ v.order.toNat:Nat):Int)
def Q2x(Z:SP)(x:Nat)(v:Wi)(its:List It):List Mv:=its.flatMap fun i=>movV (Q1O Z x i) i v (2 ^ i.order.toNat)
def CMvR(Z:SP)(x:Nat)(v:Wi)(its:List It)(w:World)(r:Ending)(w':World):Prop:=
 (∃er i,er≠0/\i∈its/\MvsE Z x i v er/\r=.returned (.tuple #[.slice none 0 0,.int .i64 er])/\Below w.heap.size w w') ∨
 ((∀i∈its,Q6j Z x v i)/\∃ov,r=.returned (.tuple #[ov,.int .i64 0])/\OutM w w' ov (Q2x Z x v its))
theorem Z8p(L:List Mv):mvL (fun j=>L.getD j noMv) L.length=L:=by
 apply J3f
 intro j;by_cases h:j<L.length
 ·rw[Z8Q _ h,J5P,J3O h];rfl
 ·rw[J3m (by rw[Z5V];omega),J3m (by omega)]
theorem Q7l(Z:SP)(x:Nat)(v:Wi){its:List It}{k:Nat}{i:It}(h:its[k]?=some i):Q2x Z x v (its.take (k+1))=Q2x Z x v (its.take k)++movV (Q1O Z x i) i v (2 ^ i.order.toNat):=by
 rw[J3t,h];simp[Q2x]
theorem Q4k(Z:SP)(x:Nat)(v:Wi):∀its:List It,(∀i∈its,Q6j Z x v i)->(Q2x Z x v its).length<=128*its.length
 | [],_=>by simp[Q2x]
 | i::r,h=>by
  have h1:=Q4k Z x v r fun j hj=>h j (J5K _ hj)
  obtain⟨p,_,_,ha,_⟩:=h i (by simp);have Bo:Q0w i.base i.order=true:=by
   unfold Q3q Q1a at ha;simp only[J1Y] at ha;exact ha.1.1
  have h2:=Z1n (Q1O Z x i) i v (2 ^ i.order.toNat);have h3:=(Q1A Bo).2.2.2.2;have e:Q2x Z x v (i::r)=movV (Q1O Z x i) i v (2 ^ i.order.toNat)++Q2x Z x v r:=rfl;rw[e,J2j,J2k];omega
theorem MvsR.shape{Z:SP}{x:Nat}{i:It}{v:Wi}{w w':World}{r:Ending}(h:MvsR Z x i v w r w'):Below w.heap.size w w'/\∃(a:Option Addr) (n cap:Nat) (er:Int),r=.returned (.tuple #[.slice a n cap,.int .i64 er]) /\
  ((er≠0/\MvsE Z x i v er)∨(er=0/\Q6j Z x v i/\n=(movV (Q1O Z x i) i v (2 ^ i.order.toNat)).length/\IsMv w' a n (fun j=>(movV (Q1O Z x i) i v (2 ^ i.order.toNat)).getD j noMv))):=by
 obtain⟨hb,hr⟩:=h;rcases hr with ⟨er,h0,rfl,he⟩|⟨p,a,cap,L,hp,hk,ha,hf,rfl,rfl,_,hA⟩
 ·exact⟨hb,none,0,0,er,rfl,.inl ⟨h0,he⟩⟩
 ·exact⟨hb,a,_,cap,0,rfl,.inr ⟨rfl,⟨p,hp,hk,ha,hf⟩,rfl,hA.1⟩⟩
theorem Z0m{w:World}{Z:SP}{fr:List Nat}{N K:Nat}{M:Int}(ok:Z.Ok fr N K M)(h:Sep w Z.hl){c k:Nat}(hc:CarC Z c k w){x:Nat}(hx:x<4294967296)(v:Wi)(hv:v.Wf){its:List It}{ia:Option Addr}(ic:Nat)(Fd:IsI w ia its)(FS:∀i∈its,i.Wf)(hl:its.length<=20) :
  Calls prog 118 #[.pointer (some ⟨c,0,none⟩),.int .u32 x,.agg #[.int .i64 v.base,.int .i64 v.order],.slice ia its.length ic] w (CMvR Z x v its w):=by
 have b0:Below w.heap.size w (w.alloc (.cells #[.int .i64 v.base,.int .i64 v.order] 65)):=(Below.refl _ _).alloc (J1E _) _;have cw:=Cells.new w 65 [.int .i64 v.base,.int .i64 v.order];have HV:Hid (∀V,Below (w.alloc (.cells #[.int .i64 v.base,.int .i64 v.order] 65)).heap.size (w.alloc (.cells #[.int .i64 v.base,.int .i64 v.order] 65)) V->((V.cell? ⟨c,0,none⟩=some (.pointer (some ⟨k,0,none⟩))/\V.cell? ⟨k,0,none⟩=some (.pointer (some ⟨Z.s,0,none⟩)))/\V.cell? ⟨w.heap.size,0,none⟩=some (.int .i64 v.base)/\V.cell? ⟨w.heap.size,1,none⟩=some (.int .i64 v.order))/\IsI V ia its /\
   ∀i∈its,Calls prog 38 #[.pointer (some ⟨Z.s,0,none⟩),.int .u32 x,.agg #[.int .i64 i.base,.int .i64 i.order,.int .i64 i.r,.int .i64 i.off,.bool i.g],.agg #[.int .i64 v.base,.int .i64 v.order]] V (MvsR Z x i v V)):=fun V hV=>by
  have hb:=Q0b hV;have s1:=h.grown hb;have cv:=cw.same (hV.block _ cw.lt);exact⟨⟨(hc.step rfl s1).cells,cv.cell 0 _ rfl,cv.cell 1 _ rfl⟩,Fd.below hb,fun i hi=>Z2V s1.sep ok hx i v (FS i hi) hv⟩
 have HE:Hid (∀V er i,er≠0->i∈its->MvsE Z x i v er->Below (w.alloc (.cells #[.int .i64 v.base,.int .i64 v.order] 65)).heap.size (w.alloc (.cells #[.int .i64 v.base,.int .i64 v.order] 65)) V->CMvR Z x v its w (.returned (.tuple #[.slice none 0 0,.int .i64 er])) V):=fun V er i h0 hi he hV=>.inl ⟨er,i,h0,hi,he,rfl,Q0b hV⟩
 have HD:Hid (∀V ov,(∀i∈its,Q6j Z x v i)->OutM (w.alloc (.cells #[.int .i64 v.base,.int .i64 v.order] 65)) V ov (Q2x Z x v its)->CMvR Z x v its w (.returned (.tuple #[ov,.int .i64 0])) V):=fun V ov hf ho=>.inr ⟨hf,ov,rfl,Q4O ho.1 b0.size,b0.trans (ho.2.mono b0.size)⟩
 generalize CMvR Z x v its w=Q at *
 obtain⟨vb,vo⟩:=v;dsimp only at *
 obtain⟨nI,Ik⟩:∃n,n=its.length:=⟨_,rfl⟩
 have HN:=Q0a Ik;rw[<- Ik] at hl;rw[<- Ik];have VN:(nI:Int)<=20:=by omega
 clear ok h hc hx Fd FS b0 cw Ik hv;go_enter func118,ntmps118;go_wp2_with fail;generalize hW0:(w.alloc (.cells #[.int .i64 vb,.int .i64 vo] 65))=W0 at *
 have BJ:w.heap.size<W0.heap.size:=by rw[<- hW0];simp
 clear hW0
 go_loopg [10,17] nI (fun gk ov iv wr=>∃j:Nat,iv=.int .i64 j/\j+gk=nI/\OutM W0 wr ov (Q2x Z x ⟨vb,vo⟩ (its.take j))/\∀i∈its.take j,Q6j Z x ⟨vb,vo⟩ i)
 case atStart=>exact⟨0,rfl,by omega,OutM.nil W0,by simp⟩
 case round =>
  obtain⟨j,rfl,E7,By,Eb⟩:=hrel;have Fx:=Q0a E7;have HO:=Q0a By;have HF:=Q0a Eb;have Bi:=By.2;clear E7;by_cases Aa:j<nI
  ·obtain⟨i,DE⟩:∃i,its[j]?=some i:=⟨_,J3O (by rw[<- HN.out];exact Aa)⟩
   obtain⟨g',o',rfl,Fu,Am⟩:=(HV.out wr Bi).2.1 j i DE;have i0:wr.cell? ⟨g',o'+j*5,none⟩=some (.int .i64 i.base):=Am 0 _ rfl;have i1:wr.cell? ⟨g',o'+j*5+1,none⟩=some (.int .i64 i.order):=Am 1 _ rfl;have i2:wr.cell? ⟨g',o'+j*5+2,none⟩=some (.int .i64 i.r):=Am 2 _ rfl;have i3:wr.cell? ⟨g',o'+j*5+3,none⟩=some (.int .i64 i.off):=Am 3 _ rfl;have i4:wr.cell? ⟨g',o'+j*5+4,none⟩=some (.bool i.g):=Am 4 _ rfl;have MR:(j:Int)<(nI:Int):=by omega
   have Gc:(0:Int)<=(j:Int):=by omega
   have Ak:=Q0a (Bi.alloc Bi.size (.cells #[.int .i64 i.base,.int .i64 i.order,.int .i64 i.r,.int .i64 i.off,.bool i.g] 63));have cI:=Cells.new wr 63 [.int .i64 i.base,.int .i64 i.order,.int .i64 i.r,.int .i64 i.off,.bool i.g];have Q4:wr.heap.size<(wr.alloc (.cells #[.int .i64 i.base,.int .i64 i.order,.int .i64 i.r,.int .i64 i.off,.bool i.g] 63)).heap.size:=by simp
   have HS:Hid (∀V,Below (wr.alloc (.cells #[.int .i64 i.base,.int .i64 i.order,.int .i64 i.r,.int .i64 i.off,.bool i.g] 63)).heap.size (wr.alloc (.cells #[.int .i64 i.base,.int .i64 i.order,.int .i64 i.r,.int .i64 i.off,.bool i.g] 63)) V->((V.cell? ⟨c,0,none⟩=some (.pointer (some ⟨k,0,none⟩))/\V.cell? ⟨k,0,none⟩=some (.pointer (some ⟨Z.s,0,none⟩)))/\V.cell? ⟨w.heap.size,0,none⟩=some (.int .i64 vb)/\V.cell? ⟨w.heap.size,1,none⟩=some (.int .i64 vo))/\V.cell? ⟨wr.heap.size,0,none⟩=some (.int .i64 i.base)/\V.cell? ⟨wr.heap.size,1,none⟩=some (.int .i64 i.order)/\V.cell? ⟨wr.heap.size,2,none⟩=some (.int .i64 i.r)/\V.cell? ⟨wr.heap.size,3,none⟩=some (.int .i64 i.off)/\V.cell? ⟨wr.heap.size,4,none⟩=some (.bool i.g)):=fun V hV=>by
    have ci:=cI.same (hV.block _ cI.lt);exact⟨(HV.out V (Ak.out.trans (hV.mono Ak.out.size))).1,ci.cell 0 _ rfl,ci.cell 1 _ rfl,ci.cell 2 _ rfl,ci.cell 3 _ rfl,ci.cell 4 _ rfl⟩
   have HK:=Q0a ((HV.out _ Ak.out.drew).2.2 i (J3L DE));have CT:=Q0a Aa;have NP:=Q0a DE;have CZ:Hid (∀w5,Below (wr.alloc (.cells #[.int .i64 i.base,.int .i64 i.order,.int .i64 i.r,.int .i64 i.off,.bool i.g] 63)).drew.heap.size (wr.alloc (.cells #[.int .i64 i.base,.int .i64 i.order,.int .i64 i.r,.int .i64 i.off,.bool i.g] 63)).drew w5->Below W0.heap.size W0 w5/\Below (wr.alloc (.cells #[.int .i64 i.base,.int .i64 i.order,.int .i64 i.r,.int .i64 i.off,.bool i.g] 63)).heap.size (wr.alloc (.cells #[.int .i64 i.base,.int .i64 i.order,.int .i64 i.r,.int .i64 i.off,.bool i.g] 63)) w5/\OutM W0 w5 u10 (Q2x Z x ⟨vb,vo⟩ (its.take j))):=fun w5 h5=>by
    have e1:Below (wr.alloc (.cells #[.int .i64 i.base,.int .i64 i.order,.int .i64 i.r,.int .i64 i.off,.bool i.g] 63)).heap.size (wr.alloc (.cells #[.int .i64 i.base,.int .i64 i.order,.int .i64 i.r,.int .i64 i.off,.bool i.g] 63)) w5:=(Below.refl _ _).drew.trans (h5.mono (J1E _));exact⟨Ak.out.trans (e1.mono Ak.out.size),e1,HO.out.below (Q0b e1)⟩
   obtain⟨ib,io,ir,iff,ig⟩:=i;dsimp only at *
   have s0:=HS.out _ (Below.refl _ _);have s1:=HS.out _ (Below.refl (wr.alloc (.cells #[.int .i64 ib,.int .i64 io,.int .i64 ir,.int .i64 iff,.bool ig] 63)).heap.size (wr.alloc (.cells #[.int .i64 ib,.int .i64 io,.int .i64 ir,.int .i64 iff,.bool ig] 63))).drew;have S0:=Q0a s0;have S1:=Q0a s1;clear By Eb Bi Am Fu DE cI s0 s1 HO Ak HV;go_upto_region 5 with fail
   go_region_held3 (fun V=>((V.cell? ⟨c,0,none⟩=some (.pointer (some ⟨k,0,none⟩))/\V.cell? ⟨k,0,none⟩=some (.pointer (some ⟨Z.s,0,none⟩)))/\V.cell? ⟨w.heap.size,0,none⟩=some (.int .i64 vb)/\V.cell? ⟨w.heap.size,1,none⟩=some (.int .i64 vo))/\V.cell? ⟨wr.heap.size,0,none⟩=some (.int .i64 ib)/\V.cell? ⟨wr.heap.size,1,none⟩=some (.int .i64 io)/\V.cell? ⟨wr.heap.size,2,none⟩=some (.int .i64 ir)/\V.cell? ⟨wr.heap.size,3,none⟩=some (.int .i64 iff)/\V.cell? ⟨wr.heap.size,4,none⟩=some (.bool ig)) (first|exact S0.out|exact S1.out|exact S5.out) (first|(go_at_call 38;refine HK.out.mono ?_;intro r w5 hm;obtain⟨Au,a5,n5,c5,e5,rfl,QI⟩:=hm.shape;have H5:=Q0a (CZ.out w5 Au);have S5:=Q0a (HS.out w5 H5.out.2.1);have NW:=Q0a QI;clear hm Au QI))
   all_goals
    clear CZ HS HK S0 S1;by_cases he:e5=0
    case neg =>
     have Ac:(e5 != 0)=true:=by simp[he]
     have HR:=Q0a (HE.out w5 e5 ⟨ib,io,ir,iff,ig⟩ he (J3L NP.out) (by rcases NW.out with ⟨_,h⟩|⟨h,_⟩;exact h;exact(he h).elim) H5.out.1);clear HE HD NW H5 S5;go_wp2_with fail
     (try go_ret2);exact HR.out
    case pos =>
     subst he;obtain⟨Fm,NJ,BF⟩:Q6j Z x ⟨vb,vo⟩ ⟨ib,io,ir,iff,ig⟩/\n5=_/\_:=by
      rcases NW.out with ⟨h,_⟩|⟨_,h⟩
      ·exact(h rfl).elim
      ·exact h
     have EP:∀i∈its.take (j+1),Q6j Z x ⟨vb,vo⟩ i:=by
      rw[J3t,NP.out];intro i hi;rcases J2m.1 hi with hi|hi
      ·exact HF.out i hi
      ·simp at hi;subst hi;exact Fm
     have Kn:=Q0a EP;have Ab:(Q2x Z x ⟨vb,vo⟩ (its.take j)).length+n5<=65536:=by
      have h1:=Q4k Z x ⟨vb,vo⟩ _ EP;rw[Q7l Z x ⟨vb,vo⟩ NP.out,J2j,<- NJ,J3Q] at h1;have h2:=hl;omega
     obtain⟨v',w9,AR,Qg,_⟩:=(H5.out.2.2).put (cap:=c5) BF Ab 61;have U9:Hid (OutM W0 w9 v' (Q2x Z x ⟨vb,vo⟩ (its.take (j+1)))):=by
      refine Q0a ?_;rw[Q7l Z x ⟨vb,vo⟩ NP.out];rw[NJ,Z8p] at Qg;exact Qg
     clear Fm NJ BF EP Ab Qg NW HF H5 S5 HE;go_wp2_with (at_builtin;refine Lib.wpList_append_run _ rfl _ _ _ _ rfl _ _ rfl rfl _ _ AR ?_);go_roundg (nI-(j+1))
     case measure=>have:=Fx.out;have:=CT.out;omega
     case rel=>exact⟨j+1,by go_num,by have:=CT.out;omega,U9.out,Kn.out⟩
  ·obtain rfl:j=nI:=by have:=Fx.out;omega
   have Bh:its.take j=its:=J3v (by rw[<- HN.out];exact J1E _);rw[Bh] at By Eb;have HR:=Q0a (HD.out wr _ Eb By);clear By Eb Bi HV HE HD HO HF;go_wp2_with fail
   (try go_ret2);exact HR.out
end Go.Proofs.YtfidemmgofcnmaaGreatDoor
