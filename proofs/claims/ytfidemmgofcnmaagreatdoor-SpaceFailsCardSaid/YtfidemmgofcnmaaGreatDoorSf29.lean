/- SpaceFails returns true at every input. No condition. Part of its proof. -/
import Derived.Test.YtfidemmgofcnmaaGreatDoorSf28
set_option maxHeartbeats 8000000
set_option maxRecDepth 100000
set_option linter.unusedVariables false
namespace Go.Proofs.YtfidemmgofcnmaaGreatDoor
open Go.RowKit Go.Proofs.Tryz
theorem Z1r{w:World}(h:Env w):Calls prog 23 #[] w (Told w (.bool true)):=by
 have Kl:((2 ^ (6+10):Nat):Int)=65536:=by decide
 have k1:=Z2A (Sep.nil h) 6 (by omega) (by omega) 20000 (by omega) (by rw[Kl];omega) 1 (by omega) (by omega);rw[Kl] at k1;have HQ:Hid (∀r w1,Z7p 6 20000 1 [] w r w1->∃c,r=.returned (.pointer (some ⟨c,0,none⟩))/\Calls prog 79 #[.pointer (some ⟨c,0,none⟩),.int .u32 0,.int .i64 2,.int .i64 0] w1 fun r w2=>r=.returned (.tuple #[.int .u32 1,.int .i64 0]) /\
   Calls prog 79 #[.pointer (some ⟨c,0,none⟩),.int .u32 0,.int .i64 4,.int .i64 0] w2 fun r w3=>r=.returned (.tuple #[.int .u32 2,.int .i64 0]) /\
    Calls prog 79 #[.pointer (some ⟨c,0,none⟩),.int .u32 0,.int .i64 2,.int .i64 0] w3 fun r w4=>r=.returned (.tuple #[.int .u32 3,.int .i64 0]) /\
     Calls prog 80 #[.pointer (some ⟨c,0,none⟩)] w4 fun r w5=>∃s,r=.returned (.pointer (some ⟨s,0,none⟩))/\AlQ s c 0 E0 [] w w5):=by
  rintro r w1⟨S,rfl,hf,st⟩;exact⟨S.c,rfl,Z9L hf st⟩
 clear h Kl;go_enter func23,ntmps23;go_wp2_with fail;refine k1.mono ?_;intro r w1 hx;obtain⟨c,rfl,hm⟩:=HQ.out _ _ hx;have HM:=Q0a hm;clear hx hm HQ k1;go_wp2_with fail;refine HM.out.mono ?_;rintro r w2⟨rfl,hm⟩;have I8:=Q0a hm;clear hm HM;go_wp2_with fail;refine I8.out.mono ?_;rintro r w3⟨rfl,hm⟩;have J6:=Q0a hm;clear hm I8;go_wp2_with fail;refine J6.out.mono ?_;rintro r w4⟨rfl,hm⟩;have IQ:=Q0a hm;clear hm J6;go_wp2_with fail;refine IQ.out.mono ?_;rintro r w5⟨s,rfl,hq⟩;have H5:=Q0a (J1A hq);clear hq IQ;go_wp2_with fail;refine H5.out.mono ?_;rintro r w6⟨rfl,hq⟩;have H6:=Q0a (Z9M hq)
 clear hq H5;go_wp2_with fail;refine H6.out.mono ?_;rintro r w7⟨rfl,hq⟩;have H7:=Q0a (Z1q (x:=3) (z:=7) hq (.inr rfl) (by omega) (o:=some (2,5)) fun a ⟨b1,b2,e⟩=>by rw[e];rfl);clear hq H6;go_wp2_with fail;refine H7.out.mono ?_;rintro r w8⟨rfl,hq⟩;have CV:=hq.box 72 [.int .u32 2,.int .i64 5];have H8:=Q0a (Z0i (mk:=4) CV (by omega) fun a ha=>J1B ha);clear hq CV H7;unfold Z4p;go_wp2_with fail;refine H8.out.mono ?_;rintro r w9⟨rfl,hq⟩;have H9:=Q0a (Z1q (x:=3) (z:=7) hq (.inr rfl) (by omega) (o:=some (2,1)) fun a ⟨b1,b2,e⟩=>by rw[e];rfl);clear hq H8;go_wp2_with fail;refine H9.out.mono ?_;rintro r w10⟨rfl,hq⟩
 have CV:=hq.box 72 [.int .u32 2,.int .i64 1];have RG:=Q0a (J1D CV);clear hq CV H9;unfold Z4p;go_wp2_with fail;refine RG.out.mono ?_;rintro r w11⟨rfl,hq⟩;have CV:=hq.box 173 [.int .i64 1,.int .i64 5];have Rw:=Q0a (Z0i (mk:=1) CV (by omega) fun a ha=>J1C ha);clear hq CV RG;go_wp2_with fail;refine Rw.out.mono ?_;rintro r w12⟨rfl,hq⟩;have St:=Q0a (Z1q (x:=3) (z:=7) hq (.inr rfl) (by omega) (o:=none) fun a ⟨e,_⟩=>by
  cases hh:a.en 3 (7:Int).toNat with
  | none=>rfl
  | some c=>have:=(e _ _ _ hh).1;omega)
 clear hq Rw;go_wp2_with fail;refine St.out.mono ?_;rintro r w13⟨rfl,hq⟩;have CV:=hq.box 72 [.int .u32 0,.int .i64 0];have Mr:(w13.alloc (.cells #[.int .u32 0,.int .i64 0] 72)).heap.size=w13.heap.size+1:=by simp
 have CN:=Z9N CV;rw[Mr] at CN;have SC:=Q0a CN;clear hq CV St CN Mr;unfold Z4p;go_wp2_with fail;refine SC.out.mono ?_;rintro r w14⟨rfl,hq⟩;have Sv:=Q0a (Z4r hq);clear hq SC;go_wp2_with fail;refine Sv.out.mono ?_;rintro r w15⟨ha,A4,rfl,hq⟩;have RM:=Q0a (J1F hq);clear hq Sv;go_wp2_with fail;refine RM.out.mono ?_;rintro r w16⟨ka,Fx,rfl,hq⟩;have Bn:=hq.bx;have x0:=Bn (w8.heap.size,[.int .u32 2,.int .i64 5]) (by simp) 0 _ rfl;have x1:=Bn (w8.heap.size,[.int .u32 2,.int .i64 5]) (by simp) 1 _ rfl;have y0:=Bn (w10.heap.size,[.int .u32 2,.int .i64 1]) (by simp) 0 _ rfl;have y1:=Bn (w10.heap.size,[.int .u32 2,.int .i64 1]) (by simp) 1 _ rfl
 have z0:=Bn (w11.heap.size,[.int .i64 1,.int .i64 5]) (by simp) 0 _ rfl;have z1:=Bn (w11.heap.size,[.int .i64 1,.int .i64 5]) (by simp) 1 _ rfl;obtain⟨g,rfl,q0,q1⟩:=hq.hl;simp only at x0 x1 y0 y1 z0 z1;have QR:=Q0a (Z2G (x:=3) hq (by omega));clear hq Bn RM;go_wp2_with fail;refine QR.out.mono ?_;rintro r w17⟨sa,scap,rfl,hq⟩;have R6:=Q0a (Z2G (x:=1) hq (by omega));clear hq QR x0 x1 y0 y1 z0 z1 q0 q1;go_wp2_with fail;refine R6.out.mono ?_;rintro r w18⟨sa2,scap2,rfl,hq⟩;have Sm:=Q0a (J2B hq);clear hq R6;go_wp2_with fail;refine Sm.out.mono ?_;rintro r w19⟨pp,rfl,rfl,hq⟩;have S9:=Q0a hq
 clear hq Sm;go_wp2_with fail;refine S9.out.mono ?_;rintro r w20⟨qq,rfl,rfl,hq⟩;have QF:=Q0a hq;clear hq S9;go_wp2_with fail;refine QF.out.mono ?_;rintro r w21⟨rfl,hb⟩;have HR:Hid (Told w (.bool true) (.returned (.bool true)) w21):=⟨rfl,hb⟩
 clear hb QF;go_wp2_with fail
 (try go_ret);exact HR.out
end Go.Proofs.YtfidemmgofcnmaaGreatDoor
namespace Go.Proofs.YtfidemmgofcnmaaGreatDoor
open Go.ChangeShapes Go.WideShapes Go.ChangeAt Go.RowKit Go.Deep Go.Proofs.Tryz
end Go.Proofs.YtfidemmgofcnmaaGreatDoor
namespace Go.Proofs.YtfidemmgofcnmaaGreatDoor
open Go.RowKit Go.Proofs.Tryz
def Q1C(b o:Int):Bool:=decide (0<=b/\b<256/\0<=o/\o<=7/\b.toNat%2 ^ o.toNat=0)
theorem J1G(n k:Nat)(hn:n<256)(hk:k<=7):bits .and .i64 (n:Int) (((2 ^ k-1:Nat):Int))=((n%2 ^ k:Nat):Int):=by
 have hp:2 ^ k-1<2 ^ 63:=by
  have:2 ^ k<=2 ^ 7:=J4q (by omega) hk;omega
 rw[Z2J n (2 ^ k-1) (by omega) hp,J4H]
theorem Q6S(w:World)(b o:Int):Calls prog 170 #[.int .i64 b,.int .i64 o] w fun r w'=>r=.returned (.bool (Q1C b o))/\w=w':=by
 unfold Q1C;by_cases h1:0<=b
 ·by_cases h2:b<256
  ·by_cases h3:0<=o
   ·by_cases h4:o<=7
    ·obtain⟨n,rfl⟩:=J4G h1;obtain⟨k,rfl⟩:=J4G h3;have hb:=J1G n k (by omega) (by omega);rw[show(decide (0<=(n:Int)/\(n:Int)<256/\0<=(k:Int)/\(k:Int)<=7/\(n:Int).toNat%2 ^ (k:Int).toNat=0))=(((n%2 ^ k:Nat):Int)==0) by
      rw[J4h,J4h];by_cases h:n%2 ^ k=0
      ·rw[h];simp;omega
      ·rw[decide_eq_false (by rintro⟨_,_,_,_,e⟩;exact h e)];exact(beq_false_of_ne (by omega)).symm]
     rw[<- hb];clear hb;have hk:k=0∨k=1∨k=2∨k=3∨k=4∨k=5∨k=6∨k=7:=by omega
     clear h3 h4;go_enter func170,ntmps170;rcases hk with rfl|rfl|rfl|rfl|rfl|rfl|rfl|rfl <;> (go_wp2_with fail;go_ret;exact⟨rfl,rfl⟩)
    ·rw[decide_eq_false (by omega)];go_enter func170,ntmps170;go_wp2_with fail;go_ret;exact⟨rfl,rfl⟩
   ·rw[decide_eq_false (by omega)];go_enter func170,ntmps170;go_wp2_with fail;go_ret;exact⟨rfl,rfl⟩
  ·rw[decide_eq_false (by omega)];go_enter func170,ntmps170;go_wp2_with fail;go_ret;exact⟨rfl,rfl⟩
 ·rw[decide_eq_false (by omega)];go_enter func170,ntmps170;go_wp2_with fail;go_ret;exact⟨rfl,rfl⟩
theorem J1H(w:World)(v:Wi):Calls prog 95 #[.agg #[.int .i64 v.base,.int .i64 v.order]] w (Told w (.bool (Q1C v.base v.order))):=by
 obtain⟨b,o⟩:=v;dsimp only at *
 have ka:=Q6S (w.alloc (.cells #[.int .i64 b,.int .i64 o] 65)) b o;have HB:Hid (Below w.heap.size w (w.alloc (.cells #[.int .i64 b,.int .i64 o] 65))):=(Below.refl w.heap.size w).alloc (J3b _) _;go_enter func95,ntmps95;go_wp2_with fail;refine ka.mono ?_;rintro r w'⟨rfl,rfl⟩;clear ka;go_wp2_with fail;go_ret;exact⟨rfl,HB.out⟩
def Q6T(i:It):Bool:=Q1C i.base i.order&&decide (1<=i.r/\i.r<=15/\0<=i.off/\i.off<256)
theorem Z9R(w:World)(i:It):Calls prog 94 #[.agg #[.int .i64 i.base,.int .i64 i.order,.int .i64 i.r,.int .i64 i.off,.bool i.g]] w fun r w'=>∃x:Int,r=.returned (.tuple #[.int .u64 x,.bool (Q6T i)])/\Below w.heap.size w w':=by
 obtain⟨b,o,ri,f,g⟩:=i;unfold Q6T;dsimp only;have ka:=Q6S (w.alloc (.cells #[.int .i64 b,.int .i64 o,.int .i64 ri,.int .i64 f,.bool g] 63)) b o;have HB:Hid (Below w.heap.size w (w.alloc (.cells #[.int .i64 b,.int .i64 o,.int .i64 ri,.int .i64 f,.bool g] 63))):=(Below.refl w.heap.size w).alloc (J3b _) _;generalize Q1C b o=al at *
 obtain⟨cv,Cu⟩:∃cv,cv=(al&&decide (1<=ri/\ri<=15/\0<=f/\f<256)):=⟨_,rfl⟩
 rw[<- Cu];go_enter func94,ntmps94;go_wp2_with fail;refine ka.mono ?_;rintro r w'⟨rfl,rfl⟩;clear ka;cases al with
 | false =>
  obtain rfl:cv=false:=Cu;go_wp2_with fail;go_ret2;exact⟨_,rfl,HB.out⟩
 | true =>
  rw[J4s] at Cu;by_cases h1:ri<1
  ·obtain rfl:cv=false:=by rw[Cu,decide_eq_false (by omega)]
   clear Cu;go_wp2_with fail;go_ret2;exact⟨_,rfl,HB.out⟩
  ·by_cases h2:ri>15
   ·obtain rfl:cv=false:=by rw[Cu,decide_eq_false (by omega)]
    clear Cu;go_wp2_with fail;go_ret2;exact⟨_,rfl,HB.out⟩
   ·by_cases h3:f<0
    ·obtain rfl:cv=false:=by rw[Cu,decide_eq_false (by omega)]
     clear Cu;go_wp2_with fail;go_ret2;exact⟨_,rfl,HB.out⟩
    ·by_cases h4:f≥256
     ·obtain rfl:cv=false:=by rw[Cu,decide_eq_false (by omega)]
      clear Cu;go_wp2_with fail;go_ret2;exact⟨_,rfl,HB.out⟩
     ·obtain rfl:cv=true:=by rw[Cu,decide_eq_true (by omega)]
      clear Cu;cases g with
      | false =>
       go_wp2_with fail;go_ret2;exact⟨_,rfl,HB.out⟩
      | true =>
       go_wp2_with fail;go_ret2;exact⟨_,rfl,HB.out⟩
theorem J0k:(prog.info? 90).map (fun i=>(i.zero,i.size,i.bytes))=some (some (.agg #[.int .i64 0,.int .i64 0,.int .i64 0,.bool false]),4,32):=by kernel_rfl
theorem Q3c:∀L:List Mv,(L.flatMap Mv.cells).length=L.length*4
 | []=>rfl
 | p::r=>by rw[J3z,J3M,Q3c r];simp[Mv.cells];omega
theorem Q1u:∀(L:List Mv) (k i:Nat) (m:Mv) (v:Value),L[k]?=some m->m.cells[i]?=some v->(L.flatMap Mv.cells)[k*4+i]?=some v
 | [],k,i,m,v,h,_=>by simp at h
 | p::r,k,i,m,v,h,hv=>by
  rw[J3z];have hi:i<4:=by have:=(J3t.1 hv).1;simpa[Mv.cells] using this
  have hp:p.cells.length=4:=rfl;cases k with
  | zero =>
   simp at h;subst h;rw[J6q (by rw[hp];omega),show 0*4+i=i by omega];exact hv
  | succ k =>
   rw[J6r (by rw[hp];omega),hp,show(k+1)*4+i-4=k*4+i by omega];exact Q1u r k i m v (by simpa using h) hv
def OutM(w wr:World)(v:Value)(L:List Mv):Prop:=wr.ownsRow w.heap.size 90 4 v L.length (L.flatMap Mv.cells)/\Below w.heap.size w wr
theorem OutM.nil(w:World):OutM w w (.slice none 0 0) []:=⟨World.ownsRow_nil _ _ _ _,Below.refl _ _⟩
theorem OutM.below{w wr w1:World}{v:Value}{L:List Mv}(h:OutM w wr v L)(hb:Below wr.heap.size wr w1):OutM w w1 v L:=
 ⟨Q5v h.1 (fun b Al=>hb.block b (h.1.lt b Al).2),h.2.trans (hb.mono h.2.size)⟩
theorem OutM.app{w wr:World}{v:Value}{L:List Mv}(h:OutM w wr v L)(hl:L.length<=16777216)(m:Mv)(ty:TypeId):∃v' w',(Builtin.append_ #[61,61] ty #[v,.slice (some ⟨wr.heap.size,0,none⟩) 1 1]).run prog (wr.alloc (.cells #[.int .i64 m.src,.int .i64 m.dst,.int .i64 m.r,.bool m.g] 90))=.ok v' w'/\OutM w w' v' (L++[m]):=by
 obtain⟨i0,hi,Bx,AX,AU⟩:=info_parts J0k;have h2:=h.below ((Below.refl wr.heap.size wr).alloc (J3b _) (.cells #[.int .i64 m.src,.int .i64 m.dst,.int .i64 m.r,.bool m.g] 90));have hc:=Q3c L;obtain⟨v',w',hr,q1,q2,_,q4⟩:=run_append_own_at (P:=prog) (wr.alloc (.cells #[.int .i64 m.src,.int .i64 m.dst,.int .i64 m.r,.bool m.g] 90)) w.heap.size 61 ty 90 i0 (.agg #[.int .i64 0,.int .i64 0,.int .i64 0,.bool false]) 4 32 underlying61 hi Bx AX AU rfl (by decide) v L.length (L.flatMap Mv.cells) h2.1 ⟨wr.heap.size,0,none⟩ 1 1 m.cells (by simp[Mv.cells]) (by
  intro j u hj;have:=(Cells.new wr 90 m.cells).cell j u hj;have e:(⟨wr.heap.size,0,none⟩:Addr).add j=⟨wr.heap.size,j,none⟩:=by unfold Addr.add;split <;> simp_all
  rw[e];exact this) (fun u hu=>by
   have h4:u=.int .i64 m.src∨u=.int .i64 m.dst∨u=.int .i64 m.r∨u=.bool m.g:=by simpa[Mv.cells] using hu
   rcases h4 with rfl|rfl|rfl|rfl <;> rfl) (by unfold maxLen;omega) (by omega) h2.2.size
 refine⟨v',w',hr,?_,?_⟩
 ·rw[J3M,J3K];have e:[m].flatMap Mv.cells=m.cells:=by simp
  rw[e];exact q1
 ·exact h2.2.trans ((Below.refl _ _).mono h2.2.size |>.grown q2 h2.2.size (fun b hb=>(h2.1.lt b hb).1))
def itMv(i:It)(v:Wi)(k:Nat):Mv:=⟨i.base+k,v.base+i.off+k,i.r,i.g⟩
def movV(f:Nat->Bool)(i:It)(v:Wi)(k:Nat):List Mv:=((List.range k).filter f).map (itMv i v)
theorem Z7z(f:Nat->Bool)(i:It)(v:Wi)(k:Nat):movV f i v (k+1)=movV f i v k++if f k=true then [itMv i v k] else []:=by
 unfold movV;rw[J3m,J4Z,J6G];cases h:f k <;> simp[h]
theorem Q8D(f:Nat->Bool)(i:It)(v:Wi)(k:Nat):(movV f i v k).length<=k:=by
 unfold movV;rw[J4L];refine J3c (J5r _ _) ?_;rw[J4M];exact J3b _
def Q3B(i:It)(v:Wi):Bool:=Q6T i&&(Q1C v.base v.order&&(decide (i.base<128)==decide (v.base<128)))
theorem Q1A{b o:Int}(h:Q1C b o=true):0<=b/\0<=o/\o<=7/\b.toNat+2 ^ o.toNat<=256/\2 ^ o.toNat<=128:=by
 unfold Q1C at h;obtain⟨h1,h2,h3,h4,h5⟩:=of_decide_eq_true h;obtain⟨n,rfl⟩:=J4G h1;obtain⟨k,rfl⟩:=J4G h3;rw[J4h,J4h] at *
 have hk:k=0∨k=1∨k=2∨k=3∨k=4∨k=5∨k=6∨k=7:=by omega
 refine⟨h1,h3,h4,?_,?_⟩
 ·rcases hk with rfl|rfl|rfl|rfl|rfl|rfl|rfl|rfl <;> simp at h5 ⊢ <;> omega
 ·rcases hk with rfl|rfl|rfl|rfl|rfl|rfl|rfl|rfl <;> simp
def Q4W(Z:SP)(x:Nat)(i:It)(k:Nat):Bool:=(Q0f Z.S.l Z.tb x (i.base.toNat+k)).isSome
def MvsE(Z:SP)(x:Nat)(i:It)(v:Wi)(er:Int):Prop:=(pget Z.S.l 1 x=none/\er=8)∨∃p,pget Z.S.l 1 x=some p/\((p.kind≠2/\er=10)∨(p.kind=2/\((Q3B i v=false/\er=1)∨(Q3B i v=true/\¬(i.off+((2 ^ i.order.toNat:Nat):Int)<=((2 ^ v.order.toNat:Nat):Int))/\er=2))))
def noMv:Mv:=⟨0,0,0,false⟩
def MvsR(Z:SP)(x:Nat)(i:It)(v:Wi)(w:World)(r:Ending)(w':World):Prop:=Below w.heap.size w w' /\
 ((∃er,er≠0/\r=.returned (.tuple #[.slice none 0 0,.int .i64 er])/\MvsE Z x i v er) ∨
  ∃(p:Pl) (a:Option Addr) (cap:Nat) (L:List Mv),pget Z.S.l 1 x=some p/\p.kind=2/\Q3B i v=true/\i.off+((2 ^ i.order.toNat:Nat):Int)<=((2 ^ v.order.toNat:Nat):Int)/\L=movV (Q4W Z x i) i v (2 ^ i.order.toNat)/\r=.returned (.tuple #[.slice a L.length cap,.int .i64 0])/\L.length<=cap/\AsideM Z.hl L.length (fun j=>L.getD j noMv) a w')
theorem Q3d{w:World}{Z:SP}{fr:List Nat}{N K:Nat}(hs:Sep w Z.hl)(ok:Z.S.Ok fr N K){x:Nat}(hx:x<4294967296)(i:It)(v:Wi)(er:Int)(he:er≠0)(hw:(pget Z.S.l 1 x=none/\er=8)∨∃p,pget Z.S.l 1 x=some p/\p.kind≠2/\er=10) :
  Calls prog 38 #[.pointer (some ⟨Z.s,0,none⟩),.int .u32 x,.agg #[.int .i64 i.base,.int .i64 i.order,.int .i64 i.r,.int .i64 i.off,.bool i.g],.agg #[.int .i64 v.base,.int .i64 v.order]] w fun r w'=>r=.returned (.tuple #[.slice none 0 0,.int .i64 er])/\Below w.heap.size w w':=by
 have Bw:Below w.heap.size w ((w.alloc (.cells #[.int .i64 i.base,.int .i64 i.order,.int .i64 i.r,.int .i64 i.off,.bool i.g] 63)).alloc (.cells #[.int .i64 v.base,.int .i64 v.order] 65)):=((Below.refl w.heap.size w).alloc (J3b _) _).alloc (by simp) _;have ks:=Q0I (hs.grown Bw).sep ok hx er hw;have FV:(er==0)=false:=by simpa using he
 have HR:Hid (∀w' o,Below ((w.alloc (.cells #[.int .i64 i.base,.int .i64 i.order,.int .i64 i.r,.int .i64 i.off,.bool i.g] 63)).alloc (.cells #[.int .i64 v.base,.int .i64 v.order] 65)).heap.size ((w.alloc (.cells #[.int .i64 i.base,.int .i64 i.order,.int .i64 i.r,.int .i64 i.off,.bool i.g] 63)).alloc (.cells #[.int .i64 v.base,.int .i64 v.order] 65)) w'->Below w.heap.size w (w'.alloc o)):=fun w' o hb=>Q0e (Q0e (hb.alloc hb.size o))
 obtain⟨ib,io,ir,iff,ig⟩:=i;obtain⟨vb,vo⟩:=v;dsimp only at *
 clear hs ok hx hw Bw;go_enter func38,ntmps38;go_wp2_with fail;refine ks.mono ?_;rintro r w1⟨rfl,hb⟩;have HQ:Hid (∀o,Below w.heap.size w (w1.alloc o)):=fun o=>HR.out w1 o hb
 clear hb HR ks;go_wp2_with fail
 (try go_ret2);exact⟨rfl,HQ.out _⟩
theorem Z7A{n:Nat}(h:n<=128):wrap64 (n:Int)=(n:Int):=Go.IntWalk.wrap64_in _ (by omega)
theorem Z9S{n:Nat}{x:Int}(h:n<=128)(h0:0<=x)(h1:x<256):wrap64 (x+(n:Int))=x+(n:Int):=Go.IntWalk.wrap64_in _ (by omega)
def Box2(b:Nat)(i:It)(v:Wi)(W:World):Prop:=(W.cell? ⟨b,0,none⟩=some (.int .i64 i.base)/\W.cell? ⟨b,1,none⟩=some (.int .i64 i.order)/\W.cell? ⟨b,2,none⟩=some (.int .i64 i.r)/\W.cell? ⟨b,3,none⟩=some (.int .i64 i.off)/\W.cell? ⟨b,4,none⟩=some (.bool i.g))/\W.cell? ⟨b+1,0,none⟩=some (.int .i64 v.base)/\W.cell? ⟨b+1,1,none⟩=some (.int .i64 v.order)
theorem box2{w:World}(i:It)(v:Wi){W:World}(hb:Below ((w.alloc (.cells #[.int .i64 i.base,.int .i64 i.order,.int .i64 i.r,.int .i64 i.off,.bool i.g] 63)).alloc (.cells #[.int .i64 v.base,.int .i64 v.order] 65)).heap.size ((w.alloc (.cells #[.int .i64 i.base,.int .i64 i.order,.int .i64 i.r,.int .i64 i.off,.bool i.g] 63)).alloc (.cells #[.int .i64 v.base,.int .i64 v.order] 65)) W):Box2 w.heap.size i v W:=by
 have h1:=((Cells.new w 63 i.cells).alloc (.cells #[.int .i64 v.base,.int .i64 v.order] 65)).same (hb.block _ (by simp;omega));have h2:=(Cells.new (w.alloc (.cells #[.int .i64 i.base,.int .i64 i.order,.int .i64 i.r,.int .i64 i.off,.bool i.g] 63)) 65 v.cells).same (hb.block _ (by simp));have e1:(w.alloc (.cells #[.int .i64 i.base,.int .i64 i.order,.int .i64 i.r,.int .i64 i.off,.bool i.g] 63)).heap.size=w.heap.size+1:=by simp
 rw[e1] at h2;exact⟨⟨h1.cell 0 _ rfl,h1.cell 1 _ rfl,h1.cell 2 _ rfl,h1.cell 3 _ rfl,h1.cell 4 _ rfl⟩,h2.cell 0 _ rfl,h2.cell 1 _ rfl⟩
theorem Q6U{w:World}{s x fac:Nat}{i:It}{v:Wi}{T:Nat->World->Prop}{f:Nat->Bool}{Q:Ending->World->Prop}
  (ks:Calls prog 90 #[.pointer (some ⟨s,0,none⟩),.int .u32 x] ((w.alloc (.cells #[.int .i64 i.base,.int .i64 i.order,.int .i64 i.r,.int .i64 i.off,.bool i.g] 63)).alloc (.cells #[.int .i64 v.base,.int .i64 v.order] 65)) fun r w'=>∃g:Nat,r=.returned (.tuple #[.agg #[.pointer (some ⟨g,0,none⟩),.int .u32 x,.int .i64 fac],.int .i64 0])/\Below ((w.alloc (.cells #[.int .i64 i.base,.int .i64 i.order,.int .i64 i.r,.int .i64 i.off,.bool i.g] 63)).alloc (.cells #[.int .i64 v.base,.int .i64 v.order] 65)).heap.size ((w.alloc (.cells #[.int .i64 i.base,.int .i64 i.order,.int .i64 i.r,.int .i64 i.off,.bool i.g] 63)).alloc (.cells #[.int .i64 v.base,.int .i64 v.order] 65)) w'/\T g w')
  (hT:∀g W W',T g W->Below W.heap.size W W'->T g W')
  (hC:∀(g:Nat) (W:World) (k:Nat),Below ((w.alloc (.cells #[.int .i64 i.base,.int .i64 i.order,.int .i64 i.r,.int .i64 i.off,.bool i.g] 63)).alloc (.cells #[.int .i64 v.base,.int .i64 v.order] 65)).heap.size ((w.alloc (.cells #[.int .i64 i.base,.int .i64 i.order,.int .i64 i.r,.int .i64 i.off,.bool i.g] 63)).alloc (.cells #[.int .i64 v.base,.int .i64 v.order] 65)) W->T g W->k<2 ^ i.order.toNat->Q3B i v=true->Calls prog 93 #[.agg #[.pointer (some ⟨g,0,none⟩),.int .u32 x,.int .i64 fac],.int .i64 (i.base+(k:Int))] W fun r w'=>∃a b:Int,r=.returned (.tuple #[.agg #[.int .u32 a,.int .i64 b],.bool (f k)])/\Below W.heap.size W w')
  (hE:∀(er:Int) (w':World),((Q3B i v=false/\er=1)∨(Q3B i v=true/\¬(i.off+((2 ^ i.order.toNat:Nat):Int)<=((2 ^ v.order.toNat:Nat):Int))/\er=2))->Below w.heap.size w w'->Q (.returned (.tuple #[.slice none 0 0,.int .i64 er])) w')
  (hR:Q3B i v=true->i.off+((2 ^ i.order.toNat:Nat):Int)<=((2 ^ v.order.toNat:Nat):Int)->∀(a:Value) (w':World),OutM w w' a (movV f i v (2 ^ i.order.toNat))->Q (.returned (.tuple #[a,.int .i64 0])) w') :
  Calls prog 38 #[.pointer (some ⟨s,0,none⟩),.int .u32 x,.agg #[.int .i64 i.base,.int .i64 i.order,.int .i64 i.r,.int .i64 i.off,.bool i.g],.agg #[.int .i64 v.base,.int .i64 v.order]] w Q:=by
 have HW:Hid (∀W,Below ((w.alloc (.cells #[.int .i64 i.base,.int .i64 i.order,.int .i64 i.r,.int .i64 i.off,.bool i.g] 63)).alloc (.cells #[.int .i64 v.base,.int .i64 v.order] 65)).heap.size ((w.alloc (.cells #[.int .i64 i.base,.int .i64 i.order,.int .i64 i.r,.int .i64 i.off,.bool i.g] 63)).alloc (.cells #[.int .i64 v.base,.int .i64 v.order] 65)) W->Below w.heap.size w W/\Box2 w.heap.size i v W):=fun W hb=>⟨Q0e (Q0e hb),box2 i v hb⟩
 have HC:=Q0a hC;have Fm:=Q0a hT;have K4:=Q0a hE;have KN:=Q0a hR;have IE:Hid (∀W,_):=fun W=>J1H W v
 have Jk:Hid (∀W,_):=fun W=>Z9R W i
 have Gm:Hid (∀W,_):=fun W=>Q2M W i.base
 have Hq:Hid (∀W,_):=fun W=>Q2M W v.base
 have Hy:Hid (Q3B i v=(Q6T i&&(Q1C v.base v.order&&(decide (i.base<128)==decide (v.base<128))))):=rfl;have HP:Hid (Q3B i v=true->Q1C i.base i.order=true/\Q1C v.base v.order=true/\1<=i.r/\i.r<=15/\0<=i.off/\i.off<256):=fun h=>by
  unfold Q3B Q6T at h;simp only[J3x,decide_eq_true_eq] at h;exact⟨h.1.1,h.2.1,h.1.2⟩
 generalize hW0:((w.alloc (.cells #[.int .i64 i.base,.int .i64 i.order,.int .i64 i.r,.int .i64 i.off,.bool i.g] 63)).alloc (.cells #[.int .i64 v.base,.int .i64 v.order] 65))=W0 at *
 obtain⟨ib,io,ir,iff,ig⟩:=i;obtain⟨vb,vo⟩:=v;dsimp only at *
 clear hC hT hE hR;generalize Q3B ⟨ib,io,ir,iff,ig⟩ ⟨vb,vo⟩=ia at *
 go_enter func38,ntmps38;go_wp2_with fail;refine ks.mono ?_;rintro r w1⟨g,rfl,Aw,Ch⟩;clear hW0 ks;have Jp:=Aw.alloc Aw.size (.cells #[.pointer (some ⟨g,0,none⟩),.int .u32 x,.int .i64 fac] 191);have NF:=Cells.new w1 191 [.pointer (some ⟨g,0,none⟩),.int .u32 x,.int .i64 fac];obtain⟨⟨c0,c1,c2,c3,c4⟩,v0,v1⟩:=(HW.out _ Jp).2;go_wp2_with fail;refine(Jk.out _).mono ?_;rintro r w2⟨xx,rfl,Ai⟩;have HS:Hid (∀W,Below w2.heap.size w2 W->(Below w.heap.size w W/\Below W0.heap.size W0 W/\T g W)/\Box2 w.heap.size ⟨ib,io,ir,iff,ig⟩ ⟨vb,vo⟩ W/\W.cell? ⟨w1.heap.size,0,none⟩=some (.pointer (some ⟨g,0,none⟩))/\W.cell? ⟨w1.heap.size,1,none⟩=some (.int .u32 x)/\W.cell? ⟨w1.heap.size,2,none⟩=some (.int .i64 fac)):=fun W hb=>by
  have h2:=Jp.trans (Ai.mono Jp.size);have h3:=h2.trans (hb.mono h2.size);have hc:=(NF.same (Ai.block _ NF.lt)).same (hb.block _ (J3d NF.lt Ai.size));exact⟨⟨(HW.out _ h3).1,h3,Fm.out _ _ _ (Fm.out _ _ _ (Fm.out _ _ _ Ch ((Below.refl _ _).alloc (J3b _) _)) Ai) hb⟩,(HW.out _ h3).2,hc.cell 0 _ rfl,hc.cell 1 _ rfl,hc.cell 2 _ rfl⟩
 generalize w1.heap.size=B at *
 clear Jp NF Aw Ch Ai c0 c1 c2 c3 c4 v0 v1 HW Fm Jk;obtain⟨-,⟨⟨c0,c1,c2,c3,c4⟩,v0,v1⟩,s0,s1,s2⟩:=HS.out _ (Below.refl _ _);obtain⟨-,⟨⟨d0,d1,d2,d3,d4⟩,e0,e1⟩,-,-,-⟩:=HS.out _ (Below.refl w2.heap.size w2).drew;go_upto_region 5 with fail
 go_cut [32] from 33 to 48 (fun bb wc=>bb=.bool (!ia)/\Below w2.heap.size w2 wc)
 case first =>
  clear HC HP K4 KN;generalize Q6T ⟨ib,io,ir,iff,ig⟩=cd at *
  generalize Q1C vb vo=av at *
  generalize decide (ib<128)=k1 at *
  generalize decide (vb<128)=k2 at *
  cases cd with
  | false =>
   have HE:Hid (∀n,Below w2.heap.size w2 (w2.drewN n)):=fun n=>Q0Y (Below.refl w2.heap.size w2) n
   obtain rfl:ia=false:=by
    have:=Hy.out;rw[J7F] at this;exact this
   clear Hy HS
   go_quiet (first|(go_at_call 96;exact(Gm.out _)))
   go_wp2_with fail;go_meet;exact⟨rfl,HE.out _⟩
  | true =>
   cases av with
   | false =>
    obtain rfl:ia=false:=by
     have:=Hy.out;rw[J7F,Bool.and_false] at this;exact this
    clear Hy
    first|go_region_with (first|(go_at_call 95;refine(IE.out _).mono ?_;rintro r w5⟨rfl,AD⟩;have FS:=Q0a ((Below.refl w2.heap.size w2).drew.trans (AD.mono (J3b _)));clear AD))|fail
    all_goals (go_wp2_with fail;go_meet;exact⟨rfl,FS.out⟩)
   | true =>
    by_cases hk:k1=k2
    ·subst hk;obtain rfl:ia=true:=by
      have:=Hy.out;rw[J4s,J4s,beq_self_eq_true] at this;exact this
     clear Hy
     go_region_held3 (fun W=>W.cell? ⟨w.heap.size,0,none⟩=some (.int .i64 ib)/\W.cell? ⟨w.heap.size+1,0,none⟩=some (.int .i64 vb)/\W.cell? ⟨w.heap.size+1,1,none⟩=some (.int .i64 vo)) (first|exact⟨c0,v0,v1⟩|exact⟨d0,e0,e1⟩|exact Qr)
     (first|(go_at_call 95;refine(IE.out _).mono ?_;rintro r w5⟨rfl,AD⟩;have I6:=HS.out w5 ((Below.refl w2.heap.size w2).drew.trans (AD.mono (J3b _)));have Qr:=(⟨I6.2.1.1.1,I6.2.1.2.1,I6.2.1.2.2⟩:_/\_/\_);have FS:=Q0a ((Below.refl w2.heap.size w2).drew.trans (AD.mono (J3b _)));clear I6 AD)|(go_at_call_of 96 ib;refine(Gm.out _).mono ?_;rintro r w'⟨rfl,rfl⟩)|(go_at_call_of 96 vb;refine(Hq.out _).mono ?_;rintro r w'⟨rfl,rfl⟩))
     all_goals (go_wp2_with fail;go_meet;exact⟨rfl,FS.out⟩)
    ·obtain rfl:ia=false:=by
      have:=Hy.out;rw[J4s,J4s,beq_false_of_ne hk] at this;exact this
     clear Hy;have Bt:(k1 != k2)=true:=bne_iff_ne.2 hk
     go_region_held3 (fun W=>W.cell? ⟨w.heap.size,0,none⟩=some (.int .i64 ib)/\W.cell? ⟨w.heap.size+1,0,none⟩=some (.int .i64 vb)/\W.cell? ⟨w.heap.size+1,1,none⟩=some (.int .i64 vo)) (first|exact⟨c0,v0,v1⟩|exact⟨d0,e0,e1⟩|exact Qr)
     (first|(go_at_call 95;refine(IE.out _).mono ?_;rintro r w5⟨rfl,AD⟩;have I6:=HS.out w5 ((Below.refl w2.heap.size w2).drew.trans (AD.mono (J3b _)));have Qr:=(⟨I6.2.1.1.1,I6.2.1.2.1,I6.2.1.2.2⟩:_/\_/\_);have FS:=Q0a ((Below.refl w2.heap.size w2).drew.trans (AD.mono (J3b _)));clear I6 AD)|(go_at_call_of 96 ib;refine(Gm.out _).mono ?_;rintro r w'⟨rfl,rfl⟩)|(go_at_call_of 96 vb;refine(Hq.out _).mono ?_;rintro r w'⟨rfl,rfl⟩))
     all_goals (go_wp2_with fail;go_meet;exact⟨by simp[beq_false_of_ne hk],FS.out⟩)
 obtain⟨rfl,AD⟩:=hcut;clear c0 c1 c2 c3 c4 v0 v1 s0 s1 s2 d0 d1 d2 d3 d4 e0 e1 Hy IE Gm Hq;cases ia with
 | false =>
  have HE:=Q0a (K4.out 1 wc (.inl ⟨rfl,rfl⟩) (HS.out wc AD).1.1);clear HS HC HP AD K4 KN;go_wp2_with fail
  (try go_ret2);exact HE.out
 | true =>
  obtain⟨pa,pv,Kb,GY,P0,Hl⟩:=HP.out rfl;obtain⟨pa1,pa2,pa3,pa4,pa5⟩:=Q1A pa;obtain⟨pv1,pv2,pv3,pv4,pv5⟩:=Q1A pv;have FS:=Q0a AD;obtain⟨-,⟨⟨c0,c1,c2,c3,c4⟩,v0,v1⟩,s0,s1,s2⟩:=HS.out wc AD;obtain⟨-,⟨⟨d0,d1,d2,d3,d4⟩,e0,e1⟩,-,-,-⟩:=HS.out wc.drew AD.drew;clear HP pa pv AD;obtain⟨ko,rfl⟩:=J4G pa2;obtain⟨kv,rfl⟩:=J4G pv2;rw[J4h] at *
  rw[J4h] at KN K4;have EF:0<2 ^ ko:=Nat.pow_pos (by omega);go_upto_region 7 with fail;go_region;obtain⟨po,Hj⟩:∃po:Nat,po=2 ^ ko:=⟨_,rfl⟩
  obtain⟨pv,Le⟩:∃pv:Nat,pv=2 ^ kv:=⟨_,rfl⟩
  have epo:(2:Int) ^ ko=(po:Int):=by rw[Hj];simp
  have epv:(2:Int) ^ kv=(pv:Int):=by rw[Le];simp
  rw[<- Hj] at EF pa4 pa5;rw[<- Le] at pv4 pv5;have Du:wrap64 (po:Int)=(po:Int):=Z7A pa5;have EV:wrap64 (pv:Int)=(pv:Int):=Z7A pv5;have IF:wrap64 (iff+(po:Int))=iff+(po:Int):=Z9S pa5 P0 Hl;simp only[epo,epv,Du,EV,IF];have Dz:Hid ((((2 ^ ko:Nat):Int))=(po:Int)/\(((2 ^ kv:Nat):Int))=(pv:Int)/\(2:Int) ^ ko=(po:Int)/\(2:Int) ^ kv=(pv:Int)/\po=2 ^ ko):=⟨by rw[Hj],by rw[Le],epo,epv,Hj⟩
  have Pf:=Q0a epo;have NS:=Q0a Du;clear epo epv Hj Le Du EV IF;have HD:=Q0a (Below.drew FS.out);by_cases An:iff+(po:Int)<=(pv:Int)
  ·have Lf:¬((pv:Int)<iff+(po:Int)):=by omega
   clear d0 d1 d2 d3 d4 e0 e1 c0 c1 c2 c3 c4 v0 v1 s0 s1 s2;obtain⟨-,⟨⟨d0,d1,d2,d3,d4⟩,e0,e1⟩,-,-,-⟩:=HS.out wc.drew HD.out;go_wp2_with fail;simp only[Pf.out,NS.out];clear d0 d1 d2 d3 d4 e0 e1;generalize wc.drew=w3 at *
   have HI:Hid (0<=ib/\ib.toNat+po<=256/\0<=vb/\vb.toNat+pv<=256/\po<=128/\0<=iff/\iff<256):=⟨pa1,pa4,pv1,pv4,pa5,P0,Hl⟩
   clear pa1 pa3 pa4 pa5 pv1 pv3 pv4 pv5 pa2 pv2 Kb GY P0 Hl EF Lf FS
   go_loopg [14,63] po (fun gk ov kk wr=>∃k:Nat,kk=.int .i64 k/\k+gk=po/\OutM w3 wr ov (movV f ⟨ib,(ko:Int),ir,iff,ig⟩ ⟨vb,(kv:Int)⟩ k))
   case atStart=>exact⟨0,rfl,by omega,OutM.nil w3⟩
   case round =>
    obtain⟨k,rfl,AC,Am⟩:=hrel;have HO:=Q0a Am;have BE:=Q0a AC;clear AC;have Dc:Below w2.heap.size w2 wr:=HD.out.trans (Am.2.mono HD.out.size);by_cases Ab:k<po
    ·obtain⟨⟨-,FX,QJ⟩,⟨⟨c0,c1,c2,c3,c4⟩,v0,v1⟩,s0,s1,s2⟩:=HS.out wr Dc;have kc:=HC.out g wr k FX QJ (by have:=Dz.out.2.2.2.2;omega) (by trivial);have Br:=Q0a (Z7z f ⟨ib,(ko:Int),ir,iff,ig⟩ ⟨vb,(kv:Int)⟩ k);have JK:=Q0a Dc;have C3:(k:Int)<(po:Int):=by omega
     have Ro:=Q0a Ab;have RD:(k:Int)<128:=by have:=HI.out;omega
     have Bz:(0:Int)<=(k:Int):=by omega
     have J0:IntKind.i64.wrap (ib+(k:Int))=ib+(k:Int):=Go.IntWalk.i64_in _ (by have:=HI.out;omega);have Wt:IntKind.i64.wrap (vb+iff)=vb+iff:=Go.IntWalk.i64_in _ (by have:=HI.out;omega);have Qi:IntKind.i64.wrap (vb+iff+(k:Int))=vb+iff+(k:Int):=Go.IntWalk.i64_in _ (by have:=HI.out;omega);have JA:(movV f ⟨ib,(ko:Int),ir,iff,ig⟩ ⟨vb,(kv:Int)⟩ k).length<=16777216:=by
      have h1:=Q8D f ⟨ib,(ko:Int),ir,iff,ig⟩ ⟨vb,(kv:Int)⟩ k;have h2:=HI.out;omega
     have DS:=Q0a JA;obtain⟨fk,Dx⟩:∃b,b=f k:=⟨_,rfl⟩
     rw[<- Dx] at kc Br;clear Am Dc FX QJ Dx JA;go_wp2_with fail;refine kc.mono ?_;rintro r w4⟨a,b,rfl,A9⟩;have Jg:=Q0a (A9.alloc A9.size (.cells #[.int .u32 a,.int .i64 b] 72));have Ol:=Q0a (HO.out.below Jg.out);obtain⟨-,⟨⟨d0,d1,d2,d3,d4⟩,e0,e1⟩,-,-,-⟩:=HS.out _ (JK.out.trans (Jg.out.mono JK.out.size));clear A9 kc c0 c1 c2 c3 c4 v0 v1 s0 s1 s2 HO JK Jg;cases fk with
     | true =>
      obtain⟨v',w',AK,Js⟩:=Ol.out.app DS.out (itMv ⟨ib,(ko:Int),ir,iff,ig⟩ ⟨vb,(kv:Int)⟩ k) 61;have HR:Hid (OutM w3 w' v' (movV f ⟨ib,(ko:Int),ir,iff,ig⟩ ⟨vb,(kv:Int)⟩ (k+1))):=by
       rw[Br.out,if_pos rfl];exact Js
      have M5:(w4.alloc (.cells #[.int .u32 a,.int .i64 b] 72)).heap.size=w4.heap.size+1:=by simp
      rw[M5] at AK;unfold itMv at AK;dsimp only at AK;clear M5 Js Br Ol DS;go_wp2_with (at_builtin;refine Lib.wpList_append_run _ rfl _ _ _ _ rfl _ _ rfl rfl _ _ AK ?_);go_roundg (po-(k+1))
      case measure=>have:=BE.out;omega
      case rel=>exact⟨k+1,by go_num,by have:=Ro.out;omega,HR.out⟩
     | false =>
      have HR:Hid (OutM w3 (w4.alloc (.cells #[.int .u32 a,.int .i64 b] 72)) u14 (movV f ⟨ib,(ko:Int),ir,iff,ig⟩ ⟨vb,(kv:Int)⟩ (k+1))):=by
       rw[Br.out,if_neg (by decide),J5i];exact Ol.out
      clear Br Ol DS;go_wp2_with fail;go_roundg (po-(k+1))
      case measure=>have:=BE.out;omega
      case rel=>exact⟨k+1,by go_num,by have:=Ro.out;omega,HR.out⟩
    ·obtain rfl:k=po:=by have:=BE.out;omega
     have HX:Hid (Q (.returned (.tuple #[u14,.int .i64 0])) wr):=by
      refine KN.out (by trivial) ?_ _ _ ?_
      ·rw[Dz.out.1,Dz.out.2.1];exact An
      ·rw[<- Dz.out.2.2.2.2];have h1:=(HS.out w3 HD.out).1.1;exact⟨Q1S Am.1 h1.size,h1.trans (Am.2.mono h1.size)⟩
     clear Am Dc HO HS HC K4 KN;go_wp2_with fail
     (try go_ret2);exact HX.out
  ·have Lf:(pv:Int)<iff+(po:Int):=by omega
   have HE:=Q0a (K4.out 2 wc.drew (.inr ⟨by trivial,by rw[Dz.out.1,Dz.out.2.1];first|exact An|omega,rfl⟩) (HS.out wc.drew HD.out).1.1);clear HS HC FS K4 KN;go_wp2_with fail
   (try go_ret2);exact HE.out
theorem Z4s{w:World}{Z:SP}{fr:List Nat}{N K:Nat}{M:Int}(hs:Sep w Z.hl)(ok:Z.Ok fr N K M){x:Nat}(hx:x<4294967296)(i:It)(v:Wi)(hi:i.Wf)(hv:v.Wf) :
  Calls prog 38 #[.pointer (some ⟨Z.s,0,none⟩),.int .u32 x,.agg #[.int .i64 i.base,.int .i64 i.order,.int .i64 i.r,.int .i64 i.off,.bool i.g],.agg #[.int .i64 v.base,.int .i64 v.order]] w (MvsR Z x i v w):=by
 cases hp:pget Z.S.l 1 x with
 | none =>
  refine(Q3d hs ok.core hx i v 8 (by decide) (.inl ⟨hp,rfl⟩)).mono ?_;rintro r w'⟨rfl,hb⟩;exact⟨hb,.inl ⟨8,by decide,rfl,.inl ⟨hp,rfl⟩⟩⟩
 | some p =>
  by_cases hk:p.kind=2
  case neg =>
   refine(Q3d hs ok.core hx i v 10 (by decide) (.inr ⟨p,hp,hk,rfl⟩)).mono ?_;rintro r w'⟨rfl,hb⟩;exact⟨hb,.inl ⟨10,by decide,rfl,.inr ⟨p,hp,.inl ⟨hk,rfl⟩⟩⟩⟩
  have Bw:Below w.heap.size w ((w.alloc (.cells #[.int .i64 i.base,.int .i64 i.order,.int .i64 i.r,.int .i64 i.off,.bool i.g] 63)).alloc (.cells #[.int .i64 v.base,.int .i64 v.order] 65)):=((Below.refl w.heap.size w).alloc (J3b _) _).alloc (by simp) _;have s0:=(hs.grown Bw).sep;have PT:=(pget_some.1 hp).1;have Ap:=(pget_some.1 hp).2.2;refine Q6U (fac:=p.fac) (f:=Q4W Z x i) (T:=fun g W=>Sep W Z.hl/\TblZ Z p g W) ?_ ?_ ?_ ?_ ?_
  ·refine(Q0N s0 ok.core hx hp hk).mono ?_;rintro r w'⟨g,rfl,hb,hg⟩;exact⟨g,rfl,hb,(s0.grown hb).sep,hg⟩
  ·rintro g W W'⟨h1,h2⟩ hb;exact⟨(h1.grown hb).sep,h2.grown h1 hb⟩
  ·rintro g W k-⟨h1,h2⟩ Ab DI;have CH:Q1C i.base i.order=true:=by
    unfold Q3B Q6T at DI;simp only[J3x,decide_eq_true_eq] at DI;exact DI.1.1
   obtain⟨q1,q2,q3,q4,q5⟩:=Q1A CH;have T:=(ok.tpi.x (p.fac:Int)).tt ok.core PT Ap hk (SP.sS h1) h2.c;have Qg:0<=i.base+(k:Int)/\i.base+(k:Int)<256:=by omega
   have MO:(i.base+(k:Int)).toNat=i.base.toNat+k:=by omega
   have AA:(Z.tb (x%256)).at' (i.base+(k:Int))=Q0f Z.S.l Z.tb x (i.base.toNat+k):=by
    unfold TB.at';rw[if_pos Qg,MO,Q0g hp hk (by omega)]
   have kc:=Q1m T (x:Int) (p.fac:Int) (i.base+(k:Int)) fun e he=>by
    rw[AA] at he;exact ok.fpi.low ok.core.inv.lok he
   rw[AA] at kc;obtain⟨a,b,Cp⟩:=Q2N (Q0f Z.S.l Z.tb x (i.base.toNat+k));rw[Cp] at kc;refine kc.mono ?_;rintro r w'⟨rfl,hb⟩;exact⟨a,b,rfl,hb⟩
  ·intro er w' he hb;refine⟨hb,.inl ⟨er,?_,rfl,.inr ⟨p,hp,.inr ⟨hk,he⟩⟩⟩⟩;rcases he with ⟨_,rfl⟩|⟨_,_,rfl⟩ <;> decide
  ·intro ha hf a w' ho;obtain⟨a0,cap,rfl,Au⟩:=Q5P ho.1;have A4:(movV (Q4W Z x i) i v (2 ^ i.order.toNat)).length<=cap:=by
    rcases ho.1.2 with ⟨e,h0⟩|⟨g,c,Ag,e,_,_,hn,_⟩
    ·rw[h0];exact J5e _
    ·cases e;exact hn
   refine⟨ho.2,.inr ⟨p,a0,cap,_,hp,hk,ha,hf,rfl,rfl,A4,?_⟩⟩;have CH:Q1C i.base i.order=true/\Q1C v.base v.order=true/\1<=i.r/\i.r<=15/\0<=i.off/\i.off<256:=by
    unfold Q3B Q6T at ha;simp only[J3x,decide_eq_true_eq] at ha;exact⟨ha.1.1,ha.2.1,ha.1.2⟩
   obtain⟨q1,q2,q3,q4,q5⟩:=Q1A CH.1;obtain⟨r1,r2,r3,r4,r5⟩:=Q1A CH.2.1;refine⟨fun j hj=>?_,fun ad h0 KO DO=>?_⟩
   ·have JI:(movV (Q4W Z x i) i v (2 ^ i.order.toNat))[j]?=some ((movV (Q4W Z x i) i v (2 ^ i.order.toNat))[j]):=J5t hj;have Im:(movV (Q4W Z x i) i v (2 ^ i.order.toNat)).getD j noMv=(movV (Q4W Z x i) i v (2 ^ i.order.toNat))[j]:=by rw[J7H,JI];rfl
    have Az:(movV (Q4W Z x i) i v (2 ^ i.order.toNat))[j]∈movV (Q4W Z x i) i v (2 ^ i.order.toNat):=J6z hj;obtain⟨g,hg,_,Ab,_⟩:=Au (j*4) _ (Q1u _ j 0 _ _ JI rfl);refine⟨g,0,hg,Ab,fun t u hu=>?_,?_⟩
    ·have hu:((movV (Q4W Z x i) i v (2 ^ i.order.toNat))[j]).cells[t]?=some u:=by rw[<- Im];exact hu
     obtain⟨g',EM,_,_,hc⟩:=Au (j*4+t) u (Q1u _ j t _ _ JI hu);rw[hg] at EM;cases EM;rw[J5G];exact hc
    ·show Mv.Wf ((movV (Q4W Z x i) i v (2 ^ i.order.toNat)).getD j noMv);rw[Im];unfold movV at Az;obtain⟨k,Bt,e⟩:=J3h.1 Az;have A2:=J3s.1 (J3w.1 Bt).1;unfold movV;rw[<- e];unfold itMv;exact⟨⟨by dsimp only;omega,by dsimp only;omega⟩,⟨by dsimp only;omega,by dsimp only;omega⟩,⟨by dsimp only;omega,by dsimp only;omega⟩⟩
   ·subst KO;have hL:(movV (Q4W Z x i) i v (2 ^ i.order.toNat)).length≠0:=h0;have Fw:0<(movV (Q4W Z x i) i v (2 ^ i.order.toNat)).length:=by omega
    obtain⟨g,hg,Jh,_⟩:=Au (0*4) _ (Q1u _ 0 0 _ _ (J5t Fw) rfl);cases hg;exact absurd (hs.lt DO) (by dsimp only;omega)
end Go.Proofs.YtfidemmgofcnmaaGreatDoor
