/- What the laws of spaces share is proved. No condition. Part of a proof. -/
import Derived.Test.YtfidemmgofcnmaaGreatDoorAt23
set_option maxHeartbeats 16000000
set_option maxRecDepth 100000
set_option linter.unusedVariables false
namespace Go.Proofs.YtfidemmgofcnmaaGreatDoor
open Go.RowKit Go.Proofs.Tryz
def CarC(Z:SP)(c k:Nat)(w:World):Prop:=AsideV Z.hl [ptr k] (some ⟨c,0,none⟩) w/\AsideV Z.hl [ptr Z.s] (some ⟨k,0,none⟩) w
theorem CarC.cells{Z:SP}{c k:Nat}{w:World}(h:CarC Z c k w):w.cell? ⟨c,0,none⟩=some (.pointer (some ⟨k,0,none⟩))/\w.cell? ⟨k,0,none⟩=some (.pointer (some ⟨Z.s,0,none⟩)):=by
 obtain⟨g0,e0,_,_,z0⟩:=h.1 0 _ rfl;obtain⟨g1,e1,_,_,z1⟩:=h.2 0 _ rfl;cases e0;cases e1;exact⟨z0,z1⟩
theorem CarC.step{Z Z':SP}{c k:Nat}{w w':World}(h:CarC Z c k w)(hs:Z'.s=Z.s)(st:Step Z.hl Z'.hl w w'):CarC Z' c k w':=by
 refine⟨AsideV.step h.1 st,?_⟩;rw[hs];exact AsideV.step h.2 st
theorem Z5L{w:World}{Z:SP}(h:Sep w Z.hl):Calls prog 110 #[.pointer (some ⟨Z.s,0,none⟩)] w fun r w'=>∃c k,r=.returned (.pointer (some ⟨c,0,none⟩))/\Below w.heap.size w w'/\CarC Z c k w':=by
 have HX:Hid (Below w.heap.size w ((w.alloc (.cells #[.pointer (some ⟨Z.s,0,none⟩)] 212)).alloc (.cells #[.pointer (some ⟨w.heap.size,0,none⟩)] 215))/\CarC Z (w.heap.size+1) w.heap.size ((w.alloc (.cells #[.pointer (some ⟨Z.s,0,none⟩)] 212)).alloc (.cells #[.pointer (some ⟨w.heap.size,0,none⟩)] 215))):=by
  have c1:=(Cells.new w 212 [.pointer (some ⟨Z.s,0,none⟩)]).alloc (.cells #[.pointer (some ⟨w.heap.size,0,none⟩)] 215);have c2:=Cells.new (w.alloc (.cells #[.pointer (some ⟨Z.s,0,none⟩)] 212)) 215 [.pointer (some ⟨w.heap.size,0,none⟩)];have hz:(w.alloc (.cells #[.pointer (some ⟨Z.s,0,none⟩)] 212)).heap.size=w.heap.size+1:=by simp
  rw[hz] at c2;refine⟨((Below.refl _ _).alloc (J1E _) _).alloc (by simp) _,fun j v hj=>⟨_,rfl,fun hk=>?_,c2.lt,c2.cell j v hj⟩,fun j v hj=>⟨_,rfl,fun hk=>?_,c1.lt,c1.cell j v hj⟩⟩
  ·have:=h.lt hk;omega
  ·have:=h.lt hk;omega
 clear h;go_enter func110,ntmps110;go_wp2_with fail
 (try go_ret);exact⟨_,_,rfl,HX.out⟩
theorem Q2T{w:World}{Z:SP}{c k:Nat}(h:CarC Z c k w):Calls prog 44 #[.pointer (some ⟨c,0,none⟩)] w fun r w'=>r=.returned (.pointer (some ⟨Z.s,0,none⟩))/\w=w':=by
 obtain⟨c0,k0⟩:=h.cells;clear h;go_enter func44,ntmps44
 go_wp2
 go_ret;exact⟨rfl,rfl⟩
def blkE(Z:SP)(t:Nat)(a:Int):Int:=match pget Z.S.l 1 t with
 | none=>8
 | some q=>if q.kind=2 then(if Z.S.P.has 3 a=true then 0 else 1) else 10
theorem Q7i{Z:SP}{fr:List Nat}{N K:Nat}{M:Int}(ok:Z.Ok fr N K M){a:Int}(h:Z.S.P.has 3 a=true):∃p∈Z.S.l,p.is=true/\p.kind=3/\a=(p.at_:Int):=by
 unfold PL.has PL.usedI at h;rw[decide_eq_true_eq,if_pos (by decide)] at h;have hm:=(ok.core.inv.mem.ats 3 (by omega) (by omega)).mem_iff.2 h.2;obtain⟨p,hp,e⟩:=J1T.1 hm;unfold atsF at e;by_cases hc:(p.is&&p.kind==3)=true
 ·rw[if_pos hc] at e;have e2:=J2u e;rw[J1Y,beq_iff_eq] at hc;exact⟨p,hp,hc.1,hc.2,by have:=h.1;omega⟩
 ·rw[if_neg hc] at e;cases e
def BlkR(Z:SP)(t:Nat)(a:Int)(w:World)(r:Ending)(w':World):Prop:=Below w.heap.size w w' /\
 ((blkE Z t a≠0/\r=.returned (.tuple #[.pointer none,.int .i64 (blkE Z t a)])) ∨
  (blkE Z t a=0/\∃(p:Pl) (g:Nat),p∈Z.S.l/\p.is=true/\p.kind=3/\a=(p.at_:Int)/\r=.returned (.tuple #[.pointer (some ⟨g,0,none⟩),.int .i64 0])/\BlkC Z p g w'))
theorem Q2i{w:World}{Z:SP}{fr:List Nat}{N K:Nat}{M:Int}(ok:Z.Ok fr N K M)(h:Sep w Z.hl){c k:Nat}(hc:CarC Z c k w){t:Nat}(ht:t<4294967296)(a:Int)(ha:a<9223372036854775808) :
  Calls prog 115 #[.pointer (some ⟨c,0,none⟩),.agg #[.int .u32 t,.int .i64 a]] w (BlkR Z t a w):=by
 have b0:Below w.heap.size w (w.alloc (.cells #[.int .u32 t,.int .i64 a] 116)):=(Below.refl _ _).alloc (J1E _) _;have h0:=h.grown b0;have ce:=Cells.new w 116 [.int .u32 t,.int .i64 a];obtain⟨c0,k0⟩:=(hc.step rfl h0).cells;have ko:=Q1y h0.sep;have HV:Hid (∀V,Below (w.alloc (.cells #[.int .u32 t,.int .i64 a] 116)).heap.size (w.alloc (.cells #[.int .u32 t,.int .i64 a] 116)) V->Below w.heap.size w V/\V.cell? ⟨w.heap.size,1,none⟩=some (.int .i64 a) /\
   (Calls prog 27 #[.pointer (some ⟨Z.S.c,0,none⟩)] V fun r w'=>r=.returned (.pointer (some ⟨Z.S.P.p,0,none⟩))/\V=w') /\
   (Calls prog 50 #[.pointer (some ⟨Z.S.P.p,0,none⟩)] V fun r w'=>r=.returned (.pointer (some ⟨Z.S.P.a.a,0,none⟩))/\V=w') /\
   (Calls prog 59 #[.pointer (some ⟨Z.S.P.p,0,none⟩),.int .i64 3,.int .i64 a] V (Told V (.bool (Z.S.P.has 3 a)))) /\
   (∀p∈Z.S.l,p.is=true->p.kind=3->Calls prog 183 #[.pointer (some ⟨Z.S.P.a.a,0,none⟩),.int .i64 (p.at_:Int)] V fun r w'=>∃g:Nat,r=.returned (.pointer (some ⟨g,0,none⟩))/\Below V.heap.size V w'/\BlkC Z p g w')):=fun V hV=>by
  have hb:=Q0b hV;have hs:=(h.grown hb).sep;exact⟨hb,(ce.same (hV.block _ ce.lt)).cell 1 _ rfl,Q0S (SP.sS hs),Q0v (CO.sP (SP.sS hs)),Q7y (CO.sP (SP.sS hs)) ok.core.inv.mem.pool 3 a ha,fun p hp hi hk=>(Z8j ok hs hp hi hk).mono fun r w' ⟨g,e,Ae,Ha,_⟩=>⟨g,e,Ae,Ha⟩⟩
 have e0:=ce.cell 0 _ rfl;cases hq:pget Z.S.l 1 t with
 | none =>
  have kf:=Q3b (SP.sS h0.sep) ok.core.inv.lok ht 2 hq;have HE:Hid (∀V,Below w.heap.size w V->BlkR Z t a w (.returned (.tuple #[.pointer none,.int .i64 8])) V):=fun V hV=>by
   have e:blkE Z t a=8:=by unfold blkE;rw[hq]
   exact⟨hV,.inl ⟨by rw[e];decide,by rw[e]⟩⟩
  have K1:Hid (∀V,Below (w.alloc (.cells #[.int .u32 t,.int .i64 a] 116)).heap.size (w.alloc (.cells #[.int .u32 t,.int .i64 a] 116)) V->Below w.heap.size w V):=fun V hV=>(HV.out V hV).1
  unfold zobj at kf;clear h0 hc h ok ce hq HV b0;go_enter func115,ntmps115;go_wp2_with fail;refine ko.mono ?_;rintro r w'⟨rfl,rfl⟩;go_wp2_with fail;refine kf.mono ?_;rintro r w2⟨rfl,Ae⟩;have HR:=Q0a (HE.out _ ((K1.out _ Ae).alloc (K1.out _ Ae).size (.cells #[.int .i64 0,.int .i64 0,.int .i64 0] 54)));clear Ae kf ko HE K1;go_wp2_with fail
  (try go_ret2);exact HR.out
 | some q =>
  by_cases Av:q.kind=2
  case neg =>
   have kf:=Q2J (SP.sS h0.sep) ok.core.inv.lok ht 2 hq (by decide) (by omega);have HE:Hid (∀V,Below w.heap.size w V->BlkR Z t a w (.returned (.tuple #[.pointer none,.int .i64 10])) V):=fun V hV=>by
    have e:blkE Z t a=10:=by unfold blkE;rw[hq];simp only;rw[if_neg Av]
    exact⟨hV,.inl ⟨by rw[e];decide,by rw[e]⟩⟩
   have K1:Hid (∀V,Below (w.alloc (.cells #[.int .u32 t,.int .i64 a] 116)).heap.size (w.alloc (.cells #[.int .u32 t,.int .i64 a] 116)) V->Below w.heap.size w V):=fun V hV=>(HV.out V hV).1
   unfold zobj at kf;clear h0 hc h ok ce hq HV b0 Av;go_enter func115,ntmps115;go_wp2_with fail;refine ko.mono ?_;rintro r w'⟨rfl,rfl⟩;go_wp2_with fail;refine kf.mono ?_;rintro r w2⟨rfl,Ae⟩;have HR:=Q0a (HE.out _ ((K1.out _ Ae).alloc (K1.out _ Ae).size (.cells #[.int .i64 0,.int .i64 0,.int .i64 0] 54)));clear Ae kf ko HE K1;go_wp2_with fail
   (try go_ret2);exact HR.out
  case pos =>
   have kf:=Q2p (SP.sS h0.sep) ok.core.inv.lok ht 2 hq (.inr (by omega));unfold Pl.obj at kf;have D7:Hid (∀w2 o,Below (w.alloc (.cells #[.int .u32 t,.int .i64 a] 116)).heap.size (w.alloc (.cells #[.int .u32 t,.int .i64 a] 116)) w2->Below (w.alloc (.cells #[.int .u32 t,.int .i64 a] 116)).heap.size (w.alloc (.cells #[.int .u32 t,.int .i64 a] 116)) (w2.alloc o)):=fun w2 o hb=>hb.alloc hb.size o
   have HT:Hid (Z.S.P.has 3 a=true->∃p∈Z.S.l,p.is=true/\p.kind=3/\a=(p.at_:Int)):=fun e=>Q7i ok e
   have HE:Hid (∀V,Z.S.P.has 3 a=false->Below w.heap.size w V->BlkR Z t a w (.returned (.tuple #[.pointer none,.int .i64 1])) V):=fun V hh hV=>by
    have e:blkE Z t a=1:=by unfold blkE;rw[hq];simp only;rw[if_pos Av,hh,if_neg (by decide)]
    exact⟨hV,.inl ⟨by rw[e];decide,by rw[e]⟩⟩
   have FU:Hid (∀V p g,Z.S.P.has 3 a=true->p∈Z.S.l->p.is=true->p.kind=3->a=(p.at_:Int)->Below w.heap.size w V->BlkC Z p g V->BlkR Z t a w (.returned (.tuple #[.pointer (some ⟨g,0,none⟩),.int .i64 0])) V):=fun V p g hh h1 h2 h3 h4 hV hg=>by
    have e:blkE Z t a=0:=by unfold blkE;rw[hq];simp only;rw[if_pos Av,hh,if_pos rfl]
    exact⟨hV,.inr ⟨e,p,g,h1,h2,h3,h4,rfl,hg⟩⟩
   clear h0 hc h ok ce hq b0 Av;generalize hW0:(w.alloc (.cells #[.int .u32 t,.int .i64 a] 116))=W0 at *
   generalize (q.kind:Int)=qk at *
   generalize (q.at_:Int)=qa at *
   generalize (q.fac:Int)=qf at *
   go_enter func115,ntmps115;go_wp2_with fail;refine ko.mono ?_;rintro r w'⟨rfl,rfl⟩;go_wp2_with fail;refine kf.mono ?_;rintro r w2⟨rfl,Ae⟩;have B7:=Q0a (D7.out w2 (.cells #[.int .i64 qk,.int .i64 qa,.int .i64 qf] 54) Ae);have x3:=(HV.out _ B7.out).2.1;have x4:=(HV.out _ B7.out.drew).2.1;clear Ae kf ko D7 hW0;go_upto_region 7 with fail;cases hh:Z.S.P.has 3 a with
   | false =>
    have Fv:=Q0a (fun V=>HE.out V hh);rw[hh] at HV;clear HE FU HT hh
    go_region_held3 (fun V=>V.cell? ⟨w.heap.size,1,none⟩=some (.int .i64 a)) (first|exact x3|exact x4|exact x5) (first|(go_at_call 27;refine(HV.out _ B7.out.drew).2.2.1.mono ?_;rintro r w'⟨rfl,rfl⟩)|(go_at_call 59;refine(HV.out _ B7.out.drew).2.2.2.2.1.mono ?_;rintro r w4⟨rfl,A2⟩;have Ak:=Q0a (B7.out.drew.trans (A2.mono B7.out.size));have x5:=(HV.out _ Ak.out).2.1;clear A2))
    all_goals
     have HR:=Q0a (Fv.out _ (HV.out _ Ak.out).1);clear HV Fv;go_wp2_with fail
     (try go_ret2);exact HR.out
   | true =>
    have DR:=Q0a (fun V p g=>FU.out V p g hh);obtain⟨p,hp,hi,Eu,B9⟩:=HT.out hh;have HP:Hid (p∈Z.S.l/\p.is=true/\p.kind=3/\a=(p.at_:Int)):=⟨hp,hi,Eu,B9⟩
    have IM:=Q0a (fun V hV=>(HV.out V hV).2.2.2.2.2 p hp hi Eu);rw[<- B9] at IM;rw[hh] at HV;clear HE FU HT hh hp hi Eu B9
    go_region_held3 (fun V=>V.cell? ⟨w.heap.size,1,none⟩=some (.int .i64 a)) (first|exact x3|exact x4|exact x5) (first|(go_at_call 27;refine(HV.out _ B7.out.drew).2.2.1.mono ?_;rintro r w'⟨rfl,rfl⟩)|(go_at_call 59;refine(HV.out _ B7.out.drew).2.2.2.2.1.mono ?_;rintro r w4⟨rfl,A2⟩;have Ak:=Q0a (B7.out.drew.trans (A2.mono B7.out.size));have x5:=(HV.out _ Ak.out).2.1;clear A2))
    all_goals
     have x6:=(HV.out _ Ak.out.drew).2.1;clear x3 x4;go_wp2_with fail
     go_region_held3 (fun V=>V.cell? ⟨w.heap.size,1,none⟩=some (.int .i64 a)) (first|exact x5|exact x6|exact x7) (first|(go_at_call 27;refine(HV.out _ Ak.out.drew).2.2.1.mono ?_;rintro r w'⟨rfl,rfl⟩)|(go_at_call 50;refine(HV.out _ Ak.out.drew).2.2.2.1.mono ?_;rintro r w'⟨rfl,rfl⟩)|(go_at_call 183;refine(IM.out _ Ak.out.drew).mono ?_;rintro r w7⟨g,rfl,Cl,QX⟩;have Ir:=Q0a (Ak.out.drew.trans (Cl.mono Ak.out.size));have x7:=(HV.out _ Ir.out).2.1;have SX:=Q0a QX;clear Cl QX))
     all_goals
      have HR:=Q0a (DR.out _ p g HP.out.1 HP.out.2.1 HP.out.2.2.1 HP.out.2.2.2 (HV.out _ Ir.out).1 SX.out);clear HV DR IM;go_wp2_with fail
      (try go_ret2);exact HR.out
abbrev kindsC:List Value:=[.int .i64 2,.int .i64 2,.int .i64 3,.int .i64 3,.int .i64 3,.int .i64 4,.int .i64 8]
theorem Z5M(w:World):Calls prog 109 #[] w fun r w'=>r=.returned (.slice (some ⟨w.heap.size,0,none⟩) 7 7)/\w.alloc (.cells kindsC.toArray 3)=w':=by
 go_enter func109,ntmps109
 go_wp2
 go_ret;exact⟨rfl,rfl⟩
def CarB(L:Int)(c k ge:Nat)(f:Nat->Nat×Nat)(w0 wr:World):Prop:=∃(Z:SP) (fr:List Nat),MkY Z 2 L 8 2 (lB f 7) fr/\(∀h t,Z.av.en h t=enR 2 h t)/\(Z.F.next=2/\Z.S.P.d.top=6)/\CarC Z c k wr/\AsideV Z.hl (endC (endL f)) (some ⟨ge,0,none⟩) wr/\Step [] Z.hl w0 wr
section
variable {s c:Nat} {L:Int} {k:Nat} {f:Nat->Nat×Nat} {w0 wr:World}
theorem Z8O{rv:RV}{l:List (Nat×Nat)}{R:HL}(h:BgS s c L k f (rowH rv 116 2 (endC l)++R) w0 wr)(B3:rvOk rv l.length)(hl:l.length<=1000)(m:List (Nat×Nat))(hm:m.length<=2)(h0:0<m.length)(ty:TypeId) :
  ∃rv' w',(Builtin.append_ #[85,85] ty #[lvOf rv l.length,.slice (some ⟨wr.heap.size,0,none⟩) m.length m.length]).run prog (wr.alloc (.cells (endC m).toArray 116))=.ok (lvOf rv' (l.length+m.length)) w'/\rvOk rv' (l.length+m.length)/\BgS s c L k f (rowH rv' 116 2 (endC (l++m))++R) w0 w':=by
 obtain⟨Z,S,fr,e1,e2,e3,e4,e5,st⟩:=h;obtain⟨rv',w',hr,ho,st2⟩:=J0m (H:=R++Z.hl) (by rw[<- J2x];exact st.sep) B3 hl m hm h0 ty;refine⟨rv',w',hr,ho,Z,S,fr,e1,e2,e3,e4,e5,?_⟩;rw[J2x];have st':=st;rw[J2x] at st';exact st'.trans st2
theorem Z5N{R:HL}{kr:Nat}(h:BgS s c L k f (R++[(kr,isC 3 kindsC)]) w0 wr){j:Nat}(hj:j<7):wr.cell? ⟨kr,j,none⟩=some (.int .i64 ((Q0z j:Nat):Int)):=by
 obtain⟨Z,S,fr,e1,e2,e3,e4,e5,st⟩:=h;have hc:=st.sep.left.cells (b:=kr) (T:=3) (cs:=kindsC) (by simp);refine hc.cell j _ ?_;have:j=0∨j=1∨j=2∨j=3∨j=4∨j=5∨j=6:=by omega
 rcases this with rfl|rfl|rfl|rfl|rfl|rfl|rfl <;> rfl
theorem J0n{R:HL}(h:BgS s c L 7 f R w0 wr):(f 2).1<=1073741824:=by
 obtain⟨Z,S,fr,e1,e2,e3,e4,e5,st⟩:=h;have m:=e5 rfl;have hp:=Q6d f (k:=7) (i:=2) (by omega) (by omega);rw[<- m.l] at hp;have h1:=Q0R m.ok (Q1i hp) (Pl.is_iff.2 (.inl rfl)) (.inl rfl);have h2:=Q0f m.ok.inv.mem.pool;have h3:(f 2).1+costK (Q0z 2)<=S.P.a.mem.length:=h1.1;omega
theorem Z2Q{Z:SP}{g cap:Nat}{T:TypeId}{size:Nat}{cs:List Value}{R:HL}(st:Step [] ((rowH (some (g,cap)) T size cs++R)++Z.hl) w0 wr):AsideV Z.hl cs (some ⟨g,0,none⟩) wr:=fun j v hj=>by
 refine⟨g,rfl,fun hk=>?_,st.sep.lt (by simp[rowH]),Q0x st.sep.left.left j v hj⟩;have AO:=st.sep.nd;rw[keys_append] at AO;exact(J2q.1 AO).2.2 g (by simp[rowH]) g hk rfl
end
theorem Q3J{w:World}(AM:Env w)(L:Int)(hL:4500<=L/\L<=65536):Calls prog 43 #[.int .i64 L] w fun r w'=>∃c k ge cap f,r=.returned (.tuple #[.pointer (some ⟨c,0,none⟩),.slice (some ⟨ge,0,none⟩) 5 cap,.bool true])/\CarB L c k ge f w w':=by
 have Qm:((2 ^ (6+10):Nat):Int)=65536:=by decide
 have kn:=Z7x (Sep.nil AM) 6 (by omega) (by omega) L (by omega) (by rw[Qm];exact hL.2) 2 (by omega) (by omega);rw[Qm] at kn;have HL:Hid (4500<=L/\L<=65536):=hL;clear AM Qm hL;go_enter func43,ntmps43;go_wp2_with fail;refine kn.mono ?_;rintro r w1⟨S,rfl,hf,st⟩;have ks:=J1g hf st (fun _=>(0,0));generalize S.c=c at *
 clear kn hf st;go_wp2_with fail;refine ks.mono ?_;rintro r w2⟨s,rfl,EV⟩;have L8:Hid (BgS s c L 0 (fun _=>(0,0)) [(w2.heap.size,isC 3 kindsC)] w (w2.alloc (.cells kindsC.toArray 3))):=EV.beside fun B hB=>hB.new 3 kindsC
 clear EV ks;go_wp2_with fail;refine(Z5M _).mono ?_;rintro r w3⟨rfl,rfl⟩;generalize (w2.alloc (.cells kindsC.toArray 3))=w3 at *
 generalize w2.heap.size=kr at *
 go_wp2_with fail
 go_loopg [8,9] 7 (fun gk ev iv wr=>∃(j:Nat) (f:Nat->Nat×Nat) (rv:RV),iv=.int .i64 j/\j+gk=7/\ev=lvOf rv (endB f j).length/\rvOk rv (endB f j).length/\BgS s c L j f (rowH rv 116 2 (endC (endB f j))++[(kr,isC 3 kindsC)]) w wr)
 case atStart=>exact⟨0,fun _=>(0,0),none,rfl,rfl,rfl,rfl,L8.out⟩
 case round =>
  clear L8;obtain⟨j,f,rv,rfl,E7,rfl,AC,EV⟩:=hrel;have Fx:=Q0a E7;have Kv:=Q0a AC;have L8:=Q0a EV;by_cases Aa:j<7
  ·have k0:=Z5N EV Aa;have kM:=J0k EV Aa HL.out.1;rw[show((j+1:Nat):Int)=(j:Int)+1 by omega] at kM;have Sj:=Q0a kM;have CT:=Q0a Aa;have MR:(j:Int)<7:=by omega
   have Gc:(0:Int)<=(j:Int):=by omega
   have DD:wrap64 ((j:Int)+1)=(j:Int)+1:=Go.IntWalk.wrap64_in _ (by omega);have Ej:IntKind.i64.wrap ((j:Int)+1)=(j:Int)+1:=Go.IntWalk.i64_in _ (by omega);clear E7 AC EV kM;go_wp2_with fail;refine Sj.out.mono ?_;rintro r w4⟨rfl,f',M0,A2⟩;have Ak:=Q0a A2;have N6:=Q0a M0;have k4:=Z5N A2 Aa;have kO:=fun h3=>J1z A2 Aa h3
   rw[show((j+1:Nat):Int)=(j:Int)+1 by omega] at kO;have Om:=Q0a kO;clear A2 M0 Sj k0 Aa kO;by_cases h3:Q0z j=3
   ·have Eu:(((Q0z j:Nat):Int)==3)=true:=by rw[h3];rfl
    have PV:=Om.out h3;have IY:=Q4F j N6.out;obtain⟨at_,AW⟩:∃n,n=(f' j).1:=⟨_,rfl⟩
    have LG:Hid (∀w5,Below w4.heap.size w4 w5->∃rv2 va vn vc w9,(Builtin.append_ #[85,85] 85 #[lvOf rv (endB f j).length,.slice (some ⟨w5.heap.size,0,none⟩) 1 1]).run prog (w5.alloc (.cells #[.int .u32 ((1+j%2:Nat):Int),.int .i64 at_] 116))=.ok (.slice va vn vc) w9/\lvOf rv2 (endB f' (j+1)).length=.slice va vn vc/\rvOk rv2 (endB f' (j+1)).length/\BgS s c L (j+1) f' (rowH rv2 116 2 (endC (endB f' (j+1)))++[(kr,isC 3 kindsC)]) w w9):=fun w5 h5=>by
     obtain⟨rv2,w9,AR,ho,JY⟩:=Z8O (Ak.out.grown h5) Kv.out (by have:=Z1l f j;have:=CT.out;omega) [(1+j%2,at_)] (by simp) (by simp) 85;obtain⟨va,vn,vc,hV⟩:∃a n c,lvOf rv2 ((endB f j).length+1)=.slice a n c:=by
      cases rv2 with
      | none=>exact⟨_,_,_,rfl⟩
      | some q=>exact⟨_,_,_,rfl⟩
     have e:endB f' (j+1)=endB f j++[(1+j%2,at_)]:=by rw[endB,if_pos h3,IY,AW]
     have el:(endB f' (j+1)).length=(endB f j).length+1:=by rw[e,J2j];rfl
     refine⟨rv2,va,vn,vc,w9,?_,by rw[el];exact hV,by rw[el];exact ho,by rw[e];exact JY⟩;rw[<- hV];exact AR
    rw[<- AW] at PV;clear IY AW Ak Kv Om N6;generalize lvOf rv (endB f j).length=u at *
    go_wp2_with fail;refine PV.mono ?_;rintro r w5⟨rfl,Au⟩;have Ch:=Au.alloc Au.size (.cells #[.int .i64 3,.int .i64 at_,.int .i64 0] 54);obtain⟨rv2,va,vn,vc,w9,AR,hV,ho,JY⟩:=LG.out _ Ch;have IF:(w5.alloc (.cells #[.int .i64 3,.int .i64 at_,.int .i64 0] 54)).heap.size=w5.heap.size+1:=by simp
    rw[IF] at AR;have HV:=Q0a hV;have HO:=Q0a ho;have Qo:=Q0a JY;clear Au Ch PV hV ho JY LG IF;have M6:j=2∨j=3∨j=4:=by
     have:j=0∨j=1∨j=2∨j=3∨j=4∨j=5∨j=6:=by have:=CT.out;omega
     rcases this with rfl|rfl|rfl|rfl|rfl|rfl|rfl
     ·cases h3
     ·cases h3
     ·exact .inl rfl
     ·exact .inr (.inl rfl)
     ·exact .inr (.inr rfl)
     ·cases h3
     ·cases h3
    clear Eu h3;rcases M6 with rfl|rfl|rfl
    all_goals
     go_wp2_with (at_builtin;refine Lib.wpList_append_run _ rfl _ _ _ _ rfl _ _ rfl rfl _ _ AR ?_)
    ·go_roundg 4
     case measure=>have:=Fx.out;omega
     case rel=>exact⟨3,f',rv2,by go_num,rfl,HV.out.symm,HO.out,Qo.out⟩
    ·go_roundg 3
     case measure=>have:=Fx.out;omega
     case rel=>exact⟨4,f',rv2,by go_num,rfl,HV.out.symm,HO.out,Qo.out⟩
    ·go_roundg 2
     case measure=>have:=Fx.out;omega
     case rel=>exact⟨5,f',rv2,by go_num,rfl,HV.out.symm,HO.out,Qo.out⟩
   ·have Eu:(((Q0z j:Nat):Int)==3)=false:=by simp;omega
    have e:endB f' (j+1)=endB f j:=by rw[endB,if_neg h3,Q4F j N6.out]
    have HR:Hid (lvOf rv (endB f j).length=lvOf rv (endB f' (j+1)).length/\rvOk rv (endB f' (j+1)).length/\BgS s c L (j+1) f' (rowH rv 116 2 (endC (endB f' (j+1)))++[(kr,isC 3 kindsC)]) w w4):=by
     rw[e];exact⟨rfl,Kv.out,Ak.out⟩
    clear Ak Kv Om N6 e L8;go_wp2_with fail;go_roundg (7-(j+1))
    case measure=>have:=Fx.out;have:=CT.out;omega
    case rel=>exact⟨j+1,f',rv,by go_num,by have:=CT.out;omega,HR.out.1,HR.out.2.1,HR.out.2.2⟩
  ·obtain rfl:j=7:=by omega
   have Qw:=J0n EV;rw[J1h] at EV AC;obtain⟨ge0,D5,rfl⟩:∃a b,rv=some (a,b):=by
    cases rv with
    | none=>cases AC
    | some q=>exact⟨q.1,q.2,rfl⟩
   have Ar:wr.cell? ⟨ge0,1,none⟩=some (.int .i64 ((f 2).1:Int)):=by
    obtain⟨Z,S,fr,_,_,_,_,_,st⟩:=EV;exact Q0x st.sep.left.left 1 _ rfl
   obtain⟨rv2,w9,AR,ho,JY⟩:=Z8O (EV.grown (Below.refl _ _).drew) AC (by simp) [(0,(f 2).1),(1,(f 2).1+8)] (by simp) (by simp) 85;obtain⟨ge,cap,rfl⟩:∃a b,rv2=some (a,b):=by
    cases rv2 with
    | none=>cases ho
    | some q=>exact⟨q.1,q.2,rfl⟩
   have e8:(((f 2).1+8:Nat):Int)=IntKind.i64.wrap (((f 2).1:Int)+8):=by rw[Go.IntWalk.i64_in _ (by omega)];omega
   have HA:Hid ((Builtin.append_ #[85,85] 85 #[.slice (some ⟨ge0,0,none⟩) 3 D5,.slice (some ⟨wr.heap.size,0,none⟩) 2 2]).run prog ((wr.alloc (.cells #[.int .u32 0,.int .i64 ((f 2).1:Int),.int .u32 1,.int .i64 (IntKind.i64.wrap (((f 2).1:Int)+8))] 116)).drew)=.ok (.slice (some ⟨ge,0,none⟩) 5 cap) w9):=by
    rw[<- e8];exact AR
   have Mq:Hid (RtS s L 0 f (rowH (some (ge,cap)) 116 2 (endC (endL f))++[(kr,isC 3 kindsC)]) w w9):=Z8i JY;have e3:lvOf (some (ge0,D5)) (endB f 7).length=.slice (some ⟨ge0,0,none⟩) 3 D5:=rfl;have Sl:(3:Int)<=(D5:Int):=by have:3<=D5:=AC.1;omega
   rw[e3] at *
   generalize ((f 2).1:Int)=a0 at *
   clear EV AC AR ho JY e8 e3 Qw L8 Kv E7 Aa;go_wp2_with fail
   go_region_law (refine Q0B rfl (.tmp 65) (.tmp 77) 85 85 rfl _ _ (by simp[Act.eval]) (by simp[Act.eval]) HA.out ?_)
   all_goals
    have k1:=Z5J 0 0 6 (.inl ⟨rfl,rfl,rfl⟩) HL.out.1 Mq.out;clear HA Mq Ar;go_wp2_with fail;refine k1.mono ?_;rintro r w10⟨rfl,Hm⟩;have k2:=Z5J 1 128 7 (.inr ⟨rfl,rfl,rfl⟩) HL.out.1 Hm;clear k1 Hm;go_wp2_with fail;refine k2.mono ?_;rintro r w11⟨rfl,DN⟩;clear k2;obtain⟨Z,fr,rfl,m,hE,Bm,st⟩:=DN;have kC:=Z5L st.sep.right;have Gx:Hid (∀c k w12,Below w11.heap.size w11 w12->CarC Z c k w12->CarB L c k ge f w w12):=fun c k w12 hb hc=>by
     have s12:=st.trans (st.sep.grown hb);refine⟨Z,fr,m,hE,Bm,hc,Z2Q s12,s12.drop ?_⟩;exact J2o _ _
    clear st m hE Bm;go_wp2_with fail;refine kC.mono ?_;rintro r w12⟨cc,kk,rfl,hb,hc⟩;have HR:=Q0a (Gx.out cc kk w12 hb hc);clear hb hc Gx kC;go_wp2_with fail;refine bodyPost_ret (v:=.tuple #[.pointer (some ⟨cc,0,none⟩),.slice (some ⟨ge,0,none⟩) 5 cap,.bool true]) (by simp[results,results43,go_sem]) rfl ⟨_,_,_,_,_,rfl,HR.out⟩
def Z8k(x:Nat)(r:Ending):Prop:=match Q4E x with
 | some i=>r=.returned (.tuple #[.agg #[.int .i64 i.base,.int .i64 i.order,.int .i64 i.r,.int .i64 i.off,.bool i.g],.bool true])
 | .none=>r=.returned (.tuple #[.agg #[.int .i64 0,.int .i64 0,.int .i64 0,.int .i64 0,.bool false],.bool false])
theorem Q2U(x n k:Nat)(hx:x<18446744073709551616)(hn:n=2 ^ k-1)(hk:k<=8):bits BinOp.and IntKind.u64 (x:Int) (n:Int)=((x%2 ^ k:Nat):Int):=by
 have h2:2 ^ k<=2 ^ 8:=J2L (by omega) hk;rw[Q1S x n (by omega) (by omega),hn,J3c]
theorem Z2R(w:World)(x:Nat)(hx:x<18446744073709551616):Calls prog 185 #[.int .u64 x] w fun r w'=>Z8k x r/\Below w.heap.size w w':=by
 have hd:∀d:Nat,x/d<18446744073709551616:=fun d=>J2J (J3d _ _) hx
 have e1:=Q2U x 255 8 hx rfl (by omega);have e2:=Q2U (x/256) 15 4 (hd _) rfl (by omega);have e3:=Q2U (x/4096) 15 4 (hd _) rfl (by omega);have e4:=Q2U (x/65536) 1 1 (hd _) rfl (by omega);have e5:=Q2U (x/16777216) 255 8 (hd _) rfl (by omega);obtain⟨b,hb⟩:∃b:Nat,b=x%256:=⟨_,rfl⟩
 obtain⟨o,ho⟩:∃b:Nat,b=x/256%16:=⟨_,rfl⟩
 obtain⟨q,hq⟩:∃b:Nat,b=x/4096%16:=⟨_,rfl⟩
 obtain⟨t,ht⟩:∃b:Nat,b=x/65536%2:=⟨_,rfl⟩
 obtain⟨f,hf⟩:∃b:Nat,b=x/16777216%256:=⟨_,rfl⟩
 rw[show(2:Nat) ^ 8=256 from rfl] at e1 e5;rw[show(2:Nat) ^ 4=16 from rfl] at e2 e3;rw[show(2:Nat) ^ 1=2 from rfl] at e4;rw[<- hb] at e1;rw[<- ho] at e2;rw[<- hq] at e3;rw[<- ht] at e4;rw[<- hf] at e5;rw[J3r] at e2 e3 e4 e5;have d1:bits BinOp.and IntKind.u64 (x:Int) 255=(b:Int):=e1;have d2:bits BinOp.and IntKind.u64 ((x:Int)/256) 15=(o:Int):=e2;have d3:bits BinOp.and IntKind.u64 ((x:Int)/4096) 15=(q:Int):=e3;have d4:bits BinOp.and IntKind.u64 ((x:Int)/65536) 1=(t:Int):=e4;have d5:bits BinOp.and IntKind.u64 ((x:Int)/16777216) 255=(f:Int):=e5;have w1:wrap64 (b:Int)=(b:Int):=Go.IntWalk.wrap64_in _ (by omega)
 have w2:wrap64 (o:Int)=(o:Int):=Go.IntWalk.wrap64_in _ (by omega);have w3:wrap64 (q:Int)=(q:Int):=Go.IntWalk.wrap64_in _ (by omega);have w5:wrap64 (f:Int)=(f:Int):=Go.IntWalk.wrap64_in _ (by omega);have J5:decV x=⟨(b:Int),(o:Int),(q:Int),(f:Int),t==1⟩:=by unfold decV;rw[hb,ho,hq,ht,hf]
 obtain⟨g,hg⟩:∃g:Bool,g=(t==1):=⟨_,rfl⟩
 have Bw:((t:Int)==1)=g:=by
  rw[hg];by_cases h:t=1
  ·subst h;rfl
  ·have h2:¬((t:Int)=1):=by omega
   rw[beq_eq_false_iff_ne.2 h,beq_eq_false_iff_ne.2 h2]
 rw[<- hg] at J5;obtain⟨cv,B5⟩:∃c:Bool,c=Q1a ⟨(b:Int),(o:Int),(q:Int),(f:Int),g⟩:=⟨_,rfl⟩
 obtain⟨cn,Mg⟩:∃c:Nat,c=Q1z ⟨(b:Int),(o:Int),(q:Int),(f:Int),g⟩:=⟨_,rfl⟩
 have HI:Hid (∀r,(cv=true/\cn=x->r=.returned (.tuple #[.agg #[.int .i64 b,.int .i64 o,.int .i64 q,.int .i64 f,.bool g],.bool true]))->(¬(cv=true/\cn=x)->r=.returned (.tuple #[.agg #[.int .i64 0,.int .i64 0,.int .i64 0,.int .i64 0,.bool false],.bool false]))->Z8k x r):=fun r h1 h2=>by
  unfold Z8k Q4E;rw[J5,<- B5,<- Mg];by_cases h:cv=true/\cn=x
  ·rw[if_pos h];exact h1 h
  ·rw[if_neg h];exact h2 h
 have HC:Hid (∀W,Calls prog 94 #[.agg #[.int .i64 b,.int .i64 o,.int .i64 q,.int .i64 f,.bool g]] W fun r w'=>∃y:Int,r=.returned (.tuple #[.int .u64 y,.bool cv])/\Below W.heap.size W w'/\(cv=true->y=(cn:Int))):=fun W=>by
  rw[B5,Mg];exact Q9f W ⟨(b:Int),(o:Int),(q:Int),(f:Int),g⟩
 have HZ:Hid (∀w3,Below ((w.alloc (.cells #[.int .i64 0,.int .i64 0,.int .i64 0,.int .i64 0,.bool false] 63)).alloc (.cells #[.int .i64 b,.int .i64 o,.int .i64 q,.int .i64 f,.bool g] 63)).heap.size ((w.alloc (.cells #[.int .i64 0,.int .i64 0,.int .i64 0,.int .i64 0,.bool false] 63)).alloc (.cells #[.int .i64 b,.int .i64 o,.int .i64 q,.int .i64 f,.bool g] 63)) w3 ->
   Cells w3 w.heap.size 63 [.int .i64 0,.int .i64 0,.int .i64 0,.int .i64 0,.bool false]/\Cells w3 (w.heap.size+1) 63 [.int .i64 b,.int .i64 o,.int .i64 q,.int .i64 f,.bool g] /\
   ∀v0 v1 v2 v3 v4,Below w.heap.size w (((((w3.setCell ⟨w.heap.size,0,none⟩ v0).setCell ⟨w.heap.size,1,none⟩ v1).setCell ⟨w.heap.size,2,none⟩ v2).setCell ⟨w.heap.size,3,none⟩ v3).setCell ⟨w.heap.size,4,none⟩ v4)):=fun w3 An=>by
  have c1:=(Cells.new w 63 [.int .i64 0,.int .i64 0,.int .i64 0,.int .i64 0,.bool false]).alloc (.cells #[.int .i64 b,.int .i64 o,.int .i64 q,.int .i64 f,.bool g] 63);have c2:=Cells.new (w.alloc (.cells #[.int .i64 0,.int .i64 0,.int .i64 0,.int .i64 0,.bool false] 63)) 63 [.int .i64 b,.int .i64 o,.int .i64 q,.int .i64 f,.bool g];have hz:(w.alloc (.cells #[.int .i64 0,.int .i64 0,.int .i64 0,.int .i64 0,.bool false] 63)).heap.size=w.heap.size+1:=by simp
  rw[hz] at c2;refine⟨c1.same (An.block _ c1.lt),c2.same (An.block _ c2.lt),fun v0 v1 v2 v3 v4=>?_⟩;have hb:=Q0b (Q0b An);exact((((hb.setCell (J1E _) _).setCell (J1E _) _).setCell (J1E _) _).setCell (J1E _) _).setCell (J1E _) _
 clear e1 e2 e3 e4 e5 hb ho hq ht hf J5 B5 Mg hg hd hx;go_enter func185,ntmps185;go_wp2_with fail;refine(HC.out _).mono ?_;rintro r w3'⟨y,rfl,An,hy⟩;obtain⟨c1,c2,G9⟩:=HZ.out w3' An;have HB:=Q0a G9;have HY:=Q0a hy;have f0:=c1.free 0;have f1:=c1.free 1;have f2:=c1.free 2;have f3:=c1.free 3;have f4:=c1.free 4;have g0:=c2.cell 0 _ rfl;have g1:=c2.cell 1 _ rfl;have g2:=c2.cell 2 _ rfl;have g3:=c2.cell 3 _ rfl;have g4:=c2.cell 4 _ rfl;have h0:=c1.cell 0 _ rfl;have h1:=c1.cell 1 _ rfl;have h2:=c1.cell 2 _ rfl;have h3:=c1.cell 3 _ rfl;have h4:=c1.cell 4 _ rfl;have Aa:=c1.lt;clear An G9 hy c1 c2 HZ HC d1 d2 d3 d4 d5 w1 w2 w3 w5
 cases cv with
 | false =>
  have HR:=Q0a (HI.out _ (fun h=>by cases h.1) (fun _=>rfl));clear HI HY;go_wp2_with fail;refine bodyPost_ret (v:=.tuple #[.agg #[.int .i64 0,.int .i64 0,.int .i64 0,.int .i64 0,.bool false],.bool false]) (by simp[results,results185,go_sem,h0,h1,h2,h3,h4]) rfl ⟨HR.out,HB.out _ _ _ _ _⟩
 | true =>
  obtain rfl:=HY.out rfl;by_cases hn:cn=x
  ·subst hn;have Ac:(((cn:Nat):Int) != (cn:Int))=false:=by simp
   have HR:=Q0a (HI.out _ (fun _=>rfl) (fun h=>(h ⟨rfl,rfl⟩).elim));clear HI HY;go_wp2_with fail;refine bodyPost_ret (v:=.tuple #[.agg #[.int .i64 b,.int .i64 o,.int .i64 q,.int .i64 f,.bool g],.bool true]) (by simp[results,results185,go_sem,h0,h1,h2,h3,h4]) rfl ⟨HR.out,HB.out _ _ _ _ _⟩
  ·have Ac:(((cn:Nat):Int) != (x:Int))=true:=by simp;omega
   have HR:=Q0a (HI.out _ (fun h=>(hn h.2).elim) (fun _=>rfl));clear HI HY;go_wp2_with fail;refine bodyPost_ret (v:=.tuple #[.agg #[.int .i64 0,.int .i64 0,.int .i64 0,.int .i64 0,.bool false],.bool false]) (by simp[results,results185,go_sem,h0,h1,h2,h3,h4]) rfl ⟨HR.out,HB.out _ _ _ _ _⟩
def GtH(B b l:Nat)(rw ri:RV)(ws:List Nat)(its:List It):HL:=
 rowH rw 83 1 (ws.map encU)++(rowH ri 63 5 (its.flatMap It.cells)++[(B,isC 100 [.int .u64 l,lvOf rw ws.length,lvOf ri its.length]),(b,isC 100 [.int .u64 0,.slice none 0 0,.slice none 0 0])])
structure GtQ(B b l:Nat)(rw ri:RV)(ws:List Nat)(its:List It)(w wr:World):Prop where
 st:Step [] (GtH B b l rw ri ws its) w wr
 w:rvOk rw ws.length
 i:rvOk ri its.length
def MsgIs(x:Msg)(w:World)(r:Ending)(w':World):Prop:=∃rw ri,r=.returned (.agg #[.int .u64 (x.label:Int),lvOf rw x.ws.length,lvOf ri x.its.length])/\rvOk rw x.ws.length/\rvOk ri x.its.length/\Step [] (rowH rw 83 1 (x.ws.map encU)++rowH ri 63 5 (x.its.flatMap It.cells)) w w'
section
variable {B b l:Nat} {rw ri:RV} {ws:List Nat} {its:List It} {w wr w':World}
theorem Q5j:GtH B b l rw ri ws its=(rowH rw 83 1 (ws.map encU)++rowH ri 63 5 (its.flatMap It.cells))++[(B,isC 100 [.int .u64 l,lvOf rw ws.length,lvOf ri its.length]),(b,isC 100 [.int .u64 0,.slice none 0 0,.slice none 0 0])]:=by
 unfold GtH;rw[J2x]
theorem GtQ.box(h:GtQ B b l rw ri ws its w wr):Cells wr B 100 [.int .u64 l,lvOf rw ws.length,lvOf ri its.length]/\Cells wr b 100 [.int .u64 0,.slice none 0 0,.slice none 0 0]:=by
 have hs:=h.st.sep;rw[Q5j] at hs;exact⟨hs.cells (by simp),hs.cells (by simp)⟩
theorem GtQ.grown(h:GtQ B b l rw ri ws its w wr)(hb:Below wr.heap.size wr w'):GtQ B b l rw ri ws its w w':=⟨h.st.trans (h.st.sep.grown hb),h.w,h.i⟩
theorem GtQ.word(h:GtQ B b l rw ri ws its w wr)(hl:ws.length<=1000)(x:Nat)(ty:TypeId):∃rw' w',(Builtin.append_ #[82,82] ty #[lvOf rw ws.length,.slice (some ⟨wr.heap.size,0,none⟩) 1 1]).run prog (wr.alloc (.cells #[.int .u64 x] 83))=.ok (lvOf rw' (ws.length+1)) w' /\
  Cells w' B 100 [.int .u64 l,lvOf rw ws.length,lvOf ri its.length]/\GtQ B b l rw' ri (ws++[x]) its w (w'.setCell ⟨B,1,none⟩ (lvOf rw' (ws.length+1))):=by
 obtain⟨rw',w',hr,h1,h2⟩:=J0i h.st.sep h.w hl x ty;have hs:=h2.sep;have e:rowH rw' 83 1 ((ws++[x]).map encU)++(rowH ri 63 5 (its.flatMap It.cells)++[(B,isC 100 [.int .u64 l,lvOf rw ws.length,lvOf ri its.length]),(b,isC 100 [.int .u64 0,.slice none 0 0,.slice none 0 0])])=(rowH rw' 83 1 ((ws++[x]).map encU)++rowH ri 63 5 (its.flatMap It.cells))++(B,isC 100 [.int .u64 l,lvOf rw ws.length,lvOf ri its.length])::[(b,isC 100 [.int .u64 0,.slice none 0 0,.slice none 0 0])]:=by rw[J2x]
 have AG:=hs;rw[e] at AG;have k:=AG.set 1 (lvOf rw' (ws.length+1));refine⟨rw',w',hr,AG.cells (by simp),?_,?_,h.i⟩
 ·have k2:Step _ _ w _:=(h.st.trans h2).trans (by rw[e];exact k);rw[Q5j]
  simpa[List.set] using k2
 ·rw[J2j];exact h1
theorem GtQ.item(h:GtQ B b l rw ri ws its w wr)(hl:its.length<=1000)(x:It)(ty:TypeId):∃ri' w',(Builtin.append_ #[98,98] ty #[lvOf ri its.length,.slice (some ⟨wr.heap.size,0,none⟩) 1 1]).run prog (wr.alloc (.cells #[.int .i64 x.base,.int .i64 x.order,.int .i64 x.r,.int .i64 x.off,.bool x.g] 63))=.ok (lvOf ri' (its.length+1)) w' /\
  Cells w' B 100 [.int .u64 l,lvOf rw ws.length,lvOf ri its.length]/\GtQ B b l rw ri' ws (its++[x]) w (w'.setCell ⟨B,2,none⟩ (lvOf ri' (its.length+1))):=by
 have hp:(GtH B b l rw ri ws its).Perm (rowH ri 63 5 (its.flatMap It.cells)++(rowH rw 83 1 (ws.map encU)++[(B,isC 100 [.int .u64 l,lvOf rw ws.length,lvOf ri its.length]),(b,isC 100 [.int .u64 0,.slice none 0 0,.slice none 0 0])])):=by
  unfold GtH;rw[<- J2x,<- J2x];exact J4k _ J4l
 obtain⟨ri',w',hr,h1,h2⟩:=J0j (h.st.sep.perm hp) h.i hl x ty;have e:rowH ri' 63 5 ((its++[x]).flatMap It.cells)++(rowH rw 83 1 (ws.map encU)++[(B,isC 100 [.int .u64 l,lvOf rw ws.length,lvOf ri its.length]),(b,isC 100 [.int .u64 0,.slice none 0 0,.slice none 0 0])])=(rowH ri' 63 5 ((its++[x]).flatMap It.cells)++rowH rw 83 1 (ws.map encU))++(B,isC 100 [.int .u64 l,lvOf rw ws.length,lvOf ri its.length])::[(b,isC 100 [.int .u64 0,.slice none 0 0,.slice none 0 0])]:=by rw[J2x]
 have AG:=h2.sep;rw[e] at AG;have k:=AG.set 2 (lvOf ri' (its.length+1));refine⟨ri',w',hr,AG.cells (by simp),?_,h.w,?_⟩
 ·have k1:Step [] _ w w':=(h.st.perm (J4Q _) hp).trans h2;have k2:=k1.trans (by rw[e];exact k);refine k2.perm (J4Q _) ?_;rw[Q5j];simp only[List.set];rw[J2j];exact J4k _ J4l
 ·rw[J2j];exact h1
theorem GtQ.done(h:GtQ B b l rw ri ws its w wr)(v0 v1 v2:Value):Step [] (rowH rw 83 1 (ws.map encU)++rowH ri 63 5 (its.flatMap It.cells)) w (((wr.setCell ⟨b,0,none⟩ v0).setCell ⟨b,1,none⟩ v1).setCell ⟨b,2,none⟩ v2):=by
 have hs:=h.st;rw[Q5j] at hs;have e:∀c,(rowH rw 83 1 (ws.map encU)++rowH ri 63 5 (its.flatMap It.cells))++[(B,isC 100 [.int .u64 l,lvOf rw ws.length,lvOf ri its.length]),(b,isC 100 c)]=((rowH rw 83 1 (ws.map encU)++rowH ri 63 5 (its.flatMap It.cells))++[(B,isC 100 [.int .u64 l,lvOf rw ws.length,lvOf ri its.length])])++(b,isC 100 c)::[]:=fun c=>by simp
 rw[e] at hs;have k0:=hs.trans (hs.sep.set 0 v0);have k1:=k0.trans (k0.sep.set 1 v1);have k2:=k1.trans (k1.sep.set 2 v2);refine k2.drop ?_;rw[J2x];exact J2n _ _
end
theorem Q7j{w w':World}(AM:Env w)(hb:Below w.heap.size w w'):MsgIs Msg.none w (.returned (.agg #[.int .u64 0,.slice none 0 0,.slice none 0 0])) w':=⟨none,none,rfl,rfl,rfl,(Sep.nil AM).grown hb⟩
theorem Q7R{m:List Nat}(hm:∀b∈m,b<256)(a:Nat):Q0m m a<18446744073709551616:=by
 have h:=Z8J ((m.drop a).take 8) (fun b hb=>hm b (J4a (J4T hb)));have h8:((m.drop a).take 8).length<=8:=by rw[J3Q];omega
 refine J1G h ?_
 calc 256 ^ ((m.drop a).take 8).length<=256 ^ 8:=J2L (by omega) h8
  _=18446744073709551616:=by decide
theorem Q1p(rv:RV)(k:Nat):∃a n c,lvOf rv k=.slice a n c:=by
 cases rv with
 | none=>exact⟨_,_,_,rfl⟩
 | some p=>exact⟨_,_,_,rfl⟩
def wsK(m:List Nat)(a k:Nat):List Nat:=(List.range k).map fun i=>Q0o m a (3+i)
theorem Q2v(m:List Nat)(a k:Nat):(wsK m a k).length=k:=by simp[wsK]
theorem Z8l(m:List Nat)(a k:Nat):wsK m a (k+1)=wsK m a k++[Q0o m a (3+k)]:=by simp[wsK,List.range_succ]
theorem Q4H(m:List Nat)(a:Nat):∀k l,itemsB m a k=some l->l.length=k
 | 0,l,h=>by cases h;rfl
 | k+1,l,h=>by
  rw[itemsB] at h;cases h1:itemsB m a k with
  | none=>rw[h1] at h;cases h
  | some l1 =>
   rw[h1] at h;cases h2:Q4E (Q0o m a (11+k)) with
   | none=>rw[h2] at h;cases h
   | some i =>
    rw[h2] at h;cases h;rw[J2j,Q4H m a k l1 h1];rfl
theorem Z0j(m:List Nat)(a k j:Nat)(h:itemsB m a k=none)(hk:k<=j):itemsB m a j=none:=by
 induction j with
 | zero =>
  obtain rfl:k=0:=by omega
  exact h
 | succ j ih =>
  by_cases e:k=j+1
  ·rw[<- e];exact h
  ·rw[itemsB,ih (by omega)]
theorem Q6e{w:World}{Z:SP}{fr:List Nat}{N K:Nat}{M:Int}(ok:Z.Ok fr N K M)(h:Sep w Z.hl){p:Pl}(hp:p∈Z.S.l)(hi:p.is=true)(Bf:p.kind=3){g:Nat}(hb:BlkC Z p g w) :
  Calls prog 116 #[.pointer (some ⟨g,0,none⟩)] w (MsgIs (msgV Z.S.P.a.mem p.at_) w):=by
 have AM:=h.env;have HL:Hid (∀(V:World) (i:Nat),Below w.heap.size w V->i<=31->Calls prog 184 #[.pointer (some ⟨g,0,none⟩),.int .i64 i] V fun r w'=>r=.returned (.int .u64 (Q0o Z.S.P.a.mem p.at_ i:Nat))/\V.drew=w'):=fun V i hV h31=>Q7h ok (h.grown hV).sep hp hi Bf (AsideV.step hb (h.grown hV)) i h31
 have HW:Hid (∀i,Q0o Z.S.P.a.mem p.at_ i<18446744073709551616):=fun i=>Q7R ok.core.inv.mem.pool.bytes _
 clear ok h hp hi Bf hb;generalize Z.S.P.a.mem=m at *
 generalize p.at_=a at *
 obtain⟨X,hX⟩:∃X,X=msgV m a:=⟨_,rfl⟩
 rw[<- hX];obtain⟨x0,CI⟩:∃x,x=Q0o m a 0:=⟨_,rfl⟩
 obtain⟨n,hn⟩:∃n,n=x0%16:=⟨_,rfl⟩
 obtain⟨kk,Dl⟩:∃n,n=x0/16:=⟨_,rfl⟩
 obtain⟨x1,Hj⟩:∃x,x=Q0o m a 1:=⟨_,rfl⟩
 have Mu:x0<18446744073709551616:=by rw[CI];exact HW.out 0
 unfold msgV at hX;rw[<- CI,<- Hj,<- hn,<- Dl] at hX;have Qh:Hid (8<n∨2<kk->X=Msg.none):=fun hc=>by rw[hX,if_pos hc]
 have PC:Hid (¬(8<n∨2<kk)->(itemsB m a kk=none->X=Msg.none)/\∀l,itemsB m a kk=some l->X=⟨x1,wsK m a n,l⟩):=fun hc=>by
  rw[hX,if_neg hc];exact⟨fun e=>by rw[e],fun l e=>by rw[e];rfl⟩
 have e1:=Q2U x0 15 4 Mu rfl (by omega);rw[show(2:Nat) ^ 4=16 from rfl,<- hn] at e1;have d1:bits BinOp.and IntKind.u64 (x0:Int) 15=(n:Int):=e1;have d2:(x0:Int)/16=(kk:Int):=by rw[Dl];omega
 have w1:wrap64 (n:Int)=(n:Int):=Go.IntWalk.wrap64_in _ (by omega);have w2:wrap64 (kk:Int)=(kk:Int):=Go.IntWalk.wrap64_in _ (by omega);have HE:Hid (∀V,Below w.heap.size w V->∀v0 v1 v2,X=Msg.none->MsgIs X w (.returned (.agg #[.int .u64 0,.slice none 0 0,.slice none 0 0])) (((V.setCell ⟨w.heap.size,0,none⟩ v0).setCell ⟨w.heap.size,1,none⟩ v1).setCell ⟨w.heap.size,2,none⟩ v2)):=fun V hV v0 v1 v2 e=>by
  rw[e];exact Q7j AM (((hV.setCell (J1E _) _).setCell (J1E _) _).setCell (J1E _) _)
 have Fv:Hid (∀V,Below w.heap.size w V->X=Msg.none->MsgIs X w (.returned (.agg #[.int .u64 0,.slice none 0 0,.slice none 0 0])) V):=fun V hV e=>by
  rw[e];exact Q7j AM hV
 have BK:Hid (Below w.heap.size w (w.alloc (.cells #[.int .u64 0,.slice none 0 0,.slice none 0 0] 100))):=(Below.refl _ _).alloc (J1E _) _;have Hr:Hid (∀V,Below w.heap.size w V->Calls prog 184 #[.pointer (some ⟨g,0,none⟩),.int .i64 0] V fun r w'=>r=.returned (.int .u64 x0)/\V.drew=w'):=fun V hV=>by
  have:=HL.out V 0 hV (by omega)
  rwa [<- CI] at this
 have GW:Hid (∀V,Below w.heap.size w V->Calls prog 184 #[.pointer (some ⟨g,0,none⟩),.int .i64 1] V fun r w'=>r=.returned (.int .u64 x1)/\V.drew=w'):=fun V hV=>by
  have:=HL.out V 1 hV (by omega)
  rwa [<- Hj] at this
 have Aq:GtQ (w.heap.size+1) w.heap.size x1 none none [] [] w ((w.alloc (.cells #[.int .u64 0,.slice none 0 0,.slice none 0 0] 100)).drew.drew.drew.alloc (.cells #[.int .u64 x1,.slice none 0 0,.slice none 0 0] 100)):=by
  have s1:=((Sep.nil AM).new 100 [.int .u64 0,.slice none 0 0,.slice none 0 0]).drew.drew.drew;have s2:=s1.trans (s1.sep.new 100 [.int .u64 x1,.slice none 0 0,.slice none 0 0]);have e:((w.alloc (.cells [.int .u64 0,.slice none 0 0,.slice none 0 0].toArray 100)).drew.drew.drew.heap.size)=w.heap.size+1:=by simp
  refine⟨?_,rfl,rfl⟩;rw[e] at s2;exact s2
 have CZ:=Q0a Aq;have c1:=(Cells.new w 100 [.int .u64 0,.slice none 0 0,.slice none 0 0])
 have f0:=c1.free 0;have f1:=c1.free 1;have f2:=c1.free 2;have g0:=c1.cell 0 _ rfl;have g1:=c1.cell 1 _ rfl;have g2:=c1.cell 2 _ rfl;have Aa:=c1.lt;clear Aq hX Mu e1 AM c1 hn Dl;by_cases hc:8<n∨2<kk
 ·have HR:=Q0a (Fv.out _ BK.out.drew.drew (Qh.out hc));clear Qh PC HE Fv HL HW CZ GW CI Hj;by_cases JR:8<n
  ·have L7:(8:Int)<(n:Int):=by omega
   have hd:decide ((8:Int)<(n:Int))=true:=decide_eq_true L7;have Dd:decide (8<n)=true:=decide_eq_true JR;go_enter func116,ntmps116;go_wp2_with fail;refine(Hr.out _ BK.out).mono ?_;rintro r w'⟨rfl,rfl⟩;go_wp2_with fail;refine(Hr.out _ BK.out.drew).mono ?_;rintro r w'⟨rfl,rfl⟩;go_wp2_with fail;refine bodyPost_ret (v:=.agg #[.int .u64 0,.slice none 0 0,.slice none 0 0]) (by simp[results,results116,go_sem,g0,g1,g2]) rfl HR.out
  ·have Av:2<kk:=by omega
   have MT:(2:Int)<(kk:Int):=by omega
   have hd:decide ((8:Int)<(n:Int))=false:=decide_eq_false (by omega);have Dd:decide (8<n)=false:=decide_eq_false JR;have Gh:decide ((2:Int)<(kk:Int))=true:=decide_eq_true MT;have Je:decide (2<kk)=true:=decide_eq_true Av;go_enter func116,ntmps116;go_wp2_with fail;refine(Hr.out _ BK.out).mono ?_;rintro r w'⟨rfl,rfl⟩;go_wp2_with fail;refine(Hr.out _ BK.out.drew).mono ?_;rintro r w'⟨rfl,rfl⟩;go_wp2_with fail;refine bodyPost_ret (v:=.agg #[.int .u64 0,.slice none 0 0,.slice none 0 0]) (by simp[results,results116,go_sem,g0,g1,g2]) rfl HR.out
 ·have MD:=Q0a (PC.out hc);have JR:n<=8:=by omega
  have Av:kk<=2:=by omega
  have L7:(n:Int)<=8:=by omega
  have MT:(kk:Int)<=2:=by omega
  have hd:decide ((8:Int)<(n:Int))=false:=decide_eq_false (by omega);have Dd:decide (8<n)=false:=decide_eq_false (by omega);have Gh:decide ((2:Int)<(kk:Int))=false:=decide_eq_false (by omega);have Je:decide (2<kk)=false:=decide_eq_false (by omega);have HN:Hid (n<=8/\kk<=2):=⟨JR,Av⟩
  clear Qh PC hc CI Hj;go_enter func116,ntmps116;go_wp2_with fail;refine(Hr.out _ BK.out).mono ?_;rintro r w'⟨rfl,rfl⟩;go_wp2_with fail;refine(Hr.out _ BK.out.drew).mono ?_;rintro r w'⟨rfl,rfl⟩;go_wp2_with fail;refine(GW.out _ BK.out.drew.drew).mono ?_;rintro r w'⟨rfl,rfl⟩;go_wp2_with fail;clear d1 d2 f0 f1 f2 g0 g1 g2 Aa hd Dd Gh Je w1
  go_loopg [31] n (fun gk iv wr=>∃(k:Nat) (rw:RV),iv=.int .i64 k/\k+gk=n/\GtQ (w.heap.size+1) w.heap.size x1 rw none (wsK m a k) [] w wr)
  case atStart=>exact⟨0,none,rfl,by omega,CZ.out⟩
  case round =>
   clear CZ;obtain⟨k,rw_,rfl,BL,hq⟩:=hrel;have HQ:=Q0a hq;have CW:=Q0a BL;clear BL;have Bi:=hq.st.fresh;have BZ:=Q0a Bi;by_cases Aa:k<n
   ·have Cq:(k:Int)<(n:Int):=by omega
    have B4:(0:Int)<=(k:Int):=by omega
    have kl:=HL.out wr.drew (3+k) Bi.drew (by omega);rw[show((3+k:Nat):Int)=IntKind.i64.wrap (3+(k:Int)) by rw[Go.IntWalk.i64_in _ (by omega)];omega] at kl;obtain⟨rw2,w9,AR,Gs,GQ⟩:=(hq.grown ((Below.refl _ _).drew.drew)).word (by rw[Q2v];omega) (Q0o m a (3+k)) 82;rw[Q2v] at AR Gs GQ;rw[<- Z8l] at GQ;have MB:=GQ.w;rw[Q2v] at MB;obtain⟨va,vc,hV⟩:∃a c,lvOf rw2 (k+1)=.slice a (k+1) c:=by
     cases rw2 with
     | none=>cases MB
     | some q=>exact⟨_,_,rfl⟩
    rw[hV] at AR GQ;have HA:Hid ((Builtin.append_ #[82,82] 82 #[lvOf rw_ k,.slice (some ⟨wr.heap.size,0,none⟩) 1 1]).run prog ((wr.alloc (.cells #[.int .u64 (Q0o m a (3+k):Int)] 83)).drew.drew)=.ok (.slice va (k+1) vc) w9):=AR;have HR:=Q0a GQ;obtain⟨hB,_⟩:=hq.box;rw[Q2v] at hB;have b1:=hB.cell 1 _ rfl;have b2:=(hB.alloc (.cells #[.int .u64 (Q0o m a (3+k):Int)] 83)).cell 1 _ rfl;have b0:=Gs.cell 1 _ rfl;have bf:=Gs.free 1;have bl:=Gs.lt;have CT:=Q0a Aa;clear hq GQ MB AR Bi hV hB Gs;generalize lvOf rw_ k=u at *
    generalize Q0o m a (3+k)=xk at *
    have UZ:=Q0a kl;clear kl HL HW HE Fv MD BZ Hr GW BK;go_wp2_with fail
    go_region_law (first|(go_simp;go_at_call 184;refine UZ.out.mono ?_;rintro r w'⟨rfl,rfl⟩)|(refine Q0B rfl (.tmp 35) (.tmp 40) 82 82 rfl _ _ (by simp[Act.eval]) (by simp[Act.eval]) HA.out ?_))
    all_goals
     go_wp2_with fail;go_roundg (n-(k+1))
     case measure=>have:=CW.out;have:=CT.out;omega
     case rel=>exact⟨k+1,rw2,by go_num,by have:=CT.out;omega,HR.out⟩
   ·obtain rfl:k=n:=by have:=CW.out;omega
    have EH:=Q0a (Q2v m a k);clear hq BZ;go_wp2_with fail;obtain⟨wo,rfl⟩:∃wo:World,wo=wr:=⟨_,rfl⟩
    go_loopg [46] kk (fun gk iv wi=>∃(j:Nat) (ri:RV) (its:List It),iv=.int .i64 j/\j+gk=kk/\itemsB m a j=some its/\GtQ (w.heap.size+1) w.heap.size x1 rw_ ri (wsK m a k) its w wi)
    case atStart=>exact⟨0,none,[],rfl,by omega,rfl,HQ.out⟩
    case round =>
     clear HQ;obtain⟨j,ri,its,rfl,BL,ED,hq⟩:=hrel;have HQ:=Q0a hq;have Fx:=Q0a BL;have I1:=Q0a ED;have FQ:=Q4H m a j its ED;have Jw:=Q0a FQ;obtain⟨hB,hb⟩:=hq.box;rw[Q2v,FQ] at hB;have B0:=hB.cell 0 _ rfl;have B1:=hB.cell 1 _ rfl;have B2:=hB.cell 2 _ rfl;have BZ:=Q0a hq.st.fresh;clear BL ED;by_cases Aa:j<kk
     ·have MR:(j:Int)<(kk:Int):=by omega
      have Gc:(0:Int)<=(j:Int):=by omega
      have VT:IntKind.i64.wrap (11+(j:Int))=11+(j:Int):=Go.IntWalk.i64_in _ (by omega);have kl:=HL.out wr (11+j) BZ.out (by omega);rw[show((11+j:Nat):Int)=11+(j:Int) by omega] at kl;have ki:=Z2R wr.drew (Q0o m a (11+j)) (HW.out _);have CT:=Q0a Aa;clear hq hB hb B0 B1 B2 FQ;have CR:Hid (itemsB m a (j+1)=match Q4E (Q0o m a (11+j)) with|some i=>some (its++[i])|none=>none):=by
       refine Q0a ?_;rw[itemsB,I1.out];cases Q4E (Q0o m a (11+j)) <;> rfl
      unfold Z8k at ki;generalize Q0o m a (11+j)=xj at *
      have Sa:=Q0a ki;clear ki;go_wp2_with fail;refine kl.mono ?_;rintro r w'⟨rfl,rfl⟩;clear kl;go_wp2_with fail;refine Sa.out.mono ?_;intro r w5 hr;obtain⟨hr,Au⟩:=hr;have B6:=Q0a ((Below.refl wr.heap.size wr).drew.trans (Au.mono (J1E _)));clear Au Sa;cases JE:Q4E xj with
      | none =>
       rw[JE] at hr CR;dsimp only at hr CR;subst hr;have hX:X=Msg.none:=MD.out.1 (Z0j m a (j+1) kk CR.out (by omega));have Ku:=Q0a (BZ.out.trans (B6.out.mono BZ.out.size));have HR:=Q0a (Fv.out _ (Ku.out.alloc Ku.out.size (.cells #[.int .i64 0,.int .i64 0,.int .i64 0,.int .i64 0,.bool false] 63)) hX);have DR:=Q0a (HE.out _ (Ku.out.alloc Ku.out.size (.cells #[.int .i64 0,.int .i64 0,.int .i64 0,.int .i64 0,.bool false] 63)) (.int .u64 0) (.slice none 0 0) (.slice none 0 0) hX);have Au:=((HQ.out.grown B6.out).box.2).alloc (.cells #[.int .i64 0,.int .i64 0,.int .i64 0,.int .i64 0,.bool false] 63)
       have g0:=Au.cell 0 _ rfl;have g1:=Au.cell 1 _ rfl;have g2:=Au.cell 2 _ rfl;have f0:=Au.free 0;have f1:=Au.free 1;have f2:=Au.free 2;have Ut:=Au.lt;clear Au hX HE Fv MD CR I1 HQ;go_wp2_with fail
       first
        | refine bodyPost_ret (v:=.agg #[.int .u64 0,.slice none 0 0,.slice none 0 0]) (by simp[results,results116,go_sem,g0,g1,g2]) rfl HR.out
        | refine bodyPost_ret (v:=.agg #[.int .u64 0,.slice none 0 0,.slice none 0 0]) (by simp[results,results116,go_sem,g0,g1,g2]) rfl DR.out
      | some i =>
       rw[JE] at hr CR;dsimp only at hr CR;subst hr;have b6:=B6.out.alloc B6.out.size (.cells #[.int .i64 i.base,.int .i64 i.order,.int .i64 i.r,.int .i64 i.off,.bool i.g] 63);have q6:=HQ.out.grown b6;obtain⟨ri2,w9,AR,Gs,GQ⟩:=q6.item (by rw[Jw.out];omega) i 98;have IF:(w5.alloc (.cells #[.int .i64 i.base,.int .i64 i.order,.int .i64 i.r,.int .i64 i.off,.bool i.g] 63)).heap.size=w5.heap.size+1:=by simp
       rw[IF,Jw.out] at AR;rw[Q2v,Jw.out] at Gs;have e9:(its++[i]).length=j+1:=by rw[J2j,Jw.out];rfl
       rw[Jw.out] at GQ;have Pc:=q6.box.1;rw[Q2v,Jw.out] at Pc;have B2:=Pc.cell 2 _ rfl;have b2:=Gs.cell 2 _ rfl;have bf:=Gs.free 2;have bl:=Gs.lt;have ci:=Cells.new w5 63 [.int .i64 i.base,.int .i64 i.order,.int .i64 i.r,.int .i64 i.off,.bool i.g];have i0:=ci.cell 0 _ rfl;have i1:=ci.cell 1 _ rfl;have i2:=ci.cell 2 _ rfl;have i3:=ci.cell 3 _ rfl;have i4:=ci.cell 4 _ rfl;obtain⟨va,vn,vc,hV⟩:=Q1p ri2 (j+1);rw[hV] at AR GQ;have HR:=Q0a GQ;generalize lvOf ri j=u at *
       clear hV Gs GQ Pc q6 b6 IF ci e9 HE Fv;go_wp2_with (at_builtin;refine Lib.wpList_append_run _ rfl _ _ _ _ rfl _ _ rfl rfl _ _ AR ?_);go_roundg (kk-(j+1))
       case measure=>have:=Fx.out;have:=CT.out;omega
       case rel=>exact⟨j+1,ri2,its++[i],by go_num,by have:=CT.out;omega,CR.out,HR.out⟩
     ·obtain rfl:j=kk:=by have:=Fx.out;omega
      have hX:=MD.out.2 its I1.out;have HR:Hid (MsgIs X w (.returned (.agg #[.int .u64 x1,lvOf rw_ k,lvOf ri j])) (((wr.setCell ⟨w.heap.size,0,none⟩ (.int .u64 x1)).setCell ⟨w.heap.size,1,none⟩ (lvOf rw_ k)).setCell ⟨w.heap.size,2,none⟩ (lvOf ri j))):=by
       rw[hX];refine⟨rw_,ri,?_,hq.w,hq.i,hq.done _ _ _⟩;dsimp only;rw[Q2v,FQ]
      have g0:=hb.cell 0 _ rfl;have g1:=hb.cell 1 _ rfl;have g2:=hb.cell 2 _ rfl;have f0:=hb.free 0;have f1:=hb.free 1;have f2:=hb.free 2;have Ut:=hb.lt;obtain⟨va,vn,vc,hV⟩:=Q1p rw_ k;obtain⟨xa,xn,xc,Jv⟩:=Q1p ri j;rw[hV] at B1;rw[Jv] at B2;rw[hV,Jv] at HR;clear hV Jv;clear hq hB hb hX HE Fv MD HL HW I1 HQ BZ FQ Jw EH;go_wp2_with fail;refine bodyPost_ret (v:=.agg #[.int .u64 x1,.slice va vn vc,.slice xa xn xc]) (by simp[results,results116,go_sem,g0,g1,g2]) rfl HR.out
end Go.Proofs.YtfidemmgofcnmaaGreatDoor
