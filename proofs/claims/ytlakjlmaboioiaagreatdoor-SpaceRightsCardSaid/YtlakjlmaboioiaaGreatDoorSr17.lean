/- SpaceRights returns true at every input. No condition. Part of its proof. -/
import Derived.Test.YtlakjlmaboioiaaGreatDoorSr01
import Derived.Test.YtlakjlmaboioiaaGreatDoorSr15
import Derived.Maps.AppendAt
import Derived.Test.YtlakjlmaboioiaaGreatDoorSr16
import Derived.BigQuiet
import Derived.Deep.LoopGhost
set_option maxHeartbeats 4000000
set_option maxRecDepth 100000
set_option linter.unusedVariables false
namespace Go.Proofs.YtlakjlmaboioiaaGreatDoor
open Go.RowKit Go.Proofs.Tryz
theorem Q4J (x id:Int) (b:Nat) (w:World) (h:w.cell? ⟨b,0,none⟩=some (.int .i64 id)) :
  Calls prog 268 #[.int .i64 x,.pointer (some ⟨b,0,none⟩)] w fun e w'=>e=.returned (.bool (x==id))/\w=w':=by
 go_enter func268,ntmps268
 go_wp2
 go_ret;exact⟨rfl,rfl⟩
def J0N (xs:List Int) (id:Int) (e:Ending):Prop:=
 (∃k:Nat,k<xs.length/\e=.returned (.int .i64 k)/\xs[k]?.getD 0=id/\∀j,j<k->xs[j]?.getD 0≠id)∨(e=.returned (.int .i64 (-1))/\∀j,j<xs.length->xs[j]?.getD 0≠id)
def Z5L (b:Nat):Value:=.func (.func 268) #[] #[.pointer (some ⟨b,0,none⟩)]
theorem Z0k (xs:List Int) (id:Int) (b g cap:Nat) (w:World) (h:w.cell? ⟨b,0,none⟩=some (.int .i64 id)) (hm:xs.length<=4611686018427387904)
  (hc:∀k,k<xs.length->w.cell? ⟨g,k,none⟩=some (.int .i64 (xs[k]?.getD 0))) :
  Calls prog 295 #[.slice (some ⟨g,0,none⟩) xs.length cap,Z5L b] w fun e w'=>J0N xs id e/\w=w':=by
 unfold Z5L;go_enter func295,ntmps295;go_wp2_with fail
 go_loop [5,8] (fun _ i=>∃k:Nat,k<=xs.length/\i=.int .i64 k/\∀j,j<k->xs[j]?.getD 0≠id) (fun _ i=>xs.length-(intOf i).toNat)
 case atStart=>exact⟨0,J3z _,rfl,by intro j hj;omega⟩
 case round =>
  obtain⟨k,hk,rfl,hpre⟩:=hrel;have Hp:Hid (∀j,j<k->xs[j]?.getD 0≠id):=hpre;clear hpre;by_cases hlt:k<xs.length
  ·have hck:=hc k hlt;have hh:=h;clear hc h;generalize hx:xs[k]?.getD 0=x at hck;have Hx:Hid (xs[k]?.getD 0=x):=hx;clear hx;by_cases hx:x=id
   ·have hb:(x==id)=true:=by simpa using hx
    have Hxi:Hid (x=id):=hx;clear hx;go_wp2_with (go_at_call 268;refine (Q4J _ id b _ hh).mono ?_;rintro e w' ⟨rfl,rfl⟩);go_ret;exact⟨.inl ⟨k,hlt,rfl,Hx.out.trans Hxi.out,Hp.out⟩,rfl⟩
   ·have hb:(x==id)=false:=by simpa using hx
    have Hxi:Hid (x≠id):=hx;clear hx;go_wp2_with (go_at_call 268;refine (Q4J _ id b _ hh).mono ?_;rintro e w' ⟨rfl,rfl⟩)
    go_round
    case rel =>
     refine⟨k+1,by omega,by go_num,fun j hj=>?_⟩;by_cases e:j=k
     ·subst e;rw [Hx.out];exact Hxi.out
     ·exact Hp.out j (by omega)
    case measure=>simp [intOf];omega
  ·clear hc;go_wp2_with fail;go_ret;exact⟨.inr ⟨rfl,fun j hj=>Hp.out j (by omega)⟩,rfl⟩
def fltK (xs:List Int) (id:Int):List Int:=xs.filter fun x=>x != id
theorem Q8Z {xs:List Int} {id:Int} (h:∀j,j<xs.length->xs[j]?.getD 0≠id):fltK xs id=xs:=by
 unfold fltK;rw [J5E];intro x hx;obtain⟨j,hj,rfl⟩:=List.getElem_of_mem hx;have:=h j hj
 simpa [hj] using this
theorem Q3T (xs:List Int) (id:Int) (j:Nat) (hj:j<xs.length) :
  fltK (xs.take (j+1)) id=if xs[j]?.getD 0=id then fltK (xs.take j) id else fltK (xs.take j) id++[xs[j]?.getD 0]:=by
 rw [J5M hj];unfold fltK;rw [J3u];by_cases h:xs[j]=id <;> simp [h,hj]
def Z8a (w:World) (g cap:Nat) (ys:List Int) (e:Ending) (w':World):Prop:=
 e=.returned (.slice (some ⟨g,0,none⟩) ys.length cap)/\(∃cs,Cells w' g 3 cs/\cs.length=cap/\cs.take ys.length=ys.map (Value.int .i64))/\w.grownBy w' (some g)
def Z5M (xs:List Int) (id:Int) (g cap:Nat) (w:World) (k0:Nat) (iv jv:Value) (wr:World):Prop:=
 ∃j cs,jv=.int .i64 (j:Nat)/\iv=.int .i64 ((fltK (xs.take j) id).length:Nat)/\k0<j/\j<=xs.length/\(fltK (xs.take j) id).length<j/\Cells wr g 3 cs/\cs.length=cap /\
  cs.take (fltK (xs.take j) id).length=(fltK (xs.take j) id).map (Value.int .i64)/\(∀m,j<=m->m<xs.length->cs[m]?=some (.int .i64 (xs[m]?.getD 0)))/\w.grownBy wr (some g)
theorem J0O (w:World):(zeroValue 3).run prog w=.ok (.int .i64 0) w:=by kernel_rfl
theorem Q9a (xs:List Int) (id:Int) (b g cap:Nat) (w:World) (cs0:List Value) (h:w.cell? ⟨b,0,none⟩=some (.int .i64 id)) (hne:b≠g) (hc:Cells w g 3 cs0) (hcap:xs.length<=cap) (hcl:cs0.length=cap)
  (htake:cs0.take xs.length=xs.map (Value.int .i64)) (hm:xs.length<=1048576) :
  Calls prog 267 #[.slice (some ⟨g,0,none⟩) xs.length cap,Z5L b] w (Z8a w g cap (fltK xs id)):=by
 have hcell:∀k,k<xs.length->cs0[k]?=some (.int .i64 (xs[k]?.getD 0)):=by
  intro k hk;have h1:(cs0.take xs.length)[k]?=(xs.map (Value.int .i64))[k]?:=by rw [htake]
  rw [J3A,if_pos hk] at h1;rw [h1];simp [hk]
 have hix:=Z0k xs id b g cap w h (by omega) (fun k hk=>hc.cell k _ (hcell k hk));unfold Z5L at hix ⊢;go_enter func267,ntmps267;go_wp2_with fail;refine hix.mono ?_;rintro e w' ⟨⟨k,hk,rfl,hxk,hpre⟩|⟨rfl,hall⟩,rfl⟩
 case inr =>
  have hfl:=Q8Z hall
  go_wp2
  go_ret;rw [hfl];exact⟨rfl,⟨cs0,hc,hcl,htake⟩,⟨rfl,rfl,rfl,J1x _,fun _ _ _=>rfl⟩⟩
 case inl =>
  have hft:fltK (xs.take k) id=xs.take k:=Q8Z (by
   intro j hj;have hjk:j<k:=by simp at hj;omega
   have:=hpre j hjk
   simpa [J3A,hjk] using this)
  have hft1:fltK (xs.take (k+1)) id=xs.take k:=by rw [Q3T xs id k hk,if_pos hxk,hft]
  have hrel0:Hid (Z5M xs id g cap w k (.int .i64 k) (.int .i64 ((k:Int)+1)) w):=by
   refine⟨k+1,cs0,by go_num,?_,by omega,by omega,?_,hc,hcl,?_,fun m _ hm=>hcell m hm,⟨rfl,rfl,rfl,J1x _,fun _ _ _=>rfl⟩⟩
   ·rw [hft1];simp;omega
   ·rw [hft1];simp;omega
   ·rw [hft1];have h1:=congrArg (List.take k) htake;rw [J3S,<- List.map_take] at h1;have e1:(List.take k xs).length=k:=by simp;omega
    rw [e1,<- h1];congr 1;omega
  have hbad:((k:Int) == -1)=false:=by simp
  clear hcell hix hft hft1 hxk hpre hc htake hcl;go_wp2_with fail
  go_loopw [5,6] (fun iv jv wr=>Z5M xs id g cap w k iv jv wr) (fun _ jv _=>xs.length-(intOf jv).toNat)
  case atStart=>exact hrel0.out
  case round =>
   clear hrel0;obtain⟨j,cs,rfl,rfl,hkj,hj,hij,hc,hcl,hpre,hpost,hg⟩:=hrel;generalize hi:(fltK (List.take j xs) id).length=i at hij hpre;have Hi:Hid ((fltK (List.take j xs) id).length=i):=hi;clear hi;have hb0:wr.cell? ⟨b,0,none⟩=some (.int .i64 id):=hg.cell h (by simpa using hne);have Hpre:Hid (List.take i cs=List.map (Value.int IntKind.i64) (fltK (List.take j xs) id)):=hpre;have Hpost:Hid (∀(m:Nat),j<=m->m<xs.length->cs[m]?=some (Value.int IntKind.i64 (xs[m]?.getD 0))):=hpost;have Hcl:Hid (cs.length=cap):=hcl;clear hpre hpost h hcl;by_cases hlt:j<xs.length
   ·have hcj:=hc.cell j _ (Hpost.out j (J1x _) hlt);have hci:=hc.cell i (cs[i]?.getD undef) (by have:=Hcl.out;rw [J3O (by omega)];rfl);generalize hu:cs[i]?.getD undef=u at hci;clear hu;have hfi:=hc.free i;generalize hx:xs[j]?.getD 0=x at hcj;have Hx:Hid (xs[j]?.getD 0=x):=hx;clear hx;have hcs:Hid (Cells wr g 3 cs):=hc;clear hc;have hfs:=Q3T xs id j hlt;by_cases hx:x=id
    ·have Hf:Hid (fltK (List.take (j+1) xs) id=fltK (List.take j xs) id):=by rw [hfs,if_pos (Hx.out.trans hx)];exact rfl
     have hbx:(x==id)=true:=by simpa using hx
     clear hx hfs;go_wp2_with (go_at_call 268;refine (Q4J _ id b _ hb0).mono ?_;rintro e w' ⟨rfl,rfl⟩);go_roundw
     case rel =>
      refine⟨j+1,cs,by go_num,?_,by omega,by omega,?_,hcs.out,Hcl.out,?_,fun m hm1 hm2=>Hpost.out m (by omega) hm2,hg⟩
      ·rw [Hf.out,Hi.out]
      ·rw [Hf.out,Hi.out];omega
      ·rw [Hf.out,Hi.out];exact Hpre.out
     case measure=>simp [intOf];omega
    ·have Hf:Hid (fltK (List.take (j+1) xs) id=fltK (List.take j xs) id++[x]):=by rw [hfs,if_neg (by rw [Hx.out];exact hx),Hx.out];exact rfl
     have hbx:(x==id)=false:=by simpa using hx
     clear hx hfs;go_wp2_with (go_at_call 268;refine (Q4J _ id b _ hb0).mono ?_;rintro e w' ⟨rfl,rfl⟩);go_roundw
     case rel =>
      refine⟨j+1,cs.set i (.int .i64 x),by go_num,?_,by omega,by omega,?_,hcs.out.set _ _,by simpa using Hcl.out,?_,fun m hm1 hm2=>?_,?_⟩
      ·rw [Hf.out];simp [Hi.out]
      ·rw [Hf.out];simp [Hi.out];omega
      ·rw [Hf.out];have e1:(fltK (List.take j xs) id++[x]).length=i+1:=by simp [Hi.out]
       have hil:i<cs.length:=by have:=Hcl.out;omega
       rw [e1,J5M (by simpa using hil),J2y (J1x _),Hpre.out];simp
      ·rw [J5e (by omega)];exact Hpost.out m (by omega) hm2
      ·exact⟨hg.os,hg.tape,hg.output,by simpa using hg.size,fun q hq hqn=>(Below.heap_setCell _ _ _ _ (fun e=>hqn (by simp [e]))).trans (hg.block q hq hqn)⟩
     case measure=>simp [intOf];omega
   ·obtain rfl:j=xs.length:=by omega
    have hlen1:i<cap:=by omega
    have hci:((cap:Int)==i)=false:=by simp;omega
    have hic:¬(cap=i):=by omega
    have hcs:Hid (Cells wr g 3 cs):=hc;clear hc;go_wp2_with (refine Q4i _ rfl (.tmp 38) 36 3 rfl underlying36 (.int .i64 0) J0O rfl rfl g i (xs.length-i) (cap-i) rfl (by omega) 3 cs hcs.out (by have:=Hcl.out;omega) ?_;intro w2 hc2 hg2);go_ret;have hxl:List.take xs.length xs=xs:=J3v (J1x _);have Hi':=Hi.out;have Hpre':=Hpre.out;have Hcl':=Hcl.out;rw [hxl] at Hi' Hpre';refine⟨by rw [Hi'];rfl,⟨_,hc2,?_,?_⟩,?_⟩
    ·simp;omega
    ·rw [Hi',J2x,J3R (by simp;omega),J3S,Nat.min_self,Hpre']
    ·exact⟨hg2.os.trans hg.os,hg2.tape.trans hg.tape,hg2.output.trans hg.output,J1y hg.size hg2.size,fun q hq hqn=>(hg2.block q (J1z hq hg.size) hqn).trans (hg.block q hq hqn)⟩
theorem Step.aside {H H':HL} {w w1 w2:World} (st:Step H H' w w1) {F:Nat->Prop} (hc:Chg F w1 w2) (hF:∀b,F b->w.heap.size<=b/\b∉keys H') (hgb:GB<=w.heap.size):Step H H' w w2:=
 ⟨st.sep.chg hc (fun b hb hf=>(hF b hf).2 hb) (fun b hf=>J1y hgb (hF b hf).1),st.chg.trans hc (fun i hi=>.inr (hF i hi).1),st.new⟩
theorem Step.set_aside {H H':HL} {w w1:World} (st:Step H H' w w1) {b:Nat} (hb:w.heap.size<=b) (hk:b∉keys H') (hgb:GB<=w.heap.size) (i:Nat) (v:Value):Step H H' w (w1.setCell ⟨b,i,none⟩ v):=
 st.aside (F:=fun k=>k=b) ((Chg.refl _ _).set _ _ (.inl rfl)) (fun k hk'=>by subst hk';exact⟨hb,hk⟩) hgb
def FO.dropped (q:FO) (e:En Nd):FO:={q with N:=Q0B q.N e 0}
theorem FO.cutRow {w:World} {q:FO} (h:Sep w q.hl) (ok:q.Ok) {e p:En Nd} (he:find q.N e.id=some e) (hp:find q.N e.q.par=some p) {b:Nat} (hb:w.cell? ⟨b,0,none⟩=some (.int .i64 e.id)) (hbk:b∉keys q.hl) (hbl:b<w.heap.size) :
  ∃g cap:Nat,q.kr e.q.par=some (g,cap)/\Calls prog 267 #[.slice (some ⟨g,0,none⟩) p.q.ks.length cap,Z5L b] w fun r w'=>r=.returned (.slice (some ⟨g,0,none⟩) (cutK p.q e.id).ks.length cap) /\
   (w'.cell? ⟨b,0,none⟩=some (.int .i64 e.id))/\w'.frozen? ⟨p.b,3,none⟩=false/\(∃v,w'.cell? ⟨p.b,3,none⟩=some v) /\
   Step q.hl (q.setN e.q.par (cutK p.q e.id) (some (g,cap))).hl w (w'.setCell ⟨p.b,3,none⟩ (.slice (some ⟨g,0,none⟩) (cutK p.q e.id).ks.length cap)):=by
 obtain⟨hem,_⟩:=Q0b he;obtain⟨hpm,hpid⟩:=Q0b hp;have hin:e.id∈p.q.ks:=by
  obtain⟨p',hp',hk⟩:=(ok.n.par e hem).2 (by have:=ok.n.rng p hpm;omega);rw [hp] at hp';cases hp';exact hk
 have hrv:=ok.rv p hpm;rw [hpid] at hrv;obtain⟨R,p1,p2⟩:=FO.split ok.n.ids hp;cases hkr:q.kr e.q.par with
 | none =>
  rw [hkr] at hrv;have:p.q.ks.length=0:=hrv;rw [J3w] at this;rw [this] at hin;cases hin
 | some gc =>
  obtain⟨g,cap⟩:=gc;rw [hkr] at hrv p1;obtain⟨hcap,hmax⟩:p.q.ks.length<=cap/\cap<=maxLen:=hrv;refine⟨g,cap,rfl,?_⟩;have pm:∀(Z:HL) (a:Nat×(Obj->Prop)),((a::Z)++R).Perm (Z++(a::R)):=fun Z a=>J5b.symm
  have h':Sep w (rowH (some (g,cap)) 3 1 (p.q.ks.map encI)++((p.b,isC 287 (p.q.cells (some (g,cap))))::R)):=h.perm (p1.trans (pm _ _));obtain⟨ds,hds,hdl,hdt⟩:=h'.left.row (b:=g) (T:=3) (n:=cap*1) (cs:=p.q.ks.map encI) (by simp [rowH]);rw [J2D] at hdl;rw [J3g] at hdt;have hgk:g∈keys q.hl:=by
   have:g∈keys (rowH (some (g,cap)) 3 1 (p.q.ks.map encI)++((p.b,isC 287 (p.q.cells (some (g,cap))))::R)):=by simp [rowH,keys]
   exact ((p1.trans (pm _ _)).map Prod.fst).mem_iff.2 this
  have hbg:b≠g:=fun x=>hbk (x ▸ hgk)
  have hfew:=ok.n.kids_few hpm;have hfew2:=ok.few;have hflt:fltK p.q.ks e.id=(cutK p.q e.id).ks:=by
   unfold fltK cutK;exact J4n fun x _=>by by_cases hx:x=e.id <;> simp [hx]
  refine (Q9a p.q.ks e.id b g cap w ds hb hbg hds hcap hdl (by rw [hdt]) (by omega)).mono ?_;rintro r w' ⟨hr,⟨cs,hcs,hcl,hct⟩,hg⟩;rw [hflt] at hr hct;have s1:=Sep.turn (A:=[]) (B:=(p.b,isC 287 (p.q.cells (some (g,cap))))::R) (q':=isR 3 (cap*1) ((cutK p.q e.id).ks.map encI)) h' hg ⟨_,hcs,cs.toArray,rfl,by simpa using hcl,by
   rw [J3g]
   simpa using hct⟩
  have hc:=s1.sep.cells (b:=p.b) (T:=287) (cs:=p.q.cells (some (g,cap))) (by simp);have s2:=Sep.set (A:=[(g,isR 3 (cap*1) ((cutK p.q e.id).ks.map encI))]) (B:=R) s1.sep 3 (.slice (some ⟨g,0,none⟩) (cutK p.q e.id).ks.length cap);have hcl3:(p.q.cells (some (g,cap))).set 3 (.slice (some ⟨g,0,none⟩) (cutK p.q e.id).ks.length cap)=(cutK p.q e.id).cells (some (g,cap)):=rfl;rw [hcl3] at s2;refine⟨hr,hg.cell hb (by simpa using hbg),hc.free 3,⟨_,hc.cell 3 _ rfl⟩,(s1.trans s2).perm ((p1.trans (pm _ _)).symm) ?_⟩;exact ((p2 (cutK p.q e.id) (some (g,cap)) rfl rfl).trans (pm _ _)).symm
def Z8b (q:FO) (e:En Nd) (w w':World):Prop:=Step q.hl ((q.dropped e).hl++ndH q.kr e) w w'
theorem Z8c {q:FO} (ok:q.Ok) {e p:En Nd} (hp:find q.N e.q.par=some p) {rv:RV} (hkr:q.kr e.q.par=rv):(q.setN e.q.par (cutK p.q e.id) rv).cut e.id=q.dropped e/\(q.setN e.q.par (cutK p.q e.id) rv).kr=q.kr:=by
 have hk:(fun j=>if j=e.q.par then rv else q.kr j)=q.kr:=by
  funext j;split
  ·rename_i h;rw [h];exact hkr.symm
  ·rfl
 refine⟨?_,hk⟩;unfold FO.cut FO.setN FO.dropped;simp only [hk];rw [Z7Y ok.n.ids hp]
theorem Z5N {q:FO} {e:En Nd} (he:find q.N e.id=some e) (hne:e.id≠e.q.par) (n:Nd) (rv:RV):find (q.setN e.q.par n rv).N e.id=some e:=by
 show find (mapE _ q.N) e.id=_;rw [Q1p,he];simp only [J3l,if_neg hne]
def Q0C (w:World) (id:Int):World:=(w.alloc (.cells #[.int .i64 id] 3)).alloc (.cells #[.int .i64 0,.int .i64 0] 46)
theorem Q2Q (w:World) (id:Int):Below w.heap.size w (Q0C w id):=((Below.refl _ _).alloc (J1x _) _).alloc (by simp) _
structure Z9W (q q1:FO) (e:En Nd) (w w3:World):Prop where
 c0:w3.cell? ⟨q.f,0,none⟩=some (.map (some q.m))
 c1:w3.cell? ⟨q.f,1,none⟩=some (.map (some q.o))
 b0:w3.cell? ⟨w.heap.size,0,none⟩=some (.int .i64 e.id)
 del:∃w5,(Builtin.delete_ #[279,3] 0 #[.map (some q.m),.int .i64 e.id]).run prog w3.drew=.ok (.tuple #[]) w5/\(w5.cell? ⟨q.f,1,none⟩=some (.map (some q.o))/\w5.cell? ⟨e.b,0,none⟩=some (.int .i64 e.q.sp)/\w5.cell? ⟨e.b,1,none⟩=some (.int .i64 e.q.sl)) /\
  ∃w7,(Builtin.delete_ #[280,46] 0 #[.map (some q.o),.agg #[.int .i64 e.q.sp,.int .i64 e.q.sl]]).run prog w5.drew=.ok (.tuple #[]) w7/\(w7.cell? ⟨e.b,0,none⟩=some (.int .i64 e.q.sp)/\w7.cell? ⟨e.b,1,none⟩=some (.int .i64 e.q.sl))/\Cells w7 (w.heap.size+1) 46 [.int .i64 0,.int .i64 0] /\
   ∀u v,Z8b q e w ((w7.setCell ⟨w.heap.size+1,0,none⟩ u).setCell ⟨w.heap.size+1,1,none⟩ v)
theorem Q9b {w w2 w3:World} {q q1:FO} {e:En Nd} (h:Sep w q.hl) (ok:q.Ok) (hb2:Below (Q0C w e.id).heap.size (Q0C w e.id) w2) (st:Step q.hl q1.hl w w3) (he1:find q1.N e.id=some e) (hids:q1.N.Pairwise (fun a b=>a.id≠b.id)) (hs:q1.N.Pairwise (fun a b=>(a.q.sp,a.q.sl)≠(b.q.sp,b.q.sl))) (hn:∀e∈q1.N,0<=e.q.sp/\e.q.sp<4294967296/\0<=e.q.sl/\e.q.sl<256)
  (e1:q1.cut e.id=q.dropped e) (e2:q1.kr=q.kr) (f1:q1.f=q.f) (f2:q1.m=q.m) (f3:q1.o=q.o) (hb0:w3.cell? ⟨w.heap.size,0,none⟩=some (.int .i64 e.id)) (hres:Cells w3 (w.heap.size+1) 46 [.int .i64 0,.int .i64 0]) (hkeys:∀b∈keys q1.hl,b∈keys q.hl):Z9W q q1 e w w3:=by
 have hgb:GB<=w.heap.size:=h.env.gb;have hsep:=st.sep;obtain⟨w5,r5,s5,hnext⟩:=FO.delSteps hsep.drew hids hs hn he1 3 0 46 0;obtain⟨w7,r7,s7⟩:=hnext w5.drew (Below.refl _ _).drew;rw [f2] at r5;rw [f3] at r7;have nd5:Cells w5 e.b 287 (e.q.cells (q1.kr e.id)):=by
  obtain⟨A,B,hN,_,_⟩:=Q2X hids he1;exact s5.sep.cells (by rw [hN];simp [ndH])
 have nd7:Cells w7 e.b 287 (e.q.cells (q1.kr e.id)):=s7.sep.right.cells (by simp [ndH]);have st7:Step q.hl ((q1.cut e.id).hl++ndH q1.kr e) w w7:=st.trans s7.from_drew;rw [e1,e2] at st7;have c1:=FO.c1 hsep;have hc5:w5.cell? ⟨q1.f,1,none⟩=some (.map (some q1.o)):=(s5.sep.cells (b:=q1.f) (T:=282) (cs:=[.map (some q1.m),.map (some q1.o),.int .i64 q1.next]) (by simp [FO.head])).cell 1 _ rfl;rw [f1,f3] at hc5;have c0':=FO.c0 hsep;rw [f1,f2] at c0';rw [f1,f3] at c1;refine⟨c0',c1,hb0,w5,r5,⟨hc5,nd5.cell 0 _ rfl,nd5.cell 1 _ rfl⟩,w7,r7,⟨nd7.cell 0 _ rfl,nd7.cell 1 _ rfl⟩,hres.same (s7.from_drew.chg.block _ hres.lt fun hk=>by have:=h.lt (hkeys _ hk);omega),fun u v=>?_⟩
 have hnk:w.heap.size+1∉keys ((q.dropped e).hl++ndH q.kr e):=fun hk=>by
  rw [<- e1,<- e2] at hk;have h1:=((FO.cut_perm hids he1).map Prod.fst).mem_iff.2 hk;have h2:w.heap.size+1∈keys q1.hl:=by
   simpa [FO.hl,keys] using h1
  have:=h.lt (hkeys _ h2);omega
 exact (st7.set_aside (J5N _) hnk hgb 0 u).set_aside (J5N _) hnk hgb 1 v
theorem Z5O {q:FO} (hids:q.N.Pairwise (fun a b=>a.id≠b.id)) {id:Int} {c:En Nd} (hf:find q.N id=some c) {n:Nd} {g cap:Nat} (hkr:q.kr id=some (g,cap)) (h1:n.sp=c.q.sp) (h2:n.sl=c.q.sl):∀b∈keys (q.setN id n (some (g,cap))).hl,b∈keys q.hl:=fun b hb=>by
 obtain⟨R,p1,p2⟩:=FO.split hids hf;rw [hkr] at p1;have k1:=((p2 n (some (g,cap)) h1 h2).map Prod.fst).mem_iff.1 hb;exact (p1.map Prod.fst).mem_iff.2 (by simpa [rowH] using k1)
theorem Z2G {w:World} {q:FO} (h:Sep w q.hl) (ok:q.Ok) {e p:En Nd} (he:find q.N e.id=some e) (hp:find q.N e.q.par=some p) :
  ∃g cap:Nat,∀w2,Below (Q0C w e.id).heap.size (Q0C w e.id) w2->w2.cell? ⟨e.b,2,none⟩=some (.int .i64 e.q.par) /\
   Calls prog 162 #[.pointer (some ⟨q.f,0,none⟩),.int .i64 e.q.par] w2 (fun r w'=>r=.returned (.pointer (some ⟨p.b,0,none⟩))/\w2=w')/\w2.cell? ⟨p.b,3,none⟩=some (.slice (some ⟨g,0,none⟩) p.q.ks.length cap) /\
   Calls prog 267 #[.slice (some ⟨g,0,none⟩) p.q.ks.length cap,.func (.func 268) #[] #[.pointer (some ⟨w.heap.size,0,none⟩)]] w2 fun r w3=>r=.returned (.slice (some ⟨g,0,none⟩) (cutK p.q e.id).ks.length cap)/\w3.frozen? ⟨p.b,3,none⟩=false/\(∃v,w3.cell? ⟨p.b,3,none⟩=some v) /\
    ∃q1,Z9W q q1 e w (w3.setCell ⟨p.b,3,none⟩ (.slice (some ⟨g,0,none⟩) (cutK p.q e.id).ks.length cap)):=by
 obtain⟨hem,_⟩:=Q0b he;obtain⟨hpm,hpid⟩:=Q0b hp;have hne:e.id≠e.q.par:=by have:=ok.n.rise e hem;omega
 have hB:=Q2Q w e.id;have hbi:Cells (Q0C w e.id) w.heap.size 3 [.int .i64 e.id]:=(Cells.new w 3 [.int .i64 e.id]).alloc (.cells #[.int .i64 0,.int .i64 0] 46);have hsz:(Q0C w e.id).heap.size=w.heap.size+2:=by simp [Q0C]
 have facts:∀w2,Below (Q0C w e.id).heap.size (Q0C w e.id) w2->Below w.heap.size w w2/\w2.cell? ⟨w.heap.size,0,none⟩=some (.int .i64 e.id)/\w.heap.size+2<=w2.heap.size:=fun w2 hb=>⟨hB.trans (hb.mono (by omega)),(hbi.same (hb.block _ (by omega))).cell 0 _ rfl,by have:=hb.size;omega⟩
 have hnk:w.heap.size∉keys q.hl:=fun hk=>by have:=h.lt hk;omega
 obtain⟨g,cap,hkr,_⟩:=FO.cutRow (w:=Q0C w e.id) (h.grown hB).sep ok he hp (b:=w.heap.size) (hbi.cell 0 _ rfl) hnk (by omega);refine⟨g,cap,fun w2 hb=>?_⟩;obtain⟨hb',hb0,hlt2⟩:=facts w2 hb;have s2:=(h.grown hb').sep;have c3:=(FO.nd0 s2 hp).2.2.2;rw [hpid,hkr] at c3;refine⟨(FO.nd0 s2 he).2.2.1,Q2O s2 hp,c3,?_⟩;obtain⟨g',cap',hkr',hcall⟩:=FO.cutRow s2 ok he hp hb0 hnk (by omega);rw [hkr] at hkr';cases hkr';refine hcall.mono ?_;rintro r w3 ⟨rfl,hb3,hfr,hcv,st⟩;obtain⟨e1,e2⟩:=Z8c ok (e:=e) hp hkr;refine⟨rfl,hfr,hcv,q.setN e.q.par (cutK p.q e.id) (some (g,cap)),?_⟩;refine Q9b h ok hb ((h.grown hb').trans st) (Z5N he hne _ _) (Q2a (fun _ _ h=>h) ok.n.ids) ?_ ?_ e1 e2 rfl rfl rfl ?_ ?_ (Z5O ok.n.ids hp hkr rfl rfl)
 ·show (mapE _ q.N).Pairwise _;unfold mapE;refine J2c.2 (J5g ?_ ok.n.spots);intro a b ha hb hab;have sp:∀c∈q.N,(if c.id=e.q.par then cutK p.q e.id else c.q).sp=c.q.sp/\(if c.id=e.q.par then cutK p.q e.id else c.q).sl=c.q.sl:=fun c hc=>by
   split
   ·rename_i hcp;rw [Q8Y ok.n.ids hc hcp hp];exact⟨rfl,rfl⟩
   ·exact⟨rfl,rfl⟩
  simp only [(sp a ha).1,(sp a ha).2,(sp b hb).1,(sp b hb).2];exact hab
 ·intro d hd;obtain⟨c,hc,rfl⟩:=Q1q (show d∈mapE _ q.N from hd);have:=ok.n.sm c hc;simp only;split
  ·rename_i hcp;rw [Q8Y ok.n.ids hc hcp hp] at this;exact this
  ·exact this
 ·have hne:w.heap.size≠p.b:=fun hx=>hnk (by
   have:p.b∈keys q.hl:=by
    obtain⟨A,B,hN,_,_⟩:=Q2X ok.n.ids hp;simp only [FO.hl,keys,J1A,List.map_flatMap];refine J5O _ (J5O _ (J5O _ (J1X.2 ⟨p,hpm,?_⟩)));simp [ndH]
   rw [hx];exact this)
  exact (World.cell?_of_block (Below.heap_setCell _ _ _ _ (by simpa using hne))).trans hb3
 ·have hbr:Cells (Q0C w e.id) (w.heap.size+1) 46 [.int .i64 0,.int .i64 0]:=by
   have:=Cells.new (w.alloc (.cells #[.int .i64 e.id] 3)) 46 [.int .i64 0,.int .i64 0];rw [show (w.alloc (.cells #[.int .i64 e.id] 3)).heap.size=w.heap.size+1 by simp] at this;exact this
  have hbr2:=hbr.same (hb.block _ (by omega));exact hbr2.same (st.chg.block _ hbr2.lt fun hk=>by have:=h.lt hk;omega)
theorem Z5P {w:World} {q:FO} (h:Sep w q.hl) (ok:q.Ok) {e p:En Nd} (he:find q.N e.id=some e) (hp:find q.N e.q.par=some p) :
  Calls prog 235 #[.pointer (some ⟨q.f,0,none⟩),.int .i64 e.id] w fun r w'=>(∃v,r=.returned v)/\Z8b q e w w':=by
 have hb:=Q2Q w e.id;have hbi:=(Cells.new w 3 [.int .i64 e.id]).alloc (.cells #[.int .i64 0,.int .i64 0] 46);have b0:=hbi.cell 0 _ rfl;have hsb:=(h.grown hb).sep;have c0:=FO.c0 hsb;have hl:=FO.look_some hsb he;have c0d:(Q0C w e.id).drew.cell? ⟨q.f,0,none⟩=some (.map (some q.m)):=c0;have b0d:(Q0C w e.id).drew.cell? ⟨w.heap.size,0,none⟩=some (.int .i64 e.id):=b0;have hld:=FO.look_some hsb.drew he;obtain⟨g,cap,hch⟩:=Z2G h ok he hp;obtain⟨k2,kat,k3,kdel⟩:=hch _ (Below.refl _ _).drew;have HDel:=Q0a kdel;unfold Q0C at *
 clear h ok he hp hb hsb hbi hch kdel;go_enter func235,ntmps235;go_wp2_with fail;go_region;go_wp2_with fail;refine kat.mono ?_;rintro r w' ⟨rfl,rfl⟩;go_wp2_with fail;refine HDel.out.mono ?_;rintro r w3 ⟨rfl,hfr,⟨v,hcv⟩,q1,hE⟩;obtain⟨c0e,c1e,b0e,w5,r5,⟨c15,e05,e15⟩,w7,r7,⟨e07,e17⟩,hres,hz⟩:=hE;have HZ:=Q0a hz;generalize (cutK p.q e.id).ks.length=kl at *
 have c0e':(w3.setCell ⟨p.b,3,none⟩ (.slice (some ⟨g,0,none⟩) kl cap)).drew.cell? ⟨q.f,0,none⟩=some (.map (some q.m)):=c0e;have b0e':(w3.setCell ⟨p.b,3,none⟩ (.slice (some ⟨g,0,none⟩) kl cap)).drew.cell? ⟨w.heap.size,0,none⟩=some (.int .i64 e.id):=b0e;have c15':w5.drew.cell? ⟨q.f,1,none⟩=some (.map (some q.o)):=c15;have e05':w5.drew.cell? ⟨e.b,0,none⟩=some (.int .i64 e.q.sp):=e05;have e15':w5.drew.cell? ⟨e.b,1,none⟩=some (.int .i64 e.q.sl):=e15;clear hz HDel kat hl hld c0 c0d b0 b0d k2 k3;go_wp2_with fail;go_region;go_wp2_with fail;go_region;have g0:=hres.cell 0 _ rfl;have g1:=hres.cell 1 _ rfl
 have gf0:=hres.free 0;have gf1:=hres.free 1;have glt:=hres.lt;clear hres;go_wp2_with fail;refine bodyPost_ret (v:=.agg #[.int .i64 e.q.sp,.int .i64 e.q.sl]) (by simp [results,results235,go_sem,g0,g1]) rfl ⟨⟨_,rfl⟩,HZ.out _ _⟩
theorem Z2H {w:World} {q:FO} (h:Sep w q.hl) (ok:q.Ok) {e:En Nd} (he:find q.N e.id=some e) (hp:find q.N e.q.par=none) :
  Calls prog 235 #[.pointer (some ⟨q.f,0,none⟩),.int .i64 e.id] w fun r w'=>(∃v,r=.returned v)/\Z8b q e w w':=by
 have hb:=Q2Q w e.id;have hbi:=(Cells.new w 3 [.int .i64 e.id]).alloc (.cells #[.int .i64 0,.int .i64 0] 46);have b0:=hbi.cell 0 _ rfl;have hsb:=(h.grown hb).sep;have c0:=FO.c0 hsb;have hl:=FO.look_some hsb he;have c0d:(Q0C w e.id).drew.cell? ⟨q.f,0,none⟩=some (.map (some q.m)):=c0;have b0d:(Q0C w e.id).drew.cell? ⟨w.heap.size,0,none⟩=some (.int .i64 e.id):=b0;have hld:=FO.look_some hsb.drew he;have kat:=Q4G hsb.drew hp;have k2:=(FO.nd0 hsb.drew he).2.2.1;have hbr:Cells (Q0C w e.id) (w.heap.size+1) 46 [.int .i64 0,.int .i64 0]:=by
  have:=Cells.new (w.alloc (.cells #[.int .i64 e.id] 3)) 46 [.int .i64 0,.int .i64 0];rw [show (w.alloc (.cells #[.int .i64 e.id] 3)).heap.size=w.heap.size+1 by simp] at this;exact this
 have hno:∀c∈q.N,c.id≠e.q.par:=fun c hc hx=>by
  have:=Q0j ok.n.ids hc;rw [hx,hp] at this;cases this
 have e1:q.cut e.id=q.dropped e:=by
  unfold FO.cut FO.dropped;rw [Z5I hno]
 have hE:Z9W q q e w (Q0C w e.id).drew:=Q9b h ok ((Below.refl _ _).drew) ((h.grown hb).drew) he ok.n.ids ok.n.spots (fun c hc=>ok.n.sm c hc) e1 rfl rfl rfl rfl b0d hbr (fun _ h=>h);obtain⟨c0e,c1e,b0e,w5,r5,⟨c15,e05,e15⟩,w7,r7,⟨e07,e17⟩,hres,hz⟩:=hE;have HZ:=Q0a hz;have c0e':(Q0C w e.id).drew.drew.cell? ⟨q.f,0,none⟩=some (.map (some q.m)):=c0e;have b0e':(Q0C w e.id).drew.drew.cell? ⟨w.heap.size,0,none⟩=some (.int .i64 e.id):=b0e;have c15':w5.drew.cell? ⟨q.f,1,none⟩=some (.map (some q.o)):=c15;have e05':w5.drew.cell? ⟨e.b,0,none⟩=some (.int .i64 e.q.sp):=e05;have e15':w5.drew.cell? ⟨e.b,1,none⟩=some (.int .i64 e.q.sl):=e15
 have g0:=hres.cell 0 _ rfl;have g1:=hres.cell 1 _ rfl;have gf0:=hres.free 0;have gf1:=hres.free 1;have glt:=hres.lt;clear h ok he hp hb hsb hbi hbr hno e1 hz hres;unfold Q0C at *
 go_enter func235,ntmps235;go_wp2_with fail;go_region;go_wp2_with fail;refine kat.mono ?_;rintro r w' ⟨rfl,rfl⟩;clear kat hl hld c0 b0 k2;go_wp2_with fail;go_region;go_wp2_with fail;go_region;go_wp2_with fail;refine bodyPost_ret (v:=.agg #[.int .i64 e.q.sp,.int .i64 e.q.sl]) (by simp [results,results235,go_sem,g0,g1]) rfl ⟨⟨_,rfl⟩,HZ.out _ _⟩
theorem Z5Q {w:World} {q:FO} (h:Sep w q.hl) (ok:q.Ok) {e:En Nd} (he:find q.N e.id=some e) :
  Calls prog 235 #[.pointer (some ⟨q.f,0,none⟩),.int .i64 e.id] w fun r w'=>(∃v,r=.returned v)/\Z8b q e w w':=by
 cases hp:find q.N e.q.par with
 | none=>exact Z2H h ok he hp
 | some p=>exact Z5P h ok he hp
def J0P (q:FO) (e:En Nd) (w w':World):Prop:=∃F':FO,F'.f=q.f/\F'.N=Q0B q.N e e.q.ks.length/\F'.next=q.next/\F'.Ok/\Step q.hl F'.hl w w'
theorem Z5R {w w':World} {q F:FO} {e:En Nd} (ok:q.Ok) (he:find q.N e.id=some e) (L:Z2F q e e.q.ks.length F) (st:Step q.hl (F.hl++ndH q.kr e) w w'):J0P q e w w':=by
 refine⟨F,L.f,L.N,L.next,⟨by rw [L.N,L.next];exact ok.n.lift he,by rw [L.next];exact ok.lim,L.rv,?_⟩,st.drop (J2m _ _)⟩;rw [L.N];unfold Q0B mapE;rw [J3g];exact J1y (Q1y q.N e.id).length_le ok.few
theorem Z2I {q:FO} (ok:q.Ok) (e:En Nd):Z2F q e 0 (q.dropped e):=⟨rfl,rfl,rfl,rfl,rfl,fun c hc=>by
 obtain⟨d,hd,rfl⟩:=Q1q (show c∈mapE _ (rem q.N e.id) from hc);have h0:=ok.rv d (Q7B hd);show rvOk (q.kr d.id) (Q0t e 0 d).ks.length;have hle:(Q0t e 0 d).ks.length<=d.q.ks.length:=by
  unfold Q0t;simp only [J4W,J3D];split
  ·exact J3M _ _
  ·exact J1x _
 cases hk:q.kr d.id with
 | none =>
  rw [hk] at h0;have h0':d.q.ks.length=0:=h0;show (Q0t e 0 d).ks.length=0;omega
 | some gc =>
  rw [hk] at h0;obtain⟨g,cap⟩:=gc;have h0':d.q.ks.length<=cap/\cap<=maxLen:=h0;exact⟨by omega,h0'.2⟩⟩
theorem Q9c {w:World} {q:FO} (h:Sep w q.hl) (ok:q.Ok) {e:En Nd} (he:find q.N e.id=some e) :
  Calls prog 166 #[.pointer (some ⟨q.f,0,none⟩),.int .i64 e.id] w fun r w'=>(∃v,r=.returned v)/\J0P q e w w':=by
 have ka:=Q2O h he;obtain⟨hem,_⟩:=Q0b he;have kd:=Z5Q h ok he;have hkl:=ok.n.kids_few hem;have hfew:=ok.few;have HD:=Q0a kd;have HOk:=Q0a ok;have HE:=Q0a he;have hlen:e.q.ks.length<=65536:=by omega
 clear kd h ok he hem;go_enter func166,ntmps166;go_wp2_with fail;refine ka.mono ?_;rintro r w1 ⟨rfl,rfl⟩;go_wp2_with fail;refine HD.out.mono ?_;rintro r w1 ⟨⟨v,rfl⟩,st⟩;have hcells:Cells w1 e.b 287 (e.q.cells (q.kr e.id)):=st.sep.right.cells (by simp [ndH]);have c3:=hcells.cell 3 _ rfl;have HSt:=Q0a st;have HSize:=Q0a (rfl:e.q.ks.length=e.q.ks.length);have hshape:∃(a:Option Addr) (cap:Nat),lvOf (q.kr e.id) e.q.ks.length=.slice a e.q.ks.length cap/\(∀g c,q.kr e.id=some (g,c)->a=some ⟨g,0,none⟩)/\(q.kr e.id=none->e.q.ks.length=0):=by
  have hrv:=HOk.out.rv e (Q0b HE.out).1;cases hkr:q.kr e.id with
  | none =>
   rw [hkr] at hrv;have hrv':e.q.ks.length=0:=hrv;exact⟨none,0,by rw [hrv'];rfl,fun _ _ h=>by (cases h),fun _=>hrv'⟩
  | some gc=>exact⟨some ⟨gc.1,0,none⟩,gc.2,rfl,fun g c h=>by cases h;rfl,fun h=>by cases h⟩
 obtain⟨a0,cap,hsh,hsome,hnone⟩:=hshape;rw [hsh] at c3;have HSome:=Q0a hsome;have HNone:=Q0a hnone;have HLen:=Q0a hlen;clear st ka HD hcells hsh hsome hnone hkl hfew;go_wp2_with fail
 go_loopg [26] e.q.ks.length (fun gk iv wr=>∃(j:Nat) (F:FO),iv=.int .i64 j/\j+gk=e.q.ks.length/\Z2F q e j F/\Step q.hl (F.hl++ndH q.kr e) w wr)
 case atStart=>exact⟨0,q.dropped e,rfl,by omega,Z2I HOk.out e,HSt.out⟩
 case round =>
  obtain⟨j,F,rfl,hjg,hL,st⟩:=hrel;have HL:=Q0a hL;have HJg:=Q0a hjg;have HS:=Q0a st;by_cases hj:j<e.q.ks.length
  ·obtain⟨k,hk⟩:∃k,e.q.ks[j]?=some k:=⟨e.q.ks[j],J3O hj⟩
   have hrow:∃g,a0=some ⟨g,0,none⟩/\wr.cell? ⟨g,j,none⟩=some (.int .i64 k):=by
    cases hkr:q.kr e.id with
    | none=>have:=HNone.out hkr;omega
    | some gc =>
     have hr:=st.sep.right.tail;rw [hkr] at hr;exact⟨gc.1,HSome.out gc.1 gc.2 hkr,Q0X hr j _ (by rw [J3i,hk];rfl)⟩
   obtain⟨g,rfl,hck⟩:=hrow;obtain⟨c,hfc,⟨f0,e2,hfr,v,hcv⟩,hlk,ee2,hrest⟩:=Q7k HOk.out HE.out hL st.sep hk;obtain⟨c',hfc',⟨f0',e2',hfr',v',hcv'⟩,hlk',ee2',-⟩:=Q7k HOk.out HE.out hL st.sep.drew hk;rw [hfc] at hfc';obtain rfl:c=c':=J2u hfc';have hff:F.f=q.f:=hL.f;rw [hff] at f0 f0';have hW:=hrest _ (Below.refl _ _).drew;rw [hff] at hW;have ee2d:(wr.setCell ⟨c.b,2,none⟩ (.int .i64 e.q.par)).drew.cell? ⟨e.b,2,none⟩=some (.int .i64 e.q.par):=ee2;by_cases hpar:find q.N e.q.par=none
   ·obtain⟨kat,F',L',st'⟩:=hW.1 hpar;have HL':=Q0a L';have HS':=Q0a (st.trans st');have hji:(j:Int)<(e.q.ks.length:Int):=by omega
    have hj0:(0:Int)<=(j:Int):=by omega
    have hjb:(j:Int)<65536:=by have:=HLen.out;omega
    generalize e.q.ks.length=n at *
    clear hrest hW hfc hfc' L' st' hL st hk hjg hlen HNone;go_wp2_with fail;go_region;go_wp2_with fail;refine kat.mono ?_;rintro r w' ⟨rfl,rfl⟩;go_wp2_with fail;go_roundg (n-(j+1))
    case measure=>have:=HJg.out;omega
    case rel=>exact⟨j+1,F',by go_num,by have:=HJg.out;omega,HL'.out,HS'.out⟩
   ·obtain⟨pb,V,kat,cpb,⟨ua,un,uc,rfl⟩,V',w',rap,⟨va,vn,vc,rfl⟩,cp2,pfr,F',L',st'⟩:=hW.2 hpar;have HL':=Q0a L';have HS':=Q0a (st.trans st');have hji:(j:Int)<(e.q.ks.length:Int):=by omega
    have hj0:(0:Int)<=(j:Int):=by omega
    have hjb:(j:Int)<65536:=by have:=HLen.out;omega
    have cpa:((wr.setCell ⟨c.b,2,none⟩ (.int .i64 e.q.par)).drew.alloc (.cells #[.int .i64 k] 3)).cell? ⟨pb,3,none⟩=some (.slice ua un uc):=(World.cell?_of_block (Below.heap_alloc _ _ _ (World.block_lt_of_cell? _ ⟨pb,3,none⟩ cpb))).trans cpb;have pf3:=pfr 3;generalize e.q.ks.length=n at *
    clear hrest hW hfc hfc' L' st' hL st hk hjg hlen HNone pfr;go_wp2_with fail;go_region;go_wp2_with fail;refine kat.mono ?_;rintro r w' ⟨rfl,rfl⟩;generalize hW0:(wr.setCell ⟨c.b,2,none⟩ (.int .i64 e.q.par)).drew=W0 at *
    clear f0 e2 hfr hcv hlk ee2 f0' e2' hfr' hcv' hlk' ee2' ee2d hck kat hW0;go_wp2_with (at_builtin;refine Lib.wpList_append_run _ rfl _ _ _ _ rfl _ _ rfl rfl _ _ rap ?_);go_roundg (n-(j+1))
    case measure=>have:=HJg.out;omega
    case rel=>exact⟨j+1,F',by go_num,by have:=HJg.out;omega,HL'.out,HS'.out⟩
  ·obtain rfl:j=e.q.ks.length:=by omega
   have HR:=Q0a (Z5R HOk.out HE.out hL st);generalize e.q.ks.length=n at *
   clear hL st hlen;go_wp2_with fail
   first|exact⟨⟨_,rfl⟩,HR.out⟩|(go_ret;exact⟨⟨_,rfl⟩,HR.out⟩)
theorem Z2J (a b:Nat) (ha:a<16) (hb:b<16):bits .andNot .i64 (a:Int) (b:Int)=((less a b:Nat):Int):=by
 have:∀a b:Fin 16,bits .andNot .i64 ((a.val:Nat):Int) ((b.val:Nat):Int)=((less a.val b.val:Nat):Int):=by decide +kernel
 exact this ⟨a,ha⟩ ⟨b,hb⟩
theorem Q6o (a b:Nat) (ha:a<16) (hb:b<16):bits .and .i64 (a:Int) (b:Int)=((a&&&b:Nat):Int):=by
 have:∀a b:Fin 16,bits .and .i64 ((a.val:Nat):Int) ((b.val:Nat):Int)=((a.val&&&b.val:Nat):Int):=by decide +kernel
 exact this ⟨a,ha⟩ ⟨b,hb⟩
theorem Q7l {S:CO} {fr:List Nat} {N K:Nat} {tb:Nat->TB} (ok:S.Ok fr N K) (t:TPI S tb) {i s:Nat} {p:Pl} (hi:S.l[i]?=some p) (h1:p.st=1) (h2:p.kind=2) (hs:s<256) {e e2:Ent} (he:(tb i).en s=some e) (hn:e2.nd=e.nd) (hl:e2.Low) {w:World} {g:Nat} (hsep:Sep w S.hl) (hg:TblC S p g w) :
  Calls prog 104 #[.pointer (some ⟨g,0,none⟩),.int .i64 s,.int .u64 (e2.a:Nat),.int .u64 (e2.nd:Nat)] w fun r w'=>r=.returned (.int .i64 0)/\J0M S fr N K tb (p.fac:Int) i s (some e2) w w':=by
 have tx:=t.x (p.fac:Int);have hi256:=Q1o ok.inv.len hi;have T:=tx.tt ok hi h1 h2 hsep hg;have hlf:(tb i).lf (s/16)≠0:=fun h=>by
  have:=T.tin.hole s hs h;rw [he] at this;cases this
 have hnu:e2.nd∈S.P.usedOf 6:=t.nds.mem_iff.1 (J1X.2 ⟨i,J1N.2 hi256,mem_nds.2 ⟨s,e,hs,he,hn.symm⟩⟩);have hm:=Q0m ok.inv.mem.pool hnu;have hbm:=Q0p ok.inv.mem.pool;obtain⟨l1,l2⟩:=hl;refine (Z1y ok tx hi h1 h2 rfl hs (xn':=[]) (by rw [TB.nds_same hs he hn]) (by show e2.h+1+4294967296*e2.r<_;omega) (by show e2.nd<_;omega) hsep hg).mono ?_;rintro r w' (⟨rfl,hp⟩|⟨h0,_⟩)
 ·exact⟨rfl,hp.turn t.full⟩
 ·exact absurd h0 hlf
def Z0l (Z:SP) (fr:List Nat) (N K:Nat) (M:Int) (m:Nat) (id:Int) (w:World) (b:Bool) (w':World):Prop:=∃Z',Z'.Ok fr N K M/\weak1 m Z.av id=(Z'.av,b)/\SameZ Z Z'/\Step Z.hl Z'.hl w w'
theorem FPI.low {l:List Pl} {tb:Nat->TB} {N:List (En Nd)} (f:FPI l tb N) (lok:LOk l) {h s:Nat} {e:Ent} (he:Q0f l tb h s=some e):e.Low:=by
 obtain⟨⟨q,hq,_⟩,hr⟩:=f.cap h s e he;have h1:=pget_some.1 hq;have h2:=lok.2 q (Q0y hq);refine⟨?_,by omega⟩;have:nm (e.h%256) q=e.h:=h1.2.1;unfold nm at this;omega
theorem Q9d {w:World} {Z:SP} {fr:List Nat} {N K:Nat} {M:Int} (hs:Sep w Z.hl) (ok:Z.Ok fr N K M) {id:Int} (hf:find Z.F.N id=none) (m:Nat) :
  Calls prog 168 #[.pointer (some ⟨Z.s,0,none⟩),.int .i64 id,.int .i64 m] w fun r w'=>r=.returned (.bool false)/\Z0l Z fr N K M m id w false w':=by
 have c1:=SP.c1 hs;have ko:=Q6i (SP.sF hs) hf;obtain⟨p0,hp0,hk0,_,hs0,ha0,_⟩:=ok.core.inv.que.root;have hroot:pget Z.S.l 1 0=some p0:=pget_some.2 ⟨hp0,by unfold nm;omega,hs0⟩;have ks:=Q0I hs ok.core (x:=0) (by omega) 10 (.inr ⟨p0,hroot,by omega,rfl⟩);have HR:Hid (∀w',Below w.heap.size w w'->Z0l Z fr N K M m id w false w'):=fun w' hb=>⟨Z,ok,by unfold weak1;rw [show Z.av.N=Z.F.N from rfl,hf],SameZ.refl Z,hs.grown hb⟩
 clear hs ok hf hroot hp0;go_enter func168,ntmps168;go_wp2_with fail;refine ko.mono ?_;rintro r w1 ⟨rfl,rfl⟩;go_wp2_with fail;refine ks.mono ?_;rintro r w1 ⟨rfl,hb⟩;have HQ:=Q0a (HR.out _ (hb.alloc hb.size (.cells #[.pointer none,.int .u32 0,.int .i64 0] 155)));clear hb HR ks ko;go_wp2_with fail
 first|exact⟨rfl,HQ.out⟩|(go_ret;exact⟨rfl,HQ.out⟩)
structure J1o (Z:SP) (fr:List Nat) (N K:Nat) (M:Int) (m:Nat) (id:Int) (h s g:Nat) (p:Pl) (e:Ent) (w w2:World):Prop where
 go:∀w3,Below w2.heap.size w2 w3->w3.cell? ⟨Z.s,1,none⟩=some (.pointer (some ⟨Z.F.f,0,none⟩)) /\
  Calls prog 74 #[.agg #[.pointer (some ⟨g,0,none⟩),.int .u32 h,.int .i64 (p.fac:Int)],.int .i64 s] w3 (Told w3 (.tuple #[.agg #[.int .u32 (e.h:Int),.int .i64 (e.r:Int)],.bool true])) /\
  Calls prog 103 #[.pointer (some ⟨g,0,none⟩),.int .i64 s] w3 (fun r w'=>r=.returned (.tuple #[.int .u64 (e.a:Nat),.int .u64 (e.nd:Nat)])/\w3=w')
 lift:less e.r m=0->∀w3,Below w2.heap.size w2 w3->Calls prog 166 #[.pointer (some ⟨Z.F.f,0,none⟩),.int .i64 id] w3 fun r w4=>(∃v,r=.returned v)/\(∀b,w2.heap.size<=b->b<w3.heap.size->w4.heap[b]?=w3.heap[b]?)/\w3.heap.size<=w4.heap.size /\
  Calls prog 81 #[.pointer (some ⟨Z.s,0,none⟩),.agg #[.pointer (some ⟨g,0,none⟩),.int .u32 h,.int .i64 (p.fac:Int)],.int .i64 s] w4 fun r w5=>r=.returned (.tuple #[])/\Z0l Z fr N K M m id w true w5
 set:less e.r m≠0->∀w3,Below w2.heap.size w2 w3->Calls prog 104 #[.pointer (some ⟨g,0,none⟩),.int .i64 s,.int .u64 ((⟨e.h,less e.r m,0⟩:Ent).a:Nat),.int .u64 (e.nd:Nat)] w3 fun r w4=>r=.returned (.int .i64 0)/\(∀b,w2.heap.size<=b->b<w3.heap.size->w4.heap[b]?=w3.heap[b]?)/\Z0l Z fr N K M m id w false w4
theorem Step.keep {H H':HL} {w w1 w':World} {B:Nat} (st:Step H H' w1 w') (hs:Sep w H) (hB:w.heap.size<=B):∀b,B<=b->b<w1.heap.size->w'.heap[b]?=w1.heap[b]?:=fun b h1 h2=>st.chg.block b h2 fun hk=>by
 have:=hs.lt hk;omega
theorem Z2K {w w1:World} {Z:SP} {fr:List Nat} {N K:Nat} {M:Int} (hs:Sep w Z.hl) (hb:Below w.heap.size w w1) (ok:Z.Ok fr N K M) {id:Int} {n:En Nd} (hf:find Z.F.N id=some n) {m:Nat} (hm:m<16) (hd:m=15∨Q3D m Z.av [] id)
  {h s:Nat} {p:Pl} {e:Ent} (h1:n.q.sp=(h:Int)) (h2:n.q.sl=(s:Int)) (hh:h<4294967296) (hs2:s<256) (hp:pget Z.S.l 1 h=some p) (hk:p.kind=2) (hen:(Z.tb (h%256)).en s=some e) (he:Q0f Z.S.l Z.tb h s=some e) :
  Calls prog 73 #[.pointer (some ⟨Z.s,0,none⟩),.int .u32 h] w1 fun r w2=>∃g:Nat,r=.returned (.tuple #[.agg #[.pointer (some ⟨g,0,none⟩),.int .u32 h,.int .i64 (p.fac:Int)],.int .i64 0])/\J1o Z fr N K M m id h s g p e w w2:=by
 have s1:=(hs.grown hb).sep;have hi:=(pget_some.1 hp).1;have hst:=(pget_some.1 hp).2.2;have hlow:=ok.fpi.low ok.core.inv.lok he;have hr:=(ok.fpi.cap h s e he).r;refine (Q0T s1 ok.core hh hp hk).mono ?_;rintro r w2 ⟨g,rfl,hb2,hg⟩;have hb12:Below w.heap.size w w2:=hb.trans (hb2.mono hb.size);have grow:∀w3,Below w2.heap.size w2 w3->Below w.heap.size w w3/\Sep w3 Z.hl/\TblZ Z p g w3:=fun w3 hb3=>by
  have hb':Below w.heap.size w w3:=hb12.trans (hb3.mono hb12.size);exact⟨hb',(hs.grown hb').sep,hg.grown (hs.grown hb12).sep hb3⟩
 have hat:(Z.tb (h%256)).at' (s:Int)=some e:=by unfold TB.at';rw [if_pos ⟨by omega,by omega⟩,J2C,hen]
 refine⟨g,rfl,fun w3 hb3=>?_,fun h0 w3 hb3=>?_,fun h0 w3 hb3=>?_⟩
 ·obtain⟨hb',s3,g3⟩:=grow w3 hb3;have T:=(ok.tpi.x (p.fac:Int)).tt ok.core hi hst hk (SP.sS s3) g3.c;have kc:=Q1t T (h:Int) (p.fac:Int) (s:Int) (fun e' he'=>by rw [hat] at he';cases he';exact hlow);have kg:=Q3F T (s:Int);rw [hat] at kc kg;exact⟨SP.c1 s3,kc,kg⟩
 ·obtain⟨hb',s3,g3⟩:=grow w3 hb3;obtain⟨hn,hid⟩:=Q0b hf;have kl:=Q9c (SP.sF s3) ok.fo (e:=n) (by rw [hid];exact hf);rw [hid] at kl;refine kl.mono ?_;rintro r w4 ⟨hv,F',hFf,hFN,hFn,hFok,st⟩;have stz:=SP.stepF s3 F' hFf st;have g4:TblZ (Z.setF F') p g w4:=g3.step stz rfl;refine⟨hv,stz.keep hs hb12.size,stz.chg.size,?_⟩;refine (Q4I (Z:=Z.setF F') stz.sep ok.core ok.tpi hi hst hk hs2 hen g4).mono ?_;rintro r w5 ⟨rfl,S',t',T,stt⟩;obtain⟨a1,a2,a3⟩:=ok.lifted hf h1 h2 hp hk hs2 he h0 T hFN hFok hFn hFf;exact⟨rfl,_,a1,a2,a3,((hs.grown hb').trans stz).trans stt⟩
 ·obtain⟨hb',s3,g3⟩:=grow w3 hb3;have hd':Q3D m Z.av [] id:=by
   rcases hd with rfl|hd
   ·exact absurd (Q4A e.r (by omega)) h0
   ·exact hd
  refine (Q7l (e2:=⟨e.h,less e.r m,e.nd⟩) ok.core ok.tpi hi hst hk hs2 hen rfl ⟨hlow.1,by have:=(Q5z e.r (by omega) m hm).2.2;show less e.r m<16;omega⟩ (SP.sS s3) g3.c).mono ?_;rintro r w4 ⟨rfl,S',t',T,stt⟩;have stz:=SP.stepS s3 S' (updT Z.tb (h%256) t') T.alt.c stt;obtain⟨a1,a2,a3⟩:=ok.weakened hf h1 h2 hp hk hs2 he hm h0 hd' T;exact⟨rfl,stz.keep hs hb12.size,_,a1,a2,a3,(hs.grown hb').trans stz⟩
theorem Q9e {w:World} {Z:SP} {fr:List Nat} {N K:Nat} {M:Int} (hs:Sep w Z.hl) (ok:Z.Ok fr N K M) {id:Int} {n:En Nd} (hf:find Z.F.N id=some n) (m:Nat) (hm1:1<=m) (hm:m<16) (hd:m=15∨Q3D m Z.av [] id) :
  Calls prog 168 #[.pointer (some ⟨Z.s,0,none⟩),.int .i64 id,.int .i64 m] w fun r w'=>∃b:Bool,r=.returned (.bool b)/\Z0l Z fr N K M m id w b w':=by
 obtain⟨hn,hid⟩:=Q0b hf;obtain⟨h,s,p,e,h1,h2,hh,hs2,hp,hk,hen,he⟩:=ok.fpi.task ok.fo.n hn;have hlow:=ok.fpi.low ok.core.inv.lok he;have hr:=(ok.fpi.cap h s e he).r;have c1:=SP.c1 hs;have ko:=Q6j (SP.sF hs) hf;rw [h1,h2] at ko;have han:=Z2J e.r m (by omega) hm;have HPk:Hid (∀w,Calls prog 105 #[.agg #[.int .u32 (e.h:Int),.int .i64 ((less e.r m:Nat):Int)]] w (Told w (.int .u64 ((⟨e.h,less e.r m,0⟩:Ent).a:Nat)))):=fun w=>Q6l w e.h (less e.r m) hlow.1 (by have:=(Q5z e.r (by omega) m hm).2.2;omega)
 have HC:Hid (∀w1,Below w.heap.size w w1->_):=fun w1 hb=>Z2K hs hb ok hf hm hd h1 h2 hh hs2 hp hk hen he
 have hhi:(h:Int)<4294967296:=by omega
 have hh0:(0:Int)<=(h:Int):=by omega
 clear hs ok hf hd h1 h2 hh hp hk hen he hn hid hlow hr hm1 hm;by_cases h0:less e.r m=0
 ·rw [h0] at han;have HZ0:=Q0a h0;clear h0 HPk;have han0:bits .andNot .i64 (e.r:Int) (m:Int)=0:=han;clear han;go_enter func168,ntmps168;go_wp2_with fail;refine ko.mono ?_;rintro r w1 ⟨rfl,hb1⟩;have HS:=Q0a (HC.out w1 hb1);clear hb1 HC ko;go_wp2_with fail;refine HS.out.mono ?_;rintro r w2 ⟨g,rfl,hc⟩;have hgo:=hc.go _ ((Below.refl _ _).alloc (J1x _) (.cells #[.pointer (some ⟨g,0,none⟩),.int .u32 h,.int .i64 (p.fac:Int)] 155));have kcap:=hgo.2.1;have HCc:=Q0a hc;clear hc HS hgo;have hB:=Cells.new w2 155 [.pointer (some ⟨g,0,none⟩),.int .u32 h,.int .i64 (p.fac:Int)];go_wp2_with fail;refine kcap.mono ?_
  rintro r w3 ⟨rfl,hb3⟩;have hb3':Below w2.heap.size w2 w3:=Q0e hb3;have hB3:=hB.same (hb3.block w2.heap.size (by simp));have hb4:Below w2.heap.size w2 (w3.alloc (.cells #[.int .u32 (e.h:Int),.int .i64 0] 35)):=hb3'.alloc hb3'.size _;have d1:=(HCc.out.go _ hb4).1;have klift:=HCc.out.lift HZ0.out _ hb4;have hB4:=hB3.alloc (.cells #[.int .u32 (e.h:Int),.int .i64 0] 35);have HKeep:Hid (∀w5:World,(∀b,w2.heap.size<=b->b<(w3.alloc (.cells #[.int .u32 (e.h:Int),.int .i64 0] 35)).heap.size->w5.heap[b]?=(w3.alloc (.cells #[.int .u32 (e.h:Int),.int .i64 0] 35)).heap[b]?)->Cells w5 w2.heap.size 155 [.pointer (some ⟨g,0,none⟩),.int .u32 h,.int .i64 (p.fac:Int)]):=fun w5 hk=>hB4.same (hk _ (J1x _) hB4.lt)
  have HLift:=Q0a klift;clear hb3 hb3' hB kcap hB3 hB4 hb4 klift HZ0 HCc;go_wp2_with fail;refine HLift.out.mono ?_;rintro r w5 ⟨⟨v,rfl⟩,hkeep,hsz,hbare⟩;have hB5:=HKeep.out w5 hkeep;have b0:=hB5.cell 0 _ rfl;have b1:=hB5.cell 1 _ rfl;have b2:=hB5.cell 2 _ rfl;have HBare:=Q0a hbare;clear hkeep hsz hbare HLift HKeep hB5;go_wp2_with fail;refine HBare.out.mono ?_;rintro r w6 ⟨rfl,hq⟩;have HQ:=Q0a hq;clear hq HBare;go_wp2_with fail
  first|exact⟨true,rfl,HQ.out⟩|(go_ret;exact⟨true,rfl,HQ.out⟩)
 ·have hnz:(((less e.r m:Nat):Int)==0)=false:=by simpa using h0
  have HZ0:=Q0a h0;have hne:∃lr,lr=less e.r m:=⟨_,rfl⟩
  obtain⟨lr,hl⟩:=hne;rw [<- hl] at han hnz HPk;have HLr:=Q0a hl;have hnz2:(lr:Int)≠0:=by
   rw [hl]
   simpa using h0
  have hnb2:((lr:Int) != 0)=true:=by simpa using hnz2
  generalize (lr:Int)=lz at *
  clear h0 hl;go_enter func168,ntmps168;go_wp2_with fail;refine ko.mono ?_;rintro r w1 ⟨rfl,hb1⟩;have HS:=Q0a (HC.out w1 hb1);clear hb1 HC ko;go_wp2_with fail;refine HS.out.mono ?_;rintro r w2 ⟨g,rfl,hc⟩;have hgo:=hc.go _ ((Below.refl _ _).alloc (J1x _) (.cells #[.pointer (some ⟨g,0,none⟩),.int .u32 h,.int .i64 (p.fac:Int)] 155));have kcap:=hgo.2.1;have HCc:=Q0a hc;clear hc HS hgo;have hB:=Cells.new w2 155 [.pointer (some ⟨g,0,none⟩),.int .u32 h,.int .i64 (p.fac:Int)];go_wp2_with fail;refine kcap.mono ?_;rintro r w3 ⟨rfl,hb3⟩;have hb3':Below w2.heap.size w2 w3:=Q0e hb3;have hB3:=hB.same (hb3.block w2.heap.size (by simp))
  have hb4:Below w2.heap.size w2 (w3.alloc (.cells #[.int .u32 (e.h:Int),.int .i64 lz] 35)):=hb3'.alloc hb3'.size _;have kget:=(HCc.out.go _ hb4).2.2;have hB4:=hB3.alloc (.cells #[.int .u32 (e.h:Int),.int .i64 lz] 35);have hC4:=Cells.new w3 35 [.int .u32 (e.h:Int),.int .i64 lz];have s0:=hB4.cell 0 _ rfl;have q0:=hC4.cell 0 _ rfl;have q1:=hC4.cell 1 _ rfl;have HHeld:Hid (∀w5,Below (w3.alloc (.cells #[.int .u32 (e.h:Int),.int .i64 lz] 35)).heap.size (w3.alloc (.cells #[.int .u32 (e.h:Int),.int .i64 lz] 35)) w5->Below w2.heap.size w2 w5/\w5.cell? ⟨w2.heap.size,0,none⟩=some (.pointer (some ⟨g,0,none⟩))/\w5.cell? ⟨w3.heap.size,0,none⟩=some (.int .u32 (e.h:Int))/\w5.cell? ⟨w3.heap.size,1,none⟩=some (.int .i64 lz)):=fun w5 hb5=>⟨hb4.trans (hb5.mono hb4.size),(hB4.same (hb5.block _ hB4.lt)).cell 0 _ rfl,(hC4.same (hb5.block _ hC4.lt)).cell 0 _ rfl,(hC4.same (hb5.block _ hC4.lt)).cell 1 _ rfl⟩
  have HKeep:Hid (∀(w5 w6:World),Below (w3.alloc (.cells #[.int .u32 (e.h:Int),.int .i64 lz] 35)).heap.size (w3.alloc (.cells #[.int .u32 (e.h:Int),.int .i64 lz] 35)) w5->(∀b,w2.heap.size<=b->b<w5.heap.size->w6.heap[b]?=w5.heap[b]?)->w6.cell? ⟨w2.heap.size,0,none⟩=some (.pointer (some ⟨g,0,none⟩))/\w6.cell? ⟨w3.heap.size,0,none⟩=some (.int .u32 (e.h:Int))/\w6.cell? ⟨w3.heap.size,1,none⟩=some (.int .i64 lz)):=fun w5 w6 hb5 hk=>by
   have hB5:=hB4.same (hb5.block _ hB4.lt);have hC5:=hC4.same (hb5.block _ hC4.lt);have l3:w2.heap.size<=w3.heap.size:=hb3'.size;exact⟨(hB5.same (hk _ (J1x _) hB5.lt)).cell 0 _ rfl,(hC5.same (hk _ l3 hC5.lt)).cell 0 _ rfl,(hC5.same (hk _ l3 hC5.lt)).cell 1 _ rfl⟩
  clear hb3 hb3' hB kcap hB3 hB4 hC4 hb4;generalize e.a=ea at *
  go_wp2_with fail;refine kget.mono ?_;rintro r w4 ⟨rfl,rfl⟩;have hh5:=HHeld.out _ ((Below.refl _ _).drew);obtain⟨bb5,x1,x2,x3⟩:=hh5;have HBB:=Q0a bb5;have kset:=HCc.out.set HZ0.out;rw [<- HLr.out] at kset;have HSet:=Q0a kset;clear bb5 kset kget HCc HZ0 HLr;go_wp2_with fail
  go_region_held3 (fun w'=>w'.cell? ⟨w2.heap.size,0,none⟩=some (.pointer (some ⟨g,0,none⟩))/\w'.cell? ⟨w3.heap.size,0,none⟩=some (.int .u32 (e.h:Int))/\w'.cell? ⟨w3.heap.size,1,none⟩=some (.int .i64 lz)) (first|exact⟨s0,q0,q1⟩|exact⟨x1,x2,x3⟩|exact hh5.2|exact hh6)
   (first|(go_at_call 105;refine (HPk.out _).mono ?_;rintro r w5 ⟨rfl,hb5⟩;have hbw:=((Below.refl (w3.alloc (.cells #[.int .u32 (e.h:Int),.int .i64 lz] 35)).heap.size _).drew).trans hb5;have hh5:=HHeld.out w5 hbw;have HBw:=Q0a hbw;clear hbw hb5 HPk)|(go_at_call 104;refine (HSet.out _ hh5.1).mono ?_;rintro r w6 ⟨rfl,hkeep,hq⟩;have hh6:=HKeep.out _ w6 HBw.out hkeep;have HQ:=Q0a hq;clear hq hkeep HSet))
  go_wp2_with fail
  first|exact⟨false,rfl,HQ.out⟩|(go_ret;exact⟨false,rfl,HQ.out⟩)
theorem Z0m {w:World} {Z:SP} {fr:List Nat} {N K:Nat} {M:Int} (hs:Sep w Z.hl) (ok:Z.Ok fr N K M) (id:Int) (m:Nat) (hm1:1<=m) (hm:m<16) (hd:m=15∨Q3D m Z.av [] id) :
  Calls prog 168 #[.pointer (some ⟨Z.s,0,none⟩),.int .i64 id,.int .i64 m] w fun r w'=>∃b:Bool,r=.returned (.bool b)/\Z0l Z fr N K M m id w b w':=by
 cases hf:find Z.F.N id with
 | none=>exact (Q9d hs ok hf m).mono fun r w' ⟨h1,h2⟩=>⟨false,h1,h2⟩
 | some n=>exact Q9e hs ok hf m hm1 hm hd
def Q7V (Z:SP) (fr:List Nat) (N K:Nat) (M:Int) (m:Nat) (l:List Int) (w w':World):Prop:=∃Z',Z'.Ok fr N K M/\Z'.av=(Q0M m Z.av l).1/\SameZ Z Z'/\Step Z.hl Z'.hl w w'
structure WaI (Z:SP) (fr:List Nat) (N K:Nat) (M:Int) (m:Nat) (l:List Int) (a:Option Addr) (w:World) (k:Nat) (Z1:SP) (wr:World):Prop where
 ok:Z1.Ok fr N K M
 av:Z1.av=(Q0M m Z.av (l.take k)).1
 same:SameZ Z Z1
 st:Step Z.hl Z1.hl w wr
 row:AsideV Z1.hl (l.map encI) a wr
 wk:WeakOk m Z1.av (l.drop k)
theorem WaI.next {Z Z1:SP} {fr:List Nat} {N K:Nat} {M:Int} {m:Nat} {l:List Int} {a:Option Addr} {w wr w':World} {k:Nat} {x:Int} {b:Bool} (I:WaI Z fr N K M m l a w k Z1 wr) (hx:l[k]?=some x) (hm:m<16) (h:Z0l Z1 fr N K M m x wr b w') :
  (Q0M m Z.av (l.take (k+1))).2=(Q0M m Z.av (l.take k)).2+(if b=true then 1 else 0)/\∃Z2,WaI Z fr N K M m l a w (k+1) Z2 w':=by
 obtain⟨Z2,ok2,e2,s2,st2⟩:=h;have htk:l.take (k+1)=l.take k++[x]:=by rw [J3t,hx];rfl
 have hdr:l.drop k=x::l.drop (k+1):=by
  obtain⟨hlt,hg⟩:=J1O.1 hx;rw [<- hg];exact J4q hlt
 have hsn:Q0M m Z.av (l.take (k+1))=(Z2.av,(Q0M m Z.av (l.take k)).2+if b=true then 1 else 0):=by
  rw [htk,weakA_snoc,<- I.av,e2]
 have hwk:=I.wk;rw [hdr] at hwk;have hst:=WeakOk.step (a:=Z1.av) (next:=Z1.F.next) I.ok.fo.n (fun h s y hy=>(I.ok.fpi.rights hy).2) hm hwk;rw [e2] at hst;exact⟨by rw [hsn],Z2,⟨ok2,by rw [hsn],I.same.trans s2,I.st.trans st2,AsideV.step I.row st2,hst⟩⟩
theorem Q2s {w:World} {Z:SP} {fr:List Nat} {N K:Nat} {M:Int} (hs:Sep w Z.hl) (ok:Z.Ok fr N K M) (m:Nat) (hm1:1<=m) (hm:m<16) (l:List Int) (a:Option Addr) (cap:Nat) (hl:l.length<=70000) (hrow:AsideV Z.hl (l.map encI) a w) (hk:WeakOk m Z.av l) :
  Calls prog 85 #[.pointer (some ⟨Z.s,0,none⟩),.int .i64 m,.slice a l.length cap] w fun r w'=>r=.returned (.int .i64 ((Q0M m Z.av l).2:Nat))/\Q7V Z fr N K M m l w w':=by
 have HStart:Hid (WaI Z fr N K M m l a w 0 Z w):=⟨ok,rfl,SameZ.refl Z,Step.refl hs,hrow,by simpa using hk⟩
 have HM:Hid (1<=m/\m<16):=⟨hm1,hm⟩
 have HLen:=Q0a hl;have HLe:Hid (∀k,(Q0M m Z.av (l.take k)).2<=l.length):=fun k=>J1y (Q5A m _ _) (List.length_take_le' k l)
 have HEnd:Hid (Q0M m Z.av (l.take l.length)=Q0M m Z.av l):=by rw [J5G];exact rfl
 clear hs ok hrow hk hm1 hm;generalize hn:l.length=n at *
 have HN:=Q0a hn;clear hl hn;go_enter func85,ntmps85;go_wp2_with fail
 go_loopg [7,12] n (fun gk cv iv wr=>∃(k:Nat) (Z1:SP),iv=.int .i64 k/\cv=.int .i64 ((Q0M m Z.av (l.take k)).2:Nat)/\k+gk=n/\WaI Z fr N K M m l a w k Z1 wr)
 case atStart=>exact⟨0,Z,rfl,rfl,by omega,HStart.out⟩
 case round =>
  obtain⟨k,Z1,rfl,rfl,hkg,hI⟩:=hrel;have HKg:=Q0a hkg;have HI:=Q0a hI;by_cases hlt:k<n
  ·obtain⟨x,hx⟩:∃x,l[k]?=some x:=⟨l[k]'(by rw [HN.out];exact hlt),J3O (by rw [HN.out];exact hlt)⟩
   obtain⟨g,rfl,_,_,hcx⟩:=hI.row k (.int .i64 x) (by rw [J3i,hx];rfl);have kw:=Z0m hI.st.sep hI.ok x m HM.out.1 HM.out.2 (by
    rcases hI.wk with h|h
    ·exact .inl h
    ·refine .inr (h [] x (l.drop (k+1)) ?_);obtain⟨hlt,hg⟩:=J1O.1 hx;rw [<- hg];exact J4q hlt)
   rw [hI.same.s] at kw;have HW:=Q0a kw;have HX:=Q0a hx;have hcb:=HLe.out k;have hki:(k:Int)<(n:Int):=by omega
   have hk0:(0:Int)<=(k:Int):=by omega
   have hkb:(k:Int)<70000:=by have:=HLen.out;omega
   generalize hcc:(Q0M m Z.av (l.take k)).2=c at *
   have hc1:(c:Int)<=70000:=by have:=HLen.out;omega
   have hc0:(0:Int)<=(c:Int):=by omega
   have HCc:=Q0a hcc;clear hI hkg kw hx hcb hcc;go_wp2_with fail;refine HW.out.mono ?_;rintro r w1 ⟨b,rfl,hz⟩;obtain⟨hcnt,Z2,hI2⟩:=HI.out.next HX.out HM.out.2 hz;have HI2:=Q0a hI2;rw [HCc.out] at hcnt;have HCnt:=Q0a hcnt;clear hcnt hI2 hz HW HI;cases b with
   | true =>
    go_wp2_with fail;go_roundg (n-(k+1))
    case measure=>have:=HKg.out;omega
    case rel=>exact⟨k+1,Z2,by go_num,by rw [HCnt.out];simp,by have:=HKg.out;omega,HI2.out⟩
   | false =>
    go_wp2_with fail;go_roundg (n-(k+1))
    case measure=>have:=HKg.out;omega
    case rel=>exact⟨k+1,Z2,by go_num,by rw [HCnt.out];simp,by have:=HKg.out;omega,HI2.out⟩
  ·obtain rfl:k=n:=by have:=HKg.out;omega
   have HR:Hid (((Q0M m Z.av (l.take k)).2=(Q0M m Z.av l).2)/\Q7V Z fr N K M m l w wr):=by
    have h1:l.take k=l:=by rw [<- HN.out,J5G]
    have h2:=hI.av;rw [h1] at h2;exact⟨by rw [h1],Z1,hI.ok,h2,hI.same,hI.st⟩
   rw [HR.out.1];clear hI hkg;go_wp2_with fail
   first|exact⟨rfl,HR.out.2⟩|(go_ret;exact⟨rfl,HR.out.2⟩)
end Go.Proofs.YtlakjlmaboioiaaGreatDoor
