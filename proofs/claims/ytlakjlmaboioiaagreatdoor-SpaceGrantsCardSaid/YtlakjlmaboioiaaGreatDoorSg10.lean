/- SpaceGrants returns true at every input. No condition. Part of its proof. -/
import Derived.Test.YtlakjlmaboioiaaGreatDoorSg09
import Derived.Test.YtlakjlmaboioiaaGreatDoorSg08
import Derived.Deep.MidRow
import Derived.Deep.LoopGhost
import Derived.Test.YtlakjlmaboioiaaGreatDoorSg07
import Derived.Test.YtlakjlmaboioiaaGreatDoorSg04
import Derived.BigQuiet
import Derived.Deep.QuietTactic
set_option linter.unusedVariables false
namespace Go.Proofs.YtlakjlmaboioiaaGreatDoor
open Go.RowKit
def leftOf (e:En Fa):Int:=e.q.limit - (e.q.charged + e.q.given)
def two (x:Nat) (e:Int):Ending:=.returned (.tuple #[.int .u32 (x:Int),.int .i64 e])
structure MadeOk (S:CO) (fr:List Nat) (f:Pl) (e:En Fa) (n a:Nat) (lim:Int) (x:Nat) (i:Nat) (p:Pl) (P':PL) (fr':List Nat):Prop where
  inv:Inv P' (S.l.set i ⟨n,a,f.own,1,p.age,x⟩) fr' S.xc (S.ts.map Prod.fst)
  same:SameP S.P P'
  kept:KeptL S.P.a.mem P'.a.mem S.l
  next:P'.q.next ≤ S.P.q.next + 1
  fac:n ≠ 1→P'.q.E = upd S.P.q.E f.own { e.q with charged:=e.q.charged + ((costK n:Nat):Int) }
  fac1:n = 1→(x:Int) = S.P.q.next∧P'.q.next = S.P.q.next + 1∧∃ b,P'.q.E = upd S.P.q.E f.own { e.q with charged:=e.q.charged + 64,given:=e.q.given + lim,kids:=e.q.kids + 1 } ++ [⟨x,b,⟨lim,0,0,f.own,0⟩⟩]
  zero:n ≠ 1→∀ j,a ≤ j→j < a + costK n→P'.a.mem[j]? = some 0
  few:P'.d.ps.length ≤ S.P.d.ps.length + 1
  high:∀ j,6 ≤ j→(P'.usedOf j).Perm (S.P.usedOf j)
  memH:KeptH S.P P'
  room:a + costK n ≤ S.P.a.mem.length
def CO.made (S:CO) (f:Pl) (n a x i:Nat) (p:Pl) (P':PL):CO:=(S.setP P').setL (S.l.set i ⟨n,a,f.own,1,p.age,x⟩)
def MakeK (S:CO) (fr:List Nat) (f:Pl) (e:En Fa) (n:Nat) (lim:Int) (w:World) (r:Ending) (w':World):Prop:=
  (leftOf e < ((costK n:Nat):Int)∧r = two 0 5∧Step S.hl S.hl w w') ∨
  (((costK n:Nat):Int) ≤ leftOf e∧NoPage S.P∧r = two 0 4∧Step S.hl S.hl w w') ∨
  (((costK n:Nat):Int) ≤ leftOf e∧∃ (er:Int) (P':PL),((er = 11∧((∀ p ∈ S.l,p.st ≠ 0) ∨ n = 1∧S.P.q.E.length = 32)) ∨ (er = 5∧n = 1∧leftOf e - 64 < lim))∧Tried S.P fr S.l P'∧r = two 0 er∧Step S.hl (S.setP P').hl w w') ∨
  (∃ (i:Nat) (p:Pl) (a x:Nat) (P':PL) (fr':List Nat),S.l[i]? = some p∧p.st = 0∧(∀ j q,j < i→S.l[j]? = some q→q.st ≠ 0)∧((costK n:Nat):Int) ≤ leftOf e∧r = two (nm i p) 0∧MadeOk S fr f e n a lim x i p P' fr'∧Step S.hl (S.made f n a x i p P').hl w w')
def MakeR (S:CO) (fr:List Nat) (h:Nat) (k lim:Int) (w:World) (r:Ending) (w':World):Prop:=
  (pget S.l 1 h = none∧r = two 0 8∧Step S.hl S.hl w w') ∨
  ∃ f,pget S.l 1 h = some f∧((f.kind ≠ 1∧r = two 0 10∧Step S.hl S.hl w w') ∨
    (f.kind = 1∧(¬ (k = 8 ∨ 1 ≤ k∧k ≤ 5) ∨ k = 1∧lim < 0)∧r = two 0 1∧Step S.hl S.hl w w') ∨
    ∃ (n:Nat) (e:En Fa),k = (n:Int)∧f.kind = 1∧(n = 8 ∨ 1 ≤ n∧n ≤ 5)∧(n = 1→0 ≤ lim)∧find S.P.q.E f.own = some e∧MakeK S fr f e n lim w r w')
def DoomR (S:CO) (h:Nat) (w:World) (r:Ending) (w':World):Prop:=
  (pget S.l 1 h = none∧r = .returned (.int .i64 8)∧Step S.hl S.hl w w') ∨
  (pget S.l 1 h ≠ none∧h = 0∧r = .returned (.int .i64 1)∧Step S.hl S.hl w w') ∨
  (pget S.l 1 h ≠ none∧h ≠ 0∧kids S.l h ≠ []∧r = .returned (.int .i64 12)∧Step S.hl S.hl w w') ∨
  (∃ p rv,pget S.l 1 h = some p∧h ≠ 0∧kids S.l h = []∧ovOk rv (S.ts.length + 1)∧r = .returned (.int .i64 0)∧Step S.hl (S.doomed h p rv).hl w w')
theorem MadeOk.ok {S:CO} {fr:List Nat} {N K:Nat} (ok:S.Ok fr N K) {f:Pl} {e:En Fa} {n a x i:Nat} {lim:Int} {p:Pl} {P':PL} {fr':List Nat} (m:MadeOk S fr f e n a lim x i p P' fr') (hi:S.l[i]? = some p):(S.made f n a x i p P').Ok fr' (N + 1) K:=
  ok.made m.inv (by have:=m.next;have:=ok.next;omega) (age_set ok.age (ok.age p (List.mem_of_getElem? hi)))
open Go.RowKit
def LOk (l:List Pl):Prop:=l.length = 256∧∀ p ∈ l,p.st ≤ 3∧p.age ≤ 1048575
theorem LOk.get {l:List Pl} (h:LOk l) (x:Nat):∃ p,l[x % 256]? = some p∧p.st ≤ 3∧p.age ≤ 1048575:=by
  have hlt:x % 256 < l.length:=by rw [h.1];omega
  exact⟨l[x % 256],List.getElem?_eq_getElem hlt,h.2 _ (List.getElem_mem hlt)⟩
theorem pget_none {l:List Pl} {s h:Nat} {p:Pl} (hl:l[h % 256]? = some p):pget l s h = none ↔ nm (h % 256) p ≠ h ∨ p.st ≠ s:=by
  unfold pget
  rw [hl]
  simp only
  by_cases hc:nm (h % 256) p = h∧p.st = s
  · rw [if_pos hc]
    simp [hc.1,hc.2]
  · rw [if_neg hc]
    have:nm (h % 256) p ≠ h ∨ p.st ≠ s:=by
      by_cases h1:nm (h % 256) p = h
      · exact .inr fun h2=>hc ⟨h1,h2⟩
      · exact .inl h1
    simp [this]
set_option maxHeartbeats 1000000 in
theorem hat_some {w:World} {h:HT} (s:Sep w h.hl) (ok:LOk h.l) {x st:Nat} (hx:x < 4294967296) {p:Pl} (hp:pget h.l st x = some p) :
    Calls Tryz.prog 170 #[.pointer (some ⟨h.t,0,none⟩),.int .u32 (x:Int),.int .i64 (st:Int)] w fun r w'=>r = .returned (.tuple #[.pointer (some ⟨h.t,x % 256 * 5,none⟩),.int .i64 0])∧w = w':=by
  obtain⟨hi,hn,hs⟩:=pget_some.1 hp
  have ha:=(ok.2 p (List.mem_of_getElem? hi)).2
  have k1:=hname_any s hi (by omega) ha
  obtain⟨-,-,-,c3,-,-⟩:=HT.cell s hi
  have HO:=and_place x hx
  rw [hn] at k1
  rw [hs] at c3
  clear s ok hp hi hn hs ha
  have h256:x % 256 < 256:=by omega
  have hw:IntKind.i64.wrap ((x % 256:Nat):Int) = ((x % 256:Nat):Int):=Go.IntWalk.i64_in _ (by omega)
  generalize x % 256 = i at *
  go_enter Tryz.func170,Tryz.ntmps170
  go_wp2_with (go_at_call 153;refine k1.mono ?_;rintro e w' ⟨rfl,rfl⟩)
  go_ret2
  exact⟨rfl,rfl⟩
theorem bne_nat {a b:Nat} (h:a ≠ b):(((a:Nat):Int) != ((b:Nat):Int)) = true:=by simp;omega
theorem beq_nat_f {a b:Nat} (h:a ≠ b):(((a:Nat):Int) == ((b:Nat):Int)) = false:=by simp;omega
set_option maxHeartbeats 1000000 in
theorem hat_none {w:World} {h:HT} (s:Sep w h.hl) (ok:LOk h.l) {x st:Nat} (hx:x < 4294967296) (hp:pget h.l st x = none) :
    Calls Tryz.prog 170 #[.pointer (some ⟨h.t,0,none⟩),.int .u32 (x:Int),.int .i64 (st:Int)] w fun r w'=>r = .returned (.tuple #[.pointer none,.int .i64 8])∧w = w':=by
  obtain⟨p,hi,h1,ha⟩:=ok.get x
  have hcase:=(pget_none hi).1 hp
  have k1:=hname_any s hi (by omega) ha
  obtain⟨-,-,-,c3,-,-⟩:=HT.cell s hi
  have HO:=and_place x hx
  clear s ok hp hi ha
  have h256:x % 256 < 256:=by omega
  have hw:IntKind.i64.wrap ((x % 256:Nat):Int) = ((x % 256:Nat):Int):=Go.IntWalk.i64_in _ (by omega)
  generalize x % 256 = i at *
  generalize nm i p = n at *
  generalize p.st = t at *
  by_cases hn:n = x
  · subst hn
    have ht:t ≠ st:=hcase.resolve_left fun h=>h rfl
    have hb:=bne_nat ht
    have hb2:=beq_nat_f ht
    clear hcase ht
    go_enter Tryz.func170,Tryz.ntmps170
    go_wp2_with (go_at_call 153;refine k1.mono ?_;rintro e w' ⟨rfl,rfl⟩)
    go_ret2
    exact⟨rfl,rfl⟩
  · have hb:=bne_nat hn
    have hb2:=beq_nat_f hn
    clear hcase hn
    go_enter Tryz.func170,Tryz.ntmps170
    go_wp2_with (go_at_call 153;refine k1.mono ?_;rintro e w' ⟨rfl,rfl⟩)
    go_ret2
    exact⟨rfl,rfl⟩
def Pl.obj (p:Pl):Value:=.agg #[.int .i64 (p.kind:Int),.int .i64 (p.at_:Int),.int .i64 (p.fac:Int)]
def zobj:Value:=.agg #[.int .i64 0,.int .i64 0,.int .i64 0]
set_option maxHeartbeats 1000000 in
theorem hget_some {w:World} {h:HT} (s:Sep w h.hl) (ok:LOk h.l) {x:Nat} (hx:x < 4294967296) {p:Pl} (hp:pget h.l 1 x = some p) :
    Calls Tryz.prog 93 #[.pointer (some ⟨h.t,0,none⟩),.int .u32 (x:Int)] w (Told w (.tuple #[p.obj,.int .i64 0])):=by
  have hi:=(pget_some.1 hp).1
  have hA:Calls Tryz.prog 170 #[.pointer (some ⟨h.t,0,none⟩),.int .u32 (x:Int),.int .i64 1] (w.alloc (.cells #[.int .i64 0,.int .i64 0,.int .i64 0] 69)) fun r w'=>r = .returned (.tuple #[.pointer (some ⟨h.t,x % 256 * 5,none⟩),.int .i64 0])∧(w.alloc (.cells #[.int .i64 0,.int .i64 0,.int .i64 0] 69)) = w':=hat_some (st:=1) (s.alloc _) ok hx hp
  obtain⟨c0,c1,c2,-,-,-⟩:=HT.cell (s.alloc (.cells #[.int .i64 0,.int .i64 0,.int .i64 0] 69)) hi
  have HB:Hid (Below w.heap.size w (w.alloc (.cells #[.int .i64 0,.int .i64 0,.int .i64 0] 69))):=(Below.refl _ _).alloc (Nat.le_refl _) _
  unfold Pl.obj
  clear s ok hp hi
  generalize x % 256 * 5 = i at *
  go_enter Tryz.func93,Tryz.ntmps93
  go_wp2_with (go_at_call 170;refine hA.mono ?_;rintro e w' ⟨rfl,rfl⟩)
  refine bodyPost_ret (v:=.tuple #[.agg #[.int .i64 (p.kind:Int),.int .i64 (p.at_:Int),.int .i64 (p.fac:Int)],.int .i64 0]) (by simp [results,Tryz.results93,go_sem]) rfl ⟨rfl,?_⟩
  exact (Below.refl _ _).alloc (Nat.le_refl _) _
set_option maxHeartbeats 1000000 in
theorem hget_none {w:World} {h:HT} (s:Sep w h.hl) (ok:LOk h.l) {x:Nat} (hx:x < 4294967296) (hp:pget h.l 1 x = none) :
    Calls Tryz.prog 93 #[.pointer (some ⟨h.t,0,none⟩),.int .u32 (x:Int)] w (Told w (.tuple #[zobj,.int .i64 8])):=by
  have hA:Calls Tryz.prog 170 #[.pointer (some ⟨h.t,0,none⟩),.int .u32 (x:Int),.int .i64 1] (w.alloc (.cells #[.int .i64 0,.int .i64 0,.int .i64 0] 69)) fun r w'=>r = .returned (.tuple #[.pointer none,.int .i64 8])∧(w.alloc (.cells #[.int .i64 0,.int .i64 0,.int .i64 0] 69)) = w':=hat_none (st:=1) (s.alloc _) ok hx hp
  unfold zobj
  clear s ok hp
  go_enter Tryz.func93,Tryz.ntmps93
  go_wp2_with (go_at_call 170;refine hA.mono ?_;rintro e w' ⟨rfl,rfl⟩)
  refine bodyPost_ret (v:=.tuple #[.agg #[.int .i64 0,.int .i64 0,.int .i64 0],.int .i64 8]) (by simp [results,Tryz.results93,go_sem]) rfl ⟨rfl,?_⟩
  exact (Below.refl _ _).alloc (Nat.le_refl _) _
def KillP (h:HT) (x:Nat) (p:Pl) (w:World) (r:Ending) (w':World):Prop:=r = .returned (.int .i64 0)∧Step h.hl ({ h with l:=h.l.set (x % 256) { p with st:=2 } }:HT).hl w w'
set_option maxHeartbeats 1000000 in
theorem hkill_some {w:World} {h:HT} (s:Sep w h.hl) (ok:LOk h.l) {x:Nat} (hx:x < 4294967296) {p:Pl} (hp:pget h.l 1 x = some p) :
    Calls Tryz.prog 172 #[.pointer (some ⟨h.t,0,none⟩),.int .u32 (x:Int)] w (KillP h x p w):=by
  have hA:Calls Tryz.prog 170 #[.pointer (some ⟨h.t,0,none⟩),.int .u32 (x:Int),.int .i64 1] w fun r w'=>r = .returned (.tuple #[.pointer (some ⟨h.t,x % 256 * 5,none⟩),.int .i64 0])∧w = w':=hat_some (st:=1) s ok hx hp
  have hi:=(pget_some.1 hp).1
  obtain⟨-,-,-,c3,-,cf⟩:=HT.cell s hi
  have cf3:=cf (x % 256 * 5 + 3)
  have HS:Hid (KillP h x p w (.returned (.int .i64 0)) (w.setCell ⟨h.t,x % 256 * 5 + 3,none⟩ (.int .i64 2))):=⟨rfl,HT.set s hi 3 (.int .i64 2) (by omega) (q:={ p with st:=2 }) rfl⟩
  clear s ok hp hi cf
  generalize KillP h x p w = Q at *
  generalize x % 256 * 5 = i at *
  go_enter Tryz.func172,Tryz.ntmps172
  go_wp2_with (go_at_call 170;refine hA.mono ?_;rintro e w' ⟨rfl,rfl⟩)
  first | exact HS.out | (go_ret;exact HS.out)
theorem infoPl:(Tryz.prog.info? 261).map (·.size) = some 5:=by kernel_rfl
open Go.RowKit
theorem cells5_len (l:List Pl) (h:l.length = 256):(l.flatMap Pl.cells).length = 1280:=by rw [fm5_len,h]
theorem infoArr:(Tryz.prog.info? 262).map (·.size) = some 1280:=by kernel_rfl
theorem HT.range {w:World} {h:HT} (s:Sep w h.hl):w.rangeAt h.t 0 (h.l.flatMap Pl.cells):=fun j v hv=>by
  rw [Nat.zero_add]
  exact (HT.cells s).cell j v hv
theorem extract_pl {l:List Pl} {i:Nat} {p:Pl} (hi:l[i]? = some p):(l.flatMap Pl.cells).toArray.extract (i * 5) (i * 5 + 5) = p.cells.toArray:=by
  apply Array.ext'
  rw [Array.toList_extract]
  apply List.ext_getElem?
  intro j
  simp only [List.extract_eq_take_drop,Nat.add_sub_cancel_left]
  rw [List.getElem?_take]
  split
  · rename_i hj
    rw [List.getElem?_drop]
    have h5:j < p.cells.length:=hj
    have:=fm5_get hi j p.cells[j] hj (List.getElem?_eq_getElem h5)
    rw [this,List.getElem?_eq_getElem h5]
  · rw [List.getElem?_eq_none (by show 5 ≤ j;omega)]
theorem index_pl {w:World} {l:List Pl} (hl:l.length = 256) {i:Nat} {p:Pl} (hi:l[i]? = some p):(Instr.index 262 (.agg (l.flatMap Pl.cells).toArray) (.int .i64 (i:Int))).run Tryz.prog w = .ok (.agg p.cells.toArray) w:=by
  have hlt:i < 256:=by have:=(List.getElem?_eq_some_iff.1 hi).1;omega
  have e:=extract_pl hi
  generalize (l.flatMap Pl.cells).toArray = cs at *
  have h1:(0:Int) ≤ (i:Int)∧(i:Int) < ((256:Nat):Int):=by omega
  have h2:(Tryz.prog.info? 261).map (·.size) = some 5:=infoPl
  cases hq:Tryz.prog.info? 261 with
  | none=>simp [hq] at h2
  | some inf =>
    have hs:inf.size = 5:=by simpa [hq] using h2
    have hu:Tryz.prog.underlying 262 = some (.array 256 261):=Tryz.underlying262
    have hagg:(isAgg 261).run Tryz.prog w = .ok true w:=by
      unfold isAgg
      rw [Sem.run_bind,run_underlying Tryz.underlying261 w]
      rfl
    simp [Instr.index,asIntOf,Sem.run_bind,run_underlying hu w,h1,part,sizeOf,typeInfo,hq,hs,e]
    intro hh;omega
set_option maxHeartbeats 4000000 in
set_option maxRecDepth 100000 in
theorem hall_any {w:World} {h:HT} (s:Sep w h.hl) (ok:LOk h.l) (st:Nat) (hst:st ≤ 3) :
    Calls Tryz.prog 171 #[.pointer (some ⟨h.t,0,none⟩),.int .i64 (st:Int)] w (NewHs w (allL h.l st)):=by
  have HL:Hid (w.rangeAt h.t 0 (h.l.flatMap Pl.cells)):=HT.range s
  have HI:Hid (∀ (w':World) (i:Nat) (p:Pl),h.l[i]? = some p→(Instr.index 262 (.agg (h.l.flatMap Pl.cells).toArray) (.int .i64 (i:Int))).run Tryz.prog w' = .ok (.agg p.cells.toArray) w'):=fun w' i p hp=>index_pl ok.1 hp
  go_enter Tryz.func171,Tryz.ntmps171
  go_wp2_with (refine wpList_load_mid rfl 262 _ rfl h.t 0 rfl (h.l.flatMap Pl.cells) _ HL.out Tryz.underlying262 rfl (by rw [cells5_len _ ok.1];exact infoArr) ?_)
  have HOk:=hidden ok
  have HS:=hidden s
  have hl256:=ok.1
  clear s ok HL
  generalize hcs:(h.l.flatMap Pl.cells).toArray = cs at *
  obtain⟨i0,hinf,hz0,hz1,hz2⟩:=info_parts infoHandle
  go_loopg [5,14] 256 (fun gk ov iv wr=>∃ k:Nat,iv = .int .i64 k∧k + gk = 256∧OutH w wr ov (allTo h.l st k))
  case atStart=>exact⟨0,rfl,rfl,OutH.nil w⟩
  case round =>
    obtain⟨k,rfl,hkg,hout⟩:=hrel
    have HO:=hidden hout
    have HKG:=hidden hkg
    clear hout
    by_cases hlt:k < 256
    · obtain⟨p,hp⟩:∃ p,h.l[k]? = some p:=⟨h.l[k]'(by omega),List.getElem?_eq_getElem (by omega)⟩
      have hidx:=HI.out wr k p hp
      have HP:=hidden hp
      have ha:Hid (p.age ≤ 1048575):=(HOk.out.2 p (List.mem_of_getElem? hp)).2
      clear hp
      by_cases hs:p.st = st
      · have HSt:=hidden hs
        have hb:(((p.st:Nat):Int) == (st:Int)) = true:=by simp [hs]
        clear hs
        unfold Pl.cells at hidx
        have hnm:=hname_any ((HS.out.grown HO.out.2).sep.alloc (.cells #[.int .i64 (p.kind:Int),.int .i64 (p.at_:Int),.int .i64 (p.fac:Int),.int .i64 (p.st:Int),.int .u32 (p.age:Int)] 261)) HP.out hlt ha.out
        have hlen:=allTo_len h.l st k
        have hsz:=HO.out.2.size
        go_wp2_with fail
        refine hnm.mono ?_
        rintro e w' ⟨rfl,rfl⟩
        dsimp only
        iterate 4 go_step
        refine wpList_append_own _ rfl _ _ 66 rfl w.heap.size 27 i0 (.int .u32 0) 1 4 Tryz.underlying66 hinf hz0 hz1 hz2 rfl (by decide) _ _ _ rfl ((HO.out.1.alloc _).alloc _) ⟨wr.heap.size + 1,0,none⟩ 1 1 [.int .u32 ((nm k p:Nat):Int)] rfl rfl (newh_cell2 _ _ _) (by simp [Value.oneCell']) (by unfold maxLen;omega) (by omega) (by simp;omega) ?_
        intro v' w1 hown' hgrow _
        have HR:Hid (OutH w w1 v' (allTo h.l st (k + 1))):=by
          have e:=allTo_succ HP.out st
          rw [if_pos HSt.out] at e
          rw [e]
          exact HO.out.app2 (M:=[nm k p]) hown' hgrow
        clear hown' hgrow HO hsz hlen
        go_wp2_with fail
        go_roundg (256 - (k + 1))
        case measure=>have:=HKG.out;omega
        case rel=>exact⟨k + 1,by go_num,by omega,HR.out⟩
      · have HSt:=hidden hs
        have hb:=beq_nat_f hs
        clear hs
        unfold Pl.cells at hidx
        have HR:Hid (∀ o,OutH w (wr.alloc o) u5 (allTo h.l st (k + 1))):=fun o=>by
          have e:=allTo_succ HP.out st
          rw [if_neg HSt.out,List.append_nil] at e
          rw [e]
          exact HO.out.alloc o
        go_wp2_with fail
        go_roundg (256 - (k + 1))
        case measure=>have:=HKG.out;omega
        case rel=>exact⟨k + 1,by go_num,by omega,HR.out _⟩
    · have e:allTo h.l st k = allL h.l st:=by
        have:k = 256:=by omega
        unfold allL
        rw [this,hl256]
      rw [e] at HO
      have HR:Hid (NewHs w (allL h.l st) (.returned u5) wr):=⟨u5,rfl,HO.out.1,HO.out.2⟩
      go_wp2_with fail
      go_ret
      exact HR.out
open Go.RowKit
set_option maxHeartbeats 400000 in
theorem hlive_any {w:World} {h:HT} (s:Sep w h.hl) (ok:LOk h.l):Calls Tryz.prog 94 #[.pointer (some ⟨h.t,0,none⟩)] w (NewHs w (allL h.l 1)):=by
  have hA:Calls Tryz.prog 171 #[.pointer (some ⟨h.t,0,none⟩),.int .i64 1] w (NewHs w (allL h.l 1)):=hall_any s ok 1 (by omega)
  clear s ok
  go_enter Tryz.func94,Tryz.ntmps94
  go_wp2_with (go_at_call 171;refine hA.mono ?_;rintro e w' ⟨v,rfl,h1,h2⟩)
  first | exact⟨v,rfl,h1,h2⟩ | (go_ret;exact⟨v,rfl,h1,h2⟩)
set_option maxHeartbeats 400000 in
theorem hroom_any {w:World} {h:HT} (s:Sep w h.hl) (ok:LOk h.l):Calls Tryz.prog 156 #[.pointer (some ⟨h.t,0,none⟩)] w (Told w (.int .i64 ((allL h.l 0).length:Nat))):=by
  have hA:Calls Tryz.prog 171 #[.pointer (some ⟨h.t,0,none⟩),.int .i64 0] w (NewHs w (allL h.l 0)):=hall_any s ok 0 (by omega)
  clear s ok
  generalize allL h.l 0 = L at *
  go_enter Tryz.func156,Tryz.ntmps156
  go_wp2_with (go_at_call 171;refine hA.mono ?_;intro e w' hx;obtain⟨a,cap,rfl,hb,-⟩:=hx.shape;have HB:=hidden hb;clear hx hb)
  first | exact⟨rfl,HB.out⟩ | (go_ret;exact⟨rfl,HB.out⟩)
theorem empty_iff {l:List Pl}:allL l 0 = [] ↔ ∀ p ∈ l,p.st ≠ 0:=by
  constructor
  · intro h p hp hs
    obtain⟨i,hi⟩:=List.mem_iff_getElem?.1 hp
    have hlt:=(List.getElem?_eq_some_iff.1 hi).1
    have:nm i p ∈ allL l 0:=mem_allTo.2 ⟨i,p,hlt,hi,hs,rfl⟩
    rw [h] at this;cases this
  · intro h
    cases hc:allL l 0 with
    | nil=>rfl
    | cons x r =>
      exfalso
      have:x ∈ allL l 0:=by rw [hc];simp
      obtain⟨i,p,_,hi,hs,_⟩:=mem_allTo.1 this
      exact h p (List.mem_of_getElem? hi) hs
def Fst (l:List Pl) (i:Nat) (p:Pl):Prop:=l[i]? = some p∧p.st = 0∧∀ j q,j < i→l[j]? = some q→q.st ≠ 0
theorem fst_case (l:List Pl):(∀ p ∈ l,p.st ≠ 0) ∨ ∃ i p,Fst l i p:=by
  induction l with
  | nil=>left;simp
  | cons x r ih =>
    by_cases hx:x.st = 0
    · right;exact⟨0,x,rfl,hx,fun j q hj=>absurd hj (Nat.not_lt_zero _)⟩
    · rcases ih with h | ⟨i,p,h1,h2,h3⟩
      · left
        intro p hp
        rcases List.mem_cons.1 hp with rfl | hp
        · exact hx
        · exact h p hp
      · right
        refine⟨i + 1,p,h1,h2,fun j q hj hq=>?_⟩
        cases j with
        | zero=>cases hq;exact hx
        | succ j=>exact h3 j q (by omega) hq
set_option maxHeartbeats 400000 in
theorem hput1_any {w:World} (p:Pl):Calls Tryz.prog 152 #[.agg p.cells.toArray] w (Told w (.bool (((p.st:Nat):Int) == 0))):=by
  have hc:=Cells.new w 261 p.cells
  have c3:(w.alloc (.cells p.cells.toArray 261)).cell? ⟨w.heap.size,3,none⟩ = some (.int .i64 (p.st:Int)):=hc.cell 3 _ rfl
  unfold Pl.cells at *
  clear hc
  go_enter Tryz.func152,Tryz.ntmps152
  go_wp2
  go_ret
  exact⟨rfl,(Below.refl _ _).alloc (Nat.le_refl _) _⟩
def FstI (l:List Pl) (z:Int):Prop:=(z = -1∧∀ p ∈ l,p.st ≠ 0) ∨ ∃ (i:Nat) (p:Pl),z = (i:Int)∧Fst l i p
set_option maxHeartbeats 4000000 in
set_option maxRecDepth 100000 in
theorem hindex_any {w:World} {h:HT} (s:Sep w h.hl) (ok:LOk h.l):Calls Tryz.prog 151 #[.slice (some ⟨h.t,0,none⟩) 256 256,.func (.func 152) #[] #[]] w fun r w'=>(∃ z,r = .returned (.int .i64 z)∧FstI h.l z)∧Below w.heap.size w w':=by
  have hl256:=ok.1
  have HS:=hidden s
  clear s ok
  go_enter Tryz.func151,Tryz.ntmps151
  go_wp2_with fail
  go_loopg [5,8] 256 (fun gk _ iv wr=>∃ k:Nat,iv = .int .i64 k∧k + gk = 256∧(∀ j q,j < k→h.l[j]? = some q→q.st ≠ 0)∧Below w.heap.size w wr)
  case atStart=>exact⟨0,rfl,rfl,fun j q hj=>absurd hj (Nat.not_lt_zero _),Below.refl _ _⟩
  case round =>
    obtain⟨k,rfl,hkg,hpre,hb⟩:=hrel
    have HKG:=hidden hkg
    have HPre:=hidden hpre
    have HB:=hidden hb
    clear hpre
    by_cases hlt:k < 256
    · obtain⟨p,hp⟩:∃ p,h.l[k]? = some p:=⟨h.l[k]'(by omega),List.getElem?_eq_getElem (by omega)⟩
      obtain⟨c0,c1,c2,c3,c4,-⟩:=HT.cell ((HS.out.grown hb).sep) hp
      have HP:=hidden hp
      have hput:Calls Tryz.prog 152 #[.agg #[.int .i64 (p.kind:Int),.int .i64 (p.at_:Int),.int .i64 (p.fac:Int),.int .i64 (p.st:Int),.int .u32 (p.age:Int)]] wr (Told wr (.bool (((p.st:Nat):Int) == 0))):=hput1_any p
      clear hp hb
      by_cases hs:p.st = 0
      · have HSt:=hidden hs
        have hbq:(((p.st:Nat):Int) == 0) = true:=by simp [hs]
        rw [hbq] at hput
        clear hs hbq
        go_wp2_with (go_at_call 152;refine hput.mono ?_;rintro e w1 ⟨rfl,hb1⟩;have HB1:=hidden hb1;clear hb1)
        have HR:Hid ((∃ z,Ending.returned (.int .i64 (k:Int)) = .returned (.int .i64 z)∧FstI h.l z)∧Below w.heap.size w w1):=⟨⟨_,rfl,.inr ⟨k,p,rfl,HP.out,HSt.out,HPre.out⟩⟩,HB.out.trans (HB1.out.mono HB.out.size)⟩
        first | exact HR.out | (go_ret;exact HR.out)
      · have HSt:=hidden hs
        have hbq:(((p.st:Nat):Int) == 0) = false:=by simp;omega
        rw [hbq] at hput
        clear hs hbq
        go_wp2_with (go_at_call 152;refine hput.mono ?_;rintro e w1 ⟨rfl,hb1⟩;have HB1:=hidden hb1;clear hb1)
        go_roundg (256 - (k + 1))
        case measure=>have:=HKG.out;omega
        case rel =>
          refine⟨k + 1,by go_num,by omega,fun j q hj hq=>?_,HB.out.trans (HB1.out.mono HB.out.size)⟩
          by_cases e:j = k
          · subst e
            have:=HP.out
            rw [this] at hq;cases hq
            exact HSt.out
          · exact HPre.out j q (by omega) hq
    · have HR:Hid ((∃ z,Ending.returned (.int .i64 (-1)) = .returned (.int .i64 z)∧FstI h.l z)∧Below w.heap.size w wr):=⟨⟨_,rfl,.inl ⟨rfl,fun p hp=>by
        obtain⟨i,hi⟩:=List.mem_iff_getElem?.1 hp
        have:=(List.getElem?_eq_some_iff.1 hi).1
        exact HPre.out i p (by omega) hi⟩⟩,HB.out⟩
      go_wp2_with fail
      first | exact HR.out | (go_ret;exact HR.out)
open Go.RowKit
def PutT (h:HT) (q:Pl) (i:Nat) (w:World) (r:Ending) (w':World):Prop:=r = .returned (.tuple #[.int .u32 ((nm i q:Nat):Int),.int .i64 0])∧Step h.hl ({ h with l:=h.l.set i q }:HT).hl w w'
set_option maxHeartbeats 4000000 in
set_option maxRecDepth 100000 in
theorem hput_ok {w:World} {h:HT} (s:Sep w h.hl) (ok:LOk h.l) {i:Nat} {p:Pl} (hf:Fst h.l i p) (k a f x:Nat):Calls Tryz.prog 66 #[.pointer (some ⟨h.t,0,none⟩),.agg #[.int .i64 (k:Int),.int .i64 (a:Int),.int .i64 (f:Int)]] w (PutT h ⟨k,a,f,1,p.age,x⟩ i w):=by
  have hi256:i < 256:=by have:=(List.getElem?_eq_some_iff.1 hf.1).1;have:=ok.1;omega
  have hage:=(ok.2 p (List.mem_of_getElem? hf.1)).2
  have hix:Calls Tryz.prog 151 #[.slice (some ⟨h.t,0,none⟩) 256 256,.func (.func 152) #[] #[]] (w.alloc (.cells #[.int .i64 (k:Int),.int .i64 (a:Int),.int .i64 (f:Int)] 69)) fun r w'=>r = .returned (.int .i64 (i:Int))∧w'.cell? ⟨w.heap.size,0,none⟩ = some (.int .i64 (k:Int))∧w'.cell? ⟨w.heap.size,1,none⟩ = some (.int .i64 (a:Int))∧w'.cell? ⟨w.heap.size,2,none⟩ = some (.int .i64 (f:Int)) ∧
      (∃ v,w'.cell? ⟨h.t,i * 5,none⟩ = some v)∧(∃ v,w'.cell? ⟨h.t,i * 5 + 1,none⟩ = some v)∧(∃ v,w'.cell? ⟨h.t,i * 5 + 2,none⟩ = some v)∧(∃ v,w'.cell? ⟨h.t,i * 5 + 3,none⟩ = some v)∧(∀ j,w'.frozen? ⟨h.t,j,none⟩ = false) ∧
      Calls Tryz.prog 153 #[.pointer (some ⟨h.t,0,none⟩),.int .i64 (i:Int)] ((((w'.setCell ⟨h.t,i * 5,none⟩ (.int .i64 (k:Int))).setCell ⟨h.t,i * 5 + 1,none⟩ (.int .i64 (a:Int))).setCell ⟨h.t,i * 5 + 2,none⟩ (.int .i64 (f:Int))).setCell ⟨h.t,i * 5 + 3,none⟩ (.int .i64 1)).drew
        fun r w2=>r = .returned (.int .u32 ((nm i p:Nat):Int))∧PutT h ⟨k,a,f,1,p.age,x⟩ i w (.returned (.tuple #[.int .u32 ((nm i p:Nat):Int),.int .i64 0])) w2:=by
    refine (hindex_any (s.alloc _) ok).mono ?_
    rintro r w' ⟨⟨z,rfl,hz⟩,hb⟩
    have hbb:Below w.heap.size w w':=((Below.refl _ _).alloc (Nat.le_refl _) _).trans (hb.mono (by simp))
    have s1:=s.grown hbb
    have hc:=(Cells.new w 69 [.int .i64 (k:Int),.int .i64 (a:Int),.int .i64 (f:Int)]).same (hb.block w.heap.size (by simp))
    obtain⟨c0,c1,c2,c3,c4,cf⟩:=HT.cell s1.sep hf.1
    have hz':z = (i:Int):=by
      rcases hz with ⟨_,h0⟩ | ⟨j,q,rfl,h1,h2,h3⟩
      · exact absurd hf.2.1 (h0 p (List.mem_of_getElem? hf.1))
      · rcases Nat.lt_trichotomy i j with e | e | e
        · exact absurd hf.2.1 (h3 i p e hf.1)
        · rw [e]
        · exact absurd h2 (hf.2.2 j q e h1)
    refine⟨by rw [hz'],hc.cell 0 _ rfl,hc.cell 1 _ rfl,hc.cell 2 _ rfl,⟨_,c0⟩,⟨_,c1⟩,⟨_,c2⟩,⟨_,c3⟩,cf,?_⟩
    have g:∀ (r:Pl),(h.l.set i r)[i]? = some r:=fun r=>by rw [List.getElem?_set_self (List.getElem?_eq_some_iff.1 hf.1).1]
    have t0:Step h.hl (⟨h.t,h.l.set i ⟨k,p.at_,p.fac,p.st,p.age,x⟩⟩:HT).hl w' _:=HT.set s1.sep hf.1 0 (.int .i64 (k:Int)) (by omega) (q:=⟨k,p.at_,p.fac,p.st,p.age,x⟩) rfl
    have t1:=HT.set (h:=⟨h.t,h.l.set i ⟨k,p.at_,p.fac,p.st,p.age,x⟩⟩) t0.sep (g _) 1 (.int .i64 (a:Int)) (by omega) (q:=⟨k,a,p.fac,p.st,p.age,x⟩) rfl
    simp only [List.set_set] at t1
    have t2:=HT.set (h:=⟨h.t,h.l.set i ⟨k,a,p.fac,p.st,p.age,x⟩⟩) t1.sep (g _) 2 (.int .i64 (f:Int)) (by omega) (q:=⟨k,a,f,p.st,p.age,x⟩) rfl
    simp only [List.set_set] at t2
    have t3:=HT.set (h:=⟨h.t,h.l.set i ⟨k,a,f,p.st,p.age,x⟩⟩) t2.sep (g _) 3 (.int .i64 1) (by omega) (q:=⟨k,a,f,1,p.age,x⟩) rfl
    simp only [List.set_set] at t3
    have tt:=(s1.trans (((t0.trans t1).trans t2).trans t3)).drew
    have hn:=hname_any (h:=⟨h.t,h.l.set i ⟨k,a,f,1,p.age,x⟩⟩) tt.sep (g _) hi256 (by exact hage)
    refine hn.mono ?_
    rintro r w2 ⟨rfl,rfl⟩
    exact⟨rfl,rfl,tt⟩
  have hne:h.t ≠ w.heap.size:=by have:=(HT.cells s).lt;omega
  have hne2:w.heap.size ≠ h.t:=fun e=>hne e.symm
  have hw:IntKind.i64.wrap (i:Int) = (i:Int):=Go.IntWalk.i64_in _ (by omega)
  clear s ok hf hage
  generalize PutT h ⟨k,a,f,1,p.age,x⟩ i w = Q at *
  generalize nm i p = n at *
  go_enter Tryz.func66,Tryz.ntmps66
  go_wp2_with (go_at_call 151;refine hix.mono ?_;rintro e w1 ⟨rfl,o0,o1,o2,⟨v0,c0⟩,⟨v1,c1⟩,⟨v2,c2⟩,⟨v3,c3⟩,cf,hname⟩;have f0:=cf (i * 5);have f1:=cf (i * 5 + 1);have f2:=cf (i * 5 + 2);have f3:=cf (i * 5 + 3);have HN:=hidden hname;clear hname cf)
  go_region
  go_wp2_with fail
  refine HN.out.mono ?_
  rintro r w2 ⟨rfl,hq⟩
  go_wp2_with fail
  first | exact hq | (go_ret2;exact hq)
open Go.RowKit
theorem bytes8_lt (x:Nat):∀ y ∈ bytes8 x,y < 256:=by
  intro y hy
  unfold bytes8 at hy
  simp only [List.mem_cons,List.not_mem_nil,or_false] at hy
  rcases hy with rfl | rfl | rfl | rfl | rfl | rfl | rfl | rfl <;> exact Nat.mod_lt _ (by omega)
def one (e:Int):Ending:=.returned (.int .i64 e)
def at2 (a:Nat) (e:Int):Ending:=.returned (.tuple #[.int .i64 (a:Int),.int .i64 e])
def GetC (S:CO) (fr:List Nat) (own n:Nat) (e:En Fa) (w:World) (r:Ending) (w':World):Prop:=
  (leftOf e < ((costK n:Nat):Int)∧r = at2 0 5∧Step S.hl S.hl w w') ∨
  (((costK n:Nat):Int) ≤ leftOf e∧NoPage S.P∧r = at2 0 4∧Step S.hl S.hl w w') ∨
  ∃ a P' fr',((costK n:Nat):Int) ≤ leftOf e∧GotM S.P fr own n a P' fr'∧r = at2 a 0∧Step S.hl (S.setP P').hl w w'
theorem getC_of {S:CO} {fr:List Nat} {w w':World} {r:Ending} (h:Sep w S.hl) (ok:S.P.Ok fr) {own n:Nat} {e:En Fa} (hf:find S.P.q.E own = some e) (h1:1 ≤ n) (h7:n ≤ 7) (hr:GetP S.P fr own n w r w'):GetC S fr own n e w r w':=by
  have hc:costI (n:Int) = costN n:=by unfold costI;rw [if_pos (by omega),Int.toNat_natCast]
  have hpos:=costN_pos.2 ⟨h1,h7⟩
  have hck:costK n = costN n:=costK_ne (by omega)
  rcases hr with ⟨h0,_⟩ | ⟨_,hn,_⟩ | ⟨_,⟨e',he',hq⟩,rfl,st⟩ | ⟨m,e',hm,_,_,he',hq,hr⟩
  · omega
  · rw [hf] at hn;cases hn
  · rw [hf] at he';cases he'
    exact .inl ⟨by unfold leftOf;rw [hck,← hc];exact hq,rfl,CO.stepP h S.P rfl st⟩
  · have:m = n:=by omega
    subst this
    rw [hf] at he';cases he'
    have hq':((costK m:Nat):Int) ≤ leftOf e:=by unfold leftOf;rw [hck];exact hq
    rcases hr with ⟨a,P',rfl,g,st⟩ | ⟨hn,rfl,st⟩
    · exact .inr (.inr ⟨a,P',fr,hq',g.gotM ok,rfl,CO.stepP h P' g.p st⟩)
    · exact .inr (.inl ⟨hq',hn.page,rfl,CO.stepP h S.P rfl st⟩)
def PutC (S:CO) (fr:List Nat) (own n a:Nat) (w:World) (r:Ending) (w':World):Prop:=
  r = .returned (.tuple #[])∧∃ P' fr',BackM S.P fr own n a P' fr'∧Step S.hl (S.setP P').hl w w'
structure Held (P:PL) (fr:List Nat) (own n a:Nat) (e:En Fa):Prop where
  acc:find P.q.E own = some e
  paid:((costK n:Nat):Int) ≤ e.q.charged
  at':n ≠ 8→a ∈ P.usedOf n
  frame:n = 8→∃ g ∈ fr,a = 1024 * g
theorem putC_of {S:CO} {fr:List Nat} {w w':World} {r:Ending} (h:Sep w S.hl) (ok:S.P.Ok fr) {own n a:Nat} (hr:PutR S.P fr own n a w r w'):∃ P' fr',BackM S.P fr own n a P' fr'∧Step S.hl (S.setP P').hl w w':=by
  obtain⟨_,P',g,st⟩:=hr
  exact⟨P',fr,g.backM ok,CO.stepP h P' g.p st⟩
theorem put_same {m:List Nat} {a n:Nat} (hn:8 ≤ n) (hl:a + n ≤ m.length):put_ (put_ m a (List.replicate n 0)) a (bytes8 0) = put_ m a (List.replicate n 0):=by
  have hl1:(put_ m a (List.replicate n 0)).length = m.length:=put_len _ _ _ (by rw [List.length_replicate];exact hl)
  have h8:(bytes8 0).length = 8:=rfl
  apply List.ext_getElem?
  intro i
  rw [put_get _ _ _ (by rw [hl1,h8];omega)]
  by_cases h1:i < a
  · rw [if_pos h1]
  · rw [if_neg h1]
    by_cases h2:i < a + (bytes8 0).length
    · rw [if_pos h2]
      have:i = a + (i - a):=by omega
      rw [h8] at h2
      rw [this,put_in (by rw [List.length_replicate];exact hl) (by rw [List.length_replicate];omega),show a + (i - a) - a = i - a by omega,List.getElem?_replicate,if_pos (by omega)]
      have h3:i - a < 8:=by omega
      generalize i - a = j at h3
      match j,h3 with
      | 0,_=>rfl
      | 1,_=>rfl
      | 2,_=>rfl
      | 3,_=>rfl
      | 4,_=>rfl
      | 5,_=>rfl
      | 6,_=>rfl
      | 7,_=>rfl
    · rw [if_neg h2]
def FoundC (S:CO) (own n a:Nat) (lim:Int) (e:En Fa) (w:World) (r:Ending) (w':World):Prop:=
  ((∀ p ∈ S.l,p.st ≠ 0)∧r = one 11∧Step S.hl S.hl w w') ∨
  ((∃ i p,Fst S.l i p)∧n ≠ 1∧r = one 0∧Step S.hl S.hl w w') ∨
  ((∃ i p,Fst S.l i p)∧n = 1∧(∃ er,((er = 5∧leftOf e < lim) ∨ (er = 11∧S.P.q.E.length = 32))∧r = one er)∧Step S.hl (S.setP (S.P.setA (put_ S.P.a.mem a (bytes8 0)))).hl w w') ∨
  ((∃ i p,Fst S.l i p)∧n = 1∧lim ≤ leftOf e∧r = one 0∧∃ b,Step S.hl (S.setP ((S.P.setQ (carved S.P.q own e b lim)).setA (put_ S.P.a.mem a (bytes8 S.P.q.next.toNat)))).hl w w')
theorem GotM.acc {P P':PL} {fr fr':List Nat} {own k a:Nat} {e:En Fa} (g:GotM P fr own k a P' fr') (he:find P.q.E own = some e):find P'.q.E own = some { e with q:={ e.q with charged:=e.q.charged + ((costK k:Nat):Int) } }∧P'.q.E = upd P.q.E own { e.q with charged:=e.q.charged + ((costK k:Nat):Int) }∧P'.q.next = P.q.next∧P'.q.E.length = P.q.E.length:=by
  obtain⟨e',q1,_,q3⟩:=g.q
  rw [he] at q1;cases q1
  rw [q3]
  refine⟨find_upd_same he _,rfl,rfl,?_⟩
  show (upd _ _ _).length = _
  unfold upd
  simp
theorem GotM.held {P P':PL} {fr fr':List Nat} {own k a:Nat} {e:En Fa} (g:GotM P fr own k a P' fr') (ok:P.Ok fr) (he:find P.q.E own = some e):Held P' fr' own k a { e with q:={ e.q with charged:=e.q.charged + ((costK k:Nat):Int) } }:=by
  have h0:=(ok.q.fa _ e he).1
  refine⟨(g.acc he).1,by show _ ≤ e.q.charged + _;omega,fun h=>(g.used h).mem_iff.2 (by simp),fun h=>?_⟩
  have hf:=g.frs
  rw [if_pos h] at hf
  obtain⟨x,rfl,hx⟩:=hf
  exact⟨x,by rw [hx];simp,rfl⟩
theorem made_n {S:CO} {fr fr':List Nat} {N K:Nat} (ok:S.Ok fr N K) {h n a i:Nat} {f p:Pl} {e:En Fa} {lim:Int} {P':PL} (hf:pget S.l 1 h = some f) (hfk:f.kind = 1) (hn:n = 8 ∨ 2 ≤ n∧n ≤ 5) (he:find S.P.q.E f.own = some e) (g:GotM S.P fr f.own n a P' fr') (hi:Fst S.l i p) :
    MadeOk S fr f e n a lim 0 i p P' fr':=by
  obtain⟨_,hE,hnx,_⟩:=g.acc he
  refine⟨ok.inv.addN g hi.1 hi.2.1 hn hf hfk,g.same,g.keptL ok.inv.mem,by rw [hnx];omega,fun _=>hE,fun h=>by omega,fun _ j h1 h2=>?_,g.few,g.high ok.inv.mem.pool (by omega),g.keptH ok.inv.mem.pool,g.room.1⟩
  rw [g.mem]
  have:j = a + (j - a):=by omega
  rw [this,put_in (by rw [List.length_replicate];exact g.room.1) (by rw [List.length_replicate];omega),List.getElem?_replicate,if_pos (by omega)]
theorem made_f {S:CO} {fr fr':List Nat} {N K:Nat} (ok:S.Ok fr N K) (hN:N + 1 < 1048576) {h a i b:Nat} {f p:Pl} {e:En Fa} {lim:Int} {P':PL} (hf:pget S.l 1 h = some f) (hfk:f.kind = 1) (he:find S.P.q.E f.own = some e) (h0:0 ≤ lim) (hl:lim ≤ leftOf e - 64) (g:GotM S.P fr f.own 1 a P' fr') (hi:Fst S.l i p) :
    MadeOk S fr f e 1 a lim S.P.q.next.toNat i p ((P'.setQ (carved P'.q f.own { e with q:={ e.q with charged:=e.q.charged + 64 } } b lim)).setA (put_ P'.a.mem a (bytes8 S.P.q.next.toNat))) fr':=by
  obtain⟨hfe,hE,hnx,_⟩:=g.acc he
  have h64:costK 1 = 64:=rfl
  rw [h64] at hfe hE
  have hr:=g.room.1
  rw [h64] at hr
  have hl8:∀ x,(bytes8 x).length = 8:=fun _=>rfl
  have hn0:=ok.inv.mem.pool.q.next0
  have hn1:=ok.next
  have hxx:((S.P.q.next.toNat:Nat):Int) = S.P.q.next:=by omega
  have hlen:=g.same.len
  have okq:(carved P'.q f.own { e with q:={ e.q with charged:=e.q.charged + 64 } } b lim).Ok:=ok_carved g.ok.q hfe b h0 (by show lim ≤ e.q.limit - (e.q.charged + 64 + e.q.given);unfold leftOf at hl;omega) (by rw [hnx];omega)
  have hlm:(put_ P'.a.mem a (bytes8 S.P.q.next.toNat)).length = P'.a.mem.length:=put_len _ _ _ (by rw [hl8];omega)
  have hbt:∀ y ∈ put_ P'.a.mem a (bytes8 S.P.q.next.toNat),y < 256:=by
    intro y hy
    unfold put_ at hy
    simp only [List.mem_append] at hy
    rcases hy with (hy | hy) | hy
    · exact g.ok.bytes y (List.mem_of_mem_take hy)
    · exact bytes8_lt _ y hy
    · exact g.ok.bytes y (List.mem_of_mem_drop hy)
  have ok2:=PL.ok_setA (PL.ok_setQ g.ok okq) (m:=put_ P'.a.mem a (bytes8 S.P.q.next.toNat)) hlm hbt
  have hq:(carved P'.q f.own { e with q:={ e.q with charged:=e.q.charged + 64 } } b lim).E = upd S.P.q.E f.own { e.q with charged:=e.q.charged + 64,given:=e.q.given + lim,kids:=e.q.kids + 1 } ++ [⟨(S.P.q.next.toNat:Int),b,⟨lim,0,0,f.own,0⟩⟩]:=by
    unfold carved
    simp only
    rw [hE,upd_upd,hnx,hxx]
  have hkept:KeptL S.P.a.mem (put_ P'.a.mem a (bytes8 S.P.q.next.toNat)) S.l:=KeptL.of_apart ok.inv.mem (n:=64) (a:=a) (fun c j h=>by
    have k1:Kept S.P.a.mem P'.a.mem c j:=by
      rw [g.mem]
      exact kept_put (by rw [List.length_replicate,h64];exact hr) (by rw [List.length_replicate,h64];exact h)
    exact k1.trans (kept_put (by rw [hl8];omega) (by rw [hl8];omega))) (g.apart ok.inv.mem.pool)
  refine⟨?_,⟨g.same.p,g.same.qt,g.same.db,g.same.aa,g.same.amb,g.same.top,hlm.trans hlen⟩,hkept,?_,fun h=>absurd rfl h,fun _=>⟨hxx,?_,b,hq⟩,fun h=>absurd rfl h,g.few,g.high ok.inv.mem.pool (by omega),fun j c hj hc=>?_,by rw [h64];exact hr⟩
  · exact ok.inv.addF g hi.1 hi.2.1 hf hfk hxx he hq rfl (fun j=>rfl) ok2
  · show P'.q.next + 1 ≤ _;rw [hnx];omega
  · show P'.q.next + 1 = _;rw [hnx]
  · have:=(g.apart ok.inv.mem.pool).1 j c hc
    rw [h64] at this
    exact (g.keptH ok.inv.mem.pool j c hj hc).trans (kept_put (by rw [hl8];omega) (by rw [hl8];omega))
open Go.RowKit
theorem tcells_len (ts:List (Nat × Nat)):(tcells ts).length = ts.length * 2:=by
  induction ts with
  | nil=>rfl
  | cons x r ih=>unfold tcells at *;rw [List.flatMap_cons,List.length_append,ih];simp;omega
theorem tcells_app (a b:List (Nat × Nat)):tcells (a ++ b) = tcells a ++ tcells b:=by unfold tcells;rw [List.flatMap_append]
theorem infoThing:(Tryz.prog.info? 298).map (fun i=>(i.zero,i.size,i.bytes)) = some (some (.agg #[.int .i64 0,.int .i64 0]),2,16):=by kernel_rfl
def GAddP (g per now:Nat) (rv:OV) (ts:List (Nat × Nat)) (x:Nat) (w:World) (r:Ending) (w':World):Prop:=∃ rv',r = .returned (.int .i64 ((ts.length + 1:Nat):Int))∧ovOk rv' (ts.length + 1)∧Step (qhl g per now rv ts) (qhl g per now rv' (ts ++ [(x,now + per)])) w w'
theorem gadd_step {w:World} {g per now:Nat} {rv:OV} {ts:List (Nat × Nat)} (h:Sep w (qhl g per now rv ts)) (hok:ovOk rv ts.length) (hl:ts.length ≤ 256) (x:Nat) :
    ∃ rv' w',(Builtin.append_ #[265,265] 265 #[ovOf rv ts.length,.slice (some ⟨w.heap.size,0,none⟩) 1 1]).run Tryz.prog (w.drew.alloc (.cells #[.int .i64 (x:Int),.int .i64 ((now + per:Nat):Int)] 298)) = .ok (ovOf rv' (ts.length + 1)) w' ∧
      w'.cell? ⟨g,0,none⟩ = some (.int .i64 (per:Int))∧w'.cell? ⟨g,1,none⟩ = some (.int .i64 (now:Int))∧w'.cell? ⟨g,2,none⟩ = some (ovOf rv ts.length)∧(∀ i,w'.frozen? ⟨g,i,none⟩ = false) ∧
      (w'.setCell ⟨g,2,none⟩ (ovOf rv' (ts.length + 1))).cell? ⟨g,2,none⟩ = some (ovOf rv' (ts.length + 1)) ∧
      ovOk rv' (ts.length + 1)∧GAddP g per now rv ts x w (.returned (.int .i64 ((ts.length + 1:Nat):Int))) (w'.setCell ⟨g,2,none⟩ (ovOf rv' (ts.length + 1))):=by
  obtain⟨i0,hi,hz0,hz1,hz2⟩:=info_parts infoThing
  have h1:Sep (w.drew.alloc (.cells #[.int .i64 (x:Int),.int .i64 ((now + per:Nat):Int)] 298)) (ovH rv 298 2 (tcells ts) ++ [(g,isC 267 [.int .i64 (per:Int),.int .i64 (now:Int),ovOf rv ts.length])]):=by
    refine Sep.perm (h.drew.alloc _) ?_
    unfold qhl
    exact (List.perm_append_singleton _ _).symm
  have hsrc:Src Tryz.prog 2 265 (.slice (some ⟨w.heap.size,0,none⟩) 1 1) 1 [.int .i64 (x:Int),.int .i64 ((now + per:Nat):Int)] (w.drew.alloc (.cells #[.int .i64 (x:Int),.int .i64 ((now + per:Nat):Int)] 298)):=by
    refine Src.ofSlice _ Tryz.underlying265 ⟨w.heap.size,0,none⟩ 1 1 _ rfl ?_ ?_
    · intro j u hj
      have:=(Cells.new w.drew 298 [.int .i64 (x:Int),.int .i64 ((now + per:Nat):Int)]).cell j u hj
      rw [addp,Nat.zero_add]
      exact this
    · intro u hu
      simp only [List.mem_cons,List.not_mem_nil,or_false] at hu
      rcases hu with rfl | rfl <;> rfl
  obtain⟨rv',w',hr,hok',st⟩:=ov_append (P:=Tryz.prog) (B:=[(g,isC 267 [.int .i64 (per:Int),.int .i64 (now:Int),ovOf rv ts.length])]) h1 hok (tcells_len ts) i0 (.agg #[.int .i64 0,.int .i64 0]) 16 Tryz.underlying265 hi hz0 hz1 hz2 rfl _ hsrc (by omega) (by omega) (by omega)
  have hc:=st.sep.cells (b:=g) (T:=267) (cs:=[.int .i64 (per:Int),.int .i64 (now:Int),ovOf rv ts.length]) (by simp)
  have s2:=Sep.set (A:=ovH rv' 298 2 (tcells ts ++ [.int .i64 (x:Int),.int .i64 ((now + per:Nat):Int)])) (B:=[]) st.sep 2 (ovOf rv' (ts.length + 1))
  refine⟨rv',w',hr,hc.cell 0 _ rfl,hc.cell 1 _ rfl,hc.cell 2 _ rfl,hc.free,(hc.set 2 _).cell 2 _ rfl,hok',rv',rfl,hok',?_⟩
  have st':Step (qhl g per now rv ts) _ w _:=((st.trans s2).from_alloc.from_drew).perm (by unfold qhl;exact List.perm_append_singleton _ _) (List.Perm.refl _)
  refine st'.perm (List.Perm.refl _) ?_
  unfold qhl
  rw [tcells_app,List.length_append]
  exact List.perm_append_singleton _ _
set_option maxHeartbeats 4000000 in
set_option maxRecDepth 100000 in
theorem gadd_any {w:World} {g per now:Nat} {rv:OV} {ts:List (Nat × Nat)} (h:Sep w (qhl g per now rv ts)) (hok:ovOk rv ts.length) (hl:ts.length ≤ 256) (hper:per ≤ 16) (hnow:now ≤ 1048576) {gb x:Nat} (hx:w.cell? ⟨gb,0,none⟩ = some (.int .i64 (x:Int))) :
    Calls Tryz.prog 173 #[.pointer (some ⟨g,0,none⟩),.slice (some ⟨gb,0,none⟩) 1 1] w (GAddP g per now rv ts x w):=by
  have hc:Cells w g 267 [.int .i64 (per:Int),.int .i64 (now:Int),ovOf rv ts.length]:=h.cells (by simp [qhl])
  have c0:=hc.cell 0 _ rfl
  have c1:=hc.cell 1 _ rfl
  have c2:=hc.cell 2 _ rfl
  have f2:=hc.free 2
  have hlt:=hc.lt
  obtain⟨rv',w',hr,d0,d1,d2,df,e2,hok',hq⟩:=gadd_step h hok hl x
  obtain⟨g',off',cap',rfl⟩:∃ g' off' cap',rv' = some (g',off',cap'):=by
    cases rv' with
    | none=>exact absurd hok' (Nat.succ_ne_zero _)
    | some q=>exact⟨q.1,q.2.1,q.2.2,rfl⟩
  rw [show ovOf (some (g',off',cap')) (ts.length + 1) = .slice (some ⟨g',off',none⟩) (ts.length + 1) cap' from rfl] at hr e2 hq
  rw [Int.natCast_add] at hr hq
  have HR:=hidden hr
  have HQ:=hidden hq
  have df2:=df 2
  have hw:IntKind.i64.wrap ((now:Int) + (per:Int)) = (now:Int) + (per:Int):=Go.IntWalk.i64_in _ (by omega)
  have hw2:wrap64 ((now:Int) + (per:Int)) = (now:Int) + (per:Int):=Go.IntWalk.wrap64_in _ (by omega)
  generalize GAddP g per now rv ts x w = Q at *
  generalize ovOf rv ts.length = v0 at *
  generalize ts.length = n at *
  clear h hok hc hr hq df hok'
  go_enter Tryz.func173,Tryz.ntmps173
  go_wp2_with fail
  go_loopg [6,11] 2 (fun gk _ iv wr=>(iv = .int .i64 0∧gk = 2∧wr = w) ∨ (iv = .int .i64 1∧gk = 1∧wr = w'.setCell ⟨g,2,none⟩ (.slice (some ⟨g',off',none⟩) (n + 1) cap')))
  case atStart=>exact .inl ⟨rfl,rfl,rfl⟩
  case round =>
    rcases hrel with ⟨rfl,rfl,rfl⟩ | ⟨rfl,rfl,rfl⟩
    · go_wp2_with fail
      go_region_law (refine step_append_runI rfl _ _ 265 265 rfl _ _ (by simp [Act.eval]) (by simp [Act.eval]) HR.out ?_)
      all_goals
        go_wp2_with fail
        go_roundg 1
        case measure=>omega
        case rel=>exact .inr ⟨by go_num,rfl,rfl⟩
    · go_wp2_with fail
      first | exact HQ.out | (go_ret;exact HQ.out)
open Go.RowKit
def NewG (per:Nat) (H:HL) (w:World) (r:Ending) (w':World):Prop:=∃ g,r = .returned (.pointer (some ⟨g,0,none⟩))∧Step H (qhl g per 0 none [] ++ H) w w'
set_option maxHeartbeats 1000000 in
theorem gnew_any {w:World} {H:HL} (h:Sep w H) (per:Nat) (h1:1 ≤ per) (h2:per ≤ 16):Calls Tryz.prog 64 #[.int .i64 (per:Int)] w (NewG per H w):=by
  have HR:Hid (NewG per H w (.returned (.pointer (some ⟨w.heap.size,0,none⟩))) (w.alloc (.cells #[.int .i64 (per:Int),.int .i64 0,.slice none 0 0] 267))):=⟨_,rfl,h.new 267 [.int .i64 (per:Int),.int .i64 0,.slice none 0 0]⟩
  have hd1:decide ((per:Int) < 1) = false:=by rw [decide_eq_false_iff_not];omega
  have hd2:decide ((16:Int) < (per:Int)) = false:=by rw [decide_eq_false_iff_not];omega
  have hp1:(1:Int) ≤ (per:Int):=by omega
  have hp2:(per:Int) ≤ 16:=by omega
  clear h
  go_enter Tryz.func64,Tryz.ntmps64
  go_wp2_with fail
  first | exact HR.out | (go_ret;exact HR.out)
open Go.RowKit
set_option maxHeartbeats 1000000 in
theorem qcarve_quota {w:World} {q:QT} (h:Sep w q.hl) (ok:q.Ok) {id:Int} {e:En Fa} (hf:find q.E id = some e) (limit:Int) (h0:0 ≤ limit) (hq:e.q.limit - (e.q.charged + e.q.given) < limit) :
    Calls Tryz.prog 157 #[ptr q.t,.int .i64 id,.int .i64 limit] w (Told w (.tuple #[.int .i64 0,.int .i64 5])):=by
  have k1:=qat_some h hf
  obtain⟨a1,a2,a3,a4,_⟩:=ok.fa id e hf
  have k2:=qfits_any (QT.fac h hf) a1 a2 a3 a4 limit
  have hd:decide (limit ≤ e.q.limit - (e.q.charged + e.q.given)) = false:=by rw [decide_eq_false_iff_not];omega
  rw [hd] at k2
  clear h hf ok hd hq
  unfold ptr at *
  go_enter Tryz.func157,Tryz.ntmps157
  go_wp2_with (first | (go_at_call 130;refine k1.mono ?_;rintro e w' ⟨rfl,rfl⟩) | (go_at_call 224;refine k2.mono ?_;rintro e w1 ⟨rfl,hb⟩;have HB:=hidden hb;clear hb))
  go_ret2
  exact⟨rfl,HB.out⟩
theorem run_lenMap {P:Program} {w:World} {m:Nat} {kv:List (Value × Value)} (h:MapIs w m kv) {t k e:TypeId} (ht:P.underlying t = some (.map k e)) (ty:TypeId):(Builtin.len_ #[t] ty #[.map (some m)]).run P w = .ok (.int .i64 ((kv.length:Nat):Int)) w:=by
  obtain⟨es,clock,ho,_,hr⟩:=h
  have:kv.length = es.size:=by rw [← hr];simp
  rw [this]
  simp [Builtin.len_,run_underlying ht,MapKept.run_getObj_map ho,goInt,Result.andThen]
theorem QT.len {w:World} {q:QT} (h:Sep w q.hl) (ty:TypeId):(Builtin.len_ #[252] ty #[.map (some q.m)]).run Tryz.prog w = .ok (.int .i64 ((q.E.length:Nat):Int)) w:=by
  have:=run_lenMap (QT.map h) Tryz.underlying252 ty
  simpa [kvs] using this
set_option maxHeartbeats 1000000 in
theorem qcarve_full {w:World} {q:QT} (h:Sep w q.hl) (ok:q.Ok) {id:Int} {e:En Fa} (hf:find q.E id = some e) (limit:Int) (h0:0 ≤ limit) (hq:limit ≤ e.q.limit - (e.q.charged + e.q.given)) (hl:q.E.length = 32) :
    Calls Tryz.prog 157 #[ptr q.t,.int .i64 id,.int .i64 limit] w (Told w (.tuple #[.int .i64 0,.int .i64 11])):=by
  have k1:=qat_some h hf
  obtain⟨a1,a2,a3,a4,_⟩:=ok.fa id e hf
  have k2:=qfits_any (QT.fac h hf) a1 a2 a3 a4 limit
  have hd:decide (limit ≤ e.q.limit - (e.q.charged + e.q.given)) = true:=by rw [decide_eq_true_eq];exact hq
  rw [hd] at k2
  have HN:Hid (∀ w1,Below w.heap.size w w1→w1.cell? ⟨q.t,0,none⟩ = some (.map (some q.m))∧∀ ty,(Builtin.len_ #[252] ty #[.map (some q.m)]).run Tryz.prog w1 = .ok (.int .i64 32) w1):=fun w1 hb=>by
    have s1:=(h.grown hb).sep
    refine⟨QT.c0 s1,fun ty=>?_⟩
    have:=QT.len s1 ty
    rw [hl] at this
    exact this
  clear h hf ok hd hq hl
  unfold ptr at *
  go_enter Tryz.func157,Tryz.ntmps157
  go_wp2_with (first | (go_at_call 130;refine k1.mono ?_;rintro e w' ⟨rfl,rfl⟩) | (go_at_call 224;refine k2.mono ?_;rintro e w1 ⟨rfl,hb⟩;obtain⟨d0,dl⟩:=HN.out w1 hb;have HB:=hidden hb;clear hb))
  go_ret2
  exact⟨rfl,HB.out⟩
set_option maxHeartbeats 2000000 in
set_option maxRecDepth 100000 in
theorem qcarve_ok {w:World} {q:QT} (h:Sep w q.hl) (ok:q.Ok) {id:Int} {e:En Fa} (hf:find q.E id = some e) (limit:Int) (h0:0 ≤ limit) (hq:limit ≤ e.q.limit - (e.q.charged + e.q.given)) (hl:q.E.length ≠ 32) (hn:q.next + 1 < 1048576) :
    Calls Tryz.prog 157 #[ptr q.t,.int .i64 id,.int .i64 limit] w (CarvedQ w q id e limit):=by
  have k1:=qat_some h hf
  obtain⟨a1,a2,a3,a4,a5,a6,_⟩:=ok.fa id e hf
  have k2:=qfits_any (QT.fac h hf) a1 a2 a3 a4 limit
  have hd:decide (limit ≤ e.q.limit - (e.q.charged + e.q.given)) = true:=by rw [decide_eq_true_eq];exact hq
  rw [hd] at k2
  have hn0:=ok.next0
  have HN:Hid (∀ w1,Below w.heap.size w w1→w1.cell? ⟨q.t,0,none⟩ = some (.map (some q.m))∧w1.cell? ⟨q.t,1,none⟩ = some (.int .i64 q.next)∧w1.frozen? ⟨q.t,1,none⟩ = false∧(∀ ty,(Builtin.len_ #[252] ty #[.map (some q.m)]).run Tryz.prog w1 = .ok (.int .i64 ((q.E.length:Nat):Int)) w1) ∧
      MapInt ((w1.setCell ⟨q.t,1,none⟩ (.int .i64 (q.next + 1))).alloc (.cells #[.int .i64 limit,.int .i64 0,.int .i64 0,.int .i64 id,.int .i64 0] 236)) q.m (kvs q.E) ∧
      ∀ w4,MapInt w4 q.m (put (kvs q.E) q.next (.pointer (some ⟨w1.heap.size,0,none⟩)))→((w1.setCell ⟨q.t,1,none⟩ (.int .i64 (q.next + 1))).alloc (.cells #[.int .i64 limit,.int .i64 0,.int .i64 0,.int .i64 id,.int .i64 0] 236)).grownBy w4 (some q.m) →
        w4.cell? ⟨e.b,2,none⟩ = some (.int .i64 e.q.given)∧w4.cell? ⟨e.b,4,none⟩ = some (.int .i64 e.q.kids)∧(∀ i,w4.frozen? ⟨e.b,i,none⟩ = false) ∧
        CarvedQ w q id e limit (.returned (.tuple #[.int .i64 q.next,.int .i64 0])) ((w4.setCell ⟨e.b,2,none⟩ (.int .i64 (e.q.given + limit))).setCell ⟨e.b,4,none⟩ (.int .i64 (e.q.kids + 1)))):=fun w1 hb=>by
    have s1:=h.grown hb
    have hm:MapInt (w1.setCell ⟨q.t,1,none⟩ (.int .i64 (q.next + 1))) q.m (kvs q.E):=(QT.map s1.sep).set _ _
    refine⟨QT.c0 s1.sep,QT.c1 s1.sep,(s1.sep.cells (T:=254) (cs:=[.map (some q.m),.int .i64 q.next]) (by simp [QT.hl])).free 1,QT.len s1.sep,hm.alloc _,fun w4 hm4 hg=>?_⟩
    obtain⟨c1,c2,c3,st⟩:=QT.carve s1.sep ok hf limit w4 hm4 hg
    exact⟨c1,c2,c3,rfl,_,s1.trans st⟩
  have hw:IntKind.i64.wrap (q.next + 1) = q.next + 1:=Go.IntWalk.i64_in _ (by omega)
  have hw2:IntKind.i64.wrap (e.q.given + limit) = e.q.given + limit:=Go.IntWalk.i64_in _ (by omega)
  have hw3:IntKind.i64.wrap (e.q.kids + 1) = e.q.kids + 1:=Go.IntWalk.i64_in _ (by have:=ok.next1;omega)
  have hb32:(((q.E.length:Nat):Int) == 32) = false:=by simp;omega
  generalize hQ:CarvedQ w q id e limit = Q at *
  clear h hf ok hd hq hl hn hQ
  unfold ptr at *
  generalize ((q.E.length:Nat):Int) = n32 at *
  go_enter Tryz.func157,Tryz.ntmps157
  go_wp2_with (first | (go_at_call 130;refine k1.mono ?_;rintro e w' ⟨rfl,rfl⟩) | (go_at_call 224;refine k2.mono ?_;rintro e w1 ⟨rfl,hb⟩;obtain⟨d0,d1,df,dl,hm,hfin⟩:=HN.out w1 hb;have HM:=hidden hm;have HF:=hidden hfin;clear hb hm hfin HN) | (refine wpList_mapUpdate_int _ rfl _ _ _ 252 3 229 rfl Tryz.underlying252 Tryz.underlying3 q.m (kvs q.E) HM.out q.next (.pointer (some ⟨w1.heap.size,0,none⟩)) rfl rfl rfl ?_;intro w4 hm1 hg1;obtain⟨e2,e4,ef,hq4⟩:=HF.out w4 hm1 hg1;have ef2:=ef 2;have ef4:=ef 4;have HQ4:=hidden hq4;clear hm1 hg1 ef hq4))
  first | exact HQ4.out | (go_ret2;exact HQ4.out)
open Go.RowKit
theorem Inv.lok {P:PL} {l:List Pl} {fr:List Nat} {xc:Int→Int} {zs:List Nat} (v:Inv P l fr xc zs):LOk l:=⟨v.len,fun p hp=>⟨by have:=(v.st p hp).1;omega,(v.st p hp).2⟩⟩
theorem new3 {w w1:World} {T:TypeId} {a b c:Value} (hb:Below (w.alloc (.cells #[a,b,c] T)).heap.size (w.alloc (.cells #[a,b,c] T)) w1):Below w.heap.size w w1∧w1.cell? ⟨w.heap.size,0,none⟩ = some a∧w1.cell? ⟨w.heap.size,1,none⟩ = some b∧w1.cell? ⟨w.heap.size,2,none⟩ = some c∧(∀ i,w1.frozen? ⟨w.heap.size,i,none⟩ = false)∧w.heap.size < w1.heap.size:=by
  have hc:=(Cells.new w T [a,b,c]).same (hb.block w.heap.size (by simp))
  refine⟨((Below.refl _ _).alloc (Nat.le_refl _) _).trans (hb.mono (by simp)),hc.cell 0 _ rfl,hc.cell 1 _ rfl,hc.cell 2 _ rfl,hc.free,?_⟩
  have:=hb.size
  simp at this;omega
theorem below_alloc {w w1:World} {o:Obj} (hb:Below (w.alloc o).heap.size (w.alloc o) w1):Below w.heap.size w w1:=((Below.refl _ _).alloc (Nat.le_refl _) _).trans (hb.mono (by simp))
theorem below3 {w w1:World} (h:Below w.heap.size w w1) (a b c:Value) (o:Obj):Below w.heap.size w ((((w1.setCell ⟨w.heap.size,0,none⟩ a).setCell ⟨w.heap.size,1,none⟩ b).setCell ⟨w.heap.size,2,none⟩ c).alloc o):=
  (((h.setCell (Nat.le_refl _) _).setCell (Nat.le_refl _) _).setCell (Nat.le_refl _) _).alloc (by have:=h.size;simpa [World.setCell] using this) _
set_option maxHeartbeats 2000000 in
theorem cof_gen {w:World} {S:CO} (h:Sep w S.hl) {x:Nat} {a b c e kind:Int} (hG:Calls Tryz.prog 93 #[.pointer (some ⟨S.t,0,none⟩),.int .u32 (x:Int)] (w.alloc (.cells #[.int .i64 0,.int .i64 0,.int .i64 0] 69)) (Told (w.alloc (.cells #[.int .i64 0,.int .i64 0,.int .i64 0] 69)) (.tuple #[.agg #[.int .i64 a,.int .i64 b,.int .i64 c],.int .i64 e])))
    (hc:e ≠ 0 ∨ kind = 0 ∨ a = kind):Calls Tryz.prog 30 #[.pointer (some ⟨S.c,0,none⟩),.int .u32 (x:Int),.int .i64 kind] w (Told w (.tuple #[.agg #[.int .i64 a,.int .i64 b,.int .i64 c],.int .i64 e])):=by
  have c1:=CO.c1 (h.alloc (.cells #[.int .i64 0,.int .i64 0,.int .i64 0] 69))
  have hcc:e ≠ 0 ∨ e = 0∧kind = 0 ∨ e = 0∧kind ≠ 0∧a = kind:=by omega
  clear h hc
  rcases hcc with he | ⟨rfl,rfl⟩ | ⟨rfl,hk,rfl⟩
  · have hb1:(e == 0) = false:=by simpa using he
    go_enter Tryz.func30,Tryz.ntmps30
    go_wp2_with (go_at_call 93;refine hG.mono ?_;rintro r w1 ⟨rfl,hb⟩;obtain⟨hb,e0,e1,e2,ef,hlt⟩:=new3 hb;have HB:=hidden hb;have f0:=ef 0;have f1:=ef 1;have f2:=ef 2;clear hb ef)
    refine bodyPost_ret (v:=.tuple #[.agg #[.int .i64 a,.int .i64 b,.int .i64 c],.int .i64 e]) (by simp [results,Tryz.results30,go_sem,e0,e1,e2,hlt]) rfl ⟨rfl,below3 HB.out _ _ _ _⟩
  · go_enter Tryz.func30,Tryz.ntmps30
    go_wp2_with (go_at_call 93;refine hG.mono ?_;rintro r w1 ⟨rfl,hb⟩;obtain⟨hb,e0,e1,e2,ef,hlt⟩:=new3 hb;have HB:=hidden hb;have f0:=ef 0;have f1:=ef 1;have f2:=ef 2;clear hb ef)
    refine bodyPost_ret (v:=.tuple #[.agg #[.int .i64 a,.int .i64 b,.int .i64 c],.int .i64 0]) (by simp [results,Tryz.results30,go_sem,e0,e1,e2,hlt]) rfl ⟨rfl,below3 HB.out _ _ _ _⟩
  · have hb1:(a == 0) = false:=by simpa using hk
    go_enter Tryz.func30,Tryz.ntmps30
    go_wp2_with (go_at_call 93;refine hG.mono ?_;rintro r w1 ⟨rfl,hb⟩;obtain⟨hb,e0,e1,e2,ef,hlt⟩:=new3 hb;have HB:=hidden hb;have f0:=ef 0;have f1:=ef 1;have f2:=ef 2;clear hb ef)
    refine bodyPost_ret (v:=.tuple #[.agg #[.int .i64 a,.int .i64 b,.int .i64 c],.int .i64 0]) (by simp [results,Tryz.results30,go_sem,e0,e1,e2,hlt]) rfl ⟨rfl,below3 HB.out _ _ _ _⟩
set_option maxHeartbeats 2000000 in
theorem cof_kind {w:World} {S:CO} (h:Sep w S.hl) {x:Nat} {a b c kind:Int} (hG:Calls Tryz.prog 93 #[.pointer (some ⟨S.t,0,none⟩),.int .u32 (x:Int)] (w.alloc (.cells #[.int .i64 0,.int .i64 0,.int .i64 0] 69)) (Told (w.alloc (.cells #[.int .i64 0,.int .i64 0,.int .i64 0] 69)) (.tuple #[.agg #[.int .i64 a,.int .i64 b,.int .i64 c],.int .i64 0])))
    (hk:kind ≠ 0) (ha:a ≠ kind):Calls Tryz.prog 30 #[.pointer (some ⟨S.c,0,none⟩),.int .u32 (x:Int),.int .i64 kind] w (Told w (.tuple #[.agg #[.int .i64 0,.int .i64 0,.int .i64 0],.int .i64 10])):=by
  have c1:=CO.c1 (h.alloc (.cells #[.int .i64 0,.int .i64 0,.int .i64 0] 69))
  have hb1:(kind == 0) = false:=by simpa using hk
  have hb2:(a == kind) = false:=by simpa using ha
  have hb3:(kind != 0) = true:=by simpa using hk
  have hb4:(a != kind) = true:=by simpa using ha
  clear h hk ha
  go_enter Tryz.func30,Tryz.ntmps30
  go_wp2_with (go_at_call 93;refine hG.mono ?_;rintro r w1 ⟨rfl,hb⟩;obtain⟨hb,e0,e1,e2,ef,hlt⟩:=new3 hb;have HB:=hidden hb;have f0:=ef 0;have f1:=ef 1;have f2:=ef 2;clear hb ef)
  refine bodyPost_ret (v:=.tuple #[.agg #[.int .i64 0,.int .i64 0,.int .i64 0],.int .i64 10]) (by simp [results,Tryz.results30,go_sem,e0,e1,e2,hlt]) rfl ⟨rfl,below3 HB.out _ _ _ _⟩
section
variable {w:World} {S:CO} {fr:List Nat} {N K:Nat}
theorem cof_none (h:Sep w S.hl) (ok:LOk S.l) {x:Nat} (hx:x < 4294967296) (kind:Int) (hp:pget S.l 1 x = none):Calls Tryz.prog 30 #[.pointer (some ⟨S.c,0,none⟩),.int .u32 (x:Int),.int .i64 kind] w (Told w (.tuple #[zobj,.int .i64 8])):=
  cof_gen h (hget_none (h:=S.ht) (CO.sT (h.alloc _)) ok hx hp) (.inl (by decide))
theorem cof_some (h:Sep w S.hl) (ok:LOk S.l) {x:Nat} (hx:x < 4294967296) (kind:Int) {p:Pl} (hp:pget S.l 1 x = some p) (hk:kind = 0 ∨ (p.kind:Int) = kind):Calls Tryz.prog 30 #[.pointer (some ⟨S.c,0,none⟩),.int .u32 (x:Int),.int .i64 kind] w (Told w (.tuple #[p.obj,.int .i64 0])):=
  cof_gen h (hget_some (h:=S.ht) (CO.sT (h.alloc _)) ok hx hp) (.inr hk)
theorem cof_other (h:Sep w S.hl) (ok:LOk S.l) {x:Nat} (hx:x < 4294967296) (kind:Int) {p:Pl} (hp:pget S.l 1 x = some p) (h0:kind ≠ 0) (hk:(p.kind:Int) ≠ kind):Calls Tryz.prog 30 #[.pointer (some ⟨S.c,0,none⟩),.int .u32 (x:Int),.int .i64 kind] w (Told w (.tuple #[zobj,.int .i64 10])):=
  cof_kind h (hget_some (h:=S.ht) (CO.sT (h.alloc _)) ok hx hp) h0 hk
end
end Go.Proofs.YtlakjlmaboioiaaGreatDoor
