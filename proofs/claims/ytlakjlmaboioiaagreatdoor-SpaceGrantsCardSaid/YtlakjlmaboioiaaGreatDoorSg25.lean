/- SpaceGrants returns true at every input. No condition. Part of its proof. -/
import Derived.Test.YtlakjlmaboioiaaGreatDoorSg19
import Derived.Test.YtlakjlmaboioiaaGreatDoorSg21
import Derived.Test.YtlakjlmaboioiaaGreatDoorSg12
import Derived.Test.YtlakjlmaboioiaaGreatDoorSg17
import Derived.Test.YtlakjlmaboioiaaGreatDoorSg22
import Derived.Test.YtlakjlmaboioiaaGreatDoorSg24
set_option linter.unusedVariables false
namespace Go.Proofs.YtlakjlmaboioiaaGreatDoor
open Go.RowKit
def fromT (N:List (En Nd)) (x z:Int):Value:=match fromV N x z with
  | none=>.tuple #[.agg #[.int .i64 0,.int .i64 0],.bool false]
  | some p=>.tuple #[.agg #[.int .i64 p.1,.int .i64 p.2],.bool true]
def parV (N:List (En Nd)) (id:Int):Int:=match find N id with
  | none=>0
  | some n=>n.q.par
theorem fparent_any {w:World} {q:FO} (h:Sep w q.hl) (id:Int):Calls Tryz.prog 87 #[.pointer (some ⟨q.f,0,none⟩),.int .i64 id] w fun r w'=>r = .returned (.int .i64 (parV q.N id))∧w = w':=by
  unfold parV
  cases hf:find q.N id with
  | none=>exact fparent_none h hf
  | some e=>exact fparent_some h hf
theorem fowner_any {w:World} {q:FO} (h:Sep w q.hl) (id:Int):∃ (a b:Int) (c:Bool),((find q.N id = none∧a = 0∧b = 0∧c = false) ∨ ∃ m,find q.N id = some m∧a = m.q.sp∧b = m.q.sl∧c = true)∧Calls Tryz.prog 86 #[.pointer (some ⟨q.f,0,none⟩),.int .i64 id] w fun r w'=>r = .returned (.tuple #[.int .i64 a,.int .i64 b,.bool c])∧Below w.heap.size w w':=by
  cases hf:find q.N id with
  | none=>exact⟨0,0,false,.inl ⟨rfl,rfl,rfl,rfl⟩,(fowner_none h hf).mono fun r w' ⟨h1,h2⟩=>⟨h1,h2 ▸ Below.refl _ _⟩⟩
  | some e=>exact⟨e.q.sp,e.q.sl,true,.inr ⟨e,rfl,rfl,rfl,rfl⟩,fowner_some h hf⟩
set_option maxHeartbeats 2000000 in
set_option maxRecDepth 100000 in
theorem sfrom_any {w:World} {Z:SP} (hs:Sep w Z.hl) (ok:Z.F.Ok) {x z:Nat} (hx:x < 4294967296) (hz:z < 256) :
    Calls Tryz.prog 22 #[.pointer (some ⟨Z.s,0,none⟩),.int .u32 (x:Int),.int .i64 (z:Int)] w (Told w (fromT Z.F.N (x:Int) (z:Int))):=by
  have b1:Below w.heap.size w (w.alloc (.cells #[.int .i64 0,.int .i64 0] 46)):=(Below.refl _ _).alloc (Nat.le_refl _) _
  have s1:=(hs.grown b1).sep
  have c1:=SP.c1 s1
  have c1d:(w.alloc (.cells #[.int .i64 0,.int .i64 0] 46)).drew.cell? ⟨Z.s,1,none⟩ = some (.pointer (some ⟨Z.F.f,0,none⟩)):=c1
  have g1:(0:Int) ≤ (x:Int):=by omega
  have g2:(x:Int) < 9223372036854775808:=by omega
  have g3:(0:Int) ≤ (z:Int):=by omega
  have g4:(z:Int) < 9223372036854775808:=by omega
  have kf:=ffind_any (SP.sF s1.drew) ok (sp:=(x:Int)) (sl:=(z:Int)) (spot_ok (p:=((x:Int),(z:Int))) g1 g2 g3 g4)
  clear g1 g2 g3 g4
  have kp:=fparent_any (SP.sF s1.drew) (ownN Z.F.N (x:Int) (z:Int))
  obtain⟨a,b,c,hcase,ko⟩:=fowner_any (SP.sF s1.drew) (parV Z.F.N (ownN Z.F.N (x:Int) (z:Int)))
  have hv:fromT Z.F.N (x:Int) (z:Int) = .tuple #[.agg #[.int .i64 a,.int .i64 b],.bool c]:=by
    unfold fromT fromV
    unfold parV at hcase
    cases hf:find Z.F.N (ownN Z.F.N (x:Int) (z:Int)) with
    | none =>
      rw [hf] at hcase
      simp only at hcase
      rcases hcase with ⟨_,rfl,rfl,rfl⟩ | ⟨m,hm,_⟩
      · rfl
      · rw [ok.n.zero] at hm;cases hm
    | some n =>
      rw [hf] at hcase
      simp only at hcase ⊢
      rcases hcase with ⟨h0,rfl,rfl,rfl⟩ | ⟨m,hm,rfl,rfl,rfl⟩
      · rw [h0];rfl
      · rw [hm];rfl
  rw [hv]
  have HO:Hid (∀ w1,Below (w.alloc (.cells #[.int .i64 0,.int .i64 0] 46)).drew.heap.size (w.alloc (.cells #[.int .i64 0,.int .i64 0] 46)).drew w1→w1.cell? ⟨Z.s,1,none⟩ = some (.pointer (some ⟨Z.F.f,0,none⟩))∧Cells w1 w.heap.size 46 [.int .i64 0,.int .i64 0]∧∀ u v,Below w.heap.size w ((w1.setCell ⟨w.heap.size,0,none⟩ u).setCell ⟨w.heap.size,1,none⟩ v)):=fun w1 hb=>by
    have hb':Below (w.alloc (.cells #[.int .i64 0,.int .i64 0] 46)).heap.size (w.alloc (.cells #[.int .i64 0,.int .i64 0] 46)) w1:=((Below.refl _ _).drew).trans hb
    have hbz:Below w.heap.size w w1:=below_alloc hb'
    exact⟨SP.c1 (hs.grown hbz).sep,(Cells.new w 46 [.int .i64 0,.int .i64 0]).same (hb'.block w.heap.size (by simp)),fun u v=>(hbz.setCell (Nat.le_refl _) _).setCell (Nat.le_refl _) _⟩
  generalize parV Z.F.N (ownN Z.F.N (x:Int) (z:Int)) = pid at *
  generalize ownN Z.F.N (x:Int) (z:Int) = oid at *
  have hx0:(0:Int) ≤ (x:Int):=by omega
  have hx1:(x:Int) < 4294967296:=by omega
  have hwx:IntKind.i64.wrap (x:Int) = (x:Int):=Go.IntWalk.i64_in _ (by omega)
  clear hs ok hx hz hcase hv b1 s1
  go_enter Tryz.func22,Tryz.ntmps22
  go_wp2_with fail
  go_region_held3 (fun w'=>w'.cell? ⟨Z.s,1,none⟩ = some (.pointer (some ⟨Z.F.f,0,none⟩))) (first | exact c1 | exact c1d | exact hcell)
    (first | (go_at_call 88;refine kf.mono ?_;rintro r w' ⟨rfl,rfl⟩) | (go_at_call 87;refine kp.mono ?_;rintro r w' ⟨rfl,rfl⟩) | (go_at_call 86;refine ko.mono ?_;rintro r w1 ⟨rfl,hb⟩;obtain⟨hcell,hres,hz⟩:=HO.out w1 hb;have HZ:=hidden hz;have e0:=hres.cell 0 _ rfl;have e1:=hres.cell 1 _ rfl;have f0:=hres.free 0;have f1:=hres.free 1;have hlt:=hres.lt;clear hz hres hb HO))
  go_wp2_with fail
  refine bodyPost_ret (v:=.tuple #[.agg #[.int .i64 a,.int .i64 b],.bool c]) (by simp [results,Tryz.results22,go_sem,e0,e1]) rfl ⟨rfl,HZ.out _ _⟩
open Go.RowKit
structure MkS (S:CO) (per:Nat) (limit ch:Int) (n N:Nat) (l:List Pl):Prop where
  ok:S.Ok [] N 0
  tpi:TPI S fun _=>TB.emp
  ts:S.ts = []
  now:S.now = 0
  per:S.period = per
  top:S.P.d.top = 6
  ps:S.P.d.ps.length ≤ n
  q:∃ b,S.P.q.E = [⟨0,b,⟨limit,ch,0,-1,0⟩⟩]
  l:S.l = l
def MkQ (c:Nat) (per:Nat) (limit ch:Int) (n N:Nat) (L:List Pl→Prop) (w0 wr:World):Prop:=∃ S l,S.c = c∧L l∧MkS S per limit ch n N l∧Step [] S.hl w0 wr
theorem newL_task {a:Nat} {i:Nat} {p:Pl} (h:(newL a)[i]? = some p):¬ (p.st = 1∧p.kind = 2):=by
  rcases newL_rest (List.mem_of_getElem? h) with rfl | rfl
  · simp
  · simp [noPl]
theorem mk_fresh {S:CO} {limit:Int} {per:Nat} (f:FreshO S 6 limit per):MkS S per limit 64 1 1 (newL 64):=by
  refine⟨f.ok,TPI.emp f.ok (fun i p hi=>by rw [f.l] at hi;exact newL_task hi) (f.high 7 (by omega)) (f.high 6 (by omega)) (fun id=>by rw [f.xc]),f.ts,f.now,f.period,f.top,by rw [f.ps];simp,f.q,f.l⟩
theorem mkq_new {w w1:World} {S:CO} {limit:Int} {per:Nat} (f:FreshO S 6 limit per) (st:Step [] (S.hl ++ []) w w1):MkQ S.c per limit 64 1 1 (fun l=>l = newL 64) w w1:=
  ⟨S,newL 64,rfl,rfl,mk_fresh f,by simpa using st⟩
theorem mk_made {S:CO} {per n N:Nat} {limit ch:Int} {l:List Pl} (m:MkS S per limit ch n N l) {k i:Nat} (hk:2 ≤ k∧k ≤ 5) (hc:((costK k:Nat):Int) ≤ limit - ch) (hn:n < 64) (hroot:l[0]? = some ⟨1,64,0,1,0,0⟩) (hi:Fst l i (noPl 0)) {w w':World} {r:Ending} (h:MakeR S [] 0 ((k:Nat):Int) 0 w r w') :
    ∃ a x S',r = two i 0∧S'.c = S.c∧MkS S' per limit (ch + ((costK k:Nat):Int)) (n + 1) (N + 1) (l.set i ⟨k,a,0,1,0,x⟩)∧Step S.hl S'.hl w w':=by
  obtain⟨b,hq⟩:=m.q
  have hfe:find S.P.q.E 0 = some ⟨0,b,⟨limit,ch,0,-1,0⟩⟩:=by rw [hq];rfl
  have hil:i < 256:=by
    have:=(List.getElem?_eq_some_iff.1 hi.1).1
    have h2:=m.ok.inv.len
    rw [m.l] at h2
    omega
  have hpg:pget S.l 1 0 = some ⟨1,64,0,1,0,0⟩:=by rw [m.l];exact pget_some.2 ⟨hroot,rfl,rfl⟩
  obtain⟨a,x,P',fr',rfl,hm,st⟩:=h.able (f:=⟨1,64,0,1,0,0⟩) hpg (e:=⟨0,b,⟨limit,ch,0,-1,0⟩⟩) (i:=i) (p:=noPl 0) ⟨rfl,.inr ⟨by omega,hk.2⟩,hfe,by show _ ≤ limit - (ch + 0);omega,by rw [m.top];have:=m.ps;show _ < 64;omega,by rw [m.l];exact hi,fun h=>by omega⟩
  have hiS:S.l[i]? = some (noPl 0):=by rw [m.l];exact hi.1
  have hf:=hm.fac (by omega)
  have hfr:fr' = []:=by
    have h1:=(hm.ok m.ok hiS).inv.mem.frs.length_eq
    have e:atsOf (S.made ⟨1,64,0,1,0,0⟩ k a x i (noPl 0) P').l 8 = atsOf S.l 8:=by
      have hp:=fmp_keep (l:=S.l) (i:=i) (p:=noPl 0) (q:=⟨k,a,0,1,(noPl 0).age,x⟩) (atsF 8) hiS (by unfold atsF;simp [Pl.is,noPl];omega)
      have h0:(atsOf S.l 8).length = 0:=by rw [m.ok.inv.mem.frs.length_eq];rfl
      have h2:=hp.length_eq
      have e1:atsOf S.l 8 = []:=List.length_eq_zero_iff.1 h0
      show (S.l.set i ⟨k,a,0,1,(noPl 0).age,x⟩).filterMap (atsF 8) = _
      rw [e1]
      refine List.length_eq_zero_iff.1 ?_
      rw [h2];exact h0
    rw [e,m.ok.inv.mem.frs.length_eq] at h1
    simp at h1
    exact List.length_eq_zero_iff.1 h1.symm
  subst hfr
  refine⟨a,x,_,by rw [show nm i (noPl 0) = i by unfold nm noPl;simp],?_,⟨hm.ok m.ok hiS,m.tpi.made m.ok hm hiS rfl,m.ts,m.now,m.per,by show P'.d.top = 6;rw [hm.same.top,m.top],by show P'.d.ps.length ≤ _;have:=hm.few;have:=m.ps;omega,⟨b,?_⟩,?_⟩,st⟩
  · rfl
  · show P'.q.E = _
    rw [hf,hq]
    rfl
  · show S.l.set i _ = _
    rw [m.l]
    rfl
theorem mk_next {c per n N:Nat} {limit ch:Int} {L:List Pl→Prop} {w0 wr:World} (h:MkQ c per limit ch n N L w0 wr) (k i:Nat) (hk:2 ≤ k∧k ≤ 5) (hc:((costK k:Nat):Int) ≤ limit - ch) (hn:n < 64) (hN:N + 1 < 1048576) (hL:∀ l,L l→l[0]? = some ⟨1,64,0,1,0,0⟩∧Fst l i (noPl 0)) :
    Calls Tryz.prog 16 #[.pointer (some ⟨c,0,none⟩),.int .u32 0,.int .i64 ((k:Nat):Int),.int .i64 0] wr fun r w'=>r = .returned (.tuple #[.int .u32 (i:Int),.int .i64 0])∧MkQ c per limit (ch + ((costK k:Nat):Int)) (n + 1) (N + 1) (fun l'=>∃ l a x,L l∧l' = l.set i ⟨k,a,0,1,0,x⟩) w0 w':=by
  obtain⟨S,l,rfl,hl,m,st⟩:=h
  have:=cmake_any st.sep m.ok (by omega) (x:=0) (by omega) ((k:Nat):Int) 0
  refine this.mono ?_
  intro r w' hr
  obtain⟨a,x,S',rfl,ec,m',st'⟩:=mk_made m hk hc hn (hL l hl).1 (hL l hl).2 hr
  exact⟨rfl,S',_,ec,⟨l,a,x,hl,rfl⟩,m',st.trans st'⟩
structure MkZ (Z:SP) (per:Nat) (limit:Int) (N:Nat) (M:Int) (l:List Pl):Prop where
  ok:Z.Ok [] N 0 M
  ts:Z.S.ts = []
  now:Z.S.now = 0
  per:Z.S.period = per
  q:∃ b ch,Z.S.P.q.E = [⟨0,b,⟨limit,ch,0,-1,0⟩⟩]
  l:Z.S.l = l
theorem mkz_new {Z:SP} {S:CO} {per n N:Nat} {limit ch:Int} {l:List Pl} (m:MkS S per limit ch n N l) (h:Z.New S fun _=>TB.emp):MkZ Z per limit N 0 l∧Z.av = ⟨fun _ _=>none,[]⟩∧Z.F.next = 0:=by
  obtain⟨b,hq⟩:=m.q
  refine⟨⟨h.ok m.ok m.tpi fun i _=>TB.emp_nil,by rw [h.S];exact m.ts,by rw [h.S];exact m.now,by rw [h.S];exact m.per,⟨b,ch,by rw [h.S];exact hq⟩,by rw [h.S];exact m.l⟩,?_,h.F.next⟩
  unfold SP.av avOf
  rw [h.tb,h.F.N]
  congr 1
  funext x s
  unfold entAt
  split
  · split
    · rfl
    · rfl
  · rfl
theorem MkZ.same {Z Z':SP} {per N:Nat} {limit:Int} {M M':Int} {l:List Pl} (m:MkZ Z per limit N M l) (ok:Z'.Ok [] N 0 M') (s:SameN Z Z'):MkZ Z' per limit N M' l:=by
  obtain⟨b,ch,hq⟩:=m.q
  refine⟨ok,by rw [s.alt.ts];exact m.ts,by rw [s.alt.now];exact m.now,by rw [s.alt.per];exact m.per,?_,by rw [s.alt.l];exact m.l⟩
  obtain⟨e',he',hq'⟩:=s.alt.acc 0 ⟨0,b,⟨limit,ch,0,-1,0⟩⟩ (by rw [hq];rfl)
  have hid:=s.alt.ids
  rw [hq] at hid
  have h2:∃ e,Z'.S.P.q.E = [e]:=by
    cases hE:Z'.S.P.q.E with
    | nil=>rw [hE] at hid;simp at hid
    | cons e r =>
      rw [hE] at hid
      simp at hid
      exact⟨e,by rw [hid.2]⟩
  obtain⟨e,hE⟩:=h2
  rw [hE] at he' hid
  have hid':e.id = 0:=by simpa using hid
  have:e = e':=by
    unfold find at he'
    rw [if_pos hid'.symm] at he'
    exact Option.some.inj he'
  subst this
  refine⟨e.b,e.q.charged,?_⟩
  rw [hE]
  obtain⟨i,b2,q⟩:=e
  simp only at hid' hq' ⊢
  subst hid'
  rw [hq']
theorem SP.Ok.entries {Z:SP} {fr:List Nat} {N K:Nat} {M:Int} (ok:Z.Ok fr N K M) {i s:Nat} (hi:i < 256) (hs:s < 256) (h:(Z.tb i).en s ≠ none):∃ x c,x % 256 = i∧Z.av.en x s = some c:=by
  obtain⟨p,hp⟩:∃ p,Z.S.l[i]? = some p:=⟨_,List.getElem?_eq_getElem (by rw [ok.core.inv.len];exact hi)⟩
  by_cases hk:p.st = 1∧p.kind = 2
  · cases he:(Z.tb i).en s with
    | none=>exact absurd he h
    | some e =>
      refine⟨nm i p,(e.h,e.r),nm_mod hi p,av_en ?_⟩
      rw [entAt_task (p:=p) (pget_some.2 ⟨by rw [nm_mod hi];exact hp,by rw [nm_mod hi],hk.1⟩) hk.2 hs,nm_mod hi]
      exact he
  · exact absurd ((ok.tpi.nil i p hp hk).2 s hs) h
theorem MkZ.room {Z:SP} {per N:Nat} {limit:Int} {M:Int} {l:List Pl} (m:MkZ Z per limit N M l) (E Q:List (Nat × Nat)) (hE:∀ x s c,Z.av.en x s = some c→(x % 256,s) ∈ E) (hQ:∀ x s,(x,s) ∈ E→(x,s / 16) ∈ Q) {o:Nat} (ho:(l.filter Pl.is).length ≤ o) (hp:o + Q.length + E.length + 1 < 64) {cs:Int} (hcs:costSum l 0 = cs)
    (hq:cs + 256 * (Q.length:Int) + 48 * (E.length:Int) + 304 ≤ limit) {i s:Nat} {er:Int}:¬ WhyL Z [] 0 i s er:=by
  obtain⟨b,ch,hb⟩:=m.q
  have hfe:find Z.S.P.q.E 0 = some ⟨0,b,⟨limit,ch,0,-1,0⟩⟩:=by rw [hb];rfl
  have ent:∀ i s,i < 256→s < 256→(Z.tb i).en s ≠ none→(i,s) ∈ E:=fun i s hi hs h=>by
    obtain⟨x,c,hx,hc⟩:=m.ok.entries hi hs h
    rw [← hx]
    exact hE x s c hc
  refine noWhyL m.ok.core m.ok.tpi hfe (o:=o) (lv:=Q.length) (nd:=E.length) (by rw [m.l];exact ho) (lvs_count m.ok.tpi.full Q fun i s hi hs h=>hQ i s (ent i s hi hs h)) (nds_count E ent) hp ?_
  rw [m.l,hcs]
  show _ ≤ limit - 0
  omega
open Go.RowKit
def lookT (o:Option (Nat × Nat)):Value:=match o with
  | none=>.tuple #[.agg #[.int .u32 0,.int .i64 0],.int .i64 6]
  | some c=>.tuple #[.agg #[.int .u32 (c.1:Int),.int .i64 (c.2:Int)],.int .i64 0]
section
variable {Z:SP} {fr:List Nat} {N K:Nat} {M:Int} {w w':World}
theorem RootR.fine {x h:Nat} {z r er:Int} (R:RootR Z fr N K M x z h r w er w') {p q:Pl} (hp:pget Z.S.l 1 x = some p) (hk:p.kind = 2) (hz:0 ≤ z∧z < 256) (hq:pget Z.S.l 1 h = some q) (hr:0 < r∧r ≤ 15) (hm:q.kind = 8 ↔ 128 ≤ z) (h0:Z.av.en x z.toNat = none) (hw:∀ er,¬ WhyL Z fr p.fac (x % 256) z.toNat er) :
    er = 0∧PlusZ Z fr N K M x z.toNat h r.toNat 0 w w':=by
  have h0':=av_none.1 h0
  rcases R with ⟨_,he,_⟩ | ⟨s,rn,p',q',rfl,rfl,hs,_,_,hp',_,_,_,_,hc⟩
  · exfalso
    rcases he with ⟨h1,_⟩ | ⟨p',h1,he⟩
    · rw [hp] at h1;cases h1
    · rw [hp] at h1;cases h1
      rcases he with ⟨h2,_⟩ | ⟨_,he⟩
      · exact h2 hk
      · rcases he with ⟨h3,_⟩ | ⟨_,he⟩
        · exact h3 hz
        · rcases he with ⟨h4,_⟩ | ⟨q',h4,he⟩
          · rw [hq] at h4;cases h4
          · rw [hq] at h4;cases h4
            rcases he with ⟨h5,_⟩ | ⟨_,h5,_⟩
            · exact h5 ⟨hr,hm⟩
            · exact h5 h0'
  · rw [hp] at hp';cases hp'
    rw [Int.toNat_natCast,Int.toNat_natCast] at *
    rcases hc with ⟨h1,h2⟩ | ⟨_,h2,_⟩
    · exact⟨h1,h2⟩
    · exact absurd h2 (hw er)
theorem MoveR.fine {x y n:Nat} {A:Nat→Mv} {er:Int} (R:MoveR Z fr N K M x y n A w er w') {p1 p2:Pl} (hp1:pget Z.S.l 1 x = some p1) (hk1:p1.kind = 2) (hp2:pget Z.S.l 1 y = some p2) (hk2:p2.kind = 2) (hfit:AllFit Z.av.en x y n A) (hw:∀ er,¬ WhyM Z fr N K x y n p2.fac A er) :
    er = 0∧MovedZ Z fr N K M x y n A w w':=by
  rcases R with ⟨hne,he,_⟩ | ⟨q1,q2,h1,_,h2,_,_,hc⟩
  · exfalso
    rcases he with ⟨h1,_⟩ | ⟨q1,h1,he⟩
    · rw [hp1] at h1;cases h1
    · rw [hp1] at h1;cases h1
      rcases he with ⟨h2,_⟩ | ⟨_,he⟩
      · exact h2 hk1
      · rcases he with ⟨h3,_⟩ | ⟨q2,h3,he⟩
        · rw [hp2] at h3;cases h3
        · rw [hp2] at h3;cases h3
          rcases he with ⟨h4,_⟩ | ⟨_,i,hi,_,hv⟩
          · exact h4 hk2
          · have:=(fitsV_ok (N:=Z.F.N) (tb:=Z.tb) hp1 hk1 hp2 hk2 (m:=A i) (cl:=clashes A i (A i))).2 (hfit i hi)
            unfold fitV at hv
            rw [this] at hv
            exact hne hv.symm
  · rw [hp1] at h1;cases h1
    rw [hp2] at h2;cases h2
    rcases hc with ⟨h1,h2⟩ | ⟨_,h2,_⟩
    · exact⟨h1,h2⟩
    · exact absurd h2 (hw er)
theorem allFit_one {en:Nat→Nat→Option (Nat × Nat)} {x y:Nat} {m:Mv} (h:FitM en x y m):AllFit en x y 1 (fun _=>m):=fun i hi=>by
  obtain rfl:i = 0:=by omega
  exact⟨h,rfl⟩
theorem whyM_one {x y:Nat} {m:Mv} {own:Int} {er:Int} (h:WhyM Z fr N K x y 1 own (fun _=>m) er):WhyL Z fr own (y % 256) m.dst.toNat er:=by
  obtain⟨k,S',t',hk,_,h0,hw⟩:=h
  obtain⟨rfl,rfl⟩:=h0 (by omega)
  rw [updT_self] at hw
  exact hw
theorem MovedZ.one {x y:Nat} {m:Mv} (h:MovedZ Z fr N K M x y 1 (fun _=>m) w w') (hg:m.g = false):∃ (Z':SP) (c:Nat × Nat) (b:Nat),Z.av.en x m.src.toNat = some c∧Z'.av = ⟨setA Z.av.en y m.dst.toNat (some (c.1,c.2 &&& m.r.toNat)),addN Z.av.N (ownN Z.av.N (x:Int) m.src) (Z.F.next + 1) b (y:Int) m.dst⟩∧Z'.Ok fr N K (M + 1)∧SameN Z Z'∧Z'.F.next = Z.F.next + 1∧Step Z.hl Z'.hl w w':=by
  obtain⟨a,Z',h1,h2,h3,h4,h5,h6⟩:=h
  cases h1 with
  | succ k a0 c b h1 hc hn =>
    cases h1
    have e2:Z'.av = ⟨setA Z.av.en y m.dst.toNat (some (c.1,c.2 &&& m.r.toNat)),addN Z.av.N (ownN Z.av.N (x:Int) m.src) (Z.F.next + 1) b (y:Int) m.dst⟩:=by
      generalize hz:Z'.av = az at h2
      cases h2 with
      | skip k a' h2 _=>cases h2;simp
      | lift k a' a'' h2 hg' _=>rw [hg] at hg';cases hg'
    exact⟨Z',c,b,hc,e2,h3,h4,h5,h6⟩
theorem MovedZ.grant {x y:Nat} {m:Mv} (h:MovedZ Z fr N K M x y 1 (fun _=>m) w w') (hg:m.g = true):∃ (Z':SP) (c:Nat × Nat) (b:Nat) (a:AV),Z.av.en x m.src.toNat = some c∧Z.av.en y m.dst.toNat = none∧a = ⟨setA Z.av.en y m.dst.toNat (some (c.1,c.2 &&& m.r.toNat)),addN Z.av.N (ownN Z.av.N (x:Int) m.src) (Z.F.next + 1) b (y:Int) m.dst⟩∧weak1 15 a (ownN a.N (x:Int) m.src) = (Z'.av,true)∧Z'.Ok fr N K (M + 1)∧SameN Z Z'∧Z'.F.next = Z.F.next + 1∧Step Z.hl Z'.hl w w':=by
  obtain⟨a,Z',h1,h2,h3,h4,h5,h6⟩:=h
  cases h1 with
  | succ k a0 c b h1 hc hn =>
    cases h1
    refine⟨Z',c,b,⟨setA Z.av.en y m.dst.toNat (some (c.1,c.2 &&& m.r.toNat)),addN Z.av.N (ownN Z.av.N (x:Int) m.src) (Z.F.next + 1) b (y:Int) m.dst⟩,hc,hn,rfl,?_,h3,h4,h5,h6⟩
    generalize hz:Z'.av = az at h2
    cases h2 with
    | skip k a' h2 hg'=>rw [hg] at hg';cases hg'
    | lift k a' a'' h2 hg' hw =>
      cases h2
      simpa using hw
theorem RevR.fine {x:Nat} {z mask:Int} {self:Bool} {r:Ending} (R:RevR Z fr N K M x z mask self w r w') {p:Pl} (hp:pget Z.S.l 1 x = some p) (hk:p.kind = 2) (hz:0 ≤ z∧z < 256) (hm:0 < mask∧mask ≤ 15) {c:Nat × Nat} (hc:Z.av.en x z.toNat = some c) :
    ∃ n ∈ Z.F.N,n.q.sp = (x:Int)∧n.q.sl = z∧r = .returned (.tuple #[.int .i64 ((weakA mask.toNat Z.av (revL Z.F n.id self)).2:Nat),.int .i64 0])∧∃ Z',Z'.Ok fr N K M∧Z'.av = (weakA mask.toNat Z.av (revL Z.F n.id self)).1∧SameZ Z Z'∧Step Z.hl Z'.hl w w':=by
  obtain⟨e,he,_⟩:=av_some hc
  rcases R with ⟨er,_,_,hc⟩ | ⟨s,m,n,en,rfl,rfl,_,_,_,_,hn,h1,h2,hr,hw⟩
  · exfalso
    rcases hc with ⟨h1,_⟩ | ⟨p',h1,hc⟩
    · rw [hp] at h1;cases h1
    · rw [hp] at h1;cases h1
      rcases hc with ⟨h2,_⟩ | ⟨_,h2,_⟩ | ⟨_,h2,h3,_⟩ | ⟨_,_,_,h3,_⟩
      · exact h2 hk
      · exact h2 hz
      · exact h3 hm
      · rw [he] at h3;cases h3
  · rw [Int.toNat_natCast]
    exact⟨n,hn,h1,h2,hr,hw⟩
theorem lookV_av {x:Nat} {z:Int} {p:Pl} (hp:pget Z.S.l 1 x = some p) (hk:p.kind = 2) (hz:0 ≤ z∧z < 256):lookV Z.S.l Z.tb x z = lookT (Z.av.en x z.toNat):=by
  unfold lookV
  rw [hp]
  simp only
  rw [if_pos hk,if_pos hz]
  show _ = lookT ((entAt Z.S.l Z.tb x z.toNat).map Ent.c)
  cases entAt Z.S.l Z.tb x z.toNat <;> rfl
theorem asideM_new {H:HL} (hs:Sep w H) (m:Mv) (hm:m.Wf):AsideM H 1 (fun _=>m) (some ⟨w.heap.size,0,none⟩) (w.alloc (.cells #[.int .i64 m.src,.int .i64 m.dst,.int .i64 m.r,.bool m.g] 39)):=by
  refine⟨fun j hj=>⟨w.heap.size,0,rfl,by simp,fun i v hv=>?_,hm⟩,fun a _ ha hk=>?_⟩
  · obtain rfl:j = 0:=by omega
    have:=(Cells.new w 39 m.cells).cell i v hv
    have e:0 + 0 * 4 + i = i:=by omega
    rw [e]
    exact this
  · cases ha
    have:=hs.lt hk
    simp at this
end
open Go.RowKit
theorem fst_atM {l:List Pl} {i:Nat} {p:Pl} (h:l[i]? = some p) (hp:p.st = 0) (ha:∀ j,j < i→∃ q,l[j]? = some q∧q.st ≠ 0):Fst l i p:=⟨h,hp,fun j q hj hq=>by
  obtain⟨q',e1,e2⟩:=ha j hj
  rw [hq] at e1;cases e1;exact e2⟩
def lt1 (k a x:Nat):List Pl:=(newL 64).set 1 ⟨k,a,0,1,0,x⟩
def lt2 (k a x m b y:Nat):List Pl:=(lt1 k a x).set 2 ⟨m,b,0,1,0,y⟩
def lt3 (k a x m b y n c z:Nat):List Pl:=(lt2 k a x m b y).set 3 ⟨n,c,0,1,0,z⟩
theorem lt0_at:(newL 64)[0]? = some ⟨1,64,0,1,0,0⟩∧Fst (newL 64) 1 (noPl 0):=⟨rfl,fst_atM rfl rfl fun j hj=>by
  obtain rfl:j = 0:=by omega
  exact⟨_,rfl,by decide⟩⟩
theorem lt1_at (k a x:Nat):(lt1 k a x)[0]? = some ⟨1,64,0,1,0,0⟩∧Fst (lt1 k a x) 2 (noPl 0):=⟨rfl,fst_atM rfl rfl fun j hj=>by
  have:j = 0 ∨ j = 1:=by omega
  rcases this with rfl | rfl
  · exact⟨_,rfl,by decide⟩
  · exact⟨_,rfl,(by decide:(1:Nat) ≠ 0)⟩⟩
theorem lt2_at (k a x m b y:Nat):(lt2 k a x m b y)[0]? = some ⟨1,64,0,1,0,0⟩∧Fst (lt2 k a x m b y) 3 (noPl 0):=⟨rfl,fst_atM rfl rfl fun j hj=>by
  have:j = 0 ∨ j = 1 ∨ j = 2:=by omega
  rcases this with rfl | rfl | rfl
  · exact⟨_,rfl,by decide⟩
  · exact⟨_,rfl,(by decide:(1:Nat) ≠ 0)⟩
  · exact⟨_,rfl,(by decide:(1:Nat) ≠ 0)⟩⟩
theorem lt3_get (k a x m b y n c z:Nat):pget (lt3 k a x m b y n c z) 1 1 = some ⟨k,a,0,1,0,x⟩∧pget (lt3 k a x m b y n c z) 1 2 = some ⟨m,b,0,1,0,y⟩∧pget (lt3 k a x m b y n c z) 1 3 = some ⟨n,c,0,1,0,z⟩:=⟨by kernel_rfl,by kernel_rfl,by kernel_rfl⟩
theorem lt3_is (k a x m b y n c z:Nat):((lt3 k a x m b y n c z).filter Pl.is).length = 4:=by kernel_rfl
theorem lt3_cost (a x b y c z:Nat):costSum (lt3 2 a x 4 b y 2 c z) 0 = 352:=by kernel_rfl
theorem lt3_kids (a x b y c z:Nat):kids (lt3 2 a x 4 b y 2 c z) 2 = []:=by kernel_rfl
def AlQ (s c:Nat) (M:Int) (C:AV→Prop) (B:List (Nat × List Value)) (w0 wr:World):Prop:=∃ Z a x b y d z,Z.s = s∧Z.S.c = c∧MkZ Z 1 20000 4 M (lt3 2 a x 4 b y 2 d z)∧C Z.av∧Z.F.next = M∧Step [] Z.hl w0 wr∧∀ q ∈ B,AsideV Z.hl q.2 (some ⟨q.1,0,none⟩) wr
theorem AlQ.grown {s c:Nat} {M:Int} {C:AV→Prop} {B:List (Nat × List Value)} {w0 wr w':World} (h:AlQ s c M C B w0 wr) (hb:Below wr.heap.size wr w'):AlQ s c M C B w0 w':=by
  obtain⟨Z,a,x,b,y,d,z,h1,h2,h3,h4,h5,st,hB⟩:=h
  exact⟨Z,a,x,b,y,d,z,h1,h2,h3,h4,h5,st.trans (st.sep.grown hb),fun q hq=>(hB q hq).step (st.sep.grown hb)⟩
theorem AlQ.box {s c:Nat} {M:Int} {C:AV→Prop} {B:List (Nat × List Value)} {w0 wr:World} (h:AlQ s c M C B w0 wr) (T:TypeId) (cs:List Value):AlQ s c M C ((wr.heap.size,cs) :: B) w0 (wr.alloc (.cells cs.toArray T)):=by
  obtain⟨Z,a,x,b,y,d,z,h1,h2,h3,h4,h5,st,hB⟩:=h
  have hb:=(Below.refl wr.heap.size wr).alloc (Nat.le_refl _) (.cells cs.toArray T)
  refine⟨Z,a,x,b,y,d,z,h1,h2,h3,h4,h5,st.trans (st.sep.grown hb),fun q hq=>?_⟩
  rcases List.mem_cons.1 hq with rfl | hq
  · exact asideV_new st.sep T cs
  · exact (hB q hq).step (st.sep.grown hb)
def en0:Nat→Nat→Option (Nat × Nat):=fun _ _=>none
def E0 (a:AV):Prop:=a = ⟨en0,[]⟩
def E1 (a:AV):Prop:=∃ b1,a = ⟨setA en0 1 5 (some (2,15)),[⟨1,b1,⟨1,5,0,[]⟩⟩]⟩
def E2 (r:Nat) (a:AV):Prop:=∃ b1 b2,a = ⟨setA (setA en0 1 5 (some (2,15))) 3 7 (some (2,r)),[⟨1,b1,⟨1,5,0,[2]⟩⟩,⟨2,b2,⟨3,7,1,[]⟩⟩]⟩
def E4 (a:AV):Prop:=(∀ h s c,a.en h s = some c→h = 1∧s = 5∧c = (2,15))∧a.en 1 5 = some (2,15)∧∃ b1,a.N = [⟨1,b1,⟨1,5,0,[]⟩⟩]
def E5 (a:AV):Prop:=(∀ h s c,a.en h s = some c→h = 3∧s = 9∧c = (2,15))∧a.en 3 9 = some (2,15)
theorem setA_cases {en:Nat→Nat→Option (Nat × Nat)} {h s h' s':Nat} {o:Option (Nat × Nat)} {c:Nat × Nat} (e:setA en h s o h' s' = some c):(h' = h∧s' = s∧o = some c) ∨ (¬ (h' = h∧s' = s)∧en h' s' = some c):=by
  by_cases hh:h' = h∧s' = s
  · rw [hh.1,hh.2,setA_same] at e
    exact .inl ⟨hh.1,hh.2,e⟩
  · rw [setA_ne hh] at e
    exact .inr ⟨hh,e⟩
theorem al_make1 {w w1:World} {S:CO} (f:FreshO S 6 20000 1) (st:Step [] (S.hl ++ []) w w1) :
    Calls Tryz.prog 16 #[.pointer (some ⟨S.c,0,none⟩),.int .u32 0,.int .i64 2,.int .i64 0] w1 fun r w2=>r = .returned (.tuple #[.int .u32 1,.int .i64 0]) ∧
      Calls Tryz.prog 16 #[.pointer (some ⟨S.c,0,none⟩),.int .u32 0,.int .i64 4,.int .i64 0] w2 fun r w3=>r = .returned (.tuple #[.int .u32 2,.int .i64 0]) ∧
        Calls Tryz.prog 16 #[.pointer (some ⟨S.c,0,none⟩),.int .u32 0,.int .i64 2,.int .i64 0] w3 fun r w4=>r = .returned (.tuple #[.int .u32 3,.int .i64 0]) ∧
          Calls Tryz.prog 17 #[.pointer (some ⟨S.c,0,none⟩)] w4 fun r w5=>∃ s,r = .returned (.pointer (some ⟨s,0,none⟩))∧AlQ s S.c 0 E0 [] w w5:=by
  refine (mk_next (mkq_new f st) 2 1 (by omega) (by decide) (by omega) (by omega) fun l hl=>by subst hl;exact lt0_at).mono ?_
  rintro r w2 ⟨rfl,q2⟩
  refine⟨rfl,(mk_next q2 4 2 (by omega) (by decide) (by omega) (by omega) fun l hl=>by
    obtain⟨l0,a,x,rfl,rfl⟩:=hl
    exact lt1_at 2 a x).mono ?_⟩
  rintro r w3 ⟨rfl,q3⟩
  refine⟨rfl,(mk_next q3 2 3 (by omega) (by decide) (by omega) (by omega) fun l hl=>by
    obtain⟨l0,b,y,⟨l1,a,x,rfl,rfl⟩,rfl⟩:=hl
    exact lt2_at 2 a x 4 b y).mono ?_⟩
  rintro r w4 ⟨rfl,S4,l,ec,⟨l0,d,z,⟨l1,b,y,⟨l2,a,x,rfl,rfl⟩,rfl⟩,rfl⟩,m,st4⟩
  refine⟨rfl,?_⟩
  rw [← ec]
  refine (snew_any st4.sep fun _=>TB.emp).mono ?_
  rintro r w5 ⟨Z,rfl,hZ,st5⟩
  obtain⟨m1,m2,m3⟩:=mkz_new m hZ
  exact⟨Z.s,rfl,Z,a,x,b,y,d,z,rfl,by rw [hZ.S],m1,m2,m3,st4.trans st5,fun q hq=>by cases hq⟩
theorem al_room {Z:SP} {M:Int} {a x b y d z:Nat} (m:MkZ Z 1 20000 4 M (lt3 2 a x 4 b y 2 d z)) (E:List (Nat × Nat)) (hE:∀ h s c,Z.av.en h s = some c→(h % 256,s) ∈ E) (hl:E.length ≤ 2) {i s:Nat} {er:Int}:¬ WhyL Z [] 0 i s er:=by
  refine m.room E (E.map fun p=>(p.1,p.2 / 16)) hE (fun u v h=>List.mem_map.2 ⟨_,h,rfl⟩) (o:=4) (by rw [lt3_is];exact Nat.le_refl _) (by rw [List.length_map];omega) (cs:=352) (lt3_cost a x b y d z) (by rw [List.length_map];omega)
theorem al_root {s c:Nat} {B:List (Nat × List Value)} {w0 wr:World} (h:AlQ s c 0 E0 B w0 wr) :
    Calls Tryz.prog 18 #[.pointer (some ⟨s,0,none⟩),.int .u32 1,.int .i64 5,.agg #[.int .u32 2,.int .i64 15]] wr fun r w'=>r = .returned (.int .i64 0)∧AlQ s c 1 E1 B w0 w':=by
  obtain⟨Z,a,x,b,y,d,z,rfl,rfl,m,hC,hnx,st,hB⟩:=h
  refine (sroot_any st.sep m.ok (by omega) (x:=1) (h:=2) (by omega) (by omega) 5 15).mono ?_
  rintro r w' ⟨er,rfl,R⟩
  obtain⟨g1,g2,g3⟩:=lt3_get 2 a x 4 b y 2 d z
  rw [← m.l] at g1 g2
  unfold E0 at hC
  obtain⟨rfl,Z',k1,k2,k3,⟨b1,k4⟩,k5,k6⟩:=R.fine g1 rfl (by omega) g2 (by omega) (by show (4:Nat) = 8 ↔ (128:Int) ≤ 5;decide) (by rw [hC];rfl) fun er=>al_room m [] (fun h s c hc=>by rw [hC] at hc;cases hc) (by simp)
  refine⟨rfl,Z',a,x,b,y,d,z,k2.s,k2.alt.c,m.same k1 k2,⟨b1,?_⟩,by rw [k5,hnx];rfl,st.trans k6,fun q hq=>(hB q hq).step k6⟩
  have hN:Z.F.N = []:=by show Z.av.N = _;rw [hC]
  rw [hN,hnx] at k4
  rw [hC] at k3
  generalize hz:Z'.av = av at k3 k4
  obtain⟨en,N⟩:=av
  simp only at k3 k4
  rw [k3,k4]
  rfl
theorem al_move1 {s c:Nat} {B:List (Nat × List Value)} {w0 wr:World} (h:AlQ s c 1 E1 B w0 wr) :
    Calls Tryz.prog 19 #[.pointer (some ⟨s,0,none⟩),.int .u32 1,.int .u32 3,.slice (some ⟨wr.heap.size,0,none⟩) 1 1] (wr.alloc (.cells #[.int .i64 5,.int .i64 7,.int .i64 5,.bool false] 39)) fun r w'=>r = .returned (.int .i64 0)∧AlQ s c 2 (E2 5) B w0 w':=by
  obtain⟨Z,a,x,b,y,d,z,rfl,rfl,m,⟨b1,hC⟩,hnx,st,hB⟩:=h
  have hb:=(Below.refl wr.heap.size wr).alloc (Nat.le_refl _) (.cells #[.int .i64 5,.int .i64 7,.int .i64 5,.bool false] 39)
  have st2:=st.sep.grown hb
  have hmv:=asideM_new st.sep ⟨5,7,5,false⟩ ⟨⟨by decide,by decide⟩,⟨by decide,by decide⟩,⟨by decide,by decide⟩⟩
  obtain⟨g1,g2,g3⟩:=lt3_get 2 a x 4 b y 2 d z
  rw [← m.l] at g1 g3
  have hfit:FitM Z.av.en 1 3 ⟨5,7,5,false⟩:=by
    rw [hC]
    exact⟨by decide,by decide,by decide,rfl,⟨(2,15),rfl,by decide,by decide⟩,rfl⟩
  have hmv':AsideM Z.hl 1 (fun _=>⟨5,7,5,false⟩) (some ⟨wr.heap.size,0,none⟩) (wr.alloc (.cells #[.int .i64 5,.int .i64 7,.int .i64 5,.bool false] 39)):=hmv
  have km:=smove_any (n:=1) (cap:=1) (A:=fun _=>⟨5,7,5,false⟩) st2.sep m.ok (by omega) (x:=1) (y:=3) (by omega) (by omega) (by omega) (by omega) hmv'
  refine km.mono ?_
  rintro r w' ⟨er,rfl,R⟩
  obtain⟨rfl,hz⟩:=R.fine g1 rfl g3 rfl (allFit_one hfit) fun er hw=>al_room m [(1,5)] (fun h s c hc=>by
    rw [hC] at hc
    rcases setA_cases hc with ⟨rfl,rfl,_⟩ | ⟨_,h0⟩
    · simp
    · cases h0) (by simp) (whyM_one hw)
  obtain⟨Z',c,b2,k1,k2,k3,k4,k5,k6⟩:=hz.one rfl
  rw [hC] at k1 k2
  obtain rfl:(2,15) = c:=by simpa [setA] using k1
  refine⟨rfl,Z',a,x,b,y,d,z,k4.s,k4.alt.c,m.same k3 k4,⟨b1,b2,?_⟩,by rw [k5,hnx];rfl,(st.trans st2).trans k6,fun q hq=>((hB q hq).step st2).step k6⟩
  rw [k2,hnx]
  rfl
open Go.RowKit
theorem al_look {s c x:Nat} {M z:Int} {C:AV→Prop} {B:List (Nat × List Value)} {w0 wr:World} (h:AlQ s c M C B w0 wr) (hx:x = 1 ∨ x = 3) (hz:0 ≤ z∧z < 256) {o:Option (Nat × Nat)} (ho:∀ a,C a→a.en x z.toNat = o) :
    Calls Tryz.prog 21 #[.pointer (some ⟨s,0,none⟩),.int .u32 (x:Int),.int .i64 z] wr fun r w'=>r = .returned (lookT o)∧AlQ s c M C B w0 w':=by
  have h':=h
  obtain⟨Z,a,u,b,y,d,v,rfl,rfl,m,hC,hnx,st,hB⟩:=h
  obtain⟨g1,g2,g3⟩:=lt3_get 2 a u 4 b y 2 d v
  rw [← m.l] at g1 g3
  obtain⟨p,hp,hk⟩:∃ p,pget Z.S.l 1 x = some p∧p.kind = 2:=by
    rcases hx with rfl | rfl
    · exact⟨_,g1,rfl⟩
    · exact⟨_,g3,rfl⟩
  have kl:=slook_any st.sep m.ok (x:=x) (by omega) z
  rw [lookV_av hp hk hz,ho _ hC] at kl
  refine kl.mono ?_
  rintro r w' ⟨rfl,hb⟩
  exact⟨rfl,h'.grown hb⟩
theorem al_revoke {s c:Nat} {r0 mk:Nat} {B:List (Nat × List Value)} {w0 wr:World} (h:AlQ s c 2 (E2 r0) B w0 wr) (hm:1 ≤ mk∧mk ≤ 15) {C:AV→Prop} {n:Nat} (hC1:∀ a,E2 r0 a→(weakA mk a [2]).2 = n∧C (weakA mk a [2]).1) :
    Calls Tryz.prog 20 #[.pointer (some ⟨s,0,none⟩),.int .u32 1,.int .i64 5,.int .i64 (mk:Int),.bool false] wr fun r w'=>r = .returned (.tuple #[.int .i64 (n:Int),.int .i64 0])∧AlQ s c 2 C B w0 w':=by
  obtain⟨Z,a,u,b,y,d,v,rfl,rfl,m,hC,hnx,st,hB⟩:=h
  obtain⟨g1,g2,g3⟩:=lt3_get 2 a u 4 b y 2 d v
  rw [← m.l] at g1
  obtain⟨q1,q2⟩:=hC1 _ hC
  obtain⟨b1,b2,hC⟩:=hC
  have hN:Z.F.N = [⟨1,b1,⟨1,5,0,[2]⟩⟩,⟨2,b2,⟨3,7,1,[]⟩⟩]:=by show Z.av.N = _;rw [hC]
  refine (srevoke_any st.sep m.ok (x:=1) (by omega) 5 (mk:Int) false).mono ?_
  intro r w' R
  obtain⟨n',hn',e1,e2,rfl,Z',k1,k2,k3,k4⟩:=R.fine g1 rfl (by omega) (by omega) (c:=(2,15)) (by rw [hC];rfl)
  have hid:n'.id = 1:=by
    rw [hN] at hn'
    rcases List.mem_cons.1 hn' with rfl | hn'
    · rfl
    · rw [List.mem_singleton] at hn'
      subst hn'
      cases e2
  have hL:revL Z.F n'.id false = [2]:=by
    unfold revL
    rw [hN,hnx,hid]
    rfl
  rw [hL,Int.toNat_natCast] at k2 ⊢
  rw [q1]
  refine⟨rfl,Z',a,u,b,y,d,v,k3.s,k3.alt.c,m.same k1 k3.toSameN,by rw [k2];exact q2,by rw [k3.nx,hnx],st.trans k4,fun q hq=>(hB q hq).step k4⟩
theorem al_rev1 {a:AV} (h:E2 5 a):(weakA 4 a [2]).2 = 0∧E2 1 (weakA 4 a [2]).1:=by
  obtain⟨b1,b2,rfl⟩:=h
  refine⟨rfl,b1,b2,?_⟩
  show (⟨setA (setA (setA en0 1 5 (some (2,15))) 3 7 (some (2,5))) 3 7 (some (2,1)),_⟩:AV) = _
  congr 1
  funext h s
  unfold setA
  split <;> rfl
theorem al_rev2 {a:AV} (h:E2 1 a):(weakA 1 a [2]).2 = 1∧E4 (weakA 1 a [2]).1:=by
  obtain⟨b1,b2,rfl⟩:=h
  refine⟨rfl,fun h s c hc=>?_,rfl,b1,rfl⟩
  have hc':setA (setA (setA en0 1 5 (some (2,15))) 3 7 (some (2,1))) 3 7 none h s = some c:=hc
  rcases setA_cases hc' with ⟨_,_,h0⟩ | ⟨hne,h1⟩
  · cases h0
  · rcases setA_cases h1 with ⟨e1,e2,_⟩ | ⟨_,h2⟩
    · exact absurd ⟨e1,e2⟩ hne
    · rcases setA_cases h2 with ⟨e1,e2,e3⟩ | ⟨_,h3⟩
      · exact⟨e1,e2,(Option.some.inj e3).symm⟩
      · cases h3
theorem al_from {s c r0:Nat} {B:List (Nat × List Value)} {w0 wr:World} (h:AlQ s c 2 (E2 r0) B w0 wr) :
    Calls Tryz.prog 22 #[.pointer (some ⟨s,0,none⟩),.int .u32 3,.int .i64 7] wr fun r w'=>r = .returned (.tuple #[.agg #[.int .i64 1,.int .i64 5],.bool true])∧AlQ s c 2 (E2 r0) B w0 w':=by
  have h':=h
  obtain⟨Z,a,u,b,y,d,v,rfl,rfl,m,⟨b1,b2,hC⟩,hnx,st,hB⟩:=h
  have hN:Z.F.N = [⟨1,b1,⟨1,5,0,[2]⟩⟩,⟨2,b2,⟨3,7,1,[]⟩⟩]:=by show Z.av.N = _;rw [hC]
  have kf:=sfrom_any st.sep m.ok.fo (x:=3) (z:=7) (by omega) (by omega)
  have e:fromT Z.F.N ((3:Nat):Int) ((7:Nat):Int) = .tuple #[.agg #[.int .i64 1,.int .i64 5],.bool true]:=by
    rw [hN];rfl
  rw [e] at kf
  refine kf.mono ?_
  rintro r w' ⟨rfl,hb⟩
  exact⟨rfl,h'.grown hb⟩
theorem al_move2 {s c:Nat} {B:List (Nat × List Value)} {w0 wr:World} (h:AlQ s c 2 E4 B w0 wr) :
    Calls Tryz.prog 19 #[.pointer (some ⟨s,0,none⟩),.int .u32 1,.int .u32 3,.slice (some ⟨wr.heap.size,0,none⟩) 1 1] (wr.alloc (.cells #[.int .i64 5,.int .i64 9,.int .i64 15,.bool true] 39)) fun r w'=>r = .returned (.int .i64 0)∧AlQ s c 3 E5 B w0 w':=by
  obtain⟨Z,a,x,b,y,d,z,rfl,rfl,m,⟨hC1,hC2,b1,hC3⟩,hnx,st,hB⟩:=h
  have hb:=(Below.refl wr.heap.size wr).alloc (Nat.le_refl _) (.cells #[.int .i64 5,.int .i64 9,.int .i64 15,.bool true] 39)
  have st2:=st.sep.grown hb
  have hmv:=asideM_new st.sep ⟨5,9,15,true⟩ ⟨⟨by decide,by decide⟩,⟨by decide,by decide⟩,⟨by decide,by decide⟩⟩
  obtain⟨g1,g2,g3⟩:=lt3_get 2 a x 4 b y 2 d z
  rw [← m.l] at g1 g3
  have hfree:Z.av.en 3 9 = none:=by
    cases hh:Z.av.en 3 9 with
    | none=>rfl
    | some c=>have:=(hC1 _ _ _ hh).1;omega
  have hfit:FitM Z.av.en 1 3 ⟨5,9,15,true⟩:=
    ⟨by decide,by decide,by decide,rfl,⟨(2,15),hC2,by decide,by decide⟩,hfree⟩
  have hmv':AsideM Z.hl 1 (fun _=>⟨5,9,15,true⟩) (some ⟨wr.heap.size,0,none⟩) (wr.alloc (.cells #[.int .i64 5,.int .i64 9,.int .i64 15,.bool true] 39)):=hmv
  have km:=smove_any (n:=1) (cap:=1) (A:=fun _=>⟨5,9,15,true⟩) st2.sep m.ok (by omega) (x:=1) (y:=3) (by omega) (by omega) (by omega) (by omega) hmv'
  refine km.mono ?_
  rintro r w' ⟨er,rfl,R⟩
  obtain⟨rfl,hz⟩:=R.fine g1 rfl g3 rfl (allFit_one hfit) fun er hw=>al_room m [(1,5)] (fun h s c hc=>by
    obtain⟨rfl,rfl,_⟩:=hC1 _ _ _ hc
    simp) (by simp) (whyM_one hw)
  obtain⟨Z',c,b2,av,k1,_,rfl,k2,k3,k4,k5,k6⟩:=hz.grant rfl
  obtain rfl:(2,15) = c:=by
    have k1':Z.av.en 1 5 = some c:=k1
    rw [hC2] at k1'
    exact Option.some.inj k1'
  have hid:ownN Z.av.N (1:Int) 5 = 1:=by rw [hC3];rfl
  have hav:(Z'.av).en = setA (setA Z.av.en 3 9 (some (2,15))) 1 5 none:=by
    have ha:setA Z.av.en 3 9 (some (2,15)) 1 5 = some (2,15):=by rw [setA_ne (by omega)];exact hC2
    have hf:find (addN Z.av.N (ownN Z.av.N (1:Int) 5) (Z.F.next + 1) b2 3 9) 1 = some ⟨1,b1,⟨1,5,0,[3]⟩⟩:=by rw [hC3,hnx];rfl
    have hw:=weak1_some (m:=15) (a:=⟨setA Z.av.en 3 9 (some (2,15)),addN Z.av.N (ownN Z.av.N (1:Int) 5) (Z.F.next + 1) b2 3 9⟩) hf (h:=1) (s:=5) rfl rfl ha
    have ho:ownN (addN Z.av.N (ownN Z.av.N (1:Int) 5) (Z.F.next + 1) b2 3 9) (1:Int) 5 = 1:=by rw [hC3,hnx];rfl
    have k2':weak1 15 ⟨setA Z.av.en 3 9 (some (2,15)),addN Z.av.N (ownN Z.av.N (1:Int) 5) (Z.F.next + 1) b2 3 9⟩ (ownN (addN Z.av.N (ownN Z.av.N (1:Int) 5) (Z.F.next + 1) b2 3 9) (1:Int) 5) = (Z'.av,true):=k2
    rw [ho,hw,if_pos (less_all 15 (by omega))] at k2'
    rw [← (Prod.mk.inj k2').1]
  refine⟨rfl,Z',a,x,b,y,d,z,k4.s,k4.alt.c,m.same k3 k4,⟨fun h s c hc=>?_,by rw [hav];rfl⟩,by rw [k5,hnx];rfl,(st.trans st2).trans k6,fun q hq=>((hB q hq).step st2).step k6⟩
  rw [hav] at hc
  rcases setA_cases hc with ⟨_,_,h0⟩ | ⟨hne,h1⟩
  · cases h0
  · rcases setA_cases h1 with ⟨e1,e2,e3⟩ | ⟨_,h2⟩
    · exact⟨e1,e2,(Option.some.inj e3).symm⟩
    · obtain⟨e1,e2,_⟩:=hC1 _ _ _ h2
      exact absurd ⟨e1,e2⟩ hne
open Go.RowKit
theorem slotsL_nd (l:List Pl) (tb:Nat→TB) (x:Nat):(slotsL l tb x).Nodup:=by
  unfold slotsL
  split
  · exact List.nodup_nil
  · split
    · unfold slotsTo
      refine List.pairwise_map.2 ((List.nodup_range.filter _).imp fun hne he=>hne ?_)
      omega
    · exact List.nodup_nil
theorem holdX_nd (l:List Pl) (tb:Nat→TB) (h x:Nat):(holdX l tb h x).Nodup∧∀ p ∈ holdX l tb h x,p.1 = (x:Int):=by
  unfold holdX holdT
  refine⟨List.pairwise_map.2 (((slotsL_nd l tb x).filter _).imp fun hne he=>hne (Prod.mk.inj he).2),fun p hp=>?_⟩
  obtain⟨z,_,rfl⟩:=List.mem_map.1 hp
  rfl
theorem holdL_nd (l:List Pl) (tb:Nat→TB) (h:Nat):∀ T:List Nat,T.Nodup→(holdL l tb h T).Nodup
  | [],_=>List.nodup_nil
  | x :: r,hT=>by
    obtain⟨h1,h2⟩:=List.nodup_cons.1 hT
    have ih:=holdL_nd l tb h r h2
    obtain⟨a1,a2⟩:=holdX_nd l tb h x
    show ((x :: r).flatMap (holdX l tb h)).Nodup
    rw [List.flatMap_cons]
    refine List.nodup_append.2 ⟨a1,ih,fun p hp q hq e=>?_⟩
    obtain⟨y,hy,s,e2,_⟩:=mem_holdL.1 (show q ∈ holdL l tb h r from hq)
    have e3:=a2 p hp
    rw [e,e2] at e3
    have:y = x:=by
      have e4:(y:Int) = (x:Int):=e3
      omega
    exact h1 (this ▸ hy)
theorem mem_holdA {Z:SP} {fr:List Nat} {N K:Nat} {M:Int} (ok:Z.Ok fr N K M) {h:Nat} {p:Int × Int}:p ∈ holdA Z.S.l Z.tb h ↔ ∃ x s r:Nat,p = ((x:Int),(s:Int))∧Z.av.en x s = some (h,r):=by
  unfold holdA
  rw [mem_holdL]
  constructor
  · rintro⟨x,_,s,rfl,_,e,he,rfl⟩
    exact⟨x,s,e.r,rfl,av_en he⟩
  · rintro⟨x,s,r,rfl,hc⟩
    obtain⟨e,he,h2⟩:=av_some hc
    obtain⟨q,q1,_,q3,_⟩:=entAt_some he
    exact⟨x,(mem_all (by rw [ok.core.inv.len];omega)).2 ⟨q,q1⟩,s,rfl,q3,e,he,(Prod.mk.inj h2).1.symm⟩
theorem holdA_nd {Z:SP} {fr:List Nat} {N K:Nat} {M:Int} (ok:Z.Ok fr N K M) (h:Nat):(holdA Z.S.l Z.tb h).Nodup:=holdL_nd _ _ _ _ (all_nodup (by rw [ok.core.inv.len];omega) 1)
theorem len_of_mem {α:Type} {A B:List α} (ha:A.Nodup) (hb:B.Nodup) (h:∀ x,x ∈ A ↔ x ∈ B):A.length = B.length:=
  Nat.le_antisymm (ha.length_le_of_subset fun x hx=>(h x).1 hx) (hb.length_le_of_subset fun x hx=>(h x).2 hx)
theorem root_use {S:CO} {fr:List Nat} {N K:Nat} (ok:S.Ok fr N K) (hE:S.P.q.E.map En.id = [0]):∃ e,find S.P.q.E 0 = some e∧e.q.given = 0∧e.q.charged = costSum S.l 0 + S.xc 0:=by
  obtain⟨e,hEe⟩:∃ e,S.P.q.E = [e]:=by
    cases hq:S.P.q.E with
    | nil=>rw [hq] at hE;simp at hE
    | cons e r=>rw [hq] at hE;simp at hE;exact⟨e,by rw [hE.2]⟩
  have hid:e.id = 0:=by rw [hEe] at hE;simpa using hE
  have hf:find S.P.q.E 0 = some e:=by rw [hEe];unfold find;rw [if_pos hid.symm]
  refine⟨e,hf,?_,ok.inv.tre.charged 0 e hf⟩
  obtain⟨p0,hp0,hk0,_,hs0,_,ho0⟩:=ok.inv.que.root
  have hpar:=(ok.inv.tre.par p0 (List.mem_of_getElem? hp0) (Pl.is_iff.2 (.inl hs0)) hk0 e (by rw [ho0];exact hf)).1 ho0
  rw [(ok.inv.tre.given 0 e hf).1]
  refine (givSum_zero fun x hx=>?_).1
  rw [hEe,List.mem_singleton] at hx
  rw [hx,hpar]
  decide
theorem xc_none {Z:SP} {fr:List Nat} {N K:Nat} {M:Int} (ok:Z.Ok fr N K M) (h:∀ x s,Z.av.en x s = none) (id:Int):Z.S.xc id = 0:=by
  have hle:=xcOf_le Z.S.l Z.tb id
  have hnn:=xcOf_nn Z.S.l Z.tb id
  have h0:∀ i s,i < 256→s < 256→(Z.tb i).en s ≠ none→False:=fun i s hi hs he=>by
    obtain⟨x,c,_,hc⟩:=ok.entries hi hs he
    rw [h] at hc
    cases hc
  have h1:=nds_count (tb:=Z.tb) [] fun i s hi hs he=>(h0 i s hi hs he).elim
  have h2:=lvs_count ok.tpi.full [] fun i s hi hs he=>(h0 i s hi hs he).elim
  rw [ok.tpi.xc]
  simp at h1 h2
  rw [h1,h2] at hle
  simp at hle
  omega
def HldQ (s c:Nat) (a:Option Addr) (B:List (Nat × List Value)) (w0 wr:World):Prop:=∃ (Z:SP) (u v b y d z:Nat),Z.s = s∧Z.S.c = c∧MkZ Z 1 20000 4 3 (lt3 2 u v 4 b y 2 d z)∧E5 Z.av∧Step [] Z.hl w0 wr∧AsideS Z.hl [(3,9)] a wr∧∀ q ∈ B,AsideV Z.hl q.2 (some ⟨q.1,0,none⟩) wr
theorem al_holders {s c:Nat} {B:List (Nat × List Value)} {w0 wr:World} (h:AlQ s c 3 E5 B w0 wr) :
    Calls Tryz.prog 23 #[.pointer (some ⟨s,0,none⟩),.int .u32 2] wr fun r w'=>∃ (a:Option Addr) (cap:Nat),r = .returned (.slice a 1 cap)∧HldQ s c a B w0 w':=by
  obtain⟨Z,a,x,b,y,d,z,rfl,rfl,m,⟨hC1,hC2⟩,hnx,st,hB⟩:=h
  have e:holdA Z.S.l Z.tb 2 = [(3,9)]:=by
    have hmem:∀ p,p ∈ holdA Z.S.l Z.tb 2 ↔ p = (3,9):=fun p=>by
      rw [mem_holdA m.ok]
      constructor
      · rintro⟨u,v,r,rfl,hc⟩
        obtain⟨rfl,rfl,_⟩:=hC1 _ _ _ hc
        rfl
      · rintro rfl
        exact⟨3,9,15,rfl,hC2⟩
    have hl:=len_of_mem (B:=[((3:Int),(9:Int))]) (holdA_nd m.ok 2) (by simp) fun p=>by rw [hmem];simp
    have h39:=(hmem (3,9)).2 rfl
    cases hh:holdA Z.S.l Z.tb 2 with
    | nil=>rw [hh] at h39;cases h39
    | cons q r =>
      rw [hh] at hl h39
      have hr:r = []:=List.length_eq_zero_iff.1 (by simpa using hl)
      subst hr
      rw [List.mem_singleton.1 h39]
  refine (sholders_any st.sep m.ok 2).mono ?_
  intro r w' hr
  rw [e] at hr
  obtain⟨ad,cap,rfl,hb,has⟩:=hr.aside st.sep
  exact⟨ad,cap,rfl,Z,a,x,b,y,d,z,rfl,rfl,m,⟨hC1,hC2⟩,st.trans (st.sep.grown hb),has,fun q hq=>(hB q hq).step (st.sep.grown hb)⟩
structure EndQ (s c:Nat) (a:Option Addr) (B:List (Nat × List Value)) (w0 wr:World):Prop where
  bx:∀ q ∈ B,∀ (j:Nat) (v:Value),q.2[j]? = some v→wr.cell? ⟨q.1,j,none⟩ = some v
  hl:∃ g,a = some ⟨g,0,none⟩∧wr.cell? ⟨g,0,none⟩ = some (.int .i64 3)∧wr.cell? ⟨g,1,none⟩ = some (.int .i64 9)
  z:∃ Z:SP,Z.s = s∧Z.S.c = c∧Z.Ok [] 4 0 3∧(∀ x s,Z.av.en x s = none)∧(∃ e:En Fa,find Z.S.P.q.E 0 = some e∧e.q.charged + e.q.given = 352)∧Step [] Z.hl w0 wr
theorem EndQ.grown {s c:Nat} {a:Option Addr} {B:List (Nat × List Value)} {w0 wr w':World} (h:EndQ s c a B w0 wr) (hb:Below wr.heap.size wr w'):EndQ s c a B w0 w':=by
  obtain⟨hB,⟨g,rfl,h1,h2⟩,Z,q1,q2,q3,q4,q5,st⟩:=h
  have hg:=World.block_lt_of_cell? wr ⟨g,0,none⟩ h1
  exact⟨fun q hq j v hv=>(World.cell?_of_block (w:=wr) (hb.block q.1 (World.block_lt_of_cell? wr ⟨q.1,j,none⟩ (hB q hq j v hv)))).trans (hB q hq j v hv),⟨g,rfl,(World.cell?_of_block (w:=wr) (hb.block g hg)).trans h1,(World.cell?_of_block (w:=wr) (hb.block g hg)).trans h2⟩,Z,q1,q2,q3,q4,q5,st.trans (st.sep.grown hb)⟩
theorem al_kill {s c:Nat} {a:Option Addr} {B:List (Nat × List Value)} {w0 wr:World} (h:HldQ s c a B w0 wr) :
    Calls Tryz.prog 35 #[.pointer (some ⟨s,0,none⟩),.int .u32 2] wr fun r w'=>∃ (ad:Option Addr) (cap:Nat),r = .returned (.tuple #[.slice ad 1 cap,.int .i64 0])∧EndQ s c a B w0 w':=by
  obtain⟨Z,u,v,b,y,d,z,rfl,rfl,m,⟨hC1,hC2⟩,st,has,hB⟩:=h
  obtain⟨g1,g2,g3⟩:=lt3_get 2 u v 4 b y 2 d z
  have hkl:killL Z.S 2 = [2]:=by
    have t:=m.ok.core.inv.tree
    unfold killL
    rw [(under_nil t).2 (by rw [m.l];exact lt3_kids u v b y d z)]
    rfl
  refine (skill_any st.sep m.ok (by omega) (h:=2) (by omega)).mono ?_
  rintro r w' (⟨h1,_⟩ | ⟨h1,_⟩ | ⟨_,_,ad,cap,rfl,Z',I,st2,_⟩)
  · rw [m.l,g2] at h1;cases h1
  · cases h1
  · rw [hkl] at I ⊢
    have hnone:∀ x s,Z'.av.en x s = none:=fun x s=>by
      rcases I.less.en x s with h1 | h1
      · exact h1
      · cases hh:Z'.av.en x s with
        | none=>rfl
        | some c =>
          exfalso
          have:=(I.out 2 (by simp)).2 x s c hh
          rw [h1] at hh
          obtain⟨_,_,rfl⟩:=hC1 _ _ _ hh
          exact this rfl
    have hl:Z'.S.l = (lt3 2 u v 4 b y 2 d z).set 2 ⟨4,b,0,2,0,y⟩:=by
      rw [I.l,m.l]
      exact doomL_snoc (l:=lt3 2 u v 4 b y 2 d z) (A:=[]) (x:=2) (p:=⟨4,b,0,1,0,y⟩) g2
    have hids:Z'.S.P.q.E.map En.id = [0]:=by
      obtain⟨b0,ch,hq⟩:=m.q
      rw [I.acc,hq];rfl
    obtain⟨e,he,e1,e2⟩:=root_use I.ok.core hids
    have hcs:costSum Z'.S.l 0 = 352:=by
      rw [hl]
      kernel_rfl
    refine⟨ad,cap,rfl,fun q hq j v hv=>?_,?_,Z',I.s,I.c,I.ok,hnone,⟨e,he,?_⟩,st.trans st2⟩
    · obtain⟨g,e,_,_,k4⟩:=((hB q hq).step st2) j v hv
      cases e
      exact k4
    · obtain⟨g,rfl,k1,k2,k3,k4⟩:=(has.step st2) 0 (3,9) rfl
      exact⟨g,rfl,k3,k4⟩
    · rw [e2,e1,hcs,xc_none I.ok hnone];rfl
theorem al_slots {s c x:Nat} {a:Option Addr} {B:List (Nat × List Value)} {w0 wr:World} (h:EndQ s c a B w0 wr) (hx:x < 4294967296) :
    Calls Tryz.prog 25 #[.pointer (some ⟨s,0,none⟩),.int .u32 (x:Int)] wr fun r w'=>∃ (ad:Option Addr) (cap:Nat),r = .returned (.slice ad 0 cap)∧EndQ s c a B w0 w':=by
  have h':=h
  obtain⟨_,_,Z,rfl,rfl,ok,hn,_,st⟩:=h
  refine (sslots_any st.sep ok hx).mono ?_
  intro r w' hr
  have e:slotsL Z.S.l Z.tb x = []:=by
    refine List.eq_nil_iff_forall_not_mem.2 fun z hz=>?_
    obtain⟨s,rfl,_,e,he⟩:=mem_slotsL.1 hz
    have h0:=av_none.1 (hn x s)
    rw [he] at h0
    cases h0
  rw [e] at hr
  obtain⟨ad,cap,rfl,hb,_⟩:=hr.from'
  exact⟨ad,cap,rfl,h'.grown hb⟩
theorem al_use {s c:Nat} {a:Option Addr} {B:List (Nat × List Value)} {w0 wr:World} (h:EndQ s c a B w0 wr) :
    Calls Tryz.prog 49 #[.pointer (some ⟨c,0,none⟩)] wr fun r w1=>∃ p,r = .returned (.pointer (some ⟨p,0,none⟩))∧wr = w1∧Calls Tryz.prog 51 #[.pointer (some ⟨p,0,none⟩)] w1 fun r w2=>∃ q,r = .returned (.pointer (some ⟨q,0,none⟩))∧w1 = w2 ∧
      Calls Tryz.prog 52 #[.pointer (some ⟨q,0,none⟩),.int .i64 0] w2 fun r w3=>r = .returned (.int .i64 352)∧Below w0.heap.size w0 w3:=by
  obtain⟨_,_,Z,rfl,rfl,ok,hn,⟨e,he,hu⟩,st⟩:=h
  refine (cmemory_any (SP.sS st.sep)).mono ?_
  rintro r w1 ⟨rfl,rfl⟩
  refine⟨_,rfl,rfl,(pquota_any (CO.sP (SP.sS st.sep))).mono ?_⟩
  rintro r w2 ⟨rfl,rfl⟩
  refine⟨_,rfl,rfl,(quse_some (PL.sQ (CO.sP (SP.sS st.sep))) ok.core.inv.mem.pool.q he).mono ?_⟩
  rintro r w3 ⟨rfl,hb⟩
  rw [hu]
  exact⟨rfl,(st.trans (st.sep.grown hb)).fresh⟩
open Go.RowKit
set_option maxHeartbeats 8000000 in
set_option maxRecDepth 100000 in
theorem alive17_any {w:World} (h:Env w):Calls Tryz.prog 14 #[] w (Told w (.bool true)):=by
  have h16:((2 ^ (6 + 10):Nat):Int) = 65536:=by decide
  have k1:=cnew_any (Sep.nil h) 6 (by omega) (by omega) 20000 (by omega) (by rw [h16];omega) 1 (by omega) (by omega)
  rw [h16] at k1
  have HQ:Hid (∀ r w1,NewCO 6 20000 1 [] w r w1→∃ c,r = .returned (.pointer (some ⟨c,0,none⟩))∧Calls Tryz.prog 16 #[.pointer (some ⟨c,0,none⟩),.int .u32 0,.int .i64 2,.int .i64 0] w1 fun r w2=>r = .returned (.tuple #[.int .u32 1,.int .i64 0]) ∧
      Calls Tryz.prog 16 #[.pointer (some ⟨c,0,none⟩),.int .u32 0,.int .i64 4,.int .i64 0] w2 fun r w3=>r = .returned (.tuple #[.int .u32 2,.int .i64 0]) ∧
        Calls Tryz.prog 16 #[.pointer (some ⟨c,0,none⟩),.int .u32 0,.int .i64 2,.int .i64 0] w3 fun r w4=>r = .returned (.tuple #[.int .u32 3,.int .i64 0]) ∧
          Calls Tryz.prog 17 #[.pointer (some ⟨c,0,none⟩)] w4 fun r w5=>∃ s,r = .returned (.pointer (some ⟨s,0,none⟩))∧AlQ s c 0 E0 [] w w5):=by
    rintro r w1 ⟨S,rfl,hf,st⟩
    exact⟨S.c,rfl,al_make1 hf st⟩
  clear h h16
  go_enter Tryz.func14,Tryz.ntmps14
  go_wp2_with fail
  refine k1.mono ?_
  intro r w1 hx
  obtain⟨c,rfl,hm⟩:=HQ.out _ _ hx
  have HM:=hidden hm
  clear hx hm HQ k1
  go_wp2_with fail
  refine HM.out.mono ?_
  rintro r w2 ⟨rfl,hm⟩
  have HM2:=hidden hm
  clear hm HM
  go_wp2_with fail
  refine HM2.out.mono ?_
  rintro r w3 ⟨rfl,hm⟩
  have HM3:=hidden hm
  clear hm HM2
  go_wp2_with fail
  refine HM3.out.mono ?_
  rintro r w4 ⟨rfl,hm⟩
  have HM4:=hidden hm
  clear hm HM3
  go_wp2_with fail
  refine HM4.out.mono ?_
  rintro r w5 ⟨s,rfl,hq⟩
  have H5:=hidden (al_root hq)
  clear hq HM4
  go_wp2_with fail
  refine H5.out.mono ?_
  rintro r w6 ⟨rfl,hq⟩
  have H6:=hidden (al_move1 hq)
  clear hq H5
  go_wp2_with fail
  refine H6.out.mono ?_
  rintro r w7 ⟨rfl,hq⟩
  have H7:=hidden (al_look (x:=3) (z:=7) hq (.inr rfl) (by omega) (o:=some (2,5)) fun a ⟨b1,b2,e⟩=>by rw [e];rfl)
  clear hq H6
  go_wp2_with fail
  refine H7.out.mono ?_
  rintro r w8 ⟨rfl,hq⟩
  have hq':=hq.box 35 [.int .u32 2,.int .i64 5]
  have H8:=hidden (al_revoke (mk:=4) hq' (by omega) fun a ha=>al_rev1 ha)
  clear hq hq' H7
  unfold lookT
  go_wp2_with fail
  refine H8.out.mono ?_
  rintro r w9 ⟨rfl,hq⟩
  have H9:=hidden (al_look (x:=3) (z:=7) hq (.inr rfl) (by omega) (o:=some (2,1)) fun a ⟨b1,b2,e⟩=>by rw [e];rfl)
  clear hq H8
  go_wp2_with fail
  refine H9.out.mono ?_
  rintro r w10 ⟨rfl,hq⟩
  have hq':=hq.box 35 [.int .u32 2,.int .i64 1]
  have H10:=hidden (al_from hq')
  clear hq hq' H9
  unfold lookT
  go_wp2_with fail
  refine H10.out.mono ?_
  rintro r w11 ⟨rfl,hq⟩
  have hq':=hq.box 46 [.int .i64 1,.int .i64 5]
  have H11:=hidden (al_revoke (mk:=1) hq' (by omega) fun a ha=>al_rev2 ha)
  clear hq hq' H10
  go_wp2_with fail
  refine H11.out.mono ?_
  rintro r w12 ⟨rfl,hq⟩
  have H12:=hidden (al_look (x:=3) (z:=7) hq (.inr rfl) (by omega) (o:=none) fun a ⟨e,_⟩=>by
    cases hh:a.en 3 (7:Int).toNat with
    | none=>rfl
    | some c=>have:=(e _ _ _ hh).1;omega)
  clear hq H11
  go_wp2_with fail
  refine H12.out.mono ?_
  rintro r w13 ⟨rfl,hq⟩
  have hq':=hq.box 35 [.int .u32 0,.int .i64 0]
  have hz13:(w13.alloc (.cells #[.int .u32 0,.int .i64 0] 35)).heap.size = w13.heap.size + 1:=by simp
  have hm2:=al_move2 hq'
  rw [hz13] at hm2
  have H13:=hidden hm2
  clear hq hq' H12 hm2 hz13
  unfold lookT
  go_wp2_with fail
  refine H13.out.mono ?_
  rintro r w14 ⟨rfl,hq⟩
  have H14:=hidden (al_holders hq)
  clear hq H13
  go_wp2_with fail
  refine H14.out.mono ?_
  rintro r w15 ⟨ha,hcap,rfl,hq⟩
  have H15:=hidden (al_kill hq)
  clear hq H14
  go_wp2_with fail
  refine H15.out.mono ?_
  rintro r w16 ⟨ka,kcap,rfl,hq⟩
  have hbx:=hq.bx
  have x0:=hbx (w8.heap.size,[.int .u32 2,.int .i64 5]) (by simp) 0 _ rfl
  have x1:=hbx (w8.heap.size,[.int .u32 2,.int .i64 5]) (by simp) 1 _ rfl
  have y0:=hbx (w10.heap.size,[.int .u32 2,.int .i64 1]) (by simp) 0 _ rfl
  have y1:=hbx (w10.heap.size,[.int .u32 2,.int .i64 1]) (by simp) 1 _ rfl
  have z0:=hbx (w11.heap.size,[.int .i64 1,.int .i64 5]) (by simp) 0 _ rfl
  have z1:=hbx (w11.heap.size,[.int .i64 1,.int .i64 5]) (by simp) 1 _ rfl
  obtain⟨g,rfl,q0,q1⟩:=hq.hl
  simp only at x0 x1 y0 y1 z0 z1
  have H16:=hidden (al_slots (x:=3) hq (by omega))
  clear hq hbx H15
  go_wp2_with fail
  refine H16.out.mono ?_
  rintro r w17 ⟨sa,scap,rfl,hq⟩
  have H17:=hidden (al_slots (x:=1) hq (by omega))
  clear hq H16 x0 x1 y0 y1 z0 z1 q0 q1
  go_wp2_with fail
  refine H17.out.mono ?_
  rintro r w18 ⟨sa2,scap2,rfl,hq⟩
  have H18:=hidden (al_use hq)
  clear hq H17
  go_wp2_with fail
  refine H18.out.mono ?_
  rintro r w19 ⟨pp,rfl,rfl,hq⟩
  have H19:=hidden hq
  clear hq H18
  go_wp2_with fail
  refine H19.out.mono ?_
  rintro r w20 ⟨qq,rfl,rfl,hq⟩
  have H20:=hidden hq
  clear hq H19
  go_wp2_with fail
  refine H20.out.mono ?_
  rintro r w21 ⟨rfl,hb⟩
  have HR:Hid (Told w (.bool true) (.returned (.bool true)) w21):=⟨rfl,hb⟩
  clear hb H20
  go_wp2_with fail
  first | exact HR.out | (go_ret;exact HR.out)
open Go.RowKit
open Go.RowKit
open Go.RowKit
structure GrtI (a a':AV) (next:Int) (x s y t:Nat) (g r r':Nat):Prop where
  en:a'.en = setA (setA a.en y t (some (g,r'))) x s none
  fr:∀ u v:Int,fromV a'.N u v = if u = (x:Int)∧v = (s:Int) then none else if (u = (y:Int)∧v = (t:Int)) ∨ fromV a.N u v = some ((x:Int),(s:Int)) then fromV a.N (x:Int) (s:Int) else fromV a.N u v
theorem grant_of {a a':AV} {next:Int} (k:AvOk a next) {x s y t g r r' b:Nat} (hx:x < 4294967296) (hy:y < 4294967296) (hs:s < 256) (ht:t < 256) (hsrc:a.en x s = some (g,r)) (hfree:a.en y t = none)
    (he:weak1 15 ⟨setA a.en y t (some (g,r')),addN a.N (ownN a.N (x:Int) (s:Int)) (next + 1) b (y:Int) (t:Int)⟩ (ownN (addN a.N (ownN a.N (x:Int) (s:Int)) (next + 1) b (y:Int) (t:Int)) (x:Int) (s:Int)) = (a',true)):GrtI a a' next x s y t g r r':=by
  obtain⟨nd,hnd,q1,q2⟩:=k.has x s _ hsrc
  have hid:ownN a.N (x:Int) (s:Int) = nd.id:=(ownN_iff k.ok hnd x s).2 ⟨q1,q2⟩
  have hf:=findN_of_mem k.ok.ids hnd
  have hrng:=k.ok.rng nd hnd
  have hne:¬ (x = y∧s = t):=fun h=>by
    rw [h.1,h.2,hfree] at hsrc
    cases hsrc
  have hno:∀ e ∈ a.N,(e.q.sp,e.q.sl) ≠ ((y:Int),(t:Int)):=fun e he h=>by
    obtain⟨c,hc⟩:=k.is e he
    have h1:e.q.sp = (y:Int):=congrArg Prod.fst h
    have h2:e.q.sl = (t:Int):=congrArg Prod.snd h
    rw [h1,h2,Int.toNat_natCast,Int.toNat_natCast,hfree] at hc
    cases hc
  have hpar:ownN a.N (x:Int) (s:Int) = 0 ∨ ∃ p,find a.N (ownN a.N (x:Int) (s:Int)) = some p:=.inr ⟨nd,by rw [hid];exact hf⟩
  have ok1:=k.ok.add (par:=ownN a.N (x:Int) (s:Int)) (sp:=(y:Int)) (sl:=(t:Int)) b hpar hno (by omega) (by omega) (by omega) (by omega)
  have hfr1:=fun u v=>fromV_add (N:=a.N) (next:=next) k.ok (par:=ownN a.N (x:Int) (s:Int)) (sp:=(y:Int)) (sl:=(t:Int)) b hpar hno (by omega) (by omega) (by omega) (by omega) u v
  have hfa:=find_addN (N:=a.N) (next:=next) (par:=ownN a.N (x:Int) (s:Int)) (sp:=(y:Int)) (sl:=(t:Int)) (b:=b) k.ok nd.id
  rw [if_neg (by omega),hf] at hfa
  simp only [Option.map_some] at hfa
  generalize hN1:addN a.N (ownN a.N (x:Int) (s:Int)) (next + 1) b (y:Int) (t:Int) = N1 at *
  obtain⟨e1,he1⟩:∃ e1:En Nd,e1 = { nd with q:=if nd.id = ownN a.N (x:Int) (s:Int) then { nd.q with ks:=nd.q.ks ++ [next + 1] } else nd.q }:=⟨_,rfl⟩
  rw [← he1] at hfa
  have h1id:e1.id = nd.id:=by rw [he1]
  have h1sp:e1.q.sp = (x:Int):=by rw [he1];simp only;split <;> exact q1
  have h1sl:e1.q.sl = (s:Int):=by rw [he1];simp only;split <;> exact q2
  obtain⟨m1,m2⟩:=find_mem hfa
  have ho1:ownN N1 (x:Int) (s:Int) = e1.id:=by
    have:=ownN_some ok1 m1
    rwa [h1sp,h1sl] at this
  have hen1:(⟨setA a.en y t (some (g,r')),N1⟩:AV).en x s = some (g,r):=by
    show setA a.en y t (some (g,r')) x s = _
    rw [setA_ne hne];exact hsrc
  have hf1:find N1 e1.id = some e1:=by rw [h1id];exact hfa
  have hw:=weak1_some (m:=15) (a:=⟨setA a.en y t (some (g,r')),N1⟩) (id:=e1.id) hf1 h1sp h1sl hen1
  have hr:=k.r x s _ hsrc
  rw [if_pos (less_all r hr.2)] at hw
  rw [ho1,hw] at he
  have ha':=(Prod.mk.inj he).1
  rw [← ha']
  refine⟨rfl,fun u v=>?_⟩
  show fromV (liftN N1 e1 e1.q.ks.length) u v = _
  rw [fromV_lift ok1 hf1,h1sp,h1sl]
  by_cases h1:u = (x:Int)∧v = (s:Int)
  · rw [if_pos h1,if_pos h1]
  · rw [if_neg h1,if_neg h1]
    have hself:fromV N1 (x:Int) (s:Int) = fromV a.N (x:Int) (s:Int):=by
      rw [hfr1,if_neg]
      rintro⟨e2,e3⟩
      exact hne ⟨by omega,by omega⟩
    rw [hself,hfr1]
    by_cases h2:u = (y:Int)∧v = (t:Int)
    · have e:(if u = (y:Int)∧v = (t:Int) then (find a.N (ownN a.N (x:Int) (s:Int))).map (fun m=>(m.q.sp,m.q.sl)) else fromV a.N u v) = some ((x:Int),(s:Int)):=by
        rw [if_pos h2,hid,hf]
        simp [q1,q2]
      rw [if_pos e,if_pos (Or.inl h2)]
    · rw [if_neg h2]
      by_cases h3:fromV a.N u v = some ((x:Int),(s:Int))
      · rw [if_pos h3,if_pos (.inr h3)]
      · rw [if_neg h3,if_neg]
        rintro (h | h)
        · exact h2 h
        · exact h3 h
open Go.RowKit
theorem mv_wf {a b c:Int} (g:Bool) (ha:0 ≤ a∧a < 1000) (hb:0 ≤ b∧b < 1000) (hc:0 ≤ c∧c < 1000):(⟨a,b,c,g⟩:Mv).Wf:=
  ⟨⟨by show (-9223372036854775808:Int) ≤ a;omega,by show a ≤ (9223372036854775807:Int);omega⟩,⟨by show (-9223372036854775808:Int) ≤ b;omega,by show b ≤ (9223372036854775807:Int);omega⟩,⟨by show (-9223372036854775808:Int) ≤ c;omega,by show c ≤ (9223372036854775807:Int);omega⟩⟩
end Go.Proofs.YtlakjlmaboioiaaGreatDoor
