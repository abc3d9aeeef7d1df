/- PoolFails returns true at every input. No condition. Part of its proof. -/
import Derived.Test.YtfidemmgofcnmaaGreatDoorRows
import Derived.WalkKit
import Derived.WalkSpells
import Derived.WalkLawsBesides
import Derived.OneCell
import Derived.Laws.MakeOwn
set_option maxHeartbeats 400000
set_option linter.unusedVariables false
namespace Go.Proofs.YtfidemmgofcnmaaGreatDoor
open Go.RowKit Go.Proofs.Tryz
abbrev Q9X:=@Array.getElem?_modify
abbrev Q9Y:=@Nat.le_refl
abbrev Q9Z:=@Nat.le_trans
abbrev Z0a:=@Nat.lt_of_lt_of_le
abbrev Z0b:=@List.map_cons
abbrev Z0c:=@List.cons.injEq
abbrev Z0d:=@List.mem_cons
abbrev Z0e:=@List.mem_map
abbrev Z0f:=@List.eq_of_mem_replicate
abbrev Z0g:=@Nat.add_zero
abbrev Z0h:=@List.length_replicate
abbrev Z0i:=@List.range_succ
abbrev Z0j:=@List.mem_range
abbrev Z0k:=@List.getElem?_eq_some_iff
abbrev Z0l:=@List.pairwise_lt_range
abbrev Z0m:=@Bool.and_eq_true
abbrev Z0n:=@List.flatMap_cons
abbrev Z0o:=@List.mem_flatMap
abbrev Z0p:=@List.pairwise_cons
abbrev Z0q:=@List.pairwise_map
abbrev Z0r:=@List.flatMap_append
abbrev Z0s:=@List.length_append
abbrev Z0t:=@List.length_cons
abbrev Z0u:=@List.pairwise_append
abbrev Z0v:=@List.mem_append
abbrev Z0w:=@List.sublist_append_left
abbrev Z0x:=@List.sublist_append_right
abbrev Z0y:=@List.mem_map_of_mem
abbrev Z0z:=@List.nodup_append
abbrev Z0A:=@List.mem_append_right
abbrev Z0B:=@List.nodup_cons
abbrev Z0C:=@Option.some.inj
abbrev Z0D:=@List.getElem_cons_drop
abbrev Z0E:=@List.take_append_drop
abbrev Z0F:=@List.append_assoc
abbrev Z0G:=@List.take_set_of_le
abbrev Z0H:=@List.drop_set_of_lt
abbrev Z0I:=@Nat.mul_le_mul
abbrev Z0J:=@Int.natCast_mul
abbrev Z0K:=@Int.toNat_natCast
abbrev Z0L:=@Nat.mul_one
abbrev Z0M:=@Bool.toNat_le
abbrev Z0N:=@Nat.pow_succ
abbrev Z0O:=@Nat.add_comm
abbrev Z0P:=@Nat.testBit_two_pow_mul_add
abbrev Z0Q:=@Nat.testBit_lt_two_pow
abbrev Z0R:=@Nat.lt_of_le_of_lt
abbrev Z0S:=@Nat.eq_of_testBit_eq
abbrev Z0T:=@Nat.pow_le_pow_right
abbrev Z0U:=@Nat.two_pow_pos
abbrev Z0V:=@Bool.true_and
abbrev Z0W:=@Nat.xor_lt_two_pow
abbrev Z0X:=@Nat.pow_lt_pow_right
abbrev Z0Y:=@Nat.testBit_xor
abbrev Z0Z:=@Nat.testBit_two_pow
abbrev Z1a:=@Nat.mod_eq_of_lt
abbrev Z1b:=@Nat.testBit_two_pow_mul
abbrev Z1c:=@Nat.testBit_zero
abbrev Z1d:=@Nat.testBit_and
abbrev Z1e:=@Nat.add_assoc
abbrev Z1f:=@Nat.pow_add
abbrev Z1g:=@Nat.div_div_eq_div_mul
abbrev Z1h:=@Nat.and_le_right
abbrev Z1i:=@Int.eq_ofNat_of_zero_le
abbrev Z1j:=@Nat.div_le_self
abbrev Z1k:=@List.getElem?_set
abbrev Z1l:=@List.ext_getElem?
abbrev Z1m:=@List.length_map
abbrev Z1n:=@List.length_range
abbrev Z1o:=@List.getElem?_map
abbrev Z1p:=@List.length_set
abbrev Z1q:=@List.getElem?_range
abbrev Z1r:=@List.getElem?_eq_none
abbrev Z1s:=@Int.tdiv_eq_ediv_of_nonneg
abbrev Z1t:=@Int.tmod_eq_emod_of_nonneg
abbrev Z1u:=@List.find?_range_eq_some
abbrev Z1v:=@Int.natCast_ediv
abbrev Z1w:=@Int.natCast_pow
abbrev Z1x:=@List.take_add_one
abbrev Z1y:=@List.filter_append
abbrev Z1z:=@List.take_of_length_le
abbrev Z1A:=@List.filter_eq_nil_iff
abbrev Z1B:=@List.getElem?_replicate
abbrev Z1C:=@Nat.zero_le
abbrev Z1D:=@List.getElem?_take
abbrev Z1E:=@List.Sublist.append
abbrev Z1F:=@List.Sublist.refl
abbrev Z1G:=@List.append_nil
abbrev Z1H:=@List.mem_singleton
abbrev Z1I:=@List.map_map
abbrev Z1J:=@List.map_congr_left
abbrev Z1K:=@List.nil_append
abbrev Z1L:=@List.cons_append
abbrev Z1M:=@List.filter_cons_of_pos
abbrev Z1N:=@List.filter_cons_of_neg
abbrev Z1O:=@List.mem_of_getElem?
abbrev Z1P:=@List.length_filter_le
abbrev Z1Q:=@List.eq_nil_of_length_eq_zero
abbrev Z1R:=@List.getElem?_eq_getElem
abbrev Z1S:=@List.length_drop
abbrev Z1T:=@List.length_take
abbrev Z1U:=@List.take_append_of_le_length
abbrev Z1V:=@List.take_take
abbrev Z1W:=@List.drop_append_of_le_length
abbrev Z1X:=@List.drop_eq_nil_of_le
abbrev Z1Y:=@List.take_left
abbrev Z1Z:=@List.length_nil
abbrev Z2a:=@Array.getElem?_toList
abbrev Z2b:=@Nat.min_def
abbrev Z2c:=@List.getElem?_drop
abbrev Z2d:=@List.mem_of_mem_drop
abbrev Z2e:=@Nat.zero_add
abbrev Z2f:=@List.size_toArray
abbrev Z2g:=@List.map_nil
abbrev Z2h:=@Nat.lt_or_ge
abbrev Z2i:=@List.eraseIdx_sublist
abbrev Z2j:=@List.set_cons_succ
abbrev Z2k:=@List.set_cons_zero
abbrev Z2l:=@List.Perm.append_right
abbrev Z2m:=@List.perm_append_comm
abbrev Z2n:=@List.mem_iff_getElem?
abbrev Z2o:=@List.Perm.append_left
abbrev Z2p:=@List.eraseIdx_eq_take_drop_succ
abbrev Z2q:=@List.append_eq_nil_iff
abbrev Z2r:=@Nat.mul_le_mul_right
abbrev Z2s:=@Nat.add_sub_cancel_left
abbrev Z2t:=@Nat.mul_div_cancel
abbrev Z2u:=@Nat.mul_comm
abbrev Z2v:=@List.pairwise_iff_getElem
abbrev Z2w:=@Option.isSome_none
abbrev Z2x:=@Nat.div_le_div_left
abbrev Z2y:=@Nat.add_mul_div_right
abbrev Z2z:=@Bool.eq_iff_iff
abbrev Z2A:=@Bool.not_eq_true'
abbrev Z2B:=@Bool.false_or
abbrev Z2C:=@Nat.pow_succ'
abbrev Z2D:=@Bool.or_eq_true
abbrev Z2E:=@List.getElem?_cons_succ
abbrev Z2F:=@List.getElem?_append_left
abbrev Z2G:=@List.getElem?_append_right
abbrev Z2H:=@Nat.mul_assoc
abbrev Z2I:=@Nat.mul_lt_mul_of_pos_right
abbrev Z2J:=@Nat.sub_self
abbrev Z2K:=@List.Perm.refl
abbrev Z2L:=@List.mem_of_mem_take
abbrev Z2M:=@List.getElem_mem
abbrev Z2N:=@List.take_replicate
abbrev Z2O:=@Nat.min_eq_left
abbrev Z2P:=@Nat.not_lt_zero
abbrev Z2Q:=@List.map_append
abbrev Z2R:=@List.perm_middle
abbrev Z2S:=@List.perm_append_singleton
abbrev Z2T:=@List.set_append_right
abbrev Z2U:=@Bool.false_eq_true
abbrev Z2V:=@List.length_singleton
abbrev Z2W:=@List.flatMap_nil
abbrev Z2X:=@List.flatMap_eq_nil_iff
abbrev Z2Y:=@Nat.eq_of_mul_eq_mul_right
abbrev Z2Z:=@List.getElem?_take_of_lt
def Cells(w:World)(b:Nat)(T:TypeId)(cs:List Value):Prop:=w.heap[b]?=some (.cells cs.toArray T (0,0))
theorem Cells.lt{w:World}{b:Nat}{T:TypeId}{cs:List Value}(h:Cells w b T cs):b<w.heap.size:=lt_of_block h
theorem Cells.cell{w:World}{b:Nat}{T:TypeId}{cs:List Value}(h:Cells w b T cs)(i:Nat)(v:Value)(hi:cs[i]?=some v):w.cell? ⟨b,i,none⟩=some v:=by
 unfold Cells at h;simp[World.cell?,h,hi]
theorem Cells.free{w:World}{b:Nat}{T:TypeId}{cs:List Value}(h:Cells w b T cs)(i:Nat):w.frozen? ⟨b,i,none⟩=false:=by
 unfold Cells at h;simp[World.frozen?,h]
theorem Cells.set{w:World}{b:Nat}{T:TypeId}{cs:List Value}(h:Cells w b T cs)(i:Nat)(v:Value):Cells (w.setCell ⟨b,i,none⟩ v) b T (cs.set i v):=by
 unfold Cells at h ⊢;simp[World.setCell,Array.getElem?_modify,h]
theorem Cells.alloc{w:World}{b:Nat}{T:TypeId}{cs:List Value}(h:Cells w b T cs)(o:Obj):Cells (w.alloc o) b T cs:=by
 have:=h.lt;unfold Cells at h ⊢;rw[Below.heap_alloc _ _ _ this];exact h
theorem Cells.same{w w':World}{b:Nat}{T:TypeId}{cs:List Value}(h:Cells w b T cs)(e:w'.heap[b]?=w.heap[b]?):Cells w' b T cs:=e.trans h
theorem Cells.new(w:World)(T:TypeId)(cs:List Value):Cells (w.alloc (.cells cs.toArray T)) w.heap.size T cs:=by
 unfold Cells;show(w.heap.push _)[w.heap.size]?=_;simp
def KvOf(es:Array MapEntry)(Ab:Nat)(kv:List (Value×Value)):Prop:=Go.MapKept.Stamped es Ab/\es.toList.map (fun e=>(e.key,e.val))=kv
def MapIs(w:World)(m:Nat)(kv:List (Value×Value)):Prop:=∃es Ab,w.heap[m]?=some (.map es Ab)/\KvOf es Ab kv
theorem MapIs.lt{w:World}{m:Nat}{kv:List (Value×Value)}(h:MapIs w m kv):m<w.heap.size:=by
 obtain⟨es,Ab,h,_⟩:=h;exact lt_of_block h
theorem MapIs.same{w w':World}{m:Nat}{kv:List (Value×Value)}(h:MapIs w m kv)(e:w'.heap[m]?=w.heap[m]?):MapIs w' m kv:=by
 obtain⟨es,Ab,h,r⟩:=h;exact⟨es,Ab,e.trans h,r⟩
theorem MapIs.set{w:World}{m:Nat}{kv:List (Value×Value)}(h:MapIs w m kv)(a:Addr)(v:Value):MapIs (w.setCell a v) m kv:=by
 obtain⟨es,Ab,h,r⟩:=h;refine⟨es,Ab,?_,r⟩;by_cases e:m=a.block
 ·subst e;simp[World.setCell,Array.getElem?_modify,h]
 ·rw[Below.heap_setCell _ _ _ _ e];exact h
theorem MapIs.alloc{w:World}{m:Nat}{kv:List (Value×Value)}(h:MapIs w m kv)(o:Obj):MapIs (w.alloc o) m kv:=by
 have:=h.lt;exact h.same (Below.heap_alloc _ _ _ this)
theorem MapIs.new(w:World):MapIs (w.alloc (.map #[] 0)) w.heap.size []:=by
 refine⟨#[],0,?_,Go.MapKept.stamped_empty 0,rfl⟩;show(w.heap.push _)[w.heap.size]?=_;simp
structure Chg(F:Nat->Prop)(w w':World):Prop where
 os:w'.os=w.os
 tape:w'.tape=w.tape
 output:w'.output=w.output
 size:w.heap.size<=w'.heap.size
 block:∀k,k<w.heap.size->¬F k->w'.heap[k]?=w.heap[k]?
theorem Chg.refl(F:Nat->Prop)(w:World):Chg F w w:=⟨rfl,rfl,rfl,Q9Y _,fun _ _ _=>rfl⟩
theorem Chg.trans{F F':Nat->Prop}{a b c:World}(h:Chg F a b)(k:Chg F' b c)(hF:∀i,F' i->F i∨a.heap.size<=i):Chg F a c:=
 ⟨k.os.trans h.os,k.tape.trans h.tape,k.output.trans h.output,Q9Z h.size k.size,fun i hi hn =>
  (k.block i (Z0a hi h.size) (fun h'=>by rcases hF i h' with h'|h';exact hn h';omega)).trans (h.block i hi hn)⟩
theorem Chg.mono{F F':Nat->Prop}{a b:World}(h:Chg F a b)(hF:∀i,F i->F' i∨a.heap.size<=i):Chg F' a b:=
 ⟨h.os,h.tape,h.output,h.size,fun i hi hn=>h.block i hi (fun h'=>by rcases hF i h' with h'|h';exact hn h';omega)⟩
theorem Chg.drew{F:Nat->Prop}{a w:World}(h:Chg F a w):Chg F a w.drew:=⟨h.os,h.tape,h.output,h.size,h.block⟩
theorem Chg.alloc{F:Nat->Prop}{a w:World}(h:Chg F a w)(o:Obj):Chg F a (w.alloc o):=by
 have hs:=h.size;exact⟨h.os,h.tape,h.output,by simp;omega,fun i hi hn=>(Below.heap_alloc _ _ _ (by omega)).trans (h.block i hi hn)⟩
theorem Chg.set{F:Nat->Prop}{a w:World}(h:Chg F a w)(p:Addr)(u:Value)(hp:F p.block∨a.heap.size<=p.block):Chg F a (w.setCell p u):=by
 have hs:=h.size;refine⟨h.os,h.tape,h.output,by simp[World.setCell];omega,fun i hi hn=>(Below.heap_setCell _ _ _ _ ?_).trans (h.block i hi hn)⟩;rintro rfl;rcases hp with hp|hp
 ·exact hn hp
 ·omega
theorem Chg.below{F:Nat->Prop}{a b:World}{B:Nat}(h:Chg F a b)(hB:B<=a.heap.size)(hF:∀i,F i->B<=i):Below B a b:=
 ⟨h.os,h.tape,h.output,h.size,fun i hi=>h.block i (by omega) (fun h'=>by have:=hF i h';omega)⟩
def look:List (Int×Value)->Int->Option Value
 | [],_=>none
 | p::r,id=>if id=p.1 then some p.2 else look r id
def put:List (Int×Value)->Int->Value->List (Int×Value)
 | [],id,v=>[(id,v)]
 | p::r,id,v=>if id=p.1 then(p.1,v)::r else p::put r id v
def del:List (Int×Value)->Int->List (Int×Value)
 | [],_=>[]
 | p::r,id=>if id=p.1 then r else p::del r id
def Q0n(w:World)(m:Nat)(kv:List (Int×Value)):Prop:=MapIs w m (kv.map fun p=>(.int .i64 p.1,p.2))
theorem Q0J(id:Int):∀(es:List MapEntry) (kv:List (Int×Value)) (i:Nat),es.map (fun e=>(e.key,e.val))=kv.map (fun p=>(Value.int .i64 p.1,p.2)) ->
  (look kv id=none/\Instr.findNow (.int .i64) (.int .i64 id) es i=some none) ∨
  (∃j v,look kv id=some v/\Instr.findNow (.int .i64) (.int .i64 id) es i=some (some (i+j,v))/\j<es.length/\(es[j]?).map (·.key)=some (.int .i64 id) /\
   (∀u,(es.modify j fun e=>{e with key:=.int .i64 id,val:=u}).map (fun e=>(e.key,e.val))=(put kv id u).map (fun p=>(Value.int .i64 p.1,p.2))) /\
   (es.eraseIdx j).map (fun e=>(e.key,e.val))=(del kv id).map (fun p=>(Value.int .i64 p.1,p.2)))
 | [],kv,i,h=>by
  cases kv with
  | nil=>left;simp[look,Instr.findNow]
  | cons p r=>simp at h
 | e::es,kv,i,h=>by
  cases kv with
  | nil=>simp at h
  | cons p r =>
   simp only[Z0b,Z0c,Prod.mk.injEq] at h;obtain⟨⟨hk,hv⟩,hr⟩:=h;by_cases AY:id=p.1
   ·right;refine⟨0,p.2,by simp[look,AY],by simp[Instr.findNow,hk,Instr.sameNow,AY,hv],by simp,by simp[hk,AY],?_,?_⟩
    ·intro u;simp[put,AY,hr]
    ·simp[del,AY,hr]
   ·have h1:(id==p.1)=false:=by simpa using AY
    rcases Q0J id es r (i+1) hr with ⟨hl,hf⟩|⟨j,v,hl,hf,hj,BY,CZ,Dm⟩
    ·left;exact⟨by simp[look,AY,hl],by simp[Instr.findNow,hk,Instr.sameNow,h1,hf]⟩
    ·right;refine⟨j+1,v,by simp[look,AY,hl],?_,by simp;omega,by simpa using BY,?_,?_⟩
     ·simp[Instr.findNow,hk,Instr.sameNow,h1,hf];omega
     ·intro u;simp[put,AY,hk,hv,CZ u]
     ·simp[del,AY,hk,hv,Dm]
theorem Q1D(id:Int):∀(es:List MapEntry) (kv:List (Int×Value)),es.map (fun e=>(e.key,e.val))=kv.map (fun p=>(Value.int .i64 p.1,p.2))->look kv id=none->∀u,put kv id u=kv++[(id,u)]
 | _,[],_,_,u=>rfl
 | [],_::_,h,_,_=>by simp at h
 | e::es,p::r,h,hl,u=>by
  by_cases AY:id=p.1
  ·simp[look,AY] at hl
  ·simp only[look,AY,if_false] at hl;simp only[Z0b,Z0c] at h;simp[put,AY,Q1D id es r h.2 hl u]
theorem Q4g:∀(kv:List (Int×Value)) (id:Int),look kv id=none->del kv id=kv
 | [],_,_=>rfl
 | p::r,id,hl=>by
  by_cases AY:id=p.1
  ·simp[look,AY] at hl
  ·simp only[look,AY,if_false] at hl;simp[del,AY,Q4g r id hl]
section
variable {P:Program} {K V:TypeId} {T:TypeId}
theorem Q0i(w:World)(e:Bool)(id:Int)(hK:P.underlying K=some (.int .i64)):(Instr.checkKey e 10000 K (.int .i64 id)).run P w=.ok () w:=by
 unfold Instr.checkKey;simp[run_underlying hK,Result.andThen]
theorem Q0k{w:World}(id:Int)(es:List MapEntry)(r:Option (Nat×Value))(hK:P.underlying K=some (.int .i64))
  (h:Instr.findNow (.int .i64) (.int .i64 id) es 0=some r):(Instr.findKey K (.int .i64 id) es).run P w=.ok r w:=by
 unfold Instr.findKey;simp[run_underlying hK,Result.andThen,h]
theorem Q5q{es:List MapEntry}{kv:List (Int×Value)}(hr:es.map (fun e=>(e.key,e.val))=kv.map (fun p=>(Value.int .i64 p.1,p.2))){id:Int}(hl:look kv id=none):∀x∈es,x.key≠.int .i64 id:=by
 have Ar:∀(l:List (Int×Value)),look l id=none->∀p∈l,p.1≠id:=by
  intro l
  induction l with
  | nil=>intro _ p hp;cases hp
  | cons q r ih =>
   intro h p hp;unfold look at h;split at h
   ·cases h
   ·rename_i Ao;rcases Z0d.1 hp with rfl|hp
    ·exact fun e=>Ao e.symm
    ·exact ih h p hp
 intro x hx e;have hm:(x.key,x.val)∈kv.map (fun p=>(Value.int .i64 p.1,p.2)):=by
  rw[<- hr];exact Z0e.2 ⟨x,hx,rfl⟩
 obtain⟨p,hp,J7⟩:=Z0e.1 hm;have h1:Value.int .i64 p.1=x.key:=(Prod.mk.injEq _ _ _ _ ▸ J7).1;rw[e] at h1;exact Ar kv hl p hp (by simpa using h1)
theorem Q0K{w:World}{m:Nat}{kv:List (Int×Value)}(h:Q0n w m kv)(id:Int)(ok:Bool)(z:Value)(hT:P.underlying T=some (.map K V))(hK:P.underlying K=some (.int .i64))
  (hz:(zeroValue V).run P w=.ok z w) :
  (Instr.lookup T (.map (some m)) (.int .i64 id) ok).run P w=.ok (if ok then .tuple #[(look kv id).getD z,.bool (look kv id).isSome] else(look kv id).getD z) w:=by
 obtain⟨es,Ab,hb,hs,hr⟩:=h;unfold Instr.lookup;rcases Q0J id es.toList kv 0 hr with ⟨hl,hf⟩|⟨j,v,hl,hf,_⟩
 ·cases ok <;> simp[run_underlying hT,Result.andThen,Go.MapKept.run_getObj_map hb,Q0i _ _ _ hK,Q0k _ _ _ hK hf,hl,hz]
 ·cases ok <;> simp[run_underlying hT,Result.andThen,Go.MapKept.run_getObj_map hb,Q0i _ _ _ hK,Q0k _ _ _ hK hf,hl]
theorem Q0N{w:World}{m:Nat}{kv:List (Int×Value)}(h:Q0n w m kv)(id:Int)(u:Value)(hT:P.underlying T=some (.map K V))(hK:P.underlying K=some (.int .i64)) :
  ∃w',(Instr.mapUpdate T (.map (some m)) (.int .i64 id) u).run P w=.ok () w'/\Q0n w' m (put kv id u)/\w.grownBy w' (some m):=by
 obtain⟨es,Ab,hb,hs,hr⟩:=h;have BP:∀o,w.grownBy {w with heap:=w.heap.setIfInBounds m o} (some m):=fun o=>⟨rfl,rfl,rfl,by simp,fun k _ Ao=>by
  have:m≠k:=fun e=>Ao (by rw[e])
  simp[this]⟩
 have Ae:=lt_of_block hb;unfold Instr.mapUpdate;rcases Q0J id es.toList kv 0 hr with ⟨hl,hf⟩|⟨j,v,hl,hf,hj,BY,CZ,_⟩
 ·refine⟨{w with heap:=w.heap.setIfInBounds m (.map (es.push {key:=.int .i64 id,val:=u,born:=Ab}) (Ab+1))},?_,?_,BP _⟩
  ·simp[run_underlying hT,Result.andThen,Go.MapKept.run_getObj_map hb,Q0i _ _ _ hK,Q0k _ _ _ hK hf,Go.MapKept.run_setObj_map _ hb]
  ·refine⟨es.push {key:=.int .i64 id,val:=u,born:=Ab},Ab+1,by simp[Ae],Go.MapKept.stamped_push hs (Q5q hr hl),?_⟩;rw[Q1D id es.toList kv hr hl u];simp[hr]
 ·refine⟨{w with heap:=w.heap.setIfInBounds m (.map (es.modify (0+j) fun e=>{e with key:=.int .i64 id,val:=u}) Ab)},?_,?_,BP _⟩
  ·have CE:((es[0+j]?).map (·.key)).getD (.int .i64 id)=.int .i64 id:=by
    have:(es[0+j]?).map (·.key)=some (.int .i64 id):=by simpa using BY
    rw[this];rfl
   have Jz:∀w',(Instr.keyThatStays (.int .i64 id) (.int .i64 id)).run P w'=.ok (.int .i64 id) w':=by
    intro w';simp[Instr.keyThatStays,Instr.sameBits]
   simp only[run_underlying hT,Result.andThen,Go.MapKept.run_getObj_map hb,Q0i _ _ _ hK,Q0k _ _ _ hK hf,Go.MapKept.run_setObj_map _ hb,CE,Jz,Sem.run_bind]
  ·refine⟨es.modify (0+j) fun e=>{e with key:=.int .i64 id,val:=u},Ab,by simp[Ae],Go.MapKept.stamped_modify hs (0+j) _ (fun _ _=>rfl) (fun e _ he=>?_),?_⟩
   ·have:(es[0+j]?).map (·.key)=some (.int .i64 id):=by simpa using BY
    rw[he] at this
    simpa using this.symm
   rw[<- CZ u];simp
theorem Q2l{w:World}{m:Nat}{kv:List (Int×Value)}(h:Q0n w m kv)(id:Int)(t1 t2:TypeId)(hT:P.underlying T=some (.map K V))(hK:P.underlying K=some (.int .i64)) :
  ∃w',(Builtin.delete_ #[T,t1] t2 #[.map (some m),.int .i64 id]).run P w=.ok (.tuple #[]) w'/\Q0n w' m (del kv id)/\w.grownBy w' (some m):=by
 obtain⟨es,Ab,hb,hs,hr⟩:=h;have BP:∀o,w.grownBy {w with heap:=w.heap.setIfInBounds m o} (some m):=fun o=>⟨rfl,rfl,rfl,by simp,fun k _ Ao=>by
  have:m≠k:=fun e=>Ao (by rw[e])
  simp[this]⟩
 have Ae:=lt_of_block hb;unfold Builtin.delete_;rcases Q0J id es.toList kv 0 hr with ⟨hl,hf⟩|⟨j,v,hl,hf,hj,BY,_,Dm⟩
 ·refine⟨{w with heap:=w.heap.setIfInBounds m (.map es Ab)},?_,?_,BP _⟩
  ·simp[run_underlying hT,Result.andThen,Go.MapKept.run_getObj_map hb,Q0i _ _ _ hK,Q0k _ _ _ hK hf,Go.MapKept.run_setObj_map _ hb]
  ·refine⟨_,_,by simp[Ae],hs,?_⟩;rw[Q4g kv id hl];exact hr
 ·refine⟨{w with heap:=w.heap.setIfInBounds m (.map (es.eraseIdxIfInBounds (0+j)) Ab)},?_,?_,BP _⟩
  ·simp[run_underlying hT,Result.andThen,Go.MapKept.run_getObj_map hb,Q0i _ _ _ hK,Q0k _ _ _ hK hf,Go.MapKept.run_setObj_map _ hb]
  ·refine⟨es.eraseIdxIfInBounds (0+j),Ab,by simp[Ae],Go.MapKept.stamped_erase hs _,?_⟩;rw[<- Dm];have:j<es.size:=by simpa using hj
   simp[Array.eraseIdxIfInBounds,this]
end
theorem Q0D{P:Program}(w:World){ops:Array Oper}{rest:List Oper}{o:Oper}{a:Act}{Q:Exit->Act->World->Prop}
  (hg:o.guard=none) (m k x:Operand) (t K V:TypeId) (hop:o.op=.mapUpdate t m k x) (hT:P.underlying t=some (.map K V)) (hK:P.underlying K=some (.int .i64))
  (b:Nat) (kv:List (Int×Value)) (h:Q0n w b kv) (id:Int) (u:Value) (hm:a.eval m=.map (some b)) (hk:a.eval k=.int .i64 id) (hx:a.eval x=u)
  (hK':∀w',Q0n w' b (put kv id u)->w.grownBy w' (some b)->wpList P ops Q rest (a.put o.dst undef) w'):wpList P ops Q (o::rest) a w:=by
 refine wpList_plain hg fun K' hK''=>?_
 obtain⟨w',BN,r1,r2⟩:=Q0N (P:=P) h id u hT hK;unfold Oper.wp;simp[execOp,hop,hm,hk,hx,BN,Result.andThen];exact hK'' _ _ (hK' w' r1 r2)
theorem Q1y{P:Program}(w:World){ops:Array Oper}{rest:List Oper}{o:Oper}{a:Act}{Q:Exit->Act->World->Prop}
  (hg:o.guard=none) (m k:Operand) (t t1 K V:TypeId) (hop:o.op=.call {callee:=.builtin .delete,args:=#[m,k],argTypes:=#[t,t1]}) (hT:P.underlying t=some (.map K V)) (hK:P.underlying K=some (.int .i64))
  (b:Nat) (kv:List (Int×Value)) (h:Q0n w b kv) (id:Int) (hm:a.eval m=.map (some b)) (hk:a.eval k=.int .i64 id)
  (hK':∀w',Q0n w' b (del kv id)->w.grownBy w' (some b)->wpList P ops Q rest (a.put o.dst (.tuple #[])) w'):wpList P ops Q (o::rest) a w:=by
 refine wpList_plain hg fun K' hK''=>?_
 obtain⟨w',BN,r1,r2⟩:=Q2l (P:=P) h id t1 o.type hT hK;unfold Oper.wp;simp[execOp,hop,resolve,invoke,builtin,hm,hk,BN,Result.andThen];exact hK'' _ _ (hK' w' r1 r2)
def dbi(t:Nat):Nat:=(2 ^ t*285870213051353865%18446744073709551616)/288230376151711744
def dbt:List Nat:=[0,1,56,2,57,49,28,3,61,58,42,50,38,29,17,4,62,47,59,36,45,43,51,22,53,39,33,30,24,18,12,5,63,55,48,27,60,41,37,16,46,35,44,21,52,32,23,11,54,26,40,15,34,20,31,10,25,14,19,9,13,8,7,6]
theorem Q8o:∀t,t<64->dbi t<64/\dbt[dbi t]?=some t:=by decide +kernel
def TabB(w:World):Prop:=∀(j v:Nat),dbt[j]?=some v->w.cell? ⟨1,j,none⟩=some (.int .u8 v)
def Q5r:List Int:=[0,64,128,256,32,32,48,256]
def TabC(w:World):Prop:=∀(j:Nat) (v:Int),Q5r[j]?=some v->w.cell? ⟨0,j,none⟩=some (.int .i64 v)
def GB:Nat:=3
structure Env(w:World):Prop where
 gb:GB<=w.heap.size
 tabB:TabB w
 tabC:TabC w
theorem Env.same{w w':World}(h:Env w)(hb:∀b,b<GB->w'.heap[b]?=w.heap[b]?)(hs:GB<=w'.heap.size):Env w':=by
 refine⟨hs,fun j v hv=>?_,fun j v hv=>?_⟩
 ·exact(World.cell?_of_block (w:=w) (hb 1 (by decide))).trans (h.tabB j v hv)
 ·exact(World.cell?_of_block (w:=w) (hb 0 (by decide))).trans (h.tabC j v hv)
theorem Q0a{p:Prop}(h:p):Hid p:=h
abbrev HL:=List (Nat×(Obj->Prop))
def keys(H:HL):List Nat:=H.map Prod.fst
@[simp] theorem keys_nil:keys []=[]:=rfl
@[simp] theorem keys_cons (p:Nat×(Obj->Prop)) (H:HL):keys (p::H)=p.1::keys H:=rfl
@[simp] theorem keys_append (A B:HL):keys (A++B)=keys A++keys B:=by simp[keys]
structure Sep(w:World)(H:HL):Prop where
 nd:(keys H).Nodup
 at':∀p∈H,∃o,w.heap[p.1]?=some o/\p.2 o
 hi:∀b∈keys H,GB<=b
 env:Env w
structure Step(H H':HL)(w w':World):Prop where
 sep:Sep w' H'
 chg:Chg (fun b=>b∈keys H) w w'
 new:∀b∈keys H',b∈keys H∨w.heap.size<=b
def isC(T:TypeId)(cs:List Value):Obj->Prop:=fun o=>o=.cells cs.toArray T (0,0)
def isR(T:TypeId)(n:Nat)(cs:List Value):Obj->Prop:=fun o=>∃Ac:Array Value,o=.cells Ac T (0,0)/\Ac.size=n/\Ac.toList.take cs.length=cs
def isM(kv:List (Value×Value)):Obj->Prop:=fun o=>∃es Ab,o=.map es Ab/\KvOf es Ab kv
theorem Sep.lt{w:World}{H:HL}(h:Sep w H){b:Nat}(hb:b∈keys H):b<w.heap.size:=by
 obtain⟨p,hp,rfl⟩:=Z0e.1 hb;obtain⟨o,ho,_⟩:=h.at' p hp;exact lt_of_block ho
theorem Sep.nil{w:World}(h:Env w):Sep w []:=⟨by simp,by simp,by simp,h⟩
theorem Sep.sub{w:World}{H K:HL}(h:Sep w H)(hs:K.Sublist H):Sep w K:=⟨h.nd.sublist (hs.map _),fun p hp=>h.at' p (hs.subset hp),fun b hb=>h.hi b ((hs.map Prod.fst).subset hb),h.env⟩
theorem Sep.perm{w:World}{H K:HL}(h:Sep w H)(hp:H.Perm K):Sep w K:=⟨(hp.map _).nodup_iff.1 h.nd,fun p AW=>h.at' p (hp.mem_iff.2 AW),fun b hb=>h.hi b ((hp.map Prod.fst).mem_iff.2 hb),h.env⟩
theorem Sep.left{w:World}{A B:HL}(h:Sep w (A++B)):Sep w A:=h.sub (Z0w A B)
theorem Sep.right{w:World}{A B:HL}(h:Sep w (A++B)):Sep w B:=h.sub (Z0x A B)
theorem Sep.tail{w:World}{p:Nat×(Obj->Prop)}{B:HL}(h:Sep w (p::B)):Sep w B:=h.sub (List.sublist_cons_self p B)
theorem Sep.get{w:World}{H:HL}(h:Sep w H){b:Nat}{q:Obj->Prop}(hm:(b,q)∈H):∃o,w.heap[b]?=some o/\q o:=h.at' (b,q) hm
theorem Sep.cells{w:World}{H:HL}(h:Sep w H){b:Nat}{T:TypeId}{cs:List Value}(hm:(b,isC T cs)∈H):Cells w b T cs:=by
 obtain⟨o,ho,rfl⟩:=h.get hm;exact ho
theorem Sep.map{w:World}{H:HL}(h:Sep w H){b:Nat}{kv:List (Value×Value)}(hm:(b,isM kv)∈H):MapIs w b kv:=by
 obtain⟨o,ho,es,Ab,rfl,hr⟩:=h.get hm;exact⟨es,Ab,ho,hr⟩
theorem Sep.row{w:World}{H:HL}(h:Sep w H){b:Nat}{T:TypeId}{n:Nat}{cs:List Value}(hm:(b,isR T n cs)∈H):∃ds,Cells w b T ds/\ds.length=n/\ds.take cs.length=cs:=by
 obtain⟨o,ho,Ac,rfl,hn,hr⟩:=h.get hm;exact⟨Ac.toList,by simpa[Cells] using ho,by simpa using hn,hr⟩
theorem Sep.same{w w':World}{H:HL}(h:Sep w H)(hs:∀b∈keys H,w'.heap[b]?=w.heap[b]?)(he:Env w'):Sep w' H:=
 ⟨h.nd,fun p hp=>by obtain⟨o,ho,hq⟩:=h.at' p hp;exact⟨o,(hs p.1 (Z0y hp)).trans ho,hq⟩,h.hi,he⟩
theorem Env.chg{w w':World}{F:Nat->Prop}(h:Env w)(hc:Chg F w w')(hF:∀b,F b->GB<=b):Env w':=
 h.same (fun b hb=>hc.block b (Z0a hb h.gb) fun hf=>by have:=hF b hf;omega) (Q9Z h.gb hc.size)
theorem Env.below{w w':World}(h:Env w)(hb:Below w.heap.size w w'):Env w':=
 h.same (fun b hl=>hb.block b (Z0a hl h.gb)) (Q9Z h.gb hb.size)
theorem Step.refl{w:World}{H:HL}(h:Sep w H):Step H H w w:=⟨h,Chg.refl _ _,fun _ hb=>.inl hb⟩
theorem Step.trans{w w1 w2:World}{H H1 H2:HL}(h:Step H H1 w w1)(k:Step H1 H2 w1 w2):Step H H2 w w2:=by
 have hs:=h.chg.size;refine⟨k.sep,h.chg.trans k.chg h.new,fun b hb=>?_⟩;rcases k.new b hb with h'|h'
 ·exact h.new b h'
 ·exact .inr (by omega)
theorem Step.perm{w w':World}{H H' K K':HL}(h:Step H H' w w')(hp:H.Perm K)(AW:H'.Perm K'):Step K K' w w':=
 ⟨h.sep.perm AW,h.chg.mono fun b hb=>.inl ((hp.map _).mem_iff.1 hb),fun b hb=>by rcases h.new b ((AW.map _).mem_iff.2 hb) with h'|h';exact .inl ((hp.map _).mem_iff.1 h');exact .inr h'⟩
theorem Step.frame{w w':World}{H H':HL}(A B:HL)(hA:Sep w (A++H++B))(h:Step H H' w w'):Step (A++H++B) (A++H'++B) w w':=by
 have AO:=hA.nd;simp only[keys_append] at AO;have hd:=Z0z.1 AO;have Dq:=Z0z.1 hd.1;have other:∀b,b∈keys A∨b∈keys B->b∉keys H:=by
  rintro b (hb|hb) hH
  ·exact Dq.2.2 b hb b hH rfl
  ·exact hd.2.2 b (Z0A _ hH) b hb rfl
 have lt:∀b,b∈keys A∨b∈keys B->b<w.heap.size:=by
  rintro b (hb|hb) <;> refine hA.lt ?_ <;> simp[hb]
 have fresh:∀b,b∈keys A∨b∈keys B->b∉keys H':=by
  intro b hb Iq;rcases h.new b Iq with h1|h1
  ·exact other b hb h1
  ·have:=lt b hb;omega
 refine⟨⟨?_,?_,?_,h.sep.env⟩,?_,?_⟩
 ·simp only[keys_append];rw[Z0z];refine⟨?_,hd.2.1,?_⟩
  ·rw[Z0z];exact⟨Dq.1,h.sep.nd,fun a ha b hb e=>fresh a (.inl ha) (e ▸ hb)⟩
  ·intro a ha b hb e;subst e;rcases Z0v.1 ha with ha|ha
   ·exact hd.2.2 a (List.mem_append_left _ ha) a hb rfl
   ·exact fresh a (.inr hb) ha
 ·intro p hp;rcases Z0v.1 hp with hp|hp
  ·rcases Z0v.1 hp with hp|hp
   ·obtain⟨o,ho,hq⟩:=hA.at' p (by simp[hp]);exact⟨o,(h.chg.block p.1 (lt_of_block ho) (other p.1 (.inl (Z0y hp)))).trans ho,hq⟩
   ·exact h.sep.at' p hp
  ·obtain⟨o,ho,hq⟩:=hA.at' p (by simp[hp]);exact⟨o,(h.chg.block p.1 (lt_of_block ho) (other p.1 (.inr (Z0y hp)))).trans ho,hq⟩
 ·intro b hb;simp only[keys_append,Z0v] at hb;rcases hb with (hb|hb)|hb
  ·exact hA.hi b (by simp[hb])
  ·exact h.sep.hi b hb
  ·exact hA.hi b (by simp[hb])
 ·exact h.chg.mono fun b hb=>.inl (by simp[hb])
 ·intro b hb;simp only[keys_append,Z0v] at hb ⊢;rcases hb with (hb|hb)|hb
  ·exact .inl (.inl (.inl hb))
  ·rcases h.new b hb with h'|h'
   ·exact .inl (.inl (.inr h'))
   ·exact .inr h'
  ·exact .inl (.inr hb)
theorem Step.drop{w w':World}{H H' K:HL}(h:Step H H' w w')(hs:K.Sublist H'):Step H K w w':=
 ⟨h.sep.sub hs,h.chg,fun b hb=>h.new b ((hs.map Prod.fst).subset hb)⟩
theorem Step.from_drew{w w':World}{H H':HL}(h:Step H H' w.drew w'):Step H H' w w':=⟨h.sep,((Chg.refl (fun b=>b∈keys H) w).drew).trans h.chg fun _ hb=>.inl hb,h.new⟩
theorem Step.from_alloc{w w':World}{H H':HL}{o:Obj}(h:Step H H' (w.alloc o) w'):Step H H' w w':=by
 have hs:(w.alloc o).heap.size=w.heap.size+1:=by simp
 refine⟨h.sep,((Chg.refl (fun b=>b∈keys H) w).alloc o).trans h.chg fun _ hb=>.inl hb,fun b hb=>?_⟩;rcases h.new b hb with h'|h'
 ·exact .inl h'
 ·exact .inr (by omega)
theorem Sep.grown{w w':World}{H:HL}(h:Sep w H)(hb:Below w.heap.size w w'):Step H H w w':=
 ⟨h.same (fun b Ak=>hb.block b (h.lt Ak)) (h.env.below hb),⟨hb.os,hb.tape,hb.output,hb.size,fun k hk _=>hb.block k hk⟩,fun _ hb=>.inl hb⟩
theorem Sep.drew{w:World}{H:HL}(h:Sep w H):Sep w.drew H:=h.same (fun _ _=>rfl) (h.env.same (fun _ _=>rfl) h.env.gb)
theorem Step.drew{w w':World}{H H':HL}(h:Step H H' w w'):Step H H' w w'.drew:=⟨h.sep.drew,h.chg.drew,h.new⟩
theorem Sep.drewN{w:World}{H:HL}(h:Sep w H)(n:Nat):Sep (w.drewN n) H:=h.same (fun _ _=>rfl) (h.env.same (fun _ _=>rfl) h.env.gb)
theorem Sep.alloc{w:World}{H:HL}(h:Sep w H)(o:Obj):Sep (w.alloc o) H:=h.same (fun b hb=>Below.heap_alloc _ _ _ (h.lt hb)) (h.env.below ((Below.refl _ _).alloc (Q9Y _) _))
theorem Sep.new{w:World}{H:HL}(h:Sep w H)(T:TypeId)(cs:List Value):Step H ((w.heap.size,isC T cs)::H) w (w.alloc (.cells cs.toArray T)):=by
 refine⟨⟨?_,?_,?_,(h.alloc _).env⟩,(Chg.refl _ _).alloc _,?_⟩
 ·simp only[keys_cons,Z0B];exact⟨fun hb=>by have:=h.lt hb;omega,h.nd⟩
 ·intro p hp;rcases Z0d.1 hp with rfl|hp
  ·exact⟨_,Cells.new w T cs,rfl⟩
  ·exact(h.alloc _).at' p hp
 ·intro b hb;rcases Z0d.1 hb with rfl|hb
  ·exact h.env.gb
  ·exact h.hi b hb
 ·intro b hb;rcases Z0d.1 hb with rfl|hb
  ·exact .inr (Q9Y _)
  ·exact .inl hb
theorem Sep.newMap{w:World}{H:HL}(h:Sep w H):Step H ((w.heap.size,isM [])::H) w (w.alloc (.map #[] 0)):=by
 refine⟨⟨?_,?_,?_,(h.alloc _).env⟩,(Chg.refl _ _).alloc _,?_⟩
 ·simp only[keys_cons,Z0B];exact⟨fun hb=>by have:=h.lt hb;omega,h.nd⟩
 ·intro p hp;rcases Z0d.1 hp with rfl|hp
  ·refine⟨.map #[] 0,?_,⟨#[],0,rfl,Go.MapKept.stamped_empty 0,rfl⟩⟩;show(w.heap.push _)[w.heap.size]?=_;simp
  ·exact(h.alloc _).at' p hp
 ·intro b hb;rcases Z0d.1 hb with rfl|hb
  ·exact h.env.gb
  ·exact h.hi b hb
 ·intro b hb;rcases Z0d.1 hb with rfl|hb
  ·exact .inr (Q9Y _)
  ·exact .inl hb
theorem Sep.set{w:World}{A B:HL}{b:Nat}{T:TypeId}{cs:List Value}(h:Sep w (A++(b,isC T cs)::B))(i:Nat)(v:Value):Step (A++(b,isC T cs)::B) (A++(b,isC T (cs.set i v))::B) w (w.setCell ⟨b,i,none⟩ v):=by
 have hc:Cells w b T cs:=h.cells (by simp);have AO:=h.nd;have Bb:Chg (fun b'=>b'∈keys (A++(b,isC T cs)::B)) w (w.setCell ⟨b,i,none⟩ v):=(Chg.refl _ _).set _ _ (.inl (by simp));refine⟨⟨by simpa using AO,?_,fun b' Ak=>h.hi b' (by simpa using Ak),h.env.chg Bb h.hi⟩,Bb,fun b' Ak=>.inl (by simpa using Ak)⟩;intro p hp;by_cases Cs:p.1=b
 ·have AW:p=(b,isC T (cs.set i v)):=by
   simp only[keys_append,keys_cons] at AO;have hn:=Z0z.1 AO;rcases Z0v.1 hp with hp|hp
   ·exact absurd rfl (hn.2.2 b (Cs ▸ Z0y hp) b (by simp))
   ·rcases Z0d.1 hp with rfl|hp
    ·rfl
    ·exact absurd (Cs ▸ Z0y hp) (Z0B.1 hn.2.1).1
  subst AW;exact⟨_,hc.set i v,rfl⟩
 ·obtain⟨o,ho,hq⟩:=h.at' p (by
   rcases Z0v.1 hp with hp|hp
   ·simp[hp]
   ·rcases Z0d.1 hp with rfl|hp
    ·exact absurd rfl Cs
    ·simp[hp])
  exact⟨o,(Below.heap_setCell _ _ _ _ Cs).trans ho,hq⟩
theorem Sep.turn{w w':World}{A B:HL}{b:Nat}{q q':Obj->Prop}(h:Sep w (A++(b,q)::B))(hg:w.grownBy w' (some b))(hq:∃o,w'.heap[b]?=some o/\q' o):Step (A++(b,q)::B) (A++(b,q')::B) w w':=by
 have AO:=h.nd;have Bb:Chg (fun b'=>b'∈keys (A++(b,q)::B)) w w':=⟨hg.os,hg.tape,hg.output,hg.size,fun k hk hF=>hg.block k hk (fun e=>hF (by cases e;simp))⟩
 refine⟨⟨by simpa using AO,?_,fun b' Ak=>h.hi b' (by simpa using Ak),h.env.chg Bb h.hi⟩,Bb,fun b' Ak=>.inl (by simpa using Ak)⟩;intro p hp;by_cases Cs:p.1=b
 ·have AW:p=(b,q'):=by
   simp only[keys_append,keys_cons] at AO;have hn:=Z0z.1 AO;rcases Z0v.1 hp with hp|hp
   ·exact absurd rfl (hn.2.2 b (Cs ▸ Z0y hp) b (by simp))
   ·rcases Z0d.1 hp with rfl|hp
    ·rfl
    ·exact absurd (Cs ▸ Z0y hp) (Z0B.1 hn.2.1).1
  subst AW;exact hq
 ·have Fm:p∈A++(b,q)::B:=by
   rcases Z0v.1 hp with hp|hp
   ·simp[hp]
   ·rcases Z0d.1 hp with rfl|hp
    ·exact absurd rfl Cs
    ·simp[hp]
  obtain⟨o,ho,hq⟩:=h.at' p Fm;exact⟨o,(hg.block p.1 (lt_of_block ho) (fun e=>Cs (Z0C e))).trans ho,hq⟩
theorem Step.below{w w':World}{H H':HL}{B:Nat}(h:Step H H' w w')(hB:B<=w.heap.size)(hH:∀b∈keys H,B<=b):Below B w w':=h.chg.below hB hH
theorem Q1r{α:Type}(f:α->HL)(L:List α)(k:Nat)(x:α)(h:L[k]?=some x):L.flatMap f=(L.take k).flatMap f++f x++(L.drop (k+1)).flatMap f:=by
 have hk:k<L.length:=(Z0k.1 h).1;have e:L=L.take k++x::L.drop (k+1):=by
  have:=Z0k.1 h;rw[<- this.2,Z0D,Z0E]
 conv=>lhs;rw[e]
 simp[List.append_assoc]
theorem Q8h{α:Type}(f:α->HL)(L:List α)(k:Nat)(y:α)(h:k<L.length):(L.set k y).flatMap f=(L.take k).flatMap f++f y++(L.drop (k+1)).flatMap f:=by
 rw[Q1r f (L.set k y) k y (by simp[h]),Z0G (Q9Y k),Z0H (by omega)]
theorem Q6V(z:Value)(n:Nat):madeCells #[z] n=(List.replicate n z).toArray:=by
 apply Array.ext'
 simp[madeCells,List.eq_replicate_iff,Nat.mod_one]
theorem Q1E{P:Program}{w:World}(t e:TypeId)(i:TypeInfo)(z:Value)(bytes:Nat)(ht:P.underlying t=some (.slice e))(hi:P.info? e=some i)(hz:i.zero=some z)(hs:i.size=1)(hb:i.bytes=bytes)(hzc:z.cells=#[z])
  (n:Nat) (hn:n<=1099511627776) (hbytes:bytes<=256) :
  (Instr.makeSlice t (.int .i64 n) (.int .i64 n)).run P w=.ok (.slice (some ⟨w.heap.size,0,none⟩) n n) (w.alloc (.cells (List.replicate n z).toArray e)):=by
 have h1:i.bytes*n<=256*1099511627776:=Z0I (by omega) hn;have h2:(i.bytes:Int)*(n:Int)<=281474976710656:=by
  have h:((i.bytes*n:Nat):Int)<=281474976710656:=by omega
  rwa [Z0J] at h
 have:=run_make (P:=P) w t e i z ht hi hz .i64 .i64 n n (by omega) (by omega) h2 (by omega);rw[hs,hzc,Z0K,Z0L,Q6V] at this;exact this
def Told(w:World)(v:Value)(r:Ending)(w':World):Prop:=r=.returned v/\Below w.heap.size w w'
end Go.Proofs.YtfidemmgofcnmaaGreatDoor
namespace Go.Proofs.YtfidemmgofcnmaaGreatDoor
open Go.Proofs.Tryz
def Q0e(f:Nat->Bool):Nat->Nat
 | 0=>0
 | n+1=>Q0e f n+2 ^ n*(f n).toNat
theorem Q0j(f:Nat->Bool)(n:Nat):Q0e f n<2 ^ n:=by
 induction n with
 | zero=>simp[Q0e]
 | succ n ih =>
  have:(f n).toNat<=1:=Z0M _;have h2:2 ^ n*(f n).toNat<=2 ^ n*1:=Nat.mul_le_mul_left _ this;simp only[Q0e];rw[Z0N];omega
theorem wordN_bit(f:Nat->Bool)(n j:Nat):(Q0e f n).testBit j=(decide (j<n)&&f j):=by
 induction n with
 | zero=>simp[Q0e]
 | succ n ih =>
  simp only[Q0e];rw[Z0O,Z0P _ (Q0j f n)];by_cases h:j<n
  ·rw[if_pos h,ih];simp[h];intro _;omega
  ·rw[if_neg h];by_cases h2:j=n
   ·subst h2;cases f j <;> simp
   ·have:(f n).toNat.testBit (j-n)=false:=Z0Q (Z0R (Z0M _) (Nat.one_lt_two_pow (by omega)));rw[this];simp;intro h3;omega
theorem Q0T{x n:Nat}(hx:x<2 ^ n)(f:Nat->Bool)(h:∀j,j<n->x.testBit j=f j):x=Q0e f n:=by
 apply Z0S
 intro j;rw[wordN_bit];by_cases hj:j<n
 ·simp[hj,h j hj]
 ·rw[Z0Q (Z0a hx (Z0T (by omega) (by omega)))];simp[hj]
theorem Q0x(f g:Nat->Bool)(n:Nat)(h:∀j,j<n->f j=g j):Q0e f n=Q0e g n:=
 Q0T (Q0j f n) g fun j hj=>by rw[wordN_bit];simp[hj,h j hj]
theorem wordN_zero{f:Nat->Bool}{n:Nat}:Q0e f n=0↔∀j,j<n->f j=false:=by
 constructor
 ·intro h j hj;have:=wordN_bit f n j;rw[h] at this;simpa[hj] using this.symm
 ·intro h;have:=Q0T (x:=0) (Z0U n) f (fun j hj=>by simp[h j hj]);exact this.symm
theorem Q6W(f:Nat->Bool)(s:Nat)(hs:s<64):(Q0e f 64/2 ^ s)&&&1=(f s).toNat:=by
 have h:=wordN_bit f 64 s;rw[Nat.testBit_eq_decide_div_mod_eq] at h;rw[Nat.and_one_is_mod];simp only[hs,decide_true,Z0V] at h;cases hf:f s with
 | true=>rw[hf] at h;simpa using h
 | false=>rw[hf] at h;simp at h;simpa using h
theorem Q5s(f:Nat->Bool)(s:Nat)(hs:s<64):Q0e f 64 ^^^ 2 ^ s=Q0e (fun j=>if j=s then !f j else f j) 64:=by
 refine Q0T (Z0W (Q0j f 64) (Z0X (by omega) hs)) _ fun j hj=>?_
 rw[Z0Y,wordN_bit,Z0Z];by_cases h:j=s
 ·subst h;simp[hj]
 ·have:¬s=j:=fun e=>h e.symm
  simp[hj,h,this]
theorem Q6X(f:Nat->Bool):Q0e f 64 ^^^ 18446744073709551615=Q0e (fun j=>!f j) 64:=by
 have hm:(18446744073709551615:Nat)=2 ^ 64-1:=by decide
 refine Q0T (Z0W (Q0j f 64) (by decide)) _ fun j hj=>?_
 rw[Z0Y,wordN_bit,hm,Nat.testBit_two_pow_sub_one];simp[hj]
theorem Q6Y(f:Nat->Bool)(s:Nat):Q0e f 64/2 ^ s*2 ^ s%18446744073709551616=Q0e (fun j=>decide (s<=j)&&f j) 64:=by
 have Ae:Q0e f 64/2 ^ s*2 ^ s<2 ^ 64:=Z0R (Nat.div_mul_le_self _ _) (Q0j f 64);rw[Z1a (by simpa using Ae)];refine Q0T Ae _ fun j hj=>?_
 rw[<- Nat.shiftLeft_eq,<- Nat.shiftRight_eq_div_pow,Nat.testBit_shiftLeft,Nat.testBit_shiftRight,wordN_bit];by_cases h:s<=j
 ·simp[h,show s+(j-s)=j by omega,hj]
 ·simp[h]
theorem Q6Z(f:Nat->Bool)(t:Nat)(ht:t<64)(h:f t=true)(hl:∀j,j<t->f j=false):Q0e f 64&&&(18446744073709551616-Q0e f 64)=2 ^ t:=by
 have Ae:=Q0j f 64;have Gp:2 ^ t ∣ Q0e f 64:=by
  rw[Nat.dvd_iff_mod_eq_zero];have:Q0e f 64%2 ^ t=0:=by
   apply Z0S
   intro j;rw[Nat.testBit_mod_two_pow,wordN_bit];by_cases hj:j<t
   ·simp[hj,hl j hj]
   ·simp[hj]
  exact this
 obtain⟨m,hm⟩:=Gp;have JA:m%2=1:=by
  have:=wordN_bit f 64 t;rw[hm,Z1b] at this;simp[ht,h,Nat.testBit_zero] at this;exact this
 have e0:m=2*(m/2)+1:=by omega
 generalize hk:m/2=k at e0;subst e0;have Bx:0<2 ^ t:=Z0U t;have e1:2 ^ t*(2*k+1)=2 ^ t*(2*k)+2 ^ t:=by rw[Nat.mul_add,Z0L]
 have DI:2 ^ t*(2*k)+2 ^ t<2 ^ 64:=by rw[<- e1,<- hm];exact Ae
 rw[hm,show(18446744073709551616:Nat)=2 ^ 64 from by decide];have e2:2 ^ 64-2 ^ t*(2*k+1)=2 ^ 64-(2 ^ t*(2*k)+(2 ^ t-1)+1):=by rw[e1];congr 1;omega
 rw[e2]
 apply Z0S
 intro j;rw[Z1d,Nat.testBit_two_pow_sub_succ (by omega),Z0P _ (by omega),Z1b,Z0Z];by_cases h1:j<t
 ·have:¬t=j:=by omega
  simp[h1,this]
 ·by_cases h2:j=t
  ·subst h2;simp[ht,Nat.testBit_zero]
  ·have h3:¬t=j:=by omega
   have h4:∀x,(2*k+x).testBit (j-t)=(2*k+x).testBit ((j-t-1)+1):=fun x=>by rw[show j-t-1+1=j-t by omega]
   have h5:=h4 0;have h6:=h4 1;rw[Nat.testBit_succ] at h5 h6;rw[Z0g] at h5;rw[h6,h5,show(2*k+1)/2=k by omega,show 2*k/2=k by omega];simp[h3]
   intros;assumption
def cnt(f:Nat->Bool):Nat->Nat
 | 0=>0
 | n+1=>cnt f n+(f n).toNat
def rep(c:Nat):Nat->Nat
 | 0=>0
 | n+1=>c+256*rep c n
theorem Q1a(a b p q:Nat)(ha:a<256)(hp:p<256):(a+256*b)&&&(p+256*q)=(a&&&p)+256*(b&&&q):=by
 have h1:a&&&p<2 ^ 8:=Nat.and_lt_two_pow _ hp
 apply Z0S
 intro j;rw[Z1d,Z0O a,Z0O p,Z0O (a&&&p),show(256:Nat)=2 ^ 8 from rfl,Z0P _ ha,Z0P _ hp,Z0P _ h1];split
 ·rw[Z1d]
 ·rw[Z1d]
def b1(v:Nat):Nat:=(v/2&&&85)+(v&&&85)
def b2(v:Nat):Nat:=(v/4&&&51)+(v&&&51)
def b3(v:Nat):Nat:=(v/16+v)&&&15
def s1(n x:Nat):Nat:=(x/2&&&rep 85 n)+(x&&&rep 85 n)
def s2(n x:Nat):Nat:=(x/4&&&rep 51 n)+(x&&&rep 51 n)
def s3(n x:Nat):Nat:=(x/16+x)&&&rep 15 n
theorem Q8p:∀v,v<256->∀b,b<2->((v/2+128*b)&&&85)=v/2&&&85:=by decide +kernel
theorem Q8q:∀v,v<256->∀b,b<4->((v/4+64*b)&&&51)=v/4&&&51:=by decide +kernel
theorem Q8r:∀v,v<256->∀l,l<5->(b2 (b1 v)/16+16*l+b2 (b1 v))<256/\((b2 (b1 v)/16+16*l+b2 (b1 v))&&&15)=b3 (b2 (b1 v)):=by decide +kernel
theorem b_lt:∀v,v<256->b1 v<256/\b2 (b1 v)<256/\b2 (b1 v)%16<5:=by decide +kernel
theorem Q9M:∀v,v<256->b3 (b2 (b1 v))=cnt (fun j=>v.testBit j) 8:=by decide +kernel
theorem Q5t(n v r:Nat)(hv:v<256):s1 (n+1) (v+256*r)=b1 v+256*s1 n r:=by
 unfold s1 b1;have e:(v+256*r)/2=(v/2+128*(r%2))+256*(r/2):=by omega
 simp only[rep];rw[e,Q1a _ _ _ _ (by omega) (by omega),Q1a _ _ _ _ hv (by omega),Q8p v hv _ (by omega)];omega
theorem Q5u(n v r:Nat)(hv:v<256):s2 (n+1) (v+256*r)=b2 v+256*s2 n r:=by
 unfold s2 b2;have e:(v+256*r)/4=(v/4+64*(r%4))+256*(r/4):=by omega
 simp only[rep];rw[e,Q1a _ _ _ _ (by omega) (by omega),Q1a _ _ _ _ hv (by omega),Q8q v hv _ (by omega)];omega
theorem Q8s(n v r:Nat)(hv:v<256)(hr:r%16<5):s3 (n+1) (b2 (b1 v)+256*r)=b3 (b2 (b1 v))+256*s3 n r:=by
 obtain⟨_,h2,_⟩:=b_lt v hv;obtain⟨h3,h4⟩:=Q8r v hv (r%16) hr;unfold s3;simp only[rep];rw[show(b2 (b1 v)+256*r)/16+(b2 (b1 v)+256*r)=(b2 (b1 v)/16+16*(r%16)+b2 (b1 v))+256*(r/16+r) from by omega,Q1a _ _ _ _ h3 (by omega),h4]
def swar(n x:Nat):Nat:=s3 n (s2 n (s1 n x))
theorem Q4I:∀n x,s2 n (s1 n x)%16<5
 | 0,x=>by simp[s2,rep]
 | n+1,x=>by
  have e:x=x%256+256*(x/256):=by omega
  have hv:x%256<256:=by omega
  obtain⟨h1,h2,h3⟩:=b_lt _ hv;rw[e,Q5t _ _ _ hv,Q5u _ _ _ h1];omega
theorem Q5v(n v r:Nat)(hv:v<256):swar (n+1) (v+256*r)=b3 (b2 (b1 v))+256*swar n r:=by
 unfold swar;obtain⟨h1,h2,h3⟩:=b_lt v hv;rw[Q5t _ _ _ hv,Q5u _ _ _ h1,Q8s _ _ _ hv (Q4I _ _)]
theorem cnt_add(f:Nat->Bool)(a b:Nat):cnt f (a+b)=cnt f a+cnt (fun j=>f (a+j)) b:=by
 induction b with
 | zero=>simp[cnt]
 | succ b ih=>rw[<- Z1e];simp only[cnt];rw[ih];omega
theorem Q5w{f g:Nat->Bool}(n:Nat)(h:∀j,j<n->f j=g j):cnt f n=cnt g n:=by
 induction n with
 | zero=>rfl
 | succ n ih=>simp only[cnt];rw[ih (fun j hj=>h j (by omega)),h n (by omega)]
theorem Q1j(f:Nat->Bool)(n:Nat):cnt f n<=n:=by
 induction n with
 | zero=>simp[cnt]
 | succ n ih=>simp only[cnt];have:=Z0M (f n);omega
theorem Q5x(f:Nat->Bool)(n:Nat):Q0e f (8+n)=Q0e f 8+256*Q0e (fun j=>f (8+j)) n:=by
 symm
 have h1:=Q0j f 8;have h2:=Q0j (fun j=>f (8+j)) n;refine Q0T ?_ f fun j hj=>?_
 ·rw[Z1f];have:(2:Nat) ^ 8=256:=by decide
  rw[this] at h1 ⊢;omega
 ·rw[Z0O,show(256:Nat)=2 ^ 8 from rfl,Z0P _ h1];split
  ·rw[wordN_bit];simp[*]
  ·rw[wordN_bit];have:j-8<n:=by omega
   simp[this,show 8+(j-8)=j by omega]
theorem Q0B(f:Nat->Bool)(n m:Nat):swar (n+1) (Q0e f (8+m))=cnt f 8+256*swar n (Q0e (fun j=>f (8+j)) m):=by
 have h:=Q0j f 8;rw[Q5x,Q5v _ _ _ h,Q9M _ h];congr 1;exact Q5w 8 fun j hj=>by rw[wordN_bit];simp[hj]
theorem Q0U(a r:Nat)(h:a<256):(a+256*r)/256=r:=by omega
theorem Q7a(a r b s:Nat):(a+256*r)+(b+256*s)=(a+b)+256*(r+s):=by omega
theorem Q5y(c0 c1 c2 c3 c4 c5 c6 c7 x4 x5 x6:Nat)(l0:c0<=8)(l1:c1<=8)(l2:c2<=8)(l3:c3<=8)(l4:c4<=8)(l5:c5<=8)(l6:c6<=8)(l7:c7<=8)
  (h4:x4=((c0+256*(c1+256*(c2+256*(c3+256*(c4+256*(c5+256*(c6+256*c7)))))))+(c0+256*(c1+256*(c2+256*(c3+256*(c4+256*(c5+256*(c6+256*c7)))))))/256)%18446744073709551616)
  (h5:x5=(x4+x4/65536)%18446744073709551616) (h6:x6=(x5+x5/4294967296)%18446744073709551616) :
  x6%128=c0+c1+c2+c3+c4+c5+c6+c7:=by
 rw[Q0U _ _ (by omega)] at h4;have k4:x4=(c0+c1)+256*((c1+c2)+256*((c2+c3)+256*((c3+c4)+256*((c4+c5)+256*((c5+c6)+256*((c6+c7)+256*c7)))))):=by
  rw[h4,Z1a (by omega)];omega
 clear h4;have q4:x4/65536=(c2+c3)+256*((c3+c4)+256*((c4+c5)+256*((c5+c6)+256*((c6+c7)+256*c7)))):=by
  rw[show(65536:Nat)=256*256 from rfl,<- Z1g,k4,Q0U _ _ (by omega),Q0U _ _ (by omega)]
 rw[q4] at h5;clear q4;have k5:x5=(c0+c1+c2+c3)+256*((c1+c2+c3+c4)+256*((c2+c3+c4+c5)+256*((c3+c4+c5+c6)+256*((c4+c5+c6+c7)+256*((c5+c6+c7)+256*((c6+c7)+256*c7)))))):=by
  rw[h5,k4,Z1a (by omega)];omega
 clear h5 k4;have q5:x5/4294967296=(c4+c5+c6+c7)+256*((c5+c6+c7)+256*((c6+c7)+256*c7)):=by
  rw[show(4294967296:Nat)=256*256*256*256 from rfl,<- Z1g,<- Z1g,<- Z1g,k5,Q0U _ _ (by omega),Q0U _ _ (by omega),Q0U _ _ (by omega),Q0U _ _ (by omega)]
 rw[q5,k5,Q7a] at h6;clear q5 k5;have m:∀A R:Nat,A<128->(A+256*R)%18446744073709551616%128=A:=by intro A R hA;omega
 rw[h6,m _ _ (by omega)];omega
theorem Q7b(f:Nat->Bool)(x3 x4 x5 x6:Nat)(h3:x3=swar 8 (Q0e f 64))(h4:x4=(x3+x3/256)%18446744073709551616)(h5:x5=(x4+x4/65536)%18446744073709551616)(h6:x6=(x5+x5/4294967296)%18446744073709551616) :
  x6%128=cnt f 64:=by
 have e:Q0e f 64=Q0e f (8+56):=rfl;have z:∀x,swar 0 x=0:=fun x=>by simp[swar,s3,rep]
 rw[e,Q0B f 7 56,show(56:Nat)=8+48 from rfl,Q0B _ 6 48,show(48:Nat)=8+40 from rfl,Q0B _ 5 40,show(40:Nat)=8+32 from rfl,Q0B _ 4 32,show(32:Nat)=8+24 from rfl,Q0B _ 3 24,
  show(24:Nat)=8+16 from rfl,Q0B _ 2 16,show(16:Nat)=8+8 from rfl,Q0B _ 1 8,show(Q0e (fun j=>f (8+(8+(8+(8+(8+(8+(8+j)))))))) 8)=(Q0e (fun j=>f (8+(8+(8+(8+(8+(8+(8+j)))))))) (8+0)) from rfl,Q0B _ 0 0,z,Nat.mul_zero,Z0g] at h3
 have hc:cnt f 64=cnt f 8+cnt (fun j=>f (8+j)) 8+cnt (fun j=>f (8+(8+j))) 8+cnt (fun j=>f (8+(8+(8+j)))) 8+cnt (fun j=>f (8+(8+(8+(8+j))))) 8+cnt (fun j=>f (8+(8+(8+(8+(8+j)))))) 8+cnt (fun j=>f (8+(8+(8+(8+(8+(8+j))))))) 8+cnt (fun j=>f (8+(8+(8+(8+(8+(8+(8+j)))))))) 8:=by
  rw[show(64:Nat)=8+56 from rfl,cnt_add,show(56:Nat)=8+48 from rfl,cnt_add,show(48:Nat)=8+40 from rfl,cnt_add,show(40:Nat)=8+32 from rfl,cnt_add,show(32:Nat)=8+24 from rfl,cnt_add,show(24:Nat)=8+16 from rfl,cnt_add,show(16:Nat)=8+8 from rfl,cnt_add];simp only[Z1e]
 rw[hc];rw[h3] at h4;exact Q5y _ _ _ _ _ _ _ _ x4 x5 x6 (Q1j _ 8) (Q1j _ 8) (Q1j _ 8) (Q1j _ 8) (Q1j _ 8) (Q1j _ 8) (Q1j _ 8) (Q1j _ 8) h4 h5 h6
open Go.RowKit
theorem Q1s(n:Int):IntKind.u64.wrap n=n%18446744073709551616:=by rw[IntKind.wrap_u64]
theorem Q0V(a b:Nat)(ha:a<2 ^ 64)(hb:b<2 ^ 64):bits BinOp.and IntKind.u64 (a:Int) (b:Int)=((a&&&b:Nat):Int):=by
 have h:(a&&&b)<2 ^ 64:=Nat.and_lt_two_pow _ hb;have e:((BitVec.ofInt 64 (a:Int))&&&(BitVec.ofInt 64 (b:Int))).toNat=a&&&b:=by
  rw[BitVec.ofInt_natCast,BitVec.ofInt_natCast,BitVec.toNat_and,BitVec.toNat_ofNat,BitVec.toNat_ofNat,Z1a ha,Z1a hb]
 unfold bits;show IntKind.u64.wrap (((BitVec.ofInt 64 (a:Int))&&&(BitVec.ofInt 64 (b:Int))).toNat:Int)=_;rw[e,Q1s];omega
theorem Q4h(a b:Nat)(ha:a<2 ^ 64)(hb:b<2 ^ 64):bits BinOp.xor IntKind.u64 (a:Int) (b:Int)=((a ^^^ b:Nat):Int):=by
 have h:(a ^^^ b)<2 ^ 64:=Z0W ha hb;have e:((BitVec.ofInt 64 (a:Int)) ^^^ (BitVec.ofInt 64 (b:Int))).toNat=a ^^^ b:=by
  rw[BitVec.ofInt_natCast,BitVec.ofInt_natCast,BitVec.toNat_xor,BitVec.toNat_ofNat,BitVec.toNat_ofNat,Z1a ha,Z1a hb]
 unfold bits;show IntKind.u64.wrap (((BitVec.ofInt 64 (a:Int)) ^^^ (BitVec.ofInt 64 (b:Int))).toNat:Int)=_;rw[e,Q1s];omega
theorem Q8t(a b:Nat)(ha:a<2 ^ 64)(hb:b<2 ^ 64):bits BinOp.or IntKind.u64 (a:Int) (b:Int)=((a|||b:Nat):Int):=by
 have h:(a|||b)<2 ^ 64:=Nat.or_lt_two_pow ha hb;have e:((BitVec.ofInt 64 (a:Int))|||(BitVec.ofInt 64 (b:Int))).toNat=a|||b:=by
  rw[BitVec.ofInt_natCast,BitVec.ofInt_natCast,BitVec.toNat_or,BitVec.toNat_ofNat,BitVec.toNat_ofNat,Z1a ha,Z1a hb]
 unfold bits;show IntKind.u64.wrap (((BitVec.ofInt 64 (a:Int))|||(BitVec.ofInt 64 (b:Int))).toNat:Int)=_;rw[e,Q1s];omega
def o1(x:Int):Int:=IntKind.u64.wrap (bits BinOp.and IntKind.u64 (x/2) 6148914691236517205+bits BinOp.and IntKind.u64 x 6148914691236517205)
def o2(x:Int):Int:=IntKind.u64.wrap (bits BinOp.and IntKind.u64 (x/4) 3689348814741910323+bits BinOp.and IntKind.u64 x 3689348814741910323)
def o3(x:Int):Int:=bits BinOp.and IntKind.u64 (IntKind.u64.wrap (x/16+x)) 1085102592571150095
def o4(x:Int):Int:=IntKind.u64.wrap (x+x/256)
def o5(x:Int):Int:=IntKind.u64.wrap (x+x/65536)
def o6(x:Int):Int:=IntKind.u64.wrap (x+x/4294967296)
theorem Q5z:rep 85 8=6148914691236517205:=by decide
theorem Q3B:rep 51 8=3689348814741910323:=by decide
theorem Q8u:rep 15 8=1085102592571150095:=by decide
theorem Q9n(x:Nat)(hx:x<2 ^ 64):o1 x=(s1 8 x:Nat)/\s1 8 x<2 ^ 64:=by
 have h1:(x/2&&&rep 85 8)<=6148914691236517205:=Q5z ▸ Z1h;have h2:(x&&&rep 85 8)<=6148914691236517205:=Q5z ▸ Z1h;unfold o1 s1;rw[show((x:Int)/2)=((x/2:Nat):Int) from by omega,show(6148914691236517205:Int)=((rep 85 8:Nat):Int) from by rw[Q5z];rfl,Q0V _ _ (by omega) (by rw[Q5z];decide),Q0V _ _ hx (by rw[Q5z];decide),Q1s];omega
theorem Q9o(x:Nat)(hx:x<2 ^ 64):o2 x=(s2 8 x:Nat)/\s2 8 x<2 ^ 64:=by
 have h1:(x/4&&&rep 51 8)<=3689348814741910323:=Q3B ▸ Z1h;have h2:(x&&&rep 51 8)<=3689348814741910323:=Q3B ▸ Z1h;unfold o2 s2;rw[show((x:Int)/4)=((x/4:Nat):Int) from by omega,show(3689348814741910323:Int)=((rep 51 8:Nat):Int) from by rw[Q3B];rfl,Q0V _ _ (by omega) (by rw[Q3B];decide),Q0V _ _ hx (by rw[Q3B];decide),Q1s];omega
theorem Q9p(x:Nat)(hx:x<=2*3689348814741910323):o3 x=(s3 8 x:Nat)/\s3 8 x<2 ^ 64:=by
 have h1:((x/16+x)&&&rep 15 8)<=1085102592571150095:=Q8u ▸ Z1h;unfold o3 s3;rw[show IntKind.u64.wrap ((x:Int)/16+x)=((x/16+x:Nat):Int) from by rw[Q1s];omega,show(1085102592571150095:Int)=((rep 15 8:Nat):Int) from by rw[Q8u];rfl,Q0V _ _ (by omega) (by rw[Q8u];decide)];omega
theorem Q9N(x:Nat):s2 8 x<=2*3689348814741910323:=by
 have h1:(x/4&&&rep 51 8)<=3689348814741910323:=Q3B ▸ Z1h;have h2:(x&&&rep 51 8)<=3689348814741910323:=Q3B ▸ Z1h;unfold s2;omega
theorem Q8v(f:Nat->Bool):o6 (o5 (o4 (o3 (o2 (o1 (Q0e f 64))))))%128=(cnt f 64:Nat)/\0<=o6 (o5 (o4 (o3 (o2 (o1 (Q0e f 64))))))/\o6 (o5 (o4 (o3 (o2 (o1 (Q0e f 64))))))<18446744073709551616:=by
 obtain⟨e1,b1⟩:=Q9n _ (Q0j f 64);rw[e1];obtain⟨e2,b2⟩:=Q9o _ b1;rw[e2];obtain⟨e3,b3⟩:=Q9p _ (Q9N (s1 8 (Q0e f 64)));rw[e3];have h:=Q7b f _ _ _ _ rfl rfl rfl rfl;rw[<- h];have e4:o4 ((s3 8 (s2 8 (s1 8 (Q0e f 64))):Nat):Int)=(((swar 8 (Q0e f 64))+(swar 8 (Q0e f 64))/256)%18446744073709551616:Nat):=by
  unfold o4;rw[Q1s];show((swar 8 (Q0e f 64):Nat)+(swar 8 (Q0e f 64):Nat)/256:Int)%_=_;omega
 rw[e4];generalize ((swar 8 (Q0e f 64))+(swar 8 (Q0e f 64))/256)%18446744073709551616=y;have e5:o5 (y:Int)=((y+y/65536)%18446744073709551616:Nat):=by unfold o5;rw[Q1s];omega
 rw[e5];generalize (y+y/65536)%18446744073709551616=z;have e6:o6 (z:Int)=((z+z/4294967296)%18446744073709551616:Nat):=by unfold o6;rw[Q1s];omega
 rw[e6];omega
theorem Q9O(y:Int)(h0:0<=y)(h1:y<18446744073709551616):bits BinOp.and IntKind.i64 (wrap64 y) 127=y%128:=by
 obtain⟨n,rfl⟩:=Z1i h0;have e:((BitVec.ofInt 64 (wrap64 (n:Int)))&&&(BitVec.ofInt 64 (127:Int))).toNat=n%128:=by
  rw[BitVec.toNat_and,BitVec.toNat_ofInt,show(BitVec.ofInt 64 (127:Int)).toNat=2 ^ 7-1 from by decide,Nat.and_two_pow_sub_one_eq_mod];unfold wrap64;omega
 unfold bits;show IntKind.i64.wrap (((BitVec.ofInt 64 (wrap64 (n:Int)))&&&(BitVec.ofInt 64 (127:Int))).toNat:Int)=_;rw[e,IntKind.wrap_i64];omega
theorem Q2p{w:World}(f:Nat->Bool) :
  Calls prog 188 #[.int .u64 (Q0e f 64)] w fun r w'=>r=.returned (.int .i64 (cnt f 64))/\w=w':=by
 have hx:=Q0j f 64;have HE:=Q0a (Q8v f);generalize Q0e f 64=x at hx HE;go_enter func188,ntmps188
 go_wp2
 go_ret;refine⟨?_,rfl⟩;show Ending.returned (.int .i64 (bits BinOp.and IntKind.i64 (wrap64 (o6 (o5 (o4 (o3 (o2 (o1 x))))))) 127))=_;obtain⟨h1,h2,h3⟩:=HE.out;rw[Q9O _ h2 h3,h1]
theorem Q8w(x m t:Nat)(hx:x<2 ^ 64)(h0:x≠0)(hm:x&&&(18446744073709551616-x)=m)(EJ:m=2 ^ t) :
  IntKind.u64.wrap (bits BinOp.and IntKind.u64 (x:Int) (IntKind.u64.wrap (-(x:Int)))*285870213051353865)/288230376151711744=((dbi t:Nat):Int):=by
 have e1:IntKind.u64.wrap (-(x:Int))=((18446744073709551616-x:Nat):Int):=by rw[Q1s];omega
 rw[e1,Q0V _ _ hx (by omega),hm,Q1s];unfold dbi;rw[<- EJ];omega
theorem Q7c{w:World}(x:Nat)(d:Nat)(t:Nat)(hV:IntKind.u64.wrap (bits BinOp.and IntKind.u64 (x:Int) (IntKind.u64.wrap (-(x:Int)))*285870213051353865)/288230376151711744=(d:Int))(Ao:((x:Int)==0)=false)
  (hd:d<64) (ht:t<64) (hc:w.cell? ⟨1,d,none⟩=some (.int .u8 t)) :
  Calls prog 135 #[.int .u64 x] w fun r w'=>r=.returned (.int .i64 t)/\w=w':=by
 go_enter func135,ntmps135
 go_wp2
 go_ret;exact⟨rfl,rfl⟩
theorem Q4i{w:World}(hT:TabB w)(f:Nat->Bool)(t:Nat)(ht:t<64)(h:f t=true)(hl:∀j,j<t->f j=false) :
  Calls prog 135 #[.int .u64 (Q0e f 64)] w fun r w'=>r=.returned (.int .i64 t)/\w=w':=by
 have ET:Q0e f 64≠0:=by
  intro e;rw[wordN_zero] at e;rw[e t ht] at h;cases h
 have hm:=Q6Z f t ht h hl;have hx:=Q0j f 64;generalize Q0e f 64=x at *
 obtain⟨Dq,Ds⟩:=Q8o t ht;exact Q7c x (dbi t) t (Q8w x _ t hx ET hm rfl) (by simp;omega) Dq ht (hT _ _ Ds)
end Go.Proofs.YtfidemmgofcnmaaGreatDoor
