/- What the laws of spaces share is proved. No condition. Part of a proof. -/
import Derived.Test.YtfidemmgofcnmaaGreatDoorRows
import Derived.WalkKit
import Derived.WalkSpells
import Derived.WalkLawsBesides
import Derived.OneCell
import Derived.Laws.MakeOwn
set_option maxHeartbeats 400000
set_option linter.unusedVariables false
namespace Go.Proofs.YtfidemmgofcnmaaGreatDoor
open Go.RowKit Go.Proofs.Tryz
abbrev J3g:=@Array.getElem?_modify
abbrev J3h:=@Nat.le_refl
abbrev J3i:=@Nat.le_trans
abbrev J3j:=@Nat.lt_of_lt_of_le
abbrev J3k:=@List.map_cons
abbrev J3l:=@List.cons.injEq
abbrev J3m:=@List.mem_cons
abbrev J3n:=@List.mem_map
abbrev J3o:=@List.eq_replicate_iff
abbrev J3p:=@List.eq_of_mem_replicate
abbrev J3q:=@Nat.add_zero
abbrev J3r:=@List.length_replicate
abbrev J3s:=@List.range_succ
abbrev J3t:=@List.filterMap_append
abbrev J3u:=@List.filterMap_cons
abbrev J3v:=@Option.some.injEq
abbrev J3w:=@List.mem_filterMap
abbrev J3x:=@List.mem_range
abbrev J3y:=@List.getElem?_eq_some_iff
abbrev J3z:=@List.pairwise_filterMap
abbrev J3A:=@List.pairwise_lt_range
abbrev J3B:=@List.mem_filter
abbrev J3C:=@Bool.and_eq_true
abbrev J3D:=@List.not_mem_nil
abbrev J3E:=@List.flatMap_cons
abbrev J3F:=@List.mem_reverse
abbrev J3G:=@List.mem_flatMap
abbrev J3H:=@List.pairwise_cons
abbrev J3I:=@List.pairwise_flatMap
abbrev J3J:=@List.pairwise_reverse
abbrev J3K:=@List.mem_of_mem_erase
abbrev J3L:=@List.pairwise_map
abbrev J3M:=@List.flatMap_append
abbrev J3N:=@List.length_append
abbrev J3O:=@List.length_cons
abbrev J3P:=@List.pairwise_append
abbrev J3Q:=@List.mem_append
abbrev J3R:=@List.sublist_append_left
abbrev J3S:=@List.sublist_append_right
abbrev J3T:=@List.mem_map_of_mem
abbrev J3U:=@List.nodup_append
abbrev J3V:=@List.mem_append_right
abbrev J3W:=@List.mem_append_left
abbrev J3X:=@List.nodup_cons
abbrev J3Y:=@Option.some.inj
abbrev J3Z:=@List.getElem_cons_drop
abbrev J4a:=@List.take_append_drop
abbrev J4b:=@List.append_assoc
abbrev J4c:=@List.take_set_of_le
abbrev J4d:=@List.drop_set_of_lt
abbrev J4e:=@Nat.mul_le_mul
abbrev J4f:=@Int.natCast_mul
abbrev J4g:=@Int.toNat_natCast
abbrev J4h:=@Nat.mul_one
abbrev J4i:=@Bool.toNat_le
abbrev J4j:=@Nat.pow_succ
abbrev J4k:=@Nat.add_comm
abbrev J4l:=@Nat.testBit_two_pow_mul_add
abbrev J4m:=@Nat.testBit_lt_two_pow
abbrev J4n:=@Nat.lt_of_le_of_lt
abbrev J4o:=@Nat.eq_of_testBit_eq
abbrev J4p:=@Nat.pow_le_pow_right
abbrev J4q:=@Nat.two_pow_pos
abbrev J4r:=@Bool.true_and
abbrev J4s:=@Nat.xor_lt_two_pow
abbrev J4t:=@Nat.pow_lt_pow_right
abbrev J4u:=@Nat.testBit_xor
abbrev J4v:=@Nat.testBit_two_pow
abbrev J4w:=@Nat.mod_eq_of_lt
abbrev J4x:=@Nat.testBit_two_pow_mul
abbrev J4y:=@Nat.testBit_zero
abbrev J4z:=@Nat.testBit_and
abbrev J4A:=@Nat.and_lt_two_pow
abbrev J4B:=@Nat.add_assoc
abbrev J4C:=@Nat.pow_add
abbrev J4D:=@Nat.div_div_eq_div_mul
abbrev J4E:=@Nat.and_le_right
abbrev J4F:=@Int.eq_ofNat_of_zero_le
abbrev J4G:=@Nat.and_two_pow_sub_one_eq_mod
abbrev J4H:=@Nat.div_le_self
abbrev J4I:=@List.getElem?_set
abbrev J4J:=@List.ext_getElem?
abbrev J4K:=@List.length_map
abbrev J4L:=@List.length_range
abbrev J4M:=@List.getElem?_map
abbrev J4N:=@List.length_set
abbrev J4O:=@List.getElem?_range
abbrev J4P:=@Option.map_some
abbrev J4Q:=@List.getElem?_eq_none
abbrev J4R:=@Int.tdiv_eq_ediv_of_nonneg
abbrev J4S:=@Int.tmod_eq_emod_of_nonneg
abbrev J4T:=@List.find?_range_eq_some
abbrev J4U:=@List.find?_eq_none
abbrev J4V:=@Int.natCast_ediv
abbrev J4W:=@Int.natCast_pow
abbrev J4X:=@List.take_add_one
abbrev J4Y:=@List.filter_append
abbrev J4Z:=@List.take_of_length_le
abbrev J5a:=@List.length_eq_zero_iff
abbrev J5b:=@List.filter_eq_nil_iff
abbrev J5c:=@List.getElem?_replicate
abbrev J5d:=@Nat.zero_le
abbrev J5e:=@List.getElem?_take
abbrev J5f:=@List.Sublist.append
abbrev J5g:=@List.Sublist.refl
abbrev J5h:=@List.append_nil
abbrev J5i:=@List.mem_singleton
abbrev J5j:=@List.map_map
abbrev J5k:=@List.map_congr_left
abbrev J5l:=@List.nil_append
abbrev J5m:=@List.cons_append
abbrev J5n:=@List.filter_cons_of_pos
abbrev J5o:=@List.filter_cons_of_neg
abbrev J5p:=@List.mem_of_getElem?
abbrev J5q:=@List.length_filter_le
abbrev J5r:=@List.eq_nil_of_length_eq_zero
abbrev J5s:=@List.getElem?_eq_getElem
abbrev J5t:=@List.length_drop
abbrev J5u:=@List.length_take
abbrev J5v:=@List.take_append_of_le_length
abbrev J5w:=@List.take_take
abbrev J5x:=@List.drop_append_of_le_length
abbrev J5y:=@List.drop_eq_nil_of_le
abbrev J5z:=@List.take_left
abbrev J5A:=@List.length_nil
abbrev J5B:=@Array.getElem?_toList
abbrev J5C:=@Nat.min_def
abbrev J5D:=@List.getElem?_drop
abbrev J5E:=@List.mem_of_mem_drop
abbrev J5F:=@Nat.zero_add
abbrev J5G:=@List.size_toArray
abbrev J5H:=@List.map_nil
abbrev J5I:=@List.map_set
abbrev J5J:=@List.mem_or_eq_of_mem_set
abbrev J5K:=@Nat.lt_or_ge
abbrev J5L:=@List.eraseIdx_sublist
abbrev J5M:=@List.set_cons_succ
abbrev J5N:=@List.set_cons_zero
abbrev J5O:=@List.Perm.append_right
abbrev J5P:=@List.perm_append_comm
abbrev J5Q:=@List.mem_iff_getElem?
abbrev J5R:=@Nat.lt_trans
abbrev J5S:=@List.Perm.append_left
abbrev J5T:=@List.filter_congr
abbrev J5U:=@List.set_set
abbrev J5V:=@List.drop_eq_getElem_cons
abbrev J5W:=@List.eraseIdx_eq_take_drop_succ
abbrev J5X:=@List.append_eq_nil_iff
abbrev J5Y:=@Nat.mul_le_mul_right
abbrev J5Z:=@Nat.add_sub_cancel_left
abbrev J6a:=@Nat.mul_div_cancel
abbrev J6b:=@Nat.mul_comm
abbrev J6c:=@Nat.lt_trichotomy
abbrev J6d:=@List.pairwise_iff_getElem
abbrev J6e:=@Option.isSome_none
abbrev J6f:=@Nat.div_le_div_left
abbrev J6g:=@List.all_eq_true
abbrev J6h:=@Nat.mod_lt
abbrev J6i:=@Nat.add_mul_div_right
abbrev J6j:=@Bool.eq_iff_iff
abbrev J6k:=@Bool.not_eq_true'
abbrev J6l:=@Bool.false_or
abbrev J6m:=@Nat.pow_succ'
abbrev J6n:=@Bool.or_eq_true
abbrev J6o:=@List.getElem?_cons_succ
abbrev J6p:=@List.getElem?_append_left
abbrev J6q:=@List.getElem?_append_right
abbrev J6r:=@Nat.mul_assoc
abbrev J6s:=@Nat.mul_lt_mul_of_pos_right
abbrev J6t:=@Nat.sub_self
abbrev J6u:=@Nat.div_lt_iff_lt_mul
abbrev J6v:=@List.Perm.refl
abbrev J6w:=@Nat.or_comm
abbrev J6x:=@Nat.two_pow_add_eq_or_of_lt
abbrev J6y:=@List.mem_of_mem_take
abbrev J6z:=@List.getElem_mem
abbrev J6A:=@List.take_replicate
abbrev J6B:=@Nat.min_eq_left
abbrev J6C:=@List.take_zero
abbrev J6D:=@Nat.not_lt_zero
abbrev J6E:=@List.map_append
abbrev J6F:=@List.perm_middle
abbrev J6G:=@List.perm_append_singleton
abbrev J6H:=@List.getElem?_set_ne
abbrev J6I:=@Int.add_sub_cancel
abbrev J6J:=@List.Pairwise.imp_of_mem
abbrev J6K:=@List.filterMap_cons_none
abbrev J6L:=@List.filterMap_cons_some
abbrev J6M:=@List.sum_cons
abbrev J6N:=@List.Perm.cons_inv
abbrev J6O:=@List.sum_append
abbrev J6P:=@List.getElem?_set_self
abbrev J6Q:=@Nat.zero_mul
abbrev J6R:=@List.set_append_right
abbrev J6S:=@Bool.false_eq_true
abbrev J6T:=@List.drop_zero
abbrev J6U:=@List.nodup_range
abbrev J6V:=@Option.map_eq_some_iff
abbrev J6W:=@Option.toList_some
abbrev J6X:=@Option.toList_none
abbrev J6Y:=@List.eq_nil_iff_forall_not_mem
abbrev J6Z:=@List.length_singleton
abbrev J7a:=@List.replicate_succ
abbrev J7b:=@List.flatMap_nil
abbrev J7c:=@Int.le_refl
abbrev J7d:=@List.flatMap_def
abbrev J7e:=@List.filter_eq_self
abbrev J7f:=@List.eraseIdx_cons_succ
abbrev J7g:=@List.take_length
abbrev J7h:=@List.getElem_range
abbrev J7i:=@Nat.eq_of_mul_eq_mul_right
abbrev J7j:=@List.filter_cons
abbrev J7k:=@List.mem_of_find?_eq_some
abbrev J7l:=@List.find?_some
abbrev J7m:=@List.Nodup.length_le_of_subset
abbrev J7n:=@Option.ne_none_iff_exists'
abbrev J7o:=@List.take_succ_eq_append_getElem
abbrev J7p:=@Nat.le_succ
abbrev J7q:=@List.mem_cons_of_mem
abbrev J7r:=@List.getElem?_take_of_lt
abbrev J7s:=@List.getElem?_take_eq_none
abbrev J7t:=@Array.getElem?_eq_some_iff
abbrev J7u:=@List.take_succ_cons
abbrev J7v:=@List.drop_succ_cons
abbrev J7w:=@Bool.false_and
abbrev J7x:=@List.any_eq_false
abbrev J7y:=@List.getD_eq_getElem?_getD
abbrev J7z:=@Array.mem_of_getElem?
def Cells(w:World)(b:Nat)(T:TypeId)(cs:List Value):Prop:=w.heap[b]?=some (.cells cs.toArray T (0,0))
theorem Cells.lt{w:World}{b:Nat}{T:TypeId}{cs:List Value}(h:Cells w b T cs):b<w.heap.size:=lt_of_block h
theorem Cells.cell{w:World}{b:Nat}{T:TypeId}{cs:List Value}(h:Cells w b T cs)(i:Nat)(v:Value)(hi:cs[i]?=some v):w.cell? ⟨b,i,none⟩=some v:=by
 unfold Cells at h;simp[World.cell?,h,hi]
theorem Cells.free{w:World}{b:Nat}{T:TypeId}{cs:List Value}(h:Cells w b T cs)(i:Nat):w.frozen? ⟨b,i,none⟩=false:=by
 unfold Cells at h;simp[World.frozen?,h]
theorem Cells.set{w:World}{b:Nat}{T:TypeId}{cs:List Value}(h:Cells w b T cs)(i:Nat)(v:Value):Cells (w.setCell ⟨b,i,none⟩ v) b T (cs.set i v):=by
 unfold Cells at h ⊢;simp[World.setCell,Array.getElem?_modify,h]
theorem Cells.set_other{w:World}{b:Nat}{T:TypeId}{cs:List Value}(h:Cells w b T cs)(a:Addr)(v:Value)(Ac:b≠a.block):Cells (w.setCell a v) b T cs:=by
 unfold Cells at h ⊢;rw[Below.heap_setCell _ _ _ _ Ac];exact h
theorem Cells.alloc{w:World}{b:Nat}{T:TypeId}{cs:List Value}(h:Cells w b T cs)(o:Obj):Cells (w.alloc o) b T cs:=by
 have:=h.lt;unfold Cells at h ⊢;rw[Below.heap_alloc _ _ _ this];exact h
theorem Cells.same{w w':World}{b:Nat}{T:TypeId}{cs:List Value}(h:Cells w b T cs)(e:w'.heap[b]?=w.heap[b]?):Cells w' b T cs:=e.trans h
theorem Cells.new(w:World)(T:TypeId)(cs:List Value):Cells (w.alloc (.cells cs.toArray T)) w.heap.size T cs:=by
 unfold Cells;show(w.heap.push _)[w.heap.size]?=_;simp
def KvOf(es:Array MapEntry)(Ah:Nat)(kv:List (Value×Value)):Prop:=Go.MapKept.Stamped es Ah/\es.toList.map (fun e=>(e.key,e.val))=kv
def MapIs(w:World)(m:Nat)(kv:List (Value×Value)):Prop:=∃es Ah,w.heap[m]?=some (.map es Ah)/\KvOf es Ah kv
theorem MapIs.lt{w:World}{m:Nat}{kv:List (Value×Value)}(h:MapIs w m kv):m<w.heap.size:=by
 obtain⟨es,Ah,h,_⟩:=h;exact lt_of_block h
theorem MapIs.same{w w':World}{m:Nat}{kv:List (Value×Value)}(h:MapIs w m kv)(e:w'.heap[m]?=w.heap[m]?):MapIs w' m kv:=by
 obtain⟨es,Ah,h,r⟩:=h;exact⟨es,Ah,e.trans h,r⟩
theorem MapIs.set{w:World}{m:Nat}{kv:List (Value×Value)}(h:MapIs w m kv)(a:Addr)(v:Value):MapIs (w.setCell a v) m kv:=by
 obtain⟨es,Ah,h,r⟩:=h;refine⟨es,Ah,?_,r⟩;by_cases e:m=a.block
 ·subst e;simp[World.setCell,Array.getElem?_modify,h]
 ·rw[Below.heap_setCell _ _ _ _ e];exact h
theorem MapIs.alloc{w:World}{m:Nat}{kv:List (Value×Value)}(h:MapIs w m kv)(o:Obj):MapIs (w.alloc o) m kv:=by
 have:=h.lt;exact h.same (Below.heap_alloc _ _ _ this)
theorem MapIs.new(w:World):MapIs (w.alloc (.map #[] 0)) w.heap.size []:=by
 refine⟨#[],0,?_,Go.MapKept.stamped_empty 0,rfl⟩;show(w.heap.push _)[w.heap.size]?=_;simp
structure Chg(F:Nat->Prop)(w w':World):Prop where
 os:w'.os=w.os
 tape:w'.tape=w.tape
 output:w'.output=w.output
 size:w.heap.size<=w'.heap.size
 block:∀k,k<w.heap.size->¬F k->w'.heap[k]?=w.heap[k]?
theorem Chg.refl(F:Nat->Prop)(w:World):Chg F w w:=⟨rfl,rfl,rfl,J3h _,fun _ _ _=>rfl⟩
theorem Chg.trans{F F':Nat->Prop}{a b c:World}(h:Chg F a b)(k:Chg F' b c)(hF:∀i,F' i->F i∨a.heap.size<=i):Chg F a c:=
 ⟨k.os.trans h.os,k.tape.trans h.tape,k.output.trans h.output,J3i h.size k.size,fun i hi hn =>
  (k.block i (J3j hi h.size) (fun h'=>by rcases hF i h' with h'|h';exact hn h';omega)).trans (h.block i hi hn)⟩
theorem Chg.mono{F F':Nat->Prop}{a b:World}(h:Chg F a b)(hF:∀i,F i->F' i∨a.heap.size<=i):Chg F' a b:=
 ⟨h.os,h.tape,h.output,h.size,fun i hi hn=>h.block i hi (fun h'=>by rcases hF i h' with h'|h';exact hn h';omega)⟩
theorem Chg.drew{F:Nat->Prop}{a w:World}(h:Chg F a w):Chg F a w.drew:=⟨h.os,h.tape,h.output,h.size,h.block⟩
theorem Chg.alloc{F:Nat->Prop}{a w:World}(h:Chg F a w)(o:Obj):Chg F a (w.alloc o):=by
 have hs:=h.size;exact⟨h.os,h.tape,h.output,by simp;omega,fun i hi hn=>(Below.heap_alloc _ _ _ (by omega)).trans (h.block i hi hn)⟩
theorem Chg.set{F:Nat->Prop}{a w:World}(h:Chg F a w)(p:Addr)(u:Value)(hp:F p.block∨a.heap.size<=p.block):Chg F a (w.setCell p u):=by
 have hs:=h.size;refine⟨h.os,h.tape,h.output,by simp[World.setCell];omega,fun i hi hn=>(Below.heap_setCell _ _ _ _ ?_).trans (h.block i hi hn)⟩;rintro rfl;rcases hp with hp|hp
 ·exact hn hp
 ·omega
theorem Chg.below{F:Nat->Prop}{a b:World}{B:Nat}(h:Chg F a b)(hB:B<=a.heap.size)(hF:∀i,F i->B<=i):Below B a b:=
 ⟨h.os,h.tape,h.output,h.size,fun i hi=>h.block i (by omega) (fun h'=>by have:=hF i h';omega)⟩
def look:List (Int×Value)->Int->Option Value
 | [],_=>none
 | p::r,id=>if id=p.1 then some p.2 else look r id
def put:List (Int×Value)->Int->Value->List (Int×Value)
 | [],id,v=>[(id,v)]
 | p::r,id,v=>if id=p.1 then(p.1,v)::r else p::put r id v
def del:List (Int×Value)->Int->List (Int×Value)
 | [],_=>[]
 | p::r,id=>if id=p.1 then r else p::del r id
def Q0H(w:World)(m:Nat)(kv:List (Int×Value)):Prop:=MapIs w m (kv.map fun p=>(.int .i64 p.1,p.2))
theorem Q2b(id:Int):∀(es:List MapEntry) (kv:List (Int×Value)) (i:Nat),es.map (fun e=>(e.key,e.val))=kv.map (fun p=>(Value.int .i64 p.1,p.2)) ->
  (look kv id=none/\Instr.findNow (.int .i64) (.int .i64 id) es i=some none) ∨
  (∃j v,look kv id=some v/\Instr.findNow (.int .i64) (.int .i64 id) es i=some (some (i+j,v))/\j<es.length/\(es[j]?).map (·.key)=some (.int .i64 id) /\
   (∀u,(es.modify j fun e=>{e with key:=.int .i64 id,val:=u}).map (fun e=>(e.key,e.val))=(put kv id u).map (fun p=>(Value.int .i64 p.1,p.2))) /\
   (es.eraseIdx j).map (fun e=>(e.key,e.val))=(del kv id).map (fun p=>(Value.int .i64 p.1,p.2)))
 | [],kv,i,h=>by
  cases kv with
  | nil=>left;simp[look,Instr.findNow]
  | cons p r=>simp at h
 | e::es,kv,i,h=>by
  cases kv with
  | nil=>simp at h
  | cons p r =>
   simp only[J3k,J3l,Prod.mk.injEq] at h;obtain⟨⟨hk,hv⟩,hr⟩:=h;by_cases CG:id=p.1
   ·right;refine⟨0,p.2,by simp[look,CG],by simp[Instr.findNow,hk,Instr.sameNow,CG,hv],by simp,by simp[hk,CG],?_,?_⟩
    ·intro u;simp[put,CG,hr]
    ·simp[del,CG,hr]
   ·have h1:(id==p.1)=false:=by simpa using CG
    rcases Q2b id es r (i+1) hr with ⟨hl,hf⟩|⟨j,v,hl,hf,hj,DV,B7,Lp⟩
    ·left;exact⟨by simp[look,CG,hl],by simp[Instr.findNow,hk,Instr.sameNow,h1,hf]⟩
    ·right;refine⟨j+1,v,by simp[look,CG,hl],?_,by simp;omega,by simpa using DV,?_,?_⟩
     ·simp[Instr.findNow,hk,Instr.sameNow,h1,hf];omega
     ·intro u;simp[put,CG,hk,hv,B7 u]
     ·simp[del,CG,hk,hv,Lp]
theorem Q4Q(id:Int):∀(es:List MapEntry) (kv:List (Int×Value)),es.map (fun e=>(e.key,e.val))=kv.map (fun p=>(Value.int .i64 p.1,p.2))->look kv id=none->∀u,put kv id u=kv++[(id,u)]
 | _,[],_,_,u=>rfl
 | [],_::_,h,_,_=>by simp at h
 | e::es,p::r,h,hl,u=>by
  by_cases CG:id=p.1
  ·simp[look,CG] at hl
  ·simp only[look,CG,if_false] at hl;simp only[J3k,J3l] at h;simp[put,CG,Q4Q id es r h.2 hl u]
theorem Z1h:∀(kv:List (Int×Value)) (id:Int),look kv id=none->del kv id=kv
 | [],_,_=>rfl
 | p::r,id,hl=>by
  by_cases CG:id=p.1
  ·simp[look,CG] at hl
  ·simp only[look,CG,if_false] at hl;simp[del,CG,Z1h r id hl]
section
variable {P:Program} {K V:TypeId} {T:TypeId}
theorem Q0A(w:World)(e:Bool)(id:Int)(hK:P.underlying K=some (.int .i64)):(Instr.checkKey e 10000 K (.int .i64 id)).run P w=.ok () w:=by
 unfold Instr.checkKey;simp[run_underlying hK,Result.andThen]
theorem Q0E{w:World}(id:Int)(es:List MapEntry)(r:Option (Nat×Value))(hK:P.underlying K=some (.int .i64))
  (h:Instr.findNow (.int .i64) (.int .i64 id) es 0=some r):(Instr.findKey K (.int .i64 id) es).run P w=.ok r w:=by
 unfold Instr.findKey;simp[run_underlying hK,Result.andThen,h]
theorem Z4i{es:List MapEntry}{kv:List (Int×Value)}(hr:es.map (fun e=>(e.key,e.val))=kv.map (fun p=>(Value.int .i64 p.1,p.2))){id:Int}(hl:look kv id=none):∀x∈es,x.key≠.int .i64 id:=by
 have Aw:∀(l:List (Int×Value)),look l id=none->∀p∈l,p.1≠id:=by
  intro l
  induction l with
  | nil=>intro _ p hp;cases hp
  | cons q r ih =>
   intro h p hp;unfold look at h;split at h
   ·cases h
   ·rename_i Ac;rcases J3m.1 hp with rfl|hp
    ·exact fun e=>Ac e.symm
    ·exact ih h p hp
 intro x hx e;have hm:(x.key,x.val)∈kv.map (fun p=>(Value.int .i64 p.1,p.2)):=by
  rw[<- hr];exact J3n.2 ⟨x,hx,rfl⟩
 obtain⟨p,hp,GH⟩:=J3n.1 hm;have h1:Value.int .i64 p.1=x.key:=(Prod.mk.injEq _ _ _ _ ▸ GH).1;rw[e] at h1;exact Aw kv hl p hp (by simpa using h1)
theorem Q1b{w:World}{m:Nat}{kv:List (Int×Value)}(h:Q0H w m kv)(id:Int)(ok:Bool)(z:Value)(hT:P.underlying T=some (.map K V))(hK:P.underlying K=some (.int .i64))
  (hz:(zeroValue V).run P w=.ok z w) :
  (Instr.lookup T (.map (some m)) (.int .i64 id) ok).run P w=.ok (if ok then .tuple #[(look kv id).getD z,.bool (look kv id).isSome] else(look kv id).getD z) w:=by
 obtain⟨es,Ah,hb,hs,hr⟩:=h;unfold Instr.lookup;rcases Q2b id es.toList kv 0 hr with ⟨hl,hf⟩|⟨j,v,hl,hf,_⟩
 ·cases ok <;> simp[run_underlying hT,Result.andThen,Go.MapKept.run_getObj_map hb,Q0A _ _ _ hK,Q0E _ _ _ hK hf,hl,hz]
 ·cases ok <;> simp[run_underlying hT,Result.andThen,Go.MapKept.run_getObj_map hb,Q0A _ _ _ hK,Q0E _ _ _ hK hf,hl]
theorem Q1q{w:World}{m:Nat}{kv:List (Int×Value)}(h:Q0H w m kv)(id:Int)(u:Value)(hT:P.underlying T=some (.map K V))(hK:P.underlying K=some (.int .i64)) :
  ∃w',(Instr.mapUpdate T (.map (some m)) (.int .i64 id) u).run P w=.ok () w'/\Q0H w' m (put kv id u)/\w.grownBy w' (some m):=by
 obtain⟨es,Ah,hb,hs,hr⟩:=h;have Ca:∀o,w.grownBy {w with heap:=w.heap.setIfInBounds m o} (some m):=fun o=>⟨rfl,rfl,rfl,by simp,fun k _ Ac=>by
  have:m≠k:=fun e=>Ac (by rw[e])
  simp[this]⟩
 have Aa:=lt_of_block hb;unfold Instr.mapUpdate;rcases Q2b id es.toList kv 0 hr with ⟨hl,hf⟩|⟨j,v,hl,hf,hj,DV,B7,_⟩
 ·refine⟨{w with heap:=w.heap.setIfInBounds m (.map (es.push {key:=.int .i64 id,val:=u,born:=Ah}) (Ah+1))},?_,?_,Ca _⟩
  ·simp[run_underlying hT,Result.andThen,Go.MapKept.run_getObj_map hb,Q0A _ _ _ hK,Q0E _ _ _ hK hf,Go.MapKept.run_setObj_map _ hb]
  ·refine⟨es.push {key:=.int .i64 id,val:=u,born:=Ah},Ah+1,by simp[Aa],Go.MapKept.stamped_push hs (Z4i hr hl),?_⟩;rw[Q4Q id es.toList kv hr hl u];simp[hr]
 ·refine⟨{w with heap:=w.heap.setIfInBounds m (.map (es.modify (0+j) fun e=>{e with key:=.int .i64 id,val:=u}) Ah)},?_,?_,Ca _⟩
  ·have Ax:((es[0+j]?).map (·.key)).getD (.int .i64 id)=.int .i64 id:=by
    have:(es[0+j]?).map (·.key)=some (.int .i64 id):=by simpa using DV
    rw[this];rfl
   have DT:∀w',(Instr.keyThatStays (.int .i64 id) (.int .i64 id)).run P w'=.ok (.int .i64 id) w':=by
    intro w';simp[Instr.keyThatStays,Instr.sameBits]
   simp only[run_underlying hT,Result.andThen,Go.MapKept.run_getObj_map hb,Q0A _ _ _ hK,Q0E _ _ _ hK hf,Go.MapKept.run_setObj_map _ hb,Ax,DT,Sem.run_bind]
  ·refine⟨es.modify (0+j) fun e=>{e with key:=.int .i64 id,val:=u},Ah,by simp[Aa],Go.MapKept.stamped_modify hs (0+j) _ (fun _ _=>rfl) (fun e _ he=>?_),?_⟩
   ·have:(es[0+j]?).map (·.key)=some (.int .i64 id):=by simpa using DV
    rw[he] at this
    simpa using this.symm
   rw[<- B7 u];simp
theorem Q3C{w:World}{m:Nat}{kv:List (Int×Value)}(h:Q0H w m kv)(id:Int)(t1 t2:TypeId)(hT:P.underlying T=some (.map K V))(hK:P.underlying K=some (.int .i64)) :
  ∃w',(Builtin.delete_ #[T,t1] t2 #[.map (some m),.int .i64 id]).run P w=.ok (.tuple #[]) w'/\Q0H w' m (del kv id)/\w.grownBy w' (some m):=by
 obtain⟨es,Ah,hb,hs,hr⟩:=h;have Ca:∀o,w.grownBy {w with heap:=w.heap.setIfInBounds m o} (some m):=fun o=>⟨rfl,rfl,rfl,by simp,fun k _ Ac=>by
  have:m≠k:=fun e=>Ac (by rw[e])
  simp[this]⟩
 have Aa:=lt_of_block hb;unfold Builtin.delete_;rcases Q2b id es.toList kv 0 hr with ⟨hl,hf⟩|⟨j,v,hl,hf,hj,DV,_,Lp⟩
 ·refine⟨{w with heap:=w.heap.setIfInBounds m (.map es Ah)},?_,?_,Ca _⟩
  ·simp[run_underlying hT,Result.andThen,Go.MapKept.run_getObj_map hb,Q0A _ _ _ hK,Q0E _ _ _ hK hf,Go.MapKept.run_setObj_map _ hb]
  ·refine⟨_,_,by simp[Aa],hs,?_⟩;rw[Z1h kv id hl];exact hr
 ·refine⟨{w with heap:=w.heap.setIfInBounds m (.map (es.eraseIdxIfInBounds (0+j)) Ah)},?_,?_,Ca _⟩
  ·simp[run_underlying hT,Result.andThen,Go.MapKept.run_getObj_map hb,Q0A _ _ _ hK,Q0E _ _ _ hK hf,Go.MapKept.run_setObj_map _ hb]
  ·refine⟨es.eraseIdxIfInBounds (0+j),Ah,by simp[Aa],Go.MapKept.stamped_erase hs _,?_⟩;rw[<- Lp];have:j<es.size:=by simpa using hj
   simp[Array.eraseIdxIfInBounds,this]
end
theorem Q8y{w:World}{g:Nat}{T:TypeId}{cs:List Value}(h:Cells w g T cs)(ds:List Value):Cells (w.setRow g ds.toArray) g T ds/\w.grownBy (w.setRow g ds.toArray) (some g):=by
 refine⟨setRow_heap w g _ _ _ _ h,⟨rfl,rfl,rfl,by simp,fun k _ hk=>setRow_other w g k _ (fun e=>hk (by simp[e]))⟩⟩
theorem Q3V{P:Program}(w:World){ops:Array Oper}{rest:List Oper}{o:Oper}{a:Act}{Q:Exit->Act->World->Prop}
  (Gn:o.guard=none) (s:Operand) (t e:TypeId) (hop:o.op=.call {callee:=.builtin .clear,args:=#[s],argTypes:=#[t]}) (ht:P.underlying t=some (.slice e))
  (z:Value) (hz:∀w,(zeroValue e).run P w=.ok z w) (hzc:z.cells=#[z]) (h1:z.oneCell'=true)
  (g off n c:Nat) (hs:a.eval s=.slice (some ⟨g,off,none⟩) n c) (hn:0<n) (T:TypeId) (cs:List Value) (hc:Cells w g T cs) (Io:off+n<=cs.length)
  (hK:∀w',Cells w' g T (cs.take off++List.replicate n z++cs.drop (off+n))->w.grownBy w' (some g)->wpList P ops Q rest (a.put o.dst (.tuple #[])) w'):wpList P ops Q (o::rest) a w:=by
 refine wpList_plain Gn fun K' hK'=>?_
 have WM:(Builtin.zeroCells #[z] n).toList=List.replicate n z:=by
  simp[Builtin.zeroCells,List.eq_replicate_iff,Nat.mod_one]
 have Ao:=run_storeCells_at P g off T (List.replicate n z) 0 cs.toArray w hc (by simpa using Io) (by intro v hv;rw[J3p hv];exact h1);obtain⟨r1,r2⟩:=Q8y hc (cs.take off++List.replicate n z++cs.drop (off+n));simp only[J3q,J3r] at Ao;obtain⟨m,rfl⟩:∃m,n=m+1:=⟨n-1,by omega⟩
 unfold Oper.wp;simp[execOp,hop,resolve,invoke,builtin,hs,Builtin.clear_,run_underlying ht,hz,hzc,WM,Ao,Result.andThen];exact hK' _ _ (hK _ (by simpa using r1) (by simpa using r2))
theorem Q1G{P:Program}(w:World){ops:Array Oper}{rest:List Oper}{o:Oper}{a:Act}{Q:Exit->Act->World->Prop}
  (hg:o.guard=none) (m k x:Operand) (t K V:TypeId) (hop:o.op=.mapUpdate t m k x) (hT:P.underlying t=some (.map K V)) (hK:P.underlying K=some (.int .i64))
  (b:Nat) (kv:List (Int×Value)) (h:Q0H w b kv) (id:Int) (u:Value) (hm:a.eval m=.map (some b)) (hk:a.eval k=.int .i64 id) (hx:a.eval x=u)
  (hK':∀w',Q0H w' b (put kv id u)->w.grownBy w' (some b)->wpList P ops Q rest (a.put o.dst undef) w'):wpList P ops Q (o::rest) a w:=by
 refine wpList_plain hg fun K' hK''=>?_
 obtain⟨w',Ic,r1,r2⟩:=Q1q (P:=P) h id u hT hK;unfold Oper.wp;simp[execOp,hop,hm,hk,hx,Ic,Result.andThen];exact hK'' _ _ (hK' w' r1 r2)
theorem Q4y{P:Program}(w:World){ops:Array Oper}{rest:List Oper}{o:Oper}{a:Act}{Q:Exit->Act->World->Prop}
  (hg:o.guard=none) (m k:Operand) (t t1 K V:TypeId) (hop:o.op=.call {callee:=.builtin .delete,args:=#[m,k],argTypes:=#[t,t1]}) (hT:P.underlying t=some (.map K V)) (hK:P.underlying K=some (.int .i64))
  (b:Nat) (kv:List (Int×Value)) (h:Q0H w b kv) (id:Int) (hm:a.eval m=.map (some b)) (hk:a.eval k=.int .i64 id)
  (hK':∀w',Q0H w' b (del kv id)->w.grownBy w' (some b)->wpList P ops Q rest (a.put o.dst (.tuple #[])) w'):wpList P ops Q (o::rest) a w:=by
 refine wpList_plain hg fun K' hK''=>?_
 obtain⟨w',Ic,r1,r2⟩:=Q3C (P:=P) h id t1 o.type hT hK;unfold Oper.wp;simp[execOp,hop,resolve,invoke,builtin,hm,hk,Ic,Result.andThen];exact hK'' _ _ (hK' w' r1 r2)
end Go.Proofs.YtfidemmgofcnmaaGreatDoor
namespace Go.Proofs.YtfidemmgofcnmaaGreatDoor
open Go.Proofs.Tryz
structure Pl where
 kind:Nat
 at_:Nat
 fac:Nat
 st:Nat
 age:Nat
 own:Nat
def nm(i:Nat)(p:Pl):Nat:=p.age*256+i
def Q4Z(l:List Pl)(s k:Nat):List Nat:=(List.range k).filterMap fun i=>match l[i]? with
 | some p=>if p.st=s then some (nm i p) else none
 | none=>none
def allL(l:List Pl)(s:Nat):List Nat:=Q4Z l s l.length
def pget(l:List Pl)(s h:Nat):Option Pl:=match l[h%256]? with
 | some p=>if nm (h%256) p=h/\p.st=s then some p else none
 | none=>none
theorem Q6M{l:List Pl}{k:Nat}{p:Pl}(hk:l[k]?=some p)(s:Nat):Q4Z l s (k+1)=Q4Z l s k++if p.st=s then [nm k p] else []:=by
 unfold Q4Z;rw[J3s,J3t];congr 1;simp only[J3u,List.filterMap_nil,hk];by_cases h:p.st=s <;> simp[h]
theorem Q2N(l:List Pl)(s k:Nat):(Q4Z l s k).length<=k:=by
 unfold Q4Z;exact J3i (List.length_filterMap_le _ _) (by simp)
theorem pget_some{l:List Pl}{s h:Nat}{p:Pl}:pget l s h=some p↔l[h%256]?=some p/\nm (h%256) p=h/\p.st=s:=by
 unfold pget;cases hl:l[h%256]? with
 | none=>simp
 | some q =>
  by_cases hc:nm (h%256) q=h/\q.st=s
  ·simp only[hc,and_self,if_true,J3v]
   constructor
   ·rintro rfl;exact⟨rfl,hc⟩
   ·exact fun e=>e.1
  ·simp only[hc,if_false,J3v]
   constructor
   ·intro e;cases e
   ·rintro⟨rfl,e⟩;exact absurd e hc
theorem Q6N{i:Nat}(hi:i<256)(p:Pl):nm i p%256=i:=by unfold nm;omega
theorem mem_allTo{l:List Pl}{s k h:Nat}:h∈Q4Z l s k↔∃i p,i<k/\l[i]?=some p/\p.st=s/\h=nm i p:=by
 unfold Q4Z;simp only[J3w,J3x]
 constructor
 ·rintro⟨i,hi,h⟩;cases hl:l[i]? with
  | none=>rw[hl] at h;cases h
  | some p =>
   rw[hl] at h;by_cases hs:p.st=s
   ·simp only[hs,if_true,J3v] at h;exact⟨i,p,hi,hl,hs,h.symm⟩
   ·simp only[hs,if_false] at h;cases h
 ·rintro⟨i,p,hi,hl,hs,rfl⟩;exact⟨i,hi,by simp[hl,hs]⟩
theorem Z4j{l:List Pl}(hl:l.length<=256){s h:Nat}:h∈allL l s↔∃p,pget l s h=some p:=by
 unfold allL;rw[mem_allTo]
 constructor
 ·rintro⟨i,p,hi,hp,hs,rfl⟩;refine⟨p,pget_some.2 ?_⟩;rw[Q6N (by omega)];exact⟨hp,rfl,hs⟩
 ·rintro⟨p,h1⟩;obtain⟨a,b,c⟩:=pget_some.1 h1;exact⟨h%256,p,(J3y.1 a).1,a,c,b.symm⟩
theorem Q5s{l:List Pl}{s t h k:Nat}{p q:Pl}(h1:pget l s h=some p)(h2:pget l t k=some q)(e:h%256=k%256):h=k/\p=q/\s=t:=by
 obtain⟨a,b,c⟩:=pget_some.1 h1;obtain⟨a',b',c'⟩:=pget_some.1 h2;rw[e] at a;rw[a] at a';cases a';rw[e] at b;exact⟨b.symm.trans b',rfl,c.symm.trans c'⟩
def J2Q(l:List Pl)(a:Nat):List Nat:=(allL l 1).filter fun x=>decide (x≠0)&&match l[x%256]? with
 | some p=>decide (p.fac=a)
 | none=>false
def kids(l:List Pl)(h:Nat):List Nat:=match pget l 1 h with
 | some p=>if p.kind=1 then J2Q l p.own else []
 | none=>[]
def preN(l:List Pl):Nat->Nat->List Nat
 | 0,h=>[h]
 | n+1,h=>h::(kids l h).reverse.flatMap (preN l n)
def rank(l:List Pl)(N h:Nat):Nat:=match pget l 1 h with
 | some p=>if p.kind=1 then N-p.own else 0
 | none=>0
def pre(l:List Pl)(N h:Nat):List Nat:=preN l N h
def under(l:List Pl)(N h:Nat):List Nat:=(pre l N h).tail.reverse
theorem Q8z:∀(n:Nat) (l:List Nat),l.Nodup->(∀x∈l,x<n)->l.length<=n
 | 0,l,_,h=>by
  cases l with
  | nil=>simp
  | cons x r=>exact absurd (h x (by simp)) (by omega)
 | n+1,l,hn,h=>by
  have h1:=Q8z n (l.erase n) (hn.erase n) fun x hx=>by
   have:=h x (J3K hx);have Ac:x≠n:=fun e=>by subst e;exact(List.Nodup.not_mem_erase hn) hx
   omega
  by_cases hm:n∈l
  ·rw[List.length_erase_of_mem hm] at h1;omega
  ·rw[List.erase_of_not_mem hm] at h1;omega
def rest(l:List Pl)(N:Nat)(ws:List Nat):List Nat:=ws.reverse.flatMap (pre l N)
open Go.RowKit
def dbi(t:Nat):Nat:=(2 ^ t*285870213051353865%18446744073709551616)/288230376151711744
def dbt:List Nat:=[0,1,56,2,57,49,28,3,61,58,42,50,38,29,17,4,62,47,59,36,45,43,51,22,53,39,33,30,24,18,12,5,63,55,48,27,60,41,37,16,46,35,44,21,52,32,23,11,54,26,40,15,34,20,31,10,25,14,19,9,13,8,7,6]
theorem J0v:∀t,t<64->dbi t<64/\dbt[dbi t]?=some t:=by decide +kernel
def TabB(w:World):Prop:=∀(j v:Nat),dbt[j]?=some v->w.cell? ⟨1,j,none⟩=some (.int .u8 v)
def Z4k:List Int:=[0,64,128,256,32,32,48,256]
def TabC(w:World):Prop:=∀(j:Nat) (v:Int),Z4k[j]?=some v->w.cell? ⟨0,j,none⟩=some (.int .i64 v)
def GB:Nat:=3
structure Env(w:World):Prop where
 gb:GB<=w.heap.size
 tabB:TabB w
 tabC:TabC w
theorem Env.same{w w':World}(h:Env w)(hb:∀b,b<GB->w'.heap[b]?=w.heap[b]?)(hs:GB<=w'.heap.size):Env w':=by
 refine⟨hs,fun j v hv=>?_,fun j v hv=>?_⟩
 ·exact(World.cell?_of_block (w:=w) (hb 1 (by decide))).trans (h.tabB j v hv)
 ·exact(World.cell?_of_block (w:=w) (hb 0 (by decide))).trans (h.tabC j v hv)
theorem Q0a{p:Prop}(h:p):Hid p:=h
abbrev HL:=List (Nat×(Obj->Prop))
def keys(H:HL):List Nat:=H.map Prod.fst
@[simp] theorem keys_nil:keys []=[]:=rfl
@[simp] theorem keys_cons (p:Nat×(Obj->Prop)) (H:HL):keys (p::H)=p.1::keys H:=rfl
@[simp] theorem keys_append (A B:HL):keys (A++B)=keys A++keys B:=by simp[keys]
structure Sep(w:World)(H:HL):Prop where
 nd:(keys H).Nodup
 at':∀p∈H,∃o,w.heap[p.1]?=some o/\p.2 o
 hi:∀b∈keys H,GB<=b
 env:Env w
structure Step(H H':HL)(w w':World):Prop where
 sep:Sep w' H'
 chg:Chg (fun b=>b∈keys H) w w'
 new:∀b∈keys H',b∈keys H∨w.heap.size<=b
def isC(T:TypeId)(cs:List Value):Obj->Prop:=fun o=>o=.cells cs.toArray T (0,0)
def isR(T:TypeId)(n:Nat)(cs:List Value):Obj->Prop:=fun o=>∃Ak:Array Value,o=.cells Ak T (0,0)/\Ak.size=n/\Ak.toList.take cs.length=cs
def isM(kv:List (Value×Value)):Obj->Prop:=fun o=>∃es Ah,o=.map es Ah/\KvOf es Ah kv
theorem Sep.lt{w:World}{H:HL}(h:Sep w H){b:Nat}(hb:b∈keys H):b<w.heap.size:=by
 obtain⟨p,hp,rfl⟩:=J3n.1 hb;obtain⟨o,ho,_⟩:=h.at' p hp;exact lt_of_block ho
theorem Sep.nil{w:World}(h:Env w):Sep w []:=⟨by simp,by simp,by simp,h⟩
theorem Sep.sub{w:World}{H K:HL}(h:Sep w H)(hs:K.Sublist H):Sep w K:=⟨h.nd.sublist (hs.map _),fun p hp=>h.at' p (hs.subset hp),fun b hb=>h.hi b ((hs.map Prod.fst).subset hb),h.env⟩
theorem Sep.perm{w:World}{H K:HL}(h:Sep w H)(hp:H.Perm K):Sep w K:=⟨(hp.map _).nodup_iff.1 h.nd,fun p AG=>h.at' p (hp.mem_iff.2 AG),fun b hb=>h.hi b ((hp.map Prod.fst).mem_iff.2 hb),h.env⟩
theorem Sep.left{w:World}{A B:HL}(h:Sep w (A++B)):Sep w A:=h.sub (J3R A B)
theorem Sep.right{w:World}{A B:HL}(h:Sep w (A++B)):Sep w B:=h.sub (J3S A B)
theorem Sep.tail{w:World}{p:Nat×(Obj->Prop)}{B:HL}(h:Sep w (p::B)):Sep w B:=h.sub (List.sublist_cons_self p B)
theorem Sep.get{w:World}{H:HL}(h:Sep w H){b:Nat}{q:Obj->Prop}(hm:(b,q)∈H):∃o,w.heap[b]?=some o/\q o:=h.at' (b,q) hm
theorem Sep.cells{w:World}{H:HL}(h:Sep w H){b:Nat}{T:TypeId}{cs:List Value}(hm:(b,isC T cs)∈H):Cells w b T cs:=by
 obtain⟨o,ho,rfl⟩:=h.get hm;exact ho
theorem Sep.map{w:World}{H:HL}(h:Sep w H){b:Nat}{kv:List (Value×Value)}(hm:(b,isM kv)∈H):MapIs w b kv:=by
 obtain⟨o,ho,es,Ah,rfl,hr⟩:=h.get hm;exact⟨es,Ah,ho,hr⟩
theorem Sep.row{w:World}{H:HL}(h:Sep w H){b:Nat}{T:TypeId}{n:Nat}{cs:List Value}(hm:(b,isR T n cs)∈H):∃ds,Cells w b T ds/\ds.length=n/\ds.take cs.length=cs:=by
 obtain⟨o,ho,Ak,rfl,hn,hr⟩:=h.get hm;exact⟨Ak.toList,by simpa[Cells] using ho,by simpa using hn,hr⟩
theorem Sep.same{w w':World}{H:HL}(h:Sep w H)(hs:∀b∈keys H,w'.heap[b]?=w.heap[b]?)(he:Env w'):Sep w' H:=
 ⟨h.nd,fun p hp=>by obtain⟨o,ho,hq⟩:=h.at' p hp;exact⟨o,(hs p.1 (J3T hp)).trans ho,hq⟩,h.hi,he⟩
theorem Env.chg{w w':World}{F:Nat->Prop}(h:Env w)(hc:Chg F w w')(hF:∀b,F b->GB<=b):Env w':=
 h.same (fun b hb=>hc.block b (J3j hb h.gb) fun hf=>by have:=hF b hf;omega) (J3i h.gb hc.size)
theorem Env.below{w w':World}(h:Env w)(hb:Below w.heap.size w w'):Env w':=
 h.same (fun b hl=>hb.block b (J3j hl h.gb)) (J3i h.gb hb.size)
theorem Sep.chg{w w':World}{H:HL}{F:Nat->Prop}(h:Sep w H)(hc:Chg F w w')(hF:∀b∈keys H,¬F b)(hG:∀b,F b->GB<=b):Sep w' H:=
 h.same (fun b hb=>hc.block b (h.lt hb) (hF b hb)) (h.env.chg hc hG)
theorem Step.refl{w:World}{H:HL}(h:Sep w H):Step H H w w:=⟨h,Chg.refl _ _,fun _ hb=>.inl hb⟩
theorem Step.trans{w w1 w2:World}{H H1 H2:HL}(h:Step H H1 w w1)(k:Step H1 H2 w1 w2):Step H H2 w w2:=by
 have hs:=h.chg.size;refine⟨k.sep,h.chg.trans k.chg h.new,fun b hb=>?_⟩;rcases k.new b hb with h'|h'
 ·exact h.new b h'
 ·exact .inr (by omega)
theorem Step.perm{w w':World}{H H' K K':HL}(h:Step H H' w w')(hp:H.Perm K)(AG:H'.Perm K'):Step K K' w w':=
 ⟨h.sep.perm AG,h.chg.mono fun b hb=>.inl ((hp.map _).mem_iff.1 hb),fun b hb=>by rcases h.new b ((AG.map _).mem_iff.2 hb) with h'|h';exact .inl ((hp.map _).mem_iff.1 h');exact .inr h'⟩
theorem Step.frame{w w':World}{H H':HL}(A B:HL)(hA:Sep w (A++H++B))(h:Step H H' w w'):Step (A++H++B) (A++H'++B) w w':=by
 have AP:=hA.nd;simp only[keys_append] at AP;have hd:=J3U.1 AP;have Iw:=J3U.1 hd.1;have other:∀b,b∈keys A∨b∈keys B->b∉keys H:=by
  rintro b (hb|hb) hH
  ·exact Iw.2.2 b hb b hH rfl
  ·exact hd.2.2 b (J3V _ hH) b hb rfl
 have lt:∀b,b∈keys A∨b∈keys B->b<w.heap.size:=by
  rintro b (hb|hb) <;> refine hA.lt ?_ <;> simp[hb]
 have fresh:∀b,b∈keys A∨b∈keys B->b∉keys H':=by
  intro b hb Wt;rcases h.new b Wt with h1|h1
  ·exact other b hb h1
  ·have:=lt b hb;omega
 refine⟨⟨?_,?_,?_,h.sep.env⟩,?_,?_⟩
 ·simp only[keys_append];rw[J3U];refine⟨?_,hd.2.1,?_⟩
  ·rw[J3U];exact⟨Iw.1,h.sep.nd,fun a ha b hb e=>fresh a (.inl ha) (e ▸ hb)⟩
  ·intro a ha b hb e;subst e;rcases J3Q.1 ha with ha|ha
   ·exact hd.2.2 a (J3W _ ha) a hb rfl
   ·exact fresh a (.inr hb) ha
 ·intro p hp;rcases J3Q.1 hp with hp|hp
  ·rcases J3Q.1 hp with hp|hp
   ·obtain⟨o,ho,hq⟩:=hA.at' p (by simp[hp]);exact⟨o,(h.chg.block p.1 (lt_of_block ho) (other p.1 (.inl (J3T hp)))).trans ho,hq⟩
   ·exact h.sep.at' p hp
  ·obtain⟨o,ho,hq⟩:=hA.at' p (by simp[hp]);exact⟨o,(h.chg.block p.1 (lt_of_block ho) (other p.1 (.inr (J3T hp)))).trans ho,hq⟩
 ·intro b hb;simp only[keys_append,J3Q] at hb;rcases hb with (hb|hb)|hb
  ·exact hA.hi b (by simp[hb])
  ·exact h.sep.hi b hb
  ·exact hA.hi b (by simp[hb])
 ·exact h.chg.mono fun b hb=>.inl (by simp[hb])
 ·intro b hb;simp only[keys_append,J3Q] at hb ⊢;rcases hb with (hb|hb)|hb
  ·exact .inl (.inl (.inl hb))
  ·rcases h.new b hb with h'|h'
   ·exact .inl (.inl (.inr h'))
   ·exact .inr h'
  ·exact .inl (.inr hb)
theorem Step.drop{w w':World}{H H' K:HL}(h:Step H H' w w')(hs:K.Sublist H'):Step H K w w':=
 ⟨h.sep.sub hs,h.chg,fun b hb=>h.new b ((hs.map Prod.fst).subset hb)⟩
theorem Step.from_drew{w w':World}{H H':HL}(h:Step H H' w.drew w'):Step H H' w w':=⟨h.sep,((Chg.refl (fun b=>b∈keys H) w).drew).trans h.chg fun _ hb=>.inl hb,h.new⟩
theorem Step.from_alloc{w w':World}{H H':HL}{o:Obj}(h:Step H H' (w.alloc o) w'):Step H H' w w':=by
 have hs:(w.alloc o).heap.size=w.heap.size+1:=by simp
 refine⟨h.sep,((Chg.refl (fun b=>b∈keys H) w).alloc o).trans h.chg fun _ hb=>.inl hb,fun b hb=>?_⟩;rcases h.new b hb with h'|h'
 ·exact .inl h'
 ·exact .inr (by omega)
theorem Sep.grown{w w':World}{H:HL}(h:Sep w H)(hb:Below w.heap.size w w'):Step H H w w':=
 ⟨h.same (fun b Al=>hb.block b (h.lt Al)) (h.env.below hb),⟨hb.os,hb.tape,hb.output,hb.size,fun k hk _=>hb.block k hk⟩,fun _ hb=>.inl hb⟩
theorem Sep.drew{w:World}{H:HL}(h:Sep w H):Sep w.drew H:=h.same (fun _ _=>rfl) (h.env.same (fun _ _=>rfl) h.env.gb)
theorem Step.drew{w w':World}{H H':HL}(h:Step H H' w w'):Step H H' w w'.drew:=⟨h.sep.drew,h.chg.drew,h.new⟩
theorem Sep.drewN{w:World}{H:HL}(h:Sep w H)(n:Nat):Sep (w.drewN n) H:=h.same (fun _ _=>rfl) (h.env.same (fun _ _=>rfl) h.env.gb)
theorem Sep.alloc{w:World}{H:HL}(h:Sep w H)(o:Obj):Sep (w.alloc o) H:=h.same (fun b hb=>Below.heap_alloc _ _ _ (h.lt hb)) (h.env.below ((Below.refl _ _).alloc (J3h _) _))
theorem Sep.new{w:World}{H:HL}(h:Sep w H)(T:TypeId)(cs:List Value):Step H ((w.heap.size,isC T cs)::H) w (w.alloc (.cells cs.toArray T)):=by
 refine⟨⟨?_,?_,?_,(h.alloc _).env⟩,(Chg.refl _ _).alloc _,?_⟩
 ·simp only[keys_cons,J3X];exact⟨fun hb=>by have:=h.lt hb;omega,h.nd⟩
 ·intro p hp;rcases J3m.1 hp with rfl|hp
  ·exact⟨_,Cells.new w T cs,rfl⟩
  ·exact(h.alloc _).at' p hp
 ·intro b hb;rcases J3m.1 hb with rfl|hb
  ·exact h.env.gb
  ·exact h.hi b hb
 ·intro b hb;rcases J3m.1 hb with rfl|hb
  ·exact .inr (J3h _)
  ·exact .inl hb
theorem Sep.newMap{w:World}{H:HL}(h:Sep w H):Step H ((w.heap.size,isM [])::H) w (w.alloc (.map #[] 0)):=by
 refine⟨⟨?_,?_,?_,(h.alloc _).env⟩,(Chg.refl _ _).alloc _,?_⟩
 ·simp only[keys_cons,J3X];exact⟨fun hb=>by have:=h.lt hb;omega,h.nd⟩
 ·intro p hp;rcases J3m.1 hp with rfl|hp
  ·refine⟨.map #[] 0,?_,⟨#[],0,rfl,Go.MapKept.stamped_empty 0,rfl⟩⟩;show(w.heap.push _)[w.heap.size]?=_;simp
  ·exact(h.alloc _).at' p hp
 ·intro b hb;rcases J3m.1 hb with rfl|hb
  ·exact h.env.gb
  ·exact h.hi b hb
 ·intro b hb;rcases J3m.1 hb with rfl|hb
  ·exact .inr (J3h _)
  ·exact .inl hb
theorem Sep.set{w:World}{A B:HL}{b:Nat}{T:TypeId}{cs:List Value}(h:Sep w (A++(b,isC T cs)::B))(i:Nat)(v:Value):Step (A++(b,isC T cs)::B) (A++(b,isC T (cs.set i v))::B) w (w.setCell ⟨b,i,none⟩ v):=by
 have hc:Cells w b T cs:=h.cells (by simp);have AP:=h.nd;have DR:Chg (fun b'=>b'∈keys (A++(b,isC T cs)::B)) w (w.setCell ⟨b,i,none⟩ v):=(Chg.refl _ _).set _ _ (.inl (by simp));refine⟨⟨by simpa using AP,?_,fun b' Al=>h.hi b' (by simpa using Al),h.env.chg DR h.hi⟩,DR,fun b' Al=>.inl (by simpa using Al)⟩;intro p hp;by_cases Jc:p.1=b
 ·have AG:p=(b,isC T (cs.set i v)):=by
   simp only[keys_append,keys_cons] at AP;have hn:=J3U.1 AP;rcases J3Q.1 hp with hp|hp
   ·exact absurd rfl (hn.2.2 b (Jc ▸ J3T hp) b (by simp))
   ·rcases J3m.1 hp with rfl|hp
    ·rfl
    ·exact absurd (Jc ▸ J3T hp) (J3X.1 hn.2.1).1
  subst AG;exact⟨_,hc.set i v,rfl⟩
 ·obtain⟨o,ho,hq⟩:=h.at' p (by
   rcases J3Q.1 hp with hp|hp
   ·simp[hp]
   ·rcases J3m.1 hp with rfl|hp
    ·exact absurd rfl Jc
    ·simp[hp])
  exact⟨o,(Below.heap_setCell _ _ _ _ Jc).trans ho,hq⟩
theorem Sep.turn{w w':World}{A B:HL}{b:Nat}{q q':Obj->Prop}(h:Sep w (A++(b,q)::B))(hg:w.grownBy w' (some b))(hq:∃o,w'.heap[b]?=some o/\q' o):Step (A++(b,q)::B) (A++(b,q')::B) w w':=by
 have AP:=h.nd;have DR:Chg (fun b'=>b'∈keys (A++(b,q)::B)) w w':=⟨hg.os,hg.tape,hg.output,hg.size,fun k hk hF=>hg.block k hk (fun e=>hF (by cases e;simp))⟩
 refine⟨⟨by simpa using AP,?_,fun b' Al=>h.hi b' (by simpa using Al),h.env.chg DR h.hi⟩,DR,fun b' Al=>.inl (by simpa using Al)⟩;intro p hp;by_cases Jc:p.1=b
 ·have AG:p=(b,q'):=by
   simp only[keys_append,keys_cons] at AP;have hn:=J3U.1 AP;rcases J3Q.1 hp with hp|hp
   ·exact absurd rfl (hn.2.2 b (Jc ▸ J3T hp) b (by simp))
   ·rcases J3m.1 hp with rfl|hp
    ·rfl
    ·exact absurd (Jc ▸ J3T hp) (J3X.1 hn.2.1).1
  subst AG;exact hq
 ·have Az:p∈A++(b,q)::B:=by
   rcases J3Q.1 hp with hp|hp
   ·simp[hp]
   ·rcases J3m.1 hp with rfl|hp
    ·exact absurd rfl Jc
    ·simp[hp]
  obtain⟨o,ho,hq⟩:=h.at' p Az;exact⟨o,(hg.block p.1 (lt_of_block ho) (fun e=>Jc (J3Y e))).trans ho,hq⟩
theorem Step.below{w w':World}{H H':HL}{B:Nat}(h:Step H H' w w')(hB:B<=w.heap.size)(hH:∀b∈keys H,B<=b):Below B w w':=h.chg.below hB hH
theorem Q3W{α:Type}(f:α->HL)(L:List α)(k:Nat)(x:α)(h:L[k]?=some x):L.flatMap f=(L.take k).flatMap f++f x++(L.drop (k+1)).flatMap f:=by
 have hk:k<L.length:=(J3y.1 h).1;have e:L=L.take k++x::L.drop (k+1):=by
  have:=J3y.1 h;rw[<- this.2,J3Z,J4a]
 conv=>lhs;rw[e]
 simp[List.append_assoc]
theorem J0c{α:Type}(f:α->HL)(L:List α)(k:Nat)(y:α)(h:k<L.length):(L.set k y).flatMap f=(L.take k).flatMap f++f y++(L.drop (k+1)).flatMap f:=by
 rw[Q3W f (L.set k y) k y (by simp[h]),J4c (J3h k),J4d (by omega)]
theorem Z7G(z:Value)(n:Nat):madeCells #[z] n=(List.replicate n z).toArray:=by
 apply Array.ext'
 simp[madeCells,List.eq_replicate_iff,Nat.mod_one]
theorem Q4R{P:Program}{w:World}(t e:TypeId)(i:TypeInfo)(z:Value)(bytes:Nat)(ht:P.underlying t=some (.slice e))(hi:P.info? e=some i)(hz:i.zero=some z)(hs:i.size=1)(hb:i.bytes=bytes)(hzc:z.cells=#[z])
  (n:Nat) (hn:n<=1099511627776) (hbytes:bytes<=256) :
  (Instr.makeSlice t (.int .i64 n) (.int .i64 n)).run P w=.ok (.slice (some ⟨w.heap.size,0,none⟩) n n) (w.alloc (.cells (List.replicate n z).toArray e)):=by
 have h1:i.bytes*n<=256*1099511627776:=J4e (by omega) hn;have h2:(i.bytes:Int)*(n:Int)<=281474976710656:=by
  have h:((i.bytes*n:Nat):Int)<=281474976710656:=by omega
  rwa [J4f] at h
 have:=run_make (P:=P) w t e i z ht hi hz .i64 .i64 n n (by omega) (by omega) h2 (by omega);rw[hs,hzc,J4g,J4h,Z7G] at this;exact this
def Told(w:World)(v:Value)(r:Ending)(w':World):Prop:=r=.returned v/\Below w.heap.size w w'
end Go.Proofs.YtfidemmgofcnmaaGreatDoor
namespace Go.Proofs.YtfidemmgofcnmaaGreatDoor
open Go.Proofs.Tryz
def Q0l(f:Nat->Bool):Nat->Nat
 | 0=>0
 | n+1=>Q0l f n+2 ^ n*(f n).toNat
theorem Q0C(f:Nat->Bool)(n:Nat):Q0l f n<2 ^ n:=by
 induction n with
 | zero=>simp[Q0l]
 | succ n ih =>
  have:(f n).toNat<=1:=J4i _;have h2:2 ^ n*(f n).toNat<=2 ^ n*1:=Nat.mul_le_mul_left _ this;simp only[Q0l];rw[J4j];omega
theorem wordN_bit(f:Nat->Bool)(n j:Nat):(Q0l f n).testBit j=(decide (j<n)&&f j):=by
 induction n with
 | zero=>simp[Q0l]
 | succ n ih =>
  simp only[Q0l];rw[J4k,J4l _ (Q0C f n)];by_cases h:j<n
  ·rw[if_pos h,ih];simp[h];intro _;omega
  ·rw[if_neg h];by_cases h2:j=n
   ·subst h2;cases f j <;> simp
   ·have:(f n).toNat.testBit (j-n)=false:=J4m (J4n (J4i _) (Nat.one_lt_two_pow (by omega)));rw[this];simp;intro h3;omega
theorem Q2x{x n:Nat}(hx:x<2 ^ n)(f:Nat->Bool)(h:∀j,j<n->x.testBit j=f j):x=Q0l f n:=by
 apply J4o
 intro j;rw[wordN_bit];by_cases hj:j<n
 ·simp[hj,h j hj]
 ·rw[J4m (J3j hx (J4p (by omega) (by omega)))];simp[hj]
theorem Q1r(f g:Nat->Bool)(n:Nat)(h:∀j,j<n->f j=g j):Q0l f n=Q0l g n:=
 Q2x (Q0C f n) g fun j hj=>by rw[wordN_bit];simp[hj,h j hj]
theorem wordN_zero{f:Nat->Bool}{n:Nat}:Q0l f n=0↔∀j,j<n->f j=false:=by
 constructor
 ·intro h j hj;have:=wordN_bit f n j;rw[h] at this;simpa[hj] using this.symm
 ·intro h;have:=Q2x (x:=0) (J4q n) f (fun j hj=>by simp[h j hj]);exact this.symm
theorem Z7H(f:Nat->Bool)(s:Nat)(hs:s<64):(Q0l f 64/2 ^ s)&&&1=(f s).toNat:=by
 have h:=wordN_bit f 64 s;rw[Nat.testBit_eq_decide_div_mod_eq] at h;rw[Nat.and_one_is_mod];simp only[hs,decide_true,J4r] at h;cases hf:f s with
 | true=>rw[hf] at h;simpa using h
 | false=>rw[hf] at h;simp at h;simpa using h
theorem Z4l(f:Nat->Bool)(s:Nat)(hs:s<64):Q0l f 64 ^^^ 2 ^ s=Q0l (fun j=>if j=s then !f j else f j) 64:=by
 refine Q2x (J4s (Q0C f 64) (J4t (by omega) hs)) _ fun j hj=>?_
 rw[J4u,wordN_bit,J4v];by_cases h:j=s
 ·subst h;simp[hj]
 ·have:¬s=j:=fun e=>h e.symm
  simp[hj,h,this]
theorem Z7I(f:Nat->Bool):Q0l f 64 ^^^ 18446744073709551615=Q0l (fun j=>!f j) 64:=by
 have hm:(18446744073709551615:Nat)=2 ^ 64-1:=by decide
 refine Q2x (J4s (Q0C f 64) (by decide)) _ fun j hj=>?_
 rw[J4u,wordN_bit,hm,Nat.testBit_two_pow_sub_one];simp[hj]
theorem Z7J(f:Nat->Bool)(s:Nat):Q0l f 64/2 ^ s*2 ^ s%18446744073709551616=Q0l (fun j=>decide (s<=j)&&f j) 64:=by
 have Aa:Q0l f 64/2 ^ s*2 ^ s<2 ^ 64:=J4n (Nat.div_mul_le_self _ _) (Q0C f 64);rw[J4w (by simpa using Aa)];refine Q2x Aa _ fun j hj=>?_
 rw[<- Nat.shiftLeft_eq,<- Nat.shiftRight_eq_div_pow,Nat.testBit_shiftLeft,Nat.testBit_shiftRight,wordN_bit];by_cases h:s<=j
 ·simp[h,show s+(j-s)=j by omega,hj]
 ·simp[h]
theorem Z7K(f:Nat->Bool)(t:Nat)(ht:t<64)(h:f t=true)(hl:∀j,j<t->f j=false):Q0l f 64&&&(18446744073709551616-Q0l f 64)=2 ^ t:=by
 have Aa:=Q0C f 64;have Ry:2 ^ t ∣ Q0l f 64:=by
  rw[Nat.dvd_iff_mod_eq_zero];have:Q0l f 64%2 ^ t=0:=by
   apply J4o
   intro j;rw[Nat.testBit_mod_two_pow,wordN_bit];by_cases hj:j<t
   ·simp[hj,hl j hj]
   ·simp[hj]
  exact this
 obtain⟨m,hm⟩:=Ry;have Ui:m%2=1:=by
  have:=wordN_bit f 64 t;rw[hm,J4x] at this;simp[ht,h,Nat.testBit_zero] at this;exact this
 have e0:m=2*(m/2)+1:=by omega
 generalize hk:m/2=k at e0;subst e0;have E5:0<2 ^ t:=J4q t;have e1:2 ^ t*(2*k+1)=2 ^ t*(2*k)+2 ^ t:=by rw[Nat.mul_add,J4h]
 have Km:2 ^ t*(2*k)+2 ^ t<2 ^ 64:=by rw[<- e1,<- hm];exact Aa
 rw[hm,show(18446744073709551616:Nat)=2 ^ 64 from by decide];have e2:2 ^ 64-2 ^ t*(2*k+1)=2 ^ 64-(2 ^ t*(2*k)+(2 ^ t-1)+1):=by rw[e1];congr 1;omega
 rw[e2]
 apply J4o
 intro j;rw[J4z,Nat.testBit_two_pow_sub_succ (by omega),J4l _ (by omega),J4x,J4v];by_cases h1:j<t
 ·have:¬t=j:=by omega
  simp[h1,this]
 ·by_cases h2:j=t
  ·subst h2;simp[ht,Nat.testBit_zero]
  ·have h3:¬t=j:=by omega
   have h4:∀x,(2*k+x).testBit (j-t)=(2*k+x).testBit ((j-t-1)+1):=fun x=>by rw[show j-t-1+1=j-t by omega]
   have h5:=h4 0;have h6:=h4 1;rw[Nat.testBit_succ] at h5 h6;rw[J3q] at h5;rw[h6,h5,show(2*k+1)/2=k by omega,show 2*k/2=k by omega];simp[h3]
   intros;assumption
def cnt(f:Nat->Bool):Nat->Nat
 | 0=>0
 | n+1=>cnt f n+(f n).toNat
def rep(c:Nat):Nat->Nat
 | 0=>0
 | n+1=>c+256*rep c n
theorem Q2O(a b p q:Nat)(ha:a<256)(hp:p<256):(a+256*b)&&&(p+256*q)=(a&&&p)+256*(b&&&q):=by
 have h1:a&&&p<2 ^ 8:=J4A _ hp
 apply J4o
 intro j;rw[J4z,J4k a,J4k p,J4k (a&&&p),show(256:Nat)=2 ^ 8 from rfl,J4l _ ha,J4l _ hp,J4l _ h1];split
 ·rw[J4z]
 ·rw[J4z]
def b1(v:Nat):Nat:=(v/2&&&85)+(v&&&85)
def b2(v:Nat):Nat:=(v/4&&&51)+(v&&&51)
def b3(v:Nat):Nat:=(v/16+v)&&&15
def s1(n x:Nat):Nat:=(x/2&&&rep 85 n)+(x&&&rep 85 n)
def s2(n x:Nat):Nat:=(x/4&&&rep 51 n)+(x&&&rep 51 n)
def s3(n x:Nat):Nat:=(x/16+x)&&&rep 15 n
theorem J0w:∀v,v<256->∀b,b<2->((v/2+128*b)&&&85)=v/2&&&85:=by decide +kernel
theorem J0x:∀v,v<256->∀b,b<4->((v/4+64*b)&&&51)=v/4&&&51:=by decide +kernel
theorem J0y:∀v,v<256->∀l,l<5->(b2 (b1 v)/16+16*l+b2 (b1 v))<256/\((b2 (b1 v)/16+16*l+b2 (b1 v))&&&15)=b3 (b2 (b1 v)):=by decide +kernel
theorem b_lt:∀v,v<256->b1 v<256/\b2 (b1 v)<256/\b2 (b1 v)%16<5:=by decide +kernel
theorem J2R:∀v,v<256->b3 (b2 (b1 v))=cnt (fun j=>v.testBit j) 8:=by decide +kernel
theorem Z4m(n v r:Nat)(hv:v<256):s1 (n+1) (v+256*r)=b1 v+256*s1 n r:=by
 unfold s1 b1;have e:(v+256*r)/2=(v/2+128*(r%2))+256*(r/2):=by omega
 simp only[rep];rw[e,Q2O _ _ _ _ (by omega) (by omega),Q2O _ _ _ _ hv (by omega),J0w v hv _ (by omega)];omega
theorem Z4n(n v r:Nat)(hv:v<256):s2 (n+1) (v+256*r)=b2 v+256*s2 n r:=by
 unfold s2 b2;have e:(v+256*r)/4=(v/4+64*(r%4))+256*(r/4):=by omega
 simp only[rep];rw[e,Q2O _ _ _ _ (by omega) (by omega),Q2O _ _ _ _ hv (by omega),J0x v hv _ (by omega)];omega
theorem J0z(n v r:Nat)(hv:v<256)(hr:r%16<5):s3 (n+1) (b2 (b1 v)+256*r)=b3 (b2 (b1 v))+256*s3 n r:=by
 obtain⟨_,h2,_⟩:=b_lt v hv;obtain⟨h3,h4⟩:=J0y v hv (r%16) hr;unfold s3;simp only[rep];rw[show(b2 (b1 v)+256*r)/16+(b2 (b1 v)+256*r)=(b2 (b1 v)/16+16*(r%16)+b2 (b1 v))+256*(r/16+r) from by omega,Q2O _ _ _ _ h3 (by omega),h4]
def swar(n x:Nat):Nat:=s3 n (s2 n (s1 n x))
theorem Z2q:∀n x,s2 n (s1 n x)%16<5
 | 0,x=>by simp[s2,rep]
 | n+1,x=>by
  have e:x=x%256+256*(x/256):=by omega
  have hv:x%256<256:=by omega
  obtain⟨h1,h2,h3⟩:=b_lt _ hv;rw[e,Z4m _ _ _ hv,Z4n _ _ _ h1];omega
theorem Z4o(n v r:Nat)(hv:v<256):swar (n+1) (v+256*r)=b3 (b2 (b1 v))+256*swar n r:=by
 unfold swar;obtain⟨h1,h2,h3⟩:=b_lt v hv;rw[Z4m _ _ _ hv,Z4n _ _ _ h1,J0z _ _ _ hv (Z2q _ _)]
theorem cnt_add(f:Nat->Bool)(a b:Nat):cnt f (a+b)=cnt f a+cnt (fun j=>f (a+j)) b:=by
 induction b with
 | zero=>simp[cnt]
 | succ b ih=>rw[<- J4B];simp only[cnt];rw[ih];omega
theorem Z4p{f g:Nat->Bool}(n:Nat)(h:∀j,j<n->f j=g j):cnt f n=cnt g n:=by
 induction n with
 | zero=>rfl
 | succ n ih=>simp only[cnt];rw[ih (fun j hj=>h j (by omega)),h n (by omega)]
theorem Q3D(f:Nat->Bool)(n:Nat):cnt f n<=n:=by
 induction n with
 | zero=>simp[cnt]
 | succ n ih=>simp only[cnt];have:=J4i (f n);omega
theorem Z4q(f:Nat->Bool)(n:Nat):Q0l f (8+n)=Q0l f 8+256*Q0l (fun j=>f (8+j)) n:=by
 symm
 have h1:=Q0C f 8;have h2:=Q0C (fun j=>f (8+j)) n;refine Q2x ?_ f fun j hj=>?_
 ·rw[J4C];have:(2:Nat) ^ 8=256:=by decide
  rw[this] at h1 ⊢;omega
 ·rw[J4k,show(256:Nat)=2 ^ 8 from rfl,J4l _ h1];split
  ·rw[wordN_bit];simp[*]
  ·rw[wordN_bit];have:j-8<n:=by omega
   simp[this,show 8+(j-8)=j by omega]
theorem Q1z(f:Nat->Bool)(n m:Nat):swar (n+1) (Q0l f (8+m))=cnt f 8+256*swar n (Q0l (fun j=>f (8+j)) m):=by
 have h:=Q0C f 8;rw[Z4q,Z4o _ _ _ h,J2R _ h];congr 1;exact Z4p 8 fun j hj=>by rw[wordN_bit];simp[hj]
theorem Q2y(a r:Nat)(h:a<256):(a+256*r)/256=r:=by omega
theorem Z7L(a r b s:Nat):(a+256*r)+(b+256*s)=(a+b)+256*(r+s):=by omega
theorem Z4r(c0 c1 c2 c3 c4 c5 c6 c7 x4 x5 x6:Nat)(l0:c0<=8)(l1:c1<=8)(l2:c2<=8)(l3:c3<=8)(l4:c4<=8)(l5:c5<=8)(l6:c6<=8)(l7:c7<=8)
  (h4:x4=((c0+256*(c1+256*(c2+256*(c3+256*(c4+256*(c5+256*(c6+256*c7)))))))+(c0+256*(c1+256*(c2+256*(c3+256*(c4+256*(c5+256*(c6+256*c7)))))))/256)%18446744073709551616)
  (h5:x5=(x4+x4/65536)%18446744073709551616) (h6:x6=(x5+x5/4294967296)%18446744073709551616) :
  x6%128=c0+c1+c2+c3+c4+c5+c6+c7:=by
 rw[Q2y _ _ (by omega)] at h4;have k4:x4=(c0+c1)+256*((c1+c2)+256*((c2+c3)+256*((c3+c4)+256*((c4+c5)+256*((c5+c6)+256*((c6+c7)+256*c7)))))):=by
  rw[h4,J4w (by omega)];omega
 clear h4;have q4:x4/65536=(c2+c3)+256*((c3+c4)+256*((c4+c5)+256*((c5+c6)+256*((c6+c7)+256*c7)))):=by
  rw[show(65536:Nat)=256*256 from rfl,<- J4D,k4,Q2y _ _ (by omega),Q2y _ _ (by omega)]
 rw[q4] at h5;clear q4;have k5:x5=(c0+c1+c2+c3)+256*((c1+c2+c3+c4)+256*((c2+c3+c4+c5)+256*((c3+c4+c5+c6)+256*((c4+c5+c6+c7)+256*((c5+c6+c7)+256*((c6+c7)+256*c7)))))):=by
  rw[h5,k4,J4w (by omega)];omega
 clear h5 k4;have q5:x5/4294967296=(c4+c5+c6+c7)+256*((c5+c6+c7)+256*((c6+c7)+256*c7)):=by
  rw[show(4294967296:Nat)=256*256*256*256 from rfl,<- J4D,<- J4D,<- J4D,k5,Q2y _ _ (by omega),Q2y _ _ (by omega),Q2y _ _ (by omega),Q2y _ _ (by omega)]
 rw[q5,k5,Z7L] at h6;clear q5 k5;have m:∀A R:Nat,A<128->(A+256*R)%18446744073709551616%128=A:=by intro A R hA;omega
 rw[h6,m _ _ (by omega)];omega
theorem Z7M(f:Nat->Bool)(x3 x4 x5 x6:Nat)(h3:x3=swar 8 (Q0l f 64))(h4:x4=(x3+x3/256)%18446744073709551616)(h5:x5=(x4+x4/65536)%18446744073709551616)(h6:x6=(x5+x5/4294967296)%18446744073709551616) :
  x6%128=cnt f 64:=by
 have e:Q0l f 64=Q0l f (8+56):=rfl;have z:∀x,swar 0 x=0:=fun x=>by simp[swar,s3,rep]
 rw[e,Q1z f 7 56,show(56:Nat)=8+48 from rfl,Q1z _ 6 48,show(48:Nat)=8+40 from rfl,Q1z _ 5 40,show(40:Nat)=8+32 from rfl,Q1z _ 4 32,show(32:Nat)=8+24 from rfl,Q1z _ 3 24,
  show(24:Nat)=8+16 from rfl,Q1z _ 2 16,show(16:Nat)=8+8 from rfl,Q1z _ 1 8,show(Q0l (fun j=>f (8+(8+(8+(8+(8+(8+(8+j)))))))) 8)=(Q0l (fun j=>f (8+(8+(8+(8+(8+(8+(8+j)))))))) (8+0)) from rfl,Q1z _ 0 0,z,Nat.mul_zero,J3q] at h3
 have hc:cnt f 64=cnt f 8+cnt (fun j=>f (8+j)) 8+cnt (fun j=>f (8+(8+j))) 8+cnt (fun j=>f (8+(8+(8+j)))) 8+cnt (fun j=>f (8+(8+(8+(8+j))))) 8+cnt (fun j=>f (8+(8+(8+(8+(8+j)))))) 8+cnt (fun j=>f (8+(8+(8+(8+(8+(8+j))))))) 8+cnt (fun j=>f (8+(8+(8+(8+(8+(8+(8+j)))))))) 8:=by
  rw[show(64:Nat)=8+56 from rfl,cnt_add,show(56:Nat)=8+48 from rfl,cnt_add,show(48:Nat)=8+40 from rfl,cnt_add,show(40:Nat)=8+32 from rfl,cnt_add,show(32:Nat)=8+24 from rfl,cnt_add,show(24:Nat)=8+16 from rfl,cnt_add,show(16:Nat)=8+8 from rfl,cnt_add];simp only[J4B]
 rw[hc];rw[h3] at h4;exact Z4r _ _ _ _ _ _ _ _ x4 x5 x6 (Q3D _ 8) (Q3D _ 8) (Q3D _ 8) (Q3D _ 8) (Q3D _ 8) (Q3D _ 8) (Q3D _ 8) (Q3D _ 8) h4 h5 h6
open Go.RowKit
theorem Q3y(n:Int):IntKind.u64.wrap n=n%18446744073709551616:=by rw[IntKind.wrap_u64]
theorem Q2c(a b:Nat)(ha:a<2 ^ 64)(hb:b<2 ^ 64):bits BinOp.and IntKind.u64 (a:Int) (b:Int)=((a&&&b:Nat):Int):=by
 have h:(a&&&b)<2 ^ 64:=J4A _ hb;have e:((BitVec.ofInt 64 (a:Int))&&&(BitVec.ofInt 64 (b:Int))).toNat=a&&&b:=by
  rw[BitVec.ofInt_natCast,BitVec.ofInt_natCast,BitVec.toNat_and,BitVec.toNat_ofNat,BitVec.toNat_ofNat,J4w ha,J4w hb]
 unfold bits;show IntKind.u64.wrap (((BitVec.ofInt 64 (a:Int))&&&(BitVec.ofInt 64 (b:Int))).toNat:Int)=_;rw[e,Q3y];omega
theorem Z1i(a b:Nat)(ha:a<2 ^ 64)(hb:b<2 ^ 64):bits BinOp.xor IntKind.u64 (a:Int) (b:Int)=((a ^^^ b:Nat):Int):=by
 have h:(a ^^^ b)<2 ^ 64:=J4s ha hb;have e:((BitVec.ofInt 64 (a:Int)) ^^^ (BitVec.ofInt 64 (b:Int))).toNat=a ^^^ b:=by
  rw[BitVec.ofInt_natCast,BitVec.ofInt_natCast,BitVec.toNat_xor,BitVec.toNat_ofNat,BitVec.toNat_ofNat,J4w ha,J4w hb]
 unfold bits;show IntKind.u64.wrap (((BitVec.ofInt 64 (a:Int)) ^^^ (BitVec.ofInt 64 (b:Int))).toNat:Int)=_;rw[e,Q3y];omega
theorem J0A(a b:Nat)(ha:a<2 ^ 64)(hb:b<2 ^ 64):bits BinOp.or IntKind.u64 (a:Int) (b:Int)=((a|||b:Nat):Int):=by
 have h:(a|||b)<2 ^ 64:=Nat.or_lt_two_pow ha hb;have e:((BitVec.ofInt 64 (a:Int))|||(BitVec.ofInt 64 (b:Int))).toNat=a|||b:=by
  rw[BitVec.ofInt_natCast,BitVec.ofInt_natCast,BitVec.toNat_or,BitVec.toNat_ofNat,BitVec.toNat_ofNat,J4w ha,J4w hb]
 unfold bits;show IntKind.u64.wrap (((BitVec.ofInt 64 (a:Int))|||(BitVec.ofInt 64 (b:Int))).toNat:Int)=_;rw[e,Q3y];omega
theorem Z2r(a b:Nat)(ha:a<2 ^ 63)(hb:b<2 ^ 63):bits BinOp.and IntKind.i64 (a:Int) (b:Int)=((a&&&b:Nat):Int):=by
 have h:(a&&&b)<2 ^ 63:=J4A _ hb;have e:((BitVec.ofInt 64 (a:Int))&&&(BitVec.ofInt 64 (b:Int))).toNat=a&&&b:=by
  rw[BitVec.ofInt_natCast,BitVec.ofInt_natCast,BitVec.toNat_and,BitVec.toNat_ofNat,BitVec.toNat_ofNat,J4w (by omega),J4w (by omega)]
 unfold bits;show IntKind.i64.wrap (((BitVec.ofInt 64 (a:Int))&&&(BitVec.ofInt 64 (b:Int))).toNat:Int)=_;rw[e,IntKind.wrap_i64];omega
def o1(x:Int):Int:=IntKind.u64.wrap (bits BinOp.and IntKind.u64 (x/2) 6148914691236517205+bits BinOp.and IntKind.u64 x 6148914691236517205)
def o2(x:Int):Int:=IntKind.u64.wrap (bits BinOp.and IntKind.u64 (x/4) 3689348814741910323+bits BinOp.and IntKind.u64 x 3689348814741910323)
def o3(x:Int):Int:=bits BinOp.and IntKind.u64 (IntKind.u64.wrap (x/16+x)) 1085102592571150095
def o4(x:Int):Int:=IntKind.u64.wrap (x+x/256)
def o5(x:Int):Int:=IntKind.u64.wrap (x+x/65536)
def o6(x:Int):Int:=IntKind.u64.wrap (x+x/4294967296)
theorem Z4s:rep 85 8=6148914691236517205:=by decide
theorem Z0b:rep 51 8=3689348814741910323:=by decide
theorem J0B:rep 15 8=1085102592571150095:=by decide
theorem J2a(x:Nat)(hx:x<2 ^ 64):o1 x=(s1 8 x:Nat)/\s1 8 x<2 ^ 64:=by
 have h1:(x/2&&&rep 85 8)<=6148914691236517205:=Z4s ▸ J4E;have h2:(x&&&rep 85 8)<=6148914691236517205:=Z4s ▸ J4E;unfold o1 s1;rw[show((x:Int)/2)=((x/2:Nat):Int) from by omega,show(6148914691236517205:Int)=((rep 85 8:Nat):Int) from by rw[Z4s];rfl,Q2c _ _ (by omega) (by rw[Z4s];decide),Q2c _ _ hx (by rw[Z4s];decide),Q3y];omega
theorem J2b(x:Nat)(hx:x<2 ^ 64):o2 x=(s2 8 x:Nat)/\s2 8 x<2 ^ 64:=by
 have h1:(x/4&&&rep 51 8)<=3689348814741910323:=Z0b ▸ J4E;have h2:(x&&&rep 51 8)<=3689348814741910323:=Z0b ▸ J4E;unfold o2 s2;rw[show((x:Int)/4)=((x/4:Nat):Int) from by omega,show(3689348814741910323:Int)=((rep 51 8:Nat):Int) from by rw[Z0b];rfl,Q2c _ _ (by omega) (by rw[Z0b];decide),Q2c _ _ hx (by rw[Z0b];decide),Q3y];omega
theorem J2c(x:Nat)(hx:x<=2*3689348814741910323):o3 x=(s3 8 x:Nat)/\s3 8 x<2 ^ 64:=by
 have h1:((x/16+x)&&&rep 15 8)<=1085102592571150095:=J0B ▸ J4E;unfold o3 s3;rw[show IntKind.u64.wrap ((x:Int)/16+x)=((x/16+x:Nat):Int) from by rw[Q3y];omega,show(1085102592571150095:Int)=((rep 15 8:Nat):Int) from by rw[J0B];rfl,Q2c _ _ (by omega) (by rw[J0B];decide)];omega
theorem J2S(x:Nat):s2 8 x<=2*3689348814741910323:=by
 have h1:(x/4&&&rep 51 8)<=3689348814741910323:=Z0b ▸ J4E;have h2:(x&&&rep 51 8)<=3689348814741910323:=Z0b ▸ J4E;unfold s2;omega
theorem J0C(f:Nat->Bool):o6 (o5 (o4 (o3 (o2 (o1 (Q0l f 64))))))%128=(cnt f 64:Nat)/\0<=o6 (o5 (o4 (o3 (o2 (o1 (Q0l f 64))))))/\o6 (o5 (o4 (o3 (o2 (o1 (Q0l f 64))))))<18446744073709551616:=by
 obtain⟨e1,b1⟩:=J2a _ (Q0C f 64);rw[e1];obtain⟨e2,b2⟩:=J2b _ b1;rw[e2];obtain⟨e3,b3⟩:=J2c _ (J2S (s1 8 (Q0l f 64)));rw[e3];have h:=Z7M f _ _ _ _ rfl rfl rfl rfl;rw[<- h];have e4:o4 ((s3 8 (s2 8 (s1 8 (Q0l f 64))):Nat):Int)=(((swar 8 (Q0l f 64))+(swar 8 (Q0l f 64))/256)%18446744073709551616:Nat):=by
  unfold o4;rw[Q3y];show((swar 8 (Q0l f 64):Nat)+(swar 8 (Q0l f 64):Nat)/256:Int)%_=_;omega
 rw[e4];generalize ((swar 8 (Q0l f 64))+(swar 8 (Q0l f 64))/256)%18446744073709551616=y;have e5:o5 (y:Int)=((y+y/65536)%18446744073709551616:Nat):=by unfold o5;rw[Q3y];omega
 rw[e5];generalize (y+y/65536)%18446744073709551616=z;have e6:o6 (z:Int)=((z+z/4294967296)%18446744073709551616:Nat):=by unfold o6;rw[Q3y];omega
 rw[e6];omega
theorem J2T(y:Int)(h0:0<=y)(h1:y<18446744073709551616):bits BinOp.and IntKind.i64 (wrap64 y) 127=y%128:=by
 obtain⟨n,rfl⟩:=J4F h0;have e:((BitVec.ofInt 64 (wrap64 (n:Int)))&&&(BitVec.ofInt 64 (127:Int))).toNat=n%128:=by
  rw[BitVec.toNat_and,BitVec.toNat_ofInt,show(BitVec.ofInt 64 (127:Int)).toNat=2 ^ 7-1 from by decide,J4G];unfold wrap64;omega
 unfold bits;show IntKind.i64.wrap (((BitVec.ofInt 64 (wrap64 (n:Int)))&&&(BitVec.ofInt 64 (127:Int))).toNat:Int)=_;rw[e,IntKind.wrap_i64];omega
theorem Q6O{w:World}(f:Nat->Bool) :
  Calls prog 188 #[.int .u64 (Q0l f 64)] w fun r w'=>r=.returned (.int .i64 (cnt f 64))/\w=w':=by
 have hx:=Q0C f 64;have HE:=Q0a (J0C f);generalize Q0l f 64=x at hx HE;go_enter func188,ntmps188
 go_wp2
 go_ret;refine⟨?_,rfl⟩;show Ending.returned (.int .i64 (bits BinOp.and IntKind.i64 (wrap64 (o6 (o5 (o4 (o3 (o2 (o1 x))))))) 127))=_;obtain⟨h1,h2,h3⟩:=HE.out;rw[J2T _ h2 h3,h1]
theorem J0D(x m t:Nat)(hx:x<2 ^ 64)(h0:x≠0)(hm:x&&&(18446744073709551616-x)=m)(Pe:m=2 ^ t) :
  IntKind.u64.wrap (bits BinOp.and IntKind.u64 (x:Int) (IntKind.u64.wrap (-(x:Int)))*285870213051353865)/288230376151711744=((dbi t:Nat):Int):=by
 have e1:IntKind.u64.wrap (-(x:Int))=((18446744073709551616-x:Nat):Int):=by rw[Q3y];omega
 rw[e1,Q2c _ _ hx (by omega),hm,Q3y];unfold dbi;rw[<- Pe];omega
theorem Z7N{w:World}(x:Nat)(d:Nat)(t:Nat)(hV:IntKind.u64.wrap (bits BinOp.and IntKind.u64 (x:Int) (IntKind.u64.wrap (-(x:Int)))*285870213051353865)/288230376151711744=(d:Int))(Ac:((x:Int)==0)=false)
  (hd:d<64) (ht:t<64) (hc:w.cell? ⟨1,d,none⟩=some (.int .u8 t)) :
  Calls prog 135 #[.int .u64 x] w fun r w'=>r=.returned (.int .i64 t)/\w=w':=by
 go_enter func135,ntmps135
 go_wp2
 go_ret;exact⟨rfl,rfl⟩
theorem Z1j{w:World}(hT:TabB w)(f:Nat->Bool)(t:Nat)(ht:t<64)(h:f t=true)(hl:∀j,j<t->f j=false) :
  Calls prog 135 #[.int .u64 (Q0l f 64)] w fun r w'=>r=.returned (.int .i64 t)/\w=w':=by
 have Df:Q0l f 64≠0:=by
  intro e;rw[wordN_zero] at e;rw[e t ht] at h;cases h
 have hm:=Z7K f t ht h hl;have hx:=Q0C f 64;generalize Q0l f 64=x at *
 obtain⟨Iw,D6⟩:=J0v t ht;exact Z7N x (dbi t) t (J0D x _ t hx Df hm rfl) (by simp;omega) Iw ht (hT _ _ D6)
end Go.Proofs.YtfidemmgofcnmaaGreatDoor
