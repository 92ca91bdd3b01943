/- Contracts of the library. -/
import Derived.Test.YtdifpebphbblaaaGreatDoorProg
import Derived.Lib.Strings
import Derived.Lib.Slices
import Derived.Lib.Walk
import Derived.Lib.Builder
import Derived.Lib.AppendStr
import Derived.Lib.UnsafeStr
import Derived.WalkKit
import Derived.Laws.Externs
import Derived.Laws.IdiomCopy
import Derived.KernelRfl
set_option linter.unusedVariables false
namespace Go.Proofs
open Go.RowKit
theorem Tryz.sizeBuilder:(Tryz.prog.info? 239).map (·.size)=some 2:=by kernel_rfl
theorem Tryz.liesBuilder:liesAt Tryz.prog Tryz.prog.depth 239 (2 / Tryz.prog.cellsOf 239) 0 239 1=true:=by kernel_rfl
set_option maxHeartbeats 1000000 in
set_option maxRecDepth 100000 in
theorem Tryz.check_used (b:Nat) (w:World) (h0:w.cell? ⟨b,0,none⟩=some (.pointer (some ⟨b,0,none⟩))) : Calls Tryz.prog 230 #[.pointer (some ⟨b,0,none⟩)] w fun e w'=>e = .returned (.tuple #[])/\w'=w:=by
 obtain⟨j,hj,_⟩:=Option.map_eq_some_iff.1 Tryz.sizeBuilder
 go_enter Tryz.func230,Tryz.ntmps230
 go_wp2;rw[Lib.run_neq_ptr_same w _ Go.Proofs.Tryz.underlying236 hj]
 go_wp2
 go_end0;exact⟨rfl,rfl⟩
set_option maxHeartbeats 1000000 in
set_option maxRecDepth 100000 in
theorem Tryz.check_fresh (b:Nat) (w:World) (h0:w.cell? ⟨b,0,none⟩=some (.pointer none)) (hsh:w.shape? b=some (239,2)) (hfz:w.frozen? ⟨b,0,none⟩=false) : Calls Tryz.prog 230 #[.pointer (some ⟨b,0,none⟩)] w fun e w'=>e = .returned (.tuple #[])/\w'=w.setCell ⟨b,0,none⟩ (.pointer (some ⟨b,0,none⟩)):=by
 obtain⟨j,hj,hjs⟩:=Option.map_eq_some_iff.1 Tryz.sizeBuilder
 go_enter Tryz.func230,Tryz.ntmps230
 go_wp2;rw[Lib.run_to_unsafe w ⟨b,0,none⟩ Go.Proofs.Tryz.underlying236 Go.Proofs.Tryz.underlying333 hj (by rw[hjs];decide) hsh (Nat.zero_lt_succ 1)];simp only[Result.andThen];rw[Oper.upon_value]
 go_wp2;rw[run_callFunc_extern Tryz.func265 (by kernel_rfl) (by kernel_rfl) (by kernel_rfl) (e:=Extern.AbiNoEscape.same) (by kernel_rfl)];rw[Lib.run_noEscape];simp only[Result.andThen];rw[Oper.upon_value]
 go_wp2;rw[Lib.run_from_unsafe w ⟨b,0,none⟩ Go.Proofs.Tryz.underlying333 Go.Proofs.Tryz.underlying236 hj hsh Tryz.liesBuilder];simp only[Result.andThen];rw[Oper.upon_value]
 go_wp2
 go_end0;exact⟨rfl,rfl⟩
set_option maxHeartbeats 1000000 in
set_option maxRecDepth 100000 in
theorem Tryz.builder_str (b g cap:Nat) {fr:Nat×Nat} (p:Value) (cur:Array Value) (l:List UInt8) (w:World) (h0:l≠[]) (hbk:w.heap[b]? = some (.cells #[p,.slice (some ⟨g,0,none⟩) l.length cap] 239 (0,0))) (hg:w.heap[g]? = some (.cells cur 5 fr)) (hnc:l.length<=cap) (hls:l.length<=cur.size) (hcm:l.length<=9223372036854775807) (hcell:∀(j:Nat) (x:UInt8),l[j]? = some x->cur[j]? = some (Value.int .u8 x.toNat)) : Calls Tryz.prog 179 #[.pointer (some ⟨b,0,none⟩)] w fun e w'=>e = .returned (.string ⟨l.toArray⟩)/\w'=w.drew.freeze ⟨g,0,none⟩ l.length:=by
 have hl0:l.length≠0:=by simpa using h0
 have c1:w.drew.cell? ⟨b,1,none⟩=some (.slice (some ⟨g,0,none⟩) l.length cap):=by have:w.drew.heap[b]? = some (.cells #[p,.slice (some ⟨g,0,none⟩) l.length cap] 239 (0,0)):=hbk;rw[Lib.cell_of_heap this];rfl
 have hg':w.drew.heap[g]? = some (.cells cur 5 fr):=hg;have hSD:(Builtin.unsafeSliceData_ #[237] 303 #[.slice (some ⟨g,0,none⟩) l.length cap]).run Tryz.prog w.drew = .ok (.pointer (some ⟨g,0,none⟩)) w.drew :=
  Lib.run_unsafeSliceData_row _ _ _ _ _ _ (by omega);have hUS:(Builtin.unsafeString_ #[303,3] 9 #[.pointer (some ⟨g,0,none⟩),.int .i64 l.length]).run Tryz.prog w.drew = .ok (.string ⟨l.toArray⟩) (w.drew.freeze ⟨g,0,none⟩ l.length):=by refine Lib.run_unsafeString_row w.drew 303 3 9 5 Go.Proofs.Tryz.underlying303 (by kernel_rfl) g cur.size (by simp[World.shape?,hg']) l h0 hls hcm ?_;intro j x hx;have:=hcell j x hx;have e:(⟨g,0,none⟩:Addr).add j=⟨g,j,none⟩:=(by by_cases h:j=0 <;> simp[Addr.add,h]);rw[e,Lib.cell_of_heap hg'];exact this
 go_enter Tryz.func179,Tryz.ntmps179
 go_wp2
 go_region;all_goals (go_wp2;go_ret;exact⟨rfl,rfl⟩)
set_option maxHeartbeats 1000000 in
set_option maxRecDepth 100000 in
theorem Tryz.builder_str0 (b cap:Nat) (p:Value) (a q:Option Addr) (w w1:World) (hbk:w.heap[b]? = some (.cells #[p,.slice a 0 cap] 239 (0,0))) (hb1:w1.heap[b]? = some (.cells #[p,.slice a 0 cap] 239 (0,0))) (hSD:(Builtin.unsafeSliceData_ #[237] 303 #[.slice a 0 cap]).run Tryz.prog w.drew = .ok (.pointer q) w1) : Calls Tryz.prog 179 #[.pointer (some ⟨b,0,none⟩)] w fun e w'=>e = .returned (.string .empty)/\w'=w1:=by
 have c1:w.drew.cell? ⟨b,1,none⟩=some (.slice a 0 cap):=by have:w.drew.heap[b]? = some (.cells #[p,.slice a 0 cap] 239 (0,0)):=hbk;rw[Lib.cell_of_heap this];rfl
 have c2:w1.cell? ⟨b,1,none⟩=some (.slice a 0 cap):=by rw[Lib.cell_of_heap hb1];rfl
 have hUS:(Builtin.unsafeString_ #[303,3] 9 #[.pointer q,.int .i64 0]).run Tryz.prog w1 = .ok (.string .empty) w1:=Lib.run_unsafeString_none w1 303 3 9 q
 go_enter Tryz.func179,Tryz.ntmps179
 go_wp2
 go_region;all_goals (go_wp2;go_ret;exact⟨rfl,rfl⟩)
end Go.Proofs
