/- Operations on whole arrays, told by their values: where the walk's own reckoning is too dear. No program stands in it. -/
import Derived.Laws.Tables
import Derived.Test.YtmndlfglgcioeaaGreatDoorEGBase
set_option maxHeartbeats 40000000
namespace Go.Proofs.YtmndlfglgcioeaaGreatDoor
open Go.RowKit
set_option maxRecDepth 10000
section
variable {P:Program} {ops:Array Oper} {rest:List Oper} {o:Oper} {a:Act} {w:World} {Q:Exit->Act->World->Prop}
theorem lz(hg:o.guard=none)(v:Value)(hr:(execOp a.eval o).run P w=.ok (.value v) w)(h:wpList P ops Q rest (a.put o.dst v) w):wpList P ops Q (o::rest) a w:=by
 refine wpList_plain hg fun K hK=>?_;unfold Oper.wp;rw[hr];exact hK _ _ h
theorem jw(hg:o.guard=none)(t:TypeId)(parts:Array (Nat×Operand))(ho:o.op=.build t parts)(v:Value)(xs:Array (Nat×Value))(hx:parts.map (fun(i,x)=>(i,a.eval x))=xs)(hr:∀ w,(Instr.build t xs).run P w=.ok v w)(h:wpList P ops Q rest (a.put o.dst v) w):wpList P ops Q (o::rest) a w:=by
 refine lz hg v ?_ h;subst hx;unfold execOp;simp only[ho,Sem.run_bind,Sem.run_pure,Result.andThen_ok,hr]
theorem cO(hg:o.guard=none)(t:TypeId)(x i:Operand)(ho:o.op=.index t x i)(v:Value)(X I:Value)(hX:a.eval x=X)(hI:a.eval i=I)(hr:∀ w,(Instr.index t X I).run P w=.ok v w)(h:wpList P ops Q rest (a.put o.dst v) w):wpList P ops Q (o::rest) a w:=by
 refine lz hg v ?_ h;subst hX;subst hI;unfold execOp;simp only[ho,Sem.run_bind,Sem.run_pure,Result.andThen_ok,hr]
theorem aS(hg:o.guard=none)(t:TypeId)(ho:o.op=.alloc t)(v:Value)(w':World)(hr:(Instr.alloc t true (.tuple #[])).run P w=.ok v w')(h:wpList P ops Q rest (a.put o.dst v) w'):wpList P ops Q (o::rest) a w:=by
 refine wpList_plain hg fun K hK=>?_;unfold Oper.wp execOp;simp only[ho,Sem.run_bind,Sem.run_pure,Result.andThen_ok,hr];exact hK _ _ h
theorem gD(hgd:o.guard=none)(ty:TypeId)(x y:Operand)(ho:o.op=.store ty x y)(cells old:Array Value)(t:TypeId)(hx:a.eval x=.pointer (some ⟨w.heap.size,0,none⟩))(hy:a.eval y=.agg cells)
  (hi:(P.info? ty).map (·.size)=some cells.size) (hold:old.size=cells.size) (h1:cells.all (·.oneCell')=true)
  (h:wpList P ops Q rest (a.put o.dst undef) (w.alloc (.cells cells t))):wpList P ops Q (o::rest) a (w.alloc (.cells old t)):=by
 refine wpList_store_row hgd ty x y ho w.heap.size cells hx hy t old (heap_alloc_new w _) hi hold h1 ?_
 have e:(w.alloc (.cells old t)).setRow w.heap.size cells=w.alloc (.cells cells t):=by
  have hm:∀ (a:Array Obj) (x:Obj) (f:Obj->Obj),(a.push x).modify a.size f=a.push (f x):=by
   intro a x f
   apply Array.ext
   ·simp
   intro i h1 h2;simp only[Array.getElem_modify,Array.getElem_push];by_cases h:a.size=i
   ·subst h;simp
   have hi:i<a.size:=by simp at h1;omega
   simp[h,hi]
  unfold World.setRow;show({w.alloc (.cells old t)with heap:=(w.heap.push (.cells old t)).modify w.heap.size _}:World)=_;rw[hm];rfl
 rw[e];exact h
theorem wY(hgd:o.guard=none)(ty:TypeId)(x:Operand)(ho:o.op=.load ty x)(cells:Array Value)(t:TypeId)(hx:a.eval x=.pointer (some ⟨w.heap.size,0,none⟩))(d:TypeDesc)
  (hu:P.underlying ty=some d) (hd:(match d with | .struct _ | .array _ _=>true|_=>false)=true) (hi:(P.info? ty).map (·.size)=some cells.size)
  (h:wpList P ops Q rest (a.put o.dst (.agg cells)) (w.alloc (.cells cells t))):wpList P ops Q (o::rest) a (w.alloc (.cells cells t)):=by
 refine lz hgd (.agg cells) ?_ h;have e:=run_loadVar_row (P:=P) (w.alloc (.cells cells t)) w.heap.size t ty cells (0,0) d (heap_alloc_new w _) hu hd hi;unfold execOp;simp only[ho,hx,Instr.loadAt,Instr.sureAddr,Sem.run_bind,Sem.run_pure,Result.andThen_ok,e]
end
end Go.Proofs.YtmndlfglgcioeaaGreatDoor
