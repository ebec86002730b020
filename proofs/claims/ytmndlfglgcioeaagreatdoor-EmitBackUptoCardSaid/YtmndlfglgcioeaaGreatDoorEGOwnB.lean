/- Structs in blocks of the call's own: fields stored, cells read. No program stands in it. -/
import Derived.Deep.MidRow
import Derived.Laws.CopyOwn
import Derived.Test.YtmndlfglgcioeaaGreatDoorEGArr
set_option maxHeartbeats 40000000
namespace Go.Proofs.YtmndlfglgcioeaaGreatDoor
open Go.RowKit
set_option maxRecDepth 10000
def uz:Array Value->Nat->List Value->Array Value
 |cs,_,[]=>cs
 |cs,k,v::r=>uz (cs.setIfInBounds k v) (k+1) r
structure OB (w0:World) (b:Nat) (T:TypeId) (cs:Array Value) (W:World):Prop where
 a:W.heap[b]? = some (.cells cs T (0,0))
 le:w0.heap.size<=b
 bL:Below w0.heap.size w0 W
section
variable {w0 W W2:World} {b:Nat} {T:TypeId} {cs:Array Value}
theorem OB.lt(i:OB w0 b T cs W):b<W.heap.size:=(bQ.1 i.a).1
theorem OB.cell(i:OB w0 b T cs W)(j:Nat):W.cell? ⟨b,j,none⟩=cs[j]?:=by simp[World.cell?,i.a]
theorem OB.aF(i:OB w0 b T cs W){j:Nat}{v:Value}(h:cs[j]? = some v):W.cell? ⟨b,j,none⟩=some v:=(i.cell j).trans h
theorem OB.wy(i:OB w0 b T cs W)(j:Nat):W.frozen? ⟨b,j,none⟩=false:=by simp[World.frozen?,i.a]
theorem OB.new(h:Below w0.heap.size w0 W)(T:TypeId)(cs:Array Value):OB w0 W.heap.size T cs (W.alloc (.cells cs T)):=⟨heap_alloc_new W _,h.size,h.alloc h.size _⟩
theorem OB.fresh(w:World)(T:TypeId)(cs:Array Value):OB w w.heap.size T cs (w.alloc (.cells cs T)):=OB.new (Below.refl _ w) T cs
theorem OB.below(i:OB w0 b T cs W)(h:Below W.heap.size W W2):OB w0 b T cs W2:=⟨(h.block b i.lt).trans i.a,i.le,i.bL.trans (h.mono i.bL.size)⟩
theorem OB.setCell(i:OB w0 b T cs W)(k:Nat)(v:Value):OB w0 b T (cs.setIfInBounds k v) (W.setCell ⟨b,k,none⟩ v):=by
 rw[setCell_eq_setRow W b k cs T (0,0) v i.a];exact⟨setRow_heap W b _ _ _ _ i.a,i.le,below_setRow i.bL i.le _⟩
theorem OB.setCells:∀ (vs:List Value) (k:Nat) {cs:Array Value} {W:World},OB w0 b T cs W->OB w0 b T (uz cs k vs) (W.setCells b k vs)
 | [],_,_,_,i=>i
 |v::r,k,_,_,i=>OB.setCells r (k+1) (i.setCell k v)
theorem OB.there(i:OB w0 b T cs W){o n:Nat}(h:o+n<=cs.size):W.there b o n:=fun j hj=>by
 refine⟨?_,i.wy _⟩;rw[i.cell (o+j),df (by omega)];rfl
theorem OB.load{P:Program}(i:OB w0 b T cs W)(ty:TypeId)(d:TypeDesc)(hu:P.underlying ty=some d)(hd:(match d with | .struct _ | .array _ _=>true|_=>false)=true)(hi:(P.info? ty).map (·.size)=some cs.size):(loadVar ty ⟨b,0,none⟩).run P W=.ok (.agg cs) W :=
 run_loadVar_row (P:=P) W b T ty cs (0,0) d i.a hu hd hi
end
section
variable {P:Program} {ops:Array Oper} {rest:List Oper} {o:Oper} {a:Act} {w:World} {Q:Exit->Act->World->Prop}
theorem oZ(w:World)(b k:Nat)(ty T:TypeId)(cs:Array Value)(v:Value)(hg:w.heap[b]? = some (.cells cs T (0,0)))(hk:k<cs.size)(hi:(P.info? ty).map (·.size)=some 1)(h1:v.oneCell'=true):(storeVar ty ⟨b,k,none⟩ v).run P w=.ok () (w.setCell ⟨b,k,none⟩ v):=by
 have hc:v.cells=#[v]:=by cases v <;>first|rfl|cases h1
 have:=run_storeCells_cells (P:=P) b k [v] 0 w (fun j hj=>by
   obtain rfl:j=0:=by simpa using hj
   simp[World.cell?,hg,hk]) (fun j hj=>by simp[World.frozen?,hg]) (fun x hx=>by simp at hx;subst hx;exact h1)
 cases hq:P.info? ty with
 |none=>simp[hq]at hi
 |some i =>
  have hs:i.size=1:=by simpa[hq]using hi
  simp only[dU,World.setCells]at this;simp[storeVar,sizeOf,typeInfo,hq,hc,hs,this]
theorem oX(hgd:o.guard=none)(ty:TypeId)(x y:Operand)(ho:o.op=.store ty x y)(w0:World)(b:Nat)(T:TypeId)(cs:Array Value)(i:OB w0 b T cs w)(k:Nat)(v:Value)(hx:a.eval x=.pointer (some ⟨b,k,none⟩))(hy:a.eval y=v)
  (hk:k<cs.size) (hi:(P.info? ty).map (·.size)=some 1) (h1:v.oneCell'=true) (cs':Array Value) (hc:cs.setIfInBounds k v=cs')
  (K:∀ w',OB w0 b T cs' w'->w'.heap.size=w.heap.size->(∀j,j≠b->w'.heap[j]? = w.heap[j]?)->wpList P ops Q rest (a.put o.dst undef) w'):wpList P ops Q (o::rest) a w:=by
 refine wpList_plain hgd fun _ hK=>?_;unfold Oper.wp execOp;simp only[ho,hx,hy,Instr.storeAt,Instr.sureAddr,Sem.run_bind,Sem.run_pure,Result.andThen_ok,oZ w b k ty T cs v i.a hk hi h1];refine hK _ _ (K _ (hc▸i.setCell k v) ?_ ?_)
 ·rw[setCell_eq_setRow w b k cs T (0,0) v i.a,setRow_size]
 intro j hj;rw[setCell_eq_setRow w b k cs T (0,0) v i.a,setRow_other w b j _ hj]
theorem Nd(hgd:o.guard=none)(ty:TypeId)(x y:Operand)(ho:o.op=.store ty x y)(w0:World)(b:Nat)(T:TypeId)(cs:Array Value)(i:OB w0 b T cs w)(k:Nat)(vs:List Value)(hx:a.eval x=.pointer (some ⟨b,k,none⟩))(hy:a.eval y=.agg vs.toArray)
  (hk:k+vs.length<=cs.size) (hi:(P.info? ty).map (·.size)=some vs.length) (h1:∀ v∈vs,v.oneCell'=true) (cs':Array Value) (hc:uz cs k vs=cs')
  (K:∀ w',OB w0 b T cs' w'->wpList P ops Q rest (a.put o.dst undef) w'):wpList P ops Q (o::rest) a w:=by
 refine wpList_store_mid hgd ty x y ho b k vs.toArray hx hy (i.there (by simpa using hk)) (by simpa using hi) (all_oneCell_toArray h1) ?_;exact K _ (hc▸i.setCells vs k)
theorem DH(hgd:o.guard=none)(ty:TypeId)(x:Operand)(ho:o.op=.load ty x)(w0:World)(b:Nat)(T:TypeId)(cs:Array Value)(i:OB w0 b T cs w)(d:TypeDesc)(hx:a.eval x=.pointer (some ⟨b,0,none⟩))
  (hu:P.underlying ty=some d) (hd:(match d with | .struct _ | .array _ _=>true|_=>false)=true) (hi:(P.info? ty).map (·.size)=some cs.size)
  (K:wpList P ops Q rest (a.put o.dst (.agg cs)) w):wpList P ops Q (o::rest) a w:=by
 refine lz hgd (.agg cs) ?_ K;have e:=i.load (P:=P) ty d hu hd hi;unfold execOp;simp only[ho,hx,Instr.loadAt,Instr.sureAddr,Sem.run_bind,Sem.run_pure,Result.andThen_ok,e]
end
end Go.Proofs.YtmndlfglgcioeaaGreatDoor
