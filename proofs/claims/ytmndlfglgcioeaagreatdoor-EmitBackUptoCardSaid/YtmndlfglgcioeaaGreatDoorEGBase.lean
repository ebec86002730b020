/- Words that all the walks of this seat share: bytes as lists, slices that read as lists, what has turned and what has not. No program stands in it. -/
import Derived.WalkKit
import Derived.WalkSpells
import Derived.WalkLawsBesides
import Derived.Laws.IdiomStrings
import Derived.Lib.AppendStr
import Derived.Lib.UnsafeStr
import Derived.Lib.Hide
import Derived.Deep.DeepMust
import Derived.Laws.BytesArg
set_option maxHeartbeats 40000000
namespace Go.Proofs.YtmndlfglgcioeaaGreatDoor
open Go.RowKit
abbrev a1U:=@Array.getElem?_append_left
abbrev df:=@Array.getElem?_eq_getElem
abbrev dm:=@Array.getElem?_eq_none
abbrev bQ:=@Array.getElem?_eq_some_iff
abbrev b1S:=@Array.getElem?_modify
abbrev jH:=@Array.getElem?_toList
abbrev fJ:=@Array.length_toList
abbrev N7:=@Array.size_append
abbrev jZ:=@Array.toArray_toList
abbrev pZ:=@Array.toList_append
abbrev bD:=@Bool.and_eq_true
abbrev jq:=@Bool.and_true
abbrev N9:=@Bool.eq_false_iff
abbrev cK:=@Bool.eq_iff_iff
abbrev fd:=@Bool.false_eq_true
abbrev jI:=@Bool.not_eq_true'
abbrev gN:=@Bool.or_eq_false_iff
abbrev fF:=@Bool.or_eq_true
abbrev kU:=@Bool.true_and
abbrev b4l:=@Int.add_mul
abbrev b2X:=@Int.ediv_le_of_le_mul
abbrev nP:=@Int.ediv_le_self
abbrev du:=@Int.ediv_nonneg
abbrev lD:=@Int.emod_lt_of_pos
abbrev pq:=@Int.emod_nonneg
abbrev lG:=@Int.le_refl
abbrev qi:=@Int.mul_comm
abbrev Va:=@Int.mul_le_mul_of_nonneg_left
abbrev fh:=@Int.mul_le_mul_of_nonneg_right
abbrev eD:=@Int.mul_nonneg
abbrev b4m:=@Int.mul_sub
abbrev ml:=@Int.pow_succ
abbrev a2d:=@Int.tdiv_eq_ediv_of_nonneg
abbrev eE:=@Int.tmod_eq_emod_of_nonneg
abbrev eF:=@Int.toNat_natCast
abbrev X9:=@List.all_append
abbrev tG:=@List.all_cons
abbrev Oh:=@List.all_eq_false
abbrev bo:=@List.all_eq_true
abbrev Oi:=@List.any_eq_false
abbrev kr:=@List.any_eq_true
abbrev aT:=@List.append_assoc
abbrev mm:=@List.append_eq_nil_iff
abbrev aG:=@List.append_nil
abbrev a6A:=@List.cons.inj
abbrev bd:=@List.cons_append
abbrev yH:=@List.count_cons_of_ne
abbrev b4n:=@List.count_cons_self
abbrev fG:=@List.dropLast_concat_getLast
abbrev m8:=@List.dropLast_eq_take
abbrev ot:=@List.dropLast_subset
abbrev pr:=@List.dropWhile_append_of_pos
abbrev bn:=@List.dropWhile_cons_of_neg
abbrev aU:=@List.dropWhile_cons_of_pos
abbrev cD:=@List.dropWhile_suffix
abbrev rh:=@List.drop_drop
abbrev aq:=@List.drop_eq_getElem_cons
abbrev bB:=@List.drop_eq_nil_of_le
abbrev mn:=@List.drop_left
abbrev yt:=@List.drop_left'
abbrev dJ:=@List.drop_length
abbrev dK:=@List.drop_of_length_le
abbrev Fo:=@List.drop_succ_cons
abbrev cU:=@List.drop_zero
abbrev ak:=@List.eq_nil_of_length_eq_zero
abbrev fX:=@List.filter_append
abbrev bj:=@List.filter_cons_of_neg
abbrev bk:=@List.filter_cons_of_pos
abbrev Fp:=@List.filter_eq_self
abbrev px:=@List.filter_nil
abbrev cQ:=@List.flatMap_append
abbrev ch:=@List.flatMap_cons
abbrev uQ:=@List.flatMap_nil
abbrev eH:=@List.getD_eq_getElem?_getD
abbrev cH:=@List.getElem?_append_left
abbrev cu:=@List.getElem?_append_right
abbrev cC:=@List.getElem?_cons_succ
abbrev d8:=@List.getElem?_cons_zero
abbrev fY:=@List.getElem?_drop
abbrev aJ:=@List.getElem?_eq_getElem
abbrev eY:=@List.getElem?_eq_none
abbrev bf:=@List.getElem?_eq_some_iff
abbrev eI:=@List.getElem?_map
abbrev lE:=@List.getElem?_take
abbrev bT:=@List.getElem?_toArray
abbrev a3k:=@List.getElem_append_right
abbrev b0Q:=@List.getElem_cons_succ
abbrev jc:=@List.getElem_cons_zero
abbrev sA:=@List.getElem_drop
abbrev cR:=@List.getElem_map
abbrev bw:=@List.getElem_mem
abbrev dz:=@List.getElem_of_mem
abbrev Oj:=@List.getElem_take
abbrev fq:=@List.getLast?_append
abbrev j5:=@List.getLast?_concat
abbrev Vc:=@List.getLast?_eq_some_getLast
abbrev a3l:=@List.getLast?_eq_some_iff
abbrev a8x:=@List.getLast?_singleton
abbrev k9:=@List.head?_cons
abbrev b0R:=@List.head?_eq_getElem?
abbrev dD:=@List.isPrefixOf_iff_prefix
abbrev a2e:=@List.isSuffixOf_iff_suffix
abbrev ae:=@List.length_append
abbrev ag:=@List.length_cons
abbrev ah:=@List.length_drop
abbrev gO:=@List.length_dropLast
abbrev d9:=@List.length_eq_zero_iff
abbrev Ok:=@List.length_filter_eq_length_iff
abbrev eZ:=@List.length_filter_le
abbrev am:=@List.length_map
abbrev aN:=@List.length_nil
abbrev kD:=@List.length_pos_iff
abbrev iC:=@List.length_reverse
abbrev e7:=@List.length_singleton
abbrev aE:=@List.length_take
abbrev py:=@List.map_append
abbrev eN:=@List.map_congr_left
abbrev dw:=@List.map_cons
abbrev gP:=@List.map_map
abbrev yl:=@List.map_nil
abbrev a6B:=@List.map_take
abbrev nQ:=@List.map_toArray
abbrev au:=@List.mem_append
abbrev b4o:=@List.mem_append_left
abbrev b2Z:=@List.mem_append_right
abbrev aj:=@List.mem_cons
abbrev be:=@List.mem_cons_of_mem
abbrev bM:=@List.mem_cons_self
abbrev yu:=@List.mem_filter
abbrev cT:=@List.mem_flatMap
abbrev cm:=@List.mem_map
abbrev Ce:=@List.mem_of_getLast?
abbrev Cf:=@List.mem_of_mem_take
abbrev bE:=@List.mem_singleton
abbrev bJ:=@List.nil_append
abbrev bl:=@List.not_mem_nil
abbrev iD:=@List.reverse_append
abbrev b4p:=@List.reverse_reverse
abbrev b20:=@List.set_append_right
abbrev yI:=@List.singleton_append
abbrev eJ:=@List.size_toArray
abbrev eT:=@List.takeWhile_append_dropWhile
abbrev pz:=@List.takeWhile_append_of_pos
abbrev aX:=@List.takeWhile_cons_of_neg
abbrev aY:=@List.takeWhile_cons_of_pos
abbrev yJ:=@List.takeWhile_prefix
abbrev cX:=@List.take_append_drop
abbrev jo:=@List.take_left'
abbrev dx:=@List.take_length
abbrev aP:=@List.take_of_length_le
abbrev cY:=@List.take_succ_cons
abbrev aI:=@List.take_succ_eq_append_getElem
abbrev fZ:=@List.take_zero
abbrev tH:=@Nat.add_assoc
abbrev dU:=@Nat.add_zero
abbrev bR:=@Nat.le_of_eq
abbrev ym:=@Nat.le_of_lt
abbrev af:=@Nat.le_refl
abbrev gQ:=@Nat.le_succ
abbrev sB:=@Nat.le_succ_of_le
abbrev ap:=@Nat.le_trans
abbrev aQ:=@Nat.lt_of_lt_of_le
abbrev cZ:=@Nat.lt_or_ge
abbrev sC:=@Nat.lt_succ_of_lt
abbrev bO:=@Nat.lt_succ_self
abbrev yv:=@Nat.min_eq_left
abbrev Ui:=@Nat.mod_eq_of_lt
abbrev p6:=@Nat.mul_le_mul_left
abbrev cV:=@Nat.ne_of_lt
abbrev cg:=@Nat.not_lt_zero
abbrev Jb:=@Nat.pos_of_ne_zero
abbrev b0S:=@Nat.pow_succ
abbrev gR:=@Nat.sub_self
abbrev qj:=@Nat.sub_zero
abbrev b0T:=@Nat.succ_pos
abbrev bC:=@Nat.zero_add
abbrev aK:=@Nat.zero_le
abbrev dy:=@Option.getD_some
abbrev tI:=@Option.isSome_iff_exists
abbrev dp:=@Option.map_eq_some_iff
abbrev j6:=@Option.map_map
abbrev yw:=@Option.map_some
abbrev a2f:=@Option.none_or
abbrev bp:=@Option.some.inj
abbrev dA:=@Option.some.injEq
abbrev Cg:=@Option.some_or
abbrev a6D:=@Prod.mk.injEq
abbrev cM:=@UInt8.ofNat_toNat
abbrev fH:=@UInt8.toNat_inj
abbrev ga:=@UInt8.toNat_ofNat'
set_option maxRecDepth 10000
abbrev Bytes:=List UInt8
def ls(s:ByteArray):Bytes:=s.data.toList
def bs(l:Bytes):ByteArray:=⟨l.toArray⟩
@[simp] theorem dR(l:Bytes):ls (bs l)=l:=by simp [ls,bs]
@[simp] theorem ql(s:ByteArray):bs (ls s)=s:=by simp [ls,bs]
@[simp] theorem fx(s:ByteArray):(ls s).length=s.size:=by unfold ls;rw [fJ];rfl
@[simp] theorem aM(l:Bytes):(bs l).size=l.length:=by rw [<- fx,dR]
theorem Sm{s t:ByteArray}(h:ls s=ls t):s=t:=by rw[<-ql s,h,ql]
abbrev S(l:Bytes):Value:=.string (bs l)
theorem jC{k:IntKind}{a b:Int}(h:a=b):Ending.returned (.int k a)=.returned (.int k b):=by rw[h]
theorem dX{a b:Bool}(h:a=b):Ending.returned (.bool a)=.returned (.bool b):=by rw[h]
theorem By{a:ByteArray}{b:Bytes}(h:ls a=b):Ending.returned (.string a)=.returned (S b):=by rw[<-h];simp[S]
theorem W4{k1 k2 k3:IntKind}{a1 a2 a3:Int}{t:Int×Int×Int}(h:t=(a1,a2,a3)) :
  Ending.returned (.tuple #[.int k1 a1,.int k2 a2,.int k3 a3])=.returned (.tuple #[.int k1 t.1,.int k2 t.2.1,.int k3 t.2.2]):=by subst h;rfl
def At(w:World)(b o:Nat)(xs:List Value):Prop:=∀ j (h:j<xs.length),w.cell? ⟨b,o+j,none⟩=some xs[j]
def Sl(B:Nat)(w:World)(v:Value)(xs:List Value):Prop :=
 ∃c,xs.length<=c∧c<=maxLen∧((xs=[]∧∃ a,v=.slice a 0 c)∨∃ b o,b<B∧v=.slice (some ⟨b,o,none⟩) xs.length c∧At w b o xs)
theorem At.keep{w w':World}{b o:Nat}{xs:List Value}(h:At w b o xs)(hk:w'.heap[b]? = w.heap[b]?):At w' b o xs :=
 fun j hj=>(World.cell?_of_block (w:=w) (a:=⟨b,o+j,none⟩) hk).trans (h j hj)
theorem Sl.keep{B:Nat}{w w':World}{v:Value}{xs:List Value}(h:Sl B w v xs)(hk:∀ b,b<B->w'.heap[b]? = w.heap[b]?):Sl B w' v xs:=by
 obtain⟨c,h1,h2,h3⟩:=h;refine⟨c,h1,h2,?_⟩;rcases h3 with h3|⟨b,o,hb,hv,ha⟩
 ·exact .inl h3
 exact .inr ⟨b,o,hb,hv,ha.keep (hk b hb)⟩
theorem Sl.below{B:Nat}{w w':World}{v:Value}{xs:List Value}(h:Sl B w v xs)(hb:Below B w w'):Sl B w' v xs:=h.keep fun b h=>hb.block b h
theorem Sl.more{B B':Nat}{w:World}{v:Value}{xs:List Value}(h:Sl B w v xs)(hB:B<=B'):Sl B' w v xs:=by
 obtain⟨c,h1,h2,h3⟩:=h;refine⟨c,h1,h2,?_⟩;rcases h3 with h3|⟨b,o,hb,hv,ha⟩
 ·exact .inl h3
 exact .inr ⟨b,o,by omega,hv,ha⟩
theorem Sl.nil{B:Nat}{w:World}:Sl B w (.slice none 0 0) []:=⟨0,by simp,by simp,.inl ⟨rfl,_,rfl⟩⟩
theorem addr_add(b o j:Nat):(⟨b,o,none⟩:Addr).add j=⟨b,o+j,none⟩:=by
 unfold Addr.add
 split
 ·next h=>subst h;rfl
 rfl
theorem Sl.dM{w:World}{base e n:Nat}{v:Value}{xs:List Value}(h:w.ownsRow base e 1 v n xs):Sl w.heap.size w v xs:=by
 have hl:=h.1;rcases h.2 with⟨rfl,rfl⟩|⟨g,cap,cur,rfl,hg,hb,hn,hm,hsz,htk⟩
 ·have:xs=[]:=ak (by omega)
  subst this;exact Sl.nil
 refine⟨cap,by omega,hm,.inr ⟨g,0,?_,by rw[hl];simp,fun j hj=>?_⟩⟩
 ·rcases cZ g w.heap.size with hlt|hge
  ·exact hlt
  rw[dm hge]at hb;cases hb
 have:=h.cells (g:=g) rfl j xs[j] (by simp);rw[addr_add]at this;exact this
theorem ei{B:Nat}{a w:World}(h:Below B a w)(n:Nat):Below B a (w.drewN n):=⟨h.os,h.tape,h.output,h.size,h.block⟩
def G6:Value->Nat | .slice _ n _=>n | .string s=>s.size|_=>0
theorem LD(w:World)(s:ByteArray)(c:Nat)(t:TypeId)(fr:Nat×Nat) :
  At (w.alloc (.cells (bytesRow s c) t fr)).drew w.heap.size 0 (Lib.byteCells (ls s))∧Below w.heap.size w (w.alloc (.cells (bytesRow s c) t fr)).drew∧(w.alloc (.cells (bytesRow s c) t fr)).drew.heap.size=w.heap.size+1:=by
 refine⟨fun j hj=>?_,((Below.refl _ _).alloc (af _) _).drew,by simp⟩;rw[World.cell?_drew,bC,World.cell?_alloc_mark];have hj':j<(ls s).length:=by simpa[Lib.byteCells]using hj
 have hj2:j<s.data.size:=by rw[fx]at hj';exact hj'
 simp only[Lib.byteCells,ls,cR,Array.getElem_toList];unfold bytesRow;rw[a1U (by simpa using hj2),Array.getElem?_map,df hj2];rfl
theorem xK{P:Program}{t e:TypeId}{i:TypeInfo}(ht:P.underlying t=some (.slice e))(hi:P.info? e=some i)(hsize:i.size=1)(b o n c:Nat)(k:Nat)(hk:k<=n)(hc:n<=c) :
  ∃o',(k<c->o'=o+k)∧∀ W:World,(Instr.sliceAt t (.slice (some ⟨b,o,none⟩) n c) (some (.int .i64 (k:Int))) none none).run P W=.ok (.slice (some ⟨b,o',none⟩) (n-k) (c-k)) W:=by
 have he:P.elem t=e:=by simp[Program.elem,ht]
 have ht':P.underlying t=some (.slice (P.elem t)):=by rw[he];exact ht
 by_cases hcn:c=k
 ·refine⟨o,by omega,fun W=>?_⟩
  rw[run_sliceAt_slice W t _ _ _ _ ht',run_slice_l W t _ _ _ ht' .i64 k (by omega) (by omega)];simp[sizeOf,typeInfo,he,hi,hsize,sliced,hcn]
 refine⟨o+k,fun _=>rfl,fun W=>?_⟩;rw[run_sliceAt_slice W t _ _ _ _ ht',run_slice_l W t _ _ _ ht' .i64 k (by omega) (by omega)];simp[sizeOf,typeInfo,he,hi,hsize,sliced,hcn,addr_add]
theorem lw{P:Program}{t e:TypeId}{i:TypeInfo}(ht:P.underlying t=some (.slice e))(hi:P.info? e=some i)(b o n c:Nat)(k:Nat)(hk:k<=c)(W:World) :
  (Instr.sliceAt t (.slice (some ⟨b,o,none⟩) n c) none (some (.int .i64 (k:Int))) none).run P W=.ok (.slice (some ⟨b,o,none⟩) k c) W:=by
 have he:P.elem t=e:=by simp[Program.elem,ht]
 have ht':P.underlying t=some (.slice (P.elem t)):=by rw[he];exact ht
 rw[run_sliceAt_slice W t _ _ _ _ ht',run_slice_h W t _ _ _ ht' .i64 k (by omega) (by omega)];have e0:(⟨b,o,none⟩:Addr).add 0=⟨b,o,none⟩:=rfl;simp[sizeOf,typeInfo,he,hi,sliced,e0]
theorem own_below{w w':World}{base e size n:Nat}{v:Value}{xs:List Value}(h:w.ownsRow base e size v n xs)(hb:Below w.heap.size w w'):w'.ownsRow base e size v n xs :=
 h.kept (row:=none) ⟨hb.os,hb.tape,hb.output,hb.size,fun k hk _=>hb.block k hk⟩ (by cases hv:v.ownBlock <;>simp)
theorem eO{P:Program}{ops:Array Oper}{rest:List Oper}{o:Oper}{a:Act}{Q:Exit->Act->World->Prop}(hgd:o.guard=none)(s x:Operand)(t:TypeId)
  (ho:o.op=.call {callee:=.builtin .append,args:=#[s,x],argTypes:=#[t,t]})
  (base:Nat) (e:TypeId) (i:TypeInfo) (z:Value) (bytes:Nat) (ht:P.underlying t=some (.slice e)) (hi:P.info? e=some i) (hz:i.zero=some z)
  (hsize:i.size=1) (hby:i.bytes=bytes) (hzs:z.cells.size=1) (w:World)
  (v:Value) (n:Nat) (xs:List Value) (hs:a.eval s=v) (hown:w.ownsRow base e 1 v n xs) (u:Value) (hx:a.eval x=.slice (some ⟨w.heap.size,0,none⟩) 1 1) (h1:u.oneCell'=true)
  (h63:n+1<=1099511627776) (hbytes:bytes<=64) (hbase:base<=w.heap.size)
  (h:∀ v' w',w'.ownsRow base e 1 v' (n+1) (xs++[u])->w.heap.size<w'.heap.size->Below base w w'->wpList P ops Q rest (a.put o.dst v') w') :
  wpList P ops Q (o::rest) a (w.alloc (.cells #[u] e)):=by
 refine wpList_append_own _ hgd s x t ho base e i z 1 bytes ht hi hz hsize hby hzs (by decide) v n xs hs (hown.alloc _) ⟨w.heap.size,0,none⟩ 1 1 [u] hx rfl ?_ ?_ ?_ ?_ ?_ ?_
 ·intro j u' hj
  match j,hj with
  |0,hj=>simp at hj;subst hj;simp[Addr.add]
 ·intro u' hu;simp at hu;subst hu;exact h1
 ·unfold maxLen;omega
 ·have:(n+1)*bytes<=(n+1)*64:=p6 _ hbytes
  omega
 ·simp;omega
 intro v' w' ho' hg _;refine h v' w' ho' ?_ (((Below.refl _ _).alloc hbase _).grown hg (by simp;omega) (fun k hk=>(hown.lt k hk).1));have:=hg.size;simp at this;omega
def gU(w:World)(e:TypeId)(xs:List Value):Ending->World->Prop:=fun en w'=>∃ v,en=.returned v∧w'.ownsRow w.heap.size e 1 v xs.length xs∧Below w.heap.size w w'
theorem gU.mk{w w':World}{e:TypeId}{xs:List Value}{v:Value}{n:Nat}{base:Nat}(h:w'.ownsRow base e 1 v n xs)(hb:w.heap.size<=base)(hbel:Below w.heap.size w w'):gU w e xs (.returned v) w':=by
 refine⟨v,rfl,?_,hbel⟩;have h1:=h.1;have:n=xs.length:=by omega
 subst this;refine⟨h1,?_⟩;rcases h.2 with h2|⟨g,cap,cur,a1,a2,a3⟩
 ·exact .inl h2
 exact .inr ⟨g,cap,cur,a1,by omega,a3⟩
theorem ki{P:Program}{src dst e:TypeId}(hs:P.underlying src=some (.slice e))(he:P.underlying e=some (.int .u8))(hd:P.underlying dst=some .string)
  {w:World} {base e' n:Nat} {v:Value} {l:Bytes} (h:w.ownsRow base e' 1 v n (Lib.byteCells l)):(convert src dst v).run P w=.ok (.string (bs l)) w:=by
 have hl:=h.1;rw[Lib.byteCells_length]at hl;rcases h.2 with⟨rfl,rfl⟩|⟨g,cap,cur,rfl,hg,hb,hn,hm,hsz,htk⟩
 ·obtain rfl:l=[]:=ak (by omega)
  exact run_convert_bytes_nil w src e hs he _ _ dst hd
 have:=run_convert_bytes_back (P:=P) w src dst e ⟨g,0,none⟩ cap l hs he hd (fun j hj=>by
  have:=h.cells (g:=g) rfl j (.int .u8 l[j].toNat) (by simp[Lib.byteCells,hj]);exact this)
 rw[show n=l.length by omega];exact this
theorem NN(a:ByteArray):a.toList=ls a:=ByteArray.toList_eq a
theorem ay(a:Bytes):(bs a).toList=a:=by rw[NN,dR]
theorem qK{a b:Bytes}:(a==b)=decide (a=b):=by
 by_cases h:a=b <;>simp[h]
theorem a5L{P:Program}{ops:Array Oper}{rest:List Oper}{o:Oper}{a:Act}{Q:Exit->Act->World->Prop}(hgd:o.guard=none)(sl x:Operand)(t u:TypeId)
  (ho:o.op=.call {callee:=.builtin .append,args:=#[sl,x],argTypes:=#[t,u]})
  (base:Nat) (e:TypeId) (i:TypeInfo) (ht:P.underlying t=some (.slice e)) (hu:P.underlying u=some .string) (hi:P.info? e=some i) (hz:i.zero=some (.int .u8 0))
  (hsize:i.size=1) (hby:i.bytes=1) (w:World)
  (v:Value) (n:Nat) (l:Bytes) (hs:a.eval sl=v) (hown:w.ownsRow base e 1 v n (Lib.byteCells l)) (m:Bytes) (hx:a.eval x=.string (bs m))
  (h63:n+m.length<=1099511627776) (hbase:base<=w.heap.size)
  (h:∀ v' w',w'.ownsRow base e 1 v' (n+m.length) (Lib.byteCells (l++m))->w.heap.size<=w'.heap.size->Below base w w'->wpList P ops Q rest (a.put o.dst v') w'):wpList P ops Q (o::rest) a w:=by
 refine Lib.wpList_append_own_string _ hgd sl x t u ho base e i ht hu hi hz hsize hby v n _ hs hown (bs m) hx ?_ ?_ hbase ?_
 ·rw[aM];unfold maxLen;omega
 ·rw[aM];omega
 intro v' w' ho' hg _;refine h v' w' ?_ hg.size ((Below.refl _ _).grown hg hbase (fun k hk=>(hown.lt k hk).1));rw[aM]at ho';have:Lib.byteCells l++Lib.strCells (bs m)=Lib.byteCells (l++m):=by simp[Lib.byteCells,Lib.strCells,bs]
 rwa [this]at ho'
def Vd(w:World)(l:Bytes):Ending->World->Prop:=fun en w'=>en=.returned (S l)∧Below w.heap.size w w'
theorem m9{P:Program}{ops:Array Oper}{rest:List Oper}{o:Oper}{a:Act}{Q:Exit->Act->World->Prop}{w:World}(hgd:o.guard=none)(sl x:Operand)(t u:TypeId)
  (ho:o.op=.call {callee:=.builtin .append,args:=#[sl,x],argTypes:=#[t,u]}) (v xv v':Value) (w':World) (hs:a.eval sl=v) (hx:a.eval x=xv)
  (hr:(Builtin.append_ #[t,u] o.type #[v,xv]).run P w=.ok v' w') (h:wpList P ops Q rest (a.put o.dst v') w'):wpList P ops Q (o::rest) a w:=by
 refine wpList_plain hgd fun K hK=>?_;unfold Oper.wp execOp;simp only[ho,resolve,invoke,builtin,Sem.run_bind,Sem.run_pure,Result.andThen_ok,nQ,dw,yl,hs,hx,hr];exact hK _ _ h
theorem bz(a:World):Below a.heap.size a a:=Below.refl _ _
theorem bH{a w:World}(h:Below a.heap.size a w):Below a.heap.size a w.drew:=h.drew
theorem rA{a w:World}{n:Nat}(h:Below a.heap.size a w):Below a.heap.size a (w.drewN n):=ei h n
def b2(x:UInt8):Int:=x.toNat
theorem jr(x:UInt8):0<=b2 x∧b2 x<256:=by have:=x.toNat_lt;unfold b2;omega
abbrev ed(l:List Int):List Value:=l.map (Value.int .i64)
theorem cE{l:List Value}{i:Nat}{a:Value}:l.toArray.setIfInBounds i a=(l.set i a).toArray:=by simp
theorem cF{x:Value}{l:List Value}{a:Value}:(x::l).set 0 a=a::l:=rfl
theorem cG{x:Value}{l:List Value}{i:Nat}{a:Value}:(x::l).set (i+1) a=x::l.set i a:=rfl
theorem h_{p:Prop}(h:p):RowKit.Hid p:=Lib.hid h
theorem az{α:Sort _}(a:α):∃ x,x=a:=⟨a,rfl⟩
abbrev bN (P : Program) (f : FuncId) (a : Array Value) (w : World) (v : Value) : Prop := Calls P f a w fun e w'=>e=.returned v∧Below w.heap.size w w'
abbrev bV (P : Program) (f : FuncId) (a : Array Value) (w : World) (v : Value) : Prop := Calls P f a w fun e w'=>e=.returned v∧w'=w
abbrev iz (P : Program) (f : FuncId) (a : Array Value) (w : World) (v : Value) : Prop := Calls P f a w fun e w'=>e=.returned v∧w=w'
theorem b34 {P:Program} {f:FuncId} {a:Array Value} {w:World} {E:Ending} {R:World->Prop} {Q:Ending->World->Prop} (h:Calls P f a w fun e w'=>e=E∧R w') (k:∀ w',R w'->Q E w'):Calls P f a w Q:=h.mono fun e w' g=>by rw[g.1];exact k _ g.2
end Go.Proofs.YtmndlfglgcioeaaGreatDoor
