/- Words that all the walks of this seat share: bytes as lists, slices that read as lists, what has turned and what has not. No program stands in it. -/
import Derived.WalkKit
import Derived.WalkSpells
import Derived.WalkLawsBesides
import Derived.Laws.IdiomStrings
import Derived.Lib.AppendStr
import Derived.Lib.UnsafeStr
import Derived.Lib.Hide
import Derived.Deep.DeepMust
import Derived.Laws.BytesArg
set_option maxHeartbeats 40000000
namespace Go.Proofs.YtmndlfglgcioeaaGreatDoor
open Go.RowKit
abbrev WH:=@Array.getElem?_append_left
abbrev cF:=@Array.getElem?_eq_getElem
abbrev cJ:=@Array.getElem?_eq_none
abbrev bg:=@Array.getElem?_eq_some_iff
abbrev uX:=@Array.getElem?_modify
abbrev a69:=@Array.getElem?_toList
abbrev Ix:=@Array.size_append
abbrev nl:=@Array.toList_append
abbrev dC:=@Bool.and_eq_true
abbrev lH:=@Bool.and_true
abbrev gD:=@Bool.beq_eq_decide_eq
abbrev Iy:=@Bool.eq_false_iff
abbrev cg:=@Bool.eq_iff_iff
abbrev eM:=@Bool.false_eq_true
abbrev yy:=@Bool.or_eq_false_iff
abbrev je:=@Bool.or_eq_true
abbrev A7:=@Bool.true_and
abbrev a9E:=@Int.add_mul
abbrev a8h:=@Int.ediv_le_of_le_mul
abbrev lD:=@Int.ediv_le_self
abbrev cM:=@Int.ediv_nonneg
abbrev jC:=@Int.emod_lt_of_pos
abbrev mL:=@Int.emod_nonneg
abbrev jG:=@Int.le_refl
abbrev nC:=@Int.mul_comm
abbrev O0:=@Int.mul_le_mul_of_nonneg_left
abbrev dX:=@Int.mul_le_mul_of_nonneg_right
abbrev dN:=@Int.mul_nonneg
abbrev a9F:=@Int.mul_sub
abbrev kh:=@Int.pow_succ
abbrev WV:=@Int.tdiv_eq_ediv_of_nonneg
abbrev cZ:=@Int.tmod_eq_emod_of_nonneg
abbrev ki:=@Int.toNat_natCast
abbrev ch:=@List.all_eq_true
abbrev aX:=@List.append_assoc
abbrev WX:=@List.append_eq
abbrev aV:=@List.append_nil
abbrev a1a:=@List.cons.inj
abbrev bI:=@List.cons_append
abbrev vd:=@List.count_cons_of_ne
abbrev a9G:=@List.count_cons_self
abbrev a9H:=@List.dropLast_concat
abbrev RW:=@List.dropLast_concat_getLast
abbrev kN:=@List.dropLast_eq_take
abbrev lT:=@List.dropLast_subset
abbrev bC:=@List.dropWhile_cons_of_neg
abbrev bh:=@List.dropWhile_cons_of_pos
abbrev ct:=@List.dropWhile_suffix
abbrev oH:=@List.drop_drop
abbrev ay:=@List.drop_eq_getElem_cons
abbrev bf:=@List.drop_eq_nil_of_le
abbrev oI:=@List.drop_left
abbrev RX:=@List.drop_left'
abbrev dh:=@List.drop_length
abbrev di:=@List.drop_of_length_le
abbrev AS:=@List.drop_succ_cons
abbrev dx:=@List.drop_zero
abbrev am:=@List.eq_nil_of_length_eq_zero
abbrev fV:=@List.filter_append
abbrev bm:=@List.filter_cons_of_neg
abbrev bn:=@List.filter_cons_of_pos
abbrev uL:=@List.filter_nil
abbrev dP:=@List.flatMap_append
abbrev gH:=@List.flatMap_cons
abbrev oJ:=@List.getD_eq_getElem?_getD
abbrev cG:=@List.getElem?_append_left
abbrev cu:=@List.getElem?_append_right
abbrev bZ:=@List.getElem?_cons_succ
abbrev dD:=@List.getElem?_cons_zero
abbrev jD:=@List.getElem?_drop
abbrev az:=@List.getElem?_eq_getElem
abbrev eP:=@List.getElem?_eq_none
abbrev be:=@List.getElem?_eq_some_iff
abbrev er:=@List.getElem?_map
abbrev jE:=@List.getElem?_take
abbrev bY:=@List.getElem?_toArray
abbrev a1b:=@List.getElem_append_left
abbrev XY:=@List.getElem_append_right
abbrev uG:=@List.getElem_cons_zero
abbrev IL:=@List.getElem_drop
abbrev bQ:=@List.getElem_map
abbrev bJ:=@List.getElem_mem
abbrev dQ:=@List.getElem_of_mem
abbrev IM:=@List.getElem_take
abbrev yD:=@List.getLast?_append
abbrev lU:=@List.getLast?_concat
abbrev XZ:=@List.getLast?_eq_some_iff
abbrev mM:=@List.head?_cons
abbrev a5E:=@List.head?_eq_getElem?
abbrev dO:=@List.isPrefixOf_iff_prefix
abbrev af:=@List.length_append
abbrev ag:=@List.length_cons
abbrev ai:=@List.length_drop
abbrev gX:=@List.length_dropLast
abbrev dE:=@List.length_eq_zero_iff
abbrev eQ:=@List.length_filter_le
abbrev aj:=@List.length_map
abbrev aQ:=@List.length_nil
abbrev fG:=@List.length_pos_iff
abbrev ns:=@List.length_reverse
abbrev kO:=@List.length_singleton
abbrev aA:=@List.length_take
abbrev mN:=@List.map_append
abbrev iC:=@List.map_congr_left
abbrev cO:=@List.map_cons
abbrev nF:=@List.map_map
abbrev eC:=@List.map_nil
abbrev a5F:=@List.map_set
abbrev a1c:=@List.map_take
abbrev dj:=@List.map_toArray
abbrev bl:=@List.mem_append
abbrev aN:=@List.mem_cons
abbrev ej:=@List.mem_cons_of_mem
abbrev lE:=@List.mem_flatMap
abbrev gY:=@List.mem_iff_getElem
abbrev kj:=@List.mem_map
abbrev a9I:=@List.mem_of_mem_take
abbrev da:=@List.mem_singleton
abbrev bW:=@List.nil_append
abbrev ci:=@List.not_mem_nil
abbrev AT:=@List.reverse_append
abbrev WY:=@List.setIfInBounds_toArray
abbrev a8l:=@List.set_append_right
abbrev km:=@List.size_toArray
abbrev ft:=@List.takeWhile_append_dropWhile
abbrev bd:=@List.takeWhile_cons_of_neg
abbrev bo:=@List.takeWhile_cons_of_pos
abbrev ve:=@List.takeWhile_prefix
abbrev cT:=@List.take_append_drop
abbrev jg:=@List.take_left'
abbrev dY:=@List.take_length
abbrev aI:=@List.take_of_length_le
abbrev ex:=@List.take_succ_cons
abbrev aH:=@List.take_succ_eq_append_getElem
abbrev gZ:=@List.take_zero
abbrev lK:=@Nat.add_assoc
abbrev d8:=@Nat.add_zero
abbrev bA:=@Nat.le_of_eq
abbrev uH:=@Nat.le_of_lt
abbrev ae:=@Nat.le_refl
abbrev fb:=@Nat.le_succ
abbrev pZ:=@Nat.le_succ_of_le
abbrev aq:=@Nat.le_trans
abbrev aP:=@Nat.lt_of_lt_of_le
abbrev cU:=@Nat.lt_or_ge
abbrev p7:=@Nat.lt_succ_of_lt
abbrev bB:=@Nat.lt_succ_self
abbrev uM:=@Nat.min_eq_left
abbrev cj:=@Nat.ne_of_lt
abbrev bE:=@Nat.not_lt_zero
abbrev fc:=@Nat.sub_self
abbrev nG:=@Nat.sub_zero
abbrev nH:=@Nat.succ_pos
abbrev bk:=@Nat.zero_add
abbrev aO:=@Nat.zero_le
abbrev cP:=@Option.getD_some
abbrev a1e:=@Option.isSome_iff_exists
abbrev eD:=@Option.map_eq_some_iff
abbrev W0:=@Option.map_map
abbrev uN:=@Option.map_some
abbrev bw:=@Option.some.inj
abbrev ko:=@Option.some.injEq
abbrev a1f:=@Prod.mk.injEq
abbrev cC:=@UInt8.ofNat_toNat
abbrev ew:=@UInt8.toNat_inj
abbrev eN:=@UInt8.toNat_ofNat'
set_option maxRecDepth 10000
abbrev Bytes:=List UInt8
def ls (s:ByteArray):Bytes:=s.data.toList
def bs (l:Bytes):ByteArray:=⟨l.toArray⟩
@[simp] theorem du (l:Bytes):ls (bs l)=l:=by simp [ls,bs]
@[simp] theorem nJ (s:ByteArray):bs (ls s)=s:=by simp [ls,bs]
@[simp] theorem de (s:ByteArray):(ls s).length=s.size:=by unfold ls;rw [Array.length_toList];rfl
@[simp] theorem aB (l:Bytes):(bs l).size=l.length:=by rw [<- de,du]
theorem MJ {s t:ByteArray} (h:ls s=ls t):s=t:=by rw[<-nJ s,h,nJ]
theorem UE {l m:Bytes} (h:bs l=bs m):l=m:=by rw[<-du l,h,du]
abbrev S (l:Bytes):Value:=.string (bs l)
theorem gw {k:IntKind} {a b:Int} (h:a=b):Ending.returned (.int k a)=.returned (.int k b):=by rw[h]
theorem dK {a b:Bool} (h:a=b):Ending.returned (.bool a)=.returned (.bool b):=by rw[h]
theorem Wh {a:ByteArray} {b:Bytes} (h:ls a=b):Ending.returned (.string a)=.returned (S b):=by rw[<-h];simp[S]
theorem QN {k1 k2 k3:IntKind} {a1 a2 a3:Int} {t:Int×Int×Int} (h:t=(a1,a2,a3)) :
  Ending.returned (.tuple #[.int k1 a1,.int k2 a2,.int k3 a3])=.returned (.tuple #[.int k1 t.1,.int k2 t.2.1,.int k3 t.2.2]):=by subst h;rfl
abbrev B8 (c:UInt8):Value:=.int .u8 c.toNat
def At (w:World) (b o:Nat) (xs:List Value):Prop:=∀ j (h:j<xs.length),w.cell? ⟨b,o+j,none⟩=some xs[j]
def Sl (B:Nat) (w:World) (v:Value) (xs:List Value):Prop :=
 ∃c,xs.length<=c∧c<=maxLen∧((xs=[]∧∃ a,v=.slice a 0 c)∨∃ b o,b<B∧v=.slice (some ⟨b,o,none⟩) xs.length c∧At w b o xs)
theorem At.keep {w w':World} {b o:Nat} {xs:List Value} (h:At w b o xs) (hk:w'.heap[b]? = w.heap[b]?):At w' b o xs :=
 fun j hj=>(World.cell?_of_block (w:=w) (a:=⟨b,o+j,none⟩) hk).trans (h j hj)
theorem Sl.keep {B:Nat} {w w':World} {v:Value} {xs:List Value} (h:Sl B w v xs) (hk:∀ b,b<B->w'.heap[b]? = w.heap[b]?):Sl B w' v xs:=by
 obtain⟨c,h1,h2,h3⟩:=h
 refine⟨c,h1,h2,?_⟩
 rcases h3 with h3|⟨b,o,hb,hv,ha⟩
 ·exact .inl h3
 exact .inr ⟨b,o,hb,hv,ha.keep (hk b hb)⟩
theorem Sl.below {B:Nat} {w w':World} {v:Value} {xs:List Value} (h:Sl B w v xs) (hb:Below B w w'):Sl B w' v xs:=h.keep fun b h=>hb.block b h
theorem Sl.more {B B':Nat} {w:World} {v:Value} {xs:List Value} (h:Sl B w v xs) (hB:B<=B'):Sl B' w v xs:=by
 obtain⟨c,h1,h2,h3⟩:=h
 refine⟨c,h1,h2,?_⟩
 rcases h3 with h3|⟨b,o,hb,hv,ha⟩
 ·exact .inl h3
 exact .inr ⟨b,o,by omega,hv,ha⟩
theorem Sl.nil {B:Nat} {w:World}:Sl B w (.slice none 0 0) []:=⟨0,by simp,by simp,.inl ⟨rfl,_,rfl⟩⟩
theorem addr_add (b o j:Nat):(⟨b,o,none⟩:Addr).add j=⟨b,o+j,none⟩:=by
 unfold Addr.add
 split
 ·next h=>subst h;rfl
 rfl
theorem Sl.bL {w:World} {base e n:Nat} {v:Value} {xs:List Value} (h:w.ownsRow base e 1 v n xs):Sl w.heap.size w v xs:=by
 have hl:=h.1
 rcases h.2 with⟨rfl,rfl⟩|⟨g,cap,cur,rfl,hg,hb,hn,hm,hsz,htk⟩
 ·have:xs=[]:=am (by omega)
  subst this
  exact Sl.nil
 refine⟨cap,by omega,hm,.inr ⟨g,0,?_,by rw[hl];simp,fun j hj=>?_⟩⟩
 ·rcases cU g w.heap.size with hlt|hge
  ·exact hlt
  rw[cJ hge]at hb;cases hb
 have:=h.cells (g:=g) rfl j xs[j] (by simp)
 rw[addr_add]at this
 exact this
theorem Gl {P:Program} {src dst e:TypeId} (hs:P.underlying src=some (.slice e)) (he:P.underlying e=some (.int .u8)) (hd:P.underlying dst=some .string)
  (w:World) (xs:List Int) (hb:∀ x∈xs,0<=x∧x<256) (n c:Nat) (hn:n=xs.length) (t:TypeId) (fr:Nat×Nat) :
  (convert src dst (.slice (some ⟨w.heap.size,0,none⟩) n c)).run P (w.alloc (.cells (xs.map (Value.int .u8)).toArray t fr)) =
   .ok (.string (bs (xs.map fun x=>UInt8.ofNat x.toNat))) (w.alloc (.cells (xs.map (Value.int .u8)).toArray t fr)):=by
 have h:=run_convert_bytes_back (P:=P) (w.alloc (.cells (xs.map (Value.int .u8)).toArray t fr)) src dst e ⟨w.heap.size,0,none⟩ c (xs.map fun x=>UInt8.ofNat x.toNat) hs he hd (fun j hj=>by
  rw[addr_add,World.cell?_alloc_mark]
  have hj':j<xs.length:=by simpa using hj
  have:=hb xs[j] (by simp)
  simp[List.getElem?_eq_getElem hj']
  omega)
 simp only[aj]at h
 rw[hn]
 exact h
theorem SJ {P:Program} {src dst e:TypeId} (hs:P.underlying src=some (.slice e)) (he:P.underlying e=some (.int .u8)) (hd:P.underlying dst=some .string)
  (a:Int) (ha:0<=a∧a<256) (w:World):(convert src dst (.slice (some ⟨w.heap.size,0,none⟩) 1 1)).run P (w.alloc (.cells #[.int .u8 a] e))=.ok (.string (bs [UInt8.ofNat a.toNat])) (w.alloc (.cells #[.int .u8 a] e)) :=
 Gl hs he hd w [a] (by simpa using ha) 1 1 rfl e (0,0)
theorem dF {B:Nat} {a w:World} (h:Below B a w) (n:Nat):Below B a (w.drewN n):=⟨h.os,h.tape,h.output,h.size,h.block⟩
def CT:Value->Nat | .slice _ n _=>n | .string s=>s.size|_=>0
theorem Gh (w:World) (s:ByteArray) (c:Nat) (t:TypeId) (fr:Nat×Nat) :
  At (w.alloc (.cells (bytesRow s c) t fr)).drew w.heap.size 0 (Lib.byteCells (ls s))∧Below w.heap.size w (w.alloc (.cells (bytesRow s c) t fr)).drew∧(w.alloc (.cells (bytesRow s c) t fr)).drew.heap.size=w.heap.size+1:=by
 refine⟨fun j hj=>?_,((Below.refl _ _).alloc (ae _) _).drew,by simp⟩
 rw[World.cell?_drew,bk,World.cell?_alloc_mark]
 have hj':j<(ls s).length:=by simpa[Lib.byteCells]using hj
 have hj2:j<s.data.size:=by rw[de]at hj';exact hj'
 simp only[Lib.byteCells,ls,bQ,Array.getElem_toList]
 unfold bytesRow
 rw[WH (by simpa using hj2),Array.getElem?_map,cF hj2]
 rfl
theorem ug {P:Program} {t e:TypeId} {i:TypeInfo} (ht:P.underlying t=some (.slice e)) (hi:P.info? e=some i) (hsize:i.size=1) (b o n c:Nat) (k:Nat) (hk:k<=n) (hc:n<=c) :
  ∃o',(k<c->o'=o+k)∧∀ W:World,(Instr.sliceAt t (.slice (some ⟨b,o,none⟩) n c) (some (.int .i64 (k:Int))) none none).run P W=.ok (.slice (some ⟨b,o',none⟩) (n-k) (c-k)) W:=by
 have he:P.elem t=e:=by simp[Program.elem,ht]
 have ht':P.underlying t=some (.slice (P.elem t)):=by rw[he];exact ht
 by_cases hcn:c=k
 ·refine⟨o,by omega,fun W=>?_⟩
  rw[run_sliceAt_slice W t _ _ _ _ ht',run_slice_l W t _ _ _ ht' .i64 k (by omega) (by omega)]
  simp[sizeOf,typeInfo,he,hi,hsize,sliced,hcn]
 refine⟨o+k,fun _=>rfl,fun W=>?_⟩
 rw[run_sliceAt_slice W t _ _ _ _ ht',run_slice_l W t _ _ _ ht' .i64 k (by omega) (by omega)]
 simp[sizeOf,typeInfo,he,hi,hsize,sliced,hcn,addr_add]
theorem jx {P:Program} {t e:TypeId} {i:TypeInfo} (ht:P.underlying t=some (.slice e)) (hi:P.info? e=some i) (b o n c:Nat) (k:Nat) (hk:k<=c) (W:World) :
  (Instr.sliceAt t (.slice (some ⟨b,o,none⟩) n c) none (some (.int .i64 (k:Int))) none).run P W=.ok (.slice (some ⟨b,o,none⟩) k c) W:=by
 have he:P.elem t=e:=by simp[Program.elem,ht]
 have ht':P.underlying t=some (.slice (P.elem t)):=by rw[he];exact ht
 rw[run_sliceAt_slice W t _ _ _ _ ht',run_slice_h W t _ _ _ ht' .i64 k (by omega) (by omega)]
 have e0:(⟨b,o,none⟩:Addr).add 0=⟨b,o,none⟩:=rfl
 simp[sizeOf,typeInfo,he,hi,sliced,e0]
theorem own_below {w w':World} {base e size n:Nat} {v:Value} {xs:List Value} (h:w.ownsRow base e size v n xs) (hb:Below w.heap.size w w'):w'.ownsRow base e size v n xs :=
 h.kept (row:=none) ⟨hb.os,hb.tape,hb.output,hb.size,fun k hk _=>hb.block k hk⟩ (by cases hv:v.ownBlock <;>simp)
theorem ez {P:Program} {ops:Array Oper} {rest:List Oper} {o:Oper} {a:Act} {Q:Exit->Act->World->Prop} (hgd:o.guard=none) (s x:Operand) (t:TypeId)
  (ho:o.op=.call {callee:=.builtin .append,args:=#[s,x],argTypes:=#[t,t]})
  (base:Nat) (e:TypeId) (i:TypeInfo) (z:Value) (bytes:Nat) (ht:P.underlying t=some (.slice e)) (hi:P.info? e=some i) (hz:i.zero=some z)
  (hsize:i.size=1) (hby:i.bytes=bytes) (hzs:z.cells.size=1) (w:World)
  (v:Value) (n:Nat) (xs:List Value) (hs:a.eval s=v) (hown:w.ownsRow base e 1 v n xs) (u:Value) (hx:a.eval x=.slice (some ⟨w.heap.size,0,none⟩) 1 1) (h1:u.oneCell'=true)
  (h63:n+1<=1099511627776) (hbytes:bytes<=64) (hbase:base<=w.heap.size)
  (h:∀ v' w',w'.ownsRow base e 1 v' (n+1) (xs++[u])->w.heap.size<w'.heap.size->Below base w w'->wpList P ops Q rest (a.put o.dst v') w') :
  wpList P ops Q (o::rest) a (w.alloc (.cells #[u] e)):=by
 refine wpList_append_own _ hgd s x t ho base e i z 1 bytes ht hi hz hsize hby hzs (by decide) v n xs hs (hown.alloc _) ⟨w.heap.size,0,none⟩ 1 1 [u] hx rfl ?_ ?_ ?_ ?_ ?_ ?_
 ·intro j u' hj
  match j,hj with
  |0,hj=>simp at hj;subst hj;simp[Addr.add]
 ·intro u' hu;simp at hu;subst hu;exact h1
 ·unfold maxLen;omega
 ·have:(n+1)*bytes<=(n+1)*64:=Nat.mul_le_mul_left _ hbytes
  omega
 ·simp;omega
 intro v' w' ho' hg _
 refine h v' w' ho' ?_ (((Below.refl _ _).alloc hbase _).grown hg (by simp;omega) (fun k hk=>(hown.lt k hk).1))
 have:=hg.size
 simp at this
 omega
def fd (w:World) (e:TypeId) (xs:List Value):Ending->World->Prop:=fun en w'=>∃ v,en=.returned v∧w'.ownsRow w.heap.size e 1 v xs.length xs∧Below w.heap.size w w'
theorem fd.mk {w w':World} {e:TypeId} {xs:List Value} {v:Value} {n:Nat} {base:Nat} (h:w'.ownsRow base e 1 v n xs) (hb:w.heap.size<=base) (hbel:Below w.heap.size w w'):fd w e xs (.returned v) w':=by
 refine⟨v,rfl,?_,hbel⟩
 have h1:=h.1
 have:n=xs.length:=by omega
 subst this
 refine⟨h1,?_⟩
 rcases h.2 with h2|⟨g,cap,cur,a1,a2,a3⟩
 ·exact .inl h2
 exact .inr ⟨g,cap,cur,a1,by omega,a3⟩
theorem md {P:Program} {src dst e:TypeId} (hs:P.underlying src=some (.slice e)) (he:P.underlying e=some (.int .u8)) (hd:P.underlying dst=some .string)
  {w:World} {base e' n:Nat} {v:Value} {l:Bytes} (h:w.ownsRow base e' 1 v n (Lib.byteCells l)):(convert src dst v).run P w=.ok (.string (bs l)) w:=by
 have hl:=h.1
 rw[Lib.byteCells_length]at hl
 rcases h.2 with⟨rfl,rfl⟩|⟨g,cap,cur,rfl,hg,hb,hn,hm,hsz,htk⟩
 ·obtain rfl:l=[]:=am (by omega)
  exact run_convert_bytes_nil w src e hs he _ _ dst hd
 have:=run_convert_bytes_back (P:=P) w src dst e ⟨g,0,none⟩ cap l hs he hd (fun j hj=>by
  have:=h.cells (g:=g) rfl j (.int .u8 l[j].toNat) (by simp[Lib.byteCells,hj])
  exact this)
 rw[show n=l.length by omega]
 exact this
theorem Pq {P:Program} {src dst e:TypeId} (hs:P.underlying src=some (.slice e)) (he:P.underlying e=some (.int .u8)) (hd:P.underlying dst=some .string)
  {w:World} {b o c:Nat} {l:Bytes} (h:At w b o (Lib.byteCells l)):(convert src dst (.slice (some ⟨b,o,none⟩) l.length c)).run P w=.ok (.string (bs l)) w :=
 run_convert_bytes_back (P:=P) w src dst e ⟨b,o,none⟩ c l hs he hd (fun j hj=>by
  rw[addr_add,h j (by simpa[Lib.byteCells]using hj)]
  simp[Lib.byteCells])
theorem mc {P:Program} {src dst e:TypeId} (hs:P.underlying src=some (.slice e)) (he:P.underlying e=some (.int .u8)) (hd:P.underlying dst=some .string)
  {B:Nat} {w:World} {v:Value} {l:Bytes} (h:Sl B w v (Lib.byteCells l)):(convert src dst v).run P w=.ok (.string (bs l)) w:=by
 obtain⟨c,hc,hm,h⟩:=h
 rcases h with⟨hn,a,rfl⟩|⟨b,o,hb,rfl,ha⟩
 ·obtain rfl:l=[]:=by simpa[Lib.byteCells]using hn
  cases a with
  |none=>exact run_convert_bytes_nil w src e hs he _ _ dst hd
  |some a=>exact run_convert_bytes_back (P:=P) w src dst e a c [] hs he hd (fun j hj=>by simp at hj)
 rw[Lib.byteCells_length]
 exact Pq hs he hd ha
theorem Il (a:ByteArray):a.toList=ls a:=ByteArray.toList_eq a
theorem au (a:Bytes):(bs a).toList=a:=by rw[Il,du]
theorem mn {a b:Bytes}:(a==b)=decide (a=b):=by
 by_cases h:a=b <;>simp[h]
def JP (w:World) (l:Bytes):Ending->World->Prop:=fun en w'=>en=.returned (S l)∧Below w.heap.size w w'
theorem fN {P:Program} {ops:Array Oper} {rest:List Oper} {o:Oper} {a:Act} {Q:Exit->Act->World->Prop} {w:World} (hgd:o.guard=none) (sl x:Operand) (t u:TypeId)
  (ho:o.op=.call {callee:=.builtin .append,args:=#[sl,x],argTypes:=#[t,u]}) (v xv v':Value) (w':World) (hs:a.eval sl=v) (hx:a.eval x=xv)
  (hr:(Builtin.append_ #[t,u] o.type #[v,xv]).run P w=.ok v' w') (h:wpList P ops Q rest (a.put o.dst v') w'):wpList P ops Q (o::rest) a w:=by
 refine wpList_plain hgd fun K hK=>?_
 unfold Oper.wp execOp
 simp only[ho,resolve,invoke,builtin,Sem.run_bind,Sem.run_pure,Result.andThen_ok,dj,cO,eC,hs,hx,hr]
 exact hK _ _ h
theorem aG (a:World):Below a.heap.size a a:=Below.refl _ _
theorem aJ {a w:World} (h:Below a.heap.size a w):Below a.heap.size a w.drew:=h.drew
theorem ma {a w:World} {n:Nat} (h:Below a.heap.size a w):Below a.heap.size a (w.drewN n):=dF h n
def b2 (x:UInt8):Int:=x.toNat
theorem iD (x:UInt8):0<=b2 x∧b2 x<256:=by have:=x.toNat_lt;unfold b2;omega
abbrev dw (l:List Int):List Value:=l.map (Value.int .i64)
theorem aK {l:List Value} {i:Nat} {a:Value}:l.toArray.setIfInBounds i a=(l.set i a).toArray:=by simp
theorem aL {x:Value} {l:List Value} {a:Value}:(x::l).set 0 a=a::l:=rfl
theorem aM {x:Value} {l:List Value} {i:Nat} {a:Value}:(x::l).set (i+1) a=x::l.set i a:=rfl
theorem h_ {p:Prop} (h:p):RowKit.Hid p:=Lib.hid h
theorem ap {α:Sort _} (a:α):∃ x,x=a:=⟨a,rfl⟩
end Go.Proofs.YtmndlfglgcioeaaGreatDoor
