import Derived.WalkKit
import Derived.WalkSpells
import Derived.WalkLawsBesides
import Derived.Laws.IdiomStrings
import Derived.Lib.AppendStr
import Derived.Lib.UnsafeStr
import Derived.Lib.Hide
import Derived.Deep.DeepMust
import Derived.Laws.BytesArg
set_option maxRecDepth 10000
set_option maxHeartbeats 0
theorem Go.RowKit.Hid.o{p:Prop}(h:Go.RowKit.Hid p):p:=h
theorem Go.Calls.k{P:Go.Program}{f:Go.FuncId}{a:Array Go.Value}{w:Go.World}{x:Go.Ending}{R:Go.World->Prop}{Q:Go.Ending->Go.World->Prop}(h:Go.Calls P f a w fun e v=>e=x/\R v)(K:∀v,Go.RowKit.Hid (R v)->Q x v):Go.Calls P f a w Q:=h.mono fun _ v g=>g.1▸K v g.2
theorem Go.Calls.e{P:Go.Program}{f:Go.FuncId}{a:Array Go.Value}{w u:Go.World}{x:Go.Ending}{R:Go.World->Prop}{Q:Go.Ending->Go.World->Prop}(h:Go.Calls P f a w fun e v=>e=x/\R v)(K:Q x u)(g:∀v,R v->v=u:=by(intro v h;first|exact h|exact h.symm)):Go.Calls P f a w Q:=h.mono fun _ v k=>k.1▸g v k.2▸K
abbrev Go.Calls.m:=@Go.Calls.mono
abbrev Go.RowKit.Below.m:=@Go.RowKit.Below.mono
namespace Go.Proofs.Q
open Go.RowKit
abbrev H:=World
abbrev Z:=Value
abbrev r7(w a:H):=Below w.heap.size w a
theorem M0{p:Prop}(h:p:=by omega):p:=h
theorem Oc{p:Prop}(h:p:=by simp):p:=h
theorem P8{p:Prop}(h:p:=by decide):p:=h
theorem Rz{p:Prop}(h:p:=by kernel_rfl):p:=h
theorem r5{p:Prop}(h:p:=by rfl):p:=h
variable{ops:Array Oper}{w':H}
abbrev gc:=@if_neg
abbrev ge:=@if_pos
abbrev gh:=@decide_eq_false
abbrev gr:=@decide_eq_true
abbrev gx:=@decide_eq_true_eq
abbrev gz:=@decide_eq_false_iff_not
abbrev gS:=@IntWalk.i64_in
abbrev gT:=@Below.refl
abbrev hb:=@Lib.byteCells_length
abbrev hx:=@World.cell?_alloc_mark
abbrev h1:=@Result.andThen_ok
abbrev h2:=@Sem.run_bind
abbrev io:=@Sem.run_pure
abbrev iZ:=@World.ownsRow_nil
abbrev jp:=@heap_alloc_new
abbrev j2:=@World.block_lt_of_cell?
abbrev Yh:=@Array.getD_eq_getD_getElem?
abbrev a1e:=@Array.getElem?_append_left
abbrev cK:=@Array.getElem?_eq_getElem
abbrev cD:=@Array.getElem?_eq_none
abbrev bw:=@Array.getElem?_eq_some_iff
abbrev b2H:=@Array.getElem?_modify
abbrev Nj:=@Array.getElem?_setIfInBounds_ne
abbrev iL:=@Array.getElem?_toList
abbrev fb:=@Array.length_toList
abbrev MS:=@Array.size_append
abbrev jh:=@Array.toArray_toList
abbrev pi:=@Array.toList_append
abbrev a1f:=@Array.toList_setIfInBounds
abbrev f8:=@Bool.and_eq_true
abbrev b65:=@Bool.and_self
abbrev nk:=@Bool.and_true
abbrev iM:=@Bool.beq_eq_decide_eq
abbrev MT:=@Bool.eq_false_iff
abbrev bX:=@Bool.eq_iff_iff
abbrev eH:=@Bool.false_eq_true
abbrev b5w:=@Bool.not_eq_true
abbrev a3W:=@Bool.not_eq_true'
abbrev Bc:=@Bool.or_eq_false_iff
abbrev kj:=@Bool.or_eq_true
abbrev b3G:=@Bool.or_true
abbrev Ev:=@Bool.true_and
abbrev b5r:=@Int.add_mul
abbrev b3T:=@Int.ediv_le_of_le_mul
abbrev m7:=@Int.ediv_le_self
abbrev de:=@Int.ediv_nonneg
abbrev kN:=@Int.emod_lt_of_pos
abbrev oH:=@Int.emod_nonneg
abbrev kQ:=@Int.le_refl
abbrev wd:=@Int.mul_comm
abbrev TS:=@Int.mul_le_mul_of_nonneg_left
abbrev eK:=@Int.mul_le_mul_of_nonneg_right
abbrev eh:=@Int.mul_nonneg
abbrev b5s:=@Int.mul_sub
abbrev lq:=@Int.pow_succ
abbrev a1A:=@Int.tdiv_eq_ediv_of_nonneg
abbrev ei:=@Int.tmod_eq_emod_of_nonneg
abbrev eV:=@Int.toNat_natCast
abbrev Xe:=@List.all_append
abbrev a4I:=@List.all_cons
abbrev M5:=@List.all_eq_false
abbrev dl:=@List.all_eq_true
abbrev c10:=@List.any_cons
abbrev M6:=@List.any_eq_false
abbrev m8:=@List.any_eq_true
abbrev bB:=@List.append_assoc
abbrev lr:=@List.append_eq_nil_iff
abbrev b03:=@List.append_inj'
abbrev q9:=@List.append_inj_right'
abbrev aV:=@List.append_nil
abbrev a6q:=@List.cons.inj
abbrev b7x:=@List.cons.injEq
abbrev dE:=@List.cons_append
abbrev xR:=@List.count_cons_of_ne
abbrev b5t:=@List.count_cons_self
abbrev b4f:=@List.dropLast_append_of_ne_nil
abbrev c74:=@List.dropLast_concat
abbrev ip:=@List.dropLast_concat_getLast
abbrev iN:=@List.dropLast_eq_take
abbrev nI:=@List.dropLast_subset
abbrev a3Y:=@List.dropWhile_append_of_pos
abbrev aX:=@List.dropWhile_cons_of_neg
abbrev aQ:=@List.dropWhile_cons_of_pos
abbrev ce:=@List.dropWhile_suffix
abbrev qg:=@List.drop_drop
abbrev aC:=@List.drop_eq_getElem_cons
abbrev bE:=@List.drop_eq_nil_of_le
abbrev a1B:=@List.drop_left
abbrev Xf:=@List.drop_left'
abbrev dF:=@List.drop_length
abbrev dG:=@List.drop_of_length_le
abbrev Ej:=@List.drop_succ_cons
abbrev dP:=@List.drop_zero
abbrev az:=@List.eq_nil_of_length_eq_zero
abbrev Fe:=@List.eq_nil_or_concat
abbrev fy:=@List.filter_append
abbrev aZ:=@List.filter_cons_of_neg
abbrev aU:=@List.filter_cons_of_pos
abbrev a8n:=@List.filter_eq_self
abbrev b3z:=@List.filter_filter
abbrev xA:=@List.filter_nil
abbrev dL:=@List.flatMap_append
abbrev cM:=@List.flatMap_cons
abbrev uj:=@List.flatMap_nil
abbrev jj:=@List.getD_eq_getElem?_getD
abbrev cX:=@List.getElem?_append_left
abbrev dB:=@List.getElem?_append_right
abbrev dx:=@List.getElem?_cons_succ
abbrev dZ:=@List.getElem?_cons_zero
abbrev fz:=@List.getElem?_drop
abbrev aG:=@List.getElem?_eq_getElem
abbrev eC:=@List.getElem?_eq_none
abbrev bh:=@List.getElem?_eq_some_iff
abbrev eW:=@List.getElem?_map
abbrev kO:=@List.getElem?_take
abbrev cf:=@List.getElem?_toArray
abbrev a8o:=@List.getElem_append
abbrev a2P:=@List.getElem_append_right
abbrev b1m:=@List.getElem_cons_succ
abbrev gZ:=@List.getElem_cons_zero
abbrev M7:=@List.getElem_drop
abbrev cU:=@List.getElem_map
abbrev be:=@List.getElem_mem
abbrev cC:=@List.getElem_of_mem
abbrev c0L:=@List.getElem_replicate
abbrev M8:=@List.getElem_take
abbrev Bh:=@List.getLast?_append
abbrev Bi:=@List.getLast?_concat
abbrev b84:=@List.getLast?_cons_cons
abbrev TV:=@List.getLast?_eq_some_getLast
abbrev a2Q:=@List.getLast?_eq_some_iff
abbrev a6B:=@List.getLast?_singleton
abbrev c2F:=@List.getLast_eq_getElem
abbrev oI:=@List.head?_cons
abbrev b1n:=@List.head?_eq_getElem?
abbrev ej:=@List.isPrefixOf_iff_prefix
abbrev a9b:=@List.isSuffixOf_iff_suffix
abbrev ae:=@List.length_append
abbrev cz:=@List.length_cons
abbrev aj:=@List.length_drop
abbrev fY:=@List.length_dropLast
abbrev dy:=@List.length_eq_zero_iff
abbrev a6E:=@List.length_filter_eq_length_iff
abbrev dO:=@List.length_filter_le
abbrev ay:=@List.length_map
abbrev aO:=@List.length_nil
abbrev eo:=@List.length_pos_iff
abbrev fc:=@List.length_reverse
abbrev dq:=@List.length_singleton
abbrev aD:=@List.length_take
abbrev eY:=@List.map_append
abbrev jJ:=@List.map_congr_left
abbrev dh:=@List.map_cons
abbrev lu:=@List.map_map
abbrev pz:=@List.map_nil
abbrev a6r:=@List.map_take
abbrev m9:=@List.map_toArray
abbrev bO:=@List.mem_append
abbrev b5u:=@List.mem_append_left
abbrev b3X:=@List.mem_append_right
abbrev aK:=@List.mem_cons
abbrev cN:=@List.mem_cons_of_mem
abbrev fA:=@List.mem_cons_self
abbrev a3J:=@List.mem_filter
abbrev S8:=@List.mem_flatMap
abbrev dt:=@List.mem_map
abbrev c8W:=@List.mem_of_getElem?
abbrev a4w:=@List.mem_of_getLast?
abbrev c4o:=@List.mem_of_mem_drop
abbrev Bj:=@List.mem_of_mem_take
abbrev dS:=@List.mem_singleton
abbrev f9:=@List.nil_append
abbrev cV:=@List.not_mem_nil
abbrev jK:=@List.reverse_append
abbrev b2R:=@List.reverse_reverse
abbrev Fd:=@List.reverse_singleton
abbrev a1o:=@List.setIfInBounds_toArray
abbrev b3Y:=@List.set_append_right
abbrev a4p:=@List.singleton_append
abbrev fZ:=@List.size_toArray
abbrev ez:=@List.takeWhile_append_dropWhile
abbrev a34:=@List.takeWhile_append_of_pos
abbrev bI:=@List.takeWhile_cons_of_neg
abbrev bJ:=@List.takeWhile_cons_of_pos
abbrev xS:=@List.takeWhile_prefix
abbrev b4h:=@List.take_append
abbrev cT:=@List.take_append_drop
abbrev c4p:=@List.take_eq_nil_iff
abbrev ko:=@List.take_left'
abbrev di:=@List.take_length
abbrev b5h:=@List.take_length_add_append
abbrev aP:=@List.take_of_length_le
abbrev dM:=@List.take_succ_cons
abbrev aH:=@List.take_succ_eq_append_getElem
abbrev jk:=@List.take_zero
abbrev EK:=@Nat.add_assoc
abbrev dH:=@Nat.add_zero
abbrev c0M:=@Nat.div_div_eq_div_mul
abbrev bW:=@Nat.le_of_eq
abbrev xp:=@Nat.le_of_lt
abbrev ag:=@Nat.le_refl
abbrev gQ:=@Nat.le_succ
abbrev lw:=@Nat.le_succ_of_le
abbrev am:=@Nat.le_trans
abbrev aN:=@Nat.lt_of_lt_of_le
abbrev cI:=@Nat.lt_or_ge
abbrev rP:=@Nat.lt_succ_of_lt
abbrev bV:=@Nat.lt_succ_self
abbrev xB:=@Nat.min_eq_left
abbrev S9:=@Nat.mod_eq_of_lt
abbrev ik:=@Nat.mul_le_mul_left
abbrev b5v:=@Nat.mul_one
abbrev c0N:=@Nat.mul_succ
abbrev cO:=@Nat.ne_of_lt
abbrev cL:=@Nat.not_lt_zero
abbrev b3A:=@Nat.pos_of_ne_zero
abbrev b1o:=@Nat.pow_succ
abbrev jy:=@Nat.sub_self
abbrev pA:=@Nat.sub_zero
abbrev b1p:=@Nat.succ_pos
abbrev bM:=@Nat.zero_add
abbrev aL:=@Nat.zero_le
abbrev c4q:=@Nat.zero_mul
abbrev dj:=@Option.getD_some
abbrev a6t:=@Option.isSome_iff_exists
abbrev cY:=@Option.map_eq_some_iff
abbrev a1C:=@Option.map_map
abbrev b4Z:=@Option.map_none
abbrev Xg:=@Option.map_some
abbrev a6F:=@Option.none_or
abbrev bj:=@Option.some.inj
abbrev ly:=@Option.some.injEq
abbrev a42:=@Option.some_or
abbrev a6u:=@Prod.mk.injEq
abbrev dN:=@UInt8.ofNat_toNat
abbrev eZ:=@UInt8.toNat_inj
abbrev fB:=@UInt8.toNat_ofNat'
abbrev O:=List UInt8
def ls(s:ByteArray):O:=s.data.toList
def E(l:O):ByteArray:=⟨l.toArray⟩
@[simp] theorem cW(l:O):ls (E l)=l:=by simp [ls,E]
@[simp] theorem kt(s:ByteArray):E (ls s)=s:=by simp [ls,E]
@[simp] theorem nD(s:ByteArray):(ls s).length=s.size:=by unfold ls;rw [fb];rfl
@[simp] theorem aF(l:O):(E l).size=l.length:=by rw [<- nD,cW]
theorem QV{s t:ByteArray}(h:ls s=ls t):s=t:=by rw[<-kt s,h,kt]
theorem Og{l m:O}(h:E l=E m):l=m:=by rw[<-cW l,h,cW]
abbrev S(l:O):Z:=.string (E l)
theorem iD{k:IntKind}{a b:Int}(h:a=b):Ending.returned (.int k a)=.returned (.int k b):=by rw[h]
theorem eA{a b:Bool}(h:a=b):Ending.returned (.bool a)=.returned (.bool b):=by rw[h]
theorem AK{a:ByteArray}{b:O}(h:ls a=b):Ending.returned (.string a)=.returned (S b):=by rw[<-h];simp[S]
theorem V4{c d e:IntKind}{a a2 a3:Int}{t:Int×Int×Int}(h:t=(a,a2,a3)) :
  Ending.returned (.tuple #[.int c a,.int d a2,.int e a3])=.returned (.tuple #[.int c t.1,.int d t.2.1,.int e t.2.2]):=by subst h;rfl
abbrev B8(c:UInt8):Z:=.int .u8 c.toNat
def At(w:H)(b o:Nat)(xs:List Z):Prop:=∀j (h:j<xs.length),w.cell? ⟨b,o+j,none⟩=some xs[j]
def Sl(B:Nat)(w:H)(v:Z)(xs:List Z):Prop :=
 ∃c,xs.length<=c/\c<=maxLen/\((xs=[]/\∃a,v=.slice a 0 c)\/∃b o,b<B/\v=.slice (some ⟨b,o,none⟩) xs.length c/\At w b o xs)
theorem At.keep{w:H}{b o:Nat}{xs:List Z}(h:At w b o xs)(d:w'.heap[b]?= w.heap[b]?):At w' b o xs :=
 λj c=>(World.cell?_of_block (w:=w) (a:=⟨b,o+j,none⟩) d).trans (h j c)
theorem Sl.keep{B:Nat}{w:H}{v:Z}{xs:List Z}(h:Sl B w v xs)(e:∀b,b<B->w'.heap[b]?= w.heap[b]?):Sl B w' v xs:=by
 obtain⟨c,Y,I,a⟩:=h;refine⟨c,Y,I,?_⟩;rcases a with a|⟨b,o,U,f,d⟩
 ·exact .inl a
 exact .inr ⟨b,o,U,f,d.keep (e b U)⟩
theorem Sl.below{B:Nat}{w:H}{v:Z}{xs:List Z}(h:Sl B w v xs)(U:Below B w w'):Sl B w' v xs:=h.keep λb h=>U.block b h
theorem Sl.more{B B':Nat}{w:H}{v:Z}{xs:List Z}(h:Sl B w v xs)(hB:B<=B'):Sl B' w v xs:=by
 obtain⟨c,Y,I,a⟩:=h;refine⟨c,Y,I,?_⟩;rcases a with a|⟨b,o,U,e,d⟩
 ·exact .inl a
 exact .inr ⟨b,o,M0,e,d⟩
theorem Sl.nil{B:Nat}{w:H}:Sl B w (.slice none 0 0) []:=⟨0,Oc,Oc,.inl ⟨rfl,_,rfl⟩⟩
theorem addr_add(b o j:Nat):(⟨b,o,none⟩:Addr).add j=⟨b,o+j,none⟩:=by
 unfold Addr.add
 split
 ·next h=>subst h;rfl
 rfl
theorem Sl.g9{w:H}{base e n:Nat}{v:Z}{xs:List Z}(h:w.ownsRow base e 1 v n xs):Sl w.heap.size w v xs:=by
 have d:=h.1;rcases h.2 with⟨rfl,rfl⟩|⟨g,cap,cur,rfl,hg,U,hn,hm,hsz,htk⟩
 ·have:xs=[]:=az (by omega)
  subst this;exact Sl.nil
 refine⟨cap,M0,hm,.inr ⟨g,0,?_,by rw[d];simp,λj hj=>?_⟩⟩
 ·rcases cI g w.heap.size with c|a
  ·exact c
  rw[cD a]at U;cases U
 have:=h.cells (g:=g) rfl j xs[j] Oc;rw[addr_add]at this;exact this
theorem a1M{P:Program}{src dst e:TypeId}(g:P.underlying src=some (.slice e))(he:P.underlying e=some (.int .u8))(hd:P.underlying dst=some .string)
  (w:H) (xs:List Int) (U:∀x∈xs,0<=x/\x<256) (n c:Nat) (f:n=xs.length) (t:TypeId) (fr:Nat×Nat) :
  (convert src dst (.slice (some ⟨w.heap.size,0,none⟩) n c)).run P (w.alloc (.cells (xs.map (Value.int .u8)).toArray t fr)) =
   .ok (.string (E (xs.map λx=>UInt8.ofNat x.toNat))) (w.alloc (.cells (xs.map (Value.int .u8)).toArray t fr)):=by
 have h:=run_convert_bytes_back (P:=P) (w.alloc (.cells (xs.map (Value.int .u8)).toArray t fr)) src dst e ⟨w.heap.size,0,none⟩ c (xs.map λx=>UInt8.ofNat x.toNat) g he hd (λj d=>by
  rw[addr_add,hx];have a:j<xs.length:=by simpa using d
  have:=U xs[j] Oc;simp[List.getElem?_eq_getElem a];omega)
 simp only[ay]at h;rw[f];exact h
theorem a2M{P:Program}{src dst e:TypeId}(d:P.underlying src=some (.slice e))(he:P.underlying e=some (.int .u8))(hd:P.underlying dst=some .string)
  (a:Int) (c:0<=a/\a<256) (w:H):(convert src dst (.slice (some ⟨w.heap.size,0,none⟩) 1 1)).run P (w.alloc (.cells #[.int .u8 a] e))=.ok (.string (E [UInt8.ofNat a.toNat])) (w.alloc (.cells #[.int .u8 a] e)) :=
 a1M d he hd w [a] (by simpa using c) 1 1 rfl e (0,0)
theorem ft{B:Nat}{a w:H}(h:Below B a w)(n:Nat):Below B a (w.drewN n):=⟨h.os,h.tape,h.output,h.size,h.block⟩
def Gm:Z->Nat | .slice _ n _=>n | .string s=>s.size|_=>0
theorem Kw(w:H)(s:ByteArray)(c:Nat)(t:TypeId)(fr:Nat×Nat) :
  At (w.alloc (.cells (bytesRow s c) t fr)).drew w.heap.size 0 (Lib.byteCells (ls s))/\Below w.heap.size w (w.alloc (.cells (bytesRow s c) t fr)).drew/\(w.alloc (.cells (bytesRow s c) t fr)).drew.heap.size=w.heap.size+1:=by
 refine⟨λj e=>?_,((gT _ _).alloc (ag _) _).drew,Oc⟩;rw[World.cell?_drew,bM,hx];have a:j<(ls s).length:=by simpa[Lib.byteCells]using e
 have d:j<s.data.size:=by rw[nD]at a;exact a
 simp only[Lib.byteCells,ls,cU,Array.getElem_toList];unfold bytesRow;rw[a1e (by simpa using d),Array.getElem?_map,cK d];rfl
theorem wK{P:Program}{t e:TypeId}{i:TypeInfo}(f:P.underlying t=some (.slice e))(hi:P.info? e=some i)(hsize:i.size=1)(b o n c:Nat)(k:Nat)(hk:k<=n)(hc:n<=c) :
  ∃g,(k<c->g=o+k)/\∀W:H,(Instr.sliceAt t (.slice (some ⟨b,o,none⟩) n c) (some (.int .i64 (k:Int))) none none).run P W=.ok (.slice (some ⟨b,g,none⟩) (n-k) (c-k)) W:=by
 have he:P.elem t=e:=by simp[Program.elem,f]
 have a:P.underlying t=some (.slice (P.elem t)):=by rw[he];exact f
 by_cases d:c=k
 ·refine⟨o,M0,λW=>?_⟩
  rw[run_sliceAt_slice W t _ _ _ _ a,run_slice_l W t _ _ _ a .i64 k M0 M0];simp[sizeOf,typeInfo,he,hi,hsize,sliced,d]
 refine⟨o+k,λ_=>rfl,λW=>?_⟩;rw[run_sliceAt_slice W t _ _ _ _ a,run_slice_l W t _ _ _ a .i64 k M0 M0];simp[sizeOf,typeInfo,he,hi,hsize,sliced,d,addr_add]
theorem kI{P:Program}{t e:TypeId}{i:TypeInfo}(d:P.underlying t=some (.slice e))(hi:P.info? e=some i)(b o n c:Nat)(k:Nat)(hk:k<=c)(W:H) :
  (Instr.sliceAt t (.slice (some ⟨b,o,none⟩) n c) none (some (.int .i64 (k:Int))) none).run P W=.ok (.slice (some ⟨b,o,none⟩) k c) W:=by
 have he:P.elem t=e:=by simp[Program.elem,d]
 have a:P.underlying t=some (.slice (P.elem t)):=by rw[he];exact d
 rw[run_sliceAt_slice W t _ _ _ _ a,run_slice_h W t _ _ _ a .i64 k M0 M0];have e0:(⟨b,o,none⟩:Addr).add 0=⟨b,o,none⟩:=rfl;simp[sizeOf,typeInfo,he,hi,sliced,e0]
theorem own_below{w:H}{base e size n:Nat}{v:Z}{xs:List Z}(h:w.ownsRow base e size v n xs)(U:r7 w w'):w'.ownsRow base e size v n xs :=
 h.kept (row:=none) ⟨U.os,U.tape,U.output,U.size,λk a _=>U.block k a⟩ (by cases hv:v.ownBlock <;>simp)
theorem et{P:Program}{rest:List Oper}{o:Oper}{a:Act}{Q:Exit->Act->H->Prop}(g:o.guard=none)(s x:Operand)(t:TypeId)
  (r:o.op=.call {callee:=.builtin .append,args:=#[s,x],argTypes:=#[t,t]})
  (base:Nat) (e:TypeId) (i:TypeInfo) (z:Z) (bytes:Nat) (B:P.underlying t=some (.slice e)) (hi:P.info? e=some i) (C:i.zero=some z)
  (hsize:i.size=1) (f:i.bytes=bytes) (m:z.cells.size=1) (w:H)
  (v:Z) (n:Nat) (xs:List Z) (y:a.eval s=v) (hown:w.ownsRow base e 1 v n xs) (u:Z) (X:a.eval x=.slice (some ⟨w.heap.size,0,none⟩) 1 1) (Y:u.oneCell'=true)
  (h63:n+1<=1099511627776) (hbytes:bytes<=64) (hbase:base<=w.heap.size)
  (h:∀d w',w'.ownsRow base e 1 d (n+1) (xs++[u])->w.heap.size<w'.heap.size->Below base w w'->wpList P ops Q rest (a.put o.dst d) w') :
  wpList P ops Q (o::rest) a (w.alloc (.cells #[u] e)):=by
 refine wpList_append_own _ g s x t r base e i z 1 bytes B hi C hsize f m P8 v n xs y (hown.alloc _) ⟨w.heap.size,0,none⟩ 1 1 [u] X rfl ?_ ?_ ?_ ?_ ?_ ?_
 ·intro j D c
  match j,c with
  |0,c=>simp at c;subst c;simp[Addr.add]
 ·intro D hu;simp at hu;subst hu;exact Y
 ·unfold maxLen;omega
 ·have:(n+1)*bytes<=(n+1)*64:=ik _ hbytes
  omega
 ·simp;omega
 intro d w' l p _;refine h d w' l ?_ (((gT _ _).alloc hbase _).grown p (by simp;omega) (λk q=>(hown.lt k q).1));have:=p.size;simp at this;omega
def ga(w:H)(e:TypeId)(xs:List Z):Ending->H->Prop:=λen w'=>∃v,en=.returned v/\w'.ownsRow w.heap.size e 1 v xs.length xs/\r7 w w'
theorem ga.mk{w:H}{e:TypeId}{xs:List Z}{v:Z}{n:Nat}{base:Nat}(h:w'.ownsRow base e 1 v n xs)(U:w.heap.size<=base)(hbel:r7 w w'):ga w e xs (.returned v) w':=by
 refine⟨v,rfl,?_,hbel⟩;have Y:=h.1;have:n=xs.length:=M0;subst this;refine⟨Y,?_⟩;rcases h.2 with I|⟨g,cap,cur,a,a2,a3⟩
 ·exact .inl I
 exact .inr ⟨g,cap,cur,a,M0,a3⟩
theorem jq{P:Program}{src dst e:TypeId}(a:P.underlying src=some (.slice e))(he:P.underlying e=some (.int .u8))(hd:P.underlying dst=some .string)
  {w:H} {base c n:Nat} {v:Z} {l:O} (h:w.ownsRow base c 1 v n (Lib.byteCells l)):(convert src dst v).run P w=.ok (.string (E l)) w:=by
 have f:=h.1;rw[hb]at f;rcases h.2 with⟨rfl,rfl⟩|⟨g,cap,cur,rfl,hg,U,hn,hm,hsz,htk⟩
 ·obtain rfl:l=[]:=az (by omega)
  exact run_convert_bytes_nil w src e a he _ _ dst hd
 have:=run_convert_bytes_back (P:=P) w src dst e ⟨g,0,none⟩ cap l a he hd (λj d=>by
  have:=h.cells (g:=g) rfl j (.int .u8 l[j].toNat) (by simp[Lib.byteCells,d]);exact this)
 rw[show n=l.length by omega];exact this
theorem zj(a:ByteArray):a.toList=ls a:=ByteArray.toList_eq a
theorem aB(a:O):(E a).toList=a:=by rw[zj,cW]
theorem jB{a b:O}:(a==b)=decide (a=b):=by
 by_cases h:a=b <;>simp[h]
theorem a49{P:Program}{rest:List Oper}{o:Oper}{a:Act}{Q:Exit->Act->H->Prop}(g:o.guard=none)(sl x:Operand)(t u:TypeId)
  (q:o.op=.call {callee:=.builtin .append,args:=#[sl,x],argTypes:=#[t,u]})
  (base:Nat) (e:TypeId) (i:TypeInfo) (s:P.underlying t=some (.slice e)) (hu:P.underlying u=some .string) (hi:P.info? e=some i) (y:i.zero=some (.int .u8 0))
  (hsize:i.size=1) (f:i.bytes=1) (w:H)
  (v:Z) (n:Nat) (l:O) (r:a.eval sl=v) (hown:w.ownsRow base e 1 v n (Lib.byteCells l)) (m:O) (X:a.eval x=.string (E m))
  (h63:n+m.length<=1099511627776) (hbase:base<=w.heap.size)
  (h:∀d w',w'.ownsRow base e 1 d (n+m.length) (Lib.byteCells (l++m))->w.heap.size<=w'.heap.size->Below base w w'->wpList P ops Q rest (a.put o.dst d) w'):wpList P ops Q (o::rest) a w:=by
 refine Lib.wpList_append_own_string _ g sl x t u q base e i s hu hi y hsize f v n _ r hown (E m) X ?_ ?_ hbase ?_
 ·rw[aF];unfold maxLen;omega
 ·rw[aF];omega
 intro d w' c j _;refine h d w' ?_ j.size ((gT _ _).grown j hbase (λk p=>(hown.lt k p).1));rw[aF]at c;have:Lib.byteCells l++Lib.strCells (E m)=Lib.byteCells (l++m):=by simp[Lib.byteCells,Lib.strCells,E]
 rwa [this]at c
def TW(w:H)(l:O):Ending->H->Prop:=λen w'=>en=.returned (S l)/\r7 w w'
theorem mj{P:Program}{rest:List Oper}{o:Oper}{a:Act}{Q:Exit->Act->H->Prop}{w:H}(c:o.guard=none)(sl x:Operand)(t u:TypeId)
  (f:o.op=.call {callee:=.builtin .append,args:=#[sl,x],argTypes:=#[t,u]}) (v e d:Z) (w':H) (i:a.eval sl=v) (X:a.eval x=e)
  (g:(Builtin.append_ #[t,u] o.type #[v,e]).run P w=.ok d w') (h:wpList P ops Q rest (a.put o.dst d) w'):wpList P ops Q (o::rest) a w:=by
 refine wpList_plain c λK hK=>?_;unfold Oper.wp execOp;simp only[f,resolve,invoke,builtin,h2,io,h1,m9,dh,pz,i,X,g];exact hK _ _ h
theorem bg(a:H):r7 a a:=gT _ _
theorem bG{a w:H}(h:r7 a w):r7 a w.drew:=h.drew
theorem nO{a w:H}{n:Nat}(h:r7 a w):Below a.heap.size a (w.drewN n):=ft h n
theorem b7t{a w:H}(h:r7 a w)(c:r7 w w'):r7 a w':=h.trans (c.m h.size)
def G(x:UInt8):Int:=x.toNat
theorem jL(x:UInt8):0<=G x/\G x<256:=by have:=x.toNat_lt;unfold G;omega
abbrev d8(l:List Int):List Z:=l.map (Value.int .i64)
theorem fH{l:List Z}{i:Nat}{a:Z}:l.toArray.setIfInBounds i a=(l.set i a).toArray:=Oc
theorem fI{x:Z}{l:List Z}{a:Z}:(x::l).set 0 a=a::l:=rfl
theorem fJ{x:Z}{l:List Z}{i:Nat}{a:Z}:(x::l).set (i+1) a=x::l.set i a:=rfl
theorem F{p:Prop}(h:p):RowKit.Hid p:=Lib.hid h
theorem V{α:Sort _}(a:α):∃x,x=a:=⟨a,rfl⟩
theorem ac{A₁:Sort _}{B₁:Sort _}(a:A₁)(b:B₁):∃z,z=a/\∃z,z=b:=⟨a,rfl,b,rfl⟩
theorem ax{A₁:Sort _}{B₁:Sort _}{C₁:Sort _}(a:A₁)(b:B₁)(c:C₁):∃z,z=a/\∃z,z=b/\∃z,z=c:=⟨a,rfl,b,rfl,c,rfl⟩
theorem aA{A₁:Sort _}{B₁:Sort _}{C₁:Sort _}{D₁:Sort _}(a:A₁)(b:B₁)(c:C₁)(d:D₁):∃z,z=a/\∃z,z=b/\∃z,z=c/\∃z,z=d:=⟨a,rfl,b,rfl,c,rfl,d,rfl⟩
theorem bd{A₁:Sort _}{B₁:Sort _}{C₁:Sort _}{D₁:Sort _}{E₁:Sort _}(a:A₁)(b:B₁)(c:C₁)(d:D₁)(e:E₁):∃z,z=a/\∃z,z=b/\∃z,z=c/\∃z,z=d/\∃z,z=e:=⟨a,rfl,b,rfl,c,rfl,d,rfl,e,rfl⟩
theorem bs{A₁:Sort _}{B₁:Sort _}{C₁:Sort _}{D₁:Sort _}{E₁:Sort _}{F₁:Sort _}(a:A₁)(b:B₁)(c:C₁)(d:D₁)(e:E₁)(f:F₁):∃z,z=a/\∃z,z=b/\∃z,z=c/\∃z,z=d/\∃z,z=e/\∃z,z=f:=⟨a,rfl,b,rfl,c,rfl,d,rfl,e,rfl,f,rfl⟩
theorem b0{A₁:Sort _}{B₁:Sort _}{C₁:Sort _}{D₁:Sort _}{E₁:Sort _}{F₁:Sort _}{G₁:Sort _}(a:A₁)(b:B₁)(c:C₁)(d:D₁)(e:E₁)(f:F₁)(g:G₁):∃z,z=a/\∃z,z=b/\∃z,z=c/\∃z,z=d/\∃z,z=e/\∃z,z=f/\∃z,z=g:=⟨a,rfl,b,rfl,c,rfl,d,rfl,e,rfl,f,rfl,g,rfl⟩
theorem b2{A₁:Sort _}{B₁:Sort _}{C₁:Sort _}{D₁:Sort _}{E₁:Sort _}{F₁:Sort _}{G₁:Sort _}{H₁:Sort _}(a:A₁)(b:B₁)(c:C₁)(d:D₁)(e:E₁)(f:F₁)(g:G₁)(h:H₁):∃z,z=a/\∃z,z=b/\∃z,z=c/\∃z,z=d/\∃z,z=e/\∃z,z=f/\∃z,z=g/\∃z,z=h:=⟨a,rfl,b,rfl,c,rfl,d,rfl,e,rfl,f,rfl,g,rfl,h,rfl⟩
theorem cS{p q:Prop}(a:p)(b:q):RowKit.Hid p/\RowKit.Hid q:=⟨a,b⟩
theorem cZ{p q r:Prop}(a:p)(b:q)(c:r):RowKit.Hid p/\RowKit.Hid q/\RowKit.Hid r:=⟨a,b,c⟩
theorem dT{p q r s:Prop}(a:p)(b:q)(c:r)(d:s):RowKit.Hid p/\RowKit.Hid q/\RowKit.Hid r/\RowKit.Hid s:=⟨a,b,c,d⟩
theorem ec{p q r s t:Prop}(a:p)(b:q)(c:r)(d:s)(e:t):RowKit.Hid p/\RowKit.Hid q/\RowKit.Hid r/\RowKit.Hid s/\RowKit.Hid t:=⟨a,b,c,d,e⟩
theorem ee{p q r s t u:Prop}(a:p)(b:q)(c:r)(d:s)(e:t)(f:u):RowKit.Hid p/\RowKit.Hid q/\RowKit.Hid r/\RowKit.Hid s/\RowKit.Hid t/\RowKit.Hid u:=⟨a,b,c,d,e,f⟩
theorem ep{p q r s t u v:Prop}(a:p)(b:q)(c:r)(d:s)(e:t)(f:u)(g:v):RowKit.Hid p/\RowKit.Hid q/\RowKit.Hid r/\RowKit.Hid s/\RowKit.Hid t/\RowKit.Hid u/\RowKit.Hid v:=⟨a,b,c,d,e,f,g⟩
theorem er{p q r s t u v x:Prop}(a:p)(b:q)(c:r)(d:s)(e:t)(f:u)(g:v)(h:x):RowKit.Hid p/\RowKit.Hid q/\RowKit.Hid r/\RowKit.Hid s/\RowKit.Hid t/\RowKit.Hid u/\RowKit.Hid v/\RowKit.Hid x:=⟨a,b,c,d,e,f,g,h⟩
theorem ey{α:Sort _}(a:α):∃x,RowKit.Hid (x=a):=⟨a,rfl⟩
theorem fo(p:Prop)(h:p):RowKit.Hid p:=h
theorem aa{p:Prop}(h:p:=by (simp[intOf];omega)):p:=h
instance(n:Nat):OfNat Operand n:=⟨.tmp n⟩
abbrev bF (P : Program) (f : FuncId) (a : Array Z) (w : H) (v : Z) : Prop := Calls P f a w λe w'=>e=.returned v/\r7 w w'
abbrev bP (P : Program) (f : FuncId) (a : Array Z) (w : H) (v : Z) : Prop := Calls P f a w λe w'=>e=.returned v/\w'=w
abbrev pa (P : Program) (f : FuncId) (a : Array Z) (w : H) (v : Z) : Prop := Calls P f a w λe w'=>e=.returned v/\w=w'
theorem b44 {P:Program} {f:FuncId} {a:Array Z} {w:H} {c:Ending} {R:H->Prop} {Q:Ending->H->Prop} (h:Calls P f a w λe w'=>e=c/\R w') (k:∀w',R w'->Q c w'):Calls P f a w Q:=h.m λe w' g=>by rw[g.1];exact k _ g.2
