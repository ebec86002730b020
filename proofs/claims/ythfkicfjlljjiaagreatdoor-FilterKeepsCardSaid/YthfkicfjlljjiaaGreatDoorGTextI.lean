/- Joined texts. -/
import Derived.Laws.Tables
import Derived.Deep.MidRow
import Derived.Laws.CopyOwn
import Derived.Lib.OthersKept
import Derived.Test.YthfkicfjlljjiaaGreatDoorGTextH
set_option maxHeartbeats 40000000
namespace Go.Proofs.YthfkicfjlljjiaaGreatDoor
open Tryz
open Go.RowKit
set_option maxRecDepth 10000
section
variable {P:Program} {ops:Array Oper} {rest:List Oper} {o:Oper} {a:Act} {w:H} {Q:Exit->Act->H->Prop}
theorem ll(c:o.guard=none)(v:Z)(d:(execOp a.eval o).run P w=.ok (.value v) w)(h:wpList P ops Q rest (a.put o.dst v) w):wpList P ops Q (o::rest) a w:=by
 refine wpList_plain c λK hK=>?_;unfold Oper.wp;rw[d];exact hK _ _ h
theorem bR(c:o.guard=none)(t:TypeId)(parts:Array (Nat×Operand))(d:o.op=.build t parts)(v:Z)(xs:Array (Nat×Z))(X:parts.map (λ(i,x)=>(i,a.eval x))=xs)(e:∀ w,(Instr.build t xs).run P w=.ok v w)(h:wpList P ops Q rest (a.put o.dst v) w):wpList P ops Q (o::rest) a w:=by
 refine ll c v ?_ h;subst X;unfold execOp;simp only[d,Sem.run_bind,Sem.run_pure,Result.andThen_ok,e]
theorem cP(g:o.guard=none)(t:TypeId)(x i:Operand)(j:o.op=.index t x i)(v:Z)(d c:Z)(f:a.eval x=d)(e:a.eval i=c)(k:∀ w,(Instr.index t d c).run P w=.ok v w)(h:wpList P ops Q rest (a.put o.dst v) w):wpList P ops Q (o::rest) a w:=by
 refine ll g v ?_ h;subst f;subst e;unfold execOp;simp only[j,Sem.run_bind,Sem.run_pure,Result.andThen_ok,k]
theorem aM(d:o.guard=none)(t:TypeId)(e:o.op=.alloc t)(v:Z)(c:H)(f:(Instr.alloc t true (.tuple #[])).run P w=.ok v c)(h:wpList P ops Q rest (a.put o.dst v) c):wpList P ops Q (o::rest) a w:=by
 refine wpList_plain d λK hK=>?_;unfold Oper.wp execOp;simp only[e,Sem.run_bind,Sem.run_pure,Result.andThen_ok,f];exact hK _ _ h
theorem gy(c:o.guard=none)(ty:TypeId)(x y:Operand)(d:o.op=.store ty x y)(cells old:Array Z)(t:TypeId)(X:a.eval x=.pointer (some ⟨w.heap.size,0,none⟩))(hy:a.eval y=.agg cells)
  (hi:(P.info? ty).map (·.size)=some cells.size) (hold:old.size=cells.size) (Y:cells.all (·.oneCell')=true)
  (h:wpList P ops Q rest (a.put o.dst undef) (w.alloc (.cells cells t))):wpList P ops Q (o::rest) a (w.alloc (.cells old t)):=by
 refine wpList_store_row c ty x y d w.heap.size cells X hy t old (heap_alloc_new w _) hi hold Y ?_
 have e:(w.alloc (.cells old t)).setRow w.heap.size cells=w.alloc (.cells cells t):=by
  have hm:∀ (a:Array Obj) (x:Obj) (f:Obj->Obj),(a.push x).modify a.size f=a.push (f x):=by
   intro a x f
   apply Array.ext
   ·simp
   intro i Y I;simp only[Array.getElem_modify,Array.getElem_push];by_cases h:a.size=i
   ·subst h;simp
   have hi:i<a.size:=by simp at Y;omega
   simp[h,hi]
  unfold World.setRow;show({w.alloc (.cells old t)with heap:=(w.heap.push (.cells old t)).modify w.heap.size _}:H)=_;rw[hm];rfl
 rw[e];exact h
theorem vS(c:o.guard=none)(ty:TypeId)(x:Operand)(f:o.op=.load ty x)(cells:Array Z)(t:TypeId)(X:a.eval x=.pointer (some ⟨w.heap.size,0,none⟩))(d:TypeDesc)
  (hu:P.underlying ty=some d) (hd:(match d with | .struct _ | .array _ _=>true|_=>false)=true) (hi:(P.info? ty).map (·.size)=some cells.size)
  (h:wpList P ops Q rest (a.put o.dst (.agg cells)) (w.alloc (.cells cells t))):wpList P ops Q (o::rest) a (w.alloc (.cells cells t)):=by
 refine ll c (.agg cells) ?_ h;have e:=run_loadVar_row (P:=P) (w.alloc (.cells cells t)) w.heap.size t ty cells (0,0) d (heap_alloc_new w _) hu hd hi;unfold execOp;simp only[f,X,Instr.loadAt,Instr.sureAddr,Sem.run_bind,Sem.run_pure,Result.andThen_ok,e]
end
end Go.Proofs.YthfkicfjlljjiaaGreatDoor
set_option maxHeartbeats 40000000
namespace Go.Proofs.YthfkicfjlljjiaaGreatDoor
open Tryz
open Go.RowKit
set_option maxRecDepth 10000
def ua:Array Z->Nat->List Z->Array Z
 |cs,_,[]=>cs
 |cs,k,v::r=>ua (cs.setIfInBounds k v) (k+1) r
structure OB (w0:H) (b:Nat) (T:TypeId) (cs:Array Z) (W:H):Prop where
 a:W.heap[b]? = some (.cells cs T (0,0))
 le:w0.heap.size<=b
 bL:r7 w0 W
section
variable {w0 W W2:H} {b:Nat} {T:TypeId} {cs:Array Z}
theorem OB.lt(i:OB w0 b T cs W):b<W.heap.size:=(bw.1 i.a).1
theorem OB.cell(i:OB w0 b T cs W)(j:Nat):W.cell? ⟨b,j,none⟩=cs[j]?:=by simp[World.cell?,i.a]
theorem OB.aE(i:OB w0 b T cs W){j:Nat}{v:Z}(h:cs[j]? = some v):W.cell? ⟨b,j,none⟩=some v:=(i.cell j).trans h
theorem OB.vz(i:OB w0 b T cs W)(j:Nat):W.frozen? ⟨b,j,none⟩=false:=by simp[World.frozen?,i.a]
theorem OB.new(h:r7 w0 W)(T:TypeId)(cs:Array Z):OB w0 W.heap.size T cs (W.alloc (.cells cs T)):=⟨heap_alloc_new W _,h.size,h.alloc h.size _⟩
theorem OB.fresh(w:H)(T:TypeId)(cs:Array Z):OB w w.heap.size T cs (w.alloc (.cells cs T)):=OB.new (Below.refl _ w) T cs
theorem OB.below(i:OB w0 b T cs W)(h:r7 W W2):OB w0 b T cs W2:=⟨(h.block b i.lt).trans i.a,i.le,i.bL.trans (h.m i.bL.size)⟩
theorem OB.setCell(i:OB w0 b T cs W)(k:Nat)(v:Z):OB w0 b T (cs.setIfInBounds k v) (W.setCell ⟨b,k,none⟩ v):=by
 rw[setCell_eq_setRow W b k cs T (0,0) v i.a];exact⟨setRow_heap W b _ _ _ _ i.a,i.le,below_setRow i.bL i.le _⟩
theorem OB.setCells:∀ (vs:List Z) (k:Nat) {cs:Array Z} {W:H},OB w0 b T cs W->OB w0 b T (ua cs k vs) (W.setCells b k vs)
 | [],_,_,_,i=>i
 |v::r,k,_,_,i=>OB.setCells r (k+1) (i.setCell k v)
theorem OB.there(i:OB w0 b T cs W){o n:Nat}(h:o+n<=cs.size):W.there b o n:=λj hj=>by
 refine⟨?_,i.vz _⟩;rw[i.cell (o+j),cK M0];rfl
theorem OB.load{P:Program}(i:OB w0 b T cs W)(ty:TypeId)(d:TypeDesc)(hu:P.underlying ty=some d)(hd:(match d with | .struct _ | .array _ _=>true|_=>false)=true)(hi:(P.info? ty).map (·.size)=some cs.size):(loadVar ty ⟨b,0,none⟩).run P W=.ok (.agg cs) W :=
 run_loadVar_row (P:=P) W b T ty cs (0,0) d i.a hu hd hi
end
section
variable {P:Program} {ops:Array Oper} {rest:List Oper} {o:Oper} {a:Act} {w:H} {Q:Exit->Act->H->Prop}
theorem oz(w:H)(b k:Nat)(ty T:TypeId)(cs:Array Z)(v:Z)(d:w.heap[b]? = some (.cells cs T (0,0)))(g:k<cs.size)(hi:(P.info? ty).map (·.size)=some 1)(Y:v.oneCell'=true):(storeVar ty ⟨b,k,none⟩ v).run P w=.ok () (w.setCell ⟨b,k,none⟩ v):=by
 have f:v.cells=#[v]:=by cases v <;>first|rfl|cases Y
 have:=run_storeCells_cells (P:=P) b k [v] 0 w (λj e=>by
   obtain rfl:j=0:=by simpa using e
   simp[World.cell?,d,g]) (λj e=>by simp[World.frozen?,d]) (λx X=>by simp at X;subst X;exact Y)
 cases c:P.info? ty with
 |none=>simp[c]at hi
 |some i =>
  have h:i.size=1:=by simpa[c]using hi
  simp only[dH,World.setCells]at this;simp[storeVar,sizeOf,typeInfo,c,f,h,this]
theorem ox(e:o.guard=none)(ty:TypeId)(x y:Operand)(l:o.op=.store ty x y)(w0:H)(b:Nat)(T:TypeId)(cs:Array Z)(i:OB w0 b T cs w)(k:Nat)(v:Z)(X:a.eval x=.pointer (some ⟨b,k,none⟩))(hy:a.eval y=v)
  (h:k<cs.size) (hi:(P.info? ty).map (·.size)=some 1) (Y:v.oneCell'=true) (c:Array Z) (f:cs.setIfInBounds k v=c)
  (K:∀ d,OB w0 b T c d->d.heap.size=w.heap.size->(∀j,j≠b->d.heap[j]? = w.heap[j]?)->wpList P ops Q rest (a.put o.dst undef) d):wpList P ops Q (o::rest) a w:=by
 refine wpList_plain e λ_ hK=>?_;unfold Oper.wp execOp;simp only[l,X,hy,Instr.storeAt,Instr.sureAddr,Sem.run_bind,Sem.run_pure,Result.andThen_ok,oz w b k ty T cs v i.a h hi Y];refine hK _ _ (K _ (f▸i.setCell k v) ?_ ?_)
 ·rw[setCell_eq_setRow w b k cs T (0,0) v i.a,setRow_size]
 intro j g;rw[setCell_eq_setRow w b k cs T (0,0) v i.a,setRow_other w b j _ g]
theorem Ma(d:o.guard=none)(ty:TypeId)(x y:Operand)(h:o.op=.store ty x y)(w0:H)(b:Nat)(T:TypeId)(cs:Array Z)(i:OB w0 b T cs w)(k:Nat)(vs:List Z)(X:a.eval x=.pointer (some ⟨b,k,none⟩))(hy:a.eval y=.agg vs.toArray)
  (g:k+vs.length<=cs.size) (hi:(P.info? ty).map (·.size)=some vs.length) (Y:∀ v∈vs,v.oneCell'=true) (c:Array Z) (f:ua cs k vs=c)
  (K:∀ e,OB w0 b T c e->wpList P ops Q rest (a.put o.dst undef) e):wpList P ops Q (o::rest) a w:=by
 refine wpList_store_mid d ty x y h b k vs.toArray X hy (i.there (by simpa using g)) (by simpa using hi) (all_oneCell_toArray Y) ?_;exact K _ (f▸i.setCells vs k)
theorem CF(c:o.guard=none)(ty:TypeId)(x:Operand)(f:o.op=.load ty x)(w0:H)(b:Nat)(T:TypeId)(cs:Array Z)(i:OB w0 b T cs w)(d:TypeDesc)(X:a.eval x=.pointer (some ⟨b,0,none⟩))
  (hu:P.underlying ty=some d) (hd:(match d with | .struct _ | .array _ _=>true|_=>false)=true) (hi:(P.info? ty).map (·.size)=some cs.size)
  (K:wpList P ops Q rest (a.put o.dst (.agg cs)) w):wpList P ops Q (o::rest) a w:=by
 refine ll c (.agg cs) ?_ K;have e:=i.load (P:=P) ty d hu hd hi;unfold execOp;simp only[f,X,Instr.loadAt,Instr.sureAddr,Sem.run_bind,Sem.run_pure,Result.andThen_ok,e]
end
end Go.Proofs.YthfkicfjlljjiaaGreatDoor
set_option maxHeartbeats 40000000
namespace Go.Proofs.YthfkicfjlljjiaaGreatDoor
open Tryz
open Go.RowKit
set_option maxRecDepth 10000
def sF:Nat->O->List Int
 |0,_=>[]
 |_,[]=>[]
 |f+1,x::r=>((dr (x::r)).1:Int)::sF f ((x::r).drop (dr (x::r)).2)
def runes(l:O):List Int:=sF l.length l
theorem oA(f:Nat)(x:UInt8)(r:O):sF (f+1) (x::r)=((dr (x::r)).1:Int)::sF f ((x::r).drop (dr (x::r)).2):=rfl
theorem tI:∀ (f g:Nat) (l:O),l.length<=f->l.length<=g->sF f l=sF g l
 |0,g,l,h,_=>by
  obtain rfl:l=[]:=az M0;cases g <;>rfl
 |f+1,0,l,_,h=>by
  obtain rfl:l=[]:=az M0;rfl
 |f+1,g+1,[],_,_=>rfl
 |f+1,g+1,x::r,h,c=>by
  have hn:=nV x r;rw[ah]at h c;have hd:((x::r).drop (dr (x::r)).2).length<=r.length:=by rw[aj,ah];omega
  rw[oA,oA,tI f g _ M0 M0]
theorem Mn:runes []=[]:=rfl
theorem wF(x:UInt8)(r:O):runes (x::r)=((dr (x::r)).1:Int)::runes ((x::r).drop (dr (x::r)).2):=by
 have hn:=nV x r;have hd:((x::r).drop (dr (x::r)).2).length<=r.length:=by rw[aj,ah];omega
 unfold runes;rw[ah,oA,tI r.length _ _ hd (ag _)]
theorem tc(l:O)(p:Nat):Utf8.decode (E l) p=dr (l.drop p):=by
 rw[Lib.decode_at,td,aF,aj];simp only[Ab,fz,dH]
theorem GU(s:ByteArray)(w:H)(hs:s.size<=307200000)(hT:uL w) :
  Calls prog 251 #[.string s] w λe w'=>ga w 3 (d8 (runes (kz (ls s)))) e w':=by
 obtain⟨i0,hi0,hz0,hz1,hz2⟩:=info_parts CU;have kb:=run_bytes_of_string (P:=prog) w 9 46 5 s underlying9 underlying46 underlying5;obtain⟨f,l⟩:=V (grownCap w s.size 0 5);have hcp1:s.size<=f:=by rw[l];exact grownCap_ge _ _ _ _
 have hcp2:f<=maxLen:=by rw[l];exact grownCap_le_maxLen _ _ _ _ (by unfold maxLen;omega)
 rw[<-l]at kb;clear l;obtain⟨C,q,u⟩:=Kw w s f 5 ((bytesRow s f).size,(bytesRow s f).size+1)
 have t:Sl (w.heap.size+1) (w.alloc (.cells (bytesRow s f) 5 ((bytesRow s f).size,(bytesRow s f).size+1))).drew (.slice (some ⟨w.heap.size,0,none⟩) s.size f) (Lib.byteCells (ls s)) :=
  ⟨f,by rw[Lib.byteCells_length,ec];exact hcp1,hcp2,.inr ⟨_,0,M0,by rw[Lib.byteCells_length,ec],C⟩⟩
 rw[<-u]at t;have hd:=a08 (ls s) _ _ t (by rw[ec];omega) (hT.below q);have K:=nT _ (ls s) (ag _);rw[ec]at K;obtain⟨D,B⟩:=V (kz (ls s));rw[<-B]at hd K ⊢;clear B;obtain⟨T,Tb⟩:=V (runes D);rw[<-Tb];have TL:=F Tb;clear Tb;have HD:=F hd;clear hd;have HB:=F q;clear q;have HZ:=F u;clear u t C hT;go_enter func251,ntmps251
 go_wp2_with (go_at_call 120;refine(HD.o).m ?_;rintro e w1 ⟨rfl,i⟩;have R:=F i;clear i)
 have a35:r7 w w1:=(HB.o).trans ((R.o).m (by have:=HZ.o;omega));have z:=F a35;clear a35;have DL:(E D).size=D.length:=aF D;have WT:=F DL;clear DL
 go_loopw [3] (λout wr=>∃ (p:Nat) (acc:List Int),p<=D.length/\wr.heap[w1.heap.size]? = some (.stringIter (E D) p)/\wr.ownsRow (w1.heap.size+1) 3 1 out acc.length (d8 acc) /\
   acc++runes (D.drop p)=T/\acc.length<=p/\w1.heap.size<wr.heap.size/\r7 w1 wr) (λ_ wr=>D.length-wr.iterPos w1.heap.size)
 exact⟨0,[],M0,World.iter_heap _ _ _,⟨Oc,.inl ⟨rfl,rfl⟩⟩,by simpa using TL.o.symm,Oc,by simp[World.iter],(Below.refl _ _).alloc (ag _) _⟩
 obtain⟨p,acc,hp,hit,hown,hacc,hal,hwz,hbel⟩:=hrel;have N:=F hit;clear hit;have HO:=F hown;clear hown;have HC:=F hacc;clear hacc;have lZ:=F hbel;clear hbel;by_cases L:p<D.length
 ·have d:∀ ty,(Instr.next (.pointer (some ⟨w1.heap.size,0,none⟩)) true ty).run prog wr=_:=λty=>Lib.run_next_any_at wr w1.heap.size (E D) p ty N.o (by rw[WT.o];exact L)
  have J:=tc D p
  obtain⟨x,r,X⟩:∃ x r,D.drop p=x::r:=by
   cases h:D.drop p with
   |nil=>have:=congrArg List.length h;simp at this;omega
   |cons x r=>exact⟨x,r,rfl⟩
  have hn:=nV x r;have M:=Fs (x::r);have hlen:r.length+1=D.length-p:=by have:=congrArg List.length X;simp at this;omega
  have j:=HC.o;rw[X,wF]at j;rw[J,X]at d;have hdrop:(x::r).drop (dr (x::r)).2=D.drop (p+(dr (x::r)).2):=by rw[<-X,qg]
  rw[hdrop]at j;obtain⟨rn,g,B⟩:∃ rn g,dr (x::r)=(rn,g):=⟨_,_,rfl⟩;rw[B]at d hn M j;simp only at d hn M j;clear B hdrop J;have Ei:=F j;clear j X;obtain⟨hn1,hn2⟩:=hn;have CO:p+g<=D.length:=M0;clear hn2 hlen;have PD:=Lib.iterAt_heap wr w1.heap.size (E D) p (p+g) N.o;have ZE:=Lib.iterAt_size wr w1.heap.size (E D) (p+g);have n:=ownsRow_iterAt HO.o (k:=w1.heap.size) (bV _) (E D) (p+g);have IL:=Lib.below_iterAt (lZ.o) (k:=w1.heap.size) (ag _) (E D) (p+g);obtain⟨wi,v⟩:=V (wr.iterAt w1.heap.size (E D) (p+g));rw[<-v]at PD ZE n IL d;have hpos:wr.iterPos w1.heap.size=p:=iterPos_of N.o;have HWI:=F v;clear v;have Br:=F PD;clear PD;have HIS:=F ZE;clear ZE;have Kc:=F n;clear n;have xt:=F IL;clear IL;have Ke:=F hpos;clear hpos;have hbase:w1.heap.size+1<=wi.heap.size:=by have:=HIS.o;omega
  go_wp2_with (at_builtin;go_must (refine et rfl (.tmp 13) (.tmp 16) _ rfl (w1.heap.size+1) 3 i0 _ 8 underlying25 hi0 hz0 hz1 hz2 rfl _ _ acc.length (d8 acc) rfl Kc.o (.int .i64 rn) rfl rfl M0 M0 hbase ?_);intro v2 w2 hown2 hw2 c;have eJ:=F hown2;clear hown2;have y:=F c;clear c)
  go_roundw
  case rel =>
   have c:=y.o;refine⟨p+g,acc++[(rn:Int)],CO,(c.block _ M0).trans Br.o,?_,?_,?_,M0,(xt.o).trans (c.m M0)⟩
   ·have:=eJ.o
    rw[ae,dq]
    simpa[d8]using this
   ·rw[bB];exact Ei.o
   rw[ae,dq];omega
  case measure =>
   have e2:w2.iterPos w1.heap.size=p+g:=iterPos_of (((y.o).block _ M0).trans Br.o);rw[e2,Ke.o];omega
 have d:∀ ty,(Instr.next (.pointer (some ⟨w1.heap.size,0,none⟩)) true ty).run prog wr=_:=λty=>Lib.run_next_end_at wr w1.heap.size (E D) p ty N.o (by rw[WT.o];exact L)
 go_wp2
 go_ret;have ho:=HO.o;have j:=HC.o;rw[bE M0,Mn,aV]at j;rw[j]at ho;have i:=(z.o).size;exact ga.mk ho M0 ((z.o).trans ((lZ.o).m i))
