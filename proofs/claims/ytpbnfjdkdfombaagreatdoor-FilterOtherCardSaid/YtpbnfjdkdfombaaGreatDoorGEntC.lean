/- Joined texts. -/
import Derived.Laws.Tables
import Derived.Laws.CopyOwn
import Derived.Deep.Cut
import Derived.Test.YtpbnfjdkdfombaaGreatDoorGTextI
set_option maxHeartbeats 40000000
namespace Go.Proofs.YtpbnfjdkdfombaaGreatDoor
open Tryz
open Go.RowKit
set_option maxRecDepth 10000
section
variable {P:Program} {ops:Array Oper} {rest:List Oper} {o:Oper} {a:Act} {w:H} {Q:Exit->Act->H->Prop}
theorem ll(hg:o.guard=none)(v:Z)(hr:(execOp a.eval o).run P w=.ok (.value v) w)(h:wpList P ops Q rest (a.put o.dst v) w):wpList P ops Q (o::rest) a w:=by
 refine wpList_plain hg λK hK=>?_;unfold Oper.wp;rw[hr];exact hK _ _ h
theorem bR(hg:o.guard=none)(t:TypeId)(parts:Array (Nat×Operand))(ho:o.op=.build t parts)(v:Z)(xs:Array (Nat×Z))(X:parts.map (λ(i,x)=>(i,a.eval x))=xs)(hr:∀ w,(Instr.build t xs).run P w=.ok v w)(h:wpList P ops Q rest (a.put o.dst v) w):wpList P ops Q (o::rest) a w:=by
 refine ll hg v ?_ h;subst X;unfold execOp;simp only[ho,Sem.run_bind,Sem.run_pure,Result.andThen_ok,hr]
theorem cP(hg:o.guard=none)(t:TypeId)(x i:Operand)(ho:o.op=.index t x i)(v:Z)(X' I':Z)(hX:a.eval x=X')(hI:a.eval i=I')(hr:∀ w,(Instr.index t X' I').run P w=.ok v w)(h:wpList P ops Q rest (a.put o.dst v) w):wpList P ops Q (o::rest) a w:=by
 refine ll hg v ?_ h;subst hX;subst hI;unfold execOp;simp only[ho,Sem.run_bind,Sem.run_pure,Result.andThen_ok,hr]
theorem aM(hg:o.guard=none)(t:TypeId)(ho:o.op=.alloc t)(v:Z)(w':H)(hr:(Instr.alloc t true (.tuple #[])).run P w=.ok v w')(h:wpList P ops Q rest (a.put o.dst v) w'):wpList P ops Q (o::rest) a w:=by
 refine wpList_plain hg λK hK=>?_;unfold Oper.wp execOp;simp only[ho,Sem.run_bind,Sem.run_pure,Result.andThen_ok,hr];exact hK _ _ h
theorem gy(hgd:o.guard=none)(ty:TypeId)(x y:Operand)(ho:o.op=.store ty x y)(cells old:Array Z)(t:TypeId)(X:a.eval x=.pointer (some ⟨w.heap.size,0,none⟩))(hy:a.eval y=.agg cells)
  (hi:(P.info? ty).map (·.size)=some cells.size) (hold:old.size=cells.size) (Y:cells.all (·.oneCell')=true)
  (h:wpList P ops Q rest (a.put o.dst undef) (w.alloc (.cells cells t))):wpList P ops Q (o::rest) a (w.alloc (.cells old t)):=by
 refine wpList_store_row hgd ty x y ho w.heap.size cells X hy t old (heap_alloc_new w _) hi hold Y ?_
 have e:(w.alloc (.cells old t)).setRow w.heap.size cells=w.alloc (.cells cells t):=by
  have hm:∀ (a:Array Obj) (x:Obj) (f:Obj->Obj),(a.push x).modify a.size f=a.push (f x):=by
   intro a x f
   apply Array.ext
   ·simp
   intro i Y I;simp only[Array.getElem_modify,Array.getElem_push];by_cases h:a.size=i
   ·subst h;simp
   have hi:i<a.size:=by simp at Y;omega
   simp[h,hi]
  unfold World.setRow;show({w.alloc (.cells old t)with heap:=(w.heap.push (.cells old t)).modify w.heap.size _}:H)=_;rw[hm];rfl
 rw[e];exact h
theorem vS(hgd:o.guard=none)(ty:TypeId)(x:Operand)(ho:o.op=.load ty x)(cells:Array Z)(t:TypeId)(X:a.eval x=.pointer (some ⟨w.heap.size,0,none⟩))(d:TypeDesc)
  (hu:P.underlying ty=some d) (hd:(match d with | .struct _ | .array _ _=>true|_=>false)=true) (hi:(P.info? ty).map (·.size)=some cells.size)
  (h:wpList P ops Q rest (a.put o.dst (.agg cells)) (w.alloc (.cells cells t))):wpList P ops Q (o::rest) a (w.alloc (.cells cells t)):=by
 refine ll hgd (.agg cells) ?_ h;have e:=run_loadVar_row (P:=P) (w.alloc (.cells cells t)) w.heap.size t ty cells (0,0) d (heap_alloc_new w _) hu hd hi;unfold execOp;simp only[ho,X,Instr.loadAt,Instr.sureAddr,Sem.run_bind,Sem.run_pure,Result.andThen_ok,e]
end
end Go.Proofs.YtpbnfjdkdfombaaGreatDoor
set_option maxHeartbeats 40000000
namespace Go.Proofs.YtpbnfjdkdfombaaGreatDoor
open Tryz
open Go.RowKit
set_option maxRecDepth 10000
def ua:Array Z->Nat->List Z->Array Z
 |cs,_,[]=>cs
 |cs,k,v::r=>ua (cs.setIfInBounds k v) (k+1) r
structure OB (w0:H) (b:Nat) (T:TypeId) (cs:Array Z) (W:H):Prop where
 a:W.heap[b]? = some (.cells cs T (0,0))
 le:w0.heap.size<=b
 bL:r7 w0 W
section
variable {w0 W W2:H} {b:Nat} {T:TypeId} {cs:Array Z}
theorem OB.lt(i:OB w0 b T cs W):b<W.heap.size:=(bw.1 i.a).1
theorem OB.cell(i:OB w0 b T cs W)(j:Nat):W.cell? ⟨b,j,none⟩=cs[j]?:=by simp[World.cell?,i.a]
theorem OB.aE(i:OB w0 b T cs W){j:Nat}{v:Z}(h:cs[j]? = some v):W.cell? ⟨b,j,none⟩=some v:=(i.cell j).trans h
theorem OB.vz(i:OB w0 b T cs W)(j:Nat):W.frozen? ⟨b,j,none⟩=false:=by simp[World.frozen?,i.a]
theorem OB.new(h:r7 w0 W)(T:TypeId)(cs:Array Z):OB w0 W.heap.size T cs (W.alloc (.cells cs T)):=⟨heap_alloc_new W _,h.size,h.alloc h.size _⟩
theorem OB.fresh(w:H)(T:TypeId)(cs:Array Z):OB w w.heap.size T cs (w.alloc (.cells cs T)):=OB.new (Below.refl _ w) T cs
theorem OB.below(i:OB w0 b T cs W)(h:r7 W W2):OB w0 b T cs W2:=⟨(h.block b i.lt).trans i.a,i.le,i.bL.trans (h.m i.bL.size)⟩
theorem OB.setCell(i:OB w0 b T cs W)(k:Nat)(v:Z):OB w0 b T (cs.setIfInBounds k v) (W.setCell ⟨b,k,none⟩ v):=by
 rw[setCell_eq_setRow W b k cs T (0,0) v i.a];exact⟨setRow_heap W b _ _ _ _ i.a,i.le,below_setRow i.bL i.le _⟩
theorem OB.setCells:∀ (vs:List Z) (k:Nat) {cs:Array Z} {W:H},OB w0 b T cs W->OB w0 b T (ua cs k vs) (W.setCells b k vs)
 | [],_,_,_,i=>i
 |v::r,k,_,_,i=>OB.setCells r (k+1) (i.setCell k v)
theorem OB.there(i:OB w0 b T cs W){o n:Nat}(h:o+n<=cs.size):W.there b o n:=λj hj=>by
 refine⟨?_,i.vz _⟩;rw[i.cell (o+j),cK M0];rfl
theorem OB.load{P:Program}(i:OB w0 b T cs W)(ty:TypeId)(d:TypeDesc)(hu:P.underlying ty=some d)(hd:(match d with | .struct _ | .array _ _=>true|_=>false)=true)(hi:(P.info? ty).map (·.size)=some cs.size):(loadVar ty ⟨b,0,none⟩).run P W=.ok (.agg cs) W :=
 run_loadVar_row (P:=P) W b T ty cs (0,0) d i.a hu hd hi
end
section
variable {P:Program} {ops:Array Oper} {rest:List Oper} {o:Oper} {a:Act} {w:H} {Q:Exit->Act->H->Prop}
theorem oz(w:H)(b k:Nat)(ty T:TypeId)(cs:Array Z)(v:Z)(hg:w.heap[b]? = some (.cells cs T (0,0)))(hk:k<cs.size)(hi:(P.info? ty).map (·.size)=some 1)(Y:v.oneCell'=true):(storeVar ty ⟨b,k,none⟩ v).run P w=.ok () (w.setCell ⟨b,k,none⟩ v):=by
 have hc:v.cells=#[v]:=by cases v <;>first|rfl|cases Y
 have:=run_storeCells_cells (P:=P) b k [v] 0 w (λj hj=>by
   obtain rfl:j=0:=by simpa using hj
   simp[World.cell?,hg,hk]) (λj hj=>by simp[World.frozen?,hg]) (λx X=>by simp at X;subst X;exact Y)
 cases hq:P.info? ty with
 |none=>simp[hq]at hi
 |some i =>
  have hs:i.size=1:=by simpa[hq]using hi
  simp only[dH,World.setCells]at this;simp[storeVar,sizeOf,typeInfo,hq,hc,hs,this]
theorem ox(hgd:o.guard=none)(ty:TypeId)(x y:Operand)(ho:o.op=.store ty x y)(w0:H)(b:Nat)(T:TypeId)(cs:Array Z)(i:OB w0 b T cs w)(k:Nat)(v:Z)(X:a.eval x=.pointer (some ⟨b,k,none⟩))(hy:a.eval y=v)
  (hk:k<cs.size) (hi:(P.info? ty).map (·.size)=some 1) (Y:v.oneCell'=true) (cs':Array Z) (hc:cs.setIfInBounds k v=cs')
  (K:∀ w',OB w0 b T cs' w'->w'.heap.size=w.heap.size->(∀j,j≠b->w'.heap[j]? = w.heap[j]?)->wpList P ops Q rest (a.put o.dst undef) w'):wpList P ops Q (o::rest) a w:=by
 refine wpList_plain hgd λ_ hK=>?_;unfold Oper.wp execOp;simp only[ho,X,hy,Instr.storeAt,Instr.sureAddr,Sem.run_bind,Sem.run_pure,Result.andThen_ok,oz w b k ty T cs v i.a hk hi Y];refine hK _ _ (K _ (hc▸i.setCell k v) ?_ ?_)
 ·rw[setCell_eq_setRow w b k cs T (0,0) v i.a,setRow_size]
 intro j hj;rw[setCell_eq_setRow w b k cs T (0,0) v i.a,setRow_other w b j _ hj]
theorem Ma(hgd:o.guard=none)(ty:TypeId)(x y:Operand)(ho:o.op=.store ty x y)(w0:H)(b:Nat)(T:TypeId)(cs:Array Z)(i:OB w0 b T cs w)(k:Nat)(vs:List Z)(X:a.eval x=.pointer (some ⟨b,k,none⟩))(hy:a.eval y=.agg vs.toArray)
  (hk:k+vs.length<=cs.size) (hi:(P.info? ty).map (·.size)=some vs.length) (Y:∀ v∈vs,v.oneCell'=true) (cs':Array Z) (hc:ua cs k vs=cs')
  (K:∀ w',OB w0 b T cs' w'->wpList P ops Q rest (a.put o.dst undef) w'):wpList P ops Q (o::rest) a w:=by
 refine wpList_store_mid hgd ty x y ho b k vs.toArray X hy (i.there (by simpa using hk)) (by simpa using hi) (all_oneCell_toArray Y) ?_;exact K _ (hc▸i.setCells vs k)
theorem CF(hgd:o.guard=none)(ty:TypeId)(x:Operand)(ho:o.op=.load ty x)(w0:H)(b:Nat)(T:TypeId)(cs:Array Z)(i:OB w0 b T cs w)(d:TypeDesc)(X:a.eval x=.pointer (some ⟨b,0,none⟩))
  (hu:P.underlying ty=some d) (hd:(match d with | .struct _ | .array _ _=>true|_=>false)=true) (hi:(P.info? ty).map (·.size)=some cs.size)
  (K:wpList P ops Q rest (a.put o.dst (.agg cs)) w):wpList P ops Q (o::rest) a w:=by
 refine ll hgd (.agg cs) ?_ K;have e:=i.load (P:=P) ty d hu hd hi;unfold execOp;simp only[ho,X,Instr.loadAt,Instr.sureAddr,Sem.run_bind,Sem.run_pure,Result.andThen_ok,e]
end
end Go.Proofs.YtpbnfjdkdfombaaGreatDoor
set_option maxHeartbeats 40000000
namespace Go.Proofs.YtpbnfjdkdfombaaGreatDoor
open Tryz
open Go.RowKit
set_option maxRecDepth 10000
theorem rk{o:Option O}{t:O}(h:o=some t):Ending.returned (.tuple #[.string (E t),.bool true])=.returned (.tuple #[S (o.getD []),.bool o.isSome]):=by subst h;rfl
theorem wC{o:Option O}(h:o=none):Ending.returned (.tuple #[.string (E []),.bool false])=.returned (.tuple #[S (o.getD []),.bool o.isSome]):=by subst h;rfl
theorem Po(s:O)(w:H):bP prog 147 #[.string (E s)] w (.tuple #[S ((yv s).getD []),.bool (yv s).isSome]):=by
 obtain⟨b,U⟩:=V (E s);have E':=F (show b.toList=s by rw[U,aB]);rw[<-U];clear U;go_enter func147,ntmps147;go_wp2_with fail
 all_goals
  simp only[E'.o,beq_iff_eq,beq_eq_false_iff_ne,ne_eq]at *
  go_ret2
  refine⟨?_,rfl⟩
  first
   |(refine rk ?_;simp_all[yv,CA,look];done)
   |(refine wC ?_;simp_all[yv,CA,look];done)
def nmA:Array Z:=#[.string ⟨#[97,112,111,115]⟩,.int .u8 39,.string ⟨#[99,111,108,111,110]⟩,.int .u8 58,.string ⟨#[115,111,108]⟩,.int .u8 47,.string ⟨#[98,115,111,108]⟩,.int .u8 92,.string ⟨#[113,117,101,115,116]⟩,.int .u8 63,.string ⟨#[110,117,109]⟩,.int .u8 35,.string ⟨#[112,101,114,99,110,116]⟩,.int .u8 37,.string ⟨#[99,111,109,109,97,116]⟩,.int .u8 64,.string ⟨#[101,113,117,97,108,115]⟩,.int .u8 61,.string ⟨#[112,108,117,115]⟩,.int .u8 43,.string ⟨#[99,111,109,109,97]⟩,.int .u8 44,.string ⟨#[112,101,114,105,111,100]⟩,.int .u8 46,.string ⟨#[115,101,109,105]⟩,.int .u8 59,.string ⟨#[101,120,99,108]⟩,.int .u8 33,.string ⟨#[100,111,108,108,97,114]⟩,.int .u8 36,.string ⟨#[97,115,116]⟩,.int .u8 42,.string ⟨#[108,111,119,98,97,114]⟩,.int .u8 95,.string ⟨#[103,114,97,118,101]⟩,.int .u8 96,.string ⟨#[72,97,116]⟩,.int .u8 94,.string ⟨#[108,112,97,114]⟩,.int .u8 40,.string ⟨#[114,112,97,114]⟩,.int .u8 41,.string ⟨#[108,115,113,98]⟩,.int .u8 91,.string ⟨#[114,115,113,98]⟩,.int .u8 93,.string ⟨#[108,99,117,98]⟩,.int .u8 123,.string ⟨#[114,99,117,98]⟩,.int .u8 125,.string ⟨#[118,101,114,98,97,114]⟩,.int .u8 124,.string ⟨#[84,97,98]⟩,.int .u8 9,.string ⟨#[78,101,119,76,105,110,101]⟩,.int .u8 10]
def nmZ:Array Z:=#[.string ⟨#[]⟩,.int .u8 0,.string ⟨#[]⟩,.int .u8 0,.string ⟨#[]⟩,.int .u8 0,.string ⟨#[]⟩,.int .u8 0,.string ⟨#[]⟩,.int .u8 0,.string ⟨#[]⟩,.int .u8 0,.string ⟨#[]⟩,.int .u8 0,.string ⟨#[]⟩,.int .u8 0,.string ⟨#[]⟩,.int .u8 0,.string ⟨#[]⟩,.int .u8 0,.string ⟨#[]⟩,.int .u8 0,.string ⟨#[]⟩,.int .u8 0,.string ⟨#[]⟩,.int .u8 0,.string ⟨#[]⟩,.int .u8 0,.string ⟨#[]⟩,.int .u8 0,.string ⟨#[]⟩,.int .u8 0,.string ⟨#[]⟩,.int .u8 0,.string ⟨#[]⟩,.int .u8 0,.string ⟨#[]⟩,.int .u8 0,.string ⟨#[]⟩,.int .u8 0,.string ⟨#[]⟩,.int .u8 0,.string ⟨#[]⟩,.int .u8 0,.string ⟨#[]⟩,.int .u8 0,.string ⟨#[]⟩,.int .u8 0,.string ⟨#[]⟩,.int .u8 0,.string ⟨#[]⟩,.int .u8 0,.string ⟨#[]⟩,.int .u8 0,.string ⟨#[]⟩,.int .u8 0]
def nmN(k:Nat):O:=(nd.getD k ([],0)).1
def nmC(k:Nat):Nat:=(nd.getD k ([],0)).2
theorem a26(w:H):(Instr.alloc 211 true (Value.tuple #[])).run prog w=.ok (.pointer (some ⟨w.heap.size,0,none⟩)) (w.alloc (.cells nmZ 211)):=Rz
theorem XQ:(prog.info? 211).map (·.size)=some nmA.size:=Rz
theorem a46:nmA.all (·.oneCell')=true:=Rz
theorem a4U{k:Nat}(h:k<28)(w:H):(Instr.index 211 (.agg nmA) (.int .i64 (k:Int))).run prog w=.ok (.agg #[.string (E (nmN k)),.int .u8 (nmC k:Nat)]) w:=by
 rcases(by omega:k=0\/k=1\/k=2\/k=3\/k=4\/k=5\/k=6\/k=7\/k=8\/k=9\/k=10\/k=11\/k=12\/k=13\/k=14\/k=15\/k=16\/k=17\/k=18\/k=19\/k=20\/k=21\/k=22\/k=23\/k=24\/k=25\/k=26\/k=27)with rfl|rfl|rfl|rfl|rfl|rfl|rfl|rfl|rfl|rfl|rfl|rfl|rfl|rfl|rfl|rfl|rfl|rfl|rfl|rfl|rfl|rfl|rfl|rfl|rfl|rfl|rfl|rfl <;>kernel_rfl
theorem VI{k:Nat}(h:k<28)(s:O):look (nd.drop k) s=if s=nmN k then some (nmC k)else look (nd.drop (k+1)) s:=by
 have hl:k<nd.length:=h;rw[aC hl];unfold nmN nmC;rw[jj,aG hl];rfl
theorem Kq(s:O)(w:H):bF prog 183 #[.string (E s)] w (.int .u8 (nN s:Nat)):=by
 obtain⟨b,U⟩:=V (E s);have E':=F (show b.toList=s by rw[U,aB]);rw[<-U];clear U;go_enter func183,ntmps183
 go_wp2_with (first
  |(refine aM rfl 211 rfl _ _ (a26 _) ?_)
  |(refine gy rfl 211 _ _ rfl nmA nmZ 211 rfl rfl XQ rfl a46 ?_)
  |(refine vS rfl 211 _ rfl nmA 211 rfl _ underlying211 rfl XQ ?_))
 go_loopw [36] (λiv wr=>∃ k:Nat,k<=28/\iv=.int .i64 k/\look nd s=look (nd.drop k) s/\r7 w wr) (λi _=>28-(intOf i).toNat)
 case atStart=>exact⟨0,M0,rfl,rfl,(Below.refl _ _).alloc (ag _) _⟩
 case round =>
  obtain⟨k,hk,rfl,hno,hbl⟩:=hrel;have HB:=F hbl;clear hbl;by_cases hlt:k<28
  ·have hst:=VI hlt s
   rw[<-hno]at hst;clear hno;obtain⟨n,hn⟩:=V (nmN k);obtain⟨c,hc⟩:=V (nmC k);obtain⟨nb,hnb⟩:=V (E n);have hix:=a4U hlt;rw[<-hn,<-hc,<-hnb]at hix;rw[<-hn,<-hc]at hst;have IX:=F hix;by_cases hs:s=n
   ·have hcm:(nb.toList==b.toList)=true:=by rw[hnb,aB,E'.o,hs];simp
    have hbf:nN s=c:=by unfold nN;rw[hst,if_pos hs];rfl
    have HF:=F hbf;clear hbf hst hn hc hnb hix hs
    go_wp2_with (first
     |(refine cP rfl 211 _ _ rfl _ _ _ rfl rfl IX.o ?_))
    go_ret;exact⟨by rw[HF.o];rfl,HB.o.alloc HB.o.size _⟩
   have hcm:(nb.toList==b.toList)=false:=by rw[hnb,aB,E'.o];simp;exact λh=>hs h.symm
   rw[if_neg hs]at hst;have HT:=F hst;clear hst hn hc hnb hix hs
   go_wp2_with (first
    |(refine cP rfl 211 _ _ rfl _ _ _ rfl rfl IX.o ?_))
   go_roundw
   case rel=>exact⟨k+1,M0,by go_num,HT.o,HB.o.alloc HB.o.size _⟩
   case measure=>simp[intOf];omega
  obtain rfl:k=28:=M0;have HT:=F hno;clear hno;go_wp2_with fail;go_ret;exact⟨by unfold nN;rw[HT.o];rfl,HB.o⟩
def Sc:Array Z:=#[.int .i64 8364,.int .i64 129,.int .i64 8218,.int .i64 402,.int .i64 8222,.int .i64 8230,.int .i64 8224,.int .i64 8225,.int .i64 710,.int .i64 8240,.int .i64 352,.int .i64 8249,.int .i64 338,.int .i64 141,.int .i64 381,.int .i64 143,.int .i64 144,.int .i64 8216,.int .i64 8217,.int .i64 8220,.int .i64 8221,.int .i64 8226,.int .i64 8211,.int .i64 8212,.int .i64 732,.int .i64 8482,.int .i64 353,.int .i64 8250,.int .i64 339,.int .i64 157,.int .i64 382,.int .i64 376]
def shZ:Array Z:=#[.int .i64 0,.int .i64 0,.int .i64 0,.int .i64 0,.int .i64 0,.int .i64 0,.int .i64 0,.int .i64 0,.int .i64 0,.int .i64 0,.int .i64 0,.int .i64 0,.int .i64 0,.int .i64 0,.int .i64 0,.int .i64 0,.int .i64 0,.int .i64 0,.int .i64 0,.int .i64 0,.int .i64 0,.int .i64 0,.int .i64 0,.int .i64 0,.int .i64 0,.int .i64 0,.int .i64 0,.int .i64 0,.int .i64 0,.int .i64 0,.int .i64 0,.int .i64 0]
theorem Xi(w:H):(Instr.alloc 209 true (Value.tuple #[])).run prog w=.ok (.pointer (some ⟨w.heap.size,0,none⟩)) (w.alloc (.cells shZ 209)):=Rz
theorem XR:(prog.info? 209).map (·.size)=some Sc.size:=Rz
theorem XZ:Sc.all (·.oneCell')=true:=Rz
theorem Uo(w:H)(T:TypeId)(cs:Array Z)(j:Nat):(w.alloc (.cells cs T)).cell? ⟨w.heap.size,j,none⟩=cs[j]?:=by simp only[World.cell?,heap_alloc_new];rfl
theorem a0Q{k:Nat}(h:k<32):Sc[k]? = some (.int .i64 (y8.getD k 0:Nat)):=by
 have hl:k<y8.length:=h;have e:Sc=(y8.map λc=>Value.int .i64 (c:Nat)).toArray:=Rz;rw[e,cf,eW,aG hl,jj,aG hl];rfl
theorem Mp(n:Int)(w:H):bF prog 182 #[.int .i64 n] w (.int .i64 (tL n)):=by
 by_cases h:128<=n/\n<=159
 ·obtain⟨k,rfl⟩:∃ k:Nat,n=(k:Int)+128:=⟨(n-128).toNat,M0⟩
  have hk:k<32:=M0;have hw:IntKind.i64.wrap ((k:Int)+128-128)=(k:Int):=by rw[show(k:Int)+128-128=k by omega];exact IntWalk.i64_in _ M0
  have hs:tL ((k:Int)+128)=((y8.getD k 0:Nat):Int):=by
   unfold tL;rw[if_pos h,show((k:Int)+128-128).toNat=k by omega]
  obtain⟨v,hv⟩:=V (y8.getD k 0);obtain⟨nn,hnn⟩:=V ((k:Int)+128);have hsk:=a0Q hk;rw[<-hnn]at hw hs ⊢;rw[<-hv]at hs hsk;have HS:=F hs;have HK:=F hsk;have Y:128<=nn:=M0;have I:nn<=159:=M0;clear hs hv hsk h hnn;go_enter func182,ntmps182
  go_upto_region 2 with(first
   |(refine aM rfl 209 rfl _ _ (Xi _) ?_)
   |(refine gy rfl 209 _ _ rfl Sc shZ 209 rfl rfl XR rfl XZ ?_))
  have hcell:=(Uo w 209 Sc k).trans HK.o;have HB:=F<|(Below.refl w.heap.size w).alloc (ag _) (.cells Sc 209);obtain⟨g,hg⟩:=V (w.heap.size);obtain⟨w1,hw1⟩:=V (w.alloc (.cells Sc 209));rw[<-hw1]at hcell HB ⊢;rw[<-hg]at hcell HB ⊢;have HG:=F hg;clear hg hw1;go_wp2_with fail;go_ret;exact⟨by rw[HS.o];rfl,by rw[HG.o]at HB;exact HB.o⟩
 have HS:=F (show tL n=n by unfold tL;rw[if_neg h]);have hn:(128<=n/\159<n)\/n<128:=M0;rcases hn with⟨Y,I⟩|Y
 all_goals
  clear h;go_enter func182,ntmps182
  go_wp2_with (first
   |(refine aM rfl 209 rfl _ _ (Xi _) ?_)
   |(refine gy rfl 209 _ _ rfl Sc shZ 209 rfl rfl XR rfl XZ ?_))
  go_ret;exact⟨by rw[HS.o];rfl,(Below.refl _ _).alloc (ag _) _⟩
