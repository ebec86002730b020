import Derived.Laws.Tables
import Derived.Laws.CopyOwn
import Derived.Deep.Cut
import Derived.Test.YtagfilhbpnjhkaaGreatDoorFGEntA
set_option maxRecDepth 10000
set_option maxHeartbeats 0
namespace Go.Proofs.Q
open Tryz Go.RowKit
section
variable {P:Program} {ops:Array Oper} {rest:List Oper} {o:Oper} {a:Act} {w:H} {Q:Exit->Act->H->Prop}
theorem ll(c:o.guard=none)(v:Z)(d:(execOp a.eval o).run P w=.ok (.value v) w)(h:wpList P ops Q rest (a.put o.dst v) w):wpList P ops Q (o::rest) a w:=by
 refine wpList_plain c λK hK=>?_;unfold Oper.wp;rw[d];exact hK _ _ h
theorem bR(c:o.guard=none)(t:TypeId)(parts:Array (Nat×Operand))(d:o.op=.build t parts)(v:Z)(xs:Array (Nat×Z))(X:parts.map (λ(i,x)=>(i,a.eval x))=xs)(e:∀w,(Instr.build t xs).run P w=.ok v w)(h:wpList P ops Q rest (a.put o.dst v) w):wpList P ops Q (o::rest) a w:=by
 refine ll c v ?_ h;subst X;unfold execOp;simp only[d,h2,io,h1,e]
theorem cP(g:o.guard=none)(t:TypeId)(x i:Operand)(j:o.op=.index t x i)(v:Z)(d c:Z)(f:a.eval x=d)(e:a.eval i=c)(k:∀w,(Instr.index t d c).run P w=.ok v w)(h:wpList P ops Q rest (a.put o.dst v) w):wpList P ops Q (o::rest) a w:=by
 refine ll g v ?_ h;subst f;subst e;unfold execOp;simp only[j,h2,io,h1,k]
theorem aM(d:o.guard=none)(t:TypeId)(e:o.op=.alloc t)(v:Z)(c:H)(f:(Instr.alloc t true (.tuple #[])).run P w=.ok v c)(h:wpList P ops Q rest (a.put o.dst v) c):wpList P ops Q (o::rest) a w:=by
 refine wpList_plain d λK hK=>?_;unfold Oper.wp execOp;simp only[e,h2,io,h1,f];exact hK _ _ h
theorem gy(c:o.guard=none)(ty:TypeId)(x y:Operand)(d:o.op=.store ty x y)(cells old:Array Z)(t:TypeId)(X:a.eval x=.pointer (some ⟨w.heap.size,0,none⟩))(hy:a.eval y=.agg cells)
  (hi:(P.info? ty).map (·.size)=some cells.size) (hold:old.size=cells.size) (Y:cells.all (·.oneCell')=true)
  (h:wpList P ops Q rest (a.put o.dst undef) (w.alloc (.cells cells t))):wpList P ops Q (o::rest) a (w.alloc (.cells old t)):=by
 refine wpList_store_row c ty x y d w.heap.size cells X hy t old (jp w _) hi hold Y ?_
 have e:(w.alloc (.cells old t)).setRow w.heap.size cells=w.alloc (.cells cells t):=by
  have hm:∀(a:Array Obj) (x:Obj) (f:Obj->Obj),(a.push x).modify a.size f=a.push (f x):=by
   intro a x f
   apply Array.ext
   ·simp
   intro i Y I;simp only[Array.getElem_modify,Array.getElem_push];by_cases h:a.size=i
   ·subst h;simp
   have hi:i<a.size:=by simp at Y;omega
   simp[h,hi]
  unfold World.setRow;show({w.alloc (.cells old t)with heap:=(w.heap.push (.cells old t)).modify w.heap.size _}:H)=_;rw[hm];rfl
 rw[e];exact h
theorem vS(c:o.guard=none)(ty:TypeId)(x:Operand)(f:o.op=.load ty x)(cells:Array Z)(t:TypeId)(X:a.eval x=.pointer (some ⟨w.heap.size,0,none⟩))(d:TypeDesc)
  (hu:P.underlying ty=some d) (hd:(match d with | .struct _ | .array _ _=>true|_=>false)=true) (hi:(P.info? ty).map (·.size)=some cells.size)
  (h:wpList P ops Q rest (a.put o.dst (.agg cells)) (w.alloc (.cells cells t))):wpList P ops Q (o::rest) a (w.alloc (.cells cells t)):=by
 refine ll c (.agg cells) ?_ h;have e:=run_loadVar_row (P:=P) (w.alloc (.cells cells t)) w.heap.size t ty cells (0,0) d (jp w _) hu hd hi;unfold execOp;simp only[f,X,Instr.loadAt,Instr.sureAddr,h2,io,h1,e]
end
def ua:Array Z->Nat->List Z->Array Z
 |cs,_,[]=>cs
 |cs,k,v::r=>ua (cs.setIfInBounds k v) (k+1) r
structure OB (w0:H) (b:Nat) (T:TypeId) (cs:Array Z) (W:H):Prop where
 a:W.heap[b]?= some (.cells cs T (0,0))
 le:w0.heap.size<=b
 bL:r7 w0 W
section
variable {w0 W W2:H} {b:Nat} {T:TypeId} {cs:Array Z}
theorem OB.lt(i:OB w0 b T cs W):b<W.heap.size:=(bw.1 i.a).1
theorem OB.cell(i:OB w0 b T cs W)(j:Nat):W.cell? ⟨b,j,none⟩=cs[j]?:=by simp[World.cell?,i.a]
theorem OB.aE(i:OB w0 b T cs W){j:Nat}{v:Z}(h:cs[j]?= some v):W.cell? ⟨b,j,none⟩=some v:=(i.cell j).trans h
theorem OB.vz(i:OB w0 b T cs W)(j:Nat):W.frozen? ⟨b,j,none⟩=false:=by simp[World.frozen?,i.a]
theorem OB.new(h:r7 w0 W)(T:TypeId)(cs:Array Z):OB w0 W.heap.size T cs (W.alloc (.cells cs T)):=⟨jp W _,h.size,h.alloc h.size _⟩
theorem OB.fresh(w:H)(T:TypeId)(cs:Array Z):OB w w.heap.size T cs (w.alloc (.cells cs T)):=OB.new (gT _ w) T cs
theorem OB.below(i:OB w0 b T cs W)(h:r7 W W2):OB w0 b T cs W2:=⟨(h.block b i.lt).trans i.a,i.le,i.bL.trans (h.m i.bL.size)⟩
theorem OB.setCell(i:OB w0 b T cs W)(k:Nat)(v:Z):OB w0 b T (cs.setIfInBounds k v) (W.setCell ⟨b,k,none⟩ v):=by
 rw[setCell_eq_setRow W b k cs T (0,0) v i.a];exact⟨setRow_heap W b _ _ _ _ i.a,i.le,below_setRow i.bL i.le _⟩
theorem OB.setCells:∀(vs:List Z) (k:Nat) {cs:Array Z} {W:H},OB w0 b T cs W->OB w0 b T (ua cs k vs) (W.setCells b k vs)
 | [],_,_,_,i=>i
 |v::r,k,_,_,i=>OB.setCells r (k+1) (i.setCell k v)
theorem OB.there(i:OB w0 b T cs W){o n:Nat}(h:o+n<=cs.size):W.there b o n:=λj hj=>by
 refine⟨?_,i.vz _⟩;rw[i.cell (o+j),cK M0];rfl
theorem OB.load{P:Program}(i:OB w0 b T cs W)(ty:TypeId)(d:TypeDesc)(hu:P.underlying ty=some d)(hd:(match d with | .struct _ | .array _ _=>true|_=>false)=true)(hi:(P.info? ty).map (·.size)=some cs.size):(loadVar ty ⟨b,0,none⟩).run P W=.ok (.agg cs) W :=
 run_loadVar_row (P:=P) W b T ty cs (0,0) d i.a hu hd hi
end
section
variable {P:Program} {ops:Array Oper} {rest:List Oper} {o:Oper} {a:Act} {w:H} {Q:Exit->Act->H->Prop}
theorem oz(w:H)(b k:Nat)(ty T:TypeId)(cs:Array Z)(v:Z)(d:w.heap[b]?= some (.cells cs T (0,0)))(g:k<cs.size)(hi:(P.info? ty).map (·.size)=some 1)(Y:v.oneCell'=true):(storeVar ty ⟨b,k,none⟩ v).run P w=.ok () (w.setCell ⟨b,k,none⟩ v):=by
 have f:v.cells=#[v]:=by cases v <;>first|rfl|cases Y
 have:=run_storeCells_cells (P:=P) b k [v] 0 w (λj e=>by
   obtain rfl:j=0:=by simpa using e
   simp[World.cell?,d,g]) (λj e=>by simp[World.frozen?,d]) (λx X=>by simp at X;subst X;exact Y)
 cases c:P.info? ty with
 |none=>simp[c]at hi
 |some i =>
  have h:i.size=1:=by simpa[c]using hi
  simp only[dH,World.setCells]at this;simp[storeVar,sizeOf,typeInfo,c,f,h,this]
theorem ox(e:o.guard=none)(ty:TypeId)(x y:Operand)(l:o.op=.store ty x y)(w0:H)(b:Nat)(T:TypeId)(cs:Array Z)(i:OB w0 b T cs w)(k:Nat)(v:Z)(X:a.eval x=.pointer (some ⟨b,k,none⟩))(hy:a.eval y=v)
  (h:k<cs.size) (hi:(P.info? ty).map (·.size)=some 1) (Y:v.oneCell'=true) (c:Array Z) (f:cs.setIfInBounds k v=c)
  (K:∀d,OB w0 b T c d->d.heap.size=w.heap.size->(∀j,j≠b->d.heap[j]?= w.heap[j]?)->wpList P ops Q rest (a.put o.dst undef) d):wpList P ops Q (o::rest) a w:=by
 refine wpList_plain e λ_ hK=>?_;unfold Oper.wp execOp;simp only[l,X,hy,Instr.storeAt,Instr.sureAddr,h2,io,h1,oz w b k ty T cs v i.a h hi Y];refine hK _ _ (K _ (f▸i.setCell k v) ?_ ?_)
 ·rw[setCell_eq_setRow w b k cs T (0,0) v i.a,setRow_size]
 intro j g;rw[setCell_eq_setRow w b k cs T (0,0) v i.a,setRow_other w b j _ g]
theorem Ma(d:o.guard=none)(ty:TypeId)(x y:Operand)(h:o.op=.store ty x y)(w0:H)(b:Nat)(T:TypeId)(cs:Array Z)(i:OB w0 b T cs w)(k:Nat)(vs:List Z)(X:a.eval x=.pointer (some ⟨b,k,none⟩))(hy:a.eval y=.agg vs.toArray)
  (g:k+vs.length<=cs.size) (hi:(P.info? ty).map (·.size)=some vs.length) (Y:∀v∈vs,v.oneCell'=true) (c:Array Z) (f:ua cs k vs=c)
  (K:∀e,OB w0 b T c e->wpList P ops Q rest (a.put o.dst undef) e):wpList P ops Q (o::rest) a w:=by
 refine wpList_store_mid d ty x y h b k vs.toArray X hy (i.there (by simpa using g)) (by simpa using hi) (all_oneCell_toArray Y) ?_;exact K _ (f▸i.setCells vs k)
theorem CF(c:o.guard=none)(ty:TypeId)(x:Operand)(f:o.op=.load ty x)(w0:H)(b:Nat)(T:TypeId)(cs:Array Z)(i:OB w0 b T cs w)(d:TypeDesc)(X:a.eval x=.pointer (some ⟨b,0,none⟩))
  (hu:P.underlying ty=some d) (hd:(match d with | .struct _ | .array _ _=>true|_=>false)=true) (hi:(P.info? ty).map (·.size)=some cs.size)
  (K:wpList P ops Q rest (a.put o.dst (.agg cs)) w):wpList P ops Q (o::rest) a w:=by
 refine ll c (.agg cs) ?_ K;have e:=i.load (P:=P) ty d hu hd hi;unfold execOp;simp only[f,X,Instr.loadAt,Instr.sureAddr,h2,io,h1,e]
end
theorem rk{o:Option O}{t:O}(h:o=some t):Ending.returned (.tuple #[.string (E t),.bool true])=.returned (.tuple #[S (o.getD []),.bool o.isSome]):=by subst h;rfl
theorem wC{o:Option O}(h:o=none):Ending.returned (.tuple #[.string (E []),.bool false])=.returned (.tuple #[S (o.getD []),.bool o.isSome]):=by subst h;rfl
theorem Po(s:O)(w:H):bP prog 193 #[.string (E s)] w (.tuple #[S ((yv s).getD []),.bool (yv s).isSome]):=by
 obtain⟨b,U⟩:=V (E s);have c:=F (show b.toList=s by rw[U,aB]);rw[<-U];clear U;go_enter func193,ntmps193;go_wp2_with fail
 all_goals
  simp only[c.o,beq_iff_eq,beq_eq_false_iff_ne,ne_eq]at *
  go_ret2
  refine⟨?_,rfl⟩
  first
   |(refine rk ?_;simp_all[yv,CA,look];done)
   |(refine wC ?_;simp_all[yv,CA,look];done)
def nmA:Array Z:=#[.string ⟨#[97,112,111,115]⟩,.int .u8 39,.string ⟨#[99,111,108,111,110]⟩,.int .u8 58,.string ⟨#[115,111,108]⟩,.int .u8 47,.string ⟨#[98,115,111,108]⟩,.int .u8 92,.string ⟨#[113,117,101,115,116]⟩,.int .u8 63,.string ⟨#[110,117,109]⟩,.int .u8 35,.string ⟨#[112,101,114,99,110,116]⟩,.int .u8 37,.string ⟨#[99,111,109,109,97,116]⟩,.int .u8 64,.string ⟨#[101,113,117,97,108,115]⟩,.int .u8 61,.string ⟨#[112,108,117,115]⟩,.int .u8 43,.string ⟨#[99,111,109,109,97]⟩,.int .u8 44,.string ⟨#[112,101,114,105,111,100]⟩,.int .u8 46,.string ⟨#[115,101,109,105]⟩,.int .u8 59,.string ⟨#[101,120,99,108]⟩,.int .u8 33,.string ⟨#[100,111,108,108,97,114]⟩,.int .u8 36,.string ⟨#[97,115,116]⟩,.int .u8 42,.string ⟨#[108,111,119,98,97,114]⟩,.int .u8 95,.string ⟨#[103,114,97,118,101]⟩,.int .u8 96,.string ⟨#[72,97,116]⟩,.int .u8 94,.string ⟨#[108,112,97,114]⟩,.int .u8 40,.string ⟨#[114,112,97,114]⟩,.int .u8 41,.string ⟨#[108,115,113,98]⟩,.int .u8 91,.string ⟨#[114,115,113,98]⟩,.int .u8 93,.string ⟨#[108,99,117,98]⟩,.int .u8 123,.string ⟨#[114,99,117,98]⟩,.int .u8 125,.string ⟨#[118,101,114,98,97,114]⟩,.int .u8 124,.string ⟨#[84,97,98]⟩,.int .u8 9,.string ⟨#[78,101,119,76,105,110,101]⟩,.int .u8 10]
def nmZ:Array Z:=#[.string ⟨#[]⟩,.int .u8 0,.string ⟨#[]⟩,.int .u8 0,.string ⟨#[]⟩,.int .u8 0,.string ⟨#[]⟩,.int .u8 0,.string ⟨#[]⟩,.int .u8 0,.string ⟨#[]⟩,.int .u8 0,.string ⟨#[]⟩,.int .u8 0,.string ⟨#[]⟩,.int .u8 0,.string ⟨#[]⟩,.int .u8 0,.string ⟨#[]⟩,.int .u8 0,.string ⟨#[]⟩,.int .u8 0,.string ⟨#[]⟩,.int .u8 0,.string ⟨#[]⟩,.int .u8 0,.string ⟨#[]⟩,.int .u8 0,.string ⟨#[]⟩,.int .u8 0,.string ⟨#[]⟩,.int .u8 0,.string ⟨#[]⟩,.int .u8 0,.string ⟨#[]⟩,.int .u8 0,.string ⟨#[]⟩,.int .u8 0,.string ⟨#[]⟩,.int .u8 0,.string ⟨#[]⟩,.int .u8 0,.string ⟨#[]⟩,.int .u8 0,.string ⟨#[]⟩,.int .u8 0,.string ⟨#[]⟩,.int .u8 0,.string ⟨#[]⟩,.int .u8 0,.string ⟨#[]⟩,.int .u8 0,.string ⟨#[]⟩,.int .u8 0,.string ⟨#[]⟩,.int .u8 0]
def nmN(k:Nat):O:=(nd.getD k ([],0)).1
def nmC(k:Nat):Nat:=(nd.getD k ([],0)).2
theorem a26(w:H):(Instr.alloc 214 true (Value.tuple #[])).run prog w=.ok (.pointer (some ⟨w.heap.size,0,none⟩)) (w.alloc (.cells nmZ 214)):=Rz
theorem XQ:(prog.info? 214).map (·.size)=some nmA.size:=Rz
theorem a46:nmA.all (·.oneCell')=true:=Rz
theorem a4U{k:Nat}(h:k<28)(w:H):(Instr.index 214 (.agg nmA) (.int .i64 (k:Int))).run prog w=.ok (.agg #[.string (E (nmN k)),.int .u8 (nmC k:Nat)]) w:=by
 rcases(by omega:k=0\/k=1\/k=2\/k=3\/k=4\/k=5\/k=6\/k=7\/k=8\/k=9\/k=10\/k=11\/k=12\/k=13\/k=14\/k=15\/k=16\/k=17\/k=18\/k=19\/k=20\/k=21\/k=22\/k=23\/k=24\/k=25\/k=26\/k=27)with rfl|rfl|rfl|rfl|rfl|rfl|rfl|rfl|rfl|rfl|rfl|rfl|rfl|rfl|rfl|rfl|rfl|rfl|rfl|rfl|rfl|rfl|rfl|rfl|rfl|rfl|rfl|rfl <;>kernel_rfl
theorem VI{k:Nat}(h:k<28)(s:O):look (nd.drop k) s=if s=nmN k then some (nmC k)else look (nd.drop (k+1)) s:=by
 have c:k<nd.length:=h;rw[aC c];unfold nmN nmC;rw[jj,aG c];rfl
theorem Kq(s:O)(w:H):bF prog 223 #[.string (E s)] w (.int .u8 (nN s:Nat)):=by
 obtain⟨b,U⟩:=V (E s);have v:=F (show b.toList=s by rw[U,aB]);rw[<-U];clear U;go_enter func223,ntmps223
 go_wp2_with(first|(refine aM rfl 214 rfl _ _ (a26 _) ?_)|(refine gy rfl 214 _ _ rfl nmA nmZ 214 rfl rfl XQ rfl a46 ?_)|(refine vS rfl 214 _ rfl nmA 214 rfl _ underlying214 rfl XQ ?_))
 go_loopw [36] (λiv wr=>∃k:Nat,k<=28/\iv=.int .i64 k/\look nd s=look (nd.drop k) s/\r7 w wr) (λi _=>28-(intOf i).toNat)
 exact⟨0,M0,rfl,rfl,(gT _ _).alloc (ag _) _⟩
 obtain⟨k,hk,rfl,g,m⟩:=hrel;have HB:=F m;clear m;by_cases p:k<28
 ·have d:=VI p s
  rw[<-g]at d;clear g;obtain⟨n,r,c,q⟩:=ac (nmN k) (nmC k);obtain⟨nb,e⟩:=V (E n);have f:=a4U p;rw[<-r,<-q,<-e]at f;rw[<-r,<-q]at d;have x:=F f;by_cases j:s=n
  ·have u:(nb.toList==b.toList)=true:=by rw[e,aB,v.o,j];simp
   have l:nN s=c:=by unfold nN;rw[d,ge j];rfl
   have y:=F l;clear l d r q e f j
   go_wp2_with(refine cP rfl 214 _ _ rfl _ _ _ rfl rfl x.o ?_)
   go_ret;exact⟨by rw[y.o];rfl,HB.o.alloc HB.o.size _⟩
  have u:(nb.toList==b.toList)=false:=by rw[e,aB,v.o];simp;exact λh=>j h.symm
  rw[gc j]at d;have t:=F d;clear d r q e f j
  go_wp2_with(refine cP rfl 214 _ _ rfl _ _ _ rfl rfl x.o ?_)
  go_roundw
  exact⟨k+1,M0,by go_num,t.o,HB.o.alloc HB.o.size _⟩
  exact aa
 obtain rfl:k=28:=M0;have t:=F g;clear g;go_wp2_with fail;go_ret;exact⟨by unfold nN;rw[t.o];rfl,HB.o⟩
def Sc:Array Z:=#[.int .i64 8364,.int .i64 129,.int .i64 8218,.int .i64 402,.int .i64 8222,.int .i64 8230,.int .i64 8224,.int .i64 8225,.int .i64 710,.int .i64 8240,.int .i64 352,.int .i64 8249,.int .i64 338,.int .i64 141,.int .i64 381,.int .i64 143,.int .i64 144,.int .i64 8216,.int .i64 8217,.int .i64 8220,.int .i64 8221,.int .i64 8226,.int .i64 8211,.int .i64 8212,.int .i64 732,.int .i64 8482,.int .i64 353,.int .i64 8250,.int .i64 339,.int .i64 157,.int .i64 382,.int .i64 376]
def shZ:Array Z:=#[.int .i64 0,.int .i64 0,.int .i64 0,.int .i64 0,.int .i64 0,.int .i64 0,.int .i64 0,.int .i64 0,.int .i64 0,.int .i64 0,.int .i64 0,.int .i64 0,.int .i64 0,.int .i64 0,.int .i64 0,.int .i64 0,.int .i64 0,.int .i64 0,.int .i64 0,.int .i64 0,.int .i64 0,.int .i64 0,.int .i64 0,.int .i64 0,.int .i64 0,.int .i64 0,.int .i64 0,.int .i64 0,.int .i64 0,.int .i64 0,.int .i64 0,.int .i64 0]
theorem Xi(w:H):(Instr.alloc 212 true (Value.tuple #[])).run prog w=.ok (.pointer (some ⟨w.heap.size,0,none⟩)) (w.alloc (.cells shZ 212)):=Rz
theorem XR:(prog.info? 212).map (·.size)=some Sc.size:=Rz
theorem XZ:Sc.all (·.oneCell')=true:=Rz
theorem Uo(w:H)(T:TypeId)(cs:Array Z)(j:Nat):(w.alloc (.cells cs T)).cell? ⟨w.heap.size,j,none⟩=cs[j]?:=by simp only[World.cell?,jp];rfl
theorem a0Q{k:Nat}(h:k<32):Sc[k]?= some (.int .i64 (y8.getD k 0:Nat)):=by
 have d:k<y8.length:=h;have e:Sc=(y8.map λc=>Value.int .i64 (c:Nat)).toArray:=Rz;rw[e,cf,eW,aG d,jj,aG d];rfl
theorem Mp(n:Int)(w:H):bF prog 222 #[.int .i64 n] w (.int .i64 (tL n)):=by
 by_cases h:128<=n/\n<=159
 ·obtain⟨k,rfl⟩:∃k:Nat,n=(k:Int)+128:=⟨(n-128).toNat,M0⟩
  have r:k<32:=M0;have hw:IntKind.i64.wrap ((k:Int)+128-128)=(k:Int):=by rw[show(k:Int)+128-128=k by omega];exact gS _ M0
  have f:tL ((k:Int)+128)=((y8.getD k 0:Nat):Int):=by
   unfold tL;rw[ge h,show((k:Int)+128-128).toNat=k by omega]
  obtain⟨v,l,m,d⟩:=ac (y8.getD k 0) ((k:Int)+128);have c:=a0Q r;rw[<-d]at hw f⊢;rw[<-l]at f c;have i:=F f;have q:=F c;have Y:128<=m:=M0;have I:m<=159:=M0;clear f l c h d;go_enter func222,ntmps222
  go_upto_region 2 with(first|(refine aM rfl 212 rfl _ _ (Xi _) ?_)|(refine gy rfl 212 _ _ rfl Sc shZ 212 rfl rfl XR rfl XZ ?_))
  have hcell:=(Uo w 212 Sc k).trans q.o;have HB:=F<|(gT w.heap.size w).alloc (ag _) (.cells Sc 212);obtain⟨g,p⟩:=ey (w.heap.size);obtain⟨w1,e⟩:=V (w.alloc (.cells Sc 212));rw[<-e]at hcell HB⊢;rw[<-p.o]at hcell HB⊢;clear e;go_wp2_with fail;go_ret;exact⟨by rw[i.o];rfl,by rw[p.o]at HB;exact HB.o⟩
 have i:=F (show tL n=n by unfold tL;rw[gc h]);have s:(128<=n/\159<n)\/n<128:=M0;rcases s with⟨Y,I⟩|Y
 all_goals
  clear h;go_enter func222,ntmps222
  go_wp2_with(first|(refine aM rfl 212 rfl _ _ (Xi _) ?_)|(refine gy rfl 212 _ _ rfl Sc shZ 212 rfl rfl XR rfl XZ ?_))
  go_ret;exact⟨by rw[i.o];rfl,(gT _ _).alloc (ag _) _⟩
