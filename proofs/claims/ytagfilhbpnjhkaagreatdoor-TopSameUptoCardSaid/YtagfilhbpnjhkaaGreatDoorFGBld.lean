import Derived.Lib.Builder
import Derived.Maps.AppendAt
import Derived.Test.YtagfilhbpnjhkaaGreatDoorProg
import Derived.Test.YtagfilhbpnjhkaaGreatDoorFGBase
import Derived.Test.YtagfilhbpnjhkaaGreatDoorShel
set_option maxRecDepth 10000
set_option maxHeartbeats 0
namespace Go.Proofs.Q
open Tryz Go.RowKit
variable{w':H}
structure Fr (S:Nat->Prop) (w w':H):Prop where
 os:w'.os=w.os
 tape:w'.tape=w.tape
 output:w'.output=w.output
 size:w.heap.size<=w'.heap.size
 block:∀k,k<w.heap.size->¬S k->w'.heap[k]?= w.heap[k]?
theorem Fr.below{S:Nat->Prop}{w:H}{B:Nat}(h:Fr S w w')(hB:B<=w.heap.size)(a:∀k,S k->B<=k):Below B w w' :=
 ⟨h.os,h.tape,h.output,h.size,λk hk=>h.block k M0 (λc=>by have:=a k c;omega)⟩
theorem Fr.trans{S:Nat->Prop}{a b c:H}(h:Fr S a b)(k:Fr S b c):Fr S a c :=
 ⟨k.os.trans h.os,k.tape.trans h.tape,k.output.trans h.output,am h.size k.size,λi hi d=>(k.block i (aN hi h.size) d).trans (h.block i hi d)⟩
theorem Fr.of_below{S:Nat->Prop}{w:H}(h:r7 w w'):Fr S w w':=⟨h.os,h.tape,h.output,h.size,λk a _=>h.block k a⟩
theorem Fr.m{S a:Nat->Prop}{w:H}(h:Fr S w w')(c:∀k,S k->a k):Fr a w w':=⟨h.os,h.tape,h.output,h.size,λk d e=>h.block k d (λf=>e (c k f))⟩
def ql(p:Z)(b:Nat)(g:Option Nat)(l:O)(w:H):Prop :=
 ∃v,w.heap[b]?= some (.cells #[p,v] 70 (0,0))/\w.ownsRow 0 5 1 v l.length (Lib.byteCells l)/\v.ownBlock=g
def sR(b:Nat)(g:Option Nat)(l:O)(w:H):Prop:=ql (.pointer none) b g l w\/ql (.pointer (some ⟨b,0,none⟩)) b g l w
theorem yd:(prog.info? 70).map (·.size)=some 2:=Rz
theorem Oe:liesAt prog prog.depth 70 (2/prog.cellsOf 70) 0 70 1=true:=Rz
theorem E9:(prog.info? 5).map (λi=>(i.zero,i.size,i.bytes))=some (some (.int .u8 0),1,1):=Rz
theorem ql.lt{p:Z}{b:Nat}{g:Option Nat}{l:O}{w:H}(h:ql p b g l w):b<w.heap.size:=by
 obtain⟨v,U,_⟩:=h;rcases cI b w.heap.size with c|a
 ·exact c
 rw[cD a]at U;cases U
theorem ql.a8X{p:Z}{b:Nat}{g:Option Nat}{l:O}{w:H}(h:ql p b g l w):∀k,g=some k->k<w.heap.size:=by
 obtain⟨v,U,d,a⟩:=h;intro k c;exact(d.lt k (a.trans c)).2
theorem ql.UR{p:Z}{b:Nat}{g:Option Nat}{l:O}{w:H}(h:ql p b g l w):g≠some b:=by
 obtain⟨v,U,c,a⟩:=h;rw[<-a];exact Lib.ownBlock_ne c U P8
theorem sR.lt{b:Nat}{g:Option Nat}{l:O}{w:H}(h:sR b g l w):b<w.heap.size:=by rcases h with h|h <;>exact h.lt
theorem sR.fresh(w:H):sR w.heap.size none [] (w.alloc (.cells #[.pointer none,.slice none 0 0] 70)) :=
 .inl ⟨.slice none 0 0,jp w _,⟨by simp[Lib.byteCells],.inl ⟨rfl,rfl⟩⟩,rfl⟩
theorem ql.keep{p:Z}{b:Nat}{g:Option Nat}{l:O}{w:H}(h:ql p b g l w)(f:∀k,k<w.heap.size->(k=b\/g=some k)->w'.heap[k]?= w.heap[k]?):ql p b g l w':=by
 have d:=h.lt;have c:=h.a8X;obtain⟨v,U,j,i⟩:=h;refine⟨v,(f b d (.inl rfl)).trans U,⟨j.1,?_⟩,i⟩;rcases j.2 with I|⟨a,cap,cur,rfl,m,a2,a3⟩
 ·exact .inl I
 refine .inr ⟨a,cap,cur,rfl,m,?_,a3⟩;have e:g=some a:=by rw[<-i];rfl
 exact(f a (c a e) (.inr e)).trans a2
theorem sR.keep{b:Nat}{g:Option Nat}{l:O}{w:H}(h:sR b g l w)(a:∀k,k<w.heap.size->(k=b\/g=some k)->w'.heap[k]?= w.heap[k]?):sR b g l w':=by
 rcases h with h|h
 ·exact .inl (h.keep a)
 exact .inr (h.keep a)
theorem sR.below{b:Nat}{g:Option Nat}{l:O}{w:H}(h:sR b g l w)(U:r7 w w'):sR b g l w':=h.keep λk a _=>U.block k a
theorem b7X(b:Nat)(w:H)(h0:w.cell? ⟨b,0,none⟩=some (.pointer (some ⟨b,0,none⟩))) :
  bP prog 60 #[.pointer (some ⟨b,0,none⟩)] w (.tuple #[]):=by
 obtain⟨j,a,_⟩:=cY.1 yd;go_enter func60,ntmps60
 go_wp2
 rw[Lib.run_neq_ptr_same w _ underlying68 a]
 go_wp2
 go_end0
 exact⟨rfl,rfl⟩
theorem BP(b:Nat)(w:H)(h0:w.cell? ⟨b,0,none⟩=some (.pointer none))(a:w.shape? b=some (70,2))(hfz:w.frozen? ⟨b,0,none⟩=false) :
  Calls prog 60 #[.pointer (some ⟨b,0,none⟩)] w λe w'=>e=.returned (.tuple #[])/\w'=w.setCell ⟨b,0,none⟩ (.pointer (some ⟨b,0,none⟩)):=by
 obtain⟨j,d,c⟩:=cY.1 yd;go_enter func60,ntmps60
 go_wp2
 rw[Lib.run_to_unsafe w ⟨b,0,none⟩ underlying68 underlying133 d (by rw[c];decide) a (Nat.zero_lt_succ 1)];simp only[Result.andThen];rw[Oper.upon_value]
 go_wp2
 rw[run_callFunc_extern func103 Rz Rz Rz (e:=Extern.AbiNoEscape.same) Rz];rw[Lib.run_noEscape];simp only[Result.andThen];rw[Oper.upon_value]
 go_wp2
 rw[Lib.run_from_unsafe w ⟨b,0,none⟩ underlying133 underlying68 d a Oe];simp only[Result.andThen];rw[Oper.upon_value]
 go_wp2
 go_end0
 exact⟨rfl,rfl⟩
theorem r9{b:Nat}{g:Option Nat}{l:O}{w:H}(h:sR b g l w) :
  Calls prog 60 #[.pointer (some ⟨b,0,none⟩)] w λe w'=>e=.returned (.tuple #[])/\ql (.pointer (some ⟨b,0,none⟩)) b g l w'/\Fr (·=b) w w'/\w'.heap.size=w.heap.size:=by
 rcases h with h|h
 ·have hlt:=h.lt
  obtain⟨v,U,a,d⟩:=h;refine(BP b w (by rw[Lib.cell_of_heap U];rfl) (by simp[World.shape?,U]) (Lib.frozen_of_heap U 0)).e ?_;have c:v.ownBlock≠some b:=Lib.ownBlock_ne a U P8;refine⟨rfl,⟨v,?_,⟨a.1,?_⟩,d⟩,⟨rfl,rfl,rfl,by simp[World.setCell],λk _ j=>Below.heap_setCell _ _ _ _ j⟩,by simp[World.setCell]⟩
  ·simp[World.setCell,Array.getElem?_modify,U]
  rcases a.2 with I|⟨i,cap,cur,rfl,f,a2,a3⟩
  ·exact .inl I
  exact .inr ⟨i,cap,cur,rfl,f,(Below.heap_setCell _ _ _ _ (λe=>c (by simp only at e;rw[e];rfl))).trans a2,a3⟩
 have ⟨v,U,a,d⟩:=h;refine(b7X b w (by rw[Lib.cell_of_heap U];rfl)).e ?_;exact⟨rfl,h,⟨rfl,rfl,rfl,ag _,λ_ _ _=>rfl⟩,rfl⟩
def EM(w:H)(b:Nat)(g:Option Nat)(l:O)(w':H):Prop :=
 ∃g',sR b g' l w'/\(g'=g\/∃k,g'=some k/\w.heap.size<=k)/\Fr (λk=>k=b\/g=some k) w w'
theorem zP{f j:H}{b:Nat}{v d:Z}{l':O}{g:Option Nat}(U:f.heap[b]?= some (.cells #[.pointer (some ⟨b,0,none⟩),v] 70 (0,0)))(m:v.ownBlock=g)(q:g≠some b)
  (r:j.ownsRow 0 5 1 d l'.length (Lib.byteCells l')) (l:d.ownBlock=v.ownBlock\/∃k,d.ownBlock=some k/\f.heap.size<=k) (a:f.grownBy j v.ownBlock):EM f b g l' (j.setCell ⟨b,1,none⟩ d):=by
 have c:b<f.heap.size:=by
  rcases cI b f.heap.size with c|n
  ·exact c
  rw[cD n]at U;cases U
 have i:j.heap[b]?= some (.cells #[.pointer (some ⟨b,0,none⟩),v] 70 (0,0)):=by
  rw[a.block b c (λe=>q (by rw[<-m];exact e.symm))];exact U
 have hne2:d.ownBlock≠some b:=Lib.ownBlock_ne r i P8;refine⟨d.ownBlock,.inr ⟨d,?_,⟨r.1,?_⟩,rfl⟩,?_,⟨a.os,a.tape,a.output,?_,λk w s=>?_⟩⟩
 ·simp[World.setCell,Array.getElem?_modify,i]
 ·rcases r.2 with I|⟨u,cap,cur,rfl,t,a2,a3⟩
  ·exact .inl I
  exact .inr ⟨u,cap,cur,rfl,t,(Below.heap_setCell _ _ _ _ (λe=>hne2 (by simp only at e;rw[e];rfl))).trans a2,a3⟩
 ·rcases l with h|h
  ·exact .inl (h.trans m)
  exact .inr h
 ·simpa[World.setCell]using a.size
 have o:k≠b:=λe=>s (.inl e);have p:some k≠v.ownBlock:=λe=>s (.inr (by rw[<-m];exact e.symm));exact(Below.heap_setCell _ _ _ _ o).trans (a.block k w p)
theorem ES{P:Program}(w:H)(t u ty e:TypeId)(i:TypeInfo)(s:P.underlying t=some (.slice e))(hu:P.underlying u=some .string)(hi:P.info? e=some i)(y:i.zero=some (.int .u8 0))
  (hsize:i.size=1) (d:i.bytes=1) (v:Z) (n:Nat) (l m:O) (hown:w.ownsRow 0 e 1 v n (Lib.byteCells l)) (hlen:n+m.length<=1099511627776) :
  ∃c w',(Builtin.append_ #[t,u] ty #[v,.string (E m)]).run P w=.ok c w'/\w'.ownsRow 0 e 1 c (n+m.length) (Lib.byteCells (l++m))/\w.grownBy w' v.ownBlock /\
   (c.ownBlock=v.ownBlock\/∃k,c.ownBlock=some k/\w.heap.size<=k):=by
 have hcells:Lib.byteCells l++Lib.strCells (E m)=Lib.byteCells (l++m):=by simp[Lib.byteCells,Lib.strCells,E]
 have o:n+(E m).size<=maxLen:=by rw[aF];unfold maxLen;omega
 have p:n+(E m).size<=140737488355328:=by rw[aF];omega
 rcases hown.2 with⟨rfl,rfl⟩|⟨g,cap,cur,rfl,_,B,hnc,hcm,hcs,htake⟩
 ·have C:w.ownsRow w.heap.size e 1 (.slice none 0 0) 0 (Lib.byteCells l):=⟨hown.1,.inl ⟨rfl,rfl⟩⟩
  obtain⟨c,w',q,j,f,hnil⟩:=Lib.run_append_own_string (P:=P) w w.heap.size t u ty e i s hu hi y hsize d _ 0 _ C (E m) o p (ag _);rw[aF,hcells]at j;refine⟨c,w',q,⟨j.1,?_⟩,f,?_⟩
  ·rcases j.2 with h|⟨g,cap,cur,z,a2,a3⟩
   ·exact .inl h
   exact .inr ⟨g,cap,cur,z,aL _,a3⟩
  cases r:c.ownBlock with
  |none=>exact .inl rfl
  |some k=>exact .inr ⟨k,rfl,(j.lt k r).1⟩
 obtain⟨c,w',q,j,f,hnil⟩:=Lib.run_append_own_string (P:=P) w 0 t u ty e i s hu hi y hsize d _ n _ hown (E m) o p (aL _);rw[aF,hcells]at j;refine⟨c,w',q,j,f,?_⟩;by_cases hroom:n+(E m).size<=cap
 ·have a:=Lib.run_append_room_string (P:=P) w t u ty e i s hu hi hsize g n cap cur B (E m) hroom (by omega)
  rw[q]at a;injection a with r hw
  exact .inl (by rw[r];rfl)
 have x:(Lib.byteCells l).length=n:=by simpa using hown.1
 have a:=Lib.run_append_grow_string (P:=P) w t u ty e i (.int .u8 0) s hu hi y ⟨g,0,none⟩ n cap (Lib.byteCells l) (by rw[hsize];simpa using x) (hown.cells (g:=g) rfl) (E m) M0 M0 (by rw[d];exact growslice_fits M0 M0);rw[q]at a;injection a with r hw
 exact .inr ⟨w.heap.size,by rw[r];rfl,ag _⟩
theorem py{b:Nat}{g:Option Nat}{l:O}{w:H}(m:O)(h:sR b g l w)(hlen:l.length+m.length<=1099511627776) :
  Calls prog 27 #[.pointer (some ⟨b,0,none⟩),.string (E m)] w λe w'=>e=.returned (.tuple #[.int .i64 m.length,.nilIface])/\EM w b g (l++m) w':=by
 obtain⟨i0,hi,t,u,x⟩:=info_parts E9;have D:=r9 h;have M:=F D;clear D;have T:w.heap.size=w.heap.size:=rfl;have i:(E m).size=m.length:=aF m;have B:=F i;clear i T;obtain⟨s,i⟩:=ey (E m);rw[<-i.o]at B⊢;go_enter func27,ntmps27
 go_wp2_with(go_at_call 60;refine(M.o).m ?_)
 rintro e y⟨rfl,n,f,K⟩;have hlt1:=n.lt;have hne1:=n.UR;obtain⟨v,U,J,j⟩:=n;obtain⟨v',z,p,d,c,hloc⟩:=ES (P:=prog) y 25 9 25 5 i0 underlying25 underlying9 hi t u x v l.length l m J M0;rw[<-i.o]at p;have c0:y.cell? ⟨b,0,none⟩=some (.pointer (some ⟨b,0,none⟩)):=by rw[Lib.cell_of_heap U];rfl
 have c1:y.cell? ⟨b,1,none⟩=some v:=by rw[Lib.cell_of_heap U];rfl
 have a:z.heap[b]?= some (.cells #[.pointer (some ⟨b,0,none⟩),v] 70 (0,0)):=by
  rw[c.block b hlt1 (λe=>hne1 (by rw[<-j];exact e.symm))];exact U
 have d1:z.cell? ⟨b,1,none⟩=some v:=by rw[Lib.cell_of_heap a];rfl
 have f1:z.frozen? ⟨b,1,none⟩=false:=Lib.frozen_of_heap a 1;have hput:=zP (l':=l++m) U j hne1 (by rw[ae];exact d) hloc c
 obtain⟨C,L,cap,rfl⟩:∃C L cap,v'=.slice C L cap:=by
  rcases d.2 with⟨r,_⟩|⟨g,cap,cur,r,_⟩
  ·exact⟨_,_,_,r⟩
  exact⟨_,_,_,r⟩
 have R:=F p;clear p;have Q:=F hput;clear hput;have N:=F f;clear f;clear c hloc d J U a;have W:=F K;clear K;have HG:=F j;clear j
 go_wp2_with(at_builtin;go_must (refine mj rfl 12 13 _ _ rfl _ _ _ _ rfl rfl R.o ?_))
 go_ret2
 refine⟨by rw[<-B.o];rfl,?_⟩;obtain⟨g',a1,a2,a3⟩:=Q.o;exact⟨g',a1,by rw[<-W.o];exact a2,(N.o.m (λk hk=>Or.inl hk)).trans a3⟩
theorem rS{P:Program}(w:H)(t ty e:TypeId)(i:TypeInfo)(r:P.underlying t=some (.slice e))(hi:P.info? e=some i)(K:i.zero=some (.int .u8 0))
  (hsize:i.size=1) (p:i.bytes=1) (v:Z) (n:Nat) (l m:O) (hown:w.ownsRow 0 e 1 v n (Lib.byteCells l)) (hlen:n+m.length<=1099511627776) (B:Nat) (x:Z) (X:Sl B w x (Lib.byteCells m)) :
  ∃d w',(Builtin.append_ #[t,t] ty #[v,x]).run P w=.ok d w'/\w'.ownsRow 0 e 1 d (n+m.length) (Lib.byteCells (l++m))/\w.grownBy w' v.ownBlock /\
   (d.ownBlock=v.ownBlock\/∃k,d.ownBlock=some k/\w.heap.size<=k):=by
 have hcells:Lib.byteCells l++Lib.byteCells m=Lib.byteCells (l++m):=by simp[Lib.byteCells]
 have some_:∀(f:Addr) (c:Nat),(∀j u,(Lib.byteCells m)[j]?= some u->w.cell? (f.add j)=some u)->∃d w',(Builtin.append_ #[t,t] ty #[v,.slice (some f) m.length c]).run P w=.ok d w'/\w'.ownsRow 0 e 1 d (n+m.length) (Lib.byteCells (l++m))/\w.grownBy w' v.ownBlock /\
   (d.ownBlock=v.ownBlock\/∃k,d.ownBlock=some k/\w.heap.size<=k):=by
  intro f c s
  obtain⟨d,w',Y,I,y,_,z⟩:=run_append_own_at (P:=P) w 0 t ty e i (.int .u8 0) 1 1 r hi K hsize p rfl P8 v n _ hown f m.length c (Lib.byteCells m) (by simp[hb]) s
   (λu hu=>by simp only[Lib.byteCells,dt]at hu;obtain⟨_,_,rfl⟩:=hu;rfl) (by unfold maxLen;omega) M0 (aL _)
  rw[hcells]at I;refine⟨d,w',Y,I,y,?_⟩;rcases z with h|h
  ·exact .inl h
  exact .inr ⟨_,h,ag _⟩
 obtain⟨c,s,hm,h⟩:=X;rcases h with⟨J,a,rfl⟩|⟨b,o,U,rfl,C⟩
 ·obtain rfl:m=[]:=by simpa[Lib.byteCells]using J
  cases a with
  |some a=>exact some_ a c (λj u hu=>by simp[Lib.byteCells]at hu)
  |none =>
   refine⟨v,w,?_,by simpa using hown,⟨rfl,rfl,rfl,ag _,λ_ _ _=>rfl⟩,.inl rfl⟩;rcases hown.2 with⟨rfl,rfl⟩|⟨g,cap,cur,rfl,_,hg,q,hcm,hcs,htake⟩
   ·simp[Builtin.append_,run_underlying r,sizeOf,typeInfo,hi,Builtin.lenOf,Builtin.firstCells]
   simp[Builtin.append_,run_underlying r,sizeOf,typeInfo,hi,Builtin.lenOf,Builtin.firstCells,q,storeCells]
 rw[hb];refine some_ ⟨b,o,none⟩ c (λj u hu=>?_);obtain⟨D,rfl⟩:=bh.1 hu;rw[addr_add];exact C j D
theorem Kt:Builder.Extra prog laysStr_ren:={
 sizeBuilder:=Rz,
 liesBuilder:=Rz,
 t5:=underlying5,
 a5:=isAgg5,
 z5:=sizeOf5,
 v5:=zeroValue5,
 infoByte:=Rz,
 cellsByte:=Rz,
 sizeByte:=Rz,
 neB5:=by decide}
theorem kX{b:Nat}{g:Option Nat}{l:O}{w:H}(B:Nat)(h:sR b g l w)(a:B<=b)(c:∀k,g=some k->B<=k) :
  Calls prog 33 #[.pointer (some ⟨b,0,none⟩)] w λe w'=>e=.returned (S l)/\Below B w w':=by
 have hlt:=h.lt
 have at_:∀p,ql p b g l w->Lib.BuilderAt 70 5 B b p (Lib.byteCells l) w:=by
  intro p hp;have d:=hp.UR;obtain⟨v,U,j,i⟩:=hp;refine⟨a,v,U,?_,by rw[i];exact d⟩;rw[hb];refine⟨j.1,?_⟩;rcases j.2 with I|⟨f,cap,cur,rfl,a1,a2,a3⟩
  ·exact .inl I
  exact .inr ⟨f,cap,cur,rfl,c f (by rw[<-i];rfl),a2,a3⟩
 have U:Lib.IsBuilder 70 5 B b (Lib.byteCells l) w:=by
  rcases h with h|h
  ·exact .inl (at_ _ h)
  exact .inr (at_ _ h)
 exact Any.Builder_String_any laysStr Kt B b l w U M0

theorem pM{b:Nat}{g:Option Nat}{l:O}{w:H}(m:UInt8)(h:sR b g l w)(hlen:l.length+1<=1099511627776) :
  Calls prog 28 #[.pointer (some ⟨b,0,none⟩),.int .u8 (G m)] w λe w'=>e=.returned .nilIface/\EM w b g (l++[m]) w':=by
 obtain⟨i0,hi,z,B,C⟩:=info_parts E9;have K:=r9 h;have T:=F K;clear K;obtain⟨M,HM⟩:=ey (G m:Int);rw[<-HM.o];go_enter func28,ntmps28
 go_wp2_with(go_at_call 60;refine(T.o).m ?_)
 rintro e a⟨rfl,t,n,y⟩;have hlt1:=t.lt;have hne1:=t.UR;obtain⟨v,U,L,r⟩:=t
 have s:(a.alloc (.cells #[.int .u8 M] 5)).heap[b]?= some (.cells #[.pointer (some ⟨b,0,none⟩),v] 70 (0,0)):=by
  rw[Below.heap_alloc _ _ _ hlt1];exact U
 have X:Sl (a.heap.size+1) (a.alloc (.cells #[.int .u8 M] 5)) (.slice (some ⟨a.heap.size,0,none⟩) 1 1) (Lib.byteCells [m]):=by
  refine⟨1,by simp[Lib.byteCells],by unfold maxLen;omega,.inr ⟨a.heap.size,0,M0,by simp[Lib.byteCells],λj hj=>?_⟩⟩;have h0:j=0:=by simpa[Lib.byteCells]using hj
  subst h0;rw[HM.o];simp[hx,Lib.byteCells,G]
 have q:=L.alloc (.cells #[.int .u8 M] 5);obtain⟨v',D,N,f,d,hloc⟩:=rS (P:=prog) (a.alloc (.cells #[.int .u8 M] 5)) 25 25 5 i0 underlying25 hi z B C v l.length l [m] q (by simpa using hlen) _ _ X;have c0:a.cell? ⟨b,0,none⟩=some (.pointer (some ⟨b,0,none⟩)):=by rw[Lib.cell_of_heap U];rfl
 have c1:a.cell? ⟨b,1,none⟩=some v:=by rw[Lib.cell_of_heap U];rfl
 have c:D.heap[b]?= some (.cells #[.pointer (some ⟨b,0,none⟩),v] 70 (0,0)):=by
  rw[d.block b (by simp;omega) (λe=>hne1 (by rw[<-r];exact e.symm))];exact s
 have d1:D.cell? ⟨b,1,none⟩=some v:=by rw[Lib.cell_of_heap c];rfl
 have f1:D.frozen? ⟨b,1,none⟩=false:=Lib.frozen_of_heap c 1;have hput:=zP (l':=l++[m]) s r hne1 (by rw[ae];exact f) hloc d
 obtain⟨J,Q,cap,rfl⟩:∃J Q cap,v'=.slice J Q cap:=by
  rcases f.2 with⟨x,_⟩|⟨g,cap,cur,x,_⟩
  ·exact⟨_,_,_,x⟩
  exact⟨_,_,_,x⟩
 have i:∀k,k<a.heap.size->(a.alloc (.cells #[.int .u8 M] 5)).heap[k]?= a.heap[k]?:=λk p=>Below.heap_alloc _ _ _ p;have R:=F i;clear i;have HR:=F N;clear N;have HP:=F hput;clear hput;have W:=F n;clear n;clear d hloc f L U c s q X;have HZ:=F y;clear y;have HG:=F r;clear r
 go_wp2_with(at_builtin;go_must (refine mj rfl 11 13 _ _ rfl _ _ _ _ rfl rfl HR.o ?_))
 go_ret;refine⟨rfl,?_⟩;obtain⟨g',a1,a2,a3⟩:=HP.o;have y:=HZ.o;refine⟨g',a1,?_,?_⟩
 ·rcases a2 with a2|⟨k,a2,a4⟩
  ·exact .inl a2
  exact .inr ⟨k,a2,by simp at a4;omega⟩
 refine(W.o.m (λk p=>Or.inl p)).trans ⟨a3.os,a3.tape,a3.output,am Oc a3.size,λk p hn=>?_⟩;exact(a3.block k (by simp;omega) hn).trans (R.o k p)

theorem Fb{b:Nat}{g:Option Nat}{l:O}{w:H}(m:O)(x:Z)(B:Nat)(X:Sl B w x (Lib.byteCells m))(hBb:B<=b)(h:sR b g l w)(hlen:l.length+m.length<=1099511627776) :
  Calls prog 102 #[.pointer (some ⟨b,0,none⟩),x] w λe w'=>e=.returned (.tuple #[.int .i64 m.length,.nilIface])/\EM w b g (l++m) w':=by
 obtain⟨i0,hi,t,u,y⟩:=info_parts E9;have N:=r9 h;have hlt:=h.lt;have HC:=F N;clear N
 obtain⟨K,L,rfl⟩:∃K L,x=.slice K m.length L:=by
  obtain⟨c,_,_,X⟩:=X;rcases X with⟨hn,a,rfl⟩|⟨b,o,U,rfl,ha⟩
  ·obtain rfl:m=[]:=by simpa[Lib.byteCells]using hn
   exact⟨_,_,rfl⟩
  exact⟨_,_,by rw[hb]⟩
 have D:=F X;clear X;obtain⟨M,HM⟩:=ey (m.length);rw[<-HM.o]at D hlen⊢;go_enter func102,ntmps102
 go_wp2_with(go_at_call 60;refine(HC.o).m ?_)
 rintro e z⟨rfl,q,f,W⟩;have hlt1:=q.lt;have hne1:=q.UR;obtain⟨v,U,R,p⟩:=q;have n:=(D.o).below (f.below (B:=B) M0 (λk Q=>M0));obtain⟨v',C,T,j,i,hloc⟩:=rS (P:=prog) z 25 25 5 i0 underlying25 hi t u y v l.length l m R (by rw[<-HM.o];exact hlen) B _ n;have c0:z.cell? ⟨b,0,none⟩=some (.pointer (some ⟨b,0,none⟩)):=by rw[Lib.cell_of_heap U];rfl
 have c1:z.cell? ⟨b,1,none⟩=some v:=by rw[Lib.cell_of_heap U];rfl
 have d:C.heap[b]?= some (.cells #[.pointer (some ⟨b,0,none⟩),v] 70 (0,0)):=by
  rw[i.block b hlt1 (λe=>hne1 (by rw[<-p];exact e.symm))];exact U
 have d1:C.cell? ⟨b,1,none⟩=some v:=by rw[Lib.cell_of_heap d];rfl
 have f1:C.frozen? ⟨b,1,none⟩=false:=Lib.frozen_of_heap d 1;have hput:=zP (l':=l++m) U p hne1 (by rw[ae];exact j) hloc i
 obtain⟨J,n',cap,rfl⟩:∃J n' cap,v'=.slice J n' cap:=by
  rcases j.2 with⟨s,_⟩|⟨g,cap,cur,s,_⟩
  ·exact⟨_,_,_,s⟩
  exact⟨_,_,_,s⟩
 have HR:=F T;clear T;have HP:=F hput;clear hput;have HF:=F f;clear f;clear i hloc j R U d n;have HZ:=F W;clear W;have HG:=F p;clear p
 go_wp2_with(at_builtin;go_must (refine mj rfl 12 13 _ _ rfl _ _ _ _ rfl rfl HR.o ?_))
 go_ret2
 refine⟨rfl,?_⟩;obtain⟨g',a1,a2,a3⟩:=HP.o;exact⟨g',a1,by rw[<-HZ.o];exact a2,(HF.o.m (λk Q=>Or.inl Q)).trans a3⟩
