/- Joined texts. -/
import Derived.Lib.Builder
import Derived.Maps.AppendAt
import Derived.Test.YtmndlfglgcioeaaGreatDoorProg
import Derived.Test.YtmndlfglgcioeaaGreatDoorEGBase
import Derived.Test.YtmndlfglgcioeaaGreatDoorShel
set_option maxHeartbeats 40000000
namespace Go.Proofs.YtmndlfglgcioeaaGreatDoor
open Tryz
open Go.RowKit
set_option maxRecDepth 10000
structure Fr (S:Nat->Prop) (w w':World):Prop where
 os:w'.os=w.os
 tape:w'.tape=w.tape
 output:w'.output=w.output
 size:w.heap.size<=w'.heap.size
 block:∀ k,k<w.heap.size->¬ S k->w'.heap[k]? = w.heap[k]?
theorem Fr.below{S:Nat->Prop}{w w':World}{B:Nat}(h:Fr S w w')(hB:B<=w.heap.size)(hS:∀ k,S k->B<=k):Below B w w' :=
 ⟨h.os,h.tape,h.output,h.size,fun k hk=>h.block k (by omega) (fun hs=>by have:=hS k hs;omega)⟩
theorem Fr.trans{S:Nat->Prop}{a b c:World}(h:Fr S a b)(k:Fr S b c):Fr S a c :=
 ⟨k.os.trans h.os,k.tape.trans h.tape,k.output.trans h.output,ap h.size k.size,fun i hi hn=>(k.block i (aQ hi h.size) hn).trans (h.block i hi hn)⟩
theorem Fr.of_below{S:Nat->Prop}{w w':World}(h:Below w.heap.size w w'):Fr S w w':=⟨h.os,h.tape,h.output,h.size,fun k hk _=>h.block k hk⟩
theorem Fr.mono{S S':Nat->Prop}{w w':World}(h:Fr S w w')(hS:∀ k,S k->S' k):Fr S' w w':=⟨h.os,h.tape,h.output,h.size,fun k hk hn=>h.block k hk (fun hs=>hn (hS k hs))⟩
def rj(p:Value)(b:Nat)(g:Option Nat)(l:Bytes)(w:World):Prop :=
 ∃v,w.heap[b]? = some (.cells #[p,v] 79 (0,0))∧w.ownsRow 0 5 1 v l.length (Lib.byteCells l)∧v.ownBlock=g
def tD(b:Nat)(g:Option Nat)(l:Bytes)(w:World):Prop:=rj (.pointer none) b g l w∨rj (.pointer (some ⟨b,0,none⟩)) b g l w
theorem yQ:(prog.info? 79).map (·.size)=some 2:=by kernel_rfl
theorem PD:liesAt prog prog.depth 79 (2/prog.cellsOf 79) 0 79 1=true:=by kernel_rfl
theorem FY:(prog.info? 5).map (fun i=>(i.zero,i.size,i.bytes))=some (some (.int .u8 0),1,1):=by kernel_rfl
theorem rj.lt{p:Value}{b:Nat}{g:Option Nat}{l:Bytes}{w:World}(h:rj p b g l w):b<w.heap.size:=by
 obtain⟨v,hb,_⟩:=h;rcases cZ b w.heap.size with hlt|hge
 ·exact hlt
 rw[dm hge]at hb;cases hb
theorem rj.a8Q{p:Value}{b:Nat}{g:Option Nat}{l:Bytes}{w:World}(h:rj p b g l w):∀ k,g=some k->k<w.heap.size:=by
 obtain⟨v,hb,ho,hg⟩:=h;intro k hk;exact(ho.lt k (hg.trans hk)).2
theorem rj.V0{p:Value}{b:Nat}{g:Option Nat}{l:Bytes}{w:World}(h:rj p b g l w):g≠some b:=by
 obtain⟨v,hb,ho,hg⟩:=h;rw[<-hg];exact Lib.ownBlock_ne ho hb (by decide)
theorem tD.lt{b:Nat}{g:Option Nat}{l:Bytes}{w:World}(h:tD b g l w):b<w.heap.size:=by rcases h with h|h <;>exact h.lt
theorem tD.fresh(w:World):tD w.heap.size none [] (w.alloc (.cells #[.pointer none,.slice none 0 0] 79)) :=
 .inl ⟨.slice none 0 0,heap_alloc_new w _,⟨by simp[Lib.byteCells],.inl ⟨rfl,rfl⟩⟩,rfl⟩
theorem rj.keep{p:Value}{b:Nat}{g:Option Nat}{l:Bytes}{w w':World}(h:rj p b g l w)(hf:∀ k,k<w.heap.size->(k=b∨g=some k)->w'.heap[k]? = w.heap[k]?):rj p b g l w':=by
 have hlt:=h.lt;have hgl:=h.a8Q;obtain⟨v,hb,ho,hg⟩:=h;refine⟨v,(hf b hlt (.inl rfl)).trans hb,⟨ho.1,?_⟩,hg⟩;rcases ho.2 with h2|⟨g',cap,cur,rfl,a1,a2,a3⟩
 ·exact .inl h2
 refine .inr ⟨g',cap,cur,rfl,a1,?_,a3⟩;have e:g=some g':=by rw[<-hg];rfl
 exact(hf g' (hgl g' e) (.inr e)).trans a2
theorem tD.keep{b:Nat}{g:Option Nat}{l:Bytes}{w w':World}(h:tD b g l w)(hf:∀ k,k<w.heap.size->(k=b∨g=some k)->w'.heap[k]? = w.heap[k]?):tD b g l w':=by
 rcases h with h|h
 ·exact .inl (h.keep hf)
 exact .inr (h.keep hf)
theorem tD.below{b:Nat}{g:Option Nat}{l:Bytes}{w w':World}(h:tD b g l w)(hb:Below w.heap.size w w'):tD b g l w':=h.keep fun k hk _=>hb.block k hk
theorem Ga(b:Nat)(w:World)(h0:w.cell? ⟨b,0,none⟩=some (.pointer (some ⟨b,0,none⟩))) :
  bV prog 84 #[.pointer (some ⟨b,0,none⟩)] w (.tuple #[]):=by
 obtain⟨j,hj,_⟩:=dp.1 yQ;go_enter func84,ntmps84
 go_wp2
 rw[Lib.run_neq_ptr_same w _ underlying77 hj]
 go_wp2
 go_end0
 exact⟨rfl,rfl⟩
theorem CT(b:Nat)(w:World)(h0:w.cell? ⟨b,0,none⟩=some (.pointer none))(hsh:w.shape? b=some (79,2))(hfz:w.frozen? ⟨b,0,none⟩=false) :
  Calls prog 84 #[.pointer (some ⟨b,0,none⟩)] w fun e w'=>e=.returned (.tuple #[])∧w'=w.setCell ⟨b,0,none⟩ (.pointer (some ⟨b,0,none⟩)):=by
 obtain⟨j,hj,hjs⟩:=dp.1 yQ;go_enter func84,ntmps84
 go_wp2
 rw[Lib.run_to_unsafe w ⟨b,0,none⟩ underlying77 underlying138 hj (by rw[hjs];decide) hsh (Nat.zero_lt_succ 1)];simp only[Result.andThen];rw[Oper.upon_value]
 go_wp2
 rw[run_callFunc_extern func119 (by kernel_rfl) (by kernel_rfl) (by kernel_rfl) (e:=Extern.AbiNoEscape.same) (by kernel_rfl)];rw[Lib.run_noEscape];simp only[Result.andThen];rw[Oper.upon_value]
 go_wp2
 rw[Lib.run_from_unsafe w ⟨b,0,none⟩ underlying138 underlying77 hj hsh PD];simp only[Result.andThen];rw[Oper.upon_value]
 go_wp2
 go_end0
 exact⟨rfl,rfl⟩
theorem sI{b:Nat}{g:Option Nat}{l:Bytes}{w:World}(h:tD b g l w) :
  Calls prog 84 #[.pointer (some ⟨b,0,none⟩)] w fun e w'=>e=.returned (.tuple #[])∧rj (.pointer (some ⟨b,0,none⟩)) b g l w'∧Fr (·=b) w w'∧w'.heap.size=w.heap.size:=by
 rcases h with h|h
 ·have hlt:=h.lt
  obtain⟨v,hb,ho,hg⟩:=h;refine(CT b w (by rw[Lib.cell_of_heap hb];rfl) (by simp[World.shape?,hb]) (Lib.frozen_of_heap hb 0)).mono ?_;rintro e w' ⟨rfl,rfl⟩;have hne:v.ownBlock≠some b:=Lib.ownBlock_ne ho hb (by decide);refine⟨rfl,⟨v,?_,⟨ho.1,?_⟩,hg⟩,⟨rfl,rfl,rfl,by simp[World.setCell],fun k _ hn=>Below.heap_setCell _ _ _ _ hn⟩,by simp[World.setCell]⟩
  ·simp[World.setCell,Array.getElem?_modify,hb]
  rcases ho.2 with h2|⟨g',cap,cur,rfl,a1,a2,a3⟩
  ·exact .inl h2
  exact .inr ⟨g',cap,cur,rfl,a1,(Below.heap_setCell _ _ _ _ (fun e=>hne (by simp only at e;rw[e];rfl))).trans a2,a3⟩
 have ⟨v,hb,ho,hg⟩:=h;refine(Ga b w (by rw[Lib.cell_of_heap hb];rfl)).mono ?_;rintro e w' ⟨rfl,rfl⟩;exact⟨rfl,h,⟨rfl,rfl,rfl,af _,fun _ _ _=>rfl⟩,rfl⟩
def FJ(w:World)(b:Nat)(g:Option Nat)(l:Bytes)(w':World):Prop :=
 ∃g',tD b g' l w'∧(g'=g∨∃ k,g'=some k∧w.heap.size<=k)∧Fr (fun k=>k=b∨g=some k) w w'
theorem Ax{w1 w2:World}{b:Nat}{v v':Value}{l':Bytes}{g:Option Nat}(hb:w1.heap[b]? = some (.cells #[.pointer (some ⟨b,0,none⟩),v] 79 (0,0)))(hg:v.ownBlock=g)(hne:g≠some b)
  (ho:w2.ownsRow 0 5 1 v' l'.length (Lib.byteCells l')) (hat:v'.ownBlock=v.ownBlock∨∃ k,v'.ownBlock=some k∧w1.heap.size<=k) (hgr:w1.grownBy w2 v.ownBlock):FJ w1 b g l' (w2.setCell ⟨b,1,none⟩ v'):=by
 have hlt:b<w1.heap.size:=by
  rcases cZ b w1.heap.size with hlt|hge
  ·exact hlt
  rw[dm hge]at hb;cases hb
 have hb2:w2.heap[b]? = some (.cells #[.pointer (some ⟨b,0,none⟩),v] 79 (0,0)):=by
  rw[hgr.block b hlt (fun e=>hne (by rw[<-hg];exact e.symm))];exact hb
 have hne2:v'.ownBlock≠some b:=Lib.ownBlock_ne ho hb2 (by decide);refine⟨v'.ownBlock,.inr ⟨v',?_,⟨ho.1,?_⟩,rfl⟩,?_,⟨hgr.os,hgr.tape,hgr.output,?_,fun k hk hn=>?_⟩⟩
 ·simp[World.setCell,Array.getElem?_modify,hb2]
 ·rcases ho.2 with h2|⟨g',cap,cur,rfl,a1,a2,a3⟩
  ·exact .inl h2
  exact .inr ⟨g',cap,cur,rfl,a1,(Below.heap_setCell _ _ _ _ (fun e=>hne2 (by simp only at e;rw[e];rfl))).trans a2,a3⟩
 ·rcases hat with h|h
  ·exact .inl (h.trans hg)
  exact .inr h
 ·simpa[World.setCell]using hgr.size
 have hkb:k≠b:=fun e=>hn (.inl e);have hkg:some k≠v.ownBlock:=fun e=>hn (.inr (by rw[<-hg];exact e.symm));exact(Below.heap_setCell _ _ _ _ hkb).trans (hgr.block k hk hkg)
theorem FM{P:Program}(w:World)(t u ty e:TypeId)(i:TypeInfo)(ht:P.underlying t=some (.slice e))(hu:P.underlying u=some .string)(hi:P.info? e=some i)(hz:i.zero=some (.int .u8 0))
  (hsize:i.size=1) (hby:i.bytes=1) (v:Value) (n:Nat) (l m:Bytes) (hown:w.ownsRow 0 e 1 v n (Lib.byteCells l)) (hlen:n+m.length<=1099511627776) :
  ∃v' w',(Builtin.append_ #[t,u] ty #[v,.string (bs m)]).run P w=.ok v' w'∧w'.ownsRow 0 e 1 v' (n+m.length) (Lib.byteCells (l++m))∧w.grownBy w' v.ownBlock ∧
   (v'.ownBlock=v.ownBlock∨∃ k,v'.ownBlock=some k∧w.heap.size<=k):=by
 have hcells:Lib.byteCells l++Lib.strCells (bs m)=Lib.byteCells (l++m):=by simp[Lib.byteCells,Lib.strCells,bs]
 have h63:n+(bs m).size<=maxLen:=by rw[aM];unfold maxLen;omega
 have hb2:n+(bs m).size<=140737488355328:=by rw[aM];omega
 rcases hown.2 with⟨rfl,rfl⟩|⟨g,cap,cur,rfl,_,hg,hnc,hcm,hcs,htake⟩
 ·have hn:w.ownsRow w.heap.size e 1 (.slice none 0 0) 0 (Lib.byteCells l):=⟨hown.1,.inl ⟨rfl,rfl⟩⟩
  obtain⟨v',w',hr,ho,hgr,hnil⟩:=Lib.run_append_own_string (P:=P) w w.heap.size t u ty e i ht hu hi hz hsize hby _ 0 _ hn (bs m) h63 hb2 (af _);rw[aM,hcells]at ho;refine⟨v',w',hr,⟨ho.1,?_⟩,hgr,?_⟩
  ·rcases ho.2 with h|⟨g,cap,cur,a1,a2,a3⟩
   ·exact .inl h
   exact .inr ⟨g,cap,cur,a1,aK _,a3⟩
  cases hv:v'.ownBlock with
  |none=>exact .inl rfl
  |some k=>exact .inr ⟨k,rfl,(ho.lt k hv).1⟩
 obtain⟨v',w',hr,ho,hgr,hnil⟩:=Lib.run_append_own_string (P:=P) w 0 t u ty e i ht hu hi hz hsize hby _ n _ hown (bs m) h63 hb2 (aK _);rw[aM,hcells]at ho;refine⟨v',w',hr,ho,hgr,?_⟩;by_cases hroom:n+(bs m).size<=cap
 ·have hr2:=Lib.run_append_room_string (P:=P) w t u ty e i ht hu hi hsize g n cap cur hg (bs m) hroom (by omega)
  rw[hr]at hr2;injection hr2 with hv hw
  exact .inl (by rw[hv];rfl)
 have hxl:(Lib.byteCells l).length=n:=by simpa using hown.1
 have hr2:=Lib.run_append_grow_string (P:=P) w t u ty e i (.int .u8 0) ht hu hi hz ⟨g,0,none⟩ n cap (Lib.byteCells l) (by rw[hsize];simpa using hxl) (hown.cells (g:=g) rfl) (bs m) (by omega) (by omega) (by rw[hby];exact growslice_fits (by omega) (by omega));rw[hr]at hr2;injection hr2 with hv hw
 exact .inr ⟨w.heap.size,by rw[hv];rfl,af _⟩
theorem iT{b:Nat}{g:Option Nat}{l:Bytes}{w:World}(m:Bytes)(h:tD b g l w)(hlen:l.length+m.length<=1099511627776) :
  Calls prog 49 #[.pointer (some ⟨b,0,none⟩),.string (bs m)] w fun e w'=>e=.returned (.tuple #[.int .i64 m.length,.nilIface])∧FJ w b g (l++m) w':=by
 obtain⟨i0,hi,hz0,hz1,hz2⟩:=info_parts FY;have hc:=sI h;have HC:=h_ hc;clear hc;have HW:w.heap.size=w.heap.size:=rfl;have HS:(bs m).size=m.length:=aM m;have HHS:=h_ HS;clear HS HW;obtain⟨s,hs⟩:=az (bs m);rw[<-hs]at HHS ⊢;have HS:=h_ hs;clear hs;go_enter func49,ntmps49
 go_wp2_with (go_at_call 84;refine(HC.out).mono ?_)
 rintro e w1 ⟨rfl,hB,hf1,hz⟩;have hlt1:=hB.lt;have hne1:=hB.V0;obtain⟨v,hb,ho,hg⟩:=hB;obtain⟨v',w2,hr,ho2,hgr,hloc⟩:=FM (P:=prog) w1 50 9 50 5 i0 underlying50 underlying9 hi hz0 hz1 hz2 v l.length l m ho (by omega);rw[<-HS.out]at hr;have c0:w1.cell? ⟨b,0,none⟩=some (.pointer (some ⟨b,0,none⟩)):=by rw[Lib.cell_of_heap hb];rfl
 have c1:w1.cell? ⟨b,1,none⟩=some v:=by rw[Lib.cell_of_heap hb];rfl
 have hb2:w2.heap[b]? = some (.cells #[.pointer (some ⟨b,0,none⟩),v] 79 (0,0)):=by
  rw[hgr.block b hlt1 (fun e=>hne1 (by rw[<-hg];exact e.symm))];exact hb
 have d1:w2.cell? ⟨b,1,none⟩=some v:=by rw[Lib.cell_of_heap hb2];rfl
 have f1:w2.frozen? ⟨b,1,none⟩=false:=Lib.frozen_of_heap hb2 1;have hput:=Ax (l':=l++m) hb hg hne1 (by rw[ae];exact ho2) hloc hgr
 obtain⟨ao,n',cap,rfl⟩:∃ ao n' cap,v'=.slice ao n' cap:=by
  rcases ho2.2 with⟨hv,_⟩|⟨g,cap,cur,hv,_⟩
  ·exact⟨_,_,_,hv⟩
  exact⟨_,_,_,hv⟩
 have HR:=h_ hr;clear hr;have HP:=h_ hput;clear hput;have HF:=h_ hf1;clear hf1;clear hgr hloc ho2 ho hb hb2;have HZ:=h_ hz;clear hz;have HG:=h_ hg;clear hg
 go_wp2_with (at_builtin;go_must (refine m9 rfl (.tmp 12) (.tmp 13) _ _ rfl _ _ _ _ rfl rfl HR.out ?_))
 go_ret2
 refine⟨by rw[<-HHS.out];rfl,?_⟩;obtain⟨g',a1,a2,a3⟩:=HP.out;exact⟨g',a1,by rw[<-HZ.out];exact a2,(HF.out.mono (fun k hk=>Or.inl hk)).trans a3⟩
theorem sF{P:Program}(w:World)(t ty e:TypeId)(i:TypeInfo)(ht:P.underlying t=some (.slice e))(hi:P.info? e=some i)(hz:i.zero=some (.int .u8 0))
  (hsize:i.size=1) (hby:i.bytes=1) (v:Value) (n:Nat) (l m:Bytes) (hown:w.ownsRow 0 e 1 v n (Lib.byteCells l)) (hlen:n+m.length<=1099511627776) (B:Nat) (x:Value) (hx:Sl B w x (Lib.byteCells m)) :
  ∃v' w',(Builtin.append_ #[t,t] ty #[v,x]).run P w=.ok v' w'∧w'.ownsRow 0 e 1 v' (n+m.length) (Lib.byteCells (l++m))∧w.grownBy w' v.ownBlock ∧
   (v'.ownBlock=v.ownBlock∨∃ k,v'.ownBlock=some k∧w.heap.size<=k):=by
 have hcells:Lib.byteCells l++Lib.byteCells m=Lib.byteCells (l++m):=by simp[Lib.byteCells]
 have some_:∀ (ad:Addr) (c:Nat),(∀j u,(Lib.byteCells m)[j]? = some u->w.cell? (ad.add j)=some u)->∃ v' w',(Builtin.append_ #[t,t] ty #[v,.slice (some ad) m.length c]).run P w=.ok v' w'∧w'.ownsRow 0 e 1 v' (n+m.length) (Lib.byteCells (l++m))∧w.grownBy w' v.ownBlock ∧
   (v'.ownBlock=v.ownBlock∨∃ k,v'.ownBlock=some k∧w.heap.size<=k):=by
  intro ad c hc
  obtain⟨v',w',h1,h2,h3,_,h5⟩:=run_append_own_at (P:=P) w 0 t ty e i (.int .u8 0) 1 1 ht hi hz hsize hby rfl (by decide) v n _ hown ad m.length c (Lib.byteCells m) (by simp[Lib.byteCells_length]) hc
   (fun u hu=>by simp only[Lib.byteCells,cm]at hu;obtain⟨_,_,rfl⟩:=hu;rfl) (by unfold maxLen;omega) (by omega) (aK _)
  rw[hcells]at h2;refine⟨v',w',h1,h2,h3,?_⟩;rcases h5 with h|h
  ·exact .inl h
  exact .inr ⟨_,h,af _⟩
 obtain⟨c,hc,hm,h⟩:=hx;rcases h with⟨hn,a,rfl⟩|⟨b,o,hb,rfl,ha⟩
 ·obtain rfl:m=[]:=by simpa[Lib.byteCells]using hn
  cases a with
  |some a=>exact some_ a c (fun j u hu=>by simp[Lib.byteCells]at hu)
  |none =>
   refine⟨v,w,?_,by simpa using hown,⟨rfl,rfl,rfl,af _,fun _ _ _=>rfl⟩,.inl rfl⟩;rcases hown.2 with⟨rfl,rfl⟩|⟨g,cap,cur,rfl,_,hg,hnc,hcm,hcs,htake⟩
   ·simp[Builtin.append_,run_underlying ht,sizeOf,typeInfo,hi,Builtin.lenOf,Builtin.firstCells]
   simp[Builtin.append_,run_underlying ht,sizeOf,typeInfo,hi,Builtin.lenOf,Builtin.firstCells,hnc,storeCells]
 rw[Lib.byteCells_length];refine some_ ⟨b,o,none⟩ c (fun j u hu=>?_);obtain⟨hj,rfl⟩:=bf.1 hu;rw[addr_add];exact ha j hj
theorem Lz:Builder.Extra prog laysStr_ren:={
 sizeBuilder:=by kernel_rfl,
 liesBuilder:=by kernel_rfl,
 t5:=underlying5,
 a5:=isAgg5,
 z5:=sizeOf5,
 v5:=zeroValue5,
 infoByte:=by kernel_rfl,
 cellsByte:=by kernel_rfl,
 sizeByte:=by kernel_rfl,
 neB5:=by decide}
theorem lM{b:Nat}{g:Option Nat}{l:Bytes}{w:World}(B:Nat)(h:tD b g l w)(hBb:B<=b)(hBg:∀ k,g=some k->B<=k) :
  Calls prog 52 #[.pointer (some ⟨b,0,none⟩)] w fun e w'=>e=.returned (S l)∧Below B w w':=by
 have hlt:=h.lt
 have at_:∀ p,rj p b g l w->Lib.BuilderAt 79 5 B b p (Lib.byteCells l) w:=by
  intro p hp;have hne:=hp.V0;obtain⟨v,hb,ho,hg⟩:=hp;refine⟨hBb,v,hb,?_,by rw[hg];exact hne⟩;rw[Lib.byteCells_length];refine⟨ho.1,?_⟩;rcases ho.2 with h2|⟨g',cap,cur,rfl,a1,a2,a3⟩
  ·exact .inl h2
  exact .inr ⟨g',cap,cur,rfl,hBg g' (by rw[<-hg];rfl),a2,a3⟩
 have hb:Lib.IsBuilder 79 5 B b (Lib.byteCells l) w:=by
  rcases h with h|h
  ·exact .inl (at_ _ h)
  exact .inr (at_ _ h)
 exact Any.Builder_String_any laysStr Lz B b l w hb (by omega)

theorem qx{b:Nat}{g:Option Nat}{l:Bytes}{w:World}(m:UInt8)(h:tD b g l w)(hlen:l.length+1<=1099511627776) :
  Calls prog 54 #[.pointer (some ⟨b,0,none⟩),.int .u8 (b2 m)] w fun e w'=>e=.returned .nilIface∧FJ w b g (l++[m]) w':=by
 obtain⟨i0,hi,hz0,hz1,hz2⟩:=info_parts FY;have hc:=sI h;have HC:=h_ hc;clear hc;obtain⟨M,hM⟩:∃ M:Int,M=b2 m:=⟨_,rfl⟩;rw[<-hM];have HM:=h_ hM;clear hM;go_enter func54,ntmps54
 go_wp2_with (go_at_call 84;refine(HC.out).mono ?_)
 rintro e w1 ⟨rfl,hB,hf1,hz⟩;have hlt1:=hB.lt;have hne1:=hB.V0;obtain⟨v,hb,ho,hg⟩:=hB
 have Rh:(w1.alloc (.cells #[.int .u8 M] 5)).heap[b]? = some (.cells #[.pointer (some ⟨b,0,none⟩),v] 79 (0,0)):=by
  rw[Below.heap_alloc _ _ _ hlt1];exact hb
 have hx:Sl (w1.heap.size+1) (w1.alloc (.cells #[.int .u8 M] 5)) (.slice (some ⟨w1.heap.size,0,none⟩) 1 1) (Lib.byteCells [m]):=by
  refine⟨1,by simp[Lib.byteCells],by unfold maxLen;omega,.inr ⟨w1.heap.size,0,by omega,by simp[Lib.byteCells],fun j hj=>?_⟩⟩;have h0:j=0:=by simpa[Lib.byteCells]using hj
  subst h0;rw[HM.out];simp[World.cell?_alloc_mark,Lib.byteCells,b2]
 have hoa:=ho.alloc (.cells #[.int .u8 M] 5);obtain⟨v',w2,hr,ho2,hgr,hloc⟩:=sF (P:=prog) (w1.alloc (.cells #[.int .u8 M] 5)) 50 50 5 i0 underlying50 hi hz0 hz1 hz2 v l.length l [m] hoa (by simpa using hlen) _ _ hx;have c0:w1.cell? ⟨b,0,none⟩=some (.pointer (some ⟨b,0,none⟩)):=by rw[Lib.cell_of_heap hb];rfl
 have c1:w1.cell? ⟨b,1,none⟩=some v:=by rw[Lib.cell_of_heap hb];rfl
 have hb2:w2.heap[b]? = some (.cells #[.pointer (some ⟨b,0,none⟩),v] 79 (0,0)):=by
  rw[hgr.block b (by simp;omega) (fun e=>hne1 (by rw[<-hg];exact e.symm))];exact Rh
 have d1:w2.cell? ⟨b,1,none⟩=some v:=by rw[Lib.cell_of_heap hb2];rfl
 have f1:w2.frozen? ⟨b,1,none⟩=false:=Lib.frozen_of_heap hb2 1;have hput:=Ax (l':=l++[m]) Rh hg hne1 (by rw[ae];exact ho2) hloc hgr
 obtain⟨ao,n',cap,rfl⟩:∃ ao n' cap,v'=.slice ao n' cap:=by
  rcases ho2.2 with⟨hv,_⟩|⟨g,cap,cur,hv,_⟩
  ·exact⟨_,_,_,hv⟩
  exact⟨_,_,_,hv⟩
 have hal:∀ k,k<w1.heap.size->(w1.alloc (.cells #[.int .u8 M] 5)).heap[k]? = w1.heap[k]?:=fun k hk=>Below.heap_alloc _ _ _ hk;have HA:=h_ hal;clear hal;have HR:=h_ hr;clear hr;have HP:=h_ hput;clear hput;have HF:=h_ hf1;clear hf1;clear hgr hloc ho2 ho hb hb2 Rh hoa hx;have HZ:=h_ hz;clear hz;have HG:=h_ hg;clear hg
 go_wp2_with (at_builtin;go_must (refine m9 rfl (.tmp 11) (.tmp 13) _ _ rfl _ _ _ _ rfl rfl HR.out ?_))
 go_ret;refine⟨rfl,?_⟩;obtain⟨g',a1,a2,a3⟩:=HP.out;have hz:=HZ.out;refine⟨g',a1,?_,?_⟩
 ·rcases a2 with a2|⟨k,a2,a4⟩
  ·exact .inl a2
  exact .inr ⟨k,a2,by simp at a4;omega⟩
 refine(HF.out.mono (fun k hk=>Or.inl hk)).trans ⟨a3.os,a3.tape,a3.output,ap (by simp) a3.size,fun k hk hn=>?_⟩;exact(a3.block k (by simp;omega) hn).trans (HA.out k hk)

theorem F6{b:Nat}{g:Option Nat}{l:Bytes}{w:World}(m:Bytes)(x:Value)(B:Nat)(hx:Sl B w x (Lib.byteCells m))(hBb:B<=b)(h:tD b g l w)(hlen:l.length+m.length<=1099511627776) :
  Calls prog 51 #[.pointer (some ⟨b,0,none⟩),x] w fun e w'=>e=.returned (.tuple #[.int .i64 m.length,.nilIface])∧FJ w b g (l++m) w':=by
 obtain⟨i0,hi,hz0,hz1,hz2⟩:=info_parts FY;have hc:=sI h;have hlt:=h.lt;have HC:=h_ hc;clear hc
 obtain⟨ax,cx,rfl⟩:∃ ax cx,x=.slice ax m.length cx:=by
  obtain⟨c,_,_,hx⟩:=hx;rcases hx with⟨hn,a,rfl⟩|⟨b,o,hb,rfl,ha⟩
  ·obtain rfl:m=[]:=by simpa[Lib.byteCells]using hn
   exact⟨_,_,rfl⟩
  exact⟨_,_,by rw[Lib.byteCells_length]⟩
 have HX:=h_ hx;clear hx;obtain⟨M,hM⟩:=az (m.length);rw[<-hM]at HX hlen ⊢;have HM:=h_ hM;clear hM;go_enter func51,ntmps51
 go_wp2_with (go_at_call 84;refine(HC.out).mono ?_)
 rintro e w1 ⟨rfl,hB,hf1,hz⟩;have hlt1:=hB.lt;have hne1:=hB.V0;obtain⟨v,hb,ho,hg⟩:=hB;have hx1:=(HX.out).below (hf1.below (B:=B) (by omega) (fun k hk=>by omega));obtain⟨v',w2,hr,ho2,hgr,hloc⟩:=sF (P:=prog) w1 50 50 5 i0 underlying50 hi hz0 hz1 hz2 v l.length l m ho (by rw[<-HM.out];exact hlen) B _ hx1;have c0:w1.cell? ⟨b,0,none⟩=some (.pointer (some ⟨b,0,none⟩)):=by rw[Lib.cell_of_heap hb];rfl
 have c1:w1.cell? ⟨b,1,none⟩=some v:=by rw[Lib.cell_of_heap hb];rfl
 have hb2:w2.heap[b]? = some (.cells #[.pointer (some ⟨b,0,none⟩),v] 79 (0,0)):=by
  rw[hgr.block b hlt1 (fun e=>hne1 (by rw[<-hg];exact e.symm))];exact hb
 have d1:w2.cell? ⟨b,1,none⟩=some v:=by rw[Lib.cell_of_heap hb2];rfl
 have f1:w2.frozen? ⟨b,1,none⟩=false:=Lib.frozen_of_heap hb2 1;have hput:=Ax (l':=l++m) hb hg hne1 (by rw[ae];exact ho2) hloc hgr
 obtain⟨ao,n',cap,rfl⟩:∃ ao n' cap,v'=.slice ao n' cap:=by
  rcases ho2.2 with⟨hv,_⟩|⟨g,cap,cur,hv,_⟩
  ·exact⟨_,_,_,hv⟩
  exact⟨_,_,_,hv⟩
 have HR:=h_ hr;clear hr;have HP:=h_ hput;clear hput;have HF:=h_ hf1;clear hf1;clear hgr hloc ho2 ho hb hb2 hx1;have HZ:=h_ hz;clear hz;have HG:=h_ hg;clear hg
 go_wp2_with (at_builtin;go_must (refine m9 rfl (.tmp 12) (.tmp 13) _ _ rfl _ _ _ _ rfl rfl HR.out ?_))
 go_ret2
 refine⟨rfl,?_⟩;obtain⟨g',a1,a2,a3⟩:=HP.out;exact⟨g',a1,by rw[<-HZ.out];exact a2,(HF.out.mono (fun k hk=>Or.inl hk)).trans a3⟩
end Go.Proofs.YtmndlfglgcioeaaGreatDoor
