/- Joined texts. -/
import Derived.Lib.Builder
import Derived.Maps.AppendAt
import Derived.Test.YtpbnfjdkdfombaaGreatDoorProg
import Derived.Test.YtpbnfjdkdfombaaGreatDoorGBase
import Derived.Test.YtpbnfjdkdfombaaGreatDoorShel
set_option maxHeartbeats 40000000
namespace Go.Proofs.YtpbnfjdkdfombaaGreatDoor
open Tryz
open Go.RowKit
set_option maxRecDepth 10000
structure Fr (S:Nat->Prop) (w w':H):Prop where
 os:w'.os=w.os
 tape:w'.tape=w.tape
 output:w'.output=w.output
 size:w.heap.size<=w'.heap.size
 block:∀ k,k<w.heap.size->¬ S k->w'.heap[k]? = w.heap[k]?
theorem Fr.below{S:Nat->Prop}{w w':H}{B:Nat}(h:Fr S w w')(hB:B<=w.heap.size)(hS:∀ k,S k->B<=k):Below B w w' :=
 ⟨h.os,h.tape,h.output,h.size,λk hk=>h.block k M0 (λhs=>by have:=hS k hs;omega)⟩
theorem Fr.trans{S:Nat->Prop}{a b c:H}(h:Fr S a b)(k:Fr S b c):Fr S a c :=
 ⟨k.os.trans h.os,k.tape.trans h.tape,k.output.trans h.output,am h.size k.size,λi hi hn=>(k.block i (aN hi h.size) hn).trans (h.block i hi hn)⟩
theorem Fr.of_below{S:Nat->Prop}{w w':H}(h:r7 w w'):Fr S w w':=⟨h.os,h.tape,h.output,h.size,λk hk _=>h.block k hk⟩
theorem Fr.m{S S':Nat->Prop}{w w':H}(h:Fr S w w')(hS:∀ k,S k->S' k):Fr S' w w':=⟨h.os,h.tape,h.output,h.size,λk hk hn=>h.block k hk (λhs=>hn (hS k hs))⟩
def ql(p:Z)(b:Nat)(g:Option Nat)(l:O)(w:H):Prop :=
 ∃v,w.heap[b]? = some (.cells #[p,v] 106 (0,0))/\w.ownsRow 0 5 1 v l.length (Lib.byteCells l)/\v.ownBlock=g
def sR(b:Nat)(g:Option Nat)(l:O)(w:H):Prop:=ql (.pointer none) b g l w\/ql (.pointer (some ⟨b,0,none⟩)) b g l w
theorem yd:(prog.info? 106).map (·.size)=some 2:=Rz
theorem Oe:liesAt prog prog.depth 106 (2/prog.cellsOf 106) 0 106 1=true:=Rz
theorem E9:(prog.info? 5).map (λi=>(i.zero,i.size,i.bytes))=some (some (.int .u8 0),1,1):=Rz
theorem ql.lt{p:Z}{b:Nat}{g:Option Nat}{l:O}{w:H}(h:ql p b g l w):b<w.heap.size:=by
 obtain⟨v,U,_⟩:=h;rcases cI b w.heap.size with hlt|hge
 ·exact hlt
 rw[cD hge]at U;cases U
theorem ql.a8X{p:Z}{b:Nat}{g:Option Nat}{l:O}{w:H}(h:ql p b g l w):∀ k,g=some k->k<w.heap.size:=by
 obtain⟨v,U,ho,hg⟩:=h;intro k hk;exact(ho.lt k (hg.trans hk)).2
theorem ql.UR{p:Z}{b:Nat}{g:Option Nat}{l:O}{w:H}(h:ql p b g l w):g≠some b:=by
 obtain⟨v,U,ho,hg⟩:=h;rw[<-hg];exact Lib.ownBlock_ne ho U P8
theorem sR.lt{b:Nat}{g:Option Nat}{l:O}{w:H}(h:sR b g l w):b<w.heap.size:=by rcases h with h|h <;>exact h.lt
theorem sR.fresh(w:H):sR w.heap.size none [] (w.alloc (.cells #[.pointer none,.slice none 0 0] 106)) :=
 .inl ⟨.slice none 0 0,heap_alloc_new w _,⟨by simp[Lib.byteCells],.inl ⟨rfl,rfl⟩⟩,rfl⟩
theorem ql.keep{p:Z}{b:Nat}{g:Option Nat}{l:O}{w w':H}(h:ql p b g l w)(hf:∀ k,k<w.heap.size->(k=b\/g=some k)->w'.heap[k]? = w.heap[k]?):ql p b g l w':=by
 have hlt:=h.lt;have hgl:=h.a8X;obtain⟨v,U,ho,hg⟩:=h;refine⟨v,(hf b hlt (.inl rfl)).trans U,⟨ho.1,?_⟩,hg⟩;rcases ho.2 with I|⟨g',cap,cur,rfl,a1,a2,a3⟩
 ·exact .inl I
 refine .inr ⟨g',cap,cur,rfl,a1,?_,a3⟩;have e:g=some g':=by rw[<-hg];rfl
 exact(hf g' (hgl g' e) (.inr e)).trans a2
theorem sR.keep{b:Nat}{g:Option Nat}{l:O}{w w':H}(h:sR b g l w)(hf:∀ k,k<w.heap.size->(k=b\/g=some k)->w'.heap[k]? = w.heap[k]?):sR b g l w':=by
 rcases h with h|h
 ·exact .inl (h.keep hf)
 exact .inr (h.keep hf)
theorem sR.below{b:Nat}{g:Option Nat}{l:O}{w w':H}(h:sR b g l w)(U:r7 w w'):sR b g l w':=h.keep λk hk _=>U.block k hk
theorem Ff(b:Nat)(w:H)(h0:w.cell? ⟨b,0,none⟩=some (.pointer (some ⟨b,0,none⟩))) :
  bP prog 109 #[.pointer (some ⟨b,0,none⟩)] w (.tuple #[]):=by
 obtain⟨j,hj,_⟩:=cY.1 yd;go_enter func109,ntmps109
 go_wp2
 rw[Lib.run_neq_ptr_same w _ underlying104 hj]
 go_wp2
 go_end0
 exact⟨rfl,rfl⟩
theorem BP(b:Nat)(w:H)(h0:w.cell? ⟨b,0,none⟩=some (.pointer none))(hsh:w.shape? b=some (106,2))(hfz:w.frozen? ⟨b,0,none⟩=false) :
  Calls prog 109 #[.pointer (some ⟨b,0,none⟩)] w λe w'=>e=.returned (.tuple #[])/\w'=w.setCell ⟨b,0,none⟩ (.pointer (some ⟨b,0,none⟩)):=by
 obtain⟨j,hj,hjs⟩:=cY.1 yd;go_enter func109,ntmps109
 go_wp2
 rw[Lib.run_to_unsafe w ⟨b,0,none⟩ underlying104 underlying157 hj (by rw[hjs];decide) hsh (Nat.zero_lt_succ 1)];simp only[Result.andThen];rw[Oper.upon_value]
 go_wp2
 rw[run_callFunc_extern func143 Rz Rz Rz (e:=Extern.AbiNoEscape.same) Rz];rw[Lib.run_noEscape];simp only[Result.andThen];rw[Oper.upon_value]
 go_wp2
 rw[Lib.run_from_unsafe w ⟨b,0,none⟩ underlying157 underlying104 hj hsh Oe];simp only[Result.andThen];rw[Oper.upon_value]
 go_wp2
 go_end0
 exact⟨rfl,rfl⟩
theorem r9{b:Nat}{g:Option Nat}{l:O}{w:H}(h:sR b g l w) :
  Calls prog 109 #[.pointer (some ⟨b,0,none⟩)] w λe w'=>e=.returned (.tuple #[])/\ql (.pointer (some ⟨b,0,none⟩)) b g l w'/\Fr (·=b) w w'/\w'.heap.size=w.heap.size:=by
 rcases h with h|h
 ·have hlt:=h.lt
  obtain⟨v,U,ho,hg⟩:=h;refine(BP b w (by rw[Lib.cell_of_heap U];rfl) (by simp[World.shape?,U]) (Lib.frozen_of_heap U 0)).m ?_;rintro e w' ⟨rfl,rfl⟩;have hne:v.ownBlock≠some b:=Lib.ownBlock_ne ho U P8;refine⟨rfl,⟨v,?_,⟨ho.1,?_⟩,hg⟩,⟨rfl,rfl,rfl,by simp[World.setCell],λk _ hn=>Below.heap_setCell _ _ _ _ hn⟩,by simp[World.setCell]⟩
  ·simp[World.setCell,Array.getElem?_modify,U]
  rcases ho.2 with I|⟨g',cap,cur,rfl,a1,a2,a3⟩
  ·exact .inl I
  exact .inr ⟨g',cap,cur,rfl,a1,(Below.heap_setCell _ _ _ _ (λe=>hne (by simp only at e;rw[e];rfl))).trans a2,a3⟩
 have ⟨v,U,ho,hg⟩:=h;refine(Ff b w (by rw[Lib.cell_of_heap U];rfl)).m ?_;rintro e w' ⟨rfl,rfl⟩;exact⟨rfl,h,⟨rfl,rfl,rfl,ag _,λ_ _ _=>rfl⟩,rfl⟩
def EM(w:H)(b:Nat)(g:Option Nat)(l:O)(w':H):Prop :=
 ∃g',sR b g' l w'/\(g'=g\/∃ k,g'=some k/\w.heap.size<=k)/\Fr (λk=>k=b\/g=some k) w w'
theorem zP{w1 w2:H}{b:Nat}{v v':Z}{l':O}{g:Option Nat}(U:w1.heap[b]? = some (.cells #[.pointer (some ⟨b,0,none⟩),v] 106 (0,0)))(hg:v.ownBlock=g)(hne:g≠some b)
  (ho:w2.ownsRow 0 5 1 v' l'.length (Lib.byteCells l')) (hat:v'.ownBlock=v.ownBlock\/∃ k,v'.ownBlock=some k/\w1.heap.size<=k) (hgr:w1.grownBy w2 v.ownBlock):EM w1 b g l' (w2.setCell ⟨b,1,none⟩ v'):=by
 have hlt:b<w1.heap.size:=by
  rcases cI b w1.heap.size with hlt|hge
  ·exact hlt
  rw[cD hge]at U;cases U
 have hb2:w2.heap[b]? = some (.cells #[.pointer (some ⟨b,0,none⟩),v] 106 (0,0)):=by
  rw[hgr.block b hlt (λe=>hne (by rw[<-hg];exact e.symm))];exact U
 have hne2:v'.ownBlock≠some b:=Lib.ownBlock_ne ho hb2 P8;refine⟨v'.ownBlock,.inr ⟨v',?_,⟨ho.1,?_⟩,rfl⟩,?_,⟨hgr.os,hgr.tape,hgr.output,?_,λk hk hn=>?_⟩⟩
 ·simp[World.setCell,Array.getElem?_modify,hb2]
 ·rcases ho.2 with I|⟨g',cap,cur,rfl,a1,a2,a3⟩
  ·exact .inl I
  exact .inr ⟨g',cap,cur,rfl,a1,(Below.heap_setCell _ _ _ _ (λe=>hne2 (by simp only at e;rw[e];rfl))).trans a2,a3⟩
 ·rcases hat with h|h
  ·exact .inl (h.trans hg)
  exact .inr h
 ·simpa[World.setCell]using hgr.size
 have hkb:k≠b:=λe=>hn (.inl e);have hkg:some k≠v.ownBlock:=λe=>hn (.inr (by rw[<-hg];exact e.symm));exact(Below.heap_setCell _ _ _ _ hkb).trans (hgr.block k hk hkg)
theorem ES{P:Program}(w:H)(t u ty e:TypeId)(i:TypeInfo)(ht:P.underlying t=some (.slice e))(hu:P.underlying u=some .string)(hi:P.info? e=some i)(hz:i.zero=some (.int .u8 0))
  (hsize:i.size=1) (hby:i.bytes=1) (v:Z) (n:Nat) (l m:O) (hown:w.ownsRow 0 e 1 v n (Lib.byteCells l)) (hlen:n+m.length<=1099511627776) :
  ∃v' w',(Builtin.append_ #[t,u] ty #[v,.string (E m)]).run P w=.ok v' w'/\w'.ownsRow 0 e 1 v' (n+m.length) (Lib.byteCells (l++m))/\w.grownBy w' v.ownBlock /\
   (v'.ownBlock=v.ownBlock\/∃ k,v'.ownBlock=some k/\w.heap.size<=k):=by
 have hcells:Lib.byteCells l++Lib.strCells (E m)=Lib.byteCells (l++m):=by simp[Lib.byteCells,Lib.strCells,E]
 have h63:n+(E m).size<=maxLen:=by rw[aF];unfold maxLen;omega
 have hb2:n+(E m).size<=140737488355328:=by rw[aF];omega
 rcases hown.2 with⟨rfl,rfl⟩|⟨g,cap,cur,rfl,_,hg,hnc,hcm,hcs,htake⟩
 ·have hn:w.ownsRow w.heap.size e 1 (.slice none 0 0) 0 (Lib.byteCells l):=⟨hown.1,.inl ⟨rfl,rfl⟩⟩
  obtain⟨v',w',hr,ho,hgr,hnil⟩:=Lib.run_append_own_string (P:=P) w w.heap.size t u ty e i ht hu hi hz hsize hby _ 0 _ hn (E m) h63 hb2 (ag _);rw[aF,hcells]at ho;refine⟨v',w',hr,⟨ho.1,?_⟩,hgr,?_⟩
  ·rcases ho.2 with h|⟨g,cap,cur,a1,a2,a3⟩
   ·exact .inl h
   exact .inr ⟨g,cap,cur,a1,aL _,a3⟩
  cases hv:v'.ownBlock with
  |none=>exact .inl rfl
  |some k=>exact .inr ⟨k,rfl,(ho.lt k hv).1⟩
 obtain⟨v',w',hr,ho,hgr,hnil⟩:=Lib.run_append_own_string (P:=P) w 0 t u ty e i ht hu hi hz hsize hby _ n _ hown (E m) h63 hb2 (aL _);rw[aF,hcells]at ho;refine⟨v',w',hr,ho,hgr,?_⟩;by_cases hroom:n+(E m).size<=cap
 ·have hr2:=Lib.run_append_room_string (P:=P) w t u ty e i ht hu hi hsize g n cap cur hg (E m) hroom (by omega)
  rw[hr]at hr2;injection hr2 with hv hw
  exact .inl (by rw[hv];rfl)
 have hxl:(Lib.byteCells l).length=n:=by simpa using hown.1
 have hr2:=Lib.run_append_grow_string (P:=P) w t u ty e i (.int .u8 0) ht hu hi hz ⟨g,0,none⟩ n cap (Lib.byteCells l) (by rw[hsize];simpa using hxl) (hown.cells (g:=g) rfl) (E m) M0 M0 (by rw[hby];exact growslice_fits M0 M0);rw[hr]at hr2;injection hr2 with hv hw
 exact .inr ⟨w.heap.size,by rw[hv];rfl,ag _⟩
theorem gP{b:Nat}{g:Option Nat}{l:O}{w:H}(m:O)(h:sR b g l w)(hlen:l.length+m.length<=1099511627776) :
  Calls prog 68 #[.pointer (some ⟨b,0,none⟩),.string (E m)] w λe w'=>e=.returned (.tuple #[.int .i64 m.length,.nilIface])/\EM w b g (l++m) w':=by
 obtain⟨i0,hi,hz0,hz1,hz2⟩:=info_parts E9;have hc:=r9 h;have HC:=F hc;clear hc;have HW:w.heap.size=w.heap.size:=rfl;have HS:(E m).size=m.length:=aF m;have SX:=F HS;clear HS HW;obtain⟨s,hs⟩:=V (E m);rw[<-hs]at SX ⊢;have HS:=F hs;clear hs;go_enter func68,ntmps68
 go_wp2_with (go_at_call 109;refine(HC.o).m ?_)
 rintro e w1 ⟨rfl,hB,hf1,hz⟩;have hlt1:=hB.lt;have hne1:=hB.UR;obtain⟨v,U,ho,hg⟩:=hB;obtain⟨v',w2,hr,ho2,hgr,hloc⟩:=ES (P:=prog) w1 25 9 25 5 i0 underlying25 underlying9 hi hz0 hz1 hz2 v l.length l m ho M0;rw[<-HS.o]at hr;have c0:w1.cell? ⟨b,0,none⟩=some (.pointer (some ⟨b,0,none⟩)):=by rw[Lib.cell_of_heap U];rfl
 have c1:w1.cell? ⟨b,1,none⟩=some v:=by rw[Lib.cell_of_heap U];rfl
 have hb2:w2.heap[b]? = some (.cells #[.pointer (some ⟨b,0,none⟩),v] 106 (0,0)):=by
  rw[hgr.block b hlt1 (λe=>hne1 (by rw[<-hg];exact e.symm))];exact U
 have d1:w2.cell? ⟨b,1,none⟩=some v:=by rw[Lib.cell_of_heap hb2];rfl
 have f1:w2.frozen? ⟨b,1,none⟩=false:=Lib.frozen_of_heap hb2 1;have hput:=zP (l':=l++m) U hg hne1 (by rw[ae];exact ho2) hloc hgr
 obtain⟨ao,n',cap,rfl⟩:∃ ao n' cap,v'=.slice ao n' cap:=by
  rcases ho2.2 with⟨hv,_⟩|⟨g,cap,cur,hv,_⟩
  ·exact⟨_,_,_,hv⟩
  exact⟨_,_,_,hv⟩
 have HR:=F hr;clear hr;have HP:=F hput;clear hput;have HF:=F hf1;clear hf1;clear hgr hloc ho2 ho U hb2;have HZ:=F hz;clear hz;have HG:=F hg;clear hg
 go_wp2_with (at_builtin;go_must (refine mj rfl (.tmp 12) (.tmp 13) _ _ rfl _ _ _ _ rfl rfl HR.o ?_))
 go_ret2
 refine⟨by rw[<-SX.o];rfl,?_⟩;obtain⟨g',a1,a2,a3⟩:=HP.o;exact⟨g',a1,by rw[<-HZ.o];exact a2,(HF.o.m (λk hk=>Or.inl hk)).trans a3⟩
theorem rS{P:Program}(w:H)(t ty e:TypeId)(i:TypeInfo)(ht:P.underlying t=some (.slice e))(hi:P.info? e=some i)(hz:i.zero=some (.int .u8 0))
  (hsize:i.size=1) (hby:i.bytes=1) (v:Z) (n:Nat) (l m:O) (hown:w.ownsRow 0 e 1 v n (Lib.byteCells l)) (hlen:n+m.length<=1099511627776) (B:Nat) (x:Z) (X:Sl B w x (Lib.byteCells m)) :
  ∃v' w',(Builtin.append_ #[t,t] ty #[v,x]).run P w=.ok v' w'/\w'.ownsRow 0 e 1 v' (n+m.length) (Lib.byteCells (l++m))/\w.grownBy w' v.ownBlock /\
   (v'.ownBlock=v.ownBlock\/∃ k,v'.ownBlock=some k/\w.heap.size<=k):=by
 have hcells:Lib.byteCells l++Lib.byteCells m=Lib.byteCells (l++m):=by simp[Lib.byteCells]
 have some_:∀ (ad:Addr) (c:Nat),(∀j u,(Lib.byteCells m)[j]? = some u->w.cell? (ad.add j)=some u)->∃ v' w',(Builtin.append_ #[t,t] ty #[v,.slice (some ad) m.length c]).run P w=.ok v' w'/\w'.ownsRow 0 e 1 v' (n+m.length) (Lib.byteCells (l++m))/\w.grownBy w' v.ownBlock /\
   (v'.ownBlock=v.ownBlock\/∃ k,v'.ownBlock=some k/\w.heap.size<=k):=by
  intro ad c hc
  obtain⟨v',w',Y,I,h3,_,h5⟩:=run_append_own_at (P:=P) w 0 t ty e i (.int .u8 0) 1 1 ht hi hz hsize hby rfl P8 v n _ hown ad m.length c (Lib.byteCells m) (by simp[Lib.byteCells_length]) hc
   (λu hu=>by simp only[Lib.byteCells,dt]at hu;obtain⟨_,_,rfl⟩:=hu;rfl) (by unfold maxLen;omega) M0 (aL _)
  rw[hcells]at I;refine⟨v',w',Y,I,h3,?_⟩;rcases h5 with h|h
  ·exact .inl h
  exact .inr ⟨_,h,ag _⟩
 obtain⟨c,hc,hm,h⟩:=X;rcases h with⟨hn,a,rfl⟩|⟨b,o,U,rfl,ha⟩
 ·obtain rfl:m=[]:=by simpa[Lib.byteCells]using hn
  cases a with
  |some a=>exact some_ a c (λj u hu=>by simp[Lib.byteCells]at hu)
  |none =>
   refine⟨v,w,?_,by simpa using hown,⟨rfl,rfl,rfl,ag _,λ_ _ _=>rfl⟩,.inl rfl⟩;rcases hown.2 with⟨rfl,rfl⟩|⟨g,cap,cur,rfl,_,hg,hnc,hcm,hcs,htake⟩
   ·simp[Builtin.append_,run_underlying ht,sizeOf,typeInfo,hi,Builtin.lenOf,Builtin.firstCells]
   simp[Builtin.append_,run_underlying ht,sizeOf,typeInfo,hi,Builtin.lenOf,Builtin.firstCells,hnc,storeCells]
 rw[Lib.byteCells_length];refine some_ ⟨b,o,none⟩ c (λj u hu=>?_);obtain⟨hj,rfl⟩:=bh.1 hu;rw[addr_add];exact ha j hj
theorem Kt:Builder.Extra prog laysStr_ren:={
 sizeBuilder:=Rz,
 liesBuilder:=Rz,
 t5:=underlying5,
 a5:=isAgg5,
 z5:=sizeOf5,
 v5:=zeroValue5,
 infoByte:=Rz,
 cellsByte:=Rz,
 sizeByte:=Rz,
 neB5:=by decide}
theorem kX{b:Nat}{g:Option Nat}{l:O}{w:H}(B:Nat)(h:sR b g l w)(hBb:B<=b)(hBg:∀ k,g=some k->B<=k) :
  Calls prog 73 #[.pointer (some ⟨b,0,none⟩)] w λe w'=>e=.returned (S l)/\Below B w w':=by
 have hlt:=h.lt
 have at_:∀ p,ql p b g l w->Lib.BuilderAt 106 5 B b p (Lib.byteCells l) w:=by
  intro p hp;have hne:=hp.UR;obtain⟨v,U,ho,hg⟩:=hp;refine⟨hBb,v,U,?_,by rw[hg];exact hne⟩;rw[Lib.byteCells_length];refine⟨ho.1,?_⟩;rcases ho.2 with I|⟨g',cap,cur,rfl,a1,a2,a3⟩
  ·exact .inl I
  exact .inr ⟨g',cap,cur,rfl,hBg g' (by rw[<-hg];rfl),a2,a3⟩
 have U:Lib.IsBuilder 106 5 B b (Lib.byteCells l) w:=by
  rcases h with h|h
  ·exact .inl (at_ _ h)
  exact .inr (at_ _ h)
 exact Any.Builder_String_any laysStr Kt B b l w U M0

theorem pM{b:Nat}{g:Option Nat}{l:O}{w:H}(m:UInt8)(h:sR b g l w)(hlen:l.length+1<=1099511627776) :
  Calls prog 69 #[.pointer (some ⟨b,0,none⟩),.int .u8 (G m)] w λe w'=>e=.returned .nilIface/\EM w b g (l++[m]) w':=by
 obtain⟨i0,hi,hz0,hz1,hz2⟩:=info_parts E9;have hc:=r9 h;have HC:=F hc;clear hc;obtain⟨M,hM⟩:∃ M:Int,M=G m:=⟨_,rfl⟩;rw[<-hM];have HM:=F hM;clear hM;go_enter func69,ntmps69
 go_wp2_with (go_at_call 109;refine(HC.o).m ?_)
 rintro e w1 ⟨rfl,hB,hf1,hz⟩;have hlt1:=hB.lt;have hne1:=hB.UR;obtain⟨v,U,ho,hg⟩:=hB
 have Qb:(w1.alloc (.cells #[.int .u8 M] 5)).heap[b]? = some (.cells #[.pointer (some ⟨b,0,none⟩),v] 106 (0,0)):=by
  rw[Below.heap_alloc _ _ _ hlt1];exact U
 have X:Sl (w1.heap.size+1) (w1.alloc (.cells #[.int .u8 M] 5)) (.slice (some ⟨w1.heap.size,0,none⟩) 1 1) (Lib.byteCells [m]):=by
  refine⟨1,by simp[Lib.byteCells],by unfold maxLen;omega,.inr ⟨w1.heap.size,0,M0,by simp[Lib.byteCells],λj hj=>?_⟩⟩;have h0:j=0:=by simpa[Lib.byteCells]using hj
  subst h0;rw[HM.o];simp[World.cell?_alloc_mark,Lib.byteCells,G]
 have hoa:=ho.alloc (.cells #[.int .u8 M] 5);obtain⟨v',w2,hr,ho2,hgr,hloc⟩:=rS (P:=prog) (w1.alloc (.cells #[.int .u8 M] 5)) 25 25 5 i0 underlying25 hi hz0 hz1 hz2 v l.length l [m] hoa (by simpa using hlen) _ _ X;have c0:w1.cell? ⟨b,0,none⟩=some (.pointer (some ⟨b,0,none⟩)):=by rw[Lib.cell_of_heap U];rfl
 have c1:w1.cell? ⟨b,1,none⟩=some v:=by rw[Lib.cell_of_heap U];rfl
 have hb2:w2.heap[b]? = some (.cells #[.pointer (some ⟨b,0,none⟩),v] 106 (0,0)):=by
  rw[hgr.block b (by simp;omega) (λe=>hne1 (by rw[<-hg];exact e.symm))];exact Qb
 have d1:w2.cell? ⟨b,1,none⟩=some v:=by rw[Lib.cell_of_heap hb2];rfl
 have f1:w2.frozen? ⟨b,1,none⟩=false:=Lib.frozen_of_heap hb2 1;have hput:=zP (l':=l++[m]) Qb hg hne1 (by rw[ae];exact ho2) hloc hgr
 obtain⟨ao,n',cap,rfl⟩:∃ ao n' cap,v'=.slice ao n' cap:=by
  rcases ho2.2 with⟨hv,_⟩|⟨g,cap,cur,hv,_⟩
  ·exact⟨_,_,_,hv⟩
  exact⟨_,_,_,hv⟩
 have hal:∀ k,k<w1.heap.size->(w1.alloc (.cells #[.int .u8 M] 5)).heap[k]? = w1.heap[k]?:=λk hk=>Below.heap_alloc _ _ _ hk;have HA:=F hal;clear hal;have HR:=F hr;clear hr;have HP:=F hput;clear hput;have HF:=F hf1;clear hf1;clear hgr hloc ho2 ho U hb2 Qb hoa X;have HZ:=F hz;clear hz;have HG:=F hg;clear hg
 go_wp2_with (at_builtin;go_must (refine mj rfl (.tmp 11) (.tmp 13) _ _ rfl _ _ _ _ rfl rfl HR.o ?_))
 go_ret;refine⟨rfl,?_⟩;obtain⟨g',a1,a2,a3⟩:=HP.o;have hz:=HZ.o;refine⟨g',a1,?_,?_⟩
 ·rcases a2 with a2|⟨k,a2,a4⟩
  ·exact .inl a2
  exact .inr ⟨k,a2,by simp at a4;omega⟩
 refine(HF.o.m (λk hk=>Or.inl hk)).trans ⟨a3.os,a3.tape,a3.output,am Oc a3.size,λk hk hn=>?_⟩;exact(a3.block k (by simp;omega) hn).trans (HA.o k hk)

theorem Fb{b:Nat}{g:Option Nat}{l:O}{w:H}(m:O)(x:Z)(B:Nat)(X:Sl B w x (Lib.byteCells m))(hBb:B<=b)(h:sR b g l w)(hlen:l.length+m.length<=1099511627776) :
  Calls prog 97 #[.pointer (some ⟨b,0,none⟩),x] w λe w'=>e=.returned (.tuple #[.int .i64 m.length,.nilIface])/\EM w b g (l++m) w':=by
 obtain⟨i0,hi,hz0,hz1,hz2⟩:=info_parts E9;have hc:=r9 h;have hlt:=h.lt;have HC:=F hc;clear hc
 obtain⟨ax,cx,rfl⟩:∃ ax cx,x=.slice ax m.length cx:=by
  obtain⟨c,_,_,X⟩:=X;rcases X with⟨hn,a,rfl⟩|⟨b,o,U,rfl,ha⟩
  ·obtain rfl:m=[]:=by simpa[Lib.byteCells]using hn
   exact⟨_,_,rfl⟩
  exact⟨_,_,by rw[Lib.byteCells_length]⟩
 have HX:=F X;clear X;obtain⟨M,hM⟩:=V (m.length);rw[<-hM]at HX hlen ⊢;have HM:=F hM;clear hM;go_enter func97,ntmps97
 go_wp2_with (go_at_call 109;refine(HC.o).m ?_)
 rintro e w1 ⟨rfl,hB,hf1,hz⟩;have hlt1:=hB.lt;have hne1:=hB.UR;obtain⟨v,U,ho,hg⟩:=hB;have hx1:=(HX.o).below (hf1.below (B:=B) M0 (λk hk=>M0));obtain⟨v',w2,hr,ho2,hgr,hloc⟩:=rS (P:=prog) w1 25 25 5 i0 underlying25 hi hz0 hz1 hz2 v l.length l m ho (by rw[<-HM.o];exact hlen) B _ hx1;have c0:w1.cell? ⟨b,0,none⟩=some (.pointer (some ⟨b,0,none⟩)):=by rw[Lib.cell_of_heap U];rfl
 have c1:w1.cell? ⟨b,1,none⟩=some v:=by rw[Lib.cell_of_heap U];rfl
 have hb2:w2.heap[b]? = some (.cells #[.pointer (some ⟨b,0,none⟩),v] 106 (0,0)):=by
  rw[hgr.block b hlt1 (λe=>hne1 (by rw[<-hg];exact e.symm))];exact U
 have d1:w2.cell? ⟨b,1,none⟩=some v:=by rw[Lib.cell_of_heap hb2];rfl
 have f1:w2.frozen? ⟨b,1,none⟩=false:=Lib.frozen_of_heap hb2 1;have hput:=zP (l':=l++m) U hg hne1 (by rw[ae];exact ho2) hloc hgr
 obtain⟨ao,n',cap,rfl⟩:∃ ao n' cap,v'=.slice ao n' cap:=by
  rcases ho2.2 with⟨hv,_⟩|⟨g,cap,cur,hv,_⟩
  ·exact⟨_,_,_,hv⟩
  exact⟨_,_,_,hv⟩
 have HR:=F hr;clear hr;have HP:=F hput;clear hput;have HF:=F hf1;clear hf1;clear hgr hloc ho2 ho U hb2 hx1;have HZ:=F hz;clear hz;have HG:=F hg;clear hg
 go_wp2_with (at_builtin;go_must (refine mj rfl (.tmp 12) (.tmp 13) _ _ rfl _ _ _ _ rfl rfl HR.o ?_))
 go_ret2
 refine⟨rfl,?_⟩;obtain⟨g',a1,a2,a3⟩:=HP.o;exact⟨g',a1,by rw[<-HZ.o];exact a2,(HF.o.m (λk hk=>Or.inl hk)).trans a3⟩
