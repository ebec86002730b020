/- PunJ PunK PunX: joined. -/
import Derived.Lib.LazyBuf
import Derived.Test.YtmndlfglgcioeaaGreatDoorGTextA
import Derived.Test.YtmndlfglgcioeaaGreatDoorShelf
set_option maxHeartbeats 40000000
namespace Go.Proofs.YtmndlfglgcioeaaGreatDoor
open Tryz
open Go.RowKit
set_option maxRecDepth 10000
def Yc (w:World) (base:Nat) (l:List Int):Ending->World->Prop:=fun en w' =>
 ∃v',en=.returned v'∧w'.ownsRow base 3 1 v' l.length (dw l)∧w.heap.size<=w'.heap.size∧Below base w w'
theorem lj {w:World} {b t cap n base:Nat} {f:Nat->Value} {xs:List Value} (h:w.rowIs b t cap f) (hb:base<=b) (hn:n<=cap) (hm:cap<=maxLen) (hx:xs.length=n) (hf:∀ j,j<n->some (f j)=xs[j]?) :
  w.ownsRow base t 1 (.slice (some ⟨b,0,none⟩) n cap) n xs:=by
 obtain⟨c,hc,hs,hcf⟩:=h
 refine⟨by omega,.inr ⟨b,cap,c,rfl,hb,hc,hn,hm,by omega,?_⟩⟩
 apply List.ext_getElem?
 intro j
 rw[jE]
 split
 ·rw[a69,hcf j (by omega),hf j (by omega)]
 rw[eP (by omega)]
theorem Hz {w:World} {base t n:Nat} {g:Nat} {cap:Nat} {xs:List Value} (h:w.ownsRow base t 1 (.slice (some ⟨g,0,none⟩) n cap) n xs) :
  ∃f,w.rowIs g t cap f∧base<=g∧n<=cap∧cap<=maxLen∧∀ j,j<n->some (f j)=xs[j]?:=by
 obtain⟨hl,h⟩:=h
 rcases h with⟨e,_⟩|⟨g',cap',cur,e,hb,hg,hn,hm,hs,ht⟩
 ·simp at e
 injection e with e1 e2 e3
 injection e1 with e1
 injection e1 with e1
 subst e1;subst e3
 refine⟨fun j=>cur[j]?.getD undef,⟨cur,hg,by omega,fun j hj=>?_⟩,hb,hn,hm,fun j hj=>?_⟩
 ·have e:=cF (xs:=cur) (i:=j) (by omega)
  simp[e]
 have e:=cF (xs:=cur) (i:=j) (by omega)
 rw[<-ht,jE,if_pos (by omega),a69]
 simp[e]
theorem VP {α:Type} (l:List α) (x:α) (i j:Nat) (hi:i<=l.length):(l.take i++x::l.drop i)[j]? = if j<i then l[j]? else if j=i then some x else l[j-1]?:=by
 by_cases h:j<i
 ·rw[if_pos h,cG (by rw[aA];omega),jE,if_pos h]
 rw[if_neg h,cu (by rw[aA];omega),aA,uM hi]
 by_cases h2:j=i
 ·subst h2;simp
 rw[if_neg h2]
 obtain⟨k,rfl⟩:∃ k,j=i+1+k:=⟨j-i-1,by omega⟩
 rw[show i+1+k-i=k+1 by omega,bZ,jD]
 congr 1
 omega
theorem M3 (w:World) (base e:Nat) (xs:List Value) (n G:Nat) (hn:n=xs.length) (hG:n<=G) (hm:G<=maxLen) (hb:base<=w.heap.size) :
  (w.alloc (.cells (xs.toArray++Builtin.zeroCells (Value.int .i64 0).cells (G-n)) e)).ownsRow base e 1 (.slice (some ⟨w.heap.size,0,none⟩) n G) n xs:=by
 refine⟨by omega,.inr ⟨w.heap.size,G,_,rfl,hb,heap_alloc_new w _,hG,hm,?_,?_⟩⟩
 ·rw[Ix,size_zeroCells]
  simp[Value.cells]
  omega
 rw[nl,List.take_append_of_le_length (by simp;omega)]
 simp[hn]
theorem Hy (w:World) (c:Array Value) (t n:Nat) (hn:c.size=n):∃ f,(w.alloc (.cells c t)).rowIs w.heap.size t n f∧∀ j,j<n->some (f j)=c[j]?:=by
 subst hn
 have h:∀ j,j<c.size->some (c[j]?.getD undef)=c[j]?:=fun j hj=>by simp[Array.getElem?_eq_getElem hj]
 exact⟨fun j=>c[j]?.getD undef,World.rowIs_alloc w c t _ (fun j hj=>(h j hj).symm),h⟩
theorem JZ (a:List Value) (k m n:Nat) (h:a.length+k+m=n):(a.toArray++Builtin.zeroCells (Value.int .i64 0).cells k++Builtin.zeroCells (Value.int .i64 0).cells m).size=n:=by
 rw[Ix,Ix,size_zeroCells,size_zeroCells]
 simp[Value.cells]
 exact h
theorem Ur {cs:List Value} {i j:Nat} (B C:Array Value) (h:j<i) (hi:i<=cs.length):((List.take i cs).toArray++B++C)[j]? = cs[j]?:=by
 rw[<-Array.getElem?_toList,nl,nl,cG (by simp;omega),cG (by simp;omega)]
 simp[h]
theorem S7 (cs:List Value) (u:Value) (i j:Nat) (f:Nat->Value) (hi:i<=cs.length) (hj:j<cs.length+1) (hf:j<i->some (f j)=cs[j]?) :
  some (if i+1<=j∧j<i+1+(List.drop i cs).length then(List.drop i cs)[j-(i+1)]?.getD default else if i<=j∧j<i+[u].length then [u][j-i]?.getD default else f j) =
   if j<i then cs[j]? else if j=i then some u else cs[j-1]?:=by
 by_cases h1:j<i
 ·rw[if_neg (by omega),if_neg (by omega),if_pos h1,hf h1]
 by_cases h2:j=i
 ·subst h2
  rw[if_neg (by omega),if_pos (by simp),if_neg (by omega),if_pos rfl]
  simp
 rw[if_pos (by rw[ai];omega),if_neg h1,if_neg h2,jD,show i+(j-(i+1))=j-1 by omega,az (by omega)]
 rfl
theorem Z4 (cs:List Value) (u:Value) (i j:Nat) (f:Nat->Value) (hi:i<=cs.length) (hj:j<cs.length+1) (hf:j<i->some (f j)=cs[j]?) :
  some (if i<=j∧j<i+[u].length then [u][j-i]?.getD default else if i+1<=j∧j<i+1+(List.drop i cs).length then(List.drop i cs)[j-(i+1)]?.getD default else f j) =
   if j<i then cs[j]? else if j=i then some u else cs[j-1]?:=by
 rw[<-S7 cs u i j f hi hj hf]
 by_cases h1:i+1<=j∧j<i+1+(List.drop i cs).length
 ·rw[if_neg (by simp;omega),if_pos h1,if_pos h1]
 rw[if_neg h1,if_neg h1]
theorem xR {α:Type} (l:List α) (x:α) (i:Nat) (hi:i<=l.length):(l.take i++x::l.drop i).length=l.length+1:=by
 rw[af,aA,ag,ai];omega
theorem tj (l:List Int) (x:Int) (i:Nat) (v:Value) (base:Nat) (w:World) (h:w.ownsRow base 3 1 v l.length (dw l)) (hb:base<=w.heap.size) (hi:i<=l.length) (hl:l.length<=1000) :
  Calls prog 234 #[v,.int .i64 i,.slice (some ⟨w.heap.size,0,none⟩) 1 1] (w.alloc (.cells #[.int .i64 x] 3)) fun e w'=>Yc w base (l.take i++x::l.drop i) e w':=by
 have hlen:=xR l x i hi
 have hcl:(dw l).length=l.length:=by simp
 have hvs:∀ j u,[Value.int .i64 x][j]? = some u->(w.alloc (.cells #[.int .i64 x] 3)).cell? ⟨w.heap.size,0+j,none⟩=some u:=by
  intro j u hj
  match j,hj with
  |0,hj=>simp at hj;subst hj;rw[World.cell?_alloc_mark];rfl
 have h1v:∀ u ∈ [Value.int .i64 x],u.oneCell'=true:=by intro u hu;simp at hu;subst hu;rfl
 have h1c:∀ u∈dw l,u.oneCell'=true:=by intro u hu;simp at hu;obtain⟨_,_,rfl⟩:=hu;rfl
 have hbW:Below base w (w.alloc (.cells #[.int .i64 x] 3)):=(Below.refl _ _).alloc hb _
 have hzW:(w.alloc (.cells #[.int .i64 x] 3)).heap.size=w.heap.size+1:=by simp
 have hA:=h.alloc (.cells #[.int .i64 x] 3)
 have hlt:=h.lt
 have hins:∀ j,(dw (l.take i++x::l.drop i))[j]? = if j<i then(dw l)[j]? else if j=i then some (.int .i64 x)else(dw l)[j-1]?:=by
  intro j
  rw[er,VP l x i j hi]
  split
  ·rw[er]
  split
  ·rfl
  rw[er]
 generalize hW:w.alloc (.cells #[.int .i64 x] 3)=W at *
 have hend:∀ (bs:Option Addr) (c:Nat),l.length<=c->c<l.length+1->i=l.length->(bs=none->l.length=0)->(∀a,bs=some a->∀ j u,(dw l)[j]? = some u->W.cell? (a.add j)=some u) ->
   Calls prog 234 #[.slice bs l.length c,.int .i64 i,.slice (some ⟨w.heap.size,0,none⟩) 1 1] W fun e w'=>Yc w base (l.take i++x::l.drop i) e w':=by
  intro bs' c h1 h2 h3 h4 h5
  subst h3
  have hc1:l.length+1<=grownCap W (l.length+1) c 3:=grownCap_ge _ _ _ _
  have hc2:grownCap W (l.length+1) c 3<=maxLen:=grownCap_le_maxLen _ _ _ _ (by unfold maxLen;omega)
  have hc:=Any2.slices_Insert_int_end_grow laysIns bs' l.length c w.heap.size 0 1 1 (dw l) [.int .i64 x] W (by omega) h1 h2 (by omega) hcl rfl h4 h5 hvs h1v
  refine(show Calls prog 234 _ W _ from hc).mono ?_
  rintro e w' ⟨rfl,rfl⟩
  refine⟨_,rfl,?_,by simp[hzW];omega,(hbW.drew).alloc (by simp[hzW];omega) _⟩
  rw[hlen,dY,dh,show dw (l++[x])=dw l++[Value.int .i64 x] by simp]
  exact M3 W.drew base 3 (dw l++[.int .i64 x]) (l.length+1) _ (by simp) hc1 hc2 (by show base<=W.heap.size;omega)
 rcases h.2 with⟨rfl,h0⟩|⟨g,cap,cur,rfl,hbg,hg,hnc,hcm,hcs,hct⟩
 ·obtain rfl:l=[]:=am h0
  exact hend none 0 (ae _) (by omega) (by simpa using hi) (fun _=>rfl) (by simp)
 obtain⟨f,hf,_,_,_,hfx⟩:=Hz hA
 have hcell:∀ j u,(dw l)[j]? = some u->W.cell? ((⟨g,0,none⟩:Addr).add j)=some u:=hA.cells rfl
 have Zr:=hlt g rfl
 have hcell':∀ j u,(dw l)[j]? = some u->W.cell? ⟨g,0+j,none⟩=some u:=fun j u hj=>by
  have:=hcell j u hj
  rwa [addr_add]at this
 have a34:w.heap.size≠g:=by omega
 by_cases hroom:cap<l.length+1
 ·by_cases hin:i=l.length
  ·exact hend (some ⟨g,0,none⟩) cap hnc hroom hin (by simp) (fun a ha=>by simp at ha;subst ha;exact hcell)
  have hc1:l.length+1<=grownCap W (l.length+1) cap 3:=grownCap_ge _ _ _ _
  have hc2:grownCap W (l.length+1) cap 3<=maxLen:=grownCap_le_maxLen _ _ _ _ (by unfold maxLen;omega)
  have hc:=Any2.slices_Insert_int_grow laysIns g 0 l.length cap i w.heap.size 0 1 1 (dw l) [.int .i64 x] W (by omega) (by omega) hnc hroom (by omega) hcl rfl hcell' hvs h1c h1v
  refine(show Calls prog 234 _ W _ from hc).mono ?_
  rintro e w' ⟨rfl,rfl⟩
  have hsz:=JZ (List.take i (dw l)) (l.length+1-i) (grownCap W (l.length+1) cap 3-(l.length+1)) (grownCap W (l.length+1) cap 3) (by rw[aA,hcl];omega)
  obtain⟨f0,r0,hf0⟩:=Hy W _ 3 _ hsz
  have r2:=Go.rowIs_setCells (List.drop i (dw l)) (i+1) _ _ (Go.rowIs_setCells [.int .i64 x] i _ _ r0.drew).drew
  have hfin:=fun(o:Obj)=>Go.below_setCells (B:=base) (b:=W.heap.size) (by omega) (List.drop i (dw l)) (i+1) _ ((Go.below_setCells (B:=base) (b:=W.heap.size) (by omega) [.int .i64 x] i _ ((hbW.alloc (by omega) o).drew)).drew)
  refine⟨_,rfl,?_,?_,?_⟩
  ·rw[hlen]
   refine lj r2 (by omega) hc1 hc2 ((aj _).trans hlen) (fun j hj=>?_)
   rw[hins j]
   exact S7 (dw l) (.int .i64 x) i j f0 (by omega) (by omega) (fun h=>(hf0 j (by omega)).trans (Ur _ _ h (by omega)))
  ·exact(hfin _).size
  exact hfin _
 have hsome:∀ j,j<l.length+1->(W.cell? ⟨g,0+j,none⟩).isSome=true:=fun j hj=>by rw[bk,hf.cell (by omega)];rfl
 have SW:∀ j,W.frozen? ⟨g,j,none⟩=false:=fun j=>hf.frozen j
 have hr:=Go.rowIs_setCells (List.drop i (dw l)) (i+1) _ _ hf.drew
 have hr:=Go.rowIs_setCells [.int .i64 x] i _ _ hr
 by_cases hin:i=l.length
 ·subst hin
  have VD:∀ j,j<1->(W.cell? ⟨g,0+l.length+j,none⟩).isSome=true:=fun j hj=>by rw[hf.cell (by omega)];rfl
  have hc:=Any2.slices_Insert_int_end_room laysIns g 0 l.length cap w.heap.size 0 1 1 [.int .i64 x] W (by omega) (by omega) (by unfold maxLen at hcm;omega) rfl (fun j hj=>VD j hj) (fun j _=>SW _) hvs h1v
  refine(show Calls prog 234 _ W _ from hc).mono ?_
  rintro e w' ⟨rfl,rfl⟩
  have hfin:=Go.below_setCells (B:=base) (b:=g) hbg [.int .i64 x] (0+l.length) _ hbW
  refine⟨_,rfl,?_,hfin.size,hfin⟩
  rw[hlen]
  have hr1:=Go.rowIs_setCells [.int .i64 x] (0+l.length) _ _ hf
  refine lj hr1 hbg (by omega) hcm ((aj _).trans hlen) (fun j hj=>?_)
  rw[hins j]
  by_cases h1:j<l.length
  ·rw[if_neg (by omega),if_pos h1,hfx j h1]
  obtain rfl:j=l.length:=by omega
  rw[if_pos (by simp),if_neg (by omega),if_pos rfl]
  simp
 have hgW:W.shape? g=some (3,cap):=by
  obtain⟨c,h1,h2,_⟩:=hf
  unfold World.shape?
  rw[h1,<-h2]
 have hwW:W.shape? w.heap.size=some (3,1):=by rw[<-hW];unfold World.shape?;rw[heap_alloc_new];rfl
 have hwf:∀ j,W.frozen? ⟨w.heap.size,j,none⟩=false:=fun j=>by rw[<-hW];unfold World.frozen?;rw[heap_alloc_new];simp
 have hc:=Any2.slices_Insert_int_shift laysIns g 0 l.length cap i w.heap.size 0 1 1 (dw l) [.int .i64 x] W (by omega) (by omega) (by omega) (by unfold maxLen at hcm;omega) a34 hcl rfl hcell' hsome (fun j _=>SW _) hvs h1c h1v
  3 3 1 cap hwW hgW (by omega) (hwf _) (hwf _)
 refine(show Calls prog 234 _ W _ from hc).mono ?_
 rintro e w' ⟨rfl,rfl⟩
 simp only[bk]
 have hfin:=Go.below_setCells (B:=base) (b:=g) hbg [.int .i64 x] i _ (Go.below_setCells (B:=base) (b:=g) hbg (List.drop i (dw l)) (i+1) _ hbW.drew)
 refine⟨_,rfl,?_,hfin.size,hfin⟩
 rw[hlen]
 refine lj hr hbg (by omega) hcm ((aj _).trans hlen) (fun j hj=>?_)
 rw[hins j]
 exact Z4 (dw l) (.int .i64 x) i j f (by omega) (by omega) (fun h=>hfx j (by omega))

def ic:Nat->Bytes->List Int->Int->Int->Int->Bool->Option (List Int)
 |0,s,l,_,_,_,_=>if s.length=0 then some l else none
 |f+1,s,l,p,n,bias,first =>
  if s.length=0 then some l
  else if(rd s bias).2=0 then none
  else if l.length=255∨¬ sg (n+(p+(rd s bias).1)/(l.length+1))=true then none
  else ic f (s.drop (rd s bias).2.toNat) (l.take ((p+(rd s bias).1)%(l.length+1)).toNat++(n+(p+(rd s bias).1)/(l.length+1))::l.drop ((p+(rd s bias).1)%(l.length+1)).toNat)
   ((p+(rd s bias).1)%(l.length+1)+1) (n+(p+(rd s bias).1)/(l.length+1)) (nb (rd s bias).1 (l.length+1) first) false
theorem fY (f:Nat) {s:Bytes} (h:s.length=0) {l:List Int} {p n bias:Int} {first:Bool}:ic f s l p n bias first=some l:=by
 cases f with
 |zero=>unfold ic;rw[if_pos h]
 |succ f=>unfold ic;rw[if_pos h]
theorem jm (f:Nat) {s:Bytes} (h:¬ s.length=0) {l:List Int} {p n bias:Int} {first:Bool}:ic (f+1) s l p n bias first =
  if(rd s bias).2=0 then none
  else if l.length=255∨¬ sg (n+(p+(rd s bias).1)/(l.length+1))=true then none
  else ic f (s.drop (rd s bias).2.toNat) (l.take ((p+(rd s bias).1)%(l.length+1)).toNat++(n+(p+(rd s bias).1)/(l.length+1))::l.drop ((p+(rd s bias).1)%(l.length+1)).toNat)
   ((p+(rd s bias).1)%(l.length+1)+1) (n+(p+(rd s bias).1)/(l.length+1)) (nb (rd s bias).1 (l.length+1) first) false:=by
 rw[ic,if_neg h]
theorem FY {l:Bytes} {k:Nat} (h:k<l.length) (ha:∀ y∈l.take k,b2 y<128) (hx:b2 l[k]<128):∀ y∈l.take (k+1),b2 y<128:=by
 rw[aH h]
 intro y hy
 rcases bl.mp hy with h|h
 ·exact ha y h
 simp at h;subst h;exact hx
def rE (s:Bytes):Int:=Lib.lastIndexByte (bs s) 45
def BQ (s:Bytes):Option (List Int) :=
 if 0<rE s then
  if 255<rE s then none
  else if(s.take (rE s).toNat).all (fun x=>decide (b2 x<128))then ic s.length (s.drop ((rE s).toNat+1)) ((s.take (rE s).toNat).map b2) 0 128 72 true else none
 else ic s.length s [] 0 128 72 true
theorem CF (s:Bytes):rE s=-1∨∃ k:Nat,k<s.length∧rE s=k:=by
 unfold rE Lib.lastIndexByte
 rcases Lib.lastIdx_spec (bs s) 45 (bs s).size with⟨h,_⟩|⟨i,h1,h2,_⟩
 ·exact .inl h
 exact .inr ⟨i,by rwa [aB]at h1,h2⟩
def nU (w:World) (o:Option (List Int)):Ending->World->Prop:=fun en w' =>
 ∃v,en=.returned (.tuple #[v,.bool o.isSome])∧w'.ownsRow w.heap.size 3 1 v (o.getD []).length (dw (o.getD []))∧w.heap.size<=w'.heap.size∧Below w.heap.size w w'
theorem nU.none {w w':World} {o:Option (List Int)} (h:o=none) (hz:w.heap.size<=w'.heap.size) (hb:Below w.heap.size w w'):nU w o (.returned (.tuple #[.slice Option.none 0 0,.bool false])) w':=by
 subst h
 exact⟨_,rfl,World.ownsRow_nil _ _ _ _,hz,hb⟩
theorem nU.some {w w':World} {o:Option (List Int)} {l:List Int} {v:Value} {n:Nat} (h:o=some l) (hn:n=l.length) (ho:w'.ownsRow w.heap.size 3 1 v n (dw l)) (hz:w.heap.size<=w'.heap.size) (hb:Below w.heap.size w w') :
  nU w o (.returned (.tuple #[v,.bool true])) w':=by
 subst h;subst hn
 exact⟨_,rfl,ho,hz,hb⟩
theorem Ag:∀ (l:Bytes) (j:Nat) (s w b:Int),(lR l j s w b).2=0∧(lR l j s w b).1=0∨(j:Int)+1<=(lR l j s w b).2∧(lR l j s w b).2<=j+l.length∧(lR l j s w b).1<=2147483647
 | [],_,_,_,_=>.inl ⟨rfl,rfl⟩
 |x::r,j,s,w,b=>by
  unfold lR
  simp only
  split
  ·exact .inl ⟨rfl,rfl⟩
  split
  ·exact .inl ⟨rfl,rfl⟩
  split
  ·right
   simp only[ag]
   omega
  have:=Ag r (j+1) (s+wrt (b2 x)*w) (w*(36-bnd j b)) b
  simp only[ag]
  omega
theorem Ah:∀ (l:Bytes) (j:Nat) (s w b:Int),0<=s->0<=w->0<=(lR l j s w b).1
 | [],_,_,_,_,_,_=>jG _
 |x::r,j,s,w,b,hs,hw=>by
  unfold lR
  simp only
  split
  ·exact jG _
  have h1:=wX (b2 x)
  have h2:0<=wrt (b2 x)*w:=dN (by omega) hw
  have h3:=fW j b
  split
  ·exact jG _
  split
  ·show 0<=s+_;omega
  exact Ah r (j+1) _ _ b (by omega) (dN hw (by omega))
theorem tN (s:Bytes) (b:Int):0<=(rd s b).1∧(rd s b).1<=2147483647∧0<=(rd s b).2∧(rd s b).2<=s.length:=by
 have h1:=Ag s 0 0 1 b
 have h2:=Ah s 0 0 1 b (by omega) (by omega)
 unfold rd
 omega
def MB:Value->Nat
 | .string s=>s.size
 |_=>0
theorem sI (t:Bytes) (n:Nat):(bs t).extract n (bs t).size=bs (t.drop n):=by
 rw[bM,aB]
 congr 1
 exact aI (by rw[ai];exact ae _)
theorem zn (s0:Bytes) (w:World) (hs:s0.length<=102400000) :
  Calls prog 223 #[.string (bs s0)] w fun e w'=>nU w (BQ s0) e w':=by
 obtain⟨i0,hi0,hz0,hz1,hz2⟩:=info_parts zZ
 obtain⟨T,hT⟩:=ap (BQ s0)
 rw[<-hT]
 have hi:=CF s0
 have LN:=fun W=>Any.strings_LastIndexByte laysLib (bs s0) 45 (by rw[aB];omega) W
 unfold BQ at hT
 obtain⟨h,hh⟩:=ap (rE s0)
 have zW:∀ W,Calls prog 166 #[.string (bs s0),.int .u8 45] W fun e w'=>e=.returned (.int .i64 h)∧w'=W:=by rw[hh];exact LN
 rw[<-hh]at hT hi
 have HT:=h_ hT;clear hT
 have yN:=h_ zW;clear zW LN hh
 obtain⟨s,hss⟩:=ap (bs s0)
 have hsz:s.size=s0.length:=by rw[hss,aB]
 obtain⟨L,hL⟩:=ap (s0.length)
 rw[<-hL]at hs hsz hi
 rw[<-hss]
 rw[<-hss]at yN
 have HL:=h_ hL;clear hL
 have HS:=h_ hss;clear hss
 have hc:h<=0∨(0<h∧255<h)∨(0<h∧h<=255):=by omega
 rcases hc with hc|⟨hc,hd⟩|⟨hc,hd⟩
 ·have hT:=HT.out
  rw[if_neg (by omega)]at hT
  have HT2:=h_ hT;clear hT HT
  go_enter func223,ntmps223
  go_wp2_with (first
   |(go_at_call 166;refine(yN.out _).mono ?_;rintro e w2 ⟨rfl,hw2⟩;subst w2)
   |fail)
  go_loopw [0,4,7,8,9,10] (fun sv lv pv nv bv fv wr=>∃ (f:Nat) (t:Bytes) (l:List Int) (p n bi:Int) (fi:Bool),sv=.string (bs t)∧pv=.int .i64 p∧nv=.int .i64 n∧bv=.int .i64 bi∧fv=.bool fi ∧
    wr.ownsRow w.heap.size 3 1 lv l.length (dw l)∧T=ic f t l p n bi fi∧t.length<=f∧f<=102400000∧l.length<=255∧0<=p∧p<=256∧128<=n∧n<=1114111∧0<=bi∧bi<=2400∧w.heap.size<=wr.heap.size∧Below w.heap.size w wr) (fun sv _ _ _ _ _ _=>MB sv)
  case atStart=>exact⟨L,s0,[],0,128,72,true,by rw[HS.out],rfl,rfl,rfl,rfl,World.ownsRow_nil _ _ _ _,by rw[HL.out];exact HT2.out,by rw[HL.out];exact ae _,hs,by simp,by omega,by omega,by omega,by omega,by omega,by omega,ae _,Below.refl _ _⟩
  case round =>
   obtain⟨f,t,l,p,n,bi,fi,rfl,rfl,rfl,rfl,rfl,hown,jJ,Cw,hf1,hll,hp0,hp1,hn0,hn1,hb0,hb1,hwz,hbel⟩:=hrel
   have HO:=h_ hown;clear hown
   have HB:=h_ hbel;clear hbel
   by_cases ht:t.length=0
   ·rw[fY f ht]at jJ
    have hemp:(bs t).toList.isEmpty=true:=by rw[au,am ht];rfl
    have HT3:=h_ jJ;clear jJ
    clear ht Cw
    go_wp2
    go_ret2
    exact nU.some HT3.out rfl HO.out hwz HB.out
   cases f with
   |zero=>omega
   |succ g =>
    rw[jm g ht]at jJ
    have hemp:(bs t).toList.isEmpty=false:=by
     rw[au]
     cases t with
     |nil=>simp at ht
     |cons y r=>rfl
    have hrr:=tN t bi
    have hra:=fun W=>Ai (bs t) bi W (by rw[aB];omega) (by omega)
    rw[du]at hra
    have hdr:=sI t (rd t bi).2.toNat
    obtain⟨d,hd'⟩:∃ d,d=(rd t bi).1:=⟨_,rfl⟩
    obtain⟨k,hk'⟩:∃ k,k=(rd t bi).2:=⟨_,rfl⟩
    rw[<-hd',<-hk']at jJ hrr hra
    rw[<-hk']at hdr
    clear hd' hk'
    have htl:(bs t).size=t.length:=aB t
    obtain⟨tl,Cx⟩:∃ tl,tl=t.length:=⟨_,rfl⟩
    rw[<-Cx]at htl Cw hrr
    have yT:=h_ Cx;clear Cx ht
    have cX:=h_ hra;clear hra
    by_cases hk0:k=0
    ·rw[if_pos hk0]at jJ
     have HT3:=h_ jJ;clear jJ hdr
     subst hk0
     go_wp2_with (first
      |(go_at_call 232;refine(cX.out _).mono ?_;rintro e w2 ⟨rfl,rfl⟩)
      |fail)
     go_ret2
     exact nU.none HT3.out hwz HB.out
    rw[if_neg hk0]at jJ
    have hex:(bs t).extract k.toNat (bs t).size=bs (t.drop k.toNat):=hdr
    clear hdr
    obtain⟨m,hm⟩:∃ m:Nat,m=l.length:=⟨_,rfl⟩
    rw[<-hm]at jJ hll
    have hlen:l.length=m:=hm.symm
    have HM:=h_ hm;clear hm
    have hq1:Int.tdiv (p+d) (m+1)=(p+d)/(m+1):=ij (by omega)
    have hq2:Int.tmod (p+d) (m+1)=(p+d)%(m+1):=cZ (by omega)
    have hq3:0<=(p+d)/(m+1)∧(p+d)/(m+1)<=p+d:=⟨cM (by omega) (by omega),lD _ (by omega)⟩
    have hq4:0<=(p+d)%(m+1)∧(p+d)%(m+1)<m+1:=⟨mL _ (by omega),jC _ (by omega)⟩
    obtain⟨dv,hdv⟩:=ap ((p+d)/((m:Int)+1))
    obtain⟨qn,ZM⟩:∃ qn:Nat,(p+d)%((m:Int)+1)=(qn:Int):=⟨((p+d)%((m:Int)+1)).toNat,(Int.toNat_of_nonneg hq4.1).symm⟩
    rw[<-hdv]at hq1 hq3 jJ
    rw[ZM]at hq2 hq4 jJ
    rw[ki]at jJ
    clear hdv ZM
    obtain⟨al,cl,hv⟩:=dt (Sl.bL HO.out)
    rw[show(dw l).length=m by rw[aj,hlen]]at hv
    subst hv
    have nY:(bs t).extract k.toNat tl=bs (t.drop k.toNat):=by rw[<-htl];exact hex
    have hsa:=fun W=>om (n+dv) W
    have hcs:m=255∨(m<255∧sg (n+dv)=false)∨(m<255∧sg (n+dv)=true):=by
     by_cases h5:m=255
     ·exact .inl h5
     cases hq:sg (n+dv)
     ·exact .inr (.inl ⟨by omega,rfl⟩)
     exact .inr (.inr ⟨by omega,rfl⟩)
    rcases hcs with hc|⟨hc,hsg⟩|⟨hc,hsg⟩
    ·rw[if_pos (.inl hc)]at jJ
     have HT3:=h_ jJ;clear jJ hsa
     subst hc
     go_wp2_with (first
      |(go_at_call 232;refine(cX.out _).mono ?_;rintro e w2 ⟨rfl,rfl⟩)
      |fail)
     go_ret2
     exact nU.none HT3.out hwz HB.out
    ·rw[if_pos (.inr (by rw[hsg];simp))]at jJ
     rw[hsg]at hsa
     have u6:=h_ hsa;clear hsa hsg
     have HT3:=h_ jJ;clear jJ
     go_wp2_with (first
      |(go_at_call 232;refine(cX.out _).mono ?_;rintro e w2 ⟨rfl,rfl⟩)
      |(go_at_call 233;refine(u6.out _).mono ?_;rintro e w2 ⟨rfl,rfl⟩)
      |fail)
     go_ret2
     exact nU.none HT3.out hwz HB.out
    rw[if_neg (by rw[hsg];simp;omega)]at jJ
    have hsr:=(qH.mp hsg)
    rw[hsg]at hsa
    have u6:=h_ hsa;clear hsa hsg
    have HT3:=h_ jJ;clear jJ
    have hil:=xR l (n+dv) qn (by omega)
    have hin:=tj l (n+dv) qn _ w.heap.size wr HO.out hwz (by omega) (by omega)
    have RD:=h_ hin;clear hin
    have XN:=h_ hsr.2.1;clear hsr
    rw[hlen]at hil
    obtain⟨l2,hl2⟩:=ap (l.take qn++(n+dv)::l.drop qn)
    rw[<-hl2]at hil RD HT3
    clear hl2
    have ON:=h_ hil;clear hil
    go_wp2_with (first
     |(go_at_call 232;refine(cX.out _).mono ?_;rintro e w2 ⟨rfl,rfl⟩)
     |(go_at_call 233;refine(u6.out _).mono ?_;rintro e w2 ⟨rfl,rfl⟩)
     |(go_at_call 234;refine(RD.out).mono ?_;rintro e w3 ⟨v3,rfl,ho3,hz3,hb3⟩;have lB:=h_ ho3;have HZ3:=h_ hz3;clear hz3;have HB3:=h_ hb3;clear hb3;obtain⟨al3,cl3,hv3⟩:=dt (Sl.bL ho3);rw[show(dw l2).length=m+1 by rw[aj];exact ON.out]at hv3;subst hv3;clear ho3)
     |(go_at_call 235;refine(lf d (m+1) fi _ (by omega) (by omega)).mono ?_;rintro e w4 ⟨rfl,rfl⟩)
     |fail)
    have hnb:=tE (d:=d) (n:=(m:Int)+1) fi hrr.1 (by omega)
    have TJ:=h_ hnb;clear hnb
    go_roundw
    case rel =>
     refine⟨g,t.drop k.toNat,l2,qn+1,n+dv,nb d (m+1) fi,false,rfl,rfl,rfl,rfl,rfl,by rw[ON.out];have:=lB.out;rw[ON.out]at this;exact this,HT3.out,?_,by omega,by rw[ON.out];omega,by omega,by omega,by omega,XN.out,TJ.out.1,TJ.out.2,by have:=HZ3.out;omega,HB.out.trans HB3.out⟩
     rw[ai,<-yT.out]
     omega
    case measure =>
     have e:=yT.out
     show(bs (t.drop k.toNat)).size<(bs t).size
     rw[aB,aB,ai]
     omega
 ·have hT:=HT.out
  rw[if_pos (by omega),if_pos (by omega)]at hT
  have HT2:=h_ hT;clear hT HT
  go_enter func223,ntmps223
  go_wp2_with (first
   |(go_at_call 166;refine(yN.out _).mono ?_;rintro e w2 ⟨rfl,hw2⟩;subst w2)
   |fail)
  go_ret2
  exact nU.none HT2.out (ae _) (Below.refl _ _)
 have hT:=HT.out
 rw[if_pos (by omega),if_neg (by omega)]at hT
 obtain⟨k0,hk0,hkh⟩:∃ k0:Nat,k0<L∧h=k0:=by
  rcases hi with hi|⟨k0,h1,h2⟩
  ·omega
  exact⟨k0,h1,h2⟩
 have htn:h.toNat=k0:=by omega
 have VF:(h+1).toNat=k0+1:=by omega
 have hhl:h+1<=L:=by omega
 rw[htn]at hT
 have HT2:=h_ hT;clear hT HT hi
 have hex:s.extract (k0+1) L=bs (s0.drop (k0+1)):=by
  have:=sI s0 (k0+1)
  rw[<-HS.out,hsz]at this
  exact this
 rw[<-VF]at hex
 have IE:=h_ hex;clear hex htn
 have HTN:=h_ VF;clear VF
 have HKH:=h_ hkh;clear hkh
 go_enter func223,ntmps223
 go_wp2_with (first
  |(go_at_call 166;refine(yN.out _).mono ?_;rintro e w2 ⟨rfl,hw2⟩;subst w2)
  |fail)
 go_loopw [4,20] (fun lv iv wr=>∃ (k:Nat),k<=k0∧iv=.int .i64 k∧wr.ownsRow w.heap.size 3 1 lv k (dw ((s0.take k).map b2))∧(∀y∈s0.take k,b2 y<128)∧w.heap.size<=wr.heap.size∧Below w.heap.size w wr) (fun _ i _=>k0-(intOf i).toNat)
 case atStart=>exact⟨0,aO _,rfl,World.ownsRow_nil _ _ _ _,by simp,ae _,Below.refl _ _⟩
 case round =>
  obtain⟨k,hk,rfl,hown,hall,hwz,hbel⟩:=hrel
  have HO:=h_ hown;clear hown
  have HA:=h_ hall;clear hall
  have HB:=h_ hbel;clear hbel
  by_cases hlt:(k:Int)<h
  ·have hlt2:k<k0:=by have:=HKH.out;omega
   have hk2:k<s.size:=by omega
   have hx:k<s0.length:=by rw[<-HL.out];omega
   have hxe:((s[k]'hk2).toNat:Int)=b2 s0[k]:=bV HS.out hk2 hx
   have Xg:=iD s0[k]
   rw[<-hxe]at Xg
   have hsn:dw ((s0.take (k+1)).map b2)=dw ((s0.take k).map b2)++[.int .i64 ((s[k]'hk2).toNat:Int)]:=by
    rw[aH hx,mN,hxe];simp
   have lC:=h_ hsn;clear hsn
   have hmem:s0[k]∈s0.take k0:=by
    rw[List.mem_take_iff_getElem]
    exact⟨k,by omega,rfl⟩
   have hstep:=FY hx HA.out
   rw[<-hxe]at hstep
   have HST:=h_ hstep;clear hstep
   have hw:IntKind.i64.wrap ((s[k]'hk2).toNat:Int)=((s[k]'hk2).toNat:Int):=IntWalk.i64_in _ (by omega)
   have hcs:((s[k]'hk2).toNat:Int)<128∨128<=((s[k]'hk2).toNat:Int):=by omega
   rcases hcs with hc3|hc3
   ·clear hxe hmem
    go_wp2_with (at_builtin;(refine ez rfl (.tmp 27) (.tmp 32) _ rfl w.heap.size 3 i0 (.int .i64 0) 8 underlying200 hi0 hz0 hz1 hz2 (by decide) _ _ k (dw ((s0.take k).map b2)) rfl HO.out (.int .i64 ((s[k]'hk2).toNat:Int)) rfl rfl (by omega) (by decide) hwz ?_);intro v2 w2 hown2 hw2 hb2;have eO:=h_ hown2;clear hown2;have HB2:=h_ hb2;clear hb2)
    go_roundw
    case rel=>exact⟨k+1,hlt2,by simp,by rw[lC.out];exact eO.out,HST.out hc3,by omega,HB.out.trans HB2.out⟩
    case measure=>simp[intOf];omega
   have hno:T=none:=by
    rw[HT2.out,if_neg]
    intro ha
    have:=of_decide_eq_true (ch.mp ha _ hmem)
    omega
   have OT:=h_ hno;clear hno hxe hmem
   go_wp2
   go_ret2
   exact nU.none OT.out hwz HB.out
  obtain rfl:k0=k:=by have:=HKH.out;omega
  have hT:=HT2.out
  rw[if_pos (ch.mpr fun y hy=>decide_eq_true (HA.out y hy))]at hT
  have HT3:=h_ hT;clear hT HT2
  have hlen:((s0.take k0).map b2).length=k0:=by rw[aj,aA,<-HL.out];omega
  have hown0:=HO.out
  have DX:=h_ hlen;clear hlen
  have HOW:=h_ hown0;clear hown0
  have hex:=IE.out
  have lA:=h_ HB.out
  have LS:=hwz
  go_wp2
  go_loopw [0,4,7,8,9,10] (fun sv lv pv nv bv fv wr=>∃ (f:Nat) (t:Bytes) (l:List Int) (p n bi:Int) (fi:Bool),sv=.string (bs t)∧pv=.int .i64 p∧nv=.int .i64 n∧bv=.int .i64 bi∧fv=.bool fi ∧
    wr.ownsRow w.heap.size 3 1 lv l.length (dw l)∧T=ic f t l p n bi fi∧t.length<=f∧f<=102400000∧l.length<=255∧0<=p∧p<=256∧128<=n∧n<=1114111∧0<=bi∧bi<=2400∧w.heap.size<=wr.heap.size∧Below w.heap.size w wr) (fun sv _ _ _ _ _ _=>MB sv)
  case atStart=>exact⟨L,s0.drop (k0+1),(s0.take k0).map b2,0,128,72,true,by rw[HTN.out],rfl,rfl,rfl,rfl,by rw[DX.out];exact HOW.out,by rw[HL.out];exact HT3.out,by rw[ai,<-HL.out];omega,hs,by rw[DX.out];have:=HKH.out;omega,by omega,by omega,by omega,by omega,by omega,by omega,LS,lA.out⟩
  case round =>
   obtain⟨f,t,l,p,n,bi,fi,rfl,rfl,rfl,rfl,rfl,hown,jJ,Cw,hf1,hll,hp0,hp1,hn0,hn1,hb0,hb1,hwz,hbel⟩:=hrel
   have HO:=h_ hown;clear hown
   have HB:=h_ hbel;clear hbel
   by_cases ht:t.length=0
   ·rw[fY f ht]at jJ
    have hemp:(bs t).toList.isEmpty=true:=by rw[au,am ht];rfl
    have HT3:=h_ jJ;clear jJ
    clear ht Cw
    go_wp2
    go_ret2
    exact nU.some HT3.out rfl HO.out hwz HB.out
   cases f with
   |zero=>omega
   |succ g =>
    rw[jm g ht]at jJ
    have hemp:(bs t).toList.isEmpty=false:=by
     rw[au]
     cases t with
     |nil=>simp at ht
     |cons y r=>rfl
    have hrr:=tN t bi
    have hra:=fun W=>Ai (bs t) bi W (by rw[aB];omega) (by omega)
    rw[du]at hra
    have hdr:=sI t (rd t bi).2.toNat
    obtain⟨d,hd'⟩:∃ d,d=(rd t bi).1:=⟨_,rfl⟩
    obtain⟨k,hk'⟩:∃ k,k=(rd t bi).2:=⟨_,rfl⟩
    rw[<-hd',<-hk']at jJ hrr hra
    rw[<-hk']at hdr
    clear hd' hk'
    have htl:(bs t).size=t.length:=aB t
    obtain⟨tl,Cx⟩:∃ tl,tl=t.length:=⟨_,rfl⟩
    rw[<-Cx]at htl Cw hrr
    have yT:=h_ Cx;clear Cx ht
    have cX:=h_ hra;clear hra
    by_cases hk0:k=0
    ·rw[if_pos hk0]at jJ
     have HT3:=h_ jJ;clear jJ hdr
     subst hk0
     go_wp2_with (first
      |(go_at_call 232;refine(cX.out _).mono ?_;rintro e w2 ⟨rfl,rfl⟩)
      |fail)
     go_ret2
     exact nU.none HT3.out hwz HB.out
    rw[if_neg hk0]at jJ
    have hex:(bs t).extract k.toNat (bs t).size=bs (t.drop k.toNat):=hdr
    clear hdr
    obtain⟨m,hm⟩:∃ m:Nat,m=l.length:=⟨_,rfl⟩
    rw[<-hm]at jJ hll
    have hlen:l.length=m:=hm.symm
    have HM:=h_ hm;clear hm
    have hq1:Int.tdiv (p+d) (m+1)=(p+d)/(m+1):=ij (by omega)
    have hq2:Int.tmod (p+d) (m+1)=(p+d)%(m+1):=cZ (by omega)
    have hq3:0<=(p+d)/(m+1)∧(p+d)/(m+1)<=p+d:=⟨cM (by omega) (by omega),lD _ (by omega)⟩
    have hq4:0<=(p+d)%(m+1)∧(p+d)%(m+1)<m+1:=⟨mL _ (by omega),jC _ (by omega)⟩
    obtain⟨dv,hdv⟩:=ap ((p+d)/((m:Int)+1))
    obtain⟨qn,ZM⟩:∃ qn:Nat,(p+d)%((m:Int)+1)=(qn:Int):=⟨((p+d)%((m:Int)+1)).toNat,(Int.toNat_of_nonneg hq4.1).symm⟩
    rw[<-hdv]at hq1 hq3 jJ
    rw[ZM]at hq2 hq4 jJ
    rw[ki]at jJ
    clear hdv ZM
    obtain⟨al,cl,hv⟩:=dt (Sl.bL HO.out)
    rw[show(dw l).length=m by rw[aj,hlen]]at hv
    subst hv
    have nY:(bs t).extract k.toNat tl=bs (t.drop k.toNat):=by rw[<-htl];exact hex
    have hsa:=fun W=>om (n+dv) W
    have hcs:m=255∨(m<255∧sg (n+dv)=false)∨(m<255∧sg (n+dv)=true):=by
     by_cases h5:m=255
     ·exact .inl h5
     cases hq:sg (n+dv)
     ·exact .inr (.inl ⟨by omega,rfl⟩)
     exact .inr (.inr ⟨by omega,rfl⟩)
    rcases hcs with hc|⟨hc,hsg⟩|⟨hc,hsg⟩
    ·rw[if_pos (.inl hc)]at jJ
     have HT3:=h_ jJ;clear jJ hsa
     subst hc
     go_wp2_with (first
      |(go_at_call 232;refine(cX.out _).mono ?_;rintro e w2 ⟨rfl,rfl⟩)
      |fail)
     go_ret2
     exact nU.none HT3.out hwz HB.out
    ·rw[if_pos (.inr (by rw[hsg];simp))]at jJ
     rw[hsg]at hsa
     have u6:=h_ hsa;clear hsa hsg
     have HT3:=h_ jJ;clear jJ
     go_wp2_with (first
      |(go_at_call 232;refine(cX.out _).mono ?_;rintro e w2 ⟨rfl,rfl⟩)
      |(go_at_call 233;refine(u6.out _).mono ?_;rintro e w2 ⟨rfl,rfl⟩)
      |fail)
     go_ret2
     exact nU.none HT3.out hwz HB.out
    rw[if_neg (by rw[hsg];simp;omega)]at jJ
    have hsr:=(qH.mp hsg)
    rw[hsg]at hsa
    have u6:=h_ hsa;clear hsa hsg
    have HT3:=h_ jJ;clear jJ
    have hil:=xR l (n+dv) qn (by omega)
    have hin:=tj l (n+dv) qn _ w.heap.size wr HO.out hwz (by omega) (by omega)
    have RD:=h_ hin;clear hin
    have XN:=h_ hsr.2.1;clear hsr
    rw[hlen]at hil
    obtain⟨l2,hl2⟩:=ap (l.take qn++(n+dv)::l.drop qn)
    rw[<-hl2]at hil RD HT3
    clear hl2
    have ON:=h_ hil;clear hil
    go_wp2_with (first
     |(go_at_call 232;refine(cX.out _).mono ?_;rintro e w2 ⟨rfl,rfl⟩)
     |(go_at_call 233;refine(u6.out _).mono ?_;rintro e w2 ⟨rfl,rfl⟩)
     |(go_at_call 234;refine(RD.out).mono ?_;rintro e w3 ⟨v3,rfl,ho3,hz3,hb3⟩;have lB:=h_ ho3;have HZ3:=h_ hz3;clear hz3;have HB3:=h_ hb3;clear hb3;obtain⟨al3,cl3,hv3⟩:=dt (Sl.bL ho3);rw[show(dw l2).length=m+1 by rw[aj];exact ON.out]at hv3;subst hv3;clear ho3)
     |(go_at_call 235;refine(lf d (m+1) fi _ (by omega) (by omega)).mono ?_;rintro e w4 ⟨rfl,rfl⟩)
     |fail)
    have hnb:=tE (d:=d) (n:=(m:Int)+1) fi hrr.1 (by omega)
    have TJ:=h_ hnb;clear hnb
    go_roundw
    case rel =>
     refine⟨g,t.drop k.toNat,l2,qn+1,n+dv,nb d (m+1) fi,false,rfl,rfl,rfl,rfl,rfl,by rw[ON.out];have:=lB.out;rw[ON.out]at this;exact this,HT3.out,?_,by omega,by rw[ON.out];omega,by omega,by omega,by omega,XN.out,TJ.out.1,TJ.out.2,by have:=HZ3.out;omega,HB.out.trans HB3.out⟩
     rw[ai,<-yT.out]
     omega
    case measure =>
     have e:=yT.out
     show(bs (t.drop k.toNat)).size<(bs t).size
     rw[aB,aB,ai]
     omega
end Go.Proofs.YtmndlfglgcioeaaGreatDoor

namespace Go.Proofs.YtmndlfglgcioeaaGreatDoor
open Tryz
section
open Go.RowKit
set_option maxRecDepth 10000
theorem Ri {d:Int} (h:0<=d∧d<36):wrt (IO d)=d:=by
  unfold wrt IO
  by_cases h1:d<26
  · rw[if_pos h1,if_pos (by omega)];omega
  rw[if_neg h1,if_neg (by omega),if_neg (by omega),if_pos (by omega)];omega
theorem NZ {d:Int} (h:0<=d∧d<36):wrt (b2 (db d))=d:=by rw[Ep h,Ri h]
theorem wj:∀ (f j:Nat) (d sum wt bias:Int) (rest:Bytes),0<=d->d<2 ^ f->1<=wt->sum+d*wt<=2147483647 ->
    lR (lN f j d bias++rest) j sum wt bias=(sum+d*wt,(j:Int)+(lN f j d bias).length)
  |f,j,d,sum,wt,bias,rest,h0,hf,hw,hs=>by
    have hb:=fW j bias
    by_cases hlt:d<bnd j bias
    · have hd:0<=d∧d<36:=by omega
      rw[kt f j hlt]
      show lR (db d::rest) j sum wt bias=_
      unfold lR
      simp only[NZ hd]
      rw[if_neg (by omega),if_neg (by omega),if_pos hlt]
      rfl
    obtain⟨g,rfl,hmo,hq⟩:=ku hlt hf h0
    rw[hmo]
    generalize hB:bnd j bias=b at *
    have hr:0<=(d-b)%(36-b)∧(d-b)%(36-b)<36-b:=⟨mL _ (by omega),jC _ (by omega)⟩
    have hq0:0<=(d-b)/(36-b):=cM (by omega) (by omega)
    have hc:0<=b+(d-b)%(36-b)∧b+(d-b)%(36-b)<36:=by omega
    have LF:(36-b)*((d-b)/(36-b))+(d-b)%(36-b)=d-b:=Int.mul_ediv_add_emod _ _
    have hdw:d*wt=(b+(d-b)%(36-b))*wt+(d-b)/(36-b)*(wt*(36-b)):=by
      have:d=(b+(d-b)%(36-b))+(36-b)*((d-b)/(36-b)):=by omega
      conv=>lhs;rw[this]
      rw[a9E,nC (36-b) ((d-b)/(36-b)),Int.mul_assoc,nC (36-b) wt]
    have hpos:0<=(d-b)/(36-b)*(wt*(36-b)):=dN hq0 (dN (by omega) (by omega))
    have hwt:1<=wt*(36-b):=by
      have:=CY (c:=36-b) (wt:=wt) (by omega) hw
      rw[nC]at this
      omega
    show lR (db (b+(d-b)%(36-b))::(lN g (j+1) ((d-b)/(36-b)) bias++rest)) j sum wt bias=_
    unfold lR
    simp only[NZ hc,hB]
    rw[if_neg (by omega),if_neg (by omega),if_neg (by omega),wj g (j+1) _ _ _ bias rest hq0 hq hwt (by omega)]
    simp only[ag]
    refine Prod.ext ?_ ?_
    · show _+_=_;omega
    show((j+1:Nat):Int)+_=_;omega
theorem QM {d bias:Int} (rest:Bytes) (h0:0<=d) (h1:d<=2147483647):rd (lO d bias++rest) bias=(d,((lO d bias).length:Int)):=by
  have:=wj 40 0 d 0 1 bias rest h0 (by omega) (by omega) (by omega)
  unfold rd lO
  rw[this]
  refine Prod.ext ?_ ?_
  · show 0+d*1=d;omega
  show((0:Nat):Int)+_=_;omega
end
section
open Go.RowKit
set_option maxRecDepth 10000
def Hk (l:List Int) (n:Int) (k:Nat):List Int:=(l.take k).filter (fun c=>decide (c<=n))++(l.drop k).filter (fun c=>decide (c<n))
def pk (l:List Int) (n:Int) (k:Nat):Nat:=((l.take k).filter (fun c=>decide (c<=n))).length
theorem QJ {l:List Int} {k:Nat} (h:k<l.length) (n:Int):pk l n (k+1)=pk l n k+if l[k]<=n then 1 else 0:=by
  unfold pk
  rw[aH h,fV,af]
  by_cases h2:l[k]<=n
  · rw[if_pos h2,bn (by simpa using h2)];rfl
  rw[if_neg h2,bm (by simpa using h2)];rfl
theorem rK {l:List Int} {k:Nat} (h:k<l.length) {n:Int} (hn:l[k]≠n):Hk l n (k+1)=Hk l n k:=by
  unfold Hk
  rw[aH h,ay h,fV,aX]
  congr 1
  by_cases h2:l[k]<n
  · rw[bn (by simp;omega),bn (by simpa using h2)];rfl
  rw[bm (by simp;omega),bm (by simpa using h2)];rfl
theorem Uf {l:List Int} {k:Nat} (h:k<l.length) {n:Int} (hn:l[k]=n):Hk l n (k+1)=(Hk l n k).take (pk l n k)++n::(Hk l n k).drop (pk l n k):=by
  have e:Hk l n k=(l.take k).filter (fun c=>decide (c<=n))++(l.drop (k+1)).filter (fun c=>decide (c<n)):=by
    unfold Hk
    rw[ay h,bm (by simp;omega)]
  rw[e]
  unfold pk
  rw[jg,RX]
  · unfold Hk
    rw[aH h,fV,bn (by simp;omega),hn,aX]
    rfl
  · rfl
  rfl
theorem Ue (l:List Int) (n:Int):Hk l n l.length=Hk l (n+1) 0:=by
  unfold Hk
  rw[dY,dh,gZ,dx]
  simp only[uL,aV,bW]
  refine List.filter_congr fun c _=>?_
  simp only[decide_eq_decide]
  omega
theorem OX {l:List Int} {n m:Int} (hm:n<=m) (h:∀ c∈l,n<=c->m<=c):Hk l m 0=Hk l n 0:=by
  unfold Hk
  rw[gZ,dx]
  congr 1
  refine List.filter_congr fun c hc=>?_
  have:=h c hc
  simp only[decide_eq_decide]
  omega
theorem a0k (l:List Int) (n:Int) (k:Nat):pk l n k<=(Hk l n k).length:=by unfold pk Hk;rw[af];omega
theorem Wa (l:List Int) (n:Int):pk l n l.length=(Hk l n l.length).length:=by
  unfold pk Hk
  rw[dY,dh]
  simp
theorem Ud {l:List Int} {n:Int} (h:(Hk l n 0).length=l.length):Hk l n 0=l:=by
  unfold Hk at *
  rw[gZ,dx]at *
  simp only[uL,bW]at *
  exact List.filter_eq_self.mpr (List.length_filter_eq_length_iff.mp h)
end
section
open Go.RowKit
set_option maxRecDepth 10000
def CN (y:UInt8):Prop:=(97<=b2 y∧b2 y<=122)∨(48<=b2 y∧b2 y<=57)
theorem SK {d:Int} (h:0<=d∧d<36):CN (db d):=by
  unfold CN
  rw[Ep h]
  unfold IO
  split <;>omega
theorem EC:∀ (f j:Nat) (d bias:Int),0<=d->d<2 ^ f->∀ y∈lN f j d bias,CN y
  |f,j,d,bias,h0,hf=>by
    have hb:=fW j bias
    by_cases hlt:d<bnd j bias
    · rw[kt f j hlt]
      intro y hy
      simp at hy
      subst hy
      exact SK (by omega)
    obtain⟨g,rfl,hmo,hq⟩:=ku hlt hf h0
    rw[hmo]
    have hr:0<=(d-bnd j bias)%(36-bnd j bias)∧(d-bnd j bias)%(36-bnd j bias)<36-bnd j bias:=⟨mL _ (by omega),jC _ (by omega)⟩
    intro y hy
    rcases aN.mp hy with rfl|hy
    · exact SK (by omega)
    exact EC g (j+1) _ bias (cM (by omega) (by omega)) hq y hy
theorem Pt {d:Int} (bias:Int) (h0:0<=d) (h1:d<1099511627776):∀ y∈lO d bias,CN y:=EC 40 0 d bias h0 (by omega)
def IU:Nat->Int
  |0=>26
  |k+1=>26+10*IU k
theorem DO:∀ k,26<=IU k
  |0=>by unfold IU;omega
  |k+1=>by have:=DO k;unfold IU;omega
theorem AE {t d T:Int} (ht:1<=t∧t<=26) (hT:26<=T) (hd:d<26+10*T):(d-t)/(36-t)<T:=by
  refine Int.ediv_lt_of_lt_mul (by omega) ?_
  have h1:T*(36-t)=36*T-t*T:=by rw[a9F,nC T 36,nC T t]
  have h2:0<=(26-t)*(T-1):=dN (by omega) (by omega)
  have h3:(26-t)*(T-1)=26*T-26-(t*T-t):=by rw[Int.sub_mul,a9F,a9F];omega
  omega
theorem EA:∀ (k f j:Nat) (d bias:Int),0<=d->d<2 ^ f->d<IU k->26<=36*((j:Int)+1)-bias->(lN f j d bias).length<=k+1
  |k,f,j,d,bias,h0,hf,hk,hj=>by
    have hb:=fW j bias
    have hbe:bnd j bias=26:=by unfold bnd;omega
    by_cases hlt:d<bnd j bias
    · rw[kt f j hlt];simp
    obtain⟨g,rfl,hmo,hq⟩:=ku hlt hf h0
    rw[hmo,ag]
    cases k with
    |zero=>unfold IU at hk;omega
    |succ k =>
      have hk2:d<26+10*IU k:=hk
      have:=EA k g (j+1) _ bias (cM (by omega) (by omega)) hq (AE hb (DO k) hk2) (by omega)
      omega
def thA:Nat->Int
  |0=>1
  |k+1=>min (1+35*thA k) (IU (k+1))
theorem zr:∀ (k f j:Nat) (d bias:Int),0<=d->d<2 ^ f->d<thA k->(lN f j d bias).length<=k+1
  |k,f,j,d,bias,h0,hf,hk=>by
    have hb:=fW j bias
    by_cases hlt:d<bnd j bias
    · rw[kt f j hlt];simp
    obtain⟨g,rfl,hmo,hq⟩:=ku hlt hf h0
    rw[hmo,ag]
    cases k with
    |zero=>unfold thA at hk;omega
    |succ k =>
      have hk1:d<min (1+35*thA k) (IU (k+1)):=hk
      have hk2:d<26+10*IU k:=by have:IU (k+1)=26+10*IU k:=rfl
                                omega
      have hn:0<=(d-bnd j bias)/(36-bnd j bias):=cM (by omega) (by omega)
      by_cases hc:36*((j:Int)+1)-bias<=1
      · have hbe:bnd j bias=1:=by unfold bnd;omega
        have:=zr k g (j+1) ((d-bnd j bias)/(36-bnd j bias)) bias hn hq (by rw[hbe];omega)
        omega
      have:=EA k g (j+1) _ bias hn hq (AE hb (DO k) hk2) (by omega)
      omega
theorem Gq {d:Int} (bias:Int) (h0:0<=d) (h1:d<288888886):(lO d bias).length<=8:=by
  have h:thA 7=288888886:=by decide +kernel
  exact zr 7 40 0 d bias h0 (by omega) (by omega)
end
section
open Go.RowKit
set_option maxRecDepth 10000
theorem Ps {f:Nat} {d bias p0 n0 n:Int} {first:Bool} {l:List Int} {pos:Nat} (rest:Bytes) (h0:0<=d) (h1:d<=2147483647) (hp:p0+d=(n-n0)*(l.length+1)+pos) (hpos:pos<=l.length) (hl:l.length<255) (hn:sg n=true) :
    ic (f+1) (lO d bias++rest) l p0 n0 bias first=ic f rest (l.take pos++n::l.drop pos) (pos+1) n (nb d (l.length+1) first) false:=by
  have hd:=(sH d bias).1
  rw[jm f (by rw[af];omega),QM rest h0 h1]
  have hq:(p0+d)/((l.length:Int)+1)=n-n0:=by
    rw[hp,Int.add_comm,Int.add_mul_ediv_right _ _ (by omega),Int.ediv_eq_zero_of_lt (by omega) (by omega)]
    omega
  have hr:(p0+d)%((l.length:Int)+1)=pos:=by
    rw[hp,Int.add_comm,Int.add_mul_emod_self_right]
    exact Int.emod_eq_of_lt (by omega) (by omega)
  simp only[hq,hr,ki]
  rw[show n0+(n-n0)=n by omega,if_neg (by omega),if_neg (by rw[hn];simp;omega),oI]
theorem sC:∀ (f g:Nat) (s:Bytes) (l:List Int) (p n bias:Int) (first:Bool),s.length<=f->s.length<=g->ic f s l p n bias first=ic g s l p n bias first
  |0,g,s,l,p,n,bias,first,h,_=>by rw[fY 0 (by omega),fY g (by omega)]
  |f+1,0,s,l,p,n,bias,first,_,h=>by rw[fY (f+1) (by omega),fY 0 (by omega)]
  |f+1,g+1,s,l,p,n,bias,first,h,h'=>by
    by_cases h0:s.length=0
    · rw[fY _ h0,fY _ h0]
    rw[jm f h0,jm g h0]
    have hr:=tN s bias
    by_cases hk:(rd s bias).2=0
    · rw[if_pos hk,if_pos hk]
    rw[if_neg hk,if_neg hk]
    rw[sC f g _ _ _ _ _ _ (by rw[ai];omega) (by rw[ai];omega)]
def Gm (s:Bytes) (l:List Int) (p n bias:Int) (first:Bool):Option (List Int):=ic s.length s l p n bias first
theorem Ey {f:Nat} {s:Bytes} {l:List Int} {p n bias:Int} {first:Bool} (h:s.length<=f):ic f s l p n bias first=Gm s l p n bias first:=sC _ _ _ _ _ _ _ _ h (ae _)
theorem KD {d bias p0 n0 n:Int} {first:Bool} {l:List Int} {pos:Nat} (rest:Bytes) (h0:0<=d) (h1:d<=2147483647) (hp:p0+d=(n-n0)*(l.length+1)+pos) (hpos:pos<=l.length) (hl:l.length<255) (hn:sg n=true) :
    Gm (lO d bias++rest) l p0 n0 bias first=Gm rest (l.take pos++n::l.drop pos) (pos+1) n (nb d (l.length+1) first) false:=by
  have hd:=(sH d bias).1
  rw[<-Ey (f:=(lO d bias++rest).length+1) (by omega),Ps rest h0 h1 hp hpos hl hn,Ey (by rw[af];omega)]
end
section
open Go.RowKit
set_option maxRecDepth 10000
theorem Jr (l:List Int) (n:Int) (k:Nat):(Hk l n k).length<=l.length:=by
  unfold Hk
  have h1:=eQ (fun c=>decide (c<=n)) (l.take k)
  have h2:=eQ (fun c=>decide (c<n)) (l.drop k)
  have h3:(l.take k).length+(l.drop k).length=l.length:=by rw[<-List.length_append,cT]
  rw[af]
  omega
theorem rS (l:List Int) (n:Int) (hn:sg n=true) (hll:l.length<=255):∀ (q k:Nat) (s:En) (p0 n0:Int),k+q=l.length->0<=n0->n0<=n->0<=p0->s.d=(n-n0)*(s.done+1)+pk l n k-p0->s.done=(Hk l n k).length->0<=s.d ->
    ∃(W:Bytes) (p1 n1:Int),(dW n (l.drop k) s).out=s.out++W ∧
      (∀rest,Gm (W++rest) (Hk l n k) p0 n0 s.bias s.first=Gm rest (Hk l n l.length) p1 n1 (dW n (l.drop k) s).bias (dW n (l.drop k) s).first) ∧
      0<=n1∧n1<=n∧0<=p1∧(dW n (l.drop k) s).d=(n-n1)*((dW n (l.drop k) s).done+1)+pk l n l.length-p1∧(dW n (l.drop k) s).done=(Hk l n l.length).length∧0<=(dW n (l.drop k) s).d∧(∀y∈W,CN y)∧(W.length:Int)<=8*((dW n (l.drop k) s).done-s.done)
  |0,k,s,p0,n0,hk,hn0,hnn,hp0,hd,hdn,h0=>by
    obtain rfl:k=l.length:=by omega
    rw[dh]
    exact⟨[],p0,n0,by show s.out=_;simp,fun rest=>rfl,hn0,hnn,hp0,hd,hdn,h0,by simp,by show(0:Int)<=8*(s.done-s.done);omega⟩
  |q+1,k,s,p0,n0,hk,hn0,hnn,hp0,hd,hdn,h0=>by
    have hx:k<l.length:=by omega
    have hps:=QJ hx n
    have hpl:=a0k l n k
    have hnr:=qH.mp hn
    rw[Dv hx]
    obtain⟨o,d,dn,bi,fi⟩:=s
    simp only at hd hdn h0 ⊢
    have hcs:l[k]<n∨l[k]=n∨n<l[k]:=by omega
    rcases hcs with hc|hc|hc
    · rw[Al hc]
      rw[if_pos (by omega)]at hps
      obtain⟨W,p1,n1,h1,h2,h3,h4,h5,h6,h7,h8,h9,h10⟩:=rS l n hn hll q (k+1) ⟨o,d+1,dn,bi,fi⟩ p0 n0 (by omega) hn0 hnn hp0 (by simp only;omega) (by simp only;rw[rK hx (by omega)];exact hdn) (by simp only;omega)
      refine⟨W,p1,n1,h1,fun rest=>?_,h3,h4,h5,h6,h7,h8,h9,h10⟩
      rw[<-h2 rest,rK hx (by omega)]
    · rw[row_one hc]
      rw[if_pos (by omega)]at hps
      have hins:=Uf hx hc
      have hlen:(Hk l n (k+1)).length=(Hk l n k).length+1:=by rw[hins,af,aA,ag,ai];omega
      have hle:=Jr l n (k+1)
      have hmul:=Fc (a:=n-n0) (b:=dn+1) (by omega) (by omega)
      obtain⟨W,p1,n1,h1,h2,h3,h4,h5,h6,h7,h8,h9,h10⟩:=rS l n hn hll q (k+1) ⟨o++lO d bi,0,dn+1,nb d (dn+1) fi,false⟩ (pk l n k+1) n (by omega) (by omega) (jG _) (by omega) (by simp only;rw[Int.sub_self,Int.zero_mul];omega) (by simp only;omega) (jG _)
      refine⟨lO d bi++W,p1,n1,by rw[h1];simp only;rw[aX],fun rest=>?_,h3,h4,h5,h6,h7,h8,fun y hy=>(bl.mp hy).elim (Pt bi h0 (by omega) y) (h9 y),by have:=Gq bi h0 (by omega);rw[af];simp only at h10;omega⟩
      rw[<-h2 rest,aX,KD (pos:=pk l n k) (n:=n) (W++rest) h0 (by omega) (by rw[<-hdn];omega) hpl (by omega) hn,hins,<-hdn]
    rw[Am hc]
    rw[if_neg (by omega)]at hps
    obtain⟨W,p1,n1,h1,h2,h3,h4,h5,h6,h7,h8,h9,h10⟩:=rS l n hn hll q (k+1) ⟨o,d,dn,bi,fi⟩ p0 n0 (by omega) hn0 hnn hp0 (by simp only;omega) (by simp only;rw[rK hx (by omega)];exact hdn) (by simp only;omega)
    refine⟨W,p1,n1,h1,fun rest=>?_,h3,h4,h5,h6,h7,h8,h9,h10⟩
    rw[<-h2 rest,rK hx (by omega)]
end
section
open Go.RowKit
set_option maxRecDepth 10000
theorem sd (l:List Int) (n:Int):(Hk l n 0).length=cnt l n:=by unfold Hk cnt;rw[gZ,dx];rfl
theorem Ez (l:List Int) (hall:∀ c∈l,sg c=true) (hll:l.length<=255):∀ (f:Nat) (sign:Int) (s:En) (p0 n0:Int),0<=n0->n0<=sign->0<=p0->s.d=(sign-n0)*(s.done+1)-p0->s.done=(Hk l sign 0).length->0<=s.d->(l.length:Int)-s.done<=f ->
    ∃W:Bytes,nL f l sign s=s.out++W∧Gm W (Hk l sign 0) p0 n0 s.bias s.first=some l∧(∀y∈W,CN y)∧(W.length:Int)<=8*(l.length-s.done)
  |f,sign,s,p0,n0,hn0,hns,hp0,hd,hdn,h0,hf=>by
    by_cases hlt:s.done<l.length
    · cases f with
      |zero=>omega
      |succ g =>
        obtain⟨o,d,dn,bi,fi⟩:=s
        simp only at hd hdn h0 hf hlt ⊢
        have hex:=cnt_lt (l:=l) (sign:=sign) (by rw[<-sd];omega)
        obtain⟨hm1,hm2,P6⟩:=vQ (by omega) hex
        rw[sM g hlt]
        generalize oK l sign (-1)=m at *
        have hnx:=OX hm2 P6
        have a4k:pk l m 0=0:=by unfold pk;rw[gZ];rfl
        have hmul:(m-n0)*(dn+1)=(m-sign)*(dn+1)+(sign-n0)*(dn+1):=by rw[<-Int.add_mul];congr 1;omega
        have hpos:0<=(m-sign)*(dn+1):=dN (by omega) (by omega)
        obtain⟨W,p1,n1,h1,h2,h3,h4,h5,h6,h7,h8,h9,h10⟩:=rS l m (hall m hm1) hll l.length 0 ⟨o,d+(m-sign)*(dn+1),dn,bi,fi⟩ p0 n0 (by omega) hn0 (by omega) hp0 (by simp only;rw[a4k,hmul];omega) (by simp only;rw[hnx];exact hdn) (by simp only;omega)
        rw[dx]at h1 h2 h6 h7 h8 h10
        generalize dW m l ⟨o,d+(m-sign)*(dn+1),dn,bi,fi⟩=t at *
        have he:=Ue l m
        have hpe:=Wa l m
        rw[he]at h2 h7 hpe
        have hgrow:(Hk l (m+1) 0).length=cnt l m+eqs l m:=by rw[sd,su]
        have heq:=EH hm1
        have hold:dn=cnt l m:=by rw[hdn,<-hnx,sd]
        have ZA:(m+1-n1)*(t.done+1)=(m-n1)*(t.done+1)+(t.done+1):=by
          rw[show m+1-n1=(m-n1)+1 by omega,a9E,Int.one_mul]
        obtain⟨W2,e1,e2,e3,e4⟩:=Ez l hall hll g (m+1) ⟨t.out,t.d+1,t.done,t.bias,t.first⟩ p1 n1 h3 (by omega) h5 (by simp only;rw[ZA];omega) (by simp only;exact h7) (by simp only;omega) (by simp only;omega)
        refine⟨W++W2,?_,?_,fun y hy=>(bl.mp hy).elim (h9 y) (e3 y),by rw[af];simp only at h10 e4;omega⟩
        · rw[e1,h1,aX]
        rw[<-hnx,h2 W2]
        exact e2
    rw[sL f hlt]
    have hle:=Jr l sign 0
    refine⟨[],by simp,?_,by simp,by simp only[aQ];have h2:=Jr l sign 0;omega⟩
    rw[Ud (by omega)]
    rfl
end
section
open Go.RowKit
set_option maxRecDepth 10000
theorem byte_at (s:Bytes) (j:Nat) (h:j<s.length):(((bs s).data[j]!).toNat:Int)=b2 s[j]:=by
  unfold b2 bs
  simp[h]
end
section
open Go.RowKit
set_option maxRecDepth 10000
theorem sK {l:List Int} (hall:∀ c∈l,sg c=true) (hll:l.length<=255):∃ W:Bytes,Cd l=kr l++hyp (kr l)++W∧(∀y∈W,CN y)∧(W.length:Int)<=8*(l.length-(kr l).length)∧(W.length=0->(kr l).length=l.length):=by
  have hbl:=xn l
  have hbe:=si l
  obtain⟨W,e1,e2,e3,e4⟩:=Ez l hall hll l.length 128 ⟨kr l++hyp (kr l),0,(kr l).length,72,true⟩ 0 128 (by omega) (by omega) (by omega) (by simp) (by simp only;rw[sd,hbl]) (by simp) (by simp only;omega)
  refine⟨W,e1,e3,e4,fun h0=>?_⟩
  obtain rfl:W=[]:=am h0
  have h2:some (Hk l 128 0)=some l:=e2
  rw[<-congrArg List.length (bw h2),sd,hbl]
theorem KT {l:List Int} (hall:∀ c∈l,sg c=true) (hll:l.length<=255):(Cd l).length<=3000:=by
  obtain⟨W,e,_,h,_⟩:=sK hall hll
  have hbe:=si l
  have hh:(hyp (kr l)).length<=1:=by unfold hyp;split <;>simp
  rw[e,af,af]
  omega
end
end Go.Proofs.YtmndlfglgcioeaaGreatDoor
