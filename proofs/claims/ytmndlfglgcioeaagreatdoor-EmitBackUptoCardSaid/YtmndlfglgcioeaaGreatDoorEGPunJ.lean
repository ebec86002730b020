/- Joined texts. -/
import Derived.Lib.LazyBuf
import Derived.Test.YtmndlfglgcioeaaGreatDoorEGTextA
import Derived.Test.YtmndlfglgcioeaaGreatDoorShel
set_option maxHeartbeats 40000000
namespace Go.Proofs.YtmndlfglgcioeaaGreatDoor
open Tryz
open Go.RowKit
set_option maxRecDepth 10000
def a3p(w:World)(base:Nat)(l:List Int):Ending->World->Prop:=fun en w' =>
 ∃v',en=.returned v'∧w'.ownsRow base 3 1 v' l.length (ed l)∧w.heap.size<=w'.heap.size∧Below base w w'
theorem nG{w:World}{b t cap n base:Nat}{f:Nat->Value}{xs:List Value}(h:w.rowIs b t cap f)(hb:base<=b)(hn:n<=cap)(hm:cap<=maxLen)(hx:xs.length=n)(hf:∀ j,j<n->some (f j)=xs[j]?) :
  w.ownsRow base t 1 (.slice (some ⟨b,0,none⟩) n cap) n xs:=by
 obtain⟨c,hc,hs,hcf⟩:=h;refine⟨by omega,.inr ⟨b,cap,c,rfl,hb,hc,hn,hm,by omega,?_⟩⟩
 apply List.ext_getElem?
 intro j;rw[lE]
 split
 ·rw[jH,hcf j (by omega),hf j (by omega)]
 rw[eY (by omega)]
theorem Nn{w:World}{base t n:Nat}{g:Nat}{cap:Nat}{xs:List Value}(h:w.ownsRow base t 1 (.slice (some ⟨g,0,none⟩) n cap) n xs) :
  ∃f,w.rowIs g t cap f∧base<=g∧n<=cap∧cap<=maxLen∧∀ j,j<n->some (f j)=xs[j]?:=by
 obtain⟨hl,h⟩:=h;rcases h with⟨e,_⟩|⟨g',cap',cur,e,hb,hg,hn,hm,hs,ht⟩
 ·simp at e
 injection e with e1 e2 e3
 injection e1 with e1
 injection e1 with e1
 subst e1;subst e3;refine⟨fun j=>cur[j]?.getD undef,⟨cur,hg,by omega,fun j hj=>?_⟩,hb,hn,hm,fun j hj=>?_⟩
 ·have e:=df (xs:=cur) (i:=j) (by omega)
  simp[e]
 have e:=df (xs:=cur) (i:=j) (by omega);rw[<-ht,lE,if_pos (by omega),jH];simp[e]
theorem a0X{α:Type}(l:List α)(x:α)(i j:Nat)(hi:i<=l.length):(l.take i++x::l.drop i)[j]? = if j<i then l[j]? else if j=i then some x else l[j-1]?:=by
 by_cases h:j<i
 ·rw[if_pos h,cH (by rw[aE];omega),lE,if_pos h]
 rw[if_neg h,cu (by rw[aE];omega),aE,yv hi];by_cases h2:j=i
 ·subst h2;simp
 rw[if_neg h2];obtain⟨k,rfl⟩:∃ k,j=i+1+k:=⟨j-i-1,by omega⟩;rw[show i+1+k-i=k+1 by omega,cC,fY]
 congr 1
 omega
theorem SK(w:World)(base e:Nat)(xs:List Value)(n G:Nat)(hn:n=xs.length)(hG:n<=G)(hm:G<=maxLen)(hb:base<=w.heap.size) :
  (w.alloc (.cells (xs.toArray++Builtin.zeroCells (Value.int .i64 0).cells (G-n)) e)).ownsRow base e 1 (.slice (some ⟨w.heap.size,0,none⟩) n G) n xs:=by
 refine⟨by omega,.inr ⟨w.heap.size,G,_,rfl,hb,heap_alloc_new w _,hG,hm,?_,?_⟩⟩
 ·rw[N7,size_zeroCells]
  simp[Value.cells];omega
 rw[pZ,List.take_append_of_le_length (by simp;omega)];simp[hn]
theorem Nm(w:World)(c:Array Value)(t n:Nat)(hn:c.size=n):∃ f,(w.alloc (.cells c t)).rowIs w.heap.size t n f∧∀ j,j<n->some (f j)=c[j]?:=by
 subst hn;have h:∀ j,j<c.size->some (c[j]?.getD undef)=c[j]?:=fun j hj=>by simp[Array.getElem?_eq_getElem hj]
 exact⟨fun j=>c[j]?.getD undef,World.rowIs_alloc w c t _ (fun j hj=>(h j hj).symm),h⟩
theorem Pd(a:List Value)(k m n:Nat)(h:a.length+k+m=n):(a.toArray++Builtin.zeroCells (Value.int .i64 0).cells k++Builtin.zeroCells (Value.int .i64 0).cells m).size=n:=by
 rw[N7,N7,size_zeroCells,size_zeroCells];simp[Value.cells];exact h
theorem ZE{cs:List Value}{i j:Nat}(B C:Array Value)(h:j<i)(hi:i<=cs.length):((List.take i cs).toArray++B++C)[j]? = cs[j]?:=by
 rw[<-Array.getElem?_toList,pZ,pZ,cH (by simp;omega),cH (by simp;omega)];simp[h]
theorem YB(cs:List Value)(u:Value)(i j:Nat)(f:Nat->Value)(hi:i<=cs.length)(hj:j<cs.length+1)(hf:j<i->some (f j)=cs[j]?) :
  some (if i+1<=j∧j<i+1+(List.drop i cs).length then(List.drop i cs)[j-(i+1)]?.getD default else if i<=j∧j<i+[u].length then [u][j-i]?.getD default else f j) =
   if j<i then cs[j]? else if j=i then some u else cs[j-1]?:=by
 by_cases h1:j<i
 ·rw[if_neg (by omega),if_neg (by omega),if_pos h1,hf h1]
 by_cases h2:j=i
 ·subst h2
  rw[if_neg (by omega),if_pos (by simp),if_neg (by omega),if_pos rfl];simp
 rw[if_pos (by rw[ah];omega),if_neg h1,if_neg h2,fY,show i+(j-(i+1))=j-1 by omega,aJ (by omega)];rfl
theorem a5q(cs:List Value)(u:Value)(i j:Nat)(f:Nat->Value)(hi:i<=cs.length)(hj:j<cs.length+1)(hf:j<i->some (f j)=cs[j]?) :
  some (if i<=j∧j<i+[u].length then [u][j-i]?.getD default else if i+1<=j∧j<i+1+(List.drop i cs).length then(List.drop i cs)[j-(i+1)]?.getD default else f j) =
   if j<i then cs[j]? else if j=i then some u else cs[j-1]?:=by
 rw[<-YB cs u i j f hi hj hf];by_cases h1:i+1<=j∧j<i+1+(List.drop i cs).length
 ·rw[if_neg (by simp;omega),if_pos h1,if_pos h1]
 rw[if_neg h1,if_neg h1]
theorem Bg{α:Type}(l:List α)(x:α)(i:Nat)(hi:i<=l.length):(l.take i++x::l.drop i).length=l.length+1:=by
 rw[ae,aE,ag,ah];omega
theorem wL(l:List Int)(x:Int)(i:Nat)(v:Value)(base:Nat)(w:World)(h:w.ownsRow base 3 1 v l.length (ed l))(hb:base<=w.heap.size)(hi:i<=l.length)(hl:l.length<=1000) :
  Calls prog 234 #[v,.int .i64 i,.slice (some ⟨w.heap.size,0,none⟩) 1 1] (w.alloc (.cells #[.int .i64 x] 3)) fun e w'=>a3p w base (l.take i++x::l.drop i) e w':=by
 have hlen:=Bg l x i hi;have hcl:(ed l).length=l.length:=by simp
 have hvs:∀ j u,[Value.int .i64 x][j]? = some u->(w.alloc (.cells #[.int .i64 x] 3)).cell? ⟨w.heap.size,0+j,none⟩=some u:=by
  intro j u hj
  match j,hj with
  |0,hj=>simp at hj;subst hj;rw[World.cell?_alloc_mark];rfl
 have h1v:∀ u ∈ [Value.int .i64 x],u.oneCell'=true:=by intro u hu;simp at hu;subst hu;rfl
 have h1c:∀ u∈ed l,u.oneCell'=true:=by intro u hu;simp at hu;obtain⟨_,_,rfl⟩:=hu;rfl
 have hbW:Below base w (w.alloc (.cells #[.int .i64 x] 3)):=(Below.refl _ _).alloc hb _;have hzW:(w.alloc (.cells #[.int .i64 x] 3)).heap.size=w.heap.size+1:=by simp
 have hA:=h.alloc (.cells #[.int .i64 x] 3);have hlt:=h.lt
 have hins:∀ j,(ed (l.take i++x::l.drop i))[j]? = if j<i then(ed l)[j]? else if j=i then some (.int .i64 x)else(ed l)[j-1]?:=by
  intro j;rw[eI,a0X l x i j hi]
  split
  ·rw[eI]
  split
  ·rfl
  rw[eI]
 generalize hW:w.alloc (.cells #[.int .i64 x] 3)=W at *
 have hend:∀ (bs:Option Addr) (c:Nat),l.length<=c->c<l.length+1->i=l.length->(bs=none->l.length=0)->(∀a,bs=some a->∀ j u,(ed l)[j]? = some u->W.cell? (a.add j)=some u) ->
   Calls prog 234 #[.slice bs l.length c,.int .i64 i,.slice (some ⟨w.heap.size,0,none⟩) 1 1] W fun e w'=>a3p w base (l.take i++x::l.drop i) e w':=by
  intro bs' c h1 h2 h3 h4 h5;subst h3;have hc1:l.length+1<=grownCap W (l.length+1) c 3:=grownCap_ge _ _ _ _;have hc2:grownCap W (l.length+1) c 3<=maxLen:=grownCap_le_maxLen _ _ _ _ (by unfold maxLen;omega);have hc:=Any2.slices_Insert_int_end_grow laysIns bs' l.length c w.heap.size 0 1 1 (ed l) [.int .i64 x] W (by omega) h1 h2 (by omega) hcl rfl h4 h5 hvs h1v;refine(show Calls prog 234 _ W _ from hc).mono ?_;rintro e w' ⟨rfl,rfl⟩;refine⟨_,rfl,?_,by simp[hzW];omega,(hbW.drew).alloc (by simp[hzW];omega) _⟩;rw[hlen,dx,dJ,show ed (l++[x])=ed l++[Value.int .i64 x] by simp];exact SK W.drew base 3 (ed l++[.int .i64 x]) (l.length+1) _ (by simp) hc1 hc2 (by show base<=W.heap.size;omega)
 rcases h.2 with⟨rfl,h0⟩|⟨g,cap,cur,rfl,hbg,hg,hnc,hcm,hcs,hct⟩
 ·obtain rfl:l=[]:=ak h0
  exact hend none 0 (af _) (by omega) (by simpa using hi) (fun _=>rfl) (by simp)
 obtain⟨f,hf,_,_,_,hfx⟩:=Nn hA;have hcell:∀ j u,(ed l)[j]? = some u->W.cell? ((⟨g,0,none⟩:Addr).add j)=some u:=hA.cells rfl;have a4D:=hlt g rfl
 have hcell':∀ j u,(ed l)[j]? = some u->W.cell? ⟨g,0+j,none⟩=some u:=fun j u hj=>by
  have:=hcell j u hj
  rwa [addr_add]at this
 have a9l:w.heap.size≠g:=by omega
 by_cases hroom:cap<l.length+1
 ·by_cases hin:i=l.length
  ·exact hend (some ⟨g,0,none⟩) cap hnc hroom hin (by simp) (fun a ha=>by simp at ha;subst ha;exact hcell)
  have hc1:l.length+1<=grownCap W (l.length+1) cap 3:=grownCap_ge _ _ _ _;have hc2:grownCap W (l.length+1) cap 3<=maxLen:=grownCap_le_maxLen _ _ _ _ (by unfold maxLen;omega);have hc:=Any2.slices_Insert_int_grow laysIns g 0 l.length cap i w.heap.size 0 1 1 (ed l) [.int .i64 x] W (by omega) (by omega) hnc hroom (by omega) hcl rfl hcell' hvs h1c h1v;refine(show Calls prog 234 _ W _ from hc).mono ?_;rintro e w' ⟨rfl,rfl⟩;have hsz:=Pd (List.take i (ed l)) (l.length+1-i) (grownCap W (l.length+1) cap 3-(l.length+1)) (grownCap W (l.length+1) cap 3) (by rw[aE,hcl];omega);obtain⟨f0,r0,hf0⟩:=Nm W _ 3 _ hsz;have r2:=Go.rowIs_setCells (List.drop i (ed l)) (i+1) _ _ (Go.rowIs_setCells [.int .i64 x] i _ _ r0.drew).drew;have hfin:=fun(o:Obj)=>Go.below_setCells (B:=base) (b:=W.heap.size) (by omega) (List.drop i (ed l)) (i+1) _ ((Go.below_setCells (B:=base) (b:=W.heap.size) (by omega) [.int .i64 x] i _ ((hbW.alloc (by omega) o).drew)).drew);refine⟨_,rfl,?_,?_,?_⟩
  ·rw[hlen]
   refine nG r2 (by omega) hc1 hc2 ((am _).trans hlen) (fun j hj=>?_);rw[hins j];exact YB (ed l) (.int .i64 x) i j f0 (by omega) (by omega) (fun h=>(hf0 j (by omega)).trans (ZE _ _ h (by omega)))
  ·exact(hfin _).size
  exact hfin _
 have hsome:∀ j,j<l.length+1->(W.cell? ⟨g,0+j,none⟩).isSome=true:=fun j hj=>by rw[bC,hf.cell (by omega)];rfl
 have Yr:∀ j,W.frozen? ⟨g,j,none⟩=false:=fun j=>hf.frozen j;have hr:=Go.rowIs_setCells (List.drop i (ed l)) (i+1) _ _ hf.drew;have hr:=Go.rowIs_setCells [.int .i64 x] i _ _ hr;by_cases hin:i=l.length
 ·subst hin
  have a0I:∀ j,j<1->(W.cell? ⟨g,0+l.length+j,none⟩).isSome=true:=fun j hj=>by rw[hf.cell (by omega)];rfl
  have hc:=Any2.slices_Insert_int_end_room laysIns g 0 l.length cap w.heap.size 0 1 1 [.int .i64 x] W (by omega) (by omega) (by unfold maxLen at hcm;omega) rfl (fun j hj=>a0I j hj) (fun j _=>Yr _) hvs h1v;refine(show Calls prog 234 _ W _ from hc).mono ?_;rintro e w' ⟨rfl,rfl⟩;have hfin:=Go.below_setCells (B:=base) (b:=g) hbg [.int .i64 x] (0+l.length) _ hbW;refine⟨_,rfl,?_,hfin.size,hfin⟩;rw[hlen];have hr1:=Go.rowIs_setCells [.int .i64 x] (0+l.length) _ _ hf;refine nG hr1 hbg (by omega) hcm ((am _).trans hlen) (fun j hj=>?_);rw[hins j];by_cases h1:j<l.length
  ·rw[if_neg (by omega),if_pos h1,hfx j h1]
  obtain rfl:j=l.length:=by omega
  rw[if_pos (by simp),if_neg (by omega),if_pos rfl];simp
 have hgW:W.shape? g=some (3,cap):=by
  obtain⟨c,h1,h2,_⟩:=hf;unfold World.shape?;rw[h1,<-h2]
 have hwW:W.shape? w.heap.size=some (3,1):=by rw[<-hW];unfold World.shape?;rw[heap_alloc_new];rfl
 have hwf:∀ j,W.frozen? ⟨w.heap.size,j,none⟩=false:=fun j=>by rw[<-hW];unfold World.frozen?;rw[heap_alloc_new];simp
 have hc:=Any2.slices_Insert_int_shift laysIns g 0 l.length cap i w.heap.size 0 1 1 (ed l) [.int .i64 x] W (by omega) (by omega) (by omega) (by unfold maxLen at hcm;omega) a9l hcl rfl hcell' hsome (fun j _=>Yr _) hvs h1c h1v
  3 3 1 cap hwW hgW (by omega) (hwf _) (hwf _)
 refine(show Calls prog 234 _ W _ from hc).mono ?_;rintro e w' ⟨rfl,rfl⟩;simp only[bC];have hfin:=Go.below_setCells (B:=base) (b:=g) hbg [.int .i64 x] i _ (Go.below_setCells (B:=base) (b:=g) hbg (List.drop i (ed l)) (i+1) _ hbW.drew);refine⟨_,rfl,?_,hfin.size,hfin⟩;rw[hlen];refine nG hr hbg (by omega) hcm ((am _).trans hlen) (fun j hj=>?_);rw[hins j];exact a5q (ed l) (.int .i64 x) i j f (by omega) (by omega) (fun h=>hfx j (by omega))

def kk:Nat->Bytes->List Int->Int->Int->Int->Bool->Option (List Int)
 |0,s,l,_,_,_,_=>if s.length=0 then some l else none
 |f+1,s,l,p,n,bias,first =>
  if s.length=0 then some l
  else if(rd s bias).2=0 then none
  else if l.length=255∨¬ sg (n+(p+(rd s bias).1)/(l.length+1))=true then none
  else kk f (s.drop (rd s bias).2.toNat) (l.take ((p+(rd s bias).1)%(l.length+1)).toNat++(n+(p+(rd s bias).1)/(l.length+1))::l.drop ((p+(rd s bias).1)%(l.length+1)).toNat)
   ((p+(rd s bias).1)%(l.length+1)+1) (n+(p+(rd s bias).1)/(l.length+1)) (nb (rd s bias).1 (l.length+1) first) false
theorem jf(f:Nat){s:Bytes}(h:s.length=0){l:List Int}{p n bias:Int}{first:Bool}:kk f s l p n bias first=some l:=by
 cases f with
 |zero=>unfold kk;rw[if_pos h]
 |succ f=>unfold kk;rw[if_pos h]
theorem li(f:Nat){s:Bytes}(h:¬ s.length=0){l:List Int}{p n bias:Int}{first:Bool}:kk (f+1) s l p n bias first =
  if(rd s bias).2=0 then none
  else if l.length=255∨¬ sg (n+(p+(rd s bias).1)/(l.length+1))=true then none
  else kk f (s.drop (rd s bias).2.toNat) (l.take ((p+(rd s bias).1)%(l.length+1)).toNat++(n+(p+(rd s bias).1)/(l.length+1))::l.drop ((p+(rd s bias).1)%(l.length+1)).toNat)
   ((p+(rd s bias).1)%(l.length+1)+1) (n+(p+(rd s bias).1)/(l.length+1)) (nb (rd s bias).1 (l.length+1) first) false:=by
 rw[kk,if_neg h]
theorem Lk{l:Bytes}{k:Nat}(h:k<l.length)(ha:∀ y∈l.take k,b2 y<128)(hx:b2 l[k]<128):∀ y∈l.take (k+1),b2 y<128:=by
 rw[aI h];intro y hy;rcases au.mp hy with h|h
 ·exact ha y h
 simp at h;subst h;exact hx
def sP(s:Bytes):Int:=Lib.lastIndexByte (bs s) 45
def vB(s:Bytes):Option (List Int) :=
 if 0<sP s then
  if 255<sP s then none
  else if(s.take (sP s).toNat).all (fun x=>decide (b2 x<128))then kk s.length (s.drop ((sP s).toNat+1)) ((s.take (sP s).toNat).map b2) 0 128 72 true else none
 else kk s.length s [] 0 128 72 true
theorem GR(s:Bytes):sP s=-1∨∃ k:Nat,k<s.length∧sP s=k:=by
 unfold sP Lib.lastIndexByte;rcases Lib.lastIdx_spec (bs s) 45 (bs s).size with⟨h,_⟩|⟨i,h1,h2,_⟩
 ·exact .inl h
 exact .inr ⟨i,by rwa [aM]at h1,h2⟩
def qB(w:World)(o:Option (List Int)):Ending->World->Prop:=fun en w' =>
 ∃v,en=.returned (.tuple #[v,.bool o.isSome])∧w'.ownsRow w.heap.size 3 1 v (o.getD []).length (ed (o.getD []))∧w.heap.size<=w'.heap.size∧Below w.heap.size w w'
theorem qB.none{w w':World}{o:Option (List Int)}(h:o=none)(hz:w.heap.size<=w'.heap.size)(hb:Below w.heap.size w w'):qB w o (.returned (.tuple #[.slice Option.none 0 0,.bool false])) w':=by
 subst h;exact⟨_,rfl,World.ownsRow_nil _ _ _ _,hz,hb⟩
theorem qB.some{w w':World}{o:Option (List Int)}{l:List Int}{v:Value}{n:Nat}(h:o=some l)(hn:n=l.length)(ho:w'.ownsRow w.heap.size 3 1 v n (ed l))(hz:w.heap.size<=w'.heap.size)(hb:Below w.heap.size w w') :
  qB w o (.returned (.tuple #[v,.bool true])) w':=by
 subst h;subst hn;exact⟨_,rfl,ho,hz,hb⟩
theorem Es:∀ (l:Bytes) (j:Nat) (s w b:Int),(og l j s w b).2=0∧(og l j s w b).1=0∨(j:Int)+1<=(og l j s w b).2∧(og l j s w b).2<=j+l.length∧(og l j s w b).1<=2147483647
 | [],_,_,_,_=>.inl ⟨rfl,rfl⟩
 |x::r,j,s,w,b=>by
  unfold og;simp only
  split
  ·exact .inl ⟨rfl,rfl⟩
  split
  ·exact .inl ⟨rfl,rfl⟩
  split
  ·right
   simp only[ag];omega
  have:=Es r (j+1) (s+wrt (b2 x)*w) (w*(36-bnd j b)) b;simp only[ag];omega
theorem Et:∀ (l:Bytes) (j:Nat) (s w b:Int),0<=s->0<=w->0<=(og l j s w b).1
 | [],_,_,_,_,_,_=>lG _
 |x::r,j,s,w,b,hs,hw=>by
  unfold og;simp only
  split
  ·exact lG _
  have h1:=Ag (b2 x);have h2:0<=wrt (b2 x)*w:=eD (by omega) hw;have h3:=jd j b
  split
  ·exact lG _
  split
  ·show 0<=s+_;omega
  exact Et r (j+1) _ _ b (by omega) (eD hw (by omega))
theorem xo(s:Bytes)(b:Int):0<=(rd s b).1∧(rd s b).1<=2147483647∧0<=(rd s b).2∧(rd s b).2<=s.length:=by
 have h1:=Es s 0 0 1 b;have h2:=Et s 0 0 1 b (by omega) (by omega);unfold rd;omega
def RZ:Value->Nat
 | .string s=>s.size
 |_=>0
theorem vN(t:Bytes)(n:Nat):(bs t).extract n (bs t).size=bs (t.drop n):=by
 rw[bX,aM]
 congr 1
 exact aP (by rw[ah];exact af _)
theorem Dj(s0:Bytes)(w:World)(hs:s0.length<=102400000) :
  Calls prog 223 #[.string (bs s0)] w fun e w'=>qB w (vB s0) e w':=by
 obtain⟨i0,hi0,hz0,hz1,hz2⟩:=info_parts DV;obtain⟨T,hT⟩:=az (vB s0);rw[<-hT];have hi:=GR s0;have Ra:=fun W=>Any.strings_LastIndexByte laysLib (bs s0) 45 (by rw[aM];omega) W;unfold vB at hT;obtain⟨h,hh⟩:=az (sP s0);have DS:∀ W,bV prog 166 #[.string (bs s0),.int .u8 45] W (.int .i64 h):=by rw[hh];exact Ra
 rw[<-hh]at hT hi;have HT:=h_ hT;clear hT;have Cq:=h_ DS;clear DS Ra hh;obtain⟨s,hss⟩:=az (bs s0);have hsz:s.size=s0.length:=by rw[hss,aM]
 obtain⟨L,hL⟩:=az (s0.length);rw[<-hL]at hs hsz hi;rw[<-hss];rw[<-hss]at Cq;have HL:=h_ hL;clear hL;have HS:=h_ hss;clear hss;have hc:h<=0∨(0<h∧255<h)∨(0<h∧h<=255):=by omega
 rcases hc with hc|⟨hc,hd⟩|⟨hc,hd⟩
 ·have hT:=HT.out
  rw[if_neg (by omega)]at hT;have HT2:=h_ hT;clear hT HT;go_enter func223,ntmps223
  go_wp2_with (first
   |(go_at_call 166;refine(Cq.out _).mono ?_;rintro e w2 ⟨rfl,hw2⟩;subst w2)
   |fail)
  go_loopw [0,4,7,8,9,10] (fun sv lv pv nv bv fv wr=>∃ (f:Nat) (t:Bytes) (l:List Int) (p n bi:Int) (fi:Bool),sv=.string (bs t)∧pv=.int .i64 p∧nv=.int .i64 n∧bv=.int .i64 bi∧fv=.bool fi ∧
    wr.ownsRow w.heap.size 3 1 lv l.length (ed l)∧T=kk f t l p n bi fi∧t.length<=f∧f<=102400000∧l.length<=255∧0<=p∧p<=256∧128<=n∧n<=1114111∧0<=bi∧bi<=2400∧w.heap.size<=wr.heap.size∧Below w.heap.size w wr) (fun sv _ _ _ _ _ _=>RZ sv)
  case atStart=>exact⟨L,s0,[],0,128,72,true,by rw[HS.out],rfl,rfl,rfl,rfl,World.ownsRow_nil _ _ _ _,by rw[HL.out];exact HT2.out,by rw[HL.out];exact af _,hs,by simp,by omega,by omega,by omega,by omega,by omega,by omega,af _,Below.refl _ _⟩
  case round =>
   obtain⟨f,t,l,p,n,bi,fi,rfl,rfl,rfl,rfl,rfl,hown,lK,GH,hf1,hll,hp0,hp1,hn0,hn1,hb0,hb1,hwz,hbel⟩:=hrel;have HO:=h_ hown;clear hown;have HB:=h_ hbel;clear hbel;by_cases ht:t.length=0
   ·rw[jf f ht]at lK
    have hemp:(bs t).toList.isEmpty=true:=by rw[ay,ak ht];rfl
    have HT3:=h_ lK;clear lK;clear ht GH
    go_wp2
    go_ret2
    exact qB.some HT3.out rfl HO.out hwz HB.out
   cases f with
   |zero=>omega
   |succ g =>
    rw[li g ht]at lK
    have hemp:(bs t).toList.isEmpty=false:=by
     rw[ay];cases t with
     |nil=>simp at ht
     |cons y r=>rfl
    have hrr:=xo t bi;have hra:=fun W=>Ev (bs t) bi W (by rw[aM];omega) (by omega);rw[dR]at hra;have hdr:=vN t (rd t bi).2.toNat;obtain⟨d,hd'⟩:∃ d,d=(rd t bi).1:=⟨_,rfl⟩;obtain⟨k,hk'⟩:∃ k,k=(rd t bi).2:=⟨_,rfl⟩;rw[<-hd',<-hk']at lK hrr hra;rw[<-hk']at hdr;clear hd' hk';have htl:(bs t).size=t.length:=aM t;obtain⟨tl,GI⟩:∃ tl,tl=t.length:=⟨_,rfl⟩;rw[<-GI]at htl GH hrr;have Ap:=h_ GI;clear GI ht;have dH:=h_ hra;clear hra;by_cases hk0:k=0
    ·rw[if_pos hk0]at lK
     have HT3:=h_ lK;clear lK hdr;subst hk0
     go_wp2_with (first
      |(go_at_call 232;refine(dH.out _).mono ?_;rintro e w2 ⟨rfl,rfl⟩)
      |fail)
     go_ret2
     exact qB.none HT3.out hwz HB.out
    rw[if_neg hk0]at lK;have hex:(bs t).extract k.toNat (bs t).size=bs (t.drop k.toNat):=hdr;clear hdr;obtain⟨m,hm⟩:∃ m:Nat,m=l.length:=⟨_,rfl⟩;rw[<-hm]at lK hll;have hlen:l.length=m:=hm.symm;have HM:=h_ hm;clear hm;have hq1:Int.tdiv (p+d) (m+1)=(p+d)/(m+1):=kp (by omega);have hq2:Int.tmod (p+d) (m+1)=(p+d)%(m+1):=eE (by omega);have hq3:0<=(p+d)/(m+1)∧(p+d)/(m+1)<=p+d:=⟨du (by omega) (by omega),nP _ (by omega)⟩;have hq4:0<=(p+d)%(m+1)∧(p+d)%(m+1)<m+1:=⟨pq _ (by omega),lD _ (by omega)⟩;obtain⟨dv,hdv⟩:=az ((p+d)/((m:Int)+1));obtain⟨qn,hqn⟩:∃ qn:Nat,(p+d)%((m:Int)+1)=(qn:Int):=⟨((p+d)%((m:Int)+1)).toNat,(Int.toNat_of_nonneg hq4.1).symm⟩;rw[<-hdv]at hq1 hq3 lK;rw[hqn]at hq2 hq4 lK;rw[eF]at lK;clear hdv hqn;obtain⟨al,cl,hv⟩:=dN (Sl.dM HO.out);rw[show(ed l).length=m by rw[am,hlen]]at hv;subst hv;have qL:(bs t).extract k.toNat tl=bs (t.drop k.toNat):=by rw[<-htl];exact hex
    have hsa:=fun W=>qS (n+dv) W
    have hcs:m=255∨(m<255∧sg (n+dv)=false)∨(m<255∧sg (n+dv)=true):=by
     by_cases h5:m=255
     ·exact .inl h5
     cases hq:sg (n+dv)
     ·exact .inr (.inl ⟨by omega,rfl⟩)
     exact .inr (.inr ⟨by omega,rfl⟩)
    rcases hcs with hc|⟨hc,hsg⟩|⟨hc,hsg⟩
    ·rw[if_pos (.inl hc)]at lK
     have HT3:=h_ lK;clear lK hsa;subst hc
     go_wp2_with (first
      |(go_at_call 232;refine(dH.out _).mono ?_;rintro e w2 ⟨rfl,rfl⟩)
      |fail)
     go_ret2
     exact qB.none HT3.out hwz HB.out
    ·rw[if_pos (.inr (by rw[hsg];simp))]at lK
     rw[hsg]at hsa;have Og:=h_ hsa;clear hsa hsg;have HT3:=h_ lK;clear lK
     go_wp2_with (first
      |(go_at_call 232;refine(dH.out _).mono ?_;rintro e w2 ⟨rfl,rfl⟩)
      |(go_at_call 233;refine(Og.out _).mono ?_;rintro e w2 ⟨rfl,rfl⟩)
      |fail)
     go_ret2
     exact qB.none HT3.out hwz HB.out
    rw[if_neg (by rw[hsg];simp;omega)]at lK;have hsr:=(pe.mp hsg);rw[hsg]at hsa;have Og:=h_ hsa;clear hsa hsg;have HT3:=h_ lK;clear lK;have hil:=Bg l (n+dv) qn (by omega);have hin:=wL l (n+dv) qn _ w.heap.size wr HO.out hwz (by omega) (by omega);have XT:=h_ hin;clear hin;have HSR:=h_ hsr.2.1;clear hsr;rw[hlen]at hil;obtain⟨l2,hl2⟩:=az (l.take qn++(n+dv)::l.drop qn);rw[<-hl2]at hil XT HT3;clear hl2;have UL:=h_ hil;clear hil
    go_wp2_with (first
     |(go_at_call 232;refine(dH.out _).mono ?_;rintro e w2 ⟨rfl,rfl⟩)
     |(go_at_call 233;refine(Og.out _).mono ?_;rintro e w2 ⟨rfl,rfl⟩)
     |(go_at_call 234;refine(XT.out).mono ?_;rintro e w3 ⟨v3,rfl,ho3,hz3,hb3⟩;have kq:=h_ ho3;have HZ3:=h_ hz3;clear hz3;have HB3:=h_ hb3;clear hb3;obtain⟨al3,cl3,hv3⟩:=dN (Sl.dM ho3);rw[show(ed l2).length=m+1 by rw[am];exact UL.out]at hv3;subst hv3;clear ho3)
     |(go_at_call 235;refine(nA d (m+1) fi _ (by omega) (by omega)).mono ?_;rintro e w4 ⟨rfl,rfl⟩)
     |fail)
    have hnb:=xe (d:=d) (n:=(m:Int)+1) fi hrr.1 (by omega);have UP:=h_ hnb;clear hnb;go_roundw
    case rel =>
     refine⟨g,t.drop k.toNat,l2,qn+1,n+dv,nb d (m+1) fi,false,rfl,rfl,rfl,rfl,rfl,by rw[UL.out];have:=kq.out;rw[UL.out]at this;exact this,HT3.out,?_,by omega,by rw[UL.out];omega,by omega,by omega,by omega,HSR.out,UP.out.1,UP.out.2,by have:=HZ3.out;omega,HB.out.trans HB3.out⟩;rw[ah,<-Ap.out];omega
    case measure =>
     have e:=Ap.out;show(bs (t.drop k.toNat)).size<(bs t).size;rw[aM,aM,ah];omega
 ·have hT:=HT.out
  rw[if_pos (by omega),if_pos (by omega)]at hT;have HT2:=h_ hT;clear hT HT;go_enter func223,ntmps223
  go_wp2_with (first
   |(go_at_call 166;refine(Cq.out _).mono ?_;rintro e w2 ⟨rfl,hw2⟩;subst w2)
   |fail)
  go_ret2
  exact qB.none HT2.out (af _) (Below.refl _ _)
 have hT:=HT.out;rw[if_pos (by omega),if_neg (by omega)]at hT
 obtain⟨k0,hk0,hkh⟩:∃ k0:Nat,k0<L∧h=k0:=by
  rcases hi with hi|⟨k0,h1,h2⟩
  ·omega
  exact⟨k0,h1,h2⟩
 have htn:h.toNat=k0:=by omega
 have a0L:(h+1).toNat=k0+1:=by omega
 have hhl:h+1<=L:=by omega
 rw[htn]at hT;have HT2:=h_ hT;clear hT HT hi
 have hex:s.extract (k0+1) L=bs (s0.drop (k0+1)):=by
  have:=vN s0 (k0+1);rw[<-HS.out,hsz]at this;exact this
 rw[<-a0L]at hex;have Ob:=h_ hex;clear hex htn;have HTN:=h_ a0L;clear a0L;have HKH:=h_ hkh;clear hkh;go_enter func223,ntmps223
 go_wp2_with (first
  |(go_at_call 166;refine(Cq.out _).mono ?_;rintro e w2 ⟨rfl,hw2⟩;subst w2)
  |fail)
 go_loopw [4,20] (fun lv iv wr=>∃ (k:Nat),k<=k0∧iv=.int .i64 k∧wr.ownsRow w.heap.size 3 1 lv k (ed ((s0.take k).map b2))∧(∀y∈s0.take k,b2 y<128)∧w.heap.size<=wr.heap.size∧Below w.heap.size w wr) (fun _ i _=>k0-(intOf i).toNat)
 case atStart=>exact⟨0,aK _,rfl,World.ownsRow_nil _ _ _ _,by simp,af _,Below.refl _ _⟩
 case round =>
  obtain⟨k,hk,rfl,hown,hall,hwz,hbel⟩:=hrel;have HO:=h_ hown;clear hown;have HA:=h_ hall;clear hall;have HB:=h_ hbel;clear hbel;by_cases hlt:(k:Int)<h
  ·have hlt2:k<k0:=by have:=HKH.out;omega
   have hk2:k<s.size:=by omega
   have hx:k<s0.length:=by rw[<-HL.out];omega
   have hxe:((s[k]'hk2).toNat:Int)=b2 s0[k]:=cJ HS.out hk2 hx;have hx8:=jr s0[k];rw[<-hxe]at hx8
   have hsn:ed ((s0.take (k+1)).map b2)=ed ((s0.take k).map b2)++[.int .i64 ((s[k]'hk2).toNat:Int)]:=by
    rw[aI hx,py,hxe];simp
   have nO:=h_ hsn;clear hsn
   have hmem:s0[k]∈s0.take k0:=by
    rw[List.mem_take_iff_getElem];exact⟨k,by omega,rfl⟩
   have hstep:=Lk hx HA.out;rw[<-hxe]at hstep;have HST:=h_ hstep;clear hstep;have hw:IntKind.i64.wrap ((s[k]'hk2).toNat:Int)=((s[k]'hk2).toNat:Int):=IntWalk.i64_in _ (by omega);have hcs:((s[k]'hk2).toNat:Int)<128∨128<=((s[k]'hk2).toNat:Int):=by omega
   rcases hcs with hc3|hc3
   ·clear hxe hmem
    go_wp2_with (at_builtin;(refine eO rfl (.tmp 27) (.tmp 32) _ rfl w.heap.size 3 i0 (.int .i64 0) 8 underlying200 hi0 hz0 hz1 hz2 (by decide) _ _ k (ed ((s0.take k).map b2)) rfl HO.out (.int .i64 ((s[k]'hk2).toNat:Int)) rfl rfl (by omega) (by decide) hwz ?_);intro v2 w2 hown2 hw2 hb2;have fg:=h_ hown2;clear hown2;have HB2:=h_ hb2;clear hb2)
    go_roundw
    case rel=>exact⟨k+1,hlt2,by simp,by rw[nO.out];exact fg.out,HST.out hc3,by omega,HB.out.trans HB2.out⟩
    case measure=>simp[intOf];omega
   have hno:T=none:=by
    rw[HT2.out,if_neg];intro ha;have:=of_decide_eq_true (bo.mp ha _ hmem);omega
   have UQ:=h_ hno;clear hno hxe hmem
   go_wp2
   go_ret2
   exact qB.none UQ.out hwz HB.out
  obtain rfl:k0=k:=by have:=HKH.out;omega
  have hT:=HT2.out;rw[if_pos (bo.mpr fun y hy=>decide_eq_true (HA.out y hy))]at hT;have HT3:=h_ hT;clear hT HT2;have hlen:((s0.take k0).map b2).length=k0:=by rw[am,aE,<-HL.out];omega
  have hown0:=HO.out;have OL:=h_ hlen;clear hlen;have HOW:=h_ hown0;clear hown0;have hex:=Ob.out;have vj:=h_ HB.out;have Rh:=hwz
  go_wp2
  go_loopw [0,4,7,8,9,10] (fun sv lv pv nv bv fv wr=>∃ (f:Nat) (t:Bytes) (l:List Int) (p n bi:Int) (fi:Bool),sv=.string (bs t)∧pv=.int .i64 p∧nv=.int .i64 n∧bv=.int .i64 bi∧fv=.bool fi ∧
    wr.ownsRow w.heap.size 3 1 lv l.length (ed l)∧T=kk f t l p n bi fi∧t.length<=f∧f<=102400000∧l.length<=255∧0<=p∧p<=256∧128<=n∧n<=1114111∧0<=bi∧bi<=2400∧w.heap.size<=wr.heap.size∧Below w.heap.size w wr) (fun sv _ _ _ _ _ _=>RZ sv)
  case atStart=>exact⟨L,s0.drop (k0+1),(s0.take k0).map b2,0,128,72,true,by rw[HTN.out],rfl,rfl,rfl,rfl,by rw[OL.out];exact HOW.out,by rw[HL.out];exact HT3.out,by rw[ah,<-HL.out];omega,hs,by rw[OL.out];have:=HKH.out;omega,by omega,by omega,by omega,by omega,by omega,by omega,Rh,vj.out⟩
  case round =>
   obtain⟨f,t,l,p,n,bi,fi,rfl,rfl,rfl,rfl,rfl,hown,lK,GH,hf1,hll,hp0,hp1,hn0,hn1,hb0,hb1,hwz,hbel⟩:=hrel;have HO:=h_ hown;clear hown;have HB:=h_ hbel;clear hbel;by_cases ht:t.length=0
   ·rw[jf f ht]at lK
    have hemp:(bs t).toList.isEmpty=true:=by rw[ay,ak ht];rfl
    have HT3:=h_ lK;clear lK;clear ht GH
    go_wp2
    go_ret2
    exact qB.some HT3.out rfl HO.out hwz HB.out
   cases f with
   |zero=>omega
   |succ g =>
    rw[li g ht]at lK
    have hemp:(bs t).toList.isEmpty=false:=by
     rw[ay];cases t with
     |nil=>simp at ht
     |cons y r=>rfl
    have hrr:=xo t bi;have hra:=fun W=>Ev (bs t) bi W (by rw[aM];omega) (by omega);rw[dR]at hra;have hdr:=vN t (rd t bi).2.toNat;obtain⟨d,hd'⟩:∃ d,d=(rd t bi).1:=⟨_,rfl⟩;obtain⟨k,hk'⟩:∃ k,k=(rd t bi).2:=⟨_,rfl⟩;rw[<-hd',<-hk']at lK hrr hra;rw[<-hk']at hdr;clear hd' hk';have htl:(bs t).size=t.length:=aM t;obtain⟨tl,GI⟩:∃ tl,tl=t.length:=⟨_,rfl⟩;rw[<-GI]at htl GH hrr;have Ap:=h_ GI;clear GI ht;have dH:=h_ hra;clear hra;by_cases hk0:k=0
    ·rw[if_pos hk0]at lK
     have HT3:=h_ lK;clear lK hdr;subst hk0
     go_wp2_with (first
      |(go_at_call 232;refine(dH.out _).mono ?_;rintro e w2 ⟨rfl,rfl⟩)
      |fail)
     go_ret2
     exact qB.none HT3.out hwz HB.out
    rw[if_neg hk0]at lK;have hex:(bs t).extract k.toNat (bs t).size=bs (t.drop k.toNat):=hdr;clear hdr;obtain⟨m,hm⟩:∃ m:Nat,m=l.length:=⟨_,rfl⟩;rw[<-hm]at lK hll;have hlen:l.length=m:=hm.symm;have HM:=h_ hm;clear hm;have hq1:Int.tdiv (p+d) (m+1)=(p+d)/(m+1):=kp (by omega);have hq2:Int.tmod (p+d) (m+1)=(p+d)%(m+1):=eE (by omega);have hq3:0<=(p+d)/(m+1)∧(p+d)/(m+1)<=p+d:=⟨du (by omega) (by omega),nP _ (by omega)⟩;have hq4:0<=(p+d)%(m+1)∧(p+d)%(m+1)<m+1:=⟨pq _ (by omega),lD _ (by omega)⟩;obtain⟨dv,hdv⟩:=az ((p+d)/((m:Int)+1));obtain⟨qn,hqn⟩:∃ qn:Nat,(p+d)%((m:Int)+1)=(qn:Int):=⟨((p+d)%((m:Int)+1)).toNat,(Int.toNat_of_nonneg hq4.1).symm⟩;rw[<-hdv]at hq1 hq3 lK;rw[hqn]at hq2 hq4 lK;rw[eF]at lK;clear hdv hqn;obtain⟨al,cl,hv⟩:=dN (Sl.dM HO.out);rw[show(ed l).length=m by rw[am,hlen]]at hv;subst hv;have qL:(bs t).extract k.toNat tl=bs (t.drop k.toNat):=by rw[<-htl];exact hex
    have hsa:=fun W=>qS (n+dv) W
    have hcs:m=255∨(m<255∧sg (n+dv)=false)∨(m<255∧sg (n+dv)=true):=by
     by_cases h5:m=255
     ·exact .inl h5
     cases hq:sg (n+dv)
     ·exact .inr (.inl ⟨by omega,rfl⟩)
     exact .inr (.inr ⟨by omega,rfl⟩)
    rcases hcs with hc|⟨hc,hsg⟩|⟨hc,hsg⟩
    ·rw[if_pos (.inl hc)]at lK
     have HT3:=h_ lK;clear lK hsa;subst hc
     go_wp2_with (first
      |(go_at_call 232;refine(dH.out _).mono ?_;rintro e w2 ⟨rfl,rfl⟩)
      |fail)
     go_ret2
     exact qB.none HT3.out hwz HB.out
    ·rw[if_pos (.inr (by rw[hsg];simp))]at lK
     rw[hsg]at hsa;have Og:=h_ hsa;clear hsa hsg;have HT3:=h_ lK;clear lK
     go_wp2_with (first
      |(go_at_call 232;refine(dH.out _).mono ?_;rintro e w2 ⟨rfl,rfl⟩)
      |(go_at_call 233;refine(Og.out _).mono ?_;rintro e w2 ⟨rfl,rfl⟩)
      |fail)
     go_ret2
     exact qB.none HT3.out hwz HB.out
    rw[if_neg (by rw[hsg];simp;omega)]at lK;have hsr:=(pe.mp hsg);rw[hsg]at hsa;have Og:=h_ hsa;clear hsa hsg;have HT3:=h_ lK;clear lK;have hil:=Bg l (n+dv) qn (by omega);have hin:=wL l (n+dv) qn _ w.heap.size wr HO.out hwz (by omega) (by omega);have XT:=h_ hin;clear hin;have HSR:=h_ hsr.2.1;clear hsr;rw[hlen]at hil;obtain⟨l2,hl2⟩:=az (l.take qn++(n+dv)::l.drop qn);rw[<-hl2]at hil XT HT3;clear hl2;have UL:=h_ hil;clear hil
    go_wp2_with (first
     |(go_at_call 232;refine(dH.out _).mono ?_;rintro e w2 ⟨rfl,rfl⟩)
     |(go_at_call 233;refine(Og.out _).mono ?_;rintro e w2 ⟨rfl,rfl⟩)
     |(go_at_call 234;refine(XT.out).mono ?_;rintro e w3 ⟨v3,rfl,ho3,hz3,hb3⟩;have kq:=h_ ho3;have HZ3:=h_ hz3;clear hz3;have HB3:=h_ hb3;clear hb3;obtain⟨al3,cl3,hv3⟩:=dN (Sl.dM ho3);rw[show(ed l2).length=m+1 by rw[am];exact UL.out]at hv3;subst hv3;clear ho3)
     |(go_at_call 235;refine(nA d (m+1) fi _ (by omega) (by omega)).mono ?_;rintro e w4 ⟨rfl,rfl⟩)
     |fail)
    have hnb:=xe (d:=d) (n:=(m:Int)+1) fi hrr.1 (by omega);have UP:=h_ hnb;clear hnb;go_roundw
    case rel =>
     refine⟨g,t.drop k.toNat,l2,qn+1,n+dv,nb d (m+1) fi,false,rfl,rfl,rfl,rfl,rfl,by rw[UL.out];have:=kq.out;rw[UL.out]at this;exact this,HT3.out,?_,by omega,by rw[UL.out];omega,by omega,by omega,by omega,HSR.out,UP.out.1,UP.out.2,by have:=HZ3.out;omega,HB.out.trans HB3.out⟩;rw[ah,<-Ap.out];omega
    case measure =>
     have e:=Ap.out;show(bs (t.drop k.toNat)).size<(bs t).size;rw[aM,aM,ah];omega
end Go.Proofs.YtmndlfglgcioeaaGreatDoor

namespace Go.Proofs.YtmndlfglgcioeaaGreatDoor
open Tryz
section
open Go.RowKit
set_option maxRecDepth 10000
theorem XH{d:Int}(h:0<=d∧d<36):wrt (On d)=d:=by
  unfold wrt On;by_cases h1:d<26
  · rw[if_pos h1,if_pos (by omega)];omega
  rw[if_neg h1,if_neg (by omega),if_neg (by omega),if_pos (by omega)];omega
theorem TR{d:Int}(h:0<=d∧d<36):wrt (b2 (db d))=d:=by rw[Jn h,XH h]
theorem zF:∀ (f j:Nat) (d sum wt bias:Int) (rest:Bytes),0<=d->d<2 ^ f->1<=wt->sum+d*wt<=2147483647 ->
    og (nY f j d bias++rest) j sum wt bias=(sum+d*wt,(j:Int)+(nY f j d bias).length)
  |f,j,d,sum,wt,bias,rest,h0,hf,hw,hs=>by
    have hb:=jd j bias;by_cases hlt:d<bnd j bias
    · have hd:0<=d∧d<36:=by omega
      rw[mG f j hlt];show og (db d::rest) j sum wt bias=_;unfold og;simp only[TR hd];rw[if_neg (by omega),if_neg (by omega),if_pos hlt];rfl
    obtain⟨g,rfl,hmo,hq⟩:=mH hlt hf h0;rw[hmo];generalize hB:bnd j bias=b at *;have hr:0<=(d-b)%(36-b)∧(d-b)%(36-b)<36-b:=⟨pq _ (by omega),lD _ (by omega)⟩;have hq0:0<=(d-b)/(36-b):=du (by omega) (by omega);have hc:0<=b+(d-b)%(36-b)∧b+(d-b)%(36-b)<36:=by omega
    have QV:(36-b)*((d-b)/(36-b))+(d-b)%(36-b)=d-b:=Int.mul_ediv_add_emod _ _
    have hdw:d*wt=(b+(d-b)%(36-b))*wt+(d-b)/(36-b)*(wt*(36-b)):=by
      have:d=(b+(d-b)%(36-b))+(36-b)*((d-b)/(36-b)):=by omega
      conv=>lhs;rw[this]
      rw[b4l,qi (36-b) ((d-b)/(36-b)),Int.mul_assoc,qi (36-b) wt]
    have hpos:0<=(d-b)/(36-b)*(wt*(36-b)):=eD hq0 (eD (by omega) (by omega))
    have hwt:1<=wt*(36-b):=by
      have:=Hd (c:=36-b) (wt:=wt) (by omega) hw;rw[qi]at this;omega
    show og (db (b+(d-b)%(36-b))::(nY g (j+1) ((d-b)/(36-b)) bias++rest)) j sum wt bias=_;unfold og;simp only[TR hc,hB];rw[if_neg (by omega),if_neg (by omega),if_neg (by omega),zF g (j+1) _ _ _ bias rest hq0 hq hwt (by omega)];simp only[ag];refine Prod.ext ?_ ?_
    · show _+_=_;omega
    show((j+1:Nat):Int)+_=_;omega
theorem W3{d bias:Int}(rest:Bytes)(h0:0<=d)(h1:d<=2147483647):rd (nZ d bias++rest) bias=(d,((nZ d bias).length:Int)):=by
  have:=zF 40 0 d 0 1 bias rest h0 (by omega) (by omega) (by omega);unfold rd nZ;rw[this];refine Prod.ext ?_ ?_
  · show 0+d*1=d;omega
  show((0:Nat):Int)+_=_;omega
end
section
open Go.RowKit
set_option maxRecDepth 10000
def Hk(l:List Int)(n:Int)(k:Nat):List Int:=(l.take k).filter (fun c=>decide (c<=n))++(l.drop k).filter (fun c=>decide (c<n))
def pk(l:List Int)(n:Int)(k:Nat):Nat:=((l.take k).filter (fun c=>decide (c<=n))).length
theorem WU{l:List Int}{k:Nat}(h:k<l.length)(n:Int):pk l n (k+1)=pk l n k+if l[k]<=n then 1 else 0:=by
  unfold pk;rw[aI h,fX,ae];by_cases h2:l[k]<=n
  · rw[if_pos h2,bk (by simpa using h2)];rfl
  rw[if_neg h2,bj (by simpa using h2)];rfl
theorem uM{l:List Int}{k:Nat}(h:k<l.length){n:Int}(hn:l[k]≠n):Hk l n (k+1)=Hk l n k:=by
  unfold Hk;rw[aI h,aq h,fX,aT]
  congr 1
  by_cases h2:l[k]<n
  · rw[bk (by simp;omega),bk (by simpa using h2)];rfl
  rw[bj (by simp;omega),bj (by simpa using h2)];rfl
theorem Zw{l:List Int}{k:Nat}(h:k<l.length){n:Int}(hn:l[k]=n):Hk l n (k+1)=(Hk l n k).take (pk l n k)++n::(Hk l n k).drop (pk l n k):=by
  have e:Hk l n k=(l.take k).filter (fun c=>decide (c<=n))++(l.drop (k+1)).filter (fun c=>decide (c<n)):=by
    unfold Hk;rw[aq h,bj (by simp;omega)]
  rw[e];unfold pk;rw[jo,yt]
  · unfold Hk
    rw[aI h,fX,bk (by simp;omega),hn,aT];rfl
  · rfl
  rfl
theorem Zv(l:List Int)(n:Int):Hk l n l.length=Hk l (n+1) 0:=by
  unfold Hk;rw[dx,dJ,fZ,cU];simp only[px,aG,bJ];refine List.filter_congr fun c _=>?_;simp only[decide_eq_decide];omega
theorem U9{l:List Int}{n m:Int}(hm:n<=m)(h:∀ c∈l,n<=c->m<=c):Hk l m 0=Hk l n 0:=by
  unfold Hk;rw[fZ,cU]
  congr 1
  refine List.filter_congr fun c hc=>?_;have:=h c hc;simp only[decide_eq_decide];omega
theorem a5I(l:List Int)(n:Int)(k:Nat):pk l n k<=(Hk l n k).length:=by unfold pk Hk;rw[ae];omega
theorem a1k(l:List Int)(n:Int):pk l n l.length=(Hk l n l.length).length:=by
  unfold pk Hk;rw[dx,dJ];simp
theorem Zu{l:List Int}{n:Int}(h:(Hk l n 0).length=l.length):Hk l n 0=l:=by
  unfold Hk at *;rw[fZ,cU]at *;simp only[px,bJ]at *;exact Fp.mpr (Ok.mp h)
end
section
open Go.RowKit
set_option maxRecDepth 10000
def uy(y:UInt8):Prop:=(97<=b2 y∧b2 y<=122)∨(48<=b2 y∧b2 y<=57)
theorem Yk{d:Int}(h:0<=d∧d<36):uy (db d):=by
  unfold uy;rw[Jn h];unfold On
  split <;>omega
theorem Jx:∀ (f j:Nat) (d bias:Int),0<=d->d<2 ^ f->∀ y∈nY f j d bias,uy y
  |f,j,d,bias,h0,hf=>by
    have hb:=jd j bias;by_cases hlt:d<bnd j bias
    · rw[mG f j hlt]
      intro y hy;simp at hy;subst hy;exact Yk (by omega)
    obtain⟨g,rfl,hmo,hq⟩:=mH hlt hf h0;rw[hmo];have hr:0<=(d-bnd j bias)%(36-bnd j bias)∧(d-bnd j bias)%(36-bnd j bias)<36-bnd j bias:=⟨pq _ (by omega),lD _ (by omega)⟩;intro y hy;rcases aj.mp hy with rfl|hy
    · exact Yk (by omega)
    exact Jx g (j+1) _ bias (du (by omega) (by omega)) hq y hy
theorem VG{d:Int}(bias:Int)(h0:0<=d)(h1:d<1099511627776):∀ y∈nZ d bias,uy y:=Jx 40 0 d bias h0 (by omega)
def Ou:Nat->Int
  |0=>26
  |k+1=>26+10*Ou k
theorem Iv:∀ k,26<=Ou k
  |0=>by unfold Ou;omega
  |k+1=>by have:=Iv k;unfold Ou;omega
theorem E0{t d T:Int}(ht:1<=t∧t<=26)(hT:26<=T)(hd:d<26+10*T):(d-t)/(36-t)<T:=by
  refine Int.ediv_lt_of_lt_mul (by omega) ?_;have h1:T*(36-t)=36*T-t*T:=by rw[b4m,qi T 36,qi T t]
  have h2:0<=(26-t)*(T-1):=eD (by omega) (by omega);have h3:(26-t)*(T-1)=26*T-26-(t*T-t):=by rw[Int.sub_mul,b4m,b4m];omega
  omega
theorem Jw:∀ (k f j:Nat) (d bias:Int),0<=d->d<2 ^ f->d<Ou k->26<=36*((j:Int)+1)-bias->(nY f j d bias).length<=k+1
  |k,f,j,d,bias,h0,hf,hk,hj=>by
    have hb:=jd j bias;have hbe:bnd j bias=26:=by unfold bnd;omega
    by_cases hlt:d<bnd j bias
    · rw[mG f j hlt];simp
    obtain⟨g,rfl,hmo,hq⟩:=mH hlt hf h0;rw[hmo,ag];cases k with
    |zero=>unfold Ou at hk;omega
    |succ k =>
      have hk2:d<26+10*Ou k:=hk;have:=Jw k g (j+1) _ bias (du (by omega) (by omega)) hq (E0 hb (Iv k) hk2) (by omega);omega
def thA:Nat->Int
  |0=>1
  |k+1=>min (1+35*thA k) (Ou (k+1))
theorem Dn:∀ (k f j:Nat) (d bias:Int),0<=d->d<2 ^ f->d<thA k->(nY f j d bias).length<=k+1
  |k,f,j,d,bias,h0,hf,hk=>by
    have hb:=jd j bias;by_cases hlt:d<bnd j bias
    · rw[mG f j hlt];simp
    obtain⟨g,rfl,hmo,hq⟩:=mH hlt hf h0;rw[hmo,ag];cases k with
    |zero=>unfold thA at hk;omega
    |succ k =>
      have hk1:d<min (1+35*thA k) (Ou (k+1)):=hk
      have hk2:d<26+10*Ou k:=by have:Ou (k+1)=26+10*Ou k:=rfl
                                omega
      have hn:0<=(d-bnd j bias)/(36-bnd j bias):=du (by omega) (by omega);by_cases hc:36*((j:Int)+1)-bias<=1
      · have hbe:bnd j bias=1:=by unfold bnd;omega
        have:=Dn k g (j+1) ((d-bnd j bias)/(36-bnd j bias)) bias hn hq (by rw[hbe];omega);omega
      have:=Jw k g (j+1) _ bias hn hq (E0 hb (Iv k) hk2) (by omega);omega
theorem LN{d:Int}(bias:Int)(h0:0<=d)(h1:d<288888886):(nZ d bias).length<=8:=by
  have h:thA 7=288888886:=by decide +kernel
  exact Dn 7 40 0 d bias h0 (by omega) (by omega)
end
section
open Go.RowKit
set_option maxRecDepth 10000
theorem VE{f:Nat}{d bias p0 n0 n:Int}{first:Bool}{l:List Int}{pos:Nat}(rest:Bytes)(h0:0<=d)(h1:d<=2147483647)(hp:p0+d=(n-n0)*(l.length+1)+pos)(hpos:pos<=l.length)(hl:l.length<255)(hn:sg n=true) :
    kk (f+1) (nZ d bias++rest) l p0 n0 bias first=kk f rest (l.take pos++n::l.drop pos) (pos+1) n (nb d (l.length+1) first) false:=by
  have hd:=(vJ d bias).1;rw[li f (by rw[ae];omega),W3 rest h0 h1]
  have hq:(p0+d)/((l.length:Int)+1)=n-n0:=by
    rw[hp,Int.add_comm,Int.add_mul_ediv_right _ _ (by omega),Int.ediv_eq_zero_of_lt (by omega) (by omega)];omega
  have hr:(p0+d)%((l.length:Int)+1)=pos:=by
    rw[hp,Int.add_comm,Int.add_mul_emod_self_right];exact Int.emod_eq_of_lt (by omega) (by omega)
  simp only[hq,hr,eF];rw[show n0+(n-n0)=n by omega,if_neg (by omega),if_neg (by rw[hn];simp;omega),mn]
theorem vC:∀ (f g:Nat) (s:Bytes) (l:List Int) (p n bias:Int) (first:Bool),s.length<=f->s.length<=g->kk f s l p n bias first=kk g s l p n bias first
  |0,g,s,l,p,n,bias,first,h,_=>by rw[jf 0 (by omega),jf g (by omega)]
  |f+1,0,s,l,p,n,bias,first,_,h=>by rw[jf (f+1) (by omega),jf 0 (by omega)]
  |f+1,g+1,s,l,p,n,bias,first,h,h'=>by
    by_cases h0:s.length=0
    · rw[jf _ h0,jf _ h0]
    rw[li f h0,li g h0];have hr:=xo s bias;by_cases hk:(rd s bias).2=0
    · rw[if_pos hk,if_pos hk]
    rw[if_neg hk,if_neg hk];rw[vC f g _ _ _ _ _ _ (by rw[ah];omega) (by rw[ah];omega)]
def LJ(s:Bytes)(l:List Int)(p n bias:Int)(first:Bool):Option (List Int):=kk s.length s l p n bias first
theorem AF{f:Nat}{s:Bytes}{l:List Int}{p n bias:Int}{first:Bool}(h:s.length<=f):kk f s l p n bias first=LJ s l p n bias first:=vC _ _ _ _ _ _ _ _ h (af _)
theorem P1{d bias p0 n0 n:Int}{first:Bool}{l:List Int}{pos:Nat}(rest:Bytes)(h0:0<=d)(h1:d<=2147483647)(hp:p0+d=(n-n0)*(l.length+1)+pos)(hpos:pos<=l.length)(hl:l.length<255)(hn:sg n=true) :
    LJ (nZ d bias++rest) l p0 n0 bias first=LJ rest (l.take pos++n::l.drop pos) (pos+1) n (nb d (l.length+1) first) false:=by
  have hd:=(vJ d bias).1;rw[<-AF (f:=(nZ d bias++rest).length+1) (by omega),VE rest h0 h1 hp hpos hl hn,AF (by rw[ae];omega)]
end
section
open Go.RowKit
set_option maxRecDepth 10000
theorem OT(l:List Int)(n:Int)(k:Nat):(Hk l n k).length<=l.length:=by
  unfold Hk;have h1:=eZ (fun c=>decide (c<=n)) (l.take k);have h2:=eZ (fun c=>decide (c<n)) (l.drop k);have h3:(l.take k).length+(l.drop k).length=l.length:=by rw[<-List.length_append,cX]
  rw[ae];omega
theorem uY(l:List Int)(n:Int)(hn:sg n=true)(hll:l.length<=255):∀ (q k:Nat) (s:En) (p0 n0:Int),k+q=l.length->0<=n0->n0<=n->0<=p0->s.d=(n-n0)*(s.done+1)+pk l n k-p0->s.done=(Hk l n k).length->0<=s.d ->
    ∃(W:Bytes) (p1 n1:Int),(fb n (l.drop k) s).out=s.out++W ∧
      (∀rest,LJ (W++rest) (Hk l n k) p0 n0 s.bias s.first=LJ rest (Hk l n l.length) p1 n1 (fb n (l.drop k) s).bias (fb n (l.drop k) s).first) ∧
      0<=n1∧n1<=n∧0<=p1∧(fb n (l.drop k) s).d=(n-n1)*((fb n (l.drop k) s).done+1)+pk l n l.length-p1∧(fb n (l.drop k) s).done=(Hk l n l.length).length∧0<=(fb n (l.drop k) s).d∧(∀y∈W,uy y)∧(W.length:Int)<=8*((fb n (l.drop k) s).done-s.done)
  |0,k,s,p0,n0,hk,hn0,hnn,hp0,hd,hdn,h0=>by
    obtain rfl:k=l.length:=by omega
    rw[dJ];exact⟨[],p0,n0,by show s.out=_;simp,fun rest=>rfl,hn0,hnn,hp0,hd,hdn,h0,by simp,by show(0:Int)<=8*(s.done-s.done);omega⟩
  |q+1,k,s,p0,n0,hk,hn0,hnn,hp0,hd,hdn,h0=>by
    have hx:k<l.length:=by omega
    have hps:=WU hx n;have hpl:=a5I l n k;have hnr:=pe.mp hn;rw[Ic hx];obtain⟨o,d,dn,bi,fi⟩:=s;simp only at hd hdn h0 ⊢;have hcs:l[k]<n∨l[k]=n∨n<l[k]:=by omega
    rcases hcs with hc|hc|hc
    · rw[EB hc]
      rw[if_pos (by omega)]at hps;obtain⟨W,p1,n1,h1,h2,h3,h4,h5,h6,h7,h8,h9,h10⟩:=uY l n hn hll q (k+1) ⟨o,d+1,dn,bi,fi⟩ p0 n0 (by omega) hn0 hnn hp0 (by simp only;omega) (by simp only;rw[uM hx (by omega)];exact hdn) (by simp only;omega);refine⟨W,p1,n1,h1,fun rest=>?_,h3,h4,h5,h6,h7,h8,h9,h10⟩;rw[<-h2 rest,uM hx (by omega)]
    · rw[row_one hc]
      rw[if_pos (by omega)]at hps;have hins:=Zw hx hc;have hlen:(Hk l n (k+1)).length=(Hk l n k).length+1:=by rw[hins,ae,aE,ag,ah];omega
      have hle:=OT l n (k+1);have hmul:=Km (a:=n-n0) (b:=dn+1) (by omega) (by omega);obtain⟨W,p1,n1,h1,h2,h3,h4,h5,h6,h7,h8,h9,h10⟩:=uY l n hn hll q (k+1) ⟨o++nZ d bi,0,dn+1,nb d (dn+1) fi,false⟩ (pk l n k+1) n (by omega) (by omega) (lG _) (by omega) (by simp only;rw[Int.sub_self,Int.zero_mul];omega) (by simp only;omega) (lG _);refine⟨nZ d bi++W,p1,n1,by rw[h1];simp only;rw[aT],fun rest=>?_,h3,h4,h5,h6,h7,h8,fun y hy=>(au.mp hy).elim (VG bi h0 (by omega) y) (h9 y),by have:=LN bi h0 (by omega);rw[ae];simp only at h10;omega⟩;rw[<-h2 rest,aT,P1 (pos:=pk l n k) (n:=n) (W++rest) h0 (by omega) (by rw[<-hdn];omega) hpl (by omega) hn,hins,<-hdn]
    rw[EC hc];rw[if_neg (by omega)]at hps;obtain⟨W,p1,n1,h1,h2,h3,h4,h5,h6,h7,h8,h9,h10⟩:=uY l n hn hll q (k+1) ⟨o,d,dn,bi,fi⟩ p0 n0 (by omega) hn0 hnn hp0 (by simp only;omega) (by simp only;rw[uM hx (by omega)];exact hdn) (by simp only;omega);refine⟨W,p1,n1,h1,fun rest=>?_,h3,h4,h5,h6,h7,h8,h9,h10⟩;rw[<-h2 rest,uM hx (by omega)]
end
section
open Go.RowKit
set_option maxRecDepth 10000
theorem sy(l:List Int)(n:Int):(Hk l n 0).length=cnt l n:=by unfold Hk cnt;rw[fZ,cU];rfl
theorem AI(l:List Int)(hall:∀ c∈l,sg c=true)(hll:l.length<=255):∀ (f:Nat) (sign:Int) (s:En) (p0 n0:Int),0<=n0->n0<=sign->0<=p0->s.d=(sign-n0)*(s.done+1)-p0->s.done=(Hk l sign 0).length->0<=s.d->(l.length:Int)-s.done<=f ->
    ∃W:Bytes,qp f l sign s=s.out++W∧LJ W (Hk l sign 0) p0 n0 s.bias s.first=some l∧(∀y∈W,uy y)∧(W.length:Int)<=8*(l.length-s.done)
  |f,sign,s,p0,n0,hn0,hns,hp0,hd,hdn,h0,hf=>by
    by_cases hlt:s.done<l.length
    · cases f with
      |zero=>omega
      |succ g =>
        obtain⟨o,d,dn,bi,fi⟩:=s;simp only at hd hdn h0 hf hlt ⊢;have hex:=cnt_lt (l:=l) (sign:=sign) (by rw[<-sy];omega);obtain⟨hm1,hm2,Wa⟩:=zo (by omega) hex;rw[vP g hlt];generalize ri l sign (-1)=m at *;have hnx:=U9 hm2 Wa;have a9H:pk l m 0=0:=by unfold pk;rw[fZ];rfl
        have hmul:(m-n0)*(dn+1)=(m-sign)*(dn+1)+(sign-n0)*(dn+1):=by rw[<-Int.add_mul];congr 1;omega
        have hpos:0<=(m-sign)*(dn+1):=eD (by omega) (by omega);obtain⟨W,p1,n1,h1,h2,h3,h4,h5,h6,h7,h8,h9,h10⟩:=uY l m (hall m hm1) hll l.length 0 ⟨o,d+(m-sign)*(dn+1),dn,bi,fi⟩ p0 n0 (by omega) hn0 (by omega) hp0 (by simp only;rw[a9H,hmul];omega) (by simp only;rw[hnx];exact hdn) (by simp only;omega);rw[cU]at h1 h2 h6 h7 h8 h10;generalize fb m l ⟨o,d+(m-sign)*(dn+1),dn,bi,fi⟩=t at *;have he:=Zv l m;have hpe:=a1k l m;rw[he]at h2 h7 hpe;have hgrow:(Hk l (m+1) 0).length=cnt l m+eqs l m:=by rw[sy,vv]
        have heq:=JE hm1;have hold:dn=cnt l m:=by rw[hdn,<-hnx,sy]
        have a4J:(m+1-n1)*(t.done+1)=(m-n1)*(t.done+1)+(t.done+1):=by
          rw[show m+1-n1=(m-n1)+1 by omega,b4l,Int.one_mul]
        obtain⟨W2,e1,e2,e3,e4⟩:=AI l hall hll g (m+1) ⟨t.out,t.d+1,t.done,t.bias,t.first⟩ p1 n1 h3 (by omega) h5 (by simp only;rw[a4J];omega) (by simp only;exact h7) (by simp only;omega) (by simp only;omega);refine⟨W++W2,?_,?_,fun y hy=>(au.mp hy).elim (h9 y) (e3 y),by rw[ae];simp only at h10 e4;omega⟩
        · rw[e1,h1,aT]
        rw[<-hnx,h2 W2];exact e2
    rw[vO f hlt];have hle:=OT l sign 0;refine⟨[],by simp,?_,by simp,by simp only[aN];have h2:=OT l sign 0;omega⟩;rw[Zu (by omega)];rfl
end
section
open Go.RowKit
set_option maxRecDepth 10000
theorem byte_at(s:Bytes)(j:Nat)(h:j<s.length):(((bs s).data[j]!).toNat:Int)=b2 s[j]:=by
  unfold b2 bs;simp[h]
theorem Mt{s:Bytes}(h:∀ y∈s,uy y):sP s=-1:=by
  unfold sP Lib.lastIndexByte;rcases Lib.lastIdx_spec (bs s) 45 (bs s).size with⟨h1,_⟩|⟨i,h1,_,h3,_⟩
  · exact h1
  rw[aM]at h1;rw[byte_at s i h1]at h3;have:=h s[i] (bw h1);unfold uy at this;omega
theorem Mu{B W:Bytes}(h:∀ y∈W,uy y):sP (B++45::W)=B.length:=by
  unfold sP Lib.lastIndexByte;have hl:(B++45::W).length=B.length+1+W.length:=by rw[ae,ag];omega
  have h45:(((bs (B++45::W)).data[B.length]!).toNat:Int)=45:=by
    rw[byte_at _ _ (by omega)];simp[b2]
  rcases Lib.lastIdx_spec (bs (B++45::W)) 45 (bs (B++45::W)).size with⟨_,h2⟩|⟨i,h1,h2,h3,h4⟩
  · exact absurd h45 (h2 B.length (by rw[aM];omega))
  rw[h2];rw[aM]at h1 h4;have hcs:i<B.length∨i=B.length∨B.length<i:=by omega
  rcases hcs with hc|hc|hc
  · exact absurd h45 (h4 B.length hc (by omega))
  · rw[hc]
  exfalso;rw[byte_at _ i h1]at h3;obtain⟨q,rfl⟩:∃ q,i=B.length+1+q:=⟨i-B.length-1,by omega⟩;have hq:q<W.length:=by omega
  have e:(B++45::W)[B.length+1+q]=W[q]:=by
    rw[a3k (by omega)];simp[show B.length+1+q-B.length=q+1 by omega]
  rw[e]at h3;have:=h W[q] (bw hq);unfold uy at this;omega
end
section
open Go.RowKit
set_option maxRecDepth 10000
theorem Vr{l:List Int}(hall:∀ c∈l,sg c=true):(jt l).map b2=Hk l 128 0:=by
  unfold jt Hk;rw[fZ,cU,gP];simp only[px,bJ]
  conv=>rhs;rw[<-List.map_id (l.filter fun c=>decide (c<128))]
  refine eN fun c hc=>?_;have h1:=yu.mp hc;have h2:=(pe.mp (hall c h1.1)).1;have h3:=of_decide_eq_true h1.2;exact ry (by omega)
theorem np{l:List Int}(hall:∀ c∈l,sg c=true)(hll:l.length<=255):∃ W:Bytes,qI l=jt l++hyp (jt l)++W∧(∀y∈W,uy y)∧(W.length:Int)<=8*(l.length-(jt l).length)∧(W.length=0->(jt l).length=l.length):=by
  have hbl:=uV l;have hbe:=sG l;obtain⟨W,e1,e2,e3,e4⟩:=AI l hall hll l.length 128 ⟨jt l++hyp (jt l),0,(jt l).length,72,true⟩ 0 128 (by omega) (by omega) (by omega) (by simp) (by simp only;rw[sy,hbl]) (by simp) (by simp only;omega);refine⟨W,e1,e3,e4,fun h0=>?_⟩;obtain rfl:W=[]:=ak h0;have h2:some (Hk l 128 0)=some l:=e2;rw[<-congrArg List.length (bp h2),sy,hbl]
theorem Qk{l:List Int}(hall:∀ c∈l,sg c=true)(hll:l.length<=255):(qI l).length<=3000:=by
  obtain⟨W,e,_,h,_⟩:=np hall hll;have hbe:=sG l;have hh:(hyp (jt l)).length<=1:=by unfold hyp;split <;>simp
  rw[e,ae,ae];omega
theorem Gf{l:List Int}(hall:∀ c∈l,sg c=true)(hll:l.length<=255):vB (qI l)=some l:=by
  have hm:=Vr hall;have hbl:=uV l;have hbe:=sG l;obtain⟨W,e1,e2,e3,_⟩:=AI l hall hll l.length 128 ⟨jt l++hyp (jt l),0,(jt l).length,72,true⟩ 0 128 (by omega) (by omega) (by omega) (by simp) (by simp only;rw[sy,hbl]) (by simp) (by simp only;omega);have he:qI l=jt l++hyp (jt l)++W:=e1;rw[he];simp only at e2;rw[<-hm]at e2;by_cases h0:(jt l).length=0
  · have hb:jt l=[]:=ak h0
    rw[hb]at e2 ⊢;have hs:([]:Bytes)++hyp []++W=W:=rfl;rw[hs];unfold vB;rw[Mt e3,if_neg (by omega)];exact e2
  have hs:jt l++hyp (jt l)++W=jt l++45::W:=by unfold hyp;rw[if_neg h0,aT];rfl
  rw[hs];unfold vB;rw[Mu e3,if_pos (by omega),if_neg (by omega),eF,List.take_left,if_pos,AF]
  · rw[show(jt l++45::W).drop ((jt l).length+1)=W by rw[<-List.drop_drop,mn];rfl]
    exact e2
  · rw[ah];omega
  refine bo.mpr fun y hy=>decide_eq_true ?_;have h1:b2 y∈(jt l).map b2:=List.mem_map_of_mem hy;rw[hm]at h1;unfold Hk at h1;rw[fZ,cU]at h1;simp at h1;exact h1.2
end
end Go.Proofs.YtmndlfglgcioeaaGreatDoor
