import Derived.Lib.LazyBuf
import Derived.Test.YtagfilhbpnjhkaaGreatDoorFGTextA
import Derived.Test.YtagfilhbpnjhkaaGreatDoorShel
set_option maxRecDepth 10000
set_option maxHeartbeats 0
namespace Go.Proofs.Q
open Tryz Go.RowKit
variable{first:Bool}{w':H}{n0 p0:Int}{cap:Nat}
def a2U(w:H)(base:Nat)(l:List Int):Ending->H->Prop:=λen w' =>
 ∃v',en=.returned v'/\w'.ownsRow base 3 1 v' l.length (d8 l)/\w.heap.size<=w'.heap.size/\Below base w w'
theorem mN{w:H}{b t n base:Nat}{f:Nat->Z}{xs:List Z}(h:w.rowIs b t cap f)(U:base<=b)(g:n<=cap)(hm:cap<=maxLen)(X:xs.length=n)(e:∀j,j<n->some (f j)=xs[j]?) :
  w.ownsRow base t 1 (.slice (some ⟨b,0,none⟩) n cap) n xs:=by
 obtain⟨c,d,hs,a⟩:=h;refine⟨M0,.inr ⟨b,cap,c,rfl,U,d,g,hm,M0,?_⟩⟩
 apply List.ext_getElem?
 intro j;rw[kO]
 split
 ·rw[iL,a j M0,e j M0]
 rw[eC M0]
theorem Mf{w:H}{base t n:Nat}{g:Nat}{xs:List Z}(h:w.ownsRow base t 1 (.slice (some ⟨g,0,none⟩) n cap) n xs) :
  ∃f,w.rowIs g t cap f/\base<=g/\n<=cap/\cap<=maxLen/\∀j,j<n->some (f j)=xs[j]?:=by
 obtain⟨hl,h⟩:=h;rcases h with⟨e,_⟩|⟨g',cap',cur,e,U,d,l,hm,hs,m⟩
 ·simp at e
 injection e with a e2 c
 injection a with a
 injection a with a
 subst a;subst c;refine⟨λj=>cur[j]?.getD undef,⟨cur,d,M0,λj k=>?_⟩,U,l,hm,λj k=>?_⟩
 ·have e:=cK (xs:=cur) (i:=j) (by omega)
  simp[e]
 have e:=cK (xs:=cur) (i:=j) M0;rw[<-m,kO,ge M0,iL];simp[e]
theorem a0h{α:Type}(l:List α)(x:α)(i j:Nat)(hi:i<=l.length):(l.take i++x::l.drop i)[j]?= if j<i then l[j]? else if j=i then some x else l[j-1]?:=by
 by_cases h:j<i
 ·rw[ge h,cX (by rw[aD];omega),kO,ge h]
 rw[gc h,dB (by rw[aD];omega),aD,xB hi];by_cases I:j=i
 ·subst I;simp
 rw[gc I];obtain⟨k,rfl⟩:∃k,j=i+1+k:=⟨j-i-1,M0⟩;rw[show i+1+k-i=k+1 by omega,dx,fz]
 congr 1
 omega
theorem Ri(w:H)(base e:Nat)(xs:List Z)(n a:Nat)(d:n=xs.length)(c:n<=a)(hm:a<=maxLen)(U:base<=w.heap.size) :
  (w.alloc (.cells (xs.toArray++Builtin.zeroCells (Value.int .i64 0).cells (a-n)) e)).ownsRow base e 1 (.slice (some ⟨w.heap.size,0,none⟩) n a) n xs:=by
 refine⟨M0,.inr ⟨w.heap.size,a,_,rfl,U,jp w _,c,hm,?_,?_⟩⟩
 ·rw[MS,size_zeroCells]
  simp[Value.cells];omega
 rw[pi,List.take_append_of_le_length (by simp;omega)];simp[d]
theorem Me(w:H)(c:Array Z)(t n:Nat)(d:c.size=n):∃f,(w.alloc (.cells c t)).rowIs w.heap.size t n f/\∀j,j<n->some (f j)=c[j]?:=by
 subst d;have h:∀j,j<c.size->some (c[j]?.getD undef)=c[j]?:=λj a=>by simp[Array.getElem?_eq_getElem a]
 exact⟨λj=>c[j]?.getD undef,World.rowIs_alloc w c t _ (λj a=>(h j a).symm),h⟩
theorem NM(a:List Z)(k m n:Nat)(h:a.length+k+m=n):(a.toArray++Builtin.zeroCells (Value.int .i64 0).cells k++Builtin.zeroCells (Value.int .i64 0).cells m).size=n:=by
 rw[MS,MS,size_zeroCells,size_zeroCells];simp[Value.cells];exact h
theorem Y5{cs:List Z}{i j:Nat}(B C:Array Z)(h:j<i)(hi:i<=cs.length):((List.take i cs).toArray++B++C)[j]?= cs[j]?:=by
 rw[<-Array.getElem?_toList,pi,pi,cX (by simp;omega),cX (by simp;omega)];simp[h]
theorem XS(cs:List Z)(u:Z)(i j:Nat)(f:Nat->Z)(hi:i<=cs.length)(hj:j<cs.length+1)(a:j<i->some (f j)=cs[j]?) :
  some (if i+1<=j/\j<i+1+(List.drop i cs).length then(List.drop i cs)[j-(i+1)]?.getD default else if i<=j/\j<i+[u].length then [u][j-i]?.getD default else f j) =
   if j<i then cs[j]? else if j=i then some u else cs[j-1]?:=by
 by_cases Y:j<i
 ·rw[gc M0,gc M0,ge Y,a Y]
 by_cases I:j=i
 ·subst I
  rw[gc M0,ge Oc,gc M0,ge rfl];simp
 rw[ge (by rw[aj];omega),gc Y,gc I,fz,show i+(j-(i+1))=j-1 by omega,aG M0];rfl
theorem a4V(cs:List Z)(u:Z)(i j:Nat)(f:Nat->Z)(hi:i<=cs.length)(c:j<cs.length+1)(a:j<i->some (f j)=cs[j]?) :
  some (if i<=j/\j<i+[u].length then [u][j-i]?.getD default else if i+1<=j/\j<i+1+(List.drop i cs).length then(List.drop i cs)[j-(i+1)]?.getD default else f j) =
   if j<i then cs[j]? else if j=i then some u else cs[j-1]?:=by
 rw[<-XS cs u i j f hi c a];by_cases Y:i+1<=j/\j<i+1+(List.drop i cs).length
 ·rw[gc (by simp;omega),ge Y,ge Y]
 rw[gc Y,gc Y]
theorem Ap{α:Type}(l:List α)(x:α)(i:Nat)(hi:i<=l.length):(l.take i++x::l.drop i).length=l.length+1:=by
 rw[ae,aD,cz,aj];omega
theorem vK(l:List Int)(x:Int)(i:Nat)(v:Z)(base:Nat)(w:H)(h:w.ownsRow base 3 1 v l.length (d8 l))(U:base<=w.heap.size)(hi:i<=l.length)(hl:l.length<=1000) :
  Calls prog 269 #[v,.int .i64 i,.slice (some ⟨w.heap.size,0,none⟩) 1 1] (w.alloc (.cells #[.int .i64 x] 3)) λe w'=>a2U w base (l.take i++x::l.drop i) e w':=by
 have hlen:=Ap l x i hi;have q:(d8 l).length=l.length:=Oc
 have s:∀j u,[Value.int .i64 x][j]?= some u->(w.alloc (.cells #[.int .i64 x] 3)).cell? ⟨w.heap.size,0+j,none⟩=some u:=by
  intro j u d
  match j,d with
  |0,d=>simp at d;subst d;rw[hx];rfl
 have n:∀u ∈ [Value.int .i64 x],u.oneCell'=true:=by intro u hu;simp at hu;subst hu;rfl
 have J:∀u∈d8 l,u.oneCell'=true:=by intro u hu;simp at hu;obtain⟨_,_,rfl⟩:=hu;rfl
 have p:Below base w (w.alloc (.cells #[.int .i64 x] 3)):=(gT _ _).alloc U _;have N:(w.alloc (.cells #[.int .i64 x] 3)).heap.size=w.heap.size+1:=Oc;have hA:=h.alloc (.cells #[.int .i64 x] 3);have hlt:=h.lt
 have hins:∀j,(d8 (l.take i++x::l.drop i))[j]?= if j<i then(d8 l)[j]? else if j=i then some (.int .i64 x)else(d8 l)[j-1]?:=by
  intro j;rw[eW,a0h l x i j hi]
  split
  ·rw[eW]
  split
  ·rfl
  rw[eW]
 generalize hW:w.alloc (.cells #[.int .i64 x] 3)=W at *
 have hend:∀(E:Option Addr) (c:Nat),l.length<=c->c<l.length+1->i=l.length->(E=none->l.length=0)->(∀a,E=some a->∀j u,(d8 l)[j]?= some u->W.cell? (a.add j)=some u) ->
   Calls prog 269 #[.slice E l.length c,.int .i64 i,.slice (some ⟨w.heap.size,0,none⟩) 1 1] W λe w'=>a2U w base (l.take i++x::l.drop i) e w':=by
  intro Q c Y I h3 h4 h5;subst h3;have y:l.length+1<=grownCap W (l.length+1) c 3:=grownCap_ge _ _ _ _;have z:grownCap W (l.length+1) c 3<=maxLen:=grownCap_le_maxLen _ _ _ _ (by unfold maxLen;omega);have t:=Any2.slices_Insert_int_end_grow laysIns Q l.length c w.heap.size 0 1 1 (d8 l) [.int .i64 x] W M0 Y I M0 q rfl h4 h5 s n;refine(show Calls prog 269 _ W _ from t).e ?_;refine⟨_,rfl,?_,by simp[N];omega,(p.drew).alloc (by simp[N];omega) _⟩;rw[hlen,di,dF,show d8 (l++[x])=d8 l++[Value.int .i64 x] by simp];exact Ri W.drew base 3 (d8 l++[.int .i64 x]) (l.length+1) _ Oc y z (by show base<=W.heap.size;omega)
 rcases h.2 with⟨rfl,h0⟩|⟨g,cap,cur,rfl,k,hg,L,r,hcs,hct⟩
 ·obtain rfl:l=[]:=az h0
  exact hend none 0 (ag _) M0 (by simpa using hi) (λ_=>rfl) Oc
 obtain⟨f,D,_,_,_,K⟩:=Mf hA;have hcell:∀j u,(d8 l)[j]?= some u->W.cell? ((⟨g,0,none⟩:Addr).add j)=some u:=hA.cells rfl;have a4f:=hlt g rfl
 have hcell':∀j u,(d8 l)[j]?= some u->W.cell? ⟨g,0+j,none⟩=some u:=λj u d=>by
  have:=hcell j u d
  rwa [addr_add]at this
 have P:w.heap.size≠g:=M0;by_cases hroom:cap<l.length+1
 ·by_cases C:i=l.length
  ·exact hend (some ⟨g,0,none⟩) cap L hroom C Oc (λa ha=>by simp at ha;subst ha;exact hcell)
  have y:l.length+1<=grownCap W (l.length+1) cap 3:=grownCap_ge _ _ _ _;have z:grownCap W (l.length+1) cap 3<=maxLen:=grownCap_le_maxLen _ _ _ _ (by unfold maxLen;omega);have t:=Any2.slices_Insert_int_grow laysIns g 0 l.length cap i w.heap.size 0 1 1 (d8 l) [.int .i64 x] W M0 M0 L hroom M0 q rfl hcell' s J n;refine(show Calls prog 269 _ W _ from t).e ?_;have hsz:=NM (List.take i (d8 l)) (l.length+1-i) (grownCap W (l.length+1) cap 3-(l.length+1)) (grownCap W (l.length+1) cap 3) (by rw[aD,q];omega);obtain⟨f0,r0,R⟩:=Me W _ 3 _ hsz;have r2:=Go.rowIs_setCells (List.drop i (d8 l)) (i+1) _ _ (Go.rowIs_setCells [.int .i64 x] i _ _ r0.drew).drew;have hfin:=λ(o:Obj)=>Go.below_setCells (B:=base) (b:=W.heap.size) M0 (List.drop i (d8 l)) (i+1) _ ((Go.below_setCells (B:=base) (b:=W.heap.size) M0 [.int .i64 x] i _ ((p.alloc M0 o).drew)).drew);refine⟨_,rfl,?_,?_,?_⟩
  ·rw[hlen]
   refine mN r2 M0 y z ((ay _).trans hlen) (λj d=>?_);rw[hins j];exact XS (d8 l) (.int .i64 x) i j f0 M0 M0 (λh=>(R j M0).trans (Y5 _ _ h M0))
  ·exact(hfin _).size
  exact hfin _
 have hsome:∀j,j<l.length+1->(W.cell? ⟨g,0+j,none⟩).isSome=true:=λj d=>by rw[bM,D.cell M0];rfl
 have XG:∀j,W.frozen? ⟨g,j,none⟩=false:=λj=>D.frozen j;have hr:=Go.rowIs_setCells (List.drop i (d8 l)) (i+1) _ _ D.drew;have hr:=Go.rowIs_setCells [.int .i64 x] i _ _ hr;by_cases C:i=l.length
 ·subst C
  have ZY:∀j,j<1->(W.cell? ⟨g,0+l.length+j,none⟩).isSome=true:=λj d=>by rw[D.cell M0];rfl
  have t:=Any2.slices_Insert_int_end_room laysIns g 0 l.length cap w.heap.size 0 1 1 [.int .i64 x] W M0 M0 (by unfold maxLen at r;omega) rfl (λj d=>ZY j d) (λj _=>XG _) s n;refine(show Calls prog 269 _ W _ from t).e ?_;have hfin:=Go.below_setCells (B:=base) (b:=g) k [.int .i64 x] (0+l.length) _ p;refine⟨_,rfl,?_,hfin.size,hfin⟩;rw[hlen];have hr1:=Go.rowIs_setCells [.int .i64 x] (0+l.length) _ _ D;refine mN hr1 k M0 r ((ay _).trans hlen) (λj d=>?_);rw[hins j];by_cases Y:j<l.length
  ·rw[gc M0,ge Y,K j Y]
  obtain rfl:j=l.length:=M0;rw[ge Oc,gc M0,ge rfl];simp
 have T:W.shape? g=some (3,cap):=by
  obtain⟨c,Y,I,_⟩:=D;unfold World.shape?;rw[Y,<-I]
 have hwW:W.shape? w.heap.size=some (3,1):=by rw[<-hW];unfold World.shape?;rw[jp];rfl
 have M:∀j,W.frozen? ⟨w.heap.size,j,none⟩=false:=λj=>by rw[<-hW];unfold World.frozen?;rw[jp];simp
 have t:=Any2.slices_Insert_int_shift laysIns g 0 l.length cap i w.heap.size 0 1 1 (d8 l) [.int .i64 x] W M0 M0 M0 (by unfold maxLen at r;omega) P q rfl hcell' hsome (λj _=>XG _) s J n
  3 3 1 cap hwW T M0 (M _) (M _)
 refine(show Calls prog 269 _ W _ from t).e ?_;simp only[bM];have hfin:=Go.below_setCells (B:=base) (b:=g) k [.int .i64 x] i _ (Go.below_setCells (B:=base) (b:=g) k (List.drop i (d8 l)) (i+1) _ p.drew);refine⟨_,rfl,?_,hfin.size,hfin⟩;rw[hlen];refine mN hr k M0 r ((ay _).trans hlen) (λj d=>?_);rw[hins j];exact a4V (d8 l) (.int .i64 x) i j f M0 M0 (λh=>K j M0)

def jr:Nat->O->List Int->Int->Int->Int->Bool->Option (List Int)
 |0,s,l,_,_,_,_=>if s.length=0 then some l else none
 |f+1,s,l,p,n,bias,first =>
  if s.length=0 then some l
  else if(rd s bias).2=0 then none
  else if l.length=255\/¬sg (n+(p+(rd s bias).1)/(l.length+1))=true then none
  else jr f (s.drop (rd s bias).2.toNat) (l.take ((p+(rd s bias).1)%(l.length+1)).toNat++(n+(p+(rd s bias).1)/(l.length+1))::l.drop ((p+(rd s bias).1)%(l.length+1)).toNat)
   ((p+(rd s bias).1)%(l.length+1)+1) (n+(p+(rd s bias).1)/(l.length+1)) (nb (rd s bias).1 (l.length+1) first) false
theorem ie(f:Nat){s:O}(h:s.length=0){l:List Int}{p n bias:Int}:jr f s l p n bias first=some l:=by
 cases f with
 |zero=>unfold jr;rw[ge h]
 |succ f=>unfold jr;rw[ge h]
theorem ky(f:Nat){s:O}(h:¬s.length=0){l:List Int}{p n bias:Int}:jr (f+1) s l p n bias first =
  if(rd s bias).2=0 then none
  else if l.length=255\/¬sg (n+(p+(rd s bias).1)/(l.length+1))=true then none
  else jr f (s.drop (rd s bias).2.toNat) (l.take ((p+(rd s bias).1)%(l.length+1)).toNat++(n+(p+(rd s bias).1)/(l.length+1))::l.drop ((p+(rd s bias).1)%(l.length+1)).toNat)
   ((p+(rd s bias).1)%(l.length+1)+1) (n+(p+(rd s bias).1)/(l.length+1)) (nb (rd s bias).1 (l.length+1) first) false:=by
 rw[jr,gc h]
theorem Ki{l:O}{k:Nat}(h:k<l.length)(a:∀y∈l.take k,G y<128)(X:G l[k]<128):∀y∈l.take (k+1),G y<128:=by
 rw[aH h];intro y hy;rcases bO.mp hy with h|h
 ·exact a y h
 simp at h;subst h;exact X
def Ak(s:O):Int:=Lib.lastIndexByte (E s) 45
def Fl(s:O):Option (List Int) :=
 if 0<Ak s then
  if 255<Ak s then none
  else if(s.take (Ak s).toNat).all (λx=>decide (G x<128))then jr s.length (s.drop ((Ak s).toNat+1)) ((s.take (Ak s).toNat).map G) 0 128 72 true else none
 else jr s.length s [] 0 128 72 true
theorem F9(s:O):Ak s=-1\/∃k:Nat,k<s.length/\Ak s=k:=by
 unfold Ak Lib.lastIndexByte;rcases Lib.lastIdx_spec (E s) 45 (E s).size with⟨h,_⟩|⟨i,Y,I,_⟩
 ·exact .inl h
 exact .inr ⟨i,by rwa [aF]at Y,I⟩
def pQ(w:H)(o:Option (List Int)):Ending->H->Prop:=λen w' =>
 ∃v,en=.returned (.tuple #[v,.bool o.isSome])/\w'.ownsRow w.heap.size 3 1 v (o.getD []).length (d8 (o.getD []))/\w.heap.size<=w'.heap.size/\r7 w w'
theorem pQ.none{w:H}{o:Option (List Int)}(h:o=none)(a:w.heap.size<=w'.heap.size)(U:r7 w w'):pQ w o (.returned (.tuple #[.slice Option.none 0 0,.bool false])) w':=by
 subst h;exact⟨_,rfl,iZ _ _ _ _,a,U⟩
theorem pQ.some{w:H}{o:Option (List Int)}{l:List Int}{v:Z}{n:Nat}(h:o=some l)(a:n=l.length)(c:w'.ownsRow w.heap.size 3 1 v n (d8 l))(d:w.heap.size<=w'.heap.size)(U:r7 w w') :
  pQ w o (.returned (.tuple #[v,.bool true])) w':=by
 subst h;subst a;exact⟨_,rfl,c,d,U⟩
theorem Dq:∀(l:O) (j:Nat) (s w b:Int),(nH l j s w b).2=0/\(nH l j s w b).1=0\/(j:Int)+1<=(nH l j s w b).2/\(nH l j s w b).2<=j+l.length/\(nH l j s w b).1<=2147483647
 | [],_,_,_,_=>.inl ⟨rfl,rfl⟩
 |x::r,j,s,w,b=>by
  unfold nH;simp only
  split
  ·exact .inl ⟨rfl,rfl⟩
  split
  ·exact .inl ⟨rfl,rfl⟩
  split
  ·right
   simp only[cz];omega
  have:=Dq r (j+1) (s+wrt (G x)*w) (w*(36-bnd j b)) b;simp only[cz];omega
theorem Dr:∀(l:O) (j:Nat) (s w b:Int),0<=s->0<=w->0<=(nH l j s w b).1
 | [],_,_,_,_,_,_=>kQ _
 |x::r,j,s,w,b,hs,hw=>by
  unfold nH;simp only
  split
  ·exact kQ _
  have Y:=F4 (G x);have I:0<=wrt (G x)*w:=eh M0 hw;have h3:=b6t j b
  split
  ·exact kQ _
  split
  ·show 0<=s+_;omega
  exact Dr r (j+1) _ _ b M0 (eh hw M0)
theorem ww(s:O)(b:Int):0<=(rd s b).1/\(rd s b).1<=2147483647/\0<=(rd s b).2/\(rd s b).2<=s.length:=by
 have Y:=Dq s 0 0 1 b;have I:=Dr s 0 0 1 b M0 M0;unfold rd;omega
def Dd:Z->Nat
 | .string s=>s.size
 |_=>0
theorem ve(t:O)(n:Nat):(E t).extract n (E t).size=E (t.drop n):=by
 rw[cd,aF]
 congr 1
 exact aP (by rw[aj];exact ag _)
theorem Cc(v:O)(w:H)(hs:v.length<=102400000) :
  Calls prog 258 #[.string (E v)] w λe w'=>pQ w (Fl v) e w':=by
 obtain⟨i0,hi0,hz0,hz1,hz2⟩:=info_parts CU;obtain⟨T,x⟩:=V (Fl v);rw[<-x];have hi:=F9 v;have a23:=λW=>Any.strings_LastIndexByte laysLib (E v) 45 (by rw[aF];omega) W;unfold Fl at x;obtain⟨h,hh⟩:=V (Ak v);have CM:∀W,bP prog 209 #[.string (E v),.int .u8 45] W (.int .i64 h):=by rw[hh];exact a23
 rw[<-hh]at x hi;have HT:=F x;clear x;have Bt:=F CM;clear CM a23 hh;obtain⟨s,HS⟩:=ey (E v);have hsz:s.size=v.length:=by rw[HS.o,aF]
 obtain⟨L,HL⟩:=ey (v.length);rw[<-HL.o]at hs hsz hi;rw[<-HS.o];rw[<-HS.o]at Bt;have hc:h<=0\/(0<h/\255<h)\/(0<h/\h<=255):=M0;rcases hc with hc|⟨hc,hd⟩|⟨hc,hd⟩
 ·have x:=HT.o
  rw[gc M0]at x;have P:=F x;clear x HT;go_enter func258,ntmps258
  go_wp2_with(go_at_call 209;refine(Bt.o _).e ?_)
  go_loopw [0,4,7,8,9,10] (λsv lv A nv bv fv wr=>∃(f:Nat) (t:O) (l:List Int) (p n bi:Int) (fi:Bool),sv=.string (E t)/\A=.int .i64 p/\nv=.int .i64 n/\bv=.int .i64 bi/\fv=.bool fi /\
    wr.ownsRow w.heap.size 3 1 lv l.length (d8 l)/\T=jr f t l p n bi fi/\t.length<=f/\f<=102400000/\l.length<=255/\0<=p/\p<=256/\128<=n/\n<=1114111/\0<=bi/\bi<=2400/\w.heap.size<=wr.heap.size/\r7 w wr) (λsv _ _ _ _ _ _=>Dd sv)
  exact⟨L,v,[],0,128,72,true,by rw[HS.o],rfl,rfl,rfl,rfl,iZ _ _ _ _,by rw[HL.o];exact P.o,by rw[HL.o];exact ag _,hs,Oc,M0,M0,M0,M0,M0,M0,ag _,gT _ _⟩
  obtain⟨f,t,l,p,n,bi,fi,rfl,rfl,rfl,rfl,rfl,hown,c,FZ,hf1,hll,hp0,hp1,hn0,hn1,hb0,hb1,u,hbel⟩:=hrel;have HO:=F hown;clear hown;have HB:=F hbel;clear hbel;by_cases ht:t.length=0
  ·rw[ie f ht]at c
   have hemp:(E t).toList.isEmpty=true:=by rw[aB,az ht];rfl
   have a:=F c;clear c;clear ht FZ
   go_wp2
   go_ret2
   exact pQ.some a.o rfl HO.o u HB.o
  cases f with
  |zero=>omega
  |succ g =>
   rw[ky g ht]at c
   have hemp:(E t).toList.isEmpty=false:=by
    rw[aB];cases t with
    |nil=>simp at ht
    |cons y r=>rfl
   have hrr:=ww t bi;have C:=λW=>Dt (E t) bi W (by rw[aF];omega) M0;rw[cW]at C;have z:=ve t (rd t bi).2.toNat;obtain⟨d,hd',k,Q⟩:=ac ((rd t bi).1) ((rd t bi).2);rw[<-hd',<-Q]at c hrr C;rw[<-Q]at z;clear hd' Q;have htl:(E t).size=t.length:=aF t;obtain⟨tl,zF⟩:=ey (t.length);rw[<-zF.o]at htl FZ hrr;clear ht;have dI:=F C;clear C;by_cases M:k=0
   ·rw[ge M]at c
    have a:=F c;clear c z;subst M
    go_wp2_with(go_at_call 267;refine(dI.o _).e ?_)
    go_ret2
    exact pQ.none a.o u HB.o
   rw[gc M]at c;have hex:(E t).extract k.toNat (E t).size=E (t.drop k.toNat):=z;clear z;obtain⟨m,HM⟩:=ey (l.length:Nat);rw[<-HM.o]at c hll;have hlen:l.length=m:=HM.o.symm;have hq1:Int.tdiv (p+d) (m+1)=(p+d)/(m+1):=ju M0;have hq2:Int.tmod (p+d) (m+1)=(p+d)%(m+1):=ei M0;have hq3:0<=(p+d)/(m+1)/\(p+d)/(m+1)<=p+d:=⟨de M0 M0,m7 _ M0⟩;have hq4:0<=(p+d)%(m+1)/\(p+d)%(m+1)<m+1:=⟨oH _ M0,kN _ M0⟩;obtain⟨K,hdv⟩:=V ((p+d)/((m:Int)+1));obtain⟨qn,hqn⟩:∃qn:Nat,(p+d)%((m:Int)+1)=(qn:Int):=⟨((p+d)%((m:Int)+1)).toNat,(Int.toNat_of_nonneg hq4.1).symm⟩;rw[<-hdv]at hq1 hq3 c;rw[hqn]at hq2 hq4 c;rw[eV]at c;clear hdv hqn;obtain⟨al,cl,hv⟩:=cQ (Sl.g9 HO.o);rw[show(d8 l).length=m by rw[ay,hlen]]at hv;subst hv;have n9:(E t).extract k.toNat tl=E (t.drop k.toNat):=by rw[<-htl];exact hex
   have q:=λW=>pZ (n+K) W
   have hcs:m=255\/(m<255/\sg (n+K)=false)\/(m<255/\sg (n+K)=true):=by
    by_cases h5:m=255
    ·exact .inl h5
    cases hq:sg (n+K)
    ·exact .inr (.inl ⟨M0,rfl⟩)
    exact .inr (.inr ⟨M0,rfl⟩)
   rcases hcs with hc|⟨hc,j⟩|⟨hc,j⟩
   ·rw[ge (.inl hc)]at c
    have a:=F c;clear c q;subst hc
    go_wp2_with(go_at_call 267;refine(dI.o _).e ?_)
    go_ret2
    exact pQ.none a.o u HB.o
   ·rw[ge (.inr (by rw[j];simp))]at c
    rw[j]at q;have MY:=F q;clear q j;have a:=F c;clear c
    go_wp2_with(first|(go_at_call 267;refine(dI.o _).e ?_)|(go_at_call 268;refine(MY.o _).e ?_))
    go_ret2
    exact pQ.none a.o u HB.o
   rw[gc (by rw[j];simp;omega)]at c;have hsr:=(sG.mp j);rw[j]at q;have MY:=F q;clear q j;have a:=F c;clear c;have B:=Ap l (n+K) qn M0;have hin:=vK l (n+K) qn _ w.heap.size wr HO.o u M0 M0;have WZ:=F hin;clear hin;have HSR:=F hsr.2.1;clear hsr;rw[hlen]at B;obtain⟨l2,hl2⟩:=V (l.take qn++(n+K)::l.drop qn);rw[<-hl2]at B WZ a;clear hl2;have Ty:=F B;clear B
   go_wp2_with(first|(go_at_call 267;refine(dI.o _).e ?_)|(go_at_call 268;refine(MY.o _).e ?_)|(go_at_call 269;refine(WZ.o).m ?_;rintro e w3⟨v3,rfl,R,hz3,hb3⟩;have jx:=F R;have HZ3:=F hz3;clear hz3;have HB3:=F hb3;clear hb3;obtain⟨al3,cl3,hv3⟩:=cQ (Sl.g9 R);rw[show(d8 l2).length=m+1 by rw[ay];exact Ty.o]at hv3;subst hv3;clear R)|(go_at_call 270;refine(mJ d (m+1) fi _ M0 M0).e ?_))
   have hnb:=vW (d:=d) (n:=(m:Int)+1) fi hrr.1 M0;have MW:=F hnb;clear hnb;go_roundw
   ·refine⟨g,t.drop k.toNat,l2,qn+1,n+K,nb d (m+1) fi,false,rfl,rfl,rfl,rfl,rfl,by rw[Ty.o];have:=jx.o;rw[Ty.o]at this;exact this,a.o,?_,M0,by rw[Ty.o];omega,M0,M0,M0,HSR.o,MW.o.1,MW.o.2,by have:=HZ3.o;omega,HB.o.trans HB3.o⟩;rw[aj,<-zF.o];omega
   ·have e:=zF.o;show(E (t.drop k.toNat)).size<(E t).size;rw[aF,aF,aj];omega
 ·have x:=HT.o
  rw[ge M0,ge M0]at x;have P:=F x;clear x HT;go_enter func258,ntmps258
  go_wp2_with(go_at_call 209;refine(Bt.o _).e ?_)
  go_ret2
  exact pQ.none P.o (ag _) (gT _ _)
 have x:=HT.o;rw[ge M0,gc M0]at x
 obtain⟨D,M,hkh⟩:∃D:Nat,D<L/\h=D:=by
  rcases hi with hi|⟨D,Y,I⟩
  ·omega
  exact⟨D,Y,I⟩
 have htn:h.toNat=D:=M0;have b9F:(h+1).toNat=D+1:=M0;have hhl:h+1<=L:=M0;rw[htn]at x;have P:=F x;clear x HT hi
 have hex:s.extract (D+1) L=E (v.drop (D+1)):=by
  have:=ve v (D+1);rw[<-HS.o,hsz]at this;exact this
 rw[<-b9F]at hex;have MU:=F hex;clear hex htn;have HTN:=F b9F;clear b9F;have HKH:=F hkh;clear hkh;go_enter func258,ntmps258
 go_wp2_with(go_at_call 209;refine(Bt.o _).e ?_)
 go_loopw [4,20] (λlv iv wr=>∃(k:Nat),k<=D/\iv=.int .i64 k/\wr.ownsRow w.heap.size 3 1 lv k (d8 ((v.take k).map G))/\(∀y∈v.take k,G y<128)/\w.heap.size<=wr.heap.size/\r7 w wr) (λ_ i _=>D-(intOf i).toNat)
 exact⟨0,aL _,rfl,iZ _ _ _ _,Oc,ag _,gT _ _⟩
 obtain⟨k,hk,rfl,hown,hall,u,hbel⟩:=hrel;have HO:=F hown;clear hown;have HA:=F hall;clear hall;have HB:=F hbel;clear hbel;by_cases hlt:(k:Int)<h
 ·have hlt2:k<D:=by have:=HKH.o;omega
  have N:k<s.size:=M0;have X:k<v.length:=by rw[<-HL.o];omega
  have hxe:((s[k]'N).toNat:Int)=G v[k]:=cy HS.o N X;have hx8:=jL v[k];rw[<-hxe]at hx8
  have hsn:d8 ((v.take (k+1)).map G)=d8 ((v.take k).map G)++[.int .i64 ((s[k]'N).toNat:Int)]:=by
   rw[aH X,eY,hxe];simp
  have mY:=F hsn;clear hsn
  have hmem:v[k]∈v.take D:=by
   rw[List.mem_take_iff_getElem];exact⟨k,M0,rfl⟩
  have hstep:=Ki X HA.o;rw[<-hxe]at hstep;have HST:=F hstep;clear hstep;have hw:IntKind.i64.wrap ((s[k]'N).toNat:Int)=((s[k]'N).toNat:Int):=gS _ M0;have hcs:((s[k]'N).toNat:Int)<128\/128<=((s[k]'N).toNat:Int):=M0;rcases hcs with hc3|hc3
  ·clear hxe hmem
   go_wp2_with(at_builtin;(refine et rfl 27 32 _ rfl w.heap.size 3 i0 (.int .i64 0) 8 underlying224 hi0 hz0 hz1 hz2 P8 _ _ k (d8 ((v.take k).map G)) rfl HO.o (.int .i64 ((s[k]'N).toNat:Int)) rfl rfl M0 P8 u ?_);intro v2 J hown2 hw2 hb2;have eJ:=F hown2;clear hown2;have HB2:=F hb2;clear hb2)
   go_roundw
   exact⟨k+1,hlt2,Oc,by rw[mY.o];exact eJ.o,HST.o hc3,M0,HB.o.trans HB2.o⟩
   exact aa
  have hno:T=none:=by
   rw[P.o,gc];intro ha;have:=of_decide_eq_true (dl.mp ha _ hmem);omega
  have px:=F hno;clear hno hxe hmem
  go_wp2
  go_ret2
  exact pQ.none px.o u HB.o
 obtain rfl:D=k:=by have:=HKH.o;omega
 have x:=P.o;rw[ge (dl.mpr λy hy=>gr (HA.o y hy))]at x;have a:=F x;clear x P;have hlen:((v.take D).map G).length=D:=by rw[ay,aD,<-HL.o];omega
 have hown0:=HO.o;have TB:=F hlen;clear hlen;have HOW:=F hown0;clear hown0;have hex:=MU.o;have xt:=F HB.o;have Qb:=u
 go_wp2
 go_loopw [0,4,7,8,9,10] (λsv lv A nv bv fv wr=>∃(f:Nat) (t:O) (l:List Int) (p n bi:Int) (fi:Bool),sv=.string (E t)/\A=.int .i64 p/\nv=.int .i64 n/\bv=.int .i64 bi/\fv=.bool fi /\
   wr.ownsRow w.heap.size 3 1 lv l.length (d8 l)/\T=jr f t l p n bi fi/\t.length<=f/\f<=102400000/\l.length<=255/\0<=p/\p<=256/\128<=n/\n<=1114111/\0<=bi/\bi<=2400/\w.heap.size<=wr.heap.size/\r7 w wr) (λsv _ _ _ _ _ _=>Dd sv)
 exact⟨L,v.drop (D+1),(v.take D).map G,0,128,72,true,by rw[HTN.o],rfl,rfl,rfl,rfl,by rw[TB.o];exact HOW.o,by rw[HL.o];exact a.o,by rw[aj,<-HL.o];omega,hs,by rw[TB.o];have:=HKH.o;omega,M0,M0,M0,M0,M0,M0,Qb,xt.o⟩
 obtain⟨f,t,l,p,n,bi,fi,rfl,rfl,rfl,rfl,rfl,hown,c,FZ,hf1,hll,hp0,hp1,hn0,hn1,hb0,hb1,u,hbel⟩:=hrel;have HO:=F hown;clear hown;have HB:=F hbel;clear hbel;by_cases ht:t.length=0
 ·rw[ie f ht]at c
  have hemp:(E t).toList.isEmpty=true:=by rw[aB,az ht];rfl
  have a:=F c;clear c;clear ht FZ
  go_wp2
  go_ret2
  exact pQ.some a.o rfl HO.o u HB.o
 cases f with
 |zero=>omega
 |succ g =>
  rw[ky g ht]at c
  have hemp:(E t).toList.isEmpty=false:=by
   rw[aB];cases t with
   |nil=>simp at ht
   |cons y r=>rfl
  have hrr:=ww t bi;have C:=λW=>Dt (E t) bi W (by rw[aF];omega) M0;rw[cW]at C;have z:=ve t (rd t bi).2.toNat;obtain⟨d,hd',k,Q⟩:=ac ((rd t bi).1) ((rd t bi).2);rw[<-hd',<-Q]at c hrr C;rw[<-Q]at z;clear hd' Q;have htl:(E t).size=t.length:=aF t;obtain⟨tl,zF⟩:=ey (t.length);rw[<-zF.o]at htl FZ hrr;clear ht;have dI:=F C;clear C;by_cases M:k=0
  ·rw[ge M]at c
   have a:=F c;clear c z;subst M
   go_wp2_with(go_at_call 267;refine(dI.o _).e ?_)
   go_ret2
   exact pQ.none a.o u HB.o
  rw[gc M]at c;have hex:(E t).extract k.toNat (E t).size=E (t.drop k.toNat):=z;clear z;obtain⟨m,HM⟩:=ey (l.length:Nat);rw[<-HM.o]at c hll;have hlen:l.length=m:=HM.o.symm;have hq1:Int.tdiv (p+d) (m+1)=(p+d)/(m+1):=ju M0;have hq2:Int.tmod (p+d) (m+1)=(p+d)%(m+1):=ei M0;have hq3:0<=(p+d)/(m+1)/\(p+d)/(m+1)<=p+d:=⟨de M0 M0,m7 _ M0⟩;have hq4:0<=(p+d)%(m+1)/\(p+d)%(m+1)<m+1:=⟨oH _ M0,kN _ M0⟩;obtain⟨K,hdv⟩:=V ((p+d)/((m:Int)+1));obtain⟨qn,hqn⟩:∃qn:Nat,(p+d)%((m:Int)+1)=(qn:Int):=⟨((p+d)%((m:Int)+1)).toNat,(Int.toNat_of_nonneg hq4.1).symm⟩;rw[<-hdv]at hq1 hq3 c;rw[hqn]at hq2 hq4 c;rw[eV]at c;clear hdv hqn;obtain⟨al,cl,hv⟩:=cQ (Sl.g9 HO.o);rw[show(d8 l).length=m by rw[ay,hlen]]at hv;subst hv;have n9:(E t).extract k.toNat tl=E (t.drop k.toNat):=by rw[<-htl];exact hex
  have q:=λW=>pZ (n+K) W
  have hcs:m=255\/(m<255/\sg (n+K)=false)\/(m<255/\sg (n+K)=true):=by
   by_cases h5:m=255
   ·exact .inl h5
   cases hq:sg (n+K)
   ·exact .inr (.inl ⟨M0,rfl⟩)
   exact .inr (.inr ⟨M0,rfl⟩)
  rcases hcs with hc|⟨hc,j⟩|⟨hc,j⟩
  ·rw[ge (.inl hc)]at c
   have a:=F c;clear c q;subst hc
   go_wp2_with(go_at_call 267;refine(dI.o _).e ?_)
   go_ret2
   exact pQ.none a.o u HB.o
  ·rw[ge (.inr (by rw[j];simp))]at c
   rw[j]at q;have MY:=F q;clear q j;have a:=F c;clear c
   go_wp2_with(first|(go_at_call 267;refine(dI.o _).e ?_)|(go_at_call 268;refine(MY.o _).e ?_))
   go_ret2
   exact pQ.none a.o u HB.o
  rw[gc (by rw[j];simp;omega)]at c;have hsr:=(sG.mp j);rw[j]at q;have MY:=F q;clear q j;have a:=F c;clear c;have B:=Ap l (n+K) qn M0;have hin:=vK l (n+K) qn _ w.heap.size wr HO.o u M0 M0;have WZ:=F hin;clear hin;have HSR:=F hsr.2.1;clear hsr;rw[hlen]at B;obtain⟨l2,hl2⟩:=V (l.take qn++(n+K)::l.drop qn);rw[<-hl2]at B WZ a;clear hl2;have Ty:=F B;clear B
  go_wp2_with(first|(go_at_call 267;refine(dI.o _).e ?_)|(go_at_call 268;refine(MY.o _).e ?_)|(go_at_call 269;refine(WZ.o).m ?_;rintro e w3⟨v3,rfl,R,hz3,hb3⟩;have jx:=F R;have HZ3:=F hz3;clear hz3;have HB3:=F hb3;clear hb3;obtain⟨al3,cl3,hv3⟩:=cQ (Sl.g9 R);rw[show(d8 l2).length=m+1 by rw[ay];exact Ty.o]at hv3;subst hv3;clear R)|(go_at_call 270;refine(mJ d (m+1) fi _ M0 M0).e ?_))
  have hnb:=vW (d:=d) (n:=(m:Int)+1) fi hrr.1 M0;have MW:=F hnb;clear hnb;go_roundw
  ·refine⟨g,t.drop k.toNat,l2,qn+1,n+K,nb d (m+1) fi,false,rfl,rfl,rfl,rfl,rfl,by rw[Ty.o];have:=jx.o;rw[Ty.o]at this;exact this,a.o,?_,M0,by rw[Ty.o];omega,M0,M0,M0,HSR.o,MW.o.1,MW.o.2,by have:=HZ3.o;omega,HB.o.trans HB3.o⟩;rw[aj,<-zF.o];omega
  ·have e:=zF.o;show(E (t.drop k.toNat)).size<(E t).size;rw[aF,aF,aj];omega
section
open Go.RowKit
theorem WG{d:Int}(h:0<=d/\d<36):wrt (Na d)=d:=by
  unfold wrt Na;by_cases Y:d<26
  · rw[ge Y,ge M0];omega
  rw[gc Y,gc M0,gc M0,ge M0];omega
theorem SJ{d:Int}(h:0<=d/\d<36):wrt (G (db d))=d:=by rw[Ik h,WG h]
theorem yT:∀(f j:Nat) (d sum wt bias:Int) (rest:O),0<=d->d<2 ^ f->1<=wt->sum+d*wt<=2147483647 ->
    nH (nt f j d bias++rest) j sum wt bias=(sum+d*wt,(j:Int)+(nt f j d bias).length)
  |f,j,d,sum,wt,bias,rest,k,n,hw,hs=>by
    have U:=b6t j bias;by_cases a:d<bnd j bias
    · have hd:0<=d/\d<36:=by omega
      rw[lE f j a];show nH (db d::rest) j sum wt bias=_;unfold nH;simp only[SJ hd];rw[gc M0,gc M0,ge a];rfl
    obtain⟨g,rfl,h,o⟩:=lF a n k;rw[h];generalize l:bnd j bias=b at *;have hr:0<=(d-b)%(36-b)/\(d-b)%(36-b)<36-b:=⟨oH _ M0,kN _ M0⟩;have e:0<=(d-b)/(36-b):=de M0 M0;have m:0<=b+(d-b)%(36-b)/\b+(d-b)%(36-b)<36:=M0;have PQ:(36-b)*((d-b)/(36-b))+(d-b)%(36-b)=d-b:=Int.mul_ediv_add_emod _ _
    have hdw:d*wt=(b+(d-b)%(36-b))*wt+(d-b)/(36-b)*(wt*(36-b)):=by
      have:d=(b+(d-b)%(36-b))+(36-b)*((d-b)/(36-b)):=M0
      conv=>lhs;rw[this]
      rw[b5r,wd (36-b) ((d-b)/(36-b)),Int.mul_assoc,wd (36-b) wt]
    have hpos:0<=(d-b)/(36-b)*(wt*(36-b)):=eh e (eh M0 M0)
    have i:1<=wt*(36-b):=by
      have:=Gu (c:=36-b) (wt:=wt) M0 hw;rw[wd]at this;omega
    show nH (db (b+(d-b)%(36-b))::(nt g (j+1) ((d-b)/(36-b)) bias++rest)) j sum wt bias=_;unfold nH;simp only[SJ m,l];rw[gc M0,gc M0,gc M0,yT g (j+1) _ _ _ bias rest e o i M0];simp only[cz];refine Prod.ext ?_ ?_
    · show _+_=_;omega
    show((j+1:Nat):Int)+_=_;omega
theorem VZ{d bias:Int}(rest:O)(a:0<=d)(Y:d<=2147483647):rd (nu d bias++rest) bias=(d,((nu d bias).length:Int)):=by
  have:=yT 40 0 d 0 1 bias rest a M0 M0 M0;unfold rd nu;rw[this];refine Prod.ext ?_ ?_
  · show 0+d*1=d;omega
  show((0:Nat):Int)+_=_;omega
end
section
open Go.RowKit
def Hk(l:List Int)(n:Int)(k:Nat):List Int:=(l.take k).filter (λc=>decide (c<=n))++(l.drop k).filter (λc=>decide (c<n))
def pk(l:List Int)(n:Int)(k:Nat):Nat:=((l.take k).filter (λc=>decide (c<=n))).length
theorem VU{l:List Int}{k:Nat}(h:k<l.length)(n:Int):pk l n (k+1)=pk l n k+if l[k]<=n then 1 else 0:=by
  unfold pk;rw[aH h,fy,ae];by_cases I:l[k]<=n
  · rw[ge I,aU (by simpa using I)];rfl
  rw[gc I,aZ (by simpa using I)];rfl
theorem ui{l:List Int}{k:Nat}(h:k<l.length){n:Int}(hn:l[k]≠n):Hk l n (k+1)=Hk l n k:=by
  unfold Hk;rw[aH h,aC h,fy,bB]
  congr 1
  by_cases I:l[k]<n
  · rw[aU (by simp;omega),aU (by simpa using I)];rfl
  rw[aZ (by simp;omega),aZ (by simpa using I)];rfl
theorem YM{l:List Int}{k:Nat}(h:k<l.length){n:Int}(a:l[k]=n):Hk l n (k+1)=(Hk l n k).take (pk l n k)++n::(Hk l n k).drop (pk l n k):=by
  have e:Hk l n k=(l.take k).filter (λc=>decide (c<=n))++(l.drop (k+1)).filter (λc=>decide (c<n)):=by
    unfold Hk;rw[aC h,aZ (by simp;omega)]
  rw[e];unfold pk;rw[ko,Xf]
  · unfold Hk
    rw[aH h,fy,aU (by simp;omega),a,bB];rfl
  · rfl
  rfl
theorem YL(l:List Int)(n:Int):Hk l n l.length=Hk l (n+1) 0:=by
  unfold Hk;rw[di,dF,jk,dP];simp only[xA,aV,f9];refine List.filter_congr λc _=>?_;simp only[decide_eq_decide];omega
theorem TP{l:List Int}{n m:Int}(hm:n<=m)(h:∀c∈l,n<=c->m<=c):Hk l m 0=Hk l n 0:=by
  unfold Hk;rw[jk,dP]
  congr 1
  refine List.filter_congr λc a=>?_;have:=h c a;simp only[decide_eq_decide];omega
theorem a48(l:List Int)(n:Int)(k:Nat):pk l n k<=(Hk l n k).length:=by unfold pk Hk;rw[ae];omega
theorem a0E(l:List Int)(n:Int):pk l n l.length=(Hk l n l.length).length:=by
  unfold pk Hk;rw[di,dF];simp
theorem YK{l:List Int}{n:Int}(h:(Hk l n 0).length=l.length):Hk l n 0=l:=by
  unfold Hk at *;rw[jk,dP]at *;simp only[xA,f9]at *;exact a8n.mpr (a6E.mp h)
end
section
open Go.RowKit
def Gg(y:UInt8):Prop:=(97<=G y/\G y<=122)\/(48<=G y/\G y<=57)
theorem Xy{d:Int}(h:0<=d/\d<36):Gg (db d):=by
  unfold Gg;rw[Ik h];unfold Na
  split <;>omega
theorem Ix:∀(f j:Nat) (d bias:Int),0<=d->d<2 ^ f->∀y∈nt f j d bias,Gg y
  |f,j,d,bias,e,h=>by
    have U:=b6t j bias;by_cases a:d<bnd j bias
    · rw[lE f j a]
      intro y hy;simp at hy;subst hy;exact Xy M0
    obtain⟨g,rfl,c,i⟩:=lF a h e;rw[c];have hr:0<=(d-bnd j bias)%(36-bnd j bias)/\(d-bnd j bias)%(36-bnd j bias)<36-bnd j bias:=⟨oH _ M0,kN _ M0⟩;intro y hy;rcases aK.mp hy with rfl|hy
    · exact Xy M0
    exact Ix g (j+1) _ bias (de M0 M0) i y hy
theorem Uu{d:Int}(bias:Int)(a:0<=d)(Y:d<1099511627776):∀y∈nu d bias,Gg y:=Ix 40 0 d bias a M0
def Nh:Nat->Int
  |0=>26
  |k+1=>26+10*Nh k
theorem Ha:∀k,26<=Nh k
  |0=>by unfold Nh;omega
  |k+1=>by have:=Ha k;unfold Nh;omega
theorem DS{t d T:Int}(ht:1<=t/\t<=26)(hT:26<=T)(hd:d<26+10*T):(d-t)/(36-t)<T:=by
  refine Int.ediv_lt_of_lt_mul M0 ?_;have Y:T*(36-t)=36*T-t*T:=by rw[b5s,wd T 36,wd T t]
  have I:0<=(26-t)*(T-1):=eh M0 M0;have h3:(26-t)*(T-1)=26*T-26-(t*T-t):=by rw[Int.sub_mul,b5s,b5s];omega
  omega
theorem Iw:∀(k f j:Nat) (d bias:Int),0<=d->d<2 ^ f->d<Nh k->26<=36*((j:Int)+1)-bias->(nt f j d bias).length<=k+1
  |k,f,j,d,bias,i,l,h,hj=>by
    have U:=b6t j bias;have hbe:bnd j bias=26:=by unfold bnd;omega
    by_cases a:d<bnd j bias
    · rw[lE f j a];simp
    obtain⟨g,rfl,e,m⟩:=lF a l i;rw[e,cz];cases k with
    |zero=>unfold Nh at h;omega
    |succ k =>
      have c:d<26+10*Nh k:=h;have:=Iw k g (j+1) _ bias (de M0 M0) m (DS U (Ha k) c) M0;omega
def thA:Nat->Int
  |0=>1
  |k+1=>min (1+35*thA k) (Nh (k+1))
theorem Cf:∀(k f j:Nat) (d bias:Int),0<=d->d<2 ^ f->d<thA k->(nt f j d bias).length<=k+1
  |k,f,j,d,bias,n,o,i=>by
    have U:=b6t j bias;by_cases a:d<bnd j bias
    · rw[lE f j a];simp
    obtain⟨g,rfl,h,m⟩:=lF a o n;rw[h,cz];cases k with
    |zero=>unfold thA at i;omega
    |succ k =>
      have hk1:d<min (1+35*thA k) (Nh (k+1)):=i
      have e:d<26+10*Nh k:=by have:Nh (k+1)=26+10*Nh k:=rfl
                              omega
      have l:0<=(d-bnd j bias)/(36-bnd j bias):=de M0 M0;by_cases hc:36*((j:Int)+1)-bias<=1
      · have c:bnd j bias=1:=by unfold bnd;omega
        have:=Cf k g (j+1) ((d-bnd j bias)/(36-bnd j bias)) bias l m (by rw[c];omega);omega
      have:=Iw k g (j+1) _ bias l m (DS U (Ha k) e) M0;omega
theorem KH{d:Int}(bias:Int)(a:0<=d)(Y:d<288888886):(nu d bias).length<=8:=by
  have h:thA 7=288888886:=by decide +kernel
  exact Cf 7 40 0 d bias a M0 M0
end
section
open Go.RowKit
theorem Ur{f:Nat}{d bias n:Int}{l:List Int}{pos:Nat}(rest:O)(a:0<=d)(Y:d<=2147483647)(hp:p0+d=(n-n0)*(l.length+1)+pos)(hpos:pos<=l.length)(hl:l.length<255)(c:sg n=true) :
    jr (f+1) (nu d bias++rest) l p0 n0 bias first=jr f rest (l.take pos++n::l.drop pos) (pos+1) n (nb d (l.length+1) first) false:=by
  have hd:=(b7j d bias).1;rw[ky f (by rw[ae];omega),VZ rest a Y]
  have e:(p0+d)/((l.length:Int)+1)=n-n0:=by
    rw[hp,Int.add_comm,Int.add_mul_ediv_right _ _ M0,Int.ediv_eq_zero_of_lt M0 M0];omega
  have g:(p0+d)%((l.length:Int)+1)=pos:=by
    rw[hp,Int.add_comm,Int.add_mul_emod_self_right];exact Int.emod_eq_of_lt M0 M0
  simp only[e,g,eV];rw[show n0+(n-n0)=n by omega,gc M0,gc (by rw[c];simp;omega),a1B]
theorem a0c:∀(f g:Nat) (s:O) (l:List Int) (p n bias:Int) (first:Bool),s.length<=f->s.length<=g->jr f s l p n bias first=jr g s l p n bias first
  |0,g,s,l,p,n,bias,first,h,_=>by rw[ie 0 M0,ie g M0]
  |f+1,0,s,l,p,n,bias,first,_,h=>by rw[ie (f+1) M0,ie 0 M0]
  |f+1,g+1,s,l,p,n,bias,first,h,h'=>by
    by_cases a:s.length=0
    · rw[ie _ a,ie _ a]
    rw[ky f a,ky g a];have hr:=ww s bias;by_cases c:(rd s bias).2=0
    · rw[ge c,ge c]
    rw[gc c,gc c];rw[a0c f g _ _ _ _ _ _ (by rw[aj];omega) (by rw[aj];omega)]
def KF(s:O)(l:List Int)(p n bias:Int)(first:Bool):Option (List Int):=jr s.length s l p n bias first
theorem Iu{f:Nat}{s:O}{l:List Int}{p n bias:Int}(h:s.length<=f):jr f s l p n bias first=KF s l p n bias first:=a0c _ _ _ _ _ _ _ _ h (ag _)
theorem OE{d bias n:Int}{l:List Int}{pos:Nat}(rest:O)(a:0<=d)(Y:d<=2147483647)(hp:p0+d=(n-n0)*(l.length+1)+pos)(hpos:pos<=l.length)(c:l.length<255)(e:sg n=true) :
    KF (nu d bias++rest) l p0 n0 bias first=KF rest (l.take pos++n::l.drop pos) (pos+1) n (nb d (l.length+1) first) false:=by
  have hd:=(b7j d bias).1;rw[<-Iu (f:=(nu d bias++rest).length+1) M0,Ur rest a Y hp hpos c e,Iu (by rw[ae];omega)]
end
section
open Go.RowKit
theorem Nz(l:List Int)(n:Int)(k:Nat):(Hk l n k).length<=l.length:=by
  unfold Hk;have Y:=dO (λc=>decide (c<=n)) (l.take k);have I:=dO (λc=>decide (c<n)) (l.drop k);have h3:(l.take k).length+(l.drop k).length=l.length:=by rw[<-List.length_append,cT]
  rw[ae];omega
theorem ut(l:List Int)(n:Int)(D:sg n=true)(m:l.length<=255):∀(q k:Nat) (s:En) (p0 n0:Int),k+q=l.length->0<=n0->n0<=n->0<=p0->s.d=(n-n0)*(s.done+1)+pk l n k-p0->s.done=(Hk l n k).length->0<=s.d ->
    ∃(W:O) (j f:Int),(eG n (l.drop k) s).o=s.o++W /\
      (∀rest,KF (W++rest) (Hk l n k) p0 n0 s.bias s.first=KF rest (Hk l n l.length) j f (eG n (l.drop k) s).bias (eG n (l.drop k) s).first) /\
      0<=f/\f<=n/\0<=j/\(eG n (l.drop k) s).d=(n-f)*((eG n (l.drop k) s).done+1)+pk l n l.length-j/\(eG n (l.drop k) s).done=(Hk l n l.length).length/\0<=(eG n (l.drop k) s).d/\(∀y∈W,Gg y)/\(W.length:Int)<=8*((eG n (l.drop k) s).done-s.done)
  |0,k,s,p0,n0,L,g,h,i,hd,c,r=>by
    obtain rfl:k=l.length:=M0;rw[dF];exact⟨[],p0,n0,by show s.o=_;simp,λrest=>rfl,g,h,i,hd,c,r,Oc,by show(0:Int)<=8*(s.done-s.done);omega⟩
  |q+1,k,s,p0,n0,L,g,h,i,hd,c,r=>by
    have X:k<l.length:=M0;have p:=VU X n;have K:=a48 l n k;have hnr:=sG.mp D;rw[GN X];obtain⟨o,d,dn,bi,fi⟩:=s;simp only at hd c r⊢;have J:l[k]<n\/l[k]=n\/n<l[k]:=M0;rcases J with t|t|t
    · rw[Dz t]
      rw[ge M0]at p;obtain⟨W,j,f,Y,I,u,v,w,x,z,B,C,e⟩:=ut l n D m q (k+1) ⟨o,d+1,dn,bi,fi⟩ p0 n0 M0 g h i (by simp only;omega) (by simp only;rw[ui X M0];exact c) (by simp only;omega);refine⟨W,j,f,Y,λrest=>?_,u,v,w,x,z,B,C,e⟩;rw[<-I rest,ui X M0]
    · rw[row_one t]
      rw[ge M0]at p;have hins:=YM X t;have hlen:(Hk l n (k+1)).length=(Hk l n k).length+1:=by rw[hins,ae,aD,cz,aj];omega
      have hle:=Nz l n (k+1);have hmul:=Jq (a:=n-n0) (b:=dn+1) M0 M0;obtain⟨W,j,f,Y,I,u,v,w,x,z,B,C,e⟩:=ut l n D m q (k+1) ⟨o++nu d bi,0,dn+1,nb d (dn+1) fi,false⟩ (pk l n k+1) n M0 M0 (kQ _) M0 (by simp only;rw[Int.sub_self,Int.zero_mul];omega) (by simp only;omega) (kQ _);refine⟨nu d bi++W,j,f,by rw[Y];simp only;rw[bB],λrest=>?_,u,v,w,x,z,B,λy hy=>(bO.mp hy).elim (Uu bi r M0 y) (C y),by have:=KH bi r M0;rw[ae];simp only at e;omega⟩;rw[<-I rest,bB,OE (pos:=pk l n k) (n:=n) (W++rest) r M0 (by rw[<-c];omega) K M0 D,hins,<-c]
    rw[DA t];rw[gc M0]at p;obtain⟨W,j,f,Y,I,u,v,w,x,z,B,C,e⟩:=ut l n D m q (k+1) ⟨o,d,dn,bi,fi⟩ p0 n0 M0 g h i (by simp only;omega) (by simp only;rw[ui X M0];exact c) (by simp only;omega);refine⟨W,j,f,Y,λrest=>?_,u,v,w,x,z,B,C,e⟩;rw[<-I rest,ui X M0]
end
section
open Go.RowKit
theorem uJ(l:List Int)(n:Int):(Hk l n 0).length=cnt l n:=by unfold Hk cnt;rw[jk,dP];rfl
theorem Iv(l:List Int)(hall:∀c∈l,sg c=true)(j:l.length<=255):∀(f:Nat) (sign:Int) (s:En) (p0 n0:Int),0<=n0->n0<=sign->0<=p0->s.d=(sign-n0)*(s.done+1)-p0->s.done=(Hk l sign 0).length->0<=s.d->(l.length:Int)-s.done<=f ->
    ∃W:O,pD f l sign s=s.o++W/\KF W (Hk l sign 0) p0 n0 s.bias s.first=some l/\(∀y∈W,Gg y)/\(W.length:Int)<=8*(l.length-s.done)
  |f,sign,s,p0,n0,v,hns,w,hd,a,L,T=>by
    by_cases e:s.done<l.length
    · cases f with
      |zero=>omega
      |succ g =>
        obtain⟨o,d,dn,bi,fi⟩:=s;simp only at hd a L T e⊢;have hex:=cnt_lt (l:=l) (sign:=sign) (by rw[<-uJ];omega);obtain⟨k,u,B⟩:=yL M0 hex;rw[vi g e];generalize qi l sign (-1)=m at *;have h:=TP u B;have q:pk l m 0=0:=by unfold pk;rw[jk];rfl
        have hmul:(m-n0)*(dn+1)=(m-sign)*(dn+1)+(sign-n0)*(dn+1):=by rw[<-Int.add_mul];congr 1;omega
        have hpos:0<=(m-sign)*(dn+1):=eh M0 M0;obtain⟨W,p1,n,Y,I,M,h4,N,P,r,Q,R,i⟩:=ut l m (hall m k) j l.length 0 ⟨o,d+(m-sign)*(dn+1),dn,bi,fi⟩ p0 n0 M0 v M0 w (by simp only;rw[q,hmul];omega) (by simp only;rw[h];exact a) (by simp only;omega);rw[dP]at Y I P r Q i;generalize eG m l ⟨o,d+(m-sign)*(dn+1),dn,bi,fi⟩=t at *;have he:=YL l m;have x:=a0E l m;rw[he]at I r x;have hgrow:(Hk l (m+1) 0).length=cnt l m+eqs l m:=by rw[uJ,uV]
        have heq:=IH k;have hold:dn=cnt l m:=by rw[a,<-h,uJ]
        have p:(m+1-n)*(t.done+1)=(m-n)*(t.done+1)+(t.done+1):=by
          rw[show m+1-n=(m-n)+1 by omega,b5r,Int.one_mul]
        obtain⟨z,C,D,J,K⟩:=Iv l hall j g (m+1) ⟨t.o,t.d+1,t.done,t.bias,t.first⟩ p1 n M M0 N (by simp only;rw[p];omega) (by simp only;exact r) (by simp only;omega) (by simp only;omega);refine⟨W++z,?_,?_,λy hy=>(bO.mp hy).elim (R y) (J y),by rw[ae];simp only at i K;omega⟩
        · rw[C,Y,bB]
        rw[<-h,I z];exact D
    rw[vh f e];have hle:=Nz l sign 0;refine⟨[],Oc,?_,Oc,by simp only[aO];have I:=Nz l sign 0;omega⟩;rw[YK M0];rfl
end
section
open Go.RowKit
theorem byte_at(s:O)(j:Nat)(h:j<s.length):(((E s).data[j]!).toNat:Int)=G s[j]:=by
  unfold G E;simp[h]
theorem b0I{s:O}(h:∀y∈s,Gg y):Ak s=-1:=by
  unfold Ak Lib.lastIndexByte;rcases Lib.lastIdx_spec (E s) 45 (E s).size with⟨Y,_⟩|⟨i,Y,_,a,_⟩
  · exact Y
  rw[aF]at Y;rw[byte_at s i Y]at a;have:=h s[i] (be Y);unfold Gg at this;omega
theorem b0J{B W:O}(h:∀y∈W,Gg y):Ak (B++45::W)=B.length:=by
  unfold Ak Lib.lastIndexByte;have hl:(B++45::W).length=B.length+1+W.length:=by rw[ae,cz];omega
  have a:(((E (B++45::W)).data[B.length]!).toNat:Int)=45:=by
    rw[byte_at _ _ M0];simp[G]
  rcases Lib.lastIdx_spec (E (B++45::W)) 45 (E (B++45::W)).size with⟨_,I⟩|⟨i,Y,I,f,g⟩
  · exact absurd a (I B.length (by rw[aF];omega))
  rw[I];rw[aF]at Y g;have d:i<B.length\/i=B.length\/B.length<i:=M0;rcases d with c|c|c
  · exact absurd a (g B.length c M0)
  · rw[c]
  exfalso;rw[byte_at _ i Y]at f;obtain⟨q,rfl⟩:∃q,i=B.length+1+q:=⟨i-B.length-1,M0⟩;have j:q<W.length:=M0
  have e:(B++45::W)[B.length+1+q]=W[q]:=by
    rw[a2P M0];simp[show B.length+1+q-B.length=q+1 by omega]
  rw[e]at f;have:=h W[q] (be j);unfold Gg at this;omega
end
section
open Go.RowKit
theorem b2p{l:List Int}(hall:∀c∈l,sg c=true):(lD l).map G=Hk l 128 0:=by
  unfold lD Hk;rw[jk,dP,lu];simp only[xA,f9]
  conv=>rhs;rw[<-List.map_id (l.filter λc=>decide (c<128))]
  refine jJ λc a=>?_;have Y:=a3J.mp a;have I:=(sG.mp (hall c Y.1)).1;have h3:=of_decide_eq_true Y.2;exact Xn M0
theorem vg{l:List Int}(hall:∀c∈l,sg c=true)(d:l.length<=255):∃W:O,Fy l=lD l++hyp (lD l)++W/\(∀y∈W,Gg y)/\(W.length:Int)<=8*(l.length-(lD l).length)/\(W.length=0->(lD l).length=l.length):=by
  have a:=zN l;have hbe:=uR l;obtain⟨W,e,f,g,h⟩:=Iv l hall d l.length 128 ⟨lD l++hyp (lD l),0,(lD l).length,72,true⟩ 0 128 M0 M0 M0 Oc (by simp only;rw[uJ,a]) Oc (by simp only;omega);refine⟨W,e,g,h,λi=>?_⟩;obtain rfl:W=[]:=az i;have I:some (Hk l 128 0)=some l:=f;rw[<-congrArg List.length (bj I),uJ,a]
theorem OV{l:List Int}(hall:∀c∈l,sg c=true)(a:l.length<=255):(Fy l).length<=3000:=by
  obtain⟨W,e,_,h,_⟩:=vg hall a;have hbe:=uR l;have hh:(hyp (lD l)).length<=1:=by unfold hyp;split <;>simp
  rw[e,ae,ae];omega
theorem a8A{l:List Int}(hall:∀c∈l,sg c=true)(e:l.length<=255):Fl (Fy l)=some l:=by
  have hm:=b2p hall;have d:=zN l;have hbe:=uR l;obtain⟨W,i,a,g,_⟩:=Iv l hall e l.length 128 ⟨lD l++hyp (lD l),0,(lD l).length,72,true⟩ 0 128 M0 M0 M0 Oc (by simp only;rw[uJ,d]) Oc (by simp only;omega);have he:Fy l=lD l++hyp (lD l)++W:=i;rw[he];simp only at a;rw[<-hm]at a;by_cases h:(lD l).length=0
  · have U:lD l=[]:=az h
    rw[U]at a⊢;have f:([]:O)++hyp []++W=W:=rfl;rw[f];unfold Fl;rw[b0I g,gc M0];exact a
  have f:lD l++hyp (lD l)++W=lD l++45::W:=by unfold hyp;rw[gc h,bB];rfl
  rw[f];unfold Fl;rw[b0J g,ge M0,gc M0,eV,List.take_left,ge,Iu]
  · rw[show(lD l++45::W).drop ((lD l).length+1)=W by rw[<-List.drop_drop,a1B];rfl]
    exact a
  · rw[aj];omega
  refine dl.mpr λy hy=>gr ?_;have Y:G y∈(lD l).map G:=List.mem_map_of_mem hy;rw[hm]at Y;unfold Hk at Y;rw[jk,dP]at Y;simp at Y;exact Y.2
end
