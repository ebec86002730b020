/- Joined texts. -/
import Derived.Test.YtajblocgpkpmeaaGreatDoorSGRdsB
set_option maxHeartbeats 40000000
namespace Go.Proofs.YtajblocgpkpmeaaGreatDoor
open Tryz
open Go.RowKit
set_option maxRecDepth 10000
variable{W2 w':H}{v0:Z}
theorem bS{P:Program}{ops:Array Oper}{Q:Exit->Act->H->Prop}{l:List Oper}{a:Act}{w:H}(h:wpList P ops Q l a w):wpList P ops Q l a w:=h
abbrev bD(v:Z)(d:O):Array Z:=#[v,S d]
theorem mS:(prog.info? 53).map (·.size)=some 2:=Rz
theorem Vp:(prog.info? 51).map (·.size)=some 1:=Rz
theorem pC(w:H):(Instr.alloc 53 true (Value.tuple #[])).run prog w=.ok (.pointer (some ⟨w.heap.size,0,none⟩)) (w.alloc (.cells (bD aI []) 53)):=Rz
theorem Tn.AO{b:Nat}{w:H}(h:Tn b w w'){base e s n:Nat}{v:Z}{xs:List Z}(i:w.ownsRow base e s v n xs)(U:b<base):w'.ownsRow base e s v n xs:=by
 refine⟨i.1,?_⟩;rcases i.2 with h0|⟨g,cap,cur,a,c,hh,d⟩
 ·exact .inl h0
 exact .inr ⟨g,cap,cur,a,c,(h.k g (bw.1 hh).1 M0).trans hh,d⟩
theorem fa.tn{b:Nat}{w:H}{base:Nat}{v:Z}{l:List eu}(c:fa w base v l)(h:Tn b w w')(U:b<base):fa w' base v l:=by
 obtain⟨d,Y,I,a⟩:=c;exact⟨d,Y,h.AO I U,λp hp=>⟨(a p hp).six,h.AO (a p hp).path U,h.AO (a p hp).words U⟩⟩
theorem fa.one'{W:H}{base:Nat}{v:Z}{l:List eu}(c:fa W base v l):v.oneCell'=true:=by
 obtain⟨a,cp,rfl⟩:=c.len;rfl
section
variable {ops:Array Oper} {rest:List Oper} {o:Oper} {a:Act} {w:H} {Q:Exit->Act->H->Prop}
theorem yy(c:o.guard=none)(x:Operand)(e:o.op=.load 53 x)(w0:H)(b:Nat)(v:Z)(d:O)(i:OB w0 b 53 (bD v d) w)(X:a.eval x=.pointer (some ⟨b,0,none⟩))
  (K:wpList prog ops Q rest (a.put o.dst (.agg (bD v d))) w):wpList prog ops Q (o::rest) a w :=
 CF c _ x e w0 b 53 (bD v d) i _ X underlying53 rfl mS K
theorem wu(c:o.guard=none)(x y:Operand)(e:o.op=.store 53 x y)(w0:H)(b:Nat){d0:O}(i:OB w0 b 53 (bD v0 d0) w)(v:Z)(d:O)(Y:v.oneCell'=true)(X:a.eval x=.pointer (some ⟨b,0,none⟩))(hy:a.eval y=.agg (bD v d))
  (K:∀ w',OB w0 b 53 (bD v d) w'->Tn b w w'->wpList prog ops Q rest (a.put o.dst undef) w'):wpList prog ops Q (o::rest) a w :=
 rh c _ x y e w0 b 53 (bD v0 d0) i 0 [v,S d] X hy (bW rfl) mS (by intro u hu;simp only[aK,cV,or_false]at hu;rcases hu with rfl|rfl;exact Y;rfl) (bD v d) rfl K
theorem AA(c:o.guard=none)(x y:Operand)(e:o.op=.store 51 x y)(w0:H)(b:Nat){d:O}(i:OB w0 b 53 (bD v0 d) w)(v:Z)(Y:v.oneCell'=true)(X:a.eval x=.pointer (some ⟨b,0,none⟩))(hy:a.eval y=v)
  (K:∀ w',OB w0 b 53 (bD v d) w'->Tn b w w'->wpList prog ops Q rest (a.put o.dst undef) w'):wpList prog ops Q (o::rest) a w :=
 dX c 51 x y e w0 b 53 (bD v0 d) i 0 v X hy (by show 0<2;decide) Vp Y (bD v d) rfl K
end
section
variable {ops:Array Oper} {rest:List Oper} {o:Oper} {a:Act} {w:H} {Q:Exit->Act->H->Prop}
theorem kA(c:o.guard=none)(x:Operand)(e:o.op=.load 9 x)(b:Nat)(T:TypeId)(cs:Array Z)(i:CB w b T cs)(k:Nat)(v:Z)(d:cs[k]? = some v)(X:a.eval x=.pointer (some ⟨b,k,none⟩))(K:wpList prog ops Q rest (a.put o.dst v) w):wpList prog ops Q (o::rest) a w :=
 ll c v (bK 9 x e b k v _ underlying9 rfl X (i.aE d)) K
theorem vA(c:o.guard=none)(x:Operand)(e:o.op=.load 4 x)(b:Nat)(T:TypeId)(cs:Array Z)(i:CB w b T cs)(k:Nat)(v:Z)(d:cs[k]? = some v)(X:a.eval x=.pointer (some ⟨b,k,none⟩))(K:wpList prog ops Q rest (a.put o.dst v) w):wpList prog ops Q (o::rest) a w :=
 ll c v (bK 4 x e b k v _ underlying4 rfl X (i.aE d)) K
theorem yx(c:o.guard=none)(x:Operand)(e:o.op=.load 22 x)(b:Nat)(T:TypeId)(cs:Array Z)(i:CB w b T cs)(k:Nat)(v:Z)(d:cs[k]? = some v)(X:a.eval x=.pointer (some ⟨b,k,none⟩))(K:wpList prog ops Q rest (a.put o.dst v) w):wpList prog ops Q (o::rest) a w :=
 ll c v (bK 22 x e b k v _ underlying22 rfl X (i.aE d)) K
theorem yw(c:o.guard=none)(x:Operand)(e:o.op=.load 51 x)(b:Nat)(T:TypeId)(cs:Array Z)(i:CB w b T cs)(k:Nat)(v:Z)(d:cs[k]? = some v)(X:a.eval x=.pointer (some ⟨b,k,none⟩))(K:wpList prog ops Q rest (a.put o.dst v) w):wpList prog ops Q (o::rest) a w :=
 ll c v (bK 51 x e b k v _ underlying51 rfl X (i.aE d)) K
end
theorem tE{f:Func}{k:Nat}(g:f.results=#[.cell k 53]){tmps:Array Z}{w0 w2:H}{b:Nat}{v:Z}{d:O}{Post:Ending->H->Prop}(h:tmps.getD k undef=.pointer (some ⟨b,0,none⟩))
  (i:OB w0 b 53 (bD v d) w2) (e:Post (.returned (.agg (bD v d))) w2) :
  bodyPost prog f Post Exit.ret {tmps:=tmps,defers:=[]} w2:=by
 have c:tmps[k]?.getD undef=.pointer (some ⟨b,0,none⟩):=by simpa using h
 have j:=i.load (P:=prog) 53 _ underlying53 rfl mS;refine bodyPost_ret (v:=.agg (bD v d)) ?_ rfl e;simp[results,g,asAddr,c,j]
def jz(w:H)(r:Rd):Ending->H->Prop:=λe w'=>∃ v,e=.returned (.agg (bD v r.delay))/\fa w' w.heap.size v r.items/\r7 w w'
theorem oZ(w:H)(bv:Z)(u:Url):∃ W,((w.alloc (.cells (ai bv u) 34)).alloc (.cells (bD aI []) 53)).alloc (.cells (bD aI []) 53)=W/\W.heap.size=w.heap.size+3 /\
  CB W w.heap.size 34 (ai bv u)/\OB w (w.heap.size+1) 53 (bD aI []) W/\OB w (w.heap.size+2) 53 (bD aI []) W:=by
 have X:=CB.new w 34 (ai bv u);have U:=(Below.refl w.heap.size w).alloc (ag _) (.cells (ai bv u) 34);obtain⟨w1,f⟩:=V (w.alloc (.cells (ai bv u) 34));have e:w1.heap.size=w.heap.size+1:=by rw[f];simp
 rw[<-f]at X U ⊢;have hy:=CB.new w1 53 (bD aI []);have c:=(Below.refl w1.heap.size w1).alloc (ag _) (.cells (bD aI []) 53);obtain⟨w2,g⟩:=V (w1.alloc (.cells (bD aI []) 53));have h:w2.heap.size=w1.heap.size+1:=by rw[g];simp
 rw[<-g]at hy c ⊢;have j:=CB.new w2 53 (bD aI []);have d:=(Below.refl w2.heap.size w2).alloc (ag _) (.cells (bD aI []) 53);have i:(w2.alloc (.cells (bD aI []) 53)).heap.size=w2.heap.size+1:=Oc;have s2:=dw U c;have s3:=dw s2 d;rw[e]at hy;rw[h,e]at j;exact⟨_,rfl,by rw[i,h,e],(X.keep c).keep d,OB.of (hy.keep d) (gQ _) s3,OB.of j M0 s3⟩
theorem Lr(d:Url)(bv:Z)(s:O)(w:H)(t:d.host.six.length=8)(l:Sl w.heap.size w bv (d.path.map S))(k:Bs d.path)(M:s.length<=1048576)(L:Env w) :
  Calls prog 55 #[.int .i64 1,.agg (ai bv d),.string (E s)] w (jz w ⟨[ef d s []],[]⟩):=by
 have p:=F<|λW (U:r7 w W)=>og d bv s W t ((l.below U).more U.size) k M (L.below U);have H8:=F t;obtain⟨z,N⟩:=V (E s);rw[<-N]at p ⊢;obtain⟨it,hit⟩:=V (ef d s []);rw[<-hit]at p ⊢;have q:=F (show it.words=[] by rw[hit];unfold ef;split <;>rfl);clear N M L t l k hit;obtain⟨W,hw,n,R,T,k3⟩:=oZ w bv d;have B:=F R;have K2:=F T;have K3:=F k3;have HW:=F hw;have K:=F n;clear R T k3 hw n;go_enter func55,ntmps55
 go_upto_region 2 with(first|((with_reducible apply bS);refine aM rfl 53 rfl _ _ (pC _) ?_))
 rw[HW.o];have j:=F (show w.heap.size+2<W.heap.size by have:=K.o;omega)
 go_upto_region 23 with(first|((with_reducible apply bS);first|refine cR r5 (.tmp 4) rfl _ bv d H8.o rfl B.o ?_|(refine qE rfl (.tmp 19) rfl A aI it v.o rfl ?_;have f:=(Below.refl w3.heap.size w3).alloc (ag _) (.cells (bC A aI it) 56);have r:=fa.one (base:=W.heap.size) w3 (A:=A) (wv:=aI) (i:=it) ⟨v.o,J.o,by rw[q.o];exact World.ownsRow_nil _ _ _ _⟩ c.o.size;obtain⟨g,u⟩:∃ g,g=w3.heap.size:=⟨_,rfl⟩;obtain⟨w4,h⟩:∃ w4,w4=w3.alloc (.cells (bC A aI it) 56):=⟨_,rfl⟩;rw[<-h,<-u]at r;rw[<-h]at f;rw[<-h,<-u];have y:=F<|(K3.o.below c.o).below f;have x:=F<|(K2.o.below c.o).below f;have C:=F r;clear h u f r)|(refine AA rfl (.tmp 21) (.tmp 20) rfl w (w.heap.size+2) y.o _ rfl rfl rfl ?_;intro w5 i5 t5;have L3:=F i5;have NA:=F<|C.o.tn t5 j.o;have L2:=F<|x.o.tn t5 M0 i5;clear i5 t5))|(go_at_call 100;refine(p.o _ K2.o.bL).m ?_;rintro e w3 ⟨A,rfl,i8,oo,U⟩;have v:=F i8;have J:=F oo;have c:=F U;clear U oo i8))
 clear x y C J c p B K2 K3
 go_wp2_with (first|((with_reducible apply bS);first|refine yy rfl (.tmp 7) rfl w (w.heap.size+2) _ [] L3.o rfl ?_|(refine wu rfl (.tmp 6) (.tmp 76) rfl w (w.heap.size+1) L2.o _ [] rfl rfl rfl ?_;intro w6 P t6;have D:=F P;have Xd:=F<|NA.o.tn t6 (a20 (gQ _) j.o);clear P t6)))
 exact tE results55 rfl D.o ⟨_,rfl,Xd.o.base (by have:=K.o;omega),D.o.bL⟩

theorem km.tn{b:Nat}{w:H}{base:Nat}{v:Z}{l:List dk}(c:km w base v l)(h:Tn b w w')(U:b<base):km w' base v l:=by
 obtain⟨e,Y,I,d⟩:=c;exact⟨e,Y,h.AO I U,λp hp=>h.AO (d p hp) U⟩
theorem On{B:Nat}{W:H}{a:Option Addr}{n c:Nat}{l:List dk}(h:WI B W (.slice a n c) l)(k:Nat)(d:k<l.length) :
  ∃b o wv,a=some ⟨b,o,none⟩/\b<B/\W.rangeAt b (o+k*8) (bA wv l[k]).toList/\Sl B W wv (l[k].words.map S):=by
 obtain⟨c',_,h⟩:=h;rcases h with⟨rfl,_⟩|⟨b,o,U,i,g⟩
 ·simp at d
 injection i with Y I h3
 obtain⟨wv,e,f⟩:=g k d;exact⟨b,o,wv,Y,U,e,f⟩
theorem OB.base{w0 W:H}{b:Nat}{T:TypeId}{cs:Array Z}{B:Nat}(i:OB w0 b T cs W)(h:Below B W W2)(U:b<B)(c:w0.heap.size<=B):OB w0 b T cs W2:=⟨(h.block b U).trans i.a,i.le,i.bL.trans (h.m c)⟩
theorem Tn.Zb{b B:Nat}{w W:H}(h:Tn b w W)(k:Below B W W2)(hB:w.heap.size<=B):Tn b w W2 :=
 ⟨am h.s k.size,λj c d=>(k.block j M0).trans (h.k j c d)⟩
theorem CX(A wv v:Z)(i:eu)(h:i.url.host.six.length=8)(ws:List O):(bC A wv i).setIfInBounds 24 v=bC A v {i with words:=ws}:=by
 obtain⟨rt,⟨aJ,usr,ib,⟨hk,hn,hf,six⟩,a1,a2,a3,a4,a5,a6,a7,a8,a9⟩,w0⟩:=i;simp only at h;obtain⟨a,b,c,d,e,f,g,i,rfl⟩:=eight h;rfl
section
variable {ops:Array Oper} {rest:List Oper} {o:Oper} {a:Act} {w:H} {Q:Exit->Act->H->Prop}
theorem a8Y(d:o.guard=none)(x:Operand)(e:o.op=.load 66 x)(b k:Nat)(wv:Z)(c:dk)(f:w.rangeAt b k (bA wv c).toList)(X:a.eval x=.pointer (some ⟨b,k,none⟩))(K:wpList prog ops Q rest (a.put o.dst (.agg (bA wv c))) w):wpList prog ops Q (o::rest) a w :=
 ll d (.agg (bA wv c)) (gU 66 x e b k (bA wv c).toList _ underlying66 rfl nP X f) K
theorem newC{W:H}(d:o.guard=none)(x y:Operand)(f:o.op=.store 66 x y)(wv:Z)(c:dk)(Y:wv.oneCell'=true)(e:W=w.alloc (.cells (bA aI C0) 66))(X:a.eval x=.pointer (some ⟨w.heap.size,0,none⟩))(hy:a.eval y=.agg (bA wv c))
  (k:∀ w',CB w' w.heap.size 66 (bA wv c)->r7 w w'->wpList prog ops Q rest (a.put o.dst undef) w'):wpList prog ops Q (o::rest) a W :=
 jG d _ x y f (bA wv c) (bA aI C0) nP rfl (all_oneCell_toArray (Ir Y)) e X hy k
theorem a4Z{W:H}(d:o.guard=none)(x y:Operand)(g:o.op=.store 56 x y)(A wv:Z)(it:eu)(e:it.url.host.six.length=8)(hp:A.oneCell'=true)(hw:wv.oneCell'=true)(f:W=w.alloc (.cells (bC aI aI I0) 56))(X:a.eval x=.pointer (some ⟨w.heap.size,0,none⟩))(hy:a.eval y=.agg (bC A wv it))
  (k:∀ w',OB w w.heap.size 56 (bC A wv it) w'->wpList prog ops Q rest (a.put o.dst undef) w'):wpList prog ops Q (o::rest) a W :=
 jG d _ x y g (bC A wv it) (bC aI aI I0) (by rw[mF e];exact mG) (by rw[mF e];rfl) (all_oneCell_toArray (Qh hp hw)) f X hy λw' c b=>k w' (OB.of c (ag _) b)
theorem US(c:o.guard=none)(x:Operand)(e:o.op=.load 56 x)(w0:H)(b:Nat)(A wv:Z)(it:eu)(d:it.url.host.six.length=8)(i:OB w0 b 56 (bC A wv it) w)(X:a.eval x=.pointer (some ⟨b,0,none⟩))(K:wpList prog ops Q rest (a.put o.dst (.agg (bC A wv it))) w):wpList prog ops Q (o::rest) a w :=
 CF c _ x e w0 b 56 (bC A wv it) i _ X underlying56 rfl (by rw[mF d];exact mG) K
end

theorem Gi(d:Url)(bv:Z)(s:O)(w:H)(h8:d.host.six.length=8)(hbv:Sl w.heap.size w bv (d.path.map S))(hbs:Bs d.path)(hs:s.length<=900000000)(hu:∀ c∈jF s,c.url.length<=1048576)(hE:Env w) :
  Calls prog 55 #[.int .i64 2,.agg (ai bv d),.string (E s)] w (jz w (mg 2 d s)):=by
 have hlim:=oV s;have EC:=F<|λ(c:dk) W (x:c∈jF s) (U:r7 w W)=>og d bv c.url W h8 ((hbv.below U).more U.size) hbs (hu c x) (hE.below U);have ji:=F<|λW (U:r7 w W)=>AV s W M0 (hE.below U);have TC:=F<|λ(c:dk) (x:c∈jF s)=>(show c.words.length<=1024000000 by have:=(hlim.2 c x).2;omega);have H8:=F h8;obtain⟨z,hz⟩:=V (E s);rw[<-hz]at ji ⊢;obtain⟨f,hf⟩:∃ f:dk->eu,f=λc=>ef d c.url c.words:=⟨_,rfl⟩;obtain⟨l,hl⟩:=V (jF s);have hR:mg 2 d s=⟨l.map f,[]⟩:=by rw[hf,hl];rfl
 rw[hR];have hln:l.length<=900000000:=by rw[hl];exact am hlim.1 hs
 have HF:=F<|λc=>(show f c={ef d c.url []with words:=c.words} by rw[hf];show ef d c.url c.words=_;unfold ef;cases kF d c.url <;>rfl);have HFW:=F<|λc:dk=>(show(ef d c.url []).words=[] by unfold ef;split <;>rfl);rw[<-hl]at EC ji TC;obtain⟨N,hN⟩:=V (l.length);have HN:=F hN;rw[<-hN]at hln;clear hz hs hu hE h8 hbv hbs hR hf hl hlim hN;obtain⟨W,hw,hsz,k1,k2,k3⟩:=oZ w bv d;have K1:=F k1;have K2:=F k2;have K3:=F k3;have HW:=F hw;have eM:=F hsz;clear k1 k2 k3 hw hsz;go_enter func55,ntmps55
 go_upto_region 2 with(first|((with_reducible apply bS);refine aM rfl 53 rfl _ _ (pC _) ?_))
 rw[HW.o]
 go_upto_region 7 with(first|(go_at_call 23;refine(ji.o _ K2.o.bL).m ?_;rintro e w3 ⟨v,rfl,cr,U⟩;obtain⟨av,cp,rfl⟩:=cr.len;rw[<-HN.o]at cr ⊢;have CR:=F cr;have h:=F U;clear cr U))
 have g:=F (show w.heap.size+2<W.heap.size by have:=eM.o;omega);have C1:=F<|K1.o.keep h.o;have C2:=F<|K2.o.below h.o;have C3:=F<|K3.o.below h.o;have S2:=F h.o.size;have hs3:=h.o.size;clear h K1 K2 K3 HW ji
 go_loopw [9,10,27] (λ_ _ iv wr=>∃ (k:Nat) (v2:Z),k<=N/\iv=.int .i64 k/\Hid (OB w (w.heap.size+2) 53 (bD v2 []) wr)/\Hid (Tn (w.heap.size+2) w3 wr)/\Hid (fa wr w3.heap.size v2 ((l.take k).map f))) (λ_ _ i _=>N-(intOf i).toNat)
 exact⟨0,aI,aL _,rfl,C3,F (Tn.refl _ _),F (fa.nil _ _)⟩
 obtain⟨k,v2,hk,rfl,L,u,IR⟩:=hrel;by_cases hkN:k<N
 ·have q:k<l.length:=by have:=HN.o;omega
  obtain⟨c,x⟩:=V (l[k]);have M:=F (show c∈l by rw[x];exact be q);have htk:l.take (k+1)=l.take k++[c]:=by rw[x,List.take_add_one,aG q];rfl
  have uh:=F htk;have hca:=(CR.o.tn u.o g.o).a3r (by rw[<-HN.o];exact am hln P8);obtain⟨cb,co,wv,hav,hcb,J,r⟩:=On hca k q;rw[<-x]at J r;have a9m:=hav;subst hav;have dI:=F J;have P:=F r;have HWO:=F<|rq r;have D2:=F<|OB.of (u.o.cb C2.o.cb M0) C2.o.le L.o.bL;have D1:=F<|u.o.cb C1.o M0;have HSR:=F u.o.s;have n:=F<|λW U=>EC.o c W M.o U;clear x htk hca J r a9m q
  go_upto_region 9 with(first|((with_reducible apply bS);refine a8Y rfl (.tmp 29) rfl cb (co+k*8) wv c dI.o rfl ?_;refine aM rfl 66 rfl _ _ (Kh _) ?_;refine newC rfl (.tmp 9) (.tmp 30) rfl wv c HWO.o rfl rfl rfl ?_;intro w4 c4 b4;have Q4:=F c4;have t:=F b4;clear c4 b4))
  have E1:=F<|D1.o.keep t.o;have E2:=F<|D2.o.below t.o;have a2A:=F<|(P.o.below t.o).more t.o.size;have E3:=F<|L.o.below t.o;have TN4:=F<|u.o.below t.o;have Kf:=F<|IR.o.below t.o;have SQ4:=F (show wr.heap.size<w4.heap.size from Q4.o.lt);obtain⟨q4,C⟩:=V (wr.heap.size);have HQ4:=F (show w3.heap.size<=q4 by rw[C];exact u.o.s);rw[<-C]at Q4 SQ4 ⊢;clear dI P D1 D2 L u IR t C HSR
  go_upto_region 10 with(first|((with_reducible apply bS);first|refine cR r5 (.tmp 4) rfl _ bv d H8.o rfl E1.o ?_|refine kA rfl (.tmp 32) rfl q4 66 (bA wv c) Q4.o 0 (S c.url) rfl rfl ?_|(refine aM rfl 56 rfl _ _ (Ia _) ?_;refine a4Z rfl (.tmp 10) (.tmp 34) rfl A aI (ef d c.url []) I8.o (bm OO.o) rfl rfl rfl rfl ?_;intro w6 i6;have R:=F i6;clear i6))|(go_at_call 100;refine(n.o _ E2.o.bL).m ?_;rintro e w5 ⟨A,rfl,i8,oo,U⟩;have I8:=F i8;have OO:=F oo;have j:=F U;clear U oo i8))
  have B6:=F<|R.o.bL;have F1:=F<|E1.o.keep j.o;have F2:=F<|E2.o.below j.o;have F3:=F<|E3.o.below j.o;have Q6:=F<|(Q4.o.keep j.o).keep B6.o;have TN5:=F<|TN4.o.below j.o;have NA:=F<|Kf.o.below j.o;have W9:=F<|(((a2A.o.below j.o).more j.o.size).below B6.o).more B6.o.size;obtain⟨q6,D⟩:=V (w5.heap.size)
  have y:=F (show q6<w6.heap.size/\w3.heap.size<=w4.heap.size/\w3.heap.size<=w6.heap.size by
   have Y:=R.o.lt;have I:=j.o.size;have h3:=HQ4.o;have h4:=SQ4.o;rw[D];omega)
  rw[<-D]at R ⊢;clear E1 E2 E3 Q4 TN4 Kf a2A D n B6 j
  go_upto_region 11 with(first|((with_reducible apply bS);first|refine yx rfl (.tmp 35) rfl q4 66 (bA wv c) Q6.o 1 wv rfl rfl ?_|(refine dX rfl 22 (.tmp 38) (.tmp 37) rfl w5 q6 56 (bC A aI (ef d c.url [])) I7.o 24 K rfl rfl (by rw[mF I8.o];decide) dC (bm R7.o) (bC A K {ef d c.url []with words:=c.words}) (CX A aI K (ef d c.url []) I8.o c.words) ?_;intro w8 i8 t8;have p:=F i8;have R8:=F<|t8.row R7.o y.o.1;clear i8 t8))|(go_at_call 101;refine(fQ c.words wv _ W9.o (TC.o c M.o)).m ?_;rintro e w7 ⟨K,rfl,oo,U⟩;have R7:=F<|eE oo;have I7:=F<|R.o.below U;clear oo U))
  have G1:=F<|F1.o.keep p.o.bL;have G2:=F<|F2.o.below p.o.bL;have G3:=F<|F3.o.below p.o.bL;have B:=F<|TN5.o.below p.o.bL;have TQ:=F<|NA.o.below p.o.bL;have T:=F<|own_below' OO.o p.o.bL;obtain⟨it,hit⟩:=V (f c);have n:=F hit;rw[HF.o]at hit;have H6:=F (show it.url.host.six.length=8 by rw[hit];exact I8.o);have IP:=F (show mZ w8 w3.heap.size ((A,K),it)from⟨H6.o,by rw[hit];exact il T.o y.o.2.1,by rw[hit];exact il R8.o y.o.2.2⟩);rw[<-hit]at p;have TB:=F (show((l.take k).map f).length+1<=1000000000 by rw[ay,aD];omega);have S38:=F B.o.s;clear F1 F2 F3 Q6 TN5 NA W9 OO T R7 R8 R I7 hit
  go_upto_region 12 with(first|((with_reducible apply bS);first|refine yw rfl (.tmp 39) rfl (w.heap.size+2) 53 (bD v2 []) G3.o.cb 0 v2 rfl rfl ?_|(refine US rfl (.tmp 10) rfl w5 q6 A K it H6.o p.o rfl ?_;refine qE rfl (.tmp 41) rfl A K it H6.o rfl ?_;refine b89 rfl (.tmp 40) (.tmp 42) rfl w3.heap.size rfl TQ.o IP.o rfl TB.o S38.o ?_;intro v9 w9 ir9 b9;have TR:=F ir9;have B9:=F b9;have H3:=F<|G3.o.base b9 (aN g.o S2.o) (by have:=g.o;have:=S2.o;omega);clear ir9 b9)|(refine AA rfl (.tmp 44) (.tmp 43) rfl w (w.heap.size+2) H3.o v9 (fa.one' TR.o) rfl rfl ?_;intro xr qW t10;have L10:=F qW;have Y0:=F t10;clear qW t10)))
  have a8w:=F<|(B.o.Zb B9.o (ag _)).trans Y0.o;have YN:=F<|TR.o.tn Y0.o (aN g.o S2.o);have HMP:=F (show(l.take k).map f++[it]=(l.take (k+1)).map f by rw[uh.o,eY,n.o];rfl);clear G1 G2 G3 B TQ p IP B9 TR H3 Y0;go_wp2_with fail;go_roundw
  exact⟨k+1,v9,M0,by go_num,L10,a8w,by rw[<-HMP.o];exact YN⟩
  simp[intOf];omega
 obtain rfl:k=N:=M0;have D2:=F<|OB.of (u.o.cb C2.o.cb M0) C2.o.le L.o.bL;have zF:=F (show l.take k=l by rw[HN.o];exact di)
 go_wp2_with (first|((with_reducible apply bS);first|refine yy rfl (.tmp 7) rfl w (w.heap.size+2) _ [] L.o rfl ?_|(refine wu rfl (.tmp 6) (.tmp 76) rfl w (w.heap.size+1) D2.o _ [] (fa.one' IR.o) rfl rfl ?_;intro w6 i6 t6;have L6:=F i6;have Xd:=F<|IR.o.tn t6 (by have:=g.o;omega);clear i6 t6)))
 exact tE results55 rfl L6.o ⟨_,rfl,by rw[<-zF.o];exact Xd.o.base (by have:=g.o;omega),L6.o.bL⟩
