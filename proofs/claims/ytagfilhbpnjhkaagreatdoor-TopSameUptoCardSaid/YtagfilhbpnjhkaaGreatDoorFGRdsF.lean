import Derived.Test.YtagfilhbpnjhkaaGreatDoorFGRdsB
import Derived.Test.YtagfilhbpnjhkaaGreatDoorFGRfrD
set_option maxRecDepth 10000
set_option maxHeartbeats 0
namespace Go.Proofs.Q
open Tryz Go.RowKit
variable{W2 w':H}{d0:O}{v0:Z}
theorem bS{P:Program}{ops:Array Oper}{Q:Exit->Act->H->Prop}{l:List Oper}{a:Act}{w:H}(h:wpList P ops Q l a w):wpList P ops Q l a w:=h
abbrev bD(v:Z)(d:O):Array Z:=#[v,S d]
theorem mS:(prog.info? 45).map (·.size)=some 2:=Rz
theorem Vp:(prog.info? 43).map (·.size)=some 1:=Rz
theorem pC(w:H):(Instr.alloc 45 true (Value.tuple #[])).run prog w=.ok (.pointer (some ⟨w.heap.size,0,none⟩)) (w.alloc (.cells (bD aI []) 45)):=Rz
theorem Tn.AO{b:Nat}{w:H}(h:Tn b w w'){base e s n:Nat}{v:Z}{xs:List Z}(i:w.ownsRow base e s v n xs)(U:b<base):w'.ownsRow base e s v n xs:=by
 refine⟨i.1,?_⟩;rcases i.2 with c|⟨g,cap,cur,a,d,hh,f⟩
 ·exact .inl c
 exact .inr ⟨g,cap,cur,a,d,(h.k g (bw.1 hh).1 M0).trans hh,f⟩
theorem fa.tn{b:Nat}{w:H}{base:Nat}{v:Z}{l:List eu}(c:fa w base v l)(h:Tn b w w')(U:b<base):fa w' base v l:=by
 obtain⟨d,Y,I,a⟩:=c;exact⟨d,Y,h.AO I U,λp hp=>⟨(a p hp).six,h.AO (a p hp).path U,h.AO (a p hp).words U⟩⟩
theorem fa.one'{W:H}{base:Nat}{v:Z}{l:List eu}(c:fa W base v l):v.oneCell'=true:=by
 obtain⟨a,cp,rfl⟩:=c.len;rfl
section
variable {ops:Array Oper} {rest:List Oper} {o:Oper} {a:Act} {w:H} {Q:Exit->Act->H->Prop}
theorem yy(c:o.guard=none)(x:Operand)(e:o.op=.load 45 x)(w0:H)(b:Nat)(v:Z)(d:O)(i:OB w0 b 45 (bD v d) w)(X:a.eval x=.pointer (some ⟨b,0,none⟩))
  (K:wpList prog ops Q rest (a.put o.dst (.agg (bD v d))) w):wpList prog ops Q (o::rest) a w :=
 CF c _ x e w0 b 45 (bD v d) i _ X underlying45 rfl mS K
theorem wu(c:o.guard=none)(x y:Operand)(e:o.op=.store 45 x y)(w0:H)(b:Nat)(i:OB w0 b 45 (bD v0 d0) w)(v:Z)(d:O)(Y:v.oneCell'=true)(X:a.eval x=.pointer (some ⟨b,0,none⟩))(hy:a.eval y=.agg (bD v d))
  (K:∀w',OB w0 b 45 (bD v d) w'->Tn b w w'->wpList prog ops Q rest (a.put o.dst undef) w'):wpList prog ops Q (o::rest) a w :=
 rh c _ x y e w0 b 45 (bD v0 d0) i 0 [v,S d] X hy (bW rfl) mS (by intro u hu;simp only[aK,cV,or_false]at hu;rcases hu with rfl|rfl;exact Y;rfl) (bD v d) rfl K
theorem AA(c:o.guard=none)(x y:Operand)(e:o.op=.store 43 x y)(w0:H)(b:Nat){d:O}(i:OB w0 b 45 (bD v0 d) w)(v:Z)(Y:v.oneCell'=true)(X:a.eval x=.pointer (some ⟨b,0,none⟩))(hy:a.eval y=v)
  (K:∀w',OB w0 b 45 (bD v d) w'->Tn b w w'->wpList prog ops Q rest (a.put o.dst undef) w'):wpList prog ops Q (o::rest) a w :=
 dX c 43 x y e w0 b 45 (bD v0 d) i 0 v X hy (by show 0<2;decide) Vp Y (bD v d) rfl K
end
section
variable {ops:Array Oper} {rest:List Oper} {o:Oper} {a:Act} {w:H} {Q:Exit->Act->H->Prop}
theorem Rx(c:o.guard=none)(x y:Operand)(e:o.op=.store 9 x y)(w0:H)(b:Nat){v:Z}(i:OB w0 b 45 (bD v d0) w)(d:O)(X:a.eval x=.pointer (some ⟨b,1,none⟩))(hy:a.eval y=S d)
  (K:∀w',OB w0 b 45 (bD v d) w'->Tn b w w'->wpList prog ops Q rest (a.put o.dst undef) w'):wpList prog ops Q (o::rest) a w :=
 dX c 9 x y e w0 b 45 (bD v d0) i 1 (S d) X hy (by show 1<2;decide) bY.1 rfl (bD v d) rfl K
theorem kA(c:o.guard=none)(x:Operand)(e:o.op=.load 9 x)(b:Nat)(T:TypeId)(cs:Array Z)(i:CB w b T cs)(k:Nat)(v:Z)(d:cs[k]?= some v)(X:a.eval x=.pointer (some ⟨b,k,none⟩))(K:wpList prog ops Q rest (a.put o.dst v) w):wpList prog ops Q (o::rest) a w :=
 ll c v (bK 9 x e b k v _ underlying9 rfl X (i.aE d)) K
theorem vA(c:o.guard=none)(x:Operand)(e:o.op=.load 4 x)(b:Nat)(T:TypeId)(cs:Array Z)(i:CB w b T cs)(k:Nat)(v:Z)(d:cs[k]?= some v)(X:a.eval x=.pointer (some ⟨b,k,none⟩))(K:wpList prog ops Q rest (a.put o.dst v) w):wpList prog ops Q (o::rest) a w :=
 ll c v (bK 4 x e b k v _ underlying4 rfl X (i.aE d)) K
theorem yx(c:o.guard=none)(x:Operand)(e:o.op=.load 22 x)(b:Nat)(T:TypeId)(cs:Array Z)(i:CB w b T cs)(k:Nat)(v:Z)(d:cs[k]?= some v)(X:a.eval x=.pointer (some ⟨b,k,none⟩))(K:wpList prog ops Q rest (a.put o.dst v) w):wpList prog ops Q (o::rest) a w :=
 ll c v (bK 22 x e b k v _ underlying22 rfl X (i.aE d)) K
theorem yw(c:o.guard=none)(x:Operand)(e:o.op=.load 43 x)(b:Nat)(T:TypeId)(cs:Array Z)(i:CB w b T cs)(k:Nat)(v:Z)(d:cs[k]?= some v)(X:a.eval x=.pointer (some ⟨b,k,none⟩))(K:wpList prog ops Q rest (a.put o.dst v) w):wpList prog ops Q (o::rest) a w :=
 ll c v (bK 43 x e b k v _ underlying43 rfl X (i.aE d)) K
end
theorem tE{f:Func}{k:Nat}(h:f.results=#[.cell k 45]){tmps:Array Z}{w0 e:H}{b:Nat}{v:Z}{d:O}{Post:Ending->H->Prop}(j:tmps.getD k undef=.pointer (some ⟨b,0,none⟩))
  (i:OB w0 b 45 (bD v d) e) (g:Post (.returned (.agg (bD v d))) e) :
  bodyPost prog f Post Exit.ret {tmps:=tmps,defers:=[]} e:=by
 have c:tmps[k]?.getD undef=.pointer (some ⟨b,0,none⟩):=by simpa using j
 have l:=i.load (P:=prog) 45 _ underlying45 rfl mS;refine bodyPost_ret (v:=.agg (bD v d)) ?_ rfl g;simp[results,h,asAddr,c,l]
def jz(w:H)(r:Rd):Ending->H->Prop:=λe w'=>∃v,e=.returned (.agg (bD v r.delay))/\fa w' w.heap.size v r.items/\r7 w w'
theorem oZ(w:H)(bv:Z)(u:Url):∃W,((w.alloc (.cells (ai bv u) 34)).alloc (.cells (bD aI []) 45)).alloc (.cells (bD aI []) 45)=W/\W.heap.size=w.heap.size+3 /\
  CB W w.heap.size 34 (ai bv u)/\OB w (w.heap.size+1) 45 (bD aI []) W/\OB w (w.heap.size+2) 45 (bD aI []) W:=by
 have X:=CB.new w 34 (ai bv u);have U:=(gT w.heap.size w).alloc (ag _) (.cells (ai bv u) 34);obtain⟨f,h⟩:=V (w.alloc (.cells (ai bv u) 34));have e:f.heap.size=w.heap.size+1:=by rw[h];simp
 rw[<-h]at X U⊢;have hy:=CB.new f 45 (bD aI []);have c:=(gT f.heap.size f).alloc (ag _) (.cells (bD aI []) 45);obtain⟨g,i⟩:=V (f.alloc (.cells (bD aI []) 45));have j:g.heap.size=f.heap.size+1:=by rw[i];simp
 rw[<-i]at hy c⊢;have l:=CB.new g 45 (bD aI []);have d:=(gT g.heap.size g).alloc (ag _) (.cells (bD aI []) 45);have k:(g.alloc (.cells (bD aI []) 45)).heap.size=g.heap.size+1:=Oc;have s2:=dw U c;have s3:=dw s2 d;rw[e]at hy;rw[j,e]at l;exact⟨_,rfl,by rw[k,j,e],(X.keep c).keep d,OB.of (hy.keep d) (gQ _) s3,OB.of l M0 s3⟩
theorem Lr(d:Url)(bv:Z)(s:O)(w:H)(u:d.host.six.length=8)(l:Sl w.heap.size w bv (d.path.map S))(k:Bs d.path)(N:s.length<=1048576)(M:Env w) :
  Calls prog 25 #[.int .i64 1,.agg (ai bv d),.string (E s)] w (jz w ⟨[ef d s []],[]⟩):=by
 have q:=F<|λW (U:r7 w W)=>og d bv s W u ((l.below U).more U.size) k N (M.below U);have H8:=F u;obtain⟨z,P⟩:=V (E s);rw[<-P]at q⊢;obtain⟨it,hit⟩:=V (ef d s []);rw[<-hit]at q⊢;have r:=F (show it.words=[] by rw[hit];unfold ef;split <;>rfl);clear P N M u l k hit;obtain⟨W,hw,n,T,k2,k3⟩:=oZ w bv d;obtain⟨C,K2,K3,HW,L⟩:=ec T k2 k3 hw n;clear T k2 k3 hw n;go_enter func25,ntmps25
 go_upto_region 2 with((with_reducible apply bS);refine aM rfl 45 rfl _ _ (pC _) ?_)
 rw[HW.o];have j:=F (show w.heap.size+2<W.heap.size by have:=L.o;omega)
 go_upto_region 23 with(first|((with_reducible apply bS);first|refine cR r5 4 rfl _ bv d H8.o rfl C.o ?_|(refine qE rfl 19 rfl A aI it x.o rfl ?_;have f:=(gT p.heap.size p).alloc (ag _) (.cells (bC A aI it) 48);have t:=fa.one (base:=W.heap.size) p (A:=A) (wv:=aI) (i:=it) ⟨x.o,K.o,by rw[r.o];exact iZ _ _ _ _⟩ c.o.size;obtain⟨g,v,w4,h⟩:=ac (p.heap.size) (p.alloc (.cells (bC A aI it) 48));rw[<-h,<-v]at t;rw[<-h]at f;rw[<-h,<-v];obtain⟨B,y,D⟩:=cZ ((K3.o.below c.o).below f) ((K2.o.below c.o).below f) t;clear h v f t)|(refine AA rfl 21 20 rfl w (w.heap.size+2) B.o _ rfl rfl rfl ?_;intro w5 i5 t5;obtain⟨L3,NA,L2⟩:=cZ i5 (D.o.tn t5 j.o) (y.o.tn t5 M0 i5);clear i5 t5))|(go_at_call 52;refine(q.o _ K2.o.bL).m ?_;rintro e p⟨A,rfl,i8,oo,U⟩;obtain⟨x,K,c⟩:=cZ i8 oo U;clear U oo i8))
 clear y B D K c q C K2 K3
 go_wp2_with((with_reducible apply bS);first|refine yy rfl 7 rfl w (w.heap.size+2) _ [] L3.o rfl ?_|(refine wu rfl 6 76 rfl w (w.heap.size+1) L2.o _ [] rfl rfl rfl ?_;intro w6 R t6;have J:=F R;have Xd:=F<|NA.o.tn t6 (Nat.lt_of_le_of_lt (gQ _) j.o);clear R t6))
 exact tE results25 rfl J.o ⟨_,rfl,Xd.o.base (by have:=L.o;omega),J.o.bL⟩
theorem CZ(k:Int)(Y:¬k=1)(I:¬k=2)(j:¬k=3)(e:Url)(bv:Z)(z:ByteArray)(w:H) :
  Calls prog 25 #[.int .i64 k,.agg (ai bv e),.string z] w (jz w ⟨[],[]⟩):=by
 have q1:(k==1)=false:=by simp[Y]
 have q2:(k==2)=false:=by simp[I]
 have q3:(k==3)=false:=by simp[j]
 obtain⟨W,hw,c,l,g,h⟩:=oZ w bv e;obtain⟨K2,K3,i,eM⟩:=dT g h hw c;clear l g h hw c;go_enter func25,ntmps25
 go_upto_region 2 with((with_reducible apply bS);refine aM rfl 45 rfl _ _ (pC _) ?_)
 rw[i.o]
 go_wp2_with((with_reducible apply bS);first|refine yy rfl 7 rfl w (w.heap.size+2) _ [] K3.o rfl ?_|(refine wu rfl 6 76 rfl w (w.heap.size+1) K2.o _ [] rfl rfl rfl ?_;intro w6 f t6;have d:=F f;clear f t6))
 exact tE results25 rfl d.o ⟨_,rfl,fa.nil _ _,d.o.bL⟩
theorem Lq(s:O)(j:Dx s=none)(d:Url)(bv:Z)(w:H)(n:d.host.six.length=8)(f:Sl w.heap.size w bv (d.path.map S))(i:Bs d.path)(u:s.length<=1000000)(p:Env w) :
  Calls prog 25 #[.int .i64 3,.agg (ai bv d),.string (E s)] w (jz w (mg 3 d s)):=by
 obtain⟨J,l,xl,H8⟩:=dT (λr W (j:Dx s=some r) (U:r7 w W)=>og d bv r.url W n ((f.below U).more U.size) i (am (sD j) M0) (p.below U)) (λW (U:r7 w W)=>p8 s W u (p.below U)) (λW (U:r7 w W)=>fQ d.path bv W ((f.below U).more U.size) (by have:=i.1;omega)) n
 have TE:=F (show bv.oneCell'=true by
  obtain⟨c,_,_,h⟩:=f;rcases h with⟨_,a,rfl⟩|⟨b,o,_,rfl,_⟩ <;>rfl)
 obtain⟨z,v⟩:=V (E s);rw[<-v]at l⊢;obtain⟨R,q⟩:=V (mg 3 d s);rw[<-q]
 have g:R=match Dx s with
  |none=>⟨[],[]⟩
  |some r=>⟨[if r.has=true then ef d r.url []else⟨true,d,[]⟩],r.delay⟩:=q
 clear v u p n f i q;obtain⟨W,hw,k,B,C,D⟩:=oZ w bv d;obtain⟨K1,K2,K3,L,T⟩:=ec B C D hw k;clear B C D hw k;have HB2:=F (show w.heap.size+2<W.heap.size by have:=T.o;omega);rw[j]at g;have y:=fo (R=⟨[],[]⟩) g;have K:=F<|λW U=>(show bF prog 55 #[.string z] W (.tuple #[.agg (cJ R0),.bool false])from by have h:=l.o W U;rw[j]at h;exact h);clear j g J xl l;go_enter func25,ntmps25
 go_upto_region 2 with((with_reducible apply bS);refine aM rfl 45 rfl _ _ (pC _) ?_)
 rw[L.o]
 go_wp2_with(first|(go_at_call 55;refine(K.o _ K2.o.bL).k λw3 U=>?_;have M:=F<|K2.o.below U.o;have N:=F<|K3.o.below U.o;clear U)|((with_reducible apply bS);first|refine aM rfl 87 rfl _ _ (NG _) ?_|(refine newR rfl 11 51 rfl R0 rfl rfl rfl ?_;intro w4 i4;have P:=F<|M.o.below i4.bL;have L3:=F<|N.o.below i4.bL;clear i4)|refine yy rfl 7 rfl w (w.heap.size+2) _ [] L3.o rfl ?_|(refine wu rfl 6 55 rfl w (w.heap.size+1) P.o _ [] rfl rfl rfl ?_;intro w6 x t6;have t:=F x;clear x t6)))
 exact tE results25 rfl t.o ⟨_,by rw[y.o],by rw[y.o];exact fa.nil _ _,t.o.bL⟩

theorem Ls(s dl n:O)(t:Dx s=some ⟨dl,true,n⟩)(d:Url)(bv:Z)(w:H)(L:d.host.six.length=8)(k:Sl w.heap.size w bv (d.path.map S))(q:Bs d.path)(hs:s.length<=1000000)(M:Env w) :
  Calls prog 25 #[.int .i64 3,.agg (ai bv d),.string (E s)] w (jz w (mg 3 d s)):=by
 obtain⟨EC,C,xl,H8⟩:=dT (λr W (t:Dx s=some r) (U:r7 w W)=>og d bv r.url W L ((k.below U).more U.size) q (am (sD t) M0) (M.below U)) (λW (U:r7 w W)=>p8 s W hs (M.below U)) (λW (U:r7 w W)=>fQ d.path bv W ((k.below U).more U.size) (by have:=q.1;omega)) L
 have TE:=F (show bv.oneCell'=true by
  obtain⟨c,_,_,h⟩:=k;rcases h with⟨_,a,rfl⟩|⟨b,o,_,rfl,_⟩ <;>rfl)
 obtain⟨z,hz⟩:=V (E s);rw[<-hz]at C⊢;obtain⟨R,N⟩:=V (mg 3 d s);rw[<-N]
 have p:R=match Dx s with
  |none=>⟨[],[]⟩
  |some r=>⟨[if r.has=true then ef d r.url []else⟨true,d,[]⟩],r.delay⟩:=N
 clear hz hs M L k q N;obtain⟨W,hw,v,k1,k2,k3⟩:=oZ w bv d;obtain⟨K1,K2,K3,HW,eM⟩:=ec k1 k2 k3 hw v;clear k1 k2 k3 hw v;have y:=F (show w.heap.size+2<W.heap.size by have:=eM.o;omega);rw[t]at p;have HP:=F<|λW U=>(show bF prog 55 #[.string z] W (.tuple #[.agg (cJ ⟨dl,true,n⟩),.bool true])from by have h:=C.o W U;rw[t]at h;exact h);have HI:=F<|λW U=>EC.o _ W t U;obtain⟨it,hit⟩:=V (ef d n []);obtain⟨iT,B,u⟩:=cZ (show R=⟨[it],dl⟩from by rw[hit];exact p) (show it.words=[] by rw[hit];unfold ef;split <;>rfl) (λW U=>(show Calls prog 52 #[.agg (ai bv d),S n] W (a2I W it)from by rw[hit];exact HI.o W U));clear t p EC xl C hit HI;go_enter func25,ntmps25
 go_upto_region 2 with((with_reducible apply bS);refine aM rfl 45 rfl _ _ (pC _) ?_)
 rw[HW.o]
 go_upto_region 19 with(first|(go_at_call 55;refine(HP.o _ K2.o.bL).k λw3 f=>?_)|((with_reducible apply bS);first|refine aM rfl 87 rfl _ _ (NG _) ?_|(refine newR rfl 11 51 rfl ⟨dl,true,n⟩ rfl rfl rfl ?_;intro w4 i4;obtain⟨I4,L2,L3,M1⟩:=dT i4 ((K2.o.below f.o).below i4.bL) ((K3.o.below f.o).below i4.bL) ((K1.o.keep f.o).keep i4.bL);clear i4)|refine kA rfl 56 rfl w3.heap.size 87 (cJ ⟨dl,true,n⟩) I4.o.cb 0 (S dl) rfl rfl ?_|(refine Rx rfl 58 57 rfl w (w.heap.size+2) L3.o dl rfl rfl ?_;intro w5 i5 t5;obtain⟨J,D,N1,N4⟩:=dT i5 (L2.o.tn t5 M0 i5) (t5.cb M1.o M0) (t5.cb I4.o.cb (by have:=y.o;have:=f.o.size;omega));clear i5 t5)|refine vA rfl 59 rfl w3.heap.size 87 (cJ ⟨dl,true,n⟩) N4.o 1 (.bool true) rfl rfl ?_))
 go_upto_region 23 with(first|((with_reducible apply bS);first|refine cR r5 4 rfl _ bv d H8.o rfl N1.o ?_|refine kA rfl 62 rfl w3.heap.size 87 (cJ ⟨dl,true,n⟩) N4.o 2 (S n) rfl rfl ?_|(refine qE rfl 64 rfl A aI it I8.o rfl ?_;have j:=(gT x.heap.size x).alloc (ag _) (.cells (bC A aI it) 48);have K:=fa.one (base:=w5.heap.size) x (A:=A) (wv:=aI) (i:=it) ⟨I8.o,OO.o,by rw[B.o];exact iZ _ _ _ _⟩ T.o.size;obtain⟨g,P,w7,l⟩:=ac (x.heap.size) (x.alloc (.cells (bC A aI it) 48));rw[<-l,<-P]at K;rw[<-l]at j;rw[<-l,<-P];obtain⟨J3,J2,Kf⟩:=cZ ((J.o.below T.o).below j) ((D.o.below T.o).below j) K;clear l P j K)|(refine AA rfl 66 65 rfl w (w.heap.size+2) J3.o _ rfl rfl rfl ?_;intro w8 i8 t8;obtain⟨L8,TQ,L7⟩:=cZ i8 (Kf.o.tn t8 J.o.lt) (J2.o.tn t8 M0 i8);clear i8 t8))|(go_at_call 52;refine(u.o _ D.o.bL).m ?_;rintro e x⟨A,rfl,i8,oo,U⟩;obtain⟨I8,OO,T⟩:=cZ i8 oo U;clear U oo i8))
 clear u
 go_wp2_with((with_reducible apply bS);first|refine yy rfl 7 rfl w (w.heap.size+2) _ dl L8.o rfl ?_|(refine wu rfl 6 76 rfl w (w.heap.size+1) L7.o _ dl rfl rfl rfl ?_;intro w9 i9 t9;have L9:=F i9;have TR:=F<|TQ.o.tn t9 D.o.lt;clear i9 t9))
 exact tE results25 rfl L9.o ⟨_,by rw[iT.o],by rw[iT.o];exact TR.o.base J.o.bL.size,L9.o.bL⟩

theorem a02(A v:Z)(u:Url)(c:u.host.six.length=8):(ai A u).setIfInBounds 18 v=ai v u:=(fO A u c).path v u.path
theorem Gh(s dl D:O)(x:Dx s=some ⟨dl,false,D⟩)(d:Url)(bv:Z)(w:H)(h8:d.host.six.length=8)(n:Sl w.heap.size w bv (d.path.map S))(q:Bs d.path)(hs:s.length<=1000000)(hE:Env w) :
  Calls prog 25 #[.int .i64 3,.agg (ai bv d),.string (E s)] w (jz w (mg 3 d s)):=by
 obtain⟨EC,Hv,xl,k⟩:=dT (λr W (x:Dx s=some r) (U:r7 w W)=>og d bv r.url W h8 ((n.below U).more U.size) q (am (sD x) M0) (hE.below U)) (λW (U:r7 w W)=>p8 s W hs (hE.below U)) (λW (U:r7 w W)=>fQ d.path bv W ((n.below U).more U.size) (by have:=q.1;omega)) h8
 have TE:=F (show bv.oneCell'=true by
  obtain⟨c,_,_,h⟩:=n;rcases h with⟨_,a,rfl⟩|⟨b,o,_,rfl,_⟩ <;>rfl)
 obtain⟨z,hz⟩:=V (E s);rw[<-hz]at Hv⊢;obtain⟨R,hR⟩:=V (mg 3 d s);rw[<-hR]
 have p:R=match Dx s with
  |none=>⟨[],[]⟩
  |some r=>⟨[if r.has=true then ef d r.url []else⟨true,d,[]⟩],r.delay⟩:=hR
 clear hz hs hE h8 n q hR;obtain⟨W,hw,C,k1,k2,k3⟩:=oZ w bv d;obtain⟨K1,K2,K3,HW,eM⟩:=ec k1 k2 k3 hw C;clear k1 k2 k3 hw C;have P:=F (show w.heap.size+2<W.heap.size by have:=eM.o;omega);rw[x]at p;obtain⟨HP,HI,iT,UA,Bg,zJ⟩:=ee (λW U=>(show bF prog 55 #[.string z] W (.tuple #[.agg (cJ ⟨dl,false,D⟩),.bool true])from by have h:=Hv.o W U;rw[x]at h;exact h)) (λW U=>EC.o _ W x U) (show R=⟨[⟨true,d,[]⟩],dl⟩from p) (ry bv d k.o) (λv=>a02 bv v d k.o) (show 18<(ai bv d).size from fP k.o P8);clear x p EC Hv HI;go_enter func25,ntmps25
 go_upto_region 2 with((with_reducible apply bS);refine aM rfl 45 rfl _ _ (pC _) ?_)
 rw[HW.o]
 go_upto_region 20 with(first|(go_at_call 55;refine(HP.o _ K2.o.bL).k λw3 f=>?_)|((with_reducible apply bS);first|refine aM rfl 87 rfl _ _ (NG _) ?_|(refine newR rfl 11 51 rfl ⟨dl,false,D⟩ rfl rfl rfl ?_;intro w4 i4;obtain⟨I4,L2,L3,M1⟩:=dT i4 ((K2.o.below f.o).below i4.bL) ((K3.o.below f.o).below i4.bL) ((K1.o.keep f.o).keep i4.bL);clear i4)|refine kA rfl 56 rfl w3.heap.size 87 (cJ ⟨dl,false,D⟩) I4.o.cb 0 (S dl) rfl rfl ?_|(refine Rx rfl 58 57 rfl w (w.heap.size+2) L3.o dl rfl rfl ?_;intro N i5 t5;obtain⟨L,N2,N1,N4⟩:=dT i5 (L2.o.tn t5 M0 i5) (t5.cb M1.o M0) (t5.cb I4.o.cb (by have:=P.o;have:=f.o.size;omega));clear i5 t5)|refine vA rfl 59 rfl w3.heap.size 87 (cJ ⟨dl,false,D⟩) N4.o 1 (.bool false) rfl rfl ?_))
 clear HP HW
 go_upto_region 21 with((with_reducible apply bS);refine cR r5 4 rfl _ bv d k.o rfl N1.o ?_;refine aM rfl 34 rfl _ _ (eD _) ?_;refine fL rfl 13 67 rfl bv d k.o TE.o rfl rfl rfl ?_;intro w6 c6 B;obtain⟨K,O1,O2,O3⟩:=dT (OB.of c6 (ag _) B) (N1.o.keep B) (N2.o.below B) (L.o.below B);clear c6 B)
 have u:=fo (N.heap.size<w6.heap.size/\w.heap.size+2<N.heap.size) ⟨K.o.lt,L.o.lt⟩;have y:=F L.o.bL;obtain⟨g5,HG5⟩:=ey (N.heap.size);rw[<-HG5.o]at K u⊢;clear N1 N2 L N4 I4 L2 L3 M1 f
 go_upto_region 22 with(first|((with_reducible apply bS);first|refine yx rfl 68 rfl w.heap.size 34 (ai bv d) O1.o 18 bv UA.o.path rfl ?_|(refine dX rfl 22 71 70 rfl N g5 34 (ai bv d) I7.o 18 j rfl rfl zJ.o dC (bm OO.o) (ai j d) (Bg.o j) ?_;intro J i8 t8;obtain⟨I8,OO8,Bf,Q3,Q2⟩:=ec i8 (t8.row OO.o u.o.1) (am T.o t8.s) (OB.of (t8.cb P3.o.cb (by have:=u.o.2;omega)) P3.o.le (dw y.o i8.bL)) (OB.of (t8.cb P2.o.cb (by have:=u.o.2;omega)) P2.o.le (dw y.o i8.bL));clear i8 t8))|(go_at_call 54;refine(xl.o _ O2.o.bL).m ?_;rintro e w7⟨j,rfl,oo,U⟩;obtain⟨OO,T,I7,P2,P3⟩:=ec (eE oo) U.size (K.o.below U) (O2.o.below U) (O3.o.below U);clear oo U))
 clear K I7 P2 P3 O1 O2 O3 OO xl
 go_upto_region 23 with((with_reducible apply bS);first|(refine cR r5 13 rfl _ j d k.o rfl I8.o.cb ?_;refine bR rfl 48 #[(0,.const (.bool true)),(1,.tmp 72)] rfl (.agg (bC j aI ⟨true,d,[]⟩)) #[(0,.bool true),(1,.agg (ai j d))] (by simp only[m9,dh,pz];rfl) (Xs j d k.o) ?_;refine qE rfl 73 rfl j aI ⟨true,d,[]⟩ k.o rfl ?_;have l:=(gT J.heap.size J).alloc (ag _) (.cells (bC j aI ⟨true,d,[]⟩) 48);have Qo:=fa.one (base:=w6.heap.size) J (A:=j) (wv:=aI) (i:=⟨true,d,[]⟩) ⟨k.o,OO8.o,iZ _ _ _ _⟩ Bf.o;obtain⟨g,hg,w9,M⟩:=ac (J.heap.size) (J.alloc (.cells (bC j aI ⟨true,d,[]⟩) 48));rw[<-M,<-hg]at Qo;rw[<-M]at l;rw[<-M,<-hg];obtain⟨J3,J2,Kf⟩:=cZ (Q3.o.below l) (Q2.o.below l) Qo;clear M hg l Qo)|(refine AA rfl 75 74 rfl w (w.heap.size+2) J3.o _ rfl rfl rfl ?_;intro wa ia ta;obtain⟨L8,TQ,L7⟩:=cZ ia (Kf.o.tn ta (by have:=u.o;omega)) (J2.o.tn ta M0 ia);clear ia ta))
 go_wp2_with((with_reducible apply bS);first|refine yy rfl 7 rfl w (w.heap.size+2) _ dl L8.o rfl ?_|(refine wu rfl 6 76 rfl w (w.heap.size+1) L7.o _ dl rfl rfl rfl ?_;intro wb ib tb;have L9:=F ib;have TR:=F<|TQ.o.tn tb (by have:=u.o;omega);clear ib tb))
 exact tE results25 rfl L9.o ⟨_,by rw[iT.o],by rw[iT.o];exact TR.o.base (by have:=u.o;omega),L9.o.bL⟩

theorem km.tn{b:Nat}{w:H}{base:Nat}{v:Z}{l:List dk}(c:km w base v l)(h:Tn b w w')(U:b<base):km w' base v l:=by
 obtain⟨e,Y,I,d⟩:=c;exact⟨e,Y,h.AO I U,λp hp=>h.AO (d p hp) U⟩
theorem On{B:Nat}{W:H}{a:Option Addr}{n c:Nat}{l:List dk}(h:WI B W (.slice a n c) l)(k:Nat)(d:k<l.length) :
  ∃b o wv,a=some ⟨b,o,none⟩/\b<B/\W.rangeAt b (o+k*8) (bA wv l[k]).toList/\Sl B W wv (l[k].words.map S):=by
 obtain⟨c',_,h⟩:=h;rcases h with⟨rfl,_⟩|⟨b,o,U,i,g⟩
 ·simp at d
 injection i with Y I h3
 obtain⟨wv,e,f⟩:=g k d;exact⟨b,o,wv,Y,U,e,f⟩
theorem OB.base{w0 W:H}{b:Nat}{T:TypeId}{cs:Array Z}{B:Nat}(i:OB w0 b T cs W)(h:Below B W W2)(U:b<B)(c:w0.heap.size<=B):OB w0 b T cs W2:=⟨(h.block b U).trans i.a,i.le,i.bL.trans (h.m c)⟩
theorem Tn.Zb{b B:Nat}{w W:H}(h:Tn b w W)(k:Below B W W2)(hB:w.heap.size<=B):Tn b w W2 :=
 ⟨am h.s k.size,λj c d=>(k.block j M0).trans (h.k j c d)⟩
theorem CX(A wv v:Z)(i:eu)(h:i.url.host.six.length=8)(ws:List O):(bC A wv i).setIfInBounds 24 v=bC A v {i with words:=ws}:=by
 obtain⟨rt,⟨aJ,usr,ib,⟨hk,hn,hf,six⟩,a1,a2,a3,a4,a5,a6,a7,a8,a9⟩,w0⟩:=i;simp only at h;obtain⟨a,b,c,d,e,f,g,i,rfl⟩:=eight h;rfl
section
variable {ops:Array Oper} {rest:List Oper} {o:Oper} {a:Act} {w:H} {Q:Exit->Act->H->Prop}
theorem a8Y(d:o.guard=none)(x:Operand)(e:o.op=.load 101 x)(b k:Nat)(wv:Z)(c:dk)(f:w.rangeAt b k (bA wv c).toList)(X:a.eval x=.pointer (some ⟨b,k,none⟩))(K:wpList prog ops Q rest (a.put o.dst (.agg (bA wv c))) w):wpList prog ops Q (o::rest) a w :=
 ll d (.agg (bA wv c)) (gU 101 x e b k (bA wv c).toList _ underlying101 rfl nP X f) K
theorem newC{W:H}(d:o.guard=none)(x y:Operand)(f:o.op=.store 101 x y)(wv:Z)(c:dk)(Y:wv.oneCell'=true)(e:W=w.alloc (.cells (bA aI C0) 101))(X:a.eval x=.pointer (some ⟨w.heap.size,0,none⟩))(hy:a.eval y=.agg (bA wv c))
  (k:∀w',CB w' w.heap.size 101 (bA wv c)->r7 w w'->wpList prog ops Q rest (a.put o.dst undef) w'):wpList prog ops Q (o::rest) a W :=
 jG d _ x y f (bA wv c) (bA aI C0) nP rfl (all_oneCell_toArray (Ir Y)) e X hy k
theorem a4Z{W:H}(d:o.guard=none)(x y:Operand)(g:o.op=.store 48 x y)(A wv:Z)(it:eu)(e:it.url.host.six.length=8)(hp:A.oneCell'=true)(hw:wv.oneCell'=true)(f:W=w.alloc (.cells (bC aI aI I0) 48))(X:a.eval x=.pointer (some ⟨w.heap.size,0,none⟩))(hy:a.eval y=.agg (bC A wv it))
  (k:∀w',OB w w.heap.size 48 (bC A wv it) w'->wpList prog ops Q rest (a.put o.dst undef) w'):wpList prog ops Q (o::rest) a W :=
 jG d _ x y g (bC A wv it) (bC aI aI I0) (by rw[mF e];exact mG) (by rw[mF e];rfl) (all_oneCell_toArray (Qh hp hw)) f X hy λw' c b=>k w' (OB.of c (ag _) b)
theorem US(c:o.guard=none)(x:Operand)(e:o.op=.load 48 x)(w0:H)(b:Nat)(A wv:Z)(it:eu)(d:it.url.host.six.length=8)(i:OB w0 b 48 (bC A wv it) w)(X:a.eval x=.pointer (some ⟨b,0,none⟩))(K:wpList prog ops Q rest (a.put o.dst (.agg (bC A wv it))) w):wpList prog ops Q (o::rest) a w :=
 CF c _ x e w0 b 48 (bC A wv it) i _ X underlying48 rfl (by rw[mF d];exact mG) K
end

theorem Gi(d:Url)(bv:Z)(s:O)(w:H)(h8:d.host.six.length=8)(hbv:Sl w.heap.size w bv (d.path.map S))(hbs:Bs d.path)(hs:s.length<=900000000)(hu:∀c∈jF s,c.url.length<=1048576)(hE:Env w) :
  Calls prog 25 #[.int .i64 2,.agg (ai bv d),.string (E s)] w (jz w (mg 2 d s)):=by
 have hlim:=oV s;obtain⟨EC,ji,TC,H8⟩:=dT (λ(c:dk) W (x:c∈jF s) (U:r7 w W)=>og d bv c.url W h8 ((hbv.below U).more U.size) hbs (hu c x) (hE.below U)) (λW (U:r7 w W)=>AV s W M0 (hE.below U)) (λ(c:dk) (x:c∈jF s)=>(show c.words.length<=1024000000 by have:=(hlim.2 c x).2;omega)) h8;obtain⟨z,hz⟩:=V (E s);rw[<-hz]at ji⊢;obtain⟨f,hf⟩:∃f:dk->eu,f=λc=>ef d c.url c.words:=⟨_,rfl⟩;obtain⟨l,hl⟩:=V (jF s);have hR:mg 2 d s=⟨l.map f,[]⟩:=by rw[hf,hl];rfl
 rw[hR];have hln:l.length<=900000000:=by rw[hl];exact am hlim.1 hs
 have HF:=F<|λc=>(show f c={ef d c.url []with words:=c.words} by rw[hf];show ef d c.url c.words=_;unfold ef;cases kF d c.url <;>rfl);have HFW:=F<|λc:dk=>(show(ef d c.url []).words=[] by unfold ef;split <;>rfl);rw[<-hl]at EC ji TC;obtain⟨N,hN⟩:=V (l.length);have HN:=F hN;rw[<-hN]at hln;clear hz hs hu hE h8 hbv hbs hR hf hl hlim hN;obtain⟨W,hw,hsz,k1,k2,k3⟩:=oZ w bv d;obtain⟨K1,K2,K3,HW,eM⟩:=ec k1 k2 k3 hw hsz;clear k1 k2 k3 hw hsz;go_enter func25,ntmps25
 go_upto_region 2 with((with_reducible apply bS);refine aM rfl 45 rfl _ _ (pC _) ?_)
 rw[HW.o]
 go_upto_region 7 with(go_at_call 53;refine(ji.o _ K2.o.bL).m ?_;rintro e K⟨v,rfl,cr,U⟩;obtain⟨av,cp,rfl⟩:=cr.len;rw[<-HN.o]at cr⊢;have CR:=F cr;have h:=F U;clear cr U)
 obtain⟨g,C1,C2,C3,S2⟩:=ec (show w.heap.size+2<W.heap.size by have:=eM.o;omega) (K1.o.keep h.o) (K2.o.below h.o) (K3.o.below h.o) h.o.size;have hs3:=h.o.size;clear h K1 K2 K3 HW ji
 go_loopw [9,10,27] (λ_ _ iv wr=>∃(k:Nat) (v2:Z),k<=N/\iv=.int .i64 k/\Hid (OB w (w.heap.size+2) 45 (bD v2 []) wr)/\Hid (Tn (w.heap.size+2) K wr)/\Hid (fa wr K.heap.size v2 ((l.take k).map f))) (λ_ _ i _=>N-(intOf i).toNat)
 exact⟨0,aI,aL _,rfl,C3,F (Tn.refl _ _),F (fa.nil _ _)⟩
 obtain⟨k,v2,hk,rfl,M,u,IR⟩:=hrel;by_cases hkN:k<N
 ·have q:k<l.length:=by have:=HN.o;omega
  obtain⟨c,x⟩:=V (l[k]);have P:=F (show c∈l by rw[x];exact be q);have htk:l.take (k+1)=l.take k++[c]:=by rw[x,List.take_add_one,aG q];rfl
  have uh:=F htk;have hca:=(CR.o.tn u.o g.o).a3r (by rw[<-HN.o];exact am hln P8);obtain⟨cb,co,wv,hav,hcb,J,r⟩:=On hca k q;rw[<-x]at J r;have a9m:=hav;subst hav;obtain⟨dI,R,HWO,D2,D1,HSR,n⟩:=ep J r (rq r) (OB.of (u.o.cb C2.o.cb M0) C2.o.le M.o.bL) (u.o.cb C1.o M0) u.o.s (λW U=>EC.o c W P.o U);clear x htk hca J r a9m q
  go_upto_region 9 with((with_reducible apply bS);refine a8Y rfl 29 rfl cb (co+k*8) wv c dI.o rfl ?_;refine aM rfl 101 rfl _ _ (Kh _) ?_;refine newC rfl 9 30 rfl wv c HWO.o rfl rfl rfl ?_;intro w4 c4 b4;have Q4:=F c4;have t:=F b4;clear c4 b4)
  obtain⟨E1,E2,a2A,E3,TN4,Kf,SQ4⟩:=ep (D1.o.keep t.o) (D2.o.below t.o) ((R.o.below t.o).more t.o.size) (M.o.below t.o) (u.o.below t.o) (IR.o.below t.o) (show wr.heap.size<w4.heap.size from Q4.o.lt);obtain⟨q4,C⟩:=V (wr.heap.size);have HQ4:=F (show K.heap.size<=q4 by rw[C];exact u.o.s);rw[<-C]at Q4 SQ4⊢;clear dI R D1 D2 M u IR t C HSR
  go_upto_region 10 with(first|((with_reducible apply bS);first|refine cR r5 4 rfl _ bv d H8.o rfl E1.o ?_|refine kA rfl 32 rfl q4 101 (bA wv c) Q4.o 0 (S c.url) rfl rfl ?_|(refine aM rfl 48 rfl _ _ (Ia _) ?_;refine a4Z rfl 10 34 rfl A aI (ef d c.url []) I8.o (bm OO.o) rfl rfl rfl rfl ?_;intro w6 i6;have T:=F i6;clear i6))|(go_at_call 52;refine(n.o _ E2.o.bL).m ?_;rintro e w5⟨A,rfl,i8,oo,U⟩;obtain⟨I8,OO,j⟩:=cZ i8 oo U;clear U oo i8))
  obtain⟨B6,F1,F2,F3⟩:=dT T.o.bL (E1.o.keep j.o) (E2.o.below j.o) (E3.o.below j.o);obtain⟨Q6,TN5,NA,W9⟩:=dT ((Q4.o.keep j.o).keep B6.o) (TN4.o.below j.o) (Kf.o.below j.o) ((((a2A.o.below j.o).more j.o.size).below B6.o).more B6.o.size);obtain⟨q6,D⟩:=V (w5.heap.size)
  have y:=F (show q6<w6.heap.size/\K.heap.size<=w4.heap.size/\K.heap.size<=w6.heap.size by
   have Y:=T.o.lt;have I:=j.o.size;have h3:=HQ4.o;have h4:=SQ4.o;rw[D];omega)
  rw[<-D]at T⊢;clear E1 E2 E3 Q4 TN4 Kf a2A D n B6 j
  go_upto_region 11 with(first|((with_reducible apply bS);first|refine yx rfl 35 rfl q4 101 (bA wv c) Q6.o 1 wv rfl rfl ?_|(refine dX rfl 22 38 37 rfl w5 q6 48 (bC A aI (ef d c.url [])) I7.o 24 L rfl rfl (by rw[mF I8.o];decide) dC (bm R7.o) (bC A L {ef d c.url []with words:=c.words}) (CX A aI L (ef d c.url []) I8.o c.words) ?_;intro w8 i8 t8;have p:=F i8;have R8:=F<|t8.row R7.o y.o.1;clear i8 t8))|(go_at_call 54;refine(fQ c.words wv _ W9.o (TC.o c P.o)).m ?_;rintro e w7⟨L,rfl,oo,U⟩;have R7:=F<|eE oo;have I7:=F<|T.o.below U;clear oo U))
  obtain⟨G1,G2,G3,B,TQ,OO8⟩:=ee (F1.o.keep p.o.bL) (F2.o.below p.o.bL) (F3.o.below p.o.bL) (TN5.o.below p.o.bL) (NA.o.below p.o.bL) (own_below' OO.o p.o.bL);obtain⟨it,hit⟩:=V (f c);have n:=F hit;rw[HF.o]at hit;have H6:=F (show it.url.host.six.length=8 by rw[hit];exact I8.o);have IP:=fo (mZ w8 K.heap.size ((A,L),it)) ⟨H6.o,by rw[hit];exact il OO8.o y.o.2.1,by rw[hit];exact il R8.o y.o.2.2⟩;rw[<-hit]at p;have TB:=F (show((l.take k).map f).length+1<=1000000000 by rw[ay,aD];omega);have S38:=F B.o.s;clear F1 F2 F3 Q6 TN5 NA W9 OO OO8 R7 R8 T I7 hit
  go_upto_region 12 with((with_reducible apply bS);first|refine yw rfl 39 rfl (w.heap.size+2) 45 (bD v2 []) G3.o.cb 0 v2 rfl rfl ?_|(refine US rfl 10 rfl w5 q6 A L it H6.o p.o rfl ?_;refine qE rfl 41 rfl A L it H6.o rfl ?_;refine b89 rfl 40 42 rfl K.heap.size rfl TQ.o IP.o rfl TB.o S38.o ?_;intro v9 w9 ir9 b9;obtain⟨TR,B9,H3⟩:=cZ ir9 b9 (G3.o.base b9 (aN g.o S2.o) (by have:=g.o;have:=S2.o;omega));clear ir9 b9)|(refine AA rfl 44 43 rfl w (w.heap.size+2) H3.o v9 (fa.one' TR.o) rfl rfl ?_;intro xr qW t10;have L10:=F qW;have Y0:=F t10;clear qW t10))
  obtain⟨a8w,YN,HMP⟩:=cZ ((B.o.Zb B9.o (ag _)).trans Y0.o) (TR.o.tn Y0.o (aN g.o S2.o)) (show(l.take k).map f++[it]=(l.take (k+1)).map f by rw[uh.o,eY,n.o];rfl);clear G1 G2 G3 B TQ p IP B9 TR H3 Y0;go_wp2_with fail;go_roundw
  exact⟨k+1,v9,M0,by go_num,L10,a8w,by rw[<-HMP.o];exact YN⟩
  exact aa
 obtain rfl:k=N:=M0;have D2:=F<|OB.of (u.o.cb C2.o.cb M0) C2.o.le M.o.bL;have zF:=F (show l.take k=l by rw[HN.o];exact di)
 go_wp2_with((with_reducible apply bS);first|refine yy rfl 7 rfl w (w.heap.size+2) _ [] M.o rfl ?_|(refine wu rfl 6 76 rfl w (w.heap.size+1) D2.o _ [] (fa.one' IR.o) rfl rfl ?_;intro w6 i6 t6;have L6:=F i6;have Xd:=F<|IR.o.tn t6 (by have:=g.o;omega);clear i6 t6))
 exact tE results25 rfl L6.o ⟨_,rfl,by rw[<-zF.o];exact Xd.o.base (by have:=g.o;omega),L6.o.bL⟩

theorem b58(u:Url)(pu A:Z)(w:H)(D:u.host.six.length=8)(h:Sl w.heap.size w pu (u.path.map S))(k:Sl w.heap.size w A (u.path.map S)) :
  bF prog 41 #[.agg (ai pu u),.agg (ai A u)] w (.bool true):=by
 obtain⟨W,hW,U,g,i⟩:=a5J w pu A u u;obtain⟨HW,BW,HSU,HSV,C,l,UB⟩:=ep hW U (show Sl W.heap.size W pu (u.path.map S)from(h.below U).more U.size) (show Sl W.heap.size W A (u.path.map S)from(k.below U).more U.size) D (ry pu u D) (ry A u D);obtain⟨v,R,y,T,t,P,zw,pW,SN,M,Yf,r,s,J,SM,L⟩:=b2 (E u.aJ) (E u.usr) (E u.ib) (u.bz) (u.port) (u.opq) (E u.flat) (u.bZ);obtain⟨B,p,SK,K,z,n⟩:=ax (E u.q) (u.cg) (E u.f)
 have HFA:=F<|λ(d:H) (c:r7 W d)=>(show d.cell? ⟨w.heap.size,0,none⟩=some (.string v)/\d.cell? ⟨w.heap.size+1,0,none⟩=some (.string v)/\d.cell? ⟨w.heap.size,1,none⟩=some (.string y)/\d.cell? ⟨w.heap.size+1,1,none⟩=some (.string y)/\d.cell? ⟨w.heap.size,2,none⟩=some (.string t)/\d.cell? ⟨w.heap.size+1,2,none⟩=some (.string t)/\d.cell? ⟨w.heap.size,14,none⟩=some (.bool zw)/\d.cell? ⟨w.heap.size+1,14,none⟩=some (.bool zw)/\d.cell? ⟨w.heap.size,15,none⟩=some (.int .i64 SN)/\d.cell? ⟨w.heap.size+1,15,none⟩=some (.int .i64 SN)/\d.cell? ⟨w.heap.size,16,none⟩=some (.bool Yf)/\d.cell? ⟨w.heap.size+1,16,none⟩=some (.bool Yf)/\d.cell? ⟨w.heap.size,17,none⟩=some (.string s)/\d.cell? ⟨w.heap.size+1,17,none⟩=some (.string s)/\d.cell? ⟨w.heap.size,19,none⟩=some (.bool SM)/\d.cell? ⟨w.heap.size+1,19,none⟩=some (.bool SM)/\d.cell? ⟨w.heap.size,20,none⟩=some (.string B)/\d.cell? ⟨w.heap.size+1,20,none⟩=some (.string B)/\d.cell? ⟨w.heap.size,21,none⟩=some (.bool SK)/\d.cell? ⟨w.heap.size+1,21,none⟩=some (.bool SK)/\d.cell? ⟨w.heap.size,22,none⟩=some (.string z)/\d.cell? ⟨w.heap.size+1,22,none⟩=some (.string z)from
  ⟨by rw[R];exact(g.keep c).aE l.o.aJ,by rw[R];exact(i.keep c).aE UB.o.aJ,by rw[T];exact(g.keep c).aE l.o.usr,by rw[T];exact(i.keep c).aE UB.o.usr,by rw[P];exact(g.keep c).aE l.o.ib,by rw[P];exact(i.keep c).aE UB.o.ib,by rw[pW];exact(g.keep c).aE l.o.bz,by rw[pW];exact(i.keep c).aE UB.o.bz,by rw[M];exact(g.keep c).aE l.o.port,by rw[M];exact(i.keep c).aE UB.o.port,by rw[r];exact(g.keep c).aE l.o.opq,by rw[r];exact(i.keep c).aE UB.o.opq,by rw[J];exact(g.keep c).aE l.o.flat,by rw[J];exact(i.keep c).aE UB.o.flat,by rw[L];exact(g.keep c).aE l.o.bZ,by rw[L];exact(i.keep c).aE UB.o.bZ,by rw[p];exact(g.keep c).aE l.o.q,by rw[p];exact(i.keep c).aE UB.o.q,by rw[K];exact(g.keep c).aE l.o.cg,by rw[K];exact(i.keep c).aE UB.o.cg,by rw[n];exact(g.keep c).aE l.o.f,by rw[n];exact(i.keep c).aE UB.o.f⟩)
 have dI:=F<|λ(d:H) (c:r7 W d)=>(show d.rangeAt w.heap.size 3 (aS u.host)/\d.rangeAt (w.heap.size+1) 3 (aS u.host)from
  ⟨λj x hj=>(g.keep c).aE (l.o.host j x hj),λj x hj=>(i.keep c).aE (UB.o.host j x hj)⟩)
 have c1:=g.aE l.o.path;have c2:=i.aE UB.o.path;clear hW g i U h k D R T P pW M r J L p K n;go_enter func41,ntmps41
 go_upto_region 1 with fail
 rw[HW.o];refine wp_region_lit ?_;simp only[List.append_eq,dE,f9]
 go_wp2_with(first|(go_at_call 42;refine(b3s u.path u.path pu A _ _ _ HSU.o HSV.o).k λw2 N=>?_;rw[show decide (u.path=u.path)=true from gr rfl];clear c1 c2;obtain⟨f0,f1,f2,f3,f4,f5,f6,f7,f8,f9,f10,f11,f12,f13,f14,f15,f16,f17,f18,f19,f20,f21⟩:=HFA.o w2 N.o)|((with_reducible apply bS);first|refine b7u r5 32 rfl w.heap.size 3 u.host C.o rfl (dI.o w2 N.o).1 ?_|refine b7u r5 34 rfl (w.heap.size+1) 3 u.host C.o rfl (dI.o w2 N.o).2 ?_|refine a8I r5 33 35 rfl u.host u.host C.o C.o true ⟨λ_=>rfl,λ_=>rfl⟩ rfl rfl ?_))
 go_ret;exact⟨rfl,BW.o.trans (N.o.m BW.o.size)⟩
