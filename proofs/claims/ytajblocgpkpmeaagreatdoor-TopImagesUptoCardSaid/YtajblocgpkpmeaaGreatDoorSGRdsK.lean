/- Joined texts. -/
import Derived.Test.YtajblocgpkpmeaaGreatDoorSGRplB
import Derived.Test.YtajblocgpkpmeaaGreatDoorSGRdsF
set_option maxHeartbeats 40000000
namespace Go.Proofs.YtajblocgpkpmeaaGreatDoor
open Tryz
open Go.RowKit
set_option maxRecDepth 10000
theorem Wa(l:O)(w:H)(o:l.length<=maxLen):∃ g d,(convert 9 46 (S l)).run prog w=.ok g d/\Sl d.heap.size d g (Lib.byteCells l)/\Lib.HoldsBytes d g l/\r7 w d:=by
 have f:=run_bytes_of_string (P:=prog) w 9 46 5 (E l) underlying9 underlying46 underlying5;have c:=grownCap_ge w (E l).size 0 5;have hle:=grownCap_le_maxLen w (E l).size 0 5 (by rw[aF];exact o);obtain⟨cap,hcap⟩:=V (grownCap w (E l).size 0 5);rw[<-hcap]at f c hle;rw[aF]at c
 have hcell:∀ (fr:Nat×Nat) (i:Nat) x,l[i]? = some x->(w.drew.alloc (.cells (bytesRow (E l) cap) 5 fr)).cell? ⟨w.heap.size,0+i,none⟩=some (.int .u8 (x.toNat:Int)):=by
  intro fr i x X;have hi:=(bh.1 X).1
  have I:(bytesRow (E l) cap)[i]? = some (.int .u8 (x.toNat:Int)):=by
   unfold bytesRow;rw[a1e (by simp;exact hi)]
   have m:(E l).data[i]? = some x:=by
    rw[<-Array.getElem?_toList,show(E l).data.toList=l from cW l];exact X
   simp[m]
  rw[bM]
  have n:(w.drew.alloc (.cells (bytesRow (E l) cap) 5 fr)).heap[w.heap.size]? = some (.cells (bytesRow (E l) cap) 5 fr):=by
   exact heap_alloc_new w.drew _
  unfold World.cell?;simp only[n];exact I
 rw[aF]at f;refine⟨_,_,f,?_,?_,(Below.refl _ _).drew.alloc (ag _) _⟩
 ·refine⟨cap,by rw[Lib.byteCells_length];exact c,hle,.inr ⟨w.heap.size,0,Oc,by rw[Lib.byteCells_length],λj k=>?_⟩⟩
  rw[Lib.byteCells_length]at k;rw[hcell _ j l[j] (aG k)];simp[Lib.byteCells]
 refine⟨some ⟨w.heap.size,0,none⟩,cap,rfl,λh=>(by cases h),λa e i x X=>?_⟩;obtain rfl:=bj e;rw[addr_add];exact hcell _ i x X
section
variable {ops:Array Oper} {rest:List Oper} {o:Oper} {a:Act} {w:H} {Q:Exit->Act->H->Prop}
theorem iq(e:o.guard=none)(src dst:TypeId)(x:Operand)(f:o.op=.convert src dst x)(v:Z)(X:a.eval x=v){c:Z}{d:H}(g:(convert src dst v).run prog w=.ok c d)(h:wpList prog ops Q rest (a.put o.dst c) d):wpList prog ops Q (o::rest) a w:=by
 refine wpList_plain e λK hK=>?_;unfold Oper.wp execOp;simp only[f,X,Sem.run_bind,Sem.run_pure,Result.andThen_ok,g];exact hK _ _ h
end
theorem tX(l:O)(v nv:Z)(G d:Nat)(w:H)(h:Sl w.heap.size w v (Lib.byteCells l))(r:l.length<=900000000)(n:w.cell? ⟨G,0,none⟩=some (.int .u8 0))(k:Lib.HoldsBytes w nv ny) :
  Calls prog 67 #[v,.slice (some ⟨G,0,none⟩) 1 d,nv] w λe j=>∃ p,e=.returned p/\Sl j.heap.size j p (Lib.byteCells (dY l))/\r7 w j:=by
 have q:=F<|zQ l v nv G d w h r n k;clear h n k;go_enter func67,ntmps67
 go_wp2_with (first|(go_at_call 110;refine(q.o).m ?_;rintro e w2 ⟨v2,rfl,f,c⟩;have i:=F f;have g:=F c;clear f c))
 go_ret;exact⟨v2,rfl,i.o,g.o⟩
theorem Mq(w:H):pa prog 68 #[.int .i64 65533] w (S ny):=by
 have h:=fK 65533 w;rw[Cj]at h;exact h
theorem MM(l:O)(v:Z)(w:H)(h:Sl w.heap.size w v (Lib.byteCells l))(T:l.length<=900000000)(hz:(dY l).length<=900000000)(hd:(kz (dY l)).length<=900000000)(P:Env w) :
  bF prog 24 #[v] w (S (jw l)):=by
 have HH:=F h;have HE:=F P.1;have z:=F hd;have B:=F hz;have HL:=F T;obtain⟨R,J⟩:=V (jw l);rw[<-J];have HR:=F (show R=pl (kz (dY l))from J);have t:∀ W,(Instr.buildSlice 46 1 #[(0,.int .u8 0)]).run prog W=.ok (.slice (some ⟨W.heap.size,0,none⟩) 1 1) (W.alloc (.cells #[.int .u8 0] 5)):=λW=>Rz;have K:=F t;clear h P hz hd J t T;go_enter func24,ntmps24
 go_upto_region 1 with fail
 have f:(w.alloc (.cells #[.int .u8 0] 5)).cell? ⟨w.heap.size,0,none⟩=some (.int .u8 0):=by rw[World.cell?_alloc_mark];rfl
 have d:Below w.heap.size w (w.alloc (.cells #[.int .u8 0] 5)):=(Below.refl _ _).alloc (ag _) _;obtain⟨w2,i⟩:=V (w.alloc (.cells #[.int .u8 0] 5));rw[<-i]at f d;obtain⟨nv,w3,u,_,L,g⟩:=Wa ny w2 P8;have y:=(g.cell (p:=⟨w.heap.size,0,none⟩) (World.block_lt_of_cell? _ _ f)).trans f;have c:=d.trans (g.m d.size);have M:=F<|tX l v nv w.heap.size 1 w3 ((HH.o.below c).more c.size) HL.o y L;have j:=F c;have n:=F i;have k:=F u;clear y c g L u f d i
 go_upto_region 2 with(first|(refine yg rfl 46 1 #[(0,.const (.int .u8 0))] rfl (.slice (some ⟨w.heap.size,0,none⟩) 1 1) w2 #[(0,.int .u8 0)] (by simp only[m9,dh,pz];rfl) (by rw[n.o];exact K.o w) ?_)|(go_at_call 68;refine(Mq _).m ?_;rintro e w4 ⟨rfl,hw4⟩;subst w4)|(refine iq rfl 9 46 (.tmp 5) rfl _ rfl k.o ?_)|(go_at_call 67;refine(M.o).m ?_;rintro e w4 ⟨v4,rfl,x,q⟩;have C:=F x;have D:=F<|j.o.trans (q.m j.o.size);clear x q))
 clear M k n K
 go_wp2_with (first|(go_at_call 70;refine(a08 (dY l) v4 _ C.o (am B.o P8) (HE.o.below D.o)).m ?_;rintro e w5 ⟨rfl,r⟩;have N:=F<|D.o.trans (r.m D.o.size);clear r)|(go_at_call 69;refine(Ch (kz (dY l)) _ z.o).m ?_;rintro e w6 ⟨rfl,s⟩;have j8:=F<|N.o.trans (s.m N.o.size);clear s))
 go_ret;exact⟨by rw[HR.o];rfl,j8.o⟩
end Go.Proofs.YtajblocgpkpmeaaGreatDoor
set_option maxHeartbeats 40000000
namespace Go.Proofs.YtajblocgpkpmeaaGreatDoor
open Tryz
open Go.RowKit
set_option maxRecDepth 10000
structure a2T (kind:Int) (s:O):Prop where
 l:s.length<=900000000
 u:∀ c∈jF s,c.url.length<=1048576
 k:kind=2\/kind=1/\s.length<=1000000
theorem Lp(kind:Int)(c:Url)(bv:Z)(s:O)(w:H)(g:c.host.six.length=8)(e:Sl w.heap.size w bv (c.path.map S))(d:Bs c.path)(f:a2T kind s)(h:Env w) :
  Calls prog 55 #[.int .i64 kind,.agg (ai bv c),.string (E s)] w (jz w (mg kind c s)):=by
 rcases f.k with I|⟨Y,i⟩
 ·subst I
  exact Gi c bv s w g e d f.l f.u h
 subst Y;exact Lr c bv s w g e d (am i P8) h
theorem a5I(w:H)(bv:Z)(u:Url):∃ W,(w.alloc (.cells (ai bv u) 34)).alloc (.cells (bD aI []) 53)=W/\CB W w.heap.size 34 (ai bv u)/\OB w (w.heap.size+1) 53 (bD aI []) W:=by
 have X:=CB.new w 34 (ai bv u);have U:=(Below.refl w.heap.size w).alloc (ag _) (.cells (ai bv u) 34);obtain⟨w1,d⟩:=V (w.alloc (.cells (ai bv u) 34));have e:w1.heap.size=w.heap.size+1:=by rw[d];simp
 rw[<-d]at X U ⊢;have hy:=CB.new w1 53 (bD aI []);have c:=(Below.refl w1.heap.size w1).alloc (ag _) (.cells (bD aI []) 53);rw[e]at hy;exact⟨_,rfl,X.keep c,OB.of hy (gQ _) (dw U c)⟩
theorem RI{v:Z}{d:O}(Y:v.oneCell'=true):∀ u ∈ [v,S d],u.oneCell'=true:=by
 intro u hu;simp only[aK,cV,or_false]at hu;rcases hu with rfl|rfl
 ·exact Y
 rfl
structure TX (kind:Int) (l:O):Prop where
 n:l.length<=900000000
 z:(dY l).length<=900000000
 d:(kz (dY l)).length<=900000000
 r:a2T kind (jw l)
theorem b82{l:O}(kind:Int)(f:kind=2\/kind=1)(hl:l.length<=10000):TX kind l:=by
 have Y:=xk l;have I:=nT _ (dY l) (ag _);have h3:=uw _ (kz (dY l)) (ag _)
 have d:(jw l).length<=1000000:=by
  unfold jw;omega
 exact⟨M0,M0,M0,M0,λc e=>am ((oV _).2 c e).1 M0,f.imp id λh=>⟨h,d⟩⟩
theorem Du(kind:Int)(c:Url)(bv:Z)(l:O)(v:Z)(w:H)(y:c.host.six.length=8)(p:Sl w.heap.size w bv (c.path.map S))(k:Bs c.path)(h:Sl w.heap.size w v (Lib.byteCells l))(q:TX kind l)(M:Env w) :
  Calls prog 20 #[.int .i64 kind,.agg (ai bv c),v] w (jz w (mg kind c (jw l))):=by
 obtain⟨R,N⟩:=V (mg kind c (jw l));obtain⟨t,P⟩:=V (E (jw l));have J:=F<|λW (U:r7 w W)=>(show bF prog 24 #[v] W (.string t)from by rw[P];exact MM l v W ((h.below U).more U.size) q.n q.z q.d (M.below U));have C:=F<|λW (U:r7 w W)=>(show Calls prog 55 #[.int .i64 kind,.agg (ai bv c),.string t] W (jz W R)from by rw[P,N];exact Lp kind c bv (jw l) W y ((p.below U).more U.size) k q.r (M.below U));have H8:=F y;have D:=F (show(prog.info? 34).map (·.size)=some (ai bv c).size by rw[kJ y];exact iJ);rw[<-N];clear N P y p k h q M;obtain⟨W2,s,k1,k2⟩:=a5I w bv c;have K1:=F k1;have K2:=F k2;have L:=F s;clear k1 k2 s;go_enter func20,ntmps20
 go_upto_region 1 with(first|((with_reducible apply bS);refine aM rfl 53 rfl _ _ (pC _) ?_))
 rw[L.o];have f:=F<|K1.o.keep (bG (bg _));have T:=F<|K2.o.below (bG (bg _));refine wp_region_held_drew (S:=λW=>CB W w.heap.size 34 (ai bv c)) Rz (by with_reducible first|exact u.o|exact B.o|exact i.o|exact g.o|exact f.o) (λhHeld=>?_);refine ek 0 ?_;refine tq 1 rfl ?_ (λwS hSw=>?_) ?_;rotate_left
 ·(try dsimp only at hSw)
  refine je 34 (.tmp 4) ?_ w.heap.size (ai bv c) _ underlying34 rfl D.o ?_ ?_
  ·rfl
  ·rfl
  exact hSw
 try simp only[Act.put,fH,fI,fJ]
 refine ek 2 ?_;refine rn 3 Rz rfl r5 (λK hK=>?_)
 go_simp
 refine(J.o _ T.o.bL).m ?_;rintro e w2 ⟨rfl,U⟩;have g:=F<|f.o.keep U;have x:=F<|T.o.below U;clear U;refine hK.out _ _ ?_ (λhHeld=>?_)
 ·with_reducible first|exact u.o|exact B.o|exact i.o|exact g.o|exact f.o
 clear hK K;refine rn 4 Rz rfl r5 (λK hK=>?_)
 go_simp
 refine(C.o _ x.o.bL).m ?_;rintro e w3 ⟨v3,rfl,ir,U⟩;have i:=F<|g.o.keep U;have I3:=F<|x.o.below U;have j:=F ir;clear U ir;refine hK.out _ _ ?_ (λhHeld=>?_)
 ·with_reducible first|exact u.o|exact B.o|exact i.o|exact g.o|exact f.o
 clear hK K;refine rn 5 Rz rfl r5 (λK hK=>?_);refine j5 53 (.tmp 6) (.tmp 11) rfl w (w.heap.size+1) 53 (bD aI []) I3.o 0 [v3,S R.delay] rfl rfl (bW rfl) mS (RI (fa.one' j.o)) (bD v3 R.delay) rfl ?_;intro w5 i5 t5;have I5:=F i5;have u:=F<|t5.cb i.o (cO (bV _));have NA:=F<|j.o.tn t5 x.o.lt;clear i5 t5;refine hK.out _ _ ?_ (λhHeld=>?_)
 ·with_reducible first|exact u.o|exact B.o|exact i.o|exact g.o|exact f.o
 clear hK K
 try simp only[Act.put]
 refine wpAnyH_done Rz ?_ _;go_wp2_with fail;exact tE results20 rfl I5.o ⟨v3,rfl,NA.o.base x.o.bL.size,I5.o.bL⟩
