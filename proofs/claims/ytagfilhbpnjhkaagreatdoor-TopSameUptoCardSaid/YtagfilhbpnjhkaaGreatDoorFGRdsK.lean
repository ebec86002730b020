import Derived.Test.YtagfilhbpnjhkaaGreatDoorFGRplB
import Derived.Test.YtagfilhbpnjhkaaGreatDoorFGRdsF
set_option maxRecDepth 10000
set_option maxHeartbeats 0
namespace Go.Proofs.Q
open Tryz Go.RowKit
theorem Wa(l:O)(w:H)(o:l.length<=maxLen):∃g d,(convert 9 25 (S l)).run prog w=.ok g d/\Sl d.heap.size d g (Lib.byteCells l)/\Lib.HoldsBytes d g l/\r7 w d:=by
 have f:=run_bytes_of_string (P:=prog) w 9 25 5 (E l) underlying9 underlying25 underlying5;have c:=grownCap_ge w (E l).size 0 5;have hle:=grownCap_le_maxLen w (E l).size 0 5 (by rw[aF];exact o);obtain⟨cap,hcap⟩:=V (grownCap w (E l).size 0 5);rw[<-hcap]at f c hle;rw[aF]at c
 have hcell:∀(fr:Nat×Nat) (i:Nat) x,l[i]?= some x->(w.drew.alloc (.cells (bytesRow (E l) cap) 5 fr)).cell? ⟨w.heap.size,0+i,none⟩=some (.int .u8 (x.toNat:Int)):=by
  intro fr i x X;have hi:=(bh.1 X).1
  have I:(bytesRow (E l) cap)[i]?= some (.int .u8 (x.toNat:Int)):=by
   unfold bytesRow;rw[a1e (by simp;exact hi)]
   have m:(E l).data[i]?= some x:=by
    rw[<-Array.getElem?_toList,show(E l).data.toList=l from cW l];exact X
   simp[m]
  rw[bM]
  have n:(w.drew.alloc (.cells (bytesRow (E l) cap) 5 fr)).heap[w.heap.size]?= some (.cells (bytesRow (E l) cap) 5 fr):=by
   exact jp w.drew _
  unfold World.cell?;simp only[n];exact I
 rw[aF]at f;refine⟨_,_,f,?_,?_,(gT _ _).drew.alloc (ag _) _⟩
 ·refine⟨cap,by rw[hb];exact c,hle,.inr ⟨w.heap.size,0,Oc,by rw[hb],λj k=>?_⟩⟩
  rw[hb]at k;rw[hcell _ j l[j] (aG k)];simp[Lib.byteCells]
 refine⟨some ⟨w.heap.size,0,none⟩,cap,rfl,λh=>(by cases h),λa e i x X=>?_⟩;obtain rfl:=bj e;rw[addr_add];exact hcell _ i x X
section
variable {ops:Array Oper} {rest:List Oper} {o:Oper} {a:Act} {w:H} {Q:Exit->Act->H->Prop}
theorem iq(e:o.guard=none)(src dst:TypeId)(x:Operand)(f:o.op=.convert src dst x)(v:Z)(X:a.eval x=v){c:Z}{d:H}(g:(convert src dst v).run prog w=.ok c d)(h:wpList prog ops Q rest (a.put o.dst c) d):wpList prog ops Q (o::rest) a w:=by
 refine wpList_plain e λK hK=>?_;unfold Oper.wp execOp;simp only[f,X,h2,io,h1,g];exact hK _ _ h
end
theorem tX(l:O)(v nv:Z)(G d:Nat)(w:H)(h:Sl w.heap.size w v (Lib.byteCells l))(r:l.length<=900000000)(n:w.cell? ⟨G,0,none⟩=some (.int .u8 0))(k:Lib.HoldsBytes w nv ny) :
  Calls prog 56 #[v,.slice (some ⟨G,0,none⟩) 1 d,nv] w λe j=>∃p,e=.returned p/\Sl j.heap.size j p (Lib.byteCells (dY l))/\r7 w j:=by
 have q:=F<|zQ l v nv G d w h r n k;clear h n k;go_enter func56,ntmps56
 go_wp2_with(go_at_call 97;refine(q.o).m ?_;rintro e w2⟨v2,rfl,f,c⟩;have i:=F f;have g:=F c;clear f c)
 go_ret;exact⟨v2,rfl,i.o,g.o⟩
theorem Mq(w:H):pa prog 57 #[.int .i64 65533] w (S ny):=by
 have h:=fK 65533 w;rw[Cj]at h;exact h
theorem MM(l:O)(v:Z)(w:H)(h:Sl w.heap.size w v (Lib.byteCells l))(T:l.length<=900000000)(hz:(dY l).length<=900000000)(hd:(kz (dY l)).length<=900000000)(P:Env w) :
  bF prog 26 #[v] w (S (jw l)):=by
 obtain⟨HH,HE,z,B,HL⟩:=ec h P.1 hd hz T;obtain⟨R,J⟩:=V (jw l);rw[<-J];have HR:=fo (R=pl (kz (dY l))) J;have t:∀W,(Instr.buildSlice 25 1 #[(0,.int .u8 0)]).run prog W=.ok (.slice (some ⟨W.heap.size,0,none⟩) 1 1) (W.alloc (.cells #[.int .u8 0] 5)):=λW=>Rz;have K:=F t;clear h P hz hd J t T;go_enter func26,ntmps26
 go_upto_region 1 with fail
 have f:(w.alloc (.cells #[.int .u8 0] 5)).cell? ⟨w.heap.size,0,none⟩=some (.int .u8 0):=by rw[hx];rfl
 have d:Below w.heap.size w (w.alloc (.cells #[.int .u8 0] 5)):=(gT _ _).alloc (ag _) _;obtain⟨w2,n⟩:=ey (w.alloc (.cells #[.int .u8 0] 5));rw[<-n.o]at f d;obtain⟨nv,w3,u,_,L,g⟩:=Wa ny w2 P8;have y:=(g.cell (p:=⟨w.heap.size,0,none⟩) (j2 _ _ f)).trans f;have c:=d.trans (g.m d.size);obtain⟨M,j,k⟩:=cZ (tX l v nv w.heap.size 1 w3 ((HH.o.below c).more c.size) HL.o y L) c u;clear y c g L u f d
 go_upto_region 2 with(first|(refine yg rfl 25 1 #[(0,.const (.int .u8 0))] rfl (.slice (some ⟨w.heap.size,0,none⟩) 1 1) w2 #[(0,.int .u8 0)] (by simp only[m9,dh,pz];rfl) (by rw[n.o];exact K.o w) ?_)|(go_at_call 57;refine(Mq _).e ?_)|(refine iq rfl 9 25 5 rfl _ rfl k.o ?_)|(go_at_call 56;refine(M.o).m ?_;rintro e w4⟨v4,rfl,x,q⟩;have C:=F x;have D:=F<|j.o.trans (q.m j.o.size);clear x q))
 clear M k n K
 go_wp2_with(first|(go_at_call 59;refine(a08 (dY l) v4 _ C.o (am B.o P8) (HE.o.below D.o)).k λw5 r=>?_;have N:=F<|D.o.trans (r.o.m D.o.size);clear r)|(go_at_call 58;refine(Ch (kz (dY l)) _ z.o).k λw6 s=>?_;have j8:=F<|N.o.trans (s.o.m N.o.size);clear s))
 go_ret;exact⟨by rw[HR.o];rfl,j8.o⟩
structure a2T (kind:Int) (s:O):Prop where
 l:s.length<=900000000
 u:∀c∈jF s,c.url.length<=1048576
 s:kind≠2->s.length<=1000000
theorem Lp(kind:Int)(c:Url)(bv:Z)(s:O)(w:H)(g:c.host.six.length=8)(e:Sl w.heap.size w bv (c.path.map S))(d:Bs c.path)(f:a2T kind s)(i:Env w) :
  Calls prog 25 #[.int .i64 kind,.agg (ai bv c),.string (E s)] w (jz w (mg kind c s)):=by
 by_cases Y:kind=1
 ·subst Y
  exact Lr c bv s w g e d (am (f.s P8) P8) i
 by_cases I:kind=2
 ·subst I
  exact Gi c bv s w g e d f.l f.u i
 by_cases j:kind=3
 ·subst j
  cases k:Dx s with
  |none=>exact Lq s k c bv w g e d (f.s P8) i
  |some r =>
   obtain⟨dl,h,m⟩:=r;cases h with
   |true=>exact Ls s dl m k c bv w g e d (f.s P8) i
   |false=>exact Gh s dl m k c bv w g e d (f.s P8) i
 have:mg kind c s=⟨[],[]⟩:=by unfold mg;rw[gc Y,gc I,gc j]
 rw[this];exact CZ kind Y I j c bv (E s) w
theorem a5I(w:H)(bv:Z)(u:Url):∃W,(w.alloc (.cells (ai bv u) 34)).alloc (.cells (bD aI []) 45)=W/\CB W w.heap.size 34 (ai bv u)/\OB w (w.heap.size+1) 45 (bD aI []) W:=by
 have X:=CB.new w 34 (ai bv u);have U:=(gT w.heap.size w).alloc (ag _) (.cells (ai bv u) 34);obtain⟨e,d⟩:=V (w.alloc (.cells (ai bv u) 34));have f:e.heap.size=w.heap.size+1:=by rw[d];simp
 rw[<-d]at X U⊢;have hy:=CB.new e 45 (bD aI []);have c:=(gT e.heap.size e).alloc (ag _) (.cells (bD aI []) 45);rw[f]at hy;exact⟨_,rfl,X.keep c,OB.of hy (gQ _) (dw U c)⟩
theorem RI{v:Z}{d:O}(Y:v.oneCell'=true):∀u ∈ [v,S d],u.oneCell'=true:=by
 intro u hu;simp only[aK,cV,or_false]at hu;rcases hu with rfl|rfl
 ·exact Y
 rfl
structure TX (kind:Int) (l:O):Prop where
 n:l.length<=900000000
 z:(dY l).length<=900000000
 d:(kz (dY l)).length<=900000000
 r:a2T kind (jw l)
theorem b8o{l:O}(kind:Int)(hl:l.length<=10000):TX kind l:=by
 have Y:=xk l;have I:=nT _ (dY l) (ag _);have h3:=uw _ (kz (dY l)) (ag _)
 have d:(jw l).length<=1000000:=by
  unfold jw;omega
 exact⟨M0,M0,M0,M0,λc e=>am ((oV _).2 c e).1 M0,λ_=>d⟩
theorem Du(kind:Int)(c:Url)(bv:Z)(l:O)(v:Z)(w:H)(y:c.host.six.length=8)(p:Sl w.heap.size w bv (c.path.map S))(k:Bs c.path)(h:Sl w.heap.size w v (Lib.byteCells l))(q:TX kind l)(M:Env w) :
  Calls prog 10 #[.int .i64 kind,.agg (ai bv c),v] w (jz w (mg kind c (jw l))):=by
 obtain⟨R,N,t,P⟩:=ac (mg kind c (jw l)) (E (jw l));obtain⟨J,C,H8,D⟩:=dT (λW (U:r7 w W)=>(show bF prog 26 #[v] W (.string t)from by rw[P];exact MM l v W ((h.below U).more U.size) q.n q.z q.d (M.below U))) (λW (U:r7 w W)=>(show Calls prog 25 #[.int .i64 kind,.agg (ai bv c),.string t] W (jz W R)from by rw[P,N];exact Lp kind c bv (jw l) W y ((p.below U).more U.size) k q.r (M.below U))) y (show(prog.info? 34).map (·.size)=some (ai bv c).size by rw[kJ y];exact iJ);rw[<-N];clear N P y p k h q M;obtain⟨W2,s,k1,k2⟩:=a5I w bv c;obtain⟨K1,K2,L⟩:=cZ k1 k2 s;clear k1 k2 s;go_enter func10,ntmps10
 go_upto_region 1 with((with_reducible apply bS);refine aM rfl 45 rfl _ _ (pC _) ?_)
 rw[L.o];have f:=F<|K1.o.keep (bG (bg _));have T:=F<|K2.o.below (bG (bg _));refine wp_region_held_drew (S:=λW=>CB W w.heap.size 34 (ai bv c)) Rz (by with_reducible first|exact u.o|exact B.o|exact i.o|exact g.o|exact f.o) (λhHeld=>?_);refine ek 0 ?_;refine e_l 1 rfl (λ_ hS=>je 34 4 rfl w.heap.size (ai bv c) _ underlying34 rfl D.o rfl hS) ?_
 refine ek 2 ?_;refine rn 3 Rz rfl r5 (λK hK=>?_)
 go_simp
 refine(J.o _ T.o.bL).k λw2 U=>?_;have g:=F<|f.o.keep U.o;have x:=F<|T.o.below U.o;clear U;refine hK.out _ _ g.o (λhHeld=>?_);clear hK K;refine rn 4 Rz rfl r5 (λK hK=>?_)
 go_simp
 refine(C.o _ x.o.bL).m ?_;rintro e w3⟨v3,rfl,ir,U⟩;obtain⟨i,I3,j⟩:=cZ (g.o.keep U) (x.o.below U) ir;clear U ir;refine hK.out _ _ i.o (λhHeld=>?_);clear hK K;refine rn 5 Rz rfl r5 (λK hK=>?_);refine j5 45 6 11 rfl w (w.heap.size+1) 45 (bD aI []) I3.o 0 [v3,S R.delay] rfl rfl (bW rfl) mS (RI (fa.one' j.o)) (bD v3 R.delay) rfl ?_;intro w5 i5 t5;obtain⟨I5,u,NA⟩:=cZ i5 (t5.cb i.o (cO (bV _))) (j.o.tn t5 x.o.lt);clear i5 t5;refine hK.out _ _ u.o (λhHeld=>?_);clear hK K
 try simp only[Act.put]
 refine wpAnyH_done Rz ?_ _;go_wp2_with fail;exact tE results10 rfl I5.o ⟨v3,rfl,NA.o.base x.o.bL.size,I5.o.bL⟩
