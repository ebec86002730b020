/- Joined texts. -/
import Derived.Test.YtpbnfjdkdfombaaGreatDoorGMimA
import Derived.Test.YtpbnfjdkdfombaaGreatDoorGRdsF
set_option maxHeartbeats 40000000
namespace Go.Proofs.YtpbnfjdkdfombaaGreatDoor
open Tryz
open Go.RowKit
set_option maxRecDepth 10000
theorem Kz(s p:O):Lib.trimPrefix s p=OA s p:=rfl
theorem OC(s p:O):(OA s p).length<=s.length:=by
 unfold OA
 split
 ·rw[aj];omega
 omega
theorem Kp(s:O):(qA s).length<=s.length:=by
 by_cases h:s.length<6
 ·rw[uQ h];omega
 rw[xX M0]
 split
 ·refine am (DZ _ _) (am (pa _ _) ?_)
  rw[aD];omega
 omega
theorem LM(u:Url)(A:Z)(w:H)(h:zK u)(hs:Sl w.heap.size w A (u.path.map S))(hl:(dA u false).length<=1000000000)(hE:Env w)(hN:NE w) :
  Calls prog 35 #[.agg (ai A u)] w λe w'=>e=z7 (BY u)/\r7 w w':=by
 have MZ:=F<|λW (U:r7 w W)=>rr u (ai A u) A false W (lV A h.ok) ((hs.below U).more U.size) h.sm (hN.below U);have H8:=F h.six;obtain⟨R,c⟩:=V (BY u);rw[<-c];unfold BY at c;obtain⟨s,l⟩:=V (E u.aJ);have ka:=F (show(ai A u)[0]? = some (.string s) by rw[l];exact(ry A u h.six).aJ);obtain⟨q,D⟩:=V (decide (u.aJ=qI));have hq1:(s.toList == [100,97,116,97])=q:=by rw[l,aB,jB,D];rfl
 have j:(s.toList=[100,97,116,97]) ↔ q=true:=by rw[l,aB,D,decide_eq_true_eq];exact Iff.rfl
 obtain⟨t,ht⟩:=V (dA u false);rw[<-ht]at MZ hl c;obtain⟨tb,n⟩:=V (E t);have zG:=F (show ∀W,r7 w W->bF prog 37 #[.agg (ai A u),.bool false] W (.string tb)from by rw[n];exact MZ.o);have K:=F hE;clear MZ;have C:=F<|CB.new w 34 (ai A u);have v:=F<|(Below.refl w.heap.size w).alloc (ag _) (.cells (ai A u) 34);obtain⟨w1,hw1⟩:=V (w.alloc (.cells (ai A u) 34));rw[<-hw1]at C v;have L:=F hw1;clear hw1 h hs hE hN l ht;cases q with
 |false =>
  have hn:¬ s.toList=[100,97,116,97]:=λe=>by have:=j.mp e;cases this
  have HN:=F (show R=none by rw[c,if_neg (by rw[eq_comm,decide_eq_false_iff_not]at D;exact D)]);clear D j c hl n;go_enter func35,ntmps35
  go_upto_region 1 with fail
  rw[<-L.o]
  go_wp2_with (first
   |((with_reducible apply bS);refine kA rfl (.tmp 10) rfl w.heap.size 34 (ai A u) C.o 0 (.string s) ka.o rfl ?_))
  go_ret2
  exact⟨by rw[HN.o];rfl,v.o⟩
 |true =>
  rw[if_pos (by rw[eq_comm,decide_eq_true_eq]at D;exact D)]at c;have hp:s.toList=[100,97,116,97]:=j.mpr rfl;clear D j;have P:=λW (hW:Env W)=>OD 44 t W M0 hW;have hcl:=fD 44 t;obtain⟨hd,i⟩:=V ((bQ 44 t).1);obtain⟨tl,htl⟩:=V ((bQ 44 t).2.1);obtain⟨fd,yA⟩:=V ((bQ 44 t).2.2);rw[<-i,<-htl]at hcl;rw[<-i,<-htl,<-yA]at P;rw[<-i,<-yA]at c;clear i htl yA;have p:=λW=>Sm hd (qI++[58]) W;rw[Kz]at p;have hkl:=OC hd (qI++[58]);obtain⟨k,hk⟩:=V (OA hd (qI++[58]));rw[<-hk]at p hkl c;clear hk;have hst:=λW=>Mv k W M0;have hml:=zl f8 k;obtain⟨m,hm⟩:=V (trimB f8 k);rw[<-hm]at hst hml c;clear hm;have N:=λW=>NW m W M0;have hzl:=Kp m;obtain⟨z,hz⟩:=V (qA m);rw[<-hz]at N hzl c;clear hz;have rH:=λW=>mE z [59] W;obtain⟨q3,hq3⟩:=V (Lib.hasPrefix z [59]);obtain⟨y,hy⟩:=V (if Lib.hasPrefix z [59]=true then mP++z else z)
  have hyl:y.length<=1024000000:=by
   rw[hy]
   split
   ·rw[ae]
    have:mP.length=10:=rfl;omega
   omega
  have M:R=if fd=true then some ((KR y).getD mP)else none:=by rw[c,hy];rfl
  rw[<-hq3]at rH hy;have Q:=λW (hW:Env W)=>Cr y W hyl hW;obtain⟨E',hE⟩:=V (KR y);rw[<-hE]at Q M;clear hE c hq3;obtain⟨U,XH⟩:=V (E hd);obtain⟨kb,T⟩:=V (E k);obtain⟨mb,hmb⟩:=V (E m);obtain⟨zb,a⟩:=V (E z);obtain⟨yb,r⟩:=V (E y);have rE:=F (show ∀W,Env W->bF prog 63 #[.string tb,.string ⟨#[44]⟩] W (.tuple #[.string U,S tl,.bool fd])from by rw[n,XH];exact P);have TJ:=F (show ∀W,bP prog 66 #[.string U,.string ⟨#[100,97,116,97,58]⟩] W (.string kb)from by rw[XH,T];exact p);have HST:=F (show ∀W,bP prog 65 #[.string kb] W (.string mb)from by rw[T,hmb];exact hst);have xt:=F (show ∀W,bF prog 64 #[.string mb] W (.string zb)from by rw[hmb,a];exact N);have tS:=F (show ∀W,bP prog 61 #[.string zb,.string ⟨#[59]⟩] W (.bool q3)from by rw[a];exact rH);have f:=F (show ∀W,Env W->Calls prog 67 #[.string yb] W λe w'=>e=z7 E'/\r7 W w' from by rw[r];exact Q);have HR:=F M
  have t4:q3=true->(⟨#[116,101,120,116,47,112,108,97,105,110]⟩:ByteArray)++zb=yb:=λe=>by
   rw[r,a,hy,if_pos e];exact mm mP z
  have nz:¬ 9223372036854775807<10+zb.size:=by rw[a,aF];omega
  have hsame:q3=false->zb=yb:=λe=>by
   rw[r,a,hy,if_neg (by rw[e];simp)]
  clear P hcl p hkl hst hml N hzl rH hyl M Q XH T hmb a r hy n hl;cases fd with
  |false =>
   have HN:=F (show R=none from HR.o);clear t4 hsame;go_enter func35,ntmps35
   go_upto_region 1 with fail
   rw[<-L.o]
   go_wp2_with (first
    |((with_reducible apply bS);refine kA rfl (.tmp 10) rfl w.heap.size 34 (ai A u) C.o 0 (.string s) ka.o rfl ?_)
    |((with_reducible apply bS);refine cR r5 (.tmp 1) rfl w.heap.size A u H8.o rfl C.o ?_)
    |(go_at_call 37;refine(zG.o _ v.o).m ?_;rintro e w2 ⟨rfl,U⟩;have B:=F<|dw v.o U;clear U)
    |(go_at_call 63;refine(rE.o _ (K.o.below B.o)).m ?_;rintro e w3 ⟨rfl,U⟩;have B3:=F<|dw B.o U;clear U))
   go_ret2
   exact⟨by rw[HN.o];rfl,B3.o⟩
  |true =>
   go_enter func35,ntmps35
   go_upto_region 1 with fail
   rw[<-L.o];have g:=F (show R=some (E'.getD mP)from HR.o);cases q3 with
   |false =>
    obtain rfl:=hsame rfl;clear t4 hsame
    go_upto_region 9 with(first
     |((with_reducible apply bS);refine kA rfl (.tmp 10) rfl w.heap.size 34 (ai A u) C.o 0 (.string s) ka.o rfl ?_)
     |((with_reducible apply bS);refine cR r5 (.tmp 1) rfl w.heap.size A u H8.o rfl C.o ?_)
     |(go_at_call 37;refine(zG.o _ v.o).m ?_;rintro e w2 ⟨rfl,U⟩;have B:=F<|dw v.o U;clear U)
     |(go_at_call 63;refine(rE.o _ (K.o.below B.o)).m ?_;rintro e w3 ⟨rfl,U⟩;have B3:=F<|dw B.o U;clear U)
     |(go_at_call 66;refine(TJ.o _).m ?_;rintro e w4 ⟨rfl,hw⟩;subst w4)
     |(go_at_call 65;refine(HST.o _).m ?_;rintro e w5 ⟨rfl,hw⟩;subst w5)
     |(go_at_call 64;refine(xt.o _).m ?_;rintro e w6 ⟨rfl,U⟩;have d:=F<|dw B3.o U;clear U)
     |(go_at_call 61;refine(tS.o _).m ?_;rintro e w7 ⟨rfl,hw⟩;subst w7))
    cases E' with
    |none =>
     go_wp2_with (first
      |(go_at_call 67;refine(f.o _ (K.o.below d.o)).m ?_;rintro e w8 ⟨rfl,U⟩;have J:=F<|dw d.o U;clear U;dsimp only[z7]))
     go_ret2
     exact⟨by rw[g.o];rfl,J.o⟩
    |some x =>
     go_wp2_with (first
      |(go_at_call 67;refine(f.o _ (K.o.below d.o)).m ?_;rintro e w8 ⟨rfl,U⟩;have J:=F<|dw d.o U;clear U;dsimp only[z7]))
     go_ret2
     exact⟨by rw[g.o];rfl,J.o⟩
   |true =>
    have b14:=t4 rfl;clear t4 hsame
    go_upto_region 9 with(first
     |((with_reducible apply bS);refine kA rfl (.tmp 10) rfl w.heap.size 34 (ai A u) C.o 0 (.string s) ka.o rfl ?_)
     |((with_reducible apply bS);refine cR r5 (.tmp 1) rfl w.heap.size A u H8.o rfl C.o ?_)
     |(go_at_call 37;refine(zG.o _ v.o).m ?_;rintro e w2 ⟨rfl,U⟩;have B:=F<|dw v.o U;clear U)
     |(go_at_call 63;refine(rE.o _ (K.o.below B.o)).m ?_;rintro e w3 ⟨rfl,U⟩;have B3:=F<|dw B.o U;clear U)
     |(go_at_call 66;refine(TJ.o _).m ?_;rintro e w4 ⟨rfl,hw⟩;subst w4)
     |(go_at_call 65;refine(HST.o _).m ?_;rintro e w5 ⟨rfl,hw⟩;subst w5)
     |(go_at_call 64;refine(xt.o _).m ?_;rintro e w6 ⟨rfl,U⟩;have d:=F<|dw B3.o U;clear U)
     |(go_at_call 61;refine(tS.o _).m ?_;rintro e w7 ⟨rfl,hw⟩;subst w7))
    cases E' with
    |none =>
     go_wp2_with (first
      |(go_at_call 67;refine(f.o _ (K.o.below d.o)).m ?_;rintro e w8 ⟨rfl,U⟩;have J:=F<|dw d.o U;clear U;dsimp only[z7]))
     go_ret2
     exact⟨by rw[g.o];rfl,J.o⟩
    |some x =>
     go_wp2_with (first
      |(go_at_call 67;refine(f.o _ (K.o.below d.o)).m ?_;rintro e w8 ⟨rfl,U⟩;have J:=F<|dw d.o U;clear U;dsimp only[z7]))
     go_ret2
     exact⟨by rw[g.o];rfl,J.o⟩
end Go.Proofs.YtpbnfjdkdfombaaGreatDoor
set_option maxHeartbeats 40000000
namespace Go.Proofs.YtpbnfjdkdfombaaGreatDoor
open Tryz
open Go.RowKit
set_option maxRecDepth 10000
theorem Wa(l:O)(w:H)(o:l.length<=maxLen):∃ g d,(convert 9 25 (S l)).run prog w=.ok g d/\Sl d.heap.size d g (Lib.byteCells l)/\Lib.HoldsBytes d g l/\r7 w d:=by
 have f:=run_bytes_of_string (P:=prog) w 9 25 5 (E l) underlying9 underlying25 underlying5;have c:=grownCap_ge w (E l).size 0 5;have hle:=grownCap_le_maxLen w (E l).size 0 5 (by rw[aF];exact o);obtain⟨cap,hcap⟩:=V (grownCap w (E l).size 0 5);rw[<-hcap]at f c hle;rw[aF]at c
 have hcell:∀ (fr:Nat×Nat) (i:Nat) x,l[i]? = some x->(w.drew.alloc (.cells (bytesRow (E l) cap) 5 fr)).cell? ⟨w.heap.size,0+i,none⟩=some (.int .u8 (x.toNat:Int)):=by
  intro fr i x X;have hi:=(bh.1 X).1
  have I:(bytesRow (E l) cap)[i]? = some (.int .u8 (x.toNat:Int)):=by
   unfold bytesRow;rw[a1e (by simp;exact hi)]
   have m:(E l).data[i]? = some x:=by
    rw[<-Array.getElem?_toList,show(E l).data.toList=l from cW l];exact X
   simp[m]
  rw[bM]
  have n:(w.drew.alloc (.cells (bytesRow (E l) cap) 5 fr)).heap[w.heap.size]? = some (.cells (bytesRow (E l) cap) 5 fr):=by
   exact heap_alloc_new w.drew _
  unfold World.cell?;simp only[n];exact I
 rw[aF]at f;refine⟨_,_,f,?_,?_,(Below.refl _ _).drew.alloc (ag _) _⟩
 ·refine⟨cap,by rw[Lib.byteCells_length];exact c,hle,.inr ⟨w.heap.size,0,Oc,by rw[Lib.byteCells_length],λj k=>?_⟩⟩
  rw[Lib.byteCells_length]at k;rw[hcell _ j l[j] (aG k)];simp[Lib.byteCells]
 refine⟨some ⟨w.heap.size,0,none⟩,cap,rfl,λh=>(by cases h),λa e i x X=>?_⟩;obtain rfl:=bj e;rw[addr_add];exact hcell _ i x X
section
variable {ops:Array Oper} {rest:List Oper} {o:Oper} {a:Act} {w:H} {Q:Exit->Act->H->Prop}
theorem iq(e:o.guard=none)(src dst:TypeId)(x:Operand)(f:o.op=.convert src dst x)(v:Z)(X:a.eval x=v){c:Z}{d:H}(g:(convert src dst v).run prog w=.ok c d)(h:wpList prog ops Q rest (a.put o.dst c) d):wpList prog ops Q (o::rest) a w:=by
 refine wpList_plain e λK hK=>?_;unfold Oper.wp execOp;simp only[f,X,Sem.run_bind,Sem.run_pure,Result.andThen_ok,g];exact hK _ _ h
end
theorem tX(l:O)(v nv:Z)(G d:Nat)(w:H)(h:Sl w.heap.size w v (Lib.byteCells l))(r:l.length<=900000000)(n:w.cell? ⟨G,0,none⟩=some (.int .u8 0))(k:Lib.HoldsBytes w nv ny) :
  Calls prog 56 #[v,.slice (some ⟨G,0,none⟩) 1 d,nv] w λe j=>∃ p,e=.returned p/\Sl j.heap.size j p (Lib.byteCells (dY l))/\r7 w j:=by
 have q:=F<|zQ l v nv G d w h r n k;clear h n k;go_enter func56,ntmps56
 go_wp2_with (first
  |(go_at_call 94;refine(q.o).m ?_;rintro e w2 ⟨v2,rfl,f,c⟩;have i:=F f;have g:=F c;clear f c))
 go_ret;exact⟨v2,rfl,i.o,g.o⟩
theorem Mq(w:H):gB prog 57 #[.int .i64 65533] w (S ny):=by
 have h:=fK 65533 w;rw[Cj]at h;exact h
theorem MM(l:O)(v:Z)(w:H)(h:Sl w.heap.size w v (Lib.byteCells l))(hl:l.length<=900000000)(hz:(dY l).length<=900000000)(T:(kz (dY l)).length<=900000000)(P:Env w) :
  bF prog 30 #[v] w (S (jw l)):=by
 have HH:=F h;have HE:=F P.1;have z:=F T;have B:=F hz;have HL:=F hl;obtain⟨R,J⟩:=V (jw l);rw[<-J];have HR:=F (show R=pl (kz (dY l))from J);have s:∀ W,(Instr.buildSlice 25 1 #[(0,.int .u8 0)]).run prog W=.ok (.slice (some ⟨W.heap.size,0,none⟩) 1 1) (W.alloc (.cells #[.int .u8 0] 5)):=λW=>Rz;have K:=F s;clear h P hz T J s hl;go_enter func30,ntmps30
 go_upto_region 1 with fail
 have d:(w.alloc (.cells #[.int .u8 0] 5)).cell? ⟨w.heap.size,0,none⟩=some (.int .u8 0):=by rw[World.cell?_alloc_mark];rfl
 have c:Below w.heap.size w (w.alloc (.cells #[.int .u8 0] 5)):=(Below.refl _ _).alloc (ag _) _;obtain⟨w2,g⟩:=V (w.alloc (.cells #[.int .u8 0] 5));rw[<-g]at d c;obtain⟨nv,w3,t,_,L,f⟩:=Wa ny w2 P8;have x:=(f.cell (p:=⟨w.heap.size,0,none⟩) (World.block_lt_of_cell? _ _ d)).trans d;have y:=c.trans (f.m c.size);have M:=F<|tX l v nv w.heap.size 1 w3 ((HH.o.below y).more y.size) HL.o x L;have i:=F y;have k:=F g;have j:=F t;clear x y f L t d c g
 go_upto_region 2 with(first
  |(refine yg rfl 25 1 #[(0,.const (.int .u8 0))] rfl (.slice (some ⟨w.heap.size,0,none⟩) 1 1) w2 #[(0,.int .u8 0)] (by simp only[m9,dh,pz];rfl) (by rw[k.o];exact K.o w) ?_)
  |(go_at_call 57;refine(Mq _).m ?_;rintro e w4 ⟨rfl,hw4⟩;subst w4)
  |(refine iq rfl 9 25 (.tmp 5) rfl _ rfl j.o ?_)
  |(go_at_call 56;refine(M.o).m ?_;rintro e w4 ⟨v4,rfl,u,n⟩;have C:=F u;have D:=F<|i.o.trans (n.m i.o.size);clear u n))
 clear M j k K
 go_wp2_with (first
  |(go_at_call 58;refine(a08 (dY l) v4 _ C.o (am B.o P8) (HE.o.below D.o)).m ?_;rintro e w5 ⟨rfl,q⟩;have N:=F<|D.o.trans (q.m D.o.size);clear q)
  |(go_at_call 45;refine(Ch (kz (dY l)) _ z.o).m ?_;rintro e w6 ⟨rfl,r⟩;have j8:=F<|N.o.trans (r.m N.o.size);clear r))
 go_ret;exact⟨by rw[HR.o];rfl,j8.o⟩
end Go.Proofs.YtpbnfjdkdfombaaGreatDoor
set_option maxHeartbeats 40000000
namespace Go.Proofs.YtpbnfjdkdfombaaGreatDoor
open Tryz
open Go.RowKit
set_option maxRecDepth 10000
structure a2T (kind:Int) (s:O):Prop where
 l:s.length<=900000000
 u:∀ c∈jF s,c.url.length<=1048576
 s:kind≠2->s.length<=1000000
theorem Lp(kind:Int)(c:Url)(bv:Z)(s:O)(w:H)(g:c.host.six.length=8)(e:Sl w.heap.size w bv (c.path.map S))(d:Bs c.path)(f:a2T kind s)(i:Env w) :
  Calls prog 29 #[.int .i64 kind,.agg (ai bv c),.string (E s)] w (jz w (mg kind c s)):=by
 by_cases Y:kind=1
 ·subst Y
  exact Lr c bv s w g e d (am (f.s P8) P8) i
 by_cases I:kind=2
 ·subst I
  exact Gi c bv s w g e d f.l f.u i
 by_cases j:kind=3
 ·subst j
  cases k:Dx s with
  |none=>exact Lq s k c bv w g e d (f.s P8) i
  |some r =>
   obtain⟨dl,h,m⟩:=r;cases h with
   |true=>exact Ls s dl m k c bv w g e d (f.s P8) i
   |false=>exact Gh s dl m k c bv w g e d (f.s P8) i
 have:mg kind c s=⟨[],[]⟩:=by unfold mg;rw[if_neg Y,if_neg I,if_neg j]
 rw[this];exact CZ kind Y I j c bv (E s) w
theorem a5I(w:H)(bv:Z)(u:Url):∃ W,(w.alloc (.cells (ai bv u) 34)).alloc (.cells (bD aI []) 44)=W/\CB W w.heap.size 34 (ai bv u)/\OB w (w.heap.size+1) 44 (bD aI []) W:=by
 have X:=CB.new w 34 (ai bv u);have U:=(Below.refl w.heap.size w).alloc (ag _) (.cells (ai bv u) 34);obtain⟨w1,d⟩:=V (w.alloc (.cells (ai bv u) 34));have e:w1.heap.size=w.heap.size+1:=by rw[d];simp
 rw[<-d]at X U ⊢;have hy:=CB.new w1 44 (bD aI []);have c:=(Below.refl w1.heap.size w1).alloc (ag _) (.cells (bD aI []) 44);rw[e]at hy;exact⟨_,rfl,X.keep c,OB.of hy (gQ _) (dw U c)⟩
theorem RI{v:Z}{d:O}(Y:v.oneCell'=true):∀ u ∈ [v,S d],u.oneCell'=true:=by
 intro u hu;simp only[aK,cV,or_false]at hu;rcases hu with rfl|rfl
 ·exact Y
 rfl
structure TX (kind:Int) (l:O):Prop where
 n:l.length<=900000000
 z:(dY l).length<=900000000
 d:(kz (dY l)).length<=900000000
 r:a2T kind (jw l)
theorem WD{l:O}(kind:Int)(hl:l.length<=10000):TX kind l:=by
 have Y:=xk l;have I:=nT _ (dY l) (ag _);have h3:=uw _ (kz (dY l)) (ag _)
 have d:(jw l).length<=1000000:=by
  unfold jw;omega
 exact⟨M0,M0,M0,M0,λc e=>am ((oV _).2 c e).1 M0,λ_=>d⟩
theorem Du(kind:Int)(c:Url)(bv:Z)(l:O)(v:Z)(w:H)(y:c.host.six.length=8)(p:Sl w.heap.size w bv (c.path.map S))(k:Bs c.path)(h:Sl w.heap.size w v (Lib.byteCells l))(q:TX kind l)(M:Env w) :
  Calls prog 13 #[.int .i64 kind,.agg (ai bv c),v] w (jz w (mg kind c (jw l))):=by
 obtain⟨R,N⟩:=V (mg kind c (jw l));obtain⟨t,P⟩:=V (E (jw l));have J:=F<|λW (U:r7 w W)=>(show bF prog 30 #[v] W (.string t)from by rw[P];exact MM l v W ((h.below U).more U.size) q.n q.z q.d (M.below U));have C:=F<|λW (U:r7 w W)=>(show Calls prog 29 #[.int .i64 kind,.agg (ai bv c),.string t] W (jz W R)from by rw[P,N];exact Lp kind c bv (jw l) W y ((p.below U).more U.size) k q.r (M.below U));have H8:=F y;have D:=F (show(prog.info? 34).map (·.size)=some (ai bv c).size by rw[kJ y];exact iJ);rw[<-N];clear N P y p k h q M;obtain⟨W2,s,k1,k2⟩:=a5I w bv c;have K1:=F k1;have K2:=F k2;have L:=F s;clear k1 k2 s;go_enter func13,ntmps13
 go_upto_region 1 with(first
  |((with_reducible apply bS);refine aM rfl 44 rfl _ _ (pC _) ?_))
 rw[L.o];have f:=F<|K1.o.keep (bG (bg _));have T:=F<|K2.o.below (bG (bg _));refine wp_region_held_drew (S:=λW=>CB W w.heap.size 34 (ai bv c)) Rz (by with_reducible first|exact u.o|exact B.o|exact i.o|exact g.o|exact f.o) (λhHeld=>?_);refine ek 0 ?_;refine tq 1 rfl ?_ (λwS hSw=>?_) ?_;rotate_left
 ·(try dsimp only at hSw)
  refine je 34 (.tmp 4) ?_ w.heap.size (ai bv c) _ underlying34 rfl D.o ?_ ?_
  ·rfl
  ·rfl
  exact hSw
 try simp only[Act.put,fH,fI,fJ]
 refine ek 2 ?_;refine rn 3 Rz rfl r5 (λK hK=>?_)
 go_simp
 refine(J.o _ T.o.bL).m ?_;rintro e w2 ⟨rfl,U⟩;have g:=F<|f.o.keep U;have x:=F<|T.o.below U;clear U;refine hK.out _ _ ?_ (λhHeld=>?_)
 ·with_reducible first|exact u.o|exact B.o|exact i.o|exact g.o|exact f.o
 clear hK K;refine rn 4 Rz rfl r5 (λK hK=>?_)
 go_simp
 refine(C.o _ x.o.bL).m ?_;rintro e w3 ⟨v3,rfl,ir,U⟩;have i:=F<|g.o.keep U;have I3:=F<|x.o.below U;have j:=F ir;clear U ir;refine hK.out _ _ ?_ (λhHeld=>?_)
 ·with_reducible first|exact u.o|exact B.o|exact i.o|exact g.o|exact f.o
 clear hK K;refine rn 5 Rz rfl r5 (λK hK=>?_);refine j5 44 (.tmp 6) (.tmp 11) rfl w (w.heap.size+1) 44 (bD aI []) I3.o 0 [v3,S R.delay] rfl rfl (bW rfl) mS (RI (fa.one' j.o)) (bD v3 R.delay) rfl ?_;intro w5 i5 t5;have I5:=F i5;have u:=F<|t5.cb i.o (cO (bV _));have NA:=F<|j.o.tn t5 x.o.lt;clear i5 t5;refine hK.out _ _ ?_ (λhHeld=>?_)
 ·with_reducible first|exact u.o|exact B.o|exact i.o|exact g.o|exact f.o
 clear hK K
 try simp only[Act.put]
 refine wpAnyH_done Rz ?_ _;go_wp2_with fail;exact tE results13 rfl I5.o ⟨v3,rfl,NA.o.base x.o.bL.size,I5.o.bL⟩
