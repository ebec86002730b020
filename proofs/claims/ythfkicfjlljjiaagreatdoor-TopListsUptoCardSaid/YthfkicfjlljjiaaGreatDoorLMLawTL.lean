/- The walk of TopLists, for texts up to 1048576 bytes. -/
import Derived.Test.YthfkicfjlljjiaaGreatDoorLGTrP
set_option maxHeartbeats 40000000
namespace Go.Proofs.YthfkicfjlljjiaaGreatDoor
open Tryz
open Go.RowKit
set_option maxRecDepth 10000
theorem Ff{o:Oper}{a:Act}{w:H}{K:Act->H->Prop}{Q:Exit->Act->H->Prop}(d:o.op=.alloc 34)
  (h:∀ (g:Nat) (c:H),OB w g 34 (ai aI U0) c->K (a.put o.dst (.pointer (some ⟨g,0,none⟩))) c):Oper.wp prog o a w K Q:=by
 unfold Oper.wp execOp;simp only[d,Sem.run_bind,Sem.run_pure,Result.andThen_ok,eD];exact h _ _ (OB.fresh w _ _)
structure KT (w W:H) (p:qh) (sv hv tv:Z) (g:Nat) (A:Z) (u:Url):Prop where
 b:r7 w W
 e:Env W
 n:NE W
 c:CB W w.heap.size 24 (aY sv hv tv p.most)
 y:CB W g 34 (ai A u)
 s:Sl W.heap.size W A (u.path.map S)
theorem KT.below{w W a:H}{p:qh}{f d i:Z}{g:Nat}{A:Z}{u:Url}(h:KT w W p f d i g A u)(U:r7 W a):KT w a p f d i g A u :=
 ⟨h.b.trans (U.m h.b.size),h.e.below U,h.n.below U,h.c.keep U,h.y.keep U,(h.s.below U).more U.size⟩
theorem a14(s:O)(w:H)(h:s.length<=1024000000):Calls prog 11 #[.string (E s)] w λe f=>∃ a c,e=.returned (.slice a (wds s).length c)/\r7 w f :=
 (a13 s w h).m λe f ⟨v,Y,I,d⟩=>by
  rw[ay]at I;rcases I.2 with⟨rfl,h0⟩|⟨g,cap,cur,rfl,_⟩
  ·exact⟨none,0,by rw[Y,h0],d⟩
  exact⟨_,_,Y,d⟩
theorem b9r{s:O}{m:Nat}(hm:s.length=m+1):Lib.hasSuffix s [44]=decide (G (s[m]' M0)=44):=by
 have e:s=s.take m++[s[m]' M0]:=by rw[<-List.take_succ_eq_append_getElem M0,aP M0]
 rw[bX,decide_eq_true_eq];unfold Lib.hasSuffix;rw[a9b];constructor
 ·rintro⟨a,c⟩
  rw[e]at c;have:=q9 c rfl;injection this with h _
  rw[<-h];decide
 intro h;have I:s[m]' M0=44:=eX (h.trans P8);exact⟨s.take m,by rw[<-I];exact e.symm⟩
section
variable {ops:Array Oper} {rest:List Oper} {o:Oper} {a:Act} {w:H} {Q:Exit->Act->H->Prop}
theorem b8d(d:Region.wanted o (yielded ops a.tmps)=true)(x:Operand)(f:o.op=.convert 9 46 x)(l:O)(X:a.eval x=S l)(e:l.length<=maxLen)
  (h:∀ v c,Sl c.heap.size c v (Lib.byteCells l)->r7 w c->wpList prog ops Q rest (a.put o.dst v) c):wpList prog ops Q (o::rest) a w:=by
 unfold wpList;rw[if_pos d];exact .inl (a1W x f l X e h)
theorem c4b{t:ByteArray}(c:Region.wanted o (yielded ops a.tmps)=true)(x:Operand)(d:o.op=.build 44 #[(0,.const (.int .i64 3)),(2,x)])(X:a.eval x=.string t)(K:wpList prog ops Q rest (a.put o.dst (.agg (bH 3 0 t))) w):wpList prog ops Q (o::rest) a w :=
 jl c _ _ d _ #[(0,.int .i64 3),(2,.string t)] (by simp[X];rfl) (Ip t) K
end
theorem topLists_walk(p:qh)(j f r:Z)(t:ByteArray)(lv:Z)(l:List O)(nv:Z)(ns:List Int)(w:H)(hp:BB w j f r p)(_:t.size<=maxLen)(hl:Sl w.heap.size w lv (l.map S))(hn:Sl w.heap.size w nv (d8 ns))(hwf:∀ n∈ns,(Lit.int .i64 n).wf=true)(ub:t.size<=1048576)(hE:Env w)(hN:NE w) :
  bF prog 3 #[.agg (aY j f r p.most),.string t,lv,nv] w (.bool true):=by
 have YF:=F<|λW (U:r7 w W)=>a12 W (hE.below U) (hN.below U);have HF1:=F<|λW (U:r7 w W)=>KV p j f r W (hp.below U);obtain⟨u,q,h8,hq,hba⟩:=a11 t w ub hE;have H8:=F h8;have HQ:=F hq;have xt:=F hba;obtain⟨N,mc⟩:=V (l.length);obtain⟨M,Z1⟩:=V (ns.length)
 obtain⟨al,cl,rfl⟩:∃ a c,lv=.slice a N c:=by
  obtain⟨a,c,e⟩:=cQ hl;exact⟨a,c,by rw[e,ay,mc]⟩
 obtain⟨an,cn,rfl⟩:∃ a c,nv=.slice a M c:=by
  obtain⟨a,c,e⟩:=cQ hn;exact⟨a,c,by rw[e,ay,Z1]⟩
 have S1:=F mc;have HML:=F Z1;have HL:=F hl;have HNS:=F hn;have HWF:=F hwf;have HP:=F hp;have HE:=F hE;have HN:=F hN;obtain⟨W,hw,c1,G⟩:=a3E w 24 (aY j f r p.most);have C1:=F c1;have B2:=F G;have HW:=F hw;clear c1 G hw hp hl hn hwf hE hN h8 hq hba mc Z1;go_enter func3,ntmps3
 go_upto_region 1 with fail
 rw[HW.o]
 go_upto_region 4 with(first|(go_at_call 5;refine(YF.o _ B2.o).m ?_;rintro e w3 ⟨rfl,U⟩;have B3:=F<|dw B2.o U;have D1:=F<|C1.o.keep U;clear U)|((with_reducible apply bS);first|refine fj r5 (.tmp 4) rfl w.heap.size j f r p.most rfl D1.o ?_|(refine aM rfl 34 rfl _ _ (eD _) ?_;refine fL rfl (.tmp 11) (.tmp 25) rfl A u H8.o O5.o rfl rfl rfl ?_;intro w6 h3 U;have B6:=F<|dw B5.o U;have K:=F (show KT w w6 p j f r w5.heap.size A u from⟨B6.o,HE.o.below B6.o,HN.o.below B6.o,G1.o.keep U,h3,(S5.o.below U).more U.size⟩);clear h3 U))|(go_at_call 6;refine(HF1.o _ B3.o).m ?_;rintro e w4 ⟨⟨b1,rfl,hf1⟩,U⟩;have F1:=F hf1;have B4:=F<|dw B3.o U;have E1:=F<|D1.o.keep U;clear U hf1)|(go_at_call 7;refine(xt.o _ B4.o).m ?_;rintro e w5 ⟨A,rfl,Y,hs,_,U⟩;have B5:=F<|dw B4.o U;have G1:=F<|E1.o.keep U;have S5:=F hs;have O5:=F Y;clear U hs Y))
 obtain⟨g11,hg⟩:=V (w5.heap.size);rw[<-hg]at K ⊢;clear hg C1 B2 HW YF HF1 xt B3 D1 B4 E1 B5 G1 S5 O5 B6 HE HN;cases b1 with
 |false =>
  go_wp2_with fail;go_ret;exact⟨rfl,K.o.b⟩
 |true =>
 cases q with
 |false =>
  go_wp2_with fail;go_ret;exact⟨rfl,K.o.b⟩
 |true =>
 by_cases h6:(6:Int)<N
 ·go_wp2_with fail
  go_ret;exact⟨rfl,K.o.b⟩
 by_cases hMN:¬ M=N
 ·have q1:((M:Int) != N)=true:=by simpa[Int.ofNat_inj]using hMN
  have q2:¬ (M:Int)=N:=M0;go_wp2_with fail;go_ret;exact⟨rfl,K.o.b⟩
 have hMN:=Decidable.not_not.mp hMN;subst hMN;have q1:((M:Int) != M)=false:=Oc;have hM6:M<=6:=M0;obtain⟨U,ht⟩:=HQ.o rfl;have HB:=F U;have HT:=F ht;have HPF:=F<|F1.o rfl;have mW:=F<|λ(v:Url) (x:Z) (hv2:zK v) (hz:(dA v false).length<=1000000000) W (U:r7 w W) (hs:Sl W.heap.size W x (v.path.map S))=>RB p v j f r x W ((HP.o.below U).at (F1.o rfl)) hv2 hs hz;have HUB:=F (show zK u from a2s M0 U);clear U ht HQ F1
 go_upto_region 8 with fail
 have hLn:M<=6:=hM6;clear h6 q1
 go_loopw [13,14,15,16,17] (λav iv _ _ _ wr=>∃ (k:Nat) (ab:ByteArray) (L:List eu),k<=M/\iv=.int .i64 k/\av=.string ab/\Hid (ab=E (ij L))/\Hid (∀i∈L,LIn p i)/\Hid (L.length<=k)/\Hid (KT w wr p j f r g11 A u)) (λ_ iv _ _ _ _=>M-(intOf iv).toNat)
 exact⟨0,⟨#[]⟩,[],aL _,rfl,rfl,F rfl,F (λi hi=>by cases hi),F (ag _),K⟩
 clear K;obtain⟨k,ab,L,hk,rfl,rfl,z,B,xM,K⟩:=hrel;by_cases hlt:k<M
 ·have hkl:k<l.length:=by have:=S1.o;omega
  have hkn:k<ns.length:=by have:=HML.o;omega
  obtain⟨bl,ol,rfl,hbl,hcy⟩:=gO (HL.o.below K.o.b) k hkl;obtain⟨bn,on,rfl,hbn,hcn⟩:=wJ (HNS.o.below K.o.b) k hkn;obtain⟨y,hy⟩:=V (l[k]);obtain⟨n,hn⟩:=V (ns[k])
  have hn9:-9223372036854775808<=n/\n<=9223372036854775807:=by
   have:=HWF.o ns[k] (be hkn);rw[<-hn]at this;simp[Lit.wf,IntKind.min,IntKind.max,IntKind.signed,IntKind.bits]at this;omega
  rw[<-hy]at hcy;rw[<-hn]at hcn;obtain⟨yb,hyb⟩:=V (E y);rw[show S y=.string yb by rw[hyb]]at hcy;have hys:yb.size=y.length:=by rw[hyb,aF]
  have Xb:=F hyb;have HCY:=F hcy;have WS:=F hcn;have lZ:=F (show bl<wr.heap.size from aN hbl K.o.b.size);have HBN:=F (show bn<wr.heap.size from aN hbn K.o.b.size);clear hy hn hyb hcn hbl hbn hkl hkn;by_cases c4i:(200:Int)<yb.size
  ·go_wp2_with fail
   go_ret;exact⟨rfl,K.o.b⟩
  have hy2:y.length<=200:=M0;have HY2:=F hy2
  have SY:=F<|λW (U:r7 wr W)=>(show Calls prog 8 #[.agg (ai A u),.string yb] W λe w'=>∃ pj,e=.returned (.tuple #[.agg (ai pj (ef u y []).url),.bool (ef u y []).right])/\w'.ownsRow W.heap.size 9 1 pj (ef u y []).url.path.length (Strs (ef u y []).url.path)/\r7 W w' from by
   rw[Xb.o];exact b9f u A y W H8.o ((K.o.s.below U).more U.size) HUB.o.b M0 (K.o.e.below U))
  have hok:zK (ef u y []).url:=b9e HT.o M0 HB.o [];obtain⟨c,hc⟩:=V (ef u y []);rw[<-hc]at SY hok;have T:=F hc;obtain⟨d,huk⟩:=V (c.url);obtain⟨ik,hik⟩:=V (c.right);rw[<-huk,<-hik]at SY;rw[<-huk]at hok;have HUK:=F huk;have HIK:=F hik;have K8:=F hok.six;have Kd:=F hok;clear hc huk hik hok hy2 hys
  go_upto_region 12 with fail
  clear hcy c4i
  go_cut [15,16]from 59 to 67 (λv15 v16 wx=>∃ (g15:Nat) (pk:Z),v15=.pointer (some ⟨g15,0,none⟩)/\v16=.bool ik/\Hid (CB wx g15 34 (ai pk d))/\Hid (wx.ownsRow wr.heap.size 9 1 pk d.path.length (Strs d.path))/\Hid (r7 wr wx))
  case first =>
   refine wp_region_held_drew (S:=λW=>r7 wr W) Rz (by first|exact R.o|exact E2.o|exact E1.o|exact hHeld|exact bG (bg _)) (λhHeld=>?_);refine tq 0 rfl ?_ (λwS hSw=>?_) ?_;rotate_left
   ·(try dsimp only at hSw)
    refine q8 (.tmp 11) ?_ g11 A u H8.o ?_ ?_
    ·rfl
    ·rfl
    exact K.o.y.keep hSw
   try simp only[Act.put,fH,fI,fJ]
   refine ek 1 ?_;refine ek 2 ?_;refine ek 3 ?_;refine tq 4 rfl ?_ (λwS hSw=>?_) ?_;rotate_left
   ·(try dsimp only at hSw)
    refine bK 9 (.tmp 63) ?_ bl (ol+k) (.string yb) _ underlying9 rfl ?_ ?_
    ·rfl
    ·rfl
    exact(hSw.cell (p:=⟨bl,ol+k,none⟩) lZ.o).trans HCY.o
   try simp only[Act.put,fH,fI,fJ]
   refine rn2 5 9 Rz rfl r5 ?_ rfl r5 ?_
   ·intro K hK
    go_simp
    refine(SY.o _ hHeld).m ?_;rintro e w5 ⟨pk,rfl,ok,U⟩;have E1:=F<|hHeld.trans (U.m hHeld.size);have OK5:=F ok;have LB:=F hHeld.size
    try have HGB:=F IF.o.lt
    try have IF:=F<|IF.o.below U
    clear U ok;refine hK.out _ _ ?_ (λhHeld=>?_)
    ·first|exact R.o|exact E2.o|exact E1.o|exact hHeld|exact bG (bg _)
    clear hK K
    try simp only[Act.put,fH,fI,fJ]
    refine ek 6 ?_;refine ek 7 ?_;refine ek 8 ?_;refine rn 9 Rz rfl r5 (λK hK=>?_);refine Ff rfl ?_;intro g14 wa ia
    try have OKw:=OK5
    have EW:=F hHeld;have E2:=F<|hHeld.trans (ia.bL.m hHeld.size);have IF:=F ia;clear ia;refine hK.out _ _ ?_ (λhHeld=>?_)
    ·first|exact R.o|exact E2.o|exact E1.o|exact hHeld|exact bG (bg _)
    clear hK K
    try simp only[Act.put,fH,fI,fJ]
    refine rn 10 Rz rfl r5 (λK hK=>?_);refine j5 34 (.tmp 15) (.tmp 66) rfl _ g14 34 (ai aI U0) IF.o 0 (cu pk d) rfl rfl (by rw[oF K8.o];exact bW rfl) (by rw[oF K8.o];exact iJ) (xe (bm OK5.o)) (ai pk d) (rz rfl K8.o) ?_;intro w7 i7 t7;have I7:=F i7;have R:=F<|EW.o.trans (i7.bL.m EW.o.size);have OK7:=F (show w7.ownsRow wr.heap.size 9 1 pk d.path.length (Strs d.path)from by first|exact il (own_below' OKw.o i7.bL) LB.o|exact il (t7.row OK5.o HGB.o) LB.o);have UK:=F i7.cb;clear i7 t7 I7 EW IF;refine hK.out _ _ ?_ (λhHeld=>?_)
    ·first|exact R.o|exact E2.o|exact E1.o|exact hHeld|exact bG (bg _)
    clear hK K
    try simp only[Act.put]
    refine ek 11 ?_;refine wpAnyH_done Rz ?_ _;go_wp2_with fail
    go_meet
    exact⟨g14,pk,rfl,rfl,UK,OK7,R⟩
   intro K hK;refine Ff rfl ?_;intro g14 wa ia
   try have OKw:=OK5
   have EW:=F hHeld;have E2:=F<|hHeld.trans (ia.bL.m hHeld.size);have IF:=F ia;clear ia;refine hK.out _ _ ?_ (λhHeld=>?_)
   ·first|exact R.o|exact E2.o|exact E1.o|exact hHeld|exact bG (bg _)
   clear hK K
   try simp only[Act.put,fH,fI,fJ]
   refine rn 5 Rz rfl r5 (λK hK=>?_)
   go_simp
   refine(SY.o _ hHeld).m ?_;rintro e w5 ⟨pk,rfl,ok,U⟩;have E1:=F<|hHeld.trans (U.m hHeld.size);have OK5:=F ok;have LB:=F hHeld.size
   try have HGB:=F IF.o.lt
   try have IF:=F<|IF.o.below U
   clear U ok;refine hK.out _ _ ?_ (λhHeld=>?_)
   ·first|exact R.o|exact E2.o|exact E1.o|exact hHeld|exact bG (bg _)
   clear hK K
   try simp only[Act.put,fH,fI,fJ]
   refine ek 6 ?_;refine ek 7 ?_;refine ek 8 ?_;refine rn 10 Rz rfl r5 (λK hK=>?_);refine j5 34 (.tmp 15) (.tmp 66) rfl _ g14 34 (ai aI U0) IF.o 0 (cu pk d) rfl rfl (by rw[oF K8.o];exact bW rfl) (by rw[oF K8.o];exact iJ) (xe (bm OK5.o)) (ai pk d) (rz rfl K8.o) ?_;intro w7 i7 t7;have I7:=F i7;have R:=F<|EW.o.trans (i7.bL.m EW.o.size);have OK7:=F (show w7.ownsRow wr.heap.size 9 1 pk d.path.length (Strs d.path)from by first|exact il (own_below' OKw.o i7.bL) LB.o|exact il (t7.row OK5.o HGB.o) LB.o);have UK:=F i7.cb;clear i7 t7 I7 EW IF;refine hK.out _ _ ?_ (λhHeld=>?_)
   ·first|exact R.o|exact E2.o|exact E1.o|exact hHeld|exact bG (bg _)
   clear hK K
   try simp only[Act.put]
   refine ek 11 ?_;refine wpAnyH_done Rz ?_ _;go_wp2_with fail
   go_meet
   exact⟨g14,pk,rfl,rfl,UK,OK7,R⟩
  case rest =>
   obtain⟨g15,pk,rfl,rfl,UK,OK7,R⟩:=hcut;obtain⟨wy,hwy⟩:=V (wc);rw[<-hwy]at UK R OK7 ⊢;clear hwy SY;have K2:=F<|K.o.below R.o;have PK:=F<|Sl.g9 (sB OK7.o);obtain⟨s,hs⟩:=V (dA d true);obtain⟨C,hsb⟩:=V (E s)
   have hsl:s.length<=35600:=by
    rw[hs,HUK.o,T.o];exact b8p HT.o HY2.o HB.o
   have HSW:=F (show bF prog 9 #[.agg (ai pk d),.bool true] wy (.string C)from by rw[hsb,hs];exact b8W d pk wy Kd.o PK.o K2.o.n);have HSE:=F hs;have D:=F hsb;clear OK7 hs hsb
   go_upto_region 14 with(first|((with_reducible apply bS);refine cR r5 (.tmp 15) rfl g15 pk d K8.o rfl UK.o ?_)|(go_at_call 9;refine(HSW.o).m ?_;rintro e wz ⟨rfl,U⟩;have EZ:=F<|dw R.o U;have K3:=F<|K2.o.below U;have UZ:=F<|UK.o.keep U;have PZ:=F<|(PK.o.below U).more U.size;clear U))
   clear K2 HSW UK PK R;have HZ:=F (show(dA d false).length<=1000000000 from am (a0P _) (by rw[<-HSE.o];omega));obtain⟨q2,hq2⟩:=V (uP p d);have HA2:=F<|λW (U:r7 w W) (hs2:Sl W.heap.size W pk (d.path.map S))=>(show bF prog 10 #[.agg (aY j f r p.most),.agg (ai pk d)] W (.bool q2)from by rw[hq2];exact mW.o d pk Kd.o HZ.o W U hs2);obtain⟨wl,hwl⟩:=V ((wds s).length);have HWD:=F<|λW=>(show Calls prog 11 #[.string C] W λe w'=>∃ a c,e=.returned (.slice a wl c)/\r7 W w' from by rw[D.o,hwl];exact a14 s W M0);obtain⟨stb,b9c⟩:=V (E (trimB mw s));have HST:=F<|λW=>(show bP prog 12 #[.string C] W (.string stb)from by rw[D.o,b9c];exact Mv s W M0);have a4G:(stb.toList==C.toList)=decide (trimB mw s=s):=by rw[b9c,D.o,aB,aB,jB]
   have Z2:(stb.toList != C.toList)=!decide (trimB mw s=s):=by unfold bne;rw[a4G]
   obtain⟨a3,ha3⟩:=V (decide (trimB mw s=s));rw[<-ha3]at a4G Z2;obtain⟨kp,hkp⟩:=V ((ik&&q2&&ti s));have HKP:=F hkp;have HQ2:=F hq2
   have HFW:=F<|λ(e:ik=true)=>(show s ≠ []/\ti s=(decide (wl=1)&&a3 && !(Lib.hasSuffix s [44]))from by
    have hg:=a24 HB.o (show(ef u y []).right=true by rw[<-T.o,<-HIK.o];exact e);rw[<-T.o,<-HUK.o]at hg;have I:=Fi hg;rw[<-HSE.o]at I;exact⟨I.1,by rw[PF I.1 I.2,hwl,ha3]⟩)
   have eM:=F (show C.size=s.length by rw[D.o,aF]);have HAT:=F<|λ(m:Nat) (hm:s.length=m+1) (Y:m<C.size)=>(show((C[m]'Y).toNat:Int)=G (s[m]' M0)from cy D.o Y M0);clear hwl b9c ha3 hkp hq2
   go_cut [101]from 70 to 101 (λcv wx=>cv=.bool (!kp)/\Hid (r7 wz wx))
   case first =>
    cases ik with
    |false =>
     have HX:=F (show kp=false by rw[HKP.o];rfl);clear a4G Z2;go_wp2_with fail
     go_meet
     exact⟨by rw[HX.o];rfl,F (Below.refl _ _)⟩
    |true =>
     obtain⟨hs0,hfw⟩:=HFW.o rfl;have Hs:=F hfw;clear hfw;cases q2 with
     |false =>
      have HX:=F (show kp=false by rw[HKP.o];rfl);clear a4G Z2 hs0
      go_wp2_with (first|((with_reducible apply bS);first|refine fj r5 (.tmp 4) rfl w.heap.size j f r p.most rfl K3.o.c ?_|refine cR r5 (.tmp 15) rfl g15 pk d K8.o rfl UZ.o ?_)|(go_at_call 10;refine(HA2.o _ K3.o.b PZ.o).m ?_;rintro e w1 ⟨rfl,U⟩;have J1:=F U;clear U))
      go_meet
      exact⟨by rw[HX.o];rfl,J1⟩
     |true =>
      have hKF:=(show kp=ti s by rw[HKP.o];rfl);have HKF:=F hKF;clear hKF;obtain⟨m,hm⟩:∃ m,s.length=m+1:=⟨s.length-1,by have:=eo.mpr hs0;omega⟩;have hms:m<C.size:=by have:=eM.o;omega
      have X:=HAT.o m hm hms;have hsf:=b9r hm;obtain⟨c4,hc4⟩:=V (G (s[m]' M0));rw[<-hc4]at X hsf;obtain⟨Z',hZ⟩:=V (C.size);have hsZ:C.size=Z':=hZ.symm;have hZm:Z'=m+1:=by have:=eM.o;omega
      have hwr:IntKind.i64.wrap ((Z':Int)-1)=(m:Int):=by rw[show(Z':Int)-1=(m:Int) by omega];exact IntWalk.i64_in _ M0
      have z1:¬ C.toList=[]:=by rw[D.o,aB];exact hs0
      have z2:C.toList.isEmpty=false:=by simpa using z1
      have YE:=F hsf;clear hs0 hm hc4 hZ hZm hsf hsl;by_cases e44:c4=44
      ·have HX:=F (show kp=false by rw[HKF.o,Hs.o,YE.o,decide_eq_true e44];simp)
       rw[e44]at X;clear a4G Z2 e44
       go_wp2_with (first|((with_reducible apply bS);first|refine fj r5 (.tmp 4) rfl w.heap.size j f r p.most rfl K3.o.c ?_|refine cR r5 (.tmp 15) rfl g15 pk d K8.o rfl UZ.o ?_)|(go_at_call 10;refine(HA2.o _ K3.o.b PZ.o).m ?_;rintro e w1 ⟨rfl,U⟩;have J1:=F U;clear U))
       go_meet
       exact⟨by rw[HX.o];rfl,J1⟩
      have q44:(c4==44)=false:=by simpa using e44
      by_cases ew:wl=1
      ·have qw:((wl:Int) != 1)=false:=by rw[ew];rfl
       have HX:=F (show kp=a3 by rw[HKF.o,Hs.o,YE.o,decide_eq_true ew,decide_eq_false e44];simp);clear e44 ew;cases a3 with
       |false =>
        go_wp2_with (first|((with_reducible apply bS);first|refine fj r5 (.tmp 4) rfl w.heap.size j f r p.most rfl K3.o.c ?_|refine cR r5 (.tmp 15) rfl g15 pk d K8.o rfl UZ.o ?_)|(go_at_call 10;refine(HA2.o _ K3.o.b PZ.o).m ?_;rintro e w1 ⟨rfl,U⟩;have J1:=F U;clear U)|(go_at_call 11;refine(HWD.o _).m ?_;rintro e w2 ⟨aw,cw,rfl,U⟩;have J:=F<|dw J1.o U;clear U)|(go_at_call 12;refine(HST.o _).m ?_;rintro e w3 ⟨rfl,hw⟩;subst w3))
        go_meet
        exact⟨by rw[HX.o];rfl,J⟩
       |true =>
        go_wp2_with (first|((with_reducible apply bS);first|refine fj r5 (.tmp 4) rfl w.heap.size j f r p.most rfl K3.o.c ?_|refine cR r5 (.tmp 15) rfl g15 pk d K8.o rfl UZ.o ?_)|(go_at_call 10;refine(HA2.o _ K3.o.b PZ.o).m ?_;rintro e w1 ⟨rfl,U⟩;have J1:=F U;clear U)|(go_at_call 11;refine(HWD.o _).m ?_;rintro e w2 ⟨aw,cw,rfl,U⟩;have J:=F<|dw J1.o U;clear U)|(go_at_call 12;refine(HST.o _).m ?_;rintro e w3 ⟨rfl,hw⟩;subst w3))
        go_meet
        exact⟨by rw[HX.o];rfl,J⟩
      have qw:((wl:Int) != 1)=true:=by
       have:¬ (wl:Int)=1:=M0
       simpa using this
      have HX:=F (show kp=false by rw[HKF.o,Hs.o,decide_eq_false ew];rfl);clear e44 ew a4G Z2
      go_wp2_with (first|((with_reducible apply bS);first|refine fj r5 (.tmp 4) rfl w.heap.size j f r p.most rfl K3.o.c ?_|refine cR r5 (.tmp 15) rfl g15 pk d K8.o rfl UZ.o ?_)|(go_at_call 10;refine(HA2.o _ K3.o.b PZ.o).m ?_;rintro e w1 ⟨rfl,U⟩;have J1:=F U;clear U)|(go_at_call 11;refine(HWD.o _).m ?_;rintro e w2 ⟨aw,cw,rfl,U⟩;have J:=F<|dw J1.o U;clear U))
      go_meet
      exact⟨by rw[HX.o];rfl,J⟩
   case rest =>
    obtain⟨rfl,EB⟩:=hcut;obtain⟨wq,hwq⟩:=V (wc);rw[<-hwq]at EB ⊢;clear hwq a4G Z2 HA2 HWD HST HFW HAT UZ PZ;have K4:=F<|K3.o.below EB.o;have EQ:=F<|dw EZ.o EB.o;cases kp with
    |false =>
     clear hsl;go_wp2_with fail;go_roundw
     exact⟨k+1,ab,L,M0,by go_num,rfl,z,B,F (by have:=xM.o;omega),K4⟩
     simp[intOf];omega
    |true =>
     have hcn:=(show wq.cell? ⟨bn,on+k,none⟩=some (.int .i64 n)from(EQ.o.cell (p:=⟨bn,on+k,none⟩) HBN.o).trans WS.o);obtain⟨L2,hL2⟩:=V (L++[(⟨true,d,wdW n⟩:eu)])
     have TB:=F (show ∀i∈L2,LIn p i from λi hi=>by
      rw[hL2]at hi;rcases bO.mp hi with hi|hi
      ·exact B.o i hi
      obtain rfl:=dS.mp hi;have hk:=HKP.o;rw[eq_comm,f8,f8]at hk;obtain⟨⟨k1,k2⟩,k3⟩:=hk;have:=b8q (p:=p) (b:=u) (t:=ls t) (y:=y) (n:=n) HT.o HY2.o HB.o (by rw[<-T.o,<-HIK.o];exact k1) (by rw[<-T.o,<-HUK.o,<-HQ2.o];exact k2) (by rw[<-T.o,<-HUK.o,<-HSE.o];exact k3) hn9.2;rw[<-T.o,<-HUK.o]at this;exact this)
     have HL2:=F (show L2.length<=k+1 by rw[hL2,ae];have:=xM.o;show _+1<=_;omega);have hls:=P7 L ⟨true,d,wdW n⟩;rw[<-hL2,X5,<-HSE.o]at hls;have hlz:=ur B.o;have hLk:=xM.o;have c4D:ab.size<=213612:=by rw[z.o,aF];omega
     have hnil:=Fg (L:=L) λi hi=>(B.o i hi).l.g;have HIT:=F<|λW=>(show bF prog 13 #[.int .i64 n] W (S (Lib.itoa n))from a6a n W hn9.1 hn9.2);have hil:=Da n hn9.1 hn9.2;have hsz:C.size<=35600:=by have:=eM.o;omega
     obtain⟨v2,hv2⟩:=V (E ((if L=[]then []else ij L++[44,32])++s));obtain⟨v1,hv1⟩:=V (E (ij L++[44,32]));have e1:ab++⟨#[44,32]⟩=v1:=by rw[hv1,z.o];exact mm (ij L) [44,32]
     have c4P:v1.size<=213614:=by rw[<-e1,ByteArray.size_append];show ab.size+2<=_;omega
     have e2:(L=[]->ab++C=v2/\ab.toList=[])/\(¬L=[]->v1++C=v2/\¬ ab.toList=[]):=by
      constructor
      ·intro h
       rw[hv2,if_pos h,z.o,D.o,h];exact⟨mm [] s,by rw[aB];rfl⟩
      intro h;rw[hv2,if_neg h,hv1,D.o];exact⟨mm _ s,by rw[z.o,aB];exact λe=>h (hnil.mp e)⟩
     have c4Q:v2.size<=249300:=by
      by_cases h:L=[]
      ·rw[<-(e2.1 h).1,ByteArray.size_append];omega
      rw[<-(e2.2 h).1,ByteArray.size_append];omega
     obtain⟨v3,hv3⟩:=V (v2++⟨#[32]⟩);obtain⟨tb,htb⟩:=V (E (Lib.itoa n));obtain⟨v4,hv4⟩:=V (v3++tb);obtain⟨v5,hv5⟩:=V (v4++⟨#[119]⟩);have htz:tb.size<=21:=by rw[htb,aF];exact hil
     have c4R:v3.size<=249301:=by rw[hv3,ByteArray.size_append];show v2.size+1<=_;omega
     have c4S:v4.size<=249400:=by rw[hv4,ByteArray.size_append];omega
     rw[show S (Lib.itoa n)=.string tb by rw[htb]]at HIT
     have HV:=F (show(0<n->v5=E (ij L2))/\(¬0<n->v2=E (ij L2)) by
      constructor
      ·intro h
       rw[if_pos h]at hls;rw[hls,hv5,hv4,hv3,hv2,htb];rw[show(⟨#[32]⟩:ByteArray)=E [32]from rfl,show(⟨#[119]⟩:ByteArray)=E [119]from rfl,mm,mm,mm];simp only[bB]
      intro h;rw[if_neg h]at hls;rw[hls,hv2,aV])
     have e3:v2++⟨#[32]⟩=v3:=hv3.symm;have e4:v3++tb=v4:=hv4.symm;have e5:v4++⟨#[119]⟩=v5:=hv5.symm;have n1:¬ 9223372036854775807<ab.size+2:=M0;have n2:¬ 9223372036854775807<v1.size+C.size:=M0;have n2':¬ 9223372036854775807<ab.size+C.size:=M0;have n3:¬ 9223372036854775807<v2.size+1:=M0;have n4:¬ 9223372036854775807<v3.size+tb.size:=M0;have n5:¬ 9223372036854775807<v4.size+1:=M0;clear hv2 hv1 hv3 hv4 hv5 htb hls hlz hLk c4D hnil hil hsz hsl c4P c4Q c4R c4S htz hL2 z B xM hn9;by_cases P:L=[]
     ·obtain⟨e6,z3⟩:=e2.1 P
      have z4:ab.toList.isEmpty=true:=by rw[z3];rfl
      clear e2 e1 P;by_cases hn0:0<n
      ·have HV5:=F<|HV.o.1 hn0
       clear HV
       go_wp2_with (first|(go_at_call 13;refine(HIT.o _).m ?_;rintro e w2 ⟨rfl,U⟩;have J:=F<|K4.o.below U;clear U))
       go_roundw
       exact⟨k+1,v5,L2,M0,by go_num,rfl,HV5,TB,HL2,J⟩
       simp[intOf];omega
      have HV2:=F<|HV.o.2 hn0;clear HV e3 e4 e5;go_wp2_with fail;go_roundw
      exact⟨k+1,v2,L2,M0,by go_num,rfl,HV2,TB,HL2,K4⟩
      simp[intOf];omega
     obtain⟨e6,z3⟩:=e2.2 P;have z4:ab.toList.isEmpty=false:=by simpa using z3
     clear e2 P;by_cases hn0:0<n
     ·have HV5:=F<|HV.o.1 hn0
      clear HV
      go_wp2_with (first|(go_at_call 13;refine(HIT.o _).m ?_;rintro e w2 ⟨rfl,U⟩;have J:=F<|K4.o.below U;clear U))
      go_roundw
      exact⟨k+1,v5,L2,M0,by go_num,rfl,HV5,TB,HL2,J⟩
      simp[intOf];omega
     have HV2:=F<|HV.o.2 hn0;clear HV e3 e4 e5;go_wp2_with fail;go_roundw
     exact⟨k+1,v2,L2,M0,by go_num,rfl,HV2,TB,HL2,K4⟩
     simp[intOf];omega
 obtain rfl:k=M:=M0;obtain⟨x,X⟩:=V (qM (ij L));have hlz:=ur B.o;have hLk:=xM.o;have hxe:=Co (ij L);rw[<-X]at hxe;have hxl:x.length<=1068060:=M0;obtain⟨xb,hxb⟩:=V (E x);have HES:=F<|λW=>(show bF prog 14 #[.string ab] W (.string xb)from by rw[z.o,hxb,X];exact FB (ij L) W M0);have Xa:=F hxl;have HX:=F X;have HXB:=F hxb;have hnil:=Fg (L:=L) λi hi=>(B.o i hi).l.g;obtain⟨X',hX⟩:=V (xb.size);have hXs:xb.size=X':=hX.symm;have HXX:=F (show X'=x.length by rw[hX,hxb,aF]);have hzz:(L=[]->ab.toList=[])/\(¬L=[]->¬ ab.toList=[]):=⟨λh=>by rw[z.o,aB,h];rfl,λh=>by rw[z.o,aB];exact λe=>h (hnil.mp e)⟩;clear X hlz hLk hxe hxl hxb hnil hX HL HNS HWF mW
 go_upto_region 21 with(first|(go_at_call 14;refine(HES.o _).m ?_;rintro e w2 ⟨rfl,U⟩;have J:=F<|K.o.below U;clear U))
 clear K HES;by_cases P:L=[]
 ·have z3:=hzz.1 P
  have z4:ab.toList.isEmpty=true:=by rw[z3];rfl
  clear hzz;go_wp2_with fail;go_ret;exact⟨rfl,J.o.b⟩
 have z3:=hzz.2 P;have z4:ab.toList.isEmpty=false:=by simpa using z3
 obtain⟨mo,hmo⟩:=V (p.most);have Yx:=F hmo;have Bv:=F (show(aY j f r p.most)[3]? = some (.int .i64 mo) by rw[hmo];rfl);clear hzz hmo;by_cases hm:mo<(X':Int)
 ·go_wp2_with (first|((with_reducible apply bS);refine tY r5 (.tmp 130) rfl w.heap.size 3 24 (aY j f r p.most) J.o.c (.int .i64 mo) Bv.o rfl ?_))
  go_ret;exact⟨rfl,J.o.b⟩
 have WV:=F<|λW (h:KT w W p j f r g11 A u) (ev:Z) (hs:Sl W.heap.size W ev (Lib.byteCells x))=>(show bF prog 15 #[.agg (aY j f r p.most),.agg (ai A u),.string ⟨#[105,109,103]⟩,.string ⟨#[115,114,99,115,101,116]⟩,ev] W (.agg (bH 3 0 xb))from by
  have hk:=QR (p:=p) (b:=u) (t:=ls t) HB.o P B.o (by rw[<-HX.o,<-HXX.o,<-Yx.o];omega);have I:=vr p u [105,109,103] [115,114,99,115,101,116] x ev j f r A W ((HP.o.below h.b).at HPF.o) HUB.o h.s (am (AQ (oG (L:=300) HT.o M0 HB.o) (qQ (kG HB.o)) (ag _)) M0) ⟨P8,P8⟩ hs (λ_=>by rw[HX.o];exact QP B.o (by have:=xM.o;omega)) h.e h.n;rw[HX.o,hk,<-HX.o]at I;rw[HXB.o];exact I)
 have EG:=F (show x.length<=maxLen by have:=Xa.o;unfold maxLen;omega);have b8H:=F (show Value.string xb=S x by rw[HXB.o])
 go_upto_region 23 with(first|((with_reducible apply bS);refine tY r5 (.tmp 130) rfl w.heap.size 3 24 (aY j f r p.most) J.o.c (.int .i64 mo) Bv.o rfl ?_))
 clear hm z3 z4
 go_wp2_with (first|((with_reducible apply bS);first|refine fj r5 (.tmp 4) rfl w.heap.size j f r p.most rfl J.o.c ?_|refine cR r5 (.tmp 11) rfl g11 A u H8.o rfl J.o.y ?_|(refine b8d r5 (.tmp 139) rfl x b8H.o EG.o ?_;intro ev w3 hs U;have J3:=F<|J.o.below U;have SE:=F hs;clear hs U)|refine c4b r5 (.tmp 142) rfl rfl ?_|refine eqS r5 (.tmp 141) (.tmp 143) rfl rfl rfl ?_)|(go_at_call 15;refine(WV.o _ J3.o ev SE.o).m ?_;rintro e w4 ⟨rfl,U⟩;have J4:=F<|J3.o.below U;clear U))
 go_ret;exact⟨rfl,J4.o.b⟩
