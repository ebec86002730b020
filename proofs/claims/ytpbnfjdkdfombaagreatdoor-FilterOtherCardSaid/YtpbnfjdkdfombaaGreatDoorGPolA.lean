/- Joined texts. -/
import Derived.Test.YtpbnfjdkdfombaaGreatDoorGRdsL
set_option maxHeartbeats 40000000
namespace Go.Proofs.YtpbnfjdkdfombaaGreatDoor
open Tryz
open Go.RowKit
set_option maxRecDepth 10000
variable{w':H}{hv sv tv:Z}{h:gF}
theorem qG(l:List O)(x:O)(v:Z)(w:H){B:Nat}(h:Sl B w v (l.map S))(hl:l.length<=1024000000) :
  bP prog 59 #[v,.string (E x)] w (.bool (decide (x∈l))):=by
 obtain⟨c,Y,I,h⟩:=h;rcases h with⟨i,a,rfl⟩|⟨b,o,U,rfl,g⟩
 ·obtain rfl:l=[]:=by simpa using i
  refine(Any.slices_Contains_string_empty laysCon a c (E x) w).m ?_;rintro e w' ⟨rfl,rfl⟩;exact⟨by rw[decide_eq_false Oc],rfl⟩
 refine(Any.slices_Contains_string laysCon b o (l.map S).length c (l.map E) (E x) w Oc (by simp;omega) (λj d=>by
  rw[ay]at d;rw[g j (by simpa using d),oX d,cU])).m ?_
 rintro e w' ⟨rfl,rfl⟩;refine⟨?_,rfl⟩
 have f:Lib.containsS ((l.map E).take (l.map S).length) (E x)=decide (x∈l):=by
  rw[aP Oc,bX,Lib.containsS_iff,decide_eq_true_eq,dt];constructor
  ·rintro⟨y,hy,e⟩
   rw[<-Og e];exact hy
  exact λh=>⟨x,h,rfl⟩
 rw[f]
abbrev aY(sv hv tv:Z)(m:Int):Array Z:=#[sv,hv,tv,.int .i64 m]
structure f9 (w:H) (sv hv tv:Z) (p:qh):Prop where
 s:Sl w.heap.size w sv (p.schemes.map S)
 h:Sl w.heap.size w hv (p.hosts.map S)
 t:Sl w.heap.size w tv (p.types.map S)
 n:p.schemes.length<=1000/\p.hosts.length<=1000/\p.types.length<=1000
 x:∀ y∈p.hosts,List.length y<=1000000
theorem f9.below{w:H}{p:qh}(h:f9 w sv hv tv p)(U:r7 w w'):f9 w' sv hv tv p :=
 ⟨(h.s.below U).more U.size,(h.h.below U).more U.size,(h.t.below U).more U.size,h.n,h.x⟩
theorem Dm(p:qh)(x:O)(sv hv tv:Z)(w:H)(h:f9 w sv hv tv p):bF prog 33 #[.agg (aY sv hv tv p.most),.string (E x)] w (.bool (decide (x∈p.schemes))):=by
 have g:=F<|λW (U:r7 w W)=>qG p.schemes x sv W (h.s.below U) (by have:=h.n;omega);have f:=F<|CB.new w 24 (aY sv hv tv p.most);have c:=F<|(Below.refl w.heap.size w).alloc (ag _) (.cells (aY sv hv tv p.most) 24);obtain⟨w1,a⟩:=V (w.alloc (.cells (aY sv hv tv p.most) 24));rw[<-a]at f c;have d:=F a;obtain⟨q,i⟩:=V (decide (x∈p.schemes));obtain⟨xb,X⟩:=V (E x);rw[<-i,<-X]at g ⊢;clear a i X h;go_enter func33,ntmps33
 go_upto_region 1 with fail
 rw[<-d.o]
 go_wp2_with (first
  |((with_reducible apply bS);refine yx rfl (.tmp 5) rfl w.heap.size 24 (aY sv hv tv p.most) f.o 0 sv rfl rfl ?_)
  |(go_at_call 59;refine(g.o _ c.o).m ?_;rintro e w2 ⟨rfl,hw⟩;subst w2))
 go_ret;exact⟨rfl,c.o⟩
theorem L5(p:qh)(x:O)(sv hv tv:Z)(w:H)(h:f9 w sv hv tv p):bF prog 36 #[.agg (aY sv hv tv p.most),.string (E x)] w (.bool (decide (x∈p.types))):=by
 have g:=F<|λW (U:r7 w W)=>qG p.types x tv W (h.t.below U) (by have:=h.n;omega);have f:=F<|CB.new w 24 (aY sv hv tv p.most);have c:=F<|(Below.refl w.heap.size w).alloc (ag _) (.cells (aY sv hv tv p.most) 24);obtain⟨w1,a⟩:=V (w.alloc (.cells (aY sv hv tv p.most) 24));rw[<-a]at f c;have d:=F a;obtain⟨q,i⟩:=V (decide (x∈p.types));obtain⟨xb,X⟩:=V (E x);rw[<-i,<-X]at g ⊢;clear a i X h;go_enter func36,ntmps36
 go_upto_region 1 with fail
 rw[<-d.o]
 go_wp2_with (first
  |((with_reducible apply bS);refine yx rfl (.tmp 5) rfl w.heap.size 24 (aY sv hv tv p.most) f.o 2 tv rfl rfl ?_)
  |(go_at_call 59;refine(g.o _ c.o).m ?_;rintro e w2 ⟨rfl,hw⟩;subst w2))
 go_ret;exact⟨rfl,c.o⟩

section
variable {ops:Array Oper} {rest:List Oper} {o:Oper} {a:Act} {w:H} {Q:Exit->Act->H->Prop}
theorem tY(d:Region.wanted o (yielded ops a.tmps)=true)(x:Operand)(e:o.op=.load 3 x)(b k:Nat)(T:TypeId)(cs:Array Z)(i:CB w b T cs)(v:Z)(c:cs[k]? = some v)(X:a.eval x=.pointer (some ⟨b,k,none⟩))(K:wpList prog ops Q rest (a.put o.dst v) w):wpList prog ops Q (o::rest) a w :=
  nj d v (bK 3 x e b k v _ underlying3 rfl X (i.aE c)) K
theorem FO(d:Region.wanted o (yielded ops a.tmps)=true)(x:Operand)(e:o.op=.load 9 x)(b k:Nat)(T:TypeId)(cs:Array Z)(i:CB w b T cs)(v:Z)(c:cs[k]? = some v)(X:a.eval x=.pointer (some ⟨b,k,none⟩))(K:wpList prog ops Q rest (a.put o.dst v) w):wpList prog ops Q (o::rest) a w :=
  nj d v (bK 9 x e b k v _ underlying9 rfl X (i.aE c)) K
theorem gwr(d:Region.wanted o (yielded ops a.tmps)=true)(x:Operand)(e:o.op=.load 22 x)(b k:Nat)(T:TypeId)(cs:Array Z)(i:CB w b T cs)(v:Z)(c:cs[k]? = some v)(X:a.eval x=.pointer (some ⟨b,k,none⟩))(K:wpList prog ops Q rest (a.put o.dst v) w):wpList prog ops Q (o::rest) a w :=
  nj d v (bK 22 x e b k v _ underlying22 rfl X (i.aE c)) K
end
theorem qd(w:H)(c i:TypeId)(d j:Array Z):∃ W,(w.alloc (.cells d c)).alloc (.cells j i)=W/\W.heap.size=w.heap.size+2/\CB W w.heap.size c d/\CB W (w.heap.size+1) i j/\r7 w W:=by
  have X:=CB.new w c d;have U:=(Below.refl w.heap.size w).alloc (ag _) (.cells d c);obtain⟨w1,f⟩:=V (w.alloc (.cells d c));have g:w1.heap.size=w.heap.size+1:=by rw[f];simp
  rw[<-f]at X U ⊢;have hy:=CB.new w1 i j;have e:=(Below.refl w1.heap.size w1).alloc (ag _) (.cells j i);refine⟨_,rfl,by simp[g],X.keep e,?_,dw U e⟩;rw[<-g];exact hy
theorem Vh(u m:O)(w:H)(hu:u.length<=1024000000):bP prog 62 #[.string (E u),.string (E m)] w (.bool (Lib.hasSuffix u m)):=by
  have h:=Any.strings_HasSuffix laysHS (E u) (E m) w (by rw[aF];omega);rw[show(E u).data.toList=u from cW u,show(E m).data.toList=m from cW _]at h;exact h
theorem h_size(c:h.six.length=8):(aT h).size=11:=by simp[aS,c]
theorem PG:(prog.info? 32).map (·.size)=some 11:=Rz
theorem ZZ(ok:sV h):By (aT h) h:=CS ok
theorem LZ(p:qh)(h:gF)(sv hv tv:Z)(w:H)(hp:f9 w sv hv tv p)(ok:sV h)(K:h.name.length<=102400000)(hN:NE w) :
    bF prog 34 #[.agg (aY sv hv tv p.most),.agg (aT h)] w (.bool (mC p h)):=by
  have MZ:=F<|λW (U:r7 w W)=>vJ h (aT h) W (ZZ ok) K (hN.below U);obtain⟨R,hR⟩:=V (mC p h);rw[<-hR];have HR:=F hR;obtain⟨i,C⟩:=V (h.kind);have u:=F (show(aT h)[0]? = some (.int .i64 i) by rw[C];rfl);have t:=F C;obtain⟨nb,J⟩:=V (E h.name);have rE:=F (show(aT h)[1]? = some (.string nb) by rw[J];rfl);have MW:=F J;have S1:=F K;have eM:=F<|h_size ok.l;obtain⟨tb,L⟩:=V (E (lJ h));have Hy:=F L;have zG:=F (show ∀W,r7 w W->bF prog 60 #[.agg (aT h)] W (.string tb)from by rw[L];exact MZ.o);obtain⟨N,hN⟩:=V (p.hosts.length);have d:=F hN
  obtain⟨av,cc,hhv⟩:∃ a c,hv=.slice a N c:=by
    obtain⟨a,c,e⟩:=cQ hp.h;exact⟨a,c,by rw[e,ay,hN]⟩
  have mX:=F (show N<=1000 by rw[hN];exact hp.n.2.1);have Xa:=F hp.x;subst hhv;have HHV:=F<|λW (U:r7 w W)=>hp.h.below U;clear MZ hR C J L hN hp ok K;obtain⟨W,hw,hsz,c1,c2,G⟩:=qd w 24 32 (aY sv (.slice av N cc) tv p.most) (aT h);have C1:=F c1;have y:=F c2;have B2:=F G;have HW:=F hw;have HSW:=F hsz;clear c1 c2 G hw hsz;by_cases k0:i=0
  · have d:=F (show R=true by rw[HR.o];unfold mC;rw[decide_eq_true (.inl (by rw[<-t.o];exact k0))];rfl)
    go_enter func34,ntmps34
    go_upto_region 1 with fail
    rw[HW.o];subst k0
    go_wp2_with (first
      |((with_reducible apply bS);refine tY r5 (.tmp 8) rfl (w.heap.size+1) 0 32 (aT h) y.o (.int .i64 0) u.o rfl ?_))
    go_ret;exact⟨by rw[d.o];rfl,B2.o⟩
  by_cases k1:i=1
  · have d:=F (show R=true by rw[HR.o];unfold mC;rw[decide_eq_true (.inr (by rw[<-t.o];exact k1))];rfl)
    go_enter func34,ntmps34
    go_upto_region 1 with fail
    rw[HW.o];subst k1
    go_wp2_with (first
      |((with_reducible apply bS);refine tY r5 (.tmp 8) rfl (w.heap.size+1) 0 32 (aT h) y.o (.int .i64 1) u.o rfl ?_)
      |((with_reducible apply bS);refine tY r5 (.tmp 12) rfl (w.heap.size+1) 0 32 (aT h) y.o (.int .i64 1) u.o rfl ?_))
    go_ret;exact⟨by rw[d.o];rfl,B2.o⟩
  have HRH:=F (show R=p.hosts.any (mD h) by
    rw[HR.o];unfold mC
    rw[decide_eq_false (by rw[<-t.o];rintro(e|e);· exact k0 e
                           exact k1 e)]
    rfl)
  have q0:(i==0)=false:=by simpa using k0
  have q1:(i==1)=false:=by simpa using k1
  go_enter func34,ntmps34
  go_upto_region 1 with fail
  rw[HW.o]
  go_upto_region 4 with(first
    |((with_reducible apply bS);refine tY r5 (.tmp 8) rfl (w.heap.size+1) 0 32 (aT h) y.o (.int .i64 i) u.o rfl ?_)
    |((with_reducible apply bS);refine tY r5 (.tmp 12) rfl (w.heap.size+1) 0 32 (aT h) y.o (.int .i64 i) u.o rfl ?_)
    |((with_reducible apply bS);refine vR r5 32 (.tmp 3) rfl (w.heap.size+1) (aT h) _ underlying32 rfl (by rw[eM.o];exact PG) rfl y.o ?_)
    |(go_at_call 60;refine(zG.o _ B2.o).m ?_;rintro e w3 ⟨rfl,U⟩;have T:=F<|dw B2.o U;have D1:=F<|C1.o.keep U;have s:=F<|y.o.keep U;clear U))
  go_upto_region 5 with(first
    |((with_reducible apply bS);refine gwr r5 (.tmp 18) rfl w.heap.size 1 24 (aY sv (.slice av N cc) tv p.most) D1.o (.slice av N cc) rfl rfl ?_))
  obtain⟨w4,P⟩:=V (w3);have H4:=F P;rw[<-P]at T D1 s ⊢;clear P C1 y B2 HW zG HR;have oP:N<=1000:=mX.o
  go_loopw [7,21] (λ_ iv wr=>∃ k:Nat,k<=N/\iv=.int .i64 k/\Hid (∀j (B:j<p.hosts.length),j<k->mD h p.hosts[j]=false)/\w4=wr) (λ_ iv _=>N-(intOf iv).toNat)
  case atStart=>exact⟨0,M0,Oc,λj B h=>M0,rfl⟩
  case round =>
    obtain⟨k,hk,rfl,hd,rfl⟩:=hrel;by_cases hlt:k<N
    · have D:k<p.hosts.length:=by have:=d.o;omega
      have X:=Xa.o _ (be D);obtain⟨b,o,rfl,hbb,hcc⟩:=gO (HHV.o _ T.o) k D;have g:=F (λ(e:mD h p.hosts[k]=true)=>show R=true by rw[HRH.o];exact m8.mpr ⟨_,be D,e⟩)
      have f:=F (λ(e:mD h p.hosts[k]=false)=>show ∀j (B:j<p.hosts.length),j<k+1->mD h p.hosts[j]=false from λj B hjk=>by
        by_cases e2:j=k
        · subst e2;exact e
        exact hd.o j B M0)
      have hh:mD h p.hosts[k]=(decide (p.hosts[k]=lJ h)||decide (p.hosts[k]=[42])||(Lib.hasPrefix p.hosts[k] [46]&&decide (h.kind=2)&&decide (p.hosts[k].length<h.name.length)&&Lib.hasSuffix h.name p.hosts[k])):=rfl;rw[hh]at g f;rw[<-t.o]at g f;clear hh hd;generalize p.hosts[k]=x at hcc X g f;obtain⟨xb,q⟩:=V (E x);rw[show S x=.string xb by rw[q]]at hcc;have e1:(xb.toList==tb.toList)=decide (x=lJ h):=by rw[q,Hy.o,aB,aB,jB]
      have e2:(xb.toList == [42])=decide (x=[42]):=by rw[q,aB,jB]
      have rH:=λW=>mE x [46] W;have r:=λW=>Vh h.name x W (am S1.o P8);rw[<-q]at rH r;rw[<-MW.o]at r;obtain⟨M,hM⟩:=V (h.name.length);obtain⟨X',hX⟩:=V (x.length);have hMs:nb.size=M:=by rw[MW.o,aF,hM]
      have hXs:xb.size=X':=by rw[q,aF,hX]
      rw[<-hM,<-hX]at g f;generalize decide (x=lJ h)=r1 at e1 g f;generalize decide (x=[42])=r2 at e2 g f;generalize Lib.hasPrefix x [46]=r3 at rH g f;generalize Lib.hasSuffix h.name x=r6 at r g f;have tS:=F (show ∀W,bP prog 61 #[.string xb,.string ⟨#[46]⟩] W (.bool r3)from rH);have SX:=F r;clear rH r q hM hX X;cases r1 with
      |true =>
        have d:=F<|g.o Oc;clear g f;go_wp2_with fail;go_ret;exact⟨by rw[d.o];rfl,T.o⟩
      |false =>
        cases r2 with
        |true =>
          have d:=F<|g.o Oc;clear g f;go_wp2_with fail;go_ret;exact⟨by rw[d.o];rfl,T.o⟩
        |false =>
          cases r3 with
          |false =>
            have d:=F<|f.o Oc;clear g f
            go_wp2_with (first
              |(go_at_call 61;refine(tS.o _).m ?_;rintro e v ⟨rfl,hw⟩;subst v))
            go_roundw
            case rel=>exact⟨k+1,M0,by go_num,d.o,by trivial⟩
            case measure=>simp[intOf];omega
          |true =>
            by_cases z:i=2
            · have q2:(i==2)=true:=by rw[z];rfl
              by_cases h5:X'<M
              · have h5i:(X':Int)<M:=by omega
                cases r6 with
                |true =>
                  have d:=F<|g.o (by rw[decide_eq_true z,decide_eq_true h5];rfl);clear g f z
                  go_wp2_with (first
                    |((with_reducible apply bS);refine tY r5 (.tmp 35) rfl (w.heap.size+1) 0 32 (aT h) s.o (.int .i64 i) u.o rfl ?_)
                    |((with_reducible apply bS);refine FO r5 (.tmp 40) rfl (w.heap.size+1) 1 32 (aT h) s.o (.string nb) rE.o rfl ?_)
                    |((with_reducible apply bS);refine FO r5 (.tmp 48) rfl (w.heap.size+1) 1 32 (aT h) s.o (.string nb) rE.o rfl ?_)
                    |(go_at_call 61;refine(tS.o _).m ?_;rintro e v ⟨rfl,hw⟩;subst v)
                    |(go_at_call 62;refine(SX.o _).m ?_;rintro e x2 ⟨rfl,hw⟩;subst x2))
                  go_ret;exact⟨by rw[d.o];rfl,T.o⟩
                |false =>
                  have d:=F<|f.o (by rw[decide_eq_true z,decide_eq_true h5];rfl);clear g f z
                  go_wp2_with (first
                    |((with_reducible apply bS);refine tY r5 (.tmp 35) rfl (w.heap.size+1) 0 32 (aT h) s.o (.int .i64 i) u.o rfl ?_)
                    |((with_reducible apply bS);refine FO r5 (.tmp 40) rfl (w.heap.size+1) 1 32 (aT h) s.o (.string nb) rE.o rfl ?_)
                    |((with_reducible apply bS);refine FO r5 (.tmp 48) rfl (w.heap.size+1) 1 32 (aT h) s.o (.string nb) rE.o rfl ?_)
                    |(go_at_call 61;refine(tS.o _).m ?_;rintro e v ⟨rfl,hw⟩;subst v)
                    |(go_at_call 62;refine(SX.o _).m ?_;rintro e x2 ⟨rfl,hw⟩;subst x2))
                  go_roundw
                  case rel=>exact⟨k+1,M0,by go_num,d.o,by trivial⟩
                  case measure=>simp[intOf];omega
              have h5i:¬ (X':Int)<M:=M0;have d:=F<|f.o (by rw[decide_eq_false h5];simp);clear g f z
              go_wp2_with (first
                |((with_reducible apply bS);refine tY r5 (.tmp 35) rfl (w.heap.size+1) 0 32 (aT h) s.o (.int .i64 i) u.o rfl ?_)
                |((with_reducible apply bS);refine FO r5 (.tmp 40) rfl (w.heap.size+1) 1 32 (aT h) s.o (.string nb) rE.o rfl ?_)
                |(go_at_call 61;refine(tS.o _).m ?_;rintro e v ⟨rfl,hw⟩;subst v))
              go_roundw
              case rel=>exact⟨k+1,M0,by go_num,d.o,by trivial⟩
              case measure=>simp[intOf];omega
            have q2:(i==2)=false:=by simpa using z
            have d:=F<|f.o (by rw[decide_eq_false z];simp);clear g f
            go_wp2_with (first
              |((with_reducible apply bS);refine tY r5 (.tmp 35) rfl (w.heap.size+1) 0 32 (aT h) s.o (.int .i64 i) u.o rfl ?_)
              |(go_at_call 61;refine(tS.o _).m ?_;rintro e v ⟨rfl,hw⟩;subst v))
            go_roundw
            case rel=>exact⟨k+1,M0,by go_num,d.o,by trivial⟩
            case measure=>simp[intOf];omega
    obtain rfl:k=N:=M0
    have mh:=F (show R=false by
      rw[HRH.o,M6];intro x X;obtain⟨j,B,rfl⟩:=cC X;rw[hd.o j B (by rw[d.o];exact B)];simp)
    clear hd;go_wp2_with fail;go_ret;exact⟨by rw[mh.o];rfl,T.o⟩

section
variable {ops:Array Oper} {rest:List Oper} {o:Oper} {a:Act} {w:H} {Q:Exit->Act->H->Prop}
theorem wn:(prog.info? 24).map (·.size)=some 4:=Rz
theorem fj(c:Region.wanted o (yielded ops a.tmps)=true)(x:Operand)(d:o.op=.load 24 x)(b:Nat)(sv hv tv:Z)(m:Int)(X:a.eval x=.pointer (some ⟨b,0,none⟩))(i:CB w b 24 (aY sv hv tv m))(k:wpList prog ops Q rest (a.put o.dst (.agg (aY sv hv tv m))) w):wpList prog ops Q (o::rest) a w :=
 vR c 24 x d b (aY sv hv tv m) _ underlying24 rfl wn X i k
theorem XE(d:Region.wanted o (yielded ops a.tmps)=true)(x:Operand)(e:o.op=.load 32 x)(b:Nat)(A:Z)(u:Url)(c:u.host.six.length=8)(X:a.eval x=.pointer (some ⟨b,3,none⟩))(i:CB w b 34 (ai A u))(k:wpList prog ops Q rest (a.put o.dst (.agg (aT u.host))) w):wpList prog ops Q (o::rest) a w :=
 nj d _ (gU 32 x e b 3 (aS u.host) _ underlying32 rfl (by rw[show(aS u.host).length=11 by simp[aS,c]];exact PG) X (i.range (ry A u c).host)) k
end
theorem EQ(p:qh)(u:Url)(sv hv tv A:Z)(w:H)(hp:f9 w sv hv tv p)(h:zK u)(hs:Sl w.heap.size w A (u.path.map S))(hl:(dA u false).length<=1000000000)(hE:Env w)(hN:NE w) :
  bF prog 15 #[.agg (aY sv hv tv p.most),.agg (ai A u)] w (.bool (uP p u)):=by
 have H8:=F h.six;obtain⟨R,k⟩:=V (uP p u);rw[<-k];unfold uP Sw at k;have s:=λW (U:r7 w W)=>LM u A W h ((hs.below U).more U.size) hl (hE.below U) (hN.below U);have t:=λW (U:r7 w W)=>LZ p u.host sv hv tv W (hp.below U) h.ok.h h.sm.name (hN.below U);have j:=λW (U:r7 w W)=>Dm p u.aJ sv hv tv W (hp.below U);have J:=F<|λ(x:O) W (U:r7 w W)=>L5 p x sv hv tv W (hp.below U);obtain⟨f,d⟩:=V (E u.aJ);have B:=F (show(ai A u)[0]? = some (.string f) by rw[d];exact(ry A u h.six).aJ);rw[<-d]at j;obtain⟨r1,M⟩:=V (decide (u.aJ∈p.schemes));obtain⟨r2,N⟩:=V (mC p u.host);obtain⟨r3,i⟩:=V (decide (u.aJ=qI));have L:(f.toList == [100,97,116,97])=r3:=by rw[d,aB,jB,i];rfl
 have c:(f.toList=[100,97,116,97]) ↔ r3=true:=by rw[d,aB,i,decide_eq_true_eq];exact Iff.rfl
 rw[<-M]at j k;rw[<-N]at t k;rw[show decide (u.aJ≠qI)=!r3 by rw[i];simp]at k;obtain⟨E',K⟩:=V (BY u);rw[<-K]at s k;have rN:=F s;have WY:=F t;have rG:=F j;have D:=F k;clear s t j d M N i K k hp h hs hl hE hN;obtain⟨W,hw,hsz,c1,c2,G⟩:=qd w 24 34 (aY sv hv tv p.most) (ai A u);have q:=F c1;have r:=F c2;have z:=F G;have HW:=F hw;clear c1 c2 G hw hsz;cases r1 with
 |false =>
  have g:=F (show R=false by rw[D.o];rfl);clear L c;go_enter func15,ntmps15
  go_upto_region 1 with fail
  rw[HW.o]
  go_wp2_with (first
   |((with_reducible apply bS);refine fj r5 (.tmp 2) rfl w.heap.size sv hv tv p.most rfl q.o ?_)
   |((with_reducible apply bS);refine kA rfl (.tmp 8) rfl (w.heap.size+1) 34 (ai A u) r.o 0 (.string f) B.o rfl ?_)
   |(go_at_call 33;refine(rG.o _ z.o).m ?_;rintro e w3 ⟨rfl,U⟩;have l:=F<|dw z.o U;clear U))
  go_ret;exact⟨by rw[g.o];rfl,l.o⟩
 |true =>
  cases r2 with
  |false =>
   have g:=F (show R=false by rw[D.o];rfl);clear L c;go_enter func15,ntmps15
   go_upto_region 1 with fail
   rw[HW.o]
   go_wp2_with (first
    |(go_at_call 33;refine(rG.o _ z.o).m ?_;rintro e w3 ⟨rfl,U⟩;have l:=F<|dw z.o U;have T:=F<|q.o.keep U;have D2:=F<|r.o.keep U;clear U q r)
    |(go_at_call 34;refine(WY.o _ l.o).m ?_;rintro e w4 ⟨rfl,U⟩;have n:=F<|dw l.o U;clear U)
    |((with_reducible apply bS);refine fj r5 (.tmp 2) rfl w.heap.size sv hv tv p.most rfl q.o ?_)
    |((with_reducible apply bS);refine kA rfl (.tmp 8) rfl (w.heap.size+1) 34 (ai A u) r.o 0 (.string f) B.o rfl ?_)
    |((with_reducible apply bS);refine fj r5 (.tmp 2) rfl w.heap.size sv hv tv p.most rfl T.o ?_)
    |((with_reducible apply bS);refine XE r5 (.tmp 14) rfl (w.heap.size+1) A u H8.o rfl D2.o ?_))
   go_ret;exact⟨by rw[g.o];rfl,n.o⟩
  |true =>
   go_enter func15,ntmps15
   go_upto_region 1 with fail
   rw[HW.o]
   go_upto_region 3 with(first
    |(go_at_call 33;refine(rG.o _ z.o).m ?_;rintro e w3 ⟨rfl,U⟩;have l:=F<|dw z.o U;have T:=F<|q.o.keep U;have D2:=F<|r.o.keep U;clear U q r)
    |(go_at_call 34;refine(WY.o _ l.o).m ?_;rintro e w4 ⟨rfl,U⟩;have n:=F<|dw l.o U;have E1:=F<|T.o.keep U;have C:=F<|D2.o.keep U;clear U)
    |((with_reducible apply bS);refine fj r5 (.tmp 2) rfl w.heap.size sv hv tv p.most rfl q.o ?_)
    |((with_reducible apply bS);refine kA rfl (.tmp 8) rfl (w.heap.size+1) 34 (ai A u) r.o 0 (.string f) B.o rfl ?_)
    |((with_reducible apply bS);refine fj r5 (.tmp 2) rfl w.heap.size sv hv tv p.most rfl T.o ?_)
    |((with_reducible apply bS);refine XE r5 (.tmp 14) rfl (w.heap.size+1) A u H8.o rfl D2.o ?_))
   cases r3 with
   |false =>
    have hn:¬ f.toList=[100,97,116,97]:=λe=>by have:=c.mp e;cases this
    have g:=F (show R=true by rw[D.o];rfl);clear c
    go_wp2_with (first
     |((with_reducible apply bS);refine kA rfl (.tmp 19) rfl (w.heap.size+1) 34 (ai A u) C.o 0 (.string f) B.o rfl ?_))
    go_ret;exact⟨by rw[g.o];rfl,n.o⟩
   |true =>
    have hn:f.toList=[100,97,116,97]:=c.mpr rfl;clear c;cases E' with
    |none =>
     have g:=F (show R=false by rw[D.o];rfl)
     go_wp2_with (first
      |((with_reducible apply bS);refine kA rfl (.tmp 19) rfl (w.heap.size+1) 34 (ai A u) C.o 0 (.string f) B.o rfl ?_)
      |((with_reducible apply bS);refine cR r5 (.tmp 3) rfl (w.heap.size+1) A u H8.o rfl C.o ?_)
      |(go_at_call 35;refine(rN.o _ n.o).m ?_;rintro e w5 ⟨rfl,U⟩;have P:=F<|dw n.o U;clear U;dsimp only[z7]))
     go_ret;exact⟨by rw[g.o];rfl,P.o⟩
    |some x =>
     obtain⟨r4,v⟩:=V (decide (x∈p.types));have g:=F (show R=r4 by rw[D.o,v];simp);obtain⟨xb,y⟩:=V (E x);have a7l:=F (show ∀W,r7 w W->bF prog 35 #[.agg (ai A u)] W (.tuple #[.string xb,.bool true])from by rw[y];exact rN.o);have a78:=F (show ∀W,r7 w W->bF prog 36 #[.agg (aY sv hv tv p.most),.string xb] W (.bool r4)from by rw[y,v];exact J.o x);clear v y rN J
     go_wp2_with (first
      |((with_reducible apply bS);refine kA rfl (.tmp 19) rfl (w.heap.size+1) 34 (ai A u) C.o 0 (.string f) B.o rfl ?_)
      |((with_reducible apply bS);refine cR r5 (.tmp 3) rfl (w.heap.size+1) A u H8.o rfl C.o ?_)
      |(go_at_call 35;refine(a7l.o _ n.o).m ?_;rintro e w5 ⟨rfl,U⟩;have P:=F<|dw n.o U;have F1:=F<|E1.o.keep U;clear U)
      |((with_reducible apply bS);refine fj r5 (.tmp 2) rfl w.heap.size sv hv tv p.most rfl F1.o ?_)
      |(go_at_call 36;refine(a78.o _ P.o).m ?_;rintro e w6 ⟨rfl,U⟩;have B6:=F<|dw P.o U;clear U))
     go_ret;exact⟨by rw[g.o];rfl,B6.o⟩

theorem Qq{w:H}{b:Nat}{A wv:Z}{i:eu}(c:CB w b 48 (bC A wv i)):w.rangeAt b 1 (cu A i.url) :=
 Aq (o:=0) (c.range (o:=0) (vs:=bN A wv i) (λj v h=>by simpa using h))
theorem Lz(p:qh)(kind:Int)(i:eu)(sv hv tv A wv:Z)(x C:Nat)(w:H)(hp:f9 w sv hv tv p)(cp:CB w x 24 (aY sv hv tv p.most))(ck:CB w C 3 #[.int .i64 kind])(h:zK i.url)(P:Sl w.heap.size w A (i.url.path.map S))(hl:(dA i.url false).length<=1000000000)(hE:Env w)(N:NE w) :
  bF prog 39 #[.agg (bC A wv i),.pointer (some ⟨x,0,none⟩),.pointer (some ⟨C,0,none⟩)] w (.bool (jO p kind i)):=by
 have z:=F h.six;obtain⟨R,y⟩:=V (jO p kind i);rw[<-y];unfold jO at y;have l:=λW (U:r7 w W)=>EQ p i.url sv hv tv A W (hp.below U) h ((P.below U).more U.size) hl (hE.below U) (N.below U);have n:=λW (U:r7 w W)=>Pk i.url (ai A i.url) A W (lV A h.ok) ((P.below U).more U.size) h.sm (N.below U);obtain⟨r1,q⟩:=V (i.right);have J:=F (show(bC A wv i)[0]? = some (.bool r1) by rw[q];rfl);obtain⟨r2,r⟩:=V (uP p i.url);obtain⟨r3,s⟩:=V (ti (dA i.url true));rw[<-q,<-r,<-s]at y;rw[<-r]at l;rw[<-s]at n;have T:=F l;have K:=F n;have B:=F y;have CP:=F cp;have CK:=F ck;clear l n q r s y hp cp ck h P hl hE N;have d:=F<|CB.new w 48 (bC A wv i);have c:=F<|(Below.refl w.heap.size w).alloc (ag _) (.cells (bC A wv i) 48);obtain⟨w1,t⟩:=V (w.alloc (.cells (bC A wv i) 48));rw[<-t]at d c;have k:=F t;have g:=F<|CP.o.keep c.o;have v:=F<|CK.o.keep c.o;clear t CP CK;cases r1 with
 |false =>
  have j:=F (show R=false by rw[B.o];rfl);go_enter func39,ntmps39
  go_upto_region 1 with fail
  rw[<-k.o]
  go_wp2_with (first
   |((with_reducible apply bS);refine vA rfl (.tmp 5) rfl w.heap.size 48 (bC A wv i) d.o 0 (.bool false) J.o rfl ?_))
  go_ret;exact⟨by rw[j.o];rfl,c.o⟩
 |true =>
  have L:=F<|Qq d.o;cases r2 with
  |false =>
   have j:=F (show R=false by rw[B.o];rfl);go_enter func39,ntmps39
   go_upto_region 1 with fail
   rw[<-k.o]
   go_wp2_with (first
    |((with_reducible apply bS);refine vA rfl (.tmp 5) rfl w.heap.size 48 (bC A wv i) d.o 0 (.bool true) J.o rfl ?_)
    |((with_reducible apply bS);refine fj r5 (.tmp 1) rfl x sv hv tv p.most rfl g.o ?_)
    |((with_reducible apply bS);refine Ac r5 (.tmp 9) rfl w.heap.size 1 A i.url z.o rfl L.o ?_)
    |(go_at_call 15;refine(T.o _ c.o).m ?_;rintro e w2 ⟨rfl,U⟩;have u:=F<|dw c.o U;clear U))
   go_ret;exact⟨by rw[j.o];rfl,u.o⟩
  |true =>
   go_enter func39,ntmps39
   go_upto_region 1 with fail
   rw[<-k.o];by_cases D:kind=2
   ·have j:=F (show R=r3 by rw[B.o,D];rfl)
    subst D
    go_wp2_with (first
     |((with_reducible apply bS);refine vA rfl (.tmp 5) rfl w.heap.size 48 (bC A wv i) d.o 0 (.bool true) J.o rfl ?_)
     |((with_reducible apply bS);refine fj r5 (.tmp 1) rfl x sv hv tv p.most rfl g.o ?_)
     |((with_reducible apply bS);refine Ac r5 (.tmp 9) rfl w.heap.size 1 A i.url z.o rfl L.o ?_)
     |(go_at_call 15;refine(T.o _ c.o).m ?_;rintro e w2 ⟨rfl,U⟩;have u:=F<|dw c.o U;have f:=F<|v.o.keep U;have M:=F<|Qq (d.o.keep U);clear U)
     |((with_reducible apply bS);refine tY r5 (.tmp 2) rfl C 0 3 #[.int .i64 2] f.o (.int .i64 2) rfl rfl ?_)
     |((with_reducible apply bS);refine Ac r5 (.tmp 17) rfl w.heap.size 1 A i.url z.o rfl M.o ?_)
     |(go_at_call 40;refine(K.o _ u.o).m ?_;rintro e w3 ⟨rfl,U⟩;have B3:=F<|dw u.o U;clear U))
    go_ret;exact⟨by rw[j.o];rfl,B3.o⟩
   have j:=F (show R=true by rw[B.o,decide_eq_true D];rfl);have qk:(kind==2)=false:=by simpa using D
   go_wp2_with (first
    |((with_reducible apply bS);refine vA rfl (.tmp 5) rfl w.heap.size 48 (bC A wv i) d.o 0 (.bool true) J.o rfl ?_)
    |((with_reducible apply bS);refine fj r5 (.tmp 1) rfl x sv hv tv p.most rfl g.o ?_)
    |((with_reducible apply bS);refine Ac r5 (.tmp 9) rfl w.heap.size 1 A i.url z.o rfl L.o ?_)
    |(go_at_call 15;refine(T.o _ c.o).m ?_;rintro e w2 ⟨rfl,U⟩;have u:=F<|dw c.o U;have f:=F<|v.o.keep U;clear U)
    |((with_reducible apply bS);refine tY r5 (.tmp 2) rfl C 0 3 #[.int .i64 kind] f.o (.int .i64 kind) rfl rfl ?_))
   go_ret;exact⟨by rw[j.o];rfl,u.o⟩

theorem Vq{A wv:Z}{i:eu}(c:i.url.host.six.length=8):(bC A wv i)[19]? = some A:=by
 rw[cf];exact a0k (j:=18) (by have:=(ry A i.url c).path;rw[cf]at this;exact this)
theorem Qt{A wv:Z}{i:eu}(c:i.url.host.six.length=8):(bC A wv i)[24]? = some wv:=by
 rw[cf];exact a0l c
theorem Qr(A wv v:Z)(i:eu)(j:i.url.host.six.length=8):(bC A wv i).setIfInBounds 19 v=bC v wv i:=by
 obtain⟨rt,⟨aJ,usr,er,⟨hk,hn,hf,six⟩,a1,a2,a3,a4,a5,a6,a7,a8,a9⟩,w0⟩:=i;simp only at j;obtain⟨a,b,c,d,e,f,g,i,rfl⟩:=eight j;rfl
theorem Qs(A wv v:Z)(i:eu)(c:i.url.host.six.length=8):(bC A wv i).setIfInBounds 24 v=bC A v i:=CX A wv v i c i.words
theorem KX(p:eu->Bool){l:List eu}{k:Nat}(c:k<l.length):(l.take (k+1)).filter p=(l.take k).filter p++(if p l[k]=true then [l[k]]else []):=by
 rw[aH c,fy]
 congr 1
 split
 ·next h=>exact aU h
 next h=>exact aZ h
structure ILk (l:List eu):Prop where
 u:∀ i∈l,zK i.url/\(dA i.url false).length<=1000000000/\i.words.length<=1024000000
 n:l.length<=900000000
theorem Fg(p:qh)(kind:Int)(l:List eu)(v sv hv tv:Z)(bp bk:Nat)(w:H)(hI:Items w.heap.size w v l)(K:ILk l)(hp:f9 w sv hv tv p)(cp:CB w bp 24 (aY sv hv tv p.most))(ck:CB w bk 3 #[.int .i64 kind])(hE:Env w)(hN:NE w) :
  Calls prog 38 #[v,.func (Fn.func 39) #[] #[.pointer (some ⟨bp,0,none⟩),.pointer (some ⟨bk,0,none⟩)]] w λe w'=>∃ v',e=.returned v'/\fa w' w.heap.size v' (l.filter (jO p kind))/\r7 w w':=by
 have HK:=F<|λ(i:eu) (hi:i∈l) (A wv:Z) W (U:r7 w W) (hs:Sl w.heap.size w A (i.url.path.map S))=>Lz p kind i sv hv tv A wv bp bk W (hp.below U) (cp.keep U) (ck.keep U) (K.u i hi).1 ((hs.below U).more U.size) (K.u i hi).2.1 (hE.below U) (hN.below U);have D:=F<|λ(i:eu) (hi:i∈l)=>(show i.url.host.six.length=8/\i.url.path.length<=1024000000/\i.words.length<=1024000000 from⟨(K.u i hi).1.six,by have:=(K.u i hi).1.E.1;omega,(K.u i hi).2.2⟩);obtain⟨f,hf⟩:=V (jO p kind);have HKF:=F (show ∀i∈l,∀(A wv:Z) W,r7 w W->Sl w.heap.size w A (i.url.path.map S)->bF prog 39 #[.agg (bC A wv i),.pointer (some ⟨bp,0,none⟩),.pointer (some ⟨bk,0,none⟩)] W (.bool (f i))from by rw[hf];exact HK.o);rw[<-hf];obtain⟨N,XF⟩:=V (l.length);have HN:=F XF;have hNb:N<=900000000:=by rw[XF];exact K.n
 obtain⟨av,cc,rfl⟩:=lM hI;rw[<-XF]at hI ⊢;have HI:=F hI;obtain⟨w0,hw0⟩:=V (w);have HW0:=F hw0;clear HK hf XF hI K hp cp ck hE hN hw0;go_enter func38,ntmps38
 go_upto_region 3 with fail
 go_loopw [5,7,10] (λv2 _ iv wr=>∃ k:Nat,k<=N/\iv=.int .i64 k/\Hid (r7 w wr)/\Hid (fa wr w.heap.size v2 ((l.take k).filter f))) (λ_ _ i _=>N-(intOf i).toNat)
 case atStart=>exact⟨0,aL _,rfl,F (Below.refl _ _),F (fa.nil _ _)⟩
 case round =>
  obtain⟨k,hk,rfl,y,IR⟩:=hrel;by_cases hkN:k<N
  ·have d:k<l.length:=by have:=HN.o;omega
   obtain⟨it,hit⟩:=V (l[k]);have HM:=F (show it∈l by rw[hit];exact be d);have M:=KX f d;rw[<-hit]at M;obtain⟨b,o,rfl,hbb,A,wv,hr,y1,g,t⟩:=oh HI.o k d;rw[<-hit]at hr g t;have hlt:b<w.heap.size:=hbb;have HR:=F (show wr.rangeAt b (o+k*25) (bN A wv it)from λj x hj=>(y.o.cell (p:=⟨b,o+k*25+j,none⟩) hlt).trans (hr j x hj));have HPV:=F g;have HWV:=F t;have uh:=F M;have c:=F (D.o it HM.o).1;have Z5:=F (D.o it HM.o).2.1;have HWL:=F (D.o it HM.o).2.2;have xO:=F<|rq g;have HW1:=F<|rq t;clear y1 hr g t M hit hbb hlt d
   go_upto_region 5 with(first
    |((with_reducible apply bS);refine lm r5 48 (.tmp 12) rfl b (o+k*25) rfl (bN A wv it) _ HR.o underlying48 rfl (by rw[lL c.o];exact mG) ?_)
    |((with_reducible apply bS);refine aM rfl 48 rfl _ _ (Ia _) ?_;refine a4Z rfl (.tmp 7) (.tmp 13) rfl A wv it c.o xO.o HW1.o rfl rfl rfl ?_;intro w4 i4;have J:=F i4;clear i4))
   have B4:=F<|y.o.trans (J.o.bL.m y.o.size);obtain⟨q,hq⟩:=V (wr.heap.size);have HQ:=F hq;rw[<-hq]at J ⊢;obtain⟨r,L⟩:=V (f it);have U3:=F (show ∀W,r7 w W->bF prog 39 #[.agg (bC A wv it),.pointer (some ⟨bp,0,none⟩),.pointer (some ⟨bk,0,none⟩)] W (.bool r)from λW U=>by rw[L];exact HKF.o it HM.o A wv W U HPV.o);have HRR:=F L;clear hq L HR;cases r with
   |false =>
    have C:=F (show(l.take (k+1)).filter f=(l.take k).filter f by rw[uh.o,<-HRR.o];simp)
    go_wp2_with (first
     |((with_reducible apply bS);refine US rfl (.tmp 7) rfl wr q A wv it c.o J.o rfl ?_)
     |(go_at_call 39;refine(U3.o _ B4.o).m ?_;rintro e w5 ⟨rfl,U⟩;have R:=F U;clear U))
    go_roundw
    case rel=>exact⟨k+1,M0,by go_num,F (dw B4.o R.o),F (by rw[C.o];exact(IR.o.below J.o.bL).below (R.o))⟩
    case measure=>simp[intOf];omega
   |true =>
    have C:=F (show(l.take k).filter f++[it]=(l.take (k+1)).filter f by rw[uh.o,<-HRR.o];simp)
    go_upto_region 6 with(first
     |((with_reducible apply bS);refine US rfl (.tmp 7) rfl wr q A wv it c.o J.o rfl ?_)
     |(go_at_call 39;refine(U3.o _ B4.o).m ?_;rintro e w5 ⟨rfl,U⟩;have R:=F U;clear U))
    have I5:=F<|J.o.below R.o;have z:=F<|dw B4.o R.o;have S5:=F<|I5.o.lt;clear J U3
    go_upto_region 7 with(first
     |((with_reducible apply bS);refine yx rfl (.tmp 18) rfl q 48 (bC A wv it) I5.o.cb 19 A (Vq c.o) rfl ?_)
     |(go_at_call 54;refine(fQ it.url.path A _ ((HPV.o.below z.o).more z.o.size) Z5.o).m ?_;rintro e w6 ⟨v6,rfl,oo,U⟩;have O6:=F<|eE oo;have B6:=F U;clear oo U)
     |((with_reducible apply bS);refine dX rfl 22 (.tmp 22) (.tmp 20) rfl wr q 48 (bC A wv it) (I5.o.below B6.o) 19 v6 rfl rfl (by rw[mF c.o];decide) dC (bm O6.o) (bC v6 wv it) (Qr A wv v6 it c.o) ?_;intro w7 i7 t7;have I7:=F i7;have T7:=F t7;clear i7 t7))
    have O7:=F<|T7.o.row O6.o S5.o;have S7:=F (show w5.heap.size<=w7.heap.size from am B6.o.size T7.o.s);have B:=F (show r7 w w7 from y.o.trans (I7.o.bL.m y.o.size))
    go_upto_region 8 with(first
     |((with_reducible apply bS);refine yx rfl (.tmp 23) rfl q 48 (bC v6 wv it) I7.o.cb 24 wv (Qt c.o) rfl ?_)
     |(go_at_call 54;refine(fQ it.words wv _ ((HWV.o.below B.o).more B.o.size) HWL.o).m ?_;rintro e w8 ⟨P,rfl,oo,U⟩;have O8:=F<|eE oo;have B8:=F U;clear oo U)
     |((with_reducible apply bS);refine dX rfl 22 (.tmp 26) (.tmp 25) rfl wr q 48 (bC v6 wv it) (I7.o.below B8.o) 24 P rfl rfl (by rw[mF c.o];decide) dC (bm O8.o) (bC v6 P it) (Qs v6 wv P it c.o) ?_;intro w9 i9 t9;have I9:=F i9;have T9:=F t9;clear i9 t9))
    have S57:=F<|I7.o.lt;have P9:=F<|T9.o.row (own_below' O7.o B8.o) S5.o;have Q9:=F<|T9.o.row O8.o S57.o;have T:=F (show r7 w w9 from y.o.trans (I9.o.bL.m y.o.size));have TR:=F<|IR.o.below I9.o.bL;have IP:=F (show mZ w9 w.heap.size ((v6,P),it)from⟨c.o,il P9.o z.o.size,il Q9.o B.o.size⟩)
    have TB:=F (show((l.take k).filter f).length+1<=1000000000 by
     have Y:=dO f (l.take k);rw[aD]at Y;omega)
    go_wp2_with (first
     |((with_reducible apply bS);refine US rfl (.tmp 7) rfl wr q v6 P it c.o I9.o rfl ?_;refine qE rfl (.tmp 28) rfl v6 P it c.o rfl ?_;refine X6 rfl (.tmp 27) (.tmp 29) rfl w.heap.size rfl TR.o IP.o rfl TB.o T.o.size ?_;intro v10 xr a4W b10;have YN:=F a4W;have B10:=F b10;clear a4W b10))
    go_roundw
    case rel=>exact⟨k+1,M0,by go_num,F (T.o.trans B10.o),F (by rw[<-C.o];exact YN.o)⟩
    case measure=>simp[intOf];omega
  obtain rfl:k=N:=M0;have zF:=F (show l.take k=l by rw[HN.o];exact di);go_wp2_with fail;go_ret;exact⟨_,rfl,by rw[<-zF.o];exact IR.o,y.o⟩

theorem Zx(w:H)(e:Array Z)(k:Int)(v:Z)(d:O):∃ W,(((w.alloc (.cells e 24)).alloc (.cells #[.int .i64 k] 3)).alloc (.cells (bD v d) 44)).alloc (.cells (bD aI []) 44)=W/\W.heap.size=w.heap.size+4 /\
  CB W w.heap.size 24 e/\CB W (w.heap.size+1) 3 #[.int .i64 k]/\CB W (w.heap.size+2) 44 (bD v d)/\OB w (w.heap.size+3) 44 (bD aI []) W:=by
 obtain⟨w2,I,z2,f,a2,G⟩:=qd w 24 3 e #[.int .i64 k];obtain⟨i,g,z4,a3,a4,c⟩:=qd w2 44 44 (bD v d) (bD aI []);rw[z2]at a3 a4;refine⟨i,by rw[I,g],by rw[z4,z2],f.keep c,a2.keep c,a3,OB.of a4 M0 (dw G c)⟩
theorem fa.slice{W:H}{base:Nat}{v:Z}{l:List eu}(c:fa W base v l):∃ a n c,v=.slice a n c:=by
 obtain⟨a,d,e⟩:=c.len;exact⟨a,l.length,d,e⟩
theorem LB(p:qh)(kind:Int)(l:List eu)(d:O)(v sv hv tv:Z)(w:H)(D:Items w.heap.size w v l)(M:ILk l)(hp:f9 w sv hv tv p)(C:Env w)(K:NE w) :
  Calls prog 18 #[.agg (aY sv hv tv p.most),.int .i64 kind,.agg (bD v d)] w (jz w ⟨l.filter (jO p kind),d⟩):=by
 have f:=F<|λ(u t:Nat) W (U:r7 w W) (cp:CB W u 24 (aY sv hv tv p.most)) (ck:CB W t 3 #[.int .i64 kind])=>Fg p kind l v sv hv tv u t W ((D.below U).more U.size) M (hp.below U) cp ck (C.below U) (K.below U);obtain⟨db,c⟩:=V (E d);have HD:=F (show bD v d=#[v,.string db] by rw[c]);have j:=F<|λx:Z=>(show Value.agg #[x,.string db]=.agg (bD x d) by rw[c]);obtain⟨W,hw,i,y,z,c3,B⟩:=Zx w (aY sv hv tv p.most) kind v d;have P:=F y;have R:=F z;have q:=F c3;have r:=F B;have HW:=F hw;have eM:=F i;obtain⟨L,J⟩:=V (l.filter (jO p kind));rw[<-J]at f ⊢;clear y z c3 B hw i c J D M hp C K;go_enter func18,ntmps18
 go_upto_region 1 with(first
  |((with_reducible apply bS);refine aM rfl 44 rfl _ _ (pC _) ?_))
 rw[HW.o]
 go_upto_region 2 with(first
  |((with_reducible apply bS);refine yw rfl (.tmp 8) rfl (w.heap.size+2) 44 (bD v d) q.o 0 v rfl rfl ?_)
  |(go_at_call 38;refine(f.o w.heap.size (w.heap.size+1) _ r.o.bL P.o R.o).m ?_;rintro e w3 ⟨v3,rfl,ir,U⟩;have IR:=F ir;have n:=F U;clear ir U))
 obtain⟨a3,n3,c3,rfl⟩:=IR.o.slice;have T:=F<|q.o.keep n.o;have D4:=F<|r.o.below n.o;have k:=F (show(bD v d)[1]? = some (.string db) by rw[HD.o];rfl);have g:=F (show w.heap.size+3<W.heap.size by have:=eM.o;omega)
 go_wp2_with (first
  |((with_reducible apply bS);refine kA rfl (.tmp 13) rfl (w.heap.size+2) 44 (bD v d) T.o 1 (.string db) k.o rfl ?_)
  |((with_reducible apply bS);refine wu rfl (.tmp 6) (.tmp 15) rfl w (w.heap.size+3) D4.o (.slice a3 n3 c3) d rfl rfl (j.o _) ?_;intro w6 N t6;have s:=F N;have Xd:=F<|IR.o.tn t6 g.o;clear N t6))
 exact tE results18 rfl s.o ⟨_,rfl,Xd.o.base (by have:=g.o;omega),s.o.bL⟩

def a1k(kind:Int):O×O :=
 if kind%4=1 then([97],[104,114,101,102])
 else if kind%4=2 then([105,109,103],[115,114,99,115,101,116])
 else if kind%4=3 then([109,101,116,97],[99,111,110,116,101,110,116])
 else([98,111,100,121],[98,97,99,107,103,114,111,117,110,100])
theorem a1R(kind:Int):(a1k kind).1.length<=300/\(a1k kind).2.length<=300:=by
 unfold a1k
 split
 ·decide
 split
 ·decide
 split <;>decide
structure EL (p:qh):Prop where
 s:p.schemes.length<=20/\∀ x∈p.schemes,List.length x<=200
 h:p.hosts.length<=20/\∀ x∈p.hosts,List.length x<=200
 t:p.types.length<=20/\∀ x∈p.types,List.length x<=200
structure BB (w:H) (sv hv tv:Z) (p:qh):Prop where
 s:Sl w.heap.size w sv (p.schemes.map S)
 h:Sl w.heap.size w hv (p.hosts.map S)
 t:Sl w.heap.size w tv (p.types.map S)
theorem BB.below{w:H}{p:qh}(h:BB w sv hv tv p)(U:r7 w w'):BB w' sv hv tv p :=
 ⟨(h.s.below U).more U.size,(h.h.below U).more U.size,(h.t.below U).more U.size⟩
theorem BB.at{w:H}{p:qh}(h:BB w sv hv tv p)(f:EL p):f9 w sv hv tv p :=
 ⟨h.s,h.h,h.t,⟨by have:=f.s.1;omega,by have:=f.h.1;omega,by have:=f.t.1;omega⟩,λy hy=>am (f.h.2 y hy) P8⟩

def Tk(l:List O):Prop:=l.length<=20/\∀ x∈l,List.length x<=200
def GE(p:qh):Nat->List O
 |0=>p.schemes
 |1=>p.hosts
 |_=>p.types
theorem a3c(a b c:Option Addr)(i j k l m n:Nat)(w:H):(Instr.buildSlice 59 3 #[(0,.slice a i j),(1,.slice b k l),(2,.slice c m n)]).run prog w=.ok (.slice (some ⟨w.heap.size,0,none⟩) 3 3) (w.alloc (.cells #[.slice a i j,.slice b k l,.slice c m n] 22)):=Rz
theorem KV(p:qh)(sv hv tv:Z)(w:H)(h:BB w sv hv tv p):Calls prog 9 #[.agg (aY sv hv tv p.most)] w λe w'=>zH (EL p) e/\r7 w w':=by
 obtain⟨r,z,e1⟩:=cQ h.s;obtain⟨u,B,e2⟩:=cQ h.h;obtain⟨y,y3,e3⟩:=cQ h.t;rw[ay]at e1 e2 e3;obtain⟨m,M⟩:=V (p.schemes.length);obtain⟨q,N⟩:=V (p.hosts.length);obtain⟨n3,CO⟩:=V (p.types.length);rw[<-M]at e1;rw[<-N]at e2;rw[<-CO]at e3;subst e1 e2 e3;clear M N CO;obtain⟨G',hG⟩:∃ G':Prop,G'=EL p:=⟨_,rfl⟩;rw[<-hG];have HG:=F (show(∀j,j<3->Tk (GE p j))->G' from λf=>by rw[hG];exact⟨f 0 M0,f 1 M0,f 2 M0⟩);obtain⟨W,hw,hsz,c1,T,G⟩:=qd w 24 22 (aY (.slice r m z) (.slice u q B) (.slice y n3 y3) p.most) #[(.slice r m z),(.slice u q B),(.slice y n3 y3)]
 have HT:=F (show ∀k,k<3->∃ a n c,W.cell? ⟨w.heap.size+1,k,none⟩=some (.slice a n c)/\n=(GE p k).length/\Sl W.heap.size W (.slice a n c) ((GE p k).map S)from λk hk=>by
  have key:∀ (v:Z) (l:List O),Sl w.heap.size w v (l.map S)->∃ a n c,v=.slice a n c/\n=l.length/\Sl W.heap.size W (.slice a n c) (l.map S):=λv l D=>by
   obtain⟨a,c,e⟩:=cQ D;rw[ay]at e;exact⟨a,l.length,c,e,rfl,by rw[<-e];exact(D.below G).more G.size⟩
  match k,hk with
  |0,_=>obtain⟨a,n,c,e,Y,I⟩:=key (.slice r m z) _ h.s;exact⟨a,n,c,by rw[T.cell,<-e];rfl,Y,I⟩
  |1,_=>obtain⟨a,n,c,e,Y,I⟩:=key (.slice u q B) _ h.h;exact⟨a,n,c,by rw[T.cell,<-e];rfl,Y,I⟩
  |2,_=>obtain⟨a,n,c,e,Y,I⟩:=key (.slice y n3 y3) _ h.t;exact⟨a,n,c,by rw[T.cell,<-e];rfl,Y,I⟩)
 have X:=CB.new w 24 (aY (.slice r m z) (.slice u q B) (.slice y n3 y3) p.most);obtain⟨w1,d⟩:=V (w.alloc (.cells (aY (.slice r m z) (.slice u q B) (.slice y n3 y3) p.most) 24));have hz1:w1.heap.size=w.heap.size+1:=by rw[d];simp
 rw[<-d]at X hw;have R:=F X;have L:=F d;have HW:=F hw;have P:=F G;have HSW:=F (show w.heap.size+1<W.heap.size by omega);clear hG hw hsz c1 T G h d X;go_enter func9,ntmps9
 go_upto_region 1 with fail
 rw[<-L.o]
 go_upto_region 3 with(first
  |((with_reducible apply bS);refine gwr r5 (.tmp 6) rfl w.heap.size 0 24 (aY (.slice r m z) (.slice u q B) (.slice y n3 y3) p.most) R.o (.slice r m z) rfl rfl ?_)
  |((with_reducible apply bS);refine gwr r5 (.tmp 8) rfl w.heap.size 1 24 (aY (.slice r m z) (.slice u q B) (.slice y n3 y3) p.most) R.o (.slice u q B) rfl rfl ?_)
  |((with_reducible apply bS);refine gwr r5 (.tmp 10) rfl w.heap.size 2 24 (aY (.slice r m z) (.slice u q B) (.slice y n3 y3) p.most) R.o (.slice y n3 y3) rfl rfl ?_))
 rw[HW.o];obtain⟨g,hg⟩:=V (w.heap.size+1);rw[<-hg]at HT HSW ⊢;clear hg hz1 HW L R
 go_loopw [4,5] (λkv _ wr=>∃ k:Nat,k<=3/\kv=.int .i64 k/\Hid (∀j,j<k->Tk (GE p j))/\W=wr) (λkv _ _=>3-(intOf kv).toNat)
 case atStart=>exact⟨0,M0,Oc,λj C=>M0,rfl⟩
 case round =>
  obtain⟨k,hk,rfl,hd,rfl⟩:=hrel;by_cases hlt:k<3
  ·obtain⟨av,n,c,hc,hn,J⟩:=HT.o k hlt
   have K:=F J;have xm:=F hn
   have HD:=F (show Tk (GE p k)->∀ j,j<k+1->Tk (GE p j)from λf j C=>by
    by_cases e:j=k
    ·subst e;exact f
    exact hd.o j M0)
   have hn9:n<=9223372036854775807:=by
    obtain⟨c',Y,I,_⟩:=J;rw[ay]at Y;unfold maxLen at I;omega
   clear J hn hd;generalize GE p k=l at K xm HD
   go_upto_region 6 with fail
   go_loopw [5] (λiv wr=>∃ i:Nat,i<=n/\i<=30/\iv=.int .i64 i/\Hid (∀j (C:j<l.length),j<i->l[j].length<=200)/\W=wr) (λiv _=>30-(intOf iv).toNat)
   case atStart=>exact⟨0,M0,M0,Oc,λj C h=>M0,rfl⟩
   case round =>
    obtain⟨i,hi,b4A,rfl,D,rfl⟩:=hrel;by_cases hin:i<n/\i<30
    ·have hil:i<l.length:=by rw[<-xm.o];exact hin.1
     obtain⟨b,o,rfl,hbb,hcc⟩:=gO K.o i hil;have t1:(i:Int)<n:=M0;have t2:(i:Int)<30:=M0
     have HS:=F (show l[i].length<=200->∀ j (C:j<l.length),j<i+1->l[j].length<=200 from λf j C hji=>by
      by_cases e:j=i
      ·subst e;exact f
      exact D.o j C M0)
     generalize l[i]=x at hcc HS;clear D;by_cases h5:(200:Int)<x.length
     ·go_wp2_with fail
      go_ret;exact⟨zH.ff,P.o⟩
     have HS2:=F<|HS.o M0;go_wp2_with fail;go_roundw
     case rel=>exact⟨i+1,M0,M0,by go_num,HS2.o,by trivial⟩
     case measure=>simp[intOf];omega
    by_cases h20:(20:Int)<n
    ·by_cases t1:(i:Int)<n
     ·have t2:¬ (i:Int)<30:=by omega
      go_wp2_with fail;go_ret;exact⟨zH.ff,P.o⟩
     go_wp2_with fail;go_ret;exact⟨zH.ff,P.o⟩
    have t1:¬ (i:Int)<n:=M0
    have HF:=F<|HD.o ⟨by rw[<-xm.o];omega,λx X=>by
     obtain⟨j,C,rfl⟩:=cC X;exact D.o j C (by have:=xm.o;omega)⟩
    clear D;go_wp2_with fail;go_roundw
    case rel=>exact⟨k+1,M0,by go_num,HF.o,by trivial⟩
    case measure=>simp[intOf];omega
  obtain rfl:k=3:=M0;go_wp2_with fail;go_ret;exact⟨zH.of λ_=>HG.o hd.o,P.o⟩
