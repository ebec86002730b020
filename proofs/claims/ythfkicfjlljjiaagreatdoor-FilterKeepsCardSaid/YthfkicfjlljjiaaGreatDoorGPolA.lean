/- Joined texts. -/
import Derived.Test.YthfkicfjlljjiaaGreatDoorGRdsL
import Derived.Test.YthfkicfjlljjiaaGreatDoorGMimD
set_option maxHeartbeats 40000000
namespace Go.Proofs.YthfkicfjlljjiaaGreatDoor
open Tryz
open Go.RowKit
set_option maxRecDepth 10000
variable{w':H}{hv sv tv:Z}
theorem qG(l:List O)(x:O)(v:Z)(w:H){B:Nat}(h:Sl B w v (l.map S))(hl:l.length<=1024000000) :
  bP prog 121 #[v,.string (E x)] w (.bool (decide (x∈l))):=by
 obtain⟨c,Y,I,h⟩:=h;rcases h with⟨i,a,rfl⟩|⟨b,o,U,rfl,g⟩
 ·obtain rfl:l=[]:=by simpa using i
  refine(Any.slices_Contains_string_empty laysCon a c (E x) w).m ?_;rintro e w' ⟨rfl,rfl⟩;exact⟨by rw[decide_eq_false Oc],rfl⟩
 refine(Any.slices_Contains_string laysCon b o (l.map S).length c (l.map E) (E x) w Oc (by simp;omega) (λj d=>by
  rw[ay]at d;rw[g j (by simpa using d),oX d,cU])).m ?_
 rintro e w' ⟨rfl,rfl⟩;refine⟨?_,rfl⟩
 have f:Lib.containsS ((l.map E).take (l.map S).length) (E x)=decide (x∈l):=by
  rw[aP Oc,bX,Lib.containsS_iff,decide_eq_true_eq,dt];constructor
  ·rintro⟨y,hy,e⟩
   rw[<-Og e];exact hy
  exact λh=>⟨x,h,rfl⟩
 rw[f]
abbrev aY(sv hv tv:Z)(m:Int):Array Z:=#[sv,hv,tv,.int .i64 m]
structure b6w (w:H) (sv hv tv:Z) (p:qh):Prop where
 s:Sl w.heap.size w sv (p.schemes.map S)
 h:Sl w.heap.size w hv (p.hosts.map S)
 t:Sl w.heap.size w tv (p.types.map S)
 n:p.schemes.length<=1000/\p.hosts.length<=1000/\p.types.length<=1000
 x:∀ y∈p.hosts,List.length y<=1000000
theorem b6w.below{w:H}{p:qh}(h:b6w w sv hv tv p)(U:r7 w w'):b6w w' sv hv tv p :=
 ⟨(h.s.below U).more U.size,(h.h.below U).more U.size,(h.t.below U).more U.size,h.n,h.x⟩
theorem Dm(p:qh)(x:O)(sv hv tv:Z)(w:H)(h:b6w w sv hv tv p):bF prog 79 #[.agg (aY sv hv tv p.most),.string (E x)] w (.bool (decide (x∈p.schemes))):=by
 have g:=F<|λW (U:r7 w W)=>qG p.schemes x sv W (h.s.below U) (by have:=h.n;omega);have f:=F<|CB.new w 24 (aY sv hv tv p.most);have c:=F<|(Below.refl w.heap.size w).alloc (ag _) (.cells (aY sv hv tv p.most) 24);obtain⟨w1,a⟩:=V (w.alloc (.cells (aY sv hv tv p.most) 24));rw[<-a]at f c;have d:=F a;obtain⟨q,i⟩:=V (decide (x∈p.schemes));obtain⟨xb,X⟩:=V (E x);rw[<-i,<-X]at g ⊢;clear a i X h;go_enter func79,ntmps79
 go_upto_region 1 with fail
 rw[<-d.o]
 go_wp2_with (first|((with_reducible apply bS);refine yx rfl (.tmp 5) rfl w.heap.size 24 (aY sv hv tv p.most) f.o 0 sv rfl rfl ?_)|(go_at_call 121;refine(g.o _ c.o).m ?_;rintro e w2 ⟨rfl,hw⟩;subst w2))
 go_ret;exact⟨rfl,c.o⟩
theorem L5(p:qh)(x:O)(sv hv tv:Z)(w:H)(h:b6w w sv hv tv p):bF prog 82 #[.agg (aY sv hv tv p.most),.string (E x)] w (.bool (decide (x∈p.types))):=by
 have g:=F<|λW (U:r7 w W)=>qG p.types x tv W (h.t.below U) (by have:=h.n;omega);have f:=F<|CB.new w 24 (aY sv hv tv p.most);have c:=F<|(Below.refl w.heap.size w).alloc (ag _) (.cells (aY sv hv tv p.most) 24);obtain⟨w1,a⟩:=V (w.alloc (.cells (aY sv hv tv p.most) 24));rw[<-a]at f c;have d:=F a;obtain⟨q,i⟩:=V (decide (x∈p.types));obtain⟨xb,X⟩:=V (E x);rw[<-i,<-X]at g ⊢;clear a i X h;go_enter func82,ntmps82
 go_upto_region 1 with fail
 rw[<-d.o]
 go_wp2_with (first|((with_reducible apply bS);refine yx rfl (.tmp 5) rfl w.heap.size 24 (aY sv hv tv p.most) f.o 2 tv rfl rfl ?_)|(go_at_call 121;refine(g.o _ c.o).m ?_;rintro e w2 ⟨rfl,hw⟩;subst w2))
 go_ret;exact⟨rfl,c.o⟩

section
variable {ops:Array Oper} {rest:List Oper} {o:Oper} {a:Act} {w:H} {Q:Exit->Act->H->Prop}
theorem tY(d:Region.wanted o (yielded ops a.tmps)=true)(x:Operand)(e:o.op=.load 3 x)(b k:Nat)(T:TypeId)(cs:Array Z)(i:CB w b T cs)(v:Z)(c:cs[k]? = some v)(X:a.eval x=.pointer (some ⟨b,k,none⟩))(K:wpList prog ops Q rest (a.put o.dst v) w):wpList prog ops Q (o::rest) a w :=
  nj d v (bK 3 x e b k v _ underlying3 rfl X (i.aE c)) K
theorem FO(d:Region.wanted o (yielded ops a.tmps)=true)(x:Operand)(e:o.op=.load 9 x)(b k:Nat)(T:TypeId)(cs:Array Z)(i:CB w b T cs)(v:Z)(c:cs[k]? = some v)(X:a.eval x=.pointer (some ⟨b,k,none⟩))(K:wpList prog ops Q rest (a.put o.dst v) w):wpList prog ops Q (o::rest) a w :=
  nj d v (bK 9 x e b k v _ underlying9 rfl X (i.aE c)) K
theorem gwr(d:Region.wanted o (yielded ops a.tmps)=true)(x:Operand)(e:o.op=.load 22 x)(b k:Nat)(T:TypeId)(cs:Array Z)(i:CB w b T cs)(v:Z)(c:cs[k]? = some v)(X:a.eval x=.pointer (some ⟨b,k,none⟩))(K:wpList prog ops Q rest (a.put o.dst v) w):wpList prog ops Q (o::rest) a w :=
  nj d v (bK 22 x e b k v _ underlying22 rfl X (i.aE c)) K
end
theorem qd(w:H)(c h:TypeId)(d i:Array Z):∃ W,(w.alloc (.cells d c)).alloc (.cells i h)=W/\W.heap.size=w.heap.size+2/\CB W w.heap.size c d/\CB W (w.heap.size+1) h i/\r7 w W:=by
  have X:=CB.new w c d;have U:=(Below.refl w.heap.size w).alloc (ag _) (.cells d c);obtain⟨w1,f⟩:=V (w.alloc (.cells d c));have g:w1.heap.size=w.heap.size+1:=by rw[f];simp
  rw[<-f]at X U ⊢;have hy:=CB.new w1 h i;have e:=(Below.refl w1.heap.size w1).alloc (ag _) (.cells i h);refine⟨_,rfl,by simp[g],X.keep e,?_,dw U e⟩;rw[<-g];exact hy
theorem Vh(u m:O)(w:H)(hu:u.length<=1024000000):bP prog 84 #[.string (E u),.string (E m)] w (.bool (Lib.hasSuffix u m)):=by
  have h:=Any.strings_HasSuffix laysHS (E u) (E m) w (by rw[aF];omega);rw[show(E u).data.toList=u from cW u,show(E m).data.toList=m from cW _]at h;exact h
theorem h_size{h:gF}(c:h.six.length=8):(aT h).size=11:=by simp[aS,c]
theorem PG:(prog.info? 32).map (·.size)=some 11:=Rz
theorem ZZ{h:gF}(ok:sV h):By (aT h) h:=CS ok
theorem LZ(p:qh)(h:gF)(sv hv tv:Z)(w:H)(hp:b6w w sv hv tv p)(ok:sV h)(K:h.name.length<=102400000)(hN:NE w) :
    bF prog 80 #[.agg (aY sv hv tv p.most),.agg (aT h)] w (.bool (mC p h)):=by
  have MZ:=F<|λW (U:r7 w W)=>vJ h (aT h) W (ZZ ok) K (hN.below U);obtain⟨R,hR⟩:=V (mC p h);rw[<-hR];have HR:=F hR;obtain⟨i,C⟩:=V (h.kind);have u:=F (show(aT h)[0]? = some (.int .i64 i) by rw[C];rfl);have t:=F C;obtain⟨nb,J⟩:=V (E h.name);have rE:=F (show(aT h)[1]? = some (.string nb) by rw[J];rfl);have MW:=F J;have S1:=F K;have eM:=F<|h_size ok.l;obtain⟨tb,L⟩:=V (E (lJ h));have Hy:=F L;have zG:=F (show ∀W,r7 w W->bF prog 28 #[.agg (aT h)] W (.string tb)from by rw[L];exact MZ.o);obtain⟨N,hN⟩:=V (p.hosts.length);have d:=F hN
  obtain⟨av,cc,hhv⟩:∃ a c,hv=.slice a N c:=by
    obtain⟨a,c,e⟩:=cQ hp.h;exact⟨a,c,by rw[e,ay,hN]⟩
  have mX:=F (show N<=1000 by rw[hN];exact hp.n.2.1);have Xa:=F hp.x;subst hhv;have HHV:=F<|λW (U:r7 w W)=>hp.h.below U;clear MZ hR C J L hN hp ok K;obtain⟨W,hw,hsz,c1,c2,G⟩:=qd w 24 32 (aY sv (.slice av N cc) tv p.most) (aT h);have C1:=F c1;have y:=F c2;have B2:=F G;have HW:=F hw;have HSW:=F hsz;clear c1 c2 G hw hsz;by_cases k0:i=0
  · have d:=F (show R=true by rw[HR.o];unfold mC;rw[decide_eq_true (.inl (by rw[<-t.o];exact k0))];rfl)
    go_enter func80,ntmps80
    go_upto_region 1 with fail
    rw[HW.o];subst k0
    go_wp2_with (first|((with_reducible apply bS);refine tY r5 (.tmp 8) rfl (w.heap.size+1) 0 32 (aT h) y.o (.int .i64 0) u.o rfl ?_))
    go_ret;exact⟨by rw[d.o];rfl,B2.o⟩
  by_cases k1:i=1
  · have d:=F (show R=true by rw[HR.o];unfold mC;rw[decide_eq_true (.inr (by rw[<-t.o];exact k1))];rfl)
    go_enter func80,ntmps80
    go_upto_region 1 with fail
    rw[HW.o];subst k1
    go_wp2_with (first|((with_reducible apply bS);first|refine tY r5 (.tmp 8) rfl (w.heap.size+1) 0 32 (aT h) y.o (.int .i64 1) u.o rfl ?_|refine tY r5 (.tmp 12) rfl (w.heap.size+1) 0 32 (aT h) y.o (.int .i64 1) u.o rfl ?_))
    go_ret;exact⟨by rw[d.o];rfl,B2.o⟩
  have HRH:=F (show R=p.hosts.any (mD h) by
    rw[HR.o];unfold mC
    rw[decide_eq_false (by rw[<-t.o];rintro(e|e);· exact k0 e
                           exact k1 e)]
    rfl)
  have q0:(i==0)=false:=by simpa using k0
  have q1:(i==1)=false:=by simpa using k1
  go_enter func80,ntmps80
  go_upto_region 1 with fail
  rw[HW.o]
  go_upto_region 4 with(first|((with_reducible apply bS);first|refine tY r5 (.tmp 8) rfl (w.heap.size+1) 0 32 (aT h) y.o (.int .i64 i) u.o rfl ?_|refine tY r5 (.tmp 12) rfl (w.heap.size+1) 0 32 (aT h) y.o (.int .i64 i) u.o rfl ?_|refine vR r5 32 (.tmp 3) rfl (w.heap.size+1) (aT h) _ underlying32 rfl (by rw[eM.o];exact PG) rfl y.o ?_)|(go_at_call 28;refine(zG.o _ B2.o).m ?_;rintro e w3 ⟨rfl,U⟩;have T:=F<|dw B2.o U;have D1:=F<|C1.o.keep U;have s:=F<|y.o.keep U;clear U))
  go_upto_region 5 with(first|((with_reducible apply bS);refine gwr r5 (.tmp 18) rfl w.heap.size 1 24 (aY sv (.slice av N cc) tv p.most) D1.o (.slice av N cc) rfl rfl ?_))
  obtain⟨w4,P⟩:=V (w3);have H4:=F P;rw[<-P]at T D1 s ⊢;clear P C1 y B2 HW zG HR;have oP:N<=1000:=mX.o
  go_loopw [7,21] (λ_ iv wr=>∃ k:Nat,k<=N/\iv=.int .i64 k/\Hid (∀j (B:j<p.hosts.length),j<k->mD h p.hosts[j]=false)/\w4=wr) (λ_ iv _=>N-(intOf iv).toNat)
  exact⟨0,M0,Oc,λj B h=>M0,rfl⟩
  obtain⟨k,hk,rfl,hd,rfl⟩:=hrel;by_cases hlt:k<N
  · have D:k<p.hosts.length:=by have:=d.o;omega
    have X:=Xa.o _ (be D);obtain⟨b,o,rfl,hbb,hcc⟩:=gO (HHV.o _ T.o) k D;have g:=F (λ(e:mD h p.hosts[k]=true)=>show R=true by rw[HRH.o];exact m8.mpr ⟨_,be D,e⟩)
    have f:=F (λ(e:mD h p.hosts[k]=false)=>show ∀j (B:j<p.hosts.length),j<k+1->mD h p.hosts[j]=false from λj B hjk=>by
      by_cases e2:j=k
      · subst e2;exact e
      exact hd.o j B M0)
    have hh:mD h p.hosts[k]=(decide (p.hosts[k]=lJ h)||decide (p.hosts[k]=[42])||(Lib.hasPrefix p.hosts[k] [46]&&decide (h.kind=2)&&decide (p.hosts[k].length<h.name.length)&&Lib.hasSuffix h.name p.hosts[k])):=rfl;rw[hh]at g f;rw[<-t.o]at g f;clear hh hd;generalize p.hosts[k]=x at hcc X g f;obtain⟨xb,q⟩:=V (E x);rw[show S x=.string xb by rw[q]]at hcc;have e1:(xb.toList==tb.toList)=decide (x=lJ h):=by rw[q,Hy.o,aB,aB,jB]
    have e2:(xb.toList == [42])=decide (x=[42]):=by rw[q,aB,jB]
    have rH:=λW=>mE x [46] W;have r:=λW=>Vh h.name x W (am S1.o P8);rw[<-q]at rH r;rw[<-MW.o]at r;obtain⟨M,hM⟩:=V (h.name.length);obtain⟨X',hX⟩:=V (x.length);have hMs:nb.size=M:=by rw[MW.o,aF,hM]
    have hXs:xb.size=X':=by rw[q,aF,hX]
    rw[<-hM,<-hX]at g f;generalize decide (x=lJ h)=r1 at e1 g f;generalize decide (x=[42])=r2 at e2 g f;generalize Lib.hasPrefix x [46]=r3 at rH g f;generalize Lib.hasSuffix h.name x=r6 at r g f;have tS:=F (show ∀W,bP prog 83 #[.string xb,.string ⟨#[46]⟩] W (.bool r3)from rH);have SX:=F r;clear rH r q hM hX X;cases r1 with
    |true =>
      have d:=F<|g.o Oc;clear g f;go_wp2_with fail;go_ret;exact⟨by rw[d.o];rfl,T.o⟩
    |false =>
      cases r2 with
      |true =>
        have d:=F<|g.o Oc;clear g f;go_wp2_with fail;go_ret;exact⟨by rw[d.o];rfl,T.o⟩
      |false =>
        cases r3 with
        |false =>
          have d:=F<|f.o Oc;clear g f
          go_wp2_with (first|(go_at_call 83;refine(tS.o _).m ?_;rintro e v ⟨rfl,hw⟩;subst v))
          go_roundw
          exact⟨k+1,M0,by go_num,d.o,by trivial⟩
          simp[intOf];omega
        |true =>
          by_cases z:i=2
          · have q2:(i==2)=true:=by rw[z];rfl
            by_cases h5:X'<M
            · have h5i:(X':Int)<M:=by omega
              cases r6 with
              |true =>
                have d:=F<|g.o (by rw[decide_eq_true z,decide_eq_true h5];rfl);clear g f z
                go_wp2_with (first|((with_reducible apply bS);first|refine tY r5 (.tmp 35) rfl (w.heap.size+1) 0 32 (aT h) s.o (.int .i64 i) u.o rfl ?_|refine FO r5 (.tmp 40) rfl (w.heap.size+1) 1 32 (aT h) s.o (.string nb) rE.o rfl ?_|refine FO r5 (.tmp 48) rfl (w.heap.size+1) 1 32 (aT h) s.o (.string nb) rE.o rfl ?_)|(go_at_call 83;refine(tS.o _).m ?_;rintro e v ⟨rfl,hw⟩;subst v)|(go_at_call 84;refine(SX.o _).m ?_;rintro e x2 ⟨rfl,hw⟩;subst x2))
                go_ret;exact⟨by rw[d.o];rfl,T.o⟩
              |false =>
                have d:=F<|f.o (by rw[decide_eq_true z,decide_eq_true h5];rfl);clear g f z
                go_wp2_with (first|((with_reducible apply bS);first|refine tY r5 (.tmp 35) rfl (w.heap.size+1) 0 32 (aT h) s.o (.int .i64 i) u.o rfl ?_|refine FO r5 (.tmp 40) rfl (w.heap.size+1) 1 32 (aT h) s.o (.string nb) rE.o rfl ?_|refine FO r5 (.tmp 48) rfl (w.heap.size+1) 1 32 (aT h) s.o (.string nb) rE.o rfl ?_)|(go_at_call 83;refine(tS.o _).m ?_;rintro e v ⟨rfl,hw⟩;subst v)|(go_at_call 84;refine(SX.o _).m ?_;rintro e x2 ⟨rfl,hw⟩;subst x2))
                go_roundw
                exact⟨k+1,M0,by go_num,d.o,by trivial⟩
                simp[intOf];omega
            have h5i:¬ (X':Int)<M:=M0;have d:=F<|f.o (by rw[decide_eq_false h5];simp);clear g f z
            go_wp2_with (first|((with_reducible apply bS);first|refine tY r5 (.tmp 35) rfl (w.heap.size+1) 0 32 (aT h) s.o (.int .i64 i) u.o rfl ?_|refine FO r5 (.tmp 40) rfl (w.heap.size+1) 1 32 (aT h) s.o (.string nb) rE.o rfl ?_)|(go_at_call 83;refine(tS.o _).m ?_;rintro e v ⟨rfl,hw⟩;subst v))
            go_roundw
            exact⟨k+1,M0,by go_num,d.o,by trivial⟩
            simp[intOf];omega
          have q2:(i==2)=false:=by simpa using z
          have d:=F<|f.o (by rw[decide_eq_false z];simp);clear g f
          go_wp2_with (first|((with_reducible apply bS);refine tY r5 (.tmp 35) rfl (w.heap.size+1) 0 32 (aT h) s.o (.int .i64 i) u.o rfl ?_)|(go_at_call 83;refine(tS.o _).m ?_;rintro e v ⟨rfl,hw⟩;subst v))
          go_roundw
          exact⟨k+1,M0,by go_num,d.o,by trivial⟩
          simp[intOf];omega
  obtain rfl:k=N:=M0
  have mh:=F (show R=false by
    rw[HRH.o,M6];intro x X;obtain⟨j,B,rfl⟩:=cC X;rw[hd.o j B (by rw[d.o];exact B)];simp)
  clear hd;go_wp2_with fail;go_ret;exact⟨by rw[mh.o];rfl,T.o⟩

theorem b5a(l:List O)(x:O)(v:Z)(w:H){B:Nat}(h:Sl B w v (l.map S))(L:l.length<=1024000000) :
    bP prog 127 #[v,.string (E x)] w (.bool (decide (x∈l))):=by
  obtain⟨av,cc,hv⟩:=cQ h;rw[ay]at hv;subst hv;obtain⟨N,s⟩:=V (l.length);rw[<-s]at h L ⊢;obtain⟨P,c⟩:=V (E x);obtain⟨R,t⟩:=V (decide (x∈l));rw[<-c,<-t];have u:=F h;have f:=F s;have z:=F t;have J:=F c;clear h s t c;obtain⟨w3,p⟩:=V (w);rw[<-p]at u ⊢;clear p;go_enter func127,ntmps127;go_wp2_with fail
  go_loopw [5] (λiv wr=>∃ k:Nat,k<=N/\iv=.int .i64 k/\Hid (∀j (g:j<l.length),j<k->l[j]≠x)/\w3=wr) (λi _=>N-(intOf i).toNat)
  exact⟨0,M0,Oc,F (λj _ h=>M0),rfl⟩
  obtain⟨k,hk,rfl,hd,rfl⟩:=hrel;by_cases hlt:k<N
  · have n:k<l.length:=by have:=f.o;omega
    obtain⟨b,o,rfl,hbb,m⟩:=gO u.o k n;have q:=F (λ(e:l[k]=x)=>show R=true by rw[z.o,decide_eq_true_eq,<-e];exact be n)
    have r:=F (λ(e:¬ l[k]=x)=>show ∀j (g:j<l.length),j<k+1->l[j]≠x from λj g hjk=>by
      by_cases K:j=k
      · subst K;exact e
      exact hd.o j g M0)
    clear hd;generalize l[k]=y at m q r;obtain⟨D,d⟩:=V (E y);rw[show S y=.string D by rw[d]]at m;have C:(D.toList==P.toList)=decide (y=x):=by rw[d,J.o,aB,aB,jB]
    clear d;by_cases he:y=x
    · have f:=F<|q.o he
      rw[decide_eq_true he]at C;clear q r he;go_wp2_with fail;go_ret;exact⟨by rw[f.o];rfl,by trivial⟩
    have f:=F<|r.o he;rw[decide_eq_false he]at C;clear q r he;go_wp2_with fail;go_roundw
    exact⟨k+1,M0,by go_num,f.o,by trivial⟩
    simp[intOf];omega
  obtain rfl:k=N:=M0
  have M:=F (show R=false by
    rw[z.o,decide_eq_false_iff_not];intro X;obtain⟨j,g,e⟩:=cC X;exact hd.o j g (by rw[f.o];exact g) e)
  clear hd;go_wp2_with fail;go_ret;exact⟨by rw[M.o];rfl,by trivial⟩
theorem b5S(p:qh)(x:O)(sv hv tv:Z)(w:H)(h:b6w w sv hv tv p):bF prog 85 #[.agg (aY sv hv tv p.most),.string (E x)] w (.bool (decide (x∈p.schemes))):=by
  have i:=F<|λW (U:r7 w W)=>b5a p.schemes x sv W (h.s.below U) (by have:=h.n;omega);have g:=F<|CB.new w 24 (aY sv hv tv p.most);have d:=F<|(Below.refl w.heap.size w).alloc (ag _) (.cells (aY sv hv tv p.most) 24);obtain⟨w1,c⟩:=V (w.alloc (.cells (aY sv hv tv p.most) 24));rw[<-c]at g d;have f:=F c;obtain⟨q,j⟩:=V (decide (x∈p.schemes));obtain⟨xb,X⟩:=V (E x);rw[<-j,<-X]at i ⊢;clear c j X h;go_enter func85,ntmps85
  go_upto_region 1 with fail
  rw[<-f.o]
  go_wp2_with (first|((with_reducible apply bS);refine yx rfl (.tmp 5) rfl w.heap.size 24 (aY sv hv tv p.most) g.o 0 sv rfl rfl ?_)|(go_at_call 127;refine(i.o _ d.o).m ?_;rintro e w2 ⟨rfl,hw⟩;subst w2))
  go_ret;exact⟨rfl,d.o⟩
theorem b6p(p:qh)(x:O)(sv hv tv:Z)(w:H)(h:b6w w sv hv tv p):bF prog 87 #[.agg (aY sv hv tv p.most),.string (E x)] w (.bool (decide (x∈p.types))):=by
  have i:=F<|λW (U:r7 w W)=>b5a p.types x tv W (h.t.below U) (by have:=h.n;omega);have g:=F<|CB.new w 24 (aY sv hv tv p.most);have d:=F<|(Below.refl w.heap.size w).alloc (ag _) (.cells (aY sv hv tv p.most) 24);obtain⟨w1,c⟩:=V (w.alloc (.cells (aY sv hv tv p.most) 24));rw[<-c]at g d;have f:=F c;obtain⟨q,j⟩:=V (decide (x∈p.types));obtain⟨xb,X⟩:=V (E x);rw[<-j,<-X]at i ⊢;clear c j X h;go_enter func87,ntmps87
  go_upto_region 1 with fail
  rw[<-f.o]
  go_wp2_with (first|((with_reducible apply bS);refine yx rfl (.tmp 5) rfl w.heap.size 24 (aY sv hv tv p.most) g.o 2 tv rfl rfl ?_)|(go_at_call 127;refine(i.o _ d.o).m ?_;rintro e w2 ⟨rfl,hw⟩;subst w2))
  go_ret;exact⟨rfl,d.o⟩
theorem b7e{h:gF}{l:List O}{R:Bool}(c:R=l.any (mD h))(Y:¬ [42]∈l)(I:¬ lJ h∈l):R=l.any (b4z h):=by
  rw[c,b47,decide_eq_false Y,decide_eq_false I];rfl
theorem b6H(a:O):(match a with | []=>false|x::_=>decide (x=46))=(if h:0<a.length then decide (G a[0]=46)else false):=by
  cases a with
  |nil=>rfl
  |cons x r =>
    rw[dif_pos Oc];show decide (x=46)=decide (G x=46);rw[decide_eq_decide];exact⟨λh=>by rw[h];decide,λh=>eX (h.trans P8)⟩
inductive c1r (h:gF) (a:O) (xb nb:ByteArray):Prop
  |none (e:xb.toList=[]) (r:b4z h a=false)
  |byte (e:¬ xb.toList=[]) (hz:0<xb.size) (c:Int) (X:((xb[0]'hz).toNat:Int)=c) (hc:¬ c=46) (r:b4z h a=false)
  |kind (e:¬ xb.toList=[]) (hz:0<xb.size) (X:((xb[0]'hz).toNat:Int)=46) (hk:¬ h.kind=2) (r:b4z h a=false)
  |size (e:¬ xb.toList=[]) (hz:0<xb.size) (X:((xb[0]'hz).toNat:Int)=46) (hk:h.kind=2) (hs:¬ xb.size<nb.size) (r:b4z h a=false)
  |tail (e:¬ xb.toList=[]) (hz:0<xb.size) (X:((xb[0]'hz).toNat:Int)=46) (hk:h.kind=2) (hs:xb.size<nb.size) (D:Nat) (hD:D+xb.size=nb.size) (q:Bool) (hq:((nb.extract D nb.size).toList==xb.toList)=q) (r:b4z h a=q)
theorem c2U(h:gF)(a:O):c1r h a (E a) (E h.name):=by
  have hd:=(b7g h a).trans (congrArg (λq=>decide (h.kind=2)&&(decide (a.length<h.name.length)&&q&&decide (h.name.drop (h.name.length-a.length)=a))) (b6H a));by_cases h0:a=[]
  · exact .none (by rw[aB,h0]) (by rw[hd,dif_neg (by rw[h0];simp)];simp)
  have e:¬ (E a).toList=[]:=by rw[aB];exact h0
  have hp:0<a.length:=eo.mpr h0;have c:0<(E a).size:=by rw[aF];exact hp
  have X:(((E a)[0]'c).toNat:Int)=G a[0]:=cy rfl c hp;rw[dif_pos hp]at hd;by_cases f:G a[0]=46
  · rw[f]at X
    by_cases d:h.kind=2
    · by_cases g:a.length<h.name.length
      · refine .tail e c X d (by rw[aF,aF];exact g) (h.name.length-a.length) (by rw[aF,aF];omega) (decide (h.name.drop (h.name.length-a.length)=a)) ?_ (by rw[hd];simp[d,g];exact λ_=>f)
        rw[aF,gn h.name _ _ rfl,aB,aB,jB]
      exact .size e c X d (by rw[aF,aF];exact g) (by rw[hd];simp[g])
    exact .kind e c X d (by rw[hd];simp[d])
  exact .byte e c _ X f (by rw[hd];simp;exact λ_ _ h=>absurd h f)
theorem b6n(p:qh)(h:gF)(sv hv tv:Z)(w:H)(hp:b6w w sv hv tv p)(ok:sV h)(hnl:h.name.length<=102400000) :
    bF prog 86 #[.agg (aY sv hv tv p.most),.agg (aT h)] w (.bool (mC p h)):=by
  have MZ:=F<|λW=>b7i h (aT h) W (ZZ ok) hnl;obtain⟨R,hR⟩:=V (mC p h);rw[<-hR];have HR:=F hR;obtain⟨g,hkd⟩:=V (h.kind);have B:=F (show(aT h)[0]? = some (.int .i64 g) by rw[hkd];rfl);have s:=F hkd;obtain⟨nb,z⟩:=V (E h.name);have rE:=F (show(aT h)[1]? = some (.string nb) by rw[z];rfl);have MW:=F z;have S1:=F (show nb.size<=102400000 by rw[z,aF];exact hnl);have eM:=F<|h_size ok.l;obtain⟨tb,htb⟩:=V (E (lJ h));obtain⟨N,hN⟩:=V (p.hosts.length);have d:=F hN
  obtain⟨u,cc,hhv⟩:∃ a c,hv=.slice a N c:=by
    obtain⟨a,c,e⟩:=cQ hp.h;exact⟨a,c,by rw[e,ay,hN]⟩
  have mX:=F (show N<=1000 by rw[hN];exact hp.n.2.1);have Xa:=F hp.x;subst hhv;obtain⟨W0,hw,hsz,c1,c2,G⟩:=qd w 24 32 (aY sv (.slice u N cc) tv p.most) (aT h);have HHV:=F<|λW (U:r7 W0 W)=>hp.h.below (dw G U);obtain⟨q1,hq1⟩:=V (decide ([42]∈p.hosts));obtain⟨q2,hq2⟩:=V (decide (lJ h∈p.hosts));have v:=F<|λW (U:r7 W0 W)=>(show bP prog 127 #[.slice u N cc,.string ⟨#[42]⟩] W (.bool q1)from by rw[hq1];exact b5a p.hosts [42] _ W (hp.h.below (dw G U)) (by have:=hp.n;omega));have HA2:=F<|λW (U:r7 W0 W)=>(show bP prog 127 #[.slice u N cc,.string tb] W (.bool q2)from by rw[hq2,htb];exact b5a p.hosts (lJ h) _ W (hp.h.below (dw G U)) (by have:=hp.n;omega));have zG:=F<|λW (_:r7 W0 W)=>(show bF prog 32 #[.agg (aT h)] W (.string tb)from by rw[htb];exact MZ.o W);have HQ1:=F hq1;have HQ2:=F hq2
  have HRQ:=F (λ(h0:¬ g=0) (Y:¬ g=1)=>show R=p.hosts.any (mD h) by
    rw[HR.o];unfold mC
    rw[decide_eq_false (by rw[<-s.o];rintro(e|e);· exact h0 e
                           exact Y e)]
    rfl)
  clear MZ hR hkd z htb hN hp ok hnl hq1 hq2;have C1:=F c1;have C:=F c2;have B2:=F G;have HW:=F hw;clear c1 c2 G hw hsz;by_cases k0:g=0
  · have d:=F (show R=true by rw[HR.o];unfold mC;rw[decide_eq_true (.inl (by rw[<-s.o];exact k0))];rfl)
    go_enter func86,ntmps86
    go_upto_region 1 with fail
    rw[HW.o];subst k0
    go_wp2_with (first|((with_reducible apply bS);refine tY r5 (.tmp 8) rfl (w.heap.size+1) 0 32 (aT h) C.o (.int .i64 0) B.o rfl ?_))
    go_ret;exact⟨by rw[d.o];rfl,B2.o⟩
  by_cases k1:g=1
  · have d:=F (show R=true by rw[HR.o];unfold mC;rw[decide_eq_true (.inr (by rw[<-s.o];exact k1))];rfl)
    go_enter func86,ntmps86
    go_upto_region 1 with fail
    rw[HW.o];subst k1
    go_wp2_with (first|((with_reducible apply bS);first|refine tY r5 (.tmp 8) rfl (w.heap.size+1) 0 32 (aT h) C.o (.int .i64 1) B.o rfl ?_|refine tY r5 (.tmp 12) rfl (w.heap.size+1) 0 32 (aT h) C.o (.int .i64 1) B.o rfl ?_))
    go_ret;exact⟨by rw[d.o];rfl,B2.o⟩
  have y:=F<|HRQ.o k0 k1;have q0:(g==0)=false:=by simpa using k0
  have q3:(g==1)=false:=by simpa using k1
  clear HRQ;go_enter func86,ntmps86
  go_upto_region 1 with fail
  rw[HW.o]
  go_upto_region 3 with(first|((with_reducible apply bS);first|refine tY r5 (.tmp 8) rfl (w.heap.size+1) 0 32 (aT h) C.o (.int .i64 g) B.o rfl ?_|refine tY r5 (.tmp 12) rfl (w.heap.size+1) 0 32 (aT h) C.o (.int .i64 g) B.o rfl ?_))
  cases q1 with
  |true =>
    have d:=F (show R=true by rw[y.o,b47,<-HQ1.o];rfl);refine wp_region_held_drew (S:=λW=>r7 W0 W) Rz (by first|exact hHeld|exact bg _|exact bG (bg _)|exact J.o) (λhHeld=>?_);refine ek 0 ?_;refine tq 1 rfl ?_ (λwS hSw=>?_) ?_;rotate_left
    · (try dsimp only at hSw)
      refine bK 22 (.tmp 16) ?_ w.heap.size 1 (.slice u N cc) _ underlying22 rfl ?_ ((C1.o.keep hSw).aE rfl)
      · rfl
      rfl
    try simp only[Act.put,fH,fI,fJ]
    refine rn 2 Rz rfl r5 (λK hK=>?_)
    go_simp
    refine(v.o _ hHeld).m ?_;rintro e wa ⟨rfl,hw⟩;subst wa;have J:=F hHeld;refine hK.out _ _ ?_ (λhHeld=>?_)
    · first|exact hHeld|exact bg _|exact bG (bg _)|exact J.o
    clear hK K
    try simp only[Act.put,fH,fI,fJ]
    refine ek 3 ?_;refine sk 4 rfl Rz Rz Rz (λ_ _ _ h=>h) r5 (by assumption) ?_
    try simp only[Act.put,fH,fI,fJ]
    refine sk 5 rfl Rz Rz Rz (λ_ _ _ h=>h) r5 (by assumption) ?_
    try simp only[Act.put,fH,fI,fJ]
    refine sk 6 rfl Rz Rz Rz (λ_ _ _ h=>h) r5 (by assumption) ?_
    try simp only[Act.put,fH,fI,fJ]
    refine sk 7 rfl Rz Rz Rz (λ_ _ _ h=>h) r5 (by assumption) ?_
    try simp only[Act.put,fH,fI,fJ]
    refine sk 8 rfl Rz Rz Rz (λ_ _ _ h=>h) r5 (by assumption) ?_
    try simp only[Act.put,fH,fI,fJ]
    refine ek 9 ?_;refine wpAnyH_done Rz ?_ _;go_wp2_with fail;go_ret;exact⟨by rw[d.o];rfl,dw B2.o J.o⟩
  |false =>
    cases q2 with
    |true =>
      have d:=F (show R=true by rw[y.o,b47,<-HQ2.o];simp);refine wp_region_held_drew (S:=λW=>r7 W0 W) Rz (by first|exact hHeld|exact bg _|exact bG (bg _)|exact J.o) (λhHeld=>?_);refine ek 0 ?_;refine tq 1 rfl ?_ (λwS hSw=>?_) ?_;rotate_left
      · (try dsimp only at hSw)
        refine bK 22 (.tmp 16) ?_ w.heap.size 1 (.slice u N cc) _ underlying22 rfl ?_ ((C1.o.keep hSw).aE rfl)
        · rfl
        rfl
      try simp only[Act.put,fH,fI,fJ]
      refine rn 2 Rz rfl r5 (λK hK=>?_)
      go_simp
      refine(v.o _ hHeld).m ?_;rintro e wa ⟨rfl,hw⟩;subst wa;have J:=F hHeld;refine hK.out _ _ ?_ (λhHeld=>?_)
      · first|exact hHeld|exact bg _|exact bG (bg _)|exact J.o
      clear hK K
      try simp only[Act.put,fH,fI,fJ]
      refine ek 3 ?_;refine ek 4 ?_;refine tq 5 rfl ?_ (λwS hSw=>?_) ?_;rotate_left
      · (try dsimp only at hSw)
        refine bK 22 (.tmp 20) ?_ w.heap.size 1 (.slice u N cc) _ underlying22 rfl ?_ ((C1.o.keep hSw).aE rfl)
        · rfl
        rfl
      try simp only[Act.put,fH,fI,fJ]
      refine tq 6 rfl ?_ (λwS hSw=>?_) ?_;rotate_left
      · (try dsimp only at hSw)
        refine je 32 (.tmp 3) ?_ (w.heap.size+1) (aT h) _ underlying32 rfl (by rw[eM.o];exact PG) ?_ ?_
        · rfl
        · rfl
        exact C.o.keep hSw
      try simp only[Act.put,fH,fI,fJ]
      refine rn 7 Rz rfl r5 (λK hK=>?_)
      go_simp
      refine(zG.o _ hHeld).m ?_;rintro e wb ⟨rfl,U⟩;have J:=F<|dw hHeld U;clear U;refine hK.out _ _ ?_ (λhHeld=>?_)
      · first|exact hHeld|exact bg _|exact bG (bg _)|exact J.o
      clear hK K
      try simp only[Act.put,fH,fI,fJ]
      refine rn 8 Rz rfl r5 (λK hK=>?_)
      go_simp
      refine(HA2.o _ hHeld).m ?_;rintro e wc ⟨rfl,hw⟩;subst wc;have J:=F hHeld;refine hK.out _ _ ?_ (λhHeld=>?_)
      · first|exact hHeld|exact bg _|exact bG (bg _)|exact J.o
      clear hK K
      try simp only[Act.put,fH,fI,fJ]
      refine ek 9 ?_;refine wpAnyH_done Rz ?_ _;go_wp2_with fail;go_ret;exact⟨by rw[d.o];rfl,dw B2.o J.o⟩
    |false =>
      have Be:=F<|b7e y.o (of_decide_eq_false HQ1.o.symm) (of_decide_eq_false HQ2.o.symm);refine wp_region_held_drew (S:=λW=>r7 W0 W) Rz (by first|exact hHeld|exact bg _|exact bG (bg _)|exact J.o) (λhHeld=>?_);refine ek 0 ?_;refine tq 1 rfl ?_ (λwS hSw=>?_) ?_;rotate_left
      · (try dsimp only at hSw)
        refine bK 22 (.tmp 16) ?_ w.heap.size 1 (.slice u N cc) _ underlying22 rfl ?_ ((C1.o.keep hSw).aE rfl)
        · rfl
        rfl
      try simp only[Act.put,fH,fI,fJ]
      refine rn 2 Rz rfl r5 (λK hK=>?_)
      go_simp
      refine(v.o _ hHeld).m ?_;rintro e wa ⟨rfl,hw⟩;subst wa;have J:=F hHeld;refine hK.out _ _ ?_ (λhHeld=>?_)
      · first|exact hHeld|exact bg _|exact bG (bg _)|exact J.o
      clear hK K
      try simp only[Act.put,fH,fI,fJ]
      refine ek 3 ?_;refine ek 4 ?_;refine tq 5 rfl ?_ (λwS hSw=>?_) ?_;rotate_left
      · (try dsimp only at hSw)
        refine bK 22 (.tmp 20) ?_ w.heap.size 1 (.slice u N cc) _ underlying22 rfl ?_ ((C1.o.keep hSw).aE rfl)
        · rfl
        rfl
      try simp only[Act.put,fH,fI,fJ]
      refine tq 6 rfl ?_ (λwS hSw=>?_) ?_;rotate_left
      · (try dsimp only at hSw)
        refine je 32 (.tmp 3) ?_ (w.heap.size+1) (aT h) _ underlying32 rfl (by rw[eM.o];exact PG) ?_ ?_
        · rfl
        · rfl
        exact C.o.keep hSw
      try simp only[Act.put,fH,fI,fJ]
      refine rn 7 Rz rfl r5 (λK hK=>?_)
      go_simp
      refine(zG.o _ hHeld).m ?_;rintro e wb ⟨rfl,U⟩;have J:=F<|dw hHeld U;clear U;refine hK.out _ _ ?_ (λhHeld=>?_)
      · first|exact hHeld|exact bg _|exact bG (bg _)|exact J.o
      clear hK K
      try simp only[Act.put,fH,fI,fJ]
      refine rn 8 Rz rfl r5 (λK hK=>?_)
      go_simp
      refine(HA2.o _ hHeld).m ?_;rintro e wc ⟨rfl,hw⟩;subst wc;have J:=F hHeld;refine hK.out _ _ ?_ (λhHeld=>?_)
      · first|exact hHeld|exact bg _|exact bG (bg _)|exact J.o
      clear hK K
      try simp only[Act.put,fH,fI,fJ]
      refine ek 9 ?_;refine wpAnyH_done Rz ?_ _;have BJ:=F J.o;clear J hHeld y HR v HA2 zG
      go_upto_region 6 with fail
      obtain⟨w4,hw4⟩:=V (wb);rw[<-hw4]at BJ ⊢;clear hw4;have D1:=F<|C1.o.keep BJ.o;have T:=F<|C.o.keep BJ.o;have HNm:N<=1000:=mX.o
      go_loopw [5,6,7] (λiv _ _ wr=>∃ k:Nat,k<=N/\iv=.int .i64 k/\Hid (∀j (hj:j<p.hosts.length),j<k->b4z h p.hosts[j]=false)/\w4=wr) (λiv _ _ _=>N-(intOf iv).toNat)
      exact⟨0,M0,Oc,F (λj hj h=>M0),rfl⟩
      obtain⟨k,hk,rfl,hd,rfl⟩:=hrel;by_cases hlt:k<N
      · have hkl:k<p.hosts.length:=by have:=d.o;omega
        have X:=Xa.o _ (be hkl);obtain⟨b,o,rfl,hbb,hcc⟩:=gO (HHV.o _ BJ.o) k hkl;have L:=F (λ(e:b4z h p.hosts[k]=true)=>show R=true by rw[Be.o];exact m8.mpr ⟨_,be hkl,e⟩)
        have t:=F (λ(e:b4z h p.hosts[k]=false)=>show ∀j (hj:j<p.hosts.length),j<k+1->b4z h p.hosts[j]=false from λj hj hjk=>by
          by_cases e2:j=k
          · subst e2;exact e
          exact hd.o j hj M0)
        have i:=c2U h p.hosts[k];clear hd;generalize p.hosts[k]=x at hcc X L t i;rw[<-MW.o]at i;have hxs:(E x).size=x.length:=aF x;obtain⟨P,hxb⟩:=V (E x);rw[<-hxb]at i hxs;rw[show S x=.string P by rw[hxb]]at hcc;clear hxb;obtain⟨M,hM⟩:=V (nb.size);obtain⟨X',hX⟩:=V (P.size);have hMs:nb.size=M:=hM.symm;have hXs:P.size=X':=hX.symm;have hMl:M<=102400000:=by have:=S1.o;omega
        have hXl:X'<=1000000:=M0;obtain⟨D,hD⟩:∃ D:Int,D=(M:Int)-X':=⟨_,rfl⟩;have hwD:IntKind.i64.wrap ((M:Int)-X')=D:=by rw[hD];exact IntWalk.i64_in _ M0
        have HD:=F hD;clear hM hX hD hxs X hMl hXl;have Tt:=F i;clear i
        go_upto_region 10 with(first|((with_reducible apply bS);first|refine gwr r5 (.tmp 27) rfl w.heap.size 1 24 (aY sv (.slice (some ⟨b,o,none⟩) N cc) tv p.most) D1.o (.slice (some ⟨b,o,none⟩) N cc) rfl rfl ?_|refine gwr r5 (.tmp 33) rfl w.heap.size 1 24 (aY sv (.slice (some ⟨b,o,none⟩) N cc) tv p.most) D1.o (.slice (some ⟨b,o,none⟩) N cc) rfl rfl ?_|refine FO r5 (.tmp 38) rfl (w.heap.size+1) 1 32 (aT h) T.o (.string nb) rE.o rfl ?_))
        clear hcc hwD;have i:=Tt.o;clear Tt;cases i with
        |none e r =>
          have d:=F<|t.o r;have e2:P.toList.isEmpty=true:=by rw[e];rfl
          clear L t r;go_wp2_with fail;go_roundw
          exact⟨k+1,M0,by go_num,d.o,by trivial⟩
          simp[intOf];omega
        |byte e hz c hy hc r =>
          have d:=F<|t.o r;have e2:P.toList.isEmpty=false:=by simpa using e
          have hc2:(c==46)=false:=by simpa using hc
          clear L t r;go_wp2_with fail;go_roundw
          exact⟨k+1,M0,by go_num,d.o,by trivial⟩
          simp[intOf];omega
        |kind e hz hy f r =>
          rw[<-s.o]at f;have d:=F<|t.o r;have e2:P.toList.isEmpty=false:=by simpa using e
          have q4:(g==2)=false:=by simpa using f
          clear L t r
          go_wp2_with (first|((with_reducible apply bS);refine tY r5 (.tmp 52) rfl (w.heap.size+1) 0 32 (aT h) T.o (.int .i64 g) B.o rfl ?_))
          go_roundw
          exact⟨k+1,M0,by go_num,d.o,by trivial⟩
          simp[intOf];omega
        |size e hz hy f hs r =>
          rw[<-s.o]at f;have d:=F<|t.o r;have e2:P.toList.isEmpty=false:=by simpa using e
          have q4:(g==2)=true:=by rw[f];rfl
          have hD0:¬ (0:Int)<D:=by have:=HD.o;omega
          clear L t r hs f
          go_wp2_with (first|((with_reducible apply bS);refine tY r5 (.tmp 52) rfl (w.heap.size+1) 0 32 (aT h) T.o (.int .i64 g) B.o rfl ?_))
          go_roundw
          exact⟨k+1,M0,by go_num,d.o,by trivial⟩
          simp[intOf];omega
        |tail e hz hy f hs E' hE q hq r =>
          rw[<-s.o]at f;have e2:P.toList.isEmpty=false:=by simpa using e
          have q4:(g==2)=true:=by rw[f];rfl
          obtain rfl:D=(E':Int):=by have:=HD.o;omega
          have hD0:(0:Int)<E':=M0;have hEM:E'<=M:=M0;have c7e:(E':Int)<=M:=M0;rw[hMs]at hq;obtain⟨tl,htl⟩:=V (nb.extract E' M);have b8U:nb.extract E' M=tl:=htl.symm;rw[<-htl]at hq;clear hs f hE htl HD;cases q with
          |true =>
            have d:=F<|L.o r;clear L t r
            go_wp2_with (first|((with_reducible apply bS);first|refine tY r5 (.tmp 52) rfl (w.heap.size+1) 0 32 (aT h) T.o (.int .i64 g) B.o rfl ?_|refine FO r5 (.tmp 61) rfl (w.heap.size+1) 1 32 (aT h) T.o (.string nb) rE.o rfl ?_))
            go_ret;exact⟨by rw[d.o];rfl,dw B2.o BJ.o⟩
          |false =>
            have d:=F<|t.o r;clear L t r
            go_wp2_with (first|((with_reducible apply bS);first|refine tY r5 (.tmp 52) rfl (w.heap.size+1) 0 32 (aT h) T.o (.int .i64 g) B.o rfl ?_|refine FO r5 (.tmp 61) rfl (w.heap.size+1) 1 32 (aT h) T.o (.string nb) rE.o rfl ?_))
            go_roundw
            exact⟨k+1,M0,by go_num,d.o,by trivial⟩
            simp[intOf];omega
      obtain rfl:k=N:=M0
      have mh:=F (show R=false by
        rw[Be.o,M6];intro x X;obtain⟨j,hj,rfl⟩:=cC X;rw[hd.o j hj (by rw[d.o];exact hj)];simp)
      clear hd
      go_wp2_with (first|((with_reducible apply bS);refine gwr r5 (.tmp 27) rfl w.heap.size 1 24 (aY sv (.slice u k cc) tv p.most) D1.o (.slice u k cc) rfl rfl ?_))
      go_ret;exact⟨by rw[mh.o];rfl,dw B2.o BJ.o⟩

section
variable {ops:Array Oper} {rest:List Oper} {o:Oper} {a:Act} {w:H} {Q:Exit->Act->H->Prop}
theorem wn:(prog.info? 24).map (·.size)=some 4:=Rz
theorem fj(c:Region.wanted o (yielded ops a.tmps)=true)(x:Operand)(d:o.op=.load 24 x)(b:Nat)(sv hv tv:Z)(m:Int)(X:a.eval x=.pointer (some ⟨b,0,none⟩))(i:CB w b 24 (aY sv hv tv m))(k:wpList prog ops Q rest (a.put o.dst (.agg (aY sv hv tv m))) w):wpList prog ops Q (o::rest) a w :=
 vR c 24 x d b (aY sv hv tv m) _ underlying24 rfl wn X i k
theorem XE(d:Region.wanted o (yielded ops a.tmps)=true)(x:Operand)(e:o.op=.load 32 x)(b:Nat)(A:Z)(u:Url)(c:u.host.six.length=8)(X:a.eval x=.pointer (some ⟨b,3,none⟩))(i:CB w b 34 (ai A u))(k:wpList prog ops Q rest (a.put o.dst (.agg (aT u.host))) w):wpList prog ops Q (o::rest) a w :=
 nj d _ (gU 32 x e b 3 (aS u.host) _ underlying32 rfl (by rw[show(aS u.host).length=11 by simp[aS,c]];exact PG) X (i.range (ry A u c).host)) k
end
theorem EQ(p:qh)(u:Url)(sv hv tv A:Z)(w:H)(hp:b6w w sv hv tv p)(h:zK u)(hs:Sl w.heap.size w A (u.path.map S))(hl:(dA u false).length<=1000000000)(hE:Env w)(hN:NE w) :
  bF prog 47 #[.agg (aY sv hv tv p.most),.agg (ai A u)] w (.bool (uP p u)):=by
 have H8:=F h.six;obtain⟨R,k⟩:=V (uP p u);rw[<-k];unfold uP Sw at k;have s:=λW (U:r7 w W)=>LM u A W h ((hs.below U).more U.size) hl (hE.below U) (hN.below U);have t:=λW (U:r7 w W)=>LZ p u.host sv hv tv W (hp.below U) h.ok.h h.sm.name (hN.below U);have j:=λW (U:r7 w W)=>Dm p u.aJ sv hv tv W (hp.below U);have J:=F<|λ(x:O) W (U:r7 w W)=>L5 p x sv hv tv W (hp.below U);obtain⟨f,d⟩:=V (E u.aJ);have B:=F (show(ai A u)[0]? = some (.string f) by rw[d];exact(ry A u h.six).aJ);rw[<-d]at j;obtain⟨r1,M⟩:=V (decide (u.aJ∈p.schemes));obtain⟨r2,N⟩:=V (mC p u.host);obtain⟨r3,i⟩:=V (decide (u.aJ=qI));have L:(f.toList == [100,97,116,97])=r3:=by rw[d,aB,jB,i];rfl
 have c:(f.toList=[100,97,116,97]) ↔ r3=true:=by rw[d,aB,i,decide_eq_true_eq];exact Iff.rfl
 rw[<-M]at j k;rw[<-N]at t k;rw[show decide (u.aJ≠qI)=!r3 by rw[i];simp]at k;obtain⟨E',K⟩:=V (BY u);rw[<-K]at s k;have rN:=F s;have WY:=F t;have rG:=F j;have D:=F k;clear s t j d M N i K k hp h hs hl hE hN;obtain⟨W,hw,hsz,c1,c2,G⟩:=qd w 24 34 (aY sv hv tv p.most) (ai A u);have q:=F c1;have r:=F c2;have z:=F G;have HW:=F hw;clear c1 c2 G hw hsz;cases r1 with
 |false =>
  have g:=F (show R=false by rw[D.o];rfl);clear L c;go_enter func47,ntmps47
  go_upto_region 1 with fail
  rw[HW.o]
  go_wp2_with (first|((with_reducible apply bS);first|refine fj r5 (.tmp 2) rfl w.heap.size sv hv tv p.most rfl q.o ?_|refine kA rfl (.tmp 8) rfl (w.heap.size+1) 34 (ai A u) r.o 0 (.string f) B.o rfl ?_)|(go_at_call 79;refine(rG.o _ z.o).m ?_;rintro e w3 ⟨rfl,U⟩;have l:=F<|dw z.o U;clear U))
  go_ret;exact⟨by rw[g.o];rfl,l.o⟩
 |true =>
  cases r2 with
  |false =>
   have g:=F (show R=false by rw[D.o];rfl);clear L c;go_enter func47,ntmps47
   go_upto_region 1 with fail
   rw[HW.o]
   go_wp2_with (first|(go_at_call 79;refine(rG.o _ z.o).m ?_;rintro e w3 ⟨rfl,U⟩;have l:=F<|dw z.o U;have T:=F<|q.o.keep U;have D2:=F<|r.o.keep U;clear U q r)|(go_at_call 80;refine(WY.o _ l.o).m ?_;rintro e w4 ⟨rfl,U⟩;have n:=F<|dw l.o U;clear U)|((with_reducible apply bS);first|refine fj r5 (.tmp 2) rfl w.heap.size sv hv tv p.most rfl q.o ?_|refine kA rfl (.tmp 8) rfl (w.heap.size+1) 34 (ai A u) r.o 0 (.string f) B.o rfl ?_|refine fj r5 (.tmp 2) rfl w.heap.size sv hv tv p.most rfl T.o ?_|refine XE r5 (.tmp 14) rfl (w.heap.size+1) A u H8.o rfl D2.o ?_))
   go_ret;exact⟨by rw[g.o];rfl,n.o⟩
  |true =>
   go_enter func47,ntmps47
   go_upto_region 1 with fail
   rw[HW.o]
   go_upto_region 3 with(first|(go_at_call 79;refine(rG.o _ z.o).m ?_;rintro e w3 ⟨rfl,U⟩;have l:=F<|dw z.o U;have T:=F<|q.o.keep U;have D2:=F<|r.o.keep U;clear U q r)|(go_at_call 80;refine(WY.o _ l.o).m ?_;rintro e w4 ⟨rfl,U⟩;have n:=F<|dw l.o U;have E1:=F<|T.o.keep U;have C:=F<|D2.o.keep U;clear U)|((with_reducible apply bS);first|refine fj r5 (.tmp 2) rfl w.heap.size sv hv tv p.most rfl q.o ?_|refine kA rfl (.tmp 8) rfl (w.heap.size+1) 34 (ai A u) r.o 0 (.string f) B.o rfl ?_|refine fj r5 (.tmp 2) rfl w.heap.size sv hv tv p.most rfl T.o ?_|refine XE r5 (.tmp 14) rfl (w.heap.size+1) A u H8.o rfl D2.o ?_))
   cases r3 with
   |false =>
    have hn:¬ f.toList=[100,97,116,97]:=λe=>by have:=c.mp e;cases this
    have g:=F (show R=true by rw[D.o];rfl);clear c
    go_wp2_with (first|((with_reducible apply bS);refine kA rfl (.tmp 19) rfl (w.heap.size+1) 34 (ai A u) C.o 0 (.string f) B.o rfl ?_))
    go_ret;exact⟨by rw[g.o];rfl,n.o⟩
   |true =>
    have hn:f.toList=[100,97,116,97]:=c.mpr rfl;clear c;cases E' with
    |none =>
     have g:=F (show R=false by rw[D.o];rfl)
     go_wp2_with (first|((with_reducible apply bS);first|refine kA rfl (.tmp 19) rfl (w.heap.size+1) 34 (ai A u) C.o 0 (.string f) B.o rfl ?_|refine cR r5 (.tmp 3) rfl (w.heap.size+1) A u H8.o rfl C.o ?_)|(go_at_call 81;refine(rN.o _ n.o).m ?_;rintro e w5 ⟨rfl,U⟩;have P:=F<|dw n.o U;clear U;dsimp only[z7]))
     go_ret;exact⟨by rw[g.o];rfl,P.o⟩
    |some x =>
     obtain⟨r4,v⟩:=V (decide (x∈p.types));have g:=F (show R=r4 by rw[D.o,v];simp);obtain⟨xb,y⟩:=V (E x);have a7l:=F (show ∀W,r7 w W->bF prog 81 #[.agg (ai A u)] W (.tuple #[.string xb,.bool true])from by rw[y];exact rN.o);have a78:=F (show ∀W,r7 w W->bF prog 82 #[.agg (aY sv hv tv p.most),.string xb] W (.bool r4)from by rw[y,v];exact J.o x);clear v y rN J
     go_wp2_with (first|((with_reducible apply bS);first|refine kA rfl (.tmp 19) rfl (w.heap.size+1) 34 (ai A u) C.o 0 (.string f) B.o rfl ?_|refine cR r5 (.tmp 3) rfl (w.heap.size+1) A u H8.o rfl C.o ?_|refine fj r5 (.tmp 2) rfl w.heap.size sv hv tv p.most rfl F1.o ?_)|(go_at_call 81;refine(a7l.o _ n.o).m ?_;rintro e w5 ⟨rfl,U⟩;have P:=F<|dw n.o U;have F1:=F<|E1.o.keep U;clear U)|(go_at_call 82;refine(a78.o _ P.o).m ?_;rintro e w6 ⟨rfl,U⟩;have B6:=F<|dw P.o U;clear U))
     go_ret;exact⟨by rw[g.o];rfl,B6.o⟩

theorem b5H(p:qh)(u:Url)(sv hv tv A:Z)(w:H)(hp:b6w w sv hv tv p)(h:zK u)(hs:Sl w.heap.size w A (u.path.map S))(hl:(dA u false).length<=1000000000) :
  bF prog 49 #[.agg (aY sv hv tv p.most),.agg (ai A u)] w (.bool (uP p u)):=by
 have K:=F h.six;obtain⟨R,r⟩:=V (uP p u);rw[<-r];unfold uP Sw at r;have s:=λW (U:r7 w W)=>b6l u A W h ((hs.below U).more U.size) hl;have t:=λW (U:r7 w W)=>b6n p u.host sv hv tv W (hp.below U) h.ok.h h.sm.name;have n:=λW (U:r7 w W)=>b5S p u.aJ sv hv tv W (hp.below U);have M:=F<|λ(x:O) W (U:r7 w W)=>b6p p x sv hv tv W (hp.below U);obtain⟨f,d⟩:=V (E u.aJ);have D:=F (show(ai A u)[0]? = some (.string f) by rw[d];exact(ry A u h.six).aJ);rw[<-d]at n;obtain⟨r1,T⟩:=V (decide (u.aJ∈p.schemes));obtain⟨r2,hr2⟩:=V (mC p u.host);obtain⟨r3,l⟩:=V (decide (u.aJ=qI));have P:(f.toList == [100,97,116,97])=r3:=by rw[d,aB,jB,l];rfl
 have c:(f.toList=[100,97,116,97]) ↔ r3=true:=by rw[d,aB,l,decide_eq_true_eq];exact Iff.rfl
 rw[<-T]at n r;rw[<-hr2]at t r;rw[show decide (u.aJ≠qI)=!r3 by rw[l];simp]at r;obtain⟨E',N⟩:=V (BY u);rw[<-N]at s r;have rN:=F s;have WY:=F t;have rG:=F n;have L:=F r;clear s t n d T hr2 l N r hp h hs hl;obtain⟨W,hw,hsz,c1,c2,G⟩:=qd w 24 34 (aY sv hv tv p.most) (ai A u);have i:=F c1;have j:=F c2;have z:=F G;have HW:=F hw;clear c1 c2 G hw hsz;cases r1 with
 |false =>
  have k:=F (show R=false by rw[L.o];rfl);clear P c;go_enter func49,ntmps49
  go_upto_region 1 with fail
  rw[HW.o]
  go_wp2_with (first|(go_at_call 85;refine(rG.o _ z.o).m ?_;rintro e w3 ⟨rfl,U⟩;have q:=F<|dw z.o U;have B:=F<|i.o.keep U;have C:=F<|j.o.keep U;clear U i j)|(go_at_call 86;refine(WY.o _ q.o).m ?_;rintro e w4 ⟨rfl,U⟩;have g:=F<|dw q.o U;clear U)|((with_reducible apply bS);first|refine fj r5 (.tmp 2) rfl w.heap.size sv hv tv p.most rfl i.o ?_|refine kA rfl (.tmp 10) rfl (w.heap.size+1) 34 (ai A u) j.o 0 (.string f) D.o rfl ?_|refine fj r5 (.tmp 2) rfl w.heap.size sv hv tv p.most rfl B.o ?_|refine XE r5 (.tmp 14) rfl (w.heap.size+1) A u K.o rfl C.o ?_))
  go_ret;exact⟨by rw[k.o];rfl,g.o⟩
 |true =>
  cases r2 with
  |false =>
   have k:=F (show R=false by rw[L.o];rfl);clear P c;go_enter func49,ntmps49
   go_upto_region 1 with fail
   rw[HW.o]
   go_wp2_with (first|(go_at_call 85;refine(rG.o _ z.o).m ?_;rintro e w3 ⟨rfl,U⟩;have q:=F<|dw z.o U;have B:=F<|i.o.keep U;have C:=F<|j.o.keep U;clear U i j)|(go_at_call 86;refine(WY.o _ q.o).m ?_;rintro e w4 ⟨rfl,U⟩;have g:=F<|dw q.o U;clear U)|((with_reducible apply bS);first|refine fj r5 (.tmp 2) rfl w.heap.size sv hv tv p.most rfl i.o ?_|refine kA rfl (.tmp 10) rfl (w.heap.size+1) 34 (ai A u) j.o 0 (.string f) D.o rfl ?_|refine fj r5 (.tmp 2) rfl w.heap.size sv hv tv p.most rfl B.o ?_|refine XE r5 (.tmp 14) rfl (w.heap.size+1) A u K.o rfl C.o ?_))
   go_ret;exact⟨by rw[k.o];rfl,g.o⟩
  |true =>
   go_enter func49,ntmps49
   go_upto_region 1 with fail
   rw[HW.o]
   go_upto_region 3 with(first|(go_at_call 85;refine(rG.o _ z.o).m ?_;rintro e w3 ⟨rfl,U⟩;have q:=F<|dw z.o U;have B:=F<|i.o.keep U;have C:=F<|j.o.keep U;clear U i j)|(go_at_call 86;refine(WY.o _ q.o).m ?_;rintro e w4 ⟨rfl,U⟩;have g:=F<|dw q.o U;have E1:=F<|B.o.keep U;have J:=F<|C.o.keep U;clear U)|((with_reducible apply bS);first|refine fj r5 (.tmp 2) rfl w.heap.size sv hv tv p.most rfl i.o ?_|refine kA rfl (.tmp 10) rfl (w.heap.size+1) 34 (ai A u) j.o 0 (.string f) D.o rfl ?_|refine fj r5 (.tmp 2) rfl w.heap.size sv hv tv p.most rfl B.o ?_|refine XE r5 (.tmp 14) rfl (w.heap.size+1) A u K.o rfl C.o ?_))
   cases r3 with
   |false =>
    have hn:¬ f.toList=[100,97,116,97]:=λe=>by have:=c.mp e;cases this
    have k:=F (show R=true by rw[L.o];rfl);clear c
    go_wp2_with (first|((with_reducible apply bS);refine kA rfl (.tmp 23) rfl (w.heap.size+1) 34 (ai A u) J.o 0 (.string f) D.o rfl ?_))
    go_ret;exact⟨by rw[k.o];rfl,g.o⟩
   |true =>
    have hn:f.toList=[100,97,116,97]:=c.mpr rfl;clear c;cases E' with
    |none =>
     have k:=F (show R=false by rw[L.o];rfl)
     go_wp2_with (first|((with_reducible apply bS);first|refine kA rfl (.tmp 23) rfl (w.heap.size+1) 34 (ai A u) J.o 0 (.string f) D.o rfl ?_|refine cR r5 (.tmp 3) rfl (w.heap.size+1) A u K.o rfl J.o ?_)|(go_at_call 33;refine(rN.o _ g.o).m ?_;rintro e w5 ⟨rfl,U⟩;have B5:=F<|dw g.o U;clear U;dsimp only[z7]))
     go_ret;exact⟨by rw[k.o];rfl,B5.o⟩
    |some x =>
     obtain⟨r4,v⟩:=V (decide (x∈p.types));have k:=F (show R=r4 by rw[L.o,v];simp);obtain⟨xb,y⟩:=V (E x);have a7l:=F (show ∀W,r7 w W->bF prog 33 #[.agg (ai A u)] W (.tuple #[.string xb,.bool true])from by rw[y];exact rN.o);have a78:=F (show ∀W,r7 w W->bF prog 87 #[.agg (aY sv hv tv p.most),.string xb] W (.bool r4)from by rw[y,v];exact M.o x);clear v y rN M
     go_wp2_with (first|((with_reducible apply bS);first|refine kA rfl (.tmp 23) rfl (w.heap.size+1) 34 (ai A u) J.o 0 (.string f) D.o rfl ?_|refine cR r5 (.tmp 3) rfl (w.heap.size+1) A u K.o rfl J.o ?_|refine fj r5 (.tmp 2) rfl w.heap.size sv hv tv p.most rfl F1.o ?_)|(go_at_call 33;refine(a7l.o _ g.o).m ?_;rintro e w5 ⟨rfl,U⟩;have B5:=F<|dw g.o U;have F1:=F<|E1.o.keep U;clear U)|(go_at_call 87;refine(a78.o _ B5.o).m ?_;rintro e w6 ⟨rfl,U⟩;have B6:=F<|dw B5.o U;clear U))
     go_ret;exact⟨by rw[k.o];rfl,B6.o⟩

theorem Qq{w:H}{b:Nat}{A wv:Z}{i:eu}(c:CB w b 55 (bC A wv i)):w.rangeAt b 1 (cu A i.url) :=
 Aq (o:=0) (c.range (o:=0) (vs:=bN A wv i) (λj v h=>by simpa using h))
theorem Lz(p:qh)(kind:Int)(i:eu)(sv hv tv A wv:Z)(x C:Nat)(w:H)(hp:b6w w sv hv tv p)(cp:CB w x 24 (aY sv hv tv p.most))(ck:CB w C 3 #[.int .i64 kind])(h:zK i.url)(P:Sl w.heap.size w A (i.url.path.map S))(hl:(dA i.url false).length<=1000000000)(hE:Env w)(N:NE w) :
  bF prog 46 #[.agg (bC A wv i),.pointer (some ⟨x,0,none⟩),.pointer (some ⟨C,0,none⟩)] w (.bool (jO p kind i)):=by
 have z:=F h.six;obtain⟨R,y⟩:=V (jO p kind i);rw[<-y];unfold jO at y;have l:=λW (U:r7 w W)=>EQ p i.url sv hv tv A W (hp.below U) h ((P.below U).more U.size) hl (hE.below U) (N.below U);have n:=λW (U:r7 w W)=>Pk i.url (ai A i.url) A W (lV A h.ok) ((P.below U).more U.size) h.sm (N.below U);obtain⟨r1,q⟩:=V (i.right);have J:=F (show(bC A wv i)[0]? = some (.bool r1) by rw[q];rfl);obtain⟨r2,r⟩:=V (uP p i.url);obtain⟨r3,s⟩:=V (ti (dA i.url true));rw[<-q,<-r,<-s]at y;rw[<-r]at l;rw[<-s]at n;have T:=F l;have K:=F n;have B:=F y;have CP:=F cp;have CK:=F ck;clear l n q r s y hp cp ck h P hl hE N;have d:=F<|CB.new w 55 (bC A wv i);have c:=F<|(Below.refl w.heap.size w).alloc (ag _) (.cells (bC A wv i) 55);obtain⟨w1,t⟩:=V (w.alloc (.cells (bC A wv i) 55));rw[<-t]at d c;have k:=F t;have g:=F<|CP.o.keep c.o;have v:=F<|CK.o.keep c.o;clear t CP CK;cases r1 with
 |false =>
  have j:=F (show R=false by rw[B.o];rfl);go_enter func46,ntmps46
  go_upto_region 1 with fail
  rw[<-k.o]
  go_wp2_with (first|((with_reducible apply bS);refine vA rfl (.tmp 5) rfl w.heap.size 55 (bC A wv i) d.o 0 (.bool false) J.o rfl ?_))
  go_ret;exact⟨by rw[j.o];rfl,c.o⟩
 |true =>
  have L:=F<|Qq d.o;cases r2 with
  |false =>
   have j:=F (show R=false by rw[B.o];rfl);go_enter func46,ntmps46
   go_upto_region 1 with fail
   rw[<-k.o]
   go_wp2_with (first|((with_reducible apply bS);first|refine vA rfl (.tmp 5) rfl w.heap.size 55 (bC A wv i) d.o 0 (.bool true) J.o rfl ?_|refine fj r5 (.tmp 1) rfl x sv hv tv p.most rfl g.o ?_|refine Ac r5 (.tmp 9) rfl w.heap.size 1 A i.url z.o rfl L.o ?_)|(go_at_call 47;refine(T.o _ c.o).m ?_;rintro e w2 ⟨rfl,U⟩;have u:=F<|dw c.o U;clear U))
   go_ret;exact⟨by rw[j.o];rfl,u.o⟩
  |true =>
   go_enter func46,ntmps46
   go_upto_region 1 with fail
   rw[<-k.o];by_cases D:kind=2
   ·have j:=F (show R=r3 by rw[B.o,D];rfl)
    subst D
    go_wp2_with (first|((with_reducible apply bS);first|refine vA rfl (.tmp 5) rfl w.heap.size 55 (bC A wv i) d.o 0 (.bool true) J.o rfl ?_|refine fj r5 (.tmp 1) rfl x sv hv tv p.most rfl g.o ?_|refine Ac r5 (.tmp 9) rfl w.heap.size 1 A i.url z.o rfl L.o ?_|refine tY r5 (.tmp 2) rfl C 0 3 #[.int .i64 2] f.o (.int .i64 2) rfl rfl ?_|refine Ac r5 (.tmp 17) rfl w.heap.size 1 A i.url z.o rfl M.o ?_)|(go_at_call 47;refine(T.o _ c.o).m ?_;rintro e w2 ⟨rfl,U⟩;have u:=F<|dw c.o U;have f:=F<|v.o.keep U;have M:=F<|Qq (d.o.keep U);clear U)|(go_at_call 48;refine(K.o _ u.o).m ?_;rintro e w3 ⟨rfl,U⟩;have B3:=F<|dw u.o U;clear U))
    go_ret;exact⟨by rw[j.o];rfl,B3.o⟩
   have j:=F (show R=true by rw[B.o,decide_eq_true D];rfl);have qk:(kind==2)=false:=by simpa using D
   go_wp2_with (first|((with_reducible apply bS);first|refine vA rfl (.tmp 5) rfl w.heap.size 55 (bC A wv i) d.o 0 (.bool true) J.o rfl ?_|refine fj r5 (.tmp 1) rfl x sv hv tv p.most rfl g.o ?_|refine Ac r5 (.tmp 9) rfl w.heap.size 1 A i.url z.o rfl L.o ?_|refine tY r5 (.tmp 2) rfl C 0 3 #[.int .i64 kind] f.o (.int .i64 kind) rfl rfl ?_)|(go_at_call 47;refine(T.o _ c.o).m ?_;rintro e w2 ⟨rfl,U⟩;have u:=F<|dw c.o U;have f:=F<|v.o.keep U;clear U))
   go_ret;exact⟨by rw[j.o];rfl,u.o⟩

theorem Vq{A wv:Z}{i:eu}(c:i.url.host.six.length=8):(bC A wv i)[19]? = some A:=by
 rw[cf];exact a0k (j:=18) (by have:=(ry A i.url c).path;rw[cf]at this;exact this)
theorem Qt{A wv:Z}{i:eu}(c:i.url.host.six.length=8):(bC A wv i)[24]? = some wv:=by
 rw[cf];exact a0l c
theorem Qr(A wv v:Z)(i:eu)(h:i.url.host.six.length=8):(bC A wv i).setIfInBounds 19 v=bC v wv i:=by
 obtain⟨rt,⟨aJ,usr,er,⟨hk,hn,hf,six⟩,a1,a2,a3,a4,a5,a6,a7,a8,a9⟩,w0⟩:=i;simp only at h;obtain⟨a,b,c,d,e,f,g,i,rfl⟩:=eight h;rfl
theorem Qs(A wv v:Z)(i:eu)(c:i.url.host.six.length=8):(bC A wv i).setIfInBounds 24 v=bC A v i:=CX A wv v i c i.words
theorem KX(p:eu->Bool){l:List eu}{k:Nat}(c:k<l.length):(l.take (k+1)).filter p=(l.take k).filter p++(if p l[k]=true then [l[k]]else []):=by
 rw[aH c,fy]
 congr 1
 split
 ·next h=>exact aU h
 next h=>exact aZ h
structure ILk (l:List eu):Prop where
 u:∀ i∈l,zK i.url/\(dA i.url false).length<=1000000000/\i.words.length<=1024000000
 n:l.length<=900000000
theorem b7Y(p:qh)(kind:Int)(l:List eu)(v sv hv tv:Z)(bp bk:Nat)(w:H)(hI:Items w.heap.size w v l)(K:ILk l)(hp:b6w w sv hv tv p)(cp:CB w bp 24 (aY sv hv tv p.most))(ck:CB w bk 3 #[.int .i64 kind])(hE:Env w)(hN:NE w) :
  Calls prog 45 #[v,.func (Fn.func 46) #[] #[.pointer (some ⟨bp,0,none⟩),.pointer (some ⟨bk,0,none⟩)]] w λe w'=>∃ v',e=.returned v'/\fa w' w.heap.size v' (l.filter (jO p kind))/\r7 w w':=by
 have HK:=F<|λ(i:eu) (hi:i∈l) (A wv:Z) W (U:r7 w W) (hs:Sl w.heap.size w A (i.url.path.map S))=>Lz p kind i sv hv tv A wv bp bk W (hp.below U) (cp.keep U) (ck.keep U) (K.u i hi).1 ((hs.below U).more U.size) (K.u i hi).2.1 (hE.below U) (hN.below U);have D:=F<|λ(i:eu) (hi:i∈l)=>(show i.url.host.six.length=8/\i.url.path.length<=1024000000/\i.words.length<=1024000000 from⟨(K.u i hi).1.six,by have:=(K.u i hi).1.E.1;omega,(K.u i hi).2.2⟩);obtain⟨f,hf⟩:=V (jO p kind);have HKF:=F (show ∀i∈l,∀(A wv:Z) W,r7 w W->Sl w.heap.size w A (i.url.path.map S)->bF prog 46 #[.agg (bC A wv i),.pointer (some ⟨bp,0,none⟩),.pointer (some ⟨bk,0,none⟩)] W (.bool (f i))from by rw[hf];exact HK.o);rw[<-hf];obtain⟨N,XF⟩:=V (l.length);have HN:=F XF;have hNb:N<=900000000:=by rw[XF];exact K.n
 obtain⟨av,cc,rfl⟩:=lM hI;rw[<-XF]at hI ⊢;have HI:=F hI;obtain⟨w0,hw0⟩:=V (w);have HW0:=F hw0;clear HK hf XF hI K hp cp ck hE hN hw0;go_enter func45,ntmps45
 go_upto_region 3 with fail
 go_loopw [5,7,10] (λv2 _ iv wr=>∃ k:Nat,k<=N/\iv=.int .i64 k/\Hid (r7 w wr)/\Hid (fa wr w.heap.size v2 ((l.take k).filter f))) (λ_ _ i _=>N-(intOf i).toNat)
 exact⟨0,aL _,rfl,F (Below.refl _ _),F (fa.nil _ _)⟩
 obtain⟨k,hk,rfl,t,IR⟩:=hrel;by_cases hkN:k<N
 ·have d:k<l.length:=by have:=HN.o;omega
  obtain⟨it,hit⟩:=V (l[k]);have HM:=F (show it∈l by rw[hit];exact be d);have M:=KX f d;rw[<-hit]at M;obtain⟨b,o,rfl,hbb,A,wv,hr,y1,g,h⟩:=oh HI.o k d;rw[<-hit]at hr g h;have hlt:b<w.heap.size:=hbb;have HR:=F (show wr.rangeAt b (o+k*25) (bN A wv it)from λj x hj=>(t.o.cell (p:=⟨b,o+k*25+j,none⟩) hlt).trans (hr j x hj));have HPV:=F g;have HWV:=F h;have uh:=F M;have c:=F (D.o it HM.o).1;have HPL:=F (D.o it HM.o).2.1;have HWL:=F (D.o it HM.o).2.2;have xO:=F<|rq g;have HW1:=F<|rq h;clear y1 hr g h M hit hbb hlt d
  go_upto_region 5 with(first|((with_reducible apply bS);first|refine lm r5 55 (.tmp 12) rfl b (o+k*25) rfl (bN A wv it) _ HR.o underlying55 rfl (by rw[lL c.o];exact mG) ?_|(refine aM rfl 55 rfl _ _ (Ia _) ?_;refine a4Z rfl (.tmp 7) (.tmp 13) rfl A wv it c.o xO.o HW1.o rfl rfl rfl ?_;intro w4 i4;have J:=F i4;clear i4)))
  have B4:=F<|t.o.trans (J.o.bL.m t.o.size);obtain⟨q,hq⟩:=V (wr.heap.size);have HQ:=F hq;rw[<-hq]at J ⊢;obtain⟨r,L⟩:=V (f it);have B:=F (show ∀W,r7 w W->bF prog 46 #[.agg (bC A wv it),.pointer (some ⟨bp,0,none⟩),.pointer (some ⟨bk,0,none⟩)] W (.bool r)from λW U=>by rw[L];exact HKF.o it HM.o A wv W U HPV.o);have HRR:=F L;clear hq L HR;cases r with
  |false =>
   have C:=F (show(l.take (k+1)).filter f=(l.take k).filter f by rw[uh.o,<-HRR.o];simp)
   go_wp2_with (first|((with_reducible apply bS);refine US rfl (.tmp 7) rfl wr q A wv it c.o J.o rfl ?_)|(go_at_call 46;refine(B.o _ B4.o).m ?_;rintro e w5 ⟨rfl,U⟩;have R:=F U;clear U))
   go_roundw
   exact⟨k+1,M0,by go_num,F (dw B4.o R.o),F (by rw[C.o];exact(IR.o.below J.o.bL).below (R.o))⟩
   simp[intOf];omega
  |true =>
   have C:=F (show(l.take k).filter f++[it]=(l.take (k+1)).filter f by rw[uh.o,<-HRR.o];simp)
   go_upto_region 6 with(first|((with_reducible apply bS);refine US rfl (.tmp 7) rfl wr q A wv it c.o J.o rfl ?_)|(go_at_call 46;refine(B.o _ B4.o).m ?_;rintro e w5 ⟨rfl,U⟩;have R:=F U;clear U))
   have I5:=F<|J.o.below R.o;have y:=F<|dw B4.o R.o;have S5:=F<|I5.o.lt;clear J B
   go_upto_region 7 with(first|((with_reducible apply bS);first|refine yx rfl (.tmp 18) rfl q 55 (bC A wv it) I5.o.cb 19 A (Vq c.o) rfl ?_|(refine dX rfl 22 (.tmp 22) (.tmp 20) rfl wr q 55 (bC A wv it) (I5.o.below B6.o) 19 v6 rfl rfl (by rw[mF c.o];decide) dC (bm O6.o) (bC v6 wv it) (Qr A wv v6 it c.o) ?_;intro w7 i7 t7;have I7:=F i7;have T7:=F t7;clear i7 t7))|(go_at_call 78;refine(fQ it.url.path A _ ((HPV.o.below y.o).more y.o.size) HPL.o).m ?_;rintro e w6 ⟨v6,rfl,oo,U⟩;have O6:=F<|eE oo;have B6:=F U;clear oo U))
   have O7:=F<|T7.o.row O6.o S5.o;have S7:=F (show w5.heap.size<=w7.heap.size from am B6.o.size T7.o.s);have z:=F (show r7 w w7 from t.o.trans (I7.o.bL.m t.o.size))
   go_upto_region 8 with(first|((with_reducible apply bS);first|refine yx rfl (.tmp 23) rfl q 55 (bC v6 wv it) I7.o.cb 24 wv (Qt c.o) rfl ?_|(refine dX rfl 22 (.tmp 26) (.tmp 25) rfl wr q 55 (bC v6 wv it) (I7.o.below B8.o) 24 P rfl rfl (by rw[mF c.o];decide) dC (bm O8.o) (bC v6 P it) (Qs v6 wv P it c.o) ?_;intro w9 i9 t9;have I9:=F i9;have T9:=F t9;clear i9 t9))|(go_at_call 78;refine(fQ it.words wv _ ((HWV.o.below z.o).more z.o.size) HWL.o).m ?_;rintro e w8 ⟨P,rfl,oo,U⟩;have O8:=F<|eE oo;have B8:=F U;clear oo U))
   have S57:=F<|I7.o.lt;have P9:=F<|T9.o.row (own_below' O7.o B8.o) S5.o;have Q9:=F<|T9.o.row O8.o S57.o;have T:=F (show r7 w w9 from t.o.trans (I9.o.bL.m t.o.size));have TR:=F<|IR.o.below I9.o.bL;have IP:=F (show mZ w9 w.heap.size ((v6,P),it)from⟨c.o,il P9.o y.o.size,il Q9.o z.o.size⟩)
   have TB:=F (show((l.take k).filter f).length+1<=1000000000 by
    have Y:=dO f (l.take k);rw[aD]at Y;omega)
   go_wp2_with (first|((with_reducible apply bS);refine US rfl (.tmp 7) rfl wr q v6 P it c.o I9.o rfl ?_;refine qE rfl (.tmp 28) rfl v6 P it c.o rfl ?_;refine b89 rfl (.tmp 27) (.tmp 29) rfl w.heap.size rfl TR.o IP.o rfl TB.o T.o.size ?_;intro v10 xr a4W b10;have YN:=F a4W;have B10:=F b10;clear a4W b10))
   go_roundw
   exact⟨k+1,M0,by go_num,F (T.o.trans B10.o),F (by rw[<-C.o];exact YN.o)⟩
   simp[intOf];omega
 obtain rfl:k=N:=M0;have zF:=F (show l.take k=l by rw[HN.o];exact di);go_wp2_with fail;go_ret;exact⟨_,rfl,by rw[<-zF.o];exact IR.o,t.o⟩

def b7P(w:H)(r:Rd):Ending->H->Prop:=λe w'=>∃ v,e=.returned (.agg (bD v r.delay))/\v.oneCell'=true/\Items w'.heap.size w' v r.items/\r7 w w'
theorem b7V(w:H)(c:Array Z)(v:Z)(d:O):∃ W,((w.alloc (.cells c 24)).alloc (.cells (bD v d) 50)).alloc (.cells (bD aI []) 50)=W/\W.heap.size=w.heap.size+3 /\
  CB W w.heap.size 24 c/\CB W (w.heap.size+1) 50 (bD v d)/\OB w (w.heap.size+2) 50 (bD aI []) W:=by
 obtain⟨w2,I,z2,f,a2,G⟩:=qd w 24 50 c (bD v d);have X:=CB.new w2 50 (bD aI []);have U:=(Below.refl w2.heap.size w2).alloc (ag _) (.cells (bD aI []) 50);obtain⟨w3,e⟩:=V (w2.alloc (.cells (bD aI []) 50));rw[<-e]at X U;have g:w3.heap.size=w2.heap.size+1:=by rw[e];simp
 rw[z2]at X;exact⟨w3,by rw[I,<-e],by rw[g,z2],f.keep U,a2.keep U,OB.of X M0 (dw G U)⟩
theorem b7U(d:ByteArray):∀ w,(Instr.build 50 #[(1,.string d)]).run prog w=.ok (.agg #[aI,.string d]) w:=λw=>Rz
theorem b56(p:qh)(kind:Int)(l:List eu)(d:O)(v sv hv tv:Z)(w:H)(hI:Items w.heap.size w v l)(hU:ILk l)(hp:b6w w sv hv tv p) :
  Calls prog 19 #[.agg (aY sv hv tv p.most),.int .i64 kind,.agg (bD v d)] w (b7P w ⟨l.filter (jO p kind),d⟩):=by
 have mW:=F<|λ(i:eu) (hi:i∈l) (A:Z) W (U:r7 w W) (hs:Sl w.heap.size w A (i.url.path.map S))=>b5H p i.url sv hv tv A W (hp.below U) (hU.u i hi).1 ((hs.below U).more U.size) (hU.u i hi).2.1;have HFT:=F<|λ(i:eu) (hi:i∈l) (A:Z) W (U:r7 w W) (hs:Sl w.heap.size w A (i.url.path.map S))=>b6m i.url (ai A i.url) A W (lV A (hU.u i hi).1.ok) ((hs.below U).more U.size) (hU.u i hi).1.sm;have Kd:=F<|λ(i:eu) (hi:i∈l)=>(hU.u i hi).1.ok;obtain⟨f,hf⟩:=V (jO p kind);have HF:=F (λi:eu=>show f i=(i.right&&uP p i.url&&(decide (kind≠2)||ti (dA i.url true))) by rw[hf];rfl);rw[<-hf];obtain⟨N,XF⟩:=V (l.length);have HN:=F XF;have hNb:N<=900000000:=by rw[XF];exact hU.n
 obtain⟨av,cc,rfl⟩:=lM hI;rw[<-XF]at hI ⊢;have HI:=F hI;obtain⟨db,hdb⟩:=V (E d);have HD:=F<|λx:Z=>(show bD x d=#[x,.string db] by rw[hdb]);have HD2:=F<|λx:Z=>(show Value.agg #[x,.string db]=.agg (bD x d) by rw[hdb]);obtain⟨W,hw,hsz,c1,c2,c3⟩:=b7V w (aY sv hv tv p.most) (.slice av N cc) d;have C1:=F c1;have C2:=F c2;have C3:=F c3;have HW:=F hw;have eM:=F hsz;clear hf XF hI hU hp c1 c2 c3 hw hsz hdb;go_enter func19,ntmps19
 go_upto_region 1 with(first|((with_reducible apply bS);refine aM rfl 50 rfl _ _ (pC _) ?_))
 rw[HW.o];have HD3:=F (show(bD (.slice av N cc) d)[1]? = some (.string db) by rw[HD.o];rfl)
 go_upto_region 3 with(first|((with_reducible apply bS);first|refine kA rfl (.tmp 11) rfl (w.heap.size+1) 50 (bD (.slice av N cc) d) C2.o 1 (.string db) HD3.o rfl ?_|(refine bR rfl 50 #[(1,.tmp 12)] rfl (.agg #[aI,.string db]) #[(1,.string db)] (by simp only[m9,dh,pz];rfl) (b7U db) ?_;refine aM rfl 50 rfl _ _ (pC _) ?_;refine JH rfl (.tmp 7) (.tmp 13) rfl aI d rfl rfl rfl (HD2.o _) ?_;intro wr0 i7;have OX0:=F i7;clear i7)))
 obtain⟨q7,hq7⟩:=V (W.heap.size);have HQ7:=F hq7;rw[<-hq7]at OX0 ⊢;clear hq7;have HI2:=F<|λ(V':H) (U:r7 W V')=>HI.o.below (C3.o.bL.trans (U.m C3.o.bL.size))
 go_loopw [8,9,10] (λiv _ _ wr=>∃ (k:Nat) (t:Z),k<=N/\iv=.int .i64 k/\Hid (OB W q7 50 (bD t d) wr)/\Hid (b3D w wr w.heap.size (q7+1) t ((l.take k).filter f))) (λi _ _ _=>N-(intOf i).toNat)
 exact⟨0,aI,aL _,rfl,OX0,F (b3D.nil _ _ _ _)⟩
 obtain⟨k,t,hk,rfl,OX,QR⟩:=hrel;have BL:=F<|C3.o.bL.trans (OX.o.bL.m C3.o.bL.size);have D2:=F<|C2.o.keep OX.o.bL;by_cases hkN:k<N
 ·have P:k<l.length:=by have:=HN.o;omega
  obtain⟨it,hit⟩:=V (l[k]);have HM:=F (show it∈l by rw[hit];exact be P);have htk:=KX f P;rw[<-hit]at htk;obtain⟨b,o,rfl,hbb,A,wv,hr,y1,r,R⟩:=oh HI.o k P;rw[<-hit]at hr r R y1;have hlt:b<w.heap.size:=hbb;have HR:=F (show wr.rangeAt b (o+k*25) (bN A wv it)from λj x hj=>(BL.o.cell (p:=⟨b,o+k*25+j,none⟩) hlt).trans (hr j x hj));have uh:=F htk;have s:=F y1.h.l;have QP:=F (show b6q w w.heap.size ((A,wv),it)from⟨y1,rq r,rq R,r,R⟩);have y:=F<|λW U=>mW.o it HM.o A W U r;have HFC:=F<|λW U=>HFT.o it HM.o A W U r;have FU:=HF.o it;obtain⟨r1,hr1⟩:=V (it.right);have ka:=F (show(bC A wv it)[0]? = some (.bool r1) by rw[hr1];rfl);generalize uP p it.url=r2 at FU y;generalize ti (dA it.url true)=r3 at FU HFC;rw[<-hr1]at FU;clear y1 hr r R htk hit hbb hlt P hr1
  go_upto_region 6 with(first|((with_reducible apply bS);first|refine yw rfl (.tmp 15) rfl (w.heap.size+1) 50 (bD (.slice (some ⟨b,o,none⟩) N cc) d) D2.o 0 (.slice (some ⟨b,o,none⟩) N cc) rfl rfl ?_|refine yw rfl (.tmp 21) rfl (w.heap.size+1) 50 (bD (.slice (some ⟨b,o,none⟩) N cc) d) D2.o 0 (.slice (some ⟨b,o,none⟩) N cc) rfl rfl ?_|refine lm r5 55 (.tmp 24) rfl b (o+k*25) rfl (bN A wv it) _ HR.o underlying55 rfl (by rw[lL s.o];exact mG) ?_|(refine aM rfl 55 rfl _ _ (Ia _) ?_;refine a4Z rfl (.tmp 9) (.tmp 25) rfl A wv it s.o QP.o.o1 QP.o.o2 rfl rfl rfl ?_;intro w4 i4;have T:=F i4;clear i4)))
  obtain⟨q9,hq9⟩:=V (wr.heap.size);have HQ:=F hq9;rw[<-hq9]at T ⊢;have B4:=F<|BL.o.trans (T.o.bL.m BL.o.size);have X4:=F<|OX.o.below T.o.bL;have E1:=F<|C1.o.keep X4.o.bL;have HU:=F<|Qq T.o.cb;have CI:=F T.o.cb;have z:=F<|QR.o.below T.o.bL;clear hq9 HR D2
  have hcs:(r1=false/\f it=false)\/(r1=true/\r2=false/\f it=false)\/(r1=true/\r2=true/\kind=2/\r3=false/\f it=false)\/(r1=true/\r2=true/\kind=2/\r3=true/\f it=true)\/(r1=true/\r2=true/\¬ kind=2/\f it=true):=by
   rw[FU];by_cases q:kind=2
   ·rw[decide_eq_false (λh=>h q)]
    cases r1 <;>cases r2 <;>cases r3 <;>simp[q]
   rw[decide_eq_true q];cases r1 <;>cases r2 <;>cases r3 <;>simp[q]
  clear FU;rcases hcs with⟨rfl,g⟩|⟨rfl,rfl,g⟩|⟨rfl,rfl,rfl,rfl,g⟩|⟨rfl,rfl,rfl,rfl,g⟩|⟨rfl,rfl,q,g⟩
  ·have c:=F (show(l.take (k+1)).filter f=(l.take k).filter f by rw[uh.o,g];simp)
   go_wp2_with (first|((with_reducible apply bS);refine vA rfl (.tmp 26) rfl q9 55 (bC A wv it) CI.o 0 (.bool false) ka.o rfl ?_))
   go_roundw
   exact⟨k+1,t,M0,by go_num,X4,F (by rw[c.o];exact z.o)⟩
   simp[intOf];omega
  ·have c:=F (show(l.take (k+1)).filter f=(l.take k).filter f by rw[uh.o,g];simp)
   go_wp2_with (first|((with_reducible apply bS);first|refine vA rfl (.tmp 26) rfl q9 55 (bC A wv it) CI.o 0 (.bool true) ka.o rfl ?_|refine fj r5 (.tmp 3) rfl w.heap.size sv hv tv p.most rfl E1.o ?_|refine Ac r5 (.tmp 30) rfl q9 1 A it.url s.o rfl HU.o ?_)|(go_at_call 49;refine(y.o _ B4.o).m ?_;rintro e w5 ⟨rfl,U⟩;have X5:=F<|X4.o.below U;have B:=F<|z.o.below U;clear U))
   go_roundw
   exact⟨k+1,t,M0,by go_num,X5,F (by rw[c.o];exact B.o)⟩
   simp[intOf];omega
  ·have c:=F (show(l.take (k+1)).filter f=(l.take k).filter f by rw[uh.o,g];simp)
   go_wp2_with (first|((with_reducible apply bS);first|refine vA rfl (.tmp 26) rfl q9 55 (bC A wv it) CI.o 0 (.bool true) ka.o rfl ?_|refine fj r5 (.tmp 3) rfl w.heap.size sv hv tv p.most rfl E1.o ?_|refine Ac r5 (.tmp 30) rfl q9 1 A it.url s.o rfl HU.o ?_|refine Ac r5 (.tmp 39) rfl q9 1 A it.url s.o rfl HU5.o ?_)|(go_at_call 49;refine(y.o _ B4.o).m ?_;rintro e w5 ⟨rfl,U⟩;have X5:=F<|X4.o.below U;have B:=F<|z.o.below U;have HU5:=F<|Qq (CI.o.keep U);have B5:=F<|dw B4.o U;clear U)|(go_at_call 50;refine(HFC.o _ B5.o).m ?_;rintro e w6 ⟨rfl,U⟩;have M:=F<|X5.o.below U;have C:=F<|B.o.below U;clear U))
   go_roundw
   exact⟨k+1,t,M0,by go_num,M,F (by rw[c.o];exact C.o)⟩
   simp[intOf];omega
  ·have c:=F (show(l.take k).filter f++[it]=(l.take (k+1)).filter f by rw[uh.o,g];simp)
   go_upto_region 10 with(first|((with_reducible apply bS);first|refine vA rfl (.tmp 26) rfl q9 55 (bC A wv it) CI.o 0 (.bool true) ka.o rfl ?_|refine fj r5 (.tmp 3) rfl w.heap.size sv hv tv p.most rfl E1.o ?_|refine Ac r5 (.tmp 30) rfl q9 1 A it.url s.o rfl HU.o ?_|refine Ac r5 (.tmp 39) rfl q9 1 A it.url s.o rfl HU5.o ?_)|(go_at_call 49;refine(y.o _ B4.o).m ?_;rintro e w5 ⟨rfl,U⟩;have X5:=F<|X4.o.below U;have B:=F<|z.o.below U;have I5:=F<|T.o.below U;have HU5:=F<|Qq (CI.o.keep U);have B5:=F<|dw B4.o U;clear U)|(go_at_call 50;refine(HFC.o _ B5.o).m ?_;rintro e w6 ⟨rfl,U⟩;have M:=F<|X5.o.below U;have C:=F<|B.o.below U;have I6:=F<|I5.o.below U;clear U))
   have TB:=F (show((l.take k).filter f).length+1<=1000000000 by
    have Y:=dO f (l.take k);rw[aD]at Y;omega)
   have j8:=F (show q7+1<=w6.heap.size from M.o.lt)
   go_wp2_with (first|((with_reducible apply bS);first|refine yw rfl (.tmp 43) rfl q7 50 (bD t d) M.o.cb 0 t rfl rfl ?_|(refine US rfl (.tmp 9) rfl wr q9 A wv it s.o I6.o rfl ?_;refine qE rfl (.tmp 45) rfl A wv it s.o rfl ?_;refine b7D rfl (.tmp 44) (.tmp 46) rfl w w.heap.size (q7+1) rfl C.o QP.o rfl TB.o j8.o ?_;intro v10 xr K D;have J:=F K;have X10:=F<|M.o.base D (bV _) (by have:=HQ7.o;omega);clear K D)|(refine AA rfl (.tmp 48) (.tmp 47) rfl W q7 X10.o v10 J.o.one' rfl rfl ?_;intro Eb L t11;have X11:=F L;have b7S:=F<|J.o.tn t11 (bV _);clear L t11)))
   go_roundw
   exact⟨k+1,v10,M0,by go_num,X11,F (by rw[<-c.o];exact b7S.o)⟩
   simp[intOf];omega
  have c:=F (show(l.take k).filter f++[it]=(l.take (k+1)).filter f by rw[uh.o,g];simp);have hk3:(kind==2)=false:=by simpa using q
  go_upto_region 10 with(first|((with_reducible apply bS);first|refine vA rfl (.tmp 26) rfl q9 55 (bC A wv it) CI.o 0 (.bool true) ka.o rfl ?_|refine fj r5 (.tmp 3) rfl w.heap.size sv hv tv p.most rfl E1.o ?_|refine Ac r5 (.tmp 30) rfl q9 1 A it.url s.o rfl HU.o ?_)|(go_at_call 49;refine(y.o _ B4.o).m ?_;rintro e w6 ⟨rfl,U⟩;have M:=F<|X4.o.below U;have C:=F<|z.o.below U;have I6:=F<|T.o.below U;clear U))
  have TB:=F (show((l.take k).filter f).length+1<=1000000000 by
   have Y:=dO f (l.take k);rw[aD]at Y;omega)
  have j8:=F (show q7+1<=w6.heap.size from M.o.lt)
  go_wp2_with (first|((with_reducible apply bS);first|refine yw rfl (.tmp 43) rfl q7 50 (bD t d) M.o.cb 0 t rfl rfl ?_|(refine US rfl (.tmp 9) rfl wr q9 A wv it s.o I6.o rfl ?_;refine qE rfl (.tmp 45) rfl A wv it s.o rfl ?_;refine b7D rfl (.tmp 44) (.tmp 46) rfl w w.heap.size (q7+1) rfl C.o QP.o rfl TB.o j8.o ?_;intro v10 xr K D;have J:=F K;have X10:=F<|M.o.base D (bV _) (by have:=HQ7.o;omega);clear K D)|(refine AA rfl (.tmp 48) (.tmp 47) rfl W q7 X10.o v10 J.o.one' rfl rfl ?_;intro Eb L t11;have X11:=F L;have b7S:=F<|J.o.tn t11 (bV _);clear L t11)))
  go_roundw
  exact⟨k+1,v10,M0,by go_num,X11,F (by rw[<-c.o];exact b7S.o)⟩
  simp[intOf];omega
 obtain rfl:k=N:=M0;have zF:=F (show l.take k=l by rw[HN.o];exact di);have R2:=F<|C3.o.below OX.o.bL;have HWS:=F (show w.heap.size+2<q7 by have:=eM.o;have:=HQ7.o;omega)
 go_wp2_with (first|((with_reducible apply bS);first|refine yw rfl (.tmp 15) rfl (w.heap.size+1) 50 (bD (.slice av k cc) d) D2.o 0 (.slice av k cc) rfl rfl ?_|(refine yy rfl (.tmp 7) rfl W q7 t d OX.o rfl ?_;refine wu rfl (.tmp 6) (.tmp 49) rfl w (w.heap.size+2) R2.o t d QR.o.one' rfl rfl ?_;intro w8 i8 t8;have L8:=F i8;have QR8:=F<|QR.o.tn t8 (by have:=HWS.o;omega);clear i8 t8)))
 refine tE results19 rfl L8.o ⟨_,rfl,QR8.o.one',?_,L8.o.bL⟩;have h:=QR8.o.items L8.o.bL L8.o.bL.size;rw[zF.o]at h;exact h

theorem Zx(w:H)(e:Array Z)(k:Int)(v:Z)(d:O):∃ W,(((w.alloc (.cells e 24)).alloc (.cells #[.int .i64 k] 3)).alloc (.cells (bD v d) 50)).alloc (.cells (bD aI []) 50)=W/\W.heap.size=w.heap.size+4 /\
  CB W w.heap.size 24 e/\CB W (w.heap.size+1) 3 #[.int .i64 k]/\CB W (w.heap.size+2) 50 (bD v d)/\OB w (w.heap.size+3) 50 (bD aI []) W:=by
 obtain⟨w2,I,z2,f,a2,G⟩:=qd w 24 3 e #[.int .i64 k];obtain⟨h,g,z4,a3,a4,c⟩:=qd w2 50 50 (bD v d) (bD aI []);rw[z2]at a3 a4;refine⟨h,by rw[I,g],by rw[z4,z2],f.keep c,a2.keep c,a3,OB.of a4 M0 (dw G c)⟩
theorem fa.slice{W:H}{base:Nat}{v:Z}{l:List eu}(c:fa W base v l):∃ a n c,v=.slice a n c:=by
 obtain⟨a,d,e⟩:=c.len;exact⟨a,l.length,d,e⟩
theorem LB(p:qh)(kind:Int)(l:List eu)(d:O)(v sv hv tv:Z)(w:H)(C:Items w.heap.size w v l)(K:ILk l)(hp:b6w w sv hv tv p)(B:Env w)(J:NE w) :
  Calls prog 18 #[.agg (aY sv hv tv p.most),.int .i64 kind,.agg (bD v d)] w (jz w ⟨l.filter (jO p kind),d⟩):=by
 have f:=F<|λ(t s:Nat) W (U:r7 w W) (cp:CB W t 24 (aY sv hv tv p.most)) (ck:CB W s 3 #[.int .i64 kind])=>b7Y p kind l v sv hv tv t s W ((C.below U).more U.size) K (hp.below U) cp ck (B.below U) (J.below U);obtain⟨db,c⟩:=V (E d);have HD:=F (show bD v d=#[v,.string db] by rw[c]);have i:=F<|λx:Z=>(show Value.agg #[x,.string db]=.agg (bD x d) by rw[c]);obtain⟨W,hw,h,u,y,c3,z⟩:=Zx w (aY sv hv tv p.most) kind v d;have N:=F u;have P:=F y;have n:=F c3;have q:=F z;have HW:=F hw;have eM:=F h;obtain⟨L,D⟩:=V (l.filter (jO p kind));rw[<-D]at f ⊢;clear u y c3 z hw h c D C K hp B J;go_enter func18,ntmps18
 go_upto_region 1 with(first|((with_reducible apply bS);refine aM rfl 50 rfl _ _ (pC _) ?_))
 rw[HW.o]
 go_upto_region 2 with(first|((with_reducible apply bS);refine yw rfl (.tmp 8) rfl (w.heap.size+2) 50 (bD v d) n.o 0 v rfl rfl ?_)|(go_at_call 45;refine(f.o w.heap.size (w.heap.size+1) _ q.o.bL N.o P.o).m ?_;rintro e w3 ⟨v3,rfl,ir,U⟩;have IR:=F ir;have k:=F U;clear ir U))
 obtain⟨a3,n3,c3,rfl⟩:=IR.o.slice;have R:=F<|n.o.keep k.o;have T:=F<|q.o.below k.o;have j:=F (show(bD v d)[1]? = some (.string db) by rw[HD.o];rfl);have g:=F (show w.heap.size+3<W.heap.size by have:=eM.o;omega)
 go_wp2_with (first|((with_reducible apply bS);first|refine kA rfl (.tmp 13) rfl (w.heap.size+2) 50 (bD v d) R.o 1 (.string db) j.o rfl ?_|(refine wu rfl (.tmp 6) (.tmp 15) rfl w (w.heap.size+3) T.o (.slice a3 n3 c3) d rfl rfl (i.o _) ?_;intro w6 M t6;have r:=F M;have Xd:=F<|IR.o.tn t6 g.o;clear M t6)))
 exact tE results18 rfl r.o ⟨_,rfl,Xd.o.base (by have:=g.o;omega),r.o.bL⟩

structure EL (p:qh):Prop where
 s:p.schemes.length<=20/\∀ x∈p.schemes,List.length x<=200
 h:p.hosts.length<=20/\∀ x∈p.hosts,List.length x<=200
 t:p.types.length<=20/\∀ x∈p.types,List.length x<=200
structure BB (w:H) (sv hv tv:Z) (p:qh):Prop where
 s:Sl w.heap.size w sv (p.schemes.map S)
 h:Sl w.heap.size w hv (p.hosts.map S)
 t:Sl w.heap.size w tv (p.types.map S)
theorem BB.below{w:H}{p:qh}(h:BB w sv hv tv p)(U:r7 w w'):BB w' sv hv tv p :=
 ⟨(h.s.below U).more U.size,(h.h.below U).more U.size,(h.t.below U).more U.size⟩
theorem BB.at{w:H}{p:qh}(h:BB w sv hv tv p)(f:EL p):b6w w sv hv tv p :=
 ⟨h.s,h.h,h.t,⟨by have:=f.s.1;omega,by have:=f.h.1;omega,by have:=f.t.1;omega⟩,λy hy=>am (f.h.2 y hy) P8⟩
