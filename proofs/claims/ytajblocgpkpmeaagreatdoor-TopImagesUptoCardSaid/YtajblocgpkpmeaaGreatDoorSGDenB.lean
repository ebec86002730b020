/- Joined texts. -/
import Derived.Test.YtajblocgpkpmeaaGreatDoorSGTrP
set_option maxHeartbeats 40000000
namespace Go.Proofs.YtajblocgpkpmeaaGreatDoor
open Tryz
open Go.RowKit
set_option maxRecDepth 10000
abbrev b6Y(b:Nat):Z:=.float .f64 b
theorem PZ(z:Nat)(w:H):bP prog 72 #[b6Y z] w (.bool (EQ z)):=by
 go_enter func72,ntmps72;go_wp2_with fail;go_ret;exact⟨rfl,rfl⟩
theorem J4(n:Int)(w:H):(Extern.MathFloatBits.float64frombits #[.int .u64 n]).run prog w=.ok (.float .f64 n.toNat) w:=rfl
theorem WD(w:H):bP prog 73 #[] w (b6Y 9221120237041090561):=by
 go_enter func73,ntmps73
 go_wp2
 rw[run_callFunc_extern func117 Rz Rz Rz (e:=Extern.MathFloatBits.float64frombits) Rz,J4];simp only[Result.andThen];rw[Oper.upon_value]
 go_wp2
 go_ret;exact⟨rfl,rfl⟩
theorem b8j(w:H):bP prog 74 #[.int .i64 1] w (b6Y 9218868437227405312):=by
 go_enter func74,ntmps74
 go_wp2
 rw[run_callFunc_extern func117 Rz Rz Rz (e:=Extern.MathFloatBits.float64frombits) Rz,J4];simp only[Result.andThen];rw[Oper.upon_value]
 go_wp2
 go_ret;exact⟨rfl,rfl⟩
theorem UZ(c:dk)(wv:Z)(z:Nat)(w:H)(n:0<=c.w/\c.w<=9223372036854775807):bF prog 26 #[.agg (bA wv c),b6Y z] w (b6Y (p5 c z)):=by
 obtain⟨W,hw,l,G⟩:=a3E w 66 (bA wv c);have k:=F hw;have i:=F G;obtain⟨R,a⟩:=V (p5 c z);rw[<-a];unfold p5 at a;have f2:W.cell? ⟨w.heap.size,2,none⟩=some (.bool c.hw):=l.aE rfl;have f3:W.cell? ⟨w.heap.size,3,none⟩=some (.int .i64 c.w):=l.aE rfl;have f6:W.cell? ⟨w.heap.size,6,none⟩=some (.bool c.hd):=l.aE rfl;have f7:W.cell? ⟨w.heap.size,7,none⟩=some (.float .f64 c.d):=l.aE rfl;have j:=F<|PZ z;clear hw l G;obtain⟨q6,v⟩:=V (c.hd);obtain⟨q2,I⟩:=V (c.hw);rw[<-v]at f6 a;rw[<-I]at f2 a;clear v I;cases q6 with
 |true =>
  rw[if_pos rfl]at a;subst a;go_enter func26,ntmps26
  go_upto_region 1 with fail
  rw[k.o];go_wp2_with fail;go_ret;exact⟨rfl,i.o⟩
 |false =>
 rw[if_neg Bool.false_ne_true]at a;cases q2 with
 |false =>
  rw[if_pos rfl]at a;subst a;go_enter func26,ntmps26
  go_upto_region 1 with fail
  rw[k.o];go_wp2_with fail;go_ret;exact⟨rfl,i.o⟩
 |true =>
 rw[if_neg P8]at a;cases f:EQ z with
 |true =>
  rw[if_pos (.inl f)]at a;subst a;rw[f]at j;clear f;go_enter func26,ntmps26
  go_upto_region 1 with fail
  rw[k.o]
  go_wp2_with (first|(go_at_call 72;refine(j.o _).m ?_;rintro e w3 ⟨rfl,h⟩;subst h)|(go_at_call 73;refine(WD _).m ?_;rintro e x ⟨rfl,h⟩;subst h))
  go_ret;exact⟨rfl,i.o⟩
 |false =>
 rw[f]at j;cases g:ltQ z 0 with
 |true =>
  rw[if_pos (.inr g)]at a;subst a;have s:(FloatKind.f64.format.order z 0==some .lt)=true:=g;clear f g;go_enter func26,ntmps26
  go_upto_region 1 with fail
  rw[k.o]
  go_wp2_with (first|(go_at_call 72;refine(j.o _).m ?_;rintro e w3 ⟨rfl,h⟩;subst h)|(go_at_call 73;refine(WD _).m ?_;rintro e x ⟨rfl,h⟩;subst h))
  go_ret;exact⟨rfl,i.o⟩
 |false =>
 rw[if_neg (by rw[f,g];simp)]at a;have s:(FloatKind.f64.format.order z 0==some .lt)=false:=g;cases he:eqQ z 0 with
 |true =>
  rw[if_pos he]at a;subst a;have q:(FloatKind.f64.format.order z 0==some .eq)=true:=he;clear f g he;go_enter func26,ntmps26
  go_upto_region 1 with fail
  rw[k.o]
  go_wp2_with (first|(go_at_call 72;refine(j.o _).m ?_;rintro e w3 ⟨rfl,h⟩;subst h)|(go_at_call 74;refine(b8j _).m ?_;rintro e x ⟨rfl,h⟩;subst h))
  go_ret;exact⟨rfl,i.o⟩
 |false =>
  rw[if_neg (by rw[he];simp)]at a;obtain⟨r,u⟩:=b86 ⟨M0,n.2⟩ f he;rw[u]at a;have p:R=r:=a;subst p;have y:=F<|λ(W:H) (t:TypeId)=>Mm (P:=prog) W t _ _ _ u;have q:(FloatKind.f64.format.order z 0==some .eq)=false:=he;clear f g he u a n;go_enter func26,ntmps26
  go_upto_region 1 with fail
  rw[k.o];have hdd:=y.o
  go_wp2_with (first|(go_at_call 72;refine(j.o _).m ?_;rintro e w3 ⟨rfl,h⟩;subst h))
  go_ret;exact⟨rfl,i.o⟩
theorem b6V(d:Nat)(w:H):bP prog 27 #[b6Y d,b6Y d] w (.bool true):=by
 cases h:eqQ d d with
 |false =>
  have Y:(FloatKind.f64.format.order d d==some .eq)=false:=h;have I:(FloatKind.f64.format.order d d != some .eq)=true:=by unfold bne;rw[Y];rfl
  clear h;go_enter func27,ntmps27;go_wp2_with fail;go_ret;exact⟨rfl,rfl⟩
 |true =>
  have Y:(FloatKind.f64.format.order d d==some .eq)=true:=h;cases h0:eqQ d 0 with
  |false =>
   have c:(FloatKind.f64.format.order d 0==some .eq)=false:=h0;have f:(FloatKind.f64.format.order d 0 != some .eq)=true:=by unfold bne;rw[c];rfl
   clear h h0;go_enter func27,ntmps27;go_wp2_with fail;go_ret;exact⟨rfl,rfl⟩
  |true =>
   have c:(FloatKind.f64.format.order d 0==some .eq)=true:=h0;have f:(FloatKind.f64.format.order d 0 != some .eq)=false:=by unfold bne;rw[c];rfl
   obtain⟨r,e,a⟩:=inv_zero h0;have h5:(FloatKind.f64.format.order r r==some .eq)=true:=a;have hdd:=(λ(W:H) (t:TypeId)=>Mm (P:=prog) W t _ _ _ e);clear h h0 e a;go_enter func27,ntmps27;go_wp2_with fail;go_ret;exact⟨rfl,rfl⟩
theorem c1P{B:Nat}{w:H}{d:Option Addr}{n c:Nat}{l:List Nat}(h:Sl B w (.slice d n c) (l.map b6Y))(k:Nat)(f:k<l.length) :
  ∃b o,d=some ⟨b,o,none⟩/\b<B/\∀ j (e:j<l.length),w.cell? ⟨b,o+j,none⟩=some (b6Y l[j]):=by
 obtain⟨c',_,_,h⟩:=h;rcases h with⟨h0,_⟩|⟨b,o,U,he,a⟩
 ·rw[List.map_eq_nil_iff]at h0
  subst h0;exact absurd f (cL _)
 injection he with Y I h3
 refine⟨b,o,Y,U,λj e=>?_⟩;have:=a j (by rw[ay];exact e);rw[cU]at this;exact this

theorem EZ(l:List Nat)(v:Z)(z:Nat)(w:H)(h:Sl w.heap.size w v (l.map b6Y))(hl:l.length<=1000000000):bF prog 28 #[v,b6Y z] w (.int .i64 (pkF l z)):=by
  obtain⟨N,hN⟩:=V (l.length)
  obtain⟨av,cv,rfl⟩:∃ a c,v=.slice a N c:=by
    obtain⟨a,c,e⟩:=cQ h;exact⟨a,c,by rw[e,ay,hN]⟩
  have HN:=F hN;have HL:=F h;have hNb:N<=1000000000:=M0;obtain⟨R,K⟩:=V (pkF l z);rw[<-K];unfold pkF at K;rw[<-hN]at K;obtain⟨d,hZ⟩:=V (a15 z);rw[<-hZ]at K;have HR:=F K;have HZ:=F hZ;have HI:=F PZ;clear h hl hN K hZ;go_enter func28,ntmps28
  rcases(show(EQ z=true/\d=4607182418800017408)\/(EQ z=false/\d=z) by
    rw[HZ.o];unfold a15;cases EQ z
    · exact .inr ⟨rfl,rfl⟩
    exact .inl ⟨rfl,rfl⟩)with⟨t,j⟩|⟨t,j⟩
  all_goals
    have J:=F (λW=>by have:=HI.o z W;rw[t]at this;exact this);have P:=F j;clear t j HZ
    go_upto_region 5 with(first|(go_at_call 72;refine(J.o _).m ?_;rintro e w3 ⟨rfl,h⟩;subst w3))
    rw[<-P.o];clear P J
    go_loopw [5,6,7,8,13] (λa5 a6 _ _ iv wr=>∃ k:Nat,k<=N/\iv=.int .i64 k/\a5=.int .i64 (kp l d k).1/\a6=.int .i64 (kp l d k).2/\Hid (r7 w wr)) (λ_ _ _ _ iv _=>N-(intOf iv).toNat)
    exact⟨0,aL _,rfl,rfl,rfl,F (Below.refl _ _)⟩
    obtain⟨k,hk,rfl,rfl,rfl,B⟩:=hrel;have U:=b9w l d k;obtain⟨s1,hs1⟩:=V ((kp l d k).1);obtain⟨s2,r⟩:=V ((kp l d k).2);rw[<-hs1,<-r]at U ⊢;by_cases hlt:k<N
    · have u:k<l.length:=by have:=HN.o;omega
      obtain⟨b,o,rfl,hbb,hc⟩:=c1P (HL.o.below B.o) k u;have hck:=hc k u;obtain⟨f,hf⟩:=V (l[k]);rw[<-hf]at hck
      have hgo:kp l d (k+1)=if EQ f=true then(s1,s2)else
          (if geQ f d=true/\(s1<0\/ltQ f (l.getD s1.toNat 0)=true)then(k:Int)else s1,
           if s2<0\/gtQ f (l.getD s2.toNat 0)=true then(k:Int)else s2):=by
        rw[hs1,r];show(if EQ (l.getD k 0)=true then _ else _)=_;rw[show l.getD k 0=f by rw[hf,jj,aG u];rfl]
      have T:∀ m:Nat,m<k->wr.cell? ⟨b,o+m,none⟩=some (b6Y (l.getD m 0)):=λm hm=>by
        have hml:m<l.length:=M0;rw[hc m hml,jj,aG hml];rfl
      have C:=F T;have D:=F hgo;have HB:=F U;clear hc hf hs1 r T hgo U hbb u;cases t:EQ f with
      |true =>
        have J:=F (λW=>by have:=HI.o f W;rw[t]at this;exact this);have M:=F (show kp l d (k+1)=(s1,s2) by rw[D.o,if_pos t]);clear t
        go_wp2_with (first|(go_at_call 72;refine(J.o _).m ?_;rintro e w3 ⟨rfl,h⟩;subst w3))
        go_roundw
        exact⟨k+1,M0,by go_num,by rw[M.o],by rw[M.o],B⟩
        simp[intOf];omega
      |false =>
        have J:=F (λW=>by have:=HI.o f W;rw[t]at this;exact this);obtain⟨t1,s⟩:=V ((if geQ f d=true/\(s1<0\/ltQ f (l.getD s1.toNat 0)=true)then(k:Int)else s1));obtain⟨t2,x⟩:=V ((if s2<0\/gtQ f (l.getD s2.toNat 0)=true then(k:Int)else s2));have M:=F (show kp l d (k+1)=(t1,t2) by rw[D.o,t,s,x];rfl)
        have c1:((FloatKind.f64.format.order f d==some .gt||FloatKind.f64.format.order f d==some .eq)=false/\Hid (t1=s1))\/((FloatKind.f64.format.order f d==some .gt||FloatKind.f64.format.order f d==some .eq)=true/\s1<0/\Hid (t1=k)) \/
            ((FloatKind.f64.format.order f d==some .gt||FloatKind.f64.format.order f d==some .eq)=true/\∃ m g:Nat,s1=m/\(m:Int)<(N:Int)/\decide ((m:Int)<0)=false/\wr.cell? ⟨b,o+m,none⟩=some (b6Y g)/\(FloatKind.f64.format.order f g==some .lt)=false/\Hid (t1=m)) \/
            ((FloatKind.f64.format.order f d==some .gt||FloatKind.f64.format.order f d==some .eq)=true/\∃ m g:Nat,s1=m/\(m:Int)<(N:Int)/\decide ((m:Int)<0)=false/\wr.cell? ⟨b,o+m,none⟩=some (b6Y g)/\(FloatKind.f64.format.order f g==some .lt)=true/\Hid (t1=k)):=by
          cases q:geQ f d with
          |false=>exact .inl ⟨q,by rw[s,if_neg (λh=>by rw[q]at h;exact absurd h.1 P8)];exact rfl⟩
          |true =>
            by_cases j:s1<0
            · exact .inr (.inl ⟨q,j,by rw[s,if_pos ⟨q,.inl j⟩];exact rfl⟩)
            obtain⟨m,rfl⟩:∃ m:Nat,s1=m:=⟨s1.toNat,M0⟩;have n:=C.o m (by have:=HB.o.1.2;omega);have ht1':t1=if geQ f d=true/\((m:Int)<0\/ltQ f (l.getD m 0)=true)then(k:Int)else m:=s;have p:(m:Int)<(N:Int):=by have:=HB.o.1.2;omega
            cases i:ltQ f (l.getD m 0)with
            |false=>exact .inr (.inr (.inl ⟨q,m,_,rfl,p,decide_eq_false j,n,i,by rw[ht1',if_neg (λh=>by rw[i]at h;exact h.2.elim j (λh=>by cases h))];exact rfl⟩))
            |true=>exact .inr (.inr (.inr ⟨q,m,_,rfl,p,decide_eq_false j,n,i,by rw[ht1',if_pos ⟨q,.inr i⟩];exact rfl⟩))
        have c2:Hid ((s2<0/\Hid (t2=k))\/(∃m g:Nat,s2=m/\(m:Int)<(N:Int)/\decide ((m:Int)<0)=false/\wr.cell? ⟨b,o+m,none⟩=some (b6Y g)/\(FloatKind.f64.format.order f g==some .gt)=false/\Hid (t2=m)) \/
            (∃m g:Nat,s2=m/\(m:Int)<(N:Int)/\decide ((m:Int)<0)=false/\wr.cell? ⟨b,o+m,none⟩=some (b6Y g)/\(FloatKind.f64.format.order f g==some .gt)=true/\Hid (t2=k))):=by
          refine F ?_;by_cases j:s2<0
          · exact .inl ⟨j,by rw[x,if_pos (.inl j)];exact rfl⟩
          obtain⟨m,rfl⟩:∃ m:Nat,s2=m:=⟨s2.toNat,M0⟩;have n:=C.o m (by have:=HB.o.2.2;omega);have Q:t2=if(m:Int)<0\/gtQ f (l.getD m 0)=true then(k:Int)else m:=x;have p:(m:Int)<(N:Int):=by have:=HB.o.2.2;omega
          cases i:gtQ f (l.getD m 0)with
          |false=>exact .inr (.inl ⟨m,_,rfl,p,decide_eq_false j,n,i,by rw[Q,if_neg (λh=>by rw[i]at h;exact h.elim j (λh=>by cases h))];exact rfl⟩)
          |true=>exact .inr (.inr ⟨m,_,rfl,p,decide_eq_false j,n,i,by rw[Q,if_pos (.inr i)];exact rfl⟩)
        clear t s x D C HB;rcases c1 with⟨q,y⟩|⟨q,j,y⟩|⟨q,m,g,rfl,p,hm0,n,hlt,y⟩|⟨q,m,g,rfl,p,hm0,n,hlt,y⟩
        all_goals
          go_upto_region 10 with(first|(go_at_call 72;refine(J.o _).m ?_;rintro e w3 ⟨rfl,h⟩;subst w3))
          rcases c2.o with⟨hz2,HW⟩|⟨m2,g2,rfl,c5K,hm2,hcm2,hg2,HW⟩|⟨m2,g2,rfl,c5K,hm2,hcm2,hg2,HW⟩
          all_goals
            clear c2;go_wp2_with fail;go_roundw
            exact⟨k+1,M0,by go_num,by rw[M.o,y.o],by rw[M.o,HW.o],B⟩
            simp[intOf];omega
    obtain rfl:k=N:=M0;have L:=F (show R=if 0<=s1 then s1 else s2 by rw[HR.o,hs1,r]);clear hs1 r U;by_cases j:0<=s1
    · have y:=F (show R=s1 by rw[L.o,if_pos j])
      go_wp2_with fail;go_ret;exact⟨by rw[y.o];rfl,B.o⟩
    have y:=F (show R=s2 by rw[L.o,if_neg j]);go_wp2_with fail;go_ret;exact⟨by rw[y.o];rfl,B.o⟩
