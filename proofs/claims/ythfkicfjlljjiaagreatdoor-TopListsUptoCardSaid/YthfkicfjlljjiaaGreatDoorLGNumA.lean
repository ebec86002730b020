/- Joined texts. -/
import Derived.Test.YthfkicfjlljjiaaGreatDoorLGPunJ
import Derived.Deep.RegionHeld3
import Derived.Lib.ItoaNum
import Derived.Test.YthfkicfjlljjiaaGreatDoorLGEmB
set_option maxHeartbeats 40000000
namespace Go.Proofs.YthfkicfjlljjiaaGreatDoor
open Tryz
open Go.RowKit
set_option maxRecDepth 10000
theorem RQ{P:Program}{e:TypeId}{i:TypeInfo}(hi:P.info? e=some i)(hsize:i.size=1)(w:H):(sizeOf e).run P w=.ok 1 w:=by
 simp[sizeOf,typeInfo,hi,hsize]
section
variable {P:Program} {t:TypeId} {i:TypeInfo} (ht:P.underlying t=some (.slice (P.elem t))) (hi:P.info? (P.elem t)=some i) (hsize:i.size=1)
include ht hi hsize
end
end Go.Proofs.YthfkicfjlljjiaaGreatDoor
set_option maxHeartbeats 40000000
namespace Go.Proofs.YthfkicfjlljjiaaGreatDoor
open Tryz
open Go.RowKit
set_option maxRecDepth 10000
def Cut(s:O)(k c:Nat):Prop:=(c=0/\∀ j (h:j<s.length),1<=j->j<k->G s[j]≠45)\/(1<=c/\c<k/\(∃h:c<s.length,G s[c]=45)/\∀ j (h:j<s.length),c<j->j<k->G s[j]≠45)
end Go.Proofs.YthfkicfjlljjiaaGreatDoor
set_option maxHeartbeats 40000000
namespace Go.Proofs.YthfkicfjlljjiaaGreatDoor
open Tryz
open Go.RowKit
set_option maxRecDepth 10000
def nth{α:Type}:List α->Nat->Option α
 | [],_=>none
 |x::_,0=>some x
 |_::r,n+1=>nth r n
theorem vZ{α:Type}:∀ (l:List α) (i:Nat) (o:α),nth l i=some o->l.toArray[i]? = some o
 | [],_,_,h=>by cases h
 |x::r,0,o,h=>by simpa[nth]using h
 |x::r,n+1,o,h=>by
  have:=vZ r n o h
  simpa using this
section
variable {P:Program} {l:List Oper} {Q:Exit->Act->H->Prop} {S:H->Prop} {fuel:Nat} {listed:Array Bool} {a:Act} {w:H}
theorem tk(i:Nat){d:Oper}{v:Z}(hi:nth l i=some d)
  (m:Region.noSelect l.toArray=true) (g:Region.free .any l.toArray listed i=true) (k:(Region.ready .any l.toArray listed).contains i=true)
  (e:∀ c a w,Q (.panic c) (a.put d.dst v) w->Q (.panic c) a w) (j:Region.wanted d (yielded l.toArray a.tmps)=true) (f:S w)
  (hy:∀ w,S w->(execOp a.eval d).run P w=.ok (.value v) w)
  (h:wpAnyH P .any l.toArray Q S fuel (listed.setIfInBounds i true) (a.put d.dst v) w):wpAnyH P .any l.toArray Q S (fuel+1) listed a w :=
 wpAnyH_take (vZ _ _ _ hi) m g k e (Or.inl ⟨j,hy⟩) f h
theorem ek (i : Nat) {d : Oper} {v : Z} {M : Array Bool} {b : Act} (h : wpAnyH P .any l.toArray Q S fuel M b w) (hi : nth l i = some d := by rfl)
 (n : Region.noSelect l.toArray = true := by kernel_rfl) (j : Region.free .any l.toArray listed i = true := by kernel_rfl) (m : (Region.ready .any l.toArray listed).contains i = true := by kernel_rfl)
 (f : ∀c a w,Q (.panic c) (a.put d.dst v) w -> Q (.panic c) a w := by exact λ_ _ _ h => h) (k : Region.wanted d (yielded l.toArray a.tmps) = true := by rfl) (g : S w := by assumption)
 (hy : ∀w,S w -> (execOp a.eval d).run P w = .ok (.value v) w := by(intro wS hSw;(try dsimp only at hSw);go_simp;first|done|with_reducible rfl))
 (e : listed.setIfInBounds i true = M := by((try simp only[a1o,List.set_cons_zero,List.set_cons_succ]);first|done|with_reducible rfl))
 (U : a.put d.dst v = b := by((try simp only[Act.put,a1o,List.set_cons_zero,List.set_cons_succ]);first|done|with_reducible rfl)) : wpAnyH P .any l.toArray Q S (fuel + 1) listed a w := by
 subst e;subst U;exact wpAnyH_take (vZ _ _ _ hi) n j m f (Or.inl ⟨k,hy⟩) g h
theorem tq(i:Nat){d:Oper}(hi:nth l i=some d)(v:Z)(hy:∀ w,S w->(execOp a.eval d).run P w=.ok (.value v) w)
 (h:wpAnyH P .any l.toArray Q S fuel (listed.setIfInBounds i true) (a.put d.dst v) w)
 (m:Region.noSelect l.toArray=true:=by kernel_rfl) (g:Region.free .any l.toArray listed i=true:=by kernel_rfl) (k:(Region.ready .any l.toArray listed).contains i=true:=by kernel_rfl)
 (e:∀ c a w,Q (.panic c) (a.put d.dst v) w->Q (.panic c) a w:=by exact λ_ _ _ h=>h) (j:Region.wanted d (yielded l.toArray a.tmps)=true:=by rfl) (f:S w:=by assumption):wpAnyH P .any l.toArray Q S (fuel+1) listed a w :=
 tk i (v:=v) hi m g k e j f hy h
theorem rn(i:Nat){c:Oper}(f:Region.ready .any l.toArray listed=[i])(hi:nth l i=some c)(e:Region.wanted c (yielded l.toArray a.tmps)=true)
  (h:∀ d:Act->H->Prop,Shut (∀a w,S w->(S w->wpAnyH P .any l.toArray Q S fuel (listed.setIfInBounds i true) a w)->d a w)->Oper.wp P c a w d Q) :
  wpAnyH P .any l.toArray Q S (fuel+1) listed a w :=
 wpAnyH_ready (rs:=[i]) f Oc (AllReadyH.cons (vZ _ _ _ hi) (λK hK=>by rw[if_pos e];exact h K hK) AllReadyH.nil)
theorem rn2(i j:Nat){e f:Oper}(m:Region.ready .any l.toArray listed=[i,j])(hi:nth l i=some e)(g:Region.wanted e (yielded l.toArray a.tmps)=true)
  (h:∀ c:Act->H->Prop,Shut (∀a w,S w->(S w->wpAnyH P .any l.toArray Q S fuel (listed.setIfInBounds i true) a w)->c a w)->Oper.wp P e a w c Q)
  (k:nth l j=some f) (d:Region.wanted f (yielded l.toArray a.tmps)=true)
  (I:∀ c:Act->H->Prop,Shut (∀a w,S w->(S w->wpAnyH P .any l.toArray Q S fuel (listed.setIfInBounds j true) a w)->c a w)->Oper.wp P f a w c Q) :
  wpAnyH P .any l.toArray Q S (fuel+1) listed a w :=
 wpAnyH_ready (rs:=[i,j]) m Oc (AllReadyH.cons (vZ _ _ _ hi) (λK hK=>by rw[if_pos g];exact h K hK) (AllReadyH.cons (vZ _ _ _ k) (λK hK=>by rw[if_pos d];exact I K hK) AllReadyH.nil))
end
end Go.Proofs.YthfkicfjlljjiaaGreatDoor
set_option maxHeartbeats 40000000
namespace Go.Proofs.YthfkicfjlljjiaaGreatDoor
open Tryz
open Go.RowKit
set_option maxRecDepth 10000
theorem a2S{P:Program}{src dst e:TypeId}(d:P.underlying src=some (.slice e))(he:P.underlying e=some (.int .u8))(hd:P.underlying dst=some .string)
  (a:Int) (ha:0<=a/\a<256) (b:Nat) (W:H) (h:W.cell? ⟨b,0,none⟩=some (.int .u8 a)):(convert src dst (.slice (some ⟨b,0,none⟩) 1 1)).run P W=.ok (.string (E [UInt8.ofNat a.toNat])) W :=
 run_convert_bytes_back (P:=P) W src dst e ⟨b,0,none⟩ 1 [UInt8.ofNat a.toNat] d he hd (λj c=>by
  have h0:j=0:=by simpa using c
  subst h0;rw[addr_add];rw[h];simp;omega)
theorem my:∀ (k u:Nat),u<10 ^ (k+1)->(Lib.decDigits u).length<=k+1
 |0,u,h=>by
  rw[Lib.decDigits,dif_pos (by simpa using h)];simp
 |k+1,u,h=>by
  rw[Lib.decDigits]
  split
  ·simp
  have:=my k (u/10) (by rw[b1o]at h;omega);rw[ae];simp;exact this
theorem a1N{u:Nat}(h:u<10):Lib.decDigits u=[UInt8.ofNat (48+u)]:=by rw[Lib.decDigits,dif_pos h]
theorem a2E{u:Nat}(h:¬ u<10):Lib.decDigits u=Lib.decDigits (u/10)++[UInt8.ofNat (48+u%10)]:=by rw[Lib.decDigits,dif_neg h]
theorem b7H(u:Nat)(w:H)(c:u<10):bF prog 105 #[.int .i64 u] w (S (Lib.decDigits u)):=by
 have hi:(u:Int)<10:=M0;have d:=λW=>a2M (P:=prog) underlying46 underlying5 underlying9 ((48:Int)+u) M0 W;have hd:=a1N c;have U:UInt8.ofNat ((48:Int)+u).toNat=UInt8.ofNat (48+u):=by congr 1
 rw[U,<-hd]at d;clear U hd;go_enter func105,ntmps105;go_wp2_with fail;go_ret;exact⟨rfl,(Below.refl _ _).alloc (ag _) _⟩
theorem b1k:∀ (u:Nat) (w:H),u<=9223372036854775807->bF prog 105 #[.int .i64 u] w (S (Lib.decDigits u)):=by
 intro u
 induction u using Nat.strongRecOn with
 |ind u x =>
  intro w hu;by_cases j:u<10
  ·exact b7H u w j
  have hi:¬ (u:Int)<10:=M0;have k:=λW=>a2M (P:=prog) underlying46 underlying5 underlying9 ((48:Int)+(u:Int)%10) M0 W;have hi2:(u:Int)<=9223372036854775807:=M0;have w1:IntKind.i64.wrap ((u:Int)/10)=(u:Int)/10:=IntWalk.i64_in _ M0;have w2:(u:Int).tmod 10=(u:Int)%10:=ei M0;have w3:IntKind.i64.wrap (48+(u:Int)%10)=48+(u:Int)%10:=IntWalk.i64_in _ M0;have w4:IntKind.u8.wrap (48+(u:Int)%10)=48+(u:Int)%10:=IntWalk.u8_in _ M0;have hd:=a2E j;have U:UInt8.ofNat ((48:Int)+(u:Int)%10).toNat=UInt8.ofNat (48+u%10):=by congr 1
  have g:=λb W=>a2S (P:=prog) underlying46 underlying5 underlying9 ((48:Int)+(u:Int)%10) M0 b W;rw[U]at k g;have hrec:∀ (q:Int),q=((u/10:Nat):Int)->∀ W,bF prog 105 #[.int .i64 q] W (S (Lib.decDigits (u/10))):=λq y W=>y▸x (u/10) M0 W M0;have hlen:=my 18 (u/10) M0;have t4:=mm (Lib.decDigits (u/10)) [UInt8.ofNat (48+u%10)];rw[<-hd]at t4;obtain⟨dg,n⟩:=V (UInt8.ofNat (48+u%10));rw[<-n]at t4 k g;clear n;obtain⟨D,s⟩:=V (Lib.decDigits u);obtain⟨T,v⟩:=V (Lib.decDigits (u/10));rw[<-s]at t4 ⊢;rw[<-v]at t4 hrec hlen;have hlt:¬ 9223372036854775807<T.length+1:=M0;clear U hd x s v;have h:=F hrec;clear hrec;have r:=F g;clear g;go_enter func105,ntmps105;go_wp2_with fail;refine wp_region_held_drew (S:=λ_=>True) Rz (by exact trivial) (λhHeld=>?_);refine tq 0 rfl ?_ (λw hSw=>?_) ?_;rotate_left
  ·(try dsimp only at hSw);go_simp;first|done|with_reducible rfl
  try simp only[Act.put,fH,fI,fJ]
  refine tq 1 rfl ?_ (λw hSw=>?_) ?_;rotate_left
  ·(try dsimp only at hSw);go_simp;first|done|with_reducible rfl
  try simp only[Act.put,fH,fI,fJ]
  refine tq 3 rfl ?_ (λw hSw=>?_) ?_;rotate_left
  ·(try dsimp only at hSw);go_simp;first|done|with_reducible rfl
  try simp only[Act.put,fH,fI,fJ]
  refine tq 4 rfl ?_ (λw hSw=>?_) ?_;rotate_left
  ·(try dsimp only at hSw);go_simp;first|done|with_reducible rfl
  try simp only[Act.put,fH,fI,fJ]
  refine tq 5 rfl ?_ (λw hSw=>?_) ?_;rotate_left
  ·(try dsimp only at hSw);go_simp;first|done|with_reducible rfl
  try simp only[Act.put,fH,fI,fJ]
  refine tq 6 rfl ?_ (λw hSw=>?_) ?_;rotate_left
  ·(try dsimp only at hSw);go_simp;first|done|with_reducible rfl
  try simp only[Act.put,fH,fI,fJ]
  refine rn2 2 7 Rz rfl r5 ?_ rfl r5 ?_
  ·intro K hK
   go_simp
   refine(h.o _ M0 _).m ?_;rintro e w2 ⟨rfl,c⟩;have f:=F c;clear c;dsimp only;refine hK.out _ _ ?_ (λhHeld=>?_)
   ·exact trivial
   clear hK K
   try simp only[Act.put,fH,fI,fJ]
   refine rn 7 Rz rfl r5 (λK hK=>?_)
   go_simp
   refine hK.out _ _ ?_ (λhHeld=>?_)
   ·exact trivial
   clear hK K
   try simp only[Act.put,fH,fI,fJ]
   refine rn 8 Rz rfl r5 (λK hK=>?_)
   go_simp
   refine hK.out _ _ ?_ (λhHeld=>?_)
   ·exact trivial
   clear hK K
   try simp only[Act.put,fH,fI,fJ]
   refine tq 9 rfl ?_ (λw hSw=>?_) ?_;rotate_left
   ·(try dsimp only at hSw);go_simp;first|done|with_reducible rfl
   try simp only[Act.put,fH,fI,fJ]
   refine tq 10 rfl ?_ (λw hSw=>?_) ?_;rotate_left
   ·(try dsimp only at hSw);go_simp;first|done|with_reducible rfl
   try simp only[Act.put,fH,fI,fJ]
   refine wpAnyH_done Rz ?_ _;go_wp2_with fail;go_ret;refine⟨rfl,?_⟩;have c:=f.o
   have d:r7 w w2:=by
    first
     |exact(Below.refl w.heap.size w).drew.trans c
     |exact((Below.refl w.heap.size w).alloc (ag _) _).drew.trans (Below.m (B':=w.heap.size) c Oc)
   first
    |exact d
    |exact d.alloc d.size _
  intro K hK
  go_simp
  refine hK.out _ _ ?_ (λhHeld=>?_)
  ·exact trivial
  clear hK K
  try simp only[Act.put,fH,fI,fJ]
  refine rn2 2 8 Rz rfl r5 ?_ rfl r5 ?_
  ·intro K hK
   go_simp
   refine(h.o _ M0 _).m ?_;rintro e w2 ⟨rfl,c⟩;have f:=F c;clear c;dsimp only;refine hK.out _ _ ?_ (λhHeld=>?_)
   ·exact trivial
   clear hK K
   try simp only[Act.put,fH,fI,fJ]
   refine rn 8 Rz rfl r5 (λK hK=>?_)
   go_simp
   rw[r.o _ _ ((f.o.cell (p:=⟨w.heap.size,0,none⟩) Oc).trans (by simp[World.cell?_alloc_mark]))];simp only[Result.andThen];rw[Oper.upon_value]
   go_simp
   refine hK.out _ _ ?_ (λhHeld=>?_)
   ·exact trivial
   clear hK K
   try simp only[Act.put,fH,fI,fJ]
   refine tq 9 rfl ?_ (λw hSw=>?_) ?_;rotate_left
   ·(try dsimp only at hSw);go_simp;first|done|with_reducible rfl
   try simp only[Act.put,fH,fI,fJ]
   refine tq 10 rfl ?_ (λw hSw=>?_) ?_;rotate_left
   ·(try dsimp only at hSw);go_simp;first|done|with_reducible rfl
   try simp only[Act.put,fH,fI,fJ]
   refine wpAnyH_done Rz ?_ _;go_wp2_with fail;go_ret;refine⟨rfl,?_⟩;have c:=f.o
   have d:r7 w w2:=by
    first
     |exact(Below.refl w.heap.size w).drew.trans c
     |exact((Below.refl w.heap.size w).alloc (ag _) _).drew.trans (Below.m (B':=w.heap.size) c Oc)
   first
    |exact d
    |exact d.alloc d.size _
  intro K hK
  go_simp
  rw[r.o _ _ (by simp[World.cell?_alloc_mark])];simp only[Result.andThen];rw[Oper.upon_value]
  go_simp
  refine hK.out _ _ ?_ (λhHeld=>?_)
  ·exact trivial
  clear hK K
  try simp only[Act.put,fH,fI,fJ]
  refine rn 2 Rz rfl r5 (λK hK=>?_)
  go_simp
  refine(h.o _ M0 _).m ?_;rintro e w2 ⟨rfl,c⟩;have f:=F c;clear c;dsimp only;refine hK.out _ _ ?_ (λhHeld=>?_)
  ·exact trivial
  clear hK K
  try simp only[Act.put,fH,fI,fJ]
  refine tq 9 rfl ?_ (λw hSw=>?_) ?_;rotate_left
  ·(try dsimp only at hSw);go_simp;first|done|with_reducible rfl
  try simp only[Act.put,fH,fI,fJ]
  refine tq 10 rfl ?_ (λw hSw=>?_) ?_;rotate_left
  ·(try dsimp only at hSw);go_simp;first|done|with_reducible rfl
  try simp only[Act.put,fH,fI,fJ]
  refine wpAnyH_done Rz ?_ _;go_wp2_with fail;go_ret;refine⟨rfl,?_⟩;have c:=f.o
  have d:r7 w w2:=by
   first
    |exact(Below.refl w.heap.size w).drew.trans c
    |exact((Below.refl w.heap.size w).alloc (ag _) _).drew.trans (Below.m (B':=w.heap.size) c Oc)
  first
   |exact d
   |exact d.alloc d.size _
