import Derived.Test.YtpbnfjdkdfombaaGreatDoorGTrP
set_option maxHeartbeats 40000000
namespace Go.Proofs.YtpbnfjdkdfombaaGreatDoor
open Go.Proofs.Tryz
open Go.RowKit
set_option maxRecDepth 10000
variable{el raw:O}{h:gF}
theorem a4o(a b:List Int):fp (a++b)=fp a++fp b:=by simp[fp]
theorem b0G:∀ p∈CA,(59:UInt8)∉p.1:=P8

theorem a8v:∀ p∈rU,(59:UInt8)∉p.1:=P8

theorem b0o:∀ p∈nd,(59:UInt8)∉p.1:=P8

theorem a53{α:Type}{l:List (O×α)}{s:O}(a:∀ p∈l,(59:UInt8)∉p.1)(c:(59:UInt8)∈s):look l s=none:=by
 cases h:look l s with
 |none=>rfl
 |some t=>exact absurd c (a _ (lO h))

theorem a8V{s:O}(h:(59:UInt8)∈jm s):fT s=none:=by
 unfold fT;have Y:yv (jm s)=none:=a53 b0G h;rw[Y];dsimp only
 split
 ·unfold iX nN
  rw[a53 b0o h,if_neg Oc,a53 a8v h]
 rfl

theorem a84(a t:O):∀ n,a.length+1<=n->n<=a.length+1+t.length->(∃r,fT (a++[59])=some r)->iC (38::(a++59::t)) n=((fT (a++[59])).getD [],a.length+2):=by
 intro n
 induction n with
 |zero=>intro h _ _;omega
 |succ n j =>
  intro h hu d;obtain⟨r,d⟩:=d;unfold iC;have f:(38::(a++59::t)).drop 1=a++59::t:=rfl;rw[f];by_cases g:n=a.length
  ·subst g
   have e:(a++59::t).take (a.length+1)=a++[59]:=by
    rw[b5h];rfl
   rw[e,d];dsimp only
   have i:VL (38::(a++59::t)) (a.length+1)=false:=by
    unfold VL
    have:(38::(a++59::t))[a.length+1]? = some 59:=by
     rw[dx,dB (ag _),jy];rfl
    rw[this];rfl
   rw[i,if_neg Oc];rfl
  have e:(a++59::t).take (n+1)=a++59::t.take (n-a.length):=by
   rw[b4h,aP M0];rw[show n+1-a.length=(n-a.length)+1 by omega,dM]
  rw[e]
  have c:fT (a++59::t.take (n-a.length))=none\/t.take (n-a.length)=[]:=by
   cases hu:t.take (n-a.length)with
   |nil=>exact .inr rfl
   |cons y u =>
    refine .inl (a8V ?_);unfold jm
    split
    ·rw[b4f Oc]
     simp[List.dropLast]
    simp
  rcases c with c|c
  ·rw[c]
   exact j M0 M0 ⟨r,d⟩
  rw[c4p]at c;rcases c with c|c
  ·omega
  rw[c]at hu;simp only[aO]at hu;omega
theorem b3p{x:UInt8}{r:O}(h:x≠35):Lib.hasPrefix (38::x::r) [38,35]=false:=by
 unfold Lib.hasPrefix;have:(35==x)=false:=by simpa using λe:35=x=>h e.symm
 simp[List.isPrefixOf,this]
theorem a2J(r:O):Lib.hasPrefix (38::35::r) [38,35]=true:=by
 unfold Lib.hasPrefix;simp[List.isPrefixOf]
theorem b1i(t:O):pl ([38,97,109,112,59]++t)=38::pl t:=by
 have h:gX ([38,97,109,112,59]++t)=([38],5):=by
  show gX (38::97::(109::112::59::t))=_;unfold gX;rw[b3p P8,if_neg Oc];have I:=a84 [97,109,112] t (min 15 ((38::97::(109::112::59::t)).length-1)) (by simp only[ah,aO];omega) (by simp only[ah,aO];omega) ⟨[38],P8⟩;exact I
 rw[show([38,97,109,112,59]++t:O)=38::([97,109,112,59]++t)from rfl,IG];rw[show(38::([97,109,112,59]++t):O)=[38,97,109,112,59]++t from rfl,h];rfl
theorem a1u(base:Int)(U:base=10)(t:O):∀ (l:O) (n:Int),(mB base n l).2=l.length->mB base n (l++59::t)=((mB base n l).1,l.length)
 | [],n,_=>by
  subst U;show mB 10 n (59::t)=_;unfold mB;rw[if_pos P8];rfl
 |x::r,n,h=>by
  show mB base n (x::(r++59::t))=_;unfold mB at h ⊢
  split
  ·next e =>
   rw[if_pos e]at h;simp at h
  next e =>
  rw[if_neg e]at h;have a:=a1u base U t r (uU (n*base+fg (G x) base)) (by simpa using h);rw[a];rfl
def a1q(n:Nat):O:=[38,35]++Lib.decDigits n++[59]
theorem a2G(n:Nat)(t:O)(h:mB 10 0 (Lib.decDigits n)=((n:Int),(Lib.decDigits n).length))(X:(Lib.decDigits n)[0]? ≠ some 120/\(Lib.decDigits n)[0]? ≠ some 88)(Y:1<=(Lib.decDigits n).length):pl (a1q n++t)=iH n++pl t:=by
 unfold a1q;generalize hD:Lib.decDigits n=D at h X Y
 have i:gX ([38,35]++D++[59]++t)=(iH n,D.length+3):=by
  show gX (38::35::(D++[59]++t))=_;unfold gX;rw[a2J,if_pos rfl]
  have a:FT (38::35::(D++[59]++t))=false:=by
   unfold FT
   have e:(38::35::(D++[59]++t))[2]? = D[0]?:=by
    show(D++[59]++t)[0]? = _;rw[bB,cX M0]
   rw[e];simp[X]
  have d:(38::35::(D++[59]++t)).drop 2=D++59::t:=Oc;have f:mB 10 0 (D++59::t)=((n:Int),D.length):=by rw[a1u 10 rfl t D 0 (by rw[h]),h]
  unfold vY Er;rw[a,if_neg Oc,d,f]
  have c:(38::35::(D++[59]++t))[2+D.length]? = some 59:=by
   rw[show 2+D.length=D.length+1+1 by omega,dx,dx,bB,dB (ag _),jy];rfl
  show(if D.length=0 then _ else _)=_;rw[if_neg M0];show(iH (n:Int),2+D.length+(if(38::35::(D++[59]++t))[2+D.length]? = some 59 then 1 else 0))=_;rw[c,if_pos rfl]
  congr 1
  omega
 rw[show([38,35]++D++[59]++t:O)=38::([35]++D++[59]++t)from rfl,IG];rw[show(38::([35]++D++[59]++t):O)=[38,35]++D++[59]++t from rfl,i];dsimp only
 congr 1
 have e:[38,35]++D++[59]++t=([38,35]++D++[59])++t:=rfl;have g:D.length+3=([38,35]++D++[59]:O).length:=Oc;rw[g,a1B]
theorem a1p:∀ k:Fin 128,mB 10 0 (Lib.decDigits k.val)=((k.val:Int),(Lib.decDigits k.val).length)/\((Lib.decDigits k.val)[0]? ≠ some 120/\(Lib.decDigits k.val)[0]? ≠ some 88)/\1<=(Lib.decDigits k.val).length:=by decide +kernel
theorem a2d(n:Nat)(h:n<128)(t:O):pl (a1q n++t)=iH n++pl t :=
 a2G n t (a1p ⟨n,h⟩).1 (a1p ⟨n,h⟩).2.1 (a1p ⟨n,h⟩).2.2
theorem a1K{n:Nat}(h:1<=n/\n<128):iH n=[UInt8.ofNat n]:=by
 unfold iH tL;rw[if_neg M0,if_neg M0,ID M0 M0];rfl
theorem one_num:Dh 34=a1q 34/\Dh 39=a1q 39/\Dh 60=a1q 60/\Dh 62=a1q 62/\Dh 96=a1q 96:=by decide +kernel
theorem a5Z{x:UInt8}{n:Nat}(h:Dh x=a1q n)(a:1<=n/\n<128)(X:UInt8.ofNat n=x)(t:O):pl (Dh x++t)=x::pl t:=by
 rw[h,a2d n a.2,a1K a,X];rfl
theorem b2s(x:UInt8)(t:O):pl (Dh x++t)=x::pl t:=by
 have a:x=38\/x=34\/x=39\/x=60\/x=62\/x=96\/(Dh x=[x]/\x≠38):=by
  have hall:∀ k:Fin 256,UInt8.ofNat k.val=38\/UInt8.ofNat k.val=34\/UInt8.ofNat k.val=39\/UInt8.ofNat k.val=60\/UInt8.ofNat k.val=62\/UInt8.ofNat k.val=96\/(Dh (UInt8.ofNat k.val)=[UInt8.ofNat k.val]/\UInt8.ofNat k.val≠38):=by decide +kernel
  exact ku (P:=λx=>x=38\/x=34\/x=39\/x=60\/x=62\/x=96\/(Dh x=[x]/\x≠38)) hall x
 rcases a with rfl|rfl|rfl|rfl|rfl|rfl|⟨h,c⟩
 ·exact b1i t
 ·exact a5Z one_num.1 P8 rfl t
 ·exact a5Z one_num.2.1 P8 rfl t
 ·exact a5Z one_num.2.2.1 P8 rfl t
 ·exact a5Z one_num.2.2.2.1 P8 rfl t
 ·exact a5Z one_num.2.2.2.2 P8 rfl t
 rw[h];exact Cl t c
theorem a9f:∀ (l t:O),pl (qM l++t)=l++pl t
 | [],_=>rfl
 |x::r,t=>by
  show pl ((Dh x++qM r)++t)=_;rw[bB,b2s,a9f r t];rfl
theorem a9h(l:O):pl (qM l)=l:=by
 have:=a9f l [];rw[aV,Uz,aV]at this;exact this
theorem a8S(u:Nat):gg u ≠ []:=by
 by_cases h:u<16
 ·rw[sk h];simp
 rw[IQ h];simp
def vlP(c:Int):Prop:=(0<=c/\c<=127)\/(223<=c/\c<=246)\/(248<=c/\c<=255)\/(257<=c/\c<=303)\/(768<=c/\c<=879)\/(945<=c/\c<=969)\/(1072<=c/\c<=1119)\/(12353<=c/\c<=12438)\/(12449<=c/\c<=12538)\/(19968<=c/\c<=40959)\/(44032<=c/\c<=55203)\/(127744<=c/\c<=128511)

theorem a8d(c:Int):∀ rs:List (Int×Int),lX c rs=true ↔ ∃r∈rs,r.1<=c/\c<=r.2
 | []=>by simp[lX]
 |r::rs=>by
  unfold lX;by_cases h:r.1<=c/\c<=r.2
  ·rw[if_pos h];simp[h]
  rw[if_neg h,a8d c rs];simp[h]

theorem b2a(c:Int):Yc c=true ↔ vlP c:=by
 unfold Yc vlP;rw[a8d];simp[rl]
section
open Go.RowKit
theorem byte_at(s:O)(j:Nat)(h:j<s.length):(((E s).data[j]!).toNat:Int)=G s[j]:=by
  unfold G E;simp[h]
end

section
open Go.RowKit
theorem b0I{s:O}(h:∀ y∈s,Gg y):Ak s=-1:=by
  unfold Ak Lib.lastIndexByte;rcases Lib.lastIdx_spec (E s) 45 (E s).size with⟨Y,_⟩|⟨i,Y,_,a,_⟩
  · exact Y
  rw[aF]at Y;rw[byte_at s i Y]at a;have:=h s[i] (be Y);unfold Gg at this;omega
end

section
open Go.RowKit
theorem b0J{B W:O}(h:∀ y∈W,Gg y):Ak (B++45::W)=B.length:=by
  unfold Ak Lib.lastIndexByte;have hl:(B++45::W).length=B.length+1+W.length:=by rw[ae,ah];omega
  have a:(((E (B++45::W)).data[B.length]!).toNat:Int)=45:=by
    rw[byte_at _ _ M0];simp[G]
  rcases Lib.lastIdx_spec (E (B++45::W)) 45 (E (B++45::W)).size with⟨_,I⟩|⟨i,Y,I,f,g⟩
  · exact absurd a (I B.length (by rw[aF];omega))
  rw[I];rw[aF]at Y g;have d:i<B.length\/i=B.length\/B.length<i:=M0;rcases d with c|c|c
  · exact absurd a (g B.length c M0)
  · rw[c]
  exfalso;rw[byte_at _ i Y]at f;obtain⟨q,rfl⟩:∃ q,i=B.length+1+q:=⟨i-B.length-1,M0⟩;have j:q<W.length:=M0
  have e:(B++45::W)[B.length+1+q]=W[q]:=by
    rw[a2P M0];simp[show B.length+1+q-B.length=q+1 by omega]
  rw[e]at f;have:=h W[q] (be j);unfold Gg at this;omega
end

section
open Go.RowKit
theorem b2p{l:List Int}(hall:∀ c∈l,sg c=true):(lD l).map G=Hk l 128 0:=by
  unfold lD Hk;rw[jk,dP,lu];simp only[xA,dg]
  conv=>rhs;rw[<-List.map_id (l.filter λc=>decide (c<128))]
  refine jJ λc a=>?_;have Y:=a3J.mp a;have I:=(sG.mp (hall c Y.1)).1;have h3:=of_decide_eq_true Y.2;exact Xn M0
end

section
open Go.RowKit
theorem a8A{l:List Int}(hall:∀ c∈l,sg c=true)(e:l.length<=255):Fl (Fy l)=some l:=by
  have hm:=b2p hall;have d:=zN l;have hbe:=uR l;obtain⟨W,i,a,g,_⟩:=Iv l hall e l.length 128 ⟨lD l++hyp (lD l),0,(lD l).length,72,true⟩ 0 128 M0 M0 M0 Oc (by simp only;rw[uJ,d]) Oc (by simp only;omega);have he:Fy l=lD l++hyp (lD l)++W:=i;rw[he];simp only at a;rw[<-hm]at a;by_cases h0:(lD l).length=0
  · have U:lD l=[]:=az h0
    rw[U]at a ⊢;have f:([]:O)++hyp []++W=W:=rfl;rw[f];unfold Fl;rw[b0I g,if_neg M0];exact a
  have f:lD l++hyp (lD l)++W=lD l++45::W:=by unfold hyp;rw[if_neg h0,bB];rfl
  rw[f];unfold Fl;rw[b0J g,if_pos M0,if_neg M0,eV,List.take_left,if_pos,Iu]
  · rw[show(lD l++45::W).drop ((lD l).length+1)=W by rw[<-List.drop_drop,a1B];rfl]
    exact a
  · rw[aj];omega
  refine ch.mpr λy hy=>decide_eq_true ?_;have Y:G y∈(lD l).map G:=List.mem_map_of_mem hy;rw[hm]at Y;unfold Hk at Y;rw[jk,dP]at Y;simp at Y;exact Y.2
end
section
open Go.RowKit Go.Lib
def fix(c:Int):Int:=if Utf8.valid c=true then c else 65533
end

section
open Go.RowKit Go.Lib
theorem b0C(c:Int):Utf8.valid (fix c)=true:=by
 unfold fix
 split
 ·assumption
 exact Hg
end

section
open Go.RowKit Go.Lib
theorem a9e(c:Int):enc (fix c)=enc c:=by
 unfold fix
 split
 ·rfl
 next h =>
 rw[Cj,Uy];rw[sQ]at h;omega
end

section
open Go.RowKit Go.Lib
theorem b1v{c:Int}(h:Utf8.valid c=true):fix c=c:=by unfold fix;rw[if_pos h]
end

section
open Go.RowKit Go.Lib
theorem a6Y(c:Int)(t:O):signs (enc c++t)=fix c::signs t:=by
 have h:=LQ (b0C c) t;rw[a9e]at h;have a:=(oN c).1;cases he:enc c with
 |nil=>rw[he]at a;simp at a
 |cons x r =>
  rw[he]at h;rw[dE,p9]
  have d:d9 (x::(r++t))=(x::r).length:=by
   unfold d9;rw[<-List.cons_append,h];simp
  rw[d,<-List.cons_append,h,a1B]
end

section
open Go.RowKit Go.Lib
theorem a5D:∀ (l:List Int) (t:O),signs (fp l++t)=l.map fix++signs t
 | [],t=>rfl
 |c::l,t=>by rw[mH,bB,a6Y,a5D l t];rfl
end

section
open Go.RowKit Go.Lib
theorem b1O(l:List Int):fp (l.map fix)=fp l:=by
 induction l with
 |nil=>rfl
 |cons c l a=>rw[dh,mH,mH,a9e,a]
end

section
open Go.RowKit Go.Lib
theorem b2A{l:List Int}(h:∀ c∈l,Utf8.valid c=true):l.map fix=l:=by
 induction l with
 |nil=>rfl
 |cons c l e=>rw[dh,b1v (h c Oc),e (λd a=>h d (by simp[a]))]
end

section
open Go.RowKit Go.Lib
theorem b0R(l:List Int)(t:O):a5h (fp l++t)=fp l++a5h t:=by
 unfold a5h;rw[a5D,a4o,b1O]
end

section
open Go.RowKit Go.Lib
theorem a82(l:List Int):a5h (fp l)=fp l:=by
 have:=b0R l [];rw[aV]at this;rw[this,show a5h []=[]from rfl,aV]
end

section
open Go.RowKit Go.Lib
theorem a1T{x:UInt8}(r:O)(h:G x<0x80):signs (x::r)=G x::signs r:=by
 have a:d9 (x::r)=1:=by unfold d9;rw[QZ r h];rfl
 rw[p9,a,QZ r h];rfl
end

section
open Go.RowKit Go.Lib
theorem a2F{x:UInt8}(h:G x<0x80):enc (G x)=[x]:=by
 rw[ID (jL x).1 h];have:(G x).toNat=x.toNat:=by unfold G;simp
 rw[this,dN]
end

section
open Go.RowKit Go.Lib
theorem a2j{x:UInt8}(r:O)(h:G x<0x80):a5h (x::r)=x::a5h r:=by
 unfold a5h;rw[a1T r h,mH,a2F h];rfl
end

section
open Go.RowKit Go.Lib
theorem a1t:∀ (a:O),(∀x∈a,G x<0x80)->∀ t,a5h (a++t)=a++a5h t
 | [],_,_=>rfl
 |x::a,h,t=>by
  rw[dE,a2j _ (h x Oc),a1t a (λy hy=>h y (by simp[hy])) t];rfl
end

section
open Go.RowKit Go.Lib
theorem a1r(a:O)(h:∀ x∈a,G x<0x80):a5h a=a:=by
 have:=a1t a h [];rw[aV]at this;rw[this,show a5h []=[]from rfl,aV]
end
theorem b2J{x:Int}(h:¬ ((0x41<=x/\x<=0x5a)\/(0xc0<=x/\x<=0xd6)\/(0xd8<=x/\x<=0xde)\/(0x391<=x/\x<=0x3a1)\/(0x3a3<=x/\x<=0x3a9)\/(0x410<=x/\x<=0x42f)\/((0x100<=x/\x<=0x12e)/\x%2=0)\/x=0x130\/(0x400<=x/\x<=0x40f)\/x=0x2024\/x=0x3002\/x=0xff61\/x=0x2100\/x=0x2105\/(0x2460<=x/\x<=0x2468)\/(0xff01<=x/\x<=0xff5e)\/(0x1d7ce<=x/\x<=0x1d7ff))):oE x=[]:=by
 unfold oE
 iterate 11 rw[if_neg M0]
theorem a4h{x:Int}(h:¬ ((0x41<=x/\x<=0x5a)\/(0xc0<=x/\x<=0xd6)\/(0xd8<=x/\x<=0xde)\/(0x391<=x/\x<=0x3a1)\/(0x3a3<=x/\x<=0x3a9)\/(0x410<=x/\x<=0x42f)\/((0x100<=x/\x<=0x12e)/\x%2=0)\/x=0x130\/(0x400<=x/\x<=0x40f)\/x=0x2024\/x=0x3002\/x=0xff61\/x=0x2100\/x=0x2105\/(0x2460<=x/\x<=0x2468)\/(0xff01<=x/\x<=0xff5e)\/(0x1d7ce<=x/\x<=0x1d7ff)))
  (a:vlP x):gV x=(enc x,1):=by
 have c:FN x=false:=by
  unfold vlP at a;unfold FN;exact decide_eq_false M0
 exact Gt (b2J h) c ((b2a x).mpr a)
theorem a89(c:Int):∀ x∈oE c,gV x=(enc x,1)/\x≠c/\Utf8.valid x=true:=by
 intro x X;rcases DU c with⟨h,e⟩|⟨h,I,e⟩|⟨h,I,e⟩|⟨h,e⟩|⟨h,e⟩|⟨h,e⟩|⟨h,e⟩|⟨h,e⟩|⟨h,e⟩|⟨h,e⟩|⟨h,e⟩|⟨h,e⟩|⟨h,e⟩
 all_goals rw[e]at X
 all_goals clear e
 iterate 2
  ·simp only[dS]at X
   subst X;exact⟨a4h M0 (by unfold vlP;omega),M0,(sQ _).mpr M0⟩
 ·simp at X
 ·simp only[aK,cV,or_false]at X
  rcases X with rfl|rfl
  all_goals exact⟨a4h M0 (by unfold vlP;omega),M0,(sQ _).mpr M0⟩
 iterate 2
  ·simp only[dS]at X
   subst X;exact⟨a4h M0 (by unfold vlP;omega),M0,(sQ _).mpr M0⟩
 iterate 2
  ·simp only[aK,cV,or_false]at X
   rcases X with rfl|rfl|rfl
   all_goals exact⟨a4h M0 (by unfold vlP;omega),M0,(sQ _).mpr M0⟩
 iterate 4
  ·simp only[dS]at X
   subst X;exact⟨a4h M0 (by unfold vlP;omega),M0,(sQ _).mpr M0⟩
 simp at X
theorem b0W{c:Int}(h:Utf8.valid c=true):signs (enc c)=[c]:=by
 have:=a6Y c [];rw[aV,y9,b1v h]at this;exact this
theorem b2b{c:Int}(h:Yc c=true):Utf8.valid c=true:=by
 have:=(b2a c).mp h;unfold vlP at this;exact(sQ c).mpr M0
theorem a54(c:Int):((gV c)=(enc c,1)/\oE c=[]/\signs (enc c)=[c])\/(gV c=(fp (oE c),2)/\1<=(oE c).length/\(oE c).length<=3)\/(gV c=([],3))\/(gV c=([],0)):=by
 rcases LJ c with⟨b,h,_,rfl,e⟩|⟨h,I,e⟩|⟨h,I,a,e⟩|⟨h,I,a,e⟩
 ·refine .inr (.inl ⟨e,?_,Wv c⟩)
  cases d:oE c with
  |nil=>exact absurd d h
  |cons x r=>simp
 ·exact .inr (.inr (.inl e))
 ·exact .inl ⟨e,h,b0W (b2b a)⟩
 exact .inr (.inr (.inr e))
theorem a7o:∀ a b:O,mr (a++46::b)=mr a++mr b
 | [],b=>by rw[dg,BU,Oy];rfl
 |x::r,b=>by
  have c:=a7o r b;obtain⟨p,ps,h⟩:=up r;by_cases X:x=46
  ·subst X
   rw[dE,BU,BU,c];rfl
  rw[h]at c;rw[dE,mt X c,mt X h];rfl

theorem a7u:∀ (p:O) (c:List O),(∀q∈p::c,46∉q)->mr (iw (p::c))=p::c
 |p,[],h=>by
  unfold iw;rw[Lib.join_one];have hp:=h p Oc;clear h
  induction p with
  |nil=>rfl
  |cons x r a =>
   have X:x≠46:=λh=>hp (by simp[h]);exact mt X (a (λh=>hp (by simp[h])))
 |p,q::e,h=>by
  have a:=a7u q e (λz d=>h z (by simp only[aK]at d ⊢;exact .inr d))
  have hp:mr p=[p]:=by
   have hp:=h p Oc;clear h a
   induction p with
   |nil=>rfl
   |cons x r a =>
    have X:x≠46:=λh=>hp (by simp[h]);exact mt X (a (λh=>hp (by simp[h])))
  rw[vM,a7o,hp,a];rfl

def a5Y:List Int->List (List Int)
 | []=>[[]]
 |c::r=>if c=46 then []::a5Y r else match a5Y r with | []=>[[c]]|p::ps=>(c::p)::ps

theorem a6d:∀ t,∃p a,a5Y t=p::a
 | []=>⟨_,_,rfl⟩
 |x::r=>by
  unfold a5Y
  split
  ·exact⟨_,_,rfl⟩
  obtain⟨p,a,h⟩:=a6d r;rw[h];exact⟨_,_,rfl⟩

theorem a6h{x:Int}{r p:List Int}{a:List (List Int)}(h:x≠46)(c:a5Y r=p::a):a5Y (x::r)=(x::p)::a:=by
 rw[a5Y,if_neg h,c]

theorem a7p:∀ (e t p:O) (a:List O),46∉e->mr t=p::a->mr (e++t)=(e++p)::a
 | [],t,p,a,_,h=>h
 |x::e,t,p,a,he,h=>by
  have c:=a7p e t p a (λI=>he (by simp[I])) h;exact mt (λI=>he (by simp[I])) c

theorem b0A{c:Int}(d:Utf8.valid c=true)(h:c≠46):(46:UInt8)∉enc c:=by
 have hr:=(sQ c).mp d;intro hm
 have key:∀ n:Int,0<=n->n<256->n≠46->(46:UInt8)≠UInt8.ofNat n.toNat:=by
  intro n h0 Y I e;have:=congrArg G e;rw[Xn M0]at this;have e46:G 46=46:=P8;omega
 by_cases Y:c<0x80
 ·rw[ID M0 Y]at hm
  simp only[dS]at hm;exact key c M0 M0 h hm
 by_cases I:c<0x800
 ·rw[IE M0 I]at hm
  simp only[aK,cV,or_false]at hm;rcases hm with hm|hm
  all_goals exact key _ M0 M0 M0 hm
 by_cases a:c<0x10000
 ·rw[yn M0 a M0]at hm
  simp only[aK,cV,or_false]at hm;rcases hm with hm|hm|hm
  all_goals exact key _ M0 M0 M0 hm
 rw[IF M0 M0]at hm;simp only[aK,cV,or_false]at hm;rcases hm with hm|hm|hm|hm
 all_goals exact key _ M0 M0 M0 hm

theorem a6I:∀ l:List Int,(∀c∈l,Utf8.valid c=true)->mr (fp l)=(a5Y l).map fp
 | [],_=>rfl
 |c::r,h=>by
  have d:=a6I r (λx X=>h x (by simp[X]));obtain⟨p,ps,hp⟩:=a6d r;rw[mH];by_cases a:c=46
  ·subst a
   have e:enc 46=[46]:=by decide +kernel
   rw[e,a4p,BU,d,a5Y,if_pos rfl];rfl
  rw[hp]at d;rw[a7p _ _ _ _ (b0A (h c Oc) a) d,a6h a hp];rfl

theorem a7q:∀ (l:List Int),∀p∈a5Y l,∀c∈p,c∈l/\c≠46
 | [],p,h,c,a=>by
  have:p=[]:=by simpa[a5Y]using h
  subst this;simp at a
 |x::r,p,h,c,a=>by
  have e:=a7q r;obtain⟨q,qs,d⟩:=a6d r;by_cases X:x=46
  ·subst X
   rw[a5Y,if_pos rfl]at h;rcases aK.mp h with rfl|h
   ·simp at a
   have:=e p h c a;exact⟨by simp[this.1],this.2⟩
  rw[a6h X d]at h;rcases aK.mp h with rfl|h
  ·rcases aK.mp a with rfl|a
   ·exact⟨Oc,X⟩
   have:=e q (by rw[d];simp) c a;exact⟨by simp[this.1],this.2⟩
  have:=e p (by rw[d];simp[h]) c a;exact⟨by simp[this.1],this.2⟩
def msF(c:Int):List Int:=if(gV c).2=2 then oE c else if(gV c).2=1 then [c]else []

theorem b3k(c:Int):(gV c).1=fp (msF c):=by
 unfold msF;rcases a54 c with⟨e,h0,Y⟩|⟨e,Y,I⟩|e|e
 all_goals rw[e]
 ·simp[join_one]
 ·simp
 ·simp[fp]
 simp[fp]

theorem b36(c:Int):∀ x∈msF c,gV x=(enc x,1)/\Utf8.valid x=true:=by
 intro x X;unfold msF at X;rcases a54 c with⟨e,h0,Y⟩|⟨e,Y,I⟩|e|e
 all_goals rw[e]at X
 ·simp at X
  subst X;refine⟨e,?_⟩;exact DK (enc x) x (by rw[Y];simp)
 ·simp at X
  have:=a89 c x X;exact⟨this.1,this.2.2⟩
 ·simp at X
 simp at X

def msL(l:List Int):List Int:=l.flatMap msF

theorem b3l(l:List Int):∀ x∈msL l,gV x=(enc x,1)/\Utf8.valid x=true:=by
 intro x X;obtain⟨c,_,a⟩:=S8.mp X;exact b36 c x a

theorem a6Z:∀ l:List Int,fq l=fp (msL l)
 | []=>rfl
 |c::r=>by
  have d:=a6Z r;have e:fq (c::r)=(gV c).1++fq r:=by simp[fq]
  have a:msL (c::r)=msF c++msL r:=by simp[msL]
  rw[e,a,a4o,d,b3k]

theorem a58:∀ {m:List Int},(∀x∈m,gV x=(enc x,1))->fq m=fp m/\m.all Tg=true
 | [],_=>⟨rfl,rfl⟩
 |c::r,h=>by
  obtain⟨Y,I⟩:=a58 (m:=r) (λx X=>h x (by simp[X]));have a:=h c Oc;have e:fq (c::r)=(gV c).1++fq r:=by simp[fq]
  rw[e,mH,Y,a];refine⟨rfl,?_⟩;simp only[a4I,I,nk];unfold Tg;rw[a];rfl
theorem b1h{c:Int}(d:Utf8.valid c=true)(h:¬ c<0x80):2<=(enc c).length/\q9 (enc c)=false:=by
 have hr:=(sQ c).mp d;by_cases I:c<0x800
 ·rw[IE M0 I]
  refine⟨Oc,?_⟩;unfold q9;simp only[a4I];rw[Xn M0,decide_eq_false M0];rfl
 by_cases a:c<0x10000
 ·rw[yn M0 a M0]
  refine⟨Oc,?_⟩;unfold q9;simp only[a4I];rw[Xn M0,decide_eq_false M0];rfl
 rw[IF M0 M0];refine⟨Oc,?_⟩;unfold q9;simp only[a4I];rw[Xn M0,decide_eq_false M0];rfl
theorem b2z(a b:O):q9 (a++b)=(q9 a&&q9 b):=by unfold q9;rw[Xe]
theorem b1U{c:Int}(h:Q8 c=true):gV c=(enc c,1)/\Utf8.valid c=true/\c≠46:=by
 have I:=of_decide_eq_true h;rcases a54 c with⟨e,h0,Y⟩|⟨e,_⟩|e|e
 ·exact⟨e,DK (enc c) c (by rw[Y];simp),I.2⟩
 iterate 3
  ·rw[e]at I;simp at I
theorem b2x{l:List Int}(h:qZ l=true):(∀c∈l,Q8 c=true)/\∃ c∈l,127<c:=by
 unfold qZ at h;rw[ct,ct]at h;refine⟨ch.mp h.1.2,?_⟩;obtain⟨c,a,d⟩:=m8.mp h.2;exact⟨c,a,of_decide_eq_true d⟩
theorem b18{c:Int}(h:Utf8.valid c=true):sg c=true:=by
 have:=(sQ c).mp h;exact sG.mpr M0
theorem a6S{c:Int}(h:gV c=(enc c,1)):¬ (65<=c/\c<=90):=by
 intro hc;have:oE c=[c+0x20]:=by unfold oE;rw[if_pos M0]
 have e:=VA (c:=c) (by rw[this];simp);rw[h]at e;have:=congrArg Prod.snd e;simp at this
theorem b0N{l:List Int}(d:∀ c∈l,Utf8.valid c=true)(h:q9 (fp l)=true):∀ c∈l,c<0x80:=by
 induction l with
 |nil=>simp
 |cons x r e =>
  rw[mH,b2z,ct]at h;intro c a;rcases aK.mp a with rfl|a
  ·by_cases Y:c<0x80
   ·exact Y
   have:=(b1h (d c Oc) Y).2;rw[this]at h;exact absurd h.1 Oc
  exact e (λx X=>d x (by simp[X])) h.2 c a
theorem a4A{l:List Int}(a:∀ c∈l,Utf8.valid c=true):signs (fp l)=l:=by
 have:=a5D l [];rw[aV,y9,aV,b2A a]at this;exact this
theorem b3a{l:List Int}(h:qZ l=true)(i:l.length<=255):encR l=(Fy l,true)/\(∀c∈l,sg c=true)/\1<=(Fy l).length:=by
 obtain⟨Y,c,g,hf⟩:=b2x h;have d:∀ c∈l,sg c=true:=λx X=>b18 (b1U (Y x X)).2.1;refine⟨?_,d,?_⟩
 ·unfold encR
  rw[if_neg];rintro(h|h)
  ·omega
  exact h (ch.mpr d)
 obtain⟨W,e,_,_,f⟩:=vg d i;rw[e,ae];by_cases hw:W.length=0
 ·exfalso
  have U:=f hw;have a:(lD l).length=(l.filter (λc=>decide (c<128))).length:=by unfold lD;rw[ay]
  rw[a]at U;have:=a6E.mp U c g;have:=of_decide_eq_true this;omega
 omega
def a94(p:O):Prop:=(∀y∈p,G y<0x80/\¬ (65<=G y/\G y<=90)/\y≠46)/\xJ p=some p
theorem b2F(t:O):Lib.hasPrefix (kE++t) kE=true:=by
 unfold Lib.hasPrefix;exact ej.mpr ⟨t,rfl⟩
theorem b1T{p:O}(h:∀ y∈p,G y<0x80):q9 p=true:=ch.mpr λy hy=>decide_eq_true (h y hy)
theorem b1X{q:List Int}(u:∀ c∈q,gV c=(enc c,1)/\Utf8.valid c=true/\c≠46)(n:Q7 (fp q)=true):a94 (iz (fp q)):=by
 have w:∀ c∈q,Utf8.valid c=true:=λc g=>(u c g).2.1;have o:=a4A w
 obtain⟨y,hy⟩:∃ y,xJ (fp q)=some y:=by
  unfold Q7 at n;exact a6t.mp n
 have C:iz (fp q)=y:=by unfold iz;rw[hy];rfl
 rw[C];cases j:q9 (fp q)
 ·
  have hp:Lib.hasPrefix (fp q) kE=false:=by
   cases hp:Lib.hasPrefix (fp q) kE
   ·rfl
   rw[b0t hp j]at hy;cases hy
  have d:qZ (signs (fp q))=true:=by
   cases d:qZ (signs (fp q))
   ·rw[b0x hp j d]at hy;cases hy
   rfl
  rw[b0y hp j d,o]at hy;rw[o]at d
  have hlen:q.length<=255/\encR q=(Fy q,true):=by
   unfold encR at hy ⊢
   split at hy
   ·simp at hy
   next h =>
   rw[if_neg h];exact⟨M0,rfl⟩
  rw[hlen.2]at hy;simp only[if_true]at hy;have p:y=kE++Fy q:=(bj hy).symm;obtain⟨_,v,_⟩:=b3a d hlen.1;obtain⟨W,e,x,_⟩:=vg v hlen.1
  have hbytes:∀ z∈y,G z<0x80/\¬ (65<=G z/\G z<=90)/\z≠46:=by
   intro z a;rw[p,e]at a;have f:G 46=46:=P8;rcases bO.mp a with a|a
   ·have:z=120\/z=110\/z=45:=by
     have:z∈([120,110,45,45]:O):=a;simp only[aK,cV,or_false]at this;rcases this with h|h|h|h <;>simp[h]
    rcases this with rfl|rfl|rfl <;>decide
   rcases bO.mp a with a|a
   ·rcases bO.mp a with a|a
    ·unfold lD at a
     obtain⟨c,g,rfl⟩:=dt.mp a;obtain⟨s,t⟩:=a3J.mp g;have hc3:=of_decide_eq_true t;have i:=u c s;have D:=(sQ c).mp i.2.1;have B:=a6S i.1;have m:G (UInt8.ofNat c.toNat)=c:=Xn M0;refine⟨M0,M0,λh=>?_⟩;rw[h,f]at m;exact i.2.2 m.symm
    unfold hyp at a
    split at a
    ·simp at a
    simp only[dS]at a;subst a;decide
   have:=x z a;unfold Gg at this;refine⟨M0,M0,λh=>?_⟩;rw[h,f]at this;omega
  refine⟨hbytes,?_⟩;have hlow:q9 y=true:=b1T λz a=>(hbytes z a).1;rw[p]at hlow ⊢;have r:(kE++Fy q).drop 4=Fy q:=rfl;rw[b0v (b2F _) hlow (by rw[r];exact a8A v hlen.1),d];rfl
 
 have hyp:y=fp q:=by
  cases hp:Lib.hasPrefix (fp q) kE
  ·rw[b0w hp j]at hy;exact(bj hy).symm
  cases r:Fl ((fp q).drop 4)with
  |none=>rw[b0u hp j r]at hy;cases hy
  |some l =>
   rw[b0v hp j r]at hy
   split at hy
   ·exact(bj hy).symm
   cases hy
 subst hyp;refine⟨?_,hy⟩;have k:=b0N w j;intro z a;obtain⟨c,g,a⟩:=S8.mp a;have i:=u c g;have D:=(sQ c).mp i.2.1;have B:=a6S i.1;rw[ID M0 (k c g)]at a;simp only[dS]at a;have m:G z=c:=by rw[a];exact Xn (by have:=k c g;omega)
 have f:G 46=46:=P8;refine⟨by have:=k c g;omega,M0,λh=>?_⟩;rw[h,f]at m;exact i.2.2 m.symm
theorem a5W{t:O}(h:∀ y∈t,G y<0x80):t=fp (t.map G):=by
 induction t with
 |nil=>rfl
 |cons x r a =>
  rw[dh,mH,a2F (h x Oc),<-a (λy hy=>h y (by simp[hy]))];rfl
theorem a9V{c:Int}(h0:0<=c)(Y:c<0x80)(I:¬ (65<=c/\c<=90)):gV c=(enc c,1):=a4h M0 (by unfold vlP;omega)
theorem a7z{b t:O}(h:nw b=some t):(∀y∈t,G y<0x80/\¬ (65<=G y/\G y<=90))/\nw t=some t:=by
 rw[KI]at h;unfold Zo at h
 split at h
 ·split at h
  ·next f =>
   have i:=(bj h).symm;rw[a6Z]at i f;have e:=b3l (signs b);generalize msL (signs b)=m at *;have v:∀ c∈m,Utf8.valid c=true:=λc d=>(e c d).2;rw[a6I m v]at i f
   have a:∀ o∈((a5Y m).map fp).map iz,a94 o:=by
    intro o u;obtain⟨p,hp,rfl⟩:=dt.mp u;obtain⟨q,g,rfl⟩:=dt.mp hp;refine b1X (λc d=>?_) (ch.mp f _ hp);have hm:=a7q m q g c d;exact⟨(e c hm.1).1,(e c hm.1).2,hm.2⟩
   obtain⟨o,os,l⟩:∃ o os,((a5Y m).map fp).map iz=o::os:=by
    obtain⟨p,j,hp⟩:=a6d m;rw[hp];exact⟨_,_,rfl⟩
   rw[l]at i a;have hcut:=a7u o os (λq g I=>((a q g).1 46 I).2.2 rfl);rw[<-i]at hcut
   have hbytes:∀ y∈t,G y<0x80/\¬ (65<=G y/\G y<=90):=by
    have key:∀ (p:O) (j:List O),(∀q∈p::j,a94 q)->∀ y∈iw (p::j),G y<0x80/\¬ (65<=G y/\G y<=90):=by
     intro p j
     induction j generalizing p with
     |nil =>
      intro k y hy;unfold iw at hy;rw[Lib.join_one]at hy;have:=(k p Oc).1 y hy;exact⟨this.1,this.2.1⟩
     |cons q qs w =>
      intro k y hy;rw[vM]at hy;rcases bO.mp hy with hy|hy
      ·have:=(k p Oc).1 y hy
       exact⟨this.1,this.2.1⟩
      rcases aK.mp hy with rfl|hy
      ·decide
      exact w q (λz s=>k z (by simp only[aK]at s ⊢;exact .inr s)) y hy
    rw[i];exact key o os a
   refine⟨hbytes,?_⟩;have r:=a5W (λy hy=>(hbytes y hy).1)
   have hmap:∀ c∈t.map G,gV c=(enc c,1)/\Utf8.valid c=true:=by
    intro c d;obtain⟨y,hy,rfl⟩:=dt.mp d;have Y:=hbytes y hy;have h0:=jL y;exact⟨a9V h0.1 Y.1 Y.2,(sQ _).mpr M0⟩
   have n:signs t=t.map G:=by
    conv=>lhs;rw[r]
    exact a4A (λc d=>(hmap c d).2)
   obtain⟨t1,t2⟩:=a58 (m:=t.map G) (λc d=>(hmap c d).1);rw[<-r]at t1;rw[KI,n];unfold Zo;rw[if_pos t2,t1,hcut]
   have hout:(o::os).map iz=o::os:=by
    conv=>rhs;rw[<-List.map_id (o::os)]
    refine jJ λq g=>?_;unfold iz;rw[(a q g).2];rfl
   rw[if_pos,hout,<-i];exact ch.mpr λq g=>by unfold Q7;rw[(a q g).2];rfl
  cases h
 cases h
theorem a7I(k:Fin 16):fg (G (vE k.val)) 16=k.val:=by revert k;decide +kernel

theorem a6J(b n:Int)(c:UInt8)(t:O):qK b n (c::t)=if fg (G c) b<0 then none else qK b (n*b+fg (G c) b) t:=rfl

theorem a7y(b:Int):∀ (l m:O) (n:Int),qK b n (l++m)=(qK b n l).bind λv=>qK b v m
 | [],m,n=>rfl
 |c::t,m,n=>by
  rw[dE,a6J,a6J]
  split
  ·rfl
  rw[a7y b t m]

theorem b1x(u:Nat):qK 16 0 (gg u)=some (u:Int):=by
 induction u using Nat.strongRecOn with
 |ind u a =>
  by_cases h:u<16
  ·rw[sk h]
   have:=a7I ⟨u,h⟩;dsimp only at this;unfold qK;rw[this,if_neg M0];unfold qK;simp
  rw[IQ h,a7y,a (u/16) M0];have:=a7I ⟨u%16,M0⟩;dsimp only at this;show qK 16 _ _=_;unfold qK;rw[this,if_neg M0];unfold qK
  congr 1
  omega

theorem a9H(k:Fin 16):vE k.val≠58/\vE k.val≠46:=by revert k;decide +kernel

theorem a8T(u:Nat):58∉gg u/\46∉gg u:=by
 induction u using Nat.strongRecOn with
 |ind u a =>
  by_cases h:u<16
  ·rw[sk h]
   have:=a9H ⟨u,h⟩;dsimp only at this;exact⟨by simpa using this.1.symm,by simpa using this.2.symm⟩
  rw[IQ h];have Y:=a (u/16) M0;have:=a9H ⟨u%16,M0⟩;dsimp only at this;exact⟨by simpa using⟨Y.1,this.1.symm⟩,by simpa using⟨Y.2,this.2.symm⟩⟩

theorem a6U{u:Nat}(h:u<65536):jE (gg u)=some (u:Int):=by
 unfold jE;rw[if_neg]
 ·exact b1x u
 rintro(e|e)
 ·exact a8S u e
 have:=qT 3 u M0;omega

def a3T:List O->O
 | []=>[]
 | [p]=>p
 |p::q::r=>p++58::a3T (q::r)

theorem a9d:∀ a:List O,a ≠ []->(∀p∈a,58∉p)->ep 58 (a3T a)=a
 | [],h,_=>absurd rfl h
 | [p],_,h=>oL (h p Oc)
 |p::q::r,_,h=>by
  rw[a3T,uY,oL (h p Oc),a9d (q::r) Oc (λx X=>h x (cN _ X))];rfl

theorem a70(nums:Bool):∀ l:List Int,(∀n∈l,0<=n/\n<65536)->rowP nums (l.map λn=>gg n.toNat)=some l
 | [],_=>rfl
 | [n],h=>by
  have d:=h n Oc;show endP nums (gg n.toNat)=_;unfold endP;rw[if_neg (λa=>(a8T n.toNat).2 a.2),a6U M0];simp;omega
 |n::m::r,h=>by
  have d:=h n Oc;have c:=a70 nums (m::r) (λx X=>h x (cN _ X));simp only[dh]at c ⊢;unfold rowP;rw[a6U M0,c];simp;omega

theorem a6w(nums:Bool)(l:List Int)(h:∀ n∈l,0<=n/\n<65536)(h8:l.length<=8):rm nums (a3T (l.map λn=>gg n.toNat))=some l:=by
 unfold rm;cases l with
 |nil=>rfl
 |cons n r =>
  rw[if_neg,a9d _ Oc (by
   intro p hp;obtain⟨m,_,rfl⟩:=dt.mp hp;exact(a8T _).1),a70 nums _ h]
  ·dsimp only
   rw[if_neg M0]
  intro e;cases r with
  |nil=>exact a8S _ e
  |cons m r=>simp[a3T]at e

theorem b2I:∀ g:List O,(∀p∈g,p ≠ []/\58∉p)->xE (a3T g)=none:=by
 have hp:∀ p:O,58∉p->xE p=none:=by
  intro p
  induction p with
  |nil=>intro _;rfl
  |cons x r d =>
   intro h;have X:x≠58:=λe=>h (by simp[e]);cases r with
   |nil=>rfl
   |cons y r=>unfold xE;rw[if_neg (λa=>X a.1),d (λa=>h (cN _ a))];rfl
 have j:∀ (p t:O),58∉p->p ≠ []->(t=[]\/∃ y r,t=58::y::r/\y≠58/\xE (y::r)=none)->xE (p++t)=none:=by
  intro p t
  induction p with
  |nil=>intro _ h;exact absurd rfl h
  |cons x r d =>
   intro h _ k;rcases k with rfl|⟨y,l,rfl,hy,i⟩
   ·rw[aV];exact hp _ h
   have X:x≠58:=λe=>h (by simp[e]);cases r with
   |nil =>
    rw[dE,dg];unfold xE;rw[if_neg (λa=>X a.1)];unfold xE;rw[if_neg (λa=>hy a.2),i];rfl
   |cons z r =>
    have:=d (λa=>h (cN _ a)) Oc (.inr ⟨y,l,rfl,hy,i⟩);rw[dE,dE]at *;unfold xE;rw[if_neg (λa=>X a.1),this];rfl
 intro g
 induction g with
 |nil=>intro _;rfl
 |cons p r d =>
  intro h;cases r with
  |nil=>exact hp _ (h p Oc).2
  |cons q r =>
   have f:=d (λx X=>h x (cN _ X));have c:=h q Oc
   obtain⟨y,t,e⟩:∃ y t,a3T (q::r)=y::t/\y≠58:=by
    cases q with
    |nil=>exact absurd rfl c.1
    |cons y q =>
     have hy:y≠58:=λe=>c.2 (by simp[e]);cases r with
     |nil=>exact⟨y,q,rfl,hy⟩
     |cons m n=>exact⟨y,q++58::a3T (m::n),by simp[a3T],hy⟩
   have Y:=h p Oc;rw[a3T,e.1];rw[e.1]at f;exact j p _ Y.2 Y.1 (.inr ⟨y,t,rfl,e.2,f⟩)

theorem b09:∀ g:List O,(∀p∈g,p ≠ []/\58∉p)->∀ t,xE (a3T g++58::58::t)=some (a3T g,t):=by
 have hp:∀ (p t a b:O),58∉p->(∃y r,t=y::r)->xE t=some (a,b)->(p=[]\/∃ y r,p=y::r)->xE (p++t)=some (p++a,b):=by
  intro p t a b
  induction p with
  |nil=>intro _ _ h _;exact h
  |cons x r i =>
   intro h l k _;have X:x≠58:=λe=>h (by simp[e]);have:=i (λa=>h (by simp[a])) l k (by cases r with|nil=>exact .inl rfl|cons y r=>exact .inr ⟨y,r,rfl⟩);cases r with
   |nil =>
    obtain⟨y,j,rfl⟩:=l;rw[dE,dg];unfold xE;rw[if_neg (λa=>X a.1),k];rfl
   |cons z r =>
    rw[dE,dE]at *;unfold xE;rw[if_neg (λa=>X a.1),this];rfl
 intro g
 induction g with
 |nil=>intro _ t;show xE (58::58::t)=_;unfold xE;rw[if_pos ⟨rfl,rfl⟩];rfl
 |cons p r i =>
  intro h t;have Y:=h p Oc;have c:p=[]\/∃ y r,p=y::r:=by cases p with|nil=>exact .inl rfl|cons y r=>exact .inr ⟨y,r,rfl⟩
  cases r with
  |nil =>
   have:=hp p (58::58::t) [] t Y.2 ⟨_,_,rfl⟩ (by unfold xE;rw[if_pos ⟨rfl,rfl⟩]) c;rw[aV]at this;exact this
  |cons q r =>
   have f:=i (λx X=>h x (cN _ X)) t;have d:=h q Oc
   obtain⟨y,j,e⟩:∃ y j,a3T (q::r)=y::j/\y≠58:=by
    cases q with
    |nil=>exact absurd rfl d.1
    |cons y q =>
     have hy:y≠58:=λe=>d.2 (by simp[e]);cases r with
     |nil=>exact⟨y,q,rfl,hy⟩
     |cons n o=>exact⟨y,q++58::a3T (n::o),by simp[a3T],hy⟩
   have m:xE (58::(a3T (q::r)++58::58::t))=some (58::a3T (q::r),t):=by
    rw[e.1]at f ⊢;rw[dE]at *;unfold xE;rw[if_neg (λa=>e.2 a.2),f];rfl
   have:=hp p (58::(a3T (q::r)++58::58::t)) (58::a3T (q::r)) t Y.2 ⟨_,_,rfl⟩ m c;rw[a3T,bB];exact this

def a77:Nat->Nat->List Nat
 |0,_=>[]
 |1,lo=>[lo]
 |n+2,lo=>lo::100::a77 (n+1) (lo+1)

theorem b17:∀ z∈a25,(if(sA z).1<(sA z).2 then iR (sA z).1 (sA z).2 9 0=a77 (sA z).1 0++101::a77 (8-(sA z).2) (sA z).2/\(∀i∈List.range 8,(sA z).1<=i->i<(sA z).2->z.getD i false=true)else iR (sA z).1 (sA z).2 9 0=a77 8 0):=by decide +kernel

theorem a51(a:List Int):∀ (n lo:Nat),lo+n<=8->lo+n<=a.length->iU a (a77 n lo)=a3T (((a.drop lo).take n).map λx=>gg x.toNat)
 |0,lo,_,_=>rfl
 |1,lo,h,I=>by
  rw[aC M0];show rj a lo++[]=gg _;unfold rj;rw[if_neg M0,if_neg M0,aV,jj,aG (show lo<a.length by omega)];rfl
 |n+2,lo,h,I=>by
  have c:=a51 a (n+1) (lo+1) M0 M0;rw[aC (show lo+1<a.length by omega)]at c;rw[aC (show lo<a.length by omega),aC (show lo+1<a.length by omega)];simp only[dM,dh]at c ⊢;rw[a3T,<-c];show rj a lo++(rj a 100++iU a (a77 (n+1) (lo+1)))=_;have d:rj a 100=[58]:=by unfold rj;rw[if_pos rfl]
  have e:rj a lo=gg (a[lo]' M0).toNat:=by
   unfold rj;rw[if_neg M0,if_neg M0,jj,aG (show lo<a.length by omega)];rfl
  rw[d,e];rfl

theorem b11(a:List Int)(j:a.length=8)(k:∀ n∈a,0<=n/\n<65536):pK (uc a)=some a:=by
 have c:=b17 (rJ a) (vU _ (by rw[uG,j]));have d:=xa (rJ a) (vU _ (by rw[uG,j]))
 have f:∀ (l:List Int) (p:O),p∈l.map (λx=>gg x.toNat)->p ≠ []/\58∉p:=by
  intro l p hp;obtain⟨m,_,rfl⟩:=dt.mp hp;exact⟨a8S _,(a8T _).1⟩
 unfold uc;obtain⟨b,U⟩:=V ((sA (rJ a)).1);obtain⟨e,he⟩:=V ((sA (rJ a)).2);rw[<-U,<-he]at c d ⊢
 split at c
 ·next hbe =>
  obtain⟨c,r⟩:=c;have he8:e<=8:=d.2.2.1;rw[c]
  have g:iU a (a77 b 0++101::a77 (8-e) e)=a3T ((a.take b).map λx=>gg x.toNat)++58::58::a3T ((a.drop e).map λx=>gg x.toNat):=by
   have Y:=a51 a b 0 M0 M0;have I:=a51 a (8-e) e M0 M0;rw[dP]at Y;rw[aP (by rw[aj];omega)]at I;unfold iU at *;rw[dL,cM,Y,I];rfl
  rw[g];unfold pK;rw[b09 _ (f _)];dsimp only;rw[a6w false _ (λn q=>k n (Bj q)) (by rw[aD];omega),a6w true _ (λn q=>k n (c4o q)) (by rw[aj];omega)];dsimp only;rw[if_neg (by rw[aD,aj];omega)]
  congr 1
  rw[aD,aj]
  apply List.ext_getElem
  ·simp;omega
  intro i Y I;rw[a8o]
  split
  ·next hi =>
   rw[a8o]
   split
   ·simp
   next o =>
   rw[c0L];simp at hi o;have:=r i (by simp;omega) M0 M0;unfold rJ at this;rw[jj,eW,aG (show i<a.length by omega)]at this;exact(of_decide_eq_true this).symm
  next hi =>
  rw[M7]
  congr 1
  simp at hi ⊢;omega
 rw[c];have Y:=a51 a 8 0 M0 M0;rw[dP,aP M0]at Y;rw[Y];unfold pK;rw[b2I _ (f _)];dsimp only;rw[a6w true _ k M0];dsimp only;rw[if_pos j]
theorem b1f{t:O}(a:∀ p∈mr t,a94 p):nw t=some t:=by
 have hbytes:∀ y∈t,G y<0x80/\¬ (65<=G y/\G y<=90):=by
  have key:∀ (p:O) (d:List O),(∀q∈p::d,a94 q)->∀ y∈iw (p::d),G y<0x80/\¬ (65<=G y/\G y<=90):=by
   intro p d
   induction d generalizing p with
   |nil =>
    intro a y hy;unfold iw at hy;rw[Lib.join_one]at hy;have:=(a p Oc).1 y hy;exact⟨this.1,this.2.1⟩
   |cons q qs k =>
    intro a y hy;rw[vM]at hy;rcases bO.mp hy with hy|hy
    ·have:=(a p Oc).1 y hy
     exact⟨this.1,this.2.1⟩
    rcases aK.mp hy with rfl|hy
    ·decide
    exact k q (λz j=>a z (by simp only[aK]at j ⊢;exact .inr j)) y hy
  obtain⟨p,d,hp⟩:=up t;have f:=vP t;rw[hp]at a f;rw[<-f];exact key p d a
 have f:=a5W (λy hy=>(hbytes y hy).1)
 have hmap:∀ c∈t.map G,gV c=(enc c,1)/\Utf8.valid c=true:=by
  intro c e;obtain⟨y,hy,rfl⟩:=dt.mp e;have Y:=hbytes y hy;have h0:=jL y;exact⟨a9V h0.1 Y.1 Y.2,(sQ _).mpr M0⟩
 have i:signs t=t.map G:=by
  conv=>lhs;rw[f]
  exact a4A (λc e=>(hmap c e).2)
 obtain⟨t1,t2⟩:=a58 (m:=t.map G) (λc e=>(hmap c e).1);rw[<-f]at t1;rw[KI,i];unfold Zo;rw[if_pos t2,t1]
 have hout:(mr t).map iz=mr t:=by
  conv=>rhs;rw[<-List.map_id (mr t)]
  refine jJ λq g=>?_;unfold iz;rw[(a q g).2];rfl
 rw[if_pos,hout,vP];exact ch.mpr λq g=>by unfold Q7;rw[(a q g).2];rfl

def d3F(u:Nat):O:=if u<10 then [UInt8.ofNat (48+u)]else if u<100 then [UInt8.ofNat (48+u/10),UInt8.ofNat (48+u%10)]else [UInt8.ofNat (48+u/100),UInt8.ofNat (48+u/10%10),UInt8.ofNat (48+u%10)]

theorem b28{u:Nat}(h:u<256):Lib.decDigits u=d3F u:=by
 unfold d3F;by_cases Y:u<10
 ·rw[if_pos Y,Lib.decDigits_one Y]
 rw[if_neg Y];by_cases I:u<100
 ·rw[if_pos I,Lib.decDigits_two Y I]
 rw[if_neg I,Lib.decDigits,dif_neg Y,Lib.decDigits_two M0 M0,c0M];rfl

theorem b1a:∀ k:Fin 256,p5 4294967296 (d3F k.val)=some (k.val:Int)/\d3F k.val ≠ []/\(d3F k.val).length<=3/\(d3F k.val).all (λy=>decide (48<=G y/\G y<=57))=true:=by decide +kernel

theorem a3M{u:Nat}(h:u<256):p5 4294967296 (Lib.decDigits u)=some (u:Int)/\Lib.decDigits u ≠ []/\(Lib.decDigits u).length<=3/\∀ y∈Lib.decDigits u,48<=G y/\G y<=57:=by
 rw[b28 h];obtain⟨a,b,c,d⟩:=b1a ⟨u,h⟩;exact⟨a,b,c,λy hy=>of_decide_eq_true (ch.mp d y hy)⟩

theorem a4g{u:Nat}(h:u<256):(46:UInt8)∉Lib.decDigits u:=λhm=>by
 have:=(a3M h).2.2.2 _ hm;revert this;decide

theorem b1b{u:Nat}(h:u<256):a94 (Lib.decDigits u):=by
 obtain⟨_,I,h3,a⟩:=a3M h;refine⟨λy hy=>?_,b0w ?_ (b1T λy hy=>by have:=a y hy;omega)⟩
 ·have:=a y hy
  exact⟨M0,M0,λe=>a4g h (e▸hy)⟩
 unfold Lib.hasPrefix kE
 match d:Lib.decDigits u with
 | []=>rfl
 |y::r =>
  have:=a y (by rw[d];simp);have c:¬ (120:UInt8)=y:=λe=>by rw[<-e]at this;revert this;decide
  simp[List.isPrefixOf,c]

theorem a7G{n:Nat}(hn:n<4294967296):ep 46 (tj n)=[Lib.decDigits (n/16777216),Lib.decDigits (n/65536%256),Lib.decDigits (n/256%256),Lib.decDigits (n%256)]:=by
 unfold tj;simp only[bB,dE,dg];rw[uY,uY,uY,oL (a4g M0),oL (a4g M0),oL (a4g M0),oL (a4g M0)];rfl

theorem a6k{n:Nat}(a:n<4294967296):eQ (tj n)=[Lib.decDigits (n/16777216),Lib.decDigits (n/65536%256),Lib.decDigits (n/256%256),Lib.decDigits (n%256)]:=by
 unfold eQ;rw[a7G a,if_neg];rintro⟨_,h⟩;simp only[b84,a6B,ly]at h;exact(a3M (u:=n%256) M0).2.1 h

theorem b0F{n:Nat}(a:n<4294967296):yo (tj n)=true:=by
 unfold yo
 have h:(eQ (tj n)).getLast (lQ _)=Lib.decDigits (n%256):=by
  simp only[a6k a];rfl
 rw[h];unfold Jk;rw[(a3M (u:=n%256) M0).1];rfl

theorem b0E{n:Nat}(a:n<4294967296):nZ (tj n)=some (n:Int):=by
 unfold nZ fpF;rw[a6k a,if_neg Oc];unfold sj;rw[(a3M (u:=n/16777216) M0).1];dsimp only;rw[if_neg M0];unfold sj;rw[(a3M (u:=n/65536%256) M0).1];dsimp only;rw[if_neg M0];unfold sj;rw[(a3M (u:=n/256%256) M0).1];dsimp only;rw[if_neg M0];unfold sj;rw[(a3M (u:=n%256) M0).1];dsimp only;simp only[room];rw[if_neg M0]
 congr 1
 omega

theorem a6i{n:Nat}(hn:n<4294967296):∀ y∈tj n,G y=46\/(48<=G y/\G y<=57):=by
 intro y hy;unfold tj at hy;have e:G 46=46:=P8;simp only[bO,dS]at hy;rcases hy with(((((h|rfl)|h)|rfl)|h)|rfl)|h
 ·exact .inr ((a3M M0).2.2.2 y h)
 ·exact .inl e
 ·exact .inr ((a3M M0).2.2.2 y h)
 ·exact .inl e
 ·exact .inr ((a3M M0).2.2.2 y h)
 ·exact .inl e
 exact .inr ((a3M M0).2.2.2 y h)

theorem a9k(n:Nat):tj n ≠ []:=by
 unfold tj;simp

theorem b1w{n:Nat}(a:n<4294967296):nw (tj n)=some (tj n):=by
 refine b1f λp hp=>?_;rw[<-BT,a7G a]at hp;simp only[aK,cV,or_false]at hp;rcases hp with rfl|rfl|rfl|rfl <;>exact b1b M0

theorem a67:∀ {l:O},(∀y∈l,G y≠37)->nJ l=l
 | [],_=>rfl
 | [c],_=>rfl
 | [c,x],_=>rfl
 |c::x::y::t,h=>by
  rw[nJ,if_neg (λa=>h c Oc a.1),a67 (λz d=>h z (by simp only[aK]at d ⊢;exact .inr d))]

theorem in0(c:Int):k6 0 c=jU c:=by
 unfold k6;rw[if_neg M0];have:pJ 0=[]:=by unfold pJ;simp
 rw[this];unfold iO;simp

theorem b1Y:∀ k:Fin 256,(xq 0 (UInt8.ofNat k.val)).all (λy=>decide (31<G y/\G y<=126)&&(np (G (UInt8.ofNat k.val)) || !np (G y)))=true:=by decide +kernel

theorem b3n{l:O}{y:UInt8}(h:y∈dD 0 l):(31<G y/\G y<=126)/\∃ x∈l,np (G x)=true\/np (G y)=false:=by
 obtain⟨x,X,hy⟩:=S8.mp h;have a:=b1Y ⟨x.toNat,x.toNat_lt⟩;simp only[dN]at a;have:=ch.mp a y hy;rw[ct,kj]at this;refine⟨of_decide_eq_true this.1,x,X,?_⟩;rcases this.2 with h|h
 ·exact .inl h
 exact .inr (by simpa using h)

theorem b2W{l:O}(h:l ≠ []):dD 0 l ≠ []:=by
 cases l with
 |nil=>exact absurd rfl h
 |cons x r =>
  have e:dD 0 (x::r)=xq 0 x++dD 0 r:=by unfold dD;simp
  rw[e];unfold xq
  split <;>simp

theorem a8b(q:O)(x:UInt8):Lib.hasSuffix (q++[x]) [93]=decide (x=93):=by
 unfold Lib.hasSuffix;rw[bX,a9b,decide_eq_true_eq];constructor
 ·rintro⟨t,h⟩
  have:=b03 h rfl;injection this.2 with Y
  exact Y.symm
 rintro rfl;exact⟨q,rfl⟩

theorem b00(q:O):Lib.trimSuffix (q++[93]) [93]=q:=by
 unfold Lib.trimSuffix;rw[a8b,if_pos Oc];simp

theorem b2q{a:List Int}(c:a.length=8)(d:∀ n∈a,0<=n/\n<65536)(sp:Bool):fm ([91]++uc a++[93]) sp=some {H0 with kind:=4,six:=a}:=by
 unfold fm;rw[if_pos r5];show Xu (uc a++[93])=_;unfold Xu;rw[a8b,if_pos Oc,b00,b11 a c d]

theorem a65{n:O}(h:∀ y∈n,np (G y)=false):n.head? ≠ some 91:=by
 intro e;cases n with
 |nil=>cases e
 |cons x r =>
  injection e with e
  have:=h x Oc;rw[e]at this;revert this;decide

theorem a55{c:Int}(h:Jr c=false):np c=false/\¬ (c<32\/c=37\/c=127):=by
 unfold Jr at h;rw[Bc]at h;exact⟨h.1,of_decide_eq_false h.2⟩

theorem a6H{c:Int}(h:np c=false):c≠32:=λe=>by rw[e]at h;revert h;decide

theorem b1e{c:Int}(h:c=46\/(48<=c/\c<=57)):Jr c=false:=by
 unfold Jr np;rw[Bc];exact⟨decide_eq_false M0,decide_eq_false M0⟩

theorem a62{α:Type}{f:α->Bool}{l:List α}(h:∀ y∈l,f y=false):¬ l.any f=true:=by
 rw[m8];rintro⟨x,X,e⟩;rw[h x X]at e;cases e

theorem b0O{n:O}{b:O}(a:nw b=some n)(c:n ≠ [])(U:∀ y∈n,Jr (G y)=false)(he:yo n=false):fm n true=some {H0 with kind:=2,name:=n}:=by
 unfold fm;rw[if_neg (a65 λy hy=>(a55 (U y hy)).1),if_pos rfl];unfold XX;rw[a67 (λy hy e=>(a55 (U y hy)).2 M0),(a7z a).2];dsimp only;rw[if_neg c,if_neg (a62 U),if_neg (by simp[he])]

theorem a8C{n:Nat}(h:n<4294967296):fm (tj n) true=some {H0 with kind:=3,four:=n}:=by
 have U:∀ y∈tj n,Jr (G y)=false:=λy hy=>b1e (a6i h y hy);unfold fm;rw[if_neg (a65 λy hy=>(a55 (U y hy)).1),if_pos rfl];unfold XX;rw[a67 (λy hy e=>(a55 (U y hy)).2 M0),b1w h];dsimp only;rw[if_neg (a9k n),if_neg (a62 U),if_pos (b0F h),b0E h]

theorem b2D{s:O}(h:s ≠ [])(U:∀ y∈s,np (G y)=false):fm s false=some {H0 with kind:=5,name:=dD 0 s}:=by
 unfold fm;rw[if_neg (a65 U),if_neg Oc,if_neg h,if_neg (a62 U)]

theorem b0P{s:O}(h:s ≠ [])(U:∀ y∈s,np (G y)=false)(a:∀ y∈s,31<G y/\G y<=126):fm s false=some {H0 with kind:=5,name:=s}:=by
 rw[b2D h U,Az];intro y hy;rw[in0];unfold jU;have:=a y hy;exact decide_eq_false M0

theorem a50(h:gF)(a:h.kind=4):lJ h=[91]++uc h.six++[93]:=by
 unfold lJ;rw[if_neg M0,if_neg M0,if_pos a]

theorem a3P{s:O}{sp:Bool}(e:fm s sp=some h):fm (lJ h) sp=some h/\(h.kind≠4->∀ y∈lJ h,32<G y/\G y<=126/\np (G y)=false)/\(lJ h=[] ↔ h.kind=1):=by
 cases hkind e with
 |six a k l f =>
  have c:lJ {H0 with kind:=4,six:=a}=[91]++uc a++[93]:=rfl;rw[c];exact⟨b2q k l sp,λh=>absurd rfl h,Oc⟩
 |name n es f g i U he =>
  subst es;have c:lJ {H0 with kind:=2,name:=n}=n:=rfl;rw[c];refine⟨b0O g i U he,λ_ y hy=>?_,by simp[i]⟩;have Y:=a55 (U y hy);have I:=(a7z g).1 y hy;have j:=a6H Y.1;exact⟨M0,M0,Y.1⟩
 |four n es f h =>
  subst es;have c:lJ {H0 with kind:=3,four:=(n:Int)}=tj n:=rfl;rw[c];refine⟨a8C h,λ_ y hy=>?_,by simp[a9k n]⟩;have:=a6i h y hy;exact⟨M0,M0,(a55 (b1e this)).1⟩
 |empty es f =>
  subst es;have c:lJ {H0 with kind:=1}=[]:=rfl;rw[c];refine⟨rfl,λ_ y hy=>(by cases hy),Oc⟩
 |a0z es f h U =>
  subst es;have c:lJ {H0 with kind:=5,name:=dD 0 s}=dD 0 s:=rfl;rw[c]
  have d:∀ y∈dD 0 s,(31<G y/\G y<=126)/\np (G y)=false:=λy hy=>by
   obtain⟨Y,x,X,I⟩:=b3n hy;refine⟨Y,?_⟩;rcases I with I|I
   ·rw[U x X]at I;cases I
   exact I
  refine⟨b0P (b2W h) (λy hy=>(d y hy).2) (λy hy=>(d y hy).1),λ_ y hy=>?_,by simp[b2W h]⟩;obtain⟨Y,I⟩:=d y hy;have j:=a6H I;exact⟨M0,Y.2,I⟩
theorem a7x:∀ {s:O},(58:UInt8)∉s->qH s=(s,[])
 | [],_=>rfl
 |c::t,h=>by rw[qH,if_neg (λe=>h (by simp[e])),a7x (s:=t) (λI=>h (by simp[I]))]

theorem b0z(a b:O)(h:(58:UInt8)∉a):qH (a++58::b)=(a,b):=by
 induction a with
 |nil=>rw[dg,qH,if_pos rfl]
 |cons x r c=>rw[dE,qH,if_neg (λe=>h (by simp[e])),c (λI=>h (by simp[I]))]

theorem b0q{a:O}(h:∀ y∈a,y≠58/\y≠91/\y≠93)(i:Bool)(t:O):Ow i (a++t)=(Ow i t).map λp=>(a++p.1,p.2):=by
 induction a with
 |nil=>simp
 |cons x r d =>
  obtain⟨Y,I,c⟩:=h x Oc;rw[dE,Ow,if_neg (λe=>Y e.1),if_neg I,if_neg c,d (λy hy=>h y (by simp[hy]))];rw[a1C];rfl

theorem b27{a:O}(h:∀ y∈a,y≠91/\y≠93)(t:O):Ow true (a++t)=(Ow true t).map λp=>(a++p.1,p.2):=by
 induction a with
 |nil=>simp
 |cons x r d =>
  obtain⟨I,c⟩:=h x Oc;rw[dE,Ow,if_neg (λe=>by cases e.2),if_neg I,if_neg c,d (λy hy=>h y (by simp[hy]))];rw[a1C];rfl

theorem b2r{a:O}(h:∀ y∈a,y≠91/\y≠93)(t:O):Ow false ([91]++a++[93]++t)=(Ow false t).map λp=>([91]++a++[93]++p.1,p.2):=by
 have e:[91]++a++[93]++t=91::(a++93::t):=Oc;rw[e,Ow,if_neg (λe=>by revert e;decide),if_pos rfl,b27 h,Ow,if_neg (λe=>by cases e.2),if_neg P8,if_pos rfl];rw[a1C,a1C]
 congr 1
 funext p
 simp

theorem a9G:∀ k:Fin 16,vE k.val≠91/\vE k.val≠93/\vE k.val≠64:=by decide +kernel

theorem b3c(u:Nat):∀ y∈gg u,y≠91/\y≠93/\y≠64:=by
 induction u using Nat.strongRecOn with
 |ind u a =>
  intro y hy;by_cases h:u<16
  ·rw[sk h]at hy
   obtain rfl:y=vE u:=by simpa using hy
   exact a9G ⟨u,h⟩
  rw[IQ h]at hy;rcases bO.mp hy with hy|hy
  ·exact a (u/16) M0 y hy
  obtain rfl:y=vE (u%16):=by simpa using hy
  exact a9G ⟨u%16,M0⟩

theorem a86(a:List Int):∀ y∈uc a,y≠91/\y≠93/\y≠64:=by
 intro y hy;unfold uc iU at hy;obtain⟨t,_,hy⟩:=S8.mp hy;unfold rj at hy
 split at hy
 ·obtain rfl:y=58:=by simpa using hy
  decide
 split at hy
 ·obtain rfl:y=58:=by simpa using hy
  decide
 exact b3c _ y hy

theorem b0n:np 58=true/\np 91=true/\np 93=true/\np 64=true:=P8

theorem b2V{y:UInt8}(h:np (G y)=false):y≠58/\y≠91/\y≠93/\y≠64:=by
 have e58:G 58=58:=P8;have e91:G 91=91:=P8;have e93:G 93=93:=P8;have e64:G 64=64:=P8;obtain⟨Y,I,h3,h4⟩:=b0n;refine⟨?_,?_,?_,?_⟩
 all_goals
  rintro rfl;simp_all

theorem b1y{s:O}{sp:Bool}(e:fm s sp=some h)(t:O):Ow false (lJ h++t)=(Ow false t).map λp=>(lJ h++p.1,p.2):=by
 by_cases a:h.kind=4
 ·rw[a50 h a]
  exact b2r (λy hy=>⟨(a86 _ y hy).1,(a86 _ y hy).2.1⟩) t
 exact b0q (λy hy=>by
  have:=b2V ((a3P e).2.1 a y hy).2.2;exact⟨this.1,this.2.1,this.2.2.1⟩) false t

theorem b2v{s:O}{sp:Bool}(e:fm s sp=some h):(64:UInt8)∉lJ h:=by
 intro hm;by_cases a:h.kind=4
 ·rw[a50 h a]at hm
  simp only[bO,dS]at hm;rcases hm with(hm|hm)|hm
  ·revert hm;decide
  ·exact(a86 _ _ hm).2.2 rfl
  revert hm;decide
 exact(b2V ((a3P e).2.1 a _ hm).2.2).2.2.2 rfl
theorem b2S:∀ k:Fin 10,fg (G (UInt8.ofNat (48+k.val))) 10=k.val:=by decide +kernel

theorem a8l:∀ (l m:O) (n:Int),kU n (l++m)=(kU n l).bind λv=>kU v m
 | [],m,n=>rfl
 |c::t,m,n=>by
  rw[dE,kU,kU]
  split
  ·rfl
  exact a8l t m _

theorem b3y(u:Nat)(h:u<=1024000000):kU 0 (Lib.decDigits u)=some (u:Int):=by
 induction u using Nat.strongRecOn with
 |ind u a =>
  by_cases Y:u<10
  ·rw[Lib.decDigits_one Y,kU]
   have:=b2S ⟨u,Y⟩;simp only at this;rw[this,if_neg M0,if_neg M0,kU]
   congr 1
   omega
  have e:Lib.decDigits u=Lib.decDigits (u/10)++[UInt8.ofNat (48+u%10)]:=by rw[Lib.decDigits,dif_neg Y]
  have:=b2S ⟨u%10,M0⟩;simp only at this;rw[e,a8l,a (u/10) M0 M0];show kU _ _=_;rw[kU,this,if_neg M0,if_neg M0,kU]
  congr 1
  omega

theorem b1c(u:Nat):Lib.decDigits u ≠ []:=by
 intro h;have Y:=Lib.decDigits_length u;have I:=Lib.nDigits_pos u;rw[h]at Y;simp at Y;omega

theorem b2j{aJ:O}{k:Int}(h0:0<=k)(Y:k<=65535)(a:GB aJ≠some k):Uc aJ (Lib.itoa k)=some (k,true):=by
 obtain⟨u,rfl⟩:∃ u:Nat,k=u:=⟨k.toNat,M0⟩;unfold Uc;rw[Lib.itoa_nonneg,if_neg (b1c u)];unfold dc;rw[if_neg (b1c u),b3y u M0];dsimp only;rw[if_neg M0,if_neg a]

theorem a2c(u:Nat):∀ y∈Lib.decDigits u,48<=G y/\G y<=57:=by
 induction u using Nat.strongRecOn with
 |ind u a =>
  have key:∀ k:Fin 10,48<=G (UInt8.ofNat (48+k.val))/\G (UInt8.ofNat (48+k.val))<=57:=by decide +kernel
  intro y hy;by_cases Y:u<10
  ·rw[Lib.decDigits_one Y]at hy
   rw[dS.mp hy];exact key ⟨u,Y⟩
  have e:Lib.decDigits u=Lib.decDigits (u/10)++[UInt8.ofNat (48+u%10)]:=by rw[Lib.decDigits,dif_neg Y]
  rw[e]at hy;rcases bO.mp hy with hy|hy
  ·exact a (u/10) M0 y hy
  rw[dS.mp hy];exact key ⟨u%10,M0⟩

theorem b0Q:∀ k:Fin 256,(xq 5 (UInt8.ofNat k.val)).all (λy=>!k6 5 (G y))=true:=by decide +kernel

theorem a66{l:O}:∀ y∈dD 5 l,k6 5 (G y)=false:=by
 intro y h;obtain⟨x,_,hy⟩:=S8.mp h;have a:=b0Q ⟨x.toNat,x.toNat_lt⟩;simp only[dN]at a;have:=ch.mp a y hy
 simpa using this

theorem a7X(l:O):dD 5 (dD 5 l)=dD 5 l:=Az a66

theorem b3m{l:O}:(58:UInt8)∉dD 5 l/\(64:UInt8)∉dD 5 l:=by
 refine⟨λh=>?_,λh=>?_⟩ <;>
 ·have:=a66 _ h
  revert this;decide

def a6y(a:qj):O:=if a.user=[]/\a.pass=[]then []else a.user++(if a.pass=[]then []else 58::a.pass)++[64]

def a3Q(a:qj):O:=if a.bz=true then 58::Lib.itoa a.port else []

def wtF(a:qj):O:=a6y a++lJ a.host++a3Q a

theorem b2E{aJ:O}{a:qj}(q:(a.bz=false/\a.port=0)\/(a.bz=true/\0<=a.port/\a.port<=65535/\GB aJ≠some a.port)):(64:UInt8)∉a3Q a:=by
 unfold a3Q;rcases q with q|q
 ·rw[if_neg (by simp[q.1])];simp
 rw[if_pos q.1];obtain⟨u,hu⟩:∃ u:Nat,a.port=u:=⟨a.port.toNat,M0⟩;rw[hu,Lib.itoa_nonneg];intro h;rcases aK.mp h with h|h
 ·revert h;decide
 have:=a2c u _ h;have e:G 64=64:=P8;omega

theorem a7S{s:O}{sp:Bool}(e:fm s sp=some h)(c:h.kind=1):s=[]:=by
 cases hkind e with
 |six a h8 ha d=>exact absurd c Oc
 |name n e d hd hn U he=>exact absurd c Oc
 |four n e d h=>exact absurd c Oc
 |empty e h=>exact h
 |a0z e d h U=>exact absurd c Oc

theorem b0T{aJ:O}{a:qj}(ok:AOk aJ a):tG aJ (lJ a.host++a3Q a) a.user a.pass=some a:=by
 obtain⟨⟨n,f,m⟩,_,_,q⟩:=ok;obtain⟨j,_,k⟩:=a3P f;unfold tG;rw[b1y f];rcases q with⟨q1,q2⟩|⟨q1,q2,q3,q4⟩
 ·have c:a3Q a=[]:=by unfold a3Q;rw[if_neg (by simp[q1])]
  rw[c];rw[show Ow false ([]:O)=none from rfl,b4Z];dsimp only;rw[aV];unfold Ct;rw[j];dsimp only;rw[show Uc aJ []=some (0,false)from rfl];dsimp only;rw[<-q1,<-q2]
 have c:a3Q a=58::Lib.itoa a.port:=by unfold a3Q;rw[if_pos q1]
 rw[c];have d:Ow false (58::Lib.itoa a.port)=some ([],Lib.itoa a.port):=by rw[Ow,if_pos ⟨rfl,rfl⟩]
 rw[d,Xg];dsimp only;rw[aV]
 have i:lJ a.host ≠ []:=by
  intro e;have l:=k.mp e;have g:=a7S f l;have:=(m g).2.2;rw[q1]at this;cases this
 rw[if_neg i];unfold Ct;rw[j];dsimp only;rw[b2j q2 q3 q4];dsimp only;rw[<-q1]

theorem a64{aJ:O}{a:qj}(ok:AOk aJ a):kr aJ (wtF a)=some a:=by
 have j:=b0T ok;obtain⟨⟨n,g,l⟩,⟨x,X⟩,⟨y,hy⟩,q⟩:=id ok
 have d:(64:UInt8)∉lJ a.host++a3Q a:=λhm=>by
  rcases bO.mp hm with hm|hm
  ·exact b2v g hm
  exact b2E q hm
 unfold kr;by_cases hw:a.user=[]/\a.pass=[]
 ·have e:wtF a=lJ a.host++a3Q a:=by unfold wtF a6y;rw[if_pos hw];simp
  rw[e,zM d];rw[hw.1,hw.2]at j;exact j
 have e:wtF a=(a.user++(if a.pass=[]then []else 58::a.pass))++64::(lJ a.host++a3Q a):=by unfold wtF a6y;rw[if_neg hw];simp
 rw[e,NO _ d];dsimp only
 have i:lJ a.host++a3Q a ≠ []:=by
  intro e;have f:=(lr.mp e).1;have o:=(a3P g).2.2.mp f;have c:=a7S g o;exact hw ⟨(l c).1,(l c).2.1⟩
 rw[if_neg i]
 have hcut:qH (a.user++(if a.pass=[]then []else 58::a.pass))=(a.user,a.pass):=by
  have k:(58:UInt8)∉a.user:=by rw[X];exact b3m.1
  by_cases hp:a.pass=[]
  ·rw[if_pos hp,aV,a7x k,hp]
  rw[if_neg hp,b0z _ _ k]
 rw[hcut];dsimp only;have f:dD 5 a.user=a.user:=by rw[X,a7X]
 have m:dD 5 a.pass=a.pass:=by rw[hy,a7X]
 rw[f,m];exact j
structure a61 (d:O):Prop where
 n:d ≠ []
 a:∀ x∈d,pG x=true
 z:mz d=d

theorem b31:∀ k:Fin 256,pG (UInt8.ofNat k.val)=true->f8 (UInt8.ofNat k.val)=false/\UInt8.ofNat k.val≠59/\UInt8.ofNat k.val≠44/\UInt8.ofNat k.val≠38:=by decide +kernel

theorem b3h{x:UInt8}(h:pG x=true):f8 x=false/\x≠59/\x≠44/\x≠38:=ku (P:=λx=>pG x=true->f8 x=false/\x≠59/\x≠44/\x≠38) b31 x h

theorem b3r{d x:O}(h:a61 d):Dx (d++([59,32,117,114,108,61]++x))=some ⟨d,true,xI (bT x)⟩:=by
 have Y:bT (d++([59,32,117,114,108,61]++x))=d++([59,32,117,114,108,61]++x):=by
  cases e:d with
  |nil=>exact absurd e h.n
  |cons y r=>exact Fv (b3h (h.a y (by rw[e];simp))).1
 have hne:pG 59=false:=P8
 have I:(d++([59,32,117,114,108,61]++x)).takeWhile pG=d:=by
  rw[A7 (p:=pG) _ h.a];show d++(59::([32,117,114,108,61]++x)).takeWhile pG=d;rw[bI P8,aV]
 have k:(d++([59,32,117,114,108,61]++x)).dropWhile pG=[59,32,117,114,108,61]++x:=by
  rw[Fu (p:=pG) _ h.a];exact Fv P8
 have l:([59,32,117,114,108,61]++x).dropWhile pd=[59,32,117,114,108,61]++x:=Fv P8;unfold Dx rfG;rw[Y,I,k,l,if_neg (λm=>h.n m.1),h.z];have g:bT ([59,32,117,114,108,61]++x)=[59,32,117,114,108,61]++x:=Fv P8
 have i:xH ([59,32,117,114,108,61]++x)=[117,114,108,61]++x:=by
  show(if(59:UInt8)=59\/(59:UInt8)=44 then bT ([32,117,114,108,61]++x)else 59::([32,117,114,108,61]++x))=_;rw[if_pos (.inl rfl)];show(32::([117,114,108,61]++x)).dropWhile f8=_;rw[aQ P8];exact Fv P8
 have j:lW ([117,114,108,61]++x)=bT x:=by
  unfold lW
  have f:(([117,114,108,61]++x).take 3).map dK=a05:=by
   show [dK 117,dK 114,dK 108]=a05;decide
  have a2:bT (([117,114,108,61]++x).drop 3)=61::x:=Fv P8;rw[if_pos f,a2];rfl
 show rfT d (59::([32,117,114,108,61]++x))=_;unfold rfT;dsimp only;rw[if_neg Oc];have c:bT (59::([32,117,114,108,61]++x))=[59,32,117,114,108,61]++x:=g;rw[c,i,if_neg Oc,j]

theorem b1d(s:O)(a:∀ x∈s,pG x=true):a61 (mz s):=by
 have key:∀ l:O,(l.dropWhile z48).dropWhile z48=l.dropWhile z48:=by
  intro l
  induction l with
  |nil=>rfl
  |cons x r c =>
   by_cases X:z48 x=true
   ·rw[aQ X];exact c
   rw[aX X,aX X]
 unfold mz
 split
 ·exact⟨Oc,P8,P8⟩
 next h =>
 refine⟨h,λx X=>a x ((ce _).subset X),?_⟩;unfold mz;rw[key,if_neg h]

theorem b4b{p:UInt8->Bool}:∀ (s:O),∀x∈s.takeWhile p,p x=true
 | [],x,h=>by cases h
 |y::r,x,h=>by
  by_cases hy:p y=true
  ·rw[bJ hy]at h
   rcases aK.mp h with rfl|h
   ·exact hy
   exact b4b r x h
  rw[bI hy]at h;cases h

theorem a7Z{s:O}{r:Kg}(h:Dx s=some r):a61 r.delay:=by
 unfold Dx rfG at h
 split at h
 ·cases h
 have a:=b1d _ (b4b (p:=pG) (bT s));unfold rfT at h
 split at h
 ·cases h;exact a
 split at h
 ·cases h
 split at h <;>(cases h;exact a)
theorem a88{s:O}(h:∀ y∈s,y≠9/\y≠10/\y≠13):iI s=s:=by
 unfold iI;rw[a8n];intro y hy;obtain⟨Y,I,a⟩:=h y hy;simp[Y,I,a]

theorem b0Z{s:O}(Y:∀ x,s.head? = some x->¬ G x<=32)(I:∀ x,s.getLast? = some x->¬ G x<=32):trimF s=s:=by
 have key:∀ l:O,(∀x,l.head? = some x->¬ G x<=32)->l.dropWhile (λc=>decide (G c<=32))=l:=by
  intro l a;cases l with
  |nil=>rfl
  |cons x r=>rw[aX (by simpa using a x rfl)]
 unfold trimF;rw[key s Y,key s.reverse (by intro x X;rw[List.head?_reverse]at X;exact I x X),b2R]

theorem a8y{s:O}(h:∀ y∈s,32<=G y)(Y:∀ x,s.head? = some x->¬ G x<=32)(I:∀ x,s.getLast? = some x->¬ G x<=32):eN s=s:=by
 unfold eN;rw[b0Z Y I,a88];intro y hy;have:=h y hy;refine⟨?_,?_,?_⟩ <;>rintro rfl <;>revert this <;>decide

theorem a76{sp:Bool}{p:O}(h:∀ y∈p,lS sp y=false)(t:O):gE sp (p++47::t)=p::gE sp t:=by
 induction p with
 |nil=>rw[dg,gE,if_pos r5]
 |cons x r a =>
  rw[dE,gE,if_neg (by rw[h x Oc];simp),a (λy hy=>h y (by simp[hy]))]

theorem a56{sp:Bool}:∀ (p:O) (a:List O),(∀q∈p::a,∀y∈q,lS sp y=false)->gE sp (p++cH a)=p::a
 |p,[],h=>by
  have e:cH []=[]:=rfl;rw[e,aV,GT (h p Oc)]
 |p,q::r,h=>by
  have e:cH (q::r)=47::(q++cH r):=by simp[cH]
  rw[e,a76 (h p Oc),a56 q r (λz c=>h z (by simp only[aK]at c ⊢;exact .inr c))]
theorem a6x(sp:Bool):lS sp 47=true:=rfl
theorem a8W{p:O}(h:jN p=true):p.take 1++[58]=p:=by
 match p,h with
 | [a,b],h =>
  unfold jN at h;rw[ct,beq_iff_eq]at h;rw[h.2];rfl

theorem a6X{aJ:O}{out:List O}{p:O}(hp:Bk (eU aJ) p)(a:aJ=aR->out=[]->dJ p=true->jN p=true)(last:Bool):kT aJ out p last=out++[p]:=by
 unfold kT;rw[if_neg (by rw[hp.dd];simp),if_neg (by rw[hp.d];simp)]
 split
 ·next h=>rw[a8W (a h.1 h.2.1 h.2.2)]
 rw[hp.e]

theorem a5f{aJ:O}:∀ (a out:List O),(∀x∈a,Bk (eU aJ) x)->(∀p,a.head? = some p->aJ=aR->out=[]->dJ p=true->jN p=true)->kH aJ out a=out++a
 | [],out,_,_=>by rw[kH,aV]
 | [p],out,hp,c=>by rw[kH,a6X (hp p Oc) (c p rfl)]
 |p::q::r,out,hp,c=>by
  rw[kH,a6X (hp p Oc) (c p rfl),a5f (q::r) _ (λx X=>hp x (by simp only[aK]at X ⊢;exact .inr X)) (λ_ _ _ h=>absurd h Oc),bB];rfl

theorem a6W{aJ:O}{p:O}{c:List O}(hp:∀ x∈p::c,Bk (eU aJ) x)(d:aJ=aR->dJ p=true->jN p=true):da aJ [] (p++cH c)=p::c:=by
 unfold da;rw[a56 p c (λq a=>(hp q a).s),a5f _ _ hp (λq a Y _=>by injection a with a;rw[<-a];exact d Y),dg]
theorem b3t{s:O}(h:wH s=true):(58:UInt8)∉s/\(35:UInt8)∉s/\(63:UInt8)∉s:=by
 have a:=Wb h;refine⟨λhm=>?_,λhm=>?_,λhm=>?_⟩
 ·exact(Gr (a _ hm)).2.2.2.1 rfl
 ·exact(Gr (a _ hm)).2.2.2.2.1 rfl
 exact(Gr (a _ hm)).2.2.2.2.2.1 rfl

theorem b12{aJ rest q f:O}{a c:Bool}(g:xU aJ)(Y:(35:UInt8)∉rest/\(63:UInt8)∉rest)(I:(35:UInt8)∉q)(m:a=false->q=[])(n:c=false->f=[]) :
  fw (aJ++[58]++rest++(if a=true then 63::q else [])++(if c=true then 35::f else []))=⟨true,aJ,rest,a,q,c,f⟩:=by
 obtain⟨o,i,n3⟩:=b3t g.1
 have hA:(35:UInt8)∉aJ++[58]++rest++(if a=true then 63::q else []):=by
  cases a
  ·simp[i,Y.1]
  simp[i,Y.1,I]
 have e:(63:UInt8)∉aJ++[58]++rest:=by simp[n3,Y.2]
 have j:bQ 35 (aJ++[58]++rest++(if a=true then 63::q else [])++(if c=true then 35::f else []))=(aJ++[58]++rest++(if a=true then 63::q else []),f,c):=by
  generalize aJ++[58]++rest++(if a=true then 63::q else [])=d at hA;cases c
  ·show bQ 35 (d++[])=_
   rw[aV,yk hA,n rfl]
  exact Fj _ _ hA
 have k:bQ 63 (aJ++[58]++rest++(if a=true then 63::q else []))=(aJ++[58]++rest,q,a):=by
  generalize aJ++[58]++rest=d at e;cases a
  ·show bQ 63 (d++[])=_
   rw[aV,yk e,m rfl]
  exact Fj _ _ e
 have l:bQ 58 (aJ++[58]++rest)=(aJ,rest,true):=by
  rw[bB,a4p,Fj _ _ o]
 unfold fw;simp only[j,k,l];rw[if_pos ⟨by trivial,g.1⟩,g.2]
theorem a9c{sp:Bool}{a t:O}(g:∀ y∈a,lS sp y=false)(i:t=[]\/∃ r,t=47::r):dU sp (a++t)=(a,t):=by
 unfold dU;have Y:∀ y∈a,(!lS sp y)=true:=λy hy=>by rw[g y hy];rfl
 rcases i with rfl|⟨r,rfl⟩
 ·have d:=a34 (p:=λc=>!lS sp c) (l₁:=a) (l₂:=[]) Y
  have f:=a3Y (p:=λc=>!lS sp c) (l₁:=a) (l₂:=[]) Y;rw[d,f];simp
 have e:(!lS sp 47)=false:=rfl;rw[a34 Y,a3Y Y,bI (by simp[e]),aX (by simp[e]),aV]
theorem a6o(l:List O):cH l=[]\/∃ r,cH l=47::r:=by
 cases l with
 |nil=>exact .inl rfl
 |cons p r=>exact .inr ⟨p++cH r,by simp[cH]⟩
theorem b0M{l:List O}:cH l=[] ↔ l=[]:=by
 cases l with
 |nil=>simp[cH]
 |cons p r=>simp[cH]
theorem a6p{aJ:O}{l:List O}(hp:∀ x∈l,Bk (eU aJ) x)(c:gC aJ l)(d:l ≠ []):gW aJ (cH l)=l:=by
 cases l with
 |nil=>exact absurd rfl d
 |cons p r =>
  have e:cH (p::r)=47::(p++cH r):=by simp[cH]
  unfold gW
  have a:0<uE (eU aJ) (47::(p++cH r)):=by
   unfold uE;rw[bJ r5];simp
  rw[e,if_pos a];show da aJ [] (p++cH r)=_;exact a6W hp (λY I=>c Y p rfl I)
theorem enc4:Enc 4:=by unfold Enc;decide +kernel

theorem b3P:Enc 5:=by unfold Enc;decide +kernel
def uOf(a:qj):Url:={U0 with usr:=a.user,er:=a.pass,host:=a.host,bz:=a.bz,port:=a.port}

theorem b3u{a:qj}(i:a.host.kind≠0):dA (uOf a) false=58::47::47::wtF a:=by
 unfold dA ld;rw[if_neg (show ¬(uOf a).host.kind=0 from i)];have c:nh (uOf a)=[]:=rfl;have d:qF (uOf a)=[]:=rfl;have e:Nc (uOf a) false=[]:=rfl
 have f:uf (uOf a)=a6y a:=by
  unfold uf a6y;show(if a.user=[]/\a.pass=[]then []else if a.pass=[]then a.user++[64]else a.user++[58]++a.pass++[64])=_;by_cases Y:a.user=[]/\a.pass=[]
  ·rw[if_pos Y,if_pos Y]
  rw[if_neg Y,if_neg Y];by_cases I:a.pass=[]
  ·rw[if_pos I,if_pos I,aV]
  rw[if_neg I,if_neg I];simp
 have g:yS (uOf a)=a3Q a:=by
  unfold yS a3Q;rfl
 rw[c,d,e,f,g];show []++[58]++([47,47]++a6y a++lJ a.host++a3Q a)++[]++[]++[]=_;unfold wtF;simp
theorem a3K{P:UInt8->Prop} [DecidablePred P] (h:∀ k:Fin 256,P (UInt8.ofNat k.val)) (y:UInt8):P y:=by
 have:=h ⟨y.toNat,y.toNat_lt⟩
 simpa only[dN]using this

theorem b30:∀ k:Fin 256,k6 5 (G (UInt8.ofNat k.val))=false->Rq (UInt8.ofNat k.val):=by decide +kernel

theorem b3Z:∀ k:Fin 256,k6 4 (G (UInt8.ofNat k.val))=false->Pi (UInt8.ofNat k.val):=by decide +kernel

theorem b3W:∀ k:Fin 256,k6 3 (G (UInt8.ofNat k.val))=false->32<G (UInt8.ofNat k.val)/\UInt8.ofNat k.val≠35:=by decide +kernel

theorem b3V:∀ k:Fin 256,k6 2 (G (UInt8.ofNat k.val))=false->32<G (UInt8.ofNat k.val)/\UInt8.ofNat k.val≠35:=by decide +kernel

theorem b3U:∀ k:Fin 256,k6 1 (G (UInt8.ofNat k.val))=false->32<G (UInt8.ofNat k.val):=by decide +kernel

theorem b3S:∀ k:Fin 256,k6 0 (G (UInt8.ofNat k.val))=false->32<=G (UInt8.ofNat k.val):=by decide +kernel

theorem b3N:∀ k:Fin 256,np (G (UInt8.ofNat k.val))=false->UInt8.ofNat k.val≠35/\UInt8.ofNat k.val≠63/\UInt8.ofNat k.val≠47/\UInt8.ofNat k.val≠92/\UInt8.ofNat k.val≠124/\UInt8.ofNat k.val≠58:=by decide +kernel

theorem b3O:∀ k:Fin 256,48<=G (UInt8.ofNat k.val)/\G (UInt8.ofNat k.val)<=57->Rq (UInt8.ofNat k.val):=by decide +kernel

theorem b32:∀ k:Fin 256,pr (G (UInt8.ofNat k.val))=true->32<G (UInt8.ofNat k.val):=by decide +kernel

theorem b1J{y:UInt8}(h:k6 5 (G y)=false):Rq y:=a3K (P:=λy=>k6 5 (G y)=false->Rq y) b30 y h

theorem b1A{y:UInt8}(h:k6 4 (G y)=false):Pi y:=a3K (P:=λy=>k6 4 (G y)=false->Pi y) b3Z y h

theorem b3g{y:UInt8}(h:k6 3 (G y)=false):32<G y/\y≠35:=a3K (P:=λy=>k6 3 (G y)=false->32<G y/\y≠35) b3W y h

theorem b3f{y:UInt8}(h:k6 2 (G y)=false):32<G y/\y≠35:=a3K (P:=λy=>k6 2 (G y)=false->32<G y/\y≠35) b3V y h

theorem b3e{y:UInt8}(h:k6 1 (G y)=false):32<G y:=a3K (P:=λy=>k6 1 (G y)=false->32<G y) b3U y h

theorem b1z{y:UInt8}(h:k6 0 (G y)=false):32<=G y:=a3K (P:=λy=>k6 0 (G y)=false->32<=G y) b3S y h

theorem a7T{y:UInt8}(h:np (G y)=false):y≠35/\y≠63/\y≠47/\y≠92/\y≠124/\y≠58:=a3K (P:=λy=>np (G y)=false->y≠35/\y≠63/\y≠47/\y≠92/\y≠124/\y≠58) b3N y h

theorem b29{y:UInt8}(h:48<=G y/\G y<=57):Rq y:=a3K (P:=λy=>48<=G y/\G y<=57->Rq y) b3O y h

theorem b2G{y:UInt8}(h:pr (G y)=true):32<G y:=a3K (P:=λy=>pr (G y)=true->32<G y) b32 y h

theorem a6l:∀ k:Fin 16,Rq (vE k.val):=by decide +kernel

theorem b0H(u:Nat):∀ y∈gg u,Rq y:=by
 induction u using Nat.strongRecOn with
 |ind u a =>
  intro y hy;by_cases h:u<16
  ·rw[sk h]at hy
   obtain rfl:y=vE u:=by simpa using hy
   exact a6l ⟨u,h⟩
  rw[IQ h]at hy;rcases bO.mp hy with hy|hy
  ·exact a (u/16) M0 y hy
  obtain rfl:y=vE (u%16):=by simpa using hy
  exact a6l ⟨u%16,M0⟩

theorem b0X(a:List Int):∀ y∈uc a,Rq y:=by
 intro y hy;unfold uc iU at hy;obtain⟨t,_,hy⟩:=S8.mp hy;unfold rj at hy
 split at hy
 ·obtain rfl:y=58:=by simpa using hy
  decide
 split at hy
 ·obtain rfl:y=58:=by simpa using hy
  decide
 exact b0H _ y hy

theorem a5b{s:O}{sp:Bool}(e:fm s sp=some h):∀ y∈lJ h,Rq y:=by
 intro y hy;by_cases a:h.kind=4
 ·rw[a50 h a]at hy
  simp only[bO,dS]at hy;rcases hy with(rfl|hy)|rfl
  ·decide
  ·exact b0X _ y hy
  decide
 obtain⟨Y,_,c⟩:=(a3P e).2.1 a y hy;have:=a7T c;exact⟨⟨Y,this.1,this.2.1⟩,this.2.2.1,this.2.2.2.1⟩

theorem a3U{s:O}{sp:Bool}(e:fm s sp=some h):h.kind≠0:=by
 cases hkind e with
 |six a h8 ha c=>simp
 |name n e c hd hn U he=>simp
 |four n e c h=>simp
 |empty e h=>simp
 |a0z e c h U=>simp

theorem a6L{s:O}(e:fm s true=some h):h.kind≠1:=by
 intro c
 have key:∀ sp:Bool,sS s sp h->sp=false:=by
  intro sp hK;cases hK with
  |six a h8 ha d=>simp at c
  |name n e d hd hn U he=>simp at c
  |four n e d h=>simp at c
  |empty _ _=>assumption
  |a0z e d h U=>simp at c
 cases key true (hkind e)

theorem a81{aJ:O}{a:qj}(ok:AOk aJ a):∀ y∈a3Q a,Rq y:=by
 intro y hy;unfold a3Q at hy
 split at hy
 ·next hp =>
  rcases aK.mp hy with rfl|hy
  ·decide
  rcases ok.q with⟨q1,_⟩|⟨_,q2,_⟩
  ·rw[q1]at hp;cases hp
  have e:Lib.itoa a.port=Lib.decDigits a.port.toNat:=by unfold Lib.itoa;rw[if_neg M0]
  rw[e]at hy;exact b29 (a2c _ y hy)
 cases hy

theorem a6A{aJ:O}{a:qj}(ok:AOk aJ a):∀ y∈wtF a,Rq y:=by
 intro y hy;obtain⟨n,c,_⟩:=ok.h;obtain⟨x,X⟩:=ok.u;obtain⟨z,d⟩:=ok.p;have hu:∀ y∈a.user,Rq y:=λy hy=>by rw[X]at hy;exact b1J (a66 y hy)
 have hp:∀ y∈a.pass,Rq y:=λy hy=>by rw[d]at hy;exact b1J (a66 y hy)
 unfold wtF at hy;rcases bO.mp hy with hy|hy
 ·rcases bO.mp hy with hy|hy
  ·unfold a6y at hy
   split at hy
   ·cases hy
   rcases bO.mp hy with hy|hy
   ·rcases bO.mp hy with hy|hy
    ·exact hu y hy
    split at hy
    ·cases hy
    rcases aK.mp hy with rfl|hy
    ·decide
    exact hp y hy
   obtain rfl:y=64:=by simpa using hy
   decide
  exact a5b c y hy
 exact a81 ok y hy

theorem a6v{y:UInt8}(h:Rq y)(sp:Bool):lS sp y=false:=by
 unfold lS;have Y:(y==47)=false:=by simpa using h.2.1
 have I:(y==92)=false:=by simpa using h.2.2
 rw[Y,I];cases sp <;>rfl

theorem a6T{sp:Bool}:∀ {l:List O},(∀x∈l,Bk sp x)->∀ y∈cH l,Pi y
 | [],_,y,hy=>by cases hy
 |p::r,h,y,hy=>by
  unfold cH at hy;rcases bO.mp hy with hy|hy
  ·rcases bO.mp hy with hy|hy
   ·obtain rfl:y=47:=by simpa using hy
    decide
   have e:=(h p Oc).e;rw[<-e]at hy;exact b1A (Zr enc4 y hy).1
  exact a6T (λx X=>h x (by simp[X])) y hy

def a3L(u:Url):O:=ld u++nh u

theorem a36{u:Url}(c:u.host.kind≠0):ld u=47::47::wtF (Ie u):=by
 have h:=b3u (a:=Ie u) c;unfold dA at h;have d:nh (uOf (Ie u))=[]:=rfl;have e:qF (uOf (Ie u))=[]:=rfl;have f:Nc (uOf (Ie u)) false=[]:=rfl;rw[d,e,f]at h
 have g:ld (uOf (Ie u))=ld u:=by
  unfold ld;rw[if_neg (show ¬(uOf (Ie u)).host.kind=0 from c),if_neg c];rfl
 rw[g]at h;have I:[]++[58]++ld u++[]++[]++[]=58::47::47::wtF (Ie u):=h;simp only[dg,aV,a4p]at I;injection I

theorem a57(u:Url):dA u true=u.aJ++[58]++a3L u++(if u.bZ=true then 63::u.q else [])++(if u.cg=true then 35::u.f else []):=by
 unfold dA a3L qF Nc;rw[nk,bB (u.aJ++[58]) (ld u) (nh u)];rfl

theorem b37{l:O}(h:∀ y∈l,Pi y):(35:UInt8)∉l/\(63:UInt8)∉l:=⟨λhm=>(h _ hm).2.1 rfl,λhm=>(h _ hm).2.2 rfl⟩

theorem b0U{u:Url}(g:Good u)(i:u.opq=false):∀ y∈a3L u,Pi y:=by
 have hp:nh u=cH u.path:=by unfold nh;rw[i];rfl
 have c:∀ y∈nh u,Pi y:=by rw[hp];exact a6T g.pc
 have key:∀ {aJ:O},AOk aJ (Ie u)->∀ y∈a3L u,Pi y:=by
  intro aJ f y hy;obtain⟨n,k,_⟩:=f.h;unfold a3L at hy;rw[a36 (u:=u) (a3U k)]at hy;rcases bO.mp hy with hy|hy
  ·rcases aK.mp hy with rfl|hy
   ·decide
   rcases aK.mp hy with rfl|hy
   ·decide
   exact(a6A f y hy).1
  exact c y hy
 cases g.body with
 |opq Y=>rw[i]at Y;cases Y
 |none Y I a d j =>
  intro y hy;unfold a3L at hy;rcases bO.mp hy with hy|hy
  ·have e:ld u=Fq u:=by unfold ld;rw[if_pos (by rw[a];rfl)]
   rw[e]at hy;unfold Fq at hy
   split at hy
   ·simp only[aK,cV,or_false]at hy
    rcases hy with rfl|rfl <;>decide
   cases hy
  exact c y hy
 |asked Y m f j=>exact key f
 |file Y m a d j =>
  intro y hy
  have l:u.host.kind≠0:=by
   rcases a with a|⟨n,_,a,_⟩
   ·rw[a];simp
   exact a3U a
  unfold a3L at hy;rw[a36 l]at hy
  have hw:wtF (Ie u)=lJ u.host:=by
   unfold wtF a6y a3Q;show(if u.usr=[]/\u.er=[]then _ else _)++_++(if u.bz=true then _ else _)=_;rw[if_pos ⟨d.u,d.p⟩,if_neg (by rw[d.h];simp)];simp[Ie]
  rw[hw]at hy;rcases bO.mp hy with hy|hy
  ·rcases aK.mp hy with rfl|hy
   ·decide
   rcases aK.mp hy with rfl|hy
   ·decide
   rcases a with a|⟨n,_,a,_⟩
   ·rw[a]at hy
    cases hy
   exact(a5b a y hy).1
  exact c y hy

theorem b0Y{u:Url}(g:Good u):fw (eN (dA u true))=⟨true,u.aJ,a3L u,u.bZ,u.q,u.cg,u.f⟩:=by
 have o:∀ y∈u.q,32<G y/\y≠35:=by
  intro y hy;have e:=g.qe;rw[<-e]at hy;unfold Wh at hy
  split at hy
  ·exact b3g (Zr enc3 y hy).1
  exact b3f (Zr enc2 y hy).1
 have v:∀ y∈u.f,32<G y:=by
  intro y hy;have e:=g.fe;rw[<-e]at hy;exact b3e (Zr enc1 y hy).1
 have p:((35:UInt8)∉a3L u/\(63:UInt8)∉a3L u)/\(∀y∈a3L u,32<=G y)/\∀ y,(a3L u).getLast? = some y->¬ G y<=32:=by
  cases d:u.opq with
  |false =>
   have:=b0U g d;refine⟨b37 this,λy hy=>by have:=(this y hy).1;omega,λy hy=>?_⟩;have:=(this y (a4w hy)).1;omega
  |true =>
   cases g.body with
   |none Y=>rw[d]at Y;cases Y
   |file Y=>rw[d]at Y;cases Y
   |asked Y=>rw[d]at Y;cases Y
   |opq Y I B h4 h5 s h8 C i =>
    have e:a3L u=u.flat:=by
     unfold a3L ld Fq nh;rw[if_pos (by rw[B];rfl),if_neg (by rw[d];simp),d];rfl
    rw[e];refine⟨i,λy hy=>?_,λy hy h32=>?_⟩
    ·rw[<-s]at hy
     exact b1z (Ay hy).1
    have hm:=a4w hy;rw[<-s]at hm;have:=b1z (Ay hm).1;have x:G y=32:=M0
    have:y=32:=by
     have:=a3K (P:=λy=>G y=32->y=32) (by decide +kernel) y x;exact this
    rw[this]at hy;exact C hy
 have w:∀ y∈u.aJ,32<G y:=λy hy=>b2G (Wb g.aJ.1 y hy);have n:u.aJ ≠ []:=λe=>by have:=g.aJ.1;rw[e]at this;cases this
 have e58:G 58=58:=P8;have e63:G 63=63:=P8;have e35:G 35=35:=P8;rw[a57,a8y]
 ·exact b12 g.aJ p.1 (λhm=>(o _ hm).2 rfl) g.q g.f
 ·intro y hy
  simp only[bO,dS]at hy;rcases hy with(((hy|rfl)|hy)|hy)|hy
  ·have:=w y hy;omega
  ·omega
  ·exact p.2.1 y hy
  ·split at hy
   ·rcases aK.mp hy with rfl|hy
    ·omega
    have:=(o y hy).1;omega
   cases hy
  split at hy
  ·rcases aK.mp hy with rfl|hy
   ·omega
   have:=v y hy;omega
  cases hy
 ·intro y hy
  cases a:u.aJ with
  |nil=>exact absurd a n
  |cons c t =>
   rw[a]at hy;simp only[dE,oI,ly]at hy;have:=w c (by rw[a];simp);rw[<-hy];omega
 intro y hy;rw[Bh]at hy
 have key:∀ (b:Bool) (c:UInt8) (l:O),32<G c->(∀y∈l,32<G y)->∀ z,(if b=true then c::l else []).getLast? = some z->¬ G z<=32:=by
  intro b c l hc D z r
  split at r
  ·rcases aK.mp (a4w r)with rfl|hm
   ·omega
   have:=D z hm;omega
  cases r
 cases j:(if u.cg=true then 35::u.f else []).getLast? with
 |some z =>
  rw[j]at hy;simp only[a42,ly]at hy;rw[<-hy];exact key _ _ _ M0 v z j
 |none =>
  rw[j,a6F,Bh]at hy;cases k:(if u.bZ=true then 63::u.q else []).getLast? with
  |some z =>
   rw[k]at hy;simp only[a42,ly]at hy;rw[<-hy];exact key _ _ _ M0 (λy hy=>(o y hy).1) z k
  |none =>
   rw[k,a6F,Bh]at hy;cases m:(a3L u).getLast? with
   |some z =>
    rw[m]at hy;simp only[a42,ly]at hy;rw[<-hy];exact p.2.2 z m
   |none =>
    rw[m,a6F,Bh]at hy;simp only[a6B,a42,ly]at hy;rw[<-hy];omega

theorem a87{u:Url}(g:Good u)(rest:O):dp u.aJ ⟨true,u.aJ,rest,u.bZ,u.q,u.cg,u.f⟩={U0 with aJ:=u.aJ,bZ:=u.bZ,q:=u.q,cg:=u.cg,f:=u.f}:=by
 unfold dp;have Y:=g.qe;have I:=g.fe;unfold Wh at Y;dsimp only;rw[Y,I]

theorem b08{u u0:Url}(g:Good u)(i:u.opq=false)(d:AOk u.aJ (Ie u))(hp:eU u.aJ=true->u.path ≠ [])(e0:u0={U0 with aJ:=u.aJ,bZ:=u.bZ,q:=u.q,cg:=u.cg,f:=u.f}) :
  jS u0 (wtF (Ie u)++cH u.path)=some u:=by
 unfold jS;have es:u0.aJ=u.aJ:=by rw[e0]
 rw[es,a9c (λy hy=>a6v (a6A d y hy) _) (a6o u.path)];dsimp only;rw[a64 d];dsimp only
 have c:(if eU u.aJ=true\/cH u.path ≠ []then gW u.aJ (cH u.path)else u0.path)=u.path:=by
  by_cases a:u.path=[]
  ·have j:eU u.aJ=false:=by
    cases h:eU u.aJ with
    |false=>rfl
    |true=>exact absurd a (hp h)
   rw[if_neg (by rw[j,a];simp[cH]),e0,a];rfl
  rw[if_pos (.inr λe=>a (b0M.mp e)),a6p g.pc g.fi a]
 rw[c,e0]
 congr 1
 exact a06 rfl rfl rfl rfl rfl rfl i.symm (g.fl i).symm rfl rfl rfl rfl rfl

theorem b3v{sp:Bool}{t:O}(h:∀ y,t.head? = some y->lS sp y=false):uE sp (47::47::t)=2:=by
 unfold uE;rw[bJ (a6x sp),bJ (a6x sp)];cases t with
 |nil=>rfl
 |cons c r =>
  rw[bI (by rw[h c rfl];simp)];rfl

theorem b4a{sp:Bool}{t:O}:2<=uE sp (47::47::t):=by
 unfold uE;rw[bJ (a6x sp),bJ (a6x sp)];simp

theorem a83{u:Url}(g:Good u)(b:Url):eL b (fw (eN (dA u true)))=some u:=by
 rw[b0Y g];have m:=a87 g (a3L u);generalize J:(⟨true,u.aJ,a3L u,u.bZ,u.q,u.cg,u.f⟩:kW)=p at *;have p1:p.gR=true:=by rw[<-J]
 have p2:p.aJ=u.aJ:=by rw[<-J]
 have o:p.rest=a3L u:=by rw[<-J]
 have c0t:p.bZ=u.bZ:=by rw[<-J]
 have c0u:p.cg=u.cg:=by rw[<-J]
 unfold eL;have D:u.opq=false->nh u=cH u.path:=λh=>by unfold nh;rw[h];rfl
 cases g.body with
 |file Y T a d Q =>
  rw[if_pos (.inl ⟨p1,by rw[p2];exact T⟩)]
  have hk:u.host.kind≠0:=by
   rcases a with a|⟨n,_,a,_⟩
   ·rw[a];simp
   exact a3U a
  have hw:wtF (Ie u)=lJ u.host:=by
   unfold wtF a6y a3Q;show(if u.usr=[]/\u.er=[]then _ else _)++_++(if u.bz=true then _ else _)=_;rw[if_pos ⟨d.u,d.p⟩,if_neg (by rw[d.h];simp)];simp[Ie]
  have k:p.rest=47::47::(lJ u.host++cH u.path):=by
   rw[o];unfold a3L;rw[a36 hk,hw,D Y];rfl
  unfold lG;dsimp only;rw[<-T,m,k,if_pos b4a];show iy _ (lJ u.host++cH u.path)=some u
  have hpl:∀ y∈lJ u.host,Rq y:=by
   rcases a with a|⟨n,_,a,_⟩
   ·rw[a];intro y hy;cases hy
   exact a5b a
  unfold iy;rw[a9c (λy hy=>a6v (hpl y hy) _) (a6o u.path)];dsimp only;have N:=a6p g.pc g.fi Q
  have hdr:dJ (lJ u.host)=false:=by
   rcases a with a|⟨n,_,a,_⟩
   ·rw[a];rfl
   cases i:dJ (lJ u.host)with
   |false=>rfl
   |true =>
    exfalso;cases j:lJ u.host with
    |nil=>rw[j]at i;cases i
    |cons x r =>
     cases r with
     |nil=>rw[j]at i;cases i
     |cons y r2 =>
      cases r2 with
      |cons z r3=>rw[j]at i;cases i
      |nil =>
       rw[j]at i;unfold dJ at i;rw[ct]at i;by_cases M:u.host.kind=4
       ·rw[a50 _ M]at j
        have:x=91:=by
         simp only[dE]at j;injection j with j _
         exact j.symm
        rw[this]at i;revert i;intro i;exact absurd i.1 P8
       have U:=a7T ((a3P a).2.1 M y (by rw[j];simp)).2.2;have:=i.2;simp only[kj,beq_iff_eq]at this;rcases this with e|e
       ·exact U.2.2.2.2.2 e
       exact U.2.2.2.2.1 e
  rw[if_neg (by rw[hdr];simp)];rcases a with a|⟨n,hn,a,C⟩
  ·rw[if_pos (by rw[a];rfl),N]
   congr 1
   exact a06 rfl d.u.symm d.p.symm a.symm d.h.symm d.n.symm Y.symm (g.fl Y).symm rfl rfl rfl rfl rfl
  have hne:lJ u.host ≠ []:=λe=>a6L a ((a3P a).2.2.mp e);rw[if_neg hne,(a3P a).1];dsimp only;rw[if_neg (show ¬(u.host.kind=2/\u.host.name=[108,111,99,97,108,104,111,115,116])from C),N]
  congr 1
  exact a06 rfl d.u.symm d.p.symm rfl d.h.symm d.n.symm Y.symm (g.fl Y).symm rfl rfl rfl rfl rfl
 |opq Y I a h4 d h7 R h9 h10 =>
  have v:u.aJ≠aR:=λe=>by rw[e,vn]at I;cases I
  rw[if_neg (by rw[p1,p2];simp[v]),if_neg (by rw[p2,I];simp),if_pos ⟨p1,by rw[p2,I];simp⟩]
  have e:a3L u=u.flat:=by
   unfold a3L ld Fq nh;rw[if_pos (by rw[a];rfl),if_neg (by rw[Y];simp),Y];rfl
  unfold gi;rw[p2,m,o,e]
  split
  ·next r k=>rw[k]at R;exact absurd rfl R
  ·next r _ k=>rw[k]at R;exact absurd rfl R
  dsimp only;rw[h7,if_neg (λh=>h9 h.2)]
  congr 1
  exact a06 rfl d.u.symm d.p.symm a.symm d.h.symm d.n.symm Y.symm rfl h4.symm rfl rfl rfl rfl
 |none Y I a d Q =>
  have v:u.aJ≠aR:=λe=>by rw[e,vn]at I;cases I
  rw[if_neg (by rw[p1,p2];simp[v]),if_neg (by rw[p2,I];simp),if_pos ⟨p1,by rw[p2,I];simp⟩];unfold gi;have K:ld u=Fq u:=by unfold ld;rw[if_pos (by rw[a];rfl)]
  obtain⟨x,l,C⟩:∃ x l,u.path=x::l:=by
   cases hp:u.path with
   |nil=>exact absurd hp Q
   |cons x l=>exact⟨x,l,rfl⟩
  have w:=g.pc;rw[C]at w;have hseg:da u.aJ [] (x++cH l)=x::l:=a6W w (λa=>absurd a v)
  have hfin:∀ P:List O,P=u.path->some {({U0 with aJ:=u.aJ,bZ:=u.bZ,q:=u.q,cg:=u.cg,f:=u.f}:Url)with path:=P}=some u:=by
   rintro P rfl
   congr 1
   exact a06 rfl d.u.symm d.p.symm a.symm d.h.symm d.n.symm Y.symm (g.fl Y).symm rfl rfl rfl rfl rfl
  by_cases i:u.opq=false/\2<=u.path.length/\u.path.head? = some []
  ·have k:p.rest=47::46::cH u.path:=by
    rw[o];unfold a3L;rw[K,D Y];unfold Fq;rw[if_pos i];rfl
   rw[p2,m,k];show some _=some u;refine hfin _ ?_
   have W:gE (eU u.aJ) (46::cH u.path)=[46]::u.path:=by
    have:=a76 (sp:=eU u.aJ) (p:=[46]) (λy hy=>by rw[dS.mp hy,I];rfl) (x++cH l);have e2:gE (eU u.aJ) (x++cH l)=x::l:=a56 x l (λq Q y hy=>(w q Q).s y hy);rw[C];show gE (eU u.aJ) ([46]++(47::(x++cH l)))=_;rw[this,e2]
   unfold da;rw[W,C];show kH u.aJ (kT u.aJ [] [46] false) (x::l)=x::l
   have e3:kT u.aJ [] [46] false=[]:=by
    unfold kT;rw[if_neg P8,if_pos P8];rfl
   rw[e3];have:=a5f (aJ:=u.aJ) (x::l) [] w (λ_ _ a=>absurd a v);rw[this,dg]
  have k:p.rest=47::(x++cH l):=by
   rw[o];unfold a3L;rw[K,D Y];unfold Fq;rw[if_neg i,C];rfl
  have X:∀ r,x++cH l≠47::r:=by
   intro r e;cases x with
   |nil =>
    cases l with
    |nil=>cases e
    |cons y l2=>exact i ⟨Y,by rw[C];simp,by rw[C];rfl⟩
   |cons c t =>
    injection e with e _
    have:=(w (c::t) Oc).s c Oc;rw[e,a6x]at this;cases this
  rw[p2,m,k]
  split
  ·next r e =>
   injection e with _ e
   exact absurd e (X r)
  ·next r _ e =>
   injection e with _ e
   rw[<-e];refine hfin _ ?_;rw[C];exact hseg
  next _ n2=>exact absurd rfl (n2 _)
 |asked Y T ha hp =>
  obtain⟨n,j,_⟩:=ha.h;have hk:u.host.kind≠0:=a3U j
  have k:p.rest=47::47::(wtF (Ie u)++cH u.path):=by
   rw[o];unfold a3L;rw[a36 hk,D Y];rfl
  rw[if_neg (by rw[p1,p2];simp[T])];have L:=b08 g Y ha hp rfl;cases B:eU u.aJ with
  |true =>
   rw[if_pos ⟨⟨p1,by rw[p2];exact B⟩,.inr (by rw[k];rfl)⟩,p2,m,B,k]
   have hsl:uE true (47::47::(wtF (Ie u)++cH u.path))=2:=by
    refine b3v λy hy=>?_
    have hw:wtF (Ie u) ≠ []:=by
     intro e;unfold wtF at e;have W:=(lr.mp (lr.mp e).1).2;rw[B]at j;exact a6L j ((a3P j).2.2.mp W)
    cases hc:wtF (Ie u)with
    |nil=>exact absurd hc hw
    |cons c t =>
     rw[hc]at hy;injection hy with hy
     rw[<-hy];exact a6v (a6A ha c (by rw[hc];simp)) _
   rw[hsl];exact L
  |false =>
   rw[if_neg (by rw[p2,B];simp),if_pos ⟨p1,by rw[p2,B];simp⟩];unfold gi;rw[p2,m,k];exact L
structure Fit (l:O):Prop where
 b:∀ x∈l,f8 x=false
 h:∃ x r,l=x::r/\x≠44
 e:∃ q y,l=q++[y]/\y≠44

theorem b1u(l:O):ti l=true ↔ Fit l:=by
 unfold ti;cases l with
 |nil=>exact⟨λh=>by simp at h,λh=>by obtain⟨x,r,e,_⟩:=h.h;cases e⟩
 |cons x r =>
  have g:∃ q y,x::r=q++[y]:=⟨(x::r).dropLast,(x::r).getLast Oc,(ip Oc).symm⟩;obtain⟨q,y,a⟩:=g;have i:Lib.hasSuffix (x::r) [44]=decide (G y=44):=by rw[a];exact b0p y q
  rw[i,b0i];constructor
  ·intro h
   simp only[ct,a3W,decide_eq_false_iff_not,ch,a3a]at h;exact⟨λz c=>h.1.1.1 z c,⟨x,r,rfl,h.1.2⟩,⟨q,y,a,h.2⟩⟩
  intro h;obtain⟨x',r',e,X⟩:=h.h;obtain⟨q',y',d,hy⟩:=h.e;cases e;rw[a]at d;obtain⟨_,f⟩:=b03 d rfl;cases f;simp only[ct,a3W,decide_eq_false_iff_not,ch,a3a];exact⟨⟨⟨λz c=>h.b z c,rfl⟩,X⟩,hy⟩

theorem a60:∀ {w:O} (t:O),(∀x∈w,x≠40/\fS x=false)->gN false (w++t)=w.length+gN false t
 | [],t,_=>by rw[dg,aO,bM]
 |x::w,t,h=>by
  rw[dE,gN,if_neg (h x Oc).1,if_neg (by rw[(h x Oc).2];simp),a60 (w:=w) t λy hy=>h y (by simp[hy]),ah];omega
theorem a85{l:O}(h:a5h l=l):∃ m,l=fp m:=⟨signs l,h.symm⟩

theorem b1g{c:Int}(h:c<0\/0x80<=c):∀ y∈enc c,0x80<=G y:=by
 have mk:∀ n:Nat,0x80<=n->n<256->0x80<=G (UInt8.ofNat n):=λn Y I=>by
  unfold G;rw[cF I];omega
 by_cases U:c<0\/0x10ffff<c\/(0xd800<=c/\c<=0xdfff)
 ·rw[Uy U]
  decide
 by_cases Y:c<0x800
 ·rw[IE M0 Y]
  intro y hy;simp only[aK,cV,or_false]at hy;rcases hy with rfl|rfl
  ·exact mk _ M0 M0
  exact mk _ M0 M0
 by_cases I:c<0x10000
 ·rw[yn M0 I M0]
  intro y hy;simp only[aK,cV,or_false]at hy;rcases hy with rfl|rfl|rfl <;>exact mk _ M0 M0
 rw[IF M0 M0];intro y hy;simp only[aK,cV,or_false]at hy;rcases hy with rfl|rfl|rfl|rfl <;>exact mk _ M0 M0

theorem b1V{y:UInt8}(h:0x80<=G y):Dh y=[y]:=by
 have:z6 (G y)=[]:=by
  unfold z6;rw[if_neg M0,if_neg M0,if_neg M0,if_neg M0,if_neg M0,if_neg M0]
 unfold Dh;rw[if_pos this]

theorem a7D:∀ {l:O},(∀y∈l,0x80<=G y)->qM l=l
 | [],_=>rfl
 |x::r,h=>by
  show Dh x++qM r=_;rw[b1V (h x Oc),a7D λy hy=>h y (by simp[hy])];rfl

theorem a7C(c:Int):∀ y∈z6 c,G y<0x80/\y≠0:=by
 unfold z6
 repeat' split
 all_goals decide

theorem a9X{x:UInt8}(h:G x<0x80):∀ y∈Dh x,G y<0x80:=by
 unfold Dh
 split
 ·intro y hy
  obtain rfl:y=x:=by simpa using hy
  exact h
 exact λy hy=>(a7C _ y hy).1

theorem b1W{x:UInt8}(h:x≠0):∀ y∈Dh x,y≠0:=by
 unfold Dh
 split
 ·intro y hy
  obtain rfl:y=x:=by simpa using hy
  exact h
 exact λy hy=>(a7C _ y hy).2

theorem a7F{l:O}(h:∀ x∈l,x≠0):∀ y∈qM l,y≠0:=by
 intro y hy;obtain⟨x,X,hy⟩:=S8.mp hy;exact b1W (h x X) y hy

theorem b0c{l:O}(h:∀ x∈l,G x<0x80):fp (l.map G)=l:=by
 induction l with
 |nil=>rfl
 |cons x r a =>
  show enc (G x)++fp (r.map G)=_;rw[a2F (h x Oc),a λy hy=>h y (by simp[hy])];rfl

theorem b1j(c:Int):∃ m,qM (enc c)=fp m:=by
 by_cases h:c<0\/0x80<=c
 ·exact⟨[c],by rw[a7D (b1g h)];simp[fp]⟩
 have e:enc c=[UInt8.ofNat c.toNat]:=ID M0 M0
 have X:G (UInt8.ofNat c.toNat)<0x80:=by
  unfold G;rw[cF M0];omega
 refine⟨(qM (enc c)).map G,(b0c ?_).symm⟩;rw[e];intro y hy;have:qM [UInt8.ofNat c.toNat]=Dh (UInt8.ofNat c.toNat):=by simp[qM]
 rw[this]at hy;exact a9X X y hy

theorem a6K:∀ l:List Int,∃m,qM (fp l)=fp m
 | []=>⟨[],rfl⟩
 |c::l=>by
  obtain⟨m1,Y⟩:=b1j c;obtain⟨m2,I⟩:=a6K l;refine⟨m1++m2,?_⟩
  have:qM (fp (c::l))=qM (enc c)++qM (fp l):=by
   rw[mH];exact dL
  rw[this,Y,I,a4o]

theorem b2O{s:O}(h:a5h s=s)(h0:∀ x∈s,x≠0):jw (qM s)=s:=by
 obtain⟨l,a⟩:=a85 h;obtain⟨m,hm⟩:=a6K l;unfold jw;rw[uH (a7F h0),Uq];have:a5h (qM s)=qM s:=by rw[a,hm,a82]
 rw[this,a9h]
theorem a8q:∀ k:Fin 256,pr (G (UInt8.ofNat k.val))=true->a1X (UInt8.ofNat k.val):=by decide +kernel

theorem a97:∀ k:Fin 256,k6 0 (G (UInt8.ofNat k.val))=false->a1X (UInt8.ofNat k.val):=by decide +kernel

theorem b0b:∀ k:Fin 256,iQ (G (UInt8.ofNat k.val))=true->a1X (UInt8.ofNat k.val):=by decide +kernel

theorem b07{y:UInt8}(h:pr (G y)=true):a1X y:=a3K (P:=λy=>pr (G y)=true->a1X y) a8q y h

theorem b2l{y:UInt8}(h:k6 0 (G y)=false):a1X y:=a3K (P:=λy=>k6 0 (G y)=false->a1X y) a97 y h

theorem b2m{y:UInt8}(h:iQ (G y)=true):a1X y:=a3K (P:=λy=>iQ (G y)=true->a1X y) b0b y h

theorem a5X{set:Int}(h:Enc set){l:O}:∀ y∈dD set l,a1X y:=λy hy=>⟨by have:=(Zr h y hy).2.1;omega,(Zr h y hy).2.2⟩

theorem b2n{s:O}(h:wH s=true):∀ y∈s,a1X y:=by
 cases s with
 |nil=>cases h
 |cons c t =>
  unfold wH at h;rw[ct,ch]at h;intro y hy;rcases aK.mp hy with rfl|hy
  ·exact b2m h.1
  exact b07 (h.2 y hy)

theorem a7j:∀ k:Fin 16,a1X (vE k.val):=by decide +kernel

theorem b2k(u:Nat):∀ y∈gg u,a1X y:=by
 induction u using Nat.strongRecOn with
 |ind u a =>
  intro y hy;by_cases h:u<16
  ·rw[sk h]at hy
   obtain rfl:y=vE u:=by simpa using hy
   exact a7j ⟨u,h⟩
  rw[IQ h]at hy;rcases bO.mp hy with hy|hy
  ·exact a (u/16) M0 y hy
  obtain rfl:y=vE (u%16):=by simpa using hy
  exact a7j ⟨u%16,M0⟩

theorem b2o(a:List Int):∀ y∈uc a,a1X y:=by
 intro y hy;unfold uc iU at hy;obtain⟨t,_,hy⟩:=S8.mp hy;unfold rj at hy
 split at hy
 ·obtain rfl:y=58:=by simpa using hy
  decide
 split at hy
 ·obtain rfl:y=58:=by simpa using hy
  decide
 exact b2k _ y hy

theorem a7k{s:O}{sp:Bool}(e:fm s sp=some h):∀ y∈lJ h,a1X y:=by
 intro y hy;by_cases a:h.kind=4
 ·rw[a50 h a]at hy
  simp only[bO,dS]at hy;rcases hy with(rfl|hy)|rfl
  ·decide
  ·exact b2o _ y hy
  decide
 obtain⟨Y,I,_⟩:=(a3P e).2.1 a y hy;exact⟨M0,I⟩

theorem b04{aJ:O}{a:qj}(ok:AOk aJ a):∀ y∈a3Q a,a1X y:=by
 intro y hy;unfold a3Q at hy
 split at hy
 ·next hp =>
  rcases aK.mp hy with rfl|hy
  ·decide
  rcases ok.q with⟨q1,_⟩|⟨_,q2,_⟩
  ·rw[q1]at hp;cases hp
  have e:Lib.itoa a.port=Lib.decDigits a.port.toNat:=by unfold Lib.itoa;rw[if_neg M0]
  rw[e]at hy;have:=a2c _ y hy;exact⟨M0,M0⟩
 cases hy

theorem b26{aJ:O}{a:qj}(ok:AOk aJ a):∀ y∈wtF a,a1X y:=by
 intro y hy;obtain⟨n,c,_⟩:=ok.h;obtain⟨x,X⟩:=ok.u;obtain⟨z,d⟩:=ok.p;have hu:∀ y∈a.user,a1X y:=λy hy=>by rw[X]at hy;exact a5X b3P y hy
 have hp:∀ y∈a.pass,a1X y:=λy hy=>by rw[d]at hy;exact a5X b3P y hy
 unfold wtF at hy;rcases bO.mp hy with hy|hy
 ·rcases bO.mp hy with hy|hy
  ·unfold a6y at hy
   split at hy
   ·cases hy
   rcases bO.mp hy with hy|hy
   ·rcases bO.mp hy with hy|hy
    ·exact hu y hy
    split at hy
    ·cases hy
    rcases aK.mp hy with rfl|hy
    ·decide
    exact hp y hy
   obtain rfl:y=64:=by simpa using hy
   decide
  exact a7k c y hy
 exact b04 ok y hy

theorem a7n{sp:Bool}:∀ {l:List O},(∀x∈l,Bk sp x)->∀ y∈cH l,a1X y
 | [],_,y,hy=>by cases hy
 |p::r,h,y,hy=>by
  unfold cH at hy;rcases bO.mp hy with hy|hy
  ·rcases bO.mp hy with hy|hy
   ·obtain rfl:y=47:=by simpa using hy
    decide
   have e:=(h p Oc).e;rw[<-e]at hy;exact a5X enc4 y hy
  exact a7n (λx X=>h x (by simp[X])) y hy

theorem b06{u:Url}(g:Good u):∀ y∈a3L u,a1X y:=by
 have d:∀ y∈nh u,a1X y:=by
  intro y hy;unfold nh at hy
  split at hy
  ·next c =>
   cases g.body with
   |opq Y I a h4 f k h8 h9 h10 =>
    rw[<-k]at hy;exact b2l (Ay hy).1
   |none Y=>rw[Y]at c;cases c
   |asked Y=>rw[Y]at c;cases c
   |file Y=>rw[Y]at c;cases c
  exact a7n g.pc y hy
 have key:∀ {aJ:O},AOk aJ (Ie u)->∀ y∈a3L u,a1X y:=by
  intro aJ i y hy;obtain⟨n,l,_⟩:=i.h;unfold a3L at hy;rw[a36 (u:=u) (a3U l)]at hy;rcases bO.mp hy with hy|hy
  ·rcases aK.mp hy with rfl|hy
   ·decide
   rcases aK.mp hy with rfl|hy
   ·decide
   exact b26 i y hy
  exact d y hy
 have key2:u.host=H0->∀ y∈a3L u,a1X y:=by
  intro a y hy;unfold a3L at hy;rcases bO.mp hy with hy|hy
  ·have e:ld u=Fq u:=by unfold ld;rw[if_pos (by rw[a];rfl)]
   rw[e]at hy;unfold Fq at hy
   split at hy
   ·simp only[aK,cV,or_false]at hy
    rcases hy with rfl|rfl <;>decide
   cases hy
  exact d y hy
 cases g.body with
 |opq Y I a=>exact key2 a
 |none Y I a f j=>exact key2 a
 |asked Y o i j=>exact key i
 |file Y o a f j =>
  intro y hy
  have m:u.host.kind≠0:=by
   rcases a with a|⟨n,_,a,_⟩
   ·rw[a];simp
   exact a3U a
  unfold a3L at hy;rw[a36 m]at hy
  have hw:wtF (Ie u)=lJ u.host:=by
   unfold wtF a6y a3Q;show(if u.usr=[]/\u.er=[]then _ else _)++_++(if u.bz=true then _ else _)=_;rw[if_pos ⟨f.u,f.p⟩,if_neg (by rw[f.h];simp)];simp[Ie]
  rw[hw]at hy;rcases bO.mp hy with hy|hy
  ·rcases aK.mp hy with rfl|hy
   ·decide
   rcases aK.mp hy with rfl|hy
   ·decide
   rcases a with a|⟨n,_,a,_⟩
   ·rw[a]at hy
    cases hy
   exact a7k a y hy
  exact d y hy

theorem a91{u:Url}(g:Good u):∀ y∈dA u true,a1X y:=by
 intro y hy;rw[a57]at hy;have c:∀ y∈u.q,a1X y:=λy hy=>by rw[<-g.qe]at hy;exact a5X (Sb u.aJ) y hy
 have a:∀ y∈u.f,a1X y:=λy hy=>by rw[<-g.fe]at hy;exact a5X enc1 y hy
 rcases bO.mp hy with hy|hy
 ·rcases bO.mp hy with hy|hy
  ·rcases bO.mp hy with hy|hy
   ·rcases bO.mp hy with hy|hy
    ·exact b2n g.aJ.1 y hy
    obtain rfl:y=58:=by simpa using hy
    decide
   exact b06 g y hy
  split at hy
  ·rcases aK.mp hy with rfl|hy
   ·decide
   exact c y hy
  cases hy
 split at hy
 ·rcases aK.mp hy with rfl|hy
  ·decide
  exact a y hy
 cases hy
theorem b5q:∀ k:Fin 256,wc (UInt8.ofNat k.val)=true->(UInt8.ofNat k.val≠40/\fS (UInt8.ofNat k.val)=false)/\a1X (UInt8.ofNat k.val):=by decide +kernel

theorem b2c{x:UInt8}(h:wc x=true):(x≠40/\fS x=false)/\a1X x:=ku (P:=λx=>wc x=true->(x≠40/\fS x=false)/\a1X x) b5q x h

theorem b2P{w:O}(h:Y2 w)(t:O)(d:t=[]\/∃ x r,t=x::r/\fS x=true):gN false (w++t)=w.length:=by
 rw[a60 _ λx X=>(b2c (h.c x X)).1];rcases d with rfl|⟨x,r,rfl,X⟩
 ·rfl
 have a:x≠40:=by rintro rfl;exact absurd X P8
 show w.length+(if x=40 then _ else if fS x=true then 0 else _)=_;rw[if_neg a,if_pos X];rfl

theorem b4d{w:O}(h:Y2 w)(t:O):(w++t).dropWhile f8=w++t:=by
 cases hw:w with
 |nil=>exact absurd hw h.n
 |cons x r =>
  have:=(b2c (h.c x (by rw[hw];simp))).1.2;refine Fv ?_;unfold fS at this;cases hy:f8 x with
  |true=>rw[hy,b3G]at this;cases this
  |false=>rfl

theorem a8f{t:O}(a:t=[]\/∃ r,t=44::r):j7 t=([],t):=by
 rw[a1b]
 have e:t.dropWhile f8=t:=by
  rcases a with rfl|⟨r,rfl⟩
  ·rfl
  exact Fv P8
 rw[e,if_pos];rcases a with rfl|⟨r,rfl⟩
 ·rfl
 show(if(44:UInt8)=40 then _ else if fS 44=true then 0 else _)=_;rw[if_neg P8,if_pos P8]

theorem a8e:∀ {ws:List O} {t:O},(∀w∈ws,Y2 w)->(t=[]\/∃ r,t=44::r)->j7 (du ws++t)=(ws,t)
 | [],t,_,a=>a8f a
 |w::ws,t,h,a=>by
  have hw:=h w Oc
  have c:du (w::ws)++t=32::(w++(du ws++t)):=by
   show([32]++w++du ws)++t=_;simp
  have d:(32::(w++(du ws++t))).dropWhile f8=w++(du ws++t):=by
   rw[aQ P8];exact b4d hw _
  have g:gN false (w++(du ws++t))=w.length:=by
   refine b2P hw _ ?_;cases ws with
   |nil =>
    rcases a with rfl|⟨r,rfl⟩
    ·exact .inl rfl
    exact .inr ⟨44,r,rfl,P8⟩
   |cons y z=>exact .inr ⟨32,y++(du z++t),by show([32]++y++du z)++t=_;simp,P8⟩
  have f:w.length≠0:=λe=>hw.n (az e);rw[a1b,c,d,g,if_neg f,ko rfl,Xf rfl,a8e (λx X=>h x (by simp[X])) a]

def a3V(url:O)(ws:List O):O:=url++du ws

theorem b3b{s:O}(h:Fit s):∀ y∈s,fU y=true:=λy hy=>by unfold fU;rw[h.b y hy];rfl

theorem b2u{s:O}(h:Fit s):nQ s=false:=by
 obtain⟨q,y,a,hy⟩:=h.e;unfold nQ;rw[a,Bi];exact decide_eq_false λc=>hy (by simpa using c)

theorem b13{s:O}{ws:List O}{t:O}(h:Fit s)(hw:∀ w∈ws,Y2 w)(j:t=[]\/∃ r,t=44::32::r) :
  jt (a3V s ws++t)=⟨s,ws,t.drop 1⟩:=by
 have a:=b3b h
 have i:t=[]\/∃ r,t=44::r:=by
  rcases j with rfl|⟨r,rfl⟩
  ·exact .inl rfl
  exact .inr ⟨_,rfl⟩
 unfold a3V;rw[bB]
 have base:∀ u:O,(u=[]\/∃ x r,u=x::r/\fU x=false)->j7 u=(ws,t)->jt (s++u)=⟨s,ws,t.drop 1⟩:=by
  intro u hu l
  have t2:(s++u).takeWhile fU=s:=by
   rw[A7 (p:=fU) _ a];rcases hu with rfl|⟨x,r,rfl,X⟩
   ·exact aV s
   rw[bI (by rw[X];simp),aV]
  have t3:(s++u).dropWhile fU=u:=by
   rw[Fu (p:=fU) _ a];rcases hu with rfl|⟨x,r,rfl,X⟩
   ·rfl
   exact Fv X
  unfold jt;rw[t2,t3,if_neg (by rw[b2u h];simp),l]
 cases d:ws with
 |cons w f =>
  subst d;exact base _ (.inr ⟨32,w++(du f++t),by show([32]++w++du f)++t=_;simp,P8⟩) (a8e hw i)
 |nil =>
  subst d;rcases j with rfl|⟨r,rfl⟩
  ·exact base _ (.inl rfl) (a8f (.inl rfl))
  show jt (s++44::32::r)=⟨s,[],32::r⟩;have e:s++44::32::r=(s++[44])++32::r:=Oc
  have c:∀ y∈s++[44],fU y=true:=by
   intro y hy;rcases bO.mp hy with hy|hy
   ·exact a y hy
   obtain rfl:y=44:=by simpa using hy
   decide
  have t2:((s++[44])++32::r).takeWhile fU=s++[44]:=by
   rw[A7 (p:=fU) _ c,bI P8,aV]
  have t3:((s++[44])++32::r).dropWhile fU=32::r:=by
   rw[Fu (p:=fU) _ c];exact Fv P8
  have g:gM (s++[44])=s:=by
   obtain⟨q,y,k,hy⟩:=h.e;unfold gM;rw[jK];show((44::s.reverse).dropWhile λx=>decide (x=44)).reverse=s;rw[aQ P8,k,jK];show((y::q.reverse).dropWhile λx=>decide (x=44)).reverse=_;rw[Fv (decide_eq_false hy)];simp
  rw[e];unfold jt;rw[t2,t3,if_pos (by unfold nQ;rw[Bi];decide),g]

structure LOk (url:O) (ws:List O) (d:dk):Prop where
 f:Fit url
 d:jM ws=some d

theorem b1t{s:O}(h:Fit s)(t:O):(s++t).dropWhile fS=s++t/\s++t ≠ []:=by
 obtain⟨x,r,e,X⟩:=h.h
 have a:fS x=false:=by
  unfold fS;rw[h.b x (by rw[e];simp),decide_eq_false X];rfl
 rw[e];exact⟨Fv a,Oc⟩

theorem a92{s:O}{ws:List O}{d:dk}{t:O}(h:LOk s ws d)(a:t=[]\/∃ r,t=44::32::r):jF (a3V s ws++t)={d with url:=s}::jF (t.drop 1):=by
 have Y:a3V s ws++t=s++(du ws++t):=by unfold a3V;rw[bB]
 have I:=b1t h.f (du ws++t);rw[a0U,Y,I.1,if_neg I.2,<-Y,b13 h.f (Us h.d).1 a];unfold tU;dsimp only;rw[h.d]

theorem b3w(t:O):jF (32::t)=jF t:=by
 rw[a0U (32::t),a0U t,aQ P8]

def a4i(l:List (O×List O)):O:=l.flatMap λp=>[44,32]++a3V p.1 p.2

theorem a8a:∀ (l:List (O×List O×dk)),(∀p∈l,LOk p.1 p.2.1 p.2.2)->jF ((a4i (l.map λp=>(p.1,p.2.1))).drop 1)=l.map λp=>({p.2.2 with url:=p.1}:dk)
 | [],_=>rfl
 |p::l,h=>by
  have d:=a8a l λq c=>h q (by simp[c]);have hp:=h p Oc
  have e:(a4i ((p::l).map λp=>(p.1,p.2.1))).drop 1=32::(a3V p.1 p.2.1++a4i (l.map λp=>(p.1,p.2.1))):=by
   have a:a4i ((p::l).map λp=>(p.1,p.2.1))=([44,32]++a3V p.1 p.2.1)++a4i (l.map λp=>(p.1,p.2.1)):=rfl;rw[a];simp
  rw[e,b3w,a92 hp,d]
  ·rfl
  cases l with
  |nil=>exact .inl rfl
  |cons q l=>exact .inr ⟨a3V q.1 q.2.1++a4i (l.map λp=>(p.1,p.2.1)),by
   have a:a4i ((q::l).map λp=>(p.1,p.2.1))=([44,32]++a3V q.1 q.2.1)++a4i (l.map λp=>(p.1,p.2.1)):=rfl;rw[a];simp⟩

theorem b0L(i:eu):eS i=a3V (dA i.url true) i.words:=rfl

theorem a6N:∀ (l:List eu),(l.flatMap λy=>[44,32]++eS y)=a4i (l.map λi=>(dA i.url true,i.words))
 | []=>rfl
 |i::l=>by
  have a:=a6N l;show([44,32]++eS i)++(l.flatMap λy=>[44,32]++eS y)=([44,32]++a3V (dA i.url true) i.words)++a4i (l.map λi=>(dA i.url true,i.words));rw[a];rfl

theorem a79(D:eu->dk)(l:List eu)(h:∀ i∈l,LOk (dA i.url true) i.words (D i)):jF (ij l)=l.map λi=>{D i with url:=dA i.url true}:=by
 cases l with
 |nil=>rfl
 |cons i l =>
  have a:=a8a (l.map λi=>(dA i.url true,i.words,D i)) (by
   intro p hp;obtain⟨j,c,rfl⟩:=dt.mp hp;exact h j (by simp[c]))
  rw[lu,lu]at a;show jF (eS i++(l.flatMap λy=>[44,32]++eS y))=_;rw[b0L,a6N,a92 (h i Oc)]
  ·show _::jF ((a4i (l.map λi=>(dA i.url true,i.words))).drop 1)=_
   have e:(l.map λi=>(dA i.url true,i.words))=(l.map ((λp:O×List O×dk=>(p.1,p.2.1)) ∘ λi=>(dA i.url true,i.words,D i))):=rfl;rw[e,a];rfl
  cases l with
  |nil=>exact .inl rfl
  |cons q l=>exact .inr ⟨a3V (dA q.url true) q.words++a4i (l.map λi=>(dA i.url true,i.words)),by show([44,32]++a3V (dA q.url true) q.words)++a4i (l.map λi=>(dA i.url true,i.words))=_;simp⟩
theorem a9U(b:Url)(s:O)(ws:List O):(ef b s ws).words=ws:=by
 unfold ef
 split <;>rfl

theorem a7c{kind:Int}{b:Url}{s:O}(g:Good b):∀ i∈(mg kind b s).items,i.right=true->Good i.url:=by
 have key:∀ (s:O) (ws:List O),(ef b s ws).right=true->Good (ef b s ws).url:=λs ws h=>by
  obtain⟨u,Y,I⟩:=yE h;rw[I];exact wy g Y
 intro i hi a;unfold mg at hi
 split at hi
 ·obtain rfl:i=ef b s []:=by simpa using hi
  exact key _ _ a
 split at hi
 ·obtain⟨c,_,rfl⟩:=dt.mp hi
  exact key _ _ a
 split at hi
 ·split at hi
  ·cases hi
  next r _ =>
  dsimp only at hi
  split at hi
  ·obtain rfl:i=ef b r.url []:=by simpa using hi
   exact key _ _ a
  obtain rfl:i=⟨true,b,[]⟩:=by simpa using hi
  exact g
 cases hi

theorem a7N{kind:Int}{l:List eu}{i:eu}(h:i∈pI kind l):i∈l/\i.right=true/\(kind=2->Fit (dA i.url true)):=by
 obtain⟨Y,I⟩:=a3J.mp h;unfold pH at I;rw[ct,kj,decide_eq_true_eq]at I;exact⟨Y,I.1,λa=>(b1u _).mp (I.2.resolve_left (λh=>h a))⟩

theorem a68{kind:Int}{b:Url}{s:O}(f:kind=2):∀ i∈(mg kind b s).items,∃d,jM i.words=some d:=by
 intro i hi;unfold mg at hi;rw[if_neg M0,if_pos f]at hi;obtain⟨c,a,rfl⟩:=dt.mp hi;obtain⟨d,e,_⟩:=wO s.length s c a;exact⟨d,by rw[a9U];exact e⟩

theorem b0V{u:Url}(g:Good u):∃ x r,dA u true=x::r/\iQ (G x)=true:=by
 have h:=g.aJ.1;rw[a57];cases a:u.aJ with
 |nil=>rw[a]at h;cases h
 |cons c t =>
  rw[a]at h;unfold wH at h;rw[ct]at h;exact⟨c,_,rfl,h.1⟩

theorem b2y:∀ k:Fin 256,iQ (G (UInt8.ofNat k.val))=true->f8 (UInt8.ofNat k.val)=false/\UInt8.ofNat k.val≠34/\UInt8.ofNat k.val≠39:=by decide +kernel

theorem b33{x:UInt8}(h:iQ (G x)=true):f8 x=false/\x≠34/\x≠39:=ku (P:=λx=>iQ (G x)=true->f8 x=false/\x≠34/\x≠39) b2y x h

theorem b2N{u:Url}(g:Good u):xI (bT (dA u true))=dA u true:=by
 obtain⟨x,r,e,X⟩:=b0V g;have h:=b33 X;rw[e];have Y:bT (x::r)=x::r:=Fv h.1;rw[Y];show(if x=34\/x=39 then r.takeWhile (· != x)else x::r)=_;rw[if_neg (λa=>a.elim h.2.1 h.2.2)]

theorem b1S{l:List eu}(h:∀ i∈l,Good i.url/\∃ d,jM i.words=some d):∀ y∈ij l,a1X y:=by
 have key:∀ i∈l,∀y∈eS i,a1X y:=by
  intro i hi y hy;obtain⟨g,d,a⟩:=h i hi;unfold eS at hy;rcases bO.mp hy with hy|hy
  ·exact a91 g y hy
  obtain⟨x,X,hy⟩:=S8.mp hy;rcases bO.mp hy with hy|hy
  ·obtain rfl:y=32:=by simpa using hy
   unfold a1X;decide
  exact(b2c (((Us a).1 x X).c y hy)).2
 cases l with
 |nil=>intro y hy;cases hy
 |cons i r =>
  intro y hy;rcases bO.mp hy with hy|hy
  ·exact key i fA y hy
  obtain⟨j,e,hy⟩:=S8.mp hy;rcases bO.mp hy with hy|hy
  ·simp only[aK,cV,or_false]at hy
   rcases hy with rfl|rfl <;>(unfold a1X;decide)
  exact key j (cN _ e) y hy

theorem b0K:∀ k:Fin 256,pG (UInt8.ofNat k.val)=true->a1X (UInt8.ofNat k.val):=by decide +kernel

theorem b2w{x:UInt8}(h:pG x=true):a1X x:=ku (P:=λx=>pG x=true->a1X x) b0K x h

theorem b3q{d x:O}(a:∀ y∈d,pG y=true)(X:∀ y∈x,a1X y):∀ y∈X8 d true x,a1X y:=by
 intro y hy;unfold X8 at hy;rw[if_pos rfl]at hy;rcases bO.mp hy with hy|hy
 ·rcases bO.mp hy with hy|hy
  ·exact b2w (a y hy)
  simp only[aK,cV,or_false]at hy;rcases hy with rfl|rfl|rfl|rfl|rfl|rfl <;>(unfold a1X;decide)
 exact X y hy

theorem a8c{l:O}(h:∀ y∈l,a1X y):jw (qM l)=l:=by
 refine b2O (a1r l λx X=>?_) λx X=>?_
 ·have:=(h x X).2
  omega
 rintro rfl;have:=(h 0 X).1;exact absurd this P8

theorem b0S{u:Url}(g:Good u)(b:Url):kF b (dA u true)=some u:=a83 g b

theorem a6n{u:Url}(g:Good u)(b:Url)(ws:List O):ef b (dA u true) ws=⟨true,u,ws⟩:=by
 unfold ef;rw[b0S g b]

theorem a9P{i:eu}(h:i.right=true):(⟨true,i.url,i.words⟩:eu)=i:=by
 cases i;cases h;rfl

def a6c:List O:=[[38,97,109,112,59],[38,35,51,52,59],[38,35,51,57,59],[38,35,54,48,59],[38,35,54,50,59],[38,35,57,54,59]]

def a6z(s:O):Bool:=a6c.any λt=>Lib.hasPrefix s t

def okC(s:O):Bool:=match s with
 | []=>true
 |x::_=>!(decide (G x<32\/126<G x)) && !((decide (G x=38) && !a6z s)||(decide (G x≠38)&&decide (z6 (G x) ≠ [])))

def a5d:O->Bool
 | []=>true
 |x::r=>okC (x::r)&&a5d r

theorem b39{x:UInt8}{r:O}(h:a1X x)(a:G x≠38)(he:z6 (G x)=[]):okC (x::r)=true:=by
 unfold okC;dsimp only;rw[decide_eq_false (show ¬(G x<32\/126<G x)from λc=>by have Y:=h.1;have I:=h.2;omega),decide_eq_false a,decide_eq_false (show ¬z6 (G x) ≠ []from λc=>c he),Bool.and_false];rfl

theorem a8Z{x:UInt8}{r:O}(h:okC (x::r)=true):a5d (x::r)=a5d r:=by
 rw[a5d,h,Ev]

theorem b4x(t r:O):Lib.hasPrefix (t++r) t=true:=by
 unfold Lib.hasPrefix;simp

theorem b4H{t:O}(c:t∈a6c)(X:∃ q,t=38::q/\∀ x∈q,a1X x/\G x≠38/\z6 (G x)=[])(r:O):a5d (t++r)=a5d r:=by
 obtain⟨q,rfl,a⟩:=X;have hw:a6z ((38::q)++r)=true:=m8.mpr ⟨_,c,b4x _ _⟩
 have h0:okC (38::(q++r))=true:=by
  unfold okC;dsimp only;rw[show a6z (38::(q++r))=true from hw];rfl
 show a5d (38::(q++r))=_;rw[a8Z h0];clear hw h0 c
 induction q with
 |nil=>rfl
 |cons x q e =>
  obtain⟨Y,I,d⟩:=a x fA;show a5d (x::(q++r))=_;rw[a8Z (b39 Y I d),e λy hy=>a y (cN _ hy)]

theorem b4D:∀ t∈a6c,∃q,t=38::q/\∀ x∈q,a1X x/\G x≠38/\z6 (G x)=[]:=by
 intro t a;unfold a6c at a;simp only[aK,cV,or_false]at a;rcases a with rfl|rfl|rfl|rfl|rfl|rfl <;>exact⟨_,rfl,by unfold a1X;decide⟩

theorem b2g{c:Int}(h:z6 c ≠ []):z6 c∈a6c:=by
 revert h;unfold z6 a6c
 repeat' split
 all_goals simp

theorem b2i:∀ {l:O},(∀y∈l,a1X y)->a5d (qM l)=true
 | [],_=>rfl
 |x::r,h=>by
  have c:=b2i (l:=r) λy hy=>h y (cN _ hy);show a5d (Dh x++qM r)=true;unfold Dh
  split
  ·next he =>
   have a:G x≠38:=λh=>by rw[h]at he;exact absurd he P8
   show a5d (x::qM r)=true;rw[a8Z (b39 (h x fA) a he),c]
  next he=>rw[b4H (b2g he) (b4D _ (b2g he)),c]
section
variable {ops:Array Oper} {rest:List Oper} {o:Oper} {a:Act} {w:H} {Q:Exit->Act->H->Prop}
theorem a1Y{K:Act->H->Prop}(src dst:TypeId)(x:Operand)(e:o.op=.convert src dst x)(v:Z)(X:a.eval x=v){c:Z}{d:H}(f:(convert src dst v).run prog w=.ok c d)(h:K (a.put o.dst c) d):Oper.wp prog o a w K Q:=by
 unfold Oper.wp execOp;simp only[e,X,Sem.run_bind,Sem.run_pure,Result.andThen_ok,f];exact h
end
theorem a1W{o:Oper}{a:Act}{w:H}{K:Act->H->Prop}{Q:Exit->Act->H->Prop}(x:Operand)(f:o.op=.convert 9 25 x)(l:O)(X:a.eval x=S l)(e:l.length<=maxLen)
  (h:∀ d c,Sl c.heap.size c d (Lib.byteCells l)->r7 w c->K (a.put o.dst d) c):Oper.wp prog o a w K Q:=by
 obtain⟨d,c,g,i,_,U⟩:=Wa l w e;exact a1Y _ _ x f (S l) X g (h d c i U)
theorem b2K{b u:Url}{t s:O}(ht:t.length<=300)(U:eF t=some b)(h:kF b s=some u):Ul (300+s.length) (6*(300+s.length)+6) u:=by
 have h0:=oG (L:=300+s.length) M0 M0 U;have c:=SD (L:=300+s.length) M0 M0 h0 h;exact c.more M0

theorem a6m{b u:Url}{t s:O}(c:t.length<=300)(U:eF t=some b)(h:kF b s=some u):(dA u true).length<=118*s.length+35536:=by
 have:=AQ (b2K c U h) (qQ (wy (kG U) h)) M0;omega

theorem a7Q{kind:Int}{b:Url}{t:O}{W:Nat}(g:t.length<=300)(U:eF t=some b):∀ {l:List dk},(∀c∈l,(du c.words).length<=W) ->
  lj (pI kind (l.map λc=>ef b c.url c.words))<=118*sM l+(35538+W)*l.length
 | [],_=>ag _
 |c::l,h=>by
  have p:=a7Q (kind:=kind) g U λd m=>h d (cN _ m);have hw:=h c fA;have e:sM (c::l)=(c.url.length+1)+sM l:=rfl;have j:(35538+W)*(l.length+1)=(35538+W)*l.length+(35538+W):=c0N _ _;rw[e,dh,ah,j];unfold pI at p ⊢;cases f:pH kind (ef b c.url c.words)with
  |false =>
   rw[aZ (by rw[f];simp)];omega
  |true =>
   rw[aU f]
   have n:(ef b c.url c.words).right=true:=by
    unfold pH at f;rw[ct]at f;exact f.1
   obtain⟨u,hu,hi⟩:=yE n;have hs:=a6m g U hu;have i:lj (ef b c.url c.words::(l.map λc=>ef b c.url c.words).filter (pH kind))=((eS (ef b c.url c.words)).length+2)+lj ((l.map λc=>ef b c.url c.words).filter (pH kind)):=rfl
   have k:(eS (ef b c.url c.words)).length=(dA u true).length+(du c.words).length:=by
    rw[hi];unfold eS;rw[ae]
   rw[i,k];omega

theorem a9Z{kind:Int}{b:Url}{t s:O}{i:eu}{n:Nat}(d:t.length<=300)(U:eF t=some b)(hs:s.length<=n)(hi:i=ef b s []\/i=⟨true,b,[]⟩):lj (pI kind [i])<=118*n+35538:=by
 unfold pI;cases c:pH kind i with
 |false =>
  rw[aZ (by rw[c];simp)];exact aL _
 |true =>
  rw[aU c]
  have f:i.right=true:=by
   unfold pH at c;rw[ct]at c;exact c.1
  have key:∀ u:Url,(dA u true).length<=118*n+35536->lj [(⟨true,u,[]⟩:eu)]<=118*n+35538:=λu hu=>by
   show((eS ⟨true,u,[]⟩).length+2)+0<=_;unfold eS;rw[ae];show(dA u true).length+0+2+0<=_;omega
  rcases hi with rfl|rfl
  ·obtain⟨u,hu,e⟩:=yE f
   have:=a6m d U hu;show lj [ef b s []]<=_;rw[e];exact key u M0
  have h0:=AQ ((oG (L:=300) d M0 U)) (qQ (kG U)) M0;exact key b M0

theorem b1Q{kind:Int}{b:Url}{t s:O}(f:t.length<=300)(U:eF t=some b)(g:s.length<=5400):lj (pI kind (mg kind b s).items)<=142000000/\(kind≠2->lj (pI kind (mg kind b s).items)<=700000):=by
 have hnil:lj (pI kind [])=0:=rfl;unfold mg
 split
 ·have:=a9Z (kind:=kind) (n:=5400) f U g (.inl rfl)
  dsimp only;exact⟨M0,λ_=>M0⟩
 split
 ·next I =>
  refine⟨?_,λh=>absurd I h⟩
  have Y:=a7Q (kind:=kind) (W:=16203) f U (l:=jF s) λc e=>by
   obtain⟨d,m,_⟩:=wO s.length s c e;have p:=Zm m;have hw:=Hm (n:=5400) λw hw=>am (DP s.length s c e w hw) g;have:5401*c.words.length<=5401*3:=pj _ p;omega
  have h3:=Wn s;have j:=JJ λc e=>zf s.length s c e
  have k:(jF s).length<=2700:=by
   have:2*(jF s).length<=sM (jF s):=j;omega
  have h6:(35538+16203)*(jF s).length<=(35538+16203)*2700:=pj _ k;show lj (pI kind ((jF s).map λc=>ef b c.url c.words))<=_;omega
 split
 ·split
  ·exact⟨aL _,λ_=>aL _⟩
  next r q =>
  have hl:=sD q
  have:=a9Z (kind:=kind) (s:=r.url) (n:=5400) (i:=if r.has=true then ef b r.url []else⟨true,b,[]⟩) f U M0 (by
   split
   ·exact .inl rfl
   exact .inr rfl)
  exact⟨by dsimp only;omega,λ_=>by dsimp only;omega⟩
 exact⟨aL _,λ_=>aL _⟩

theorem b1R{kind:Int}{b:Url}{t s:O}(g:t.length<=300)(U:eF t=some b)(hs:s.length<=5400)(I:kind=2):∀ i∈pI kind (mg kind b s).items,(dA i.url true).length<=1048576:=by
 intro i hi;obtain⟨Y,f,_⟩:=a7N hi;unfold mg at Y;rw[if_neg M0,if_pos I]at Y;obtain⟨c,d,rfl⟩:=dt.mp Y;obtain⟨u,hu,e⟩:=yE f;have:=a6m g U hu;have:=((oV s).2 c d).1;rw[e];show(dA u true).length<=_;omega

theorem b0B{l:List eu}:(Pj l).length<=lj l:=by
 cases l with
 |nil=>exact ag _
 |cons i l =>
  show(dA i.url true).length<=((eS i).length+2)+lj l;unfold eS;rw[ae];omega
theorem a90{kind:Int}{p:eu->Bool}(hp:Sel kind p){l:List eu}{i:eu}(h:i∈l.filter p):i∈pI kind l :=
 a3J.mpr ⟨(a3J.mp h).1,hp i (a3J.mp h).2⟩

theorem a3S{kind:Int}{p:eu->Bool}(hp:Sel kind p){l:List eu}{i:eu}(h:i∈l.filter p):i∈l/\i.right=true/\(kind=2->Fit (dA i.url true)):=a7N (a90 hp h)

theorem a6g{kind:Int}{p:eu->Bool}(hp:Sel kind p){b:Url}{s:O}(g:Good b):∀ y∈ye kind ((mg kind b s).items.filter p) (mg kind b s).delay,a1X y:=by
 have d:∀ i∈(mg kind b s).items.filter p,Good i.url:=λi hi=>a7c g i (a3S hp hi).1 (a3S hp hi).2.1
 have c:∀ y∈Pj ((mg kind b s).items.filter p),a1X y:=by
  cases j:(mg kind b s).items.filter p with
  |nil=>intro y hy;cases hy
  |cons i r=>exact a91 (d i (by rw[j];exact fA))
 unfold ye
 split
 ·exact c
 split
 ·next f=>exact b1S λi hi=>⟨d i hi,a68 f i (a3S hp hi).1⟩
 split
 ·next Y I e =>
  refine b3q ?_ c;unfold mg;rw[if_neg Y,if_neg I,if_pos e];cases k:Dx s with
  |none=>intro y hy;cases hy
  |some r=>exact(a7Z k).a
 intro y hy;cases hy

theorem a7B{kind:Int}{p:eu->Bool}(hp:Sel kind p){b:Url}{s:O}(g:Good b)(f:(mg kind b s).items.filter p ≠ []) :
  mg kind b (jw (kK kind ((mg kind b s).items.filter p) (mg kind b s).delay))=⟨(mg kind b s).items.filter p,(mg kind b s).delay⟩:=by
 have hw:kK kind ((mg kind b s).items.filter p) (mg kind b s).delay=qM (ye kind ((mg kind b s).items.filter p) (mg kind b s).delay):=by
  unfold kK;rw[if_neg f]
 rw[hw,a8c (a6g hp g)];by_cases Y:kind=1
 ·subst Y
  have e:mg 1 b s=⟨[ef b s []],[]⟩:=by unfold mg;rw[if_pos rfl]
  rw[e]at f ⊢;dsimp only at f ⊢;cases m:p (ef b s [])with
  |false=>exact absurd (show [ef b s []].filter p=[]from aZ (by rw[m];simp)) f
  |true =>
   have k:[ef b s []].filter p=[ef b s []]:=aU m;have hm:ef b s [] ∈ [ef b s []].filter p:=by rw[k];exact fA
   obtain⟨u,hu,hi⟩:=yE (a3S hp hm).2.1;rw[k,hi];have v:ye 1 [⟨true,u,[]⟩] []=dA u true:=by unfold ye;rw[if_pos rfl];rfl
   rw[v];unfold mg;rw[if_pos rfl,a6n (wy g hu)]
 by_cases I:kind=2
 ·obtain⟨L,J⟩:=V ((mg kind b s).items.filter p)
  have M:(mg kind b s).delay=[]:=by unfold mg;rw[if_neg Y,if_pos I]
  have hp:∀ i∈L,i.right=true/\Good i.url/\∃ d,LOk (dA i.url true) i.words d:=by
   intro i hi;rw[J]at hi;obtain⟨d,e⟩:=a68 I i (a3S hp hi).1;exact⟨(a3S hp hi).2.1,a7c g i (a3S hp hi).1 (a3S hp hi).2.1,d,(a3S hp hi).2.2 I,e⟩
  rw[<-J,M];have v:ye kind L []=ij L:=by unfold ye;rw[if_neg Y,if_pos I]
  rw[v]
  have es:=a79 (λi=>(jM i.words).getD C0) L λi hi=>by
   obtain⟨_,_,d,y⟩:=hp i hi;rw[y.d];exact y
  unfold mg;rw[if_neg Y,if_pos I,es,lu]
  congr 1
  have:∀ l:List eu,(∀i∈l,i∈L)->l.map ((λc:dk=>ef b c.url c.words) ∘ λi=>{(jM i.words).getD C0 with url:=dA i.url true})=l:=by
   intro l
   induction l with
   |nil=>intro _;rfl
   |cons i r P =>
    intro h;obtain⟨m,z,d,y⟩:=hp i (h i fA);rw[dh,P λj N=>h j (cN _ N)]
    congr 1
    show ef b (dA i.url true) ((jM i.words).getD C0).words=i;rw[y.d];show ef b (dA i.url true) d.words=i;rw[(Us y.d).2,a6n z,a9P m]
  exact this L λi hi=>hi
 by_cases D:kind=3
 ·subst D
  cases m:Dx s with
  |none =>
   have e:mg 3 b s=⟨[],[]⟩:=by unfold mg;rw[if_neg Y,if_neg I,if_pos rfl,m]
   rw[e]at f;exact absurd rfl f
  |some r =>
   have e:mg 3 b s=⟨[if r.has=true then ef b r.url []else⟨true,b,[]⟩],r.delay⟩:=by unfold mg;rw[if_neg Y,if_neg I,if_pos rfl,m]
   obtain⟨x,X⟩:=V ((if r.has=true then ef b r.url []else(⟨true,b,[]⟩:eu)))
   have B:x.words=[]:=by
    rw[X]
    split
    ·exact a9U _ _ _
    rfl
   have n:=a7c (kind:=3) (s:=s) g;rw[e,<-X]at f n ⊢;dsimp only at f n ⊢;cases K:p x with
   |false=>exact absurd (show [x].filter p=[]from aZ (by rw[K];simp)) f
   |true =>
    have k:[x].filter p=[x]:=aU K;have hm:x ∈ [x].filter p:=by rw[k];exact fA
    have C:=(a3S hp hm).2.1;have t:=n x fA C;rw[k]
    have v:ye 3 [x] r.delay=r.delay++([59,32,117,114,108,61]++dA x.url true):=by
     unfold ye X8;rw[if_neg P8,if_neg P8,if_pos rfl,if_pos rfl,bB];rfl
    have q:=b3r (x:=dA x.url true) (a7Z m);rw[b2N t]at q;rw[v];unfold mg;rw[if_neg Y,if_neg I,if_pos rfl,q];dsimp only;rw[if_pos rfl,a6n t];have:=a9P C;rw[B]at this;rw[this]
 have e:mg kind b s=⟨[],[]⟩:=by unfold mg;rw[if_neg Y,if_neg I,if_neg D]
 rw[e]at f;exact absurd rfl f

theorem a8r{kind:Int}{p:eu->Bool}(hp:Sel kind p){b:Url}{t s:O}(k:t.length<=300)(U:eF t=some b)(j:s.length<=5400) :
  (ye kind ((mg kind b s).items.filter p) (mg kind b s).delay).length<=142000000/\(kind≠2->(ye kind ((mg kind b s).items.filter p) (mg kind b s).delay).length<=1000000):=by
 obtain⟨e,f⟩:=b1Q (kind:=kind) k U j;have c:=JD hp (mg kind b s).items;have Y:=am c e;have I:=λh=>am c (f h);clear e f c;have i:=V0 (kind:=kind) (b:=b) (s:=s);generalize (mg kind b s).delay=d at i ⊢;generalize (mg kind b s).items.filter p=L at Y I ⊢;have h4:=b0B (l:=L);have h5:=QM L;unfold ye
 split
 ·next g=>exact⟨M0,λh=>by have:=I h;omega⟩
 split
 ·next g=>exact⟨M0,λh=>absurd g h⟩
 next g =>
 have:=I g
 split
 ·unfold X8
  rw[if_pos rfl];simp only[ae,ah,aO];exact⟨M0,λ_=>M0⟩
 exact⟨aL _,λ_=>aL _⟩

theorem a6C{kind:Int}{p:eu->Bool}(hp:Sel kind p){b:Url}{t s:O}(m:t.length<=300)(U:eF t=some b)(l:s.length<=5400)(k:(mg kind b s).items.filter p ≠ []) :
  TX kind (kK kind ((mg kind b s).items.filter p) (mg kind b s).delay)/\∃ B,kK kind ((mg kind b s).items.filter p) (mg kind b s).delay=qM B/\(∀y∈B,a1X y):=by
 have g:=kG U;have f:=a6g hp (s:=s) g;obtain⟨l1,n⟩:=a8r hp m U l
 have hw:kK kind ((mg kind b s).items.filter p) (mg kind b s).delay=qM (ye kind ((mg kind b s).items.filter p) (mg kind b s).delay):=by
  unfold kK;rw[if_neg k]
 have r:∀ c∈jF (ye kind ((mg kind b s).items.filter p) (mg kind b s).delay),c.url.length<=1048576:=by
  by_cases I:kind=2
  ·have q:ye kind ((mg kind b s).items.filter p) (mg kind b s).delay=ij ((mg kind b s).items.filter p):=by unfold ye;rw[if_neg M0,if_pos I]
   have v:=λi (hi:i∈(mg kind b s).items.filter p)=>b1R (kind:=kind) m U l I i (a90 hp hi)
   have hp:∀ i∈(mg kind b s).items.filter p,LOk (dA i.url true) i.words ((jM i.words).getD C0):=by
    intro i hi;obtain⟨d,e⟩:=a68 I i (a3S hp hi).1;rw[e];exact⟨(a3S hp hi).2.2 I,e⟩
   rw[q,a79 (λi=>(jM i.words).getD C0) _ hp];intro c j;obtain⟨i,hi,rfl⟩:=dt.mp j;exact v i hi
  intro c j;exact am ((oV _).2 c j).1 (am (n I) P8)
 generalize ye kind ((mg kind b s).items.filter p) (mg kind b s).delay=B at *;rw[hw];refine⟨?_,B,rfl,f⟩;have he:=Co B
 have h0:∀ x∈qM B,x≠0:=a7F λx X=>by
  rintro rfl;exact absurd (f 0 X).1 P8
 have u:kz (dY (qM B))=qM B:=by
  rw[uH h0,Uq];refine a1r _ λx X=>?_;obtain⟨y,hy,X⟩:=S8.mp X;exact a9X (by have:=(f y hy).2;omega) x X
 refine⟨M0,by rw[uH h0];omega,by rw[u];omega,?_⟩;rw[a8c f];exact⟨M0,r,n⟩
theorem a6s{p:qh}{kind:Int}{i:eu}(h:jO p kind i=true):i.right=true/\uP p i.url=true:=by
 unfold jO at h;rw[ct,ct]at h;exact h.1

structure a7g (p:qh) (b:Url) (el name raw:O) (v:Vrd):Prop where
 kn:gA el name≠0
 rg:oy b=true
 l:(raw.length:Int)<=p.most
 ne:(mg (gA el name) b (jw raw)).items.filter (jO p (gA el name)) ≠ []
 w:v=⟨3,0,kK (gA el name) ((mg (gA el name) b (jw raw)).items.filter (jO p (gA el name))) (mg (gA el name) b (jw raw)).delay⟩
 o:(v.o.length:Int)<=p.most

theorem a59{p:qh}{b:Url}{name:O}(h:(dQ p b el name raw).kind=3):a7g p b el name raw (dQ p b el name raw):=by
 revert h;unfold dQ
 split
 ·intro h;exact absurd h P8
 next Y =>
 split
 ·intro h;exact absurd h P8
 next I =>
 split
 ·intro h;exact absurd h P8
 next c =>
 split
 ·intro h;exact absurd h P8
 split
 ·intro h;exact absurd h P8
 next d =>
 split
 ·intro h;exact absurd h P8
 next h6=>exact λ_=>⟨Y,by simpa using c,M0,d,rfl,by dsimp only;omega⟩

theorem a6M{p:qh}{b:Url}{name:O}{v:Vrd}(g:Good b)(k:a7g p b el name raw v) :
  mg (gA el name) b (jw v.o)=⟨(mg (gA el name) b (jw raw)).items.filter (jO p (gA el name)),(mg (gA el name) b (jw raw)).delay⟩:=by
 rw[k.w];exact a7B (Ro p _) g k.ne

theorem b3j{p:qh}{b:Url}{name:O}{v:Vrd}(g:Good b)(k:a7g p b el name raw v):dQ p b el name v.o=v:=by
 have j:=a6M g k;unfold dQ;rw[if_neg k.kn,if_neg (by have:=k.o;omega),if_neg (by rw[k.rg];simp),j];dsimp only
 have f:((mg (gA el name) b (jw raw)).items.filter (jO p (gA el name))).filter (jO p (gA el name))=(mg (gA el name) b (jw raw)).items.filter (jO p (gA el name)):=by
  rw[b3z];simp
 have e:((mg (gA el name) b (jw raw)).items.filter (jO p (gA el name))).any (·.right)=true:=by
  cases c:(mg (gA el name) b (jw raw)).items.filter (jO p (gA el name))with
  |nil=>exact absurd c k.ne
  |cons i l =>
   have hi:i∈(mg (gA el name) b (jw raw)).items.filter (jO p (gA el name)):=by rw[c];exact fA
   rw[List.any_cons,(a6s (a3J.mp hi).2).1];rfl
 have d:=k.o;rw[k.w]at d;rw[f,e,if_neg Oc,if_neg k.ne,if_neg (by dsimp only at d;omega)];exact k.w.symm
theorem b0D{p:qh}{b:Url}{name t:O}{v:Vrd}(g:t.length<=300)(U:eF t=some b)(e:raw.length<=300)(k:a7g p b el name raw v):Tj p (gA el name) b v.o:=by
 have f:=vw p (kind:=gA el name) (T:=300) ⟨M0,M0⟩ g U e;have c:=a6M (kG U) k;have j:=(a6C (kind:=gA el name) (Ro p _) g U (WC e) k.ne).1;refine⟨by rw[k.w];exact j,?_,?_,?_,?_⟩
 ·rw[c]
  exact λi hi=>f.u i (a3J.mp hi).1
 ·rw[c]
  exact am (dO _ _) f.n
 ·rw[c]
  show(ij (((mg (gA el name) b (jw raw)).items.filter (jO p (gA el name))).filter (jO p (gA el name)))).length<=_;rw[b3z];simp only[b65];exact f.m
 rw[c];exact f.d
theorem a1P(kind:Int)(w:H)(h0:0<=kind):bP prog 11 #[.int .i64 kind] w (.tuple #[S (a1k kind).1,S (a1k kind).2]):=by
 have g:Int.tmod kind 4=kind%4:=ei h0;have f:0<=kind%4/\kind%4<4:=M0;obtain⟨R,c⟩:=V (a1k kind);rw[<-c];unfold a1k at c;obtain⟨r,d⟩:=V (kind%4);rw[<-d]at c g f;have e:=F c;clear c d h0;have hw:IntKind.i64.wrap r=r:=IntWalk.i64_in _ M0;rcases(show r=1\/r=2\/r=3\/r=0 by omega)with rfl|rfl|rfl|rfl
 all_goals
  go_enter func11,ntmps11;go_wp2_with fail
  go_ret2
  exact⟨by rw[e.o];rfl,rfl⟩
theorem b4G:∀ (k:Nat) (_:k<6) (w:H),(Instr.index 115 (.agg #[.string ⟨#[38,97,109,112,59]⟩,.string ⟨#[38,35,51,52,59]⟩,.string ⟨#[38,35,51,57,59]⟩,.string ⟨#[38,35,54,48,59]⟩,.string ⟨#[38,35,54,50,59]⟩,.string ⟨#[38,35,57,54,59]⟩]) (.int .i64 (k:Int))).run prog w=.ok (.string (E (a6c.getD k []))) w
 |0,_,_=>Rz
 |1,_,_=>Rz
 |2,_,_=>Rz
 |3,_,_=>Rz
 |4,_,_=>Rz
 |5,_,_=>Rz
 |k+6,hk,_=>M0
theorem b2t(s:O)(w:H):bF prog 42 #[.string (E s)] w (.bool (a6z s)):=by
 obtain⟨b,U⟩:=V (E s);have p:=F<|λ(t:O) (W:H)=>(show bP prog 61 #[.string b,.string (E t)] W (.bool (Lib.hasPrefix s t))from by rw[U];exact mE s t W)
 have d:=F<|λ(k:Nat) (z:k<6) (h:Lib.hasPrefix s (a6c.getD k [])=true)=>(show a6z s=true from m8.mpr ⟨a6c.getD k [],by
  have:k=0\/k=1\/k=2\/k=3\/k=4\/k=5:=M0;rcases this with rfl|rfl|rfl|rfl|rfl|rfl <;>simp[a6c],h⟩)
 have c:=F<|λ(h:∀ j,j<6->Lib.hasPrefix s (a6c.getD j [])=false)=>(show a6z s=false from M6.mpr λt v=>by
  unfold a6c at v h;simp only[aK,cV,or_false]at v;rcases v with rfl|rfl|rfl|rfl|rfl|rfl
  ·simpa using h 0 P8
  ·simpa using h 1 P8
  ·simpa using h 2 P8
  ·simpa using h 3 P8
  ·simpa using h 4 P8
  simpa using h 5 P8)
 rw[<-U];clear U;go_enter func42,ntmps42;go_wp2_with fail
 go_loopw [2,4,6] (λ_ _ iv wr=>∃ k:Nat,k<=6/\iv=.int .i64 k/\Hid (∀j,j<k->Lib.hasPrefix s (a6c.getD j [])=false)/\Hid (r7 w wr)) (λ_ _ i _=>6-(intOf i).toNat)
 case atStart=>exact⟨0,M0,Oc,F (λj h=>absurd h (cL _)),F (by first|exact Below.refl _ _|exact(Below.refl _ _).alloc (ag _) _)⟩
 case round =>
  obtain⟨k,z,rfl,g,f⟩:=hrel;by_cases l:k<6
  ·have x:=F<|λW=>b4G k l W
   obtain⟨q,n⟩:=V (Lib.hasPrefix s (a6c.getD k []));have r:=F<|λW=>p.o (a6c.getD k []) W;rw[<-n]at r;cases q with
   |true =>
    have u:=F<|d.o k l n.symm;clear n g p d c
    go_wp2_with (first
     |(refine cP rfl 115 _ _ rfl _ _ _ rfl rfl x.o ?_)
     |(go_at_call 61;refine(r.o _).m ?_;rintro e w2 ⟨rfl,hw⟩;subst w2))
    go_ret;exact⟨by rw[u.o];rfl,f.o⟩
   |false =>
    have y:=F (show ∀j,j<k+1->Lib.hasPrefix s (a6c.getD j [])=false from λj hj=>by
     by_cases h:j=k
     ·subst h;exact n.symm
     exact g.o j M0)
    clear n g p d c
    go_wp2_with (first
     |(refine cP rfl 115 _ _ rfl _ _ _ rfl rfl x.o ?_)
     |(go_at_call 61;refine(r.o _).m ?_;rintro e w2 ⟨rfl,hw⟩;subst w2))
    go_roundw
    case rel=>exact⟨k+1,M0,by go_num,y,f⟩
    case measure=>simp[intOf];omega
  obtain rfl:k=6:=M0;have u:=F<|c.o g.o;clear p d c g;go_wp2_with fail;go_ret;exact⟨by rw[u.o];rfl,f.o⟩
theorem b2X:∀ {s:O},a5d s=true->∀ k,k<s.length->okC (s.drop k)=true
 | [],_,k,h=>absurd h (cL _)
 |x::r,h,k,c=>by
  rw[a5d,ct]at h;cases k with
  |zero=>exact h.1
  |succ k =>
   rw[ah]at c;exact b2X h.2 k M0
theorem b5o{x:UInt8}{r:O}(h:okC (x::r)=true):(32<=G x/\G x<=126)/\((G x=38/\a6z (x::r)=true)\/(G x≠38/\z6 (G x)=[])):=by
 unfold okC at h;dsimp only at h;rw[ct,a3W,a3W,decide_eq_false_iff_not,Bc]at h;obtain⟨Y,I,d⟩:=h;refine⟨M0,?_⟩;by_cases c:G x=38
 ·left
  rw[decide_eq_true c,Ev,Bool.not_eq_false']at I;exact⟨c,I⟩
 right
 rw[decide_eq_true c,Ev]at d;exact⟨c,by simpa using d⟩
theorem b3F(s:O)(w:H)(K:s.length<=1000000000000)(hp:a5d s=true):bF prog 22 #[.string (E s)] w (.bool true):=by
 obtain⟨b,U⟩:=V (E s);have HB:=F U;obtain⟨N,t⟩:=V (s.length);have hsz:b.size=N:=by rw[U,aF,t]
 have D:=F<|b2X hp;have y:=F t;have oP:N<=1000000000000:=M0;rw[<-U];clear U t hp K;go_enter func22,ntmps22;go_wp2_with fail
 go_loopw [2,3,4,7] (λ_ _ _ iv wr=>∃ k:Nat,k<=N/\iv=.int .i64 k/\Hid (r7 w wr)) (λ_ _ _ i _=>N-(intOf i).toNat)
 case atStart=>exact⟨0,M0,Oc,F (Below.refl _ _)⟩
 case round =>
  obtain⟨k,hk,rfl,d⟩:=hrel;by_cases hlt:k<N
  ·have p:k<s.length:=by have:=y.o;omega
   have u:k<b.size:=M0;have X:=cy HB.o u p;have g:=D.o k p;have f:s.drop k=s[k]::s.drop (k+1):=aC p;rw[f]at g;obtain⟨v,l⟩:=b5o g;rw[<-f]at l;obtain⟨L,j⟩:=V (E (s.drop k))
   have hxt:b.extract k N=L:=by
    rw[HB.o,j,cd,y.o,aP (by rw[aj];omega)]
   have c:=λW=>b2t (s.drop k) W;rw[<-j]at c;obtain⟨z,x⟩:=V (G s[k]);rw[<-x]at X v l;have B:¬ z<32:=M0;have z2:¬ 126<z:=M0;have z3:decide (z<32)=false:=decide_eq_false B;have z4:decide (126<z)=false:=decide_eq_false z2;rcases l with⟨l,hw⟩|⟨l,he⟩
   ·rw[hw]at c
    have J:=F c;rw[l]at X;clear c x v g f j hw l B z2 z3 z4
    go_wp2_with (first
     |(go_at_call 42;refine(J.o _).m ?_;rintro e w2 ⟨rfl,q⟩;have C:=F<|d.o.trans (q.m d.o.size);clear q))
    go_roundw
    case rel=>exact⟨k+1,M0,by go_num,C⟩
    case measure=>simp[intOf];omega
   have z5:(z==38)=false:=by simpa using l
   have n:=λW=>Cq z W;rw[he]at n;have r:=F n;have e1:(E []).toList.isEmpty=true:=by rw[aB];rfl
   have e2:(E []).toList=[]:=by rw[aB]
   clear c x v g f j n he
   go_wp2_with (first
    |(go_at_call 43;refine(r.o _).m ?_;rintro e w2 ⟨rfl,hw⟩;subst w2))
   go_roundw
   case rel=>exact⟨k+1,M0,by go_num,d⟩
   case measure=>simp[intOf];omega
  obtain rfl:k=N:=M0;go_wp2_with fail;go_ret;exact⟨rfl,d.o⟩
theorem b21(l:O)(w:H)(c:(qM l).length<=900000000):bF prog 23 #[.string (E (qM l))] w (.bool true):=by
 obtain⟨b,U⟩:=V (E (qM l))
 have d:l.length<=(qM l).length:=by
  clear c U
  induction l with
  |nil=>exact ag _
  |cons x r ih =>
   have e:qM (x::r)=Dh x++qM r:=rfl
   have Y:1<=(Dh x).length:=by
    unfold Dh
    split
    ·exact ag _
    next h=>exact b3A λh0=>h (az h0)
   rw[e,ae,ah];omega
 obtain⟨t,f⟩:=V (E l)
 have j:=F (show ∀W,bF prog 45 #[.string b] W (.string t)from λW=>by
  have h:=Ch (qM l) W c;rw[a9h,<-U,show S l=.string t by rw[f]]at h;exact h)
 have k:=F (show ∀W,bF prog 44 #[.string t] W (.string b)from λW=>by
  have h:=FB l W M0;rw[<-f,show S (qM l)=.string b by rw[U]]at h;exact h)
 rw[<-U];clear U f c d;go_enter func23,ntmps23
 go_wp2_with (first
  |(go_at_call 45;refine(j.o _).m ?_;rintro e w2 ⟨rfl,U⟩;have g:=F U;clear U)
  |(go_at_call 44;refine(k.o _).m ?_;rintro e w3 ⟨rfl,U⟩;have i:=F<|g.o.trans (U.m g.o.size);clear U))
 go_ret;exact⟨Oc,i.o⟩
theorem filterAgain_walk(p:qh)(i g j:Z)(t:ByteArray)(kind:Int)(rv:Z)(raw:O)(w:H)(hp:BB w i g j p)(_:t.size<=maxLen)(_:(Lit.int .i64 kind).wf=true)(hr:Sl w.heap.size w rv (Lib.byteCells raw))(ub:t.size<=1048576)(hE:Env w)(hN:NE w) :
  bF prog 7 #[.agg (aY i g j p.most),.string t,.int .i64 kind,rv] w (.bool true):=by
 have YF:=F<|λW (U:r7 w W)=>DM W (hE.below U) (hN.below U);have HF1:=F<|λW (U:r7 w W)=>KV p i g j W (hp.below U);obtain⟨u,q,h8,hq,hba⟩:=a1D t w ub hE;have H8:=F h8;have HQ:=F hq;have xt:=F hba;obtain⟨L,hL⟩:=V (raw.length)
 obtain⟨av,cv,rfl⟩:∃ a c,rv=.slice a L c:=by
  rcases AU hr with⟨rfl,a,c,rfl⟩|⟨b,o,c,_,_,rfl,_⟩
  ·exact⟨a,c,by rw[hL];rfl⟩
  exact⟨_,c,by rw[hL]⟩
 have HL:=F hL;have HP:=F hp;have HR:=F hr;have HE:=F hE;have HN:=F hN;obtain⟨W,hw,c1,G⟩:=a3E w 24 (aY i g j p.most);have C1:=F c1;have B2:=F G;have HW:=F hw;clear c1 G hw hL hp hr hE hN h8 hq hba;go_enter func7,ntmps7
 go_upto_region 1 with fail
 rw[HW.o]
 go_upto_region 4 with(first
  |(go_at_call 8;refine(YF.o _ B2.o).m ?_;rintro e w3 ⟨rfl,U⟩;have B3:=F<|dw B2.o U;have D1:=F<|C1.o.keep U;clear U)
  |((with_reducible apply bS);refine fj r5 (.tmp 4) rfl w.heap.size i g j p.most rfl D1.o ?_)
  |(go_at_call 9;refine(HF1.o _ B3.o).m ?_;rintro e w4 ⟨⟨b1,rfl,hf1⟩,U⟩;have F1:=F hf1;have B4:=F<|dw B3.o U;have E1:=F<|D1.o.keep U;clear U hf1)
  |(go_at_call 10;refine(xt.o _ B4.o).m ?_;rintro e w5 ⟨A,rfl,Y,hs,_,U⟩;have B5:=F<|dw B4.o U;have G1:=F<|E1.o.keep U;have S5:=F hs;have O5:=F Y;clear U hs Y)
  |((with_reducible apply bS);refine aM rfl 34 rfl _ _ (eD _) ?_;refine fL rfl (.tmp 11) (.tmp 22) rfl A u H8.o O5.o rfl rfl rfl ?_;intro w6 h3 U;have B6:=F<|dw B5.o U;have K:=F (show K27 w w6 p i g j (.slice av L cv) raw w5.heap.size A u []from⟨B6.o,HE.o.below B6.o,HN.o.below B6.o,G1.o.keep U,HP.o.below B6.o,(HR.o.below B6.o).more B6.o.size,h3,(S5.o.below U).more U.size,λx X=>by cases X⟩);clear h3 U))
 obtain⟨g11,hg⟩:=V (w5.heap.size);rw[<-hg]at K ⊢;clear hg C1 B2 HW YF HF1 xt B3 D1 B4 E1 B5 G1 S5 O5 HE HN HP HR B6;cases b1 with
 |false =>
  go_wp2_with fail;go_ret;exact⟨rfl,K.o.b⟩
 |true =>
  cases q with
  |false =>
   go_wp2_with fail;go_ret;exact⟨rfl,K.o.b⟩
  |true =>
   by_cases h3:(300:Int)<L
   ·go_wp2_with fail
    go_ret;exact⟨rfl,K.o.b⟩
   by_cases h0:kind<0
   ·go_wp2_with fail
    go_ret;exact⟨rfl,K.o.b⟩
   obtain⟨el,N⟩:=V (S (a1k kind).1);obtain⟨nm,R⟩:=V (S (a1k kind).2);have Z5:=F<|λW=>(show bP prog 11 #[.int .i64 kind] W (.tuple #[el,nm])from by rw[N,R];exact a1P kind W M0);obtain⟨f,hV⟩:=V (dQ p u (a1k kind).1 (a1k kind).2 raw);obtain⟨U,ht⟩:=HQ.o rfl;have P:raw.length<=300:=by have:=HL.o;omega
   have WV:=F<|λW (h:K27 w W p i g j (.slice av L cv) raw g11 A u [])=>(show bF prog 12 #[.agg (aY i g j p.most),.agg (ai A u),el,nm,.slice av L cv] W (.agg (vF f))from by
    rw[N,R,hV];exact h.call (F1.o rfl) U ht kind h.r (vw p (T:=300) ⟨M0,M0⟩ ht U P))
   have HKV:=F (show f.kind=3->a7g p u (a1k kind).1 (a1k kind).2 raw f from λh=>by rw[hV]at h ⊢;exact a59 h)
   have Hs:=F<|λ(h3:f.kind=3) (LL:List (Nat×Vrd)) W (h:K27 w W p i g j (.slice av L cv) raw g11 A u LL) (ev:Z) (hs:Sl W.heap.size W ev (Lib.byteCells f.o))=>(show bF prog 12 #[.agg (aY i g j p.most),.agg (ai A u),el,nm,ev] W (.agg (vF f))from by
    have k:=HKV.o h3;have I:=h.call (F1.o rfl) U ht kind hs (b0D ht U P k);rw[b3j (kG U) k]at I;rw[N,R];exact I)
   have C:=F (show f.kind=3->∃ B,f.o=qM B/\(qM B).length<=900000000/\a5d (qM B)=true from λh3=>by
    have k:=HKV.o h3;obtain⟨g,B,hB,ha⟩:=a6C (kind:=gA (a1k kind).1 (a1k kind).2) (Ro p _) ht U (WC P) k.ne;have e:f.o=kK (gA (a1k kind).1 (a1k kind).2) ((mg (gA (a1k kind).1 (a1k kind).2) u (jw raw)).items.filter (jO p (gA (a1k kind).1 (a1k kind).2))) (mg (gA (a1k kind).1 (a1k kind).2) u (jw raw)).delay:=by rw[k.w]
    exact⟨B,by rw[e,hB],by have:=g.n;rw[hB]at this;exact this,b2i ha⟩)
   obtain⟨z,hvk⟩:=V (f.kind);obtain⟨v,hvy⟩:=V (f.why);obtain⟨d,hvo⟩:=V (f.o);have D:=F (show vF f=bH z v (E d) by rw[hvk,hvy,hvo]);rw[D.o]at WV Hs;rw[<-hvo,<-hvk]at Hs C;clear hV N R U ht P F1 HQ HL HKV hvk hvy hvo
   go_upto_region 8 with(first
    |(go_at_call 11;refine(Z5.o _).m ?_;rintro e w7 ⟨rfl,hw⟩;subst hw)
    |((with_reducible apply bS);refine fj r5 (.tmp 4) rfl w.heap.size i g j p.most rfl K.o.c ?_)
    |((with_reducible apply bS);refine cR r5 (.tmp 11) rfl g11 A u H8.o rfl K.o.y ?_)
    |(go_at_call 12;refine(WV.o _ K.o).m ?_;rintro e w7 ⟨rfl,U⟩;have K7:=F<|K.o.below U;clear U)
    |((with_reducible apply bS);refine aM rfl 40 rfl _ _ (tV _) ?_;refine newV rfl (.tmp 15) (.tmp 50) rfl z v (E d) rfl rfl rfl ?_;intro w8 I U;rw[<-D.o]at I;have M:=F<|(K7.o.below U).push I;clear U I))
   obtain⟨g15,hg⟩:=V (w7.heap.size);rw[<-hg]at M ⊢;have s:=F<|λW (h:K27 w W p i g j (.slice av L cv) raw g11 A u [(g15,f)])=>(show CB W g15 40 (bH z v (E d))from by rw[<-D.o];exact h.l (g15,f) Oc);clear hg K K7 WV Z5 D;by_cases hk:z=3
   ·subst hk
    have Tw:=F<|Hs.o rfl;obtain⟨B,hB,hl,hpl⟩:=C.o rfl;have HB:=F hB;have HSL:=F (show d.length<=maxLen by rw[hB];unfold maxLen;omega);have HPP:=F<|λW=>b3F d W (by rw[hB];omega) (by rw[hB];exact hpl);have HSE:=F<|λW=>(show bF prog 23 #[.string (E d)] W (.bool true)from by rw[HB.o];exact b21 B W hl);clear hB hl hpl Hs C
    go_upto_region 10 with(first
     |((with_reducible apply bS);refine tY r5 (.tmp 51) rfl g15 0 40 _ (s.o _ M.o) _ vc0 rfl ?_))
    refine wp_region_held_drew (S:=λW=>K27 w W p i g j (.slice av L cv) raw g11 A u [(g15,f)]) Rz (by first|exact hHeld|exact M.o.below (bG (bg _))|exact J.o) (λhHeld=>?_);refine ek 0 ?_;refine ek 1 ?_;refine tq 2 rfl ?_ (λwS hSw=>?_) ?_;rotate_left
    ·(try dsimp only at hSw)
     refine je 24 (.tmp 4) ?_ w.heap.size (aY i g j p.most) _ underlying24 rfl wn ?_ ?_
     ·rfl
     ·rfl
     exact hSw.c
    try simp only[Act.put,fH,fI,fJ]
    refine tq 3 rfl ?_ (λwS hSw=>?_) ?_;rotate_left
    ·(try dsimp only at hSw)
     refine q8 (.tmp 11) ?_ g11 A u H8.o ?_ ?_
     ·rfl
     ·rfl
     exact hSw.y
    try simp only[Act.put,fH,fI,fJ]
    refine ek 4 ?_;refine ek 5 ?_;refine ek 6 ?_;refine tq 7 rfl ?_ (λwS hSw=>?_) ?_;rotate_left
    ·(try dsimp only at hSw)
     refine bK 9 (.tmp 61) ?_ g15 2 (S d) _ underlying9 rfl ?_ ((s.o _ hSw).aE vc2)
     ·rfl
     rfl
    try simp only[Act.put,fH,fI,fJ]
    refine tq 10 rfl ?_ (λwS hSw=>?_) ?_;rotate_left
    ·(try dsimp only at hSw)
     refine je 40 (.tmp 15) ?_ g15 (bH 3 v (E d)) _ underlying40 rfl xi ?_ ?_
     ·rfl
     ·rfl
     exact s.o _ hSw
    try simp only[Act.put,fH,fI,fJ]
    refine rn 8 Rz rfl r5 (λK hK=>?_);refine a1W (.tmp 62) rfl d rfl HSL.o ?_;intro ev w1x hs1 U;have J:=F<|hHeld.below U;have SE1:=F hs1;clear hs1 U;refine hK.out _ _ ?_ (λhHeld=>?_)
    ·first|exact hHeld|exact M.o.below (bG (bg _))|exact J.o
    clear hK K
    try simp only[Act.put,fH,fI,fJ]
    refine rn 9 Rz rfl r5 (λK hK=>?_)
    go_simp
    refine(Tw.o _ _ hHeld ev SE1.o).m ?_;rintro e w2x ⟨rfl,U⟩;have J:=F<|hHeld.below U;clear U;refine hK.out _ _ ?_ (λhHeld=>?_)
    ·first|exact hHeld|exact M.o.below (bG (bg _))|exact J.o
    clear hK K
    try simp only[Act.put,fH,fI,fJ]
    refine tq 11 rfl ?_ (λwS hSw=>?_) ?_;rotate_left
    ·(try dsimp only at hSw)
     refine eqX (.tmp 64) (.tmp 65) ?_ 3 v (E d) ?_ ?_
     ·rfl
     ·rfl
     rfl
    try simp only[Act.put,fH,fI,fJ]
    refine ek 12 ?_;refine ek 13 ?_;refine ek 14 ?_;refine tq 15 rfl ?_ (λwS hSw=>?_) ?_;rotate_left
    ·(try dsimp only at hSw)
     refine bK 9 (.tmp 69) ?_ g15 2 (S d) _ underlying9 rfl ?_ ((s.o _ hSw).aE vc2)
     ·rfl
     rfl
    try simp only[Act.put,fH,fI,fJ]
    refine rn 16 Rz rfl r5 (λK hK=>?_)
    go_simp
    refine(HPP.o _).m ?_;rintro e w4x ⟨rfl,U⟩;have J:=F<|hHeld.below U;clear U;refine hK.out _ _ ?_ (λhHeld=>?_)
    ·first|exact hHeld|exact M.o.below (bG (bg _))|exact J.o
    clear hK K
    try simp only[Act.put,fH,fI,fJ]
    refine ek 17 ?_;refine ek 18 ?_;refine ek 19 ?_;refine tq 20 rfl ?_ (λwS hSw=>?_) ?_;rotate_left
    ·(try dsimp only at hSw)
     refine bK 9 (.tmp 74) ?_ g15 2 (S d) _ underlying9 rfl ?_ ((s.o _ hSw).aE vc2)
     ·rfl
     rfl
    try simp only[Act.put,fH,fI,fJ]
    refine rn 21 Rz rfl r5 (λK hK=>?_)
    go_simp
    refine(HSE.o _).m ?_;rintro e w5x ⟨rfl,U⟩;have J:=F<|hHeld.below U;clear U;refine hK.out _ _ ?_ (λhHeld=>?_)
    ·first|exact hHeld|exact M.o.below (bG (bg _))|exact J.o
    clear hK K
    try simp only[Act.put,fH,fI,fJ]
    refine ek 22 ?_;refine ek 23 ?_;refine wpAnyH_done Rz ?_ _;go_wp2_with fail;go_ret;exact⟨rfl,J.o.b⟩
   have hk1:(z==3)=false:=by simpa using hk
   clear Hs C
   go_wp2_with (first
    |((with_reducible apply bS);refine tY r5 (.tmp 51) rfl g15 0 40 _ (s.o _ M.o) _ vc0 rfl ?_))
   go_ret;exact⟨rfl,M.o.b⟩
