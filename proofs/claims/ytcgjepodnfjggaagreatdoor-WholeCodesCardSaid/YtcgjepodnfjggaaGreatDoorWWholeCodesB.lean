/- The walk of the statement WholeCodes, text 2. Conditions: each theorem tells its own. -/
import Derived.Test.YtcgjepodnfjggaaGreatDoorWWholeCodesA
import Derived.Lib.Tables
import Derived.OrdersIn
import Derived.RangeFuncLeaves
import Derived.RangeFuncRecord
import Derived.Laws.CopyRow
import Derived.Laws.IdiomCopy
import Derived.Sort.Grow
import Derived.Shelf.Sort.Plain
import Derived.Test.YtcgjepodnfjggaaGreatDoorProg
import Derived.Laws.BytesArg
import Derived.Laws.Strings
set_option linter.all false
section
namespace Go.Proofs.YtcgjepodnfjggaaGreatDoor
open Go Go.Lib Go.a6 Go.cv
set_option maxRecDepth 100000
section
variable{P:a8}{ops:Array Oper}{S:ao→Prop}{K:Act→ao→Prop}{p:eR}{n:Nat}{l:List (Nat×aV)}{C:ao→Prop}{fl:Bool}{i:Nat}{ty dk:aO}{y:bf}
theorem abj{d:Nat}{s:ByteArray}{k:cg}{b r:Int}(av:cG ops n l i=some (some d,.index ty (.const (.string s)) y,dk))(aq:s=len8tab)(hu:P.underlying ty=some .string)(aF:bk l y=some (.int k b))(aB:0≤b)(aa:b≤255)(aH:len8 b=r)
  (h:U P ops S K p n ((d,.int .u8 r)::l) C):U P ops S K (.bB fl i p) n l C:=
 U.pure av (fun a w o he OQ _=>by
  subst aq;subst aH;have bu:a.eval (.const (.string len8tab))=.string len8tab:=rfl;simp only[execOp,OQ,he.bk aF,bu,Sem.run_bind,run_index_len8tab w ty k b hu aB aa,Result.andThen_ok,Sem.run_pure]) h
theorem aps{d:Nat}{s:ByteArray}{k:cg}{b r:Int}(av:cG ops n l i=some (some d,.index ty (.const (.string s)) y,dk))(aq:s=pop8tab)(hu:P.underlying ty=some .string)(aF:bk l y=some (.int k b))(aB:0≤b)(aa:b≤255)(aH:pop8 b=r)
  (h:U P ops S K p n ((d,.int .u8 r)::l) C):U P ops S K (.bB fl i p) n l C:=
 U.pure av (fun a w o he OQ _=>by
  subst aq;subst aH;have bu:a.eval (.const (.string pop8tab))=.string pop8tab:=rfl;simp only[execOp,OQ,he.bk aF,bu,Sem.run_bind,run_index_pop8tab w ty k b hu aB aa,Result.andThen_ok,Sem.run_pure]) h
end
def rN(x:Nat):Nat:=(len8 (x:Int)).toNat
theorem BD:∀x:Nat,x<256→len8 (x:Int)=(rN x:Nat)∧rN x≤8∧x<2^rN x∧(x≠0→rN x≠0∧x.testBit (rN x- 1)=true):=by decide+kernel
theorem aug(x:Nat)(w:ao)(af:x<256):cC Tryz.prog 199 [.int .u8 (x:Nat)] w (.int .i64 (rN x:Nat)):=by
 obtain⟨aa,ab,an,aK⟩:=BD x af;exact b8 Tryz.func199 I Tryz.ntmps199 I<|J.aw 1 I<|ak I I<|U.bl 4 I<|ac I I<|abj I (by kernel_rfl) (by kernel_rfl) I (by omega) (by omega) aa<|gW I I (bm (by omega))<|ak I I<|U.next<|J.ret<|al.ret Tryz.results199 I (fun w hw=>⟨I,hw.nothing⟩)
abbrev Vz(P:a8)(f:dn)(args:cw)(w:ao)(E:ae):Prop:=
 fh P f args w (X:=aN×Nat) (fun q=>.slice q.1 E.length q.2) (fun q=>E.length≤q.2) (fun q=>[own 5 1 q.1 E.length q.2 (aA .u8 E)])
theorem jk{a:ae}{i:Nat}(h:i<a.length):(aA .u8 a)[i]?=some (.int .u8 (ap a i:Nat)):=by
 rw[Ez h];rfl
theorem fJ{a:ae}(h:∀x∈a,x<256)(j:Nat):ap a j<256:=gA h (by omega) j
theorem Oe(A:aN)(n c:Nat)(p:ae)(w:ao)(aj:Has (aP 1 A n (aA .u8 p)) w)(_hp:∀x∈p,x<256)(aQ:n≤1073741824)(gL:n≤c):Vz Tryz.prog 139 [.slice A n c] w (trim p):=by
 have eA:=kc aj;subst eA;have BJ:=lQ p;have oA:=kY p;refine b8 Tryz.func139 I Tryz.ntmps139 I<|J.aw 1 I<|ak I I<|U.bl 3 I<|ac I I<|cf I I<|ak I I<|U.next<|J.seq<|J.block<|J.loop (G:=Nat) (fun k=>[(0,.slice A p.length c),(3,.int .i64 (k:Nat))]) (fun _=>bF w []) (fun k=>fA p≤k∧k≤p.length) (fun k=>k) p.length ⟨I,I,trivial⟩ (fun _ h=>h) ⟨BJ,cq _⟩ ?_;intro k RI;obtain⟨ka,jx⟩:=RI;refine J.seq<|J.aw 10 I<|ac I I<|fD I I I I<|ac I I ?_;refine U.bool 8 I (fun ad=>?_) (fun ad=>?_)
 ·replace ad:=gF ad;refine ac I I<|ac I I<|eB I I I (r:=((k- 1:Nat):Int)) (by rw[show((k:Nat):Int)- 1=((k- 1:Nat):Int) by omega];exact bm (by omega))<|fH (k- 1) (fun w hw=>hw.a7 aj) I I I I (by omega)<|jN (fun w hw=>hw.a7 aj) I I (by rw[dJ];exact jk (by omega)) (by omega)<|gy I I I I<|fe I I I<|U.next ?_;refine J.test I (fun ag=>?_) (fun ag=>?_)
  ·have Fc:fA p≤k- 1:=by
    by_cases h:fA p=k
    ·have:=DC p (by omega);rw[h] at this;omega
    ·omega
   exact J.skip<|al.code<|J.block<|J.rg 3 I<|ac I I<|eB I I I (r:=((k- 1:Nat):Int)) (by rw[show((k:Nat):Int)- 1=((k- 1:Nat):Int) by omega];exact bm (by omega))<|ak I I<|U.end_<|al.aE<|al.back (k- 1) ⟨I,I,trivial⟩ (fun _ h=>h) ⟨Fc,by omega⟩ (by omega)
  ·have Fc:(trim p).length=k:=by
    have:k≤fA p:=nV (fun h=>ag (by rw[zw p (k- 1) (by omega)];rfl));omega
   have ah:=Fc;exact J.exit I<|al.code<|J.aw 5 I<|ac I I<|ac I I<|oJ k I I I I (by omega)<|s0 I I I (ys:=aA .u8 (trim p)) (fun w hw=>Has.gK ((hw.a7 aj).su (q:=k) (by omega)) (by rw[xE,dJ,←ah,oA];rfl)) (mz _ _) rfl (by omega) (by unfold maxLen;omega) (by omega) (fun _ _ _ _=>trivial)<|fun bw c2 cR=>ak rfl rfl<|U.next<|J.ret<|al.ret Tryz.results139 rfl (fun w hw=>⟨(bw,c2),by rw[ah];rfl,by rw[ah];exact cR,by rw[ah];exact hw.pick [0] I⟩)
 ·replace ad:=jG ad;have ah:(trim p).length=k:=by omega
  exact U.skip I<|U.skip I<|U.skip I<|U.skip I<|U.skip I<|U.skip I<|ef I I I<|U.next<|J.dy I<|J.exit I<|al.code<|J.aw 5 I<|ac I I<|ac I I<|oJ k I I I I (by omega)<|s0 I I I (ys:=aA .u8 (trim p)) (fun w hw=>Has.gK ((hw.a7 aj).su (q:=k) (by omega)) (by rw[xE,dJ,←ah,oA];rfl)) (mz _ _) rfl (by omega) (by unfold maxLen;omega) (by omega) (fun _ _ _ _=>trivial)<|fun bw c2 cR=>ak rfl rfl<|U.next<|J.ret<|al.ret Tryz.results139 rfl (fun w hw=>⟨(bw,c2),by rw[ah];rfl,by rw[ah];exact cR,by rw[ah];exact hw.pick [0] I⟩)
theorem Qw{l:ae}{j:Nat}(h:ap l (j/ 8)=0):cz l j=0:=by
 unfold cz;rw[h];simp
theorem Uz{p:ae}{i:Nat}(aB:∀j,i<j→ap p j=0)(af:ap p i<256)(e7:ap p i≠0):(bA p).length=8*i+rN (ap p i):=by
 obtain⟨_,ab,an,aK⟩:=BD _ af;obtain⟨aK,bo⟩:=aK e7;have hle:(bA p).length≤8*i+rN (ap p i):=sT (en p).cI (fun j ax=>by
  rw[gV];by_cases eK:j/ 8=i
  ·have e:=qu p (j/ 8) (j%8) (fV _ (by omega));rw[show 8*(j/ 8)+j%8=j by omega,eK] at e;rw[e,xV (h6 an (px (by omega) (by omega)))];rfl
  ·exact Qw (aB _ (by omega)))
 refine AE hle (nV fun ca=>?_);have e:=qu p i (rN (ap p i)- 1) (by omega);rw[bo,←gV,dD (by omega)] at e;cases e
theorem aif{p:ae}(aB:∀j,ap p j=0):(bA p).length=0:=by
 have:=sT (en p).cI (n:=0) (fun j _=>by rw[gV];exact Qw (aB _));omega
theorem KP(A:aN)(n c:Nat)(p:ae)(w:ao)(aj:Has (aP 1 A n (aA .u8 p)) w)(aG:∀x∈p,x<256)(aQ:n≤1073741824)(gL:n≤c):cC Tryz.prog 140 [.slice A n c] w (.int .i64 (((bA p).length:Nat)- 1:Int)):=by
 have eA:=kc aj;subst eA;have k7:=xl p;refine b8 Tryz.func140 I Tryz.ntmps140 I<|J.aw 1 I<|ak I I<|U.next<|J.seq<|J.aw 4 I<|ac I I<|cf I I<|eB I I I (r:=((p.length:Nat):Int)- 1) (bm (by omega))<|ak I I<|U.next<|J.block<|J.loop (G:=Nat) (fun k=>[(0,.slice A p.length c),(3,.int .i64 ((k:Nat)- 1))]) (fun _=>bF w []) (fun k=>k≤p.length∧∀j,k≤j→ap p j=0) (fun k=>k) p.length ⟨I,I,trivial⟩ (fun _ h=>h) ⟨cq _,fun j ax=>dD ax⟩ ?_;intro k RI;obtain⟨ka,jx⟩:=RI;refine J.seq<|J.aw 2 I<|ac I I<|jz I I I I<|U.next ?_;refine J.test I (fun ag=>?_) (fun ag=>?_)
 ·refine J.skip<|al.code<|J.seq<|J.block<|J.aw 5 I<|ac I I<|ac I I<|fH (k- 1) (fun w hw=>hw.a7 aj) I I I (by omega) (by omega)<|jN (fun w hw=>hw.a7 aj) I I (by rw[dJ];exact jk (by omega)) (by omega)<|fD I I I I<|U.next ?_;refine J.test I (fun ag=>?_) (fun ag=>?_)
  ·have aW:=Uz (p:=p) (i:=k- 1) (fun j ax=>jx j (by omega)) (fJ aG _) (by omega);obtain⟨_,tB,_⟩:=BD _ (fJ aG (k- 1));exact J.aw 10 I<|ac I I<|jE I I I (r:=((8*(k- 1):Nat):Int)) (by rw[show(8:Int)*(((k:Nat):Int)- 1)=((8*(k- 1):Nat):Int) by omega];exact bm (by omega))<|ac I I<|ac I I<|fH (k- 1) (fun w hw=>hw.a7 aj) I I I (by omega) (by omega)<|jN (fun w hw=>hw.a7 aj) I I (by rw[dJ];exact jk (by omega)) (by omega)<|bJ I I I I (fun w hw=>aug _ w (fJ aG _)) aJ<|b1 I I I (r:=(((bA p).length:Nat):Int)) (by rw[aW];push_cast;exact bm (by omega))<|eB I I I (r:=(((bA p).length:Nat):Int)- 1) (bm (by omega))<|ak I I<|U.next<|J.ret<|al.ret Tryz.results140 I (fun w hw=>⟨I,hw.nothing⟩)
  ·refine J.skip<|al.aE<|al.code<|J.rg 3 I<|ac I I<|eB I I I (r:=((k- 1:Nat):Int)- 1) (by rw[show((k:Nat):Int)- 1- 1=((k- 1:Nat):Int)- 1 by omega];exact bm (by omega))<|ak I I<|U.end_ ?_;exact al.back (k- 1) ⟨I,I,trivial⟩ (fun _ h=>h) ⟨by omega,fun j ax=>by
    by_cases h:j=k- 1
    ·subst h;omega
    ·exact jx j (by omega)⟩ (by omega)
 ·have aW:=aif (p:=p) (fun j=>jx j (by omega));exact J.exit I<|al.code<|J.aw 1 I<|ak I I<|U.next<|J.ret<|al.ret Tryz.results140 I (fun w hw=>⟨by rw[aW];rfl,hw.nothing⟩)
def qi(p:ae)(i:Int):Nat:=if i<0 then 0 else cz p i.toNat
theorem ab1(p:ae)(i:Int):qi p i<2:=by
 unfold qi;split
 ·omega
 ·exact vR _ _
theorem Ff(p:ae)(i:Nat):qi p (i:Nat)=cz p i:=by
 unfold qi;rw[az (by omega)];rfl
theorem alY(i:Nat):((i:Nat):Int).tdiv 8=((i/ 8:Nat):Int):=rfl
theorem pv(i:Nat):((i:Nat):Int).tmod 8=((i%8:Nat):Int):=rfl
theorem ov(i:Nat)(h:i≤9223372036854775807):IntKind.i64.wrap (((i:Nat):Int).tdiv 8)=((i/ 8:Nat):Int):=by
 rw[alY];exact bm (by omega)
theorem amw(A:aN)(n c:Nat)(p:ae)(i:Int)(w:ao)(aj:Has (aP 1 A n (aA .u8 p)) w)(aG:∀x∈p,x<256)(aQ:n≤1073741824)(gL:n≤c)(hi:i≤9223372036854775807):cC Tryz.prog 200 [.slice A n c,.int .i64 i] w (.int .i64 (qi p i:Nat)):=by
 have eA:=kc aj;subst eA;have oC:=ab1 p i;refine b8 Tryz.func200 I Tryz.ntmps200 I<|J.aw 1 I<|ak I I<|U.next<|J.seq<|J.aw 9 I<|ac I I<|cQ I I I I<|ac I I ?_;refine U.bool 7 I (fun ad=>?_) (fun ad=>?_)
 ·replace ad:=gF ad;have aL:qi p i=0:=aD ad;exact U.skip I<|U.skip I<|U.skip I<|U.skip I<|U.skip I<|fe I I I<|U.next<|J.hH I<|J.aw 1 I<|ak I I<|U.next<|J.ret<|al.ret Tryz.results200 I (fun w hw=>⟨by rw[aL];rfl,hw.nothing⟩)
 ·replace ad:=jG ad;obtain⟨j,rfl⟩:=xX (show 0≤i by omega);have CD:=Ff p j;refine ac I I<|mM I I I (by omega) (ov j (by omega))<|ac I I<|cf I I<|jz I I I I<|ef I I I<|U.next ?_;refine J.test I (fun cR=>?_) (fun cR=>?_)
  ·have aL:qi p j=0:=by rw[CD];exact qs (by omega)
   exact J.aw 1 I<|ak I I<|U.next<|J.ret<|al.ret Tryz.results200 I (fun w hw=>⟨by rw[aL];rfl,hw.nothing⟩)
  ·exact J.skip<|al.code<|J.aw 11 I<|ac I I<|ac I I<|mM I I I (by omega) (ov j (by omega))<|fH (j/ 8) (fun w hw=>hw.a7 aj) I I I I (by omega)<|jN (fun w hw=>hw.a7 aj) I I (by rw[dJ];exact jk (by omega)) (by omega)<|ac I I<|h4 I I I (by omega) (pv j)<|iw I I I (by omega) (td (by omega))<|dY I I I I (Am (lU (yd _ _) (fJ aG _)))<|gW I I (r:=((qi p j:Nat):Int)) (by rw[CD];exact bm (by have:=vR p j;unfold cz at this;omega))<|ak rfl rfl<|U.next<|J.ret<|al.ret Tryz.results200 rfl (fun w hw=>⟨rfl,hw.nothing⟩)
def jr(a:ae)(N:Nat):Nat→ae
 |0=>[]
 |d+1=>if ap a (N- 1- d)=0 then jr a N d else jr a N d++[N- 1- d]
def hU(a:ae):ae:=jr a a.length a.length
theorem PW(a:ae)(N:Nat):∀d,(jr a N d).length≤d
 |0=>cq _
 |d+1=>by
  have:=PW a N d;unfold jr;split
  ·omega
  ·simp;omega
theorem LC{a:ae}{N x:Nat}:∀{d:Nat},0<N→x∈jr a N d→x<N
 |0,_,h=>by cases h
 |d+1,jO,h=>by
  unfold jr at h;split at h
  ·exact LC jO h
  ·rcases hI.1 h with h|h
   ·exact LC jO h
   ·simp at h;omega
def xc(l b:ae)(j:Nat):Nat:=l.foldr (fun n z=>(if n≤j then ap b (j- n) else 0)^^^z) 0
theorem Kg(b:ae)(n j:Nat):∀l:ae,xc (l++[n]) b j=xc l b j^^^(if n≤j then ap b (j- n) else 0)
 |[]=>by simp[xc]
 |x::l=>by
  show(if x≤j then ap b (j- x) else 0)^^^xc (l++[n]) b j=((if x≤j then ap b (j- x) else 0)^^^xc l b j)^^^_;rw[Kg b n j l,h5]
theorem abr{a b:ae}(aj:cc a)(ad:cc b)(j:Nat):∀{d:Nat},d≤a.length→xc (jr a a.length d) b j=cS 3 (fun i=>if a.length≤i+d∧i<a.length then ap a i else 0) (ap b) j
 |0,_=>by
  show 0=_;rw[oT (hB:=fun _=>0) (fun i _=>az (by omega)) (fun _ _=>rfl),VD]
 |d+1,aW=>by
  have ih:=abr aj ad j (d:=d) (by omega);unfold jr;split
  ·rename_i aB;rw[ih];refine oT (fun i _=>?_) (fun _ _=>I);by_cases hi:a.length≤i+d∧i<a.length
   ·rw[aD hi,aD (by omega)]
   ·rw[az hi];by_cases mN:i=a.length- 1- d
    ·subst mN;rw[aD (by omega),aB]
    ·rw[az (by omega)]
  ·rename_i aB;have aa:ap a (a.length- 1- d)=1:=by have:=aj.le (a.length- 1- d);omega
   rw[Kg,ih];have e:cS 3 (fun i=>if a.length≤i+(d+1)∧i<a.length then ap a i else 0) (ap b) j=cS 3 (fun i=>(if a.length≤i+d∧i<a.length then ap a i else 0)^^^(if i=a.length- 1- d then 1 else 0)) (ap b) j:=
    oT (fun i _=>by
     by_cases mN:i=a.length- 1- d
     ·subst mN;rw[aD (by omega),az (by omega),aD rfl,aa];rfl
     ·rw[az mN,eS];by_cases hi:a.length≤i+d∧i<a.length
      ·rw[aD hi,aD (by omega)]
      ·rw[az hi,az (by omega)]) (fun _ _=>rfl)
   rw[e,yG gn (fun i=>by split;exact aj.cI.c i;decide) (fun i=>by split<;>decide),wZ];congr 1;split
   ·rw[l5 gn (ad.cI.c _)]
   ·rfl
theorem afb{a b:ae}(aj:cc a)(ad:cc b)(j:Nat):xc (hU a) b j=ap (cN 3 a b) j:=by
 unfold hU;rw[abr aj ad j (cq _),jS];refine oT (fun i _=>?_) (fun _ _=>I);by_cases hi:i<a.length
 ·rw[aD (by omega)]
 ·rw[az (by omega),dD (by omega)]
theorem alU(A:aN)(n c:Nat)(p:ae)(w:ao)(aj:Has (aP 1 A n (aA .u8 p)) w)(aG:∀x∈p,x<256)(aQ:n≤1073741824)(gL:n≤c):pV Tryz.prog 141 [.slice A n c] w (hU (bA p)):=by
 have eA:=kc aj;subst eA;have k7:=xl p;refine b8 Tryz.func141 I Tryz.ntmps141 I<|J.aw 1 I<|ak I I<|U.bl 1 I<|ak I I<|U.next<|J.seq<|J.aw 3 I<|ac I I<|bJ I I I I (fun w hw=>KP A p.length c p w (hw.a7 aj) aG aQ gL) aJ<|ak I I<|U.next<|J.block<|J.loop (G:=(Nat×Nat)×aN×Nat) (fun q=>[(0,.slice A p.length c),(3,.slice q.2.1 (jr (bA p) (bA p).length q.1.2).length q.2.2),(4,.int .i64 ((q.1.1:Nat)- 1))]) (fun q=>bF w [own 3 1 q.2.1 (jr (bA p) (bA p).length q.1.2).length q.2.2 (aA .i64 (jr (bA p) (bA p).length q.1.2))]) (fun q=>q.1.1+q.1.2=(bA p).length∧(jr (bA p) (bA p).length q.1.2).length≤q.2.2) (fun q=>q.1.1) (((bA p).length,0),none,0) ⟨I,I,I,trivial⟩ (fun _ h=>h.iB _ 1) ⟨wW _,cq _⟩ ?_;rintro⟨⟨k,d⟩,q⟩ aM;have pX:=aM.1;simp only at pX;dsimp only;have vb:=PW (bA p) (bA p).length d;refine J.seq<|J.aw 2 I<|ac I I<|jz I I I I<|U.next ?_;refine J.test I (fun ag=>?_) (fun ag=>?_)
 ·have p3:(bA p).length- 1- d=k- 1:=by omega
  refine J.skip<|al.code<|J.seq<|J.block<|J.aw 4 I<|ac I I<|ac I I<|bJ I I I I (v:=.int .i64 (ap (bA p) (k- 1):Nat)) (fun w hw=>by have:=amw A p.length c p (k- 1:Nat) w (hw.a7 aj) aG aQ gL (by omega);rw[Ff,←gV,show((k- 1:Nat):Int)=(k:Nat)- 1 by omega] at this;exact this) aJ<|fD I I I I<|U.next ?_;refine J.test I (fun cR=>?_) (fun cR=>?_)
  ·have dT:jr (bA p) (bA p).length (d+1)=jr (bA p) (bA p).length d++[k- 1]:=by rw[←p3];exact az (by rw[p3];omega)
   exact J.rg 5 I<|ac I I<|ac (v:=.int .i64 (k- 1:Nat)) I (by rw[show((k- 1:Nat):Int)=(k:Nat)- 1 by omega];rfl)<|ja rfl rfl (cells:= #[.int .i64 (k- 1:Nat)]) (by kernel_rfl) rfl aJ<|fun iv=>ma 1 rfl rfl rfl rfl (ys:=[.int .i64 (k- 1:Nat)]) (fun w hw=>Has.gK ((hw.has (i:=0) rfl).kI (m:=1) rfl) rfl) rfl rfl (by omega) (by unfold maxLen;omega) (by omega) (fun _ _ _ _=>trivial)<|fun bw c2 cR=>ak rfl rfl<|U.end_<|al.aE<|al.code<|J.rg 3 rfl<|ac rfl rfl<|eB rfl rfl rfl (r:=((k- 1:Nat):Int)- 1) (by rw[show((k:Nat):Int)- 1- 1=((k- 1:Nat):Int)- 1 by omega];exact bm (by omega))<|ak I I<|U.end_<|al.back ((k- 1,d+1),bw,c2) ⟨I,by simp only[dT,ee,ol];rfl,rfl,trivial⟩ (fun _ h=>by simp only[dT];rw[←Au,ee];exact h.pick [1] I) ⟨by simp only;omega,by simp only[dT,ee,ol];exact cR⟩ (by simp only;omega)
  ·have dT:jr (bA p) (bA p).length (d+1)=jr (bA p) (bA p).length d:=aD (by rw[p3];omega);exact J.skip<|al.aE<|al.code<|J.rg 3 I<|ac I I<|eB I I I (r:=((k- 1:Nat):Int)- 1) (by rw[show((k:Nat):Int)- 1- 1=((k- 1:Nat):Int)- 1 by omega];exact bm (by omega))<|ak I I<|U.end_<|al.back ((k- 1,d+1),q) ⟨I,by simp only[dT];rfl,rfl,trivial⟩ (fun _ h=>by simp only[dT];exact h) ⟨by simp only;omega,by simp only[dT];exact aM.2⟩ (by simp only;omega)
 ·have he:jr (bA p) (bA p).length d=hU (bA p):=by rw[show d=(bA p).length by omega];rfl
  exact J.exit I<|al.code<|J.aw 2 I<|ac I I<|ak I I<|U.next<|J.ret<|al.ret Tryz.results141 I (fun w hw=>⟨q,by rw[←he];rfl,by rw[←he];exact aM.2,by rw[←he];exact hw⟩)
theorem ww(x s:Nat):(x>>>s)%2=(x.testBit s).toNat:=by
 rw[uT,jp];rcases w5 (x/ 2^s) with h|h<;>rw[h]<;>simp
theorem MC(x y s:Nat):((x^^^y)>>>s)%2=((x>>>s)%2)^^^((y>>>s)%2):=by
 rw[ww,ww,ww,DH];cases x.testBit s<;>cases y.testBit s<;>rfl
theorem Ay{a b:Nat}(aj:a<256)(ad:b<256):a^^^b<256:=Nat.xor_lt_two_pow (n:=8) aj ad
structure r1 where
 A:aN
 c:Nat
 l:ae
structure avY(w:ao)(a b:ae)(q:r1×r1):Prop where
 aa:Has (aP 1 q.1.A q.1.l.length (aA .u8 q.1.l)) w
 ab:Has (aP 1 q.2.A q.2.l.length (aA .u8 q.2.l)) w
 h8:∀x∈q.1.l,x<256
 hX:∀x∈q.2.l,x<256
 le:q.2.l.length≤q.1.l.length
 bM:q.1.l.length≤1073741824
 eq:cO (bA q.1.l) (bA q.2.l)=cO (bA a) (bA b)
theorem uX{l:ae}{i v:Nat}(hi:i<l.length)(j:Nat):ap (l.set i v) j=if j=i then v else ap l j:=by
 unfold ap;simp only[eM];rw[rG];by_cases h:i=j
 ·subst h;rw[aD rfl,aD hi,aD rfl];rfl
 ·rw[az h,az (fun e=>h e.symm)]
theorem Ca{l:ae}{i v b:Nat}(bc:∀x∈l,x<b)(br:v<b):∀x∈l.set i v,x<b:=fun x af=>by
 rcases u7 af with h|rfl
 ·exact bc x h
 ·exact br
theorem xC(k:cg)(l:ae)(i v:Nat):(aA k l).set i (.int k (v:Nat))=aA k (l.set i v):=by simp[aA,List.map_set]
structure oX(o q:ae)(n:Nat)(z:Nat×ae):Prop where
 le:z.1≤q.length
 len:z.2.length=o.length
 lt:∀x∈z.2,x<256
 bit:∀j,cz z.2 j=cz o j^^^(if n≤j∧j<n+8*z.1 then cz q (j- n) else 0)
theorem oX.start{o:ae}(av:∀x∈o,x<256)(q:ae)(n:Nat):oX o q n (0,o):=⟨Nat.zero_le _,rfl,av,fun j=>by simp only;rw[if_neg (by omega),Nat.xor_zero]⟩
def sQ(c n:Nat):Nat:=c*2^(n%8)%256
def rF(c n:Nat):Nat:=c>>>(8- n%8)
theorem akk(c n s:Nat)(aq:s<8):((sQ c n)>>>s)%2=if n%8≤s then(c>>>(s- n%8))%2 else 0:=by
 unfold sQ;rw[ww,show(256:Nat)=2^8 from rfl,vc,ek aq,mU,o3,acH];split
 ·rename_i h;rw[ek h,mU,ww]
 ·rename_i h;rw[df h];rfl
theorem apZ{c:Nat}(ag:c<256)(n s:Nat):((rF c n)>>>s)%2=if s<n%8 then(c>>>(s+8- n%8))%2 else 0:=by
 unfold rF;rw[←Nat.shiftRight_add];split
 ·rw[show 8- n%8+s=s+8- n%8 by omega]
 ·have:c<2^(8- n%8+s):=h6 ag (px (n:=2) (by omega) (show 8≤_ by omega));rw[jp,BC this]
theorem oX.next{o q L k4:ae}{n i:Nat}(h:oX o q n (i,L))(aM:∀x∈q,x<256)(hi:i<q.length)(hlen:k4.length=L.length)(ca:∀x∈k4,x<256)
  (ab:∀k,ap k4 k=(if k=i+n/ 8 then ap L k^^^sQ (ap q i) n else if k=i+n/ 8+1 then ap L k^^^rF (ap q i) n else ap L k)):oX o q n (i+1,k4):=by
 obtain⟨an,aK,bo,cd⟩:=h;simp only at an aK bo cd;refine⟨hi,by simp only;omega,ca,fun j=>?_⟩;simp only;have ag:=fJ aM i;have key:cz k4 j=cz L j^^^(if n+8*i≤j∧j<n+8*(i+1) then cz q (j- n) else 0):=by
  unfold cz;rw[ab];by_cases k1:j/ 8=i+n/ 8
  ·rw[aD k1,MC,akk _ _ _ (fV _ (by omega))];congr 1;by_cases k2:n%8≤j%8
   ·rw[aD k2,aD (by omega),show(j- n)/ 8=i by omega,show(j- n)%8=j%8- n%8 by omega]
   ·rw[az k2,az (by omega)]
  ·rw[az k1];by_cases k2:j/ 8=i+n/ 8+1
   ·rw[aD k2,MC,apZ ag];congr 1;by_cases bx:j%8<n%8
    ·rw[aD bx,aD (by omega),show(j- n)/ 8=i by omega,show(j- n)%8=j%8+8- n%8 by omega]
    ·rw[az bx,az (by omega)]
   ·rw[az k2,az (by omega),eS]
 rw[key,cd,h5];congr 1;by_cases k1:n≤j∧j<n+8*i
 ·rw[aD k1,az (by omega),aD (by omega),eS]
 ·rw[az k1,hQ];by_cases k2:n+8*i≤j∧j<n+8*(i+1)
  ·rw[aD k2,aD (by omega)]
  ·rw[az k2,az (by omega)]
theorem Re(c n:Nat):sQ c n<256:=Nat.mod_lt _ (by omega)
theorem acd{c:Nat}(ag:c<256)(n:Nat):rF c n<256:=Nat.lt_of_le_of_lt (Nat.shiftRight_le _ _) ag
theorem _root_.Go.a6.au.om{F:Nat→Prop}{w₀ w:ao}{L:List bi}(h:au F w₀ L w):au F w₀ [] w:=au.Vp L (by rw[List.append_nil];exact h)
theorem ad8{c n:Nat}(ag:c<256)(h:n%8=0):rF c n=0:=by
 unfold rF;rw[h,jp];exact BC ag
theorem oX.Uu{o q L:ae}{n i:Nat}(h:oX o q n (i,L))(aM:∀x∈q,x<256)(hi:i<q.length)(aH:i+n/ 8<o.length)(aB:rF (ap q i) n=0):oX o q n (i+1,L.set (i+n/ 8) (ap L (i+n/ 8)^^^sQ (ap q i) n)):=by
 have bc:=h.len;have ca:=h.lt;simp only at bc ca;refine h.next aM hi (by simp) (Ca ca (Ay (fJ ca _) (Re _ _))) (fun k=>?_);rw[uX (by omega)];by_cases k1:k=i+n/ 8
 ·rw[aD k1,aD k1,k1]
 ·rw[az k1,az k1];split
  ·rw[aB,eS]
  ·rfl
theorem oX.ahS{o q L:ae}{n i:Nat}(h:oX o q n (i,L))(aM:∀x∈q,x<256)(hi:i<q.length)(aH:i+n/ 8+1<o.length):oX o q n (i+1,(L.set (i+n/ 8) (ap L (i+n/ 8)^^^sQ (ap q i) n)).set (i+n/ 8+1) (ap L (i+n/ 8+1)^^^rF (ap q i) n)):=by
 have bc:=h.len;have ca:=h.lt;simp only at bc ca;refine h.next aM hi (by simp) (Ca (Ca ca (Ay (fJ ca _) (Re _ _))) (Ay (fJ ca _) (acd (fJ aM i) n))) (fun k=>?_);rw[uX (by rw[m9];omega),uX (by omega)];by_cases k1:k=i+n/ 8
 ·rw[az (by omega),aD k1,aD k1,k1]
 ·rw[az k1,az k1];by_cases k2:k=i+n/ 8+1
  ·rw[aD k2,aD k2,k2]
  ·rw[az k2,az k2]
theorem oX.done{o q L:ae}{n:Nat}(h:oX o q n (q.length,L))(j:Nat):cz L j=cz o j^^^(if n≤j then cz q (j- n) else 0):=by
 rw[h.bit];simp only;congr 1;by_cases aa:n≤j
 ·rw[aD aa];split
  ·rfl
  ·rw[qs (by omega)]
 ·rw[az aa,az (by omega)]
theorem adW(F:Nat→Prop)(w₀ w:ao)(R:List bi)(A:aN)(c:Nat)(o:ae)(B:aN)(d:Nat)(q:ae)(n:Nat)(av:∀x∈o,x<256)(aM:∀x∈q,x<256)(aap:o.length≤1073741824)(aH:q.length+n/ 8<o.length)(hw:au F w₀ (own 5 1 A o.length c (aA .u8 o)::own 5 1 B q.length d (aA .u8 q)::R) w):Calls Tryz.prog 142 ([.slice B q.length d,.slice A o.length c,.int .i64 (n:Nat)]:cw).toArray w (fun e ar=>∃kO:ae,e=.returned (oneOf [])∧(kO.length=o.length∧(∀x∈kO,x<256)∧∀j,cz kO j=cz o j^^^(if n≤j then cz q (j- n) else 0))∧au F w₀ (own 5 1 A o.length c (aA .u8 kO)::own 5 1 B q.length d (aA .u8 q)::R) ar):=by
 refine pP Tryz.func142 I Tryz.ntmps142 I hw<|J.aw 3 I<|ac I I<|cf I I<|ac I I<|U.next<|J.block<|J.loop (G:=Nat×ae) (fun z=>[(1,.slice A o.length c),(2,.int .i64 (n:Nat)),(9,.slice B q.length d),(10,.int .i64 (q.length:Nat)),(11,.int .i64 (z.1:Nat))]) (fun z=>au F w₀ (own 5 1 A o.length c (aA .u8 z.2)::own 5 1 B q.length d (aA .u8 q)::R)) (oX o q n) (fun z=>q.length- z.1) (0,o) ⟨I,I,I,I,I,trivial⟩ (fun _ h=>h) (oX.start av q n) ?_;rintro⟨i,L⟩ aL;have hle:=aL.le;have hlen:=aL.len;have ca:=aL.lt;simp only at hle hlen ca;dsimp only;refine J.aw 1 I<|cQ I I I I<|U.next<|J.seq ?_;refine J.test I (fun ag=>?_) (fun ag=>?_)
 ·have acD:=fJ aM i;have OP:i<q.length:=by omega
  refine J.skip<|al.code<|J.seq<|J.block<|J.aw 5 I<|ac I I<|gT 1 i I I I I I (by omega)<|km 1 I I I (jk (by omega))<|ak I I<|ak I I<|U.next<|J.seq<|J.dQ (bW [0,1,2,3,4,5,7,8,9,10] (cj [6] (bW [11,12] (cj [13] .done)))) (au F w₀ []) mixed (by kernel_rfl) (fun _ h=>h.drew) (fun _ h=>h.om)<|ac I I<|ac I I<|ac I I<|mM I I I (by omega) (ov n (by omega))<|b1 I I I (r:=((i+n/ 8:Nat):Int)) (bm (by omega))<|gT 0 (i+n/ 8) I I I I I (by omega)<|ac I I<|ac I I<|h4 I I I (by omega) (pv n)<|ir I I I (by omega) (r:=((sQ (ap q i) n:Nat):Int)) (pG (by omega))<|km 0 I I I (jk (by omega))<|dY I I I I (sA (fJ ca _) (Re _ _))<|gT 0 (i+n/ 8) I I I I I (by omega)<|pw 0 I I I I I (by omega) (fun _ h=>h.om)<|U.next<|J.seq<|J.pre (ec:=au F w₀ (own 5 1 A o.length c (aA .u8 (L.set (i+n/ 8) (ap L (i+n/ 8)^^^sQ (ap q i) n)))::own 5 1 B q.length d (aA .u8 q)::R)) (fun _ h=>by rw[←xC];exact h)<|J.rg 6 I<|ac I I<|ac I I<|h4 I I I (by omega) (pv n)<|eB I I I (r:=((8- n%8:Nat):Int)) (by rw[show(8:Int)- ((n%8:Nat):Int)=((8- n%8:Nat):Int) by omega];exact bm (by omega))<|iw I I I (by omega) (r:=((rF (ap q i) n:Nat):Int)) (td (by omega))<|ak I I<|U.bl 7 I<|ac I I<|h4 I I I (by omega) (pv n)<|fD I I I I<|ac I I ?_;refine U.bool 37 I (fun ad=>?_) (fun ad=>?_)
  ·replace ad:=gF ad;refine ac I I<|fD I I I I<|fe I I I<|U.next ?_;refine J.test I (fun cR=>?_) (fun cR=>?_)
   ·exact J.rg 12 I<|ac I I<|ac I I<|ac I I<|mM I I I (by omega) (ov n (by omega))<|b1 I I I (r:=((i+n/ 8:Nat):Int)) (bm (by omega))<|b1 I I I (r:=((i+n/ 8+1:Nat):Int)) (bm (by omega))<|gT 0 (i+n/ 8+1) I I I I I (by omega)<|km 0 I I I (v:=.int .u8 (ap L (i+n/ 8+1):Nat)) (by rw[jk (by rw[m9];omega),uX (by omega),az (by omega)])<|ac rfl rfl<|dY rfl rfl rfl rfl (sA (fJ ca _) (acd acD n))<|gT 0 (i+n/ 8+1) rfl rfl rfl rfl rfl (by omega)<|pw 0 rfl rfl rfl rfl rfl (by omega) aJ<|U.end_<|al.aE<|al.code<|J.rg 2 rfl<|b1 rfl rfl rfl (r:=((i+1:Nat):Int)) (bm (by omega))<|ac rfl rfl<|U.end_<|al.back (i+1,(L.set (i+n/ 8) (ap L (i+n/ 8)^^^sQ (ap q i) n)).set (i+n/ 8+1) (ap L (i+n/ 8+1)^^^rF (ap q i) n)) ⟨rfl,rfl,rfl,rfl,rfl,trivial⟩ (fun _ h=>by simp only;rw[←xC];exact h) (aL.ahS aM OP (by omega)) (by simp only;omega)
   ·have oz:rF (ap q i) n=0:=by omega
    exact J.skip<|al.aE<|al.code<|J.rg 2 I<|b1 I I I (r:=((i+1:Nat):Int)) (bm (by omega))<|ac I I<|U.end_<|al.back (i+1,(L.set (i+n/ 8) (ap L (i+n/ 8)^^^sQ (ap q i) n))) ⟨I,I,I,I,I,trivial⟩ (fun _ h=>h) (aL.Uu aM OP (by omega) oz) (by simp only;omega)
  ·replace ad:=jG ad;have oz:rF (ap q i) n=0:=ad8 acD (by omega);exact U.skip I<|U.skip I<|ef I I I<|U.next<|J.dy I<|J.skip<|al.aE<|al.code<|J.rg 2 I<|b1 I I I (r:=((i+1:Nat):Int)) (bm (by omega))<|ac I I<|U.end_<|al.back (i+1,(L.set (i+n/ 8) (ap L (i+n/ 8)^^^sQ (ap q i) n))) ⟨I,I,I,I,I,trivial⟩ (fun _ h=>h) (aL.Uu aM OP (by omega) oz) (by simp only;omega)
 ·obtain rfl:i=q.length:=by omega
  exact J.exit I<|al.ret Tryz.results142 I (fun w hw=>⟨L,I,⟨hlen,ca,aL.done⟩,hw⟩)
abbrev aio(P:a8)(f:dn)(args:cw)(w:ao)(E:ae):Prop:=
 fh P f args w (X:=aN×Nat) (fun q=>two (.slice q.1 E.length q.2) .nilIface) (fun q=>E.length≤q.2) (fun q=>[own 5 1 q.1 E.length q.2 (aA .u8 E)])
theorem atE:dZ []=[]:=rfl
theorem asd:bA []=[]:=rfl
theorem Oh{p:ae}(h:∀x∈p,x<256):∀x∈trim p,x<256:=fun x af=>Dj h x af
theorem TH{p:ae}(h:∀x∈p,x<256)(aB:(trim p).length≠0):8*((trim p).length- 1)<(bA p).length:=by
 have bb:b2 8 (trim p):=⟨Oh h,G8 p⟩;have aa:=Uz (p:=trim p) (i:=(trim p).length- 1) (fun j ax=>dD (by omega)) (bb.c _) (bb.jq aB);rw[uq] at aa;have ab:=(BD _ (bb.c ((trim p).length- 1))).2.2.2 (bb.jq aB);omega
theorem Xl{p:ae}(_h:∀x∈p,x<256)(aB:(trim p).length=0):bA p=[]:=by
 rw[←uq,kS aB];rfl
structure ue(p q:ae)(N:Nat)(z:Nat×ae):Prop where
 le:z.1≤(hU (bA p)).length
 len:z.2.length=N
 lt:∀x∈z.2,x<256
 bit:∀j,cz z.2 j=xc ((hU (bA p)).take z.1) (bA q) j
theorem aeR(N:Nat):((List.replicate N (Value.int .u8 0)).toArray.toList.take (N*1))=aA .u8 (List.replicate N 0):=by simp[aA]
theorem Zn(N:Nat):∀x∈List.replicate N 0,x<256:=fun x af=>by rw[(List.mem_replicate.1 af).2];omega
theorem K3(N j:Nat):cz (List.replicate N 0) j=0:=Qw (by unfold ap;simp only[List.getD_eq_getElem?_getD];rw[List.getElem?_replicate];split<;>rfl)
theorem ue.start(p q:ae)(N:Nat):ue p q N (0,List.replicate N 0):=⟨Nat.zero_le _,by simp,Zn N,fun j=>K3 N j⟩
theorem arn{l:ae}{i:Nat}(h:i<l.length):ap l i∈l:=List.mem_of_getElem? (p7 h)
theorem am6{l:ae}{i:Nat}(h:i<l.length):l.take (i+1)=l.take i++[ap l i]:=by
 rw[pN,p7 h];rfl
theorem ue.next{p q L k4:ae}{N i:Nat}(h:ue p q N (i,L))(hi:i<(hU (bA p)).length)(ab:k4.length=L.length∧(∀x∈k4,x<256)∧∀j,cz k4 j=cz L j^^^(if ap (hU (bA p)) i≤j then cz (trim q) (j- ap (hU (bA p)) i) else 0)):ue p q N (i+1,k4):=by
 refine⟨hi,ab.1.trans h.len,ab.2.1,fun j=>?_⟩;simp only;rw[ab.2.2,h.bit,am6 hi,Kg];congr 1;split
 ·rw[←gV,uq]
 ·rfl
theorem ue.done{p q L:ae}{N:Nat}(h:ue p q N ((hU (bA p)).length,L)):trim L=dZ (cN 3 (bA p) (bA q)):=
 On h.lt (uM (en p) (en q)) (fun j=>by
  rw[h.bit];simp only;rw[m4,afb (en p) (en q)])
theorem aoA(A:aN)(n c:Nat)(p:ae)(bw:aN)(cD c2:Nat)(ay:ae)(w:ao)(aj:Has (aP 1 A n (aA .u8 p)) w)(aG:∀x∈p,x<256)(aQ:n≤1073741824)(gL:n≤c)(eU:Has (aP 1 bw cD (aA .u8 ay)) w)(fF:∀x∈ay,x<256)(eX:cD≤1073741824)(ya:cD≤c2)(tT:(bA p).length+(bA ay).length≤4098):aio Tryz.prog 97 [.slice A n c,.slice bw cD c2] w (dZ (cN 3 (bA p) (bA ay))):=by
 have eA:=kc aj;subst eA;have lT:=kc eU;subst lT;have z6:=lQ p;have Mb:=lQ ay;have sH:=kY p;have m3:=kY ay;have SU:=Oh aG;have Gu:=Oh fF;have avD:=xl p;have awr:=xl ay;have app:=xl (trim p);rw[uq] at app;have aic:=xl (trim ay);rw[uq] at aic;refine b8 Tryz.func97 I Tryz.ntmps97 I<|J.aw 2 I<|ak I I<|ak I I<|U.bl 6 I<|ac I I<|dh I I I I (fun w hw=>Oe A p.length c p w (hw.a7 aj) aG aQ gL) aJ<|fun fG xK=>ac I I<|dh I I I I (fun w hw=>Oe bw ay.length c2 ay w (hw.a7 eU) fF eX ya) aJ<|fun da hD=>ak I I<|ak I I<|U.next<|J.seq<|J.aw 8 I<|ac I I<|cf I I<|gy I I I I<|ac I I ?_;refine U.bool 16 I (fun ad=>?_) (fun ad=>?_)
 ·replace ad:=gF ad;have aL:dZ (cN 3 (bA p) (bA ay))=[]:=by rw[Xl aG (by omega),sV];rfl
  exact U.skip I<|U.skip I<|U.skip I<|fe I I I<|U.next<|J.hH I<|J.aw 2 I<|ak I I<|ak I I<|U.next<|J.ret<|al.ret Tryz.results97 I (fun w hw=>⟨(none,0),by rw[aL];rfl,by rw[aL];exact cq _,by rw[aL];exact(hw.pick [] I).iB _ 1⟩)
 ·replace ad:=jG ad;refine ac I I<|cf I I<|gy I I I I<|ef I I I<|U.next ?_;refine J.test I (fun cR=>?_) (fun cR=>?_)
  ·have aL:dZ (cN 3 (bA p) (bA ay))=[]:=by rw[Xl fF (by omega),PN];rfl
   exact J.aw 2 I<|ak I I<|ak I I<|U.next<|J.ret<|al.ret Tryz.results97 I (fun w hw=>⟨(none,0),by rw[aL];rfl,by rw[aL];exact cq _,by rw[aL];exact(hw.pick [] I).iB _ 1⟩)
  ·have awW:=TH aG (by omega);have ax3:=TH fF (by omega);refine J.skip<|al.code<|J.seq<|J.aw 6 I<|ac I I<|bJ I I I I (v:=.int .i64 ((bA p).length- 1:Int)) (fun w hw=>by have:=KP fG.1 (trim p).length fG.2 (trim p) w ((hw.has (i:=1) I).dw) SU (by omega) xK;rw[uq] at this;exact this) aJ<|ac I I<|bJ I I I I (v:=.int .i64 ((bA ay).length- 1:Int)) (fun w hw=>by have:=KP da.1 (trim ay).length da.2 (trim ay) w ((hw.has (i:=0) I).dw) Gu (by omega) hD;rw[uq] at this;exact this) aJ<|b1 I I I (bm (by omega))<|fD I I I (df (by omega))<|U.next<|J.dy I<|J.skip<|al.code<|J.aw 8 I<|ac I I<|cf I I<|ac I I<|cf I I<|b1 I I I (bm (by omega))<|b1 I I I (r:=((((trim p).length+(trim ay).length+1):Nat):Int)) (by rw[show((trim p).length:Int)+(trim ay).length+1=((((trim p).length+(trim ay).length+1):Nat):Int) by omega];exact bm (by omega))<|lP ((trim p).length+(trim ay).length+1) I I I I I (by omega) aJ (fun go=>?_);refine ak I I<|U.next<|J.seq<|J.aw 4 I<|ac I I<|dh I I I I (fun w hw=>by have:=alU fG.1 (trim p).length fG.2 (trim p) w ((hw.has (i:=2) I).dw) SU (by omega) xK;rw[uq] at this;exact this) aJ (fun lK rl=>?_);refine U.pre (fun _ h=>h.FK (q:=1) (m:=((trim p).length+(trim ay).length+1)) (c:=((trim p).length+(trim ay).length+1)) (sz:=1) I (by simp) (cq _) (by unfold maxLen;omega))<|cf rfl rfl<|ac rfl rfl<|U.next<|J.block<|J.loop (G:=Nat×ae) (fun z=>[(1,.slice da.1 (trim ay).length da.2),(6,.slice (some ⟨go,0,none⟩) ((trim p).length+(trim ay).length+1) ((trim p).length+(trim ay).length+1)),(36,.slice lK.1 (hU (bA p)).length lK.2),(37,.int .i64 ((hU (bA p)).length:Nat)),(38,.int .i64 (z.1:Nat))]) (fun z=>bF w [own 5 1 (some ⟨go,0,none⟩) ((trim p).length+(trim ay).length+1) ((trim p).length+(trim ay).length+1) (aA .u8 z.2),own 5 1 da.1 (trim ay).length da.2 (aA .u8 (trim ay)),own 3 1 lK.1 (hU (bA p)).length lK.2 (aA .i64 (hU (bA p)))]) (ue p ay ((trim p).length+(trim ay).length+1)) (fun z=>(hU (bA p)).length- z.1) (0,List.replicate ((trim p).length+(trim ay).length+1) 0) ⟨rfl,rfl,rfl,rfl,rfl,trivial⟩ (fun _ h=>by rw[aeR] at h;exact h.pick [1,1,0] I) (ue.start p ay _) ?_;rintro⟨i,L⟩ aL;have hle:=aL.le;have hlen:=aL.len;have ca:=aL.lt;simp only at hle hlen ca;dsimp only;have avE:(hU (bA p)).length≤(bA p).length:=PW (bA p) (bA p).length (bA p).length;refine J.aw 1 I<|cQ I I I I<|U.next<|J.seq ?_;refine J.test I (fun ag=>?_) (fun ag=>?_)
   ·have hi:i<(hU (bA p)).length:=by omega
    have gr:ap (hU (bA p)) i<(bA p).length:=LC (by omega) (arn hi);refine J.skip<|al.code<|J.seq<|J.block<|J.aw 3 I<|gT 2 i I I I I I (by omega)<|km 2 I I I (vW hi)<|ak I I<|U.next<|J.rg 4 I<|ac I I<|ac I I<|ac I I<|aaB (v:=fun _=>oneOf []) (dv:=fun kO=>[own 5 1 (some ⟨go,0,none⟩) ((trim p).length+(trim ay).length+1) ((trim p).length+(trim ay).length+1) (aA .u8 kO),own 5 1 da.1 (trim ay).length da.2 (aA .u8 (trim ay)),own 3 1 lK.1 (hU (bA p)).length lK.2 (aA .i64 (hU (bA p)))]) I I I I (fun w hw=>by have:=adW _ _ w [own 3 1 lK.1 (hU (bA p)).length lK.2 (aA .i64 (hU (bA p)))] (some ⟨go,0,none⟩) ((trim p).length+(trim ay).length+1) L da.1 da.2 (trim ay) (ap (hU (bA p)) i) ca Gu (by omega) (by omega) (by rw[hlen];exact hw);rw[hlen] at this;exact this) (fun _ _ _=>trivial)<|fun k4 WZ=>U.end_<|al.aE<|al.code<|J.rg 2 I<|b1 I I I (r:=((i+1:Nat):Int)) (bm (by omega))<|ac I I<|U.end_ ?_;exact al.back (i+1,k4) ⟨I,I,I,I,I,trivial⟩ (fun _ h=>h) (aL.next hi ⟨WZ.1.trans hlen.symm,WZ.2⟩) (by simp only;omega)
   ·obtain rfl:i=(hU (bA p)).length:=by omega
    have ai1:=aL.done;exact J.exit I<|al.code<|J.aw 4 I<|ac I I<|dh I I I I (fun w hw=>by have:=Oe (some ⟨go,0,none⟩) ((trim p).length+(trim ay).length+1) ((trim p).length+(trim ay).length+1) L w ((hw.has (i:=0) I).dw) ca (by omega) (cq _);rw[ai1] at this;exact this) aJ<|fun CA anC=>ak I I<|ak I I<|U.next<|J.ret<|al.ret Tryz.results97 I (fun w hw=>⟨CA,I,anC,hw.pick [0] I⟩)
def hG(x:Nat):Nat:=if x=0 then 0 else Nat.log2 x+1
theorem Qh(x:Nat):x<2^hG x:=by
 unfold hG;split
 ·rename_i h;subst h;decide
 ·exact Nat.lt_log2_self
theorem Kh{x k:Nat}(h:x<2^k):hG x≤k:=by
 unfold hG;split
 ·omega
 ·rename_i aB;exact(Nat.log2_lt aB).2 h
theorem Ol{x:Nat}(h:x≠0):0<hG x:=by
 unfold hG;rw[az h];omega
theorem akg{x:Nat}(h:x≠0):x.testBit (hG x- 1)=true:=by
 have aa:=Qh x;have ab:¬x<2^(hG x- 1):=fun ca=>by
  have:=Kh ca;have:=Ol h;omega
 have an:=Ol h;rw[uT];have aK:x/ 2^(hG x- 1)=1:=by
  have bo:2^hG x=2*2^(hG x- 1):=by rw[←Nat.pow_succ',show(hG x- 1).succ=hG x by omega]
  have aG:=eI (hG x- 1);refine Nat.div_eq_of_lt_le (by omega) ?_;omega
 rw[aK];rfl
theorem U0{x b:Nat}(aa:x<2^b)(ab:b≠0→x.testBit (b- 1)=true):hG x=b:=by
 refine AE (Kh aa) (nV fun ca=>?_);have an:=ab (by omega);rw[xV (h6 (Qh x) (px (n:=2) (by omega) (show hG x≤b- 1 by omega)))] at an;cases an
theorem Pj{x k:Nat}(h:2^k≤x):hG x=k+hG (x>>>k):=by
 have aG:=eI k;have aB:x>>>k≠0:=by
  rw[jp];have:=Nat.div_pos h aG;omega
 refine U0 ?_ (fun _=>?_)
 ·have aa:=Qh (x>>>k);generalize hG (x>>>k)=b at aa;rw[jp] at aa;rw[EK];exact(Et aG).1 aa|>(by rw[o3];exact ·)
 ·have:=akg aB;rw[LF] at this;have ad:=Ol aB;rw[show k+hG (x>>>k)- 1=k+(hG (x>>>k)- 1) by omega];exact this
theorem am1{x:Nat}(h:x<256):rN x=hG x:=by
 obtain⟨_,_,an,aK⟩:=BD x h;refine(U0 an (fun ad=>?_)).symm;by_cases aB:x=0
 ·subst aB;exact absurd (by decide+kernel) ad
 ·exact(aK aB).2
theorem apq(x:Nat)(w:ao)(af:x<2^64):cC Tryz.prog 371 [.int .u64 (x:Nat)] w (.int .i64 (hG x:Nat)):=by
 have awE:=Kh af;refine b8 Tryz.func371 I Tryz.ntmps371 I<|J.aw 1 I<|ak I I<|U.next ?_;refine J.cut (G:=Nat×Nat) (fun q=>[(0,.int .u64 (q.1:Nat)),(2,.int .i64 (q.2:Nat))]) (fun _=>bF w []) (fun q=>q.2+hG q.1=hG x∧q.1<2^32∧q.2≤64) ?_ ?_
 ·refine J.aw 2 I<|ac I I<|jz I I I I<|U.next ?_;refine J.test I (fun ag=>?_) (fun ag=>?_)
  ·have aq:=Pj (x:=x) (k:=32) (by omega);have ca:x>>>32<2^32:=by rw[jp];exact(Et (by decide)).2 (by omega)
   exact J.aw 3 I<|ac I I<|iw I I I (by omega) (J1 (x:=x) (k:=32) (by omega))<|ak I I<|U.next<|J.rg 1 I<|ak I I<|U.end_<|al.join (x>>>32,32) ⟨I,I,trivial⟩ (fun _ h=>h) ⟨by simp only;omega,ca,by show 32≤64;omega⟩
  ·exact J.skip<|al.join (x,0) ⟨I,I,trivial⟩ (fun _ h=>h) ⟨by simp only;omega,by simp only;omega,by show 0≤64;omega⟩
 ·rintro⟨y,fc⟩ ⟨ajU,uC,aqg⟩;simp only at ajU uC aqg;dsimp only;refine J.cut (G:=Nat×Nat) (fun q=>[(0,.int .u64 (q.1:Nat)),(2,.int .i64 (q.2:Nat))]) (fun _=>bF w []) (fun q=>q.2+hG q.1=hG x∧q.1<2^16∧q.2≤64) ?_ ?_
  ·refine J.aw 2 I<|ac I I<|jz I I I I<|U.next ?_;refine J.test I (fun ag=>?_) (fun ag=>?_)
   ·have aq:=Pj (x:=y) (k:=16) (by omega);have ca:y>>>16<2^16:=by rw[jp];exact(Et (by decide)).2 (by omega)
    exact J.aw 3 I<|ac I I<|iw I I I (by omega) (J1 (x:=y) (k:=16) (by omega))<|ak I I<|U.next<|J.rg 3 I<|ac I I<|b1 I I I (r:=((fc+16:Nat):Int)) (bm (by omega))<|ak I I<|U.end_<|al.join (y>>>16,fc+16) ⟨I,I,trivial⟩ (fun _ h=>h) ⟨by simp only;omega,ca,by simp only;omega⟩
   ·exact J.skip<|al.join (y,fc) ⟨I,I,trivial⟩ (fun _ h=>h) ⟨by simp only;omega,by simp only;omega,by simp only;omega⟩
  ·rintro⟨z,cD⟩ ⟨J8,oe,abk⟩;simp only at J8 oe abk;dsimp only;refine J.cut (G:=Nat×Nat) (fun q=>[(0,.int .u64 (q.1:Nat)),(2,.int .i64 (q.2:Nat))]) (fun _=>bF w []) (fun q=>q.2+hG q.1=hG x∧q.1<2^8∧q.2≤64) ?_ ?_
   ·refine J.aw 2 I<|ac I I<|jz I I I I<|U.next ?_;refine J.test I (fun ag=>?_) (fun ag=>?_)
    ·have aq:=Pj (x:=z) (k:=8) (by omega);have ca:z>>>8<2^8:=by rw[jp];exact(Et (by decide)).2 (by omega)
     exact J.aw 3 I<|ac I I<|iw I I I (by omega) (J1 (x:=z) (k:=8) (by omega))<|ak I I<|U.next<|J.rg 3 I<|ac I I<|b1 I I I (r:=((cD+8:Nat):Int)) (bm (by omega))<|ak I I<|U.end_<|al.join (z>>>8,cD+8) ⟨I,I,trivial⟩ (fun _ h=>h) ⟨by simp only;omega,ca,by simp only;omega⟩
    ·exact J.skip<|al.join (z,cD) ⟨I,I,trivial⟩ (fun _ h=>h) ⟨by simp only;omega,by simp only;omega,by simp only;omega⟩
   ·rintro⟨v,UK⟩ ⟨ael,nt,arP⟩;simp only at ael nt arP;dsimp only;obtain⟨aa,ab,an,aK⟩:=BD v nt;have tB:=am1 nt;exact J.aw 7 I<|ac I I<|ac I I<|gW I I (r:=((v:Nat):Int)) (tr (by omega))<|abj I (by kernel_rfl) (by kernel_rfl) I (by omega) (by omega) aa<|gW I I (r:=((rN v:Nat):Int)) (bm (by omega))<|b1 I I I (r:=((hG x:Nat):Int)) (by rw[show((UK:Nat):Int)+(rN v:Nat)=((hG x:Nat):Int) by omega];exact bm (by omega))<|ak I I<|U.next<|J.ret<|al.ret Tryz.results371 I (fun w hw=>⟨I,hw.nothing⟩)
theorem R5(i:Nat)(h:i≤9223372036854775807):IntKind.i64.wrap (((i:Nat):Int).tdiv 2)=((i/ 2:Nat):Int):=by
 rw[show((i:Nat):Int).tdiv 2=((i/ 2:Nat):Int) from rfl];exact bm (by omega)
end Go.Proofs.YtcgjepodnfjggaaGreatDoor
end
section
namespace Go.cv
open Go Go.Proofs.YtcgjepodnfjggaaGreatDoor
def dF(m i j:Nat):Nat:=(i*2^j)%N m
def cX(m i:Nat):ae:=(List.range (N m)).filter (fun k=>decide (∃j,j<m∧dF m i j=k))
variable{m:Nat}(hm:Ok m)
theorem Aj(m i j:Nat):dF m i (j+1)=(2*dF m i j)%N m:=by
 unfold dF;rw[Fh 2,FP,←Fh,x4];congr 1;rw[←Hx,o3 2]
theorem OY(m i j k:Nat):dF m i (j+k)=dF m (dF m i j) k:=by
 unfold dF;rw[EK,←Hx];conv=>rhs;rw[Fh,FP,←Fh]
include hm
theorem zj(i j:Nat):dF m i j<N m:=Nat.mod_lt _ (by have:=(gS hm).1;omega)
theorem aks:2^m%N m=1:=by
 have h:=kZ m;have aG:=(gS hm).1;rw[←h,Nat.add_mod_left,ll (by omega)]
theorem MS(i j:Nat):dF m i (j+m)=dF m i j:=by
 unfold dF;rw[EK,←Hx,Fh,aks hm,dJ,FP]
theorem Q3(i j q:Nat):dF m i (j+q*m)=dF m i j:=by
 induction q with
 |zero=>simp
 |succ q ih=>rw[v8,←Bc,MS hm,ih]
theorem apl{a b:Nat}(aj:a<N m)(ad:b<N m){k:Nat}(h:dF m a k=dF m b k):a=b:=by
 have aB:∀x,x<N m→dF m (dF m x k) (k*m- k)=x:=fun x af=>by
  rw[←OY,show k+(k*m- k)=0+k*m by have:k*1≤k*m:=ID k (by have:=hm.lo;omega);omega,Q3 hm];unfold dF;rw[Fj,dJ,ll af]
 rw[←aB a aj,←aB b ad,h]
theorem sx{i x:Nat}:x∈cX m i↔∃j,dF m i j=x:=by
 have pe:=hm.lo;unfold cX;rw[mL,pT,vv];constructor
 ·rintro⟨_,j,_,e⟩;exact⟨j,e⟩
 ·rintro⟨j,e⟩;refine⟨by rw[←e];exact zj hm i j,j%m,fV _ (by omega),?_⟩;rw[←e];have:=Q3 hm i (j%m) (j/ m);rw[o3,Nat.mod_add_div] at this;exact this.symm
omit hm in
theorem CF(m i:Nat):(cX m i).Pairwise (· < ·):=List.Pairwise.filter _ List.pairwise_lt_range
omit hm in
def eo(m i k:Nat):ae:=(List.range k).map (dF m i)
omit hm in
theorem Rj(m i k:Nat):eo m i (k+1)=eo m i k++[dF m i k]:=by unfold eo;rw[List.range_succ,List.map_append];rfl
omit hm in
theorem y2{i k x:Nat}:x∈eo m i k↔∃j,j<k∧dF m i j=x:=by
 unfold eo;rw[gE];exact⟨fun⟨j,ax,e⟩=>⟨j,pT.1 ax,e⟩,fun⟨j,ax,e⟩=>⟨j,pT.2 ax,e⟩⟩
omit hm in
theorem OE{i k:Nat}(h:(eo m i k).Nodup)(ab:dF m i k∉eo m i k):(eo m i (k+1)).Nodup:=by
 rw[Rj];exact Q8.2 ⟨h,N9 _ _,fun x af y aF e=>by rw[hK.1 aF] at e;exact ab (e▸af)⟩
theorem KF(i:Nat):dF m i m∈eo m i m:=by
 refine y2.2 ⟨0,by have:=hm.lo;omega,?_⟩;have:=MS hm i 0;rw[iO] at this;exact this.symm
omit hm in
theorem SR{i k:Nat}(h:dF m i k∈eo m i k):∀j,dF m i j∈eo m i k
 |0=>by
  obtain⟨HO,ajO,_⟩:=y2.1 h;exact y2.2 ⟨0,by omega,I⟩
 |j+1=>by
  obtain⟨t,bb,e⟩:=y2.1 (SR h j);have bD:dF m i (j+1)=dF m i (t+1):=by rw[Aj,Aj,e]
  rw[bD];by_cases aa:t+1<k
  ·exact y2.2 ⟨t+1,aa,I⟩
  ·rw[show t+1=k by omega];exact h
theorem Pf{i k:Nat}(h:dF m i k∈eo m i k)(x:Nat):x∈eo m i k↔x∈cX m i:=by
 rw[sx hm];refine⟨fun af=>let ⟨j,_,e⟩:=y2.1 af;⟨j,e⟩,fun⟨j,e⟩=>?_⟩;rw[←e];exact SR h j
omit hm in
theorem Rr:∀{a b:ae},a.Pairwise (· < ·)→b.Pairwise (· < ·)→(∀x,x∈a↔x∈b)→a=b
 |[],[],_,_,_=>rfl
 |[],y::b,_,_,h=>absurd ((h y).2 (fX ..)) (we)
 |x::a,[],_,_,h=>absurd ((h x).1 (fX ..)) (we)
 |x::a,y::b,aj,ad,h=>by
  rw[List.pairwise_cons] at aj ad;have alZ:x=y:=by
   rcases ei.1 ((h x).1 (fX ..)) with e|af
   ·exact e
   ·rcases ei.1 ((h y).2 (fX ..)) with e|aF
    ·exact e.symm
    ·have aa:=aj.1 y aF;have ab:=ad.1 x af;omega
  subst alZ;rw[Rr aj.2 ad.2 (fun z=>by
   constructor
   ·intro aL;have aa:=aj.1 z aL;rcases ei.1 ((h z).1 (eQ _ aL)) with e|ab
    ·omega
    ·exact ab
   ·intro aL;have aa:=ad.1 z aL;rcases ei.1 ((h z).2 (eQ _ aL)) with e|ab
    ·omega
    ·exact ab)]
theorem aeV{i k:Nat}(h:dF m i k∈eo m i k)(aQ:(eo m i k).Nodup){l:ae}(aG:l.Perm (eo m i k))(bc:l.Pairwise (· ≤ ·)):l=cX m i:=by
 have Pn:l.Nodup:=(List.Perm.nodup_iff aG).2 aQ;refine Rr ?_ (CF m i) (fun x=>by rw[aG.mem_iff,Pf hm h]);exact List.Pairwise.imp₂ (fun x y aa ab=>by omega) bc Pn
omit hm in
theorem abu(m i k:Nat):(eo m i k).length=k:=by simp[eo]
theorem Sw{i k:Nat}(h:dF m i k∈eo m i k)(aQ:(eo m i k).Nodup):(cX m i).length=k:=by
 have aG:(cX m i).Perm (eo m i k):=(Q7 ((CF m i).imp (fun h=>by omega)) aQ).2 (fun x=>(Pf hm h x).symm);rw[aG.length_eq,abu]
theorem ahE(i:Nat):∃k,0<k∧k≤m∧dF m i k∈eo m i k∧(eo m i k).Nodup:=by
 have key:∀d k,k+d=m→(eo m i k).Nodup→∃k,k≤m∧dF m i k∈eo m i k∧(eo m i k).Nodup:=by
  intro d;induction d with
  |zero=>
   intro k ah aQ;obtain rfl:k=m:=by omega
   exact⟨k,cq _,KF hm i,aQ⟩
  |succ d ih=>
   intro k ah aQ;by_cases h:dF m i k∈eo m i k
   ·exact⟨k,by omega,h,aQ⟩
   ·exact ih (k+1) (by omega) (OE aQ h)
 obtain⟨k,aa,ab,an⟩:=key m 0 (by omega) (by simp[eo]);refine⟨k,?_,aa,ab,an⟩;obtain⟨j,ax,_⟩:=y2.1 ab;omega
theorem x8(i:Nat):0<(cX m i).length∧(cX m i).length≤m:=by
 obtain⟨k,aB,aa,ab,an⟩:=ahE hm i;rw[Sw hm ab an];exact⟨aB,aa⟩
theorem ajY{i j:Nat}(h:j∈cX m i):cX m j=cX m i:=by
 obtain⟨t,e⟩:=(sx hm).1 h;refine Rr (CF m j) (CF m i) (fun x=>?_);rw[sx hm,sx hm];constructor
 ·rintro⟨s,bD⟩;exact⟨t+s,by rw[OY,e,bD]⟩
 ·rintro⟨s,bD⟩;refine⟨t*m- t+s,?_⟩;rw[←e,←OY,show t+(t*m- t+s)=s+t*m by have:t*1≤t*m:=ID t (by have:=hm.lo;omega);omega,Q3 hm,bD]
end Go.cv
end
section
namespace Go.cv
open Go Go.Proofs.YtcgjepodnfjggaaGreatDoor
variable{m:Nat}(hm:Ok m)
include hm
theorem Ac{x:Nat}(af:x<2^m):∀{a:ae} (_:∀y∈a,y<2^m),cM m a x=xs (fun k=>ba m (ap a k) (fO m x k)) a.length
 |[],_=>rfl
 |a0::r,h=>by
  have aH:∀y∈r,y<2^m:=fun y aF=>h y (eQ _ aF);have aB:a0<2^m:=h a0 (fX ..);show ba m (cM m r x) x^^^a0=xs _ (r.length+1);rw[Ac af aH,Ao hm x _ (fun i _=>eL hm (gA aH (eI m) i) _),CU,oR];congr 1
  ·show a0=ba m (ap (a0::r) 0) 1;rw[pC,ur hm aB]
  ·refine hz (fun i _=>?_);show ba m (ba m (ap r i) (fO m x i)) x=ba m (ap (a0::r) (i+1)) (ba m (fO m x i) x);rw[jF,h0 hm (gA aH (eI m) i) (rS hm _ _) af]
def bY(m:Nat)(n:Int):Nat:=ex m (em m n)
theorem hd(n:Int):bY m n<2^m:=(ns hm _).2
theorem Wz(n:Int):bY m n≠0:=by have:=(ns hm (em m n)).1;unfold bY;omega
omit hm in
theorem Dd(n:Int)(h:0<N m):((em m n:Nat):Int)=n%((N m:Nat):Int):=by
 have:=ng n (b:=((N m:Nat):Int)) (by omega);unfold em;omega
theorem Oq{n:Int}{k:Nat}(h:n%((N m:Nat):Int)=((k:Nat):Int)%((N m:Nat):Int)):bY m n=ex m k:=by
 unfold bY;rw[Gj h,yp,Cb hm]
theorem uK(a b:Int):ba m (bY m a) (bY m b)=bY m (a+b):=by
 have aG:=(gS hm).1;unfold bY;rw[wF hm];refine(Oq hm (k:=em m a+em m b) ?_).symm;rw[IY,Dd a (by omega),Dd b (by omega)];exact N7 _ _ _
theorem Gt:bY m 0=1:=Oq hm (k:=0) rfl
omit hm in
theorem akp{a b:Int}(h:a%((N m:Nat):Int)=b%((N m:Nat):Int)):bY m a=bY m b:=by unfold bY;rw[Gj h]
theorem adh(a:Int)(k:Nat):ex m (em m a*k)=bY m (a*(k:Nat)):=by
 have aG:=(gS hm).1;refine(Oq hm ?_).symm;rw[zA,Dd a (by omega)];rw[Gc a (k:Int),Gc (a%((N m:Nat):Int)) (k:Int),N5 a (Pe _)]
theorem DJ(a:Int)(k:Nat):fO m (bY m a) k=bY m (a*(k:Nat)):=by unfold bY;rw[XS hm];exact adh hm a k
theorem AY{a b:Int}(h:bY m a=bY m b):a%((N m:Nat):Int)=b%((N m:Nat):Int):=by
 have aG:=(gS hm).1;have:=Jn hm (xN hm a) (xN hm b) h;rw[←Dd a (by omega),←Dd b (by omega),this]
end Go.cv
end
section
namespace Go.cv
open Go Go.Proofs.YtcgjepodnfjggaaGreatDoor
def k6(m:Nat):ae→ae
 |[]=>[1]
 |r::t=>cN m (k6 m t) [r,1]
def sc(m:Nat)(a:ae):ae:=a.map (fun x=>ba m x x)
def gf(m i:Nat):ae:=k6 m ((cX m i).map (fun k:Nat=>bY m (k:Int)))
variable{m:Nat}(hm:Ok m)
include hm
theorem yo:∀{L:ae},(∀r∈L,r<2^m)→b2 m (k6 m L)
 |[],_=>⟨fun x af=>by rw[hK.1 af];exact kC hm,I⟩
 |r::t,h=>iS hm (yo (fun x af=>h x (eQ _ af))) (sB hm (h r (fX ..)))
theorem Vb{L dv:ae}(aG:L.Perm dv)(h:∀r∈L,r<2^m):k6 m L=k6 m dv:=by
 induction aG with
 |nil=>rfl
 |cons x _ ih=>show cN m _ _=cN m _ _;rw[ih (fun r aH=>h r (eQ _ aH))]
 |swap x y l=>
  have af:=sB hm (h x (by simp));have aF:=sB hm (h y (by simp));have bc:=yo hm (L:=l) (fun r aH=>h r (by simp[aH]));show cN m (cN m (k6 m l) [x,1]) [y,1]=cN m (cN m (k6 m l) [y,1]) [x,1];rw[x5 hm bc af aF,vX hm af aF,←x5 hm bc aF af]
 |trans aa _ QI OU=>rw[QI h,OU (fun r aH=>h r (aa.mem_iff.2 aH))]
omit hm in
theorem akH(r i:Nat):ap [r,1] i=(if i=0 then r else 0)^^^(if i=1 then 1 else 0):=by
 match i with
 |0=>simp[ap]
 |1=>simp[ap]
 |i+2=>simp[ap]
theorem asO{p:ae}(aG:b2 m p){a:Nat}(aj:a<2^m)(j:Nat):ap (cN m p [a,1]) j=ap (wy m p a) j:=by
 rw[Nn,jS,Po hm aG.c (sB hm aj).c,show ap [a,1]=(fun i=>(if i=0 then a else 0)^^^(if i=1 then 1 else 0)) from funext (akH a)];rw[yG hm (fun i=>by split;exact aj;exact eI m) (fun i=>by split;exact kC hm;exact eI m),wZ,wZ,aD (dg _),nk,kH hm aj (aG.c j),oR];congr 1
 match j with
 |0=>rw[az (by omega),pC]
 |j+1=>rw[aD (by omega),jF,JY,l5 hm (aG.c j)]
theorem Ty(l:b3)(i:Nat):cN m (iC m l i) [lo m (l.getD i 0),1]=iC m l (i+1):=
 (iS hm (B5 hm l i) (sB hm (lJ m _))).ext (B5 hm l (i+1)) (fun j=>asO hm (B5 hm l i) (lJ m _) j)
theorem V6(l:b3):∀i,i≤l.length→iC m l i=k6 m (bz m (l.take i)).reverse
 |0,_=>rfl
 |i+1,h=>by
  rw[←Ty hm,V6 l i (by omega),YS m l (by omega),List.reverse_append];rfl
theorem akt(l:b3):iC m l l.length=k6 m (bz m l):=by
 rw[V6 hm l _ (cq _),m4];exact Vb hm (List.reverse_perm _) (fun r aH=>EY m l r (List.mem_reverse.1 aH))
theorem MO:∀{L:ae},(∀r∈L,r<2^m)→(k6 m L).length=L.length+1
 |[],_=>rfl
 |r::t,h=>by
  have bb:∀x∈t,x<2^m:=fun x af=>h x (eQ _ af);have:=MO bb;show(cN m (k6 m t) [r,1]).length=_;rw[Aq hm (yo hm bb) (sB hm (h r (fX ..))) (by omega) (by simp),this];simp
theorem Gr{x:Nat}(af:x<2^m):∀{L:ae},(∀r∈L,r<2^m)→(cM m (k6 m L) x=0↔x∈L)
 |[],_=>by
  have:cM m [1] x=1:=by unfold cM cM;rw[et,hQ]
  show cM m [1] x=0↔_;rw[this];simp
 |r::t,h=>by
  have aH:=h r (fX ..);have bb:∀x∈t,x<2^m:=fun x af=>h x (eQ _ af);have aG:=yo hm bb;have ih:=Gr af bb;show cM m (cN m (k6 m t) [r,1]) x=0↔_;rw[Cq hm aG.lt (sB hm aH).lt x af,PL hm aH af,ei];constructor
  ·intro aB;by_cases aa:cM m (k6 m t) x=0
   ·exact .inr (ih.1 aa)
   ·by_cases ab:x^^^r=0
    ·exact .inl (Bg hm ab)
    ·exact absurd aB (o6 hm (jC hm x aG.lt) (mY af aH) aa ab)
  ·rintro(rfl|aa)
   ·rw[jy,jn]
   ·rw[ih.2 aa,et]
omit hm in
theorem FN(a:ae)(j:Nat):ap (sc m a) j=ba m (ap a j) (ap a j):=by
 unfold sc;by_cases h:j<a.length
 ·simp[ap,h]
 ·rw[dD (by rw[iK];omega),dD (l:=a) (by omega),et]
theorem asl{x:Nat}(af:x<2^m)(aB:x≠0):ba m x x≠0:=o6 hm af af aB aB
theorem Ql{a:ae}(h:b2 m a):b2 m (sc m a):=by
 refine⟨fun x af=>?_,?_⟩
 ·obtain⟨y,aF,rfl⟩:=gE.1 af;exact eL hm (h.lt y aF) _
 ·have bc:(sc m a).length=a.length:=iK _;refine D5 ?_;refine AE (lQ _) (nV fun ca=>?_);have aa:=zw (sc m a) (a.length- 1) (by omega);rw[FN] at aa;exact asl hm (h.c _) (h.jq (by omega)) aa
theorem U3{f:Nat→Nat}(aI:∀i,f i<2^m):∀n,ba m (xs f n) (xs f n)=xs (fun i=>ba m (f i) (f i)) n
 |0=>et m 0
 |n+1=>by
  show ba m (xs f n^^^f n) (xs f n^^^f n)=_^^^_;rw[Wu hm (xO (fun i _=>aI i)) (aI n),U3 aI n]
theorem afx{a b:Nat}(aj:a<2^m)(ad:b<2^m):ba m (ba m a b) (ba m a b)=ba m (ba m a a) (ba m b b):=by
 rw[h0 hm aj ad (eL hm aj b),h0 hm aj aj (eL hm ad b)];congr 1;rw[←h0 hm ad aj ad,kH hm ad aj,h0 hm aj ad ad]
theorem ak1{a b:ae}(aj:b2 m a)(ad:b2 m b):sc m (cN m a b)=cN m (sc m a) (sc m b):=by
 refine(Ql hm (iS hm aj ad)).ext (iS hm (Ql hm aj) (Ql hm ad)) (fun j=>?_);rw[FN,jS,jS];unfold cS;rw[U3 hm (fun i=>eL hm (aj.c i) _)];exact hz (fun i _=>by rw[afx hm (aj.c i) (ad.c _),FN,FN])
theorem acB:∀{L:ae},(∀r∈L,r<2^m)→sc m (k6 m L)=k6 m (L.map (fun r=>ba m r r))
 |[],_=>by show[ba m 1 1]=[1];rw[l5 hm (kC hm)]
 |r::t,h=>by
  have aH:=h r (fX ..);have bb:∀x∈t,x<2^m:=fun x af=>h x (eQ _ af);show sc m (cN m (k6 m t) [r,1])=cN m (k6 m (t.map _)) [ba m r r,1];rw[ak1 hm (yo hm bb) (sB hm aH),acB bb];congr 1;show[ba m r r,ba m 1 1]=_;rw[l5 hm (kC hm)]
theorem ac1{c:Nat}(ag:c<2^m)(h:ba m c c=c):c<2:=by
 by_cases aB:c=0
 ·omega
 ·have:=aiP hm ag (kC hm) ag aB (by rw[h,l5 hm ag]);omega
where
 aiP {m:Nat} (hm:Ok m) {a b c:Nat} (aj:a<2^m) (ad:b<2^m) (ag:c<2^m) (aB:c≠0) (h:ba m a c=ba m b c):a=b:=by
  refine Bg hm ?_
  by_cases af:a^^^b=0
  ·exact af
  ·exact absurd (by rw[zQ hm aj ad,h,jy]) (o6 hm (mY aj ad) ag af aB)
theorem ahd(i:Nat):((cX m i).map (fun k=>(2*k)%N m)).Perm (cX m i):=by
 have gd:(cX m i).Nodup:=(CF m i).imp (fun h=>by omega);have ca:∀k∈cX m i,k<N m:=fun k ah=>by obtain⟨j,e⟩:=(sx hm).1 ah;rw[←e];exact zj hm i j
 have l8:∀k,(2*k)%N m=dF m k 1:=fun k=>by unfold dF;rw[Nat.pow_one,o3]
 refine(Q7 ?_ gd).2 (fun x=>?_)
 ·exact Ib _ (R:=fun a b=>a<N m∧b<N m∧a≠b) (fun a b ⟨aa,ab,an⟩ he=>an (apl hm aa ab (k:=1) (by rw[←l8,←l8];exact he)))<|Q9 (fun{a b} aa ab an=>⟨ca a aa,ca b ab,an⟩) gd
 ·rw[gE,sx hm];constructor
  ·rintro⟨k,ah,rfl⟩;obtain⟨j,e⟩:=(sx hm).1 ah;exact⟨j+1,by rw[Aj,e]⟩
  ·rintro⟨j,e⟩;refine⟨dF m i (j+m- 1),(sx hm).2 ⟨_,I⟩,?_⟩;have pe:=hm.lo;rw[←Aj,show j+m- 1+1=j+m by omega,MS hm,e]
omit hm in
theorem Vc(k:Nat):bY m (k:Int)=ex m (k%N m):=by unfold bY;rw[yp]
theorem Ga(i:Nat):∀r∈(cX m i).map (fun k:Nat=>bY m (k:Int)),r<2^m:=fun r aH=>by
 obtain⟨k,_,rfl⟩:=gE.1 aH;exact hd hm _
theorem aeo(i:Nat):b2 m (gf m i):=yo hm (Ga hm i)
theorem L3(i:Nat):(gf m i).length=(cX m i).length+1:=by unfold gf;rw[MO hm (Ga hm i),List.length_map]
theorem ap4(i:Nat):sc m (gf m i)=gf m i:=by
 unfold gf;rw[acB hm (Ga hm i),o9];have e:(cX m i).map ((fun r=>ba m r r)∘fun k:Nat=>bY m (k:Int))=((cX m i).map (fun k=>(2*k)%N m)).map (fun k:Nat=>bY m (k:Int)):=by
  rw[o9];refine m1 (fun k _=>?_);show ba m (bY m k) (bY m k)=bY m (((2*k)%N m:Nat):Int);rw[uK hm,Vc,FP,show((k:Int)+(k:Int))=((2*k:Nat):Int) by omega,Vc]
 rw[e];refine Vb hm ((ahd hm i).map _) (fun r aH=>?_);obtain⟨k,_,rfl⟩:=gE.1 aH;exact hd hm _
theorem Bx(i:Nat):cc (gf m i):=by
 have h:=aeo hm i;have hle:∀j,ap (gf m i) j<2:=fun j=>ac1 hm (h.c j) (by rw[←FN,ap4 hm]);refine⟨⟨fun x af=>?_,h.eq⟩,hle⟩;obtain⟨j,ax,e⟩:=E1 af;have:=hle j;rw[show ap (gf m i) j=x by rw[←e];simp[ap,ax]] at this;omega
theorem amR(i x:Nat)(af:x<N m):cM m (gf m i) (bY m x)=0↔x∈cX m i:=by
 unfold gf;rw[Gr hm (hd hm _) (Ga hm i),gE];constructor
 ·rintro⟨k,ah,e⟩;have nC:k<N m:=by obtain⟨j,bD⟩:=(sx hm).1 ah;rw[←bD];exact zj hm i j
  have:=AY hm e;rw[pc (by omega) (by omega),pc (by omega) (by omega)] at this;rw[show x=k by omega];exact ah
 ·intro h;exact⟨x,h,I⟩
end Go.cv
end
section
namespace Go.cv
open Go Go.Proofs.YtcgjepodnfjggaaGreatDoor
variable{m:Nat}(hm:Ok m)
include hm
omit hm in
theorem au3(h:Ok m):2≤2^m:=by have:=kC h;omega
theorem uU{a:ae}(h:cc a):b2 m a:=⟨fun x af=>by
 obtain⟨j,ax,e⟩:=E1 af;have:=h.le j;have ab:=au3 hm;rw[show ap a j=x by rw[←e];simp[ap,ax]] at this;omega,h.cI.eq⟩
theorem apI{a b:Nat}(aj:a<2)(ad:b<2):ba m a b=ba 3 a b:=by
 have aa:=kC hm;rcases(show a=0∨a=1 by omega) with rfl|rfl
 ·rw[et,et]
 ·rw[l5 hm (by omega),l5 gn (by omega)]
theorem Ts{a b:ae}(aj:cc a)(ad:cc b):cN 3 a b=cN m a b:=
 (uU hm (uM aj ad)).ext (iS hm (uU hm aj) (uU hm ad)) (fun j=>by
  rw[jS,jS];exact hz (fun i _=>(apI hm (aj.le i) (ad.le _)).symm))
theorem afV{i k:Nat}(ah:k∈cX m i):k<N m:=by obtain⟨j,e⟩:=(sx hm).1 ah;rw[←e];exact zj hm i j
end Go.cv
end
section
namespace Go.cv
open Go Go.Proofs.YtcgjepodnfjggaaGreatDoor
def mC(m i:Nat):Nat:=(cX m i).headD 0
def b0(m:Nat):Nat→ae×Nat
 |0=>([],0)
 |k+1=>if mC m (2*k+1)∈(b0 m k).1 then b0 m k else((b0 m k).1++[mC m (2*k+1)],(b0 m k).2+(cX m (2*k+1)).length)
def cK(m:Nat)(L:ae):ae:=L.foldl (fun p k=>cN 3 p (gf m k)) [1]
variable{m:Nat}(hm:Ok m)
theorem adL(m i j:Nat):dF m (i%N m) j=dF m i j:=by unfold dF;rw[Nat.mul_mod,Nat.mod_mod,←Nat.mul_mod]
theorem adP(m i:Nat):cX m (i%N m)=cX m i:=by unfold cX;simp only[adL]
include hm
theorem abw(i:Nat):mC m i∈cX m i:=by
 have:=(x8 hm i).1;unfold mC
 match h:cX m i with
 |[]=>rw[h] at this;simp at this
 |a::t=>exact fX ..
theorem amv{k x:Nat}(af:x∈(b0 m k).1):∃j,j<k∧x=mC m (2*j+1):=by
 have:=hm;induction k with
 |zero=>cases af
 |succ k ih=>
  unfold b0 at af;split at af
  ·obtain⟨j,ax,e⟩:=ih af;exact⟨j,by omega,e⟩
  ·rcases hI.1 af with h|h
   ·obtain⟨j,ax,e⟩:=ih h;exact⟨j,by omega,e⟩
   ·exact⟨k,by omega,hK.1 h⟩
omit hm in
theorem Uk{k j:Nat}(h:j<k):mC m (2*j+1)∈(b0 m k).1:=by
 induction k with
 |zero=>omega
 |succ k ih=>
  unfold b0;by_cases xQ:j=k
  ·subst xQ;split
   ·rename_i ab;exact ab
   ·exact hI.2 (.inr (hK.2 I))
  ·split
   ·exact ih (by omega)
   ·exact hI.2 (.inl (ih (by omega)))
omit hm in
theorem SF(k:Nat):(b0 m k).1.length≤k:=by
 induction k with
 |zero=>exact cq _
 |succ k ih=>
  unfold b0;split
  ·omega
  ·rw[ee,ol];omega
theorem TE(i:Nat):cX m (mC m i)=cX m i:=ajY hm (abw hm i)
theorem amA(k:Nat):(b0 m k).2=((b0 m k).1.map (fun x=>(cX m x).length)).sum:=by
 induction k with
 |zero=>rfl
 |succ k ih=>
  unfold b0;split
  ·exact ih
  ·show _+_=_;rw[n3,List.sum_append,ih];simp[TE hm]
theorem Mr(k:Nat):(b0 m k).2≤m*k:=by
 induction k with
 |zero=>exact dg _
 |succ k ih=>
  unfold b0;split
  ·rw[FM];omega
  ·have:=(x8 hm (2*k+1)).2;show _+_≤_;rw[FM];omega
theorem Gf(L:ae)(k:Nat):cK m (L++[k])=cN 3 (cK m L) (gf m k):=by have:=hm;unfold cK;rw[List.foldl_append];rfl
omit hm in
theorem A4{P:ae→Prop}(aB:P [])(aa:∀L k,P L→P (L++[k]))(L:ae):P L:=by
 have:∀n (L:ae),L.length=n→P L:=by
  intro n;induction n with
  |zero=>intro L cF;rw[kS cF];exact aB
  |succ n ih=>
   intro L cF;have e7:L≠[]:=fun h=>by rw[h] at cF;simp at cF
   rw[←List.dropLast_concat_getLast e7];exact aa _ _ (ih _ (by simp;omega))
 exact this _ L I
theorem BB(L:ae):cc (cK m L):=A4 (P:=fun L=>cc (cK m L)) ZI (fun L k ih=>by rw[Gf hm];exact uM ih (Bx hm k)) L
theorem M8(L:ae):(cK m L).length=(L.map (fun x=>(cX m x).length)).sum+1:=by
 refine A4 (P:=fun L=>(cK m L).length=(L.map (fun x=>(cX m x).length)).sum+1) I (fun L k ih=>?_) L;have ah:=L3 hm k;rw[Gf hm,Aq gn (BB hm L).cI (Bx hm k).cI (by omega) (by omega),ih,ah,n3,List.sum_append];simp;omega
theorem apd(L:ae):(L.map (fun x=>(cX m x).length)).sum≤m*L.length:=by
 induction L with
 |nil=>exact dg _
 |cons k L ih=>
  have:=(x8 hm k).2;rw[hW,List.sum_cons,iG,FM];omega
theorem agD(L:ae){x:Nat}(af:x<N m):cM m (cK m L) (bY m (x:Nat))=0↔∃k∈L,x∈cX m k:=by
 refine A4 (P:=fun L=>cM m (cK m L) (bY m (x:Nat))=0↔∃k∈L,x∈cX m k) ?_ (fun L k ih=>?_) L
 ·have:cM m [1] (bY m (x:Nat))=1:=by unfold cM cM;rw[et,hQ]
  show cM m [1] _=0↔_;rw[this];simp
 ·have cF:=uU hm (BB hm L);have ah:=uU hm (Bx hm k);have he:=hd hm (m:=m) (x:Nat);rw[Gf hm,Ts hm (BB hm L) (Bx hm k),Cq hm cF.lt ah.lt _ he];have aH:=amR hm k x af;constructor
  ·intro h;by_cases aa:cM m (cK m L) (bY m (x:Nat))=0
   ·obtain⟨j,ax,e⟩:=ih.1 aa;exact⟨j,hI.2 (.inl ax),e⟩
   ·by_cases ab:cM m (gf m k) (bY m (x:Nat))=0
    ·exact⟨k,hI.2 (.inr (hK.2 I)),aH.1 ab⟩
    ·exact absurd h (o6 hm (jC hm _ cF.lt) (jC hm _ ah.lt) aa ab)
  ·rintro⟨j,ax,e⟩;rcases hI.1 ax with h|h
   ·rw[ih.2 ⟨j,h,e⟩,et]
   ·rw[hK.1 h] at e;rw[aH.2 e,jn]
theorem art{t x:Nat}(aa:1≤x)(ab:x≤2*t)(af:x<N m):cM m (cK m (b0 m t).1) (bY m (x:Nat))=0:=by
 rw[agD hm _ af];have agf:∀n,1≤n→∃a o,n=2^a*(2*o+1):=by
  intro n;induction n using Nat.strongRecOn with
  |_ n ih=>
   intro aQ;rcases w5 n with h|h
   ·obtain⟨a,o,e⟩:=ih (n/ 2) (by omega) (by omega);exact⟨a+1,o,by rw[x4,o3 (2^a),Hx,←e];omega⟩
   ·exact⟨0,n/ 2,by rw[Fj];omega⟩
 obtain⟨a,o,e⟩:=agf x aa;have aG:1≤2^a:=Nat.one_le_two_pow;have av:2*o+1≤x:=by rw[e];exact Nat.le_mul_of_pos_left _ aG
 refine⟨mC m (2*o+1),Uk (by omega),?_⟩;rw[TE hm,sx hm];refine⟨a,?_⟩;unfold dF;rw[o3,←e,ll af]
end Go.cv
end
section
namespace Go.Proofs.YtcgjepodnfjggaaGreatDoor
open Go Go.a6 Go.cv
set_option maxRecDepth 100000
namespace jm
def aa6(l:ae)(x:Nat):Nat:=if x∈l then 1 else 0
theorem RS{a:ae}{x:Nat}:∀{d:Nat},d≤a.length→(x∈jr a a.length d↔a.length≤x+d∧x<a.length∧ap a x≠0)
 |0,_=>by
  unfold jr;simp;omega
 |d+1,aW=>by
  have ih:=RS (a:=a) (x:=x) (d:=d) (by omega);unfold jr;split
  ·rename_i aB;rw[ih];constructor
   ·rintro⟨aa,ab,an⟩;exact⟨by omega,ab,an⟩
   ·rintro⟨aa,ab,an⟩;refine⟨?_,ab,an⟩;by_cases he:x=a.length- 1- d
    ·subst he;exact absurd aB an
    ·omega
  ·rename_i aB;rw[hI,ih,hK];constructor
   ·rintro(⟨aa,ab,an⟩|rfl)
    ·exact⟨by omega,ab,an⟩
    ·exact⟨by omega,by omega,aB⟩
   ·rintro⟨aa,ab,an⟩;by_cases he:x=a.length- 1- d
    ·exact .inr he
    ·exact .inl ⟨by omega,ab,an⟩
def dA(x:Nat):ae:=pl (hG x) (fun j=>(x>>>j)%2)
theorem UX{m:Nat}(hm:Ok m){a:ae}(aj:cc a)(i:Nat):∀{d:Nat},d≤a.length→(jr a a.length d).foldl (fun s n=>s^^^bY m ((n*i:Nat):Int)) 0=xs (fun k=>if a.length≤k+d then ba m (ap a k) (fO m (bY m (i:Nat)) k) else 0) a.length
 |0,_=>by
  show 0=_;rw[pO (fun k ah=>az (by omega))]
 |d+1,aW=>by
  have ih:=UX hm aj i (d:=d) (by omega);have js:∀k,fO m (bY m (i:Nat)) k=bY m ((k*i:Nat):Int):=fun k=>by
   rw[DJ hm];congr 1;push_cast;rw[Int.mul_comm]
  have acV:xs (fun k=>if a.length≤k+(d+1) then ba m (ap a k) (fO m (bY m (i:Nat)) k) else 0) a.length=xs (fun k=>if a.length≤k+d then ba m (ap a k) (fO m (bY m (i:Nat)) k) else 0) a.length^^^ba m (ap a (a.length- 1- d)) (fO m (bY m (i:Nat)) (a.length- 1- d)):=by
   have bu:ba m (ap a (a.length- 1- d)) (fO m (bY m (i:Nat)) (a.length- 1- d))=xs (fun k=>if k=a.length- 1- d then ba m (ap a k) (fO m (bY m (i:Nat)) k) else 0) a.length:=by
    rw[Af (k:=a.length- 1- d) (by omega) (fun k _ ah=>az ah),aD rfl]
   rw[bu,←AK];refine hz (fun k ah=>?_);by_cases aa:k=a.length- 1- d
   ·subst aa;rw[aD (by omega),az (by omega),aD rfl,hQ]
   ·rw[az aa,eS];by_cases ab:a.length≤k+d
    ·rw[aD ab,aD (by omega)]
    ·rw[az ab,az (by omega)]
  unfold jr;split
  ·rename_i aB;rw[ih,acV,aB,et,eS]
  ·rename_i aB;have aa:ap a (a.length- 1- d)=1:=by have:=aj.le (a.length- 1- d);omega
   rw[xZ,rc,List.foldl_nil,ih,acV,aa,js,l5 hm (hd hm _)]
theorem akz{m:Nat}(hm:Ok m){a:ae}(aj:cc a)(i:Nat):(hU a).foldl (fun s n=>s^^^bY m ((n*i:Nat):Int)) 0=cM m a (bY m (i:Nat)):=by
 have h:=UX hm aj i (cq a.length);unfold hU;rw[h,Ac hm (hd hm _) (uU hm aj).lt];exact hz (fun k _=>aD (by omega))
def OV(m i:Nat)(l:ae):Nat:=l.foldl (fun s n=>s^^^bY m ((n*i:Nat):Int)) 0
end jm
end Go.Proofs.YtcgjepodnfjggaaGreatDoor
end
section
namespace Go.Proofs.YtcgjepodnfjggaaGreatDoor
open Go Go.a6 Go.cv jm
def nG(d:Nat)(L:ae)(i:Nat):Nat:=
 let v:=if i=0 then 0 else ap L (i- 1)
 if i=L.length- 1∧d%8≠0 then v%2^(d%8) else v
theorem Y5{L:ae}(cF:∀x∈L,x<256)(d i:Nat):nG d L i<256:=by
 unfold nG;have br:(if i=0 then 0 else ap L (i- 1))<256:=by
  split
  ·decide
  ·exact yZ cF _
 simp only;split
 ·exact lU (Nat.mod_le _ _) br
 ·exact br
theorem asy{d:Nat}(aW:1≤d){R:ae}(cy:cc R){i s:Nat}(hi:i<(d+7)/ 8)(aq:s<8):((nG d (gm ((d+7)/ 8) R) i).testBit s).toNat=if 8*i+s<d then(if 8≤8*i+s then ap R (8*i+s- 8) else 0) else 0:=by
 have br:(((if i=0 then 0 else ap (gm ((d+7)/ 8) R) (i- 1))).testBit s).toNat=if 8≤8*i+s then ap R (8*i+s- 8) else 0:=by
  by_cases aB:i=0
  ·subst aB;rw[aD rfl,az (by omega),Nat.zero_testBit];rfl
  ·rw[az aB,aD (by omega),zp cy (by omega) aq,show 8*i+s- 8=8*(i- 1)+s by omega]
 unfold nG;rw[Cp];simp only;split
 ·rename_i ag;rw[vc];by_cases h:s<d%8
  ·rw[ek h,mU,br,aD (show 8*i+s<d by omega)]
  ·rw[df h,Nh,az (show ¬8*i+s<d by omega)];rfl
 ·rename_i ag;rw[br,aD (show 8*i+s<d by omega)]
def po(d:Nat)(R:ae):Nat:=hM (fun s=>ap R (d- 8+s)) 8
theorem aeA{R:ae}(cy:cc R)(d:Nat):po d R<256:=(oS (fun _=>cy.le _) 8).1
theorem agE{f:Nat→Nat}(aI:∀j,f j<2):bA [hM f 8]=pl 8 f:=pM (en _) (BI aI) (fun j=>by
 rw[gV,jh];by_cases h:j<8
 ·have e:=qu [hM f 8] 0 j h;rw[show 8*0+j=j by omega] at e;rw[e,aD h];exact(oS aI 8).2 j h
 ·rw[az h,qs (by simpa using h)])
theorem auc(x y:Nat):bA [x^^^y]=cO (bA [x]) (bA [y]):=pM (en _) (iM (en _) (en _)) (fun j=>by
 rw[ey,gV,gV,gV];by_cases h:j<8
 ·have e:=fun z=>qu [z] 0 j h;rw[show 8*0+j=j by omega] at e;rw[e,e,e];show((x^^^y).testBit j).toNat=(x.testBit j).toNat^^^(y.testBit j).toNat;rw[DH];cases x.testBit j<;>cases y.testBit j<;>rfl
 ·rw[qs (by simpa using h),qs (by simpa using h),qs (by simpa using h)];rfl)
section
variable{G:ae}(b9:cc G)(ab:2≤G.length)
include b9 ab
theorem apg(uw:9≤G.length){A:ae}(bs:cc A){y:Nat}(_hy:y<256):gm ((G.length- 1+7)/ 8) (ch G (cO (eC 8 A) (bA [y])))=fy ((G.length- 1+7)/ 8) (fun i=>nG (G.length- 1) (gm ((G.length- 1+7)/ 8) (ch G A)) i^^^ap (gm ((G.length- 1+7)/ 8) (ch G (bA [po (G.length- 1) (ch G A)^^^y]))) i):=by
 have c4:=mo b9 ab bs;have qn:=mo b9 ab (en [po (G.length- 1) (ch G A)^^^y]);have iy:=mo b9 ab (iM (gR bs 8) (en [y]));have O5:=vG qn ((G.length- 1+7)/ 8);have h:=C8 (L:=fy ((G.length- 1+7)/ 8) (fun i=>nG (G.length- 1) (gm ((G.length- 1+7)/ 8) (ch G A)) i^^^ap (gm ((G.length- 1+7)/ 8) (ch G (bA [po (G.length- 1) (ch G A)^^^y]))) i)) iy (It (fun i _=>mR (n:=8) (Y5 (vG c4 _) _ _) (yZ O5 i))) (fun i s hi aq=>by
  rw[nc] at hi;rw[wN hi,DH,aec b9 ab uw bs (en [y]),ey,jh];have aa:=asy (d:=G.length- 1) (by omega) c4 hi aq;have an:=zp qn hi aq;have af:∀p q:Bool,(p^^q).toNat=p.toNat^^^q.toNat:=by decide
  rw[af,aa,an,auc];unfold po;rw[agE (fun s=>c4.le _)])
 rw[nc] at h;exact h.symm
theorem ajs{A:ae}(bs:cc A):cO (eC (G.length- 1) A) (ch G A)=cN 3 (mP 3 (eC (G.length- 1) A) G) G:=by
 have e:=AL b9 ab bs;have c4:=mo b9 ab bs;have aM:=zE (gR bs (G.length- 1)) b9 (by omega);refine pM (iM (gR bs _) c4) (uM aM b9) (fun j=>?_);have h:ap (cO (cN 3 (mP 3 (eC (G.length- 1) A) G) G) (ch G A)) j=ap (eC (G.length- 1) A) j:=by rw[e]
 rw[ey] at h;rw[ey,←h,h5,jy,eS]
end
def iV(l:ae)(f:Nat→Nat):Nat:=l.foldr (fun s z=>f s^^^z) 0
theorem IJ(f:Nat→Nat)(k:Nat):∀L:ae,iV (L++[k]) f=iV L f^^^f k
 |[]=>by simp[iV]
 |x::L=>by
  show f x^^^iV (L++[k]) f=(f x^^^iV L f)^^^f k;rw[IJ f k L,h5]
theorem ah9(m i:Nat)(l:ae):OV m i l=iV l (fun n=>bY m ((n*i:Nat):Int)):=
 A4 (P:=fun l=>OV m i l=iV l (fun n=>bY m ((n*i:Nat):Int))) rfl (fun L k ih=>by
  rw[IJ,←ih];unfold OV;rw[xZ];rfl) l
theorem SQ{m:Nat}{f:Nat→Nat}:∀{l:ae},(∀s∈l,f s<2^m)→iV l f<2^m
 |[],_=>eI m
 |x::_,h=>mR (h x (fX ..)) (SQ (fun s aq=>h s (eQ _ aq)))
theorem Ux(g:Nat→Nat→Nat)(n:Nat):∀l:ae,iV l (fun s=>xs (fun i=>g s i) n)=xs (fun i=>iV l (fun s=>g s i)) n
 |[]=>by
  show 0=xs (fun _=>0) n;rw[pO (fun i _=>rfl)]
 |x::l=>by
  show xs (fun i=>g x i) n^^^iV l (fun s=>xs (fun i=>g s i) n)=xs (fun i=>g x i^^^iV l (fun s=>g s i)) n;rw[Ux g n l,AK]
theorem ZW{m:Nat}(c:Nat)(f:Nat→Nat):∀l:ae,ba m c (iV l f)=iV l (fun s=>ba m c (f s))
 |[]=>jn m c
 |x::l=>by
  show ba m c (f x^^^iV l f)=ba m c (f x)^^^iV l (fun s=>ba m c (f s));rw[←ZW c f l,z8]
theorem YR{f:Nat→Nat}{n7:Nat}:∀{l:ae},l.Nodup→n7∈l→(∀s∈l,s≠n7→f s=0)→iV l f=f n7
 |[],_,h,_=>by cases h
 |x::l,aQ,h,aL=>by
  have aQ:=yu.1 aQ;show f x^^^iV l f=f n7;by_cases he:x=n7
  ·subst he;have:iV l f=0:=by
    have key:∀ea:ae,(∀s∈ea,f s=0)→iV ea f=0:=by
     intro ea;induction ea with
     |nil=>intro _;rfl
     |cons y t ih=>
      intro h;show f y^^^iV t f=0;rw[h y (fX ..),ih (fun s aq=>h s (eQ _ aq))];rfl
    exact key l (fun s aq=>aL s (eQ _ aq) (fun e=>aQ.1 (e▸aq)))
   rw[this,eS]
  ·rw[aL x (fX ..) he,hQ];exact YR aQ.2 ((ei.1 h).resolve_left (n4 he)) (fun s aq ab=>aL s (eQ _ aq) ab)
theorem T3{m:Nat}(hm:Ok m){S:ae}(be:S.Nodup)(jO:∀s∈S,s<N m)(aL:∀x,1≤x→x≤S.length→iV S (fun s=>bY m ((s*x:Nat):Int))=0):S=[]:=by
 match S,be,jO,aL with
 |[],_,_,_=>rfl
 |n7::T,be,jO,aL=>
  exfalso;have gd:=yu.1 be;have cE:∀r∈T.map (fun s:Nat=>bY m (s:Int)),r<2^m:=fun r aH=>by
   obtain⟨s,_,e⟩:=gE.1 aH;rw[←e];exact hd hm _
  have hr:=yo hm cE;have v7:=MO hm cE;rw[iK] at v7;have aoC:∀s,s<N m→∀r,r<N m→bY m (s:Int)=bY m (r:Int)→s=r:=fun s aq r aH e=>by
   have:=AY hm e;have aa:((s:Nat):Int)%((N m:Nat):Int)=(s:Int):=pc (by omega) (by omega);have ab:((r:Nat):Int)%((N m:Nat):Int)=(r:Int):=pc (by omega) (by omega);omega
  have Ds:∀s∈T,cM m (k6 m (T.map (fun s:Nat=>bY m (s:Int)))) (bY m (s:Int))=0:=fun s aq=>(Gr hm (hd hm _) cE).2 (gE.2 ⟨s,aq,rfl⟩);have e7:cM m (k6 m (T.map (fun s:Nat=>bY m (s:Int)))) (bY m (n7:Int))≠0:=fun h=>by
   obtain⟨s,aq,e⟩:=gE.1 ((Gr hm (hd hm _) cE).1 h);have:=aoC s (jO s (eQ _ aq)) n7 (jO n7 (fX ..)) e;rw[this] at aq;exact gd.1 aq
  generalize k6 m (T.map (fun s:Nat=>bY m (s:Int)))=Q at hr v7 Ds e7;have aa:iV (n7::T) (fun s=>ba m (bY m (s:Int)) (cM m Q (bY m (s:Int))))=ba m (bY m (n7:Int)) (cM m Q (bY m (n7:Int))):=YR be (fX ..) (fun s aq h=>by
   rw[Ds s ((ei.1 aq).resolve_left h),jn])
  have ab:iV (n7::T) (fun s=>ba m (bY m (s:Int)) (cM m Q (bY m (s:Int))))=iV (n7::T) (fun s=>xs (fun i=>ba m (ap Q i) (bY m ((s*(i+1):Nat):Int))) Q.length):=by
   have aI:(fun s:Nat=>ba m (bY m (s:Int)) (cM m Q (bY m (s:Int))))=(fun s:Nat=>xs (fun i=>ba m (ap Q i) (bY m ((s*(i+1):Nat):Int))) Q.length):=by
    funext s;rw[Ac hm (hd hm _) hr.lt,A1];refine hz (fun i _=>?_);have af:=hd hm (s:Int);have aG:=rS hm (bY m (s:Int)) i;have ag:=hr.c i;rw[←h0 hm af ag aG,kH hm af ag,h0 hm ag af aG,DJ hm,uK hm];congr 2
    push_cast
    rw[NM,Int.mul_one,Int.add_comm]
   rw[aI]
  rw[ab,Ux,pO (fun i hi=>?_)] at aa
  ·exact o6 hm (hd hm _) (jC hm _ hr.lt) (Wz hm _) e7 aa.symm
  ·rw[←ZW,aL (i+1) (by omega) (by simp;omega),jn]
theorem WO{a:ae}{x:Nat}:x∈hU a↔x<a.length∧ap a x≠0:=by
 unfold hU;rw[RS (cq _)];exact⟨fun h=>h.2,fun h=>⟨by omega,h⟩⟩
theorem Um(a:ae):∀d,d≤a.length→(jr a a.length d).Pairwise (· > ·)
 |0,_=>List.Pairwise.nil
 |d+1,aW=>by
  have ih:=Um a d (by omega);unfold jr;split
  ·exact ih
  ·rw[List.pairwise_append];refine⟨ih,N9 _ _,fun x af y aF=>?_⟩;rw[hK.1 aF];have:=(RS (a:=a) (x:=x) (by omega)).1 af;omega
theorem Yk(a:ae):(hU a).Nodup:=(Um a _ (Nat.le_refl _)).imp (fun h=>by omega)
theorem asD{m:Nat}(hm:Ok m){W:ae}(gZ:cc W)(bc:W.length≤N m){t:Nat}(aL:∀x,1≤x→x≤2*t→cM m W (bY m (x:Nat))=0):hU W=[]∨2*t+1≤(hU W).length:=by
 by_cases h:2*t+1≤(hU W).length
 ·exact .inr h
 ·refine .inl (T3 hm (Yk W) (fun s aq=>by have:=(WO.1 aq).1;omega) (fun x aa ab=>?_));rw[←ah9];have:=akz hm gZ x;rw[aL x aa (by omega)] at this;exact this
theorem YG{m:Nat}(hm:Ok m){t:Nat}(ab:2≤(cK m (b0 m t).1).length){A:ae}(bs:cc A){x:Nat}(aa:1≤x)(af:x≤2*t)(jO:x<N m):cM m (cO (eC ((cK m (b0 m t).1).length- 1) A) (ch (cK m (b0 m t).1) A)) (bY m (x:Nat))=0:=by
 have b9:=BB hm (b0 m t).1;have aM:=zE (gR bs ((cK m (b0 m t).1).length- 1)) b9 (by omega);rw[ajs b9 ab bs,Ts hm aM b9,Cq hm (uU hm aM).lt (uU hm b9).lt _ (hd hm _),art hm aa af jO,jn]
end Go.Proofs.YtcgjepodnfjggaaGreatDoor
end
section
namespace Go.Proofs.YtcgjepodnfjggaaGreatDoor
open Go Go.a6 Go.cv jm
def gu(n:Nat)(f:Nat→Nat):cJ:=(aA .u8 (fy n f)).toArray
theorem q0{n i:Nat}{f:Nat→Nat}(h:i<n):(gu n f)[i]?=some (.int .u8 (f i:Nat)):=by
 unfold gu;rw[yN,aA,jj,yi h];rfl
theorem wz(n:Nat)(f:Nat→Nat)(i v:Nat):(gu n f).setIfInBounds i (.int .u8 (v:Nat))=gu n (fun j=>if j=i then v else f j):=by
 unfold gu;rw[r4,xC,aai]
theorem uN(n:Nat)(f:Nat→Nat):(gu n f).size=n:=by simp[gu,aA,nc]
theorem Ek{n:Nat}{f g:Nat→Nat}(h:∀i,i<n→f i=g i):gu n f=gu n g:=by
 unfold gu;rw[Hh h]
theorem MV(k:Nat)(a:ae):gu k (ap (gm k a))=(aA .u8 (gm k a)).toArray:=by
 unfold gu;have:=Uv (gm k a);rw[Cp] at this;rw[this]
theorem aiO(k:Nat):(List.replicate k (Value.int .u8 0)).toArray=gu k (ap (gm k [])):=by
 rw[MV,←ahM];simp[aA]
def sk(L:ae)(i j:Nat):Nat:=if i<j then q7 L j else ap L j
theorem acg(L:ae)(i:Nat):(fun j=>if j=i+1 then q7 L (i+1) else sk L (i+1) j)=sk L i:=by
 funext j;unfold sk;by_cases h:j=i+1
 ·subst h;rw[aD rfl,aD (by omega)]
 ·rw[az h];by_cases ab:i+1<j
  ·rw[aD ab,aD (by omega)]
  ·rw[az ab,az (by omega)]
theorem aqy(L:ae):gu L.length (sk L (L.length- 1))=gu L.length (ap L):=Ek (fun i hi=>by unfold sk;rw[if_neg (by omega)])
theorem Fz{L:ae}{i j:Nat}(h:j≤i):sk L i j=ap L j:=by unfold sk;rw[if_neg (by omega)]
def ra(L:ae)(j:Nat):Nat:=if j=0 then ap L 0*2^1%256 else q7 L j
theorem ate(L:ae):(fun j=>if j=0 then ap L 0*2^1%256 else sk L 0 j)=ra L:=by
 funext j;unfold sk ra;by_cases h:j=0
 ·rw[aD h,aD h]
 ·rw[az h,az h,aD (by omega)]
theorem ai6{L:ae}(cF:∀x∈L,x<256)(j:Nat):ra L j<256:=by
 unfold ra;split
 ·exact fV _ (by decide)
 ·exact SB cF j
theorem anM{L:ae}(d:Nat)(h:d%8≠0):(fun j=>if j=L.length- 1 then ra L (L.length- 1)%2^(d%8) else ra L j)=mA d L:=by
 funext j;unfold mA;dsimp only;by_cases ax:j=L.length- 1
 ·rw[aD ax,aD ⟨ax,h⟩];subst ax;rfl
 ·rw[az ax,az (fun e=>ax e.1)];rfl
theorem agM{L:ae}(d:Nat)(h:d%8=0):ra L=mA d L:=by
 funext j;unfold mA;dsimp only;rw[az (fun e=>e.2 h)];rfl
theorem Tf(x s:Nat):x&&&(2^s- 1)=x%2^s:=Nat.and_two_pow_sub_one_eq_mod x s
def og(f g:Nat→Nat)(i j:Nat):Nat:=if j<i then f j^^^g j else f j
theorem acz(f g:Nat→Nat):og f g 0=f:=by funext j;unfold og;rw[if_neg (by omega)]
theorem T1(f g:Nat→Nat)(i:Nat):(fun j=>if j=i then f i^^^g i else og f g i j)=og f g (i+1):=by
 funext j;unfold og;by_cases h:j=i
 ·subst h;rw[aD rfl,aD (by omega)]
 ·rw[az h];by_cases ab:j<i
  ·rw[aD ab,aD (by omega)]
  ·rw[az ab,az (by omega)]
theorem Z2(f g:Nat→Nat)(i:Nat):og f g i i=f i:=by unfold og;rw[if_neg (by omega)]
theorem Sy{n:Nat}(f g:Nat→Nat):gu n (og f g n)=gu n (fun j=>f j^^^g j):=Ek (fun i hi=>by unfold og;rw[if_pos hi])
variable{G:ae}(b9:cc G)(ab:2≤G.length)
include b9 ab
theorem ad4{A:ae}(bs:cc A){b:Nat}(ad:b<2)(h:b≠ap (ch G A) (G.length- 1- 1)):
  gu ((G.length- 1+7)/ 8) (og (mA (G.length- 1) (gm ((G.length- 1+7)/ 8) (ch G A))) (ap (gm ((G.length- 1+7)/ 8) (BF G))) ((G.length- 1+7)/ 8))=gu ((G.length- 1+7)/ 8) (ap (gm ((G.length- 1+7)/ 8) (ch G (pF b A)))):=by
 rw[Sy,acX b9 ab bs ad];refine Ek (fun i hi=>?_);rw[wN hi,az h]
theorem atj{A:ae}(bs:cc A){b:Nat}(ad:b<2)(h:b=ap (ch G A) (G.length- 1- 1)):
  gu ((G.length- 1+7)/ 8) (mA (G.length- 1) (gm ((G.length- 1+7)/ 8) (ch G A)))=gu ((G.length- 1+7)/ 8) (ap (gm ((G.length- 1+7)/ 8) (ch G (pF b A)))):=by
 rw[acX b9 ab bs ad];refine Ek (fun i hi=>?_);rw[wN hi,aD h,eS]
omit b9 ab
theorem auE{A:ae}(bs:cc A)(y:Nat):oL 8 (cO (eC 8 A) (bA [y]))=A:=pM (u1 (iM (gR bs 8) (en _)) 8) bs (fun j=>by
 rw[zi,ey,jM,aD (by omega),gV,qs (by show 8*1≤_;omega),eS,JY])
theorem auB(A:ae)(y:Nat){k:Nat}(ah:k<8):ap (cO (eC 8 A) (bA [y])) k=(y>>>k)%2:=by
 rw[ey,jM,az (by omega),hQ,gV];unfold cz;rw[BC ah,ll ah];rfl
theorem asm{A:ae}(bs:cc A)(y:Nat):cc (cO (eC 8 A) (bA [y])):=iM (gR bs 8) (en _)
theorem ai9{f:Nat→Nat}(aI:∀j,f j<2)(i:Nat):hM f i|||f i*2^i=hM f (i+1):=by
 have h:=(oS aI i).1;show _=hM f i+f i*2^i;rw[MA,←Nat.shiftLeft_eq,←Nat.shiftLeft_add_eq_or_of_lt h,B8]
theorem TP{f:Nat→Nat}(aI:∀j,f j<2){i:Nat}(h:i≤8):hM f i<256:=Nat.lt_of_lt_of_le (oS aI i).1 (Nat.pow_le_pow_right (n:=2) (by omega) h)
theorem U8{a:ae}(aj:cc a){k j:Nat}(h:j<8*k):(ap (gm k a) (j/ 8)>>>(j%8))%2=ap a j:=by
 have:=Sb aj h;unfold cz at this;exact this
def uR(L:ae)(j:Nat):Nat:=if j=0 then ap L 0 else ap L (j- 1)
theorem ag1{L:ae}(h:1≤L.length):((aA .u8 L).toArray.toList.take 1++(aA .u8 L).take (min L.length (L.length- 1))++(aA .u8 L).toArray.toList.drop (1+min L.length (L.length- 1))).toArray=gu L.length (uR L):=by
 rw[show min L.length (L.length- 1)=L.length- 1 by omega,show 1+(L.length- 1)=L.length by omega];have bc:(aA .u8 L).length=L.length:=by simp[aA]
 rw[show(aA .u8 L).toArray.toList=aA .u8 L from rfl,BS (by omega),nK];unfold gu;congr 1;apply jB;intro i;by_cases hi:i<L.length
 ·rw[show(aA .u8 (fy L.length (uR L)))[i]?=some (.int .u8 (uR L i:Nat)) by rw[aA,jj,yi hi];rfl];unfold uR;have bb:((aA .u8 L).take 1).length=1:=by rw[fW,bc];omega
  by_cases aB:i=0
  ·subst aB;rw[aD rfl,nE (by omega),mj,aD (by omega)];exact jk hi
  ·rw[az aB,mg (by omega),bb,mj,aD (by omega)];exact jk (by omega)
 ·rw[iq (by rw[ee,fW,fW,bc];omega),iq (by simp[aA,nc];omega)]
def rn(L:ae)(j:Nat):Nat:=if j=0 then 0 else ap L (j- 1)
theorem aeT(L:ae):(fun j=>if j=0 then 0 else uR L j)=rn L:=by
 funext j;unfold uR rn;by_cases h:j=0
 ·rw[aD h,aD h]
 ·rw[az h,az h,az h]
theorem arY{L:ae}(cF:∀x∈L,x<256)(j:Nat):rn L j<256:=by
 unfold rn;split
 ·decide
 ·exact yZ cF _
theorem ajW{L:ae}(d:Nat)(h:d%8≠0):(fun j=>if j=L.length- 1 then rn L (L.length- 1)%2^(d%8) else rn L j)=nG d L:=by
 funext j;unfold nG;dsimp only;by_cases ax:j=L.length- 1
 ·rw[aD ax,aD ⟨ax,h⟩];subst ax;rfl
 ·rw[az ax,az (fun e=>ax e.1)];rfl
theorem af1{L:ae}(d:Nat)(h:d%8=0):rn L=nG d L:=by
 funext j;unfold nG;dsimp only;rw[az (fun e=>e.2 h)];rfl
include b9 ab
theorem apQ(uw:9≤G.length){A:ae}(bs:cc A){y:Nat}(aF:y<256):
  gu ((G.length- 1+7)/ 8) (og (nG (G.length- 1) (gm ((G.length- 1+7)/ 8) (ch G A))) (ap (gm ((G.length- 1+7)/ 8) (ch G (bA [po (G.length- 1) (ch G A)^^^y])))) ((G.length- 1+7)/ 8))=gu ((G.length- 1+7)/ 8) (ap (gm ((G.length- 1+7)/ 8) (ch G (cO (eC 8 A) (bA [y]))))):=by
 rw[Sy,apg b9 ab uw bs aF];refine Ek (fun i hi=>?_);rw[wN hi]
end Go.Proofs.YtcgjepodnfjggaaGreatDoor
end
section
namespace Go.a6
open Go
abbrev kn(ro:eu):Fence:={Fence.wide with round:=ro}
def pq(P:a8)(o:Oper)(a:Act)(K:Act→ao→Prop):Result Next→Prop
 |.ok (.value v) ar=>K (a.put o.dst v) ar
 |.ok .skip ar=>K (a.put o.dst undef) ar
 |.ok (.enter f args) ar=>Calls P f args ar fun e lz=>∃v,e=.returned v∧K (a.put o.dst v) lz
 |.ok (.row row args) ar=>Rows P row args ar fun v lz=>K (a.put o.dst v) lz
 |.ok (.round l f tmps assign body) ar=>RoundIn Fence.wide 0 P l f tmps assign body ar fun e lz=>∃v,e=.returned v∧K (a.put o.dst v) lz
 |_=>False
def lq(P:a8)(o:Oper)(a:Act)(w:ao)(K:Act→ao→Prop):Prop:=pq P o a K ((execOp a.eval o).run P w)
theorem UF{P:a8}{o:Oper}{a:Act}{K hV:Act→ao→Prop}(eY:∀a w,K a w→hV a w){r:Result Next}(h:pq P o a K r):pq P o a hV r:=by
 cases r with
 |ok x ar=>
  cases x<;>simp only[pq] at h⊢
  case value=>exact eY _ _ h
  case skip=>exact eY _ _ h
  case enter=>exact Calls.mono h (fun e w ⟨v,he,ah⟩=>⟨v,he,eY _ _ ah⟩)
  case row=>exact Rows.mono h (fun v w ah=>eY _ _ ah)
  case round=>exact RoundIn.mono h (fun e w ⟨v,he,ah⟩=>⟨v,he,eY _ _ ah⟩)
 |halt x ar=>simp only[pq] at h
theorem lq.wpIn{P:a8}{ro:eu}{o:Oper}{a:Act}{w:ao}{K:Act→ao→Prop}{Q:Exit→Act→ao→Prop}(gd:∀c,o.op≠.defer c)(h:lq P o a w K):o.wpIn (kn ro) 0 P a w K Q:=by
 refine⟨fun _ _=>trivial,?_⟩;show o.uponIn (kn ro) 0 P a K Q ((o.semAt ro a.eval).run P w);rw[Oper.semAt_eq ro _ _ gd];unfold lq at h;generalize (execOp a.eval o).run P w=r at*;have aW:∀{p:Prop},((kn ro).depth.isSome=true→p):=fun h=>by simp[Fence.wide] at h
 cases r with
 |ok x ar=>
  cases x<;>simp only[pq] at h
  case value=>exact h
  case skip=>exact h
  case enter f args=>
   refine⟨aW,?_⟩;have ab:CallsIn Fence.wide 0 P f args ar _:=callsIn_wide.2 h;exact CallsIn.mono (F:=kn ro) ab (fun e w ⟨v,he,ah⟩=>by subst he;exact ah)
  case row row args=>
   refine⟨aW,fun c cs _=>?_⟩;obtain⟨v,lz,ah,aq⟩:=h c cs;exact⟨v,lz,ah,stepsIn_wide.2 aq⟩
  case round l f tmps assign body=>
   refine⟨aW,?_⟩;exact RoundIn.mono (F:=kn ro) h (fun e w ⟨v,he,ah⟩=>by subst he;exact ah)
 |halt x ar=>simp only[pq] at h
theorem lq.of_wp{P:a8}{o:Oper}{a:Act}{w:ao}{K hV:Act→ao→Prop}(aX:List fj)(h:o.wp P {a with defers:=[]} w hV wH)
  (eY:∀bN ar,hV bN ar→bN.defers=[]∧K {bN with defers:=aX} ar) (Fx:a.defers=aX):lq P o a w K:=by
 have aG:∀v:aV,{({a with defers:=[]}:Act).put o.dst v with defers:=aX}=a.put o.dst v:=fun v=>by
  subst Fx;cases o.dst<;>rfl
 unfold Oper.wp at h;unfold lq;have he:({a with defers:=[]}:Act).eval=a.eval:=by funext x;cases x<;>rfl
 rw[he] at h;generalize (execOp a.eval o).run P w=r at*;cases r with
 |ok x ar=>
  cases x<;>simp only[Oper.upon] at h<;>simp only[pq]
  case value v=>have:=(eY _ _ h).2;rwa [aG] at this
  case skip=>have:=(eY _ _ h).2;rwa [aG] at this
  case defer d=>have:=(eY _ _ h).1;cases aW:o.dst<;>simp[Act.put,aW] at this
  case enter f args=>
   refine Calls.mono h (fun e lz he=>?_);cases e with
   |returned v=>have:=(eY _ _ he).2;rw[aG] at this;exact⟨v,I,this⟩
   |panicked c=>exact he.elim
   |outgrown=>obtain⟨_,_,aI⟩:=he;exact aI.elim
  case row row args=>exact Rows.mono h (fun v lz he=>by have:=(eY _ _ he).2;rwa [aG] at this)
 |halt x ar=>cases x<;>simp only[Oper.upon,wH] at h
section
variable(P:a8)(ops:Array Oper)(S:ao→Prop)(K:Act→ao→Prop)
def ig(i:Nat)(K:Act→ao→Prop)(a:Act)(w:ao):Prop:=match ops[i]? with
 |none=>False
 |some o=>if Region.wanted o (yielded ops a.tmps)=true then lq P o a w K else K (a.put o.dst undef) w
def jH:eR→Act→ao→Prop
 |.done,a,w=>K a w
 |.bB true i p,a,w=>match ops[i]? with
  |none=>False
  |some o=>if Region.wanted o (yielded ops a.tmps)=true then ∃v,(∀ar,S ar→(execOp a.eval o).run P ar=.ok (.value v) ar)∧jH p (a.put o.dst v) w
   else jH p (a.put o.dst undef) w
 |.bB false i p,a,w=>ig P ops i (fun bN ar=>S ar∧jH p bN ar) a w
 |.hp i p q,a,w=>ig P ops i (fun bN ar=>S ar∧jH p bN ar) a w∧jH q a w
def mT:Nat→Array Bool→Act→ao→Prop
 |0,listed,a,w=>Region.ready .any ops listed=[]∧K a w
 |f+1,listed,a,w=>(Region.ready .any ops listed=[]→K a w)∧∀i∈Region.ready .any ops listed,ig P ops i (fun bN ar=>S ar∧mT f (listed.setIfInBounds i true) bN ar) a w
end
section
variable{P:a8}{ops:Array Oper}{S:ao→Prop}{K hV:Act→ao→Prop}
theorem tE{i:Nat}(eY:∀a w,K a w→hV a w){a:Act}{w:ao}(h:ig P ops i K a w):ig P ops i hV a w:=by
 unfold ig at*;cases av:ops[i]? with
 |none=>rw[av] at h;exact h
 |some o=>
  rw[av] at h;dsimp only at h⊢;by_cases hw:Region.wanted o (yielded ops a.tmps)=true
  ·rw[aD hw] at h⊢;exact UF eY h
  ·rw[az hw] at h⊢;exact eY _ _ h
def rI(ops:Array Oper):Bool:=ops.all fun o=>match o.op with|.defer _=>false|_=>true
theorem ad7{i:Nat}{o:Oper}(h:rI ops=true)(av:ops[i]?=some o):∀c,o.op≠.defer c:=by
 intro c ag;have:=Array.all_eq_true_iff_forall_mem.1 h o (Ym av);rw[ag] at this;exact absurd this (by simp)
theorem aay{ro:eu}(gd:rI ops=true){i:Nat}{a:Act}{w:ao}{Q:Exit→Act→ao→Prop}(h:ig P ops i K a w):wpOpIn (kn ro) 0 P ops Q i K a w:=by
 unfold ig at h;unfold wpOpIn;split at h
 ·exact h.elim
 ·rename_i o av;rw[av];dsimp only;split at h
  ·rename_i hw;rw[aD hw];exact lq.wpIn (ad7 gd av) h
  ·rename_i hw;rw[az hw];exact⟨fun _ _=>trivial,h⟩
theorem mT.RT{ro:eu}(gd:rI ops=true):∀(f:Nat) (listed:Array Bool) (a:Act) (w:ao),mT P ops S K f listed a w→wpAnyIn (kn ro) 0 P .any ops (mS K) f listed a w
 |0,_,_,_,h=>h
 |f+1,_,_,_,h=>⟨h.1,fun i hi=>aay gd (tE (fun _ _ dS=>mT.RT gd f _ _ _ dS.2) (h.2 i hi))⟩
theorem UN{j:Nat}{dm de:Oper}{v:aV}(ax:ops[j]?=some de)(tQ:dm.apart ops de=true)(QV:∀cs b,de.op≠.select cs b){a:Act}{w:ao}
  (h:ig P ops j K (a.put dm.dst v) w):ig P ops j (fun bN ar=>(∃u,bN=a.put de.dst u)∧K (bN.put dm.dst v) ar) a w:=by
 obtain⟨aa,ab,_⟩:=Oper.apart_spec tQ;unfold ig at*;rw[ax] at*;dsimp only at*;rw[wanted_put de a dm.dst v aa] at h;split at h
 ·rename_i hw;rw[aD hw];unfold lq at*;rw[execOp_put de QV a dm.dst v aa] at h;generalize (execOp a.eval de).run P w=r at*;have ag:∀u,(a.put dm.dst v).put de.dst u=(a.put de.dst u).put dm.dst v:=fun u=>Act.put_comm a v u ab;cases r with
  |ok x ar=>
   cases x<;>simp only[pq] at h⊢
   case value u=>exact⟨⟨u,rfl⟩,by rw[←ag];exact h⟩
   case skip=>exact⟨⟨_,rfl⟩,by rw[←ag];exact h⟩
   case enter=>exact Calls.mono h (fun e w ⟨u,he,ah⟩=>⟨u,he,⟨u,rfl⟩,by rw[←ag];exact ah⟩)
   case row=>exact Rows.mono h (fun u w ah=>⟨⟨u,rfl⟩,by rw[←ag];exact ah⟩)
   case round=>exact RoundIn.mono h (fun e w ⟨u,he,ah⟩=>⟨u,he,⟨u,rfl⟩,by rw[←ag];exact ah⟩)
  |halt x ar=>simp only[pq] at h
 ·rename_i hw;rw[az hw];exact⟨⟨_,I⟩,by rw[←Act.put_comm a v undef ab];exact h⟩
theorem mT.take{i:Nat}{dm:Oper}{v:aV}(hi:ops[i]?=some dm)(aq:Region.noSelect ops=true):∀(f:Nat) (listed:Array Bool) (a:Act) (w:ao),
  (∀j de,ops[j]?=some de→j≠i→listed.getD j true=false→(∀e∈de.after,Region.binds .any e=true→e.on≠i)→dm.apart ops de=true)→
  i∈Region.ready .any ops listed→
  ((Region.wanted dm (yielded ops a.tmps)=true∧∀ar,S ar→(execOp a.eval dm).run P ar=.ok (.value v) ar)∨(Region.wanted dm (yielded ops a.tmps)=false∧v=undef))→S w→
  mT P ops S K f (listed.setIfInBounds i true) (a.put dm.dst v) w→mT P ops S K (f+1) listed a w:=by
 have own:∀{K:Act→ao→Prop} {a:Act} {w:ao},
   ((Region.wanted dm (yielded ops a.tmps)=true∧∀ar,S ar→(execOp a.eval dm).run P ar=.ok (.value v) ar)∨(Region.wanted dm (yielded ops a.tmps)=false∧v=undef))→S w→K (a.put dm.dst v) w→ig P ops i K a w:=by
  intro K a w aF be ah;unfold ig;rw[hi];dsimp only;rcases aF with⟨hw,br⟩|⟨hw,rfl⟩
  ·rw[aD hw];unfold lq;rw[br w be];exact ah
  ·rw[az (by simp[hw])];exact ah
 intro f;induction f with
 |zero=>
  intro listed a w _ aH aF be H;refine⟨fun aB=>absurd (aB▸aH) (by simp),fun j ax=>?_⟩;by_cases e:j=i
  ·subst e;exact own aF be ⟨be,H⟩
  ·exact absurd (H.1▸ready_mono (i:=i) ax e) (by simp)
 |succ f ih=>
  intro listed a w vm aH aF be H;refine⟨fun aB=>absurd (aB▸aH) (by simp),fun j ax=>?_⟩;by_cases e:j=i
  ·subst e;exact own aF be ⟨be,H⟩
  ·obtain⟨hu,de,jX,kQ⟩:=mem_ready.1 ax;have ga:∀e∈de.after,Region.binds .any e=true→e.on≠i:=fun e he ad o5=>by
    have k1:=kQ e he ad;have p4:=(mem_ready.1 aH).1;rw[o5] at k1;by_cases ca:i<listed.size
    ·simp[ca] at p4 k1;simp[p4] at k1
    ·simp[L5 (nV ca)] at k1
   have tQ:=vm j de jX e hu ga;obtain⟨_,_,an⟩:=Oper.apart_spec tQ;refine tE (fun bN ar ah=>?_) (UN jX tQ (fun cs b=>Region.noSelect_spec aq j de cs b jX) (H.2 j (ready_mono ax e)));obtain⟨⟨u,rfl⟩,nq,ah⟩:=ah;refine⟨nq,ih _ _ ar (fun k ok uh lc na PI=>vm k ok uh lc ?_ PI) (ready_mono aH (n4 e)) ?_ nq (by rw[P3 _ _ e];exact ah)⟩
   ·by_cases xQ:j=k
    ·subst xQ;exact hu
    ·rwa [getD_set_ne true xQ] at na
   ·rw[wanted_put dm a de.dst u an,execOp_put dm (fun cs b=>Region.noSelect_spec aq i dm cs b hi) a de.dst u an];exact aF
theorem aqZ(aq:Region.noSelect ops=true):∀(p:eR) (f:Nat) (listed:Array Bool) (rs:Option (ae)) (a:Act) (w:ao),iz ops p f listed rs=true→S w→jH P ops S K p a w→
   (rs=none→mT P ops S K f listed a w)∧
   (∀l,rs=some l→∃g,f=g+1∧∀i∈l,ig P ops i (fun bN ar=>S ar∧mT P ops S K g (listed.setIfInBounds i true) bN ar) a w):=by
 intro p;induction p with
 |done=>
  intro f listed rs a w dx be h;simp only[iz,b7,Px,Kf] at dx;obtain⟨aa,ab⟩:=dx;subst aa;refine⟨fun _=>?_,fun l bc=>by cases bc⟩;cases f with
  |zero=>exact⟨ab,h⟩
  |succ f=>exact⟨fun _=>h,by rw[ab];simp⟩
 |bB fl i p ih=>
  intro f listed rs a w dx be h;cases f with
  |zero=>cases fl<;>simp[iz] at dx
  |succ f=>
   cases fl with
   |true=>
    simp only[iz,b7,Kf] at dx;obtain⟨⟨⟨aa,ab⟩,an⟩,aK⟩:=dx;subst aa;refine⟨fun _=>?_,fun l bc=>by cases bc⟩;unfold jH at h;split at h
    ·exact h.elim
    ·rename_i o av;split at h
     ·rename_i hw;obtain⟨v,br,aQ⟩:=h;exact mT.take av aq f listed a w (Region.free_spec av an) (by simpa using ab) (.inl ⟨hw,br⟩) be ((ih f _ none _ w aK be aQ).1 I)
     ·rename_i hw;exact mT.take av aq f listed a w (Region.free_spec av an) (by simpa using ab) (.inr ⟨by simpa using hw,I⟩) be ((ih f _ none _ w aK be h).1 I)
   |false=>
    simp only[iz,b7,Fe] at dx;obtain⟨aa,ab⟩:=dx;have ah:ig P ops i (fun bN ar=>S ar∧mT P ops S K f (listed.setIfInBounds i true) bN ar) a w:=
     tE (K:=fun bN ar=>S ar∧jH P ops S K p bN ar) (fun bN ar ⟨nq,dS⟩=>⟨nq,(ih f _ none bN ar ab nq dS).1 rfl⟩) (by unfold jH at h;exact h)
    constructor
    ·rintro rfl;simp only[sj] at aa;exact⟨fun aB=>absurd (aB.symm.trans aa) (by simp),fun j ax=>by rw[aa] at ax;simp at ax;subst ax;exact ah⟩
    ·rintro l rfl;simp only[kg] at aa;subst aa;exact⟨f,I,fun j ax=>by simp at ax;subst ax;exact ah⟩
 |hp i p q Ku MD=>
  intro f listed rs a w dx be h;cases f with
  |zero=>simp[iz] at dx
  |succ f=>
   simp only[iz,b7] at dx;obtain⟨aa,ab⟩:=dx;unfold jH at h;obtain⟨aj,ad⟩:=h;have ah:ig P ops i (fun bN ar=>S ar∧mT P ops S K f (listed.setIfInBounds i true) bN ar) a w:=
    tE (fun bN ar ⟨nq,dS⟩=>⟨nq,(Ku f _ none bN ar aa nq dS).1 rfl⟩) aj
   obtain⟨hB,auU,aM⟩:=(MD (f+1) listed _ a w ab be ad).2 _ rfl;obtain rfl:f=hB:=by omega
   have kQ:∀j∈rs.getD (Region.ready .any ops listed),ig P ops j (fun bN ar=>S ar∧mT P ops S K f (listed.setIfInBounds j true) bN ar) a w:=by
    intro j ax;by_cases e:j=i
    ·subst e;exact ah
    ·exact aM j (by simp[ax,e])
   constructor
   ·rintro rfl;refine⟨fun aB=>?_,kQ⟩;exfalso;simp only[sj] at aM ab;rw[aB] at ab;have:∀(q:eR),iz ops q (f+1) listed (some [])=false:=by
     intro q;induction q with
     |done=>simp[iz]
     |bB fl i p _=>cases fl<;>simp[iz]
     |hp i p q _ ih=>simp only[iz,kg,List.filter_nil,ih,Lq]
    simp[this] at ab
   ·rintro l rfl;exact⟨f,I,kQ⟩
theorem at7{ro:eu}{id:Nat}{a:Act}{w:ao}(p:eR)(hm:P.follows .mixedOrders=true)
  (dx:(rI ops&&(Region.noSelect ops&&iz ops p ops.size (Array.replicate ops.size false) none))=true) (be:S w.drew) (h:jH P ops S K p a w.drew):(Code.region id ops true).wpIn (kn ro) 0 P (mS K) a w:=by
 rw[b7,b7] at dx;exact wpIn_region_any hm (mT.RT dx.1 _ _ _ _ ((aqZ dx.2.1 p _ _ none a w.drew dx.2.2 be h).1 I))
theorem Sv{ro:eu}{id:Nat}{a:Act}{w:ao}(gd:rI ops=true)(h:jH P ops S K (lZ 0 ops.size) a w):(Code.region id ops false).wpIn (kn ro) 0 P (mS K) a w:=by
 have key:∀(k i:Nat) (a:Act) (w:ao),jH P ops S K (lZ i k) a w→wpOpsIn (kn ro) 0 P ops (mS K) (List.range' i k) a w:=by
  intro k;induction k with
  |zero=>intro i a w h;simpa[lZ,jH,wpOpsIn,mS] using h
  |succ k ih=>
   intro i a w h;simp only[lZ,jH] at h;simp only[List.range'_succ];rw[wpOpsIn_cons];exact aay gd (tE (fun bN ar dS=>ih _ bN ar dS.2) h)
 refine wpIn_region ?_;rw[Yh];exact key ops.size 0 a w h
end
structure kb(n:Nat)(aX:List fj)(l:List (Nat×aV))(a:Act):Prop where
 env:Env n l {a with defers:=[]}
 defers:a.defers=aX
theorem kb.of{n:Nat}{aX:List fj}{l:List (Nat×aV)}{a:Act}(h:Env n l a):kb n aX l {a with defers:=aX}:=⟨⟨h.size,rfl,h.at_⟩,rfl⟩
theorem kb.sub{n:Nat}{aX:List fj}{l ea:List (Nat×aV)}{a:Act}(h:kb n aX l a)(aq:Sub ea l):kb n aX ea a:=⟨h.env.sub aq,h.defers⟩
theorem RR(a:Act):({a with defers:=[]}:Act).eval=a.eval:=by funext x;cases x<;>rfl
theorem kb.bk{n:Nat}{aX:List fj}{l:List (Nat×aV)}{a:Act}(h:kb n aX l a){x:bf}{v:aV}(af:bk l x=some v):a.eval x=v:=by
 rw[←RR];exact h.env.bk af
structure bR(P:a8)(ops:Array Oper)(S:ao→Prop)(K:Act→ao→Prop)(p:eR)(n:Nat)(aX:List fj)(l:List (Nat×aV))(C:ao→Prop):Prop where
 run:∀a w,kb n aX l a→C w→S w→jH P ops S K p a w
section
variable{P:a8}{ops:Array Oper}{S:ao→Prop}{K:Act→ao→Prop}{p q:eR}{n:Nat}{aX:List fj}{l:List (Nat×aV)}{C ec:ao→Prop}
theorem bR.done(h:∀a w,kb n aX l a→C w→K a w):bR P ops S K .done n aX l C:=⟨fun a w he ag _=>h a w he ag⟩
theorem bR.Jl{fl:Bool}{i:Nat}{X:Type}{l2:X→List (Nat×aV)}{C2:X→ao→Prop}{pf:X→Prop}
  (h:∀hV:Act→ao→Prop,(∀x,pf x→∀a w,Env n (l2 x) a→C2 x w→hV a w)→U P ops S hV (.bB fl i .done) n l C)
  (aQ:∀x,pf x→bR P ops S K p n aX (l2 x) (C2 x)):bR P ops S K (.bB fl i p) n aX l C:=by
 refine⟨fun a w he ag aq=>?_⟩;have aa:=(h (fun a w=>∃x,pf x∧Env n (l2 x) a∧C2 x w) (fun x aG a w aa ab=>⟨x,aG,aa,ab⟩)).run _ w he.env ag aq;have key:∀bN ar,S ar→(∃x,pf x∧Env n (l2 x) bN∧C2 x ar)→jH P ops S K p {bN with defers:=aX} ar:=fun bN ar be ⟨x,aG,aa,ab⟩=>(aQ x aG).run _ ar (kb.of aa) ab be;have vF:∀(o:Oper) v,{({a with defers:=[]}:Act).put o.dst v with defers:=aX}=a.put o.dst v:=fun o v=>by
  have:=he.defers;subst this;cases o.dst<;>rfl
 cases fl with
 |true=>
  simp only[je] at aa;simp only[jH];cases av:ops[i]? with
  |none=>rw[av] at aa;exact aa.elim
  |some o=>
   rw[av] at aa;dsimp only at aa⊢;by_cases hw:Region.wanted o (yielded ops a.tmps)=true
   ·rw[aD hw] at aa⊢;obtain⟨v,br,ah⟩:=aa;rw[RR] at br;exact⟨v,br,by rw[←vF];exact key _ _ aq ah⟩
   ·rw[az hw] at aa⊢;rw[←vF];exact key _ _ aq aa
 |false=>
  simp only[je] at aa;simp only[jH,ig];cases av:ops[i]? with
  |none=>rw[av] at aa;exact aa.elim
  |some o=>
   rw[av] at aa;dsimp only at aa⊢;by_cases hw:Region.wanted o (yielded ops a.tmps)=true
   ·rw[aD hw] at aa⊢;exact lq.of_wp aX aa (fun bN ar ⟨be,ah⟩=>⟨by obtain⟨x,_,ab,_⟩:=ah;exact ab.defers,be,key _ _ be ah⟩) he.defers
   ·rw[az hw] at aa⊢;rw[←vF];exact⟨aq,key _ _ aq aa⟩
theorem bR.of{fl:Bool}{i:Nat}{l2:List (Nat×aV)}{C2:ao→Prop}(h:∀hV:Act→ao→Prop,(∀a w,Env n l2 a→C2 w→hV a w)→U P ops S hV (.bB fl i .done) n l C)
  (aQ:bR P ops S K p n aX l2 C2):bR P ops S K (.bB fl i p) n aX l C:=
 bR.Jl (X:=Unit) (l2:=fun _=>l2) (C2:=fun _=>C2) (pf:=fun _=>True) (fun hV eY=>h hV (eY () trivial)) (fun _ _=>aQ)
theorem bR.aip{fl:Bool}{i:Nat}{X Y:Type}{l2:X→Y→List (Nat×aV)}{C2:X→Y→ao→Prop}{pf:X→Y→Prop}
  (h:∀hV:Act→ao→Prop,(∀x y,pf x y→∀a w,Env n (l2 x y) a→C2 x y w→hV a w)→U P ops S hV (.bB fl i .done) n l C)
  (aQ:∀x y,pf x y→bR P ops S K p n aX (l2 x y) (C2 x y)):bR P ops S K (.bB fl i p) n aX l C:=
 bR.Jl (X:=X×Y) (l2:=fun x=>l2 x.1 x.2) (C2:=fun x=>C2 x.1 x.2) (pf:=fun x=>pf x.1 x.2) (fun hV eY=>h hV (fun x y=>eY (x,y))) (fun x=>aQ x.1 x.2)
theorem bR.u{fl:Bool}{i:Nat}{l2:List (Nat×aV)}{C2:ao→Prop}(h:∀{hV:Act→ao→Prop},U P ops S hV .done n l2 C2→U P ops S hV (.bB fl i .done) n l C)(aQ:bR P ops S K p n aX l2 C2):bR P ops S K (.bB fl i p) n aX l C:=
 bR.of (fun _ eY=>h (U.done eY)) aQ
theorem bR.Nf{fl:Bool}{i:Nat}{X:Type}{l2:X→List (Nat×aV)}{C2:X→ao→Prop}(h:∀{hV:Act→ao→Prop},(∀x,U P ops S hV .done n (l2 x) (C2 x))→U P ops S hV (.bB fl i .done) n l C)(aQ:∀x,bR P ops S K p n aX (l2 x) (C2 x)):bR P ops S K (.bB fl i p) n aX l C:=
 bR.Jl (pf:=fun _=>True) (fun _ eY=>h (fun x=>U.done (eY x trivial))) (fun x _=>aQ x)
theorem bR.aof{fl:Bool}{i:Nat}{X:Type}{l2:X→List (Nat×aV)}{C2:X→ao→Prop}{pf:X→Prop}(h:∀{hV:Act→ao→Prop},(∀x,pf x→U P ops S hV .done n (l2 x) (C2 x))→U P ops S hV (.bB fl i .done) n l C)(aQ:∀x,pf x→bR P ops S K p n aX (l2 x) (C2 x)):bR P ops S K (.bB fl i p) n aX l C:=
 bR.Jl (fun _ eY=>h (fun x af=>U.done (eY x af))) aQ
theorem bR.VP{fl:Bool}{i:Nat}{X Y:Type}{l2:X→Y→List (Nat×aV)}{C2:X→Y→ao→Prop}{pf:X→Y→Prop}(h:∀{hV:Act→ao→Prop},(∀x y,pf x y→U P ops S hV .done n (l2 x y) (C2 x y))→U P ops S hV (.bB fl i .done) n l C)
  (aQ:∀x y,pf x y→bR P ops S K p n aX (l2 x y) (C2 x y)):bR P ops S K (.bB fl i p) n aX l C:=
 bR.aip (fun _ eY=>h (fun x y af=>U.done (eY x y af))) aQ
theorem bR.hp{i:Nat}(aa:bR P ops S K (.bB false i p) n aX l C)(ab:bR P ops S K q n aX l C):bR P ops S K (.hp i p q) n aX l C:=
 ⟨fun a w he ag aq=>⟨by have:=aa.run a w he ag aq;unfold jH at this;exact this,ab.run a w he ag aq⟩⟩
theorem bR.fact{F:Prop}(eH:∀w,C w→F)(h:F→bR P ops S K p n aX l C):bR P ops S K p n aX l C:=⟨fun a w he ag aq=>(h (eH w ag)).run a w he ag aq⟩
theorem bR.bool(t:Nat){b:Bool}(bb:j4 t l=some (.bool b))(aa:b=true→bR P ops S K p n aX (ins t (.bool true) l) C)(ab:b=false→bR P ops S K p n aX (ins t (.bool false) l) C):bR P ops S K p n aX l C:=by
 refine⟨fun a w he ag aq=>?_⟩;have key:∀u,j4 t l=some u→kb n aX (ins t u l) a:=fun u hu=>⟨⟨he.env.size,rfl,fun s v br=>by
  rw[NH] at br;by_cases e:s=t
  ·subst e;simp at br;subst br;exact he.env.at_ _ _ hu
  ·rw[az e] at br;exact he.env.at_ _ _ br⟩,he.defers⟩
 cases b with
 |true=>exact(aa rfl).run a w (key _ bb) ag aq
 |false=>exact(ab rfl).run a w (key _ bb) ag aq
theorem bR.yield{i:Nat}{d:eu}{op:Op}{ty:aO}{X:Type}{v:X→aV}{pf:X→Prop}{ec:X→ao→Prop}(av:cG ops n l i=some (d,op,ty))
  (hn:∀a w (o:Oper),Env n l a→C w→o.op=op→o.type=ty→∃kd fn tmps assign body ar,(execOp a.eval o).run P w=.ok (.round kd fn tmps assign body) ar∧
   RoundIn Fence.wide 0 P kd fn tmps assign body ar (fun e lz=>∃x,e=.returned (v x)∧pf x∧ec x lz))
  (be:∀x w,ec x w→S w)
  (h:∀x,pf x→bR P ops S K p n aX (uO d (v x) l) (ec x)):bR P ops S K (.bB false i p) n aX l C:=by
 refine⟨fun a w he ag _=>?_⟩;unfold cG at av;split at av
 ·rename_i o gb;by_cases ad:(nY ops l o.guard&&nA n o.dst)=true
  ·rw[ad] at av;simp only[cp,eb,fs] at av;obtain⟨rfl,rfl,rfl⟩:=av;rw[b7] at ad;obtain⟨kd,fn,tmps,assign,body,ar,aH,cy⟩:=hn _ w o he.env ag rfl rfl;rw[RR] at aH;have hw:Region.wanted o (yielded ops a.tmps)=true:=HB he.env ad.1;simp only[jH,ig,gb,hw,jU,lq,aH,pq];refine RoundIn.mono cy ?_;rintro e lz ⟨x,rfl,aG,dU⟩;refine⟨_,I,be x lz dU,(h x aG).run _ lz ?_ dU (be x lz dU)⟩;have ab:=he.env.nD ad.2 (v x);have an:a.put o.dst (v x)={({a with defers:=[]}:Act).put o.dst (v x) with defers:=aX}:=by have:=he.defers;subst this;cases o.dst<;>rfl
   rw[an];exact kb.of ab
  ·have:(nY ops l o.guard&&nA n o.dst)=false:=by simpa using ad
   rw[this] at av;cases av
 ·cases av
end
def kM(P:a8)(ro:eu)(db:Exit→Act→ao→Prop):List lS→Exit→Act→ao→Prop
 |[]=>db
 |.code y::k=>fun e a w=>match e with
  |.normal=>y.wpIn (kn ro) 0 P (kM P ro db k) a w
  |e=>kM P ro db k e a w
 |.aE id::k=>fun e a w=>match e with
  |.exit CK=>if CK=id then kM P ro db k .normal a w else kM P ro db k (.exit CK) a w
  |e=>kM P ro db k e a w
 |.nh jv::k=>fun e a w=>match e with
  |.normal=>jv a w
  |e=>kM P ro db k e a w
section
variable{P:a8}{ro:eu}{db:Exit→Act→ao→Prop}
theorem Gp:∀(k:List lS) {a:Act} {w:ao},db .ret a w→kM P ro db k .ret a w
 |[],_,_,h=>h
 |.code _::k,_,_,h=>Gp k h
 |.aE _::k,_,_,h=>Gp k h
 |.nh _::k,_,_,h=>Gp k h
theorem F9{id:Nat}:∀{k cb:List lS} {a:Act} {w:ao},py id k=some cb→kM P ro db cb .normal a w→kM P ro db k (.exit id) a w
 |[],_,_,_,h,_=>by simp[py] at h
 |.aE i::k,cb,a,w,h,ah=>by
  unfold py at h;simp only[kM];by_cases e:i=id
  ·subst e;simp at h;subst h;simpa using ah
  ·have aa:Nat.beq i id=false:=iT e;rw[aa] at h;rw[az (n4 e)];exact F9 (k:=k) h ah
 |.code _::k,_,_,_,h,ah=>F9 (k:=k) h ah
 |.nh _::k,_,_,_,h,ah=>F9 (k:=k) h ah
theorem H2{id:Nat}:∀{k:List lS} {a:Act} {w:ao},py id k=none→db (.exit id) a w→kM P ro db k (.exit id) a w
 |[],_,_,_,h=>h
 |.aE i::k,a,w,h,ah=>by
  unfold py at h;simp only[kM];by_cases e:i=id
  ·subst e;simp at h
  ·have aa:Nat.beq i id=false:=iT e;rw[aa] at h;rw[az (n4 e)];exact H2 (k:=k) h ah
 |.code _::k,_,_,h,ah=>H2 (k:=k) h ah
 |.nh _::k,_,_,h,ah=>H2 (k:=k) h ah
end
structure ci(P:a8)(ro:eu)(db:Exit→Act→ao→Prop)(k:List lS)(c:Code)(n:Nat)(aX:List fj)(l:List (Nat×aV))(C:ao→Prop):Prop where
 run:∀a w,kb n aX l a→C w→c.wpIn (kn ro) 0 P (kM P ro db k) a w
structure iA(P:a8)(ro:eu)(db:Exit→Act→ao→Prop)(k:List lS)(n:Nat)(aX:List fj)(l:List (Nat×aV))(C:ao→Prop):Prop where
 run:∀a w,kb n aX l a→C w→kM P ro db k .normal a w
section
variable{P:a8}{ro:eu}{db:Exit→Act→ao→Prop}{k:List lS}{n:Nat}{aX:List fj}{l ea:List (Nat×aV)}{C ec:ao→Prop}{c x y:Code}
theorem ci.seq(h:ci P ro db (.code y::k) x n aX l C):ci P ro db k (.seq x y) n aX l C:=
 ⟨fun a w he ag=>wpIn_seq (wpIn_mono (h.run a w he ag) (fun e a w ah=>by cases e<;>exact ah))⟩
theorem ci.block{id:Nat}(h:ci P ro db (.aE id::k) c n aX l C):ci P ro db k (.block id c) n aX l C:=
 ⟨fun a w he ag=>wpIn_block (wpIn_mono (h.run a w he ag) (fun e a w ah=>by cases e<;>exact ah))⟩
theorem ci.skip(h:iA P ro db k n aX l C):ci P ro db k .skip n aX l C:=⟨fun a w he ag=>wpIn_skip (h.run a w he ag)⟩
theorem ci.label{i:Nat}(h:iA P ro db k n aX l C):ci P ro db k (.label i) n aX l C:=⟨fun a w he ag=>wpIn_label (h.run a w he ag)⟩
theorem ci.ret(h:∀a w,kb n aX l a→C w→db .ret a w):ci P ro db k .ret n aX l C:=⟨fun a w he ag=>wpIn_ret (Gp k (h a w he ag))⟩
theorem ci.exit{id:Nat}{cb:List lS}(aG:py id k=some cb)(h:iA P ro db cb n aX l C):ci P ro db k (.exit id) n aX l C:=
 ⟨fun a w he ag=>wpIn_exit (F9 aG (h.run a w he ag))⟩
theorem ci.out{id:Nat}(aG:py id k=none)(h:∀a w,kb n aX l a→C w→db (.exit id) a w):ci P ro db k (.exit id) n aX l C:=
 ⟨fun a w he ag=>wpIn_exit (H2 aG (h a w he ag))⟩
theorem ci.cond{o:bf}{b:Bool}(av:bk l o=some (.bool b))(aa:b=true→ci P ro db k x n aX l C)(ab:b=false→ci P ro db k y n aX l C):ci P ro db k (.cond o x y) n aX l C:=
 ⟨fun a w he ag=>wpIn_cond_split (he.bk av) (fun e=>(aa e).run a w he ag) (fun e=>(ab e).run a w he ag)⟩
theorem ci.hH{o:bf}(av:bk l o=some (.bool true))(aa:ci P ro db k x n aX l C):ci P ro db k (.cond o x y) n aX l C:=
 ci.cond av (fun _=>aa) (fun e=>by cases e)
theorem ci.dy{o:bf}(av:bk l o=some (.bool false))(aa:ci P ro db k y n aX l C):ci P ro db k (.cond o x y) n aX l C:=
 ci.cond av (fun e=>by cases e) (fun _=>aa)
theorem ci.test{o:bf}{p:Prop}[Decidable p](av:bk l o=some (.bool (decide p)))(aa:p→ci P ro db k x n aX l C)(ab:¬p→ci P ro db k y n aX l C):ci P ro db k (.cond o x y) n aX l C:=
 ci.cond av (fun e=>aa (gF e)) (fun e=>ab (jG e))
theorem ci.fact{F:Prop}(eH:∀w,C w→F)(h:F→ci P ro db k c n aX l C):ci P ro db k c n aX l C:=⟨fun a w he ag=>(h (eH w ag)).run a w he ag⟩
theorem ci.pre(dU:∀w,C w→ec w)(h:ci P ro db k c n aX l ec):ci P ro db k c n aX l C:=⟨fun a w he ag=>h.run a w he (dU w ag)⟩
theorem ci.ex{X:Type}{ec:X→ao→Prop}(dU:∀w,C w→∃x,ec x w)(h:∀x,ci P ro db k c n aX l (ec x)):ci P ro db k c n aX l C:=
 ⟨fun _ w he ag=>let ⟨x,af⟩:=dU w ag;(h x).run _ w he af⟩
theorem iA.code(h:ci P ro db k y n aX l C):iA P ro db (.code y::k) n aX l C:=⟨fun a w he ag=>h.run a w he ag⟩
theorem iA.aE{id:Nat}(h:iA P ro db k n aX l C):iA P ro db (.aE id::k) n aX l C:=⟨fun a w he ag=>h.run a w he ag⟩
theorem iA.fact{F:Prop}(eH:∀w,C w→F)(h:F→iA P ro db k n aX l C):iA P ro db k n aX l C:=⟨fun a w he ag=>(h (eH w ag)).run a w he ag⟩
theorem anI{G:Type}{Q:Exit→Act→ao→Prop}(jv:G→Act→ao→Prop)(hT:G→Nat)
  (round:∀g a w,jv g a w→c.wpIn (kn ro) 0 P (Exit.then (fun bN ar=>∃c9,jv c9 bN ar∧hT c9<hT g) Q) a w) (ki:G) {a:Act} {w:ao} (Oo:jv ki a w):(Code.loop c).wpIn (kn ro) 0 P Q a w:=by
 classical
 have ex:∀a w,(∃g,jv g a w)→∃m,(∃g,jv g a w∧hT g=m)∧∀g,jv g a w→m≤hT g:=by
  intro a w ⟨g,bg⟩;have key:∀(m:Nat) (g:G),hT g=m→jv g a w→∃m,(∃g,jv g a w∧hT g=m)∧∀g,jv g a w→m≤hT g:=by
   intro m;induction m using Nat.strongRecOn with
   |_ m ih=>
    intro g hm dj;by_cases h:∃c9,jv c9 a w∧hT c9<m
    ·obtain⟨c9,aa,ab⟩:=h;exact ih _ ab c9 I aa
    ·exact⟨m,⟨g,dj,hm⟩,fun c9 aii=>nV (fun ca=>h ⟨c9,aii,ca⟩)⟩
  exact key _ g I bg
 let HL:Act→ao→Nat:=fun a w=>if h:∃g,jv g a w then Classical.choose (ex a w h) else 0
 have Tc:∀a w (h:∃g,jv g a w),(∃g,jv g a w∧hT g=HL a w)∧∀g,jv g a w→HL a w≤hT g:=fun a w h=>by
  simp only[HL,dif_pos h];exact Tb (ex a w h)
 refine wpIn_loop (fun a w=>∃g,jv g a w) HL ⟨ki,Oo⟩ (fun a w dj=>?_);obtain⟨⟨g,bg,hm⟩,_⟩:=Tc a w dj;refine wpIn_mono (round g a w bg) (fun e bN ar aM=>?_);cases e<;>first|exact aM|(obtain⟨c9,aa,ab⟩:=aM;exact⟨⟨c9,aa⟩,lU ((Tc bN ar ⟨c9,aa⟩).2 c9 aa) (hm▸ab)⟩)
structure VF{G:Type}(n:Nat)(mB:G→List fj)(hg:G→List (Nat×aV))(hq:G→ao→Prop)(pf:G→Prop)(hT:G→Nat)(m:Nat)(a:Act)(w:ao):Prop where
 back:∃c9,(kb n (mB c9) (hg c9) a∧hq c9 w∧pf c9)∧hT c9<m
theorem ci.loop{G:Type}(mB:G→List fj)(hg:G→List (Nat×aV))(hq:G→ao→Prop)(pf:G→Prop)(hT:G→Nat)(ki:G)(aW:mB ki=aX)(bc:rP (hg ki) l)(dU:∀w,C w→hq ki w)(aG:pf ki)
  (aH:∀g,pf g→ci P ro db (.nh (VF n mB hg hq pf hT (hT g))::k) c n (mB g) (hg g) (hq g)):ci P ro db k (.loop c) n aX l C:=by
 refine⟨fun a w he ag=>?_⟩;refine anI (fun g a w=>kb n (mB g) (hg g) a∧hq g w∧pf g) hT (fun g a w bg=>?_) ki ⟨aW▸he.sub bc.sub,dU w ag,aG⟩;exact wpIn_mono ((aH g bg.2.2).run a w bg.1 bg.2.1) (fun e bN ar ah=>by cases e<;>first|exact ah|exact ah.back)
theorem iA.back{G:Type}{mB:G→List fj}{hg:G→List (Nat×aV)}{hq:G→ao→Prop}{pf:G→Prop}{hT:G→Nat}{m:Nat}(c9:G)(aW:mB c9=aX)(bc:rP (hg c9) l)(dU:∀w,C w→hq c9 w)(aG:pf c9)(hm:hT c9<m):
  iA P ro db (.nh (VF n mB hg hq pf hT m)::k) n aX l C:=⟨fun _ w he ag=>⟨c9,⟨aW▸he.sub bc.sub,dU w ag,aG⟩,hm⟩⟩
structure acj{G:Type}(n:Nat)(aX:List fj)(hg:G→List (Nat×aV))(hq:G→ao→Prop)(pf:G→Prop)(a:Act)(w:ao):Prop where
 join:∃g,kb n aX (hg g) a∧hq g w∧pf g
theorem ci.cut{G:Type}(hg:G→List (Nat×aV))(hq:G→ao→Prop)(pf:G→Prop)(af:ci P ro db (.nh (acj n aX hg hq pf)::k) x n aX l C)(aF:∀g,pf g→ci P ro db k y n aX (hg g) (hq g)):ci P ro db k (.seq x y) n aX l C:=
 ⟨fun a w he ag=>wpIn_seq (wpIn_mono (af.run a w he ag) (fun e a w ah=>by
  cases e<;>first|exact ah|(obtain⟨g,aa,ab,an⟩:=ah.join;exact(aF g an).run a w aa ab)))⟩
theorem iA.join{G:Type}{hg:G→List (Nat×aV)}{hq:G→ao→Prop}{pf:G→Prop}(g:G)(bc:rP (hg g) l)(dU:∀w,C w→hq g w)(aG:pf g):iA P ro db (.nh (acj n aX hg hq pf)::k) n aX l C:=
 ⟨fun _ w he ag=>⟨g,he.sub bc.sub,dU w ag,aG⟩⟩
theorem ci.CO{id:Nat}{ops:Array Oper}(is:ae)(hi:jb is=lZ 0 ops.size)(gd:rI ops=true)(h:bR P ops (fun _=>True) (kM P ro db k .normal) (jb is) n aX l C):ci P ro db k (.region id ops false) n aX l C:=
 ⟨fun a w he ag=>wpIn_mono (Sv gd (by rw[←hi];exact h.run a w he ag trivial)) (fun e a w ah=>by cases e<;>first|exact ah|exact ah.elim)⟩
theorem ci.rg{id:Nat}{ops:Array Oper}(m:Nat)(hi:jb (List.range m)=lZ 0 ops.size)(gd:rI ops=true)(h:bR P ops (fun _=>True) (kM P ro db k .normal) (jb (List.range m)) n aX l C):ci P ro db k (.region id ops false) n aX l C:=ci.CO _ hi gd h
theorem ci.aw{id:Nat}{ops:Array Oper}(m:Nat)(hi:jb (List.range m)=lZ 0 ops.size)(gd:rI ops=true)(h:bR P ops (fun _=>True) (kM P ro db (.code y::k) .normal) (jb (List.range m)) n aX l C):ci P ro db k (.seq (.region id ops false) y) n aX l C:=ci.seq (ci.CO _ hi gd h)
theorem ci.dQ{id:Nat}{ops:Array Oper}(p:eR)(S:ao→Prop)(hm:P.follows .mixedOrders=true)(dx:(rI ops&&(Region.noSelect ops&&iz ops p ops.size (Array.replicate ops.size false) none))=true)
  (aW:∀w,C w→C w.drew) (be:∀w,C w→S w) (h:bR P ops S (kM P ro db k .normal) p n aX l C):ci P ro db k (.region id ops true) n aX l C:=
 ⟨fun a w he ag=>wpIn_mono (at7 p hm dx (be _ (aW w ag)) (h.run a w.drew he (aW w ag) (be _ (aW w ag)))) (fun e a w ah=>by cases e<;>first|exact ah|exact ah.elim)⟩
theorem bR.end_{ops:Array Oper}{S:ao→Prop}(h:iA P ro db k n aX l C):bR P ops S (kM P ro db k .normal) .done n aX l C:=bR.done h.run
theorem bR.next{ops:Array Oper}{S:ao→Prop}(h:ci P ro db k y n aX l C):bR P ops S (kM P ro db (.code y::k) .normal) .done n aX l C:=bR.done h.run
theorem bR.bl{id:Nat}{ops wU:Array Oper}{S:ao→Prop}(m:Nat)(hi:jb (List.range m)=lZ 0 wU.size)(gd:rI wU=true)(h:bR P wU (fun _=>True) (kM P ro db (.code y::k) .normal) (jb (List.range m)) n aX l C):
  bR P ops S (kM P ro db (.code (.seq (.region id wU false) y)::k) .normal) .done n aX l C:=bR.next (ci.aw m hi gd h)
theorem aas{f:dn}{fn:Func}{args:cw}{w:ao}{R:Ending→ao→Prop}(aI:P.funcs[f]?=some fn)(ad:fn.body=some c)(aQ:fn.ntmps=n)(hlen:Nat.ble args.length n=true)(hw:C w)
  (h:ci P none (bodyPostM Fence.wide 0 P fn R) [] c n [] (u6 0 args) C):Calls P f args.toArray w R:=by
 replace hlen:args.length≤n:=ho hlen;refine(callsIn_wide (n:=0)).1 (callsIn_of_wp_marks aI ad trivial ?_);refine wpIn_mono (h.run _ w ⟨⟨by simp[aQ];omega,rfl,fun t v bb=>?_⟩,rfl⟩ hw) (fun e a w ah=>ah);obtain⟨_,ab⟩:=NV args 0 t v bb;simp only[nk] at ab;have ca:t<args.length:=by
  rcases II t args.length with h|h
  ·exact h
  ·rw[iq h] at ab;cases ab
 rw[eF ca,eb] at ab;simp[RO,ca,ab]
end
def gQ(g:Nat)(o:Obj):bi where
 ok w D:=(∀k,D k↔k=g)∧w.heap[g]?=some o
 loc:=fun⟨aa,ab⟩ ad=>⟨aa,(ad _ ((aa _).2 rfl)).trans ab⟩
def qm{G:Type}(f:G→bi):bi where
 ok w D:=∃g,(f g).ok w D
 loc:=fun⟨g,h⟩ ad=>⟨g,(f g).loc h ad⟩
def zm:List bi→ao→(Nat→Prop)→Prop
 |[],_,D=>∀k,¬D k
 |A::L,w,D=>∃iI iU:Nat→Prop,A.ok w iI∧zm L w iU∧(∀k,D k↔iI k∨iU k)∧∀k,iI k→¬iU k
theorem Tz:∀(L:List bi) {w ar:ao} {D:Nat→Prop},zm L w D→(∀k,D k→ar.heap[k]?=w.heap[k]?)→zm L ar D
 |[],_,_,_,h,_=>h
 |A::L,_,_,_,⟨iI,iU,aa,ab,an,aK⟩,ad=>⟨iI,iU,A.loc aa (fun k ah=>ad k ((an k).2 (.inl ah))),Tz L ab (fun k ah=>ad k ((an k).2 (.inr ah))),an,aK⟩
def c1(L:List bi):bi where
 ok w D:=zm L w D
 loc:=fun h ad=>Tz L h ad
section
variable{F:Nat→Prop}{w₀ w:ao}{L dv X Y Z:List bi}
theorem Sep.star:∀(X:List bi) {F:Nat→Prop},Sep F (X++L) w↔Sep F (c1 X::L) w
 |[],F=>⟨fun h=>⟨fun _=>False,fun _=>id,fun _ ah=>ah.elim,h.nU (fun k ah=>ah.resolve_right id)⟩,fun⟨D,aa,_,an⟩=>Sep.nU an (fun _=>.inl)⟩
 |A::X,F=>by
  constructor
  ·rintro⟨iI,aa,ab,an⟩;obtain⟨iU,k1,k2,bx⟩:=(Sep.star X).1 an;refine⟨fun k=>iI k∨iU k,⟨iI,iU,aa,k1,fun _=>qT,fun k ah uh=>(k2 k uh).1 (.inr ah)⟩,?_,bx.nU ?_⟩
   ·rintro k (ah|ah)
    ·exact ab k ah
    ·exact⟨fun aI=>(k2 k ah).1 (.inl aI),(k2 k ah).2⟩
   ·rintro k (ah|ah|ah)
    ·exact .inl (.inl ah)
    ·exact .inl (.inr ah)
    ·exact .inr ah
  ·rintro⟨D,⟨iI,iU,aa,ab,an,aK⟩,k2,bx⟩;refine⟨iI,aa,fun k ah=>k2 k ((an k).2 (.inl ah)),(Sep.star X).2 ⟨iU,ab,fun k ah=>⟨?_,(k2 k ((an k).2 (.inr ah))).2⟩,bx.nU ?_⟩⟩
   ·rintro(aI|aI)
    ·exact(k2 k ((an k).2 (.inr ah))).1 aI
    ·exact aK k aI ah
   ·rintro k ((ah|ah)|ah)
    ·exact .inl ah
    ·exact .inr ((an k).2 (.inl ah))
    ·exact .inr ((an k).2 (.inr ah))
theorem Sep.congr{A:bi}(h:∀F:Nat→Prop,Sep F L w↔Sep F dv w):Sep F (A::L) w↔Sep F (A::dv) w:=
 ⟨fun⟨D,aa,ab,an⟩=>⟨D,aa,ab,(h _).1 an⟩,fun⟨D,aa,ab,an⟩=>⟨D,aa,ab,(h _).2 an⟩⟩
theorem Sep.perm(h:L.Perm dv):∀{F:Nat→Prop},Sep F L w→Sep F dv w:=by
 induction h with
 |nil=>exact id
 |cons A _ ih=>exact fun⟨D,aa,ab,an⟩=>⟨D,aa,ab,ih an⟩
 |swap A B _=>exact fun h=>h.swap
 |trans _ _ QI OU=>exact fun h=>OU (QI h)
theorem au.E5(h:au F w₀ L w)(ab:Sep F L w→Sep F dv w):au F w₀ dv w:=⟨h.b6,h.lt,ab h.sep⟩
theorem au.perm(aG:L.Perm dv)(h:au F w₀ L w):au F w₀ dv w:=h.E5 (Sep.perm aG)
theorem au.star(X:List bi):au F w₀ (X++L) w↔au F w₀ (c1 X::L) w:=⟨fun h=>h.E5 (Sep.star X).1,fun h=>h.E5 (Sep.star X).2⟩
theorem au.Av:au F w₀ (X++Y) w↔au F w₀ (X++[c1 Y]) w:=by
 have key:∀(X:List bi) (F:Nat→Prop),Sep F (X++Y) w↔Sep F (X++[c1 Y]) w:=by
  intro X;induction X with
  |nil=>intro F;have:=Sep.star (L:=[]) (w:=w) Y (F:=F);rwa [nK] at this
  |cons A X ih=>intro F;exact Sep.congr ih
 exact⟨fun h=>h.E5 (key X F).1,fun h=>h.E5 (key X F).2⟩
theorem au.qm{G:Type}{f:G→bi}:au F w₀ (qm f::L) w↔∃g,au F w₀ (f g::L) w:=
 ⟨fun h=>let ⟨D,⟨g,aa⟩,ab,an⟩:=h.sep;⟨g,h.b6,h.lt,D,aa,ab,an⟩,fun⟨g,h⟩=>let ⟨D,aa,ab,an⟩:=h.sep;⟨h.b6,h.lt,D,⟨g,aa⟩,ab,an⟩⟩
theorem au.EC(o:Obj)(h:au F w₀ L w):au F w₀ (gQ w.heap.size o::L) (w.alloc o):=
 h.join (dv:=[gQ w.heap.size o]) ⟨⟨rfl,rfl,rfl,by simp,fun k ah=>Uj w _ k ah⟩,fun _ ah=>ah,
  ⟨fun k=>k=w.heap.size,⟨fun k=>qT,World.alloc_heap_new w o⟩,fun k ah=>⟨by simp[oj];omega,by simp;omega⟩,trivial⟩⟩
theorem au.uG{g:Nat}{o:Obj}(h:au F w₀ (gQ g o::L) w):w.heap[g]?=some o:=let ⟨_,⟨_,ab⟩,_⟩:=h.sep;ab
theorem au.nD{g:Nat}{o:Obj}(kO:Obj)(h:au F w₀ (gQ g o::L) w):au F w₀ (gQ g kO::L) (w.putObj g kO):=by
 obtain⟨D,⟨aa,ab⟩,an,aK⟩:=h.rO (i:=0) rfl;have ca:=(vP.1 ab).1;have:=aK (w.putObj g kO) (gQ g kO) D ⟨rfl,rfl,rfl,by simp,fun k ah=>World.putObj_heap_other (fun e=>ah.2 ((aa k).2 e))⟩ ⟨aa,World.putObj_heap_same ca⟩ (fun k ah=>⟨.inl ah,by simp;exact an k ah⟩);exact this
end
def PS(P:a8)(w₀:ao)(kd:Nat)(mF:Nat→cw)(N:Nat)(lv qE:Nat→bi):Prop:=
 ∀i,i<N→∀A w,bF w₀ (lv i::A) w→∃fn tmps assign body,(Instr.yield kd (mF i).toArray).run P w=.ok (.round kd fn tmps assign body) w∧
  RoundIn Fence.wide 0 P kd fn tmps assign body w (fun e ar=>∃b:Bool,e=.returned (.bool b)∧bF w₀ ((if b then lv (i+1) else qE (i+1))::A) ar)
def Ko(P:a8)(w₀:ao)(ew:dn)(wC:cw)(B:List bi)(mF:Nat→cw)(N:Nat):Prop:=
 ∀(kd:Nat) (lv qE:Nat→bi) (R:bi) (w:ao),PS P w₀ kd mF N lv qE→bF w₀ (lv 0::(B++[R])) w→
  Calls P ew (.func (.yield kd) #[] #[]::wC).toArray w (fun e ar=>∃v,e=.returned v∧(bF w₀ (lv N::(B++[R])) ar∨∃i,i<N∧bF w₀ (qE (i+1)::(B++[R])) ar))
section
variable{P:a8}{ops:Array Oper}{S:ao→Prop}{K:Act→ao→Prop}{p:eR}{n:Nat}{aX:List fj}{l:List (Nat×aV)}{i:Nat}{ty:aO}{x:bf}{w₀:ao}{A:List bi}
theorem afK{d:Nat}(q:Nat){dz:Array bf}{eD:Array aO}{kd:Nat}{mF:Nat→cw}{N tK:Nat}{lv qE:Nat→bi}(nI:PS P w₀ kd mF N lv qE)(hi:tK<N)(xe:A[q]?=some (lv tK))
  (av:cG ops n l i=some (some d,.call ⟨.value x,dz,eD⟩,ty)) (af:bk l x=some (.func (.yield kd) #[] #[])) (has:iY l dz.toList=some (mF tK)) (be:∀B w,bF w₀ (B::A.eraseIdx q) w→S w)
  (aa:bR P ops S K p n aX ((d,.bool true)::l) (bF w₀ (lv (tK+1)::A.eraseIdx q))) (ab:bR P ops S K p n aX ((d,.bool false)::l) (bF w₀ (qE (tK+1)::A.eraseIdx q))):
  bR P ops S K (.bB false i p) n aX l (bF w₀ A):=by
 refine bR.yield (v:=fun b:Bool=>.bool b) (pf:=fun _=>True) (ec:=fun b=>bF w₀ ((if b then lv (tK+1) else qE (tK+1))::A.eraseIdx q)) av (fun a w o he ag an _=>?_) (fun b w hw=>be _ w hw) (fun b _=>?_)
 ·have qg:bF w₀ (lv tK::A.eraseIdx q) w:=⟨ag.b6,ag.lt,ag.sep.front xe⟩;obtain⟨fn,tmps,assign,body,aH,cy⟩:=nI tK hi _ w qg;refine⟨kd,fn,tmps,assign,body,w,?_,RoundIn.mono cy (fun e ar ⟨b,he,aq⟩=>⟨b,he,trivial,aq⟩)⟩;have bu:dz.map a.eval=(mF tK).toArray:=by apply mh;rw[oV];exact he.iY has
  simp only[execOp,an,resolve,bu,he.bk af,Deferred.ofValue,Sem.run_bind,Sem.run_pure,Result.andThen_ok,invoke,Array.empty_append];exact aH
 ·cases b with
  |true=>exact aa
  |false=>exact ab
end
def Ce(l ps:List (Nat×aV)):List (Nat×aV):=ps.foldl (fun l j1=>ins j1.1 j1.2 l) l
theorem Env.Ce{n:Nat}:∀(ps:List (Nat×aV)) {l:List (Nat×aV)} {a:Act},Env n l a→(∀j1∈ps,j1.1<n)→Env n (Ce l ps) {a with tmps:=ps.foldl (fun t (j1:Nat×aV)=>t.setIfInBounds j1.1 j1.2) a.tmps}
 |[],_,_,h,_=>h
 |j1::ps,l,a,h,aG=>by
  have:=Env.Ce ps (h.put (aG j1 (by simp)) j1.2) (fun q aM=>aG q (by simp[aM]));exact this
abbrev yC(D:Nat):fj:={target:=.collected D,args:= #[]}
abbrev qe(D:Nat):bi:=gQ D (.deferred (some []))
def afj{G GX:Type}(w₀:ao)(T:bi)(rT:Nat→G→List bi)(wk:Nat→G→Prop)(Cj:Nat→GX→List bi)(A8:Nat→GX→Prop)(zc:GX→Code)(i:Nat):Exit→Act→ao→Prop
 |.normal,_,w=>∃g,wk i g∧bF w₀ (rT i g++[T]) w
 |.ret,_,w=>∃g,A8 i g∧zc g=.ret∧bF w₀ (Cj i g++[T]) w
 |.exit id,_,w=>∃g,A8 i g∧zc g=.exit id∧bF w₀ (Cj i g++[T]) w
 |_,_,_=>False
section
variable{P:a8}{db:Exit→Act→ao→Prop}{k:List lS}{n:Nat}{aX:List fj}{l:List (Nat×aV)}{w₀:ao}{A:List bi}
theorem ci.rangeFunc{G GX:Type}(rT:Nat→G→List bi)(wk:Nat→G→Prop)(Cj:Nat→GX→List bi)(A8:Nat→GX→Prop)(zc:GX→Code)(ki:G)(xz Fk:List bi)(Ul:Nat→List (Nat×aV))
  {g:bf} {ps:Array Tmp} {assign body:Code} {ew:dn} {wC:cw} {mF:Nat→cw} {N:Nat}
  (bg:bk l g=some (.func (.func ew) #[] wC.toArray)) [asG:aU P ew] (Ad:Ko P w₀ ew wC xz mF N)
  (is:ae) (at0:wX A is=some (rT 0 ki++(xz++Fk))) (iu:wk 0 ki) (iN:∀i,(mF i).length=ps.size) (abb:∀q∈ps.toList,q<n)
  (al2:∀(kd i:Nat) (C:ao→Prop),i<N→ci P (some kd) (fun _ _ _=>False) [.nh (fun a w=>kb n [] (Ul i) a∧C w)] assign n [] (Ce l (ps.toList.zip (mF i))) C)
  (apX:∀(kd:Nat) (T:bi) (i:Nat) (g:G),i<N→wk i g→ci P (some kd) (afj w₀ T rT wk Cj A8 zc (i+1)) [] body n [] (Ul i) (bF w₀ (rT i g++[T])))
  (ahi:∀(D:Nat) (g:G),wk N g→iA P none db k n (yC D::aX) l (bF w₀ (qe D::(rT N g++(xz++Fk)))))
  (O0:∀(D i:Nat) (g:GX),i<N→A8 (i+1) g→ci P none db k (zc g) n (yC D::aX) l (bF w₀ (qe D::(Cj (i+1) g++(xz++Fk))))):
  ci P none db k (.rangeFunc g ps assign body) n aX l (bF w₀ A):=by
 refine⟨fun a w he ag=>wpIn_rangeFunc (F:=kn none) (fun fn _=>?_)⟩;obtain⟨rec,nx⟩:∃rec:LoopState→Option Code→Loop,rec=fun bB iE=>{state:=bB,pending:=iE,fn,tmps:=a.tmps,params:=ps,assign,body,defers:=w.heap.size}:=⟨_,rfl⟩;obtain⟨m0,abn⟩:∃m0,(w.alloc (.deferred (some []))).alloc (.loop (rec .ready none))=m0:=⟨_,rfl⟩;have dq:bF w₀ (gQ (w.heap.size+1) (.loop (rec .ready none))::qe w.heap.size::(rT 0 ki++(xz++Fk))) m0:=by
  have ab:=((ag.pick is at0).EC (.deferred (some []))).EC (.loop (rec .ready none));rw[abn,World.size_alloc] at ab;exact ab
 let lv:Nat→bi:=fun i=>qm (fun g:{g:G// wk i g}=>c1 (gQ (w.heap.size+1) (.loop (rec .ready none))::qe w.heap.size::rT i g.1))
 let qE:Nat→bi:=fun i=>qm (fun g:{g:GX// A8 i g}=>c1 (gQ (w.heap.size+1) (.loop (rec .done (some (zc g.1))))::qe w.heap.size::Cj i g.1))
 have nI:PS P w₀ (w.heap.size+1) mF N lv qE:=by
  intro i hi c8 ar xe;obtain⟨⟨g,D9⟩,xe⟩:=au.qm.1 xe;have xe:=(au.star _).2 xe;have bc:=au.uG xe;have aF:=run_yield (P:=P) (args:=(mF i).toArray) bc (by rw[nx];simpa using iN i);rw[nx] at aF;refine⟨fn,_,assign,body,aF,roundIn_of_wpIn (F:=Fence.wide) trivial ?_⟩;have aL:(ps.zip (mF i).toArray).foldl (fun tmps (x:Tmp×aV)=>tmps.setIfInBounds x.1 x.2) a.tmps=(ps.toList.zip (mF i)).foldl (fun t (j1:Nat×aV)=>t.setIfInBounds j1.1 j1.2) a.tmps:=by
   rw[←P0,Array.toList_zip]
  have Ob:kb n [] (Ce l (ps.toList.zip (mF i))) {tmps:=(ps.zip (mF i).toArray).foldl (fun tmps (x:Tmp×aV)=>tmps.setIfInBounds x.1 x.2) a.tmps,defers:=[]}:=by
   refine⟨?_,I⟩;have:=Env.Ce (ps.toList.zip (mF i)) he.env (fun j1 amM=>abb _ (List.of_mem_zip amM).1);rw[aL];exact this
  refine wpIn_mono ((al2 (w.heap.size+1) i _ hi).run _ ar Ob xe) ?_;intro e e1 aZ ah;cases e with
  |normal=>
   obtain⟨HG,cR⟩:=ah;have m3:=au.uG cR;refine⟨_,run_beginRound m3 (by rw[nx]),?_⟩;have tx:=au.nD (.loop {rec .ready none with state:=.busy}) cR
   let T:bi:=c1 (gQ (w.heap.size+1) (.loop {rec .ready none with state:=.busy})::qe w.heap.size::c8)
   have cE:∀(X:List bi) (v:ao),bF w₀ (X++[T]) v↔bF w₀ (gQ (w.heap.size+1) (.loop {rec .ready none with state:=.busy})::(qe w.heap.size::X++c8)) v:=by
    intro X v;refine⟨fun h=>au.perm ?_ (au.Av.2 h),fun h=>au.Av.1 (au.perm ?_ h)⟩
    ·refine List.perm_middle.trans (List.Perm.cons _ ?_);exact C3
    ·refine(List.Perm.trans (List.Perm.cons _ ?_) List.perm_middle.symm);exact List.perm_middle.symm
   have ad:=(apX (w.heap.size+1) T i g hi D9).run e1 _ HG ((cE _ _).2 tx);refine wpIn_mono ad (fun e a3 jJ ah=>?_);have fin:∀(jump:Option Code) (X:List bi),bF w₀ (X++[T]) jJ→∃v ar,(Instr.endRound (w.heap.size+1) jump).run P jJ=.ok v ar∧v=.bool jump.isNone∧
     bF w₀ (c1 (gQ (w.heap.size+1) (.loop (rec (if jump.isNone then .ready else .done) jump))::qe w.heap.size::X)::c8) ar:=by
    intro jump X an;have aK:=(cE _ _).1 an;have bo:=run_endRound (P:=P) jump (au.uG aK);refine⟨_,_,bo,I,(au.star _).1 ?_⟩;have cd:=au.nD (.loop {rec .ready none with state:=if jump.isNone then .ready else .done,pending:=jump}) aK;rw[nx] at cd⊢;exact cd
   cases e with
   |normal=>
    obtain⟨c9,EB,ud⟩:=ah;obtain⟨v,ar,bo,rfl,cd⟩:=fin none _ ud;exact⟨_,ar,bo,true,I,au.qm.2 ⟨⟨c9,EB⟩,cd⟩⟩
   |ret=>
    obtain⟨c9,EB,ax,ud⟩:=ah;obtain⟨v,ar,bo,rfl,cd⟩:=fin (some .ret) _ ud;exact⟨_,ar,bo,false,I,au.qm.2 ⟨⟨c9,EB⟩,by rw[ax];exact cd⟩⟩
   |exit id=>
    obtain⟨c9,EB,ax,ud⟩:=ah;obtain⟨v,ar,bo,rfl,cd⟩:=fin (some (.exit id)) _ ud;exact⟨_,ar,bo,false,I,au.qm.2 ⟨⟨c9,EB⟩,by rw[ax];exact cd⟩⟩
   |goto t=>exact ah.elim
   |panic c=>exact ah.elim
   |outgrown=>exact ah.elim
  |exit id=>exact ah.elim
  |goto t=>exact ah.elim
  |ret=>exact ah.elim
  |panic c=>exact ah.elim
  |outgrown=>exact ah.elim
 refine⟨w.heap.size+1,[yC w.heap.size],m0,{target:=.fn (.func ew) wC.toArray,args:= #[.func (.yield (w.heap.size+1)) #[] #[]]},m0,ew,(.func (.yield (w.heap.size+1)) #[] #[]::wC).toArray,m0,?_,?_,fun _ _=>trivial,?_,fun h=>by simp[Fence.wide] at h,?_⟩
 ·rw[←abn,nx];exact run_enterLoop_outer _ _ _ _ _
 ·simp only[resolve,he.bk bg];simp[Deferred.ofValue,go_sem]
 ·simp only[invoke];have: #[Value.func (.yield (w.heap.size+1)) #[] #[]]++wC.toArray=(.func (.yield (w.heap.size+1)) #[] #[]::wC).toArray:=by simp
  rw[this];exact asG.run _ _
 ·refine CallsIn.mono (F:=kn none) ((callsIn_wide (n:=0)).2 (Ad (w.heap.size+1) lv qE (c1 Fk) m0 nI ?_)) ?_
  ·refine(au.qm (f:=fun g:{g:G// wk 0 g}=>c1 (gQ (w.heap.size+1) (.loop (rec .ready none))::qe w.heap.size::rT 0 g.1))).2 ⟨⟨ki,iu⟩,?_⟩;exact(au.Av (X:=c1 (gQ (w.heap.size+1) (.loop (rec .ready none))::qe w.heap.size::rT 0 ki)::xz)).1 ((au.star (gQ (w.heap.size+1) (.loop (rec .ready none))::qe w.heap.size::rT 0 ki)).1 dq)
  ·have HG:kb n (yC w.heap.size::aX) l {a with defers:=[yC w.heap.size]++a.defers}:=⟨he.env,by rw[he.defers];rfl⟩;rintro e ar ⟨v,rfl,h|⟨i,hi,h⟩⟩
   ·obtain⟨⟨g,D9⟩,h⟩:=au.qm.1 h;have h:=(au.star _).2 ((au.Av (X:=c1 _::xz)).2 h);have bc:=au.uG h;refine⟨_,_,run_endLoop bc (by rw[nx];simp),?_⟩;have ab:=(au.nD (.loop {rec .ready none with state:=.exhausted}) h).tail;rw[nx] at ab⊢;exact(ahi _ g D9).run _ _ HG ab
   ·obtain⟨⟨g,D9⟩,h⟩:=au.qm.1 h;have h:=(au.star _).2 ((au.Av (X:=c1 _::xz)).2 h);have bc:=au.uG h;refine⟨_,_,run_endLoop bc (by rw[nx];simp),?_⟩;have ab:=(au.nD (.loop {rec .done (some (zc g)) with state:=.exhausted}) h).tail;rw[nx] at ab⊢;exact(O0 _ i g hi D9).run _ _ HG ab
theorem RX{fn:Func}{tmps:cJ}{R:Ending→ao→Prop}{L:List bi}(qU:∀w,bF w₀ L w→∃v,(results fn tmps).run P w=.ok v w∧R (.returned v) w):
  ∀(eJ:ae) (w:ao),bF w₀ (eJ.map qe++L) w→LeavesInM Fence.wide 0 P fn tmps R (eJ.map yC) .returning w
 |[],w,h=>qU w h
 |D::eJ,w,h=>⟨by simp,.inl ⟨D,_,rfl,run_takeDeferred (au.uG h),RX qU eJ _ (au.nD (.deferred none) h).tail⟩⟩
theorem Le{fn:Func}{R:Ending→ao→Prop}{C:ao→Prop}{rs:List ResultVar}{vs:cw}{L:List bi}(eJ:ae)(Fx:aX=eJ.map yC)(aH:fn.results=rs.toArray)(br:zs l rs=some vs)
  (dU:∀w,C w→bF w₀ (eJ.map qe++L) w) (h:∀w,bF w₀ L w→R (.returned (oneOf vs)) w):∀a w,kb n aX l a→C w→bodyPostM Fence.wide 0 P fn R .ret a w:=by
 intro a w he ag;show LeavesInM Fence.wide 0 P fn a.tmps R a.defers .returning w;rw[he.defers,Fx];refine RX (L:=L) (fun ar sr=>?_) eJ w (dU w ag);obtain⟨_,v,aa,ab⟩:=(al.ret (C:=fun v=>bF w₀ L v) aH br h:al P (xP fn R P) [] n l (fun v=>bF w₀ L v)).run _ ar he.env sr;exact⟨v,aa,ab⟩
end
section
variable{P:a8}{ops:Array Oper}{S:ao→Prop}{K:Act→ao→Prop}{p:eR}{n:Nat}{l:List (Nat×aV)}{i:Nat}{ty:aO}{x y:bf}{F:Nat→Prop}{w₀:ao}{L:List bi}
theorem au.adp{q g:Nat}{T:aO}{cs:cJ}(hi:L[q]?=some (aE g T cs))(cs2:cJ){w:ao}(h:au F w₀ L w):au F w₀ (L.set q (aE g T cs2)) (w.setRow g cs2):=by
 obtain⟨D,⟨aa,ab⟩,an,aK⟩:=h.rO hi;refine aK _ _ D ⟨I,I,I,by simp[World.setRow],fun k ah=>setRow_other w g k cs2 (fun e=>ah.2 ((aa k).2 e))⟩ ⟨aa,setRow_heap w g _ _ T _ ab⟩ (fun k ah=>⟨.inl ah,by simp[World.setRow];exact an k ah⟩)
theorem Fm{d:eu}(q:Nat){g off E by_ gq RD jL qp m2 c2:Nat}{zv RV:aV}{D B:aN}{cur:cJ}{ys:cw}{T mq:aO}(hi:L[q]?=some (aE g E cur))
  (av:cG ops n l i=some (d,.call ⟨.builtin .copy, #[x,y], #[T,mq]⟩,ty)) [cE:dN P T E 1 by_ zv] [_hT2:dN P mq gq 1 RD RV] (af:bk l x=some (.slice D jL qp)) (aF:bk l y=some (.slice B m2 c2))
  (eg:jL≠0→D=some ⟨g,off,none⟩) (br:∀w,au F w₀ L w→Has (aP 1 B m2 ys) w) (aa:ys.all (·.oneCell')=true) (r5:off+jL≤cur.size)
  (be:∀w,au F w₀ (L.set q (aE g E (cur.toList.take off++ys.take (min m2 jL)++cur.toList.drop (off+min m2 jL)).toArray)) w→S w)
  (h:U P ops S K p n (uO d (.int .i64 (min m2 jL:Nat)) l) (au F w₀ (L.set q (aE g E (cur.toList.take off++ys.take (min m2 jL)++cur.toList.drop (off+min m2 jL)).toArray)))):U P ops S K (.bB false i p) n l (au F w₀ L):=by
 obtain⟨inf,oK,aq,nB,kW⟩:=cE.rq;refine U.act (d:=d) (X:=Unit) (v:=fun _=>.int .i64 (min m2 jL:Nat)) (ec:=fun _=>au F w₀ (L.set q (aE g E (cur.toList.take off++ys.take (min m2 jL)++cur.toList.drop (off+min m2 jL)).toArray))) av (fun a w o he hw x2 tn=>?_) (fun _ w hw=>be w hw) (fun _=>h);have hex:∀(v:aV) (ar:ao),(Builtin.copy_ #[T,mq] ty #[.slice D jL qp,.slice B m2 c2]).run P w=.ok v ar→(execOp a.eval o).run P w=.ok (.value v) ar:=fun v ar aH=>by
  simp only[execOp,x2,tn,resolve,Sem.run_bind,Sem.run_pure,Result.andThen_ok,invoke,builtin,oH,hW,lm,he.bk af,he.bk aF,aH]
 have fU:(P.info? E).map (·.size)=some 1:=by rw[oK,gv,aq]
 have hf:=br w hw;have rW:=hf.hE;rw[dJ] at rW;obtain⟨avG,⟨lV,sO⟩,_,_⟩:=hw.rO hi;by_cases aQ:min m2 jL=0
 ·have aH:=run_copy_none (P:=P) w T mq ty E D B jL qp m2 c2 cE.under fU aQ;refine⟨(),w,.inl (hex _ _ (by rw[aH,aQ];rfl)),?_⟩;rw[aQ,Ny,nK,wW,FT,QG];have e:L.set q (aE g E cur)=L:=by
   apply jB;intro t;rw[rG];split
   ·rename_i e;subst e;rw[aD (j6.1 hi).1,hi]
   ·rfl
  rw[e];exact hw
 ·have Gn:jL≠0:=fun e=>aQ (by rw[e];exact Nat.min_zero _);have EA:m2≠0:=fun e=>aQ (by rw[e];exact Nat.zero_min _);obtain rfl:=eg Gn;have bV:=hf.yV EA;have k8:(ys.take (min m2 jL)).length=Nat.min m2 jL:=by rw[fW,rW];exact kx (Nat.min_le_left _ _)
  have aiI:∀j v,(ys.take (min m2 jL))[j]?=some v→w.cell? ((⟨ob B,ju B,none⟩:Addr).add j)=some v:=fun j v ax=>by
   rw[mj] at ax;split at ax
   ·have:=(hf.xT EA ax).2;rw[lB];exact this
   ·cases ax
  have aH:=run_copy_row (P:=P) w T mq ty E g off jL qp ⟨ob B,ju B,none⟩ m2 c2 cur E (ys.take (min m2 jL)) cE.under fU sO k8 aiI (by rw[k8];have:=Nat.min_le_right m2 jL;show off+min m2 jL≤_;omega) (fun v br=>lf.1 aa v (n9 br));rw[←bV] at aH;rw[show(ys.take (min m2 jL)).length=min m2 jL from k8] at aH;exact⟨(),_,.inl (hex _ _ aH),hw.adp hi _⟩
theorem Has.ex{G:Type}{f:G→bi}{w:ao}(h:Has (qm f) w):∃x,Has (f x) w:=by
 obtain⟨D,⟨x,aa⟩,ab⟩:=h;exact⟨x,D,aa,ab⟩
end
def hs(r:Nat)(w:ao):Nat→Prop:=fun k=>k<w.heap.size∧k≠r
def hP(r:Nat)(A:bi)(w:ao):Prop:=∃D:Nat→Prop,A.ok w D∧∀k,D k→k<w.heap.size∧k≠r
section
variable{F:Nat→Prop}{w₀ w ar:ao}{L:List bi}{A:bi}{r:Nat}{T:aO}{cs:cJ}
theorem hP.has(h:hP r A w):Has A w:=let ⟨D,aa,ab⟩:=h;⟨D,aa,fun k ah=>(ab k ah).1⟩
theorem au.mi(h:au (hs r w) w L ar)(aj:hP r A w):hP r A ar:=
 let ⟨D,aa,ab⟩:=aj
 ⟨D,A.loc aa (fun k ah=>h.b6.block k (ab k ah)),fun k ah=>⟨h6 (ab k ah).1 h.b6.size,(ab k ah).2⟩⟩
theorem au.NT(h:w.heap[r]?=some (.cells cs T (0,0))):au (hs r w) w [aE r T cs] w:=
 ⟨Fr.refl _ _,fun _ ah=>ah.1,fun k=>k=r,⟨fun _=>qT,h⟩,fun k ah=>⟨fun aI=>aI.2 ah,by
  subst ah;exact(vP.1 h).1⟩,trivial⟩
theorem hP.fI{c:Nat}{mq:aO}{cs2:cJ}(h:hP r (aE c mq cs2) w){j:Nat}{v:aV}(ax:cs2[j]?=some v):w.cell? ⟨c,j,none⟩=some v:=by
 obtain⟨D,⟨_,ab⟩,_⟩:=h;rw[qC ab,ax]
theorem Has.fI{c:Nat}{mq:aO}{cs2:cJ}(h:Has (aE c mq cs2) w){j:Nat}{v:aV}(ax:cs2[j]?=some v):w.cell? ⟨c,j,none⟩=some v:=by
 obtain⟨D,⟨_,ab⟩,_⟩:=h;rw[qC ab,ax]
theorem au.UG{i j:Nat}(hi:L[i]?=some (aE r T cs))(ax:(L.eraseIdx i)[j]?=some A)(h:au F w₀ L w):hP r A w:=by
 obtain⟨D,⟨k1,_⟩,_,bx⟩:=h.sep.front hi;obtain⟨iU,n5,m2,_⟩:=Sep.at_ bx ax;exact⟨iU,n5,fun k ah=>⟨(m2 k ah).2,fun e=>(m2 k ah).1 (.inr ((k1 k).2 e))⟩⟩
theorem au.Qj{i:Nat}(hi:L[i]?=some (aE r T cs))(h:bF w₀ L w)(aj:Has A w₀):hP r A w:=by
 obtain⟨D,⟨k1,_⟩,k2,_⟩:=h.sep.at_ hi;obtain⟨iU,n5,m2⟩:=aj;exact⟨iU,A.loc n5 (fun k ah=>h.b6.block k (m2 k ah)),fun k ah=>⟨h6 (m2 k ah) h.b6.size,fun e=>(k2 k ((k1 k).2 e)).1 (m2 k ah)⟩⟩
theorem au.qx{i:Nat}(hi:L[i]?=some (aE r T cs))(h:au F w₀ L w):w.heap[r]?=some (.cells cs T (0,0)):=by
 obtain⟨D,⟨_,ab⟩,_⟩:=h.has hi;exact ab
end
def tP(P:a8)(g:dn)(args:cw)(w:ao)(r:Nat)(T:aO)(cs:cJ)(v:aV):Prop:=
 Calls P g args.toArray w (fun e ar=>e=.returned v∧au (hs r w) w [aE r T cs] ar)
section
variable{P:a8}{n:Nat}{c:Code}
theorem wP{f:dn}{fn:Func}{args:cw}{w:ao}{r:Nat}{T:aO}{cs cs2:cJ}{v:aV}(aI:P.funcs[f]?=some fn)(ad:fn.body=some c)(aQ:fn.ntmps=n)(hlen:Nat.ble args.length n=true)(hw:w.heap[r]?=some (.cells cs T (0,0)))
  (h:J P (xP fn (fun e ar=>e=.returned v∧au (hs r w) w [aE r T cs2] ar) P) [] c n (u6 0 args) (au (hs r w) w [aE r T cs])):tP P f args w r T cs2 v:=
 Kp aI ad aQ hlen ⟨fun a v he br=>h.run a v he (by subst br;exact au.NT hw)⟩
end
section
variable{P:a8}{ops:Array Oper}{S:ao→Prop}{K:Act→ao→Prop}{p:eR}{n:Nat}{l:List (Nat×aV)}{i:Nat}{ty:aO}{x:bf}{F:Nat→Prop}{w₀:ao}{A:List bi}
theorem au.wrote{q r:Nat}{T:aO}{cs cs2:cJ}{w ar:ao}(hi:A[q]?=some (aE r T cs))(hw:au F w₀ A w)(h:au (hs r w) w [aE r T cs2] ar):au F w₀ (A.set q (aE r T cs2)) ar:=by
 obtain⟨D,⟨aa,ab⟩,an,aK⟩:=hw.rO hi;have dx:=h.qx (i:=0) rfl;refine aK ar (aE r T cs2) D (h.b6.mono (fun k ah=>⟨ah.1,fun e=>ah.2 ((aa k).2 e)⟩)) ⟨aa,dx⟩ (fun k ah=>⟨.inl ah,h6 (an k ah) h.b6.size⟩)
theorem sU{d:Nat}(q:Nat){dz:Array bf}{eD:Array aO}{g:dn}{cZ cs:cJ}{vs L:cw}{v:aV}{r:Nat}{T:aO}{dO c2:cJ}(hi:A[q]?=some (aE r T dO))
  (av:cG ops n l i=some (some d,.call ⟨.value x,dz,eD⟩,ty)) (af:bk l x=some (.func (.func g) cZ cs)) (has:iY l dz.toList=some vs) (cF:cZ.toList++vs++cs.toList=L) [bg:aU P g]
  (ag:∀w,au F w₀ A w→tP P g L w r T c2 v) (be:∀w,au F w₀ (A.set q (aE r T c2)) w→S w) (h:U P ops S K p n ((d,v)::l) (au F w₀ (A.set q (aE r T c2)))):U P ops S K (.bB false i p) n l (au F w₀ A):=
 U.enter (X:=Unit) (v:=fun _=>v) (ec:=fun _ w=>au F w₀ (A.set q (aE r T c2)) w) (pf:=fun _=>True) av (fun _ _ _ he aa _=>Fs he aa af has cF) (fun w hw=>(ag w hw).mono (fun _ _ ⟨aa,ab⟩=>⟨(),aa,trivial,hw.wrote hi ab⟩)) (fun _ w hw=>be w hw) (fun _ _=>h)
end
end Go.a6
end
section
namespace Go.a6
open Go Go.Sort
theorem Fr.grown{w:ao}{g N:Nat}{f:cJ→cJ}{os:Array Obj}{D:Nat→Prop}(bg:D g):Fr (fun k=>k<w.heap.size∧¬D k) w (grow (mapBlock (Sort.ahead w N) g f) os):=by
 refine⟨I,I,I,?_,fun k ah=>?_⟩
 ·show w.heap.size≤(w.heap.modify g (onCells f)++os).size;simp
 ·show(w.heap.modify g (onCells f)++os)[k]?=_;have e7:g≠k:=fun h=>ah.2 (h▸bg);rw[aaO (by simpa using ah.1),vU,az e7]
theorem au.agc{F:Nat→Prop}{w₀ w:ao}{L:List bi}{E n c g N:Nat}{gY Ch:b3}{os:Array Obj}(h:au F w₀ (own E 1 (some ⟨g,0,none⟩) n c (ints .i64 gY)::L) w)(bc:Ch.length=gY.length):
  au F w₀ (own E 1 (some ⟨g,0,none⟩) n c (ints .i64 Ch)::L) (grow (putRow (Value.int .i64) (Sort.ahead w N) g 0 Ch.toArray) os):=by
 obtain⟨D,⟨⟨aa,ab⟩,eg⟩,ca,kv⟩:=h.rO (i:=0) rfl;rcases ab with⟨an,_⟩|⟨c9,cap,cur,br,ad,c6,ag,hm,aq,bb⟩
 ·cases an
 ·injection br with bs aQ gL;injection bs with bs;injection bs with bg;subst bg;subst gL;have asV:D g:=(eg g).2 ⟨by simp,rfl⟩;have nZ:=(vP.1 c6).1;have zM:Ch.length=n:=by simpa[ints,bc] using aa
  refine kv _ (own E 1 (some ⟨g,0,none⟩) n c (ints .i64 Ch)) D (Fr.grown asV) ⟨⟨by simpa[ints] using zM,.inr ⟨g,c,putCells (Value.int .i64) 0 Ch.toArray cur,I,ad,?_,ag,hm,by simpa[putCells] using aq,?_⟩⟩,eg⟩ (fun k ah=>⟨.inl ah,?_⟩)
  ·show(w.heap.modify g (onCells _)++os)[g]?=_;rw[aaO (by simpa using nZ),vU,aD rfl,c6];rfl
  ·rw[dJ] at bb aq⊢;apply jB;intro j;rw[mj];by_cases ax:j<n
   ·rw[aD ax];have zK:j<cur.size:=by omega
    simp[putCells,ints,zK,zM,ax]
   ·rw[az ax,iq (by simp[ints];omega)]
  ·have:=ca k ah;show k<(w.heap.modify g (onCells _)++os).size;simp;omega
end Go.a6
end
section
namespace Go.Proofs
open Go.Shelf
def Tryz.akX:Go.Shelf.Ren:=⟨fun|189=>195|125=>290|257=>289|128=>370|129=>371|294=>361|295=>362|296=>363|297=>364|298=>365|299=>366|216=>367|300=>368|301=>369|328=>431|329=>432|330=>433|331=>434|332=>435|215=>436|343=>465|n=>n,fun|28=>25|3=>3|46=>196|0=>0|51=>249|53=>256|4=>4|183=>486|182=>485|131=>399|5=>5|9=>9|218=>537|222=>156|228=>563|229=>351|n=>n,fun|n=>n⟩
theorem Tryz.akG:Go.Proofs.Lays.n189 Tryz.prog Tryz.akX:={
 mixed:=by kernel_rfl
 f125:=Tryz.func290.trans (congrArg some (by kernel_rfl))
 f128:=Tryz.func370.trans (congrArg some (by kernel_rfl))
 f129:=Tryz.func371.trans (congrArg some (by kernel_rfl))
 f189:=Tryz.func195.trans (congrArg some (by kernel_rfl))
 f215:=Tryz.func436.trans (congrArg some (by kernel_rfl))
 f216:=Tryz.func367.trans (congrArg some (by kernel_rfl))
 f257:=Tryz.func289.trans (congrArg some (by kernel_rfl))
 f294:=Tryz.func361.trans (congrArg some (by kernel_rfl))
 f295:=Tryz.func362.trans (congrArg some (by kernel_rfl))
 f296:=Tryz.func363.trans (congrArg some (by kernel_rfl))
 f297:=Tryz.func364.trans (congrArg some (by kernel_rfl))
 f298:=Tryz.func365.trans (congrArg some (by kernel_rfl))
 f299:=Tryz.func366.trans (congrArg some (by kernel_rfl))
 f300:=Tryz.func368.trans (congrArg some (by kernel_rfl))
 f301:=Tryz.func369.trans (congrArg some (by kernel_rfl))
 f328:=Tryz.func431.trans (congrArg some (by kernel_rfl))
 f329:=Tryz.func432.trans (congrArg some (by kernel_rfl))
 f330:=Tryz.func433.trans (congrArg some (by kernel_rfl))
 f331:=Tryz.func434.trans (congrArg some (by kernel_rfl))
 f332:=Tryz.func435.trans (congrArg some (by kernel_rfl))
 f343:=Tryz.func465.trans (congrArg some (by kernel_rfl))
 t0:=Tryz.underlying0
 a0:=Tryz.isAgg0
 z0:=Tryz.sizeOf0
 v0:=Tryz.zeroValue0
 t3:=Tryz.underlying3
 a3:=Tryz.isAgg3
 z3:=Tryz.sizeOf3
 v3:=Tryz.zeroValue3
 t4:=Tryz.underlying4
 a4:=Tryz.isAgg4
 z4:=Tryz.sizeOf4
 v4:=Tryz.zeroValue4
 t5:=Tryz.underlying5
 a5:=Tryz.isAgg5
 z5:=Tryz.sizeOf5
 v5:=Tryz.zeroValue5
 t9:=Tryz.underlying9
 a9:=Tryz.isAgg9
 z9:=Tryz.sizeOf9
 v9:=Tryz.zeroValue9
 t28:=Tryz.underlying25
 a28:=Tryz.isAgg25
 z28:=Tryz.sizeOf25
 v28:=Tryz.zeroValue25
 t46:=Tryz.underlying196
 a46:=Tryz.isAgg196
 z46:=Tryz.sizeOf196
 v46:=Tryz.zeroValue196
 t51:=Tryz.underlying249
 a51:=Tryz.isAgg249
 z51:=Tryz.sizeOf249
 v51:=Tryz.zeroValue249
 t53:=Tryz.underlying256
 a53:=Tryz.isAgg256
 z53:=Tryz.sizeOf256
 v53:=Tryz.zeroValue256
 t131:=Tryz.underlying399
 a131:=Tryz.isAgg399
 z131:=Tryz.sizeOf399
 v131:=Tryz.zeroValue399
 t182:=Tryz.underlying485
 a182:=Tryz.isAgg485
 z182:=Tryz.sizeOf485
 v182:=Tryz.zeroValue485
 t183:=Tryz.underlying486
 a183:=Tryz.isAgg486
 z183:=Tryz.sizeOf486
 v183:=Tryz.zeroValue486
 t218:=Tryz.underlying537
 a218:=Tryz.isAgg537
 z218:=Tryz.sizeOf537
 v218:=Tryz.zeroValue537
 t222:=Tryz.underlying156
 a222:=Tryz.isAgg156
 z222:=Tryz.sizeOf156
 v222:=Tryz.zeroValue156
 t228:=Tryz.underlying563
 a228:=Tryz.isAgg563
 z228:=Tryz.sizeOf563
 v228:=Tryz.zeroValue563
 t229:=Tryz.underlying351
 a229:=Tryz.isAgg351
 z229:=Tryz.sizeOf351
 v229:=Tryz.zeroValue351}
open Go.Sort Go.RowKit in
theorem Tryz.slices_Sort_int(aE off cap:Nat)(gY:List Int)(w:World)(aqI:Holds (Value.int .i64) w aE off gY.toArray)(aoc:aE<w.heap.size)(fU:gY.length<4611686018427387904):
  Calls Tryz.prog 195 #[.slice (some ⟨aE,off,none⟩) gY.length cap] w fun e ar=>
   e=.returned (.tuple #[])∧∃n os,ar=grow (putRow (Value.int .i64) (Sort.ahead w n) aE off (gY.mergeSort fun x y=>decide (x≤y)).toArray) os:=Any.slices_Sort_int Tryz.akG aE off cap gY w aqI aoc fU
end Go.Proofs
end
section
namespace Go.Proofs.YtcgjepodnfjggaaGreatDoor
open Go.a6 Go.cv
set_option maxRecDepth 100000
theorem al8{x:Nat}(h:¬(0:Int)<(x:Nat)):x=0:=by omega
theorem zL{m:Nat}(h:Ok m):IntKind.u64.wrap ((m:Nat):Int)=(m:Nat):=MY (by have:=h.hi;omega)
theorem Cs(m:Nat)(a:Int)(w:ao)(hm:Ok m):cC Tryz.prog 302 [.int .i64 (m:Nat),.int .i64 a] w (.int .i64 (lo m a:Nat)):=by
 have aG:=gS hm;have pe:=hm.lo;have Ai:=hm.hi;have jO:=kZ m;exact b8 Tryz.func302 I Tryz.ntmps302 I<|J.aw 1 I<|ak I I<|U.bl 7 I<|ac I I<|ac I I<|gW I I (zL hm)<|ir I I I (by omega) (tO hm)<|eB I I I (bm (by omega))<|dY I I I I (US hm a)<|ak I I<|U.next<|J.ret<|al.ret Tryz.results302 I (fun w hw=>⟨I,hw.nothing⟩)
theorem Cf(m:Nat)(a b:Int)(w:ao)(hm:Ok m):cC Tryz.prog 300 [.int .i64 (m:Nat),.int .i64 a,.int .i64 b] w (.int .i64 (ba m (lo m a) (lo m b):Nat)):=by
 have aG:=gS hm;have pe:=hm.lo;have Ai:=hm.hi;have jO:=kZ m;have af:=lJ m a;have ad:=lJ m b;have hle:=wG hm;have iQ:=Vo (m:Nat);refine b8 Tryz.func300 I Tryz.ntmps300 I<|J.aw 1 I<|ak I I<|U.bl 4 I<|ac I I<|ac I I<|bJ I I I I (fun w hw=>Cs m _ _ hm) aJ<|ak I I<|U.bl 4 I<|ac I I<|ac I I<|bJ I I I I (fun w hw=>Cs m _ _ hm) aJ<|ak I I<|U.bl 3 I<|ac I I<|bJ I I I I (fun w hw=>atM _ _ (by omega)) aJ<|ak I I<|U.bl 1 I<|ak I I<|U.next<|J.seq<|J.block<|J.loop (G:=Nat) (fun k=>[(0,.int .i64 (m:Nat)),(1,.int .i64 (eZ m k (lo m a):Nat)),(2,.int .i64 (lo m b>>>k:Nat)),(7,.int .i64 (nn (m:Nat):Nat)),(8,.int .i64 (hb m (lo m a) (lo m b) k:Nat))]) (fun _=>bF w []) (fun k=>k≤m) (fun k=>lo m b>>>k) 0 ⟨I,I,I,I,I,trivial⟩ (fun _ h=>h) (dg _) ?_;intro k ah;have axH:=yK hm k af;have awl:=Pr hm af (lo m b) k;have ij:lo m b>>>k<2^m:=lU (yd _ _) ad;refine J.seq<|J.aw 2 I<|ac I I<|fD I I I I<|U.next ?_;refine J.test I (fun ag=>?_) (fun ag=>?_)
 ·have ae5:=ame ad (k:=k) (by omega);refine J.skip<|al.code<|J.block ?_;refine J.cut (G:=Unit) (fun _=>[(0,.int .i64 (m:Nat)),(1,.int .i64 (eZ m k (lo m a):Nat)),(2,.int .i64 (lo m b>>>k:Nat)),(7,.int .i64 (nn (m:Nat):Nat)),(8,.int .i64 (hb m (lo m a) (lo m b) (k+1):Nat))]) (fun _=>bF w []) (fun _=>True) ?_ ?_
  ·refine J.aw 3 I<|ac I I<|dY I I I I (Hk (by omega))<|gy I I I I<|U.next ?_;refine J.test I (fun ag=>?_) (fun ag=>?_)
   ·exact J.rg 4 I<|ac I I<|ac I I<|dY I I I I (by rw[xd (by omega) (by omega),←alD ag])<|ak I I<|U.end_<|al.join () ⟨I,I,I,I,I,trivial⟩ (fun _ h=>h) trivial
   ·exact J.skip<|al.join () ⟨I,I,I,I,by rw[afA ag];rfl,trivial⟩ (fun _ h=>h) trivial
  ·intro _ _;refine J.aw 3 I<|ac I I<|ir I I I (by omega) (r:=((2*eZ m k (lo m a):Nat):Int)) (aoD (by omega))<|ak I I<|U.next ?_;refine J.cut (G:=Unit) (fun _=>[(0,.int .i64 (m:Nat)),(1,.int .i64 (eZ m (k+1) (lo m a):Nat)),(2,.int .i64 (lo m b>>>k:Nat)),(7,.int .i64 (nn (m:Nat):Nat)),(8,.int .i64 (hb m (lo m a) (lo m b) (k+1):Nat))]) (fun _=>bF w []) (fun _=>True) ?_ ?_
   ·refine J.aw 6 I<|ac I I<|ac I I<|gW I I (zL hm)<|iw I I I (by omega) (Kb (by omega))<|dY I I I I (Hk (lU (yd _ _) (by omega)))<|gy I I I I<|U.next ?_;refine J.test I (fun ag=>?_) (fun ag=>?_)
    ·exact J.rg 4 I<|ac I I<|ac I I<|dY I I I I (by rw[xd (by omega) iQ,TB hm,←ahG hm af ag])<|ak I I<|U.end_<|al.join () ⟨I,I,I,I,I,trivial⟩ (fun _ h=>h) trivial
    ·exact J.skip<|al.join () ⟨I,by rw[ahX hm af ag];rfl,rfl,rfl,rfl,trivial⟩ (fun _ h=>h) trivial
   ·intro _ _;exact J.rg 3 I<|ac I I<|iw I I I (by omega) (r:=((lo m b>>>(k+1):Nat):Int)) (by rw[ZB,Yp])<|ak I I<|U.end_<|al.aE<|al.back (k+1) ⟨I,I,I,I,I,trivial⟩ (fun _ h=>h) ae5 (by rw[←Yp];exact UP (by omega))
 ·have O0:=akR (m:=m) (a:=lo m a) (b:=lo m b) (k:=k) (al8 ag) ah;exact J.exit I<|al.code<|J.aw 2 I<|ac I I<|ak I I<|U.next<|J.ret<|al.ret Tryz.results300 I (fun w hw=>⟨by rw[oneOf,O0],hw⟩)
structure tc(m a n:Nat)(q:Nat×Nat×Nat):Prop where
 af:q.1<2^m
 aj:q.2.1<2^m
 aQ:q.2.2<2^63
 inv:ba m q.1 (fO m q.2.1 q.2.2)=fO m a n
theorem tc.ahr{m a n:Nat}(h:Ok m){q:Nat×Nat×Nat}(aM:tc m a n q)(ag:((q.2.2%2:Nat):Int)=1):tc m a n (ba m q.1 q.2.1,ba m q.2.1 q.2.1,q.2.2>>>1):=by
 obtain⟨aa,ab,an,aK⟩:=aM;have e:q.2.2=1+2*(q.2.2>>>1):=by rw[jp];omega
 refine⟨eL h aa _,eL h ab _,lU (yd _ _) an,?_⟩;have bo:fO m q.2.1 1=q.2.1:=l5 h ab;show ba m (ba m q.1 q.2.1) (fO m (ba m q.2.1 q.2.1) (q.2.2>>>1))=_;rw[←aK,Ve h ab,h0 h aa ab (rS h _ _)];conv=>rhs;rw[e,Xg h ab,bo]
theorem tc.even{m a n:Nat}(h:Ok m){q:Nat×Nat×Nat}(aM:tc m a n q)(ag:¬((q.2.2%2:Nat):Int)=1):tc m a n (q.1,ba m q.2.1 q.2.1,q.2.2>>>1):=by
 obtain⟨aa,ab,an,aK⟩:=aM;have e:q.2.2=2*(q.2.2>>>1):=by rw[jp];omega
 refine⟨aa,eL h ab _,lU (yd _ _) an,?_⟩;show ba m q.1 (fO m (ba m q.2.1 q.2.1) (q.2.2>>>1))=_;rw[←aK,Ve h ab];conv=>rhs;rw[e]
theorem tc.last{m a n:Nat}(h:Ok m){q:Nat×Nat×Nat}(aM:tc m a n q)(ag:¬0<q.2.2):q.1=fO m a n:=by
 obtain⟨aa,ab,an,aK⟩:=aM;rw[show q.2.2=0 by omega] at aK;rw[←aK];exact(ur h aa).symm
theorem TZ{m x y:Nat}{w:ao}(hm:Ok m)(af:x<2^m)(aF:y<2^m):cC Tryz.prog 300 [.int .i64 (m:Nat),.int .i64 (x:Nat),.int .i64 (y:Nat)] w (.int .i64 (ba m x y:Nat)):=by
 have:=Cf m (x:Nat) (y:Nat) w hm;rw[hC af,hC aF] at this;exact this
theorem U6(m:Nat)(a:Int)(n:Nat)(w:ao)(hm:Ok m)(aQ:n<2^63):cC Tryz.prog 374 [.int .i64 (m:Nat),.int .i64 a,.int .i64 (n:Nat)] w (.int .i64 (fO m (lo m a) n:Nat)):=by
 have aG:=gS hm;have pe:=hm.lo;have Ai:=hm.hi;have jO:=kZ m;have af:=lJ m a;have hle:=wG hm;refine b8 Tryz.func374 I Tryz.ntmps374 I<|J.aw 1 I<|ak I I<|U.bl 1 I<|ak I I<|U.bl 4 I<|ac I I<|ac I I<|bJ I I I I (fun w hw=>Cs m _ _ hm) aJ<|ak I I<|U.next<|J.seq<|J.block<|J.loop (G:=Nat×Nat×Nat) (fun q=>[(0,.int .i64 (m:Nat)),(1,.int .i64 (q.2.1:Nat)),(2,.int .i64 (q.2.2:Nat)),(7,.int .i64 (q.1:Nat))]) (fun _=>bF w []) (tc m (lo m a) n) (fun q=>q.2.2) (1,lo m a,n) ⟨I,I,I,I,trivial⟩ (fun _ h=>h) ⟨kC hm,af,aQ,l5 hm (rS hm _ _)⟩ ?_;rintro⟨x,y,k⟩ aM;have xK:=aM.af;have hD:=aM.aj;have rl:=aM.aQ;simp only at xK hD rl⊢;refine J.seq<|J.aw 2 I<|ac I I<|fD I I I I<|U.next ?_;refine J.test I (fun ag=>?_) (fun ag=>?_)
 ·refine J.skip<|al.code<|J.block ?_;refine J.cut (G:=Nat) (fun z=>[(0,.int .i64 (m:Nat)),(1,.int .i64 (y:Nat)),(2,.int .i64 (k:Nat)),(7,.int .i64 (z:Nat))]) (fun _=>bF w []) (fun z=>tc m (lo m a) n (z,ba m y y,k>>>1)) ?_ ?_
  ·refine J.aw 3 I<|ac I I<|dY I I I I (Hk rl)<|gy I I I I<|U.next ?_;refine J.test I (fun ag=>?_) (fun ag=>?_)
   ·exact J.rg 5 I<|ac I I<|ac I I<|ac I I<|bJ I I I I (fun w _=>TZ hm xK hD) aJ<|ak I I<|U.end_<|al.join _ ⟨I,I,I,I,trivial⟩ (fun _ h=>h) (aM.ahr hm ag)
   ·exact J.skip<|al.join _ ⟨I,I,I,I,trivial⟩ (fun _ h=>h) (aM.even hm ag)
  ·intro z aL;exact J.aw 5 I<|ac I I<|ac I I<|ac I I<|bJ I I I I (fun w _=>TZ hm hD hD) aJ<|ak I I<|U.next<|J.rg 3 I<|ac I I<|iw I I I (by omega) (r:=((k>>>1:Nat):Int)) (ZB k)<|ak I I<|U.end_<|al.aE<|al.back (z,ba m y y,k>>>1) ⟨I,I,I,I,trivial⟩ (fun _ h=>h) aL (UP (by omega))
 ·exact J.exit I<|al.code<|J.aw 2 I<|ac I I<|ak I I<|U.next<|J.ret<|al.ret Tryz.results374 I (fun w hw=>⟨by rw[oneOf,←aM.last hm (by simp only;omega)],hw⟩)
theorem QH{m:Nat}(h:Ok m)(n:Int):(n.tmod ((N m:Nat):Int)+(N m:Nat)).tmod ((N m:Nat):Int)=(em m n:Nat):=by
 have aG:=gS h;have ad:=xN h n;by_cases ag:n.tmod ((N m:Nat):Int)<0
 ·rw[VE h ag];exact Int.tmod_eq_of_lt (by omega) (by omega)
 ·rw[Yx h ag];show(((em m n+N m)%N m:Nat):Int)=_;rw[Nat.add_mod_right,ll ad]
theorem Ln{m:Nat}(h:Ok m):lo m 2=2:=hC (x:=2) (asB h)
theorem aez(m:Nat)(a n:Int)(w:ao)(hm:Ok m)(aB:lo m a=0):cC Tryz.prog 298 [.int .i64 (m:Nat),.int .i64 a,.int .i64 n] w (.int .i64 (tC m (lo m a) n:Nat)):=by
 have aG:=gS hm;have pe:=hm.lo;have Ai:=hm.hi;have jO:=kZ m;have af:=lJ m a;have ad:=VQ hm n;refine b8 Tryz.func298 I Tryz.ntmps298 I<|J.aw 1 I<|ak I I<|U.bl 5 I<|ac I I<|gW I I (zL hm)<|ir I I I (by omega) (tO hm)<|eB I I I (r:=(N m:Nat)) (by rw[DT];exact bm (by omega))<|ak I I<|U.next<|J.seq<|J.aw 4 I<|ac I I<|ac I I<|bJ I I I I (fun w hw=>Cs m _ _ hm) aJ<|gy I I I (ek (by omega))<|U.next<|J.hH I<|J.seq<|J.aw 2 I<|ac I I<|gy I I I I<|U.next ?_;refine J.test I (fun ag=>?_) (fun ag=>?_)
 ·exact J.aw 1 I<|ak I I<|U.next<|J.ret<|al.ret Tryz.results298 I (fun w hw=>⟨by rw[WG aB,aD ag];rfl,hw⟩)
 ·exact J.skip<|al.code<|J.aw 1 I<|ak I I<|U.next<|J.ret<|al.ret Tryz.results298 I (fun w hw=>⟨by rw[WG aB,az ag];rfl,hw⟩)
theorem arl(m:Nat)(a n:Int)(w:ao)(hm:Ok m)(aB:lo m a≠0):cC Tryz.prog 298 [.int .i64 (m:Nat),.int .i64 a,.int .i64 n] w (.int .i64 (tC m (lo m a) n:Nat)):=by
 have aG:=gS hm;have pe:=hm.lo;have Ai:=hm.hi;have jO:=kZ m;have af:=lJ m a;have ad:=VQ hm n;exact b8 Tryz.func298 I Tryz.ntmps298 I<|J.aw 1 I<|ak I I<|U.bl 5 I<|ac I I<|gW I I (zL hm)<|ir I I I (by omega) (tO hm)<|eB I I I (r:=(N m:Nat)) (by rw[DT];exact bm (by omega))<|ak I I<|U.next<|J.seq<|J.aw 4 I<|ac I I<|ac I I<|bJ I I I I (fun w hw=>Cs m _ _ hm) aJ<|gy I I I (df (by omega))<|U.next<|J.dy I<|J.skip<|al.code<|J.aw 11 I<|ac I I<|ac I I<|ac I I<|ac I I<|h4 I I I (by omega) I<|ac I I<|b1 I I I (bm (by omega))<|ac I I<|h4 I I I (by omega) (QH hm n)<|bJ I I I I (v:=.int .i64 (tC m (lo m a) n:Nat)) (fun w _=>by rw[ajp hm af aB];exact U6 m _ _ _ hm (by have:=xN hm n;omega)) aJ<|ak rfl rfl<|U.next<|J.ret<|al.ret Tryz.results298 rfl (fun w hw=>⟨rfl,hw.nothing⟩)
theorem akO(m:Nat)(a n:Int)(w:ao)(hm:Ok m):cC Tryz.prog 298 [.int .i64 (m:Nat),.int .i64 a,.int .i64 n] w (.int .i64 (tC m (lo m a) n:Nat)):=by
 by_cases aB:lo m a=0
 ·exact aez m a n w hm aB
 ·exact arl m a n w hm aB
theorem aqe(m:Nat)(a:Int)(w:ao)(hm:Ok m)(aB:lo m a≠0):cC Tryz.prog 303 [.int .i64 (m:Nat),.int .i64 a] w (.int .i64 (inv m (lo m a):Nat)):=by
 have aG:=gS hm;have pe:=hm.lo;have Ai:=hm.hi;have jO:=kZ m;have af:=lJ m a;exact b8 Tryz.func303 I Tryz.ntmps303 I<|J.aw 1 I<|ak I I<|U.bl 8 I<|ac I I<|ac I I<|ac I I<|gW I I (zL hm)<|ir I I I (by omega) (tO hm)<|eB I I I (r:=((N m- 1:Nat):Int)) (by rw[show((N m+1:Nat):Int)- 2=((N m- 1:Nat):Int) by omega];exact bm (by omega))<|bJ I I I I (v:=.int .i64 (inv m (lo m a):Nat)) (fun w _=>by rw[afH hm af aB];exact U6 m _ _ _ hm (by omega)) aJ<|ak I I<|U.next<|J.ret<|al.ret Tryz.results303 I (fun w hw=>⟨I,hw.nothing⟩)
theorem amc(m:Nat)(n:Int)(w:ao)(hm:Ok m):cC Tryz.prog 215 [.int .i64 (m:Nat),.int .i64 n] w (.int .i64 (ex m (em m n):Nat)):=by
 exact b8 Tryz.func215 I Tryz.ntmps215 I<|J.aw 1 I<|ak I I<|U.bl 4 I<|ac I I<|ac I I<|bJ I I I I (v:=.int .i64 (ex m (em m n):Nat)) (fun w _=>by have:=akO m 2 n w hm;rw[Ln hm,aqY hm] at this;exact this) aJ<|ak I I<|U.next<|J.ret<|al.ret Tryz.results215 I (fun w hw=>⟨I,hw.nothing⟩)
end Go.Proofs.YtcgjepodnfjggaaGreatDoor
end
section
namespace Go.Proofs.YtcgjepodnfjggaaGreatDoor
open Go Go.a6 Go.cv
def sD(n:Nat)(p:Nat→Bool):cJ:=((List.range n).map (fun k=>.bool (p k))).toArray
theorem atC(n:Nat)(p:Nat→Bool):(sD n p).size=n:=by simp[sD]
theorem abm{n k:Nat}{p:Nat→Bool}(h:k<n):(sD n p)[k]?=some (.bool (p k)):=by simp[sD,h]
theorem akm(n:Nat):(List.replicate n (.bool false)).toArray=sD n (fun _=>false):=by
 unfold sD;congr 1;exact(PK ..).symm▸by simp
theorem apc{n i:Nat}{p:Nat→Bool}(b:Bool):(sD n p).setIfInBounds i (.bool b)=sD n (fun k=>if k=i then b else p k):=by
 unfold sD;rw[r4];congr 1;apply List.ext_getElem
 ·simp
 ·intro j aa ab;rw[List.getElem_set];simp only[List.getElem_map,List.getElem_range];by_cases h:i=j
  ·rw[aD h,aD h.symm]
  ·rw[az h,az (fun e=>h e.symm)]
def nf(Z:ae)(k:Nat):Bool:=decide (k∈Z)
theorem aox(Z:ae)(x:Nat):(fun k=>if k=x then true else nf Z k)=nf (Z++[x]):=by
 funext k;unfold nf;by_cases ah:k=x
 ·rw[aD ah,ah];simp
 ·rw[az ah];simp[ah]
theorem as3:nf []=fun _=>false:=by funext k;simp[nf]
end Go.Proofs.YtcgjepodnfjggaaGreatDoor
end
section
namespace Go.Proofs.YtcgjepodnfjggaaGreatDoor
open Go Go.a6 Go.cv
set_option maxRecDepth 100000
def wo(x y:Int):Bool:=decide (x≤y)
theorem agk{F:Nat→Prop}{w₀ w:ao}{R:List bi}{A:aN}{n c:Nat}(gY:b3)(aL:gY.length=n)(aQ:n≠0)(fU:n≤1000000)(h:au F w₀ (own 3 1 A n c (ints .i64 gY)::R) w):
  Calls Tryz.prog 195 #[.slice A n c] w (fun e ar=>∃_x:Unit,e=.returned (.tuple #[])∧True∧au F w₀ (own 3 1 A n c (ints .i64 (gY.mergeSort wo))::R) ar):=by
 subst aL;obtain⟨D,⟨⟨aa,ab⟩,eg⟩,ca,_⟩:=h.rO (i:=0) rfl;rcases ab with⟨_,an⟩|⟨g,cap,cur,br,ad,c6,ag,hm,aq,bb⟩
 ·exact absurd an aQ
 ·injection br with bs _ gL;subst bs;subst gL;refine Calls.mono (Tryz.slices_Sort_int g 0 c gY w (fun j ax=>⟨?_,?_⟩) (ca g ((eg g).2 ⟨by simp,I⟩)) (by omega)) ?_
  ·have B6:j<gY.length:=by simpa using ax
   have:=h.xy (q:=0) (j:=j) (v:=.int .i64 (gY.getD j 0)) rfl (qv B6);show w.cell? ⟨ob (some ⟨g,0,none⟩),0+j,none⟩=_;rw[this,getElem!_pos _ j ax];simp[B6]
  ·exact h.H3 (q:=0) (j:=0+j) I aQ
  ·rintro e ar ⟨he,N,os,hw⟩;subst hw;exact⟨(),he,trivial,au.agc h (List.length_mergeSort ..)⟩
theorem ap0{l:ae}:∃s:ae,(l.map Int.ofNat).mergeSort wo=s.map Int.ofNat∧s.Perm l∧s.Pairwise (· ≤ ·):=by
 have aG:=List.mergeSort_perm (l.map Int.ofNat) wo;have aq:=List.pairwise_mergeSort (le:=wo) (fun a b c aa ab=>ek (Int.le_trans (gF aa) (gF ab))) (fun a b=>by unfold wo;rcases Int.le_total a b with h|h<;>simp[h]) (l.map Int.ofNat);refine⟨((l.map Int.ofNat).mergeSort wo).map Int.toNat,?_,?_,?_⟩
 ·rw[o9];refine((m1 (fun x af=>?_)).trans (Il _)).symm;obtain⟨y,_,rfl⟩:=gE.1 (aG.mem_iff.1 af);rfl
 ·have:=aG.map Int.toNat;rwa [o9,show(Int.toNat∘Int.ofNat)=id from rfl,Il] at this
 ·exact Ib _ (fun a b h=>by have:=gF h;omega) aq
theorem as9{m:Nat}(hm:Ok m){i k:Nat}(h:dF m i k∈eo m i k)(aQ:(eo m i k).Nodup):((eo m i k).map Int.ofNat).mergeSort wo=(cX m i).map Int.ofNat:=by
 obtain⟨s,e,aG,aq⟩:=ap0 (l:=eo m i k);rw[e,aeV hm h aQ aG aq]
theorem Ed{k:Int}(ah:0<k)(m:Int): -k<m.tmod k∧m.tmod k<k:=by
 have aa:=ng m (b:=k) (by omega);have ab:=tV m ah;rw[D0];split<;>omega
theorem Ub{m:Nat}(hm:Ok m):¬((nn (m:Nat):Nat):Int)=0:=fun h=>by
 have:=(Rq _).1 h;have aa:=hm.lo;have ab:=hm.hi;omega
theorem ac4{m:Nat}(hm:Ok m){i k:Nat}(h:dF m i k∈eo m i k):(List.range (N m)).filter (nf (eo m i k))=cX m i:=by
 unfold cX;refine JJ (fun x _=>?_);unfold nf;rw[pu,Pf hm h];unfold cX;rw[mL,vv];refine⟨fun af=>af.2,fun af=>⟨?_,af⟩⟩;obtain⟨j,_,e⟩:=af;rw[←e];exact pT.2 (zj hm i j)
theorem aj2{p:Nat→Bool}{k:Nat}(h:p k=true):(List.range (k+1)).filter p=(List.range k).filter p++[k]:=by
 rw[Ct,zF];simp[h]
theorem aju{p:Nat→Bool}{k:Nat}(h:¬p k=true):(List.range (k+1)).filter p=(List.range k).filter p:=by
 rw[Ct,zF];simp[h]
theorem ad5(p:Nat→Bool)(k:Nat):((List.range k).filter p).length≤k:=by
 have:=EF p (List.range k);simpa using this
theorem Ui{l:ae}{x:Nat}:((x:Nat):Int)∈l.map Int.ofNat↔x∈l:=by
 rw[gE];constructor
 ·rintro⟨y,aF,e⟩;have:y=x:=Int.ofNat.inj e;rwa [←this]
 ·intro h;exact⟨x,h,I⟩
theorem amQ{l:b3}{i:Nat}(h:i<l.length):l.getD i 0∈l:=by
 rw[eM,eF h];exact sN h
theorem aaR(m:Int)(w:ao):cC Tryz.prog 93 [.int .i64 m] w (.int .i64 (nn m:Nat)):=by
 refine b8 Tryz.func93 I Tryz.ntmps93 I<|J.aw 1 I<|ak I I<|U.bl 3 I<|A5 I I (cells:=IR) I<|gg I aJ<|fun Yv=>fE 0 I I (by kernel_rfl) I I I (by decide) aJ<|U.next<|J.seq<|J.aw 6 I<|ac I I<|cQ I I I I<|ac I I ?_;refine U.bool 7 I (fun ad=>?_) (fun ad=>?_)
 ·replace ad:=gF ad;exact U.skip I<|U.skip I<|fe I I I<|U.next<|J.hH I<|J.aw 1 I<|ak I I<|U.next<|J.ret<|al.ret Tryz.results93 I (fun w hw=>⟨by rw[oneOf,←Bj (.inl ad)];rfl,hw.nothing⟩)
 ·replace ad:=jG ad;refine ac I I<|fD I I I I<|ef I I I<|U.next ?_;refine J.test I (fun ag=>?_) (fun ag=>?_)
  ·exact J.aw 1 I<|ak I I<|U.next<|J.ret<|al.ret Tryz.results93 I (fun w hw=>⟨by rw[oneOf,←Bj (.inr ag)];rfl,hw.nothing⟩)
  ·exact J.skip<|al.code<|J.aw 5 I<|ac I I<|eB I I I (bm (by omega))<|n0 (m- 3).toNat I I I (by omega) (by omega)<|cm 0 I I I (by rw[iO,dJ];exact KH ad ag)<|ak I I<|U.next<|J.ret<|al.ret Tryz.results93 I (fun w hw=>⟨I,hw.nothing⟩)
theorem aqM(A:aN)(n c:Nat)(l:b3)(v:Int)(w:ao)(aj:Has (aP 1 A n (ints .i64 l)) w)(aQ:n≤4294967296):fh Tryz.prog 196 [.slice A n c,.int .i64 v] w (X:=Int) (fun r=>.int .i64 r) (fun r=>(0≤r↔v∈l)) (fun _=>[]):=by
 have eA:=qB aj;subst eA;refine b8 Tryz.func196 I Tryz.ntmps196 I<|J.aw 1 I<|ak I I<|U.next<|J.seq<|J.aw 3 I<|ac I I<|cf I I<|ac I I<|U.next<|J.block<|J.loop (G:=Nat) (fun i=>[(0,.slice A l.length c),(1,.int .i64 v),(7,.int .i64 (l.length:Nat)),(8,.int .i64 (i:Nat))]) (fun _=>bF w []) (fun i=>i≤l.length∧∀j,j<i→v≠l.getD j 0) (fun i=>l.length- i) 0 ⟨I,I,I,I,trivial⟩ (fun _ h=>h) ⟨dg _,fun j ax=>absurd ax (Je _)⟩ ?_;rintro i ⟨hi,ga⟩;refine J.aw 1 I<|cQ I I I I<|U.next<|J.seq ?_;refine J.test I (fun ag=>?_) (fun ag=>?_)
 ·refine J.skip<|al.code<|J.seq<|J.block<|J.aw 2 I<|ac I I<|ak I I<|U.bl 6 I<|ac I I<|ac I I<|ac I I<|fH i (fun w hw=>hw.a7 aj) I I I I (by omega)<|jN (fun w hw=>hw.a7 aj) I I (by rw[dJ];exact qv (by omega)) (by omega)<|gy I I I I<|U.next ?_;refine J.test I (fun LO=>?_) (fun LO=>?_)
  ·have y1:v∈l:=by rw[LO];exact amQ (by omega)
   exact J.aw 2 I<|ac I I<|ak I I<|U.next<|J.ret<|al.ret Tryz.results196 I (fun w hw=>⟨(i:Nat),I,⟨fun _=>y1,fun _=>by omega⟩,hw⟩)
  ·exact J.skip<|al.aE<|al.code<|J.rg 2 I<|b1 I I I (r:=((i+1:Nat):Int)) (bm (by omega))<|ac I I<|U.end_<|al.back (i+1) ⟨I,I,I,I,trivial⟩ (fun _ h=>h) ⟨by omega,fun j ax=>by by_cases h:j=i;(subst h;exact LO);exact ga j (by omega)⟩ (by omega)
 ·have ast:v∉l:=fun h=>by
   obtain⟨j,ax,e⟩:=E1 h;exact ga j (by omega) (by rw[←e];simp[ax])
  exact J.exit I<|al.code<|J.aw 1 I<|ak I I<|U.next<|J.ret<|al.ret Tryz.results196 I (fun w hw=>⟨-1,I,⟨fun h=>by omega,fun h=>absurd h ast⟩,hw⟩)
theorem abC(A:aN)(n c:Nat)(l:b3)(v:Int)(w:ao)(aj:Has (aP 1 A n (ints .i64 l)) w)(aQ:n≤4294967296):cC Tryz.prog 134 [.slice A n c,.int .i64 v] w (.bool (decide (v∈l))):=by
 exact b8 Tryz.func134 I Tryz.ntmps134 I<|J.aw 1 I<|ak I I<|U.bl 5 I<|ac I I<|ac I I<|dh I I I I (fun w hw=>aqM A n c l v w (hw.a7 aj) aQ) aJ<|fun r aH=>jz I I I (r:=decide (v∈l)) (by rw[pu];exact aH)<|ak I I<|U.next<|J.ret<|al.ret Tryz.results134 I (fun w hw=>⟨I,hw.nothing⟩)
theorem YH(m:Nat)(i:Int)(w:ao)(hm:Ok m):VG Tryz.prog 133 [.int .i64 (m:Nat),.int .i64 i] w (cX m (em m i)):=by
 have Al:=kZ m;have V1:=gS hm;have kG:=hm.hi;have Kn:=Ub hm;have IL:=Ed (k:=((N m):Nat)) (by omega) i;have vb:=xN hm i;refine b8 Tryz.func133 I Tryz.ntmps133 I<|J.aw 2 I<|ak I I<|ak I I<|U.next<|J.seq<|J.aw 3 I<|ac I I<|bJ I I I I (fun w hw=>aaR _ w) aJ<|gy I I I (df Kn)<|U.next<|J.dy I<|J.skip<|al.code<|J.aw 4 I<|ac I I<|ir I I I (by omega) (tO hm)<|eB I I I (r:=(((N m):Nat):Int)) (by rw[show(((N m)+1:Nat):Int)- 1=(((N m):Nat):Int) by omega];exact bm (by omega))<|ak I I<|U.bl 8 I<|ac I I<|ac I I<|h4 I I I (by omega) I<|ac I I<|b1 I I I (bm (by omega))<|ac I I<|h4 I I I (by omega) (r:=((dF m (em m i) 0:Nat):Int)) (by rw[QH hm i];unfold dF;rw[Fj,dJ,ll vb])<|ak rfl rfl<|U.bl 1 rfl<|ak rfl rfl<|U.next<|J.seq<|J.block<|J.loop (G:=Nat×aN×Nat) (fun q=>[(1,.int .i64 (dF m (em m i) q.1:Nat)),(6,.int .i64 ((N m):Nat)),(7,.slice q.2.1 q.1 q.2.2)]) (fun q=>bF w [own 3 1 q.2.1 q.1 q.2.2 (ints .i64 ((eo m (em m i) q.1).map Int.ofNat))]) (fun q=>q.1≤m∧(eo m (em m i) q.1).Nodup∧q.1≤q.2.2) (fun q=>m- q.1) (0,none,0) ⟨rfl,rfl,rfl,trivial⟩ (fun _ h=>h.iB 3 1) ⟨dg _,by simp[eo],cq _⟩ ?_;rintro q ⟨aM,gd,iH⟩;have gr:=zj hm (em m i) q.1;refine J.seq<|J.aw 4 I<|ac I I<|ac I I<|bJ I I I I (v:=.bool (decide (dF m (em m i) q.1∈(eo m (em m i) q.1)))) (fun w hw=>by have:=abC q.2.1 q.1 q.2.2 ((eo m (em m i) q.1).map Int.ofNat) (dF m (em m i) q.1:Nat) w ((hw.has (i:=0) I).dw) (by omega);rw[pu.2 Ui] at this;exact this) aJ<|ls I I<|U.next ?_;refine J.cond I (fun ag=>?_) (fun ag=>?_)
 ·have ga:dF m (em m i) q.1∉(eo m (em m i) q.1):=by simpa using ag
  have ca:q.1<m:=Nat.lt_of_le_of_ne aM (fun h=>ga (by rw[h];exact KF hm _));refine J.skip<|al.code<|J.block<|J.aw 5 I<|ac I I<|ac I I<|ja I I (cells:= #[.int .i64 (dF m (em m i) q.1:Nat)]) (by kernel_rfl) I aJ<|fun iv=>ma 1 I I I I (ys:=[.int .i64 (dF m (em m i) q.1:Nat)]) (fun w hw=>Has.gK ((hw.has (i:=0) I).kI (m:=1) I) I) I I (by omega) (by unfold maxLen;omega) (by omega) (fun _ _ _ _=>trivial)<|fun bw c2 cR=>ak rfl rfl<|U.next<|J.rg 5 rfl<|ac rfl rfl<|jE rfl rfl rfl (r:=((2*dF m (em m i) q.1:Nat):Int)) (by rw[show(2:Int)*((dF m (em m i) q.1:Nat):Int)=((2*dF m (em m i) q.1:Nat):Int) by omega];exact bm (by omega))<|ac I I<|h4 I I I (by omega) (r:=((dF m (em m i) (q.1+1):Nat):Int)) (by rw[Aj];rfl)<|ak rfl rfl<|U.end_<|al.aE ?_;exact al.back (q.1+1,bw,c2) ⟨I,I,I,trivial⟩ (fun _ h=>by
   have ab:=h.pick [1] rfl;simp only[Rj,n3,ints,hW,lm] at ab⊢;exact ab) ⟨by simp only;omega,OE gd ga,cR⟩ (by simp only;omega)
 ·have pt:dF m (em m i) q.1∈(eo m (em m i) q.1):=by simpa using ag
  have pX:q.1≠0:=fun h=>by rw[h] at pt;simp[eo] at pt
  have dq:=as9 hm pt gd;have Ck:=Sw hm pt gd;exact J.exit I<|al.code<|J.aw 2 I<|ac I I<|aaB I I I I (v:=fun _:Unit=>.tuple #[]) (pf:=fun _=>True) (dv:=fun _=>[own 3 1 q.2.1 q.1 q.2.2 (ints .i64 (((eo m (em m i) q.1).map Int.ofNat).mergeSort wo))]) (fun w hw=>agk _ (by rw[iK,abu]) pX (by omega) hw) (fun _ _ _=>trivial)<|fun _ _=>U.bl 3 I<|ac I I<|ak I I<|ak I I<|U.next<|J.ret<|al.ret Tryz.results133 I (fun w hw=>⟨(q.2.1,q.2.2),by rw[Ck];rfl,by rw[Ck];exact iH,by rw[dq] at hw;rw[Ck,vl];exact hw⟩)
theorem aer(m:Nat)(i:Int)(w:ao)(hm:Ok m):pV Tryz.prog 214 [.int .i64 (m:Nat),.int .i64 i] w (cX m (em m i)):=by
 have Al:=kZ m;have V1:=gS hm;have kG:=hm.hi;have IL:=Ed (k:=((N m):Nat)) (by omega) i;have vb:=xN hm i;refine b8 Tryz.func214 I Tryz.ntmps214 I<|J.aw 1 I<|ak I I<|U.bl 5 I<|ac I I<|gW I I (zL hm)<|ir I I I (by omega) (tO hm)<|eB I I I (r:=(((N m):Nat):Int)) (by rw[show(((N m)+1:Nat):Int)- 1=(((N m):Nat):Int) by omega];exact bm (by omega))<|ak I I<|U.bl 8 I<|ac I I<|ac I I<|h4 I I I (by omega) I<|ac I I<|b1 I I I (bm (by omega))<|ac I I<|h4 I I I (by omega) (r:=((dF m (em m i) 0:Nat):Int)) (by rw[QH hm i];unfold dF;rw[Fj,dJ,ll vb])<|ak rfl rfl<|U.bl 3 rfl<|ac rfl rfl<|lP (N m) rfl rfl rfl rfl rfl (by omega) aJ<|fun Gd=>ak rfl rfl<|U.bl 2 rfl<|ac rfl rfl<|ak rfl rfl<|U.next<|J.seq<|J.block<|J.loop (G:=Nat) (fun k=>[(5,.int .i64 ((N m):Nat)),(6,.slice (some ⟨Gd,0,none⟩) (N m) (N m)),(7,.int .i64 (dF m (em m i) k:Nat))]) (fun k=>bF w [aE Gd 4 (sD (N m) (nf (eo m (em m i) k)))]) (fun k=>k≤m∧(eo m (em m i) k).Nodup) (fun k=>m- k) 0 ⟨rfl,rfl,rfl,trivial⟩ (fun _ h=>by rw[show eo m (em m i) 0=[] from rfl,as3,←akm];exact h) ⟨dg _,by simp[eo]⟩ ?_;rintro k ⟨ah,gd⟩;have gr:=zj hm (em m i) k;refine J.seq<|J.aw 5 I<|ac I I<|ac I I<|eP (dF m (em m i) k) I I I I gr<|cm 0 I I I (abm gr)<|ls I I<|U.next ?_;refine J.cond I (fun ag=>?_) (fun ag=>?_)
 ·have ga:dF m (em m i) k∉(eo m (em m i) k):=by simpa[nf] using ag
  have ca:k<m:=Nat.lt_of_le_of_ne ah (fun h=>ga (by rw[h];exact KF hm _));exact J.skip<|al.code<|J.block<|J.aw 4 I<|ac I I<|ac I I<|eP (dF m (em m i) k) I I I I gr<|eh 0 I I I I I (by rw[atC];exact gr) aJ<|U.next<|J.rg 5 I<|ac I I<|jE I I I (r:=((2*dF m (em m i) k:Nat):Int)) (by rw[show(2:Int)*((dF m (em m i) k:Nat):Int)=((2*dF m (em m i) k:Nat):Int) by omega];exact bm (by omega))<|ac I I<|h4 I I I (by omega) (r:=((dF m (em m i) (k+1):Nat):Int)) (by rw[Aj];rfl)<|ak rfl rfl<|U.end_<|al.aE<|al.back (k+1) ⟨rfl,rfl,rfl,trivial⟩ (fun _ h=>by rw[Rj,←aox,←apc];exact h) ⟨by omega,OE gd ga⟩ (by omega)
 ·have pt:dF m (em m i) k∈(eo m (em m i) k):=by simpa[nf] using ag
  have q1:=ac4 hm pt;obtain⟨e,he⟩:∃e,e=k:=⟨k,rfl⟩;rw[←he] at q1⊢;refine J.exit I<|al.code<|J.aw 1 I<|ak I I<|U.next<|J.seq<|J.aw 1 I<|ak I I<|U.next<|J.block<|J.loop (G:=Nat×aN×Nat) (fun q=>[(5,.int .i64 ((N m):Nat)),(6,.slice (some ⟨Gd,0,none⟩) (N m) (N m)),(8,.slice q.2.1 ((List.range q.1).filter (nf (eo m (em m i) e))).length q.2.2),(9,.int .i64 (q.1:Nat))]) (fun q=>bF w [own 3 1 q.2.1 ((List.range q.1).filter (nf (eo m (em m i) e))).length q.2.2 (aA .i64 ((List.range q.1).filter (nf (eo m (em m i) e)))),aE Gd 4 (sD (N m) (nf (eo m (em m i) e)))]) (fun q=>q.1≤(N m)∧((List.range q.1).filter (nf (eo m (em m i) e))).length≤q.2.2) (fun q=>(N m)- q.1) (0,none,0) ⟨I,I,I,I,trivial⟩ (fun _ h=>h.iB 3 1) ⟨dg _,cq _⟩ ?_;rintro q ⟨aM,iH⟩;have js:=ad5 (nf (eo m (em m i) e)) q.1;refine J.seq<|J.aw 3 I<|ac I I<|ac I I<|cQ I I I I<|U.next ?_;refine J.test I (fun ag=>?_) (fun ag=>?_)
  ·refine J.skip<|al.code<|J.seq<|J.block<|J.aw 4 I<|ac I I<|ac I I<|eP q.1 I I I I (by omega)<|cm 1 I I I (abm (by omega))<|U.next ?_;refine J.cond I (fun cR=>?_) (fun cR=>?_)
   ·have dT:=aj2 cR;refine J.rg 5 I<|ac I I<|ac I I<|ja I I (cells:= #[.int .i64 (q.1:Nat)]) (by kernel_rfl) I aJ<|fun iv=>ma 1 I I I I (ys:=[.int .i64 (q.1:Nat)]) (fun w hw=>Has.gK ((hw.has (i:=0) I).kI (m:=1) I) I) I I (by omega) (by unfold maxLen;omega) (by omega) (fun _ _ _ _=>trivial)<|fun bw c2 cR=>ak rfl rfl<|U.end_<|al.aE<|al.code<|J.rg 3 rfl<|ac rfl rfl<|b1 rfl rfl rfl (r:=((q.1+1:Nat):Int)) (bm (by omega))<|ak rfl rfl<|U.end_ ?_;exact al.back (q.1+1,bw,c2) ⟨I,I,by rw[dT,ee];rfl,rfl,trivial⟩ (fun _ h=>by
     simp only[dT];rw[←Au,ee];exact h.pick [1,1] I) ⟨by simp only;omega,by simp only[dT];rw[ee];exact cR⟩ (by simp only;omega)
   ·have dT:=aju (p:=nf (eo m (em m i) e)) (k:=q.1) (by simp[cR]);exact J.skip<|al.aE<|al.code<|J.rg 3 I<|ac I I<|b1 I I I (r:=((q.1+1:Nat):Int)) (bm (by omega))<|ak I I<|U.end_<|al.back (q.1+1,q.2) ⟨I,I,by simp only[dT];rfl,rfl,trivial⟩ (fun _ h=>by simp only[dT];exact h) ⟨by simp only;omega,by simp only[dT];exact iH⟩ (by simp only;omega)
  ·have rf:q.1=(N m):=by omega
   rw[rf] at iH;rw[q1] at iH;exact J.exit I<|al.code<|J.aw 2 I<|ac I I<|ak I I<|U.next<|J.ret<|al.ret Tryz.results214 I (fun w hw=>⟨q.2,by rw[rf,q1];rfl,iH,by rw[rf,q1] at hw;exact hw.pick [0] I⟩)
end Go.Proofs.YtcgjepodnfjggaaGreatDoor
end
section
namespace Go.a6
open Go
def vH(l:ae):ByteArray:=strOfNums (l.map Int.ofNat)
theorem U2(l:ae):(vH l).data.toList=l.map UInt8.ofNat:=by
 unfold vH;rw[strOfNums_data,o9];rfl
theorem aqU{a b:ae}(aj:∀x∈a,x<256)(ad:∀x∈b,x<256)(h:vH a=vH b):a=b:=by
 have e:a.map UInt8.ofNat=b.map UInt8.ofNat:=by rw[←U2,←U2,h]
 have k:∀l:ae,(∀x∈l,x<256)→(l.map UInt8.ofNat).map UInt8.toNat=l:=fun l bc=>by
  rw[o9];conv=>rhs;rw[←Il l]
  exact m1 (fun x af=>by
   show(UInt8.ofNat x).toNat=x;rw[UInt8.toNat_ofNat'];exact ll (bc x af))
 rw[←k a aj,←k b ad,e]
theorem aqo{x y:ByteArray}(h:x.toList=y.toList):x=y:=by
 rw[ByteArray.toList_eq,ByteArray.toList_eq] at h;cases x;cases y;simp only[ByteArray.mk.injEq];exact Array.toList_inj.1 h
theorem aj3{a b:ae}(aj:∀x∈a,x<256)(ad:∀x∈b,x<256):((vH a).toList==(vH b).toList)=decide (a=b):=by
 by_cases h:a=b
 ·subst h;simp
 ·rw[df h];rw[beq_eq_false_iff_ne];exact fun e=>h (aqU aj ad (aqo e))
theorem ao7{P:a8}{w:ao}{T E D by_:Nat}{zv:aV}[cE:dN P T E 1 by_ zv](he:P.underlying E=some (.int .u8))(aW:P.underlying D=some .string){A:aN}{n c:Nat}{l:ae}(br:Has (aP 1 A n (aA .u8 l)) w):
  (convert T D (.slice A n c)).run P w=.ok (.string (vH l)) w:=by
 have sS:=kc br;by_cases aB:n=0
 ·subst aB;obtain rfl:=kS sS;cases A with
  |none=>exact run_convert_bytes_nil w T E cE.under he 0 c D aW
  |some a=>
   rw[run_convert_bytes_string w T D E _ 0 c cE.under he aW,run_bytesToString w a 0 c [] (by unfold loadCells loadCellsFrom;rfl)];rfl
 ·have bs:=br.yV aB;rw[bs];exact run_convert_bytes_arg w T E cE.under he _ _ n c (l.map Int.ofNat) (by simpa using sS) (fun i hi=>by
   have:=(br.xT aB (j:=i) (by rw[Ez (by omega)])).2;rw[this];simp[show i<l.length by omega]) D aW
section
variable{P:a8}{ops:Array Oper}{S:ao→Prop}{K:Act→ao→Prop}{p:eR}{n:Nat}{l:List (Nat×aV)}{C:ao→Prop}{fl:Bool}{i:Nat}{ty dr dk:aO}{x y:bf}
theorem X1{d E by_:Nat}{zv:aV}{A:aN}{m c:Nat}{b:ae}(av:cG ops n l i=some (some d,.convert ty dr x,dk))[dN P ty E 1 by_ zv](he:P.underlying E=some (.int .u8))(aW:P.underlying dr=some .string)(af:bk l x=some (.slice A m c))(br:∀w,C w→Has (aP 1 A m (aA .u8 b)) w)
  (h:U P ops S K p n ((d,.string (vH b))::l) C):U P ops S K (.bB false i p) n l C:=
 U.val av (fun a w o Ob _ aq aa _=>by simp only[execOp,aa,Ob.bk af,Sem.run_bind,ao7 (c:=c) he aW (br w (aq rfl)),Result.andThen_ok,Sem.run_pure]) h
theorem atW{d:Nat}{a b:ByteArray}{r:Bool}(av:cG ops n l i=some (some d,.binOp .eql ty x y dr,dk))(af:bk l x=some (.string a))(aF:bk l y=some (.string b))(aH:(a.toList==b.toList)=r)
  (h:U P ops S K p n ((d,.bool r)::l) C):U P ops S K (.bB fl i p) n l C:=
 U.pure av (fun e w o he aa _=>by
  subst aH;have Ju:∀(x y:bf) (v:aV),(eqGuard .eql ty x y (.string a) v).run P w=.ok () w:=fun x y v=>by simp[eqGuard]
  simp only[execOp,aa,he.bk af,he.bk aF,Sem.run_bind,Ju,binOp_string_eql,Result.andThen_ok,Sem.run_pure]) h
end
end Go.a6
end
section
namespace Go.Proofs.YtcgjepodnfjggaaGreatDoor
open Go Go.Lib Go.a6 Go.cv
set_option maxRecDepth 100000
theorem P2(A:aN)(n c:Nat)(p:ae)(bw:aN)(cD c2:Nat)(ay:ae)(w:ao)(aj:Has (aP 1 A n (aA .u8 p)) w)(aG:∀x∈p,x<256)(eU:Has (aP 1 bw cD (aA .u8 ay)) w)(fF:∀x∈ay,x<256):cC Tryz.prog 13 [.slice A n c,.slice bw cD c2] w (.bool (decide (p=ay))):=by
 exact b8 Tryz.func13 I Tryz.ntmps13 I<|J.aw 1 I<|ak I I<|U.bl 6 I<|ac I I<|X1 (b:=p) I (by kernel_rfl) (by kernel_rfl) I (fun w hw=>hw.a7 aj)<|ac I I<|X1 (b:=ay) I (by kernel_rfl) (by kernel_rfl) I (fun w hw=>hw.a7 eU)<|atW I I I (aj3 aG fF)<|ak I I<|U.next<|J.ret<|al.ret Tryz.results13 I (fun w hw=>⟨I,hw.nothing⟩)
def r1.vB(b:r1):aV:=.slice b.A b.l.length b.c
structure r1.p0(b:r1)(w:ao):Prop where
 has:Has (aP 1 b.A b.l.length (aA .u8 b.l)) w
 lt:∀x∈b.l,x<256
 bM:b.l.length≤1000000
 cap:b.l.length≤b.c
def zB(f:Nat→ae):Nat→ae
 |0=>[]
 |i+1=>cO (zB f i) (f i)
theorem ach{f g:Nat→ae}:∀{i:Nat},(∀j,j<i→f j=g j)→zB f i=zB g i
 |0,_=>rfl
 |i+1,h=>by
  show cO (zB f i) (f i)=cO (zB g i) (g i);rw[ach (i:=i) (fun j ax=>h j (by omega)),h i (by omega)]
def CI(f:Nat→ae):Nat→ae
 |0=>[]
 |i+1=>dZ (zB f (i+1))
theorem acm(f:Nat→ae):∀i,CI f i=dZ (zB f i)
 |0=>atE.symm
 |_+1=>rfl
def Yo(du:List r1)(i:Nat):ae:=bA (du.getD i ⟨none,0,[]⟩).l
def JQ(l:b3)(j:Nat):ae:=tg (l.getD j 0).toNat
theorem af0(l:b3)(j:Nat):cc (JQ l j):=qL _
structure zl(l:b3)(z:Nat×(aN×Nat)×List r1):Prop where
 le:z.1≤l.length
 axI:∀j,j<z.1→0≤l.getD j 0∧l.getD j 0≤2048
 len:z.2.2.length=z.1
 row:∀j,j<z.1→(z.2.2.reverse.getD j ⟨none,0,[]⟩).l=dZ (JQ l j)
 cap:∀b∈z.2.2,b.l.length≤b.c
 hM:∀b∈z.2.2,∃k,k≤2048∧b.l=dZ (tg k)
theorem zl.start(l:b3):zl l (0,(none,0),[]):=⟨Nat.zero_le _,fun j h=>by simp at h,rfl,fun j h=>by simp at h,fun b h=>by simp at h,fun b h=>by simp at h⟩
theorem zl.next{l:b3}{i k:Nat}{A bw:aN×Nat}{rs:List r1}{q:aN×Nat}(h:zl l (i,A,rs))(hi:i<l.length)(ah:l.getD i 0=(k:Nat))(jx:k≤2048)(aM:(dZ (tg k)).length≤q.2):zl l (i+1,bw,⟨q.1,q.2,dZ (tg k)⟩::rs):=by
 obtain⟨aa,ab,an,aK,bo,cd⟩:=h;simp only at aa ab an aK bo cd;refine⟨hi,fun j ax=>?_,by simp only[iG];omega,fun j ax=>?_,fun b ad=>?_,fun b ad=>?_⟩
 ·simp only at ax;by_cases h:j=i
  ·subst h;rw[ah];omega
  ·exact ab j (by omega)
 ·simp only at ax⊢;rw[List.reverse_cons,eM];by_cases h:j=i
  ·subst h;rw[mg (by simp;omega)];simp only[List.length_reverse,an,rL,List.getElem?_cons_zero,kg];unfold JQ;rw[ah];rfl
  ·rw[nE (by simp;omega),←eM];exact aK j (by omega)
 ·rcases ei.1 ad with rfl|ad
  ·exact aM
  ·exact bo b ad
 ·rcases ei.1 ad with rfl|ad
  ·exact⟨k,jx,I⟩
  ·exact cd b ad
theorem afn{f g:Nat→ae}{i:Nat}(h:∀j,j<i→f j=g j):CI f i=CI g i:=by rw[acm,acm,ach h]
theorem zl.done{l:b3}{A:aN×Nat}{rs:List r1}(h:zl l (l.length,A,rs)):CI (Yo rs.reverse) l.length=CI (JQ l) l.length:=
 afn (fun j ax=>by
  unfold Yo;rw[h.row j ax,FG (af0 l j)])
def CT(l:b3)(j:Nat):Nat:=if l.getD j 0=0 then 0 else 1
theorem R7(l:b3)(j:Nat):CT l j<2:=by unfold CT;split<;>omega
def zz(l:b3)(i:Nat):ae:=pl i (CT l)
theorem arJ(l:b3)(i j:Nat):ap (zz l i) j=if j<i then CT l j else 0:=jh _ _ _
theorem akY(l:b3)(i:Nat):cc (zz l i):=⟨kz (fun j=>Nat.lt_trans (R7 l j) (by decide)),fun j=>by rw[arJ];split;exact R7 l j;omega⟩
theorem arW(l:b3)(i:Nat):(zz l i).length≤i:=by
 unfold zz pl;rw[kY];simpa using lQ ((List.range i).map (CT l))
theorem ar1(x s t:Nat):((x|||2^s)>>>t)%2=if t=s then 1 else(x>>>t)%2:=by
 rw[ww,ww,RH,QU];by_cases h:t=s
 ·subst h;rw[aD rfl,ek rfl,Bool.or_true];rfl
 ·rw[az h,df (fun e=>h e.symm),NO]
theorem S3{L:ae}{i:Nat}(hi:i/ 8<L.length)(j:Nat):cz (L.set (i/ 8) (ap L (i/ 8)|||2^(i%8))) j=if j=i then 1 else cz L j:=by
 unfold cz;rw[uX hi];by_cases h:j/ 8=i/ 8
 ·rw[aD h,ar1,←h];by_cases ab:j=i
  ·subst ab;rw[aD rfl,aD rfl]
  ·rw[az (by omega),az ab]
 ·rw[az h,az (fun e=>h (by rw[e]))]
theorem afu{x s:Nat}(af:x<256)(aq:s<8):x|||2^s<256:=Nat.or_lt_two_pow (n:=8) af (Nat.pow_lt_pow_right (by omega) aq)
theorem Xf(L:ae)(j:Nat):cz (L++[0]) j=cz L j:=by
 have:ap (L++[0]) (j/ 8)=ap L (j/ 8):=by
  unfold ap;simp only[eM];by_cases h:j/ 8<L.length
  ·rw[nE h]
  ·rw[mg (by omega),iq (show L.length≤j/ 8 by omega)];by_cases ab:j/ 8- L.length=0
   ·rw[ab];rfl
   ·rw[iq (by simp;omega)]
 unfold cz;rw[this]
structure Eb(l:b3)(i:Nat)(L:ae):Prop where
 len:L.length≤i/ 8+1
 lt:∀x∈L,x<256
 bit:∀j,cz L j=cz (dZ (zz l i)) j
theorem Eb.start(l:b3)(i:Nat):Eb l i (dZ (zz l i)):=⟨by have:=CR (zz l i);have:=arW l i;omega,(QF (akY l i).le).lt,fun _=>rfl⟩
theorem Eb.next{l:b3}{i:Nat}{L:ae}(h:Eb l i L)(bc:L.length≤i/ 8):Eb l i (L++[0]):=⟨by simp;omega,fun x af=>by
 rcases hI.1 af with af|af
 ·exact h.lt x af
 ·simp at af;omega,fun j=>by rw[Xf,h.bit]⟩
structure yM(p q:ae)(z:ae×ae):Prop where
 aC:z.1.length=p.length+1
 h8:∀x∈z.1,x<256
 l2:z.2.length=p.length+1
 hX:∀x∈z.2,x<256
 le:(bA z.1).length≤(bA p).length
 lo:∀j,j+(bA q).length≤(bA z.1).length→ap (bA z.2) j=0
 eq:cO (cN 3 (bA z.2) (bA q)) (bA z.1)=bA p
theorem Tv(p:ae):bA (p++[0])=bA p:=(en _).cI.ext (en _).cI (fun j=>by rw[gV,gV,Xf])
theorem Xr(n:Nat):bA (List.replicate n 0)=[]:=(en _).cI.Yl (fun j=>by rw[gV,K3])
theorem aoG{p:ae}(h:∀x∈p,x<256):∀x∈p++[0],x<256:=fun x af=>by
 rcases hI.1 af with af|af
 ·exact h x af
 ·simp at af;omega
theorem yM.start{p:ae}(aG:∀x∈p,x<256)(q:ae):yM p q (p++[0],List.replicate (p.length+1) 0):=by
 refine⟨by simp,aoG aG,by simp,Zn _,by simp only;rw[Tv];exact cq _,fun j _=>by simp only;rw[Xr,lp],?_⟩;simp only;rw[Xr,sV,SP gn (en _).cI,Tv]
set_option maxHeartbeats 1600000 in
theorem yM.next{p q L Q k4:ae}{s:Nat}(h:yM p q (L,Q))(aB:(bA q).length≠0)(aq:s+(bA q).length=(bA L).length)(Gq:s/ 8<Q.length)
  (ab:k4.length=L.length∧(∀x∈k4,x<256)∧∀j,cz k4 j=cz L j^^^(if s≤j then cz (trim q) (j- s) else 0)):
  yM p q (k4,Q.set (s/ 8) (ap Q (s/ 8)|||2^(s%8)))∧(bA k4).length<(bA L).length:=by
 obtain⟨k1,k2,bx,cl,eG,kB,pZ⟩:=h;simp only at k1 k2 bx cl eG kB pZ;have aM:=en q;have bc:=en L;have hr:=en Q;have Zo:bA k4=cO (bA L) (eC s (bA q)):=(en _).cI.ext (iM bc (gR aM s)).cI (fun j=>by
  rw[gV,ab.2.2,ey,jM,gV];congr 1;split
  ·rw[←gV,uq]
  ·rfl)
 have aaC:bA (Q.set (s/ 8) (ap Q (s/ 8)|||2^(s%8)))=cO (bA Q) (tg s):=(en _).cI.ext (iM hr (qL s)).cI (fun j=>by
  rw[gV,S3 Gq,ey,Kz];by_cases ax:j=s
  ·subst ax;rw[aD rfl,aD rfl,kB j (by omega)];rfl
  ·rw[az ax,az ax,eS,gV])
 have hlen:(bA k4).length≤(bA L).length- 1:=sT (en k4).cI (fun j ax=>by
  rw[Zo,ey,jM];by_cases he:j=(bA L).length- 1
  ·subst he;rw[bc.jq (by omega),aD (by omega),show(bA L).length- 1- s=(bA q).length- 1 by omega,aM.jq aB];rfl
  ·rw[dD (l:=bA L) (by omega)];split
   ·rw[dD (by omega)];rfl
   ·rfl)
 refine⟨⟨by simp only;rw[ab.1,k1],ab.2.1,by simp only;rw[m9,bx],Ca cl (afu (fJ cl _) (fV _ (by omega))),by simp only;omega,fun j ax=>?_,?_⟩,by omega⟩
 ·simp only at ax⊢;rw[aaC,ey,Kz,az (by omega),kB j (by omega)];rfl
 ·simp only;rw[aaC,Zo,Bz gn hr.cI (qL s).cI aM.cI,vX gn (qL s).cI aM.cI,AH aM s,←pZ];refine(lu gn (lu gn (iS gn hr.cI aM.cI) (gR aM s).cI) (lu gn bc.cI (gR aM s).cI)).ext (lu gn (iS gn hr.cI aM.cI) bc.cI) (fun j=>?_);simp only[ey];generalize ap (cN 3 (bA Q) (bA q)) j=x;generalize ap (eC s (bA q)) j=y;generalize ap (bA L) j=z;rw[h5,oR z y,JL]
theorem UR{l:ae}(h:∀x∈l,x<256):trim l=dZ (bA l):=On h (en l) (fun j=>(gV l j).symm)
theorem yM.done{p q L Q:ae}(h:yM p q (L,Q))(aB:(bA q).length≠0)(bc:(bA L).length<(bA q).length):trim Q=dZ (mP 3 (bA p) (bA q))∧trim L=dZ (mV 3 (bA p) (bA q)):=by
 obtain⟨bu,bD⟩:=Pd gn (en p).cI (en q).cI aB (en Q).cI (en L).cI bc h.eq;exact⟨by rw[←bu];exact UR h.hX,by rw[←bD];exact UR h.h8⟩
end Go.Proofs.YtcgjepodnfjggaaGreatDoor
end
section
namespace Go.Proofs.YtcgjepodnfjggaaGreatDoor
open Go Go.a6 Go.cv
set_option maxRecDepth 100000
theorem _root_.Go.a6.Has.star{X:List bi}{A:bi}{w:ao}(h:Has (c1 X) w)(bs:A∈X):Has A w:=by
 obtain⟨D,aa,ab⟩:=h;have key:∀(X:List bi) (D:Nat→Prop),zm X w D→(∀k,D k→k<w.heap.size)→A∈X→Has A w:=by
  intro X;induction X with
  |nil=>intro D _ _ hm;cases hm
  |cons B X ih=>
   rintro D ⟨iI,iU,k1,k2,bx,cl⟩ ca hm;rcases ei.1 hm with rfl|hm
   ·exact⟨iI,k1,fun k ah=>ca k ((bx k).2 (.inl ah))⟩
   ·exact ih iU k2 (fun k ah=>ca k ((bx k).2 (.inr ah))) hm
 exact key X D aa ab bs
theorem _root_.Go.a6.au.NK{F:Nat→Prop}{w₀ w:ao}{X:List bi}(h:au F w₀ X w):au F w₀ (X++[c1 []]) w:=au.Av.1 (by rwa [List.append_nil])
theorem _root_.Go.a6.au.N8{F:Nat→Prop}{w₀ w:ao}{A:bi}{X Y:List bi}(h:au F w₀ (A::c1 X::Y) w):au F w₀ (c1 (A::X)::Y) w:=by
 have aa:au F w₀ (c1 X::(A::Y)) w:=h.perm (List.Perm.swap ..);have ab:=(au.star X).2 aa;exact(au.star (A::X)).1 (ab.perm C3)
def Bs(b:Nat):aV:=.slice (some ⟨b,0,none⟩) 2 2
def CN(m k:Nat):b3:=[((bY m (k:Int):Nat):Int),1]
def mE(m:Nat)(L:ae):b3:=L.map (fun k:Nat=>((bY m (k:Int):Nat):Int))
theorem amx{m:Nat}{L:ae}{i k:Nat}(h:L[i]?=some k):(mE m L).getD i 0=((bY m (k:Int):Nat):Int):=by
 unfold mE;rw[eM,jj,h];rfl
theorem alQ{m:Nat}(hm:Ok m):lo m 1=1:=hC (x:=1) (kC hm)
theorem ahN{m:Nat}(hm:Ok m){L:ae}{i k:Nat}(h:L[i]?=some k):cN m (trim (bz m ((iC m (mE m L) i).map Int.ofNat))) (trim (bz m (CN m k)))=iC m (mE m L) (i+1):=by
 have af:=hd hm (k:Int);have e:bz m (CN m k)=[bY m (k:Int),1]:=by show[lo m _,lo m 1]=_;rw[hC af,alQ hm]
 rw[(B5 hm _ i).low,e,(sB hm af).eq,←Ty hm,amx h,hC af]
theorem aft{m:Nat}(hm:Ok m)(i:Nat):iC m (mE m (cX m i)) (cX m i).length=gf m i:=by
 have h:=akt hm (mE m (cX m i));have bc:(mE m (cX m i)).length=(cX m i).length:=iK _;rw[bc] at h;rw[h];unfold gf;congr 1;unfold bz mE;rw[o9];exact m1 (fun k _=>hC (hd hm _))
theorem aqE(r g m:Nat)(A:aN)(n c:Nat)(du L:ae)(w:ao)(hm:Ok m)(aH:Has (uQ r g m) w)(av:Has (aP 1 A n (du.map Bs)) w)(ad:du.length=n)(cF:L.length=n)(aQ:n≤100)(ky:∀(i b k:Nat),du[i]?=some b→L[i]?=some k→Has (aP 1 (some ⟨b,0,none⟩) 2 (ints .i64 (CN m k))) w):pV Tryz.prog 136 [.slice A n c,.func (.func 138) #[.pointer (some ⟨r,0,none⟩)] #[]] w (iC m (mE m L) n):=by
 refine b8 Tryz.func136 I Tryz.ntmps136 I<|J.aw 1 I<|ak I I<|U.bl 2 I<|ja I I (cells:= #[.int .i64 1]) (by kernel_rfl) I aJ<|fun iv=>ak I I<|U.next<|J.seq<|J.aw 3 I<|ac I I<|cf I I<|ac I I<|U.next<|J.block<|J.loop (G:=Nat×aN×Nat) (fun q=>[(1,.func (.func 138) #[.pointer (some ⟨r,0,none⟩)] #[]),(5,.slice q.2.1 (iC m (mE m L) q.1).length q.2.2),(9,.slice A n c),(10,.int .i64 (n:Nat)),(11,.int .i64 (q.1:Nat))]) (fun q=>bF w [own 3 1 q.2.1 (iC m (mE m L) q.1).length q.2.2 (aA .i64 (iC m (mE m L) q.1))]) (fun q=>q.1≤n∧(iC m (mE m L) q.1).length≤q.2.2) (fun q=>n- q.1) (0,some ⟨iv,0,none⟩,1) ⟨I,I,I,I,I,trivial⟩ (fun _ h=>h.st (q:=0) (c:=1) I I (by unfold maxLen;omega)) ⟨dg _,cq _⟩ ?_;rintro q ⟨aM,iH⟩;have js:=E8 m (mE m L) q.1;have ZH:=B5 hm (mE m L) q.1;refine J.aw 1 I<|cQ I I I I<|U.next<|J.seq ?_;refine J.test I (fun ag=>?_) (fun ag=>?_)
 ·obtain⟨b,oC⟩:∃b,du[q.1]?=some b:=⟨_,eF (by omega)⟩;obtain⟨k,lc⟩:∃k,L[q.1]?=some k:=⟨_,eF (by omega)⟩;have qN:=ahN hm lc;have JR:(du.map Bs)[q.1*1]?=some (Bs b):=by rw[dJ,jj,oC];rfl
  have yB:=hd hm (k:Int);have axZ:(trim (bz m (CN m k))).length≤2:=by rw[kY];exact sW (lQ _) (by rw[sC];exact cq 2)
  have avp:(trim (bz m ((iC m (mE m L) q.1).map Int.ofNat))).length≤101:=by rw[ZH.low];omega
  refine J.skip<|al.code<|J.seq<|J.block<|J.aw 3 I<|fH q.1 (fun w hw=>hw.a7 av) I I I I (by omega)<|jN (fun w hw=>hw.a7 av) I I JR (by omega)<|ak I I<|U.next<|J.rg 8 I<|ac I I<|ac I I<|ac I I<|dh I I I I (fun w hw=>by have:=aeH r g m q.2.1 (iC m (mE m L) q.1).length q.2.2 ((iC m (mE m L) q.1).map Int.ofNat) (some ⟨b,0,none⟩) 2 2 (CN m k) w hm (hw.a7 aH) (by rw[←vl];exact(hw.has (i:=0) I).dw) (hw.a7 (ky _ _ _ oC lc)) (by omega) (by omega) (by omega);rw[qN] at this;exact this) aJ<|fun VY alJ=>ac I I<|cB I I I<|cB I I I<|ak I I<|U.end_<|al.aE<|al.code<|J.rg 2 I<|b1 I I I (r:=((q.1+1:Nat):Int)) (bm (by omega))<|ac I I<|U.end_ ?_;exact al.back (q.1+1,VY.1,VY.2) ⟨I,I,I,I,I,trivial⟩ (fun _ h=>h.pick [0] I) ⟨by simp only;omega,alJ⟩ (by simp only;omega)
 ·obtain⟨i,wm,vV⟩:=q;simp only at aM iH js ZH;have rf:i=n:=by simp only at ag;omega
  subst rf;exact J.exit I<|al.code<|J.aw 2 I<|ac I I<|ak I I<|U.next<|J.ret<|al.ret Tryz.results136 I (fun w hw=>⟨(wm,vV),I,iH,hw.pick [0] I⟩)
theorem ad6{F Q:ae}{n:Nat}(eH:∀j,ap F j<2)(aQ:n/ 8<Q.length)(h:∀j,cz Q j=if j<n then ap F j else 0)(j:Nat):cz (Q.set (n/ 8) (ap Q (n/ 8)|||ap F n*2^(n%8))) j=if j<n+1 then ap F j else 0:=by
 rcases(show ap F n=0∨ap F n=1 by have:=eH n;omega) with aB|aa
 ·rw[aB,jc,Nat.or_zero];have e:Q.set (n/ 8) (ap Q (n/ 8))=Q:=by
   apply jB;intro t;rw[rG];split
   ·rename_i bb;subst bb;first|rw[aD aQ,p7 aQ]|rw[p7 aQ]
   ·rfl
  rw[e,h];by_cases ax:j=n
  ·subst ax;rw[az (by omega),aD (by omega),aB]
  ·by_cases ab:j<n
   ·rw[aD ab,aD (by omega)]
   ·rw[az ab,az (by omega)]
 ·rw[aa,q3,S3 aQ,h];by_cases ax:j=n
  ·subst ax;rw[aD rfl,aD (by omega),aa]
  ·rw[az ax];by_cases ab:j<n
   ·rw[aD ab,aD (by omega)]
   ·rw[az ab,az (by omega)]
theorem af5{F Q:ae}(eH:cc F)(aB:F.length≠0)(bc:Q.length=(F.length- 1)/ 8+1)(aM:∀x∈Q,x<256)(h:∀j,cz Q j=if j<F.length then ap F j else 0):Q=dZ F:=by
 have e:=On aM eH (fun j=>by
  rw[h];split
  ·rfl
  ·exact(dD (by omega)).symm)
 rw[←e];refine(D5 ?_).symm;refine AE (lQ _) (nV fun ca=>?_);have aa:=zw Q (Q.length- 1) (by omega);have ab:=h (F.length- 1);rw[aD (by omega),eH.jq aB] at ab;unfold cz at ab;rw[show(F.length- 1)/ 8=Q.length- 1 by omega,aa] at ab;simp at ab
theorem Vq{a b n:Nat}(aj:a<256)(ad:b<2)(aQ:n<8):a|||b*2^n<256:=by
 refine Bb (n:=8) aj ?_;rcases(show b=0∨b=1 by omega) with rfl|rfl
 ·rw[jc];decide
 ·rw[q3];exact Wt (by omega) aQ
theorem afP{b n:Nat}(ad:b<2)(aQ:n<8):b*2^n<256:=by
 have:=Vq (a:=0) (by decide) ad aQ;rwa [Nat.zero_or] at this
theorem adX{Q:ae}{i x:Nat}(h:∀y∈Q,y<256)(af:x<256):∀y∈Q.set i x,y<256:=fun y aF=>by
 rcases u7 aF with aa|aa
 ·exact h y aa
 ·rw[aa];exact af
theorem aqt(n:Nat):List.replicate n (.int .u8 0)=aA .u8 (List.replicate n 0):=by simp[aA]
theorem afX(g m:Nat)(i:Int)(w:ao)(hm:Ok m)(aI:Has (fL g m) w):Vz Tryz.prog 95 [.pointer (some ⟨g,0,none⟩),.int .i64 i] w (dZ (gf m (em m i))):=by
 have kG:=hm.hi;have gL:=x8 hm (em m i);have ic:=L3 hm (em m i);have lV:=Bx hm (em m i);have afQ:=aft hm (em m i);refine b8 Tryz.func95 I Tryz.ntmps95 I<|J.aw 1 I<|ak I I<|U.bl 9 I<|ac I I<|bJ I I I I (fun w hw=>Tx g m w hm (hw.a7 aI)) aJ<|ac I I<|dh I I I I (fun w hw=>YH m i w hm) aJ<|fun A2 avZ=>ac I I<|cB I I I<|cB I I I<|ak I I<|ak I I<|U.bl 1 I<|ak I I<|U.next<|J.seq<|J.aw 3 I<|ac I I<|cf I I<|ac I I<|U.next<|J.block ?_;refine J.loop (G:=Nat×ae×List bi×aN×Nat) (fun q=>[(0,.pointer (some ⟨g,0,none⟩)),(5,.slice A2.1 (cX m (em m i)).length A2.2),(7,.slice q.2.2.2.1 q.1 q.2.2.2.2),(20,.slice A2.1 (cX m (em m i)).length A2.2),(21,.int .i64 ((cX m (em m i)).length:Nat)),(22,.int .i64 (q.1:Nat))]) (fun q=>bF w [own 25 1 q.2.2.2.1 q.1 q.2.2.2.2 (q.2.1.map Bs),c1 q.2.2.1,own 3 1 A2.1 (cX m (em m i)).length A2.2 (aA .i64 (cX m (em m i)))]) (fun q=>q.1≤(cX m (em m i)).length∧q.2.1.length=q.1∧∀(j b k:Nat),q.2.1[j]?=some b→(cX m (em m i))[j]?=some k→aE b 3 #[.int .i64 (bY m (k:Int):Nat),.int .i64 1]∈q.2.2.1) (fun q=>(cX m (em m i)).length- q.1) (0,[],[],none,0) ⟨I,I,I,I,I,I,trivial⟩ (fun _ h=>by
  have aa:=(h.iB 25 1).NK;exact aa.pick [0,1,0] I) ⟨dg _,I,fun j b k h=>by simp at h⟩ ?_
 rintro⟨j,du,X,KT,KQ⟩ ⟨ax,k7,ky⟩;simp only at ax k7 ky;dsimp only;refine J.aw 1 I<|cQ I I I I<|U.next<|J.seq ?_;refine J.test I (fun ag=>?_) (fun ag=>?_)
 ·have lc:=p7 (l:=(cX m (em m i))) (j:=j) (by omega);refine J.skip<|al.code<|J.seq<|J.block<|J.aw 3 I<|gT 2 j I I I I I (by omega)<|km 2 I I I (vW (by omega))<|ak I I<|U.next<|J.rg 8 I<|ac I I<|ac I I<|ac I I<|bJ I I I I (fun w hw=>E2 g m _ w hm (hw.a7 aI)) aJ<|ja I I (cells:= #[.int .i64 (ex m (em m (ap (cX m (em m i)) j:Nat)):Nat),.int .i64 1]) (by kernel_rfl) I aJ<|fun qY=>ja I I (cells:= #[Bs qY]) (by kernel_rfl) I aJ<|fun axO=>ma 2 I I I I (ys:=[Bs qY]) (fun w hw=>Has.gK ((hw.has (i:=0) I).kI (m:=1) I) I) I I (by omega) (by unfold maxLen;omega) (by omega) (fun _ _ _ _=>trivial)<|fun bw c2 cR=>ak rfl rfl<|U.end_<|al.aE<|al.code<|J.rg 2 rfl<|b1 rfl rfl rfl (r:=((j+1:Nat):Int)) (bm (by omega))<|ac rfl rfl<|U.end_ ?_;exact al.back (j+1,du++[qY],aE qY 3 #[.int .i64 (bY m (ap (cX m (em m i)) j:Int):Nat),.int .i64 1]::X,bw,c2) ⟨I,I,I,I,I,I,trivial⟩ (fun _ h=>by
   have aa:=h.pick [1,2,1,1] rfl;have ab:=aa.N8;simp only[n3,hW,lm];exact ab.pick [1,0,0] I) ⟨by simp only;omega,by simp only[ee,ol];omega,fun t b k aa ab=>by
   simp only at aa⊢;by_cases bb:t<j
   ·rw[nE (by omega)] at aa;exact eQ _ (ky t b k aa ab)
   ·have BJ:=(j6.1 aa).1;rw[ee,ol] at BJ;obtain rfl:t=j:=by omega
    rw[mg (by omega),k7,rL] at aa;rw[lc] at ab;obtain rfl:=er aa;obtain rfl:=er ab;exact fX ..⟩ (by simp only;omega)
 ·have afk:j=(cX m (em m i)).length:=by omega
  subst afk;refine J.exit I<|al.code<|J.aw 6 I<|ac I I<|cf I I<|mM I I I (by omega) (ov _ (by omega))<|b1 I I I (r:=((((cX m (em m i)).length/ 8+1):Nat):Int)) (bm (by omega))<|lP ((cX m (em m i)).length/ 8+1) I I I I I (by omega) aJ<|fun hY=>U.pre (fun _ h=>h.st (q:=0) (c:=((cX m (em m i)).length/ 8+1)) (sz:=1) I (by simp) (by unfold maxLen;omega))<|ak rfl rfl<|U.next<|J.seq<|J.aw 7 rfl<|ac rfl rfl<|ac rfl rfl<|dh rfl rfl rfl rfl (fun w hw=>GC g w) aJ<|fun r _=>oo rfl rfl rfl<|dh rfl rfl rfl rfl (fun w hw=>by have:=aqE r g m KT (cX m (em m i)).length KQ du (cX m (em m i)) w hm (Jc (hw.a7 aI) (hw.has (i:=0) rfl)) ((hw.has (i:=2) rfl).dw) k7 rfl (by omega) (fun t b k aa ab=>Has.gK (((Has.star (hw.has (i:=3) rfl) (ky t b k aa ab))).kI (m:=2) rfl) rfl);rw[afQ] at this;exact this) aJ<|fun IE avT=>cf I I<|ac I I<|U.next<|J.block ?_;refine J.loop (G:=Nat×ae) (fun q=>[(10,.slice (some ⟨hY,0,none⟩) ((cX m (em m i)).length/ 8+1) ((cX m (em m i)).length/ 8+1)),(43,.slice IE.1 (gf m (em m i)).length IE.2),(44,.int .i64 ((gf m (em m i)).length:Nat)),(45,.int .i64 (q.1:Nat))]) (fun q=>bF w [own 3 1 IE.1 (gf m (em m i)).length IE.2 (aA .i64 (gf m (em m i))),own 5 1 (some ⟨hY,0,none⟩) ((cX m (em m i)).length/ 8+1) ((cX m (em m i)).length/ 8+1) (aA .u8 q.2)]) (fun q=>q.1≤(gf m (em m i)).length∧q.2.length=((cX m (em m i)).length/ 8+1)∧(∀x∈q.2,x<256)∧∀j,cz q.2 j=if j<q.1 then ap (gf m (em m i)) j else 0) (fun q=>(gf m (em m i)).length- q.1) (0,List.replicate ((cX m (em m i)).length/ 8+1) 0) ⟨I,I,I,I,trivial⟩ (fun _ h=>by
   have aa:=h.pick [0,1] rfl;simp only[aqt] at aa⊢;exact aa) ⟨dg _,jI,fun x af=>by rw[(BR.1 af).2];decide,fun j=>by rw[K3,az (Je _)]⟩ ?_
  rintro⟨n,Q⟩ ⟨aQ,v7,hr,C7⟩;simp only at aQ v7 hr C7;dsimp only;have nF:=lV.le n;have tA:=fV n (show 0<8 by omega);refine J.aw 1 I<|cQ I I I I<|U.next<|J.seq ?_;refine J.test I (fun ag=>?_) (fun ag=>?_)
  ·have iH:=fJ hr (n/ 8);have wx:=afP nF tA;have ad2:=Vq iH nF tA;have xh:=ad6 (Q:=Q) (n:=n) lV.le (by omega) C7;exact J.skip<|al.code<|J.seq<|J.block<|J.aw 5 I<|ac I I<|gT 0 n I I I I I (by omega)<|km 0 I I I (vW (by omega))<|ak I I<|ak I I<|U.next<|J.dQ (bW [0,1,2,3,5,6,7,8,9] (cj [4] (bW [10,11] (cj [12] .done)))) (bF w []) mixed (by kernel_rfl) (fun _ h=>h.drew) (fun _ h=>h.pick [] I)<|ac I I<|ac I I<|mM I I I (by omega) (ov n (by omega))<|gT 1 (n/ 8) I I I I I (by omega)<|ac I I<|gW I I (r:=((ap (gf m (em m i)) n:Nat):Int)) (aj5 (by omega))<|ac I I<|h4 I I I (by omega) (pv n)<|ir I I I (by omega) (r:=((ap (gf m (em m i)) n*2^(n%8):Nat):Int)) (by rw[pG (by omega),ll wx])<|km 1 I I I (jk (by omega))<|dY I I I I (Ex iH wx)<|gT 1 (n/ 8) I I I I I (by omega)<|pw 1 I I I I I (by omega) (fun _ h=>h.pick [] I)<|U.end_<|al.aE<|al.code<|J.rg 2 I<|b1 I I I (r:=((n+1:Nat):Int)) (bm (by omega))<|ac I I<|U.end_<|al.back (n+1,Q.set (n/ 8) (ap Q (n/ 8)|||ap (gf m (em m i)) n*2^(n%8))) ⟨I,I,I,I,trivial⟩ (fun _ h=>by simp only;rw[←xC];exact h) ⟨by simp only;omega,by simp only[m9];exact v7,adX hr ad2,xh⟩ (by simp only;omega)
  ·have e7:n=(gf m (em m i)).length:=by omega
   subst e7;have qU:=af5 lV (by omega) (by omega) hr C7;exact J.exit I<|al.code<|J.aw 2 I<|ac I I<|ak I I<|U.next<|J.ret<|al.ret Tryz.results95 I (fun w hw=>⟨(some ⟨hY,0,none⟩,((cX m (em m i)).length/ 8+1)),by rw[←qU,v7];rfl,by rw[←qU,v7];exact cq _,by rw[←qU,v7];exact hw.pick [1] I⟩)
end Go.Proofs.YtcgjepodnfjggaaGreatDoor
end
section
namespace Go.Proofs.YtcgjepodnfjggaaGreatDoor
open Go Go.Lib Go.a6 Go.cv
set_option maxRecDepth 100000
structure aw6(a b:ae)(q:ae×ae×(aN×Nat)×(aN×Nat)):Prop where
 aa:cc q.1
 ab:cc q.2.1
 aC:q.1.length≤8000000
 l2:q.2.1.length≤8000000
 dO:(dZ q.1).length≤q.2.2.1.2
 c2:(dZ q.2.1).length≤q.2.2.2.2
 eq:rK 3 q.1 q.2.1=rK 3 a b
theorem KC{b:ae}(ad:cc b):∀x∈dZ b,x<256:=(QF ad.le).lt
theorem atw(x z:Nat)(w:ao)(af:x<256)(aL:pop8 (x:Int)=(z:Nat))(axS:z≤8):cC Tryz.prog 112 [.int .u8 (x:Nat)] w (.int .i64 (z:Nat)):=by
 exact b8 Tryz.func112 I Tryz.ntmps112 I<|J.aw 1 I<|ak I I<|U.bl 4 I<|ac I I<|aps I (by kernel_rfl) (by kernel_rfl) I (by omega) (by omega) aL<|gW I I (bm (by omega))<|ak I I<|U.next<|J.ret<|al.ret Tryz.results112 I (fun w hw=>⟨I,hw.nothing⟩)
end Go.Proofs.YtcgjepodnfjggaaGreatDoor
end
section
namespace Go.Proofs.YtcgjepodnfjggaaGreatDoor
open Go Go.a6 Go.cv
set_option maxRecDepth 100000
theorem apH{m:Nat}(n:Nat):cX m (em m (n:Int))=cX m n:=by rw[yp,adP]
theorem aly(m i:Nat):ap (cX m i) 0=mC m i:=by unfold mC ap;cases cX m i<;>rfl
theorem asv{m k:Nat}(h:mC m (2*k+1)∈(b0 m k).1):b0 m (k+1)=b0 m k:=if_pos h
theorem asC{m k:Nat}(h:mC m (2*k+1)∉(b0 m k).1):b0 m (k+1)=((b0 m k).1++[mC m (2*k+1)],(b0 m k).2+(cX m (2*k+1)).length):=if_neg h
theorem aln(L:ae)(x:Nat):ints .i64 (L.map Int.ofNat)++[.int .i64 (x:Nat)]=ints .i64 ((L++[x]).map Int.ofNat):=by simp[ints]
def xL(a b c:aV):aV:=.tuple #[a,b,c]
theorem ZP(m t:Nat)(_e:Nat→Addr)(w:ao)(hm:Ok m)(aa:1≤t)(vL:t≤40)(aW:(b0 m t).2<N m):fh Tryz.prog 92 [.int .i64 (m:Nat),.int .i64 (t:Nat)] w (X:=aN×Nat) (fun q=>xL (.slice q.1 (b0 m t).1.length q.2) (.int .i64 ((b0 m t).2:Nat)) .nilIface) (fun q=>(b0 m t).1.length≤q.2) (fun q=>[own 3 1 q.1 (b0 m t).1.length q.2 (ints .i64 ((b0 m t).1.map Int.ofNat))]):=by
 have Al:=kZ m;have V1:=gS hm;have kG:=hm.hi;have Kn:=Ub hm;refine b8 Tryz.func92 I Tryz.ntmps92 I<|J.aw 3 I<|ak I I<|ak I I<|ak I I<|U.next<|J.seq<|J.block<|J.aw 4 I<|ac I I<|bJ I I I I (fun w hw=>aaR _ w) aJ<|gy I I I (df Kn)<|ak I I<|U.next<|J.dy I<|J.aw 7 I<|ac I I<|cQ I I I (df (by omega))<|ac I I<|ac I I<|fD I I I (df (by omega))<|ef I I I<|ak I I<|U.next<|J.dy I<|J.skip<|al.aE<|al.code<|J.aw 1 I<|ak I I<|U.bl 1 I<|ak I I<|U.next<|J.seq<|J.aw 1 I<|ak I I<|U.next<|J.block<|J.loop (G:=Nat×aN×Nat) (fun q=>[(0,.int .i64 (m:Nat)),(1,.int .i64 (t:Nat)),(7,.slice q.2.1 (b0 m q.1).1.length q.2.2),(8,.int .i64 ((b0 m q.1).2:Nat)),(9,.int .i64 ((2*q.1+1:Nat):Int))]) (fun q=>bF w [own 3 1 q.2.1 (b0 m q.1).1.length q.2.2 (ints .i64 ((b0 m q.1).1.map Int.ofNat))]) (fun q=>q.1≤t∧(b0 m q.1).1.length≤q.2.2) (fun q=>t- q.1) (0,none,0) ⟨I,I,I,I,I,trivial⟩ (fun _ h=>h.iB 3 1) ⟨dg _,cq _⟩ ?_;rintro⟨k,wm,vV⟩ ⟨ah,iH⟩;simp only at ah iH;dsimp only;have mI:=SF (m:=m) k;have ZG:=Mr hm k;have kv:=yg kG ah;have au0:=apH (m:=m) (2*k+1);have gL:=x8 hm (2*k+1);have Na:=aly m (2*k+1);refine J.seq<|J.aw 4 I<|ac I I<|ac I I<|jE I I I (r:=((2*t:Nat):Int)) (by rw[show(2:Int)*((t:Nat):Int)=((2*t:Nat):Int) by omega];exact bm (by omega))<|cQ I I I I<|U.next ?_;refine J.test I (fun ag=>?_) (fun ag=>?_)
 ·refine J.skip<|al.code<|J.seq<|J.block<|J.aw 8 I<|ac I I<|ac I I<|dh I I I I (fun w hw=>by have:=YH m ((2*k+1:Nat):Int) w hm;rw[au0] at this;exact this) aJ<|fun axV av1=>ac I I<|cB I I I<|cB I I I<|ak I I<|ak I I<|U.next<|J.seq<|J.aw 2 I<|ac I I<|jl I I<|U.next<|J.dy I<|J.skip<|al.code<|J.aw 6 I<|ac I I<|ac I I<|gT 0 0 I I I I I (by omega)<|km 0 I I I (vW (by omega))<|bJ I I I I (v:=.bool (decide (ap (cX m (2*k+1)) 0∈(b0 m k).1))) (fun w hw=>by have:=abC wm (b0 m k).1.length vV ((b0 m k).1.map Int.ofNat) (ap (cX m (2*k+1)) 0:Nat) w ((hw.has (i:=1) I).dw) (by omega);rw[pu.2 Ui] at this;exact this) aJ<|ls I I<|U.next ?_;refine J.cond I (fun ag=>?_) (fun ag=>?_)
  ·have ga:mC m (2*k+1)∉(b0 m k).1:=by rw[←Na];simpa using ag
   have dT:=asC ga;refine J.aw 7 I<|ac I I<|ac I I<|gT 0 0 I I I I I (by omega)<|km 0 I I I (vW (by omega))<|ja I I (cells:= #[.int .i64 (ap (cX m (2*k+1)) 0:Nat)]) (by kernel_rfl) I aJ<|fun iv=>ma 2 I I I I (ys:=[.int .i64 (ap (cX m (2*k+1)) 0:Nat)]) (fun w hw=>Has.gK ((hw.has (i:=0) I).kI (m:=1) I) I) I I (by omega) (by unfold maxLen;omega) (by omega) (fun _ _ _ _=>trivial)<|fun bw c2 cR=>ak rfl rfl<|U.next<|J.rg 5 rfl<|ac rfl rfl<|ac rfl rfl<|cf rfl rfl<|b1 rfl rfl rfl (r:=(((b0 m k).2+(cX m (2*k+1)).length:Nat):Int)) (bm (by omega))<|ak rfl rfl<|U.end_<|al.aE<|al.code<|J.rg 3 rfl<|ac rfl rfl<|b1 rfl rfl rfl (r:=((2*(k+1)+1:Nat):Int)) (by rw[show((2*k+1:Nat):Int)+2=((2*(k+1)+1:Nat):Int) by omega];exact bm (by omega))<|ak I I<|U.end_ ?_;exact al.back (k+1,bw,c2) ⟨I,I,by simp only[dT,ee];rfl,by simp only[dT];rfl,rfl,trivial⟩ (fun _ h=>by
    have aa:=h.pick [2] rfl;simp only[dT,ee,ol];rw[aln,Na] at aa;exact aa) ⟨by simp only;omega,by simp only[dT,ee,ol];exact cR⟩ (by simp only;omega)
  ·have pt:mC m (2*k+1)∈(b0 m k).1:=by rw[←Na];simpa using ag
   have dT:=asv pt;exact J.skip<|al.aE<|al.code<|J.rg 3 I<|ac I I<|b1 I I I (r:=((2*(k+1)+1:Nat):Int)) (by rw[show((2*k+1:Nat):Int)+2=((2*(k+1)+1:Nat):Int) by omega];exact bm (by omega))<|ak I I<|U.end_<|al.back (k+1,wm,vV) ⟨I,I,by simp only[dT];rfl,by simp only[dT];rfl,rfl,trivial⟩ (fun _ h=>by simp only[dT];exact h.pick [1] I) ⟨by simp only;omega,by simp only[dT];exact iH⟩ (by simp only;omega)
 ·have Mc:k=t:=by omega
  subst Mc;exact J.exit I<|al.code<|J.seq<|J.aw 5 I<|ac I I<|ac I I<|ir I I I (by omega) (tO hm)<|eB I I I (r:=(((N m):Nat):Int)) (by rw[show(((N m)+1:Nat):Int)- 1=(((N m):Nat):Int) by omega];exact bm (by omega))<|jz I I I (df (by omega))<|U.next<|J.dy I<|J.skip<|al.code<|J.aw 5 I<|ac I I<|ac I I<|ak I I<|ak I I<|ak I I<|U.next<|J.ret<|al.ret Tryz.results92 I (fun w hw=>⟨(wm,vV),I,iH,hw⟩)
theorem arT(m t:Nat)(e:Nat→Addr)(w:ao)(hm:Ok m)(aa:1≤t)(vL:t≤40)(aW:(b0 m t).2<N m):cC Tryz.prog 52 [.int .i64 (m:Nat),.int .i64 (t:Nat)] w (two (.int .i64 ((b0 m t).2:Nat)) .nilIface):=by
 exact b8 Tryz.func52 I Tryz.ntmps52 I<|J.aw 2 I<|ak I I<|ak I I<|U.bl 10 I<|ac I I<|ac I I<|dh I I I I (fun w hw=>ZP m t e w hm aa vL aW) aJ<|fun q aM=>ac I I<|cB I I I<|cB I I I<|cB I I I<|ak I I<|ak I I<|ak I I<|U.bl 4 I<|ac I I<|ac I I<|ak I I<|ak I I<|U.next<|J.ret<|al.ret Tryz.results52 I (fun w hw=>⟨I,hw.nothing⟩)
def wb(m:Nat)(q:(aN×Nat)×Nat):aV:=.slice q.1.1 (dZ (gf m q.2)).length q.1.2
theorem ap5{m:Nat}(hm:Ok m){L:ae}{i k:Nat}(h:L[i]?=some k):cK m (L.take (i+1))=cN 3 (cK m (L.take i)) (gf m k):=by
 rw[pN,h];exact Gf hm _ _
theorem RU:dZ [1]=[1]:=by decide+kernel
theorem anX(m:Nat)(A:aN)(n c:Nat)(fp:List ((aN×Nat)×Nat))(w:ao)(hm:Ok m)(av:Has (aP 1 A n (fp.map (wb m))) w)(ad:fp.length=n)(aQ:n≤40)(k8:∀q∈fp,(dZ (gf m q.2)).length≤q.1.2)(ky:∀q∈fp,Has (aP 1 q.1.1 (dZ (gf m q.2)).length (aA .u8 (dZ (gf m q.2)))) w):fh Tryz.prog 96 [.slice A n c,.func (.func 97) #[] #[]] w (X:=aN×Nat) (fun q=>two (.slice q.1 (dZ (cK m ((fp.map (·.2)).take n))).length q.2) .nilIface) (fun q=>(dZ (cK m ((fp.map (·.2)).take n))).length≤q.2) (fun q=>[own 5 1 q.1 (dZ (cK m ((fp.map (·.2)).take n))).length q.2 (aA .u8 (dZ (cK m ((fp.map (·.2)).take n))))]):=by
 have kG:=hm.hi;refine b8 Tryz.func96 I Tryz.ntmps96 I<|J.aw 2 I<|ak I I<|ak I I<|U.bl 2 I<|ja I I (cells:= #[.int .u8 1]) (by kernel_rfl) I aJ<|fun iv=>ak I I<|U.bl 1 I<|ak I I<|U.next<|J.seq<|J.aw 3 I<|ac I I<|cf I I<|ac I I<|U.next<|J.block ?_;refine J.loop (G:=Nat×aN×Nat) (fun q=>[(1,.func (.func 97) #[] #[]),(6,.slice q.2.1 (dZ (cK m ((fp.map (·.2)).take q.1))).length q.2.2),(11,.slice A n c),(12,.int .i64 (n:Nat)),(13,.int .i64 (q.1:Nat))]) (fun q=>bF w [own 5 1 q.2.1 (dZ (cK m ((fp.map (·.2)).take q.1))).length q.2.2 (aA .u8 (dZ (cK m ((fp.map (·.2)).take q.1))))]) (fun q=>q.1≤n∧(dZ (cK m ((fp.map (·.2)).take q.1))).length≤q.2.2) (fun q=>n- q.1) (0,some ⟨iv,0,none⟩,1) ⟨I,by rw[show dZ (cK m ((fp.map (·.2)).take 0))=[1] from RU];rfl,rfl,rfl,rfl,trivial⟩ (fun _ h=>by
  have aa:=h.st (q:=0) (c:=1) (sz:=1) rfl rfl (by unfold maxLen;omega);have e:dZ (cK m ((fp.map (·.2)).take 0))=[1]:=RU;simp only[e];exact aa) ⟨dg _,by rw[show dZ (cK m ((fp.map (·.2)).take 0))=[1] from RU];exact cq _⟩ ?_
 rintro⟨i,wm,vV⟩ ⟨hi,iH⟩;simp only at hi iH;dsimp only;have ri:=BB hm ((fp.map (·.2)).take i);have rM:=M8 hm ((fp.map (·.2)).take i);have nZ:=apd hm ((fp.map (·.2)).take i);have nd:((fp.map (·.2)).take i).length≤40:=by rw[fW,iK];omega
 have F3:=yg kG nd;have k7:=CR (cK m ((fp.map (·.2)).take i));refine J.aw 1 I<|cQ I I I I<|U.next<|J.seq ?_;refine J.test I (fun ag=>?_) (fun ag=>?_)
 ·obtain⟨z,Pw⟩:∃z,fp[i]?=some z:=⟨_,eF (by omega)⟩;have Xx:=iF Pw;have lc:(fp.map (·.2))[i]?=some z.2:=by rw[jj,Pw];rfl
  have PM:=ap5 hm lc;have JR:(fp.map (wb m))[i*1]?=some (wb m z):=by rw[dJ,jj,Pw];rfl
  have AP:=Bx hm z.2;have ic:=L3 hm z.2;have gr:=x8 hm z.2;have oQ:=CR (gf m z.2);generalize cK m ((fp.map (·.2)).take i)=G at ri rM nZ k7 PM iH⊢;generalize hr:gf m z.2=Q at PM AP ic oQ;have pR:=k8 z Xx;have Zm:=ky z Xx;have apm:wb m z=.slice z.1.1 (dZ Q).length z.1.2:=by unfold wb;rw[hr]
  rw[hr] at pR Zm;rw[apm] at JR;refine J.skip<|al.code<|J.seq<|J.block<|J.aw 3 I<|fH i (fun w hw=>hw.a7 av) I I I I (by omega)<|jN (fun w hw=>hw.a7 av) I I JR (by omega)<|ak I I<|U.bl 9 I<|ac I I<|ac I I<|ac I I<|dh I I I I (fun w hw=>by have:=aoA wm (dZ G).length vV (dZ G) z.1.1 (dZ Q).length z.1.2 (dZ Q) w ((hw.has (i:=0) I).dw) (KC ri) (by omega) iH (hw.a7 Zm) (KC AP) (by omega) pR (by rw[FG ri,FG AP];omega);rw[FG ri,FG AP,←PM] at this;exact this) aJ<|fun Su ajH=>ac I I<|cB I I I<|cB I I I<|ak I I<|ak I I<|U.bl 2 I<|ac I I<|jl I I<|U.next<|J.dy I<|J.skip<|al.aE<|al.code<|J.rg 2 I<|b1 I I I (r:=((i+1:Nat):Int)) (bm (by omega))<|ac I I<|U.end_ ?_;exact al.back (i+1,Su.1,Su.2) ⟨I,I,I,I,I,trivial⟩ (fun _ h=>h.pick [0] I) ⟨by simp only;omega,ajH⟩ (by simp only;omega)
 ·have Mn:i=n:=by omega
  subst Mn;exact J.exit I<|al.code<|J.aw 3 I<|ac I I<|ak I I<|ak I I<|U.next<|J.ret<|al.ret Tryz.results96 I (fun w hw=>⟨(wm,vV),I,iH,hw.pick [0] I⟩)
theorem aqn{m:Nat}(hm:Ok m){t x:Nat}(af:x∈(b0 m t).1):x<N m:=by
 obtain⟨j,_,e⟩:=amv hm af;rw[e];exact afV hm (abw hm _)
theorem adj{m k:Nat}(h:k<N m):em m (k:Int)=k:=by rw[yp,Nat.mod_eq_of_lt h]
theorem arh(g m t:Nat)(e:Nat→Addr)(w:ao)(hm:Ok m)(aI:Has (fL g m) w)(aa:1≤t)(vL:t≤40)(aW:(b0 m t).2<N m):fh Tryz.prog 54 [.pointer (some ⟨g,0,none⟩),.int .i64 (t:Nat)] w (X:=aN×Nat) (fun q=>two (.slice q.1 (dZ (cK m (b0 m t).1)).length q.2) .nilIface) (fun q=>(dZ (cK m (b0 m t).1)).length≤q.2) (fun q=>[own 5 1 q.1 (dZ (cK m (b0 m t).1)).length q.2 (aA .u8 (dZ (cK m (b0 m t).1)))]):=by
 have mI:=SF (m:=m) t;have kG:=hm.hi;refine b8 Tryz.func54 I Tryz.ntmps54 I<|J.aw 2 I<|ak I I<|ak I I<|U.bl 11 I<|ac I I<|bJ I I I I (fun w hw=>Tx g m w hm (hw.a7 aI)) aJ<|ac I I<|dh I I I I (fun w hw=>ZP m t e w hm aa vL aW) aJ<|fun IH awI=>ac I I<|cB I I I<|cB I I I<|cB I I I<|ak I I<|ak I I<|ak I I<|U.next<|J.seq<|J.aw 2 I<|ac I I<|jl I I<|U.next<|J.dy I<|J.skip<|al.code<|J.aw 1 I<|ak I I<|U.next<|J.seq<|J.aw 3 I<|ac I I<|cf I I<|ac I I<|U.next<|J.block ?_;refine J.loop (G:=Nat×List ((aN×Nat)×Nat)×List bi×aN×Nat) (fun q=>[(0,.pointer (some ⟨g,0,none⟩)),(9,.slice q.2.2.2.1 q.1 q.2.2.2.2),(23,.slice IH.1 (b0 m t).1.length IH.2),(24,.int .i64 ((b0 m t).1.length:Nat)),(25,.int .i64 (q.1:Nat))]) (fun q=>bF w [own 137 1 q.2.2.2.1 q.1 q.2.2.2.2 (q.2.1.map (wb m)),c1 q.2.2.1,own 3 1 IH.1 (b0 m t).1.length IH.2 (ints .i64 ((b0 m t).1.map Int.ofNat))]) (fun q=>q.1≤(b0 m t).1.length∧q.2.1.length=q.1∧q.2.1.map (·.2)=(b0 m t).1.take q.1∧(∀z∈q.2.1,(dZ (gf m z.2)).length≤z.1.2)∧∀z∈q.2.1,own 5 1 z.1.1 (dZ (gf m z.2)).length z.1.2 (aA .u8 (dZ (gf m z.2)))∈q.2.2.1) (fun q=>(b0 m t).1.length- q.1) (0,[],[],none,0) ⟨I,I,I,I,I,trivial⟩ (fun _ h=>by
  have aa:=(h.iB 137 1).NK;exact aa.pick [0,1,0] I) ⟨dg _,I,I,(fun z aL=>by cases aL),(fun z aL=>by cases aL)⟩ ?_
 rintro⟨i,fp,X,KT,KQ⟩ ⟨hi,s3,PE,iH,OL⟩;simp only at hi s3 PE iH OL;dsimp only;refine J.aw 1 I<|cQ I I I I<|U.next<|J.seq ?_;refine J.test I (fun ag=>?_) (fun ag=>?_)
 ·have lc:=p7 (l:=(b0 m t).1) (j:=i) (by omega);have nC:=aqn hm (iF lc);have Mc:=adj nC;refine J.skip<|al.code<|J.seq<|J.block<|J.aw 3 I<|gT 2 i I I I I I (by omega)<|km 2 I I I (v:=.int .i64 (ap (b0 m t).1 i:Nat)) (by rw[←vl];exact vW (by omega))<|ak I I<|U.next<|J.rg 7 I<|ac I I<|ac I I<|ac I I<|dh I I I I (fun w hw=>by have:=afX g m (ap (b0 m t).1 i:Nat) w hm (hw.a7 aI);rw[Mc] at this;exact this) aJ (fun EL afG=>?_);refine ja I I (cells:= #[wb m (EL,ap (b0 m t).1 i)]) (by kernel_rfl) I aJ (fun awU=>?_);refine ma 2 I I I I (ys:=[wb m (EL,ap (b0 m t).1 i)]) (fun w hw=>Has.gK ((hw.has (i:=0) I).kI (m:=1) I) I) I I (by omega) (by unfold maxLen;omega) (by omega) (fun _ _ _ _=>trivial) (fun bw c2 cR=>?_);refine ak I I<|U.end_<|al.aE<|al.code<|J.rg 2 I<|b1 I I I (r:=((i+1:Nat):Int)) (bm (by omega))<|ac I I<|U.end_ ?_;exact al.back (i+1,fp++[(EL,ap (b0 m t).1 i)],own 5 1 EL.1 (dZ (gf m (ap (b0 m t).1 i))).length EL.2 (aA .u8 (dZ (gf m (ap (b0 m t).1 i))))::X,bw,c2) ⟨I,I,I,I,I,trivial⟩ (fun _ h=>by
   have aa:=h.pick [1,2,1,1] rfl;have ab:=aa.N8;simp only[n3,hW,lm];exact ab.pick [1,0,0] I) ⟨by simp only;omega,by simp only[ee,ol];omega,by
   simp only[n3,hW,lm];rw[pN,lc,PE];rfl,fun z aL=>by
   rcases hI.1 aL with h|h
   ·exact iH z h
   ·rw[hK.1 h];exact afG,fun z aL=>by
   rcases hI.1 aL with h|h
   ·exact eQ _ (OL z h)
   ·rw[hK.1 h];exact fX ..⟩ (by simp only;omega)
 ·have Mn:i=(b0 m t).1.length:=by omega
  have qU:cK m ((fp.map (·.2)).take i)=cK m (b0 m t).1:=by rw[PE,Az,Nat.min_self,Mn,m4]
  exact J.exit I<|al.code<|J.aw 6 I<|ac I I<|dh I I I I (fun w hw=>by have:=anX m KT i KQ fp w hm ((hw.has (i:=0) I).dw) s3 (by omega) iH (fun z aL=>(Has.star (hw.has (i:=1) I) (OL z aL)).dw);rw[qU] at this;exact this) aJ<|fun ahv aht=>cB I I I<|cB I I I<|ak I I<|ak I I<|U.next<|J.ret<|al.ret Tryz.results54 I (fun w hw=>⟨ahv,I,aht,hw.pick [0] I⟩)
theorem XB{k:Int}(ah:0<k)(m:Int):(m.tmod k+k).tmod k=(((m%k).toNat:Nat):Int):=by
 have aa:=ng m (b:=k) (by omega);have ad:=Ed ah m;rw[Int.tmod_eq_emod_of_nonneg (by omega),Int.add_emod_right,ajx];omega
end Go.Proofs.YtcgjepodnfjggaaGreatDoor
end
section
namespace Go.Proofs.YtcgjepodnfjggaaGreatDoor
open Go Go.a6 Go.cv jm
set_option maxRecDepth 100000
theorem _root_.Go.a6.hP.ex{G:Type}{f:G→bi}{r:Nat}{w:ao}(h:hP r (qm f) w):∃x,hP r (f x) w:=by
 obtain⟨D,⟨x,aa⟩,ab⟩:=h;exact⟨x,D,aa,ab⟩
theorem _root_.Go.a6.hP.star{X:List bi}{A:bi}{r:Nat}{w:ao}(h:hP r (c1 X) w)(bs:A∈X):hP r A w:=by
 obtain⟨D,aa,ab⟩:=h;have key:∀(X:List bi) (D:Nat→Prop),zm X w D→(∀k,D k→k<w.heap.size∧k≠r)→A∈X→hP r A w:=by
  intro X;induction X with
  |nil=>intro D _ _ hm;cases hm
  |cons B X ih=>
   rintro D ⟨iI,iU,k1,k2,bx,cl⟩ ca hm;rcases ei.1 hm with rfl|hm
   ·exact⟨iI,k1,fun k ah=>ca k ((bx k).2 (.inl ah))⟩
   ·exact ih iU k2 (fun k ah=>ca k ((bx k).2 (.inr ah))) hm
 exact key X D aa ab bs
theorem _root_.Go.a6.hP.dw{E:aO}{sz r:Nat}{A:aN}{n c:Nat}{vs:cw}{w:ao}(h:hP r (own E sz A n c vs) w):hP r (aP sz A n vs) w:=let ⟨D,aa,ab⟩:=h;⟨D,Ug aa,ab⟩
theorem an5(k:Nat):2^(k%8)<256:=Nat.pow_lt_pow_right (n:=8) (by omega) (Nat.mod_lt _ (by omega))
theorem TX:∀(L:ae) {x:Nat},x∈L→x≤L.sum
 |[],_,h=>by cases h
 |y::L,x,h=>by
  rw[List.sum_cons];rcases ei.1 h with rfl|h
  ·omega
  ·have:=TX L h;omega
def aR(m t:Nat):Nat:=(cK m (b0 m t).1).length- 1
def aY(m t:Nat):Nat:=(aR m t+7)/ 8
def fw(m t:Nat):ae:=dZ (cK m (b0 m t).1)
def wM(m t:Nat):ae:=gm (aY m t) (BF (cK m (b0 m t).1))
noncomputable def ej(m t:Nat)(A:ae):ae:=gm (aY m t) (ch (cK m (b0 m t).1) A)
noncomputable def kj(m t:Nat)(A:ae):cJ:=gu (aY m t) (ap (ej m t A))
theorem EX(m t:Nat)(A:ae):(ej m t A).length=aY m t:=Cp _ _
noncomputable def fm(m t:Nat)(data:ae):ae:=gm (aY m t) (ch (cK m (b0 m t).1) (bA data))
structure e3(m t:Nat):Prop where
 ok:Ok m
 t1:1≤t
 t40:t≤40
section
variable{m t:Nat}(h:e3 m t)
include h
theorem e3.iv:cc (cK m (b0 m t).1):=BB h.ok _
theorem e3.g2:2≤(cK m (b0 m t).1).length:=by
 have aa:=Uk (m:=m) (k:=t) (j:=0) h.t1;rw[M8 h.ok];have ab:=x8 h.ok (mC m (2*0+1));have an:(cX m (mC m (2*0+1))).length≤((b0 m t).1.map (fun x=>(cX m x).length)).sum:=TX _ (gE.2 ⟨_,aa,rfl⟩);omega
theorem e3.d1:1≤aR m t:=by have:=h.g2;unfold aR;omega
theorem e3.k9:(b0 m t).2=aR m t:=by
 unfold aR;rw[M8 h.ok,amA h.ok];omega
theorem e3.mW:aR m t≤560:=by
 have aa:=Mr h.ok t;rw[h.k9] at aa;have:=yg h.ok.hi h.t40;omega
theorem e3.ix:1≤aY m t:=by have:=h.d1;unfold aY;omega
theorem e3.o0:aY m t≤70:=by have:=h.mW;unfold aY;omega
theorem e3.q6{A:ae}(bs:cc A):cc (ch (cK m (b0 m t).1) A):=mo h.iv h.g2 bs
theorem e3.lt{A:ae}(bs:cc A):∀x∈ej m t A,x<256:=vG (h.q6 bs) _
theorem e3.afa:∀x∈wM m t,x<256:=vG (KA h.iv h.g2) _
theorem e3.zero:(List.replicate (aY m t) (Value.int .u8 0)).toArray=kj m t []:=by
 rw[aiO];unfold kj ej;rw[aaH h.iv h.g2]
theorem e3.jq{A:ae}(bs:cc A):(ap (ej m t A) ((aR m t- 1)/ 8)>>>((aR m t- 1)%8))%2=ap (ch (cK m (b0 m t).1) A) (aR m t- 1):=U8 (h.q6 bs) (by have:=h.d1;unfold aY;omega)
theorem e3.bit{A:ae}(bs:cc A){j:Nat}(ax:j<aR m t):(ap (ej m t A) (j/ 8)>>>(j%8))%2=ap (ch (cK m (b0 m t).1) A) j:=U8 (h.q6 bs) (by unfold aY;omega)
theorem e3.out{A:ae}(bs:cc A){b:Nat}(ad:b<2)(e7:b≠ap (ch (cK m (b0 m t).1) A) (aR m t- 1)):gu (aY m t) (og (mA (aR m t) (ej m t A)) (ap (wM m t)) (aY m t))=kj m t (pF b A):=ad4 h.iv h.g2 bs ad e7
theorem e3.j3{A:ae}(bs:cc A){b:Nat}(ad:b<2)(he:b=ap (ch (cK m (b0 m t).1) A) (aR m t- 1)):gu (aY m t) (mA (aR m t) (ej m t A))=kj m t (pF b A):=atj h.iv h.g2 bs ad he
theorem e3.byte(uw:8≤aR m t){A:ae}(bs:cc A){y:Nat}(aF:y<256):gu (aY m t) (og (nG (aR m t) (ej m t A)) (ap (ej m t (bA [po (aR m t) (ch (cK m (b0 m t).1) A)^^^y]))) (aY m t))=kj m t (cO (eC 8 A) (bA [y])):=apQ h.iv h.g2 (by unfold aR at uw;omega) bs aF
end
theorem arM(m t:Nat)(A:ae):gu (aY m t) (sk (ej m t A) (aY m t- 1))=kj m t A:=by
 have:=aqy (ej m t A);rw[EX] at this;exact this
theorem akJ{m t:Nat}(A:ae)(h:aR m t%8≠0):(fun j=>if j=aY m t- 1 then ra (ej m t A) (aY m t- 1)%2^(aR m t%8) else ra (ej m t A) j)=mA (aR m t) (ej m t A):=by
 have:=anM (L:=ej m t A) (aR m t) h;rw[EX] at this;exact this
theorem al4{m t:Nat}(A:ae)(h:aR m t%8≠0):(fun j=>if j=aY m t- 1 then rn (ej m t A) (aY m t- 1)%2^(aR m t%8) else rn (ej m t A) j)=nG (aR m t) (ej m t A):=by
 have:=ajW (L:=ej m t A) (aR m t) h;rw[EX] at this;exact this
theorem abT(m t:Nat)(A:ae):kj m t A=(aA .u8 (ej m t A)).toArray:=MV _ _
theorem Up(m t:Nat)(A:ae):(kj m t A).size=aY m t:=uN _ _
theorem aiY{m t:Nat}(aG:1≤aY m t)(A:ae):((kj m t A).toList.take 1++(aA .u8 (ej m t A)).take (min (aY m t) (aY m t- 1))++(kj m t A).toList.drop (1+min (aY m t) (aY m t- 1))).toArray=gu (aY m t) (uR (ej m t A)):=by
 have:=ag1 (L:=ej m t A) (by rw[EX];exact aG);rw[EX] at this;rw[abT];exact this
theorem zq{x:Nat}(af:x<256)(s:Nat):x>>>s<256:=Nat.lt_of_le_of_lt (Nat.shiftRight_le _ _) af
theorem MF(d:Nat):1≤2^(d%8)∧2^(d%8)<256:=⟨Nat.one_le_two_pow,an5 d⟩
theorem sE(m t:Nat)(d:ae):(fm m t d).length=aY m t:=Cp _ _
theorem aq1(m t:Nat)(d:ae):kj m t (bA d)=(aA .u8 (fm m t d)).toArray:=MV _ _
instance:bX Tryz.prog 140 7 7:=bX.mk' Tryz.underlying140 rfl rfl (by kernel_rfl)
instance:so Tryz.prog 138 24 256 1 (List.replicate 256 (.slice none 0 0)):=so.mk' Tryz.underlying138 (by kernel_rfl) (by kernel_rfl)
instance:hk Tryz.prog 140 [(0,1),(1,1),(2,1),(3,1),(4,1),(5,1),(6,1),(7,256)] (.pointer none::.int .i64 0::.int .i64 0::.int .i64 0::.int .i64 0::.slice none 0 0::.slice none 0 0::List.replicate 256 (.slice none 0 0)):=hk.mk' Tryz.underlying140 (by kernel_rfl) (by kernel_rfl)
def sf:aO:=140
structure gH where
 f:Nat
 fo:aN
 dO:Nat
 bw:aN
 c2:Nat
 gs:ae
 X:List bi
def HH(p:Nat)(gs:ae)(i:Nat):aV:=match gs[i]? with|some g=>.slice (some ⟨g,0,none⟩) p p|none=>.slice none 0 0
def tf(p:Nat)(gs:ae):cw:=(List.range 256).map (HH p gs)
def qS(m t n:Nat)(q:gH):cw:=.pointer (some ⟨q.f,0,none⟩)::.int .i64 (t:Nat)::.int .i64 (n:Nat)::.int .i64 (aR m t:Nat)::.int .i64 (aY m t:Nat)::.slice q.fo (fw m t).length q.dO::.slice q.bw (aY m t) q.c2::tf (aY m t) q.gs
theorem MN(p:Nat)(gs:ae){i:Nat}(h:i<256):(tf p gs)[i]?=some (HH p gs i):=by simp[tf,h]
theorem arS(p:Nat)(gs:ae)(g:Nat):(tf p gs).set gs.length (.slice (some ⟨g,0,none⟩) p p)=tf p (gs++[g]):=by
 apply jB;intro j;rw[rG];have bc:∀gs,(tf p gs).length=256:=fun gs=>by simp[tf]
 by_cases ax:j<256
 ·rw[MN p _ ax,MN p _ ax,bc];unfold HH;by_cases h:gs.length=j
  ·subst h;rw[aD rfl,aD ax,mg (cq _),rL];rfl
  ·rw[az h];by_cases ab:j<gs.length
   ·rw[nE ab]
   ·rw[mg (by omega),iq (by omega),iq (by simp;omega)]
 ·rw[iq (by rw[bc];omega),iq (by rw[bc];omega)];split
  ·rw[az (by rw[bc];omega)]
  ·rfl
theorem ahJ(p:Nat):tf p []=List.replicate 256 (.slice none 0 0):=by
 show(List.range 256).map (fun _=>Value.slice none 0 0)=_;rw[PK,GN]
noncomputable def H6(m t g y:Nat):bi:=aE g 5 (kj m t (bA [y]))
def Ah(m t:Nat)(q:gH):bi:=own 5 1 q.bw (aY m t) q.c2 (aA .u8 (wM m t))
def CS(m t:Nat)(q:gH):bi:=own 5 1 q.fo (fw m t).length q.dO (aA .u8 (fw m t))
structure gH.p0(m t:Nat)(q:gH):Prop where
 dO:(fw m t).length≤q.dO
 c2:aY m t≤q.c2
 len:q.gs.length=256
 row:∀y g,q.gs[y]?=some g→H6 m t g y∈q.X
noncomputable def j8(c m t n:Nat)(q:gH):bi:=c1 [aE c sf (qS m t n q).toArray,CS m t q,Ah m t q,fL q.f m,c1 q.X]
theorem sY{c m t n:Nat}{q:gH}{w:ao}(h:Has (j8 c m t n q) w):Has (aE c sf (qS m t n q).toArray) w∧Has (CS m t q) w∧Has (Ah m t q) w∧Has (fL q.f m) w∧Has (c1 q.X) w:=
 ⟨h.star (by simp),h.star (by simp),h.star (by simp),h.star (by simp),h.star (by simp)⟩
theorem akh{c m t n r:Nat}{q:gH}{w:ao}(h:hP r (j8 c m t n q) w):hP r (aE c sf (qS m t n q).toArray) w∧hP r (CS m t q) w∧hP r (Ah m t q) w∧hP r (fL q.f m) w∧hP r (c1 q.X) w:=
 ⟨h.star (by simp),h.star (by simp),h.star (by simp),h.star (by simp),h.star (by simp)⟩
structure ye(c r m t:Nat)(cs:cJ)(bw:aN)(c2:Nat)(w:ao):Prop where
 aE:hP r (aE c sf cs) w
 k9:cs[3]?=some (.int .i64 (aR m t:Nat))
 vB:cs[6]?=some (.slice bw (aY m t) c2)
 low:hP r (aP 1 bw (aY m t) (aA .u8 (wM m t))) w
theorem ye.a7{c r m t:Nat}{cs:cJ}{bw:aN}{c2:Nat}{w ar:ao}{L:List bi}(h:ye c r m t cs bw c2 w)(hw:au (hs r w) w L ar):ye c r m t cs bw c2 ar:=⟨hw.mi h.aE,h.k9,h.vB,hw.mi h.low⟩
structure EU(c r m t:Nat)(cs:cJ)(w:ao):Prop where
 row:∀y,y<256→∃g,cs[7+y]?=some (.slice (some ⟨g,0,none⟩) (aY m t) (aY m t))∧hP r (H6 m t g y) w
theorem EU.a7{c r m t:Nat}{cs:cJ}{w ar:ao}{L:List bi}(h:EU c r m t cs w)(hw:au (hs r w) w L ar):EU c r m t cs ar:=⟨fun y aF=>let ⟨g,aa,ab⟩:=h.row y aF;⟨g,aa,hw.mi ab⟩⟩
theorem atx{c r m t n:Nat}{q:gH}{w:ao}(aM:q.p0 m t)(h:hP r (j8 c m t n q) w):∃cs bw c2,ye c r m t cs bw c2 w∧EU c r m t cs w:=by
 obtain⟨aa,ab,an,aK,bo⟩:=akh h;refine⟨(qS m t n q).toArray,q.bw,q.c2,⟨aa,I,I,an.dw⟩,⟨fun y aF=>?_⟩⟩;obtain⟨g,bg⟩:∃g,q.gs[y]?=some g:=⟨_,eF (by rw[aM.len];exact aF)⟩;refine⟨g,?_,bo.star (aM.row y g bg)⟩;rw[yN,B8];show(tf (aY m t) q.gs)[y]?=_;rw[MN _ _ aF];unfold HH;rw[bg]
theorem SZ(c r m t:Nat)(cs:cJ)(bw:aN)(c2 n2:Nat)(A:ae)(b:Nat)(w:ao)(di:e3 m t)(c6:ye c r m t cs bw c2 w)(bs:cc A)(ad:b<2)(hw:w.heap[r]?=some (.cells (kj m t A) 5 (0,0))):tP Tryz.prog 55 [.pointer (some ⟨c,0,none⟩),.slice (some ⟨r,0,none⟩) (aY m t) n2,.int .i64 (b:Nat)] w r 5 (kj m t (pF b A)) (oneOf []):=by
 have I0:=di.d1;have xv:=di.mW;have yU:=di.ix;have LI:=di.o0;have xW:aY m t=(aR m t+7)/ 8:=rfl;have cF:=di.lt bs;have kv:=MF (aR m t);refine wP Tryz.func55 I Tryz.ntmps55 I hw<|J.aw 6 I<|ac I I<|bI I I<|bd I I<|c5 I I (fun _ hw=>(hw.mi c6.aE).fI c6.k9)<|eB I I I (r:=((aR m t- 1:Nat):Int)) (by rw[show((aR m t:Nat):Int)- 1=((aR m t- 1:Nat):Int) by omega];exact bm (by omega))<|ak I I<|U.bl 13 I<|ac I I<|ac I I<|ac I I<|mM I I I (by omega) (ov (aR m t- 1) (by omega))<|eP ((aR m t- 1)/ 8) I I I I (by omega)<|cm 0 I I I (v:=.int .u8 (ap (ej m t A) ((aR m t- 1)/ 8):Nat)) (q0 (by omega))<|ac I I<|h4 I I I (by omega) (pv (aR m t- 1))<|iw I I I (by omega) (td (by omega))<|dY I I I I (Am (zq (fJ cF _) _))<|gW I I (r:=((ap (ch (cK m (b0 m t).1) A) (aR m t- 1):Nat):Int)) (by rw[di.jq bs];have:=(di.q6 bs).le (aR m t- 1);exact bm (by omega))<|jT I I I (r:=(decide (b≠ap (ch (cK m (b0 m t).1) A) (aR m t- 1)))) (pu.2 (by omega))<|ak I I<|U.next<|J.seq<|J.aw 4 I<|ac I I<|cf I I<|eB I I I (r:=((aY m t- 1:Nat):Int)) (by rw[show((aY m t:Nat):Int)- 1=((aY m t- 1:Nat):Int) by omega];exact bm (by omega))<|ak I I<|U.next<|J.block<|J.loop (G:=Nat) (fun i=>[(0,.pointer (some ⟨c,0,none⟩)),(1,.slice (some ⟨r,0,none⟩) (aY m t) n2),(7,.bool (decide (b≠ap (ch (cK m (b0 m t).1) A) (aR m t- 1)))),(8,.int .i64 (i:Nat))]) (fun i=>au (hs r w) w [aE r 5 (gu (aY m t) (sk (ej m t A) i))]) (fun i=>i≤aY m t- 1) (fun i=>i) (aY m t- 1) ⟨I,I,I,I,trivial⟩ (fun _ hw=>by rw[arM];exact hw) (cq _) ?_;intro i hi;refine J.seq<|J.aw 2 I<|ac I I<|fD I I I I<|U.next ?_;refine J.test I (fun ag=>?_) (fun ag=>?_)
 ·obtain⟨k,rfl⟩:∃k,i=k+1:=⟨i- 1,by omega⟩;refine J.skip<|al.code<|J.seq<|J.block<|J.dQ (bW [0,1,2,3,4,7,8,9,10] (.hp 5 (bW [6] (cj [11] (bW [12,13,14] (cj [15] .done)))) (cj [11] (bW [12] (cj [5] (bW [6,13,14] (cj [15] .done))))))) (au (hs r w) w []) mixed (by kernel_rfl) (fun _ h=>h.drew) (fun _ hw=>hw.om)<|ac I I<|ac I I<|ac I I<|ac I I<|eP (k+1) I I I I (by omega)<|ac I I<|ac I I<|eB I I I (r:=((k:Nat):Int)) (by rw[show((k+1:Nat):Int)- 1=((k:Nat):Int) by omega];exact bm (by omega))<|eP k I I I I (by omega) ?_;refine U.hp ?_ ?_
  ·exact cm 0 I I I (v:=.int .u8 (ap (ej m t A) (k+1):Nat)) (by rw[q0 (by omega),Fz (cq _)])<|ir I I I (by omega) (r:=((ap (ej m t A) (k+1)*2^1%256:Nat):Int)) (pG (k:=1) (by omega))<|cm 0 I I I (v:=.int .u8 (ap (ej m t A) k:Nat)) (by rw[q0 (by omega),Fz (by omega)])<|iw I I I (by omega) (r:=((ap (ej m t A) k>>>7:Nat):Int)) (td (k:=7) (by omega))<|dY I I I I (r:=((q7 (ej m t A) (k+1):Nat):Int)) (Ex (fV _ (by decide)) (zq (fJ cF _) _))<|eP (k+1) I I I I (by omega)<|eh 0 I I I I I (by rw[uN];omega) (fun _ hw=>hw.om)<|U.end_<|al.aE<|al.code<|J.rg 3 rfl<|ac rfl rfl<|eB rfl rfl rfl (r:=((k:Nat):Int)) (by rw[show((k+1:Nat):Int)- 1=((k:Nat):Int) by omega];exact bm (by omega))<|ak I I<|U.end_<|al.back k ⟨I,I,I,I,trivial⟩ (fun _ hw=>by rw[←acg,←wz];exact hw) (by omega) (by omega)
  ·exact cm 0 I I I (v:=.int .u8 (ap (ej m t A) k:Nat)) (by rw[q0 (by omega),Fz (by omega)])<|iw I I I (by omega) (r:=((ap (ej m t A) k>>>7:Nat):Int)) (td (k:=7) (by omega))<|cm 0 I I I (v:=.int .u8 (ap (ej m t A) (k+1):Nat)) (by rw[q0 (by omega),Fz (cq _)])<|ir I I I (by omega) (r:=((ap (ej m t A) (k+1)*2^1%256:Nat):Int)) (pG (k:=1) (by omega))<|dY I I I I (r:=((q7 (ej m t A) (k+1):Nat):Int)) (Ex (fV _ (by decide)) (zq (fJ cF _) _))<|eP (k+1) I I I I (by omega)<|eh 0 I I I I I (by rw[uN];omega) (fun _ hw=>hw.om)<|U.end_<|al.aE<|al.code<|J.rg 3 rfl<|ac rfl rfl<|eB rfl rfl rfl (r:=((k:Nat):Int)) (by rw[show((k+1:Nat):Int)- 1=((k:Nat):Int) by omega];exact bm (by omega))<|ak I I<|U.end_<|al.back k ⟨I,I,I,I,trivial⟩ (fun _ hw=>by rw[←acg,←wz];exact hw) (by omega) (by omega)
 ·obtain rfl:i=0:=by omega
  refine J.exit I<|al.code<|J.aw 6 I<|ac I I<|eP 0 I I I I (by omega)<|cm 0 I I I (v:=.int .u8 (ap (ej m t A) 0:Nat)) (by rw[q0 (by omega),Fz (cq _)])<|ir I I I (by omega) (r:=((ap (ej m t A) 0*2^1%256:Nat):Int)) (pG (k:=1) (by omega))<|eP 0 I I I I (by omega)<|eh 0 I I I I I (by rw[uN];omega) aJ<|U.next ?_;refine J.cut (G:=Unit) (fun _=>[(0,.pointer (some ⟨c,0,none⟩)),(1,.slice (some ⟨r,0,none⟩) (aY m t) n2),(7,.bool (decide (b≠ap (ch (cK m (b0 m t).1) A) (aR m t- 1))))]) (fun _=>au (hs r w) w [aE r 5 (gu (aY m t) (mA (aR m t) (ej m t A)))]) (fun _=>True) ?_ ?_
  ·refine J.seq<|J.pre (ec:=au (hs r w) w [aE r 5 (gu (aY m t) (ra (ej m t A)))]) (fun _ hw=>by rw[←ate,←wz];exact hw)<|J.rg 6 I<|ac I I<|bI I I<|bd I I<|c5 I I (fun _ hw=>(hw.mi c6.aE).fI c6.k9)<|h4 I I I (by omega) (pv (aR m t))<|ak I I<|U.bl 2 I<|ac I I<|fD I I I I<|U.next ?_;refine J.test I (fun ag=>?_) (fun ag=>?_)
   ·exact J.dQ (bW [0,1,2,3,4,6,7,8] (cj [5] (bW [9,10] (cj [11] .done)))) (au (hs r w) w []) mixed (by kernel_rfl) (fun _ h=>h.drew) (fun _ hw=>hw.om)<|ac I I<|ac I I<|cf I I<|eB I I I (r:=((aY m t- 1:Nat):Int)) (by rw[show((aY m t:Nat):Int)- 1=((aY m t- 1:Nat):Int) by omega];exact bm (by omega))<|eP (aY m t- 1) I I I I (by omega)<|ac I I<|ir I I I (by omega) (r:=((2^(aR m t%8):Nat):Int)) (by rw[show(1:Int)=((1:Nat):Int) from I,pG (by omega),q3,ll kv.2])<|eB I I I (r:=((2^(aR m t%8)- 1:Nat):Int)) (by rw[show((2^(aR m t%8):Nat):Int)- 1=((2^(aR m t%8)- 1:Nat):Int) by omega];exact tr (by omega))<|cm 0 I I I (v:=.int .u8 ((ra (ej m t A)) (aY m t- 1):Nat)) (q0 (by omega))<|dY I I I I (r:=(((ra (ej m t A)) (aY m t- 1)%2^(aR m t%8):Nat):Int)) (by rw[CH (ai6 cF _) (by omega),Tf])<|eP (aY m t- 1) I I I I (by omega)<|eh 0 I I I I I (by rw[uN];omega) (fun _ hw=>hw.om)<|U.end_<|al.join () ⟨rfl,rfl,rfl,trivial⟩ (fun _ hw=>by rw[←akJ A (by omega),←wz];exact hw) trivial
   ·exact J.skip<|al.join () ⟨I,I,I,trivial⟩ (fun _ hw=>by rw[←agM _ (by omega)];exact hw) trivial
  ·intro _ _;refine J.seq<|J.aw 2 I<|ac I I<|ls I I<|U.next ?_;refine J.cond I (fun ag=>?_) (fun ag=>?_)
   ·have o5:b=ap (ch (cK m (b0 m t).1) A) (aR m t- 1):=m8 fun aQ=>by simp[aQ] at ag
    exact J.ret<|al.ret Tryz.results55 I (fun _ hw=>⟨I,by rw[←di.j3 bs ad o5];exact hw⟩)
   ·have e7:b≠ap (ch (cK m (b0 m t).1) A) (aR m t- 1):=fun aQ=>by simp[aQ] at ag
    refine J.skip<|al.code<|J.aw 3 I<|ac I I<|cf I I<|ac I I<|U.next<|J.block<|J.loop (G:=Nat) (fun i=>[(0,.pointer (some ⟨c,0,none⟩)),(1,.slice (some ⟨r,0,none⟩) (aY m t) n2),(76,.int .i64 (aY m t:Nat)),(77,.int .i64 (i:Nat))]) (fun i=>au (hs r w) w [aE r 5 (gu (aY m t) (og (mA (aR m t) (ej m t A)) (ap (wM m t)) i))]) (fun i=>i≤aY m t) (fun i=>aY m t- i) 0 ⟨I,I,I,I,trivial⟩ (fun _ hw=>by rw[acz];exact hw) (dg _) ?_;intro i hi;have uY:(wM m t).length=aY m t:=Cp _ _;refine J.aw 1 I<|cQ I I I I<|U.next<|J.seq ?_;refine J.test I (fun ag=>?_) (fun ag=>?_)
    ·exact J.skip<|al.code<|J.seq<|J.block<|J.aw 2 I<|ac I I<|ak I I<|U.next<|J.dQ (bW [0,1,2,4,5,6,7,8,9,10] (cj [3] (bW [11,12] (cj [13] .done)))) (au (hs r w) w []) mixed (by kernel_rfl) (fun _ h=>h.drew) (fun _ hw=>hw.om)<|ac I I<|ac I I<|eP i I I I I (by omega)<|ac I I<|bI I I<|bd I I<|dc I I (fun _ hw=>(hw.mi c6.aE).fI c6.vB)<|ac I I<|fH i (fun w hw=>(hw.mi c6.low).has) I I I I (by omega)<|yn (fun w hw=>(hw.mi c6.low).has) I I (by rw[dJ];exact jk (by omega)) (by omega)<|cm 0 I I I (v:=.int .u8 (mA (aR m t) (ej m t A) i:Nat)) (by rw[q0 (by omega),Z2])<|dY I I I I (sA (T9 cF _ _) (fJ di.afa _))<|eP i I I I I (by omega)<|eh 0 I I I I I (by rw[uN];omega) (fun _ hw=>hw.om)<|U.end_<|al.aE<|al.code<|J.rg 2 rfl<|b1 rfl rfl rfl (r:=((i+1:Nat):Int)) (bm (by omega))<|ac rfl rfl<|U.end_<|al.back (i+1) ⟨rfl,rfl,rfl,rfl,trivial⟩ (fun _ hw=>by rw[←T1,←wz];exact hw) (by omega) (by omega)
    ·obtain rfl:i=aY m t:=by omega
     exact J.exit I<|al.ret Tryz.results55 I (fun _ hw=>⟨I,by rw[←di.out bs ad e7];exact hw⟩)
theorem ago(c r m t:Nat)(cs:cJ)(bw:aN)(c2 n2:Nat)(A:ae)(y:Nat)(w:ao)(di:e3 m t)(c6:ye c r m t cs bw c2 w)(bs:cc A)(aF:y<256)(hw:w.heap[r]?=some (.cells (kj m t A) 5 (0,0))):tP Tryz.prog 109 [.pointer (some ⟨c,0,none⟩),.slice (some ⟨r,0,none⟩) (aY m t) n2,.int .u8 (y:Nat)] w r 5 (kj m t (cO (eC 8 A) (bA [y]))) (oneOf []):=by
 have eg:=asm bs y;refine wP Tryz.func109 I Tryz.ntmps109 I hw<|J.aw 1 I<|ak I I<|U.next<|J.block<|J.loop (G:=Nat) (fun k=>[(0,.pointer (some ⟨c,0,none⟩)),(1,.slice (some ⟨r,0,none⟩) (aY m t) n2),(2,.int .u8 (y:Nat)),(6,.int .i64 (((k:Nat):Int)- 1))]) (fun k=>au (hs r w) w [aE r 5 (kj m t (oL k (cO (eC 8 A) (bA [y]))))]) (fun k=>k≤8) (fun k=>k) 8 ⟨I,I,I,I,trivial⟩ (fun _ hw=>by rw[auE bs];exact hw) (cq _) ?_;intro k ah;refine J.seq<|J.aw 2 I<|ac I I<|jz I I I I<|U.next ?_;refine J.test I (fun ag=>?_) (fun ag=>?_)
 ·obtain⟨j,rfl⟩:∃j,k=j+1:=⟨k- 1,by omega⟩;exact J.skip<|al.code<|J.seq<|J.block<|J.rg 8 I<|ac I I<|ac I I<|ac I I<|ac I I<|iw I I I (by omega) (r:=((y>>>j:Nat):Int)) (by rw[show((j+1:Nat):Int)- 1=((j:Nat):Int) by omega];exact td (by omega))<|dY I I I I (Am (zq aF _))<|gW I I (r:=(((y>>>j)%2:Nat):Int)) (bm (by omega))<|sU 0 I I I I I (fun aZ bG=>SZ c r m t cs bw c2 n2 (oL (j+1) (cO (eC 8 A) (bA [y]))) ((y>>>j)%2) aZ di (c6.a7 bG) (u1 eg _) (fV _ (by omega)) (bG.qx (i:=0) I)) aJ<|U.end_<|al.aE<|al.code<|J.rg 3 I<|ac I I<|eB I I I (r:=((j:Nat):Int)- 1) (by rw[show((j+1:Nat):Int)- 1- 1=((j:Nat):Int)- 1 by omega];exact bm (by omega))<|ak I I<|U.end_<|al.back j ⟨I,I,I,I,trivial⟩ (fun _ hw=>by rw[Rp eg,auB A y (by omega)];exact hw) (by omega) (by omega)
 ·obtain rfl:k=0:=by omega
  exact J.exit I<|al.ret Tryz.results109 I (fun _ hw=>⟨I,by rw[No eg] at hw;exact hw⟩)
theorem ads(c r m t:Nat)(cs:cJ)(bw:aN)(c2 n2:Nat)(A:ae)(y:Nat)(w:ao)(di:e3 m t)(c6:ye c r m t cs bw c2 w)(cE:EU c r m t cs w)(wc:aY m t≤n2)(bs:cc A)(aF:y<256)(hw:w.heap[r]?=some (.cells (kj m t A) 5 (0,0))):tP Tryz.prog 64 [.pointer (some ⟨c,0,none⟩),.slice (some ⟨r,0,none⟩) (aY m t) n2,.int .u8 (y:Nat)] w r 5 (kj m t (cO (eC 8 A) (bA [y]))) (oneOf []):=by
 have I0:=di.d1;have xv:=di.mW;have yU:=di.ix;have LI:=di.o0;have xW:aY m t=(aR m t+7)/ 8:=rfl;have cF:=di.lt bs;have kv:=MF (aR m t);have Dq:∀j,(fun s=>ap (ch (cK m (b0 m t).1) A) (aR m t- 8+s)) j<2:=fun j=>(di.q6 bs).le _;have Mp:=aeA (di.q6 bs) (aR m t);obtain⟨g,MU,VA⟩:=cE.row ((po (aR m t) (ch (cK m (b0 m t).1) A))^^^y) (Ay Mp aF);have afC:=di.lt (en [((po (aR m t) (ch (cK m (b0 m t).1) A))^^^y)]);refine wP Tryz.func64 I Tryz.ntmps64 I hw<|J.seq<|J.aw 5 I<|ac I I<|bI I I<|bd I I<|c5 I I (fun _ hw=>(hw.mi c6.aE).fI c6.k9)<|cQ I I I I<|U.next ?_;refine J.test I (fun ag=>?_) (fun ag=>?_)
 ·exact J.aw 4 I<|ac I I<|ac I I<|ac I I<|sU 0 I I I I I (fun aZ bG=>ago c r m t cs bw c2 n2 A y aZ di (c6.a7 bG) bs aF (bG.qx (i:=0) I)) aJ<|U.next<|J.ret<|al.ret Tryz.results64 I (fun _ hw=>⟨I,hw⟩)
 ·have fq:8≤aR m t:=by omega
  refine J.skip<|al.code<|J.aw 1 I<|ak I I<|U.next<|J.seq<|J.aw 1 I<|ac I I<|U.next<|J.block<|J.loop (G:=Nat) (fun i=>[(0,.pointer (some ⟨c,0,none⟩)),(1,.slice (some ⟨r,0,none⟩) (aY m t) n2),(2,.int .u8 (y:Nat)),(6,.int .u8 (hM (fun s=>ap (ch (cK m (b0 m t).1) A) (aR m t- 8+s)) i:Nat)),(21,.int .i64 (i:Nat))]) (fun _=>au (hs r w) w [aE r 5 (kj m t A)]) (fun i=>i≤8) (fun i=>8- i) 0 ⟨I,I,I,I,I,trivial⟩ (fun _ hw=>hw) (dg _) ?_;intro i hi;refine J.aw 1 I<|cQ I I I I<|U.next<|J.seq ?_;refine J.test I (fun ag=>?_) (fun ag=>?_)
  ·have axd:=TP Dq (i:=i+1) (by omega);have tB:=TP Dq (i:=i) (by omega);have AG:hM (fun s=>ap (ch (cK m (b0 m t).1) A) (aR m t- 8+s)) (i+1)=hM (fun s=>ap (ch (cK m (b0 m t).1) A) (aR m t- 8+s)) i+ap (ch (cK m (b0 m t).1) A) (aR m t- 8+i)*2^i:=rfl;exact J.skip<|al.code<|J.seq<|J.block<|J.aw 2 I<|ac I I<|ak I I<|U.bl 8 I<|ac I I<|bI I I<|bd I I<|c5 I I (fun _ hw=>(hw.mi c6.aE).fI c6.k9)<|eB I I I (r:=((aR m t- 8:Nat):Int)) (by rw[show((aR m t:Nat):Int)- 8=((aR m t- 8:Nat):Int) by omega];exact bm (by omega))<|ac I I<|b1 I I I (r:=((aR m t- 8+i:Nat):Int)) (bm (by omega))<|ak I I<|U.next<|J.rg 14 I<|ac I I<|ac I I<|ac I I<|mM I I I (by omega) (ov (aR m t- 8+i) (by omega))<|eP ((aR m t- 8+i)/ 8) I I I I (by omega)<|cm 0 I I I (v:=.int .u8 (ap (ej m t A) ((aR m t- 8+i)/ 8):Nat)) (q0 (by omega))<|ac I I<|h4 I I I (by omega) (pv (aR m t- 8+i))<|iw I I I (by omega) (td (by omega))<|dY I I I I (r:=((ap (ch (cK m (b0 m t).1) A) (aR m t- 8+i):Nat):Int)) (by rw[Am (zq (fJ cF _) _),di.bit bs (by omega)])<|ac I I<|ir I I I (by omega) (r:=((ap (ch (cK m (b0 m t).1) A) (aR m t- 8+i)*2^i:Nat):Int)) (by rw[pG (by omega),ll (by omega)])<|dY I I I I (r:=((hM (fun s=>ap (ch (cK m (b0 m t).1) A) (aR m t- 8+s)) (i+1):Nat):Int)) (by rw[Ex tB (by omega),←ai9 Dq])<|ak I I<|U.end_<|al.aE<|al.code<|J.rg 2 I<|b1 I I I (r:=((i+1:Nat):Int)) (bm (by omega))<|ac I I<|U.end_<|al.back (i+1) ⟨I,I,I,I,I,trivial⟩ (fun _ hw=>hw) (by omega) (by omega)
  ·obtain rfl:i=8:=by omega
   refine J.exit I<|al.code<|J.aw 4 I<|ac I I<|B3 1 I I I I (by omega)<|ac I I ?_;refine(Fm (ys:=aA .u8 (ej m t A)) 0 (g:=r) (off:=1) I I I I (fun aQ=>by unfold gw;rw[az (by omega)];rfl) (fun w hw=>Has.gK ((hw.has (i:=0) rfl).kI (m:=aY m t) (sz:=1) (by rw[Up,dJ])) (by rw[abT])) (mz _ _) (by rw[Up];omega) aJ ?_);refine U.next<|J.seq<|J.pre (ec:=au (hs r w) w [aE r 5 (gu (aY m t) (uR (ej m t A)))]) (fun _ hw=>by rw[←aiY yU];exact hw)<|J.rg 3 I<|ac I I<|eP 0 I I I I (by omega)<|eh 0 I I I I I (by rw[uN];omega) aJ<|U.next ?_;refine J.cut (G:=Unit) (fun _=>[(0,.pointer (some ⟨c,0,none⟩)),(1,.slice (some ⟨r,0,none⟩) (aY m t) n2),(2,.int .u8 (y:Nat)),(6,.int .u8 ((po (aR m t) (ch (cK m (b0 m t).1) A)):Nat))]) (fun _=>au (hs r w) w [aE r 5 (gu (aY m t) (nG (aR m t) (ej m t A)))]) (fun _=>True) ?_ ?_
   ·refine J.seq<|J.pre (ec:=au (hs r w) w [aE r 5 (gu (aY m t) (rn (ej m t A)))]) (fun _ hw=>by rw[←aeT];have:=wz (aY m t) (uR (ej m t A)) 0 0;rw[←this];exact hw)<|J.rg 6 I<|ac I I<|bI I I<|bd I I<|c5 I I (fun _ hw=>(hw.mi c6.aE).fI c6.k9)<|h4 I I I (by omega) (pv (aR m t))<|ak I I<|U.bl 2 I<|ac I I<|fD I I I I<|U.next ?_;refine J.test I (fun ag=>?_) (fun ag=>?_)
    ·exact J.dQ (bW [0,1,2,3,4,6,7,8] (cj [5] (bW [9,10] (cj [11] .done)))) (au (hs r w) w []) mixed (by kernel_rfl) (fun _ h=>h.drew) (fun _ hw=>hw.om)<|ac I I<|ac I I<|cf I I<|eB I I I (r:=((aY m t- 1:Nat):Int)) (by rw[show((aY m t:Nat):Int)- 1=((aY m t- 1:Nat):Int) by omega];exact bm (by omega))<|eP (aY m t- 1) I I I I (by omega)<|ac I I<|ir I I I (by omega) (r:=((2^(aR m t%8):Nat):Int)) (by rw[show(1:Int)=((1:Nat):Int) from I,pG (by omega),q3,ll kv.2])<|eB I I I (r:=((2^(aR m t%8)- 1:Nat):Int)) (by rw[show((2^(aR m t%8):Nat):Int)- 1=((2^(aR m t%8)- 1:Nat):Int) by omega];exact tr (by omega))<|cm 0 I I I (v:=.int .u8 ((rn (ej m t A)) (aY m t- 1):Nat)) (q0 (by omega))<|dY I I I I (r:=(((rn (ej m t A)) (aY m t- 1)%2^(aR m t%8):Nat):Int)) (by rw[CH (arY cF _) (by omega),Tf])<|eP (aY m t- 1) I I I I (by omega)<|eh 0 I I I I I (by rw[uN];omega) (fun _ hw=>hw.om)<|U.end_<|al.join () ⟨rfl,rfl,rfl,rfl,trivial⟩ (fun _ hw=>by rw[←al4 A (by omega),←wz];exact hw) trivial
    ·exact J.skip<|al.join () ⟨I,I,I,I,trivial⟩ (fun _ hw=>by rw[←af1 _ (by omega)];exact hw) trivial
   ·intro _ _;refine J.aw 10 I<|ac I I<|ac I I<|ac I I<|dY I I I I (sA Mp aF)<|bI I I<|bd I I<|n0 ((po (aR m t) (ch (cK m (b0 m t).1) A))^^^y) I I I I (Ay Mp aF)<|c5 I I (fun _ hw=>by have:=(hw.mi c6.aE).fI MU;simpa using this)<|cf rfl rfl<|ac rfl rfl<|U.next<|J.block<|J.loop (G:=Nat) (fun i=>[(1,.slice (some ⟨r,0,none⟩) (aY m t) n2),(76,.slice (some ⟨g,0,none⟩) (aY m t) (aY m t)),(77,.int .i64 (aY m t:Nat)),(78,.int .i64 (i:Nat))]) (fun i=>au (hs r w) w [aE r 5 (gu (aY m t) (og (nG (aR m t) (ej m t A)) (ap (ej m t (bA [((po (aR m t) (ch (cK m (b0 m t).1) A))^^^y)]))) i))]) (fun i=>i≤aY m t) (fun i=>aY m t- i) 0 ⟨rfl,rfl,rfl,rfl,trivial⟩ (fun _ hw=>by rw[acz];exact hw) (dg _) ?_;intro i hi;refine J.aw 1 I<|cQ I I I I<|U.next<|J.seq ?_;refine J.test I (fun ag=>?_) (fun ag=>?_)
    ·exact J.skip<|al.code<|J.seq<|J.block<|J.aw 5 I<|ac I I<|eP i I I I I (by omega)<|c5 I I (v:=.int .u8 (ap (ej m t (bA [((po (aR m t) (ch (cK m (b0 m t).1) A))^^^y)])) i:Nat)) (fun _ hw=>hP.fI (cs2:=kj m t (bA [((po (aR m t) (ch (cK m (b0 m t).1) A))^^^y)])) (hw.mi VA) (q0 (by omega)))<|ak I I<|ak I I<|U.next<|J.rg 8 I<|ac I I<|ac I I<|eP i I I I I (by omega)<|cm 0 I I I (v:=.int .u8 (nG (aR m t) (ej m t A) i:Nat)) (by rw[q0 (by omega),Z2])<|ac I I<|dY I I I I (sA (Y5 cF _ _) (fJ afC _))<|eP i I I I I (by omega)<|eh 0 I I I I I (by rw[uN];omega) aJ<|U.end_<|al.aE<|al.code<|J.rg 2 rfl<|b1 rfl rfl rfl (r:=((i+1:Nat):Int)) (bm (by omega))<|ac rfl rfl<|U.end_<|al.back (i+1) ⟨rfl,rfl,rfl,rfl,trivial⟩ (fun _ hw=>by rw[←T1,←wz];exact hw) (by omega) (by omega)
    ·obtain rfl:i=aY m t:=by omega
     exact J.exit I<|al.ret Tryz.results64 I (fun _ hw=>⟨I,by rw[←di.byte fq bs aF];exact hw⟩)
end Go.Proofs.YtcgjepodnfjggaaGreatDoor
end
section
namespace Go.Proofs.YtcgjepodnfjggaaGreatDoor
open Go Go.a6 Go.cv jm
def ik(f:Nat→Nat):Nat→Nat
 |0=>0
 |n+1=>ik f n+(if f n=0 then 0 else 1)
theorem Wo(f:Nat→Nat):∀n,ik f n=((List.range n).filter (fun j=>decide (f j≠0))).length
 |0=>rfl
 |n+1=>by
  rw[Ct,zF,ee,←Wo f n];show ik f n+_=_;by_cases h:f n=0
  ·simp[h]
  ·simp[h]
theorem Ei{f g:Nat→Nat}:∀{n:Nat},(∀j,j<n→f j=g j)→ik f n=ik g n
 |0,_=>rfl
 |n+1,h=>by
  show ik f n+_=ik g n+_;rw[Ei (n:=n) (fun j ax=>h j (by omega)),h n (by omega)]
theorem GB{f:Nat→Nat}:∀{n:Nat},(∀j,j<n→f j=0)→ik f n=0
 |0,_=>rfl
 |n+1,h=>by
  show ik f n+_=0;rw[GB (n:=n) (fun j ax=>h j (by omega)),aD (h n (by omega))]
theorem SM{f:Nat→Nat}{k:Nat}:∀{n:Nat},k<n→f k≠0→(∀j,j<n→j≠k→f j=0)→ik f n=1
 |n+1,ah,aa,h=>by
  show ik f n+_=1;by_cases he:k=n
  ·subst he;rw[az aa,GB (fun j ax=>h j (by omega) (by omega))]
  ·rw[aD (h n (by omega) (fun e=>he e.symm)),SM (n:=n) (by omega) aa (fun j ax ab=>h j (by omega) ab)]
theorem Rv(f:Nat→Nat)(d:Nat):∀n,ik f (d+n)=ik f d+ik (fun j=>f (d+j)) n
 |0=>rfl
 |n+1=>by
  show ik f (d+n)+(if f (d+n)=0 then 0 else 1)=ik f d+(ik (fun j=>f (d+j)) n+(if f (d+n)=0 then 0 else 1));rw[Rv f d n,Bc]
theorem aq6{f:Nat→Nat}{d n:Nat}(h:d≤n)(aL:∀j,d≤j→j<n→f j=0):ik f n=ik f d:=by
 obtain⟨k,rfl⟩:=O7 h;rw[Rv,GB (f:=fun j=>f (d+j)) (fun j ax=>aL (d+j) (by omega) (by omega))];rfl
theorem arb{a:ae}{n:Nat}(h:a.length≤n):(hU a).length=ik (ap a) n:=by
 rw[Wo];refine List.Perm.length_eq ((Q7 (Yk a) (List.nodup_range.filter _)).2 (fun x=>?_));rw[WO,mL,pT,decide_eq_true_iff];exact⟨fun⟨aa,ab⟩=>⟨by omega,ab⟩,fun⟨_,ab⟩=>⟨Nat.lt_of_not_le fun bc=>ab (dD bc),ab⟩⟩
def fY(l:ae)(k:Nat):ae:=l.set (k/ 8) (ap l (k/ 8)^^^2^(k%8))
theorem oY(l:ae)(k:Nat):(fY l k).length=l.length:=by simp[fY]
theorem Fa(k:Nat):2^(k%8)<256:=Nat.pow_lt_pow_right (n:=8) (by omega) (Nat.mod_lt _ (by omega))
theorem IW{l:ae}(bc:∀x∈l,x<256)(k:Nat):∀x∈fY l k,x<256:=Ca bc (Ay (fJ bc _) (Fa k))
theorem Ht{l:ae}{k:Nat}(ah:k<8*l.length)(j:Nat):cz (fY l k) j=cz l j^^^(if j=k then 1 else 0):=by
 unfold cz fY;rw[uX (by omega)];by_cases h:j/ 8=k/ 8
 ·rw[aD h,MC,h];congr 1;rw[ww,QU];by_cases ab:j=k
  ·subst ab;simp
  ·rw[az ab,df (by omega)];rfl
 ·rw[az h,az (by intro e;exact h (by rw[e])),eS]
theorem afq{a b:ae}(bc:a.length=b.length)(aj:∀x∈a,x<256)(ad:∀x∈b,x<256)(h:∀j,j<8*a.length→cz a j=cz b j):a=b:=by
 apply jB;intro i;by_cases hi:i<a.length
 ·have e:ap a i=ap b i:=MM (fJ aj i) (fJ ad i) (fun s aq=>by
   have:=h (8*i+s) (by omega);rw[qu _ _ _ aq,qu _ _ _ aq] at this;exact toNat_inj this)
  rw[p7 hi,p7 (by omega),e]
 ·rw[iq (by omega),iq (by omega)]
def tl(a b:ae)(n:Nat):Nat:=ik (fun j=>cz a j^^^cz b j) n
theorem ami(a:ae)(n:Nat):tl a a n=0:=GB (fun _ _=>Nat.xor_self _)
theorem al7{l:ae}{k:Nat}(ah:k<8*l.length):tl (fY l k) l (8*l.length)=1:=by
 have e:∀j,cz (fY l k) j^^^cz l j=if j=k then 1 else 0:=fun j=>by
  rw[Ht ah,oR,←h5,jy,hQ]
 exact SM ah (by rw[e,aD I];decide) (fun j _ h=>by rw[e,az h])
section
variable{m t:Nat}(h:e3 m t)
include h
theorem P7(d:ae){j:Nat}(ax:j<8*aY m t):cz (fm m t d) j=ap (ch (cK m (b0 m t).1) (bA d)) j:=Sb (h.q6 (en d)) ax
theorem Jy{A:ae}(bs:cc A){j:Nat}(ax:aR m t≤j):ap (ch (cK m (b0 m t).1) A) j=0:=dD (Nat.le_trans (xu h.iv h.g2 bs) ax)
theorem atP{A:ae}(bs:cc A){D:Nat}(bc:A.length≤8*D)(jO:8*D+aR m t≤N m)(ab:2*t<N m):ik (ap (ch (cK m (b0 m t).1) A)) (aR m t)+ik (ap A) (8*D)=0∨2*t+1≤ik (ap (ch (cK m (b0 m t).1) A)) (aR m t)+ik (ap A) (8*D):=by
 have c4:=h.q6 bs;have Pp:=xu h.iv h.g2 bs;have gZ:=iM (gR bs (aR m t)) c4;have q1:∀j,ap (cO (eC (aR m t) A) (ch (cK m (b0 m t).1) A)) j=if aR m t≤j then ap A (j- aR m t) else ap (ch (cK m (b0 m t).1) A) j:=fun j=>by
  rw[ey,jM];split
  ·rename_i ax;rw[Jy h bs ax,eS]
  ·rw[hQ]
 have RQ:(cO (eC (aR m t) A) (ch (cK m (b0 m t).1) A)).length≤aR m t+8*D:=yY gZ (fun j ax=>by rw[q1,aD (by omega),dD (by omega)]);have ag:=arb RQ;rw[Rv] at ag;have bu:ik (ap (cO (eC (aR m t) A) (ch (cK m (b0 m t).1) A))) (aR m t)=ik (ap (ch (cK m (b0 m t).1) A)) (aR m t):=Ei (fun j ax=>by rw[q1,az (by omega)]);have bD:ik (fun j=>ap (cO (eC (aR m t) A) (ch (cK m (b0 m t).1) A)) (aR m t+j)) (8*D)=ik (ap A) (8*D):=Ei (fun j ax=>by rw[q1,aD (by omega),Cg]);rw[bu,bD] at ag;rw[←ag];rcases asD h.ok gZ (by omega) (t:=t) (fun x an aK=>YG h.ok h.g2 bs an aK (by omega)) with an|an
 ·exact .inl (by rw[an];rfl)
 ·exact .inr an
theorem apart{d e:ae}{D:Nat}(aW:d.length=D)(he:e.length=D)(jO:8*D+aR m t≤N m)(ab:2*t<N m):tl d e (8*D)+tl (fm m t d) (fm m t e) (8*aY m t)=0∨2*t+1≤tl d e (8*D)+tl (fm m t d) (fm m t e) (8*aY m t):=by
 have bs:=iM (en d) (en e);have bc:(cO (bA d) (bA e)).length≤8*D:=yY bs (fun j ax=>by rw[ey,gV,gV,qs (by omega),qs (by omega)];rfl);have an:=atP h bs bc jO ab;have bu:ik (ap (cO (bA d) (bA e))) (8*D)=tl d e (8*D):=Ei (fun j _=>by rw[ey,gV,gV]);have bD:tl (fm m t d) (fm m t e) (8*aY m t)=ik (ap (ch (cK m (b0 m t).1) (cO (bA d) (bA e)))) (aR m t):=by
  unfold tl;rw[Ei (f:=fun j=>cz (fm m t d) j^^^cz (fm m t e) j) (g:=ap (ch (cK m (b0 m t).1) (cO (bA d) (bA e)))) (fun j ax=>by rw[P7 h d ax,P7 h e ax,RJ h.iv h.g2 (en d) (en e),ey])];exact aq6 (by unfold aY;omega) (fun j ax _=>Jy h bs ax)
 rw[←bu,bD,B8];exact an
theorem axh{d:ae}{D k:Nat}(aW:d.length=D)(jO:8*D+aR m t≤N m)(ab:2*t<N m)(ah:k<8*D):fm m t (fY d k)≠fm m t d:=fun he=>by
 have aa:=apart h (e:=d) (show(fY d k).length=D by rw[oY,aW]) aW jO ab;have aK:tl (fY d k) d (8*D)=1:=by rw[←aW];exact al7 (by omega)
 rw[aK,he,ami] at aa;have:=h.t1;omega
end
end Go.Proofs.YtcgjepodnfjggaaGreatDoor
end
section
namespace Go.Proofs.YtcgjepodnfjggaaGreatDoor
open Go Go.a6 Go.cv jm
set_option maxRecDepth 100000
theorem anN{p:ae}{j:Nat}(h:j<p.length):bA (p.drop j)=cO (eC 8 (bA (p.drop (j+1)))) (bA [ap p j]):=by
 rw[←aha];congr 1;rw[Iq h];congr 1;unfold ap;rw[eM,eF h];rfl
def jZ(m t k:Nat)(d:ae):ae:=if k<aR m t then d else fY d (k- aR m t)
def jP(m t k:Nat)(p:ae):ae:=if k<aR m t then fY p k else p
theorem Mo(m t k:Nat)(d:ae):(jZ m t k d).length=d.length:=by unfold jZ;split<;>simp[oY]
theorem OX(m t k:Nat)(p:ae):(jP m t k p).length=p.length:=by unfold jP;split<;>simp[oY]
theorem ale{d:ae}(aW:∀x∈d,x<256)(m t k:Nat):∀x∈jZ m t k d,x<256:=by
 unfold jZ;split
 ·exact aW
 ·exact IW aW _
theorem afO{p:ae}(aG:∀x∈p,x<256)(m t k:Nat):∀x∈jP m t k p,x<256:=by
 unfold jP;split
 ·exact IW aG _
 ·exact aG
theorem aqr{m t:Nat}(h:e3 m t):(fw m t).length≤71:=by
 have aa:=CR (cK m (b0 m t).1);have ab:=h.mW;unfold aR at ab;unfold fw;omega
theorem ab0(m t:Nat):aR m t≤8*aY m t:=by unfold aY;omega
theorem V3(bT m t D:Nat)(q:gH)(w:ao)(gB:Has (j8 bT m t D q) w):cC Tryz.prog 152 [.pointer (some ⟨bT,0,none⟩)] w (.int .i64 ((t:Nat):Int)):=by
 obtain⟨hO,tM,uY,pd,dq⟩:=sY gB;exact b8 Tryz.func152 I Tryz.ntmps152 I<|J.aw 1 I<|ak I I<|U.bl 5 I<|ac I I<|bI I I<|bd I I<|c5 I I (fun _ hw=>(hw.a7 hO).fI (j:=1) I)<|ak I I<|U.next<|J.ret<|al.ret Tryz.results152 I (fun w hw=>⟨I,hw.nothing⟩)
theorem Iv(bT m t D:Nat)(q:gH)(w:ao)(gB:Has (j8 bT m t D q) w):cC Tryz.prog 69 [.pointer (some ⟨bT,0,none⟩)] w (.int .i64 ((D:Nat):Int)):=by
 obtain⟨hO,tM,uY,pd,dq⟩:=sY gB;exact b8 Tryz.func69 I Tryz.ntmps69 I<|J.aw 1 I<|ak I I<|U.bl 5 I<|ac I I<|bI I I<|bd I I<|c5 I I (fun _ hw=>(hw.a7 hO).fI (j:=2) I)<|ak I I<|U.next<|J.ret<|al.ret Tryz.results69 I (fun w hw=>⟨I,hw.nothing⟩)
theorem LD(bT m t D:Nat)(q:gH)(w:ao)(gB:Has (j8 bT m t D q) w):cC Tryz.prog 67 [.pointer (some ⟨bT,0,none⟩)] w (.int .i64 ((aY m t:Nat):Int)):=by
 obtain⟨hO,tM,uY,pd,dq⟩:=sY gB;exact b8 Tryz.func67 I Tryz.ntmps67 I<|J.aw 1 I<|ak I I<|U.bl 5 I<|ac I I<|bI I I<|bd I I<|c5 I I (fun _ hw=>(hw.a7 hO).fI (j:=4) I)<|ak I I<|U.next<|J.ret<|al.ret Tryz.results67 I (fun w hw=>⟨I,hw.nothing⟩)
theorem GM(bT m t D:Nat)(q:gH)(w:ao)(gB:Has (j8 bT m t D q) w):cC Tryz.prog 26 [.pointer (some ⟨bT,0,none⟩)] w (.int .i64 ((aR m t:Nat):Int)):=by
 obtain⟨hO,tM,uY,pd,dq⟩:=sY gB;exact b8 Tryz.func26 I Tryz.ntmps26 I<|J.aw 1 I<|ak I I<|U.bl 5 I<|ac I I<|bI I I<|bd I I<|c5 I I (fun _ hw=>(hw.a7 hO).fI (j:=3) I)<|ak I I<|U.next<|J.ret<|al.ret Tryz.results26 I (fun w hw=>⟨I,hw.nothing⟩)
theorem DB(bT m t D:Nat)(q:gH)(w:ao)(gB:Has (j8 bT m t D q) w):cC Tryz.prog 151 [.pointer (some ⟨bT,0,none⟩)] w (.pointer (some ⟨q.f,0,none⟩)):=by
 obtain⟨hO,tM,uY,pd,dq⟩:=sY gB;exact b8 Tryz.func151 I Tryz.ntmps151 I<|J.aw 1 I<|ak I I<|U.bl 5 I<|ac I I<|bI I I<|bd I I<|c5 I I (fun _ hw=>(hw.a7 hO).fI (j:=0) I)<|ak I I<|U.next<|J.ret<|al.ret Tryz.results151 I (fun w hw=>⟨I,hw.nothing⟩)
theorem Ee(bT m t D:Nat)(q:gH)(w:ao)(di:e3 m t)(s9:D≤2048)(gB:Has (j8 bT m t D q) w):cC Tryz.prog 154 [.pointer (some ⟨bT,0,none⟩)] w (.int .i64 ((8*D+aR m t:Nat):Int)):=by
 obtain⟨hO,tM,uY,pd,dq⟩:=sY gB;have xv:=di.mW;exact b8 Tryz.func154 I Tryz.ntmps154 I<|J.aw 1 I<|ak I I<|U.next<|J.seq<|J.dQ (bW [0,1,2,3,4,5,6,7,8,9,10] .done) (bF w []) mixed (by kernel_rfl) (fun _ h=>h.drew) (fun _ h=>h)<|ac I I<|bI I I<|bd I I<|dc I I (fun _ hw=>(hw.a7 hO).fI (j:=2) I)<|jE I I I (r:=((8*D:Nat):Int)) (by rw[show(8:Int)*((D:Nat):Int)=((8*D:Nat):Int) by omega];exact bm (by omega))<|ac I I<|bI I I<|bd I I<|dc I I (fun _ hw=>(hw.a7 hO).fI (j:=3) I)<|b1 I I I (r:=((8*D+aR m t:Nat):Int)) (bm (by omega))<|ak I I<|U.next<|J.ret<|al.ret Tryz.results154 I (fun w hw=>⟨I,hw.nothing⟩)
theorem aen(bT m t D:Nat)(q:gH)(A:aN)(n c:Nat)(p:ae)(w:ao)(di:e3 m t)(aM:q.p0 m t)(gB:Has (j8 bT m t D q) w)(aj:Has (aP 1 A n (aA .u8 p)) w)(aG:∀x∈p,x<256)(aQ:n≤1073741824)(gL:n≤c)(o7:n=D):fh Tryz.prog 63 [.pointer (some ⟨bT,0,none⟩),.slice A n c,.func (.func 64) #[.pointer (some ⟨bT,0,none⟩)] #[]] w (X:=aN×Nat) (fun z=>two (.slice z.1 (fm m t p).length z.2) .nilIface) (fun z=>(fm m t p).length≤z.2) (fun z=>[own 5 1 z.1 (fm m t p).length z.2 (aA .u8 (fm m t p))]):=by
 have eA:=kc aj;subst eA;subst o7;obtain⟨hO,tM,uY,pd,dq⟩:=sY gB;have yU:=di.ix;have LI:=di.o0;refine b8 Tryz.func63 I Tryz.ntmps63 I<|J.aw 2 I<|ak I I<|ak I I<|U.next<|J.seq<|J.aw 7 I<|ac I I<|cf I I<|ac I I<|bI I I<|bd I I<|c5 I I (fun _ hw=>(hw.a7 hO).fI (j:=2) I)<|jT I I I (df (fun h=>h I))<|U.next<|J.dy I<|J.skip<|al.code<|J.aw 6 I<|ac I I<|bI I I<|bd I I<|c5 I I (fun _ hw=>(hw.a7 hO).fI (j:=4) I)<|lP (aY m t) I I I I I (by omega) aJ<|fun r=>ak I I<|U.next<|J.seq<|J.aw 4 I<|ac I I<|cf I I<|eB I I I (r:=((p.length:Nat):Int)- 1) (bm (by omega))<|ak I I<|U.next<|J.block<|J.loop (G:=Nat) (fun k=>[(0,.pointer (some ⟨bT,0,none⟩)),(1,.slice A p.length c),(2,.func (.func 64) #[.pointer (some ⟨bT,0,none⟩)] #[]),(8,.slice (some ⟨r,0,none⟩) (aY m t) (aY m t)),(9,.int .i64 (((k:Nat):Int)- 1))]) (fun k=>bF w [aE r 5 (kj m t (bA (p.drop k)))]) (fun k=>k≤p.length) (fun k=>k) p.length ⟨I,I,I,I,I,trivial⟩ (fun _ hw=>by rw[Oj,asd,←di.zero];exact hw) (cq _) ?_;intro k ah;refine J.seq<|J.aw 2 I<|ac I I<|jz I I I I<|U.next ?_;refine J.test I (fun ag=>?_) (fun ag=>?_)
 ·obtain⟨j,rfl⟩:∃j,k=j+1:=⟨k- 1,by omega⟩;refine J.skip<|al.code<|J.seq<|J.block<|J.rg 7 I<|ac I I<|ac I I<|ac I I<|ac I I<|fH j (fun w hw=>hw.a7 aj) I I I (by omega) (by omega)<|jN (fun w hw=>hw.a7 aj) I I (by rw[dJ];exact jk (by omega)) (by omega) ?_;refine sU 0 I I I I I (fun aZ bG=>by
   obtain⟨cs,bw,c2,bc,bb⟩:=atx aM (bG.Qj (i:=0) rfl gB);exact ads bT r m t cs bw c2 (aY m t) (bA (p.drop (j+1))) (ap p j) aZ di bc bb (cq _) (en _) (fJ aG j) (bG.qx (i:=0) I)) aJ ?_
  exact U.end_<|al.aE<|al.code<|J.rg 3 I<|ac I I<|eB I I I (r:=((j:Nat):Int)- 1) (by rw[show((j+1:Nat):Int)- 1- 1=((j:Nat):Int)- 1 by omega];exact bm (by omega))<|ak I I<|U.end_<|al.back j ⟨I,I,I,I,I,trivial⟩ (fun _ hw=>by rw[anN (by omega)];exact hw) (by omega) (by omega)
 ·obtain rfl:k=0:=by omega
  refine J.exit I<|al.code<|J.aw 3 I<|ac I I<|ak I I<|ak I I<|U.next<|J.ret ?_;exact al.ret Tryz.results63 I (fun w hw=>⟨(some ⟨r,0,none⟩,aY m t),by rw[sE];rfl,by rw[sE];exact cq _,by
   rw[IB,aq1] at hw;rw[sE];exact hw.st (q:=0) (c:=aY m t) (sz:=1) I (by simp[sE]) (by unfold maxLen;omega)⟩)
theorem aud(bT m t D:Nat)(q:gH)(A:aN)(n c:Nat)(p:ae)(w:ao)(di:e3 m t)(aM:q.p0 m t)(gB:Has (j8 bT m t D q) w)(aj:Has (aP 1 A n (aA .u8 p)) w)(aG:∀x∈p,x<256)(aQ:n≤1073741824)(gL:n≤c)(o7:n=D):fh Tryz.prog 25 [.pointer (some ⟨bT,0,none⟩),.slice A n c] w (X:=aN×Nat) (fun z=>two (.slice z.1 (fm m t p).length z.2) .nilIface) (fun z=>(fm m t p).length≤z.2) (fun z=>[own 5 1 z.1 (fm m t p).length z.2 (aA .u8 (fm m t p))]):=by
 exact b8 Tryz.func25 I Tryz.ntmps25 I<|J.aw 2 I<|ak I I<|ak I I<|U.bl 9 I<|ac I I<|ac I I<|ac I I<|oo I I I<|dh I I I I (fun w hw=>aen bT m t D q A n c p w di aM (hw.a7 gB) (hw.a7 aj) aG aQ gL o7) aJ<|fun z aL=>cB I I I<|cB I I I<|ak I I<|ak I I<|U.next<|J.ret<|al.ret Tryz.results25 I (fun w hw=>⟨z,I,aL,hw⟩)
theorem T7(bT m t D:Nat)(q:gH)(A:aN)(n c:Nat)(p:ae)(bw:aN)(cD c2:Nat)(ay:ae)(k:Nat)(w:ao)(di:e3 m t)(s9:D≤2048)(gB:Has (j8 bT m t D q) w)(aj:Has (aP 1 A n (aA .u8 p)) w)(aG:∀x∈p,x<256)(aQ:n≤1073741824)(gL:n≤c)(eU:Has (aP 1 bw cD (aA .u8 ay)) w)(fF:∀x∈ay,x<256)(eX:cD≤1073741824)(ya:cD≤c2)(o7:n=D)(axw:cD=aY m t)(ah:k<8*D+aR m t):fh Tryz.prog 155 [.pointer (some ⟨bT,0,none⟩),.slice A n c,.slice bw cD c2,.int .i64 (k:Nat)] w (X:=(aN×Nat)×(aN×Nat)) (fun z=>xL (.slice z.1.1 (jZ m t k p).length z.1.2) (.slice z.2.1 (jP m t k ay).length z.2.2) .nilIface) (fun z=>(jZ m t k p).length≤z.1.2∧(jP m t k ay).length≤z.2.2) (fun z=>[own 5 1 z.1.1 (jZ m t k p).length z.1.2 (aA .u8 (jZ m t k p)),own 5 1 z.2.1 (jP m t k ay).length z.2.2 (aA .u8 (jP m t k ay))]):=by
 have eA:=kc aj;subst eA;have lT:=kc eU;subst lT;obtain⟨hO,tM,uY,pd,dq⟩:=sY gB;have xW:=ab0 m t;have xv:=di.mW;refine b8 Tryz.func155 I Tryz.ntmps155 I<|J.aw 3 I<|ak I I<|ak I I<|ak I I<|U.next<|J.seq<|J.block<|J.aw 17 I<|ac I I<|cf I I<|ac I I<|bI I I<|bd I I<|c5 I I (fun _ hw=>(hw.a7 hO).fI (j:=2) I)<|jT I I I (df (by omega))<|ac I I<|ac I I<|cf I I<|ac I I<|bI I I<|bd I I<|c5 I I (fun _ hw=>(hw.a7 hO).fI (j:=4) I)<|jT I I I (df (by omega))<|ef I I I<|ak I I<|U.next<|J.dy I<|J.aw 9 I<|ac I I<|cQ I I I (df (by omega))<|ac I I<|ac I I<|ac I I<|bJ I I I I (fun w hw=>Ee bT m t D q w di s9 (hw.a7 gB)) aJ<|jz I I I (df (by omega))<|ef I I I<|ak I I<|U.next<|J.dy I<|J.skip<|al.aE<|al.code<|J.aw 6 I<|ac I I<|s0 (m2:=p.length) I I I (ys:=aA .u8 p) (fun w hw=>hw.a7 aj) (mz _ _) I (by omega) (by unfold maxLen;omega) (by omega) (fun _ _ _ _=>trivial)<|fun Vh xx Wg=>ac rfl rfl<|s0 (m2:=ay.length) rfl rfl rfl (ys:=aA .u8 ay) (fun w hw=>hw.a7 eU) (mz _ _) rfl (by omega) (by unfold maxLen;omega) (by omega) (fun _ _ _ _=>trivial)<|fun abZ I1 S7=>ak rfl rfl<|ak rfl rfl<|U.next<|J.seq<|J.aw 6 rfl<|ac rfl rfl<|ac rfl rfl<|bI rfl rfl<|bd rfl rfl<|c5 rfl rfl (fun _ hw=>(hw.a7 hO).fI (j:=3) rfl)<|cQ rfl rfl rfl rfl<|U.next ?_;refine J.test I (fun ag=>?_) (fun ag=>?_)
 ·have p3:k<aR m t:=by omega
  have yW:jZ m t k p=p:=aD p3;have y8:jP m t k ay=fY ay k:=aD p3;refine J.dQ (bW [0,1,2,3,5,6,7] (cj [4] (bW [8,9] (cj [10] .done)))) (bF w []) mixed (by kernel_rfl) (fun _ h=>h.drew) (fun _ hw=>hw.om)<|ac I I<|ac I I<|mM I I I (by omega) (ov k (by omega))<|gT 0 (k/ 8) I I I I I (by omega)<|ac I I<|h4 I I I (by omega) (pv k)<|ir I I I (by omega) (r:=((2^(k%8):Nat):Int)) (by rw[show(1:Int)=((1:Nat):Int) from I,pG (by omega),q3,ll (Fa _)])<|km 0 I I I (jk (by omega))<|dY I I I I (sA (fJ fF _) (Fa _))<|gT 0 (k/ 8) I I I I I (by omega)<|pw 0 I I I I I (by omega) (fun _ hw=>hw.om)<|U.bl 5 I<|ac I I<|ac I I<|ak I I<|ak I I<|ak I I<|U.next<|J.ret ?_;exact al.ret Tryz.results155 I (fun w hw=>⟨((Vh,xx),(abZ,I1)),by rw[yW,y8,oY];rfl,by rw[yW,y8,oY];exact⟨Wg,S7⟩,by
   rw[yW,y8,oY];rw[xC] at hw;exact hw.pick [1,0] I⟩)
 ·have p3:¬k<aR m t:=by omega
  have yW:jZ m t k p=fY p (k- aR m t):=az p3;have y8:jP m t k ay=ay:=az p3;refine J.aw 7 I<|ac I I<|ac I I<|bI I I<|bd I I<|c5 I I (fun _ hw=>(hw.a7 hO).fI (j:=3) I)<|eB I I I (r:=((k- aR m t:Nat):Int)) (by rw[show((k:Nat):Int)- ((aR m t:Nat):Int)=((k- aR m t:Nat):Int) by omega];exact bm (by omega))<|ak I I<|U.next<|J.dQ (bW [0,1,2,3,5,6,7] (cj [4] (bW [8,9] (cj [10] .done)))) (bF w []) mixed (by kernel_rfl) (fun _ h=>h.drew) (fun _ hw=>hw.om)<|ac I I<|ac I I<|mM I I I (by omega) (ov (k- aR m t) (by omega))<|gT 1 ((k- aR m t)/ 8) I I I I I (by omega)<|ac I I<|h4 I I I (by omega) (pv (k- aR m t))<|ir I I I (by omega) (r:=((2^((k- aR m t)%8):Nat):Int)) (by rw[show(1:Int)=((1:Nat):Int) from I,pG (by omega),q3,ll (Fa _)])<|km 1 I I I (jk (by omega))<|dY I I I I (sA (fJ aG _) (Fa _))<|gT 1 ((k- aR m t)/ 8) I I I I I (by omega)<|pw 1 I I I I I (by omega) (fun _ hw=>hw.om)<|U.bl 5 I<|ac I I<|ac I I<|ak I I<|ak I I<|ak I I<|U.next<|J.ret ?_;exact al.ret Tryz.results155 I (fun w hw=>⟨((Vh,xx),(abZ,I1)),by rw[yW,y8,oY];rfl,by rw[yW,y8,oY];exact⟨Wg,S7⟩,by
   rw[yW,y8,oY];simp only[wD,DO,xC] at hw;exact hw.pick [1,0] I⟩)
end Go.Proofs.YtcgjepodnfjggaaGreatDoor
end
section
namespace Go.Proofs.YtcgjepodnfjggaaGreatDoor
open Go Go.a6 Go.cv
set_option maxRecDepth 100000
theorem ajL{x:Nat}(h:x<4294967296)(i:Nat):AS x i<4294967296:=Rz h i
theorem an6(x:Nat)(w:ao)(af:x<4294967296):cC Tryz.prog 201 [.int .u32 (x:Nat)] w (.int .u32 (Ej x:Nat)):=by
 exact b8 Tryz.func201 I Tryz.ntmps201 I<|J.aw 1 I<|ak I I<|U.bl 8 I<|ac I I<|iw I I I (by omega) (r:=((x/ 2^1:Nat):Int)) (Dg (k:=1) (by omega) (by decide))<|ac I I<|dY I I I I (r:=((x%2:Nat):Int)) (by rw[show(1:Int)=((1:Nat):Int) from I,WM af (by omega),Dk])<|Rw I I (aqK x)<|dY I I I I (r:=((if x%2=1 then 0xEDB88320 else 0:Nat):Int)) (by rw[show(3988292384:Int)=((3988292384:Nat):Int) from I,WM (by omega) (by split<;>omega),ajD])<|dY rfl rfl rfl rfl (r:=((Ej x:Nat):Int)) (by rw[Qx (by omega) (by split<;>omega)];rfl)<|ak rfl rfl<|U.next<|J.ret<|al.ret Tryz.results201 rfl (fun w hw=>⟨rfl,hw.nothing⟩)
theorem amF(r x c:Nat)(w:ao)(af:x<4294967296)(ag:c<256)(hw:w.heap[r]?=some (.cells #[.int .u32 ((x:Nat):Int)] 251 (0,0))):tP Tryz.prog 144 [.pointer (some ⟨r,0,none⟩),.int .u8 (c:Nat)] w r 251 #[.int .u32 ((sb x c:Nat):Int)] (oneOf []):=by
 have alw:x^^^c<4294967296:=mR (n:=32) af (by omega);refine wP Tryz.func144 I Tryz.ntmps144 I hw ?_;refine J.aw 10 I ?_;refine ac I I ?_;refine bI I I ?_;refine bd I I ?_;refine cm 0 I I I (v:=.int .u32 (x:Nat)) I ?_;refine ac I I ?_;refine gW I I (Lr (by omega)) ?_;refine dY I I I I (r:=((x^^^c:Nat):Int)) (Qx af (by omega)) ?_;refine bI I I ?_;refine bd I I ?_;refine eh 0 I I I I I Nat.one_pos aJ ?_;refine U.bl 1 I ?_;refine ac I I ?_;refine U.next ?_;refine J.block ?_;refine J.loop (G:=Nat) (fun i=>[(0,.pointer (some ⟨r,0,none⟩)),(13,.int .i64 (i:Nat))]) (fun i=>au (hs r w) w [aE r 251 #[.int .u32 ((AS (x^^^c) i:Nat):Int)]]) (fun i=>i≤8) (fun i=>8- i) 0 ⟨I,I,trivial⟩ (fun _ hw=>hw) (dg _) ?_;intro i hi;have Jz:=ajL alw i;refine J.aw 1 I<|cQ I I I I<|U.next<|J.seq ?_;refine J.test I (fun ag=>?_) (fun ag=>?_)
 ·refine J.skip<|al.code<|J.seq<|J.block<|J.rg 9 I<|ac I I<|ac I I<|bI I I<|bd I I<|cm 0 I I I (v:=.int .u32 (AS (x^^^c) i:Nat)) I<|bJ I I I I (fun aZ _=>an6 _ aZ Jz) aJ<|bI I I<|bd I I<|eh 0 I I I I I Nat.one_pos aJ<|U.end_<|al.aE<|al.code<|J.rg 2 I<|b1 I I I (r:=((i+1:Nat):Int)) (bm (by omega))<|ac I I<|U.end_ ?_;exact al.back (i+1) ⟨I,I,trivial⟩ (fun _ hw=>hw) (by omega) (by omega)
 ·obtain rfl:i=8:=by omega
  exact J.exit I<|al.ret Tryz.results144 I (fun _ hw=>⟨I,hw⟩)
theorem ag2{p:ae}{x i:Nat}(h:i<p.length):(p.take (i+1)).foldl sb x=sb ((p.take i).foldl sb x) (ap p i):=by
 rw[pN,xZ,eF h];have:ap p i=p[i]:=by unfold ap;rw[eM,eF h];rfl
 rw[this];rfl
theorem atn{p:ae}{x:Nat}(af:x<4294967296)(aG:∀c∈p,c<256)(i:Nat):(p.take i).foldl sb x<4294967296:=JS (p.take i) af (fun c ag=>aG c (List.mem_of_mem_take ag))
theorem aqm(r x:Nat)(A:aN)(n c:Nat)(p:ae)(w:ao)(af:x<4294967296)(aG:∀z∈p,z<256)(aQ:n≤1000000)(aj:hP r (aP 1 A n (aA .u8 p)) w)(hw:w.heap[r]?=some (.cells #[.int .u32 ((x:Nat):Int)] 251 (0,0))):tP Tryz.prog 143 [.slice A n c,.func (.func 144) #[.pointer (some ⟨r,0,none⟩)] #[]] w r 251 #[.int .u32 ((p.foldl sb x:Nat):Int)] (oneOf []):=by
 have o1:p.length=n:=by have:=aj.has.hE;simpa[aA] using this
 subst o1;refine wP Tryz.func143 I Tryz.ntmps143 I hw<|J.aw 3 I<|ac I I<|cf I I<|ac I I<|U.next<|J.block<|J.loop (G:=Nat) (fun i=>[(0,.slice A p.length c),(1,.func (.func 144) #[.pointer (some ⟨r,0,none⟩)] #[]),(6,.slice A p.length c),(7,.int .i64 (p.length:Nat)),(8,.int .i64 (i:Nat))]) (fun i=>au (hs r w) w [aE r 251 #[.int .u32 (((p.take i).foldl sb x:Nat):Int)]]) (fun i=>i≤p.length) (fun i=>p.length- i) 0 ⟨I,I,I,I,I,trivial⟩ (fun _ hw=>hw) (dg _) ?_;intro i hi;have aoH:=atn af aG i;refine J.aw 1 I<|cQ I I I I<|U.next<|J.seq ?_;refine J.test I (fun ag=>?_) (fun ag=>?_)
 ·exact J.skip<|al.code<|J.seq<|J.block<|J.aw 3 I<|fH i (fun w hw=>(hw.mi aj).has) I I I I (by omega)<|jN (fun w hw=>(hw.mi aj).has) I I (by rw[dJ];exact jk (by omega)) (by omega)<|ak I I<|U.next<|J.rg 3 I<|ac I I<|ac I I<|sU 0 I I I I I (fun aZ bG=>amF r _ (ap p i) aZ aoH (fJ aG i) (bG.qx (i:=0) I)) aJ<|U.end_<|al.aE<|al.code<|J.rg 2 I<|b1 I I I (r:=((i+1:Nat):Int)) (bm (by omega))<|ac I I<|U.end_<|al.back (i+1) ⟨I,I,I,I,I,trivial⟩ (fun _ hw=>by rw[ag2 (by omega)];exact hw) (by omega) (by omega)
 ·obtain rfl:i=p.length:=by omega
  exact J.exit I<|al.ret Tryz.results143 I (fun _ hw=>⟨I,by rw[m4] at hw;exact hw⟩)
theorem ao6(r x:Nat)(A:aN)(n c:Nat)(p:ae)(w:ao)(af:x<4294967296)(aG:∀z∈p,z<256)(aQ:n≤1000000)(aj:hP r (aP 1 A n (aA .u8 p)) w)(hw:w.heap[r]?=some (.cells #[.int .u32 ((x:Nat):Int)] 251 (0,0))):tP Tryz.prog 105 [.pointer (some ⟨r,0,none⟩),.slice A n c] w r 251 #[.int .u32 ((p.foldl sb x:Nat):Int)] (oneOf []):=by
 exact wP Tryz.func105 I Tryz.ntmps105 I hw<|J.rg 4 I<|ac I I<|ac I I<|oo I I I<|sU 0 I I I I I (fun aZ bG=>aqm r x A n c p aZ af aG aQ (bG.mi aj) (bG.qx (i:=0) I)) aJ<|U.end_<|al.ret Tryz.results105 I (fun _ hw=>⟨I,hw⟩)
theorem adx(r x:Nat)(w:ao)(af:x<4294967296)(ad:Has (aE r 251 #[.int .u32 ((x:Nat):Int)]) w):cC Tryz.prog 106 [.pointer (some ⟨r,0,none⟩)] w (.int .i64 ((x^^^0xFFFFFFFF:Nat):Int)):=by
 have yB:x^^^0xFFFFFFFF<4294967296:=mR (n:=32) af (by omega);exact b8 Tryz.func106 I Tryz.ntmps106 I<|J.aw 1 I<|ak I I<|U.bl 7 I<|ac I I<|bI I I<|bd I I<|c5 I I (fun _ hw=>(hw.a7 ad).fI (j:=0) I)<|dY I I I I (r:=((x^^^0xFFFFFFFF:Nat):Int)) (by rw[show(4294967295:Int)=((4294967295:Nat):Int) from I,Qx af (by omega)])<|gW I I (bm (by omega))<|ak I I<|U.next<|J.ret<|al.ret Tryz.results106 I (fun w hw=>⟨I,hw.nothing⟩)
theorem akZ(w:ao):fh Tryz.prog 104 [] w (X:=Nat) (fun g=>.pointer (some ⟨g,0,none⟩)) (fun _=>True) (fun g=>[aE g 251 #[.int .u32 ((0xFFFFFFFF:Nat):Int)]]):=by
 exact b8 Tryz.func104 I Tryz.ntmps104 I<|J.aw 1 I<|ak I I<|U.bl 3 I<|gl I I I<|fx I I aJ<|fun g=>ak I I<|U.next<|J.ret<|al.ret Tryz.results104 I (fun w hw=>⟨g,I,trivial,hw⟩)
theorem wa(A:aN)(n c:Nat)(p:ae)(w:ao)(aG:∀z∈p,z<256)(aQ:n≤1000000)(aj:Has (aP 1 A n (aA .u8 p)) w):cC Tryz.prog 59 [.slice A n c] w (.int .i64 ((fz p:Nat):Int)):=by
 exact b8 Tryz.func59 I Tryz.ntmps59 I<|J.aw 1 I<|ak I I<|U.bl 2 I<|dh I I I I (fun aZ _=>akZ aZ) aJ<|fun g _=>ak I I<|U.bl 3 I<|ac I I<|ac I I<|sU 0 I I I I I (fun aZ bG=>ao6 g 0xFFFFFFFF A n c p aZ (by omega) aG aQ (bG.Qj (i:=0) I aj) (bG.qx (i:=0) I)) aJ<|U.bl 3 I<|ac I I<|bJ I I I I (fun aZ bG=>adx g _ aZ (JS p (by omega) aG) (bG.has (i:=0) I)) aJ<|ak I I<|U.next<|J.ret<|al.ret Tryz.results59 I (fun w hw=>⟨I,hw.nothing⟩)
end Go.Proofs.YtcgjepodnfjggaaGreatDoor
end
section
namespace Go.a6
open Go
theorem agN{P:a8}{w:ao}{T mq E gq ty:aO}{inf:TypeInfo}{u v:aV}(aa:P.underlying T=some (.slice E))(ab:P.underlying mq=some (.slice gq))(hi:P.info? E=some inf):(Builtin.append_ #[T,mq] ty #[u,v]).run P w=(Builtin.append_ #[T,T] ty #[u,v]).run P w:=by
 cases u<;>simp[Builtin.append_,run_underlying aa,run_underlying ab,sizeOf,mf hi]
section
variable{P:a8}{ops:Array Oper}{S:ao→Prop}{K:Act→ao→Prop}{p:eR}{n:Nat}{l:List (Nat×aV)}{C:ao→Prop}{fl:Bool}{i:Nat}{ty dr dk tR:aO}{x y z u:bf}
variable{F:Nat→Prop}{w₀:ao}{L dv:List bi}
theorem ali{d:Nat}(q:Nat){E sz by_:Nat}{zv:aV}{A B:aN}{m c m2 c2:Nat}{xs ys:cw}{T mq gq afW RD:aO}{RV:aV}(hi:L[q]?=some (own E sz A m c xs))
  (av:cG ops n l i=some (some d,.call ⟨.builtin .append, #[x,y], #[T,mq]⟩,ty)) [cE:dN P T E sz by_ zv] [anc:dN P mq gq afW RD RV] (af:bk l x=some (.slice A m c)) (aF:bk l y=some (.slice B m2 c2))
  (br:∀w,au F w₀ L w→Has (aP sz B m2 ys) w) (aa:ys.all (·.oneCell')=true) (aL:zv.cells.size=sz) (aB:0<sz) (Df:m+m2≤maxLen) (ad:(m+m2)*by_≤140737488355328)
  (be:∀c8 dp w,au F w₀ (L.set q (own E sz c8 (m+m2) dp (xs++ys))) w→S w)
  (h:∀c8 dp,m+m2≤dp→U P ops S K p n ((d,.slice c8 (m+m2) dp)::l) (au F w₀ (L.set q (own E sz c8 (m+m2) dp (xs++ys))))):U P ops S K (.bB false i p) n l (au F w₀ L):=by
 obtain⟨inf,oK,aq,nB,kW⟩:=cE.rq;refine U.act (d:=some d) (X:={q:aN×Nat// m+m2≤q.2}) (v:=fun r=>.slice r.1.1 (m+m2) r.1.2) (ec:=fun r=>au F w₀ (L.set q (own E sz r.1.1 (m+m2) r.1.2 (xs++ys)))) av (fun a w o he hw x2 tn=>?_) (fun r w hw=>be _ _ w hw) (fun r=>h _ _ r.2);obtain⟨D,⟨sp,eg⟩,ca,kv⟩:=hw.rO hi;have hf:=br w hw;have hex:∀(v:aV) (ar:ao),(Builtin.append_ #[T,T] ty #[.slice A m c,.slice B m2 c2]).run P w=.ok v ar→(execOp a.eval o).run P w=.ok (.value v) ar:=fun v ar aH=>by
  simp only[execOp,x2,tn,resolve,Sem.run_bind,Sem.run_pure,Result.andThen_ok,invoke,builtin,oH,hW,lm,he.bk af,he.bk aF,agN cE.under anc.under oK,aH]
 have sh:m≤c:=by
  rcases sp.2 with⟨h,ab⟩|⟨g,cap,cur,h,_,_,ab,_⟩
  ·injection h;omega
  ·injection h;omega
 by_cases aQ:B=none
 ·subst aQ;have EO:m2=0:=by
   by_cases h:m2=0
   ·exact h
   ·have:=hf.yV h;cases this
  subst EO;have KG:ys=[]:=kS (by rw[hf.hE];omega);subst KG;exact⟨⟨(A,c),by omega⟩,w,.inl (hex _ _ (UB sh)),by
   have:=kv w (own E sz A (m+0) c (xs++[])) D ⟨rfl,rfl,rfl,cq _,fun _ _=>rfl⟩ ⟨by simpa using sp,eg⟩ (fun k ah=>⟨.inl ah,ca k ah⟩);exact this⟩
 ·obtain⟨b,rfl⟩:∃b,B=some b:=by cases B with|none=>exact absurd rfl aQ|some b=>exact⟨b,rfl⟩
  have FC:∀j u,ys[j]?=some u→w.cell? (b.add j)=some u:=fun j u ax=>by
   have e7:m2≠0:=fun h=>by
    have:=hf.hE;rw[h,jc] at this;rw[kS this] at ax;simp at ax
   have ab:=hf.xT e7 ax;have an:=ab.1;rw[eb] at an;rw[an,lB];exact ab.2
  obtain⟨a1,ar,aH,k1,k2,bx,cl⟩:=run_append_own_at (P:=P) w 0 T ty E inf zv sz by_ cE.under oK kW aq nB aL aB (.slice A m c) m xs sp b m2 c2 ys hf.hE FC (lf.1 aa) Df ad (dg _);obtain⟨c8,dp,rfl,hle⟩:∃c8 dp,a1=.slice c8 (m+m2) dp∧m+m2≤dp:=by
   rcases k1.2 with⟨rfl,h⟩|⟨g,cap,cur,rfl,_,_,h,_⟩
   ·exact⟨none,0,by rw[h],by omega⟩
   ·exact⟨_,_,I,h⟩
  refine⟨⟨(c8,dp),hle⟩,ar,.inl (hex _ _ aH),kv ar (own E sz c8 (m+m2) dp (xs++ys)) (fun k=>c8≠none∧k=ob c8) ⟨k2.os,k2.tape,k2.output,k2.size,fun k ah=>k2.block k ah.1 (fun h=>?_)⟩ ⟨k1,fun k=>qT⟩ (fun k ah=>?_)⟩
  ·refine ah.2 ((eg k).2 ?_);rw[qW] at h;cases A with
   |none=>cases h
   |some a=>exact⟨by simp,by simpa[ob] using h⟩
  ·obtain⟨bN,rfl⟩:∃bN,c8=some bN:=by cases c8 with|none=>exact absurd rfl ah.1|some b=>exact⟨b,rfl⟩
   have jx:k=bN.block:=ah.2;subst jx;refine⟨?_,?_⟩
   ·rcases cl with h|h
    ·rw[qW,qW] at h;cases A with
     |none=>cases h
     |some a=>exact .inl ((eg _).2 ⟨by simp,by simpa[ob] using h⟩)
    ·rw[qW] at h;simp at h;exact .inr (by omega)
   ·rcases k1.2 with⟨h,_⟩|⟨g,cap,cur,h,_,ab,_⟩
    ·injection h with h;cases h
    ·injection h with h;simp only[eb] at h;subst h;obtain⟨an,_⟩:=vP.1 ab;exact an
end
section
variable{F:Nat→Prop}{w₀ w:ao}{L:List bi}
theorem au.acZ{q E sz m fN c:Nat}{A:aN}{xs:cw}(hi:L[q]?=some (own E sz A m c xs))(hm:fN≤m)(h:au F w₀ L w):au F w₀ (L.set q (own E sz A fN c (xs.take (fN*sz)))) w:=
 h.swap hi (fun w D ⟨⟨aa,ab⟩,an⟩ _=>by
  have hle:fN*sz≤m*sz:=xo _ hm;refine⟨D,⟨⟨by rw[fW,aa];exact kx hle,?_⟩,an⟩,fun _ h=>h⟩;rcases ab with⟨k1,k2⟩|⟨g,cap,cur,br,bg,c6,ag,OB,fU,vT⟩
  ·injection k1 with bu bD dl;refine .inl ⟨?_,by omega⟩;rw[bu,dl];congr 1;omega
  ·injection br with bu bD dl;refine .inr ⟨g,cap,cur,by rw[bu,dl],bg,c6,sW hm ag,OB,fU,?_⟩;rw[←vT,Az,kx hle])
end
theorem akI{P:a8}{w:ao}(op:BinOp)(T:aO)(x y:bf)(A:aN)(m c:Nat)(b:aV):(eqGuard op T x y (.slice A m c) b).run P w=.ok () w:=by
 unfold eqGuard;cases op<;>first|rfl|(cases b<;>rfl)
section
variable{P:a8}{ops:Array Oper}{S:ao→Prop}{K:Act→ao→Prop}{p:eR}{n:Nat}{l:List (Nat×aV)}{C:ao→Prop}{fl:Bool}{i:Nat}{ty dr dk tR:aO}{x y z u:bf}
variable{F:Nat→Prop}{w₀:ao}{L dv:List bi}
theorem Wi{d E sz by_:Nat}{zv:aV}{A:aN}{m c:Nat}{r:Bool}(av:cG ops n l i=some (some d,.binOp .eql ty x (.const (.slice none 0 0)) dr,dk))[cE:dN P ty E sz by_ zv](af:bk l x=some (.slice A m c))(aH:A.isNone=r)
  (h:U P ops S K p n ((d,.bool r)::l) C):U P ops S K (.bB fl i p) n l C:=
 U.pure av (fun a w o he aa _=>by
  have bu:a.eval (.const (.slice none 0 0))=.slice none 0 0:=rfl;have bD:(binOp .eql ty (.slice A m c) (.slice none 0 0)).run P w=.ok (.bool r) w:=by
   simp only[binOp,Op.equal,Op.maxDepth,Sem.run_bind];rw[Op.equalIn];subst aH;cases A<;>simp[run_underlying cE.under]
  simp only[execOp,aa,he.bk af,bu,Sem.run_bind,akI,bD,Result.andThen_ok,Sem.run_pure]) h
theorem Yg{d E sz by_:Nat}{zv:aV}(av:cG ops n l i=some (some d,.buildSlice dr 0 #[],ty))[cE:dN P dr E sz by_ zv](be:∀w,au F w₀ L w→S w)
  (h:∀g,U P ops S K p n ((d,.slice (some ⟨g,0,none⟩) 0 0)::l) (au F w₀ (aE g E #[]::L))):U P ops S K (.bB false i p) n l (au F w₀ L):=
 yr (v:=fun g=>.slice (some ⟨g,0,none⟩) 0 0) av (fun a w o he aa _=>by
  obtain⟨inf,oK,aq,_,aL⟩:=cE.rq;have bD:(Instr.buildSlice dr 0 #[]).run P w=.ok (.slice (some ⟨w.heap.size,0,none⟩) 0 0) (w.alloc (.cells #[] E)):=by
   have aI:Instr.fill (fun i=>some (i*sz,sz)) (Array.map (fun _=>default) (Array.range 0)) []=some #[]:=by simp[Instr.fill]
   simp only[Instr.buildSlice,Sem.run_bind,run_underlying cE.under,Result.andThen_ok,sizeOf,mf oK,aq,Sem.run_pure,jc,aD,newRow];rw[az (by omega)];simp[aI]
  have bu:(#[]:Array (Nat×bf)).map (fun(q:Nat×bf)=>(q.1,a.eval q.2))= #[]:=by simp
  simp only[execOp,aa,Sem.run_bind,bu,bD,Result.andThen_ok,Sem.run_pure]) be h
theorem au.XN{q g E sz:Nat}{w:ao}(hi:L[q]?=some (aE g E #[]))(h:au F w₀ L w):au F w₀ (L.set q (own E sz (some ⟨g,0,none⟩) 0 0 [])) w:=by
 have:=h.FK (q:=q) (m:=0) (c:=0) (sz:=sz) hi (by simp) (cq _) (by unfold maxLen;omega);simpa using this
theorem FQ(q:Nat){E sz j:Nat}{A:aN}{m c:Nat}{xs:cw}{v:aV}(hi:L[q]?=some (own E sz A m c xs))(av:cG ops n l i=some (none,.store ty x y,dk))[One P ty](af:bk l x=some (.pointer (some ⟨ob A,0+j,none⟩)))(aF:bk l y=some v)(br:pn v=true)
  (ax:j<m*sz) (be:∀w,au F w₀ (L.set q (own E sz A m c (xs.set j v))) w→S w) (h:U P ops S K p n l (au F w₀ (L.set q (own E sz A m c (xs.set j v))))):U P ops S K (.bB false i p) n l (au F w₀ L):=by
 refine U.zR (fun w hw=>(hw.ms hi).2.2) (fun bc=>?_);have hm:m≠0:=fun e=>by rw[e,jc] at ax;omega
 refine KD av af aF br (fun _ hw=>⟨⟨_,hw.xy hi (eF (by omega))⟩,hw.H3 hi hm,hw.NG hi (by omega)⟩) be h
theorem K4{d:Nat}(q j:Nat){E sz by_:Nat}{zv:aV}{A:aN}{m c:Nat}{k:cg}{b:Int}{xs:cw}(hi:L[q]?=some (own E sz A m c xs))(av:cG ops n l i=some (some d,.indexAddr ty x y,dk))[dN P ty E sz by_ zv](af:bk l x=some (.slice A m c))(aF:bk l y=some (.int k b))
  (aM:b=(j:Nat)) (ax:j<m) (h:U P ops S K p n ((d,(.pointer (some ⟨ob A,0+j*sz,none⟩)))::l) (au F w₀ L)):U P ops S K (.bB fl i p) n l (au F w₀ L):=by
 refine U.zR (fun w hw=>(hw.ms hi).1 (by omega)) (fun bs=>?_);rw[bs] at af;refine uD (g:=ob A) (o:=0) av af aF (by subst aM;omega) ?_;subst aM;rw[jK];exact h
end
section
variable{F:Nat→Prop}{w₀ w:ao}{M R:List bi}
theorem au.Zf(h:au F w₀ (M++R) w):∃dK:Nat→Prop,au dK w M w∧(∀ar,Fr dK w ar→au F w₀ R ar)∧∀fS ar,au dK w fS ar→au F w₀ (fS++R) ar:=by
 obtain⟨D,aa,ab,an⟩:=((au.star M).1 h).sep;have XZ:∀ar,Fr (fun k=>k<w.heap.size∧¬D k) w ar→∀G:Nat→Prop,(∀k,G k→k<w.heap.size→F k∨D k)→Sep G R ar:=fun ar aI G b9=>
  Sep.mono an (fun k ah aQ=>aI.block k ⟨ah,fun aW=>aQ (.inr aW)⟩) aI.size (fun k bg=>by
   by_cases ah:k<w.heap.size
   ·exact .inl (b9 k bg ah)
   ·exact .inr (by omega))
 have eH:∀k,F k→k<w.heap.size∧¬D k:=fun k ah=>⟨h.y3 k ah,fun aW=>(ab k aW).1 ah⟩;refine⟨fun k=>k<w.heap.size∧¬D k,⟨Fr.refl _ _,fun k ah=>ah.1,?_⟩,fun ar aI=>⟨h.b6.trans (aI.mono eH),h.lt,XZ ar aI F (fun k ah _=>.inl ah)⟩,fun fS ar dS=>?_⟩
 ·have aq:Sep (fun k=>k<w.heap.size∧¬D k) (c1 M::[]) w:=⟨D,aa,fun k ah=>⟨fun aQ=>aQ.2 ah,(ab k ah).2⟩,trivial⟩;have:=(Sep.star M).2 aq;rwa [nK] at this
 ·have aq:Sep (fun k=>k<w.heap.size∧¬D k) (fS++[]) ar:=by rw[nK];exact dS.sep
  obtain⟨gk,k1,k2,_⟩:=(Sep.star fS).1 aq;refine⟨h.b6.trans (dS.b6.mono eH),h.lt,(Sep.star fS).2 ⟨gk,k1,fun k ah=>⟨fun aI=>(k2 k ah).1 (eH k aI),(k2 k ah).2⟩,XZ ar dS.b6 _ (fun k ah ca=>?_)⟩⟩;rcases ah with ah|ah
  ·exact .inl ah
  ·exact .inr (m8 fun aW=>(k2 k ah).1 ⟨ca,aW⟩)
end
section
variable{P:a8}{ops:Array Oper}{S:ao→Prop}{K:Act→ao→Prop}{p:eR}{n:Nat}{l:List (Nat×aV)}{i:Nat}{ty:aO}{x:bf}{F:Nat→Prop}{w₀:ao}{A:List bi}
theorem li{d:Nat}(is:ae){M R:List bi}{dz:Array bf}{eD:Array aO}{g:dn}{cZ cs:cJ}{vs L:cw}{X:Type}{v:X→aV}{pf:X→Prop}{fS:X→List bi}(p5:wX A is=some (M++R))
  (av:cG ops n l i=some (some d,.call ⟨.value x,dz,eD⟩,ty)) (af:bk l x=some (.func (.func g) cZ cs)) (has:iY l dz.toList=some vs) (cF:cZ.toList++vs++cs.toList=L) [bg:aU P g]
  (ag:∀(dK:Nat→Prop) w,(∀ar,Fr dK w ar→au F w₀ R ar)→au dK w M w→Calls P g L.toArray w (fun e ar=>∃x,e=.returned (v x)∧pf x∧au dK w (fS x) ar)) (be:∀x w,au F w₀ (fS x++R) w→S w) (h:∀x,pf x→U P ops S K p n ((d,(v x))::l) (au F w₀ (fS x++R))):U P ops S K (.bB false i p) n l (au F w₀ A):=
 U.enter (ec:=fun x w=>au F w₀ (fS x++R) w) av (fun _ _ _ he aa _=>Fs he aa af has cF) (fun w hw=>by
  obtain⟨dK,aa,ab,an⟩:=(hw.pick is p5).Zf;exact Calls.mono (ag dK w ab aa) (fun e ar ⟨x,bu,bD,dl⟩=>⟨x,bu,bD,an _ _ dl⟩)) be h
end
end Go.a6
end
section
namespace Go.Proofs.YtcgjepodnfjggaaGreatDoor
open Go Go.a6 Go.cv
set_option maxRecDepth 100000
section
variable{P:a8}{ops:Array Oper}{S:ao→Prop}{K:Act→ao→Prop}{p:eR}{n:Nat}{l:List (Nat×aV)}{i:Nat}{ty:aO}{x:bf}{F:Nat→Prop}{w₀:ao}{A:List bi}
theorem at5{d:Nat}(is:ae){M R:List bi}{dz:Array bf}{eD:Array aO}{g:dn}{cZ cs:cJ}{vs L:cw}{X:Type}{v:X→aV}{pf:X→Prop}{fS:X→List bi}(p5:wX A is=some (M++R))
  (av:cG ops n l i=some (some d,.call ⟨.value x,dz,eD⟩,ty)) (af:bk l x=some (.func (.func g) cZ cs)) (has:iY l dz.toList=some vs) (cF:cZ.toList++vs++cs.toList=L) [bg:Go.a6.aU P g]
  (ag:∀(dK:Nat→Prop) w,au F w₀ A w→au dK w M w→Calls P g L.toArray w (fun e ar=>∃x,e=.returned (v x)∧pf x∧au dK w (fS x) ar)) (be:∀x w,au F w₀ (fS x++R) w→S w) (h:∀x,pf x→U P ops S K p n ((d,(v x))::l) (au F w₀ (fS x++R))):U P ops S K (.bB false i p) n l (au F w₀ A):=
 U.enter (ec:=fun x w=>au F w₀ (fS x++R) w) av (fun _ _ _ he aa _=>Fs he aa af has cF) (fun w hw=>by
  obtain⟨dK,aa,ab,an⟩:=(hw.pick is p5).Zf;exact Calls.mono (ag dK w hw aa) (fun e ar ⟨x,bu,bD,dl⟩=>⟨x,bu,bD,an _ _ dl⟩)) be h
end
theorem Sg{x:Nat}{p:ae}{i:Nat}(h:i<p.length):(aA .u8 (oU x p i))[i]?=some (.int .u8 ((ap p i:Nat):Int)):=by
 have:(oU x p i)[i]?=some (ap p i):=by
  rw[PC (by omega),az (by omega),eF h];unfold ap;rw[eM,eF h];rfl
 simp[aA,this]
theorem R2(l:ae)(k v:Nat):aA .u8 (l.set k v)=(aA .u8 l).set k (.int .u8 (v:Nat)):=by simp[aA,List.map_set]
theorem YX{dK:Nat→Prop}{w ar:ao}{g:Nat}{T:aO}{cs:cJ}{M:List bi}(h:au dK w [aE g T cs] w)(k:au (hs g w) w M ar):au dK w M ar:=by
 obtain⟨D,⟨aa,_⟩,ab,_⟩:=h.sep;have eH:∀k,dK k→hs g w k:=fun k ah=>⟨h.lt k ah,fun e=>(ab k ((aa k).2 e)).1 ah⟩;exact⟨k.b6.mono eH,h.lt,k.sep.nU eH⟩
theorem adt(r x:Nat)(w:ao)(af:x<65536)(hw:w.heap[r]?=some (.cells #[.int .u16 ((x:Nat):Int)] 203 (0,0))):tP Tryz.prog 145 [.pointer (some ⟨r,0,none⟩)] w r 203 #[.int .u16 ((x3 x:Nat):Int)] (.int .i64 ((x%2:Nat):Int)):=by
 have bD:x/ 2^2=x/ 4:=rfl;have dl:x/ 2^3=x/ 8:=rfl;have kq:x/ 2^5=x/ 32:=rfl;have q8:x^^^x/ 4<65536:=mR (n:=16) af (by omega);have tH:x^^^x/ 4^^^x/ 8<65536:=mR (n:=16) q8 (by omega);have awx:x^^^x/ 4^^^x/ 8^^^x/ 32<65536:=mR (n:=16) tH (by omega);have sO:(x%2+x/ 4%2+x/ 8%2+x/ 32%2)%2<2:=fV _ (by decide);refine wP Tryz.func145 I Tryz.ntmps145 I hw<|J.aw 1 I<|ak I I<|U.bl 5 I<|ac I I<|bI I I<|bd I I<|cm 0 I I I (v:=.int .u16 (x:Nat)) I<|ak I I<|U.bl 18 I<|ac I I<|ac I I<|iw I I I (by omega) (r:=((x/ 2^1:Nat):Int)) (Dg (k:=1) (by omega) (by decide))<|ac I I<|ac I I<|iw I I I (by omega) (r:=((x/ 2^2:Nat):Int)) (Dg (k:=2) (by omega) (by decide))<|dY I I I I (r:=((x^^^x/ 4:Nat):Int)) (by rw[bD,OA af (by omega)])<|ac I I<|iw I I I (by omega) (r:=((x/ 2^3:Nat):Int)) (Dg (k:=3) (by omega) (by decide))<|dY I I I I (r:=((x^^^x/ 4^^^x/ 8:Nat):Int)) (by rw[dl,OA q8 (by omega)])<|ac I I<|iw I I I (by omega) (r:=((x/ 2^5:Nat):Int)) (Dg (k:=5) (by omega) (by decide))<|dY I I I I (r:=((x^^^x/ 4^^^x/ 8^^^x/ 32:Nat):Int)) (by rw[kq,OA tH (by omega)]) ?_;refine ir I I I (by omega) (r:=((((x%2+x/ 4%2+x/ 8%2+x/ 32%2)%2)*32768:Nat):Int)) (by
  have e:((x^^^x/ 4^^^x/ 8^^^x/ 32:Nat):Int)*2^(min (15:Int).toNat IntKind.u16.bits)=(((x^^^x/ 4^^^x/ 8^^^x/ 32)*2^15:Nat):Int):=by push_cast;rfl
  rw[e,ahe,agh]) ?_
 refine dY I I I I (r:=((x3 x:Nat):Int)) (by rw[ajC (by omega) (by omega)];exact ql _ (agw x af))<|bI I I<|bd I I<|eh 0 I I I I I Nat.one_pos aJ<|U.bl 4 I<|ac I I<|dY I I I I (r:=((x%2:Nat):Int)) (by rw[show(1:Int)=((1:Nat):Int) from I,atY af (by omega),Dk])<|gW I I (bm (by omega))<|ak I I<|U.next<|J.ret ?_;exact al.ret Tryz.results145 I (fun _ hw=>⟨I,hw⟩)
theorem aao(r x:Nat)(w:ao)(af:x<65536)(hw:w.heap[r]?=some (.cells #[.int .u16 ((x:Nat):Int)] 203 (0,0))):tP Tryz.prog 108 [.pointer (some ⟨r,0,none⟩)] w r 203 #[.int .u16 ((sw x:Nat):Int)] (.int .i64 ((p9 x 8:Nat):Int)):=by
 refine wP Tryz.func108 I Tryz.ntmps108 I hw<|J.aw 1 I<|ak I I<|U.bl 1 I<|ak I I<|U.next<|J.seq<|J.aw 1 I<|ac I I<|U.next<|J.block<|J.loop (G:=Nat) (fun i=>[(0,.pointer (some ⟨r,0,none⟩)),(3,.int .i64 ((p9 x i:Nat):Int)),(5,.int .i64 (i:Nat))]) (fun i=>au (hs r w) w [aE r 203 #[.int .u16 ((uV x i:Nat):Int)]]) (fun i=>i≤8) (fun i=>8- i) 0 ⟨I,I,I,trivial⟩ (fun _ hw=>hw) (dg _) ?_;intro i hi;have arw:=K8 af i;have AP:=Jw x i;have wh:uV x i%2<2:=fV _ (by decide);have afS:2^i≤256:=px (n:=2) (by omega) hi;have awn:uV x i%2*2^i≤1*256:=yg (by omega) afS;refine J.aw 1 I<|cQ I I I I<|U.next<|J.seq ?_;refine J.test I (fun ag=>?_) (fun ag=>?_)
 ·exact J.skip<|al.code<|J.seq<|J.block<|J.aw 2 I<|ac I I<|ak I I<|U.next<|J.rg 7 I<|ac I I<|ac I I<|sU 0 I I I I I (fun aZ bG=>adt r _ aZ arw (bG.qx (i:=0) I)) aJ<|ac I I<|ir I I I (by omega) (AF (by omega) (by omega))<|dY I I I I (r:=((p9 x (i+1):Nat):Int)) (by rw[Jt (by omega) (by omega),Uo _ _ _ AP];rfl)<|ak rfl rfl<|U.end_<|al.aE<|al.code<|J.rg 2 rfl<|b1 rfl rfl rfl (r:=((i+1:Nat):Int)) (bm (by omega))<|ac rfl rfl<|U.end_<|al.back (i+1) ⟨rfl,rfl,rfl,trivial⟩ (fun _ hw=>hw) (by omega) (by omega)
 ·obtain rfl:i=8:=by omega
  exact J.exit I<|al.code<|J.aw 2 I<|ac I I<|ak I I<|U.next<|J.ret<|al.ret Tryz.results108 I (fun _ hw=>⟨I,hw⟩)
abbrev Sz(P:a8)(f:dn)(args:cw)(w:ao)(r:Nat){X:Type}(v:X→aV)(pf:X→Prop)(fS:X→List bi):Prop:=
 Calls P f args.toArray w (fun e ar=>∃x:X,e=.returned (v x)∧pf x∧au (hs r w) w (fS x) ar)
theorem arB(r x:Nat)(A:aN)(n c:Nat)(p:ae)(w:ao)(af:x<65536)(hw:w.heap[r]?=some (.cells #[.int .u16 ((x:Nat):Int)] 203 (0,0)))(aG:∀z∈p,z<256)(aQ:n≤1000000)(aj:hP r (aP 1 A n (aA .u8 p)) w):Sz Tryz.prog 107 [.slice A n c,.func (.func 108) #[.pointer (some ⟨r,0,none⟩)] #[]] w r (X:=aN×Nat) (fun q=>.slice q.1 n q.2) (fun q=>n≤q.2) (fun q=>[own 5 1 q.1 n q.2 (aA .u8 (fC x p)),aE r 203 #[.int .u16 ((mw x n:Nat):Int)]]):=by
 have o1:p.length=n:=by have:=aj.has.hE;simpa[aA] using this
 subst o1;refine pP Tryz.func107 I Tryz.ntmps107 I (C:=au (hs r w) w [aE r 203 #[.int .u16 ((x:Nat):Int)]]) (au.NT hw)<|J.aw 1 I<|ak I I<|U.bl 3 I<|ac I I<|s0 (m2:=p.length) I I I (ys:=aA .u8 p) (fun w hw=>(hw.mi aj).has) (mz _ _) I (by omega) (by unfold maxLen;omega) (by omega) (fun _ _ _ _=>trivial)<|fun bw c2 cR=>ak rfl rfl<|U.next<|J.seq<|J.aw 3 rfl<|ac rfl rfl<|cf rfl rfl<|ac rfl rfl<|U.next<|J.block<|J.loop (G:=Nat) (fun i=>[(1,.func (.func 108) #[.pointer (some ⟨r,0,none⟩)] #[]),(5,.slice bw p.length c2),(10,.int .i64 (p.length:Nat)),(11,.int .i64 (i:Nat))]) (fun i=>au (hs r w) w [own 5 1 bw p.length c2 (aA .u8 (oU x p i)),aE r 203 #[.int .u16 ((mw x i:Nat):Int)]]) (fun i=>i≤p.length) (fun i=>p.length- i) 0 ⟨rfl,rfl,rfl,rfl,trivial⟩ (fun _ hw=>hw) (dg _) ?_;intro i hi;have lc:=aaX af i;have oC:=Jw (mw x i) 8;have ic:=Zz x p i;refine J.aw 1 I<|cQ I I I I<|U.next<|J.seq ?_;refine J.test I (fun ag=>?_) (fun ag=>?_)
 ·refine J.skip<|al.code<|J.seq<|J.block<|J.aw 2 I<|ac I I<|ak I I<|U.next<|J.dQ (bW [0,1,2,4] (.hp 3 (cj [5] (bW [6,7,8] (cj [9] .done))) (cj [5] (bW [6] (cj [3] (bW [7,8] (cj [9] .done))))))) (au (hs r w) w []) mixed (by kernel_rfl) (fun _ h=>h.drew) (fun _ hw=>hw.nothing)<|ac I I<|ac I I<|gT 0 i I I I I I (by omega)<|ac I I ?_;refine U.hp ?_ ?_
  ·refine km 0 I I I (v:=.int .u8 ((ap p i:Nat):Int)) (Sg (by omega))<|sU 1 I I I I I (fun aZ bG=>aao r _ aZ lc (bG.qx (i:=1) I)) (fun _ hw=>hw.nothing)<|gW I I (tr (by omega))<|dY I I I I (r:=((ap p i^^^p9 (mw x i) 8:Nat):Int)) (sA (fJ aG i) (by omega))<|gT 0 i I I I I I (by omega)<|pw 0 I I I I I (by omega) (fun _ hw=>hw.nothing)<|U.end_<|al.aE<|al.code<|J.rg 2 I<|b1 I I I (r:=((i+1:Nat):Int)) (bm (by omega))<|ac I I<|U.end_ ?_;exact al.back (i+1) ⟨I,I,I,I,trivial⟩ (fun _ hw=>by
    rw[←R2,show(oU x p i).set i (ap p i^^^p9 (mw x i) 8)=oU x p (i+1) from Z3 (by omega)] at hw;exact hw) (by omega) (by omega)
  ·refine sU 1 I I I I I (fun aZ bG=>aao r _ aZ lc (bG.qx (i:=1) I)) (fun _ hw=>hw.nothing)<|gW I I (tr (by omega))<|km 0 I I I (v:=.int .u8 ((ap p i:Nat):Int)) (Sg (by omega))<|dY I I I I (r:=((ap p i^^^p9 (mw x i) 8:Nat):Int)) (sA (fJ aG i) (by omega))<|gT 0 i I I I I I (by omega)<|pw 0 I I I I I (by omega) (fun _ hw=>hw.nothing)<|U.end_<|al.aE<|al.code<|J.rg 2 I<|b1 I I I (r:=((i+1:Nat):Int)) (bm (by omega))<|ac I I<|U.end_ ?_;exact al.back (i+1) ⟨I,I,I,I,trivial⟩ (fun _ hw=>by
    rw[←R2,show(oU x p i).set i (ap p i^^^p9 (mw x i) 8)=oU x p (i+1) from Z3 (by omega)] at hw;exact hw) (by omega) (by omega)
 ·obtain rfl:i=p.length:=by omega
  exact J.exit I<|al.code<|J.aw 2 I<|ac I I<|ak I I<|U.next<|J.ret<|al.ret Tryz.results107 I (fun w hw=>⟨(bw,c2),I,cR,by rw[ait] at hw;exact hw⟩)
theorem amu(r x:Nat)(A:aN)(n c:Nat)(p:ae)(w:ao)(af:x<65536)(hw:w.heap[r]?=some (.cells #[.int .u16 ((x:Nat):Int)] 203 (0,0)))(aG:∀z∈p,z<256)(aQ:n≤1000000)(aj:hP r (aP 1 A n (aA .u8 p)) w):Sz Tryz.prog 61 [.pointer (some ⟨r,0,none⟩),.slice A n c] w r (X:=aN×Nat) (fun q=>.slice q.1 n q.2) (fun q=>n≤q.2) (fun q=>[own 5 1 q.1 n q.2 (aA .u8 (fC x p)),aE r 203 #[.int .u16 ((mw x n:Nat):Int)]]):=by
 exact pP Tryz.func61 I Tryz.ntmps61 I (C:=au (hs r w) w [aE r 203 #[.int .u16 ((x:Nat):Int)]]) (au.NT hw)<|J.aw 1 I<|ak I I<|U.bl 5 I<|ac I I<|ac I I<|oo I I I<|li [0] (M:=[aE r 203 #[.int .u16 ((x:Nat):Int)]]) (R:=[]) I I I I I (X:=aN×Nat) (v:=fun q=>.slice q.1 n q.2) (pf:=fun q=>n≤q.2) (fS:=fun q=>[own 5 1 q.1 n q.2 (aA .u8 (fC x p)),aE r 203 #[.int .u16 ((mw x n:Nat):Int)]]) (fun dK aZ ah bG=>Calls.mono (arB r x A n c p aZ af (bG.qx (i:=0) I) aG aQ ((ah aZ (Fr.refl _ _)).mi aj)) (fun e ar ⟨q,aa,ab,an⟩=>⟨q,aa,ab,YX bG an⟩)) (fun _ _ _=>trivial)<|fun q aM=>ak I I<|U.next<|J.ret<|al.ret Tryz.results61 I (fun w hw=>⟨q,I,aM,hw⟩)
theorem YE{s:Nat}(h:s<65536):hl s=if s=0 then 0xACE1 else s:=by unfold hl;rw[Nat.mod_eq_of_lt h]
theorem ajj(s:Nat)(w:ao)(aq:s<65536):fh Tryz.prog 60 [.int .i64 (s:Nat)] w (X:=Nat) (fun g=>.pointer (some ⟨g,0,none⟩)) (fun _=>True) (fun g=>[aE g 203 #[.int .u16 ((hl s:Nat):Int)]]):=by
 refine b8 Tryz.func60 I Tryz.ntmps60 I<|J.aw 1 I<|ak I I<|U.next<|J.seq<|J.aw 3 I<|ac I I<|gW I I (EZ aq)<|gy I I I I<|U.next ?_;refine J.test I (fun ag=>?_) (fun ag=>?_)
 ·exact J.aw 3 I<|gl I I I<|fx I I aJ<|fun g=>ak I I<|U.next<|J.ret<|al.ret Tryz.results60 I (fun w hw=>⟨g,I,trivial,by rw[YE aq,aD (by omega)];exact hw⟩)
 ·exact J.skip<|al.code<|J.aw 5 I<|ac I I<|gW I I (EZ aq)<|gl I I I<|fx I I aJ<|fun g=>ak I I<|U.next<|J.ret<|al.ret Tryz.results60 I (fun w hw=>⟨g,I,trivial,by rw[YE aq,az (by omega)];exact hw⟩)
theorem abB(s:Nat)(A:aN)(n c:Nat)(p:ae)(w:ao)(aq:s<65536)(aG:∀z∈p,z<256)(aQ:n≤1000000)(aj:Has (aP 1 A n (aA .u8 p)) w):fh Tryz.prog 22 [.int .i64 (s:Nat),.slice A n c] w (X:=aN×Nat) (fun q=>.slice q.1 n q.2) (fun q=>n≤q.2) (fun q=>[own 5 1 q.1 n q.2 (aA .u8 (fC (hl s) p))]):=by
 exact b8 Tryz.func22 I Tryz.ntmps22 I<|J.aw 1 I<|ak I I<|U.bl 5 I<|ac I I<|dh I I I I (fun aZ _=>ajj s aZ aq) aJ<|fun g _=>ac I I<|at5 [0] (M:=[aE g 203 #[.int .u16 ((hl s:Nat):Int)]]) (R:=[]) I I I I I (X:=aN×Nat) (v:=fun q=>.slice q.1 n q.2) (pf:=fun q=>n≤q.2) (fS:=fun q=>[own 5 1 q.1 n q.2 (aA .u8 (fC (hl s) p)),aE g 203 #[.int .u16 ((mw (hl s) n:Nat):Int)]]) (fun dK aZ ah bG=>Calls.mono (amu g (hl s) A n c p aZ (agI s) (bG.qx (i:=0) I) aG aQ (ah.Qj (i:=0) I aj)) (fun e ar ⟨q,aa,ab,an⟩=>⟨q,aa,ab,YX bG an⟩)) (fun _ _ _=>trivial)<|fun q aM=>ak I I<|U.next<|J.ret<|al.ret Tryz.results22 I (fun w hw=>⟨q,I,aM,hw.pick [0] I⟩)
end Go.Proofs.YtcgjepodnfjggaaGreatDoor
end
section
namespace Go.a6
open Go
section
variable{F:Nat→Prop}{w₀:ao}{L dv:List bi}
end
section
variable{P:a8}{ops:Array Oper}{S:ao→Prop}{K:Act→ao→Prop}{p:eR}{n:Nat}{l:List (Nat×aV)}{C:ao→Prop}{fl:Bool}{i:Nat}{ty dr dk:aO}{x y:bf}
variable{F:Nat→Prop}{w₀:ao}{L:List bi}
end
section
variable{α:Type}{row:α→cw}{k:Nat}
theorem zb(ah:∀a,(row a).length=k):∀l:List α,(l.flatMap row).length=l.length*k
 |[]=>by simp
 |a::l=>by
  rw[Eg,ee,ah,zb ah l,iG,v8];omega
theorem DN(ah:∀a,(row a).length=k):∀{l:List α} {i:Nat} {a:α} {j:Nat} {v:aV},l[i]?=some a→(row a)[j]?=some v→(l.flatMap row)[i*k+j]?=some v
 |[],i,a,j,v,h,_=>by simp at h
 |b::l,0,a,j,v,h,br=>by
  obtain rfl:b=a:=by simpa using h
  rw[Eg,jc,iO,nE (j6.1 br).1];exact br
 |b::l,i+1,a,j,v,h,br=>by
  have ih:=DN ah (l:=l) (i:=i) (by simpa using h) br;rw[Eg,mg (by rw[ah,v8];omega),←ih,ah];congr 1;rw[v8];omega
theorem aiU(ah:∀a,(row a).length=k)(l:List α)(i:Nat):(l.flatMap row).take (i*k)=(l.take i).flatMap row:=by
 by_cases h:i≤l.length
 ·have bu:=ql (List.flatMap row) (FT i l);rw[Ea] at bu;rw[←bu];exact Ab (by rw[zb ah,fW,kx h])
 ·rw[pK (by rw[zb ah];exact xo _ (by omega)),pK (by omega)]
theorem aea(ah:∀a,(row a).length=k)(l:List α)(i:Nat):(l.flatMap row).drop (i*k)=(l.drop i).flatMap row:=by
 by_cases h:i≤l.length
 ·have bu:=ql (List.flatMap row) (FT i l);rw[Ea] at bu;rw[←bu];exact Kq (by rw[zb ah,fW,kx h])
 ·rw[BS (by rw[zb ah];exact xo _ (by omega)),BS (by omega)];rfl
theorem DI(ah:∀a,(row a).length=k){l:List α}{i:Nat}(hi:i<l.length)(b:α):(l.set i b).flatMap row=(l.flatMap row).take (i*k)++row b++(l.flatMap row).drop (i*k+k):=by
 rw[abq,aD hi,Ea,Eg,aiU ah,←v8,aea ah,rZ]
theorem En(ah:∀a,(row a).length=k){l:List α}{i:Nat}{a b:α}{j:Nat}{v:aV}(h:l[i]?=some a)(ax:j<k)(ad:row b=(row a).set j v):(l.set i b).flatMap row=(l.flatMap row).set (i*k+j) v:=by
 have hi:=(j6.1 h).1;have bc:=zb ah l;have hle:i*k+k≤l.length*k:=by
  rw[←v8];exact xo _ hi
 apply jB;intro t;rw[DI ah hi,ad,rG];by_cases aa:t<i*k
 ·rw[az (by omega),rZ,nE (by rw[fW];omega),mj,aD aa]
 ·by_cases ab:t<i*k+k
  ·rw[nE (by rw[ee,fW,m9,ah];omega),mg (by rw[fW];omega),fW,kx (by omega),rG,ah];by_cases an:i*k+j=t
   ·subst an;rw[aD (by omega),aD (by omega),aD rfl,aD (by omega)]
   ·rw[az (by omega),az an];obtain⟨q,rfl⟩:∃q,t=i*k+q:=⟨t- i*k,by omega⟩;have aM:q<(row a).length:=by rw[ah];omega
    rw[Cg,eF aM,DN ah h (eF aM)]
  ·rw[az (by omega),mg (by rw[ee,fW,m9,ah];omega),ee,fW,m9,ah,kx (by omega),wQ];congr 1;omega
theorem IA(a:α):∀n:Nat,(List.replicate n a).flatMap row=(List.replicate n (row a)).flatten
 |0=>rfl
 |n+1=>by rw[GS,Eg,IA a n,GS,List.flatten_cons]
end
theorem asZ{z:cJ}{s:Nat}(aL:z.size=s)(aq:0<s)(n:Nat):(madeCells z (n*s)).toList=(List.replicate n z.toList).flatten:=by
 have aI:=IA (row:=fun _:Unit=>z.toList) () n;have bc:((List.replicate n ()).flatMap (fun _:Unit=>z.toList)).length=n*s:=by rw[zb (k:=s) (fun _=>by simpa using aL),jI]
 rw[←aI];apply jB;intro j;by_cases ax:j<n*s
 ·have aa:j/ s<n:=(Et aq).2 ax;have ab:j%s<z.size:=by rw[aL];exact fV _ aq
  have an:=DN (row:=fun _:Unit=>z.toList) (k:=s) (fun _=>by simpa using aL) (l:=List.replicate n ()) (i:=j/ s) (a:=()) (j:=j%s) (v:=z[j%s]) (by simp[aa]) (by simp[ab]);rw[Nat.div_add_mod'] at an;rw[an];simp only[madeCells,oV,Array.toList_range,jj,Pl ax,gv,aL];rw[getElem!_pos z _ ab]
 ·rw[iq (by rw[Hr,size_madeCells];omega),iq (by omega)]
section
variable{F:Nat→Prop}{w₀ w:ao}{L X:List bi}{A c8:bi}
theorem au.focus{i:Nat}(hi:X[i]?=some A)(h:au F w₀ (c1 X::L) w):au F w₀ (A::c1 (X.eraseIdx i)::L) w:=by
 have aa:=(au.star X).2 h;have aG:X.Perm (A::X.eraseIdx i):=by
  have bc:=(j6.1 hi).1;have e:X[i]=A:=(j6.1 hi).2;rw[Xo,←e];conv=>lhs;rw[←FT i X,Iq bc]
  exact C3
 have ab:au F w₀ (A::(X.eraseIdx i++L)) w:=aa.perm (aG.append_right L);have an:au F w₀ (X.eraseIdx i++(A::L)) w:=ab.perm List.perm_middle.symm;have aK:=(au.star (X.eraseIdx i)).1 an;exact aK.perm (List.Perm.swap ..)
theorem au.HP{i:Nat}(hi:i<X.length)(h:au F w₀ (c8::c1 (X.eraseIdx i)::L) w):au F w₀ (c1 (X.set i c8)::L) w:=by
 have aa:au F w₀ (c1 (X.eraseIdx i)::(c8::L)) w:=h.perm (List.Perm.swap ..);have ab:=(au.star (X.eraseIdx i)).2 aa;have an:au F w₀ (c8::(X.eraseIdx i++L)) w:=ab.perm C3;have aG:(X.set i c8).Perm (c8::X.eraseIdx i):=by
  rw[Xo,abq,aD hi];exact C3
 exact(au.star (X.set i c8)).1 (an.perm (aG.symm.append_right L))
theorem au.open_(h:au F w₀ (c1 X::L) w):au F w₀ (X++L) w:=(au.star X).2 h
theorem au.close_(X:List bi)(h:au F w₀ (X++L) w):au F w₀ (c1 X::L) w:=(au.star X).1 h
end
section
variable{P:a8}{ops:Array Oper}{S:ao→Prop}{K:Act→ao→Prop}{p:eR}{n:Nat}{l:List (Nat×aV)}{C:ao→Prop}{fl:Bool}{i:Nat}{ty dr dk tR:aO}{x y z u:bf}
variable{F:Nat→Prop}{w₀:ao}{L dv:List bi}
theorem acI{d:Nat}(q:Nat){E sz by_:Nat}{zv:aV}{k cb:cg}{m:Int}(av:cG ops n l i=some (some d,.makeSlice dr x y,ty))[cE:dN P dr E sz by_ zv](af:bk l x=some (.int k m))(aF:bk l y=some (.int cb m))
  (aM:m=(q:Nat)) (aL:zv.cells.size=sz) (aB:0<sz) (hm:by_*q≤281474976710656∧q≤maxLen) (be:∀w,au F w₀ L w→S w)
  (h:∀g,U P ops S K p n ((d,.slice (some ⟨g,0,none⟩) q q)::l) (au F w₀ (own E sz (some ⟨g,0,none⟩) q q (List.replicate q zv.cells.toList).flatten::L))):U P ops S K (.bB false i p) n l (au F w₀ L):=
 yr (v:=fun g=>.slice (some ⟨g,0,none⟩) q q) (T:=E) (cs:=madeCells zv.cells (q*sz)) av (fun a w o he aa _=>by
  subst aM;obtain⟨inf,hi,aq,nB,vS⟩:=cE.rq;have ad:(by_:Int)*(q:Nat)≤281474976710656:=by rw[←zA];omega
  have aH:=run_make (P:=P) w dr E inf zv cE.under hi vS k cb (q:Nat) (q:Nat) (by omega) (MJ _) (by rw[nB];exact ad) (by have:=hm.2;unfold maxLen at this;omega);rw[aq] at aH;simp only[jK] at aH;simp only[execOp,aa,he.bk af,he.bk aF,Sem.run_bind,aH,Result.andThen_ok,Sem.run_pure]) be (fun g=>U.pre (fun _ hw=>by
   have ab:=hw.FK (q:=0) (m:=q) (c:=q) (sz:=sz) rfl (by rw[size_madeCells]) (cq _) hm.2;rw[pK (by rw[Hr,size_madeCells];exact cq _),asZ aL aB] at ab;exact ab) (h g))
end
def BM:aV→Option Bool
 |.nilIface=>some false
 |.iface _ _=>some true
 |_=>none
section
variable{P:a8}{ops:Array Oper}{S:ao→Prop}{K:Act→ao→Prop}{p:eR}{n:Nat}{l:List (Nat×aV)}{C:ao→Prop}{fl:Bool}{i:Nat}{ty dr dk tR:aO}{x y z u:bf}
variable{F:Nat→Prop}{w₀:ao}{L dv:List bi}
theorem abv{d:Nat}{o:aN}{r:Bool}(av:cG ops n l i=some (some d,.binOp .neq ty x (.const (.pointer none)) dr,dk))[gp:Bm P ty](af:bk l x=some (.pointer o))(aH:o.isSome=r)(h:U P ops S K p n ((d,.bool r)::l) C):U P ops S K (.bB fl i p) n l C:=by
 subst aH;cases o with
 |some a=>exact aq8 av af h
 |none=>
  refine U.pure (v:=.bool false) av (fun a w o he aa _=>?_) h;obtain⟨e,hu⟩:=gp.under;have bu:a.eval (.const (.pointer none))=.pointer none:=rfl;have bD:(binOp .neq ty (.pointer none) (.pointer none)).run P w=.ok (.bool false) w:=by
   simp only[binOp,Op.equal,Op.maxDepth,Sem.run_bind];rw[Op.equalIn];simp[run_underlying hu]
  simp only[execOp,aa,he.bk af,bu,Sem.run_bind,LW,bD,Result.andThen_ok,Sem.run_pure]
theorem Ta{d:Nat}{v:aV}{r:Bool}(av:cG ops n l i=some (some d,.binOp .neq ty x (.const .nilIface) dr,dk))[dj:wV P ty](af:bk l x=some v)(aH:BM v=some r)(h:U P ops S K p n ((d,.bool r)::l) C):U P ops S K (.bB fl i p) n l C:=by
 cases v<;>simp only[BM,eb] at aH<;>first|(cases aH;done)|skip;all_goals (subst aH;first|exact jl av af h|exact B2 av af h)
theorem arO{d:Nat}{v:aV}{r:Bool}(av:cG ops n l i=some (some d,.binOp .eql ty x (.const .nilIface) dr,dk))[dj:wV P ty](af:bk l x=some v)(aH:BM v=some (!r))(h:U P ops S K p n ((d,.bool r)::l) C):U P ops S K (.bB fl i p) n l C:=by
 cases v<;>simp only[BM,eb] at aH<;>first|(cases aH;done)|skip;all_goals (cases r<;>first|(cases aH;done)|exact Ak av af h|exact arf av af h)
end
section
variable{F:Nat→Prop}{w₀ w:ao}{L X Y:List bi}{A:bi}
theorem au.Ka(h:au F w₀ L w):au F w₀ (c1 []::L) w:=(au.star []).1 h
theorem au.adD(h:au F w₀ (A::c1 X::L) w):au F w₀ (c1 (X++[A])::L) w:=by
 have aa:au F w₀ (c1 X::(A::L)) w:=h.perm (List.Perm.swap ..);have ab:=(au.star X).2 aa;have an:au F w₀ ((X++[A])++L) w:=by
  rw[rZ];exact ab
 exact(au.star (X++[A])).1 an
theorem Has.ms{E sz m c:Nat}{B:aN}{xs:cw}(h:Has (own E sz B m c xs) w):(m≠0→B=some ⟨ob B,0,none⟩)∧m≤c∧xs.length=m*sz:=by
 obtain⟨D,⟨⟨aa,ab⟩,_⟩,_⟩:=h;rcases ab with⟨ab,an⟩|⟨g,cap,cur,br,_,_,ag,_⟩
 ·injection ab with _ _ aK;exact⟨fun aQ=>absurd an aQ,by omega,aa⟩
 ·injection br with bs hm cR;subst bs;exact⟨fun _=>I,by omega,aa⟩
end
abbrev s5(P:a8)(f:dn)(args:cw)(F:Nat→Prop)(w:ao){X:Type}(v:X→aV)(pf:X→Prop)(fS:X→List bi):Prop:=
 Calls P f args.toArray w (fun e ar=>∃x:X,e=.returned (v x)∧pf x∧au F w (fS x) ar)
end Go.a6
end
