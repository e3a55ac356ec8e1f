/- The walk of the statement WholeCodes, text 3. Conditions: each theorem tells its own. -/
import Derived.Test.YtcgjepodnfjggaaGreatDoorWWholeCodesB
import Derived.Test.YtcgjepodnfjggaaGreatDoorWWholeCodesA
set_option linter.all false
section
namespace Go.Proofs.YtcgjepodnfjggaaGreatDoor
open Go Go.a6 Go.cv
set_option maxRecDepth 100000
theorem ab5(n:Int):rA n≤1073741824:=by unfold rA;omega
theorem VJ(b k:Int):ib b k<65536:=Nat.mod_lt _ (by decide)
theorem YL(n:Int)(w:ao):cC Tryz.prog 62 [.int .i64 n] w (.int .i64 (rA n:Nat)):=by
 exact b8 Tryz.func62 I Tryz.ntmps62 I<|J.aw 1 I<|ak I I<|U.bl 4 I<|ac I I<|LY I I I (r:=max n 0) (by omega)<|wL I I I (r:=(rA n:Nat)) (by unfold rA;omega)<|ak rfl rfl<|U.next<|J.ret<|al.ret Tryz.results62 rfl (fun w hw=>⟨rfl,hw.nothing⟩)
theorem R1(b k:Int)(w:ao):cC Tryz.prog 23 [.agg #[.int .i64 b,.int .i64 k]] w (.int .i64 (ib b k:Nat)):=by
 have ad:=ab5 b;have ah:=ab5 k;exact b8 Tryz.func23 I Tryz.ntmps23 I<|J.aw 2 I<|fx I I aJ<|fun h8=>ak I I<|U.bl 1 I<|ak I I<|U.next<|J.seq<|J.dQ (bW [0,1,2,6,7,8] (cj [3] (bW [4,5] (cj [9] (bW [10,11,12,13] .done))))) (bF w [aE h8 38 #[.int .i64 b,.int .i64 k]]) mixed (by kernel_rfl) (fun _ h=>h.drew) (fun _ h=>h)<|ac I I<|bd I I<|dc I I (v:=.int .i64 b) (fun _ h=>h.cP (i:=0) I I)<|ac I I<|bd I I<|dc I I (v:=.int .i64 k) (fun _ h=>h.cP (i:=0) I I)<|bJ I I I I (fun w hw=>YL b w) (fun _ h=>h)<|jE I I I (r:=((257*rA b:Nat):Int)) (bm (by omega))<|b1 I I I (r:=((1+257*rA b:Nat):Int)) (bm (by omega))<|bJ I I I I (fun w hw=>YL k w) (fun _ h=>h)<|jE I I I (r:=((31*rA k:Nat):Int)) (bm (by omega))<|b1 I I I (r:=((1+257*rA b+31*rA k:Nat):Int)) (bm (by omega))<|h4 I I I (by omega) (r:=((ib b k:Nat):Int)) (by unfold ib;rfl)<|ak rfl rfl<|U.next<|J.ret<|al.ret Tryz.results23 rfl (fun w hw=>⟨rfl,hw.nothing⟩)
structure b5 where
 iP:Int
 u4:Int
 uk:Int
 jb:Int
 o4:Int
 fl:Int
def b5.l(x:b5):b3:=[x.iP,x.u4,x.uk,x.jb,x.o4,x.fl]
def b5.cells(x:b5):cJ:= #[.int .i64 x.iP,.int .i64 x.u4,.int .i64 x.uk,.int .i64 x.jb,.int .i64 x.o4,.int .i64 x.fl]
def b5.agg(x:b5):aV:=.agg x.cells
def b5.f(x:b5)(i:Nat):Int:=x.l.getD i 0
def b5.Fit(x:b5):Prop:=∀i,i<6→0≤x.f i∧x.f i≤1073741824
def b5.ok(x:b5):Bool:=(decide (0≤x.iP∧x.iP≤1073741824)&&decide (0≤x.u4∧x.u4≤1073741824)&&decide (0≤x.uk∧x.uk≤1073741824)&&decide (0≤x.jb∧x.jb≤1073741824)&&decide (0≤x.o4∧x.o4≤1073741824)&&decide (0≤x.fl∧x.fl≤1073741824))&&decide (1≤x.iP∧x.iP≤6)
def b5.aA(x:b5):ae:=x.l.map Int.toNat
theorem b5.cell(x:b5){i:Nat}(h:i<6):x.cells[i]?=some (.int .i64 (x.f i)):=by
 match i,h with
 |0,_=>rfl
 |1,_=>rfl
 |2,_=>rfl
 |3,_=>rfl
 |4,_=>rfl
 |5,_=>rfl
theorem b5.Qz{x:b5}(h:x.ok=true):x.Fit:=by
 unfold b5.ok at h;simp only[b7,vv] at h;intro i hi
 match i,hi with
 |0,_=>exact h.1.1.1.1.1.1
 |1,_=>exact h.1.1.1.1.1.2
 |2,_=>exact h.1.1.1.1.2
 |3,_=>exact h.1.1.1.2
 |4,_=>exact h.1.1.2
 |5,_=>exact h.1.2
theorem b5.Sl{x:b5}{i:Nat}(hi:i<6)(h:¬(0≤x.f i∧x.f i≤1073741824)):x.ok=false:=by
 cases af:x.ok
 ·rfl
 ·exact absurd (b5.Qz af i hi) h
theorem b5.akb{x:b5}(h:x.Fit):x.ok=decide (1≤x.iP∧x.iP≤6):=by
 have aB:0≤x.iP∧x.iP≤1073741824:=h 0 (by decide);have aa:0≤x.u4∧x.u4≤1073741824:=h 1 (by decide);have ab:0≤x.uk∧x.uk≤1073741824:=h 2 (by decide);have an:0≤x.jb∧x.jb≤1073741824:=h 3 (by decide);have aK:0≤x.o4∧x.o4≤1073741824:=h 4 (by decide);have bo:0≤x.fl∧x.fl≤1073741824:=h 5 (by decide);unfold b5.ok;simp only[aB,aa,ab,an,aK,bo,decide_true,mU,and_self]
theorem b5.al0{x:b5}{i:Nat}(h:∀j,j<i→0≤x.f j∧x.f j≤1073741824)(ab:0≤x.f i∧x.f i≤1073741824):∀j,j<i+1→0≤x.f j∧x.f j≤1073741824:=fun j ax=>by
 rcases Nat.lt_succ_iff_lt_or_eq.1 ax with an|rfl
 ·exact h j an
 ·exact ab
def wB(k:Nat):dn:=[98,99,100,101,102,103].getD k 98
def yO(k:Nat):aV:=.func (.func (wB k)) #[] #[]
def tz:cJ:= #[yO 0,yO 1,yO 2,yO 3,yO 4,yO 5]
theorem HF{i:Nat}(h:i<6):tz[i]?=some (yO i):=by
 match i,h with
 |0,_=>rfl
 |1,_=>rfl
 |2,_=>rfl
 |3,_=>rfl
 |4,_=>rfl
 |5,_=>rfl
instance(k:Nat):Go.a6.aU Tryz.prog (wB k):=by
 match k with
 |0=>exact inferInstanceAs (Go.a6.aU Tryz.prog 98)
 |1=>exact inferInstanceAs (Go.a6.aU Tryz.prog 99)
 |2=>exact inferInstanceAs (Go.a6.aU Tryz.prog 100)
 |3=>exact inferInstanceAs (Go.a6.aU Tryz.prog 101)
 |4=>exact inferInstanceAs (Go.a6.aU Tryz.prog 102)
 |5=>exact inferInstanceAs (Go.a6.aU Tryz.prog 103)
 |n+6=>exact inferInstanceAs (Go.a6.aU Tryz.prog 98)
theorem asJ(r:Nat)(w:ao):cC Tryz.prog 98 [.pointer (some ⟨r,0,none⟩)] w (.pointer (some ⟨r,0,none⟩)):=by
 exact b8 Tryz.func98 I Tryz.ntmps98 I<|J.aw 1 I<|ak I I<|U.bl 5 I<|ac I I<|bI I I<|bd I I<|bd I I<|ak I I<|U.next<|J.ret<|al.ret Tryz.results98 I (fun w hw=>⟨I,hw.nothing⟩)
theorem adv(r:Nat)(w:ao):cC Tryz.prog 99 [.pointer (some ⟨r,0,none⟩)] w (.pointer (some ⟨r,1,none⟩)):=by
 exact b8 Tryz.func99 I Tryz.ntmps99 I<|J.aw 1 I<|ak I I<|U.bl 5 I<|ac I I<|bI I I<|bd I I<|bd I I<|ak I I<|U.next<|J.ret<|al.ret Tryz.results99 I (fun w hw=>⟨I,hw.nothing⟩)
theorem aeL(r:Nat)(w:ao):cC Tryz.prog 100 [.pointer (some ⟨r,0,none⟩)] w (.pointer (some ⟨r,2,none⟩)):=by
 exact b8 Tryz.func100 I Tryz.ntmps100 I<|J.aw 1 I<|ak I I<|U.bl 5 I<|ac I I<|bI I I<|bd I I<|bd I I<|ak I I<|U.next<|J.ret<|al.ret Tryz.results100 I (fun w hw=>⟨I,hw.nothing⟩)
theorem alM(r:Nat)(w:ao):cC Tryz.prog 101 [.pointer (some ⟨r,0,none⟩)] w (.pointer (some ⟨r,3,none⟩)):=by
 exact b8 Tryz.func101 I Tryz.ntmps101 I<|J.aw 1 I<|ak I I<|U.bl 5 I<|ac I I<|bI I I<|bd I I<|bd I I<|ak I I<|U.next<|J.ret<|al.ret Tryz.results101 I (fun w hw=>⟨I,hw.nothing⟩)
theorem aoS(r:Nat)(w:ao):cC Tryz.prog 102 [.pointer (some ⟨r,0,none⟩)] w (.pointer (some ⟨r,4,none⟩)):=by
 exact b8 Tryz.func102 I Tryz.ntmps102 I<|J.aw 1 I<|ak I I<|U.bl 5 I<|ac I I<|bI I I<|bd I I<|bd I I<|ak I I<|U.next<|J.ret<|al.ret Tryz.results102 I (fun w hw=>⟨I,hw.nothing⟩)
theorem aky(r:Nat)(w:ao):cC Tryz.prog 103 [.pointer (some ⟨r,0,none⟩)] w (.pointer (some ⟨r,5,none⟩)):=by
 exact b8 Tryz.func103 I Tryz.ntmps103 I<|J.aw 1 I<|ak I I<|U.bl 5 I<|ac I I<|bI I I<|bd I I<|bd I I<|ak I I<|U.next<|J.ret<|al.ret Tryz.results103 I (fun w hw=>⟨I,hw.nothing⟩)
theorem Dx(k r:Nat)(w:ao)(ah:k<6):cC Tryz.prog (wB k) [.pointer (some ⟨r,0,none⟩)] w (.pointer (some ⟨r,k,none⟩)):=by
 match k,ah with
 |0,_=>exact asJ r w
 |1,_=>exact adv r w
 |2,_=>exact aeL r w
 |3,_=>exact alM r w
 |4,_=>exact aoS r w
 |5,_=>exact aky r w
theorem F5(w:ao):fh Tryz.prog 57 [] w (X:=Nat) (fun g=>.slice (some ⟨g,0,none⟩) 6 6) (fun _=>True) (fun g=>[aE g 154 tz]):=by
 exact b8 Tryz.func57 I Tryz.ntmps57 I<|J.aw 1 I<|ak I I<|U.bl 2 I<|ja I I (cells:=tz) (by kernel_rfl) I aJ<|fun iv=>ak I I<|U.next<|J.ret<|al.ret Tryz.results57 I (fun w hw=>⟨iv,I,trivial,hw⟩)
theorem Gh(x:b5)(w:ao):cC Tryz.prog 56 [x.agg] w (.bool x.ok):=by
 refine b8 Tryz.func56 I Tryz.ntmps56 I<|J.aw 2 I<|fx I I aJ<|fun h8=>ak I I<|U.bl 4 I<|ie 0 I I I<|gl I I (cells:=x.cells) (by kernel_rfl)<|fx I I aJ<|fun FW=>ak I I<|U.next<|J.seq<|J.aw 3 I<|dh I I I I (fun aZ _=>F5 aZ) aJ<|fun ew _=>cf I I<|ac I I<|U.next<|J.block<|J.loop (G:=Nat) (fun i=>[(1,.pointer (some ⟨h8,0,none⟩)),(3,.pointer (some ⟨FW,0,none⟩)),(9,.slice (some ⟨ew,0,none⟩) 6 6),(10,.int .i64 6),(11,.int .i64 (i:Nat))]) (fun _=>bF w [aE ew 154 tz,aE FW 151 x.cells,aE h8 23 x.cells]) (fun i=>i≤6∧∀j,j<i→0≤x.f j∧x.f j≤1073741824) (fun i=>6- i) 0 ⟨I,I,I,I,I,trivial⟩ (fun _ h=>h) ⟨dg _,fun j ax=>absurd ax (Je j)⟩ ?_;rintro i ⟨hi,r5⟩;refine J.aw 1 I<|cQ I I I I<|U.next<|J.seq ?_;refine J.test I (fun ag=>?_) (fun ag=>?_)
 ·have ku:i<6:=by omega
  refine J.skip<|al.code<|J.seq<|J.block<|J.aw 3 I<|eP i I I I I (by omega)<|cm 0 I I I (HF ku)<|ak I I<|U.bl 14 I<|ac I I<|ac I I<|bJ I I I I (g:=wB i) (fun aZ _=>Dx i FW aZ ku) aJ<|bI I I<|cm 1 I I I (x.cell ku)<|cQ I I I I<|ac I I ?_;refine U.bool 21 I (fun ad=>?_) (fun ad=>?_)
  ·have aM:=gF ad;have ga:=b5.Sl (x:=x) ku (by omega);exact U.skip I<|U.skip I<|U.skip I<|U.skip I<|U.skip I<|U.skip I<|fe I I I<|U.next<|J.hH I<|J.aw 1 I<|ak I I<|U.next<|J.ret<|al.ret Tryz.results56 I (fun w hw=>⟨by rw[ga];rfl,hw.nothing⟩)
  ·have aM:=jG ad;refine ac I I<|ac I I<|bJ I I I I (g:=wB i) (fun aZ _=>Dx i FW aZ ku) aJ<|bI I I<|cm 1 I I I (x.cell ku)<|fD I I I I<|ef I I I<|U.next ?_;refine J.test I (fun hD=>?_) (fun hD=>?_)
   ·have ga:=b5.Sl (x:=x) ku (by omega);exact J.aw 1 I<|ak I I<|U.next<|J.ret<|al.ret Tryz.results56 I (fun w hw=>⟨by rw[ga];rfl,hw.nothing⟩)
   ·exact J.skip<|al.aE<|al.code<|J.rg 2 I<|b1 I I I (r:=((i+1:Nat):Int)) (bm (by omega))<|ac I I<|U.end_<|al.back (i+1) ⟨I,I,I,I,I,trivial⟩ (fun _ h=>h) ⟨by omega,b5.al0 r5 (by omega)⟩ (by omega)
 ·obtain rfl:i=6:=by omega
  have dx:=b5.akb (x:=x) r5;refine J.exit I<|al.code<|J.aw 9 I<|bd I I<|cm 2 I I I (v:=.int .i64 x.iP) I<|jz I I I I<|ac I I ?_;refine U.bool 33 I (fun ad=>?_) (fun ad=>?_)
  ·have rl:=gF ad;exact bd I I<|cm 2 I I I (v:=.int .i64 x.iP) I<|Bu I I I I<|fe I I I<|ak I I<|U.next<|J.ret<|al.ret Tryz.results56 I (fun w hw=>⟨by rw[dx,show decide (1≤x.iP∧x.iP≤6)=decide (x.iP≤6) from pu.2 ⟨fun h=>h.2,fun h=>⟨rl,h⟩⟩];rfl,hw.nothing⟩)
  ·have rl:=jG ad;exact U.skip I<|U.skip I<|U.skip I<|ef I I I<|ak I I<|U.next<|J.ret<|al.ret Tryz.results56 I (fun w hw=>⟨by rw[dx,show decide (1≤x.iP∧x.iP≤6)=false from df (fun h=>rl h.1)];rfl,hw.nothing⟩)
def gM(v:Nat→Nat)(i:Nat):ae:=(List.range i).filter (fun k=>v k==0)
theorem acL{v:Nat→Nat}{i:Nat}(h:v i=0):gM v (i+1)=gM v i++[i]:=by
 unfold gM;rw[Ct,zF];simp[h]
theorem Tn{v:Nat→Nat}{i:Nat}(h:v i≠0):gM v (i+1)=gM v i:=by
 unfold gM;rw[Ct,zF];simp[h]
theorem SL(v:Nat→Nat)(i:Nat):(gM v i).length≤i:=by
 have:=EF (fun k=>v k==0) (List.range i);simpa[gM] using this
theorem aj6(MW ew:Nat)(jf jo oE:aV)(v:Nat→Nat)(N:Nat)(w:ao)[aU Tryz.prog MW][aU Tryz.prog ew](jO:N≤4294967296)(nB:∀w,fh Tryz.prog MW [.agg #[jf,jo,oE]] w (X:=Nat) (fun b=>.func (.func ew) #[] #[.pointer (some ⟨b,0,none⟩)]) (fun _=>True) (fun b=>[aE b 339 #[jf,jo,oE]]))
  (Ad:∀b,Ko Tryz.prog w ew [.pointer (some ⟨b,0,none⟩)] [aE b 339 #[jf,jo,oE]] (fun i=>[.int .i64 (i:Nat),.int .i64 (v i:Nat)]) N):pV Tryz.prog 209 [.agg #[jf,jo,oE],.func (.func MW) #[] #[]] w (gM v N):=by
 refine aas Tryz.func209 I Tryz.ntmps209 I (C:=bF w []) (au.start w)<|ci.aw 2 I (by kernel_rfl)<|bR.Nf (fx I I aJ)<|fun g2=>bR.u (ak I I)<|bR.bl 1 I (by kernel_rfl)<|bR.Nf (gg I aJ)<|fun go=>bR.next<|ci.seq<|ci.aw 3 I (by kernel_rfl)<|bR.u (ac I I)<|bR.u (ie 1 I I I)<|bR.aof (dh I I I I (fun w hw=>nB w) aJ)<|fun b ad=>bR.next<|ci.block<|ci.pre (fun _ h=>h.iB 3 1) ?_;refine ci.rangeFunc (G:=aN×Nat) (GX:=Empty) (fun i q=>[aE go 25 #[.slice q.1 (gM v i).length q.2],own 3 1 q.1 (gM v i).length q.2 (aA .i64 (gM v i))]) (fun i q=>(gM v i).length≤q.2) (fun _ x=>x.elim) (fun _ _=>False) (fun x=>x.elim) (none,0) [aE b 339 #[jf,jo,oE]] [aE g2 339 #[jf,jo,oE]] (fun i=>[(5,.pointer (some ⟨go,0,none⟩)),(6,.int .i64 (i:Nat)),(7,.int .i64 (v i:Nat))]) I (Ad b) [2,0,0,0] I (cq _) (fun _=>I) (by simp) ?_ ?_ ?_ ?_
 ·intro kd i C hi;exact ci.aw 1 I (by kernel_rfl)<|bR.u (ak I I)<|bR.next<|ci.rg 1 I (by kernel_rfl)<|bR.u (ak I I)<|bR.end_<|⟨fun a w he ag=>⟨he.sub (rP.sub ⟨I,I,I,trivial⟩),ag⟩⟩
 ·intro kd T i g hi bg;have zM:=SL v i;refine ci.block<|ci.aw 2 I (by kernel_rfl)<|bR.u (ac I I)<|bR.u (gy I I I I)<|bR.next ?_;refine ci.test I (fun pR=>?_) (fun pR=>?_)
  ·have dT:=acL (v:=v) (i:=i) (by omega);exact ci.rg 5 I (by kernel_rfl)<|bR.u (c5 I I (fun _ h=>h.cP (i:=0) (j:=0) I I))<|bR.u (ac I I)<|bR.Nf (ja I I (cells:= #[.int .i64 (i:Nat)]) (by kernel_rfl) I aJ)<|fun iv=>bR.VP (ma 2 I I I I (ys:=[.int .i64 (i:Nat)]) (fun w hw=>Has.gK ((hw.has (i:=0) I).kI (m:=1) I) I) I I (by omega) (by unfold maxLen;omega) (by omega) (fun _ _ _ _=>trivial))<|fun bw c2 cR=>bR.u (eh 1 rfl rfl rfl rfl rfl (k3 0) aJ)<|bR.end_<|iA.aE<|⟨fun a w he ag=>⟨(bw,c2),by simp only[dT,ee,ol];exact cR,by simp only[dT];rw[←Au,ee];exact ag.pick [1,1,1] I⟩⟩
  ·have dT:=Tn (v:=v) (i:=i) (by omega);exact ci.skip<|iA.aE<|⟨fun a w he ag=>⟨g,by simp only[dT];exact bg,by simp only[dT];exact ag⟩⟩
 ·intro D g bg;exact iA.aE<|iA.code<|ci.aw 2 I (by kernel_rfl)<|bR.u (c5 I I (fun _ h=>h.cP (i:=1) (j:=0) I I))<|bR.u (ak I I)<|bR.next<|ci.ret<|Le (rs:=[.tmp 4]) [D] I Tryz.results209 I (fun _ h=>h.pick [0,1] I) (fun w hw=>⟨g,I,bg,hw⟩)
 ·intro D i g hi bg;exact bg.elim
def od(m:Nat)(a:ae):Nat→Nat→Nat
 |0,k=>ap a k
 |i+1,k=>ba m (od m a i k) (ex m (em m (0- (k:Int))))
def yQ(m:Nat)(a:ae)(i:Nat):Nat→Nat
 |0=>0
 |j+1=>yQ m a i j^^^od m a i j
def vq(m:Nat)(a:ae)(i j k:Nat):Nat:=if k<j then od m a (i+1) k else od m a i k
theorem Ph{m:Nat}(hm:Ok m){a:ae}(aj:∀x∈a,x<2^m):∀(i k:Nat),od m a i k<2^m
 |0,k=>gA aj (eI m) k
 |i+1,k=>eL hm (Ph hm aj i k) _
theorem YM{m:Nat}(hm:Ok m){a:ae}(aj:∀x∈a,x<2^m)(i:Nat):∀j,yQ m a i j<2^m
 |0=>eI m
 |j+1=>mR (YM hm aj i j) (Ph hm aj i j)
theorem alP(m:Nat)(a:ae):ints .i64 (ft a.length (fun k=>(od m a 0 k:Nat)))=aA .i64 a:=by
 rw[auj];congr 1;apply List.ext_getElem
 ·simp
 ·intro i aa ab;simp[od,ap,ab]
theorem ai0(m:Nat)(a:ae)(i:Nat):(fun k=>((vq m a i 0 k:Nat):Int))=fun k=>((od m a i k:Nat):Int):=by funext k;simp[vq]
theorem alL(m:Nat)(a:ae)(i:Nat):ft a.length (fun k=>((vq m a i a.length k:Nat):Int))=ft a.length (fun k=>(od m a (i+1) k:Nat)):=FZ (fun k ah=>by simp[vq,ah])
theorem aqQ(m:Nat)(a:ae)(i j:Nat):(fun k=>if k=j then((ba m (od m a i j) (ex m (em m (0- (j:Int)))):Nat):Int) else(vq m a i j k:Nat))=fun k=>((vq m a i (j+1) k:Nat):Int):=by
 funext k;unfold vq;by_cases h:k=j
 ·subst h;rw[aD rfl,aD (k3 k)];rfl
 ·rw[az h];by_cases ab:k<j
  ·rw[aD ab,aD (by omega)]
  ·rw[az ab,az (by omega)]
theorem apW(g m x:Nat)(k:Int)(w:ao)(hm:Ok m)(aI:Has (fL g m) w)(af:x<2^m):cC Tryz.prog 198 [.pointer (some ⟨g,0,none⟩),.int .i64 (x:Nat),.int .i64 (ex m (em m k):Nat)] w (.int .i64 (ba m x (ex m (em m k)):Nat)):=by
 have:=Cx g m (x:Nat) (ex m (em m k):Nat) w hm aI;rw[hC af,hC (ns hm _).2] at this;exact this
theorem aeF(g m b:Nat)(A:aN)(c:Nat)(a:ae)(z:Int)(w:ao)(hm:Ok m)(aI:Has (fL g m) w)(aj:Has (aP 1 A a.length (aA .i64 a)) w)(aQ:a.length≤4294967296)(rJ:∀x∈a,x<2^m)(aL:z≤65536):Ko Tryz.prog w 297 [.pointer (some ⟨b,0,none⟩)] [aE b 339 #[.pointer (some ⟨g,0,none⟩),.slice A a.length c,.int .i64 z]] (fun i=>[.int .i64 (i:Nat),.int .i64 (yQ m a i a.length:Nat)]) z.toNat:=by
 intro kd lv qE R m0 nI hw;have EP:=wG hm;refine aas Tryz.func297 I Tryz.ntmps297 I (C:=bF w [lv 0,aE b 339 #[.pointer (some ⟨g,0,none⟩),.slice A a.length c,.int .i64 z],R]) hw<|ci.aw 4 I (by kernel_rfl)<|bR.u (bd I I)<|bR.u (c5 I I (fun _ h=>h.cP (i:=1) (j:=1) I I))<|bR.VP (s0 (m2:=a.length) I I I (ys:=aA .i64 a) (fun w hw=>hw.a7 aj) (mz _ _) I (by omega) (by unfold maxLen;omega) (by omega) (fun _ _ _ _=>trivial))<|fun bw c2 cR=>bR.u (ak rfl rfl)<|bR.bl 4 rfl (by kernel_rfl)<|bR.u (bd rfl rfl)<|bR.u (c5 rfl rfl (fun _ h=>h.cP (i:=2) (j:=2) rfl rfl))<|bR.u (LY rfl rfl rfl (r:=(z.toNat:Int)) (by split<;>omega))<|bR.u (ac rfl rfl)<|bR.next<|ci.block<|ci.loop (G:=Nat) (fun _=>[]) (fun i=>[(0,.func (.yield kd) #[] #[]),(1,.pointer (some ⟨b,0,none⟩)),(3,.slice bw a.length c2),(13,.int .i64 (z.toNat:Int)),(14,.int .i64 (i:Nat))]) (fun i=>bF w [own 3 1 bw a.length c2 (ints .i64 (ft a.length (fun k=>(od m a i k:Nat)))),lv i,aE b 339 #[.pointer (some ⟨g,0,none⟩),.slice A a.length c,.int .i64 z],R]) (fun i=>i≤z.toNat) (fun i=>z.toNat- i) 0 rfl ⟨rfl,rfl,rfl,rfl,rfl,trivial⟩ (fun _ h=>by rw[alP];exact h) (dg _) ?_;intro i hi;refine ci.aw 1 I (by kernel_rfl)<|bR.u (cQ I I I I)<|bR.next<|ci.seq ?_;refine ci.test I (fun ag=>?_) (fun ag=>?_)
 ·refine ci.skip<|iA.code<|ci.seq<|ci.block<|ci.aw 2 I (by kernel_rfl)<|bR.u (ac I I)<|bR.u (ak I I)<|bR.bl 1 I (by kernel_rfl)<|bR.u (ak I I)<|bR.next<|ci.seq<|ci.aw 3 I (by kernel_rfl)<|bR.u (ac I I)<|bR.u (cf I I)<|bR.u (ac I I)<|bR.next<|ci.block<|ci.loop (G:=Nat) (fun _=>[]) (fun j=>[(0,.func (.yield kd) #[] #[]),(1,.pointer (some ⟨b,0,none⟩)),(3,.slice bw a.length c2),(4,.int .i64 (i:Nat)),(5,.int .i64 (yQ m a i j:Nat)),(13,.int .i64 (z.toNat:Int)),(14,.int .i64 (i:Nat)),(17,.slice bw a.length c2),(18,.int .i64 (a.length:Nat)),(19,.int .i64 (j:Nat))]) (fun j=>bF w [own 3 1 bw a.length c2 (ints .i64 (ft a.length (fun k=>(vq m a i j k:Nat)))),lv i,aE b 339 #[.pointer (some ⟨g,0,none⟩),.slice A a.length c,.int .i64 z],R]) (fun j=>j≤a.length) (fun j=>a.length- j) 0 I ⟨I,I,I,I,I,I,I,I,I,I,trivial⟩ (fun _ h=>by rw[ai0];exact h) (dg _) ?_;intro j ax;have bb:=Ph hm rJ i j;have aq:=YM hm rJ i j;refine ci.aw 1 I (by kernel_rfl)<|bR.u (cQ I I I I)<|bR.next<|ci.seq ?_;refine ci.test I (fun ag=>?_) (fun ag=>?_)
  ·exact ci.skip<|iA.code<|ci.seq<|ci.block<|ci.aw 5 I (by kernel_rfl)<|bR.u (ac I I)<|bR.u (gT 0 j I I I I I (by omega))<|bR.u (km 0 I I I (v:=.int .i64 (od m a i j:Nat)) (by rw[Mi (by omega)];simp[vq]))<|bR.u (ak rfl rfl)<|bR.u (ak rfl rfl)<|bR.bl 4 rfl (by kernel_rfl)<|bR.u (ac rfl rfl)<|bR.u (ac rfl rfl)<|bR.u (dY rfl rfl rfl rfl (xd (h6 aq (by omega)) (h6 bb (by omega))))<|bR.u (ak rfl rfl)<|bR.next<|ci.dQ (bW [0,1,2,3,4,5,6,7,8] (cj [9,10] (bW [11] (cj [12] .done)))) (bF w [aE b 339 #[.pointer (some ⟨g,0,none⟩),.slice A a.length c,.int .i64 z]]) mixed (by kernel_rfl) (fun _ h=>h.drew) (fun _ h=>h.pick [2] rfl)<|bR.u (ac rfl rfl)<|bR.u (ac rfl rfl)<|bR.u (bd rfl rfl)<|bR.u (dc rfl rfl (fun _ h=>h.cP (i:=0) (j:=0) rfl rfl))<|bR.u (ac rfl rfl)<|bR.u (bd rfl rfl)<|bR.u (dc rfl rfl (fun _ h=>h.cP (i:=0) (j:=0) rfl rfl))<|bR.u (ac rfl rfl)<|bR.u (Rw rfl rfl (bm (by omega)))<|bR.u (bJ rfl rfl rfl rfl (fun w hw=>E2 g m _ _ hm (hw.a7 aI)) (fun _ h=>h.pick [2] rfl))<|bR.u (bJ rfl rfl rfl rfl (fun w hw=>apW g m (od m a i j) _ w hm (hw.a7 aI) bb) (fun _ h=>h.pick [2] rfl))<|bR.u (gT 0 j rfl rfl rfl rfl rfl (by omega))<|bR.u (pw 0 rfl rfl rfl rfl rfl (by omega) (fun _ h=>h.pick [2] rfl))<|bR.end_<|iA.aE<|iA.code<|ci.rg 2 rfl (by kernel_rfl)<|bR.u (b1 rfl rfl rfl (r:=((j+1:Nat):Int)) (bm (by omega)))<|bR.u (ac rfl rfl)<|bR.end_<|iA.back (j+1) rfl ⟨rfl,rfl,rfl,rfl,rfl,rfl,rfl,rfl,rfl,rfl,trivial⟩ (fun _ h=>by rw[←aqQ,←Qm];exact h) (by omega) (by omega)
  ·obtain rfl:j=a.length:=by omega
   refine ci.exit I<|iA.code<|ci.aw 5 I (by kernel_rfl)<|bR.u (ac I I)<|bR.u (ac I I)<|bR.u (ac I I) ?_;refine afK 1 nI (by omega) I I I I (fun _ _ _=>trivial) ?_ ?_
   ·exact bR.u (ls I I)<|bR.next<|ci.dy I<|ci.skip<|iA.aE<|iA.code<|ci.rg 2 I (by kernel_rfl)<|bR.u (b1 I I I (r:=((i+1:Nat):Int)) (bm (by omega)))<|bR.u (ac I I)<|bR.end_<|iA.back (i+1) I ⟨I,I,I,I,I,trivial⟩ (fun _ h=>by rw[←alL];exact h.pick [1,0,0,0] I) (by omega) (by omega)
   ·exact bR.u (ls I I)<|bR.next<|ci.hH I<|ci.ret<|Le (rs:=[]) (vs:=[]) (L:=[qE (i+1),aE b 339 #[.pointer (some ⟨g,0,none⟩),.slice A a.length c,.int .i64 z],R]) [] I Tryz.results297 I (fun _ h=>h.pick [0,1,1] I) (fun w hw=>⟨_,I,.inr ⟨i,by omega,hw⟩⟩)
 ·obtain rfl:i=z.toNat:=by omega
  exact ci.exit I<|⟨Le (rs:=[]) (vs:=[]) (L:=[lv z.toNat,aE b 339 #[.pointer (some ⟨g,0,none⟩),.slice A a.length c,.int .i64 z],R]) [] I Tryz.results297 I (fun _ h=>h.pick [1,1,1] I) (fun w hw=>⟨_,I,.inl hw⟩)⟩
theorem adO{α:Type}(l:List α)(k:Nat):l.take (min l.length k)=l.take k:=by
 rcases Nat.le_total l.length k with h|h
 ·rw[kx h,pK (cq _),pK h]
 ·rw[Nat.min_eq_right h]
theorem aa3(l:b3)(k:Nat):(ints .i64 l).take (min l.length k*1)=ints .i64 (l.take k):=by
 rw[dJ];unfold ints;rw[←AZ,adO]
theorem akT(jf jo oE:aV)(w:ao):fh Tryz.prog 210 [.agg #[jf,jo,oE]] w (X:=Nat) (fun b=>.func (.func 297) #[] #[.pointer (some ⟨b,0,none⟩)]) (fun _=>True) (fun b=>[aE b 339 #[jf,jo,oE]]):=by
 exact b8 Tryz.func210 I Tryz.ntmps210 I<|J.aw 2 I<|fx I I aJ<|fun g1=>ak I I<|U.bl 2 I<|oo I I I<|ak I I<|U.next<|J.ret<|al.ret Tryz.results210 I (fun w hw=>⟨g1,I,trivial,hw⟩)
theorem aui(g m:Nat)(A:aN)(c:Nat)(l:b3)(z:Int)(w:ao)(hm:Ok m)(aI:Has (fL g m) w)(aj:Has (aP 1 A l.length (ints .i64 l)) w)(aQ:l.length≤4294967296)(gL:l.length≤c):fh Tryz.prog 208 [.pointer (some ⟨g,0,none⟩),.slice A l.length c,.int .i64 z] w (X:=aN×Nat) (fun q=>.agg #[.pointer (some ⟨g,0,none⟩),.slice q.1 (trim (bz m (l.take 2048))).length q.2,.int .i64 (min z (N m:Nat))]) (fun q=>(trim (bz m (l.take 2048))).length≤q.2) (fun q=>[own 3 1 q.1 (trim (bz m (l.take 2048))).length q.2 (aA .i64 (trim (bz m (l.take 2048))))]):=by
 have EP:=wG hm;have Al:=kZ m;exact b8 Tryz.func208 I Tryz.ntmps208 I<|J.aw 1 I<|gg I aJ<|fun g6=>U.bl 3 I<|ac I I<|dh I I I I (fun w hw=>GC g w) aJ<|fun r aH=>ak I I<|U.bl 15 I<|ac I I<|ac I I<|ac I I<|ac I I<|cf I I<|wL I I I (r:=((min l.length 2048:Nat):Int)) (by split<;>omega)<|oJ (min l.length 2048) rfl rfl rfl rfl (by omega)<|dh rfl rfl rfl rfl (fun w hw=>zt r g m A (min l.length 2048) c (l.take 2048) w hm (Jc (hw.a7 aI) (hw.has (i:=0) rfl)) (Has.gK ((hw.a7 aj).su (q:=min l.length 2048) (by omega)) (aa3 l 2048)) (by omega)) aJ<|fun q aM=>ac rfl rfl<|ac rfl rfl<|bJ rfl rfl rfl rfl (fun w hw=>ani g m w hm (hw.a7 aI)) aJ<|eB rfl rfl rfl (bm (by omega))<|wL rfl rfl rfl (r:=min z (N m:Nat)) (by split<;>omega)<|gl rfl rfl (cells:= #[.pointer (some ⟨g,0,none⟩),.slice q.1 (trim (bz m (l.take 2048))).length q.2,.int .i64 (min z (N m:Nat))]) rfl<|fE 2 rfl rfl (by kernel_rfl) rfl rfl rfl rfl aJ<|U.next<|J.ret<|al.nu (rs:=[.cell 6 339]) Tryz.results208 (fun w hw=>⟨[_],⟨⟨_,rfl,hw.nO (q:=2) rfl (by rfl)⟩,trivial⟩,q,rfl,aM,hw.pick [0] rfl⟩)
end Go.Proofs.YtcgjepodnfjggaaGreatDoor
end
section
namespace Go.cv
open Go Go.Proofs.YtcgjepodnfjggaaGreatDoor
variable{m:Nat}(hm:Ok m)
include hm
def fR(m:Nat)(a:ae)(i:Nat):Nat:=cM m a (ex m (em m (0- (i:Int))))
theorem Y7{a:ae}(aj:∀y∈a,y<2^m)(i:Nat):fR m a i=xs (fun k=>ba m (ap a k) (bY m (-((i:Int)*(k:Nat))))) a.length:=by
 unfold fR;rw[Ac hm (ns hm _).2 aj];refine hz (fun k _=>?_);rw[show ex m (em m (0- (i:Int)))=bY m (0- (i:Int)) from rfl,DJ hm,Int.sub_mul,Int.zero_mul,Int.zero_sub]
theorem Tl{a:ae}(aj:∀y∈a,y<2^m):∀i k:Nat,od m a i k=ba m (ap a k) (bY m (-((i:Int)*(k:Nat))))
 |0,k=>by
  rw[show(-(((0:Nat):Int)*(k:Nat)))=0 by simp,Gt hm,ur hm (gA aj (eI m) k)];rfl
 |i+1,k=>by
  show ba m (od m a i k) (bY m (0- (k:Int)))=_;rw[Tl aj i k,h0 hm (gA aj (eI m) k) (hd hm _) (hd hm _),uK hm];congr 2;rw[Int.natCast_succ,Int.add_mul];omega
omit hm in
theorem XM(a:ae)(i:Nat):∀j,yQ m a i j=xs (od m a i) j
 |0=>rfl
 |j+1=>by show yQ m a i j^^^_=xs _ j^^^_;rw[XM a i j]
theorem af7{a:ae}(aj:∀y∈a,y<2^m)(i:Nat):yQ m a i a.length=fR m a i:=by
 rw[XM,Y7 hm aj];exact hz (fun k _=>Tl hm aj i k)
omit hm in
theorem aie(a:ae)(i:Nat):fR m (trim a) i=fR m a i:=ap2 a _
omit hm in
theorem Jx{v:Nat→Nat}{i k:Nat}:k∈gM v i↔k<i∧v k=0:=by
 unfold gM;rw[mL,pT];simp
omit hm in
theorem ahl(v:Nat→Nat)(i:Nat):(gM v i).Pairwise (· < ·):=List.Pairwise.filter _ List.pairwise_lt_range
theorem atG{a:ae}(aj:b2 m a)(aB:a.length≠0){n:Nat}(aQ:n≤N m):(gM (fR m a) n).length≤a.length- 1:=by
 have aG:=(gS hm).1;have h:=Ov hm ((gM (fR m a) n).map (fun i:Nat=>ex m (em m (0- (i:Int))))) aj aB ?_ ?_
 ·rwa [iK] at h
 ·refine Ib _ (R:=fun i j=>i<n∧j<n∧i<j) (fun i j kN=>?_) ?_
  ·intro he;have:=AY hm he;rw[show((0:Int)- (i:Nat))=(((N m- i:Nat):Int)- (N m:Nat)) by omega,show((0:Int)- (j:Nat))=(((N m- j:Nat):Int)- (N m:Nat)) by omega,Int.sub_emod_right,Int.sub_emod_right] at this;have ax:(((N m- j:Nat):Int))%((N m:Nat):Int)=((N m- j:Nat):Int):=pc (by omega) (by omega);rw[ax] at this;by_cases hi:i=0
   ·subst hi;rw[nk,Int.emod_self] at this;omega
   ·rw[pc (by omega) (by omega)] at this;omega
  ·refine Q9 (R:=(· < ·)) (fun{i j} hi ax kN=>⟨(Jx.1 hi).1,(Jx.1 ax).1,kN⟩) (ahl _ n)
 ·intro x af;obtain⟨i,hi,rfl⟩:=gE.1 af;exact⟨(ns hm _).2,(Jx.1 hi).2⟩
omit hm in
def JE(m:Nat)(p:ae)(c:Nat):ae:=cO p (0::gU m p c)
omit hm in
def m5(m:Nat)(l:b3):Nat→ae
 |0=>[1]
 |i+1=>JE m (m5 m l i) (bY m (l.getD i 0))
theorem D2{p:ae}(aG:∀x∈p,x<2^m)(c:Nat):∀x∈gU m p c,x<2^m:=(kz (m:=m) (fun j=>eL hm (gA aG (Nat.two_pow_pos m) j) c)).lt
theorem aq7{p:ae}(aG:b2 m p)(c:Nat):b2 m (JE m p c):=kz (fun j=>mY (aG.c j) (gA (Qg hm (D2 hm aG.lt c)) (Nat.two_pow_pos m) j))
theorem Bw(l:b3):∀i,b2 m (m5 m l i)
 |0=>⟨fun x af=>by rw[hK.1 af];exact kC hm,I⟩
 |i+1=>aq7 hm (Bw l i) _
theorem agC{p:ae}(aG:b2 m p){c x:Nat}(ag:c<2^m)(af:x<2^m):cM m (JE m p c) x=ba m (cM m p x) (1^^^ba m c x):=by
 have he:=jC hm x aG.lt;unfold JE;rw[E0 hm aG.lt (Qg hm (D2 hm aG.lt c))];show _^^^(ba m (cM m (gU m p c) x) x^^^0)=_;rw[eS,GK hm c ag aG.lt x af,h0 hm he ag af,z8,ur hm he]
theorem KW(l:b3)(j:Nat):∀i,fR m (m5 m l i) j=0↔∃k,k<i∧(l.getD k 0)%((N m:Nat):Int)=((j:Nat):Int)%((N m:Nat):Int)
 |0=>by
  refine⟨fun h=>?_,fun⟨k,ah,_⟩=>by omega⟩;have:fR m [1] j=1:=by unfold fR cM cM;rw[et,hQ]
  rw[show m5 m l 0=[1] from rfl,this] at h;omega
 |i+1=>by
  have ih:=KW l j i;have aa:fR m (m5 m l (i+1)) j=ba m (fR m (m5 m l i) j) (1^^^ba m (bY m (l.getD i 0)) (bY m (0- (j:Int)))):=agC hm (Bw hm l i) (hd hm _) (hd hm _);have aL:(1^^^ba m (bY m (l.getD i 0)) (bY m (0- (j:Int))))=0↔(l.getD i 0)%((N m:Nat):Int)=((j:Nat):Int)%((N m:Nat):Int):=by
   rw[uK hm,←Gt hm];constructor
   ·intro h;have:=AY hm (Bg hm h);have an:=N5 (l.getD i 0+(0- (j:Int))) (Pe ((N m:Nat):Int));have:((l.getD i 0+(0- (j:Int)))+(j:Int))%((N m:Nat):Int)=(0+(j:Int))%((N m:Nat):Int):=by rw[N7,←this,←N7]
    rw[show l.getD i 0+(0- (j:Int))+(j:Int)=l.getD i 0 by omega,Int.zero_add] at this;exact this
   ·intro h;rw[akp (a:=l.getD i 0+(0- (j:Int))) (b:=0) ?_,jy];rw[show l.getD i 0+(0- (j:Int))=l.getD i 0- (j:Int) by omega,Bi,h,←Bi,Int.sub_self]
  rw[aa];constructor
  ·intro h;by_cases aB:fR m (m5 m l i) j=0
   ·obtain⟨k,ah,e⟩:=ih.1 aB;exact⟨k,by omega,e⟩
   ·by_cases ab:(1^^^ba m (bY m (l.getD i 0)) (bY m (0- (j:Int))))=0
    ·exact⟨i,by omega,aL.1 ab⟩
    ·exact absurd h (o6 hm (jC hm _ (Bw hm l i).lt) (mY (kC hm) (eL hm (hd hm _) _)) aB ab)
  ·rintro⟨k,ah,e⟩;by_cases lc:k<i
   ·rw[ih.2 ⟨k,lc,e⟩,et]
   ·obtain rfl:k=i:=by omega
    rw[aL.2 e,jn]
theorem O9(l:b3):∀i,(m5 m l i).length≤i+1
 |0=>cq _
 |i+1=>by
  have h:=O9 l i;refine sT (Bw hm l (i+1)) (fun j ax=>?_);show ap (cO _ (0::gU m _ _)) j=0;obtain⟨rz,rfl⟩:∃rz,j=rz+1:=⟨j- 1,by omega⟩;rw[ey,jF,oN,dD (by omega),dD (by omega),et];rfl
end Go.cv
end
section
namespace Go.Proofs.YtcgjepodnfjggaaGreatDoor
open Go Go.a6 Go.cv
set_option maxRecDepth 100000
theorem atB(k:cg)(s:Nat):List.replicate s (.int k 0)=aA k (List.replicate s 0):=by simp[aA]
theorem J0(k:cg)(a b:ae):aA k a++aA k b=aA k (a++b):=by simp[aA]
theorem auL(A:aN)(c:Nat)(a:ae)(k:Nat)(w:ao)(aj:Has (aP 1 A a.length (aA .i64 a)) w)(aQ:a.length≤1073741824)(ah:k≤65536):pV Tryz.prog 294 [.slice A a.length c,.int .i64 (k:Nat)] w (List.replicate k 0++a):=by
 refine b8 Tryz.func294 I Tryz.ntmps294 I<|J.aw 1 I<|ak I I<|U.bl 5 I<|ac I I<|lP k I I I I I (by omega) aJ<|fun g6=>U.pre (fun _ h=>h.st (q:=0) (c:=k) (sz:=1) I (by simp) (by unfold maxLen;omega))<|ac rfl rfl<|ma 0 rfl rfl rfl rfl (ys:=aA .i64 a) (fun w hw=>hw.a7 aj) (mz _ _) rfl (by omega) (by unfold maxLen;omega) (by omega) (fun _ _ _ _=>trivial)<|fun bw c2 cR=>ak rfl rfl<|U.next<|J.ret ?_;have bc:(List.replicate k 0++a).length=k+a.length:=by simp
 exact al.ret (rs:=[.tmp 4]) Tryz.results294 I (fun w hw=>⟨(bw,c2),by rw[bc];rfl,by rw[bc];exact cR,by rw[bc,←J0,←atB];exact hw.pick [0] I⟩)
end Go.Proofs.YtcgjepodnfjggaaGreatDoor
end
section
namespace Go.cv
open Go Go.Proofs.YtcgjepodnfjggaaGreatDoor
structure lk where
 c:ae
 b:ae
 L:Nat
 k:Nat
 e:Nat
def AW(m:Nat)(p s:ae)(n t:Nat):Nat:=xs (fun i=>ba m (ap p i) (ap s (n- i))) t
def lk.d(m:Nat)(s:ae)(q:lk)(n:Nat):Nat:=AW m q.c s n (q.L+1)
def lH(m:Nat)(c3:ae→ae→Nat→Nat→ae)(s:ae)(q:lk)(n:Nat):lk:=
 if q.d m s n=0 then⟨q.c,q.b,q.L,q.k+1,q.e⟩
 else if n<2*q.L then⟨c3 q.c (List.replicate q.k 0++q.b) (q.d m s n) q.e,q.b,q.L,q.k+1,q.e⟩
 else⟨c3 q.c (List.replicate q.k 0++q.b) (q.d m s n) q.e,q.c,n+1- q.L,1,q.d m s n⟩
def cx(m:Nat)(c3:ae→ae→Nat→Nat→ae)(s:ae):Nat→lk
 |0=>⟨[1],[1],0,1,1⟩
 |n+1=>lH m c3 s (cx m c3 s n) n
noncomputable def dL(m:Nat)(c uv:ae)(d e:Nat):ae:=cO c (gU m uv (ba m d (inv m e)))
def lG(q:lk)(i:Nat):Nat:=if q.k≤i then ap q.b (i- q.k) else 0
theorem apk(s:Nat)(x:ae)(j:Nat):ap (List.replicate s 0++x) j=if s≤j then ap x (j- s) else 0:=by
 unfold ap;rw[eM,eM];by_cases h:s≤j
 ·rw[aD h,mg (by simpa using h),jI]
 ·rw[az h,nE (by simpa using h)];rw[Iu];split<;>rfl
theorem aef(q:lk)(j:Nat):ap (List.replicate q.k 0++q.b) j=lG q j:=apk _ _ _
def oi(f:Nat→Nat)(i:Nat):Nat:=if 1≤i then f (i- 1) else 0
variable{m:Nat}(hm:Ok m)
theorem Pb(f g:Nat→Nat)(j:Nat):cS m (oi f) g (j+1)=cS m f g j:=by
 unfold cS;rw[CU];show ba m (oi f 0) _^^^xs (fun i=>ba m (oi f (i+1)) (g (j+1- (i+1)))) (j+1)=_;rw[show oi f 0=0 from rfl,et,hQ];refine hz (fun i _=>?_);rw[show oi f (i+1)=f i from by simp[oi],Nat.add_sub_add_right]
include hm
theorem ao8{f g:Nat→Nat}(aI:∀j,f j<2^m)(bg:∀j,g j<2^m){c:Nat}(ag:c<2^m)(j:Nat):cS m (fun i=>ba m (f i) c) g j=ba m (cS m f g j) c:=by
 unfold cS;rw[Ao hm c _ (fun i _=>eL hm (aI i) _)];refine hz (fun i _=>?_);rw[h0 hm (aI i) ag (bg _),kH hm ag (bg _),←h0 hm (aI i) (bg _) ag]
omit hm in
theorem aih{f hB g c9:Nat→Nat}(aa:∀i,f i=hB i)(ab:∀i,g i=c9 i)(j:Nat):cS m f g j=cS m hB c9 j:=by rw[show f=hB from funext aa,show g=c9 from funext ab]
structure qJ(m:Nat)(s:ae)(q:lk)(n:Nat):Prop where
 kp:ap q.c 0=1
 l6:b2 m q.c
 fy:b2 m q.b
 qp:∀j,q.L<j→ap q.c j=0
 cY:∀j,q.L≤j→j<n→cS m (ap q.c) (ap s) j=0
 GH:∀j,n+1<j+q.L→lG q j=0
 kk:∀j,n+1≤j+q.L→j≤n→cS m (lG q) (ap s) j=if j=n then q.e else 0
 B0:q.L≤n
 jw:q.e≠0
 el:q.e<2^m
 k1:1≤q.k
 HS:q.k+q.b.length≤n+2
 q2:q.c.length≤n+1
omit hm in
theorem YA{s:ae}{q:lk}{n:Nat}(h:qJ m s q n)(j:Nat):lG q j<2^m:=by
 unfold lG;split
 ·exact h.fy.c _
 ·exact eI m
omit hm in
theorem ar7{p s:ae}{n L:Nat}(aQ:L≤n)(aG:∀j,L<j→ap p j=0):AW m p s n (L+1)=cS m (ap p) (ap s) n:=by
 unfold AW cS;have:=AN (f:=fun i=>ba m (ap p i) (ap s (n- i))) (n:=L+1) (k:=n- L) (fun i hi=>by rw[aG i (by omega),et]);rw[show L+1+(n- L)=n+1 by omega] at this;exact this.symm
omit hm in
theorem qJ.S2{s:ae}{q:lk}{n:Nat}(h:qJ m s q n):q.d m s n=cS m (ap q.c) (ap s) n:=ar7 h.B0 h.qp
omit hm in
theorem FY(q:lk)(c:ae)(L e:Nat):lG ⟨c,q.b,L,q.k+1,e⟩=oi (lG q):=by
 funext i;show(if q.k+1≤i then ap q.b (i- (q.k+1)) else 0)=if 1≤i then(if q.k≤i- 1 then ap q.b (i- 1- q.k) else 0) else 0
 by_cases h:q.k+1≤i
 ·rw[aD h,aD (show 1≤i by omega),aD (by omega),show i- (q.k+1)=i- 1- q.k by omega]
 ·rw[az h];by_cases ab:1≤i
  ·rw[aD ab,az (by omega)]
  ·rw[az ab]
omit hm in
theorem abF(c b:ae)(L e:Nat):lG ⟨b,c,L,1,e⟩=oi (ap c):=by
 funext i;unfold lG oi;rfl
theorem qJ.start(s:ae):qJ m s ⟨[1],[1],0,1,1⟩ 0 where
 kp:=rfl
 l6:=⟨fun x af=>by rw[hK.1 af];exact kC hm,I⟩
 fy:=⟨fun x af=>by rw[hK.1 af];exact kC hm,I⟩
 qp:=fun j ax=>dD (by show 1≤j;exact ax)
 cY:=fun j _ h=>by omega
 GH:=fun j ax=>by
  unfold lG;show(if 1≤j then ap [1] (j- 1) else 0)=0;rw[aD (by simp only at ax;omega)];exact dD (by simp only at ax;show 1≤j- 1;omega)
 kk:=fun j aa ab=>by simp only at aa;omega
 B0:=cq _
 jw:=by decide
 el:=kC hm
 k1:=cq _
 HS:=cq _
 q2:=cq _
omit hm in
theorem GW{s:ae}{q:lk}{n:Nat}(_h:qJ m s q n)(d j:Nat):ap (dL m q.c (List.replicate q.k 0++q.b) d q.e) j=ap q.c j^^^ba m (lG q j) (ba m d (inv m q.e)):=by
 unfold dL;rw[ey,oN,aef]
theorem alx{s:ae}(aq:∀x∈s,x<2^m){q:lk}{n:Nat}(h:qJ m s q n){d:Nat}(aW:d<2^m)(j:Nat):cS m (ap (dL m q.c (List.replicate q.k 0++q.b) d q.e)) (ap s) j=cS m (ap q.c) (ap s) j^^^ba m (cS m (lG q) (ap s) j) (ba m d (inv m q.e)):=by
 have bg:ba m d (inv m q.e)<2^m:=eL hm aW _;have hf:∀j,ap s j<2^m:=fun j=>gA aq (eI m) j;rw[aih (hB:=fun i=>ap q.c i^^^ba m (lG q i) (ba m d (inv m q.e))) (c9:=ap s) (fun i=>GW h d i) (fun _=>rfl),yG hm h.l6.c (fun j=>eL hm (YA h j) _),ao8 hm (YA h) hf bg]
theorem qJ.step{s:ae}(aq:∀x∈s,x<2^m){q:lk}{n:Nat}(h:qJ m s q n):qJ m s (lH m (dL m) s q n) (n+1):=by
 have hf:∀j,ap s j<2^m:=fun j=>gA aq (eI m) j;have aW:=h.S2;have se:q.d m s n<2^m:=by rw[aW];exact GP hm h.l6.c _ n
 have KN:=h.B0;have ka:=h.k1;have Fu:=h.HS;have gr:=h.q2;unfold lH;by_cases aB:q.d m s n=0
 ·rw[aD aB];refine⟨h.kp,h.l6,h.fy,h.qp,fun j aa ab=>?_,fun j ax=>?_,fun j aa ab=>?_,by show q.L≤n+1;omega,h.jw,h.el,by show 1≤q.k+1;omega,by show q.k+1+q.b.length≤_;omega,by show q.c.length≤_;omega⟩
  ·by_cases xw:j<n
   ·exact h.cY j aa xw
   ·obtain rfl:j=n:=by omega
    show cS m (ap q.c) (ap s) j=0;rw[←aW];exact aB
  ·rw[FY];simp only at ax;unfold oi;rw[aD (by omega)];exact h.GH _ (by omega)
  ·rw[FY];simp only at aa⊢;obtain⟨j,rfl⟩:∃i,j=i+1:=⟨j- 1,by omega⟩;rw[Pb,h.kk j (by omega) (by omega)];simp
 ·rw[az aB];have abN:∀j,n+1≤j+q.L→q.L≤j→j≤n→cS m (ap (dL m q.c (List.replicate q.k 0++q.b) (q.d m s n) q.e)) (ap s) j=0:=by
   intro j aa ab an;rw[alx hm aq h se,h.kk j aa an];by_cases xw:j=n
   ·subst xw;rw[aD rfl,←aW,kH hm h.el (eL hm se _),Og hm se h.el h.jw,jy]
   ·rw[az xw,et,h.cY j ab (by omega)];rfl
  have qD:ap (dL m q.c (List.replicate q.k 0++q.b) (q.d m s n) q.e) 0=1:=by
   rw[GW h,h.kp,show lG q 0=0 by unfold lG;rw[az (by omega)],et];rfl
  have xA:b2 m (dL m q.c (List.replicate q.k 0++q.b) (q.d m s n) q.e):=kz (fun j=>mY (h.l6.c j) (gA (D2 hm (fun x af=>by
   rcases hI.1 af with af|af
   ·rw[(BR.1 af).2];exact eI m
   ·exact h.fy.lt x af) _) (eI m) j))
  have hle:∀t,(∀j,t<j→ap (dL m q.c (List.replicate q.k 0++q.b) (q.d m s n) q.e) j=0)→(dL m q.c (List.replicate q.k 0++q.b) (q.d m s n) q.e).length≤t+1:=fun t bb=>sT xA (fun j ax=>bb j (by omega));have VU:∀j,q.L<j→n+1<j+q.L→ap (dL m q.c (List.replicate q.k 0++q.b) (q.d m s n) q.e) j=0:=fun j aa ab=>by
   rw[GW h,h.qp j aa,h.GH j ab,et];rfl
  have Ck:=hle (n+1) (fun j ax=>by
   rw[GW h,dD (by omega),show lG q j=0 by unfold lG;split<;>first|rfl|exact dD (by omega),et];rfl)
  by_cases ab:n<2*q.L
  ·rw[aD ab];refine⟨qD,xA,h.fy,fun j ax=>VU j ax (by simp only at ax;omega),fun j aa an=>abN j (by simp only at aa;omega) aa (by omega),fun j ax=>?_,fun j aa an=>?_,by show q.L≤n+1;omega,h.jw,h.el,by show 1≤q.k+1;omega,by show q.k+1+q.b.length≤_;omega,Ck⟩
   ·rw[FY];simp only at ax;unfold oi;rw[aD (by omega)];exact h.GH _ (by omega)
   ·rw[FY];simp only at aa⊢;obtain⟨j,rfl⟩:∃i,j=i+1:=⟨j- 1,by omega⟩;rw[Pb,h.kk j (by omega) (by omega)];simp
  ·rw[az ab];refine⟨qD,xA,h.l6,fun j ax=>VU j (by simp only at ax;omega) (by simp only at ax;omega),fun j aa an=>abN j (by simp only at aa;omega) (by simp only at aa;omega) (by omega),fun j ax=>?_,fun j aa an=>?_,by show n+1- q.L≤n+1;omega,aB,se,cq _,by show 1+q.c.length≤_;omega,Ck⟩
   ·rw[abF];simp only at ax;unfold oi;rw[aD (by omega)];exact h.qp _ (by omega)
   ·rw[abF];simp only at aa⊢;obtain⟨j,rfl⟩:∃i,j=i+1:=⟨j- 1,by omega⟩;rw[Pb];by_cases xw:j=n
    ·subst xw;rw[aD rfl,aW]
    ·rw[az (by omega)];exact h.cY j (by omega) (by omega)
theorem BT{s:ae}(aq:∀x∈s,x<2^m):∀n,qJ m s (cx m (dL m) s n) n
 |0=>qJ.start hm s
 |n+1=>(BT aq n).step hm aq
theorem acs{f g s:Nat→Nat}(aI:∀j,f j<2^m)(bg:∀j,g j<2^m)(aq:∀j,s j<2^m){L K n:Nat}(ao1:∀j,L<j→f j=0)(Gb:∀j,K<j→g j=0)(BL:g 0≠0)
  (U9:∀j,L≤j→j<n→cS m f s j=0) (nF:cS m f s n≠0) (Lo:∀j,K≤j→j≤n→cS m g s j=0):n+1≤L+K:=by
 refine nV fun ca=>?_;have bu:cS m f (cS m g s) n=0:=pO (fun i hi=>by
  by_cases h:i≤L
  ·rw[Lo (n- i) (by omega) (by omega),jn]
  ·rw[ao1 i (by omega),et])
 have bD:cS m g (cS m f s) n=ba m (g 0) (cS m f s n):=by
  unfold cS;rw[Af (k:=0) (by omega) (fun i hi aB=>by
   by_cases h:i≤K
   ·have:=U9 (n- i) (by omega) (by omega);unfold cS at this;rw[this,jn]
   ·rw[Gb i (by omega),et])]
  rfl
 rw[←Q4 hm aI bg aq,oT (hB:=cS m g f) (c9:=s) (fun i _=>Po hm aI bg i) (fun _ _=>rfl),Q4 hm bg aI aq,bD] at bu;exact o6 hm (bg 0) (GP hm aI _ n) BL nF bu
theorem Sx{s:ae}(aq:∀x∈s,x<2^m){g:Nat→Nat}(bg:∀j,g j<2^m){K:Nat}(Gb:∀j,K<j→g j=0)(BL:g 0≠0):∀n,(∀j,K≤j→j<n→cS m g (ap s) j=0)→(cx m (dL m) s n).L≤K
 |0,_=>dg _
 |n+1,h=>by
  have ih:=Sx aq bg Gb BL n (fun j aa ab=>h j aa (by omega));have hi:=BT hm aq n;show(lH m (dL m) s (cx m (dL m) s n) n).L≤K;unfold lH;split
  ·exact ih
  ·rename_i aB;split
   ·exact ih
   ·have:=acs hm hi.l6.c bg (fun j=>gA aq (eI m) j) hi.qp Gb BL hi.cY (by rw[←hi.S2];exact aB) (fun j aa ab=>h j aa (by omega));show n+1- _≤K;omega
end Go.cv
end
section
namespace Go.cv
open Go Go.Proofs.YtcgjepodnfjggaaGreatDoor
variable{m:Nat}(hm:Ok m)
def L1(m:Nat)(c3:ae→ae→Nat→Nat→ae):Prop:=
 ∀(c uv:ae) (d e:Nat),(∀x∈c,x<2^m)→(∀x∈uv,x<2^m)→b2 m (c3 c uv d e)∧(c3 c uv d e).length≤max c.length uv.length
structure V8(m:Nat)(q:lk)(n:Nat):Prop where
 l6:b2 m q.c
 fy:b2 m q.b
 B0:q.L≤n
 jw:q.e≠0
 el:q.e<2^m
 k1:1≤q.k
 HS:q.k+q.b.length≤n+2
 q2:q.c.length≤n+1
theorem QJ(hm:Ok m){p s:ae}(aG:∀x∈p,x<2^m)(n t:Nat):AW m p s n t<2^m:=xO (fun i _=>eL hm (gA aG (Nat.two_pow_pos m) i) _)
theorem aaY{q:lk}(h:∀x∈q.b,x<2^m):∀x∈List.replicate q.k 0++q.b,x<2^m:=fun x af=>by
 rcases hI.1 af with af|af
 ·rw[(BR.1 af).2];exact eI m
 ·exact h x af
include hm
omit hm in
theorem afl{a b:ae}(aj:∀x∈a,x<2^m)(ad:∀x∈b,x<2^m):b2 m (cO a b):=kz (fun j=>mY (gA aj (Nat.two_pow_pos m) j) (gA ad (Nat.two_pow_pos m) j))
omit hm in
theorem asA(a b:ae):(cO a b).length≤max a.length b.length:=by
 unfold cO pl;rw[kY];have:=lQ ((List.range (max a.length b.length)).map (fun j=>ap a j^^^ap b j));simpa using this
omit hm in
theorem T5(m:Nat)(a:ae)(c:Nat):(gU m a c).length≤a.length:=by
 unfold gU pl;rw[kY];have:=lQ ((List.range a.length).map (fun j=>ba m (ap a j) c));simpa using this
theorem aqP:L1 m (dL m):=fun c uv d e ag ad=>by
 refine⟨afl ag (D2 hm ad _),?_⟩;have aa:=asA c (gU m uv (ba m d (inv m e)));have ab:=T5 m uv (ba m d (inv m e));unfold dL;omega
theorem YZ:b2 m [1]:=⟨fun x af=>by rw[List.mem_singleton.1 af];exact kC hm,I⟩
theorem T4{c3:ae→ae→Nat→Nat→ae}(dq:L1 m c3)(s:ae):∀n,V8 m (cx m c3 s n) n
 |0=>⟨YZ hm,YZ hm,cq _,Nat.one_ne_zero,kC hm,cq _,cq _,cq _⟩
 |n+1=>by
  obtain⟨l6,fy,B0,jw,el,k1,HS,q2⟩:=T4 dq s n;show V8 m (lH m c3 s (cx m c3 s n) n) (n+1);generalize cx m c3 s n=q at*;have aW:q.d m s n<2^m:=QJ hm l6.lt _ _;obtain⟨aa,ab⟩:=dq q.c (List.replicate q.k 0++q.b) (q.d m s n) q.e l6.lt (aaY fy.lt);rw[ee,jI] at ab;unfold lH;split
  ·exact⟨l6,fy,by show q.L≤n+1;omega,jw,el,by show 1≤q.k+1;omega,by show q.k+1+q.b.length≤_;omega,by show q.c.length≤_;omega⟩
  ·rename_i aB;split
   ·exact⟨aa,fy,by show q.L≤n+1;omega,jw,el,by show 1≤q.k+1;omega,by show q.k+1+q.b.length≤_;omega,by show(c3 q.c (List.replicate q.k 0++q.b) (q.d m s n) q.e).length≤_;omega⟩
   ·exact⟨aa,l6,by show n+1- q.L≤n+1;omega,aB,aW,cq _,by show 1+q.c.length≤_;omega,by show(c3 q.c (List.replicate q.k 0++q.b) (q.d m s n) q.e).length≤_;omega⟩
structure awi(m:Nat)(q p:lk)(g h:Nat):Prop where
 g0:g≠0
 e5:g<2^m
 aB:h≠0
 bc:h<2^m
 c:∀j,ap p.c j=ba m (ap q.c j) g
 b:∀j,ap p.b j=ba m (ap q.b j) h
 L:p.L=q.L
 k:p.k=q.k
 e:p.e=ba m q.e h
omit hm in
structure sX(m:Nat)(f s:Nat→Nat)(L n:Nat):Prop where
 lt:∀j,f j<2^m
 k9:∀j,L<j→f j=0
 z:∀j,L≤j→j<n→cS m f s j=0
omit hm in
theorem auu(f g:Nat→Nat)(r:Nat)(h:∀i,i<r→f i=0)(j:Nat):cS m f g (j+r)=cS m (fun i=>f (i+r)) g j:=by
 unfold cS;have bu:xs (fun i=>ba m (f i) (g (j+r- i))) (r+(j+1))=xs (fun i=>ba m (f (i+r)) (g (j- i))) (j+1):=by
  rw[←OT (fun i=>ba m (f (i+r)) (g (j- i))) r (j+1)];refine hz (fun i _=>?_);by_cases hi:r≤i
  ·rw[aD hi,show i- r+r=i by omega,show j- (i- r)=j+r- i by omega]
  ·rw[az hi,h i (by omega),et]
 rw[show j+r+1=r+(j+1) by omega];exact bu
theorem mk_one{f g s:Nat→Nat}{L n:Nat}(aq:∀j,s j<2^m)(aI:sX m f s L n)(bg:sX m g s L n)(aB:f 0=g 0)(BL:g 0≠0)(ab:2*L≤n)
  (Hn:∀(u:Nat→Nat) (K:Nat),sX m u s K n→u 0≠0→L≤K):∀j,f j=g j:=by
 refine m8 fun e7=>?_;have hex:∃r,f r≠g r:=m8 fun h=>e7 (fun j=>m8 fun ax=>h ⟨j,ax⟩);have LB:∃r,f r≠g r∧∀i,i<r→f i=g i:=by
  obtain⟨r,aH⟩:=hex;induction r using Nat.strongRecOn with
  |_ r ih=>
   by_cases h:∃i,i<r∧f i≠g i
   ·obtain⟨i,hi,c6⟩:=h;exact ih i hi c6
   ·exact⟨r,aH,fun i hi=>m8 fun c6=>h ⟨i,hi,c6⟩⟩
 obtain⟨r,aH,agG⟩:=LB;have yA:1≤r:=by
  refine nV fun h=>aH ?_;obtain rfl:r=0:=by omega
  exact aB
 have awY:r≤L:=nV fun h=>aH (by rw[aI.k9 r h,bg.k9 r h])
 let u:Nat→Nat:=fun i=>f (i+r)^^^g (i+r)
 have XT:∀j,u j<2^m:=fun j=>mY (aI.lt _) (bg.lt _);have asc:u 0≠0:=fun h=>aH (Bg hm (by simpa[u] using h));have abO:∀j,L- r<j→u j=0:=fun j ax=>by show f _^^^g _=0;rw[aI.k9 _ (by omega),bg.k9 _ (by omega)];rfl
 have an4:∀j,cS m u s j=cS m f s (j+r)^^^cS m g s (j+r):=fun j=>by
  rw[←yG hm aI.lt bg.lt,auu (fun i=>f i^^^g i) s r (fun i hi=>by show f i^^^g i=0;rw[agG i hi,jy])]
 have aoV:∀j,L- r≤j→j+r<n→cS m u s j=0:=fun j aa an=>by rw[an4,aI.z _ (by omega) an,bg.z _ (by omega) an];rfl
 by_cases kQ:∀j,L- r≤j→j<n→cS m u s j=0
 ·have:=Hn u (L- r) ⟨XT,abO,kQ⟩ asc;omega
 ·obtain⟨t,z6,Mb,Gx,adk⟩:∃t,L- r≤t∧t<n∧cS m u s t≠0∧∀j,L- r≤j→j<t→cS m u s j=0:=by
   have c6:∃j,L- r≤j∧j<n∧cS m u s j≠0:=m8 fun h=>kQ (fun j aa an=>m8 fun aK=>h ⟨j,aa,an,aK⟩);obtain⟨t,bb⟩:=c6;induction t using Nat.strongRecOn with
   |_ t ih=>
    by_cases h:∃i,i<t∧L- r≤i∧cS m u s i≠0
    ·obtain⟨i,hi,aa,an⟩:=h;exact ih i hi ⟨aa,by omega,an⟩
    ·exact⟨t,bb.1,bb.2.1,bb.2.2,fun j aa an=>m8 fun aK=>h ⟨j,an,aa,aK⟩⟩
  have Dm:n≤t+r:=nV fun h=>Gx (aoV t z6 h);have:=acs hm XT bg.lt aq abO bg.k9 BL adk Gx (fun j aa an=>bg.z j aa (by omega));omega
theorem sX.sJ{f g s u:Nat→Nat}{L n b:Nat}(aq:∀j,s j<2^m)(ad:b<2^m)(h:sX m f s L n)(hu:∀j,j<n→u j=ba m (s j) (fO m b j))(bg:∀j,g j=ba m (f j) (fO m b j)):sX m g u L n:=⟨fun j=>by rw[bg];exact eL hm (h.lt j) _,fun j ax=>by rw[bg,h.k9 j ax,et],fun j aa ab=>by
 have:cS m g u j=ba m (cS m f s j) (fO m b j):=by
  unfold cS;rw[Ao hm (fO m b j) _ (fun i _=>eL hm (h.lt i) _)];refine hz (fun i hi=>?_);have aG:=rS hm b;rw[bg,hu _ (by omega),show fO m b j=ba m (fO m b i) (fO m b (j- i)) by rw[←Xg hm ad,show i+(j- i)=j by omega]];rw[h0 hm (h.lt i) (aG i) (eL hm (aq _) _),h0 hm (h.lt i) (aq _) (eL hm (aG _) _)];congr 1;rw[←h0 hm (aG i) (aq _) (aG _),kH hm (aG i) (aq _),h0 hm (aq _) (aG i) (aG _)]
 rw[this,h.z j aa ab,et]⟩
theorem arj{s:ae}(aq:∀x∈s,x<2^m)(n:Nat):sX m (ap (cx m (dL m) s n).c) (ap s) (cx m (dL m) s n).L n:=
 let h:=BT hm aq n
 ⟨h.l6.c,h.qp,h.cY⟩
theorem WW{s:ae}(aq:∀x∈s,x<2^m)(n:Nat){u:Nat→Nat}{K:Nat}(h:sX m u (ap s) K n)(aB:u 0≠0):(cx m (dL m) s n).L≤K:=Sx hm aq h.lt h.k9 aB n h.z
theorem agm{s:ae}(aq:∀x∈s,x<2^m)(n:Nat){u:Nat→Nat}(h:sX m u (ap s) (cx m (dL m) s n).L n)(aB:u 0=1)(ab:2*(cx m (dL m) s n).L≤n):∀j,ap (cx m (dL m) s n).c j=u j:=
 mk_one hm (fun j=>gA aq (eI m) j) (arj hm aq n) h (by rw[aB];exact(BT hm aq n).kp) (by rw[aB];decide) ab (fun v K br ah6=>WW hm aq n br ah6)
end Go.cv
end
section
namespace Go.cv
open Go Go.Proofs.YtcgjepodnfjggaaGreatDoor
variable{m:Nat}(hm:Ok m)
include hm
omit hm in
def agn(f:Nat→Nat)(j:Nat):Nat:=if j%2=1 then f j else 0
omit hm in
def NC(m:Nat)(T f:Nat→Nat)(j:Nat):Nat:=cS m f T j^^^agn f j
omit hm in
structure avQ(m:Nat)(s:ae)(q:lk)(n:Nat):Prop where
 c:∀j,j≤n→NC m (oi (ap s)) (ap q.c) j=0
 b:∀j,j≤n→NC m (oi (ap s)) (lG q) j=0
 e:NC m (oi (ap s)) (lG q) (n+1)=q.e
end Go.cv
end
section
namespace Go.cv
open Go Go.Proofs.YtcgjepodnfjggaaGreatDoor
variable{m:Nat}(hm:Ok m)
def FA(m:Nat)(P:ae)(i:Nat):Nat:=xs (fun j=>bY m ((ap P j:Nat)*((i:Nat)+1:Int))) P.length
theorem Sn{l:b3}{x:Nat}:∀{i:Nat},0<Cv m l x i↔∃j,j<i∧lo m (l.getD j 0)=x
 |0=>⟨fun h=>absurd h (Nat.lt_irrefl 0),fun⟨_,h,_⟩=>absurd h (Je _)⟩
 |i+1=>by
  have ih:=Sn (l:=l) (x:=x) (i:=i);unfold Cv;by_cases h:lo m (l.getD i 0)=x
  ·refine⟨fun _=>⟨i,k3 i,h⟩,fun _=>?_⟩;rw[aD h];omega
  ·rw[az h,ih];refine⟨fun⟨j,ax,e⟩=>⟨j,by omega,e⟩,fun⟨j,ax,e⟩=>?_⟩;by_cases eK:j=i
   ·subst eK;exact absurd e h
   ·exact⟨j,by omega,e⟩
include hm
theorem Xn{c:ae}(ag:∀x∈c,x<2^m){s:Nat→Nat}{P:ae}{n:Nat}(aq:∀i,i<n→s i=FA m P i){j:Nat}(ax:j<n)(bc:c.length≤j+1):
  cS m (ap c) s j=xs (fun p=>ba m (fR m c (ap P p)) (bY m ((ap P p:Nat)*((j:Nat)+1:Int)))) P.length:=by
 have gr:∀i,ap c i<2^m:=fun i=>gA ag (eI m) i;have bu:cS m (ap c) s j=xs (fun i=>xs (fun p=>ba m (ba m (ap c i) (bY m (-(((ap P p:Nat):Int)*(i:Nat))))) (bY m ((ap P p:Nat)*((j:Nat)+1:Int)))) P.length) (j+1):=by
  unfold cS;refine hz (fun i hi=>?_);rw[aq _ (by omega)];unfold FA;rw[A1];refine hz (fun p _=>?_);rw[h0 hm (gr i) (hd hm _) (hd hm _),uK hm];congr 2;rw[show((j- i:Nat):Int)=(j:Int)- (i:Int) by omega,←Int.mul_neg,←NM];congr 1;omega
 rw[bu,Hy];refine hz (fun p _=>?_);rw[Y7 hm ag,Ao hm _ _ (fun i _=>eL hm (gr i) _)];have:=AN (f:=fun i=>ba m (ba m (ap c i) (bY m (-(((ap P p:Nat):Int)*(i:Nat))))) (bY m ((ap P p:Nat)*((j:Nat)+1:Int)))) (n:=c.length) (k:=j+1- c.length) (fun i hi=>by rw[dD hi,et,et]);rw[show c.length+(j+1- c.length)=j+1 by omega] at this;exact this
theorem ahY{P:ae}(gp:∀p∈P,p<N m)(gd:P.Nodup){y:Nat→Nat}(aF:∀p,y p<2^m){L:Nat}(h:∀a,a<P.length→xs (fun p=>ba m (y p) (bY m ((ap P p:Nat)*(((L+a:Nat):Nat)+1:Int)))) P.length=0){tu:Nat}(Ot:tu<P.length):y tu=0:=by
 let l:b3:=(P.eraseIdx tu).map (fun r=>((bY m (r:Nat):Nat):Int))
 have mI:l.length=P.length- 1:=by simp[l,TN,Ot]
 let g:=iC m l l.length
 have rM:g.length=P.length:=by show(iC m l l.length).length=_;rw[E8];omega
 have nd:=B5 hm l l.length;have LX:∀j,ap g j<2^m:=nd.c;have Ds:∀p,p<P.length→(cM m g (bY m (ap P p:Nat))=0↔p≠tu):=by
  intro p aG;rw[show cM m g (bY m (ap P p:Nat))=cM m (iC m l l.length) (bY m (ap P p:Nat)) from rfl,TO hm l (hd hm _),Sn];have Fo:P[p]?=some (ap P p):=p7 aG;constructor
  ·rintro⟨j,ax,e⟩ rfl;have EN:j<(P.eraseIdx p).length:=by simpa[l] using ax
   have bD:l.getD j 0=((bY m ((P.eraseIdx p)[j]:Nat):Nat):Int):=by simp[l,EN]
   rw[bD,hC (hd hm _)] at e;have y1:=sN EN;have ajN:(P.eraseIdx p)[j]∈P:=Tt y1;have dl:=AY hm e;have lV:=gp _ ajN;have sO:=gp _ (iF Fo);rw[pc (by omega) (by omega),pc (by omega) (by omega)] at dl;have ii:(P.eraseIdx p)[j]=ap P p:=by omega
   rw[List.getElem_eraseIdx] at ii;rw[eF aG] at Fo;have aaJ:=er Fo;rw[TN,aD aG] at EN;split at ii
   ·rename_i ca;rw[←aaJ] at ii;exact R4.1 gd j p (by omega) aG ca ii
   ·rename_i Dm;rw[←aaJ] at ii;exact R4.1 gd p (j+1) aG (by omega) (by omega) ii.symm
  ·intro e7;have hex:∃j,j<l.length∧(P.eraseIdx tu)[j]?=some (ap P p):=by
    by_cases ca:p<tu
    ·exact⟨p,by omega,by rw[Vu,aD ca];exact Fo⟩
    ·exact⟨p- 1,by omega,by rw[Vu,az (by omega),show p- 1+1=p by omega];exact Fo⟩
   obtain⟨j,ax,e⟩:=hex;refine⟨j,ax,?_⟩;have bD:l.getD j 0=((bY m (ap P p:Nat):Nat):Int):=by
    rw[eM];show((P.eraseIdx tu).map _)[j]?.getD 0=_;rw[jj,e];rfl
   rw[bD,hC (hd hm _)]
 have jw:xs (fun a=>ba m (ap g a) (xs (fun p=>ba m (y p) (bY m ((ap P p:Nat)*(((L+a:Nat):Nat)+1:Int)))) P.length)) P.length=0:=pO (fun a aj=>by rw[h a aj,jn]);have bu:xs (fun p=>ba m (ba m (y p) (bY m ((ap P p:Nat)*((L:Nat)+1:Int)))) (cM m g (bY m (ap P p:Nat)))) P.length=0:=by
  rw[←jw];rw[show(fun a=>ba m (ap g a) (xs (fun p=>ba m (y p) (bY m ((ap P p:Nat)*(((L+a:Nat):Nat)+1:Int)))) P.length))=fun a=>xs (fun p=>ba m (ap g a) (ba m (y p) (bY m ((ap P p:Nat)*(((L+a:Nat):Nat)+1:Int))))) P.length from funext (fun a=>A1 m _ _ _),Hy];refine hz (fun p _=>?_);rw[Ac hm (hd hm _) nd.lt,A1,rM];refine hz (fun a _=>?_);have af:=hd hm (m:=m);rw[DJ hm,kH hm (LX a) (af _),←h0 hm (eL hm (aF p) _) (af _) (LX a),h0 hm (aF p) (af _) (af _),uK hm,kH hm (eL hm (aF p) _) (LX a)];congr 3;rw[←NM];congr 1;omega
 rw[Af Ot (fun p aG e7=>by rw[(Ds p aG).2 e7,jn])] at bu;refine m8 fun aoB=>?_;exact o6 hm (eL hm (aF tu) _) (jC hm _ nd.lt) (o6 hm (aF tu) (hd hm _) aoB (Wz hm _)) (fun c6=>(Ds tu Ot).1 c6 I) bu
omit hm in
theorem GU(l:b3):∀i,ap (m5 m l i) 0=1
 |0=>rfl
 |i+1=>by show ap (cO _ (0::_)) 0=1;rw[ey,GU l i,pC];rfl
theorem aou{P:ae}(gp:∀p∈P,p<N m)(gd:P.Nodup){s:ae}(aq:∀x∈s,x<2^m){n:Nat}(br:∀i,i<n→ap s i=FA m P i)(aQ:2*P.length≤n):
  (cx m (dL m) s n).L=P.length∧(cx m (dL m) s n).c=m5 m (P.map Int.ofNat) (P.map Int.ofNat).length:=by
 have jO:=gS hm;have hi:=BT hm aq n;have av:=Bw hm (P.map Int.ofNat) (P.map Int.ofNat).length;have aap:=O9 hm (P.map Int.ofNat) (P.map Int.ofNat).length;have ic:(P.map Int.ofNat).length=P.length:=iK _;have Cy:∀p,p<P.length→fR m (m5 m (P.map Int.ofNat) (P.map Int.ofNat).length) (ap P p)=0:=fun p aG=>by
  rw[KW hm];exact⟨p,by omega,by simp[ap,aG]⟩
 have kv:sX m (ap (m5 m (P.map Int.ofNat) (P.map Int.ofNat).length)) (ap s) P.length n:=⟨av.c,fun j ax=>dD (by omega),fun j aa ab=>by
  rw[Xn hm av.lt br ab (by omega)];exact pO (fun p aG=>by rw[Cy p aG,et])⟩
 have hle:=WW hm aq n kv (by rw[GU];decide);have gr:(cx m (dL m) s n).c.length≤(cx m (dL m) s n).L+1:=sT hi.l6 (fun j ax=>hi.qp j (by omega));have pR:∀p,p<P.length→fR m (cx m (dL m) s n).c (ap P p)=0:=fun p aG=>
  ahY hm gp gd (y:=fun p=>fR m (cx m (dL m) s n).c (ap P p)) (fun p=>jC hm _ hi.l6.lt) (L:=(cx m (dL m) s n).L) (fun a aj=>by
   have:=Xn hm hi.l6.lt br (j:=(cx m (dL m) s n).L+a) (by omega) (by omega);rw[hi.cY _ (by omega) (by omega)] at this;exact this.symm) aG
 have Dm:P.length≤(cx m (dL m) s n).L:=by
  have p6:(cx m (dL m) s n).c.length≠0:=fun h=>by
   have:=hi.kp;rw[dD (by omega)] at this;cases this
  have h:=Ov hm (P.map (fun i:Nat=>ex m (em m (0- (i:Int))))) hi.l6 p6 ?_ ?_
  ·rw[iK] at h;omega
  ·refine Ib _ (R:=fun i j=>i<N m∧j<N m∧i≠j) (fun i j ⟨aa,ab,an⟩ he=>?_) (Q9 (fun{i j} aa ab an=>⟨gp i aa,gp j ab,an⟩) gd);have:=AY hm he;have bD:((0:Int)- (0- (i:Int)))%((N m:Nat):Int)=((0:Int)- (0- (j:Int)))%((N m:Nat):Int):=by rw[Bi,this,←Bi]
   rw[show(0:Int)- (0- (i:Int))=(i:Int) by omega,show(0:Int)- (0- (j:Int))=(j:Int) by omega,pc (by omega) (by omega),pc (by omega) (by omega)] at bD;omega
  ·intro x af;obtain⟨i,mN,rfl⟩:=gE.1 af;obtain⟨k,ah,e⟩:=E1 mN;have bD:ap P k=i:=by rw[←e];simp[ap,ah]
   refine⟨(ns hm _).2,?_⟩;have:=pR k ah;rw[bD] at this;exact this
 have cF:(cx m (dL m) s n).L=P.length:=by omega
 refine⟨cF,hi.l6.ext av (agm hm aq n (by rw[cF];exact kv) (GU _ _) (by omega))⟩
end Go.cv
end
section
namespace Go.Proofs.YtcgjepodnfjggaaGreatDoor
open Go Go.a6 Go.cv
set_option maxRecDepth 100000
theorem alr(g m x:Nat)(w:ao)(hm:Ok m)(aI:Has (fL g m) w)(af:x<2^m):cC Tryz.prog 291 [.pointer (some ⟨g,0,none⟩),.int .i64 (x:Nat),.int .i64 0] w (.int .i64 (x:Nat)):=by
 have:=O8 g m (x:Nat) 0 w hm aI;rw[hC af,HN,eS] at this;exact this
theorem getD_none{l:b3}{i:Nat}(h:l.length≤i):l.getD i 0=0:=by simp[List.getElem?_eq_none h]
theorem aeI(A:aN)(n c:Nat)(l:b3)(i:Nat)(w:ao)(aj:Has (aP 1 A n (ints .i64 l)) w)(aQ:n≤4294967296):cC Tryz.prog 372 [.slice A n c,.int .i64 (i:Nat)] w (.int .i64 (l.getD i 0)):=by
 have eA:=qB aj;subst eA;refine b8 Tryz.func372 I Tryz.ntmps372 I<|J.aw 1 I<|ak I I<|U.next<|J.seq<|J.aw 8 I<|ac I I<|cQ I I I (df (by omega))<|ac I I<|ac I I<|ac I I<|cf I I<|jz I I I I<|ef I I I<|U.next ?_;refine J.test I (fun ag=>?_) (fun ag=>?_)
 ·have Lo:=getD_none (l:=l) (i:=i) (by omega);exact J.aw 1 I<|ak I I<|U.next<|J.ret<|al.ret Tryz.results372 I (fun w hw=>⟨by rw[Lo];rfl,hw.nothing⟩)
 ·exact J.skip<|al.code<|J.aw 5 I<|ac I I<|ac I I<|fH i (fun w hw=>hw.a7 aj) I I I I (by omega)<|jN (fun w hw=>hw.a7 aj) I I (by rw[dJ];exact qv (by omega)) (by omega)<|ak I I<|U.next<|J.ret<|al.ret Tryz.results372 I (fun w hw=>⟨I,hw.nothing⟩)
theorem aiE(g m:Nat)(A:aN)(n c:Nat)(l:b3)(B:aN)(k d:Nat)(l2:b3)(j t:Nat)(w:ao)(hm:Ok m)(aI:Has (fL g m) w)(aj:Has (aP 1 A n (ints .i64 l)) w)(ad:Has (aP 1 B k (ints .i64 l2)) w)(aQ:n≤4294967296)(ah:k≤4294967296)(bb:t≤j)(ax:j<k):cC Tryz.prog 293 [.slice A n c,.slice B k d,.int .i64 (j:Nat),.int .i64 0,.int .i64 (t:Nat),.func (.func 198) #[.pointer (some ⟨g,0,none⟩)] #[]] w (.int .i64 (AW m (bz m l) (bz m l2) j (t+1):Nat)):=by
 have eA:=qB aj;subst eA;have yk:=qB ad;subst yk;have mI:=EY m l;refine b8 Tryz.func293 I Tryz.ntmps293 I<|J.aw 1 I<|ak I I<|U.bl 1 I<|ak I I<|U.next<|J.seq<|J.aw 2 I<|ac I I<|ak I I<|U.next<|J.block<|J.loop (G:=Nat) (fun i=>[(0,.slice A l.length c),(1,.slice B l2.length d),(2,.int .i64 (j:Nat)),(4,.int .i64 (t:Nat)),(5,.func (.func 198) #[.pointer (some ⟨g,0,none⟩)] #[]),(13,.int .i64 (AW m (bz m l) (bz m l2) j (i):Nat)),(14,.int .i64 (i:Nat))]) (fun _=>bF w []) (fun i=>i≤t+1) (fun i=>t+1- i) 0 ⟨I,I,I,I,I,I,I,trivial⟩ (fun _ h=>h) (dg _) ?_;intro i hi;have hf:=QJ hm mI (s:=bz m l2) j i;have yB:=eL hm (gA mI (eI m) i) (ap (bz m l2) (j- i));refine J.seq<|J.aw 3 I<|ac I I<|ac I I<|Bu I I I I<|U.next ?_;refine J.test I (fun ag=>?_) (fun ag=>?_)
 ·exact J.skip<|al.code<|J.seq<|J.block<|J.dQ (bW [0,1,2,3,5,6,7,8,9,10] (cj [4,11] (bW [12,13] .done))) (bF w []) mixed (by kernel_rfl) (fun _ h=>h.drew) (fun _ h=>h)<|ac I I<|ac I I<|ac I I<|ac I I<|ac I I<|ac I I<|ac I I<|eB I I I (r:=((j- i:Nat):Int)) (by rw[show((j:Nat):Int)- (i:Nat)=((j- i:Nat):Int) by omega];exact bm (by omega))<|fH (j- i) (fun w hw=>hw.a7 ad) I I I I (by omega)<|yn (fun w hw=>hw.a7 ad) I I (by rw[dJ];exact qv (by omega)) (by omega)<|bJ I I I I (fun w hw=>aeI A l.length c l i w (hw.a7 aj) aQ) (fun _ h=>h)<|bJ I I I I (fun w hw=>by have:=Cx g m (l.getD i 0) (l2.getD (j- i) 0) w hm (hw.a7 aI);rw[←CL,←CL] at this;exact this) (fun _ h=>h)<|dY I I I I (xd (zC hm hf) (zC hm yB))<|ak I I<|U.end_<|al.aE<|al.code<|J.rg 3 I<|ac I I<|b1 I I I (r:=((i+1:Nat):Int)) (bm (by omega))<|ak I I<|U.end_<|al.back (i+1) ⟨I,I,I,I,I,I,I,trivial⟩ (fun _ h=>h) (by omega) (by omega)
 ·obtain rfl:i=t+1:=by omega
  exact J.exit I<|al.code<|J.aw 2 I<|ac I I<|ak I I<|U.next<|J.ret<|al.ret Tryz.results293 I (fun w hw=>⟨I,hw.nothing⟩)
theorem agl(g m:Nat)(A:aN)(c:Nat)(l:b3)(Gk:Nat)(cZ cs:cJ)(c3:ae→ae→Nat→Nat→ae)(Q:ao→Prop)(w:ao)[aU Tryz.prog Gk](hm:Ok m)(dq:L1 m c3)(aI:Has (fL g m) w)(aj:Has (aP 1 A l.length (ints .i64 l)) w)(aQ:l.length≤4294967296)(gL:l.length≤c)(hr:∀L aZ,bF w L aZ→Q aZ)
  (aeB:∀(aZ:ao) (fo:aN) (dO:Nat) (a:ae) (cc:aN) (c2:Nat) (b:ae) (d e:Nat),Q aZ→Has (aP 1 fo a.length (aA .i64 a)) aZ→Has (aP 1 cc b.length (aA .i64 b)) aZ→(∀x∈a,x<2^m)→(∀x∈b,x<2^m)→a.length≤100→b.length≤100→d<2^m→e<2^m→e≠0→pV Tryz.prog Gk (cZ.toList++[.slice fo a.length dO,.slice cc b.length c2,.int .i64 (d:Nat),.int .i64 (e:Nat)]++cs.toList) aZ (c3 a b d e)):fh Tryz.prog 203 [.pointer (some ⟨g,0,none⟩),.slice A l.length c,.func (.func Gk) cZ cs] w (X:=aN×Nat) (fun q=>two (.slice q.1 (cx m c3 (bz m (l.take 80)) (min l.length 80)).c.length q.2) (.int .i64 ((cx m c3 (bz m (l.take 80)) (min l.length 80)).L:Nat))) (fun q=>(cx m c3 (bz m (l.take 80)) (min l.length 80)).c.length≤q.2) (fun q=>[own 3 1 q.1 (cx m c3 (bz m (l.take 80)) (min l.length 80)).c.length q.2 (aA .i64 (cx m c3 (bz m (l.take 80)) (min l.length 80)).c)]):=by
 have EP:=wG hm;have ca:=EY m (l.take 80);have eY:(min l.length 80)≤80:=by omega
 have ahR:=Has.gK (aj.su (q:=(min l.length 80)) (by omega)) (aa3 l 80);refine b8 Tryz.func203 I Tryz.ntmps203 I<|J.aw 2 I<|ak I I<|ak I I<|U.bl 6 I<|ac I I<|ac I I<|cf I I<|wL I I I (r:=(((min l.length 80):Nat):Int)) (by split<;>omega)<|oJ (min l.length 80) rfl rfl rfl rfl (by omega)<|ak rfl rfl<|U.bl 3 rfl<|ac rfl rfl<|dh rfl rfl rfl rfl (fun w hw=>GC g w) aJ<|fun r aH=>ak rfl rfl<|U.bl 4 rfl<|ja rfl rfl (cells:= #[.int .i64 1]) (by kernel_rfl) rfl aJ<|fun aqA=>ja rfl rfl (cells:= #[.int .i64 1]) (by kernel_rfl) rfl aJ<|fun Md=>ak rfl rfl<|ak rfl rfl<|U.bl 3 rfl<|ak rfl rfl<|ak rfl rfl<|ak rfl rfl<|U.next<|J.seq<|J.aw 3 rfl<|ac rfl rfl<|cf rfl rfl<|ac rfl rfl<|U.next<|J.block ?_;refine J.loop (G:=Nat×(aN×Nat)×(aN×Nat)) (fun q=>[(0,.pointer (some ⟨g,0,none⟩)),(1,.slice A (min l.length 80) c),(2,.func (.func Gk) cZ cs),(8,.pointer (some ⟨r,0,none⟩)),(9,.slice q.2.1.1 (cx m c3 (bz m (l.take 80)) q.1).c.length q.2.1.2),(10,.slice q.2.2.1 (cx m c3 (bz m (l.take 80)) q.1).b.length q.2.2.2),(11,.int .i64 ((cx m c3 (bz m (l.take 80)) q.1).L:Nat)),(12,.int .i64 ((cx m c3 (bz m (l.take 80)) q.1).k:Nat)),(13,.int .i64 ((cx m c3 (bz m (l.take 80)) q.1).e:Nat)),(27,.int .i64 ((min l.length 80):Nat)),(28,.int .i64 (q.1:Nat))]) (fun q=>bF w [own 3 1 q.2.1.1 (cx m c3 (bz m (l.take 80)) q.1).c.length q.2.1.2 (aA .i64 (cx m c3 (bz m (l.take 80)) q.1).c),own 3 1 q.2.2.1 (cx m c3 (bz m (l.take 80)) q.1).b.length q.2.2.2 (aA .i64 (cx m c3 (bz m (l.take 80)) q.1).b),aE r 330 #[.pointer (some ⟨g,0,none⟩)]]) (fun q=>q.1≤(min l.length 80)) (fun q=>(min l.length 80)- q.1) (0,(some ⟨aqA,0,none⟩,1),(some ⟨Md,0,none⟩,1)) ⟨I,I,I,I,I,I,I,I,I,I,I,trivial⟩ (fun _ h=>by
  have aa:=h.pick [1,0,0] rfl;have ab:=aa.st (q:=0) (c:=1) (sz:=1) rfl rfl (by unfold maxLen;omega);have an:=ab.st (q:=1) (c:=1) (sz:=1) rfl rfl (by unfold maxLen;omega);exact an) (dg _) ?_
 rintro⟨i,⟨nN,bT⟩,⟨QQ,Nq⟩⟩ hi;simp only at hi;dsimp only;have av:=T4 hm dq (bz m (l.take 80)) i;obtain⟨Jj,IL,KN,aqx,vb,ka,Fu,gr⟩:=av;have se:(cx m c3 (bz m (l.take 80)) i).d m (bz m (l.take 80)) i<2^m:=QJ hm Jj.lt _ _;have aey:=aaY IL.lt;have aru:(List.replicate (cx m c3 (bz m (l.take 80)) i).k 0++(cx m c3 (bz m (l.take 80)) i).b).length=(cx m c3 (bz m (l.take 80)) i).k+(cx m c3 (bz m (l.take 80)) i).b.length:=by rw[ee,jI]
 refine J.aw 1 I<|cQ I I I I<|U.next<|J.seq ?_;refine J.test I (fun ag=>?_) (fun ag=>?_)
 ·refine J.skip<|al.code<|J.seq<|J.block<|J.aw 2 I<|ac I I<|ak I I<|U.bl 10 I<|ac I I<|ac I I<|ac I I<|ac I I<|ac I I<|ac I I<|oo I I I<|bJ I I I I (v:=.int .i64 ((cx m c3 (bz m (l.take 80)) i).d m (bz m (l.take 80)) i:Nat)) (fun w hw=>by have:=aiE g m nN (cx m c3 (bz m (l.take 80)) i).c.length bT ((cx m c3 (bz m (l.take 80)) i).c.map Int.ofNat) A (min l.length 80) c (l.take 80) i (cx m c3 (bz m (l.take 80)) i).L w hm (hw.a7 aI) (by rw[←vl];exact(hw.has (i:=0) I).dw) (hw.a7 ahR) (by omega) (by omega) KN (by omega);rw[xm Jj.lt] at this;exact this) aJ<|bJ I I I I (fun w hw=>alr g m _ w hm (hw.a7 aI) se) aJ<|ak I I<|U.next<|J.seq<|J.aw 2 I<|ac I I<|gy I I I I<|U.next ?_;refine J.test I (fun ag=>?_) (fun ag=>?_)
  ·have bV:(cx m c3 (bz m (l.take 80)) (i+1))=⟨(cx m c3 (bz m (l.take 80)) i).c,(cx m c3 (bz m (l.take 80)) i).b,(cx m c3 (bz m (l.take 80)) i).L,(cx m c3 (bz m (l.take 80)) i).k+1,(cx m c3 (bz m (l.take 80)) i).e⟩:=aD (by omega);exact J.aw 3 I<|ac I I<|b1 I I I (r:=(((cx m c3 (bz m (l.take 80)) i).k+1:Nat):Int)) (bm (by omega))<|ak I I<|U.next<|J.exit I<|al.code<|J.rg 2 I<|b1 I I I (r:=((i+1:Nat):Int)) (bm (by omega))<|ac I I<|U.end_<|al.back (i+1,(nN,bT),(QQ,Nq)) ⟨I,I,I,I,by simp only[bV];rfl,by simp only[bV];rfl,by simp only[bV];rfl,by simp only[bV];rfl,by simp only[bV];rfl,rfl,rfl,trivial⟩ (fun _ h=>by simp only[bV];exact h) (by simp only;omega) (by simp only;omega)
  ·have Gn:¬(cx m c3 (bz m (l.take 80)) i).d m (bz m (l.take 80)) i=0:=fun h=>ag (by rw[h];rfl);refine J.skip<|al.code<|J.aw 9 I<|ac I I<|ac I I<|ac I I<|ac I I<|dh I I I I (fun w hw=>auL QQ Nq (cx m c3 (bz m (l.take 80)) i).b (cx m c3 (bz m (l.take 80)) i).k w ((hw.has (i:=1) I).dw) (by omega) (by omega)) aJ<|fun abl avJ=>ac I I<|ac I I<|dh I I I I (fun w hw=>aeB w nN bT _ abl.1 abl.2 _ _ _ (hr _ _ hw) ((hw.has (i:=1) I).dw) ((hw.has (i:=0) I).dw) Jj.lt aey (by omega) (by rw[aru];omega) se vb aqx) aJ<|fun ZX axD=>ak rfl rfl<|U.next<|J.seq<|J.aw 4 rfl<|ac rfl rfl<|jE rfl rfl rfl (r:=((2*(cx m c3 (bz m (l.take 80)) i).L:Nat):Int)) (by rw[show(2:Int)*(((cx m c3 (bz m (l.take 80)) i).L:Nat):Int)=((2*(cx m c3 (bz m (l.take 80)) i).L:Nat):Int) by omega];exact bm (by omega))<|ac I I<|fD I I I I<|U.next ?_;refine J.test I (fun cR=>?_) (fun cR=>?_)
   ·have bV:(cx m c3 (bz m (l.take 80)) (i+1))=⟨c3 (cx m c3 (bz m (l.take 80)) i).c (List.replicate (cx m c3 (bz m (l.take 80)) i).k 0++(cx m c3 (bz m (l.take 80)) i).b) ((cx m c3 (bz m (l.take 80)) i).d m (bz m (l.take 80)) i) (cx m c3 (bz m (l.take 80)) i).e,(cx m c3 (bz m (l.take 80)) i).b,(cx m c3 (bz m (l.take 80)) i).L,(cx m c3 (bz m (l.take 80)) i).k+1,(cx m c3 (bz m (l.take 80)) i).e⟩:=(az Gn).trans (aD (by omega));exact J.rg 3 I<|ac I I<|b1 I I I (r:=(((cx m c3 (bz m (l.take 80)) i).k+1:Nat):Int)) (bm (by omega))<|ak I I<|U.next<|J.rg 2 I<|ac I I<|ak I I<|U.end_<|al.aE<|al.code<|J.rg 2 I<|b1 I I I (r:=((i+1:Nat):Int)) (bm (by omega))<|ac I I<|U.end_<|al.back (i+1,ZX,(QQ,Nq)) ⟨I,I,I,I,by simp only[bV];rfl,by simp only[bV];rfl,by simp only[bV];rfl,by simp only[bV];rfl,by simp only[bV];rfl,rfl,rfl,trivial⟩ (fun _ h=>by simp only[bV];exact h.pick [0,2,2] I) (by simp only;omega) (by simp only;omega)
   ·have bV:(cx m c3 (bz m (l.take 80)) (i+1))=⟨c3 (cx m c3 (bz m (l.take 80)) i).c (List.replicate (cx m c3 (bz m (l.take 80)) i).k 0++(cx m c3 (bz m (l.take 80)) i).b) ((cx m c3 (bz m (l.take 80)) i).d m (bz m (l.take 80)) i) (cx m c3 (bz m (l.take 80)) i).e,(cx m c3 (bz m (l.take 80)) i).c,i+1- (cx m c3 (bz m (l.take 80)) i).L,1,(cx m c3 (bz m (l.take 80)) i).d m (bz m (l.take 80)) i⟩:=(az Gn).trans (az (by omega));exact J.rg 10 I<|ac I I<|ac I I<|b1 I I I (r:=((i+1:Nat):Int)) (bm (by omega))<|ac I I<|eB I I I (r:=((i+1- (cx m c3 (bz m (l.take 80)) i).L:Nat):Int)) (by rw[show((i+1:Nat):Int)- ((cx m c3 (bz m (l.take 80)) i).L:Nat)=((i+1- (cx m c3 (bz m (l.take 80)) i).L:Nat):Int) by omega];exact bm (by omega))<|ac I I<|ak I I<|ak I I<|ak I I<|ak I I<|U.next<|J.rg 2 I<|ac I I<|ak I I<|U.end_<|al.aE<|al.code<|J.rg 2 I<|b1 I I I (r:=((i+1:Nat):Int)) (bm (by omega))<|ac I I<|U.end_<|al.back (i+1,ZX,(nN,bT)) ⟨I,I,I,I,by simp only[bV];rfl,by simp only[bV];rfl,by simp only[bV];rfl,by simp only[bV];rfl,by simp only[bV];rfl,rfl,rfl,trivial⟩ (fun _ h=>by simp only[bV];exact h.pick [0,1,2] I) (by simp only;omega) (by simp only;omega)
 ·obtain rfl:i=(min l.length 80):=by omega
  exact J.exit I<|al.code<|J.aw 6 I<|ac I I<|ac I I<|dh I I I I (fun w hw=>by have:=zt r g m nN (cx m c3 (bz m (l.take 80)) (min l.length 80)).c.length bT ((cx m c3 (bz m (l.take 80)) (min l.length 80)).c.map Int.ofNat) w hm (Jc (hw.a7 aI) (hw.has (i:=2) I)) (by rw[←vl];exact(hw.has (i:=0) I).dw) (by omega);rw[Jj.low] at this;exact this) aJ<|fun agL ad3=>ac I I<|ak I I<|ak I I<|U.next<|J.ret<|al.ret Tryz.results203 I (fun w hw=>⟨agL,I,ad3,hw.pick [0] I⟩)
theorem ajX(ew xa r g m:Nat)(A:aN)(c:Nat)(a:ae)(B:aN)(k:Nat)(b:ae)(d e:Nat)(w:ao)(hm:Ok m)(aH:Has (uQ r g m) w)(Ef:w.cell? ⟨xa,0,none⟩=some (.pointer (some ⟨r,0,none⟩)))(q1:w.cell? ⟨ew,0,none⟩=some (.pointer (some ⟨g,0,none⟩)))(jw:e≠0)(aj:Has (aP 1 A a.length (aA .i64 a)) w)(ad:Has (aP 1 B b.length (aA .i64 b)) w)(rJ:∀x∈a,x<2^m)(k7:∀x∈b,x<2^m)(aQ:a.length≤100)(ah:b.length≤100)(aW:d<2^m)(he:e<2^m):pV Tryz.prog 204 [.slice A a.length c,.slice B b.length k,.int .i64 (d:Nat),.int .i64 (e:Nat),.pointer (some ⟨ew,0,none⟩),.pointer (some ⟨xa,0,none⟩)] w (dL m a b d e):=by
 obtain⟨wc,aI⟩:=DV aH;have s3:(ba m d (inv m e))<2^m:=eL hm aW _;have hf:=D2 hm k7 (ba m d (inv m e));have GO:=T5 m b (ba m d (inv m e));exact b8 Tryz.func204 I Tryz.ntmps204 I<|J.aw 1 I<|ak I I<|U.bl 9 I<|c5 I I (fun _ h=>h.cell q1)<|ac I I<|ac I I<|bJ I I I I (v:=two (.int .i64 ((ba m d (inv m e)):Nat)) .nilIface) (fun w hw=>by have:=aqO g m (d:Nat) (e:Nat) w hm (hw.a7 aI) (by rw[hC he];exact jw);rw[hC aW,hC he] at this;exact this) aJ<|ac I I<|cB I I I<|cB I I I<|ak I I<|ak I I<|U.next<|J.seq<|J.dQ (bW [0,1,2,3,4] (cj [5,6] (bW [7] .done))) (bF w []) mixed (by kernel_rfl) (fun _ h=>h.drew) (fun _ h=>h)<|dc I I (fun _ h=>h.cell Ef)<|ac I I<|dc I I (fun _ h=>h.cell Ef)<|ac I I<|ac I I<|dh I I I I (fun w hw=>by have:=asX r g m B b.length k (b.map Int.ofNat) ((ba m d (inv m e)):Nat) w hm (hw.a7 aH) (by rw[←vl];exact(hw.a7 ad)) (by omega);rw[xm k7,hC s3] at this;exact this) (fun _ h=>h.pick [] I)<|fun fG xK=>dh I I I I (fun w hw=>by have:=afe r g m A a.length c (a.map Int.ofNat) fG.1 (gU m b (ba m d (inv m e))).length fG.2 ((gU m b (ba m d (inv m e))).map Int.ofNat) w hm (hw.a7 aH) (by rw[←vl];exact(hw.a7 aj)) (by rw[←vl];exact((hw.has (i:=0) I).dw)) (by omega) (by omega);rw[xm rJ,xm hf] at this;exact this) (fun _ h=>h.pick [] I)<|fun da hD=>ak I I<|U.next<|J.ret<|al.ret Tryz.results204 I (fun w hw=>⟨da,I,hD,hw.pick [0] I⟩)
theorem ak7(g m:Nat)(A:aN)(c:Nat)(l:b3)(w:ao)(hm:Ok m)(aI:Has (fL g m) w)(aj:Has (aP 1 A l.length (ints .i64 l)) w)(aQ:l.length≤4294967296)(gL:l.length≤c):fh Tryz.prog 150 [.pointer (some ⟨g,0,none⟩),.slice A l.length c] w (X:=aN×Nat) (fun q=>two (.slice q.1 (cx m (dL m) (bz m (l.take 80)) (min l.length 80)).c.length q.2) (.int .i64 ((cx m (dL m) (bz m (l.take 80)) (min l.length 80)).L:Nat))) (fun q=>(cx m (dL m) (bz m (l.take 80)) (min l.length 80)).c.length≤q.2) (fun q=>[own 3 1 q.1 (cx m (dL m) (bz m (l.take 80)) (min l.length 80)).c.length q.2 (aA .i64 (cx m (dL m) (bz m (l.take 80)) (min l.length 80)).c)]):=by
 refine b8 Tryz.func150 I Tryz.ntmps150 I<|J.aw 3 I<|fx I I aJ (fun ew=>?_);refine ak I I<|ak I I<|U.bl 4 I<|c5 I I (fun _ h=>h.cP (i:=0) (j:=0) I I)<|dh I I I I (fun w hw=>GC g w) aJ (fun r aH=>?_);refine gg I aJ (fun xa=>?_);refine eh 0 I I I I I (k3 0) aJ<|U.bl 8 I<|c5 I I (fun _ h=>h.cP (i:=2) (j:=0) I I)<|ac I I<|oo I I I<|dh I I I I (fun w hw=>agl g m A c l 204 #[] #[.pointer (some ⟨ew,0,none⟩),.pointer (some ⟨xa,0,none⟩)] (dL m) (fun aZ=>aZ.cell? ⟨ew,0,none⟩=some (.pointer (some ⟨g,0,none⟩))∧aZ.cell? ⟨xa,0,none⟩=some (.pointer (some ⟨r,0,none⟩))∧Has (uQ r g m) aZ) w hm (aqP hm) (hw.a7 aI) (hw.a7 aj) aQ gL (fun L aZ h=>⟨h.cell (hw.cP (i:=2) (j:=0) I I),h.cell (hw.cP (i:=0) (j:=0) I I),h.a7 (Jc (hw.a7 aI) (hw.has (i:=1) I))⟩) (fun aZ fo dO a cc c2 b d e ⟨aa,ab,an⟩ aj ad rJ k7 aQ ah aW he jw=>ajX ew xa r g m fo dO a cc c2 b d e aZ hm an ab aa jw aj ad rJ k7 aQ ah aW he)) aJ (fun q aM=>?_);refine cB I I I<|cB I I I<|ak I I<|ak I I<|U.next<|J.ret ?_;exact al.ret Tryz.results150 I (fun w hw=>⟨q,I,aM,hw.pick [0] I⟩)
theorem asH(g m:Nat)(A:aN)(c:Nat)(l:b3)(z:Int)(w:ao)(hm:Ok m)(aI:Has (fL g m) w)(aj:Has (aP 1 A l.length (ints .i64 l)) w)(aQ:l.length≤2048)(gL:l.length≤c):pV Tryz.prog 153 [.pointer (some ⟨g,0,none⟩),.slice A l.length c,.int .i64 z] w (gM (fR m (bz m l)) (min z (N m:Nat)).toNat):=by
 have EP:=wG hm;have Al:=kZ m;have C9:l.take 2048=l:=pK aQ;have cE:(trim (bz m l)).length≤l.length:=by rw[kY,←sC m l];exact lQ _
 exact b8 Tryz.func153 I Tryz.ntmps153 I<|J.aw 1 I<|ak I I<|U.bl 6 I<|ac I I<|ac I I<|ac I I<|dh I I I I (fun w hw=>by have:=aui g m A c l z w hm (hw.a7 aI) (hw.a7 aj) (by omega) gL;rw[C9] at this;exact this) aJ<|fun q aM=>dh I I I I (fun w hw=>aj6 210 297 _ _ _ (fR m (bz m l)) (min z (N m:Nat)).toNat w (by omega) (fun w=>akT _ _ _ w) (fun b=>by have:=(aeF g m b q.1 q.2 (trim (bz m l)) (min z (N m:Nat)) w hm (hw.a7 aI) ((hw.has (i:=0) I).dw) (by omega) (J5 m l) (by omega));simp only[af7 hm (J5 m l),aie] at this;exact this)) aJ<|fun da hD=>ak I I<|U.next<|J.ret<|al.ret Tryz.results153 I (fun w hw=>⟨da,I,hD,hw.pick [0] I⟩)
end Go.Proofs.YtcgjepodnfjggaaGreatDoor
end
section
namespace Go.Proofs.YtcgjepodnfjggaaGreatDoor
open Go.a6 Go.cv
set_option maxRecDepth 100000
theorem ai2(m:Nat)(A:aN)(n c:Nat)(l:b3)(x:Int)(w:ao)(hm:Ok m)(aj:Has (aP 1 A n (ints .i64 l)) w)(aQ:n≤4294967296):cC Tryz.prog 306 [.int .i64 (m:Nat),.slice A n c,.int .i64 x] w (.int .i64 (cM m (bz m l) (lo m x):Nat)):=by
 have eA:=qB aj;subst eA;have hlen:=sC m l;have ca:=EY m l;refine b8 Tryz.func306 I Tryz.ntmps306 I<|J.aw 1 I<|ak I I<|U.bl 1 I<|ak (v:=.int .i64 (cM m ((bz m l).drop l.length) (lo m x):Nat)) I (by rw[←hlen,Oj];rfl)<|U.next<|J.seq<|J.aw 4 rfl<|ac rfl rfl<|cf rfl rfl<|eB rfl rfl rfl (bm (by omega))<|ak rfl rfl<|U.next<|J.block<|J.loop (G:=Nat) (fun j=>[(0,.int .i64 (m:Nat)),(1,.slice A l.length c),(2,.int .i64 x),(7,.int .i64 (cM m ((bz m l).drop j) (lo m x):Nat)),(8,.int .i64 ((j:Nat)- 1))]) (fun _=>bF w []) (fun j=>j≤l.length) (fun j=>j) l.length ⟨rfl,rfl,rfl,rfl,rfl,trivial⟩ (fun _ h=>h) (cq _) ?_;intro j ax;have zJ:=jC hm (lo m x) (l:=(bz m l).drop j) (fun a aj=>ca a (xG aj));refine J.seq<|J.aw 2 I<|ac I I<|jz I I I I<|U.next ?_;refine J.test I (fun ag=>?_) (fun ag=>?_)
 ·have aB:0<j:=by omega
  have vB:=arF (m:=m) aB ax;exact J.skip<|al.code<|J.seq<|J.block<|J.dQ (bW [0,1,2,4,5,6,7,8] (cj [3,9] (bW [10,11] .done))) (bF w []) mixed (by kernel_rfl) (fun _ h=>h.drew) (fun _ h=>h)<|ac I I<|ac I I<|ac I I<|ac I I<|ac I I<|ac I I<|fH (j- 1) (fun w hw=>hw.a7 aj) I I I (by omega) (by omega)<|yn (fun w hw=>hw.a7 aj) I I (by rw[dJ];exact qv (by omega)) (by omega)<|bJ I I I I (v:=.int .i64 (ba m (cM m ((bz m l).drop j) (lo m x)) (lo m x):Nat)) (fun w hw=>by have:=Cf m (cM m ((bz m l).drop j) (lo m x):Nat) x w hm;rw[hC zJ] at this;exact this) (fun _ h=>h)<|bJ I I I I (fun w hw=>Cs m _ _ hm) (fun _ h=>h)<|dY I I I I (r:=((cM m ((bz m l).drop (j- 1)) (lo m x):Nat):Int)) (by rw[vB];exact xd (zC hm (eL hm zJ _)) (zC hm (lJ m _)))<|ak I I<|U.end_<|al.aE<|al.code<|J.rg 3 I<|ac I I<|eB I I I (r:=((j- 1:Nat):Int)- 1) (by rw[show((j:Nat):Int)- 1- 1=((j- 1:Nat):Int)- 1 by omega];exact bm (by omega))<|ak I I<|U.end_<|al.back (j- 1) ⟨I,I,I,I,I,trivial⟩ (fun _ h=>h) (by omega) (by omega)
 ·obtain rfl:j=0:=by omega
  exact J.exit I<|al.code<|J.aw 2 I<|ac I I<|ak I I<|U.next<|J.ret<|al.ret Tryz.results306 I (fun w hw=>⟨I,hw.nothing⟩)
theorem aeZ{m:Nat}{w:ao}{x y:Nat}(hm:Ok m)(af:x<2^m)(aF:y<2^m):cC Tryz.prog 300 [.int .i64 (m:Nat),.int .i64 (x:Nat),.int .i64 (y:Nat)] w (.int .i64 (ba m x y:Nat)):=by
 have:=Cf m x y w hm;rw[hC af,hC aF] at this;exact this
structure ED(m:Nat)(a b:ae)(q:ae×(Nat→Nat)×(aN×Nat)):Prop where
 cI:b2 m q.1
 le:q.1.length≤a.length
 lt:∀j,q.2.1 j<2^m
 lo:∀j,j+b.length≤q.1.length→q.2.1 j=0
 hi:∀j,a.length<j+b.length→q.2.1 j=0
 eq:∀j,cS m q.2.1 (ap b) j^^^ap q.1 j=ap a j
theorem alF(s:Nat)(x:ae)(j:Nat):ap (List.replicate s 0++x) j=if j<s then 0 else ap x (j- s):=by
 unfold ap;simp only[eM];split
 ·rw[nE (by simpa using by assumption)];rw[Iu];split<;>rfl
 ·rw[mg (by simp;omega)];simp
theorem ED.next{m:Nat}(hm:Ok m){a b e1:ae}{Q:Nat→Nat}{A bw:aN×Nat}(h:ED m a b (e1,Q,A))(ad:b2 m b)(iL:b.length≠0)(bc:b.length≤e1.length):
  ED m a b (cO e1 (List.replicate (e1.length- b.length) 0++gU m b (ba m (ap e1 (e1.length- 1)) (inv m (ap b (b.length- 1))))),fun j=>if j=e1.length- b.length then ba m (ap e1 (e1.length- 1)) (inv m (ap b (b.length- 1))) else Q j,bw)∧
  (cO e1 (List.replicate (e1.length- b.length) 0++gU m b (ba m (ap e1 (e1.length- 1)) (inv m (ap b (b.length- 1)))))).length<e1.length:=by
 obtain⟨aa,ab,an,aK,bo,cd⟩:=h;simp only at aa ab an aK bo cd;have ag:ba m (ap e1 (e1.length- 1)) (inv m (ap b (b.length- 1)))<2^m:=eL hm (aa.c _) _;have hdiv:=Og hm (aa.c (e1.length- 1)) (ad.c (b.length- 1)) (ad.jq iL);generalize ba m (ap e1 (e1.length- 1)) (inv m (ap b (b.length- 1)))=c at*;generalize aq:e1.length- b.length=s at*;have qn:∀j,ap (cO e1 (List.replicate s 0++gU m b c)) j=ap e1 j^^^(if s≤j then ba m c (ap b (j- s)) else 0):=fun j=>by
  rw[ey,alF];congr 1;by_cases h:j<s
  ·rw[aD h,az (by omega)]
  ·rw[az h,aD (by omega),oN,kH hm (ad.c _) ag]
 have El:=(yL hm ad c).lt;have xA:b2 m (cO e1 (List.replicate s 0++gU m b c)):=kz (fun j=>mY (aa.c j) (gA (fun x af=>by
  rcases hI.1 af with af|af
  ·rw[(BR.1 af).2];exact eI m
  ·exact El x af) (eI m) j))
 have hlen:(cO e1 (List.replicate s 0++gU m b c)).length≤e1.length- 1:=sT xA (fun j ax=>by
  rw[qn,aD (by omega)];by_cases he:j=e1.length- 1
  ·subst he;rw[show e1.length- 1- s=b.length- 1 by omega,hdiv,jy]
  ·rw[dD (l:=e1) (by omega),dD (l:=b) (by omega),jn];rfl)
 refine⟨⟨xA,by simp only;omega,fun j=>by simp only;split;exact ag;exact an j,fun j ax=>?_,fun j ax=>?_,fun j=>?_⟩,by omega⟩
 ·simp only at ax⊢;rw[az (by omega)];exact aK j (by omega)
 ·simp only at ax⊢;rw[az (by omega)];exact bo j ax
 ·simp only;have e:cS m (fun j=>if j=s then c else Q j) (ap b) j=cS m (fun i=>(if i=s then c else 0)^^^Q i) (ap b) j:=oT (fun i _=>by
   by_cases h:i=s
   ·rw[aD h,aD h,aK i (by omega),eS]
   ·rw[az h,az h,hQ]) (fun _ _=>rfl)
  rw[e,yG hm (fun i=>by split;exact ag;exact eI m) an,wZ,qn];generalize (if s≤j then ba m c (ap b (j- s)) else 0)=z;rw[←cd j,oR (ap e1 j) z,oR z (cS m Q (ap b) j),h5,JL]
theorem ED.done{m:Nat}(hm:Ok m){a b e1:ae}{Q:Nat→Nat}{A:aN×Nat}(h:ED m a b (e1,Q,A))(aj:b2 m a)(ad:b2 m b)(iL:b.length≠0)(bc:e1.length<b.length):
  trim (bz m (Lu (a.length+1) Q))=mP m a b∧e1=mV m a b:=by
 obtain⟨aa,ab,an,aK,bo,cd⟩:=h;simp only at aa ab an aK bo cd;rw[aut an];have aM:b2 m (pl (a.length+1) Q):=kz an;refine Pd hm aj ad iL aM aa bc ((lu hm (iS hm aM ad) aa).ext aj (fun j=>?_));rw[ey,jS,←cd j];congr 1;refine oT (fun i _=>?_) (fun _ _=>I);rw[jh];split
 ·rfl
 ·exact(bo i (by omega)).symm
structure avP(m:Nat)(a b:ae)(q:ae×ae×(aN×Nat)×(aN×Nat)):Prop where
 aa:b2 m q.1
 ab:b2 m q.2.1
 aC:q.1.length≤1073741824
 l2:q.2.1.length≤1073741824
 eq:rK m q.1 q.2.1=rK m a b
end Go.Proofs.YtcgjepodnfjggaaGreatDoor
end
section
namespace Go.Proofs.YtcgjepodnfjggaaGreatDoor
open Go Go.Lib Go.a6 Go.cv
set_option maxRecDepth 100000
end Go.Proofs.YtcgjepodnfjggaaGreatDoor
end
section
namespace Go.Proofs.YtcgjepodnfjggaaGreatDoor
open Go Go.a6 Go.cv jm
set_option maxRecDepth 100000
theorem ajm(A:aN)(n c:Nat)(p:ae)(i:Int)(w:ao)(aj:Has (aP 1 A n (aA .u8 p)) w)(aG:∀x∈p,x<256)(aQ:n≤1073741824)(gL:n≤c)(hi:i≤9223372036854775807):cC Tryz.prog 212 [.slice A n c,.int .i64 i] w (.int .i64 (qi p i:Nat)):=by
 have eA:=kc aj;subst eA;have oC:=ab1 p i;refine b8 Tryz.func212 I Tryz.ntmps212 I<|J.aw 1 I<|ak I I<|U.next<|J.seq<|J.aw 9 I<|ac I I<|cQ I I I I<|ac I I ?_;refine U.bool 7 I (fun ad=>?_) (fun ad=>?_)
 ·replace ad:=gF ad;have aL:qi p i=0:=aD ad;exact U.skip I<|U.skip I<|U.skip I<|U.skip I<|U.skip I<|fe I I I<|U.next<|J.hH I<|J.aw 1 I<|ak I I<|U.next<|J.ret<|al.ret Tryz.results212 I (fun w hw=>⟨by rw[aL];rfl,hw.nothing⟩)
 ·replace ad:=jG ad;obtain⟨j,rfl⟩:=xX (show 0≤i by omega);have CD:=Ff p j;refine ac I I<|mM I I I (by omega) (ov j (by omega))<|ac I I<|cf I I<|jz I I I I<|ef I I I<|U.next ?_;refine J.test I (fun cR=>?_) (fun cR=>?_)
  ·have aL:qi p j=0:=by rw[CD];exact qs (by omega)
   exact J.aw 1 I<|ak I I<|U.next<|J.ret<|al.ret Tryz.results212 I (fun w hw=>⟨by rw[aL];rfl,hw.nothing⟩)
  ·refine J.skip<|al.code<|J.aw 12 I<|ac I I<|ac I I<|mM I I I (by omega) (ov j (by omega))<|fH (j/ 8) (fun w hw=>hw.a7 aj) I I I I (by omega)<|jN (fun w hw=>hw.a7 aj) I I (by rw[dJ];exact jk (by omega)) (by omega)<|ac I I<|h4 I I I (by omega) (pv j)<|gW I I (r:=((j%8:Nat):Int)) (MY (by omega))<|iw I I I (by omega) (td (by omega)) ?_;have C1:=lU (yd (ap p (j/ 8)) (j%8)) (fJ aG (j/ 8));exact gW I I (r:=((ap p (j/ 8)>>>(j%8):Nat):Int)) (by generalize ap p (j/ 8)>>>(j%8)=z at C1⊢;exact bm (by omega))<|dY I I I I (r:=((qi p j:Nat):Int)) (by rw[CD];exact Hk (KR C1 (by decide)))<|ak I I<|U.next<|J.ret<|al.ret Tryz.results212 I (fun w hw=>⟨I,hw.nothing⟩)
theorem R6(A:aN)(n c:Nat)(p:ae)(i:Int)(w:ao)(aj:Has (aP 1 A n (aA .u8 p)) w)(aG:∀x∈p,x<256)(aQ:n≤1073741824)(gL:n≤c)(hi:i≤9223372036854775807):cC Tryz.prog 376 [.slice A n c,.int .i64 i] w (.int .i64 (qi p i:Nat)):=by
 exact b8 Tryz.func376 I Tryz.ntmps376 I<|J.aw 1 I<|ak I I<|U.bl 4 I<|ac I I<|ac I I<|bJ I I I I (fun w hw=>ajm A n c p i w (hw.a7 aj) aG aQ gL hi) aJ<|ak I I<|U.next<|J.ret<|al.ret Tryz.results376 I (fun w hw=>⟨I,hw.nothing⟩)
end Go.Proofs.YtcgjepodnfjggaaGreatDoor
end
section

end
section
namespace Go.Proofs.YtcgjepodnfjggaaGreatDoor
open Go Go.a6 Go.cv jm
set_option maxRecDepth 100000
def qR(m k x:Nat):Bool:=decide (mC m x∈(b0 m k).1)
def PB(m t:Int):Nat:=if m<3∨14<m then 101 else if t<1∨40<t then 102 else if(b0 m.toNat t.toNat).2<N m.toNat then 0 else 105
def abf(m t:Int):ae:=if PB m t=0 then dZ (cK m.toNat (b0 m.toNat t.toNat).1) else[]
theorem apa{M T:Nat}(hm:Ok M)(aa:1≤T)(vL:T≤40)(h:(b0 M T).2<N M):PB M T=0:=by
 have ab:=hm.lo;have an:=hm.hi;unfold PB;rw[az (by omega),az (by omega)];exact aD h
theorem arC{x y:Nat}(af:x<256)(aF:y<256):gX .andNot .u8 x y=((x&&&(2^8- (y+1)):Nat):Int):=by
 show IntKind.u8.wrap ((BitVec.ofInt 8 (x:Int)&&& ~~~ BitVec.ofInt 8 (y:Int)).toNat:Nat)=_;rw[zP,BitVec.toNat_not,wj af,wj aF];have e:2^8- 1- y=2^8- (y+1):=by omega
 rw[e];exact tr (lU BN af)
theorem aff{x k s:Nat}(aq:s<8):(x&&&(2^8- (2^(k%8)+1))).testBit s=(x.testBit s&& !decide (k%8=s)):=by
 rw[Nat.testBit_and,Nat.testBit_two_pow_sub_succ (Wt (by omega) (fV _ (by omega))),ek aq,mU,QU]
theorem TS{m t:Nat}(h:e3 m t):(fw m t).length=aR m t/ 8+1:=by
 have aa:=CR (cK m (b0 m t).1);have ab:=h.g2;have ad:=h.iv;have an:cz (fw m t) (aR m t)=1:=by
  unfold fw;rw[GZ ad.le];exact ad.jq (by omega)
 have aK:¬8*(fw m t).length≤aR m t:=fun bc=>by rw[qs bc] at an;cases an
 unfold fw aR at*;omega
def sd(m t:Nat):ae:=(fw m t).set (aR m t/ 8) (ap (fw m t) (aR m t/ 8)&&&(2^8- (2^(aR m t%8)+1)))
theorem Nd{m t:Nat}(h:e3 m t):∀x∈fw m t,x<256:=KC h.iv
theorem alg(m t:Nat):(sd m t).length=(fw m t).length:=by simp[sd]
theorem apA{m t:Nat}(h:e3 m t):∀x∈sd m t,x<256:=Ca (Nd h) (Nat.lt_of_le_of_lt Nat.and_le_left (fJ (Nd h) _))
theorem aov{m t:Nat}(h:e3 m t):(sd m t).take (aY m t)=wM m t:=by
 have rM:=TS h;have ad:=h.iv;have ab:=h.g2;have xW:aY m t=(aR m t+7)/ 8:=rfl;have uW:(cK m (b0 m t).1).length- 1=aR m t:=rfl;have bc:((sd m t).take (aY m t)).length=aY m t:=by rw[fW,alg];omega
 have key:=C8 (L:=(sd m t).take (aY m t)) (KA ad ab) (fun x af=>apA h x (n9 af)) (fun i s hi aq=>by
  rw[bc] at hi;have e:ap ((sd m t).take (aY m t)) i=ap (sd m t) i:=by
   unfold ap;rw[eM,eM,mj,aD hi]
  have Ju:((ap (fw m t) i).testBit s).toNat=ap (cK m (b0 m t).1) (8*i+s):=by
   rw[←qu _ _ _ aq];exact GZ ad.le _
  rw[e,abp ad ab,uW];unfold sd;rw[uX (by omega)];by_cases tJ:i=aR m t/ 8
  ·rw[aD tJ,aff aq,←tJ];by_cases Xp:aR m t%8=s
   ·rw[ek Xp,az (by omega)];simp
   ·rw[df Xp,Bool.not_false,Fg,Ju];split
    ·rfl
    ·exact dD (by omega)
  ·rw[az tJ,Ju,aD (by omega)])
 rw[bc] at key;exact key
theorem alo{m t D i r:Nat}(q:gH)(h:q.gs.length=i)(v:aV)(br:v=.slice (some ⟨r,0,none⟩) (aY m t) (aY m t)):(qS m t D q).toArray.setIfInBounds (0+7+i*1) v=(qS m t D ⟨q.f,q.fo,q.dO,q.bw,q.c2,q.gs++[r],q.X⟩).toArray:=by
 subst br;subst h;rw[r4,show 0+7+q.gs.length*1=q.gs.length+7 by omega];unfold qS;simp only[DO];rw[arS]
theorem ahp(y:Nat){k:Nat}(ah:k<8):ap (bA [y]) k=(y>>>k)%2:=by
 rw[gV];unfold cz;rw[BC ah,ll ah];rfl
set_option maxHeartbeats 1600000 in
theorem anV(m t D:Nat)(e:Nat→Addr)(w:ao)(di:e3 m t)(aw5:1≤D)(s9:D≤2048)(r5:8*D+aR m t≤N m):fh Tryz.prog 19 [.int .i64 (m:Nat),.int .i64 (t:Nat),.int .i64 (D:Nat)] w (X:=Nat×gH) (fun z=>two (.pointer (some ⟨z.1,0,none⟩)) .nilIface) (fun z=>z.2.p0 m t) (fun z=>[j8 z.1 m t D z.2]):=by
 have hm:=di.ok;have Al:=kZ m;have kG:=hm.hi;have ic:=hm.lo;have EP:=wG hm;have adT:=di.k9;have I0:=di.d1;have xv:=di.mW;have yU:=di.ix;have LI:=di.o0;have rM:=TS di;have avU:=aqr di;have kv:=MF (aR m t);have asi:=Nd di;have aW:(b0 m t).2<N m:=by omega
 have xW:aY m t=(aR m t+7)/ 8:=rfl;refine b8 Tryz.func19 I Tryz.ntmps19 I<|J.aw 2 I<|ak I I<|ak I I<|U.bl 8 I<|ac I I<|ac I I<|bJ I I I I (fun w hw=>by have:=arT m t e w hm di.t1 di.t40 aW;rw[adT] at this;exact this) aJ<|ac I I<|cB I I I<|cB I I I<|ak I I<|ak I I<|U.next<|J.seq<|J.block<|J.aw 3 I<|ac I I<|jl I I<|ak I I<|U.next<|J.dy I<|J.aw 7 I<|ac I I<|cQ I I I (df (by omega))<|ac I I<|ac I I<|fD I I I (df (by omega))<|ef I I I<|ak I I<|U.next<|J.dy I<|J.aw 9 I<|ac I I<|jE I I I (r:=((8*D:Nat):Int)) (by rw[show(8:Int)*((D:Nat):Int)=((8*D:Nat):Int) by omega];exact bm (by omega))<|ac I I<|b1 I I I (r:=((8*D+aR m t:Nat):Int)) (bm (by omega))<|ac I I<|ir I I I (by omega) (tO hm)<|eB I I I (r:=((N m:Nat):Int)) (by rw[show((N m+1:Nat):Int)- 1=((N m:Nat):Int) by omega];exact bm (by omega))<|fD I I I (df (by omega))<|ak I I<|U.next<|J.dy I<|J.skip<|al.aE<|al.code<|J.aw 9 I<|ac I I<|ac I I<|ac I I<|ac I I<|b1 I I I (r:=((aR m t+7:Nat):Int)) (bm (by omega))<|mM I I I (by omega) (ov (aR m t+7) (by omega))<|gl I I (cells:=(.pointer none::.int .i64 (t:Nat)::.int .i64 (D:Nat)::.int .i64 (aR m t:Nat)::.int .i64 (aY m t:Nat)::.slice none 0 0::.slice none 0 0::List.replicate 256 (.slice none 0 0)).toArray) (by kernel_rfl)<|fx I I aJ<|fun c=>ak I I<|U.next<|J.seq<|J.aw 10 I<|ac I I<|ac I I<|dh I I I I (fun w hw=>agA m w hm) aJ<|fun f _=>ac I I<|cB I I I<|cB I I I<|bI I I<|bd I I<|eh 1 I I I I I (by simp[Value.cells]) aJ<|ak I I<|U.next<|J.seq<|J.pre (ec:=bF w [fL f m,aE c sf (.pointer (some ⟨f,0,none⟩)::.int .i64 (t:Nat)::.int .i64 (D:Nat)::.int .i64 (aR m t:Nat)::.int .i64 (aY m t:Nat)::.slice none 0 0::.slice none 0 0::List.replicate 256 (.slice none 0 0)).toArray]) (fun _ hw=>by rw[show(0:Nat)+0=0 from I,show(Value.agg (.pointer none::.int .i64 (t:Nat)::.int .i64 (D:Nat)::.int .i64 (aR m t:Nat)::.int .i64 (aY m t:Nat)::.slice none 0 0::.slice none 0 0::List.replicate 256 (.slice none 0 0)).toArray).cells=(.pointer none::.int .i64 (t:Nat)::.int .i64 (D:Nat)::.int .i64 (aR m t:Nat)::.int .i64 (aY m t:Nat)::.slice none 0 0::.slice none 0 0::List.replicate 256 (.slice none 0 0)).toArray from I,r4] at hw;exact hw)<|J.rg 2 I<|ac I I<|jl I I<|U.next<|J.dy I<|J.skip<|al.code<|J.seq<|J.aw 14 I<|ac I I<|ac I I<|bI I I<|bd I I<|cm 1 I I I (v:=.pointer (some ⟨f,0,none⟩)) I<|ac I I<|dh I I I I (fun w hw=>arh f m t e w hm (hw.has (i:=0) I) di.t1 di.t40 aW) aJ<|fun g bg=>ac I I<|cB I I I<|cB I I I<|bI I I<|bd I I<|eh 2 I I I I I (by simp) aJ<|ak I I<|U.next<|J.seq<|J.pre (ec:=bF w [own 5 1 g.1 (fw m t).length g.2 (aA .u8 (fw m t)),fL f m,aE c sf (.pointer (some ⟨f,0,none⟩)::.int .i64 (t:Nat)::.int .i64 (D:Nat)::.int .i64 (aR m t:Nat)::.int .i64 (aY m t:Nat)::.slice g.1 (fw m t).length g.2::.slice none 0 0::List.replicate 256 (.slice none 0 0)).toArray]) (fun _ hw=>by rw[r4] at hw;exact hw)<|J.rg 2 I<|ac I I<|jl I I<|U.next<|J.dy I<|J.skip<|al.code<|J.seq<|J.dQ (bW [0,1,2,3,4,5,7,8,9,10] (cj [6,11] (bW [12,13] (cj [14] .done)))) (fun aZ=>aZ.cell? ⟨c,4,none⟩=some (.int .i64 (aY m t:Nat))∧aZ.cell? ⟨c,5,none⟩=some (.slice g.1 (fw m t).length g.2)) mixed (by kernel_rfl) (fun _ h=>h.drew) (fun _ hw=>⟨hw.cP (i:=2) I I,hw.cP (i:=2) I I⟩)<|ac I I<|ac I I<|bI I I<|bd I I<|dc I I (fun _ hw=>hw.1)<|b1 I I I (r:=((aY m t+1:Nat):Int)) (bm (by omega))<|ac I I<|bI I I<|bd I I<|dc I I (fun _ hw=>hw.2)<|am9 (aY m t+1) I I I I I (by unfold maxLen;omega) (fun _ hw=>⟨hw.cP (i:=2) rfl rfl,hw.cP (i:=2) rfl rfl⟩)<|fun hZ=>ali 0 rfl rfl rfl rfl (ys:=aA .u8 (fw m t)) (fun w hw=>(hw.has (i:=1) rfl).dw) (mz _ _) rfl (by omega) (by unfold maxLen;omega) (by omega) (fun _ _ _ hw=>⟨hw.cP (i:=3) rfl rfl,hw.cP (i:=3) rfl rfl⟩)<|fun bw c2 cR=>bI rfl rfl<|bd rfl rfl<|eh 3 rfl rfl rfl rfl rfl (by simp) (fun _ hw=>⟨hw.cP (i:=3) rfl rfl,hw.cP (i:=3) rfl rfl⟩)<|U.next<|J.seq<|J.pre (ec:=bF w [own 5 1 bw (fw m t).length c2 (aA .u8 (fw m t)),own 5 1 g.1 (fw m t).length g.2 (aA .u8 (fw m t)),fL f m,aE c sf (.pointer (some ⟨f,0,none⟩)::.int .i64 (t:Nat)::.int .i64 (D:Nat)::.int .i64 (aR m t:Nat)::.int .i64 (aY m t:Nat)::.slice g.1 (fw m t).length g.2::.slice bw (fw m t).length c2::List.replicate 256 (.slice none 0 0)).toArray]) (fun _ hw=>by rw[r4] at hw;simp only[iO,uI] at hw;exact hw)<|J.dQ (bW [0,1,2,3,4,5,6,8,9,10] (cj [7] (bW [11,12] (cj [13] .done)))) (fun aZ=>aZ.cell? ⟨c,6,none⟩=some (.slice bw (fw m t).length c2)) mixed (by kernel_rfl) (fun _ h=>h.drew) (fun _ hw=>hw.cP (i:=3) I I)<|ac I I<|bI I I<|bd I I<|dc I I (fun _ hw=>hw)<|ac I I<|mM I I I (by omega) (ov (aR m t) (by omega))<|gT 0 (aR m t/ 8) I I I I I (by omega)<|ac I I<|h4 I I I (by omega) (pv (aR m t))<|ir I I I (by omega) (r:=((2^(aR m t%8):Nat):Int)) (by rw[show(1:Int)=((1:Nat):Int) from I,pG (by omega),q3,ll kv.2])<|km 0 I I I (jk (by omega))<|dY I I I I (arC (fJ asi _) kv.2)<|gT 0 (aR m t/ 8) I I I I I (by omega)<|pw 0 I I I I I (by omega) (fun _ hw=>hw.cP (i:=3) I I)<|U.next<|J.seq<|J.pre (ec:=bF w [own 5 1 bw (fw m t).length c2 (aA .u8 (sd m t)),own 5 1 g.1 (fw m t).length g.2 (aA .u8 (fw m t)),fL f m,aE c sf (.pointer (some ⟨f,0,none⟩)::.int .i64 (t:Nat)::.int .i64 (D:Nat)::.int .i64 (aR m t:Nat)::.int .i64 (aY m t:Nat)::.slice g.1 (fw m t).length g.2::.slice bw (fw m t).length c2::List.replicate 256 (.slice none 0 0)).toArray]) (fun _ hw=>by rw[xC] at hw;exact hw)<|J.dQ (bW [0,1,2,3,5,6,7,8] (cj [4] (bW [9,10,11] (cj [12] .done)))) (fun aZ=>aZ.cell? ⟨c,4,none⟩=some (.int .i64 (aY m t:Nat))) mixed (by kernel_rfl) (fun _ h=>h.drew) (fun _ hw=>hw.cP (i:=3) I I)<|ac I I<|ac I I<|bI I I<|bd I I<|ac I I<|bI I I<|bd I I<|dc I I (fun _ hw=>hw)<|cm 3 I I I (v:=.slice bw (fw m t).length c2) I<|oJ (aY m t) I I I I (by omega)<|bI I I<|bd I I<|eh 3 I I I I I (by simp) (fun _ hw=>hw.cP (i:=3) I I)<|U.next<|J.seq<|J.seq ?_;refine J.pre (ec:=bF w [Ah m t ⟨f,g.1,g.2,bw,c2,[],[]⟩,own 5 1 g.1 (fw m t).length g.2 (aA .u8 (fw m t)),fL f m,aE c sf (.pointer (some ⟨f,0,none⟩)::.int .i64 (t:Nat)::.int .i64 (D:Nat)::.int .i64 (aR m t:Nat)::.int .i64 (aY m t:Nat)::.slice g.1 (fw m t).length g.2::.slice bw (aY m t) c2::List.replicate 256 (.slice none 0 0)).toArray]) (fun _ hw=>by
  have aa:=au.acZ (q:=0) (fN:=aY m t) rfl (by omega) hw;rw[dJ] at aa;have e:(aA .u8 (sd m t)).take (aY m t)=aA .u8 (wM m t):=by
   rw[←aov di];simp[aA,AZ]
  rw[e] at aa;exact aa) ?_
 refine J.rg 1 I<|ac I I<|U.next<|J.block ?_;refine J.loop (G:=Nat×ae×List bi) (fun p=>[(10,.pointer (some ⟨c,0,none⟩)),(115,.int .i64 (p.1:Nat))]) (fun p=>bF w [aE c sf (qS m t D ⟨f,g.1,g.2,bw,c2,p.2.1,p.2.2⟩).toArray,Ah m t ⟨f,g.1,g.2,bw,c2,p.2.1,p.2.2⟩,CS m t ⟨f,g.1,g.2,bw,c2,p.2.1,p.2.2⟩,fL f m,c1 p.2.2]) (fun p=>p.1≤256∧p.2.1.length=p.1∧∀y g2,p.2.1[y]?=some g2→H6 m t g2 y∈p.2.2) (fun p=>256- p.1) (0,[],[]) ⟨I,I,trivial⟩ (fun _ hw=>by
  have aa:=hw.NK;unfold qS;rw[ahJ];exact aa.pick [3,0,0,0,0] I) ⟨by omega,I,fun y g2 aF=>by simp at aF⟩ ?_
 rintro⟨i,gs,X⟩ ⟨hi,nZ,qn⟩;simp only at hi nZ qn;dsimp only;refine J.aw 1 I<|cQ I I I I<|U.next<|J.seq ?_;refine J.test I (fun ag=>?_) (fun ag=>?_)
 ·refine J.skip<|al.code<|J.seq<|J.block<|J.aw 2 I<|ac I I<|ak I I<|U.bl 6 I<|ac I I<|bI I I<|bd I I<|cm 0 I I I (v:=.int .i64 (aY m t:Nat)) I<|lP (aY m t) I I I I I (by omega) aJ<|fun r=>ak I I<|U.next<|J.seq<|J.aw 1 I<|ak I I<|U.next<|J.block<|J.loop (G:=Nat) (fun k=>[(10,.pointer (some ⟨c,0,none⟩)),(11,.int .i64 (i:Nat)),(12,.slice (some ⟨r,0,none⟩) (aY m t) (aY m t)),(13,.int .i64 (((k:Nat):Int)- 1)),(115,.int .i64 (i:Nat))]) (fun k=>bF w [aE r 5 (kj m t (oL k (bA [i]))),aE c sf (qS m t D ⟨f,g.1,g.2,bw,c2,gs,X⟩).toArray,Ah m t ⟨f,g.1,g.2,bw,c2,gs,X⟩,CS m t ⟨f,g.1,g.2,bw,c2,gs,X⟩,fL f m,c1 X]) (fun k=>k≤8) (fun k=>k) 8 ⟨I,I,I,I,I,trivial⟩ (fun _ hw=>by rw[alA (en _) (show(bA [i]).length≤8 from xl [i]),←di.zero];exact hw) (cq _) ?_;intro k ah;refine J.seq<|J.aw 2 I<|ac I I<|jz I I I I<|U.next ?_;refine J.test I (fun ag=>?_) (fun ag=>?_)
  ·obtain⟨j,rfl⟩:∃j,k=j+1:=⟨k- 1,by omega⟩;exact J.skip<|al.code<|J.seq<|J.block<|J.rg 7 I<|ac I I<|ac I I<|ac I I<|ac I I<|iw I I I (by omega) (r:=((i>>>j:Nat):Int)) (by rw[show((j+1:Nat):Int)- 1=((j:Nat):Int) by omega];exact Kb (by omega))<|dY I I I I (r:=(((i>>>j)%2:Nat):Int)) (by have:=zq (show i<256 by omega) j;rw[show(1:Int)=((1:Nat):Int) from rfl,TJ (by omega) (by omega),Dk])<|sU 0 rfl rfl rfl rfl rfl (fun aZ bG=>SZ c r m t (qS m t D ⟨f,g.1,g.2,bw,c2,gs,X⟩).toArray bw c2 (aY m t) (oL (j+1) (bA [i])) ((i>>>j)%2) aZ di ⟨bG.UG (i:=0) (j:=0) rfl rfl,rfl,rfl,(bG.UG (i:=0) (j:=1) rfl rfl).dw⟩ (u1 (en _) _) (fV _ (by omega)) (bG.qx (i:=0) rfl)) aJ<|U.end_<|al.aE<|al.code<|J.rg 3 rfl<|ac rfl rfl<|eB rfl rfl rfl (r:=((j:Nat):Int)- 1) (by rw[show((j+1:Nat):Int)- 1- 1=((j:Nat):Int)- 1 by omega];exact bm (by omega))<|ak I I<|U.end_<|al.back j ⟨I,I,I,I,I,trivial⟩ (fun _ hw=>by rw[Rp (en _),ahp i (by omega)];exact hw) (by omega) (by omega)
  ·obtain rfl:k=0:=by omega
   refine J.exit I<|al.code<|J.rg 7 I<|ac I I<|ac I I<|ac I I<|bI I I<|bd I I<|n0 i I I I I (by omega)<|eh 1 I I I I I (by simp[qS,tf];omega) aJ<|U.end_<|al.aE<|al.code<|J.rg 2 rfl<|b1 rfl rfl rfl (r:=((i+1:Nat):Int)) (bm (by omega))<|ac rfl rfl<|U.end_ ?_;exact al.back (i+1,gs++[r],H6 m t r i::X) ⟨I,I,trivial⟩ (fun _ hw=>by
    have e:=alo (m:=m) (t:=t) (D:=D) (r:=r) (⟨f,g.1,g.2,bw,c2,gs,X⟩:gH) nZ _ rfl;have aB:=hw.pick [0,4,0,0,0,0] rfl;simp only[e,No (en _)] at aB;have aa:=aB.N8;exact aa.pick [1,1,1,1,0] I) ⟨by simp only;omega,by simp only[ee,ol];omega,fun y g2 aF=>by
    by_cases rW:y<gs.length
    ·rw[nE rW] at aF;exact eQ _ (qn y g2 aF)
    ·have uC:=(j6.1 aF).1;simp only[ee,ol] at uC;obtain rfl:y=i:=by omega
     rw[mg (by omega),nZ,rL] at aF;obtain rfl:r=g2:=by simpa using aF
     exact fX ..⟩ (by simp only;omega)
 ·have ku:i=256:=by omega
  exact J.exit I<|al.code<|J.aw 3 I<|ac I I<|ak I I<|ak I I<|U.next<|J.ret<|al.ret Tryz.results19 I (fun w hw=>⟨(c,⟨f,g.1,g.2,bw,c2,gs,X⟩),I,⟨bg,(show aY m t≤c2 by omega),(show gs.length=256 by omega),qn⟩,(au.star (L:=[]) _).1 (by rw[nK];exact hw.pick [0,1,0,0,0] I)⟩)
structure DE(m t D:Nat):Prop where
 mt:e3 m t
 d1:1≤D
 n1:D≤2048
 fit:8*D+aR m t≤N m
def sR(m t D:Nat)(g:aN×Nat):cJ:= #[.int .i64 (m:Nat),.int .i64 (t:Nat),.int .i64 (D:Nat),.slice g.1 (fw m t).length g.2,.int .i64 (aR m t:Nat)]
def akP(m t:Nat)(g:aN×Nat):bi:=own 5 1 g.1 (fw m t).length g.2 (aA .u8 (fw m t))
theorem DE.k9{m t D:Nat}(h:DE m t D):(b0 m t).2<N m:=by
 have:=h.mt.k9;have:=h.fit;have:=h.d1;omega
theorem DE.NQ{m t D:Nat}(h:DE m t D):abf (m:Nat) (t:Nat)=fw m t:=by
 unfold abf;rw[apa h.mt.ok h.mt.t1 h.mt.t40 h.k9];rfl
def dX(b:ae)(n:Nat):ae:=b.take (min b.length n)++List.replicate (n- min b.length n) 0
theorem IT(b:ae)(n:Nat):(dX b n).length=n:=by simp[dX];omega
theorem XR{b:ae}(ad:∀x∈b,x<256)(n:Nat):∀x∈dX b n,x<256:=fun x af=>by
 rcases hI.1 af with h|h
 ·exact ad x (n9 h)
 ·rw[(BR.1 h).2];decide
theorem YT(b:ae)(n:Nat):((List.replicate n (Value.int .u8 0)).toArray.toList.take 0++(aA .u8 b).take (min b.length n)++(List.replicate n (Value.int .u8 0)).toArray.toList.drop (0+min b.length n)).toArray=(aA .u8 (dX b n)).toArray:=by
 rw[Ny,uI,iO,show(List.replicate n (Value.int .u8 0)).toArray.toList=List.replicate n (Value.int .u8 0) from rfl,WV];simp[dX,aA,AZ]
structure AB where
 c:Nat
 q:gH
 m:Nat
 t:Nat
 D:Nat
 g:aN×Nat
structure AB.p0(M T B:Nat)(z:AB):Prop where
 ok:DE z.m z.t z.D
 q:z.q.p0 z.m z.t
 g:(fw z.m z.t).length≤z.g.2
 axK:z.m≤M
 au9:z.t≤T
 aww:z.D≤B
 awG:6≤z.m
def AB.val(z:AB):aV:=xL (.pointer (some ⟨z.c,0,none⟩)) (.agg (sR z.m z.t z.D z.g)) (.bool true)
noncomputable def AB.mem(z:AB):List bi:=[j8 z.c z.m z.t z.D z.q,akP z.m z.t z.g]
def yT(d e:ae)(i j:Nat):Nat:=if j<i then ap d j^^^ap e j else 0
theorem anj(m t D:Nat)(g:aN×Nat)(w:ao)(di:e3 m t)(s9:D≤2048):cC Tryz.prog 224 [.agg (sR m t D g)] w (.int .i64 ((8*D+aR m t:Nat):Int)):=by
 have xv:=di.mW;exact b8 Tryz.func224 I Tryz.ntmps224 I<|J.aw 2 I<|fx I I aJ<|fun b=>ak I I<|U.bl 7 I<|bd I I<|cm 0 I I I I<|jE I I I (r:=((8*D:Nat):Int)) (by rw[show(8:Int)*((D:Nat):Int)=((8*D:Nat):Int) by omega];exact bm (by omega))<|bd I I<|cm 0 I I I I<|b1 I I I (r:=((8*D+aR m t:Nat):Int)) (bm (by omega))<|ak I I<|U.next<|J.ret<|al.ret Tryz.results224 I (fun w hw=>⟨I,hw.nothing⟩)
section
variable{m t D:Nat}(h:e3 m t)
include h
omit h
end
end Go.Proofs.YtcgjepodnfjggaaGreatDoor
end
section
namespace Go.Proofs.YtcgjepodnfjggaaGreatDoor
open Go Go.a6 Go.cv jm
def gh(m:Nat)(L:ae)(i:Nat):Nat:=iV L (fun p=>bY m ((p*i:Nat):Int))
def hc(m t:Nat)(L:ae):ae:=fy (2*t) (fun i=>gh m L (i+1))
theorem qd(m t:Nat)(L:ae):(hc m t L).length=2*t:=nc _ _
theorem Ix{m:Nat}(hm:Ok m)(L:ae)(i:Nat):gh m L i<2^m:=SQ (fun _ _=>hd hm _)
theorem Ho(m:Nat)(L:ae)(p i:Nat):gh m (L++[p]) i=gh m L i^^^bY m ((p*i:Nat):Int):=IJ _ _ _
theorem asI{m:Nat}(hm:Ok m)(i:Nat)(L:ae):ba m (gh m L i) (gh m L i)=gh m L (2*i):=
 A4 (P:=fun L=>ba m (gh m L i) (gh m L i)=gh m L (2*i)) (jn m 0) (fun L p ih=>by
  rw[Ho,Ho,Wu hm (Ix hm _ _) (hd hm _),ih,uK hm];rw[Nat.two_mul,Nat.mul_add,IY]) L
def gj(f:Nat→Bool):Nat→ae
 |0=>[]
 |k+1=>gj f k++(if f k then[k] else[])
theorem Bt(f:Nat→Bool){k:Nat}:∀{n:Nat},k∈gj f n↔k<n∧f k=true
 |0=>by simp[gj]
 |n+1=>by
  unfold gj;rw[hI,Bt f];by_cases h:f n=true
  ·rw[aD h,hK];constructor
   ·rintro(⟨aa,ab⟩|rfl)
    ·exact⟨by omega,ab⟩
    ·exact⟨by omega,h⟩
   ·rintro⟨aa,ab⟩;by_cases an:k=n
    ·exact .inr an
    ·exact .inl ⟨by omega,ab⟩
  ·rw[az h];constructor
   ·rintro(⟨aa,ab⟩|an)
    ·exact⟨by omega,ab⟩
    ·cases an
   ·rintro⟨aa,ab⟩;refine .inl ⟨?_,ab⟩;by_cases an:k=n
    ·subst an;exact absurd ab h
    ·omega
theorem ES(f:Nat→Bool):∀n,(gj f n).Nodup
 |0=>List.nodup_nil
 |n+1=>by
  unfold gj;split
  ·rw[Q8];refine⟨ES f n,N9 _ _,fun x af y aF=>?_⟩;rw[hK.1 aF];have:=((Bt f).1 af).1;omega
  ·rw[nK];exact ES f n
theorem Pm{f g:Nat→Bool}:∀{n:Nat},(∀k,k<n→f k=g k)→gj f n=gj g n
 |0,_=>rfl
 |n+1,h=>by
  unfold gj;rw[Pm (n:=n) (fun k ah=>h k (by omega)),h n (by omega)]
theorem aaQ{f:Nat→Bool}:∀{n:Nat},(∀k,k<n→f k=false)→gj f n=[]
 |0,_=>rfl
 |n+1,h=>by
  unfold gj;rw[aaQ (n:=n) (fun k ah=>h k (by omega)),h n (by omega)];rfl
theorem XJ(f g:Nat→Bool):∀n,(gj (fun k=>f k !=g k) n).length≤(gj f n).length+(gj g n).length
 |0=>cq _
 |n+1=>by
  have:=XJ f g n;unfold gj;simp only[ee];cases f n<;>cases g n<;>simp<;>omega
theorem AJ(m:Nat)(f:Nat→Bool)(i:Nat):∀n,gh m (gj f n) i=xs (fun k=>if f k then bY m ((k*i:Nat):Int) else 0) n
 |0=>rfl
 |n+1=>by
  show gh m (gj f n++(if f n then[n] else[])) i=xs _ n^^^(if f n then bY m ((n*i:Nat):Int) else 0);rw[←AJ m f i n];split
  ·exact Ho m _ _ _
  ·rw[nK,eS]
theorem apK(m:Nat)(f g:Nat→Bool)(i n:Nat):gh m (gj (fun k=>f k !=g k) n) i=gh m (gj f n) i^^^gh m (gj g n) i:=by
 rw[AJ,AJ,AJ,←AK];refine hz (fun k _=>?_);cases f k<;>cases g k<;>simp
theorem atD{m:Nat}(hm:Ok m){f:Nat→Bool}{n T:Nat}(aQ:n≤N m)(cE:(gj f n).length≤T)(aL:∀i,i<T→gh m (gj f n) (i+1)=0):gj f n=[]:=
 T3 hm (ES f n) (fun s aq=>by have:=((Bt f).1 aq).1;omega) (fun x aa ab=>by
  have:=aL (x- 1) (by omega);rw[Nat.sub_add_cancel aa] at this;exact this)
def fT(m t:Nat)(d p:ae)(k:Nat):Nat:=if k<aR m t then cz p k else cz d (k- aR m t)
theorem FL(m t:Nat)(d p:ae)(k:Nat):fT m t d p k<2:=by unfold fT;split<;>exact vR _ _
def wf(m t:Nat)(d p:ae)(k:Nat):Bool:=decide (0<fT m t d p k)
def gi(m t:Nat)(d p:ae)(n:Nat):ae:=gj (wf m t d p) n
theorem amW(m t:Nat)(d p:ae)(n:Nat):gi m t d p (n+1)=gi m t d p n++(if 0<fT m t d p n then[n] else[]):=by
 show gj _ n++_=gj _ n++_;congr 1;unfold wf;by_cases h:0<fT m t d p n
 ·rw[aD (ek h),aD h]
 ·rw[az (by simp[h]),az h]
theorem Y6{m:Nat}(hm:Ok m){W:ae}(gZ:cc W){n:Nat}(bc:W.length≤n)(i:Nat):cM m W (bY m (i:Nat))=xs (fun k=>if 0<ap W k then bY m ((k*i:Nat):Int) else 0) n:=by
 have bu:xs (fun k=>ba m (ap W k) (fO m (bY m (i:Nat)) k)) W.length=xs (fun k=>ba m (ap W k) (fO m (bY m (i:Nat)) k)) n:=ack (fun k ah=>by rw[dD ah,et]) (fun k ah=>by rw[dD (by omega),et]);rw[Ac hm (hd hm _) (uU hm gZ).lt,bu];refine hz (fun k _=>?_);have:=gZ.le k;rcases(show ap W k=0∨ap W k=1 by omega) with aB|aB
 ·rw[aB,et,az (by omega)]
 ·rw[aB,aD (by omega),kH hm (kC hm) (rS hm _ _),ur hm (rS hm _ _),DJ hm];congr 1
  push_cast
  exact Int.mul_comm _ _
section
variable{m t:Nat}(h:e3 m t)
include h
theorem aaz{d:ae}{D:Nat}(aW:d.length=D){i:Nat}(aa:1≤i)(hi:i≤2*t)(jO:i<N m):gh m (gi m t d (fm m t d) (8*D+aR m t)) i=0:=by
 have bs:=en d;have c4:=h.q6 bs;have gZ:=iM (gR bs (aR m t)) c4;have aL:=YG h.ok h.g2 bs aa hi jO;have q1:∀j,j<8*D+aR m t→ap (cO (eC (aR m t) (bA d)) (ch (cK m (b0 m t).1) (bA d))) j=fT m t d (fm m t d) j:=fun j ax=>by
  have xW:aR m t≤8*aY m t:=by unfold aY;omega
  rw[ey,jM];unfold fT;by_cases WR:j<aR m t
  ·rw[az (by omega),aD WR,hQ,P7 h d (by omega)]
  ·rw[aD (by omega),az WR,Jy h bs (by omega),eS,gV]
 have RQ:(cO (eC (aR m t) (bA d)) (ch (cK m (b0 m t).1) (bA d))).length≤8*D+aR m t:=by
  refine yY gZ (fun j ax=>?_);have k7:=xl d;rw[ey,jM,aD (by omega),Jy h bs (by omega),eS];exact dD (by omega)
 unfold gi;rw[AJ];have he:=Y6 h.ok gZ RQ i;rw[show cM m (cO (eC (aR m t) (bA d)) (ch (cK m (b0 m t).1) (bA d))) (bY m (i:Nat))=0 from aL] at he;refine Eq.trans (hz (fun k ah=>?_)) he.symm;rw[q1 k ah];unfold wf;by_cases aB:0<fT m t d (fm m t d) k
 ·rw[aD (ek aB),aD aB]
 ·rw[az (by simp[aB]),az aB]
omit h
theorem anU{d p:ae}{D:Nat}(aW:d.length=D)(aG:p.length=aY m t){k:Nat}(ah:k<8*D+aR m t)(j:Nat):fT m t (jZ m t k d) (jP m t k p) j=fT m t d p j^^^(if j=k then 1 else 0):=by
 have xW:aR m t≤8*aY m t:=by unfold aY;omega
 unfold fT jZ jP;by_cases aa:k<aR m t
 ·rw[aD aa,aD aa];by_cases ab:j<aR m t
  ·rw[aD ab,aD ab,Ht (by omega)]
  ·rw[az ab,az ab,az (by omega),eS]
 ·rw[az aa,az aa];by_cases ab:j<aR m t
  ·rw[aD ab,aD ab,az (by omega),eS]
  ·rw[az ab,az ab,Ht (by omega)];by_cases an:j=k
   ·rw[aD an,aD (by omega)]
   ·rw[az an,az (by omega)]
end
end Go.Proofs.YtcgjepodnfjggaaGreatDoor
end
section
namespace Go.Proofs.YtcgjepodnfjggaaGreatDoor
open Go Go.a6 Go.cv jm
set_option maxRecDepth 100000
theorem als{n i:Nat}{f:Nat→Nat}(h:i<n):(aA .i64 (fy n f)).toArray[i]?=some (.int .i64 (f i:Nat)):=by
 rw[yN,aA,jj,yi h];rfl
def mD(n:Nat)(f:Nat→Nat):cJ:=(aA .i64 (fy n f)).toArray
theorem Jk{n i:Nat}{f:Nat→Nat}(h:i<n):(mD n f)[i]?=some (.int .i64 (f i:Nat)):=als h
theorem GQ(n:Nat)(f:Nat→Nat)(i v:Nat):(mD n f).setIfInBounds i (.int .i64 (v:Nat))=mD n (fun j=>if j=i then v else f j):=by
 unfold mD;rw[r4,xC,aai]
theorem NI(n:Nat)(f:Nat→Nat):(mD n f).size=n:=by simp[mD,aA,nc]
theorem aci(n:Nat):(List.replicate n (Value.int .i64 0)).toArray=mD n (fun _=>0):=by
 unfold mD fy aA;rw[o9];show _=((List.range n).map (fun _=>Value.int .i64 0)).toArray;rw[PK,GN]
def vg(m:Nat)(L:ae)(p i j:Nat):Nat:=if j<i then gh m (L++[p]) (j+1) else gh m L (j+1)
theorem agH(m:Nat)(L:ae)(p:Nat):vg m L p 0=fun j=>gh m L (j+1):=by funext j;unfold vg;rw[if_neg (by omega)]
theorem anW(m:Nat)(L:ae)(p i:Nat):(fun j=>if j=i then gh m L (i+1)^^^bY m ((p*(i+1):Nat):Int) else vg m L p i j)=vg m L p (i+1):=by
 funext j;unfold vg;by_cases h:j=i
 ·subst h;rw[aD rfl,aD (by omega),Ho]
 ·rw[az h];by_cases ab:j<i
  ·rw[aD ab,aD (by omega)]
  ·rw[az ab,az (by omega)]
theorem an2(m t:Nat)(L:ae)(p:Nat):mD (2*t) (vg m L p (2*t))=mD (2*t) (fun j=>gh m (L++[p]) (j+1)):=by
 unfold mD;rw[Hh (fun i hi=>by unfold vg;rw[aD hi])]
theorem aqb(m:Nat):(fun j=>gh m [] (j+1))=fun _=>0:=rfl
theorem atK{m:Nat}(hm:Ok m)(p j:Nat):ba m (bY m ((p*j:Nat):Int)) (bY m (p:Nat))=bY m ((p*(j+1):Nat):Int):=by
 rw[uK hm,FM,IY]
theorem aiR(bT m t D:Nat)(q:gH)(A:aN)(c:Nat)(l:ae)(w:ao)(di:e3 m t)(gB:Has (j8 bT m t D q) w)(aj:Has (aP 1 A l.length (aA .i64 l)) w)(sS:l.length≤1073741824):fh Tryz.prog 202 [.pointer (some ⟨bT,0,none⟩),.slice A l.length c] w (X:=aN×Nat) (fun z=>.slice z.1 (hc m t l).length z.2) (fun z=>(hc m t l).length≤z.2) (fun z=>[own 3 1 z.1 (hc m t l).length z.2 (aA .i64 (hc m t l))]):=by
 obtain⟨hO,tM,uY,pd,dq⟩:=sY gB;have hm:=di.ok;have vL:=di.t40;refine b8 Tryz.func202 I Tryz.ntmps202 I<|J.aw 1 I<|ak I I<|U.bl 5 I<|ac I I<|bJ I I I I (fun w hw=>V3 bT m t D q w (hw.a7 gB)) aJ<|jE I I I (r:=((2*t:Nat):Int)) (by rw[show(2:Int)*((t:Nat):Int)=((2*t:Nat):Int) by omega];exact bm (by omega))<|lP (2*t) I I I I I (by omega) aJ<|fun b=>ak I I<|U.bl 3 I<|ac I I<|bJ I I I I (fun w hw=>DB bT m t D q w (hw.a7 gB)) aJ<|ak I I<|U.bl 3 I<|ac I I<|oo I I I<|ak I I<|U.next<|J.seq<|J.aw 3 I<|ac I I<|cf I I<|ac I I<|U.next<|J.block<|J.loop (G:=Nat) (fun i=>[(5,.slice (some ⟨b,0,none⟩) (2*t) (2*t)),(6,.pointer (some ⟨q.f,0,none⟩)),(7,.func (.func 291) #[.pointer (some ⟨q.f,0,none⟩)] #[]),(21,.slice A l.length c),(22,.int .i64 (l.length:Nat)),(23,.int .i64 (i:Nat))]) (fun i=>bF w [aE b 3 (mD (2*t) (fun j=>gh m (l.take i) (j+1)))]) (fun i=>i≤l.length) (fun i=>l.length- i) 0 ⟨I,I,I,I,I,I,trivial⟩ (fun _ hw=>by rw[Ny,aqb,←aci];exact hw) (dg _) ?_;intro i hi;refine J.aw 1 I<|cQ I I I I<|U.next<|J.seq ?_;refine J.test I (fun ag=>?_) (fun ag=>?_)
 ·obtain⟨p,aG⟩:∃p,l[i]?=some p:=⟨_,eF (by omega)⟩;have C9:l.take (i+1)=l.take i++[p]:=by rw[pN,aG];rfl
  refine J.skip<|al.code<|J.seq<|J.block<|J.aw 3 I<|fH i (fun w hw=>hw.a7 aj) I I I I (by omega) ?_;refine jN (v:=.int .i64 (p:Nat)) (fun w hw=>hw.a7 aj) I I (by rw[dJ,aA,jj,aG];rfl) (by omega) ?_;refine ak I I<|U.bl 4 I<|ac I I<|ac I I<|bJ I I I I (v:=.int .i64 (bY m (p:Nat):Nat)) (fun w hw=>E2 q.f m (p:Nat) w hm (hw.a7 pd)) aJ<|ak I I<|U.bl 1 I<|ak I I<|U.bl 3 I<|ac I I<|cf I I<|ac I I<|U.next<|J.block<|J.loop (G:=Nat) (fun j=>[(5,.slice (some ⟨b,0,none⟩) (2*t) (2*t)),(6,.pointer (some ⟨q.f,0,none⟩)),(7,.func (.func 291) #[.pointer (some ⟨q.f,0,none⟩)] #[]),(10,.int .i64 (bY m (p:Nat):Nat)),(11,.int .i64 (bY m ((p*j:Nat):Int):Nat)),(21,.slice A l.length c),(22,.int .i64 (l.length:Nat)),(23,.int .i64 (i:Nat)),(31,.int .i64 (2*t:Nat)),(32,.int .i64 (j:Nat))]) (fun j=>bF w [aE b 3 (mD (2*t) (vg m (l.take i) p j))]) (fun j=>j≤2*t) (fun j=>2*t- j) 0 ⟨I,I,I,I,by rw[JD,show((0:Nat):Int)=0 from I,Gt hm];rfl,rfl,rfl,rfl,rfl,rfl,trivial⟩ (fun _ hw=>by rw[agH];exact hw) (dg _) ?_;intro j ax;have q8:=hd hm ((p*(j+1):Nat):Int);have l1:=hd hm ((p*j:Nat):Int);have vT:=hd hm (p:Nat);have Ns:=Ix hm (l.take i) (j+1);refine J.aw 1 I<|cQ I I I I<|U.next<|J.seq ?_;refine J.test I (fun ag=>?_) (fun ag=>?_)
  ·exact J.skip<|al.code<|J.seq<|J.block<|J.aw 2 I<|ac I I<|ak I I<|U.bl 5 I<|ac I I<|ac I I<|ac I I<|bJ I I I I (v:=.int .i64 (bY m ((p*(j+1):Nat):Int):Nat)) (fun w hw=>by have:=Cx q.f m (bY m ((p*j:Nat):Int):Nat) (bY m (p:Nat):Nat) w hm (hw.a7 pd);rw[hC l1,hC vT,atK hm] at this;exact this) aJ<|ak I I<|U.next<|J.rg 11 I<|ac I I<|ac I I<|ac I I<|ac I I<|ac I I<|eP j I I I I (by omega)<|cm 0 I I I (v:=.int .i64 (gh m (l.take i) (j+1):Nat)) (by rw[Jk (by omega)];unfold vg;rw[az (by omega)])<|ac rfl rfl<|bJ rfl rfl rfl rfl (v:=.int .i64 ((gh m (l.take i) (j+1)^^^bY m ((p*(j+1):Nat):Int):Nat):Int)) (fun w hw=>by have:=O8 q.f m (gh m (l.take i) (j+1):Nat) (bY m ((p*(j+1):Nat):Int):Nat) w hm (hw.a7 pd);rw[hC Ns,hC q8] at this;exact this) aJ<|eP j I I I I (by omega)<|eh 0 I I I I I (by rw[NI];omega) aJ<|U.end_<|al.aE<|al.code<|J.rg 2 rfl<|b1 rfl rfl rfl (r:=((j+1:Nat):Int)) (bm (by omega))<|ac rfl rfl<|U.end_<|al.back (j+1) ⟨rfl,rfl,rfl,rfl,rfl,rfl,rfl,rfl,rfl,rfl,trivial⟩ (fun _ hw=>by rw[←anW,←GQ];exact hw) (by omega) (by omega)
  ·obtain rfl:j=2*t:=by omega
   exact J.exit I<|al.aE<|al.code<|J.rg 2 I<|b1 I I I (r:=((i+1:Nat):Int)) (bm (by omega))<|ac I I<|U.end_<|al.back (i+1) ⟨I,I,I,I,I,I,trivial⟩ (fun _ hw=>by rw[C9,←an2];exact hw) (by omega) (by omega)
 ·obtain rfl:i=l.length:=by omega
  refine J.exit I<|al.code<|J.aw 2 I<|ac I I<|ak I I<|U.next<|J.ret ?_;exact al.ret Tryz.results202 I (fun w hw=>⟨(some ⟨b,0,none⟩,2*t),by rw[qd];rfl,by rw[qd];exact cq _,by
   rw[m4] at hw;rw[qd];exact hw.st (q:=0) (c:=2*t) (sz:=1) I (by simp[qd]) (by unfold maxLen;omega)⟩)
theorem abK(bT m t D:Nat)(q:gH)(A:aN)(n c:Nat)(p:ae)(bw:aN)(cD c2:Nat)(ay:ae)(w:ao)(di:e3 m t)(s9:D≤2048)(gB:Has (j8 bT m t D q) w)(aj:Has (aP 1 A n (aA .u8 p)) w)(aG:∀x∈p,x<256)(aQ:n≤1073741824)(gL:n≤c)(eU:Has (aP 1 bw cD (aA .u8 ay)) w)(fF:∀x∈ay,x<256)(eX:cD≤1073741824)(ya:cD≤c2)(o7:n=D)(eX:cD=aY m t):fh Tryz.prog 148 [.pointer (some ⟨bT,0,none⟩),.slice A n c,.slice bw cD c2] w (X:=aN×Nat) (fun z=>two (.slice z.1 (hc m t (gi m t p ay (8*D+aR m t))).length z.2) .nilIface) (fun z=>(hc m t (gi m t p ay (8*D+aR m t))).length≤z.2) (fun z=>[own 3 1 z.1 (hc m t (gi m t p ay (8*D+aR m t))).length z.2 (aA .i64 (hc m t (gi m t p ay (8*D+aR m t))))]):=by
 have eA:=kc aj;subst eA;have lT:=kc eU;subst lT;have xv:=di.mW;have xW:=ab0 m t;refine b8 Tryz.func148 I Tryz.ntmps148 I<|J.aw 2 I<|ak I I<|ak I I<|U.next<|J.seq<|J.aw 12 I<|ac I I<|cf I I<|ac I I<|bJ I I I I (fun w hw=>Iv bT m t D q w (hw.a7 gB)) aJ<|jT I I I (df (by omega))<|ac I I<|ac I I<|cf I I<|ac I I<|bJ I I I I (fun w hw=>LD bT m t D q w (hw.a7 gB)) aJ<|jT I I I (df (by omega))<|ef I I I<|U.next<|J.dy I<|J.skip<|al.code<|J.aw 1 I<|ak I I<|U.next<|J.seq<|J.aw 3 I<|ac I I<|bJ I I I I (fun w hw=>Ee bT m t D q w di s9 (hw.a7 gB)) aJ<|ac I I<|U.next<|J.block<|J.loop (G:=Nat×aN×Nat) (fun z=>[(0,.pointer (some ⟨bT,0,none⟩)),(1,.slice A p.length c),(2,.slice bw ay.length c2),(8,.slice z.2.1 (gi m t p ay z.1).length z.2.2),(26,.int .i64 (8*D+aR m t:Nat)),(27,.int .i64 (z.1:Nat))]) (fun z=>bF w [own 3 1 z.2.1 (gi m t p ay z.1).length z.2.2 (aA .i64 (gi m t p ay z.1))]) (fun z=>z.1≤8*D+aR m t∧(gi m t p ay z.1).length≤z.2.2∧(gi m t p ay z.1).length≤z.1) (fun z=>8*D+aR m t- z.1) (0,none,0) ⟨I,I,I,I,I,I,trivial⟩ (fun _ hw=>hw.iB 3 1) ⟨dg _,cq _,cq _⟩ ?_;rintro⟨i,Ha,cY⟩ ⟨hi,BP,zM⟩;simp only at hi BP zM;dsimp only;have iN:=amW m t p ay i;refine J.aw 1 I<|cQ I I I I<|U.next<|J.seq ?_;refine J.test I (fun ag=>?_) (fun ag=>?_)
 ·refine J.skip<|al.code<|J.seq<|J.block<|J.aw 2 I<|ac I I<|ak I I<|U.bl 4 I<|ac I I<|ac I I<|ak I I<|ak I I<|U.next ?_;refine J.cut (G:=r1×Nat) (fun y=>[(0,.pointer (some ⟨bT,0,none⟩)),(1,.slice A p.length c),(2,.slice bw ay.length c2),(8,.slice Ha (gi m t p ay i).length cY),(9,.int .i64 (i:Nat)),(10,.slice y.1.A y.1.l.length y.1.c),(11,.int .i64 (y.2:Nat)),(26,.int .i64 (8*D+aR m t:Nat)),(27,.int .i64 (i:Nat))]) (fun _=>bF w [own 3 1 Ha (gi m t p ay i).length cY (aA .i64 (gi m t p ay i))]) (fun y=>Has (aP 1 y.1.A y.1.l.length (aA .u8 y.1.l)) w∧(∀x∈y.1.l,x<256)∧y.2<8*y.1.l.length∧y.2<20000∧cz y.1.l y.2=(fT m t p ay i)) ?_ ?_
  ·refine J.aw 4 I<|ac I I<|ac I I<|bJ I I I I (fun w hw=>GM bT m t D q w (hw.a7 gB)) aJ<|jz I I I I<|U.next ?_;refine J.test I (fun ag=>?_) (fun ag=>?_)
   ·have avu:aR m t≤i:=by omega
    exact J.rg 7 I<|ac I I<|ac I I<|ac I I<|bJ I I I I (fun w hw=>GM bT m t D q w (hw.a7 gB)) aJ<|eB I I I (r:=((i- aR m t:Nat):Int)) (by rw[show((i:Nat):Int)- ((aR m t:Nat):Int)=((i- aR m t:Nat):Int) by omega];exact bm (by omega))<|ak I I<|ak I I<|U.end_<|al.join (⟨A,c,p⟩,i- aR m t) ⟨I,I,I,I,I,I,I,I,I,trivial⟩ (fun _ hw=>hw) ⟨aj,aG,by simp only;omega,by simp only;omega,by unfold fT;rw[az (by omega)]⟩
   ·exact J.skip<|al.join (⟨bw,c2,ay⟩,i) ⟨I,I,I,I,I,I,I,I,I,trivial⟩ (fun _ hw=>hw) ⟨eU,fF,by simp only;omega,by simp only;omega,by unfold fT;rw[aD (by omega)]⟩
  ·rintro⟨⟨uy,k0,kD⟩,k⟩ ⟨an,Se,ka,jx,ij⟩;simp only at an Se ka jx ij;have aeu:(ap kD (k/ 8)>>>(k%8))%2=fT m t p ay i:=ij;have bG:=FL m t p ay i;refine J.aw 10 I<|ac I I<|ac I I<|mM I I I (by omega) (ov k (by omega))<|fH (k/ 8) (fun w hw=>hw.a7 an) I I I I (by omega)<|jN (fun w hw=>hw.a7 an) I I (by rw[dJ];exact jk (by omega)) (by omega)<|ac I I<|h4 I I I (by omega) (pv k)<|iw I I I (by omega) (td (by omega))<|dY I I I I (r:=((fT m t p ay i:Nat):Int)) (by rw[Am (zq (fJ Se _) _),aeu])<|fD I I I I<|U.next ?_;refine J.test I (fun ag=>?_) (fun ag=>?_)
   ·rw[aD (by omega)] at iN;refine J.rg 5 I<|ac I I<|ac I I<|ja I I (cells:= #[.int .i64 ((i:Nat):Int)]) (by kernel_rfl) I aJ<|fun iv=>ma 1 I I I I (ys:=[.int .i64 ((i:Nat):Int)]) (fun w hw=>Has.gK ((hw.has (i:=0) I).kI (m:=1) I) I) I I (by omega) (by unfold maxLen;omega) (by omega) (fun _ _ _ _=>trivial)<|fun bw c2 cR=>ak rfl rfl<|U.end_<|al.aE<|al.code<|J.rg 2 rfl<|b1 rfl rfl rfl (r:=((i+1:Nat):Int)) (bm (by omega))<|ac rfl rfl<|U.end_ ?_;exact al.back (i+1,bw,c2) ⟨I,I,I,by simp only[iN,ee,ol];rfl,rfl,rfl,trivial⟩ (fun _ hw=>by
     simp only[iN,ee,ol];rw[←Au];exact hw.pick [1] I) ⟨by simp only;omega,by simp only[iN,ee,ol];omega,by simp only[iN,ee,ol];omega⟩ (by simp only;omega)
   ·rw[az (by omega),nK] at iN;exact J.skip<|al.aE<|al.code<|J.rg 2 I<|b1 I I I (r:=((i+1:Nat):Int)) (bm (by omega))<|ac I I<|U.end_<|al.back (i+1,Ha,cY) ⟨I,I,I,by simp only[iN];rfl,rfl,rfl,trivial⟩ (fun _ hw=>by simp only[iN];exact hw) ⟨by simp only;omega,by simp only[iN];exact BP,by simp only[iN];omega⟩ (by simp only;omega)
 ·obtain rfl:i=8*D+aR m t:=by omega
  exact J.exit I<|al.code<|J.aw 5 I<|ac I I<|ac I I<|dh I I I I (fun w hw=>aiR bT m t D q Ha cY (gi m t p ay (8*D+aR m t)) w di (hw.a7 gB) ((hw.has (i:=0) I).dw) (by omega)) aJ<|fun z aL=>ak I I<|ak I I<|U.next<|J.ret<|al.ret Tryz.results148 I (fun w hw=>⟨z,I,aL,hw.pick [0] I⟩)
structure axz where
 A:aN
 c:Nat
 l:b3
def e9(l:b3):Bool:=l.all (fun x=>decide (x=0))
theorem alK{l:b3}(h:∀i,i<l.length→l.getD i 0=0):e9 l=true:=by
 unfold e9;rw[lf];intro x af;obtain⟨i,hi,e⟩:=List.mem_iff_getElem.1 af;have:=h i hi;rw[eM,eF hi,kg,e] at this;exact ek this
theorem asr{l:b3}{i:Nat}(hi:i<l.length)(h:l.getD i 0≠0):e9 l=false:=by
 cases ag:e9 l
 ·rfl
 ·unfold e9 at ag;rw[lf] at ag;have ab:=ag _ (sN hi);rw[eM,eF hi,kg] at h;exact absurd (gF ab) h
theorem arA(A:aN)(n c:Nat)(l:b3)(w:ao)(aj:Has (aP 1 A n (ints .i64 l)) w)(aQ:n≤1073741824):cC Tryz.prog 149 [.slice A n c] w (.bool (e9 l)):=by
 have eA:=qB aj;subst eA;refine b8 Tryz.func149 I Tryz.ntmps149 I<|J.aw 1 I<|ak I I<|U.next<|J.seq<|J.aw 3 I<|ac I I<|cf I I<|ac I I<|U.next<|J.block<|J.loop (G:=Nat) (fun i=>[(5,.slice A l.length c),(6,.int .i64 (l.length:Nat)),(7,.int .i64 (i:Nat))]) (fun _=>bF w []) (fun i=>i≤l.length∧∀k,k<i→l.getD k 0=0) (fun i=>l.length- i) 0 ⟨I,I,I,trivial⟩ (fun _ hw=>hw) ⟨dg _,fun k ah=>by omega⟩ ?_;rintro i ⟨hi,aL⟩;refine J.aw 1 I<|cQ I I I I<|U.next<|J.seq ?_;refine J.test I (fun ag=>?_) (fun ag=>?_)
 ·refine J.skip<|al.code<|J.seq<|J.block<|J.aw 3 I<|fH i (fun w hw=>hw.a7 aj) I I I I (by omega)<|jN (fun w hw=>hw.a7 aj) I I (by rw[dJ];exact qv (by omega)) (by omega)<|ak I I<|U.bl 2 I<|ac I I<|jT I I I I<|U.next ?_;refine J.test I (fun cR=>?_) (fun cR=>?_)
  ·exact J.aw 1 I<|ak I I<|U.next<|J.ret<|al.ret Tryz.results149 I (fun w hw=>⟨by rw[asr (i:=i) (by omega) cR];rfl,hw⟩)
  ·refine J.skip<|al.aE<|al.code<|J.rg 2 I<|b1 I I I (r:=((i+1:Nat):Int)) (bm (by omega))<|ac I I<|U.end_ ?_;exact al.back (i+1) ⟨I,I,I,trivial⟩ (fun _ hw=>hw) ⟨by omega,fun k ah=>by
    by_cases lc:k=i
    ·subst lc;exact m8 cR
    ·exact aL k (by omega)⟩ (by omega)
 ·obtain rfl:i=l.length:=by omega
  exact J.exit I<|al.code<|J.aw 1 I<|ak I I<|U.next<|J.ret<|al.ret Tryz.results149 I (fun w hw=>⟨by rw[alK aL];rfl,hw⟩)
end Go.Proofs.YtcgjepodnfjggaaGreatDoor
end
section
namespace Go.Proofs.YtcgjepodnfjggaaGreatDoor
open Go Go.a6 Go.cv
set_option maxRecDepth 100000
theorem OS{x k:Nat}(ah:k≤64):((x:Int)).fdiv (2^(min (k:Int).toNat IntKind.i64.bits))=((x/ 2^k:Nat):Int):=by
 rw[Kb ah,jp]
theorem Qy(a b k:Nat)(aj:a<2^k):a|||(b*2^k)=a+b*2^k:=by rw[Uo a b k aj,Nat.mul_comm]
theorem Lk(F:Nat→Prop)(A:aN)(m c:Nat)(l:ae)(x:Nat)(w:ao)(hm:m≤1000000)(hw:au F w [own 5 1 A m c (aA .u8 (l))] w):s5 Tryz.prog 58 [.slice A m c,.int .i64 (x:Nat)] F w (X:=aN×Nat) (fun q=>.slice q.1 (m+4) q.2) (fun q=>m+4≤q.2) (fun q=>[own 5 1 q.1 (m+4) q.2 (aA .u8 (l++fQ x))]):=by
 exact pP Tryz.func58 I Tryz.ntmps58 I hw<|J.aw 1 I<|ak I I<|U.bl 15 I<|ac I I<|ac I I<|gW I I (EG _)<|ac I I<|iw I I I (by omega) (r:=((x/ 2^8:Nat):Int)) (OS (k:=8) (by omega))<|gW I I (EG _)<|ac I I<|iw I I I (by omega) (r:=((x/ 2^16:Nat):Int)) (OS (k:=16) (by omega))<|gW I I (EG _)<|ac I I<|iw I I I (by omega) (r:=((x/ 2^24:Nat):Int)) (OS (k:=24) (by omega))<|gW I I (EG _)<|ja I I (cells:=(aA .u8 (fQ x)).toArray) (by kernel_rfl) I aJ<|fun iv=>ma 1 I I I I (ys:=aA .u8 (fQ x)) (fun w hw=>Has.gK ((hw.has (i:=0) I).kI (m:=4) I) I) I I (by omega) (by unfold maxLen;omega) (by omega) (fun _ _ _ _=>trivial)<|fun bw c2 cR=>ak rfl rfl<|U.next<|J.ret<|al.ret Tryz.results58 rfl (fun w hw=>⟨(bw,c2),rfl,cR,by rw[J0] at hw;exact hw.pick [1] I⟩)
theorem xq(A:aN)(n c:Nat)(p:ae)(i:Nat)(w:ao)(aG:∀z∈p,z<256)(aQ:n≤1000000)(aj:Has (aP 1 A n (aA .u8 p)) w)(hi:i+4≤n):cC Tryz.prog 117 [.slice A n c,.int .i64 (i:Nat)] w (.int .i64 (hS p i:Nat)):=by
 have o1:p.length=n:=by have:=aj.hE;simpa[aA] using this
 subst o1;have aB:=fJ aG i;have aa:=fJ aG (i+1);have ab:=fJ aG (i+2);have an:=fJ aG (i+3);exact b8 Tryz.func117 I Tryz.ntmps117 I<|J.aw 1 I<|ak I I<|U.next<|J.seq<|J.dQ (bW [0,1,2,3,4,5,6,7,8,9,10,11,12,13,14,15,16,17,18,19,20,21,22,23,24,25,26,27,28,29] .done) (bF w []) mixed (by kernel_rfl) (fun _ h=>h.drew) (fun _ h=>h)<|ac I I<|ac I I<|fH i (fun w hw=>hw.a7 aj) I I I I (by omega)<|yn (fun w hw=>hw.a7 aj) I I (by rw[dJ];exact jk (by omega)) (by omega)<|gW I I (bm (by omega))<|ac I I<|ac I I<|b1 I I I (r:=((i+1:Nat):Int)) (bm (by omega))<|fH (i+1) (fun w hw=>hw.a7 aj) I I I (by push_cast;omega) (by omega)<|yn (fun w hw=>hw.a7 aj) rfl rfl (by rw[dJ];exact jk (by omega)) (by omega)<|gW I I (bm (by omega))<|ir I I I (by omega) (AF (k:=8) (by omega) (by omega))<|dY I I I I (r:=((ap p i+ap p (i+1)*2^8:Nat):Int)) (by rw[Jt (by omega) (by omega),Qy _ _ _ (by omega)])<|ac I I<|ac I I<|b1 I I I (r:=((i+2:Nat):Int)) (bm (by omega))<|fH (i+2) (fun w hw=>hw.a7 aj) I I I (by push_cast;omega) (by omega)<|yn (fun w hw=>hw.a7 aj) rfl rfl (by rw[dJ];exact jk (by omega)) (by omega)<|gW I I (bm (by omega))<|ir I I I (by omega) (AF (k:=16) (by omega) (by omega))<|dY I I I I (r:=((ap p i+ap p (i+1)*2^8+ap p (i+2)*2^16:Nat):Int)) (by rw[Jt (by omega) (by omega),Qy _ _ _ (by omega)])<|ac I I<|ac I I<|b1 I I I (r:=((i+3:Nat):Int)) (bm (by omega))<|fH (i+3) (fun w hw=>hw.a7 aj) I I I (by push_cast;omega) (by omega)<|yn (fun w hw=>hw.a7 aj) rfl rfl (by rw[dJ];exact jk (by omega)) (by omega)<|gW I I (bm (by omega))<|ir I I I (by omega) (AF (k:=24) (by omega) (by omega))<|dY I I I I (r:=((hS p i:Nat):Int)) (by rw[Jt (by omega) (by omega),Qy _ _ _ (by omega)];exact ql _ (by unfold hS ap;omega))<|ak rfl rfl<|U.next<|J.ret<|al.ret Tryz.results117 rfl (fun w hw=>⟨rfl,hw.nothing⟩)
theorem ZN:∀(l:ae) (n:Nat),qk (l++[n])=qk l++fQ n
 |[],n=>by simp[qk]
 |a::l,n=>by simp only[u9,qk,ZN l n,rZ]
theorem b5.an7{x:b5}{i:Nat}(h:i<6):x.aA.take (i+1)=x.aA.take i++[(x.f i).toNat]:=by
 match i,h with
 |0,_=>rfl
 |1,_=>rfl
 |2,_=>rfl
 |3,_=>rfl
 |4,_=>rfl
 |5,_=>rfl
def b5.by(x:b5)(i:Nat):ae:=qk (x.aA.take i)
theorem b5.alO{x:b5}{i:Nat}(h:i<6):x.by i++fQ (x.f i).toNat=x.by (i+1):=by unfold b5.by;rw[b5.an7 h,ZN]
theorem b5.Xs{x:b5}{i:Nat}(h:i≤6):(x.by i).length=4*i:=by
 unfold b5.by;rw[V2,fW];have:x.aA.length=6:=rfl;omega
theorem b5.ZF{x:b5}{i:Nat}:∀c∈x.by i,c<256:=ZS _
def b5.kL(x:b5)(d:ae):ae:=(x.by 6++fQ (fz d))++fQ (fz (x.by 6++fQ (fz d)))
theorem b5.Yb(x:b5)(d:ae):(x.kL d).length=32:=by
 unfold b5.kL;simp only[ee,b5.Xs (cq 6)];rfl
theorem b5.auT(x:b5)(d:ae):∀c∈x.kL d,c<256:=by
 intro c ag;unfold b5.kL at ag;simp only[hI] at ag;rcases ag with(h|h)|h
 ·exact b5.ZF c h
 ·exact H5 _ c h
 ·exact H5 _ c h
theorem b5.Oc(x:b5)(d:ae):∀c∈x.by 6++fQ (fz d),c<256:=by
 intro c ag;rcases hI.1 ag with h|h
 ·exact b5.ZF c h
 ·exact H5 _ c h
theorem ahq(x:b5)(A:aN)(n c:Nat)(p:ae)(e:Nat→Addr)(w:ao)(aG:∀z∈p,z<256)(aQ:n≤1000000)(aj:Has (aP 1 A n (aA .u8 p)) w)(c4:gI e w 0)(af:x.ok=false):cC Tryz.prog 21 [x.agg,.slice A n c] w (two (.slice none 0 0) (mJ e 0)):=by
 refine b8 Tryz.func21 I Tryz.ntmps21 I<|J.aw 3 I<|fx I I aJ<|fun hX=>ak I I<|ak I I<|U.next<|J.seq<|J.aw 3 I<|ie 0 I I I<|bJ I I I I (fun w hw=>Gh x w) aJ<|ls I I<|U.next ?_;refine J.cond I (fun ag=>?_) (fun ag=>?_)
 ·exact J.seq<|J.dQ (bW [0,1,2] .done) (bF w []) mixed (by kernel_rfl) (fun _ h=>h.drew) (fun _ h=>h.nothing)<|dc I I (fun _ h=>h.mX c4)<|ak I I<|ak I I<|U.next<|J.ret<|al.ret Tryz.results21 I (fun w hw=>⟨I,hw.nothing⟩)
 ·rw[af] at ag;cases ag
theorem asW(x:b5)(A:aN)(n c:Nat)(p:ae)(w:ao)(aG:∀z∈p,z<256)(aQ:n≤1000000)(aj:Has (aP 1 A n (aA .u8 p)) w)(af:x.ok=true):fh Tryz.prog 21 [x.agg,.slice A n c] w (X:=aN×Nat) (fun q=>two (.slice q.1 32 q.2) .nilIface) (fun q=>32≤q.2) (fun q=>[own 5 1 q.1 32 q.2 (aA .u8 (x.kL p))]):=by
 have Ef:fz p<4294967296:=I7 aG;have k8:fz (x.by 6++fQ (fz p))<4294967296:=I7 (x.Oc p);have r5:=b5.Qz af;refine b8 Tryz.func21 I Tryz.ntmps21 I<|J.aw 3 I<|fx I I aJ<|fun hX=>ak I I<|ak I I<|U.next<|J.seq<|J.aw 3 I<|ie 0 I I I<|bJ I I I I (fun w hw=>Gh x w) aJ<|ls I I<|U.next ?_;refine J.cond I (fun ag=>?_) (fun ag=>?_)
 ·rw[af] at ag;cases ag
 ·refine J.skip<|al.code<|J.aw 1 I<|ak I I<|U.bl 4 I<|ie 0 I I I<|gl I I (cells:=x.cells) (by kernel_rfl)<|fx I I aJ<|fun Ar=>ak I I<|U.next<|J.seq<|J.aw 3 I<|dh I I I I (fun aZ _=>F5 aZ) aJ<|fun ew _=>cf I I<|U.pre (fun _ h=>h.iB 5 1)<|ac I I<|U.next<|J.block<|J.loop (G:=Nat×aN×Nat) (fun q=>[(1,.slice A n c),(6,.slice q.2.1 (4*q.1) q.2.2),(7,.pointer (some ⟨Ar,0,none⟩)),(17,.slice (some ⟨ew,0,none⟩) 6 6),(18,.int .i64 6),(19,.int .i64 (q.1:Nat))]) (fun q=>bF w [own 5 1 q.2.1 (4*q.1) q.2.2 (aA .u8 (x.by q.1)),aE ew 154 tz,aE Ar 151 x.cells,aE hX 23 x.cells]) (fun q=>q.1≤6) (fun q=>6- q.1) (0,none,0) ⟨I,I,I,I,I,I,trivial⟩ (fun _ h=>h) (dg _) ?_;rintro⟨i,fo,J4⟩ hi;have hi:i≤6:=hi;refine J.aw 1 I<|cQ I I I I<|U.next<|J.seq ?_;refine J.test I (fun ag=>?_) (fun ag=>?_)
  ·have ku:i<6:=by omega
   have adw:=r5 i ku;exact J.skip<|al.code<|J.seq<|J.block<|J.aw 3 I<|eP i I I I I (by omega)<|cm 1 I I I (HF ku)<|ak I I<|U.next<|J.rg 8 I<|ac I I<|ac I I<|ac I I<|bJ I I I I (g:=wB i) (fun aZ _=>Dx i Ar aZ ku) aJ<|bI I I<|cm 2 I I I (v:=.int .i64 ((x.f i).toNat:Nat)) (by rw[x.cell ku,Fb adw.1])<|li [0,0,0,0] (M:=[own 5 1 fo (4*i) J4 (aA .u8 (x.by i))]) (R:=[aE ew 154 tz,aE Ar 151 x.cells,aE hX 23 x.cells]) I I I I I (X:=aN×Nat) (v:=fun q=>.slice q.1 ((4*i)+4) q.2) (pf:=fun q=>(4*i)+4≤q.2) (fS:=fun q=>[own 5 1 q.1 ((4*i)+4) q.2 (aA .u8 ((x.by i)++fQ ((x.f i).toNat)))]) (fun dK aZ _ bG=>Lk dK fo (4*i) J4 (x.by i) ((x.f i).toNat) aZ (by omega) bG) (fun _ _ _=>trivial)<|fun da hD=>ak I I<|U.end_<|al.aE<|al.code<|J.rg 2 I<|b1 I I I (r:=((i+1:Nat):Int)) (bm (by omega))<|ac I I<|U.end_<|al.back (i+1,da.1,da.2) ⟨I,I,I,I,I,I,trivial⟩ (fun _ h=>by rw[show 4*i+4=4*(i+1) by omega,b5.alO ku] at h;exact h) (by show i+1≤6;omega) (by show 6- (i+1)<6- i;omega)
  ·obtain rfl:i=6:=by omega
   exact J.exit I<|al.code<|J.aw 5 I<|ac I I<|ac I I<|bJ I I I I (fun w hw=>wa A n c p w aG aQ (hw.a7 aj)) aJ<|li [0,0,0,0] (M:=[own 5 1 fo 24 J4 (aA .u8 (x.by 6))]) (R:=[aE ew 154 tz,aE Ar 151 x.cells,aE hX 23 x.cells]) I I I I I (X:=aN×Nat) (v:=fun q=>.slice q.1 (24+4) q.2) (pf:=fun q=>24+4≤q.2) (fS:=fun q=>[own 5 1 q.1 (24+4) q.2 (aA .u8 ((x.by 6)++fQ (fz p)))]) (fun dK aZ _ bG=>Lk dK fo 24 J4 (x.by 6) (fz p) aZ (by omega) bG) (fun _ _ _=>trivial)<|fun da hD=>ak I I<|U.bl 6 I<|ac I I<|ac I I<|bJ I I I I (fun w hw=>wa da.1 28 da.2 (x.by 6++fQ (fz p)) w (x.Oc p) (by omega) ((hw.has (i:=0) I).dw)) aJ<|li [0,0,0,0] (M:=[own 5 1 da.1 28 da.2 (aA .u8 (x.by 6++fQ (fz p)))]) (R:=[aE ew 154 tz,aE Ar 151 x.cells,aE hX 23 x.cells]) I I I I I (X:=aN×Nat) (v:=fun q=>.slice q.1 (28+4) q.2) (pf:=fun q=>28+4≤q.2) (fS:=fun q=>[own 5 1 q.1 (28+4) q.2 (aA .u8 ((x.by 6++fQ (fz p))++fQ (fz (x.by 6++fQ (fz p)))))]) (fun dK aZ _ bG=>Lk dK da.1 28 da.2 (x.by 6++fQ (fz p)) (fz (x.by 6++fQ (fz p))) aZ (by omega) bG) (fun _ _ _=>trivial)<|fun lK rl=>ak I I<|ak I I<|U.next<|J.ret<|al.ret Tryz.results21 I (fun w hw=>⟨lK,I,rl,hw.pick [0] I⟩)
def b5.lR(b:ae):b5:=⟨(hS b 0:Nat),(hS b 4:Nat),(hS b 8:Nat),(hS b 12:Nat),(hS b 16:Nat),(hS b 20:Nat)⟩
def FI(b d:ae):Bool:=decide (hS b 28=fz (b.take 28))&&decide (hS b 24=fz d)
def vf:cJ:= #[.int .i64 0,.int .i64 0,.int .i64 0,.int .i64 0,.int .i64 0,.int .i64 0]
def yX(b:ae)(i:Nat):cJ:=((List.range 6).map (fun j=>.int .i64 ((if j<i then hS b (4*j) else 0:Nat):Int))).toArray
theorem Sd{b:ae}{i:Nat}(h:i<6):(yX b i).setIfInBounds i (.int .i64 (hS b (4*i):Nat))=yX b (i+1):=by
 match i,h with
 |0,_=>rfl
 |1,_=>rfl
 |2,_=>rfl
 |3,_=>rfl
 |4,_=>rfl
 |5,_=>rfl
theorem Xz(b:ae)(i:Nat):(yX b i).size=6:=rfl
theorem agu(A:aN)(n c:Nat)(p:ae)(bw:aN)(cD c2:Nat)(ay:ae)(e:Nat→Addr)(w:ao)(aG:∀z∈p,z<256)(aQ:n=32)(ag:n≤c)(aj:Has (aP 1 A n (aA .u8 p)) w)(fF:∀z∈ay,z<256)(eX:cD≤1000000)(eU:Has (aP 1 bw cD (aA .u8 ay)) w)(c4:gI e w 0)(tY:¬(hS p 28=fz (p.take 28)∧hS p 24=fz ay)):cC Tryz.prog 71 [.slice A n c,.slice bw cD c2] w (two (.agg vf) (mJ e 0)):=by
 have o1:p.length=n:=by have:=aj.hE;simpa[aA] using this
 subst o1;have CG:∀z∈p.take 28,z<256:=fun z aL=>aG z (n9 aL);refine b8 Tryz.func71 I Tryz.ntmps71 I<|J.aw 2 I<|gg I aJ<|fun fb=>ak I I<|U.next<|J.seq<|J.seq<|J.dQ (bW [0,1,2,3,4,6,7] (cj [5,8] (bW [9,10,11,12,14] (cj [13,15] (bW [16,17] .done))))) (bF w []) mixed (by kernel_rfl) (fun _ h=>h.drew) (fun _ h=>h.nothing)<|ac I I<|cf I I<|jT I I I (df (by omega))<|ac I I<|ac I I<|ac I I<|oJ 28 I I I I (by omega)<|bJ I I I I (fun w hw=>xq A p.length c p 28 w aG (by omega) (hw.a7 aj) (by omega)) (fun _ h=>h.nothing)<|bJ I I I I (fun w hw=>wa A 28 c (p.take 28) w CG (by omega) (Has.gK ((hw.a7 aj).su (q:=28) (by omega)) (by rw[xE]))) (fun _ h=>h.nothing)<|jT I I I I<|ef I I I<|ac I I ?_;refine U.bool 20 I (fun ad=>?_) (fun ad=>?_)
 ·have aM:=gF ad;exact U.skip I<|U.skip I<|U.skip I<|U.skip I<|U.skip I<|fe I I I<|U.next<|J.hH I<|J.seq<|J.dQ (bW [1] (cj [0,2] (bW [3] .done))) (bF w []) mixed (by kernel_rfl) (fun _ h=>h.drew) (fun _ h=>h.nothing)<|dc I I (fun _ h=>h.mX c4)<|gl I I (cells:=vf) (by kernel_rfl)<|fE 0 I I (by kernel_rfl) I I I I (fun _ h=>h.nothing)<|ak I I<|U.next<|J.ret<|al.nu (rs:=[.cell 4 23,.tmp 5]) Tryz.results71 (fun w hw=>⟨[_,_],⟨⟨_,I,hw.nO (q:=0) I (by rfl)⟩,I,trivial⟩,I,hw.nothing⟩)
 ·have aM:=jG ad;refine ac I I<|ac I I<|bJ I I I I (fun w hw=>xq A p.length c p 24 w aG (by omega) (hw.a7 aj) (by omega)) (fun _ h=>h.nothing)<|bJ I I I I (fun w hw=>wa bw cD c2 ay w fF eX (hw.a7 eU)) (fun _ h=>h.nothing)<|jT I I I I<|ef I I I<|U.next ?_;refine J.test I (fun hD=>?_) (fun hD=>?_)
  ·exact J.seq<|J.dQ (bW [1] (cj [0,2] (bW [3] .done))) (bF w []) mixed (by kernel_rfl) (fun _ h=>h.drew) (fun _ h=>h.nothing)<|dc I I (fun _ h=>h.mX c4)<|gl I I (cells:=vf) (by kernel_rfl)<|fE 0 I I (by kernel_rfl) I I I I (fun _ h=>h.nothing)<|ak I I<|U.next<|J.ret<|al.nu (rs:=[.cell 4 23,.tmp 5]) Tryz.results71 (fun w hw=>⟨[_,_],⟨⟨_,I,hw.nO (q:=0) I (by rfl)⟩,I,trivial⟩,I,hw.nothing⟩)
  ·omega
theorem aeg(A:aN)(n c:Nat)(p:ae)(bw:aN)(cD c2:Nat)(ay:ae)(e:Nat→Addr)(w:ao)(aG:∀z∈p,z<256)(aQ:n=32)(ag:n≤c)(aj:Has (aP 1 A n (aA .u8 p)) w)(fF:∀z∈ay,z<256)(eX:cD≤1000000)(eU:Has (aP 1 bw cD (aA .u8 ay)) w)(c4:gI e w 0)(aa:hS p 28=fz (p.take 28))(ab:hS p 24=fz ay)(af:(b5.lR p).ok=false):cC Tryz.prog 71 [.slice A n c,.slice bw cD c2] w (two (.agg vf) (mJ e 0)):=by
 have o1:p.length=n:=by have:=aj.hE;simpa[aA] using this
 subst o1;have CG:∀z∈p.take 28,z<256:=fun z aL=>aG z (n9 aL);refine b8 Tryz.func71 I Tryz.ntmps71 I<|J.aw 2 I<|gg I aJ (fun fb=>?_);refine ak I I<|U.next<|J.seq<|J.seq<|J.dQ (bW [0,1,2,3,4,6,7] (cj [5,8] (bW [9,10,11,12,14] (cj [13,15] (bW [16,17] .done))))) (bF w []) mixed (by kernel_rfl) (fun _ h=>h.drew) (fun _ h=>h.nothing)<|ac I I<|cf I I<|jT I I I (df (by omega))<|ac I I<|ac I I<|ac I I<|oJ 28 I I I I (by omega)<|bJ I I I I (fun w hw=>xq A p.length c p 28 w aG (by omega) (hw.a7 aj) (by omega)) (fun _ h=>h.nothing)<|bJ I I I I (fun w hw=>wa A 28 c (p.take 28) w CG (by omega) (Has.gK ((hw.a7 aj).su (q:=28) (by omega)) (by rw[xE]))) (fun _ h=>h.nothing)<|jT I I I (df (by omega))<|ef I I I<|ac I I<|ac I I<|ac I I<|bJ I I I I (fun w hw=>xq A p.length c p 24 w aG (by omega) (hw.a7 aj) (by omega)) (fun _ h=>h.nothing)<|bJ I I I I (fun w hw=>wa bw cD c2 ay w fF eX (hw.a7 eU)) (fun _ h=>h.nothing)<|jT I I I (df (by omega))<|ef I I I<|U.next<|J.dy I<|J.skip<|al.code<|J.aw 3 I<|gl I I (cells:=yX p 0) (by kernel_rfl)<|fx I I aJ (fun qY=>?_);refine ak I I<|U.next<|J.seq<|J.aw 3 I<|dh I I I I (fun aZ _=>F5 aZ) aJ (fun ew _=>?_);refine cf I I<|ac I I<|U.next<|J.block<|J.loop (G:=Nat) (fun i=>[(0,.slice A p.length c),(4,.pointer (some ⟨fb,0,none⟩)),(6,.pointer (some ⟨qY,0,none⟩)),(31,.slice (some ⟨ew,0,none⟩) 6 6),(32,.int .i64 6),(33,.int .i64 (i:Nat))]) (fun i=>bF w [aE ew 154 tz,aE qY 151 (yX p i),aE fb 23 vf]) (fun i=>i≤6) (fun i=>6- i) 0 ⟨I,I,I,I,I,I,trivial⟩ (fun _ h=>h) (dg _) ?_;intro i hi;refine J.aw 1 I<|cQ I I I I<|U.next<|J.seq ?_;refine J.test I (fun ag=>?_) (fun ag=>?_)
 ·have ku:i<6:=by omega
  exact J.skip<|al.code<|J.seq<|J.block<|J.aw 5 I<|ac I I<|eP i I I I I (by omega)<|cm 0 I I I (HF ku)<|ak I I<|ak I I<|U.next<|J.rg 9 I<|ac I I<|ac I I<|bJ I I I I (g:=wB i) (fun aZ _=>Dx i qY aZ ku) aJ<|ac I I<|ac I I<|jE I I I (r:=((4*i:Nat):Int)) (bm (by omega))<|bJ I I I I (fun w hw=>xq A p.length c p (4*i) w aG (by omega) (hw.a7 aj) (by omega)) aJ<|bI I I<|eh 1 I I I I I (by rw[Xz];omega) aJ<|U.end_<|al.aE<|al.code<|J.rg 2 rfl<|b1 rfl rfl rfl (r:=((i+1:Nat):Int)) (bm (by omega))<|ac rfl rfl<|U.end_<|al.back (i+1) ⟨rfl,rfl,rfl,rfl,rfl,rfl,trivial⟩ (fun _ h=>by rw[Sd ku] at h;exact h) (by show i+1≤6;omega) (by show 6- (i+1)<6- i;omega)
 ·obtain rfl:i=6:=by omega
  refine J.exit I<|al.code<|J.seq<|J.aw 6 I<|ac I I<|bI I I<|bd I I<|ie 1 I I I<|bJ I I I I (fun w hw=>Gh (b5.lR p) w) aJ<|ls I I<|U.next ?_;refine J.cond I (fun kT=>?_) (fun kT=>?_)
  ·exact J.seq<|J.dQ (bW [1] (cj [0,2] (bW [3] .done))) (bF w []) mixed (by kernel_rfl) (fun _ h=>h.drew) (fun _ h=>h.nothing)<|dc I I (fun _ h=>h.mX c4)<|gl I I (cells:=vf) (by kernel_rfl)<|fE 2 I I (by kernel_rfl) I I I I (fun _ h=>h.nothing)<|ak I I<|U.next<|J.ret<|al.nu (rs:=[.cell 4 23,.tmp 5]) Tryz.results71 (fun w hw=>⟨[_,_],⟨⟨_,I,hw.nO (q:=2) I (by rfl)⟩,I,trivial⟩,I,hw.nothing⟩)
  ·rw[af] at kT;cases kT
theorem akU(A:aN)(n c:Nat)(p:ae)(bw:aN)(cD c2:Nat)(ay:ae)(w:ao)(aG:∀z∈p,z<256)(aQ:n=32)(ag:n≤c)(aj:Has (aP 1 A n (aA .u8 p)) w)(fF:∀z∈ay,z<256)(eX:cD≤1000000)(eU:Has (aP 1 bw cD (aA .u8 ay)) w)(aa:hS p 28=fz (p.take 28))(ab:hS p 24=fz ay)(af:(b5.lR p).ok=true):cC Tryz.prog 71 [.slice A n c,.slice bw cD c2] w (two (.agg (b5.lR p).cells) .nilIface):=by
 have o1:p.length=n:=by have:=aj.hE;simpa[aA] using this
 subst o1;have CG:∀z∈p.take 28,z<256:=fun z aL=>aG z (n9 aL);refine b8 Tryz.func71 I Tryz.ntmps71 I<|J.aw 2 I<|gg I aJ (fun fb=>?_);refine ak I I<|U.next<|J.seq<|J.seq<|J.dQ (bW [0,1,2,3,4,6,7] (cj [5,8] (bW [9,10,11,12,14] (cj [13,15] (bW [16,17] .done))))) (bF w []) mixed (by kernel_rfl) (fun _ h=>h.drew) (fun _ h=>h.nothing)<|ac I I<|cf I I<|jT I I I (df (by omega))<|ac I I<|ac I I<|ac I I<|oJ 28 I I I I (by omega)<|bJ I I I I (fun w hw=>xq A p.length c p 28 w aG (by omega) (hw.a7 aj) (by omega)) (fun _ h=>h.nothing)<|bJ I I I I (fun w hw=>wa A 28 c (p.take 28) w CG (by omega) (Has.gK ((hw.a7 aj).su (q:=28) (by omega)) (by rw[xE]))) (fun _ h=>h.nothing)<|jT I I I (df (by omega))<|ef I I I<|ac I I<|ac I I<|ac I I<|bJ I I I I (fun w hw=>xq A p.length c p 24 w aG (by omega) (hw.a7 aj) (by omega)) (fun _ h=>h.nothing)<|bJ I I I I (fun w hw=>wa bw cD c2 ay w fF eX (hw.a7 eU)) (fun _ h=>h.nothing)<|jT I I I (df (by omega))<|ef I I I<|U.next<|J.dy I<|J.skip<|al.code<|J.aw 3 I<|gl I I (cells:=yX p 0) (by kernel_rfl)<|fx I I aJ (fun qY=>?_);refine ak I I<|U.next<|J.seq<|J.aw 3 I<|dh I I I I (fun aZ _=>F5 aZ) aJ (fun ew _=>?_);refine cf I I<|ac I I<|U.next<|J.block<|J.loop (G:=Nat) (fun i=>[(0,.slice A p.length c),(4,.pointer (some ⟨fb,0,none⟩)),(6,.pointer (some ⟨qY,0,none⟩)),(31,.slice (some ⟨ew,0,none⟩) 6 6),(32,.int .i64 6),(33,.int .i64 (i:Nat))]) (fun i=>bF w [aE ew 154 tz,aE qY 151 (yX p i),aE fb 23 vf]) (fun i=>i≤6) (fun i=>6- i) 0 ⟨I,I,I,I,I,I,trivial⟩ (fun _ h=>h) (dg _) ?_;intro i hi;refine J.aw 1 I<|cQ I I I I<|U.next<|J.seq ?_;refine J.test I (fun ag=>?_) (fun ag=>?_)
 ·have ku:i<6:=by omega
  exact J.skip<|al.code<|J.seq<|J.block<|J.aw 5 I<|ac I I<|eP i I I I I (by omega)<|cm 0 I I I (HF ku)<|ak I I<|ak I I<|U.next<|J.rg 9 I<|ac I I<|ac I I<|bJ I I I I (g:=wB i) (fun aZ _=>Dx i qY aZ ku) aJ<|ac I I<|ac I I<|jE I I I (r:=((4*i:Nat):Int)) (bm (by omega))<|bJ I I I I (fun w hw=>xq A p.length c p (4*i) w aG (by omega) (hw.a7 aj) (by omega)) aJ<|bI I I<|eh 1 I I I I I (by rw[Xz];omega) aJ<|U.end_<|al.aE<|al.code<|J.rg 2 rfl<|b1 rfl rfl rfl (r:=((i+1:Nat):Int)) (bm (by omega))<|ac rfl rfl<|U.end_<|al.back (i+1) ⟨rfl,rfl,rfl,rfl,rfl,rfl,trivial⟩ (fun _ h=>by rw[Sd ku] at h;exact h) (by show i+1≤6;omega) (by show 6- (i+1)<6- i;omega)
 ·obtain rfl:i=6:=by omega
  refine J.exit I<|al.code<|J.seq<|J.aw 6 I<|ac I I<|bI I I<|bd I I<|ie 1 I I I<|bJ I I I I (fun w hw=>Gh (b5.lR p) w) aJ<|ls I I<|U.next ?_;refine J.cond I (fun kT=>?_) (fun kT=>?_)
  ·rw[af] at kT;cases kT
  ·exact J.skip<|al.code<|J.aw 6 I<|ac I I<|bI I I<|bd I I<|ie 1 I I I<|fE 2 I I (by kernel_rfl) I I I I aJ<|ak I I<|U.next<|J.ret<|al.nu (rs:=[.cell 4 23,.tmp 5]) Tryz.results71 (fun w hw=>⟨[_,_],⟨⟨_,I,hw.nO (q:=2) I (by rfl)⟩,I,trivial⟩,I,hw.nothing⟩)
def kK(b d:ae):Bool:=FI b d&&(b5.lR b).ok
theorem afo(A:aN)(n c:Nat)(p:ae)(bw:aN)(cD c2:Nat)(ay:ae)(e:Nat→Addr)(w:ao)(aG:∀z∈p,z<256)(aQ:n=32)(ag:n≤c)(aj:Has (aP 1 A n (aA .u8 p)) w)(fF:∀z∈ay,z<256)(eX:cD≤1000000)(eU:Has (aP 1 bw cD (aA .u8 ay)) w)(c4:gI e w 0):
  cC Tryz.prog 71 [.slice A n c,.slice bw cD c2] w (two (.agg (if kK p ay=true then(b5.lR p).cells else vf)) (if kK p ay=true then .nilIface else mJ e 0)):=by
 by_cases h:hS p 28=fz (p.take 28)∧hS p 24=fz ay
 ·have an:FI p ay=true:=by unfold FI;rw[ek h.1,ek h.2];rfl
  cases af:(b5.lR p).ok
  ·have aH:kK p ay=false:=by unfold kK;rw[an,af];rfl
   rw[aH];exact aeg A n c p bw cD c2 ay e w aG aQ ag aj fF eX eU c4 h.1 h.2 af
  ·have aH:kK p ay=true:=by unfold kK;rw[an,af];rfl
   rw[aH];exact akU A n c p bw cD c2 ay w aG aQ ag aj fF eX eU h.1 h.2 af
 ·have aH:kK p ay=false:=by
   unfold kK FI;by_cases aa:hS p 28=fz (p.take 28)
   ·rw[df (fun ab=>h ⟨aa,ab⟩),Lq];rfl
   ·rw[df aa];rfl
  rw[aH];exact agu A n c p bw cD c2 ay e w aG aQ ag aj fF eX eU c4 h
end Go.Proofs.YtcgjepodnfjggaaGreatDoor
end
section
namespace Go.Proofs.YtcgjepodnfjggaaGreatDoor
open Go Go.a6 Go.cv
def dR(l:ae):b3:=l.map Int.ofNat
theorem qh(l:ae):(dR l).length=l.length:=by simp[dR]
theorem GJ(k:cg)(l:ae):ints k (dR l)=aA k l:=(vl k l).symm
def bj(m t:Nat)(p:ae):ae:=if 0<aR m t%8 then p.set (p.length- 1) (ap p (p.length- 1)%2^(aR m t%8)) else p
theorem Ww(m t:Nat)(p:ae):(bj m t p).length=p.length:=by unfold bj;split<;>simp
theorem ae6{m t:Nat}{p:ae}(aG:∀x∈p,x<256):∀x∈bj m t p,x<256:=by
 intro x af;unfold bj at af;split at af
 ·rcases u7 af with h|rfl
  ·exact aG x h
  ·exact lU (Nat.mod_le _ _) (gA aG (by omega) _)
 ·exact aG x af
def bh(m t D:Nat)(d p:ae):ae:=hc m t (gi m t d p (8*D+aR m t))
noncomputable def bK(m:Nat)(s:ae):lk:=cx m (dL m) (bz m ((dR s).take 80)) (min s.length 80)
def cV(m t D:Nat)(c:ae):ae:=gM (fR m (bz m (dR c))) (min ((8*D+aR m t:Nat):Int) (N m:Nat)).toNat
theorem Sf{m:Nat}(hm:Ok m)(s:ae):qJ m (bz m ((dR s).take 80)) (bK m s) (min s.length 80):=BT hm (fun x af=>by
 obtain⟨y,_,rfl⟩:=gE.1 af;exact lJ m y) _
def qG(t:Nat)(q:lk):Bool:=decide (t<q.L∨q.c.length≠q.L+1)
noncomputable def hF(m t D:Nat)(d p:ae):Option (ae×ae×ae):=
 if e9 (dR (bh m t D d p))=true then some (d,p,[])
 else if qG t (bK m (bh m t D d p))=true then none
 else if(cV m t D (bK m (bh m t D d p)).c).length≠(bK m (bh m t D d p)).L then none
 else some ((cV m t D (bK m (bh m t D d p)).c).foldl (fun a k=>jZ m t k a) d,(cV m t D (bK m (bh m t D d p)).c).foldl (fun a k=>jP m t k a) p,cV m t D (bK m (bh m t D d p)).c)
section
variable{m t D:Nat}{d p:ae}
theorem ab8(h:e9 (dR (bh m t D d p))=true):hF m t D d p=some (d,p,[]):=by unfold hF;rw[if_pos h]
theorem ajR(h:e9 (dR (bh m t D d p))=false)(aa:qG t (bK m (bh m t D d p))=false)(ab:¬(cV m t D (bK m (bh m t D d p)).c).length≠(bK m (bh m t D d p)).L):hF m t D d p=some ((cV m t D (bK m (bh m t D d p)).c).foldl (fun a k=>jZ m t k a) d,(cV m t D (bK m (bh m t D d p)).c).foldl (fun a k=>jP m t k a) p,cV m t D (bK m (bh m t D d p)).c):=by
 unfold hF;rw[az (by simp[h]),az (by simp[aa]),az ab]
end
end Go.Proofs.YtcgjepodnfjggaaGreatDoor
end
section
namespace Go.Proofs.YtcgjepodnfjggaaGreatDoor
open Go Go.a6 Go.cv
set_option maxRecDepth 100000
def gP(a b c d:aV)(n:Nat)(e:aV)(f:Bool):cJ:= #[a,b,c,d,.int .i64 (n:Nat),e,.bool f]
def bE(z:aN×Nat)(n:Nat):aV:=.slice z.1 n z.2
def eN:aV:=.slice none 0 0
structure nj(F:Nat→Prop)(dd bT m t D:Nat)(q:gH)(w:ao):Prop where
 mt:e3 m t
 n1:D≤2048
 d:∀ar,Fr F w ar→Has (aE dd 147 #[.pointer (some ⟨bT,0,none⟩)]) ar
 c:∀ar,Fr F w ar→Has (j8 bT m t D q) ar
theorem nj.awf{F:Nat→Prop}{dd bT m t D:Nat}{q:gH}{w ar:ao}(h:nj F dd bT m t D q w)(aI:Fr F w ar):nj F dd bT m t D q ar:=⟨h.mt,h.n1,fun aZ ab=>h.d aZ (aI.trans ab),fun aZ ab=>h.c aZ (aI.trans ab)⟩
theorem nj.f{F:Nat→Prop}{dd bT m t D:Nat}{q:gH}{w:ao}(h:nj F dd bT m t D q w):∀ar,Fr F w ar→Has (fL q.f m) ar:=fun ar aI=>(sY (h.c ar aI)).2.2.2.1
theorem nj.cell{F:Nat→Prop}{dd bT m t D:Nat}{q:gH}{w ar:ao}(h:nj F dd bT m t D q w)(aI:Fr F w ar):ar.cell? ⟨dd,0,none⟩=some (.pointer (some ⟨bT,0,none⟩)):=(h.d ar aI).fI (j:=0) rfl
theorem adK(F:Nat→Prop)(dd iZ bT m t D:Nat)(q:gH)(gC z2:aN×Nat)(p ay:ae)(mm oM rE:aV)(j9:Nat)(f6:Bool)(w:ao)(aW:nj F dd bT m t D q w)(aG:∀x∈p,x<256)(fF:∀x∈ay,x<256)(o7:p.length=D)(eX:ay.length=aY m t)(l8:p.length≤gC.2)(cR:ay.length≤z2.2)(aj:∀ar,Fr F w ar→Has (aP 1 gC.1 p.length (aA .u8 p)) ar)(eU:∀ar,Fr F w ar→Has (aP 1 z2.1 ay.length (aA .u8 ay)) ar)(hw:au F w [aE iZ 212 (gP (bE gC p.length) (bE z2 ay.length) (mm) (oM) (j9) (rE) (f6))] w):s5 Tryz.prog 113 [.pointer (some ⟨dd,0,none⟩),.pointer (some ⟨iZ,0,none⟩)] F w (X:=aN×Nat) (fun _=>.nilIface) (fun z=>(bh m t D p ay).length≤z.2) (fun z=>[own 3 1 z.1 (bh m t D p ay).length z.2 (aA .i64 (bh m t D p ay)),aE iZ 212 (gP (bE gC p.length) (bE z2 ay.length) (bE z (bh m t D p ay).length) (oM) (j9) (rE) (e9 (dR (bh m t D p ay))))]):=by
 have ca:=aW.mt;have J7:=aW.n1;have rH:=aW.mt.o0;have hf:(bh m t D p ay).length=2*t:=qd _ _ _;have ahV:=aW.mt.t40;refine pP Tryz.func113 I Tryz.ntmps113 I hw<|J.aw 1 I<|ak I I<|U.next ?_;refine J.cut (G:=aN×Nat) (fun _=>[(0,.pointer (some ⟨dd,0,none⟩)),(1,.pointer (some ⟨iZ,0,none⟩)),(4,.nilIface)]) (fun z=>au F w [own 3 1 z.1 (bh m t D p ay).length z.2 (aA .i64 (bh m t D p ay)),aE iZ 212 (gP (bE gC p.length) (bE z2 ay.length) (bE z (bh m t D p ay).length) (oM) (j9) (rE) (f6))]) (fun z=>(bh m t D p ay).length≤z.2) ?_ ?_
 ·refine J.dQ (bW [0,1,2,3,4,5,6,7,9,10,11] (.hp 8 (cj [12,13] (bW [14,15,16,17,18] (cj [19] (bW [20] .done)))) (cj [12,8,13] (bW [14,15,16,17,18] (cj [19] (bW [20] .done)))))) (au F w []) mixed (by kernel_rfl) (fun _ h=>h.drew) (fun _ h=>h.pick [] I)<|ac I I<|ac I I<|bI I I<|bd I I<|dc I I (v:=.pointer (some ⟨bT,0,none⟩)) (fun _ hw=>aW.cell hw.b6)<|ac I I<|bI I I<|bd I I<|ac I I<|bI I I<|bd I I ?_;refine U.hp ?_ ?_
  ·refine cm 0 I I I (v:=bE gC p.length) I<|cm 0 I I I (v:=bE z2 ay.length) I<|dh I I I I (X:=aN×Nat) (v:=fun z=>two (bE z (bh m t D p ay).length) .nilIface) (pf:=fun z=>(bh m t D p ay).length≤z.2) (dv:=fun z=>[own 3 1 z.1 (bh m t D p ay).length z.2 (aA .i64 (bh m t D p ay))]) (fun aZ bG=>abK bT m t D q gC.1 p.length gC.2 p z2.1 ay.length z2.2 ay aZ ca J7 (aW.c aZ bG.b6) (aj aZ bG.b6) aG (by omega) l8 (eU aZ bG.b6) fF (by omega) cR o7 eX) (fun _ h=>h.pick [] I)<|fun z aL=>ac I I<|cB I I I<|cB I I I<|bI I I<|bd I I<|eh 1 I I I I I (by show 2<7;decide) (fun _ h=>h.pick [] rfl)<|ak rfl rfl<|U.end_ ?_;exact al.join z ⟨I,I,I,trivial⟩ (fun _ h=>h) aL
  ·refine cm 0 I I I (v:=bE z2 ay.length) I<|cm 0 I I I (v:=bE gC p.length) I<|dh I I I I (X:=aN×Nat) (v:=fun z=>two (bE z (bh m t D p ay).length) .nilIface) (pf:=fun z=>(bh m t D p ay).length≤z.2) (dv:=fun z=>[own 3 1 z.1 (bh m t D p ay).length z.2 (aA .i64 (bh m t D p ay))]) (fun aZ bG=>abK bT m t D q gC.1 p.length gC.2 p z2.1 ay.length z2.2 ay aZ ca J7 (aW.c aZ bG.b6) (aj aZ bG.b6) aG (by omega) l8 (eU aZ bG.b6) fF (by omega) cR o7 eX) (fun _ h=>h.pick [] I)<|fun z aL=>ac I I<|cB I I I<|cB I I I<|bI I I<|bd I I<|eh 1 I I I I I (by show 2<7;decide) (fun _ h=>h.pick [] rfl)<|ak rfl rfl<|U.end_ ?_;exact al.join z ⟨I,I,I,trivial⟩ (fun _ h=>h) aL
 ·intro z aL;have aL:(bh m t D p ay).length≤z.2:=aL;refine J.aw 13 I<|ac I I<|ac I I<|Ak I I<|ac I I<|ac I I<|bI I I<|bd I I<|cm 1 I I I (v:=bE z (bh m t D p ay).length) I<|bJ I I I I (fun w hw=>arA z.1 (bh m t D p ay).length z.2 (dR (bh m t D p ay)) w (Has.gK ((hw.has (i:=0) I).dw) (GJ _ _).symm) (by omega)) aJ<|fe I I I<|bI I I<|bd I I<|eh 1 I I I I I (by show 6<7;decide) aJ<|U.bl 2 rfl<|ac rfl rfl<|ak rfl rfl<|U.next<|J.ret ?_;exact al.ret Tryz.results113 I (fun w hw=>⟨z,I,aL,hw⟩)
theorem aaU(g m:Nat)(A:aN)(c:Nat)(s:ae)(w:ao)(hm:Ok m)(aI:Has (fL g m) w)(aj:Has (aP 1 A s.length (aA .i64 s)) w)(aQ:s.length≤80)(gL:s.length≤c):
  fh Tryz.prog 150 [.pointer (some ⟨g,0,none⟩),.slice A s.length c] w (X:=aN×Nat) (fun y=>two (bE y (bK m s).c.length) (.int .i64 ((bK m s).L:Nat))) (fun y=>(bK m s).c.length≤y.2) (fun y=>[own 3 1 y.1 (bK m s).c.length y.2 (aA .i64 (bK m s).c)]):=by
 have h:=ak7 g m A c (dR s) w hm aI (by rw[qh];exact Has.gK aj (GJ _ _).symm) (by rw[qh];omega) (by rw[qh];exact gL);rw[qh] at h;exact h
theorem QN(g m:Nat)(A:aN)(c:Nat)(s:ae)(b:Nat)(w:ao)(hm:Ok m)(aI:Has (fL g m) w)(aj:Has (aP 1 A s.length (aA .i64 s)) w)(aQ:s.length≤2048)(gL:s.length≤c):
  fh Tryz.prog 153 [.pointer (some ⟨g,0,none⟩),.slice A s.length c,.int .i64 (b:Nat)] w (X:=aN×Nat) (fun y=>bE y (gM (fR m (bz m (dR s))) (min (b:Int) (N m:Nat)).toNat).length) (fun y=>(gM (fR m (bz m (dR s))) (min (b:Int) (N m:Nat)).toNat).length≤y.2) (fun y=>[own 3 1 y.1 (gM (fR m (bz m (dR s))) (min (b:Int) (N m:Nat)).toNat).length y.2 (aA .i64 (gM (fR m (bz m (dR s))) (min (b:Int) (N m:Nat)).toNat))]):=by
 have h:=asH g m A c (dR s) (b:Nat) w hm aI (by rw[qh];exact Has.gK aj (GJ _ _).symm) (by rw[qh];omega) (by rw[qh];exact gL);rw[qh] at h;exact h
theorem ans(v:Nat→Nat)(n:Nat):(gM v n).length≤n:=by
 unfold gM;have:=EF (fun k=>v k==0) (List.range n);rw[GN] at this;exact this
theorem Ou{m t D:Nat}(c:ae):(cV m t D c).length≤8*D+aR m t:=by
 have:=ans (fR m (bz m (dR c))) (min ((8*D+aR m t:Nat):Int) (N m:Nat)).toNat;unfold cV;omega
theorem ae1{m t D:Nat}{c:ae}{k:Nat}(h:k∈cV m t D c):k<8*D+aR m t:=by
 have:=(Jx.1 h).1;omega
theorem aaI(F:Nat→Prop)(dd iZ bT m t D:Nat)(q:gH)(z:aN×Nat)(s:ae)(s1 s2 oM rE:aV)(j9:Nat)(f6:Bool)(e:Nat→Addr)(w:ao)(aW:nj F dd bT m t D q w)(Mq:s.length≤80)(pR:s.length≤z.2)(aj:∀ar,Fr F w ar→Has (aP 1 z.1 s.length (aA .i64 s)) ar)(JC:∀ar,Fr F w ar→gI e ar 10)(hw:au F w [aE iZ 212 (gP (s1) (s2) (bE z s.length) (oM) (j9) (rE) (f6))] w):s5 Tryz.prog 114 [.pointer (some ⟨dd,0,none⟩),.pointer (some ⟨iZ,0,none⟩)] F w (X:=aN×Nat) (fun _=>if qG t (bK m s)=true then mJ e 10 else .nilIface) (fun y=>((bK m s).c).length≤y.2) (fun y=>[own 3 1 y.1 ((bK m s).c).length y.2 (aA .i64 ((bK m s).c)),aE iZ 212 (gP s1 s2 (bE z s.length) (bE y ((bK m s).c).length) (bK m s).L rE f6)]):=by
 have hi:=Sf aW.mt.ok s;have gr:=hi.q2;have KN:=hi.B0;have ax2:=aW.mt.t40;refine pP Tryz.func114 I Tryz.ntmps114 I hw<|J.aw 1 I<|ak I I<|U.next ?_;refine J.cut (G:=aN×Nat) (fun _=>[(0,.pointer (some ⟨dd,0,none⟩)),(1,.pointer (some ⟨iZ,0,none⟩))]) (fun y=>au F w [own 3 1 y.1 ((bK m s).c).length y.2 (aA .i64 ((bK m s).c)),aE iZ 212 (gP s1 s2 (bE z s.length) (bE y ((bK m s).c).length) (bK m s).L rE f6)]) (fun y=>((bK m s).c).length≤y.2) ?_ ?_
 ·refine J.dQ (bW [0,1,2,3,4,5,7,8,9] (.hp 6 (cj [10,11] (bW [12,13,14,15,16] (cj [17] (bW [18,19] (cj [20] .done))))) (cj [10,6,11] (bW [12,13,14,15,16] (cj [17] (bW [18,19] (cj [20] .done))))))) (au F w []) mixed (by kernel_rfl) (fun _ h=>h.drew) (fun _ h=>h.pick [] I)<|ac I I<|ac I I<|ac I I<|bI I I<|bd I I<|dc I I (v:=.pointer (some ⟨bT,0,none⟩)) (fun _ hw=>aW.cell hw.b6)<|ac I I<|bI I I<|bd I I ?_;refine U.hp ?_ ?_
  ·refine bJ I I I I (fun w hw=>DB bT m t D q w (aW.c w hw.b6)) (fun _ h=>h.pick [] I)<|cm 0 I I I (v:=bE z s.length) I<|dh I I I I (X:=aN×Nat) (v:=fun z=>two (bE z ((bK m s).c).length) (.int .i64 ((bK m s).L:Nat))) (pf:=fun z=>((bK m s).c).length≤z.2) (dv:=fun z=>[own 3 1 z.1 ((bK m s).c).length z.2 (aA .i64 ((bK m s).c))]) (fun aZ bG=>aaU q.f m z.1 z.2 s aZ aW.mt.ok (aW.f aZ bG.b6) (aj aZ bG.b6) Mq pR) (fun _ h=>h.pick [] I)<|fun y aF=>ac I I<|cB I I I<|cB I I I<|bI I I<|bd I I<|eh 1 I I I I I (by show 3<7;decide) (fun _ h=>h.pick [] rfl)<|bI rfl rfl<|bd rfl rfl<|eh 1 rfl rfl rfl rfl rfl (by show 4<7;decide) (fun _ h=>h.pick [] rfl)<|U.end_ ?_;exact al.join y ⟨I,I,trivial⟩ (fun _ h=>h) aF
  ·refine cm 0 I I I (v:=bE z s.length) I<|bJ I I I I (fun w hw=>DB bT m t D q w (aW.c w hw.b6)) (fun _ h=>h.pick [] I)<|dh I I I I (X:=aN×Nat) (v:=fun z=>two (bE z ((bK m s).c).length) (.int .i64 ((bK m s).L:Nat))) (pf:=fun z=>((bK m s).c).length≤z.2) (dv:=fun z=>[own 3 1 z.1 ((bK m s).c).length z.2 (aA .i64 ((bK m s).c))]) (fun aZ bG=>aaU q.f m z.1 z.2 s aZ aW.mt.ok (aW.f aZ bG.b6) (aj aZ bG.b6) Mq pR) (fun _ h=>h.pick [] I)<|fun y aF=>ac I I<|cB I I I<|cB I I I<|bI I I<|bd I I<|eh 1 I I I I I (by show 3<7;decide) (fun _ h=>h.pick [] rfl)<|bI rfl rfl<|bd rfl rfl<|eh 1 rfl rfl rfl rfl rfl (by show 4<7;decide) (fun _ h=>h.pick [] rfl)<|U.end_ ?_;exact al.join y ⟨I,I,trivial⟩ (fun _ h=>h) aF
 ·intro y aF;have aF:((bK m s).c).length≤y.2:=aF;refine J.seq<|J.seq<|J.dQ (bW [0,1,2,3,4,5,6,7] (cj [8] (bW [9,10,11,12,13,14,15,16,17,18,19,20,21,22] .done))) (au F w [own 3 1 y.1 ((bK m s).c).length y.2 (aA .i64 ((bK m s).c)),aE iZ 212 (gP s1 s2 (bE z s.length) (bE y ((bK m s).c).length) (bK m s).L rE f6)]) mixed (by kernel_rfl) (fun _ h=>h.drew) (fun _ h=>h)<|ac I I<|bI I I<|bd I I<|dc I I (v:=.int .i64 ((bK m s).L:Nat)) (fun _ hw=>hw.cP (i:=1) I I)<|ac I I<|bI I I<|bd I I<|dc I I (v:=.pointer (some ⟨bT,0,none⟩)) (fun _ hw=>aW.cell hw.b6)<|bJ I I I I (fun w hw=>V3 bT m t D q w (aW.c w hw.b6)) (fun _ h=>h)<|fD I I I I<|ac I I ?_;refine U.bool 34 I (fun ad=>?_) (fun ad=>?_)
  ·have aM:=gF ad;have tY:qG t (bK m s)=true:=ek (.inl (by omega));exact U.skip I<|U.skip I<|U.skip I<|U.skip I<|U.skip I<|U.skip I<|U.skip I<|U.skip I<|U.skip I<|U.skip I<|U.skip I<|fe I I I<|U.next<|J.hH I<|J.aw 2 I<|c5 I I (fun _ hw=>JC _ hw.b6)<|ak I I<|U.next<|J.ret<|al.ret Tryz.results114 I (fun w hw=>⟨y,by rw[aD tY];rfl,aF,hw⟩)
  ·have aM:=jG ad;refine ac I I<|bI I I<|bd I I<|dc I I (v:=bE y ((bK m s).c).length) (fun _ hw=>hw.cP (i:=1) I I)<|cf I I<|eB I I I (bm (by omega))<|ac I I<|bI I I<|bd I I<|dc I I (v:=.int .i64 ((bK m s).L:Nat)) (fun _ hw=>hw.cP (i:=1) I I)<|jT I I I I<|ef I I I<|U.next ?_;refine J.test I (fun hD=>?_) (fun hD=>?_)
   ·have tY:qG t (bK m s)=true:=ek (.inr (by omega));exact J.aw 2 I<|c5 I I (fun _ hw=>JC _ hw.b6)<|ak I I<|U.next<|J.ret<|al.ret Tryz.results114 I (fun w hw=>⟨y,by rw[aD tY];rfl,aF,hw⟩)
   ·have O1:¬qG t (bK m s)=true:=by
     intro h;rcases gF h with h|h<;>omega
    exact J.skip<|al.code<|J.aw 1 I<|ak I I<|U.next<|J.ret<|al.ret Tryz.results114 I (fun w hw=>⟨y,by rw[az O1];rfl,aF,hw⟩)
theorem Xw(F:Nat→Prop)(dd iZ bT m t D:Nat)(q:gH)(z:aN×Nat)(s:ae)(s1 s2 mm rE:aV)(j9:Nat)(f6:Bool)(e:Nat→Addr)(w:ao)(aW:nj F dd bT m t D q w)(Mq:s.length≤81)(pR:s.length≤z.2)(aj:∀ar,Fr F w ar→Has (aP 1 z.1 s.length (aA .i64 s)) ar)(JC:∀ar,Fr F w ar→gI e ar 10)(hw:au F w [aE iZ 212 (gP s1 s2 mm (bE z s.length) j9 rE f6)] w):s5 Tryz.prog 115 [.pointer (some ⟨dd,0,none⟩),.pointer (some ⟨iZ,0,none⟩)] F w (X:=aN×Nat) (fun _=>if(cV m t D s).length≠j9 then mJ e 10 else .nilIface) (fun y=>(cV m t D s).length≤y.2) (fun y=>[own 3 1 y.1 (cV m t D s).length y.2 (aA .i64 (cV m t D s)),aE iZ 212 (gP s1 s2 mm (bE z s.length) j9 (bE y (cV m t D s).length) f6)]):=by
 have iQ:=Ou (m:=m) (t:=t) (D:=D) s;have uW:=aW.mt.mW;have J7:=aW.n1;refine pP Tryz.func115 I Tryz.ntmps115 I hw<|J.aw 1 I<|ak I I<|U.next ?_;refine J.cut (G:=aN×Nat) (fun _=>[(0,.pointer (some ⟨dd,0,none⟩)),(1,.pointer (some ⟨iZ,0,none⟩))]) (fun y=>au F w [own 3 1 y.1 (cV m t D s).length y.2 (aA .i64 (cV m t D s)),aE iZ 212 (gP s1 s2 mm (bE z s.length) j9 (bE y (cV m t D s).length) f6)]) (fun y=>(cV m t D s).length≤y.2) ?_ ?_
 ·refine J.dQ (bW [0,1,2,3,4,6,7,8,10,11,12,13] (.hp 5 (.hp 9 (cj [14,15] (bW [16,17] (cj [18] .done))) (cj [14,9,15] (bW [16,17] (cj [18] .done)))) (cj [9,5,14,15] (bW [16,17] (cj [18] .done))))) (au F w []) mixed (by kernel_rfl) (fun _ h=>h.drew) (fun _ h=>h.pick [] I)<|ac I I<|ac I I<|bI I I<|bd I I<|dc I I (v:=.pointer (some ⟨bT,0,none⟩)) (fun _ hw=>aW.cell hw.b6)<|ac I I<|bI I I<|bd I I<|ac I I<|bI I I<|bd I I<|dc I I (v:=.pointer (some ⟨bT,0,none⟩)) (fun _ hw=>aW.cell hw.b6) ?_;refine U.hp ?_ ?_
  ·refine bJ I I I I (fun w hw=>DB bT m t D q w (aW.c w hw.b6)) (fun _ h=>h.pick [] I) ?_;refine U.hp ?_ ?_
   ·refine cm 0 I I I (v:=bE z s.length) I<|bJ I I I I (fun w hw=>Ee bT m t D q w aW.mt aW.n1 (aW.c w hw.b6)) (fun _ h=>h.pick [] I)<|dh I I I I (X:=aN×Nat) (v:=fun z=>bE z (cV m t D s).length) (pf:=fun z=>(cV m t D s).length≤z.2) (dv:=fun z=>[own 3 1 z.1 (cV m t D s).length z.2 (aA .i64 (cV m t D s))]) (fun aZ bG=>QN q.f m z.1 z.2 s (8*D+aR m t) aZ aW.mt.ok (aW.f aZ bG.b6) (aj aZ bG.b6) (by omega) pR) (fun _ h=>h.pick [] I)<|fun y aF=>bI I I<|bd I I<|eh 1 I I I I I (by show 5<7;decide) (fun _ h=>h.pick [] rfl)<|U.end_ ?_;exact al.join y ⟨I,I,trivial⟩ (fun _ h=>h) aF
   ·refine bJ I I I I (fun w hw=>Ee bT m t D q w aW.mt aW.n1 (aW.c w hw.b6)) (fun _ h=>h.pick [] I)<|cm 0 I I I (v:=bE z s.length) I<|dh I I I I (X:=aN×Nat) (v:=fun z=>bE z (cV m t D s).length) (pf:=fun z=>(cV m t D s).length≤z.2) (dv:=fun z=>[own 3 1 z.1 (cV m t D s).length z.2 (aA .i64 (cV m t D s))]) (fun aZ bG=>QN q.f m z.1 z.2 s (8*D+aR m t) aZ aW.mt.ok (aW.f aZ bG.b6) (aj aZ bG.b6) (by omega) pR) (fun _ h=>h.pick [] I)<|fun y aF=>bI I I<|bd I I<|eh 1 I I I I I (by show 5<7;decide) (fun _ h=>h.pick [] rfl)<|U.end_ ?_;exact al.join y ⟨I,I,trivial⟩ (fun _ h=>h) aF
  ·refine cm 0 I I I (v:=bE z s.length) I<|bJ I I I I (fun w hw=>DB bT m t D q w (aW.c w hw.b6)) (fun _ h=>h.pick [] I)<|bJ I I I I (fun w hw=>Ee bT m t D q w aW.mt aW.n1 (aW.c w hw.b6)) (fun _ h=>h.pick [] I)<|dh I I I I (X:=aN×Nat) (v:=fun z=>bE z (cV m t D s).length) (pf:=fun z=>(cV m t D s).length≤z.2) (dv:=fun z=>[own 3 1 z.1 (cV m t D s).length z.2 (aA .i64 (cV m t D s))]) (fun aZ bG=>QN q.f m z.1 z.2 s (8*D+aR m t) aZ aW.mt.ok (aW.f aZ bG.b6) (aj aZ bG.b6) (by omega) pR) (fun _ h=>h.pick [] I)<|fun y aF=>bI I I<|bd I I<|eh 1 I I I I I (by show 5<7;decide) (fun _ h=>h.pick [] rfl)<|U.end_ ?_;exact al.join y ⟨I,I,trivial⟩ (fun _ h=>h) aF
 ·intro y aF;have aF:(cV m t D s).length≤y.2:=aF;refine J.seq<|J.seq<|J.dQ (bW [0,1,2,3,4,5,6,7,8,9] .done) (au F w [own 3 1 y.1 (cV m t D s).length y.2 (aA .i64 (cV m t D s)),aE iZ 212 (gP s1 s2 mm (bE z s.length) j9 (bE y (cV m t D s).length) f6)]) mixed (by kernel_rfl) (fun _ h=>h.drew) (fun _ h=>h)<|ac I I<|bI I I<|bd I I<|dc I I (v:=bE y (cV m t D s).length) (fun _ hw=>hw.cP (i:=1) I I)<|cf I I<|ac I I<|bI I I<|bd I I<|dc I I (v:=.int .i64 (j9:Nat)) (fun _ hw=>hw.cP (i:=1) I I)<|jT I I I I<|U.next ?_;refine J.test I (fun ag=>?_) (fun ag=>?_)
  ·have tY:(cV m t D s).length≠j9:=by omega
   exact J.aw 2 I<|c5 I I (fun _ hw=>JC _ hw.b6)<|ak I I<|U.next<|J.ret<|al.ret Tryz.results115 I (fun w hw=>⟨y,by rw[aD tY];rfl,aF,hw⟩)
  ·have O1:¬(cV m t D s).length≠j9:=by omega
   exact J.skip<|al.code<|J.aw 1 I<|ak I I<|U.next<|J.ret<|al.ret Tryz.results115 I (fun w hw=>⟨y,by rw[az O1];rfl,aF,hw⟩)
def lC(m t:Nat)(pl:ae)(i:Nat)(d:ae):ae:=(pl.take i).foldl (fun a k=>jZ m t k a) d
def ly(m t:Nat)(pl:ae)(i:Nat)(p:ae):ae:=(pl.take i).foldl (fun a k=>jP m t k a) p
theorem NB{l:ae}{i:Nat}(h:i<l.length):l.take (i+1)=l.take i++[ap l i]:=by
 rw[pN,eF h];have:ap l i=l[i]:=by unfold ap;rw[eM,eF h];rfl
 rw[this];rfl
theorem anx{m t:Nat}{pl:ae}{i:Nat}(h:i<pl.length)(d:ae):jZ m t (ap pl i) (lC m t pl i d)=lC m t pl (i+1) d:=by unfold lC;rw[NB h,List.foldl_append];rfl
theorem am4{m t:Nat}{pl:ae}{i:Nat}(h:i<pl.length)(p:ae):jP m t (ap pl i) (ly m t pl i p)=ly m t pl (i+1) p:=by unfold ly;rw[NB h,List.foldl_append];rfl
theorem Aa(m t:Nat):∀(l d:ae),(l.foldl (fun a k=>jZ m t k a) d).length=d.length
 |[],_=>rfl
 |k::l,d=>by rw[rc,Aa m t l,Mo]
theorem Lp(m t:Nat):∀(l d:ae),(l.foldl (fun a k=>jP m t k a) d).length=d.length
 |[],_=>rfl
 |k::l,d=>by rw[rc,Lp m t l,OX]
theorem Ig{m t:Nat}:∀(l:ae) {d:ae},(∀x∈d,x<256)→∀x∈l.foldl (fun a k=>jZ m t k a) d,x<256
 |[],_,h=>h
 |k::l,_,h=>Ig l (ale h m t k)
theorem Tr{m t:Nat}:∀(l:ae) {d:ae},(∀x∈d,x<256)→∀x∈l.foldl (fun a k=>jP m t k a) d,x<256
 |[],_,h=>h
 |k::l,_,h=>Tr l (afO h m t k)
theorem Xe{f:dn}{args:cw}{w:ao}{a b:ae}{n k:Nat}(hlfd:a.length=n)(hlfp:b.length=k)
  (h:fh Tryz.prog f args w (X:=(aN×Nat)×(aN×Nat)) (fun z=>xL (.slice z.1.1 a.length z.1.2) (.slice z.2.1 b.length z.2.2) .nilIface) (fun z=>a.length≤z.1.2∧b.length≤z.2.2) (fun z=>[own 5 1 z.1.1 a.length z.1.2 (aA .u8 a),own 5 1 z.2.1 b.length z.2.2 (aA .u8 b)])):
  fh Tryz.prog f args w (X:=(aN×Nat)×(aN×Nat)) (fun g=>xL (bE g.1 n) (bE g.2 k) .nilIface) (fun _=>True) (fun g=>[own 5 1 g.1.1 n g.1.2 (aA .u8 a),own 5 1 g.2.1 k g.2.2 (aA .u8 b)]):=by
 subst hlfd hlfp;exact Calls.mono h (fun e ar ⟨x,aa,_,an⟩=>⟨x,aa,trivial,an⟩)
theorem afg(F:Nat→Prop)(dd iZ bT m t D:Nat)(q:gH)(z gC z2:aN×Nat)(p ay pl:ae)(mm oM:aV)(j9:Nat)(f6:Bool)(w:ao)(aW:nj F dd bT m t D q w)(aG:∀x∈p,x<256)(fF:∀x∈ay,x<256)(o7:p.length=D)(eX:ay.length=aY m t)(iQ:∀k∈pl,k<8*D+aR m t)(abb:pl.length≤100000)(aj:∀ar,Fr F w ar→Has (aP 1 z.1 pl.length (aA .i64 pl)) ar)(hw:au F w [aE iZ 212 (gP (bE gC p.length) (bE z2 ay.length) mm oM j9 (bE z pl.length) f6),own 5 1 gC.1 p.length gC.2 (aA .u8 (p)),own 5 1 z2.1 ay.length z2.2 (aA .u8 (ay))] w):s5 Tryz.prog 116 [.pointer (some ⟨dd,0,none⟩),.pointer (some ⟨iZ,0,none⟩)] F w (X:=(aN×Nat)×(aN×Nat)) (fun _=>.nilIface) (fun _=>True) (fun y=>[aE iZ 212 (gP (bE y.1 p.length) (bE y.2 ay.length) mm oM j9 (bE z pl.length) f6),own 5 1 y.1.1 p.length y.1.2 (aA .u8 (lC m t pl pl.length p)),own 5 1 y.2.1 ay.length y.2.2 (aA .u8 (ly m t pl pl.length ay))]):=by
 have rH:=aW.mt.o0;have J7:=aW.n1;refine pP Tryz.func116 I Tryz.ntmps116 I hw<|J.aw 1 I<|ak I I<|U.next<|J.seq<|J.aw 6 I<|ac I I<|bI I I<|bd I I<|cm 0 I I I (v:=bE z pl.length) I<|cf I I<|ac I I<|U.next<|J.block<|J.loop (G:=Nat×(aN×Nat)×(aN×Nat)) (fun g=>[(0,.pointer (some ⟨dd,0,none⟩)),(1,.pointer (some ⟨iZ,0,none⟩)),(10,bE z pl.length),(11,.int .i64 (pl.length:Nat)),(12,.int .i64 (g.1:Nat))]) (fun g=>au F w [aE iZ 212 (gP (bE g.2.1 p.length) (bE g.2.2 ay.length) mm oM j9 (bE z pl.length) f6),own 5 1 g.2.1.1 p.length g.2.1.2 (aA .u8 (lC m t pl g.1 p)),own 5 1 g.2.2.1 ay.length g.2.2.2 (aA .u8 (ly m t pl g.1 ay))]) (fun g=>g.1≤pl.length) (fun g=>pl.length- g.1) (0,gC,z2) ⟨I,I,I,I,I,trivial⟩ (fun _ h=>h) (dg _) ?_;rintro⟨i,ep,eV⟩ hi;have hi:i≤pl.length:=hi;have ZG:(lC m t pl i p).length=p.length:=Aa m t _ _;have akE:(ly m t pl i ay).length=ay.length:=Lp m t _ _;have R0:∀x∈lC m t pl i p,x<256:=Ig _ aG;have Wq:∀x∈ly m t pl i ay,x<256:=Tr _ fF;refine J.aw 1 I<|cQ I I I I<|U.next<|J.seq ?_;refine J.test I (fun ag=>?_) (fun ag=>?_)
 ·have gG:i<pl.length:=by omega
  have ah:ap pl i<8*D+aR m t:=iQ _ (by unfold ap;rw[eM,eF gG];exact sN gG);have pd:jZ m t (ap pl i) (lC m t pl i p)=_:=anx gG p;have Y4:jP m t (ap pl i) (ly m t pl i ay)=_:=am4 gG ay;have hlfd:(jZ m t (ap pl i) (lC m t pl i p)).length=p.length:=by rw[Mo,ZG]
  have hlfp:(jP m t (ap pl i) (ly m t pl i ay)).length=ay.length:=by rw[OX,akE]
  refine J.skip<|al.code<|J.seq<|J.block<|J.aw 3 I<|fH i (fun w hw=>aj w hw.b6) I I I I (by omega)<|jN (fun w hw=>aj w hw.b6) I I (v:=.int .i64 (ap pl i:Nat)) (by rw[dJ];exact Ez gG) (by omega)<|ak I I<|U.next ?_;refine J.cut (G:=(aN×Nat)×(aN×Nat)) (fun _=>[(0,.pointer (some ⟨dd,0,none⟩)),(1,.pointer (some ⟨iZ,0,none⟩)),(4,.nilIface),(10,bE z pl.length),(11,.int .i64 (pl.length:Nat)),(12,.int .i64 (i:Nat))]) (fun g=>au F w [aE iZ 212 (gP (bE g.1 p.length) (bE g.2 ay.length) mm oM j9 (bE z pl.length) f6),own 5 1 g.1.1 p.length g.1.2 (aA .u8 (lC m t pl (i+1) p)),own 5 1 g.2.1 ay.length g.2.2 (aA .u8 (ly m t pl (i+1) ay))]) (fun _=>True) ?_ ?_
  ·refine J.dQ (bW [0,1,2,3,4,5,6,7,8,10,11,12,14] (.hp 9 (cj [13,15] (bW [16,17,18,19,20,21] (cj [22] (bW [23,24] (cj [25] (bW [26] .done)))))) (cj [13,9,15] (bW [16,17,18,19,20,21] (cj [22] (bW [23,24] (cj [25] (bW [26] .done)))))))) (au F w []) mixed (by kernel_rfl) (fun _ h=>h.drew) (fun _ h=>h.pick [] I)<|ac I I<|ac I I<|ac I I<|bI I I<|bd I I<|dc I I (v:=.pointer (some ⟨bT,0,none⟩)) (fun _ hw=>aW.cell hw.b6)<|ac I I<|bI I I<|bd I I<|ac I I<|bI I I<|bd I I<|ac I I ?_;refine U.hp ?_ ?_
   ·exact cm 0 I I I (v:=bE ep p.length) I<|cm 0 I I I (v:=bE eV ay.length) I<|dh I I I I (X:=(aN×Nat)×(aN×Nat)) (v:=fun g=>xL (bE g.1 p.length) (bE g.2 ay.length) .nilIface) (pf:=fun g=>True) (dv:=fun g=>[own 5 1 g.1.1 p.length g.1.2 (aA .u8 (jZ m t (ap pl i) (lC m t pl i p))),own 5 1 g.2.1 ay.length g.2.2 (aA .u8 (jP m t (ap pl i) (ly m t pl i ay)))]) (fun aZ bG=>Xe (hlfd:=hlfd) (hlfp:=hlfp) (T7 bT m t D q ep.1 p.length ep.2 (lC m t pl i p) eV.1 ay.length eV.2 (ly m t pl i ay) (ap pl i) aZ aW.mt aW.n1 (aW.c aZ bG.b6) ((bG.has (i:=1) I).dw) R0 (by omega) (Has.ms (bG.has (i:=1) I)).2.1 ((bG.has (i:=2) I).dw) Wq (by omega) (Has.ms (bG.has (i:=2) I)).2.1 o7 eX ah)) (fun _ h=>h.pick [] I)<|fun g _=>ac I I<|cB I I I<|cB I I I<|cB I I I<|bI I I<|bd I I<|eh 2 I I I I I (by show 0<7;decide) (fun _ h=>h.pick [] rfl)<|bI rfl rfl<|bd rfl rfl<|eh 2 rfl rfl rfl rfl rfl (by show 1<7;decide) (fun _ h=>h.pick [] rfl)<|ak rfl rfl<|U.end_<|al.join g ⟨rfl,rfl,rfl,rfl,rfl,rfl,trivial⟩ (fun _ h=>by rw[pd,Y4] at h;exact h.pick [2,0,0] I) trivial
   ·exact cm 0 I I I (v:=bE eV ay.length) I<|cm 0 I I I (v:=bE ep p.length) I<|dh I I I I (X:=(aN×Nat)×(aN×Nat)) (v:=fun g=>xL (bE g.1 p.length) (bE g.2 ay.length) .nilIface) (pf:=fun g=>True) (dv:=fun g=>[own 5 1 g.1.1 p.length g.1.2 (aA .u8 (jZ m t (ap pl i) (lC m t pl i p))),own 5 1 g.2.1 ay.length g.2.2 (aA .u8 (jP m t (ap pl i) (ly m t pl i ay)))]) (fun aZ bG=>Xe (hlfd:=hlfd) (hlfp:=hlfp) (T7 bT m t D q ep.1 p.length ep.2 (lC m t pl i p) eV.1 ay.length eV.2 (ly m t pl i ay) (ap pl i) aZ aW.mt aW.n1 (aW.c aZ bG.b6) ((bG.has (i:=1) I).dw) R0 (by omega) (Has.ms (bG.has (i:=1) I)).2.1 ((bG.has (i:=2) I).dw) Wq (by omega) (Has.ms (bG.has (i:=2) I)).2.1 o7 eX ah)) (fun _ h=>h.pick [] I)<|fun g _=>ac I I<|cB I I I<|cB I I I<|cB I I I<|bI I I<|bd I I<|eh 2 I I I I I (by show 0<7;decide) (fun _ h=>h.pick [] rfl)<|bI rfl rfl<|bd rfl rfl<|eh 2 rfl rfl rfl rfl rfl (by show 1<7;decide) (fun _ h=>h.pick [] rfl)<|ak rfl rfl<|U.end_<|al.join g ⟨rfl,rfl,rfl,rfl,rfl,rfl,trivial⟩ (fun _ h=>by rw[pd,Y4] at h;exact h.pick [2,0,0] I) trivial
  ·intro g _;exact J.aw 2 I<|ac I I<|jl I I<|U.next<|J.dy I<|J.skip<|al.aE<|al.code<|J.rg 2 I<|b1 I I I (r:=((i+1:Nat):Int)) (bm (by omega))<|ac I I<|U.end_<|al.back (i+1,g.1,g.2) ⟨I,I,I,I,I,trivial⟩ (fun _ h=>h) (by show i+1≤pl.length;omega) (by show pl.length- (i+1)<pl.length- i;omega)
 ·obtain rfl:i=pl.length:=by omega
  exact J.exit I<|al.code<|J.aw 1 I<|ak I I<|U.next<|J.ret<|al.ret Tryz.results116 I (fun w hw=>⟨(ep,eV),I,trivial,hw⟩)
theorem nj.aoe{dd bT m t D:Nat}{q:gH}{w:ao}(mt:e3 m t)(n1:D≤2048)(aa:Has (aE dd 147 #[.pointer (some ⟨bT,0,none⟩)]) w)(ab:Has (j8 bT m t D q) w):nj (oj w) dd bT m t D q w:=⟨mt,n1,fun _ aI=>aa.sJ aI,fun _ aI=>ab.sJ aI⟩
theorem nj.Ap{dd bT m t D:Nat}{q:gH}{w m0:ao}{F:Nat→Prop}{R:List bi}(h:nj (oj w) dd bT m t D q w)(ah:∀ar,Fr F m0 ar→au (oj w) w R ar):nj F dd bT m t D q m0:=⟨h.mt,h.n1,fun aZ aI=>h.d aZ (ah aZ aI).b6,fun aZ aI=>h.c aZ (ah aZ aI).b6⟩
def To(e:Nat→Addr)(o:Option (ae×ae×ae))(z:(aN×Nat)×(aN×Nat)×(aN×Nat)):aV:=
 match o with
 |none=>.tuple #[eN,eN,eN,mJ e 10]
 |some (d,p,l)=>.tuple #[bE z.1 d.length,bE z.2.1 p.length,bE z.2.2 l.length,.nilIface]
def Ye(o:Option (ae×ae×ae))(z:(aN×Nat)×(aN×Nat)×(aN×Nat)):List bi:=
 match o with
 |none=>[]
 |some (d,_,_)=>[own 5 1 z.1.1 d.length z.1.2 (aA .u8 d)]
structure Em where
 ep:aN×Nat
 eV:aN×Nat
 me:aN×Nat
 d:ae
 p:ae
 l:ae
 mm:aV
 oM:aV
 j9:Nat
 f:Bool
structure Em.amL(g:Em)(n k:Nat)(o:Option (ae×ae×ae)):Prop where
 o:o=some (g.d,g.p,g.l)
 Sr:g.d.length=n
 pl:g.p.length=k
theorem ap1{m t:Nat}{p:ae}(h:0<aR m t%8):p.set (p.length- 1) (ap p (p.length- 1)%2^(aR m t%8))=bj m t p:=by unfold bj;rw[if_pos h]
theorem aq5{m t:Nat}{p:ae}(h:¬0<aR m t%8):p=bj m t p:=by unfold bj;rw[if_neg h]
theorem Sk(l:ae)(k v:Nat):(aA .u8 l).set k (.int .u8 (v:Nat))=aA .u8 (l.set k v):=by simp[aA,List.map_set]
section
variable{m t D:Nat}{d p:ae}
theorem aum(h:e9 (dR (bh m t D d p))=true):hF m t D d p=some (d,p,[]):=by unfold hF;rw[if_pos h]
theorem abz(h:e9 (dR (bh m t D d p))=false)(aa:qG t (bK m (bh m t D d p))=true):hF m t D d p=none:=by unfold hF;rw[if_neg (by simp[h]),if_pos aa]
theorem SJ(h:e9 (dR (bh m t D d p))=false)(aa:qG t (bK m (bh m t D d p))=false)(ab:(cV m t D (bK m (bh m t D d p)).c).length≠(bK m (bh m t D d p)).L):hF m t D d p=none:=by
 unfold hF;rw[az (by simp[h]),az (by simp[aa]),aD ab]
theorem arX(h:e9 (dR (bh m t D d p))=false)(aa:qG t (bK m (bh m t D d p))=false)(ab:¬(cV m t D (bK m (bh m t D d p)).c).length≠(bK m (bh m t D d p)).L):hF m t D d p=some (lC m t (cV m t D (bK m (bh m t D d p)).c) (cV m t D (bK m (bh m t D d p)).c).length d,ly m t (cV m t D (bK m (bh m t D d p)).c) (cV m t D (bK m (bh m t D d p)).c).length p,cV m t D (bK m (bh m t D d p)).c):=by
 unfold hF lC ly;rw[az (by simp[h]),az (by simp[aa]),az ab,m4]
end
noncomputable def aom(dd m t D ew h3:Nat)(p ay:ae)(g:Nat×(aN×Nat)×(aN×Nat)×(aN×Nat)×(aN×Nat)×(aN×Nat)):List bi:=
 match g.1 with
 |0=>[aE ew 213 #[.func (.func 113) #[.pointer (some ⟨dd,0,none⟩)] #[],.func (.func 114) #[.pointer (some ⟨dd,0,none⟩)] #[],.func (.func 115) #[.pointer (some ⟨dd,0,none⟩)] #[],.func (.func 116) #[.pointer (some ⟨dd,0,none⟩)] #[]],aE h3 212 (gP (bE g.2.2.2.2.1 p.length) (bE g.2.2.2.2.2 ay.length) (eN) (eN) (0) (eN) (false)),own 5 1 g.2.2.2.2.1.1 p.length g.2.2.2.2.1.2 (aA .u8 (p)),own 5 1 g.2.2.2.2.2.1 ay.length g.2.2.2.2.2.2 (aA .u8 (bj m t ay))]
 |1=>[aE ew 213 #[.func (.func 113) #[.pointer (some ⟨dd,0,none⟩)] #[],.func (.func 114) #[.pointer (some ⟨dd,0,none⟩)] #[],.func (.func 115) #[.pointer (some ⟨dd,0,none⟩)] #[],.func (.func 116) #[.pointer (some ⟨dd,0,none⟩)] #[]],aE h3 212 (gP (bE g.2.2.2.2.1 p.length) (bE g.2.2.2.2.2 ay.length) (bE g.2.1 (bh m t D p (bj m t ay)).length) (eN) (0) (eN) (e9 (dR (bh m t D p (bj m t ay))))),own 5 1 g.2.2.2.2.1.1 p.length g.2.2.2.2.1.2 (aA .u8 (p)),own 5 1 g.2.2.2.2.2.1 ay.length g.2.2.2.2.2.2 (aA .u8 (bj m t ay)),own 3 1 g.2.1.1 (bh m t D p (bj m t ay)).length g.2.1.2 (aA .i64 (bh m t D p (bj m t ay)))]
 |2=>[aE ew 213 #[.func (.func 113) #[.pointer (some ⟨dd,0,none⟩)] #[],.func (.func 114) #[.pointer (some ⟨dd,0,none⟩)] #[],.func (.func 115) #[.pointer (some ⟨dd,0,none⟩)] #[],.func (.func 116) #[.pointer (some ⟨dd,0,none⟩)] #[]],aE h3 212 (gP (bE g.2.2.2.2.1 p.length) (bE g.2.2.2.2.2 ay.length) (bE g.2.1 (bh m t D p (bj m t ay)).length) (bE g.2.2.1 ((bK m (bh m t D p (bj m t ay))).c).length) ((bK m (bh m t D p (bj m t ay))).L) (eN) (e9 (dR (bh m t D p (bj m t ay))))),own 5 1 g.2.2.2.2.1.1 p.length g.2.2.2.2.1.2 (aA .u8 (p)),own 5 1 g.2.2.2.2.2.1 ay.length g.2.2.2.2.2.2 (aA .u8 (bj m t ay)),own 3 1 g.2.1.1 (bh m t D p (bj m t ay)).length g.2.1.2 (aA .i64 (bh m t D p (bj m t ay))),own 3 1 g.2.2.1.1 ((bK m (bh m t D p (bj m t ay))).c).length g.2.2.1.2 (aA .i64 ((bK m (bh m t D p (bj m t ay))).c))]
 |3=>[aE ew 213 #[.func (.func 113) #[.pointer (some ⟨dd,0,none⟩)] #[],.func (.func 114) #[.pointer (some ⟨dd,0,none⟩)] #[],.func (.func 115) #[.pointer (some ⟨dd,0,none⟩)] #[],.func (.func 116) #[.pointer (some ⟨dd,0,none⟩)] #[]],aE h3 212 (gP (bE g.2.2.2.2.1 p.length) (bE g.2.2.2.2.2 ay.length) (bE g.2.1 (bh m t D p (bj m t ay)).length) (bE g.2.2.1 ((bK m (bh m t D p (bj m t ay))).c).length) ((bK m (bh m t D p (bj m t ay))).L) (bE g.2.2.2.1 (cV m t D ((bK m (bh m t D p (bj m t ay))).c)).length) (e9 (dR (bh m t D p (bj m t ay))))),own 5 1 g.2.2.2.2.1.1 p.length g.2.2.2.2.1.2 (aA .u8 (p)),own 5 1 g.2.2.2.2.2.1 ay.length g.2.2.2.2.2.2 (aA .u8 (bj m t ay)),own 3 1 g.2.1.1 (bh m t D p (bj m t ay)).length g.2.1.2 (aA .i64 (bh m t D p (bj m t ay))),own 3 1 g.2.2.1.1 ((bK m (bh m t D p (bj m t ay))).c).length g.2.2.1.2 (aA .i64 ((bK m (bh m t D p (bj m t ay))).c)),own 3 1 g.2.2.2.1.1 (cV m t D ((bK m (bh m t D p (bj m t ay))).c)).length g.2.2.2.1.2 (aA .i64 (cV m t D ((bK m (bh m t D p (bj m t ay))).c)))]
 |_=>[aE ew 213 #[.func (.func 113) #[.pointer (some ⟨dd,0,none⟩)] #[],.func (.func 114) #[.pointer (some ⟨dd,0,none⟩)] #[],.func (.func 115) #[.pointer (some ⟨dd,0,none⟩)] #[],.func (.func 116) #[.pointer (some ⟨dd,0,none⟩)] #[]],aE h3 212 (gP (bE g.2.2.2.2.1 p.length) (bE g.2.2.2.2.2 ay.length) (bE g.2.1 (bh m t D p (bj m t ay)).length) (bE g.2.2.1 ((bK m (bh m t D p (bj m t ay))).c).length) ((bK m (bh m t D p (bj m t ay))).L) (bE g.2.2.2.1 (cV m t D ((bK m (bh m t D p (bj m t ay))).c)).length) (e9 (dR (bh m t D p (bj m t ay))))),own 5 1 g.2.2.2.2.1.1 p.length g.2.2.2.2.1.2 (aA .u8 (lC m t (cV m t D ((bK m (bh m t D p (bj m t ay))).c)) (cV m t D ((bK m (bh m t D p (bj m t ay))).c)).length p)),own 5 1 g.2.2.2.2.2.1 ay.length g.2.2.2.2.2.2 (aA .u8 (ly m t (cV m t D ((bK m (bh m t D p (bj m t ay))).c)) (cV m t D ((bK m (bh m t D p (bj m t ay))).c)).length (bj m t ay))),own 3 1 g.2.1.1 (bh m t D p (bj m t ay)).length g.2.1.2 (aA .i64 (bh m t D p (bj m t ay))),own 3 1 g.2.2.1.1 ((bK m (bh m t D p (bj m t ay))).c).length g.2.2.1.2 (aA .i64 ((bK m (bh m t D p (bj m t ay))).c)),own 3 1 g.2.2.2.1.1 (cV m t D ((bK m (bh m t D p (bj m t ay))).c)).length g.2.2.2.1.2 (aA .i64 (cV m t D ((bK m (bh m t D p (bj m t ay))).c)))]
structure ajP(m t D:Nat)(p ay:ae)(g:Nat×(aN×Nat)×(aN×Nat)×(aN×Nat)×(aN×Nat)×(aN×Nat)):Prop where
 i:g.1≤4
 dO:1<g.1→e9 (dR (bh m t D p (bj m t ay)))=false
 c2:1<g.1→qG t (bK m (bh m t D p (bj m t ay)))=false
 k0:2<g.1→¬(cV m t D ((bK m (bh m t D p (bj m t ay))).c)).length≠(bK m (bh m t D p (bj m t ay))).L
 gD:0<g.1→(bh m t D p (bj m t ay)).length≤g.2.1.2
 ji:1<g.1→((bK m (bh m t D p (bj m t ay))).c).length≤g.2.2.1.2
 me:2<g.1→(cV m t D ((bK m (bh m t D p (bj m t ay))).c)).length≤g.2.2.2.1.2
theorem akc{k:Nat}(h:k<8):2^k≤128∧1≤2^k:=⟨Nat.pow_le_pow_right (n:=2) (by omega) (show k≤7 by omega),Nat.one_le_two_pow⟩
theorem att(dd bT m t D:Nat)(q:gH)(gC z2:aN×Nat)(p ay:ae)(e:Nat→Addr)(w:ao)(di:e3 m t)(s9:D≤2048)(KJ:Has (aE dd 147 #[.pointer (some ⟨bT,0,none⟩)]) w)(gB:Has (j8 bT m t D q) w)(c4:gI e w 10)(aG:∀x∈p,x<256)(fF:∀x∈ay,x<256)(o7:p.length=D)(eX:ay.length=aY m t)(aj:Has (aP 1 gC.1 p.length (aA .u8 p)) w)(eU:Has (aP 1 z2.1 ay.length (aA .u8 ay)) w):fh Tryz.prog 70 [.pointer (some ⟨dd,0,none⟩),.slice gC.1 p.length gC.2,.slice z2.1 ay.length z2.2] w (X:=(aN×Nat)×(aN×Nat)×(aN×Nat)) (fun z=>To e (hF m t D p (bj m t ay)) z) (fun _=>True) (fun z=>Ye (hF m t D p (bj m t ay)) z):=by
 have aW:=nj.aoe di s9 KJ gB;have ic:(bj m t ay).length=ay.length:=Ww _ _ _;have fq:∀x∈bj m t ay,x<256:=ae6 fF;have rH:=di.o0;have uW:=di.mW;have I0:=di.d1;have aaj:1≤aY m t:=by unfold aY;omega
 have ahV:=di.t40;have hf:(bh m t D p (bj m t ay)).length=2*t:=qd _ _ _;have axi:=(Sf di.ok (bh m t D p (bj m t ay))).q2;have au7:=Ou (m:=m) (t:=t) (D:=D) ((bK m (bh m t D p (bj m t ay))).c);refine b8 Tryz.func70 I Tryz.ntmps70 I<|J.aw 4 I<|ak I I<|ak I I<|ak I I<|ak I I<|U.next<|J.seq<|J.aw 18 I<|ac I I<|cf I I<|ac I I<|bI I I<|bd I I<|c5 I I (v:=.pointer (some ⟨bT,0,none⟩)) (fun _ hw=>aW.cell hw.b6)<|bJ I I I I (fun w hw=>Iv bT m t D q w (hw.a7 gB)) aJ<|jT I I I (df (by omega))<|ac I I<|ac I I<|cf I I<|ac I I<|bI I I<|bd I I<|c5 I I (v:=.pointer (some ⟨bT,0,none⟩)) (fun _ hw=>aW.cell hw.b6)<|bJ I I I I (fun w hw=>LD bT m t D q w (hw.a7 gB)) aJ<|jT I I I (df (by omega))<|ef I I I<|U.next<|J.dy I<|J.skip<|al.code<|J.aw 7 I<|ac I I<|s0 (m2:=p.length) I I I (ys:=aA .u8 p) (fun w hw=>hw.a7 aj) (mz _ _) I (by omega) (by unfold maxLen;omega) (by omega) (fun _ _ _ _=>trivial) (fun fo dO l8=>?_);refine ac I I<|s0 (m2:=ay.length) I I I (ys:=aA .u8 ay) (fun w hw=>hw.a7 eU) (mz _ _) I (by omega) (by unfold maxLen;omega) (by omega) (fun _ _ _ _=>trivial) (fun bw c2 cR=>?_);refine gl I I (cells:=gP (.slice fo p.length dO) (.slice bw ay.length c2) eN eN 0 eN false) (by kernel_rfl)<|fx I I aJ (fun h3=>?_);refine ak I I<|U.next ?_;refine J.cut (G:=Unit) (fun _=>[(0,.pointer (some ⟨dd,0,none⟩)),(10,.pointer (some ⟨h3,0,none⟩))]) (fun _=>au (oj w) w [aE h3 212 (gP (.slice fo p.length dO) (.slice bw ay.length c2) eN eN 0 eN false),own 5 1 bw ay.length c2 (aA .u8 (bj m t ay)),own 5 1 fo p.length dO (aA .u8 p)]) (fun _=>True) ?_ ?_
 ·refine J.aw 7 I<|ac I I<|bI I I<|bd I I<|c5 I I (v:=.pointer (some ⟨bT,0,none⟩)) (fun _ hw=>aW.cell hw.b6)<|bJ I I I I (fun w hw=>GM bT m t D q w (hw.a7 gB)) aJ<|h4 I I I (by omega) (r:=((aR m t%8:Nat):Int)) (by rfl)<|ak I I<|U.bl 2 I<|ac I I<|fD I I I I<|U.next ?_;refine J.test I (fun ag=>?_) (fun ag=>?_)
  ·have tA:0<aR m t%8:=by omega
   have YJ:aR m t%8<8:=fV _ (by decide);have awc:=akc YJ;refine J.dQ (bW [0,1,2,3,4,5,6,7,8,9,10,12,13,14] (cj [11] (bW [15,16] (cj [17] .done)))) (bF w [aE h3 212 (gP (.slice fo p.length dO) (.slice bw ay.length c2) eN eN 0 eN false)]) mixed (by kernel_rfl) (fun _ h=>h.drew) (fun _ h=>h.pick [0] I)<|ac I I<|bI I I<|bd I I<|dc I I (v:=.slice bw ay.length c2) (fun _ h=>h.cP (i:=0) I I)<|ac I I<|bI I I<|bd I I<|dc I I (v:=.slice bw ay.length c2) (fun _ h=>h.cP (i:=0) I I)<|cf I I<|eB I I I (r:=((ay.length- 1:Nat):Int)) (by rw[bm (by omega)];omega)<|gT 1 (ay.length- 1) rfl rfl rfl rfl rfl (by omega)<|ac rfl rfl<|ir rfl rfl rfl (by omega) (r:=((2^(aR m t%8):Nat):Int)) (by rw[show(1:Int)=((1:Nat):Int) from rfl,pG (by omega),q3,ll (by omega)])<|eB rfl rfl rfl (r:=((2^(aR m t%8)- 1:Nat):Int)) (by rw[show((2^(aR m t%8):Nat):Int)- 1=((2^(aR m t%8)- 1:Nat):Int) by omega,tr (by omega)])<|km 1 rfl rfl rfl (v:=.int .u8 (ap ay (ay.length- 1):Nat)) (jk (a:=ay) (by omega))<|dY rfl rfl rfl rfl (r:=((ap ay (ay.length- 1)%2^(aR m t%8):Nat):Int)) (by rw[CH (fJ fF _) (by omega),Nw])<|gT 1 (ay.length- 1) rfl rfl rfl rfl rfl (by omega)<|pw 1 rfl rfl rfl rfl rfl (by omega) (fun _ h=>h.pick [0] rfl)<|U.end_ ?_;exact al.join () ⟨I,I,trivial⟩ (fun _ h=>by rw[Sk,ap1 tA] at h;exact h) trivial
  ·have tA:¬0<aR m t%8:=by omega
   refine J.skip ?_;exact al.join () ⟨I,I,trivial⟩ (fun _ h=>by rw[←aq5 tA];exact h) trivial
 ·intro _ _;refine J.cut (G:=Em) (fun _=>[(10,.pointer (some ⟨h3,0,none⟩))]) (fun g=>au (oj w) w [aE h3 212 (gP (bE g.ep p.length) (bE g.eV ay.length) (g.mm) (g.oM) (g.j9) (bE g.me g.l.length) (g.f)),own 5 1 g.ep.1 p.length g.ep.2 (aA .u8 g.d)]) (fun g=>g.amL p.length ay.length (hF m t D p (bj m t ay))) ?_ ?_
  ·refine J.aw 11 I<|ac I I<|oo I I I<|ac I I<|oo I I I<|ac I I<|oo I I I<|ac I I<|oo I I I<|ja I I (cells:= #[.func (.func 113) #[.pointer (some ⟨dd,0,none⟩)] #[],.func (.func 114) #[.pointer (some ⟨dd,0,none⟩)] #[],.func (.func 115) #[.pointer (some ⟨dd,0,none⟩)] #[],.func (.func 116) #[.pointer (some ⟨dd,0,none⟩)] #[]]) (by kernel_rfl) I aJ (fun ew=>?_);refine cf I I<|ac I I<|U.next<|J.block<|J.loop (G:=Nat×(aN×Nat)×(aN×Nat)×(aN×Nat)×(aN×Nat)×(aN×Nat)) (fun g=>[(10,.pointer (some ⟨h3,0,none⟩)),(73,.slice (some ⟨ew,0,none⟩) 4 4),(74,.int .i64 4),(75,.int .i64 (g.1:Nat))]) (fun g=>au (oj w) w (aom dd m t D ew h3 p ay g)) (fun g=>ajP m t D p ay g) (fun g=>4- g.1) (0,default,default,default,(fo,dO),(bw,c2)) ⟨I,I,I,I,trivial⟩ (fun _ h=>h.pick [0,0,1,0] I) ⟨by simp,fun h=>absurd h (by simp),fun h=>absurd h (by simp),fun h=>absurd h (by simp),fun h=>absurd h (by simp),fun h=>absurd h (by simp),fun h=>absurd h (by simp)⟩ ?_;rintro⟨i,gD,ji,me,ep,eV⟩ dj;have hi:i≤4:=dj.i;refine J.seq ?_;rcases(show i=0∨i=1∨i=2∨i=3∨i=4 by omega) with rfl|rfl|rfl|rfl|rfl
   ·refine J.rg 1 I ?_;refine cQ I I I (ek (by omega)) ?_;refine U.next ?_;refine J.seq ?_;refine J.hH I ?_;refine J.skip ?_;refine al.code ?_;refine J.seq ?_;refine J.block ?_;refine J.aw 3 I ?_;refine eP 0 I I I I (by omega) ?_;refine cm 0 I I I (v:=.func (.func 113) #[.pointer (some ⟨dd,0,none⟩)] #[]) I ?_;refine ak I I ?_;refine U.next ?_;refine J.seq ?_;refine J.aw 4 I ?_;refine ac I I ?_;refine bI I I ?_;refine bd I I ?_;refine cm 1 I I I (v:=.bool false) I ?_;refine U.next ?_;refine J.dy I ?_;refine J.skip ?_;refine al.code ?_;refine J.aw 4 I ?_;refine ac I I ?_;refine ac I I ?_;refine li [1,0,0,0] (M:=[aE h3 212 (gP (bE ep p.length) (bE eV ay.length) (eN) (eN) (0) (eN) (false))]) (R:=[aE ew 213 #[.func (.func 113) #[.pointer (some ⟨dd,0,none⟩)] #[],.func (.func 114) #[.pointer (some ⟨dd,0,none⟩)] #[],.func (.func 115) #[.pointer (some ⟨dd,0,none⟩)] #[],.func (.func 116) #[.pointer (some ⟨dd,0,none⟩)] #[]],own 5 1 ep.1 p.length ep.2 (aA .u8 (p)),own 5 1 eV.1 ay.length eV.2 (aA .u8 (bj m t ay))]) I I I I I (X:=aN×Nat) (v:=fun z=>.nilIface) (pf:=fun z=>(bh m t D p (bj m t ay)).length≤z.2) (fS:=fun z=>[own 3 1 z.1 (bh m t D p (bj m t ay)).length z.2 (aA .i64 (bh m t D p (bj m t ay))),aE h3 212 (gP (bE ep p.length) (bE eV ay.length) (bE z (bh m t D p (bj m t ay)).length) (eN) (0) (eN) (e9 (dR (bh m t D p (bj m t ay)))))]) (fun dK aZ ah bG=>by have aB:=adK dK dd h3 bT m t D q ep eV p (bj m t ay) eN eN eN 0 false aZ (aW.Ap ah) aG fq (by omega) (by omega) (Has.ms ((ah aZ (Fr.refl _ _)).has (i:=1) I)).2.1 (by rw[ic];exact(Has.ms ((ah aZ (Fr.refl _ _)).has (i:=2) I)).2.1) (fun jJ aI=>((ah jJ aI).has (i:=1) I).dw) (by rw[ic];exact(fun jJ aI=>((ah jJ aI).has (i:=2) I).dw)) (by rw[ic];exact bG);rw[ic] at aB;exact aB) (fun _ _ _=>trivial) (fun z aL=>?_);refine ak I I ?_;refine U.bl 2 I ?_;refine ac I I ?_;refine jl I I ?_;refine U.next ?_;refine J.dy I ?_;refine J.skip ?_;refine al.aE ?_;refine al.code ?_;refine J.rg 2 I ?_;refine b1 I I I (r:=((1:Nat):Int)) I ?_;refine ac I I ?_;refine U.end_ ?_;exact al.back (1,z,ji,me,ep,eV) ⟨I,I,I,I,trivial⟩ (fun _ h=>h.pick [2,1,1,1,0] I) ⟨by simp,fun h=>absurd h (by simp),fun h=>absurd h (by simp),fun h=>absurd h (by simp),fun _=>aL,fun h=>absurd h (by simp),fun h=>absurd h (by simp)⟩ (by show 4- 1<4- 0;decide)
   ·refine J.rg 1 I<|cQ I I I (ek (by omega))<|U.next<|J.seq<|J.hH I<|J.skip<|al.code<|J.seq<|J.block<|J.aw 3 I<|eP 1 I I I I (by omega)<|cm 0 I I I (v:=.func (.func 114) #[.pointer (some ⟨dd,0,none⟩)] #[]) I<|ak I I<|U.next<|J.seq<|J.aw 4 I<|ac I I<|bI I I<|bd I I<|cm 1 I I I (v:=.bool (e9 (dR (bh m t D p (bj m t ay))))) I<|U.next ?_;refine J.cond I (fun gr=>?_) (fun gr=>?_)
    ·have gr:e9 (dR (bh m t D p (bj m t ay)))=true:=gr;refine J.exit I ?_;exact al.join (⟨ep,eV,(none,0),p,bj m t ay,[],bE gD (bh m t D p (bj m t ay)).length,eN,0,e9 (dR (bh m t D p (bj m t ay)))⟩:Em) ⟨I,trivial⟩ (fun _ h=>h.pick [1,1] I) ⟨aum gr,I,ic⟩
    ·have gr:e9 (dR (bh m t D p (bj m t ay)))=false:=by simpa using gr
     refine J.skip<|al.code<|J.seq ?_;rcases Bool.eq_false_or_eq_true (qG t (bK m (bh m t D p (bj m t ay)))) with lV|lV
     ·refine J.rg 4 I<|ac I I<|ac I I<|li [1,3,0,0,0] (M:=[aE h3 212 (gP (bE ep p.length) (bE eV ay.length) (bE gD (bh m t D p (bj m t ay)).length) (eN) (0) (eN) (e9 (dR (bh m t D p (bj m t ay)))))]) (R:=[own 3 1 gD.1 (bh m t D p (bj m t ay)).length gD.2 (aA .i64 (bh m t D p (bj m t ay))),aE ew 213 #[.func (.func 113) #[.pointer (some ⟨dd,0,none⟩)] #[],.func (.func 114) #[.pointer (some ⟨dd,0,none⟩)] #[],.func (.func 115) #[.pointer (some ⟨dd,0,none⟩)] #[],.func (.func 116) #[.pointer (some ⟨dd,0,none⟩)] #[]],own 5 1 ep.1 p.length ep.2 (aA .u8 (p)),own 5 1 eV.1 ay.length eV.2 (aA .u8 (bj m t ay))]) I I I I I (X:=aN×Nat) (v:=fun z=>mJ e 10) (pf:=fun z=>((bK m (bh m t D p (bj m t ay))).c).length≤z.2) (fS:=fun z=>[own 3 1 z.1 ((bK m (bh m t D p (bj m t ay))).c).length z.2 (aA .i64 ((bK m (bh m t D p (bj m t ay))).c)),aE h3 212 (gP (bE ep p.length) (bE eV ay.length) (bE gD (bh m t D p (bj m t ay)).length) (bE z ((bK m (bh m t D p (bj m t ay))).c).length) ((bK m (bh m t D p (bj m t ay))).L) (eN) (e9 (dR (bh m t D p (bj m t ay)))))]) (fun dK aZ ah bG=>by have aB:=aaI dK dd h3 bT m t D q gD (bh m t D p (bj m t ay)) (bE ep p.length) (bE eV ay.length) eN eN 0 (e9 (dR (bh m t D p (bj m t ay)))) e aZ (aW.Ap ah) (by omega) (dj.gD (by simp)) (fun jJ aI=>((ah jJ aI).has (i:=0) I).dw) (fun jJ aI=>(ah jJ aI).mX c4) bG;rw[aD lV] at aB;exact aB) (fun _ _ _=>trivial) (fun z aL=>?_);refine ak I I<|U.bl 2 I<|ac I I<|B2 I I<|U.next<|J.hH I<|J.aw 5 I<|ac I I<|ak I I<|ak I I<|ak I I<|ak I I<|U.next<|J.ret ?_;exact al.ret Tryz.results70 I (fun w hw=>⟨default,by rw[abz gr lV];rfl,trivial,by rw[abz gr lV];exact hw.nothing⟩)
     ·refine J.rg 4 I ?_;refine ac I I ?_;refine ac I I ?_;refine li [1,3,0,0,0] (M:=[aE h3 212 (gP (bE ep p.length) (bE eV ay.length) (bE gD (bh m t D p (bj m t ay)).length) (eN) (0) (eN) (e9 (dR (bh m t D p (bj m t ay)))))]) (R:=[own 3 1 gD.1 (bh m t D p (bj m t ay)).length gD.2 (aA .i64 (bh m t D p (bj m t ay))),aE ew 213 #[.func (.func 113) #[.pointer (some ⟨dd,0,none⟩)] #[],.func (.func 114) #[.pointer (some ⟨dd,0,none⟩)] #[],.func (.func 115) #[.pointer (some ⟨dd,0,none⟩)] #[],.func (.func 116) #[.pointer (some ⟨dd,0,none⟩)] #[]],own 5 1 ep.1 p.length ep.2 (aA .u8 (p)),own 5 1 eV.1 ay.length eV.2 (aA .u8 (bj m t ay))]) I I I I I (X:=aN×Nat) (v:=fun z=>.nilIface) (pf:=fun z=>((bK m (bh m t D p (bj m t ay))).c).length≤z.2) (fS:=fun z=>[own 3 1 z.1 ((bK m (bh m t D p (bj m t ay))).c).length z.2 (aA .i64 ((bK m (bh m t D p (bj m t ay))).c)),aE h3 212 (gP (bE ep p.length) (bE eV ay.length) (bE gD (bh m t D p (bj m t ay)).length) (bE z ((bK m (bh m t D p (bj m t ay))).c).length) ((bK m (bh m t D p (bj m t ay))).L) (eN) (e9 (dR (bh m t D p (bj m t ay)))))]) (fun dK aZ ah bG=>by have aB:=aaI dK dd h3 bT m t D q gD (bh m t D p (bj m t ay)) (bE ep p.length) (bE eV ay.length) eN eN 0 (e9 (dR (bh m t D p (bj m t ay)))) e aZ (aW.Ap ah) (by omega) (dj.gD (by simp)) (fun jJ aI=>((ah jJ aI).has (i:=0) I).dw) (fun jJ aI=>(ah jJ aI).mX c4) bG;rw[az (by simp[lV])] at aB;exact aB) (fun _ _ _=>trivial) (fun z aL=>?_);refine ak I I ?_;refine U.bl 2 I ?_;refine ac I I ?_;refine jl I I ?_;refine U.next ?_;refine J.dy I ?_;refine J.skip ?_;refine al.aE ?_;refine al.code ?_;refine J.rg 2 I ?_;refine b1 I I I (r:=((2:Nat):Int)) I ?_;refine ac I I ?_;refine U.end_ ?_;exact al.back (2,gD,z,me,ep,eV) ⟨I,I,I,I,trivial⟩ (fun _ h=>h.pick [3,1,2,2,1,0] I) ⟨by simp,fun _=>gr,fun _=>lV,fun h=>absurd h (by simp),fun _=>dj.gD (by simp),fun _=>aL,fun h=>absurd h (by simp)⟩ (by show 4- 2<4- 1;decide)
   ·refine J.rg 1 I<|cQ I I I (ek (by omega))<|U.next<|J.seq<|J.hH I<|J.skip<|al.code<|J.seq<|J.block<|J.aw 3 I<|eP 2 I I I I (by omega)<|cm 0 I I I (v:=.func (.func 115) #[.pointer (some ⟨dd,0,none⟩)] #[]) I<|ak I I<|U.next<|J.seq<|J.aw 4 I<|ac I I<|bI I I<|bd I I<|cm 1 I I I (v:=.bool (e9 (dR (bh m t D p (bj m t ay))))) I<|U.next ?_;refine J.cond I (fun gr=>?_) (fun gr=>?_)
    ·exact absurd gr (by rw[dj.dO (by simp)];decide)
    ·refine J.skip<|al.code<|J.seq ?_;have gr:=dj.dO (by simp);have lV:=dj.c2 (by simp);by_cases sO:(cV m t D ((bK m (bh m t D p (bj m t ay))).c)).length≠(bK m (bh m t D p (bj m t ay))).L
     ·refine J.rg 4 I<|ac I I<|ac I I<|li [1,4,0,0,0,0] (M:=[aE h3 212 (gP (bE ep p.length) (bE eV ay.length) (bE gD (bh m t D p (bj m t ay)).length) (bE ji ((bK m (bh m t D p (bj m t ay))).c).length) ((bK m (bh m t D p (bj m t ay))).L) (eN) (e9 (dR (bh m t D p (bj m t ay)))))]) (R:=[own 3 1 ji.1 ((bK m (bh m t D p (bj m t ay))).c).length ji.2 (aA .i64 ((bK m (bh m t D p (bj m t ay))).c)),aE ew 213 #[.func (.func 113) #[.pointer (some ⟨dd,0,none⟩)] #[],.func (.func 114) #[.pointer (some ⟨dd,0,none⟩)] #[],.func (.func 115) #[.pointer (some ⟨dd,0,none⟩)] #[],.func (.func 116) #[.pointer (some ⟨dd,0,none⟩)] #[]],own 5 1 ep.1 p.length ep.2 (aA .u8 (p)),own 5 1 eV.1 ay.length eV.2 (aA .u8 (bj m t ay)),own 3 1 gD.1 (bh m t D p (bj m t ay)).length gD.2 (aA .i64 (bh m t D p (bj m t ay)))]) I I I I I (X:=aN×Nat) (v:=fun z=>mJ e 10) (pf:=fun z=>(cV m t D ((bK m (bh m t D p (bj m t ay))).c)).length≤z.2) (fS:=fun z=>[own 3 1 z.1 (cV m t D ((bK m (bh m t D p (bj m t ay))).c)).length z.2 (aA .i64 (cV m t D ((bK m (bh m t D p (bj m t ay))).c))),aE h3 212 (gP (bE ep p.length) (bE eV ay.length) (bE gD (bh m t D p (bj m t ay)).length) (bE ji ((bK m (bh m t D p (bj m t ay))).c).length) ((bK m (bh m t D p (bj m t ay))).L) (bE z (cV m t D ((bK m (bh m t D p (bj m t ay))).c)).length) (e9 (dR (bh m t D p (bj m t ay)))))]) (fun dK aZ ah bG=>by have aB:=Xw dK dd h3 bT m t D q ji ((bK m (bh m t D p (bj m t ay))).c) (bE ep p.length) (bE eV ay.length) (bE gD (bh m t D p (bj m t ay)).length) eN ((bK m (bh m t D p (bj m t ay))).L) (e9 (dR (bh m t D p (bj m t ay)))) e aZ (aW.Ap ah) (by omega) (dj.ji (by simp)) (fun jJ aI=>((ah jJ aI).has (i:=0) I).dw) (fun jJ aI=>(ah jJ aI).mX c4) bG;rw[aD sO] at aB;exact aB) (fun _ _ _=>trivial) (fun z aL=>?_);refine ak I I<|U.bl 2 I<|ac I I<|B2 I I<|U.next<|J.hH I<|J.aw 5 I<|ac I I<|ak I I<|ak I I<|ak I I<|ak I I<|U.next<|J.ret ?_;exact al.ret Tryz.results70 I (fun w hw=>⟨default,by rw[SJ gr lV sO];rfl,trivial,by rw[SJ gr lV sO];exact hw.nothing⟩)
     ·refine J.rg 4 I ?_;refine ac I I ?_;refine ac I I ?_;refine li [1,4,0,0,0,0] (M:=[aE h3 212 (gP (bE ep p.length) (bE eV ay.length) (bE gD (bh m t D p (bj m t ay)).length) (bE ji ((bK m (bh m t D p (bj m t ay))).c).length) ((bK m (bh m t D p (bj m t ay))).L) (eN) (e9 (dR (bh m t D p (bj m t ay)))))]) (R:=[own 3 1 ji.1 ((bK m (bh m t D p (bj m t ay))).c).length ji.2 (aA .i64 ((bK m (bh m t D p (bj m t ay))).c)),aE ew 213 #[.func (.func 113) #[.pointer (some ⟨dd,0,none⟩)] #[],.func (.func 114) #[.pointer (some ⟨dd,0,none⟩)] #[],.func (.func 115) #[.pointer (some ⟨dd,0,none⟩)] #[],.func (.func 116) #[.pointer (some ⟨dd,0,none⟩)] #[]],own 5 1 ep.1 p.length ep.2 (aA .u8 (p)),own 5 1 eV.1 ay.length eV.2 (aA .u8 (bj m t ay)),own 3 1 gD.1 (bh m t D p (bj m t ay)).length gD.2 (aA .i64 (bh m t D p (bj m t ay)))]) I I I I I (X:=aN×Nat) (v:=fun z=>.nilIface) (pf:=fun z=>(cV m t D ((bK m (bh m t D p (bj m t ay))).c)).length≤z.2) (fS:=fun z=>[own 3 1 z.1 (cV m t D ((bK m (bh m t D p (bj m t ay))).c)).length z.2 (aA .i64 (cV m t D ((bK m (bh m t D p (bj m t ay))).c))),aE h3 212 (gP (bE ep p.length) (bE eV ay.length) (bE gD (bh m t D p (bj m t ay)).length) (bE ji ((bK m (bh m t D p (bj m t ay))).c).length) ((bK m (bh m t D p (bj m t ay))).L) (bE z (cV m t D ((bK m (bh m t D p (bj m t ay))).c)).length) (e9 (dR (bh m t D p (bj m t ay)))))]) (fun dK aZ ah bG=>by have aB:=Xw dK dd h3 bT m t D q ji ((bK m (bh m t D p (bj m t ay))).c) (bE ep p.length) (bE eV ay.length) (bE gD (bh m t D p (bj m t ay)).length) eN ((bK m (bh m t D p (bj m t ay))).L) (e9 (dR (bh m t D p (bj m t ay)))) e aZ (aW.Ap ah) (by omega) (dj.ji (by simp)) (fun jJ aI=>((ah jJ aI).has (i:=0) I).dw) (fun jJ aI=>(ah jJ aI).mX c4) bG;rw[az sO] at aB;exact aB) (fun _ _ _=>trivial) (fun z aL=>?_);refine ak I I ?_;refine U.bl 2 I ?_;refine ac I I ?_;refine jl I I ?_;refine U.next ?_;refine J.dy I ?_;refine J.skip ?_;refine al.aE ?_;refine al.code ?_;refine J.rg 2 I ?_;refine b1 I I I (r:=((3:Nat):Int)) I ?_;refine ac I I ?_;refine U.end_ ?_;exact al.back (3,gD,ji,z,ep,eV) ⟨I,I,I,I,trivial⟩ (fun _ h=>h.pick [3,1,2,2,2,1,0] I) ⟨by simp,fun _=>gr,fun _=>lV,fun _=>sO,fun _=>dj.gD (by simp),fun _=>dj.ji (by simp),fun _=>aL⟩ (by show 4- 3<4- 2;decide)
   ·refine J.rg 1 I<|cQ I I I (ek (by omega))<|U.next<|J.seq<|J.hH I<|J.skip<|al.code<|J.seq<|J.block<|J.aw 3 I<|eP 3 I I I I (by omega)<|cm 0 I I I (v:=.func (.func 116) #[.pointer (some ⟨dd,0,none⟩)] #[]) I<|ak I I<|U.next<|J.seq<|J.aw 4 I<|ac I I<|bI I I<|bd I I<|cm 1 I I I (v:=.bool (e9 (dR (bh m t D p (bj m t ay))))) I<|U.next ?_;refine J.cond I (fun gr=>?_) (fun gr=>?_)
    ·exact absurd gr (by rw[dj.dO (by simp)];decide)
    ·refine J.skip ?_;refine al.code ?_;refine J.aw 4 I ?_;refine ac I I ?_;refine ac I I ?_;refine li [1,1,1,3,0,0,0] (M:=[aE h3 212 (gP (bE ep p.length) (bE eV ay.length) (bE gD (bh m t D p (bj m t ay)).length) (bE ji ((bK m (bh m t D p (bj m t ay))).c).length) ((bK m (bh m t D p (bj m t ay))).L) (bE me (cV m t D ((bK m (bh m t D p (bj m t ay))).c)).length) (e9 (dR (bh m t D p (bj m t ay))))),own 5 1 ep.1 p.length ep.2 (aA .u8 (p)),own 5 1 eV.1 ay.length eV.2 (aA .u8 (bj m t ay))]) (R:=[own 3 1 me.1 (cV m t D ((bK m (bh m t D p (bj m t ay))).c)).length me.2 (aA .i64 (cV m t D ((bK m (bh m t D p (bj m t ay))).c))),aE ew 213 #[.func (.func 113) #[.pointer (some ⟨dd,0,none⟩)] #[],.func (.func 114) #[.pointer (some ⟨dd,0,none⟩)] #[],.func (.func 115) #[.pointer (some ⟨dd,0,none⟩)] #[],.func (.func 116) #[.pointer (some ⟨dd,0,none⟩)] #[]],own 3 1 gD.1 (bh m t D p (bj m t ay)).length gD.2 (aA .i64 (bh m t D p (bj m t ay))),own 3 1 ji.1 ((bK m (bh m t D p (bj m t ay))).c).length ji.2 (aA .i64 ((bK m (bh m t D p (bj m t ay))).c))]) I I I I I (X:=(aN×Nat)×(aN×Nat)) (v:=fun z=>.nilIface) (pf:=fun z=>True) (fS:=fun z=>[aE h3 212 (gP (bE z.1 p.length) (bE z.2 ay.length) (bE gD (bh m t D p (bj m t ay)).length) (bE ji ((bK m (bh m t D p (bj m t ay))).c).length) ((bK m (bh m t D p (bj m t ay))).L) (bE me (cV m t D ((bK m (bh m t D p (bj m t ay))).c)).length) (e9 (dR (bh m t D p (bj m t ay))))),own 5 1 z.1.1 p.length z.1.2 (aA .u8 (lC m t (cV m t D ((bK m (bh m t D p (bj m t ay))).c)) (cV m t D ((bK m (bh m t D p (bj m t ay))).c)).length p)),own 5 1 z.2.1 ay.length z.2.2 (aA .u8 (ly m t (cV m t D ((bK m (bh m t D p (bj m t ay))).c)) (cV m t D ((bK m (bh m t D p (bj m t ay))).c)).length (bj m t ay)))]) (fun dK aZ ah bG=>by have aB:=afg dK dd h3 bT m t D q me ep eV p (bj m t ay) (cV m t D ((bK m (bh m t D p (bj m t ay))).c)) (bE gD (bh m t D p (bj m t ay)).length) (bE ji ((bK m (bh m t D p (bj m t ay))).c).length) ((bK m (bh m t D p (bj m t ay))).L) (e9 (dR (bh m t D p (bj m t ay)))) aZ (aW.Ap ah) aG fq (by omega) (by omega) (fun k ah=>ae1 ah) (by omega) (fun jJ aI=>((ah jJ aI).has (i:=0) I).dw) (by rw[ic];exact bG);rw[ic] at aB;exact aB) (fun _ _ _=>trivial) (fun z _=>?_);refine ak I I ?_;refine U.bl 2 I ?_;refine ac I I ?_;refine jl I I ?_;refine U.next ?_;refine J.dy I ?_;refine J.skip ?_;refine al.aE ?_;refine al.code ?_;refine J.rg 2 I ?_;refine b1 I I I (r:=((4:Nat):Int)) I ?_;refine ac I I ?_;refine U.end_ ?_;exact al.back (4,gD,ji,me,z.1,z.2) ⟨I,I,I,I,trivial⟩ (fun _ h=>h.pick [4,0,0,0,1,1,0] I) ⟨by simp,fun _=>dj.dO (by simp),fun _=>dj.c2 (by simp),fun _=>dj.k0 (by simp),fun _=>dj.gD (by simp),fun _=>dj.ji (by simp),fun _=>dj.me (by simp)⟩ (by show 4- 4<4- 3;decide)
   ·refine J.rg 1 I<|cQ I I I (df (by omega))<|U.next<|J.seq<|J.dy I<|J.exit I ?_;exact al.join (⟨ep,eV,me,lC m t (cV m t D ((bK m (bh m t D p (bj m t ay))).c)) (cV m t D ((bK m (bh m t D p (bj m t ay))).c)).length p,ly m t (cV m t D ((bK m (bh m t D p (bj m t ay))).c)) (cV m t D ((bK m (bh m t D p (bj m t ay))).c)).length (bj m t ay),cV m t D ((bK m (bh m t D p (bj m t ay))).c),bE gD (bh m t D p (bj m t ay)).length,bE ji ((bK m (bh m t D p (bj m t ay))).c).length,(bK m (bh m t D p (bj m t ay))).L,e9 (dR (bh m t D p (bj m t ay)))⟩:Em) ⟨I,trivial⟩ (fun _ h=>h.pick [1,1] I) ⟨arX (dj.dO (by simp)) (dj.c2 (by simp)) (dj.k0 (by simp)),Aa _ _ _ _,by rw[show(ly m t (cV m t D ((bK m (bh m t D p (bj m t ay))).c)) (cV m t D ((bK m (bh m t D p (bj m t ay))).c)).length (bj m t ay)).length=_ from Lp _ _ _ _,ic]⟩
  ·intro g bg;refine J.seq<|J.dQ (bW [0,1,2,3,4,5,6,7,8,9,10,11,12,13,14,15] .done) (bF w [aE h3 212 (gP (bE g.ep p.length) (bE g.eV ay.length) (g.mm) (g.oM) (g.j9) (bE g.me g.l.length) (g.f))]) mixed (by kernel_rfl) (fun _ h=>h.drew) (fun _ h=>h.pick [0] I)<|ac I I<|bI I I<|bd I I<|dc I I (v:=bE g.ep p.length) (fun _ h=>h.cP (i:=0) I I)<|ac I I<|bI I I<|bd I I<|dc I I (v:=bE g.eV ay.length) (fun _ h=>h.cP (i:=0) I I)<|ac I I<|bI I I<|bd I I<|dc I I (v:=bE g.me g.l.length) (fun _ h=>h.cP (i:=0) I I)<|ak I I<|ak I I<|ak I I<|ak I I<|U.next<|J.ret ?_;exact al.ret Tryz.results70 I (fun w hw=>⟨(g.ep,g.eV,g.me),by rw[bg.o];show _=Ending.returned (.tuple #[bE g.ep g.d.length,bE g.eV g.p.length,_,_]);rw[bg.Sr,bg.pl];rfl,trivial,by rw[bg.o];show bF _ [own _ 1 _ g.d.length _ _] _;rw[bg.Sr];exact hw.pick [1] I⟩)
end Go.Proofs.YtcgjepodnfjggaaGreatDoor
end
section
namespace Go.Proofs.YtcgjepodnfjggaaGreatDoor
open Go Go.a6
structure nR where
 b:Int
 p:Int
 s:Int
 m:Int
 t:Int
 l:Int
 r:Int
 w:Int
 f:Int
def nR.cells(g:nR):cJ:= #[.int .i64 g.b,.int .i64 g.p,.int .i64 g.s,.int .i64 g.m,.int .i64 g.t,.int .i64 g.l,.int .i64 g.r,.int .i64 g.w,.int .i64 g.f]
def nR.agg(g:nR):aV:=.agg g.cells
def vn(e:Nat→Addr)(g:nR)(n:Nat):Prop:=1≤n∧∀w,Has (lF e pE) w→cC Tryz.prog 18 [g.agg] w (.int .i64 n)
end Go.Proofs.YtcgjepodnfjggaaGreatDoor
end
section
namespace Go.Proofs.YtcgjepodnfjggaaGreatDoor
open Go Go.Lib Go.a6 Go.cv
def kk(x:Nat):Nat:=8- (x%2+x/ 2%2+x/ 4%2+x/ 8%2+x/ 16%2+x/ 32%2+x/ 64%2+x/ 128%2)
theorem aim:∀x:Nat,x<256→pop8 ((255- x:Nat):Int)=(kk x:Nat):=by decide+kernel
theorem Kl(x:Nat):kk x≤8:=by unfold kk;omega
theorem ah1:∀x:Nat,x<256→255^^^x=255- x:=by decide+kernel
def e2:ae→Nat
 |[]=>0
 |x::r=>kk x+e2 r
theorem La:∀l:ae,e2 l≤8*l.length
 |[]=>cq _
 |x::r=>by have:=La r;have:=Kl x;simp only[e2,iG];omega
theorem EH:∀a b:ae,e2 (a++b)=e2 a+e2 b
 |[],b=>by simp[e2]
 |x::a,b=>by simp only[u9,e2,EH a b];omega
theorem aaw{l:ae}{i:Nat}(h:i<l.length):e2 (l.take (i+1))=e2 (l.take i)+kk (ap l i):=by
 rw[NB h,EH];rfl
def lI(m t:Nat)(p:ae):ae:=if 0<aR m t%8 then p.set (p.length- 1) (ap p (p.length- 1)|||(255*2^(aR m t%8)%256)) else p
theorem Hp(m t:Nat)(p:ae):(lI m t p).length=p.length:=by unfold lI;split<;>simp
theorem Wm{m t:Nat}{p:ae}(aG:∀x∈p,x<256):∀x∈lI m t p,x<256:=by
 intro x af;unfold lI at af;split at af
 ·rcases u7 af with h|rfl
  ·exact aG x h
  ·exact Bb (n:=8) (gA aG (by omega) _) (fV _ (by decide))
 ·exact aG x af
def hx(b k:Int)(x:b5)(d:ae):ae:=fC (hl (ib b k)) d++x.kL d
noncomputable def fr(m t:Nat)(b k:Int)(x:b5)(d:ae):ae:=hx b k x d++lI m t (fm m t (hx b k x d))
structure ta where
 c:Nat
 m:b5
 d:ae
 f:Nat
def ts:b5:=⟨0,0,0,0,0,0⟩
def us(b d:ae):b5:=if kK b d=true then b5.lR b else ts
theorem agR(b d:ae):(if kK b d=true then(b5.lR b).cells else vf)=(us b d).cells:=by unfold us;split<;>rfl
def rh(c:Nat):ta:=⟨c,ts,[],0⟩
noncomputable def nb(m t S:Nat)(b k:Int)(p:ae):ta:=
 if e2 p≤t then rh 2 else
 match hF m t (S+32) (p.take (S+32)) (bj m t (p.drop (S+32))) with
 |none=>rh 3
 |some (d,_,l)=>if kK (d.drop S) (fC (hl (ib b k)) (d.take S))=true then⟨1,b5.lR (d.drop S),fC (hl (ib b k)) (d.take S),l.length⟩ else rh 3
section
variable{m t S:Nat}{b k:Int}{p:ae}
theorem NU(h:e2 p≤t):nb m t S b k p=rh 2:=by unfold nb;rw[if_pos h]
theorem Vt(h:¬e2 p≤t)(ab:hF m t (S+32) (p.take (S+32)) (bj m t (p.drop (S+32)))=none):nb m t S b k p=rh 3:=by unfold nb;rw[if_neg h,ab]
theorem Vg{d q l:ae}(h:¬e2 p≤t)(ab:hF m t (S+32) (p.take (S+32)) (bj m t (p.drop (S+32)))=some (d,q,l))(an:kK (d.drop S) (fC (hl (ib b k)) (d.take S))=false):nb m t S b k p=rh 3:=by
 unfold nb;rw[az h,ab];show(if _ then _ else _)=_;rw[az (by rw[an];decide)]
theorem FV{d q l:ae}(h:¬e2 p≤t)(ab:hF m t (S+32) (p.take (S+32)) (bj m t (p.drop (S+32)))=some (d,q,l))(an:kK (d.drop S) (fC (hl (ib b k)) (d.take S))=true):nb m t S b k p=⟨1,b5.lR (d.drop S),fC (hl (ib b k)) (d.take S),l.length⟩:=by
 unfold nb;rw[az h,ab];show(if _ then _ else _)=_;rw[aD an]
end
end Go.Proofs.YtcgjepodnfjggaaGreatDoor
end
section
namespace Go.Proofs.YtcgjepodnfjggaaGreatDoor
open Go Go.Lib Go.a6 Go.cv
set_option maxRecDepth 100000
section
variable{P:a8}{ops:Array Oper}{S:ao→Prop}{K:Act→ao→Prop}{p:eR}{n:Nat}{l:List (Nat×aV)}{C:ao→Prop}{fl:Bool}{i:Nat}{ty dr dk:aO}{x:bf}
theorem auN{d:Nat}{k:cg}{a r:Int}(av:cG ops n l i=some (some d,.unOp .xor ty x,dk))(af:bk l x=some (.int k a))(aH:gX .xor k (if k.signed then-1 else k.max) a=r)(h:U P ops S K p n ((d,(.int k r))::l) C):U P ops S K (.bB fl i p) n l C:=
 U.pure av (fun b w o he aa _=>by
  have e:(Op.unary .xor (.int k a)).run P w=.ok (.int k (gX .xor k (if k.signed then-1 else k.max) a)) w:=rfl;simp only[execOp,aa,he.bk af,Sem.run_bind,Result.andThen_ok,e,aH,Sem.run_pure]) h
end
structure mZ(m t s:Nat):Prop where
 mt:e3 m t
 s1:1≤s
 oW:s≤1024
 fit:8*(s+32)+aR m t≤N m
theorem mZ.n1{m t s:Nat}(h:mZ m t s):s+32≤2048:=by have:=h.oW;omega
structure qw where
 dd:Nat
 bT:Nat
 q:gH
noncomputable def Ev(c0 m t s:Nat)(x:qw):List bi:=[aE c0 80 #[.int .i64 (s:Nat),.int .i64 (t:Nat),.pointer (some ⟨x.dd,0,none⟩)],aE x.dd 147 #[.pointer (some ⟨x.bT,0,none⟩)],j8 x.bT m t (s+32) x.q]
noncomputable def jA(c0 m t s:Nat)(x:qw):bi:=c1 (Ev c0 m t s x)
section
variable{c0 m t s:Nat}{x:qw}{w:ao}
theorem zT(h:Has (jA c0 m t s x) w):Has (aE c0 80 #[.int .i64 (s:Nat),.int .i64 (t:Nat),.pointer (some ⟨x.dd,0,none⟩)]) w∧Has (aE x.dd 147 #[.pointer (some ⟨x.bT,0,none⟩)]) w∧Has (j8 x.bT m t (s+32) x.q) w:=
 ⟨h.star (by simp[Ev]),h.star (by simp[Ev]),h.star (by simp[Ev])⟩
end
theorem arm(c:Nat)(w:ao):fh Tryz.prog 20 [.pointer (some ⟨c,0,none⟩)] w (X:=Nat) (fun g=>.pointer (some ⟨g,0,none⟩)) (fun _=>True) (fun g=>[aE g 147 #[.pointer (some ⟨c,0,none⟩)]]):=by
 exact b8 Tryz.func20 I Tryz.ntmps20 I<|J.aw 1 I<|ak I I<|U.bl 4 I<|ac I I<|gl I I (cells:= #[.pointer (some ⟨c,0,none⟩)]) (by kernel_rfl)<|fx I I aJ<|fun BK=>ak I I<|U.next<|J.ret<|al.ret Tryz.results20 I (fun w hw=>⟨BK,I,trivial,hw⟩)
theorem FD(dd c:Nat)(w:ao)(aW:Has (aE dd 147 #[.pointer (some ⟨c,0,none⟩)]) w):cC Tryz.prog 24 [.pointer (some ⟨dd,0,none⟩)] w (.pointer (some ⟨c,0,none⟩)):=by
 exact b8 Tryz.func24 I Tryz.ntmps24 I<|J.aw 1 I<|ak I I<|U.bl 5 I<|ac I I<|bI I I<|bd I I<|c5 I I (v:=.pointer (some ⟨c,0,none⟩)) (fun _ hw=>(hw.a7 aW).fI (j:=0) I)<|ak I I<|U.next<|J.ret<|al.ret Tryz.results24 I (fun w hw=>⟨I,hw.nothing⟩)
theorem Y8(c0 m t s:Nat)(x:qw)(w:ao)(av:mZ m t s)(ag:Has (jA c0 m t s x) w):cC Tryz.prog 36 [.pointer (some ⟨c0,0,none⟩)] w (.int .i64 (s+32+aY m t:Nat)):=by
 obtain⟨l9,j2,kT⟩:=zT ag;have aq:=av.oW;have rH:=av.mt.o0;exact b8 Tryz.func36 I Tryz.ntmps36 I<|J.aw 1 I<|ak I I<|U.next<|J.seq<|J.dQ (bW [0,1,2,3,4,5,6,7,8] (cj [9,10] (bW [11,12] .done))) (bF w []) mixed (by kernel_rfl) (fun _ h=>h.drew) (fun _ h=>h)<|ac I I<|bI I I<|bd I I<|dc I I (v:=.int .i64 (s:Nat)) (fun _ hw=>(hw.a7 l9).fI (j:=0) I)<|b1 I I I (r:=((s+32:Nat):Int)) (bm (by omega))<|ac I I<|bI I I<|bd I I<|dc I I (v:=.pointer (some ⟨x.dd,0,none⟩)) (fun _ hw=>(hw.a7 l9).fI (j:=2) I)<|bJ I I I I (fun w hw=>FD x.dd x.bT w (hw.a7 j2)) (fun _ h=>h)<|bJ I I I I (fun w hw=>LD x.bT m t (s+32) x.q w (hw.a7 kT)) (fun _ h=>h)<|b1 I I I (r:=((s+32+aY m t:Nat):Int)) (bm (by omega))<|ak I I<|U.next<|J.ret<|al.ret Tryz.results36 I (fun w hw=>⟨I,hw.nothing⟩)
theorem LJ(A:aN)(n c:Nat)(p:ae)(w:ao)(aG:∀z∈p,z<256)(aQ:n≤1000000)(aj:Has (aP 1 A n (aA .u8 p)) w):cC Tryz.prog 68 [.slice A n c] w (.int .i64 (e2 p:Nat)):=by
 have o1:p.length=n:=by have:=aj.hE;simpa[aA] using this
 subst o1;refine b8 Tryz.func68 I Tryz.ntmps68 I<|J.aw 1 I<|ak I I<|U.bl 1 I<|ak I I<|U.next<|J.seq<|J.aw 3 I<|ac I I<|cf I I<|ac I I<|U.next<|J.block<|J.loop (G:=Nat) (fun i=>[(3,.int .i64 (e2 (p.take i):Nat)),(6,.slice A p.length c),(7,.int .i64 (p.length:Nat)),(8,.int .i64 (i:Nat))]) (fun _=>bF w []) (fun i=>i≤p.length) (fun i=>p.length- i) 0 ⟨I,I,I,I,trivial⟩ (fun _ h=>h) (dg _) ?_;intro i hi;have aL:=La (p.take i);have BJ:(p.take i).length≤p.length:=by rw[fW];omega
 refine J.aw 1 I<|cQ I I I I<|U.next<|J.seq ?_;refine J.test I (fun ag=>?_) (fun ag=>?_)
 ·have gG:i<p.length:=by omega
  have fq:=fJ aG i;have aaK:=Kl (ap p i);exact J.skip<|al.code<|J.seq<|J.block<|J.aw 3 I<|fH i (fun w hw=>hw.a7 aj) I I I I (by omega)<|jN (fun w hw=>hw.a7 aj) I I (by rw[dJ];exact jk gG) (by omega)<|ak I I<|U.next<|J.rg 6 I<|ac I I<|ac I I<|auN I I (r:=((255- ap p i:Nat):Int)) (by have e:=sA (x:=255) (y:=ap p i) (by decide) fq;rw[ah1 _ fq] at e;exact e)<|bJ I I I I (fun w hw=>atw (255- ap p i) (kk (ap p i)) w (by omega) (aim _ fq) aaK) aJ<|b1 I I I (r:=((e2 (p.take (i+1)):Nat):Int)) (by rw[bm (by omega),aaw gG];push_cast;rfl)<|ak rfl rfl<|U.end_<|al.aE<|al.code<|J.rg 2 rfl<|b1 rfl rfl rfl (r:=((i+1:Nat):Int)) (bm (by omega))<|ac rfl rfl<|U.end_<|al.back (i+1) ⟨rfl,rfl,rfl,rfl,trivial⟩ (fun _ h=>h) (by show i+1≤p.length;omega) (by show p.length- (i+1)<p.length- i;omega)
 ·obtain rfl:i=p.length:=by omega
  rw[m4];exact J.exit I<|al.code<|J.aw 2 I<|ac I I<|ak I I<|U.next<|J.ret<|al.ret Tryz.results68 I (fun w hw=>⟨I,hw.nothing⟩)
theorem KO{m t:Nat}(h:e3 m t)(p:ae):∀x∈fm m t p,x<256:=vG (h.q6 (en p)) _
theorem ac0{m t:Nat}{p:ae}(h:0<aR m t%8):p.set (p.length- 1) (ap p (p.length- 1)|||(255*2^(aR m t%8)%256))=lI m t p:=by unfold lI;rw[if_pos h]
theorem aqs{m t:Nat}{p:ae}{n:Nat}(bc:p.length=n)(h:0<aR m t%8):p.set (n- 1) (ap p (n- 1)|||(255*2^(aR m t%8)%256))=lI m t p:=by subst bc;exact ac0 h
theorem afD{m t:Nat}{p:ae}(h:¬0<aR m t%8):p=lI m t p:=by unfold lI;rw[if_neg h]
theorem amo(bT m t D:Nat)(q:gH)(A:aN)(n c:Nat)(p:ae)(w:ao)(di:e3 m t)(aM:q.p0 m t)(gB:Has (j8 bT m t D q) w)(aj:Has (aP 1 A n (aA .u8 p)) w)(aG:∀x∈p,x<256)(aQ:n≤1073741824)(gL:n≤c)(o7:n=D):fh Tryz.prog 25 [.pointer (some ⟨bT,0,none⟩),.slice A n c] w (X:=aN×Nat) (fun z=>two (.slice z.1 (aY m t) z.2) .nilIface) (fun z=>aY m t≤z.2) (fun z=>[own 5 1 z.1 (aY m t) z.2 (aA .u8 (fm m t p))]):=by
 have h:=aud bT m t D q A n c p w di aM gB aj aG aQ gL o7;rw[sE] at h;exact h
theorem If{b k:Int}{x:b5}{d:ae}(aW:∀z∈d,z<256):∀z∈hx b k x d,z<256:=by
 intro z aL;rcases hI.1 aL with h|h
 ·exact NS _ _ aW z h
 ·exact b5.auT x d z h
theorem Kj(g:nR)(m t s fM:Nat)(e:Nat→Addr)(w:ao)(aq:vn e g fM)(he:Has (lF e pE) w)(qO:g.m=(m:Int))(nd:g.t=(t:Int))(nZ:g.s=(s:Int))(av:mZ m t s):fh Tryz.prog 6 [g.agg] w (X:=Nat×qw) (fun z=>two (.pointer (some ⟨z.1,0,none⟩)) .nilIface) (fun z=>z.2.q.p0 m t) (fun z=>[jA z.1 m t s z.2]):=by
 have tT:=av.oW;have lj:=av.mt.ok.2;have avl:=aq.1;exact b8 Tryz.func6 I Tryz.ntmps6 I<|J.aw 3 I<|fx I I aJ<|fun h8=>ak I I<|ak I I<|U.next<|J.seq<|J.aw 3 I<|ie 0 I I I<|bJ I I I I (fun w hw=>aq.2 w (hw.a7 he)) aJ<|cQ I I I (df (by omega))<|U.next<|J.dy I<|J.skip<|al.code<|J.aw 13 I<|bd I I<|cm 0 I I I (v:=.int .i64 (m:Nat)) (by rw[←qO];rfl)<|bd rfl rfl<|cm 0 rfl rfl rfl (v:=.int .i64 (t:Nat)) (by rw[←nd];rfl)<|bd rfl rfl<|cm 0 rfl rfl rfl (v:=.int .i64 (s:Nat)) (by rw[←nZ];rfl)<|b1 rfl rfl rfl (r:=((s+32:Nat):Int)) (bm (by omega))<|dh rfl rfl rfl rfl (fun aZ _=>anV m t (s+32) e aZ av.mt (by omega) av.n1 av.fit) aJ<|fun z aL=>ac rfl rfl<|cB rfl rfl rfl<|cB rfl rfl rfl<|ak rfl rfl<|ak rfl rfl<|U.next<|J.seq<|J.aw 2 rfl<|ac rfl rfl<|jl rfl rfl<|U.next<|J.dy rfl<|J.skip<|al.code<|J.seq<|J.dQ (bW [0,1,2,3,4] (cj [5,6,7] (bW [8,9] .done))) (bF w [aE h8 28 g.cells]) mixed (by kernel_rfl) (fun _ h=>h.drew) (fun _ h=>h.pick [1] rfl)<|bd rfl rfl<|dc rfl rfl (v:=.int .i64 (s:Nat)) (fun _ h=>h.cP (i:=0) rfl (by rw[←nZ];rfl))<|bd rfl rfl<|dc rfl rfl (v:=.int .i64 (t:Nat)) (fun _ h=>h.cP (i:=0) rfl (by rw[←nd];rfl))<|ac rfl rfl<|dh rfl rfl rfl rfl (fun aZ _=>arm z.1 aZ) (fun _ h=>h.pick [1] rfl)<|fun dd _=>gl rfl rfl (cells:= #[.int .i64 (s:Nat),.int .i64 (t:Nat),.pointer (some ⟨dd,0,none⟩)]) (by kernel_rfl)<|fx rfl rfl (fun _ h=>h.pick [2] rfl)<|fun c0=>ak rfl rfl<|ak rfl rfl<|U.next<|J.ret<|al.ret Tryz.results6 rfl (fun w hw=>⟨(c0,⟨dd,z.1,z.2⟩),rfl,aL,(au.star (Ev c0 m t s ⟨dd,z.1,z.2⟩)).1 (hw.pick [0,0,0] rfl)⟩)
theorem auV(c0 m t s:Nat)(x:qw)(b k:Int)(y:b5)(A:aN)(n c:Nat)(p:ae)(e:Nat→Addr)(w:ao)(av:mZ m t s)(aM:x.q.p0 m t)(ag:Has (jA c0 m t s x) w)(aG:∀z∈p,z<256)(aQ:n=s)(aj:Has (aP 1 A n (aA .u8 p)) w)(c4:gI e w 0)(aF:y.ok=false):cC Tryz.prog 7 [.pointer (some ⟨c0,0,none⟩),.agg #[.int .i64 b,.int .i64 k],y.agg,.slice A n c] w (two (.slice none 0 0) (mJ e 0)):=by
 obtain⟨l9,j2,kT⟩:=zT ag;have tT:=av.oW;exact b8 Tryz.func7 I Tryz.ntmps7 I<|J.aw 4 I<|fx I I aJ<|fun BK=>fx I I aJ<|fun iD=>ak I I<|ak I I<|U.next<|J.seq<|J.aw 7 I<|ac I I<|cf I I<|ac I I<|bI I I<|bd I I<|c5 I I (v:=.int .i64 (s:Nat)) (fun _ hw=>(hw.a7 l9).fI (j:=0) I)<|jT I I I (df (by omega))<|U.next<|J.dy I<|J.skip<|al.code<|J.aw 8 I<|ie 0 I I I<|ac I I<|bJ I I I I (fun w hw=>ahq y A n c p e w aG (by omega) (hw.a7 aj) (hw.mX c4) aF) aJ<|ac I I<|cB I I I<|cB I I I<|ak I I<|ak I I<|U.next<|J.seq<|J.aw 2 I<|ac I I<|B2 I I<|U.next<|J.hH I<|J.aw 3 I<|ac I I<|ak I I<|ak I I<|U.next<|J.ret<|al.ret Tryz.results7 I (fun w hw=>⟨I,hw.nothing⟩)
theorem XQ(c0 m t s:Nat)(x:qw)(b k:Int)(y:b5)(A:aN)(n c:Nat)(p:ae)(w:ao)(av:mZ m t s)(aM:x.q.p0 m t)(ag:Has (jA c0 m t s x) w)(aG:∀z∈p,z<256)(aQ:n=s)(aj:Has (aP 1 A n (aA .u8 p)) w)(aF:y.ok=true):fh Tryz.prog 7 [.pointer (some ⟨c0,0,none⟩),.agg #[.int .i64 b,.int .i64 k],y.agg,.slice A n c] w (X:=aN×Nat) (fun q=>two (.slice q.1 (s+32+aY m t) q.2) .nilIface) (fun q=>s+32+aY m t≤q.2) (fun q=>[own 5 1 q.1 (s+32+aY m t) q.2 (aA .u8 (fr m t b k y p))]):=by
 obtain⟨l9,j2,kT⟩:=zT ag;have tT:=av.oW;have rH:=av.mt.o0;have I0:=av.mt.d1;have aaj:1≤aY m t:=by unfold aY;omega
 have uW:=av.mt.mW;have vb:=sE m t (hx b k y p);have aeU:=KO av.mt (hx b k y p);have tB:∀z∈hx b k y p,z<256:=If aG;have iQ:=Hp m t (fm m t (hx b k y p));refine b8 Tryz.func7 I Tryz.ntmps7 I<|J.aw 4 I<|fx I I aJ<|fun BK=>fx I I aJ<|fun iD=>ak I I<|ak I I<|U.next<|J.seq<|J.aw 7 I<|ac I I<|cf I I<|ac I I<|bI I I<|bd I I<|c5 I I (v:=.int .i64 (s:Nat)) (fun _ hw=>(hw.a7 l9).fI (j:=0) I)<|jT I I I (df (by omega))<|U.next<|J.dy I<|J.skip<|al.code<|J.aw 8 I<|ie 0 I I I<|ac I I<|dh I I I I (fun aZ bG=>asW y A n c p aZ aG (by omega) (bG.a7 aj) aF) aJ<|fun q rl=>ac I I<|cB I I I<|cB I I I<|ak I I<|ak I I<|U.next<|J.seq<|J.aw 2 I<|ac I I<|jl I I<|U.next<|J.dy I<|J.skip<|al.code<|J.aw 7 I<|ie 2 I I I<|bJ I I I I (fun w hw=>R1 b k w) aJ<|ac I I<|dh I I I I (fun aZ bG=>abB (ib b k) A n c p aZ (VJ b k) aG (by omega) (bG.a7 aj)) aJ<|fun da hD=>ac I I ?_;subst aQ;refine ma 0 I I I I (ys:=aA .u8 (y.kL p)) (fun w hw=>(hw.has (i:=1) I).dw) (mz _ _) I (by omega) (by unfold maxLen;omega) (by omega) (fun _ _ _ _=>trivial)<|fun uy k0 tx=>U.pre (fun _ h=>by rw[J0] at h;exact h)<|ak I I<|U.bl 12 I<|ac I I<|bI I I<|bd I I<|c5 I I (v:=.pointer (some ⟨x.dd,0,none⟩)) (fun _ hw=>(hw.a7 l9).fI (j:=2) I)<|bJ I I I I (fun w hw=>FD x.dd x.bT w (hw.a7 j2)) aJ<|ac I I<|dh I I I I (fun aZ bG=>amo x.bT m t (n+32) x.q uy (n+32) k0 (hx b k y p) aZ av.mt aM (bG.a7 kT) ((bG.has (i:=0) I).dw) tB (by omega) tx I) aJ<|fun z aL=>ac I I<|cB I I I<|cB I I I<|ak I I<|ak I I<|U.next<|J.seq<|J.aw 2 I<|ac I I<|jl I I<|U.next<|J.dy I<|J.skip<|al.code ?_;refine J.cut (G:=Unit) (fun _=>[(12,.slice uy (n+32) k0),(13,.slice z.1 (aY m t) z.2)]) (fun _=>au (oj w) w [own 5 1 z.1 (aY m t) z.2 (aA .u8 (lI m t (fm m t (hx b k y p)))),own 5 1 uy (n+32) k0 (aA .u8 (hx b k y p))]) (fun _=>True) ?_ ?_
 ·refine J.aw 8 I<|ac I I<|bI I I<|bd I I<|c5 I I (v:=.pointer (some ⟨x.dd,0,none⟩)) (fun _ hw=>(hw.a7 l9).fI (j:=2) I)<|bJ I I I I (fun w hw=>FD x.dd x.bT w (hw.a7 j2)) aJ<|bJ I I I I (fun w hw=>GM x.bT m t (n+32) x.q w (hw.a7 kT)) aJ<|h4 I I I (by omega) (r:=((aR m t%8:Nat):Int)) (by rfl)<|ak I I<|U.bl 2 I<|ac I I<|fD I I I I<|U.next ?_;refine J.test I (fun ag=>?_) (fun ag=>?_)
  ·have tA:0<aR m t%8:=by omega
   have YJ:aR m t%8<8:=fV _ (by decide);exact J.dQ (bW [0,1,2,3,4,6,7] (cj [5] (bW [8,9] (cj [10] .done)))) (bF w []) mixed (by kernel_rfl) (fun _ h=>h.drew) (fun _ h=>h.nothing)<|ac I I<|ac I I<|cf I I<|eB I I I (r:=((aY m t- 1:Nat):Int)) (by rw[bm (by omega)];omega)<|gT 0 (aY m t- 1) rfl rfl rfl rfl rfl (by omega)<|ac rfl rfl<|ir rfl rfl rfl (by omega) (r:=((255*2^(aR m t%8)%256:Nat):Int)) (by rw[show(255:Int)=((255:Nat):Int) from rfl,pG (by omega)])<|km 0 rfl rfl rfl (jk (by rw[vb];omega))<|dY rfl rfl rfl rfl (r:=((ap (fm m t (hx b k y p)) (aY m t- 1)|||(255*2^(aR m t%8)%256):Nat):Int)) (by rw[Ex (fJ aeU _) (fV _ (by decide))])<|gT 0 (aY m t- 1) rfl rfl rfl rfl rfl (by omega)<|pw 0 rfl rfl rfl rfl rfl (by omega) (fun _ h=>h.nothing)<|U.end_<|al.join () ⟨rfl,rfl,trivial⟩ (fun _ h=>by rw[Sk,aqs vb tA] at h;exact h.pick [0,0] I) trivial
  ·have tA:¬0<aR m t%8:=by omega
   exact J.skip<|al.join () ⟨I,I,trivial⟩ (fun _ h=>by rw[←afD tA];exact h.pick [0,0] I) trivial
 ·intro _ _;exact J.aw 5 I<|ac I I<|ac I I<|ma 1 I I I I (ys:=aA .u8 (lI m t (fm m t (hx b k y p)))) (fun w hw=>(hw.has (i:=0) I).dw) (mz _ _) I (by omega) (by unfold maxLen;omega) (by omega) (fun _ _ _ _=>trivial)<|fun Es qz ZR=>ak rfl rfl<|ak rfl rfl<|U.next<|J.ret<|al.ret Tryz.results7 rfl (fun w hw=>⟨(Es,qz),rfl,ZR,by rw[J0] at hw;exact hw.pick [1] I⟩)
def pz(c:Nat)(m:b5)(v:aV)(f:Nat):cJ:= #[.int .i64 (c:Nat),.int .i64 m.iP,.int .i64 m.u4,.int .i64 m.uk,.int .i64 m.jb,.int .i64 m.o4,.int .i64 m.fl,v,.int .i64 (f:Nat)]
def ta.v(r:ta)(q:aN×Nat):aV:=.agg (pz r.c r.m (bE q r.d.length) r.f)
def b5.q2(m:b5):cw:=[.int .i64 m.iP,.int .i64 m.u4,.int .i64 m.uk,.int .i64 m.jb,.int .i64 m.o4,.int .i64 m.fl]
theorem isOk(c:Bool)(e:Nat→Addr)(k:Nat):BM (if c=true then .nilIface else mJ e k)=some (!c):=by cases c<;>rfl
theorem ae8(A:aN)(n c:Nat)(p:ae)(bw:aN)(cD c2:Nat)(ay:ae)(e:Nat→Addr)(w:ao)(aG:∀z∈p,z<256)(aQ:n=32)(ag:n≤c)(aj:Has (aP 1 A n (aA .u8 p)) w)(fF:∀z∈ay,z<256)(eX:cD≤1000000)(eU:Has (aP 1 bw cD (aA .u8 ay)) w)(c4:gI e w 0):
  cC Tryz.prog 71 [.slice A n c,.slice bw cD c2] w (two (us p ay).agg (if kK p ay=true then .nilIface else mJ e 0)):=by
 have h:=afo A n c p bw cD c2 ay e w aG aQ ag aj fF eX eU c4;rw[agR] at h;exact h
theorem XV{m t D:Nat}{d p a b l:ae}(h:hF m t D d p=some (a,b,l)):a.length=d.length:=by
 unfold hF at h;split at h
 ·injection h with h;injection h with aa ab;subst aa;rfl
 ·split at h
  ·cases h
  ·split at h
   ·cases h
   ·injection h with h;injection h with aa ab;subst aa;exact Aa _ _ _ _
theorem akS{m t D:Nat}{d p a b l:ae}(aW:∀x∈d,x<256)(h:hF m t D d p=some (a,b,l)):∀x∈a,x<256:=by
 unfold hF at h;split at h
 ·injection h with h;injection h with aa ab;subst aa;exact aW
 ·split at h
  ·cases h
  ·split at h
   ·cases h
   ·injection h with h;injection h with aa ab;subst aa;exact Ig _ aW
theorem atv{m t D:Nat}{d p a b l:ae}(h:hF m t D d p=some (a,b,l)):l.length≤8*D+aR m t:=by
 unfold hF at h;split at h
 ·injection h with h;injection h with aa ab;injection ab with ab an;subst an;exact dg _
 ·split at h
  ·cases h
  ·split at h
   ·cases h
   ·injection h with h;injection h with aa ab;injection ab with ab an;subst an;exact Ou _
theorem ajk(c0 m t s:Nat)(x:qw)(b k:Int)(A:aN)(n c:Nat)(p:ae)(w:ao)(av:mZ m t s)(ag:Has (jA c0 m t s x) w)(aG:∀z∈p,z<256)(aQ:n=s+32+aY m t)(tk:n≤c)(aj:Has (aP 1 A n (aA .u8 p)) w):cC Tryz.prog 37 [.pointer (some ⟨c0,0,none⟩),.agg #[.int .i64 b,.int .i64 k],.slice A n c] w (two (.agg (pz 2 ts eN 0)) (.bool (decide (e2 p≤t)))):=by
 obtain⟨l9,j2,kT⟩:=zT ag;have tT:=av.oW;have rH:=av.mt.o0;have uW:=av.mt.mW;have eA:p.length=n:=by have:=aj.hE;simpa[aA] using this
 refine b8 Tryz.func37 I Tryz.ntmps37 I<|J.aw 3 I<|fx I I aJ<|fun fb=>gg I aJ<|fun iD=>ak I I<|U.next<|J.seq<|J.dQ (bW [1,3,4,5,6] (.hp 0 (cj [2] (bW [7] (cj [8] (bW [9] .done)))) (cj [2] (bW [7] (cj [0,8] (bW [9] .done)))))) (bF w []) mixed (by kernel_rfl) (fun _ h=>h.drew) (fun _ h=>h.nothing)<|ac I I<|ac I I<|bI I I<|bd I I<|dc I I (v:=.int .i64 (t:Nat)) (fun _ hw=>(hw.a7 l9).fI (j:=1) I) ?_;refine U.hp ?_ ?_
 ·exact gl I I (cells:=pz 2 ts eN 0) (by kernel_rfl)<|bJ I I I I (fun w hw=>LJ A n c p w aG (by omega) (hw.a7 aj)) (fun _ h=>h.nothing)<|Bu I I I (r:=decide (e2 p≤t)) (pu.2 (by omega))<|fE 0 I I (by kernel_rfl) I I I I (fun _ h=>h.nothing)<|ak I I<|U.next<|J.ret<|al.nu (rs:=[.cell 6 48,.tmp 7]) Tryz.results37 (fun w hw=>⟨[_,_],⟨⟨_,I,hw.nO (q:=0) I (by rfl)⟩,I,trivial⟩,I,hw.nothing⟩)
 ·exact bJ I I I I (fun w hw=>LJ A n c p w aG (by omega) (hw.a7 aj)) (fun _ h=>h.nothing)<|Bu I I I (r:=decide (e2 p≤t)) (pu.2 (by omega))<|gl I I (cells:=pz 2 ts eN 0) (by kernel_rfl)<|fE 0 I I (by kernel_rfl) I I I I (fun _ h=>h.nothing)<|ak I I<|U.next<|J.ret<|al.nu (rs:=[.cell 6 48,.tmp 7]) Tryz.results37 (fun w hw=>⟨[_,_],⟨⟨_,I,hw.nO (q:=0) I (by rfl)⟩,I,trivial⟩,I,hw.nothing⟩)
theorem ana(c0:Nat)(b k:Int)(v:aV)(w:ao):cC Tryz.prog 39 [.pointer (some ⟨c0,0,none⟩),.agg #[.int .i64 b,.int .i64 k],v] w (two (.agg (pz 3 ts eN 0)) (.bool true)):=by
 exact b8 Tryz.func39 I Tryz.ntmps39 I<|J.aw 3 I<|fx I I aJ<|fun fb=>gg I aJ<|fun iD=>ak I I<|U.bl 3 I<|gl I I (cells:=pz 3 ts eN 0) (by kernel_rfl)<|fE 0 I I (by kernel_rfl) I I I I aJ<|ak I I<|U.next<|J.ret<|al.nu (rs:=[.cell 6 48,.tmp 7]) Tryz.results39 (fun w hw=>⟨[_,_],⟨⟨_,I,hw.nO (q:=0) I (by rfl)⟩,I,trivial⟩,I,hw.nothing⟩)
theorem acG{A:aN}{n c q:Nat}{p:ae}{w:ao}(aj:Has (aP 1 A n (aA .u8 p)) w)(h:q≤n)(ag:n≤c):Has (aP 1 (gw A q 1 c) (n- q) (aA .u8 (p.drop q))) w:=by
 have eA:p.length=n:=by have:=aj.hE;simpa[aA] using this
 refine Has.gK (aj.K2 (lo:=q) (hi:=n) h (cq _) ag) ?_;rw[dJ,dJ];unfold aA;rw[←LH,pK (by rw[iK,qV];omega)]
theorem TY(dd bT m t s:Nat)(q:gH)(A:aN)(n c:Nat)(p:ae)(e:Nat→Addr)(w:ao)(av:mZ m t s)(KJ:Has (aE dd 147 #[.pointer (some ⟨bT,0,none⟩)]) w)(gB:Has (j8 bT m t (s+32) q) w)(c4:gI e w 10)(aG:∀x∈p,x<256)(aQ:n=s+32+aY m t)(tk:n≤c)(aj:Has (aP 1 A n (aA .u8 p)) w):
  fh Tryz.prog 70 [.pointer (some ⟨dd,0,none⟩),.slice A (s+32) c,.slice (gw A (s+32) 1 c) (n- (s+32)) (c- (s+32))] w (X:=(aN×Nat)×(aN×Nat)×(aN×Nat)) (fun z=>To e (hF m t (s+32) (p.take (s+32)) (bj m t (p.drop (s+32)))) z) (fun _=>True) (fun z=>Ye (hF m t (s+32) (p.take (s+32)) (bj m t (p.drop (s+32)))) z):=by
 have eA:p.length=n:=by have:=aj.hE;simpa[aA] using this
 have aa:(p.take (s+32)).length=s+32:=by rw[fW];omega
 have ab:(p.drop (s+32)).length=n- (s+32):=by rw[qV];omega
 have e1:Has (aP 1 A (s+32) (aA .u8 (p.take (s+32)))) w:=Has.gK (aj.su (q:=s+32) (by omega)) (by rw[xE,dJ]);have a2:Has (aP 1 (gw A (s+32) 1 c) (n- (s+32)) (aA .u8 (p.drop (s+32)))) w:=acG aj (by omega) tk;have h:=att dd bT m t (s+32) q (A,c) (gw A (s+32) 1 c,c- (s+32)) (p.take (s+32)) (p.drop (s+32)) e w av.mt av.n1 KJ gB c4 (fun x af=>aG x (n9 af)) (fun x af=>aG x (xG af)) aa (by omega) (by rw[aa];exact e1) (by rw[ab];exact a2);rw[aa,ab] at h;exact h
theorem af6(c0 m t s:Nat)(x:qw)(b k:Int)(A:aN)(n c:Nat)(p:ae)(e:Nat→Addr)(w:ao)(av:mZ m t s)(ag:Has (jA c0 m t s x) w)(aG:∀z∈p,z<256)(aQ:n=s+32+aY m t)(tk:n≤c)(aj:Has (aP 1 A n (aA .u8 p)) w)(c4:gI e w 10)(lh:hF m t (s+32) (p.take (s+32)) (bj m t (p.drop (s+32)))=none):cC Tryz.prog 38 [.pointer (some ⟨c0,0,none⟩),.agg #[.int .i64 b,.int .i64 k],.slice A n c] w (two (.agg (pz 0 ts eN 0)) (.bool false)):=by
 obtain⟨l9,j2,kT⟩:=zT ag;have tT:=av.oW;have rH:=av.mt.o0;have uW:=av.mt.mW;have eA:p.length=n:=by have:=aj.hE;simpa[aA] using this
 refine b8 Tryz.func38 I Tryz.ntmps38 I<|J.aw 3 I<|fx I I aJ<|fun fb=>gg I aJ<|fun iD=>ak I I<|U.bl 7 I<|ac I I<|bI I I<|bd I I<|c5 I I (v:=.pointer (some ⟨x.dd,0,none⟩)) (fun _ hw=>(hw.a7 l9).fI (j:=2) I)<|bJ I I I I (fun w hw=>FD x.dd x.bT w (hw.a7 j2)) aJ<|bJ I I I I (fun w hw=>Iv x.bT m t (s+32) x.q w (hw.a7 kT)) aJ<|ak I I<|U.next<|J.seq<|J.dQ (bW [0,1,2,3,4,5,6,7,8,9] (cj [10] (bW [11,12,13,14,15,16,17,18,19] .done))) (bF w []) mixed (by kernel_rfl) (fun _ h=>h.drew) (fun _ h=>h.nothing)<|ac I I<|bI I I<|bd I I<|dc I I (v:=.pointer (some ⟨x.dd,0,none⟩)) (fun _ hw=>(hw.a7 l9).fI (j:=2) I)<|ac I I<|ac I I<|oJ (s+32) I I I I (by omega)<|ac I I<|ac I I<|B3 (s+32) I I I I (by omega) ?_;refine dh I I I I (X:=(aN×Nat)×(aN×Nat)×(aN×Nat)) (v:=fun z=>.tuple #[eN,eN,eN,mJ e 10]) (pf:=fun z=>True) (dv:=fun z=>[]) (fun aZ bG=>by
  have aB:=TY x.dd x.bT m t s x.q A n c p e aZ av (bG.a7 j2) (bG.a7 kT) (bG.mX c4) aG aQ tk (bG.a7 aj);rw[lh] at aB;exact aB) (fun _ h=>h.nothing) (fun z aL=>?_)
 exact ac I I<|cB I I I<|cB I I I<|cB I I I<|cB I I I<|ak I I<|ak I I<|ak I I<|ak I I<|U.next<|J.seq<|J.aw 2 I<|ac I I<|B2 I I<|U.next<|J.hH I<|J.aw 3 I<|gl I I (cells:=pz 0 ts eN 0) (by kernel_rfl)<|fE 0 I I (by kernel_rfl) I I I I aJ<|ak I I<|U.next<|J.ret<|al.nu (rs:=[.cell 6 48,.tmp 7]) Tryz.results38 (fun w hw=>⟨[_,_],⟨⟨_,I,hw.nO (q:=0) I (by rfl)⟩,I,trivial⟩,I,hw.nothing⟩)
theorem aiy(c0 m t s:Nat)(x:qw)(b k:Int)(A:aN)(n c:Nat)(p:ae)(e:Nat→Addr)(d ay l:ae)(w:ao)(av:mZ m t s)(ag:Has (jA c0 m t s x) w)(aG:∀z∈p,z<256)(aQ:n=s+32+aY m t)(tk:n≤c)(aj:Has (aP 1 A n (aA .u8 p)) w)(c4:gI e w 10)(iy:gI e w 0)(lh:hF m t (s+32) (p.take (s+32)) (bj m t (p.drop (s+32)))=some (d,ay,l)):fh Tryz.prog 38 [.pointer (some ⟨c0,0,none⟩),.agg #[.int .i64 b,.int .i64 k],.slice A n c] w (X:=aN×Nat) (fun q=>two (.agg (pz 1 (us (d.drop s) (fC (hl (ib b k)) (d.take s))) (bE q s) l.length)) (.bool (kK (d.drop s) (fC (hl (ib b k)) (d.take s))))) (fun _=>True) (fun q=>[own 5 1 q.1 s q.2 (aA .u8 (fC (hl (ib b k)) (d.take s)))]):=by
 obtain⟨l9,j2,kT⟩:=zT ag;have tT:=av.oW;have rH:=av.mt.o0;have uW:=av.mt.mW;have eA:p.length=n:=by have:=aj.hE;simpa[aA] using this
 have se:d.length=s+32:=by rw[XV lh,fW];omega
 have lE:∀z∈d,z<256:=akS (fun z aL=>aG z (n9 aL)) lh;have mI:=atv lh;have UQ:∀z∈d.take s,z<256:=fun z aL=>lE z (n9 aL);have QO:∀z∈d.drop s,z<256:=fun z aL=>lE z (xG aL);refine b8 Tryz.func38 I Tryz.ntmps38 I<|J.aw 3 I<|fx I I aJ<|fun fb=>gg I aJ<|fun iD=>ak I I<|U.bl 7 I<|ac I I<|bI I I<|bd I I<|c5 I I (v:=.pointer (some ⟨x.dd,0,none⟩)) (fun _ hw=>(hw.a7 l9).fI (j:=2) I)<|bJ I I I I (fun w hw=>FD x.dd x.bT w (hw.a7 j2)) aJ<|bJ I I I I (fun w hw=>Iv x.bT m t (s+32) x.q w (hw.a7 kT)) aJ<|ak I I<|U.next<|J.seq<|J.dQ (bW [0,1,2,3,4,5,6,7,8,9] (cj [10] (bW [11,12,13,14,15,16,17,18,19] .done))) (bF w []) mixed (by kernel_rfl) (fun _ h=>h.drew) (fun _ h=>h.nothing)<|ac I I<|bI I I<|bd I I<|dc I I (v:=.pointer (some ⟨x.dd,0,none⟩)) (fun _ hw=>(hw.a7 l9).fI (j:=2) I)<|ac I I<|ac I I<|oJ (s+32) I I I I (by omega)<|ac I I<|ac I I<|B3 (s+32) I I I I (by omega) ?_;refine dh I I I I (X:=(aN×Nat)×(aN×Nat)×(aN×Nat)) (v:=fun z=>.tuple #[bE z.1 d.length,bE z.2.1 ay.length,bE z.2.2 l.length,.nilIface]) (pf:=fun z=>d.length≤z.1.2) (dv:=fun z=>[own 5 1 z.1.1 d.length z.1.2 (aA .u8 d)]) (fun aZ bG=>by
  have aB:=TY x.dd x.bT m t s x.q A n c p e aZ av (bG.a7 j2) (bG.a7 kT) (bG.mX c4) aG aQ tk (bG.a7 aj);rw[lh] at aB;exact Calls.mono aB (fun e ar ⟨z,aa,_,an⟩=>⟨z,aa,(Has.ms (an.has (i:=0) I)).2.1,an⟩)) (fun _ h=>h.nothing) (fun z aL=>?_)
 exact ac I I<|cB I I I<|cB I I I<|cB I I I<|cB I I I<|ak I I<|ak I I<|ak I I<|ak I I<|U.next<|J.seq<|J.aw 2 I<|ac I I<|jl I I<|U.next<|J.dy I<|J.skip<|al.code<|J.seq<|J.dQ (bW [0,2,3,4,5,6,7] (cj [1,8] (bW [9] .done))) (bF w [aE fb 38 #[.int .i64 b,.int .i64 k]]) mixed (by kernel_rfl) (fun _ h=>h.drew) (fun _ h=>h.pick [2] I)<|PG (cs:=[.int .i64 b,.int .i64 k]) I I I (fun _ hw j v ax=>hw.cP (i:=0) I (by rw[iO];simpa using ax))<|ac rfl rfl<|ac rfl rfl<|bI rfl rfl<|bd rfl rfl<|dc rfl rfl (v:=.int .i64 (s:Nat)) (fun _ hw=>(hw.a7 l9).fI (j:=0) rfl)<|oJ s rfl rfl rfl rfl (by omega)<|bJ rfl rfl rfl rfl (fun w hw=>R1 b k w) (fun _ h=>h.pick [2] rfl)<|dh rfl rfl rfl rfl (fun aZ bG=>abB (ib b k) z.1.1 s z.1.2 (d.take s) aZ (VJ b k) UQ (by omega) (Has.gK (((bG.has (i:=0) rfl).dw).su (q:=s) (by omega)) (by rw[xE,dJ]))) (fun _ h=>h.pick [2] rfl)<|fun q aM=>ak rfl rfl<|U.bl 14 rfl<|ac rfl rfl<|ac rfl rfl<|bI rfl rfl<|bd rfl rfl<|c5 rfl rfl (v:=.int .i64 (s:Nat)) (fun _ hw=>(hw.a7 l9).fI (j:=0) rfl)<|B3 s rfl rfl rfl rfl (by omega)<|ac rfl rfl<|bJ rfl rfl rfl rfl (fun w hw=>ae8 (gw z.1.1 s 1 z.1.2) (d.length- s) (z.1.2- s) (d.drop s) q.1 s q.2 (fC (hl (ib b k)) (d.take s)) e w QO (by omega) (by omega) (acG ((hw.has (i:=1) rfl).dw) (by omega) aL) (NS _ _ UQ) (by omega) ((hw.has (i:=0) rfl).dw) (hw.mX iy)) aJ<|ac rfl rfl<|cB rfl rfl rfl<|cB rfl rfl rfl<|gg rfl aJ<|fun alN=>fE 0 rfl rfl (by kernel_rfl) rfl rfl rfl rfl aJ<|ak rfl rfl<|U.next<|J.seq<|J.dQ (bW [0,1,2,3,5,6] (cj [4,7] (bW [8] .done))) (bF w [aE alN 23 (us (d.drop s) (fC (hl (ib b k)) (d.take s))).cells]) mixed (by kernel_rfl) (fun _ h=>h.drew) (fun _ h=>h.pick [0] rfl)<|PG (cs:=(us (d.drop s) (fC (hl (ib b k)) (d.take s))).q2) rfl rfl rfl (fun _ hw j v ax=>hw.cP (i:=0) rfl (by rw[iO];simpa[b5.q2,b5.cells] using ax))<|ac rfl rfl<|ac rfl rfl<|cf rfl rfl<|ac rfl rfl<|arO rfl rfl (r:=kK (d.drop s) (fC (hl (ib b k)) (d.take s))) (isOk _ _ _)<|gl rfl rfl (cells:=pz 1 (us (d.drop s) (fC (hl (ib b k)) (d.take s))) (bE q s) l.length) (by kernel_rfl)<|fE 3 rfl rfl (by kernel_rfl) rfl rfl rfl rfl (fun _ h=>h.pick [0] rfl)<|ak rfl rfl<|U.next<|J.ret<|al.nu (rs:=[.cell 6 48,.tmp 7]) Tryz.results38 (fun w hw=>⟨[_,_],⟨⟨_,rfl,hw.nO (q:=3) rfl (by rfl)⟩,rfl,trivial⟩,⟨q,rfl,trivial,hw.pick [1] rfl⟩⟩)
theorem Ma(c0 m t s:Nat)(x:qw)(b k:Int)(A:aN)(n c:Nat)(p:ae)(e:Nat→Addr)(w:ao)(av:mZ m t s)(ag:Has (jA c0 m t s x) w)(aG:∀z∈p,z<256)(aQ:n=s+32+aY m t)(tk:n≤c)(aj:Has (aP 1 A n (aA .u8 p)) w)(c4:gI e w 10)(iy:gI e w 0):fh Tryz.prog 11 [.pointer (some ⟨c0,0,none⟩),.agg #[.int .i64 b,.int .i64 k],.slice A n c] w (X:=aN×Nat) (fun q=>two ((nb m t s b k p).v q) .nilIface) (fun q=>(nb m t s b k p).d=[]→q=(none,0)) (fun q=>[own 5 1 q.1 (nb m t s b k p).d.length q.2 (aA .u8 (nb m t s b k p).d)]):=by
 obtain⟨l9,j2,kT⟩:=zT ag;have tT:=av.oW;have rH:=av.mt.o0;have uW:=av.mt.mW;have eA:p.length=n:=by have:=aj.hE;simpa[aA] using this
 refine b8 Tryz.func11 I Tryz.ntmps11 I<|J.aw 3 I<|fx I I aJ<|fun fb=>gg I aJ<|fun iD=>ak I I<|U.next<|J.seq<|J.aw 5 I<|ac I I<|cf I I<|ac I I<|bJ I I I I (fun w hw=>Y8 c0 m t s x w av (hw.a7 ag)) aJ<|jT I I I (df (by omega))<|U.next<|J.dy I<|J.skip<|al.code<|J.seq<|J.aw 9 I<|ac I I<|oo I I I<|ac I I<|oo I I I<|ac I I<|oo I I I<|ja I I (cells:= #[.func (.func 37) #[.pointer (some ⟨c0,0,none⟩)] #[],.func (.func 38) #[.pointer (some ⟨c0,0,none⟩)] #[],.func (.func 39) #[.pointer (some ⟨c0,0,none⟩)] #[]]) (by kernel_rfl) I aJ<|fun ew=>cf I I<|ac I I<|U.next<|J.block<|J.loop (G:=Nat) (fun i=>[(2,.slice A n c),(4,.pointer (some ⟨fb,0,none⟩)),(6,.pointer (some ⟨iD,0,none⟩)),(25,.slice (some ⟨ew,0,none⟩) 3 3),(26,.int .i64 3),(27,.int .i64 (i:Nat))]) (fun _=>bF w [aE ew 109 #[.func (.func 37) #[.pointer (some ⟨c0,0,none⟩)] #[],.func (.func 38) #[.pointer (some ⟨c0,0,none⟩)] #[],.func (.func 39) #[.pointer (some ⟨c0,0,none⟩)] #[]],aE iD 48 (pz 0 ts eN 0),aE fb 38 #[.int .i64 b,.int .i64 k]]) (fun i=>i≤2∧(0<i→¬e2 p≤t)∧(1<i→nb m t s b k p=rh 3)) (fun i=>3- i) 0 ⟨I,I,I,I,I,I,trivial⟩ (fun _ h=>h) ⟨by decide,fun h=>absurd h (by decide),fun h=>absurd h (by decide)⟩ ?_;rintro i ⟨hi,anY,aad⟩;refine J.seq ?_;rcases(show i=0∨i=1∨i=2 by omega) with rfl|rfl|rfl
 ·refine J.rg 1 I<|cQ I I I (ek (by omega))<|U.next<|J.seq<|J.hH I<|J.skip<|al.code<|J.seq<|J.block<|J.aw 3 I<|eP 0 I I I I (by omega)<|cm 0 I I I (v:=.func (.func 37) #[.pointer (some ⟨c0,0,none⟩)] #[]) I<|ak I I<|U.bl 10 I<|ac I I<|ie 2 I I I<|ac I I<|bJ I I I I (fun w hw=>ajk c0 m t s x b k A n c p w av (hw.a7 ag) aG aQ tk (hw.a7 aj)) aJ<|ac I I<|cB I I I<|cB I I I<|gg I aJ<|fun HC=>fE 0 I I (by kernel_rfl) I I I I aJ<|ak I I<|U.bl 1 I<|ac I I<|U.next ?_;refine J.cond I (fun aL=>?_) (fun aL=>?_)
  ·have aL:=gF aL;exact J.aw 3 I<|ie 0 I I I<|fE 2 I I (by kernel_rfl) I I I I aJ<|ak I I<|U.next<|J.ret<|al.nu (rs:=[.cell 6 48,.tmp 7]) Tryz.results11 (fun w hw=>⟨[_,_],⟨⟨_,I,hw.nO (q:=2) I (by rfl)⟩,I,trivial⟩,(none,0),by rw[NU aL];rfl,fun _=>rfl,by rw[NU aL];exact(hw.pick [] I).iB 5 1⟩)
  ·have aL:=jG aL;exact J.skip<|al.aE<|al.code<|J.rg 2 I<|b1 I I I (r:=((1:Nat):Int)) I<|ac I I<|U.end_<|al.back 1 ⟨I,I,I,I,I,I,trivial⟩ (fun _ h=>h.pick [1,1,1] I) ⟨by decide,fun _=>aL,fun h=>absurd h (by decide)⟩ (by decide)
 ·refine J.rg 1 I<|cQ I I I (ek (by omega))<|U.next<|J.seq<|J.hH I<|J.skip<|al.code<|J.seq<|J.block<|J.aw 3 I<|eP 1 I I I I (by omega)<|cm 0 I I I (v:=.func (.func 38) #[.pointer (some ⟨c0,0,none⟩)] #[]) I<|ak I I<|U.next<|J.seq ?_;have aL:=anY (by decide);rcases lh:hF m t (s+32) (p.take (s+32)) (bj m t (p.drop (s+32))) with _|⟨d,ay,l⟩
  ·exact J.rg 10 I<|ac I I<|ie 2 I I I<|ac I I<|bJ I I I I (fun w hw=>af6 c0 m t s x b k A n c p e w av (hw.a7 ag) aG aQ tk (hw.a7 aj) (hw.mX c4) lh) aJ<|ac I I<|cB I I I<|cB I I I<|gg I aJ<|fun HC=>fE 0 I I (by kernel_rfl) I I I I aJ<|ak I I<|U.bl 1 I<|ac I I<|U.next<|J.dy I<|J.skip<|al.aE<|al.code<|J.rg 2 I<|b1 I I I (r:=((2:Nat):Int)) I<|ac I I<|U.end_<|al.back 2 ⟨I,I,I,I,I,I,trivial⟩ (fun _ h=>h.pick [1,1,1] I) ⟨by decide,fun _=>aL,fun _=>Vt aL lh⟩ (by decide)
  ·refine J.rg 10 I<|ac I I<|ie 2 I I I<|ac I I<|dh I I I I (fun aZ bG=>aiy c0 m t s x b k A n c p e d ay l aZ av (bG.a7 ag) aG aQ tk (bG.a7 aj) (bG.mX c4) (bG.mX iy) lh) aJ<|fun q _=>ac I I<|cB I I I<|cB I I I<|gg I aJ<|fun HC=>fE 0 I I (by kernel_rfl) I I I I aJ<|ak I I<|U.bl 1 I<|ac I I<|U.next ?_;refine J.cond I (fun aH=>?_) (fun aH=>?_)
   ·have aH:kK (d.drop s) (fC (hl (ib b k)) (d.take s))=true:=aH;have Jb:us (d.drop s) (fC (hl (ib b k)) (d.take s))=b5.lR (d.drop s):=by unfold us;rw[aD aH]
    have se:(fC (hl (ib b k)) (d.take s)).length=s:=by rw[r9,fW,XV lh,fW];omega
    exact J.aw 3 I<|ie 0 I I I<|fE 3 I I (by kernel_rfl) I I I I aJ<|ak I I<|U.next<|J.ret<|al.nu (rs:=[.cell 6 48,.tmp 7]) Tryz.results11 (fun w hw=>⟨[_,_],⟨⟨_,I,hw.nO (q:=3) I (by rfl)⟩,I,trivial⟩,q,by rw[FV aL lh aH,Jb];show Ending.returned (two (.agg (pz 1 (b5.lR (d.drop s)) (bE q s) l.length)) .nilIface)=Ending.returned (two (.agg (pz 1 (b5.lR (d.drop s)) (bE q (fC (hl (ib b k)) (d.take s)).length) l.length)) .nilIface);rw[se],(fun aB=>by rw[FV aL lh aH] at aB;have uw:(fC (hl (ib b k)) (d.take s)).length=0:=ql List.length aB;have:=av.s1;omega),by rw[FV aL lh aH];show bF _ [own _ 1 _ (fC (hl (ib b k)) (d.take s)).length _ _] _;rw[se];exact hw.pick [1] I⟩)
   ·have aH:kK (d.drop s) (fC (hl (ib b k)) (d.take s))=false:=by simpa using aH
    exact J.skip<|al.aE<|al.code<|J.rg 2 I<|b1 I I I (r:=((2:Nat):Int)) I<|ac I I<|U.end_<|al.back 2 ⟨I,I,I,I,I,I,trivial⟩ (fun _ h=>h.pick [2,2,2] I) ⟨by decide,fun _=>aL,fun _=>Vg aL lh aH⟩ (by decide)
 ·exact J.rg 1 I<|cQ I I I (ek (by omega))<|U.next<|J.seq<|J.hH I<|J.skip<|al.code<|J.seq<|J.block<|J.aw 3 I<|eP 2 I I I I (by omega)<|cm 0 I I I (v:=.func (.func 39) #[.pointer (some ⟨c0,0,none⟩)] #[]) I<|ak I I<|U.bl 10 I<|ac I I<|ie 2 I I I<|ac I I<|bJ I I I I (fun w hw=>ana c0 b k (.slice A n c) w) aJ<|ac I I<|cB I I I<|cB I I I<|gg I aJ<|fun HC=>fE 0 I I (by kernel_rfl) I I I I aJ<|ak I I<|U.bl 1 I<|ac I I<|U.next<|J.hH I<|J.aw 3 I<|ie 0 I I I<|fE 2 I I (by kernel_rfl) I I I I aJ<|ak I I<|U.next<|J.ret<|al.nu (rs:=[.cell 6 48,.tmp 7]) Tryz.results11 (fun w hw=>⟨[_,_],⟨⟨_,I,hw.nO (q:=2) I (by rfl)⟩,I,trivial⟩,(none,0),by rw[aad (by decide)];rfl,fun _=>rfl,by rw[aad (by decide)];exact(hw.pick [] I).iB 5 1⟩)
def oG(x:Nat):Nat→Nat
 |0=>0
 |k+1=>oG x k+(1- (x>>>k)%2)
theorem Yr(x:Nat):∀k,oG x k≤k
 |0=>cq _
 |k+1=>by have:=Yr x k;show oG x k+_≤k+1;omega
theorem akM(x:Nat):oG x 8=kk x:=by
 unfold kk;simp only[oG,jp];simp only[Nat.reducePow,Nat.div_one];omega
theorem af9(A:aN)(n c:Nat)(p:ae)(w:ao)(aG:∀z∈p,z<256)(aQ:n≤1000000)(aj:Has (aP 1 A n (aA .u8 p)) w):cC Tryz.prog 159 [.slice A n c] w (.int .i64 (e2 p:Nat)):=by
 have o1:p.length=n:=by have:=aj.hE;simpa[aA] using this
 subst o1;refine b8 Tryz.func159 I Tryz.ntmps159 I<|J.aw 1 I<|ak I I<|U.bl 1 I<|ak I I<|U.next<|J.seq<|J.aw 1 I<|ak I I<|U.next<|J.block<|J.loop (G:=Nat) (fun i=>[(0,.slice A p.length c),(3,.int .i64 (e2 (p.take i):Nat)),(4,.int .i64 (i:Nat))]) (fun _=>bF w []) (fun i=>i≤p.length) (fun i=>p.length- i) 0 ⟨I,I,I,trivial⟩ (fun _ h=>h) (dg _) ?_;intro i hi;have aL:=La (p.take i);have BJ:(p.take i).length≤p.length:=by rw[fW];omega
 refine J.seq<|J.aw 4 I<|ac I I<|ac I I<|cf I I<|cQ I I I I<|U.next ?_;refine J.test I (fun ag=>?_) (fun ag=>?_)
 ·have gG:i<p.length:=by omega
  have fq:=fJ aG i;have aaK:=Kl (ap p i);refine J.skip<|al.code<|J.seq<|J.block<|J.aw 1 I<|ak I I<|U.next<|J.block<|J.loop (G:=Nat) (fun k=>[(0,.slice A p.length c),(3,.int .i64 (e2 (p.take i)+oG (ap p i) k:Nat)),(4,.int .i64 (i:Nat)),(5,.int .i64 (k:Nat))]) (fun _=>bF w []) (fun k=>k≤8) (fun k=>8- k) 0 ⟨I,I,I,I,trivial⟩ (fun _ h=>h) (dg _) ?_;intro k ah;have axL:=Yr (ap p i) k;refine J.seq<|J.aw 2 I<|ac I I<|cQ I I I I<|U.next ?_;refine J.test I (fun ag=>?_) (fun ag=>?_)
  ·have E6:k<8:=by omega
   refine J.skip<|al.code ?_;refine J.cut (G:=Unit) (fun _=>[(0,.slice A p.length c),(3,.int .i64 (e2 (p.take i)+oG (ap p i) (k+1):Nat)),(4,.int .i64 (i:Nat)),(5,.int .i64 (k:Nat))]) (fun _=>bF w []) (fun _=>True) ?_ ?_
   ·refine J.block<|J.aw 9 I<|ac I I<|ac I I<|fH i (fun w hw=>hw.a7 aj) I I I I (by omega)<|jN (fun w hw=>hw.a7 aj) I I (by rw[dJ];exact jk gG) (by omega)<|ac I I<|gW I I (r:=((k:Nat):Int)) (MY (by omega))<|iw I I I (by omega) (td (by omega))<|dY I I I I (Am (lU (yd _ _) fq))<|gy I I I I<|U.next ?_;refine J.test I (fun ag=>?_) (fun ag=>?_)
    ·have wh:oG (ap p i) (k+1)=oG (ap p i) k+1:=by show oG _ k+(1- _)=_;omega
     exact J.rg 3 I<|ac I I<|b1 I I I (r:=((e2 (p.take i)+oG (ap p i) (k+1):Nat):Int)) (by rw[bm (by omega),wh];omega)<|ak rfl rfl<|U.end_<|al.aE<|al.join () ⟨rfl,rfl,rfl,rfl,trivial⟩ (fun _ h=>h) trivial
    ·have wh:oG (ap p i) (k+1)=oG (ap p i) k:=by show oG _ k+(1- _)=_;omega
     exact J.skip<|al.aE<|al.join () ⟨I,by rw[wh];rfl,rfl,rfl,trivial⟩ (fun _ h=>h) trivial
   ·intro _ _;exact J.rg 3 I<|ac I I<|b1 I I I (r:=((k+1:Nat):Int)) (bm (by omega))<|ak I I<|U.end_<|al.back (k+1) ⟨I,I,I,I,trivial⟩ (fun _ h=>h) (by show k+1≤8;omega) (by show 8- (k+1)<8- k;omega)
  ·obtain rfl:k=8:=by omega
   have dT:e2 (p.take i)+oG (ap p i) 8=e2 (p.take (i+1)):=by rw[akM,aaw gG]
   rw[dT];exact J.exit I<|al.aE<|al.code<|J.rg 3 I<|ac I I<|b1 I I I (r:=((i+1:Nat):Int)) (bm (by omega))<|ak I I<|U.end_<|al.back (i+1) ⟨I,I,I,trivial⟩ (fun _ h=>h) (by show i+1≤p.length;omega) (by show p.length- (i+1)<p.length- i;omega)
 ·obtain rfl:i=p.length:=by omega
  rw[m4];exact J.exit I<|al.code<|J.aw 2 I<|ac I I<|ak I I<|U.next<|J.ret<|al.ret Tryz.results159 I (fun w hw=>⟨I,hw.nothing⟩)
end Go.Proofs.YtcgjepodnfjggaaGreatDoor
end
section
namespace Go.Proofs.YtcgjepodnfjggaaGreatDoor
open Go Go.a6 Go.cv jm
theorem ahf(f:Nat→Nat)(P:ae):iV P f=xs (fun j=>f (ap P j)) P.length:=
 A4 (P:=fun P=>iV P f=xs (fun j=>f (ap P j)) P.length) rfl (fun L k ih=>by
  rw[IJ,ih,ee];show _=xs (fun j=>f (ap (L++[k]) j)) (L.length+1);show _=xs (fun j=>f (ap (L++[k]) j)) L.length^^^f (ap (L++[k]) L.length);have bu:ap (L++[k]) L.length=k:=by unfold ap;simp
  rw[bu];congr 1;refine hz (fun j ax=>?_);have bD:ap (L++[k]) j=ap L j:=by unfold ap;simp[nE ax]
  rw[bD]) P
theorem ahC(m:Nat)(P:ae)(i:Nat):FA m P i=gh m P (i+1):=by
 unfold FA gh;rw[ahf];refine hz (fun j _=>?_);congr 1
theorem Yi(f:Nat→Bool):∀n,gj f n=(List.range n).filter f
 |0=>rfl
 |n+1=>by
  unfold gj;rw[Yi f n,Ct,zF];congr 1;by_cases h:f n=true
  ·rw[aD h];simp[h]
  ·rw[az h];simp[h]
theorem ajz{f:Nat→Bool}{n:Nat}(h:∀i j,i<n→j<n→f i=true→f j=true→i=j):(gj f n).length≤1:=by
 have aQ:=ES f n
 match cF:gj f n with
 |[]=>simp
 |[a]=>simp
 |a::b::r=>
  rw[cF] at aQ;have aj:a∈gj f n:=by rw[cF];simp
  have ad:b∈gj f n:=by rw[cF];simp
  obtain⟨e1,a2⟩:=(Bt f).1 aj;obtain⟨h8,hX⟩:=(Bt f).1 ad;have:=h a b e1 h8 a2 hX;subst this;simp at aQ
section
variable{m t:Nat}(h:e3 m t)
theorem SD{D:Nat}:∀(E:ae) {d p:ae},d.length=D→p.length=aY m t→(∀k∈E,k<8*D+aR m t)→E.Nodup→∀j,fT m t (E.foldl (fun a k=>jZ m t k a) d) (E.foldl (fun a k=>jP m t k a) p) j=fT m t d p j^^^(if j∈E then 1 else 0)
 |[],d,p,_,_,_,_,j=>by simp
 |k::E,d,p,aW,aG,c4,aQ,j=>by
  obtain⟨qZ,eX⟩:=yu.1 aQ;rw[rc,rc,SD E (by rw[Mo];exact aW) (by rw[OX];exact aG) (fun x af=>c4 x (eQ _ af)) eX j,anU aW aG (c4 k (by simp)),h5];congr 1;by_cases aa:j=k
  ·subst aa;rw[aD rfl,az qZ,aD (by simp)];rfl
  ·rw[az aa,hQ];by_cases ab:j∈E
   ·rw[aD ab,aD (eQ _ ab)]
   ·rw[az ab,az (fun an=>by rcases ei.1 an with aK|aK;exact aa aK;exact ab aK)]
include h
theorem afz{D:Nat}(r5:8*D+aR m t≤N m)(xb:2*t<N m){d dd pp:ae}(aW:d.length=D)(lE:∀x∈d,x<256)(j2:dd.length=D)(QO:∀x∈dd,x<256)(Hj:pp.length=aY m t)
  (c4:(gj (fun k=>wf m t dd pp k !=wf m t d (fm m t d) k) (8*D+aR m t)).length≤t):∃ay l,hF m t D dd pp=some (d,ay,l)∧l.length≤t:=by
 have hm:=h.ok;have axj:=h.t1;have vL:=h.t40;obtain⟨E,wS⟩:∃E,E=gj (fun k=>wf m t dd pp k !=wf m t d (fm m t d) k) (8*D+aR m t):=⟨_,rfl⟩;rw[←wS] at c4;have DK:∀k,k∈E↔k<8*D+aR m t∧(wf m t dd pp k !=wf m t d (fm m t d) k)=true:=fun k=>by rw[wS];exact Bt _
 have CJ:E.Nodup:=by rw[wS];exact ES _ _
 have Pp:∀k∈E,k<8*D+aR m t:=fun k ah=>((DK k).1 ah).1;have abA:∀k∈E,k<N m:=fun k ah=>by have:=Pp k ah;omega
 have Ns:∀i,1≤i→i≤2*t→gh m (gi m t dd pp (8*D+aR m t)) i=gh m E i:=fun i i1 i2=>by
  have e:=apK m (wf m t dd pp) (wf m t d (fm m t d)) i (8*D+aR m t);have z:=aaz h aW i1 i2 (by omega);unfold gi at z;rw[z,eS] at e;rw[wS,e];rfl
 have EJ:bh m t D dd pp=hc m t E:=by
  unfold bh hc fy;refine m1 (fun i hi=>?_);rw[pT] at hi;exact Ns (i+1) (by omega) (by omega)
 have RP:E.foldl (fun a k=>jZ m t k a) dd=d:=by
  refine afq (by rw[Aa,j2,aW]) (Ig _ QO) lE (fun j ax=>?_);rw[Aa,j2] at ax;have e:=SD E j2 Hj Pp CJ (aR m t+j);unfold fT at e;rw[az (by omega),az (by omega),Cg] at e;rw[e];have aa:=vR dd j;have ab:=vR d j;by_cases zg:aR m t+j∈E
  ·rw[aD zg];have an:=((DK _).1 zg).2;unfold wf fT at an;rw[az (by omega),az (by omega),Cg] at an;rcases(show cz dd j=0∨cz dd j=1 by omega) with a|a<;>rcases(show cz d j=0∨cz d j=1 by omega) with b|b<;>rw[a,b] at an⊢ <;>first|rfl|simp at an
  ·rw[az zg,eS];have an:¬(wf m t dd pp (aR m t+j) !=wf m t d (fm m t d) (aR m t+j))=true:=fun aK=>zg ((DK _).2 ⟨by omega,aK⟩);unfold wf fT at an;rw[az (by omega),az (by omega),Cg] at an;rcases(show cz dd j=0∨cz dd j=1 by omega) with a|a<;>rcases(show cz d j=0∨cz d j=1 by omega) with b|b<;>rw[a,b] at an⊢ <;>first|rfl|simp at an
 have acU:∀x∈hc m t E,x<2^m:=fun x af=>by
  unfold hc fy at af;obtain⟨i,_,rfl⟩:=gE.1 af;exact Ix hm _ _
 have aa4:∀i,i<2*t→ap (hc m t E) i=gh m E (i+1):=fun i hi=>wN hi;by_cases Ec:E=[]
 ·refine⟨pp,[],?_,dg _⟩;have gr:e9 (dR (bh m t D dd pp))=true:=by
   rw[EJ,Ec];unfold e9;rw[lf];intro x af;obtain⟨y,aF,rfl⟩:=gE.1 af;unfold hc fy at aF;obtain⟨i,_,rfl⟩:=gE.1 aF;rfl
  rw[ab8 gr];rw[Ec] at RP;rw[show dd=d from RP]
 ·have gr:e9 (dR (bh m t D dd pp))=false:=by
   rw[EJ,Bool.eq_false_iff];intro ag;refine Ec ?_;rw[wS];refine atD hm r5 (T:=2*t) (by rw[←wS];omega) (fun i hi=>?_);rw[←wS,←aa4 i hi];unfold e9 at ag;rw[lf] at ag;have y1:ap (hc m t E) i∈hc m t E:=by
    unfold ap;rw[eM,eF (by rw[qd];exact hi)];exact sN _
   have:=gF (ag _ (Vk (f:=Int.ofNat) y1));exact Int.ofNat_eq_zero.1 this
  have oQ:bK m (hc m t E)=cx m (dL m) (hc m t E) (2*t):=by
   unfold bK;rw[pK (by rw[qh,qd];omega),show bz m (dR (hc m t E))=hc m t E from xm acU,qd,kx (by omega)]
  obtain⟨h8,hX⟩:=aou hm (P:=E) abA CJ (s:=hc m t E) acU (n:=2*t) (fun i hi=>by rw[aa4 i hi,ahC]) (by omega);rw[←oQ] at h8 hX;have ic:(E.map Int.ofNat).length=E.length:=iK _;have Ps:=Bw hm (E.map Int.ofNat) (E.map Int.ofNat).length;have aap:=O9 hm (E.map Int.ofNat) (E.map Int.ofNat).length;have Cy:=GU (m:=m) (E.map Int.ofNat) (E.map Int.ofNat).length;have iQ:cV m t D (bK m (hc m t E)).c=E:=by
   unfold cV;rw[hX,show bz m (dR (m5 m (E.map Int.ofNat) (E.map Int.ofNat).length))=m5 m (E.map Int.ofNat) (E.map Int.ofNat).length from xm Ps.lt];have bu:(min ((8*D+aR m t:Nat):Int) (N m:Nat)).toNat=8*D+aR m t:=by omega
   rw[bu];unfold gM;refine Eq.trans (JJ (fun k ah=>?_)) (wS.trans (Yi _ _)).symm;rw[pT] at ah;have bD:=KW hm (E.map Int.ofNat) k (E.map Int.ofNat).length;rw[Bool.eq_iff_iff,Fe,bD];constructor
   ·rintro⟨i,hi,he⟩;have MK:i<E.length:=by omega
    have dl:(E.map Int.ofNat).getD i 0=((E[i]:Nat):Int):=by simp[MK]
    have ii:=abA _ (sN MK);rw[dl,pc (by omega) (by omega),pc (by omega) (by omega)] at he;have kq:E[i]=k:=by omega
    exact((DK k).1 (kq▸sN MK)).2
   ·intro jx;have arK:k∈E:=(DK k).2 ⟨ah,jx⟩;obtain⟨i,hi,he⟩:=E1 arK;refine⟨i,by omega,?_⟩;have dl:(E.map Int.ofNat).getD i 0=((E[i]:Nat):Int):=by simp[hi]
    rw[dl,he]
  have hlen:(bK m (hc m t E)).c.length=E.length+1:=by
   have aB:(m5 m (E.map Int.ofNat) (E.map Int.ofNat).length).length≠0:=fun aB=>by rw[dD (by omega)] at Cy;cases Cy
   have an:=atG hm Ps aB (n:=8*D+aR m t) r5;have aK:=iQ;unfold cV at aK;rw[hX,show bz m (dR (m5 m (E.map Int.ofNat) (E.map Int.ofNat).length))=m5 m (E.map Int.ofNat) (E.map Int.ofNat).length from xm Ps.lt] at aK;have bu:(min ((8*D+aR m t:Nat):Int) (N m:Nat)).toNat=8*D+aR m t:=by omega
   rw[bu] at aK;rw[aK] at an;rw[hX];omega
  have tY:qG t (bK m (bh m t D dd pp))=false:=by
   rw[EJ];unfold qG;rw[h8,hlen];exact df (by omega)
  refine⟨E.foldl (fun a k=>jP m t k a) pp,E,?_,c4⟩;rw[ajR gr tY (by rw[EJ,iQ,h8];simp)];rw[EJ,iQ,RP]
end
section
variable{m t:Nat}
def qt(m t D j:Nat):Nat:=if j<aR m t then 8*D+j else j- aR m t
theorem aua{q:ae}{D j:Nat}(h:j<8*D):cz (q.take D) j=cz q j:=by
 unfold cz ap;rw[eM,eM,mj,aD (by omega)]
theorem aoW(q:ae)(D j:Nat):cz (q.drop D) j=cz q (8*D+j):=by
 unfold cz ap;rw[eM,eM,wQ,show(8*D+j)/ 8=D+j/ 8 by omega,show(8*D+j)%8=j%8 by omega]
theorem aeb{x n s:Nat}(h:s<n):((x%2^n)>>>s)%2=(x>>>s)%2:=by
 have e:=vc x n s;rw[ek h,mU] at e;rw[uT,uT] at e;rw[jp,jp];have aa:=w5 (x%2^n/ 2^s);have ab:=w5 (x/ 2^s);by_cases an:x%2^n/ 2^s%2=1<;>by_cases aK:x/ 2^s%2=1
 ·omega
 ·rw[ek an,df aK] at e;cases e
 ·rw[df an,ek aK] at e;cases e
 ·omega
theorem Qd{p:ae}(aG:p.length=aY m t){j:Nat}(ax:j<aR m t):cz (bj m t p) j=cz p j:=by
 unfold bj;split
 ·rename_i h;have bc:aY m t=(aR m t+7)/ 8:=rfl;unfold cz;rw[uX (by omega)];by_cases ab:j/ 8=p.length- 1
  ·rw[aD ab,ab,aeb (by omega)]
  ·rw[az ab]
 ·rfl
theorem aeN{p:ae}(aG:p.length=aY m t){j:Nat}(ax:j<aR m t):cz (lI m t p) j=cz p j:=by
 unfold lI;split
 ·rename_i h;have bc:aY m t=(aR m t+7)/ 8:=rfl;unfold cz;rw[uX (by omega)];by_cases ab:j/ 8=p.length- 1
  ·rw[aD ab,ab];have aq:j%8<aR m t%8:=by omega
   have e:=RH (ap p (p.length- 1)) (255*2^(aR m t%8)%256) (j%8);have z:(255*2^(aR m t%8)%256).testBit (j%8)=false:=by
    rw[show(256:Nat)=2^8 from rfl,vc,Nat.testBit_mul_two_pow];simp[show ¬aR m t%8≤j%8 by omega]
   rw[z,NO,uT,uT] at e;rw[jp,jp];have an:=w5 ((ap p (p.length- 1)|||255*2^(aR m t%8)%256)/ 2^(j%8));have aK:=w5 (ap p (p.length- 1)/ 2^(j%8));rw[pu] at e;omega
  ·rw[az ab]
 ·rfl
theorem SY{D:Nat}{q:ae}(aM:q.length=D+aY m t){j:Nat}(ax:j<8*D+aR m t):fT m t (q.take D) (bj m t (q.drop D)) j=cz q (qt m t D j):=by
 unfold fT qt;by_cases h:j<aR m t
 ·rw[aD h,aD h,Qd (by rw[qV];omega) h,aoW]
 ·rw[az h,az h,aua (by omega)]
theorem anB{D i j:Nat}(hi:i<8*D+aR m t)(ax:j<8*D+aR m t)(h:qt m t D i=qt m t D j):i=j:=by
 unfold qt at h;split at h<;>split at h<;>omega
theorem aab{D:Nat}{d p:ae}:∀(K:ae) {q:ae},q.length=D+aY m t→(∀k∈K,k<8*q.length)→∀n,n≤8*D+aR m t→
  (gj (fun j=>wf m t ((K.foldl fY q).take D) (bj m t ((K.foldl fY q).drop D)) j !=wf m t d p j) n).length≤K.length+(gj (fun j=>wf m t (q.take D) (bj m t (q.drop D)) j !=wf m t d p j) n).length
 |[],q,_,_,n,_=>by simp
 |k::K,q,aM,eY,n,aQ=>by
  have ah:=eY k (by simp);have ih:=aab (d:=d) (p:=p) K (q:=fY q k) (by rw[oY];exact aM) (fun x af=>by rw[oY];exact eY x (eQ _ af)) n aQ;rw[rc];refine sW ih ?_;rw[iG];have e:(gj (fun j=>wf m t ((fY q k).take D) (bj m t ((fY q k).drop D)) j !=wf m t d p j) n)=gj (fun j=>decide (qt m t D j=k) !=(wf m t (q.take D) (bj m t (q.drop D)) j !=wf m t d p j)) n:=Pm (fun j ax=>by
   unfold wf;rw[SY (by rw[oY];exact aM) (by omega),SY aM (by omega),Ht ah];have aa:=vR q (qt m t D j);generalize decide (0<fT m t d p j)=c;by_cases ab:qt m t D j=k
   ·rw[aD ab,ek ab];rcases(show cz q (qt m t D j)=0∨cz q (qt m t D j)=1 by omega) with a|a<;>rw[a]<;>cases c<;>rfl
   ·rw[az ab,df ab,eS];generalize decide (0<cz q (qt m t D j))=b;cases b<;>cases c<;>rfl)
  rw[e];have an:=XJ (fun j=>decide (qt m t D j=k)) (fun j=>wf m t (q.take D) (bj m t (q.drop D)) j !=wf m t d p j) n;have aK:(gj (fun j=>decide (qt m t D j=k)) n).length≤1:=ajz (fun i j hi ax aa ab=>anB (by omega) (by omega) ((gF aa).trans (gF ab).symm));omega
theorem aga(x s:Nat)(af:x<256)(aq:s<8):kk x≤kk (x^^^2^s)+1:=by
 have:∀x:Nat,x<256→∀s:Nat,s<8→kk x≤kk (x^^^2^s)+1:=by decide+kernel
 exact this x af s aq
theorem Th:∀(l:ae) (i v:Nat),i<l.length→kk (ap l i)≤kk v+1→e2 l≤e2 (l.set i v)+1
 |[],_,_,h,_=>by simp at h
 |x::l,0,v,_,ab=>by
  have an:kk x≤kk v+1:=ab;simp only[wD,e2];omega
 |x::l,i+1,v,h,ab=>by
  have an:=Th l i v (by simpa using h) ab;simp only[DO,e2];omega
theorem UW:∀(K:ae) {q:ae},(∀x∈q,x<256)→(∀k∈K,k<8*q.length)→e2 q≤e2 (K.foldl fY q)+K.length
 |[],_,_,_=>by simp
 |k::K,q,fq,eY=>by
  have ah:=eY k (by simp);have ih:=UW K (q:=fY q k) (IW fq k) (fun x af=>by rw[oY];exact eY x (eQ _ af));have aa:e2 q≤e2 (fY q k)+1:=Th q (k/ 8) _ (by omega) (aga _ _ (fJ fq _) (fV _ (by decide)));rw[rc,iG];omega
end
theorem abW(n:Nat)(l r:ae)(i:Nat)(h:l.length=i)(aQ:n<4294967296):hS (l++fQ n++r) i=n:=by
 subst h;rw[rZ];have:=Yf l (fQ n++r) 0;rw[wW] at this;rw[this];exact Ya aQ r
theorem b5.aqV{y:b5}(aF:y.ok=true){d:ae}(aW:∀z∈d,z<256):b5.lR (y.kL d)=y∧kK (y.kL d) d=true:=by
 have aI:=b5.Qz aF;have Ef:fz d<4294967296:=I7 aW;have k8:fz (y.by 6++fQ (fz d))<4294967296:=I7 (y.Oc d);have Pn:∀n∈y.aA,n<2^32:=fun n aQ=>by
  unfold b5.aA b5.l at aQ;have aB:=aI 0 (by decide);have aa:=aI 1 (by decide);have ab:=aI 2 (by decide);have an:=aI 3 (by decide);have aK:=aI 4 (by decide);have bo:=aI 5 (by decide);unfold b5.f b5.l at aB aa ab an aK bo;simp only[PD,N4] at aB aa ab an aK bo;simp only[hW,lm,ei,we,or_false] at aQ;omega
 have atr:∀i,i<6→hS (y.kL d) (4*i)=(y.f i).toNat:=fun i hi=>by
  have e:y.kL d=qk y.aA++(fQ (fz d)++fQ (fz (y.by 6++fQ (fz d)))):=by
   unfold b5.kL b5.by;rw[pK (show y.aA.length≤6 from cq _),rZ]
  rw[e,Zq y.aA i _ hi Pn]
  match i,hi with
  |0,_=>rfl
  |1,_=>rfl
  |2,_=>rfl
  |3,_=>rfl
  |4,_=>rfl
  |5,_=>rfl
 have Zs:b5.lR (y.kL d)=y:=by
  have g:∀i,i<6→((hS (y.kL d) (4*i):Nat):Int)=y.f i:=fun i hi=>by rw[atr i hi,Fb (aI i hi).1]
  have g0:=g 0 (by decide);have g1:=g 1 (by decide);have g2:=g 2 (by decide);have g3:=g 3 (by decide);have g4:=g 4 (by decide);have g5:=g 5 (by decide);simp only[JD,Nat.reduceMul] at g0 g1 g2 g3 g4 g5;unfold b5.lR;rw[g0,g1,g2,g3,g4,g5];rfl
 refine⟨Zs,?_⟩;have QK:(y.by 6).length=24:=b5.Xs (cq 6);have apR:(y.kL d).take 28=y.by 6++fQ (fz d):=by
  unfold b5.kL;rw[Ab (by rw[ee,QK];rfl)]
 have apB:hS (y.kL d) 28=fz (y.by 6++fQ (fz d)):=by
  have:=abW (fz (y.by 6++fQ (fz d))) (y.by 6++fQ (fz d)) [] 28 (by rw[ee,QK];rfl) k8;rw[nK] at this;exact this
 have anO:hS (y.kL d) 24=fz d:=abW (fz d) (y.by 6) _ 24 QK Ef;unfold kK FI;rw[apR,apB,anO,Zs,aF];simp
theorem aue{y:b5}(aF:y.ok=true)(d:ae):24≤e2 (y.kL d):=by
 have ah:1≤y.iP∧y.iP≤6:=by
  unfold b5.ok at aF;simp only[b7,vv] at aF;exact aF.2
 obtain⟨r,aH⟩:∃r,y.kL d=fQ y.iP.toNat++r:=⟨_,by
  unfold b5.kL b5.by;rw[rZ];show(fQ y.iP.toNat++_)++_=_;rw[rZ]⟩
 rw[aH,EH];have bu:y.iP.toNat/ 256%256=0:=by omega
 have bD:y.iP.toNat/ 65536%256=0:=by omega
 have dl:y.iP.toNat/ 16777216%256=0:=by omega
 have:24≤e2 (fQ y.iP.toNat):=by
  unfold fQ;rw[bu,bD,dl];simp only[e2];have z0:kk 0=8:=rfl;omega
 omega
theorem ah5{m t s:Nat}(av:mZ m t s)(xb:2*t<N m)(bb:t≤11){b k:Int}{y:b5}(aF:y.ok=true){d:ae}(aW:d.length=s)(lE:∀z∈d,z<256){K:ae}(eY:∀k∈K,k<8*(s+32+aY m t))(axM:K.length≤t):
  ∃f,f≤t∧nb m t s b k (K.foldl fY (fr m t b k y d))=⟨1,y,d,f⟩:=by
 have k7:(hx b k y d).length=s+32:=by unfold hx;rw[ee,r9,b5.Yb,aW]
 have tB:∀z∈hx b k y d,z<256:=If lE;have s3:(fr m t b k y d).length=s+32+aY m t:=by unfold fr;rw[ee,k7,Hp,sE]
 have aaT:∀z∈fr m t b k y d,z<256:=fun z aL=>by
  rcases hI.1 aL with h|h
  ·exact tB z h
  ·exact Wm (KO av.mt _) z h
 have js:∀(K:ae) {q:ae},(K.foldl fY q).length=q.length:=by
  intro K;induction K with
  |nil=>intro q;rfl
  |cons k K ih=>intro q;rw[rc,ih,oY]
 have uL:∀(K:ae) {q:ae},(∀x∈q,x<256)→∀x∈K.foldl fY q,x<256:=by
  intro K;induction K with
  |nil=>intro q h;exact h
  |cons k K ih=>intro q h;exact ih (IW h k)
 have oz:24≤e2 (fr m t b k y d):=by
  have:=aue aF d;unfold fr hx;rw[EH,EH];omega
 have J8:=UW K aaT (fun x af=>by rw[s3];exact eY x af);have aL:¬e2 (K.foldl fY (fr m t b k y d))≤t:=by omega
 have aB:gj (fun j=>wf m t ((fr m t b k y d).take (s+32)) (bj m t ((fr m t b k y d).drop (s+32))) j !=wf m t (hx b k y d) (fm m t (hx b k y d)) j) (8*(s+32)+aR m t)=[]:=aaQ (fun j ax=>by
  have z6:(fr m t b k y d).take (s+32)=hx b k y d:=by unfold fr;exact Ab k7
  have Mb:(fr m t b k y d).drop (s+32)=lI m t (fm m t (hx b k y d)):=by unfold fr;exact Kq k7
  rw[z6,Mb];have e:fT m t (hx b k y d) (bj m t (lI m t (fm m t (hx b k y d)))) j=fT m t (hx b k y d) (fm m t (hx b k y d)) j:=by
   unfold fT;by_cases aa:j<aR m t
   ·rw[aD aa,aD aa,Qd (by rw[Hp,sE]) aa,aeN (sE _ _ _) aa]
   ·rw[az aa,az aa]
  unfold wf;rw[e];simp)
 have aa:=aab (d:=hx b k y d) (p:=fm m t (hx b k y d)) K s3 (fun x af=>by rw[s3];exact eY x af) (8*(s+32)+aR m t) (cq _);rw[aB] at aa;obtain⟨ay,l,lh,bc⟩:=afz av.mt av.fit xb k7 tB (dd:=(K.foldl fY (fr m t b k y d)).take (s+32)) (pp:=bj m t ((K.foldl fY (fr m t b k y d)).drop (s+32)))
  (by rw[fW,js,s3];omega) (fun x af=>uL K aaT x (n9 af)) (by rw[Ww,qV,js,s3];omega) (by simp only[A0,wW] at aa;omega)
 have bb:(hx b k y d).take s=fC (hl (ib b k)) d:=by unfold hx;exact Ab (by rw[r9,aW])
 have vB:(hx b k y d).drop s=y.kL d:=by unfold hx;exact Kq (by rw[r9,aW])
 obtain⟨w6,sZ⟩:=b5.aqV aF lE;refine⟨l.length,bc,?_⟩;have e:=FV (b:=b) (k:=k) aL lh (by rw[bb,vB,MT];exact sZ);rw[e,vB,bb,w6,MT]
end Go.Proofs.YtcgjepodnfjggaaGreatDoor
end
section
namespace Go.Proofs.YtcgjepodnfjggaaGreatDoor
open Go Go.a6
set_option maxRecDepth 100000
structure pS where
 op:Int
 kind:Int
 level:Int
 n:Int
 bits:b3
structure im where
 cells:ae
 laid:ae
 used:Bool
structure jQ where
 bO:List im
 Br:Int
 marked:Bool
structure c7 where
 bO:Int
 size:Int
 ot:Int
 blocks:List jQ
 dP:List pS
 ops:Int
 broken:Int
 off:Bool
def wr(n:Int):Int:=IntKind.i64.wrap n
def nJ(b:ae)(i:Int):ae:=if 0≤i∧i<8*(b.length:Int) then b.set (i.toNat/ 8) (b.getD (i.toNat/ 8) 0^^^2^(i.toNat%8)) else b
def e6(b:ae)(l:b3):ae:=l.foldl nJ b
def c7.eW(s:c7):List pS:=s.dP.filter (fun f=>decide (f.op=s.ops))
def p8(l:List pS)(k:Int):Option pS:=l.find? (fun f=>decide (f.kind=k))
def B1(off is sized:Bool):Int:=if off then 109 else if !is then 110 else if !sized then 116 else 0
def c7.has(s:c7)(i:Int):Bool:=decide (0≤i∧i<(s.blocks.length:Int))
def c7.j3(s:c7)(b p:Int):Bool:=s.has b&&decide (0≤p∧p<s.bO)
def jQ.hj:jQ:=⟨[],0,false⟩
def im.hj:im:=⟨[],[],false⟩
def c7.bU(s:c7)(b:Int):jQ:=s.blocks.getD b.toNat jQ.hj
def c7.bZ(s:c7)(b p:Int):im:=(s.bU b).bO.getD p.toNat im.hj
def c7.tick(s:c7):c7:={s with ops:=wr (s.ops+1)}
def D6(l:List pS)(level:Int)(b:ae):ae:=l.foldl (fun b f=>if f.kind=1∧(f.level= -1∨f.level=level) then e6 b f.bits else b) b
def zW(l:List pS)(b:ae):ae:=l.foldl (fun b f=>if f.kind=4 then e6 b f.bits else b) b
def c7.rm(s:c7)(b p level:Int):Int:=B1 s.off (s.j3 b p&&decide (0≤level∧level<s.ot)) true
def c7.wI(s:c7)(b p:Int)(n:Nat):Int:=B1 s.off (s.j3 b p) (decide ((n:Int)=s.size))
def c7.UH(s:c7)(b:Int):Int:=B1 s.off (s.has b) true
def c7.rd(s:c7)(b p level:Int):Int×ae×c7:=
 if s.rm b p level≠0 then(s.rm b p level,[],s)
 else if(p8 s.eW 3).isSome then(109,[],{s.tick with off:=true})
 else(0,D6 s.eW level (s.bZ b p).cells,s.tick)
def vt(bO:List im)(p:Int):Bool:=bO.zipIdx.any (fun x=>decide ((x.2:Int)<p)&& !x.1.used||decide (p≤(x.2:Int))&&x.1.used)
def gx(l:List pS)(size:Int):Int×Int:=
 match p8 l 3 with
 |some f=>(f.n,109)
 |none=>match p8 l 2 with
  |some f=>(f.n,111)
  |none=>(size,0)
def ht(n size:Int):Nat:=(min (max n 0) size).toNat
def hA(m:Nat)(a b:ae):ae:=(List.zipWith (fun x y=>x&&&y) (a.take m) (b.take m))++a.drop m
def c7.HW(s:c7)(b p:Int)(q:im):c7:={s with blocks:=s.blocks.set b.toNat {s.bU b with bO:=(s.bU b).bO.set p.toNat q}}
def c7.ha(s:c7)(b p:Int)(l:ae):Int×c7:=
 if s.wI b p l.length≠0 then(s.wI b p l.length,s)
 else
  let r:=gx s.eW s.size
  let s1:c7:={s with broken:=if vt (s.bU b).bO p then wr (s.broken+1) else s.broken}
  let s2:c7:={s1.tick with off:=(p8 s.eW 3).isSome}
  (r.2,s2.HW b p ⟨hA (ht r.1 s.size) (s.bZ b p).cells (zW s.eW l),l,true⟩)
def ado(l:List pS)(bO:Int):Nat×Int:=
 match p8 l 3 with
 |some f=>(ht f.n bO,109)
 |none=>match p8 l 2 with
  |some _=>(0,111)
  |none=>(bO.toNat,0)
def im.bare(size:Nat):im:=⟨List.replicate size 255,[],false⟩
def c7.mX(s:c7)(b:Int):Int×c7:=
 if s.UH b≠0 then(s.UH b,s)
 else
  let r:=ado s.eW s.bO
  let k:=s.bU b
  (r.2,{s.tick with off:=(p8 s.eW 3).isSome,blocks:=s.blocks.set b.toNat {k with bO:=List.replicate r.1 (im.bare s.size.toNat)++k.bO.drop r.1,Br:=if r.2=0 then wr (k.Br+1) else k.Br}})
structure c7.Ok(s:c7):Prop where
 cT:1≤s.bO
 ix:s.bO≤64
 z0:1≤s.size
 gC:s.size≤4096
 v0:1≤s.ot
 v1:s.ot≤8
 h8:s.blocks.length≤64
 bZ:∀b∈s.blocks,(b.bO.length:Int)=s.bO∧∀p∈b.bO,(p.cells.length:Int)=s.size∧(∀x∈p.cells,x<256)∧p.laid.length≤4096∧∀x∈p.laid,x<256
 pl:s.dP.length≤1000
 o4:∀f∈s.dP,f.bits.length≤1000000
def u0(e:Nat→Addr)(c:Int):aV:=if c=0 then .nilIface else mJ e (pE.getD (c- 101).toNat 0)
theorem W8(e:Nat→Addr)(c:Int):BM (u0 e c)=some (decide (c≠0)):=by
 unfold u0;by_cases h:c=0
 ·rw[aD h,df (fun aQ=>aQ h)];rfl
 ·rw[az h,ek h];rfl
theorem XC{off is sized:Bool}(h:B1 off is sized=0):off=false∧is=true∧sized=true:=by
 cases off<;>cases is<;>cases sized<;>first|exact⟨rfl,rfl,rfl⟩|(exfalso;revert h;decide)
structure cr where
 op:Int
 kind:Int
 level:Int
 n:Int
 A:aN
 c:Nat
 bits:b3
def cr.row(f:cr):cw:=[.int .i64 f.op,.int .i64 f.kind,.int .i64 f.level,.int .i64 f.n,.slice f.A f.bits.length f.c]
def cr.dM(f:cr):bi:=own 3 1 f.A f.bits.length f.c (ints .i64 f.bits)
def cr.abs(f:cr):pS:=⟨f.op,f.kind,f.level,f.n,f.bits⟩
def cr.hj:cr:=⟨0,0,0,0,none,0,[]⟩
structure wg where
 A:aN
 c:Nat
 l:List cr
def wg.own(y:wg):bi:=Go.a6.own 43 5 y.A y.l.length y.c (y.l.flatMap cr.row)
def wg.star(y:wg):bi:=c1 (y.l.map cr.dM)
structure cH where
 A:aN
 c:Nat
 l:ae
 B:aN
 d:Nat
 laid:ae
 used:Bool
def cH.row(p:cH):cw:=[.slice p.A p.l.length p.c,.slice p.B p.laid.length p.d,.bool p.used]
def cH.sy(p:cH):bi:=own 5 1 p.A p.l.length p.c (aA .u8 p.l)
def cH.pA(p:cH):bi:=own 5 1 p.B p.laid.length p.d (aA .u8 p.laid)
def cH.dM(p:cH):bi:=c1 [p.sy,p.pA]
def cH.abs(p:cH):im:=⟨p.l,p.laid,p.used⟩
structure cn where
 A:aN
 c:Nat
 bO:List cH
 Br:Int
 marked:Bool
def cn.row(b:cn):cw:=[.slice b.A b.bO.length b.c,.int .i64 b.Br,.bool b.marked]
def cn.rows(b:cn):bi:=own 98 3 b.A b.bO.length b.c (b.bO.flatMap cH.row)
def cn.dM(b:cn):bi:=c1 [b.rows,c1 (b.bO.map cH.dM)]
def cn.abs(b:cn):jQ:=⟨b.bO.map cH.abs,b.Br,b.marked⟩
structure bS where
 bO:Int
 size:Int
 ot:Int
 A:aN
 c:Nat
 blocks:List cn
 pg:aN
 c0:Nat
 dP:List cr
 ops:Int
 broken:Int
 off:Bool
 watch:aV
def bS.abs(x:bS):c7:=⟨x.bO,x.size,x.ot,x.blocks.map cn.abs,x.dP.map cr.abs,x.ops,x.broken,x.off⟩
def bS.cells(x:bS):cJ:= #[.int .i64 x.bO,.int .i64 x.size,.int .i64 x.ot,.slice x.A x.blocks.length x.c,.slice x.pg x.dP.length x.c0,.int .i64 x.ops,.int .i64 x.broken,.bool x.off,x.watch]
def bS.aW(g:Nat)(x:bS):bi:=aE g 92 x.cells
def bS.lX(x:bS):bi:=own 95 3 x.A x.blocks.length x.c (x.blocks.flatMap cn.row)
def bS.p1(x:bS):bi:=c1 (x.blocks.map cn.dM)
def bS.sm(x:bS):bi:=own 43 5 x.pg x.dP.length x.c0 (x.dP.flatMap cr.row)
def bS.fst(x:bS):bi:=c1 (x.dP.map cr.dM)
def bS.parts(g:Nat)(x:bS):List bi:=[x.aW g,x.lX,x.p1,x.sm,x.fst]
def ff(g:Nat)(x:bS):bi:=c1 (x.parts g)
theorem Dz(f:cr):f.row.length=5:=rfl
theorem An(p:cH):p.row.length=3:=rfl
theorem tN(b:cn):b.row.length=3:=rfl
section
variable{F:Nat→Prop}{w₀ w:ao}{L:List bi}{g:Nat}{x:bS}
theorem _root_.Go.a6.au.w4(h:au F w₀ (ff g x::L) w):au F w₀ (x.aW g::x.lX::x.p1::x.sm::x.fst::L) w:=h.open_
theorem _root_.Go.a6.au.ve(h:au F w₀ (x.aW g::x.lX::x.p1::x.sm::x.fst::L) w):au F w₀ (ff g x::L) w:=au.close_ (x.parts g) h
theorem _root_.Go.a6.Has.rj{X:List bi}{A:bi}{w:ao}(h:Has (c1 X) w)(bs:A∈X):Has A w:=by
 obtain⟨D,aa,ab⟩:=h;have key:∀(X:List bi) (D:Nat→Prop),zm X w D→(∀k,D k→k<w.heap.size)→A∈X→Has A w:=by
  intro X;induction X with
  |nil=>intro D _ _ hm;cases hm
  |cons B X ih=>
   rintro D ⟨iI,iU,k1,k2,bx,cl⟩ ca hm;rcases ei.1 hm with rfl|hm
   ·exact⟨iI,k1,fun k ah=>ca k ((bx k).2 (.inl ah))⟩
   ·exact ih iU k2 (fun k ah=>ca k ((bx k).2 (.inr ah))) hm
 exact key X D aa ab bs
theorem atU(h:Has (ff g x) w):Has (x.aW g) w:=h.rj (by simp[bS.parts])
theorem HA(h:Has (ff g x) w):Has (aP 3 x.A x.blocks.length (x.blocks.flatMap cn.row)) w:=(h.rj (A:=x.lX) (by simp[bS.parts])).dw
theorem aqd(h:Has x.fst w){f:cr}(aI:f∈x.dP):Has (aP 1 f.A f.bits.length (ints .i64 f.bits)) w:=(h.rj (A:=f.dM) (List.mem_map_of_mem aI)).dw
theorem OO(h:Has (ff g x) w){f:cr}(aI:f∈x.dP):Has (aP 1 f.A f.bits.length (ints .i64 f.bits)) w:=aqd (h.rj (A:=x.fst) (by simp[bS.parts])) aI
theorem qo(h:Has (ff g x) w){j:Nat}{v:aV}(ax:x.cells[j]?=some v):w.cell? ⟨g,j,none⟩=some v:=(atU h).fI ax
theorem aoz(h:Has x.p1 w){b:cn}(ad:b∈x.blocks):Has b.dM w:=h.rj (List.mem_map_of_mem ad)
theorem Jm{b:cn}(h:Has b.dM w):Has (aP 3 b.A b.bO.length (b.bO.flatMap cH.row)) w:=(h.rj (A:=b.rows) (by simp)).dw
theorem atT{b:cn}(h:Has b.dM w){p:cH}(aG:p∈b.bO):Has p.dM w:=(h.rj (A:=c1 (b.bO.map cH.dM)) (by simp)).rj (List.mem_map_of_mem aG)
theorem aeq{p:cH}(h:Has p.dM w):Has (aP 1 p.A p.l.length (aA .u8 p.l)) w:=(h.rj (A:=p.sy) (by simp)).dw
theorem Cu(h:Has (ff g x) w){b:cn}(ad:b∈x.blocks):Has b.dM w:=aoz (h.rj (A:=x.p1) (by simp[bS.parts])) ad
theorem _root_.Go.a6.Has.rowAt{α:Type}{row:α→cw}{k:Nat}(ah:∀a,(row a).length=k){A:aN}{n:Nat}{l:List α}(h:Has (aP k A n (l.flatMap row)) w){i:Nat}{a:α}(aj:l[i]?=some a)(aQ:n≠0):∀j v,(row a)[j]?=some v→w.cell? ⟨ob A,ju A+i*k+j,none⟩=some v:=fun j v ax=>by
 rw[Bc];exact(h.xT aQ (DN ah aj ax)).2
theorem _root_.Go.a6.au.amO{b:cn}{p:cH}{i k:Nat}{du:List cn}(ad:du[i]?=some b)(aG:b.bO[k]?=some p)(h:au F w₀ (c1 (du.map cn.dM)::L) w):
  au F w₀ (p.sy::p.pA::b.rows::c1 ((b.bO.map cH.dM).eraseIdx k)::c1 ((du.map cn.dM).eraseIdx i)::L) w:=by
 have aa:=(h.focus (i:=i) (A:=b.dM) (by rw[jj,ad];rfl)).open_;have ab:au F w₀ (c1 (b.bO.map cH.dM)::b.rows::c1 ((du.map cn.dM).eraseIdx i)::L) w:=aa.perm (List.Perm.swap ..);have an:=(ab.focus (i:=k) (A:=p.dM) (by rw[jj,aG];rfl)).open_;have aK:au F w₀ (p.sy::p.pA::c1 ((b.bO.map cH.dM).eraseIdx k)::b.rows::c1 ((du.map cn.dM).eraseIdx i)::L) w:=an;exact aK.perm (List.Perm.cons _ (List.Perm.cons _ (List.Perm.swap ..)))
theorem _root_.Go.a6.au.aoq{b:cn}{p:cH}{i k:Nat}{du:List cn}(hi:i<du.length)(ah:k<b.bO.length)
  (h:au F w₀ (p.sy::p.pA::({b with bO:=b.bO.set k p}:cn).rows::c1 ((b.bO.map cH.dM).eraseIdx k)::c1 ((du.map cn.dM).eraseIdx i)::L) w):au F w₀ (c1 ((du.set i {b with bO:=b.bO.set k p}).map cn.dM)::L) w:=by
 have aa:au F w₀ (p.sy::p.pA::c1 ((b.bO.map cH.dM).eraseIdx k)::({b with bO:=b.bO.set k p}:cn).rows::c1 ((du.map cn.dM).eraseIdx i)::L) w:=h.perm (List.Perm.cons _ (List.Perm.cons _ (List.Perm.swap ..)));have ab:=(au.close_ [p.sy,p.pA] aa).HP (c8:=p.dM) (by simpa using ah);rw[←vj] at ab;have an:au F w₀ (({b with bO:=b.bO.set k p}:cn).rows::c1 ((b.bO.set k p).map cH.dM)::c1 ((du.map cn.dM).eraseIdx i)::L) w:=ab.perm (List.Perm.swap ..);have aK:=(au.close_ [({b with bO:=b.bO.set k p}:cn).rows,c1 ((b.bO.set k p).map cH.dM)] an).HP (c8:=({b with bO:=b.bO.set k p}:cn).dM) (by simpa using hi);rw[←vj] at aK;exact aK
theorem _root_.Go.a6.au.agj{b:cn}{i:Nat}{du:List cn}(hi:i<du.length)(h:au F w₀ (b.rows::c1 (b.bO.map cH.dM)::c1 ((du.map cn.dM).eraseIdx i)::L) w):au F w₀ (c1 ((du.set i b).map cn.dM)::L) w:=by
 have aK:=(au.close_ [b.rows,c1 (b.bO.map cH.dM)] h).HP (c8:=b.dM) (by simpa using hi);rw[←vj] at aK;exact aK
end
end Go.Proofs.YtcgjepodnfjggaaGreatDoor
end
section
namespace Go.Proofs.YtcgjepodnfjggaaGreatDoor
open Go Go.a6 Go.cv
set_option maxRecDepth 100000
abbrev G5(P:a8)(f:dn)(args:cw)(w:ao)(E:ae):Prop:=
 fh P f args w (X:=aN×Nat) (fun q=>.slice q.1 E.length q.2) (fun q=>E.length≤q.2) (fun q=>[own 5 1 q.1 E.length q.2 (aA .u8 E)])
theorem KU{a:ae}{i:Nat}(h:i<a.length):(aA .u8 a)[i]?=some (.int .u8 (a.getD i 0:Nat)):=Ez h
theorem IU{a:ae}(h:∀x∈a,x<256)(j:Nat):a.getD j 0<256:=by
 rw[eM];by_cases ax:j<a.length
 ·rw[eF ax];exact h _ (sN ax)
 ·rw[iq (by omega)];decide
theorem T0(l:ae)(k v:Nat):aA .u8 (l.set k v)=(aA .u8 l).set k (.int .u8 (v:Nat)):=by simp[aA,List.map_set]
theorem _root_.Go.a6.Has.gK{w:ao}{sz n:Nat}{A:aN}{vs ru:cw}(h:Has (aP sz A n vs) w)(he:vs=ru):Has (aP sz A n ru) w:=by rw[←he];exact h
theorem Nx(A:aN)(n c:Nat)(p:ae)(w:ao)(aj:Has (aP 1 A n (aA .u8 p)) w)(aQ:n≤1000000):G5 Tryz.prog 33 [.slice A n c] w p:=by
 have eA:=kc aj;subst eA;refine b8 Tryz.func33 I Tryz.ntmps33 I<|J.aw 1 I<|ak I I<|U.next<|J.seq<|J.aw 2 I<|ac I I<|Wi I I I<|U.next ?_;refine J.cond I (fun ag=>?_) (fun ag=>?_)
 ·have iu:p=[]:=by
   cases A with
   |none=>
    refine kS (m8 fun h=>?_);have:=aj.yV h;cases this
   |some a=>cases ag
  exact J.aw 1 I<|ak I I<|U.next<|J.ret<|al.ret Tryz.results33 I (fun w hw=>⟨(none,0),by rw[iu];rfl,by rw[iu];exact cq _,by rw[iu];exact hw.iB _ 1⟩)
 ·exact J.skip<|al.code<|J.aw 4 I<|Yg I aJ<|fun g0=>U.pre (fun _ h=>h.XN (q:=0) (sz:=1) I)<|ac I I<|ma 0 I I I I (ys:=aA .u8 p) (fun w hw=>hw.a7 aj) (mz _ _) I (by omega) (by unfold maxLen;omega) (by omega) (fun _ _ _ _=>trivial)<|fun bw c2 cR=>ak rfl rfl<|U.next<|J.ret<|al.ret Tryz.results33 rfl (fun w hw=>⟨(bw,c2),by rw[iO];rfl,by omega,by rw[iO] at hw;exact hw⟩)
theorem ahT(A:aN)(n c:Nat)(p:b3)(w:ao)(aj:Has (aP 1 A n (ints .i64 p)) w)(aQ:n≤1000000):fh Tryz.prog 111 [.slice A n c] w (X:=aN×Nat) (fun q=>.slice q.1 p.length q.2) (fun q=>p.length≤q.2) (fun q=>[own 3 1 q.1 p.length q.2 (ints .i64 p)]):=by
 have eA:=qB aj;subst eA;refine b8 Tryz.func111 I Tryz.ntmps111 I<|J.aw 1 I<|ak I I<|U.next<|J.seq<|J.aw 2 I<|ac I I<|Wi I I I<|U.next ?_;refine J.cond I (fun ag=>?_) (fun ag=>?_)
 ·have iu:p=[]:=by
   cases A with
   |none=>
    refine kS (m8 fun h=>?_);have:=aj.yV h;cases this
   |some a=>cases ag
  exact J.aw 1 I<|ak I I<|U.next<|J.ret<|al.ret Tryz.results111 I (fun w hw=>⟨(none,0),by rw[iu];rfl,by rw[iu];exact cq _,by rw[iu];exact hw.iB _ 1⟩)
 ·exact J.skip<|al.code<|J.aw 4 I<|Yg I aJ<|fun g0=>U.pre (fun _ h=>h.XN (q:=0) (sz:=1) I)<|ac I I<|ma 0 I I I I (ys:=ints .i64 p) (fun w hw=>hw.a7 aj) (Xu _ _) I (by omega) (by unfold maxLen;omega) (by omega) (fun _ _ _ _=>trivial)<|fun bw c2 cR=>ak rfl rfl<|U.next<|J.ret<|al.ret Tryz.results111 rfl (fun w hw=>⟨(bw,c2),by rw[iO];rfl,by omega,by rw[iO] at hw;exact hw⟩)
theorem L8{x:Nat}(af:x<2^32):gX .and .u64 (x:Nat) 4294967295=(x:Nat):=by
 show IntKind.u64.wrap ((BitVec.ofInt 64 (x:Int)&&&BitVec.ofInt 64 ((4294967295:Nat):Int)).toNat:Nat)=_;rw[zP,aa8 (by omega),aa8 (by omega),show(4294967295:Nat)=2^32- 1 by decide,Nw,ll af];exact y6 (by omega)
theorem DY{x:Nat}(af:x<2^32):((x:Nat):Int).fdiv (2^(min (32:Int).toNat IntKind.u64.bits))=((0:Nat):Int):=by
 have:=J1 (x:=x) (k:=32) (by omega);rw[jp,BC af] at this;exact this
theorem amf(y:Nat)(w:ao)(aF:y<2^32):cC Tryz.prog 147 [.int .u64 ((1:Nat):Int),.int .u64 ((y:Nat):Int)] w (two (.int .u64 ((0:Nat):Int)) (.int .u64 ((y:Nat):Int))):=by
 exact b8 Tryz.func147 I Tryz.ntmps147 I<|J.aw 2 I<|ak I I<|ak I I<|U.bl 3 I<|ac I I<|dY I I I I (r:=((1:Nat):Int)) (L8 (by omega))<|ak I I<|U.bl 3 I<|ac I I<|iw I I I (by omega) (r:=((0:Nat):Int)) (DY (by omega))<|ak I I<|U.bl 3 I<|ac I I<|dY I I I I (r:=((y:Nat):Int)) (L8 (by omega))<|ak I I<|U.bl 3 I<|ac I I<|iw I I I (by omega) (r:=((0:Nat):Int)) (DY (by omega))<|ak I I<|U.bl 4 I<|ac I I<|ac I I<|jE I I I (r:=((y:Nat):Int)) (by first|(rw[show((1:Nat):Int)*((y:Nat):Int)=((y:Nat):Int) by omega];exact y6 (by omega))|(rw[show((0:Nat):Int)*((y:Nat):Int)=((0:Nat):Int) by omega];rfl)|rfl)<|ak rfl rfl<|U.bl 7 rfl<|ac rfl rfl<|ac rfl rfl<|jE rfl rfl rfl (r:=((0:Nat):Int)) (by first|(rw[show((1:Nat):Int)*((y:Nat):Int)=((y:Nat):Int) by omega];exact y6 (by omega))|(rw[show((0:Nat):Int)*((y:Nat):Int)=((0:Nat):Int) by omega];rfl)|rfl)<|ac rfl rfl<|iw rfl rfl rfl (by omega) (r:=((0:Nat):Int)) (DY (by omega))<|b1 rfl rfl rfl (r:=((0:Nat):Int)) rfl<|ak rfl rfl<|U.bl 3 rfl<|ac rfl rfl<|dY rfl rfl rfl rfl (r:=((0:Nat):Int)) (L8 (by omega))<|ak rfl rfl<|U.bl 3 rfl<|ac rfl rfl<|iw rfl rfl rfl (by omega) (r:=((0:Nat):Int)) (DY (by omega))<|ak rfl rfl<|U.bl 6 rfl<|ac rfl rfl<|ac rfl rfl<|ac rfl rfl<|jE rfl rfl rfl (r:=((0:Nat):Int)) (by first|(rw[show((1:Nat):Int)*((y:Nat):Int)=((y:Nat):Int) by omega];exact y6 (by omega))|(rw[show((0:Nat):Int)*((y:Nat):Int)=((0:Nat):Int) by omega];rfl)|rfl)<|b1 rfl rfl rfl (r:=((0:Nat):Int)) rfl<|ak rfl rfl<|U.bl 9 rfl<|ac rfl rfl<|ac rfl rfl<|jE rfl rfl rfl (r:=((0:Nat):Int)) (by first|(rw[show((1:Nat):Int)*((y:Nat):Int)=((y:Nat):Int) by omega];exact y6 (by omega))|(rw[show((0:Nat):Int)*((y:Nat):Int)=((0:Nat):Int) by omega];rfl)|rfl)<|ac rfl rfl<|b1 rfl rfl rfl (r:=((0:Nat):Int)) rfl<|ac rfl rfl<|iw rfl rfl rfl (by omega) (r:=((0:Nat):Int)) (DY (by omega))<|b1 rfl rfl rfl (r:=((0:Nat):Int)) rfl<|ak rfl rfl<|U.bl 4 rfl<|ac rfl rfl<|ac rfl rfl<|jE rfl rfl rfl (r:=((y:Nat):Int)) (by first|(rw[show((1:Nat):Int)*((y:Nat):Int)=((y:Nat):Int) by omega];exact y6 (by omega))|(rw[show((0:Nat):Int)*((y:Nat):Int)=((0:Nat):Int) by omega];rfl)|rfl)<|ak rfl rfl<|U.next<|J.ret<|al.ret Tryz.results147 rfl (fun w hw=>⟨rfl,hw.nothing⟩)
theorem anZ(y:Nat)(w:ao)(aF:y<2^32):cC Tryz.prog 110 [.int .u64 ((1:Nat):Int),.int .u64 ((y:Nat):Int)] w (two (.int .u64 ((0:Nat):Int)) (.int .u64 ((y:Nat):Int))):=by
 exact b8 Tryz.func110 I Tryz.ntmps110 I<|J.aw 2 I<|ak I I<|ak I I<|U.next<|J.seq<|J.dy I<|J.skip<|al.code<|J.aw 8 I<|ac I I<|ac I I<|bJ I I I I (fun w hw=>amf y w aF) aJ<|ac I I<|cB I I I<|cB I I I<|ak I I<|ak I I<|U.bl 4 I<|ac I I<|ac I I<|ak I I<|ak I I<|U.next<|J.ret<|al.ret Tryz.results110 I (fun w hw=>⟨I,hw.nothing⟩)
theorem aqk{v:aV}{n k:Nat}(z:aV)(aB:k≤n)(a b:Nat)(aj:a=k)(ad:b=min k (n- k)):((List.replicate k v++List.replicate (n- k) z).take a++(List.replicate k v).take b++(List.replicate k v++List.replicate (n- k) z).drop (a+b))=List.replicate (k+min k (n- k)) v++List.replicate (n- (k+min k (n- k))) z:=by
 subst aj ad;have bu:(List.replicate a v++List.replicate (n- a) z).take a=List.replicate a v:=Ab (by simp);have bD:(List.replicate a v++List.replicate (n- a) z).drop (a+min a (n- a))=List.replicate (n- (a+min a (n- a))) z:=by
  rw[List.drop_append,BS (by simp),uI,jI,WV];congr 1;omega
 rw[bu,bD,List.take_replicate,kx (Nat.min_le_left _ _),List.replicate_append_replicate]
theorem al1(A:aN)(c v q:Nat)(w:ao)(aj:Has (aP 1 A 1 (aA .u8 [v])) w)(pX:1≤q)(aM:q≤4096):G5 Tryz.prog 65 [.slice A 1 c,.int .i64 (q:Nat)] w (List.replicate q v):=by
 refine b8 Tryz.func65 I Tryz.ntmps65 I<|J.aw 1 I<|ak I I<|U.next<|J.seq<|J.aw 2 I<|ac I I<|cQ I I I (df (by omega))<|U.next<|J.dy I<|J.skip<|al.code<|J.aw 11 I<|ac I I<|cf I I<|gW I I (r:=((1:Nat):Int)) I<|ac I I<|gW I I (r:=((q:Nat):Int)) (y6 (by omega))<|bJ I I I I (fun w hw=>anZ q w (by omega)) aJ<|ac I I<|cB I I I<|cB I I I<|ak I I<|ak I I<|U.next<|J.seq<|J.aw 6 I<|ac I I<|fD I I I (df (by omega))<|ac I I<|ac I I<|fD I I I (df (by omega))<|ef I I I<|U.next<|J.dy I<|J.skip<|al.code<|J.aw 4 I<|ac I I<|gW I I (r:=((q:Nat):Int)) (bm (by omega))<|lP q I I I I I (by omega) aJ<|fun g=>ak I I<|U.bl 4 I<|ac I I<|ac I I ?_;refine(Fm (off:=0) 0 I I I I (fun _=>I) (fun w hw=>hw.a7 aj) (mz _ _) (by simp) aJ ?_);refine ak I I<|U.next<|J.seq<|J.block ?_;refine J.loop (G:=Nat) (fun k=>[(7,.slice (some ⟨g,0,none⟩) q q),(8,.int .i64 ((k:Nat):Int))]) (fun k=>bF w [aE g 5 (List.replicate k (Value.int .u8 ((v:Nat):Int))++List.replicate (q- k) (Value.int .u8 0)).toArray]) (fun k=>1≤k∧k≤q) (fun k=>q- k) 1 ⟨I,by rw[show min 1 q=1 by omega];rfl,trivial⟩ (fun _ h=>by
  have e:min 1 q=1:=by omega
  rw[e] at h;have bD:(List.replicate q (Value.int .u8 0)).toArray.toList.take 0++(aA .u8 [v]).take 1++(List.replicate q (Value.int .u8 0)).toArray.toList.drop (0+1)=List.replicate 1 (Value.int .u8 ((v:Nat):Int))++List.replicate (q- 1) (Value.int .u8 0):=by simp[aA]
  rw[bD] at h;exact h) ⟨cq _,pX⟩ ?_
 rintro k ⟨ka,Ti⟩;refine J.seq<|J.aw 4 I<|ac I I<|ac I I<|cf I I<|cQ I I I I<|U.next ?_;refine J.test I (fun ag=>?_) (fun ag=>?_)
 ·have nC:k<q:=by omega
  refine J.skip<|al.code<|J.block<|J.dQ (bW [0,1,2,3,4,5,6] (cj [7] (bW [8,9] .done))) (fun _=>True) mixed (by kernel_rfl) (fun _ h=>h.drew) aJ<|ac I I<|ac I I<|ac I I<|B3 k I I I I (by omega)<|ac I I<|ac I I<|oJ k I I I I (by omega) ?_;refine(Fm 0 (off:=k) (ys:=List.replicate k (Value.int .u8 ((v:Nat):Int))) I I I I (fun _=>by unfold gw;rw[az (by omega),gv,lB,dJ,iO]) (fun w hw=>by
   have aa:=(hw.has (i:=0) rfl).kI (sz:=1) (m:=q) (by simp;omega);have ab:=aa.K2 (lo:=0) (hi:=k) (c:=q) (dg _) Ti (cq _);rw[Zj,jc,nk,dJ,IB] at ab;refine Has.gK ab ?_;exact Ab jI) (by rw[lf];intro x af;rw[JV af];rfl) (by simp) aJ ?_)
  refine b1 I I I (r:=((k+min k (q- k):Nat):Int)) (by rw[show((k:Nat):Int)+((min k (q- k):Nat):Int)=((k+min k (q- k):Nat):Int) by omega];exact bm (by omega))<|ak I I<|U.end_<|al.aE ?_;exact al.back (k+min k (q- k)) ⟨I,I,trivial⟩ (fun _ h=>by
   have e:=aqk (v:=Value.int .u8 ((v:Nat):Int)) (n:=q) (Value.int .u8 0) Ti k _ rfl rfl;simp only[wD] at h;rw[e] at h;exact h) ⟨by omega,by omega⟩ (by omega)
 ·obtain rfl:k=q:=by omega
  refine J.exit I<|al.code<|J.aw 2 I<|ac I I<|ak I I<|U.next<|J.ret ?_;exact al.ret Tryz.results65 I (fun w hw=>⟨(some ⟨g,0,none⟩,k),by rw[jI];rfl,by rw[jI];exact cq _,by
   have aa:=hw.FK (q:=0) (m:=k) (c:=k) (sz:=1) rfl (by simp) (cq _) (by unfold maxLen;omega);rw[dJ,pK (by simp),rL,N2,nK] at aa;rw[jI,show aA .u8 (List.replicate k v)=List.replicate k (.int .u8 ((v:Nat):Int)) from DL];exact aa⟩)
theorem Xa(q:Nat)(w:ao)(pX:1≤q)(aM:q≤4096):G5 Tryz.prog 27 [.int .i64 (q:Nat)] w (List.replicate q 255):=by
 exact b8 Tryz.func27 I Tryz.ntmps27 I<|J.aw 1 I<|ak I I<|U.bl 4 I<|ja I I (cells:= #[.int .u8 255]) (by kernel_rfl) I aJ<|fun g=>ac I I<|dh I I I I (fun w hw=>al1 (some ⟨g,0,none⟩) 1 255 q w (Has.gK ((hw.has (i:=0) I).kI (m:=1) I) I) pX aM) aJ<|fun z aL=>ak I I<|U.next<|J.ret<|al.ret Tryz.results27 I (fun w hw=>⟨z,I,aL,hw.pick [0] I⟩)
def cn.hj:cn:=⟨none,0,[],0,false⟩
def bS.I9(x:bS)(b:Int):cn:=x.blocks.getD b.toNat cn.hj
def s7(x:bS)(b p:Int):aN:=if x.abs.j3 b p=true then some ⟨ob (x.I9 b).A,0+p.toNat*3,none⟩ else none
theorem G4(x:bS)(i:Int):x.abs.has i=decide (0≤i∧i<(x.blocks.length:Int)):=by
 unfold c7.has bS.abs;rw[iK]
theorem I2{x:bS}{i:Nat}{bU:cn}(h:x.blocks[i]?=some bU):x.abs.blocks[i]?=some bU.abs:=by
 show(x.blocks.map cn.abs)[i]?=_;rw[jj,h];rfl
theorem acK{x:bS}(af:x.abs.Ok){i:Nat}{bU:cn}(h:x.blocks[i]?=some bU):(bU.bO.length:Int)=x.bO:=by
 have:=(af.bZ _ (iF (I2 h))).1;unfold cn.abs at this;rw[iK] at this;exact this
theorem MI{x:bS}(af:x.abs.Ok){b p:Int}(h:x.abs.j3 b p=true):∃(i k:Nat) (bU:cn) (bZ:cH),b=(i:Nat)∧p=(k:Nat)∧x.blocks[i]?=some bU∧bU.bO[k]?=some bZ∧x.I9 b=bU:=by
 unfold c7.j3 at h;rw[b7,G4] at h;have aa:=gF h.1;have ab:0≤p∧p<x.bO:=gF h.2;obtain⟨i,rfl⟩:=xX aa.1;obtain⟨k,rfl⟩:=xX ab.1;have hi:i<x.blocks.length:=by omega
 have ad:=eF hi;have aG:=acK af ad;have ah:k<(x.blocks[i]).bO.length:=by omega
 refine⟨i,k,_,_,I,I,ad,eF ah,?_⟩;unfold bS.I9;rw[eM,jK,ad,kg]
theorem Wl{E sz m c:Nat}{A:aN}{xs:cw}{w:ao}(h:Has (own E sz A m c xs) w)(hm:m≠0):ju A=0:=abt (h.ms.1 hm)
structure vY(A:aN)(l:List cr)(w:ao):Prop where
 rows:Has (aP 5 A l.length (l.flatMap cr.row)) w
 bits:∀f∈l,Has (aP 1 f.A f.bits.length (ints .i64 f.bits)) w
 lens:∀f∈l,f.bits.length≤1000000
theorem vY.sJ{A:aN}{l:List cr}{w ar:ao}(h:vY A l w)(hw:Fr (oj w) w ar):vY A l ar:=⟨h.rows.sJ hw,fun f aI=>(h.bits f aI).sJ hw,h.lens⟩
def bH(cZ:List cr)(i:Nat):cr:=cZ.getD i cr.hj
theorem vp{cZ:List cr}{i:Nat}(h:i<cZ.length):cZ[i]?=some (bH cZ i):=by
 unfold bH;rw[eM,eF h,kg]
theorem O3{cZ:List cr}{i:Nat}(h:i<cZ.length):bH cZ i∈cZ:=List.mem_of_getElem? (vp h)
theorem ar5(A:aN)(c:Nat)(l:List cr)(w:ao)(bc:vY A l w)(aQ:l.length≤1000):fh Tryz.prog 66 [.slice A l.length c] w (X:=wg) (fun y=>.slice y.A y.l.length y.c) (fun y=>y.l.map cr.abs=l.map cr.abs) (fun y=>[y.own,y.star]):=by
 refine b8 Tryz.func66 I Tryz.ntmps66 I<|J.aw 1 I<|ak I I<|U.bl 1 I<|ak I I<|U.next<|J.seq<|J.aw 3 I<|ac I I<|cf I I<|ac I I<|U.next<|J.block<|J.loop (G:=Nat×wg) (fun q=>[(3,.slice q.2.A q.2.l.length q.2.c),(6,.slice A l.length c),(7,.int .i64 (l.length:Nat)),(8,.int .i64 (q.1:Nat))]) (fun q=>bF w [q.2.own,q.2.star]) (fun q=>q.1≤l.length∧q.2.l.map cr.abs=(l.take q.1).map cr.abs) (fun q=>l.length- q.1) (0,⟨none,0,[]⟩) ⟨I,I,I,I,trivial⟩ (fun _ h=>(h.iB 43 5).Ka.pick [1,0] I) ⟨dg _,I⟩ ?_;rintro⟨i,y⟩ ⟨hi,aF⟩;simp only at hi aF;dsimp only;have rW:y.l.length=i:=by have:=ql List.length aF;simpa[kx hi] using this
 refine J.aw 1 I<|cQ I I I I<|U.next<|J.seq ?_;refine J.test I (fun ag=>?_) (fun ag=>?_)
 ·have gG:i<l.length:=by omega
  have bg:=vp gG;have hm:=O3 gG;refine J.skip ?_;refine al.code ?_;refine J.seq ?_;refine J.block ?_;refine J.aw 4 I ?_;refine fH i (fun w hw=>hw.a7 bc.rows) I I I I gG ?_;refine pj (cs:=(bH l i).row) I I I (fun w hw=>(hw.a7 bc.rows).rowAt Dz bg (by omega)) ?_;refine gg I aJ (fun BK=>?_);refine fE 0 I I (by kernel_rfl) I I I I aJ ?_;refine U.bl 5 I ?_;refine bd I I ?_;refine cm 0 I I I (v:=.slice (bH l i).A (bH l i).bits.length (bH l i).c) I ?_;refine dh I I I I (fun w hw=>ahT (bH l i).A (bH l i).bits.length (bH l i).c (bH l i).bits w (hw.a7 (bc.bits _ hm)) (bc.lens _ hm)) aJ (fun z aL=>?_);refine bd I I ?_;refine eh 1 I I I I I (by show 4<5;decide) aJ ?_;refine U.next ?_;refine J.rg 5 I ?_;refine ac I I ?_;refine ie 1 I I I ?_;refine ja I I (cells:= #[.int .i64 (⟨(bH l i).op,(bH l i).kind,(bH l i).level,(bH l i).n,z.1,z.2,(bH l i).bits⟩:cr).op,.int .i64 (⟨(bH l i).op,(bH l i).kind,(bH l i).level,(bH l i).n,z.1,z.2,(bH l i).bits⟩:cr).kind,.int .i64 (⟨(bH l i).op,(bH l i).kind,(bH l i).level,(bH l i).n,z.1,z.2,(bH l i).bits⟩:cr).level,.int .i64 (⟨(bH l i).op,(bH l i).kind,(bH l i).level,(bH l i).n,z.1,z.2,(bH l i).bits⟩:cr).n,.slice (⟨(bH l i).op,(bH l i).kind,(bH l i).level,(bH l i).n,z.1,z.2,(bH l i).bits⟩:cr).A (⟨(bH l i).op,(bH l i).kind,(bH l i).level,(bH l i).n,z.1,z.2,(bH l i).bits⟩:cr).bits.length (⟨(bH l i).op,(bH l i).kind,(bH l i).level,(bH l i).n,z.1,z.2,(bH l i).bits⟩:cr).c]) (by kernel_rfl) I aJ (fun iv=>?_);refine ma 3 I I I I (ys:=(⟨(bH l i).op,(bH l i).kind,(bH l i).level,(bH l i).n,z.1,z.2,(bH l i).bits⟩:cr).row) (fun w hw=>Has.gK ((hw.has (i:=0) I).kI (m:=1) I) I) I I (by omega) (by unfold maxLen;omega) (by omega) (fun _ _ _ _=>trivial) (fun bw c2 cR=>?_);refine ak I I ?_;refine U.end_ ?_;refine al.aE ?_;refine al.code ?_;refine J.rg 2 I ?_;refine b1 I I I (r:=((i+1:Nat):Int)) (bm (by omega)) ?_;refine ac I I ?_;refine U.end_ ?_;exact al.back (i+1,⟨bw,c2,y.l++[(⟨(bH l i).op,(bH l i).kind,(bH l i).level,(bH l i).n,z.1,z.2,(bH l i).bits⟩:cr)]⟩) ⟨(by show some (Value.slice bw (y.l.length+1) c2)=some (.slice bw (y.l++[(⟨(bH l i).op,(bH l i).kind,(bH l i).level,(bH l i).n,z.1,z.2,(bH l i).bits⟩:cr)]).length c2);rw[ee];rfl),rfl,rfl,rfl,trivial⟩ (fun _ h=>by
   have aa:=(h.pick [1,3,2] rfl).adD;have bu:(y.l++[(⟨(bH l i).op,(bH l i).kind,(bH l i).level,(bH l i).n,z.1,z.2,(bH l i).bits⟩:cr)]).length=y.l.length+1:=by rw[ee];rfl
   have bD:(y.l++[(⟨(bH l i).op,(bH l i).kind,(bH l i).level,(bH l i).n,z.1,z.2,(bH l i).bits⟩:cr)]).flatMap cr.row=y.l.flatMap cr.row++(⟨(bH l i).op,(bH l i).kind,(bH l i).level,(bH l i).n,z.1,z.2,(bH l i).bits⟩:cr).row:=by rw[Ea];rfl
   have dl:(y.l++[(⟨(bH l i).op,(bH l i).kind,(bH l i).level,(bH l i).n,z.1,z.2,(bH l i).bits⟩:cr)]).map cr.dM=y.l.map cr.dM++[(⟨(bH l i).op,(bH l i).kind,(bH l i).level,(bH l i).n,z.1,z.2,(bH l i).bits⟩:cr).dM]:=n3;simp only[wg.own,wg.star,bu,bD,dl];exact aa.pick [1,0] I) ⟨by simp only;omega,by
   simp only;rw[pN,bg,n3,n3,aF];rfl⟩ (by simp only;omega)
 ·obtain rfl:i=l.length:=by omega
  rw[m4] at aF;refine J.exit I<|al.code<|J.aw 2 I<|ac I I<|ak I I<|U.next<|J.ret ?_;exact al.ret Tryz.results66 I (fun w hw=>⟨y,I,aF,hw⟩)
theorem X9(g:Nat)(x:bS)(i:Int)(w:ao)(ag:Has (ff g x) w):cC Tryz.prog 28 [.pointer (some ⟨g,0,none⟩),.int .i64 i] w (.bool (x.abs.has i)):=by
 refine b8 Tryz.func28 I Tryz.ntmps28 I<|J.aw 1 I<|ak I I<|U.bl 12 I<|ac I I<|jz I I I I<|ac I I ?_;refine U.bool 7 I (fun ad=>?_) (fun ad=>?_)
 ·have aa:=gF ad;exact ac I I<|ac I I<|bI I I<|bd I I<|c5 I I (v:=.slice x.A x.blocks.length x.c) (fun _ hw=>qo (hw.a7 ag) I)<|cf I I<|cQ I I I I<|fe I I I<|ak I I<|U.next<|J.ret<|al.ret Tryz.results28 I (fun w hw=>⟨by rw[G4];simp only[aa,true_and];rfl,hw.nothing⟩)
 ·have aa:=jG ad;exact U.skip I<|U.skip I<|U.skip I<|U.skip I<|U.skip I<|U.skip I<|U.skip I<|ef I I I<|ak I I<|U.next<|J.ret<|al.ret Tryz.results28 I (fun w hw=>⟨by rw[G4];simp only[aa,false_and,decide_false];rfl,hw.nothing⟩)
theorem YB(g:Nat)(x:bS)(af:x.abs.Ok)(b p:Int)(w:ao)(ag:Has (ff g x) w):cC Tryz.prog 30 [.pointer (some ⟨g,0,none⟩),.agg #[.int .i64 b,.int .i64 p]] w (.pointer (s7 x b p)):=by
 refine b8 Tryz.func30 I Tryz.ntmps30 I<|J.aw 2 I<|fx I I aJ<|fun lg=>ak I I<|U.next<|J.seq<|J.seq<|J.dQ (bW [0,1,2] (cj [3] (bW [4,5,6,7,8,9,10,11,12,13,14,15,16,17,18] .done))) (bF w [aE lg 38 #[.int .i64 b,.int .i64 p]]) mixed (by kernel_rfl) (fun _ h=>h.drew) (fun _ h=>h)<|ac I I<|bd I I<|dc I I (v:=.int .i64 b) (fun _ hw=>hw.cP (i:=0) I I)<|bJ I I I I (fun w hw=>X9 g x b w (hw.a7 ag)) (fun _ h=>h)<|ls I I<|ac I I ?_;refine U.bool 10 I (fun ad=>?_) (fun ad=>?_)
 ·have aa:x.abs.has b=false:=by simpa using ad
  exact U.skip I<|U.skip I<|U.skip I<|fe I I I<|ac I I<|U.skip I<|U.skip I<|U.skip I<|U.skip I<|U.skip I<|U.skip I<|U.skip I<|fe I I I<|U.next<|J.hH I<|J.aw 1 I<|ak I I<|U.next<|J.ret<|al.ret Tryz.results30 I (fun w hw=>⟨by unfold s7;rw[az (by unfold c7.j3;rw[aa];simp)];rfl,hw.nothing⟩)
 ·have aa:x.abs.has b=true:=by simpa using ad
  refine bd I I<|dc I I (v:=.int .i64 p) (fun _ hw=>hw.cP (i:=0) I I)<|cQ I I I I<|ef I I I<|ac I I ?_;refine U.bool 15 I (fun ad=>?_) (fun ad=>?_)
  ·have ab:=gF ad;exact U.skip I<|U.skip I<|U.skip I<|U.skip I<|U.skip I<|U.skip I<|U.skip I<|fe I I I<|U.next<|J.hH I<|J.aw 1 I<|ak I I<|U.next<|J.ret<|al.ret Tryz.results30 I (fun w hw=>⟨by unfold s7;rw[az (by unfold c7.j3;rw[aa,df (show ¬(0≤p∧p<x.abs.bO) by omega)];simp)];rfl,hw.nothing⟩)
  ·have ab:=jG ad;refine bd I I<|dc I I (v:=.int .i64 p) (fun _ hw=>hw.cP (i:=0) I I)<|ac I I<|bI I I<|bd I I<|dc I I (v:=.int .i64 x.bO) (fun _ hw=>qo (hw.a7 ag) I)<|jz I I I I<|ef I I I<|U.next ?_;refine J.test I (fun an=>?_) (fun an=>?_)
   ·exact J.aw 1 I<|ak I I<|U.next<|J.ret<|al.ret Tryz.results30 I (fun w hw=>⟨by unfold s7;rw[az (by unfold c7.j3;rw[aa,df (show ¬(0≤p∧p<x.abs.bO) from fun h=>absurd (show p<x.bO from h.2) (by omega))];simp)];rfl,hw.nothing⟩)
   ·refine J.skip<|al.code<|J.seq ?_;have ky:x.abs.j3 b p=true:=by
     unfold c7.j3;rw[aa,mU];exact ek (show 0≤p∧p<x.bO by omega)
    obtain⟨i,k,bU,bZ,oC,p5,ij,kV,AG⟩:=MI af ky;have gG:=(j6.1 ij).1;have nC:=(j6.1 kV).1;have oQ:=iF ij;have Qf:ju bU.A=0:=Wl ((Cu ag oQ).rj (A:=bU.rows) (by simp)) (by omega);refine J.dQ (bW [0,1,2,3,4,5,6,7,8,9,10,11,12] .done) (bF w [aE lg 38 #[.int .i64 b,.int .i64 p]]) mixed (by kernel_rfl) (fun _ h=>h.drew) (fun _ h=>h)<|ac I I<|bI I I<|bd I I<|dc I I (v:=.slice x.A x.blocks.length x.c) (fun _ hw=>qo (hw.a7 ag) I)<|bd I I<|dc I I (v:=.int .i64 b) (fun _ hw=>hw.cP (i:=0) I I)<|fH i (fun w hw=>HA (hw.a7 ag)) I I I oC gG<|bd I I<|dc I I (v:=.slice bU.A bU.bO.length bU.c) (fun _ hw=>(HA (hw.a7 ag)).rowAt tN ij (by omega) 0 _ I)<|bd I I<|dc I I (v:=.int .i64 p) (fun _ hw=>hw.cP (i:=0) I I)<|fH k (fun w hw=>Jm (Cu (hw.a7 ag) oQ)) I I I p5 nC ?_;rw[Qf];exact ak I I<|U.next<|J.ret<|al.ret Tryz.results30 I (fun w hw=>⟨by unfold s7;rw[aD ky,AG,p5,jK];rfl,hw.nothing⟩)
theorem F4(g:Nat)(off is sized:Bool)(e:Nat→Addr)(w:ao)(vx:w.cell? ⟨g,7,none⟩=some (.bool off))(vd:gI e w 4)(iy:gI e w 11)(zS:gI e w 2):cC Tryz.prog 31 [.pointer (some ⟨g,0,none⟩),.bool is,.bool sized] w (u0 e (B1 off is sized)):=by
 refine b8 Tryz.func31 I Tryz.ntmps31 I<|J.aw 1 I<|ak I I<|U.next<|J.seq<|J.block<|J.aw 5 I<|ac I I<|bI I I<|bd I I<|c5 I I (v:=.bool off) (fun _ hw=>hw.cell vx)<|ak I I<|U.next ?_;refine J.cond I (fun aa=>?_) (fun aa=>?_)
 ·exact J.aw 2 I<|c5 I I (fun _ hw=>hw.cell vd)<|ak I I<|U.next<|J.ret<|al.ret Tryz.results31 I (fun w hw=>⟨by first|(subst aa;rfl)|(cases is<;>first|(cases ab;done)|(subst aa;rfl))|(cases is<;>cases sized<;>first|(cases ab;done)|(cases an;done)|(subst aa;rfl)),hw.nothing⟩)
 ·refine J.aw 3 I<|ac I I<|ls I I<|ak I I<|U.next ?_;refine J.cond I (fun ab=>?_) (fun ab=>?_)
  ·exact J.aw 2 I<|c5 I I (fun _ hw=>hw.cell iy)<|ak I I<|U.next<|J.ret<|al.ret Tryz.results31 I (fun w hw=>⟨by first|(subst aa;rfl)|(cases is<;>first|(cases ab;done)|(subst aa;rfl))|(cases is<;>cases sized<;>first|(cases ab;done)|(cases an;done)|(subst aa;rfl)),hw.nothing⟩)
  ·refine J.aw 3 I<|ac I I<|ls I I<|ak I I<|U.next ?_;refine J.cond I (fun an=>?_) (fun an=>?_)
   ·exact J.aw 2 I<|c5 I I (fun _ hw=>hw.cell zS)<|ak I I<|U.next<|J.ret<|al.ret Tryz.results31 I (fun w hw=>⟨by first|(subst aa;rfl)|(cases is<;>first|(cases ab;done)|(subst aa;rfl))|(cases is<;>cases sized<;>first|(cases ab;done)|(cases an;done)|(subst aa;rfl)),hw.nothing⟩)
   ·exact J.skip<|al.aE<|al.code<|J.aw 1 I<|ak I I<|U.next<|J.ret<|al.ret Tryz.results31 I (fun w hw=>⟨by first|(subst aa;rfl)|(cases is<;>first|(cases ab;done)|(subst aa;rfl))|(cases is<;>cases sized<;>first|(cases ab;done)|(cases an;done)|(subst aa;rfl)),hw.nothing⟩)
def fa(l:List cr)(k:Int):Option cr:=l.find? (fun f=>decide (f.kind=k))
theorem aq2{l:List cr}{k:Int}{i:Nat}{f:cr}(ga:∀j f,j<i→l[j]?=some f→f.kind≠k)(aI:l[i]?=some f)(ah:f.kind=k):fa l k=some f:=by
 unfold fa;rw[List.find?_eq_some_iff_getElem];have hi:=(j6.1 aI).1;refine⟨ek ah,i,hi,(j6.1 aI).2,fun j ax=>?_⟩;have:=ga j _ ax (eF (by omega));simpa using this
theorem ank{l:List cr}{k:Int}(ga:∀(j:Nat) f,l[j]?=some f→f.kind≠k):fa l k=none:=by
 unfold fa;rw[List.find?_eq_none];intro f aI;obtain⟨j,ax⟩:=Ic aI;simpa using ga j f ax
theorem ym(l:List cr)(k:Int):(fa l k).map cr.abs=p8 (l.map cr.abs) k:=by
 unfold fa p8;rw[List.find?_map];rfl
def agr(o:Option cr):aV:=two (.agg (o.getD cr.hj).row.toArray) (.bool o.isSome)
theorem Qa(A:aN)(c:Nat)(l:List cr)(kind:Int)(w:ao)(bc:Has (aP 5 A l.length (l.flatMap cr.row)) w)(aQ:l.length≤1000):cC Tryz.prog 35 [.slice A l.length c,.int .i64 kind] w (agr (fa l kind)):=by
 refine b8 Tryz.func35 I Tryz.ntmps35 I<|J.aw 2 I<|gg I aJ (fun fb=>?_);refine ak I I<|U.next<|J.seq<|J.aw 3 I<|ac I I<|cf I I<|ac I I<|U.next<|J.block<|J.loop (G:=Nat) (fun i=>[(1,.int .i64 kind),(4,.pointer (some ⟨fb,0,none⟩)),(8,.slice A l.length c),(9,.int .i64 (l.length:Nat)),(10,.int .i64 (i:Nat))]) (fun _=>bF w [aE fb 43 #[.int .i64 0,.int .i64 0,.int .i64 0,.int .i64 0,.slice none 0 0]]) (fun i=>i≤l.length∧∀j f,j<i→l[j]?=some f→f.kind≠kind) (fun i=>l.length- i) 0 ⟨I,I,I,I,I,trivial⟩ (fun _ h=>h) ⟨dg _,fun j f h=>by omega⟩ ?_;rintro i ⟨hi,ga⟩;refine J.aw 1 I<|cQ I I I I<|U.next<|J.seq ?_;refine J.test I (fun ag=>?_) (fun ag=>?_)
 ·have gG:i<l.length:=by omega
  have bg:=vp gG;refine J.skip<|al.code<|J.seq<|J.block<|J.aw 4 I<|fH i (fun w hw=>hw.a7 bc) I I I I gG<|pj (cs:=(bH l i).row) I I I (fun w hw=>(hw.a7 bc).rowAt Dz bg (by omega))<|gg I aJ<|fun awZ=>fE 0 I I (by kernel_rfl) I I I I aJ<|U.bl 4 I<|bd I I<|cm 0 I I I (v:=.int .i64 (bH l i).kind) I<|ac I I<|gy I I I I<|U.next ?_;refine J.test I (fun ag=>?_) (fun ag=>?_)
  ·have qN:=aq2 ga bg ag;exact J.aw 3 I<|ie 0 I I I<|fE 1 I I (by kernel_rfl) I I I I aJ<|ak I I<|U.next<|J.ret<|al.nu (rs:=[.cell 4 43,.tmp 5]) Tryz.results35 (fun w hw=>⟨[_,_],⟨⟨_,I,hw.nO (q:=1) I (by rfl)⟩,I,trivial⟩,by rw[qN];rfl,hw.nothing⟩)
  ·refine J.skip<|al.aE<|al.code<|J.rg 2 I<|b1 I I I (r:=((i+1:Nat):Int)) (bm (by omega))<|ac I I<|U.end_ ?_;exact al.back (i+1) ⟨I,I,I,I,I,trivial⟩ (fun _ h=>h.pick [1] I) ⟨by omega,fun j f ax aI=>by
    by_cases eK:j=i
    ·subst eK;rw[bg] at aI;injection aI with h;subst h;exact ag
    ·exact ga j f (by omega) aI⟩ (by omega)
 ·obtain rfl:i=l.length:=by omega
  have nF:=ank (fun j f ax=>ga j f (j6.1 ax).1 ax);exact J.exit I<|al.code<|J.aw 3 I<|gl I I (cells:= #[.int .i64 0,.int .i64 0,.int .i64 0,.int .i64 0,.slice none 0 0]) (by kernel_rfl)<|fE 0 I I (by kernel_rfl) I I I I aJ<|ak I I<|U.next<|J.ret<|al.nu (rs:=[.cell 4 43,.tmp 5]) Tryz.results35 (fun w hw=>⟨[_,_],⟨⟨_,I,hw.nO (q:=0) I (by rfl)⟩,I,trivial⟩,by rw[nF];rfl,hw.nothing⟩)
theorem ajl{b:ae}{l:b3}{i:Nat}(h:i<l.length):e6 b (l.take (i+1))=nJ (e6 b (l.take i)) (l.getD i 0):=by
 unfold e6;rw[pN,eF h,xZ,eM,eF h];rfl
theorem alq(b:ae)(i:Int):(nJ b i).length=b.length:=by
 unfold nJ;split
 ·rw[m9]
 ·rfl
theorem y9(b:ae):∀l:b3,(e6 b l).length=b.length:=by
 intro l;unfold e6;induction l generalizing b with
 |nil=>rfl
 |cons i l ih=>rw[rc,ih,alq]
theorem ats{b:ae}(h:∀x∈b,x<256)(i:Int):∀x∈nJ b i,x<256:=by
 intro x af;unfold nJ at af;split at af
 ·rcases u7 af with af|rfl
  ·exact h x af
  ·exact mR (n:=8) (IU h _) (MP (by decide) (fV _ (by decide)))
 ·exact h x af
theorem x6{b:ae}(h:∀x∈b,x<256)(l:b3):∀x∈e6 b l,x<256:=by
 unfold e6;induction l generalizing b with
 |nil=>exact h
 |cons i l ih=>exact ih (ats h i)
theorem ahZ{k:Nat}(ah:k<8):IntKind.u8.wrap ((1:Int)*2^(min (k:Int).toNat IntKind.u8.bits))=((2^k:Nat):Int):=by
 have h:=pG (x:=1) (k:=k) (by omega);rw[q3,ll (show 2^k<2^8 from MP (by decide) ah)] at h;exact h
theorem Kr(F:Nat→Prop)(A:aN)(c:Nat)(p:ae)(B:aN)(d:Nat)(l:b3)(w:ao)(fq:∀x∈p,x<256)(aG:p.length≤1000000)(bV:∀ar,Fr F w ar→Has (aP 1 B l.length (ints .i64 l)) ar)(bc:l.length≤1000000)(hw:au F w [own 5 1 A p.length c (aA .u8 (p))] w):s5 Tryz.prog 34 [.slice A p.length c,.slice B l.length d] F w (X:=Unit) (fun _=>oneOf []) (fun _=>True) (fun _=>[own 5 1 A p.length c (aA .u8 (e6 p l))]):=by
 refine pP Tryz.func34 I Tryz.ntmps34 I hw<|J.aw 3 I<|ac I I<|cf I I<|ac I I<|U.next<|J.block<|J.loop (G:=Nat) (fun i=>[(0,.slice A p.length c),(6,.slice B l.length d),(7,.int .i64 (l.length:Nat)),(8,.int .i64 (i:Nat))]) (fun i=>au F w [own 5 1 A p.length c (aA .u8 (e6 p (l.take i)))]) (fun i=>i≤l.length) (fun i=>l.length- i) 0 ⟨I,I,I,I,trivial⟩ (fun _ h=>h) (dg _) ?_;intro i hi;refine J.aw 1 I<|cQ I I I I<|U.next<|J.seq ?_;refine J.test I (fun ag=>?_) (fun ag=>?_)
 ·have gG:i<l.length:=by omega
  have dT:=ajl (b:=p) gG;have sS:=y9 p (l.take i);have Gu:=x6 fq (l.take i);refine J.skip<|al.code<|J.seq<|J.block<|J.aw 3 I<|fH i (fun w hw=>bV _ hw.b6) I I I I gG<|jN (fun w hw=>bV _ hw.b6) I I (by rw[dJ];exact qv gG) (by omega)<|ak I I<|U.bl 9 I<|ac I I<|jz I I I I<|ac I I ?_;refine U.bool 14 I (fun ad=>?_) (fun ad=>?_)
  ·have aa:=gF ad;refine ac I I<|ac I I<|cf I I<|jE I I I (r:=((8*p.length:Nat):Int)) (by rw[show(8:Int)*((p.length:Nat):Int)=((8*p.length:Nat):Int) by omega];exact bm (by omega))<|cQ I I I I<|fe I I I<|U.next ?_;refine J.test I (fun ab=>?_) (fun ab=>?_)
   ·obtain⟨k,ah⟩:=xX aa;have E6:k/ 8<p.length:=by omega
    have WI:k%8<8:=fV _ (by decide);have Eu:nJ (e6 p (l.take i)) (l.getD i 0)=(e6 p (l.take i)).set (k/ 8) ((e6 p (l.take i)).getD (k/ 8) 0^^^2^(k%8)):=by
     unfold nJ;rw[aD (by rw[sS];omega),ah,jK]
    exact J.dQ (bW [0,1,2,3,5,6,7] (cj [4] (bW [8,9] (cj [10] .done)))) (fun _=>True) mixed (by kernel_rfl) (fun _ h=>h.drew) aJ<|ac I I<|ac I I<|mM I I I (by omega) (r:=((k/ 8:Nat):Int)) (by rw[ah,show((k:Nat):Int).tdiv 8=((k/ 8:Nat):Int) from I];exact bm (by omega))<|gT 0 (k/ 8) I I I I I E6<|ac I I<|h4 I I I (by omega) (r:=((k%8:Nat):Int)) (by rw[ah];rfl)<|ir rfl rfl rfl (by omega) (r:=((2^(k%8):Nat):Int)) (ahZ WI)<|km 0 rfl rfl rfl (KU (by rw[sS];exact E6))<|dY I I I I (r:=(((e6 p (l.take i)).getD (k/ 8) 0^^^2^(k%8):Nat):Int)) (sA (IU Gu _) (show 2^(k%8)<2^8 from MP (by decide) WI))<|gT 0 (k/ 8) I I I I I E6<|pw 0 I I I I I E6 aJ<|U.end_<|al.aE<|al.code<|J.rg 2 I<|b1 I I I (r:=((i+1:Nat):Int)) (bm (by omega))<|ac I I<|U.end_<|al.back (i+1) ⟨I,I,I,I,trivial⟩ (fun _ h=>by rw[dT,Eu,T0];exact h) (by omega) (by omega)
   ·have Eu:nJ (e6 p (l.take i)) (l.getD i 0)=e6 p (l.take i):=by
     unfold nJ;rw[az (by rw[sS];omega)]
    exact J.skip<|al.aE<|al.code<|J.rg 2 I<|b1 I I I (r:=((i+1:Nat):Int)) (bm (by omega))<|ac I I<|U.end_<|al.back (i+1) ⟨I,I,I,I,trivial⟩ (fun _ h=>by rw[dT,Eu];exact h) (by omega) (by omega)
  ·have aa:=jG ad;have Eu:nJ (e6 p (l.take i)) (l.getD i 0)=e6 p (l.take i):=by
    unfold nJ;rw[az (by omega)]
   exact U.skip I<|U.skip I<|U.skip I<|U.skip I<|U.skip I<|ef I I I<|U.next<|J.dy I<|J.skip<|al.aE<|al.code<|J.rg 2 I<|b1 I I I (r:=((i+1:Nat):Int)) (bm (by omega))<|ac I I<|U.end_<|al.back (i+1) ⟨I,I,I,I,trivial⟩ (fun _ h=>by rw[dT,Eu];exact h) (by omega) (by omega)
 ·obtain rfl:i=l.length:=by omega
  exact J.exit I<|al.ret Tryz.results34 I (fun w hw=>⟨(),I,trivial,by rw[m4] at hw;exact hw⟩)
end Go.Proofs.YtcgjepodnfjggaaGreatDoor
end
section
namespace Go.a6
open Go
section
variable{P:a8}{ops:Array Oper}{S:ao→Prop}{K:Act→ao→Prop}{p:eR}{n:Nat}{l:List (Nat×aV)}{i:Nat}{ty dk dr:aO}{x:bf}{C:ao→Prop}{fl:Bool}
def abM:Option TypeDesc→Bool
 |some (.func _ _ _)=>true
 |_=>false
end
section
variable{P:a8}{F:Nat→Prop}{w₀ w:ao}{X Y L:List bi}{n:Nat}{aX:List fj}{l:List (Nat×aV)}
end
end Go.a6
end
