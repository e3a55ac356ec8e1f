/- The walk of the statement WholeCodes, text 6. Conditions: each theorem tells its own. -/
import Derived.Test.YtcgjepodnfjggaaGreatDoorWWholeCodesE
import Derived.Test.YtcgjepodnfjggaaGreatDoorWWholeCodesX1
import Derived.Test.YtcgjepodnfjggaaGreatDoorWWholeCodesX2
import Derived.Test.YtcgjepodnfjggaaGreatDoorWWholeCodesX3
import Derived.Test.YtcgjepodnfjggaaGreatDoorWWholeCodesX4
import Derived.Test.YtcgjepodnfjggaaGreatDoorWWholeCodesA
import Derived.Test.YtcgjepodnfjggaaGreatDoorWWholeCodesB
import Derived.Test.YtcgjepodnfjggaaGreatDoorWWholeCodesC
set_option linter.all false
section
namespace Go.Proofs.YtcgjepodnfjggaaGreatDoor
end Go.Proofs.YtcgjepodnfjggaaGreatDoor
end
section
namespace Go.Proofs.YtcgjepodnfjggaaGreatDoor
open Go Go.a6 Go.In
set_option maxRecDepth 100000
theorem iR(f:Nat)(fn:Func)(c:Code)(j:Nat)(ax:20*j≤f)(B6:f<20*j+20)(h:h2 cU (20*j) ((Tryz.prog.funcs.toList.drop (20*j)).take 20)=true)(aa:Tryz.prog.funcs[f]?=some fn)(ab:fn.body=some c):codeOk cU f fn.ntmps c=true:=by
 have ca:f- 20*j<20:=by omega
 have acw:20*j+(f- 20*j)=f:=by omega
 have k:=TC h (f- 20*j) fn (by rw[mj,aD ca,wQ,acw,BA];exact aa) c ab;rw[acw] at k;exact k
theorem alh(f:Nat)(fn:Func)(c:Code)(aa:Tryz.prog.funcs[f]?=some fn)(ab:fn.body=some c):codeOk cU f fn.ntmps c=true:=by
 have aI:f<560:=by
  have an:=aa;rw[←BA] at an;have:=(j6.1 an).1;have:=ac8;omega
 rcases(show f/ 20=0∨f/ 20=1∨f/ 20=2∨f/ 20=3∨f/ 20=4∨f/ 20=5∨f/ 20=6∨f/ 20=7∨f/ 20=8∨f/ 20=9∨f/ 20=10∨f/ 20=11∨f/ 20=12∨f/ 20=13∨f/ 20=14∨f/ 20=15∨f/ 20=16∨f/ 20=17∨f/ 20=18∨f/ 20=19∨f/ 20=20∨f/ 20=21∨f/ 20=22∨f/ 20=23∨f/ 20=24∨f/ 20=25∨f/ 20=26∨f/ 20=27 by omega) with h|h|h|h|h|h|h|h|h|h|h|h|h|h|h|h|h|h|h|h|h|h|h|h|h|h|h|h
 ·exact iR f fn c 0 (by omega) (by omega) aqS aa ab
 ·exact iR f fn c 1 (by omega) (by omega) ai7 aa ab
 ·exact iR f fn c 2 (by omega) (by omega) anr aa ab
 ·exact iR f fn c 3 (by omega) (by omega) auY aa ab
 ·exact iR f fn c 4 (by omega) (by omega) alj aa ab
 ·exact iR f fn c 5 (by omega) (by omega) arx aa ab
 ·exact iR f fn c 6 (by omega) (by omega) ao2 aa ab
 ·exact iR f fn c 7 (by omega) (by omega) ae0 aa ab
 ·exact iR f fn c 8 (by omega) (by omega) aiA aa ab
 ·exact iR f fn c 9 (by omega) (by omega) adY aa ab
 ·exact iR f fn c 10 (by omega) (by omega) au6 aa ab
 ·exact iR f fn c 11 (by omega) (by omega) anb aa ab
 ·exact iR f fn c 12 (by omega) (by omega) aoO aa ab
 ·exact iR f fn c 13 (by omega) (by omega) amH aa ab
 ·exact iR f fn c 14 (by omega) (by omega) ahO aa ab
 ·exact iR f fn c 15 (by omega) (by omega) aiM aa ab
 ·exact iR f fn c 16 (by omega) (by omega) asa aa ab
 ·exact iR f fn c 17 (by omega) (by omega) atI aa ab
 ·exact iR f fn c 18 (by omega) (by omega) aqJ aa ab
 ·exact iR f fn c 19 (by omega) (by omega) atX aa ab
 ·exact iR f fn c 20 (by omega) (by omega) afy aa ab
 ·exact iR f fn c 21 (by omega) (by omega) amP aa ab
 ·exact iR f fn c 22 (by omega) (by omega) adu aa ab
 ·exact iR f fn c 23 (by omega) (by omega) amq aa ab
 ·exact iR f fn c 24 (by omega) (by omega) adq aa ab
 ·exact iR f fn c 25 (by omega) (by omega) aeO aa ab
 ·exact iR f fn c 26 (by omega) (by omega) ad0 aa ab
 ·exact iR f fn c 27 (by omega) (by omega) ajv aa ab
theorem P4:jW cU:=fun f fn c aa ab=>alh f fn c aa ab
theorem aob:Tryz.prog.funcs.toList.all (fun fn=> !(fn.name== "runtime.NumGoroutine"))=true:=by kernel_rfl
theorem as2(f:dn)(fn:Func)(h:Tryz.prog.funcs[f]?=some fn):(fn.name== "runtime.NumGoroutine")=false:=by
 have aa:=lf.1 aob fn (by
  rw[←BA] at h;exact iF h)
 simpa using aa
noncomputable def aa9(P:a8)(t:Nat):Bool:= !B7 P t||(!P.stoodInHeld t&&(match P.underlying t with
 |some (.struct cZ)=>cZ.toList.all (fun f=> !(f.name== "_"))
 |_=>false))
theorem ass:(List.range Tryz.prog.types.size).all (aa9 Tryz.prog)=true:=by kernel_rfl
end Go.Proofs.YtcgjepodnfjggaaGreatDoor
end
section
namespace Go.Proofs.YtcgjepodnfjggaaGreatDoor
open Go Go.a6 Go.In Go.cv
set_option maxRecDepth 100000
noncomputable def Yq(c0:Nat):bi where
 ok w D:=∃x:qw,x.q.p0 11 3∧(jA c0 11 3 96 x).ok w D
 loc:=fun⟨x,aa,ab⟩ ad=>⟨x,aa,(jA c0 11 3 96 x).loc ab ad⟩
noncomputable def cW(e:Nat→Addr):dB:=⟨e,fun _ g=>Yq g⟩
theorem JB:∀g,g<18→g∈pE:=by decide+kernel
theorem akj:sl Tryz.prog:=by
 intro t bb;have ca:=(aax bb).1;have h:=lf.1 ass t (pT.2 ca);unfold aa9 at h;rw[bb] at h;simp only[K7,LV,b7] at h;obtain⟨aa,ab⟩:=h;refine⟨by simpa using aa,fun cZ qN f aI=>?_⟩;rw[qN] at ab;have an:=lf.1 ab f aI;simpa using an
theorem YO{e:Nat→Addr}{w:ao}(he:Has (lF e pE) w):iW cU.P cU.G (cW e) (oj w) w:=by
 refine⟨akj,fun g x bg=>?_,fun ar hw c ag=>(hw.a7 he).live (JB c ag),fun a b aj ad rU=>?_,mixed,as2⟩
 ·have bg:K9 g=some x:=bg;unfold K9 at bg;cases aM:Nat.blt g 18 with
  |false=>rw[aM] at bg;cases bg
  |true=>
   rw[aM,cp] at bg;obtain rfl:=er bg;refine⟨fun _ _=>by simp only[Go.In.bM],fun v ar hw=>?_⟩;have aa:=(hw.a7 he).jt (JB g (ho aM));simp only[aT];exact aa
 ·by_cases h:a=b
  ·exact h
  ·exact absurd rU (he.apart (JB a aj) (JB b ad) h)
theorem vz{X Y:ev}(h:∀f r,X.yw f r=Y.yw f r)(fn:dn)(bL:Nat):∀c,codeOk X fn bL c=codeOk Y fn bL c
 |.skip=>rfl
 |.region id ops draw=>by simp only[codeOk,h]
 |.seq a b=>by simp only[codeOk,vz h fn bL a,vz h fn bL b]
 |.cond _ a b=>by simp only[codeOk,vz h fn bL a,vz h fn bL b]
 |.block _ a=>by simp only[codeOk,vz h fn bL a]
 |.loop a=>by simp only[codeOk,vz h fn bL a]
 |.rangeFunc _ ps a b=>by simp only[codeOk,vz h fn bL a,vz h fn bL b]
 |.exit _=>rfl
 |.scope _=>rfl
 |.label _=>rfl
 |.goto _=>rfl
 |.ret=>rfl
 |.refuse _=>rfl
theorem WQ{X Y:ev}(aG:Y.P=X.P)(h:∀f r,Y.yw f r=X.yw f r)(gp:jW X):jW Y:=fun g fn c aa ab=>by
 rw[vz (X:=Y) (Y:=X) h];exact gp g fn c (by rw[←aG];exact aa) ab
theorem sL{X:ev}{d:Nat}{f:dn}{fp:List Rec}(gp:jW X):jW (Pa X d f fp):=WQ (X:=X) rfl (fun _ _=>rfl) gp
theorem kJ{X:ev}{f:dn}{l:List Rec}(h:l.all (hv X 200 f)=true):∀q∈l,hv X 200 f q=true:=List.all_eq_true.1 h
section
variable{e:Nat→Addr}{v a1:cu}{n:Nat}{w ar:ao}{F:Nat→Prop}{w₀:ao}{R:List bi}{σ:Mem}{outs:List (ai×Mem)}{x:ai}
theorem x0:∀(l:ae),bt (cW e) v (l.map lM)=aA .u8 l
 |[]=>rfl
 |x::l=>by show aT (cW e) v (lM x)::bt (cW e) v (l.map lM)=_;rw[x0 l];rfl
theorem vQ:∀(l:ae),bt (cW e) v (l.map aS)=aA .i64 l
 |[]=>rfl
 |x::l=>by show aT (cW e) v (aS x)::bt (cW e) v (l.map aS)=_;rw[vQ l];rfl
theorem E7:∀(l:ae),cA v n (l.map lM)=true
 |[]=>rfl
 |x::l=>by show(Go.In.bM v n (lM x)&&cA v n (l.map lM))=true;rw[E7 l];rfl
theorem CQ:∀(l:ae),cA v n (l.map aS)=true
 |[]=>rfl
 |x::l=>by show(Go.In.bM v n (aS x)&&cA v n (l.map aS))=true;rw[CQ l];rfl
theorem yt{E m:Nat}{q:aN×Nat}{cs:List ai}{vs:cw}{y:aV}{r:ai}(hm:ct v σ)(aB:m≠0)(ad:cA v σ.n cs=true)(br:bt (cW e) v cs=vs)
  (aH:∀g,m≤q.2→Go.In.bM (v.new σ.n g q.2) (σ.n+1) r=true) (af:∀g,q.1=some ⟨g,0,none⟩→y=aT (cW e) (v.new σ.n g q.2) r) (av:(r,σ.new (.row E 1 m cs))∈outs)
  (aq:au F w₀ (own E 1 q.1 m q.2 vs::bP Tryz.prog (cW e) v σ.h::R) ar):hL Tryz.prog (cW e) F w₀ R v σ.n outs y ar:=by
 obtain⟨aa,ab,_⟩:=(aq.has (i:=0) rfl).ms;have aM:=aa aB;rw[aM] at aq;rw[←br] at aq;exact Vw hm ad (aH _ ab) (af _ aM) av aq
theorem GI{g c:Nat}:(v.new n g c).b4 n=g∧(v.new n g c).gN n=c:=by simp[cu.new]
theorem wK{g c l:Nat}(h:l≤c):Go.In.bM (v.new n g c) (n+1) (.aP n 1 0 l)=true:=by
 simp only[Go.In.bM,b7];exact⟨ez.2 (k3 _),rV (by rw[GI.2];omega)⟩
theorem adJ{g c:Nat}:Go.In.bM (v.new n g c) (n+1) (.p n 0)=true:=by
 simp only[Go.In.bM];exact ez.2 (k3 _)
theorem xk{dG:dB}{g c l:Nat}:aT dG (v.new n g c) (.aP n 1 0 l)=.slice (some ⟨g,0,none⟩) l c:=by
 simp only[aT,GI.1,GI.2,jc,nk]
theorem aho{dG:dB}{g c:Nat}:aT dG (v.new n g c) (.p n 0)=.pointer (some ⟨g,0,none⟩):=by
 simp only[aT,GI.1]
end
noncomputable section
def QZ:lO:=fun args σ=>match args with
 |[m,.i .i64 a,.i .i64 b]=>bif ai.eqv m (aS 11) then some [(aS (ba 11 (lo 11 a) (lo 11 b)),σ)] else none
 |_=>none
def Cd(i:Nat):ae:=bif Nat.beq i 1 then[1,2,4,8,16,32,64,128,256,512,1024] else bif Nat.beq i 3 then[3,6,12,24,48,96,192,384,768,1025,1536] else[5,10,20,40,80,160,320,513,640,1026,1280]
def LS:lO:=fun args σ=>match args with
 |[m,.i .i64 (.ofNat i)]=>bif ai.eqv m (aS 11)&&(Nat.beq i 1||Nat.beq i 3||Nat.beq i 5) then some [(.aP σ.n 1 0 11,σ.new (.row 3 1 11 ((Cd i).map aS)))] else none
 |_=>none
def ME(f:dn):Option lO:=bif Nat.beq f 300 then some QZ else bif Nat.beq f 214 then some LS else none
def ny:ev:={cU with z1:=ME}
def AQ(n i a b k:Nat):Rec:=⟨[aS 11,aS i],n,.leaf,.aP (n+k) 1 0 2,n+k+1,AV [(n+k,.row 5 1 2 [lM a,lM b])]⟩
def Gg:ev:=Pa ny 200 157 [AQ 19 1 5 8 408,AQ 433 3 37 9 412,AQ 853 5 141 8 412]
def Mh:Rec:=⟨[xj],0,.leaf,.fi [.agg [aS 11,aS 3,aS 128,.aP 1276 1 0 5,aS 33],aS 0],1277,AV [(1276,.row 5 1 5 (Dh.map lM))]⟩
def CE:Rec:=⟨[aS 11,.aP 0 1 0 6],1,T.leaf.put 0 (AR gz),.fi [.aP 71 1 0 4,aS 3],72,(T.leaf.put 0 (AR gz)).put 71 (AR mv)⟩
def Bh(g:ae)(n:Nat):Rec:=⟨[.agg (g.map aS)],0,.leaf,aS n,10,.leaf⟩
end
end Go.Proofs.YtcgjepodnfjggaaGreatDoor
end
